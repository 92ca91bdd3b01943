/- Plain laws: what the plain functions answer. -/
import Derived.Test.YtjjkmepjaemceaaGreatDoorBsAb
namespace Go.Ab
def H0:Hp:=fun _=>.none
def ι0:Bf:=fun _=>.none
def Afp (P:Program) (f:FuncId):Prop:=∃fn,P.funcs[f]? = some fn/\(fn.name == "runtime.NumGoroutine")=false/\fn.body.isNone=false
def Kr (σ:Ar) (ι:Bf) (H:Hp) (args:List O) (vs:Array Value):Prop :=
 vs.size=args.length/\∀(i:Nat) (a:O) (v:Value),args[i]? = some a->vs[i]? = some v->Conc σ ι H a v
def Aw (P:Program) (f:FuncId) (args:List O) (r:O):Prop :=
 Afp P f/\∀(σ F:Ar) (W w:World) (vs:Array Value),St σ ι0 H0 F W w->Kr σ ι0 H0 args vs ->
  Calls P f vs w fun e w'=>∃v b,e = .returned v/\σ.le b/\St b ι0 H0 F W w'/\Conc b ι0 H0 r v
def O.under0 (n:Nat):O->Bool
 | .loc h _ | .mp h=>Nat.blt h n
 | .arr h _ _ _ | .el h _ _ _=>Nat.blt h n
 | .val _ | .sl _ _ | .ref _=>true
 | _=>false
def O.under1 (n:Nat):O->Bool
 | .loc h _ | .mp h=>Nat.blt h n
 | .arr h _ _ _ | .el h _ _ _=>Nat.blt h n
 | .val _ | .sl _ _ | .ref _=>true
 | .fn _ cs=>cs.all (O.under0 n)
 | _=>false
def O.under2 (n:Nat):O->Bool
 | .agg cs=>cs.all (O.under1 n)
 | x=>x.under1 n
def O.under (n:Nat):O->Bool
 | .agg cs | .fn _ cs=>cs.all (O.under1 n)
 | .tup cs=>cs.all (O.under2 n)
 | x=>x.under1 n
def Ba.under (n:Nat):Ba->Bool
 | .cells _ cs=>cs.all (O.under1 n)
 | .map _=>true
 | .rows _ _ _=>true
 | .none=>true
 | .dead=>true
def Aaw (es:Nat->Nat):O->O
 | .loc h off=>.loc (es h) off
 | .mp h=>.mp (es h)
 | .arr h k off len=>.arr (es h) k off len
 | .el h k i j=>.el (es h) k i j
 | x=>x
def Ks (es:Nat->Nat):O->O
 | .loc h off=>.loc (es h) off
 | .mp h=>.mp (es h)
 | .arr h k off len=>.arr (es h) k off len
 | .el h k i j=>.el (es h) k i j
 | .fn f cs=>.fn f (cs.map (Aaw es))
 | x=>x
def Aax (es:Nat->Nat):O->O
 | .agg cs=>.agg (cs.map (Ks es))
 | x=>Ks es x
def ren (es:Nat->Nat):O->O
 | .agg cs=>.agg (cs.map (Ks es))
 | .tup cs=>.tup (cs.map (Aax es))
 | .fn f cs=>.fn f (cs.map (Ks es))
 | x=>Ks es x
def Gs (es:Nat->Nat):Ba->Ba
 | .cells E cs=>.cells E (cs.map (Ks es))
 | o=>o
def hp (b:List Ba):Hp:=fun k=>b.getD k .none
def Ck (P:Program) (f:FuncId) (args:List O) (h:List Ba) (r:O) (b:List Ba):Prop :=
 Afp P f/\∀(σ F:Ar) (W w:World) (ι:Bf) (vs:Array Value),St σ ι (hp h) F W w->Kr σ ι (hp h) args vs ->
  Calls P f vs w fun e w'=>∃v c g,e = .returned v/\Le σ ι (hp h) c g (hp b)/\St c g (hp b) F W w'/\Conc c g (hp b) r v
def Dc (n:Nat):List Nat->Nat->Nat
 | [],k=>n+k
 | h::_,0=>h
 | _::l,k+1=>Dc n l k
def Lh (n:Nat):List Nat->Bool
 | []=>true
 | h::l=>Nat.blt h n && !(l.elem h)&&Lh n l
def wrs (es:Nat->Nat):Nat->List Ba->List (Nat×Ba)
 | _,[]=>[]
 | k,o::os=>(es k,Gs es o)::wrs es (k+1) os
def Bo (es:Nat->Nat):Nat->Nat->List (Nat×Ba)
 | _,0=>[]
 | k,c+1=>(es k,.none)::Bo es (k+1) c
def N6 (H:Hp):List (Nat×Ba)->Prop
 | []=>True
 | p::l=>H p.1=p.2/\N6 H l
def P6 (n:Nat) (l:List Nat) (c:List O) (f:List Ba) (r:O) (b:List Ba):Bool :=
 Lh n l&&Nat.beq f.length l.length&&Nat.ble l.length b.length&&c.all (O.under l.length)&&f.all (Ba.under l.length)&&r.under b.length&&b.all (Ba.under b.length)
inductive Sy (xs:List O) (i:Int) (K:Nat->O->Prop):Prop where
 | mk (n:Nat) (x:O) (hi:i=n) (hx:xs[n]? = some x) (k:K n x)
inductive N7 (len:Nat) (kk:Nat) (xs:List O) (i:Int) (K:Nat->Prop):Prop where
 | mk (n:Nat) (hk:xs.length=kk) (hi:i=n) (hn:n<len) (k:K n)
inductive F9 (k:IntKind) (n:Int) (K:Int->Prop):Prop where
 | mk (c:Int) (h:k.wrap n=c) (k:K c)
inductive Wc (k:IntKind) (m n:Int) (K:Int->Prop):Prop where
 | mk (c:Int) (hn:n≠0) (h:k.wrap (m.tdiv n)=c) (k:K c)
inductive Wd (m n:Int) (K:Int->Prop):Prop where
 | mk (c:Int) (hn:n≠0) (h:m.tmod n=c) (k:K c)
inductive We (k:IntKind) (m n:Int) (K:Int->Prop):Prop where
 | mk (c:Int) (hn:0<=n) (h:m.fdiv (2 ^ (min n.toNat k.bits))=c) (k:K c)
inductive Wf (k:IntKind) (m n:Int) (K:Int->Prop):Prop where
 | mk (c:Int) (hn:0<=n) (h:k.wrap (m*2 ^ (min n.toNat k.bits))=c) (k:K c)
inductive Wg (n:Nat) (lo hi:Int) (K:Nat->Nat->Prop):Prop where
 | mk (l h:Nat) (el:lo=l) (eh:hi=h) (h1:l<=h) (h2:h<=n) (k:K l h)
inductive N8 (xs:List O) (lo hi:Int) (K:List O->Prop):Prop where
 | mk (l h:Nat) (ys:List O) (el:lo=l) (eh:hi=h) (h1:l<=h) (h2:h<=xs.length) (hy:(xs.take h).drop l=ys) (k:K ys)
inductive Wh (kk:Nat) (xs:List O) (n:Nat) (lo hi:Int) (K:Nat->Nat->Prop) (KE:Prop):Prop where
 | mk (l h:Nat) (hk:xs.length=kk) (el:lo=l) (eh:hi=h) (h1:l<=h) (h2:h<=n) (h3:l=0\/l<h) (k:K l h)
 | mkE (l:Nat) (hk:xs.length=kk) (el:lo=l) (eh:hi=l) (h2:l<=n) (k:KE)
inductive Wi (s:ByteArray) (i:Int) (K:UInt8->Prop):Prop where
 | mk (n:Nat) (c:UInt8) (hi:i=n) (hc:s[n]? = some c) (k:K c)
inductive Wj (n:Nat) (K:Prop):Prop where
 | mk (h:n<=9223372036854775807) (k:K)
inductive P7 (len cap:Int) (bytes:Nat) (z:O) (K:Nat->List O->Prop):Prop where
 | mk (l c:Nat) (zs:List O) (el:len=l) (ec:cap=c) (h1:l<=c) (h2:bytes*c<=281474976710656) (h3:c<=140737488355328) (hz:List.replicate l z=zs) (k:K l zs)
 | mkN (z':O) (hn:Iv z.cells z'.cells) (l c:Nat) (zs:List O) (el:len=l) (ec:cap=c) (h1:l<=c) (h2:bytes*c<=281474976710656) (h3:c<=140737488355328) (hz:List.replicate l z'=zs) (k:K l zs)
inductive Kt (xs ys:List O) (kk len bytes:Nat) (K:List O->Nat->Prop) (KP:List O->Nat->Nat->Prop):Prop where
 | mkP (zs:List O) (k' m:Nat) (hk:xs.length=kk) (hl:len<=kk) (hb:(xs.length+ys.length)*bytes<=140737488355328) (hz:Dk xs len ys=zs) (hk':zs.length=k') (hm:len+ys.length=m) (k:KP zs k' m)
 | mk (zs:List O) (m:Nat) (hk:xs.length=kk) (hl:len=kk) (hb:(xs.length+ys.length)*bytes<=140737488355328) (hz:xs++ys=zs) (hm:kk+ys.length=m) (k:K zs m)
inductive N9 (ys:List O) (bytes:Nat) (K:List O->Nat->Prop):Prop where
 | mk (zs:List O) (m:Nat) (hb:ys.length*bytes<=140737488355328) (hz:ys=zs) (hm:ys.length=m) (k:K zs m)
inductive Ao5 (xs:List O) (kk len k2 off2 len2 bytes:Nat) (K:List O->Nat->Nat->Prop):Prop where
 | mk (zs:List O) (k' m:Nat) (hk:xs.length=kk) (hl:len<=kk) (hk2:xs.length=k2) (hl2:off2+len2<=kk) (hb:(xs.length+len2)*bytes<=140737488355328) (hz:Dk xs len ((xs.drop off2).take len2)=zs) (hk':zs.length=k') (hm:len+len2=m) (k:K zs k' m)
inductive Ao6 (xs:List O) (kk off len k2 off2 len2:Nat) (K:List O->Nat->Prop):Prop where
 | mk (zs:List O) (c:Nat) (hk:xs.length=kk) (hl:off+len<=kk) (hk2:xs.length=k2) (hl2:off2+len2<=kk) (hz:Dk xs off ((xs.drop off2).take (min len2 len))=zs) (hc:min len2 len=c) (k:K zs c)
inductive Afq (xs:List O) (kk off len:Nat) (z:O) (K:List O->Prop):Prop where
 | mk (zs:List O) (hk:xs.length=kk) (hl:off+len<=kk) (hz:Dk xs off (List.replicate len z)=zs) (k:K zs)
inductive Afr (a b:Nat) (K:Prop):Prop where
 | mk (h:a<=b) (k:K)
inductive Afs (xs:List O) (n:Nat) (K:List O->Prop):Prop where
 | mk (ys:List O) (hy:xs.take n=ys) (k:K ys)
inductive P8 (xs:List O) (q:Nat) (p:O) (K:List O->Prop):Prop where
 | mk (zs:List O) (hz:xs.set q p=zs) (k:K zs)
inductive J4 (xs:List O) (K:Int->Prop):Prop where
 | mk (c:Int) (hc:(xs.length:Int)=c) (k:K c)
inductive Jb (kk i:Nat) (xs:List O) (K:O->Prop):Prop where
 | mk (x:O) (hk:xs.length=kk) (hx:xs[i]? = some x) (k:K x)
inductive Fi (kk:Nat) (xs:List O) (K:Prop):Prop where
 | mk (hk:xs.length=kk) (k:K)
inductive Hh (P:Program) (n:Nat) (H:Hp) (f:FuncId) (args:List O) (K:Eff->Nat->Prop):Prop where
 | mk (r:O) (h:Aw P f args r) (hf:args.all O.free=true) (k:K ⟨r,[],[]⟩ n)
 | act (l:List Nat) (largs:List O) (hs:List Ba) (r:O) (hs':List Ba) (h:Ck P f largs hs r hs') (ha:largs.map (ren (Dc n l))=args) (ok:P6 n l largs hs r hs'=true) (hh:N6 H (wrs (Dc n l) 0 hs))
   (k:K ⟨ren (Dc n l) r,wrs (Dc n l) 0 hs++Bo (Dc n l) l.length (hs'.length-l.length),wrs (Dc n l) 0 hs'⟩ (n+(hs'.length-l.length)))
inductive Aft (s:ByteArray) (es:List (O×O)) (K:Option (Nat×O)->Prop):Prop where
 | mk (r:Option (Nat×O)) (h:G6 s es 0=some r) (k:K r)
inductive Wk (op:BinOp) (k:FloatKind) (a b:Nat) (K:Nat->Prop):Prop where
 | mk (c:Nat) (h:floatBits op k a b=some c) (k:K c)
inductive Wl (k:FloatKind) (a:Nat) (q:IntKind) (K:Int->Prop):Prop where
 | mk (c:Int) (h:floatToIntVal k a q=some c) (k:K c)
inductive Afu (P:Program) (kt:TypeId) (us:List Value) (es:List (O×O)) (K:Option (Nat×O)->Prop):Prop where
 | mk (r:Option (Nat×O)) (hc:N4 P kt us) (h:Ja P kt us es 0 r) (k:K r)
inductive Afv (P:Program) (kt:TypeId) (ks:List O) (us:List Value) (v:O) (es:List (O×O)) (K:List (O×O)->Prop):Prop where
 | mk (es':List (O×O)) (hc:N4 P kt us) (h:Ja P kt us es 0 none) (he:es++[(.agg ks,v)]=es') (k:K es')
inductive Afw (s:ByteArray) (v:O) (es:List (O×O)) (K:List (O×O)->Prop):Prop where
 | mk (es':List (O×O)) (h:Wa s v es=some es') (k:K es')
inductive Afx (P:Program) (t:TypeId) (us vs:List Value) (K:Bool->Prop):Prop where
 | mk (b:Bool) (h:Lg P t us vs b) (k:K b)
inductive Wm (P:Program) (t:TypeId) (f:Nat) (K:TypeId->Prop):Prop where
 | mk (ft:TypeId) (h:Aaq P t f=some ft) (k:K ft)
inductive Afy (P:Program) (f:FuncId) (args:List O) (K:O->Prop):Prop where
 | mk (r:O) (h:Aw P f args r) (hf:args.all O.free=true) (k:K r)
inductive Ann where
 | frz (j:Nat)
 | std
 | own
 | ask
def Jc:O->Bool
 | .val (.slice none 0 0)=>true
 | _=>false
def Sz:O->Bool
 | .val (.agg _)=>false
 | _=>true
def Aay (x:O) (K:O->Prop):Prop :=
 match x with
 | .val v=>K (.val v)
 | .loc h off=>K (.loc h off)
 | .arr h k off len=>K (.arr h k off len)
 | .el h k i j=>K (.el h k i j)
 | .mp h=>K (.mp h)
 | .ref cs=>K (.ref cs)
 | .sl sz xs=>K (.sl sz xs)
 | .agg cs=>K (.agg cs)
 | .tup cs=>K (.tup cs)
 | .fn f cs=>K (.fn f cs)
def Md:List O->(List O->Prop)->Prop
 | [],K=>K []
 | x::xs,K=>Aay x fun x=>Md xs fun xs=>K (x::xs)
def Iy (x:O) (K:O->Prop):Prop :=
 match x with
 | .agg cs=>Md cs fun cs=>K (.agg cs)
 | .tup cs=>Md cs fun cs=>K (.tup cs)
 | .fn f cs=>Md cs fun cs=>K (.fn f cs)
 | x=>Aay x K
def P9:List O->(List O->Prop)->Prop
 | [],K=>K []
 | x::xs,K=>Iy x fun x=>P9 xs fun xs=>K (x::xs)
def Aaz (o:Ba) (K:Ba->Prop):Prop :=
 match o with
 | .cells E cs=>Md cs fun cs=>K (.cells E cs)
 | .rows E sz xs=>K (.rows E sz xs)
 | .map es=>K (.map es)
 | .none=>K .none
 | .dead=>K .dead
def Ku:List (Nat×Ba)->(List (Nat×Ba)->Prop)->Prop
 | [],K=>K []
 | p::l,K=>Aaz p.2 fun o=>Ku l fun l=>K ((p.1,o)::l)
def G7:List (Nat×Ba)->(List Nat->Prop)->Prop
 | [],K=>K []
 | p::l,K=>G7 l fun l=>K (p.1::l)
theorem Afz (x:O) (K:O->Prop):Aay x K=K x:=by cases x <;> rfl
theorem Wn:∀(l:List O) (K:List O->Prop),Md l K=K l
 | [],_=>rfl
 | x::xs,K=>by simp only [Md,Afz,Wn xs]
theorem Qa (x:O) (K:O->Prop):Iy x K=K x:=by cases x <;> simp only [Iy,Wn,Afz]
theorem Wo:∀(l:List O) (K:List O->Prop),P9 l K=K l
 | [],_=>rfl
 | x::xs,K=>by simp only [P9,Qa,Wo xs]
theorem Ao7 (o:Ba) (K:Ba->Prop):Aaz o K=K o:=by cases o <;> simp only [Aaz,Wn]
theorem Aa0:∀(l:List (Nat×Ba)) (K:List (Nat×Ba)->Prop),Ku l K=K l
 | [],_=>rfl
 | p::l,K=>by simp only [Ku,Ao7,Aa0 l]
theorem Aa1:∀(l:List (Nat×Ba)) (K:List Nat->Prop),G7 l K=K (l.map (·.1))
 | [],_=>rfl
 | p::l,K=>by simp only [G7,Aa1 l,List.map_cons]
def Df (P:Program) (T:B7) (an:Nat->Ann) (n:Nat) (o:Oper) (ρ:Operand->O) (H:Hp) (K:Eff->Nat->Prop):Prop :=
 match o.op with
 | .move x=>K ⟨ρ x,[],[]⟩ n
 | .assign x=>
  match o.dst with
  | none=>K ⟨ρ x,[],[]⟩ n
  | some d=>
   match an d with
   | .frz _=>K ⟨ρ x,[],[]⟩ n
   | .std=>K ⟨ρ x,[],[]⟩ n
   | .ask=>K ⟨ρ x,[],[]⟩ n
   | .own=>bif Jc (ρ x) then
     match T o.type with
     | some ⟨.slice e,_,_,_⟩=>
      match T e with
      | some g=>bif Nat.blt 0 g.size then K ⟨.arr n 0 0 0,[(n,.none)],[(n,.rows e g.size [])]⟩ (n+1) else False
      | none=>False
     | _=>False
    else K ⟨ρ x,[],[]⟩ n
 | .pick c a b=>
  match ρ c with
  | .val (.bool t)=>K ⟨bif t then ρ a else ρ b,[],[]⟩ n
  | _=>False
 | .alloc t=>
  match T t with
  | some i=>K ⟨.loc n 0,[(n,.none)],[(n,.cells t (i.zero.map .val))]⟩ (n+1)
  | none=>False
 | .box t x=>K ⟨.loc n 0,[(n,.none)],[(n,.cells t (ρ x).cells)]⟩ (n+1)
 | .build t parts=>
  match T t with
  | some ⟨.struct fs,_,_,z⟩=>
   match P0 fs (z.map .val) (parts.toList.map fun p=>(p.1,ρ p.2)) with
   | some cs=>K ⟨.agg cs,[],[]⟩ n
   | none=>False
  | _=>False
 | .buildSlice t len parts=>
  match T t with
  | some ⟨.slice e,_,_,_⟩=>
   match T e with
   | some g=>
    bif Nat.blt 0 g.size&&(parts.toList.map (·.1)==List.range' 0 len)&&Nat.ble (len*g.size) 16777216&&parts.toList.all (fun p=>Iu g.size (ρ p.2)) then
     match an (o.dst.getD 0) with
     | .frz _=>False
     | .std=>P9 (parts.toList.map fun p=>ρ p.2) fun xs=>K ⟨.sl g.size xs,[],[]⟩ n
     | .ask=>P9 (parts.toList.map fun p=>ρ p.2) fun xs=>K ⟨.sl g.size xs,[],[]⟩ n
     | .own=>P9 (parts.toList.map fun p=>ρ p.2) fun xs=>K ⟨.arr n len 0 len,[(n,.none)],[(n,.rows e g.size xs)]⟩ (n+1)
    else False
   | none=>False
  | _=>False
 | .load t x=>
  match T t with
  | some i=>
   match ρ x with
   | .ref cs=>bif i.isAgg then (bif Nat.ble i.size cs.length then K ⟨.agg (cs.take i.size),[],[]⟩ n else False) else
     match cs with
     | c::_=>K ⟨c,[],[]⟩ n
     | []=>False
   | .loc h off=>
    match H h with
    | .cells E cs=>bif i.isAgg then (bif Nat.ble (off+i.size) cs.length then K ⟨.agg ((cs.drop off).take i.size),[(h,.cells E cs)],[]⟩ n else False) else
      match cs[off]? with
      | some c=>K ⟨c,[(h,.cells E cs)],[]⟩ n
      | none=>False
    | _=>False
   | .el h k q j=>
    match H h with
    | .rows E sz xs=>Jb k q xs fun y=>bif i.isAgg then (bif Nat.ble (j+i.size) y.cells.length then K ⟨.agg ((y.cells.drop j).take i.size),[(h,.rows E sz xs)],[]⟩ n else False) else
      match y.cells[j]? with
      | some c=>K ⟨c,[(h,.rows E sz xs)],[]⟩ n
      | none=>False
    | _=>False
   | _=>False
  | none=>False
 | .store t x y=>
  match T t with
  | some i=>
   match ρ x with
   | .loc h off=>
    match H h with
    | .cells E cs=>bif Nat.beq (ρ y).cells.length i.size&&Nat.ble (off+i.size) cs.length&&(ρ y).cells.all O.one then K ⟨.val undef,[(h,.cells E cs)],[(h,.cells E (J0 cs off (ρ y).cells))]⟩ n else False
    | _=>False
   | .el h k q j=>
    match H h with
    | .rows E sz xs=>Jb k q xs fun z=>bif Nat.beq (ρ y).cells.length i.size&&Nat.blt 0 i.size&&Nat.ble (j+i.size) z.cells.length&&(ρ y).cells.all O.cl1&&Sz z then
      Md (ρ y).cells fun ys=>Iy (Ss z j ys) fun p=>P8 xs q p fun u=>K ⟨.val undef,[(h,.rows E sz xs)],[(h,.rows E sz u)]⟩ n else False
    | _=>False
   | _=>False
  | none=>False
 | .nilCheck x=>bif (ρ x).isPtr then K ⟨ρ x,[],[]⟩ n else False
 | .binOp op t x y _=>
  match ρ x,ρ y with
  | .val (.int k a),.val (.int I b)=>
   match op with
   | .shl=>Wf k a b fun c=>K ⟨.val (.int k c),[],[]⟩ n
   | .shr=>We k a b fun c=>K ⟨.val (.int k c),[],[]⟩ n
   | op=>bif decide (k=I) then
     match op with
     | .add=>F9 k (a+b) fun c=>K ⟨.val (.int k c),[],[]⟩ n
     | .sub=>F9 k (a-b) fun c=>K ⟨.val (.int k c),[],[]⟩ n
     | .mul=>F9 k (a*b) fun c=>K ⟨.val (.int k c),[],[]⟩ n
     | .quo=>Wc k a b fun c=>K ⟨.val (.int k c),[],[]⟩ n
     | .rem=>Wd a b fun c=>K ⟨.val (.int k c),[],[]⟩ n
     | op=>
      match Z6 op a b with
      | some t=>K ⟨.val (.bool t),[],[]⟩ n
      | none=>
       match Aac op k a b with
       | some c=>K ⟨.val (.int k c),[],[]⟩ n
       | none=>False
    else False
  | .val (.bool a),.val (.bool b)=>
   match T t with
   | some ⟨.bool,_,_,_⟩=>
    match Aad op a b with
    | some t=>K ⟨.val (.bool t),[],[]⟩ n
    | none=>False
   | _=>False
  | .agg xs,.agg ys=>
   match F8 xs with
   | some M=>
    match F8 ys with
    | some vs=>
     match op with
     | .eql=>Afx P t M vs fun b=>K ⟨.val (.bool b),[],[]⟩ n
     | .neq=>Afx P t M vs fun b=>K ⟨.val (.bool !b),[],[]⟩ n
     | _=>False
    | none=>False
   | none=>False
  | .val (.float k a),.val (.float I b)=>bif decide (k=I) then Wk op k a b fun c=>K ⟨.val (.float k c),[],[]⟩ n else False
  | .val (.string a),.val (.string b)=>
   match op with
   | .add=>Wj (a.size+b.size) (K ⟨.val (.string (a++b)),[],[]⟩ n)
   | op=>
    match Aae op a b with
    | some t=>K ⟨.val (.bool t),[],[]⟩ n
    | none=>False
  | .val (.slice p _ _),.val (.slice none _ _)=>
   match op with
   | .eql=>
    match T t with
    | some ⟨.slice _,_,_,_⟩=>K ⟨.val (.bool p.isNone),[],[]⟩ n
    | _=>False
   | _=>False
  | _,_=>False
 | .unOp op _ x=>
  match op,ρ x with
  | .not,.val (.bool b)=>K ⟨.val (.bool !b),[],[]⟩ n
  | .neg,.val (.int k m)=>F9 k (0-m) fun c=>K ⟨.val (.int k c),[],[]⟩ n
  | _,_=>False
 | .convert s d x=>
  match T s,T d,ρ x with
  | some _,some ⟨.int k,_,_,_⟩,.val (.int _ m)=>F9 k m fun c=>K ⟨.val (.int k c),[],[]⟩ n
  | some _,some ⟨.float k,_,_,_⟩,.val (.int _ m)=>K ⟨.val (.float k (floatOfInt k m)),[],[]⟩ n
  | some _,some ⟨.int k,_,_,_⟩,.val (.float q m)=>Wl q m k fun c=>K ⟨.val (.int k c),[],[]⟩ n
  | _,_,_=>False
 | .makeFunc (.func f) first A=>bif first.isEmpty then K ⟨.fn f (A.toList.map ρ),[],[]⟩ n else False
 | .makeSlice t x y=>
  match T t with
  | some ⟨.slice e,_,_,_⟩=>
   match T e with
   | some g=>
    match ρ x,ρ y with
    | .val (.int _ l),.val (.int _ c)=>
     bif Nat.blt 0 g.size&&Iu g.size (D1 g)&&Nat.beq (D1 g).cells.length g.zero.length&&Sz (D1 g) then
      P7 l c g.bytes (D1 g) fun l u=>K ⟨.arr n l 0 l,[(n,.none)],[(n,.rows e g.size u)]⟩ (n+1)
     else False
    | _,_=>False
   | none=>False
  | _=>False
 | .slice t x lo hi none=>
  match T t with
  | some ⟨.slice e,_,_,_⟩=>
   match T e with
   | some g=>
    match ρ x with
    | .sl sz xs=>
     match F7 ρ 0 lo,F7 ρ xs.length hi with
     | some l,some h=>bif Nat.beq sz g.size then N8 xs l h fun ys=>K ⟨.sl sz ys,[],[]⟩ n else False
     | _,_=>False
    | .arr hd k off len=>
     match H hd with
     | .rows E sz xs=>
      match F7 ρ 0 lo,F7 ρ len hi with
      | some l,some h=>bif Nat.beq sz g.size then Wh k xs len l h (fun l h=>K ⟨.arr hd k (off+l) (h-l),[(hd,.rows E sz xs)],[]⟩ n) (K ⟨.sl g.size [],[(hd,.rows E sz xs)],[]⟩ n) else False
      | _,_=>False
     | _=>False
    | _=>False
   | none=>False
  | some ⟨.string,_,_,_⟩=>
   match ρ x with
   | .val (.string s)=>
    match F7 ρ 0 lo,F7 ρ s.size hi with
    | some l,some h=>Wg s.size l h fun l h=>K ⟨.val (.string (s.extract l h)),[],[]⟩ n
    | _,_=>False
   | _=>False
  | _=>False
 | .fieldAddr s x f=>
  match T s with
  | some ⟨.struct fs,_,_,_⟩=>
   match fs[f]? with
   | some q=>
    match ρ x with
    | .loc h off=>K ⟨.loc h (off+q.1),[],[]⟩ n
    | .ref cs=>K ⟨.ref (cs.drop q.1),[],[]⟩ n
    | .el h k m j=>
     match H h with
     | .rows E sz xs=>Fi k xs (K ⟨.el h k m (j+q.1),[(h,.rows E sz xs)],[]⟩ n)
     | _=>False
    | _=>False
   | none=>False
  | _=>False
 | .indexAddr t x y=>
  match T t with
  | some ⟨.slice e,_,_,_⟩=>
   match T e with
   | some g=>
    match ρ x,ρ y with
    | .sl sz xs,.val (.int _ i)=>bif Nat.beq sz g.size then Sy xs i fun _ z=>K ⟨.ref z.cells,[],[]⟩ n else False
    | .arr h k off len,.val (.int _ i)=>
     match H h with
     | .rows E sz xs=>bif Nat.beq sz g.size then N7 len k xs i fun m=>K ⟨.el h k (off+m) 0,[(h,.rows E sz xs)],[]⟩ n else False
     | _=>False
    | _,_=>False
   | none=>False
  | _=>False
 | .index t x y=>
  match T t with
  | some ⟨.string,_,_,_⟩=>
   match ρ x,ρ y with
   | .val (.string s),.val (.int _ i)=>Wi s i fun c=>K ⟨.val (.int .u8 c.toNat),[],[]⟩ n
   | _,_=>False
  | _=>False
 | .field s x f=>
  match T s with
  | some ⟨.struct fs,_,_,_⟩=>
   match fs[f]? with
   | some q=>
    match ρ x with
    | .agg cs=>Wm P s f fun X=>
     match T X with
     | some J=>bif J.isAgg then (bif Nat.ble (q.1+J.size) cs.length then K ⟨.agg ((cs.drop q.1).take J.size),[],[]⟩ n else False) else
       match cs[q.1]? with
       | some c=>K ⟨c,[],[]⟩ n
       | none=>False
     | none=>False
    | _=>False
   | none=>False
  | _=>False
 | .makeMap _ none=>K ⟨.mp n,[(n,.none)],[(n,.map [])]⟩ (n+1)
 | .lookup t x y ok=>
  match T t with
  | some ⟨.map N V,_,_,_⟩=>
   match T N with
   | some ⟨.string,_,_,_⟩=>
    match T V with
    | some J=>
     match ρ x with
     | .mp h=>
      match ρ y with
      | .val (.string s)=>
       match H h with
       | .map es=>Aft s es fun r=>K ⟨P3 ok J r,[(h,.map es)],[]⟩ n
       | _=>False
      | _=>False
     | _=>False
    | none=>False
   | some ⟨.struct _,_,_,_⟩=>
    match T V with
    | some J=>
     match ρ x with
     | .mp h=>
      match ρ y with
      | .agg R=>
       match F8 R with
       | some M=>
        match H h with
        | .map es=>Afu P N M es fun r=>K ⟨P3 ok J r,[(h,.map es)],[]⟩ n
        | _=>False
       | none=>False
      | _=>False
     | _=>False
    | none=>False
   | _=>False
  | _=>False
 | .mapUpdate t x y z=>
  match T t with
  | some ⟨.map N _,_,_,_⟩=>
   match T N with
   | some ⟨.string,_,_,_⟩=>
    match ρ x with
    | .mp h=>
     match ρ y with
     | .val (.string s)=>
      match H h with
      | .map es=>bif (ρ z).free1 then Iy (ρ z) fun v=>Afw s v es fun L=>K ⟨.val undef,[(h,.map es)],[(h,.map L)]⟩ n else False
      | _=>False
     | _=>False
    | _=>False
   | some ⟨.struct _,_,_,_⟩=>
    match ρ x with
    | .mp h=>
     match ρ y with
     | .agg R=>
      match F8 R with
      | some M=>
       match H h with
       | .map es=>bif (ρ z).free1 then Iy (ρ z) fun v=>Afv P N R M v es fun L=>K ⟨.val undef,[(h,.map es)],[(h,.map L)]⟩ n else False
       | _=>False
      | none=>False
     | _=>False
    | _=>False
   | _=>False
  | _=>False
 | .extract x i=>
  match ρ x with
  | .tup cs=>
   match cs[i]? with
   | some c=>K ⟨c,[],[]⟩ n
   | none=>False
  | _=>False
 | .call c=>
  match c.callee with
  | .value x=>
   match ρ x with
   | .fn f A=>
    match an (o.dst.getD 0) with
    | .frz j=>
     (match (c.args.toList.map ρ ++ A)[j]? with
     | some (.arr h k 0 len)=>
      (match H h with
      | .rows E sz xs=>Fi k xs (Fi len xs (Afy P f ((c.args.toList.map ρ ++ A).set j (.sl sz xs)) fun r=>K ⟨r,[(h,.rows E sz xs)],[(h,.dead)]⟩ n))
      | _=>False)
     | _=>False)
    | _=>Hh P n H f (c.args.toList.map ρ ++ A) K
   | _=>False
  | .invoke _ _=>False
  | .builtin .len=>
   match c.args.toList,c.argTypes.toList with
   | [x],[t]=>
    match T t with
    | some ⟨.slice _,_,_,_⟩=>
     match ρ x with
     | .sl _ xs=>
      match an (o.dst.getD 0) with
      | .ask=>J4 xs fun c=>K ⟨.val (.int .i64 c),[],[]⟩ n
      | _=>K ⟨.val (.int .i64 xs.length),[],[]⟩ n
     | .val (.slice _ m _)=>K ⟨.val (.int .i64 m),[],[]⟩ n
     | .arr h k _ len=>
      match H h with
      | .rows E sz xs=>Fi k xs (K ⟨.val (.int .i64 len),[(h,.rows E sz xs)],[]⟩ n)
      | _=>False
     | _=>False
    | some ⟨.string,_,_,_⟩=>
     match ρ x with
     | .val (.string s)=>K ⟨.val (.int .i64 s.size),[],[]⟩ n
     | _=>False
    | _=>False
   | _,_=>False
  | .builtin .copy=>
   match c.args.toList,c.argTypes.toList with
   | [x,y],[t,U]=>
    match T t with
    | some ⟨.slice e,_,_,_⟩=>
     match T e with
     | some g=>
      match ρ y with
      | .arr h2 S D G=>
       match ρ x with
       | .arr h k off len=>
        match H h with
        | .rows E sz xs=>bif Nat.beq E e&&Nat.beq sz g.size&&Nat.beq h h2&&Nat.blt 0 g.size then
          Ao6 xs k off len S D G (fun u c=>K ⟨.val (.int .i64 c),[(h,.rows e g.size xs)],[(h,.rows e g.size u)]⟩ n) else False
        | _=>False
       | .sl _ []=>
        match H h2 with
        | .rows E sz xs=>bif Nat.beq sz g.size then Fi S xs (K ⟨.val (.int .i64 0),[(h2,.rows E g.size xs)],[]⟩ n) else False
        | _=>False
       | _=>False
      | _=>False
     | none=>False
    | _=>False
   | _,_=>False
  | .builtin .clear=>
   match c.args.toList,c.argTypes.toList with
   | [x],[t]=>
    match T t with
    | some ⟨.slice e,_,_,_⟩=>
     match T e with
     | some g=>
      match ρ x with
      | .arr h k off len=>
       match H h with
       | .rows E sz xs=>bif Nat.beq E e&&Nat.beq sz g.size&&Nat.blt 0 g.size&&Iu g.size (D1 g)&&Nat.beq (D1 g).cells.length g.zero.length&&Sz (D1 g) then
         Afq xs k off len (D1 g) (fun u=>K ⟨.tup [],[(h,.rows e g.size xs)],[(h,.rows e g.size u)]⟩ n) else False
       | _=>False
      | .sl _ []=>K ⟨.tup [],[],[]⟩ n
      | _=>False
     | none=>False
    | _=>False
   | _,_=>False
  | .builtin .append=>
   match c.args.toList,c.argTypes.toList with
   | [x,y],[t,U]=>
    match T t,T U with
    | some ⟨.slice e,_,_,_⟩,some ⟨.slice _,_,_,_⟩=>
     match T e with
     | some g=>
      bif Nat.blt 0 g.size&&Nat.beq g.zero.length g.size&&Nat.ble 1 g.bytes then
       match ρ y with
       | .sl sz ys=>
        bif Nat.beq sz g.size then
         match ρ x with
         | .arr h k 0 len=>
          match H h with
          | .rows E B xs=>bif Nat.beq E e&&Nat.beq B g.size then
            Kt xs ys k len g.bytes (fun u m=>K ⟨.arr h m 0 m,[(h,.rows e g.size xs)],[(h,.rows e g.size u)]⟩ n) (fun u I m=>K ⟨.arr h I 0 m,[(h,.rows e g.size xs)],[(h,.rows e g.size u)]⟩ n) else False
          | _=>False
         | .val (.slice none 0 0)=>N9 ys g.bytes fun u m=>K ⟨.arr n m 0 m,[(n,.none)],[(n,.rows e g.size u)]⟩ (n+1)
         | _=>False
        else False
       | .arr h2 S D G=>
        match ρ x with
        | .arr h k 0 len=>
         match H h with
         | .rows E B xs=>bif Nat.beq E e&&Nat.beq B g.size&&Nat.beq h h2 then
           Ao5 xs k len S D G g.bytes (fun u I m=>K ⟨.arr h I 0 m,[(h,.rows e g.size xs)],[(h,.rows e g.size u)]⟩ n) else False
         | _=>False
        | _=>False
       | _=>False
      else False
     | none=>False
    | some ⟨.slice e,_,_,_⟩,some ⟨.string,_,_,_⟩=>
     match T e with
     | some g=>
      bif Nat.beq g.size 1&&Nat.beq g.zero.length g.size&&Nat.ble 1 g.bytes then
       match ρ y with
       | .val (.string s)=>
        match ρ x with
        | .arr h k 0 len=>
         match H h with
         | .rows E B xs=>bif Nat.beq E e&&Nat.beq B g.size then
           Kt xs (G5 s) k len g.bytes (fun u m=>K ⟨.arr h m 0 m,[(h,.rows e g.size xs)],[(h,.rows e g.size u)]⟩ n) (fun _ _ _=>False) else False
         | _=>False
        | _=>False
       | _=>False
      else False
     | none=>False
    | _,_=>False
   | _,_=>False
  | .builtin .max=>
   match c.args.toList,c.argTypes.toList with
   | [x,y],[_,_]=>
    match ρ x,ρ y with
    | .val (.int k a),.val (.int _ b)=>K ⟨.val (.int k (if b>a then b else a)),[],[]⟩ n
    | _,_=>False
   | _,_=>False
  | .builtin .min=>
   match c.args.toList,c.argTypes.toList with
   | [x,y],[_,_]=>
    match ρ x,ρ y with
    | .val (.int k a),.val (.int _ b)=>K ⟨.val (.int k (if b<a then b else a)),[],[]⟩ n
    | _,_=>False
   | _,_=>False
  | _=>False
 | _=>False
end Go.Ab
namespace Go.Ab
section
variable {P:Program} {o:Oper} {ρ:Operand->O} {a:Act} {w w':World} {next:Act->World->Prop} {Q:Exit->Act->World->Prop}
def Qb (σ:Ar) (w:World):Ar:=fun b=>match σ b with | none=>w.heap[b]? | some _=>none
theorem St.lend {σ:Ar} {ι:Bf} {H:Hp} {F:Ar} {W:World} (s:St σ ι H F W w):St σ ι0 H0 (Qb σ w) W w:=by
 refine ⟨s.sto,fun b o hb=>?_,fun h=>rfl,(fun h h' b c=>by cases c),s.os,s.tape,s.output,s.glo⟩
 unfold Qb at hb
 cases e:σ b with
 | none=>rw [e] at hb; exact ⟨hb,rfl⟩
 | some _=>rw [e] at hb; cases hb
theorem St.unlend {σ k:Ar} {ι:Bf} {H:Hp} {F:Ar} {W:World} (s:St σ ι H F W w) (g:σ.le k) (s':St k ι0 H0 (Qb σ w) W w'):St k ι H F W w':=by
 have key:∀b,σ b=none->∀o,w.heap[b]? = some o->w'.heap[b]? = some o/\k b=none:=by
  intro b hb o f
  exact s'.fra b o (by unfold Qb; rw [hb]; exact f)
 have le:Le σ ι H k ι H:=⟨g,fun _=>HLe.refl _ _⟩
 refine ⟨s'.sto,fun b o hb=>?_,fun h=>?_,s.inj,s'.os,s'.tape,s'.output,s'.glo⟩
 .obtain ⟨h1,h2⟩:=s.fra b o hb
  exact key b h2 o h1
 .have f:=s.obj h
  unfold Bx at f ⊢
  cases hh:H h with
  | none=>rw [hh] at f; exact f
  | dead=>trivial
  | cells E cs=>
   rw [hh] at f
   obtain ⟨b,C,j,h1,h2,h3,z,B⟩:=f
   obtain ⟨u,l⟩:=key b h1 _ h3
   exact ⟨b,C,j,l,h2,u,z,fun i c v x y=>(B i c v x y).mono le⟩
  | rows E sz xs=>
   rw [hh] at f
   obtain ⟨D,z2,⟨j,I⟩ | ⟨b,A,C,j,h1,h2,h3,z,B,G⟩⟩:=f
   .exact ⟨D,z2,.inl ⟨j,I⟩⟩
   .obtain ⟨u,l⟩:=key b h1 _ h3
    exact ⟨D,z2,.inr ⟨b,A,C,j,l,h2,u,z,B,G.mono g⟩⟩
  | map es=>
   rw [hh] at f
   obtain ⟨b,M,q,j,h1,h2,h3,z⟩:=f
   obtain ⟨u,l⟩:=key b h1 _ h3
   exact ⟨b,M,q,j,l,h2,u,z.mono g⟩
theorem Conc.of0 {σ:Ar} {ι:Bf} {H:Hp} {x:O} {v:Value} (h:Conc σ ι0 H0 x v):Conc σ ι H x v:=by
 induction h with
 | cc h=>exact .cc h
 | loc h off b hb=>cases hb
 | mp h b hb=>cases hb
 | arr h k off len v s y c=>exact (s rfl).elim
 | el h k i j v s y c=>exact (s rfl).elim
 | ref cs b off C E fr g u hc h1 z=>exact .ref cs b off C E fr g u hc h1 z
 | agg cs vs l _ ih=>exact .agg cs vs l ih
 | tup cs vs l _ ih=>exact .tup cs vs l ih
 | fn f q vs l _ ih=>exact .fn f q vs l ih
theorem Ao8 {x:O} (h:x.free1=true) (hx:∀cs,x≠.agg cs):x.cl1=true:=by
 cases x <;> first | exact h | exact (hx _ rfl).elim
theorem Conc.to0 {σ:Ar} {ι:Bf} {H:Hp} {x:O} {v:Value} (hx:x.free=true) (h:Conc σ ι H x v):Conc σ ι0 H0 x v:=by
 have key:∀(cs:List O),cs.all O.cl1=true->∀(i:Nat) (c:O) (u:Value),cs[i]? = some c->Conc σ ι H c u->Conc σ ι0 H0 c u:=by
  intro cs s i c u hc h
  exact .cc (h.cc_of (List.all_eq_true.1 s c (List.mem_of_getElem? hc))).1
 cases h with
 | cc h=>exact .cc h
 | loc=>cases hx
 | mp=>cases hx
 | arr=>cases hx
 | el=>cases hx
 | ref cs b off C E fr g z hc h1 B=>exact .ref cs b off C E fr g z hc h1 B
 | agg cs vs l h=>exact .agg cs vs l fun i c u h1 h2=>key cs hx i c u h1 (h i c u h1 h2)
 | tup cs vs l h=>
  refine .tup cs vs l fun i c u h1 h2=>?_
  have hf:=List.all_eq_true.1 hx c (List.mem_of_getElem? h1)
  have hc:=h i c u h1 h2
  cases c with
  | agg ds=>
   obtain ⟨y,rfl,q,A⟩:=hc.agg_inv
   exact .agg ds y q fun j d v g1 g2=>key ds hf j d v g1 (A j d v g1 g2)
  | _=>exact .cc (hc.cc_of (Ao8 hf (by intro cs e; cases e))).1
 | fn f k vs l h=>exact .fn f k vs l fun i c u h1 h2=>key k hx i c u h1 (h i c u h1 h2)
theorem Conc.fn_inv {σ:Ar} {ι:Bf} {H:Hp} {f:FuncId} {b:List O} {v:Value} (h:Conc σ ι H (.fn f b) v) :
  ∃vs:Array Value,v = .func (.func f) #[] vs/\vs.size=b.length/\∀(i:Nat) (c:O) (u:Value),b[i]? = some c->vs[i]? = some u->Conc σ ι H c u:=by
 cases h with
 | cc h=>cases h
 | fn _ _ vs g h=>exact ⟨vs,rfl,g,h⟩
theorem Aa2 {σ:Ar} {ι:Bf} {H:Hp} {xs:Array Operand} {b:List O} {vs:Array Value} (hx:∀x∈xs.toList,Conc σ ι H (ρ x) (a.eval x)) (h:vs.size=b.length)
  (g:∀(i:Nat) (c:O) (u:Value),b[i]? = some c->vs[i]? = some u->Conc σ ι H c u):Kr σ ι H (xs.toList.map ρ ++ b) (xs.map a.eval++vs):=by
 refine ⟨by simp [h],fun i c u h1 h2=>?_⟩
 by_cases f:i<xs.size
 .rw [List.getElem?_append_left (by simpa using f),List.getElem?_map,Array.getElem?_toList] at h1
  rw [Array.getElem?_append_left (by simpa using f),Array.getElem?_map] at h2
  simp [f] at h1 h2
  subst h1; subst h2
  exact hx _ (by simp)
 .rw [List.getElem?_append_right (by simp; omega)] at h1
  rw [Array.getElem?_append_right (by simp; omega)] at h2
  simp at h1 h2
  exact g _ c u h1 h2
theorem Ao9 {c:Call} {x:Operand} {f:FuncId} {g:List O} {r:O} (G:o.op = .call c) (h:c.callee = .value x) (hx:ρ x = .fn f g) (hp:Aw P f (c.args.toList.map ρ ++ g) r)
  (l:(c.args.toList.map ρ ++ g).all O.free=true):Bk P o ρ ⟨r,[],[]⟩:=by
 intro σ ι H F W w a next Q s B _ hk
 obtain ⟨⟨fn,hf,k,q⟩,hp⟩:=hp
 have z:=B x (by simp [G,Op.operands,Call.operands,h])
 rw [hx] at z
 obtain ⟨vs,L,M,E⟩:=z.fn_inv
 have j:Kr σ ι H (c.args.toList.map ρ ++ g) (c.args.map a.eval++vs) :=
  Aa2 (fun y hy=>B y (by simp only [G,Op.operands,Call.operands,h]; simp at hy ⊢; exact .inr hy)) M E
 have A:(execOp a.eval o).run P w = .ok (.enter f (c.args.map a.eval++vs)) w:=by
  have I:(callFunc f (c.args.map a.eval++vs)).run P w = .ok (.enter f (c.args.map a.eval++vs)) w:=by
   unfold callFunc
   simp only [Sem.run_bind,program,Sem.run,Result.andThen_ok,hf,k,q,Bool.false_eq_true,if_false,Sem.run_pure]
  simp only [execOp,G,resolve,h,L,Deferred.ofValue,invoke,Sem.run_bind,Sem.run_pure,Result.andThen_ok,Array.empty_append,I]
 unfold Oper.wp
 rw [A]
 simp only [Oper.upon]
 refine (hp σ (Qb σ w) W w (c.args.map a.eval++vs) s.lend ⟨j.1,fun i b u h1 h2=>(j.2 i b u h1 h2).to0 (List.all_eq_true.1 l b (List.mem_of_getElem? h1))⟩).mono ?_
 rintro e w' ⟨v,J,rfl,D,s',hc⟩
 exact hk J ι v w' ⟨D,fun _=>HLe.refl _ _⟩ (s.unlend D s') hc.of0
theorem Apa {c:Call} {x:Operand} {f:FuncId} {g:List O} {r:O} {j h sz:Nat} {E:TypeId} {xs:List O} (S:o.op = .call c) (k:c.callee = .value x) (hx:ρ x = .fn f g)
  (hj:(c.args.toList.map ρ ++ g)[j]? = some (.arr h xs.length 0 xs.length)) (hp:Aw P f ((c.args.toList.map ρ ++ g).set j (.sl sz xs)) r)
  (A:((c.args.toList.map ρ ++ g).set j (.sl sz xs)).all O.free=true):Bk P o ρ ⟨r,[(h,.rows E sz xs)],[(h,.dead)]⟩:=by
 intro σ ι H F W w a next Q s J R hk
 have hh:H h = .rows E sz xs:=R (h,.rows E sz xs) (by simp)
 obtain ⟨⟨fn,hf,z,B⟩,hp⟩:=hp
 have G:=J x (by simp [S,Op.operands,Call.operands,k])
 rw [hx] at G
 obtain ⟨vs,Z,hl,M⟩:=G.fn_inv
 have q:Kr σ ι H (c.args.toList.map ρ ++ g) (c.args.map a.eval++vs) :=
  Aa2 (fun y hy=>J y (by simp only [S,Op.operands,Call.operands,k]; simp at hy ⊢; exact .inr hy)) hl M
 obtain ⟨N,D,s1,V⟩:=s.freeze hh
 have l:Kr N ι (Ay H h .dead) ((c.args.toList.map ρ ++ g).set j (.sl sz xs)) (c.args.map a.eval++vs):=by
  refine ⟨by rw [List.length_set]; exact q.1,fun i b u h1 h2=>?_⟩
  rw [List.getElem?_set] at h1
  split at h1
  .rename_i U
   split at h1
   .cases h1
    subst U
    have hc:=q.2 j _ u hj h2
    have:=V 0 xs.length _ (by omega) (hc.arr_inv hh rfl)
    rw [List.drop_zero,List.take_of_length_le (by omega)] at this
    exact .cc this
   .cases h1
  .exact (q.2 i b u h1 h2).mono D
 have I:(execOp a.eval o).run P w = .ok (.enter f (c.args.map a.eval++vs)) w:=by
  have X:(callFunc f (c.args.map a.eval++vs)).run P w = .ok (.enter f (c.args.map a.eval++vs)) w:=by
   unfold callFunc
   simp only [Sem.run_bind,program,Sem.run,Result.andThen_ok,hf,z,B,Bool.false_eq_true,if_false,Sem.run_pure]
  simp only [execOp,S,resolve,k,Z,Deferred.ofValue,invoke,Sem.run_bind,Sem.run_pure,Result.andThen_ok,Array.empty_append,X]
 unfold Oper.wp
 rw [I]
 simp only [Oper.upon]
 refine (hp N (Qb N w) W w (c.args.map a.eval++vs) s1.lend ⟨l.1,fun i b u h1 h2=>(l.2 i b u h1 h2).to0 (List.all_eq_true.1 A b (List.mem_of_getElem? h1))⟩).mono ?_
 rintro e w' ⟨v,Y,rfl,L,s',hc⟩
 exact hk Y ι v w' (D.trans ⟨L,fun _=>HLe.refl _ _⟩) (s1.unlend L s') hc.of0
end
end Go.Ab
namespace Go.Ab
theorem Fq {a b:Nat} (h:Nat.blt a b=true):a<b:=Nat.le_of_ble_eq_true h
theorem Aa3 {es:Nat->Nat} {o:Ba}:Gs es o = .none↔o = .none:=by cases o <;> simp [Gs]
theorem Wp {es:Nat->Nat} {o:Ba}:(Gs es o).live=o.live:=by cases o <;> rfl
theorem Aa4 {es:Nat->Nat} {o:Ba} {E:TypeId} {sz:Nat} {xs:List O}:Gs es o = .rows E sz xs↔o = .rows E sz xs:=by cases o <;> simp [Gs]
section
variable {es:Nat->Nat} {m:Nat} {σ:Ar} {ι ιl:Bf} {H Hl:Hp}
theorem Me (f:∀k,k<m->ιl k=ι (es k)) (A:∀k,k<m->H (es k)=Gs es (Hl k)) {x:O} {v:Value} (hx:x.under0 m=true):Conc σ ι H (Aaw es x) v↔Conc σ ιl Hl x v:=by
 have rows:∀k,k<m->∀E sz xs,H (es k) = .rows E sz xs↔Hl k = .rows E sz xs:=fun k hk E sz xs=>by rw [A k hk]; exact Aa4
 have some:∀k,k<m->(H (es k)≠.none↔Hl k≠.none):=fun k hk=>by rw [A k hk]; exact not_congr Aa3
 constructor
 .intro h
  cases x with
  | val u=>cases h with | cc h=>exact .cc h
  | sl sz xs=>cases h with | cc h=>exact .cc h
  | ref cs=>
   cases h with
   | cc h=>exact .cc h
   | ref cs b off C E fr g y hc h1 z=>exact .ref cs b off C E fr g y hc h1 z
  | loc k off=>
   have hk:=Fq hx
   cases h with
   | cc h=>cases h
   | loc _ _ b hb=>exact .loc k off b (by rw [f k hk]; exact hb)
  | mp k=>
   have hk:=Fq hx
   cases h with
   | cc h=>cases h
   | mp _ b hb=>exact .mp k b (by rw [f k hk]; exact hb)
  | arr k q off len=>
   have hk:=Fq hx
   cases h with
   | cc h=>cases h
   | arr _ _ _ _ _ s l c=>
    exact .arr k q off len v ((some k hk).1 s) (fun E sz xs e=>by rw [f k hk]; exact l E sz xs ((rows k hk E sz xs).2 e)) c
  | el k q i j=>
   have hk:=Fq hx
   cases h with
   | cc h=>cases h
   | el _ _ _ _ _ s l c=>
    exact .el k q i j v ((some k hk).1 s) (fun E sz xs e=>by rw [f k hk]; exact l E sz xs ((rows k hk E sz xs).2 e)) c
  | agg=>cases hx
  | tup=>cases hx
  | fn=>cases hx
 .intro h
  cases x with
  | val u=>cases h with | cc h=>exact .cc h
  | sl sz xs=>cases h with | cc h=>exact .cc h
  | ref cs=>
   cases h with
   | cc h=>exact .cc h
   | ref cs b off C E fr g y hc h1 z=>exact .ref cs b off C E fr g y hc h1 z
  | loc k off=>
   have hk:=Fq hx
   cases h with
   | cc h=>cases h
   | loc _ _ b hb=>exact .loc (es k) off b (by rw [<-f k hk]; exact hb)
  | mp k=>
   have hk:=Fq hx
   cases h with
   | cc h=>cases h
   | mp _ b hb=>exact .mp (es k) b (by rw [<-f k hk]; exact hb)
  | arr k q off len=>
   have hk:=Fq hx
   cases h with
   | cc h=>cases h
   | arr _ _ _ _ _ s l c=>
    exact .arr (es k) q off len v ((some k hk).2 s) (fun E sz xs e=>by rw [<-f k hk]; exact l E sz xs ((rows k hk E sz xs).1 e)) c
  | el k q i j=>
   have hk:=Fq hx
   cases h with
   | cc h=>cases h
   | el _ _ _ _ _ s l c=>
    exact .el (es k) q i j v ((some k hk).2 s) (fun E sz xs e=>by rw [<-f k hk]; exact l E sz xs ((rows k hk E sz xs).1 e)) c
  | agg=>cases hx
  | tup=>cases hx
  | fn=>cases hx
theorem Gt (b:∀k,k<m->ιl k=ι (es k)) (g:∀k,k<m->H (es k)=Gs es (Hl k)) {x:O} {v:Value} (hx:x.under1 m=true):Conc σ ι H (Ks es x) v↔Conc σ ιl Hl x v:=by
 have cells:∀{cs:List O},cs.all (O.under0 m)=true->∀(i:Nat) (c:O),cs[i]? = some c->∀u,(Conc σ ι H (Aaw es c) u↔Conc σ ιl Hl c u) :=
  fun q i c hc u=>Me b g (List.all_eq_true.1 q c (List.mem_of_getElem? hc))
 cases x with
 | fn f cs=>
  constructor
  .intro h
   obtain ⟨vs,rfl,l,h⟩:=h.fn_inv
   exact .fn f cs vs (by simpa using l) fun i c u h1 h2=>(cells hx i c h1 u).1 (h i _ u (by simp [h1]) h2)
  .intro h
   obtain ⟨vs,rfl,l,h⟩:=h.fn_inv
   refine .fn f _ vs (by simpa using l) fun i c u h1 h2=>?_
   rw [List.getElem?_map] at h1
   cases hc:cs[i]? with
   | none=>rw [hc] at h1; cases h1
   | some s=>rw [hc] at h1; cases h1; exact (cells hx i s hc u).2 (h i s u hc h2)
 | agg cs=>cases hx
 | tup cs=>cases hx
 | val u=>exact Me (x:=(.val u)) b g hx
 | loc h off=>exact Me (x:=(.loc h off)) b g hx
 | arr h k off len=>exact Me (x:=(.arr h k off len)) b g hx
 | el h k i j=>exact Me (x:=(.el h k i j)) b g hx
 | mp h=>exact Me (x:=(.mp h)) b g hx
 | ref cs=>exact Me (x:=(.ref cs)) b g hx
 | sl sz xs=>exact Me (x:=(.sl sz xs)) b g hx
theorem Apb {n:Nat} {x:O} (h:x.under0 n=true):x.under1 n=true:=by
 cases x <;> first | exact h | cases h
theorem Aa5 {n:Nat} {x:O} (h:x.under1 n=true):x.under n=true:=by
 cases x with
 | fn f cs=>exact List.all_eq_true.2 fun c hc=>Apb (List.all_eq_true.1 h c hc)
 | agg cs=>cases h
 | tup cs=>cases h
 | _=>exact h
theorem Apc (b:∀k,k<m->ιl k=ι (es k)) (g:∀k,k<m->H (es k)=Gs es (Hl k)) {x:O} {v:Value} (hx:x.under2 m=true):Conc σ ι H (Aax es x) v↔Conc σ ιl Hl x v:=by
 have cells:∀{cs:List O},cs.all (O.under1 m)=true->∀(i:Nat) (c:O),cs[i]? = some c->∀u,(Conc σ ι H (Ks es c) u↔Conc σ ιl Hl c u) :=
  fun q i c hc u=>Gt b g (List.all_eq_true.1 q c (List.mem_of_getElem? hc))
 cases x with
 | agg cs=>
  constructor
  .intro h
   obtain ⟨vs,rfl,l,h⟩:=h.agg_inv
   exact .agg cs vs (by simpa using l) fun i c u h1 h2=>(cells hx i c h1 u).1 (h i _ u (by simp [h1]) h2)
  .intro h
   obtain ⟨vs,rfl,l,h⟩:=h.agg_inv
   refine .agg _ vs (by simpa using l) fun i c u h1 h2=>?_
   rw [List.getElem?_map] at h1
   cases hc:cs[i]? with
   | none=>rw [hc] at h1; cases h1
   | some s=>rw [hc] at h1; cases h1; exact (cells hx i s hc u).2 (h i s u hc h2)
 | tup cs=>cases hx
 | fn f cs=>exact Gt (x:=(.fn f cs)) b g hx
 | val u=>exact Gt (x:=(.val u)) b g hx
 | loc h off=>exact Gt (x:=(.loc h off)) b g hx
 | arr h k off len=>exact Gt (x:=(.arr h k off len)) b g hx
 | el h k i j=>exact Gt (x:=(.el h k i j)) b g hx
 | mp h=>exact Gt (x:=(.mp h)) b g hx
 | ref cs=>exact Gt (x:=(.ref cs)) b g hx
 | sl sz xs=>exact Gt (x:=(.sl sz xs)) b g hx
theorem Af0 (l:∀k,k<m->ιl k=ι (es k)) (q:∀k,k<m->H (es k)=Gs es (Hl k)) {x:O} {v:Value} (hx:x.under m=true):Conc σ ι H (ren es x) v↔Conc σ ιl Hl x v:=by
 have cells:∀{cs:List O},cs.all (O.under1 m)=true->∀(i:Nat) (c:O),cs[i]? = some c->∀u,(Conc σ ι H (Ks es c) u↔Conc σ ιl Hl c u) :=
  fun y i c hc u=>Gt l q (List.all_eq_true.1 y c (List.mem_of_getElem? hc))
 have b:∀{cs:List O},cs.all (O.under2 m)=true->∀(i:Nat) (c:O),cs[i]? = some c->∀u,(Conc σ ι H (Aax es c) u↔Conc σ ιl Hl c u) :=
  fun y i c hc u=>Apc l q (List.all_eq_true.1 y c (List.mem_of_getElem? hc))
 cases x with
 | agg cs=>
  constructor
  .intro h
   obtain ⟨vs,rfl,g,h⟩:=h.agg_inv
   exact .agg cs vs (by simpa using g) fun i c u h1 h2=>(cells hx i c h1 u).1 (h i _ u (by simp [h1]) h2)
  .intro h
   obtain ⟨vs,rfl,g,h⟩:=h.agg_inv
   refine .agg _ vs (by simpa using g) fun i c u h1 h2=>?_
   rw [List.getElem?_map] at h1
   cases hc:cs[i]? with
   | none=>rw [hc] at h1; cases h1
   | some s=>rw [hc] at h1; cases h1; exact (cells hx i s hc u).2 (h i s u hc h2)
 | tup cs=>
  constructor
  .intro h
   obtain ⟨vs,rfl,g,h⟩:=h.tup_inv
   exact .tup cs vs (by simpa using g) fun i c u h1 h2=>(b hx i c h1 u).1 (h i _ u (by simp [h1]) h2)
  .intro h
   obtain ⟨vs,rfl,g,h⟩:=h.tup_inv
   refine .tup _ vs (by simpa using g) fun i c u h1 h2=>?_
   rw [List.getElem?_map] at h1
   cases hc:cs[i]? with
   | none=>rw [hc] at h1; cases h1
   | some s=>rw [hc] at h1; cases h1; exact (b hx i s hc u).2 (h i s u hc h2)
 | fn f cs=>
  constructor
  .intro h
   obtain ⟨vs,rfl,g,h⟩:=h.fn_inv
   exact .fn f cs vs (by simpa using g) fun i c u h1 h2=>(cells hx i c h1 u).1 (h i _ u (by simp [h1]) h2)
  .intro h
   obtain ⟨vs,rfl,g,h⟩:=h.fn_inv
   refine .fn f _ vs (by simpa using g) fun i c u h1 h2=>?_
   rw [List.getElem?_map] at h1
   cases hc:cs[i]? with
   | none=>rw [hc] at h1; cases h1
   | some s=>rw [hc] at h1; cases h1; exact (cells hx i s hc u).2 (h i s u hc h2)
 | val u=>exact Gt (x:=(.val u)) l q hx
 | loc h off=>exact Gt (x:=(.loc h off)) l q hx
 | arr h k off len=>exact Gt (x:=(.arr h k off len)) l q hx
 | el h k i j=>exact Gt (x:=(.el h k i j)) l q hx
 | mp h=>exact Gt (x:=(.mp h)) l q hx
 | ref cs=>exact Gt (x:=(.ref cs)) l q hx
 | sl sz xs=>exact Gt (x:=(.sl sz xs)) l q hx
theorem Af1 (A:∀k,k<m->ιl k=ι (es k)) (B:∀k,k<m->H (es k)=Gs es (Hl k)) {F G:Ar} {w:World} {k:Nat} (hk:k<m) (hu:(Hl k).under m=true)
  (h:∀b,(Hl k).live=true->(ιl k).block? = some b->(F b=none↔G b=none)):Bx σ ι H F w (es k)↔Bx σ ιl Hl G w k:=by
 have cells:∀{cs:List O},cs.all (O.under1 m)=true->∀(i:Nat) (c:O),cs[i]? = some c->∀u,(Conc σ ι H (Ks es c) u↔Conc σ ιl Hl c u) :=
  fun x i c hc u=>Gt A B (List.all_eq_true.1 x c (List.mem_of_getElem? hc))
 unfold Bx
 rw [B k hk,<-A k hk]
 cases hx:Hl k with
 | none=>exact Iff.rfl
 | dead=>exact Iff.rfl
 | map l=>
  simp only [Gs]
  rw [hx] at h
  constructor
  .rintro ⟨b,M,q,f,h1,h2,h3⟩
   exact ⟨b,M,q,f,h1,(h b rfl (by rw [f]; rfl)).1 h2,h3⟩
  .rintro ⟨b,M,q,f,h1,h2,h3⟩
   exact ⟨b,M,q,f,h1,(h b rfl (by rw [f]; rfl)).2 h2,h3⟩
 | rows E sz xs=>
  simp only [Gs]
  rw [hx] at h
  refine and_congr Iff.rfl (and_congr Iff.rfl (or_congr Iff.rfl ?_))
  constructor
  .rintro ⟨b,j,C,f,h1,h2,h3⟩
   exact ⟨b,j,C,f,h1,(h b rfl (by rw [f]; rfl)).1 h2,h3⟩
  .rintro ⟨b,j,C,f,h1,h2,h3⟩
   exact ⟨b,j,C,f,h1,(h b rfl (by rw [f]; rfl)).2 h2,h3⟩
 | cells E cs=>
  simp only [Gs]
  rw [hx] at h hu
  constructor
  .rintro ⟨b,C,f,h1,h2,h3,z,y⟩
   refine ⟨b,C,f,h1,(h b rfl (by rw [f]; rfl)).1 h2,h3,by simpa using z,fun i c v hc s=>(cells hu i c hc v).1 (y i _ v (by simp [hc]) s)⟩
  .rintro ⟨b,C,f,h1,h2,h3,z,y⟩
   refine ⟨b,C,f,h1,(h b rfl (by rw [f]; rfl)).2 h2,h3,by simpa using z,fun i c v hc s=>?_⟩
   rw [List.getElem?_map] at hc
   cases g:cs[i]? with
   | none=>rw [g] at hc; cases hc
   | some D=>rw [g] at hc; cases hc; exact (cells hu i D g v).2 (y i D v g s)
end
theorem Af2 {n:Nat}:∀{l:List Nat} {k:Nat},Lh n l=true->k<l.length->Dc n l k<n
 | [],k,_,h=>by simp at h
 | h::l,0,b,_=>by simp only [Lh,Bool.and_eq_true] at b; exact Fq b.1.1
 | h::l,k+1,b,hk=>by simp only [Lh,Bool.and_eq_true] at b; exact Af2 (l:=l) b.2 (by simpa using hk)
theorem S0 {n:Nat}:∀{l:List Nat} {k:Nat},l.length<=k->Dc n l k=n+(k-l.length)
 | [],k,_=>by simp [Dc]
 | h::l,0,hk=>by simp at hk
 | h::l,k+1,hk=>by simp only [Dc,List.length_cons]; rw [S0 (l:=l) (by simpa using hk)]; omega
theorem Aa6 {n:Nat}:∀{l:List Nat} {k:Nat},k<l.length->Dc n l k∈l
 | [],k,h=>by simp at h
 | h::l,0,_=>by simp [Dc]
 | h::l,k+1,hk=>by simp only [Dc]; exact List.mem_cons_of_mem _ (Aa6 (by simpa using hk))
theorem Af3 {n:Nat}:∀{l:List Nat} {j k:Nat},Lh n l=true->Dc n l j=Dc n l k->j=k
 | [],j,k,_,h=>by simp only [Dc] at h; omega
 | h::l,0,0,_,_=>rfl
 | h::l,j+1,k+1,b,e=>by simp only [Lh,Bool.and_eq_true] at b; simp only [Dc] at e; rw [Af3 (l:=l) b.2 e]
 | h::l,0,k+1,b,e=>by
  simp only [Lh,Bool.and_eq_true] at b
  simp only [Dc] at e
  rcases Nat.lt_or_ge k l.length with hk | hk
  .have:=Aa6 (n:=n) hk
   rw [<-e] at this
   simp [this] at b
  .have h1:=S0 (n:=n) hk
   have h2:=Fq b.1.1
   omega
 | h::l,j+1,0,b,e=>by
  simp only [Lh,Bool.and_eq_true] at b
  simp only [Dc] at e
  rcases Nat.lt_or_ge j l.length with hk | hk
  .have:=Aa6 (n:=n) hk
   rw [e] at this
   simp [this] at b
  .have h1:=S0 (n:=n) hk
   have h2:=Fq b.1.1
   omega
theorem Af4 {es:Nat->Nat}:∀{os:List Ba} {k i:Nat} {o:Ba},os[i]? = some o->(es (k+i),Gs es o)∈wrs es k os
 | [],k,i,o,h=>by simp at h
 | p::os,k,0,o,h=>by simp at h; subst h; simp [wrs]
 | p::os,k,i+1,o,h=>by
  simp only [wrs]
  refine List.mem_cons_of_mem _ ?_
  have:=Af4 (es:=es) (k:=k+1) (i:=i) (by simpa using h)
  rwa [show k+(i+1)=k+1+i by omega]
theorem Wq {es:Nat->Nat}:∀{os:List Ba} {k x:Nat} {H:Hp},(∀i,i<os.length->es (k+i)≠x)->Bv H (wrs es k os) x=H x
 | [],k,x,H,h=>rfl
 | q::os,k,x,H,h=>by
  simp only [wrs,Bv]
  rw [Wq (fun i hi=>by rw [show k+1+i=k+(i+1) by omega]; exact h (i+1) (by simpa using hi)),Cp _ _ (Ne.symm (by simpa using h 0 (by simp)))]
theorem Af5 {es:Nat->Nat} (b:∀i j,es i=es j->i=j):∀{os:List Ba} {k i:Nat} {o:Ba} {H:Hp},os[i]? = some o->Bv H (wrs es k os) (es (k+i))=Gs es o
 | [],k,i,o,H,h=>by simp at h
 | q::os,k,0,o,H,h=>by
  simp at h; subst h
  simp only [wrs,Bv]
  rw [Wq (fun i hi e=>by have:=b _ _ e; omega)]
  exact Bw _ _ _
 | q::os,k,i+1,o,H,h=>by
  simp only [wrs,Bv]
  rw [show k+(i+1)=k+1+i by omega]
  exact Af5 b (by simpa using h)
theorem Af6 {es:Nat->Nat}:∀{c k i:Nat},i<c->(es (k+i),Ba.none)∈Bo es k c
 | 0,k,i,h=>by omega
 | c+1,k,0,h=>by simp [Bo]
 | c+1,k,i+1,h=>by
  simp only [Bo]
  refine List.mem_cons_of_mem _ ?_
  have:=Af6 (es:=es) (c:=c) (k:=k+1) (i:=i) (by omega)
  rwa [show k+(i+1)=k+1+i by omega]
theorem Af7 {es:Nat->Nat}:∀{c k:Nat} {p:Nat×Ba},p∈Bo es k c->∃i,i<c/\p=(es (k+i),Ba.none)
 | 0,k,p,h=>by simp [Bo] at h
 | c+1,k,p,h=>by
  simp only [Bo,List.mem_cons] at h
  rcases h with rfl | h
  .exact ⟨0,by omega,rfl⟩
  .obtain ⟨i,h1,h2⟩:=Af7 h
   exact ⟨i+1,by omega,by rw [h2,show k+(i+1)=k+1+i by omega]⟩
theorem N6.spec {H:Hp}:∀{l:List (Nat×Ba)},N6 H l->∀p∈l,H p.1=p.2
 | [],_,p,hp=>by cases hp
 | q::l,h,p,hp=>by
  rcases List.mem_cons.1 hp with rfl | hp
  .exact h.1
  .exact N6.spec h.2 p hp
theorem S3 {b:List Ba} {k:Nat} (h:k<b.length):b[k]? = some (hp b k):=by simp [hp,h]
theorem Mf {b:List Ba} {k:Nat} (h:b.length<=k):hp b k = .none:=by simp [hp,List.getElem?_eq_none h]
section
variable {P:Program} {o:Oper} {ρ:Operand->O} {a:Act} {w w':World}
open Classical in
theorem Apd {n:Nat} {c:Call} {x:Operand} {f:FuncId} {ag:List O} {l:List Nat} {N:List O} {B:List Ba} {r:O} {g:List Ba} (ho:o.op = .call c) (ad:c.callee = .value x) (hx:ρ x = .fn f ag)
  (ba:Ck P f N B r g) (ha:N.map (ren (Dc n l))=c.args.toList.map ρ ++ ag) (ok:P6 n l N B r g=true) :
  Bk P o ρ ⟨ren (Dc n l) r,wrs (Dc n l) 0 B++Bo (Dc n l) l.length (g.length-l.length),wrs (Dc n l) 0 g⟩:=by
 intro σ ι H F W w a next Q s az ay hk
 simp only [P6,Bool.and_eq_true] at ok
 obtain ⟨⟨⟨⟨⟨⟨o1,o2⟩,o3⟩,o4⟩,o5⟩,o6⟩,o7⟩:=ok
 have o2:=Nat.eq_of_beq_eq_true o2
 have o3:=Nat.le_of_ble_eq_true o3
 generalize bb:Dc n l=es at *
 have inj:∀i j,es i=es j->i=j:=fun i j e=>by rw [<-bb] at e; exact Af3 o1 e
 obtain ⟨⟨fn,hf,ao,ap⟩,b9⟩:=ba
 have av:=az x (by simp [ho,Op.operands,Call.operands,ad])
 rw [hx] at av
 obtain ⟨vs,hv,hl,b4⟩:=av.fn_inv
 have ae:Kr σ ι H (c.args.toList.map ρ ++ ag) (c.args.map a.eval++vs) :=
  Aa2 (fun y hy=>az y (by simp only [ho,Op.operands,Call.operands,ad]; simp at hy ⊢; exact .inr hy)) hl b4
 have ax:(execOp a.eval o).run P w = .ok (.enter f (c.args.map a.eval++vs)) w:=by
  have bd:(callFunc f (c.args.map a.eval++vs)).run P w = .ok (.enter f (c.args.map a.eval++vs)) w:=by
   unfold callFunc
   simp only [Sem.run_bind,program,Sem.run,Result.andThen_ok,hf,ao,ap,Bool.false_eq_true,if_false,Sem.run_pure]
  simp only [execOp,ho,resolve,ad,hv,Deferred.ofValue,invoke,Sem.run_bind,Sem.run_pure,Result.andThen_ok,Array.empty_append,bd]
 unfold Oper.wp
 rw [ax]
 simp only [Oper.upon]
 have D:∀k,k<B.length->H (es k)=Gs es (hp B k):=by
  intro k A
  have:=ay _ (List.mem_append_left _ (Af4 (es:=es) (k:=0) (S3 A)))
  simpa using this
 have b0:∀k,B.length<=k->k<g.length->H (es k) = .none:=by
  intro k h1 h2
  have:=ay _ (List.mem_append_right _ (Af6 (es:=es) (k:=l.length) (c:=g.length-l.length) (i:=k-l.length) (by omega)))
  rwa [show l.length+(k-l.length)=k by omega] at this
 let ιl:Bf:=fun k=>if k<B.length then ι (es k) else .none
 let V:Nat->Prop:=fun b=>∃k,k<B.length/\(hp B k).live=true/\(ι (es k)).block? = some b
 let Fl:Ar:=fun b=>if σ b=none/\¬V b then w.heap[b]? else none
 have a1:∀k,k<B.length->ιl k=ι (es k):=fun k h=>if_pos h
 have G:∀k,k<B.length->(H (es k)).live=(hp B k).live:=fun k h=>by rw [D k h,Wp]
 have ai:∀k,k<B.length->(hp B k).under B.length=true:=by
  intro k h
  have:=List.all_eq_true.1 o5 _ (List.mem_of_getElem? (S3 h))
  rw [o2]; exact this
 have ak:∀k,k<B.length->∀b,(hp B k).live=true->(ιl k).block? = some b->F b=none/\Fl b=none:=by
  intro k h b h1 h2
  rw [a1 k h] at h2
  exact ⟨(s.block (by rw [G k h]; exact h1) h2).2.2,if_neg (fun hn=>hn.2 ⟨k,h,h1,h2⟩)⟩
 have sl:St σ ιl (hp B) Fl W w:=by
  refine ⟨s.sto,fun b L hb=>?_,fun k=>?_,fun k k' b h1 h2 h3 S=>?_,s.os,s.tape,s.output,s.glo⟩
  .by_cases hc:σ b=none/\¬V b
   .simp only [Fl,if_pos hc] at hb; exact ⟨hb,hc.1⟩
   .simp only [Fl,if_neg hc] at hb; cases hb
  .by_cases A:k<B.length
   .refine (Af1 (es:=es) a1 D A (ai k A) (fun b h1 h2=>?_)).1 (s.obj (es k))
    obtain ⟨h3,S⟩:=ak k A b h1 h2
    rw [h3,S]
   .unfold Bx
    rw [Mf (by omega)]
    exact if_neg A
  .have lt:∀k,(hp B k).live=true->k<B.length:=by
    intro k h
    rcases Nat.lt_or_ge k B.length with h' | h'
    .exact h'
    .rw [Mf h'] at h; cases h
   have Y:=lt k h1
   have X:=lt k' h2
   rw [a1 k Y] at h3
   rw [a1 k' X] at S
   exact inj _ _ (s.inj _ _ b (by rw [G k Y]; exact h1) (by rw [G k' X]; exact h2) h3 S)
 have aq:Kr σ ιl (hp B) N (c.args.map a.eval++vs):=by
  rw [<-ha] at ae
  refine ⟨by simpa using ae.1,fun i b u h1 h2=>?_⟩
  have:=ae.2 i (ren es b) u (by simp [h1]) h2
  refine (Af0 (es:=es) a1 D ?_).1 this
  rw [o2]; exact List.all_eq_true.1 o4 b (List.mem_of_getElem? h1)
 refine (b9 σ Fl W w ιl (c.args.map a.eval++vs) sl aq).mono ?_
 rintro e w' ⟨v,σ',ar,rfl,ah,s',be⟩
 let ι':Bf:=fun h=>if hh:∃k,k<g.length/\es k=h then ar hh.choose else ι h
 have a6:∀k,k<g.length->ar k=ι' (es k):=by
  intro k h
  have hh:∃k',k' < g.length/\es k'=es k:=⟨k,h,rfl⟩
  have:hh.choose=k:=inj _ _ hh.choose_spec.2
  simp only [ι',dif_pos hh,this]
 have aa:∀h,(∀k,k<g.length->es k≠h)->ι' h=ι h:=by
  intro h z
  exact dif_neg (fun ⟨k,Y,X⟩=>z k Y X)
 have a8:∀k,k<g.length->Bv H (wrs es 0 g) (es k)=Gs es (hp g k):=by
  intro k h
  have:=Af5 (es:=es) inj (k:=0) (H:=H) (S3 h)
  simpa using this
 have af:∀h,(∀k,k<g.length->es k≠h)->Bv H (wrs es 0 g) h=H h:=by
  intro h z
  exact Wq (fun i hi=>by simpa using z i hi)
 have bf:B.length<=g.length:=by omega
 have au:Le σ ι H σ' ι' (Bv H (wrs es 0 g)):=by
  refine ⟨ah.sto,fun h=>?_⟩
  by_cases hh:∃k,k<g.length/\es k=h
  .obtain ⟨k,A,rfl⟩:=hh
   rw [<-a6 k A,a8 k A]
   by_cases Z:k<B.length
   .have q:=ah.obj k
    rw [a1 k Z] at q
    rw [D k Z]
    refine ⟨q.box,fun h=>?_,fun h1 E sz xs h2=>?_⟩
    .rw [Ne,Aa3] at h ⊢; exact q.some h
    .rw [Ne,Aa3] at h1
     rw [Aa4] at h2
     obtain ⟨E0,b7,b5,e0,r0⟩:=q.rows h1 E sz xs h2
     exact ⟨E0,b7,b5,Aa4.2 e0,r0⟩
   .have h0:=b0 k (by omega) A
    have:ι (es k) = .none:=by have:=s.obj (es k); unfold Bx at this; rw [h0] at this; exact this
    rw [h0,this]
    exact HLe.of_none
  .have z:∀k,k<g.length->es k≠h:=fun k h1 h2=>hh ⟨k,h1,h2⟩
   rw [aa h z,af h z]
   exact HLe.refl _ _
 have J:∀b,σ b=none->¬V b->∀L,w.heap[b]? = some L->w'.heap[b]? = some L/\σ' b=none/\Fl b=some L:=by
  intro b h1 h2 L h3
  have:Fl b=some L:=by simp only [Fl]; rw [if_pos ⟨h1,h2⟩]; exact h3
  exact ⟨(s'.fra b L this).1,(s'.fra b L this).2,this⟩
 have U:∀h b,(∀k,k<g.length->es k≠h)->(H h).live=true->(ι h).block? = some b->¬V b:=by
  rintro h b z h1 h2 ⟨k,Y,X,k3⟩
  exact z k (by omega) (s.inj _ _ b (by rw [G k Y]; exact X) h1 k3 h2)
 have I:∀b L,F b=some L->¬V b:=by
  rintro b L hb ⟨k,Y,X,k3⟩
  have:=(s.block (by rw [G k Y]; exact X) k3).2.2
  rw [this] at hb; cases hb
 have ab:∀k,k<g.length->(hp g k).under g.length=true:=fun k h=>List.all_eq_true.1 o7 _ (List.mem_of_getElem? (S3 h))
 have b8:St σ' ι' (Bv H (wrs es 0 g)) F W w':=by
  refine ⟨s'.sto,fun b L hb=>?_,fun h=>?_,fun h h' b h1 h2 h3 S=>?_,s'.os,s'.tape,s'.output,s'.glo⟩
  .obtain ⟨h1,h2⟩:=s.fra b L hb
   obtain ⟨Y,X,_⟩:=J b h2 (I b L hb) L h1
   exact ⟨Y,X⟩
  .by_cases hh:∃k,k<g.length/\es k=h
   .obtain ⟨k,A,rfl⟩:=hh
    refine (Af1 (es:=es) a6 a8 A (ab k A) (fun b h1 h2=>?_)).2 (s'.obj k)
    have aj:=(s'.block h1 h2).2.2
    refine ⟨fun _=>aj,fun _=>?_⟩
    cases ak:F b with
    | none=>rfl
    | some L=>
     obtain ⟨h3,S⟩:=s.fra b L ak
     have:=(J b S (I b L ak) L h3).2.2
     rw [aj] at this; cases this
   .have z:∀k,k<g.length->es k≠h:=fun k h1 h2=>hh ⟨k,h1,h2⟩
    have R:=s.obj h
    have a7:=fun b h1 h2=>U h b z h1 h2
    unfold Bx at R ⊢
    rw [af h z,aa h z]
    cases hx:H h with
    | none=>rw [hx] at R; exact R
    | dead=>trivial
    | cells E cs=>
     rw [hx] at R a7
     obtain ⟨b,C,e1,h1,h2,h3,S,h5⟩:=R
     obtain ⟨Y,X,_⟩:=J b h1 (a7 b rfl (by rw [e1]; rfl)) _ h3
     exact ⟨b,C,e1,X,h2,Y,S,fun i c v x y=>(h5 i c v x y).mono au⟩
    | rows E sz xs=>
     rw [hx] at R a7
     obtain ⟨z1,z2,⟨e1,e2⟩ | ⟨b,b6,C,e1,h1,h2,h3,S,h5,h6⟩⟩:=R
     .exact ⟨z1,z2,.inl ⟨e1,e2⟩⟩
     .obtain ⟨Y,X,_⟩:=J b h1 (a7 b rfl (by rw [e1]; rfl)) _ h3
      exact ⟨z1,z2,.inr ⟨b,b6,C,e1,X,h2,Y,S,h5,h6.mono ah.sto⟩⟩
    | map l=>
     rw [hx] at R a7
     obtain ⟨b,M,q,e1,h1,h2,h3,S⟩:=R
     obtain ⟨Y,X,_⟩:=J b h1 (a7 b rfl (by rw [e1]; rfl)) _ h3
     exact ⟨b,M,q,e1,X,h2,Y,S.mono ah.sto⟩
  .have S4:∀k,k<g.length->∀h,(∀k,k<g.length->es k≠h)->(Bv H (wrs es 0 g) (es k)).live=true->(Bv H (wrs es 0 g) h).live=true->(ι' (es k)).block? = some b->(ι' h).block? = some b->False:=by
    intro k A h z g1 g2 g3 g4
    rw [a8 k A,Wp] at g1
    rw [af h z] at g2
    rw [<-a6 k A] at g3
    rw [aa h z] at g4
    have aj:=(s'.block g1 g3).2.2
    have hb:=s.block g2 g4
    have b3:w.heap[b]? = some w.heap[b]:=by simp [hb.1]
    have:=(J b hb.2.1 (U h b z g2 g4) _ b3).2.2
    rw [aj] at this; cases this
   by_cases hh:∃k,k<g.length/\es k=h
   .obtain ⟨k,A,rfl⟩:=hh
    by_cases ac:∃k,k<g.length/\es k=h'
    .obtain ⟨k',Z,rfl⟩:=ac
     rw [a8 k A,Wp] at h1
     rw [a8 k' Z,Wp] at h2
     rw [<-a6 k A] at h3
     rw [<-a6 k' Z] at S
     rw [s'.inj k k' b h1 h2 h3 S]
    .exact (S4 k A h' (fun k h1 h2=>ac ⟨k,h1,h2⟩) h1 h2 h3 S).elim
   .have z:∀k,k<g.length->es k≠h:=fun k h1 h2=>hh ⟨k,h1,h2⟩
    by_cases ac:∃k,k<g.length/\es k=h'
    .obtain ⟨k',Z,rfl⟩:=ac
     exact (S4 k' Z h z h2 h1 S h3).elim
    .have am:∀k,k<g.length->es k≠h':=fun k h1 h2=>ac ⟨k,h1,h2⟩
     rw [af h z] at h1
     rw [af h' am] at h2
     rw [aa h z] at h3
     rw [aa h' am] at S
     exact s.inj h h' b h1 h2 h3 S
 exact hk σ' ι' v w' au b8 ((Af0 (es:=es) a6 a8 o6).2 be)
end
end Go.Ab
namespace Go.Ab
section
variable {P:Program} {T:B7} {an:Nat->Ann} {n:Nat} {o:Oper} {ρ:Operand->O} {H:Hp} {K:Eff->Nat->Prop}
theorem Er {b:Bool} {X:Prop} (h:bif b then X else False):b=true/\X:=by
 cases b with
 | false=>exact h.elim
 | true=>exact ⟨rfl,h⟩
theorem Wr {x:O} (h:Jc x=true):x = .val (.slice none 0 0):=by
 unfold Jc at h
 split at h
 .rfl
 .cases h
theorem Ape {x:O} (h:Sz x=true):∀vs,x≠.val (.agg vs):=by
 intro vs e; subst e; cases h
theorem Aa7 {i:TI} (h1:Nat.beq (D1 i).cells.length i.zero.length=true) (h2:Sz (D1 i)=true) (h3:Iu i.size (D1 i)=true):(D1 i).cells=i.zero.map .val:=by
 have _:=h1; have _:=h3
 unfold D1 at h2 ⊢
 cases hd:i.d with
 | struct fs=>rfl
 | _=>
  rw [hd] at h2
  cases b:i.zero with
  | nil=>rfl
  | cons v l=>
   cases l with
   | cons _ _=>rfl
   | nil=>
    rw [b] at h2
    cases v <;> first | rfl | cases h2
theorem Mh {α:Type} {c:Array α} {x y:α} (h:c.toList = [x,y]):c = #[x,y]:=by
 apply Array.ext'; simpa using h
theorem Ws {α:Type} {c:Array α} {x:α} (h:c.toList = [x]):c = #[x]:=by
 apply Array.ext'; simpa using h
theorem Qc {c:Call} {b:Builtin} {xs:Array Operand} {f:Array TypeId} (h1:c.callee = .builtin b) (h2:c.args=xs) (h3:c.argTypes=f):c = {callee:=.builtin b,args:=xs,argTypes:=f}:=by
 cases c; simp_all
def Dw (H:Hp) (n:Nat):Prop:=∀m,n<=m->H m = .none
def J5 (P:Program) (o:Oper) (ρ:Operand->O) (H:Hp) (n:Nat) (K:Eff->Nat->Prop):Prop :=
 ∃b m,Bk P o ρ b/\(∀p∈b.rd,H p.1=p.2)/\K b m/\n<=m/\Dw (Bv H b.wr) m
theorem Cx (b:Dw H n) {r:O} (h:Bk P o ρ ⟨r,[],[]⟩) (k:K ⟨r,[],[]⟩ n):J5 P o ρ H n K:=⟨_,n,h,by simp,k,Nat.le_refl _,b⟩
theorem Jd (c:Dw H n) {r:O} {x:Nat} {b:Ba} (h:Bk P o ρ ⟨r,[(x,b)],[]⟩) (hx:H x=b) (k:K ⟨r,[(x,b)],[]⟩ n):J5 P o ρ H n K :=
 ⟨_,n,h,by simpa using hx,k,Nat.le_refl _,c⟩
theorem J6 (g:Dw H n) {r:O} {x:Nat} {c b:Ba} (h:Bk P o ρ ⟨r,[(x,c)],[(x,b)]⟩) (hx:H x=c) (f:c≠.none) (k:K ⟨r,[(x,c)],[(x,b)]⟩ n):J5 P o ρ H n K:=by
 refine ⟨_,n,h,by simpa using hx,k,Nat.le_refl _,fun m i=>?_⟩
 have j:x<n:=by
  rcases Nat.lt_or_ge x n with h | h
  .exact h
  .exact (f (hx ▸ g x h)).elim
 show Ay H x b m=_
 rw [Cp _ _ (by omega)]; exact g m i
theorem Mi (c:Dw H n) {r:O} {b:Ba} (h:Bk P o ρ ⟨r,[(n,.none)],[(n,b)]⟩) (k:K ⟨r,[(n,.none)],[(n,b)]⟩ (n+1)):J5 P o ρ H n K:=by
 refine ⟨_,n+1,h,by simpa using c n (Nat.le_refl _),k,by omega,fun m f=>?_⟩
 show Ay H n b m=_
 rw [Cp _ _ (by omega)]; exact c m (by omega)
theorem Apf (j:Dw H n) {l:List Nat} {c:List O} {f b:List Ba} {r:O} (g:P6 n l c f r b=true) (hh:N6 H (wrs (Dc n l) 0 f))
  (h:Bk P o ρ ⟨ren (Dc n l) r,wrs (Dc n l) 0 f++Bo (Dc n l) l.length (b.length-l.length),wrs (Dc n l) 0 b⟩)
  (k:K ⟨ren (Dc n l) r,wrs (Dc n l) 0 f++Bo (Dc n l) l.length (b.length-l.length),wrs (Dc n l) 0 b⟩ (n+(b.length-l.length))):J5 P o ρ H n K:=by
 simp only [P6,Bool.and_eq_true] at g
 have s:=g.1.1.1.1.1.1
 have u:=Nat.le_of_ble_eq_true g.1.1.1.1.2
 refine ⟨_,n+(b.length-l.length),h,fun p hp=>?_,k,by omega,fun q hq=>?_⟩
 .rcases List.mem_append.1 hp with hp | hp
  .exact hh.spec p hp
  .obtain ⟨i,hi,rfl⟩:=Af7 hp
   refine j _ ?_
   show n<=Dc n l (l.length+i)
   rw [S0 (by omega)]; omega
 .show Bv H (wrs (Dc n l) 0 b) q = .none
  rw [Wq (fun i hi e=>?_)]
  .exact j q (by omega)
  .rcases Nat.lt_or_ge (0+i) l.length with h1 | h1
   .have:=Af2 s h1
    omega
   .have:=S0 (n:=n) h1
    omega
theorem Apg (l:B8 P T) (g:Dw H n) {t:TypeId} {x:Operand} (f:o.op = .load t x) (h:Df P T an n o ρ H K):J5 P o ρ H n K:=by
 unfold Df at h
 rw [f] at h
 dsimp only at h
 split at h
 .rename_i i ht
  split at h
  .rename_i cs hx
   cases b:i.isAgg with
   | true=>
    rw [b] at h
    simp only [cond_true] at h
    obtain ⟨h1,h2⟩:=Er h
    exact Cx g (Amy l f ht b hx (Nat.le_of_ble_eq_true h1)) h2
   | false=>
    rw [b] at h
    simp only [cond_false] at h
    split at h
    .exact Cx g (Amx l f ht b hx) h
    .exact h.elim
  .rename_i hd off hx
   split at h
   .rename_i E cs hh
    cases b:i.isAgg with
    | true=>
     rw [b] at h
     simp only [cond_true] at h
     obtain ⟨h1,h2⟩:=Er h
     exact Jd g (Am0 l f ht b hx (Nat.le_of_ble_eq_true h1)) hh h2
    | false=>
     rw [b] at h
     simp only [cond_false] at h
     split at h
     .rename_i c hc
      exact Jd g (Amz l f ht b hx hc) hh h
     .exact h.elim
   .exact h.elim
  .rename_i hd k q j hx
   split at h
   .rename_i E sz xs hh
    obtain ⟨y,hk,hy,h⟩:=h
    cases b:i.isAgg with
    | true=>
     rw [b] at h
     simp only [cond_true] at h
     obtain ⟨h1,h2⟩:=Er h
     exact Jd g (Am2 l f ht b hx hk hy (Nat.le_of_ble_eq_true h1)) hh h2
    | false=>
     rw [b] at h
     simp only [cond_false] at h
     split at h
     .rename_i c hc
      exact Jd g (Am1 l f ht b hx hk hy hc) hh h
     .exact h.elim
   .exact h.elim
  .exact h.elim
 .exact h.elim
theorem Aph (g:B8 P T) (f:Dw H n) {t:TypeId} {x y:Operand} (c:o.op = .store t x y) (h:Df P T an n o ρ H K):J5 P o ρ H n K:=by
 unfold Df at h
 rw [c] at h
 dsimp only at h
 split at h
 .rename_i i ht
  split at h
  .rename_i hd off hx
   split at h
   .rename_i E cs hh
    obtain ⟨h1,h2⟩:=Er h
    simp only [Bool.and_eq_true] at h1
    exact J6 f (Am4 g c ht hx (Nat.eq_of_beq_eq_true h1.1.1) (Nat.le_of_ble_eq_true h1.1.2) h1.2) hh (by intro e; cases e) h2
   .exact h.elim
  .rename_i hd k q j hx
   split at h
   .rename_i E sz xs hh
    obtain ⟨z,hk,l,h⟩:=h
    obtain ⟨h1,h2⟩:=Er h
    simp only [Bool.and_eq_true] at h1
    obtain ⟨⟨⟨⟨g1,g2⟩,g3⟩,g4⟩,g5⟩:=h1
    rw [Wn,Qa] at h2
    obtain ⟨s,b,h2⟩:=h2
    subst b
    exact J6 f (Am6 g c ht hx hk l (Nat.eq_of_beq_eq_true g1) (Nat.le_of_ble_eq_true g2) (Nat.le_of_ble_eq_true g3) g4 (Ape g5)) hh (by intro e; cases e) h2
   .exact h.elim
  .exact h.elim
 .exact h.elim
theorem Api (q:B8 P T) (g:Dw H n) {op:BinOp} {t s:TypeId} {x y:Operand} (f:o.op = .binOp op t x y s) (h:Df P T an n o ρ H K):J5 P o ρ H n K:=by
 unfold Df at h
 rw [f] at h
 dsimp only at h
 split at h
 .rename_i k a j b hx hy
  split at h
  .obtain ⟨c,h1,h2,h3⟩:=h
   exact Cx g (Anh f hx hy h1 h2) h3
  .obtain ⟨c,h1,h2,h3⟩:=h
   exact Cx g (Ang f hx hy h1 h2) h3
  .replace h:=Er h; obtain ⟨hk,h⟩:=h
   have hk:k=j:=by simpa using hk
   subst hk
   split at h
   .obtain ⟨c,h1,h2⟩:=h; exact Cx g (Am8 f hx hy h1) h2
   .obtain ⟨c,h1,h2⟩:=h; exact Cx g (Am9 f hx hy h1) h2
   .obtain ⟨c,h1,h2⟩:=h; exact Cx g (Ana f hx hy h1) h2
   .obtain ⟨c,h1,h2,h3⟩:=h; exact Cx g (Anb f hx hy h1 h2) h3
   .obtain ⟨c,h1,h2,h3⟩:=h; exact Cx g (Anc f hx hy h1 h2) h3
   .split at h
    .rename_i l i; exact Cx g (Ane f hx hy i) h
    .split at h
     .rename_i c hc; exact Cx g (Anf f hx hy hc) h
     .exact h.elim
 .rename_i a b hx hy
  split at h
  .rename_i s1 s2 z ht
   split at h
   .rename_i l i; exact Cx g (Ank q f ht rfl hx hy i) h
   .exact h.elim
  .exact h.elim
 .rename_i xs ys hx hy
  split at h
  .rename_i u h1
   split at h
   .rename_i vs h2
    split at h
    .obtain ⟨b,hb,h⟩:=h
     exact Cx g (Afe f hx hy h1 h2 hb (.inl ⟨rfl,rfl⟩)) h
    .obtain ⟨b,hb,h⟩:=h
     exact Cx g (Afe f hx hy h1 h2 hb (.inr ⟨rfl,rfl⟩)) h
    .exact h.elim
   .exact h.elim
  .exact h.elim
 .rename_i k a j b hx hy
  replace h:=Er h; obtain ⟨hk,h⟩:=h
  have hk:k=j:=by simpa using hk
  subst hk
  obtain ⟨c,h1,h2⟩:=h
  exact Cx g (Ans f hx hy h1) h2
 .rename_i a b hx hy
  split at h
  .obtain ⟨h1,h2⟩:=h; exact Cx g (Ano f hx hy h1) h2
  .split at h
   .rename_i l i; exact Cx g (Anm f hx hy i) h
   .exact h.elim
 .rename_i p E D B A hx hy
  split at h
  .split at h
   .rename_i L J I G ht; exact Cx g (Anl q f ht rfl hx hy) h
   .exact h.elim
  .exact h.elim
 .exact h.elim
theorem Apj (q:B8 P T) (j:Dw H n) {t:TypeId} {x:Operand} {lo hi:Option Operand} (g:o.op = .slice t x lo hi none) (h:Df P T an n o ρ H K):J5 P o ρ H n K:=by
 unfold Df at h
 rw [g] at h
 dsimp only at h
 split at h
 .rename_i e s1 s2 z ht
  split at h
  .rename_i A u
   split at h
   .rename_i sz xs hx
    split at h
    .rename_i y h0 c hh
     replace h:=Er h; obtain ⟨g1,h⟩:=h
     obtain ⟨l,i,ys,el,b,h1,h2,hy,k⟩:=h
     subst el; subst b; subst hy
     exact Cx j (An7 q g ht rfl u (Nat.eq_of_beq_eq_true g1) hx c hh h1 h2) k
    .exact h.elim
   .rename_i hd k off len hx
    split at h
    .rename_i E sz xs f
     split at h
     .rename_i y h0 c hh
      replace h:=Er h; obtain ⟨g1,h⟩:=h
      cases h with
      | mk l i hk el b h1 h2 h3 k=>
       subst el; subst b
       exact Jd j (An9 q g ht rfl u (Nat.eq_of_beq_eq_true g1) hx hk c hh h1 h2 h3) f k
      | mkE l hk el b h2 k=>
       subst el; subst b
       exact Jd j (Aos q g ht rfl u hx hk c hh h2) f k
     .exact h.elim
    .exact h.elim
   .exact h.elim
  .exact h.elim
 .rename_i s1 s2 z ht
  split at h
  .rename_i s hx
   split at h
   .rename_i y h0 c hh
    obtain ⟨l,i,el,b,h1,h2,k⟩:=h
    subst el; subst b
    exact Cx j (An8 q g ht rfl hx c hh h1 h2) k
   .exact h.elim
  .exact h.elim
 .exact h.elim
theorem Apk (B:B8 P T) (A:Dw H n) {c:Call} (u:o.op = .call c) (h:Df P T an n o ρ H K):J5 P o ρ H n K:=by
 unfold Df at h
 rw [u] at h
 dsimp only at h
 split at h
 .rename_i x i
  split at h
  .rename_i f ac hx
   split at h
   .rename_i j ae
    split at h
    .rename_i hd k len hj
     split at h
     .rename_i E sz xs hh
      obtain ⟨hk,I,r,hp,hf,h⟩:=h
      subst hk
      rw [<-I] at hj
      exact J6 A (Apa u i hx hj hp hf) hh (by intro e; cases e) h
     .exact h.elim
    .exact h.elim
   .cases h with
    | mk r hp hf k=>exact Cx A (Ao9 u i hx hp hf) k
    | act l ab hs r ad hp ha ok hh k=>exact Apf A ok hh (Apd u i hx hp ha ok) k
  .exact h.elim
 .exact h.elim
 .rename_i i
  split at h
  .rename_i x t ha z
   rw [Qc i (Ws ha) (Ws z)] at u
   split at h
   .rename_i e s1 s2 Z ht
    split at h
    .rename_i sz xs hx
     split at h
     .obtain ⟨c,hc,h⟩:=h
      subst hc
      exact Cx A (Ae1 B u ht rfl hx) h
     .exact Cx A (Ae1 B u ht rfl hx) h
    .rename_i p m cap hx; exact Cx A (An0 B u ht rfl hx) h
    .rename_i hd k off len hx
     split at h
     .rename_i E sz xs hh
      obtain ⟨hk,h⟩:=h
      exact Jd A (An2 B u ht rfl hx hk) hh h
     .exact h.elim
    .exact h.elim
   .rename_i s1 s2 Z ht
    split at h
    .rename_i s hx; exact Cx A (An1 B u ht rfl hx) h
    .exact h.elim
   .exact h.elim
  .exact h.elim
 .rename_i i
  split at h
  .rename_i x y t t' ha z
   rw [Qc i (Mh ha) (Mh z)] at u
   split at h
   .rename_i e s1 s2 Z ht
    split at h
    .rename_i X J
     split at h
     .rename_i h2 k2 a1 a6 hy
      split at h
      .rename_i hd k off len hx
       split at h
       .rename_i E sz xs hh
        replace h:=Er h; obtain ⟨g5,h⟩:=h
        simp only [Bool.and_eq_true] at g5
        have L:=Nat.eq_of_beq_eq_true g5.1.1.1
        have N:=Nat.eq_of_beq_eq_true g5.1.1.2
        have e3:=Nat.eq_of_beq_eq_true g5.1.2
        have e4:0<X.size:=Nat.le_of_ble_eq_true g5.2
        subst L; subst N; subst e3
        obtain ⟨V,c,hk,I,S,R,D,hc,k⟩:=h
        subst D; subst hc
        exact J6 A (Aoq B u ht rfl J e4 hx hk I hy S R) hh (by intro e; cases e) k
       .exact h.elim
      .rename_i q hx
       split at h
       .rename_i E sz xs hh
        replace h:=Er h; obtain ⟨g5,h⟩:=h
        have L:=Nat.eq_of_beq_eq_true g5
        subst L
        obtain ⟨hk,k⟩:=h
        exact Jd A (Aor B u ht rfl J hx hy hk) hh k
       .exact h.elim
      .exact h.elim
     .exact h.elim
    .exact h.elim
   .exact h.elim
  .exact h.elim
 .rename_i i
  split at h
  .rename_i x t ha z
   rw [Qc i (Ws ha) (Ws z)] at u
   split at h
   .rename_i e s1 s2 Z ht
    split at h
    .rename_i X J
     split at h
     .rename_i hd k off len hx
      split at h
      .rename_i E sz xs hh
       replace h:=Er h; obtain ⟨g5,h⟩:=h
       simp only [Bool.and_eq_true] at g5
       have L:=Nat.eq_of_beq_eq_true g5.1.1.1.1.1
       have N:=Nat.eq_of_beq_eq_true g5.1.1.1.1.2
       have e3:0<X.size:=Nat.le_of_ble_eq_true g5.1.1.1.2
       subst L; subst N
       obtain ⟨V,hk,I,D,k⟩:=h
       subst D
       exact J6 A (Aot B u ht rfl J e3 g5.1.1.2 (Aa7 g5.1.2 g5.2 g5.1.1.2) hx hk I) hh (by intro e; cases e) k
      .exact h.elim
     .rename_i q hx; exact Cx A (Aou B u ht rfl hx) h
     .exact h.elim
    .exact h.elim
   .exact h.elim
  .exact h.elim
 .rename_i i
  split at h
  .rename_i x y t t' ha z
   rw [Qc i (Mh ha) (Mh z)] at u
   split at h
   .rename_i e s1 s2 Z e' aa a8 a7 ht G
    split at h
    .rename_i X J
     replace h:=Er h; obtain ⟨g,h⟩:=h
     simp only [Bool.and_eq_true] at g
     obtain ⟨⟨g1,g2⟩,g3⟩:=g
     have g1:0<X.size:=Nat.le_of_ble_eq_true g1
     have g2:=Nat.eq_of_beq_eq_true g2
     have g3:=Nat.le_of_ble_eq_true g3
     split at h
     .rename_i sz ys hy
      replace h:=Er h; obtain ⟨g4,h⟩:=h
      have g4:=Nat.eq_of_beq_eq_true g4
      subst g4
      split at h
      .rename_i hd k len hx
       split at h
       .rename_i E Y xs hh
        replace h:=Er h; obtain ⟨g5,h⟩:=h
        simp only [Bool.and_eq_true] at g5
        have L:=Nat.eq_of_beq_eq_true g5.1
        have N:=Nat.eq_of_beq_eq_true g5.2
        subst L; subst N
        cases h with
        | mk V m hk I hb D M k=>
         subst I; subst D; subst M
         exact J6 A (Aog B u ht rfl G rfl J g1 g2 g3 hx hk hy hb) hh (by intro e; cases e) k
        | mkP V k' m hk I hb D U M k=>
         subst D; subst M; subst U
         exact J6 A (Aoo B u ht rfl G rfl J g1 g2 g3 hx hk I hy hb) hh (by intro e; cases e) k
       .exact h.elim
      .rename_i hx
       obtain ⟨V,m,hb,D,M,k⟩:=h
       subst D; subst M
       exact Mi A (Aok B n u ht rfl G rfl J g1 g2 g3 hx hy hb) k
      .exact h.elim
     .rename_i h2 k2 a1 a6 hy
      split at h
      .rename_i hd k len hx
       split at h
       .rename_i E Y xs hh
        replace h:=Er h; obtain ⟨g5,h⟩:=h
        simp only [Bool.and_eq_true] at g5
        have L:=Nat.eq_of_beq_eq_true g5.1.1
        have N:=Nat.eq_of_beq_eq_true g5.1.2
        have e3:=Nat.eq_of_beq_eq_true g5.2
        subst L; subst N; subst e3
        obtain ⟨V,k',m,hk,I,S,R,hb,D,U,M,k⟩:=h
        subst D; subst M; subst U
        exact J6 A (Aop B u ht rfl G rfl J g1 g2 g3 hx hk I hy S R hb) hh (by intro e; cases e) k
       .exact h.elim
      .exact h.elim
     .exact h.elim
    .exact h.elim
   .rename_i e s1 s2 Z aa a8 a7 ht G
    split at h
    .rename_i X J
     replace h:=Er h; obtain ⟨g,h⟩:=h
     simp only [Bool.and_eq_true] at g
     obtain ⟨⟨g1,g2⟩,g3⟩:=g
     have g1:=Nat.eq_of_beq_eq_true g1
     have g2:=Nat.eq_of_beq_eq_true g2
     have g3:=Nat.le_of_ble_eq_true g3
     split at h
     .rename_i s hy
      split at h
      .rename_i hd k len hx
       split at h
       .rename_i E Y xs hh
        replace h:=Er h; obtain ⟨g5,h⟩:=h
        simp only [Bool.and_eq_true] at g5
        have L:=Nat.eq_of_beq_eq_true g5.1
        have N:=Nat.eq_of_beq_eq_true g5.2
        subst L; subst N
        obtain ⟨_,_,_,_,_,_,_,_,_,k⟩ | ⟨V,m,hk,I,hb,D,M,k⟩:=h
        .exact k.elim
        subst I; subst D; subst M
        exact J6 A (Aoj B u ht rfl G rfl J g1 g2 g3 hx hk hy hb) hh (by intro e; cases e) k
       .exact h.elim
      .exact h.elim
     .exact h.elim
    .exact h.elim
   .exact h.elim
  .exact h.elim
 .rename_i i
  split at h
  .rename_i x y t t' ha z
   rw [Qc i (Mh ha) (Mh z)] at u
   split at h
   .rename_i k a k' b hx hy
    exact Cx A (Aom u hx hy) h
   .exact h.elim
  .exact h.elim
 .rename_i i
  split at h
  .rename_i x y t t' ha z
   rw [Qc i (Mh ha) (Mh z)] at u
   split at h
   .rename_i k a k' b hx hy
    exact Cx A (Aon u hx hy) h
   .exact h.elim
  .exact h.elim
 .exact h.elim
theorem Af8 (B:B8 P T) (A:Dw H n) (h:Df P T an n o ρ H K):J5 P o ρ H n K:=by
 cases u:o.op with
 | load t x=>exact Apg B A u h
 | store t x y=>exact Aph B A u h
 | binOp op t x y yt=>exact Api B A u h
 | call c=>exact Apk B A u h
 | slice t x lo hi mx=>
  cases mx with
  | none=>exact Apj B A u h
  | some m=>unfold Df at h; rw [u] at h; exact h.elim
 | move x=>unfold Df at h; rw [u] at h; exact Cx A (Amt u) h
 | assign x=>
  unfold Df at h; rw [u] at h; dsimp only at h
  split at h
  .exact Cx A (Sr u) h
  .split at h
   .exact Cx A (Sr u) h
   .exact Cx A (Sr u) h
   .exact Cx A (Sr u) h
   .cases hb:Jc (ρ x) with
    | false=>rw [hb] at h; exact Cx A (Sr u) h
    | true=>
     rw [hb] at h
     simp only [cond_true] at h
     split at h
     .rename_i e s1 s2 G ht
      split at h
      .rename_i N D
       replace h:=Er h; obtain ⟨g1,h⟩:=h
       exact Mi A (Aol B n u (Wr hb) ht rfl D (Nat.le_of_ble_eq_true g1)) h
      .exact h.elim
     .exact h.elim
 | pick c a b=>
  unfold Df at h; rw [u] at h; dsimp only at h
  split at h
  .rename_i t hc; exact Cx A (Amu u hc) h
  .exact h.elim
 | alloc t=>
  unfold Df at h; rw [u] at h; dsimp only at h
  split at h
  .rename_i i ht; exact Mi A (Amv B n u ht) h
  .exact h.elim
 | box t x=>unfold Df at h; rw [u] at h; exact Mi A (Amw n u) h
 | build t parts=>
  unfold Df at h; rw [u] at h; dsimp only at h
  split at h
  .rename_i fs s1 s2 z ht
   split at h
   .rename_i cs hc; exact Cx A (Aoa B u ht rfl hc) h
   .exact h.elim
  .exact h.elim
 | buildSlice t len parts=>
  unfold Df at h; rw [u] at h; dsimp only at h
  split at h
  .rename_i e s1 s2 G ht
   split at h
   .rename_i N D
    replace h:=Er h; obtain ⟨g,h⟩:=h
    simp only [Bool.and_eq_true] at g
    obtain ⟨⟨⟨g1,g2⟩,g3⟩,g4⟩:=g
    have g2:parts.toList.map (·.1)=List.range' 0 len:=by simpa using g2
    have g4:∀p∈parts.toList,Iu N.size (ρ p.2)=true:=List.all_eq_true.1 g4
    split at h
    .exact h.elim
    .rw [Wo] at h
     exact Cx A (Ae6 B u ht rfl D (Nat.le_of_ble_eq_true g1) g2 (Nat.le_of_ble_eq_true g3) g4) h
    .rw [Wo] at h
     exact Cx A (Ae6 B u ht rfl D (Nat.le_of_ble_eq_true g1) g2 (Nat.le_of_ble_eq_true g3) g4) h
    .rw [Wo] at h
     exact Mi A (Aoc B n u ht rfl D (Nat.le_of_ble_eq_true g1) g2 (Nat.le_of_ble_eq_true g3) g4) h
   .exact h.elim
  .exact h.elim
 | nilCheck x=>
  unfold Df at h; rw [u] at h; dsimp only at h
  replace h:=Er h; obtain ⟨g1,h⟩:=h
  exact Cx A (Am7 u g1) h
 | unOp op t x=>
  unfold Df at h; rw [u] at h; dsimp only at h
  split at h
  .rename_i b hx; exact Cx A (Anp u hx) h
  .rename_i k m hx
   obtain ⟨c,h1,h2⟩:=h
   exact Cx A (Anq u hx h1) h2
  .exact h.elim
 | convert s d x=>
  unfold Df at h; rw [u] at h; dsimp only at h
  split at h
  .rename_i i k s1 s2 G J m hs hd hx
   obtain ⟨c,h1,h2⟩:=h
   exact Cx A (Anr B u hs hd rfl hx h1) h2
  .rename_i v0 k0 s1 s2 G k1 m h1 h2 hx
   exact Cx A (Ant B u h1 h2 rfl hx) h
  .rename_i v0 k0 s1 s2 G q m h1 h2 hx
   obtain ⟨c,g1,g2⟩:=h
   exact Cx A (Anu B u h1 h2 rfl hx g1) g2
  .exact h.elim
 | makeFunc fn first X=>
  cases fn with
  | func f=>
   unfold Df at h; rw [u] at h; dsimp only at h
   replace h:=Er h; obtain ⟨g1,h⟩:=h
   have:first = #[]:=by simpa using g1
   subst this
   exact Cx A (An6 u) h
  | _=>unfold Df at h; rw [u] at h; exact h.elim
 | makeSlice t x y=>
  unfold Df at h; rw [u] at h; dsimp only at h
  split at h
  .rename_i e s1 s2 G ht
   split at h
   .rename_i N D
    split at h
    .rename_i k l J c hx hy
     replace h:=Er h; obtain ⟨g,h⟩:=h
     simp only [Bool.and_eq_true] at g
     obtain ⟨⟨⟨g1,g2⟩,g3⟩,g4⟩:=g
     rcases h with ⟨l',c',Y,el,V,h1,h2,h3,M,k⟩ | ⟨Z,S,l',c',Y,el,V,h1,h2,h3,M,k⟩
     .subst el; subst V; subst M
      exact Mi A (Aod B n u ht rfl D (Nat.le_of_ble_eq_true g1) hx hy h1 h2 h3 g2 (Aa7 g3 g4 g2)) k
     .subst el; subst V; subst M
      exact Mi A (Aoe B Z n u ht rfl D (Nat.le_of_ble_eq_true g1) hx hy h1 h2 h3 g2 (Aa7 g3 g4 g2) S) k
    .exact h.elim
   .exact h.elim
  .exact h.elim
 | fieldAddr s x f=>
  unfold Df at h; rw [u] at h; dsimp only at h
  split at h
  .rename_i fs s1 s2 G ht
   split at h
   .rename_i q hf
    split at h
    .rename_i hd off hx; exact Cx A (Anw B u ht rfl hf hx) h
    .rename_i cs hx; exact Cx A (Anx B u ht rfl hf hx) h
    .rename_i hd k m j hx
     split at h
     .rename_i E sz xs hh
      obtain ⟨hk,h⟩:=h
      exact Jd A (Anz B u ht rfl hf hx hk) hh h
     .exact h.elim
    .exact h.elim
   .exact h.elim
  .exact h.elim
 | indexAddr t x y=>
  unfold Df at h; rw [u] at h; dsimp only at h
  split at h
  .rename_i e s1 s2 G ht
   split at h
   .rename_i N D
    split at h
    .rename_i sz xs k i hx hy
     replace h:=Er h; obtain ⟨g1,h⟩:=h
     obtain ⟨m,z,hi,M,J⟩:=h
     subst hi
     exact Cx A (An3 B u ht rfl D (Nat.eq_of_beq_eq_true g1) hx hy M) J
    .rename_i hd k off len kk i hx hy
     split at h
     .rename_i E sz xs hh
      replace h:=Er h; obtain ⟨g1,h⟩:=h
      obtain ⟨m,hk,hi,hm,J⟩:=h
      subst hi
      exact Jd A (An4 B u ht rfl D hx hk hy hm (Nat.eq_of_beq_eq_true g1)) hh J
     .exact h.elim
    .exact h.elim
   .exact h.elim
  .exact h.elim
 | index t x y=>
  unfold Df at h; rw [u] at h; dsimp only at h
  split at h
  .rename_i s1 s2 G ht
   split at h
   .rename_i s k i hx hy
    obtain ⟨m,c,hi,hc,J⟩:=h
    subst hi
    exact Cx A (An5 B u ht rfl hx hy hc) J
   .exact h.elim
  .exact h.elim
 | field t x f=>
  unfold Df at h; rw [u] at h; dsimp only at h
  split at h
  .rename_i fs s1 s2 G ht
   split at h
   .rename_i q hq
    split at h
    .rename_i cs hx
     obtain ⟨ft,hf,h⟩:=h
     split at h
     .rename_i R D
      cases I:R.isAgg with
      | true=>
       rw [I] at h
       simp only [cond_true] at h
       obtain ⟨h1,h2⟩:=Er h
       exact Cx A (Aff B u ht rfl hq hf D hx (.inl ⟨I,Nat.le_of_ble_eq_true h1,rfl⟩)) h2
      | false=>
       rw [I] at h
       simp only [cond_false] at h
       split at h
       .rename_i c hc
        exact Cx A (Aff B u ht rfl hq hf D hx (.inr ⟨I,hc⟩)) h
       .exact h.elim
     .exact h.elim
    .exact h.elim
   .exact h.elim
  .exact h.elim
 | makeMap t r=>
  cases r with
  | none=>unfold Df at h; rw [u] at h; exact Mi A (Aow n u) h
  | some q=>unfold Df at h; rw [u] at h; exact h.elim
 | lookup t x y ok=>
  unfold Df at h; rw [u] at h; dsimp only at h
  split at h
  .rename_i kt et s1 s2 G ht
   split at h
   .rename_i q1 q2 q3 hk
    split at h
    .rename_i R D
     split at h
     .rename_i hd hx
      split at h
      .rename_i s hy
       split at h
       .rename_i es hh
        obtain ⟨r,L,h⟩:=h
        exact Jd A (Aox B u ht rfl hk rfl D hx hy L) hh h
       .exact h.elim
      .exact h.elim
     .exact h.elim
    .exact h.elim
   .split at h
    .rename_i R D
     split at h
     .rename_i hd hx
      split at h
      .rename_i ks hy
       split at h
       .rename_i us hu
        split at h
        .rename_i es hh
         obtain ⟨r,hc,L,h⟩:=h
         exact Jd A (Aoz B u ht rfl D hx hy hu hc L) hh h
        .exact h.elim
       .exact h.elim
      .exact h.elim
     .exact h.elim
    .exact h.elim
   .exact h.elim
  .exact h.elim
 | mapUpdate t x y z=>
  unfold Df at h; rw [u] at h; dsimp only at h
  split at h
  .rename_i kt et s1 s2 G ht
   split at h
   .rename_i q1 q2 q3 hk
    split at h
    .rename_i hd hx
     split at h
     .rename_i s hy
      split at h
      .rename_i es hh
       obtain ⟨g1,h⟩:=Er h
       rw [Qa] at h
       obtain ⟨U,L,h⟩:=h
       exact J6 A (Aoy B u ht rfl hk rfl hx hy g1 L) hh (by intro e; cases e) h
      .exact h.elim
     .exact h.elim
    .exact h.elim
   .split at h
    .rename_i hd hx
     split at h
     .rename_i ks hy
      split at h
      .rename_i us hu
       split at h
       .rename_i es hh
        obtain ⟨g1,h⟩:=Er h
        rw [Qa] at h
        obtain ⟨U,hc,L,rfl,h⟩:=h
        exact J6 A (Ao0 B u ht rfl hx hy hu g1 hc L) hh (by intro e; cases e) h
       .exact h.elim
      .exact h.elim
     .exact h.elim
    .exact h.elim
   .exact h.elim
  .exact h.elim
 | extract x i=>
  unfold Df at h; rw [u] at h; dsimp only at h
  split at h
  .rename_i cs hx
   split at h
   .rename_i c hc; exact Cx A (Anv u hx hc) h
   .exact h.elim
  .exact h.elim
 | _=>unfold Df at h; rw [u] at h; exact h.elim
end
end Go.Ab
namespace Go.Ab
theorem Hr {t:Bool} {A B:Prop} (h:t=true) (k:A):bif t then A else B:=by rw [h]; exact k
theorem Aa8 {t:Bool} {A B:Prop} (h:t=false) (k:B):bif t then A else B:=by rw [h]; exact k
abbrev Gk:=List (List Nat×List Nat)
def Je (l:List (Nat×Nat)):Nat->List O->List O
 | _,[]=>[]
 | i,x::xs=>(bif Jc x then (match l.lookup i with | some sz=>.sl sz [] | none=>x) else x)::Je l (i+1) xs
def elN (l:List (Nat×Nat)) (x:O):O :=
 match x with
 | .val (.agg vs)=>.agg (Je l 1000 (vs.toList.map .val))
 | .agg cs=>.agg (Je l 1000 cs)
 | x=>x
def Jf (l:List (Nat×Nat)) (x:O):O :=
 match l with
 | []=>x
 | p::l=>
  match x with
  | .sl sz xs=>bif Nat.ble 1000 p.1 then .sl sz (xs.map (elN (p::l))) else .sl sz xs
  | .agg cs=>.agg (Je (p::l) 0 cs)
  | x=>bif Jc x then .sl p.2 [] else x
def J7 (nl:Nat->List (Nat×Nat)):Option Nat->List (Nat×Nat)
 | none=>[]
 | some d=>nl d
theorem Wt {σ:Ar} {ι:Bf} {H:Hp} {x:O} {v:Value} {sz:Nat} (hx:Jc x=true) (h:Conc σ ι H x v):Conc σ ι H (.sl sz []) v:=by
 rw [Wr hx] at h
 rw [h.val_inv]
 exact .cc (.nil sz none 0)
theorem Aa9 {l:List (Nat×Nat)}:∀{cs:List O} {i k:Nat} {c:O},(Je l k cs)[i]? = some c->∃b,cs[i]? = some b/\(c=b\/(Jc b=true/\∃sz,c = .sl sz []))
 | [],i,k,c,h=>by simp [Je] at h
 | x::xs,0,k,c,h=>by
  simp only [Je,List.getElem?_cons_zero,Option.some.injEq] at h
  refine ⟨x,rfl,?_⟩
  cases hx:Jc x with
  | false=>rw [hx] at h; exact .inl h.symm
  | true=>
   rw [hx] at h
   simp only [cond_true] at h
   split at h
   .rename_i sz _; exact .inr ⟨rfl,sz,h.symm⟩
   .exact .inl h.symm
 | x::xs,i+1,k,c,h=>by
  simp only [Je,List.getElem?_cons_succ] at h
  obtain ⟨b,h1,h2⟩:=Aa9 h
  exact ⟨b,by simpa using h1,h2⟩
theorem Aba {l:List (Nat×Nat)}:∀{cs:List O} {k:Nat},(Je l k cs).length=cs.length
 | [],_=>rfl
 | x::xs,k=>by simp only [Je,List.length_cons,Aba]
theorem Apl {l:List (Nat×Nat)} {σ:Ar} {x:O}:(elN l x).cells.length=x.cells.length/\∀(j:Nat) (c b:O) (u:Value),x.cells[j]? = some c->(elN l x).cells[j]? = some b->CC σ c u->CC σ b u:=by
 have key:∀cs:List O,(Je l 1000 cs).length=cs.length/\∀(j:Nat) (c b:O) (u:Value),cs[j]? = some c->(Je l 1000 cs)[j]? = some b->CC σ c u->CC σ b u:=by
  intro cs
  refine ⟨Aba,fun j c b u h1 h2 h3=>?_⟩
  obtain ⟨f,g1,rfl | ⟨g2,sz,rfl⟩⟩:=Aa9 h2
  .rw [h1] at g1; cases g1; exact h3
  .rw [h1] at g1; cases g1
   rw [Wr g2] at h3
   cases h3
   exact .nil sz none 0
 unfold elN
 split
 .exact key _
 .exact key _
 .exact ⟨rfl,fun j c b u h1 h2 h3=>by rw [h1] at h2; cases h2; exact h3⟩
theorem CC.mapEl {σ:Ar} {sz:Nat} {xs:List O} {v:Value} (f:O->O) (B:∀x,(f x).cells.length=x.cells.length/\∀(j:Nat) (c k:O) (u:Value),x.cells[j]? = some c->(f x).cells[j]? = some k->CC σ c u->CC σ k u) (h:CC σ (.sl sz xs) v):CC σ (.sl sz (xs.map f)) v:=by
 cases h with
 | nil sz a cap=>exact .nil sz a cap
 | sl _ b off cap _ C E fr g D G hc h1 J I s=>
  have q:(xs.map f).length=xs.length:=by simp
  have l:∀(i:Nat) (y:O) (j:Nat) (k:O),(xs.map f)[i]? = some y->y.cells[j]? = some k->∃x c,xs[i]? = some x/\x.cells[j]? = some c/\y=f x:=by
   intro i y j k g1 g2
   rw [List.getElem?_map] at g1
   cases hx:xs[i]? with
   | none=>rw [hx] at g1; cases g1
   | some x=>
    rw [hx] at g1; cases g1
    have hj:j<x.cells.length:=by rw [<-(B x).1]; exact (List.getElem?_eq_some_iff.1 g2).1
    exact ⟨x,x.cells[j],rfl,List.getElem?_eq_getElem hj,rfl⟩
  rw [<-q]
  refine .sl (xs.map f) b off cap sz C E fr g D ?_ ?_ ?_ (fun i j hi hj=>J i j (by simpa using hi) hj) (by simpa using I) (by simpa using s)
  .intro i y hy
   rw [List.getElem?_map] at hy
   cases hx:xs[i]? with
   | none=>rw [hx] at hy; cases hy
   | some x=>rw [hx] at hy; cases hy; rw [(B x).1]; exact G i x hx
  .intro i y j k g1 g2
   obtain ⟨x,c,A,z,rfl⟩:=l i y j k g1 g2
   exact (B x).2 j c k _ z g2 (hc i x j c A z)
  .intro i y j k g1 g2
   obtain ⟨x,c,A,z,rfl⟩:=l i y j k g1 g2
   exact h1 i x j c A z
theorem Apm {l:List (Nat×Nat)} {σ:Ar} {ι:Bf} {H:Hp} {x:O} {v:Value} (h:Conc σ ι H x v):Conc σ ι H (Jf l x) v:=by
 unfold Jf
 split
 .exact h
 .split
  .rename_i _ p l _ sz xs
   cases hb:Nat.ble 1000 p.1 with
   | false=>exact h
   | true=>exact .cc (h.sl_inv.mapEl _ fun x=>Apl)
  .rename_i cs
   obtain ⟨vs,rfl,f,b⟩:=h.agg_inv
   refine .agg _ vs (by rw [Aba]; exact f) fun i c u h1 h2=>?_
   obtain ⟨j,h3,rfl | ⟨g,sz,rfl⟩⟩:=Aa9 h1
   .exact b i _ u h3 h2
   .exact Wt g (b i _ u h3 h2)
  .cases hx:Jc x with
   | false=>exact h
   | true=>exact Wt hx h
theorem Bk.nils {P:Program} {o:Oper} {ρ:Operand->O} {b:Eff} (l:List (Nat×Nat)) (h:Bk P o ρ b):Bk P o ρ ⟨Jf l b.r,b.rd,b.wr⟩ :=
 fun σ ι H F W w a next Q s hx g hk=>h σ ι H F W w a next Q s hx g fun c f v w' le s' hc=>hk c f v w' le s' (Apm hc)
def Hs (e:Bc) (d:Option Nat) (r:O) (H:Hp) (b:List (Nat×Ba)) (K:Bc->Hp->Prop):Prop :=
 match d with
 | none=>
  (match b with
  | []=>K e H
  | [p]=>K e (Ay H p.1 p.2)
  | p::q::l=>K e (Bv H (p::q::l)))
 | some t=>
  (match b with
  | []=>K (Ay e t r) H
  | [p]=>K (Ay e t r) (Ay H p.1 p.2)
  | p::q::l=>K (Ay e t r) (Bv H (p::q::l)))
theorem Wu (e:Bc) (d:Option Nat) (r:O) (H:Hp) (b:List (Nat×Ba)) (K:Bc->Hp->Prop):Hs e d r H b K=K (put e d r) (Bv H b):=by
 cases d <;> cases b with
 | nil=>rfl
 | cons p l=>cases l <;> rfl
def Ht (P:Program) (T:B7) (an:Nat->Ann) (nl:Nat->List (Nat×Nat)) (ops:Array Oper):List Oper->List Nat->Nat->Bc->Hp->Gk->(Nat->Bc->Hp->Gk->Prop)->Prop
 | [],_,n,e,H,acc,K=>K n e H acc
 | o::os,f,n,e,H,acc,K=>
  match o.guard with
  | none=>Df P T an n o (ev e) H fun c m=>Iy (Jf (J7 nl o.dst) c.r) fun r=>Ku c.wr fun wr=>G7 c.rd fun h=>G7 wr fun g=>Hs e o.dst r H wr fun e H=>Ht P T an nl ops os f m e H (acc++[(h,g)]) K
  | some p=>
   match (ops[p.1]?).bind (·.dst) with
   | none=>False
   | some s=>
    match e s with
    | .val (.bool b)=>
     match f.elem s with
     | true=>
      (match b with
      | true=>
       (match p.2 with
       | true=>Df P T an n o (ev e) H fun c m=>Iy (Jf (J7 nl o.dst) c.r) fun r=>Ku c.wr fun wr=>G7 c.rd fun h=>G7 wr fun g=>Hs e o.dst r H wr fun e H=>Ht P T an nl ops os f m e H (acc++[(h,g)]) K
       | false=>Hs e o.dst (.val undef) H [] fun e H=>Ht P T an nl ops os f n e H (acc++[([],[])]) K)
      | false=>
       (match p.2 with
       | true=>Hs e o.dst (.val undef) H [] fun e H=>Ht P T an nl ops os f n e H (acc++[([],[])]) K
       | false=>Df P T an n o (ev e) H fun c m=>Iy (Jf (J7 nl o.dst) c.r) fun r=>Ku c.wr fun wr=>G7 c.rd fun h=>G7 wr fun g=>Hs e o.dst r H wr fun e H=>Ht P T an nl ops os f m e H (acc++[(h,g)]) K))
     | false=>
      bif b then
       (match p.2 with
       | true=>Df P T an n o (ev (Ay e s (.val (.bool true)))) H fun c m=>Iy (Jf (J7 nl o.dst) c.r) fun r=>Ku c.wr fun wr=>G7 c.rd fun h=>G7 wr fun g=>Hs (Ay e s (.val (.bool true))) o.dst r H wr fun e H=>Ht P T an nl ops os (s::f) m e H (acc++[(h,g)]) K
       | false=>Hs (Ay e s (.val (.bool true))) o.dst (.val undef) H [] fun e H=>Ht P T an nl ops os (s::f) n e H (acc++[([],[])]) K)
      else
       (match p.2 with
       | true=>Hs (Ay e s (.val (.bool false))) o.dst (.val undef) H [] fun e H=>Ht P T an nl ops os (s::f) n e H (acc++[([],[])]) K
       | false=>Df P T an n o (ev (Ay e s (.val (.bool false)))) H fun c m=>Iy (Jf (J7 nl o.dst) c.r) fun r=>Ku c.wr fun wr=>G7 c.rd fun h=>G7 wr fun g=>Hs (Ay e s (.val (.bool false))) o.dst r H wr fun e H=>Ht P T an nl ops os (s::f) m e H (acc++[(h,g)]) K)
    | .val (.tuple _)=>Hs e o.dst (.val undef) H [] fun e H=>Ht P T an nl ops os f n e H (acc++[([],[])]) K
    | _=>False
inductive J8 (ops:List Oper) (acc:Gk) (K:Prop):Prop where
 | mk (h:Aat ops acc=true) (k:K)
inductive Ex where
 | normal
 | exit (id:Nat)
 | ret
def Fr (e:Bc):List (Nat×O)->Prop
 | []=>True
 | p::l=>e p.1=p.2/\Fr e l
def Fs (H H':Hp):Nat->Nat->Prop
 | 0,_=>True
 | k+1,n=>(H k=H' k/\(H' k).under n=true)/\Fs H H' k n
def H7 (b:List Nat) (e:Bc) (u:Nat->Value) (l:List (Nat×O)):Bc:=l.foldr (fun p e=>Ay e p.1 p.2) (b.foldr (fun s e=>Ay e s (.val (u s))) e)
def Iz (n:Nat) (b:List (Nat×O)) (c:List (Nat×Ba)):Bool:=(b.all fun p=>p.2.under n)&&c.all fun p=>Nat.blt p.1 n
inductive Apn (n:Nat) (ws:List Nat) (e:Bc) (H:Hp) (body:(Nat->Bc->Hp->Prop)->Nat->Bc->Hp->Prop):Prop where
 | mk (I:Type) (inv:I->Prop) (iv:I->List (Nat×O)) (hv:I->List (Nat×Ba)) (m:I->Nat) (i0:I) (hb:∀i,Iz n (iv i) (hv i)=true)
   (h0:inv i0) (hs:Fr e (iv i0)) (hh:Fs H (Bv H (hv i0)) n n)
   (step:∀(i:I) (u:Nat->Value),inv i->body (fun _ e' H'=>∃i',inv i'/\Fr e' (iv i')/\Fs H' (Bv H (hv i')) n n/\m i' < m i) n (H7 ws e u (iv i)) (Bv H (hv i)))
def D7:Code->List Nat
 | .region _ ops _=>ops.toList.filterMap (·.dst)
 | .seq a b=>D7 a++D7 b
 | .cond _ a b=>D7 a++D7 b
 | .block _ b=>D7 b
 | .loop b=>D7 b
 | .scope b=>D7 b
 | _=>[]
def Wv:List Nat->Bc->Hp->(Bc->Hp->Prop)->Prop
 | [],e,H,K=>K e H
 | s::b,e,H,K=>
  match e s with
  | .arr h k 0 len=>
   match H h with
   | .rows _ sz xs=>Fi k xs (Fi len xs (Wv b (Ay e s (.sl sz xs)) (Ay H h .dead) K))
   | _=>False
  | _=>False
structure Cfg where
 T:B7
 an:Nat->Ann:=fun _=>.std
 gh:Nat->List Nat:=fun _=>[]
 nl:Nat->List (Nat×Nat):=fun _=>[]
def Af9 (x:O) (A B:Prop):Prop :=
 match x with
 | .val (.bool t)=>bif t then A else B
 | _=>False
def vc (P:Program) (C:Cfg):Code->(Ex->Nat->Bc->Hp->Prop)->Nat->Bc->Hp->Prop
 | .skip,Q,n,e,H=>Q .normal n e H
 | .region id ops draw,Q,n,e,H=>Wv (C.gh id) e H fun e H=>
   Ht P C.T C.an C.nl ops ops.toList [] n e H [] fun n e H acc=>bif draw then J8 ops.toList acc (Q .normal n e H) else Q .normal n e H
 | .seq a b,Q,n,e,H=>vc P C a (fun x n e H=>match x with
   | .normal=>vc P C b Q n e H
   | .exit id=>Q (.exit id) n e H
   | .ret=>Q .ret n e H) n e H
 | .cond c a b,Q,n,e,H=>Af9 (ev e c) (vc P C a Q n e H) (vc P C b Q n e H)
 | .block id b,Q,n,e,H=>vc P C b (fun x n e H=>match x with
   | .normal=>Q .normal n e H
   | .exit i=>bif Nat.beq i id then Q .normal n e H else Q (.exit i) n e H
   | .ret=>Q .ret n e H) n e H
 | .loop b,Q,n,e,H=>Apn n (D7 b) e H fun K n e H=>vc P C b (fun x n e H=>match x with
   | .normal=>K n e H
   | .exit id=>Q (.exit id) n e H
   | .ret=>Q .ret n e H) n e H
 | .exit id,Q,n,e,H=>Q (.exit id) n e H
 | .ret,Q,n,e,H=>Q .ret n e H
 | _,_,_,_,_=>False
def Aga (N:Nat) (x:Operand):Bool :=
 match x with
 | .tmp t=>Nat.blt t N
 | _=>true
def Hu (N:Nat):Code->Bool
 | .region _ ops _=>ops.toList.all fun o=>(Ix ops o).all fun s=>Nat.blt s N
 | .seq a b=>Hu N a&&Hu N b
 | .cond c a b=>Aga N c&&Hu N a&&Hu N b
 | .block _ b=>Hu N b
 | .loop b=>Hu N b
 | .scope b=>Hu N b
 | _=>true
def Ex.out:Ex->Exit
 | .normal=>.normal
 | .exit id=>.exit id
 | .ret=>.ret
section
variable {P:Program} {T:B7} {an:Nat->Ann} {nl:Nat->List (Nat×Nat)} {ops:Array Oper} {F:Ar} {W:World} {Q:Exit->Act->World->Prop}
theorem Ww {α:Type} {e:Nat->α} {s:Nat} {v:α} (h:e s=v):Ay e s v=e:=by subst h; exact Gr e s
theorem Abb (M:B8 P T):∀(os:List Oper) (g:List Nat) (i n:Nat) (e:Bc) (H:Hp) (acc:Gk) (K:Nat->Bc->Hp->Gk->Prop),ops.toList.drop i=os->acc.length=i->Dw H n->Ht P T an nl ops os g n e H acc K ->
  ∃f e' H' accs,K f e' H' accs/\accs.take i=acc/\accs.length=i+os.length/\n<=f/\Dw H' f/\Run P ops (fun k=>accs.getD k ([],[])) (List.range' i os.length) e H e' H'
 | [],g,i,n,e,H,acc,K,hd,y,D,h=>⟨n,e,H,acc,h,by rw [<-y]; simp,by simpa using y,Nat.le_refl _,D,.nil e H⟩
 | o::os,g,i,n,e,H,acc,K,hd,y,D,h=>by
  have N:ops[i]? = some o:=by
   have:=congrArg (fun l=>l[0]?) hd
   simpa using this
  have A:ops.toList.drop (i+1)=os:=by
   have:=congrArg (List.drop 1) hd
   simpa [List.drop_drop] using this
  have run:∀(u:Bc) (g:List Nat),Gj ops o u true->(Df P T an n o (ev u) H fun c m=>Iy (Jf (J7 nl o.dst) c.r) fun r=>Ku c.wr fun wr=>G7 c.rd fun S=>G7 wr fun R=>Hs u o.dst r H wr fun e H=>Ht P T an nl ops os g m e H (acc++[(S,R)]) K) ->
    ∃f e' H' accs,K f e' H' accs/\accs.take i=acc/\accs.length=i+(o::os).length/\n<=f/\Dw H' f/\Run P ops (fun k=>accs.getD k ([],[])) (List.range' i (o::os).length) u H e' H':=by
   intro u g j x
   obtain ⟨c,m,h1,h2,h3,h4,Y⟩:=Af8 M D x
   simp only [Qa,Aa0,Aa1,Wu] at h3
   obtain ⟨f,e',H',accs,I,B,V,U,G,E⟩:=Abb M os g (i+1) m _ _ _ K A (by simp [y]) Y h3
   have L:accs[i]? = some (c.rd.map (·.1),c.wr.map (·.1)):=by
    have Z:(accs.take (i+1))[i]? = accs[i]?:=List.getElem?_take_of_lt (by omega)
    rw [<-Z,B,List.getElem?_append_right (by omega)]
    simp [y]
   have z:accs.getD i ([],[])=(c.rd.map (·.1),c.wr.map (·.1)):=by simp [List.getD,L]
   refine ⟨f,e',H',accs,I,?_,by simp only [List.length_cons]; omega,by omega,G,?_⟩
   .have:=congrArg (List.take i) B
    rw [List.take_take] at this
    simpa [y] using this
   .rw [List.length_cons,List.range'_succ]
    refine .cons o (Jf (J7 nl o.dst) c.r) c.wr ⟨N,.inl ⟨j,_,h1.nils (J7 nl o.dst),h2,?_,?_,rfl,rfl⟩⟩ E
    .intro p hp; show p.1∈(accs.getD i ([],[])).1; rw [z]; exact List.mem_map_of_mem hp
    .intro p hp; show p.1∈(accs.getD i ([],[])).2; rw [z]; exact List.mem_map_of_mem hp
  have skip:∀(u:Bc) (g:List Nat),Gj ops o u false->(Hs u o.dst (.val undef) H [] fun e H=>Ht P T an nl ops os g n e H (acc++[([],[])]) K) ->
    ∃f e' H' accs,K f e' H' accs/\accs.take i=acc/\accs.length=i+(o::os).length/\n<=f/\Dw H' f/\Run P ops (fun k=>accs.getD k ([],[])) (List.range' i (o::os).length) u H e' H':=by
   intro u g j x
   rw [Wu] at x
   obtain ⟨f,e',H',accs,I,B,V,U,G,E⟩:=Abb M os g (i+1) n _ _ _ K A (by simp [y]) D x
   refine ⟨f,e',H',accs,I,?_,by simp only [List.length_cons]; omega,by omega,G,?_⟩
   .have:=congrArg (List.take i) B
    rw [List.take_take] at this
    simpa [y] using this
   .rw [List.length_cons,List.range'_succ]
    exact .cons o (.val undef) [] ⟨N,.inr ⟨j,rfl,rfl⟩⟩ E
  simp only [Ht] at h
  cases q:o.guard with
  | none=>
   rw [q] at h
   exact run e g (by unfold Gj; rw [q]) h
  | some p=>
   rw [q] at h
   simp only [] at h
   cases x:(ops[p.1]?).bind (·.dst) with
   | none=>rw [x] at h; exact h.elim
   | some s=>
    rw [x] at h
    simp only [] at h
    split at h
    .rename_i b hb
     have j:∀on,on=(b==p.2)->Gj ops o e on:=by
      intro on J
      unfold Gj; rw [q]
      exact ⟨s,.bool b,x,hb,by rw [J]; cases b <;> cases p.2 <;> rfl⟩
     cases hk:g.elem s with
     | true=>
      rw [hk] at h
      simp only [] at h
      cases b with
      | true=>
       cases hp:p.2 with
       | true=>rw [hp] at h; exact run e _ (j true (by rw [hp]; rfl)) h
       | false=>rw [hp] at h; exact skip e _ (j false (by rw [hp]; rfl)) h
      | false=>
       cases hp:p.2 with
       | true=>rw [hp] at h; exact skip e _ (j false (by rw [hp]; rfl)) h
       | false=>rw [hp] at h; exact run e _ (j true (by rw [hp]; rfl)) h
     | false=>
      rw [hk] at h
      simp only [] at h
      cases b with
      | true=>
       rw [Ww hb] at h
       simp only [cond_true] at h
       cases hp:p.2 with
       | true=>rw [hp] at h; exact run e _ (j true (by rw [hp]; rfl)) h
       | false=>rw [hp] at h; exact skip e _ (j false (by rw [hp]; rfl)) h
      | false=>
       rw [Ww hb] at h
       simp only [cond_false] at h
       cases hp:p.2 with
       | true=>rw [hp] at h; exact skip e _ (j false (by rw [hp]; rfl)) h
       | false=>rw [hp] at h; exact run e _ (j true (by rw [hp]; rfl)) h
    .rename_i vs X
     exact skip e _ (by unfold Gj; rw [q]; exact ⟨s,_,x,X,rfl⟩) h
    .exact h.elim
end
end Go.Ab
namespace Go.Ab
section
variable {P:Program} {C:Cfg} {F:Ar} {W:World}
theorem Agb {c:Code} {Q:Exit->Act->World->Prop} {a:Act} {w:World} (J:Nat->Act->World->Prop) (B:Nat) (h0:J B a w)
  (g:∀k a w,J k a w->c.wp P (Exit.then (fun q w'=>∃s,s<k/\J s q w') Q) a w):(Code.loop c).wp P Q a w:=by
 intro b u cs
 have key:∀k a w,J k a w->∃e q w',Q e q w'/\Arrives P (lone (b.at a (.code c :: .inLoop c::u)) cs w) b u cs e q w':=by
  intro k
  induction k using Nat.strongRecOn with
  | _ k ih=>
   intro a w E
   obtain ⟨e,j,i,hq,f⟩:=g k a w E b (.inLoop c::u) cs
   cases e with
   | normal=>
    obtain ⟨s,z,A⟩:=hq
    obtain ⟨G,I,D,y,h⟩:=ih s z j i A
    exact ⟨G,I,D,y,.of_steps (Steps.trans f (.one step_inLoop)) h⟩
   | exit id=>exact ⟨_,j,i,hq,.pass (x:=.inLoop c) rfl (fun _ _=>.inl (by simp)) f⟩
   | goto l=>exact ⟨_,j,i,hq,.pass (x:=.inLoop c) rfl (fun _ _=>.inl (by simp)) f⟩
   | ret=>exact ⟨_,j,i,hq,.pass (x:=.inLoop c) rfl (fun _ _=>.inl (by simp)) f⟩
   | panic L=>exact ⟨_,j,i,hq,.pass (x:=.inLoop c) rfl (fun _ _=>.inl (by simp)) f⟩
   | outgrown=>exact ⟨_,j,i,hq,.pass (x:=.inLoop c) rfl (fun _ _=>.inl (by simp)) f⟩
 obtain ⟨e,q,w',hq,f⟩:=key B a w h0
 exact ⟨e,q,w',hq,.of_steps (.one step_loop) f⟩
theorem Apo {n:Nat} {x:O} (h:x.under2 n=true) (hx:∀cs,x≠.agg cs):x.under1 n=true:=by
 cases x <;> first | exact h | exact (hx _ rfl).elim
theorem Conc.restrict {σ:Ar} {ι A:Bf} {H H':Hp} {n:Nat} (D:∀h,h<n->A h=ι h) (G:∀h,h<n->H' h=H h) {x:O} {v:Value} (hx:x.under n=true) (h:Conc σ ι H x v):Conc σ A H' x v:=by
 have l:∀{x:O} {v:Value},x.under0 n=true->Conc σ ι H x v->Conc σ A H' x v:=by
  intro x v hx h
  cases h with
  | cc h=>exact .cc h
  | loc h off b hb=>exact .loc h off b (by rw [D h (Fq hx)]; exact hb)
  | mp h b hb=>exact .mp h b (by rw [D h (Fq hx)]; exact hb)
  | arr h k off len v I B y=>
   have s:=Fq hx
   exact .arr h k off len v (by rw [G h s]; exact I) (by rw [D h s,G h s]; exact B) y
  | el h k i j v I B y=>
   have s:=Fq hx
   exact .el h k i j v (by rw [G h s]; exact I) (by rw [D h s,G h s]; exact B) y
  | ref cs b off C E fr g N hc h1 R=>exact .ref cs b off C E fr g N hc h1 R
  | agg=>cases hx
  | tup=>cases hx
  | fn=>cases hx
 have key:∀{x:O} {v:Value},x.under1 n=true->Conc σ ι H x v->Conc σ A H' x v:=by
  intro x v hx h
  cases x with
  | fn f cs=>
   obtain ⟨vs,rfl,z,h⟩:=h.fn_inv
   exact .fn f cs vs z fun i c u h1 h2=>l (List.all_eq_true.1 hx c (List.mem_of_getElem? h1)) (h i c u h1 h2)
  | agg cs=>cases hx
  | tup cs=>cases hx
  | val u=>exact l (x:=(.val u)) hx h
  | loc q off=>exact l (x:=(.loc q off)) hx h
  | arr q k off len=>exact l (x:=(.arr q k off len)) hx h
  | el q k i j=>exact l (x:=(.el q k i j)) hx h
  | mp q=>exact l (x:=(.mp q)) hx h
  | ref cs=>exact l (x:=(.ref cs)) hx h
  | sl sz xs=>exact l (x:=(.sl sz xs)) hx h
 have cells:∀{cs:List O},cs.all (O.under1 n)=true->∀(i:Nat) (c:O) (u:Value),cs[i]? = some c->Conc σ ι H c u->Conc σ A H' c u :=
  fun L i c u hc h=>key (List.all_eq_true.1 L c (List.mem_of_getElem? hc)) h
 cases x with
 | agg cs=>
  cases h with
  | cc h=>exact .cc h
  | agg _ vs z h=>exact .agg cs vs z fun i c u h1 h2=>cells hx i c u h1 (h i c u h1 h2)
 | tup cs=>
  cases h with
  | cc h=>exact .cc h
  | tup _ vs z h=>
   refine .tup cs vs z fun i c u h1 h2=>?_
   have hf:=List.all_eq_true.1 hx c (List.mem_of_getElem? h1)
   have hc:=h i c u h1 h2
   cases c with
   | agg ds=>
    obtain ⟨M,rfl,J,B⟩:=hc.agg_inv
    exact .agg ds M J fun j d v g1 g2=>cells hf j d v g1 (B j d v g1 g2)
   | _=>exact key (Apo hf (by intro cs e; cases e)) hc
 | fn f cs=>
  cases h with
  | cc h=>exact .cc h
  | fn _ _ vs z h=>exact .fn f cs vs z fun i c u h1 h2=>cells hx i c u h1 (h i c u h1 h2)
 | val v=>exact key rfl h
 | loc h off=>exact key hx h
 | arr h k off len=>exact key hx h
 | el h k i j=>exact key hx h
 | mp h=>exact key hx h
 | ref cs=>exact key rfl h
 | sl sz xs=>exact key rfl h
theorem Fs.spec {H H':Hp} {n:Nat}:∀{k:Nat},Fs H H' k n->∀h,h<k->H h=H' h/\(H' h).under n=true
 | 0,_,h,b=>by omega
 | k+1,hh,h,b=>by
  by_cases e:h=k
  .subst e; exact hh.1
  .exact Fs.spec hh.2 h (by omega)
theorem Fr.spec {e:Bc}:∀{l:List (Nat×O)},Fr e l->∀p∈l,e p.1=p.2
 | [],_,p,hp=>by cases hp
 | q::l,h,p,hp=>by
  rcases List.mem_cons.1 hp with rfl | hp
  .exact h.1
  .exact Fr.spec h.2 p hp
theorem Agc (c:List Nat) (e:Bc) (u:Nat->Value) (l:List (Nat×O)) (s:Nat):(∃p∈l,p.1=s/\H7 c e u l s=p.2)\/(s∈c/\H7 c e u l s = .val (u s))\/(s ∉ c/\H7 c e u l s=e s):=by
 have base:(s∈c/\(c.foldr (fun s e=>Ay e s (.val (u s))) e) s = .val (u s))\/(s ∉ c/\(c.foldr (fun s e=>Ay e s (.val (u s))) e) s=e s):=by
  induction c with
  | nil=>exact .inr ⟨by simp,rfl⟩
  | cons t c ih=>
   simp only [List.foldr_cons]
   by_cases b:s=t
   .subst b; exact .inl ⟨by simp,Bw _ _ _⟩
   .rw [Cp _ _ b]
    rcases ih with ⟨h1,h2⟩ | ⟨h1,h2⟩
    .exact .inl ⟨by simp [h1],h2⟩
    .exact .inr ⟨by simp [h1,b],h2⟩
 unfold H7
 induction l with
 | nil=>exact .inr base
 | cons p l ih=>
  simp only [List.foldr_cons]
  by_cases b:s=p.1
  .exact .inl ⟨p,by simp,b.symm,by rw [b]; exact Bw _ _ _⟩
  .rw [Cp _ _ b]
   rcases ih with ⟨q,hq,h1,h2⟩ | h | h
   .exact .inl ⟨q,by simp [hq],h1,h2⟩
   .exact .inr (.inl h)
   .exact .inr (.inr h)
theorem Agd:∀(i:List Nat) {e:Bc} {H:Hp} {K:Bc->Hp->Prop} {n:Nat} {σ:Ar} {ι:Bf} {a:Act} {w:World},Wv i e H K->St σ ι H F W w->Dq σ ι H e a->Dw H n ->
  ∃g e' H',K e' H'/\Le σ ι H g ι H'/\St g ι H' F W w/\Dq g ι H' e' a/\Dw H' n
 | [],e,H,K,n,σ,ι,a,w,h,s,f,c=>⟨σ,e,H,h,Le.refl _ _ _,s,f,c⟩
 | t::i,e,H,K,n,σ,ι,a,w,h,s,f,c=>by
  simp only [Wv] at h
  split at h
  .rename_i hd k len hx
   split at h
   .rename_i E sz xs hh
    obtain ⟨hk,R,h⟩:=h
    obtain ⟨D,b,s1,u⟩:=s.freeze hh
    have x:Dq D ι (Ay H hd .dead) (Ay e t (.sl sz xs)) a:=by
     intro q hq
     by_cases A:q=t
     .subst A
      rw [Bw]
      have hc:=f q hq
      rw [hx] at hc
      have:=u 0 len _ (by omega) (hc.arr_inv hh hk)
      rw [List.drop_zero,List.take_of_length_le (by omega)] at this
      exact .cc this
     .rw [Cp _ _ A]; exact (f q hq).mono b
    have j:Dw (Ay H hd .dead) n:=by
     intro m z
     have l:hd≠m:=by
      intro y; subst y
      have:=c hd z; rw [hh] at this; cases this
     rw [Cp _ _ (Ne.symm l)]; exact c m z
    obtain ⟨B,y,N,M,L,J,I,G⟩:=Agd i h s1 x j
    exact ⟨B,y,N,M,b.trans L,J,I,G⟩
   .exact h.elim
  .exact h.elim
theorem Age {N:Nat} {ops:Array Oper} (h:(ops.toList.all fun o=>(Ix ops o).all fun s=>Nat.blt s N)=true):Wb ops N:=by
 intro i o c s b
 rw [List.all_eq_true] at h
 have:=h o (by simpa using Array.mem_of_getElem? c)
 rw [List.all_eq_true] at this
 exact Fq (this s b)
theorem Oa (hT:B8 P C.T) (hm:P.follows .mixedOrders=true):∀(c:Code) (Q':Ex->Nat->Bc->Hp->Prop) (n:Nat) (e:Bc) (H:Hp) (σ:Ar) (ι:Bf) (a:Act) (w:World) (Q:Exit->Act->World->Prop),
  Hu a.tmps.size c=true->vc P C c Q' n e H->St σ ι H F W w->Dq σ ι H e a->Dw H n ->
  (∀x n' e' H' σ' ι' Z w',Q' x n' e' H'->Le σ ι H σ' ι' H'->St σ' ι' H' F W w'->Dq σ' ι' H' e' Z->Dw H' n'->n<=n'->Z.tmps.size=a.tmps.size->Z.defers=a.defers->D6 (D7 c) a Z->Q x.out Z w')->c.wp P Q a w
 | .skip,Q',n,e,H,σ,ι,a,w,Q,_,h,s,S,R,hk=>wp_skip (hk .normal n e H σ ι a w h (Le.refl _ _ _) s S R (Nat.le_refl _) rfl rfl (D6.refl _ _))
 | .exit id,Q',n,e,H,σ,ι,a,w,Q,_,h,s,S,R,hk=>wp_exit (hk (.exit id) n e H σ ι a w h (Le.refl _ _ _) s S R (Nat.le_refl _) rfl rfl (D6.refl _ _))
 | .ret,Q',n,e,H,σ,ι,a,w,Q,_,h,s,S,R,hk=>wp_ret (hk .ret n e H σ ι a w h (Le.refl _ _ _) s S R (Nat.le_refl _) rfl rfl (D6.refl _ _))
 | .region id ops draw,Q',n,e,H,σ,ι,a,w,Q,u,h,s,S,R,hk=>by
  simp only [vc] at h
  obtain ⟨σ0,e0,b3,h,ap,s0,az,ba⟩:=Agd _ h s S R
  obtain ⟨n',e',H',accs,hK,_,bg,av,hf,aj⟩:=Abb hT ops.toList [] 0 n e0 b3 [] _ (by simp) rfl ba h
  have ar:=Age u
  cases draw with
  | false=>
   simp only [cond_false] at hK
   refine wp_region ?_
   have:List.range ops.size=List.range' 0 ops.toList.length:=by rw [List.range_eq_range']; simp
   rw [this]
   refine aj.wpOps s0 az ar ?_
   intro σ' ι' Z w' le s' ao g l hu
   exact hk .normal n' e' H' σ' ι' Z w' hK (ap.trans le) s' ao hf av g l hu
  | true=>
   simp only [cond_true] at hK
   obtain ⟨b9,hK⟩:=hK
   refine wp_region_any hm ?_
   have G:ops=ops.toList.toArray:=by simp
   rw [G]
   simp only [List.size_toArray]
   refine Aav (accs:=accs) (e':=e') (H':=H') b9 ops.toList.length _ (List.range' 0 ops.toList.length) e0 b3 σ0 ι a _ (by rw [<-G]; exact aj) (List.pairwise_lt_range' ..) ?_ (by simp) ?_ (by simp) (s0.drew _) az (by rw [<-G]; exact ar) ?_
   .intro i
    simp only [List.mem_range'_1,Array.getD_eq_getD_getElem?]
    constructor
    .rintro ⟨_,h2⟩
     refine ⟨by omega,?_⟩
     have:i<ops.size:=by simpa using h2
     simp [this]
    .rintro ⟨h1,_⟩; omega
   .intro k o bf hl
    exfalso
    simp only [Array.getD_eq_getD_getElem?] at hl
    by_cases ah:k<ops.size
    .simp [ah] at hl
    .simp [ah] at hl
   .intro σ' ι' Z w' le s' ao g l hu
    exact hk .normal n' e' H' σ' ι' Z w' hK (ap.trans le) s' ao hf av g l (by rw [<-G] at hu; exact hu)
 | .seq c1 c2,Q',n,e,H,σ,ι,a,w,Q,u,h,s,S,R,hk=>by
  simp only [Hu,Bool.and_eq_true] at u
  simp only [vc] at h
  refine wp_seq (Oa hT hm c1 _ n e H σ ι a w _ u.1 h s S R ?_)
  intro x n1 G M B D a1 N hq f s1 j z A g l hu
  cases x with
  | normal=>
   refine Oa hT hm c2 Q' n1 G M B D a1 N Q (by rw [g]; exact u.2) hq s1 j z ?_
   intro x n2 e2 H2 σ2 ι2 a2 w2 b8 U s2 ae ag ac V X ab
   exact hk x n2 e2 H2 σ2 ι2 a2 w2 b8 (f.trans U) s2 ae ag (by omega) (V.trans g) (X.trans l) ((hu.mono (by simp [D7]; exact fun s h=>.inl h)).trans (ab.mono (by simp [D7]; exact fun s h=>.inr h)))
  | exit id=>exact hk (.exit id) n1 G M B D a1 N hq f s1 j z A g l (hu.mono (by simp [D7]; exact fun s h=>.inl h))
  | ret=>exact hk .ret n1 G M B D a1 N hq f s1 j z A g l (hu.mono (by simp [D7]; exact fun s h=>.inl h))
 | .cond x c1 c2,Q',n,e,H,σ,ι,a,w,Q,u,h,s,S,R,hk=>by
  simp only [Hu,Bool.and_eq_true] at u
  simp only [vc,Af9] at h
  split at h
  .rename_i t hx
   have hc:=S.eval (x:=x) (fun t ht=>by
    cases x with
    | tmp q=>cases ht; exact Fq u.1.1
    | _=>cases ht)
   rw [hx] at hc
   have hv:=hc.val_inv
   cases t with
   | true=>
    refine wp_cond_true hv (Oa hT hm c1 Q' n e H σ ι a w Q u.1.2 h s S R ?_)
    intro x n1 G M B D a1 N hq f s1 j z A g l hu
    exact hk x n1 G M B D a1 N hq f s1 j z A g l (hu.mono (by simp [D7]; exact fun s h=>.inl h))
   | false=>
    refine wp_cond_false hv (Oa hT hm c2 Q' n e H σ ι a w Q u.2 h s S R ?_)
    intro x n1 G M B D a1 N hq f s1 j z A g l hu
    exact hk x n1 G M B D a1 N hq f s1 j z A g l (hu.mono (by simp [D7]; exact fun s h=>.inr h))
  .exact h.elim
 | .block id c,Q',n,e,H,σ,ι,a,w,Q,u,h,s,S,R,hk=>by
  simp only [vc] at h
  refine wp_block (Oa hT hm c _ n e H σ ι a w _ u h s S R ?_)
  intro x n1 G M B D a1 N hq f s1 j z A g l hu
  cases x with
  | normal=>exact hk .normal n1 G M B D a1 N hq f s1 j z A g l hu
  | exit i=>
   simp only [Ex.out,Exit.inBlock]
   by_cases hi:i=id
   .subst hi
    rw [if_pos rfl]
    have:Nat.beq i i=true:=Nat.beq_refl i
    simp only [this,cond_true] at hq
    exact hk .normal n1 G M B D a1 N hq f s1 j z A g l hu
   .rw [if_neg hi]
    have:Nat.beq i id=false:=by
     cases hb:Nat.beq i id
     .rfl
     .exact (hi (Nat.eq_of_beq_eq_true hb)).elim
    simp only [this,cond_false] at hq
    exact hk (.exit i) n1 G M B D a1 N hq f s1 j z A g l hu
  | ret=>exact hk .ret n1 G M B D a1 N hq f s1 j z A g l hu
 | .loop c,Q',n,e,H,σ,ι,a,w,Q,u,h,s,S,R,hk=>by
  simp only [vc] at h
  obtain ⟨I,aq,iv,hv,m,i0,hb,h0,b6,bd,step⟩:=h
  have b4:∀x,n<=x->ι x = .none:=by
   intro x hx
   have:=s.obj x; unfold Bx at this; rw [R x hx] at this; exact this
  have am:∀i,∀p∈hv i,p.1<n:=by
   intro i p hp
   have:=hb i
   unfold Iz at this
   rw [Bool.and_eq_true,List.all_eq_true,List.all_eq_true] at this
   exact Fq (this.2 p hp)
  have ax:∀i,∀p∈iv i,p.2.under n=true:=by
   intro i p hp
   have:=hb i
   unfold Iz at this
   rw [Bool.and_eq_true,List.all_eq_true,List.all_eq_true] at this
   exact this.1 p hp
  have ai:∀i,Dw (Bv H (hv i)) n:=by
   intro i x hx
   rw [P5 (fun p hp e=>by have:=am i p hp; omega)]; exact R x hx
  let J:Nat->Act->World->Prop:=fun k Z w'=>∃i σ' ι',m i=k/\aq i/\Le σ ι H σ' ι' (Bv H (hv i))/\St σ' ι' (Bv H (hv i)) F W w' /\
   Dq σ' ι' (Bv H (hv i)) (H7 (D7 c) e (fun s=>Z.tmps.getD s undef) (iv i)) Z/\Z.tmps.size=a.tmps.size/\Z.defers=a.defers/\D6 (D7 c) a Z
  have a6:∀(i:I) (B:Ar) (D:Bf) (M:Hp) (G:Bc) (a1:Act) (N:World),aq i->Fr G (iv i)->Fs M (Bv H (hv i)) n n->Le σ ι H B D M->St B D M F W N->Dq B D M G a1->a1.tmps.size=a.tmps.size ->
    a1.defers=a.defers->D6 (D7 c) a a1->J (m i) a1 N:=by
   intro i B D M G a1 N hi au ay f s1 j L Y a8
   let ι2:Bf:=fun x=>if x<n then D x else .none
   have a7:∀x,x<n->ι2 x=D x:=fun x hx=>if_pos hx
   have aa:∀x,x<n->Bv H (hv i) x=M x:=fun x hx=>((ay.spec) x hx).1.symm
   have U:Le σ ι H B ι2 (Bv H (hv i)):=by
    refine ⟨f.sto,fun x=>?_⟩
    by_cases hx:x<n
    .rw [a7 x hx,aa x hx]; exact f.obj x
    .rw [b4 x (by omega),R x (by omega)]; exact HLe.of_none
   have s2:St B ι2 (Bv H (hv i)) F W N:=by
    refine ⟨s1.sto,s1.fra,fun x=>?_,?_,s1.os,s1.tape,s1.output,s1.glo⟩
    .by_cases hx:x<n
     .have ho:=s1.obj x
      have ak:=((ay.spec) x hx).2
      unfold Bx at ho ⊢
      rw [aa x hx] at ak ⊢
      rw [a7 x hx]
      cases af:M x with
      | none=>rw [af] at ho; exact ho
      | dead=>trivial
      | cells E cs=>
       rw [af] at ho ak
       obtain ⟨b,Cc,g1,g2,g3,g4,g5,g6⟩:=ho
       refine ⟨b,Cc,g1,g2,g3,g4,g5,fun q cq v hq b5=>(g6 q cq v hq b5).restrict a7 aa ?_⟩
       have:=List.all_eq_true.1 ak cq (List.mem_of_getElem? hq)
       exact Aa5 this
      | rows E sz xs=>rw [af] at ho; exact ho
      | map es=>rw [af] at ho; exact ho
     .unfold Bx
      rw [ai i x (by omega)]
      exact if_neg hx
    .intro x y b lx ly bx b0
     have hx:x<n:=by
      rcases Nat.lt_or_ge x n with hx | hx
      .exact hx
      .rw [ai i x hx] at lx; cases lx
     have hy:y<n:=by
      rcases Nat.lt_or_ge y n with hy | hy
      .exact hy
      .rw [ai i y hy] at ly; cases ly
     rw [aa x hx] at lx; rw [aa y hy] at ly
     rw [a7 x hx] at bx; rw [a7 y hy] at b0
     exact s1.inj x y b lx ly bx b0
   refine ⟨i,B,ι2,rfl,hi,U,s2,?_,L,Y,a8⟩
   intro q hq
   rcases Agc (D7 c) e (fun s=>a1.tmps.getD s undef) (iv i) q with ⟨p,hp,rfl,ad⟩ | ⟨hw,ad⟩ | ⟨hw,ad⟩
   .rw [ad,<-au.spec p hp]
    refine (j p.1 hq).restrict a7 aa ?_
    rw [au.spec p hp]; exact ax i p hp
   .rw [ad]; exact .of_val _
   .rw [ad,a8 q hw]; exact (S q (by omega)).mono U
  refine Agb J (m i0) (a6 i0 σ ι H e a w h0 b6 bd (Le.refl _ _ _) s S rfl rfl (D6.refl _ _)) ?_
  rintro k a1 N ⟨i,B,D,rfl,hi,f,s1,j,L,Y,a8⟩
  refine Oa hT hm c _ n _ _ B D a1 N _ (by rw [L]; exact u) (step i (fun s=>a1.tmps.getD s undef) hi) s1 j (ai i) ?_
  intro x n2 e2 H2 σ2 ι2 a2 w2 hq U s2 ae ag ac V X ab
  cases x with
  | normal=>
   obtain ⟨i',bb,b7,be,ah⟩:=hq
   exact ⟨m i',ah,a6 i' σ2 ι2 H2 e2 a2 w2 bb b7 be (f.trans U) s2 ae (V.trans L) (X.trans Y) (a8.trans ab)⟩
  | exit id=>exact hk (.exit id) n2 e2 H2 σ2 ι2 a2 w2 hq (f.trans U) s2 ae ag ac (V.trans L) (X.trans Y) (a8.trans ab)
  | ret=>exact hk .ret n2 e2 H2 σ2 ι2 a2 w2 hq (f.trans U) s2 ae ag ac (V.trans L) (X.trans Y) (a8.trans ab)
 | .rangeFunc ..,_,_,_,_,_,_,_,_,_,_,h,_,_,_,_=>by simp only [vc] at h
 | .scope _,_,_,_,_,_,_,_,_,_,_,h,_,_,_,_=>by simp only [vc] at h
 | .label _,_,_,_,_,_,_,_,_,_,_,h,_,_,_,_=>by simp only [vc] at h
 | .goto _,_,_,_,_,_,_,_,_,_,_,h,_,_,_,_=>by simp only [vc] at h
 | .refuse _,_,_,_,_,_,_,_,_,_,_,h,_,_,_,_=>by simp only [vc] at h
end
end Go.Ab
namespace Go.Ab
def Wx (T:B7) (e:Bc) (H:Hp):ResultVar->Option O
 | .tmp t=>some (e t)
 | .cell a t=>
  match e a with
  | .loc h off=>
   match H h with
   | .cells _ cs=>
    match T t with
    | some i=>bif i.isAgg then (bif Nat.ble (off+i.size) cs.length then some (.agg ((cs.drop off).take i.size)) else none) else cs[off]?
    | none=>none
   | _=>none
  | _=>none
def Wy (x:O) (H:Hp) (K:O->Hp->Prop):Prop :=
 match x with
 | .arr h k 0 len=>
  match H h with
  | .rows _ sz xs=>Fi k xs (Fi len xs (K (.sl sz xs) (Ay H h .dead)))
  | _=>False
 | x=>K x H
def Wz:List O->Hp->(List O->Hp->Prop)->Prop
 | [],H,K=>K [] H
 | x::xs,H,K=>Wy x H fun y H=>Wz xs H fun ys H=>K (y::ys) H
def fin (x:O) (H:Hp) (K:O->Hp->Prop):Prop :=
 match x with
 | .agg cs=>Wz cs H fun cs H=>K (.agg cs) H
 | x=>Wy x H K
def W0:List O->Hp->(List O->Prop)->Prop
 | [],_,K=>K []
 | x::xs,H,K=>fin x H fun y H=>W0 xs H fun ys=>K (y::ys)
def Qd (T:B7) (e:Bc) (H:Hp):List ResultVar->Option (List O)
 | []=>some []
 | r::rs=>
  match Wx T e H r with
  | none=>none
  | some x=>
   match Qd T e H rs with
   | none=>none
   | some xs=>some (x::xs)
def S5:List O->O
 | [x]=>x
 | xs=>.tup xs
def Ob (T:B7) (b:List ResultVar) (K:O->Prop) (e:Bc) (H:Hp):Prop :=
 match Qd T e H b with
 | none=>False
 | some xs=>W0 xs H fun ys=>K (S5 ys)
def Qf (args:List O):Bc:=fun n=>args.getD n (.val undef)
def Oc:ResultVar->Nat
 | .tmp t=>t
 | .cell a _=>a
def Qg (fn:Func) (c:Code) (k:Nat):Bool:=Hu fn.ntmps c&&(fn.results.toList.all fun r=>Nat.blt (Oc r) fn.ntmps)&&Nat.ble k fn.ntmps
section
variable {P:Program} {T:B7} {F:Ar} {W w:World}
theorem Agf {x:O} {H:Hp} {K:O->Hp->Prop} {σ:Ar} {ι:Bf} {v:Value} (h:Wy x H K) (s:St σ ι H F W w) (hc:Conc σ ι H x v) :
  ∃b y H',K y H'/\Le σ ι H b ι H'/\St b ι H' F W w/\Conc b ι H' y v:=by
 unfold Wy at h
 split at h
 .rename_i hd k len
  split at h
  .rename_i E sz xs hh
   obtain ⟨hk,i,h⟩:=h
   obtain ⟨g,c,s1,f⟩:=s.freeze hh
   refine ⟨g,.sl sz xs,Ay H hd .dead,h,c,s1,.cc ?_⟩
   have:=f 0 len _ (by omega) (hc.arr_inv hh hk)
   rwa [List.drop_zero,List.take_of_length_le (by omega)] at this
  .exact h.elim
 .exact ⟨σ,_,H,h,Le.refl _ _ _,s,hc⟩
theorem Agg:∀{cs:List O} {vs:List Value} {H:Hp} {K:List O->Hp->Prop} {σ:Ar} {ι:Bf},Wz cs H K->St σ ι H F W w->vs.length=cs.length->(∀(i:Nat) (c:O) (v:Value),cs[i]? = some c->vs[i]? = some v->Conc σ ι H c v) ->
  ∃j ys H',K ys H'/\Le σ ι H j ι H'/\St j ι H' F W w/\vs.length=ys.length/\∀(i:Nat) (c:O) (v:Value),ys[i]? = some c->vs[i]? = some v->Conc j ι H' c v
 | [],vs,H,K,σ,ι,h,s,g,hc=>⟨σ,[],H,h,Le.refl _ _ _,s,g,hc⟩
 | x::cs,[],H,K,σ,ι,h,s,g,hc=>by simp at g
 | x::cs,v::vs,H,K,σ,ι,h,s,g,hc=>by
  simp only [Wz] at h
  obtain ⟨B,y,D,h1,f,s1,z⟩:=Agf h s (hc 0 x v (by simp) (by simp))
  obtain ⟨l,ys,A,h2,b,s2,k,q⟩:=Agg (vs:=vs) h1 s1 (by simpa using g) (fun i c u hi hu=>(hc (i+1) c u (by simpa using hi) (by simpa using hu)).mono f)
  refine ⟨l,y::ys,A,h2,f.trans b,s2,by simp [k],fun i c u hi hu=>?_⟩
  cases i with
  | zero=>simp at hi hu; subst hi; subst hu; exact z.mono b
  | succ i=>exact q i c u (by simpa using hi) (by simpa using hu)
theorem Agh {x:O} {H:Hp} {K:O->Hp->Prop} {σ:Ar} {ι:Bf} {v:Value} (h:fin x H K) (s:St σ ι H F W w) (hc:Conc σ ι H x v) :
  ∃b y H',K y H'/\Le σ ι H b ι H'/\St b ι H' F W w/\Conc b ι H' y v:=by
 unfold fin at h
 split at h
 .rename_i cs
  obtain ⟨vs,rfl,l,k⟩:=hc.agg_inv
  obtain ⟨j,ys,z,h1,f,s1,g,q⟩:=Agg (vs:=vs.toList) h s (by simpa using l) (fun i c u hi hu=>k i c u hi (by simpa using hu))
  exact ⟨j,.agg ys,z,h1,f,s1,.agg ys vs (by simpa using g) (fun i c u hi hu=>q i c u hi (by simpa using hu))⟩
 .exact Agf h s hc
theorem Agi:∀{xs:List O} {vs:List Value} {H:Hp} {K:List O->Prop} {σ:Ar} {ι:Bf},W0 xs H K->St σ ι H F W w->vs.length=xs.length->(∀(i:Nat) (c:O) (v:Value),xs[i]? = some c->vs[i]? = some v->Conc σ ι H c v) ->
  ∃j ys H',K ys/\Le σ ι H j ι H'/\St j ι H' F W w/\vs.length=ys.length/\∀(i:Nat) (c:O) (v:Value),ys[i]? = some c->vs[i]? = some v->Conc j ι H' c v
 | [],vs,H,K,σ,ι,h,s,g,hc=>⟨σ,[],H,h,Le.refl _ _ _,s,g,hc⟩
 | x::cs,[],H,K,σ,ι,h,s,g,hc=>by simp at g
 | x::cs,v::vs,H,K,σ,ι,h,s,g,hc=>by
  simp only [W0] at h
  obtain ⟨B,y,D,h1,f,s1,z⟩:=Agh h s (hc 0 x v (by simp) (by simp))
  obtain ⟨l,ys,A,h2,b,s2,k,q⟩:=Agi (vs:=vs) h1 s1 (by simpa using g) (fun i c u hi hu=>(hc (i+1) c u (by simpa using hi) (by simpa using hu)).mono f)
  refine ⟨l,y::ys,A,h2,f.trans b,s2,by simp [k],fun i c u hi hu=>?_⟩
  cases i with
  | zero=>simp at hi hu; subst hi; subst hu; exact z.mono b
  | succ i=>exact q i c u (by simpa using hi) (by simpa using hu)
def Od (b:Array Value):ResultVar->Sem Value
 | .tmp t=>pure (b.getD t undef)
 | .cell a t=>do loadVar t (<-asAddr (b.getD a undef))
theorem App (D:B8 P T) {e:Bc} {H:Hp} {σ:Ar} {ι:Bf} {a:Act} (s:St σ ι H F W w) (B:Dq σ ι H e a) {r:ResultVar} {x:O} (A:Oc r<a.tmps.size) (h:Wx T e H r=some x) :
  ∃v,(Od a.tmps r).run P w = .ok v w/\Conc σ ι H x v:=by
 cases r with
 | tmp t=>
  simp only [Wx] at h; cases h
  exact ⟨_,rfl,B t A⟩
 | cell p t=>
  simp only [Wx] at h
  split at h
  .rename_i hd off hx
   split at h
   .rename_i E cs hh
    split at h
    .rename_i i ht
     have hc:=B p A
     rw [hx] at hc
     obtain ⟨b,hb,z⟩:=hc.loc_inv
     have k:=s.obj hd
     unfold Bx at k; rw [hh] at k
     obtain ⟨M,C,J,_,_,h3,L,I⟩:=k
     rw [hb] at J; cases J
     have h1:=V2 (D t i ht) w
     cases y:i.isAgg with
     | true=>
      rw [y] at h h1
      simp only [cond_true] at h
      cases g:Nat.ble (off+i.size) cs.length with
      | false=>rw [g] at h; cases h
      | true=>
       rw [g] at h; cases h
       have g:=Nat.le_of_ble_eq_true g
       have h2:=J3 (D t i ht) w
       have G:=run_loadCells_list (P:=P) w ⟨b,off,none⟩ ((C.toList.drop off).take i.size) (by
        intro j v hj
        have f:j<i.size:=by
         have:=(List.getElem?_eq_some_iff.1 hj).1; simp at this; omega
        rw [List.getElem?_take_of_lt f,List.getElem?_drop,Array.getElem?_toList] at hj
        rw [H6,Ho h3]; exact hj)
       have q:((C.toList.drop off).take i.size).length=i.size:=by simp; omega
       rw [q] at G
       refine ⟨_,by simp only [Od,z,asAddr,Sem.run_bind,Sem.run_pure,Result.andThen_ok,loadVar,h1,if_true,h2,G]; rfl,?_⟩
       refine .agg _ _ (by simp; omega) (fun j c u g1 g2=>?_)
       have f:j<i.size:=by
        have:=(List.getElem?_eq_some_iff.1 g1).1; simp at this; omega
       rw [List.getElem?_take_of_lt f,List.getElem?_drop] at g1
       rw [List.getElem?_toArray,List.getElem?_take_of_lt f,List.getElem?_drop,Array.getElem?_toList] at g2
       exact I _ c u g1 g2
     | false=>
      rw [y] at h h1
      simp only [cond_false] at h
      have f:off<C.size:=by rw [L]; exact (List.getElem?_eq_some_iff.1 h).1
      have l:w.cell? ⟨b,off,none⟩=some C[off]:=by rw [Ho h3]; simp [f]
      exact ⟨C[off],by simp [Od,z,asAddr,loadVar,h1,l],I off x _ h (by simp [f])⟩
    .cases h
   .cases h
  .cases h
theorem Abc (k:B8 P T) {e:Bc} {H:Hp} {σ:Ar} {ι:Bf} {a:Act} (s:St σ ι H F W w) (j:Dq σ ι H e a):∀{b:List ResultVar} {xs:List O},(∀r∈b,Oc r<a.tmps.size)->Qd T e H b=some xs ->
  ∃vs:List Value,(b.mapM (Od a.tmps)).run P w = .ok vs w/\vs.length=xs.length/\∀(i:Nat) (c:O) (v:Value),xs[i]? = some c->vs[i]? = some v->Conc σ ι H c v
 | [],xs,_,h=>by
  simp only [Qd] at h; cases h
  exact ⟨[],by simp,rfl,by simp⟩
 | r::b,xs,g,h=>by
  simp only [Qd] at h
  split at h
  .cases h
  .rename_i x hx
   split at h
   .cases h
   .rename_i ys hy
    cases h
    obtain ⟨v,h1,z⟩:=App k s j (g r (by simp)) hx
    obtain ⟨vs,h2,q,y⟩:=Abc k s j (fun l f=>g l (by simp [f])) hy
    refine ⟨v::vs,by simp [List.mapM_cons,h1,h2],by simp [q],fun i c u hi hu=>?_⟩
    cases i with
    | zero=>simp at hi hu; subst hi; subst hu; exact z
    | succ i=>exact y i c u (by simpa using hi) (by simpa using hu)
theorem Agj (fn:Func) (b:Array Value):results fn b=(fn.results.mapM (Od b) >>= fun vs=>pure (if h:vs.size=1 then vs[0] else .tuple vs)):=by
 unfold results
 congr 1
theorem Apq (A:B8 P T) {fn:Func} {K:O->Prop} {e:Bc} {H:Hp} {σ:Ar} {ι:Bf} {a:Act} (s:St σ ι H F W w) (z:Dq σ ι H e a) (q:∀r∈fn.results.toList,Oc r<a.tmps.size) (h:Ob T fn.results.toList K e H) :
  ∃v f H' r,(results fn a.tmps).run P w = .ok v w/\K r/\Le σ ι H f ι H'/\St f ι H' F W w/\Conc f ι H' r v:=by
 unfold Ob at h
 split at h
 .exact h.elim
 .rename_i xs hx
  obtain ⟨vs,h1,x,B⟩:=Abc A s z q hx
  obtain ⟨f,ys,H',k,le,s',b,j⟩:=Agi h s x B
  have g:(fn.results.mapM (Od a.tmps)).run P w = .ok vs.toArray w:=by
   rw [Array.mapM_eq_mapM_toList]
   simp [h1]
  refine ⟨if h:vs.toArray.size=1 then vs.toArray[0] else .tuple vs.toArray,f,H',S5 ys,?_,k,le,s',?_⟩
  .rw [Agj,Sem.run_bind,g]; rfl
  .match ys,vs,b,j with
   | [y],[v],_,j=>exact j 0 y v rfl rfl
   | [],[],_,_=>exact .tup [] #[] rfl (by simp)
   | y::D::ys,v::l::vs,b,j=>
    have:¬(v::l::vs).toArray.size=1:=by simp
    rw [dif_neg this]
    exact .tup _ _ (by simpa using b) (fun i c u hi hu=>j i c u hi (by simpa using hu))
   | [],_::_,b,_=>simp at b
   | _::_,[],b,_=>simp at b
   | [_],_::_::_,b,_=>simp at b
   | _::_::_,[_],b,_=>simp at b
theorem St.forget {σ:Ar} {ι:Bf} {H:Hp} (s:St σ ι H F W w):St σ ι0 H0 F W w :=
 ⟨s.sto,s.fra,fun _=>rfl,(fun _ _ _ b=>by cases b),s.os,s.tape,s.output,s.glo⟩
theorem Agk {σ:Ar} {ι:Bf} {H:Hp} {args:List O} {vs:Array Value} {N:Nat} (h:Kr σ ι H args vs):Dq σ ι H (Qf args) ⟨vs++Array.replicate (N-vs.size) undef,[]⟩:=by
 intro q hq
 simp only [Qf,Array.getD_eq_getD_getElem?]
 by_cases b:q<args.length
 .have hq':q<vs.size:=by rw [h.1]; exact b
  rw [Array.getElem?_append_left hq']
  have h1:args[q]? = some args[q]:=List.getElem?_eq_getElem b
  have h2:vs[q]? = some vs[q]:=Array.getElem?_eq_getElem hq'
  have:=h.2 q _ _ h1 h2
  simpa [List.getD,h1,h2] using this
 .rw [Array.getElem?_append_right (by rw [h.1]; omega)]
  have h1:args[q]? = none:=List.getElem?_eq_none (by omega)
  have hq':q-vs.size<N-vs.size:=by
   simp at hq
   have:=h.1
   omega
  simp only [List.getD,h1,Option.getD_none]
  simp [hq']
  exact .of_val undef
end
end Go.Ab
namespace Go.Ab
inductive Tr where
 | leaf
 | node (l:Tr) (k:Nat) (v:TI) (r:Tr)
def Tr.find:Tr->Nat->Option TI
 | .leaf,_=>none
 | .node l k v r,t=>bif Nat.beq t k then some v else bif Nat.blt t k then l.find t else r.find t
def Tr.toList:Tr->List (Nat×TI)
 | .leaf=>[]
 | .node l k v r=>l.toList++(k,v)::r.toList
theorem Tr.find_mem:∀(t:Tr) (k:Nat) (v:TI),t.find k=some v->(k,v)∈t.toList
 | .leaf,k,v,h=>by cases h
 | .node l b f r,k,v,h=>by
  simp only [Tr.find] at h
  simp only [Tr.toList,List.mem_append,List.mem_cons]
  cases hb:Nat.beq k b with
  | true=>
   rw [hb] at h; simp only [cond_true] at h; cases h
   rw [Nat.eq_of_beq_eq_true hb]
   exact .inr (.inl rfl)
  | false=>
   rw [hb] at h; simp only [cond_false] at h
   cases c:Nat.blt k b with
   | true=>rw [c] at h; exact .inl (Tr.find_mem l k v h)
   | false=>rw [c] at h; exact .inr (.inr (Tr.find_mem r k v h))
theorem Tr.ok {P:Program} {t:Tr} (h:t.toList.map (fun p=>F6 P p.1)=t.toList.map (fun p=>some p.2)):B8 P t.find:=by
 intro k v hk
 have b:=t.find_mem k v hk
 obtain ⟨i,hi⟩:=List.getElem?_of_mem b
 have:=congrArg (fun l=>l[i]?) h
 simpa [hi] using this
end Go.Ab
namespace Go.Ab
def W1:List O->Hp->(List O->Hp->Prop)->Prop
 | [],H,K=>K [] H
 | x::xs,H,K=>fin x H fun y H=>W1 xs H fun ys H=>K (y::ys) H
def Mj (H:Hp):Nat->List Ba->Prop
 | _,[]=>True
 | k,o::os=>H k=o/\Mj H (k+1) os
def Oe (T:B7) (fz:Bool) (c:List ResultVar) (r:O) (b:List Ba) (e:Bc) (H:Hp):Prop :=
 match Qd T e H c with
 | none=>False
 | some xs=>bif fz then W1 xs H fun ys H=>S5 ys=r/\Mj H 0 b else S5 xs=r/\Mj H 0 b
section
variable {P:Program} {T:B7} {F:Ar} {W w:World}
theorem Mj.spec {H:Hp}:∀{os:List Ba} {k:Nat},Mj H k os->∀i,i<os.length->H (k+i)=hp os i
 | [],k,_,i,hi=>by simp at hi
 | o::os,k,h,0,_=>by simpa [hp] using h.1
 | o::os,k,h,i+1,hi=>by
  have:=Mj.spec h.2 i (by simpa using hi)
  rw [show k+(i+1)=k+1+i by omega,this]
  simp [hp]
theorem Agl:∀{xs:List O} {vs:List Value} {H:Hp} {K:List O->Hp->Prop} {σ:Ar} {ι:Bf},W1 xs H K->St σ ι H F W w->vs.length=xs.length->(∀(i:Nat) (c:O) (v:Value),xs[i]? = some c->vs[i]? = some v->Conc σ ι H c v) ->
  ∃j ys H',K ys H'/\Le σ ι H j ι H'/\St j ι H' F W w/\vs.length=ys.length/\∀(i:Nat) (c:O) (v:Value),ys[i]? = some c->vs[i]? = some v->Conc j ι H' c v
 | [],vs,H,K,σ,ι,h,s,g,hc=>⟨σ,[],H,h,Le.refl _ _ _,s,g,hc⟩
 | x::cs,[],H,K,σ,ι,h,s,g,hc=>by simp at g
 | x::cs,v::vs,H,K,σ,ι,h,s,g,hc=>by
  simp only [W1] at h
  obtain ⟨B,y,D,h1,f,s1,z⟩:=Agh h s (hc 0 x v (by simp) (by simp))
  obtain ⟨l,ys,A,h2,b,s2,k,q⟩:=Agl (vs:=vs) h1 s1 (by simpa using g) (fun i c u hi hu=>(hc (i+1) c u (by simpa using hi) (by simpa using hu)).mono f)
  refine ⟨l,y::ys,A,h2,f.trans b,s2,by simp [k],fun i c u hi hu=>?_⟩
  cases i with
  | zero=>simp at hi hu; subst hi; subst hu; exact z.mono b
  | succ i=>exact q i c u (by simpa using hi) (by simpa using hu)
theorem Apr (D:B8 P T) {fn:Func} {fz:Bool} {r:O} {q:List Ba} {e:Bc} {H:Hp} {σ:Ar} {ι:Bf} {a:Act} (s:St σ ι H F W w) (B:Dq σ ι H e a) (l:∀r∈fn.results.toList,Oc r<a.tmps.size)
  (h:Oe T fz fn.results.toList r q e H):∃v f H',(results fn a.tmps).run P w = .ok v w/\Mj H' 0 q/\Le σ ι H f ι H'/\St f ι H' F W w/\Conc f ι H' r v:=by
 unfold Oe at h
 split at h
 .exact h.elim
 .rename_i xs hx
  obtain ⟨vs,h1,x,z⟩:=Abc D s B l hx
  have key:∃f ys H',(S5 ys=r/\Mj H' 0 q)/\Le σ ι H f ι H'/\St f ι H' F W w/\vs.length=ys.length/\∀(i:Nat) (c:O) (v:Value),ys[i]? = some c->vs[i]? = some v->Conc f ι H' c v:=by
   cases fz with
   | true=>exact Agl h s x z
   | false=>exact ⟨σ,xs,H,h,Le.refl _ _ _,s,x,z⟩
  obtain ⟨f,ys,H',⟨rfl,k⟩,le,s',b,j⟩:=key
  have g:(fn.results.mapM (Od a.tmps)).run P w = .ok vs.toArray w:=by
   rw [Array.mapM_eq_mapM_toList]
   simp [h1]
  refine ⟨if h:vs.toArray.size=1 then vs.toArray[0] else .tuple vs.toArray,f,H',?_,k,le,s',?_⟩
  .rw [Agj,Sem.run_bind,g]; rfl
  .match ys,vs,b,j with
   | [y],[v],_,j=>exact j 0 y v rfl rfl
   | [],[],_,_=>exact .tup [] #[] rfl (by simp)
   | y::E::ys,v::A::vs,b,j=>
    have:¬(v::A::vs).toArray.size=1:=by simp
    rw [dif_neg this]
    exact .tup _ _ (by simpa using b) (fun i c u hi hu=>j i c u hi (by simpa using hu))
   | [],_::_,b,_=>simp at b
   | _::_,[],b,_=>simp at b
   | [_],_::_::_,b,_=>simp at b
   | _::_::_,[_],b,_=>simp at b
theorem St.first {σ:Ar} {ι:Bf} {H:Hp} (s:St σ ι H F W w) (f:List Ba) (hk:∀i,i<f.length->H i=hp f i) (hu:f.all (Ba.under f.length)=true) :
  St σ (fun k=>if k<f.length then ι k else .none) (hp f) F W w:=by
 have D:∀h,h<f.length->(fun k=>if k<f.length then ι k else Loc.none) h=ι h:=fun h j=>if_pos j
 have z:∀h,h<f.length->hp f h=H h:=fun h j=>(hk h j).symm
 have lt:∀k,(hp f k).live=true->k<f.length:=by
  intro k h
  rcases Nat.lt_or_ge k f.length with h' | h'
  .exact h'
  .rw [Mf h'] at h; cases h
 refine ⟨s.sto,s.fra,fun k=>?_,fun k u b h1 h2 h3 q=>?_,s.os,s.tape,s.output,s.glo⟩
 .by_cases j:k<f.length
  .have g:=s.obj k
   have l:=List.all_eq_true.1 hu _ (List.mem_of_getElem? (S3 j))
   unfold Bx at g ⊢
   rw [hk k j] at g
   dsimp only
   rw [if_pos j]
   cases hx:hp f k with
   | none=>rw [hx] at g; exact g
   | dead=>trivial
   | rows E sz xs=>rw [hx] at g; exact g
   | map es=>rw [hx] at g; exact g
   | cells E cs=>
    rw [hx] at g l
    obtain ⟨b,C,I,h1,h2,h3,q,G⟩:=g
    refine ⟨b,C,I,h1,h2,h3,q,fun i c v x y=>?_⟩
    have hc:=List.all_eq_true.1 l c (List.mem_of_getElem? x)
    refine (G i c v x y).restrict (n:=f.length) D z ?_
    exact Aa5 hc
  .unfold Bx
   rw [Mf (by omega)]
   exact if_neg j
 .have B:=lt k h1
  have A:=lt u h2
  rw [if_pos B] at h3
  rw [if_pos A] at q
  rw [z k B] at h1
  rw [z u A] at h2
  exact s.inj k u b h1 h2 h3 q
def Abd (c:List Ba) (r:O) (b:List Ba):Bool:=Nat.ble c.length b.length&&r.under b.length&&b.all (Ba.under b.length)
def Sub (x y:O):Prop:=∀(σ:Ar) (ι:Bf) (H:Hp) (v:Value),Conc σ ι H x v->Conc σ ι H y v
theorem Sub.refl (x:O):Sub x x:=fun _ _ _ _ h=>h
theorem Sub.of_eq {x y:O} (h:x=y):Sub x y:=by subst h; exact Sub.refl x
theorem Sub.nil (sz:Nat):Sub (.val (.slice none 0 0)) (.sl sz []):=fun _ _ _ _ h=>Wt rfl h
def Of:List O->List O->Prop
 | [],[]=>True
 | x::xs,y::ys=>Sub x y/\Of xs ys
 | _,_=>False
theorem Of.spec:∀{xs ys:List O},Of xs ys->xs.length=ys.length/\∀(i:Nat) (y:O),ys[i]? = some y->∃x,xs[i]? = some x/\Sub x y
 | [],[],_=>⟨rfl,by simp⟩
 | [],_::_,h=>h.elim
 | _::_,[],h=>h.elim
 | x::xs,y::ys,h=>by
  obtain ⟨h1,h2⟩:=Of.spec h.2
  refine ⟨by simp [h1],fun i z b=>?_⟩
  cases i with
  | zero=>simp at b; subst b; exact ⟨x,rfl,h.1⟩
  | succ i=>simpa using h2 i z (by simpa using b)
theorem Sub.agg {xs ys:List O} (h:Of xs ys):Sub (.agg xs) (.agg ys):=by
 intro σ ι H v hc
 obtain ⟨vs,rfl,f,b⟩:=hc.agg_inv
 obtain ⟨h1,h2⟩:=h.spec
 refine .agg _ vs (by rw [<-h1]; exact f) fun i c u h3 k=>?_
 obtain ⟨x,j,g⟩:=h2 i c h3
 exact g _ _ _ _ (b i x u j k)
theorem Aw.sub {f:FuncId} {args b:List O} {r k:O} (h:Aw P f b r) (ha:Of args b) (q:Sub r k):Aw P f args k:=by
 refine ⟨h.1,fun σ F W w vs s hc=>?_⟩
 obtain ⟨h1,h2⟩:=ha.spec
 refine (h.2 σ F W w vs s ⟨by rw [<-h1]; exact hc.1,fun i a v h3 j=>?_⟩).mono ?_
 .obtain ⟨x,g,c⟩:=h2 i a h3
  exact c _ _ _ _ (hc.2 i x v g j)
 .rintro e w' ⟨v,l,h3,j,g,c⟩
  exact ⟨v,l,h3,j,g,q _ _ _ _ c⟩
end
end Go.Ab
namespace Go.Ab
inductive D2 (K:Prop):Prop where
 | mk (k:K)
def opK (P:Program) (T:B7) (an:Nat->Ann) (nl:Nat->List (Nat×Nat)) (o:Oper) (n:Nat) (e:Bc) (H:Hp) (acc:Gk) (K:Nat->Bc->Hp->Gk->Prop):Prop :=
 Df P T an n o (ev e) H fun b m=>Iy (Jf (J7 nl o.dst) b.r) fun r=>Ku b.wr fun wr=>G7 b.rd fun f=>G7 wr fun c=>Hs e o.dst r H wr fun e H=>D2 (K m e H (acc++[(f,c)]))
def S6 (o:Oper) (n:Nat) (e:Bc) (H:Hp) (acc:Gk) (K:Nat->Bc->Hp->Gk->Prop):Prop :=
 Hs e o.dst (.val undef) H [] fun e H=>D2 (K n e H (acc++[([],[])]))
def Dt (P:Program) (T:B7) (an:Nat->Ann) (nl:Nat->List (Nat×Nat)) (ops:Array Oper):List Oper->Nat->Bc->Hp->Gk->(Nat->Bc->Hp->Gk->Prop)->Prop
 | [],n,e,H,acc,K=>K n e H acc
 | o::os,n,e,H,acc,K=>
  match o.guard with
  | none=>opK P T an nl o n e H acc fun n e H acc=>Dt P T an nl ops os n e H acc K
  | some p=>
   match (ops[p.1]?).bind (·.dst) with
   | none=>False
   | some s=>
    match e s with
    | .val v=>bif N5 v==some p.2 then opK P T an nl o n e H acc fun n e H acc=>Dt P T an nl ops os n e H acc K
     else S6 o n e H acc fun n e H acc=>Dt P T an nl ops os n e H acc K
    | _=>False
section
variable {P:Program} {T:B7} {an:Nat->Ann} {nl:Nat->List (Nat×Nat)} {ops:Array Oper}
theorem Abe (G:B8 P T):∀(os:List Oper) (i n:Nat) (e:Bc) (H:Hp) (acc:Gk) (K:Nat->Bc->Hp->Gk->Prop),ops.toList.drop i=os->acc.length=i->Dw H n->Dt P T an nl ops os n e H acc K ->
  ∃b e' H' accs,K b e' H' accs/\accs.take i=acc/\accs.length=i+os.length/\n<=b/\Dw H' b/\Run P ops (fun k=>accs.getD k ([],[])) (List.range' i os.length) e H e' H'
 | [],i,n,e,H,acc,K,hd,j,y,h=>⟨n,e,H,acc,h,by rw [<-j]; simp,by simpa using j,Nat.le_refl _,y,.nil e H⟩
 | o::os,i,n,e,H,acc,K,hd,j,y,h=>by
  have J:ops[i]? = some o:=by
   have:=congrArg (fun l=>l[0]?) hd
   simpa using this
  have u:ops.toList.drop (i+1)=os:=by
   have:=congrArg (List.drop 1) hd
   simpa [List.drop_drop] using this
  have run:Gj ops o e true->(opK P T an nl o n e H acc fun n e H acc=>Dt P T an nl ops os n e H acc K) ->
    ∃b e' H' accs,K b e' H' accs/\accs.take i=acc/\accs.length=i+(o::os).length/\n<=b/\Dw H' b/\Run P ops (fun k=>accs.getD k ([],[])) (List.range' i (o::os).length) e H e' H':=by
   intro D g
   obtain ⟨c,m,h1,h2,h3,S,N⟩:=Af8 G y g
   simp only [Qa,Aa0,Aa1,Wu] at h3
   obtain ⟨b,e',H',accs,B,x,M,L,A,z⟩:=Abe G os (i+1) m _ _ _ K u (by simp [j]) N h3.1
   have E:accs[i]? = some (c.rd.map (·.1),c.wr.map (·.1)):=by
    have R:(accs.take (i+1))[i]? = accs[i]?:=List.getElem?_take_of_lt (by omega)
    rw [<-R,x,List.getElem?_append_right (by omega)]
    simp [j]
   have q:accs.getD i ([],[])=(c.rd.map (·.1),c.wr.map (·.1)):=by simp [List.getD,E]
   refine ⟨b,e',H',accs,B,?_,by simp only [List.length_cons]; omega,by omega,A,?_⟩
   .have:=congrArg (List.take i) x
    rw [List.take_take] at this
    simpa [j] using this
   .rw [List.length_cons,List.range'_succ]
    refine .cons o (Jf (J7 nl o.dst) c.r) c.wr ⟨J,.inl ⟨D,_,h1.nils (J7 nl o.dst),h2,?_,?_,rfl,rfl⟩⟩ z
    .intro p hp; show p.1∈(accs.getD i ([],[])).1; rw [q]; exact List.mem_map_of_mem hp
    .intro p hp; show p.1∈(accs.getD i ([],[])).2; rw [q]; exact List.mem_map_of_mem hp
  have skip:Gj ops o e false->(S6 o n e H acc fun n e H acc=>Dt P T an nl ops os n e H acc K) ->
    ∃b e' H' accs,K b e' H' accs/\accs.take i=acc/\accs.length=i+(o::os).length/\n<=b/\Dw H' b/\Run P ops (fun k=>accs.getD k ([],[])) (List.range' i (o::os).length) e H e' H':=by
   intro D g
   unfold S6 at g
   rw [Wu] at g
   obtain ⟨b,e',H',accs,B,x,M,L,A,z⟩:=Abe G os (i+1) n _ _ _ K u (by simp [j]) y g.1
   refine ⟨b,e',H',accs,B,?_,by simp only [List.length_cons]; omega,by omega,A,?_⟩
   .have:=congrArg (List.take i) x
    rw [List.take_take] at this
    simpa [j] using this
   .rw [List.length_cons,List.range'_succ]
    exact .cons o (.val undef) [] ⟨J,.inr ⟨D,rfl,rfl⟩⟩ z
  simp only [Dt] at h
  cases f:o.guard with
  | none=>
   rw [f] at h
   exact run (by unfold Gj; rw [f]) h
  | some p=>
   rw [f] at h
   simp only [] at h
   cases g:(ops[p.1]?).bind (·.dst) with
   | none=>rw [g] at h; exact h.elim
   | some s=>
    rw [g] at h
    simp only [] at h
    split at h
    .rename_i v I
     cases hb:N5 v==some p.2 with
     | true=>rw [hb] at h; exact run (by unfold Gj; rw [f]; exact ⟨s,v,g,I,hb.symm⟩) h
     | false=>rw [hb] at h; exact skip (by unfold Gj; rw [f]; exact ⟨s,v,g,I,hb.symm⟩) h
    .exact h.elim
variable {o:Oper} {os:List Oper} {n:Nat} {e:Bc} {H:Hp} {acc:Gk} {K:Nat->Bc->Hp->Gk->Prop} {β:Type} {r:β}
theorem nx (k:opK P T an nl o n e H acc fun n e H acc=>Dt P T an nl ops os n e H acc K) (b:o.guard=none:=by exact rfl):D2 (Dt P T an nl ops (o::os) n e H acc K):=.mk (by simp only [Dt,b]; exact k)
theorem Li (k:K n e H acc):D2 (Dt P T an nl ops [] n e H acc K):=.mk k
theorem Aps (p:Nat×Bool) (s:Nat) (k:opK P T an nl o n e H acc fun n e H acc=>Dt P T an nl ops os n e H acc K) (c:o.guard=some p:=by exact rfl) (b:(ops[p.1]?).bind (·.dst)=some s:=by exact rfl) (hb:e s = .val (.bool p.2):=by exact rfl):D2 (Dt P T an nl ops (o::os) n e H acc K) :=
 .mk (by simp only [Dt,c,b,hb,N5,BEq.rfl,cond_true]; exact k)
theorem Apt (p:Nat×Bool) (s:Nat) (v:Value) (k:S6 o n e H acc fun n e H acc=>Dt P T an nl ops os n e H acc K) (f:o.guard=some p:=by exact rfl) (c:(ops[p.1]?).bind (·.dst)=some s:=by exact rfl) (hb:e s = .val v:=by exact rfl) (b:(N5 v==some p.2)=false:=by exact rfl):D2 (Dt P T an nl ops (o::os) n e H acc K) :=
 .mk (by simp only [Dt,f,c,hb,b,cond_false]; exact k)
theorem Mk {p:Nat×Bool} {s:Nat} (k:opK P T an nl o n e H acc fun n e H acc=>Dt P T an nl ops os n e H acc K) (c:o.guard=some p:=by exact rfl) (b:(ops[p.1]?).bind (·.dst)=some s:=by exact rfl) (hb:e s = .val (.bool p.2):=by exact rfl):D2 (Dt P T an nl ops (o::os) n e H acc K):=Aps p s k c b hb
theorem Ml {p:Nat×Bool} {s:Nat} {v:Value} (k:S6 o n e H acc fun n e H acc=>Dt P T an nl ops os n e H acc K) (f:o.guard=some p:=by exact rfl) (c:(ops[p.1]?).bind (·.dst)=some s:=by exact rfl) (hb:e s = .val v:=by exact rfl) (b:(N5 v==some p.2)=false:=by exact rfl):D2 (Dt P T an nl ops (o::os) n e H acc K):=Apt p s v k f c hb b
theorem Apu {s:Nat} {b:Bool} {m c:Option β} {X:List Oper} (h:(bif b then m else c)=some r) (h1:b=true->m=some r->D2 (Dt P T an nl ops X n (Ay e s (.val (.bool true))) H acc K))
  (h2:b=false->c=some r->D2 (Dt P T an nl ops X n (Ay e s (.val (.bool false))) H acc K)) (hb:e s = .val (.bool b):=by exact rfl):D2 (Dt P T an nl ops X n e H acc K):=by
 cases b with
 | true=>have:=h1 rfl h; rwa [Ww hb] at this
 | false=>have:=h2 rfl h; rwa [Ww hb] at this
end
end Go.Ab
namespace Go.Ab
theorem St.recell {σ:Ar} {ι:Bf} {H:Hp} {F:Ar} {W w:World} (s:St σ ι H F W w) (h:Nat) (E:TypeId) (cs f:List O) (hh:H h = .cells E cs) (l:f.length=cs.length)
  (hc:∀(i:Nat) (c j:O) (v:Value),cs[i]? = some c->f[i]? = some j->Conc σ ι H c v->Conc σ ι H j v) :
  St σ ι (Ay H h (.cells E f)) F W w/\Le σ ι H σ ι (Ay H h (.cells E f)):=by
 have k:=s.obj h
 unfold Bx at k
 rw [hh] at k
 obtain ⟨b,C,hb,h1,h2,h3,A,z⟩:=k
 have le:Le σ ι H σ ι (Ay H h (.cells E f)):=by
  have:=Le.upd (ι:=ι) (H:=H) (Ar.le_refl σ) h (ι h) (.cells E f) (by rw [hh]; exact ⟨fun _ e=>e,(fun _ e=>by cases e),(fun _ _ _ _ e=>by cases e)⟩)
  rwa [Gr] at this
 refine ⟨s.touch h b (fun _ _=>rfl) (fun x e=>Cp _ _ e) le (fun x e=>rfl) (fun _ _=>rfl) (fun o e=>by rw [h1] at e; cases e) ?_ h2 ?_ ?_ rfl rfl rfl,le⟩
 .intro x e l q
  exact e (s.inj x h b l (by rw [hh]; rfl) q (by rw [hb]; rfl))
 .intro B _ u
  exact .inr ⟨by rw [hh]; rfl,u⟩
 .unfold Bx
  rw [Bw]
  refine ⟨b,C,hb,h1,h2,h3,by omega,fun i j v x y=>?_⟩
  have hi:i<cs.length:=by rw [<-l]; exact (List.getElem?_eq_some_iff.1 x).1
  have g:cs[i]? = some cs[i]:=List.getElem?_eq_getElem hi
  exact (hc i _ j v g x (z i _ v g y)).mono le
inductive Gh where
 | fz (s:Nat)
 | own (s j:Nat) (e:TypeId) (sz:Nat)
 | nil (s j sz:Nat)
 | fzc (s j:Nat)
 | fzp (s:Nat)
def gxs:List Gh->Nat->Bc->Hp->(Nat->Bc->Hp->Prop)->Prop
 | [],n,e,H,K=>K n e H
 | .fz s::gs,n,e,H,K=>
  match e s with
  | .arr h k 0 len=>
   match H h with
   | .rows _ sz xs=>Fi k xs (Fi len xs (gxs gs n (Ay e s (.sl sz xs)) (Ay H h .dead) K))
   | _=>False
  | _=>False
 | .fzp s::gs,n,e,H,K=>
  match e s with
  | .arr h k 0 len=>
   match H h with
   | .rows _ sz xs=>Fi k xs (Afr len k (Afs xs len fun ys=>gxs gs n (Ay e s (.sl sz ys)) (Ay H h .dead) K))
   | _=>False
  | _=>False
 | .own s j E sz::gs,n,e,H,K=>
  match e s with
  | .loc h _=>
   match H h with
   | .cells T cs=>
    match cs[j]? with
    | some x=>bif Jc x&&Nat.blt 0 sz then gxs gs (n+1) e (Ay (Ay H n (.rows E sz [])) h (.cells T (cs.set j (.arr n 0 0 0)))) K else False
    | none=>False
   | _=>False
  | _=>False
 | .nil s j sz::gs,n,e,H,K=>
  match e s with
  | .loc h _=>
   match H h with
   | .cells T cs=>
    match cs[j]? with
    | some x=>bif Jc x then gxs gs n e (Ay H h (.cells T (cs.set j (.sl sz [])))) K else False
    | none=>False
   | _=>False
  | _=>False
 | .fzc s j::gs,n,e,H,K=>
  match e s with
  | .loc h _=>
   match H h with
   | .cells T cs=>
    match cs[j]? with
    | some (.arr h' k 0 len)=>
     match H h' with
     | .rows _ sz xs=>Fi k xs (Fi len xs (gxs gs n e (Ay (Ay H h' .dead) h (.cells T (cs.set j (.sl sz xs)))) K))
     | _=>False
    | _=>False
   | _=>False
  | _=>False
section
variable {F:Ar} {W:World}
theorem Agm {cs:List O} {j i:Nat} {y c b:O} {P:O->O->Prop} (h1:cs[i]? = some c) (h2:(cs.set j y)[i]? = some b) (f:P c c) (hy:i=j->P c y):P c b:=by
 rw [List.getElem?_set] at h2
 split at h2
 .rename_i e
  split at h2
  .cases h2; exact hy e.symm
  .cases h2
 .rw [h1] at h2; cases h2; exact f
theorem Qh {H:Hp} {n h:Nat} {o:Ba} (b:Dw H n) (hh:H h≠.none):Dw (Ay H h o) n:=by
 intro m c
 rw [Cp _ _ (fun e=>hh (by rw [<-e]; exact b m c))]; exact b m c
theorem Qi:∀(I:List Gh) {n:Nat} {e:Bc} {H:Hp} {K:Nat->Bc->Hp->Prop} {σ:Ar} {ι:Bf} {a:Act} {w:World},gxs I n e H K->St σ ι H F W w->Dq σ ι H e a->Dw H n ->
  ∃σ' ι' n' e' H',K n' e' H'/\Le σ ι H σ' ι' H'/\St σ' ι' H' F W w/\Dq σ' ι' H' e' a/\Dw H' n'/\n<=n'
 | [],n,e,H,K,σ,ι,a,w,h,s,u,l=>⟨σ,ι,n,e,H,h,Le.refl _ _ _,s,u,l,Nat.le_refl _⟩
 | .fz t::I,n,e,H,K,σ,ι,a,w,h,s,u,l=>by
  simp only [gxs] at h
  split at h
  .rename_i hd k len hx
   split at h
   .rename_i E sz xs hh
    obtain ⟨hk,hl,h⟩:=h
    obtain ⟨A,f,s1,G⟩:=s.freeze hh
    have a7:Dq A ι (Ay H hd .dead) (Ay e t (.sl sz xs)) a:=by
     intro q hq
     by_cases z:q=t
     .subst z
      rw [Bw]
      have hc:=u q hq
      rw [hx] at hc
      have:=G 0 len _ (by omega) (hc.arr_inv hh hk)
      rw [List.drop_zero,List.take_of_length_le (by omega)] at this
      exact .cc this
     .rw [Cp _ _ z]; exact (u q hq).mono f
    obtain ⟨J,L,M,X,Y,V,U,S,R,N,Z⟩:=Qi I h s1 a7 (Qh l (by rw [hh]; intro e; cases e))
    exact ⟨J,L,M,X,Y,V,f.trans U,S,R,N,Z⟩
   .exact h.elim
  .exact h.elim
 | .fzp t::I,n,e,H,K,σ,ι,a,w,h,s,u,l=>by
  simp only [gxs] at h
  split at h
  .rename_i hd k len hx
   split at h
   .rename_i E sz xs hh
    obtain ⟨hk,hl,ys,hy,h⟩:=h
    obtain ⟨A,f,s1,G⟩:=s.freeze hh
    have a7:Dq A ι (Ay H hd .dead) (Ay e t (.sl sz ys)) a:=by
     intro q hq
     by_cases z:q=t
     .subst z
      rw [Bw]
      have hc:=u q hq
      rw [hx] at hc
      have:=G 0 len _ (by omega) (hc.arr_inv hh hk)
      rw [List.drop_zero,hy] at this
      exact .cc this
     .rw [Cp _ _ z]; exact (u q hq).mono f
    obtain ⟨J,L,M,X,Y,V,U,S,R,N,Z⟩:=Qi I h s1 a7 (Qh l (by rw [hh]; intro e; cases e))
    exact ⟨J,L,M,X,Y,V,f.trans U,S,R,N,Z⟩
   .exact h.elim
  .exact h.elim
 | .own t j E sz::I,n,e,H,K,σ,ι,a,w,h,s,u,l=>by
  simp only [gxs] at h
  split at h
  .rename_i hd off hx
   split at h
   .rename_i T cs hh
    split at h
    .rename_i x hj
     obtain ⟨hb,h⟩:=Er h
     rw [Bool.and_eq_true] at hb
     have a6:hd≠n:=by
      intro z; subst z
      have:=l hd (Nat.le_refl _); rw [hh] at this; cases this
     obtain ⟨s0,aa⟩:=s.newNil n (l n (Nat.le_refl _)) E sz (Fq hb.2)
     have g:Ay H n (.rows E sz []) hd = .cells T cs:=by rw [Cp _ _ a6]; exact hh
     obtain ⟨s1,f⟩:=s0.recell hd T cs (cs.set j (.arr n 0 0 0)) g (by simp) (by
      intro i c c' v h1 h2 h3
      refine Agm (P:=fun a b=>Conc σ _ _ a v->Conc σ _ _ b v) h1 h2 (fun h=>h) (fun B h=>?_) h3
      subst B
      rw [hj] at h1; cases h1
      rw [Wr hb.1] at h
      rw [h.val_inv]
      refine .arr _ _ _ _ _ (by rw [Bw]; intro e; cases e) (fun E' ak aj e'=>?_) rfl
      rw [Bw] at e'; cases e'
      exact ⟨by simp,fun _=>by rw [Bw]; exact ⟨rfl,rfl,rfl⟩⟩)
     have af:Dw (Ay (Ay H n (.rows E sz [])) hd (.cells T (cs.set j (.arr n 0 0 0)))) (n+1):=by
      refine Qh ?_ (by rw [g]; intro e; cases e)
      intro m hm
      rw [Cp _ _ (by omega)]; exact l m (by omega)
     obtain ⟨J,L,M,X,Y,V,U,S,R,N,Z⟩:=Qi I h s1 (u.mono (aa.trans f)) af
     exact ⟨J,L,M,X,Y,V,(aa.trans f).trans U,S,R,N,by omega⟩
    .exact h.elim
   .exact h.elim
  .exact h.elim
 | .nil t j sz::I,n,e,H,K,σ,ι,a,w,h,s,u,l=>by
  simp only [gxs] at h
  split at h
  .rename_i hd off hx
   split at h
   .rename_i T cs hh
    split at h
    .rename_i x hj
     obtain ⟨hb,h⟩:=Er h
     obtain ⟨s1,f⟩:=s.recell hd T cs (cs.set j (.sl sz [])) hh (by simp) (by
      intro i c c' v h1 h2 h3
      refine Agm (P:=fun a b=>Conc σ _ _ a v->Conc σ _ _ b v) h1 h2 (fun h=>h) (fun B h=>?_) h3
      subst B
      rw [hj] at h1; cases h1
      exact Wt hb h)
     obtain ⟨J,L,M,X,Y,V,U,S,R,N,Z⟩:=Qi I h s1 (u.mono f) (Qh l (by rw [hh]; intro e; cases e))
     exact ⟨J,L,M,X,Y,V,f.trans U,S,R,N,Z⟩
    .exact h.elim
   .exact h.elim
  .exact h.elim
 | .fzc t j::I,n,e,H,K,σ,ι,a,w,h,s,u,l=>by
  simp only [gxs] at h
  split at h
  .rename_i hd off hx
   split at h
   .rename_i T cs hh
    split at h
    .rename_i h' k len hj
     split at h
     .rename_i E sz xs D
      obtain ⟨hk,hl,h⟩:=h
      obtain ⟨A,f,s1,G⟩:=s.freeze D
      have a6:hd≠h':=by intro z; subst z; rw [hh] at D; cases D
      have g:Ay H h' .dead hd = .cells T cs:=by rw [Cp _ _ a6]; exact hh
      have a1:=s.obj hd
      unfold Bx at a1; rw [hh] at a1
      obtain ⟨b,C,z,g1,g2,g3,g4,g5⟩:=a1
      have a8:∀v,C[j]? = some v->Conc A ι (Ay H h' .dead) (.sl sz xs) v:=by
       intro v hv
       have hc:=g5 j _ v hj hv
       have:=G 0 len _ (by omega) (hc.arr_inv D hk)
       rw [List.drop_zero,List.take_of_length_le (by omega)] at this
       exact .cc this
      have s2:St A ι (Ay (Ay H h' .dead) hd (.cells T (cs.set j (.sl sz xs)))) F W w/\Le A ι (Ay H h' .dead) A ι (Ay (Ay H h' .dead) hd (.cells T (cs.set j (.sl sz xs)))):=by
       have ho:=s1.obj hd
       unfold Bx at ho; rw [g] at ho
       obtain ⟨b',C',ae,ad,ac,ab,am,ai⟩:=ho
       rw [z] at ae; cases ae
       rw [g3] at ab; cases ab
       have le:Le A ι (Ay H h' .dead) A ι (Ay (Ay H h' .dead) hd (.cells T (cs.set j (.sl sz xs)))):=by
        have:=Le.upd (ι:=ι) (H:=Ay H h' .dead) (Ar.le_refl A) hd (ι hd) (.cells T (cs.set j (.sl sz xs))) (by rw [g]; exact ⟨fun _ e=>e,(fun _ e=>by cases e),(fun _ _ _ _ e=>by cases e)⟩)
        rwa [Gr] at this
       refine ⟨s1.touch hd b (fun _ _=>rfl) (fun x e=>Cp _ _ e) le (fun x e=>rfl) (fun _ _=>rfl) (fun o e=>by rw [ad] at e; cases e) ?_ ac ?_ ?_ rfl rfl rfl,le⟩
       .intro x e hl ag
        exact e (s1.inj x hd b hl (by rw [g]; rfl) ag (by rw [z]; rfl))
       .intro b0 _ ah
        exact .inr ⟨by rw [g]; rfl,ah⟩
       .unfold Bx
        rw [Bw]
        refine ⟨b,C,z,ad,ac,g3,by simpa using g4,fun i c' v x y=>?_⟩
        rw [List.getElem?_set] at x
        split at x
        .rename_i B
         split at x
         .cases x; subst B; exact (a8 v y).mono le
         .cases x
        .exact (ai i c' v x y).mono le
      obtain ⟨J,L,M,X,Y,V,U,S,R,N,Z⟩:=Qi I h s2.1 (u.mono (f.trans s2.2)) (Qh (Qh l (by rw [D]; intro e; cases e)) (by rw [g]; intro e; cases e))
      exact ⟨J,L,M,X,Y,V,(f.trans s2.2).trans U,S,R,N,Z⟩
     .exact h.elim
    .exact h.elim
   .exact h.elim
  .exact h.elim
end
end Go.Ab
namespace Go.Ab
def Gu {S E:Type} (step:S->Option (S⊕E)):Nat->S->Option E
 | 0,_=>none
 | n+1,s=>
  match step s with
  | none=>none
  | some (.inl s')=>Gu step n s'
  | some (.inr e)=>some e
theorem Abf {S E:Type} {step:S->Option (S⊕E)}:∀{n:Nat} {s:S} {e:E},Gu step n s=some e->∀m,n<=m->Gu step m s=some e
 | 0,s,e,h,_,_=>by cases h
 | n+1,s,e,h,0,c=>by omega
 | n+1,s,e,h,m+1,c=>by
  simp only [Gu] at h ⊢
  cases b:step s with
  | none=>rw [b] at h; cases h
  | some o=>
   rw [b] at h
   cases o with
   | inl s'=>exact Abf (n:=n) h m (by omega)
   | inr e'=>exact h
theorem Agn {S E:Type} {step:S->Option (S⊕E)} {n m:Nat} {s:S} {e e':E} (h:Gu step n s=some e) (h':Gu step m s=some e'):e=e':=by
 have h1:=Abf h (max n m) (by omega)
 have h2:=Abf h' (max n m) (by omega)
 rw [h1] at h2; exact Option.some.inj h2
open Classical in
noncomputable def Ak {S E:Type} (step:S->Option (S⊕E)) (s:S):Option E :=
 match Gu step 4096 s with
 | some e=>some e
 | none=>if h:∃n e,Gu step n s=some e then some (Classical.choose (Classical.choose_spec h)) else none
theorem Abg {S E:Type} {step:S->Option (S⊕E)} {s:S} {e:E} (h:Ak step s=some e):∃n,Gu step n s=some e:=by
 unfold Ak at h
 split at h
 .rename_i e' b
  cases h
  exact ⟨_,b⟩
 .split at h
  .rename_i hx
   cases h
   exact ⟨_,Classical.choose_spec (Classical.choose_spec hx)⟩
  .cases h
theorem Abh {S E:Type} {step:S->Option (S⊕E)} {s:S} {e:E} {n:Nat} (h:Gu step n s=some e):Ak step s=some e:=by
 have hx:∃n e,Gu step n s=some e:=⟨n,e,h⟩
 unfold Ak
 split
 .rename_i e' b
  exact congrArg some (Agn b h)
 rw [dif_pos hx]
 exact congrArg some (Agn (Classical.choose_spec (Classical.choose_spec hx)) h)
theorem D9 {S E:Type} {step:S->Option (S⊕E)} {s:S} {e:E} (h:step s=some (.inr e)):Ak step s=some e :=
 Abh (n:=1) (by simp only [Gu,h])
theorem Hv {S E:Type} {step:S->Option (S⊕E)} {s s':S} (h:step s=some (.inl s')):Ak step s=Ak step s':=by
 cases h':Ak step s' with
 | some e=>
  obtain ⟨n,b⟩:=Abg h'
  exact Abh (n:=n+1) (by simp only [Gu,h]; exact b)
 | none=>
  cases c:Ak step s with
  | none=>rfl
  | some e=>
   obtain ⟨n,b⟩:=Abg c
   cases n with
   | zero=>cases b
   | succ n=>
    simp only [Gu,h] at b
    rw [Abh b] at h'; cases h'
theorem Qj {S E:Type} {step:S->Option (S⊕E)} (c:S->Prop) (m:S->Nat) (b:E->Prop)
  (f:∀s,c s->(∃s',step s=some (.inl s')/\c s'/\m s' < m s)\/(∃e,step s=some (.inr e)/\b e)) (s:S) (h0:c s):∃e,Ak step s=some e/\b e:=by
 generalize hk:m s=k
 induction k using Nat.strongRecOn generalizing s with
 | _ k ih=>
  rcases f s h0 with ⟨s',h1,h2,h3⟩ | ⟨e,h1,h2⟩
  .obtain ⟨e,h,g⟩:=ih (m s') (by omega) s' h2 rfl
   exact ⟨e,by rw [Hv h1]; exact h,g⟩
  .exact ⟨e,D9 h1,h2⟩
def Ae {α:Type} (l:List α) (i:Int):Option α:=if 0<=i then l[i.toNat]? else none
def Gl {α:Type} (l:List α) (lo hi:Int):Option (List α):=if 0<=lo/\lo<=hi/\hi<=l.length then some ((l.take hi.toNat).drop lo.toNat) else none
def Bl {α:Type} (b:Nat) (xs ys:List α):Option (List α):=if (xs.length+ys.length)*b<=140737488355328 then some (xs++ys) else none
def Eu {α:Type} (c:Nat) (len b:Int) (z:α):Option (List α):=if 0<=len/\len<=b/\c*b.toNat<=281474976710656/\b<=140737488355328 then some (List.replicate len.toNat z) else none
def Fj {α:Type} (l:List α) (off n:Nat) (i:Int):Option α:=if 0<=i/\i<n then l[off+i.toNat]? else none
def Mm (n:Nat) (lo hi:Int):Option (Nat×Nat):=if 0<=lo/\lo<=hi/\hi<=n/\(lo=0\/lo<hi) then some (lo.toNat,hi.toNat) else none
def Mn {α:Type} (xs:List α) (off n:Nat) (z:α):Option (List α):=if off+n<=xs.length then some (Dk xs off (List.replicate n z)) else none
def W2 {α:Type} (xs:List α) (n:Nat):Option (List α):=if n<=xs.length then some (xs.take n) else none
def Qk (n:Nat) (hi:Int):Option Nat:=if 0<=hi/\hi<=n then some hi.toNat else none
def Og (n:Nat) (lo hi:Int):Option ((Nat×Nat)⊕Unit):=if 0<=lo/\lo<=hi/\hi<=n then (if lo=0\/lo<hi then some (.inl (lo.toNat,hi.toNat)) else some (.inr ())) else none
def Lj {α:Type} (n:Nat) (l:List α):Option Unit:=if n=l.length then some () else none
theorem H8 {α:Type} {n:Nat} {l:List α} {u:Unit} (h:Lj n l=some u):n=l.length:=by
 unfold Lj at h
 split at h
 .assumption
 .cases h
theorem Ago (off:Nat) {i:Int} {n:Nat} (h:i=n):((off:Nat):Int)+i=((off+n:Nat):Int):=by omega
def S7 (n:Int):Option ByteArray:=if -9223372036854775808<=n/\n<=9223372036854775807 then some ⟨(Lib.itoa n).toArray⟩ else none
def Agp (l:List Int):Option (List Int):=some (l.mergeSort fun x y=>decide (x<=y))
def Ga (l:List Int):List UInt8:=l.map fun n=>UInt8.ofNat n.toNat
def W3 (l:List Int):Option ByteArray:=if (∀x∈l,0<=x/\x<256) then some ⟨(Ga l).toArray⟩ else none
def Lk (s:ByteArray):List Int:=s.data.toList.map fun b=>(b.toNat:Int)
def Cq {α:Type} (l:List α) (i:Int) (x:α):List α:=l.set i.toNat x
def E4 (k:IntKind) (a b:Int):Option Int:=if b=0 then none else some (k.wrap (a.tdiv b))
def Ft (a b:Int):Option Int:=if b=0 then none else some (a.tmod b)
def Agq (k:IntKind) (a b:Int):Option Int:=if 0<=b then some (k.wrap (a*2 ^ (min b.toNat k.bits))) else none
def S8 (k:IntKind) (a b:Int):Option Int:=if 0<=b then some (a.fdiv (2 ^ (min b.toNat k.bits))) else none
def Ee (s:ByteArray) (i:Int):Option UInt8:=if 0<=i then s[i.toNat]? else none
def Mo (a b:ByteArray):Option ByteArray:=if a.size+b.size<=9223372036854775807 then some (a++b) else none
def Dd (s:ByteArray) (lo hi:Int):Option ByteArray:=if 0<=lo/\lo<=hi/\hi<=s.size then some (s.extract lo.toNat hi.toNat) else none
abbrev Ac (n:Int):Int:=IntKind.i64.wrap n
abbrev As (n:Int):Int:=IntKind.u64.wrap n
abbrev Bq (n:Int):Int:=IntKind.u32.wrap n
abbrev wu8 (n:Int):Int:=IntKind.u8.wrap n
theorem Agr {α:Type} {l:List α} {i:Int} {x:α} (h:Ae l i=some x):∃n:Nat,i=n/\l[n]? = some x:=by
 unfold Ae at h
 split at h
 .exact ⟨i.toNat,by omega,h⟩
 .cases h
section
variable {β:Type} {r:β}
theorem Dx {α:Type} {o:Option α} {m:α->Option β} {G:Prop} (h:o.bind m=some r) (k:∀x,o=some x->m x=some r->G):G:=by
 cases o with
 | none=>cases h
 | some x=>exact k x rfl h
theorem Ags {α:Type} {o:Option α} {m:α->Option β} {G:Prop} (h:o.bind m=some r) (k:∀x,o=some x->(∀y,y=x->m y=some r)->G):G:=by
 cases o with
 | none=>cases h
 | some x=>exact k x rfl (fun y hy=>by subst hy; exact h)
theorem Apv {α:Type} {l:List α} {f:α->O} {ys:List O} (g:ys=l.map f) {i:Int} {m:α->Option β} {K:Nat->O->Prop} (h:(Ae l i).bind m=some r) (k:∀(n:Nat) (x:α),i=n->l[n]? = some x->m x=some r->K n (f x)):Sy ys i K:=by
 subst g
 refine Dx h fun x hx h=>?_
 obtain ⟨n,b,c⟩:=Agr hx
 exact .mk n (f x) b (by simp [c]) (k n x b c h)
theorem Apw {α:Type} {l:List α} {f:α->O} {ys:List O} (q:ys=l.map f) {i:Int} {m:α->Option β} {K:Nat->Prop} {len b:Nat} (j:len=l.length) (hk:b=l.length) (h:(Ae l i).bind m=some r) (k:∀(n:Nat) (x:α),i=n->l[n]? = some x->m x=some r->K n):N7 len b ys i K:=by
 subst q
 refine Dx h fun x hx h=>?_
 obtain ⟨n,c,g⟩:=Agr hx
 exact .mk n (by rw [hk]; simp) c (by rw [j]; exact (List.getElem?_eq_some_iff.1 g).1) (k n x c g h)
theorem Apx {α:Type} {l:List α} {f:α->O} {ys:List O} (c:ys=l.map f) {i:Int} {m:α->Option β} {K:Nat->Prop} {off len b:Nat} (hk:b=l.length) (h:(Fj l off len i).bind m=some r) (k:∀(n:Nat) (x:α),i=n->l[off+n]? = some x->m x=some r->K n):N7 len b ys i K:=by
 subst c
 refine Dx h fun x hx h=>?_
 unfold Fj at hx
 split at hx
 .rename_i hc
  exact .mk i.toNat (by rw [hk]; simp) (by omega) (by omega) (k _ x (by omega) hx h)
 .cases hx
theorem Agt {α:Type} {l:List α} {f:α->O} {ys:List O} (c:ys=l.map f) {b n:Nat} (hk:b=l.length) {lo hi:Int} {m:Nat×Nat->Option β} {K:Nat->Nat->Prop} {g:Prop} (h:(Mm n lo hi).bind m=some r) (k:∀v:Nat×Nat,m v=some r->K v.1 v.2):Wh b ys n lo hi K g:=by
 subst c
 refine Dx h fun x hx h=>?_
 unfold Mm at hx
 split at hx
 .rename_i hc
  cases hx
  exact .mk lo.toNat hi.toNat (by rw [hk]; simp) (by omega) (by omega) (by omega) (by omega) (by omega) (k _ h)
 .cases hx
theorem Apy {α β:Type} (f:α->β) (xs:List α) (d:Nat) (ys:List α):Dk (xs.map f) d (ys.map f)=(Dk xs d ys).map f:=by
 unfold Dk
 simp [List.map_take,List.map_drop]
theorem Apz {α:Type} {l:List α} {f:α->O} {xs:List O} {z:α} {c:O} (j:xs=l.map f) (i:c=f z) {g off len:Nat} {m:List α->Option β} {K:List O->Prop} (hk:g=l.length) (h:(Mn l off len z).bind m=some r)
  (k:∀o:List α,Mn l off len z=some o->m o=some r->K (o.map f)):Afq xs g off len c K:=by
 subst j; subst hk; subst i
 refine Dx h fun x hx h=>?_
 have b:=hx
 unfold Mn at hx
 split at hx
 .rename_i hc
  cases hx
  exact .mk _ (by simp) (by simpa using hc) (by rw [<-List.map_replicate,Apy]) (k _ b h)
 .cases hx
theorem Agu {α:Type} {l o:List α} {k off n:Nat} {z:α} (hk:k=l.length) (h:Mn l off n z=some o):k=o.length:=by
 unfold Mn at h
 split at h
 .cases h
  rw [Sv (by omega)]; simp; omega
 .cases h
theorem Ap0 {α:Type} {l:List α} {f:α->O} {xs:List O} (c:xs=l.map f) {b len:Nat} {m:List α->Option β} {K:List O->Prop} (hk:b=l.length) (h:(W2 l len).bind m=some r)
  (k:∀o:List α,m o=some r->K (o.map f)):Fi b xs (Afr len b (Afs xs len K)):=by
 subst c; subst hk
 refine Dx h fun x hx h=>?_
 unfold W2 at hx
 split at hx
 .rename_i hc
  cases hx
  exact .mk (by simp) (.mk hc (.mk _ (by rw [List.map_take]) (k _ h)))
 .cases hx
theorem Agv {α:Type} {l:List α} {f:α->O} {ys:List O} (c:ys=l.map f) {b n:Nat} (hk:b=l.length) {hi:Int} {m:Nat->Option β} {K:Nat->Nat->Prop} {g:Prop} (h:(Qk n hi).bind m=some r) (k:∀v:Nat,m v=some r->K 0 v):Wh b ys n 0 hi K g:=by
 subst c
 refine Dx h fun x hx h=>?_
 unfold Qk at hx
 split at hx
 .rename_i hc
  cases hx
  exact .mk 0 hi.toNat (by rw [hk]; simp) (by omega) (by omega) (by omega) (by omega) (by omega) (k _ h)
 .cases hx
theorem Ap1 {α:Type} {l:List α} {f:α->O} {ys:List O} (i:ys=l.map f) {b n:Nat} (hk:b=l.length) {lo hi:Int} {m:(Nat×Nat)⊕Unit->Option β} {K:Nat->Nat->Prop} {c:Prop} (h:(Og n lo hi).bind m=some r)
  (k:∀v:Nat×Nat,m (.inl v)=some r->K v.1 v.2) (g:m (.inr ())=some r->c):Wh b ys n lo hi K c:=by
 subst i
 refine Dx h fun x hx h=>?_
 unfold Og at hx
 split at hx
 .rename_i hc
  split at hx
  .cases hx
   exact .mk lo.toNat hi.toNat (by rw [hk]; simp) (by omega) (by omega) (by omega) (by omega) (by omega) (k _ h)
  .cases hx
   exact .mkE lo.toNat (by rw [hk]; simp) (by omega) (by omega) (by omega) (g h)
 .cases hx
theorem Agw {op:BinOp} {q:FloatKind} {a b:Nat} {m:Nat->Option β} {K:Nat->Prop} (h:(floatBits op q a b).bind m=some r) (k:∀c,m c=some r->K c):Wk op q a b K :=
 Dx h fun x hx h=>.mk x hx (k x h)
theorem Agx {q:FloatKind} {a:Nat} {z:IntKind} {m:Int->Option β} {K:Int->Prop} (h:(floatToIntVal q a z).bind m=some r) (k:∀c,m c=some r->K c):Wl q a z K :=
 Dx h fun x hx h=>.mk x hx (k x h)
theorem Ap2 {α:Type} {l:List α} {f:α->O} {ys:List O} (c:ys=l.map f) {n i b:Nat} {x:α} {K:O->Prop} (hk:b=l.length) (hi:i=n) (hx:l[n]? = some x) (k:K (f x)):Jb b i ys K:=by
 subst c; subst hi
 exact .mk (f x) (by rw [hk]; simp) (by simp [hx]) k
theorem Kv {α:Type} {l:List α} {f:α->O} {ys:List O} (b:ys=l.map f) {n i:Nat} {j:Int} {x:α} {p:O} {K:List O->Prop} (hp:p=f x) (hi:i=n) (hj:j=(n:Int)) (k:K ((Cq l j x).map f)):P8 ys i p K:=by
 subst b; subst hi; subst hp; subst hj
 exact .mk _ (by simp [Cq,List.map_set]) k
theorem Ap3 {α:Type} {g:List α->List O} {f:α->O} (b:∀l,g l=l.map f) {l:List α} {ys:List O} (c:ys=l.map f) {n i:Nat} {j:Int} {x:α} {p:O} {K:List O->Prop} (hp:p=f x) (hi:i=n) (hj:j=(n:Int)) (k:K (g (Cq l j x))):P8 ys i p K :=
 Kv c hp hi hj (by rw [<-b]; exact k)
theorem Ge {α:Type} {l:List α} {k:Nat} (h:k=l.length) (j:Int) (x:α):k=(Cq l j x).length:=by simp [Cq,h]
theorem Agy {α:Type} {l:List α} {f:α->O} {ys:List O} (c:ys=l.map f) {lo hi:Int} {m:List α->Option β} {K:List O->Prop} (h:(Gl l lo hi).bind m=some r) (k:∀b:List α,m b=some r->K (b.map f)):N8 ys lo hi K:=by
 subst c
 refine Dx h fun x hx h=>?_
 unfold Gl at hx
 split at hx
 .rename_i hc
  cases hx
  exact .mk lo.toNat hi.toNat _ (by omega) (by omega) (by omega) (by simp; omega) (by rw [<-List.map_take,<-List.map_drop]) (k _ h)
 .cases hx
theorem Ap4 {α:Type} {l:List α} {f:α->O} {ys:List O} (c:ys=l.map f) {lo:Int} {m:List α->Option β} {K:List O->Prop} (h:(Gl l lo l.length).bind m=some r) (k:∀b:List α,m b=some r->K (b.map f)):N8 ys lo ys.length K:=by
 have e:((ys.length:Nat):Int)=(l.length:Int):=by rw [c]; simp
 rw [e]
 exact Agy c h k
theorem Abi {α:Type} {l ys:List α} {f:α->O} {xs c:List O} (q:xs=l.map f) (i:c=ys.map f) {b g len:Nat} {m:List α->Option β} {K:List O->Nat->Prop} {s:List O->Nat->Nat->Prop} (hk:g=l.length) (j:len=l.length) (h:(Bl b l ys).bind m=some r)
  (k:∀o:List α,m o=some r->K (o.map f) o.length):Kt xs c g len b K s:=by
 subst q; subst i; subst hk; subst j
 refine Dx h fun x hx h=>?_
 unfold Bl at hx
 split at hx
 .rename_i hc
  cases hx
  exact .mk _ _ (by simp) rfl (by simpa using hc) (by simp) (by simp) (k _ h)
 .cases hx
theorem Ap5 {l:List Int} {s:ByteArray} {xs:List O} (i:xs=l.map fun n=>.val (.int .u8 n)) {b c len:Nat} {m:List Int->Option β} {K:List O->Nat->Prop} {j:List O->Nat->Nat->Prop} (hk:c=l.length) (g:len=l.length) (h:(Bl b l (Lk s)).bind m=some r)
  (k:∀o:List Int,m o=some r->K (o.map fun n=>.val (.int .u8 n)) o.length):Kt xs (G5 s) c len b K j:=by
 refine Abi (f:=fun n=>.val (.int .u8 n)) i ?_ hk g h k
 simp [G5,Lk]
theorem Agz {α:Type} {ys:List α} {f:α->O} {c:List O} (g:c=ys.map f) {b:Nat} {m:List α->Option β} {K:List O->Nat->Prop} (h:(Bl b [] ys).bind m=some r)
  (k:∀o:List α,m o=some r->K (o.map f) o.length):N9 c b K:=by
 subst g
 refine Dx h fun x hx h=>?_
 unfold Bl at hx
 split at hx
 .rename_i hc
  cases hx
  exact .mk _ _ (by simpa using hc) (by simp) (by simp) (k _ h)
 .cases hx
theorem Ap6 {α:Type} {g:List α->List O} {f:α->O} (s:∀l,g l=l.map f) {l ys:List α} {xs c:List O} (u:xs=l.map f) (j:c=ys.map f) {b i len:Nat} {m:List α->Option β} {K:List O->Nat->Prop} {x:List O->Nat->Nat->Prop} (hk:i=l.length) (q:len=l.length) (h:(Bl b l ys).bind m=some r)
  (k:∀o:List α,m o=some r->K (g o) o.length):Kt xs c i len b K x :=
 Abi u j hk q h fun o h=>by rw [<-s]; exact k o h
theorem Ap7 {α:Type} {g:List α->List O} {f:α->O} (j:∀l,g l=l.map f) {ys:List α} {c:List O} (i:c=ys.map f) {b:Nat} {m:List α->Option β} {K:List O->Nat->Prop} (h:(Bl b [] ys).bind m=some r)
  (k:∀o:List α,m o=some r->K (g o) o.length):N9 c b K :=
 Agz i h fun o h=>by rw [<-j]; exact k o h
theorem Ap8 {α:Type} {z:α} {f:α->O} {g:O} (i:g=f z) {len c:Int} {b:Nat} {m:List α->Option β} {K:Nat->List O->Prop} (h:(Eu b len c z).bind m=some r) (k:∀o:List α,m o=some r->K o.length (o.map f)):P7 len c b g K:=by
 subst i
 refine Dx h fun x hx h=>?_
 unfold Eu at hx
 split at hx
 .rename_i hc
  cases hx
  exact .mk _ c.toNat _ (by simp; omega) (by omega) (by simp; omega) hc.2.2.1 (by omega) (by simp) (k _ h)
 .cases hx
theorem Ap9 {α:Type} {z:α} {f:α->O} {g:O} (i:Iv g.cells (f z).cells) {len c:Int} {b:Nat} {m:List α->Option β} {K:Nat->List O->Prop} (h:(Eu b len c z).bind m=some r) (k:∀o:List α,m o=some r->K o.length (o.map f)):P7 len c b g K:=by
 refine Dx h fun x hx h=>?_
 unfold Eu at hx
 split at hx
 .rename_i hc
  cases hx
  exact .mkN (f z) i _ c.toNat _ (by simp; omega) (by omega) (by simp; omega) hc.2.2.1 (by omega) (by simp) (k _ h)
 .cases hx
theorem Aqa {α:Type} {l:List α} {f:α->O} {ys:List O} (b:ys=l.map f) {K:Int->Prop} (k:K (l.length:Int)):J4 ys K:=by
 subst b; exact .mk _ (by simp) k
theorem Aqb {α:Type} {l:List α} {f:α->O} {ys:List O} (c:ys=l.map f) {b:Nat} (hk:b=l.length) {K:Prop} (k:K):Fi b ys K:=by
 subst c; exact .mk (by rw [hk]; simp) k
def Fb {α:Type} (l:List (ByteArray×α)) (s:ByteArray):Bool:=l.any fun p=>s==p.1
def H9 {α:Type} (l:List (ByteArray×α)) (s:ByteArray) (z:α):α:=((l.find? fun p=>s==p.1).map (·.2)).getD z
def Fc {α:Type}:List (ByteArray×α)->ByteArray->α->List (ByteArray×α)
 | [],s,v=>[(s,v)]
 | p::l,s,v=>bif s==p.1 then (s,v)::l else p::Fc l s v
def Bm {α:Type} (f:α->O) (l:List (ByteArray×α)):List (O×O):=l.map fun p=>(.val (.string p.1),f p.2)
theorem Abj {α:Type} (f:α->O) (s:ByteArray) (z:α):∀(l:List (ByteArray×α)) (i:Nat),
  (Fb l s=false/\G6 s (Bm f l) i=some none)\/(Fb l s=true/\∃j,G6 s (Bm f l) i=some (some (i+j,f (H9 l s z)))/\∀v,Bm f (Fc l s v)=(Bm f l).set j (.val (.string s),f v))
 | [],i=>.inl ⟨rfl,rfl⟩
 | p::l,i=>by
  cases hp:s==p.1 with
  | true=>
   refine .inr ⟨by simp [Fb,hp],0,?_,fun v=>?_⟩
   .simp [Bm,G6,H9,hp]
   .simp [Bm,Fc,hp]
  | false=>
   rcases Abj f s z l (i+1) with ⟨h1,h2⟩ | ⟨h1,j,h2,h3⟩
   .refine .inl ⟨by simp only [Fb,List.any_cons,hp,Bool.false_or]; exact h1,?_⟩
    have:G6 s (Bm f (p::l)) i=G6 s (Bm f l) (i+1):=by simp [Bm,G6,hp]
    rw [this,h2]
   .refine .inr ⟨by simp only [Fb,List.any_cons,hp,Bool.false_or]; exact h1,j+1,?_,fun v=>?_⟩
    .have:G6 s (Bm f (p::l)) i=G6 s (Bm f l) (i+1):=by simp [Bm,G6,hp]
     have b:H9 (p::l) s z=H9 l s z:=by simp [H9,hp]
     rw [this,h2,b]; congr 3; omega
    .have c:Bm f (Fc (p::l) s v)=(.val (.string p.1),f p.2)::Bm f (Fc l s v):=by simp [Bm,Fc,hp]
     rw [c,h3 v]; rfl
theorem Ag0 {α:Type} (f:α->O) {s:ByteArray} {v:α}:∀{l:List (ByteArray×α)},Fb l s=false->Bm f (Fc l s v)=Bm f l++[(.val (.string s),f v)]
 | [],_=>rfl
 | p::l,h=>by
  simp only [Fb,List.any_cons,Bool.or_eq_false_iff] at h
  have:=Ag0 f (v:=v) (l:=l) h.2
  simp only [Fc,h.1,cond_false]
  simp only [Bm,List.map_cons,List.cons_append] at this ⊢
  rw [this]
theorem Abk {α:Type} {f:α->O} {l:List (ByteArray×α)} {es:List (O×O)} (i:es=Bm f l) (z:α) {s:ByteArray} {m b:Option β} {K:Option (Nat×O)->Prop} (h:(bif Fb l s then m else b)=some r)
  (g:∀j,Fb l s=true->m=some r->K (some (j,f (H9 l s z)))) (c:Fb l s=false->b=some r->K none):Aft s es K:=by
 subst i
 rcases Abj f s z l 0 with ⟨h1,h2⟩ | ⟨h1,j,h2,_⟩
 .rw [h1] at h; exact .mk _ h2 (c h1 h)
 .rw [h1] at h; exact .mk _ h2 (g _ h1 h)
theorem W4 {α:Type} {f:α->O} {l:List (ByteArray×α)} {es:List (O×O)} (c:es=Bm f l) {s:ByteArray} {x:α} {v:O} (b:v=f x) {K:List (O×O)->Prop} (k:K (Bm f (Fc l s x))):Afw s v es K:=by
 subst c; subst b
 refine .mk _ ?_ k
 unfold Wa
 rcases Abj f s x l 0 with ⟨h1,h2⟩ | ⟨h1,j,h2,h3⟩
 .rw [h2,Ag0 f h1]
 .rw [h2,h3 x]; simp
theorem S9 {k:IntKind} {a b:Int} {m:Int->Option β} {K:Int->Prop} (h:(E4 k a b).bind m=some r) (f:∀c:Int,m c=some r->K c):Wc k a b K:=by
 refine Dx h fun x hx h=>?_
 unfold E4 at hx
 split at hx
 .cases hx
 .rename_i hb; cases hx; exact .mk _ hb rfl (f _ h)
theorem W5 {a b:Int} {m:Int->Option β} {K:Int->Prop} (h:(Ft a b).bind m=some r) (f:∀c:Int,m c=some r->K c):Wd a b K:=by
 refine Dx h fun x hx h=>?_
 unfold Ft at hx
 split at hx
 .cases hx
 .rename_i hb; cases hx; exact .mk _ hb rfl (f _ h)
theorem Ag1 {k:IntKind} {a b:Int} {m:Int->Option β} {K:Int->Prop} (h:(Agq k a b).bind m=some r) (f:∀c:Int,m c=some r->K c):Wf k a b K:=by
 refine Dx h fun x hx h=>?_
 unfold Agq at hx
 split at hx
 .rename_i hb; cases hx; exact .mk _ hb rfl (f _ h)
 .cases hx
theorem Ag2 {k:IntKind} {a b:Int} {m:Int->Option β} {K:Int->Prop} (h:(S8 k a b).bind m=some r) (f:∀c:Int,m c=some r->K c):We k a b K:=by
 refine Dx h fun x hx h=>?_
 unfold S8 at hx
 split at hx
 .rename_i hb; cases hx; exact .mk _ hb rfl (f _ h)
 .cases hx
theorem Ta {s:ByteArray} {i:Int} {m:UInt8->Option β} {K:UInt8->Prop} (h:(Ee s i).bind m=some r) (b:∀c:UInt8,m c=some r->K c):Wi s i K:=by
 refine Dx h fun x hx h=>?_
 unfold Ee at hx
 split at hx
 .exact .mk i.toNat x (by omega) hx (b _ h)
 .cases hx
theorem W6 {a b:ByteArray} {m:ByteArray->Option β} {K:Prop} (h:(Mo a b).bind m=some r) (k:m (a++b)=some r->K):Wj (a.size+b.size) K:=by
 refine Dx h fun x hx h=>?_
 unfold Mo at hx
 split at hx
 .rename_i hc; cases hx; exact .mk hc (k h)
 .cases hx
def Hw {κ α:Type} (eq:κ->κ->Bool) (l:List (κ×α)) (k:κ):Bool:=l.any fun p=>eq k p.1
def J9 {κ α:Type} (eq:κ->κ->Bool) (l:List (κ×α)) (k:κ) (z:α):α:=((l.find? fun p=>eq k p.1).map (·.2)).getD z
def Tb {κ α:Type} (eq:κ->κ->Bool) (l:List (κ×α)) (k:κ) (v:α):Option (List (κ×α)):=bif Hw eq l k then none else some (l++[(k,v)])
def Oh {κ α:Type} (g:κ->List Value) (f:α->O) (l:List (κ×α)):List (O×O):=l.map fun p=>(.agg ((g p.1).map .val),f p.2)
theorem W7:∀b:List Value,F8 (b.map .val)=some b
 | []=>rfl
 | u::b=>by simp only [List.map_cons,F8,W7 b,Option.map_some]
theorem Abl {κ α:Type} {P:Program} {h:TypeId} {g:κ->List Value} {eq:κ->κ->Bool} (q:∀a b,Lg P h (g a) (g b) (eq a b)) (f:α->O) (k:κ) (z:α):∀(l:List (κ×α)) (i:Nat),
  (Hw eq l k=false/\Ja P h (g k) (Oh g f l) i none)\/(Hw eq l k=true/\∃j,Ja P h (g k) (Oh g f l) i (some (j,f (J9 eq l k z))))
 | [],i=>.inl ⟨rfl,.nil i⟩
 | p::l,i=>by
  have c:=q k p.1
  cases hb:eq k p.1 with
  | true=>
   rw [hb] at c
   refine .inr ⟨by simp [Hw,hb],i,?_⟩
   have x:J9 eq (p::l) k z=p.2:=by simp [J9,hb]
   rw [x]
   exact .hit (W7 _) c
  | false=>
   rw [hb] at c
   have u:Hw eq (p::l) k=Hw eq l k:=by simp [Hw,hb]
   have s:J9 eq (p::l) k z=J9 eq l k z:=by simp [J9,hb]
   rw [u,s]
   rcases Abl q f k z l (i+1) with ⟨h1,h2⟩ | ⟨h1,j,h2⟩
   .exact .inl ⟨h1,.miss (W7 _) c h2⟩
   .exact .inr ⟨h1,j,.miss (W7 _) c h2⟩
theorem Ag3 {κ α:Type} {P:Program} {c:TypeId} {g:κ->List Value} {eq:κ->κ->Bool} {k:κ} (A:∀a b,Lg P c (g a) (g b) (eq a b)) (s:∀a,N4 P c (g a)) {f:α->O} {l:List (κ×α)} {es:List (O×O)} (y:es=Oh g f l) (z:α) {i:List Value} (hu:i=g k)
  {m q:Option β} {K:Option (Nat×O)->Prop} (h:(bif Hw eq l k then m else q)=some r)
  (x:∀j,Hw eq l k=true->m=some r->K (some (j,f (J9 eq l k z)))) (u:Hw eq l k=false->q=some r->K none):Afu P c i es K:=by
 subst y; subst hu
 rcases Abl A f k z l 0 with ⟨h1,h2⟩ | ⟨h1,j,h2⟩
 .rw [h1] at h; exact .mk _ (s k) h2 (u h1 h)
 .rw [h1] at h; exact .mk _ (s k) h2 (x j h1 h)
theorem Aqc {κ α:Type} {P:Program} {i:TypeId} {g:κ->List Value} {eq:κ->κ->Bool} {k:κ} (D:∀a b,Lg P i (g a) (g b) (eq a b)) (B:∀a,N4 P i (g a)) {f:α->O} {l:List (κ×α)} {x:α} {es:List (O×O)} (A:es=Oh g f l) {s:List Value} (hu:s=g k) {u:List O} (q:u=(g k).map .val) {v:O} (z:v=f x)
  {m:List (κ×α)->Option β} {K:List (O×O)->Prop} (h:(Tb eq l k x).bind m=some r) (y:∀o,m o=some r->K (Oh g f o)):Afv P i u s v es K:=by
 subst A; subst hu; subst q; subst z
 refine Dx h fun o c h=>?_
 unfold Tb at c
 rcases Abl D f k x l 0 with ⟨h1,h2⟩ | ⟨h1,j,h2⟩
 .rw [h1] at c; cases c
  exact .mk _ (B k) h2 (by simp [Oh]) (y _ h)
 .rw [h1] at c; cases c
theorem Aqd {P:Program} {t:TypeId} {k b:IntKind} (hu:P.underlying t=some (.int k)) (w:World) (e:Bool) (n:Int):(Instr.checkKey e 9999 t (.int b n)).run P w = .ok () w:=by
 show (Instr.checkKey e (9998+1) t _).run P w=_
 unfold Instr.checkKey
 simp [run_underlying hu]
theorem Abm {s:ByteArray} {lo hi:Int} {m:ByteArray->Option β} {K:Nat->Nat->Prop} (h:(Dd s lo hi).bind m=some r) (k:∀l h',lo=((l:Nat):Int)->hi=((h':Nat):Int)->m (s.extract l h')=some r->K l h'):Wg s.size lo hi K:=by
 refine Dx h fun x hx h=>?_
 unfold Dd at hx
 split at hx
 .rename_i hc
  cases hx
  exact .mk lo.toNat hi.toNat (by omega) (by omega) (by omega) (by omega) (k _ _ (by omega) (by omega) h)
 .cases hx
end
def W8 (Qn:Nat->Bc->Hp->Prop) (Qe:Nat->Nat->Bc->Hp->Prop) (Qr:Nat->Bc->Hp->Prop) (x:Ex) (n:Nat) (e:Bc) (H:Hp):Prop :=
 match x with
 | .normal=>Qn n e H
 | .exit i=>Qe i n e H
 | .ret=>Qr n e H
def wc (P:Program) (C:Cfg) (c:Code) (Qn:Nat->Bc->Hp->Prop) (Qe:Nat->Nat->Bc->Hp->Prop) (Qr:Nat->Bc->Hp->Prop) (n:Nat) (e:Bc) (H:Hp):Prop :=
 B8 P C.T->P.follows .mixedOrders=true->∀(F:Ar) (W:World) (σ:Ar) (ι:Bf) (a:Act) (w:World) (Q:Exit->Act->World->Prop),
  Hu a.tmps.size c=true->St σ ι H F W w->Dq σ ι H e a->Dw H n ->
  (∀x h e' H' f g b w',W8 Qn Qe Qr x h e' H'->Le σ ι H f g H'->St f g H' F W w'->Dq f g H' e' b->Dw H' h->n<=h->b.tmps.size=a.tmps.size->b.defers=a.defers->D6 (D7 c) a b->Q x.out b w')->c.wp P Q a w
section
variable {P:Program} {C:Cfg} {Qn:Nat->Bc->Hp->Prop} {Qe:Nat->Nat->Bc->Hp->Prop} {Qr:Nat->Bc->Hp->Prop} {n:Nat} {e:Bc} {H:Hp} {β:Type} {r:β}
theorem Abn {c:Code} (h:vc P C c (W8 Qn Qe Qr) n e H):wc P C c Qn Qe Qr n e H :=
 fun j g _ _ σ ι a w Q b s i f hk=>Oa j g c _ n e H σ ι a w Q b h s i f hk
theorem Ll (k:Qn n e H):wc P C .skip Qn Qe Qr n e H:=Abn k
theorem Abo (k:Qr n e H):wc P C .ret Qn Qe Qr n e H:=Abn k
theorem Hx {id:Nat} (k:Qe id n e H):wc P C (.exit id) Qn Qe Qr n e H:=Abn k
theorem Ag4 {id:Nat} {ops:Array Oper} {b:Bool} (h:D2 (Dt P C.T C.an C.nl ops ops.toList n e H [] fun n e H acc=>bif b then J8 ops.toList acc (Qn n e H) else Qn n e H)):wc P C (.region id ops b) Qn Qe Qr n e H:=by
 intro X R F W σ ι a w Q E s U M hk
 have q:=Le.refl σ ι H
 have s0:=s
 have z:=U
 have N:=M
 obtain ⟨L,e',H',accs,l,_,V,x,hf,c⟩:=Abe X ops.toList 0 n e H [] _ (by simp) rfl M h.1
 have u:=Age E
 cases b with
 | false=>
  simp only [cond_false] at l
  refine wp_region ?_
  have:List.range ops.size=List.range' 0 ops.toList.length:=by rw [List.range_eq_range']; simp
  rw [this]
  refine c.wpOps s0 z u ?_
  intro B D J w' le s' g f j hu
  exact hk .normal L e' H' B D J w' l (q.trans le) s' g hf x f j hu
 | true=>
  simp only [cond_true] at l
  obtain ⟨G,l⟩:=l
  refine wp_region_any R ?_
  have A:ops=ops.toList.toArray:=by simp
  rw [A]
  simp only [List.size_toArray]
  refine Aav (accs:=accs) (e':=e') (H':=H') G ops.toList.length _ (List.range' 0 ops.toList.length) e H σ ι a _ (by rw [<-A]; exact c) (List.pairwise_lt_range' ..) ?_ (by simp) ?_ (by simp) (s0.drew _) z (by rw [<-A]; exact u) ?_
  .intro i
   simp only [List.mem_range'_1,Array.getD_eq_getD_getElem?]
   constructor
   .rintro ⟨_,h2⟩
    refine ⟨by omega,?_⟩
    have:i<ops.size:=by simpa using h2
    simp [this]
   .rintro ⟨h1,_⟩; omega
  .intro k o S I
   exfalso
   simp only [Array.getD_eq_getD_getElem?] at I
   by_cases y:k<ops.size
   .simp [y] at I
   .simp [y] at I
  .intro B D J w' le s' g f j hu
   exact hk .normal L e' H' B D J w' l (q.trans le) s' g hf x f j (by rw [<-A] at hu; exact hu)
theorem Ag5 {id:Nat} {os:List Oper} (k:D2 (Dt P C.T C.an C.nl os.toArray os n e H [] fun n e H acc=>J8 os acc (Qn n e H))):wc P C (.region id os.toArray true) Qn Qe Qr n e H:=Ag4 k
theorem B9 {id:Nat} {os:List Oper} (k:D2 (Dt P C.T C.an C.nl os.toArray os n e H [] fun n e H _=>Qn n e H)):wc P C (.region id os.toArray false) Qn Qe Qr n e H:=Ag4 k
theorem En {c:Code} (z:List Gh) (k:gxs z n e H fun n e H=>D2 (wc P C c Qn Qe Qr n e H)):wc P C c Qn Qe Qr n e H:=by
 intro R L F W σ ι a w Q h s N J hk
 obtain ⟨A,D,U,V,X,I,b,s1,l,i,M⟩:=Qi z k s N J
 exact I.1 R L F W A D a w Q h s1 l i fun x G e' H' B E S w' hq f s' q j y g u hu=>
  hk x G e' H' B E S w' hq (b.trans f) s' q j (by omega) g u hu
theorem A6 {U S:Code} (k:wc P C U (fun n e H=>wc P C S Qn Qe Qr n e H) Qe Qr n e H):wc P C (.seq U S) Qn Qe Qr n e H:=by
 intro N L F W σ ι a w Q f s he hn hk
 simp only [Hu,Bool.and_eq_true] at f
 refine wp_seq (k N L F W σ ι a w _ f.1 s he hn ?_)
 intro x J R V y z a1 A hq c s1 i g q b j hu
 cases x with
 | normal=>
  refine hq N L F W y z a1 A Q (by rw [b]; exact f.2) s1 i g ?_
  intro x n2 e2 H2 X Y a2 Z E B s2 I G M l u D
  exact hk x n2 e2 H2 X Y a2 Z E (c.trans B) s2 I G (by omega) (l.trans b) (u.trans j) ((hu.mono (by simp [D7]; exact fun s h=>.inl h)).trans (D.mono (by simp [D7]; exact fun s h=>.inr h)))
 | exit id=>exact hk (.exit id) J R V y z a1 A hq c s1 i g q b j (hu.mono (by simp [D7]; exact fun s h=>.inl h))
 | ret=>exact hk .ret J R V y z a1 A hq c s1 i g q b j (hu.mono (by simp [D7]; exact fun s h=>.inl h))
theorem Abp {l:Nat} (k:Qn n e H):wc P C (.label l) Qn Qe Qr n e H:=by
 intro h g F W σ ι a w Q b s f c hk
 exact wp_label (hk .normal n e H σ ι a w k (Le.refl _ _ _) s f c (Nat.le_refl _) rfl rfl (D6.refl _ _))
theorem Abq {c:Code} (k:wc P C c Qn Qe Qr n e H):wc P C (.scope c) Qn Qe Qr n e H:=by
 intro E B F W σ ι a w Q g s D A hk
 refine wp_scope_straight (k E B F W σ ι a w _ g s D A ?_)
 intro x z G I q u a1 y hq b s1 j h i f l hu
 have:=hk x z G I q u a1 y hq b s1 j h i f l hu
 cases x <;> exact this
theorem Oi {id:Nat} {c:Code} (k:wc P C c Qn (fun i n e H=>bif Nat.beq i id then Qn n e H else Qe i n e H) Qr n e H):wc P C (.block id c) Qn Qe Qr n e H:=by
 intro J G F W σ ι a w Q D s I E hk
 refine wp_block (k J G F W σ ι a w _ D s I E ?_)
 intro x z A B q u a1 y hq b s1 j g h f l hu
 cases x with
 | normal=>exact hk .normal z A B q u a1 y hq b s1 j g h f l hu
 | exit i=>
  simp only [Ex.out,Exit.inBlock]
  by_cases hi:i=id
  .subst hi
   rw [if_pos rfl]
   have:Nat.beq i i=true:=Nat.beq_refl i
   simp only [W8,this,cond_true] at hq
   exact hk .normal z A B q u a1 y hq b s1 j g h f l hu
  .rw [if_neg hi]
   have:Nat.beq i id=false:=by
    cases hb:Nat.beq i id
    .rfl
    .exact (hi (Nat.eq_of_beq_eq_true hb)).elim
   simp only [W8,this,cond_false] at hq
   exact hk (.exit i) z A B q u a1 y hq b s1 j g h f l hu
 | ret=>exact hk .ret z A B q u a1 y hq b s1 j g h f l hu
theorem Ag6 {x:Operand} {σ:Ar} {ι:Bf} {a:Act} {t:Bool} (b:Aga a.tmps.size x=true) (c:Dq σ ι H e a) (hx:ev e x = .val (.bool t)):a.eval x = .bool t:=by
 have hc:=c.eval (x:=x) (fun t ht=>by
  cases x with
  | tmp q=>cases ht; exact Fq b
  | _=>cases ht)
 rw [hx] at hc
 exact hc.val_inv
theorem W9 {x:Operand} {u J:Code} (k:wc P C u Qn Qe Qr n e H) (hx:ev e x = .val (.bool true):=by exact rfl):wc P C (.cond x u J) Qn Qe Qr n e H:=by
 intro G E F W σ ι a w Q b s q D hk
 simp only [Hu,Bool.and_eq_true] at b
 refine wp_cond_true (Ag6 b.1.1 q hx) (k G E F W σ ι a w Q b.1.2 s q D ?_)
 intro x B I L y z a1 A hq c s1 j g i f l hu
 exact hk x B I L y z a1 A hq c s1 j g i f l (hu.mono (by simp [D7]; exact fun s h=>.inl h))
theorem Xa {x:Operand} {J u:Code} (k:wc P C u Qn Qe Qr n e H) (hx:ev e x = .val (.bool false):=by exact rfl):wc P C (.cond x J u) Qn Qe Qr n e H:=by
 intro G E F W σ ι a w Q b s q D hk
 simp only [Hu,Bool.and_eq_true] at b
 refine wp_cond_false (Ag6 b.1.1 q hx) (k G E F W σ ι a w Q b.2 s q D ?_)
 intro x B I L y z a1 A hq c s1 j g i f l hu
 exact hk x B I L y z a1 A hq c s1 j g i f l (hu.mono (by simp [D7]; exact fun s h=>.inr h))
theorem Au {c:Operand} {a b:Code} {t:Bool} {m f:Option β} (h:(bif t then m else f)=some r) (h1:t=true->m=some r->wc P C a Qn Qe Qr n e H) (h2:t=false->f=some r->wc P C b Qn Qe Qr n e H) (hx:ev e c = .val (.bool t):=by exact rfl):wc P C (.cond c a b) Qn Qe Qr n e H:=by
 cases t with
 | true=>exact W9 (h1 rfl h) hx
 | false=>exact Xa (h2 rfl h) hx
theorem Ag7 {V:List Nat} {l:List (Nat×O)} {h:List (Nat×Ba)} {F σ u:Ar} {W w X:World} {ι G:Bf} {a a1:Act} {D:Hp} {e1:Bc} (hb:Iz n l h=true) (hn:Dw H n) (s:St σ ι H F W w) (he:Dq σ ι H e a)
  (L:Fr e1 l) (N:Fs D (Bv H h) n n) (J:Le σ ι H u G D) (s1:St u G D F W X) (a7:Dq u G D e1 a1) (a8:a1.tmps.size=a.tmps.size) (a6:D6 V a a1) :
  ∃z,Le σ ι H u z (Bv H h)/\St u z (Bv H h) F W X/\Dq u z (Bv H h) (H7 V e (fun s=>a1.tmps.getD s undef) l) a1/\Dw (Bv H h) n:=by
 have Y:∀x,n<=x->ι x = .none:=by
  intro x hx
  have:=s.obj x; unfold Bx at this; rw [hn x hx] at this; exact this
 have B:∀p∈h,p.1<n:=by
  intro p hp
  unfold Iz at hb
  rw [Bool.and_eq_true,List.all_eq_true,List.all_eq_true] at hb
  exact Fq (hb.2 p hp)
 have M:∀p∈l,p.2.under n=true:=by
  intro p hp
  unfold Iz at hb
  rw [Bool.and_eq_true,List.all_eq_true,List.all_eq_true] at hb
  exact hb.1 p hp
 have k:Dw (Bv H h) n:=by
  intro x hx
  rw [P5 (fun p hp e=>by have:=B p hp; omega)]; exact hn x hx
 let z:Bf:=fun x=>if x<n then G x else .none
 have c:∀x,x<n->z x=G x:=fun x hx=>if_pos hx
 have f:∀x,x<n->Bv H h x=D x:=fun x hx=>((N.spec) x hx).1.symm
 have I:Le σ ι H u z (Bv H h):=by
  refine ⟨J.sto,fun x=>?_⟩
  by_cases hx:x<n
  .rw [c x hx,f x hx]; exact J.obj x
  .rw [Y x (by omega),hn x (by omega)]; exact HLe.of_none
 have s2:St u z (Bv H h) F W X:=by
  refine ⟨s1.sto,s1.fra,fun x=>?_,?_,s1.os,s1.tape,s1.output,s1.glo⟩
  .by_cases hx:x<n
   .have j:=s1.obj x
    have A:=((N.spec) x hx).2
    unfold Bx at j ⊢
    rw [f x hx] at A ⊢
    rw [c x hx]
    cases i:D x with
    | none=>rw [i] at j; exact j
    | dead=>trivial
    | cells E cs=>
     rw [i] at j A
     obtain ⟨b,Cc,g1,g2,g3,g4,g5,g6⟩:=j
     refine ⟨b,Cc,g1,g2,g3,g4,g5,fun q cq v hq Z=>(g6 q cq v hq Z).restrict c f ?_⟩
     have:=List.all_eq_true.1 A cq (List.mem_of_getElem? hq)
     exact Aa5 this
    | rows E sz xs=>rw [i] at j; exact j
    | map es=>rw [i] at j; exact j
   .unfold Bx
    rw [k x (by omega)]
    exact if_neg hx
  .intro x y b U S bx R
   have hx:x<n:=by
    rcases Nat.lt_or_ge x n with hx | hx
    .exact hx
    .rw [k x hx] at U; cases U
   have hy:y<n:=by
    rcases Nat.lt_or_ge y n with hy | hy
    .exact hy
    .rw [k y hy] at S; cases S
   rw [f x hx] at U; rw [f y hy] at S
   rw [c x hx] at bx; rw [c y hy] at R
   exact s1.inj x y b U S bx R
 refine ⟨z,I,s2,?_,k⟩
 intro q hq
 rcases Agc V e (fun s=>a1.tmps.getD s undef) l q with ⟨p,hp,rfl,g⟩ | ⟨hw,g⟩ | ⟨hw,g⟩
 .rw [g,<-L.spec p hp]
  refine (a7 p.1 hq).restrict c f ?_
  rw [L.spec p hp]; exact M p hp
 .rw [g]; exact .of_val _
 .rw [g,a6 q hw]; exact (he q (by omega)).mono I
theorem Ag8 {S E:Type} {step:S->Option (S⊕E)} {s0:S} {J:E->Option β} {b:Code} (h:(Ak step s0).bind J=some r)
  (L:S->List (Nat×O)) (B:S->List (Nat×Ba)) (j:S->Prop) (hb:∀s,Iz n (L s) (B s)=true) (hs:Fr e (L s0)) (hh:Fs H (Bv H (B s0)) n n) (h0:j s0)
  (a8:∀(s:S) (u:Nat->Value) (K:Nat->Bc->Hp->Prop) (o:S⊕E),step s=some o->(∀x,.inr x=o->J x=some r)->(∀s' n' e' H',.inl s'=o->Fr e' (L s')->Fs H' (Bv H (B s')) n n->j s'->K n' e' H')->j s ->
   wc P C b K Qe Qr n (H7 (D7 b) e u (L s)) (Bv H (B s))):wc P C (.loop b) Qn Qe Qr n e H:=by
 intro hT hm F W σ ι a w Q aa s he hn hk
 refine Dx h fun x hx h=>?_
 obtain ⟨N,hN⟩:=Abg hx
 let J':Nat->Act->World->Prop:=fun k a' w'=>∃i σ' ι',(Gu step k i=some x/\j i)/\Le σ ι H σ' ι' (Bv H (B i))/\St σ' ι' (Bv H (B i)) F W w' /\
   Dq σ' ι' (Bv H (B i)) (H7 (D7 b) e (fun s=>a'.tmps.getD s undef) (L i)) a'/\a'.tmps.size=a.tmps.size/\a'.defers=a.defers/\D6 (D7 b) a a'
 have g:∀(k:Nat) (i:S) (G:Ar) (Y:Bf) (H1:Hp) (e1:Bc) (a1:Act) (w1:World),(Gu step k i=some x/\j i)->Fr e1 (L i)->Fs H1 (Bv H (B i)) n n->Le σ ι H G Y H1->St G Y H1 F W w1->Dq G Y H1 e1 a1->a1.tmps.size=a.tmps.size ->
    a1.defers=a.defers->D6 (D7 b) a a1->J' k a1 w1:=by
  intro k i G Y H1 e1 a1 w1 hi ab ad q s1 V c f l
  obtain ⟨Z,g1,g2,g3,_⟩:=Ag7 (hb i) hn s he ab ad q s1 V c l
  exact ⟨i,G,Z,hi,g1,g2,g3,c,f,l⟩
 refine Agb J' N (g N s0 σ ι H e a w ⟨hN,h0⟩ hs hh (Le.refl _ _ _) s he rfl rfl (D6.refl _ _)) ?_
 rintro k a1 w1 ⟨i,G,Y,⟨hi,a7⟩,q,s1,V,c,f,l⟩
 have af:Dw (Bv H (B i)) n:=by
  intro y hy
  have X:=hb i
  unfold Iz at X
  rw [Bool.and_eq_true,List.all_eq_true,List.all_eq_true] at X
  rw [P5 (fun p hp e=>by have:=Fq (X.2 p hp); omega)]; exact hn y hy
 cases k with
 | zero=>cases hi
 | succ k=>
  simp only [Gu] at hi
  cases ho:step i with
  | none=>rw [ho] at hi; cases hi
  | some o=>
   rw [ho] at hi
   refine a8 i (fun s=>a1.tmps.getD s undef) (fun _ e' H'=>∃s',(Gu step k s'=some x/\j s')/\Fr e' (L s')/\Fs H' (Bv H (B s')) n n) o ho ?_ ?_ a7 hT hm F W G Y a1 w1 _ (by rw [c]; exact aa) s1 V af ?_
   .intro y hy; subst hy
    simp only [Option.some.injEq] at hi
    rw [hi]; exact h
   .intro s' n' e' H' R h1 h2 h3
    subst R
    exact ⟨s',⟨hi,h3⟩,h1,h2⟩
   .intro x n2 e2 H2 σ2 Z a2 w2 hq I s2 U a6 D z A M
    cases x with
    | normal=>
     obtain ⟨i',ac,R,ae⟩:=hq
     exact ⟨k,by omega,g k i' σ2 Z H2 e2 a2 w2 ac R ae (q.trans I) s2 U (z.trans c) (A.trans f) (l.trans M)⟩
    | exit id=>exact hk (.exit id) n2 e2 H2 σ2 Z a2 w2 hq (q.trans I) s2 U a6 D (z.trans c) (A.trans f) (l.trans M)
    | ret=>exact hk .ret n2 e2 H2 σ2 Z a2 w2 hq (q.trans I) s2 U a6 D (z.trans c) (A.trans f) (l.trans M)
theorem Abr {S:Type} {c:Code} (J:S->Prop) (l:S->List (Nat×O)) (q:S->List (Nat×Ba)) (hb:∀s,Iz n (l s) (q s)=true)
  (X:∀(K:Nat->Bc->Hp->Prop),(∀s U e' H',J s->Fr e' (l s)->Fs H' (Bv H (q s)) n n->K U e' H')->wc P C c K Qe Qr n e H)
  (V:∀(s:S) (u:Nat->Value),J s->Qn n (H7 (D7 c) e u (l s)) (Bv H (q s))):wc P C c Qn Qe Qr n e H:=by
 intro Z Y F W σ ι a w Q A s L I hk
 refine X (fun _ e' H'=>∃s,J s/\Fr e' (l s)/\Fs H' (Bv H (q s)) n n) (fun s _ _ _ h1 h2 h3=>⟨s,h1,h2,h3⟩) Z Y F W σ ι a w _ A s L I ?_
 intro x G M N y E a1 z hq f s1 g j k b h hu
 cases x with
 | normal=>
  obtain ⟨i,hi,B,D⟩:=hq
  obtain ⟨R,g1,g2,g3,g4⟩:=Ag7 (hb i) I s L B D f s1 g b hu
  exact hk .normal n _ _ y R a1 z (V i (fun s=>a1.tmps.getD s undef) hi) g1 g2 g3 g4 (Nat.le_refl _) b h hu
 | exit id=>exact hk (.exit id) G M N y E a1 z hq f s1 g j k b h hu
 | ret=>exact hk .ret G M N y E a1 z hq f s1 g j k b h hu
theorem Aqe (E:B8 P C.T) (L:P.follows .mixedOrders=true) {f:FuncId} {fn:Func} {c:Code} {args:List O} {r:O} (D:P.funcs[f]? = some fn) (hb:fn.body=some c) (g:(fn.name == "runtime.NumGoroutine")=false)
  (b:Qg fn c args.length=true) (h:r.free=true) (J:wc P C c (fun _ e H=>Ob C.T fn.results.toList (· = r) e H) (fun _ _ _ _=>False) (fun _ e H=>Ob C.T fn.results.toList (· = r) e H) 0 (Qf args) H0):Aw P f args r:=by
 unfold Qg at b
 simp only [Bool.and_eq_true] at b
 obtain ⟨⟨u,y⟩,G⟩:=b
 have G:=Nat.le_of_ble_eq_true G
 refine ⟨⟨fn,D,g,by rw [hb]; rfl⟩,fun σ F W w vs s hc=>?_⟩
 have j:(vs++Array.replicate (fn.ntmps-vs.size) undef).size=fn.ntmps:=by
  have:=hc.1
  simp; omega
 refine calls_of_wp D hb (J E L F W σ ι0 _ w _ (by rw [j]; exact u) s (Agk hc) (fun _ _=>rfl) ?_)
 intro x V e' H' R S B w' hq le s' z _ _ i A _
 have k:∀q∈fn.results.toList,Oc q<B.tmps.size:=by
  intro q hq'
  rw [i]
  have:=Fq (List.all_eq_true.1 y q hq')
  rw [j]; exact this
 have fin:Ob C.T fn.results.toList (· = r) e' H'->B.defers = []/\∃v,(results fn B.tmps).run P w' = .ok v w'/\∃v0 l,Ending.returned v = .returned v0/\σ.le l/\St l ι0 H0 F W w'/\Conc l ι0 H0 r v0:=by
  intro hq
  obtain ⟨v,I,X,U,h1,h2,h3,N,M⟩:=Apq E s' z k hq
  subst h2
  exact ⟨A,v,h1,v,I,rfl,Ar.le_trans le.sto h3.sto,N.forget,M.to0 h⟩
 cases x with
 | normal=>exact fin hq
 | ret=>exact fin hq
 | exit id=>exact hq.elim
theorem Aqf (fz:Bool) (X:B8 P C.T) (hm:P.follows .mixedOrders=true) {f:FuncId} {fn:Func} {c:Code} {args:List O} {r:O} {B b:List Ba} (V:P.funcs[f]? = some fn) (hb:fn.body=some c) (l:(fn.name == "runtime.NumGoroutine")=false)
  (j:Qg fn c args.length=true) (g:Abd B r b=true) (hv:wc P C c (fun _ e H=>Oe C.T fz fn.results.toList r b e H) (fun _ _ _ _=>False) (fun _ e H=>Oe C.T fz fn.results.toList r b e H) B.length (Qf args) (hp B)):Ck P f args B r b:=by
 unfold Qg at j
 unfold Abd at g
 simp only [Bool.and_eq_true] at j g
 obtain ⟨⟨I,L⟩,Y⟩:=j
 obtain ⟨⟨E,J⟩,N⟩:=g
 have E:=Nat.le_of_ble_eq_true E
 have Y:=Nat.le_of_ble_eq_true Y
 refine ⟨⟨fn,V,l,by rw [hb]; rfl⟩,fun σ F W w ι vs s hc=>?_⟩
 have A:(vs++Array.replicate (fn.ntmps-vs.size) undef).size=fn.ntmps:=by
  have:=hc.1
  simp; omega
 refine calls_of_wp V hb (hv X hm F W σ ι _ w _ (by rw [A]; exact I) s (Agk hc) (fun _ h=>Mf h) ?_)
 intro x n' e' H' σ' ι' U w' hq le s' R _ _ z S _
 have D:∀q∈fn.results.toList,Oc q<U.tmps.size:=by
  intro q hq'
  rw [z]
  have:=Fq (List.all_eq_true.1 L q hq')
  rw [A]; exact this
 have fin:Oe C.T fz fn.results.toList r b e' H'->U.defers = []/\∃v,(results fn U.tmps).run P w' = .ok v w'/\∃v0 G ι0,Ending.returned v = .returned v0/\Le σ ι (hp B) G ι0 (hp b)/\St G ι0 (hp b) F W w'/\Conc G ι0 (hp b) r v0:=by
  intro hq
  obtain ⟨v,Z,H2,h1,h2,h3,h4,h5⟩:=Apr X s' R D hq
  have u:∀i,i<b.length->H2 i=hp b i:=fun i hi=>by simpa using h2.spec i hi
  refine ⟨S,v,h1,v,Z,(fun k=>if k<b.length then ι' k else .none),rfl,?_,h4.first b u N,?_⟩
  .have y:=le.trans h3
   refine ⟨y.sto,fun k=>?_⟩
   by_cases hk:k<b.length
   .rw [if_pos hk,<-u k hk]; exact y.obj k
   .rw [if_neg hk,Mf (by omega),Mf (by omega)]
    have:ι k = .none:=by have:=s.obj k; unfold Bx at this; rw [Mf (by omega)] at this; exact this
    rw [this]; exact HLe.refl _ _
  .exact h5.restrict (n:=b.length) (fun h M=>if_pos M) (fun h M=>(u h M).symm) J
 cases x with
 | normal=>exact fin hq
 | ret=>exact fin hq
 | exit id=>exact hq.elim
end
end Go.Ab
namespace Go.Ab
section
variable {P:Program} {C:Cfg} {Qn:Nat->Bc->Hp->Prop} {Qe:Nat->Nat->Bc->Hp->Prop} {Qr:Nat->Bc->Hp->Prop} {n:Nat} {e:Bc} {H:Hp}
def Vw (x:O) (v:Value):Prop:=∀sz xs,x = .sl sz xs->∃p c,v = .slice p xs.length c/\(p=none->xs = [])
theorem Aqg {c:Code} (s:Nat) (k:∀v,Vw (e s) v->wc P C c Qn Qe Qr n (Ay e s (.val v)) H):wc P C c Qn Qe Qr n e H:=by
 intro A z F W σ ι a w Q f x u y hk
 by_cases B:s<a.tmps.size
 .have hc:=u s B
  refine k (a.tmps.getD s undef) ?_ A z F W σ ι a w Q f x ?_ y hk
  .intro sz xs hx
   rw [hx] at hc
   rcases hc.sl_inv.sl_inv with ⟨rfl,p,cap,e⟩ | ⟨b,off,cap,C,E,fr,g,e,_⟩
   .exact ⟨p,cap,e,fun _=>rfl⟩
   .exact ⟨_,cap,e,fun h=>by cases h⟩
  .intro q hq
   by_cases h:q=s
   .subst h; rw [Bw]; exact .of_val _
   .rw [Cp _ _ h]; exact u q hq
 .have l:∃v,Vw (e s) v:=by
   cases hx:e s with
   | sl sz xs=>exact ⟨.slice (some ⟨0,0,none⟩) xs.length 0,fun j i h=>by cases h; exact ⟨_,_,rfl,fun h=>by cases h⟩⟩
   | _=>exact ⟨undef,fun j i h=>by cases h⟩
  obtain ⟨v,l⟩:=l
  refine k v l A z F W σ ι a w Q f x ?_ y hk
  intro q hq
  rw [Cp _ _ (by omega)]; exact u q hq
end
end Go.Ab
