/- Plain laws: what the plain functions answer. -/
import Derived.Test.YthjgkpbilpojpaaGreatDoorBzAb
namespace Go.Ab
def H0:Hp:=fun _=>.none
def ι0:Bm:=fun _=>.none
def Vq (P:Program) (f:FuncId):Prop:=∃fn,P.funcs[f]? = some fn/\(fn.name == "runtime.NumGoroutine")=false/\fn.body.isNone=false
def J4 (σ:Aq) (ι:Bm) (H:Hp) (args:List AV) (vs:Array Value):Prop :=
 vs.size=args.length/\∀(i:Nat) (a:AV) (v:Value),args[i]? = some a->vs[i]? = some v->Conc σ ι H a v
def Aw (P:Program) (f:FuncId) (args:List AV) (r:AV):Prop :=
 Vq P f/\∀(σ F:Aq) (W w:World) (vs:Array Value),St σ ι0 H0 F W w->J4 σ ι0 H0 args vs ->
  Calls P f vs w fun e w'=>∃v b,e = .returned v/\σ.le b/\St b ι0 H0 F W w'/\Conc b ι0 H0 r v
def AV.under0 (n:Nat):AV->Bool
 | .loc h _ | .mp h=>Nat.blt h n
 | .arr h _ _ _ | .el h _ _ _=>Nat.blt h n
 | .val _ | .sl _ _ | .ref _ | .fb _=>true
 | _=>false
def AV.under1 (n:Nat):AV->Bool
 | .loc h _ | .mp h=>Nat.blt h n
 | .arr h _ _ _ | .el h _ _ _=>Nat.blt h n
 | .val _ | .sl _ _ | .ref _ | .fb _=>true
 | .fn _ cs=>cs.all (AV.under0 n)
 | _=>false
def AV.under2 (n:Nat):AV->Bool
 | .agg cs=>cs.all (AV.under1 n)
 | x=>x.under1 n
def AV.under (n:Nat):AV->Bool
 | .agg cs | .fn _ cs=>cs.all (AV.under1 n)
 | .tup cs=>cs.all (AV.under2 n)
 | x=>x.under1 n
def Bf.under (n:Nat):Bf->Bool
 | .cells _ cs=>cs.all (AV.under1 n)
 | .map _=>true
 | .rows _ _ _=>true
 | .none=>true
 | .dead=>true
def Z3 (es:Nat->Nat):AV->AV
 | .loc h off=>.loc (es h) off
 | .mp h=>.mp (es h)
 | .arr h k off len=>.arr (es h) k off len
 | .el h k i j=>.el (es h) k i j
 | x=>x
def Ky (es:Nat->Nat):AV->AV
 | .loc h off=>.loc (es h) off
 | .mp h=>.mp (es h)
 | .arr h k off len=>.arr (es h) k off len
 | .el h k i j=>.el (es h) k i j
 | .fn f cs=>.fn f (cs.map (Z3 es))
 | x=>x
def Z4 (es:Nat->Nat):AV->AV
 | .agg cs=>.agg (cs.map (Ky es))
 | x=>Ky es x
def ren (es:Nat->Nat):AV->AV
 | .agg cs=>.agg (cs.map (Ky es))
 | .tup cs=>.tup (cs.map (Z4 es))
 | .fn f cs=>.fn f (cs.map (Ky es))
 | x=>Ky es x
def Gt (es:Nat->Nat):Bf->Bf
 | .cells E cs=>.cells E (cs.map (Ky es))
 | o=>o
def hp (b:List Bf):Hp:=fun k=>b.getD k .none
def Br (P:Program) (f:FuncId) (args:List AV) (h:List Bf) (r:AV) (b:List Bf):Prop :=
 Vq P f/\∀(σ F:Aq) (W w:World) (ι:Bm) (vs:Array Value),St σ ι (hp h) F W w->J4 σ ι (hp h) args vs ->
  Calls P f vs w fun e w'=>∃v c g,e = .returned v/\Le σ ι (hp h) c g (hp b)/\St c g (hp b) F W w'/\Conc c g (hp b) r v
def Df (n:Nat):List Nat->Nat->Nat
 | [],k=>n+k
 | h::_,0=>h
 | _::l,k+1=>Df n l k
def Ll (n:Nat):List Nat->Bool
 | []=>true
 | h::l=>Nat.blt h n && !(l.elem h)&&Ll n l
def wrs (es:Nat->Nat):Nat->List Bf->List (Nat×Bf)
 | _,[]=>[]
 | k,o::os=>(es k,Gt es o)::wrs es (k+1) os
def Bz (es:Nat->Nat):Nat->Nat->List (Nat×Bf)
 | _,0=>[]
 | k,c+1=>(es k,.none)::Bz es (k+1) c
def Nv (H:Hp):List (Nat×Bf)->Prop
 | []=>True
 | p::l=>H p.1=p.2/\Nv H l
def Po (n:Nat) (l:List Nat) (c:List AV) (f:List Bf) (r:AV) (b:List Bf):Bool :=
 Ll n l&&Nat.beq f.length l.length&&Nat.ble l.length b.length&&c.all (AV.under l.length)&&f.all (Bf.under l.length)&&r.under b.length&&b.all (Bf.under b.length)
inductive Sa (xs:List AV) (i:Int) (K:Nat->AV->Prop):Prop where
 | mk (n:Nat) (x:AV) (hi:i=n) (hx:xs[n]? = some x) (k:K n x)
inductive Nw (len:Nat) (kk:Nat) (xs:List AV) (i:Int) (K:Nat->Prop):Prop where
 | mk (n:Nat) (hk:xs.length=kk) (hi:i=n) (hn:n<len) (k:K n)
inductive F5 (k:IntKind) (n:Int) (K:Int->Prop):Prop where
 | mk (c:Int) (h:k.wrap n=c) (k:K c)
inductive Vr (k:IntKind) (m n:Int) (K:Int->Prop):Prop where
 | mk (c:Int) (hn:n≠0) (h:k.wrap (m.tdiv n)=c) (k:K c)
inductive Vs (m n:Int) (K:Int->Prop):Prop where
 | mk (c:Int) (hn:n≠0) (h:m.tmod n=c) (k:K c)
inductive Vt (k:IntKind) (m n:Int) (K:Int->Prop):Prop where
 | mk (c:Int) (hn:0<=n) (h:m.fdiv (2 ^ (min n.toNat k.bits))=c) (k:K c)
inductive Vu (k:IntKind) (m n:Int) (K:Int->Prop):Prop where
 | mk (c:Int) (hn:0<=n) (h:k.wrap (m*2 ^ (min n.toNat k.bits))=c) (k:K c)
inductive Vv (n:Nat) (lo hi:Int) (K:Nat->Nat->Prop):Prop where
 | mk (l h:Nat) (el:lo=l) (eh:hi=h) (h1:l<=h) (h2:h<=n) (k:K l h)
inductive Nx (xs:List AV) (lo hi:Int) (K:List AV->Prop):Prop where
 | mk (l h:Nat) (ys:List AV) (el:lo=l) (eh:hi=h) (h1:l<=h) (h2:h<=xs.length) (hy:(xs.take h).drop l=ys) (k:K ys)
inductive Aew (kk:Nat) (xs:List AV) (n:Nat) (lo hi:Int) (K:Nat->Nat->Prop) (KE:Prop):Prop where
 | mk (l h:Nat) (hk:xs.length=kk) (el:lo=l) (eh:hi=h) (h1:l<=h) (h2:h<=n) (h3:l=0\/l<h) (k:K l h)
 | mkE (l:Nat) (hk:xs.length=kk) (el:lo=l) (eh:hi=l) (h2:l<=n) (k:KE)
inductive Vx (s:ByteArray) (i:Int) (K:UInt8->Prop):Prop where
 | mk (n:Nat) (c:UInt8) (hi:i=n) (hc:s[n]? = some c) (k:K c)
inductive Vy (n:Nat) (K:Prop):Prop where
 | mk (h:n<=9223372036854775807) (k:K)
inductive Pp (len cap:Int) (bytes:Nat) (z:AV) (K:Nat->List AV->Prop):Prop where
 | mk (l c:Nat) (zs:List AV) (el:len=l) (ec:cap=c) (h1:l<=c) (h2:bytes*c<=281474976710656) (h3:c<=140737488355328) (hz:List.replicate l z=zs) (k:K l zs)
 | mkN (z':AV) (hn:E5 z.cells z'.cells) (l c:Nat) (zs:List AV) (el:len=l) (ec:cap=c) (h1:l<=c) (h2:bytes*c<=281474976710656) (h3:c<=140737488355328) (hz:List.replicate l z'=zs) (k:K l zs)
inductive Kz (xs ys:List AV) (kk len bytes:Nat) (K:List AV->Nat->Prop) (KP:List AV->Nat->Nat->Prop):Prop where
 | mkP (zs:List AV) (k' m:Nat) (hk:xs.length=kk) (hl:len<=kk) (hb:(xs.length+ys.length)*bytes<=140737488355328) (hz:En xs len ys=zs) (hk':zs.length=k') (hm:len+ys.length=m) (k:KP zs k' m)
 | mk (zs:List AV) (m:Nat) (hk:xs.length=kk) (hl:len=kk) (hb:(xs.length+ys.length)*bytes<=140737488355328) (hz:xs++ys=zs) (hm:kk+ys.length=m) (k:K zs m)
inductive Aol (ys:List AV) (K:Prop):Prop where
 | mk (hy:ys = []) (k:K)
inductive Ny (ys:List AV) (bytes:Nat) (K:List AV->Nat->Prop):Prop where
 | mk (zs:List AV) (m:Nat) (hb:ys.length*bytes<=140737488355328) (hz:ys=zs) (hm:ys.length=m) (k:K zs m)
inductive Aom (xs:List AV) (kk len k2 off2 len2 bytes:Nat) (K:List AV->Nat->Nat->Prop):Prop where
 | mk (zs:List AV) (k' m:Nat) (hk:xs.length=kk) (hl:len<=kk) (hk2:xs.length=k2) (hl2:off2+len2<=kk) (hb:(xs.length+len2)*bytes<=140737488355328) (hz:En xs len ((xs.drop off2).take len2)=zs) (hk':zs.length=k') (hm:len+len2=m) (k:K zs k' m)
inductive Aon (xs:List AV) (kk off len k2 off2 len2:Nat) (K:List AV->Nat->Prop):Prop where
 | mk (zs:List AV) (c:Nat) (hk:xs.length=kk) (hl:off+len<=kk) (hk2:xs.length=k2) (hl2:off2+len2<=kk) (hz:En xs off ((xs.drop off2).take (min len2 len))=zs) (hc:min len2 len=c) (k:K zs c)
inductive Aoo (xs:List AV) (kk off len:Nat) (z:AV) (K:List AV->Prop):Prop where
 | mk (zs:List AV) (hk:xs.length=kk) (hl:off+len<=kk) (hz:En xs off (List.replicate len z)=zs) (k:K zs)
inductive Aex (a b:Nat) (K:Prop):Prop where
 | mk (h:a<=b) (k:K)
inductive Aey (xs:List AV) (n:Nat) (K:List AV->Prop):Prop where
 | mk (ys:List AV) (hy:xs.take n=ys) (k:K ys)
inductive Sb (xs:List AV) (q:Nat) (p:AV) (K:List AV->Prop):Prop where
 | mk (zs:List AV) (hz:xs.set q p=zs) (k:K zs)
inductive J5 (xs:List AV) (K:Int->Prop):Prop where
 | mk (c:Int) (hc:(xs.length:Int)=c) (k:K c)
inductive Jk (kk i:Nat) (xs:List AV) (K:AV->Prop):Prop where
 | mk (x:AV) (hk:xs.length=kk) (hx:xs[i]? = some x) (k:K x)
inductive Fa (kk:Nat) (xs:List AV) (K:Prop):Prop where
 | mk (hk:xs.length=kk) (k:K)
inductive Fy (P:Program) (n:Nat) (H:Hp) (f:FuncId) (args:List AV) (K:Eff->Nat->Prop):Prop where
 | mk (r:AV) (h:Aw P f args r) (hf:args.all AV.free=true) (k:K ⟨r,[],[]⟩ n)
 | act (l:List Nat) (largs:List AV) (hs:List Bf) (r:AV) (hs':List Bf) (h:Br P f largs hs r hs') (ha:largs.map (ren (Df n l))=args) (ok:Po n l largs hs r hs'=true) (hh:Nv H (wrs (Df n l) 0 hs))
   (k:K ⟨ren (Df n l) r,wrs (Df n l) 0 hs++Bz (Df n l) l.length (hs'.length-l.length),wrs (Df n l) 0 hs'⟩ (n+(hs'.length-l.length)))
inductive Aez (s:ByteArray) (es:List (AV×AV)) (K:Option (Nat×AV)->Prop):Prop where
 | mk (r:Option (Nat×AV)) (h:G1 s es 0=some r) (k:K r)
inductive Vz (op:BinOp) (k:FloatKind) (a b:Nat) (K:Nat->Prop):Prop where
 | mk (c:Nat) (h:floatBits op k a b=some c) (k:K c)
inductive V1 (k:FloatKind) (a:Nat) (q:IntKind) (K:Int->Prop):Prop where
 | mk (c:Int) (h:floatToIntVal k a q=some c) (k:K c)
inductive Ae0 (P:Program) (kt:TypeId) (us:List Value) (es:List (AV×AV)) (K:Option (Nat×AV)->Prop):Prop where
 | mk (r:Option (Nat×AV)) (hc:Nt P kt us) (h:Jj P kt us es 0 r) (k:K r)
inductive Ae1 (P:Program) (kt:TypeId) (ks:List AV) (us:List Value) (v:AV) (es:List (AV×AV)) (K:List (AV×AV)->Prop):Prop where
 | mk (es':List (AV×AV)) (hc:Nt P kt us) (h:Jj P kt us es 0 none) (he:es++[(.agg ks,v)]=es') (k:K es')
inductive Ae2 (s:ByteArray) (v:AV) (es:List (AV×AV)) (K:List (AV×AV)->Prop):Prop where
 | mk (es':List (AV×AV)) (h:Vn s v es=some es') (k:K es')
inductive Ae3 (P:Program) (t:TypeId) (us vs:List Value) (K:Bool->Prop):Prop where
 | mk (b:Bool) (h:Lk P t us vs b) (k:K b)
inductive Z5 (P:Program) (t:TypeId) (f:Nat) (K:TypeId->Prop):Prop where
 | mk (ft:TypeId) (h:Zx P t f=some ft) (k:K ft)
inductive Ae4 (P:Program) (f:FuncId) (args:List AV) (K:AV->Prop):Prop where
 | mk (r:AV) (h:Aw P f args r) (hf:args.all AV.free=true) (k:K r)
inductive Ann where
 | frz (j:Nat)
 | std
 | own
 | ask
def Jl:AV->Bool
 | .val (.slice none 0 0)=>true
 | _=>false
def Sc:AV->Bool
 | .val (.agg _)=>false
 | _=>true
def Z6 (x:AV) (K:AV->Prop):Prop :=
 match x with
 | .val v=>K (.val v)
 | .loc h off=>K (.loc h off)
 | .arr h k off len=>K (.arr h k off len)
 | .el h k i j=>K (.el h k i j)
 | .mp h=>K (.mp h)
 | .ref cs=>K (.ref cs)
 | .sl sz xs=>K (.sl sz xs)
 | .agg cs=>K (.agg cs)
 | .tup cs=>K (.tup cs)
 | .fn f cs=>K (.fn f cs)
 | .fb s=>K (.fb s)
def Md:List AV->(List AV->Prop)->Prop
 | [],K=>K []
 | x::xs,K=>Z6 x fun x=>Md xs fun xs=>K (x::xs)
def Iu (x:AV) (K:AV->Prop):Prop :=
 match x with
 | .agg cs=>Md cs fun cs=>K (.agg cs)
 | .tup cs=>Md cs fun cs=>K (.tup cs)
 | .fn f cs=>Md cs fun cs=>K (.fn f cs)
 | x=>Z6 x K
def Pq:List AV->(List AV->Prop)->Prop
 | [],K=>K []
 | x::xs,K=>Iu x fun x=>Pq xs fun xs=>K (x::xs)
def Z7 (o:Bf) (K:Bf->Prop):Prop :=
 match o with
 | .cells E cs=>Md cs fun cs=>K (.cells E cs)
 | .rows E sz xs=>K (.rows E sz xs)
 | .map es=>K (.map es)
 | .none=>K .none
 | .dead=>K .dead
def K0:List (Nat×Bf)->(List (Nat×Bf)->Prop)->Prop
 | [],K=>K []
 | p::l,K=>Z7 p.2 fun o=>K0 l fun l=>K ((p.1,o)::l)
def G2:List (Nat×Bf)->(List Nat->Prop)->Prop
 | [],K=>K []
 | p::l,K=>G2 l fun l=>K (p.1::l)
theorem Ae5 (x:AV) (K:AV->Prop):Z6 x K=K x:=by cases x <;> rfl
theorem V2:∀(l:List AV) (K:List AV->Prop),Md l K=K l
 | [],_=>rfl
 | x::xs,K=>by simp only [Md,Ae5,V2 xs]
theorem Pr (x:AV) (K:AV->Prop):Iu x K=K x:=by cases x <;> simp only [Iu,V2,Ae5]
theorem V3:∀(l:List AV) (K:List AV->Prop),Pq l K=K l
 | [],_=>rfl
 | x::xs,K=>by simp only [Pq,Pr,V3 xs]
theorem Aop (o:Bf) (K:Bf->Prop):Z7 o K=K o:=by cases o <;> simp only [Z7,V2]
theorem Z8:∀(l:List (Nat×Bf)) (K:List (Nat×Bf)->Prop),K0 l K=K l
 | [],_=>rfl
 | p::l,K=>by simp only [K0,Aop,Z8 l]
theorem Z9:∀(l:List (Nat×Bf)) (K:List Nat->Prop),G2 l K=K (l.map (·.1))
 | [],_=>rfl
 | p::l,K=>by simp only [G2,Z9 l,List.map_cons]
def Dm (P:Program) (T:Cj) (an:Nat->Ann) (n:Nat) (o:Oper) (ρ:Operand->AV) (H:Hp) (K:Eff->Nat->Prop):Prop :=
 match o.op with
 | .move x=>K ⟨ρ x,[],[]⟩ n
 | .assign x=>
  match o.dst with
  | none=>K ⟨ρ x,[],[]⟩ n
  | some d=>
   match an d with
   | .frz _=>K ⟨ρ x,[],[]⟩ n
   | .std=>K ⟨ρ x,[],[]⟩ n
   | .ask=>K ⟨ρ x,[],[]⟩ n
   | .own=>bif Jl (ρ x) then
     match T o.type with
     | some ⟨.slice e,_,_,_⟩=>
      match T e with
      | some g=>bif Nat.blt 0 g.size then K ⟨.arr n 0 0 0,[(n,.none)],[(n,.rows e g.size [])]⟩ (n+1) else False
      | none=>False
     | _=>False
    else K ⟨ρ x,[],[]⟩ n
 | .pick c a b=>
  match ρ c with
  | .val (.bool t)=>K ⟨bif t then ρ a else ρ b,[],[]⟩ n
  | _=>False
 | .alloc t=>
  match T t with
  | some i=>K ⟨.loc n 0,[(n,.none)],[(n,.cells t (i.zero.map .val))]⟩ (n+1)
  | none=>False
 | .box t x=>K ⟨.loc n 0,[(n,.none)],[(n,.cells t (ρ x).cells)]⟩ (n+1)
 | .build t parts=>
  match T t with
  | some ⟨.struct fs,_,_,z⟩=>
   match Pi fs (z.map .val) (parts.toList.map fun p=>(p.1,ρ p.2)) with
   | some cs=>K ⟨.agg cs,[],[]⟩ n
   | none=>False
  | _=>False
 | .buildSlice t len parts=>
  match T t with
  | some ⟨.slice e,_,_,_⟩=>
   match T e with
   | some g=>
    bif Nat.blt 0 g.size&&(parts.toList.map (·.1)==List.range' 0 len)&&Nat.ble (len*g.size) 16777216&&parts.toList.all (fun p=>Ir g.size (ρ p.2)) then
     match an (o.dst.getD 0) with
     | .frz _=>False
     | .std=>Pq (parts.toList.map fun p=>ρ p.2) fun xs=>K ⟨.sl g.size xs,[],[]⟩ n
     | .ask=>Pq (parts.toList.map fun p=>ρ p.2) fun xs=>K ⟨.sl g.size xs,[],[]⟩ n
     | .own=>Pq (parts.toList.map fun p=>ρ p.2) fun xs=>K ⟨.arr n len 0 len,[(n,.none)],[(n,.rows e g.size xs)]⟩ (n+1)
    else False
   | none=>False
  | _=>False
 | .load t x=>
  match T t with
  | some i=>
   match ρ x with
   | .ref cs=>bif i.isAgg then (bif Nat.ble i.size cs.length then K ⟨.agg (cs.take i.size),[],[]⟩ n else False) else
     match cs with
     | c::_=>K ⟨c,[],[]⟩ n
     | []=>False
   | .loc h off=>
    match H h with
    | .cells E cs=>bif i.isAgg then (bif Nat.ble (off+i.size) cs.length then K ⟨.agg ((cs.drop off).take i.size),[(h,.cells E cs)],[]⟩ n else False) else
      match cs[off]? with
      | some c=>K ⟨c,[(h,.cells E cs)],[]⟩ n
      | none=>False
    | _=>False
   | .el h k q j=>
    match H h with
    | .rows E sz xs=>Jk k q xs fun y=>bif i.isAgg then (bif Nat.ble (j+i.size) y.cells.length then K ⟨.agg ((y.cells.drop j).take i.size),[(h,.rows E sz xs)],[]⟩ n else False) else
      match y.cells[j]? with
      | some c=>K ⟨c,[(h,.rows E sz xs)],[]⟩ n
      | none=>False
    | _=>False
   | _=>False
  | none=>False
 | .store t x y=>
  match T t with
  | some i=>
   match ρ x with
   | .loc h off=>
    match H h with
    | .cells E cs=>bif Nat.beq (ρ y).cells.length i.size&&Nat.ble (off+i.size) cs.length&&(ρ y).cells.all AV.one then K ⟨.val undef,[(h,.cells E cs)],[(h,.cells E (J2 cs off (ρ y).cells))]⟩ n else False
    | _=>False
   | .el h k q j=>
    match H h with
    | .rows E sz xs=>Jk k q xs fun z=>bif Nat.beq (ρ y).cells.length i.size&&Nat.blt 0 i.size&&Nat.ble (j+i.size) z.cells.length&&(ρ y).cells.all AV.cl1&&Sc z then
      Md (ρ y).cells fun ys=>Iu (R7 z j ys) fun p=>Sb xs q p fun u=>K ⟨.val undef,[(h,.rows E sz xs)],[(h,.rows E sz u)]⟩ n else False
    | _=>False
   | _=>False
  | none=>False
 | .nilCheck x=>bif (ρ x).isPtr then K ⟨ρ x,[],[]⟩ n else False
 | .binOp op t x y _=>
  match ρ x,ρ y with
  | .val (.int k a),.val (.int I b)=>
   match op with
   | .shl=>Vu k a b fun c=>K ⟨.val (.int k c),[],[]⟩ n
   | .shr=>Vt k a b fun c=>K ⟨.val (.int k c),[],[]⟩ n
   | op=>bif decide (k=I) then
     match op with
     | .add=>F5 k (a+b) fun c=>K ⟨.val (.int k c),[],[]⟩ n
     | .sub=>F5 k (a-b) fun c=>K ⟨.val (.int k c),[],[]⟩ n
     | .mul=>F5 k (a*b) fun c=>K ⟨.val (.int k c),[],[]⟩ n
     | .quo=>Vr k a b fun c=>K ⟨.val (.int k c),[],[]⟩ n
     | .rem=>Vs a b fun c=>K ⟨.val (.int k c),[],[]⟩ n
     | op=>
      match Zf op a b with
      | some t=>K ⟨.val (.bool t),[],[]⟩ n
      | none=>
       match Zl op k a b with
       | some c=>K ⟨.val (.int k c),[],[]⟩ n
       | none=>False
    else False
  | .val (.bool a),.val (.bool b)=>
   match T t with
   | some ⟨.bool,_,_,_⟩=>
    match Zm op a b with
    | some t=>K ⟨.val (.bool t),[],[]⟩ n
    | none=>False
   | _=>False
  | .agg xs,.agg ys=>
   match F4 xs with
   | some M=>
    match F4 ys with
    | some vs=>
     match op with
     | .eql=>Ae3 P t M vs fun b=>K ⟨.val (.bool b),[],[]⟩ n
     | .neq=>Ae3 P t M vs fun b=>K ⟨.val (.bool !b),[],[]⟩ n
     | _=>False
    | none=>False
   | none=>False
  | .val (.float k a),.val (.float I b)=>bif decide (k=I) then Vz op k a b fun c=>K ⟨.val (.float k c),[],[]⟩ n else False
  | .val (.string a),.val (.string b)=>
   match op with
   | .add=>Vy (a.size+b.size) (K ⟨.val (.string (a++b)),[],[]⟩ n)
   | op=>
    match Zn op a b with
    | some t=>K ⟨.val (.bool t),[],[]⟩ n
    | none=>False
  | .val (.slice p _ _),.val (.slice none _ _)=>
   match op with
   | .eql=>
    match T t with
    | some ⟨.slice _,_,_,_⟩=>K ⟨.val (.bool p.isNone),[],[]⟩ n
    | _=>False
   | _=>False
  | _,_=>False
 | .unOp op _ x=>
  match op,ρ x with
  | .not,.val (.bool b)=>K ⟨.val (.bool !b),[],[]⟩ n
  | .neg,.val (.int k m)=>F5 k (0-m) fun c=>K ⟨.val (.int k c),[],[]⟩ n
  | _,_=>False
 | .convert s d x=>
  match T s,T d,ρ x with
  | some _,some ⟨.int k,_,_,_⟩,.val (.int _ m)=>F5 k m fun c=>K ⟨.val (.int k c),[],[]⟩ n
  | some _,some ⟨.float k,_,_,_⟩,.val (.int _ m)=>K ⟨.val (.float k (floatOfInt k m)),[],[]⟩ n
  | some _,some ⟨.int k,_,_,_⟩,.val (.float q m)=>V1 q m k fun c=>K ⟨.val (.int k c),[],[]⟩ n
  | _,_,_=>False
 | .makeFunc (.func f) first A=>bif first.isEmpty then K ⟨.fn f (A.toList.map ρ),[],[]⟩ n else False
 | .makeSlice t x y=>
  match T t with
  | some ⟨.slice e,_,_,_⟩=>
   match T e with
   | some g=>
    match ρ x,ρ y with
    | .val (.int _ l),.val (.int _ c)=>
     bif Nat.blt 0 g.size&&Ir g.size (D4 g)&&Nat.beq (D4 g).cells.length g.zero.length&&Sc (D4 g) then
      Pp l c g.bytes (D4 g) fun l u=>K ⟨.arr n l 0 l,[(n,.none)],[(n,.rows e g.size u)]⟩ (n+1)
     else False
    | _,_=>False
   | none=>False
  | _=>False
 | .slice t x lo X none=>
  match T t with
  | some ⟨.slice e,_,_,_⟩=>
   match T e with
   | some g=>
    match ρ x with
    | .sl sz xs=>
     match F3 ρ 0 lo,F3 ρ xs.length X with
     | some l,some h=>bif Nat.beq sz g.size then Nx xs l h fun ys=>K ⟨.sl sz ys,[],[]⟩ n else False
     | _,_=>False
    | .arr hd k off len=>
     match H hd with
     | .rows E sz xs=>
      match F3 ρ 0 lo,F3 ρ len X with
      | some l,some h=>bif Nat.beq sz g.size then Aew k xs len l h (fun l h=>K ⟨.arr hd k (off+l) (h-l),[(hd,.rows E sz xs)],[]⟩ n) (K ⟨.sl g.size [],[(hd,.rows E sz xs)],[]⟩ n) else False
      | _,_=>False
     | _=>False
    | _=>False
   | none=>False
  | some ⟨.string,_,_,_⟩=>
   match ρ x with
   | .val (.string s)=>
    match F3 ρ 0 lo,F3 ρ s.size X with
    | some l,some h=>Vv s.size l h fun l h=>K ⟨.val (.string (s.extract l h)),[],[]⟩ n
    | _,_=>False
   | _=>False
  | _=>False
 | .fieldAddr s x f=>
  match T s with
  | some ⟨.struct fs,_,_,_⟩=>
   match fs[f]? with
   | some q=>
    match ρ x with
    | .loc h off=>K ⟨.loc h (off+q.1),[],[]⟩ n
    | .ref cs=>K ⟨.ref (cs.drop q.1),[],[]⟩ n
    | .el h k m j=>
     match H h with
     | .rows E sz xs=>Fa k xs (K ⟨.el h k m (j+q.1),[(h,.rows E sz xs)],[]⟩ n)
     | _=>False
    | _=>False
   | none=>False
  | _=>False
 | .indexAddr t x y=>
  match T t with
  | some ⟨.slice e,_,_,_⟩=>
   match T e with
   | some g=>
    match ρ x,ρ y with
    | .sl sz xs,.val (.int _ i)=>bif Nat.beq sz g.size then Sa xs i fun _ z=>K ⟨.ref z.cells,[],[]⟩ n else False
    | .arr h k off len,.val (.int _ i)=>
     match H h with
     | .rows E sz xs=>bif Nat.beq sz g.size then Nw len k xs i fun m=>K ⟨.el h k (off+m) 0,[(h,.rows E sz xs)],[]⟩ n else False
     | _=>False
    | _,_=>False
   | none=>False
  | _=>False
 | .index t x y=>
  match T t with
  | some ⟨.string,_,_,_⟩=>
   match ρ x,ρ y with
   | .val (.string s),.val (.int _ i)=>Vx s i fun c=>K ⟨.val (.int .u8 c.toNat),[],[]⟩ n
   | _,_=>False
  | _=>False
 | .field s x f=>
  match T s with
  | some ⟨.struct fs,_,_,_⟩=>
   match fs[f]? with
   | some q=>
    match ρ x with
    | .agg cs=>Z5 P s f fun ft=>
     match T ft with
     | some J=>bif J.isAgg then (bif Nat.ble (q.1+J.size) cs.length then K ⟨.agg ((cs.drop q.1).take J.size),[],[]⟩ n else False) else
       match cs[q.1]? with
       | some c=>K ⟨c,[],[]⟩ n
       | none=>False
     | none=>False
    | _=>False
   | none=>False
  | _=>False
 | .makeMap _ none=>K ⟨.mp n,[(n,.none)],[(n,.map [])]⟩ (n+1)
 | .lookup t x y ok=>
  match T t with
  | some ⟨.map N Z,_,_,_⟩=>
   match T N with
   | some ⟨.string,_,_,_⟩=>
    match T Z with
    | some J=>
     match ρ x with
     | .mp h=>
      match ρ y with
      | .val (.string s)=>
       match H h with
       | .map es=>Aez s es fun r=>K ⟨Pl ok J r,[(h,.map es)],[]⟩ n
       | _=>False
      | _=>False
     | _=>False
    | none=>False
   | some ⟨.struct _,_,_,_⟩=>
    match T Z with
    | some J=>
     match ρ x with
     | .mp h=>
      match ρ y with
      | .agg R=>
       match F4 R with
       | some M=>
        match H h with
        | .map es=>Ae0 P N M es fun r=>K ⟨Pl ok J r,[(h,.map es)],[]⟩ n
        | _=>False
       | none=>False
      | _=>False
     | _=>False
    | none=>False
   | _=>False
  | _=>False
 | .mapUpdate t x y z=>
  match T t with
  | some ⟨.map N _,_,_,_⟩=>
   match T N with
   | some ⟨.string,_,_,_⟩=>
    match ρ x with
    | .mp h=>
     match ρ y with
     | .val (.string s)=>
      match H h with
      | .map es=>bif (ρ z).free1 then Iu (ρ z) fun v=>Ae2 s v es fun L=>K ⟨.val undef,[(h,.map es)],[(h,.map L)]⟩ n else False
      | _=>False
     | _=>False
    | _=>False
   | some ⟨.struct _,_,_,_⟩=>
    match ρ x with
    | .mp h=>
     match ρ y with
     | .agg R=>
      match F4 R with
      | some M=>
       match H h with
       | .map es=>bif (ρ z).free1 then Iu (ρ z) fun v=>Ae1 P N R M v es fun L=>K ⟨.val undef,[(h,.map es)],[(h,.map L)]⟩ n else False
       | _=>False
      | none=>False
     | _=>False
    | _=>False
   | _=>False
  | _=>False
 | .extract x i=>
  match ρ x with
  | .tup cs=>
   match cs[i]? with
   | some c=>K ⟨c,[],[]⟩ n
   | none=>False
  | _=>False
 | .call c=>
  match c.callee with
  | .value x=>
   match ρ x with
   | .fn f A=>
    match an (o.dst.getD 0) with
    | .frz j=>
     (match (c.args.toList.map ρ ++ A)[j]? with
     | some (.arr h k 0 len)=>
      (match H h with
      | .rows E sz xs=>Fa k xs (Fa len xs (Ae4 P f ((c.args.toList.map ρ ++ A).set j (.sl sz xs)) fun r=>K ⟨r,[(h,.rows E sz xs)],[(h,.dead)]⟩ n))
      | _=>False)
     | _=>False)
    | _=>Fy P n H f (c.args.toList.map ρ ++ A) K
   | _=>False
  | .invoke _ _=>False
  | .builtin .len=>
   match c.args.toList,c.argTypes.toList with
   | [x],[t]=>
    match T t with
    | some ⟨.slice _,_,_,_⟩=>
     match ρ x with
     | .sl _ xs=>
      match an (o.dst.getD 0) with
      | .ask=>J5 xs fun c=>K ⟨.val (.int .i64 c),[],[]⟩ n
      | _=>K ⟨.val (.int .i64 xs.length),[],[]⟩ n
     | .val (.slice _ m _)=>K ⟨.val (.int .i64 m),[],[]⟩ n
     | .arr h k _ len=>
      match H h with
      | .rows E sz xs=>Fa k xs (K ⟨.val (.int .i64 len),[(h,.rows E sz xs)],[]⟩ n)
      | _=>False
     | _=>False
    | some ⟨.string,_,_,_⟩=>
     match ρ x with
     | .val (.string s)=>K ⟨.val (.int .i64 s.size),[],[]⟩ n
     | _=>False
    | _=>False
   | _,_=>False
  | .builtin .cap=>
   match c.args.toList,c.argTypes.toList with
   | [x],[t]=>
    match T t with
    | some ⟨.slice _,_,_,_⟩=>
     match ρ x with
     | .val (.slice _ _ m)=>K ⟨.val (.int .i64 m),[],[]⟩ n
     | _=>False
    | _=>False
   | _,_=>False
  | .builtin .copy=>
   match c.args.toList,c.argTypes.toList with
   | [x,y],[t,Y]=>
    match T t with
    | some ⟨.slice e,_,_,_⟩=>
     match T e with
     | some g=>
      match ρ y with
      | .arr h2 S D G=>
       match ρ x with
       | .arr h k off len=>
        match H h with
        | .rows E sz xs=>bif Nat.beq E e&&Nat.beq sz g.size&&Nat.beq h h2&&Nat.blt 0 g.size then
          Aon xs k off len S D G (fun u c=>K ⟨.val (.int .i64 c),[(h,.rows e g.size xs)],[(h,.rows e g.size u)]⟩ n) else False
        | _=>False
       | .sl _ []=>
        match H h2 with
        | .rows E sz xs=>bif Nat.beq sz g.size then Fa S xs (K ⟨.val (.int .i64 0),[(h2,.rows E g.size xs)],[]⟩ n) else False
        | _=>False
       | _=>False
      | _=>False
     | none=>False
    | _=>False
   | _,_=>False
  | .builtin .clear=>
   match c.args.toList,c.argTypes.toList with
   | [x],[t]=>
    match T t with
    | some ⟨.slice e,_,_,_⟩=>
     match T e with
     | some g=>
      match ρ x with
      | .arr h k off len=>
       match H h with
       | .rows E sz xs=>bif Nat.beq E e&&Nat.beq sz g.size&&Nat.blt 0 g.size&&Ir g.size (D4 g)&&Nat.beq (D4 g).cells.length g.zero.length&&Sc (D4 g) then
         Aoo xs k off len (D4 g) (fun u=>K ⟨.tup [],[(h,.rows e g.size xs)],[(h,.rows e g.size u)]⟩ n) else False
       | _=>False
      | .sl _ []=>K ⟨.tup [],[],[]⟩ n
      | _=>False
     | none=>False
    | _=>False
   | _,_=>False
  | .builtin .append=>
   match c.args.toList,c.argTypes.toList with
   | [x,y],[t,Y]=>
    match T t,T Y with
    | some ⟨.slice e,_,_,_⟩,some ⟨.slice _,_,_,_⟩=>
     match T e with
     | some g=>
      bif Nat.blt 0 g.size&&Nat.beq g.zero.length g.size&&Nat.ble 1 g.bytes then
       match ρ y with
       | .sl sz ys=>
        bif Nat.beq sz g.size then
         match ρ x with
         | .arr h k 0 len=>
          match H h with
          | .rows E B xs=>bif Nat.beq E e&&Nat.beq B g.size then
            Kz xs ys k len g.bytes (fun u m=>K ⟨.arr h m 0 m,[(h,.rows e g.size xs)],[(h,.rows e g.size u)]⟩ n) (fun u I m=>K ⟨.arr h I 0 m,[(h,.rows e g.size xs)],[(h,.rows e g.size u)]⟩ n) else False
          | _=>False
         | .val (.slice none 0 0)=>Ny ys g.bytes fun u m=>K ⟨.arr n m 0 m,[(n,.none)],[(n,.rows e g.size u)]⟩ (n+1)
         | .sl V U=>Aol ys (K ⟨.sl V U,[],[]⟩ n)
         | _=>False
        else False
       | .arr h2 S D G=>
        match ρ x with
        | .arr h k 0 len=>
         match H h with
         | .rows E B xs=>bif Nat.beq E e&&Nat.beq B g.size&&Nat.beq h h2 then
           Aom xs k len S D G g.bytes (fun u I m=>K ⟨.arr h I 0 m,[(h,.rows e g.size xs)],[(h,.rows e g.size u)]⟩ n) else False
         | _=>False
        | _=>False
       | _=>False
      else False
     | none=>False
    | some ⟨.slice e,_,_,_⟩,some ⟨.string,_,_,_⟩=>
     match T e with
     | some g=>
      bif Nat.beq g.size 1&&Nat.beq g.zero.length g.size&&Nat.ble 1 g.bytes then
       match ρ y with
       | .val (.string s)=>
        match ρ x with
        | .arr h k 0 len=>
         match H h with
         | .rows E B xs=>bif Nat.beq E e&&Nat.beq B g.size then
           Kz xs (G0 s) k len g.bytes (fun u m=>K ⟨.arr h m 0 m,[(h,.rows e g.size xs)],[(h,.rows e g.size u)]⟩ n) (fun _ _ _=>False) else False
         | _=>False
        | _=>False
       | _=>False
      else False
     | none=>False
    | _,_=>False
   | _,_=>False
  | .builtin .max=>
   match c.args.toList,c.argTypes.toList with
   | [x,y],[_,_]=>
    match ρ x,ρ y with
    | .val (.int k a),.val (.int _ b)=>K ⟨.val (.int k (if b>a then b else a)),[],[]⟩ n
    | _,_=>False
   | _,_=>False
  | .builtin .min=>
   match c.args.toList,c.argTypes.toList with
   | [x,y],[_,_]=>
    match ρ x,ρ y with
    | .val (.int k a),.val (.int _ b)=>K ⟨.val (.int k (if b<a then b else a)),[],[]⟩ n
    | _,_=>False
   | _,_=>False
  | _=>False
 | _=>False
end Go.Ab
namespace Go.Ab
section
variable {P:Program} {o:Oper} {ρ:Operand->AV} {a:Act} {w w':World} {next:Act->World->Prop} {Q:Exit->Act->World->Prop}
def Ps (σ:Aq) (w:World):Aq:=fun b=>match σ b with | none=>w.heap[b]? | some _=>none
theorem St.lend {σ:Aq} {ι:Bm} {H:Hp} {F:Aq} {W:World} (s:St σ ι H F W w):St σ ι0 H0 (Ps σ w) W w:=by
 refine ⟨s.sto,fun b o hb=>?_,fun h=>rfl,(fun h h' b c=>by cases c),s.os,s.tape,s.output,s.glo,s.drw⟩
 unfold Ps at hb
 cases e:σ b with
 | none=>rw [e] at hb; exact ⟨hb,rfl⟩
 | some _=>rw [e] at hb; cases hb
theorem St.unlend {σ k:Aq} {ι:Bm} {H:Hp} {F:Aq} {W:World} (s:St σ ι H F W w) (g:σ.le k) (s':St k ι0 H0 (Ps σ w) W w'):St k ι H F W w':=by
 have key:∀b,σ b=none->∀o,w.heap[b]? = some o->w'.heap[b]? = some o/\k b=none:=by
  intro b hb o f
  exact s'.fra b o (by unfold Ps; rw [hb]; exact f)
 have le:Le σ ι H k ι H:=⟨g,fun _=>HLe.refl _ _⟩
 refine ⟨s'.sto,fun b o hb=>?_,fun h=>?_,s.inj,s'.os,s'.tape,s'.output,s'.glo,s'.drw⟩
 .obtain ⟨h1,h2⟩:=s.fra b o hb
  exact key b h2 o h1
 .have f:=s.obj h
  unfold Cf at f ⊢
  cases hh:H h with
  | none=>rw [hh] at f; exact f
  | dead=>trivial
  | cells E cs=>
   rw [hh] at f
   obtain ⟨b,C,j,h1,h2,h3,z,B⟩:=f
   obtain ⟨u,l⟩:=key b h1 _ h3
   exact ⟨b,C,j,l,h2,u,z,fun i c v x y=>(B i c v x y).mono le⟩
  | rows E sz xs=>
   rw [hh] at f
   obtain ⟨D,z2,⟨j,I⟩ | ⟨b,A,C,j,h1,h2,h3,z,B,G⟩⟩:=f
   .exact ⟨D,z2,.inl ⟨j,I⟩⟩
   .obtain ⟨u,l⟩:=key b h1 _ h3
    exact ⟨D,z2,.inr ⟨b,A,C,j,l,h2,u,z,B,G.mono g⟩⟩
  | map es=>
   rw [hh] at f
   obtain ⟨b,M,q,j,h1,h2,h3,z⟩:=f
   obtain ⟨u,l⟩:=key b h1 _ h3
   exact ⟨b,M,q,j,l,h2,u,z.mono g⟩
theorem Conc.of0 {σ:Aq} {ι:Bm} {H:Hp} {x:AV} {v:Value} (h:Conc σ ι0 H0 x v):Conc σ ι H x v:=by
 induction h with
 | cc h=>exact .cc h
 | loc h off b hb=>cases hb
 | mp h b hb=>cases hb
 | arr h k off len v s y c=>exact (s rfl).elim
 | el h k i j v s y c=>exact (s rfl).elim
 | ref cs b off C E fr g u hc h1 z=>exact .ref cs b off C E fr g u hc h1 z
 | agg cs vs l _ ih=>exact .agg cs vs l ih
 | tup cs vs l _ ih=>exact .tup cs vs l ih
 | fn f q vs l _ ih=>exact .fn f q vs l ih
theorem Aoq {x:AV} (h:x.free1=true) (hx:∀cs,x≠.agg cs):x.cl1=true:=by
 cases x <;> first | exact h | exact (hx _ rfl).elim
theorem Conc.to0 {σ:Aq} {ι:Bm} {H:Hp} {x:AV} {v:Value} (hx:x.free=true) (h:Conc σ ι H x v):Conc σ ι0 H0 x v:=by
 have key:∀(cs:List AV),cs.all AV.cl1=true->∀(i:Nat) (c:AV) (u:Value),cs[i]? = some c->Conc σ ι H c u->Conc σ ι0 H0 c u:=by
  intro cs s i c u hc h
  exact .cc (h.cc_of (List.all_eq_true.1 s c (List.mem_of_getElem? hc))).1
 cases h with
 | cc h=>exact .cc h
 | loc=>cases hx
 | mp=>cases hx
 | arr=>cases hx
 | el=>cases hx
 | ref cs b off C E fr g z hc h1 B=>exact .ref cs b off C E fr g z hc h1 B
 | agg cs vs l h=>exact .agg cs vs l fun i c u h1 h2=>key cs hx i c u h1 (h i c u h1 h2)
 | tup cs vs l h=>
  refine .tup cs vs l fun i c u h1 h2=>?_
  have hf:=List.all_eq_true.1 hx c (List.mem_of_getElem? h1)
  have hc:=h i c u h1 h2
  cases c with
  | agg ds=>
   obtain ⟨y,rfl,q,A⟩:=hc.agg_inv
   exact .agg ds y q fun j d v g1 g2=>key ds hf j d v g1 (A j d v g1 g2)
  | _=>exact .cc (hc.cc_of (Aoq hf (by intro cs e; cases e))).1
 | fn f k vs l h=>exact .fn f k vs l fun i c u h1 h2=>key k hx i c u h1 (h i c u h1 h2)
theorem Conc.fn_inv {σ:Aq} {ι:Bm} {H:Hp} {f:FuncId} {b:List AV} {v:Value} (h:Conc σ ι H (.fn f b) v) :
  ∃vs:Array Value,v = .func (.func f) #[] vs/\vs.size=b.length/\∀(i:Nat) (c:AV) (u:Value),b[i]? = some c->vs[i]? = some u->Conc σ ι H c u:=by
 cases h with
 | cc h=>cases h
 | fn _ _ vs g h=>exact ⟨vs,rfl,g,h⟩
theorem Aaa {σ:Aq} {ι:Bm} {H:Hp} {xs:Array Operand} {b:List AV} {vs:Array Value} (hx:∀x∈xs.toList,Conc σ ι H (ρ x) (a.eval x)) (h:vs.size=b.length)
  (g:∀(i:Nat) (c:AV) (u:Value),b[i]? = some c->vs[i]? = some u->Conc σ ι H c u):J4 σ ι H (xs.toList.map ρ ++ b) (xs.map a.eval++vs):=by
 refine ⟨by simp [h],fun i c u h1 h2=>?_⟩
 by_cases f:i<xs.size
 .rw [List.getElem?_append_left (by simpa using f),List.getElem?_map,Array.getElem?_toList] at h1
  rw [Array.getElem?_append_left (by simpa using f),Array.getElem?_map] at h2
  simp [f] at h1 h2
  subst h1; subst h2
  exact hx _ (by simp)
 .rw [List.getElem?_append_right (by simp; omega)] at h1
  rw [Array.getElem?_append_right (by simp; omega)] at h2
  simp at h1 h2
  exact g _ c u h1 h2
theorem Aor {c:Call} {x:Operand} {f:FuncId} {g:List AV} {r:AV} (G:o.op = .call c) (h:c.callee = .value x) (hx:ρ x = .fn f g) (hp:Aw P f (c.args.toList.map ρ ++ g) r)
  (l:(c.args.toList.map ρ ++ g).all AV.free=true):Bv P o ρ ⟨r,[],[]⟩:=by
 intro σ ι H F W w a next Q s B _ hk
 obtain ⟨⟨fn,hf,k,q⟩,hp⟩:=hp
 have z:=B x (by simp [G,Op.operands,Call.operands,h])
 rw [hx] at z
 obtain ⟨vs,L,M,E⟩:=z.fn_inv
 have j:J4 σ ι H (c.args.toList.map ρ ++ g) (c.args.map a.eval++vs) :=
  Aaa (fun y hy=>B y (by simp only [G,Op.operands,Call.operands,h]; simp at hy ⊢; exact .inr hy)) M E
 have A:(execOp a.eval o).run P w = .ok (.enter f (c.args.map a.eval++vs)) w:=by
  have I:(callFunc f (c.args.map a.eval++vs)).run P w = .ok (.enter f (c.args.map a.eval++vs)) w:=by
   unfold callFunc
   simp only [Sem.run_bind,program,Sem.run,Result.andThen_ok,hf,k,q,Bool.false_eq_true,if_false,Sem.run_pure]
  simp only [execOp,G,resolve,h,L,Deferred.ofValue,invoke,Sem.run_bind,Sem.run_pure,Result.andThen_ok,Array.empty_append,I]
 unfold Oper.wp
 rw [A]
 simp only [Oper.upon]
 refine (hp σ (Ps σ w) W w (c.args.map a.eval++vs) s.lend ⟨j.1,fun i b u h1 h2=>(j.2 i b u h1 h2).to0 (List.all_eq_true.1 l b (List.mem_of_getElem? h1))⟩).mono ?_
 rintro e w' ⟨v,J,rfl,D,s',hc⟩
 exact hk J ι v w' ⟨D,fun _=>HLe.refl _ _⟩ (s.unlend D s') hc.of0
theorem Aos {c:Call} {x:Operand} {f:FuncId} {g:List AV} {r:AV} {j h sz:Nat} {E:TypeId} {xs:List AV} (S:o.op = .call c) (k:c.callee = .value x) (hx:ρ x = .fn f g)
  (hj:(c.args.toList.map ρ ++ g)[j]? = some (.arr h xs.length 0 xs.length)) (hp:Aw P f ((c.args.toList.map ρ ++ g).set j (.sl sz xs)) r)
  (A:((c.args.toList.map ρ ++ g).set j (.sl sz xs)).all AV.free=true):Bv P o ρ ⟨r,[(h,.rows E sz xs)],[(h,.dead)]⟩:=by
 intro σ ι H F W w a next Q s J R hk
 have hh:H h = .rows E sz xs:=R (h,.rows E sz xs) (by simp)
 obtain ⟨⟨fn,hf,z,B⟩,hp⟩:=hp
 have G:=J x (by simp [S,Op.operands,Call.operands,k])
 rw [hx] at G
 obtain ⟨vs,hv,hl,M⟩:=G.fn_inv
 have q:J4 σ ι H (c.args.toList.map ρ ++ g) (c.args.map a.eval++vs) :=
  Aaa (fun y hy=>J y (by simp only [S,Op.operands,Call.operands,k]; simp at hy ⊢; exact .inr hy)) hl M
 obtain ⟨N,D,Y,V⟩:=s.freeze hh
 have l:J4 N ι (Ax H h .dead) ((c.args.toList.map ρ ++ g).set j (.sl sz xs)) (c.args.map a.eval++vs):=by
  refine ⟨by rw [List.length_set]; exact q.1,fun i b u h1 h2=>?_⟩
  rw [List.getElem?_set] at h1
  split at h1
  .rename_i U
   split at h1
   .cases h1
    subst U
    have hc:=q.2 j _ u hj h2
    have:=V 0 xs.length _ (by omega) (hc.arr_inv hh rfl)
    rw [List.drop_zero,List.take_of_length_le (by omega)] at this
    exact .cc this
   .cases h1
  .exact (q.2 i b u h1 h2).mono D
 have I:(execOp a.eval o).run P w = .ok (.enter f (c.args.map a.eval++vs)) w:=by
  have X:(callFunc f (c.args.map a.eval++vs)).run P w = .ok (.enter f (c.args.map a.eval++vs)) w:=by
   unfold callFunc
   simp only [Sem.run_bind,program,Sem.run,Result.andThen_ok,hf,z,B,Bool.false_eq_true,if_false,Sem.run_pure]
  simp only [execOp,S,resolve,k,hv,Deferred.ofValue,invoke,Sem.run_bind,Sem.run_pure,Result.andThen_ok,Array.empty_append,X]
 unfold Oper.wp
 rw [I]
 simp only [Oper.upon]
 refine (hp N (Ps N w) W w (c.args.map a.eval++vs) Y.lend ⟨l.1,fun i b u h1 h2=>(l.2 i b u h1 h2).to0 (List.all_eq_true.1 A b (List.mem_of_getElem? h1))⟩).mono ?_
 rintro e w' ⟨v,Z,rfl,L,s',hc⟩
 exact hk Z ι v w' (D.trans ⟨L,fun _=>HLe.refl _ _⟩) (Y.unlend L s') hc.of0
end
end Go.Ab
namespace Go.Ab
theorem Fk {a b:Nat} (h:Nat.blt a b=true):a<b:=Nat.le_of_ble_eq_true h
theorem Aab {es:Nat->Nat} {o:Bf}:Gt es o = .none↔o = .none:=by cases o <;> simp [Gt]
theorem V4 {es:Nat->Nat} {o:Bf}:(Gt es o).live=o.live:=by cases o <;> rfl
theorem Aac {es:Nat->Nat} {o:Bf} {E:TypeId} {sz:Nat} {xs:List AV}:Gt es o = .rows E sz xs↔o = .rows E sz xs:=by cases o <;> simp [Gt]
section
variable {es:Nat->Nat} {m:Nat} {σ:Aq} {ι ιl:Bm} {H Hl:Hp}
theorem Lm (f:∀k,k<m->ιl k=ι (es k)) (B:∀k,k<m->H (es k)=Gt es (Hl k)) {x:AV} {v:Value} (hx:x.under0 m=true):Conc σ ι H (Z3 es x) v↔Conc σ ιl Hl x v:=by
 have rows:∀k,k<m->∀E sz xs,H (es k) = .rows E sz xs↔Hl k = .rows E sz xs:=fun k hk E sz xs=>by rw [B k hk]; exact Aac
 have some:∀k,k<m->(H (es k)≠.none↔Hl k≠.none):=fun k hk=>by rw [B k hk]; exact not_congr Aab
 constructor
 .intro h
  cases x with
  | val u=>cases h with | cc h=>exact .cc h
  | sl sz xs=>cases h with | cc h=>exact .cc h
  | fb s=>cases h with | cc h=>exact .cc h
  | ref cs=>
   cases h with
   | cc h=>exact .cc h
   | ref cs b off C E fr g z hc h1 A=>exact .ref cs b off C E fr g z hc h1 A
  | loc k off=>
   have hk:=Fk hx
   cases h with
   | cc h=>cases h
   | loc _ _ b hb=>exact .loc k off b (by rw [f k hk]; exact hb)
  | mp k=>
   have hk:=Fk hx
   cases h with
   | cc h=>cases h
   | mp _ b hb=>exact .mp k b (by rw [f k hk]; exact hb)
  | arr k q off len=>
   have hk:=Fk hx
   cases h with
   | cc h=>cases h
   | arr _ _ _ _ _ y l c=>
    exact .arr k q off len v ((some k hk).1 y) (fun E sz xs e=>by rw [f k hk]; exact l E sz xs ((rows k hk E sz xs).2 e)) c
  | el k q i j=>
   have hk:=Fk hx
   cases h with
   | cc h=>cases h
   | el _ _ _ _ _ y l c=>
    exact .el k q i j v ((some k hk).1 y) (fun E sz xs e=>by rw [f k hk]; exact l E sz xs ((rows k hk E sz xs).2 e)) c
  | agg=>cases hx
  | tup=>cases hx
  | fn=>cases hx
 .intro h
  cases x with
  | val u=>cases h with | cc h=>exact .cc h
  | sl sz xs=>cases h with | cc h=>exact .cc h
  | fb s=>cases h with | cc h=>exact .cc h
  | ref cs=>
   cases h with
   | cc h=>exact .cc h
   | ref cs b off C E fr g z hc h1 A=>exact .ref cs b off C E fr g z hc h1 A
  | loc k off=>
   have hk:=Fk hx
   cases h with
   | cc h=>cases h
   | loc _ _ b hb=>exact .loc (es k) off b (by rw [<-f k hk]; exact hb)
  | mp k=>
   have hk:=Fk hx
   cases h with
   | cc h=>cases h
   | mp _ b hb=>exact .mp (es k) b (by rw [<-f k hk]; exact hb)
  | arr k q off len=>
   have hk:=Fk hx
   cases h with
   | cc h=>cases h
   | arr _ _ _ _ _ y l c=>
    exact .arr (es k) q off len v ((some k hk).2 y) (fun E sz xs e=>by rw [<-f k hk]; exact l E sz xs ((rows k hk E sz xs).1 e)) c
  | el k q i j=>
   have hk:=Fk hx
   cases h with
   | cc h=>cases h
   | el _ _ _ _ _ y l c=>
    exact .el (es k) q i j v ((some k hk).2 y) (fun E sz xs e=>by rw [<-f k hk]; exact l E sz xs ((rows k hk E sz xs).1 e)) c
  | agg=>cases hx
  | tup=>cases hx
  | fn=>cases hx
theorem Gc (b:∀k,k<m->ιl k=ι (es k)) (g:∀k,k<m->H (es k)=Gt es (Hl k)) {x:AV} {v:Value} (hx:x.under1 m=true):Conc σ ι H (Ky es x) v↔Conc σ ιl Hl x v:=by
 have cells:∀{cs:List AV},cs.all (AV.under0 m)=true->∀(i:Nat) (c:AV),cs[i]? = some c->∀u,(Conc σ ι H (Z3 es c) u↔Conc σ ιl Hl c u) :=
  fun q i c hc u=>Lm b g (List.all_eq_true.1 q c (List.mem_of_getElem? hc))
 cases x with
 | fn f cs=>
  constructor
  .intro h
   obtain ⟨vs,rfl,l,h⟩:=h.fn_inv
   exact .fn f cs vs (by simpa using l) fun i c u h1 h2=>(cells hx i c h1 u).1 (h i _ u (by simp [h1]) h2)
  .intro h
   obtain ⟨vs,rfl,l,h⟩:=h.fn_inv
   refine .fn f _ vs (by simpa using l) fun i c u h1 h2=>?_
   rw [List.getElem?_map] at h1
   cases hc:cs[i]? with
   | none=>rw [hc] at h1; cases h1
   | some y=>rw [hc] at h1; cases h1; exact (cells hx i y hc u).2 (h i y u hc h2)
 | agg cs=>cases hx
 | tup cs=>cases hx
 | val u=>exact Lm (x:=(.val u)) b g hx
 | loc h off=>exact Lm (x:=(.loc h off)) b g hx
 | arr h k off len=>exact Lm (x:=(.arr h k off len)) b g hx
 | el h k i j=>exact Lm (x:=(.el h k i j)) b g hx
 | mp h=>exact Lm (x:=(.mp h)) b g hx
 | ref cs=>exact Lm (x:=(.ref cs)) b g hx
 | sl sz xs=>exact Lm (x:=(.sl sz xs)) b g hx
 | fb s=>exact Lm (x:=(.fb s)) b g hx
theorem Aot {n:Nat} {x:AV} (h:x.under0 n=true):x.under1 n=true:=by
 cases x <;> first | exact h | cases h
theorem Aad {n:Nat} {x:AV} (h:x.under1 n=true):x.under n=true:=by
 cases x with
 | fn f cs=>exact List.all_eq_true.2 fun c hc=>Aot (List.all_eq_true.1 h c hc)
 | agg cs=>cases h
 | tup cs=>cases h
 | _=>exact h
theorem Aou (b:∀k,k<m->ιl k=ι (es k)) (g:∀k,k<m->H (es k)=Gt es (Hl k)) {x:AV} {v:Value} (hx:x.under2 m=true):Conc σ ι H (Z4 es x) v↔Conc σ ιl Hl x v:=by
 have cells:∀{cs:List AV},cs.all (AV.under1 m)=true->∀(i:Nat) (c:AV),cs[i]? = some c->∀u,(Conc σ ι H (Ky es c) u↔Conc σ ιl Hl c u) :=
  fun q i c hc u=>Gc b g (List.all_eq_true.1 q c (List.mem_of_getElem? hc))
 cases x with
 | agg cs=>
  constructor
  .intro h
   obtain ⟨vs,rfl,l,h⟩:=h.agg_inv
   exact .agg cs vs (by simpa using l) fun i c u h1 h2=>(cells hx i c h1 u).1 (h i _ u (by simp [h1]) h2)
  .intro h
   obtain ⟨vs,rfl,l,h⟩:=h.agg_inv
   refine .agg _ vs (by simpa using l) fun i c u h1 h2=>?_
   rw [List.getElem?_map] at h1
   cases hc:cs[i]? with
   | none=>rw [hc] at h1; cases h1
   | some y=>rw [hc] at h1; cases h1; exact (cells hx i y hc u).2 (h i y u hc h2)
 | tup cs=>cases hx
 | fn f cs=>exact Gc (x:=(.fn f cs)) b g hx
 | val u=>exact Gc (x:=(.val u)) b g hx
 | loc h off=>exact Gc (x:=(.loc h off)) b g hx
 | arr h k off len=>exact Gc (x:=(.arr h k off len)) b g hx
 | el h k i j=>exact Gc (x:=(.el h k i j)) b g hx
 | mp h=>exact Gc (x:=(.mp h)) b g hx
 | ref cs=>exact Gc (x:=(.ref cs)) b g hx
 | sl sz xs=>exact Gc (x:=(.sl sz xs)) b g hx
 | fb s=>exact Gc (x:=(.fb s)) b g hx
theorem Ae6 (l:∀k,k<m->ιl k=ι (es k)) (q:∀k,k<m->H (es k)=Gt es (Hl k)) {x:AV} {v:Value} (hx:x.under m=true):Conc σ ι H (ren es x) v↔Conc σ ιl Hl x v:=by
 have cells:∀{cs:List AV},cs.all (AV.under1 m)=true->∀(i:Nat) (c:AV),cs[i]? = some c->∀u,(Conc σ ι H (Ky es c) u↔Conc σ ιl Hl c u) :=
  fun z i c hc u=>Gc l q (List.all_eq_true.1 z c (List.mem_of_getElem? hc))
 have b:∀{cs:List AV},cs.all (AV.under2 m)=true->∀(i:Nat) (c:AV),cs[i]? = some c->∀u,(Conc σ ι H (Z4 es c) u↔Conc σ ιl Hl c u) :=
  fun z i c hc u=>Aou l q (List.all_eq_true.1 z c (List.mem_of_getElem? hc))
 cases x with
 | agg cs=>
  constructor
  .intro h
   obtain ⟨vs,rfl,g,h⟩:=h.agg_inv
   exact .agg cs vs (by simpa using g) fun i c u h1 h2=>(cells hx i c h1 u).1 (h i _ u (by simp [h1]) h2)
  .intro h
   obtain ⟨vs,rfl,g,h⟩:=h.agg_inv
   refine .agg _ vs (by simpa using g) fun i c u h1 h2=>?_
   rw [List.getElem?_map] at h1
   cases hc:cs[i]? with
   | none=>rw [hc] at h1; cases h1
   | some y=>rw [hc] at h1; cases h1; exact (cells hx i y hc u).2 (h i y u hc h2)
 | tup cs=>
  constructor
  .intro h
   obtain ⟨vs,rfl,g,h⟩:=h.tup_inv
   exact .tup cs vs (by simpa using g) fun i c u h1 h2=>(b hx i c h1 u).1 (h i _ u (by simp [h1]) h2)
  .intro h
   obtain ⟨vs,rfl,g,h⟩:=h.tup_inv
   refine .tup _ vs (by simpa using g) fun i c u h1 h2=>?_
   rw [List.getElem?_map] at h1
   cases hc:cs[i]? with
   | none=>rw [hc] at h1; cases h1
   | some y=>rw [hc] at h1; cases h1; exact (b hx i y hc u).2 (h i y u hc h2)
 | fn f cs=>
  constructor
  .intro h
   obtain ⟨vs,rfl,g,h⟩:=h.fn_inv
   exact .fn f cs vs (by simpa using g) fun i c u h1 h2=>(cells hx i c h1 u).1 (h i _ u (by simp [h1]) h2)
  .intro h
   obtain ⟨vs,rfl,g,h⟩:=h.fn_inv
   refine .fn f _ vs (by simpa using g) fun i c u h1 h2=>?_
   rw [List.getElem?_map] at h1
   cases hc:cs[i]? with
   | none=>rw [hc] at h1; cases h1
   | some y=>rw [hc] at h1; cases h1; exact (cells hx i y hc u).2 (h i y u hc h2)
 | val u=>exact Gc (x:=(.val u)) l q hx
 | loc h off=>exact Gc (x:=(.loc h off)) l q hx
 | arr h k off len=>exact Gc (x:=(.arr h k off len)) l q hx
 | el h k i j=>exact Gc (x:=(.el h k i j)) l q hx
 | mp h=>exact Gc (x:=(.mp h)) l q hx
 | ref cs=>exact Gc (x:=(.ref cs)) l q hx
 | sl sz xs=>exact Gc (x:=(.sl sz xs)) l q hx
 | fb s=>exact Gc (x:=(.fb s)) l q hx
theorem Ae7 (A:∀k,k<m->ιl k=ι (es k)) (B:∀k,k<m->H (es k)=Gt es (Hl k)) {F G:Aq} {w:World} {k:Nat} (hk:k<m) (hu:(Hl k).under m=true)
  (h:∀b,(Hl k).live=true->(ιl k).block? = some b->(F b=none↔G b=none)):Cf σ ι H F w (es k)↔Cf σ ιl Hl G w k:=by
 have cells:∀{cs:List AV},cs.all (AV.under1 m)=true->∀(i:Nat) (c:AV),cs[i]? = some c->∀u,(Conc σ ι H (Ky es c) u↔Conc σ ιl Hl c u) :=
  fun x i c hc u=>Gc A B (List.all_eq_true.1 x c (List.mem_of_getElem? hc))
 unfold Cf
 rw [B k hk,<-A k hk]
 cases hx:Hl k with
 | none=>exact Iff.rfl
 | dead=>exact Iff.rfl
 | map l=>
  simp only [Gt]
  rw [hx] at h
  constructor
  .rintro ⟨b,M,q,f,h1,h2,h3⟩
   exact ⟨b,M,q,f,h1,(h b rfl (by rw [f]; rfl)).1 h2,h3⟩
  .rintro ⟨b,M,q,f,h1,h2,h3⟩
   exact ⟨b,M,q,f,h1,(h b rfl (by rw [f]; rfl)).2 h2,h3⟩
 | rows E sz xs=>
  simp only [Gt]
  rw [hx] at h
  refine and_congr Iff.rfl (and_congr Iff.rfl (or_congr Iff.rfl ?_))
  constructor
  .rintro ⟨b,j,C,f,h1,h2,h3⟩
   exact ⟨b,j,C,f,h1,(h b rfl (by rw [f]; rfl)).1 h2,h3⟩
  .rintro ⟨b,j,C,f,h1,h2,h3⟩
   exact ⟨b,j,C,f,h1,(h b rfl (by rw [f]; rfl)).2 h2,h3⟩
 | cells E cs=>
  simp only [Gt]
  rw [hx] at h hu
  constructor
  .rintro ⟨b,C,f,h1,h2,h3,z,y⟩
   refine ⟨b,C,f,h1,(h b rfl (by rw [f]; rfl)).1 h2,h3,by simpa using z,fun i c v hc s=>(cells hu i c hc v).1 (y i _ v (by simp [hc]) s)⟩
  .rintro ⟨b,C,f,h1,h2,h3,z,y⟩
   refine ⟨b,C,f,h1,(h b rfl (by rw [f]; rfl)).2 h2,h3,by simpa using z,fun i c v hc s=>?_⟩
   rw [List.getElem?_map] at hc
   cases g:cs[i]? with
   | none=>rw [g] at hc; cases hc
   | some D=>rw [g] at hc; cases hc; exact (cells hu i D g v).2 (y i D v g s)
end
theorem Ae8 {n:Nat}:∀{l:List Nat} {k:Nat},Ll n l=true->k<l.length->Df n l k<n
 | [],k,_,h=>by simp at h
 | h::l,0,b,_=>by simp only [Ll,Bool.and_eq_true] at b; exact Fk b.1.1
 | h::l,k+1,b,hk=>by simp only [Ll,Bool.and_eq_true] at b; exact Ae8 (l:=l) b.2 (by simpa using hk)
theorem Sd {n:Nat}:∀{l:List Nat} {k:Nat},l.length<=k->Df n l k=n+(k-l.length)
 | [],k,_=>by simp [Df]
 | h::l,0,hk=>by simp at hk
 | h::l,k+1,hk=>by simp only [Df,List.length_cons]; rw [Sd (l:=l) (by simpa using hk)]; omega
theorem Aae {n:Nat}:∀{l:List Nat} {k:Nat},k<l.length->Df n l k∈l
 | [],k,h=>by simp at h
 | h::l,0,_=>by simp [Df]
 | h::l,k+1,hk=>by simp only [Df]; exact List.mem_cons_of_mem _ (Aae (by simpa using hk))
theorem Ae9 {n:Nat}:∀{l:List Nat} {j k:Nat},Ll n l=true->Df n l j=Df n l k->j=k
 | [],j,k,_,h=>by simp only [Df] at h; omega
 | h::l,0,0,_,_=>rfl
 | h::l,j+1,k+1,b,e=>by simp only [Ll,Bool.and_eq_true] at b; simp only [Df] at e; rw [Ae9 (l:=l) b.2 e]
 | h::l,0,k+1,b,e=>by
  simp only [Ll,Bool.and_eq_true] at b
  simp only [Df] at e
  rcases Nat.lt_or_ge k l.length with hk | hk
  .have:=Aae (n:=n) hk
   rw [<-e] at this
   simp [this] at b
  .have h1:=Sd (n:=n) hk
   have h2:=Fk b.1.1
   omega
 | h::l,j+1,0,b,e=>by
  simp only [Ll,Bool.and_eq_true] at b
  simp only [Df] at e
  rcases Nat.lt_or_ge j l.length with hk | hk
  .have:=Aae (n:=n) hk
   rw [e] at this
   simp [this] at b
  .have h1:=Sd (n:=n) hk
   have h2:=Fk b.1.1
   omega
theorem Afa {es:Nat->Nat}:∀{os:List Bf} {k i:Nat} {o:Bf},os[i]? = some o->(es (k+i),Gt es o)∈wrs es k os
 | [],k,i,o,h=>by simp at h
 | p::os,k,0,o,h=>by simp at h; subst h; simp [wrs]
 | p::os,k,i+1,o,h=>by
  simp only [wrs]
  refine List.mem_cons_of_mem _ ?_
  have:=Afa (es:=es) (k:=k+1) (i:=i) (by simpa using h)
  rwa [show k+(i+1)=k+1+i by omega]
theorem V5 {es:Nat->Nat}:∀{os:List Bf} {k x:Nat} {H:Hp},(∀i,i<os.length->es (k+i)≠x)->Cd H (wrs es k os) x=H x
 | [],k,x,H,h=>rfl
 | q::os,k,x,H,h=>by
  simp only [wrs,Cd]
  rw [V5 (fun i b=>by rw [show k+1+i=k+(i+1) by omega]; exact h (i+1) (by simpa using b)),Cr _ _ (Ne.symm (by simpa using h 0 (by simp)))]
theorem Afb {es:Nat->Nat} (b:∀i j,es i=es j->i=j):∀{os:List Bf} {k i:Nat} {o:Bf} {H:Hp},os[i]? = some o->Cd H (wrs es k os) (es (k+i))=Gt es o
 | [],k,i,o,H,h=>by simp at h
 | q::os,k,0,o,H,h=>by
  simp at h; subst h
  simp only [wrs,Cd]
  rw [V5 (fun i c e=>by have:=b _ _ e; omega)]
  exact B8 _ _ _
 | q::os,k,i+1,o,H,h=>by
  simp only [wrs,Cd]
  rw [show k+(i+1)=k+1+i by omega]
  exact Afb b (by simpa using h)
theorem Afc {es:Nat->Nat}:∀{c k i:Nat},i<c->(es (k+i),Bf.none)∈Bz es k c
 | 0,k,i,h=>by omega
 | c+1,k,0,h=>by simp [Bz]
 | c+1,k,i+1,h=>by
  simp only [Bz]
  refine List.mem_cons_of_mem _ ?_
  have:=Afc (es:=es) (c:=c) (k:=k+1) (i:=i) (by omega)
  rwa [show k+(i+1)=k+1+i by omega]
theorem Afd {es:Nat->Nat}:∀{c k:Nat} {p:Nat×Bf},p∈Bz es k c->∃i,i<c/\p=(es (k+i),Bf.none)
 | 0,k,p,h=>by simp [Bz] at h
 | c+1,k,p,h=>by
  simp only [Bz,List.mem_cons] at h
  rcases h with rfl | h
  .exact ⟨0,by omega,rfl⟩
  .obtain ⟨i,h1,h2⟩:=Afd h
   exact ⟨i+1,by omega,by rw [h2,show k+(i+1)=k+1+i by omega]⟩
theorem Nv.spec {H:Hp}:∀{l:List (Nat×Bf)},Nv H l->∀p∈l,H p.1=p.2
 | [],_,p,hp=>by cases hp
 | q::l,h,p,hp=>by
  rcases List.mem_cons.1 hp with rfl | hp
  .exact h.1
  .exact Nv.spec h.2 p hp
theorem Se {b:List Bf} {k:Nat} (h:k<b.length):b[k]? = some (hp b k):=by simp [hp,h]
theorem Me {b:List Bf} {k:Nat} (h:b.length<=k):hp b k = .none:=by simp [hp,List.getElem?_eq_none h]
section
variable {P:Program} {o:Oper} {ρ:Operand->AV} {a:Act} {w w':World}
open Classical in
theorem Aov {n:Nat} {c:Call} {x:Operand} {f:FuncId} {caps:List AV} {l:List Nat} {largs:List AV} {hs:List Bf} {r:AV} {hs':List Bf} (ho:o.op = .call c) (hcal:c.callee = .value x) (hx:ρ x = .fn f caps)
  (hp0:Br P f largs hs r hs') (ha:largs.map (ren (Df n l))=c.args.toList.map ρ ++ caps) (ok:Po n l largs hs r hs'=true) :
  Bv P o ρ ⟨ren (Df n l) r,wrs (Df n l) 0 hs++Bz (Df n l) l.length (hs'.length-l.length),wrs (Df n l) 0 hs'⟩:=by
 intro σ ι H F W w a next Q s hop hrd hk
 simp only [Po,Bool.and_eq_true] at ok
 obtain ⟨⟨⟨⟨⟨⟨o1,o2⟩,o3⟩,o4⟩,o5⟩,o6⟩,o7⟩:=ok
 have o2:=Nat.eq_of_beq_eq_true o2
 have o3:=Nat.le_of_ble_eq_true o3
 generalize hes:Df n l=es at *
 have inj:∀i j,es i=es j->i=j:=fun i j e=>by rw [<-hes] at e; exact Ae9 o1 e
 obtain ⟨⟨fn,hf,hname,hbody⟩,hpp⟩:=hp0
 have hxv:=hop x (by simp [ho,Op.operands,Call.operands,hcal])
 rw [hx] at hxv
 obtain ⟨vs,hv,hl,hcap⟩:=hxv.fn_inv
 have hall:J4 σ ι H (c.args.toList.map ρ ++ caps) (c.args.map a.eval++vs) :=
  Aaa (fun y hy=>hop y (by simp only [ho,Op.operands,Call.operands,hcal]; simp at hy ⊢; exact .inr hy)) hl hcap
 have hrun:(execOp a.eval o).run P w = .ok (.enter f (c.args.map a.eval++vs)) w:=by
  have hcf:(callFunc f (c.args.map a.eval++vs)).run P w = .ok (.enter f (c.args.map a.eval++vs)) w:=by
   unfold callFunc
   simp only [Sem.run_bind,program,Sem.run,Result.andThen_ok,hf,hname,hbody,Bool.false_eq_true,if_false,Sem.run_pure]
  simp only [execOp,ho,resolve,hcal,hv,Deferred.ofValue,invoke,Sem.run_bind,Sem.run_pure,Result.andThen_ok,Array.empty_append,hcf]
 unfold Oper.wp
 rw [hrun]
 simp only [Oper.upon]
 have hgiven:∀k,k<hs.length->H (es k)=Gt es (hp hs k):=by
  intro k hk'
  have:=hrd _ (List.mem_append_left _ (Afa (es:=es) (k:=0) (Se hk')))
  simpa using this
 have hnew:∀k,hs.length<=k->k<hs'.length->H (es k) = .none:=by
  intro k h1 h2
  have:=hrd _ (List.mem_append_right _ (Afc (es:=es) (k:=l.length) (c:=hs'.length-l.length) (i:=k-l.length) (by omega)))
  rwa [show l.length+(k-l.length)=k by omega] at this
 let ιl:Bm:=fun k=>if k<hs.length then ι (es k) else .none
 let mine:Nat->Prop:=fun b=>∃k,k<hs.length/\(hp hs k).live=true/\(ι (es k)).block? = some b
 let Fl:Aq:=fun b=>if σ b=none/\¬mine b then w.heap[b]? else none
 have hιl:∀k,k<hs.length->ιl k=ι (es k):=fun k h=>if_pos h
 have hlive:∀k,k<hs.length->(H (es k)).live=(hp hs k).live:=fun k h=>by rw [hgiven k h,V4]
 have hunder:∀k,k<hs.length->(hp hs k).under hs.length=true:=by
  intro k h
  have:=List.all_eq_true.1 o5 _ (List.mem_of_getElem? (Se h))
  rw [o2]; exact this
 have hFb:∀k,k<hs.length->∀b,(hp hs k).live=true->(ιl k).block? = some b->F b=none/\Fl b=none:=by
  intro k h b h1 h2
  rw [hιl k h] at h2
  exact ⟨(s.block (by rw [hlive k h]; exact h1) h2).2.2,if_neg (fun hn=>hn.2 ⟨k,h,h1,h2⟩)⟩
 have sl:St σ ιl (hp hs) Fl W w:=by
  refine ⟨s.sto,fun b ob hb=>?_,fun k=>?_,fun k k' b h1 h2 h3 h4=>?_,s.os,s.tape,s.output,s.glo,s.drw⟩
  .by_cases hc:σ b=none/\¬mine b
   .simp only [Fl,if_pos hc] at hb; exact ⟨hb,hc.1⟩
   .simp only [Fl,if_neg hc] at hb; cases hb
  .by_cases hk':k<hs.length
   .refine (Ae7 (es:=es) hιl hgiven hk' (hunder k hk') (fun b h1 h2=>?_)).1 (s.obj (es k))
    obtain ⟨h3,h4⟩:=hFb k hk' b h1 h2
    rw [h3,h4]
   .unfold Cf
    rw [Me (by omega)]
    exact if_neg hk'
  .have lt:∀k,(hp hs k).live=true->k<hs.length:=by
    intro k h
    rcases Nat.lt_or_ge k hs.length with h' | h'
    .exact h'
    .rw [Me h'] at h; cases h
   have k1:=lt k h1
   have k2:=lt k' h2
   rw [hιl k k1] at h3
   rw [hιl k' k2] at h4
   exact inj _ _ (s.inj _ _ b (by rw [hlive k k1]; exact h1) (by rw [hlive k' k2]; exact h2) h3 h4)
 have hargs:J4 σ ιl (hp hs) largs (c.args.map a.eval++vs):=by
  rw [<-ha] at hall
  refine ⟨by simpa using hall.1,fun i b u h1 h2=>?_⟩
  have:=hall.2 i (ren es b) u (by simp [h1]) h2
  refine (Ae6 (es:=es) hιl hgiven ?_).1 this
  rw [o2]; exact List.all_eq_true.1 o4 b (List.mem_of_getElem? h1)
 refine (hpp σ Fl W w ιl (c.args.map a.eval++vs) sl hargs).mono ?_
 rintro e w' ⟨v,σ',ι'l,rfl,le',s',hc'⟩
 let ι':Bm:=fun h=>if hh:∃k,k<hs'.length/\es k=h then ι'l hh.choose else ι h
 have hι':∀k,k<hs'.length->ι'l k=ι' (es k):=by
  intro k h
  have hh:∃k',k' < hs'.length/\es k'=es k:=⟨k,h,rfl⟩
  have:hh.choose=k:=inj _ _ hh.choose_spec.2
  simp only [ι',dif_pos hh,this]
 have hιo:∀h,(∀k,k<hs'.length->es k≠h)->ι' h=ι h:=by
  intro h hno
  exact dif_neg (fun ⟨k,k1,k2⟩=>hno k k1 k2)
 have hH':∀k,k<hs'.length->Cd H (wrs es 0 hs') (es k)=Gt es (hp hs' k):=by
  intro k h
  have:=Afb (es:=es) inj (k:=0) (H:=H) (Se h)
  simpa using this
 have hHo:∀h,(∀k,k<hs'.length->es k≠h)->Cd H (wrs es 0 hs') h=H h:=by
  intro h hno
  exact V5 (fun i hi=>by simpa using hno i hi)
 have hle2:hs.length<=hs'.length:=by omega
 have lel:Le σ ι H σ' ι' (Cd H (wrs es 0 hs')):=by
  refine ⟨le'.sto,fun h=>?_⟩
  by_cases hh:∃k,k<hs'.length/\es k=h
  .obtain ⟨k,hk',rfl⟩:=hh
   rw [<-hι' k hk',hH' k hk']
   by_cases hk2:k<hs.length
   .have q:=le'.obj k
    rw [hιl k hk2] at q
    rw [hgiven k hk2]
    refine ⟨q.box,fun h=>?_,fun h1 E sz xs h2=>?_⟩
    .rw [Ne,Aab] at h ⊢; exact q.some h
    .rw [Ne,Aab] at h1
     rw [Aac] at h2
     obtain ⟨E0,sz0,xs0,e0,r0⟩:=q.rows h1 E sz xs h2
     exact ⟨E0,sz0,xs0,Aac.2 e0,r0⟩
   .have h0:=hnew k (by omega) hk'
    have:ι (es k) = .none:=by have:=s.obj (es k); unfold Cf at this; rw [h0] at this; exact this
    rw [h0,this]
    exact HLe.of_none
  .have hno:∀k,k<hs'.length->es k≠h:=fun k h1 h2=>hh ⟨k,h1,h2⟩
   rw [hιo h hno,hHo h hno]
   exact HLe.refl _ _
 have keep:∀b,σ b=none->¬mine b->∀ob,w.heap[b]? = some ob->w'.heap[b]? = some ob/\σ' b=none/\Fl b=some ob:=by
  intro b h1 h2 ob h3
  have:Fl b=some ob:=by simp only [Fl]; rw [if_pos ⟨h1,h2⟩]; exact h3
  exact ⟨(s'.fra b ob this).1,(s'.fra b ob this).2,this⟩
 have notmine:∀h b,(∀k,k<hs'.length->es k≠h)->(H h).live=true->(ι h).block? = some b->¬mine b:=by
  rintro h b hno h1 h2 ⟨k,k1,k2,k3⟩
  exact hno k (by omega) (s.inj _ _ b (by rw [hlive k k1]; exact k2) h1 k3 h2)
 have notmineF:∀b ob,F b=some ob->¬mine b:=by
  rintro b ob hb ⟨k,k1,k2,k3⟩
  have:=(s.block (by rw [hlive k k1]; exact k2) k3).2.2
  rw [this] at hb; cases hb
 have hunder':∀k,k<hs'.length->(hp hs' k).under hs'.length=true:=fun k h=>List.all_eq_true.1 o7 _ (List.mem_of_getElem? (Se h))
 have st':St σ' ι' (Cd H (wrs es 0 hs')) F W w':=by
  refine ⟨s'.sto,fun b ob hb=>?_,fun h=>?_,fun h h' b h1 h2 h3 h4=>?_,s'.os,s'.tape,s'.output,s'.glo,s'.drw⟩
  .obtain ⟨h1,h2⟩:=s.fra b ob hb
   obtain ⟨k1,k2,_⟩:=keep b h2 (notmineF b ob hb) ob h1
   exact ⟨k1,k2⟩
  .by_cases hh:∃k,k<hs'.length/\es k=h
   .obtain ⟨k,hk',rfl⟩:=hh
    refine (Ae7 (es:=es) hι' hH' hk' (hunder' k hk') (fun b h1 h2=>?_)).2 (s'.obj k)
    have hf0:=(s'.block h1 h2).2.2
    refine ⟨fun _=>hf0,fun _=>?_⟩
    cases hFb:F b with
    | none=>rfl
    | some ob=>
     obtain ⟨h3,h4⟩:=s.fra b ob hFb
     have:=(keep b h4 (notmineF b ob hFb) ob h3).2.2
     rw [hf0] at this; cases this
   .have hno:∀k,k<hs'.length->es k≠h:=fun k h1 h2=>hh ⟨k,h1,h2⟩
    have hob:=s.obj h
    have hnm:=fun b h1 h2=>notmine h b hno h1 h2
    unfold Cf at hob ⊢
    rw [hHo h hno,hιo h hno]
    cases hx:H h with
    | none=>rw [hx] at hob; exact hob
    | dead=>trivial
    | cells E cs=>
     rw [hx] at hob hnm
     obtain ⟨b,C,e1,h1,h2,h3,h4,h5⟩:=hob
     obtain ⟨k1,k2,_⟩:=keep b h1 (hnm b rfl (by rw [e1]; rfl)) _ h3
     exact ⟨b,C,e1,k2,h2,k1,h4,fun i c v x y=>(h5 i c v x y).mono lel⟩
    | rows E sz xs=>
     rw [hx] at hob hnm
     obtain ⟨z1,z2,⟨e1,e2⟩ | ⟨b,tot,C,e1,h1,h2,h3,h4,h5,h6⟩⟩:=hob
     .exact ⟨z1,z2,.inl ⟨e1,e2⟩⟩
     .obtain ⟨k1,k2,_⟩:=keep b h1 (hnm b rfl (by rw [e1]; rfl)) _ h3
      exact ⟨z1,z2,.inr ⟨b,tot,C,e1,k2,h2,k1,h4,h5,h6.mono le'.sto⟩⟩
    | map l=>
     rw [hx] at hob hnm
     obtain ⟨b,M,q,e1,h1,h2,h3,h4⟩:=hob
     obtain ⟨k1,k2,_⟩:=keep b h1 (hnm b rfl (by rw [e1]; rfl)) _ h3
     exact ⟨b,M,q,e1,k2,h2,k1,h4.mono le'.sto⟩
  .have Sf:∀k,k<hs'.length->∀h,(∀k,k<hs'.length->es k≠h)->(Cd H (wrs es 0 hs') (es k)).live=true->(Cd H (wrs es 0 hs') h).live=true->(ι' (es k)).block? = some b->(ι' h).block? = some b->False:=by
    intro k hk' h hno g1 g2 g3 g4
    rw [hH' k hk',V4] at g1
    rw [hHo h hno] at g2
    rw [<-hι' k hk'] at g3
    rw [hιo h hno] at g4
    have hf0:=(s'.block g1 g3).2.2
    have hb:=s.block g2 g4
    have hget:w.heap[b]? = some w.heap[b]:=by simp [hb.1]
    have:=(keep b hb.2.1 (notmine h b hno g2 g4) _ hget).2.2
    rw [hf0] at this; cases this
   by_cases hh:∃k,k<hs'.length/\es k=h
   .obtain ⟨k,hk',rfl⟩:=hh
    by_cases hh':∃k,k<hs'.length/\es k=h'
    .obtain ⟨k',hk2,rfl⟩:=hh'
     rw [hH' k hk',V4] at h1
     rw [hH' k' hk2,V4] at h2
     rw [<-hι' k hk'] at h3
     rw [<-hι' k' hk2] at h4
     rw [s'.inj k k' b h1 h2 h3 h4]
    .exact (Sf k hk' h' (fun k h1 h2=>hh' ⟨k,h1,h2⟩) h1 h2 h3 h4).elim
   .have hno:∀k,k<hs'.length->es k≠h:=fun k h1 h2=>hh ⟨k,h1,h2⟩
    by_cases hh':∃k,k<hs'.length/\es k=h'
    .obtain ⟨k',hk2,rfl⟩:=hh'
     exact (Sf k' hk2 h hno h2 h1 h4 h3).elim
    .have hno':∀k,k<hs'.length->es k≠h':=fun k h1 h2=>hh' ⟨k,h1,h2⟩
     rw [hHo h hno] at h1
     rw [hHo h' hno'] at h2
     rw [hιo h hno] at h3
     rw [hιo h' hno'] at h4
     exact s.inj h h' b h1 h2 h3 h4
 exact hk σ' ι' v w' lel st' ((Ae6 (es:=es) hι' hH' o6).2 hc')
end
end Go.Ab
namespace Go.Ab
section
variable {P:Program} {T:Cj} {an:Nat->Ann} {n:Nat} {o:Oper} {ρ:Operand->AV} {H:Hp} {K:Eff->Nat->Prop}
theorem Ev {b:Bool} {X:Prop} (h:bif b then X else False):b=true/\X:=by
 cases b with
 | false=>exact h.elim
 | true=>exact ⟨rfl,h⟩
theorem V6 {x:AV} (h:Jl x=true):x = .val (.slice none 0 0):=by
 unfold Jl at h
 split at h
 .rfl
 .cases h
theorem Aow {x:AV} (h:Sc x=true):∀vs,x≠.val (.agg vs):=by
 intro vs e; subst e; cases h
theorem Aaf {i:TI} (h1:Nat.beq (D4 i).cells.length i.zero.length=true) (h2:Sc (D4 i)=true) (h3:Ir i.size (D4 i)=true):(D4 i).cells=i.zero.map .val:=by
 have _:=h1; have _:=h3
 unfold D4 at h2 ⊢
 cases hd:i.d with
 | struct fs=>rfl
 | _=>
  rw [hd] at h2
  cases b:i.zero with
  | nil=>rfl
  | cons v l=>
   cases l with
   | cons _ _=>rfl
   | nil=>
    rw [b] at h2
    cases v <;> first | rfl | cases h2
theorem Mf {α:Type} {c:Array α} {x y:α} (h:c.toList = [x,y]):c = #[x,y]:=by
 apply Array.ext'; simpa using h
theorem Pt {α:Type} {c:Array α} {x:α} (h:c.toList = [x]):c = #[x]:=by
 apply Array.ext'; simpa using h
theorem Nz {c:Call} {b:Builtin} {xs:Array Operand} {ts:Array TypeId} (h1:c.callee = .builtin b) (h2:c.args=xs) (h3:c.argTypes=ts):c = {callee:=.builtin b,args:=xs,argTypes:=ts}:=by
 cases c; simp_all
def D2 (H:Hp) (n:Nat):Prop:=∀m,n<=m->H m = .none
def J6 (P:Program) (o:Oper) (ρ:Operand->AV) (H:Hp) (n:Nat) (K:Eff->Nat->Prop):Prop :=
 ∃b m,Bv P o ρ b/\(∀p∈b.rd,H p.1=p.2)/\K b m/\n<=m/\D2 (Cd H b.wr) m
theorem Cy (b:D2 H n) {r:AV} (h:Bv P o ρ ⟨r,[],[]⟩) (k:K ⟨r,[],[]⟩ n):J6 P o ρ H n K:=⟨_,n,h,by simp,k,Nat.le_refl _,b⟩
theorem Jm (c:D2 H n) {r:AV} {x:Nat} {b:Bf} (h:Bv P o ρ ⟨r,[(x,b)],[]⟩) (hx:H x=b) (k:K ⟨r,[(x,b)],[]⟩ n):J6 P o ρ H n K :=
 ⟨_,n,h,by simpa using hx,k,Nat.le_refl _,c⟩
theorem J7 (g:D2 H n) {r:AV} {x:Nat} {c b:Bf} (h:Bv P o ρ ⟨r,[(x,c)],[(x,b)]⟩) (hx:H x=c) (f:c≠.none) (k:K ⟨r,[(x,c)],[(x,b)]⟩ n):J6 P o ρ H n K:=by
 refine ⟨_,n,h,by simpa using hx,k,Nat.le_refl _,fun m i=>?_⟩
 have j:x<n:=by
  rcases Nat.lt_or_ge x n with h | h
  .exact h
  .exact (f (hx ▸ g x h)).elim
 show Ax H x b m=_
 rw [Cr _ _ (by omega)]; exact g m i
theorem Mh (c:D2 H n) {r:AV} {b:Bf} (h:Bv P o ρ ⟨r,[(n,.none)],[(n,b)]⟩) (k:K ⟨r,[(n,.none)],[(n,b)]⟩ (n+1)):J6 P o ρ H n K:=by
 refine ⟨_,n+1,h,by simpa using c n (Nat.le_refl _),k,by omega,fun m f=>?_⟩
 show Ax H n b m=_
 rw [Cr _ _ (by omega)]; exact c m (by omega)
theorem Aox (j:D2 H n) {l:List Nat} {c:List AV} {f b:List Bf} {r:AV} (g:Po n l c f r b=true) (hh:Nv H (wrs (Df n l) 0 f))
  (h:Bv P o ρ ⟨ren (Df n l) r,wrs (Df n l) 0 f++Bz (Df n l) l.length (b.length-l.length),wrs (Df n l) 0 b⟩)
  (k:K ⟨ren (Df n l) r,wrs (Df n l) 0 f++Bz (Df n l) l.length (b.length-l.length),wrs (Df n l) 0 b⟩ (n+(b.length-l.length))):J6 P o ρ H n K:=by
 simp only [Po,Bool.and_eq_true] at g
 have s:=g.1.1.1.1.1.1
 have x:=Nat.le_of_ble_eq_true g.1.1.1.1.2
 refine ⟨_,n+(b.length-l.length),h,fun p hp=>?_,k,by omega,fun q hq=>?_⟩
 .rcases List.mem_append.1 hp with hp | hp
  .exact hh.spec p hp
  .obtain ⟨i,u,rfl⟩:=Afd hp
   refine j _ ?_
   show n<=Df n l (l.length+i)
   rw [Sd (by omega)]; omega
 .show Cd H (wrs (Df n l) 0 b) q = .none
  rw [V5 (fun i u e=>?_)]
  .exact j q (by omega)
  .rcases Nat.lt_or_ge (0+i) l.length with h1 | h1
   .have:=Ae8 s h1
    omega
   .have:=Sd (n:=n) h1
    omega
theorem Aoy (l:Ck P T) (g:D2 H n) {t:TypeId} {x:Operand} (f:o.op = .load t x) (h:Dm P T an n o ρ H K):J6 P o ρ H n K:=by
 unfold Dm at h
 rw [f] at h
 dsimp only at h
 split at h
 .rename_i i ht
  split at h
  .rename_i cs hx
   cases b:i.isAgg with
   | true=>
    rw [b] at h
    simp only [cond_true] at h
    obtain ⟨h1,h2⟩:=Ev h
    exact Cy g (Amb l f ht b hx (Nat.le_of_ble_eq_true h1)) h2
   | false=>
    rw [b] at h
    simp only [cond_false] at h
    split at h
    .exact Cy g (Ama l f ht b hx) h
    .exact h.elim
  .rename_i hd off hx
   split at h
   .rename_i E cs hh
    cases b:i.isAgg with
    | true=>
     rw [b] at h
     simp only [cond_true] at h
     obtain ⟨h1,h2⟩:=Ev h
     exact Jm g (Amd l f ht b hx (Nat.le_of_ble_eq_true h1)) hh h2
    | false=>
     rw [b] at h
     simp only [cond_false] at h
     split at h
     .rename_i c hc
      exact Jm g (Amc l f ht b hx hc) hh h
     .exact h.elim
   .exact h.elim
  .rename_i hd k q j hx
   split at h
   .rename_i E sz xs hh
    obtain ⟨y,hk,hy,h⟩:=h
    cases b:i.isAgg with
    | true=>
     rw [b] at h
     simp only [cond_true] at h
     obtain ⟨h1,h2⟩:=Ev h
     exact Jm g (Amf l f ht b hx hk hy (Nat.le_of_ble_eq_true h1)) hh h2
    | false=>
     rw [b] at h
     simp only [cond_false] at h
     split at h
     .rename_i c hc
      exact Jm g (Ame l f ht b hx hk hy hc) hh h
     .exact h.elim
   .exact h.elim
  .exact h.elim
 .exact h.elim
theorem Aoz (g:Ck P T) (f:D2 H n) {t:TypeId} {x y:Operand} (c:o.op = .store t x y) (h:Dm P T an n o ρ H K):J6 P o ρ H n K:=by
 unfold Dm at h
 rw [c] at h
 dsimp only at h
 split at h
 .rename_i i ht
  split at h
  .rename_i hd off hx
   split at h
   .rename_i E cs hh
    obtain ⟨h1,h2⟩:=Ev h
    simp only [Bool.and_eq_true] at h1
    exact J7 f (Amh g c ht hx (Nat.eq_of_beq_eq_true h1.1.1) (Nat.le_of_ble_eq_true h1.1.2) h1.2) hh (by intro e; cases e) h2
   .exact h.elim
  .rename_i hd k q j hx
   split at h
   .rename_i E sz xs hh
    obtain ⟨z,hk,l,h⟩:=h
    obtain ⟨h1,h2⟩:=Ev h
    simp only [Bool.and_eq_true] at h1
    obtain ⟨⟨⟨⟨g1,g2⟩,g3⟩,g4⟩,g5⟩:=h1
    rw [V2,Pr] at h2
    obtain ⟨s,b,h2⟩:=h2
    subst b
    exact J7 f (Amj g c ht hx hk l (Nat.eq_of_beq_eq_true g1) (Nat.le_of_ble_eq_true g2) (Nat.le_of_ble_eq_true g3) g4 (Aow g5)) hh (by intro e; cases e) h2
   .exact h.elim
  .exact h.elim
 .exact h.elim
theorem Ao0 (q:Ck P T) (g:D2 H n) {op:BinOp} {t s:TypeId} {x y:Operand} (f:o.op = .binOp op t x y s) (h:Dm P T an n o ρ H K):J6 P o ρ H n K:=by
 unfold Dm at h
 rw [f] at h
 dsimp only at h
 split at h
 .rename_i k a j b hx hy
  split at h
  .obtain ⟨c,h1,h2,h3⟩:=h
   exact Cy g (Amt f hx hy h1 h2) h3
  .obtain ⟨c,h1,h2,h3⟩:=h
   exact Cy g (Ams f hx hy h1 h2) h3
  .replace h:=Ev h; obtain ⟨hk,h⟩:=h
   have hk:k=j:=by simpa using hk
   subst hk
   split at h
   .obtain ⟨c,h1,h2⟩:=h; exact Cy g (Aml f hx hy h1) h2
   .obtain ⟨c,h1,h2⟩:=h; exact Cy g (Amm f hx hy h1) h2
   .obtain ⟨c,h1,h2⟩:=h; exact Cy g (Amn f hx hy h1) h2
   .obtain ⟨c,h1,h2,h3⟩:=h; exact Cy g (Amo f hx hy h1 h2) h3
   .obtain ⟨c,h1,h2,h3⟩:=h; exact Cy g (Amp f hx hy h1 h2) h3
   .split at h
    .rename_i l i; exact Cy g (Amq f hx hy i) h
    .split at h
     .rename_i c hc; exact Cy g (Amr f hx hy hc) h
     .exact h.elim
 .rename_i a b hx hy
  split at h
  .rename_i B A z ht
   split at h
   .rename_i l i; exact Cy g (Amw q f ht rfl hx hy i) h
   .exact h.elim
  .exact h.elim
 .rename_i xs ys hx hy
  split at h
  .rename_i u h1
   split at h
   .rename_i vs h2
    split at h
    .obtain ⟨b,hb,h⟩:=h
     exact Cy g (Ael f hx hy h1 h2 hb (.inl ⟨rfl,rfl⟩)) h
    .obtain ⟨b,hb,h⟩:=h
     exact Cy g (Ael f hx hy h1 h2 hb (.inr ⟨rfl,rfl⟩)) h
    .exact h.elim
   .exact h.elim
  .exact h.elim
 .rename_i k a j b hx hy
  replace h:=Ev h; obtain ⟨hk,h⟩:=h
  have hk:k=j:=by simpa using hk
  subst hk
  obtain ⟨c,h1,h2⟩:=h
  exact Cy g (Am3 f hx hy h1) h2
 .rename_i a b hx hy
  split at h
  .obtain ⟨h1,h2⟩:=h; exact Cy g (Amz f hx hy h1) h2
  .split at h
   .rename_i l i; exact Cy g (Amy f hx hy i) h
   .exact h.elim
 .rename_i p I G E D hx hy
  split at h
  .split at h
   .rename_i N M L J ht; exact Cy g (Amx q f ht rfl hx hy) h
   .exact h.elim
  .exact h.elim
 .exact h.elim
theorem Ao1 (q:Ck P T) (j:D2 H n) {t:TypeId} {x:Operand} {lo D:Option Operand} (g:o.op = .slice t x lo D none) (h:Dm P T an n o ρ H K):J6 P o ρ H n K:=by
 unfold Dm at h
 rw [g] at h
 dsimp only at h
 split at h
 .rename_i e B A z ht
  split at h
  .rename_i G u
   split at h
   .rename_i sz xs hx
    split at h
    .rename_i y h0 c hh
     replace h:=Ev h; obtain ⟨g1,h⟩:=h
     obtain ⟨l,i,ys,el,b,h1,h2,hy,k⟩:=h
     subst el; subst b; subst hy
     exact Cy j (Anj q g ht rfl u (Nat.eq_of_beq_eq_true g1) hx c hh h1 h2) k
    .exact h.elim
   .rename_i hd k off len hx
    split at h
    .rename_i E sz xs f
     split at h
     .rename_i y h0 c hh
      replace h:=Ev h; obtain ⟨g1,h⟩:=h
      cases h with
      | mk l i hk el b h1 h2 h3 k=>
       subst el; subst b
       exact Jm j (Anl q g ht rfl u (Nat.eq_of_beq_eq_true g1) hx hk c hh h1 h2 h3) f k
      | mkE l hk el b h2 k=>
       subst el; subst b
       exact Jm j (An8 q g ht rfl u hx hk c hh h2) f k
     .exact h.elim
    .exact h.elim
   .exact h.elim
  .exact h.elim
 .rename_i B A z ht
  split at h
  .rename_i s hx
   split at h
   .rename_i y h0 c hh
    obtain ⟨l,i,el,b,h1,h2,k⟩:=h
    subst el; subst b
    exact Cy j (Ank q g ht rfl hx c hh h1 h2) k
   .exact h.elim
  .exact h.elim
 .exact h.elim
theorem Ao2 (B:Ck P T) (A:D2 H n) {c:Call} (u:o.op = .call c) (h:Dm P T an n o ρ H K):J6 P o ρ H n K:=by
 unfold Dm at h
 rw [u] at h
 dsimp only at h
 split at h
 .rename_i x i
  split at h
  .rename_i f ae hx
   split at h
   .rename_i j ai
    split at h
    .rename_i hd k len hj
     split at h
     .rename_i E sz xs hh
      obtain ⟨hk,I,r,hp,hf,h⟩:=h
      subst hk
      rw [<-I] at hj
      exact J7 A (Aos u i hx hj hp hf) hh (by intro e; cases e) h
     .exact h.elim
    .exact h.elim
   .cases h with
    | mk r hp hf k=>exact Cy A (Aor u i hx hp hf) k
    | act l ac hs r ah hp ha ok hh k=>exact Aox A ok hh (Aov u i hx hp ha ok) k
  .exact h.elim
 .exact h.elim
 .rename_i i
  split at h
  .rename_i x t ha z
   rw [Nz i (Pt ha) (Pt z)] at u
   split at h
   .rename_i e Z Y X ht
    split at h
    .rename_i sz xs hx
     split at h
     .obtain ⟨c,hc,h⟩:=h
      subst hc
      exact Cy A (Ad8 B u ht rfl hx) h
     .exact Cy A (Ad8 B u ht rfl hx) h
    .rename_i p m cap hx; exact Cy A (Ana B u ht rfl hx) h
    .rename_i hd k off len hx
     split at h
     .rename_i E sz xs hh
      obtain ⟨hk,h⟩:=h
      exact Jm A (Ane B u ht rfl hx hk) hh h
     .exact h.elim
    .exact h.elim
   .rename_i Z Y X ht
    split at h
    .rename_i s hx; exact Cy A (Anc B u ht rfl hx) h
    .exact h.elim
   .exact h.elim
  .exact h.elim
 .rename_i i
  split at h
  .rename_i x t ha z
   rw [Nz i (Pt ha) (Pt z)] at u
   split at h
   .rename_i e Z Y X ht
    split at h
    .rename_i p m cap hx; exact Cy A (Anb B u ht rfl hx) h
    .exact h.elim
   .exact h.elim
  .exact h.elim
 .rename_i i
  split at h
  .rename_i x y t t' ha z
   rw [Nz i (Mf ha) (Mf z)] at u
   split at h
   .rename_i e Z Y X ht
    split at h
    .rename_i i' J
     split at h
     .rename_i h2 k2 a6 a7 hy
      split at h
      .rename_i hd k off len hx
       split at h
       .rename_i E sz xs hh
        replace h:=Ev h; obtain ⟨g5,h⟩:=h
        simp only [Bool.and_eq_true] at g5
        have L:=Nat.eq_of_beq_eq_true g5.1.1.1
        have N:=Nat.eq_of_beq_eq_true g5.1.1.2
        have e3:=Nat.eq_of_beq_eq_true g5.1.2
        have e4:0<i'.size:=Nat.le_of_ble_eq_true g5.2
        subst L; subst N; subst e3
        obtain ⟨V,c,hk,I,S,R,G,hc,k⟩:=h
        subst G; subst hc
        exact J7 A (An6 B u ht rfl J e4 hx hk I hy S R) hh (by intro e; cases e) k
       .exact h.elim
      .rename_i q hx
       split at h
       .rename_i E sz xs hh
        replace h:=Ev h; obtain ⟨g5,h⟩:=h
        have L:=Nat.eq_of_beq_eq_true g5
        subst L
        obtain ⟨hk,k⟩:=h
        exact Jm A (An7 B u ht rfl J hx hy hk) hh k
       .exact h.elim
      .exact h.elim
     .exact h.elim
    .exact h.elim
   .exact h.elim
  .exact h.elim
 .rename_i i
  split at h
  .rename_i x t ha z
   rw [Nz i (Pt ha) (Pt z)] at u
   split at h
   .rename_i e Z Y X ht
    split at h
    .rename_i i' J
     split at h
     .rename_i hd k off len hx
      split at h
      .rename_i E sz xs hh
       replace h:=Ev h; obtain ⟨g5,h⟩:=h
       simp only [Bool.and_eq_true] at g5
       have L:=Nat.eq_of_beq_eq_true g5.1.1.1.1.1
       have N:=Nat.eq_of_beq_eq_true g5.1.1.1.1.2
       have e3:0<i'.size:=Nat.le_of_ble_eq_true g5.1.1.1.2
       subst L; subst N
       obtain ⟨V,hk,I,G,k⟩:=h
       subst G
       exact J7 A (An9 B u ht rfl J e3 g5.1.1.2 (Aaf g5.1.2 g5.2 g5.1.1.2) hx hk I) hh (by intro e; cases e) k
      .exact h.elim
     .rename_i q hx; exact Cy A (Aoa B u ht rfl hx) h
     .exact h.elim
    .exact h.elim
   .exact h.elim
  .exact h.elim
 .rename_i i
  split at h
  .rename_i x y t t' ha z
   rw [Nz i (Mf ha) (Mf z)] at u
   split at h
   .rename_i e Z Y X e' ab aa a8 ht D
    split at h
    .rename_i i' J
     replace h:=Ev h; obtain ⟨g,h⟩:=h
     simp only [Bool.and_eq_true] at g
     obtain ⟨⟨g1,g2⟩,g3⟩:=g
     have g1:0<i'.size:=Nat.le_of_ble_eq_true g1
     have g2:=Nat.eq_of_beq_eq_true g2
     have g3:=Nat.le_of_ble_eq_true g3
     split at h
     .rename_i sz ys hy
      replace h:=Ev h; obtain ⟨g4,h⟩:=h
      have g4:=Nat.eq_of_beq_eq_true g4
      subst g4
      split at h
      .rename_i hd k len hx
       split at h
       .rename_i E a1 xs hh
        replace h:=Ev h; obtain ⟨g5,h⟩:=h
        simp only [Bool.and_eq_true] at g5
        have L:=Nat.eq_of_beq_eq_true g5.1
        have N:=Nat.eq_of_beq_eq_true g5.2
        subst L; subst N
        cases h with
        | mk V m hk I hb G M k=>
         subst I; subst G; subst M
         exact J7 A (Ant B u ht rfl D rfl J g1 g2 g3 hx hk hy hb) hh (by intro e; cases e) k
        | mkP V k' m hk I hb G U M k=>
         subst G; subst M; subst U
         exact J7 A (An2 B u ht rfl D rfl J g1 g2 g3 hx hk I hy hb) hh (by intro e; cases e) k
       .exact h.elim
      .rename_i hx
       obtain ⟨V,m,hb,G,M,k⟩:=h
       subst G; subst M
       exact Mh A (Anx B n u ht rfl D rfl J g1 g2 g3 hx hy hb) k
      .rename_i ag af hx
       obtain ⟨ad,k⟩:=h
       subst ad
       exact Cy A (An4 B u ht rfl D rfl J g1 hx hy) k
      .exact h.elim
     .rename_i h2 k2 a6 a7 hy
      split at h
      .rename_i hd k len hx
       split at h
       .rename_i E a1 xs hh
        replace h:=Ev h; obtain ⟨g5,h⟩:=h
        simp only [Bool.and_eq_true] at g5
        have L:=Nat.eq_of_beq_eq_true g5.1.1
        have N:=Nat.eq_of_beq_eq_true g5.1.2
        have e3:=Nat.eq_of_beq_eq_true g5.2
        subst L; subst N; subst e3
        obtain ⟨V,k',m,hk,I,S,R,hb,G,U,M,k⟩:=h
        subst G; subst M; subst U
        exact J7 A (An5 B u ht rfl D rfl J g1 g2 g3 hx hk I hy S R hb) hh (by intro e; cases e) k
       .exact h.elim
      .exact h.elim
     .exact h.elim
    .exact h.elim
   .rename_i e Z Y X ab aa a8 ht D
    split at h
    .rename_i i' J
     replace h:=Ev h; obtain ⟨g,h⟩:=h
     simp only [Bool.and_eq_true] at g
     obtain ⟨⟨g1,g2⟩,g3⟩:=g
     have g1:=Nat.eq_of_beq_eq_true g1
     have g2:=Nat.eq_of_beq_eq_true g2
     have g3:=Nat.le_of_ble_eq_true g3
     split at h
     .rename_i s hy
      split at h
      .rename_i hd k len hx
       split at h
       .rename_i E a1 xs hh
        replace h:=Ev h; obtain ⟨g5,h⟩:=h
        simp only [Bool.and_eq_true] at g5
        have L:=Nat.eq_of_beq_eq_true g5.1
        have N:=Nat.eq_of_beq_eq_true g5.2
        subst L; subst N
        obtain ⟨_,_,_,_,_,_,_,_,_,k⟩ | ⟨V,m,hk,I,hb,G,M,k⟩:=h
        .exact k.elim
        subst I; subst G; subst M
        exact J7 A (Anw B u ht rfl D rfl J g1 g2 g3 hx hk hy hb) hh (by intro e; cases e) k
       .exact h.elim
      .exact h.elim
     .exact h.elim
    .exact h.elim
   .exact h.elim
  .exact h.elim
 .rename_i i
  split at h
  .rename_i x y t t' ha z
   rw [Nz i (Mf ha) (Mf z)] at u
   split at h
   .rename_i k a k' b hx hy
    exact Cy A (An0 u hx hy) h
   .exact h.elim
  .exact h.elim
 .rename_i i
  split at h
  .rename_i x y t t' ha z
   rw [Nz i (Mf ha) (Mf z)] at u
   split at h
   .rename_i k a k' b hx hy
    exact Cy A (An1 u hx hy) h
   .exact h.elim
  .exact h.elim
 .exact h.elim
theorem Afe (B:Ck P T) (A:D2 H n) (h:Dm P T an n o ρ H K):J6 P o ρ H n K:=by
 cases u:o.op with
 | load t x=>exact Aoy B A u h
 | store t x y=>exact Aoz B A u h
 | binOp op t x y yt=>exact Ao0 B A u h
 | call c=>exact Ao2 B A u h
 | slice t x lo R mx=>
  cases mx with
  | none=>exact Ao1 B A u h
  | some m=>unfold Dm at h; rw [u] at h; exact h.elim
 | move x=>unfold Dm at h; rw [u] at h; exact Cy A (Al6 u) h
 | assign x=>
  unfold Dm at h; rw [u] at h; dsimp only at h
  split at h
  .exact Cy A (R6 u) h
  .split at h
   .exact Cy A (R6 u) h
   .exact Cy A (R6 u) h
   .exact Cy A (R6 u) h
   .cases hb:Jl (ρ x) with
    | false=>rw [hb] at h; exact Cy A (R6 u) h
    | true=>
     rw [hb] at h
     simp only [cond_true] at h
     split at h
     .rename_i e I G J ht
      split at h
      .rename_i U D
       replace h:=Ev h; obtain ⟨g1,h⟩:=h
       exact Mh A (Anz B n u (V6 hb) ht rfl D (Nat.le_of_ble_eq_true g1)) h
      .exact h.elim
     .exact h.elim
 | pick c a b=>
  unfold Dm at h; rw [u] at h; dsimp only at h
  split at h
  .rename_i t hc; exact Cy A (Al7 u hc) h
  .exact h.elim
 | alloc t=>
  unfold Dm at h; rw [u] at h; dsimp only at h
  split at h
  .rename_i i ht; exact Mh A (Al8 B n u ht) h
  .exact h.elim
 | box t x=>unfold Dm at h; rw [u] at h; exact Mh A (Al9 n u) h
 | build t parts=>
  unfold Dm at h; rw [u] at h; dsimp only at h
  split at h
  .rename_i fs I G z ht
   split at h
   .rename_i cs hc; exact Cy A (Anm B u ht rfl hc) h
   .exact h.elim
  .exact h.elim
 | buildSlice t len parts=>
  unfold Dm at h; rw [u] at h; dsimp only at h
  split at h
  .rename_i e I G J ht
   split at h
   .rename_i U D
    replace h:=Ev h; obtain ⟨g,h⟩:=h
    simp only [Bool.and_eq_true] at g
    obtain ⟨⟨⟨g1,g2⟩,g3⟩,g4⟩:=g
    have g2:parts.toList.map (·.1)=List.range' 0 len:=by simpa using g2
    have g4:∀p∈parts.toList,Ir U.size (ρ p.2)=true:=List.all_eq_true.1 g4
    split at h
    .exact h.elim
    .rw [V3] at h
     exact Cy A (Aed B u ht rfl D (Nat.le_of_ble_eq_true g1) g2 (Nat.le_of_ble_eq_true g3) g4) h
    .rw [V3] at h
     exact Cy A (Aed B u ht rfl D (Nat.le_of_ble_eq_true g1) g2 (Nat.le_of_ble_eq_true g3) g4) h
    .rw [V3] at h
     exact Mh A (Anp B n u ht rfl D (Nat.le_of_ble_eq_true g1) g2 (Nat.le_of_ble_eq_true g3) g4) h
   .exact h.elim
  .exact h.elim
 | nilCheck x=>
  unfold Dm at h; rw [u] at h; dsimp only at h
  replace h:=Ev h; obtain ⟨g1,h⟩:=h
  exact Cy A (Amk u g1) h
 | unOp op t x=>
  unfold Dm at h; rw [u] at h; dsimp only at h
  split at h
  .rename_i b hx; exact Cy A (Am0 u hx) h
  .rename_i k m hx
   obtain ⟨c,h1,h2⟩:=h
   exact Cy A (Am1 u hx h1) h2
  .exact h.elim
 | convert s d x=>
  unfold Dm at h; rw [u] at h; dsimp only at h
  split at h
  .rename_i i k I G J M m hs hd hx
   obtain ⟨c,h1,h2⟩:=h
   exact Cy A (Am2 B u hs hd rfl hx h1) h2
  .rename_i v0 k0 I G J k1 m h1 h2 hx
   exact Cy A (Am4 B u h1 h2 rfl hx) h
  .rename_i v0 k0 I G J q m h1 h2 hx
   obtain ⟨c,g1,g2⟩:=h
   exact Cy A (Am5 B u h1 h2 rfl hx g1) g2
  .exact h.elim
 | makeFunc fn first Z=>
  cases fn with
  | func f=>
   unfold Dm at h; rw [u] at h; dsimp only at h
   replace h:=Ev h; obtain ⟨g1,h⟩:=h
   have:first = #[]:=by simpa using g1
   subst this
   exact Cy A (Ani u) h
  | _=>unfold Dm at h; rw [u] at h; exact h.elim
 | makeSlice t x y=>
  unfold Dm at h; rw [u] at h; dsimp only at h
  split at h
  .rename_i e I G J ht
   split at h
   .rename_i U D
    split at h
    .rename_i k l M c hx hy
     replace h:=Ev h; obtain ⟨g,h⟩:=h
     simp only [Bool.and_eq_true] at g
     obtain ⟨⟨⟨g1,g2⟩,g3⟩,g4⟩:=g
     rcases h with ⟨l',c',zs,el,ec,h1,h2,h3,S,k⟩ | ⟨z',X,l',c',zs,el,ec,h1,h2,h3,S,k⟩
     .subst el; subst ec; subst S
      exact Mh A (Anq B n u ht rfl D (Nat.le_of_ble_eq_true g1) hx hy h1 h2 h3 g2 (Aaf g3 g4 g2)) k
     .subst el; subst ec; subst S
      exact Mh A (Anr B z' n u ht rfl D (Nat.le_of_ble_eq_true g1) hx hy h1 h2 h3 g2 (Aaf g3 g4 g2) X) k
    .exact h.elim
   .exact h.elim
  .exact h.elim
 | fieldAddr s x f=>
  unfold Dm at h; rw [u] at h; dsimp only at h
  split at h
  .rename_i fs I G J ht
   split at h
   .rename_i q hf
    split at h
    .rename_i hd off hx; exact Cy A (Am7 B u ht rfl hf hx) h
    .rename_i cs hx; exact Cy A (Am8 B u ht rfl hf hx) h
    .rename_i hd k m j hx
     split at h
     .rename_i E sz xs hh
      obtain ⟨hk,h⟩:=h
      exact Jm A (Am9 B u ht rfl hf hx hk) hh h
     .exact h.elim
    .exact h.elim
   .exact h.elim
  .exact h.elim
 | indexAddr t x y=>
  unfold Dm at h; rw [u] at h; dsimp only at h
  split at h
  .rename_i e I G J ht
   split at h
   .rename_i U D
    split at h
    .rename_i sz xs k i hx hy
     replace h:=Ev h; obtain ⟨g1,h⟩:=h
     obtain ⟨m,z,R,S,M⟩:=h
     subst R
     exact Cy A (Anf B u ht rfl D (Nat.eq_of_beq_eq_true g1) hx hy S) M
    .rename_i hd k off len kk i hx hy
     split at h
     .rename_i E sz xs hh
      replace h:=Ev h; obtain ⟨g1,h⟩:=h
      obtain ⟨m,hk,R,hm,M⟩:=h
      subst R
      exact Jm A (Ang B u ht rfl D hx hk hy hm (Nat.eq_of_beq_eq_true g1)) hh M
     .exact h.elim
    .exact h.elim
   .exact h.elim
  .exact h.elim
 | index t x y=>
  unfold Dm at h; rw [u] at h; dsimp only at h
  split at h
  .rename_i I G J ht
   split at h
   .rename_i s k i hx hy
    obtain ⟨m,c,R,hc,M⟩:=h
    subst R
    exact Cy A (Anh B u ht rfl hx hy hc) M
   .exact h.elim
  .exact h.elim
 | field t x f=>
  unfold Dm at h; rw [u] at h; dsimp only at h
  split at h
  .rename_i fs I G J ht
   split at h
   .rename_i q hq
    split at h
    .rename_i cs hx
     obtain ⟨ft,hf,h⟩:=h
     split at h
     .rename_i V D
      cases L:V.isAgg with
      | true=>
       rw [L] at h
       simp only [cond_true] at h
       obtain ⟨h1,h2⟩:=Ev h
       exact Cy A (Aem B u ht rfl hq hf D hx (.inl ⟨L,Nat.le_of_ble_eq_true h1,rfl⟩)) h2
      | false=>
       rw [L] at h
       simp only [cond_false] at h
       split at h
       .rename_i c hc
        exact Cy A (Aem B u ht rfl hq hf D hx (.inr ⟨L,hc⟩)) h
       .exact h.elim
     .exact h.elim
    .exact h.elim
   .exact h.elim
  .exact h.elim
 | makeMap t r=>
  cases r with
  | none=>unfold Dm at h; rw [u] at h; exact Mh A (Aoc n u) h
  | some q=>unfold Dm at h; rw [u] at h; exact h.elim
 | lookup t x y ok=>
  unfold Dm at h; rw [u] at h; dsimp only at h
  split at h
  .rename_i kt et I G J ht
   split at h
   .rename_i q1 q2 q3 hk
    split at h
    .rename_i V D
     split at h
     .rename_i hd hx
      split at h
      .rename_i s hy
       split at h
       .rename_i es hh
        obtain ⟨r,N,h⟩:=h
        exact Jm A (Aod B u ht rfl hk rfl D hx hy N) hh h
       .exact h.elim
      .exact h.elim
     .exact h.elim
    .exact h.elim
   .split at h
    .rename_i V D
     split at h
     .rename_i hd hx
      split at h
      .rename_i ks hy
       split at h
       .rename_i us hu
        split at h
        .rename_i es hh
         obtain ⟨r,hc,N,h⟩:=h
         exact Jm A (Aof B u ht rfl D hx hy hu hc N) hh h
        .exact h.elim
       .exact h.elim
      .exact h.elim
     .exact h.elim
    .exact h.elim
   .exact h.elim
  .exact h.elim
 | mapUpdate t x y z=>
  unfold Dm at h; rw [u] at h; dsimp only at h
  split at h
  .rename_i kt et I G J ht
   split at h
   .rename_i q1 q2 q3 hk
    split at h
    .rename_i hd hx
     split at h
     .rename_i s hy
      split at h
      .rename_i es hh
       obtain ⟨g1,h⟩:=Ev h
       rw [Pr] at h
       obtain ⟨Y,N,h⟩:=h
       exact J7 A (Aoe B u ht rfl hk rfl hx hy g1 N) hh (by intro e; cases e) h
      .exact h.elim
     .exact h.elim
    .exact h.elim
   .split at h
    .rename_i hd hx
     split at h
     .rename_i ks hy
      split at h
      .rename_i us hu
       split at h
       .rename_i es hh
        obtain ⟨g1,h⟩:=Ev h
        rw [Pr] at h
        obtain ⟨Y,hc,N,rfl,h⟩:=h
        exact J7 A (Aog B u ht rfl hx hy hu g1 hc N) hh (by intro e; cases e) h
       .exact h.elim
      .exact h.elim
     .exact h.elim
    .exact h.elim
   .exact h.elim
  .exact h.elim
 | extract x i=>
  unfold Dm at h; rw [u] at h; dsimp only at h
  split at h
  .rename_i cs hx
   split at h
   .rename_i c hc; exact Cy A (Am6 u hx hc) h
   .exact h.elim
  .exact h.elim
 | _=>unfold Dm at h; rw [u] at h; exact h.elim
end
end Go.Ab
namespace Go.Ab
theorem Ew {t:Bool} {A B:Prop} (h:t=true) (k:A):bif t then A else B:=by rw [h]; exact k
theorem Aag {t:Bool} {A B:Prop} (h:t=false) (k:B):bif t then A else B:=by rw [h]; exact k
abbrev Gi:=List (List Nat×List Nat)
def Jn (l:List (Nat×Nat)):Nat->List AV->List AV
 | _,[]=>[]
 | i,x::xs=>(bif Jl x then (match l.lookup i with | some sz=>.sl sz [] | none=>x) else x)::Jn l (i+1) xs
def elN (l:List (Nat×Nat)) (x:AV):AV :=
 match x with
 | .val (.agg vs)=>.agg (Jn l 1000 (vs.toList.map .val))
 | .agg cs=>.agg (Jn l 1000 cs)
 | x=>x
def Jo (l:List (Nat×Nat)) (x:AV):AV :=
 match l with
 | []=>x
 | p::l=>
  match x with
  | .sl sz xs=>bif Nat.ble 1000 p.1 then .sl sz (xs.map (elN (p::l))) else .sl sz xs
  | .agg cs=>.agg (Jn (p::l) 0 cs)
  | x=>bif Jl x then .sl p.2 [] else x
def J8 (nl:Nat->List (Nat×Nat)):Option Nat->List (Nat×Nat)
 | none=>[]
 | some d=>nl d
theorem V7 {σ:Aq} {ι:Bm} {H:Hp} {x:AV} {v:Value} {sz:Nat} (hx:Jl x=true) (h:Conc σ ι H x v):Conc σ ι H (.sl sz []) v:=by
 rw [V6 hx] at h
 rw [h.val_inv]
 exact .cc (.nil sz none 0)
theorem Aah {l:List (Nat×Nat)}:∀{cs:List AV} {i k:Nat} {c:AV},(Jn l k cs)[i]? = some c->∃b,cs[i]? = some b/\(c=b\/(Jl b=true/\∃sz,c = .sl sz []))
 | [],i,k,c,h=>by simp [Jn] at h
 | x::xs,0,k,c,h=>by
  simp only [Jn,List.getElem?_cons_zero,Option.some.injEq] at h
  refine ⟨x,rfl,?_⟩
  cases hx:Jl x with
  | false=>rw [hx] at h; exact .inl h.symm
  | true=>
   rw [hx] at h
   simp only [cond_true] at h
   split at h
   .rename_i sz _; exact .inr ⟨rfl,sz,h.symm⟩
   .exact .inl h.symm
 | x::xs,i+1,k,c,h=>by
  simp only [Jn,List.getElem?_cons_succ] at h
  obtain ⟨b,h1,h2⟩:=Aah h
  exact ⟨b,by simpa using h1,h2⟩
theorem Aai {l:List (Nat×Nat)}:∀{cs:List AV} {k:Nat},(Jn l k cs).length=cs.length
 | [],_=>rfl
 | x::xs,k=>by simp only [Jn,List.length_cons,Aai]
theorem Ao3 {l:List (Nat×Nat)} {σ:Aq} {x:AV}:(elN l x).cells.length=x.cells.length/\∀(j:Nat) (c b:AV) (u:Value),x.cells[j]? = some c->(elN l x).cells[j]? = some b->CC σ c u->CC σ b u:=by
 have key:∀cs:List AV,(Jn l 1000 cs).length=cs.length/\∀(j:Nat) (c b:AV) (u:Value),cs[j]? = some c->(Jn l 1000 cs)[j]? = some b->CC σ c u->CC σ b u:=by
  intro cs
  refine ⟨Aai,fun j c b u h1 h2 h3=>?_⟩
  obtain ⟨f,g1,rfl | ⟨g2,sz,rfl⟩⟩:=Aah h2
  .rw [h1] at g1; cases g1; exact h3
  .rw [h1] at g1; cases g1
   rw [V6 g2] at h3
   cases h3
   exact .nil sz none 0
 unfold elN
 split
 .exact key _
 .exact key _
 .exact ⟨rfl,fun j c b u h1 h2 h3=>by rw [h1] at h2; cases h2; exact h3⟩
theorem CC.mapEl {σ:Aq} {sz:Nat} {xs:List AV} {v:Value} (f:AV->AV) (D:∀x,(f x).cells.length=x.cells.length/\∀(j:Nat) (c k:AV) (u:Value),x.cells[j]? = some c->(f x).cells[j]? = some k->CC σ c u->CC σ k u) (h:CC σ (.sl sz xs) v):CC σ (.sl sz (xs.map f)) v:=by
 cases h with
 | nil sz a cap=>exact .nil sz a cap
 | sl _ b off cap _ C E fr g G I hc h1 M J s=>
  have q:(xs.map f).length=xs.length:=by simp
  have l:∀(i:Nat) (y:AV) (j:Nat) (k:AV),(xs.map f)[i]? = some y->y.cells[j]? = some k->∃x c,xs[i]? = some x/\x.cells[j]? = some c/\y=f x:=by
   intro i y j k g1 g2
   rw [List.getElem?_map] at g1
   cases hx:xs[i]? with
   | none=>rw [hx] at g1; cases g1
   | some x=>
    rw [hx] at g1; cases g1
    have B:j<x.cells.length:=by rw [<-(D x).1]; exact (List.getElem?_eq_some_iff.1 g2).1
    exact ⟨x,x.cells[j],rfl,List.getElem?_eq_getElem B,rfl⟩
  rw [<-q]
  refine .sl (xs.map f) b off cap sz C E fr g G ?_ ?_ ?_ (fun i j L B=>M i j (by simpa using L) B) (by simpa using J) (by simpa using s)
  .intro i y hy
   rw [List.getElem?_map] at hy
   cases hx:xs[i]? with
   | none=>rw [hx] at hy; cases hy
   | some x=>rw [hx] at hy; cases hy; rw [(D x).1]; exact I i x hx
  .intro i y j k g1 g2
   obtain ⟨x,c,A,z,rfl⟩:=l i y j k g1 g2
   exact (D x).2 j c k _ z g2 (hc i x j c A z)
  .intro i y j k g1 g2
   obtain ⟨x,c,A,z,rfl⟩:=l i y j k g1 g2
   exact h1 i x j c A z
theorem Ao4 {l:List (Nat×Nat)} {σ:Aq} {ι:Bm} {H:Hp} {x:AV} {v:Value} (h:Conc σ ι H x v):Conc σ ι H (Jo l x) v:=by
 unfold Jo
 split
 .exact h
 .split
  .rename_i _ p l _ sz xs
   cases hb:Nat.ble 1000 p.1 with
   | false=>exact h
   | true=>exact .cc (h.sl_inv.mapEl _ fun x=>Ao3)
  .rename_i cs
   obtain ⟨vs,rfl,f,b⟩:=h.agg_inv
   refine .agg _ vs (by rw [Aai]; exact f) fun i c u h1 h2=>?_
   obtain ⟨j,h3,rfl | ⟨g,sz,rfl⟩⟩:=Aah h1
   .exact b i _ u h3 h2
   .exact V7 g (b i _ u h3 h2)
  .cases hx:Jl x with
   | false=>exact h
   | true=>exact V7 hx h
theorem Bv.nils {P:Program} {o:Oper} {ρ:Operand->AV} {b:Eff} (l:List (Nat×Nat)) (h:Bv P o ρ b):Bv P o ρ ⟨Jo l b.r,b.rd,b.wr⟩ :=
 fun σ ι H F W w a next Q s hx g hk=>h σ ι H F W w a next Q s hx g fun c f v w' le s' hc=>hk c f v w' le s' (Ao4 hc)
def Hi (e:Bj) (d:Option Nat) (r:AV) (H:Hp) (b:List (Nat×Bf)) (K:Bj->Hp->Prop):Prop :=
 match d with
 | none=>
  (match b with
  | []=>K e H
  | [p]=>K e (Ax H p.1 p.2)
  | p::q::l=>K e (Cd H (p::q::l)))
 | some t=>
  (match b with
  | []=>K (Ax e t r) H
  | [p]=>K (Ax e t r) (Ax H p.1 p.2)
  | p::q::l=>K (Ax e t r) (Cd H (p::q::l)))
theorem V8 (e:Bj) (d:Option Nat) (r:AV) (H:Hp) (b:List (Nat×Bf)) (K:Bj->Hp->Prop):Hi e d r H b K=K (put e d r) (Cd H b):=by
 cases d <;> cases b with
 | nil=>rfl
 | cons p l=>cases l <;> rfl
def Hj (P:Program) (T:Cj) (an:Nat->Ann) (nl:Nat->List (Nat×Nat)) (ops:Array Oper):List Oper->List Nat->Nat->Bj->Hp->Gi->(Nat->Bj->Hp->Gi->Prop)->Prop
 | [],_,n,e,H,acc,K=>K n e H acc
 | o::os,f,n,e,H,acc,K=>
  match o.guard with
  | none=>Dm P T an n o (ev e) H fun c m=>Iu (Jo (J8 nl o.dst) c.r) fun r=>K0 c.wr fun wr=>G2 c.rd fun h=>G2 wr fun g=>Hi e o.dst r H wr fun e H=>Hj P T an nl ops os f m e H (acc++[(h,g)]) K
  | some p=>
   match (ops[p.1]?).bind (·.dst) with
   | none=>False
   | some s=>
    match e s with
    | .val (.bool b)=>
     match f.elem s with
     | true=>
      (match b with
      | true=>
       (match p.2 with
       | true=>Dm P T an n o (ev e) H fun c m=>Iu (Jo (J8 nl o.dst) c.r) fun r=>K0 c.wr fun wr=>G2 c.rd fun h=>G2 wr fun g=>Hi e o.dst r H wr fun e H=>Hj P T an nl ops os f m e H (acc++[(h,g)]) K
       | false=>Hi e o.dst (.val undef) H [] fun e H=>Hj P T an nl ops os f n e H (acc++[([],[])]) K)
      | false=>
       (match p.2 with
       | true=>Hi e o.dst (.val undef) H [] fun e H=>Hj P T an nl ops os f n e H (acc++[([],[])]) K
       | false=>Dm P T an n o (ev e) H fun c m=>Iu (Jo (J8 nl o.dst) c.r) fun r=>K0 c.wr fun wr=>G2 c.rd fun h=>G2 wr fun g=>Hi e o.dst r H wr fun e H=>Hj P T an nl ops os f m e H (acc++[(h,g)]) K))
     | false=>
      bif b then
       (match p.2 with
       | true=>Dm P T an n o (ev (Ax e s (.val (.bool true)))) H fun c m=>Iu (Jo (J8 nl o.dst) c.r) fun r=>K0 c.wr fun wr=>G2 c.rd fun h=>G2 wr fun g=>Hi (Ax e s (.val (.bool true))) o.dst r H wr fun e H=>Hj P T an nl ops os (s::f) m e H (acc++[(h,g)]) K
       | false=>Hi (Ax e s (.val (.bool true))) o.dst (.val undef) H [] fun e H=>Hj P T an nl ops os (s::f) n e H (acc++[([],[])]) K)
      else
       (match p.2 with
       | true=>Hi (Ax e s (.val (.bool false))) o.dst (.val undef) H [] fun e H=>Hj P T an nl ops os (s::f) n e H (acc++[([],[])]) K
       | false=>Dm P T an n o (ev (Ax e s (.val (.bool false)))) H fun c m=>Iu (Jo (J8 nl o.dst) c.r) fun r=>K0 c.wr fun wr=>G2 c.rd fun h=>G2 wr fun g=>Hi (Ax e s (.val (.bool false))) o.dst r H wr fun e H=>Hj P T an nl ops os (s::f) m e H (acc++[(h,g)]) K)
    | .val (.tuple _)=>Hi e o.dst (.val undef) H [] fun e H=>Hj P T an nl ops os f n e H (acc++[([],[])]) K
    | _=>False
inductive J9 (ops:List Oper) (acc:Gi) (K:Prop):Prop where
 | mk (h:Z0 ops acc=true) (k:K)
inductive Ex where
 | normal
 | exit (id:Nat)
 | ret
def Fm (e:Bj):List (Nat×AV)->Prop
 | []=>True
 | p::l=>e p.1=p.2/\Fm e l
def Fo (H H':Hp):Nat->Nat->Prop
 | 0,_=>True
 | k+1,n=>(H k=H' k/\(H' k).under n=true)/\Fo H H' k n
def H4 (b:List Nat) (e:Bj) (u:Nat->Value) (l:List (Nat×AV)):Bj:=l.foldr (fun p e=>Ax e p.1 p.2) (b.foldr (fun s e=>Ax e s (.val (u s))) e)
def Iv (n:Nat) (b:List (Nat×AV)) (c:List (Nat×Bf)):Bool:=(b.all fun p=>p.2.under n)&&c.all fun p=>Nat.blt p.1 n
inductive Ao5 (n:Nat) (ws:List Nat) (e:Bj) (H:Hp) (body:(Nat->Bj->Hp->Prop)->Nat->Bj->Hp->Prop):Prop where
 | mk (I:Type) (inv:I->Prop) (iv:I->List (Nat×AV)) (hv:I->List (Nat×Bf)) (m:I->Nat) (i0:I) (hb:∀i,Iv n (iv i) (hv i)=true)
   (h0:inv i0) (hs:Fm e (iv i0)) (hh:Fo H (Cd H (hv i0)) n n)
   (step:∀(i:I) (u:Nat->Value),inv i->body (fun _ e' H'=>∃i',inv i'/\Fm e' (iv i')/\Fo H' (Cd H (hv i')) n n/\m i' < m i) n (H4 ws e u (iv i)) (Cd H (hv i)))
def Ec:Code->List Nat
 | .region _ ops _=>ops.toList.filterMap (·.dst)
 | .seq a b=>Ec a++Ec b
 | .cond _ a b=>Ec a++Ec b
 | .block _ b=>Ec b
 | .loop b=>Ec b
 | .scope b=>Ec b
 | _=>[]
def V9:List Nat->Bj->Hp->(Bj->Hp->Prop)->Prop
 | [],e,H,K=>K e H
 | s::b,e,H,K=>
  match e s with
  | .arr h k 0 len=>
   match H h with
   | .rows _ sz xs=>Fa k xs (Fa len xs (V9 b (Ax e s (.sl sz xs)) (Ax H h .dead) K))
   | _=>False
  | _=>False
structure Cfg where
 T:Cj
 an:Nat->Ann:=fun _=>.std
 gh:Nat->List Nat:=fun _=>[]
 nl:Nat->List (Nat×Nat):=fun _=>[]
def Aff (x:AV) (A B:Prop):Prop :=
 match x with
 | .val (.bool t)=>bif t then A else B
 | _=>False
def vc (P:Program) (C:Cfg):Code->(Ex->Nat->Bj->Hp->Prop)->Nat->Bj->Hp->Prop
 | .skip,Q,n,e,H=>Q .normal n e H
 | .region id ops draw,Q,n,e,H=>V9 (C.gh id) e H fun e H=>
   Hj P C.T C.an C.nl ops ops.toList [] n e H [] fun n e H acc=>bif draw then J9 ops.toList acc (Q .normal n e H) else Q .normal n e H
 | .seq a b,Q,n,e,H=>vc P C a (fun x n e H=>match x with
   | .normal=>vc P C b Q n e H
   | .exit id=>Q (.exit id) n e H
   | .ret=>Q .ret n e H) n e H
 | .cond c a b,Q,n,e,H=>Aff (ev e c) (vc P C a Q n e H) (vc P C b Q n e H)
 | .block id b,Q,n,e,H=>vc P C b (fun x n e H=>match x with
   | .normal=>Q .normal n e H
   | .exit i=>bif Nat.beq i id then Q .normal n e H else Q (.exit i) n e H
   | .ret=>Q .ret n e H) n e H
 | .loop b,Q,n,e,H=>Ao5 n (Ec b) e H fun K n e H=>vc P C b (fun x n e H=>match x with
   | .normal=>K n e H
   | .exit id=>Q (.exit id) n e H
   | .ret=>Q .ret n e H) n e H
 | .exit id,Q,n,e,H=>Q (.exit id) n e H
 | .ret,Q,n,e,H=>Q .ret n e H
 | _,_,_,_,_=>False
def Afg (N:Nat) (x:Operand):Bool :=
 match x with
 | .tmp t=>Nat.blt t N
 | _=>true
def Hk (N:Nat):Code->Bool
 | .region _ ops _=>ops.toList.all fun o=>(It ops o).all fun s=>Nat.blt s N
 | .seq a b=>Hk N a&&Hk N b
 | .cond c a b=>Afg N c&&Hk N a&&Hk N b
 | .block _ b=>Hk N b
 | .loop b=>Hk N b
 | .scope b=>Hk N b
 | _=>true
def Ex.out:Ex->Exit
 | .normal=>.normal
 | .exit id=>.exit id
 | .ret=>.ret
section
variable {P:Program} {T:Cj} {an:Nat->Ann} {nl:Nat->List (Nat×Nat)} {ops:Array Oper} {F:Aq} {W:World} {Q:Exit->Act->World->Prop}
theorem Wa {α:Type} {e:Nat->α} {s:Nat} {v:α} (h:e s=v):Ax e s v=e:=by subst h; exact Gf e s
theorem Aaj (M:Ck P T):∀(os:List Oper) (g:List Nat) (i n:Nat) (e:Bj) (H:Hp) (acc:Gi) (K:Nat->Bj->Hp->Gi->Prop),ops.toList.drop i=os->acc.length=i->D2 H n->Hj P T an nl ops os g n e H acc K ->
  ∃f e' H' accs,K f e' H' accs/\accs.take i=acc/\accs.length=i+os.length/\n<=f/\D2 H' f/\Run P ops (fun k=>accs.getD k ([],[])) (List.range' i os.length) e H e' H'
 | [],g,i,n,e,H,acc,K,hd,y,D,h=>⟨n,e,H,acc,h,by rw [<-y]; simp,by simpa using y,Nat.le_refl _,D,.nil e H⟩
 | o::os,g,i,n,e,H,acc,K,hd,y,D,h=>by
  have N:ops[i]? = some o:=by
   have:=congrArg (fun l=>l[0]?) hd
   simpa using this
  have A:ops.toList.drop (i+1)=os:=by
   have:=congrArg (List.drop 1) hd
   simpa [List.drop_drop] using this
  have run:∀(u:Bj) (g:List Nat),Gg ops o u true->(Dm P T an n o (ev u) H fun c m=>Iu (Jo (J8 nl o.dst) c.r) fun r=>K0 c.wr fun wr=>G2 c.rd fun S=>G2 wr fun R=>Hi u o.dst r H wr fun e H=>Hj P T an nl ops os g m e H (acc++[(S,R)]) K) ->
    ∃f e' H' accs,K f e' H' accs/\accs.take i=acc/\accs.length=i+(o::os).length/\n<=f/\D2 H' f/\Run P ops (fun k=>accs.getD k ([],[])) (List.range' i (o::os).length) u H e' H':=by
   intro u g j x
   obtain ⟨c,m,h1,h2,h3,h4,Y⟩:=Afe M D x
   simp only [Pr,Z8,Z9,V8] at h3
   obtain ⟨f,e',H',accs,I,B,V,U,G,E⟩:=Aaj M os g (i+1) m _ _ _ K A (by simp [y]) Y h3
   have L:accs[i]? = some (c.rd.map (·.1),c.wr.map (·.1)):=by
    have Z:(accs.take (i+1))[i]? = accs[i]?:=List.getElem?_take_of_lt (by omega)
    rw [<-Z,B,List.getElem?_append_right (by omega)]
    simp [y]
   have z:accs.getD i ([],[])=(c.rd.map (·.1),c.wr.map (·.1)):=by simp [List.getD,L]
   refine ⟨f,e',H',accs,I,?_,by simp only [List.length_cons]; omega,by omega,G,?_⟩
   .have:=congrArg (List.take i) B
    rw [List.take_take] at this
    simpa [y] using this
   .rw [List.length_cons,List.range'_succ]
    refine .cons o (Jo (J8 nl o.dst) c.r) c.wr ⟨N,.inl ⟨j,_,h1.nils (J8 nl o.dst),h2,?_,?_,rfl,rfl⟩⟩ E
    .intro p hp; show p.1∈(accs.getD i ([],[])).1; rw [z]; exact List.mem_map_of_mem hp
    .intro p hp; show p.1∈(accs.getD i ([],[])).2; rw [z]; exact List.mem_map_of_mem hp
  have skip:∀(u:Bj) (g:List Nat),Gg ops o u false->(Hi u o.dst (.val undef) H [] fun e H=>Hj P T an nl ops os g n e H (acc++[([],[])]) K) ->
    ∃f e' H' accs,K f e' H' accs/\accs.take i=acc/\accs.length=i+(o::os).length/\n<=f/\D2 H' f/\Run P ops (fun k=>accs.getD k ([],[])) (List.range' i (o::os).length) u H e' H':=by
   intro u g j x
   rw [V8] at x
   obtain ⟨f,e',H',accs,I,B,V,U,G,E⟩:=Aaj M os g (i+1) n _ _ _ K A (by simp [y]) D x
   refine ⟨f,e',H',accs,I,?_,by simp only [List.length_cons]; omega,by omega,G,?_⟩
   .have:=congrArg (List.take i) B
    rw [List.take_take] at this
    simpa [y] using this
   .rw [List.length_cons,List.range'_succ]
    exact .cons o (.val undef) [] ⟨N,.inr ⟨j,rfl,rfl⟩⟩ E
  simp only [Hj] at h
  cases q:o.guard with
  | none=>
   rw [q] at h
   exact run e g (by unfold Gg; rw [q]) h
  | some p=>
   rw [q] at h
   simp only [] at h
   cases x:(ops[p.1]?).bind (·.dst) with
   | none=>rw [x] at h; exact h.elim
   | some s=>
    rw [x] at h
    simp only [] at h
    split at h
    .rename_i b hb
     have j:∀on,on=(b==p.2)->Gg ops o e on:=by
      intro on J
      unfold Gg; rw [q]
      exact ⟨s,.bool b,x,hb,by rw [J]; cases b <;> cases p.2 <;> rfl⟩
     cases hk:g.elem s with
     | true=>
      rw [hk] at h
      simp only [] at h
      cases b with
      | true=>
       cases hp:p.2 with
       | true=>rw [hp] at h; exact run e _ (j true (by rw [hp]; rfl)) h
       | false=>rw [hp] at h; exact skip e _ (j false (by rw [hp]; rfl)) h
      | false=>
       cases hp:p.2 with
       | true=>rw [hp] at h; exact skip e _ (j false (by rw [hp]; rfl)) h
       | false=>rw [hp] at h; exact run e _ (j true (by rw [hp]; rfl)) h
     | false=>
      rw [hk] at h
      simp only [] at h
      cases b with
      | true=>
       rw [Wa hb] at h
       simp only [cond_true] at h
       cases hp:p.2 with
       | true=>rw [hp] at h; exact run e _ (j true (by rw [hp]; rfl)) h
       | false=>rw [hp] at h; exact skip e _ (j false (by rw [hp]; rfl)) h
      | false=>
       rw [Wa hb] at h
       simp only [cond_false] at h
       cases hp:p.2 with
       | true=>rw [hp] at h; exact skip e _ (j false (by rw [hp]; rfl)) h
       | false=>rw [hp] at h; exact run e _ (j true (by rw [hp]; rfl)) h
    .rename_i vs X
     exact skip e _ (by unfold Gg; rw [q]; exact ⟨s,_,x,X,rfl⟩) h
    .exact h.elim
end
end Go.Ab
namespace Go.Ab
section
variable {P:Program} {C:Cfg} {F:Aq} {W:World}
theorem Afh {c:Code} {Q:Exit->Act->World->Prop} {a:Act} {w:World} (J:Nat->Act->World->Prop) (B:Nat) (h0:J B a w)
  (g:∀k a w,J k a w->c.wp P (Exit.then (fun q w'=>∃s,s<k/\J s q w') Q) a w):(Code.loop c).wp P Q a w:=by
 intro b u cs
 have key:∀k a w,J k a w->∃e q w',Q e q w'/\Arrives P (lone (b.at a (.code c :: .inLoop c::u)) cs w) b u cs e q w':=by
  intro k
  induction k using Nat.strongRecOn with
  | _ k ih=>
   intro a w E
   obtain ⟨e,j,i,hq,f⟩:=g k a w E b (.inLoop c::u) cs
   cases e with
   | normal=>
    obtain ⟨s,z,A⟩:=hq
    obtain ⟨G,I,D,y,h⟩:=ih s z j i A
    exact ⟨G,I,D,y,.of_steps (Steps.trans f (.one step_inLoop)) h⟩
   | exit id=>exact ⟨_,j,i,hq,.pass (x:=.inLoop c) rfl (fun _ _=>.inl (by simp)) f⟩
   | goto l=>exact ⟨_,j,i,hq,.pass (x:=.inLoop c) rfl (fun _ _=>.inl (by simp)) f⟩
   | ret=>exact ⟨_,j,i,hq,.pass (x:=.inLoop c) rfl (fun _ _=>.inl (by simp)) f⟩
   | panic L=>exact ⟨_,j,i,hq,.pass (x:=.inLoop c) rfl (fun _ _=>.inl (by simp)) f⟩
   | outgrown=>exact ⟨_,j,i,hq,.pass (x:=.inLoop c) rfl (fun _ _=>.inl (by simp)) f⟩
 obtain ⟨e,q,w',hq,f⟩:=key B a w h0
 exact ⟨e,q,w',hq,.of_steps (.one step_loop) f⟩
theorem Ao6 {n:Nat} {x:AV} (h:x.under2 n=true) (hx:∀cs,x≠.agg cs):x.under1 n=true:=by
 cases x <;> first | exact h | exact (hx _ rfl).elim
theorem Conc.restrict {σ:Aq} {ι B:Bm} {H H':Hp} {n:Nat} (G:∀h,h<n->B h=ι h) (I:∀h,h<n->H' h=H h) {x:AV} {v:Value} (hx:x.under n=true) (h:Conc σ ι H x v):Conc σ B H' x v:=by
 have l:∀{x:AV} {v:Value},x.under0 n=true->Conc σ ι H x v->Conc σ B H' x v:=by
  intro x v hx h
  cases h with
  | cc h=>exact .cc h
  | loc h off b hb=>exact .loc h off b (by rw [G h (Fk hx)]; exact hb)
  | mp h b hb=>exact .mp h b (by rw [G h (Fk hx)]; exact hb)
  | arr h k off len v J D z=>
   have y:=Fk hx
   exact .arr h k off len v (by rw [I h y]; exact J) (by rw [G h y,I h y]; exact D) z
  | el h k i j v J D z=>
   have y:=Fk hx
   exact .el h k i j v (by rw [I h y]; exact J) (by rw [G h y,I h y]; exact D) z
  | ref cs b off C E fr g R hc h1 S=>exact .ref cs b off C E fr g R hc h1 S
  | agg=>cases hx
  | tup=>cases hx
  | fn=>cases hx
 have key:∀{x:AV} {v:Value},x.under1 n=true->Conc σ ι H x v->Conc σ B H' x v:=by
  intro x v hx h
  cases x with
  | fn f cs=>
   obtain ⟨vs,rfl,A,h⟩:=h.fn_inv
   exact .fn f cs vs A fun i c u h1 h2=>l (List.all_eq_true.1 hx c (List.mem_of_getElem? h1)) (h i c u h1 h2)
  | agg cs=>cases hx
  | tup cs=>cases hx
  | val u=>exact l (x:=(.val u)) hx h
  | loc q off=>exact l (x:=(.loc q off)) hx h
  | arr q k off len=>exact l (x:=(.arr q k off len)) hx h
  | el q k i j=>exact l (x:=(.el q k i j)) hx h
  | mp q=>exact l (x:=(.mp q)) hx h
  | ref cs=>exact l (x:=(.ref cs)) hx h
  | sl sz xs=>exact l (x:=(.sl sz xs)) hx h
  | fb s=>exact l (x:=(.fb s)) hx h
 have cells:∀{cs:List AV},cs.all (AV.under1 n)=true->∀(i:Nat) (c:AV) (u:Value),cs[i]? = some c->Conc σ ι H c u->Conc σ B H' c u :=
  fun M i c u hc h=>key (List.all_eq_true.1 M c (List.mem_of_getElem? hc)) h
 cases x with
 | agg cs=>
  cases h with
  | cc h=>exact .cc h
  | agg _ vs A h=>exact .agg cs vs A fun i c u h1 h2=>cells hx i c u h1 (h i c u h1 h2)
 | tup cs=>
  cases h with
  | cc h=>exact .cc h
  | tup _ vs A h=>
   refine .tup cs vs A fun i c u h1 h2=>?_
   have hf:=List.all_eq_true.1 hx c (List.mem_of_getElem? h1)
   have hc:=h i c u h1 h2
   cases c with
   | agg ds=>
    obtain ⟨N,rfl,L,D⟩:=hc.agg_inv
    exact .agg ds N L fun j d v g1 g2=>cells hf j d v g1 (D j d v g1 g2)
   | _=>exact key (Ao6 hf (by intro cs e; cases e)) hc
 | fn f cs=>
  cases h with
  | cc h=>exact .cc h
  | fn _ _ vs A h=>exact .fn f cs vs A fun i c u h1 h2=>cells hx i c u h1 (h i c u h1 h2)
 | val v=>exact key rfl h
 | loc h off=>exact key hx h
 | arr h k off len=>exact key hx h
 | el h k i j=>exact key hx h
 | mp h=>exact key hx h
 | ref cs=>exact key rfl h
 | sl sz xs=>exact key rfl h
 | fb s=>exact key rfl h
theorem Fo.spec {H H':Hp} {n:Nat}:∀{k:Nat},Fo H H' k n->∀h,h<k->H h=H' h/\(H' h).under n=true
 | 0,_,h,b=>by omega
 | k+1,hh,h,b=>by
  by_cases e:h=k
  .subst e; exact hh.1
  .exact Fo.spec hh.2 h (by omega)
theorem Fm.spec {e:Bj}:∀{l:List (Nat×AV)},Fm e l->∀p∈l,e p.1=p.2
 | [],_,p,hp=>by cases hp
 | q::l,h,p,hp=>by
  rcases List.mem_cons.1 hp with rfl | hp
  .exact h.1
  .exact Fm.spec h.2 p hp
theorem Afi (c:List Nat) (e:Bj) (u:Nat->Value) (l:List (Nat×AV)) (s:Nat):(∃p∈l,p.1=s/\H4 c e u l s=p.2)\/(s∈c/\H4 c e u l s = .val (u s))\/(s ∉ c/\H4 c e u l s=e s):=by
 have base:(s∈c/\(c.foldr (fun s e=>Ax e s (.val (u s))) e) s = .val (u s))\/(s ∉ c/\(c.foldr (fun s e=>Ax e s (.val (u s))) e) s=e s):=by
  induction c with
  | nil=>exact .inr ⟨by simp,rfl⟩
  | cons t c ih=>
   simp only [List.foldr_cons]
   by_cases b:s=t
   .subst b; exact .inl ⟨by simp,B8 _ _ _⟩
   .rw [Cr _ _ b]
    rcases ih with ⟨h1,h2⟩ | ⟨h1,h2⟩
    .exact .inl ⟨by simp [h1],h2⟩
    .exact .inr ⟨by simp [h1,b],h2⟩
 unfold H4
 induction l with
 | nil=>exact .inr base
 | cons p l ih=>
  simp only [List.foldr_cons]
  by_cases b:s=p.1
  .exact .inl ⟨p,by simp,b.symm,by rw [b]; exact B8 _ _ _⟩
  .rw [Cr _ _ b]
   rcases ih with ⟨q,hq,h1,h2⟩ | h | h
   .exact .inl ⟨q,by simp [hq],h1,h2⟩
   .exact .inr (.inl h)
   .exact .inr (.inr h)
theorem Afj:∀(i:List Nat) {e:Bj} {H:Hp} {K:Bj->Hp->Prop} {n:Nat} {σ:Aq} {ι:Bm} {a:Act} {w:World},V9 i e H K->St σ ι H F W w->Dv σ ι H e a->D2 H n ->
  ∃g e' H',K e' H'/\Le σ ι H g ι H'/\St g ι H' F W w/\Dv g ι H' e' a/\D2 H' n
 | [],e,H,K,n,σ,ι,a,w,h,s,f,c=>⟨σ,e,H,h,Le.refl _ _ _,s,f,c⟩
 | t::i,e,H,K,n,σ,ι,a,w,h,s,f,c=>by
  simp only [V9] at h
  split at h
  .rename_i hd k len hx
   split at h
   .rename_i E sz xs hh
    obtain ⟨hk,S,h⟩:=h
    obtain ⟨D,b,G,u⟩:=s.freeze hh
    have x:Dv D ι (Ax H hd .dead) (Ax e t (.sl sz xs)) a:=by
     intro q hq
     by_cases A:q=t
     .subst A
      rw [B8]
      have hc:=f q hq
      rw [hx] at hc
      have:=u 0 len _ (by omega) (hc.arr_inv hh hk)
      rw [List.drop_zero,List.take_of_length_le (by omega)] at this
      exact .cc this
     .rw [Cr _ _ A]; exact (f q hq).mono b
    have j:D2 (Ax H hd .dead) n:=by
     intro m z
     have l:hd≠m:=by
      intro y; subst y
      have:=c hd z; rw [hh] at this; cases this
     rw [Cr _ _ (Ne.symm l)]; exact c m z
    obtain ⟨B,y,R,N,M,L,J,I⟩:=Afj i h G x j
    exact ⟨B,y,R,N,b.trans M,L,J,I⟩
   .exact h.elim
  .exact h.elim
theorem Afk {N:Nat} {ops:Array Oper} (h:(ops.toList.all fun o=>(It ops o).all fun s=>Nat.blt s N)=true):Vp ops N:=by
 intro i o c s b
 rw [List.all_eq_true] at h
 have:=h o (by simpa using Array.mem_of_getElem? c)
 rw [List.all_eq_true] at this
 exact Fk (this s b)
theorem N0 (hT:Ck P C.T) (hm:P.follows .mixedOrders=true):∀(c:Code) (Q':Ex->Nat->Bj->Hp->Prop) (n:Nat) (e:Bj) (H:Hp) (σ:Aq) (ι:Bm) (a:Act) (w:World) (Q:Exit->Act->World->Prop),
  Hk a.tmps.size c=true->vc P C c Q' n e H->St σ ι H F W w->Dv σ ι H e a->D2 H n ->
  (∀x n' e' H' σ' ι' a' w',Q' x n' e' H'->Le σ ι H σ' ι' H'->St σ' ι' H' F W w'->Dv σ' ι' H' e' a'->D2 H' n'->n<=n'->a'.tmps.size=a.tmps.size->a'.defers=a.defers->Eb (Ec c) a a'->Q x.out a' w')->c.wp P Q a w
 | .skip,Q',n,e,H,σ,ι,a,w,Q,_,h,s,U,S,hk=>wp_skip (hk .normal n e H σ ι a w h (Le.refl _ _ _) s U S (Nat.le_refl _) rfl rfl (Eb.refl _ _))
 | .exit id,Q',n,e,H,σ,ι,a,w,Q,_,h,s,U,S,hk=>wp_exit (hk (.exit id) n e H σ ι a w h (Le.refl _ _ _) s U S (Nat.le_refl _) rfl rfl (Eb.refl _ _))
 | .ret,Q',n,e,H,σ,ι,a,w,Q,_,h,s,U,S,hk=>wp_ret (hk .ret n e H σ ι a w h (Le.refl _ _ _) s U S (Nat.le_refl _) rfl rfl (Eb.refl _ _))
 | .region id ops draw,Q',n,e,H,σ,ι,a,w,Q,u,h,s,U,S,hk=>by
  simp only [vc] at h
  obtain ⟨σ0,e0,b3,h,ap,s0,az,ba⟩:=Afj _ h s U S
  obtain ⟨n',e',H',accs,hK,_,bg,av,hf,aj⟩:=Aaj hT ops.toList [] 0 n e0 b3 [] _ (by simp) rfl ba h
  have ar:=Afk u
  cases draw with
  | false=>
   simp only [cond_false] at hK
   refine wp_region ?_
   have:List.range ops.size=List.range' 0 ops.toList.length:=by rw [List.range_eq_range']; simp
   rw [this]
   refine aj.wpOps s0 az ar ?_
   intro σ' ι' a' w' le s' ao g l hu
   exact hk .normal n' e' H' σ' ι' a' w' hK (ap.trans le) s' ao hf av g l hu
  | true=>
   simp only [cond_true] at hK
   obtain ⟨b9,hK⟩:=hK
   refine wp_region_any hm ?_
   have L:ops=ops.toList.toArray:=by simp
   rw [L]
   simp only [List.size_toArray]
   refine Z2 (accs:=accs) (e':=e') (H':=H') b9 ops.toList.length _ (List.range' 0 ops.toList.length) e0 b3 σ0 ι a _ (by rw [<-L]; exact aj) (List.pairwise_lt_range' ..) ?_ (by simp) ?_ (by simp) (s0.drew _) az (by rw [<-L]; exact ar) ?_
   .intro i
    simp only [List.mem_range'_1,Array.getD_eq_getD_getElem?]
    constructor
    .rintro ⟨_,h2⟩
     refine ⟨by omega,?_⟩
     have:i<ops.size:=by simpa using h2
     simp [this]
    .rintro ⟨h1,_⟩; omega
   .intro k o bf hl
    exfalso
    simp only [Array.getD_eq_getD_getElem?] at hl
    by_cases ah:k<ops.size
    .simp [ah] at hl
    .simp [ah] at hl
   .intro σ' ι' a' w' le s' ao g l hu
    exact hk .normal n' e' H' σ' ι' a' w' hK (ap.trans le) s' ao hf av g l (by rw [<-L] at hu; exact hu)
 | .seq c1 c2,Q',n,e,H,σ,ι,a,w,Q,u,h,s,U,S,hk=>by
  simp only [Hk,Bool.and_eq_true] at u
  simp only [vc] at h
  refine wp_seq (N0 hT hm c1 _ n e H σ ι a w _ u.1 h s U S ?_)
  intro x n1 L N D G a1 R hq f A j z B g l hu
  cases x with
  | normal=>
   refine N0 hT hm c2 Q' n1 L N D G a1 R Q (by rw [g]; exact u.2) hq A j z ?_
   intro x n2 e2 H2 σ2 ι2 a2 w2 b8 V s2 ae ag ac X Y ab
   exact hk x n2 e2 H2 σ2 ι2 a2 w2 b8 (f.trans V) s2 ae ag (by omega) (X.trans g) (Y.trans l) ((hu.mono (by simp [Ec]; exact fun s h=>.inl h)).trans (ab.mono (by simp [Ec]; exact fun s h=>.inr h)))
  | exit id=>exact hk (.exit id) n1 L N D G a1 R hq f A j z B g l (hu.mono (by simp [Ec]; exact fun s h=>.inl h))
  | ret=>exact hk .ret n1 L N D G a1 R hq f A j z B g l (hu.mono (by simp [Ec]; exact fun s h=>.inl h))
 | .cond x c1 c2,Q',n,e,H,σ,ι,a,w,Q,u,h,s,U,S,hk=>by
  simp only [Hk,Bool.and_eq_true] at u
  simp only [vc,Aff] at h
  split at h
  .rename_i t hx
   have hc:=U.eval (x:=x) (fun t ht=>by
    cases x with
    | tmp q=>cases ht; exact Fk u.1.1
    | _=>cases ht)
   rw [hx] at hc
   have hv:=hc.val_inv
   cases t with
   | true=>
    refine wp_cond_true hv (N0 hT hm c1 Q' n e H σ ι a w Q u.1.2 h s U S ?_)
    intro x n1 L N D G a1 R hq f A j z B g l hu
    exact hk x n1 L N D G a1 R hq f A j z B g l (hu.mono (by simp [Ec]; exact fun s h=>.inl h))
   | false=>
    refine wp_cond_false hv (N0 hT hm c2 Q' n e H σ ι a w Q u.2 h s U S ?_)
    intro x n1 L N D G a1 R hq f A j z B g l hu
    exact hk x n1 L N D G a1 R hq f A j z B g l (hu.mono (by simp [Ec]; exact fun s h=>.inr h))
  .exact h.elim
 | .block id c,Q',n,e,H,σ,ι,a,w,Q,u,h,s,U,S,hk=>by
  simp only [vc] at h
  refine wp_block (N0 hT hm c _ n e H σ ι a w _ u h s U S ?_)
  intro x n1 L N D G a1 R hq f A j z B g l hu
  cases x with
  | normal=>exact hk .normal n1 L N D G a1 R hq f A j z B g l hu
  | exit i=>
   simp only [Ex.out,Exit.inBlock]
   by_cases hi:i=id
   .subst hi
    rw [if_pos rfl]
    have:Nat.beq i i=true:=Nat.beq_refl i
    simp only [this,cond_true] at hq
    exact hk .normal n1 L N D G a1 R hq f A j z B g l hu
   .rw [if_neg hi]
    have:Nat.beq i id=false:=by
     cases hb:Nat.beq i id
     .rfl
     .exact (hi (Nat.eq_of_beq_eq_true hb)).elim
    simp only [this,cond_false] at hq
    exact hk (.exit i) n1 L N D G a1 R hq f A j z B g l hu
  | ret=>exact hk .ret n1 L N D G a1 R hq f A j z B g l hu
 | .loop c,Q',n,e,H,σ,ι,a,w,Q,u,h,s,U,S,hk=>by
  simp only [vc] at h
  obtain ⟨I,aq,iv,hv,m,i0,hb,h0,b6,bd,step⟩:=h
  have b4:∀x,n<=x->ι x = .none:=by
   intro x hx
   have:=s.obj x; unfold Cf at this; rw [S x hx] at this; exact this
  have am:∀i,∀p∈hv i,p.1<n:=by
   intro i p hp
   have:=hb i
   unfold Iv at this
   rw [Bool.and_eq_true,List.all_eq_true,List.all_eq_true] at this
   exact Fk (this.2 p hp)
  have ax:∀i,∀p∈iv i,p.2.under n=true:=by
   intro i p hp
   have:=hb i
   unfold Iv at this
   rw [Bool.and_eq_true,List.all_eq_true,List.all_eq_true] at this
   exact this.1 p hp
  have ai:∀i,D2 (Cd H (hv i)) n:=by
   intro i x hx
   rw [Pn (fun p hp e=>by have:=am i p hp; omega)]; exact S x hx
  let J:Nat->Act->World->Prop:=fun k a' w'=>∃i σ' ι',m i=k/\aq i/\Le σ ι H σ' ι' (Cd H (hv i))/\St σ' ι' (Cd H (hv i)) F W w' /\
   Dv σ' ι' (Cd H (hv i)) (H4 (Ec c) e (fun s=>a'.tmps.getD s undef) (iv i)) a'/\a'.tmps.size=a.tmps.size/\a'.defers=a.defers/\Eb (Ec c) a a'
  have a6:∀(i:I) (D:Aq) (G:Bm) (N:Hp) (L:Bj) (a1:Act) (R:World),aq i->Fm L (iv i)->Fo N (Cd H (hv i)) n n->Le σ ι H D G N->St D G N F W R->Dv D G N L a1->a1.tmps.size=a.tmps.size ->
    a1.defers=a.defers->Eb (Ec c) a a1->J (m i) a1 R:=by
   intro i D G N L a1 R hi au ay f A j M Z a8
   let ι2:Bm:=fun x=>if x<n then G x else .none
   have a7:∀x,x<n->ι2 x=G x:=fun x hx=>if_pos hx
   have aa:∀x,x<n->Cd H (hv i) x=N x:=fun x hx=>((ay.spec) x hx).1.symm
   have V:Le σ ι H D ι2 (Cd H (hv i)):=by
    refine ⟨f.sto,fun x=>?_⟩
    by_cases hx:x<n
    .rw [a7 x hx,aa x hx]; exact f.obj x
    .rw [b4 x (by omega),S x (by omega)]; exact HLe.of_none
   have s2:St D ι2 (Cd H (hv i)) F W R:=by
    refine ⟨A.sto,A.fra,fun x=>?_,?_,A.os,A.tape,A.output,A.glo,A.drw⟩
    .by_cases hx:x<n
     .have ho:=A.obj x
      have ak:=((ay.spec) x hx).2
      unfold Cf at ho ⊢
      rw [aa x hx] at ak ⊢
      rw [a7 x hx]
      cases af:N x with
      | none=>rw [af] at ho; exact ho
      | dead=>trivial
      | cells E cs=>
       rw [af] at ho ak
       obtain ⟨b,Cc,g1,g2,g3,g4,g5,g6⟩:=ho
       refine ⟨b,Cc,g1,g2,g3,g4,g5,fun q cq v hq b5=>(g6 q cq v hq b5).restrict a7 aa ?_⟩
       have:=List.all_eq_true.1 ak cq (List.mem_of_getElem? hq)
       exact Aad this
      | rows E sz xs=>rw [af] at ho; exact ho
      | map es=>rw [af] at ho; exact ho
     .unfold Cf
      rw [ai i x (by omega)]
      exact if_neg hx
    .intro x y b lx ly bx b0
     have hx:x<n:=by
      rcases Nat.lt_or_ge x n with hx | hx
      .exact hx
      .rw [ai i x hx] at lx; cases lx
     have hy:y<n:=by
      rcases Nat.lt_or_ge y n with hy | hy
      .exact hy
      .rw [ai i y hy] at ly; cases ly
     rw [aa x hx] at lx; rw [aa y hy] at ly
     rw [a7 x hx] at bx; rw [a7 y hy] at b0
     exact A.inj x y b lx ly bx b0
   refine ⟨i,D,ι2,rfl,hi,V,s2,?_,M,Z,a8⟩
   intro q hq
   rcases Afi (Ec c) e (fun s=>a1.tmps.getD s undef) (iv i) q with ⟨p,hp,rfl,ad⟩ | ⟨hw,ad⟩ | ⟨hw,ad⟩
   .rw [ad,<-au.spec p hp]
    refine (j p.1 hq).restrict a7 aa ?_
    rw [au.spec p hp]; exact ax i p hp
   .rw [ad]; exact .of_val _
   .rw [ad,a8 q hw]; exact (U q (by omega)).mono V
  refine Afh J (m i0) (a6 i0 σ ι H e a w h0 b6 bd (Le.refl _ _ _) s U rfl rfl (Eb.refl _ _)) ?_
  rintro k a1 R ⟨i,D,G,rfl,hi,f,A,j,M,Z,a8⟩
  refine N0 hT hm c _ n _ _ D G a1 R _ (by rw [M]; exact u) (step i (fun s=>a1.tmps.getD s undef) hi) A j (ai i) ?_
  intro x n2 e2 H2 σ2 ι2 a2 w2 hq V s2 ae ag ac X Y ab
  cases x with
  | normal=>
   obtain ⟨i',bb,b7,be,ah⟩:=hq
   exact ⟨m i',ah,a6 i' σ2 ι2 H2 e2 a2 w2 bb b7 be (f.trans V) s2 ae (X.trans M) (Y.trans Z) (a8.trans ab)⟩
  | exit id=>exact hk (.exit id) n2 e2 H2 σ2 ι2 a2 w2 hq (f.trans V) s2 ae ag ac (X.trans M) (Y.trans Z) (a8.trans ab)
  | ret=>exact hk .ret n2 e2 H2 σ2 ι2 a2 w2 hq (f.trans V) s2 ae ag ac (X.trans M) (Y.trans Z) (a8.trans ab)
 | .rangeFunc ..,_,_,_,_,_,_,_,_,_,_,h,_,_,_,_=>by simp only [vc] at h
 | .scope _,_,_,_,_,_,_,_,_,_,_,h,_,_,_,_=>by simp only [vc] at h
 | .label _,_,_,_,_,_,_,_,_,_,_,h,_,_,_,_=>by simp only [vc] at h
 | .goto _,_,_,_,_,_,_,_,_,_,_,h,_,_,_,_=>by simp only [vc] at h
 | .refuse _,_,_,_,_,_,_,_,_,_,_,h,_,_,_,_=>by simp only [vc] at h
end
end Go.Ab
namespace Go.Ab
def Wb (T:Cj) (e:Bj) (H:Hp):ResultVar->Option AV
 | .tmp t=>some (e t)
 | .cell a t=>
  match e a with
  | .loc h off=>
   match H h with
   | .cells _ cs=>
    match T t with
    | some i=>bif i.isAgg then (bif Nat.ble (off+i.size) cs.length then some (.agg ((cs.drop off).take i.size)) else none) else cs[off]?
    | none=>none
   | _=>none
  | _=>none
def Wc (x:AV) (H:Hp) (K:AV->Hp->Prop):Prop :=
 match x with
 | .arr h k 0 len=>
  match H h with
  | .rows _ sz xs=>Fa k xs (Fa len xs (K (.sl sz xs) (Ax H h .dead)))
  | _=>False
 | x=>K x H
def Wd:List AV->Hp->(List AV->Hp->Prop)->Prop
 | [],H,K=>K [] H
 | x::xs,H,K=>Wc x H fun y H=>Wd xs H fun ys H=>K (y::ys) H
def fin (x:AV) (H:Hp) (K:AV->Hp->Prop):Prop :=
 match x with
 | .agg cs=>Wd cs H fun cs H=>K (.agg cs) H
 | x=>Wc x H K
def We:List AV->Hp->(List AV->Prop)->Prop
 | [],_,K=>K []
 | x::xs,H,K=>fin x H fun y H=>We xs H fun ys=>K (y::ys)
def Pu (T:Cj) (e:Bj) (H:Hp):List ResultVar->Option (List AV)
 | []=>some []
 | r::rs=>
  match Wb T e H r with
  | none=>none
  | some x=>
   match Pu T e H rs with
   | none=>none
   | some xs=>some (x::xs)
def Sg:List AV->AV
 | [x]=>x
 | xs=>.tup xs
def N1 (T:Cj) (b:List ResultVar) (K:AV->Prop) (e:Bj) (H:Hp):Prop :=
 match Pu T e H b with
 | none=>False
 | some xs=>We xs H fun ys=>K (Sg ys)
def Pv (args:List AV):Bj:=fun n=>args.getD n (.val undef)
def N2:ResultVar->Nat
 | .tmp t=>t
 | .cell a _=>a
def Px (fn:Func) (c:Code) (k:Nat):Bool:=Hk fn.ntmps c&&(fn.results.toList.all fun r=>Nat.blt (N2 r) fn.ntmps)&&Nat.ble k fn.ntmps
section
variable {P:Program} {T:Cj} {F:Aq} {W w:World}
theorem Afl {x:AV} {H:Hp} {K:AV->Hp->Prop} {σ:Aq} {ι:Bm} {v:Value} (h:Wc x H K) (s:St σ ι H F W w) (hc:Conc σ ι H x v) :
  ∃b y H',K y H'/\Le σ ι H b ι H'/\St b ι H' F W w/\Conc b ι H' y v:=by
 unfold Wc at h
 split at h
 .rename_i hd k len
  split at h
  .rename_i E sz xs hh
   obtain ⟨hk,j,h⟩:=h
   obtain ⟨g,c,i,f⟩:=s.freeze hh
   refine ⟨g,.sl sz xs,Ax H hd .dead,h,c,i,.cc ?_⟩
   have:=f 0 len _ (by omega) (hc.arr_inv hh hk)
   rwa [List.drop_zero,List.take_of_length_le (by omega)] at this
  .exact h.elim
 .exact ⟨σ,_,H,h,Le.refl _ _ _,s,hc⟩
theorem Afm:∀{cs:List AV} {vs:List Value} {H:Hp} {K:List AV->Hp->Prop} {σ:Aq} {ι:Bm},Wd cs H K->St σ ι H F W w->vs.length=cs.length->(∀(i:Nat) (c:AV) (v:Value),cs[i]? = some c->vs[i]? = some v->Conc σ ι H c v) ->
  ∃k ys H',K ys H'/\Le σ ι H k ι H'/\St k ι H' F W w/\vs.length=ys.length/\∀(i:Nat) (c:AV) (v:Value),ys[i]? = some c->vs[i]? = some v->Conc k ι H' c v
 | [],vs,H,K,σ,ι,h,s,g,hc=>⟨σ,[],H,h,Le.refl _ _ _,s,g,hc⟩
 | x::cs,[],H,K,σ,ι,h,s,g,hc=>by simp at g
 | x::cs,v::vs,H,K,σ,ι,h,s,g,hc=>by
  simp only [Wd] at h
  obtain ⟨G,y,I,h1,f,A,D⟩:=Afl h s (hc 0 x v (by simp) (by simp))
  obtain ⟨q,ys,E,h2,b,z,l,B⟩:=Afm (vs:=vs) h1 A (by simpa using g) (fun i c u j hu=>(hc (i+1) c u (by simpa using j) (by simpa using hu)).mono f)
  refine ⟨q,y::ys,E,h2,f.trans b,z,by simp [l],fun i c u j hu=>?_⟩
  cases i with
  | zero=>simp at j hu; subst j; subst hu; exact D.mono b
  | succ i=>exact B i c u (by simpa using j) (by simpa using hu)
theorem Afn {x:AV} {H:Hp} {K:AV->Hp->Prop} {σ:Aq} {ι:Bm} {v:Value} (h:fin x H K) (s:St σ ι H F W w) (hc:Conc σ ι H x v) :
  ∃b y H',K y H'/\Le σ ι H b ι H'/\St b ι H' F W w/\Conc b ι H' y v:=by
 unfold fin at h
 split at h
 .rename_i cs
  obtain ⟨vs,rfl,z,q⟩:=hc.agg_inv
  obtain ⟨k,ys,B,h1,f,l,g,A⟩:=Afm (vs:=vs.toList) h s (by simpa using z) (fun i c u j hu=>q i c u j (by simpa using hu))
  exact ⟨k,.agg ys,B,h1,f,l,.agg ys vs (by simpa using g) (fun i c u j hu=>A i c u j (by simpa using hu))⟩
 .exact Afl h s hc
theorem Afo:∀{xs:List AV} {vs:List Value} {H:Hp} {K:List AV->Prop} {σ:Aq} {ι:Bm},We xs H K->St σ ι H F W w->vs.length=xs.length->(∀(i:Nat) (c:AV) (v:Value),xs[i]? = some c->vs[i]? = some v->Conc σ ι H c v) ->
  ∃k ys H',K ys/\Le σ ι H k ι H'/\St k ι H' F W w/\vs.length=ys.length/\∀(i:Nat) (c:AV) (v:Value),ys[i]? = some c->vs[i]? = some v->Conc k ι H' c v
 | [],vs,H,K,σ,ι,h,s,g,hc=>⟨σ,[],H,h,Le.refl _ _ _,s,g,hc⟩
 | x::cs,[],H,K,σ,ι,h,s,g,hc=>by simp at g
 | x::cs,v::vs,H,K,σ,ι,h,s,g,hc=>by
  simp only [We] at h
  obtain ⟨G,y,I,h1,f,A,D⟩:=Afn h s (hc 0 x v (by simp) (by simp))
  obtain ⟨q,ys,E,h2,b,z,l,B⟩:=Afo (vs:=vs) h1 A (by simpa using g) (fun i c u j hu=>(hc (i+1) c u (by simpa using j) (by simpa using hu)).mono f)
  refine ⟨q,y::ys,E,h2,f.trans b,z,by simp [l],fun i c u j hu=>?_⟩
  cases i with
  | zero=>simp at j hu; subst j; subst hu; exact D.mono b
  | succ i=>exact B i c u (by simpa using j) (by simpa using hu)
def N3 (b:Array Value):ResultVar->Sem Value
 | .tmp t=>pure (b.getD t undef)
 | .cell a t=>do loadVar t (<-asAddr (b.getD a undef))
theorem Ao7 (G:Ck P T) {e:Bj} {H:Hp} {σ:Aq} {ι:Bm} {a:Act} (s:St σ ι H F W w) (D:Dv σ ι H e a) {r:ResultVar} {x:AV} (B:N2 r<a.tmps.size) (h:Wb T e H r=some x) :
  ∃v,(N3 a.tmps r).run P w = .ok v w/\Conc σ ι H x v:=by
 cases r with
 | tmp t=>
  simp only [Wb] at h; cases h
  exact ⟨_,rfl,D t B⟩
 | cell p t=>
  simp only [Wb] at h
  split at h
  .rename_i hd off hx
   split at h
   .rename_i E cs hh
    split at h
    .rename_i i ht
     have hc:=D p B
     rw [hx] at hc
     obtain ⟨b,hb,A⟩:=hc.loc_inv
     have k:=s.obj hd
     unfold Cf at k; rw [hh] at k
     obtain ⟨N,C,L,_,_,h3,M,J⟩:=k
     rw [hb] at L; cases L
     have h1:=Vc (G t i ht) w
     cases y:i.isAgg with
     | true=>
      rw [y] at h h1
      simp only [cond_true] at h
      cases g:Nat.ble (off+i.size) cs.length with
      | false=>rw [g] at h; cases h
      | true=>
       rw [g] at h; cases h
       have g:=Nat.le_of_ble_eq_true g
       have h2:=J3 (G t i ht) w
       have I:=run_loadCells_list (P:=P) w ⟨b,off,none⟩ ((C.toList.drop off).take i.size) (by
        intro j v z
        have f:j<i.size:=by
         have:=(List.getElem?_eq_some_iff.1 z).1; simp at this; omega
        rw [List.getElem?_take_of_lt f,List.getElem?_drop,Array.getElem?_toList] at z
        rw [H3,Hf h3]; exact z)
       have q:((C.toList.drop off).take i.size).length=i.size:=by simp; omega
       rw [q] at I
       refine ⟨_,by simp only [N3,A,asAddr,Sem.run_bind,Sem.run_pure,Result.andThen_ok,loadVar,h1,if_true,h2,I]; rfl,?_⟩
       refine .agg _ _ (by simp; omega) (fun j c u g1 g2=>?_)
       have f:j<i.size:=by
        have:=(List.getElem?_eq_some_iff.1 g1).1; simp at this; omega
       rw [List.getElem?_take_of_lt f,List.getElem?_drop] at g1
       rw [List.getElem?_toArray,List.getElem?_take_of_lt f,List.getElem?_drop,Array.getElem?_toList] at g2
       exact J _ c u g1 g2
     | false=>
      rw [y] at h h1
      simp only [cond_false] at h
      have f:off<C.size:=by rw [M]; exact (List.getElem?_eq_some_iff.1 h).1
      have l:w.cell? ⟨b,off,none⟩=some C[off]:=by rw [Hf h3]; simp [f]
      exact ⟨C[off],by simp [N3,A,asAddr,loadVar,h1,l],J off x _ h (by simp [f])⟩
    .cases h
   .cases h
  .cases h
theorem Aak (l:Ck P T) {e:Bj} {H:Hp} {σ:Aq} {ι:Bm} {a:Act} (s:St σ ι H F W w) (k:Dv σ ι H e a):∀{b:List ResultVar} {xs:List AV},(∀r∈b,N2 r<a.tmps.size)->Pu T e H b=some xs ->
  ∃vs:List Value,(b.mapM (N3 a.tmps)).run P w = .ok vs w/\vs.length=xs.length/\∀(i:Nat) (c:AV) (v:Value),xs[i]? = some c->vs[i]? = some v->Conc σ ι H c v
 | [],xs,_,h=>by
  simp only [Pu] at h; cases h
  exact ⟨[],by simp,rfl,by simp⟩
 | r::b,xs,j,h=>by
  simp only [Pu] at h
  split at h
  .cases h
  .rename_i x hx
   split at h
   .cases h
   .rename_i ys hy
    cases h
    obtain ⟨v,h1,A⟩:=Ao7 l s k (j r (by simp)) hx
    obtain ⟨vs,h2,y,z⟩:=Aak l s k (fun q f=>j q (by simp [f])) hy
    refine ⟨v::vs,by simp [List.mapM_cons,h1,h2],by simp [y],fun i c u g hu=>?_⟩
    cases i with
    | zero=>simp at g hu; subst g; subst hu; exact A
    | succ i=>exact z i c u (by simpa using g) (by simpa using hu)
theorem Afp (fn:Func) (b:Array Value):results fn b=(fn.results.mapM (N3 b) >>= fun vs=>pure (if h:vs.size=1 then vs[0] else .tuple vs)):=by
 unfold results
 congr 1
theorem Ao8 (B:Ck P T) {fn:Func} {K:AV->Prop} {e:Bj} {H:Hp} {σ:Aq} {ι:Bm} {a:Act} (s:St σ ι H F W w) (A:Dv σ ι H e a) (q:∀r∈fn.results.toList,N2 r<a.tmps.size) (h:N1 T fn.results.toList K e H) :
  ∃v f H' r,(results fn a.tmps).run P w = .ok v w/\K r/\Le σ ι H f ι H'/\St f ι H' F W w/\Conc f ι H' r v:=by
 unfold N1 at h
 split at h
 .exact h.elim
 .rename_i xs hx
  obtain ⟨vs,h1,x,D⟩:=Aak B s A q hx
  obtain ⟨f,ys,H',k,le,s',b,j⟩:=Afo h s x D
  have g:(fn.results.mapM (N3 a.tmps)).run P w = .ok vs.toArray w:=by
   rw [Array.mapM_eq_mapM_toList]
   simp [h1]
  refine ⟨if h:vs.toArray.size=1 then vs.toArray[0] else .tuple vs.toArray,f,H',Sg ys,?_,k,le,s',?_⟩
  .rw [Afp,Sem.run_bind,g]; rfl
  .match ys,vs,b,j with
   | [y],[v],_,j=>exact j 0 y v rfl rfl
   | [],[],_,_=>exact .tup [] #[] rfl (by simp)
   | y::E::ys,v::l::vs,b,j=>
    have:¬(v::l::vs).toArray.size=1:=by simp
    rw [dif_neg this]
    exact .tup _ _ (by simpa using b) (fun i c u z hu=>j i c u z (by simpa using hu))
   | [],_::_,b,_=>simp at b
   | _::_,[],b,_=>simp at b
   | [_],_::_::_,b,_=>simp at b
   | _::_::_,[_],b,_=>simp at b
theorem St.forget {σ:Aq} {ι:Bm} {H:Hp} (s:St σ ι H F W w):St σ ι0 H0 F W w :=
 ⟨s.sto,s.fra,fun _=>rfl,(fun _ _ _ b=>by cases b),s.os,s.tape,s.output,s.glo,s.drw⟩
theorem Afq {σ:Aq} {ι:Bm} {H:Hp} {args:List AV} {vs:Array Value} {N:Nat} (h:J4 σ ι H args vs):Dv σ ι H (Pv args) ⟨vs++Array.replicate (N-vs.size) undef,[]⟩:=by
 intro q hq
 simp only [Pv,Array.getD_eq_getD_getElem?]
 by_cases b:q<args.length
 .have hq':q<vs.size:=by rw [h.1]; exact b
  rw [Array.getElem?_append_left hq']
  have h1:args[q]? = some args[q]:=List.getElem?_eq_getElem b
  have h2:vs[q]? = some vs[q]:=Array.getElem?_eq_getElem hq'
  have:=h.2 q _ _ h1 h2
  simpa [List.getD,h1,h2] using this
 .rw [Array.getElem?_append_right (by rw [h.1]; omega)]
  have h1:args[q]? = none:=List.getElem?_eq_none (by omega)
  have hq':q-vs.size<N-vs.size:=by
   simp at hq
   have:=h.1
   omega
  simp only [List.getD,h1,Option.getD_none]
  simp [hq']
  exact .of_val undef
end
end Go.Ab
namespace Go.Ab
inductive Tr where
 | leaf
 | node (l:Tr) (k:Nat) (v:TI) (r:Tr)
def Tr.find:Tr->Nat->Option TI
 | .leaf,_=>none
 | .node l k v r,t=>bif Nat.beq t k then some v else bif Nat.blt t k then l.find t else r.find t
def Tr.toList:Tr->List (Nat×TI)
 | .leaf=>[]
 | .node l k v r=>l.toList++(k,v)::r.toList
theorem Tr.find_mem:∀(t:Tr) (k:Nat) (v:TI),t.find k=some v->(k,v)∈t.toList
 | .leaf,k,v,h=>by cases h
 | .node l b f r,k,v,h=>by
  simp only [Tr.find] at h
  simp only [Tr.toList,List.mem_append,List.mem_cons]
  cases hb:Nat.beq k b with
  | true=>
   rw [hb] at h; simp only [cond_true] at h; cases h
   rw [Nat.eq_of_beq_eq_true hb]
   exact .inr (.inl rfl)
  | false=>
   rw [hb] at h; simp only [cond_false] at h
   cases c:Nat.blt k b with
   | true=>rw [c] at h; exact .inl (Tr.find_mem l k v h)
   | false=>rw [c] at h; exact .inr (.inr (Tr.find_mem r k v h))
theorem Tr.ok {P:Program} {t:Tr} (h:t.toList.map (fun p=>F2 P p.1)=t.toList.map (fun p=>some p.2)):Ck P t.find:=by
 intro k v hk
 have b:=t.find_mem k v hk
 obtain ⟨i,c⟩:=List.getElem?_of_mem b
 have:=congrArg (fun l=>l[i]?) h
 simpa [c] using this
end Go.Ab
namespace Go.Ab
def Wf:List AV->Hp->(List AV->Hp->Prop)->Prop
 | [],H,K=>K [] H
 | x::xs,H,K=>fin x H fun y H=>Wf xs H fun ys H=>K (y::ys) H
def Mi (H:Hp):Nat->List Bf->Prop
 | _,[]=>True
 | k,o::os=>H k=o/\Mi H (k+1) os
def N4 (T:Cj) (fz:Bool) (c:List ResultVar) (r:AV) (b:List Bf) (e:Bj) (H:Hp):Prop :=
 match Pu T e H c with
 | none=>False
 | some xs=>bif fz then Wf xs H fun ys H=>Sg ys=r/\Mi H 0 b else Sg xs=r/\Mi H 0 b
section
variable {P:Program} {T:Cj} {F:Aq} {W w:World}
theorem Mi.spec {H:Hp}:∀{os:List Bf} {k:Nat},Mi H k os->∀i,i<os.length->H (k+i)=hp os i
 | [],k,_,i,b=>by simp at b
 | o::os,k,h,0,_=>by simpa [hp] using h.1
 | o::os,k,h,i+1,b=>by
  have:=Mi.spec h.2 i (by simpa using b)
  rw [show k+(i+1)=k+1+i by omega,this]
  simp [hp]
theorem Afr:∀{xs:List AV} {vs:List Value} {H:Hp} {K:List AV->Hp->Prop} {σ:Aq} {ι:Bm},Wf xs H K->St σ ι H F W w->vs.length=xs.length->(∀(i:Nat) (c:AV) (v:Value),xs[i]? = some c->vs[i]? = some v->Conc σ ι H c v) ->
  ∃k ys H',K ys H'/\Le σ ι H k ι H'/\St k ι H' F W w/\vs.length=ys.length/\∀(i:Nat) (c:AV) (v:Value),ys[i]? = some c->vs[i]? = some v->Conc k ι H' c v
 | [],vs,H,K,σ,ι,h,s,g,hc=>⟨σ,[],H,h,Le.refl _ _ _,s,g,hc⟩
 | x::cs,[],H,K,σ,ι,h,s,g,hc=>by simp at g
 | x::cs,v::vs,H,K,σ,ι,h,s,g,hc=>by
  simp only [Wf] at h
  obtain ⟨G,y,I,h1,f,A,D⟩:=Afn h s (hc 0 x v (by simp) (by simp))
  obtain ⟨q,ys,E,h2,b,z,l,B⟩:=Afr (vs:=vs) h1 A (by simpa using g) (fun i c u j hu=>(hc (i+1) c u (by simpa using j) (by simpa using hu)).mono f)
  refine ⟨q,y::ys,E,h2,f.trans b,z,by simp [l],fun i c u j hu=>?_⟩
  cases i with
  | zero=>simp at j hu; subst j; subst hu; exact D.mono b
  | succ i=>exact B i c u (by simpa using j) (by simpa using hu)
theorem Ao9 (E:Ck P T) {fn:Func} {fz:Bool} {r:AV} {q:List Bf} {e:Bj} {H:Hp} {σ:Aq} {ι:Bm} {a:Act} (s:St σ ι H F W w) (D:Dv σ ι H e a) (l:∀r∈fn.results.toList,N2 r<a.tmps.size)
  (h:N4 T fz fn.results.toList r q e H):∃v f H',(results fn a.tmps).run P w = .ok v w/\Mi H' 0 q/\Le σ ι H f ι H'/\St f ι H' F W w/\Conc f ι H' r v:=by
 unfold N4 at h
 split at h
 .exact h.elim
 .rename_i xs hx
  obtain ⟨vs,h1,x,z⟩:=Aak E s D l hx
  have key:∃f ys H',(Sg ys=r/\Mi H' 0 q)/\Le σ ι H f ι H'/\St f ι H' F W w/\vs.length=ys.length/\∀(i:Nat) (c:AV) (v:Value),ys[i]? = some c->vs[i]? = some v->Conc f ι H' c v:=by
   cases fz with
   | true=>exact Afr h s x z
   | false=>exact ⟨σ,xs,H,h,Le.refl _ _ _,s,x,z⟩
  obtain ⟨f,ys,H',⟨rfl,k⟩,le,s',b,j⟩:=key
  have g:(fn.results.mapM (N3 a.tmps)).run P w = .ok vs.toArray w:=by
   rw [Array.mapM_eq_mapM_toList]
   simp [h1]
  refine ⟨if h:vs.toArray.size=1 then vs.toArray[0] else .tuple vs.toArray,f,H',?_,k,le,s',?_⟩
  .rw [Afp,Sem.run_bind,g]; rfl
  .match ys,vs,b,j with
   | [y],[v],_,j=>exact j 0 y v rfl rfl
   | [],[],_,_=>exact .tup [] #[] rfl (by simp)
   | y::G::ys,v::A::vs,b,j=>
    have:¬(v::A::vs).toArray.size=1:=by simp
    rw [dif_neg this]
    exact .tup _ _ (by simpa using b) (fun i c u B hu=>j i c u B (by simpa using hu))
   | [],_::_,b,_=>simp at b
   | _::_,[],b,_=>simp at b
   | [_],_::_::_,b,_=>simp at b
   | _::_::_,[_],b,_=>simp at b
theorem St.first {σ:Aq} {ι:Bm} {H:Hp} (s:St σ ι H F W w) (f:List Bf) (hk:∀i,i<f.length->H i=hp f i) (hu:f.all (Bf.under f.length)=true) :
  St σ (fun k=>if k<f.length then ι k else .none) (hp f) F W w:=by
 have B:∀h,h<f.length->(fun k=>if k<f.length then ι k else Loc.none) h=ι h:=fun h j=>if_pos j
 have hH:∀h,h<f.length->hp f h=H h:=fun h j=>(hk h j).symm
 have lt:∀k,(hp f k).live=true->k<f.length:=by
  intro k h
  rcases Nat.lt_or_ge k f.length with h' | h'
  .exact h'
  .rw [Me h'] at h; cases h
 refine ⟨s.sto,s.fra,fun k=>?_,fun k u b h1 h2 h3 q=>?_,s.os,s.tape,s.output,s.glo,s.drw⟩
 .by_cases j:k<f.length
  .have g:=s.obj k
   have l:=List.all_eq_true.1 hu _ (List.mem_of_getElem? (Se j))
   unfold Cf at g ⊢
   rw [hk k j] at g
   dsimp only
   rw [if_pos j]
   cases hx:hp f k with
   | none=>rw [hx] at g; exact g
   | dead=>trivial
   | rows E sz xs=>rw [hx] at g; exact g
   | map es=>rw [hx] at g; exact g
   | cells E cs=>
    rw [hx] at g l
    obtain ⟨b,C,G,h1,h2,h3,q,D⟩:=g
    refine ⟨b,C,G,h1,h2,h3,q,fun i c v x y=>?_⟩
    have hc:=List.all_eq_true.1 l c (List.mem_of_getElem? x)
    refine (D i c v x y).restrict (n:=f.length) B hH ?_
    exact Aad hc
  .unfold Cf
   rw [Me (by omega)]
   exact if_neg j
 .have A:=lt k h1
  have z:=lt u h2
  rw [if_pos A] at h3
  rw [if_pos z] at q
  rw [hH k A] at h1
  rw [hH u z] at h2
  exact s.inj k u b h1 h2 h3 q
def Aal (c:List Bf) (r:AV) (b:List Bf):Bool:=Nat.ble c.length b.length&&r.under b.length&&b.all (Bf.under b.length)
def Sub (x y:AV):Prop:=∀(σ:Aq) (ι:Bm) (H:Hp) (v:Value),Conc σ ι H x v->Conc σ ι H y v
theorem Sub.refl (x:AV):Sub x x:=fun _ _ _ _ h=>h
theorem Sub.nil (sz:Nat):Sub (.val (.slice none 0 0)) (.sl sz []):=fun _ _ _ _ h=>V7 rfl h
def Mj:List AV->List AV->Prop
 | [],[]=>True
 | x::xs,y::ys=>Sub x y/\Mj xs ys
 | _,_=>False
theorem Mj.spec:∀{xs ys:List AV},Mj xs ys->xs.length=ys.length/\∀(i:Nat) (y:AV),ys[i]? = some y->∃x,xs[i]? = some x/\Sub x y
 | [],[],_=>⟨rfl,by simp⟩
 | [],_::_,h=>h.elim
 | _::_,[],h=>h.elim
 | x::xs,y::ys,h=>by
  obtain ⟨h1,h2⟩:=Mj.spec h.2
  refine ⟨by simp [h1],fun i z b=>?_⟩
  cases i with
  | zero=>simp at b; subst b; exact ⟨x,rfl,h.1⟩
  | succ i=>simpa using h2 i z (by simpa using b)
theorem Sub.agg {xs ys:List AV} (h:Mj xs ys):Sub (.agg xs) (.agg ys):=by
 intro σ ι H v hc
 obtain ⟨vs,rfl,f,b⟩:=hc.agg_inv
 obtain ⟨h1,h2⟩:=h.spec
 refine .agg _ vs (by rw [<-h1]; exact f) fun i c u h3 k=>?_
 obtain ⟨x,j,g⟩:=h2 i c h3
 exact g _ _ _ _ (b i x u j k)
theorem Aw.sub {f:FuncId} {args b:List AV} {r k:AV} (h:Aw P f b r) (ha:Mj args b) (q:Sub r k):Aw P f args k:=by
 refine ⟨h.1,fun σ F W w vs s hc=>?_⟩
 obtain ⟨h1,h2⟩:=ha.spec
 refine (h.2 σ F W w vs s ⟨by rw [<-h1]; exact hc.1,fun i a v h3 j=>?_⟩).mono ?_
 .obtain ⟨x,g,c⟩:=h2 i a h3
  exact c _ _ _ _ (hc.2 i x v g j)
 .rintro e w' ⟨v,l,h3,j,g,c⟩
  exact ⟨v,l,h3,j,g,q _ _ _ _ c⟩
theorem Br.sub {f:FuncId} {args b:List AV} {g c:List Bf} {r:AV} (h:Br P f b g r c) (ha:Mj args b):Br P f args g r c:=by
 refine ⟨h.1,fun σ F W w ι vs s hc=>?_⟩
 obtain ⟨h1,h2⟩:=ha.spec
 refine h.2 σ F W w ι vs s ⟨by rw [<-h1]; exact hc.1,fun i a v h3 l=>?_⟩
 obtain ⟨x,k,j⟩:=h2 i a h3
 exact j _ _ _ _ (hc.2 i x v k l)
end
end Go.Ab
namespace Go.Ab
inductive D5 (K:Prop):Prop where
 | mk (k:K)
def opK (P:Program) (T:Cj) (an:Nat->Ann) (nl:Nat->List (Nat×Nat)) (o:Oper) (n:Nat) (e:Bj) (H:Hp) (acc:Gi) (K:Nat->Bj->Hp->Gi->Prop):Prop :=
 Dm P T an n o (ev e) H fun b m=>Iu (Jo (J8 nl o.dst) b.r) fun r=>K0 b.wr fun wr=>G2 b.rd fun f=>G2 wr fun c=>Hi e o.dst r H wr fun e H=>D5 (K m e H (acc++[(f,c)]))
def Sh (o:Oper) (n:Nat) (e:Bj) (H:Hp) (acc:Gi) (K:Nat->Bj->Hp->Gi->Prop):Prop :=
 Hi e o.dst (.val undef) H [] fun e H=>D5 (K n e H (acc++[([],[])]))
def Dz (P:Program) (T:Cj) (an:Nat->Ann) (nl:Nat->List (Nat×Nat)) (ops:Array Oper):List Oper->Nat->Bj->Hp->Gi->(Nat->Bj->Hp->Gi->Prop)->Prop
 | [],n,e,H,acc,K=>K n e H acc
 | o::os,n,e,H,acc,K=>
  match o.guard with
  | none=>opK P T an nl o n e H acc fun n e H acc=>Dz P T an nl ops os n e H acc K
  | some p=>
   match (ops[p.1]?).bind (·.dst) with
   | none=>False
   | some s=>
    match e s with
    | .val v=>bif Nu v==some p.2 then opK P T an nl o n e H acc fun n e H acc=>Dz P T an nl ops os n e H acc K
     else Sh o n e H acc fun n e H acc=>Dz P T an nl ops os n e H acc K
    | _=>False
section
variable {P:Program} {T:Cj} {an:Nat->Ann} {nl:Nat->List (Nat×Nat)} {ops:Array Oper}
theorem Aam (G:Ck P T):∀(os:List Oper) (i n:Nat) (e:Bj) (H:Hp) (acc:Gi) (K:Nat->Bj->Hp->Gi->Prop),ops.toList.drop i=os->acc.length=i->D2 H n->Dz P T an nl ops os n e H acc K ->
  ∃b e' H' accs,K b e' H' accs/\accs.take i=acc/\accs.length=i+os.length/\n<=b/\D2 H' b/\Run P ops (fun k=>accs.getD k ([],[])) (List.range' i os.length) e H e' H'
 | [],i,n,e,H,acc,K,hd,j,y,h=>⟨n,e,H,acc,h,by rw [<-j]; simp,by simpa using j,Nat.le_refl _,y,.nil e H⟩
 | o::os,i,n,e,H,acc,K,hd,j,y,h=>by
  have J:ops[i]? = some o:=by
   have:=congrArg (fun l=>l[0]?) hd
   simpa using this
  have u:ops.toList.drop (i+1)=os:=by
   have:=congrArg (List.drop 1) hd
   simpa [List.drop_drop] using this
  have run:Gg ops o e true->(opK P T an nl o n e H acc fun n e H acc=>Dz P T an nl ops os n e H acc K) ->
    ∃b e' H' accs,K b e' H' accs/\accs.take i=acc/\accs.length=i+(o::os).length/\n<=b/\D2 H' b/\Run P ops (fun k=>accs.getD k ([],[])) (List.range' i (o::os).length) e H e' H':=by
   intro D g
   obtain ⟨c,m,h1,h2,h3,S,N⟩:=Afe G y g
   simp only [Pr,Z8,Z9,V8] at h3
   obtain ⟨b,e',H',accs,B,x,M,L,A,z⟩:=Aam G os (i+1) m _ _ _ K u (by simp [j]) N h3.1
   have E:accs[i]? = some (c.rd.map (·.1),c.wr.map (·.1)):=by
    have R:(accs.take (i+1))[i]? = accs[i]?:=List.getElem?_take_of_lt (by omega)
    rw [<-R,x,List.getElem?_append_right (by omega)]
    simp [j]
   have q:accs.getD i ([],[])=(c.rd.map (·.1),c.wr.map (·.1)):=by simp [List.getD,E]
   refine ⟨b,e',H',accs,B,?_,by simp only [List.length_cons]; omega,by omega,A,?_⟩
   .have:=congrArg (List.take i) x
    rw [List.take_take] at this
    simpa [j] using this
   .rw [List.length_cons,List.range'_succ]
    refine .cons o (Jo (J8 nl o.dst) c.r) c.wr ⟨J,.inl ⟨D,_,h1.nils (J8 nl o.dst),h2,?_,?_,rfl,rfl⟩⟩ z
    .intro p hp; show p.1∈(accs.getD i ([],[])).1; rw [q]; exact List.mem_map_of_mem hp
    .intro p hp; show p.1∈(accs.getD i ([],[])).2; rw [q]; exact List.mem_map_of_mem hp
  have skip:Gg ops o e false->(Sh o n e H acc fun n e H acc=>Dz P T an nl ops os n e H acc K) ->
    ∃b e' H' accs,K b e' H' accs/\accs.take i=acc/\accs.length=i+(o::os).length/\n<=b/\D2 H' b/\Run P ops (fun k=>accs.getD k ([],[])) (List.range' i (o::os).length) e H e' H':=by
   intro D g
   unfold Sh at g
   rw [V8] at g
   obtain ⟨b,e',H',accs,B,x,M,L,A,z⟩:=Aam G os (i+1) n _ _ _ K u (by simp [j]) y g.1
   refine ⟨b,e',H',accs,B,?_,by simp only [List.length_cons]; omega,by omega,A,?_⟩
   .have:=congrArg (List.take i) x
    rw [List.take_take] at this
    simpa [j] using this
   .rw [List.length_cons,List.range'_succ]
    exact .cons o (.val undef) [] ⟨J,.inr ⟨D,rfl,rfl⟩⟩ z
  simp only [Dz] at h
  cases f:o.guard with
  | none=>
   rw [f] at h
   exact run (by unfold Gg; rw [f]) h
  | some p=>
   rw [f] at h
   simp only [] at h
   cases g:(ops[p.1]?).bind (·.dst) with
   | none=>rw [g] at h; exact h.elim
   | some s=>
    rw [g] at h
    simp only [] at h
    split at h
    .rename_i v I
     cases hb:Nu v==some p.2 with
     | true=>rw [hb] at h; exact run (by unfold Gg; rw [f]; exact ⟨s,v,g,I,hb.symm⟩) h
     | false=>rw [hb] at h; exact skip (by unfold Gg; rw [f]; exact ⟨s,v,g,I,hb.symm⟩) h
    .exact h.elim
variable {o:Oper} {os:List Oper} {n:Nat} {e:Bj} {H:Hp} {acc:Gi} {K:Nat->Bj->Hp->Gi->Prop} {β:Type} {r:β}
theorem nx (k:opK P T an nl o n e H acc fun n e H acc=>Dz P T an nl ops os n e H acc K) (b:o.guard=none:=by exact rfl):D5 (Dz P T an nl ops (o::os) n e H acc K):=.mk (by simp only [Dz,b]; exact k)
theorem Jp (k:K n e H acc):D5 (Dz P T an nl ops [] n e H acc K):=.mk k
theorem Apa (p:Nat×Bool) (s:Nat) (k:opK P T an nl o n e H acc fun n e H acc=>Dz P T an nl ops os n e H acc K) (c:o.guard=some p:=by exact rfl) (b:(ops[p.1]?).bind (·.dst)=some s:=by exact rfl) (hb:e s = .val (.bool p.2):=by exact rfl):D5 (Dz P T an nl ops (o::os) n e H acc K) :=
 .mk (by simp only [Dz,c,b,hb,Nu,BEq.rfl,cond_true]; exact k)
theorem Apb (p:Nat×Bool) (s:Nat) (v:Value) (k:Sh o n e H acc fun n e H acc=>Dz P T an nl ops os n e H acc K) (f:o.guard=some p:=by exact rfl) (c:(ops[p.1]?).bind (·.dst)=some s:=by exact rfl) (hb:e s = .val v:=by exact rfl) (b:(Nu v==some p.2)=false:=by exact rfl):D5 (Dz P T an nl ops (o::os) n e H acc K) :=
 .mk (by simp only [Dz,f,c,hb,b,cond_false]; exact k)
theorem Mk {p:Nat×Bool} {s:Nat} (k:opK P T an nl o n e H acc fun n e H acc=>Dz P T an nl ops os n e H acc K) (c:o.guard=some p:=by exact rfl) (b:(ops[p.1]?).bind (·.dst)=some s:=by exact rfl) (hb:e s = .val (.bool p.2):=by exact rfl):D5 (Dz P T an nl ops (o::os) n e H acc K):=Apa p s k c b hb
theorem Ml {p:Nat×Bool} {s:Nat} {v:Value} (k:Sh o n e H acc fun n e H acc=>Dz P T an nl ops os n e H acc K) (f:o.guard=some p:=by exact rfl) (c:(ops[p.1]?).bind (·.dst)=some s:=by exact rfl) (hb:e s = .val v:=by exact rfl) (b:(Nu v==some p.2)=false:=by exact rfl):D5 (Dz P T an nl ops (o::os) n e H acc K):=Apb p s v k f c hb b
theorem Apc {s:Nat} {b:Bool} {m c:Option β} {X:List Oper} (h:(bif b then m else c)=some r) (h1:b=true->m=some r->D5 (Dz P T an nl ops X n (Ax e s (.val (.bool true))) H acc K))
  (h2:b=false->c=some r->D5 (Dz P T an nl ops X n (Ax e s (.val (.bool false))) H acc K)) (hb:e s = .val (.bool b):=by exact rfl):D5 (Dz P T an nl ops X n e H acc K):=by
 cases b with
 | true=>have:=h1 rfl h; rwa [Wa hb] at this
 | false=>have:=h2 rfl h; rwa [Wa hb] at this
end
end Go.Ab
namespace Go.Ab
theorem St.recell {σ:Aq} {ι:Bm} {H:Hp} {F:Aq} {W w:World} (s:St σ ι H F W w) (h:Nat) (E:TypeId) (cs f:List AV) (hh:H h = .cells E cs) (l:f.length=cs.length)
  (hc:∀(i:Nat) (c j:AV) (v:Value),cs[i]? = some c->f[i]? = some j->Conc σ ι H c v->Conc σ ι H j v) :
  St σ ι (Ax H h (.cells E f)) F W w/\Le σ ι H σ ι (Ax H h (.cells E f)):=by
 have k:=s.obj h
 unfold Cf at k
 rw [hh] at k
 obtain ⟨b,C,hb,h1,h2,h3,B,A⟩:=k
 have le:Le σ ι H σ ι (Ax H h (.cells E f)):=by
  have:=Le.upd (ι:=ι) (H:=H) (Aq.le_refl σ) h (ι h) (.cells E f) (by rw [hh]; exact ⟨fun _ e=>e,(fun _ e=>by cases e),(fun _ _ _ _ e=>by cases e)⟩)
  rwa [Gf] at this
 refine ⟨s.touch h b (fun _ _=>rfl) (fun x e=>Cr _ _ e) le (fun x e=>rfl) (fun _ _=>rfl) (fun o e=>by rw [h1] at e; cases e) ?_ h2 ?_ ?_ rfl rfl rfl,le⟩
 .intro x e l q
  exact e (s.inj x h b l (by rw [hh]; rfl) q (by rw [hb]; rfl))
 .intro D _ u
  exact .inr ⟨by rw [hh]; rfl,u⟩
 .unfold Cf
  rw [B8]
  refine ⟨b,C,hb,h1,h2,h3,by omega,fun i j v x y=>?_⟩
  have z:i<cs.length:=by rw [<-l]; exact (List.getElem?_eq_some_iff.1 x).1
  have g:cs[i]? = some cs[i]:=List.getElem?_eq_getElem z
  exact (hc i _ j v g x (A i _ v g y)).mono le
inductive Gh where
 | fz (s:Nat)
 | own (s j:Nat) (e:TypeId) (sz:Nat)
 | nil (s j sz:Nat)
 | fzc (s j:Nat)
 | fzp (s:Nat)
 | fzcp (s j:Nat)
def gxs:List Gh->Nat->Bj->Hp->(Nat->Bj->Hp->Prop)->Prop
 | [],n,e,H,K=>K n e H
 | .fz s::gs,n,e,H,K=>
  match e s with
  | .arr h k 0 len=>
   match H h with
   | .rows _ sz xs=>Fa k xs (Fa len xs (gxs gs n (Ax e s (.sl sz xs)) (Ax H h .dead) K))
   | _=>False
  | _=>False
 | .fzp s::gs,n,e,H,K=>
  match e s with
  | .arr h k 0 len=>
   match H h with
   | .rows _ sz xs=>Fa k xs (Aex len k (Aey xs len fun ys=>gxs gs n (Ax e s (.sl sz ys)) (Ax H h .dead) K))
   | _=>False
  | _=>False
 | .own s j E sz::gs,n,e,H,K=>
  match e s with
  | .loc h _=>
   match H h with
   | .cells T cs=>
    match cs[j]? with
    | some x=>bif Jl x&&Nat.blt 0 sz then gxs gs (n+1) e (Ax (Ax H n (.rows E sz [])) h (.cells T (cs.set j (.arr n 0 0 0)))) K else False
    | none=>False
   | _=>False
  | _=>False
 | .nil s j sz::gs,n,e,H,K=>
  match e s with
  | .loc h _=>
   match H h with
   | .cells T cs=>
    match cs[j]? with
    | some x=>bif Jl x then gxs gs n e (Ax H h (.cells T (cs.set j (.sl sz [])))) K else False
    | none=>False
   | _=>False
  | _=>False
 | .fzc s j::gs,n,e,H,K=>
  match e s with
  | .loc h _=>
   match H h with
   | .cells T cs=>
    match cs[j]? with
    | some (.arr h' k 0 len)=>
     match H h' with
     | .rows _ sz xs=>Fa k xs (Fa len xs (gxs gs n e (Ax (Ax H h' .dead) h (.cells T (cs.set j (.sl sz xs)))) K))
     | _=>False
    | _=>False
   | _=>False
  | _=>False
 | .fzcp s j::gs,n,e,H,K=>
  match e s with
  | .loc h _=>
   match H h with
   | .cells T cs=>
    match cs[j]? with
    | some (.arr h' k 0 len)=>
     match H h' with
     | .rows _ sz xs=>Fa k xs (Aex len k (Aey xs len fun ys=>gxs gs n e (Ax (Ax H h' .dead) h (.cells T (cs.set j (.sl sz ys)))) K))
     | _=>False
    | _=>False
   | _=>False
  | _=>False
section
variable {F:Aq} {W:World}
theorem Afs {cs:List AV} {j i:Nat} {y c b:AV} {P:AV->AV->Prop} (h1:cs[i]? = some c) (h2:(cs.set j y)[i]? = some b) (f:P c c) (hy:i=j->P c y):P c b:=by
 rw [List.getElem?_set] at h2
 split at h2
 .rename_i e
  split at h2
  .cases h2; exact hy e.symm
  .cases h2
 .rw [h1] at h2; cases h2; exact f
theorem Mm {H:Hp} {n h:Nat} {o:Bf} (b:D2 H n) (hh:H h≠.none):D2 (Ax H h o) n:=by
 intro m c
 rw [Cr _ _ (fun e=>hh (by rw [<-e]; exact b m c))]; exact b m c
theorem Aft {σ:Aq} {ι:Bm} {w:World} {H:Hp} {hd h' j k len:Nat} {T E:TypeId} {sz:Nat} {cs xs ys:List AV} (s:St σ ι H F W w) (hh:H hd = .cells T cs) (Y:cs[j]? = some (.arr h' k 0 len)) (g:H h' = .rows E sz xs) (hk:xs.length=k) (V:len<=xs.length) (hy:xs.take len=ys) :
  ∃c,Le σ ι H c ι (Ax (Ax H h' .dead) hd (.cells T (cs.set j (.sl sz ys))))/\St c ι (Ax (Ax H h' .dead) hd (.cells T (cs.set j (.sl sz ys)))) F W w:=by
 obtain ⟨c,G,D,M⟩:=s.freeze g
 have J:hd≠h':=by intro B; subst B; rw [hh] at g; cases g
 have f:Ax H h' .dead hd = .cells T cs:=by rw [Cr _ _ J]; exact hh
 have h:=s.obj hd
 unfold Cf at h; rw [hh] at h
 obtain ⟨b,C,B,g1,g2,g3,g4,g5⟩:=h
 have l:∀v,C[j]? = some v->Conc c ι (Ax H h' .dead) (.sl sz ys) v:=by
  intro v X
  have hc:=g5 j _ v Y X
  have:=M 0 len _ (by omega) (hc.arr_inv g hk)
  rw [List.drop_zero,hy] at this
  exact .cc this
 have U:St c ι (Ax (Ax H h' .dead) hd (.cells T (cs.set j (.sl sz ys)))) F W w/\Le c ι (Ax H h' .dead) c ι (Ax (Ax H h' .dead) hd (.cells T (cs.set j (.sl sz ys)))):=by
  have I:=D.obj hd
  unfold Cf at I; rw [f] at I
  obtain ⟨b',C',A,z,u,q,Z,S⟩:=I
  rw [B] at A; cases A
  rw [g3] at q; cases q
  have le:Le c ι (Ax H h' .dead) c ι (Ax (Ax H h' .dead) hd (.cells T (cs.set j (.sl sz ys)))):=by
   have:=Le.upd (ι:=ι) (H:=Ax H h' .dead) (Aq.le_refl c) hd (ι hd) (.cells T (cs.set j (.sl sz ys))) (by rw [f]; exact ⟨fun _ e=>e,(fun _ e=>by cases e),(fun _ _ _ _ e=>by cases e)⟩)
   rwa [Gf] at this
  refine ⟨D.touch hd b (fun _ _=>rfl) (fun x e=>Cr _ _ e) le (fun x e=>rfl) (fun _ _=>rfl) (fun o e=>by rw [z] at e; cases e) ?_ u ?_ ?_ rfl rfl rfl,le⟩
  .intro x e V N
   exact e (D.inj x hd b V (by rw [f]; rfl) N (by rw [B]; rfl))
  .intro b0 _ R
   exact .inr ⟨by rw [f]; rfl,R⟩
  .unfold Cf
   rw [B8]
   refine ⟨b,C,B,z,u,g3,by simpa using g4,fun i c' v x y=>?_⟩
   rw [List.getElem?_set] at x
   split at x
   .rename_i L
    split at x
    .cases x; subst L; exact (l v y).mono le
    .cases x
   .exact (S i c' v x y).mono le
 exact ⟨c,G.trans U.2,U.1⟩
theorem N5:∀(y:List Gh) {n:Nat} {e:Bj} {H:Hp} {K:Nat->Bj->Hp->Prop} {σ:Aq} {ι:Bm} {a:Act} {w:World},gxs y n e H K->St σ ι H F W w->Dv σ ι H e a->D2 H n ->
  ∃σ' ι' n' e' H',K n' e' H'/\Le σ ι H σ' ι' H'/\St σ' ι' H' F W w/\Dv σ' ι' H' e' a/\D2 H' n'/\n<=n'
 | [],n,e,H,K,σ,ι,a,w,h,s,u,l=>⟨σ,ι,n,e,H,h,Le.refl _ _ _,s,u,l,Nat.le_refl _⟩
 | .fz t::y,n,e,H,K,σ,ι,a,w,h,s,u,l=>by
  simp only [gxs] at h
  split at h
  .rename_i hd k len hx
   split at h
   .rename_i E sz xs hh
    obtain ⟨hk,hl,h⟩:=h
    obtain ⟨σ1,f,B,Y⟩:=s.freeze hh
    have Z:Dv σ1 ι (Ax H hd .dead) (Ax e t (.sl sz xs)) a:=by
     intro q hq
     by_cases R:q=t
     .subst R
      rw [B8]
      have hc:=u q hq
      rw [hx] at hc
      have:=Y 0 len _ (by omega) (hc.arr_inv hh hk)
      rw [List.drop_zero,List.take_of_length_le (by omega)] at this
      exact .cc this
     .rw [Cr _ _ R]; exact (u q hq).mono f
    obtain ⟨z,A,D,N,S,M,L,J,I,G,U⟩:=N5 y h B Z (Mm l (by rw [hh]; intro e; cases e))
    exact ⟨z,A,D,N,S,M,f.trans L,J,I,G,U⟩
   .exact h.elim
  .exact h.elim
 | .fzp t::y,n,e,H,K,σ,ι,a,w,h,s,u,l=>by
  simp only [gxs] at h
  split at h
  .rename_i hd k len hx
   split at h
   .rename_i E sz xs hh
    obtain ⟨hk,hl,ys,hy,h⟩:=h
    obtain ⟨σ1,f,B,Y⟩:=s.freeze hh
    have Z:Dv σ1 ι (Ax H hd .dead) (Ax e t (.sl sz ys)) a:=by
     intro q hq
     by_cases R:q=t
     .subst R
      rw [B8]
      have hc:=u q hq
      rw [hx] at hc
      have:=Y 0 len _ (by omega) (hc.arr_inv hh hk)
      rw [List.drop_zero,hy] at this
      exact .cc this
     .rw [Cr _ _ R]; exact (u q hq).mono f
    obtain ⟨z,A,D,N,S,M,L,J,I,G,U⟩:=N5 y h B Z (Mm l (by rw [hh]; intro e; cases e))
    exact ⟨z,A,D,N,S,M,f.trans L,J,I,G,U⟩
   .exact h.elim
  .exact h.elim
 | .own t j E sz::y,n,e,H,K,σ,ι,a,w,h,s,u,l=>by
  simp only [gxs] at h
  split at h
  .rename_i hd off hx
   split at h
   .rename_i T cs hh
    split at h
    .rename_i x V
     obtain ⟨hb,h⟩:=Ev h
     rw [Bool.and_eq_true] at hb
     have a7:hd≠n:=by
      intro R; subst R
      have:=l hd (Nat.le_refl _); rw [hh] at this; cases this
     obtain ⟨s0,a1⟩:=s.newNil n (l n (Nat.le_refl _)) E sz (Fk hb.2)
     have a6:Ax H n (.rows E sz []) hd = .cells T cs:=by rw [Cr _ _ a7]; exact hh
     obtain ⟨B,f⟩:=s0.recell hd T cs (cs.set j (.arr n 0 0 0)) a6 (by simp) (by
      intro i c c' v h1 h2 h3
      refine Afs (P:=fun a b=>Conc σ _ _ a v->Conc σ _ _ b v) h1 h2 (fun h=>h) (fun X h=>?_) h3
      subst X
      rw [V] at h1; cases h1
      rw [V6 hb.1] at h
      rw [h.val_inv]
      refine .arr _ _ _ _ _ (by rw [B8]; intro e; cases e) (fun E' ab aa e'=>?_) rfl
      rw [B8] at e'; cases e'
      exact ⟨by simp,fun _=>by rw [B8]; exact ⟨rfl,rfl,rfl⟩⟩)
     have a8:D2 (Ax (Ax H n (.rows E sz [])) hd (.cells T (cs.set j (.arr n 0 0 0)))) (n+1):=by
      refine Mm ?_ (by rw [a6]; intro e; cases e)
      intro m hm
      rw [Cr _ _ (by omega)]; exact l m (by omega)
     obtain ⟨z,A,D,N,S,M,L,J,I,G,U⟩:=N5 y h B (u.mono (a1.trans f)) a8
     exact ⟨z,A,D,N,S,M,(a1.trans f).trans L,J,I,G,by omega⟩
    .exact h.elim
   .exact h.elim
  .exact h.elim
 | .nil t j sz::y,n,e,H,K,σ,ι,a,w,h,s,u,l=>by
  simp only [gxs] at h
  split at h
  .rename_i hd off hx
   split at h
   .rename_i T cs hh
    split at h
    .rename_i x V
     obtain ⟨hb,h⟩:=Ev h
     obtain ⟨B,f⟩:=s.recell hd T cs (cs.set j (.sl sz [])) hh (by simp) (by
      intro i c c' v h1 h2 h3
      refine Afs (P:=fun a b=>Conc σ _ _ a v->Conc σ _ _ b v) h1 h2 (fun h=>h) (fun X h=>?_) h3
      subst X
      rw [V] at h1; cases h1
      exact V7 hb h)
     obtain ⟨z,A,D,N,S,M,L,J,I,G,U⟩:=N5 y h B (u.mono f) (Mm l (by rw [hh]; intro e; cases e))
     exact ⟨z,A,D,N,S,M,f.trans L,J,I,G,U⟩
    .exact h.elim
   .exact h.elim
  .exact h.elim
 | .fzc t j::y,n,e,H,K,σ,ι,a,w,h,s,u,l=>by
  simp only [gxs] at h
  split at h
  .rename_i hd off hx
   split at h
   .rename_i T cs hh
    split at h
    .rename_i h' k len V
     split at h
     .rename_i E sz xs g
      obtain ⟨hk,hl,h⟩:=h
      obtain ⟨σ1,f,B⟩:=Aft s hh V g hk (by omega) (List.take_of_length_le (by omega))
      obtain ⟨z,A,D,N,S,M,L,J,I,G,U⟩:=N5 y h B (u.mono f) (Mm (Mm l (by rw [g]; intro e; cases e)) (by rw [Cr _ _ (by intro R; subst R; rw [hh] at g; cases g)]; rw [hh]; intro e; cases e))
      exact ⟨z,A,D,N,S,M,f.trans L,J,I,G,U⟩
     .exact h.elim
    .exact h.elim
   .exact h.elim
  .exact h.elim
 | .fzcp t j::y,n,e,H,K,σ,ι,a,w,h,s,u,l=>by
  simp only [gxs] at h
  split at h
  .rename_i hd off hx
   split at h
   .rename_i T cs hh
    split at h
    .rename_i h' k len V
     split at h
     .rename_i E sz xs g
      obtain ⟨hk,hl,ys,hy,h⟩:=h
      obtain ⟨σ1,f,B⟩:=Aft s hh V g hk (by omega) (hy)
      obtain ⟨z,A,D,N,S,M,L,J,I,G,U⟩:=N5 y h B (u.mono f) (Mm (Mm l (by rw [g]; intro e; cases e)) (by rw [Cr _ _ (by intro R; subst R; rw [hh] at g; cases g)]; rw [hh]; intro e; cases e))
      exact ⟨z,A,D,N,S,M,f.trans L,J,I,G,U⟩
     .exact h.elim
    .exact h.elim
   .exact h.elim
  .exact h.elim
end
end Go.Ab
namespace Go.Ab
def Gu {S E:Type} (step:S->Option (S⊕E)):Nat->S->Option E
 | 0,_=>none
 | n+1,s=>
  match step s with
  | none=>none
  | some (.inl s')=>Gu step n s'
  | some (.inr e)=>some e
theorem Aan {S E:Type} {step:S->Option (S⊕E)}:∀{n:Nat} {s:S} {e:E},Gu step n s=some e->∀m,n<=m->Gu step m s=some e
 | 0,s,e,h,_,_=>by cases h
 | n+1,s,e,h,0,c=>by omega
 | n+1,s,e,h,m+1,c=>by
  simp only [Gu] at h ⊢
  cases b:step s with
  | none=>rw [b] at h; cases h
  | some o=>
   rw [b] at h
   cases o with
   | inl s'=>exact Aan (n:=n) h m (by omega)
   | inr e'=>exact h
theorem Afu {S E:Type} {step:S->Option (S⊕E)} {n m:Nat} {s:S} {e e':E} (h:Gu step n s=some e) (h':Gu step m s=some e'):e=e':=by
 have h1:=Aan h (max n m) (by omega)
 have h2:=Aan h' (max n m) (by omega)
 rw [h1] at h2; exact Option.some.inj h2
open Classical in
noncomputable def Al {S E:Type} (step:S->Option (S⊕E)) (s:S):Option E :=
 match Gu step 4096 s with
 | some e=>some e
 | none=>if h:∃n e,Gu step n s=some e then some (Classical.choose (Classical.choose_spec h)) else none
theorem Aao {S E:Type} {step:S->Option (S⊕E)} {s:S} {e:E} (h:Al step s=some e):∃n,Gu step n s=some e:=by
 unfold Al at h
 split at h
 .rename_i e' b
  cases h
  exact ⟨_,b⟩
 .split at h
  .rename_i hx
   cases h
   exact ⟨_,Classical.choose_spec (Classical.choose_spec hx)⟩
  .cases h
theorem Aap {S E:Type} {step:S->Option (S⊕E)} {s:S} {e:E} {n:Nat} (h:Gu step n s=some e):Al step s=some e:=by
 have hx:∃n e,Gu step n s=some e:=⟨n,e,h⟩
 unfold Al
 split
 .rename_i e' b
  exact congrArg some (Afu b h)
 rw [dif_pos hx]
 exact congrArg some (Afu (Classical.choose_spec (Classical.choose_spec hx)) h)
theorem Eh {S E:Type} {step:S->Option (S⊕E)} {s:S} {e:E} (h:step s=some (.inr e)):Al step s=some e :=
 Aap (n:=1) (by simp only [Gu,h])
theorem Iw {S E:Type} {step:S->Option (S⊕E)} {s s':S} (h:step s=some (.inl s')):Al step s=Al step s':=by
 cases h':Al step s' with
 | some e=>
  obtain ⟨n,b⟩:=Aao h'
  exact Aap (n:=n+1) (by simp only [Gu,h]; exact b)
 | none=>
  cases c:Al step s with
  | none=>rfl
  | some e=>
   obtain ⟨n,b⟩:=Aao c
   cases n with
   | zero=>cases b
   | succ n=>
    simp only [Gu,h] at b
    rw [Aap b] at h'; cases h'
theorem Ln {S E:Type} {step:S->Option (S⊕E)} (c:S->Prop) (m:S->Nat) (b:E->Prop)
  (f:∀s,c s->(∃s',step s=some (.inl s')/\c s'/\m s' < m s)\/(∃e,step s=some (.inr e)/\b e)) (s:S) (h0:c s):∃e,Al step s=some e/\b e:=by
 generalize hk:m s=k
 induction k using Nat.strongRecOn generalizing s with
 | _ k ih=>
  rcases f s h0 with ⟨s',h1,h2,h3⟩ | ⟨e,h1,h2⟩
  .obtain ⟨e,h,g⟩:=ih (m s') (by omega) s' h2 rfl
   exact ⟨e,by rw [Iw h1]; exact h,g⟩
  .exact ⟨e,Eh h1,h2⟩
def Af {α:Type} (l:List α) (i:Int):Option α:=if 0<=i then l[i.toNat]? else none
def D0 {α:Type} (l:List α) (lo b:Int):Option (List α):=if 0<=lo/\lo<=b/\b<=l.length then some ((l.take b.toNat).drop lo.toNat) else none
def B4 {α:Type} (b:Nat) (xs ys:List α):Option (List α):=if (xs.length+ys.length)*b<=140737488355328 then some (xs++ys) else none
def Ei {α:Type} (c:Nat) (len b:Int) (z:α):Option (List α):=if 0<=len/\len<=b/\c*b.toNat<=281474976710656/\b<=140737488355328 then some (List.replicate len.toNat z) else none
def Hm {α:Type} (l:List α) (off n:Nat) (i:Int):Option α:=if 0<=i/\i<n then l[off+i.toNat]? else none
def Si (n:Nat) (lo b:Int):Option (Nat×Nat):=if 0<=lo/\lo<=b/\b<=n/\(lo=0\/lo<b) then some (lo.toNat,b.toNat) else none
def Fg {α:Type} (n:Nat) (l:List α):Option Unit:=if n=l.length then some () else none
theorem Hn {α:Type} {n:Nat} {l:List α} {u:Unit} (h:Fg n l=some u):n=l.length:=by
 unfold Fg at h
 split at h
 .assumption
 .cases h
theorem Apd (off:Nat) {i:Int} {n:Nat} (h:i=n):((off:Nat):Int)+i=((off+n:Nat):Int):=by omega
def Lo (n:Int):Option ByteArray:=if -9223372036854775808<=n/\n<=9223372036854775807 then some ⟨(Lib.itoa n).toArray⟩ else none
def Wg (a b:Int):Option ByteArray:=bif b==10 then Lo a else none
def Dr (l:List Int):List UInt8:=l.map fun n=>UInt8.ofNat n.toNat
def Sj (l:List Int):Option ByteArray:=if (∀x∈l,0<=x/\x<256) then some ⟨(Dr l).toArray⟩ else none
def Ka (s:ByteArray):List Int:=s.data.toList.map fun b=>(b.toNat:Int)
def Cl {α:Type} (l:List α) (i:Int) (x:α):List α:=l.set i.toNat x
def E6 (k:IntKind) (a b:Int):Option Int:=if b=0 then none else some (k.wrap (a.tdiv b))
def Fb (a b:Int):Option Int:=if b=0 then none else some (a.tmod b)
def Afv (k:IntKind) (a b:Int):Option Int:=if 0<=b then some (k.wrap (a*2 ^ (min b.toNat k.bits))) else none
def Sk (k:IntKind) (a b:Int):Option Int:=if 0<=b then some (a.fdiv (2 ^ (min b.toNat k.bits))) else none
def G3 (s:ByteArray) (i:Int):Option UInt8:=if 0<=i then s[i.toNat]? else none
def Ed (a b:ByteArray):Option ByteArray:=if a.size+b.size<=9223372036854775807 then some (a++b) else none
def Ey (s:ByteArray) (lo b:Int):Option ByteArray:=if 0<=lo/\lo<=b/\b<=s.size then some (s.extract lo.toNat b.toNat) else none
abbrev Ac (n:Int):Int:=IntKind.i64.wrap n
abbrev Au (n:Int):Int:=IntKind.u64.wrap n
abbrev B1 (n:Int):Int:=IntKind.u32.wrap n
abbrev wu8 (n:Int):Int:=IntKind.u8.wrap n
theorem Afw {α:Type} {l:List α} {i:Int} {x:α} (h:Af l i=some x):∃n:Nat,i=n/\l[n]? = some x:=by
 unfold Af at h
 split at h
 .exact ⟨i.toNat,by omega,h⟩
 .cases h
section
variable {β:Type} {r:β}
theorem C5 {α:Type} {o:Option α} {m:α->Option β} {G:Prop} (h:o.bind m=some r) (k:∀x,o=some x->m x=some r->G):G:=by
 cases o with
 | none=>cases h
 | some x=>exact k x rfl h
theorem Afx {α:Type} {o:Option α} {m:α->Option β} {G:Prop} (h:o.bind m=some r) (k:∀x,o=some x->(∀y,y=x->m y=some r)->G):G:=by
 cases o with
 | none=>cases h
 | some x=>exact k x rfl (fun y hy=>by subst hy; exact h)
theorem Ape {α:Type} {l:List α} {f:α->AV} {ys:List AV} (g:ys=l.map f) {i:Int} {m:α->Option β} {K:Nat->AV->Prop} (h:(Af l i).bind m=some r) (k:∀(n:Nat) (x:α),i=n->l[n]? = some x->m x=some r->K n (f x)):Sa ys i K:=by
 subst g
 refine C5 h fun x hx h=>?_
 obtain ⟨n,b,c⟩:=Afw hx
 exact .mk n (f x) b (by simp [c]) (k n x b c h)
theorem Apf {α:Type} {l:List α} {f:α->AV} {ys:List AV} (q:ys=l.map f) {i:Int} {m:α->Option β} {K:Nat->Prop} {len b:Nat} (j:len=l.length) (hk:b=l.length) (h:(Af l i).bind m=some r) (k:∀(n:Nat) (x:α),i=n->l[n]? = some x->m x=some r->K n):Nw len b ys i K:=by
 subst q
 refine C5 h fun x hx h=>?_
 obtain ⟨n,c,g⟩:=Afw hx
 exact .mk n (by rw [hk]; simp) c (by rw [j]; exact (List.getElem?_eq_some_iff.1 g).1) (k n x c g h)
theorem Apg {α:Type} {l:List α} {f:α->AV} {ys:List AV} (c:ys=l.map f) {i:Int} {m:α->Option β} {K:Nat->Prop} {off len b:Nat} (hk:b=l.length) (h:(Hm l off len i).bind m=some r) (k:∀(n:Nat) (x:α),i=n->l[off+n]? = some x->m x=some r->K n):Nw len b ys i K:=by
 subst c
 refine C5 h fun x hx h=>?_
 unfold Hm at hx
 split at hx
 .rename_i hc
  exact .mk i.toNat (by rw [hk]; simp) (by omega) (by omega) (k _ x (by omega) hx h)
 .cases hx
theorem Aph {α:Type} {l:List α} {f:α->AV} {ys:List AV} (g:ys=l.map f) {c n:Nat} (hk:c=l.length) {lo b:Int} {m:Nat×Nat->Option β} {K:Nat->Nat->Prop} {i:Prop} (h:(Si n lo b).bind m=some r) (k:∀v:Nat×Nat,m v=some r->K v.1 v.2):Aew c ys n lo b K i:=by
 subst g
 refine C5 h fun x hx h=>?_
 unfold Si at hx
 split at hx
 .rename_i hc
  cases hx
  exact .mk lo.toNat b.toNat (by rw [hk]; simp) (by omega) (by omega) (by omega) (by omega) (by omega) (k _ h)
 .cases hx
theorem Afy {op:BinOp} {q:FloatKind} {a b:Nat} {m:Nat->Option β} {K:Nat->Prop} (h:(floatBits op q a b).bind m=some r) (k:∀c,m c=some r->K c):Vz op q a b K :=
 C5 h fun x hx h=>.mk x hx (k x h)
theorem Afz {q:FloatKind} {a:Nat} {z:IntKind} {m:Int->Option β} {K:Int->Prop} (h:(floatToIntVal q a z).bind m=some r) (k:∀c,m c=some r->K c):V1 q a z K :=
 C5 h fun x hx h=>.mk x hx (k x h)
theorem Api {α:Type} {l:List α} {f:α->AV} {ys:List AV} (g:ys=l.map f) {n i b:Nat} {x:α} {K:AV->Prop} (hk:b=l.length) (c:i=n) (hx:l[n]? = some x) (k:K (f x)):Jk b i ys K:=by
 subst g; subst c
 exact .mk (f x) (by rw [hk]; simp) (by simp [hx]) k
theorem Lp {α:Type} {l:List α} {f:α->AV} {ys:List AV} (g:ys=l.map f) {n i:Nat} {j:Int} {x:α} {p:AV} {K:List AV->Prop} (hp:p=f x) (c:i=n) (b:j=(n:Int)) (k:K ((Cl l j x).map f)):Sb ys i p K:=by
 subst g; subst c; subst hp; subst b
 exact .mk _ (by simp [Cl,List.map_set]) k
theorem Gd {α:Type} {l:List α} {k:Nat} (h:k=l.length) (j:Int) (x:α):k=(Cl l j x).length:=by simp [Cl,h]
theorem Af0 {α:Type} {l:List α} {f:α->AV} {ys:List AV} (g:ys=l.map f) {lo b:Int} {m:List α->Option β} {K:List AV->Prop} (h:(D0 l lo b).bind m=some r) (k:∀c:List α,m c=some r->K (c.map f)):Nx ys lo b K:=by
 subst g
 refine C5 h fun x hx h=>?_
 unfold D0 at hx
 split at hx
 .rename_i hc
  cases hx
  exact .mk lo.toNat b.toNat _ (by omega) (by omega) (by omega) (by simp; omega) (by rw [<-List.map_take,<-List.map_drop]) (k _ h)
 .cases hx
theorem Apj {α:Type} {l:List α} {f:α->AV} {ys:List AV} (c:ys=l.map f) {lo:Int} {m:List α->Option β} {K:List AV->Prop} (h:(D0 l lo l.length).bind m=some r) (k:∀b:List α,m b=some r->K (b.map f)):Nx ys lo ys.length K:=by
 have e:((ys.length:Nat):Int)=(l.length:Int):=by rw [c]; simp
 rw [e]
 exact Af0 c h k
theorem Aaq {α:Type} {l ys:List α} {f:α->AV} {xs c:List AV} (q:xs=l.map f) (i:c=ys.map f) {b g len:Nat} {m:List α->Option β} {K:List AV->Nat->Prop} {s:List AV->Nat->Nat->Prop} (hk:g=l.length) (j:len=l.length) (h:(B4 b l ys).bind m=some r)
  (k:∀o:List α,m o=some r->K (o.map f) o.length):Kz xs c g len b K s:=by
 subst q; subst i; subst hk; subst j
 refine C5 h fun x hx h=>?_
 unfold B4 at hx
 split at hx
 .rename_i hc
  cases hx
  exact .mk _ _ (by simp) rfl (by simpa using hc) (by simp) (by simp) (k _ h)
 .cases hx
theorem Apk {l:List Int} {s:ByteArray} {xs:List AV} (i:xs=l.map fun n=>.val (.int .u8 n)) {b c len:Nat} {m:List Int->Option β} {K:List AV->Nat->Prop} {j:List AV->Nat->Nat->Prop} (hk:c=l.length) (g:len=l.length) (h:(B4 b l (Ka s)).bind m=some r)
  (k:∀o:List Int,m o=some r->K (o.map fun n=>.val (.int .u8 n)) o.length):Kz xs (G0 s) c len b K j:=by
 refine Aaq (f:=fun n=>.val (.int .u8 n)) i ?_ hk g h k
 simp [G0,Ka]
theorem Af1 {α:Type} {ys:List α} {f:α->AV} {c:List AV} (g:c=ys.map f) {b:Nat} {m:List α->Option β} {K:List AV->Nat->Prop} (h:(B4 b [] ys).bind m=some r)
  (k:∀o:List α,m o=some r->K (o.map f) o.length):Ny c b K:=by
 subst g
 refine C5 h fun x hx h=>?_
 unfold B4 at hx
 split at hx
 .rename_i hc
  cases hx
  exact .mk _ _ (by simpa using hc) (by simp) (by simp) (k _ h)
 .cases hx
theorem Apl {α:Type} {g:List α->List AV} {f:α->AV} (s:∀l,g l=l.map f) {l ys:List α} {xs c:List AV} (u:xs=l.map f) (j:c=ys.map f) {b i len:Nat} {m:List α->Option β} {K:List AV->Nat->Prop} {x:List AV->Nat->Nat->Prop} (hk:i=l.length) (q:len=l.length) (h:(B4 b l ys).bind m=some r)
  (k:∀o:List α,m o=some r->K (g o) o.length):Kz xs c i len b K x :=
 Aaq u j hk q h fun o h=>by rw [<-s]; exact k o h
theorem Apm {α:Type} {g:List α->List AV} {f:α->AV} (j:∀l,g l=l.map f) {ys:List α} {c:List AV} (i:c=ys.map f) {b:Nat} {m:List α->Option β} {K:List AV->Nat->Prop} (h:(B4 b [] ys).bind m=some r)
  (k:∀o:List α,m o=some r->K (g o) o.length):Ny c b K :=
 Af1 i h fun o h=>by rw [<-j]; exact k o h
theorem Apn {α:Type} {z:α} {f:α->AV} {g:AV} (i:g=f z) {len c:Int} {b:Nat} {m:List α->Option β} {K:Nat->List AV->Prop} (h:(Ei b len c z).bind m=some r) (k:∀o:List α,m o=some r->K o.length (o.map f)):Pp len c b g K:=by
 subst i
 refine C5 h fun x hx h=>?_
 unfold Ei at hx
 split at hx
 .rename_i hc
  cases hx
  exact .mk _ c.toNat _ (by simp; omega) (by omega) (by simp; omega) hc.2.2.1 (by omega) (by simp) (k _ h)
 .cases hx
theorem Py {α:Type} {z:α} {f:α->AV} {g:AV} (i:E5 g.cells (f z).cells) {len c:Int} {b:Nat} {m:List α->Option β} {K:Nat->List AV->Prop} (h:(Ei b len c z).bind m=some r) (k:∀o:List α,m o=some r->K o.length (o.map f)):Pp len c b g K:=by
 refine C5 h fun x hx h=>?_
 unfold Ei at hx
 split at hx
 .rename_i hc
  cases hx
  exact .mkN (f z) i _ c.toNat _ (by simp; omega) (by omega) (by simp; omega) hc.2.2.1 (by omega) (by simp) (k _ h)
 .cases hx
theorem Apo {α:Type} {l:List α} {f:α->AV} {ys:List AV} (b:ys=l.map f) {K:Int->Prop} (k:K (l.length:Int)):J5 ys K:=by
 subst b; exact .mk _ (by simp) k
theorem App {α:Type} {l:List α} {f:α->AV} {ys:List AV} (c:ys=l.map f) {b:Nat} (hk:b=l.length) {K:Prop} (k:K):Fa b ys K:=by
 subst c; exact .mk (by rw [hk]; simp) k
def D3 {α:Type} (l:List (ByteArray×α)) (s:ByteArray):Bool:=l.any fun p=>s==p.1
def F6 {α:Type} (l:List (ByteArray×α)) (s:ByteArray) (z:α):α:=((l.find? fun p=>s==p.1).map (·.2)).getD z
def Ej {α:Type}:List (ByteArray×α)->ByteArray->α->List (ByteArray×α)
 | [],s,v=>[(s,v)]
 | p::l,s,v=>bif s==p.1 then (s,v)::l else p::Ej l s v
def Bd {α:Type} (f:α->AV) (l:List (ByteArray×α)):List (AV×AV):=l.map fun p=>(.val (.string p.1),f p.2)
theorem Aar {α:Type} (f:α->AV) (s:ByteArray) (z:α):∀(l:List (ByteArray×α)) (i:Nat),
  (D3 l s=false/\G1 s (Bd f l) i=some none)\/(D3 l s=true/\∃j,G1 s (Bd f l) i=some (some (i+j,f (F6 l s z)))/\∀v,Bd f (Ej l s v)=(Bd f l).set j (.val (.string s),f v))
 | [],i=>.inl ⟨rfl,rfl⟩
 | p::l,i=>by
  cases hp:s==p.1 with
  | true=>
   refine .inr ⟨by simp [D3,hp],0,?_,fun v=>?_⟩
   .simp [Bd,G1,F6,hp]
   .simp [Bd,Ej,hp]
  | false=>
   rcases Aar f s z l (i+1) with ⟨h1,h2⟩ | ⟨h1,j,h2,h3⟩
   .refine .inl ⟨by simp only [D3,List.any_cons,hp,Bool.false_or]; exact h1,?_⟩
    have:G1 s (Bd f (p::l)) i=G1 s (Bd f l) (i+1):=by simp [Bd,G1,hp]
    rw [this,h2]
   .refine .inr ⟨by simp only [D3,List.any_cons,hp,Bool.false_or]; exact h1,j+1,?_,fun v=>?_⟩
    .have:G1 s (Bd f (p::l)) i=G1 s (Bd f l) (i+1):=by simp [Bd,G1,hp]
     have b:F6 (p::l) s z=F6 l s z:=by simp [F6,hp]
     rw [this,h2,b]; congr 3; omega
    .have c:Bd f (Ej (p::l) s v)=(.val (.string p.1),f p.2)::Bd f (Ej l s v):=by simp [Bd,Ej,hp]
     rw [c,h3 v]; rfl
theorem Af2 {α:Type} (f:α->AV) {s:ByteArray} {v:α}:∀{l:List (ByteArray×α)},D3 l s=false->Bd f (Ej l s v)=Bd f l++[(.val (.string s),f v)]
 | [],_=>rfl
 | p::l,h=>by
  simp only [D3,List.any_cons,Bool.or_eq_false_iff] at h
  have:=Af2 f (v:=v) (l:=l) h.2
  simp only [Ej,h.1,cond_false]
  simp only [Bd,List.map_cons,List.cons_append] at this ⊢
  rw [this]
theorem Pz {α:Type} {f:α->AV} {l:List (ByteArray×α)} {es:List (AV×AV)} (i:es=Bd f l) (z:α) {s:ByteArray} {m b:Option β} {K:Option (Nat×AV)->Prop} (h:(bif D3 l s then m else b)=some r)
  (g:∀j,D3 l s=true->m=some r->K (some (j,f (F6 l s z)))) (c:D3 l s=false->b=some r->K none):Aez s es K:=by
 subst i
 rcases Aar f s z l 0 with ⟨h1,h2⟩ | ⟨h1,j,h2,_⟩
 .rw [h1] at h; exact .mk _ h2 (c h1 h)
 .rw [h1] at h; exact .mk _ h2 (g _ h1 h)
theorem N6 {α:Type} {f:α->AV} {l:List (ByteArray×α)} {es:List (AV×AV)} (c:es=Bd f l) {s:ByteArray} {x:α} {v:AV} (b:v=f x) {K:List (AV×AV)->Prop} (k:K (Bd f (Ej l s x))):Ae2 s v es K:=by
 subst c; subst b
 refine .mk _ ?_ k
 unfold Vn
 rcases Aar f s x l 0 with ⟨h1,h2⟩ | ⟨h1,j,h2,h3⟩
 .rw [h2,Af2 f h1]
 .rw [h2,h3 x]; simp
theorem Sl {k:IntKind} {a b:Int} {m:Int->Option β} {K:Int->Prop} (h:(E6 k a b).bind m=some r) (f:∀c:Int,m c=some r->K c):Vr k a b K:=by
 refine C5 h fun x hx h=>?_
 unfold E6 at hx
 split at hx
 .cases hx
 .rename_i hb; cases hx; exact .mk _ hb rfl (f _ h)
theorem Sn {a b:Int} {m:Int->Option β} {K:Int->Prop} (h:(Fb a b).bind m=some r) (f:∀c:Int,m c=some r->K c):Vs a b K:=by
 refine C5 h fun x hx h=>?_
 unfold Fb at hx
 split at hx
 .cases hx
 .rename_i hb; cases hx; exact .mk _ hb rfl (f _ h)
theorem Af3 {k:IntKind} {a b:Int} {m:Int->Option β} {K:Int->Prop} (h:(Afv k a b).bind m=some r) (f:∀c:Int,m c=some r->K c):Vu k a b K:=by
 refine C5 h fun x hx h=>?_
 unfold Afv at hx
 split at hx
 .rename_i hb; cases hx; exact .mk _ hb rfl (f _ h)
 .cases hx
theorem Af4 {k:IntKind} {a b:Int} {m:Int->Option β} {K:Int->Prop} (h:(Sk k a b).bind m=some r) (f:∀c:Int,m c=some r->K c):Vt k a b K:=by
 refine C5 h fun x hx h=>?_
 unfold Sk at hx
 split at hx
 .rename_i hb; cases hx; exact .mk _ hb rfl (f _ h)
 .cases hx
theorem So {s:ByteArray} {i:Int} {m:UInt8->Option β} {K:UInt8->Prop} (h:(G3 s i).bind m=some r) (b:∀c:UInt8,m c=some r->K c):Vx s i K:=by
 refine C5 h fun x hx h=>?_
 unfold G3 at hx
 split at hx
 .exact .mk i.toNat x (by omega) hx (b _ h)
 .cases hx
theorem Fr {a b:ByteArray} {m:ByteArray->Option β} {K:Prop} (h:(Ed a b).bind m=some r) (k:m (a++b)=some r->K):Vy (a.size+b.size) K:=by
 refine C5 h fun x hx h=>?_
 unfold Ed at hx
 split at hx
 .rename_i hc; cases hx; exact .mk hc (k h)
 .cases hx
def Ho {κ α:Type} (eq:κ->κ->Bool) (l:List (κ×α)) (k:κ):Bool:=l.any fun p=>eq k p.1
def K1 {κ α:Type} (eq:κ->κ->Bool) (l:List (κ×α)) (k:κ) (z:α):α:=((l.find? fun p=>eq k p.1).map (·.2)).getD z
def Wh {κ α:Type} (eq:κ->κ->Bool) (l:List (κ×α)) (k:κ) (v:α):Option (List (κ×α)):=bif Ho eq l k then none else some (l++[(k,v)])
def N7 {κ α:Type} (g:κ->List Value) (f:α->AV) (l:List (κ×α)):List (AV×AV):=l.map fun p=>(.agg ((g p.1).map .val),f p.2)
theorem Wi:∀b:List Value,F4 (b.map .val)=some b
 | []=>rfl
 | u::b=>by simp only [List.map_cons,F4,Wi b,Option.map_some]
theorem Aas {κ α:Type} {P:Program} {h:TypeId} {g:κ->List Value} {eq:κ->κ->Bool} (q:∀a b,Lk P h (g a) (g b) (eq a b)) (f:α->AV) (k:κ) (z:α):∀(l:List (κ×α)) (i:Nat),
  (Ho eq l k=false/\Jj P h (g k) (N7 g f l) i none)\/(Ho eq l k=true/\∃j,Jj P h (g k) (N7 g f l) i (some (j,f (K1 eq l k z))))
 | [],i=>.inl ⟨rfl,.nil i⟩
 | p::l,i=>by
  have c:=q k p.1
  cases hb:eq k p.1 with
  | true=>
   rw [hb] at c
   refine .inr ⟨by simp [Ho,hb],i,?_⟩
   have x:K1 eq (p::l) k z=p.2:=by simp [K1,hb]
   rw [x]
   exact .hit (Wi _) c
  | false=>
   rw [hb] at c
   have u:Ho eq (p::l) k=Ho eq l k:=by simp [Ho,hb]
   have s:K1 eq (p::l) k z=K1 eq l k z:=by simp [K1,hb]
   rw [u,s]
   rcases Aas q f k z l (i+1) with ⟨h1,h2⟩ | ⟨h1,j,h2⟩
   .exact .inl ⟨h1,.miss (Wi _) c h2⟩
   .exact .inr ⟨h1,j,.miss (Wi _) c h2⟩
theorem Af5 {κ α:Type} {P:Program} {c:TypeId} {g:κ->List Value} {eq:κ->κ->Bool} {k:κ} (A:∀a b,Lk P c (g a) (g b) (eq a b)) (s:∀a,Nt P c (g a)) {f:α->AV} {l:List (κ×α)} {es:List (AV×AV)} (y:es=N7 g f l) (z:α) {i:List Value} (hu:i=g k)
  {m q:Option β} {K:Option (Nat×AV)->Prop} (h:(bif Ho eq l k then m else q)=some r)
  (x:∀j,Ho eq l k=true->m=some r->K (some (j,f (K1 eq l k z)))) (u:Ho eq l k=false->q=some r->K none):Ae0 P c i es K:=by
 subst y; subst hu
 rcases Aas A f k z l 0 with ⟨h1,h2⟩ | ⟨h1,j,h2⟩
 .rw [h1] at h; exact .mk _ (s k) h2 (u h1 h)
 .rw [h1] at h; exact .mk _ (s k) h2 (x j h1 h)
theorem Apq {κ α:Type} {P:Program} {i:TypeId} {g:κ->List Value} {eq:κ->κ->Bool} {k:κ} (D:∀a b,Lk P i (g a) (g b) (eq a b)) (B:∀a,Nt P i (g a)) {f:α->AV} {l:List (κ×α)} {x:α} {es:List (AV×AV)} (A:es=N7 g f l) {s:List Value} (hu:s=g k) {u:List AV} (q:u=(g k).map .val) {v:AV} (z:v=f x)
  {m:List (κ×α)->Option β} {K:List (AV×AV)->Prop} (h:(Wh eq l k x).bind m=some r) (y:∀o,m o=some r->K (N7 g f o)):Ae1 P i u s v es K:=by
 subst A; subst hu; subst q; subst z
 refine C5 h fun o c h=>?_
 unfold Wh at c
 rcases Aas D f k x l 0 with ⟨h1,h2⟩ | ⟨h1,j,h2⟩
 .rw [h1] at c; cases c
  exact .mk _ (B k) h2 (by simp [N7]) (y _ h)
 .rw [h1] at c; cases c
theorem Apr {P:Program} {t:TypeId} {k b:IntKind} (hu:P.underlying t=some (.int k)) (w:World) (e:Bool) (n:Int):(Instr.checkKey e 9999 t (.int b n)).run P w = .ok () w:=by
 show (Instr.checkKey e (9998+1) t _).run P w=_
 unfold Instr.checkKey
 simp [run_underlying hu]
theorem Aat {s:ByteArray} {lo b:Int} {m:ByteArray->Option β} {K:Nat->Nat->Prop} (h:(Ey s lo b).bind m=some r) (k:∀l h',lo=((l:Nat):Int)->b=((h':Nat):Int)->m (s.extract l h')=some r->K l h'):Vv s.size lo b K:=by
 refine C5 h fun x hx h=>?_
 unfold Ey at hx
 split at hx
 .rename_i hc
  cases hx
  exact .mk lo.toNat b.toNat (by omega) (by omega) (by omega) (by omega) (k _ _ (by omega) (by omega) h)
 .cases hx
end
def Wj (Qn:Nat->Bj->Hp->Prop) (Qe:Nat->Nat->Bj->Hp->Prop) (Qr:Nat->Bj->Hp->Prop) (x:Ex) (n:Nat) (e:Bj) (H:Hp):Prop :=
 match x with
 | .normal=>Qn n e H
 | .exit i=>Qe i n e H
 | .ret=>Qr n e H
def wc (P:Program) (C:Cfg) (c:Code) (Qn:Nat->Bj->Hp->Prop) (Qe:Nat->Nat->Bj->Hp->Prop) (Qr:Nat->Bj->Hp->Prop) (n:Nat) (e:Bj) (H:Hp):Prop :=
 Ck P C.T->P.follows .mixedOrders=true->∀(F:Aq) (W:World) (σ:Aq) (ι:Bm) (a:Act) (w:World) (Q:Exit->Act->World->Prop),
  Hk a.tmps.size c=true->St σ ι H F W w->Dv σ ι H e a->D2 H n ->
  (∀x h e' H' f g b w',Wj Qn Qe Qr x h e' H'->Le σ ι H f g H'->St f g H' F W w'->Dv f g H' e' b->D2 H' h->n<=h->b.tmps.size=a.tmps.size->b.defers=a.defers->Eb (Ec c) a b->Q x.out b w')->c.wp P Q a w
section
variable {P:Program} {C:Cfg} {Qn:Nat->Bj->Hp->Prop} {Qe:Nat->Nat->Bj->Hp->Prop} {Qr:Nat->Bj->Hp->Prop} {n:Nat} {e:Bj} {H:Hp} {β:Type} {r:β}
theorem Aau {c:Code} (h:vc P C c (Wj Qn Qe Qr) n e H):wc P C c Qn Qe Qr n e H :=
 fun j g _ _ σ ι a w Q b s i f hk=>N0 j g c _ n e H σ ι a w Q b h s i f hk
theorem Mn (k:Qn n e H):wc P C .skip Qn Qe Qr n e H:=Aau k
theorem Aav (k:Qr n e H):wc P C .ret Qn Qe Qr n e H:=Aau k
theorem Ez {id:Nat} (k:Qe id n e H):wc P C (.exit id) Qn Qe Qr n e H:=Aau k
theorem Af6 {id:Nat} {ops:Array Oper} {b:Bool} (h:D5 (Dz P C.T C.an C.nl ops ops.toList n e H [] fun n e H acc=>bif b then J9 ops.toList acc (Qn n e H) else Qn n e H)):wc P C (.region id ops b) Qn Qe Qr n e H:=by
 intro X R F W σ ι a w Q E s U M hk
 have q:=Le.refl σ ι H
 have s0:=s
 have z:=U
 have N:=M
 obtain ⟨L,e',H',accs,l,_,V,x,hf,c⟩:=Aam X ops.toList 0 n e H [] _ (by simp) rfl M h.1
 have u:=Afk E
 cases b with
 | false=>
  simp only [cond_false] at l
  refine wp_region ?_
  have:List.range ops.size=List.range' 0 ops.toList.length:=by rw [List.range_eq_range']; simp
  rw [this]
  refine c.wpOps s0 z u ?_
  intro B D J w' le s' g f j hu
  exact hk .normal L e' H' B D J w' l (q.trans le) s' g hf x f j hu
 | true=>
  simp only [cond_true] at l
  obtain ⟨G,l⟩:=l
  refine wp_region_any R ?_
  have A:ops=ops.toList.toArray:=by simp
  rw [A]
  simp only [List.size_toArray]
  refine Z2 (accs:=accs) (e':=e') (H':=H') G ops.toList.length _ (List.range' 0 ops.toList.length) e H σ ι a _ (by rw [<-A]; exact c) (List.pairwise_lt_range' ..) ?_ (by simp) ?_ (by simp) (s0.drew _) z (by rw [<-A]; exact u) ?_
  .intro i
   simp only [List.mem_range'_1,Array.getD_eq_getD_getElem?]
   constructor
   .rintro ⟨_,h2⟩
    refine ⟨by omega,?_⟩
    have:i<ops.size:=by simpa using h2
    simp [this]
   .rintro ⟨h1,_⟩; omega
  .intro k o S I
   exfalso
   simp only [Array.getD_eq_getD_getElem?] at I
   by_cases y:k<ops.size
   .simp [y] at I
   .simp [y] at I
  .intro B D J w' le s' g f j hu
   exact hk .normal L e' H' B D J w' l (q.trans le) s' g hf x f j (by rw [<-A] at hu; exact hu)
theorem Af7 {id:Nat} {os:List Oper} (k:D5 (Dz P C.T C.an C.nl os.toArray os n e H [] fun n e H acc=>J9 os acc (Qn n e H))):wc P C (.region id os.toArray true) Qn Qe Qr n e H:=Af6 k
theorem Bw {id:Nat} {os:List Oper} (k:D5 (Dz P C.T C.an C.nl os.toArray os n e H [] fun n e H _=>Qn n e H)):wc P C (.region id os.toArray false) Qn Qe Qr n e H:=Af6 k
theorem C4 {c:Code} (z:List Gh) (k:gxs z n e H fun n e H=>D5 (wc P C c Qn Qe Qr n e H)):wc P C c Qn Qe Qr n e H:=by
 intro S M F W σ ι a w Q h s R L hk
 obtain ⟨A,D,V,X,Y,J,b,G,l,i,N⟩:=N5 z k s R L
 exact J.1 S M F W A D a w Q h G l i fun x I e' H' B E U w' hq f s' q j y g u hu=>
  hk x I e' H' B E U w' hq (b.trans f) s' q j (by omega) g u hu
theorem Ay {V U:Code} (k:wc P C V (fun n e H=>wc P C U Qn Qe Qr n e H) Qe Qr n e H):wc P C (.seq V U) Qn Qe Qr n e H:=by
 intro R M F W σ ι a w Q f s he hn hk
 simp only [Hk,Bool.and_eq_true] at f
 refine wp_seq (k R M F W σ ι a w _ f.1 s he hn ?_)
 intro x L S X y z a1 A hq c B i g q b j hu
 cases x with
 | normal=>
  refine hq R M F W y z a1 A Q (by rw [b]; exact f.2) B i g ?_
  intro x n2 e2 H2 Y Z a2 w2 G D s2 J I N l u E
  exact hk x n2 e2 H2 Y Z a2 w2 G (c.trans D) s2 J I (by omega) (l.trans b) (u.trans j) ((hu.mono (by simp [Ec]; exact fun s h=>.inl h)).trans (E.mono (by simp [Ec]; exact fun s h=>.inr h)))
 | exit id=>exact hk (.exit id) L S X y z a1 A hq c B i g q b j (hu.mono (by simp [Ec]; exact fun s h=>.inl h))
 | ret=>exact hk .ret L S X y z a1 A hq c B i g q b j (hu.mono (by simp [Ec]; exact fun s h=>.inl h))
theorem Aaw {l:Nat} (k:Qn n e H):wc P C (.label l) Qn Qe Qr n e H:=by
 intro h g F W σ ι a w Q b s f c hk
 exact wp_label (hk .normal n e H σ ι a w k (Le.refl _ _ _) s f c (Nat.le_refl _) rfl rfl (Eb.refl _ _))
theorem Aax {c:Code} (k:wc P C c Qn Qe Qr n e H):wc P C (.scope c) Qn Qe Qr n e H:=by
 intro G D F W σ ι a w Q g s E B hk
 refine wp_scope_straight (k G D F W σ ι a w _ g s E B ?_)
 intro x A I J q u a1 y hq b z j h i f l hu
 have:=hk x A I J q u a1 y hq b z j h i f l hu
 cases x <;> exact this
theorem Ix {id:Nat} {c:Code} (k:wc P C c Qn (fun i n e H=>bif Nat.beq i id then Qn n e H else Qe i n e H) Qr n e H):wc P C (.block id c) Qn Qe Qr n e H:=by
 intro M J F W σ ι a w Q E s L I hk
 refine wp_block (k M J F W σ ι a w _ E s L I ?_)
 intro x A B D q u a1 y hq b z j g h f l hu
 cases x with
 | normal=>exact hk .normal A B D q u a1 y hq b z j g h f l hu
 | exit i=>
  simp only [Ex.out,Exit.inBlock]
  by_cases G:i=id
  .subst G
   rw [if_pos rfl]
   have:Nat.beq i i=true:=Nat.beq_refl i
   simp only [Wj,this,cond_true] at hq
   exact hk .normal A B D q u a1 y hq b z j g h f l hu
  .rw [if_neg G]
   have:Nat.beq i id=false:=by
    cases hb:Nat.beq i id
    .rfl
    .exact (G (Nat.eq_of_beq_eq_true hb)).elim
   simp only [Wj,this,cond_false] at hq
   exact hk (.exit i) A B D q u a1 y hq b z j g h f l hu
 | ret=>exact hk .ret A B D q u a1 y hq b z j g h f l hu
theorem Af8 {x:Operand} {σ:Aq} {ι:Bm} {a:Act} {t:Bool} (b:Afg a.tmps.size x=true) (c:Dv σ ι H e a) (hx:ev e x = .val (.bool t)):a.eval x = .bool t:=by
 have hc:=c.eval (x:=x) (fun t ht=>by
  cases x with
  | tmp q=>cases ht; exact Fk b
  | _=>cases ht)
 rw [hx] at hc
 exact hc.val_inv
theorem Wk {x:Operand} {u L:Code} (k:wc P C u Qn Qe Qr n e H) (hx:ev e x = .val (.bool true):=by exact rfl):wc P C (.cond x u L) Qn Qe Qr n e H:=by
 intro I G F W σ ι a w Q b s q E hk
 simp only [Hk,Bool.and_eq_true] at b
 refine wp_cond_true (Af8 b.1.1 q hx) (k I G F W σ ι a w Q b.1.2 s q E ?_)
 intro x D J M y z a1 A hq c B j g i f l hu
 exact hk x D J M y z a1 A hq c B j g i f l (hu.mono (by simp [Ec]; exact fun s h=>.inl h))
theorem Wl {x:Operand} {L u:Code} (k:wc P C u Qn Qe Qr n e H) (hx:ev e x = .val (.bool false):=by exact rfl):wc P C (.cond x L u) Qn Qe Qr n e H:=by
 intro I G F W σ ι a w Q b s q E hk
 simp only [Hk,Bool.and_eq_true] at b
 refine wp_cond_false (Af8 b.1.1 q hx) (k I G F W σ ι a w Q b.2 s q E ?_)
 intro x D J M y z a1 A hq c B j g i f l hu
 exact hk x D J M y z a1 A hq c B j g i f l (hu.mono (by simp [Ec]; exact fun s h=>.inr h))
theorem An {c:Operand} {a b:Code} {t:Bool} {m f:Option β} (h:(bif t then m else f)=some r) (h1:t=true->m=some r->wc P C a Qn Qe Qr n e H) (h2:t=false->f=some r->wc P C b Qn Qe Qr n e H) (hx:ev e c = .val (.bool t):=by exact rfl):wc P C (.cond c a b) Qn Qe Qr n e H:=by
 cases t with
 | true=>exact Wk (h1 rfl h) hx
 | false=>exact Wl (h2 rfl h) hx
theorem Af9 {X:List Nat} {l:List (Nat×AV)} {h:List (Nat×Bf)} {F σ z:Aq} {W w Y:World} {ι I:Bm} {a a1:Act} {G:Hp} {e1:Bj} (hb:Iv n l h=true) (hn:D2 H n) (s:St σ ι H F W w) (he:Dv σ ι H e a)
  (M:Fm e1 l) (R:Fo G (Cd H h) n n) (L:Le σ ι H z I G) (i:St z I G F W Y) (a8:Dv z I G e1 a1) (aa:a1.tmps.size=a.tmps.size) (a7:Eb X a a1) :
  ∃A,Le σ ι H z A (Cd H h)/\St z A (Cd H h) F W Y/\Dv z A (Cd H h) (H4 X e (fun s=>a1.tmps.getD s undef) l) a1/\D2 (Cd H h) n:=by
 have Z:∀x,n<=x->ι x = .none:=by
  intro x hx
  have:=s.obj x; unfold Cf at this; rw [hn x hx] at this; exact this
 have D:∀p∈h,p.1<n:=by
  intro p hp
  unfold Iv at hb
  rw [Bool.and_eq_true,List.all_eq_true,List.all_eq_true] at hb
  exact Fk (hb.2 p hp)
 have N:∀p∈l,p.2.under n=true:=by
  intro p hp
  unfold Iv at hb
  rw [Bool.and_eq_true,List.all_eq_true,List.all_eq_true] at hb
  exact hb.1 p hp
 have u:D2 (Cd H h) n:=by
  intro x hx
  rw [Pn (fun p hp e=>by have:=D p hp; omega)]; exact hn x hx
 let A:Bm:=fun x=>if x<n then I x else .none
 have c:∀x,x<n->A x=I x:=fun x hx=>if_pos hx
 have f:∀x,x<n->Cd H h x=G x:=fun x hx=>((R.spec) x hx).1.symm
 have J:Le σ ι H z A (Cd H h):=by
  refine ⟨L.sto,fun x=>?_⟩
  by_cases hx:x<n
  .rw [c x hx,f x hx]; exact L.obj x
  .rw [Z x (by omega),hn x (by omega)]; exact HLe.of_none
 have s2:St z A (Cd H h) F W Y:=by
  refine ⟨i.sto,i.fra,fun x=>?_,?_,i.os,i.tape,i.output,i.glo,i.drw⟩
  .by_cases hx:x<n
   .have k:=i.obj x
    have B:=((R.spec) x hx).2
    unfold Cf at k ⊢
    rw [f x hx] at B ⊢
    rw [c x hx]
    cases j:G x with
    | none=>rw [j] at k; exact k
    | dead=>trivial
    | cells E cs=>
     rw [j] at k B
     obtain ⟨b,Cc,g1,g2,g3,g4,g5,g6⟩:=k
     refine ⟨b,Cc,g1,g2,g3,g4,g5,fun q cq v hq a6=>(g6 q cq v hq a6).restrict c f ?_⟩
     have:=List.all_eq_true.1 B cq (List.mem_of_getElem? hq)
     exact Aad this
    | rows E sz xs=>rw [j] at k; exact k
    | map es=>rw [j] at k; exact k
   .unfold Cf
    rw [u x (by omega)]
    exact if_neg hx
  .intro x y b V U bx S
   have hx:x<n:=by
    rcases Nat.lt_or_ge x n with hx | hx
    .exact hx
    .rw [u x hx] at V; cases V
   have hy:y<n:=by
    rcases Nat.lt_or_ge y n with hy | hy
    .exact hy
    .rw [u y hy] at U; cases U
   rw [f x hx] at V; rw [f y hy] at U
   rw [c x hx] at bx; rw [c y hy] at S
   exact i.inj x y b V U bx S
 refine ⟨A,J,s2,?_,u⟩
 intro q hq
 rcases Afi X e (fun s=>a1.tmps.getD s undef) l q with ⟨p,hp,rfl,g⟩ | ⟨hw,g⟩ | ⟨hw,g⟩
 .rw [g,<-M.spec p hp]
  refine (a8 p.1 hq).restrict c f ?_
  rw [M.spec p hp]; exact N p hp
 .rw [g]; exact .of_val _
 .rw [g,a7 q hw]; exact (he q (by omega)).mono J
theorem Aga {S E:Type} {step:S->Option (S⊕E)} {s0:S} {J:E->Option β} {b:Code} (h:(Al step s0).bind J=some r)
  (M:S->List (Nat×AV)) (B:S->List (Nat×Bf)) (j:S->Prop) (hb:∀s,Iv n (M s) (B s)=true) (hs:Fm e (M s0)) (hh:Fo H (Cd H (B s0)) n n) (h0:j s0)
  (a8:∀(s:S) (u:Nat->Value) (K:Nat->Bj->Hp->Prop) (o:S⊕E),step s=some o->(∀x,.inr x=o->J x=some r)->(∀s' n' e' H',.inl s'=o->Fm e' (M s')->Fo H' (Cd H (B s')) n n->j s'->K n' e' H')->j s ->
   wc P C b K Qe Qr n (H4 (Ec b) e u (M s)) (Cd H (B s))):wc P C (.loop b) Qn Qe Qr n e H:=by
 intro hT hm F W σ ι a w Q aa s he hn hk
 refine C5 h fun x hx h=>?_
 obtain ⟨N,hN⟩:=Aao hx
 let J':Nat->Act->World->Prop:=fun k a' w'=>∃i σ' ι',(Gu step k i=some x/\j i)/\Le σ ι H σ' ι' (Cd H (B i))/\St σ' ι' (Cd H (B i)) F W w' /\
   Dv σ' ι' (Cd H (B i)) (H4 (Ec b) e (fun s=>a'.tmps.getD s undef) (M i)) a'/\a'.tmps.size=a.tmps.size/\a'.defers=a.defers/\Eb (Ec b) a a'
 have g:∀(k:Nat) (i:S) (I:Aq) (Z:Bm) (H1:Hp) (e1:Bj) (a1:Act) (w1:World),(Gu step k i=some x/\j i)->Fm e1 (M i)->Fo H1 (Cd H (B i)) n n->Le σ ι H I Z H1->St I Z H1 F W w1->Dv I Z H1 e1 a1->a1.tmps.size=a.tmps.size ->
    a1.defers=a.defers->Eb (Ec b) a a1->J' k a1 w1:=by
  intro k i I Z H1 e1 a1 w1 D ab ad q s1 X c f l
  obtain ⟨ι2,g1,g2,g3,_⟩:=Af9 (hb i) hn s he ab ad q s1 X c l
  exact ⟨i,I,ι2,D,g1,g2,g3,c,f,l⟩
 refine Afh J' N (g N s0 σ ι H e a w ⟨hN,h0⟩ hs hh (Le.refl _ _ _) s he rfl rfl (Eb.refl _ _)) ?_
 rintro k a1 w1 ⟨i,I,Z,⟨D,a7⟩,q,s1,X,c,f,l⟩
 have af:D2 (Cd H (B i)) n:=by
  intro y hy
  have Y:=hb i
  unfold Iv at Y
  rw [Bool.and_eq_true,List.all_eq_true,List.all_eq_true] at Y
  rw [Pn (fun p hp e=>by have:=Fk (Y.2 p hp); omega)]; exact hn y hy
 cases k with
 | zero=>cases D
 | succ k=>
  simp only [Gu] at D
  cases ho:step i with
  | none=>rw [ho] at D; cases D
  | some o=>
   rw [ho] at D
   refine a8 i (fun s=>a1.tmps.getD s undef) (fun _ e' H'=>∃s',(Gu step k s'=some x/\j s')/\Fm e' (M s')/\Fo H' (Cd H (B s')) n n) o ho ?_ ?_ a7 hT hm F W I Z a1 w1 _ (by rw [c]; exact aa) s1 X af ?_
   .intro y hy; subst hy
    simp only [Option.some.injEq] at D
    rw [D]; exact h
   .intro s' n' e' H' U h1 h2 h3
    subst U
    exact ⟨s',⟨D,h3⟩,h1,h2⟩
   .intro x n2 e2 H2 σ2 ι2 a2 w2 hq L s2 V a6 G z A R
    cases x with
    | normal=>
     obtain ⟨i',ac,U,ae⟩:=hq
     exact ⟨k,by omega,g k i' σ2 ι2 H2 e2 a2 w2 ac U ae (q.trans L) s2 V (z.trans c) (A.trans f) (l.trans R)⟩
    | exit id=>exact hk (.exit id) n2 e2 H2 σ2 ι2 a2 w2 hq (q.trans L) s2 V a6 G (z.trans c) (A.trans f) (l.trans R)
    | ret=>exact hk .ret n2 e2 H2 σ2 ι2 a2 w2 hq (q.trans L) s2 V a6 G (z.trans c) (A.trans f) (l.trans R)
theorem P0 {S:Type} {c:Code} (J:S->Prop) (l:S->List (Nat×AV)) (q:S->List (Nat×Bf)) (hb:∀s,Iv n (l s) (q s)=true)
  (Y:∀(K:Nat->Bj->Hp->Prop),(∀s V e' H',J s->Fm e' (l s)->Fo H' (Cd H (q s)) n n->K V e' H')->wc P C c K Qe Qr n e H)
  (X:∀(s:S) (u:Nat->Value),J s->Qn n (H4 (Ec c) e u (l s)) (Cd H (q s))):wc P C c Qn Qe Qr n e H:=by
 intro hT Z F W σ ι a w Q B s M L hk
 refine Y (fun _ e' H'=>∃s,J s/\Fm e' (l s)/\Fo H' (Cd H (q s)) n n) (fun s _ _ _ h1 h2 h3=>⟨s,h1,h2,h3⟩) hT Z F W σ ι a w _ B s M L ?_
 intro x I N R y G a1 z hq f A g j k b h hu
 cases x with
 | normal=>
  obtain ⟨i,hi,D,E⟩:=hq
  obtain ⟨U,g1,g2,g3,g4⟩:=Af9 (hb i) L s M D E f A g b hu
  exact hk .normal n _ _ y U a1 z (X i (fun s=>a1.tmps.getD s undef) hi) g1 g2 g3 g4 (Nat.le_refl _) b h hu
 | exit id=>exact hk (.exit id) I N R y G a1 z hq f A g j k b h hu
 | ret=>exact hk .ret I N R y G a1 z hq f A g j k b h hu
theorem Aps (E:Ck P C.T) (L:P.follows .mixedOrders=true) {f:FuncId} {fn:Func} {c:Code} {args:List AV} {r:AV} (D:P.funcs[f]? = some fn) (hb:fn.body=some c) (g:(fn.name == "runtime.NumGoroutine")=false)
  (b:Px fn c args.length=true) (h:r.free=true) (J:wc P C c (fun _ e H=>N1 C.T fn.results.toList (· = r) e H) (fun _ _ _ _=>False) (fun _ e H=>N1 C.T fn.results.toList (· = r) e H) 0 (Pv args) H0):Aw P f args r:=by
 unfold Px at b
 simp only [Bool.and_eq_true] at b
 obtain ⟨⟨u,y⟩,G⟩:=b
 have G:=Nat.le_of_ble_eq_true G
 refine ⟨⟨fn,D,g,by rw [hb]; rfl⟩,fun σ F W w vs s hc=>?_⟩
 have j:(vs++Array.replicate (fn.ntmps-vs.size) undef).size=fn.ntmps:=by
  have:=hc.1
  simp; omega
 refine calls_of_wp D hb (J E L F W σ ι0 _ w _ (by rw [j]; exact u) s (Afq hc) (fun _ _=>rfl) ?_)
 intro x V e' H' R S B w' hq le s' z _ _ i A _
 have k:∀q∈fn.results.toList,N2 q<B.tmps.size:=by
  intro q hq'
  rw [i]
  have:=Fk (List.all_eq_true.1 y q hq')
  rw [j]; exact this
 have fin:N1 C.T fn.results.toList (· = r) e' H'->B.defers = []/\∃v,(results fn B.tmps).run P w' = .ok v w'/\∃v0 l,Ending.returned v = .returned v0/\σ.le l/\St l ι0 H0 F W w'/\Conc l ι0 H0 r v0:=by
  intro hq
  obtain ⟨v,I,X,U,h1,h2,h3,N,M⟩:=Ao8 E s' z k hq
  subst h2
  exact ⟨A,v,h1,v,I,rfl,Aq.le_trans le.sto h3.sto,N.forget,M.to0 h⟩
 cases x with
 | normal=>exact fin hq
 | ret=>exact fin hq
 | exit id=>exact hq.elim
theorem Apt (fz:Bool) (X:Ck P C.T) (hm:P.follows .mixedOrders=true) {f:FuncId} {fn:Func} {c:Code} {args:List AV} {r:AV} {B b:List Bf} (V:P.funcs[f]? = some fn) (hb:fn.body=some c) (l:(fn.name == "runtime.NumGoroutine")=false)
  (j:Px fn c args.length=true) (g:Aal B r b=true) (hv:wc P C c (fun _ e H=>N4 C.T fz fn.results.toList r b e H) (fun _ _ _ _=>False) (fun _ e H=>N4 C.T fz fn.results.toList r b e H) B.length (Pv args) (hp B)):Br P f args B r b:=by
 unfold Px at j
 unfold Aal at g
 simp only [Bool.and_eq_true] at j g
 obtain ⟨⟨I,L⟩,Y⟩:=j
 obtain ⟨⟨E,J⟩,N⟩:=g
 have E:=Nat.le_of_ble_eq_true E
 have Y:=Nat.le_of_ble_eq_true Y
 refine ⟨⟨fn,V,l,by rw [hb]; rfl⟩,fun σ F W w ι vs s hc=>?_⟩
 have A:(vs++Array.replicate (fn.ntmps-vs.size) undef).size=fn.ntmps:=by
  have:=hc.1
  simp; omega
 refine calls_of_wp V hb (hv X hm F W σ ι _ w _ (by rw [A]; exact I) s (Afq hc) (fun _ h=>Me h) ?_)
 intro x n' e' H' σ' ι' U w' hq le s' R _ _ z S _
 have D:∀q∈fn.results.toList,N2 q<U.tmps.size:=by
  intro q hq'
  rw [z]
  have:=Fk (List.all_eq_true.1 L q hq')
  rw [A]; exact this
 have fin:N4 C.T fz fn.results.toList r b e' H'->U.defers = []/\∃v,(results fn U.tmps).run P w' = .ok v w'/\∃v0 G ι0,Ending.returned v = .returned v0/\Le σ ι (hp B) G ι0 (hp b)/\St G ι0 (hp b) F W w'/\Conc G ι0 (hp b) r v0:=by
  intro hq
  obtain ⟨v,Z,H2,h1,h2,h3,h4,h5⟩:=Ao9 X s' R D hq
  have u:∀i,i<b.length->H2 i=hp b i:=fun i hi=>by simpa using h2.spec i hi
  refine ⟨S,v,h1,v,Z,(fun k=>if k<b.length then ι' k else .none),rfl,?_,h4.first b u N,?_⟩
  .have y:=le.trans h3
   refine ⟨y.sto,fun k=>?_⟩
   by_cases hk:k<b.length
   .rw [if_pos hk,<-u k hk]; exact y.obj k
   .rw [if_neg hk,Me (by omega),Me (by omega)]
    have:ι k = .none:=by have:=s.obj k; unfold Cf at this; rw [Me (by omega)] at this; exact this
    rw [this]; exact HLe.refl _ _
  .exact h5.restrict (n:=b.length) (fun h M=>if_pos M) (fun h M=>(u h M).symm) J
 cases x with
 | normal=>exact fin hq
 | ret=>exact fin hq
 | exit id=>exact hq.elim
end
end Go.Ab
namespace Go.Ab
theorem Agb {id:Nat}:∀{k b:List Item},exitTo id k=some b->b.length<k.length
 | [],b,h=>by cases h
 | x::k,b,h=>by
  have ih:exitTo id k=some b->b.length<(x::k).length:=fun h=>Nat.lt_succ_of_lt (Agb h)
  unfold exitTo at h
  split at h
  .rename_i f c heq
   cases heq
   split at h
   .cases h; simp
   .exact ih h
  .rename_i g c _ heq
   cases heq; exact ih h
  .rename_i heq; cases heq
theorem Aay {P:Program} {m f c:Machine} (h:step P m = .next f) (h':Steps P m c):c=m\/Steps P f c:=by
 obtain ⟨n,b⟩:=h'
 cases n with
 | zero=>left; simp only [runN,Stepped.next.injEq] at b; exact b.symm
 | succ n=>right; simp only [runN,h] at b; exact ⟨n,b⟩
theorem Agc {b:Frame} {a f:Act} {k c:List Item} {cs:List Frame} {w w':World} (h:lone (b.at a k) cs w=lone (b.at f c) cs w'):k=c:=by
 simp only [lone,Machine.mk.injEq,Array.mk.injEq,List.cons.injEq,Goroutine.mk.injEq,Frame.at,Frame.mk.injEq] at h
 exact h.2.1.1.1.2.2.1
def Apu:Exit->Bool
 | .normal | .exit _ | .ret=>true
 | _=>false
theorem Apv {P:Program} {Q:Exit->Act->World->Prop} {a:Act} {w:World} {c:Code} (h:c.wp P (Exit.then (fun D w'=>(Code.loop c).wp P (fun e a w=>Apu e=true/\Q e a w) D w') Q) a w):(Code.loop c).wp P Q a w:=by
 intro b k cs
 obtain ⟨e,a1,i,hq,f⟩:=h b (.inLoop c::k) cs
 have first:Steps P (lone (b.at a (.code (.loop c)::k)) cs w) (lone (b.at a (.code c :: .inLoop c::k)) cs w):=.one step_loop
 cases e with
 | normal=>
  obtain ⟨u,a2,y,⟨s,q⟩,g⟩:=hq b k cs
  have j:Steps P (lone (b.at a (.code (.loop c)::k)) cs w) (lone (b.at a1 (.code c :: .inLoop c::k)) cs i):=first.trans (Steps.trans f (.one step_inLoop))
  refine ⟨u,a2,y,q,.of_steps j ?_⟩
  cases u with
  | normal=>
   rcases Aay step_loop g with e | e
   .have:=congrArg List.length (Agc e); simp at this
   .exact e
  | exit id=>
   intro z hk
   rcases Aay step_loop (g z hk) with e | e
   .have h1:=Agb hk
    have h2:=congrArg List.length (Agc e); simp at h2; omega
   .exact e
  | ret=>
   obtain ⟨todo,A⟩:=g
   rcases Aay step_loop A with e | e
   .simp only [lone,Machine.mk.injEq,Array.mk.injEq,List.cons.injEq,Goroutine.mk.injEq,Frame.at,Frame.mk.injEq] at e
    simp at e
   .exact ⟨todo,e⟩
  | goto l=>cases s
  | panic B=>cases s
  | outgrown=>cases s
 | exit id=>exact ⟨_,a1,i,hq,.of_steps first (.pass (x:=.inLoop c) rfl (fun _ _=>.inl (by simp)) f)⟩
 | goto l=>exact ⟨_,a1,i,hq,.of_steps first (.pass (x:=.inLoop c) rfl (fun _ _=>.inl (by simp)) f)⟩
 | ret=>exact ⟨_,a1,i,hq,.of_steps first (.pass (x:=.inLoop c) rfl (fun _ _=>.inl (by simp)) f)⟩
 | panic B=>exact ⟨_,a1,i,hq,.of_steps first (.pass (x:=.inLoop c) rfl (fun _ _=>.inl (by simp)) f)⟩
 | outgrown=>exact ⟨_,a1,i,hq,.of_steps (b:=b) (k:=k) (cs:=cs) (e:=.outgrown) first (.pass (x:=.inLoop c) rfl (fun _ _=>.inl (by simp)) f)⟩
section
variable {P:Program} {C:Cfg} {Qn:Nat->Bj->Hp->Prop} {Qe:Nat->Nat->Bj->Hp->Prop} {Qr:Nat->Bj->Hp->Prop} {n:Nat} {e:Bj} {H:Hp}
theorem P1 {c:Code} (k:wc P C c (fun n e H=>wc P C (.loop c) Qn Qe Qr n e H) Qe Qr n e H):wc P C (.loop c) Qn Qe Qr n e H:=by
 intro R M F W σ ι a w Q l s he hn hk
 refine Apv (k R M F W σ ι a w _ l s he hn ?_)
 intro x L S U y z a1 A hq f B h g q b i hu
 cases x with
 | normal=>
  refine hq R M F W y z a1 A _ (by rw [b]; exact l) B h g ?_
  intro x n2 e2 H2 V X a2 Y G D Z J I N j u E
  exact ⟨by cases x <;> rfl,hk x n2 e2 H2 V X a2 Y G (f.trans D) Z J I (by omega) (j.trans b) (u.trans i) (hu.trans E)⟩
 | exit id=>exact hk (.exit id) L S U y z a1 A hq f B h g q b i hu
 | ret=>exact hk .ret L S U y z a1 A hq f B h g q b i hu
def Vw (x:AV) (v:Value):Prop:=∀sz xs,x = .sl sz xs->∃p c,v = .slice p xs.length c/\(p=none->xs = [])
theorem Wm {c:Code} (s:Nat) (k:∀v,Vw (e s) v->wc P C c Qn Qe Qr n (Ax e s (.val v)) H):wc P C c Qn Qe Qr n e H:=by
 intro A z F W σ ι a w Q f x u y hk
 by_cases B:s<a.tmps.size
 .have hc:=u s B
  refine k (a.tmps.getD s undef) ?_ A z F W σ ι a w Q f x ?_ y hk
  .intro sz xs hx
   rw [hx] at hc
   rcases hc.sl_inv.sl_inv with ⟨rfl,p,cap,e⟩ | ⟨b,off,cap,C,E,fr,g,e,_⟩
   .exact ⟨p,cap,e,fun _=>rfl⟩
   .exact ⟨_,cap,e,fun h=>by cases h⟩
  .intro q hq
   by_cases h:q=s
   .subst h; rw [B8]; exact .of_val _
   .rw [Cr _ _ h]; exact u q hq
 .have l:∃v,Vw (e s) v:=by
   cases hx:e s with
   | sl sz xs=>exact ⟨.slice (some ⟨0,0,none⟩) xs.length 0,fun j i h=>by cases h; exact ⟨_,_,rfl,fun h=>by cases h⟩⟩
   | _=>exact ⟨undef,fun j i h=>by cases h⟩
  obtain ⟨v,l⟩:=l
  refine k v l A z F W σ ι a w Q f x ?_ y hk
  intro q hq
  rw [Cr _ _ (by omega)]; exact u q hq
end
end Go.Ab
namespace Go.Ab
structure Mo {α:Type} (cf:α->α->Int):Prop where
 irr:∀x,¬cf x x<0
 trs:∀x y z,cf x y<0->cf y z<0->cf x z<0
 ntr:∀x y z,¬cf x y<0->¬cf y z<0->¬cf x z<0
def Sp {α:Type} (cmp:α->α->Option Int) (l r:List α):Prop :=
 ∃cf:α->α->Int,Mo cf/\(∀x∈l,∀y∈l,cmp x y=some (cf x y))/\r.Perm l/\r.Pairwise (fun x y=>cf x y<0)
open Classical in
noncomputable def Lq {α:Type} (cmp:α->α->Option Int) (l:List α):Option (List α) :=
 if h:∃r,Sp cmp l r then some (Classical.choose h) else none
theorem Apw {α:Type} {cmp:α->α->Option Int} {l r:List α} (h:Lq cmp l=some r):Sp cmp l r:=by
 unfold Lq at h
 split at h
 .rename_i k
  cases h; exact Classical.choose_spec k
 .cases h
theorem Apx {α:Type} {cmp:α->α->Option Int} {l r:List α} (h:Sp cmp l r):∃b,Lq cmp l=some b/\Sp cmp l b:=by
 unfold Lq
 rw [dif_pos ⟨r,h⟩]
 exact ⟨_,rfl,Classical.choose_spec (⟨r,h⟩:∃r,Sp cmp l r)⟩
def Mp {α:Type} (n:Nat) (a:List α):Option (List α×List α):=(B4 n [] a).bind fun o=>some ([],o)
def Mq {α:Type} (n:Int):Option (List α):=bif decide (0<=n)&&decide (n<=1000000) then some [] else none
end Go.Ab
