/- Plain laws: what the plain functions answer. -/
import Derived.Test.YtpgmgplnkdhlbaaGreatDoorPtAb
namespace Go.Ab
def H0:Hp:=fun _=>.none
def ι0:Bi:=fun _=>.none
def Z0 (P:Program) (f:FuncId):Prop:=∃fn,P.funcs[f]? = some fn/\(fn.name == "runtime.NumGoroutine")=false/\fn.body.isNone=false
def Ju (σ:Aw) (ι:Bi) (H:Hp) (args:List AV) (vs:Array Value):Prop :=
 vs.size=args.length/\∀(i:Nat) (a:AV) (v:Value),args[i]? = some a->vs[i]? = some v->Conc σ ι H a v
def Aq (P:Program) (f:FuncId) (args:List AV) (r:AV):Prop :=
 Z0 P f/\∀(σ F:Aw) (W w:World) (vs:Array Value),St σ ι0 H0 F W w->Ju σ ι0 H0 args vs ->
  Calls P f vs w fun e w'=>∃v b,e = .returned v/\σ.le b/\St b ι0 H0 F W w'/\Conc b ι0 H0 r v
def AV.under0 (n:Nat):AV->Bool
 | .loc h _ | .mp h=>Nat.blt h n
 | .arr h _ _ _ | .el h _ _ _=>Nat.blt h n
 | .val _ | .sl _ _ | .ref _ | .fb _=>true
 | _=>false
def AV.under1 (n:Nat):AV->Bool
 | .loc h _ | .mp h=>Nat.blt h n
 | .arr h _ _ _ | .el h _ _ _=>Nat.blt h n
 | .val _ | .sl _ _ | .ref _ | .fb _=>true
 | .fn _ cs=>cs.all (AV.under0 n)
 | _=>false
def AV.under2 (n:Nat):AV->Bool
 | .agg cs=>cs.all (AV.under1 n)
 | x=>x.under1 n
def AV.under (n:Nat):AV->Bool
 | .agg cs | .fn _ cs=>cs.all (AV.under1 n)
 | .tup cs=>cs.all (AV.under2 n)
 | x=>x.under1 n
def Bc.under (n:Nat):Bc->Bool
 | .cells _ cs=>cs.all (AV.under1 n)
 | .map _=>true
 | .rows _ _ _=>true
 | .none=>true
 | .dead=>true
def Z1 (es:Nat->Nat):AV->AV
 | .loc h off=>.loc (es h) off
 | .mp h=>.mp (es h)
 | .arr h k off len=>.arr (es h) k off len
 | .el h k i j=>.el (es h) k i j
 | x=>x
def Kp (es:Nat->Nat):AV->AV
 | .loc h off=>.loc (es h) off
 | .mp h=>.mp (es h)
 | .arr h k off len=>.arr (es h) k off len
 | .el h k i j=>.el (es h) k i j
 | .fn f cs=>.fn f (cs.map (Z1 es))
 | x=>x
def Z2 (es:Nat->Nat):AV->AV
 | .agg cs=>.agg (cs.map (Kp es))
 | x=>Kp es x
def ren (es:Nat->Nat):AV->AV
 | .agg cs=>.agg (cs.map (Kp es))
 | .tup cs=>.tup (cs.map (Z2 es))
 | .fn f cs=>.fn f (cs.map (Kp es))
 | x=>Kp es x
def Gx (es:Nat->Nat):Bc->Bc
 | .cells E cs=>.cells E (cs.map (Kp es))
 | o=>o
def hp (hs:List Bc):Hp:=fun k=>hs.getD k .none
def Bq (P:Program) (f:FuncId) (args:List AV) (hs:List Bc) (r:AV) (b:List Bc):Prop :=
 Z0 P f/\∀(σ F:Aw) (W w:World) (ι:Bi) (vs:Array Value),St σ ι (hp hs) F W w->Ju σ ι (hp hs) args vs ->
  Calls P f vs w fun e w'=>∃v c g,e = .returned v/\Le σ ι (hp hs) c g (hp b)/\St c g (hp b) F W w'/\Conc c g (hp b) r v
def Cw (n:Nat):List Nat->Nat->Nat
 | [],k=>n+k
 | h::_,0=>h
 | _::l,k+1=>Cw n l k
def K8 (n:Nat):List Nat->Bool
 | []=>true
 | h::l=>Nat.blt h n && !(l.elem h)&&K8 n l
def wrs (es:Nat->Nat):Nat->List Bc->List (Nat×Bc)
 | _,[]=>[]
 | k,o::os=>(es k,Gx es o)::wrs es (k+1) os
def Bs (es:Nat->Nat):Nat->Nat->List (Nat×Bc)
 | _,0=>[]
 | k,c+1=>(es k,.none)::Bs es (k+1) c
def K9 (H:Hp):List (Nat×Bc)->Prop
 | []=>True
 | p::l=>H p.1=p.2/\K9 H l
def Kq (n:Nat) (l:List Nat) (c:List AV) (hs:List Bc) (r:AV) (b:List Bc):Bool :=
 K8 n l&&Nat.beq hs.length l.length&&Nat.ble l.length b.length&&c.all (AV.under l.length)&&hs.all (Bc.under l.length)&&r.under b.length&&b.all (Bc.under b.length)
inductive R7 (xs:List AV) (i:Int) (K:Nat->AV->Prop):Prop where
 | mk (n:Nat) (x:AV) (hi:i=n) (hx:xs[n]? = some x) (k:K n x)
inductive Nt (len:Nat) (kk:Nat) (xs:List AV) (i:Int) (K:Nat->Prop):Prop where
 | mk (n:Nat) (hk:xs.length=kk) (hi:i=n) (hn:n<len) (k:K n)
inductive F9 (k:IntKind) (n:Int) (K:Int->Prop):Prop where
 | mk (c:Int) (h:k.wrap n=c) (k:K c)
inductive Vn (k:IntKind) (m n:Int) (K:Int->Prop):Prop where
 | mk (c:Int) (hn:n≠0) (h:k.wrap (m.tdiv n)=c) (k:K c)
inductive Vo (m n:Int) (K:Int->Prop):Prop where
 | mk (c:Int) (hn:n≠0) (h:m.tmod n=c) (k:K c)
inductive Vp (k:IntKind) (m n:Int) (K:Int->Prop):Prop where
 | mk (c:Int) (hn:0<=n) (h:m.fdiv (2 ^ (min n.toNat k.bits))=c) (k:K c)
inductive Z3 (k:IntKind) (m n:Int) (K:Int->Prop):Prop where
 | mk (c:Int) (hn:0<=n) (h:k.wrap (m*2 ^ (min n.toNat k.bits))=c) (k:K c)
inductive Vq (n:Nat) (lo hi:Int) (K:Nat->Nat->Prop):Prop where
 | mk (l h:Nat) (el:lo=l) (eh:hi=h) (h1:l<=h) (h2:h<=n) (k:K l h)
inductive Nu (xs:List AV) (lo hi:Int) (K:List AV->Prop):Prop where
 | mk (l h:Nat) (ys:List AV) (el:lo=l) (eh:hi=h) (h1:l<=h) (h2:h<=xs.length) (hy:(xs.take h).drop l=ys) (k:K ys)
inductive Afm (kk:Nat) (xs:List AV) (n:Nat) (lo hi:Int) (K:Nat->Nat->Prop) (KE:Prop):Prop where
 | mk (l h:Nat) (hk:xs.length=kk) (el:lo=l) (eh:hi=h) (h1:l<=h) (h2:h<=n) (h3:l=0\/l<h) (k:K l h)
 | mkE (l:Nat) (hk:xs.length=kk) (el:lo=l) (eh:hi=l) (h2:l<=n) (k:KE)
inductive Vr (s:ByteArray) (i:Int) (K:UInt8->Prop):Prop where
 | mk (n:Nat) (c:UInt8) (hi:i=n) (hc:s[n]? = some c) (k:K c)
inductive Vs (xs:List AV) (K:ByteArray->Prop):Prop where
 | mk (bs:List UInt8) (hx:xs=bs.map fun b=>.val (.int .u8 b.toNat)) (k:K ⟨bs.toArray⟩)
inductive Vt (n:Nat) (K:Prop):Prop where
 | mk (h:n<=9223372036854775807) (k:K)
inductive Pz (len cap:Int) (bytes:Nat) (z:AV) (K:Nat->List AV->Prop):Prop where
 | mk (l c:Nat) (zs:List AV) (el:len=l) (ec:cap=c) (h1:l<=c) (h2:bytes*c<=281474976710656) (h3:c<=140737488355328) (hz:List.replicate l z=zs) (k:K l zs)
 | mkN (z':AV) (hn:Ev z.cells z'.cells) (l c:Nat) (zs:List AV) (el:len=l) (ec:cap=c) (h1:l<=c) (h2:bytes*c<=281474976710656) (h3:c<=140737488355328) (hz:List.replicate l z'=zs) (k:K l zs)
inductive Kr (xs ys:List AV) (kk len bytes:Nat) (K:List AV->Nat->Prop) (KP:List AV->Nat->Nat->Prop):Prop where
 | mkP (zs:List AV) (k' m:Nat) (hk:xs.length=kk) (hl:len<=kk) (hb:(xs.length+ys.length)*bytes<=140737488355328) (hz:Eh xs len ys=zs) (hk':zs.length=k') (hm:len+ys.length=m) (k:KP zs k' m)
 | mk (zs:List AV) (m:Nat) (hk:xs.length=kk) (hl:len=kk) (hb:(xs.length+ys.length)*bytes<=140737488355328) (hz:xs++ys=zs) (hm:kk+ys.length=m) (k:K zs m)
inductive App (ys:List AV) (K:Prop):Prop where
 | mk (hy:ys = []) (k:K)
inductive Nv (ys:List AV) (bytes:Nat) (K:List AV->Nat->Prop):Prop where
 | mk (zs:List AV) (m:Nat) (hb:ys.length*bytes<=140737488355328) (hz:ys=zs) (hm:ys.length=m) (k:K zs m)
inductive Apq (xs:List AV) (kk len k2 off2 len2 bytes:Nat) (K:List AV->Nat->Nat->Prop):Prop where
 | mk (zs:List AV) (k' m:Nat) (hk:xs.length=kk) (hl:len<=kk) (hk2:xs.length=k2) (hl2:off2+len2<=kk) (hb:(xs.length+len2)*bytes<=140737488355328) (hz:Eh xs len ((xs.drop off2).take len2)=zs) (hk':zs.length=k') (hm:len+len2=m) (k:K zs k' m)
inductive Apr (xs:List AV) (kk off len k2 off2 len2:Nat) (K:List AV->Nat->Prop):Prop where
 | mk (zs:List AV) (c:Nat) (hk:xs.length=kk) (hl:off+len<=kk) (hk2:xs.length=k2) (hl2:off2+len2<=kk) (hz:Eh xs off ((xs.drop off2).take (min len2 len))=zs) (hc:min len2 len=c) (k:K zs c)
inductive Aps (xs:List AV) (kk off len:Nat) (z:AV) (K:List AV->Prop):Prop where
 | mk (zs:List AV) (hk:xs.length=kk) (hl:off+len<=kk) (hz:Eh xs off (List.replicate len z)=zs) (k:K zs)
inductive Afn (a b:Nat) (K:Prop):Prop where
 | mk (h:a<=b) (k:K)
inductive Afo (xs:List AV) (n:Nat) (K:List AV->Prop):Prop where
 | mk (ys:List AV) (hy:xs.take n=ys) (k:K ys)
inductive R8 (xs:List AV) (q:Nat) (p:AV) (K:List AV->Prop):Prop where
 | mk (zs:List AV) (hz:xs.set q p=zs) (k:K zs)
inductive Jv (xs:List AV) (K:Int->Prop):Prop where
 | mk (c:Int) (hc:(xs.length:Int)=c) (k:K c)
inductive I6 (kk i:Nat) (xs:List AV) (K:AV->Prop):Prop where
 | mk (x:AV) (hk:xs.length=kk) (hx:xs[i]? = some x) (k:K x)
inductive Fb (kk:Nat) (xs:List AV) (K:Prop):Prop where
 | mk (hk:xs.length=kk) (k:K)
inductive Fc (P:Program) (n:Nat) (H:Hp) (f:FuncId) (args:List AV) (K:Eff->Nat->Prop):Prop where
 | mk (r:AV) (h:Aq P f args r) (hf:args.all AV.free=true) (k:K ⟨r,[],[]⟩ n)
 | act (l:List Nat) (largs:List AV) (hs:List Bc) (r:AV) (hs':List Bc) (h:Bq P f largs hs r hs') (ha:largs.map (ren (Cw n l))=args) (ok:Kq n l largs hs r hs'=true) (hh:K9 H (wrs (Cw n l) 0 hs))
   (k:K ⟨ren (Cw n l) r,wrs (Cw n l) 0 hs++Bs (Cw n l) l.length (hs'.length-l.length),wrs (Cw n l) 0 hs'⟩ (n+(hs'.length-l.length)))
 | rd (l:List Nat) (largs:List AV) (hs:List Bc) (r:AV) (h:Bq P f largs hs r hs) (ha:largs.map (ren (Cw n l))=args) (ok:Kq n l largs hs r hs=true) (hh:K9 H (wrs (Cw n l) 0 hs))
   (k:K ⟨ren (Cw n l) r,wrs (Cw n l) 0 hs,[]⟩ n)
inductive Afp (s:ByteArray) (es:List (AV×AV)) (K:Option (Nat×AV)->Prop):Prop where
 | mk (r:Option (Nat×AV)) (h:G4 s es 0=some r) (k:K r)
inductive Vu (op:BinOp) (k:FloatKind) (a b:Nat) (K:Nat->Prop):Prop where
 | mk (c:Nat) (h:floatBits op k a b=some c) (k:K c)
inductive Vv (k:FloatKind) (a:Nat) (q:IntKind) (K:Int->Prop):Prop where
 | mk (c:Int) (h:floatToIntVal k a q=some c) (k:K c)
inductive Apt (P:Program) (kt:TypeId) (us:List Value) (es:List (AV×AV)) (K:Option (Nat×AV)->Prop):Prop where
 | mk (r:Option (Nat×AV)) (hc:Vl P kt us) (h:Ko P kt us es 0 r) (k:K r)
inductive Apu (P:Program) (kt:TypeId) (ks:List AV) (us:List Value) (v:AV) (es:List (AV×AV)) (K:List (AV×AV)->Prop):Prop where
 | mk (es':List (AV×AV)) (hc:Vl P kt us) (h:Ko P kt us es 0 none) (he:es++[(.agg ks,v)]=es') (k:K es')
inductive Afq (s:ByteArray) (v:AV) (es:List (AV×AV)) (K:List (AV×AV)->Prop):Prop where
 | mk (es':List (AV×AV)) (h:Vi s v es=some es') (k:K es')
inductive Afr (P:Program) (t:TypeId) (us vs:List Value) (K:Bool->Prop):Prop where
 | mk (b:Bool) (h:Vk P t us vs b) (k:K b)
inductive Z4 (P:Program) (t:TypeId) (f:Nat) (K:TypeId->Prop):Prop where
 | mk (ft:TypeId) (h:Zu P t f=some ft) (k:K ft)
inductive Afs (P:Program) (f:FuncId) (args:List AV) (K:AV->Prop):Prop where
 | mk (r:AV) (h:Aq P f args r) (hf:args.all AV.free=true) (k:K r)
inductive Ann where
 | frz (j:Nat)
 | std
 | own
 | ask
def I7:AV->Bool
 | .val (.slice none 0 0)=>true
 | _=>false
def R9:AV->Bool
 | .val (.agg _)=>false
 | _=>true
def Z5 (x:AV) (K:AV->Prop):Prop :=
 match x with
 | .val v=>K (.val v)
 | .loc h off=>K (.loc h off)
 | .arr h k off len=>K (.arr h k off len)
 | .el h k i j=>K (.el h k i j)
 | .mp h=>K (.mp h)
 | .ref cs=>K (.ref cs)
 | .sl sz xs=>K (.sl sz xs)
 | .agg cs=>K (.agg cs)
 | .tup cs=>K (.tup cs)
 | .fn f cs=>K (.fn f cs)
 | .fb s=>K (.fb s)
def L7:List AV->(List AV->Prop)->Prop
 | [],K=>K []
 | x::xs,K=>Z5 x fun x=>L7 xs fun xs=>K (x::xs)
def Iw (x:AV) (K:AV->Prop):Prop :=
 match x with
 | .agg cs=>L7 cs fun cs=>K (.agg cs)
 | .tup cs=>L7 cs fun cs=>K (.tup cs)
 | .fn f cs=>L7 cs fun cs=>K (.fn f cs)
 | x=>Z5 x K
def P0:List AV->(List AV->Prop)->Prop
 | [],K=>K []
 | x::xs,K=>Iw x fun x=>P0 xs fun xs=>K (x::xs)
def Z6 (o:Bc) (K:Bc->Prop):Prop :=
 match o with
 | .cells E cs=>L7 cs fun cs=>K (.cells E cs)
 | .rows E sz xs=>K (.rows E sz xs)
 | .map es=>K (.map es)
 | .none=>K .none
 | .dead=>K .dead
def Ks:List (Nat×Bc)->(List (Nat×Bc)->Prop)->Prop
 | [],K=>K []
 | p::l,K=>Z6 p.2 fun o=>Ks l fun l=>K ((p.1,o)::l)
def G5:List (Nat×Bc)->(List Nat->Prop)->Prop
 | [],K=>K []
 | p::l,K=>G5 l fun l=>K (p.1::l)
theorem Aft (x:AV) (K:AV->Prop):Z5 x K=K x:=by cases x <;> rfl
theorem Vx:∀(l:List AV) (K:List AV->Prop),L7 l K=K l
 | [],_=>rfl
 | x::xs,K=>by simp only [L7,Aft,Vx xs]
theorem P1 (x:AV) (K:AV->Prop):Iw x K=K x:=by cases x <;> simp only [Iw,Vx,Aft]
theorem Vy:∀(l:List AV) (K:List AV->Prop),P0 l K=K l
 | [],_=>rfl
 | x::xs,K=>by simp only [P0,P1,Vy xs]
theorem Apv (o:Bc) (K:Bc->Prop):Z6 o K=K o:=by cases o <;> simp only [Z6,Vx]
theorem Z7:∀(l:List (Nat×Bc)) (K:List (Nat×Bc)->Prop),Ks l K=K l
 | [],_=>rfl
 | p::l,K=>by simp only [Ks,Apv,Z7 l]
theorem Z8:∀(l:List (Nat×Bc)) (K:List Nat->Prop),G5 l K=K (l.map (·.1))
 | [],_=>rfl
 | p::l,K=>by simp only [G5,Z8 l,List.map_cons]
def Dj (P:Program) (T:Cg) (an:Nat->Ann) (n:Nat) (o:Oper) (ρ:Operand->AV) (H:Hp) (K:Eff->Nat->Prop):Prop :=
 match o.op with
 | .move x=>K ⟨ρ x,[],[]⟩ n
 | .assign x=>
  match o.dst with
  | none=>K ⟨ρ x,[],[]⟩ n
  | some d=>
   match an d with
   | .frz _=>K ⟨ρ x,[],[]⟩ n
   | .std=>K ⟨ρ x,[],[]⟩ n
   | .ask=>K ⟨ρ x,[],[]⟩ n
   | .own=>bif I7 (ρ x) then
     match T o.type with
     | some ⟨.slice e,_,_,_⟩=>
      match T e with
      | some g=>bif Nat.blt 0 g.size then K ⟨.arr n 0 0 0,[(n,.none)],[(n,.rows e g.size [])]⟩ (n+1) else False
      | none=>False
     | _=>False
    else K ⟨ρ x,[],[]⟩ n
 | .pick c a b=>
  match ρ c with
  | .val (.bool t)=>K ⟨bif t then ρ a else ρ b,[],[]⟩ n
  | _=>False
 | .alloc t=>
  match T t with
  | some i=>K ⟨.loc n 0,[(n,.none)],[(n,.cells t (i.zero.map .val))]⟩ (n+1)
  | none=>False
 | .box t x=>K ⟨.loc n 0,[(n,.none)],[(n,.cells t (ρ x).cells)]⟩ (n+1)
 | .build t parts=>
  match T t with
  | some ⟨.struct fs,_,_,z⟩=>
   match Pt fs (z.map .val) (parts.toList.map fun p=>(p.1,ρ p.2)) with
   | some cs=>K ⟨.agg cs,[],[]⟩ n
   | none=>False
  | _=>False
 | .buildSlice t len parts=>
  match T t with
  | some ⟨.slice e,_,_,_⟩=>
   match T e with
   | some g=>
    bif Nat.blt 0 g.size&&(parts.toList.map (·.1)==List.range' 0 len)&&Nat.ble (len*g.size) 16777216&&parts.toList.all (fun p=>It g.size (ρ p.2)) then
     match an (o.dst.getD 0) with
     | .frz _=>False
     | .std=>P0 (parts.toList.map fun p=>ρ p.2) fun xs=>K ⟨.sl g.size xs,[],[]⟩ n
     | .ask=>P0 (parts.toList.map fun p=>ρ p.2) fun xs=>K ⟨.sl g.size xs,[],[]⟩ n
     | .own=>P0 (parts.toList.map fun p=>ρ p.2) fun xs=>K ⟨.arr n len 0 len,[(n,.none)],[(n,.rows e g.size xs)]⟩ (n+1)
    else False
   | none=>False
  | _=>False
 | .load t x=>
  match T t with
  | some i=>
   match ρ x with
   | .ref cs=>bif i.isAgg then (bif Nat.ble i.size cs.length then K ⟨.agg (cs.take i.size),[],[]⟩ n else False) else
     match cs with
     | c::_=>K ⟨c,[],[]⟩ n
     | []=>False
   | .loc h off=>
    match H h with
    | .cells E cs=>bif i.isAgg then (bif Nat.ble (off+i.size) cs.length then K ⟨.agg ((cs.drop off).take i.size),[(h,.cells E cs)],[]⟩ n else False) else
      match cs[off]? with
      | some c=>K ⟨c,[(h,.cells E cs)],[]⟩ n
      | none=>False
    | _=>False
   | .el h k q j=>
    match H h with
    | .rows E sz xs=>I6 k q xs fun y=>bif i.isAgg then (bif Nat.ble (j+i.size) y.cells.length then K ⟨.agg ((y.cells.drop j).take i.size),[(h,.rows E sz xs)],[]⟩ n else False) else
      match y.cells[j]? with
      | some c=>K ⟨c,[(h,.rows E sz xs)],[]⟩ n
      | none=>False
    | _=>False
   | _=>False
  | none=>False
 | .store t x y=>
  match T t with
  | some i=>
   match ρ x with
   | .loc h off=>
    match H h with
    | .cells E cs=>bif Nat.beq (ρ y).cells.length i.size&&Nat.ble (off+i.size) cs.length&&(ρ y).cells.all AV.one then K ⟨.val undef,[(h,.cells E cs)],[(h,.cells E (Js cs off (ρ y).cells))]⟩ n else False
    | _=>False
   | .el h k q j=>
    match H h with
    | .rows E sz xs=>I6 k q xs fun z=>bif Nat.beq (ρ y).cells.length i.size&&Nat.blt 0 i.size&&Nat.ble (j+i.size) z.cells.length&&(ρ y).cells.all AV.cl1&&R9 z then
      L7 (ρ y).cells fun ys=>Iw (R4 z j ys) fun p=>R8 xs q p fun u=>K ⟨.val undef,[(h,.rows E sz xs)],[(h,.rows E sz u)]⟩ n else False
    | _=>False
   | _=>False
  | none=>False
 | .nilCheck x=>bif (ρ x).isPtr then K ⟨ρ x,[],[]⟩ n else False
 | .binOp op t x y _=>
  match ρ x,ρ y with
  | .val (.int k a),.val (.int I b)=>
   match op with
   | .shl=>Z3 k a b fun c=>K ⟨.val (.int k c),[],[]⟩ n
   | .shr=>Vp k a b fun c=>K ⟨.val (.int k c),[],[]⟩ n
   | op=>bif decide (k=I) then
     match op with
     | .add=>F9 k (a+b) fun c=>K ⟨.val (.int k c),[],[]⟩ n
     | .sub=>F9 k (a-b) fun c=>K ⟨.val (.int k c),[],[]⟩ n
     | .mul=>F9 k (a*b) fun c=>K ⟨.val (.int k c),[],[]⟩ n
     | .quo=>Vn k a b fun c=>K ⟨.val (.int k c),[],[]⟩ n
     | .rem=>Vo a b fun c=>K ⟨.val (.int k c),[],[]⟩ n
     | op=>
      match Zc op a b with
      | some t=>K ⟨.val (.bool t),[],[]⟩ n
      | none=>
       match Zi op k a b with
       | some c=>K ⟨.val (.int k c),[],[]⟩ n
       | none=>False
    else False
  | .val (.bool a),.val (.bool b)=>
   match T t with
   | some ⟨.bool,_,_,_⟩=>
    match Zj op a b with
    | some t=>K ⟨.val (.bool t),[],[]⟩ n
    | none=>False
   | _=>False
  | .agg xs,.agg ys=>
   match Gm xs with
   | some M=>
    match Gm ys with
    | some vs=>
     match op with
     | .eql=>Afr P t M vs fun b=>K ⟨.val (.bool b),[],[]⟩ n
     | .neq=>Afr P t M vs fun b=>K ⟨.val (.bool !b),[],[]⟩ n
     | _=>False
    | none=>False
   | none=>False
  | .val (.float k a),.val (.float I b)=>bif decide (k=I) then Vu op k a b fun c=>K ⟨.val (.float k c),[],[]⟩ n else False
  | .val (.string a),.val (.string b)=>
   match op with
   | .add=>Vt (a.size+b.size) (K ⟨.val (.string (a++b)),[],[]⟩ n)
   | op=>
    match Zk op a b with
    | some t=>K ⟨.val (.bool t),[],[]⟩ n
    | none=>False
  | .val (.slice p _ _),.val (.slice none _ _)=>
   match op with
   | .eql=>
    match T t with
    | some ⟨.slice _,_,_,_⟩=>K ⟨.val (.bool p.isNone),[],[]⟩ n
    | _=>False
   | _=>False
  | _,_=>False
 | .unOp op _ x=>
  match op,ρ x with
  | .not,.val (.bool b)=>K ⟨.val (.bool !b),[],[]⟩ n
  | .neg,.val (.int k m)=>F9 k (0-m) fun c=>K ⟨.val (.int k c),[],[]⟩ n
  | _,_=>False
 | .convert s d x=>
  match T s,T d,ρ x with
  | some _,some ⟨.int k,_,_,_⟩,.val (.int _ m)=>F9 k m fun c=>K ⟨.val (.int k c),[],[]⟩ n
  | some _,some ⟨.float k,_,_,_⟩,.val (.int _ m)=>K ⟨.val (.float k (floatOfInt k m)),[],[]⟩ n
  | some _,some ⟨.int k,_,_,_⟩,.val (.float q m)=>Vv q m k fun c=>K ⟨.val (.int k c),[],[]⟩ n
  | some ⟨.slice e,_,_,_⟩,some ⟨.string,_,_,_⟩,.sl sz xs=>
   match T e with
   | some ⟨.int .u8,_,_,_⟩=>bif Nat.beq sz 1 then Vs xs fun s=>K ⟨.val (.string s),[],[]⟩ n else False
   | _=>False
  | _,_,_=>False
 | .makeFunc (.func f) first A=>bif first.isEmpty then K ⟨.fn f (A.toList.map ρ),[],[]⟩ n else False
 | .makeSlice t x y=>
  match T t with
  | some ⟨.slice e,_,_,_⟩=>
   match T e with
   | some g=>
    match ρ x,ρ y with
    | .val (.int _ l),.val (.int _ c)=>
     bif Nat.blt 0 g.size&&It g.size (D2 g)&&Nat.beq (D2 g).cells.length g.zero.length&&R9 (D2 g) then
      Pz l c g.bytes (D2 g) fun l u=>K ⟨.arr n l 0 l,[(n,.none)],[(n,.rows e g.size u)]⟩ (n+1)
     else False
    | _,_=>False
   | none=>False
  | _=>False
 | .slice t x lo hi none=>
  match T t with
  | some ⟨.slice e,_,_,_⟩=>
   match T e with
   | some g=>
    match ρ x with
    | .sl sz xs=>
     match F8 ρ 0 lo,F8 ρ xs.length hi with
     | some l,some h=>bif Nat.beq sz g.size then Nu xs l h fun ys=>K ⟨.sl sz ys,[],[]⟩ n else False
     | _,_=>False
    | .arr hd k off len=>
     match H hd with
     | .rows E sz xs=>
      match F8 ρ 0 lo,F8 ρ len hi with
      | some l,some h=>bif Nat.beq sz g.size then Afm k xs len l h (fun l h=>K ⟨.arr hd k (off+l) (h-l),[(hd,.rows E sz xs)],[]⟩ n) (K ⟨.sl g.size [],[(hd,.rows E sz xs)],[]⟩ n) else False
      | _,_=>False
     | _=>False
    | _=>False
   | none=>False
  | some ⟨.string,_,_,_⟩=>
   match ρ x with
   | .val (.string s)=>
    match F8 ρ 0 lo,F8 ρ s.size hi with
    | some l,some h=>Vq s.size l h fun l h=>K ⟨.val (.string (s.extract l h)),[],[]⟩ n
    | _,_=>False
   | _=>False
  | _=>False
 | .fieldAddr s x f=>
  match T s with
  | some ⟨.struct fs,_,_,_⟩=>
   match fs[f]? with
   | some q=>
    match ρ x with
    | .loc h off=>K ⟨.loc h (off+q.1),[],[]⟩ n
    | .ref cs=>K ⟨.ref (cs.drop q.1),[],[]⟩ n
    | .el h k m j=>
     match H h with
     | .rows E sz xs=>Fb k xs (K ⟨.el h k m (j+q.1),[(h,.rows E sz xs)],[]⟩ n)
     | _=>False
    | _=>False
   | none=>False
  | _=>False
 | .indexAddr t x y=>
  match T t with
  | some ⟨.slice e,_,_,_⟩=>
   match T e with
   | some g=>
    match ρ x,ρ y with
    | .sl sz xs,.val (.int _ i)=>bif Nat.beq sz g.size then R7 xs i fun _ z=>K ⟨.ref z.cells,[],[]⟩ n else False
    | .arr h k off len,.val (.int _ i)=>
     match H h with
     | .rows E sz xs=>bif Nat.beq sz g.size then Nt len k xs i fun m=>K ⟨.el h k (off+m) 0,[(h,.rows E sz xs)],[]⟩ n else False
     | _=>False
    | _,_=>False
   | none=>False
  | _=>False
 | .index t x y=>
  match T t with
  | some ⟨.string,_,_,_⟩=>
   match ρ x,ρ y with
   | .val (.string s),.val (.int _ i)=>Vr s i fun c=>K ⟨.val (.int .u8 c.toNat),[],[]⟩ n
   | _,_=>False
  | _=>False
 | .field s x f=>
  match T s with
  | some ⟨.struct fs,_,_,_⟩=>
   match fs[f]? with
   | some q=>
    match ρ x with
    | .agg cs=>Z4 P s f fun Z=>
     match T Z with
     | some J=>bif J.isAgg then (bif Nat.ble (q.1+J.size) cs.length then K ⟨.agg ((cs.drop q.1).take J.size),[],[]⟩ n else False) else
       match cs[q.1]? with
       | some c=>K ⟨c,[],[]⟩ n
       | none=>False
     | none=>False
    | _=>False
   | none=>False
  | _=>False
 | .makeMap _ none=>K ⟨.mp n,[(n,.none)],[(n,.map [])]⟩ (n+1)
 | .lookup t x y ok=>
  match T t with
  | some ⟨.map N Y,_,_,_⟩=>
   match T N with
   | some ⟨.string,_,_,_⟩=>
    match T Y with
    | some J=>
     match ρ x with
     | .mp h=>
      match ρ y with
      | .val (.string s)=>
       match H h with
       | .map es=>Afp s es fun r=>K ⟨Pw ok J r,[(h,.map es)],[]⟩ n
       | _=>False
      | _=>False
     | _=>False
    | none=>False
   | some ⟨.struct _,_,_,_⟩=>
    match T Y with
    | some J=>
     match ρ x with
     | .mp h=>
      match ρ y with
      | .agg R=>
       match Gm R with
       | some M=>
        match H h with
        | .map es=>Apt P N M es fun r=>K ⟨Pw ok J r,[(h,.map es)],[]⟩ n
        | _=>False
       | none=>False
      | _=>False
     | _=>False
    | none=>False
   | _=>False
  | _=>False
 | .mapUpdate t x y z=>
  match T t with
  | some ⟨.map N _,_,_,_⟩=>
   match T N with
   | some ⟨.string,_,_,_⟩=>
    match ρ x with
    | .mp h=>
     match ρ y with
     | .val (.string s)=>
      match H h with
      | .map es=>bif (ρ z).free1 then Iw (ρ z) fun v=>Afq s v es fun L=>K ⟨.val undef,[(h,.map es)],[(h,.map L)]⟩ n else False
      | _=>False
     | _=>False
    | _=>False
   | some ⟨.struct _,_,_,_⟩=>
    match ρ x with
    | .mp h=>
     match ρ y with
     | .agg R=>
      match Gm R with
      | some M=>
       match H h with
       | .map es=>bif (ρ z).free1 then Iw (ρ z) fun v=>Apu P N R M v es fun L=>K ⟨.val undef,[(h,.map es)],[(h,.map L)]⟩ n else False
       | _=>False
      | none=>False
     | _=>False
    | _=>False
   | _=>False
  | _=>False
 | .extract x i=>
  match ρ x with
  | .tup cs=>
   match cs[i]? with
   | some c=>K ⟨c,[],[]⟩ n
   | none=>False
  | _=>False
 | .call c=>
  match c.callee with
  | .value x=>
   match ρ x with
   | .fn f A=>
    match an (o.dst.getD 0) with
    | .frz j=>
     (match (c.args.toList.map ρ ++ A)[j]? with
     | some (.arr h k 0 len)=>
      (match H h with
      | .rows E sz xs=>Fb k xs (Fb len xs (Afs P f ((c.args.toList.map ρ ++ A).set j (.sl sz xs)) fun r=>K ⟨r,[(h,.rows E sz xs)],[(h,.dead)]⟩ n))
      | _=>False)
     | _=>False)
    | _=>Fc P n H f (c.args.toList.map ρ ++ A) K
   | _=>False
  | .invoke _ _=>False
  | .builtin .len=>
   match c.args.toList,c.argTypes.toList with
   | [x],[t]=>
    match T t with
    | some ⟨.slice _,_,_,_⟩=>
     match ρ x with
     | .sl _ xs=>
      match an (o.dst.getD 0) with
      | .ask=>Jv xs fun c=>K ⟨.val (.int .i64 c),[],[]⟩ n
      | _=>K ⟨.val (.int .i64 xs.length),[],[]⟩ n
     | .val (.slice _ m _)=>K ⟨.val (.int .i64 m),[],[]⟩ n
     | .arr h k _ len=>
      match H h with
      | .rows E sz xs=>Fb k xs (K ⟨.val (.int .i64 len),[(h,.rows E sz xs)],[]⟩ n)
      | _=>False
     | _=>False
    | some ⟨.string,_,_,_⟩=>
     match ρ x with
     | .val (.string s)=>K ⟨.val (.int .i64 s.size),[],[]⟩ n
     | _=>False
    | _=>False
   | _,_=>False
  | .builtin .cap=>
   match c.args.toList,c.argTypes.toList with
   | [x],[t]=>
    match T t with
    | some ⟨.slice _,_,_,_⟩=>
     match ρ x with
     | .val (.slice _ _ m)=>K ⟨.val (.int .i64 m),[],[]⟩ n
     | _=>False
    | _=>False
   | _,_=>False
  | .builtin .copy=>
   match c.args.toList,c.argTypes.toList with
   | [x,y],[t,X]=>
    match T t with
    | some ⟨.slice e,_,_,_⟩=>
     match T e with
     | some g=>
      match ρ y with
      | .arr h2 S D G=>
       match ρ x with
       | .arr h k off len=>
        match H h with
        | .rows E sz xs=>bif Nat.beq E e&&Nat.beq sz g.size&&Nat.beq h h2&&Nat.blt 0 g.size then
          Apr xs k off len S D G (fun u c=>K ⟨.val (.int .i64 c),[(h,.rows e g.size xs)],[(h,.rows e g.size u)]⟩ n) else False
        | _=>False
       | .sl _ []=>
        match H h2 with
        | .rows E sz xs=>bif Nat.beq sz g.size then Fb S xs (K ⟨.val (.int .i64 0),[(h2,.rows E g.size xs)],[]⟩ n) else False
        | _=>False
       | _=>False
      | _=>False
     | none=>False
    | _=>False
   | _,_=>False
  | .builtin .clear=>
   match c.args.toList,c.argTypes.toList with
   | [x],[t]=>
    match T t with
    | some ⟨.slice e,_,_,_⟩=>
     match T e with
     | some g=>
      match ρ x with
      | .arr h k off len=>
       match H h with
       | .rows E sz xs=>bif Nat.beq E e&&Nat.beq sz g.size&&Nat.blt 0 g.size&&It g.size (D2 g)&&Nat.beq (D2 g).cells.length g.zero.length&&R9 (D2 g) then
         Aps xs k off len (D2 g) (fun u=>K ⟨.tup [],[(h,.rows e g.size xs)],[(h,.rows e g.size u)]⟩ n) else False
       | _=>False
      | .sl _ []=>K ⟨.tup [],[],[]⟩ n
      | _=>False
     | none=>False
    | _=>False
   | _,_=>False
  | .builtin .append=>
   match c.args.toList,c.argTypes.toList with
   | [x,y],[t,X]=>
    match T t,T X with
    | some ⟨.slice e,_,_,_⟩,some ⟨.slice _,_,_,_⟩=>
     match T e with
     | some g=>
      bif Nat.blt 0 g.size&&Nat.beq g.zero.length g.size&&Nat.ble 1 g.bytes then
       match ρ y with
       | .sl sz ys=>
        bif Nat.beq sz g.size then
         match ρ x with
         | .arr h k 0 len=>
          match H h with
          | .rows E B xs=>bif Nat.beq E e&&Nat.beq B g.size then
            Kr xs ys k len g.bytes (fun u m=>K ⟨.arr h m 0 m,[(h,.rows e g.size xs)],[(h,.rows e g.size u)]⟩ n) (fun u I m=>K ⟨.arr h I 0 m,[(h,.rows e g.size xs)],[(h,.rows e g.size u)]⟩ n) else False
          | _=>False
         | .val (.slice none 0 0)=>Nv ys g.bytes fun u m=>K ⟨.arr n m 0 m,[(n,.none)],[(n,.rows e g.size u)]⟩ (n+1)
         | .sl V U=>App ys (K ⟨.sl V U,[],[]⟩ n)
         | _=>False
        else False
       | .arr h2 S D G=>
        match ρ x with
        | .arr h k 0 len=>
         match H h with
         | .rows E B xs=>bif Nat.beq E e&&Nat.beq B g.size&&Nat.beq h h2 then
           Apq xs k len S D G g.bytes (fun u I m=>K ⟨.arr h I 0 m,[(h,.rows e g.size xs)],[(h,.rows e g.size u)]⟩ n) else False
         | _=>False
        | _=>False
       | _=>False
      else False
     | none=>False
    | some ⟨.slice e,_,_,_⟩,some ⟨.string,_,_,_⟩=>
     match T e with
     | some g=>
      bif Nat.beq g.size 1&&Nat.beq g.zero.length g.size&&Nat.ble 1 g.bytes then
       match ρ y with
       | .val (.string s)=>
        match ρ x with
        | .arr h k 0 len=>
         match H h with
         | .rows E B xs=>bif Nat.beq E e&&Nat.beq B g.size then
           Kr xs (G3 s) k len g.bytes (fun u m=>K ⟨.arr h m 0 m,[(h,.rows e g.size xs)],[(h,.rows e g.size u)]⟩ n) (fun _ _ _=>False) else False
         | _=>False
        | _=>False
       | _=>False
      else False
     | none=>False
    | _,_=>False
   | _,_=>False
  | .builtin .max=>
   match c.args.toList,c.argTypes.toList with
   | [x,y],[_,_]=>
    match ρ x,ρ y with
    | .val (.int k a),.val (.int _ b)=>K ⟨.val (.int k (if b>a then b else a)),[],[]⟩ n
    | _,_=>False
   | _,_=>False
  | .builtin .min=>
   match c.args.toList,c.argTypes.toList with
   | [x,y],[_,_]=>
    match ρ x,ρ y with
    | .val (.int k a),.val (.int _ b)=>K ⟨.val (.int k (if b<a then b else a)),[],[]⟩ n
    | _,_=>False
   | _,_=>False
  | _=>False
 | _=>False
end Go.Ab
namespace Go.Ab
section
variable {P:Program} {o:Oper} {ρ:Operand->AV} {a:Act} {w w':World} {next:Act->World->Prop} {Q:Exit->Act->World->Prop}
def P2 (σ:Aw) (w:World):Aw:=fun b=>match σ b with | none=>w.heap[b]? | some _=>none
theorem St.lend {σ:Aw} {ι:Bi} {H:Hp} {F:Aw} {W:World} (s:St σ ι H F W w):St σ ι0 H0 (P2 σ w) W w:=by
 refine ⟨s.sto,fun b o hb=>?_,fun h=>rfl,(fun h h' b c=>by cases c),s.os,s.tape,s.output,s.glo,s.drw⟩
 unfold P2 at hb
 cases e:σ b with
 | none=>rw [e] at hb; exact ⟨hb,rfl⟩
 | some _=>rw [e] at hb; cases hb
theorem St.unlend {σ k:Aw} {ι:Bi} {H:Hp} {F:Aw} {W:World} (s:St σ ι H F W w) (g:σ.le k) (s':St k ι0 H0 (P2 σ w) W w'):St k ι H F W w':=by
 have key:∀b,σ b=none->∀o,w.heap[b]? = some o->w'.heap[b]? = some o/\k b=none:=by
  intro b hb o f
  exact s'.fra b o (by unfold P2; rw [hb]; exact f)
 have le:Le σ ι H k ι H:=⟨g,fun _=>HLe.refl _ _⟩
 refine ⟨s'.sto,fun b o hb=>?_,fun h=>?_,s.inj,s'.os,s'.tape,s'.output,s'.glo,s'.drw⟩
 .obtain ⟨h1,h2⟩:=s.fra b o hb
  exact key b h2 o h1
 .have f:=s.obj h
  unfold Ca at f ⊢
  cases z:H h with
  | none=>rw [z] at f; exact f
  | dead=>trivial
  | cells E cs=>
   rw [z] at f
   obtain ⟨b,C,j,h1,h2,h3,h4,B⟩:=f
   obtain ⟨u,l⟩:=key b h1 _ h3
   exact ⟨b,C,j,l,h2,u,h4,fun i c v x y=>(B i c v x y).mono le⟩
  | rows E sz xs=>
   rw [z] at f
   obtain ⟨D,z2,⟨j,I⟩ | ⟨b,A,C,j,h1,h2,h3,h4,B,G⟩⟩:=f
   .exact ⟨D,z2,.inl ⟨j,I⟩⟩
   .obtain ⟨u,l⟩:=key b h1 _ h3
    exact ⟨D,z2,.inr ⟨b,A,C,j,l,h2,u,h4,B,G.mono g⟩⟩
  | map es=>
   rw [z] at f
   obtain ⟨b,M,q,j,h1,h2,h3,h4⟩:=f
   obtain ⟨u,l⟩:=key b h1 _ h3
   exact ⟨b,M,q,j,l,h2,u,h4.mono g⟩
theorem Conc.of0 {σ:Aw} {ι:Bi} {H:Hp} {x:AV} {v:Value} (h:Conc σ ι0 H0 x v):Conc σ ι H x v:=by
 induction h with
 | cc h=>exact .cc h
 | loc h off b hb=>cases hb
 | mp h b hb=>cases hb
 | arr h k off len v s y c=>exact (s rfl).elim
 | el h k i j v s y c=>exact (s rfl).elim
 | ref cs b off C E fr g u hc h1 z=>exact .ref cs b off C E fr g u hc h1 z
 | agg cs vs l _ ih=>exact .agg cs vs l ih
 | tup cs vs l _ ih=>exact .tup cs vs l ih
 | fn f q vs l _ ih=>exact .fn f q vs l ih
theorem Apw {x:AV} (h:x.free1=true) (hx:∀cs,x≠.agg cs):x.cl1=true:=by
 cases x <;> first | exact h | exact (hx _ rfl).elim
theorem Conc.to0 {σ:Aw} {ι:Bi} {H:Hp} {x:AV} {v:Value} (hx:x.free=true) (h:Conc σ ι H x v):Conc σ ι0 H0 x v:=by
 have key:∀(cs:List AV),cs.all AV.cl1=true->∀(i:Nat) (c:AV) (u:Value),cs[i]? = some c->Conc σ ι H c u->Conc σ ι0 H0 c u:=by
  intro cs s i c u hc h
  exact .cc (h.cc_of (List.all_eq_true.1 s c (List.mem_of_getElem? hc))).1
 cases h with
 | cc h=>exact .cc h
 | loc=>cases hx
 | mp=>cases hx
 | arr=>cases hx
 | el=>cases hx
 | ref cs b off C E fr g A hc h1 D=>exact .ref cs b off C E fr g A hc h1 D
 | agg cs vs l h=>exact .agg cs vs l fun i c u h1 h2=>key cs hx i c u h1 (h i c u h1 h2)
 | tup cs vs l h=>
  refine .tup cs vs l fun i c u h1 h2=>?_
  have y:=List.all_eq_true.1 hx c (List.mem_of_getElem? h1)
  have hc:=h i c u h1 h2
  cases c with
  | agg ds=>
   obtain ⟨z,rfl,q,B⟩:=hc.agg_inv
   exact .agg ds z q fun j d v g1 g2=>key ds y j d v g1 (B j d v g1 g2)
  | _=>exact .cc (hc.cc_of (Apw y (by intro cs e; cases e))).1
 | fn f k vs l h=>exact .fn f k vs l fun i c u h1 h2=>key k hx i c u h1 (h i c u h1 h2)
theorem Conc.fn_inv {σ:Aw} {ι:Bi} {H:Hp} {f:FuncId} {b:List AV} {v:Value} (h:Conc σ ι H (.fn f b) v) :
  ∃vs:Array Value,v = .func (.func f) #[] vs/\vs.size=b.length/\∀(i:Nat) (c:AV) (u:Value),b[i]? = some c->vs[i]? = some u->Conc σ ι H c u:=by
 cases h with
 | cc h=>cases h
 | fn _ _ vs g h=>exact ⟨vs,rfl,g,h⟩
theorem Z9 {σ:Aw} {ι:Bi} {H:Hp} {xs:Array Operand} {b:List AV} {vs:Array Value} (hx:∀x∈xs.toList,Conc σ ι H (ρ x) (a.eval x)) (h:vs.size=b.length)
  (g:∀(i:Nat) (c:AV) (u:Value),b[i]? = some c->vs[i]? = some u->Conc σ ι H c u):Ju σ ι H (xs.toList.map ρ ++ b) (xs.map a.eval++vs):=by
 refine ⟨by simp [h],fun i c u h1 h2=>?_⟩
 by_cases f:i<xs.size
 .rw [List.getElem?_append_left (by simpa using f),List.getElem?_map,Array.getElem?_toList] at h1
  rw [Array.getElem?_append_left (by simpa using f),Array.getElem?_map] at h2
  simp [f] at h1 h2
  subst h1; subst h2
  exact hx _ (by simp)
 .rw [List.getElem?_append_right (by simp; omega)] at h1
  rw [Array.getElem?_append_right (by simp; omega)] at h2
  simp at h1 h2
  exact g _ c u h1 h2
theorem Apx {c:Call} {x:Operand} {f:FuncId} {g:List AV} {r:AV} (G:o.op = .call c) (h:c.callee = .value x) (hx:ρ x = .fn f g) (hp:Aq P f (c.args.toList.map ρ ++ g) r)
  (l:(c.args.toList.map ρ ++ g).all AV.free=true):Bo P o ρ ⟨r,[],[]⟩:=by
 intro σ ι H F W w a next Q s B _ hk
 obtain ⟨⟨fn,N,k,q⟩,hp⟩:=hp
 have z:=B x (by simp [G,Op.operands,Call.operands,h])
 rw [hx] at z
 obtain ⟨vs,L,M,E⟩:=z.fn_inv
 have j:Ju σ ι H (c.args.toList.map ρ ++ g) (c.args.map a.eval++vs) :=
  Z9 (fun y hy=>B y (by simp only [G,Op.operands,Call.operands,h]; simp at hy ⊢; exact .inr hy)) M E
 have A:(execOp a.eval o).run P w = .ok (.enter f (c.args.map a.eval++vs)) w:=by
  have I:(callFunc f (c.args.map a.eval++vs)).run P w = .ok (.enter f (c.args.map a.eval++vs)) w:=by
   unfold callFunc
   simp only [Sem.run_bind,program,Sem.run,Result.andThen_ok,N,k,q,Bool.false_eq_true,if_false,Sem.run_pure]
  simp only [execOp,G,resolve,h,L,Deferred.ofValue,invoke,Sem.run_bind,Sem.run_pure,Result.andThen_ok,Array.empty_append,I]
 unfold Oper.wp
 rw [A]
 simp only [Oper.upon]
 refine (hp σ (P2 σ w) W w (c.args.map a.eval++vs) s.lend ⟨j.1,fun i b u h1 h2=>(j.2 i b u h1 h2).to0 (List.all_eq_true.1 l b (List.mem_of_getElem? h1))⟩).mono ?_
 rintro e w' ⟨v,J,rfl,D,s',hc⟩
 exact hk J ι v w' ⟨D,fun _=>HLe.refl _ _⟩ (s.unlend D s') hc.of0
theorem Apy {c:Call} {x:Operand} {f:FuncId} {g:List AV} {r:AV} {j h sz:Nat} {E:TypeId} {xs:List AV} (S:o.op = .call c) (k:c.callee = .value x) (hx:ρ x = .fn f g)
  (hj:(c.args.toList.map ρ ++ g)[j]? = some (.arr h xs.length 0 xs.length)) (hp:Aq P f ((c.args.toList.map ρ ++ g).set j (.sl sz xs)) r)
  (A:((c.args.toList.map ρ ++ g).set j (.sl sz xs)).all AV.free=true):Bo P o ρ ⟨r,[(h,.rows E sz xs)],[(h,.dead)]⟩:=by
 intro σ ι H F W w a next Q s J R hk
 have Z:H h = .rows E sz xs:=R (h,.rows E sz xs) (by simp)
 obtain ⟨⟨fn,hf,z,B⟩,hp⟩:=hp
 have G:=J x (by simp [S,Op.operands,Call.operands,k])
 rw [hx] at G
 obtain ⟨vs,hv,hl,M⟩:=G.fn_inv
 have q:Ju σ ι H (c.args.toList.map ρ ++ g) (c.args.map a.eval++vs) :=
  Z9 (fun y hy=>J y (by simp only [S,Op.operands,Call.operands,k]; simp at hy ⊢; exact .inr hy)) hl M
 obtain ⟨N,D,Y,V⟩:=s.freeze Z
 have l:Ju N ι (A3 H h .dead) ((c.args.toList.map ρ ++ g).set j (.sl sz xs)) (c.args.map a.eval++vs):=by
  refine ⟨by rw [List.length_set]; exact q.1,fun i b u h1 h2=>?_⟩
  rw [List.getElem?_set] at h1
  split at h1
  .rename_i U
   split at h1
   .cases h1
    subst U
    have hc:=q.2 j _ u hj h2
    have:=V 0 xs.length _ (by omega) (hc.arr_inv Z rfl)
    rw [List.drop_zero,List.take_of_length_le (by omega)] at this
    exact .cc this
   .cases h1
  .exact (q.2 i b u h1 h2).mono D
 have I:(execOp a.eval o).run P w = .ok (.enter f (c.args.map a.eval++vs)) w:=by
  have X:(callFunc f (c.args.map a.eval++vs)).run P w = .ok (.enter f (c.args.map a.eval++vs)) w:=by
   unfold callFunc
   simp only [Sem.run_bind,program,Sem.run,Result.andThen_ok,hf,z,B,Bool.false_eq_true,if_false,Sem.run_pure]
  simp only [execOp,S,resolve,k,hv,Deferred.ofValue,invoke,Sem.run_bind,Sem.run_pure,Result.andThen_ok,Array.empty_append,X]
 unfold Oper.wp
 rw [I]
 simp only [Oper.upon]
 refine (hp N (P2 N w) W w (c.args.map a.eval++vs) Y.lend ⟨l.1,fun i b u h1 h2=>(l.2 i b u h1 h2).to0 (List.all_eq_true.1 A b (List.mem_of_getElem? h1))⟩).mono ?_
 rintro e w' ⟨v,σ',rfl,L,s',hc⟩
 exact hk σ' ι v w' (D.trans ⟨L,fun _=>HLe.refl _ _⟩) (Y.unlend L s') hc.of0
end
end Go.Ab
namespace Go.Ab
theorem Fq {a b:Nat} (h:Nat.blt a b=true):a<b:=Nat.le_of_ble_eq_true h
theorem Aaa {es:Nat->Nat} {o:Bc}:Gx es o = .none↔o = .none:=by cases o <;> simp [Gx]
theorem Vz {es:Nat->Nat} {o:Bc}:(Gx es o).live=o.live:=by cases o <;> rfl
theorem Aab {es:Nat->Nat} {o:Bc} {E:TypeId} {sz:Nat} {xs:List AV}:Gx es o = .rows E sz xs↔o = .rows E sz xs:=by cases o <;> simp [Gx]
section
variable {es:Nat->Nat} {m:Nat} {σ:Aw} {ι ιl:Bi} {H Hl:Hp}
theorem La (f:∀k,k<m->ιl k=ι (es k)) (B:∀k,k<m->H (es k)=Gx es (Hl k)) {x:AV} {v:Value} (hx:x.under0 m=true):Conc σ ι H (Z1 es x) v↔Conc σ ιl Hl x v:=by
 have rows:∀k,k<m->∀E sz xs,H (es k) = .rows E sz xs↔Hl k = .rows E sz xs:=fun k hk E sz xs=>by rw [B k hk]; exact Aab
 have some:∀k,k<m->(H (es k)≠.none↔Hl k≠.none):=fun k hk=>by rw [B k hk]; exact not_congr Aaa
 constructor
 .intro h
  cases x with
  | val u=>cases h with | cc h=>exact .cc h
  | sl sz xs=>cases h with | cc h=>exact .cc h
  | fb s=>cases h with | cc h=>exact .cc h
  | ref cs=>
   cases h with
   | cc h=>exact .cc h
   | ref cs b off C E fr g z hc h1 A=>exact .ref cs b off C E fr g z hc h1 A
  | loc k off=>
   have hk:=Fq hx
   cases h with
   | cc h=>cases h
   | loc _ _ b hb=>exact .loc k off b (by rw [f k hk]; exact hb)
  | mp k=>
   have hk:=Fq hx
   cases h with
   | cc h=>cases h
   | mp _ b hb=>exact .mp k b (by rw [f k hk]; exact hb)
  | arr k q off len=>
   have hk:=Fq hx
   cases h with
   | cc h=>cases h
   | arr _ _ _ _ _ y l c=>
    exact .arr k q off len v ((some k hk).1 y) (fun E sz xs e=>by rw [f k hk]; exact l E sz xs ((rows k hk E sz xs).2 e)) c
  | el k q i j=>
   have hk:=Fq hx
   cases h with
   | cc h=>cases h
   | el _ _ _ _ _ y l c=>
    exact .el k q i j v ((some k hk).1 y) (fun E sz xs e=>by rw [f k hk]; exact l E sz xs ((rows k hk E sz xs).2 e)) c
  | agg=>cases hx
  | tup=>cases hx
  | fn=>cases hx
 .intro h
  cases x with
  | val u=>cases h with | cc h=>exact .cc h
  | sl sz xs=>cases h with | cc h=>exact .cc h
  | fb s=>cases h with | cc h=>exact .cc h
  | ref cs=>
   cases h with
   | cc h=>exact .cc h
   | ref cs b off C E fr g z hc h1 A=>exact .ref cs b off C E fr g z hc h1 A
  | loc k off=>
   have hk:=Fq hx
   cases h with
   | cc h=>cases h
   | loc _ _ b hb=>exact .loc (es k) off b (by rw [<-f k hk]; exact hb)
  | mp k=>
   have hk:=Fq hx
   cases h with
   | cc h=>cases h
   | mp _ b hb=>exact .mp (es k) b (by rw [<-f k hk]; exact hb)
  | arr k q off len=>
   have hk:=Fq hx
   cases h with
   | cc h=>cases h
   | arr _ _ _ _ _ y l c=>
    exact .arr (es k) q off len v ((some k hk).2 y) (fun E sz xs e=>by rw [<-f k hk]; exact l E sz xs ((rows k hk E sz xs).1 e)) c
  | el k q i j=>
   have hk:=Fq hx
   cases h with
   | cc h=>cases h
   | el _ _ _ _ _ y l c=>
    exact .el (es k) q i j v ((some k hk).2 y) (fun E sz xs e=>by rw [<-f k hk]; exact l E sz xs ((rows k hk E sz xs).1 e)) c
  | agg=>cases hx
  | tup=>cases hx
  | fn=>cases hx
theorem Ge (b:∀k,k<m->ιl k=ι (es k)) (g:∀k,k<m->H (es k)=Gx es (Hl k)) {x:AV} {v:Value} (hx:x.under1 m=true):Conc σ ι H (Kp es x) v↔Conc σ ιl Hl x v:=by
 have cells:∀{cs:List AV},cs.all (AV.under0 m)=true->∀(i:Nat) (c:AV),cs[i]? = some c->∀u,(Conc σ ι H (Z1 es c) u↔Conc σ ιl Hl c u) :=
  fun q i c hc u=>La b g (List.all_eq_true.1 q c (List.mem_of_getElem? hc))
 cases x with
 | fn f cs=>
  constructor
  .intro h
   obtain ⟨vs,rfl,l,h⟩:=h.fn_inv
   exact .fn f cs vs (by simpa using l) fun i c u h1 h2=>(cells hx i c h1 u).1 (h i _ u (by simp [h1]) h2)
  .intro h
   obtain ⟨vs,rfl,l,h⟩:=h.fn_inv
   refine .fn f _ vs (by simpa using l) fun i c u h1 h2=>?_
   rw [List.getElem?_map] at h1
   cases hc:cs[i]? with
   | none=>rw [hc] at h1; cases h1
   | some y=>rw [hc] at h1; cases h1; exact (cells hx i y hc u).2 (h i y u hc h2)
 | agg cs=>cases hx
 | tup cs=>cases hx
 | val u=>exact La (x:=(.val u)) b g hx
 | loc h off=>exact La (x:=(.loc h off)) b g hx
 | arr h k off len=>exact La (x:=(.arr h k off len)) b g hx
 | el h k i j=>exact La (x:=(.el h k i j)) b g hx
 | mp h=>exact La (x:=(.mp h)) b g hx
 | ref cs=>exact La (x:=(.ref cs)) b g hx
 | sl sz xs=>exact La (x:=(.sl sz xs)) b g hx
 | fb s=>exact La (x:=(.fb s)) b g hx
theorem Apz {n:Nat} {x:AV} (h:x.under0 n=true):x.under1 n=true:=by
 cases x <;> first | exact h | cases h
theorem Aac {n:Nat} {x:AV} (h:x.under1 n=true):x.under n=true:=by
 cases x with
 | fn f cs=>exact List.all_eq_true.2 fun c hc=>Apz (List.all_eq_true.1 h c hc)
 | agg cs=>cases h
 | tup cs=>cases h
 | _=>exact h
theorem Ap0 (b:∀k,k<m->ιl k=ι (es k)) (g:∀k,k<m->H (es k)=Gx es (Hl k)) {x:AV} {v:Value} (hx:x.under2 m=true):Conc σ ι H (Z2 es x) v↔Conc σ ιl Hl x v:=by
 have cells:∀{cs:List AV},cs.all (AV.under1 m)=true->∀(i:Nat) (c:AV),cs[i]? = some c->∀u,(Conc σ ι H (Kp es c) u↔Conc σ ιl Hl c u) :=
  fun q i c hc u=>Ge b g (List.all_eq_true.1 q c (List.mem_of_getElem? hc))
 cases x with
 | agg cs=>
  constructor
  .intro h
   obtain ⟨vs,rfl,l,h⟩:=h.agg_inv
   exact .agg cs vs (by simpa using l) fun i c u h1 h2=>(cells hx i c h1 u).1 (h i _ u (by simp [h1]) h2)
  .intro h
   obtain ⟨vs,rfl,l,h⟩:=h.agg_inv
   refine .agg _ vs (by simpa using l) fun i c u h1 h2=>?_
   rw [List.getElem?_map] at h1
   cases hc:cs[i]? with
   | none=>rw [hc] at h1; cases h1
   | some y=>rw [hc] at h1; cases h1; exact (cells hx i y hc u).2 (h i y u hc h2)
 | tup cs=>cases hx
 | fn f cs=>exact Ge (x:=(.fn f cs)) b g hx
 | val u=>exact Ge (x:=(.val u)) b g hx
 | loc h off=>exact Ge (x:=(.loc h off)) b g hx
 | arr h k off len=>exact Ge (x:=(.arr h k off len)) b g hx
 | el h k i j=>exact Ge (x:=(.el h k i j)) b g hx
 | mp h=>exact Ge (x:=(.mp h)) b g hx
 | ref cs=>exact Ge (x:=(.ref cs)) b g hx
 | sl sz xs=>exact Ge (x:=(.sl sz xs)) b g hx
 | fb s=>exact Ge (x:=(.fb s)) b g hx
theorem Afu (l:∀k,k<m->ιl k=ι (es k)) (q:∀k,k<m->H (es k)=Gx es (Hl k)) {x:AV} {v:Value} (hx:x.under m=true):Conc σ ι H (ren es x) v↔Conc σ ιl Hl x v:=by
 have cells:∀{cs:List AV},cs.all (AV.under1 m)=true->∀(i:Nat) (c:AV),cs[i]? = some c->∀u,(Conc σ ι H (Kp es c) u↔Conc σ ιl Hl c u) :=
  fun z i c hc u=>Ge l q (List.all_eq_true.1 z c (List.mem_of_getElem? hc))
 have b:∀{cs:List AV},cs.all (AV.under2 m)=true->∀(i:Nat) (c:AV),cs[i]? = some c->∀u,(Conc σ ι H (Z2 es c) u↔Conc σ ιl Hl c u) :=
  fun z i c hc u=>Ap0 l q (List.all_eq_true.1 z c (List.mem_of_getElem? hc))
 cases x with
 | agg cs=>
  constructor
  .intro h
   obtain ⟨vs,rfl,g,h⟩:=h.agg_inv
   exact .agg cs vs (by simpa using g) fun i c u h1 h2=>(cells hx i c h1 u).1 (h i _ u (by simp [h1]) h2)
  .intro h
   obtain ⟨vs,rfl,g,h⟩:=h.agg_inv
   refine .agg _ vs (by simpa using g) fun i c u h1 h2=>?_
   rw [List.getElem?_map] at h1
   cases hc:cs[i]? with
   | none=>rw [hc] at h1; cases h1
   | some y=>rw [hc] at h1; cases h1; exact (cells hx i y hc u).2 (h i y u hc h2)
 | tup cs=>
  constructor
  .intro h
   obtain ⟨vs,rfl,g,h⟩:=h.tup_inv
   exact .tup cs vs (by simpa using g) fun i c u h1 h2=>(b hx i c h1 u).1 (h i _ u (by simp [h1]) h2)
  .intro h
   obtain ⟨vs,rfl,g,h⟩:=h.tup_inv
   refine .tup _ vs (by simpa using g) fun i c u h1 h2=>?_
   rw [List.getElem?_map] at h1
   cases hc:cs[i]? with
   | none=>rw [hc] at h1; cases h1
   | some y=>rw [hc] at h1; cases h1; exact (b hx i y hc u).2 (h i y u hc h2)
 | fn f cs=>
  constructor
  .intro h
   obtain ⟨vs,rfl,g,h⟩:=h.fn_inv
   exact .fn f cs vs (by simpa using g) fun i c u h1 h2=>(cells hx i c h1 u).1 (h i _ u (by simp [h1]) h2)
  .intro h
   obtain ⟨vs,rfl,g,h⟩:=h.fn_inv
   refine .fn f _ vs (by simpa using g) fun i c u h1 h2=>?_
   rw [List.getElem?_map] at h1
   cases hc:cs[i]? with
   | none=>rw [hc] at h1; cases h1
   | some y=>rw [hc] at h1; cases h1; exact (cells hx i y hc u).2 (h i y u hc h2)
 | val u=>exact Ge (x:=(.val u)) l q hx
 | loc h off=>exact Ge (x:=(.loc h off)) l q hx
 | arr h k off len=>exact Ge (x:=(.arr h k off len)) l q hx
 | el h k i j=>exact Ge (x:=(.el h k i j)) l q hx
 | mp h=>exact Ge (x:=(.mp h)) l q hx
 | ref cs=>exact Ge (x:=(.ref cs)) l q hx
 | sl sz xs=>exact Ge (x:=(.sl sz xs)) l q hx
 | fb s=>exact Ge (x:=(.fb s)) l q hx
theorem Afv (z:∀k,k<m->ιl k=ι (es k)) (A:∀k,k<m->H (es k)=Gx es (Hl k)) {F D:Aw} {w:World} {k:Nat} (hk:k<m) (hu:(Hl k).under m=true)
  (h:∀b,(Hl k).live=true->(ιl k).block? = some b->(F b=none↔D b=none)):Ca σ ι H F w (es k)↔Ca σ ιl Hl D w k:=by
 have cells:∀{cs:List AV},cs.all (AV.under1 m)=true->∀(i:Nat) (c:AV),cs[i]? = some c->∀u,(Conc σ ι H (Kp es c) u↔Conc σ ιl Hl c u) :=
  fun x i c hc u=>Ge z A (List.all_eq_true.1 x c (List.mem_of_getElem? hc))
 unfold Ca
 rw [A k hk,<-z k hk]
 cases hx:Hl k with
 | none=>exact Iff.rfl
 | dead=>exact Iff.rfl
 | map l=>
  simp only [Gx]
  rw [hx] at h
  constructor
  .rintro ⟨b,M,q,f,h1,h2,h3⟩
   exact ⟨b,M,q,f,h1,(h b rfl (by rw [f]; rfl)).1 h2,h3⟩
  .rintro ⟨b,M,q,f,h1,h2,h3⟩
   exact ⟨b,M,q,f,h1,(h b rfl (by rw [f]; rfl)).2 h2,h3⟩
 | rows E sz xs=>
  simp only [Gx]
  rw [hx] at h
  refine and_congr Iff.rfl (and_congr Iff.rfl (or_congr Iff.rfl ?_))
  constructor
  .rintro ⟨b,j,C,f,h1,h2,h3⟩
   exact ⟨b,j,C,f,h1,(h b rfl (by rw [f]; rfl)).1 h2,h3⟩
  .rintro ⟨b,j,C,f,h1,h2,h3⟩
   exact ⟨b,j,C,f,h1,(h b rfl (by rw [f]; rfl)).2 h2,h3⟩
 | cells E cs=>
  simp only [Gx]
  rw [hx] at h hu
  constructor
  .rintro ⟨b,C,f,h1,h2,h3,h4,y⟩
   refine ⟨b,C,f,h1,(h b rfl (by rw [f]; rfl)).1 h2,h3,by simpa using h4,fun i c v hc s=>(cells hu i c hc v).1 (y i _ v (by simp [hc]) s)⟩
  .rintro ⟨b,C,f,h1,h2,h3,h4,y⟩
   refine ⟨b,C,f,h1,(h b rfl (by rw [f]; rfl)).2 h2,h3,by simpa using h4,fun i c v hc s=>?_⟩
   rw [List.getElem?_map] at hc
   cases g:cs[i]? with
   | none=>rw [g] at hc; cases hc
   | some B=>rw [g] at hc; cases hc; exact (cells hu i B g v).2 (y i B v g s)
end
theorem Afw {n:Nat}:∀{l:List Nat} {k:Nat},K8 n l=true->k<l.length->Cw n l k<n
 | [],k,_,h=>by simp at h
 | h::l,0,b,_=>by simp only [K8,Bool.and_eq_true] at b; exact Fq b.1.1
 | h::l,k+1,b,hk=>by simp only [K8,Bool.and_eq_true] at b; exact Afw (l:=l) b.2 (by simpa using hk)
theorem Sa {n:Nat}:∀{l:List Nat} {k:Nat},l.length<=k->Cw n l k=n+(k-l.length)
 | [],k,_=>by simp [Cw]
 | h::l,0,hk=>by simp at hk
 | h::l,k+1,hk=>by simp only [Cw,List.length_cons]; rw [Sa (l:=l) (by simpa using hk)]; omega
theorem Aad {n:Nat}:∀{l:List Nat} {k:Nat},k<l.length->Cw n l k∈l
 | [],k,h=>by simp at h
 | h::l,0,_=>by simp [Cw]
 | h::l,k+1,hk=>by simp only [Cw]; exact List.mem_cons_of_mem _ (Aad (by simpa using hk))
theorem Afx {n:Nat}:∀{l:List Nat} {j k:Nat},K8 n l=true->Cw n l j=Cw n l k->j=k
 | [],j,k,_,h=>by simp only [Cw] at h; omega
 | h::l,0,0,_,_=>rfl
 | h::l,j+1,k+1,b,e=>by simp only [K8,Bool.and_eq_true] at b; simp only [Cw] at e; rw [Afx (l:=l) b.2 e]
 | h::l,0,k+1,b,e=>by
  simp only [K8,Bool.and_eq_true] at b
  simp only [Cw] at e
  rcases Nat.lt_or_ge k l.length with hk | hk
  .have:=Aad (n:=n) hk
   rw [<-e] at this
   simp [this] at b
  .have h1:=Sa (n:=n) hk
   have h2:=Fq b.1.1
   omega
 | h::l,j+1,0,b,e=>by
  simp only [K8,Bool.and_eq_true] at b
  simp only [Cw] at e
  rcases Nat.lt_or_ge j l.length with hk | hk
  .have:=Aad (n:=n) hk
   rw [e] at this
   simp [this] at b
  .have h1:=Sa (n:=n) hk
   have h2:=Fq b.1.1
   omega
theorem Afy {es:Nat->Nat}:∀{os:List Bc} {k i:Nat} {o:Bc},os[i]? = some o->(es (k+i),Gx es o)∈wrs es k os
 | [],k,i,o,h=>by simp at h
 | p::os,k,0,o,h=>by simp at h; subst h; simp [wrs]
 | p::os,k,i+1,o,h=>by
  simp only [wrs]
  refine List.mem_cons_of_mem _ ?_
  have:=Afy (es:=es) (k:=k+1) (i:=i) (by simpa using h)
  rwa [show k+(i+1)=k+1+i by omega]
theorem V1 {es:Nat->Nat}:∀{os:List Bc} {k x:Nat} {H:Hp},(∀i,i<os.length->es (k+i)≠x)->B6 H (wrs es k os) x=H x
 | [],k,x,H,h=>rfl
 | q::os,k,x,H,h=>by
  simp only [wrs,B6]
  rw [V1 (fun i hi=>by rw [show k+1+i=k+(i+1) by omega]; exact h (i+1) (by simpa using hi)),Cp _ _ (Ne.symm (by simpa using h 0 (by simp)))]
theorem Afz {es:Nat->Nat} (b:∀i j,es i=es j->i=j):∀{os:List Bc} {k i:Nat} {o:Bc} {H:Hp},os[i]? = some o->B6 H (wrs es k os) (es (k+i))=Gx es o
 | [],k,i,o,H,h=>by simp at h
 | q::os,k,0,o,H,h=>by
  simp at h; subst h
  simp only [wrs,B6]
  rw [V1 (fun i hi e=>by have:=b _ _ e; omega)]
  exact B5 _ _ _
 | q::os,k,i+1,o,H,h=>by
  simp only [wrs,B6]
  rw [show k+(i+1)=k+1+i by omega]
  exact Afz b (by simpa using h)
theorem Af0 {es:Nat->Nat}:∀{c k i:Nat},i<c->(es (k+i),Bc.none)∈Bs es k c
 | 0,k,i,h=>by omega
 | c+1,k,0,h=>by simp [Bs]
 | c+1,k,i+1,h=>by
  simp only [Bs]
  refine List.mem_cons_of_mem _ ?_
  have:=Af0 (es:=es) (c:=c) (k:=k+1) (i:=i) (by omega)
  rwa [show k+(i+1)=k+1+i by omega]
theorem Af1 {es:Nat->Nat}:∀{c k:Nat} {p:Nat×Bc},p∈Bs es k c->∃i,i<c/\p=(es (k+i),Bc.none)
 | 0,k,p,h=>by simp [Bs] at h
 | c+1,k,p,h=>by
  simp only [Bs,List.mem_cons] at h
  rcases h with rfl | h
  .exact ⟨0,by omega,rfl⟩
  .obtain ⟨i,h1,h2⟩:=Af1 h
   exact ⟨i+1,by omega,by rw [h2,show k+(i+1)=k+1+i by omega]⟩
theorem K9.spec {H:Hp}:∀{l:List (Nat×Bc)},K9 H l->∀p∈l,H p.1=p.2
 | [],_,p,hp=>by cases hp
 | q::l,h,p,hp=>by
  rcases List.mem_cons.1 hp with rfl | hp
  .exact h.1
  .exact K9.spec h.2 p hp
theorem Sb {hs:List Bc} {k:Nat} (h:k<hs.length):hs[k]? = some (hp hs k):=by simp [hp,h]
theorem L8 {hs:List Bc} {k:Nat} (h:hs.length<=k):hp hs k = .none:=by simp [hp,List.getElem?_eq_none h]
section
variable {P:Program} {o:Oper} {ρ:Operand->AV} {a:Act} {w w':World}
open Classical in
theorem Af2 {n:Nat} {c:Call} {x:Operand} {f:FuncId} {caps:List AV} {l:List Nat} {largs:List AV} {hs:List Bc} {r:AV} {hs':List Bc} (ho:o.op = .call c) (hcal:c.callee = .value x) (hx:ρ x = .fn f caps)
  (hp0:Bq P f largs hs r hs') (ha:largs.map (ren (Cw n l))=c.args.toList.map ρ ++ caps) (ok:Kq n l largs hs r hs'=true) :
  Bo P o ρ ⟨ren (Cw n l) r,wrs (Cw n l) 0 hs++Bs (Cw n l) l.length (hs'.length-l.length),wrs (Cw n l) 0 hs'⟩:=by
 intro σ ι H F W w a next Q s hop hrd hk
 simp only [Kq,Bool.and_eq_true] at ok
 obtain ⟨⟨⟨⟨⟨⟨o1,o2⟩,o3⟩,o4⟩,o5⟩,o6⟩,o7⟩:=ok
 have o2:=Nat.eq_of_beq_eq_true o2
 have o3:=Nat.le_of_ble_eq_true o3
 generalize hes:Cw n l=es at *
 have inj:∀i j,es i=es j->i=j:=fun i j e=>by rw [<-hes] at e; exact Afx o1 e
 obtain ⟨⟨fn,hf,hname,hbody⟩,hpp⟩:=hp0
 have hxv:=hop x (by simp [ho,Op.operands,Call.operands,hcal])
 rw [hx] at hxv
 obtain ⟨vs,hv,hl,hcap⟩:=hxv.fn_inv
 have hall:Ju σ ι H (c.args.toList.map ρ ++ caps) (c.args.map a.eval++vs) :=
  Z9 (fun y hy=>hop y (by simp only [ho,Op.operands,Call.operands,hcal]; simp at hy ⊢; exact .inr hy)) hl hcap
 have hrun:(execOp a.eval o).run P w = .ok (.enter f (c.args.map a.eval++vs)) w:=by
  have hcf:(callFunc f (c.args.map a.eval++vs)).run P w = .ok (.enter f (c.args.map a.eval++vs)) w:=by
   unfold callFunc
   simp only [Sem.run_bind,program,Sem.run,Result.andThen_ok,hf,hname,hbody,Bool.false_eq_true,if_false,Sem.run_pure]
  simp only [execOp,ho,resolve,hcal,hv,Deferred.ofValue,invoke,Sem.run_bind,Sem.run_pure,Result.andThen_ok,Array.empty_append,hcf]
 unfold Oper.wp
 rw [hrun]
 simp only [Oper.upon]
 have hgiven:∀k,k<hs.length->H (es k)=Gx es (hp hs k):=by
  intro k hk'
  have:=hrd _ (List.mem_append_left _ (Afy (es:=es) (k:=0) (Sb hk')))
  simpa using this
 have hnew:∀k,hs.length<=k->k<hs'.length->H (es k) = .none:=by
  intro k h1 h2
  have:=hrd _ (List.mem_append_right _ (Af0 (es:=es) (k:=l.length) (c:=hs'.length-l.length) (i:=k-l.length) (by omega)))
  rwa [show l.length+(k-l.length)=k by omega] at this
 let ιl:Bi:=fun k=>if k<hs.length then ι (es k) else .none
 let mine:Nat->Prop:=fun b=>∃k,k<hs.length/\(hp hs k).live=true/\(ι (es k)).block? = some b
 let Fl:Aw:=fun b=>if σ b=none/\¬mine b then w.heap[b]? else none
 have hιl:∀k,k<hs.length->ιl k=ι (es k):=fun k h=>if_pos h
 have hlive:∀k,k<hs.length->(H (es k)).live=(hp hs k).live:=fun k h=>by rw [hgiven k h,Vz]
 have hunder:∀k,k<hs.length->(hp hs k).under hs.length=true:=by
  intro k h
  have:=List.all_eq_true.1 o5 _ (List.mem_of_getElem? (Sb h))
  rw [o2]; exact this
 have hFb:∀k,k<hs.length->∀b,(hp hs k).live=true->(ιl k).block? = some b->F b=none/\Fl b=none:=by
  intro k h b h1 h2
  rw [hιl k h] at h2
  exact ⟨(s.block (by rw [hlive k h]; exact h1) h2).2.2,if_neg (fun hn=>hn.2 ⟨k,h,h1,h2⟩)⟩
 have sl:St σ ιl (hp hs) Fl W w:=by
  refine ⟨s.sto,fun b ob hb=>?_,fun k=>?_,fun k k' b h1 h2 h3 h4=>?_,s.os,s.tape,s.output,s.glo,s.drw⟩
  .by_cases hc:σ b=none/\¬mine b
   .simp only [Fl,if_pos hc] at hb; exact ⟨hb,hc.1⟩
   .simp only [Fl,if_neg hc] at hb; cases hb
  .by_cases hk':k<hs.length
   .refine (Afv (es:=es) hιl hgiven hk' (hunder k hk') (fun b h1 h2=>?_)).1 (s.obj (es k))
    obtain ⟨h3,h4⟩:=hFb k hk' b h1 h2
    rw [h3,h4]
   .unfold Ca
    rw [L8 (by omega)]
    exact if_neg hk'
  .have lt:∀k,(hp hs k).live=true->k<hs.length:=by
    intro k h
    rcases Nat.lt_or_ge k hs.length with h' | h'
    .exact h'
    .rw [L8 h'] at h; cases h
   have k1:=lt k h1
   have k2:=lt k' h2
   rw [hιl k k1] at h3
   rw [hιl k' k2] at h4
   exact inj _ _ (s.inj _ _ b (by rw [hlive k k1]; exact h1) (by rw [hlive k' k2]; exact h2) h3 h4)
 have hargs:Ju σ ιl (hp hs) largs (c.args.map a.eval++vs):=by
  rw [<-ha] at hall
  refine ⟨by simpa using hall.1,fun i b u h1 h2=>?_⟩
  have:=hall.2 i (ren es b) u (by simp [h1]) h2
  refine (Afu (es:=es) hιl hgiven ?_).1 this
  rw [o2]; exact List.all_eq_true.1 o4 b (List.mem_of_getElem? h1)
 refine (hpp σ Fl W w ιl (c.args.map a.eval++vs) sl hargs).mono ?_
 rintro e w' ⟨v,σ',ι'l,rfl,le',s',hc'⟩
 let ι':Bi:=fun h=>if hh:∃k,k<hs'.length/\es k=h then ι'l hh.choose else ι h
 have hι':∀k,k<hs'.length->ι'l k=ι' (es k):=by
  intro k h
  have hh:∃k',k' < hs'.length/\es k'=es k:=⟨k,h,rfl⟩
  have:hh.choose=k:=inj _ _ hh.choose_spec.2
  simp only [ι',dif_pos hh,this]
 have hιo:∀h,(∀k,k<hs'.length->es k≠h)->ι' h=ι h:=by
  intro h hno
  exact dif_neg (fun ⟨k,k1,k2⟩=>hno k k1 k2)
 have hH':∀k,k<hs'.length->B6 H (wrs es 0 hs') (es k)=Gx es (hp hs' k):=by
  intro k h
  have:=Afz (es:=es) inj (k:=0) (H:=H) (Sb h)
  simpa using this
 have hHo:∀h,(∀k,k<hs'.length->es k≠h)->B6 H (wrs es 0 hs') h=H h:=by
  intro h hno
  exact V1 (fun i hi=>by simpa using hno i hi)
 have hle2:hs.length<=hs'.length:=by omega
 have lel:Le σ ι H σ' ι' (B6 H (wrs es 0 hs')):=by
  refine ⟨le'.sto,fun h=>?_⟩
  by_cases hh:∃k,k<hs'.length/\es k=h
  .obtain ⟨k,hk',rfl⟩:=hh
   rw [<-hι' k hk',hH' k hk']
   by_cases hk2:k<hs.length
   .have q:=le'.obj k
    rw [hιl k hk2] at q
    rw [hgiven k hk2]
    refine ⟨q.box,fun h=>?_,fun h1 E sz xs h2=>?_⟩
    .rw [Ne,Aaa] at h ⊢; exact q.some h
    .rw [Ne,Aaa] at h1
     rw [Aab] at h2
     obtain ⟨E0,sz0,xs0,e0,r0⟩:=q.rows h1 E sz xs h2
     exact ⟨E0,sz0,xs0,Aab.2 e0,r0⟩
   .have h0:=hnew k (by omega) hk'
    have:ι (es k) = .none:=by have:=s.obj (es k); unfold Ca at this; rw [h0] at this; exact this
    rw [h0,this]
    exact HLe.of_none
  .have hno:∀k,k<hs'.length->es k≠h:=fun k h1 h2=>hh ⟨k,h1,h2⟩
   rw [hιo h hno,hHo h hno]
   exact HLe.refl _ _
 have keep:∀b,σ b=none->¬mine b->∀ob,w.heap[b]? = some ob->w'.heap[b]? = some ob/\σ' b=none/\Fl b=some ob:=by
  intro b h1 h2 ob h3
  have:Fl b=some ob:=by simp only [Fl]; rw [if_pos ⟨h1,h2⟩]; exact h3
  exact ⟨(s'.fra b ob this).1,(s'.fra b ob this).2,this⟩
 have notmine:∀h b,(∀k,k<hs'.length->es k≠h)->(H h).live=true->(ι h).block? = some b->¬mine b:=by
  rintro h b hno h1 h2 ⟨k,k1,k2,k3⟩
  exact hno k (by omega) (s.inj _ _ b (by rw [hlive k k1]; exact k2) h1 k3 h2)
 have notmineF:∀b ob,F b=some ob->¬mine b:=by
  rintro b ob hb ⟨k,k1,k2,k3⟩
  have:=(s.block (by rw [hlive k k1]; exact k2) k3).2.2
  rw [this] at hb; cases hb
 have hunder':∀k,k<hs'.length->(hp hs' k).under hs'.length=true:=fun k h=>List.all_eq_true.1 o7 _ (List.mem_of_getElem? (Sb h))
 have st':St σ' ι' (B6 H (wrs es 0 hs')) F W w':=by
  refine ⟨s'.sto,fun b ob hb=>?_,fun h=>?_,fun h h' b h1 h2 h3 h4=>?_,s'.os,s'.tape,s'.output,s'.glo,s'.drw⟩
  .obtain ⟨h1,h2⟩:=s.fra b ob hb
   obtain ⟨k1,k2,_⟩:=keep b h2 (notmineF b ob hb) ob h1
   exact ⟨k1,k2⟩
  .by_cases hh:∃k,k<hs'.length/\es k=h
   .obtain ⟨k,hk',rfl⟩:=hh
    refine (Afv (es:=es) hι' hH' hk' (hunder' k hk') (fun b h1 h2=>?_)).2 (s'.obj k)
    have hf0:=(s'.block h1 h2).2.2
    refine ⟨fun _=>hf0,fun _=>?_⟩
    cases hFb:F b with
    | none=>rfl
    | some ob=>
     obtain ⟨h3,h4⟩:=s.fra b ob hFb
     have:=(keep b h4 (notmineF b ob hFb) ob h3).2.2
     rw [hf0] at this; cases this
   .have hno:∀k,k<hs'.length->es k≠h:=fun k h1 h2=>hh ⟨k,h1,h2⟩
    have hob:=s.obj h
    have hnm:=fun b h1 h2=>notmine h b hno h1 h2
    unfold Ca at hob ⊢
    rw [hHo h hno,hιo h hno]
    cases hx:H h with
    | none=>rw [hx] at hob; exact hob
    | dead=>trivial
    | cells E cs=>
     rw [hx] at hob hnm
     obtain ⟨b,C,e1,h1,h2,h3,h4,h5⟩:=hob
     obtain ⟨k1,k2,_⟩:=keep b h1 (hnm b rfl (by rw [e1]; rfl)) _ h3
     exact ⟨b,C,e1,k2,h2,k1,h4,fun i c v x y=>(h5 i c v x y).mono lel⟩
    | rows E sz xs=>
     rw [hx] at hob hnm
     obtain ⟨z1,z2,⟨e1,e2⟩ | ⟨b,tot,C,e1,h1,h2,h3,h4,h5,h6⟩⟩:=hob
     .exact ⟨z1,z2,.inl ⟨e1,e2⟩⟩
     .obtain ⟨k1,k2,_⟩:=keep b h1 (hnm b rfl (by rw [e1]; rfl)) _ h3
      exact ⟨z1,z2,.inr ⟨b,tot,C,e1,k2,h2,k1,h4,h5,h6.mono le'.sto⟩⟩
    | map l=>
     rw [hx] at hob hnm
     obtain ⟨b,M,q,e1,h1,h2,h3,h4⟩:=hob
     obtain ⟨k1,k2,_⟩:=keep b h1 (hnm b rfl (by rw [e1]; rfl)) _ h3
     exact ⟨b,M,q,e1,k2,h2,k1,h4.mono le'.sto⟩
  .have Sc:∀k,k<hs'.length->∀h,(∀k,k<hs'.length->es k≠h)->(B6 H (wrs es 0 hs') (es k)).live=true->(B6 H (wrs es 0 hs') h).live=true->(ι' (es k)).block? = some b->(ι' h).block? = some b->False:=by
    intro k hk' h hno g1 g2 g3 g4
    rw [hH' k hk',Vz] at g1
    rw [hHo h hno] at g2
    rw [<-hι' k hk'] at g3
    rw [hιo h hno] at g4
    have hf0:=(s'.block g1 g3).2.2
    have hb:=s.block g2 g4
    have hget:w.heap[b]? = some w.heap[b]:=by simp [hb.1]
    have:=(keep b hb.2.1 (notmine h b hno g2 g4) _ hget).2.2
    rw [hf0] at this; cases this
   by_cases hh:∃k,k<hs'.length/\es k=h
   .obtain ⟨k,hk',rfl⟩:=hh
    by_cases hh':∃k,k<hs'.length/\es k=h'
    .obtain ⟨k',hk2,rfl⟩:=hh'
     rw [hH' k hk',Vz] at h1
     rw [hH' k' hk2,Vz] at h2
     rw [<-hι' k hk'] at h3
     rw [<-hι' k' hk2] at h4
     rw [s'.inj k k' b h1 h2 h3 h4]
    .exact (Sc k hk' h' (fun k h1 h2=>hh' ⟨k,h1,h2⟩) h1 h2 h3 h4).elim
   .have hno:∀k,k<hs'.length->es k≠h:=fun k h1 h2=>hh ⟨k,h1,h2⟩
    by_cases hh':∃k,k<hs'.length/\es k=h'
    .obtain ⟨k',hk2,rfl⟩:=hh'
     exact (Sc k' hk2 h hno h2 h1 h4 h3).elim
    .have hno':∀k,k<hs'.length->es k≠h':=fun k h1 h2=>hh' ⟨k,h1,h2⟩
     rw [hHo h hno] at h1
     rw [hHo h' hno'] at h2
     rw [hιo h hno] at h3
     rw [hιo h' hno'] at h4
     exact s.inj h h' b h1 h2 h3 h4
 exact hk σ' ι' v w' lel st' ((Afu (es:=es) hι' hH' o6).2 hc')
end
end Go.Ab
namespace Go.Ab
section
variable {P:Program} {T:Cg} {an:Nat->Ann} {n:Nat} {o:Oper} {ρ:Operand->AV} {H:Hp} {K:Eff->Nat->Prop}
theorem Ej {b:Bool} {X:Prop} (h:bif b then X else False):b=true/\X:=by
 cases b with
 | false=>exact h.elim
 | true=>exact ⟨rfl,h⟩
theorem V2 {x:AV} (h:I7 x=true):x = .val (.slice none 0 0):=by
 unfold I7 at h
 split at h
 .rfl
 .cases h
theorem Ap1 {x:AV} (h:R9 x=true):∀vs,x≠.val (.agg vs):=by
 intro vs e; subst e; cases h
theorem Aae {i:TI} (h1:Nat.beq (D2 i).cells.length i.zero.length=true) (h2:R9 (D2 i)=true) (h3:It i.size (D2 i)=true):(D2 i).cells=i.zero.map .val:=by
 have _:=h1; have _:=h3
 unfold D2 at h2 ⊢
 cases hd:i.d with
 | struct fs=>rfl
 | _=>
  rw [hd] at h2
  cases b:i.zero with
  | nil=>rfl
  | cons v l=>
   cases l with
   | cons _ _=>rfl
   | nil=>
    rw [b] at h2
    cases v <;> first | rfl | cases h2
theorem L9 {α:Type} {c:Array α} {x y:α} (h:c.toList = [x,y]):c = #[x,y]:=by
 apply Array.ext'; simpa using h
theorem P3 {α:Type} {c:Array α} {x:α} (h:c.toList = [x]):c = #[x]:=by
 apply Array.ext'; simpa using h
theorem Nw {c:Call} {b:Builtin} {xs:Array Operand} {f:Array TypeId} (h1:c.callee = .builtin b) (h2:c.args=xs) (h3:c.argTypes=f):c = {callee:=.builtin b,args:=xs,argTypes:=f}:=by
 cases c; simp_all
def D0 (H:Hp) (n:Nat):Prop:=∀m,n<=m->H m = .none
def Jw (P:Program) (o:Oper) (ρ:Operand->AV) (H:Hp) (n:Nat) (K:Eff->Nat->Prop):Prop :=
 ∃b m,Bo P o ρ b/\(∀p∈b.rd,H p.1=p.2)/\K b m/\n<=m/\D0 (B6 H b.wr) m
theorem Cx (b:D0 H n) {r:AV} (h:Bo P o ρ ⟨r,[],[]⟩) (k:K ⟨r,[],[]⟩ n):Jw P o ρ H n K:=⟨_,n,h,by simp,k,Nat.le_refl _,b⟩
theorem I8 (c:D0 H n) {r:AV} {x:Nat} {b:Bc} (h:Bo P o ρ ⟨r,[(x,b)],[]⟩) (hx:H x=b) (k:K ⟨r,[(x,b)],[]⟩ n):Jw P o ρ H n K :=
 ⟨_,n,h,by simpa using hx,k,Nat.le_refl _,c⟩
theorem Jx (g:D0 H n) {r:AV} {x:Nat} {c b:Bc} (h:Bo P o ρ ⟨r,[(x,c)],[(x,b)]⟩) (hx:H x=c) (f:c≠.none) (k:K ⟨r,[(x,c)],[(x,b)]⟩ n):Jw P o ρ H n K:=by
 refine ⟨_,n,h,by simpa using hx,k,Nat.le_refl _,fun m i=>?_⟩
 have j:x<n:=by
  rcases Nat.lt_or_ge x n with h | h
  .exact h
  .exact (f (hx ▸ g x h)).elim
 show A3 H x b m=_
 rw [Cp _ _ (by omega)]; exact g m i
theorem Ma (c:D0 H n) {r:AV} {b:Bc} (h:Bo P o ρ ⟨r,[(n,.none)],[(n,b)]⟩) (k:K ⟨r,[(n,.none)],[(n,b)]⟩ (n+1)):Jw P o ρ H n K:=by
 refine ⟨_,n+1,h,by simpa using c n (Nat.le_refl _),k,by omega,fun m f=>?_⟩
 show A3 H n b m=_
 rw [Cp _ _ (by omega)]; exact c m (by omega)
theorem Af3 {H:Hp}:∀{l:List (Nat×Bc)},(∀p∈l,H p.1=p.2)->B6 H l=H
 | [],_=>rfl
 | p::l,h=>by
  have e:A3 H p.1 p.2=H:=by
   funext q
   by_cases hq:q=p.1
   .subst hq; rw [B5]; exact (h p (by simp)).symm
   .exact Cp _ _ hq
  show B6 (A3 H p.1 p.2) l=H
  rw [e]
  exact Af3 fun q hq=>h q (by simp [hq])
theorem Ap2 {c:Call} {x:Operand} {f:FuncId} {g:List AV} {l:List Nat} {b:List AV} {hs:List Bc} {r:AV} (A:o.op = .call c) (i:c.callee = .value x) (hx:ρ x = .fn f g)
  (q:Bq P f b hs r hs) (ha:b.map (ren (Cw n l))=c.args.toList.map ρ ++ g) (j:Kq n l b hs r hs=true):Bo P o ρ ⟨ren (Cw n l) r,wrs (Cw n l) 0 hs,[]⟩:=by
 intro σ ι H F W w a next Q s u h hk
 have E:hs.length=l.length:=by
  simp only [Kq,Bool.and_eq_true] at j
  exact Nat.eq_of_beq_eq_true j.1.1.1.1.1.2
 have D:hs.length-l.length=0:=by omega
 refine Af2 A i hx q ha j σ ι H F W w a next Q s u (fun p hp=>?_) (fun y z v w' le s' k=>?_)
 .rw [D] at hp
  rcases List.mem_append.1 hp with hp | hp
  .exact h p hp
  .simp [Bs] at hp
 .have B:B6 H (wrs (Cw n l) 0 hs)=H:=Af3 h
  dsimp only at le s' k
  rw [B] at le s' k
  exact hk y z v w' le s' k
theorem Ap3 (g:D0 H n) {l:List Nat} {c:List AV} {hs b:List Bc} {r:AV} (f:Kq n l c hs r b=true) (s:K9 H (wrs (Cw n l) 0 hs))
  (h:Bo P o ρ ⟨ren (Cw n l) r,wrs (Cw n l) 0 hs++Bs (Cw n l) l.length (b.length-l.length),wrs (Cw n l) 0 b⟩)
  (k:K ⟨ren (Cw n l) r,wrs (Cw n l) 0 hs++Bs (Cw n l) l.length (b.length-l.length),wrs (Cw n l) 0 b⟩ (n+(b.length-l.length))):Jw P o ρ H n K:=by
 simp only [Kq,Bool.and_eq_true] at f
 have j:=f.1.1.1.1.1.1
 have u:=Nat.le_of_ble_eq_true f.1.1.1.1.2
 refine ⟨_,n+(b.length-l.length),h,fun p hp=>?_,k,by omega,fun q hq=>?_⟩
 .rcases List.mem_append.1 hp with hp | hp
  .exact s.spec p hp
  .obtain ⟨i,hi,rfl⟩:=Af1 hp
   refine g _ ?_
   show n<=Cw n l (l.length+i)
   rw [Sa (by omega)]; omega
 .show B6 H (wrs (Cw n l) 0 b) q = .none
  rw [V1 (fun i hi e=>?_)]
  .exact g q (by omega)
  .rcases Nat.lt_or_ge (0+i) l.length with h1 | h1
   .have:=Afw j h1
    omega
   .have:=Sa (n:=n) h1
    omega
theorem Ap4 (l:Ch P T) (g:D0 H n) {t:TypeId} {x:Operand} (f:o.op = .load t x) (h:Dj P T an n o ρ H K):Jw P o ρ H n K:=by
 unfold Dj at h
 rw [f] at h
 dsimp only at h
 split at h
 .rename_i i ht
  split at h
  .rename_i cs hx
   cases b:i.isAgg with
   | true=>
    rw [b] at h
    simp only [cond_true] at h
    obtain ⟨h1,h2⟩:=Ej h
    exact Cx g (Ang l f ht b hx (Nat.le_of_ble_eq_true h1)) h2
   | false=>
    rw [b] at h
    simp only [cond_false] at h
    split at h
    .exact Cx g (Anf l f ht b hx) h
    .exact h.elim
  .rename_i hd off hx
   split at h
   .rename_i E cs s
    cases b:i.isAgg with
    | true=>
     rw [b] at h
     simp only [cond_true] at h
     obtain ⟨h1,h2⟩:=Ej h
     exact I8 g (Ani l f ht b hx (Nat.le_of_ble_eq_true h1)) s h2
    | false=>
     rw [b] at h
     simp only [cond_false] at h
     split at h
     .rename_i c hc
      exact I8 g (Anh l f ht b hx hc) s h
     .exact h.elim
   .exact h.elim
  .rename_i hd k q j hx
   split at h
   .rename_i E sz xs s
    obtain ⟨y,hk,hy,h⟩:=h
    cases b:i.isAgg with
    | true=>
     rw [b] at h
     simp only [cond_true] at h
     obtain ⟨h1,h2⟩:=Ej h
     exact I8 g (Ank l f ht b hx hk hy (Nat.le_of_ble_eq_true h1)) s h2
    | false=>
     rw [b] at h
     simp only [cond_false] at h
     split at h
     .rename_i c hc
      exact I8 g (Anj l f ht b hx hk hy hc) s h
     .exact h.elim
   .exact h.elim
  .exact h.elim
 .exact h.elim
theorem Ap5 (l:Ch P T) (g:D0 H n) {t:TypeId} {x y:Operand} (c:o.op = .store t x y) (h:Dj P T an n o ρ H K):Jw P o ρ H n K:=by
 unfold Dj at h
 rw [c] at h
 dsimp only at h
 split at h
 .rename_i i ht
  split at h
  .rename_i hd off hx
   split at h
   .rename_i E cs f
    obtain ⟨h1,h2⟩:=Ej h
    simp only [Bool.and_eq_true] at h1
    exact Jx g (Anm l c ht hx (Nat.eq_of_beq_eq_true h1.1.1) (Nat.le_of_ble_eq_true h1.1.2) h1.2) f (by intro e; cases e) h2
   .exact h.elim
  .rename_i hd k q j hx
   split at h
   .rename_i E sz xs f
    obtain ⟨z,hk,s,h⟩:=h
    obtain ⟨h1,h2⟩:=Ej h
    simp only [Bool.and_eq_true] at h1
    obtain ⟨⟨⟨⟨g1,g2⟩,g3⟩,g4⟩,g5⟩:=h1
    rw [Vx,P1] at h2
    obtain ⟨u,b,h2⟩:=h2
    subst b
    exact Jx g (Anp l c ht hx hk s (Nat.eq_of_beq_eq_true g1) (Nat.le_of_ble_eq_true g2) (Nat.le_of_ble_eq_true g3) g4 (Ap1 g5)) f (by intro e; cases e) h2
   .exact h.elim
  .exact h.elim
 .exact h.elim
theorem Ap6 (q:Ch P T) (g:D0 H n) {op:BinOp} {t s:TypeId} {x y:Operand} (f:o.op = .binOp op t x y s) (h:Dj P T an n o ρ H K):Jw P o ρ H n K:=by
 unfold Dj at h
 rw [f] at h
 dsimp only at h
 split at h
 .rename_i k a j b hx hy
  split at h
  .obtain ⟨c,h1,h2,h3⟩:=h
   exact Cx g (An0 f hx hy h1 h2) h3
  .obtain ⟨c,h1,h2,h3⟩:=h
   exact Cx g (Anz f hx hy h1 h2) h3
  .replace h:=Ej h; obtain ⟨hk,h⟩:=h
   have hk:k=j:=by simpa using hk
   subst hk
   split at h
   .obtain ⟨c,h1,h2⟩:=h; exact Cx g (Anr f hx hy h1) h2
   .obtain ⟨c,h1,h2⟩:=h; exact Cx g (Ans f hx hy h1) h2
   .obtain ⟨c,h1,h2⟩:=h; exact Cx g (Ant f hx hy h1) h2
   .obtain ⟨c,h1,h2,h3⟩:=h; exact Cx g (Anu f hx hy h1 h2) h3
   .obtain ⟨c,h1,h2,h3⟩:=h; exact Cx g (Anv f hx hy h1 h2) h3
   .split at h
    .rename_i l i; exact Cx g (Anw f hx hy i) h
    .split at h
     .rename_i c hc; exact Cx g (Anx f hx hy hc) h
     .exact h.elim
 .rename_i a b hx hy
  split at h
  .rename_i B A z ht
   split at h
   .rename_i l i; exact Cx g (An3 q f ht rfl hx hy i) h
   .exact h.elim
  .exact h.elim
 .rename_i xs ys hx hy
  split at h
  .rename_i u h1
   split at h
   .rename_i vs h2
    split at h
    .obtain ⟨b,hb,h⟩:=h
     exact Cx g (Afb f hx hy h1 h2 hb (.inl ⟨rfl,rfl⟩)) h
    .obtain ⟨b,hb,h⟩:=h
     exact Cx g (Afb f hx hy h1 h2 hb (.inr ⟨rfl,rfl⟩)) h
    .exact h.elim
   .exact h.elim
  .exact h.elim
 .rename_i k a j b hx hy
  replace h:=Ej h; obtain ⟨hk,h⟩:=h
  have hk:k=j:=by simpa using hk
  subst hk
  obtain ⟨c,h1,h2⟩:=h
  exact Cx g (Aoa f hx hy h1) h2
 .rename_i a b hx hy
  split at h
  .obtain ⟨h1,h2⟩:=h; exact Cx g (An6 f hx hy h1) h2
  .split at h
   .rename_i l i; exact Cx g (An5 f hx hy i) h
   .exact h.elim
 .rename_i p I G E D hx hy
  split at h
  .split at h
   .rename_i N M L J ht; exact Cx g (An4 q f ht rfl hx hy) h
   .exact h.elim
  .exact h.elim
 .exact h.elim
theorem Ap7 (u:Ch P T) (q:D0 H n) {t:TypeId} {x:Operand} {lo hi:Option Operand} (i:o.op = .slice t x lo hi none) (h:Dj P T an n o ρ H K):Jw P o ρ H n K:=by
 unfold Dj at h
 rw [i] at h
 dsimp only at h
 split at h
 .rename_i e B A z ht
  split at h
  .rename_i D he
   split at h
   .rename_i sz xs hx
    split at h
    .rename_i y h0 c f
     replace h:=Ej h; obtain ⟨g1,h⟩:=h
     obtain ⟨l,j,ys,el,b,h1,h2,hy,k⟩:=h
     subst el; subst b; subst hy
     exact Cx q (Aoq u i ht rfl he (Nat.eq_of_beq_eq_true g1) hx c f h1 h2) k
    .exact h.elim
   .rename_i hd k off len hx
    split at h
    .rename_i E sz xs g
     split at h
     .rename_i y h0 c f
      replace h:=Ej h; obtain ⟨g1,h⟩:=h
      cases h with
      | mk l j hk el b h1 h2 h3 k=>
       subst el; subst b
       exact I8 q (Aos u i ht rfl he (Nat.eq_of_beq_eq_true g1) hx hk c f h1 h2 h3) g k
      | mkE l hk el b h2 k=>
       subst el; subst b
       exact I8 q (Apd u i ht rfl he hx hk c f h2) g k
     .exact h.elim
    .exact h.elim
   .exact h.elim
  .exact h.elim
 .rename_i B A z ht
  split at h
  .rename_i s hx
   split at h
   .rename_i y h0 c f
    obtain ⟨l,j,el,b,h1,h2,k⟩:=h
    subst el; subst b
    exact Cx q (Aor u i ht rfl hx c f h1 h2) k
   .exact h.elim
  .exact h.elim
 .exact h.elim
theorem Ap8 (D:Ch P T) (A:D0 H n) {c:Call} (u:o.op = .call c) (h:Dj P T an n o ρ H K):Jw P o ρ H n K:=by
 unfold Dj at h
 rw [u] at h
 dsimp only at h
 split at h
 .rename_i x i
  split at h
  .rename_i f ad hx
   split at h
   .rename_i j ah
    split at h
    .rename_i hd k len hj
     split at h
     .rename_i E sz xs B
      obtain ⟨hk,J,r,hp,hf,h⟩:=h
      subst hk
      rw [<-J] at hj
      exact Jx A (Apy u i hx hj hp hf) B (by intro e; cases e) h
     .exact h.elim
    .exact h.elim
   .cases h with
    | mk r hp hf k=>exact Cx A (Apx u i hx hp hf) k
    | act l R hs r ag hp ha ok B k=>exact Ap3 A ok B (Af2 u i hx hp ha ok) k
    | rd l R hs r hp ha ok B k=>exact ⟨_,n,Ap2 u i hx hp ha ok,fun p hp=>B.spec p hp,k,Nat.le_refl _,A⟩
  .exact h.elim
 .exact h.elim
 .rename_i i
  split at h
  .rename_i x t ha z
   rw [Nw i (P3 ha) (P3 z)] at u
   split at h
   .rename_i e s1 Z Y ht
    split at h
    .rename_i sz xs hx
     split at h
     .obtain ⟨c,hc,h⟩:=h
      subst hc
      exact Cx A (Aez D u ht rfl hx) h
     .exact Cx A (Aez D u ht rfl hx) h
    .rename_i p m cap hx; exact Cx A (Aoh D u ht rfl hx) h
    .rename_i hd k off len hx
     split at h
     .rename_i E sz xs B
      obtain ⟨hk,h⟩:=h
      exact I8 A (Aok D u ht rfl hx hk) B h
     .exact h.elim
    .exact h.elim
   .rename_i s1 Z Y ht
    split at h
    .rename_i s hx; exact Cx A (Aoj D u ht rfl hx) h
    .exact h.elim
   .exact h.elim
  .exact h.elim
 .rename_i i
  split at h
  .rename_i x t ha z
   rw [Nw i (P3 ha) (P3 z)] at u
   split at h
   .rename_i e s1 Z Y ht
    split at h
    .rename_i p m cap hx; exact Cx A (Aoi D u ht rfl hx) h
    .exact h.elim
   .exact h.elim
  .exact h.elim
 .rename_i i
  split at h
  .rename_i x y t t' ha z
   rw [Nw i (L9 ha) (L9 z)] at u
   split at h
   .rename_i e s1 Z Y ht
    split at h
    .rename_i i' he
     split at h
     .rename_i h2 k2 a6 a7 hy
      split at h
      .rename_i hd k off len hx
       split at h
       .rename_i E sz xs B
        replace h:=Ej h; obtain ⟨g5,h⟩:=h
        simp only [Bool.and_eq_true] at g5
        have L:=Nat.eq_of_beq_eq_true g5.1.1.1
        have N:=Nat.eq_of_beq_eq_true g5.1.1.2
        have e3:=Nat.eq_of_beq_eq_true g5.1.2
        have e4:0<i'.size:=Nat.le_of_ble_eq_true g5.2
        subst L; subst N; subst e3
        obtain ⟨X,c,hk,J,U,S,I,hc,k⟩:=h
        subst I; subst hc
        exact Jx A (Apb D u ht rfl he e4 hx hk J hy U S) B (by intro e; cases e) k
       .exact h.elim
      .rename_i q hx
       split at h
       .rename_i E sz xs B
        replace h:=Ej h; obtain ⟨g5,h⟩:=h
        have L:=Nat.eq_of_beq_eq_true g5
        subst L
        obtain ⟨hk,k⟩:=h
        exact I8 A (Apc D u ht rfl he hx hy hk) B k
       .exact h.elim
      .exact h.elim
     .exact h.elim
    .exact h.elim
   .exact h.elim
  .exact h.elim
 .rename_i i
  split at h
  .rename_i x t ha z
   rw [Nw i (P3 ha) (P3 z)] at u
   split at h
   .rename_i e s1 Z Y ht
    split at h
    .rename_i i' he
     split at h
     .rename_i hd k off len hx
      split at h
      .rename_i E sz xs B
       replace h:=Ej h; obtain ⟨g5,h⟩:=h
       simp only [Bool.and_eq_true] at g5
       have L:=Nat.eq_of_beq_eq_true g5.1.1.1.1.1
       have N:=Nat.eq_of_beq_eq_true g5.1.1.1.1.2
       have e3:0<i'.size:=Nat.le_of_ble_eq_true g5.1.1.1.2
       subst L; subst N
       obtain ⟨X,hk,J,I,k⟩:=h
       subst I
       exact Jx A (Ape D u ht rfl he e3 g5.1.1.2 (Aae g5.1.2 g5.2 g5.1.1.2) hx hk J) B (by intro e; cases e) k
      .exact h.elim
     .rename_i q hx; exact Cx A (Apf D u ht rfl hx) h
     .exact h.elim
    .exact h.elim
   .exact h.elim
  .exact h.elim
 .rename_i i
  split at h
  .rename_i x y t t' ha z
   rw [Nw i (L9 ha) (L9 z)] at u
   split at h
   .rename_i e s1 Z Y e' ab aa a8 ht G
    split at h
    .rename_i i' he
     replace h:=Ej h; obtain ⟨g,h⟩:=h
     simp only [Bool.and_eq_true] at g
     obtain ⟨⟨g1,g2⟩,g3⟩:=g
     have g1:0<i'.size:=Nat.le_of_ble_eq_true g1
     have g2:=Nat.eq_of_beq_eq_true g2
     have g3:=Nat.le_of_ble_eq_true g3
     split at h
     .rename_i sz ys hy
      replace h:=Ej h; obtain ⟨g4,h⟩:=h
      have g4:=Nat.eq_of_beq_eq_true g4
      subst g4
      split at h
      .rename_i hd k len hx
       split at h
       .rename_i E a1 xs B
        replace h:=Ej h; obtain ⟨g5,h⟩:=h
        simp only [Bool.and_eq_true] at g5
        have L:=Nat.eq_of_beq_eq_true g5.1
        have N:=Nat.eq_of_beq_eq_true g5.2
        subst L; subst N
        cases h with
        | mk X m hk J hb I M k=>
         subst J; subst I; subst M
         exact Jx A (Aoz D u ht rfl G rfl he g1 g2 g3 hx hk hy hb) B (by intro e; cases e) k
        | mkP X k' m hk J hb I V M k=>
         subst I; subst M; subst V
         exact Jx A (Ao7 D u ht rfl G rfl he g1 g2 g3 hx hk J hy hb) B (by intro e; cases e) k
       .exact h.elim
      .rename_i hx
       obtain ⟨X,m,hb,I,M,k⟩:=h
       subst I; subst M
       exact Ma A (Ao3 D n u ht rfl G rfl he g1 g2 g3 hx hy hb) k
      .rename_i af ae hx
       obtain ⟨ac,k⟩:=h
       subst ac
       exact Cx A (Ao9 D u ht rfl G rfl he g1 hx hy) k
      .exact h.elim
     .rename_i h2 k2 a6 a7 hy
      split at h
      .rename_i hd k len hx
       split at h
       .rename_i E a1 xs B
        replace h:=Ej h; obtain ⟨g5,h⟩:=h
        simp only [Bool.and_eq_true] at g5
        have L:=Nat.eq_of_beq_eq_true g5.1.1
        have N:=Nat.eq_of_beq_eq_true g5.1.2
        have e3:=Nat.eq_of_beq_eq_true g5.2
        subst L; subst N; subst e3
        obtain ⟨X,k',m,hk,J,U,S,hb,I,V,M,k⟩:=h
        subst I; subst M; subst V
        exact Jx A (Apa D u ht rfl G rfl he g1 g2 g3 hx hk J hy U S hb) B (by intro e; cases e) k
       .exact h.elim
      .exact h.elim
     .exact h.elim
    .exact h.elim
   .rename_i e s1 Z Y ab aa a8 ht G
    split at h
    .rename_i i' he
     replace h:=Ej h; obtain ⟨g,h⟩:=h
     simp only [Bool.and_eq_true] at g
     obtain ⟨⟨g1,g2⟩,g3⟩:=g
     have g1:=Nat.eq_of_beq_eq_true g1
     have g2:=Nat.eq_of_beq_eq_true g2
     have g3:=Nat.le_of_ble_eq_true g3
     split at h
     .rename_i s hy
      split at h
      .rename_i hd k len hx
       split at h
       .rename_i E a1 xs B
        replace h:=Ej h; obtain ⟨g5,h⟩:=h
        simp only [Bool.and_eq_true] at g5
        have L:=Nat.eq_of_beq_eq_true g5.1
        have N:=Nat.eq_of_beq_eq_true g5.2
        subst L; subst N
        obtain ⟨_,_,_,_,_,_,_,_,_,k⟩ | ⟨X,m,hk,J,hb,I,M,k⟩:=h
        .exact k.elim
        subst J; subst I; subst M
        exact Jx A (Ao2 D u ht rfl G rfl he g1 g2 g3 hx hk hy hb) B (by intro e; cases e) k
       .exact h.elim
      .exact h.elim
     .exact h.elim
    .exact h.elim
   .exact h.elim
  .exact h.elim
 .rename_i i
  split at h
  .rename_i x y t t' ha z
   rw [Nw i (L9 ha) (L9 z)] at u
   split at h
   .rename_i k a k' b hx hy
    exact Cx A (Ao5 u hx hy) h
   .exact h.elim
  .exact h.elim
 .rename_i i
  split at h
  .rename_i x y t t' ha z
   rw [Nw i (L9 ha) (L9 z)] at u
   split at h
   .rename_i k a k' b hx hy
    exact Cx A (Ao6 u hx hy) h
   .exact h.elim
  .exact h.elim
 .exact h.elim
theorem Af4 (B:Ch P T) (A:D0 H n) (h:Dj P T an n o ρ H K):Jw P o ρ H n K:=by
 cases u:o.op with
 | load t x=>exact Ap4 B A u h
 | store t x y=>exact Ap5 B A u h
 | binOp op t x y yt=>exact Ap6 B A u h
 | call c=>exact Ap8 B A u h
 | slice t x lo hi mx=>
  cases mx with
  | none=>exact Ap7 B A u h
  | some m=>unfold Dj at h; rw [u] at h; exact h.elim
 | move x=>unfold Dj at h; rw [u] at h; exact Cx A (Ana u) h
 | assign x=>
  unfold Dj at h; rw [u] at h; dsimp only at h
  split at h
  .exact Cx A (R3 u) h
  .split at h
   .exact Cx A (R3 u) h
   .exact Cx A (R3 u) h
   .exact Cx A (R3 u) h
   .cases hb:I7 (ρ x) with
    | false=>rw [hb] at h; exact Cx A (R3 u) h
    | true=>
     rw [hb] at h
     simp only [cond_true] at h
     split at h
     .rename_i e G D I ht
      split at h
      .rename_i U he
       replace h:=Ej h; obtain ⟨g1,h⟩:=h
       exact Ma A (Ao4 B n u (V2 hb) ht rfl he (Nat.le_of_ble_eq_true g1)) h
      .exact h.elim
     .exact h.elim
 | pick c a b=>
  unfold Dj at h; rw [u] at h; dsimp only at h
  split at h
  .rename_i t hc; exact Cx A (Anb u hc) h
  .exact h.elim
 | alloc t=>
  unfold Dj at h; rw [u] at h; dsimp only at h
  split at h
  .rename_i i ht; exact Ma A (Anc B n u ht) h
  .exact h.elim
 | box t x=>unfold Dj at h; rw [u] at h; exact Ma A (Ane n u) h
 | build t parts=>
  unfold Dj at h; rw [u] at h; dsimp only at h
  split at h
  .rename_i fs G D z ht
   split at h
   .rename_i cs hc; exact Cx A (Aot B u ht rfl hc) h
   .exact h.elim
  .exact h.elim
 | buildSlice t len parts=>
  unfold Dj at h; rw [u] at h; dsimp only at h
  split at h
  .rename_i e G D I ht
   split at h
   .rename_i U he
    replace h:=Ej h; obtain ⟨g,h⟩:=h
    simp only [Bool.and_eq_true] at g
    obtain ⟨⟨⟨g1,g2⟩,g3⟩,g4⟩:=g
    have g2:parts.toList.map (·.1)=List.range' 0 len:=by simpa using g2
    have g4:∀p∈parts.toList,It U.size (ρ p.2)=true:=List.all_eq_true.1 g4
    split at h
    .exact h.elim
    .rw [Vy] at h
     exact Cx A (Ae4 B u ht rfl he (Nat.le_of_ble_eq_true g1) g2 (Nat.le_of_ble_eq_true g3) g4) h
    .rw [Vy] at h
     exact Cx A (Ae4 B u ht rfl he (Nat.le_of_ble_eq_true g1) g2 (Nat.le_of_ble_eq_true g3) g4) h
    .rw [Vy] at h
     exact Ma A (Aov B n u ht rfl he (Nat.le_of_ble_eq_true g1) g2 (Nat.le_of_ble_eq_true g3) g4) h
   .exact h.elim
  .exact h.elim
 | nilCheck x=>
  unfold Dj at h; rw [u] at h; dsimp only at h
  replace h:=Ej h; obtain ⟨g1,h⟩:=h
  exact Cx A (Anq u g1) h
 | unOp op t x=>
  unfold Dj at h; rw [u] at h; dsimp only at h
  split at h
  .rename_i b hx; exact Cx A (An7 u hx) h
  .rename_i k m hx
   obtain ⟨c,h1,h2⟩:=h
   exact Cx A (An8 u hx h1) h2
  .exact h.elim
 | convert s d x=>
  unfold Dj at h; rw [u] at h; dsimp only at h
  split at h
  .rename_i i k G D I M m hs hd hx
   obtain ⟨c,h1,h2⟩:=h
   exact Cx A (An9 B u hs hd rfl hx h1) h2
  .rename_i v0 k0 G D I k1 m h1 h2 hx
   exact Cx A (Aob B u h1 h2 rfl hx) h
  .rename_i v0 k0 G D I q m h1 h2 hx
   obtain ⟨c,g1,g2⟩:=h
   exact Cx A (Aoc B u h1 h2 rfl hx g1) g2
  .rename_i e G D I s4 s5 s6 sz xs ht hd hx
   split at h
   .rename_i s7 s8 s9 he
    replace h:=Ej h; obtain ⟨g1,h⟩:=h
    obtain ⟨bs,g2,g3⟩:=h
    have g1:sz=1:=Nat.eq_of_beq_eq_true g1
    subst g1
    exact Cx A (Aol B u ht rfl he rfl hd rfl hx g2) g3
   .exact h.elim
  .exact h.elim
 | makeFunc fn first a1=>
  cases fn with
  | func f=>
   unfold Dj at h; rw [u] at h; dsimp only at h
   replace h:=Ej h; obtain ⟨g1,h⟩:=h
   have:first = #[]:=by simpa using g1
   subst this
   exact Cx A (Aop u) h
  | _=>unfold Dj at h; rw [u] at h; exact h.elim
 | makeSlice t x y=>
  unfold Dj at h; rw [u] at h; dsimp only at h
  split at h
  .rename_i e G D I ht
   split at h
   .rename_i U he
    split at h
    .rename_i k l M c hx hy
     replace h:=Ej h; obtain ⟨g,h⟩:=h
     simp only [Bool.and_eq_true] at g
     obtain ⟨⟨⟨g1,g2⟩,g3⟩,g4⟩:=g
     rcases h with ⟨l',c',zs,el,Z,h1,h2,h3,S,k⟩ | ⟨z',X,l',c',zs,el,Z,h1,h2,h3,S,k⟩
     .subst el; subst Z; subst S
      exact Ma A (Aow B n u ht rfl he (Nat.le_of_ble_eq_true g1) hx hy h1 h2 h3 g2 (Aae g3 g4 g2)) k
     .subst el; subst Z; subst S
      exact Ma A (Aox B z' n u ht rfl he (Nat.le_of_ble_eq_true g1) hx hy h1 h2 h3 g2 (Aae g3 g4 g2) X) k
    .exact h.elim
   .exact h.elim
  .exact h.elim
 | fieldAddr s x f=>
  unfold Dj at h; rw [u] at h; dsimp only at h
  split at h
  .rename_i fs G D I ht
   split at h
   .rename_i q R
    split at h
    .rename_i hd off hx; exact Cx A (Aoe B u ht rfl R hx) h
    .rename_i cs hx; exact Cx A (Aof B u ht rfl R hx) h
    .rename_i hd k m j hx
     split at h
     .rename_i E sz xs J
      obtain ⟨hk,h⟩:=h
      exact I8 A (Aog B u ht rfl R hx hk) J h
     .exact h.elim
    .exact h.elim
   .exact h.elim
  .exact h.elim
 | indexAddr t x y=>
  unfold Dj at h; rw [u] at h; dsimp only at h
  split at h
  .rename_i e G D I ht
   split at h
   .rename_i U he
    split at h
    .rename_i sz xs k i hx hy
     replace h:=Ej h; obtain ⟨g1,h⟩:=h
     obtain ⟨m,z,hi,S,M⟩:=h
     subst hi
     exact Cx A (Aom B u ht rfl he (Nat.eq_of_beq_eq_true g1) hx hy S) M
    .rename_i hd k off len kk i hx hy
     split at h
     .rename_i E sz xs J
      replace h:=Ej h; obtain ⟨g1,h⟩:=h
      obtain ⟨m,hk,hi,hm,M⟩:=h
      subst hi
      exact I8 A (Aon B u ht rfl he hx hk hy hm (Nat.eq_of_beq_eq_true g1)) J M
     .exact h.elim
    .exact h.elim
   .exact h.elim
  .exact h.elim
 | index t x y=>
  unfold Dj at h; rw [u] at h; dsimp only at h
  split at h
  .rename_i G D I ht
   split at h
   .rename_i s k i hx hy
    obtain ⟨m,c,hi,hc,M⟩:=h
    subst hi
    exact Cx A (Aoo B u ht rfl hx hy hc) M
   .exact h.elim
  .exact h.elim
 | field t x f=>
  unfold Dj at h; rw [u] at h; dsimp only at h
  split at h
  .rename_i fs G D I ht
   split at h
   .rename_i q hq
    split at h
    .rename_i cs hx
     obtain ⟨ft,R,h⟩:=h
     split at h
     .rename_i V he
      cases L:V.isAgg with
      | true=>
       rw [L] at h
       simp only [cond_true] at h
       obtain ⟨h1,h2⟩:=Ej h
       exact Cx A (Afc B u ht rfl hq R he hx (.inl ⟨L,Nat.le_of_ble_eq_true h1,rfl⟩)) h2
      | false=>
       rw [L] at h
       simp only [cond_false] at h
       split at h
       .rename_i c hc
        exact Cx A (Afc B u ht rfl hq R he hx (.inr ⟨L,hc⟩)) h
       .exact h.elim
     .exact h.elim
    .exact h.elim
   .exact h.elim
  .exact h.elim
 | makeMap t r=>
  cases r with
  | none=>unfold Dj at h; rw [u] at h; exact Ma A (Apg n u) h
  | some q=>unfold Dj at h; rw [u] at h; exact h.elim
 | lookup t x y ok=>
  unfold Dj at h; rw [u] at h; dsimp only at h
  split at h
  .rename_i kt et G D I ht
   split at h
   .rename_i q1 q2 q3 hk
    split at h
    .rename_i V he
     split at h
     .rename_i hd hx
      split at h
      .rename_i s hy
       split at h
       .rename_i es J
        obtain ⟨r,N,h⟩:=h
        exact I8 A (Aph B u ht rfl hk rfl he hx hy N) J h
       .exact h.elim
      .exact h.elim
     .exact h.elim
    .exact h.elim
   .split at h
    .rename_i V he
     split at h
     .rename_i hd hx
      split at h
      .rename_i ks hy
       split at h
       .rename_i us hu
        split at h
        .rename_i es J
         obtain ⟨r,hc,N,h⟩:=h
         exact I8 A (Apj B u ht rfl he hx hy hu hc N) J h
        .exact h.elim
       .exact h.elim
      .exact h.elim
     .exact h.elim
    .exact h.elim
   .exact h.elim
  .exact h.elim
 | mapUpdate t x y z=>
  unfold Dj at h; rw [u] at h; dsimp only at h
  split at h
  .rename_i kt et G D I ht
   split at h
   .rename_i q1 q2 q3 hk
    split at h
    .rename_i hd hx
     split at h
     .rename_i s hy
      split at h
      .rename_i es J
       obtain ⟨g1,h⟩:=Ej h
       rw [P1] at h
       obtain ⟨Y,N,h⟩:=h
       exact Jx A (Api B u ht rfl hk rfl hx hy g1 N) J (by intro e; cases e) h
      .exact h.elim
     .exact h.elim
    .exact h.elim
   .split at h
    .rename_i hd hx
     split at h
     .rename_i ks hy
      split at h
      .rename_i us hu
       split at h
       .rename_i es J
        obtain ⟨g1,h⟩:=Ej h
        rw [P1] at h
        obtain ⟨Y,hc,N,rfl,h⟩:=h
        exact Jx A (Apk B u ht rfl hx hy hu g1 hc N) J (by intro e; cases e) h
       .exact h.elim
      .exact h.elim
     .exact h.elim
    .exact h.elim
   .exact h.elim
  .exact h.elim
 | extract x i=>
  unfold Dj at h; rw [u] at h; dsimp only at h
  split at h
  .rename_i cs hx
   split at h
   .rename_i c hc; exact Cx A (Aod u hx hc) h
   .exact h.elim
  .exact h.elim
 | _=>unfold Dj at h; rw [u] at h; exact h.elim
end
end Go.Ab
namespace Go.Ab
theorem Fd {t:Bool} {A B:Prop} (h:t=true) (k:A):bif t then A else B:=by rw [h]; exact k
theorem Aaf {t:Bool} {A B:Prop} (h:t=false) (k:B):bif t then A else B:=by rw [h]; exact k
abbrev Gp:=List (List Nat×List Nat)
def I9 (l:List (Nat×Nat)):Nat->List AV->List AV
 | _,[]=>[]
 | i,x::xs=>(bif I7 x then (match l.lookup i with | some sz=>.sl sz [] | none=>x) else x)::I9 l (i+1) xs
def elN (l:List (Nat×Nat)) (x:AV):AV :=
 match x with
 | .val (.agg vs)=>.agg (I9 l 1000 (vs.toList.map .val))
 | .agg cs=>.agg (I9 l 1000 cs)
 | x=>x
def Ja (l:List (Nat×Nat)) (x:AV):AV :=
 match l with
 | []=>x
 | p::l=>
  match x with
  | .sl sz xs=>bif Nat.ble 1000 p.1 then .sl sz (xs.map (elN (p::l))) else .sl sz xs
  | .agg cs=>.agg (I9 (p::l) 0 cs)
  | x=>bif I7 x then .sl p.2 [] else x
def Jy (nl:Nat->List (Nat×Nat)):Option Nat->List (Nat×Nat)
 | none=>[]
 | some d=>nl d
theorem V3 {σ:Aw} {ι:Bi} {H:Hp} {x:AV} {v:Value} {sz:Nat} (hx:I7 x=true) (h:Conc σ ι H x v):Conc σ ι H (.sl sz []) v:=by
 rw [V2 hx] at h
 rw [h.val_inv]
 exact .cc (.nil sz none 0)
theorem Aag {l:List (Nat×Nat)}:∀{cs:List AV} {i k:Nat} {c:AV},(I9 l k cs)[i]? = some c->∃b,cs[i]? = some b/\(c=b\/(I7 b=true/\∃sz,c = .sl sz []))
 | [],i,k,c,h=>by simp [I9] at h
 | x::xs,0,k,c,h=>by
  simp only [I9,List.getElem?_cons_zero,Option.some.injEq] at h
  refine ⟨x,rfl,?_⟩
  cases hx:I7 x with
  | false=>rw [hx] at h; exact .inl h.symm
  | true=>
   rw [hx] at h
   simp only [cond_true] at h
   split at h
   .rename_i sz _; exact .inr ⟨rfl,sz,h.symm⟩
   .exact .inl h.symm
 | x::xs,i+1,k,c,h=>by
  simp only [I9,List.getElem?_cons_succ] at h
  obtain ⟨b,h1,h2⟩:=Aag h
  exact ⟨b,by simpa using h1,h2⟩
theorem Aah {l:List (Nat×Nat)}:∀{cs:List AV} {k:Nat},(I9 l k cs).length=cs.length
 | [],_=>rfl
 | x::xs,k=>by simp only [I9,List.length_cons,Aah]
theorem Ap9 {l:List (Nat×Nat)} {σ:Aw} {x:AV}:(elN l x).cells.length=x.cells.length/\∀(j:Nat) (c b:AV) (u:Value),x.cells[j]? = some c->(elN l x).cells[j]? = some b->CC σ c u->CC σ b u:=by
 have key:∀cs:List AV,(I9 l 1000 cs).length=cs.length/\∀(j:Nat) (c b:AV) (u:Value),cs[j]? = some c->(I9 l 1000 cs)[j]? = some b->CC σ c u->CC σ b u:=by
  intro cs
  refine ⟨Aah,fun j c b u h1 h2 h3=>?_⟩
  obtain ⟨f,g1,rfl | ⟨g2,sz,rfl⟩⟩:=Aag h2
  .rw [h1] at g1; cases g1; exact h3
  .rw [h1] at g1; cases g1
   rw [V2 g2] at h3
   cases h3
   exact .nil sz none 0
 unfold elN
 split
 .exact key _
 .exact key _
 .exact ⟨rfl,fun j c b u h1 h2 h3=>by rw [h1] at h2; cases h2; exact h3⟩
theorem CC.mapEl {σ:Aw} {sz:Nat} {xs:List AV} {v:Value} (f:AV->AV) (B:∀x,(f x).cells.length=x.cells.length/\∀(j:Nat) (c k:AV) (u:Value),x.cells[j]? = some c->(f x).cells[j]? = some k->CC σ c u->CC σ k u) (h:CC σ (.sl sz xs) v):CC σ (.sl sz (xs.map f)) v:=by
 cases h with
 | nil sz a cap=>exact .nil sz a cap
 | sl _ b off cap _ C E fr g D hs hc h1 I G s=>
  have q:(xs.map f).length=xs.length:=by simp
  have l:∀(i:Nat) (y:AV) (j:Nat) (k:AV),(xs.map f)[i]? = some y->y.cells[j]? = some k->∃x c,xs[i]? = some x/\x.cells[j]? = some c/\y=f x:=by
   intro i y j k g1 g2
   rw [List.getElem?_map] at g1
   cases hx:xs[i]? with
   | none=>rw [hx] at g1; cases g1
   | some x=>
    rw [hx] at g1; cases g1
    have hj:j<x.cells.length:=by rw [<-(B x).1]; exact (List.getElem?_eq_some_iff.1 g2).1
    exact ⟨x,x.cells[j],rfl,List.getElem?_eq_getElem hj,rfl⟩
  rw [<-q]
  refine .sl (xs.map f) b off cap sz C E fr g D ?_ ?_ ?_ (fun i j hi hj=>I i j (by simpa using hi) hj) (by simpa using G) (by simpa using s)
  .intro i y hy
   rw [List.getElem?_map] at hy
   cases hx:xs[i]? with
   | none=>rw [hx] at hy; cases hy
   | some x=>rw [hx] at hy; cases hy; rw [(B x).1]; exact hs i x hx
  .intro i y j k g1 g2
   obtain ⟨x,c,A,z,rfl⟩:=l i y j k g1 g2
   exact (B x).2 j c k _ z g2 (hc i x j c A z)
  .intro i y j k g1 g2
   obtain ⟨x,c,A,z,rfl⟩:=l i y j k g1 g2
   exact h1 i x j c A z
theorem Aqa {l:List (Nat×Nat)} {σ:Aw} {ι:Bi} {H:Hp} {x:AV} {v:Value} (h:Conc σ ι H x v):Conc σ ι H (Ja l x) v:=by
 unfold Ja
 split
 .exact h
 .split
  .rename_i _ p l _ sz xs
   cases hb:Nat.ble 1000 p.1 with
   | false=>exact h
   | true=>exact .cc (h.sl_inv.mapEl _ fun x=>Ap9)
  .rename_i cs
   obtain ⟨vs,rfl,f,b⟩:=h.agg_inv
   refine .agg _ vs (by rw [Aah]; exact f) fun i c u h1 h2=>?_
   obtain ⟨g,h3,rfl | ⟨h4,sz,rfl⟩⟩:=Aag h1
   .exact b i _ u h3 h2
   .exact V3 h4 (b i _ u h3 h2)
  .cases hx:I7 x with
   | false=>exact h
   | true=>exact V3 hx h
theorem Bo.nils {P:Program} {o:Oper} {ρ:Operand->AV} {b:Eff} (l:List (Nat×Nat)) (h:Bo P o ρ b):Bo P o ρ ⟨Ja l b.r,b.rd,b.wr⟩ :=
 fun σ ι H F W w a next Q s hx g hk=>h σ ι H F W w a next Q s hx g fun c f v w' le s' hc=>hk c f v w' le s' (Aqa hc)
def Hx (e:Bf) (d:Option Nat) (r:AV) (H:Hp) (b:List (Nat×Bc)) (K:Bf->Hp->Prop):Prop :=
 match d with
 | none=>
  (match b with
  | []=>K e H
  | [p]=>K e (A3 H p.1 p.2)
  | p::q::l=>K e (B6 H (p::q::l)))
 | some t=>
  (match b with
  | []=>K (A3 e t r) H
  | [p]=>K (A3 e t r) (A3 H p.1 p.2)
  | p::q::l=>K (A3 e t r) (B6 H (p::q::l)))
theorem V4 (e:Bf) (d:Option Nat) (r:AV) (H:Hp) (b:List (Nat×Bc)) (K:Bf->Hp->Prop):Hx e d r H b K=K (put e d r) (B6 H b):=by
 cases d <;> cases b with
 | nil=>rfl
 | cons p l=>cases l <;> rfl
def Hy (P:Program) (T:Cg) (an:Nat->Ann) (nl:Nat->List (Nat×Nat)) (ops:Array Oper):List Oper->List Nat->Nat->Bf->Hp->Gp->(Nat->Bf->Hp->Gp->Prop)->Prop
 | [],_,n,e,H,acc,K=>K n e H acc
 | o::os,f,n,e,H,acc,K=>
  match o.guard with
  | none=>Dj P T an n o (ev e) H fun c m=>Iw (Ja (Jy nl o.dst) c.r) fun r=>Ks c.wr fun wr=>G5 c.rd fun h=>G5 wr fun g=>Hx e o.dst r H wr fun e H=>Hy P T an nl ops os f m e H (acc++[(h,g)]) K
  | some p=>
   match (ops[p.1]?).bind (·.dst) with
   | none=>False
   | some s=>
    match e s with
    | .val (.bool b)=>
     match f.elem s with
     | true=>
      (match b with
      | true=>
       (match p.2 with
       | true=>Dj P T an n o (ev e) H fun c m=>Iw (Ja (Jy nl o.dst) c.r) fun r=>Ks c.wr fun wr=>G5 c.rd fun h=>G5 wr fun g=>Hx e o.dst r H wr fun e H=>Hy P T an nl ops os f m e H (acc++[(h,g)]) K
       | false=>Hx e o.dst (.val undef) H [] fun e H=>Hy P T an nl ops os f n e H (acc++[([],[])]) K)
      | false=>
       (match p.2 with
       | true=>Hx e o.dst (.val undef) H [] fun e H=>Hy P T an nl ops os f n e H (acc++[([],[])]) K
       | false=>Dj P T an n o (ev e) H fun c m=>Iw (Ja (Jy nl o.dst) c.r) fun r=>Ks c.wr fun wr=>G5 c.rd fun h=>G5 wr fun g=>Hx e o.dst r H wr fun e H=>Hy P T an nl ops os f m e H (acc++[(h,g)]) K))
     | false=>
      bif b then
       (match p.2 with
       | true=>Dj P T an n o (ev (A3 e s (.val (.bool true)))) H fun c m=>Iw (Ja (Jy nl o.dst) c.r) fun r=>Ks c.wr fun wr=>G5 c.rd fun h=>G5 wr fun g=>Hx (A3 e s (.val (.bool true))) o.dst r H wr fun e H=>Hy P T an nl ops os (s::f) m e H (acc++[(h,g)]) K
       | false=>Hx (A3 e s (.val (.bool true))) o.dst (.val undef) H [] fun e H=>Hy P T an nl ops os (s::f) n e H (acc++[([],[])]) K)
      else
       (match p.2 with
       | true=>Hx (A3 e s (.val (.bool false))) o.dst (.val undef) H [] fun e H=>Hy P T an nl ops os (s::f) n e H (acc++[([],[])]) K
       | false=>Dj P T an n o (ev (A3 e s (.val (.bool false)))) H fun c m=>Iw (Ja (Jy nl o.dst) c.r) fun r=>Ks c.wr fun wr=>G5 c.rd fun h=>G5 wr fun g=>Hx (A3 e s (.val (.bool false))) o.dst r H wr fun e H=>Hy P T an nl ops os (s::f) m e H (acc++[(h,g)]) K)
    | .val (.tuple _)=>Hx e o.dst (.val undef) H [] fun e H=>Hy P T an nl ops os f n e H (acc++[([],[])]) K
    | _=>False
inductive Jz (ops:List Oper) (acc:Gp) (K:Prop):Prop where
 | mk (h:Zx ops acc=true) (k:K)
inductive Ex where
 | normal
 | exit (id:Nat)
 | ret
def Fr (e:Bf):List (Nat×AV)->Prop
 | []=>True
 | p::l=>e p.1=p.2/\Fr e l
def Fs (H H':Hp):Nat->Nat->Prop
 | 0,_=>True
 | k+1,n=>(H k=H' k/\(H' k).under n=true)/\Fs H H' k n
def Ig (b:List Nat) (e:Bf) (u:Nat->Value) (l:List (Nat×AV)):Bf:=l.foldr (fun p e=>A3 e p.1 p.2) (b.foldr (fun s e=>A3 e s (.val (u s))) e)
def Ix (n:Nat) (b:List (Nat×AV)) (c:List (Nat×Bc)):Bool:=(b.all fun p=>p.2.under n)&&c.all fun p=>Nat.blt p.1 n
inductive Aqb (n:Nat) (ws:List Nat) (e:Bf) (H:Hp) (body:(Nat->Bf->Hp->Prop)->Nat->Bf->Hp->Prop):Prop where
 | mk (I:Type) (inv:I->Prop) (iv:I->List (Nat×AV)) (hv:I->List (Nat×Bc)) (m:I->Nat) (i0:I) (hb:∀i,Ix n (iv i) (hv i)=true)
   (h0:inv i0) (hs:Fr e (iv i0)) (hh:Fs H (B6 H (hv i0)) n n)
   (step:∀(i:I) (u:Nat->Value),inv i->body (fun _ e' H'=>∃i',inv i'/\Fr e' (iv i')/\Fs H' (B6 H (hv i')) n n/\m i' < m i) n (Ig ws e u (iv i)) (B6 H (hv i)))
def D6:Code->List Nat
 | .region _ ops _=>ops.toList.filterMap (·.dst)
 | .seq a b=>D6 a++D6 b
 | .cond _ a b=>D6 a++D6 b
 | .block _ b=>D6 b
 | .loop b=>D6 b
 | .scope b=>D6 b
 | _=>[]
def V5:List Nat->Bf->Hp->(Bf->Hp->Prop)->Prop
 | [],e,H,K=>K e H
 | s::b,e,H,K=>
  match e s with
  | .arr h k 0 len=>
   match H h with
   | .rows _ sz xs=>Fb k xs (Fb len xs (V5 b (A3 e s (.sl sz xs)) (A3 H h .dead) K))
   | _=>False
  | _=>False
structure Cfg where
 T:Cg
 an:Nat->Ann:=fun _=>.std
 gh:Nat->List Nat:=fun _=>[]
 nl:Nat->List (Nat×Nat):=fun _=>[]
def Af5 (x:AV) (A B:Prop):Prop :=
 match x with
 | .val (.bool t)=>bif t then A else B
 | _=>False
def vc (P:Program) (C:Cfg):Code->(Ex->Nat->Bf->Hp->Prop)->Nat->Bf->Hp->Prop
 | .skip,Q,n,e,H=>Q .normal n e H
 | .region id ops draw,Q,n,e,H=>V5 (C.gh id) e H fun e H=>
   Hy P C.T C.an C.nl ops ops.toList [] n e H [] fun n e H acc=>bif draw then Jz ops.toList acc (Q .normal n e H) else Q .normal n e H
 | .seq a b,Q,n,e,H=>vc P C a (fun x n e H=>match x with
   | .normal=>vc P C b Q n e H
   | .exit id=>Q (.exit id) n e H
   | .ret=>Q .ret n e H) n e H
 | .cond c a b,Q,n,e,H=>Af5 (ev e c) (vc P C a Q n e H) (vc P C b Q n e H)
 | .block id b,Q,n,e,H=>vc P C b (fun x n e H=>match x with
   | .normal=>Q .normal n e H
   | .exit i=>bif Nat.beq i id then Q .normal n e H else Q (.exit i) n e H
   | .ret=>Q .ret n e H) n e H
 | .loop b,Q,n,e,H=>Aqb n (D6 b) e H fun K n e H=>vc P C b (fun x n e H=>match x with
   | .normal=>K n e H
   | .exit id=>Q (.exit id) n e H
   | .ret=>Q .ret n e H) n e H
 | .exit id,Q,n,e,H=>Q (.exit id) n e H
 | .ret,Q,n,e,H=>Q .ret n e H
 | _,_,_,_,_=>False
def Af6 (N:Nat) (x:Operand):Bool :=
 match x with
 | .tmp t=>Nat.blt t N
 | _=>true
def Hz (N:Nat):Code->Bool
 | .region _ ops _=>ops.toList.all fun o=>(Iv ops o).all fun s=>Nat.blt s N
 | .seq a b=>Hz N a&&Hz N b
 | .cond c a b=>Af6 N c&&Hz N a&&Hz N b
 | .block _ b=>Hz N b
 | .loop b=>Hz N b
 | .scope b=>Hz N b
 | _=>true
def Ex.out:Ex->Exit
 | .normal=>.normal
 | .exit id=>.exit id
 | .ret=>.ret
section
variable {P:Program} {T:Cg} {an:Nat->Ann} {nl:Nat->List (Nat×Nat)} {ops:Array Oper} {F:Aw} {W:World} {Q:Exit->Act->World->Prop}
theorem V6 {α:Type} {e:Nat->α} {s:Nat} {v:α} (h:e s=v):A3 e s v=e:=by subst h; exact Gl e s
theorem Aai (L:Ch P T):∀(os:List Oper) (g:List Nat) (i n:Nat) (e:Bf) (H:Hp) (acc:Gp) (K:Nat->Bf->Hp->Gp->Prop),ops.toList.drop i=os->acc.length=i->D0 H n->Hy P T an nl ops os g n e H acc K ->
  ∃f e' H' accs,K f e' H' accs/\accs.take i=acc/\accs.length=i+os.length/\n<=f/\D0 H' f/\Run P ops (fun k=>accs.getD k ([],[])) (List.range' i os.length) e H e' H'
 | [],g,i,n,e,H,acc,K,hd,x,B,h=>⟨n,e,H,acc,h,by rw [<-x]; simp,by simpa using x,Nat.le_refl _,B,.nil e H⟩
 | o::os,g,i,n,e,H,acc,K,hd,x,B,h=>by
  have M:ops[i]? = some o:=by
   have:=congrArg (fun l=>l[0]?) hd
   simpa using this
  have z:ops.toList.drop (i+1)=os:=by
   have:=congrArg (List.drop 1) hd
   simpa [List.drop_drop] using this
  have run:∀(u:Bf) (g:List Nat),Gn ops o u true->(Dj P T an n o (ev u) H fun c m=>Iw (Ja (Jy nl o.dst) c.r) fun r=>Ks c.wr fun wr=>G5 c.rd fun R=>G5 wr fun N=>Hx u o.dst r H wr fun e H=>Hy P T an nl ops os g m e H (acc++[(R,N)]) K) ->
    ∃f e' H' accs,K f e' H' accs/\accs.take i=acc/\accs.length=i+(o::os).length/\n<=f/\D0 H' f/\Run P ops (fun k=>accs.getD k ([],[])) (List.range' i (o::os).length) u H e' H':=by
   intro u g j hs
   obtain ⟨c,m,h1,h2,h3,h4,X⟩:=Af4 L B hs
   simp only [P1,Z7,Z8,V4] at h3
   obtain ⟨f,e',H',accs,G,A,U,S,E,D⟩:=Aai L os g (i+1) m _ _ _ K z (by simp [x]) X h3
   have J:accs[i]? = some (c.rd.map (·.1),c.wr.map (·.1)):=by
    have Y:(accs.take (i+1))[i]? = accs[i]?:=List.getElem?_take_of_lt (by omega)
    rw [<-Y,A,List.getElem?_append_right (by omega)]
    simp [x]
   have y:accs.getD i ([],[])=(c.rd.map (·.1),c.wr.map (·.1)):=by simp [List.getD,J]
   refine ⟨f,e',H',accs,G,?_,by simp only [List.length_cons]; omega,by omega,E,?_⟩
   .have:=congrArg (List.take i) A
    rw [List.take_take] at this
    simpa [x] using this
   .rw [List.length_cons,List.range'_succ]
    refine .cons o (Ja (Jy nl o.dst) c.r) c.wr ⟨M,.inl ⟨j,_,h1.nils (Jy nl o.dst),h2,?_,?_,rfl,rfl⟩⟩ D
    .intro p hp; show p.1∈(accs.getD i ([],[])).1; rw [y]; exact List.mem_map_of_mem hp
    .intro p hp; show p.1∈(accs.getD i ([],[])).2; rw [y]; exact List.mem_map_of_mem hp
  have skip:∀(u:Bf) (g:List Nat),Gn ops o u false->(Hx u o.dst (.val undef) H [] fun e H=>Hy P T an nl ops os g n e H (acc++[([],[])]) K) ->
    ∃f e' H' accs,K f e' H' accs/\accs.take i=acc/\accs.length=i+(o::os).length/\n<=f/\D0 H' f/\Run P ops (fun k=>accs.getD k ([],[])) (List.range' i (o::os).length) u H e' H':=by
   intro u g j hs
   rw [V4] at hs
   obtain ⟨f,e',H',accs,G,A,U,S,E,D⟩:=Aai L os g (i+1) n _ _ _ K z (by simp [x]) B hs
   refine ⟨f,e',H',accs,G,?_,by simp only [List.length_cons]; omega,by omega,E,?_⟩
   .have:=congrArg (List.take i) A
    rw [List.take_take] at this
    simpa [x] using this
   .rw [List.length_cons,List.range'_succ]
    exact .cons o (.val undef) [] ⟨M,.inr ⟨j,rfl,rfl⟩⟩ D
  simp only [Hy] at h
  cases q:o.guard with
  | none=>
   rw [q] at h
   exact run e g (by unfold Gn; rw [q]) h
  | some p=>
   rw [q] at h
   simp only [] at h
   cases hs:(ops[p.1]?).bind (·.dst) with
   | none=>rw [hs] at h; exact h.elim
   | some s=>
    rw [hs] at h
    simp only [] at h
    split at h
    .rename_i b hb
     have j:∀on,on=(b==p.2)->Gn ops o e on:=by
      intro on I
      unfold Gn; rw [q]
      exact ⟨s,.bool b,hs,hb,by rw [I]; cases b <;> cases p.2 <;> rfl⟩
     cases hk:g.elem s with
     | true=>
      rw [hk] at h
      simp only [] at h
      cases b with
      | true=>
       cases hp:p.2 with
       | true=>rw [hp] at h; exact run e _ (j true (by rw [hp]; rfl)) h
       | false=>rw [hp] at h; exact skip e _ (j false (by rw [hp]; rfl)) h
      | false=>
       cases hp:p.2 with
       | true=>rw [hp] at h; exact skip e _ (j false (by rw [hp]; rfl)) h
       | false=>rw [hp] at h; exact run e _ (j true (by rw [hp]; rfl)) h
     | false=>
      rw [hk] at h
      simp only [] at h
      cases b with
      | true=>
       rw [V6 hb] at h
       simp only [cond_true] at h
       cases hp:p.2 with
       | true=>rw [hp] at h; exact run e _ (j true (by rw [hp]; rfl)) h
       | false=>rw [hp] at h; exact skip e _ (j false (by rw [hp]; rfl)) h
      | false=>
       rw [V6 hb] at h
       simp only [cond_false] at h
       cases hp:p.2 with
       | true=>rw [hp] at h; exact skip e _ (j false (by rw [hp]; rfl)) h
       | false=>rw [hp] at h; exact run e _ (j true (by rw [hp]; rfl)) h
    .rename_i vs V
     exact skip e _ (by unfold Gn; rw [q]; exact ⟨s,_,hs,V,rfl⟩) h
    .exact h.elim
end
end Go.Ab
namespace Go.Ab
section
variable {P:Program} {C:Cfg} {F:Aw} {W:World}
theorem Af7 {c:Code} {Q:Exit->Act->World->Prop} {a:Act} {w:World} (J:Nat->Act->World->Prop) (B:Nat) (h0:J B a w)
  (g:∀k a w,J k a w->c.wp P (Exit.then (fun q w'=>∃s,s<k/\J s q w') Q) a w):(Code.loop c).wp P Q a w:=by
 intro b u cs
 have key:∀k a w,J k a w->∃e q w',Q e q w'/\Arrives P (lone (b.at a (.code c :: .inLoop c::u)) cs w) b u cs e q w':=by
  intro k
  induction k using Nat.strongRecOn with
  | _ k ih=>
   intro a w E
   obtain ⟨e,j,i,hq,f⟩:=g k a w E b (.inLoop c::u) cs
   cases e with
   | normal=>
    obtain ⟨s,z,A⟩:=hq
    obtain ⟨G,I,D,y,h⟩:=ih s z j i A
    exact ⟨G,I,D,y,.of_steps (Steps.trans f (.one step_inLoop)) h⟩
   | exit id=>exact ⟨_,j,i,hq,.pass (x:=.inLoop c) rfl (fun _ _=>.inl (by simp)) f⟩
   | goto l=>exact ⟨_,j,i,hq,.pass (x:=.inLoop c) rfl (fun _ _=>.inl (by simp)) f⟩
   | ret=>exact ⟨_,j,i,hq,.pass (x:=.inLoop c) rfl (fun _ _=>.inl (by simp)) f⟩
   | panic L=>exact ⟨_,j,i,hq,.pass (x:=.inLoop c) rfl (fun _ _=>.inl (by simp)) f⟩
   | outgrown=>exact ⟨_,j,i,hq,.pass (x:=.inLoop c) rfl (fun _ _=>.inl (by simp)) f⟩
 obtain ⟨e,q,w',hq,f⟩:=key B a w h0
 exact ⟨e,q,w',hq,.of_steps (.one step_loop) f⟩
theorem Aqc {n:Nat} {x:AV} (h:x.under2 n=true) (hx:∀cs,x≠.agg cs):x.under1 n=true:=by
 cases x <;> first | exact h | exact (hx _ rfl).elim
theorem Conc.restrict {σ:Aw} {ι B:Bi} {H H':Hp} {n:Nat} (G:∀h,h<n->B h=ι h) (I:∀h,h<n->H' h=H h) {x:AV} {v:Value} (hx:x.under n=true) (h:Conc σ ι H x v):Conc σ B H' x v:=by
 have l:∀{x:AV} {v:Value},x.under0 n=true->Conc σ ι H x v->Conc σ B H' x v:=by
  intro x v hx h
  cases h with
  | cc h=>exact .cc h
  | loc h off b hb=>exact .loc h off b (by rw [G h (Fq hx)]; exact hb)
  | mp h b hb=>exact .mp h b (by rw [G h (Fq hx)]; exact hb)
  | arr h k off len v J D z=>
   have y:=Fq hx
   exact .arr h k off len v (by rw [I h y]; exact J) (by rw [G h y,I h y]; exact D) z
  | el h k i j v J D z=>
   have y:=Fq hx
   exact .el h k i j v (by rw [I h y]; exact J) (by rw [G h y,I h y]; exact D) z
  | ref cs b off C E fr g S hc h1 U=>exact .ref cs b off C E fr g S hc h1 U
  | agg=>cases hx
  | tup=>cases hx
  | fn=>cases hx
 have key:∀{x:AV} {v:Value},x.under1 n=true->Conc σ ι H x v->Conc σ B H' x v:=by
  intro x v hx h
  cases x with
  | fn f cs=>
   obtain ⟨vs,rfl,A,h⟩:=h.fn_inv
   exact .fn f cs vs A fun i c u h1 h2=>l (List.all_eq_true.1 hx c (List.mem_of_getElem? h1)) (h i c u h1 h2)
  | agg cs=>cases hx
  | tup cs=>cases hx
  | val u=>exact l (x:=(.val u)) hx h
  | loc q off=>exact l (x:=(.loc q off)) hx h
  | arr q k off len=>exact l (x:=(.arr q k off len)) hx h
  | el q k i j=>exact l (x:=(.el q k i j)) hx h
  | mp q=>exact l (x:=(.mp q)) hx h
  | ref cs=>exact l (x:=(.ref cs)) hx h
  | sl sz xs=>exact l (x:=(.sl sz xs)) hx h
  | fb s=>exact l (x:=(.fb s)) hx h
 have cells:∀{cs:List AV},cs.all (AV.under1 n)=true->∀(i:Nat) (c:AV) (u:Value),cs[i]? = some c->Conc σ ι H c u->Conc σ B H' c u :=
  fun M i c u hc h=>key (List.all_eq_true.1 M c (List.mem_of_getElem? hc)) h
 cases x with
 | agg cs=>
  cases h with
  | cc h=>exact .cc h
  | agg _ vs A h=>exact .agg cs vs A fun i c u h1 h2=>cells hx i c u h1 (h i c u h1 h2)
 | tup cs=>
  cases h with
  | cc h=>exact .cc h
  | tup _ vs A h=>
   refine .tup cs vs A fun i c u h1 h2=>?_
   have N:=List.all_eq_true.1 hx c (List.mem_of_getElem? h1)
   have hc:=h i c u h1 h2
   cases c with
   | agg ds=>
    obtain ⟨R,rfl,L,D⟩:=hc.agg_inv
    exact .agg ds R L fun j d v g1 g2=>cells N j d v g1 (D j d v g1 g2)
   | _=>exact key (Aqc N (by intro cs e; cases e)) hc
 | fn f cs=>
  cases h with
  | cc h=>exact .cc h
  | fn _ _ vs A h=>exact .fn f cs vs A fun i c u h1 h2=>cells hx i c u h1 (h i c u h1 h2)
 | val v=>exact key rfl h
 | loc h off=>exact key hx h
 | arr h k off len=>exact key hx h
 | el h k i j=>exact key hx h
 | mp h=>exact key hx h
 | ref cs=>exact key rfl h
 | sl sz xs=>exact key rfl h
 | fb s=>exact key rfl h
theorem Fs.spec {H H':Hp} {n:Nat}:∀{k:Nat},Fs H H' k n->∀h,h<k->H h=H' h/\(H' h).under n=true
 | 0,_,h,b=>by omega
 | k+1,c,h,b=>by
  by_cases e:h=k
  .subst e; exact c.1
  .exact Fs.spec c.2 h (by omega)
theorem Fr.spec {e:Bf}:∀{l:List (Nat×AV)},Fr e l->∀p∈l,e p.1=p.2
 | [],_,p,hp=>by cases hp
 | q::l,h,p,hp=>by
  rcases List.mem_cons.1 hp with rfl | hp
  .exact h.1
  .exact Fr.spec h.2 p hp
theorem Af8 (c:List Nat) (e:Bf) (u:Nat->Value) (l:List (Nat×AV)) (s:Nat):(∃p∈l,p.1=s/\Ig c e u l s=p.2)\/(s∈c/\Ig c e u l s = .val (u s))\/(s ∉ c/\Ig c e u l s=e s):=by
 have base:(s∈c/\(c.foldr (fun s e=>A3 e s (.val (u s))) e) s = .val (u s))\/(s ∉ c/\(c.foldr (fun s e=>A3 e s (.val (u s))) e) s=e s):=by
  induction c with
  | nil=>exact .inr ⟨by simp,rfl⟩
  | cons t c ih=>
   simp only [List.foldr_cons]
   by_cases b:s=t
   .subst b; exact .inl ⟨by simp,B5 _ _ _⟩
   .rw [Cp _ _ b]
    rcases ih with ⟨h1,h2⟩ | ⟨h1,h2⟩
    .exact .inl ⟨by simp [h1],h2⟩
    .exact .inr ⟨by simp [h1,b],h2⟩
 unfold Ig
 induction l with
 | nil=>exact .inr base
 | cons p l ih=>
  simp only [List.foldr_cons]
  by_cases b:s=p.1
  .exact .inl ⟨p,by simp,b.symm,by rw [b]; exact B5 _ _ _⟩
  .rw [Cp _ _ b]
   rcases ih with ⟨q,hq,h1,h2⟩ | h | h
   .exact .inl ⟨q,by simp [hq],h1,h2⟩
   .exact .inr (.inl h)
   .exact .inr (.inr h)
theorem Af9:∀(g:List Nat) {e:Bf} {H:Hp} {K:Bf->Hp->Prop} {n:Nat} {σ:Aw} {ι:Bi} {a:Act} {w:World},V5 g e H K->St σ ι H F W w->Dq σ ι H e a->D0 H n ->
  ∃f e' H',K e' H'/\Le σ ι H f ι H'/\St f ι H' F W w/\Dq f ι H' e' a/\D0 H' n
 | [],e,H,K,n,σ,ι,a,w,h,s,he,c=>⟨σ,e,H,h,Le.refl _ _ _,s,he,c⟩
 | t::g,e,H,K,n,σ,ι,a,w,h,s,he,c=>by
  simp only [V5] at h
  split at h
  .rename_i hd k len hx
   split at h
   .rename_i E sz xs l
    obtain ⟨hk,S,h⟩:=h
    obtain ⟨D,b,G,u⟩:=s.freeze l
    have x:Dq D ι (A3 H hd .dead) (A3 e t (.sl sz xs)) a:=by
     intro q hq
     by_cases A:q=t
     .subst A
      rw [B5]
      have hc:=he q hq
      rw [hx] at hc
      have:=u 0 len _ (by omega) (hc.arr_inv l hk)
      rw [List.drop_zero,List.take_of_length_le (by omega)] at this
      exact .cc this
     .rw [Cp _ _ A]; exact (he q hq).mono b
    have i:D0 (A3 H hd .dead) n:=by
     intro m z
     have j:hd≠m:=by
      intro y; subst y
      have:=c hd z; rw [l] at this; cases this
     rw [Cp _ _ (Ne.symm j)]; exact c m z
    obtain ⟨B,y,R,N,M,L,J,I⟩:=Af9 g h G x i
    exact ⟨B,y,R,N,b.trans M,L,J,I⟩
   .exact h.elim
  .exact h.elim
theorem Aga {N:Nat} {ops:Array Oper} (h:(ops.toList.all fun o=>(Iv ops o).all fun s=>Nat.blt s N)=true):Vm ops N:=by
 intro i o b s hs
 rw [List.all_eq_true] at h
 have:=h o (by simpa using Array.mem_of_getElem? b)
 rw [List.all_eq_true] at this
 exact Fq (this s hs)
theorem Nx (hT:Ch P C.T) (hm:P.follows .mixedOrders=true):∀(c:Code) (Q':Ex->Nat->Bf->Hp->Prop) (n:Nat) (e:Bf) (H:Hp) (σ:Aw) (ι:Bi) (a:Act) (w:World) (Q:Exit->Act->World->Prop),
  Hz a.tmps.size c=true->vc P C c Q' n e H->St σ ι H F W w->Dq σ ι H e a->D0 H n ->
  (∀x n' e' H' σ' ι' Z w',Q' x n' e' H'->Le σ ι H σ' ι' H'->St σ' ι' H' F W w'->Dq σ' ι' H' e' Z->D0 H' n'->n<=n'->Z.tmps.size=a.tmps.size->Z.defers=a.defers->D5 (D6 c) a Z->Q x.out Z w')->c.wp P Q a w
 | .skip,Q',n,e,H,σ,ι,a,w,Q,_,h,s,he,S,hk=>wp_skip (hk .normal n e H σ ι a w h (Le.refl _ _ _) s he S (Nat.le_refl _) rfl rfl (D5.refl _ _))
 | .exit id,Q',n,e,H,σ,ι,a,w,Q,_,h,s,he,S,hk=>wp_exit (hk (.exit id) n e H σ ι a w h (Le.refl _ _ _) s he S (Nat.le_refl _) rfl rfl (D5.refl _ _))
 | .ret,Q',n,e,H,σ,ι,a,w,Q,_,h,s,he,S,hk=>wp_ret (hk .ret n e H σ ι a w h (Le.refl _ _ _) s he S (Nat.le_refl _) rfl rfl (D5.refl _ _))
 | .region id ops draw,Q',n,e,H,σ,ι,a,w,Q,u,h,s,he,S,hk=>by
  simp only [vc] at h
  obtain ⟨σ0,e0,b3,h,ap,s0,az,ba⟩:=Af9 _ h s he S
  obtain ⟨n',e',H',accs,hK,_,bg,av,hf,aj⟩:=Aai hT ops.toList [] 0 n e0 b3 [] _ (by simp) rfl ba h
  have ar:=Aga u
  cases draw with
  | false=>
   simp only [cond_false] at hK
   refine wp_region ?_
   have:List.range ops.size=List.range' 0 ops.toList.length:=by rw [List.range_eq_range']; simp
   rw [this]
   refine aj.wpOps s0 az ar ?_
   intro σ' ι' Z w' le s' ao g l hu
   exact hk .normal n' e' H' σ' ι' Z w' hK (ap.trans le) s' ao hf av g l hu
  | true=>
   simp only [cond_true] at hK
   obtain ⟨b9,hK⟩:=hK
   refine wp_region_any hm ?_
   have L:ops=ops.toList.toArray:=by simp
   rw [L]
   simp only [List.size_toArray]
   refine Zz (accs:=accs) (e':=e') (H':=H') b9 ops.toList.length _ (List.range' 0 ops.toList.length) e0 b3 σ0 ι a _ (by rw [<-L]; exact aj) (List.pairwise_lt_range' ..) ?_ (by simp) ?_ (by simp) (s0.drew _) az (by rw [<-L]; exact ar) ?_
   .intro i
    simp only [List.mem_range'_1,Array.getD_eq_getD_getElem?]
    constructor
    .rintro ⟨_,h2⟩
     refine ⟨by omega,?_⟩
     have:i<ops.size:=by simpa using h2
     simp [this]
    .rintro ⟨h1,_⟩; omega
   .intro k o bf hl
    exfalso
    simp only [Array.getD_eq_getD_getElem?] at hl
    by_cases ah:k<ops.size
    .simp [ah] at hl
    .simp [ah] at hl
   .intro σ' ι' Z w' le s' ao g l hu
    exact hk .normal n' e' H' σ' ι' Z w' hK (ap.trans le) s' ao hf av g l (by rw [<-L] at hu; exact hu)
 | .seq c1 c2,Q',n,e,H,σ,ι,a,w,Q,u,h,s,he,S,hk=>by
  simp only [Hz,Bool.and_eq_true] at u
  simp only [vc] at h
  refine wp_seq (Nx hT hm c1 _ n e H σ ι a w _ u.1 h s he S ?_)
  intro x n1 L N D G a1 R hq f A j z B g l hu
  cases x with
  | normal=>
   refine Nx hT hm c2 Q' n1 L N D G a1 R Q (by rw [g]; exact u.2) hq A j z ?_
   intro x n2 e2 H2 σ2 ι2 a2 w2 b8 U s2 ae ag ac V X ab
   exact hk x n2 e2 H2 σ2 ι2 a2 w2 b8 (f.trans U) s2 ae ag (by omega) (V.trans g) (X.trans l) ((hu.mono (by simp [D6]; exact fun s h=>.inl h)).trans (ab.mono (by simp [D6]; exact fun s h=>.inr h)))
  | exit id=>exact hk (.exit id) n1 L N D G a1 R hq f A j z B g l (hu.mono (by simp [D6]; exact fun s h=>.inl h))
  | ret=>exact hk .ret n1 L N D G a1 R hq f A j z B g l (hu.mono (by simp [D6]; exact fun s h=>.inl h))
 | .cond x c1 c2,Q',n,e,H,σ,ι,a,w,Q,u,h,s,he,S,hk=>by
  simp only [Hz,Bool.and_eq_true] at u
  simp only [vc,Af5] at h
  split at h
  .rename_i t hx
   have hc:=he.eval (x:=x) (fun t ht=>by
    cases x with
    | tmp q=>cases ht; exact Fq u.1.1
    | _=>cases ht)
   rw [hx] at hc
   have hv:=hc.val_inv
   cases t with
   | true=>
    refine wp_cond_true hv (Nx hT hm c1 Q' n e H σ ι a w Q u.1.2 h s he S ?_)
    intro x n1 L N D G a1 R hq f A j z B g l hu
    exact hk x n1 L N D G a1 R hq f A j z B g l (hu.mono (by simp [D6]; exact fun s h=>.inl h))
   | false=>
    refine wp_cond_false hv (Nx hT hm c2 Q' n e H σ ι a w Q u.2 h s he S ?_)
    intro x n1 L N D G a1 R hq f A j z B g l hu
    exact hk x n1 L N D G a1 R hq f A j z B g l (hu.mono (by simp [D6]; exact fun s h=>.inr h))
  .exact h.elim
 | .block id c,Q',n,e,H,σ,ι,a,w,Q,u,h,s,he,S,hk=>by
  simp only [vc] at h
  refine wp_block (Nx hT hm c _ n e H σ ι a w _ u h s he S ?_)
  intro x n1 L N D G a1 R hq f A j z B g l hu
  cases x with
  | normal=>exact hk .normal n1 L N D G a1 R hq f A j z B g l hu
  | exit i=>
   simp only [Ex.out,Exit.inBlock]
   by_cases hi:i=id
   .subst hi
    rw [if_pos rfl]
    have:Nat.beq i i=true:=Nat.beq_refl i
    simp only [this,cond_true] at hq
    exact hk .normal n1 L N D G a1 R hq f A j z B g l hu
   .rw [if_neg hi]
    have:Nat.beq i id=false:=by
     cases hb:Nat.beq i id
     .rfl
     .exact (hi (Nat.eq_of_beq_eq_true hb)).elim
    simp only [this,cond_false] at hq
    exact hk (.exit i) n1 L N D G a1 R hq f A j z B g l hu
  | ret=>exact hk .ret n1 L N D G a1 R hq f A j z B g l hu
 | .loop c,Q',n,e,H,σ,ι,a,w,Q,u,h,s,he,S,hk=>by
  simp only [vc] at h
  obtain ⟨I,aq,iv,hv,m,i0,hb,h0,b6,bd,step⟩:=h
  have b4:∀x,n<=x->ι x = .none:=by
   intro x hx
   have:=s.obj x; unfold Ca at this; rw [S x hx] at this; exact this
  have am:∀i,∀p∈hv i,p.1<n:=by
   intro i p hp
   have:=hb i
   unfold Ix at this
   rw [Bool.and_eq_true,List.all_eq_true,List.all_eq_true] at this
   exact Fq (this.2 p hp)
  have ax:∀i,∀p∈iv i,p.2.under n=true:=by
   intro i p hp
   have:=hb i
   unfold Ix at this
   rw [Bool.and_eq_true,List.all_eq_true,List.all_eq_true] at this
   exact this.1 p hp
  have ai:∀i,D0 (B6 H (hv i)) n:=by
   intro i x hx
   rw [Py (fun p hp e=>by have:=am i p hp; omega)]; exact S x hx
  let J:Nat->Act->World->Prop:=fun k Z w'=>∃i σ' ι',m i=k/\aq i/\Le σ ι H σ' ι' (B6 H (hv i))/\St σ' ι' (B6 H (hv i)) F W w' /\
   Dq σ' ι' (B6 H (hv i)) (Ig (D6 c) e (fun s=>Z.tmps.getD s undef) (iv i)) Z/\Z.tmps.size=a.tmps.size/\Z.defers=a.defers/\D5 (D6 c) a Z
  have a6:∀(i:I) (D:Aw) (G:Bi) (N:Hp) (L:Bf) (a1:Act) (R:World),aq i->Fr L (iv i)->Fs N (B6 H (hv i)) n n->Le σ ι H D G N->St D G N F W R->Dq D G N L a1->a1.tmps.size=a.tmps.size ->
    a1.defers=a.defers->D5 (D6 c) a a1->J (m i) a1 R:=by
   intro i D G N L a1 R hi au ay f A j M Y a8
   let ι2:Bi:=fun x=>if x<n then G x else .none
   have a7:∀x,x<n->ι2 x=G x:=fun x hx=>if_pos hx
   have aa:∀x,x<n->B6 H (hv i) x=N x:=fun x hx=>((ay.spec) x hx).1.symm
   have U:Le σ ι H D ι2 (B6 H (hv i)):=by
    refine ⟨f.sto,fun x=>?_⟩
    by_cases hx:x<n
    .rw [a7 x hx,aa x hx]; exact f.obj x
    .rw [b4 x (by omega),S x (by omega)]; exact HLe.of_none
   have s2:St D ι2 (B6 H (hv i)) F W R:=by
    refine ⟨A.sto,A.fra,fun x=>?_,?_,A.os,A.tape,A.output,A.glo,A.drw⟩
    .by_cases hx:x<n
     .have ho:=A.obj x
      have ak:=((ay.spec) x hx).2
      unfold Ca at ho ⊢
      rw [aa x hx] at ak ⊢
      rw [a7 x hx]
      cases af:N x with
      | none=>rw [af] at ho; exact ho
      | dead=>trivial
      | cells E cs=>
       rw [af] at ho ak
       obtain ⟨b,Cc,g1,g2,g3,g4,g5,g6⟩:=ho
       refine ⟨b,Cc,g1,g2,g3,g4,g5,fun q cq v hq b5=>(g6 q cq v hq b5).restrict a7 aa ?_⟩
       have:=List.all_eq_true.1 ak cq (List.mem_of_getElem? hq)
       exact Aac this
      | rows E sz xs=>rw [af] at ho; exact ho
      | map es=>rw [af] at ho; exact ho
     .unfold Ca
      rw [ai i x (by omega)]
      exact if_neg hx
    .intro x y b lx ly bx b0
     have hx:x<n:=by
      rcases Nat.lt_or_ge x n with hx | hx
      .exact hx
      .rw [ai i x hx] at lx; cases lx
     have hy:y<n:=by
      rcases Nat.lt_or_ge y n with hy | hy
      .exact hy
      .rw [ai i y hy] at ly; cases ly
     rw [aa x hx] at lx; rw [aa y hy] at ly
     rw [a7 x hx] at bx; rw [a7 y hy] at b0
     exact A.inj x y b lx ly bx b0
   refine ⟨i,D,ι2,rfl,hi,U,s2,?_,M,Y,a8⟩
   intro q hq
   rcases Af8 (D6 c) e (fun s=>a1.tmps.getD s undef) (iv i) q with ⟨p,hp,rfl,ad⟩ | ⟨hw,ad⟩ | ⟨hw,ad⟩
   .rw [ad,<-au.spec p hp]
    refine (j p.1 hq).restrict a7 aa ?_
    rw [au.spec p hp]; exact ax i p hp
   .rw [ad]; exact .of_val _
   .rw [ad,a8 q hw]; exact (he q (by omega)).mono U
  refine Af7 J (m i0) (a6 i0 σ ι H e a w h0 b6 bd (Le.refl _ _ _) s he rfl rfl (D5.refl _ _)) ?_
  rintro k a1 R ⟨i,D,G,rfl,hi,f,A,j,M,Y,a8⟩
  refine Nx hT hm c _ n _ _ D G a1 R _ (by rw [M]; exact u) (step i (fun s=>a1.tmps.getD s undef) hi) A j (ai i) ?_
  intro x n2 e2 H2 σ2 ι2 a2 w2 hq U s2 ae ag ac V X ab
  cases x with
  | normal=>
   obtain ⟨i',bb,b7,be,ah⟩:=hq
   exact ⟨m i',ah,a6 i' σ2 ι2 H2 e2 a2 w2 bb b7 be (f.trans U) s2 ae (V.trans M) (X.trans Y) (a8.trans ab)⟩
  | exit id=>exact hk (.exit id) n2 e2 H2 σ2 ι2 a2 w2 hq (f.trans U) s2 ae ag ac (V.trans M) (X.trans Y) (a8.trans ab)
  | ret=>exact hk .ret n2 e2 H2 σ2 ι2 a2 w2 hq (f.trans U) s2 ae ag ac (V.trans M) (X.trans Y) (a8.trans ab)
 | .rangeFunc ..,_,_,_,_,_,_,_,_,_,_,h,_,_,_,_=>by simp only [vc] at h
 | .scope _,_,_,_,_,_,_,_,_,_,_,h,_,_,_,_=>by simp only [vc] at h
 | .label _,_,_,_,_,_,_,_,_,_,_,h,_,_,_,_=>by simp only [vc] at h
 | .goto _,_,_,_,_,_,_,_,_,_,_,h,_,_,_,_=>by simp only [vc] at h
 | .refuse _,_,_,_,_,_,_,_,_,_,_,h,_,_,_,_=>by simp only [vc] at h
end
end Go.Ab
namespace Go.Ab
def V7 (T:Cg) (e:Bf) (H:Hp):ResultVar->Option AV
 | .tmp t=>some (e t)
 | .cell a t=>
  match e a with
  | .loc h off=>
   match H h with
   | .cells _ cs=>
    match T t with
    | some i=>bif i.isAgg then (bif Nat.ble (off+i.size) cs.length then some (.agg ((cs.drop off).take i.size)) else none) else cs[off]?
    | none=>none
   | _=>none
  | _=>none
def V8 (x:AV) (H:Hp) (K:AV->Hp->Prop):Prop :=
 match x with
 | .arr h k 0 len=>
  match H h with
  | .rows _ sz xs=>Fb k xs (Fb len xs (K (.sl sz xs) (A3 H h .dead)))
  | _=>False
 | x=>K x H
def V9:List AV->Hp->(List AV->Hp->Prop)->Prop
 | [],H,K=>K [] H
 | x::xs,H,K=>V8 x H fun y H=>V9 xs H fun ys H=>K (y::ys) H
def fin (x:AV) (H:Hp) (K:AV->Hp->Prop):Prop :=
 match x with
 | .agg cs=>V9 cs H fun cs H=>K (.agg cs) H
 | x=>V8 x H K
def Wa:List AV->Hp->(List AV->Prop)->Prop
 | [],_,K=>K []
 | x::xs,H,K=>fin x H fun y H=>Wa xs H fun ys=>K (y::ys)
def P4 (T:Cg) (e:Bf) (H:Hp):List ResultVar->Option (List AV)
 | []=>some []
 | r::rs=>
  match V7 T e H r with
  | none=>none
  | some x=>
   match P4 T e H rs with
   | none=>none
   | some xs=>some (x::xs)
def Sd:List AV->AV
 | [x]=>x
 | xs=>.tup xs
def Ny (T:Cg) (b:List ResultVar) (K:AV->Prop) (e:Bf) (H:Hp):Prop :=
 match P4 T e H b with
 | none=>False
 | some xs=>Wa xs H fun ys=>K (Sd ys)
def P5 (args:List AV):Bf:=fun n=>args.getD n (.val undef)
def Nz:ResultVar->Nat
 | .tmp t=>t
 | .cell a _=>a
def P6 (fn:Func) (c:Code) (k:Nat):Bool:=Hz fn.ntmps c&&(fn.results.toList.all fun r=>Nat.blt (Nz r) fn.ntmps)&&Nat.ble k fn.ntmps
section
variable {P:Program} {T:Cg} {F:Aw} {W w:World}
theorem Agb {x:AV} {H:Hp} {K:AV->Hp->Prop} {σ:Aw} {ι:Bi} {v:Value} (h:V8 x H K) (s:St σ ι H F W w) (hc:Conc σ ι H x v) :
  ∃b y H',K y H'/\Le σ ι H b ι H'/\St b ι H' F W w/\Conc b ι H' y v:=by
 unfold V8 at h
 split at h
 .rename_i hd k len
  split at h
  .rename_i E sz xs g
   obtain ⟨hk,l,h⟩:=h
   obtain ⟨i,c,j,f⟩:=s.freeze g
   refine ⟨i,.sl sz xs,A3 H hd .dead,h,c,j,.cc ?_⟩
   have:=f 0 len _ (by omega) (hc.arr_inv g hk)
   rwa [List.drop_zero,List.take_of_length_le (by omega)] at this
  .exact h.elim
 .exact ⟨σ,_,H,h,Le.refl _ _ _,s,hc⟩
theorem Agc:∀{cs:List AV} {vs:List Value} {H:Hp} {K:List AV->Hp->Prop} {σ:Aw} {ι:Bi},V9 cs H K->St σ ι H F W w->vs.length=cs.length->(∀(i:Nat) (c:AV) (v:Value),cs[i]? = some c->vs[i]? = some v->Conc σ ι H c v) ->
  ∃j ys H',K ys H'/\Le σ ι H j ι H'/\St j ι H' F W w/\vs.length=ys.length/\∀(i:Nat) (c:AV) (v:Value),ys[i]? = some c->vs[i]? = some v->Conc j ι H' c v
 | [],vs,H,K,σ,ι,h,s,g,hc=>⟨σ,[],H,h,Le.refl _ _ _,s,g,hc⟩
 | x::cs,[],H,K,σ,ι,h,s,g,hc=>by simp at g
 | x::cs,v::vs,H,K,σ,ι,h,s,g,hc=>by
  simp only [V9] at h
  obtain ⟨E,y,G,h1,f,z,B⟩:=Agb h s (hc 0 x v (by simp) (by simp))
  obtain ⟨l,ys,D,h2,b,q,k,A⟩:=Agc (vs:=vs) h1 z (by simpa using g) (fun i c u hi hu=>(hc (i+1) c u (by simpa using hi) (by simpa using hu)).mono f)
  refine ⟨l,y::ys,D,h2,f.trans b,q,by simp [k],fun i c u hi hu=>?_⟩
  cases i with
  | zero=>simp at hi hu; subst hi; subst hu; exact B.mono b
  | succ i=>exact A i c u (by simpa using hi) (by simpa using hu)
theorem Agd {x:AV} {H:Hp} {K:AV->Hp->Prop} {σ:Aw} {ι:Bi} {v:Value} (h:fin x H K) (s:St σ ι H F W w) (hc:Conc σ ι H x v) :
  ∃b y H',K y H'/\Le σ ι H b ι H'/\St b ι H' F W w/\Conc b ι H' y v:=by
 unfold fin at h
 split at h
 .rename_i cs
  obtain ⟨vs,rfl,q,l⟩:=hc.agg_inv
  obtain ⟨j,ys,A,h1,f,k,g,z⟩:=Agc (vs:=vs.toList) h s (by simpa using q) (fun i c u hi hu=>l i c u hi (by simpa using hu))
  exact ⟨j,.agg ys,A,h1,f,k,.agg ys vs (by simpa using g) (fun i c u hi hu=>z i c u hi (by simpa using hu))⟩
 .exact Agb h s hc
theorem Age:∀{xs:List AV} {vs:List Value} {H:Hp} {K:List AV->Prop} {σ:Aw} {ι:Bi},Wa xs H K->St σ ι H F W w->vs.length=xs.length->(∀(i:Nat) (c:AV) (v:Value),xs[i]? = some c->vs[i]? = some v->Conc σ ι H c v) ->
  ∃j ys H',K ys/\Le σ ι H j ι H'/\St j ι H' F W w/\vs.length=ys.length/\∀(i:Nat) (c:AV) (v:Value),ys[i]? = some c->vs[i]? = some v->Conc j ι H' c v
 | [],vs,H,K,σ,ι,h,s,g,hc=>⟨σ,[],H,h,Le.refl _ _ _,s,g,hc⟩
 | x::cs,[],H,K,σ,ι,h,s,g,hc=>by simp at g
 | x::cs,v::vs,H,K,σ,ι,h,s,g,hc=>by
  simp only [Wa] at h
  obtain ⟨E,y,G,h1,f,z,B⟩:=Agd h s (hc 0 x v (by simp) (by simp))
  obtain ⟨l,ys,D,h2,b,q,k,A⟩:=Age (vs:=vs) h1 z (by simpa using g) (fun i c u hi hu=>(hc (i+1) c u (by simpa using hi) (by simpa using hu)).mono f)
  refine ⟨l,y::ys,D,h2,f.trans b,q,by simp [k],fun i c u hi hu=>?_⟩
  cases i with
  | zero=>simp at hi hu; subst hi; subst hu; exact B.mono b
  | succ i=>exact A i c u (by simpa using hi) (by simpa using hu)
def N0 (b:Array Value):ResultVar->Sem Value
 | .tmp t=>pure (b.getD t undef)
 | .cell a t=>do loadVar t (<-asAddr (b.getD a undef))
theorem Aqd (A:Ch P T) {e:Bf} {H:Hp} {σ:Aw} {ι:Bi} {a:Act} (s:St σ ι H F W w) (he:Dq σ ι H e a) {r:ResultVar} {x:AV} (hs:Nz r<a.tmps.size) (h:V7 T e H r=some x) :
  ∃v,(N0 a.tmps r).run P w = .ok v w/\Conc σ ι H x v:=by
 cases r with
 | tmp t=>
  simp only [V7] at h; cases h
  exact ⟨_,rfl,he t hs⟩
 | cell p t=>
  simp only [V7] at h
  split at h
  .rename_i hd off hx
   split at h
   .rename_i E cs I
    split at h
    .rename_i i ht
     have hc:=he p hs
     rw [hx] at hc
     obtain ⟨b,hb,z⟩:=hc.loc_inv
     have k:=s.obj hd
     unfold Ca at k; rw [I] at k
     obtain ⟨J,C,G,_,_,h3,h4,D⟩:=k
     rw [hb] at G; cases G
     have h1:=U7 (A t i ht) w
     cases y:i.isAgg with
     | true=>
      rw [y] at h h1
      simp only [cond_true] at h
      cases g:Nat.ble (off+i.size) cs.length with
      | false=>rw [g] at h; cases h
      | true=>
       rw [g] at h; cases h
       have g:=Nat.le_of_ble_eq_true g
       have h2:=Jt (A t i ht) w
       have B:=run_loadCells_list (P:=P) w ⟨b,off,none⟩ ((C.toList.drop off).take i.size) (by
        intro j v hj
        have f:j<i.size:=by
         have:=(List.getElem?_eq_some_iff.1 hj).1; simp at this; omega
        rw [List.getElem?_take_of_lt f,List.getElem?_drop,Array.getElem?_toList] at hj
        rw [Hu,Hi h3]; exact hj)
       have q:((C.toList.drop off).take i.size).length=i.size:=by simp; omega
       rw [q] at B
       refine ⟨_,by simp only [N0,z,asAddr,Sem.run_bind,Sem.run_pure,Result.andThen_ok,loadVar,h1,if_true,h2,B]; rfl,?_⟩
       refine .agg _ _ (by simp; omega) (fun j c u g1 g2=>?_)
       have f:j<i.size:=by
        have:=(List.getElem?_eq_some_iff.1 g1).1; simp at this; omega
       rw [List.getElem?_take_of_lt f,List.getElem?_drop] at g1
       rw [List.getElem?_toArray,List.getElem?_take_of_lt f,List.getElem?_drop,Array.getElem?_toList] at g2
       exact D _ c u g1 g2
     | false=>
      rw [y] at h h1
      simp only [cond_false] at h
      have f:off<C.size:=by rw [h4]; exact (List.getElem?_eq_some_iff.1 h).1
      have l:w.cell? ⟨b,off,none⟩=some C[off]:=by rw [Hi h3]; simp [f]
      exact ⟨C[off],by simp [N0,z,asAddr,loadVar,h1,l],D off x _ h (by simp [f])⟩
    .cases h
   .cases h
  .cases h
theorem Aaj (g:Ch P T) {e:Bf} {H:Hp} {σ:Aw} {ι:Bi} {a:Act} (s:St σ ι H F W w) (he:Dq σ ι H e a):∀{b:List ResultVar} {xs:List AV},(∀r∈b,Nz r<a.tmps.size)->P4 T e H b=some xs ->
  ∃vs:List Value,(b.mapM (N0 a.tmps)).run P w = .ok vs w/\vs.length=xs.length/\∀(i:Nat) (c:AV) (v:Value),xs[i]? = some c->vs[i]? = some v->Conc σ ι H c v
 | [],xs,_,h=>by
  simp only [P4] at h; cases h
  exact ⟨[],by simp,rfl,by simp⟩
 | r::b,xs,hs,h=>by
  simp only [P4] at h
  split at h
  .cases h
  .rename_i x hx
   split at h
   .cases h
   .rename_i ys hy
    cases h
    obtain ⟨v,h1,q⟩:=Aqd g s he (hs r (by simp)) hx
    obtain ⟨vs,h2,k,l⟩:=Aaj g s he (fun j f=>hs j (by simp [f])) hy
    refine ⟨v::vs,by simp [List.mapM_cons,h1,h2],by simp [k],fun i c u hi hu=>?_⟩
    cases i with
    | zero=>simp at hi hu; subst hi; subst hu; exact q
    | succ i=>exact l i c u (by simpa using hi) (by simpa using hu)
theorem Agf (fn:Func) (b:Array Value):results fn b=(fn.results.mapM (N0 b) >>= fun vs=>pure (if h:vs.size=1 then vs[0] else .tuple vs)):=by
 unfold results
 congr 1
theorem Aqe (x:Ch P T) {fn:Func} {K:AV->Prop} {e:Bf} {H:Hp} {σ:Aw} {ι:Bi} {a:Act} (s:St σ ι H F W w) (he:Dq σ ι H e a) (hs:∀r∈fn.results.toList,Nz r<a.tmps.size) (h:Ny T fn.results.toList K e H) :
  ∃v f H' r,(results fn a.tmps).run P w = .ok v w/\K r/\Le σ ι H f ι H'/\St f ι H' F W w/\Conc f ι H' r v:=by
 unfold Ny at h
 split at h
 .exact h.elim
 .rename_i xs hx
  obtain ⟨vs,h1,q,z⟩:=Aaj x s he hs hx
  obtain ⟨f,ys,H',k,le,s',b,j⟩:=Age h s q z
  have g:(fn.results.mapM (N0 a.tmps)).run P w = .ok vs.toArray w:=by
   rw [Array.mapM_eq_mapM_toList]
   simp [h1]
  refine ⟨if h:vs.toArray.size=1 then vs.toArray[0] else .tuple vs.toArray,f,H',Sd ys,?_,k,le,s',?_⟩
  .rw [Agf,Sem.run_bind,g]; rfl
  .match ys,vs,b,j with
   | [y],[v],_,j=>exact j 0 y v rfl rfl
   | [],[],_,_=>exact .tup [] #[] rfl (by simp)
   | y::A::ys,v::l::vs,b,j=>
    have:¬(v::l::vs).toArray.size=1:=by simp
    rw [dif_neg this]
    exact .tup _ _ (by simpa using b) (fun i c u hi hu=>j i c u hi (by simpa using hu))
   | [],_::_,b,_=>simp at b
   | _::_,[],b,_=>simp at b
   | [_],_::_::_,b,_=>simp at b
   | _::_::_,[_],b,_=>simp at b
theorem St.forget {σ:Aw} {ι:Bi} {H:Hp} (s:St σ ι H F W w):St σ ι0 H0 F W w :=
 ⟨s.sto,s.fra,fun _=>rfl,(fun _ _ _ b=>by cases b),s.os,s.tape,s.output,s.glo,s.drw⟩
theorem Agg {σ:Aw} {ι:Bi} {H:Hp} {args:List AV} {vs:Array Value} {N:Nat} (h:Ju σ ι H args vs):Dq σ ι H (P5 args) ⟨vs++Array.replicate (N-vs.size) undef,[]⟩:=by
 intro q hq
 simp only [P5,Array.getD_eq_getD_getElem?]
 by_cases b:q<args.length
 .have hq':q<vs.size:=by rw [h.1]; exact b
  rw [Array.getElem?_append_left hq']
  have h1:args[q]? = some args[q]:=List.getElem?_eq_getElem b
  have h2:vs[q]? = some vs[q]:=Array.getElem?_eq_getElem hq'
  have:=h.2 q _ _ h1 h2
  simpa [List.getD,h1,h2] using this
 .rw [Array.getElem?_append_right (by rw [h.1]; omega)]
  have h1:args[q]? = none:=List.getElem?_eq_none (by omega)
  have hq':q-vs.size<N-vs.size:=by
   simp at hq
   have:=h.1
   omega
  simp only [List.getD,h1,Option.getD_none]
  simp [hq']
  exact .of_val undef
end
end Go.Ab
namespace Go.Ab
inductive Tr where
 | leaf
 | node (l:Tr) (k:Nat) (v:TI) (r:Tr)
def Tr.find:Tr->Nat->Option TI
 | .leaf,_=>none
 | .node l k v r,t=>bif Nat.beq t k then some v else bif Nat.blt t k then l.find t else r.find t
def Tr.toList:Tr->List (Nat×TI)
 | .leaf=>[]
 | .node l k v r=>l.toList++(k,v)::r.toList
theorem Tr.find_mem:∀(t:Tr) (k:Nat) (v:TI),t.find k=some v->(k,v)∈t.toList
 | .leaf,k,v,h=>by cases h
 | .node l b f r,k,v,h=>by
  simp only [Tr.find] at h
  simp only [Tr.toList,List.mem_append,List.mem_cons]
  cases hb:Nat.beq k b with
  | true=>
   rw [hb] at h; simp only [cond_true] at h; cases h
   rw [Nat.eq_of_beq_eq_true hb]
   exact .inr (.inl rfl)
  | false=>
   rw [hb] at h; simp only [cond_false] at h
   cases c:Nat.blt k b with
   | true=>rw [c] at h; exact .inl (Tr.find_mem l k v h)
   | false=>rw [c] at h; exact .inr (.inr (Tr.find_mem r k v h))
theorem Tr.ok {P:Program} {t:Tr} (h:t.toList.map (fun p=>F7 P p.1)=t.toList.map (fun p=>some p.2)):Ch P t.find:=by
 intro k v hk
 have b:=t.find_mem k v hk
 obtain ⟨i,hi⟩:=List.getElem?_of_mem b
 have:=congrArg (fun l=>l[i]?) h
 simpa [hi] using this
end Go.Ab
namespace Go.Ab
def Wb:List AV->Hp->(List AV->Hp->Prop)->Prop
 | [],H,K=>K [] H
 | x::xs,H,K=>fin x H fun y H=>Wb xs H fun ys H=>K (y::ys) H
def Mb (H:Hp):Nat->List Bc->Prop
 | _,[]=>True
 | k,o::os=>H k=o/\Mb H (k+1) os
def N1 (T:Cg) (fz:Bool) (b:List ResultVar) (r:AV) (hs:List Bc) (e:Bf) (H:Hp):Prop :=
 match P4 T e H b with
 | none=>False
 | some xs=>bif fz then Wb xs H fun ys H=>Sd ys=r/\Mb H 0 hs else Sd xs=r/\Mb H 0 hs
section
variable {P:Program} {T:Cg} {F:Aw} {W w:World}
theorem Mb.spec {H:Hp}:∀{os:List Bc} {k:Nat},Mb H k os->∀i,i<os.length->H (k+i)=hp os i
 | [],k,_,i,hi=>by simp at hi
 | o::os,k,h,0,_=>by simpa [hp] using h.1
 | o::os,k,h,i+1,hi=>by
  have:=Mb.spec h.2 i (by simpa using hi)
  rw [show k+(i+1)=k+1+i by omega,this]
  simp [hp]
theorem Agh:∀{xs:List AV} {vs:List Value} {H:Hp} {K:List AV->Hp->Prop} {σ:Aw} {ι:Bi},Wb xs H K->St σ ι H F W w->vs.length=xs.length->(∀(i:Nat) (c:AV) (v:Value),xs[i]? = some c->vs[i]? = some v->Conc σ ι H c v) ->
  ∃j ys H',K ys H'/\Le σ ι H j ι H'/\St j ι H' F W w/\vs.length=ys.length/\∀(i:Nat) (c:AV) (v:Value),ys[i]? = some c->vs[i]? = some v->Conc j ι H' c v
 | [],vs,H,K,σ,ι,h,s,g,hc=>⟨σ,[],H,h,Le.refl _ _ _,s,g,hc⟩
 | x::cs,[],H,K,σ,ι,h,s,g,hc=>by simp at g
 | x::cs,v::vs,H,K,σ,ι,h,s,g,hc=>by
  simp only [Wb] at h
  obtain ⟨E,y,G,h1,f,z,B⟩:=Agd h s (hc 0 x v (by simp) (by simp))
  obtain ⟨l,ys,D,h2,b,q,k,A⟩:=Agh (vs:=vs) h1 z (by simpa using g) (fun i c u hi hu=>(hc (i+1) c u (by simpa using hi) (by simpa using hu)).mono f)
  refine ⟨l,y::ys,D,h2,f.trans b,q,by simp [k],fun i c u hi hu=>?_⟩
  cases i with
  | zero=>simp at hi hu; subst hi; subst hu; exact B.mono b
  | succ i=>exact A i c u (by simpa using hi) (by simpa using hu)
theorem Aqf (A:Ch P T) {fn:Func} {fz:Bool} {r:AV} {hs:List Bc} {e:Bf} {H:Hp} {σ:Aw} {ι:Bi} {a:Act} (s:St σ ι H F W w) (he:Dq σ ι H e a) (l:∀r∈fn.results.toList,Nz r<a.tmps.size)
  (h:N1 T fz fn.results.toList r hs e H):∃v f H',(results fn a.tmps).run P w = .ok v w/\Mb H' 0 hs/\Le σ ι H f ι H'/\St f ι H' F W w/\Conc f ι H' r v:=by
 unfold N1 at h
 split at h
 .exact h.elim
 .rename_i xs hx
  obtain ⟨vs,h1,q,x⟩:=Aaj A s he l hx
  have key:∃f ys H',(Sd ys=r/\Mb H' 0 hs)/\Le σ ι H f ι H'/\St f ι H' F W w/\vs.length=ys.length/\∀(i:Nat) (c:AV) (v:Value),ys[i]? = some c->vs[i]? = some v->Conc f ι H' c v:=by
   cases fz with
   | true=>exact Agh h s q x
   | false=>exact ⟨σ,xs,H,h,Le.refl _ _ _,s,q,x⟩
  obtain ⟨f,ys,H',⟨rfl,k⟩,le,s',b,j⟩:=key
  have g:(fn.results.mapM (N0 a.tmps)).run P w = .ok vs.toArray w:=by
   rw [Array.mapM_eq_mapM_toList]
   simp [h1]
  refine ⟨if h:vs.toArray.size=1 then vs.toArray[0] else .tuple vs.toArray,f,H',?_,k,le,s',?_⟩
  .rw [Agf,Sem.run_bind,g]; rfl
  .match ys,vs,b,j with
   | [y],[v],_,j=>exact j 0 y v rfl rfl
   | [],[],_,_=>exact .tup [] #[] rfl (by simp)
   | y::B::ys,v::z::vs,b,j=>
    have:¬(v::z::vs).toArray.size=1:=by simp
    rw [dif_neg this]
    exact .tup _ _ (by simpa using b) (fun i c u hi hu=>j i c u hi (by simpa using hu))
   | [],_::_,b,_=>simp at b
   | _::_,[],b,_=>simp at b
   | [_],_::_::_,b,_=>simp at b
   | _::_::_,[_],b,_=>simp at b
theorem St.first {σ:Aw} {ι:Bi} {H:Hp} (s:St σ ι H F W w) (hs:List Bc) (hk:∀i,i<hs.length->H i=hp hs i) (hu:hs.all (Bc.under hs.length)=true) :
  St σ (fun k=>if k<hs.length then ι k else .none) (hp hs) F W w:=by
 have A:∀h,h<hs.length->(fun k=>if k<hs.length then ι k else Loc.none) h=ι h:=fun h g=>if_pos g
 have q:∀h,h<hs.length->hp hs h=H h:=fun h g=>(hk h g).symm
 have lt:∀k,(hp hs k).live=true->k<hs.length:=by
  intro k h
  rcases Nat.lt_or_ge k hs.length with h' | h'
  .exact h'
  .rw [L8 h'] at h; cases h
 refine ⟨s.sto,s.fra,fun k=>?_,fun k l b h1 h2 h3 h4=>?_,s.os,s.tape,s.output,s.glo,s.drw⟩
 .by_cases g:k<hs.length
  .have f:=s.obj k
   have j:=List.all_eq_true.1 hu _ (List.mem_of_getElem? (Sb g))
   unfold Ca at f ⊢
   rw [hk k g] at f
   dsimp only
   rw [if_pos g]
   cases hx:hp hs k with
   | none=>rw [hx] at f; exact f
   | dead=>trivial
   | rows E sz xs=>rw [hx] at f; exact f
   | map es=>rw [hx] at f; exact f
   | cells E cs=>
    rw [hx] at f j
    obtain ⟨b,C,D,h1,h2,h3,h4,B⟩:=f
    refine ⟨b,C,D,h1,h2,h3,h4,fun i c v x y=>?_⟩
    have hc:=List.all_eq_true.1 j c (List.mem_of_getElem? x)
    refine (B i c v x y).restrict (n:=hs.length) A q ?_
    exact Aac hc
  .unfold Ca
   rw [L8 (by omega)]
   exact if_neg g
 .have z:=lt k h1
  have u:=lt l h2
  rw [if_pos z] at h3
  rw [if_pos u] at h4
  rw [q k z] at h1
  rw [q l u] at h2
  exact s.inj k l b h1 h2 h3 h4
def Aak (hs:List Bc) (r:AV) (b:List Bc):Bool:=Nat.ble hs.length b.length&&r.under b.length&&b.all (Bc.under b.length)
def Sub (x y:AV):Prop:=∀(σ:Aw) (ι:Bi) (H:Hp) (v:Value),Conc σ ι H x v->Conc σ ι H y v
theorem Sub.refl (x:AV):Sub x x:=fun _ _ _ _ h=>h
theorem Sub.nil (sz:Nat):Sub (.val (.slice none 0 0)) (.sl sz []):=fun _ _ _ _ h=>V3 rfl h
def Mc:List AV->List AV->Prop
 | [],[]=>True
 | x::xs,y::ys=>Sub x y/\Mc xs ys
 | _,_=>False
theorem Mc.spec:∀{xs ys:List AV},Mc xs ys->xs.length=ys.length/\∀(i:Nat) (y:AV),ys[i]? = some y->∃x,xs[i]? = some x/\Sub x y
 | [],[],_=>⟨rfl,by simp⟩
 | [],_::_,h=>h.elim
 | _::_,[],h=>h.elim
 | x::xs,y::ys,h=>by
  obtain ⟨h1,h2⟩:=Mc.spec h.2
  refine ⟨by simp [h1],fun i z b=>?_⟩
  cases i with
  | zero=>simp at b; subst b; exact ⟨x,rfl,h.1⟩
  | succ i=>simpa using h2 i z (by simpa using b)
theorem Sub.agg {xs ys:List AV} (h:Mc xs ys):Sub (.agg xs) (.agg ys):=by
 intro σ ι H v hc
 obtain ⟨vs,rfl,f,b⟩:=hc.agg_inv
 obtain ⟨h1,h2⟩:=h.spec
 refine .agg _ vs (by rw [<-h1]; exact f) fun i c u h3 h4=>?_
 obtain ⟨x,j,g⟩:=h2 i c h3
 exact g _ _ _ _ (b i x u j h4)
theorem Aq.sub {f:FuncId} {args b:List AV} {r j:AV} (h:Aq P f b r) (ha:Mc args b) (l:Sub r j):Aq P f args j:=by
 refine ⟨h.1,fun σ F W w vs s hc=>?_⟩
 obtain ⟨h1,h2⟩:=ha.spec
 refine (h.2 σ F W w vs s ⟨by rw [<-h1]; exact hc.1,fun i a v h3 h4=>?_⟩).mono ?_
 .obtain ⟨x,g,c⟩:=h2 i a h3
  exact c _ _ _ _ (hc.2 i x v g h4)
 .rintro e w' ⟨v,k,h3,h4,g,c⟩
  exact ⟨v,k,h3,h4,g,l _ _ _ _ c⟩
theorem Bq.sub {f:FuncId} {args b:List AV} {hs c:List Bc} {r:AV} (h:Bq P f b hs r c) (ha:Mc args b):Bq P f args hs r c:=by
 refine ⟨h.1,fun σ F W w ι vs s hc=>?_⟩
 obtain ⟨h1,h2⟩:=ha.spec
 refine h.2 σ F W w ι vs s ⟨by rw [<-h1]; exact hc.1,fun i a v h3 h4=>?_⟩
 obtain ⟨x,j,g⟩:=h2 i a h3
 exact g _ _ _ _ (hc.2 i x v j h4)
end
end Go.Ab
namespace Go.Ab
inductive D3 (K:Prop):Prop where
 | mk (k:K)
def opK (P:Program) (T:Cg) (an:Nat->Ann) (nl:Nat->List (Nat×Nat)) (o:Oper) (n:Nat) (e:Bf) (H:Hp) (acc:Gp) (K:Nat->Bf->Hp->Gp->Prop):Prop :=
 Dj P T an n o (ev e) H fun b m=>Iw (Ja (Jy nl o.dst) b.r) fun r=>Ks b.wr fun wr=>G5 b.rd fun f=>G5 wr fun c=>Hx e o.dst r H wr fun e H=>D3 (K m e H (acc++[(f,c)]))
def Se (o:Oper) (n:Nat) (e:Bf) (H:Hp) (acc:Gp) (K:Nat->Bf->Hp->Gp->Prop):Prop :=
 Hx e o.dst (.val undef) H [] fun e H=>D3 (K n e H (acc++[([],[])]))
def Dv (P:Program) (T:Cg) (an:Nat->Ann) (nl:Nat->List (Nat×Nat)) (ops:Array Oper):List Oper->Nat->Bf->Hp->Gp->(Nat->Bf->Hp->Gp->Prop)->Prop
 | [],n,e,H,acc,K=>K n e H acc
 | o::os,n,e,H,acc,K=>
  match o.guard with
  | none=>opK P T an nl o n e H acc fun n e H acc=>Dv P T an nl ops os n e H acc K
  | some p=>
   match (ops[p.1]?).bind (·.dst) with
   | none=>False
   | some s=>
    match e s with
    | .val v=>bif Ns v==some p.2 then opK P T an nl o n e H acc fun n e H acc=>Dv P T an nl ops os n e H acc K
     else Se o n e H acc fun n e H acc=>Dv P T an nl ops os n e H acc K
    | _=>False
section
variable {P:Program} {T:Cg} {an:Nat->Ann} {nl:Nat->List (Nat×Nat)} {ops:Array Oper}
theorem Aal (E:Ch P T):∀(os:List Oper) (i n:Nat) (e:Bf) (H:Hp) (acc:Gp) (K:Nat->Bf->Hp->Gp->Prop),ops.toList.drop i=os->acc.length=i->D0 H n->Dv P T an nl ops os n e H acc K ->
  ∃b e' H' accs,K b e' H' accs/\accs.take i=acc/\accs.length=i+os.length/\n<=b/\D0 H' b/\Run P ops (fun k=>accs.getD k ([],[])) (List.range' i os.length) e H e' H'
 | [],i,n,e,H,acc,K,hd,g,x,h=>⟨n,e,H,acc,h,by rw [<-g]; simp,by simpa using g,Nat.le_refl _,x,.nil e H⟩
 | o::os,i,n,e,H,acc,K,hd,g,x,h=>by
  have I:ops[i]? = some o:=by
   have:=congrArg (fun l=>l[0]?) hd
   simpa using this
  have q:ops.toList.drop (i+1)=os:=by
   have:=congrArg (List.drop 1) hd
   simpa [List.drop_drop] using this
  have run:Gn ops o e true->(opK P T an nl o n e H acc fun n e H acc=>Dv P T an nl ops os n e H acc K) ->
    ∃b e' H' accs,K b e' H' accs/\accs.take i=acc/\accs.length=i+(o::os).length/\n<=b/\D0 H' b/\Run P ops (fun k=>accs.getD k ([],[])) (List.range' i (o::os).length) e H e' H':=by
   intro B hs
   obtain ⟨c,m,h1,h2,h3,h4,M⟩:=Af4 E x hs
   simp only [P1,Z7,Z8,V4] at h3
   obtain ⟨b,e',H',accs,A,u,L,J,z,y⟩:=Aal E os (i+1) m _ _ _ K q (by simp [g]) M h3.1
   have D:accs[i]? = some (c.rd.map (·.1),c.wr.map (·.1)):=by
    have N:(accs.take (i+1))[i]? = accs[i]?:=List.getElem?_take_of_lt (by omega)
    rw [<-N,u,List.getElem?_append_right (by omega)]
    simp [g]
   have j:accs.getD i ([],[])=(c.rd.map (·.1),c.wr.map (·.1)):=by simp [List.getD,D]
   refine ⟨b,e',H',accs,A,?_,by simp only [List.length_cons]; omega,by omega,z,?_⟩
   .have:=congrArg (List.take i) u
    rw [List.take_take] at this
    simpa [g] using this
   .rw [List.length_cons,List.range'_succ]
    refine .cons o (Ja (Jy nl o.dst) c.r) c.wr ⟨I,.inl ⟨B,_,h1.nils (Jy nl o.dst),h2,?_,?_,rfl,rfl⟩⟩ y
    .intro p hp; show p.1∈(accs.getD i ([],[])).1; rw [j]; exact List.mem_map_of_mem hp
    .intro p hp; show p.1∈(accs.getD i ([],[])).2; rw [j]; exact List.mem_map_of_mem hp
  have skip:Gn ops o e false->(Se o n e H acc fun n e H acc=>Dv P T an nl ops os n e H acc K) ->
    ∃b e' H' accs,K b e' H' accs/\accs.take i=acc/\accs.length=i+(o::os).length/\n<=b/\D0 H' b/\Run P ops (fun k=>accs.getD k ([],[])) (List.range' i (o::os).length) e H e' H':=by
   intro B hs
   unfold Se at hs
   rw [V4] at hs
   obtain ⟨b,e',H',accs,A,u,L,J,z,y⟩:=Aal E os (i+1) n _ _ _ K q (by simp [g]) x hs.1
   refine ⟨b,e',H',accs,A,?_,by simp only [List.length_cons]; omega,by omega,z,?_⟩
   .have:=congrArg (List.take i) u
    rw [List.take_take] at this
    simpa [g] using this
   .rw [List.length_cons,List.range'_succ]
    exact .cons o (.val undef) [] ⟨I,.inr ⟨B,rfl,rfl⟩⟩ y
  simp only [Dv] at h
  cases f:o.guard with
  | none=>
   rw [f] at h
   exact run (by unfold Gn; rw [f]) h
  | some p=>
   rw [f] at h
   simp only [] at h
   cases hs:(ops[p.1]?).bind (·.dst) with
   | none=>rw [hs] at h; exact h.elim
   | some s=>
    rw [hs] at h
    simp only [] at h
    split at h
    .rename_i v G
     cases hb:Ns v==some p.2 with
     | true=>rw [hb] at h; exact run (by unfold Gn; rw [f]; exact ⟨s,v,hs,G,hb.symm⟩) h
     | false=>rw [hb] at h; exact skip (by unfold Gn; rw [f]; exact ⟨s,v,hs,G,hb.symm⟩) h
    .exact h.elim
variable {o:Oper} {os:List Oper} {n:Nat} {e:Bf} {H:Hp} {acc:Gp} {K:Nat->Bf->Hp->Gp->Prop} {β:Type} {r:β}
theorem nx (k:opK P T an nl o n e H acc fun n e H acc=>Dv P T an nl ops os n e H acc K) (b:o.guard=none:=by exact rfl):D3 (Dv P T an nl ops (o::os) n e H acc K):=.mk (by simp only [Dv,b]; exact k)
theorem J0 (k:K n e H acc):D3 (Dv P T an nl ops [] n e H acc K):=.mk k
theorem Aqg (p:Nat×Bool) (s:Nat) (k:opK P T an nl o n e H acc fun n e H acc=>Dv P T an nl ops os n e H acc K) (b:o.guard=some p:=by exact rfl) (hs:(ops[p.1]?).bind (·.dst)=some s:=by exact rfl) (hb:e s = .val (.bool p.2):=by exact rfl):D3 (Dv P T an nl ops (o::os) n e H acc K) :=
 .mk (by simp only [Dv,b,hs,hb,Ns,BEq.rfl,cond_true]; exact k)
theorem Aqh (p:Nat×Bool) (s:Nat) (v:Value) (k:Se o n e H acc fun n e H acc=>Dv P T an nl ops os n e H acc K) (c:o.guard=some p:=by exact rfl) (hs:(ops[p.1]?).bind (·.dst)=some s:=by exact rfl) (hb:e s = .val v:=by exact rfl) (b:(Ns v==some p.2)=false:=by exact rfl):D3 (Dv P T an nl ops (o::os) n e H acc K) :=
 .mk (by simp only [Dv,c,hs,hb,b,cond_false]; exact k)
theorem Md {p:Nat×Bool} {s:Nat} (k:opK P T an nl o n e H acc fun n e H acc=>Dv P T an nl ops os n e H acc K) (b:o.guard=some p:=by exact rfl) (hs:(ops[p.1]?).bind (·.dst)=some s:=by exact rfl) (hb:e s = .val (.bool p.2):=by exact rfl):D3 (Dv P T an nl ops (o::os) n e H acc K):=Aqg p s k b hs hb
theorem Me {p:Nat×Bool} {s:Nat} {v:Value} (k:Se o n e H acc fun n e H acc=>Dv P T an nl ops os n e H acc K) (c:o.guard=some p:=by exact rfl) (hs:(ops[p.1]?).bind (·.dst)=some s:=by exact rfl) (hb:e s = .val v:=by exact rfl) (b:(Ns v==some p.2)=false:=by exact rfl):D3 (Dv P T an nl ops (o::os) n e H acc K):=Aqh p s v k c hs hb b
theorem Aqi {s:Nat} {b:Bool} {m c:Option β} {X:List Oper} (h:(bif b then m else c)=some r) (h1:b=true->m=some r->D3 (Dv P T an nl ops X n (A3 e s (.val (.bool true))) H acc K))
  (h2:b=false->c=some r->D3 (Dv P T an nl ops X n (A3 e s (.val (.bool false))) H acc K)) (hb:e s = .val (.bool b):=by exact rfl):D3 (Dv P T an nl ops X n e H acc K):=by
 cases b with
 | true=>have:=h1 rfl h; rwa [V6 hb] at this
 | false=>have:=h2 rfl h; rwa [V6 hb] at this
end
end Go.Ab
namespace Go.Ab
theorem St.recell {σ:Aw} {ι:Bi} {H:Hp} {F:Aw} {W w:World} (s:St σ ι H F W w) (h:Nat) (E:TypeId) (cs f:List AV) (j:H h = .cells E cs) (q:f.length=cs.length)
  (hc:∀(i:Nat) (c k:AV) (v:Value),cs[i]? = some c->f[i]? = some k->Conc σ ι H c v->Conc σ ι H k v) :
  St σ ι (A3 H h (.cells E f)) F W w/\Le σ ι H σ ι (A3 H h (.cells E f)):=by
 have l:=s.obj h
 unfold Ca at l
 rw [j] at l
 obtain ⟨b,C,hb,h1,h2,h3,h4,A⟩:=l
 have le:Le σ ι H σ ι (A3 H h (.cells E f)):=by
  have:=Le.upd (ι:=ι) (H:=H) (Aw.le_refl σ) h (ι h) (.cells E f) (by rw [j]; exact ⟨fun _ e=>e,(fun _ e=>by cases e),(fun _ _ _ _ e=>by cases e)⟩)
  rwa [Gl] at this
 refine ⟨s.touch h b (fun _ _=>rfl) (fun x e=>Cp _ _ e) le (fun x e=>rfl) (fun _ _=>rfl) (fun o e=>by rw [h1] at e; cases e) ?_ h2 ?_ ?_ rfl rfl rfl,le⟩
 .intro x e q u
  exact e (s.inj x h b q (by rw [j]; rfl) u (by rw [hb]; rfl))
 .intro B _ z
  exact .inr ⟨by rw [j]; rfl,z⟩
 .unfold Ca
  rw [B5]
  refine ⟨b,C,hb,h1,h2,h3,by omega,fun i k v x y=>?_⟩
  have hi:i<cs.length:=by rw [<-q]; exact (List.getElem?_eq_some_iff.1 x).1
  have g:cs[i]? = some cs[i]:=List.getElem?_eq_getElem hi
  exact (hc i _ k v g x (A i _ v g y)).mono le
inductive Gh where
 | fz (s:Nat)
 | own (s j:Nat) (e:TypeId) (sz:Nat)
 | nil (s j sz:Nat)
 | fzc (s j:Nat)
 | fzp (s:Nat)
 | fzcp (s j:Nat)
def gxs:List Gh->Nat->Bf->Hp->(Nat->Bf->Hp->Prop)->Prop
 | [],n,e,H,K=>K n e H
 | .fz s::gs,n,e,H,K=>
  match e s with
  | .arr h k 0 len=>
   match H h with
   | .rows _ sz xs=>Fb k xs (Fb len xs (gxs gs n (A3 e s (.sl sz xs)) (A3 H h .dead) K))
   | _=>False
  | _=>False
 | .fzp s::gs,n,e,H,K=>
  match e s with
  | .arr h k 0 len=>
   match H h with
   | .rows _ sz xs=>Fb k xs (Afn len k (Afo xs len fun ys=>gxs gs n (A3 e s (.sl sz ys)) (A3 H h .dead) K))
   | _=>False
  | _=>False
 | .own s j E sz::gs,n,e,H,K=>
  match e s with
  | .loc h _=>
   match H h with
   | .cells T cs=>
    match cs[j]? with
    | some x=>bif I7 x&&Nat.blt 0 sz then gxs gs (n+1) e (A3 (A3 H n (.rows E sz [])) h (.cells T (cs.set j (.arr n 0 0 0)))) K else False
    | none=>False
   | _=>False
  | _=>False
 | .nil s j sz::gs,n,e,H,K=>
  match e s with
  | .loc h _=>
   match H h with
   | .cells T cs=>
    match cs[j]? with
    | some x=>bif I7 x then gxs gs n e (A3 H h (.cells T (cs.set j (.sl sz [])))) K else False
    | none=>False
   | _=>False
  | _=>False
 | .fzc s j::gs,n,e,H,K=>
  match e s with
  | .loc h _=>
   match H h with
   | .cells T cs=>
    match cs[j]? with
    | some (.arr h' k 0 len)=>
     match H h' with
     | .rows _ sz xs=>Fb k xs (Fb len xs (gxs gs n e (A3 (A3 H h' .dead) h (.cells T (cs.set j (.sl sz xs)))) K))
     | _=>False
    | _=>False
   | _=>False
  | _=>False
 | .fzcp s j::gs,n,e,H,K=>
  match e s with
  | .loc h _=>
   match H h with
   | .cells T cs=>
    match cs[j]? with
    | some (.arr h' k 0 len)=>
     match H h' with
     | .rows _ sz xs=>Fb k xs (Afn len k (Afo xs len fun ys=>gxs gs n e (A3 (A3 H h' .dead) h (.cells T (cs.set j (.sl sz ys)))) K))
     | _=>False
    | _=>False
   | _=>False
  | _=>False
section
variable {F:Aw} {W:World}
theorem Agi {cs:List AV} {j i:Nat} {y c b:AV} {P:AV->AV->Prop} (h1:cs[i]? = some c) (h2:(cs.set j y)[i]? = some b) (hs:P c c) (hy:i=j->P c y):P c b:=by
 rw [List.getElem?_set] at h2
 split at h2
 .rename_i e
  split at h2
  .cases h2; exact hy e.symm
  .cases h2
 .rw [h1] at h2; cases h2; exact hs
theorem Mf {H:Hp} {n h:Nat} {o:Bc} (b:D0 H n) (f:H h≠.none):D0 (A3 H h o) n:=by
 intro m c
 rw [Cp _ _ (fun e=>f (by rw [<-e]; exact b m c))]; exact b m c
theorem Agj {σ:Aw} {ι:Bi} {w:World} {H:Hp} {hd h' j k len:Nat} {T E:TypeId} {sz:Nat} {cs xs ys:List AV} (s:St σ ι H F W w) (M:H hd = .cells T cs) (hj:cs[j]? = some (.arr h' k 0 len)) (g:H h' = .rows E sz xs) (hk:xs.length=k) (X:len<=xs.length) (hy:xs.take len=ys) :
  ∃c,Le σ ι H c ι (A3 (A3 H h' .dead) hd (.cells T (cs.set j (.sl sz ys))))/\St c ι (A3 (A3 H h' .dead) hd (.cells T (cs.set j (.sl sz ys)))) F W w:=by
 obtain ⟨c,G,D,N⟩:=s.freeze g
 have J:hd≠h':=by intro B; subst B; rw [M] at g; cases g
 have f:A3 H h' .dead hd = .cells T cs:=by rw [Cp _ _ J]; exact M
 have h:=s.obj hd
 unfold Ca at h; rw [M] at h
 obtain ⟨b,C,B,g1,g2,g3,g4,g5⟩:=h
 have l:∀v,C[j]? = some v->Conc c ι (A3 H h' .dead) (.sl sz ys) v:=by
  intro v Y
  have hc:=g5 j _ v hj Y
  have:=N 0 len _ (by omega) (hc.arr_inv g hk)
  rw [List.drop_zero,hy] at this
  exact .cc this
 have V:St c ι (A3 (A3 H h' .dead) hd (.cells T (cs.set j (.sl sz ys)))) F W w/\Le c ι (A3 H h' .dead) c ι (A3 (A3 H h' .dead) hd (.cells T (cs.set j (.sl sz ys)))):=by
  have I:=D.obj hd
  unfold Ca at I; rw [f] at I
  obtain ⟨b',C',A,z,u,q,Z,U⟩:=I
  rw [B] at A; cases A
  rw [g3] at q; cases q
  have le:Le c ι (A3 H h' .dead) c ι (A3 (A3 H h' .dead) hd (.cells T (cs.set j (.sl sz ys)))):=by
   have:=Le.upd (ι:=ι) (H:=A3 H h' .dead) (Aw.le_refl c) hd (ι hd) (.cells T (cs.set j (.sl sz ys))) (by rw [f]; exact ⟨fun _ e=>e,(fun _ e=>by cases e),(fun _ _ _ _ e=>by cases e)⟩)
   rwa [Gl] at this
  refine ⟨D.touch hd b (fun _ _=>rfl) (fun x e=>Cp _ _ e) le (fun x e=>rfl) (fun _ _=>rfl) (fun o e=>by rw [z] at e; cases e) ?_ u ?_ ?_ rfl rfl rfl,le⟩
  .intro x e X R
   exact e (D.inj x hd b X (by rw [f]; rfl) R (by rw [B]; rfl))
  .intro b0 _ S
   exact .inr ⟨by rw [f]; rfl,S⟩
  .unfold Ca
   rw [B5]
   refine ⟨b,C,B,z,u,g3,by simpa using g4,fun i c' v x y=>?_⟩
   rw [List.getElem?_set] at x
   split at x
   .rename_i L
    split at x
    .cases x; subst L; exact (l v y).mono le
    .cases x
   .exact (U i c' v x y).mono le
 exact ⟨c,G.trans V.2,V.1⟩
theorem N2:∀(y:List Gh) {n:Nat} {e:Bf} {H:Hp} {K:Nat->Bf->Hp->Prop} {σ:Aw} {ι:Bi} {a:Act} {w:World},gxs y n e H K->St σ ι H F W w->Dq σ ι H e a->D0 H n ->
  ∃σ' ι' n' e' H',K n' e' H'/\Le σ ι H σ' ι' H'/\St σ' ι' H' F W w/\Dq σ' ι' H' e' a/\D0 H' n'/\n<=n'
 | [],n,e,H,K,σ,ι,a,w,h,s,he,u=>⟨σ,ι,n,e,H,h,Le.refl _ _ _,s,he,u,Nat.le_refl _⟩
 | .fz t::y,n,e,H,K,σ,ι,a,w,h,s,he,u=>by
  simp only [gxs] at h
  split at h
  .rename_i hd k len hx
   split at h
   .rename_i E sz xs g
    obtain ⟨hk,hl,h⟩:=h
    obtain ⟨Z,f,B,X⟩:=s.freeze g
    have Y:Dq Z ι (A3 H hd .dead) (A3 e t (.sl sz xs)) a:=by
     intro q hq
     by_cases R:q=t
     .subst R
      rw [B5]
      have hc:=he q hq
      rw [hx] at hc
      have:=X 0 len _ (by omega) (hc.arr_inv g hk)
      rw [List.drop_zero,List.take_of_length_le (by omega)] at this
      exact .cc this
     .rw [Cp _ _ R]; exact (he q hq).mono f
    obtain ⟨z,A,D,N,S,M,L,J,I,G,U⟩:=N2 y h B Y (Mf u (by rw [g]; intro e; cases e))
    exact ⟨z,A,D,N,S,M,f.trans L,J,I,G,U⟩
   .exact h.elim
  .exact h.elim
 | .fzp t::y,n,e,H,K,σ,ι,a,w,h,s,he,u=>by
  simp only [gxs] at h
  split at h
  .rename_i hd k len hx
   split at h
   .rename_i E sz xs g
    obtain ⟨hk,hl,ys,hy,h⟩:=h
    obtain ⟨Z,f,B,X⟩:=s.freeze g
    have Y:Dq Z ι (A3 H hd .dead) (A3 e t (.sl sz ys)) a:=by
     intro q hq
     by_cases R:q=t
     .subst R
      rw [B5]
      have hc:=he q hq
      rw [hx] at hc
      have:=X 0 len _ (by omega) (hc.arr_inv g hk)
      rw [List.drop_zero,hy] at this
      exact .cc this
     .rw [Cp _ _ R]; exact (he q hq).mono f
    obtain ⟨z,A,D,N,S,M,L,J,I,G,U⟩:=N2 y h B Y (Mf u (by rw [g]; intro e; cases e))
    exact ⟨z,A,D,N,S,M,f.trans L,J,I,G,U⟩
   .exact h.elim
  .exact h.elim
 | .own t j E sz::y,n,e,H,K,σ,ι,a,w,h,s,he,u=>by
  simp only [gxs] at h
  split at h
  .rename_i hd off hx
   split at h
   .rename_i T cs g
    split at h
    .rename_i x hj
     obtain ⟨hb,h⟩:=Ej h
     rw [Bool.and_eq_true] at hb
     have a7:hd≠n:=by
      intro R; subst R
      have:=u hd (Nat.le_refl _); rw [g] at this; cases this
     obtain ⟨s0,a1⟩:=s.newNil n (u n (Nat.le_refl _)) E sz (Fq hb.2)
     have a6:A3 H n (.rows E sz []) hd = .cells T cs:=by rw [Cp _ _ a7]; exact g
     obtain ⟨B,f⟩:=s0.recell hd T cs (cs.set j (.arr n 0 0 0)) a6 (by simp) (by
      intro i c c' v h1 h2 h3
      refine Agi (P:=fun a b=>Conc σ _ _ a v->Conc σ _ _ b v) h1 h2 (fun h=>h) (fun V h=>?_) h3
      subst V
      rw [hj] at h1; cases h1
      rw [V2 hb.1] at h
      rw [h.val_inv]
      refine .arr _ _ _ _ _ (by rw [B5]; intro e; cases e) (fun E' ab aa e'=>?_) rfl
      rw [B5] at e'; cases e'
      exact ⟨by simp,fun _=>by rw [B5]; exact ⟨rfl,rfl,rfl⟩⟩)
     have a8:D0 (A3 (A3 H n (.rows E sz [])) hd (.cells T (cs.set j (.arr n 0 0 0)))) (n+1):=by
      refine Mf ?_ (by rw [a6]; intro e; cases e)
      intro m hm
      rw [Cp _ _ (by omega)]; exact u m (by omega)
     obtain ⟨z,A,D,N,S,M,L,J,I,G,U⟩:=N2 y h B (he.mono (a1.trans f)) a8
     exact ⟨z,A,D,N,S,M,(a1.trans f).trans L,J,I,G,by omega⟩
    .exact h.elim
   .exact h.elim
  .exact h.elim
 | .nil t j sz::y,n,e,H,K,σ,ι,a,w,h,s,he,u=>by
  simp only [gxs] at h
  split at h
  .rename_i hd off hx
   split at h
   .rename_i T cs g
    split at h
    .rename_i x hj
     obtain ⟨hb,h⟩:=Ej h
     obtain ⟨B,f⟩:=s.recell hd T cs (cs.set j (.sl sz [])) g (by simp) (by
      intro i c c' v h1 h2 h3
      refine Agi (P:=fun a b=>Conc σ _ _ a v->Conc σ _ _ b v) h1 h2 (fun h=>h) (fun V h=>?_) h3
      subst V
      rw [hj] at h1; cases h1
      exact V3 hb h)
     obtain ⟨z,A,D,N,S,M,L,J,I,G,U⟩:=N2 y h B (he.mono f) (Mf u (by rw [g]; intro e; cases e))
     exact ⟨z,A,D,N,S,M,f.trans L,J,I,G,U⟩
    .exact h.elim
   .exact h.elim
  .exact h.elim
 | .fzc t j::y,n,e,H,K,σ,ι,a,w,h,s,he,u=>by
  simp only [gxs] at h
  split at h
  .rename_i hd off hx
   split at h
   .rename_i T cs g
    split at h
    .rename_i h' k len hj
     split at h
     .rename_i E sz xs l
      obtain ⟨hk,hl,h⟩:=h
      obtain ⟨Z,f,B⟩:=Agj s g hj l hk (by omega) (List.take_of_length_le (by omega))
      obtain ⟨z,A,D,N,S,M,L,J,I,G,U⟩:=N2 y h B (he.mono f) (Mf (Mf u (by rw [l]; intro e; cases e)) (by rw [Cp _ _ (by intro R; subst R; rw [g] at l; cases l)]; rw [g]; intro e; cases e))
      exact ⟨z,A,D,N,S,M,f.trans L,J,I,G,U⟩
     .exact h.elim
    .exact h.elim
   .exact h.elim
  .exact h.elim
 | .fzcp t j::y,n,e,H,K,σ,ι,a,w,h,s,he,u=>by
  simp only [gxs] at h
  split at h
  .rename_i hd off hx
   split at h
   .rename_i T cs g
    split at h
    .rename_i h' k len hj
     split at h
     .rename_i E sz xs l
      obtain ⟨hk,hl,ys,hy,h⟩:=h
      obtain ⟨Z,f,B⟩:=Agj s g hj l hk (by omega) (hy)
      obtain ⟨z,A,D,N,S,M,L,J,I,G,U⟩:=N2 y h B (he.mono f) (Mf (Mf u (by rw [l]; intro e; cases e)) (by rw [Cp _ _ (by intro R; subst R; rw [g] at l; cases l)]; rw [g]; intro e; cases e))
      exact ⟨z,A,D,N,S,M,f.trans L,J,I,G,U⟩
     .exact h.elim
    .exact h.elim
   .exact h.elim
  .exact h.elim
end
end Go.Ab
namespace Go.Ab
def Gy {S E:Type} (step:S->Option (S⊕E)):Nat->S->Option E
 | 0,_=>none
 | n+1,s=>
  match step s with
  | none=>none
  | some (.inl s')=>Gy step n s'
  | some (.inr e)=>some e
theorem Aam {S E:Type} {step:S->Option (S⊕E)}:∀{n:Nat} {s:S} {e:E},Gy step n s=some e->∀m,n<=m->Gy step m s=some e
 | 0,s,e,h,_,_=>by cases h
 | n+1,s,e,h,0,b=>by omega
 | n+1,s,e,h,m+1,b=>by
  simp only [Gy] at h ⊢
  cases hs:step s with
  | none=>rw [hs] at h; cases h
  | some o=>
   rw [hs] at h
   cases o with
   | inl s'=>exact Aam (n:=n) h m (by omega)
   | inr e'=>exact h
theorem Agk {S E:Type} {step:S->Option (S⊕E)} {n m:Nat} {s:S} {e e':E} (h:Gy step n s=some e) (h':Gy step m s=some e'):e=e':=by
 have h1:=Aam h (max n m) (by omega)
 have h2:=Aam h' (max n m) (by omega)
 rw [h1] at h2; exact Option.some.inj h2
open Classical in
noncomputable def An {S E:Type} (step:S->Option (S⊕E)) (s:S):Option E :=
 match Gy step 4096 s with
 | some e=>some e
 | none=>if h:∃n e,Gy step n s=some e then some (Classical.choose (Classical.choose_spec h)) else none
theorem Aan {S E:Type} {step:S->Option (S⊕E)} {s:S} {e:E} (h:An step s=some e):∃n,Gy step n s=some e:=by
 unfold An at h
 split at h
 .rename_i e' he
  cases h
  exact ⟨_,he⟩
 .split at h
  .rename_i hx
   cases h
   exact ⟨_,Classical.choose_spec (Classical.choose_spec hx)⟩
  .cases h
theorem Aao {S E:Type} {step:S->Option (S⊕E)} {s:S} {e:E} {n:Nat} (h:Gy step n s=some e):An step s=some e:=by
 have hx:∃n e,Gy step n s=some e:=⟨n,e,h⟩
 unfold An
 split
 .rename_i e' he
  exact congrArg some (Agk he h)
 rw [dif_pos hx]
 exact congrArg some (Agk (Classical.choose_spec (Classical.choose_spec hx)) h)
theorem E6 {S E:Type} {step:S->Option (S⊕E)} {s:S} {e:E} (h:step s=some (.inr e)):An step s=some e :=
 Aao (n:=1) (by simp only [Gy,h])
theorem J1 {S E:Type} {step:S->Option (S⊕E)} {s s':S} (h:step s=some (.inl s')):An step s=An step s':=by
 cases h':An step s' with
 | some e=>
  obtain ⟨n,b⟩:=Aan h'
  exact Aao (n:=n+1) (by simp only [Gy,h]; exact b)
 | none=>
  cases hs:An step s with
  | none=>rfl
  | some e=>
   obtain ⟨n,b⟩:=Aan hs
   cases n with
   | zero=>cases b
   | succ n=>
    simp only [Gy,h] at b
    rw [Aao b] at h'; cases h'
theorem P7 {S E:Type} {step:S->Option (S⊕E)} (c:S->Prop) (m:S->Nat) (b:E->Prop)
  (f:∀s,c s->(∃s',step s=some (.inl s')/\c s'/\m s' < m s)\/(∃e,step s=some (.inr e)/\b e)) (s:S) (h0:c s):∃e,An step s=some e/\b e:=by
 generalize hk:m s=k
 induction k using Nat.strongRecOn generalizing s with
 | _ k ih=>
  rcases f s h0 with ⟨s',h1,h2,h3⟩ | ⟨e,h1,h2⟩
  .obtain ⟨e,h4,g⟩:=ih (m s') (by omega) s' h2 rfl
   exact ⟨e,by rw [J1 h1]; exact h4,g⟩
  .exact ⟨e,E6 h1,h2⟩
def Ae {α:Type} (l:List α) (i:Int):Option α:=if 0<=i then l[i.toNat]? else none
def Ga {α:Type} (l:List α) (lo hi:Int):Option (List α):=if 0<=lo/\lo<=hi/\hi<=l.length then some ((l.take hi.toNat).drop lo.toNat) else none
def B7 {α:Type} (b:Nat) (xs ys:List α):Option (List α):=if (xs.length+ys.length)*b<=140737488355328 then some (xs++ys) else none
def Ek {α:Type} (c:Nat) (len b:Int) (z:α):Option (List α):=if 0<=len/\len<=b/\c*b.toNat<=281474976710656/\b<=140737488355328 then some (List.replicate len.toNat z) else none
def H3 {α:Type} (l:List α) (off n:Nat) (i:Int):Option α:=if 0<=i/\i<n then l[off+i.toNat]? else none
def Sf (n:Nat) (lo hi:Int):Option (Nat×Nat):=if 0<=lo/\lo<=hi/\hi<=n/\(lo=0\/lo<hi) then some (lo.toNat,hi.toNat) else none
def Gz {α:Type} (n:Nat) (l:List α):Option Unit:=if n=l.length then some () else none
theorem H4 {α:Type} {n:Nat} {l:List α} {u:Unit} (h:Gz n l=some u):n=l.length:=by
 unfold Gz at h
 split at h
 .assumption
 .cases h
theorem Aqj (off:Nat) {i:Int} {n:Nat} (h:i=n):((off:Nat):Int)+i=((off+n:Nat):Int):=by omega
def Lb (n:Int):Option ByteArray:=if -9223372036854775808<=n/\n<=9223372036854775807 then some ⟨(Lib.itoa n).toArray⟩ else none
def Wc (a b:Int):Option ByteArray:=bif b==10 then Lb a else none
def Ct (l:List Int):List UInt8:=l.map fun n=>UInt8.ofNat n.toNat
def F3 (l:List Int):Option ByteArray:=if (∀x∈l,0<=x/\x<256) then some ⟨(Ct l).toArray⟩ else none
def Fe (s:ByteArray):List Int:=s.data.toList.map fun b=>(b.toNat:Int)
def Cu {α:Type} (l:List α) (i:Int) (x:α):List α:=l.set i.toNat x
def Dr (k:IntKind) (a b:Int):Option Int:=if b=0 then none else some (k.wrap (a.tdiv b))
def Ed (a b:Int):Option Int:=if b=0 then none else some (a.tmod b)
def Sg (k:IntKind) (a b:Int):Option Int:=if 0<=b then some (a.fdiv (2 ^ (min b.toNat k.bits))) else none
def Ee (s:ByteArray) (i:Int):Option UInt8:=if 0<=i then s[i.toNat]? else none
def Bb (a b:ByteArray):Option ByteArray:=if a.size+b.size<=9223372036854775807 then some (a++b) else none
def Df (s:ByteArray) (lo hi:Int):Option ByteArray:=if 0<=lo/\lo<=hi/\hi<=s.size then some (s.extract lo.toNat hi.toNat) else none
abbrev Ac (n:Int):Int:=IntKind.i64.wrap n
abbrev A0 (n:Int):Int:=IntKind.u64.wrap n
abbrev Cj (n:Int):Int:=IntKind.u32.wrap n
abbrev wu8 (n:Int):Int:=IntKind.u8.wrap n
theorem Agl {α:Type} {l:List α} {i:Int} {x:α} (h:Ae l i=some x):∃n:Nat,i=n/\l[n]? = some x:=by
 unfold Ae at h
 split at h
 .exact ⟨i.toNat,by omega,h⟩
 .cases h
section
variable {β:Type} {r:β}
theorem C5 {α:Type} {o:Option α} {m:α->Option β} {G:Prop} (h:o.bind m=some r) (k:∀x,o=some x->m x=some r->G):G:=by
 cases o with
 | none=>cases h
 | some x=>exact k x rfl h
theorem Agm {α:Type} {o:Option α} {m:α->Option β} {G:Prop} (h:o.bind m=some r) (k:∀x,o=some x->(∀y,y=x->m y=some r)->G):G:=by
 cases o with
 | none=>cases h
 | some x=>exact k x rfl (fun y hy=>by subst hy; exact h)
theorem Agn {α:Type} {l:List α} {f:α->AV} {ys:List AV} (he:ys=l.map f) {i:Int} {m:α->Option β} {K:Nat->AV->Prop} (h:(Ae l i).bind m=some r) (k:∀(n:Nat) (x:α),i=n->l[n]? = some x->m x=some r->K n (f x)):R7 ys i K:=by
 subst he
 refine C5 h fun x hx h=>?_
 obtain ⟨n,b,c⟩:=Agl hx
 exact .mk n (f x) b (by simp [c]) (k n x b c h)
theorem Aqk {α:Type} {l:List α} {f:α->AV} {ys:List AV} (he:ys=l.map f) {i:Int} {m:α->Option β} {K:Nat->Prop} {len b:Nat} (j:len=l.length) (hk:b=l.length) (h:(Ae l i).bind m=some r) (k:∀(n:Nat) (x:α),i=n->l[n]? = some x->m x=some r->K n):Nt len b ys i K:=by
 subst he
 refine C5 h fun x hx h=>?_
 obtain ⟨n,c,g⟩:=Agl hx
 exact .mk n (by rw [hk]; simp) c (by rw [j]; exact (List.getElem?_eq_some_iff.1 g).1) (k n x c g h)
theorem Aql {α:Type} {l:List α} {f:α->AV} {ys:List AV} (he:ys=l.map f) {i:Int} {m:α->Option β} {K:Nat->Prop} {off len b:Nat} (hk:b=l.length) (h:(H3 l off len i).bind m=some r) (k:∀(n:Nat) (x:α),i=n->l[off+n]? = some x->m x=some r->K n):Nt len b ys i K:=by
 subst he
 refine C5 h fun x hx h=>?_
 unfold H3 at hx
 split at hx
 .rename_i hc
  exact .mk i.toNat (by rw [hk]; simp) (by omega) (by omega) (k _ x (by omega) hx h)
 .cases hx
theorem Aqm {α:Type} {l:List α} {f:α->AV} {ys:List AV} (he:ys=l.map f) {b n:Nat} (hk:b=l.length) {lo hi:Int} {m:Nat×Nat->Option β} {K:Nat->Nat->Prop} {c:Prop} (h:(Sf n lo hi).bind m=some r) (k:∀v:Nat×Nat,m v=some r->K v.1 v.2):Afm b ys n lo hi K c:=by
 subst he
 refine C5 h fun x hx h=>?_
 unfold Sf at hx
 split at hx
 .rename_i hc
  cases hx
  exact .mk lo.toNat hi.toNat (by rw [hk]; simp) (by omega) (by omega) (by omega) (by omega) (by omega) (k _ h)
 .cases hx
theorem Ago {op:BinOp} {q:FloatKind} {a b:Nat} {m:Nat->Option β} {K:Nat->Prop} (h:(floatBits op q a b).bind m=some r) (k:∀c,m c=some r->K c):Vu op q a b K :=
 C5 h fun x hx h=>.mk x hx (k x h)
theorem Agp {q:FloatKind} {a:Nat} {z:IntKind} {m:Int->Option β} {K:Int->Prop} (h:(floatToIntVal q a z).bind m=some r) (k:∀c,m c=some r->K c):Vv q a z K :=
 C5 h fun x hx h=>.mk x hx (k x h)
theorem Aqn {α:Type} {l:List α} {f:α->AV} {ys:List AV} (he:ys=l.map f) {n i b:Nat} {x:α} {K:AV->Prop} (hk:b=l.length) (hi:i=n) (hx:l[n]? = some x) (k:K (f x)):I6 b i ys K:=by
 subst he; subst hi
 exact .mk (f x) (by rw [hk]; simp) (by simp [hx]) k
theorem Mg {α:Type} {l:List α} {f:α->AV} {ys:List AV} (he:ys=l.map f) {n i:Nat} {j:Int} {x:α} {p:AV} {K:List AV->Prop} (hp:p=f x) (hi:i=n) (hj:j=(n:Int)) (k:K ((Cu l j x).map f)):R8 ys i p K:=by
 subst he; subst hi; subst hp; subst hj
 exact .mk _ (by simp [Cu,List.map_set]) k
theorem Gq {α:Type} {l:List α} {k:Nat} (h:k=l.length) (j:Int) (x:α):k=(Cu l j x).length:=by simp [Cu,h]
theorem Agq {α:Type} {l:List α} {f:α->AV} {ys:List AV} (he:ys=l.map f) {lo hi:Int} {m:List α->Option β} {K:List AV->Prop} (h:(Ga l lo hi).bind m=some r) (k:∀b:List α,m b=some r->K (b.map f)):Nu ys lo hi K:=by
 subst he
 refine C5 h fun x hx h=>?_
 unfold Ga at hx
 split at hx
 .rename_i hc
  cases hx
  exact .mk lo.toNat hi.toNat _ (by omega) (by omega) (by omega) (by simp; omega) (by rw [<-List.map_take,<-List.map_drop]) (k _ h)
 .cases hx
theorem Aqo {α:Type} {l:List α} {f:α->AV} {ys:List AV} (he:ys=l.map f) {lo:Int} {m:List α->Option β} {K:List AV->Prop} (h:(Ga l lo l.length).bind m=some r) (k:∀b:List α,m b=some r->K (b.map f)):Nu ys lo ys.length K:=by
 have e:((ys.length:Nat):Int)=(l.length:Int):=by rw [he]; simp
 rw [e]
 exact Agq he h k
theorem Aap {α:Type} {l ys:List α} {f:α->AV} {xs c:List AV} (he:xs=l.map f) (i:c=ys.map f) {b g len:Nat} {m:List α->Option β} {K:List AV->Nat->Prop} {q:List AV->Nat->Nat->Prop} (hk:g=l.length) (j:len=l.length) (h:(B7 b l ys).bind m=some r)
  (k:∀o:List α,m o=some r->K (o.map f) o.length):Kr xs c g len b K q:=by
 subst he; subst i; subst hk; subst j
 refine C5 h fun x hx h=>?_
 unfold B7 at hx
 split at hx
 .rename_i hc
  cases hx
  exact .mk _ _ (by simp) rfl (by simpa using hc) (by simp) (by simp) (k _ h)
 .cases hx
theorem Aqp {l:List Int} {s:ByteArray} {xs:List AV} (he:xs=l.map fun n=>.val (.int .u8 n)) {b c len:Nat} {m:List Int->Option β} {K:List AV->Nat->Prop} {i:List AV->Nat->Nat->Prop} (hk:c=l.length) (g:len=l.length) (h:(B7 b l (Fe s)).bind m=some r)
  (k:∀o:List Int,m o=some r->K (o.map fun n=>.val (.int .u8 n)) o.length):Kr xs (G3 s) c len b K i:=by
 refine Aap (f:=fun n=>.val (.int .u8 n)) he ?_ hk g h k
 simp [G3,Fe]
theorem Agr {α:Type} {ys:List α} {f:α->AV} {c:List AV} (g:c=ys.map f) {b:Nat} {m:List α->Option β} {K:List AV->Nat->Prop} (h:(B7 b [] ys).bind m=some r)
  (k:∀o:List α,m o=some r->K (o.map f) o.length):Nv c b K:=by
 subst g
 refine C5 h fun x hx h=>?_
 unfold B7 at hx
 split at hx
 .rename_i hc
  cases hx
  exact .mk _ _ (by simpa using hc) (by simp) (by simp) (k _ h)
 .cases hx
theorem Aqq {α:Type} {g:List α->List AV} {f:α->AV} (s:∀l,g l=l.map f) {l ys:List α} {xs c:List AV} (he:xs=l.map f) (j:c=ys.map f) {b i len:Nat} {m:List α->Option β} {K:List AV->Nat->Prop} {u:List AV->Nat->Nat->Prop} (hk:i=l.length) (q:len=l.length) (h:(B7 b l ys).bind m=some r)
  (k:∀o:List α,m o=some r->K (g o) o.length):Kr xs c i len b K u :=
 Aap he j hk q h fun o h=>by rw [<-s]; exact k o h
theorem Aqr {α:Type} {g:List α->List AV} {f:α->AV} (j:∀l,g l=l.map f) {ys:List α} {c:List AV} (i:c=ys.map f) {b:Nat} {m:List α->Option β} {K:List AV->Nat->Prop} (h:(B7 b [] ys).bind m=some r)
  (k:∀o:List α,m o=some r->K (g o) o.length):Nv c b K :=
 Agr i h fun o h=>by rw [<-j]; exact k o h
theorem Aqs {α:Type} {z:α} {f:α->AV} {g:AV} (i:g=f z) {len c:Int} {b:Nat} {m:List α->Option β} {K:Nat->List AV->Prop} (h:(Ek b len c z).bind m=some r) (k:∀o:List α,m o=some r->K o.length (o.map f)):Pz len c b g K:=by
 subst i
 refine C5 h fun x hx h=>?_
 unfold Ek at hx
 split at hx
 .rename_i hc
  cases hx
  exact .mk _ c.toNat _ (by simp; omega) (by omega) (by simp; omega) hc.2.2.1 (by omega) (by simp) (k _ h)
 .cases hx
theorem P8 {α:Type} {z:α} {f:α->AV} {g:AV} (i:Ev g.cells (f z).cells) {len c:Int} {b:Nat} {m:List α->Option β} {K:Nat->List AV->Prop} (h:(Ek b len c z).bind m=some r) (k:∀o:List α,m o=some r->K o.length (o.map f)):Pz len c b g K:=by
 refine C5 h fun x hx h=>?_
 unfold Ek at hx
 split at hx
 .rename_i hc
  cases hx
  exact .mkN (f z) i _ c.toNat _ (by simp; omega) (by omega) (by simp; omega) hc.2.2.1 (by omega) (by simp) (k _ h)
 .cases hx
theorem Ags {α:Type} {l:List α} {f:α->AV} {ys:List AV} (he:ys=l.map f) {K:Int->Prop} (k:K (l.length:Int)):Jv ys K:=by
 subst he; exact .mk _ (by simp) k
theorem Aqt {α:Type} {l:List α} {f:α->AV} {ys:List AV} (he:ys=l.map f) {b:Nat} (hk:b=l.length) {K:Prop} (k:K):Fb b ys K:=by
 subst he; exact .mk (by rw [hk]; simp) k
def Ew {α:Type} (l:List (ByteArray×α)) (s:ByteArray):Bool:=l.any fun p=>s==p.1
def H5 {α:Type} (l:List (ByteArray×α)) (s:ByteArray) (z:α):α:=((l.find? fun p=>s==p.1).map (·.2)).getD z
def Ey {α:Type}:List (ByteArray×α)->ByteArray->α->List (ByteArray×α)
 | [],s,v=>[(s,v)]
 | p::l,s,v=>bif s==p.1 then (s,v)::l else p::Ey l s v
def Bh {α:Type} (f:α->AV) (l:List (ByteArray×α)):List (AV×AV):=l.map fun p=>(.val (.string p.1),f p.2)
theorem Aaq {α:Type} (f:α->AV) (s:ByteArray) (z:α):∀(l:List (ByteArray×α)) (i:Nat),
  (Ew l s=false/\G4 s (Bh f l) i=some none)\/(Ew l s=true/\∃j,G4 s (Bh f l) i=some (some (i+j,f (H5 l s z)))/\∀v,Bh f (Ey l s v)=(Bh f l).set j (.val (.string s),f v))
 | [],i=>.inl ⟨rfl,rfl⟩
 | p::l,i=>by
  cases hp:s==p.1 with
  | true=>
   refine .inr ⟨by simp [Ew,hp],0,?_,fun v=>?_⟩
   .simp [Bh,G4,H5,hp]
   .simp [Bh,Ey,hp]
  | false=>
   rcases Aaq f s z l (i+1) with ⟨h1,h2⟩ | ⟨h1,j,h2,h3⟩
   .refine .inl ⟨by simp only [Ew,List.any_cons,hp,Bool.false_or]; exact h1,?_⟩
    have:G4 s (Bh f (p::l)) i=G4 s (Bh f l) (i+1):=by simp [Bh,G4,hp]
    rw [this,h2]
   .refine .inr ⟨by simp only [Ew,List.any_cons,hp,Bool.false_or]; exact h1,j+1,?_,fun v=>?_⟩
    .have:G4 s (Bh f (p::l)) i=G4 s (Bh f l) (i+1):=by simp [Bh,G4,hp]
     have b:H5 (p::l) s z=H5 l s z:=by simp [H5,hp]
     rw [this,h2,b]; congr 3; omega
    .have c:Bh f (Ey (p::l) s v)=(.val (.string p.1),f p.2)::Bh f (Ey l s v):=by simp [Bh,Ey,hp]
     rw [c,h3 v]; rfl
theorem Agt {α:Type} (f:α->AV) {s:ByteArray} {v:α}:∀{l:List (ByteArray×α)},Ew l s=false->Bh f (Ey l s v)=Bh f l++[(.val (.string s),f v)]
 | [],_=>rfl
 | p::l,h=>by
  simp only [Ew,List.any_cons,Bool.or_eq_false_iff] at h
  have:=Agt f (v:=v) (l:=l) h.2
  simp only [Ey,h.1,cond_false]
  simp only [Bh,List.map_cons,List.cons_append] at this ⊢
  rw [this]
theorem Wd {α:Type} {f:α->AV} {l:List (ByteArray×α)} {es:List (AV×AV)} (he:es=Bh f l) (z:α) {s:ByteArray} {m b:Option β} {K:Option (Nat×AV)->Prop} (h:(bif Ew l s then m else b)=some r)
  (g:∀j,Ew l s=true->m=some r->K (some (j,f (H5 l s z)))) (c:Ew l s=false->b=some r->K none):Afp s es K:=by
 subst he
 rcases Aaq f s z l 0 with ⟨h1,h2⟩ | ⟨h1,j,h2,_⟩
 .rw [h1] at h; exact .mk _ h2 (c h1 h)
 .rw [h1] at h; exact .mk _ h2 (g _ h1 h)
theorem Sh {α:Type} {f:α->AV} {l:List (ByteArray×α)} {es:List (AV×AV)} (he:es=Bh f l) {s:ByteArray} {x:α} {v:AV} (b:v=f x) {K:List (AV×AV)->Prop} (k:K (Bh f (Ey l s x))):Afq s v es K:=by
 subst he; subst b
 refine .mk _ ?_ k
 unfold Vi
 rcases Aaq f s x l 0 with ⟨h1,h2⟩ | ⟨h1,j,h2,h3⟩
 .rw [h2,Agt f h1]
 .rw [h2,h3 x]; simp
theorem Lc {k:IntKind} {a b:Int} {m:Int->Option β} {K:Int->Prop} (h:(Dr k a b).bind m=some r) (f:∀c:Int,m c=some r->K c):Vn k a b K:=by
 refine C5 h fun x hx h=>?_
 unfold Dr at hx
 split at hx
 .cases hx
 .rename_i hb; cases hx; exact .mk _ hb rfl (f _ h)
theorem Iy {a b:Int} {m:Int->Option β} {K:Int->Prop} (h:(Ed a b).bind m=some r) (f:∀c:Int,m c=some r->K c):Vo a b K:=by
 refine C5 h fun x hx h=>?_
 unfold Ed at hx
 split at hx
 .cases hx
 .rename_i hb; cases hx; exact .mk _ hb rfl (f _ h)
theorem Agu {k:IntKind} {a b:Int} {m:Int->Option β} {K:Int->Prop} (h:(Sg k a b).bind m=some r) (f:∀c:Int,m c=some r->K c):Vp k a b K:=by
 refine C5 h fun x hx h=>?_
 unfold Sg at hx
 split at hx
 .rename_i hb; cases hx; exact .mk _ hb rfl (f _ h)
 .cases hx
theorem J2 {s:ByteArray} {i:Int} {m:UInt8->Option β} {K:UInt8->Prop} (h:(Ee s i).bind m=some r) (b:∀c:UInt8,m c=some r->K c):Vr s i K:=by
 refine C5 h fun x hx h=>?_
 unfold Ee at hx
 split at hx
 .exact .mk i.toNat x (by omega) hx (b _ h)
 .cases hx
theorem J3 {l:List Int} {m:ByteArray->Option β} {K:ByteArray->Prop} (h:(F3 l).bind m=some r) (b:∀c:ByteArray,m c=some r->K c):Vs (l.map fun n=>.val (.int .u8 n)) K:=by
 refine C5 h fun x hx h=>?_
 unfold F3 at hx
 split at hx
 .rename_i hc
  cases hx
  refine .mk (Ct l) ?_ (b _ h)
  unfold Ct
  rw [List.map_map]
  refine List.map_congr_left fun n f=>?_
  have:=hc n f
  show AV.val (.int .u8 n) = .val (.int .u8 ((UInt8.ofNat n.toNat).toNat:Nat))
  rw [UInt8.toNat_ofNat',Nat.mod_eq_of_lt (by omega),Int.toNat_of_nonneg (by omega)]
 .cases hx
theorem Ft {a b:ByteArray} {m:ByteArray->Option β} {K:Prop} (h:(Bb a b).bind m=some r) (k:m (a++b)=some r->K):Vt (a.size+b.size) K:=by
 refine C5 h fun x hx h=>?_
 unfold Bb at hx
 split at hx
 .rename_i hc; cases hx; exact .mk hc (k h)
 .cases hx
theorem Aar {s:ByteArray} {lo hi:Int} {m:ByteArray->Option β} {K:Nat->Nat->Prop} (h:(Df s lo hi).bind m=some r) (k:∀l h',lo=((l:Nat):Int)->hi=((h':Nat):Int)->m (s.extract l h')=some r->K l h'):Vq s.size lo hi K:=by
 refine C5 h fun x hx h=>?_
 unfold Df at hx
 split at hx
 .rename_i hc
  cases hx
  exact .mk lo.toNat hi.toNat (by omega) (by omega) (by omega) (by omega) (k _ _ (by omega) (by omega) h)
 .cases hx
end
def We (Qn:Nat->Bf->Hp->Prop) (Qe:Nat->Nat->Bf->Hp->Prop) (Qr:Nat->Bf->Hp->Prop) (x:Ex) (n:Nat) (e:Bf) (H:Hp):Prop :=
 match x with
 | .normal=>Qn n e H
 | .exit i=>Qe i n e H
 | .ret=>Qr n e H
def wc (P:Program) (C:Cfg) (c:Code) (Qn:Nat->Bf->Hp->Prop) (Qe:Nat->Nat->Bf->Hp->Prop) (Qr:Nat->Bf->Hp->Prop) (n:Nat) (e:Bf) (H:Hp):Prop :=
 Ch P C.T->P.follows .mixedOrders=true->∀(F:Aw) (W:World) (σ:Aw) (ι:Bi) (a:Act) (w:World) (Q:Exit->Act->World->Prop),
  Hz a.tmps.size c=true->St σ ι H F W w->Dq σ ι H e a->D0 H n ->
  (∀x h e' H' f g b w',We Qn Qe Qr x h e' H'->Le σ ι H f g H'->St f g H' F W w'->Dq f g H' e' b->D0 H' h->n<=h->b.tmps.size=a.tmps.size->b.defers=a.defers->D5 (D6 c) a b->Q x.out b w')->c.wp P Q a w
section
variable {P:Program} {C:Cfg} {Qn:Nat->Bf->Hp->Prop} {Qe:Nat->Nat->Bf->Hp->Prop} {Qr:Nat->Bf->Hp->Prop} {n:Nat} {e:Bf} {H:Hp} {β:Type} {r:β}
theorem Aas {c:Code} (h:vc P C c (We Qn Qe Qr) n e H):wc P C c Qn Qe Qr n e H :=
 fun i g _ _ σ ι a w Q b s he f hk=>Nx i g c _ n e H σ ι a w Q b h s he f hk
theorem Hk (k:Qn n e H):wc P C .skip Qn Qe Qr n e H:=Aas k
theorem Aat (k:Qr n e H):wc P C .ret Qn Qe Qr n e H:=Aas k
theorem Ff {id:Nat} (k:Qe id n e H):wc P C (.exit id) Qn Qe Qr n e H:=Aas k
theorem Agv {id:Nat} {ops:Array Oper} {b:Bool} (h:D3 (Dv P C.T C.an C.nl ops ops.toList n e H [] fun n e H acc=>bif b then Jz ops.toList acc (Qn n e H) else Qn n e H)):wc P C (.region id ops b) Qn Qe Qr n e H:=by
 intro X S F W σ ι a w Q E s he M hk
 have q:=Le.refl σ ι H
 have s0:=s
 have z:=he
 have R:=M
 obtain ⟨L,e',H',accs,l,_,V,x,N,c⟩:=Aal X ops.toList 0 n e H [] _ (by simp) rfl M h.1
 have u:=Aga E
 cases b with
 | false=>
  simp only [cond_false] at l
  refine wp_region ?_
  have:List.range ops.size=List.range' 0 ops.toList.length:=by rw [List.range_eq_range']; simp
  rw [this]
  refine c.wpOps s0 z u ?_
  intro B D J w' le s' g f j hu
  exact hk .normal L e' H' B D J w' l (q.trans le) s' g N x f j hu
 | true=>
  simp only [cond_true] at l
  obtain ⟨G,l⟩:=l
  refine wp_region_any S ?_
  have A:ops=ops.toList.toArray:=by simp
  rw [A]
  simp only [List.size_toArray]
  refine Zz (accs:=accs) (e':=e') (H':=H') G ops.toList.length _ (List.range' 0 ops.toList.length) e H σ ι a _ (by rw [<-A]; exact c) (List.pairwise_lt_range' ..) ?_ (by simp) ?_ (by simp) (s0.drew _) z (by rw [<-A]; exact u) ?_
  .intro i
   simp only [List.mem_range'_1,Array.getD_eq_getD_getElem?]
   constructor
   .rintro ⟨_,h2⟩
    refine ⟨by omega,?_⟩
    have:i<ops.size:=by simpa using h2
    simp [this]
   .rintro ⟨h1,_⟩; omega
  .intro k o U I
   exfalso
   simp only [Array.getD_eq_getD_getElem?] at I
   by_cases y:k<ops.size
   .simp [y] at I
   .simp [y] at I
  .intro B D J w' le s' g f j hu
   exact hk .normal L e' H' B D J w' l (q.trans le) s' g N x f j (by rw [<-A] at hu; exact hu)
theorem Agw {id:Nat} {os:List Oper} (k:D3 (Dv P C.T C.an C.nl os.toArray os n e H [] fun n e H acc=>Jz os acc (Qn n e H))):wc P C (.region id os.toArray true) Qn Qe Qr n e H:=Agv k
theorem Bn {id:Nat} {os:List Oper} (k:D3 (Dv P C.T C.an C.nl os.toArray os n e H [] fun n e H _=>Qn n e H)):wc P C (.region id os.toArray false) Qn Qe Qr n e H:=Agv k
theorem C6 {c:Code} (z:List Gh) (k:gxs z n e H fun n e H=>D3 (wc P C c Qn Qe Qr n e H)):wc P C c Qn Qe Qr n e H:=by
 intro R M F W σ ι a w Q h s he L hk
 obtain ⟨A,D,U,V,X,J,b,G,l,i,N⟩:=N2 z k s he L
 exact J.1 R M F W A D a w Q h G l i fun x I e' H' B E S w' hq f s' q j y g u hu=>
  hk x I e' H' B E S w' hq (b.trans f) s' q j (by omega) g u hu
theorem As {V U:Code} (k:wc P C V (fun n e H=>wc P C U Qn Qe Qr n e H) Qe Qr n e H):wc P C (.seq V U) Qn Qe Qr n e H:=by
 intro R M F W σ ι a w Q f s he hn hk
 simp only [Hz,Bool.and_eq_true] at f
 refine wp_seq (k R M F W σ ι a w _ f.1 s he hn ?_)
 intro x L S X y z a1 A hq c B i g q b j hu
 cases x with
 | normal=>
  refine hq R M F W y z a1 A Q (by rw [b]; exact f.2) B i g ?_
  intro x n2 e2 H2 Y Z a2 w2 G D s2 J I N l u E
  exact hk x n2 e2 H2 Y Z a2 w2 G (c.trans D) s2 J I (by omega) (l.trans b) (u.trans j) ((hu.mono (by simp [D6]; exact fun s h=>.inl h)).trans (E.mono (by simp [D6]; exact fun s h=>.inr h)))
 | exit id=>exact hk (.exit id) L S X y z a1 A hq c B i g q b j (hu.mono (by simp [D6]; exact fun s h=>.inl h))
 | ret=>exact hk .ret L S X y z a1 A hq c B i g q b j (hu.mono (by simp [D6]; exact fun s h=>.inl h))
theorem Aau {l:Nat} (k:Qn n e H):wc P C (.label l) Qn Qe Qr n e H:=by
 intro g f F W σ ι a w Q b s he c hk
 exact wp_label (hk .normal n e H σ ι a w k (Le.refl _ _ _) s he c (Nat.le_refl _) rfl rfl (D5.refl _ _))
theorem Aav {c:Code} (k:wc P C c Qn Qe Qr n e H):wc P C (.scope c) Qn Qe Qr n e H:=by
 intro E D F W σ ι a w Q g s he B hk
 refine wp_scope_straight (k E D F W σ ι a w _ g s he B ?_)
 intro x A G I q u a1 y hq b z j h i f l hu
 have:=hk x A G I q u a1 y hq b z j h i f l hu
 cases x <;> exact this
theorem G6 {id:Nat} {c:Code} (k:wc P C c Qn (fun i n e H=>bif Nat.beq i id then Qn n e H else Qe i n e H) Qr n e H):wc P C (.block id c) Qn Qe Qr n e H:=by
 intro J I F W σ ι a w Q E s he G hk
 refine wp_block (k J I F W σ ι a w _ E s he G ?_)
 intro x A B D q u a1 y hq b z j g h f l hu
 cases x with
 | normal=>exact hk .normal A B D q u a1 y hq b z j g h f l hu
 | exit i=>
  simp only [Ex.out,Exit.inBlock]
  by_cases hi:i=id
  .subst hi
   rw [if_pos rfl]
   have:Nat.beq i i=true:=Nat.beq_refl i
   simp only [We,this,cond_true] at hq
   exact hk .normal A B D q u a1 y hq b z j g h f l hu
  .rw [if_neg hi]
   have:Nat.beq i id=false:=by
    cases hb:Nat.beq i id
    .rfl
    .exact (hi (Nat.eq_of_beq_eq_true hb)).elim
   simp only [We,this,cond_false] at hq
   exact hk (.exit i) A B D q u a1 y hq b z j g h f l hu
 | ret=>exact hk .ret A B D q u a1 y hq b z j g h f l hu
theorem Agx {x:Operand} {σ:Aw} {ι:Bi} {a:Act} {t:Bool} (b:Af6 a.tmps.size x=true) (he:Dq σ ι H e a) (hx:ev e x = .val (.bool t)):a.eval x = .bool t:=by
 have hc:=he.eval (x:=x) (fun t ht=>by
  cases x with
  | tmp q=>cases ht; exact Fq b
  | _=>cases ht)
 rw [hx] at hc
 exact hc.val_inv
theorem Wf {x:Operand} {q J:Code} (k:wc P C q Qn Qe Qr n e H) (hx:ev e x = .val (.bool true):=by exact rfl):wc P C (.cond x q J) Qn Qe Qr n e H:=by
 intro G E F W σ ι a w Q b s he D hk
 simp only [Hz,Bool.and_eq_true] at b
 refine wp_cond_true (Agx b.1.1 he hx) (k G E F W σ ι a w Q b.1.2 s he D ?_)
 intro x B I L u y a1 z hq c A j g i f l hu
 exact hk x B I L u y a1 z hq c A j g i f l (hu.mono (by simp [D6]; exact fun s h=>.inl h))
theorem N3 {x:Operand} {J q:Code} (k:wc P C q Qn Qe Qr n e H) (hx:ev e x = .val (.bool false):=by exact rfl):wc P C (.cond x J q) Qn Qe Qr n e H:=by
 intro G E F W σ ι a w Q b s he D hk
 simp only [Hz,Bool.and_eq_true] at b
 refine wp_cond_false (Agx b.1.1 he hx) (k G E F W σ ι a w Q b.2 s he D ?_)
 intro x B I L u y a1 z hq c A j g i f l hu
 exact hk x B I L u y a1 z hq c A j g i f l (hu.mono (by simp [D6]; exact fun s h=>.inr h))
theorem Ai {c:Operand} {a b:Code} {t:Bool} {m f:Option β} (h:(bif t then m else f)=some r) (h1:t=true->m=some r->wc P C a Qn Qe Qr n e H) (h2:t=false->f=some r->wc P C b Qn Qe Qr n e H) (hx:ev e c = .val (.bool t):=by exact rfl):wc P C (.cond c a b) Qn Qe Qr n e H:=by
 cases t with
 | true=>exact Wf (h1 rfl h) hx
 | false=>exact N3 (h2 rfl h) hx
theorem Agy {X:List Nat} {l:List (Nat×AV)} {h:List (Nat×Bc)} {F σ z:Aw} {W w Y:World} {ι I:Bi} {a a1:Act} {G:Hp} {e1:Bf} (hb:Ix n l h=true) (hn:D0 H n) (s:St σ ι H F W w) (he:Dq σ ι H e a)
  (M:Fr e1 l) (R:Fs G (B6 H h) n n) (L:Le σ ι H z I G) (i:St z I G F W Y) (a8:Dq z I G e1 a1) (aa:a1.tmps.size=a.tmps.size) (a7:D5 X a a1) :
  ∃A,Le σ ι H z A (B6 H h)/\St z A (B6 H h) F W Y/\Dq z A (B6 H h) (Ig X e (fun s=>a1.tmps.getD s undef) l) a1/\D0 (B6 H h) n:=by
 have Z:∀x,n<=x->ι x = .none:=by
  intro x hx
  have:=s.obj x; unfold Ca at this; rw [hn x hx] at this; exact this
 have D:∀p∈h,p.1<n:=by
  intro p hp
  unfold Ix at hb
  rw [Bool.and_eq_true,List.all_eq_true,List.all_eq_true] at hb
  exact Fq (hb.2 p hp)
 have N:∀p∈l,p.2.under n=true:=by
  intro p hp
  unfold Ix at hb
  rw [Bool.and_eq_true,List.all_eq_true,List.all_eq_true] at hb
  exact hb.1 p hp
 have u:D0 (B6 H h) n:=by
  intro x hx
  rw [Py (fun p hp e=>by have:=D p hp; omega)]; exact hn x hx
 let A:Bi:=fun x=>if x<n then I x else .none
 have c:∀x,x<n->A x=I x:=fun x hx=>if_pos hx
 have f:∀x,x<n->B6 H h x=G x:=fun x hx=>((R.spec) x hx).1.symm
 have J:Le σ ι H z A (B6 H h):=by
  refine ⟨L.sto,fun x=>?_⟩
  by_cases hx:x<n
  .rw [c x hx,f x hx]; exact L.obj x
  .rw [Z x (by omega),hn x (by omega)]; exact HLe.of_none
 have s2:St z A (B6 H h) F W Y:=by
  refine ⟨i.sto,i.fra,fun x=>?_,?_,i.os,i.tape,i.output,i.glo,i.drw⟩
  .by_cases hx:x<n
   .have k:=i.obj x
    have B:=((R.spec) x hx).2
    unfold Ca at k ⊢
    rw [f x hx] at B ⊢
    rw [c x hx]
    cases j:G x with
    | none=>rw [j] at k; exact k
    | dead=>trivial
    | cells E cs=>
     rw [j] at k B
     obtain ⟨b,Cc,g1,g2,g3,g4,g5,g6⟩:=k
     refine ⟨b,Cc,g1,g2,g3,g4,g5,fun q cq v hq a6=>(g6 q cq v hq a6).restrict c f ?_⟩
     have:=List.all_eq_true.1 B cq (List.mem_of_getElem? hq)
     exact Aac this
    | rows E sz xs=>rw [j] at k; exact k
    | map es=>rw [j] at k; exact k
   .unfold Ca
    rw [u x (by omega)]
    exact if_neg hx
  .intro x y b V U bx S
   have hx:x<n:=by
    rcases Nat.lt_or_ge x n with hx | hx
    .exact hx
    .rw [u x hx] at V; cases V
   have hy:y<n:=by
    rcases Nat.lt_or_ge y n with hy | hy
    .exact hy
    .rw [u y hy] at U; cases U
   rw [f x hx] at V; rw [f y hy] at U
   rw [c x hx] at bx; rw [c y hy] at S
   exact i.inj x y b V U bx S
 refine ⟨A,J,s2,?_,u⟩
 intro q hq
 rcases Af8 X e (fun s=>a1.tmps.getD s undef) l q with ⟨p,hp,rfl,g⟩ | ⟨hw,g⟩ | ⟨hw,g⟩
 .rw [g,<-M.spec p hp]
  refine (a8 p.1 hq).restrict c f ?_
  rw [M.spec p hp]; exact N p hp
 .rw [g]; exact .of_val _
 .rw [g,a7 q hw]; exact (he q (by omega)).mono J
theorem Agz {S E:Type} {step:S->Option (S⊕E)} {s0:S} {J:E->Option β} {b:Code} (h:(An step s0).bind J=some r)
  (L:S->List (Nat×AV)) (B:S->List (Nat×Bc)) (j:S->Prop) (hb:∀s,Ix n (L s) (B s)=true) (hs:Fr e (L s0)) (hh:Fs H (B6 H (B s0)) n n) (h0:j s0)
  (a8:∀(s:S) (u:Nat->Value) (K:Nat->Bf->Hp->Prop) (o:S⊕E),step s=some o->(∀x,.inr x=o->J x=some r)->(∀s' n' e' H',.inl s'=o->Fr e' (L s')->Fs H' (B6 H (B s')) n n->j s'->K n' e' H')->j s ->
   wc P C b K Qe Qr n (Ig (D6 b) e u (L s)) (B6 H (B s))):wc P C (.loop b) Qn Qe Qr n e H:=by
 intro hT hm F W σ ι a w Q aa s he hn hk
 refine C5 h fun x hx h=>?_
 obtain ⟨N,hN⟩:=Aan hx
 let J':Nat->Act->World->Prop:=fun k a' w'=>∃i σ' ι',(Gy step k i=some x/\j i)/\Le σ ι H σ' ι' (B6 H (B i))/\St σ' ι' (B6 H (B i)) F W w' /\
   Dq σ' ι' (B6 H (B i)) (Ig (D6 b) e (fun s=>a'.tmps.getD s undef) (L i)) a'/\a'.tmps.size=a.tmps.size/\a'.defers=a.defers/\D5 (D6 b) a a'
 have g:∀(k:Nat) (i:S) (G:Aw) (Y:Bi) (H1:Hp) (e1:Bf) (a1:Act) (w1:World),(Gy step k i=some x/\j i)->Fr e1 (L i)->Fs H1 (B6 H (B i)) n n->Le σ ι H G Y H1->St G Y H1 F W w1->Dq G Y H1 e1 a1->a1.tmps.size=a.tmps.size ->
    a1.defers=a.defers->D5 (D6 b) a a1->J' k a1 w1:=by
  intro k i G Y H1 e1 a1 w1 hi ab ad q s1 V c f l
  obtain ⟨Z,g1,g2,g3,_⟩:=Agy (hb i) hn s he ab ad q s1 V c l
  exact ⟨i,G,Z,hi,g1,g2,g3,c,f,l⟩
 refine Af7 J' N (g N s0 σ ι H e a w ⟨hN,h0⟩ hs hh (Le.refl _ _ _) s he rfl rfl (D5.refl _ _)) ?_
 rintro k a1 w1 ⟨i,G,Y,⟨hi,a7⟩,q,s1,V,c,f,l⟩
 have af:D0 (B6 H (B i)) n:=by
  intro y hy
  have X:=hb i
  unfold Ix at X
  rw [Bool.and_eq_true,List.all_eq_true,List.all_eq_true] at X
  rw [Py (fun p hp e=>by have:=Fq (X.2 p hp); omega)]; exact hn y hy
 cases k with
 | zero=>cases hi
 | succ k=>
  simp only [Gy] at hi
  cases ho:step i with
  | none=>rw [ho] at hi; cases hi
  | some o=>
   rw [ho] at hi
   refine a8 i (fun s=>a1.tmps.getD s undef) (fun _ e' H'=>∃s',(Gy step k s'=some x/\j s')/\Fr e' (L s')/\Fs H' (B6 H (B s')) n n) o ho ?_ ?_ a7 hT hm F W G Y a1 w1 _ (by rw [c]; exact aa) s1 V af ?_
   .intro y hy; subst hy
    simp only [Option.some.injEq] at hi
    rw [hi]; exact h
   .intro s' n' e' H' R h1 h2 h3
    subst R
    exact ⟨s',⟨hi,h3⟩,h1,h2⟩
   .intro x n2 e2 H2 σ2 Z a2 w2 hq I s2 U a6 D z A M
    cases x with
    | normal=>
     obtain ⟨i',ac,R,ae⟩:=hq
     exact ⟨k,by omega,g k i' σ2 Z H2 e2 a2 w2 ac R ae (q.trans I) s2 U (z.trans c) (A.trans f) (l.trans M)⟩
    | exit id=>exact hk (.exit id) n2 e2 H2 σ2 Z a2 w2 hq (q.trans I) s2 U a6 D (z.trans c) (A.trans f) (l.trans M)
    | ret=>exact hk .ret n2 e2 H2 σ2 Z a2 w2 hq (q.trans I) s2 U a6 D (z.trans c) (A.trans f) (l.trans M)
theorem Si {S:Type} {c:Code} (J:S->Prop) (l:S->List (Nat×AV)) (q:S->List (Nat×Bc)) (hb:∀s,Ix n (l s) (q s)=true)
  (X:∀(K:Nat->Bf->Hp->Prop),(∀s U e' H',J s->Fr e' (l s)->Fs H' (B6 H (q s)) n n->K U e' H')->wc P C c K Qe Qr n e H)
  (V:∀(s:S) (u:Nat->Value),J s->Qn n (Ig (D6 c) e u (l s)) (B6 H (q s))):wc P C c Qn Qe Qr n e H:=by
 intro Z Y F W σ ι a w Q B s he L hk
 refine X (fun _ e' H'=>∃s,J s/\Fr e' (l s)/\Fs H' (B6 H (q s)) n n) (fun s _ _ _ h1 h2 h3=>⟨s,h1,h2,h3⟩) Z Y F W σ ι a w _ B s he L ?_
 intro x I M N y G a1 z hq f A g j k b h hu
 cases x with
 | normal=>
  obtain ⟨i,hi,D,E⟩:=hq
  obtain ⟨R,g1,g2,g3,g4⟩:=Agy (hb i) L s he D E f A g b hu
  exact hk .normal n _ _ y R a1 z (V i (fun s=>a1.tmps.getD s undef) hi) g1 g2 g3 g4 (Nat.le_refl _) b h hu
 | exit id=>exact hk (.exit id) I M N y G a1 z hq f A g j k b h hu
 | ret=>exact hk .ret I M N y G a1 z hq f A g j k b h hu
theorem Aqu (E:Ch P C.T) (L:P.follows .mixedOrders=true) {f:FuncId} {fn:Func} {c:Code} {args:List AV} {r:AV} (D:P.funcs[f]? = some fn) (hb:fn.body=some c) (g:(fn.name == "runtime.NumGoroutine")=false)
  (b:P6 fn c args.length=true) (h:r.free=true) (J:wc P C c (fun _ e H=>Ny C.T fn.results.toList (· = r) e H) (fun _ _ _ _=>False) (fun _ e H=>Ny C.T fn.results.toList (· = r) e H) 0 (P5 args) H0):Aq P f args r:=by
 unfold P6 at b
 simp only [Bool.and_eq_true] at b
 obtain ⟨⟨u,y⟩,G⟩:=b
 have G:=Nat.le_of_ble_eq_true G
 refine ⟨⟨fn,D,g,by rw [hb]; rfl⟩,fun σ F W w vs s hc=>?_⟩
 have j:(vs++Array.replicate (fn.ntmps-vs.size) undef).size=fn.ntmps:=by
  have:=hc.1
  simp; omega
 refine calls_of_wp D hb (J E L F W σ ι0 _ w _ (by rw [j]; exact u) s (Agg hc) (fun _ _=>rfl) ?_)
 intro x U e' H' N R B w' hq le s' z _ _ i A _
 have k:∀q∈fn.results.toList,Nz q<B.tmps.size:=by
  intro q hq'
  rw [i]
  have:=Fq (List.all_eq_true.1 y q hq')
  rw [j]; exact this
 have fin:Ny C.T fn.results.toList (· = r) e' H'->B.defers = []/\∃v,(results fn B.tmps).run P w' = .ok v w'/\∃v0 l,Ending.returned v = .returned v0/\σ.le l/\St l ι0 H0 F W w'/\Conc l ι0 H0 r v0:=by
  intro hq
  obtain ⟨v,I,V,S,h1,h2,h3,h4,M⟩:=Aqe E s' z k hq
  subst h2
  exact ⟨A,v,h1,v,I,rfl,Aw.le_trans le.sto h3.sto,h4.forget,M.to0 h⟩
 cases x with
 | normal=>exact fin hq
 | ret=>exact fin hq
 | exit id=>exact hq.elim
theorem Aqv (fz:Bool) (V:Ch P C.T) (hm:P.follows .mixedOrders=true) {f:FuncId} {fn:Func} {c:Code} {args:List AV} {r:AV} {hs b:List Bc} (U:P.funcs[f]? = some fn) (hb:fn.body=some c) (l:(fn.name == "runtime.NumGoroutine")=false)
  (j:P6 fn c args.length=true) (g:Aak hs r b=true) (hv:wc P C c (fun _ e H=>N1 C.T fz fn.results.toList r b e H) (fun _ _ _ _=>False) (fun _ e H=>N1 C.T fz fn.results.toList r b e H) hs.length (P5 args) (hp hs)):Bq P f args hs r b:=by
 unfold P6 at j
 unfold Aak at g
 simp only [Bool.and_eq_true] at j g
 obtain ⟨⟨G,J⟩,X⟩:=j
 obtain ⟨⟨D,I⟩,M⟩:=g
 have D:=Nat.le_of_ble_eq_true D
 have X:=Nat.le_of_ble_eq_true X
 refine ⟨⟨fn,U,l,by rw [hb]; rfl⟩,fun σ F W w ι vs s hc=>?_⟩
 have A:(vs++Array.replicate (fn.ntmps-vs.size) undef).size=fn.ntmps:=by
  have:=hc.1
  simp; omega
 refine calls_of_wp U hb (hv V hm F W σ ι _ w _ (by rw [A]; exact G) s (Agg hc) (fun _ h=>L8 h) ?_)
 intro x n' e' H' σ' Z S w' hq le s' N _ _ z R _
 have B:∀q∈fn.results.toList,Nz q<S.tmps.size:=by
  intro q hq'
  rw [z]
  have:=Fq (List.all_eq_true.1 J q hq')
  rw [A]; exact this
 have fin:N1 C.T fz fn.results.toList r b e' H'->S.defers = []/\∃v,(results fn S.tmps).run P w' = .ok v w'/\∃v0 E ι0,Ending.returned v = .returned v0/\Le σ ι (hp hs) E ι0 (hp b)/\St E ι0 (hp b) F W w'/\Conc E ι0 (hp b) r v0:=by
  intro hq
  obtain ⟨v,Y,H2,h1,h2,h3,h4,h5⟩:=Aqf V s' N B hq
  have u:∀i,i<b.length->H2 i=hp b i:=fun i hi=>by simpa using h2.spec i hi
  refine ⟨R,v,h1,v,Y,(fun k=>if k<b.length then Z k else .none),rfl,?_,h4.first b u M,?_⟩
  .have y:=le.trans h3
   refine ⟨y.sto,fun k=>?_⟩
   by_cases hk:k<b.length
   .rw [if_pos hk,<-u k hk]; exact y.obj k
   .rw [if_neg hk,L8 (by omega),L8 (by omega)]
    have:ι k = .none:=by have:=s.obj k; unfold Ca at this; rw [L8 (by omega)] at this; exact this
    rw [this]; exact HLe.refl _ _
  .exact h5.restrict (n:=b.length) (fun h L=>if_pos L) (fun h L=>(u h L).symm) I
 cases x with
 | normal=>exact fin hq
 | ret=>exact fin hq
 | exit id=>exact hq.elim
end
end Go.Ab
namespace Go.Ab
theorem Ag0 {id:Nat}:∀{k b:List Item},exitTo id k=some b->b.length<k.length
 | [],b,h=>by cases h
 | x::k,b,h=>by
  have ih:exitTo id k=some b->b.length<(x::k).length:=fun h=>Nat.lt_succ_of_lt (Ag0 h)
  unfold exitTo at h
  split at h
  .rename_i f c heq
   cases heq
   split at h
   .cases h; simp
   .exact ih h
  .rename_i g c _ heq
   cases heq; exact ih h
  .rename_i heq; cases heq
theorem Aaw {P:Program} {m f c:Machine} (h:step P m = .next f) (h':Steps P m c):c=m\/Steps P f c:=by
 obtain ⟨n,b⟩:=h'
 cases n with
 | zero=>left; simp only [runN,Stepped.next.injEq] at b; exact b.symm
 | succ n=>right; simp only [runN,h] at b; exact ⟨n,b⟩
theorem Ag1 {b:Frame} {a f:Act} {k c:List Item} {cs:List Frame} {w w':World} (h:lone (b.at a k) cs w=lone (b.at f c) cs w'):k=c:=by
 simp only [lone,Machine.mk.injEq,Array.mk.injEq,List.cons.injEq,Goroutine.mk.injEq,Frame.at,Frame.mk.injEq] at h
 exact h.2.1.1.1.2.2.1
def Aqw:Exit->Bool
 | .normal | .exit _ | .ret=>true
 | _=>false
theorem Aqx {P:Program} {Q:Exit->Act->World->Prop} {a:Act} {w:World} {c:Code} (h:c.wp P (Exit.then (fun B w'=>(Code.loop c).wp P (fun e a w=>Aqw e=true/\Q e a w) B w') Q) a w):(Code.loop c).wp P Q a w:=by
 intro b k cs
 obtain ⟨e,a1,i,hq,f⟩:=h b (.inLoop c::k) cs
 have first:Steps P (lone (b.at a (.code (.loop c)::k)) cs w) (lone (b.at a (.code c :: .inLoop c::k)) cs w):=.one step_loop
 cases e with
 | normal=>
  obtain ⟨u,a2,y,⟨s,q⟩,g⟩:=hq b k cs
  have j:Steps P (lone (b.at a (.code (.loop c)::k)) cs w) (lone (b.at a1 (.code c :: .inLoop c::k)) cs i):=first.trans (Steps.trans f (.one step_inLoop))
  refine ⟨u,a2,y,q,.of_steps j ?_⟩
  cases u with
  | normal=>
   rcases Aaw step_loop g with e | e
   .have:=congrArg List.length (Ag1 e); simp at this
   .exact e
  | exit id=>
   intro z hk
   rcases Aaw step_loop (g z hk) with e | e
   .have h1:=Ag0 hk
    have h2:=congrArg List.length (Ag1 e); simp at h2; omega
   .exact e
  | ret=>
   obtain ⟨todo,hs⟩:=g
   rcases Aaw step_loop hs with e | e
   .simp only [lone,Machine.mk.injEq,Array.mk.injEq,List.cons.injEq,Goroutine.mk.injEq,Frame.at,Frame.mk.injEq] at e
    simp at e
   .exact ⟨todo,e⟩
  | goto l=>cases s
  | panic A=>cases s
  | outgrown=>cases s
 | exit id=>exact ⟨_,a1,i,hq,.of_steps first (.pass (x:=.inLoop c) rfl (fun _ _=>.inl (by simp)) f)⟩
 | goto l=>exact ⟨_,a1,i,hq,.of_steps first (.pass (x:=.inLoop c) rfl (fun _ _=>.inl (by simp)) f)⟩
 | ret=>exact ⟨_,a1,i,hq,.of_steps first (.pass (x:=.inLoop c) rfl (fun _ _=>.inl (by simp)) f)⟩
 | panic A=>exact ⟨_,a1,i,hq,.of_steps first (.pass (x:=.inLoop c) rfl (fun _ _=>.inl (by simp)) f)⟩
 | outgrown=>exact ⟨_,a1,i,hq,.of_steps (b:=b) (k:=k) (cs:=cs) (e:=.outgrown) first (.pass (x:=.inLoop c) rfl (fun _ _=>.inl (by simp)) f)⟩
section
variable {P:Program} {C:Cfg} {Qn:Nat->Bf->Hp->Prop} {Qe:Nat->Nat->Bf->Hp->Prop} {Qr:Nat->Bf->Hp->Prop} {n:Nat} {e:Bf} {H:Hp}
theorem N4 {c:Code} (k:wc P C c (fun n e H=>wc P C (.loop c) Qn Qe Qr n e H) Qe Qr n e H):wc P C (.loop c) Qn Qe Qr n e H:=by
 intro R M F W σ ι a w Q l s he hn hk
 refine Aqx (k R M F W σ ι a w _ l s he hn ?_)
 intro x L S U y z a1 A hq f B h g q b i hu
 cases x with
 | normal=>
  refine hq R M F W y z a1 A _ (by rw [b]; exact l) B h g ?_
  intro x n2 e2 H2 V X a2 Y G D Z J I N j u E
  exact ⟨by cases x <;> rfl,hk x n2 e2 H2 V X a2 Y G (f.trans D) Z J I (by omega) (j.trans b) (u.trans i) (hu.trans E)⟩
 | exit id=>exact hk (.exit id) L S U y z a1 A hq f B h g q b i hu
 | ret=>exact hk .ret L S U y z a1 A hq f B h g q b i hu
def Vw (x:AV) (v:Value):Prop:=∀sz xs,x = .sl sz xs->∃p c,v = .slice p xs.length c/\(p=none->xs = [])
theorem Aax {c:Code} (s:Nat) (k:∀v,Vw (e s) v->wc P C c Qn Qe Qr n (A3 e s (.val v)) H):wc P C c Qn Qe Qr n e H:=by
 intro z y F W σ ι a w Q f u he x hk
 by_cases hs:s<a.tmps.size
 .have hc:=he s hs
  refine k (a.tmps.getD s undef) ?_ z y F W σ ι a w Q f u ?_ x hk
  .intro sz xs hx
   rw [hx] at hc
   rcases hc.sl_inv.sl_inv with ⟨rfl,p,cap,e⟩ | ⟨b,off,cap,C,E,fr,g,e,_⟩
   .exact ⟨p,cap,e,fun _=>rfl⟩
   .exact ⟨_,cap,e,fun h=>by cases h⟩
  .intro q hq
   by_cases h:q=s
   .subst h; rw [B5]; exact .of_val _
   .rw [Cp _ _ h]; exact he q hq
 .have l:∃v,Vw (e s) v:=by
   cases hx:e s with
   | sl sz xs=>exact ⟨.slice (some ⟨0,0,none⟩) xs.length 0,fun j i h=>by cases h; exact ⟨_,_,rfl,fun h=>by cases h⟩⟩
   | _=>exact ⟨undef,fun j i h=>by cases h⟩
  obtain ⟨v,l⟩:=l
  refine k v l z y F W σ ι a w Q f u ?_ x hk
  intro q hq
  rw [Cp _ _ (by omega)]; exact he q hq
end
end Go.Ab
namespace Go.Ab
def Wg {α:Type} (n:Nat) (a:List α):Option (List α×List α):=(B7 n [] a).bind fun o=>some ([],o)
def P9 {α:Type} (n:Int):Option (List α):=bif decide (0<=n)&&decide (n<=1000000) then some [] else none
end Go.Ab
namespace Go.Ab
def Wh (l:List ByteArray) (s:ByteArray):Option ByteArray:=if (Lib.join (l.map (·.data.toList)) s.data.toList).length<=140737488355328 then some ⟨(Lib.join (l.map (·.data.toList)) s.data.toList).toArray⟩ else none
def Wi (s:ByteArray) (n:Int):Option ByteArray:=if 0<=n/\n<=140737488355328/\s.size*n.toNat<=140737488355328 then some ⟨(Lib.repeatL s.data.toList n.toNat).toArray⟩ else none
def Wj (a b:Int):Option ByteArray:=bif b==10 then (if 0<=a/\a<18446744073709551616 then some ⟨(Lib.decDigits a.toNat).toArray⟩ else none) else none
end Go.Ab
