/- Abstract values. -/
import Derived.Test.YtbpbaimlddncnaaGreatDoorPcAb
open List
namespace Go.Ab
def H0:Hp:=λ_=>.none
def ι0:Bx:=λ_=>.none
def V7 (P:Program) (f:FuncId):Prop:=∃fn,P.funcs[f]? = some fn/\(fn.name == "runtime.NumGoroutine")=false/\fn.body.isNone=false
def Ks (σ:Ax) (ι:Bx) (H:Hp) (args:List AV) (vs:Array Value):Prop := vs.size=args.length/\∀(i:Nat) (a:AV) (v:Value),args[i]? = some a->vs[i]? = some v->Conc σ ι H a v
def A6 (P:Program) (f:FuncId) (args:List AV) (r:AV):Prop := V7 P f/\∀(σ F:Ax) (W w:World) (d:Array Value),St σ ι0 H0 F W w->Ks σ ι0 H0 args d -> Calls P f d w λe w'=>∃v b,e = .returned v/\σ.le b/\St b ι0 H0 F W w'/\Conc b ι0 H0 r v
def AV.under0 (n:Nat):AV->Bool
 | .loc h _ | .mp h | .vec h _=>Nat.blt h n
 | .arr h _ _ _ | .el h _ _ _=>Nat.blt h n
 | .val _ | .sl _ _ | .ref _ | .fb _=>true
 | _=>false
def AV.under1 (n:Nat):AV->Bool
 | .loc h _ | .mp h | .vec h _=>Nat.blt h n
 | .arr h _ _ _ | .el h _ _ _=>Nat.blt h n
 | .val _ | .sl _ _ | .ref _ | .fb _=>true
 | .fn _ cs=>cs.all (AV.under0 n)
 | _=>false
def AV.under2 (n:Nat):AV->Bool
 | .agg cs=>cs.all (AV.under1 n)
 | x=>x.under1 n
def AV.under (n:Nat):AV->Bool
 | .agg cs | .fn _ cs=>cs.all (AV.under1 n)
 | .tup cs=>cs.all (AV.under2 n)
 | x=>x.under1 n
def Bf.under (n:Nat):Bf->Bool
 | .cells _ cs=>cs.all (AV.under1 n)
 | .map _=>true
 | .rows _ _ _=>true
 | .none=>true
 | .dead=>true
def Afj (es:Nat->Nat):AV->AV
 | .loc h d=>.loc (es h) d
 | .mp h=>.mp (es h)
 | .vec h k=>.vec (es h) k
 | .arr h k d len=>.arr (es h) k d len
 | .el h k i j=>.el (es h) k i j
 | x=>x
def Ni (es:Nat->Nat):AV->AV
 | .loc h d=>.loc (es h) d
 | .mp h=>.mp (es h)
 | .vec h k=>.vec (es h) k
 | .arr h k d len=>.arr (es h) k d len
 | .el h k i j=>.el (es h) k i j
 | .fn f cs=>.fn f (cs.map (Afj es))
 | x=>x
variable {r:AV} {hs:List Bf} {P:Program}
def Afk (es:Nat->Nat):AV->AV
 | .agg cs=>.agg (cs.map (Ni es))
 | x=>Ni es x
def ren (es:Nat->Nat):AV->AV
 | .agg cs=>.agg (cs.map (Ni es))
 | .tup cs=>.tup (cs.map (Afk es))
 | .fn f cs=>.fn f (cs.map (Ni es))
 | x=>Ni es x
def I6 (es:Nat->Nat):Bf->Bf
 | .cells E cs=>.cells E (cs.map (Ni es))
 | o=>o
def hp (hs:List Bf):Hp:=λk=>hs.getD k .none
def Bm (P:Program) (f:FuncId) (args:List AV) (hs:List Bf) (r:AV) (b:List Bf):Prop := V7 P f/\∀(σ F:Ax) (W w:World) (ι:Bx) (d:Array Value),St σ ι (hp hs) F W w->Ks σ ι (hp hs) args d -> Calls P f d w λe w'=>∃v c g,e = .returned v/\Le σ ι (hp hs) c g (hp b)/\St c g (hp b) F W w'/\Conc c g (hp b) r v
def Mn (P:Program) (f:FuncId) (args:List AV) (hs:List Bf) (R:AV->List Bf->Prop):Prop := V7 P f/\∀(σ F:Ax) (W w:World) (ι:Bx) (d:Array Value),St σ ι (hp hs) F W w->Ks σ ι (hp hs) args d -> Calls P f d w λe w'=>∃r b v c g,R r b/\e = .returned v/\Le σ ι (hp hs) c g (hp b)/\St c g (hp b) F W w'/\Conc c g (hp b) r v
theorem Bm.toR {f:FuncId} {args:List AV} {c:List Bf} (h:Bm P f args hs r c):Mn P f args hs λa b=>a=r/\b=c := ⟨h.1,λσ F W w ι vs s hc=>(h.2 σ F W w ι vs s hc).mono λ_ _ ⟨v,g,i,a⟩=>⟨r,c,v,g,i,⟨rfl,rfl⟩,a⟩⟩
theorem Mn.one {f:FuncId} {args:List AV} {R:AV->List Bf->Prop} {c:List Bf} (h:Mn P f args hs R) (h1:∀a b,R a b->a=r/\b=c):Bm P f args hs r c := ⟨h.1,λσ F W w ι vs s hc=>(h.2 σ F W w ι vs s hc).mono λ_ _ ⟨a,b,v,g,i,j,q⟩=>⟨v,g,i,by obtain⟨rfl,rfl⟩:=h1 a b j;exact q⟩⟩
def C1 (n:Nat):List Nat->Nat->Nat
 | [],k=>n+k
 | h::_,0=>h
 | _::l,k+1=>C1 n l k
def Nj (n:Nat):List Nat->Bool
 | []=>true
 | h::l=>Nat.blt h n && !(l.elem h)&&Nj n l
def Ed (es:Nat->Nat):Nat->List Bf->List (Nat×Bf)
 | _,[]=>[]
 | k,o::os=>(es k,I6 es o)::Ed es (k+1) os
def Ci (es:Nat->Nat):Nat->Nat->List (Nat×Bf)
 | _,0=>[]
 | k,c+1=>(es k,.none)::Ci es (k+1) c
def Mo (H:Hp):List (Nat×Bf)->Prop
 | []=>True
 | p::l=>H p.1=p.2/\Mo H l
def Jx (n:Nat) (l:List Nat) (c:List AV) (hs:List Bf) (r:AV) (b:List Bf):Bool := Nj n l&&Nat.beq hs.length l.length&&Nat.ble l.length b.length&&c.all (AV.under l.length)&&hs.all (Bf.under l.length)&&r.under b.length&&b.all (Bf.under b.length)
inductive Tw (xs:List AV) (i:Int) (K:Nat->AV->Prop):Prop where
 | mk (n:Nat) (x:AV) (hi:i=n) (hx:xs[n]? = some x) (k:K n x)
inductive Q8 (len:Nat) (kk:Nat) (xs:List AV) (i:Int) (K:Nat->Prop):Prop where
 | mk (n:Nat) (hk:xs.length=kk) (hi:i=n) (hn:n<len) (k:K n)
inductive Og (len:Nat) (i:Int) (K:Nat->Prop):Prop where
 | mk (n:Nat) (hi:i=n) (hn:n<len) (k:K n)
inductive Ih (k:IntKind) (n:Int) (K:Int->Prop):Prop where
 | mk (c:Int) (h:k.wrap n=c) (k:K c)
inductive Z9 (k:IntKind) (m n:Int) (K:Int->Prop):Prop where
 | mk (c:Int) (hn:n≠0) (h:k.wrap (m.tdiv n)=c) (k:K c)
inductive Aaa (m n:Int) (K:Int->Prop):Prop where
 | mk (c:Int) (hn:n≠0) (h:m.tmod n=c) (k:K c)
inductive Aab (k:IntKind) (m n:Int) (K:Int->Prop):Prop where
 | mk (c:Int) (hn:0<=n) (h:m.fdiv (2 ^ (min n.toNat k.bits))=c) (k:K c)
inductive Avt (k:IntKind) (m n:Int) (K:Int->Prop):Prop where
 | mk (c:Int) (hn:0<=n) (h:k.wrap (m*2 ^ (min n.toNat k.bits))=c) (k:K c)
inductive Aac (n:Nat) (lo hi:Int) (K:Nat->Nat->Prop):Prop where
 | mk (l h:Nat) (el:lo=l) (eh:hi=h) (h1:l<=h) (h2:h<=n) (k:K l h)
inductive Mp (xs:List AV) (lo hi:Int) (K:List AV->Prop):Prop where
 | mk (l h:Nat) (ys:List AV) (el:lo=l) (eh:hi=h) (h1:l<=h) (h2:h<=xs.length) (hy:(xs.take h).drop l=ys) (k:K ys)
inductive Akw (kk:Nat) (xs:List AV) (n:Nat) (lo hi:Int) (K:Nat->Nat->Prop) (KE:Prop):Prop where
 | mk (l h:Nat) (hk:xs.length=kk) (el:lo=l) (eh:hi=h) (h1:l<=h) (h2:h<=n) (h3:l=0\/l<h) (k:K l h)
 | mkE (l:Nat) (hk:xs.length=kk) (el:lo=l) (eh:hi=l) (h2:l<=n) (k:KE)
inductive Aad (s:ByteArray) (i:Int) (K:UInt8->Prop):Prop where
 | mk (n:Nat) (c:UInt8) (hi:i=n) (hc:s[n]? = some c) (k:K c)
inductive Aae (n:Nat) (K:Prop):Prop where
 | mk (h:n<=9223372036854775807) (k:K)
inductive Tx (len cap:Int) (bytes:Nat) (z:AV) (K:Nat->List AV->Prop):Prop where
 | mk (l c:Nat) (zs:List AV) (el:len=l) (ec:cap=c) (h1:l<=c) (h2:bytes*c<=281474976710656) (h3:c<=140737488355328) (hz:replicate l z=zs) (k:K l zs)
 | mkN (z':AV) (hn:G0 z.cells z'.cells) (l c:Nat) (zs:List AV) (el:len=l) (ec:cap=c) (h1:l<=c) (h2:bytes*c<=281474976710656) (h3:c<=140737488355328) (hz:replicate l z'=zs) (k:K l zs)
inductive Mq (xs ys:List AV) (kk len bytes:Nat) (K:List AV->Nat->Prop) (KP:List AV->Nat->Nat->Prop):Prop where
 | mkP (zs:List AV) (k' m:Nat) (hk:xs.length=kk) (hl:len<=kk) (hb:(xs.length+ys.length)*bytes<=140737488355328) (hz:F9 xs len ys=zs) (hk':zs.length=k') (hm:len+ys.length=m) (k:KP zs k' m)
 | mk (zs:List AV) (m:Nat) (hk:xs.length=kk) (hl:len=kk) (hb:(xs.length+ys.length)*bytes<=140737488355328) (hz:xs++ys=zs) (hm:kk+ys.length=m) (k:K zs m)
inductive Avu (ys:List AV) (K:Prop):Prop where
 | mk (hy:ys = []) (k:K)
inductive Q9 (ys:List AV) (bytes:Nat) (K:List AV->Nat->Prop):Prop where
 | mk (zs:List AV) (m:Nat) (hb:ys.length*bytes<=140737488355328) (hz:ys=zs) (hm:ys.length=m) (k:K zs m)
inductive Avv (xs:List AV) (kk len k2 off2 len2 bytes:Nat) (K:List AV->Nat->Nat->Prop):Prop where
 | mk (zs:List AV) (k' m:Nat) (hk:xs.length=kk) (hl:len<=kk) (hk2:xs.length=k2) (hl2:off2+len2<=kk) (hb:(xs.length+len2)*bytes<=140737488355328) (hz:F9 xs len ((xs.drop off2).take len2)=zs) (hk':zs.length=k') (hm:len+len2=m) (k:K zs k' m)
inductive Avw (xs:List AV) (kk off len k2 off2 len2:Nat) (K:List AV->Nat->Prop):Prop where
 | mk (zs:List AV) (c:Nat) (hk:xs.length=kk) (hl:off+len<=kk) (hk2:xs.length=k2) (hl2:off2+len2<=kk) (hz:F9 xs off ((xs.drop off2).take (min len2 len))=zs) (hc:min len2 len=c) (k:K zs c)
inductive Avx (xs:List AV) (kk off len:Nat) (z:AV) (K:List AV->Prop):Prop where
 | mk (zs:List AV) (hk:xs.length=kk) (hl:off+len<=kk) (hz:F9 xs off (replicate len z)=zs) (k:K zs)
inductive Akx (a b:Nat) (K:Prop):Prop where
 | mk (h:a<=b) (k:K)
inductive Aky (xs:List AV) (n:Nat) (K:List AV->Prop):Prop where
 | mk (ys:List AV) (hy:xs.take n=ys) (k:K ys)
inductive V8 (xs:List AV) (q:Nat) (p:AV) (K:List AV->Prop):Prop where
 | mk (zs:List AV) (hz:xs.set q p=zs) (k:K zs)
inductive Mr (xs:List AV) (K:Int->Prop):Prop where
 | mk (c:Int) (hc:(xs.length:Int)=c) (k:K c)
inductive Lv (kk i:Nat) (xs:List AV) (K:AV->Prop):Prop where
 | mk (x:AV) (hk:xs.length=kk) (hx:xs[i]? = some x) (k:K x)
inductive Hm (kk:Nat) (xs:List AV) (K:Prop):Prop where
 | mk (hk:xs.length=kk) (k:K)
def Ext (P:Program) (f:FuncId) (args:List AV) (r:AV):Prop := ∀(σ F:Ax) (W w:World) (d:Array Value),St σ ι0 H0 F W w->Ks σ ι0 H0 args d->∃v,(callFunc f d).run P w = .ok (.value v) w/\Conc σ ι0 H0 r v
inductive Fk (P:Program) (n:Nat) (H:Hp) (f:FuncId) (args:List AV) (K:Eff->Nat->Prop):Prop where
 | mk (r:AV) (h:A6 P f args r) (hf:args.all AV.free=true) (k:K ⟨r,[],[]⟩ n)
 | ext (r:AV) (h:Ext P f args r) (hf:args.all AV.free=true) (k:K ⟨r,[],[]⟩ n)
 | act (l:List Nat) (largs:List AV) (hs:List Bf) (r:AV) (hs':List Bf) (h:Bm P f largs hs r hs') (ha:largs.map (ren (C1 n l))=args) (ok:Jx n l largs hs r hs'=true) (hh:Mo H (Ed (C1 n l) 0 hs))
   (k:K ⟨ren (C1 n l) r,Ed (C1 n l) 0 hs++Ci (C1 n l) l.length (hs'.length-l.length),Ed (C1 n l) 0 hs'⟩ (n+(hs'.length-l.length)))
 | rd (l:List Nat) (largs:List AV) (hs:List Bf) (r:AV) (h:Bm P f largs hs r hs) (ha:largs.map (ren (C1 n l))=args) (ok:Jx n l largs hs r hs=true) (hh:Mo H (Ed (C1 n l) 0 hs))
   (k:K ⟨ren (C1 n l) r,Ed (C1 n l) 0 hs,[]⟩ n)
inductive Akz (s:ByteArray) (es:List (AV×AV)) (K:Option (Nat×AV)->Prop):Prop where
 | mk (r:Option (Nat×AV)) (h:Jg s es 0=some r) (k:K r)
inductive Aaf (op:BinOp) (k:FloatKind) (a b:Nat) (K:Nat->Prop):Prop where
 | mk (c:Nat) (h:floatBits op k a b=some c) (k:K c)
inductive Aag (k:FloatKind) (a:Nat) (q:IntKind) (K:Int->Prop):Prop where
 | mk (c:Int) (h:floatToIntVal k a q=some c) (k:K c)
inductive Ak0 (s:ByteArray) (v:AV) (es:List (AV×AV)) (K:List (AV×AV)->Prop):Prop where
 | mk (es':List (AV×AV)) (h:Z6 s v es=some es') (k:K es')
inductive Afl (P:Program) (t:TypeId) (us vs:List Value) (K:Bool->Prop):Prop where
 | mk (b:Bool) (h:Afc P t us vs b) (k:K b)
inductive Ak1 (P:Program) (t:TypeId) (f:Nat) (K:TypeId->Prop):Prop where
 | mk (ft:TypeId) (h:Afd P t f=some ft) (k:K ft)
inductive Afm (P:Program) (f:FuncId) (args:List AV) (K:AV->Prop):Prop where
 | mk (r:AV) (h:A6 P f args r) (hf:args.all AV.free=true) (k:K r)
inductive Ann where
 | frz (j:Nat)
 | std
 | own
 | ask
 | vec (m:Nat)
def Lw:AV->Bool
 | .val (.slice none 0 0)=>true
 | _=>false
def V9:AV->Bool
 | .val (.agg _)=>false
 | _=>true
def Afn (x:AV) (K:AV->Prop):Prop := match x with
 | .val v=>K (.val v)
 | .loc h d=>K (.loc h d)
 | .arr h k d len=>K (.arr h k d len)
 | .el h k i j=>K (.el h k i j)
 | .mp h=>K (.mp h)
 | .vec h n=>K (.vec h n)
 | .ref cs=>K (.ref cs)
 | .sl sz xs=>K (.sl sz xs)
 | .agg cs=>K (.agg cs)
 | .tup cs=>K (.tup cs)
 | .fn f cs=>K (.fn f cs)
 | .fb s=>K (.fb s)
def Ps:List AV->(List AV->Prop)->Prop
 | [],K=>K []
 | x::xs,K=>Afn x λx=>Ps xs λxs=>K (x::xs)
def Ty (x:AV) (K:AV->Prop):Prop := match x with
 | .agg cs=>Ps cs λcs=>K (.agg cs)
 | .tup cs=>Ps cs λcs=>K (.tup cs)
 | .fn f cs=>Ps cs λcs=>K (.fn f cs)
 | x=>Afn x K
def Tz:List AV->(List AV->Prop)->Prop
 | [],K=>K []
 | x::xs,K=>Ty x λx=>Tz xs λxs=>K (x::xs)
def Afo (o:Bf) (K:Bf->Prop):Prop := match o with
 | .cells E cs=>Ps cs λcs=>K (.cells E cs)
 | .rows E sz xs=>K (.rows E sz xs)
 | .map es=>K (.map es)
 | .none=>K .none
 | .dead=>K .dead
def Aah:List (Nat×Bf)->(List (Nat×Bf)->Prop)->Prop
 | [],K=>K []
 | p::l,K=>Afo p.2 λo=>Aah l λl=>K ((p.1,o)::l)
def Wa:List (Nat×Bf)->(List Nat->Prop)->Prop
 | [],K=>K []
 | p::l,K=>Wa l λl=>K (p.1::l)
theorem Ak2 (x:AV) (K:AV->Prop):Afn x K=K x:=by cases x <;> rfl
theorem Aai:∀(l:List AV) (K:List AV->Prop),Ps l K=K l
 | [],_=>rfl
 | x::xs,K=>by simp only[Ps,Ak2,Aai xs]
theorem Wb (x:AV) (K:AV->Prop):Ty x K=K x:=by cases x <;> simp only[Ty,Aai,Ak2]
theorem Aaj:∀(l:List AV) (K:List AV->Prop),Tz l K=K l
 | [],_=>rfl
 | x::xs,K=>by simp only[Tz,Wb,Aaj xs]
theorem Avy (o:Bf) (K:Bf->Prop):Afo o K=K o:=by cases o <;> simp only[Afo,Aai]
theorem Afp:∀(l:List (Nat×Bf)) (K:List (Nat×Bf)->Prop),Aah l K=K l
 | [],_=>rfl
 | p::l,K=>by simp only[Aah,Avy,Afp l]
theorem Afq:∀(l:List (Nat×Bf)) (K:List Nat->Prop),Wa l K=K (l.map (·.1))
 | [],_=>rfl
 | p::l,K=>by simp only[Wa,Afq l,map_cons]
def sop (P:Program) (T:C6) (an:Nat->Ann) (n:Nat) (o:Oper) (ρ:Operand->AV) (H:Hp) (K:Eff->Nat->Prop):Prop :=
 match o.op with
 | .move x=>K ⟨ρ x,[],[]⟩ n
 | .assign x=>
  match o.dst with
  | none=>K ⟨ρ x,[],[]⟩ n
  | some d=>
   match an d with
   | .frz _=>K ⟨ρ x,[],[]⟩ n
   | .std=>K ⟨ρ x,[],[]⟩ n
   | .ask=>K ⟨ρ x,[],[]⟩ n
   | .vec _=>K ⟨ρ x,[],[]⟩ n
   | .own=>bif Lw (ρ x) then
     match T o.type with
     | some ⟨.slice e,_,_,_⟩=>
      match T e with
      | some g=>bif Nat.blt 0 g.size then K ⟨.arr n 0 0 0,[(n,.none)],[(n,.rows e g.size [])]⟩ (n+1) else False
      | none=>False
     | _=>False
    else K ⟨ρ x,[],[]⟩ n
 | .pick c a b=>
  match ρ c with
  | .val (.bool t)=>K ⟨bif t then ρ a else ρ b,[],[]⟩ n
  | _=>False
 | .alloc t=>
  match T t with
  | some i=>K ⟨.loc n 0,[(n,.none)],[(n,.cells t (i.zero.map .val))]⟩ (n+1)
  | none=>False
 | .box t x=>K ⟨.loc n 0,[(n,.none)],[(n,.cells t (ρ x).cells)]⟩ (n+1)
 | .build t parts=>
  match T t with
  | some ⟨.struct fs,_,_,z⟩=>
   match Tq fs (z.map .val) (parts.toList.map λp=>(p.1,ρ p.2)) with
   | some cs=>K ⟨.agg cs,[],[]⟩ n
   | none=>False
  | _=>False
 | .buildSlice t len parts=>
  match T t with
  | some ⟨.slice e,_,_,_⟩=>
   match T e with
   | some g=>
    bif Nat.blt 0 g.size&&(parts.toList.map (·.1)==range' 0 len)&&Nat.ble (len*g.size) 16777216&&parts.toList.all (λp=>La g.size (ρ p.2)) then
     match an (o.dst.getD 0) with
     | .frz _=>False
     | .vec _=>False
     | .std=>Tz (parts.toList.map λp=>ρ p.2) λxs=>K ⟨.sl g.size xs,[],[]⟩ n
     | .ask=>Tz (parts.toList.map λp=>ρ p.2) λxs=>K ⟨.sl g.size xs,[],[]⟩ n
     | .own=>Tz (parts.toList.map λp=>ρ p.2) λxs=>K ⟨.arr n len 0 len,[(n,.none)],[(n,.rows e g.size xs)]⟩ (n+1)
    else False
   | none=>False
  | _=>False
 | .load t x=>
  match T t with
  | some i=>
   match ρ x with
   | .ref cs=>bif i.isAgg then (bif Nat.ble i.size cs.length then K ⟨.agg (cs.take i.size),[],[]⟩ n else False) else
     match cs with
     | c::_=>K ⟨c,[],[]⟩ n
     | []=>False
   | .loc h a0=>
    match H h with
    | .cells E cs=>bif i.isAgg then (bif Nat.ble (a0+i.size) cs.length then K ⟨.agg ((cs.drop a0).take i.size),[(h,.cells E cs)],[]⟩ n else False) else
      match cs[a0]? with
      | some c=>K ⟨c,[(h,.cells E cs)],[]⟩ n
      | none=>False
    | _=>False
   | .el h k q j=>
    match H h with
    | .rows E sz xs=>Lv k q xs λy=>bif i.isAgg then (bif Nat.ble (j+i.size) y.cells.length then K ⟨.agg ((y.cells.drop j).take i.size),[(h,.rows E sz xs)],[]⟩ n else False) else
      match y.cells[j]? with
      | some c=>K ⟨c,[(h,.rows E sz xs)],[]⟩ n
      | none=>False
    | _=>False
   | _=>False
  | none=>False
 | .store t x y=>
  match T t with
  | some i=>
   match ρ x with
   | .loc h a0=>
    match H h with
    | .cells E cs=>bif Nat.beq (ρ y).cells.length i.size&&Nat.ble (a0+i.size) cs.length&&(ρ y).cells.all AV.one then K ⟨.val undef,[(h,.cells E cs)],[(h,.cells E (Ml cs a0 (ρ y).cells))]⟩ n else False
    | _=>False
   | .el h k q j=>
    match H h with
    | .rows E sz xs=>Lv k q xs λz=>bif Nat.beq (ρ y).cells.length i.size&&Nat.blt 0 i.size&&Nat.ble (j+i.size) z.cells.length&&(ρ y).cells.all AV.cl1&&V9 z then
      Ps (ρ y).cells λys=>Ty (V2 z j ys) λp=>V8 xs q p λu=>K ⟨.val undef,[(h,.rows E sz xs)],[(h,.rows E sz u)]⟩ n else False
    | _=>False
   | _=>False
  | none=>False
 | .nilCheck x=>bif (ρ x).isPtr then K ⟨ρ x,[],[]⟩ n else False
 | .binOp op t x y _=>
  match ρ x,ρ y with
  | .val (.int k a),.val (.int I b)=>
   match op with
   | .shl=>Avt k a b λc=>K ⟨.val (.int k c),[],[]⟩ n
   | .shr=>Aab k a b λc=>K ⟨.val (.int k c),[],[]⟩ n
   | op=>bif decide (k=I) then
     match op with
     | .add=>Ih k (a+b) λc=>K ⟨.val (.int k c),[],[]⟩ n
     | .sub=>Ih k (a-b) λc=>K ⟨.val (.int k c),[],[]⟩ n
     | .mul=>Ih k (a*b) λc=>K ⟨.val (.int k c),[],[]⟩ n
     | .quo=>Z9 k a b λc=>K ⟨.val (.int k c),[],[]⟩ n
     | .rem=>Aaa a b λc=>K ⟨.val (.int k c),[],[]⟩ n
     | op=>
      match Aeq op a b with
      | some t=>K ⟨.val (.bool t),[],[]⟩ n
      | none=>
       match Aey op k a b with
       | some c=>K ⟨.val (.int k c),[],[]⟩ n
       | none=>False
    else False
  | .val (.bool a),.val (.bool b)=>
   match T t with
   | some ⟨.bool,_,_,_⟩=>
    match Aez op a b with
    | some t=>K ⟨.val (.bool t),[],[]⟩ n
    | none=>False
   | _=>False
  | .agg xs,.agg ys=>
   match Of xs with
   | some U=>
    match Of ys with
    | some vs=>
     match op with
     | .eql=>Afl P t U vs λb=>K ⟨.val (.bool b),[],[]⟩ n
     | .neq=>Afl P t U vs λb=>K ⟨.val (.bool !b),[],[]⟩ n
     | _=>False
    | none=>False
   | none=>False
  | .val (.float k a),.val (.float I b)=>bif decide (k=I) then Aaf op k a b λc=>K ⟨.val (.float k c),[],[]⟩ n else False
  | .val (.string a),.val (.string b)=>
   match op with
   | .add=>Aae (a.size+b.size) (K ⟨.val (.string (a++b)),[],[]⟩ n)
   | op=>
    match Ae0 op a b with
    | some t=>K ⟨.val (.bool t),[],[]⟩ n
    | none=>False
  | .val (.slice p _ _),.val (.slice none _ _)=>
   match op with
   | .eql=>
    match T t with
    | some ⟨.slice _,_,_,_⟩=>K ⟨.val (.bool p.isNone),[],[]⟩ n
    | _=>False
   | _=>False
  | _,_=>False
 | .unOp op _ x=>
  match op,ρ x with
  | .not,.val (.bool b)=>K ⟨.val (.bool !b),[],[]⟩ n
  | .neg,.val (.int k m)=>Ih k (0-m) λc=>K ⟨.val (.int k c),[],[]⟩ n
  | _,_=>False
 | .convert s d x=>
  match T s,T d,ρ x with
  | some _,some ⟨.int k,_,_,_⟩,.val (.int _ m)=>Ih k m λc=>K ⟨.val (.int k c),[],[]⟩ n
  | some _,some ⟨.float k,_,_,_⟩,.val (.int _ m)=>K ⟨.val (.float k (floatOfInt k m)),[],[]⟩ n
  | some _,some ⟨.int k,_,_,_⟩,.val (.float q m)=>Aag q m k λc=>K ⟨.val (.int k c),[],[]⟩ n
  | _,_,_=>False
 | .makeFunc (.func f) first A=>bif first.isEmpty then K ⟨.fn f (A.toList.map ρ),[],[]⟩ n else False
 | .makeSlice t x y=>
  match T t with
  | some ⟨.slice e,_,_,_⟩=>
   match T e with
   | some g=>
    match ρ x,ρ y with
    | .val (.int _ l),.val (.int _ c)=>
     match an (o.dst.getD 0) with
     | .vec m=>
      match g.zero with
      | [v]=>
       bif Nat.beq g.size 1&&Nat.ble m 16&&Nat.ble (g.bytes*m) 281474976710656&&decide (l=(m:Int))&&decide (c=(m:Int)) then
        K ⟨.vec n m,[(n,.none)],[(n,.cells e (replicate m (.val v)))]⟩ (n+1)
       else False
      | _=>False
     | _=>
     bif Nat.blt 0 g.size&&La g.size (Fq g)&&Nat.beq (Fq g).cells.length g.zero.length&&V9 (Fq g) then
      Tx l c g.bytes (Fq g) λl u=>K ⟨.arr n l 0 l,[(n,.none)],[(n,.rows e g.size u)]⟩ (n+1)
     else False
    | _,_=>False
   | none=>False
  | _=>False
 | .slice t x lo hi none=>
  match T t with
  | some ⟨.slice e,_,_,_⟩=>
   match T e with
   | some g=>
    match ρ x with
    | .sl sz xs=>
     match Ig ρ 0 lo,Ig ρ xs.length hi with
     | some l,some h=>bif Nat.beq sz g.size then Mp xs l h λys=>K ⟨.sl sz ys,[],[]⟩ n else False
     | _,_=>False
    | .arr hd k a0 len=>
     match H hd with
     | .rows E sz xs=>
      match Ig ρ 0 lo,Ig ρ len hi with
      | some l,some h=>bif Nat.beq sz g.size then Akw k xs len l h (λl h=>K ⟨.arr hd k (a0+l) (h-l),[(hd,.rows E sz xs)],[]⟩ n) (K ⟨.sl g.size [],[(hd,.rows E sz xs)],[]⟩ n) else False
      | _,_=>False
     | _=>False
    | _=>False
   | none=>False
  | some ⟨.string,_,_,_⟩=>
   match ρ x with
   | .val (.string s)=>
    match Ig ρ 0 lo,Ig ρ s.size hi with
    | some l,some h=>Aac s.size l h λl h=>K ⟨.val (.string (s.extract l h)),[],[]⟩ n
    | _,_=>False
   | _=>False
  | _=>False
 | .fieldAddr s x f=>
  match T s with
  | some ⟨.struct fs,_,_,_⟩=>
   match fs[f]? with
   | some q=>
    match ρ x with
    | .loc h a0=>K ⟨.loc h (a0+q.1),[],[]⟩ n
    | .ref cs=>K ⟨.ref (cs.drop q.1),[],[]⟩ n
    | .el h k m j=>
     match H h with
     | .rows E sz xs=>Hm k xs (K ⟨.el h k m (j+q.1),[(h,.rows E sz xs)],[]⟩ n)
     | _=>False
    | _=>False
   | none=>False
  | _=>False
 | .indexAddr t x y=>
  match T t with
  | some ⟨.slice e,_,_,_⟩=>
   match T e with
   | some g=>
    match ρ x,ρ y with
    | .vec h m,.val (.int _ i)=>bif Nat.beq g.size 1 then Og m i λq=>K ⟨.loc h q,[],[]⟩ n else False
    | .sl sz xs,.val (.int _ i)=>bif Nat.beq sz g.size then Tw xs i λ_ z=>K ⟨.ref z.cells,[],[]⟩ n else False
    | .arr h k a0 len,.val (.int _ i)=>
     match H h with
     | .rows E sz xs=>bif Nat.beq sz g.size then Q8 len k xs i λm=>K ⟨.el h k (a0+m) 0,[(h,.rows E sz xs)],[]⟩ n else False
     | _=>False
    | _,_=>False
   | none=>False
  | _=>False
 | .index t x y=>
  match T t with
  | some ⟨.string,_,_,_⟩=>
   match ρ x,ρ y with
   | .val (.string s),.val (.int _ i)=>Aad s i λc=>K ⟨.val (.int .u8 c.toNat),[],[]⟩ n
   | _,_=>False
  | _=>False
 | .field s x f=>
  match T s with
  | some ⟨.struct fs,_,_,_⟩=>
   match fs[f]? with
   | some q=>
    match ρ x with
    | .agg cs=>Ak1 P s f λV=>
     match T V with
     | some J=>bif J.isAgg then (bif Nat.ble (q.1+J.size) cs.length then K ⟨.agg ((cs.drop q.1).take J.size),[],[]⟩ n else False) else
       match cs[q.1]? with
       | some c=>K ⟨c,[],[]⟩ n
       | none=>False
     | none=>False
    | _=>False
   | none=>False
  | _=>False
 | .makeMap _ none=>K ⟨.mp n,[(n,.none)],[(n,.map [])]⟩ (n+1)
 | .lookup t x y ok=>
  match T t with
  | some ⟨.map R X,_,_,_⟩=>
   match T R with
   | some ⟨.string,_,_,_⟩=>
    match T X with
    | some J=>
     match ρ x with
     | .mp h=>
      match ρ y with
      | .val (.string s)=>
       match H h with
       | .map es=>Akz s es λr=>K ⟨Afe ok J r,[(h,.map es)],[]⟩ n
       | _=>False
      | _=>False
     | _=>False
    | none=>False
   | _=>False
  | _=>False
 | .mapUpdate t x y z=>
  match T t with
  | some ⟨.map R _,_,_,_⟩=>
   match T R with
   | some ⟨.string,_,_,_⟩=>
    match ρ x with
    | .mp h=>
     match ρ y with
     | .val (.string s)=>
      match H h with
      | .map es=>bif (ρ z).free1 then Ty (ρ z) λv=>Ak0 s v es λS=>K ⟨.val undef,[(h,.map es)],[(h,.map S)]⟩ n else False
      | _=>False
     | _=>False
    | _=>False
   | _=>False
  | _=>False
 | .extract x i=>
  match ρ x with
  | .tup cs=>
   match cs[i]? with
   | some c=>K ⟨c,[],[]⟩ n
   | none=>False
  | _=>False
 | .call c=>
  match c.callee with
  | .value x=>
   match ρ x with
   | .fn f A=>
    match an (o.dst.getD 0) with
    | .frz j=>
     (match (c.args.toList.map ρ ++ A)[j]? with
     | some (.arr h k 0 len)=>
      (match H h with
      | .rows E sz xs=>Hm k xs (Hm len xs (Afm P f ((c.args.toList.map ρ ++ A).set j (.sl sz xs)) λr=>K ⟨r,[(h,.rows E sz xs)],[(h,.dead)]⟩ n))
      | _=>False)
     | _=>False)
    | _=>Fk P n H f (c.args.toList.map ρ ++ A) K
   | _=>False
  | .invoke _ _=>False
  | .builtin .len=>
   match c.args.toList,c.argTypes.toList with
   | [x],[t]=>
    match T t with
    | some ⟨.slice _,_,_,_⟩=>
     match ρ x with
     | .sl _ xs=>
      match an (o.dst.getD 0) with
      | .ask=>Mr xs λc=>K ⟨.val (.int .i64 c),[],[]⟩ n
      | _=>K ⟨.val (.int .i64 xs.length),[],[]⟩ n
     | .val (.slice _ m _)=>K ⟨.val (.int .i64 m),[],[]⟩ n
     | .vec _ m=>K ⟨.val (.int .i64 m),[],[]⟩ n
     | .arr h k _ len=>
      match H h with
      | .rows E sz xs=>Hm k xs (K ⟨.val (.int .i64 len),[(h,.rows E sz xs)],[]⟩ n)
      | _=>False
     | _=>False
    | some ⟨.string,_,_,_⟩=>
     match ρ x with
     | .val (.string s)=>K ⟨.val (.int .i64 s.size),[],[]⟩ n
     | _=>False
    | _=>False
   | _,_=>False
  | .builtin .cap=>
   match c.args.toList,c.argTypes.toList with
   | [x],[t]=>
    match T t with
    | some ⟨.slice _,_,_,_⟩=>
     match ρ x with
     | .val (.slice _ _ m)=>K ⟨.val (.int .i64 m),[],[]⟩ n
     | _=>False
    | _=>False
   | _,_=>False
  | .builtin .copy=>
   match c.args.toList,c.argTypes.toList with
   | [x,y],[t,t']=>
    match T t with
    | some ⟨.slice e,_,_,_⟩=>
     match T e with
     | some g=>
      match ρ y with
      | .arr h2 L D G=>
       match ρ x with
       | .arr h k a0 len=>
        match H h with
        | .rows E sz xs=>bif Nat.beq E e&&Nat.beq sz g.size&&Nat.beq h h2&&Nat.blt 0 g.size then
          Avw xs k a0 len L D G (λu c=>K ⟨.val (.int .i64 c),[(h,.rows e g.size xs)],[(h,.rows e g.size u)]⟩ n) else False
        | _=>False
       | .sl _ []=>
        match H h2 with
        | .rows E sz xs=>bif Nat.beq sz g.size then Hm L xs (K ⟨.val (.int .i64 0),[(h2,.rows E g.size xs)],[]⟩ n) else False
        | _=>False
       | _=>False
      | _=>False
     | none=>False
    | _=>False
   | _,_=>False
  | .builtin .clear=>
   match c.args.toList,c.argTypes.toList with
   | [x],[t]=>
    match T t with
    | some ⟨.slice e,_,_,_⟩=>
     match T e with
     | some g=>
      match ρ x with
      | .arr h k a0 len=>
       match H h with
       | .rows E sz xs=>bif Nat.beq E e&&Nat.beq sz g.size&&Nat.blt 0 g.size&&La g.size (Fq g)&&Nat.beq (Fq g).cells.length g.zero.length&&V9 (Fq g) then
         Avx xs k a0 len (Fq g) (λu=>K ⟨.tup [],[(h,.rows e g.size xs)],[(h,.rows e g.size u)]⟩ n) else False
       | _=>False
      | .sl _ []=>K ⟨.tup [],[],[]⟩ n
      | _=>False
     | none=>False
    | _=>False
   | _,_=>False
  | .builtin .append=>
   match c.args.toList,c.argTypes.toList with
   | [x,y],[t,t']=>
    match T t,T t' with
    | some ⟨.slice e,_,_,_⟩,some ⟨.slice _,_,_,_⟩=>
     match T e with
     | some g=>
      bif Nat.blt 0 g.size&&Nat.beq g.zero.length g.size&&Nat.ble 1 g.bytes then
       match ρ y with
       | .sl sz ys=>
        bif Nat.beq sz g.size then
         match ρ x with
         | .arr h k 0 len=>
          match H h with
          | .rows E B xs=>bif Nat.beq E e&&Nat.beq B g.size then
            match an (o.dst.getD 0) with
            | .frz _=>Mq xs ys k len g.bytes (λu _=>K ⟨.sl g.size u,[(h,.rows e g.size xs)],[(h,.dead)]⟩ n) (λ_ _ _=>False)
            | _=>Mq xs ys k len g.bytes (λu m=>K ⟨.arr h m 0 m,[(h,.rows e g.size xs)],[(h,.rows e g.size u)]⟩ n) (λu I m=>K ⟨.arr h I 0 m,[(h,.rows e g.size xs)],[(h,.rows e g.size u)]⟩ n) else False
          | _=>False
         | .val (.slice none 0 0)=>Q9 ys g.bytes λu m=>K ⟨.arr n m 0 m,[(n,.none)],[(n,.rows e g.size u)]⟩ (n+1)
         | .sl N M=>Avu ys (K ⟨.sl N M,[],[]⟩ n)
         | _=>False
        else False
       | .arr h2 L D G=>
        match ρ x with
        | .arr h k 0 len=>
         match H h with
         | .rows E B xs=>bif Nat.beq E e&&Nat.beq B g.size&&Nat.beq h h2 then
           Avv xs k len L D G g.bytes (λu I m=>K ⟨.arr h I 0 m,[(h,.rows e g.size xs)],[(h,.rows e g.size u)]⟩ n) else False
         | _=>False
        | _=>False
       | _=>False
      else False
     | none=>False
    | some ⟨.slice e,_,_,_⟩,some ⟨.string,_,_,_⟩=>
     match T e with
     | some g=>
      bif Nat.beq g.size 1&&Nat.beq g.zero.length g.size&&Nat.ble 1 g.bytes then
       match ρ y with
       | .val (.string s)=>
        match ρ x with
        | .arr h k 0 len=>
         match H h with
         | .rows E B xs=>bif Nat.beq E e&&Nat.beq B g.size then
           Mq xs (Jf s) k len g.bytes (λu m=>K ⟨.arr h m 0 m,[(h,.rows e g.size xs)],[(h,.rows e g.size u)]⟩ n) (λ_ _ _=>False) else False
         | _=>False
        | _=>False
       | _=>False
      else False
     | none=>False
    | _,_=>False
   | _,_=>False
  | .builtin .max=>
   match c.args.toList,c.argTypes.toList with
   | [x,y],[_,_]=>
    match ρ x,ρ y with
    | .val (.int k a),.val (.int _ b)=>K ⟨.val (.int k (if b>a then b else a)),[],[]⟩ n
    | _,_=>False
   | _,_=>False
  | .builtin .min=>
   match c.args.toList,c.argTypes.toList with
   | [x,y],[_,_]=>
    match ρ x,ρ y with
    | .val (.int k a),.val (.int _ b)=>K ⟨.val (.int k (if b<a then b else a)),[],[]⟩ n
    | _,_=>False
   | _,_=>False
  | _=>False
 | _=>False
section
variable {P:Program} {o:Oper} {ρ:Operand->AV} {a:Act} {w w':World} {next:Act->World->Prop} {Q:Exit->Act->World->Prop}
variable {r:AV} {F σ:Ax} {ι:Bx} {H:Hp} {b g:List AV} {x:Operand} {v:Value} {W:World}
def Ra (σ:Ax) (w:World):Ax:=λb=>match σ b with|none=>w.heap[b]? | some _=>none
theorem St.lend (s:St σ ι H F W w):St σ ι0 H0 (Ra σ w) W w:=by refine⟨s.sto,λb o hb=>?_,λh=>rfl,(λh h' b c=>by cases c),s.os,s.tape,s.output,s.glo,s.drw⟩;unfold Ra at hb;cases e:σ b with| none=>rw[e]at hb;exact⟨hb,rfl⟩| some _=>rw[e]at hb;cases hb
theorem St.unlend {k:Ax} (s:St σ ι H F W w) (g:σ.le k) (s':St k ι0 H0 (Ra σ w) W w'):St k ι H F W w':=by
 have d:∀b,σ b=none->∀o,w.heap[b]? = some o->w'.heap[b]? = some o/\k b=none:=by intro b hb o f;exact s'.fra b o (by unfold Ra;rw[hb];exact f)
 have le:Le σ ι H k ι H:=⟨g,λ_=>HLe.refl _ _⟩;refine⟨s'.sto,λb o hb=>?_,λh=>?_,s.inj,s'.os,s'.tape,s'.output,s'.glo,s'.drw⟩
 .obtain⟨h1,h2⟩:=s.fra b o hb;exact d b h2 o h1
 .have f:=s.obj h;unfold Cv at f ⊢;cases A:H h with
  | none=>rw[A]at f;exact f
  | dead=>trivial
  | cells E cs=>rw[A]at f;obtain⟨b,C,j,h1,h2,h3,z,D⟩:=f;obtain⟨u,l⟩:=d b h1 _ h3;exact⟨b,C,j,l,h2,u,z,λi c v x y=>(D i c v x y).mono le⟩
  | rows E sz xs=>
   rw[A]at f;obtain⟨G,L,⟨j,J⟩|⟨b,B,C,j,h1,h2,h3,z,D,I⟩⟩:=f
   .exact⟨G,L,.inl ⟨j,J⟩⟩
   .obtain⟨u,l⟩:=d b h1 _ h3;exact⟨G,L,.inr ⟨b,B,C,j,l,h2,u,z,D,I.mono g⟩⟩
  | map es=>rw[A]at f;obtain⟨b,M,q,j,h1,h2,h3,z⟩:=f;obtain⟨u,l⟩:=d b h1 _ h3;exact⟨b,M,q,j,l,h2,u,z.mono g⟩
theorem Conc.of0 {x:AV} (h:Conc σ ι0 H0 x v):Conc σ ι H x v:=by induction h with| cc h=>exact .cc h| loc h off b hb=>cases hb| mp h b hb=>cases hb| vec h n b hb=>cases hb| arr h k off len v s y c=>exact (s rfl).elim| el h k i j v s y c=>exact (s rfl).elim| ref cs b off C E fr g u hc h1 z=>exact .ref cs b off C E fr g u hc h1 z| agg cs vs l _ ih=>exact .agg cs vs l ih| tup cs vs l _ ih=>exact .tup cs vs l ih| fn f q vs l _ ih=>exact .fn f q vs l ih
theorem Avz {x:AV} (h:x.free1=true) (d:∀cs,x≠.agg cs):x.cl1=true:=by cases x <;> first|exact h|exact (d _ rfl).elim
theorem Conc.to0 {x:AV} (hx:x.free=true) (h:Conc σ ι H x v):Conc σ ι0 H0 x v:=by
 have D:∀(cs:List AV),cs.all AV.cl1=true->∀(i:Nat) (c:AV) (u:Value),cs[i]? = some c->Conc σ ι H c u->Conc σ ι0 H0 c u:=by intro cs s i c u hc h;exact .cc (h.cc_of (Ef.1 s c (E7 hc))).1
 cases h with
 | cc h=>exact .cc h
 | loc=>cases hx
 | mp=>cases hx
 | vec=>cases hx
 | arr=>cases hx
 | el=>cases hx
 | ref cs b off C E fr g z hc h1 B=>exact .ref cs b off C E fr g z hc h1 B
 | agg cs vs l h=>exact .agg cs vs l λi c u h1 h2=>D cs hx i c u h1 (h i c u h1 h2)
 | tup cs vs l h=>refine .tup cs vs l λi c u h1 h2=>?_;have hf:=Ef.1 hx c (E7 h1);have hc:=h i c u h1 h2;cases c with| agg ds=>obtain⟨y,rfl,q,A⟩:=hc.agg_inv;exact .agg ds y q λj d v I J=>D ds hf j d v I (A j d v I J)| _=>exact .cc (hc.cc_of (Avz hf (by intro cs e;cases e))).1
 | fn f k vs l h=>exact .fn f k vs l λi c u h1 h2=>D k hx i c u h1 (h i c u h1 h2)
theorem Conc.fn_inv {f:FuncId} (h:Conc σ ι H (.fn f b) v) : ∃vs:Array Value,v = .func (.func f) #[] vs/\vs.size=b.length/\∀(i:Nat) (c:AV) (u:Value),b[i]? = some c->vs[i]? = some u->Conc σ ι H c u:=by cases h with| cc h=>cases h| fn _ _ vs g h=>exact⟨vs,rfl,g,h⟩
theorem Aak {xs:Array Operand} {vs:Array Value} (D:∀x∈xs.toList,Conc σ ι H (ρ x) (a.eval x)) (h:vs.size=b.length) (g:∀(i:Nat) (c:AV) (u:Value),b[i]? = some c->vs[i]? = some u->Conc σ ι H c u):Ks σ ι H (xs.toList.map ρ ++ b) (xs.map a.eval++vs):=by
 refine⟨by simp[h],λi c u d B=>?_⟩;by_cases f:i<xs.size
 .rw[getElem?_append_left (by simpa using f),getElem?_map,Gi]at d;rw[Array.getElem?_append_left (by simpa using f),Array.getElem?_map]at B;simp[f]at d B;subst d;subst B;exact D _ ψ
 .rw[getElem?_append_right ζ]at d;rw[Array.getElem?_append_right ζ]at B;simp at d B;exact g _ c u d B
theorem Av0 {c:Call} {f:FuncId} (G:o.op = .call c) (h:c.callee = .value x) (U:ρ x = .fn f g) (hp:A6 P f (c.args.toList.map ρ ++ g) r) (l:(c.args.toList.map ρ ++ g).all AV.free=true):Ca P o ρ ⟨r,[],[]⟩:=by
 intro σ ι H F W w a next Q s B _ V
 obtain⟨⟨fn,X,k,q⟩,hp⟩:=hp;have z:=B x (by simp[G,Op.operands,Call.operands,h]);rw[U]at z;obtain⟨d,L,M,E⟩:=z.fn_inv;have j:Ks σ ι H (c.args.toList.map ρ ++ g) (c.args.map a.eval++d) :=
  Aak (λy N=>B y (by simp only[G,Op.operands,Call.operands,h];simp at N ⊢;exact .inr N)) M E
 have A:(execOp a.eval o).run P w = .ok (.enter f (c.args.map a.eval++d)) w:=by have I:(callFunc f (c.args.map a.eval++d)).run P w = .ok (.enter f (c.args.map a.eval++d)) w:=(by unfold callFunc;simp only[Sem.run_bind,program,Sem.run,Result.andThen_ok,X,k,q,Bool.false_eq_true,if_false,Sem.run_pure]);simp only[execOp,G,resolve,h,L,Deferred.ofValue,invoke,Sem.run_bind,Sem.run_pure,Result.andThen_ok,Array.empty_append,I]
 unfold Oper.wp;rw[A];simp only[Oper.upon];refine (hp σ (Ra σ w) W w (c.args.map a.eval++d) s.lend ⟨j.1,λi b u R h2=>(j.2 i b u R h2).to0 (Ef.1 l b (E7 R))⟩).mono ?_;rintro e w' ⟨v,J,rfl,D,s',hc⟩;exact V J ι v w' ⟨D,λ_=>HLe.refl _ _⟩ (s.unlend D s') hc.of0
theorem Av1 {c:Call} {f:FuncId} (B:o.op = .call c) (h:c.callee = .value x) (L:ρ x = .fn f g) (hp:Ext P f (c.args.toList.map ρ ++ g) r) (k:(c.args.toList.map ρ ++ g).all AV.free=true):Ca P o ρ ⟨r,[],[]⟩:=by
 intro σ ι H F W w a next Q s z _ M
 have l:=z x (by simp[B,Op.operands,Call.operands,h]);rw[L]at l;obtain⟨d,E,G,A⟩:=l.fn_inv;have j:Ks σ ι H (c.args.toList.map ρ ++ g) (c.args.map a.eval++d) :=
  Aak (λy I=>z y (by simp only[B,Op.operands,Call.operands,h];simp at I ⊢;exact .inr I)) G A
 obtain⟨v,D,N⟩:=hp σ (Ra σ w) W w (c.args.map a.eval++d) s.lend ⟨j.1,λi b u J R=>(j.2 i b u J R).to0 (Ef.1 k b (E7 J))⟩;have q:(execOp a.eval o).run P w = .ok (.value v) w:=by simp only[execOp,B,resolve,h,E,Deferred.ofValue,invoke,Sem.run_bind,Sem.run_pure,Result.andThen_ok,Array.empty_append,D]
 exact Fj q (M σ ι v w (Le.refl _ _ _) s N.of0)
theorem Av2 {c:Call} {f:FuncId} {j h sz:Nat} {E:TypeId} {xs:List AV} (S:o.op = .call c) (k:c.callee = .value x) (hx:ρ x = .fn f g) (hj:(c.args.toList.map ρ ++ g)[j]? = some (.arr h xs.length 0 xs.length)) (hp:A6 P f ((c.args.toList.map ρ ++ g).set j (.sl sz xs)) r) (A:((c.args.toList.map ρ ++ g).set j (.sl sz xs)).all AV.free=true):Ca P o ρ ⟨r,[(h,.rows E sz xs)],[(h,.dead)]⟩:=by
 intro σ ι H F W w a next Q s J R hk
 have Z:H h = .rows E sz xs:=R (h,.rows E sz xs) ψ;obtain⟨⟨fn,hf,z,B⟩,hp⟩:=hp;have G:=J x (by simp[S,Op.operands,Call.operands,k]);rw[hx]at G;obtain⟨vs,hv,hl,M⟩:=G.fn_inv;have q:Ks σ ι H (c.args.toList.map ρ ++ g) (c.args.map a.eval++vs) :=
  Aak (λy hy=>J y (by simp only[S,Op.operands,Call.operands,k];simp at hy ⊢;exact .inr hy)) hl M
 obtain⟨N,D,Y,V⟩:=s.freeze Z;have l:Ks N ι (A4 H h .dead) ((c.args.toList.map ρ ++ g).set j (.sl sz xs)) (c.args.map a.eval++vs):=by
  refine⟨by rw[length_set];exact q.1,λi b u d h2=>?_⟩;rw[getElem?_set]at d;split at d
  .rename_i U;split at d
   .cases d;subst U;have hc:=q.2 j _ u hj h2;have:=V 0 xs.length _ ω (hc.arr_inv Z rfl);rw[drop_zero,take_of_length_le ω]at this;exact .cc this
   .cases d
  .exact (q.2 i b u d h2).mono D
 have I:(execOp a.eval o).run P w = .ok (.enter f (c.args.map a.eval++vs)) w:=by have X:(callFunc f (c.args.map a.eval++vs)).run P w = .ok (.enter f (c.args.map a.eval++vs)) w:=(by unfold callFunc;simp only[Sem.run_bind,program,Sem.run,Result.andThen_ok,hf,z,B,Bool.false_eq_true,if_false,Sem.run_pure]);simp only[execOp,S,resolve,k,hv,Deferred.ofValue,invoke,Sem.run_bind,Sem.run_pure,Result.andThen_ok,Array.empty_append,X]
 unfold Oper.wp;rw[I];simp only[Oper.upon];refine (hp N (Ra N w) W w (c.args.map a.eval++vs) Y.lend ⟨l.1,λi b u d h2=>(l.2 i b u d h2).to0 (Ef.1 A b (E7 d))⟩).mono ?_;rintro e w' ⟨v,σ',rfl,L,s',hc⟩;exact hk σ' ι v w' (D.trans ⟨L,λ_=>HLe.refl _ _⟩) (Y.unlend L s') hc.of0
end
variable {o:Bf} {es:Nat->Nat}
theorem Hf {a b:Nat} (h:Nat.blt a b=true):a<b:=F3 h
theorem Afr:I6 es o = .none↔o = .none:=by cases o <;> simp[I6]
theorem Aal:(I6 es o).live=o.live:=by cases o <;> rfl
theorem Afs {E:TypeId} {sz:Nat} {xs:List AV}:I6 es o = .rows E sz xs↔o = .rows E sz xs:=by cases o <;> simp[I6]
section
variable {es:Nat->Nat} {m:Nat} {σ:Ax} {ι ιl:Bx} {H I:Hp}
variable {x:AV} {n:Nat} {v:Value}
theorem Nk (f:∀k,k<m->ιl k=ι (es k)) (B:∀k,k<m->H (es k)=I6 es (I k)) (J:x.under0 m=true):Conc σ ι H (Afj es x) v↔Conc σ ιl I x v:=by
 have rows:∀k,k<m->∀E sz xs,H (es k) = .rows E sz xs↔I k = .rows E sz xs:=λk d E sz xs=>by rw[B k d];exact Afs
 have some:∀k,k<m->(H (es k)≠.none↔I k≠.none):=λk d=>by rw[B k d];exact not_congr Afr
 constructor
 .intro h;cases x with
  | val u=>cases h with|cc h=>exact .cc h
  | sl sz xs=>cases h with|cc h=>exact .cc h
  | fb s=>cases h with|cc h=>exact .cc h
  | ref cs=>cases h with| cc h=>exact .cc h| ref cs b D C E M g z N R A=>exact .ref cs b D C E M g z N R A
  | loc k D=>have d:=Hf J;cases h with| cc h=>cases h| loc _ _ b L=>exact .loc k D b (by rw[f k d];exact L)
  | mp k=>have d:=Hf J;cases h with| cc h=>cases h| mp _ b L=>exact .mp k b (by rw[f k d];exact L)
  | vec k n=>have d:=Hf J;cases h with| cc h=>cases h| vec _ _ b L=>exact .vec k n b (by rw[f k d];exact L)
  | arr k q D len=>have d:=Hf J;cases h with| cc h=>cases h| arr _ _ _ _ _ y l c=>exact .arr k q D len v ((some k d).1 y) (λE sz xs e=>by rw[f k d];exact l E sz xs ((rows k d E sz xs).2 e)) c
  | el k q i j=>have d:=Hf J;cases h with| cc h=>cases h| el _ _ _ _ _ y l c=>exact .el k q i j v ((some k d).1 y) (λE sz xs e=>by rw[f k d];exact l E sz xs ((rows k d E sz xs).2 e)) c
  | agg=>cases J
  | tup=>cases J
  | fn=>cases J
 .intro h;cases x with
  | val u=>cases h with|cc h=>exact .cc h
  | sl sz xs=>cases h with|cc h=>exact .cc h
  | fb s=>cases h with|cc h=>exact .cc h
  | ref cs=>cases h with| cc h=>exact .cc h| ref cs b D C E M g z N R A=>exact .ref cs b D C E M g z N R A
  | loc k D=>have d:=Hf J;cases h with| cc h=>cases h| loc _ _ b L=>exact .loc (es k) D b (by rw[<-f k d];exact L)
  | mp k=>have d:=Hf J;cases h with| cc h=>cases h| mp _ b L=>exact .mp (es k) b (by rw[<-f k d];exact L)
  | vec k n=>have d:=Hf J;cases h with| cc h=>cases h| vec _ _ b L=>exact .vec (es k) n b (by rw[<-f k d];exact L)
  | arr k q D len=>have d:=Hf J;cases h with| cc h=>cases h| arr _ _ _ _ _ y l c=>exact .arr (es k) q D len v ((some k d).2 y) (λE sz xs e=>by rw[<-f k d];exact l E sz xs ((rows k d E sz xs).1 e)) c
  | el k q i j=>have d:=Hf J;cases h with| cc h=>cases h| el _ _ _ _ _ y l c=>exact .el (es k) q i j v ((some k d).2 y) (λE sz xs e=>by rw[<-f k d];exact l E sz xs ((rows k d E sz xs).1 e)) c
  | agg=>cases J
  | tup=>cases J
  | fn=>cases J
theorem H6 (b:∀k,k<m->ιl k=ι (es k)) (g:∀k,k<m->H (es k)=I6 es (I k)) (d:x.under1 m=true):Conc σ ι H (Ni es x) v↔Conc σ ιl I x v:=by
 have cells:∀{cs:List AV},cs.all (AV.under0 m)=true->∀(i:Nat) (c:AV),cs[i]? = some c->∀u,(Conc σ ι H (Afj es c) u↔Conc σ ιl I c u) :=
  λq i c J u=>Nk b g (Ef.1 q c (E7 J));cases x with
 | fn f cs=>
  constructor
  .intro h;obtain⟨L,rfl,l,h⟩:=h.fn_inv;exact .fn f cs L (by simpa using l) λi c u B M=>(cells d i c B u).1 (h i _ u (by simp[B]) M)
  .intro h;obtain⟨L,rfl,l,h⟩:=h.fn_inv;refine .fn f _ L (by simpa using l) λi c u B M=>?_;rw[getElem?_map]at B;cases J:cs[i]? with| none=>rw[J]at B;cases B| some y=>rw[J]at B;cases B;exact (cells d i y J u).2 (h i y u J M)
 | agg cs=>cases d
 | tup cs=>cases d
 | val u=>exact Nk (x:=(.val u)) b g d
 | loc h D=>exact Nk (x:=(.loc h D)) b g d
 | arr h k D len=>exact Nk (x:=(.arr h k D len)) b g d
 | el h k i j=>exact Nk (x:=(.el h k i j)) b g d
 | mp h=>exact Nk (x:=(.mp h)) b g d
 | vec h n=>exact Nk (x:=(.vec h n)) b g d
 | ref cs=>exact Nk (x:=(.ref cs)) b g d
 | sl sz xs=>exact Nk (x:=(.sl sz xs)) b g d
 | fb s=>exact Nk (x:=(.fb s)) b g d
theorem Av3 (h:x.under0 n=true):x.under1 n=true:=by cases x <;> first|exact h|cases h
theorem Ak3 (h:x.under1 n=true):x.under n=true:=by cases x with| fn f cs=>exact Ef.2 λc d=>Av3 (Ef.1 h c d)| agg cs=>cases h| tup cs=>cases h| _=>exact h
theorem Av4 (b:∀k,k<m->ιl k=ι (es k)) (g:∀k,k<m->H (es k)=I6 es (I k)) (d:x.under2 m=true):Conc σ ι H (Afk es x) v↔Conc σ ιl I x v:=by
 have cells:∀{cs:List AV},cs.all (AV.under1 m)=true->∀(i:Nat) (c:AV),cs[i]? = some c->∀u,(Conc σ ι H (Ni es c) u↔Conc σ ιl I c u) :=
  λq i c J u=>H6 b g (Ef.1 q c (E7 J));cases x with
 | agg cs=>
  constructor
  .intro h;obtain⟨L,rfl,l,h⟩:=h.agg_inv;exact .agg cs L (by simpa using l) λi c u B M=>(cells d i c B u).1 (h i _ u (by simp[B]) M)
  .intro h;obtain⟨L,rfl,l,h⟩:=h.agg_inv;refine .agg _ L (by simpa using l) λi c u B M=>?_;rw[getElem?_map]at B;cases J:cs[i]? with| none=>rw[J]at B;cases B| some y=>rw[J]at B;cases B;exact (cells d i y J u).2 (h i y u J M)
 | tup cs=>cases d
 | fn f cs=>exact H6 (x:=(.fn f cs)) b g d
 | val u=>exact H6 (x:=(.val u)) b g d
 | loc h D=>exact H6 (x:=(.loc h D)) b g d
 | arr h k D len=>exact H6 (x:=(.arr h k D len)) b g d
 | el h k i j=>exact H6 (x:=(.el h k i j)) b g d
 | mp h=>exact H6 (x:=(.mp h)) b g d
 | vec h n=>exact H6 (x:=(.vec h n)) b g d
 | ref cs=>exact H6 (x:=(.ref cs)) b g d
 | sl sz xs=>exact H6 (x:=(.sl sz xs)) b g d
 | fb s=>exact H6 (x:=(.fb s)) b g d
theorem Ak4 (g:∀k,k<m->ιl k=ι (es k)) (q:∀k,k<m->H (es k)=I6 es (I k)) (D:x.under m=true):Conc σ ι H (ren es x) v↔Conc σ ιl I x v:=by
 have cells:∀{cs:List AV},cs.all (AV.under1 m)=true->∀(i:Nat) (c:AV),cs[i]? = some c->∀u,(Conc σ ι H (Ni es c) u↔Conc σ ιl I c u) :=
  λz i c B u=>H6 g q (Ef.1 z c (E7 B));have b:∀{cs:List AV},cs.all (AV.under2 m)=true->∀(i:Nat) (c:AV),cs[i]? = some c->∀u,(Conc σ ι H (Afk es c) u↔Conc σ ιl I c u) :=
  λz i c B u=>Av4 g q (Ef.1 z c (E7 B));cases x with
 | agg cs=>
  constructor
  .intro h;obtain⟨J,rfl,l,h⟩:=h.agg_inv;exact .agg cs J (by simpa using l) λi c u d L=>(cells D i c d u).1 (h i _ u (by simp[d]) L)
  .intro h;obtain⟨J,rfl,l,h⟩:=h.agg_inv;refine .agg _ J (by simpa using l) λi c u d L=>?_;rw[getElem?_map]at d;cases B:cs[i]? with| none=>rw[B]at d;cases d| some y=>rw[B]at d;cases d;exact (cells D i y B u).2 (h i y u B L)
 | tup cs=>
  constructor
  .intro h;obtain⟨J,rfl,l,h⟩:=h.tup_inv;exact .tup cs J (by simpa using l) λi c u d L=>(b D i c d u).1 (h i _ u (by simp[d]) L)
  .intro h;obtain⟨J,rfl,l,h⟩:=h.tup_inv;refine .tup _ J (by simpa using l) λi c u d L=>?_;rw[getElem?_map]at d;cases B:cs[i]? with| none=>rw[B]at d;cases d| some y=>rw[B]at d;cases d;exact (b D i y B u).2 (h i y u B L)
 | fn f cs=>
  constructor
  .intro h;obtain⟨J,rfl,l,h⟩:=h.fn_inv;exact .fn f cs J (by simpa using l) λi c u d L=>(cells D i c d u).1 (h i _ u (by simp[d]) L)
  .intro h;obtain⟨J,rfl,l,h⟩:=h.fn_inv;refine .fn f _ J (by simpa using l) λi c u d L=>?_;rw[getElem?_map]at d;cases B:cs[i]? with| none=>rw[B]at d;cases d| some y=>rw[B]at d;cases d;exact (cells D i y B u).2 (h i y u B L)
 | val u=>exact H6 (x:=(.val u)) g q D
 | loc h M=>exact H6 (x:=(.loc h M)) g q D
 | arr h k M len=>exact H6 (x:=(.arr h k M len)) g q D
 | el h k i j=>exact H6 (x:=(.el h k i j)) g q D
 | mp h=>exact H6 (x:=(.mp h)) g q D
 | vec h n=>exact H6 (x:=(.vec h n)) g q D
 | ref cs=>exact H6 (x:=(.ref cs)) g q D
 | sl sz xs=>exact H6 (x:=(.sl sz xs)) g q D
 | fb s=>exact H6 (x:=(.fb s)) g q D
theorem Ak5 (A:∀k,k<m->ιl k=ι (es k)) (B:∀k,k<m->H (es k)=I6 es (I k)) {F G:Ax} {w:World} {k:Nat} (V:k<m) (R:(I k).under m=true) (h:∀b,(I k).live=true->(ιl k).block? = some b->(F b=none↔G b=none)):Cv σ ι H F w (es k)↔Cv σ ιl I G w k:=by
 have cells:∀{cs:List AV},cs.all (AV.under1 m)=true->∀(i:Nat) (c:AV),cs[i]? = some c->∀u,(Conc σ ι H (Ni es c) u↔Conc σ ιl I c u) :=
  λx i c N u=>H6 A B (Ef.1 x c (E7 N));unfold Cv;rw[B k V,<-A k V];cases U:I k with
 | none=>exact Iff.rfl
 | dead=>exact Iff.rfl
 | map l=>
  simp only[I6];rw[U]at h;constructor
  .rintro⟨b,M,q,f,d,J,L⟩;exact⟨b,M,q,f,d,(h b rfl (by rw[f];rfl)).1 J,L⟩
  .rintro⟨b,M,q,f,d,J,L⟩;exact⟨b,M,q,f,d,(h b rfl (by rw[f];rfl)).2 J,L⟩
 | rows E sz xs=>
  simp only[I6];rw[U]at h;refine and_congr Iff.rfl (and_congr Iff.rfl (or_congr Iff.rfl ?_));constructor
  .rintro⟨b,j,C,f,d,J,L⟩;exact⟨b,j,C,f,d,(h b rfl (by rw[f];rfl)).1 J,L⟩
  .rintro⟨b,j,C,f,d,J,L⟩;exact⟨b,j,C,f,d,(h b rfl (by rw[f];rfl)).2 J,L⟩
 | cells E cs=>
  simp only[I6];rw[U]at h R;constructor
  .rintro⟨b,C,f,d,J,L,z,y⟩;refine⟨b,C,f,d,(h b rfl (by rw[f];rfl)).1 J,L,by simpa using z,λi c v N s=>(cells R i c N v).1 (y i _ v (by simp[N]) s)⟩
  .rintro⟨b,C,f,d,J,L,z,y⟩;refine⟨b,C,f,d,(h b rfl (by rw[f];rfl)).2 J,L,by simpa using z,λi c v N s=>?_⟩;rw[getElem?_map]at N;cases g:cs[i]? with| none=>rw[g]at N;cases N| some D=>rw[g]at N;cases N;exact (cells R i D g v).2 (y i D v g s)
end
variable {hs:List Bf} {k:Nat}
theorem Aft {n:Nat}:∀{l:List Nat} {k:Nat},Nj n l=true->k<l.length->C1 n l k<n
 | [],k,_,h=>by simp at h
 | h::l,0,b,_=>by simp only[Nj,Fc]at b;exact Hf b.1.1
 | h::l,k+1,b,d=>by simp only[Nj,Fc]at b;exact Aft (l:=l) b.2 (by simpa using d)
theorem Wc {n:Nat}:∀{l:List Nat} {k:Nat},l.length<=k->C1 n l k=n+(k-l.length)
 | [],k,_=>by simp[C1]
 | h::l,0,d=>by simp at d
 | h::l,k+1,d=>by simp only[C1,length_cons];rw[Wc (l:=l) (by simpa using d)];omega
theorem Afu {n:Nat}:∀{l:List Nat} {k:Nat},k<l.length->C1 n l k∈l
 | [],k,h=>by simp at h
 | h::l,0,_=>by simp[C1]
 | h::l,k+1,d=>by simp only[C1];exact mem_cons_of_mem _ (Afu (by simpa using d))
theorem Ak6 {n:Nat}:∀{l:List Nat} {j k:Nat},Nj n l=true->C1 n l j=C1 n l k->j=k
 | [],j,k,_,h=>by simp only[C1]at h;omega
 | h::l,0,0,_,_=>rfl
 | h::l,j+1,k+1,b,e=>by simp only[Nj,Fc]at b;simp only[C1]at e;rw[Ak6 (l:=l) b.2 e]
 | h::l,0,k+1,b,e=>by
  simp only[Nj,Fc]at b;simp only[C1]at e;rcases Nat.lt_or_ge k l.length with d|d
  .have:=Afu (n:=n) d;rw[<-e]at this;simp[this]at b
  .have u:=Wc (n:=n) d;have B:=Hf b.1.1;omega
 | h::l,j+1,0,b,e=>by
  simp only[Nj,Fc]at b;simp only[C1]at e;rcases Nat.lt_or_ge j l.length with d|d
  .have:=Afu (n:=n) d;rw[e]at this;simp[this]at b
  .have u:=Wc (n:=n) d;have B:=Hf b.1.1;omega
theorem Ak7 {es:Nat->Nat}:∀{os:List Bf} {k i:Nat} {o:Bf},os[i]? = some o->(es (k+i),I6 es o)∈Ed es k os
 | [],k,i,o,h=>by simp at h
 | p::os,k,0,o,h=>by simp at h;subst h;simp[Ed]
 | p::os,k,i+1,o,h=>by simp only[Ed];refine mem_cons_of_mem _ ?_;have:=Ak7 (es:=es) (k:=k+1) (i:=i) (by simpa using h);rwa [show k+(i+1)=k+1+i by omega]
theorem Wd {es:Nat->Nat}:∀{os:List Bf} {k x:Nat} {H:Hp},(∀i,i<os.length->es (k+i)≠x)->Cq H (Ed es k os) x=H x
 | [],k,x,H,h=>rfl
 | q::os,k,x,H,h=>by simp only[Ed,Cq];rw[Wd (λi hi=>by rw[show k+1+i=k+(i+1) by omega];exact h (i+1) (by simpa using hi)),Cy _ _ (Ne.symm (by simpa using h 0 ψ))]
theorem Ak8 {es:Nat->Nat} (b:∀i j,es i=es j->i=j):∀{os:List Bf} {k i:Nat} {o:Bf} {H:Hp},os[i]? = some o->Cq H (Ed es k os) (es (k+i))=I6 es o
 | [],k,i,o,H,h=>by simp at h
 | q::os,k,0,o,H,h=>by simp at h;subst h;simp only[Ed,Cq];rw[Wd (λi hi e=>by have:=b _ _ e;omega)];exact Cd _ _ _
 | q::os,k,i+1,o,H,h=>by simp only[Ed,Cq];rw[show k+(i+1)=k+1+i by omega];exact Ak8 b (by simpa using h)
theorem Ak9 {es:Nat->Nat}:∀{c k i:Nat},i<c->(es (k+i),Bf.none)∈Ci es k c
 | 0,k,i,h=>ω
 | c+1,k,0,h=>by simp[Ci]
 | c+1,k,i+1,h=>by simp only[Ci];refine mem_cons_of_mem _ ?_;have:=Ak9 (es:=es) (c:=c) (k:=k+1) (i:=i) ω;rwa [show k+(i+1)=k+1+i by omega]
theorem Ala {es:Nat->Nat}:∀{c k:Nat} {p:Nat×Bf},p∈Ci es k c->∃i,i<c/\p=(es (k+i),Bf.none)
 | 0,k,p,h=>by simp[Ci]at h
 | c+1,k,p,h=>by
  simp only[Ci,mem_cons]at h;rcases h with rfl|h
  .exact⟨0,ω,rfl⟩
  .obtain⟨i,u,d⟩:=Ala h;exact⟨i+1,ω,by rw[d,show k+(i+1)=k+1+i by omega]⟩
theorem Mo.spec {H:Hp}:∀{l:List (Nat×Bf)},Mo H l->∀p∈l,H p.1=p.2
 | [],_,p,hp=>by cases hp
 | q::l,h,p,hp=>by
  rcases mem_cons.1 hp with rfl|hp
  .exact h.1
  .exact Mo.spec h.2 p hp
theorem We (h:k<hs.length):hs[k]? = some (hp hs k):=by simp[hp,h]
theorem Pt (h:hs.length<=k):hp hs k = .none:=by simp[hp,getElem?_eq_none h]
section
variable {P:Program} {o:Oper} {ρ:Operand->AV} {a:Act} {w w':World}
open Classical in
theorem Alb {n m:Nat} {c:Call} {x:Operand} {f:FuncId} {b0:List AV} {l:List Nat} {a0:List AV} {hs:List Bf} {R:AV->List Bf->Prop} (ho:o.op = .call c) (b1:c.callee = .value x) (hx:ρ x = .fn f b0) (g0:Mn P f a0 hs R) (ha:a0.map (ren (C1 n l))=c.args.toList.map ρ ++ b0) {r0:AV} {g5:List Bf} (h0:R r0 g5) (ok:∀r d,R r d->Jx n l a0 hs r d=true/\d.length=m) {σ:Ax} {ι:Bx} {H:Hp} {F:Ax} {W w:World} {a:Act} {next:Act->World->Prop} {Q:Exit->Act->World->Prop} (s:St σ ι H F W w) (c8:∀x∈o.op.operands.toList,Conc σ ι H (ρ x) (a.eval x)) (c9:∀p∈Ed (C1 n l) 0 hs++Ci (C1 n l) l.length (m-l.length),H p.1=p.2) (hk:∀r d,R r d->∀σ' ι' v w',Le σ ι H σ' ι' (Cq H (Ed (C1 n l) 0 d))->St σ' ι' (Cq H (Ed (C1 n l) 0 d)) F W w'->Conc σ' ι' (Cq H (Ed (C1 n l) 0 d)) (ren (C1 n l) r) v->next (a.put o.dst v) w'):o.wp P a w next Q:=by
 have e3:=(ok _ _ h0).1;simp only[Jx,Fc]at e3;obtain⟨⟨⟨⟨⟨⟨o1,o2⟩,o3⟩,o4⟩,o5⟩,-⟩,-⟩:=e3;have o2:=Ft o2;generalize g6:C1 n l=es at *;have c4:∀i j,es i=es j->i=j:=λi j e=>by rw[<-g6]at e;exact Ak6 o1 e
 obtain⟨⟨fn,hf,c5,c6⟩,g7⟩:=g0;have e4:=c8 x (by simp[ho,Op.operands,Call.operands,b1]);rw[hx]at e4;obtain⟨vs,hv,hl,e5⟩:=e4.fn_inv;have b2:Ks σ ι H (c.args.toList.map ρ ++ b0) (c.args.map a.eval++vs) :=
  Aak (λy hy=>c8 y (by simp only[ho,Op.operands,Call.operands,b1];simp at hy ⊢;exact .inr hy)) hl e5
 have e6:(execOp a.eval o).run P w = .ok (.enter f (c.args.map a.eval++vs)) w:=by have g8:(callFunc f (c.args.map a.eval++vs)).run P w = .ok (.enter f (c.args.map a.eval++vs)) w:=(by unfold callFunc;simp only[Sem.run_bind,program,Sem.run,Result.andThen_ok,hf,c5,c6,Bool.false_eq_true,if_false,Sem.run_pure]);simp only[execOp,ho,resolve,b1,hv,Deferred.ofValue,invoke,Sem.run_bind,Sem.run_pure,Result.andThen_ok,Array.empty_append,g8]
 unfold Oper.wp;rw[e6];simp only[Oper.upon];have L:∀k,k<hs.length->H (es k)=I6 es (hp hs k):=by intro k I;have:=c9 _ (mem_append_left _ (Ak7 (es:=es) (k:=0) (We I)));simpa using this
 have e7:∀k,hs.length<=k->k<m->H (es k) = .none:=by intro k B D;have:=c9 _ (mem_append_right _ (Ak9 (es:=es) (k:=l.length) (c:=m-l.length) (i:=k-l.length) ω));rwa [show l.length+(k-l.length)=k by omega]at this
 let ιl:Bx:=λk=>if k<hs.length then ι (es k) else .none
 let a2:Nat->Prop:=λb=>∃k,k<hs.length/\(hp hs k).live=true/\(ι (es k)).block? = some b
 let Fl:Ax:=λb=>if σ b=none/\¬a2 b then w.heap[b]? else none
 have a5:∀k,k<hs.length->ιl k=ι (es k):=λk h=>if_pos h;have N:∀k,k<hs.length->(H (es k)).live=(hp hs k).live:=λk h=>by rw[L k h,Aal]
 have b7:∀k,k<hs.length->(hp hs k).under hs.length=true:=by intro k h;have:=Ef.1 o5 _ (E7 (We h));rw[o2];exact this
 have b8:∀k,k<hs.length->∀b,(hp hs k).live=true->(ιl k).block? = some b->F b=none/\Fl b=none:=by intro k h b B D;rw[a5 k h]at D;exact⟨(s.block (by rw[N k h];exact B) D).2.2,if_neg λhn=>hn.2 ⟨k,h,B,D⟩⟩
 have sl:St σ ιl (hp hs) Fl W w:=by
  refine⟨s.sto,λb ob hb=>?_,λk=>?_,λk k' b B D U h4=>?_,s.os,s.tape,s.output,s.glo,s.drw⟩
  .by_cases hc:σ b=none/\¬a2 b
   .simp only[Fl,if_pos hc]at hb;exact⟨hb,hc.1⟩
   .simp only[Fl,if_neg hc]at hb;cases hb
  .by_cases I:k<hs.length
   .refine (Ak5 (es:=es) a5 L I (b7 k I) λb B D=>?_).1 (s.obj (es k));obtain⟨U,h4⟩:=b8 k I b B D;rw[U,h4]
   .unfold Cv;rw[Pt ω];exact if_neg I
  .have lt:∀k,(hp hs k).live=true->k<hs.length:=by
    intro k h;rcases Nat.lt_or_ge k hs.length with h'|h'
    .exact h'
    .rw[Pt h']at h;cases h
   have k1:=lt k B;have k2:=lt k' D;rw[a5 k k1]at U;rw[a5 k' k2]at h4;exact c4 _ _ (s.inj _ _ b (by rw[N k k1];exact B) (by rw[N k' k2];exact D) U h4)
 have c7:Ks σ ιl (hp hs) a0 (c.args.map a.eval++vs):=by rw[<-ha]at b2;refine⟨by simpa using b2.1,λi b u B D=>?_⟩;have:=b2.2 i (ren es b) u (by simp[B]) D;refine (Ak4 (es:=es) a5 L ?_).1 this;rw[o2];exact Ef.1 o4 b (E7 B)
 refine (g7 σ Fl W w ιl (c.args.map a.eval++vs) sl c7).mono ?_;rintro e w' ⟨r,d,v,σ',ι'l,hR,rfl,b9,s',g9⟩;obtain⟨a6,rfl⟩:=ok _ _ hR;simp only[Jx,Fc]at a6;obtain⟨⟨⟨⟨-,o3⟩,-⟩,o6⟩,o7⟩:=(⟨⟨⟨⟨a6.1.1.1.1.1,a6.1.1.1.1.2⟩,a6.1.1.1.2⟩,a6.1.2⟩,a6.2⟩:(((_/\_)/\_)/\_)/\_);have o3:=F3 o3;let ι':Bx:=λh=>if hh:∃k,k<d.length/\es k=h then ι'l hh.choose else ι h
 have a7:∀k,k<d.length->ι'l k=ι' (es k):=by intro k h;have hh:∃k',k' < d.length/\es k'=es k:=⟨k,h,rfl⟩;have:hh.choose=k:=c4 _ _ hh.choose_spec.2;simp only[ι',dif_pos hh,this]
 have b3:∀h,(∀k,k<d.length->es k≠h)->ι' h=ι h:=by intro h J;exact dif_neg (λ⟨k,k1,k2⟩=>J k k1 k2)
 have a8:∀k,k<d.length->Cq H (Ed es 0 d) (es k)=I6 es (hp d k):=by intro k h;have:=Ak8 (es:=es) c4 (k:=0) (H:=H) (We h);simpa using this
 have b4:∀h,(∀k,k<d.length->es k≠h)->Cq H (Ed es 0 d) h=H h:=by intro h J;exact Wd (λi hi=>by simpa using J i hi)
 have i1:hs.length<=d.length:=ω;have e8:Le σ ι H σ' ι' (Cq H (Ed es 0 d)):=by
  refine⟨b9.sto,λh=>?_⟩;by_cases hh:∃k,k<d.length/\es k=h
  .obtain⟨k,I,rfl⟩:=hh;rw[<-a7 k I,a8 k I];by_cases a4:k<hs.length
   .have q:=b9.obj k;rw[a5 k a4]at q;rw[L k a4];refine⟨q.box,λh=>?_,λB E sz xs D=>?_⟩
    .rw[Ne,Afr]at h ⊢;exact q.some h
    .rw[Ne,Afr]at B;rw[Afs]at D;obtain⟨E0,h7,h8,e0,r0⟩:=q.rows B E sz xs D;exact⟨E0,h7,h8,Afs.2 e0,r0⟩
   .have h0:=e7 k ω I;have:ι (es k) = .none:=(by have:=s.obj (es k);unfold Cv at this;rw[h0]at this;exact this);rw[h0,this];exact HLe.of_none
  .have J:∀k,k<d.length->es k≠h:=λk B D=>hh ⟨k,B,D⟩;rw[b3 h J,b4 h J];exact HLe.refl _ _
 have V:∀b,σ b=none->¬a2 b->∀ob,w.heap[b]? = some ob->w'.heap[b]? = some ob/\σ' b=none/\Fl b=some ob:=by intro b B D ob U;have:Fl b=some ob:=(by simp only[Fl];rw[if_pos ⟨B,D⟩];exact U);exact⟨(s'.fra b ob this).1,(s'.fra b ob this).2,this⟩
 have a3:∀h b,(∀k,k<d.length->es k≠h)->(H h).live=true->(ι h).block? = some b->¬a2 b:=by rintro h b J B D ⟨k,k1,k2,k3⟩;exact J k ω (s.inj _ _ b (by rw[N k k1];exact k2) B k3 D)
 have X:∀b ob,F b=some ob->¬a2 b:=by rintro b ob hb ⟨k,k1,k2,k3⟩;have:=(s.block (by rw[N k k1];exact k2) k3).2.2;rw[this]at hb;cases hb
 have b5:∀k,k<d.length->(hp d k).under d.length=true:=λk h=>Ef.1 o7 _ (E7 (We h));have h9:St σ' ι' (Cq H (Ed es 0 d)) F W w':=by
  refine⟨s'.sto,λb ob hb=>?_,λh=>?_,λh h' b B D U h4=>?_,s'.os,s'.tape,s'.output,s'.glo,s'.drw⟩
  .obtain⟨B,D⟩:=s.fra b ob hb;obtain⟨k1,k2,_⟩:=V b D (X b ob hb) ob B;exact⟨k1,k2⟩
  .by_cases hh:∃k,k<d.length/\es k=h
   .obtain⟨k,I,rfl⟩:=hh;refine (Ak5 (es:=es) a7 a8 I (b5 k I) λb B D=>?_).2 (s'.obj k);have c0:=(s'.block B D).2.2;refine⟨λ_=>c0,λ_=>?_⟩;cases b8:F b with| none=>rfl| some ob=>obtain⟨U,h4⟩:=s.fra b ob b8;have:=(V b h4 (X b ob b8) ob U).2.2;rw[c0]at this;cases this
   .have J:∀k,k<d.length->es k≠h:=λk B D=>hh ⟨k,B,D⟩;have a1:=s.obj h;have a9:=λb B D=>a3 h b J B D;unfold Cv at a1 ⊢;rw[b4 h J,b3 h J];cases hx:H h with
    | none=>rw[hx]at a1;exact a1
    | dead=>trivial
    | cells E cs=>rw[hx]at a1 a9;obtain⟨b,C,e1,B,D,U,h4,h5⟩:=a1;obtain⟨k1,k2,_⟩:=V b B (a9 b rfl (by rw[e1];rfl)) _ U;exact⟨b,C,e1,k2,D,k1,h4,λi c v x y=>(h5 i c v x y).mono e8⟩
    | rows E sz xs=>
     rw[hx]at a1 a9;obtain⟨z1,z2,⟨e1,e2⟩|⟨b,i0,C,e1,B,D,U,h4,h5,h6⟩⟩:=a1
     .exact⟨z1,z2,.inl ⟨e1,e2⟩⟩
     .obtain⟨k1,k2,_⟩:=V b B (a9 b rfl (by rw[e1];rfl)) _ U;exact⟨z1,z2,.inr ⟨b,i0,C,e1,k2,D,k1,h4,h5,h6.mono b9.sto⟩⟩
    | map l=>rw[hx]at a1 a9;obtain⟨b,M,q,e1,B,D,U,h4⟩:=a1;obtain⟨k1,k2,_⟩:=V b B (a9 b rfl (by rw[e1];rfl)) _ U;exact⟨b,M,q,e1,k2,D,k1,h4.mono b9.sto⟩
  .have Wf:∀k,k<d.length->∀h,(∀k,k<d.length->es k≠h)->(Cq H (Ed es 0 d) (es k)).live=true->(Cq H (Ed es 0 d) h).live=true->(ι' (es k)).block? = some b->(ι' h).block? = some b->False:=(by intro k I h J g1 g2 g3 g4;rw[a8 k I,Aal]at g1;rw[b4 h J]at g2;rw[<-a7 k I]at g3;rw[b3 h J]at g4;have c0:=(s'.block g1 g3).2.2;have hb:=s.block g2 g4;have e9:w.heap[b]? = some w.heap[b]:=(by simp[hb.1]);have:=(V b hb.2.1 (a3 h b J g2 g4) _ e9).2.2;rw[c0]at this;cases this);by_cases hh:∃k,k<d.length/\es k=h
   .obtain⟨k,I,rfl⟩:=hh;by_cases b6:∃k,k<d.length/\es k=h'
    .obtain⟨k',a4,rfl⟩:=b6;rw[a8 k I,Aal]at B;rw[a8 k' a4,Aal]at D;rw[<-a7 k I]at U;rw[<-a7 k' a4]at h4;rw[s'.inj k k' b B D U h4]
    .exact (Wf k I h' (λk B D=>b6 ⟨k,B,D⟩) B D U h4).elim
   .have J:∀k,k<d.length->es k≠h:=λk B D=>hh ⟨k,B,D⟩;by_cases b6:∃k,k<d.length/\es k=h'
    .obtain⟨k',a4,rfl⟩:=b6;exact (Wf k' a4 h J D B h4 U).elim
    .have c3:∀k,k<d.length->es k≠h':=λk B D=>b6 ⟨k,B,D⟩;rw[b4 h J]at B;rw[b4 h' c3]at D;rw[b3 h J]at U;rw[b3 h' c3]at h4;exact s.inj h h' b B D U h4
 exact hk r d hR σ' ι' v w' e8 h9 ((Ak4 (es:=es) a7 a8 o6).2 g9)
theorem Alc {n:Nat} {c:Call} {x:Operand} {f:FuncId} {h:List AV} {l:List Nat} {b:List AV} {hs:List Bf} {r:AV} {g:List Bf} (y:o.op = .call c) (i:c.callee = .value x) (d:ρ x = .fn f h) (k:Bm P f b hs r g) (B:b.map (ren (C1 n l))=c.args.toList.map ρ ++ h) (u:Jx n l b hs r g=true) : Ca P o ρ ⟨ren (C1 n l) r,Ed (C1 n l) 0 hs++Ci (C1 n l) l.length (g.length-l.length),Ed (C1 n l) 0 g⟩ := λ_ _ _ _ _ _ _ _ _ s q j D=>Alb y i d k.toR B ⟨rfl,rfl⟩ (λ_ _ e=>⟨by rw[e.1,e.2];exact u,by rw[e.2]⟩) s q j λ_ _ e=>by rw[e.1,e.2];exact D
end
section
variable {P:Program} {T:C6} {an:Nat->Ann} {n:Nat} {o:Oper} {ρ:Operand->AV} {H:Hp} {K:Eff->Nat->Prop}
variable {r:AV} {b:Bf} {hs:List Bf} {l:List Nat} {x y:Operand} {α:Type} {t:TypeId}
theorem Ga {b:Bool} {X:Prop} (h:bif b then X else False):b=true/\X:=by cases b with| false=>exact h.elim| true=>exact⟨rfl,h⟩
theorem Aam {x:AV} (h:Lw x=true):x = .val (.slice none 0 0):=by
 unfold Lw at h;split at h
 .rfl
 .cases h
theorem Av5 {x:AV} (h:V9 x=true):∀d,x≠.val (.agg d):=by intro d e;subst e;cases h
theorem Afv {i:TI} (u:Nat.beq (Fq i).cells.length i.zero.length=true) (d:V9 (Fq i)=true) (B:La i.size (Fq i)=true):(Fq i).cells=i.zero.map .val:=by
 have _:=u;have _:=B
 unfold Fq at d ⊢;cases D:i.d with
 | struct I=>rfl
 | _=>
  rw[D]at d;cases b:i.zero with
  | nil=>rfl
  | cons v l=>
   cases l with
   | cons _ _=>rfl
   | nil=>rw[b]at d;cases v <;> first|rfl|cases d
theorem Pu {c:Array α} {x y:α} (h:c.toList = [x,y]):c = #[x,y]:=by apply Array.ext';simpa using h
theorem T0 {c:Array α} {x:α} (h:c.toList = [x]):c = #[x]:=by apply Array.ext';simpa using h
theorem Rb {c:Call} {b:Builtin} {xs:Array Operand} {ts:Array TypeId} (d:c.callee = .builtin b) (u:c.args=xs) (B:c.argTypes=ts):c = {callee:=.builtin b,args:=xs,argTypes:=ts}:=by cases c;simp_all
def G1 (H:Hp) (n:Nat):Prop:=∀m,n<=m->H m = .none
def Ms (P:Program) (o:Oper) (ρ:Operand->AV) (H:Hp) (n:Nat) (K:Eff->Nat->Prop):Prop := ∃b m,Ca P o ρ b/\(∀p∈b.rd,H p.1=p.2)/\K b m/\n<=m/\G1 (Cq H b.wr) m
theorem Ds (b:G1 H n) (h:Ca P o ρ ⟨r,[],[]⟩) (k:K ⟨r,[],[]⟩ n):Ms P o ρ H n K:=⟨_,n,h,ψ,k,Nat.le_refl _,b⟩
theorem Mt (c:G1 H n) {x:Nat} (h:Ca P o ρ ⟨r,[(x,b)],[]⟩) (d:H x=b) (k:K ⟨r,[(x,b)],[]⟩ n):Ms P o ρ H n K := ⟨_,n,h,by simpa using d,k,Nat.le_refl _,c⟩
theorem Mu (g:G1 H n) {x:Nat} {c:Bf} (h:Ca P o ρ ⟨r,[(x,c)],[(x,b)]⟩) (d:H x=c) (f:c≠.none) (k:K ⟨r,[(x,c)],[(x,b)]⟩ n):Ms P o ρ H n K:=by
 refine⟨_,n,h,by simpa using d,k,Nat.le_refl _,λm i=>?_⟩;have j:x<n:=by
  rcases Nat.lt_or_ge x n with h|h
  .exact h
  .exact (f (d ▸ g x h)).elim
 show A4 H x b m=_;rw[Cy _ _ ω];exact g m i
theorem Oh (c:G1 H n) (h:Ca P o ρ ⟨r,[(n,.none)],[(n,b)]⟩) (k:K ⟨r,[(n,.none)],[(n,b)]⟩ (n+1)):Ms P o ρ H n K:=by refine⟨_,n+1,h,by simpa using c n (Nat.le_refl _),k,ω,λm f=>?_⟩;show A4 H n b m=_;rw[Cy _ _ ω];exact c m ω
theorem Ald {H:Hp}:∀{l:List (Nat×Bf)},(∀p∈l,H p.1=p.2)->Cq H l=H
 | [],_=>rfl
 | p::l,h=>by
  have e:A4 H p.1 p.2=H:=by
   funext q;by_cases d:q=p.1
   .subst d;rw[Cd];exact (h p ψ).symm
   .exact Cy _ _ d
  show Cq (A4 H p.1 p.2) l=H;rw[e];exact Ald λq d=>h q (by simp[d])
theorem Av6 {c:Call} {f:FuncId} {g:List AV} {b:List AV} (A:o.op = .call c) (i:c.callee = .value x) (I:ρ x = .fn f g) (q:Bm P f b hs r hs) (J:b.map (ren (C1 n l))=c.args.toList.map ρ ++ g) (j:Jx n l b hs r hs=true):Ca P o ρ ⟨ren (C1 n l) r,Ed (C1 n l) 0 hs,[]⟩:=by
 intro σ ι H F W w a next Q s u h L
 have E:hs.length=l.length:=by simp only[Jx,Fc]at j;exact Ft j.1.1.1.1.1.2
 have D:hs.length-l.length=0:=ω;refine Alc A i I q J j σ ι H F W w a next Q s u (λp hp=>?_) (λy z v w' le d k=>?_)
 .rw[D]at hp;rcases mem_append.1 hp with hp|hp
  .exact h p hp
  .simp[Ci]at hp
 .have B:Cq H (Ed (C1 n l) 0 hs)=H:=Ald h;dsimp only at le d k;rw[B]at le d k;exact L y z v w' le d k
theorem Av7 (g:G1 H n) {c:List AV} {b:List Bf} (f:Jx n l c hs r b=true) (s:Mo H (Ed (C1 n l) 0 hs)) (h:Ca P o ρ ⟨ren (C1 n l) r,Ed (C1 n l) 0 hs++Ci (C1 n l) l.length (b.length-l.length),Ed (C1 n l) 0 b⟩) (k:K ⟨ren (C1 n l) r,Ed (C1 n l) 0 hs++Ci (C1 n l) l.length (b.length-l.length),Ed (C1 n l) 0 b⟩ (n+(b.length-l.length))):Ms P o ρ H n K:=by
 simp only[Jx,Fc]at f;have j:=f.1.1.1.1.1.1;have u:=F3 f.1.1.1.1.2;refine⟨_,n+(b.length-l.length),h,λp hp=>?_,k,ω,λq B=>?_⟩
 .rcases mem_append.1 hp with hp|hp
  .exact s.spec p hp
  .obtain⟨i,hi,rfl⟩:=Ala hp;refine g _ ?_;show n<=C1 n l (l.length+i);rw[Wc ω];omega
 .show Cq H (Ed (C1 n l) 0 b) q = .none;rw[Wd λi hi e=>?_]
  .exact g q ω
  .rcases Nat.lt_or_ge (0+i) l.length with d|d
   .have:=Aft j d;omega
   .have:=Wc (n:=n) d;omega
theorem Av8 (l:C8 P T) (g:G1 H n) (f:o.op = .load t x) (h:sop P T an n o ρ H K):Ms P o ρ H n K:=by
 unfold sop at h;rw[f]at h;dsimp only at h;split at h
 .rename_i i u;split at h
  .rename_i cs d;cases b:i.isAgg with
   | true=>rw[b]at h;simp only[cond_true]at h;obtain⟨B,D⟩:=Ga h;exact Ds g (Atl l f u b d (F3 B)) D
   | false=>
    rw[b]at h;simp only[cond_false]at h;split at h
    .exact Ds g (Atj l f u b d) h
    .exact h.elim
  .rename_i M N d;split at h
   .rename_i E cs s;cases b:i.isAgg with
    | true=>rw[b]at h;simp only[cond_true]at h;obtain⟨B,D⟩:=Ga h;exact Mt g (Atn l f u b d (F3 B)) s D
    | false=>
     rw[b]at h;simp only[cond_false]at h;split at h
     .rename_i c I;exact Mt g (Atm l f u b d I) s h
     .exact h.elim
   .exact h.elim
  .rename_i M k q j d;split at h
   .rename_i E sz xs s;obtain⟨y,J,L,h⟩:=h;cases b:i.isAgg with
    | true=>rw[b]at h;simp only[cond_true]at h;obtain⟨B,D⟩:=Ga h;exact Mt g (Atp l f u b d J L (F3 B)) s D
    | false=>
     rw[b]at h;simp only[cond_false]at h;split at h
     .rename_i c I;exact Mt g (Ato l f u b d J L I) s h
     .exact h.elim
   .exact h.elim
  .exact h.elim
 .exact h.elim
theorem Av9 (l:C8 P T) (g:G1 H n) (c:o.op = .store t x y) (h:sop P T an n o ρ H K):Ms P o ρ H n K:=by
 unfold sop at h;rw[c]at h;dsimp only at h;split at h
 .rename_i i I;split at h
  .rename_i J L D;split at h
   .rename_i E cs f;obtain⟨d,B⟩:=Ga h;simp only[Fc]at d;exact Mu g (Atr l c I D (Ft d.1.1) (F3 d.1.2) d.2) f (by intro e;cases e) B
   .exact h.elim
  .rename_i J k q j D;split at h
   .rename_i E sz xs f;obtain⟨z,M,s,h⟩:=h;obtain⟨d,B⟩:=Ga h;simp only[Fc]at d;obtain⟨⟨⟨⟨N,R⟩,U⟩,V⟩,X⟩:=d;rw[Aai,Wb]at B;obtain⟨u,b,B⟩:=B;subst b;exact Mu g (Att l c I D M s (Ft N) (F3 R) (F3 U) V (Av5 X)) f (by intro e;cases e) B
   .exact h.elim
  .exact h.elim
 .exact h.elim
theorem Awa (j:C8 P T) (g:G1 H n) {op:BinOp} {l:TypeId} (f:o.op = .binOp op t x y l) (h:sop P T an n o ρ H K):Ms P o ρ H n K:=by
 unfold sop at h;rw[f]at h;dsimp only at h;split at h
 .rename_i k a i b d M;split at h
  .obtain⟨c,N,R,V⟩:=h;exact Ds g (At3 f d M N R) V
  .obtain⟨c,N,R,V⟩:=h;exact Ds g (At2 f d M N R) V
  .replace h:=Ga h;obtain⟨X,h⟩:=h;have X:k=i:=(by simpa using X);subst X;split at h
   .obtain⟨c,N,R⟩:=h;exact Ds g (Atv f d M N) R
   .obtain⟨c,N,R⟩:=h;exact Ds g (Atw f d M N) R
   .obtain⟨c,N,R⟩:=h;exact Ds g (Atx f d M N) R
   .obtain⟨c,N,R,V⟩:=h;exact Ds g (Aty f d M N R) V
   .obtain⟨c,N,R,V⟩:=h;exact Ds g (Atz f d M N R) V
   .split at h
    .rename_i t' U;exact Ds g (At0 f d M U) h
    .split at h
     .rename_i c hc;exact Ds g (At1 f d M hc) h
     .exact h.elim
 .rename_i a b d M;split at h
  .rename_i z u s ht;split at h
   .rename_i t' U;exact Ds g (At6 j f ht rfl d M U) h
   .exact h.elim
  .exact h.elim
 .rename_i xs ys d M;split at h
  .rename_i q N;split at h
   .rename_i vs R;split at h
    .obtain⟨b,hb,h⟩:=h;exact Ds g (Akm f d M N R hb (.inl ⟨rfl,rfl⟩)) h
    .obtain⟨b,hb,h⟩:=h;exact Ds g (Akm f d M N R hb (.inr ⟨rfl,rfl⟩)) h
    .exact h.elim
   .exact h.elim
  .exact h.elim
 .rename_i k a i b d M;replace h:=Ga h;obtain⟨X,h⟩:=h;have X:k=i:=(by simpa using X);subst X;obtain⟨c,N,R⟩:=h;exact Ds g (Aud f d M N) R
 .rename_i a b d M;split at h
  .obtain⟨N,R⟩:=h;exact Ds g (At9 f d M N) R
  .split at h
   .rename_i t' U;exact Ds g (At8 f d M U) h
   .exact h.elim
 .rename_i p E D B A d M;split at h
  .split at h
   .rename_i L J I G ht;exact Ds g (At7 j f ht rfl d M) h
   .exact h.elim
  .exact h.elim
 .exact h.elim
theorem Awb (u:C8 P T) (q:G1 H n) {lo hi:Option Operand} (i:o.op = .slice t x lo hi none) (h:sop P T an n o ρ H K):Ms P o ρ H n K:=by
 unfold sop at h;rw[i]at h;dsimp only at h;split at h
 .rename_i e D B A J;split at h
  .rename_i G y;split at h
   .rename_i sz xs I;split at h
    .rename_i z R c f;replace h:=Ga h;obtain⟨M,h⟩:=h;obtain⟨l,j,ys,el,b,L,d,U,k⟩:=h;subst el;subst b;subst U;exact Ds q (Auu u i J rfl y (Ft M) I c f L d) k
    .exact h.elim
   .rename_i hd k V len I;split at h
    .rename_i E sz xs g;split at h
     .rename_i z R c f;replace h:=Ga h;obtain⟨M,h⟩:=h;cases h with| mk l j N el b L d X k=>subst el;subst b;exact Mt q (Auw u i J rfl y (Ft M) I N c f L d X) g k| mkE l N el b d k=>subst el;subst b;exact Mt q (Avi u i J rfl y I N c f d) g k
     .exact h.elim
    .exact h.elim
   .exact h.elim
  .exact h.elim
 .rename_i D B A J;split at h
  .rename_i s I;split at h
   .rename_i z R c f;obtain⟨l,j,el,b,L,d,k⟩:=h;subst el;subst b;exact Ds q (Auv u i J rfl I c f L d) k
   .exact h.elim
  .exact h.elim
 .exact h.elim
theorem Awc (D:C8 P T) (A:G1 H n) {c:Call} (u:o.op = .call c) (h:sop P T an n o ρ H K):Ms P o ρ H n K:=by
 unfold sop at h;rw[u]at h;dsimp only at h;split at h
 .rename_i x i;split at h
  .rename_i f ad d;split at h
   .rename_i j ah;split at h
    .rename_i hd k len hj;split at h
     .rename_i E sz xs B;obtain⟨hk,I,r,hp,hf,h⟩:=h;subst hk;rw[<-I]at hj;exact Mu A (Av2 u i d hj hp hf) B (by intro e;cases e) h
     .exact h.elim
    .exact h.elim
   .cases h with| mk r hp hf k=>exact Ds A (Av0 u i d hp hf) k| ext r hp hf k=>exact Ds A (Av1 u i d hp hf) k| act l U hs r ag hp ha ok B k=>exact Av7 A ok B (Alc u i d hp ha ok) k| rd l U hs r hp ha ok B k=>exact⟨_,n,Av6 u i d hp ha ok,λp hp=>B.spec p hp,k,Nat.le_refl _,A⟩
  .exact h.elim
 .exact h.elim
 .rename_i i;split at h
  .rename_i x t ha z;rw[Rb i (T0 ha) (T0 z)]at u;split at h
   .rename_i e s1 Z Y ht;split at h
    .rename_i sz xs d;split at h
     .obtain⟨c,hc,h⟩:=h;subst hc;exact Ds A (Aj8 D u ht rfl d) h
     .exact Ds A (Aj8 D u ht rfl d) h
    .rename_i p m a3 d;exact Ds A (Auk D u ht rfl d) h
    .rename_i hd m d;exact Ds A (Auq D u ht rfl d) h
    .rename_i hd k a2 len d;split at h
     .rename_i E sz xs B;obtain⟨hk,h⟩:=h;exact Mt A (Aun D u ht rfl d hk) B h
     .exact h.elim
    .exact h.elim
   .rename_i s1 Z Y ht;split at h
    .rename_i s d;exact Ds A (Aum D u ht rfl d) h
    .exact h.elim
   .exact h.elim
  .exact h.elim
 .rename_i i;split at h
  .rename_i x t ha z;rw[Rb i (T0 ha) (T0 z)]at u;split at h
   .rename_i e s1 Z Y ht;split at h
    .rename_i p m a3 d;exact Ds A (Aul D u ht rfl d) h
    .exact h.elim
   .exact h.elim
  .exact h.elim
 .rename_i i;split at h
  .rename_i x y t t' ha z;rw[Rb i (Pu ha) (Pu z)]at u;split at h
   .rename_i e s1 Z Y ht;split at h
    .rename_i i' J;split at h
     .rename_i h2 k2 a6 a7 hy;split at h
      .rename_i hd k a2 len d;split at h
       .rename_i E sz xs B;replace h:=Ga h;obtain⟨g5,h⟩:=h;simp only[Fc]at g5;have M:=Ft g5.1.1.1;have R:=Ft g5.1.1.2;have e3:=Ft g5.1.2;have e4:0<i'.size:=F3 g5.2;subst M;subst R;subst e3;obtain⟨S,c,hk,I,X,V,G,hc,k⟩:=h;subst G;subst hc;exact Mu A (Avg D u ht rfl J e4 d hk I hy X V) B (by intro e;cases e) k
       .exact h.elim
      .rename_i q d;split at h
       .rename_i E sz xs B;replace h:=Ga h;obtain⟨g5,h⟩:=h;have M:=Ft g5;subst M;obtain⟨hk,k⟩:=h;exact Mt A (Avh D u ht rfl J d hy hk) B k
       .exact h.elim
      .exact h.elim
     .exact h.elim
    .exact h.elim
   .exact h.elim
  .exact h.elim
 .rename_i i;split at h
  .rename_i x t ha z;rw[Rb i (T0 ha) (T0 z)]at u;split at h
   .rename_i e s1 Z Y ht;split at h
    .rename_i i' J;split at h
     .rename_i hd k a2 len d;split at h
      .rename_i E sz xs B;replace h:=Ga h;obtain⟨g5,h⟩:=h;simp only[Fc]at g5;have M:=Ft g5.1.1.1.1.1;have R:=Ft g5.1.1.1.1.2;have e3:0<i'.size:=F3 g5.1.1.1.2;subst M;subst R;obtain⟨S,hk,I,G,k⟩:=h;subst G;exact Mu A (Avj D u ht rfl J e3 g5.1.1.2 (Afv g5.1.2 g5.2 g5.1.1.2) d hk I) B (by intro e;cases e) k
      .exact h.elim
     .rename_i q d;exact Ds A (Avk D u ht rfl d) h
     .exact h.elim
    .exact h.elim
   .exact h.elim
  .exact h.elim
 .rename_i i;split at h
  .rename_i x y t t' ha z;rw[Rb i (Pu ha) (Pu z)]at u;split at h
   .rename_i e s1 Z Y e' ab aa a8 ht a0;split at h
    .rename_i i' J;replace h:=Ga h;obtain⟨g,h⟩:=h;simp only[Fc]at g;obtain⟨⟨g1,g2⟩,g3⟩:=g;have g1:0<i'.size:=F3 g1;have g2:=Ft g2;have g3:=F3 g3;split at h
     .rename_i sz ys hy;replace h:=Ga h;obtain⟨g4,h⟩:=h;have g4:=Ft g4;subst g4;split at h
      .rename_i hd k len d;split at h
       .rename_i E a1 xs B;replace h:=Ga h;obtain⟨g5,h⟩:=h;simp only[Fc]at g5;have M:=Ft g5.1;have R:=Ft g5.2;subst M;subst R;split at h
        .cases h with| mk S m hk I hb G L k=>subst I;subst G;exact Mu A (Avd (Akf D u ht rfl a0 rfl J g1 g2 g3 d hk hy hb) (by simp[hk])) B (by intro e;cases e) k| mkP S k' m hk I hb G N L k=>exact k.elim
        cases h with| mk S m hk I hb G L k=>subst I;subst G;subst L;exact Mu A (Akf D u ht rfl a0 rfl J g1 g2 g3 d hk hy hb) B (by intro e;cases e) k| mkP S k' m hk I hb G N L k=>subst G;subst L;subst N;exact Mu A (Avb D u ht rfl a0 rfl J g1 g2 g3 d hk I hy hb) B (by intro e;cases e) k
       .exact h.elim
      .rename_i d;obtain⟨S,m,hb,G,L,k⟩:=h;subst G;subst L;exact Oh A (Au7 D n u ht rfl a0 rfl J g1 g2 g3 d hy hb) k
      .rename_i af ae d;obtain⟨ac,k⟩:=h;subst ac;exact Ds A (Ave D u ht rfl a0 rfl J g1 d hy) k
      .exact h.elim
     .rename_i h2 k2 a6 a7 hy;split at h
      .rename_i hd k len d;split at h
       .rename_i E a1 xs B;replace h:=Ga h;obtain⟨g5,h⟩:=h;simp only[Fc]at g5;have M:=Ft g5.1.1;have R:=Ft g5.1.2;have e3:=Ft g5.2;subst M;subst R;subst e3;obtain⟨S,k',m,hk,I,X,V,hb,G,N,L,k⟩:=h;subst G;subst L;subst N;exact Mu A (Avf D u ht rfl a0 rfl J g1 g2 g3 d hk I hy X V hb) B (by intro e;cases e) k
       .exact h.elim
      .exact h.elim
     .exact h.elim
    .exact h.elim
   .rename_i e s1 Z Y ab aa a8 ht a0;split at h
    .rename_i i' J;replace h:=Ga h;obtain⟨g,h⟩:=h;simp only[Fc]at g;obtain⟨⟨g1,g2⟩,g3⟩:=g;have g1:=Ft g1;have g2:=Ft g2;have g3:=F3 g3;split at h
     .rename_i s hy;split at h
      .rename_i hd k len d;split at h
       .rename_i E a1 xs B;replace h:=Ga h;obtain⟨g5,h⟩:=h;simp only[Fc]at g5;have M:=Ft g5.1;have R:=Ft g5.2;subst M;subst R;obtain⟨_,_,_,_,_,_,_,_,_,k⟩|⟨S,m,hk,I,hb,G,L,k⟩:=h
        .exact k.elim
        subst I;subst G;subst L;exact Mu A (Au6 D u ht rfl a0 rfl J g1 g2 g3 d hk hy hb) B (by intro e;cases e) k
       .exact h.elim
      .exact h.elim
     .exact h.elim
    .exact h.elim
   .exact h.elim
  .exact h.elim
 .rename_i i;split at h
  .rename_i x y t t' ha z;rw[Rb i (Pu ha) (Pu z)]at u;split at h
   .rename_i k a k' b d hy;exact Ds A (Au9 u d hy) h
   .exact h.elim
  .exact h.elim
 .rename_i i;split at h
  .rename_i x y t t' ha z;rw[Rb i (Pu ha) (Pu z)]at u;split at h
   .rename_i k a k' b d hy;exact Ds A (Ava u d hy) h
   .exact h.elim
  .exact h.elim
 .exact h.elim
theorem Ale (B:C8 P T) (A:G1 H n) (h:sop P T an n o ρ H K):Ms P o ρ H n K:=by
 cases u:o.op with
 | load t x=>exact Av8 B A u h
 | store t x y=>exact Av9 B A u h
 | binOp op t x y yt=>exact Awa B A u h
 | call c=>exact Awc B A u h
 | slice t x lo hi mx=>cases mx with| none=>exact Awb B A u h| some m=>unfold sop at h;rw[u]at h;exact h.elim
 | move x=>unfold sop at h;rw[u]at h;exact Ds A (Ate u) h
 | assign x=>
  unfold sop at h;rw[u]at h;dsimp only at h;split at h
  .exact Ds A (Ts u) h
  .split at h
   .exact Ds A (Ts u) h
   .exact Ds A (Ts u) h
   .exact Ds A (Ts u) h
   .exact Ds A (Ts u) h
   .cases hb:Lw (ρ x) with
    | false=>rw[hb]at h;exact Ds A (Ts u) h
    | true=>
     rw[hb]at h;simp only[cond_true]at h;split at h
     .rename_i e I G J ht;split at h
      .rename_i S D;replace h:=Ga h;obtain⟨g1,h⟩:=h;exact Oh A (Au8 B n u (Aam hb) ht rfl D (F3 g1)) h
      .exact h.elim
     .exact h.elim
 | pick c a b=>
  unfold sop at h;rw[u]at h;dsimp only at h;split at h
  .rename_i t hc;exact Ds A (Atf u hc) h
  .exact h.elim
 | alloc t=>
  unfold sop at h;rw[u]at h;dsimp only at h;split at h
  .rename_i i ht;exact Oh A (Ath B n u ht) h
  .exact h.elim
 | box t x=>unfold sop at h;rw[u]at h;exact Oh A (Ati n u) h
 | build t parts=>
  unfold sop at h;rw[u]at h;dsimp only at h;split at h
  .rename_i fs I G z ht;split at h
   .rename_i cs hc;exact Ds A (Aux B u ht rfl hc) h
   .exact h.elim
  .exact h.elim
 | buildSlice t len parts=>
  unfold sop at h;rw[u]at h;dsimp only at h;split at h
  .rename_i e I G J ht;split at h
   .rename_i S D;replace h:=Ga h;obtain⟨g,h⟩:=h;simp only[Fc]at g;obtain⟨⟨⟨g1,g2⟩,g3⟩,g4⟩:=g;have g2:parts.toList.map (·.1)=range' 0 len:=(by simpa using g2);have g4:∀p∈parts.toList,La S.size (ρ p.2)=true:=Ef.1 g4;split at h
    .exact h.elim
    .exact h.elim
    .rw[Aaj]at h;exact Ds A (Akc B u ht rfl D (F3 g1) g2 (F3 g3) g4) h
    .rw[Aaj]at h;exact Ds A (Akc B u ht rfl D (F3 g1) g2 (F3 g3) g4) h
    .rw[Aaj]at h;exact Oh A (Auz B n u ht rfl D (F3 g1) g2 (F3 g3) g4) h
   .exact h.elim
  .exact h.elim
 | nilCheck x=>unfold sop at h;rw[u]at h;dsimp only at h;replace h:=Ga h;obtain⟨g1,h⟩:=h;exact Ds A (Atu u g1) h
 | unOp op t x=>
  unfold sop at h;rw[u]at h;dsimp only at h;split at h
  .rename_i b hx;exact Ds A (Aua u hx) h
  .rename_i k m hx;obtain⟨c,h1,h2⟩:=h;exact Ds A (Aub u hx h1) h2
  .exact h.elim
 | convert s d x=>
  unfold sop at h;rw[u]at h;dsimp only at h;split at h
  .rename_i i k I G J L m hs hd hx;obtain⟨c,h1,h2⟩:=h;exact Ds A (Auc B u hs hd rfl hx h1) h2
  .rename_i v0 k0 I G J k1 m h1 h2 hx;exact Ds A (Aue B u h1 h2 rfl hx) h
  .rename_i v0 k0 I G J q m h1 h2 hx;obtain⟨c,g1,g2⟩:=h;exact Ds A (Auf B u h1 h2 rfl hx g1) g2
  .exact h.elim
 | makeFunc fn first Z=>
  cases fn with
  | func f=>
   unfold sop at h;rw[u]at h;dsimp only at h;replace h:=Ga h;obtain⟨g1,h⟩:=h;have:first = #[]:=by simpa using g1
   subst this;exact Ds A (Aut u) h
  | _=>unfold sop at h;rw[u]at h;exact h.elim
 | makeSlice t x y=>
  unfold sop at h;rw[u]at h;dsimp only at h;split at h
  .rename_i e I G J ht;split at h
   .rename_i S D;split at h
    .rename_i k l L c hx hy;split at h
     .rename_i m Y;split at h
      .rename_i v hv;replace h:=Ga h;obtain⟨g,h⟩:=h;simp only[Fc]at g;obtain⟨⟨⟨⟨g1,g2⟩,g3⟩,g4⟩,g5⟩:=g;have g4:=of_decide_eq_true g4;have g5:=of_decide_eq_true g5;subst g4;subst g5;exact Oh A (Au0 B n u ht rfl D (Ft g1) hv hx hy (F3 g3) (F3 g2)) h
      .exact h.elim
     replace h:=Ga h;obtain⟨g,h⟩:=h;simp only[Fc]at g;obtain⟨⟨⟨g1,g2⟩,g3⟩,g4⟩:=g;rcases h with⟨l',c',zs,el,ec,h1,h2,h3,R,k⟩|⟨z',V,l',c',zs,el,ec,h1,h2,h3,R,k⟩
     .subst el;subst ec;subst R;exact Oh A (Au1 B n u ht rfl D (F3 g1) hx hy h1 h2 h3 g2 (Afv g3 g4 g2)) k
     .subst el;subst ec;subst R;exact Oh A (Au2 B z' n u ht rfl D (F3 g1) hx hy h1 h2 h3 g2 (Afv g3 g4 g2) V) k
    .exact h.elim
   .exact h.elim
  .exact h.elim
 | fieldAddr s x f=>
  unfold sop at h;rw[u]at h;dsimp only at h;split at h
  .rename_i fs I G J ht;split at h
   .rename_i q hf;split at h
    .rename_i hd a0 hx;exact Ds A (Auh B u ht rfl hf hx) h
    .rename_i cs hx;exact Ds A (Aui B u ht rfl hf hx) h
    .rename_i hd k m j hx;split at h
     .rename_i E sz xs N;obtain⟨hk,h⟩:=h;exact Mt A (Auj B u ht rfl hf hx hk) N h
     .exact h.elim
    .exact h.elim
   .exact h.elim
  .exact h.elim
 | indexAddr t x y=>
  unfold sop at h;rw[u]at h;dsimp only at h;split at h
  .rename_i e I G J ht;split at h
   .rename_i S D;split at h
    .rename_i hd m k i hx hy;replace h:=Ga h;obtain⟨g1,h⟩:=h;obtain⟨q,hi,hq,L⟩:=h;subst hi;exact Ds A (Aup B u ht rfl D (Ft g1) hx hy hq) L
    .rename_i sz xs k i hx hy;replace h:=Ga h;obtain⟨g1,h⟩:=h;obtain⟨m,z,hi,R,L⟩:=h;subst hi;exact Ds A (Auo B u ht rfl D (Ft g1) hx hy R) L
    .rename_i hd k a0 len kk i hx hy;split at h
     .rename_i E sz xs N;replace h:=Ga h;obtain⟨g1,h⟩:=h;obtain⟨m,hk,hi,Y,L⟩:=h;subst hi;exact Mt A (Aur B u ht rfl D hx hk hy Y (Ft g1)) N L
     .exact h.elim
    .exact h.elim
   .exact h.elim
  .exact h.elim
 | index t x y=>
  unfold sop at h;rw[u]at h;dsimp only at h;split at h
  .rename_i I G J ht;split at h
   .rename_i s k i hx hy;obtain⟨m,c,hi,hc,L⟩:=h;subst hi;exact Ds A (Aus B u ht rfl hx hy hc) L
   .exact h.elim
  .exact h.elim
 | field t x f=>
  unfold sop at h;rw[u]at h;dsimp only at h;split at h
  .rename_i fs I G J ht;split at h
   .rename_i q hq;split at h
    .rename_i cs hx;obtain⟨ft,hf,h⟩:=h;split at h
     .rename_i X D;cases M:X.isAgg with
      | true=>rw[M]at h;simp only[cond_true]at h;obtain⟨h1,h2⟩:=Ga h;exact Ds A (Akn B u ht rfl hq hf D hx (.inl ⟨M,F3 h1,rfl⟩)) h2
      | false=>
       rw[M]at h;simp only[cond_false]at h;split at h
       .rename_i c hc;exact Ds A (Akn B u ht rfl hq hf D hx (.inr ⟨M,hc⟩)) h
       .exact h.elim
     .exact h.elim
    .exact h.elim
   .exact h.elim
  .exact h.elim
 | makeMap t r=>cases r with| none=>unfold sop at h;rw[u]at h;exact Oh A (Avl n u) h| some q=>unfold sop at h;rw[u]at h;exact h.elim
 | lookup t x y ok=>
  unfold sop at h;rw[u]at h;dsimp only at h;split at h
  .rename_i kt et I G J ht;split at h
   .rename_i q1 q2 q3 hk;split at h
    .rename_i X D;split at h
     .rename_i hd hx;split at h
      .rename_i s hy;split at h
       .rename_i es N;obtain⟨r,U,h⟩:=h;exact Mt A (Avn B u ht rfl hk rfl D hx hy U) N h
       .exact h.elim
      .exact h.elim
     .exact h.elim
    .exact h.elim
   .exact h.elim
  .exact h.elim
 | mapUpdate t x y z=>
  unfold sop at h;rw[u]at h;dsimp only at h;split at h
  .rename_i kt et I G J ht;split at h
   .rename_i q1 q2 q3 hk;split at h
    .rename_i hd hx;split at h
     .rename_i s hy;split at h
      .rename_i es N;obtain⟨g1,h⟩:=Ga h;rw[Wb]at h;obtain⟨a1,U,h⟩:=h;exact Mu A (Avo B u ht rfl hk rfl hx hy g1 U) N (by intro e;cases e) h
      .exact h.elim
     .exact h.elim
    .exact h.elim
   .exact h.elim
  .exact h.elim
 | extract x i=>
  unfold sop at h;rw[u]at h;dsimp only at h;split at h
  .rename_i cs hx;split at h
   .rename_i c hc;exact Ds A (Aug u hx hc) h
   .exact h.elim
  .exact h.elim
 | _=>unfold sop at h;rw[u]at h;exact h.elim
end
variable {x:AV} {σ:Ax} {t:Bool} {ι:Bx} {H:Hp} {l:List (Nat×Nat)} {sz:Nat} {A:Prop} {v:Value}
theorem Hg {B:Prop} (h:t=true) (k:A):bif t then A else B:=by rw[h];exact k
theorem Afw {B:Prop} (h:t=false) (k:B):bif t then A else B:=by rw[h];exact k
abbrev Kc:=List (List Nat×List Nat)
def Lx (l:List (Nat×Nat)):Nat->List AV->List AV
 | _,[]=>[]
 | i,x::xs=>(bif Lw x then (match l.lookup i with|some sz=>.sl sz [] | none=>x) else x)::Lx l (i+1) xs
def elN (l:List (Nat×Nat)) (x:AV):AV := match x with
 | .val (.agg d)=>.agg (Lx l 1000 (d.toList.map .val))
 | .agg cs=>.agg (Lx l 1000 cs)
 | x=>x
def Wg (l:List (Nat×Nat)) (x:AV):AV := match l with
 | []=>x
 | p::l=> match x with
  | .sl sz xs=>bif Nat.ble 1000 p.1 then .sl sz (xs.map (elN (p::l))) else .sl sz xs
  | .agg cs=>.agg (Lx (p::l) 0 cs)
  | x=>bif Lw x then .sl p.2 [] else x
def Aan (nl:Nat->List (Nat×Nat)):Option Nat->List (Nat×Nat)
 | none=>[]
 | some d=>nl d
theorem Aao (d:Lw x=true) (h:Conc σ ι H x v):Conc σ ι H (.sl sz []) v:=by rw[Aam d]at h;rw[h.val_inv];exact .cc (.nil sz none 0)
theorem Afx {l:List (Nat×Nat)}:∀{cs:List AV} {i k:Nat} {c:AV},(Lx l k cs)[i]? = some c->∃d,cs[i]? = some d/\(c=d\/(Lw d=true/\∃sz,c = .sl sz []))
 | [],i,k,c,h=>by simp[Lx]at h
 | x::xs,0,k,c,h=>by
  simp only[Lx,getElem?_cons_zero,Option.some.injEq]at h;refine⟨x,rfl,?_⟩;cases u:Lw x with
  | false=>rw[u]at h;exact .inl h.symm
  | true=>
   rw[u]at h;simp only[cond_true]at h;split at h
   .rename_i sz _;exact .inr ⟨rfl,sz,h.symm⟩
   .exact .inl h.symm
 | x::xs,i+1,k,c,h=>by simp only[Lx,getElem?_cons_succ]at h;obtain⟨d,B,D⟩:=Afx h;exact⟨d,by simpa using B,D⟩
theorem Afy {l:List (Nat×Nat)}:∀{cs:List AV} {k:Nat},(Lx l k cs).length=cs.length
 | [],_=>rfl
 | x::xs,k=>by simp only[Lx,length_cons,Afy]
theorem Awd:(elN l x).cells.length=x.cells.length/\∀(j:Nat) (c b:AV) (u:Value),x.cells[j]? = some c->(elN l x).cells[j]? = some b->CC σ c u->CC σ b u:=by
 have d:∀cs:List AV,(Lx l 1000 cs).length=cs.length/\∀(j:Nat) (c b:AV) (u:Value),cs[j]? = some c->(Lx l 1000 cs)[j]? = some b->CC σ c u->CC σ b u:=by
  intro cs;refine⟨Afy,λj c b u D I B=>?_⟩;obtain⟨M,J,rfl|⟨L,sz,rfl⟩⟩:=Afx I
  .rw[D]at J;cases J;exact B
  .rw[D]at J;cases J;rw[Aam L]at B;cases B;exact .nil sz none 0
 unfold elN;split
 .exact d _
 .exact d _
 .exact⟨rfl,λj c b u D I B=>by rw[D]at I;cases I;exact B⟩
theorem CC.mapEl {xs:List AV} (f:AV->AV) (hf:∀x,(f x).cells.length=x.cells.length/\∀(j:Nat) (c k:AV) (u:Value),x.cells[j]? = some c->(f x).cells[j]? = some k->CC σ c u->CC σ k u) (h:CC σ (.sl sz xs) v):CC σ (.sl sz (xs.map f)) v:=by
 cases h with
 | nil sz a cap=>exact .nil sz a cap
 | sl _ b off cap _ C E fr g B hs hc h1 G D s=>
  have q:(xs.map f).length=xs.length:=ψ;have l:∀(i:Nat) (y:AV) (j:Nat) (k:AV),(xs.map f)[i]? = some y->y.cells[j]? = some k->∃x c,xs[i]? = some x/\x.cells[j]? = some c/\y=f x:=(by intro i y j k d I;rw[getElem?_map]at d;cases hx:xs[i]? with| none=>rw[hx]at d;cases d| some x=>rw[hx]at d;cases d;have J:j<x.cells.length:=(by rw[<-(hf x).1];exact (F8.1 I).1);exact⟨x,x.cells[j],rfl,getElem?_eq_getElem J,rfl⟩);rw[<-q];refine .sl (xs.map f) b off cap sz C E fr g B ?_ ?_ ?_ (λi j hi J=>G i j (by simpa using hi) J) (by simpa using D) (by simpa using s)
  .intro i y hy;rw[getElem?_map]at hy;cases hx:xs[i]? with| none=>rw[hx]at hy;cases hy| some x=>rw[hx]at hy;cases hy;rw[(hf x).1];exact hs i x hx
  .intro i y j k d I;obtain⟨x,c,A,z,rfl⟩:=l i y j k d I;exact (hf x).2 j c k _ z I (hc i x j c A z)
  .intro i y j k d I;obtain⟨x,c,A,z,rfl⟩:=l i y j k d I;exact h1 i x j c A z
theorem Awe (h:Conc σ ι H x v):Conc σ ι H (Wg l x) v:=by
 unfold Wg;split
 .exact h
 .split
  .rename_i _ p l _ sz xs;cases L:Nat.ble 1000 p.1 with| false=>exact h| true=>exact .cc (h.sl_inv.mapEl _ λx=>Awd)
  .rename_i cs;obtain⟨D,rfl,f,b⟩:=h.agg_inv;refine .agg _ D (by rw[Afy];exact f) λi c u I d=>?_;obtain⟨M,B,rfl|⟨g,sz,rfl⟩⟩:=Afx I
   .exact b i _ u B d
   .exact Aao g (b i _ u B d)
  .cases J:Lw x with| false=>exact h| true=>exact Aao J h
theorem Ca.nils {P:Program} {o:Oper} {ρ:Operand->AV} {b:Eff} (l:List (Nat×Nat)) (h:Ca P o ρ b):Ca P o ρ ⟨Wg l b.r,b.rd,b.wr⟩ := λσ ι H F W w a next Q s hx g hk=>h σ ι H F W w a next Q s hx g λc f v w' le d hc=>hk c f v w' le d (Awe hc)
def Afz (e:Bv) (d:Option Nat) (r:AV) (H:Hp) (b:List (Nat×Bf)) (K:Bv->Hp->Prop):Prop :=
 match d with
 | none=>
  (match b with
  | []=>K e H
  | [p]=>K e (A4 H p.1 p.2)
  | p::q::l=>K e (Cq H (p::q::l)))
 | some t=>
  (match b with
  | []=>K (A4 e t r) H
  | [p]=>K (A4 e t r) (A4 H p.1 p.2)
  | p::q::l=>K (A4 e t r) (Cq H (p::q::l)))
theorem Af0 (e:Bv) (d:Option Nat) (r:AV) (H:Hp) (b:List (Nat×Bf)) (K:Bv->Hp->Prop):Afz e d r H b K=K (put e d r) (Cq H b):=by cases d <;> cases b with| nil=>rfl| cons p l=>cases l <;> rfl
inductive Nl (ops:List Oper) (acc:Kc) (K:Prop):Prop where
 | mk (h:Afh ops acc=true) (k:K)
inductive Ex where
 | normal
 | exit (id:Nat)
 | ret
def Hn (e:Bv):List (Nat×AV)->Prop
 | []=>True
 | p::l=>e p.1=p.2/\Hn e l
def Ho (H H':Hp):Nat->Nat->Prop
 | 0,_=>True
 | k+1,n=>(H k=H' k/\(H' k).under n=true)/\Ho H H' k n
def Kt (b:List Nat) (e:Bv) (u:Nat->Value) (l:List (Nat×AV)):Bv:=l.foldr (λp e=>A4 e p.1 p.2) (b.foldr (λs e=>A4 e s (.val (u s))) e)
def Ly (n:Nat) (b:List (Nat×AV)) (c:List (Nat×Bf)):Bool:=(b.all λp=>p.2.under n)&&c.all λp=>Nat.blt p.1 n
def Hh:Code->List Nat
 | .region _ ops _=>ops.toList.filterMap (·.dst)
 | .seq a b=>Hh a++Hh b
 | .cond _ a b=>Hh a++Hh b
 | .block _ b=>Hh b
 | .loop b=>Hh b
 | .scope b=>Hh b
 | _=>[]
structure Cfg where
 T:C6
 an:Nat->Ann:=λ_=>.std
 gh:Nat->List Nat:=λ_=>[]
 nl:Nat->List (Nat×Nat):=λ_=>[]
def Alf (N:Nat) (x:Operand):Bool := match x with
 | .tmp t=>Nat.blt t N
 | _=>true
def Lz (N:Nat):Code->Bool
 | .region _ ops _=>ops.toList.all λo=>(Kr ops o).all λs=>Nat.blt s N
 | .seq a b=>Lz N a&&Lz N b
 | .cond c a b=>Alf N c&&Lz N a&&Lz N b
 | .block _ b=>Lz N b
 | .loop b=>Lz N b
 | .scope b=>Lz N b
 | _=>true
def Ex.out:Ex->Exit
 | .normal=>.normal
 | .exit id=>.exit id
 | .ret=>.ret
section
variable {P:Program} {T:C6} {an:Nat->Ann} {nl:Nat->List (Nat×Nat)} {ops:Array Oper} {F:Ax} {W:World} {Q:Exit->Act->World->Prop}
theorem Alg {α:Type} {e:Nat->α} {s:Nat} {v:α} (h:e s=v):A4 e s v=e:=by subst h;exact Iq e s
end
section
variable {P:Program} {C:Cfg} {F:Ax} {W:World}
variable {x:AV} {n:Nat}
theorem Awf {c:Code} {Q:Exit->Act->World->Prop} {a:Act} {w:World} (J:Nat->Act->World->Prop) (k0:Nat) (h0:J k0 a w) (g:∀k a w,J k a w->c.wp P (Exit.then (λq w'=>∃s,s<k/\J s q w') Q) a w):(Code.loop c).wp P Q a w:=by
 intro b u cs;have L:∀k a w,J k a w->∃e q w',Q e q w'/\Arrives P (lone (b.at a (.code c :: .inLoop c::u)) cs w) b u cs e q w':=by
  intro k;induction k using Nat.strongRecOn with
  | _ k ih=>intro a w D;obtain⟨e,j,i,d,f⟩:=g k a w D b (.inLoop c::u) cs;cases e with| normal=>obtain⟨s,z,A⟩:=d;obtain⟨E,G,B,y,h⟩:=ih s z j i A;exact⟨E,G,B,y,.of_steps (Steps.trans f (.one step_inLoop)) h⟩| exit id=>exact⟨_,j,i,d,.pass (x:=.inLoop c) rfl (λ_ _=>.inl ψ) f⟩| goto l=>exact⟨_,j,i,d,.pass (x:=.inLoop c) rfl (λ_ _=>.inl ψ) f⟩| ret=>exact⟨_,j,i,d,.pass (x:=.inLoop c) rfl (λ_ _=>.inl ψ) f⟩| panic I=>exact⟨_,j,i,d,.pass (x:=.inLoop c) rfl (λ_ _=>.inl ψ) f⟩| outgrown=>exact⟨_,j,i,d,.pass (x:=.inLoop c) rfl (λ_ _=>.inl ψ) f⟩
 obtain⟨e,q,w',d,f⟩:=L k0 a w h0;exact⟨e,q,w',d,.of_steps (.one step_loop) f⟩
theorem Awg (h:x.under2 n=true) (d:∀cs,x≠.agg cs):x.under1 n=true:=by cases x <;> first|exact h|exact (d _ rfl).elim
theorem Conc.restrict {σ:Ax} {ι B:Bx} {H H':Hp} (D:∀h,h<n->B h=ι h) (I:∀h,h<n->H' h=H h) {v:Value} (hx:x.under n=true) (h:Conc σ ι H x v):Conc σ B H' x v:=by
 have l:∀{x:AV} {v:Value},x.under0 n=true->Conc σ ι H x v->Conc σ B H' x v:=by intro x v hx h;cases h with| cc h=>exact .cc h| loc h off b hb=>exact .loc h off b (by rw[D h (Hf hx)];exact hb)| mp h b hb=>exact .mp h b (by rw[D h (Hf hx)];exact hb)| vec h n b hb=>exact .vec h n b (by rw[D h (Hf hx)];exact hb)| arr h k off len v J G z=>have y:=Hf hx;exact .arr h k off len v (by rw[I h y];exact J) (by rw[D h y,I h y];exact G) z| el h k i j v J G z=>have y:=Hf hx;exact .el h k i j v (by rw[I h y];exact J) (by rw[D h y,I h y];exact G) z| ref cs b off C E fr g R hc h1 S=>exact .ref cs b off C E fr g R hc h1 S| agg=>cases hx| tup=>cases hx| fn=>cases hx
 have U:∀{x:AV} {v:Value},x.under1 n=true->Conc σ ι H x v->Conc σ B H' x v:=by intro x v hx h;cases x with| fn f cs=>obtain⟨vs,rfl,A,h⟩:=h.fn_inv;exact .fn f cs vs A λi c u h1 h2=>l (Ef.1 hx c (E7 h1)) (h i c u h1 h2)| agg cs=>cases hx| tup cs=>cases hx| val u=>exact l (x:=(.val u)) hx h| loc q off=>exact l (x:=(.loc q off)) hx h| arr q k off len=>exact l (x:=(.arr q k off len)) hx h| el q k i j=>exact l (x:=(.el q k i j)) hx h| mp q=>exact l (x:=(.mp q)) hx h| vec q m=>exact l (x:=(.vec q m)) hx h| ref cs=>exact l (x:=(.ref cs)) hx h| sl sz xs=>exact l (x:=(.sl sz xs)) hx h| fb s=>exact l (x:=(.fb s)) hx h
 have cells:∀{cs:List AV},cs.all (AV.under1 n)=true->∀(i:Nat) (c:AV) (u:Value),cs[i]? = some c->Conc σ ι H c u->Conc σ B H' c u :=
  λM i c u hc h=>U (Ef.1 M c (E7 hc)) h
 cases x with
 | agg cs=>cases h with| cc h=>exact .cc h| agg _ vs A h=>exact .agg cs vs A λi c u h1 h2=>cells hx i c u h1 (h i c u h1 h2)
 | tup cs=>
  cases h with
  | cc h=>exact .cc h
  | tup _ vs A h=>refine .tup cs vs A λi c u h1 h2=>?_;have hf:=Ef.1 hx c (E7 h1);have hc:=h i c u h1 h2;cases c with| agg ds=>obtain⟨N,rfl,L,G⟩:=hc.agg_inv;exact .agg ds N L λj d v V X=>cells hf j d v V (G j d v V X)| _=>exact U (Awg hf (by intro cs e;cases e)) hc
 | fn f cs=>cases h with| cc h=>exact .cc h| fn _ _ vs A h=>exact .fn f cs vs A λi c u h1 h2=>cells hx i c u h1 (h i c u h1 h2)
 | val v=>exact U rfl h
 | loc h off=>exact U hx h
 | arr h k off len=>exact U hx h
 | el h k i j=>exact U hx h
 | mp h=>exact U hx h
 | vec h n=>exact U hx h
 | ref cs=>exact U rfl h
 | sl sz xs=>exact U rfl h
 | fb s=>exact U rfl h
theorem Ho.spec {H H':Hp} {n:Nat}:∀{k:Nat},Ho H H' k n->∀h,h<k->H h=H' h/\(H' h).under n=true
 | 0,_,h,b=>ω
 | k+1,c,h,b=>by
  by_cases e:h=k
  .subst e;exact c.1
  .exact Ho.spec c.2 h ω
theorem Hn.spec {e:Bv}:∀{l:List (Nat×AV)},Hn e l->∀p∈l,e p.1=p.2
 | [],_,p,hp=>by cases hp
 | q::l,h,p,hp=>by
  rcases mem_cons.1 hp with rfl|hp
  .exact h.1
  .exact Hn.spec h.2 p hp
theorem Awh (c:List Nat) (e:Bv) (u:Nat->Value) (l:List (Nat×AV)) (s:Nat):(∃p∈l,p.1=s/\Kt c e u l s=p.2)\/(s∈c/\Kt c e u l s = .val (u s))\/(s ∉ c/\Kt c e u l s=e s):=by
 have d:(s∈c/\(c.foldr (λs e=>A4 e s (.val (u s))) e) s = .val (u s))\/(s ∉ c/\(c.foldr (λs e=>A4 e s (.val (u s))) e) s=e s):=by
  induction c with
  | nil=>exact .inr ⟨ψ,rfl⟩
  | cons t c ih=>
   simp only[foldr_cons];by_cases b:s=t
   .subst b;exact .inl ⟨ψ,Cd _ _ _⟩
   .rw[Cy _ _ b];rcases ih with⟨B,D⟩|⟨B,D⟩
    .exact .inl ⟨by simp[B],D⟩
    .exact .inr ⟨by simp[B,b],D⟩
 unfold Kt;induction l with
 | nil=>exact .inr d
 | cons p l ih=>
  simp only[foldr_cons];by_cases b:s=p.1
  .exact .inl ⟨p,ψ,b.symm,by rw[b];exact Cd _ _ _⟩
  .rw[Cy _ _ b];rcases ih with⟨q,I,B,D⟩|h|h
   .exact .inl ⟨q,by simp[I],B,D⟩
   .exact .inr (.inl h)
   .exact .inr (.inr h)
theorem Alh {N:Nat} {ops:Array Oper} (h:(ops.toList.all λo=>(Kr ops o).all λs=>Nat.blt s N)=true):Z8 ops N:=by intro i o b s hs;rw[Ef]at h;have:=h o (by simpa using Array.mem_of_getElem? b);rw[Ef]at this;exact Hf (this s hs)
end
def Aap (T:C6) (e:Bv) (H:Hp):ResultVar->Option AV
 | .tmp t=>some (e t)
 | .cell a t=> match e a with
  | .loc h d=> match H h with
   | .cells _ cs=> match T t with
    | some i=>bif i.isAgg then (bif Nat.ble (d+i.size) cs.length then some (.agg ((cs.drop d).take i.size)) else none) else cs[d]?
    | none=>none
   | _=>none
  | _=>none
def Aaq (x:AV) (H:Hp) (K:AV->Hp->Prop):Prop := match x with
 | .arr h k 0 len=> match H h with
  | .rows _ sz xs=>Hm k xs (Hm len xs (K (.sl sz xs) (A4 H h .dead)))
  | _=>False
 | x=>K x H
def Aar:List AV->Hp->(List AV->Hp->Prop)->Prop
 | [],H,K=>K [] H
 | x::xs,H,K=>Aaq x H λy H=>Aar xs H λys H=>K (y::ys) H
def fin (x:AV) (H:Hp) (K:AV->Hp->Prop):Prop := match x with
 | .agg cs=>Aar cs H λcs H=>K (.agg cs) H
 | x=>Aaq x H K
def Aas:List AV->Hp->(List AV->Prop)->Prop
 | [],_,K=>K []
 | x::xs,H,K=>fin x H λy H=>Aas xs H λys=>K (y::ys)
def T1 (T:C6) (e:Bv) (H:Hp):List ResultVar->Option (List AV)
 | []=>some []
 | r::d=> match Aap T e H r with
  | none=>none
  | some x=> match T1 T e H d with
   | none=>none
   | some xs=>some (x::xs)
def Wh:List AV->AV
 | [x]=>x
 | xs=>.tup xs
def Re (T:C6) (b:List ResultVar) (K:AV->Prop) (e:Bv) (H:Hp):Prop := match T1 T e H b with
 | none=>False
 | some xs=>Aas xs H λys=>K (Wh ys)
def T2 (args:List AV):Bv:=λn=>args.getD n (.val undef)
def Rf:ResultVar->Nat
 | .tmp t=>t
 | .cell a _=>a
def T3 (fn:Func) (c:Code) (k:Nat):Bool:=Lz fn.ntmps c&&(fn.results.toList.all λr=>Nat.blt (Rf r) fn.ntmps)&&Nat.ble k fn.ntmps
section
variable {P:Program} {T:C6} {F:Ax} {W w:World}
variable {x:AV} {K:AV->Hp->Prop} {a:Act} {σ:Ax} {e:Bv} {ι:Bx} {H:Hp} {v:Value}
theorem Ali (h:Aaq x H K) (s:St σ ι H F W w) (u:Conc σ ι H x v) : ∃b y d,K y d/\Le σ ι H b ι d/\St b ι d F W w/\Conc b ι d y v:=by
 unfold Aaq at h;split at h
 .rename_i B k len;split at h
  .rename_i E sz xs g;obtain⟨D,l,h⟩:=h;obtain⟨i,c,j,f⟩:=s.freeze g;refine⟨i,.sl sz xs,A4 H B .dead,h,c,j,.cc ?_⟩;have:=f 0 len _ ω (u.arr_inv g D);rwa [drop_zero,take_of_length_le ω]at this
  .exact h.elim
 .exact⟨σ,_,H,h,Le.refl _ _ _,s,u⟩
theorem Alj:∀{cs:List AV} {vs:List Value} {H:Hp} {K:List AV->Hp->Prop} {σ:Ax} {ι:Bx},Aar cs H K->St σ ι H F W w->vs.length=cs.length->(∀(i:Nat) (c:AV) (v:Value),cs[i]? = some c->vs[i]? = some v->Conc σ ι H c v) -> ∃j ys J,K ys J/\Le σ ι H j ι J/\St j ι J F W w/\vs.length=ys.length/\∀(i:Nat) (c:AV) (v:Value),ys[i]? = some c->vs[i]? = some v->Conc j ι J c v
 | [],vs,H,K,σ,ι,h,s,g,d=>⟨σ,[],H,h,Le.refl _ _ _,s,g,d⟩
 | x::cs,[],H,K,σ,ι,h,s,g,d=>by simp at g
 | x::cs,v::vs,H,K,σ,ι,h,s,g,d=>by simp only[Aar]at h;obtain⟨B,y,D,L,f,z,c1⟩:=Ali h s (d 0 x v ψ ψ);obtain⟨l,ys,A,M,b,q,k,c2⟩:=Alj (vs:=vs) L z (by simpa using g) λi c u hi I=>(d (i+1) c u (by simpa using hi) (by simpa using I)).mono f;refine⟨l,y::ys,A,M,f.trans b,q,by simp[k],λi c u hi I=>?_⟩;cases i with| zero=>simp at hi I;subst hi;subst I;exact c1.mono b| succ i=>exact c2 i c u (by simpa using hi) (by simpa using I)
theorem Alk (h:fin x H K) (s:St σ ι H F W w) (D:Conc σ ι H x v) : ∃b y d,K y d/\Le σ ι H b ι d/\St b ι d F W w/\Conc b ι d y v:=by
 unfold fin at h;split at h
 .rename_i cs;obtain⟨vs,rfl,q,l⟩:=D.agg_inv;obtain⟨j,ys,z,I,f,k,g,c1⟩:=Alj (vs:=vs.toList) h s (by simpa using q) λi c u hi B=>l i c u hi (by simpa using B);exact⟨j,.agg ys,z,I,f,k,.agg ys vs (by simpa using g) λi c u hi B=>c1 i c u hi (by simpa using B)⟩
 .exact Ali h s D
theorem All:∀{xs:List AV} {vs:List Value} {H:Hp} {K:List AV->Prop} {σ:Ax} {ι:Bx},Aas xs H K->St σ ι H F W w->vs.length=xs.length->(∀(i:Nat) (c:AV) (v:Value),xs[i]? = some c->vs[i]? = some v->Conc σ ι H c v) -> ∃j ys J,K ys/\Le σ ι H j ι J/\St j ι J F W w/\vs.length=ys.length/\∀(i:Nat) (c:AV) (v:Value),ys[i]? = some c->vs[i]? = some v->Conc j ι J c v
 | [],vs,H,K,σ,ι,h,s,g,d=>⟨σ,[],H,h,Le.refl _ _ _,s,g,d⟩
 | x::cs,[],H,K,σ,ι,h,s,g,d=>by simp at g
 | x::cs,v::vs,H,K,σ,ι,h,s,g,d=>by simp only[Aas]at h;obtain⟨B,y,D,L,f,z,c1⟩:=Alk h s (d 0 x v ψ ψ);obtain⟨l,ys,A,M,b,q,k,c2⟩:=All (vs:=vs) L z (by simpa using g) λi c u hi I=>(d (i+1) c u (by simpa using hi) (by simpa using I)).mono f;refine⟨l,y::ys,A,M,f.trans b,q,by simp[k],λi c u hi I=>?_⟩;cases i with| zero=>simp at hi I;subst hi;subst I;exact c1.mono b| succ i=>exact c2 i c u (by simpa using hi) (by simpa using I)
def Rg (b:Array Value):ResultVar->Sem Value
 | .tmp t=>pure (b.getD t undef)
 | .cell a t=>do loadVar t (<-asAddr (b.getD a undef))
theorem Awi (B:C8 P T) (s:St σ ι H F W w) (A:Fu σ ι H e a) {r:ResultVar} (hs:Rf r<a.tmps.size) (h:Aap T e H r=some x) : ∃v,(Rg a.tmps r).run P w = .ok v w/\Conc σ ι H x v:=by
 cases r with
 | tmp t=>simp only[Aap]at h;cases h;exact⟨_,rfl,A t hs⟩
 | cell p t=>
  simp only[Aap]at h;split at h
  .rename_i hd d hx;split at h
   .rename_i E cs J;split at h
    .rename_i i V;have X:=A p hs;rw[hx]at X;obtain⟨b,hb,z⟩:=X.loc_inv;have k:=s.obj hd;unfold Cv at k;rw[J]at k;obtain⟨M,C,I,_,_,h3,L,G⟩:=k;rw[hb]at I;cases I;have N:=Zv (B t i V) w;cases y:i.isAgg with
     | true=>rw[y]at h N;simp only[cond_true]at h;cases g:Nat.ble (d+i.size) cs.length with| false=>rw[g]at h;cases h| true=>rw[g]at h;cases h;have g:=F3 g;have h2:=Mm (B t i V) w;have D:=run_loadCells_list (P:=P) w ⟨b,d,none⟩ ((C.toList.drop d).take i.size) (by intro j v R;have f:j<i.size:=(by have:=(F8.1 R).1;simp at this;omega);rw[He f,getElem?_drop,Gi]at R;rw[Kq,J9 h3];exact R);have q:((C.toList.drop d).take i.size).length=i.size:=ζ;rw[q]at D;refine⟨_,by simp only[Rg,z,asAddr,Sem.run_bind,Sem.run_pure,Result.andThen_ok,loadVar,N,if_true,h2,D];rfl,?_⟩;refine .agg _ _ ζ λj c u U g2=>?_;have f:j<i.size:=(by have:=(F8.1 U).1;simp at this;omega);rw[He f,getElem?_drop]at U;rw[getElem?_toArray,He f,getElem?_drop,Gi]at g2;exact G _ c u U g2
     | false=>rw[y]at h N;simp only[cond_false]at h;have f:d<C.size:=(by rw[L];exact (F8.1 h).1);have l:w.cell? ⟨b,d,none⟩=some C[d]:=(by rw[J9 h3];simp[f]);exact⟨C[d],by simp[Rg,z,asAddr,loadVar,N,l],G d x _ h (by simp[f])⟩
    .cases h
   .cases h
  .cases h
theorem Af1 (j:C8 P T) {e:Bv} {H:Hp} {σ:Ax} {ι:Bx} {a:Act} (s:St σ ι H F W w) (g:Fu σ ι H e a):∀{b:List ResultVar} {xs:List AV},(∀r∈b,Rf r<a.tmps.size)->T1 T e H b=some xs -> ∃d:List Value,(b.mapM (Rg a.tmps)).run P w = .ok d w/\d.length=xs.length/\∀(i:Nat) (c:AV) (v:Value),xs[i]? = some c->d[i]? = some v->Conc σ ι H c v
 | [],xs,_,h=>by simp only[T1]at h;cases h;exact⟨[],ψ,rfl,ψ⟩
 | r::b,xs,hs,h=>by
  simp only[T1]at h;split at h
  .cases h
  .rename_i x D;split at h
   .cases h
   .rename_i ys I;cases h;obtain⟨v,J,c1⟩:=Awi j s g (hs r ψ) D;obtain⟨d,L,l,c2⟩:=Af1 j s g (λk f=>hs k (by simp[f])) I;refine⟨v::d,by simp[mapM_cons,J,L],by simp[l],λi c u hi B=>?_⟩;cases i with| zero=>simp at hi B;subst hi;subst B;exact c1| succ i=>exact c2 i c u (by simpa using hi) (by simpa using B)
theorem Alm (fn:Func) (b:Array Value):results fn b=(fn.results.mapM (Rg b) >>= λd=>pure (if h:d.size=1 then d[0] else .tuple d)):=by unfold results;congr 1
theorem Awj (z:C8 P T) {fn:Func} {K:AV->Prop} (s:St σ ι H F W w) (x:Fu σ ι H e a) (hs:∀r∈fn.results.toList,Rf r<a.tmps.size) (h:Re T fn.results.toList K e H) : ∃v f B r,(results fn a.tmps).run P w = .ok v w/\K r/\Le σ ι H f ι B/\St f ι B F W w/\Conc f ι B r v:=by
 unfold Re at h;split at h
 .exact h.elim
 .rename_i xs D;obtain⟨d,I,q,c1⟩:=Af1 z s x hs D;obtain⟨f,ys,B,k,le,J,b,j⟩:=All h s q c1;have g:(fn.results.mapM (Rg a.tmps)).run P w = .ok d.toArray w:=(by rw[Array.mapM_eq_mapM_toList];simp[I]);refine⟨if h:d.toArray.size=1 then d.toArray[0] else .tuple d.toArray,f,B,Wh ys,?_,k,le,J,?_⟩
  .rw[Alm,Sem.run_bind,g];rfl
  .match ys,d,b,j with| [y],[v],_,j=>exact j 0 y v rfl rfl| [],[],_,_=>exact .tup [] #[] rfl ψ| y::A::ys,v::l::d,b,j=>have:¬(v::l::d).toArray.size=1:=ψ;rw[dif_neg this];exact .tup _ _ (by simpa using b) (λi c u hi L=>j i c u hi (by simpa using L))| [],_::_,b,_=>simp at b| _::_,[],b,_=>simp at b| [_],_::_::_,b,_=>simp at b| _::_::_,[_],b,_=>simp at b
theorem St.forget (s:St σ ι H F W w):St σ ι0 H0 F W w := ⟨s.sto,s.fra,λ_=>rfl,(λ_ _ _ b=>by cases b),s.os,s.tape,s.output,s.glo,s.drw⟩
theorem Aln {args:List AV} {vs:Array Value} {N:Nat} (h:Ks σ ι H args vs):Fu σ ι H (T2 args) ⟨vs++Array.replicate (N-vs.size) undef,[]⟩:=by
 intro q D;simp only[T2,Array.getD_eq_getD_getElem?];by_cases b:q<args.length
 .have d:q<vs.size:=(by rw[h.1];exact b);rw[Array.getElem?_append_left d];have u:args[q]? = some args[q]:=getElem?_eq_getElem b;have B:vs[q]? = some vs[q]:=Array.getElem?_eq_getElem d;have:=h.2 q _ _ u B;simpa[getD,u,B] using this
 .rw[Array.getElem?_append_right (by rw[h.1];omega)];have u:args[q]? = none:=getElem?_eq_none ω;have d:q-vs.size<N-vs.size:=(by simp at D;have:=h.1;omega);simp only[getD,u,Option.getD_none];simp[d];exact .of_val undef
end
inductive Tr where
 | leaf
 | node (l:Tr) (k:Nat) (v:TI) (r:Tr)
def Tr.find:Tr->Nat->Option TI
 | .leaf,_=>none
 | .node l k v r,t=>bif Nat.beq t k then some v else bif Nat.blt t k then l.find t else r.find t
def Tr.toList:Tr->List (Nat×TI)
 | .leaf=>[]
 | .node l k v r=>l.toList++(k,v)::r.toList
theorem Tr.find_mem:∀(t:Tr) (k:Nat) (v:TI),t.find k=some v->(k,v)∈t.toList
 | .leaf,k,v,h=>by cases h
 | .node l b f r,k,v,h=>by
  simp only[Tr.find]at h;simp only[Tr.toList,mem_append,mem_cons];cases hb:Nat.beq k b with
  | true=>rw[hb]at h;simp only[cond_true]at h;cases h;rw[Ft hb];exact .inr (.inl rfl)
  | false=>rw[hb]at h;simp only[cond_false]at h;cases c:Nat.blt k b with| true=>rw[c]at h;exact .inl (Tr.find_mem l k v h)| false=>rw[c]at h;exact .inr (.inr (Tr.find_mem r k v h))
theorem Tr.ok {P:Program} {t:Tr} (h:t.toList.map (λp=>Ie P p.1)=t.toList.map λp=>some p.2):C8 P t.find:=by intro k v hk;have b:=t.find_mem k v hk;obtain⟨i,hi⟩:=getElem?_of_mem b;have:=congrArg (λl=>l[i]?) h;simpa[hi] using this
def Aat:List AV->Hp->(List AV->Hp->Prop)->Prop
 | [],H,K=>K [] H
 | x::xs,H,K=>fin x H λy H=>Aat xs H λys H=>K (y::ys) H
def Pv (H:Hp):Nat->List Bf->Prop
 | _,[]=>True
 | k,o::os=>H k=o/\Pv H (k+1) os
def Rh (T:C6) (d:Bool) (b:List ResultVar) (r:AV) (hs:List Bf) (e:Bv) (H:Hp):Prop := match T1 T e H b with
 | none=>False
 | some xs=>bif d then Aat xs H λys H=>Wh ys=r/\Pv H 0 hs else Wh xs=r/\Pv H 0 hs
section
variable {P:Program} {T:C6} {F:Ax} {W w:World}
variable {r:AV} {σ:Ax} {ι:Bx} {H:Hp} {b:List AV} {hs:List Bf}
theorem Pv.spec {H:Hp}:∀{os:List Bf} {k:Nat},Pv H k os->∀i,i<os.length->H (k+i)=hp os i
 | [],k,_,i,hi=>by simp at hi
 | o::os,k,h,0,_=>by simpa[hp] using h.1
 | o::os,k,h,i+1,hi=>by have:=Pv.spec h.2 i (by simpa using hi);rw[show k+(i+1)=k+1+i by omega,this];simp[hp]
theorem Alo:∀{xs:List AV} {vs:List Value} {H:Hp} {K:List AV->Hp->Prop} {σ:Ax} {ι:Bx},Aat xs H K->St σ ι H F W w->vs.length=xs.length->(∀(i:Nat) (c:AV) (v:Value),xs[i]? = some c->vs[i]? = some v->Conc σ ι H c v) -> ∃j ys J,K ys J/\Le σ ι H j ι J/\St j ι J F W w/\vs.length=ys.length/\∀(i:Nat) (c:AV) (v:Value),ys[i]? = some c->vs[i]? = some v->Conc j ι J c v
 | [],vs,H,K,σ,ι,h,s,g,d=>⟨σ,[],H,h,Le.refl _ _ _,s,g,d⟩
 | x::cs,[],H,K,σ,ι,h,s,g,d=>by simp at g
 | x::cs,v::vs,H,K,σ,ι,h,s,g,d=>by simp only[Aat]at h;obtain⟨B,y,D,L,f,z,c1⟩:=Alk h s (d 0 x v ψ ψ);obtain⟨l,ys,A,M,b,q,k,c2⟩:=Alo (vs:=vs) L z (by simpa using g) λi c u hi I=>(d (i+1) c u (by simpa using hi) (by simpa using I)).mono f;refine⟨l,y::ys,A,M,f.trans b,q,by simp[k],λi c u hi I=>?_⟩;cases i with| zero=>simp at hi I;subst hi;subst I;exact c1.mono b| succ i=>exact c2 i c u (by simpa using hi) (by simpa using I)
theorem Awk (A:C8 P T) {fn:Func} {J:Bool} {e:Bv} {a:Act} (s:St σ ι H F W w) (z:Fu σ ι H e a) (l:∀r∈fn.results.toList,Rf r<a.tmps.size) (h:Rh T J fn.results.toList r hs e H):∃v f d,(results fn a.tmps).run P w = .ok v w/\Pv d 0 hs/\Le σ ι H f ι d/\St f ι d F W w/\Conc f ι d r v:=by
 unfold Rh at h;split at h
 .exact h.elim
 .rename_i xs L;obtain⟨D,M,q,c1⟩:=Af1 A s z l L;have I:∃f ys d,(Wh ys=r/\Pv d 0 hs)/\Le σ ι H f ι d/\St f ι d F W w/\D.length=ys.length/\∀(i:Nat) (c:AV) (v:Value),ys[i]? = some c->D[i]? = some v->Conc f ι d c v:=(by cases J with| true=>exact Alo h s q c1| false=>exact⟨σ,xs,H,h,Le.refl _ _ _,s,q,c1⟩);obtain⟨f,ys,d,⟨rfl,k⟩,le,N,b,j⟩:=I;have g:(fn.results.mapM (Rg a.tmps)).run P w = .ok D.toArray w:=(by rw[Array.mapM_eq_mapM_toList];simp[M]);refine⟨if h:D.toArray.size=1 then D.toArray[0] else .tuple D.toArray,f,d,?_,k,le,N,?_⟩
  .rw[Alm,Sem.run_bind,g];rfl
  .match ys,D,b,j with| [y],[v],_,j=>exact j 0 y v rfl rfl| [],[],_,_=>exact .tup [] #[] rfl ψ| y::B::ys,v::x::D,b,j=>have:¬(v::x::D).toArray.size=1:=ψ;rw[dif_neg this];exact .tup _ _ (by simpa using b) (λi c u hi R=>j i c u hi (by simpa using R))| [],_::_,b,_=>simp at b| _::_,[],b,_=>simp at b| [_],_::_::_,b,_=>simp at b| _::_::_,[_],b,_=>simp at b
theorem St.first (s:St σ ι H F W w) (hs:List Bf) (hk:∀i,i<hs.length->H i=hp hs i) (I:hs.all (Bf.under hs.length)=true) : St σ (λk=>if k<hs.length then ι k else .none) (hp hs) F W w:=by
 have A:∀h,h<hs.length->(λk=>if k<hs.length then ι k else Loc.none) h=ι h:=λh g=>if_pos g;have d:∀h,h<hs.length->hp hs h=H h:=λh g=>(hk h g).symm;have lt:∀k,(hp hs k).live=true->k<hs.length:=by
  intro k h;rcases Nat.lt_or_ge k hs.length with h'|h'
  .exact h'
  .rw[Pt h']at h;cases h
 refine⟨s.sto,s.fra,λk=>?_,λk q b h1 h2 h3 l=>?_,s.os,s.tape,s.output,s.glo,s.drw⟩
 .by_cases g:k<hs.length
  .have f:=s.obj k;have j:=Ef.1 I _ (E7 (We g));unfold Cv at f ⊢;rw[hk k g]at f;dsimp only;rw[if_pos g];cases hx:hp hs k with| none=>rw[hx]at f;exact f| dead=>trivial| rows E sz xs=>rw[hx]at f;exact f| map es=>rw[hx]at f;exact f| cells E cs=>rw[hx]at f j;obtain⟨b,C,D,h1,h2,h3,l,B⟩:=f;refine⟨b,C,D,h1,h2,h3,l,λi c v x y=>?_⟩;have hc:=Ef.1 j c (E7 x);refine (B i c v x y).restrict (n:=hs.length) A d ?_;exact Ak3 hc
  .unfold Cv;rw[Pt ω];exact if_neg g
 .have z:=lt k h1;have u:=lt q h2;rw[if_pos z]at h3;rw[if_pos u]at l;rw[d k z]at h1;rw[d q u]at h2;exact s.inj k q b h1 h2 h3 l
def Af2 (hs:List Bf) (r:AV) (b:List Bf):Bool:=Nat.ble hs.length b.length&&r.under b.length&&b.all (Bf.under b.length)
def Sub (x y:AV):Prop:=∀(σ:Ax) (ι:Bx) (H:Hp) (v:Value),Conc σ ι H x v->Conc σ ι H y v
theorem Sub.refl (x:AV):Sub x x:=λ_ _ _ _ h=>h
theorem Sub.nil (sz:Nat):Sub (.val (.slice none 0 0)) (.sl sz []):=λ_ _ _ _ h=>Aao rfl h
def Px:List AV->List AV->Prop
 | [],[]=>True
 | x::xs,y::ys=>Sub x y/\Px xs ys
 | _,_=>False
theorem Px.spec:∀{xs ys:List AV},Px xs ys->xs.length=ys.length/\∀(i:Nat) (y:AV),ys[i]? = some y->∃x,xs[i]? = some x/\Sub x y
 | [],[],_=>⟨rfl,ψ⟩
 | [],_::_,h=>h.elim
 | _::_,[],h=>h.elim
 | x::xs,y::ys,h=>by obtain⟨h1,h2⟩:=Px.spec h.2;refine⟨by simp[h1],λi z b=>?_⟩;cases i with| zero=>simp at b;subst b;exact⟨x,rfl,h.1⟩| succ i=>simpa using h2 i z (by simpa using b)
theorem Sub.agg {xs ys:List AV} (h:Px xs ys):Sub (.agg xs) (.agg ys):=by intro σ ι H v hc;obtain⟨vs,rfl,f,b⟩:=hc.agg_inv;obtain⟨h1,h2⟩:=h.spec;refine .agg _ vs (by rw[<-h1];exact f) λi c u h3 k=>?_;obtain⟨x,j,g⟩:=h2 i c h3;exact g _ _ _ _ (b i x u j k)
theorem A6.sub {f:FuncId} {args:List AV} {k:AV} (h:A6 P f b r) (ha:Px args b) (q:Sub r k):A6 P f args k:=by
 refine⟨h.1,λσ F W w vs s hc=>?_⟩;obtain⟨h1,h2⟩:=ha.spec;refine (h.2 σ F W w vs s ⟨by rw[<-h1];exact hc.1,λi a v h3 j=>?_⟩).mono ?_
 .obtain⟨x,g,c⟩:=h2 i a h3;exact c _ _ _ _ (hc.2 i x v g j)
 .rintro e w' ⟨v,l,h3,j,g,c⟩;exact⟨v,l,h3,j,g,q _ _ _ _ c⟩
theorem Bm.sub {f:FuncId} {args:List AV} {c:List Bf} (h:Bm P f b hs r c) (ha:Px args b):Bm P f args hs r c:=by refine⟨h.1,λσ F W w ι vs s hc=>?_⟩;obtain⟨h1,h2⟩:=ha.spec;refine h.2 σ F W w ι vs s ⟨by rw[<-h1];exact hc.1,λi a v h3 k=>?_⟩;obtain⟨x,j,g⟩:=h2 i a h3;exact g _ _ _ _ (hc.2 i x v j k)
end
inductive Fh (K:Prop):Prop where
 | mk (k:K)
def opK (P:Program) (T:C6) (an:Nat->Ann) (nl:Nat->List (Nat×Nat)) (o:Oper) (n:Nat) (e:Bv) (H:Hp) (acc:Kc) (K:Nat->Bv->Hp->Kc->Prop):Prop := sop P T an n o (ev e) H λb m=>Ty (Wg (Aan nl o.dst) b.r) λr=>Aah b.wr λwr=>Wa b.rd λf=>Wa wr λc=>Afz e o.dst r H wr λe H=>Fh (K m e H (acc++[(f,c)]))
def Wi (o:Oper) (n:Nat) (e:Bv) (H:Hp) (acc:Kc) (K:Nat->Bv->Hp->Kc->Prop):Prop := Afz e o.dst (.val undef) H [] λe H=>Fh (K n e H (acc++[([],[])]))
def E8 (P:Program) (T:C6) (an:Nat->Ann) (nl:Nat->List (Nat×Nat)) (ops:Array Oper):List Oper->Nat->Bv->Hp->Kc->(Nat->Bv->Hp->Kc->Prop)->Prop
 | [],n,e,H,acc,K=>K n e H acc
 | o::os,n,e,H,acc,K=> match o.guard with
  | none=>opK P T an nl o n e H acc λn e H acc=>E8 P T an nl ops os n e H acc K
  | some p=> match (ops[p.1]?).bind (·.dst) with
   | none=>False
   | some s=> match e s with
    | .val v=>bif Q7 v==some p.2 then opK P T an nl o n e H acc λn e H acc=>E8 P T an nl ops os n e H acc K else Wi o n e H acc λn e H acc=>E8 P T an nl ops os n e H acc K
    | _=>False
section
variable {P:Program} {T:C6} {an:Nat->Ann} {nl:Nat->List (Nat×Nat)} {ops:Array Oper}
theorem Af3 (D:C8 P T):∀(os:List Oper) (i n:Nat) (e:Bv) (H:Hp) (acc:Kc) (K:Nat->Bv->Hp->Kc->Prop),ops.toList.drop i=os->acc.length=i->G1 H n->E8 P T an nl ops os n e H acc K -> ∃b U R d,K b U R d/\d.take i=acc/\d.length=i+os.length/\n<=b/\G1 R b/\Run P ops (λk=>d.getD k ([],[])) (range' i os.length) e H U R
 | [],i,n,e,H,acc,K,hd,g,x,h=>⟨n,e,H,acc,h,by rw[<-g];simp,by simpa using g,Nat.le_refl _,x,.nil e H⟩
 | o::os,i,n,e,H,acc,K,hd,g,x,h=>by
  have G:ops[i]? = some o:=(by have:=congrArg (λl=>l[0]?) hd;simpa using this);have q:ops.toList.drop (i+1)=os:=(by have:=congrArg (drop 1) hd;simpa[drop_drop] using this);have V:Lc ops o e true->(opK P T an nl o n e H acc λn e H acc=>E8 P T an nl ops os n e H acc K) ->
    ∃b U R d,K b U R d/\d.take i=acc/\d.length=i+(o::os).length/\n<=b/\G1 R b/\Run P ops (λk=>d.getD k ([],[])) (range' i (o::os).length) e H U R:=by
   intro hg hs;obtain⟨c,m,h1,h2,h3,N,L⟩:=Ale D x hs;simp only[Wb,Afp,Afq,Af0]at h3;obtain⟨b,U,R,d,A,u,J,I,z,y⟩:=Af3 D os (i+1) m _ _ _ K q (by simp[g]) L h3.1;have B:d[i]? = some (c.rd.map (·.1),c.wr.map (·.1)):=(by have M:(d.take (i+1))[i]? = d[i]?:=He ω;rw[<-M,u,getElem?_append_right ω];simp[g]);have j:d.getD i ([],[])=(c.rd.map (·.1),c.wr.map (·.1)):=(by simp[getD,B]);refine⟨b,U,R,d,A,?_,by simp only[length_cons];omega,ω,z,?_⟩
   .have:=congrArg (take i) u;rw[take_take]at this;simpa[g] using this
   .rw[length_cons,range'_succ];refine .cons o (Wg (Aan nl o.dst) c.r) c.wr ⟨G,.inl ⟨hg,_,h1.nils (Aan nl o.dst),h2,?_,?_,rfl,rfl⟩⟩ y
    .intro p hp;show p.1∈(d.getD i ([],[])).1;rw[j];exact mem_map_of_mem hp
    .intro p hp;show p.1∈(d.getD i ([],[])).2;rw[j];exact mem_map_of_mem hp
  have skip:Lc ops o e false->(Wi o n e H acc λn e H acc=>E8 P T an nl ops os n e H acc K) ->
    ∃b U R d,K b U R d/\d.take i=acc/\d.length=i+(o::os).length/\n<=b/\G1 R b/\Run P ops (λk=>d.getD k ([],[])) (range' i (o::os).length) e H U R:=by
   intro hg hs;unfold Wi at hs;rw[Af0]at hs;obtain⟨b,U,R,d,A,u,J,I,z,y⟩:=Af3 D os (i+1) n _ _ _ K q (by simp[g]) x hs.1;refine⟨b,U,R,d,A,?_,by simp only[length_cons];omega,ω,z,?_⟩
   .have:=congrArg (take i) u;rw[take_take]at this;simpa[g] using this
   .rw[length_cons,range'_succ];exact .cons o (.val undef) [] ⟨G,.inr ⟨hg,rfl,rfl⟩⟩ y
  simp only[E8]at h;cases f:o.guard with
  | none=>rw[f]at h;exact V (by unfold Lc;rw[f]) h
  | some p=>
   rw[f]at h;simp only[]at h;cases hs:(ops[p.1]?).bind (·.dst) with
   | none=>rw[hs]at h;exact h.elim
   | some s=>
    rw[hs]at h;simp only[]at h;split at h
    .rename_i v E;cases X:Q7 v==some p.2 with| true=>rw[X]at h;exact V (by unfold Lc;rw[f];exact⟨s,v,hs,E,X.symm⟩) h| false=>rw[X]at h;exact skip (by unfold Lc;rw[f];exact⟨s,v,hs,E,X.symm⟩) h
    .exact h.elim
variable {o:Oper} {os:List Oper} {n:Nat} {e:Bv} {H:Hp} {acc:Kc} {K:Nat->Bv->Hp->Kc->Prop} {β:Type} {r:β}
variable {s:Nat} {p:Nat×Bool}
theorem nx (k:opK P T an nl o n e H acc λn e H acc=>E8 P T an nl ops os n e H acc K) (hg:o.guard=none:=by exact rfl):Fh (E8 P T an nl ops (o::os) n e H acc K):=.mk (by simp only[E8,hg];exact k)
theorem Ld (k:K n e H acc):Fh (E8 P T an nl ops [] n e H acc K):=.mk k
theorem Awl (p:Nat×Bool) (s:Nat) (k:opK P T an nl o n e H acc λn e H acc=>E8 P T an nl ops os n e H acc K) (hg:o.guard=some p:=by exact rfl) (hs:(ops[p.1]?).bind (·.dst)=some s:=by exact rfl) (hb:e s = .val (.bool p.2):=by exact rfl):Fh (E8 P T an nl ops (o::os) n e H acc K) :=
 .mk (by simp only[E8,hg,hs,hb,Q7,BEq.rfl,cond_true];exact k)
theorem Awm (p:Nat×Bool) (s:Nat) (v:Value) (k:Wi o n e H acc λn e H acc=>E8 P T an nl ops os n e H acc K) (hg:o.guard=some p:=by exact rfl) (hs:(ops[p.1]?).bind (·.dst)=some s:=by exact rfl) (hb:e s = .val v:=by exact rfl) (b:(Q7 v==some p.2)=false:=by exact rfl):Fh (E8 P T an nl ops (o::os) n e H acc K) :=
 .mk (by simp only[E8,hg,hs,hb,b,cond_false];exact k)
theorem Py (k:opK P T an nl o n e H acc λn e H acc=>E8 P T an nl ops os n e H acc K) (hg:o.guard=some p:=by exact rfl) (hs:(ops[p.1]?).bind (·.dst)=some s:=by exact rfl) (hb:e s = .val (.bool p.2):=by exact rfl):Fh (E8 P T an nl ops (o::os) n e H acc K):=Awl p s k hg hs hb
theorem Pz {v:Value} (k:Wi o n e H acc λn e H acc=>E8 P T an nl ops os n e H acc K) (hg:o.guard=some p:=by exact rfl) (hs:(ops[p.1]?).bind (·.dst)=some s:=by exact rfl) (hb:e s = .val v:=by exact rfl) (b:(Q7 v==some p.2)=false:=by exact rfl):Fh (E8 P T an nl ops (o::os) n e H acc K):=Awm p s v k hg hs hb b
theorem Awn {b:Bool} {m c:Option β} {X:List Oper} (h:(bif b then m else c)=some r) (d:b=true->m=some r->Fh (E8 P T an nl ops X n (A4 e s (.val (.bool true))) H acc K)) (u:b=false->c=some r->Fh (E8 P T an nl ops X n (A4 e s (.val (.bool false))) H acc K)) (hb:e s = .val (.bool b):=by exact rfl):Fh (E8 P T an nl ops X n e H acc K):=by cases b with| true=>have:=d rfl h;rwa [Alg hb]at this| false=>have:=u rfl h;rwa [Alg hb]at this
end
theorem St.recell {σ:Ax} {ι:Bx} {H:Hp} {F:Ax} {W w:World} (s:St σ ι H F W w) (h:Nat) (E:TypeId) (cs f:List AV) (j:H h = .cells E cs) (q:f.length=cs.length) (hc:∀(i:Nat) (c k:AV) (v:Value),cs[i]? = some c->f[i]? = some k->Conc σ ι H c v->Conc σ ι H k v) : St σ ι (A4 H h (.cells E f)) F W w/\Le σ ι H σ ι (A4 H h (.cells E f)):=by
 have l:=s.obj h;unfold Cv at l;rw[j]at l;obtain⟨b,C,hb,h1,h2,h3,B,A⟩:=l;have le:Le σ ι H σ ι (A4 H h (.cells E f)):=by have:=Le.upd (ι:=ι) (H:=H) (Ax.le_refl σ) h (ι h) (.cells E f) (by rw[j];exact⟨λ_ e=>e,(λ_ e=>by cases e),(λ_ _ _ _ e=>by cases e)⟩);rwa [Iq]at this
 refine⟨s.touch h b (λ_ _=>rfl) (λx e=>Cy _ _ e) le (λx e=>rfl) (λ_ _=>rfl) (λo e=>by rw[h1]at e;cases e) ?_ h2 ?_ ?_ rfl rfl rfl,le⟩
 .intro x e q u;exact e (s.inj x h b q (by rw[j];rfl) u (by rw[hb];rfl))
 .intro D _ z;exact .inr ⟨by rw[j];rfl,z⟩
 .unfold Cv;rw[Cd];refine⟨b,C,hb,h1,h2,h3,ω,λi k v x y=>?_⟩;have hi:i<cs.length:=(by rw[<-q];exact (F8.1 x).1);have g:cs[i]? = some cs[i]:=getElem?_eq_getElem hi;exact (hc i _ k v g x (A i _ v g y)).mono le
def Aau:AV->Option Nat
 | .loc h _=>some h
 | .vec h _=>some h
 | _=>none
inductive Gh where
 | fz (s:Nat)
 | own (s j:Nat) (e:TypeId) (sz:Nat)
 | nil (s j sz:Nat)
 | fzc (s j:Nat)
 | fzp (s:Nat)
 | fzcp (s j:Nat)
 | fzv (s:Nat)
def gxs:List Gh->Nat->Bv->Hp->(Nat->Bv->Hp->Prop)->Prop
 | [],n,e,H,K=>K n e H
 | .fz s::d,n,e,H,K=> match e s with
  | .arr h k 0 len=> match H h with
   | .rows _ sz xs=>Hm k xs (Hm len xs (gxs d n (A4 e s (.sl sz xs)) (A4 H h .dead) K))
   | _=>False
  | _=>False
 | .fzp s::d,n,e,H,K=> match e s with
  | .arr h k 0 len=> match H h with
   | .rows _ sz xs=>Hm k xs (Akx len k (Aky xs len λys=>gxs d n (A4 e s (.sl sz ys)) (A4 H h .dead) K))
   | _=>False
  | _=>False
 | .own s j E sz::d,n,e,H,K=> match Aau (e s) with
  | some h=> match H h with
   | .cells T cs=> match cs[j]? with
    | some x=>bif Lw x&&Nat.blt 0 sz then gxs d (n+1) e (A4 (A4 H n (.rows E sz [])) h (.cells T (cs.set j (.arr n 0 0 0)))) K else False
    | none=>False
   | _=>False
  | _=>False
 | .nil s j sz::d,n,e,H,K=> match Aau (e s) with
  | some h=> match H h with
   | .cells T cs=> match cs[j]? with
    | some x=>bif Lw x then gxs d n e (A4 H h (.cells T (cs.set j (.sl sz [])))) K else False
    | none=>False
   | _=>False
  | _=>False
 | .fzc s j::d,n,e,H,K=> match Aau (e s) with
  | some h=> match H h with
   | .cells T cs=> match cs[j]? with
    | some (.arr u k 0 len)=> match H u with
     | .rows _ sz xs=>Hm k xs (Hm len xs (gxs d n e (A4 (A4 H u .dead) h (.cells T (cs.set j (.sl sz xs)))) K))
     | _=>False
    | _=>False
   | _=>False
  | _=>False
 | .fzcp s j::d,n,e,H,K=> match Aau (e s) with
  | some h=> match H h with
   | .cells T cs=> match cs[j]? with
    | some (.arr u k 0 len)=> match H u with
     | .rows _ sz xs=>Hm k xs (Akx len k (Aky xs len λys=>gxs d n e (A4 (A4 H u .dead) h (.cells T (cs.set j (.sl sz ys)))) K))
     | _=>False
    | _=>False
   | _=>False
  | _=>False
 | .fzv s::d,n,e,H,K=> match e s with
  | .vec h m=> match H h with
   | .cells _ cs=>bif cs.all AV.cl1&&Nat.beq cs.length m&&Nat.ble m 16 then gxs d n (A4 e s (.sl 1 cs)) (A4 H h .dead) K else False
   | _=>False
  | _=>False
section
variable {F:Ax} {W:World}
variable {σ:Ax} {ι:Bx} {H:Hp} {h j:Nat} {E:TypeId} {w:World}
theorem Alp {cs:List AV} {i:Nat} {y c b:AV} {P:AV->AV->Prop} (u:cs[i]? = some c) (d:(cs.set j y)[i]? = some b) (hs:P c c) (B:i=j->P c y):P c b:=by
 rw[getElem?_set]at d;split at d
 .rename_i e;split at d
  .cases d;exact B e.symm
  .cases d
 .rw[u]at d;cases d;exact hs
theorem St.freezeVec (s:St σ ι H F W w) {cs:List AV} (L:H h = .cells E cs) (k:∀c∈cs,c.cl1=true) : ∃D,Le σ ι H D ι (A4 H h .dead)/\St D ι (A4 H h .dead) F W w/\∀v,cs.length<=140737488355328->Conc σ ι H (.vec h cs.length) v->CC D (.sl 1 cs) v:=by
 have l:=s.obj h;unfold Cv at l;rw[L]at l;obtain⟨b,C,M,p1,Z,Y,X,V⟩:=l;have A:σ.le (A4 σ b (some (.cells C E))):=by intro b' o' d;rw[Cy _ _ (by intro e;subst e;rw[p1]at d;cases d)];exact d
 have g:Le σ ι H (A4 σ b (some (.cells C E))) ι (A4 H h .dead):=by have:=Le.upd (ι:=ι) (H:=H) A h (ι h) .dead ⟨λ_ e=>e,(λ_ e=>by cases e),(λ_ E1 U N e=>by cases e)⟩;rwa [Iq]at this
 refine⟨A4 σ b (some (.cells C E)),g,?_,?_⟩
 .exact s.touch h b (λ_ _=>rfl) (λx e=>Cy _ _ e) g (λ_ _=>rfl) (λx e=>Cy _ _ e) (λo J=>by rw[Cd]at J;cases J;exact Y)
   (λx e q hb=>e (s.inj x h b q (by rw[L];rfl) hb (by rw[M];rfl))) Z (λb' q hb=>by rw[Cd]at q;cases q) (by unfold Cv;rw[Cd];trivial) rfl rfl rfl
 .intro v q hc;obtain⟨b2,B,rfl⟩:=hc.vec_inv;rw[M]at B;cases B;have f:∀c:AV,c.cl1=true->c.cells = [c]:=by
   intro c hc;cases c with
   | val v=>cases v <;> first|rfl|cases hc
   | sl=>rfl
   | _=>cases hc
  have I:∀(i:Nat) (c:AV),cs[i]? = some c->∃u,C[i]? = some u/\CC σ c u/\Ew u=true:=(by intro i c hi;have z:i<C.size:=(by rw[X];exact (F8.1 hi).1);refine⟨C[i],by simp[z],?_⟩;exact (V i c C[i] hi (by simp[z])).cc_of (k c (E7 hi)));have:=CC.sl (σ:=A4 σ b (some (.cells C E))) cs b 0 cs.length 1 C E (0,0) (λn _=>(C[n]?).getD undef) (Cd _ _ _)
   (λi x hx=>by rw[f x (k x (E7 hx))];rfl) (λi x j c hx hj=>by rw[f x (k x (E7 hx))]at hj;obtain⟨rfl,rfl⟩:=Aer hj;obtain⟨u,y,S,_⟩:=I i _ hx;rw[y];exact S.mono A) (λi x j c hx hj=>by rw[f x (k x (E7 hx))]at hj;obtain⟨rfl,rfl⟩:=Aer hj;obtain⟨u,y,_,R⟩:=I i _ hx;rw[y];exact R) (λi j hi hj=>by have G:j=0:=ω;subst G;rw[Nat.zero_add,Nat.mul_one,Nat.add_zero];obtain⟨u,y,_⟩:=I i cs[i] (getElem?_eq_getElem hi);rw[y];rfl) q (Nat.le_refl _);exact this
theorem Oi {n:Nat} {o:Bf} (b:G1 H n) (f:H h≠.none):G1 (A4 H h o) n:=by intro m c;rw[Cy _ _ λe=>f (by rw[<-e];exact b m c)];exact b m c
theorem Alq {d h' k len:Nat} {T:TypeId} {sz:Nat} {cs xs ys:List AV} (s:St σ ι H F W w) (M:H d = .cells T cs) (hj:cs[j]? = some (.arr h' k 0 len)) (g:H h' = .rows E sz xs) (hk:xs.length=k) (X:len<=xs.length) (hy:xs.take len=ys) : ∃c,Le σ ι H c ι (A4 (A4 H h' .dead) d (.cells T (cs.set j (.sl sz ys))))/\St c ι (A4 (A4 H h' .dead) d (.cells T (cs.set j (.sl sz ys)))) F W w:=by
 obtain⟨c,G,D,N⟩:=s.freeze g;have J:d≠h':=by intro B;subst B;rw[M]at g;cases g
 have f:A4 H h' .dead d = .cells T cs:=by rw[Cy _ _ J];exact M
 have h:=s.obj d;unfold Cv at h;rw[M]at h;obtain⟨b,C,B,g1,g2,g3,g4,g5⟩:=h;have l:∀v,C[j]? = some v->Conc c ι (A4 H h' .dead) (.sl sz ys) v:=by intro v Y;have hc:=g5 j _ v hj Y;have:=N 0 len _ ω (hc.arr_inv g hk);rw[drop_zero,hy]at this;exact .cc this
 have V:St c ι (A4 (A4 H h' .dead) d (.cells T (cs.set j (.sl sz ys)))) F W w/\Le c ι (A4 H h' .dead) c ι (A4 (A4 H h' .dead) d (.cells T (cs.set j (.sl sz ys)))):=by
  have I:=D.obj d;unfold Cv at I;rw[f]at I;obtain⟨b',C',A,z,u,q,Z,U⟩:=I;rw[B]at A;cases A;rw[g3]at q;cases q;have le:Le c ι (A4 H h' .dead) c ι (A4 (A4 H h' .dead) d (.cells T (cs.set j (.sl sz ys)))):=(by have:=Le.upd (ι:=ι) (H:=A4 H h' .dead) (Ax.le_refl c) d (ι d) (.cells T (cs.set j (.sl sz ys))) (by rw[f];exact⟨λ_ e=>e,(λ_ e=>by cases e),(λ_ _ _ _ e=>by cases e)⟩);rwa [Iq]at this);refine⟨D.touch d b (λ_ _=>rfl) (λx e=>Cy _ _ e) le (λx e=>rfl) (λ_ _=>rfl) (λo e=>by rw[z]at e;cases e) ?_ u ?_ ?_ rfl rfl rfl,le⟩
  .intro x e X R;exact e (D.inj x d b X (by rw[f];rfl) R (by rw[B];rfl))
  .intro b0 _ S;exact .inr ⟨by rw[f];rfl,S⟩
  .unfold Cv;rw[Cd];refine⟨b,C,B,z,u,g3,by simpa using g4,λi c' v x y=>?_⟩;rw[getElem?_set]at x;split at x
   .rename_i L;split at x
    .cases x;subst L;exact (l v y).mono le
    .cases x
   .exact (U i c' v x y).mono le
 exact⟨c,G.trans V.2,V.1⟩
theorem P1:∀(A:List Gh) {n:Nat} {e:Bv} {H:Hp} {K:Nat->Bv->Hp->Prop} {σ:Ax} {ι:Bx} {a:Act} {w:World},gxs A n e H K->St σ ι H F W w->Fu σ ι H e a->G1 H n -> ∃σ' ι' n' e' H',K n' e' H'/\Le σ ι H σ' ι' H'/\St σ' ι' H' F W w/\Fu σ' ι' H' e' a/\G1 H' n'/\n<=n'
 | [],n,e,H,K,σ,ι,a,w,h,s,y,z=>⟨σ,ι,n,e,H,h,Le.refl _ _ _,s,y,z,Nat.le_refl _⟩
 | .fz t::A,n,e,H,K,σ,ι,a,w,h,s,y,z=>by
  simp only[gxs]at h;split at h
  .rename_i d k len hx;split at h
   .rename_i E sz xs l;obtain⟨hk,hl,h⟩:=h;obtain⟨σ1,f,I,Y⟩:=s.freeze l;have Z:Fu σ1 ι (A4 H d .dead) (A4 e t (.sl sz xs)) a:=by
     intro q hq;by_cases B:q=t
     .subst B;rw[Cd];have hc:=y q hq;rw[hx]at hc;have:=Y 0 len _ ω (hc.arr_inv l hk);rw[drop_zero,take_of_length_le ω]at this;exact .cc this
     .rw[Cy _ _ B];exact (y q hq).mono f
    obtain⟨D,G,J,U,V,S,R,N,M,L,X⟩:=P1 A h I Z (Oi z (by rw[l];intro e;cases e));exact⟨D,G,J,U,V,S,f.trans R,N,M,L,X⟩
   .exact h.elim
  .exact h.elim
 | .fzp t::A,n,e,H,K,σ,ι,a,w,h,s,y,z=>by
  simp only[gxs]at h;split at h
  .rename_i d k len hx;split at h
   .rename_i E sz xs l;obtain⟨hk,hl,ys,hy,h⟩:=h;obtain⟨σ1,f,I,Y⟩:=s.freeze l;have Z:Fu σ1 ι (A4 H d .dead) (A4 e t (.sl sz ys)) a:=by
     intro q hq;by_cases B:q=t
     .subst B;rw[Cd];have hc:=y q hq;rw[hx]at hc;have:=Y 0 len _ ω (hc.arr_inv l hk);rw[drop_zero,hy]at this;exact .cc this
     .rw[Cy _ _ B];exact (y q hq).mono f
    obtain⟨D,G,J,U,V,S,R,N,M,L,X⟩:=P1 A h I Z (Oi z (by rw[l];intro e;cases e));exact⟨D,G,J,U,V,S,f.trans R,N,M,L,X⟩
   .exact h.elim
  .exact h.elim
 | .own t j E sz::A,n,e,H,K,σ,ι,a,w,h,s,y,z=>by
  simp only[gxs]at h;split at h
  .rename_i d hx;split at h
   .rename_i T cs l;split at h
    .rename_i x hj;obtain⟨hb,h⟩:=Ga h;rw[Fc]at hb;have a8:d≠n:=(by intro B;subst B;have:=z d (Nat.le_refl _);rw[l]at this;cases this);obtain⟨s0,a6⟩:=s.newNil n (z n (Nat.le_refl _)) E sz (Hf hb.2);have a7:A4 H n (.rows E sz []) d = .cells T cs:=(by rw[Cy _ _ a8];exact l);obtain⟨I,f⟩:=s0.recell d T cs (cs.set j (.arr n 0 0 0)) a7 ψ (by intro i c c' v h1 h2 h3;refine Alp (P:=λa b=>Conc σ _ _ a v->Conc σ _ _ b v) h1 h2 (λh=>h) (λa1 h=>?_) h3;subst a1;rw[hj]at h1;cases h1;rw[Aam hb.1]at h;rw[h.val_inv];refine .arr _ _ _ _ _ (by rw[Cd];intro e;cases e) (λE' ac ab e'=>?_) rfl;rw[Cd]at e';cases e';exact⟨ψ,λ_=>by rw[Cd];exact⟨rfl,rfl,rfl⟩⟩);have aa:G1 (A4 (A4 H n (.rows E sz [])) d (.cells T (cs.set j (.arr n 0 0 0)))) (n+1):=(by refine Oi ?_ (by rw[a7];intro e;cases e);intro m hm;rw[Cy _ _ ω];exact z m ω);obtain⟨D,G,J,U,V,S,R,N,M,L,X⟩:=P1 A h I (y.mono (a6.trans f)) aa;exact⟨D,G,J,U,V,S,(a6.trans f).trans R,N,M,L,ω⟩
    .exact h.elim
   .exact h.elim
  .exact h.elim
 | .nil t j sz::A,n,e,H,K,σ,ι,a,w,h,s,y,z=>by
  simp only[gxs]at h;split at h
  .rename_i d hx;split at h
   .rename_i T cs l;split at h
    .rename_i x hj;obtain⟨hb,h⟩:=Ga h;obtain⟨I,f⟩:=s.recell d T cs (cs.set j (.sl sz [])) l ψ (by intro i c c' v h1 h2 h3;refine Alp (P:=λa b=>Conc σ _ _ a v->Conc σ _ _ b v) h1 h2 (λh=>h) (λa1 h=>?_) h3;subst a1;rw[hj]at h1;cases h1;exact Aao hb h);obtain⟨D,G,J,U,V,S,R,N,M,L,X⟩:=P1 A h I (y.mono f) (Oi z (by rw[l];intro e;cases e));exact⟨D,G,J,U,V,S,f.trans R,N,M,L,X⟩
    .exact h.elim
   .exact h.elim
  .exact h.elim
 | .fzc t j::A,n,e,H,K,σ,ι,a,w,h,s,y,z=>by
  simp only[gxs]at h;split at h
  .rename_i d hx;split at h
   .rename_i T cs l;split at h
    .rename_i h' k len hj;split at h
     .rename_i E sz xs u;obtain⟨hk,hl,h⟩:=h;obtain⟨σ1,f,I⟩:=Alq s l hj u hk ω (take_of_length_le ω);obtain⟨D,G,J,U,V,S,R,N,M,L,X⟩:=P1 A h I (y.mono f) (Oi (Oi z (by rw[u];intro e;cases e)) (by rw[Cy _ _ (by intro B;subst B;rw[l]at u;cases u)];rw[l];intro e;cases e));exact⟨D,G,J,U,V,S,f.trans R,N,M,L,X⟩
     .exact h.elim
    .exact h.elim
   .exact h.elim
  .exact h.elim
 | .fzcp t j::A,n,e,H,K,σ,ι,a,w,h,s,y,z=>by
  simp only[gxs]at h;split at h
  .rename_i d hx;split at h
   .rename_i T cs l;split at h
    .rename_i h' k len hj;split at h
     .rename_i E sz xs u;obtain⟨hk,hl,ys,hy,h⟩:=h;obtain⟨σ1,f,I⟩:=Alq s l hj u hk ω (hy);obtain⟨D,G,J,U,V,S,R,N,M,L,X⟩:=P1 A h I (y.mono f) (Oi (Oi z (by rw[u];intro e;cases e)) (by rw[Cy _ _ (by intro B;subst B;rw[l]at u;cases u)];rw[l];intro e;cases e));exact⟨D,G,J,U,V,S,f.trans R,N,M,L,X⟩
     .exact h.elim
    .exact h.elim
   .exact h.elim
  .exact h.elim
 | .fzv t::A,n,e,H,K,σ,ι,a,w,h,s,y,z=>by
  simp only[gxs]at h;split at h
  .rename_i d m hx;split at h
   .rename_i E cs l;obtain⟨g,h⟩:=Ga h;simp only[Fc]at g;obtain⟨⟨g1,g2⟩,g3⟩:=g;have g2:=Ft g2;have g3:=F3 g3;obtain⟨σ1,f,I,Y⟩:=s.freezeVec l λc hc=>Ef.1 g1 c hc;have Z:Fu σ1 ι (A4 H d .dead) (A4 e t (.sl 1 cs)) a:=by
     intro q hq;by_cases B:q=t
     .subst B;rw[Cd];have hc:=y q hq;rw[hx,<-g2]at hc;exact .cc (Y _ ω hc)
     .rw[Cy _ _ B];exact (y q hq).mono f
    obtain⟨D,G,J,U,V,S,R,N,M,L,X⟩:=P1 A h I Z (Oi z (by rw[l];intro e;cases e));exact⟨D,G,J,U,V,S,f.trans R,N,M,L,X⟩
   .exact h.elim
  .exact h.elim
end
variable {i:Int} {n:Nat} {E S α:Type} {e:E} {l:List α} {s:S}
def I8 {S E:Type} (step:S->Option (S⊕E)):Nat->S->Option E
 | 0,_=>none
 | n+1,s=> match step s with
  | none=>none
  | some (.inl d)=>I8 step n d
  | some (.inr e)=>some e
theorem Af4 {S E:Type} {step:S->Option (S⊕E)}:∀{n:Nat} {s:S} {e:E},I8 step n s=some e->∀m,n<=m->I8 step m s=some e
 | 0,s,e,h,_,_=>by cases h
 | n+1,s,e,h,0,b=>ω
 | n+1,s,e,h,m+1,b=>by
  simp only[I8]at h ⊢;cases hs:step s with
  | none=>rw[hs]at h;cases h
  | some o=>rw[hs]at h;cases o with| inl d=>exact Af4 (n:=n) h m ω| inr u=>exact h
theorem Alr {step:S->Option (S⊕E)} {m:Nat} {e':E} (h:I8 step n s=some e) (u:I8 step m s=some e'):e=e':=by have B:=Af4 h (max n m) ω;have d:=Af4 u (max n m) ω;rw[B]at d;exact Option.some.inj d
open Classical in
noncomputable def An {S E:Type} (step:S->Option (S⊕E)) (s:S):Option E := match I8 step 4096 s with
 | some e=>some e
 | none=>if h:∃n e,I8 step n s=some e then some (Classical.choose (Classical.choose_spec h)) else none
theorem Af5 {step:S->Option (S⊕E)} (h:An step s=some e):∃n,I8 step n s=some e:=by
 unfold An at h;split at h
 .rename_i u b;cases h;exact⟨_,b⟩
 .split at h
  .rename_i d;cases h;exact⟨_,Classical.choose_spec (Classical.choose_spec d)⟩
  .cases h
theorem Af6 {step:S->Option (S⊕E)} (h:I8 step n s=some e):An step s=some e:=by
 have d:∃n e,I8 step n s=some e:=⟨n,e,h⟩;unfold An;split
 .rename_i u b;exact congrArg some (Alr b h)
 rw[dif_pos d];exact congrArg some (Alr (Classical.choose_spec (Classical.choose_spec d)) h)
theorem Fm {step:S->Option (S⊕E)} (h:step s=some (.inr e)):An step s=some e := Af6 (n:=1) (by simp only[I8,h])
theorem Kd {step:S->Option (S⊕E)} {s':S} (h:step s=some (.inl s')):An step s=An step s':=by
 cases d:An step s' with
 | some e=>obtain⟨n,b⟩:=Af5 d;exact Af6 (n:=n+1) (by simp only[I8,h];exact b)
 | none=>
  cases hs:An step s with
  | none=>rfl
  | some e=>obtain⟨n,b⟩:=Af5 hs;cases n with| zero=>cases b| succ n=>simp only[I8,h]at b;rw[Af6 b]at d;cases d
theorem I9 {step:S->Option (S⊕E)} (c:S->Prop) (m:S->Nat) (b:E->Prop) (f:∀s,c s->(∃d,step s=some (.inl d)/\c d/\m d < m s)\/(∃e,step s=some (.inr e)/\b e)) (s:S) (h0:c s):∃e,An step s=some e/\b e:=by
 generalize D:m s=k;induction k using Nat.strongRecOn generalizing s with
 | _ k ih=>
  rcases f s h0 with⟨d,u,B,I⟩|⟨e,u,B⟩
  .obtain⟨e,h,g⟩:=ih (m d) ω d B rfl;exact⟨e,by rw[Kd u];exact h,g⟩
  .exact⟨e,Fm u,B⟩
def Ah (l:List α) (i:Int):Option α:=if 0<=i then l[i.toNat]? else none
def Ei (l:List α) (lo hi:Int):Option (List α):=if 0<=lo/\lo<=hi/\hi<=l.length then some ((l.take hi.toNat).drop lo.toNat) else none
def B4 (b:Nat) (xs ys:List α):Option (List α):=if (xs.length+ys.length)*b<=140737488355328 then some (xs++ys) else none
def F5 (c:Nat) (len b:Int) (z:α):Option (List α):=if 0<=len/\len<=b/\c*b.toNat<=281474976710656/\b<=140737488355328 then some (replicate len.toNat z) else none
def Ke (l:List α) (off n:Nat) (i:Int):Option α:=if 0<=i/\i<n then l[off+i.toNat]? else none
def Wj (n:Nat) (lo hi:Int):Option (Nat×Nat):=if 0<=lo/\lo<=hi/\hi<=n/\(lo=0\/lo<hi) then some (lo.toNat,hi.toNat) else none
def Fv (n:Nat) (l:List α):Option Unit:=if n=l.length then some () else none
theorem H7 {u:Unit} (h:Fv n l=some u):n=l.length:=by
 unfold Fv at h;split at h
 .assumption
 .cases h
theorem Awo (off:Nat) (h:i=n):((off:Nat):Int)+i=((off+n:Nat):Int):=by omega
def Oj (n:Int):Option ByteArray:=if -9223372036854775808<=n/\n<=9223372036854775807 then some ⟨(Lib.itoa n).toArray⟩ else none
def Aav (a b:Int):Option ByteArray:=bif b==10 then Oj a else none
def Ey (l:List Int):List UInt8:=l.map λn=>UInt8.ofNat n.toNat
def Wk (l:List Int):Option ByteArray:=if (∀x∈l,0<=x/\x<256) then some ⟨(Ey l).toArray⟩ else none
def Mv (s:ByteArray):List Int:=s.data.toList.map λb=>(b.toNat:Int)
def C2 (l:List α) (i:Int) (x:α):List α:=l.set i.toNat x
def G9 (k:IntKind) (a b:Int):Option Int:=if b=0 then none else some (k.wrap (a.tdiv b))
def H8 (a b:Int):Option Int:=if b=0 then none else some (a.tmod b)
def Wl (k:IntKind) (a b:Int):Option Int:=if 0<=b then some (a.fdiv (2 ^ (min b.toNat k.bits))) else none
def Jh (s:ByteArray) (i:Int):Option UInt8:=if 0<=i then s[i.toNat]? else none
def Fw (a b:ByteArray):Option ByteArray:=if a.size+b.size<=9223372036854775807 then some (a++b) else none
def Gk (s:ByteArray) (lo hi:Int):Option ByteArray:=if 0<=lo/\lo<=hi/\hi<=s.size then some (s.extract lo.toNat hi.toNat) else none
abbrev Ac (n:Int):Int:=IntKind.i64.wrap n
abbrev Az (n:Int):Int:=IntKind.u64.wrap n
abbrev Cs (n:Int):Int:=IntKind.u32.wrap n
abbrev wu8 (n:Int):Int:=IntKind.u8.wrap n
theorem Als {x:α} (h:Ah l i=some x):∃n:Nat,i=n/\l[n]? = some x:=by
 unfold Ah at h;split at h
 .exact⟨i.toNat,ω,h⟩
 .cases h
section
variable {β:Type} {r:β}
variable {q:FloatKind} {hi i lo:Int} {ys:List AV} {a b n:Nat} {K:Nat->Prop} {G:Prop} {α:Type} {l:List α} {o:Option α} {x:α} {m:α->Option β}
theorem Db (h:o.bind m=some r) (k:∀x,o=some x->m x=some r->G):G:=by cases o with| none=>cases h| some x=>exact k x rfl h
theorem Alt (h:o.bind m=some r) (k:∀x,o=some x->(∀y,y=x->m y=some r)->G):G:=by cases o with| none=>cases h| some x=>exact k x rfl (λy d=>by subst d;exact h)
theorem Alu {f:α->AV} (c:ys=l.map f) {K:Nat->AV->Prop} (h:(Ah l i).bind m=some r) (k:∀(n:Nat) (x:α),i=n->l[n]? = some x->m x=some r->K n (f x)):Tw ys i K:=by subst c;refine Db h λx u h=>?_;obtain⟨n,b,d⟩:=Als u;exact .mk n (f x) b (by simp[d]) (k n x b d h)
theorem Awp {f:α->AV} (j:ys=l.map f) {len:Nat} (g:len=l.length) (u:b=l.length) (h:(Ah l i).bind m=some r) (k:∀(n:Nat) (x:α),i=n->l[n]? = some x->m x=some r->K n):Q8 len b ys i K:=by subst j;refine Db h λx B h=>?_;obtain⟨n,c,d⟩:=Als B;exact .mk n (by rw[u];simp) c (by rw[g];exact (F8.1 d).1) (k n x c d h)
theorem Awq {f:α->AV} (c:ys=l.map f) {off len:Nat} (u:b=l.length) (h:(Ke l off len i).bind m=some r) (k:∀(n:Nat) (x:α),i=n->l[off+n]? = some x->m x=some r->K n):Q8 len b ys i K:=by
 subst c;refine Db h λx d h=>?_;unfold Ke at d;split at d
 .rename_i B;exact .mk i.toNat (by rw[u];simp) ω ω (k _ x ω d h)
 .cases d
theorem Awr {f:α->AV} (c:ys=l.map f) (u:b=l.length) {m:Nat×Nat->Option β} {K:Nat->Nat->Prop} {g:Prop} (h:(Wj n lo hi).bind m=some r) (k:∀v:Nat×Nat,m v=some r->K v.1 v.2):Akw b ys n lo hi K g:=by
 subst c;refine Db h λx d h=>?_;unfold Wj at d;split at d
 .rename_i B;cases d;exact .mk lo.toNat hi.toNat (by rw[u];simp) ω ω ω ω ω (k _ h)
 .cases d
theorem Alv {op:BinOp} {m:Nat->Option β} (h:(floatBits op q a b).bind m=some r) (k:∀c,m c=some r->K c):Aaf op q a b K := Db h λx d h=>.mk x d (k x h)
theorem Alw {z:IntKind} {m:Int->Option β} {K:Int->Prop} (h:(floatToIntVal q a z).bind m=some r) (k:∀c,m c=some r->K c):Aag q a z K := Db h λx d h=>.mk x d (k x h)
theorem Aws {f:α->AV} (c:ys=l.map f) {i:Nat} {K:AV->Prop} (d:b=l.length) (hi:i=n) (u:l[n]? = some x) (k:K (f x)):Lv b i ys K:=by subst c;subst hi;exact .mk (f x) (by rw[d];simp) (by simp[u]) k
theorem Ok {f:α->AV} (b:ys=l.map f) {i:Nat} {j:Int} {p:AV} {K:List AV->Prop} (hp:p=f x) (hi:i=n) (d:j=(n:Int)) (k:K ((C2 l j x).map f)):V8 ys i p K:=by subst b;subst hi;subst hp;subst d;exact .mk _ (by simp[C2,map_set]) k
theorem Ir {k:Nat} (h:k=l.length) (j:Int) (x:α):k=(C2 l j x).length:=by simp[C2,h]
theorem Af7 {f:α->AV} (c:ys=l.map f) {m:List α->Option β} {K:List AV->Prop} (h:(Ei l lo hi).bind m=some r) (k:∀b:List α,m b=some r->K (b.map f)):Mp ys lo hi K:=by
 subst c;refine Db h λx d h=>?_;unfold Ei at d;split at d
 .rename_i u;cases d;exact .mk lo.toNat hi.toNat _ ω ω ω ζ (by rw[<-map_take,<-map_drop]) (k _ h)
 .cases d
variable {g:AV} {lo:Int} {xs ys:List AV} {K:List AV->Nat->Prop} {b:Nat} {α:Type} {l:List α} {m:List α->Option β}
theorem Alx {f:α->AV} (c:ys=l.map f) {K:List AV->Prop} (h:(Ei l lo l.length).bind m=some r) (k:∀b:List α,m b=some r->K (b.map f)):Mp ys lo ys.length K:=by
 have e:((ys.length:Nat):Int)=(l.length:Int):=by rw[c];simp
 rw[e];exact Af7 c h k
theorem Awt {g:List α->List AV} {f:α->AV} (hg:∀l,g l=l.map f) (c:ys=l.map f) {hi:Int} {K:List AV->Prop} (h:(Ei l lo hi).bind m=some r) (k:∀b:List α,m b=some r->K (g b)):Mp ys lo hi K := Af7 c h λb h=>by rw[<-hg];exact k b h
theorem Awu {g:List α->List AV} {f:α->AV} (hg:∀l,g l=l.map f) (c:ys=l.map f) {K:List AV->Prop} (h:(Ei l lo l.length).bind m=some r) (k:∀b:List α,m b=some r->K (g b)):Mp ys lo ys.length K := Alx c h λb h=>by rw[<-hg];exact k b h
theorem Ri {ys:List α} {f:α->AV} {c:List AV} (q:xs=l.map f) (i:c=ys.map f) {g len:Nat} {s:List AV->Nat->Nat->Prop} (u:g=l.length) (j:len=l.length) (h:(B4 b l ys).bind m=some r) (k:∀o:List α,m o=some r->K (o.map f) o.length):Mq xs c g len b K s:=by
 subst q;subst i;subst u;subst j;refine Db h λx d h=>?_;unfold B4 at d;split at d
 .rename_i B;cases d;exact .mk _ _ ψ rfl (by simpa using B) ψ ψ (k _ h)
 .cases d
theorem Awv {l:List Int} {s:ByteArray} (i:xs=l.map λn=>.val (.int .u8 n)) {c len:Nat} {m:List Int->Option β} {j:List AV->Nat->Nat->Prop} (d:c=l.length) (g:len=l.length) (h:(B4 b l (Mv s)).bind m=some r) (k:∀o:List Int,m o=some r->K (o.map λn=>.val (.int .u8 n)) o.length):Mq xs (Jf s) c len b K j:=by refine Ri (f:=λn=>.val (.int .u8 n)) i ?_ d g h k;simp[Jf,Mv]
theorem Aly {ys:List α} {f:α->AV} {c:List AV} (g:c=ys.map f) (h:(B4 b [] ys).bind m=some r) (k:∀o:List α,m o=some r->K (o.map f) o.length):Q9 c b K:=by
 subst g;refine Db h λx d h=>?_;unfold B4 at d;split at d
 .rename_i u;cases d;exact .mk _ _ (by simpa using u) ψ ψ (k _ h)
 .cases d
theorem Aww {g:List α->List AV} {f:α->AV} (hg:∀l,g l=l.map f) {ys:List α} {c:List AV} (s:xs=l.map f) (j:c=ys.map f) {i len:Nat} {u:List AV->Nat->Nat->Prop} (d:i=l.length) (q:len=l.length) (h:(B4 b l ys).bind m=some r) (k:∀o:List α,m o=some r->K (g o) o.length):Mq xs c i len b K u := Ri s j d q h λo h=>by rw[<-hg];exact k o h
theorem Awx {g:List α->List AV} {f:α->AV} (hg:∀l,g l=l.map f) {ys:List α} {c:List AV} (i:c=ys.map f) (h:(B4 b [] ys).bind m=some r) (k:∀o:List α,m o=some r->K (g o) o.length):Q9 c b K := Aly i h λo h=>by rw[<-hg];exact k o h
theorem Awy {z:α} {f:α->AV} (i:g=f z) {len c:Int} {K:Nat->List AV->Prop} (h:(F5 b len c z).bind m=some r) (k:∀o:List α,m o=some r->K o.length (o.map f)):Tx len c b g K:=by
 subst i;refine Db h λx d h=>?_;unfold F5 at d;split at d
 .rename_i u;cases d;exact .mk _ c.toNat _ ζ ω ζ u.2.2.1 ω ψ (k _ h)
 .cases d
theorem T5 {z:α} {f:α->AV} (i:G0 g.cells (f z).cells) {len c:Int} {K:Nat->List AV->Prop} (h:(F5 b len c z).bind m=some r) (k:∀o:List α,m o=some r->K o.length (o.map f)):Tx len c b g K:=by
 refine Db h λx d h=>?_;unfold F5 at d;split at d
 .rename_i u;cases d;exact .mkN (f z) i _ c.toNat _ ζ ω ζ u.2.2.1 ω ψ (k _ h)
 .cases d
theorem Awz {f:α->AV} (b:ys=l.map f) {K:Int->Prop} (k:K (l.length:Int)):Mr ys K:=by subst b;exact .mk _ ψ k
theorem Aw0 {f:α->AV} (c:ys=l.map f) (d:b=l.length) {K:Prop} (k:K):Hm b ys K:=by subst c;exact .mk (by rw[d];simp) k
variable {s:ByteArray} {a b:Int} {m:Int->Option β} {K:Int->Prop} {k:IntKind} {es:List (AV×AV)} {α:Type} {l:List (ByteArray×α)}
def Ej (l:List (ByteArray×α)) (s:ByteArray):Bool:=l.any λp=>s==p.1
def Hq (l:List (ByteArray×α)) (s:ByteArray) (z:α):α:=((l.find? λp=>s==p.1).map (·.2)).getD z
def Fx {α:Type}:List (ByteArray×α)->ByteArray->α->List (ByteArray×α)
 | [],s,v=>[(s,v)]
 | p::l,s,v=>bif s==p.1 then (s,v)::l else p::Fx l s v
def Bi (f:α->AV) (l:List (ByteArray×α)):List (AV×AV):=l.map λp=>(.val (.string p.1),f p.2)
theorem Af8 {α:Type} (f:α->AV) (s:ByteArray) (z:α):∀(l:List (ByteArray×α)) (i:Nat), (Ej l s=false/\Jg s (Bi f l) i=some none)\/(Ej l s=true/\∃j,Jg s (Bi f l) i=some (some (i+j,f (Hq l s z)))/\∀v,Bi f (Fx l s v)=(Bi f l).set j (.val (.string s),f v))
 | [],i=>.inl ⟨rfl,rfl⟩
 | p::l,i=>by
  cases hp:s==p.1 with
  | true=>
   refine .inr ⟨by simp[Ej,hp],0,?_,λv=>?_⟩
   .simp[Bi,Jg,Hq,hp]
   .simp[Bi,Fx,hp]
  | false=>
   rcases Af8 f s z l (i+1) with⟨d,u⟩|⟨d,j,u,B⟩
   .refine .inl ⟨by simp only[Ej,any_cons,hp,Bool.false_or];exact d,?_⟩;have:Jg s (Bi f (p::l)) i=Jg s (Bi f l) (i+1):=(by simp[Bi,Jg,hp]);rw[this,u]
   .refine .inr ⟨by simp only[Ej,any_cons,hp,Bool.false_or];exact d,j+1,?_,λv=>?_⟩
    .have:Jg s (Bi f (p::l)) i=Jg s (Bi f l) (i+1):=(by simp[Bi,Jg,hp]);have b:Hq (p::l) s z=Hq l s z:=(by simp[Hq,hp]);rw[this,u,b];congr 3;omega
    .have c:Bi f (Fx (p::l) s v)=(.val (.string p.1),f p.2)::Bi f (Fx l s v):=(by simp[Bi,Fx,hp]);rw[c,B v];rfl
theorem Alz {α:Type} (f:α->AV) {s:ByteArray} {v:α}:∀{l:List (ByteArray×α)},Ej l s=false->Bi f (Fx l s v)=Bi f l++[(.val (.string s),f v)]
 | [],_=>rfl
 | p::l,h=>by simp only[Ej,any_cons,Bool.or_eq_false_iff]at h;have:=Alz f (v:=v) (l:=l) h.2;simp only[Fx,h.1,cond_false];simp only[Bi,map_cons,cons_append]at this ⊢;rw[this]
theorem Rj {f:α->AV} (i:es=Bi f l) (z:α) {m b:Option β} {K:Option (Nat×AV)->Prop} (h:(bif Ej l s then m else b)=some r) (g:∀j,Ej l s=true->m=some r->K (some (j,f (Hq l s z)))) (c:Ej l s=false->b=some r->K none):Akz s es K:=by
 subst i;rcases Af8 f s z l 0 with⟨d,u⟩|⟨d,j,u,_⟩
 .rw[d]at h;exact .mk _ u (c d h)
 .rw[d]at h;exact .mk _ u (g _ d h)
theorem P2 {f:α->AV} (c:es=Bi f l) {x:α} {v:AV} (b:v=f x) {K:List (AV×AV)->Prop} (k:K (Bi f (Fx l s x))):Ak0 s v es K:=by
 subst c;subst b;refine .mk _ ?_ k;unfold Z6;rcases Af8 f s x l 0 with⟨u,d⟩|⟨u,j,d,B⟩
 .rw[d,Alz f u]
 .rw[d,B x];simp
theorem Wm (h:(G9 k a b).bind m=some r) (f:∀c:Int,m c=some r->K c):Z9 k a b K:=by
 refine Db h λx d h=>?_;unfold G9 at d;split at d
 .cases d
 .rename_i u;cases d;exact .mk _ u rfl (f _ h)
theorem Aaw (h:(H8 a b).bind m=some r) (f:∀c:Int,m c=some r->K c):Aaa a b K:=by
 refine Db h λx d h=>?_;unfold H8 at d;split at d
 .cases d
 .rename_i u;cases d;exact .mk _ u rfl (f _ h)
theorem Al0 (h:(Wl k a b).bind m=some r) (f:∀c:Int,m c=some r->K c):Aab k a b K:=by
 refine Db h λx d h=>?_;unfold Wl at d;split at d
 .rename_i u;cases d;exact .mk _ u rfl (f _ h)
 .cases d
theorem Wn {i:Int} {m:UInt8->Option β} {K:UInt8->Prop} (h:(Jh s i).bind m=some r) (b:∀c:UInt8,m c=some r->K c):Aad s i K:=by
 refine Db h λx d h=>?_;unfold Jh at d;split at d
 .exact .mk i.toNat x ω d (b _ h)
 .cases d
variable {m:ByteArray->Option β}
theorem Hu {a b:ByteArray} {K:Prop} (h:(Fw a b).bind m=some r) (k:m (a++b)=some r->K):Aae (a.size+b.size) K:=by
 refine Db h λx d h=>?_;unfold Fw at d;split at d
 .rename_i u;cases d;exact .mk u (k h)
 .cases d
theorem Af9 {s:ByteArray} {lo hi:Int} {K:Nat->Nat->Prop} (h:(Gk s lo hi).bind m=some r) (k:∀l u,lo=((l:Nat):Int)->hi=((u:Nat):Int)->m (s.extract l u)=some r->K l u):Aac s.size lo hi K:=by
 refine Db h λx d h=>?_;unfold Gk at d;split at d
 .rename_i B;cases d;exact .mk lo.toNat hi.toNat ω ω ω ω (k _ _ ω ω h)
 .cases d
end
def Aga (U:Nat->Bv->Hp->Prop) (V:Nat->Nat->Bv->Hp->Prop) (X:Nat->Bv->Hp->Prop) (x:Ex) (n:Nat) (e:Bv) (H:Hp):Prop := match x with
 | .normal=>U n e H
 | .exit i=>V i n e H
 | .ret=>X n e H
def wc (P:Program) (C:Cfg) (c:Code) (U:Nat->Bv->Hp->Prop) (V:Nat->Nat->Bv->Hp->Prop) (X:Nat->Bv->Hp->Prop) (n:Nat) (e:Bv) (H:Hp):Prop := C8 P C.T->P.follows .mixedOrders=true->∀(F:Ax) (W:World) (σ:Ax) (ι:Bx) (a:Act) (w:World) (Q:Exit->Act->World->Prop), Lz a.tmps.size c=true->St σ ι H F W w->Fu σ ι H e a->G1 H n -> (∀x h u d f g b w',Aga U V X x h u d->Le σ ι H f g d->St f g d F W w'->Fu f g d u b->G1 d h->n<=h->b.tmps.size=a.tmps.size->b.defers=a.defers->F4 (Hh c) a b->Q x.out b w')->c.wp P Q a w
section
variable {P:Program} {C:Cfg} {U:Nat->Bv->Hp->Prop} {V:Nat->Nat->Bv->Hp->Prop} {X:Nat->Bv->Hp->Prop} {n:Nat} {e:Bv} {H:Hp} {β:Type} {r:β}
variable {a:Act} {σ:Ax} {t:Bool} {ι:Bx} {b c1 c2:Code} {fn:Func} {os:List Oper} {id:Nat} {x:Operand} {S:Type}
theorem Nm (k:U n e H):wc P C .skip U V X n e H:=λ_ _ _ _ σ ι a w _ _ s c b d=>wp_skip (d .normal n e H σ ι a w k (Le.refl _ _ _) s c b (Nat.le_refl _) rfl rfl (F4.refl _ _))
theorem Agb (k:X n e H):wc P C .ret U V X n e H:=λ_ _ _ _ σ ι a w _ _ s c b d=>wp_ret (d .ret n e H σ ι a w k (Le.refl _ _ _) s c b (Nat.le_refl _) rfl rfl (F4.refl _ _))
theorem Hi (k:V id n e H):wc P C (.exit id) U V X n e H:=λ_ _ _ _ σ ι a w _ _ s c b d=>wp_exit (d (.exit id) n e H σ ι a w k (Le.refl _ _ _) s c b (Nat.le_refl _) rfl rfl (F4.refl _ _))
theorem Al1 {ops:Array Oper} {b:Bool} (h:Fh (E8 P C.T C.an C.nl ops ops.toList n e H [] λn e H acc=>bif b then Nl ops.toList acc (U n e H) else U n e H)):wc P C (.region id ops b) U V X n e H:=by
 intro a1 R F W σ ι a w Q E s d M hk;have q:=Le.refl σ ι H;have s0:=s;have z:=d;have N:=M;obtain⟨L,e',H',accs,l,_,a0,x,hf,c⟩:=Af3 a1 ops.toList 0 n e H [] _ ψ rfl M h.1;have u:=Alh E;cases b with
 | false=>simp only[cond_false]at l;refine wp_region ?_;have:range ops.size=range' 0 ops.toList.length:=(by rw[range_eq_range'];simp);rw[this];refine c.wpOps s0 z u ?_;intro B D J w' le s' g f j hu;exact hk .normal L e' H' B D J w' l (q.trans le) s' g hf x f j hu
 | true=>
  simp only[cond_true]at l;obtain⟨G,l⟩:=l;refine wp_region_any R ?_;have A:ops=ops.toList.toArray:=ψ;rw[A];simp only[size_toArray];refine Akv (accs:=accs) (e':=e') (H':=H') G ops.toList.length _ (range' 0 ops.toList.length) e H σ ι a _ (by rw[<-A];exact c) (pairwise_lt_range' ..) ?_ ψ ?_ ψ (s0.drew _) z (by rw[<-A];exact u) ?_
  .intro i;simp only[mem_range'_1,Array.getD_eq_getD_getElem?];constructor
   .rintro⟨_,h2⟩;refine⟨ω,?_⟩;have:i<ops.size:=(by simpa using h2);simp[this]
   .rintro⟨h1,_⟩;omega
  .intro k o S I;exfalso;simp only[Array.getD_eq_getD_getElem?]at I;by_cases y:k<ops.size
   .simp[y]at I
   .simp[y]at I
  .intro B D J w' le s' g f j hu;exact hk .normal L e' H' B D J w' l (q.trans le) s' g hf x f j (by rw[<-A]at hu;exact hu)
theorem Al2 (k:Fh (E8 P C.T C.an C.nl os.toArray os n e H [] λn e H acc=>Nl os acc (U n e H))):wc P C (.region id os.toArray true) U V X n e H:=Al1 k
theorem Gl (k:Fh (E8 P C.T C.an C.nl os.toArray os n e H [] λn e H _=>U n e H)):wc P C (.region id os.toArray false) U V X n e H:=Al1 k
theorem Ee {c:Code} (z:List Gh) (k:gxs z n e H λn e H=>Fh (wc P C c U V X n e H)):wc P C c U V X n e H:=by intro S M F W σ ι a w Q h s R L hk;obtain⟨A,D,a0,a1,Y,J,b,G,l,i,N⟩:=P1 z k s R L;exact J.1 S M F W A D a w Q h G l i λx I e' H' B E d w' hq f s' q j y g u hu=> hk x I e' H' B E d w' hq (b.trans f) s' q j ω g u hu
theorem A9 (k:wc P C c1 (λn e H=>wc P C c2 U V X n e H) V X n e H):wc P C (.seq c1 c2) U V X n e H:=by intro R M F W σ ι a w Q f s he hn hk;simp only[Lz,Fc]at f;refine wp_seq (k R M F W σ ι a w _ f.1 s he hn ?_);intro x L S d y z a1 A hq c B i g q b j hu;cases x with| normal=>refine hq R M F W y z a1 A Q (by rw[b];exact f.2) B i g ?_;intro x n2 e2 H2 a0 a3 a2 Y G D Z J I N l u E;exact hk x n2 e2 H2 a0 a3 a2 Y G (c.trans D) Z J I ω (l.trans b) (u.trans j) ((hu.mono (by simp[Hh];exact λs h=>.inl h)).trans (E.mono (by simp[Hh];exact λs h=>.inr h)))| exit id=>exact hk (.exit id) L S d y z a1 A hq c B i g q b j (hu.mono (by simp[Hh];exact λs h=>.inl h))| ret=>exact hk .ret L S d y z a1 A hq c B i g q b j (hu.mono (by simp[Hh];exact λs h=>.inl h))
theorem Agc {l:Nat} (k:U n e H):wc P C (.label l) U V X n e H:=by intro h g F W σ ι a w Q b s f c d;exact wp_label (d .normal n e H σ ι a w k (Le.refl _ _ _) s f c (Nat.le_refl _) rfl rfl (F4.refl _ _))
theorem Agd {c:Code} (k:wc P C c U V X n e H):wc P C (.scope c) U V X n e H:=by intro G D F W σ ι a w Q g s E B d;refine wp_scope_straight (k G D F W σ ι a w _ g s E B ?_);intro x A I J q u L y M b z j h i f l N;have:=d x A I J q u L y M b z j h i f l N;cases x <;> exact this
theorem Mw {c:Code} (k:wc P C c U (λi n e H=>bif Nat.beq i id then U n e H else V i n e H) X n e H):wc P C (.block id c) U V X n e H:=by
 intro L I F W σ ι a w Q E s J G M;refine wp_block (k L I F W σ ι a w _ E s J G ?_);intro x A B D q u N y d b z j g h f l R;cases x with
 | normal=>exact M .normal A B D q u N y d b z j g h f l R
 | exit i=>
  simp only[Ex.out,Exit.inBlock];by_cases hi:i=id
  .subst hi;rw[if_pos rfl];have:Nat.beq i i=true:=Nat.beq_refl i;simp only[Aga,this,cond_true]at d;exact M .normal A B D q u N y d b z j g h f l R
  .rw[if_neg hi];have:Nat.beq i id=false:=by
    cases hb:Nat.beq i id
    .rfl
    .exact (hi (Ft hb)).elim
   simp only[Aga,this,cond_false]at d;exact M (.exit i) A B D q u N y d b z j g h f l R
 | ret=>exact M .ret A B D q u N y d b z j g h f l R
theorem Al3 (b:Alf a.tmps.size x=true) (c:Fu σ ι H e a) (B:ev e x = .val (.bool t)):a.eval x = .bool t:=by
 have d:=c.eval (x:=x) (λt u=>by cases x with| tmp q=>cases u;exact Hf b| _=>cases u)
 rw[B]at d;exact d.val_inv
theorem Aax (k:wc P C c1 U V X n e H) (d:ev e x = .val (.bool true):=by exact rfl):wc P C (.cond x c1 c2) U V X n e H:=by intro G E F W σ ι a w Q b s q D L;simp only[Lz,Fc]at b;refine wp_cond_true (Al3 b.1.1 q d) (k G E F W σ ι a w Q b.1.2 s q D ?_);intro x B I J u y M z N c A j g i f l R;exact L x B I J u y M z N c A j g i f l (R.mono (by simp[Hh];exact λs h=>.inl h))
theorem Aay (k:wc P C c2 U V X n e H) (d:ev e x = .val (.bool false):=by exact rfl):wc P C (.cond x c1 c2) U V X n e H:=by intro G E F W σ ι a w Q b s q D L;simp only[Lz,Fc]at b;refine wp_cond_false (Al3 b.1.1 q d) (k G E F W σ ι a w Q b.2 s q D ?_);intro x B I J u y M z N c A j g i f l R;exact L x B I J u y M z N c A j g i f l (R.mono (by simp[Hh];exact λs h=>.inr h))
theorem Es {c:Operand} {a:Code} {m f:Option β} (h:(bif t then m else f)=some r) (u:t=true->m=some r->wc P C a U V X n e H) (B:t=false->f=some r->wc P C b U V X n e H) (d:ev e c = .val (.bool t):=by exact rfl):wc P C (.cond c a b) U V X n e H:=by cases t with| true=>exact Aax (u rfl h) d| false=>exact Aay (B rfl h) d
theorem Al4 {X:List Nat} {l:List (Nat×AV)} {h:List (Nat×Bf)} {F z:Ax} {W w Y:World} {I:Bx} {a1:Act} {G:Hp} {e1:Bv} (hb:Ly n l h=true) (hn:G1 H n) (s:St σ ι H F W w) (he:Fu σ ι H e a) (M:Hn e1 l) (R:Ho G (Cq H h) n n) (L:Le σ ι H z I G) (i:St z I G F W Y) (a8:Fu z I G e1 a1) (aa:a1.tmps.size=a.tmps.size) (a7:F4 X a a1) : ∃A,Le σ ι H z A (Cq H h)/\St z A (Cq H h) F W Y/\Fu z A (Cq H h) (Kt X e (λs=>a1.tmps.getD s undef) l) a1/\G1 (Cq H h) n:=by
 have Z:∀x,n<=x->ι x = .none:=by intro x d;have:=s.obj x;unfold Cv at this;rw[hn x d]at this;exact this
 have D:∀p∈h,p.1<n:=by intro p hp;unfold Ly at hb;rw[Fc,Ef,Ef]at hb;exact Hf (hb.2 p hp)
 have N:∀p∈l,p.2.under n=true:=by intro p hp;unfold Ly at hb;rw[Fc,Ef,Ef]at hb;exact hb.1 p hp
 have u:G1 (Cq H h) n:=by intro x d;rw[V5 (λp hp e=>by have:=D p hp;omega)];exact hn x d
 let A:Bx:=λx=>if x<n then I x else .none
 have c:∀x,x<n->A x=I x:=λx d=>if_pos d;have f:∀x,x<n->Cq H h x=G x:=λx d=>((R.spec) x d).1.symm;have J:Le σ ι H z A (Cq H h):=by
  refine⟨L.sto,λx=>?_⟩;by_cases d:x<n
  .rw[c x d,f x d];exact L.obj x
  .rw[Z x ω,hn x ω];exact HLe.of_none
 have s2:St z A (Cq H h) F W Y:=by
  refine⟨i.sto,i.fra,λx=>?_,?_,i.os,i.tape,i.output,i.glo,i.drw⟩
  .by_cases d:x<n
   .have k:=i.obj x;have B:=((R.spec) x d).2;unfold Cv at k ⊢;rw[f x d]at B ⊢;rw[c x d];cases j:G x with
    | none=>rw[j]at k;exact k
    | dead=>trivial
    | cells E cs=>rw[j]at k B;obtain⟨b,Cc,g1,g2,g3,g4,g5,g6⟩:=k;refine⟨b,Cc,g1,g2,g3,g4,g5,λq cq v hq a6=>(g6 q cq v hq a6).restrict c f ?_⟩;have:=Ef.1 B cq (E7 hq);exact Ak3 this
    | rows E sz xs=>rw[j]at k;exact k
    | map es=>rw[j]at k;exact k
   .unfold Cv;rw[u x ω];exact if_neg d
  .intro x y b V U bx S;have d:x<n:=by
    rcases Nat.lt_or_ge x n with d|d
    .exact d
    .rw[u x d]at V;cases V
   have hy:y<n:=by
    rcases Nat.lt_or_ge y n with hy|hy
    .exact hy
    .rw[u y hy]at U;cases U
   rw[f x d]at V;rw[f y hy]at U;rw[c x d]at bx;rw[c y hy]at S;exact i.inj x y b V U bx S
 refine⟨A,J,s2,?_,u⟩;intro q hq;rcases Awh X e (λs=>a1.tmps.getD s undef) l q with⟨p,hp,rfl,g⟩|⟨hw,g⟩|⟨hw,g⟩
 .rw[g,<-M.spec p hp];refine (a8 p.1 hq).restrict c f ?_;rw[M.spec p hp];exact N p hp
 .rw[g];exact .of_val _
 .rw[g,a7 q hw];exact (he q ω).mono J
theorem Al5 {E:Type} {step:S->Option (S⊕E)} {s0:S} {J:E->Option β} (h:(An step s0).bind J=some r) (L:S->List (Nat×AV)) (B:S->List (Nat×Bf)) (j:S->Prop) (hb:∀s,Ly n (L s) (B s)=true) (hs:Hn e (L s0)) (hh:Ho H (Cq H (B s0)) n n) (h0:j s0) (a8:∀(s:S) (u:Nat->Value) (K:Nat->Bv->Hp->Prop) (o:S⊕E),step s=some o->(∀x,.inr x=o->J x=some r)->(∀s' n' e' H',.inl s'=o->Hn e' (L s')->Ho H' (Cq H (B s')) n n->j s'->K n' e' H')->j s -> wc P C b K V X n (Kt (Hh b) e u (L s)) (Cq H (B s))):wc P C (.loop b) U V X n e H:=by
 intro hT hm F W σ ι a w Q aa s he hn hk;refine Db h λx hx h=>?_;obtain⟨N,hN⟩:=Af5 hx;let J':Nat->Act->World->Prop:=λk a' w'=>∃i σ' ι',(I8 step k i=some x/\j i)/\Le σ ι H σ' ι' (Cq H (B i))/\St σ' ι' (Cq H (B i)) F W w' /\
   Fu σ' ι' (Cq H (B i)) (Kt (Hh b) e (λs=>a'.tmps.getD s undef) (L i)) a'/\a'.tmps.size=a.tmps.size/\a'.defers=a.defers/\F4 (Hh b) a a'
 have g:∀(k:Nat) (i:S) (G:Ax) (Y:Bx) (H1:Hp) (e1:Bv) (a1:Act) (w1:World),(I8 step k i=some x/\j i)->Hn e1 (L i)->Ho H1 (Cq H (B i)) n n->Le σ ι H G Y H1->St G Y H1 F W w1->Fu G Y H1 e1 a1->a1.tmps.size=a.tmps.size ->
    a1.defers=a.defers->F4 (Hh b) a a1->J' k a1 w1:=by intro k i G Y H1 e1 a1 w1 hi ab ad q s1 a0 c f l;obtain⟨Z,g1,g2,g3,_⟩:=Al4 (hb i) hn s he ab ad q s1 a0 c l;exact⟨i,G,Z,hi,g1,g2,g3,c,f,l⟩
 refine Awf J' N (g N s0 σ ι H e a w ⟨hN,h0⟩ hs hh (Le.refl _ _ _) s he rfl rfl (F4.refl _ _)) ?_;rintro k a1 w1 ⟨i,G,Y,⟨hi,a7⟩,q,s1,a0,c,f,l⟩;have af:G1 (Cq H (B i)) n:=by intro y hy;have a3:=hb i;unfold Ly at a3;rw[Fc,Ef,Ef]at a3;rw[V5 (λp hp e=>by have:=Hf (a3.2 p hp);omega)];exact hn y hy
 cases k with
 | zero=>cases hi
 | succ k=>
  simp only[I8]at hi;cases ho:step i with
  | none=>rw[ho]at hi;cases hi
  | some o=>
   rw[ho]at hi;refine a8 i (λs=>a1.tmps.getD s undef) (λ_ e' H'=>∃s',(I8 step k s'=some x/\j s')/\Hn e' (L s')/\Ho H' (Cq H (B s')) n n) o ho ?_ ?_ a7 hT hm F W G Y a1 w1 _ (by rw[c];exact aa) s1 a0 af ?_
   .intro y hy;subst hy;simp only[Option.some.injEq]at hi;rw[hi];exact h
   .intro s' n' e' H' R h1 h2 h3;subst R;exact⟨s',⟨hi,h3⟩,h1,h2⟩
   .intro x n2 e2 H2 σ2 Z a2 w2 hq I s2 d a6 D z A M;cases x with| normal=>obtain⟨i',ac,R,ae⟩:=hq;exact⟨k,ω,g k i' σ2 Z H2 e2 a2 w2 ac R ae (q.trans I) s2 d (z.trans c) (A.trans f) (l.trans M)⟩| exit id=>exact hk (.exit id) n2 e2 H2 σ2 Z a2 w2 hq (q.trans I) s2 d a6 D (z.trans c) (A.trans f) (l.trans M)| ret=>exact hk .ret n2 e2 H2 σ2 Z a2 w2 hq (q.trans I) s2 d a6 D (z.trans c) (A.trans f) (l.trans M)
theorem Rk {c:Code} (J:S->Prop) (l:S->List (Nat×AV)) (q:S->List (Nat×Bf)) (hb:∀s,Ly n (l s) (q s)=true) (Y:∀(K:Nat->Bv->Hp->Prop),(∀s a0 e' H',J s->Hn e' (l s)->Ho H' (Cq H (q s)) n n->K a0 e' H')->wc P C c K V X n e H) (a2:∀(s:S) (u:Nat->Value),J s->U n (Kt (Hh c) e u (l s)) (Cq H (q s))):wc P C c U V X n e H:=by intro hT Z F W σ ι a w Q B s M L hk;refine Y (λ_ e' H'=>∃s,J s/\Hn e' (l s)/\Ho H' (Cq H (q s)) n n) (λs _ _ _ h1 h2 h3=>⟨s,h1,h2,h3⟩) hT Z F W σ ι a w _ B s M L ?_;intro x I N R y G a1 z hq f A g j k b h hu;cases x with| normal=>obtain⟨i,hi,D,E⟩:=hq;obtain⟨d,g1,g2,g3,g4⟩:=Al4 (hb i) L s M D E f A g b hu;exact hk .normal n _ _ y d a1 z (a2 i (λs=>a1.tmps.getD s undef) hi) g1 g2 g3 g4 (Nat.le_refl _) b h hu| exit id=>exact hk (.exit id) I N R y G a1 z hq f A g j k b h hu| ret=>exact hk .ret I N R y G a1 z hq f A g j k b h hu
theorem Aw1 (D:C8 P C.T) (J:P.follows .mixedOrders=true) {f:FuncId} {c:Code} {args:List AV} {r:AV} (hf:P.funcs[f]? = some fn) (hb:fn.body=some c) (g:(fn.name == "runtime.NumGoroutine")=false) (b:T3 fn c args.length=true) (h:r.free=true) (I:wc P C c (λ_ e H=>Re C.T fn.results.toList (· = r) e H) (λ_ _ _ _=>False) (λ_ e H=>Re C.T fn.results.toList (· = r) e H) 0 (T2 args) H0):A6 P f args r:=by
 unfold T3 at b;simp only[Fc]at b;obtain⟨⟨u,y⟩,E⟩:=b;have E:=F3 E;refine⟨⟨fn,hf,g,by rw[hb];rfl⟩,λσ F W w vs s hc=>?_⟩;have j:(vs++Array.replicate (fn.ntmps-vs.size) undef).size=fn.ntmps:=by have:=hc.1;simp;omega
 refine calls_of_wp hf hb (I D J F W σ ι0 _ w _ (by rw[j];exact u) s (Aln hc) (λ_ _=>rfl) ?_);intro x U e' H' N R B w' d le s' z _ _ i A _;have k:∀q∈fn.results.toList,Rf q<B.tmps.size:=by intro q X;rw[i];have:=Hf (Ef.1 y q X);rw[j];exact this
 have fin:Re C.T fn.results.toList (· = r) e' H'->B.defers = []/\∃v,(results fn B.tmps).run P w' = .ok v w'/\∃v0 l,Ending.returned v = .returned v0/\σ.le l/\St l ι0 H0 F W w'/\Conc l ι0 H0 r v0:=by intro d;obtain⟨v,G,V,S,h1,h2,h3,M,L⟩:=Awj D s' z k d;subst h2;exact⟨A,v,h1,v,G,rfl,Ax.le_trans le.sto h3.sto,M.forget,L.to0 h⟩
 cases x with| normal=>exact fin d| ret=>exact fin d| exit id=>exact d.elim
theorem Aw2 (fz:Bool) (U:C8 P C.T) (hm:P.follows .mixedOrders=true) {f:FuncId} {c:Code} {args:List AV} {r:AV} {hs b:List Bf} (hf:P.funcs[f]? = some fn) (hb:fn.body=some c) (l:(fn.name == "runtime.NumGoroutine")=false) (j:T3 fn c args.length=true) (g:Af2 hs r b=true) (Z:wc P C c (λ_ e H=>Rh C.T fz fn.results.toList r b e H) (λ_ _ _ _=>False) (λ_ e H=>Rh C.T fz fn.results.toList r b e H) hs.length (T2 args) (hp hs)):Bm P f args hs r b:=by
 unfold T3 at j;unfold Af2 at g;simp only[Fc]at j g;obtain⟨⟨G,J⟩,V⟩:=j;obtain⟨⟨D,I⟩,M⟩:=g;have D:=F3 D;have V:=F3 V;refine⟨⟨fn,hf,l,by rw[hb];rfl⟩,λσ F W w ι vs s hc=>?_⟩;have A:(vs++Array.replicate (fn.ntmps-vs.size) undef).size=fn.ntmps:=by have:=hc.1;simp;omega
 refine calls_of_wp hf hb (Z U hm F W σ ι _ w _ (by rw[A];exact G) s (Aln hc) (λ_ h=>Pt h) ?_);intro x n' e' H' σ' Y S w' d le s' N _ _ z R _;have B:∀q∈fn.results.toList,Rf q<S.tmps.size:=by intro q a0;rw[z];have:=Hf (Ef.1 J q a0);rw[A];exact this
 have fin:Rh C.T fz fn.results.toList r b e' H'->S.defers = []/\∃v,(results fn S.tmps).run P w' = .ok v w'/\∃v0 E ι0,Ending.returned v = .returned v0/\Le σ ι (hp hs) E ι0 (hp b)/\St E ι0 (hp b) F W w'/\Conc E ι0 (hp b) r v0:=by
  intro d;obtain⟨v,X,H2,h1,h2,h3,h4,h5⟩:=Awk U s' N B d;have u:∀i,i<b.length->H2 i=hp b i:=λi hi=>by simpa using h2.spec i hi
  refine⟨R,v,h1,v,X,λk=>if k<b.length then Y k else .none,rfl,?_,h4.first b u M,?_⟩
  .have y:=le.trans h3;refine⟨y.sto,λk=>?_⟩;by_cases hk:k<b.length
   .rw[if_pos hk,<-u k hk];exact y.obj k
   .rw[if_neg hk,Pt ω,Pt ω];have:ι k = .none:=(by have:=s.obj k;unfold Cv at this;rw[Pt ω]at this;exact this);rw[this];exact HLe.refl _ _
  .exact h5.restrict (n:=b.length) (λh L=>if_pos L) (λh L=>(u h L).symm) I
 cases x with| normal=>exact fin d| ret=>exact fin d| exit id=>exact d.elim
end
inductive I7 where
 | c0|c1|c2|c3|c4|c5|c6
def Wo (i:Int):Option I7 := if i=0 then some .c0 else if i=1 then some .c1 else if i=2 then some .c2 else if i=3 then some .c3 else if i=4 then some .c4 else if i=5 then some .c5 else if i=6 then some .c6 else none
theorem Al6 {β:Type} {r:β} {i:Int} {m:I7->Option β} {K:Nat->Prop} (h:(Wo i).bind m=some r) (k0:i=((0:Nat):Int)->m .c0=some r->K 0) (k:i=((1:Nat):Int)->m .c1=some r->K 1) (j:i=((2:Nat):Int)->m .c2=some r->K 2) (g:i=((3:Nat):Int)->m .c3=some r->K 3) (f:i=((4:Nat):Int)->m .c4=some r->K 4) (c:i=((5:Nat):Int)->m .c5=some r->K 5) (b:i=((6:Nat):Int)->m .c6=some r->K 6):Og 7 i K:=by
 unfold Wo at h;split at h
 .rename_i e;exact .mk 0 e δ (k0 e h)
 split at h
 .rename_i e;exact .mk 1 e δ (k e h)
 split at h
 .rename_i e;exact .mk 2 e δ (j e h)
 split at h
 .rename_i e;exact .mk 3 e δ (g e h)
 split at h
 .rename_i e;exact .mk 4 e δ (f e h)
 split at h
 .rename_i e;exact .mk 5 e δ (c e h)
 split at h
 .rename_i e;exact .mk 6 e δ (b e h)
 cases h
variable {a:Act} {P:Program} {w:World}
theorem Al7 {id:Nat}:∀{k b:List Item},exitTo id k=some b->b.length<k.length
 | [],b,h=>by cases h
 | x::k,b,h=>by
  have ih:exitTo id k=some b->b.length<(x::k).length:=λh=>Nat.lt_succ_of_lt (Al7 h);unfold exitTo at h;split at h
  .rename_i c u d;cases d;split at h
   .cases h;simp
   .exact ih h
  .rename_i f u _ d;cases d;exact ih h
  .rename_i d;cases d
theorem Age {m f c:Machine} (h:step P m = .next f) (d:Steps P m c):c=m\/Steps P f c:=by obtain⟨n,b⟩:=d;cases n with| zero=>left;simp only[runN,Stepped.next.injEq]at b;exact b.symm| succ n=>right;simp only[runN,h]at b;exact⟨n,b⟩
theorem Al8 {b:Frame} {f:Act} {k c:List Item} {cs:List Frame} {w':World} (h:lone (b.at a k) cs w=lone (b.at f c) cs w'):k=c:=by simp only[lone,Machine.mk.injEq,Array.mk.injEq,List.cons.injEq,Goroutine.mk.injEq,Frame.at,Frame.mk.injEq]at h;exact h.2.1.1.1.2.2.1
def Aw3:Exit->Bool
 | .normal | .exit _ | .ret=>true
 | _=>false
theorem Aw4 {Q:Exit->Act->World->Prop} {c:Code} (h:c.wp P (Exit.then (λB w'=>(Code.loop c).wp P (λe a w=>Aw3 e=true/\Q e a w) B w') Q) a w):(Code.loop c).wp P Q a w:=by
 intro b k cs;obtain⟨e,d,i,D,f⟩:=h b (.inLoop c::k) cs;have first:Steps P (lone (b.at a (.code (.loop c)::k)) cs w) (lone (b.at a (.code c :: .inLoop c::k)) cs w):=.one step_loop
 cases e with
 | normal=>
  obtain⟨u,L,y,⟨s,q⟩,g⟩:=D b k cs;have j:Steps P (lone (b.at a (.code (.loop c)::k)) cs w) (lone (b.at d (.code c :: .inLoop c::k)) cs i):=first.trans (Steps.trans f (.one step_inLoop));refine⟨u,L,y,q,.of_steps j ?_⟩;cases u with
  | normal=>
   rcases Age step_loop g with e|e
   .have:=congrArg length (Al8 e);simp at this
   .exact e
  | exit id=>
   intro z J;rcases Age step_loop (g z J) with e|e
   .have N:=Al7 J;have M:=congrArg length (Al8 e);simp at M;omega
   .exact e
  | ret=>
   obtain⟨I,hs⟩:=g;rcases Age step_loop hs with e|e
   .simp only[lone,Machine.mk.injEq,Array.mk.injEq,List.cons.injEq,Goroutine.mk.injEq,Frame.at,Frame.mk.injEq]at e;simp at e
   .exact⟨I,e⟩
  | goto l=>cases s
  | panic A=>cases s
  | outgrown=>cases s
 | exit id=>exact⟨_,d,i,D,.of_steps first (.pass (x:=.inLoop c) rfl (λ_ _=>.inl ψ) f)⟩
 | goto l=>exact⟨_,d,i,D,.of_steps first (.pass (x:=.inLoop c) rfl (λ_ _=>.inl ψ) f)⟩
 | ret=>exact⟨_,d,i,D,.of_steps first (.pass (x:=.inLoop c) rfl (λ_ _=>.inl ψ) f)⟩
 | panic A=>exact⟨_,d,i,D,.of_steps first (.pass (x:=.inLoop c) rfl (λ_ _=>.inl ψ) f)⟩
 | outgrown=>exact⟨_,d,i,D,.of_steps (b:=b) (k:=k) (cs:=cs) (e:=.outgrown) first (.pass (x:=.inLoop c) rfl (λ_ _=>.inl ψ) f)⟩
section
variable {P:Program} {C:Cfg} {U:Nat->Bv->Hp->Prop} {V:Nat->Nat->Bv->Hp->Prop} {X:Nat->Bv->Hp->Prop} {n:Nat} {e:Bv} {H:Hp}
theorem Wp {c:Code} (k:wc P C c (λn e H=>wc P C (.loop c) U V X n e H) V X n e H):wc P C (.loop c) U V X n e H:=by intro R M F W σ ι a w Q l s he hn hk;refine Aw4 (k R M F W σ ι a w _ l s he hn ?_);intro x L S d y z a1 A hq f B h g q b i hu;cases x with| normal=>refine hq R M F W y z a1 A _ (by rw[b];exact l) B h g ?_;intro x n2 e2 H2 a0 a3 a2 Y G D Z J I N j u E;exact⟨by cases x <;> rfl,hk x n2 e2 H2 a0 a3 a2 Y G (f.trans D) Z J I ω (j.trans b) (u.trans i) (hu.trans E)⟩| exit id=>exact hk (.exit id) L S d y z a1 A hq f B h g q b i hu| ret=>exact hk .ret L S d y z a1 A hq f B h g q b i hu
def Vw (x:AV) (v:Value):Prop:=∀sz xs,x = .sl sz xs->∃p c,v = .slice p xs.length c/\(p=none->xs = [])
theorem Wq {c:Code} (s:Nat) (k:∀v,Vw (e s) v->wc P C c U V X n (A4 e s (.val v)) H):wc P C c U V X n e H:=by
 intro A z F W σ ι a w Q f x u y D;by_cases hs:s<a.tmps.size
 .have I:=u s hs;refine k (a.tmps.getD s undef) ?_ A z F W σ ι a w Q f x ?_ y D
  .intro sz xs J;rw[J]at I;rcases I.sl_inv.sl_inv with⟨rfl,p,d,e⟩|⟨b,L,d,C,E,M,g,e,_⟩
   .exact⟨p,d,e,λ_=>rfl⟩
   .exact⟨_,d,e,λh=>by cases h⟩
  .intro q B;by_cases h:q=s
   .subst h;rw[Cd];exact .of_val _
   .rw[Cy _ _ h];exact u q B
 .have l:∃v,Vw (e s) v:=(by cases J:e s with| sl sz xs=>exact⟨.slice (some ⟨0,0,none⟩) xs.length 0,λj i h=>by cases h;exact⟨_,_,rfl,λh=>by cases h⟩⟩| _=>exact⟨undef,λj i h=>by cases h⟩);obtain⟨v,l⟩:=l;refine k v l A z F W σ ι a w Q f x ?_ y D;intro q B;rw[Cy _ _ ω];exact u q B
end
theorem St.move {σ:Ax} {ι:Bx} {H:Hp} {F:Ax} {W w:World} (s:St σ ι H F W w) {h n:Nat} {E:TypeId} {sz:Nat} {xs:List AV} (B:G1 H n) (u:H h = .rows E sz xs) : St σ (A4 ι n (ι h)) (A4 (A4 H h .dead) n (.rows E sz xs)) F W w/\Le σ ι H σ (A4 ι n (ι h)) (A4 (A4 H h .dead) n (.rows E sz xs)):=by
 have M:h≠n:=λe=>by rw[e,B n (Nat.le_refl _)]at u;cases u
 have A:ι n = .none:=by have:=s.obj n;unfold Cv at this;rw[B n (Nat.le_refl _)]at this;exact this
 have le:Le σ ι H σ (A4 ι n (ι h)) (A4 (A4 H h .dead) n (.rows E sz xs)):=by
  refine⟨Ax.le_refl σ,λx=>?_⟩;by_cases e:x=n
  .subst e;rw[A,B x (Nat.le_refl _)];exact HLe.of_none
  .rw[Cy _ _ e,Cy _ _ e];by_cases g:x=h
   .subst g;rw[Cd,u];exact⟨λ_ q=>q,λ_ q=>(by cases q),λ_ _ _ _ q=>(by cases q)⟩
   .rw[Cy _ _ g];exact HLe.refl _ _
 refine⟨⟨s.sto,s.fra,λx=>?_,λx y b k L l D=>?_,s.os,s.tape,s.output,s.glo,s.drw⟩,le⟩
 .by_cases e:x=n
  .subst e;have f:=s.obj h;unfold Cv at f ⊢;rw[u]at f;rw[Cd,Cd];exact f
  .by_cases g:x=h
   .subst g;unfold Cv;rw[Cy _ _ e,Cd];trivial
   .have f:=s.obj x;unfold Cv at f ⊢;rw[Cy _ _ e,Cy _ _ g,Cy _ _ e];cases hx:H x with| cells T cs=>rw[hx]at f;obtain⟨b,C,d,R,U,V,X,g6⟩:=f;exact⟨b,C,d,R,U,V,X,λi c v q J=>(g6 i c v q J).mono le⟩| none=>rw[hx]at f;exact f| dead=>trivial| rows T z ys=>rw[hx]at f;exact f| map es=>rw[hx]at f;exact f
 .have j:∀x b,((A4 (A4 H h .dead) n (.rows E sz xs)) x).live=true->((A4 ι n (ι h)) x).block? = some b->∃y,(H y).live=true/\(ι y).block? = some b/\((x=n/\y=h)\/(x≠n/\x≠h/\y=x)):=by
   intro x b k l;by_cases e:x=n
   .subst e;rw[Cd]at l;exact⟨h,by rw[u];rfl,l,.inl ⟨rfl,rfl⟩⟩
   .rw[Cy _ _ e]at k l;by_cases g:x=h
    .subst g;rw[Cd]at k;cases k
    .rw[Cy _ _ g]at k;exact⟨x,k,l,.inr ⟨e,g,rfl⟩⟩
  obtain⟨I,a1,a2,a3⟩:=j x b k l;obtain⟨G,b1,b2,N⟩:=j y b L D;have:=s.inj I G b a1 b1 a2 b2;rcases a3 with⟨rfl,rfl⟩|⟨c1,c2,rfl⟩ <;> rcases N with⟨d0,d1⟩|⟨d1,d2,d3⟩ <;> omega
section
variable {P:Program} {C:Cfg} {U:Nat->Bv->Hp->Prop} {V:Nat->Nat->Bv->Hp->Prop} {X:Nat->Bv->Hp->Prop} {n:Nat} {e:Bv} {H:Hp} {β:Type} {r:β}
end
variable {α β:Type} {l r:List α} {k:List α->Option β} {cmp:α->α->Option Int}
structure Mx {α:Type} (cf:α->α->Int):Prop where
 irr:∀x,¬cf x x<0
 trs:∀x y z,cf x y<0->cf y z<0->cf x z<0
 ntr:∀x y z,¬cf x y<0->¬cf y z<0->¬cf x z<0
def Ol (cmp:α->α->Option Int) (l r:List α):Prop := ∃cf:α->α->Int,Mx cf/\(∀x∈l,∀y∈l,cmp x y=some (cf x y))/\r.Perm l/\r.Pairwise (λx y=>cf x y<0)
open Classical in
noncomputable def Nn {α:Type} (cmp:α->α->Option Int) (l:List α):Option (List α) := if h:∃r,Ol cmp l r then some (Classical.choose h) else none
theorem T6 (h:Nn cmp l=some r):Ol cmp l r:=by
 unfold Nn at h;split at h
 .rename_i k;cases h;exact Classical.choose_spec k
 .cases h
theorem Al9 (h:Ol cmp l r):∃b,Nn cmp l=some b/\Ol cmp l b:=by unfold Nn;rw[dif_pos ⟨r,h⟩];exact⟨_,rfl,Classical.choose_spec (⟨r,h⟩:∃r,Ol cmp l r)⟩
def L0 (n:Nat) (a:List α):Option (List α×List α):=(B4 n [] a).bind λo=>some ([],o)
def L2 (n:Int):Option (List α):=bif decide (0<=n)&&decide (n<=1000000) then some [] else none
def Is (cmp:α->α->Option Int) (l r:List α):Prop := ∃cf:α->α->Int,Mx cf/\(∀x∈l,∀y∈l,cmp x y=some (cf x y))/\r.Perm l/\r.Pairwise (λx y=>¬cf y x<0)
open Classical in
noncomputable def Wr {α β:Type} (cmp:α->α->Option Int) (l:List α) (k:List α->Option β):Option β := if h:∃r,(∃o,Is cmp l o)/\∀o,Is cmp l o->k o=some r then some (Classical.choose h) else none
theorem Aw5 {r:β} (h:Wr cmp l k=some r):(∃o,Is cmp l o)/\∀o,Is cmp l o->k o=some r:=by
 unfold Wr at h;split at h
 .rename_i q;cases h;exact Classical.choose_spec q
 .cases h
theorem Aw6 {o:List α} {r:β} (hs:Is cmp l o) (h:∀o,Is cmp l o->k o=some r):Wr cmp l k=some r:=by have q:∃r,(∃o,Is cmp l o)/\∀o,Is cmp l o->k o=some r:=⟨r,⟨o,hs⟩,h⟩;unfold Wr;rw[dif_pos q];have:=(Classical.choose_spec q).2 o hs;rw[h o hs]at this;exact this.symm
structure Rl (α:Type) where
 f:List α->Option (List α)
 cmp:α->α->Option Int
 l:List α
noncomputable def Rl.bind (s:Rl α) (k:List α->Option β):Option β:=bif Nat.ble s.l.length 12 then (s.f s.l).bind k else Wr s.cmp s.l k
inductive Agf (P:Program) (b:Oper) (n:Nat) (e:Bv) (H:Hp) (K:Bv->Hp->Prop):Prop where
 | mk (c:Call) (x:Operand) (f:FuncId) (caps:List AV) (l:List Nat) (largs:List AV) (hs:List Bf) (R:AV->List Bf->Prop) (r0:AV) (hs0:List Bf) (hp:Mn P f largs hs R) (ho:b.op = .call c) (hcal:c.callee = .value x) (hx:ev e x = .fn f caps)
   (ha:largs.map (ren (C1 n l))=c.args.toList.map (ev e)++caps) (h0:R r0 hs0) (ok:∀r hs',R r hs'->Jx n l largs hs r hs'=true/\hs'.length=hs.length) (hh:Mo H (Ed (C1 n l) 0 hs))
   (k:∀r hs',R r hs'->K (put e b.dst (ren (C1 n l) r)) (Cq H (Ed (C1 n l) 0 hs')))
section
variable {P:Program} {C:Cfg} {U:Nat->Bv->Hp->Prop} {V:Nat->Nat->Bv->Hp->Prop} {X:Nat->Bv->Hp->Prop} {n:Nat} {e:Bv} {H:Hp}
theorem Aw7 {id:Nat} {a b:Oper} (k:opK P C.T C.an C.nl a n e H [] λn e H _=>Agf P b n e H (U n)) (ga:a.guard=none:=by exact rfl) (gb:b.guard=none:=by exact rfl):wc P C (.region id #[a,b] false) U V X n e H:=by
 intro hT hm F W σ ι act w Q E s B hn hk;obtain⟨a6,m,h1,h2,h3,h4,h5⟩:=Ale hT hn k;simp only[Wb,Afp,Afq,Af0]at h3;obtain⟨⟨c,x,f,M,l,D,hs,R,r0,a1,hp,ho,A,hx,ha,h0,ok,hh,kk⟩⟩:=h3;have G:=Alh E;have J:∀{i:Nat} {o:Oper} (_:#[a,b][i]? = some o) {e:Bv} {σ:Ax} {ι:Bx} {H:Hp} {v:Act} (_:Fu σ ι H e v) (_:v.tmps.size=act.tmps.size),∀x∈o.op.operands.toList,Conc σ ι H (ev e x) (v.eval x):=by intro i o hi e σ ι H v B hv x hx;refine B.eval λt ht=>?_;rw[hv];refine G i o hi t ?_;simp only[Kr,mem_append,mem_filterMap];exact .inl ⟨x,hx,ht⟩
 have g:∀(v:Act) (d:Option Nat) (u:Value),(v.put d u).defers=v.defers:=by intro v d u;cases d <;> rfl
 have a2:∀v:Act,Region.wanted a (yielded #[a,b] v.tmps)=true:=λv=>by unfold Region.wanted;rw[ga]
 have a0:∀v:Act,Region.wanted b (yielded #[a,b] v.tmps)=true:=λv=>by unfold Region.wanted;rw[gb]
 refine wp_region ?_;show wpOps P #[a,b] Q [0,1] act w;rw[wpOps_cons];unfold wpOp;show (if Region.wanted a _=true then (a.wp P act w _ Q\/_) else _);rw[if_pos (a2 act)];refine .inl ((h1.nils (Aan C.nl a.dst)) σ ι H F W w act _ Q s (J (i:=0) rfl B rfl) h2 ?_);intro σ1 ι1 Z Y y s1 c1;have z:=(B.mono y).put (d:=a.dst) c1;rw[wpOps_cons];unfold wpOp;show (if Region.wanted b _=true then (b.wp P _ Y _ Q\/_) else _);rw[if_pos (a0 _)];have h:=(ok _ _ h0).1;simp only[Jx,Fc]at h;have o1:=h.1.1.1.1.1.1;have o2:=Ft h.1.1.1.1.1.2;refine .inl (Alb (m:=hs.length) ho A hx hp ha h0 ok s1 (J (i:=1) rfl z (V4 _ _ _)) (λp hp=>?_) ?_)
 .rw[o2,Nat.sub_self]at hp;rcases mem_append.1 hp with hp|hp
  .exact hh.spec p hp
  .cases hp
 intro r I L N S v2 a3 j s2 c2;refine hk .normal m _ _ N S _ a3 (kk r I L) (y.trans j) s2 ((z.mono j).put c2) (λq hq=>?_) h4 (by rw[V4,V4]) (by rw[g,g]) ((F4.step (ops:=#[a,b]) (i:=0) (o:=a) rfl act Z).trans (F4.step (ops:=#[a,b]) (i:=1) (o:=b) rfl _ v2));rw[Wd λi hi e=>?_]
 .exact h5 q hq
 .have:=(ok _ _ L).2;have:=Aft (n:=m) (k:=0+i) o1 ω;omega
end
end Go.Ab
