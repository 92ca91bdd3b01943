/- Abstract values. -/
import Derived.Test.YtnjbofimdneilaaGreatDoorWkAb
open List
namespace Go.Ab
def H0:Hp:=λ_=>.none
def ι0:Cl:=λ_=>.none
def Aa1(P:Program)(f:FuncId):Prop:=∃fn,P.funcs[f]?=some fn/\(fn.name == "runtime.NumGoroutine")=false/\fn.body.isNone=false
def Ma(σ:Bd)(ι:Cl)(H:Hp)(args:Λ AV)(vs:Array Value):Prop:=vs.size=args.length/\∀(i:Nat)(a:AV)(v:Value),args[i]?=some a->vs[i]?=some v->Conc σ ι H a v
def Ay(P:Program)(f:FuncId)(args:Λ AV)(r:AV):Prop:=Aa1 P f/\∀(σ F:Bd)(W w:World)(d:Array Value),St σ ι0 H0 F W w->Ma σ ι0 H0 args d->Calls P f d w λe w'=>∃v b,e=.returned v/\σ.le b/\St b ι0 H0 F W w'/\Conc b ι0 H0 r v
def AV.under0(n:Nat):AV->Bool
 |.loc h _|.mp h|.vec h _=>Nat.blt h n
 |.arr h _ _ _|.el h _ _ _=>Nat.blt h n
 |.val _|.sl _ _|.ref _|.fb _=>true
 |_=>false
def AV.under1(n:Nat):AV->Bool
 |.loc h _|.mp h|.vec h _=>Nat.blt h n
 |.arr h _ _ _|.el h _ _ _=>Nat.blt h n
 |.val _|.sl _ _|.ref _|.fb _=>true
 |.fn _ cs=>cs.all (AV.under0 n)
 |_=>false
def AV.under2(n:Nat):AV->Bool
 |.agg cs=>cs.all (AV.under1 n)
 |x=>x.under1 n
def AV.under(n:Nat):AV->Bool
 |.agg cs|.fn _ cs=>cs.all (AV.under1 n)
 |.tup cs=>cs.all (AV.under2 n)
 |x=>x.under1 n
def Bt.under(n:Nat):Bt->Bool
 |.cells _ cs=>cs.all (AV.under1 n)
 |.map _=>true
 |.rows _ _ _=>true
 |.none=>true
 |.dead=>true
def Ak1(es:Nat->Nat):AV->AV
 |.loc h off=>.loc (es h) off
 |.mp h=>.mp (es h)
 |.vec h k=>.vec (es h) k
 |.arr h k off len=>.arr (es h) k off len
 |.el h k i j=>.el (es h) k i j
 |x=>x
def P4(es:Nat->Nat):AV->AV
 |.loc h off=>.loc (es h) off
 |.mp h=>.mp (es h)
 |.vec h k=>.vec (es h) k
 |.arr h k off len=>.arr (es h) k off len
 |.el h k i j=>.el (es h) k i j
 |.fn f cs=>.fn f (cs.map (Ak1 es))
 |x=>x
variable{r:AV}{g:Λ Bt}{P:Program}
def Ak2(es:Nat->Nat):AV->AV
 |.agg cs=>.agg (cs.map (P4 es))
 |x=>P4 es x
def ren(es:Nat->Nat):AV->AV
 |.agg cs=>.agg (cs.map (P4 es))
 |.tup cs=>.tup (cs.map (Ak2 es))
 |.fn f cs=>.fn f (cs.map (P4 es))
 |x=>P4 es x
def Ke(es:Nat->Nat):Bt->Bt
 |.cells E cs=>.cells E (cs.map (P4 es))
 |o=>o
def hp(b:Λ Bt):Hp:=λk=>b.getD k .none
def B9(P:Program)(f:FuncId)(args:Λ AV)(h:Λ Bt)(r:AV)(b:Λ Bt):Prop:=Aa1 P f/\∀(σ F:Bd)(W w:World)(ι:Cl)(d:Array Value),St σ ι (hp h) F W w->Ma σ ι (hp h) args d->Calls P f d w λe w'=>∃v c g,e=.returned v/\Le σ ι (hp h) c g (hp b)/\St c g (hp b) F W w'/\Conc c g (hp b) r v
def Ut(P:Program)(f:FuncId)(args:Λ AV)(h:Λ Bt)(R:AV->Λ Bt->Prop):Prop:=Aa1 P f/\∀(σ F:Bd)(W w:World)(ι:Cl)(d:Array Value),St σ ι (hp h) F W w->Ma σ ι (hp h) args d->Calls P f d w λe w'=>∃r b v c g,R r b/\e=.returned v/\Le σ ι (hp h) c g (hp b)/\St c g (hp b) F W w'/\Conc c g (hp b) r v
theorem B9.toR{f:FuncId}{args:Λ AV}{c:Λ Bt}(h:B9 P f args g r c):Ut P f args g λa b=>a=r/\b=c:=⟨h.1,λσ F W w ι vs s hc=>(h.2 σ F W w ι vs s hc).mono λ_ _ ⟨v,i,j,a⟩=>⟨r,c,v,i,j,⟨rfl,rfl⟩,a⟩⟩
theorem Ut.one{f:FuncId}{args:Λ AV}{R:AV->Λ Bt->Prop}{c:Λ Bt}(h:Ut P f args g R)(h1:∀a b,R a b->a=r/\b=c):B9 P f args g r c:=⟨h.1,λσ F W w ι vs s hc=>(h.2 σ F W w ι vs s hc).mono λ_ _ ⟨a,b,v,i,j,k,q⟩=>⟨v,i,j,by obtain⟨rfl,rfl⟩:=h1 a b k;exact q⟩⟩
def Ds(n:Nat):Λ Nat->Nat->Nat
 |[],k=>n+k
 |h::_,0=>h
 |_::l,k+1=>Ds n l k
def Q3(n:Nat):Λ Nat->Bool
 |[]=>true
 |h::l=>Nat.blt h n && !(l.elem h)&&Q3 n l
def Fi(es:Nat->Nat):Nat->Λ Bt->Λ (Nat×Bt)
 |_,[]=>[]
 |k,o::os=>(es k,Ke es o)::Fi es (k+1) os
def Cu(es:Nat->Nat):Nat->Nat->Λ (Nat×Bt)
 |_,0=>[]
 |k,c+1=>(es k,.none)::Cu es (k+1) c
def P5(H:Hp):Λ (Nat×Bt)->Prop
 |[]=>True
 |p::l=>H p.1=p.2/\P5 H l
def M6(n:Nat)(l:Λ Nat)(c:Λ AV)(f:Λ Bt)(r:AV)(b:Λ Bt):Bool:=Q3 n l&&Nat.beq f.length l.length&&Nat.ble l.length b.length&&c.all (AV.under l.length)&&f.all (Bt.under l.length)&&r.under b.length&&b.all (Bt.under b.length)
inductive Xr(xs:List AV)(i:Int)(K:Nat->AV->Prop):Prop where
 |mk(n:Nat)(x:AV)(hi:i=n)(hx:xs[n]?=some x)(k:K n x)
inductive Uu(len:Nat)(kk:Nat)(xs:List AV)(i:Int)(K:Nat->Prop):Prop where
 |mk(n:Nat)(hk:xs.length=kk)(hi:i=n)(hn:n<len)(k:K n)
inductive A3n(len:Nat)(i:Int)(K:Nat->Prop):Prop where
 |mk(n:Nat)(hi:i=n)(hn:n<len)(k:K n)
inductive Jm(k:IntKind)(n:Int)(K:Int->Prop):Prop where
 |mk(c:Int)(h:k.wrap n=c)(k:K c)
inductive Afk(k:IntKind)(m n:Int)(K:Int->Prop):Prop where
 |mk(c:Int)(hn:n≠0)(h:k.wrap (m.tdiv n)=c)(k:K c)
inductive Afl(m n:Int)(K:Int->Prop):Prop where
 |mk(c:Int)(hn:n≠0)(h:m.tmod n=c)(k:K c)
inductive Afm(k:IntKind)(m n:Int)(K:Int->Prop):Prop where
 |mk(c:Int)(hn:0<=n)(h:m.fdiv (2^(min n.toNat k.bits))=c)(k:K c)
inductive A3o(k:IntKind)(m n:Int)(K:Int->Prop):Prop where
 |mk(c:Int)(hn:0<=n)(h:k.wrap (m*2^(min n.toNat k.bits))=c)(k:K c)
inductive Afn(n:Nat)(lo hi:Int)(K:Nat->Nat->Prop):Prop where
 |mk(l h:Nat)(el:lo=l)(eh:hi=h)(h1:l<=h)(h2:h<=n)(k:K l h)
inductive O1(xs:List AV)(lo hi:Int)(K:List AV->Prop):Prop where
 |mk(l h:Nat)(ys:List AV)(el:lo=l)(eh:hi=h)(h1:l<=h)(h2:h<=xs.length)(hy:(xs.take h).drop l=ys)(k:K ys)
inductive Afo(kk:Nat)(xs:List AV)(n:Nat)(lo hi:Int)(K:Nat->Nat->Prop)(KE:Prop):Prop where
 |mk(l h:Nat)(hk:xs.length=kk)(el:lo=l)(eh:hi=h)(h1:l<=h)(h2:h<=n)(h3:l=0\/l<h)(k:K l h)
 |mkE(l:Nat)(hk:xs.length=kk)(el:lo=l)(eh:hi=l)(h2:l<=n)(k:KE)
inductive Afp(s:ByteArray)(i:Int)(K:UInt8->Prop):Prop where
 |mk(n:Nat)(c:UInt8)(hi:i=n)(hc:s[n]?=some c)(k:K c)
inductive Afq(n:Nat)(K:Prop):Prop where
 |mk(h:n<=9223372036854775807)(k:K)
inductive Xs(len cap:Int)(bytes:Nat)(z:AV)(K:Nat->List AV->Prop):Prop where
 |mk(l c:Nat)(zs:List AV)(el:len=l)(ec:cap=c)(h1:l<=c)(h2:bytes*c<=281474976710656)(h3:c<=140737488355328)(hz:replicate l z=zs)(k:K l zs)
 |mkN(z':AV)(hn:Hh z.cells z'.cells)(l c:Nat)(zs:List AV)(el:len=l)(ec:cap=c)(h1:l<=c)(h2:bytes*c<=281474976710656)(h3:c<=140737488355328)(hz:replicate l z'=zs)(k:K l zs)
inductive Nz(xs ys:List AV)(kk len bytes:Nat)(K:List AV->Nat->Prop)(KP:List AV->Nat->Nat->Prop):Prop where
 |mkP(zs:List AV)(k' m:Nat)(hk:xs.length=kk)(hl:len<=kk)(hb:(xs.length+ys.length)*bytes<=140737488355328)(hz:D9 xs len ys=zs)(hk':zs.length=k')(hm:len+ys.length=m)(k:KP zs k' m)
 |mk(zs:List AV)(m:Nat)(hk:xs.length=kk)(hl:len=kk)(hb:(xs.length+ys.length)*bytes<=140737488355328)(hz:xs++ys=zs)(hm:kk+ys.length=m)(k:K zs m)
inductive A3p(ys:List AV)(K:Prop):Prop where
 |mk(hy:ys=[])(k:K)
inductive Uv(ys:List AV)(bytes:Nat)(K:List AV->Nat->Prop):Prop where
 |mk(zs:List AV)(m:Nat)(hb:ys.length*bytes<=140737488355328)(hz:ys=zs)(hm:ys.length=m)(k:K zs m)
inductive Arb(xs:List AV)(kk len k2 off2 len2 bytes:Nat)(K:List AV->Nat->Nat->Prop):Prop where
 |mk(zs:List AV)(k' m:Nat)(hk:xs.length=kk)(hl:len<=kk)(hk2:xs.length=k2)(hl2:off2+len2<=kk)(hb:(xs.length+len2)*bytes<=140737488355328)(hz:D9 xs len ((xs.drop off2).take len2)=zs)(hk':zs.length=k')(hm:len+len2=m)(k:K zs k' m)
inductive Arc(xs:List AV)(kk off len k2 off2 len2:Nat)(K:List AV->Nat->Prop):Prop where
 |mk(zs:List AV)(c:Nat)(hk:xs.length=kk)(hl:off+len<=kk)(hk2:xs.length=k2)(hl2:off2+len2<=kk)(hz:D9 xs off ((xs.drop off2).take (min len2 len))=zs)(hc:min len2 len=c)(k:K zs c)
inductive Ard(xs:List AV)(kk off len:Nat)(z:AV)(K:List AV->Prop):Prop where
 |mk(zs:List AV)(hk:xs.length=kk)(hl:off+len<=kk)(hz:D9 xs off (replicate len z)=zs)(k:K zs)
inductive Ak3(a b:Nat)(K:Prop):Prop where
 |mk(h:a<=b)(k:K)
inductive Ak4(xs:List AV)(n:Nat)(K:List AV->Prop):Prop where
 |mk(ys:List AV)(hy:xs.take n=ys)(k:K ys)
inductive Aa2(xs:List AV)(q:Nat)(p:AV)(K:List AV->Prop):Prop where
 |mk(zs:List AV)(hz:xs.set q p=zs)(k:K zs)
inductive O2(xs:List AV)(K:Int->Prop):Prop where
 |mk(c:Int)(hc:(xs.length:Int)=c)(k:K c)
inductive N0(kk i:Nat)(xs:List AV)(K:AV->Prop):Prop where
 |mk(x:AV)(hk:xs.length=kk)(hx:xs[i]?=some x)(k:K x)
inductive Ic(kk:Nat)(xs:List AV)(K:Prop):Prop where
 |mk(hk:xs.length=kk)(k:K)
def Ext(P:Program)(f:FuncId)(args:Λ AV)(r:AV):Prop:=∀(σ F:Bd)(W w:World)(d:Array Value),St σ ι0 H0 F W w->Ma σ ι0 H0 args d->∃v,(callFunc f d).run P w=.ok (.value v) w/\Conc σ ι0 H0 r v
inductive G8(P:Program)(n:Nat)(H:Hp)(f:FuncId)(args:List AV)(K:Eff->Nat->Prop):Prop where
 |mk(r:AV)(h:Ay P f args r)(hf:args.all AV.free=true)(k:K ⟨r,[],[]⟩ n)
 |ext(r:AV)(h:Ext P f args r)(hf:args.all AV.free=true)(k:K ⟨r,[],[]⟩ n)
 |act(l:List Nat)(largs:List AV)(hs:List Bt)(r:AV)(hs':List Bt)(h:B9 P f largs hs r hs')(ha:largs.map (ren (Ds n l))=args)(ok:M6 n l largs hs r hs'=true)(hh:P5 H (Fi (Ds n l) 0 hs))
   (k:K ⟨ren (Ds n l) r,Fi (Ds n l) 0 hs++Cu (Ds n l) l.length (hs'.length-l.length),Fi (Ds n l) 0 hs'⟩ (n+(hs'.length-l.length)))
 |rd(l:List Nat)(largs:List AV)(hs:List Bt)(r:AV)(h:B9 P f largs hs r hs)(ha:largs.map (ren (Ds n l))=args)(ok:M6 n l largs hs r hs=true)(hh:P5 H (Fi (Ds n l) 0 hs))
   (k:K ⟨ren (Ds n l) r,Fi (Ds n l) 0 hs,[]⟩ n)
inductive Are(s:ByteArray)(es:List (AV×AV))(K:Option (Nat×AV)->Prop):Prop where
 |mk(r:Option (Nat×AV))(h:Kw s es 0=some r)(k:K r)
inductive Afr(op:BinOp)(k:FloatKind)(a b:Nat)(K:Nat->Prop):Prop where
 |mk(c:Nat)(h:floatBits op k a b=some c)(k:K c)
inductive Afs(k:FloatKind)(a:Nat)(q:IntKind)(K:Int->Prop):Prop where
 |mk(c:Int)(h:floatToIntVal k a q=some c)(k:K c)
inductive Arf(s:ByteArray)(v:AV)(es:List (AV×AV))(K:List (AV×AV)->Prop):Prop where
 |mk(es':List (AV×AV))(h:Afi s v es=some es')(k:K es')
inductive Arg(P:Program)(t:TypeId)(f:Nat)(K:TypeId->Prop):Prop where
 |mk(ft:TypeId)(h:Akv P t f=some ft)(k:K ft)
inductive Ak5(P:Program)(f:FuncId)(args:List AV)(K:AV->Prop):Prop where
 |mk(r:AV)(h:Ay P f args r)(hf:args.all AV.free=true)(k:K r)
inductive Ann where
 |frz(j:Nat)
 |std
 |own
 |ask
 |vec(m:Nat)
def N1:AV->Bool
 |.val (.slice none 0 0)=>true
 |_=>false
def Aa3:AV->Bool
 |.val (.agg _)=>false
 |_=>true
def Ak6(x:AV)(K:AV->Prop):Prop:=match x with|.val v=>K (.val v)|.loc h off=>K (.loc h off)|.arr h k off len=>K (.arr h k off len)|.el h k i j=>K (.el h k i j)|.mp h=>K (.mp h)|.vec h n=>K (.vec h n)|.ref cs=>K (.ref cs)|.sl sz xs=>K (.sl sz xs)|.agg cs=>K (.agg cs)|.tup cs=>K (.tup cs)|.fn f cs=>K (.fn f cs)|.fb s=>K (.fb s)
def Sd:Λ AV->(List AV->Prop)->Prop
 |[],K=>K []
 |x::xs,K=>Ak6 x λx=>Sd xs λxs=>K (x::xs)
def Xt(x:AV)(K:AV->Prop):Prop:=match x with|.agg cs=>Sd cs λcs=>K (.agg cs)|.tup cs=>Sd cs λcs=>K (.tup cs)|.fn f cs=>Sd cs λcs=>K (.fn f cs)|x=>Ak6 x K
def Xu:Λ AV->(List AV->Prop)->Prop
 |[],K=>K []
 |x::xs,K=>Xt x λx=>Xu xs λxs=>K (x::xs)
def Ak7(o:Bt)(K:Bt->Prop):Prop:=match o with|.cells E cs=>Sd cs λcs=>K (.cells E cs)|.rows E sz xs=>K (.rows E sz xs)|.map es=>K (.map es)|.none=>K .none|.dead=>K .dead
def Aft:Λ (Nat×Bt)->(List (Nat×Bt)->Prop)->Prop
 |[],K=>K []
 |p::l,K=>Ak7 p.2 λo=>Aft l λl=>K ((p.1,o)::l)
def Aa4:Λ (Nat×Bt)->(List Nat->Prop)->Prop
 |[],K=>K []
 |p::l,K=>Aa4 l λl=>K (p.1::l)
theorem Arh(x:AV)(K:AV->Prop):Ak6 x K=K x:=by cases x<;>rfl
theorem Afu:∀(l:Λ AV)(K:Λ AV->Prop),Sd l K=K l
 |[],_=>rfl
 |x::xs,K=>by simp only[Sd,Arh,Afu xs]
theorem Afv(x:AV)(K:AV->Prop):Xt x K=K x:=by cases x<;>simp only[Xt,Afu,Arh]
theorem Afw:∀(l:Λ AV)(K:Λ AV->Prop),Xu l K=K l
 |[],_=>rfl
 |x::xs,K=>by simp only[Xu,Afv,Afw xs]
theorem A3q(o:Bt)(K:Bt->Prop):Ak7 o K=K o:=by cases o<;>simp only[Ak7,Afu]
theorem Ari:∀(l:Λ (Nat×Bt))(K:Λ (Nat×Bt)->Prop),Aft l K=K l
 |[],_=>rfl
 |p::l,K=>by simp only[Aft,A3q,Ari l]
theorem Arj:∀(l:Λ (Nat×Bt))(K:Λ Nat->Prop),Aa4 l K=K (l.map (·.1))
 |[],_=>rfl
 |p::l,K=>by simp only[Aa4,Arj l,map_cons]
def sop(P:Program)(T:Dv)(an:Nat->Ann)(n:Nat)(o:Oper)(ρ:Operand->AV)(H:Hp)(K:Eff->Nat->Prop):Prop :=
 match o.op with
 |.move x=>K ⟨ρ x,[],[]⟩ n
 |.assign x=>
  match o.dst with
  |none=>K ⟨ρ x,[],[]⟩ n
  |some d=>
   match an d with
   |.frz _=>K ⟨ρ x,[],[]⟩ n
   |.std=>K ⟨ρ x,[],[]⟩ n
   |.ask=>K ⟨ρ x,[],[]⟩ n
   |.vec _=>K ⟨ρ x,[],[]⟩ n
   |.own=>bif N1 (ρ x)then
     match T o.type with
     |some ⟨.slice e,_,_,_⟩=>
      match T e with
      |some g=>bif Nat.blt 0 g.size then K ⟨.arr n 0 0 0,[(n,.none)],[(n,.rows e g.size [])]⟩ (n+1)else False
      |none=>False
     |_=>False
    else K ⟨ρ x,[],[]⟩ n
 |.pick c a b=>
  match ρ c with
  |.val (.bool t)=>K ⟨bif t then ρ a else ρ b,[],[]⟩ n
  |_=>False
 |.alloc t=>
  match T t with
  |some i=>K ⟨.loc n 0,[(n,.none)],[(n,.cells t (i.zero.map .val))]⟩ (n+1)
  |none=>False
 |.box t x=>K ⟨.loc n 0,[(n,.none)],[(n,.cells t (ρ x).cells)]⟩ (n+1)
 |.build t parts=>
  match T t with
  |some ⟨.struct fs,_,_,z⟩=>
   match Xm fs (z.map .val) (parts.toList.map λp=>(p.1,ρ p.2))with
   |some cs=>K ⟨.agg cs,[],[]⟩ n
   |none=>False
  |_=>False
 |.buildSlice t len parts=>
  match T t with
  |some ⟨.slice e,_,_,_⟩=>
   match T e with
   |some g=>
    bif Nat.blt 0 g.size&&(parts.toList.map (·.1)==range' 0 len)&&Nat.ble (len*g.size) 16777216&&parts.toList.all (λp=>M2 g.size (ρ p.2))then
     match an (o.dst.getD 0)with
     |.frz _=>False
     |.vec _=>False
     |.std=>Xu (parts.toList.map λp=>ρ p.2) λxs=>K ⟨.sl g.size xs,[],[]⟩ n
     |.ask=>Xu (parts.toList.map λp=>ρ p.2) λxs=>K ⟨.sl g.size xs,[],[]⟩ n
     |.own=>Xu (parts.toList.map λp=>ρ p.2) λxs=>K ⟨.arr n len 0 len,[(n,.none)],[(n,.rows e g.size xs)]⟩ (n+1)
    else False
   |none=>False
  |_=>False
 |.load t x=>
  match T t with
  |some i=>
   match ρ x with
   |.ref cs=>bif i.isAgg then(bif Nat.ble i.size cs.length then K ⟨.agg (cs.take i.size),[],[]⟩ n else False)else
     match cs with
     |c::_=>K ⟨c,[],[]⟩ n
     |[]=>False
   |.loc h off=>
    match H h with
    |.cells E cs=>bif i.isAgg then(bif Nat.ble (off+i.size) cs.length then K ⟨.agg ((cs.drop off).take i.size),[(h,.cells E cs)],[]⟩ n else False)else
      match cs[off]? with
      |some c=>K ⟨c,[(h,.cells E cs)],[]⟩ n
      |none=>False
    |_=>False
   |.el h k q j=>
    match H h with
    |.rows E sz xs=>N0 k q xs λy=>bif i.isAgg then(bif Nat.ble (j+i.size) y.cells.length then K ⟨.agg ((y.cells.drop j).take i.size),[(h,.rows E sz xs)],[]⟩ n else False)else
      match y.cells[j]? with
      |some c=>K ⟨c,[(h,.rows E sz xs)],[]⟩ n
      |none=>False
    |_=>False
   |_=>False
  |none=>False
 |.store t x y=>
  match T t with
  |some i=>
   match ρ x with
   |.loc h off=>
    match H h with
    |.cells E cs=>bif Nat.beq (ρ y).cells.length i.size&&Nat.ble (off+i.size) cs.length&&(ρ y).cells.all AV.one then K ⟨.val undef,[(h,.cells E cs)],[(h,.cells E (Oz cs off (ρ y).cells))]⟩ n else False
    |_=>False
   |.el h k q j=>
    match H h with
    |.rows E sz xs=>N0 k q xs λz=>bif Nat.beq (ρ y).cells.length i.size&&Nat.blt 0 i.size&&Nat.ble (j+i.size) z.cells.length&&(ρ y).cells.all AV.cl1&&Aa3 z then
      Sd (ρ y).cells λys=>Xt (Aax z j ys) λp=>Aa2 xs q p λu=>K ⟨.val undef,[(h,.rows E sz xs)],[(h,.rows E sz u)]⟩ n else False
    |_=>False
   |_=>False
  |none=>False
 |.nilCheck x=>bif(ρ x).isPtr then K ⟨ρ x,[],[]⟩ n else False
 |.binOp op t x y _=>
  match ρ x,ρ y with
  |.val (.int k a),.val (.int I b)=>
   match op with
   |.shl=>A3o k a b λc=>K ⟨.val (.int k c),[],[]⟩ n
   |.shr=>Afm k a b λc=>K ⟨.val (.int k c),[],[]⟩ n
   |op=>bif decide (k=I)then
     match op with
     |.add=>Jm k (a+b) λc=>K ⟨.val (.int k c),[],[]⟩ n
     |.sub=>Jm k (a-b) λc=>K ⟨.val (.int k c),[],[]⟩ n
     |.mul=>Jm k (a*b) λc=>K ⟨.val (.int k c),[],[]⟩ n
     |.quo=>Afk k a b λc=>K ⟨.val (.int k c),[],[]⟩ n
     |.rem=>Afl a b λc=>K ⟨.val (.int k c),[],[]⟩ n
     |op=>
      match Aka op a b with
      |some t=>K ⟨.val (.bool t),[],[]⟩ n
      |none=>
       match Aki op k a b with
       |some c=>K ⟨.val (.int k c),[],[]⟩ n
       |none=>False
    else False
  |.val (.bool a),.val (.bool b)=>
   match T t with
   |some ⟨.bool,_,_,_⟩=>
    match Akj op a b with
    |some t=>K ⟨.val (.bool t),[],[]⟩ n
    |none=>False
   |_=>False
  |.val (.float k a),.val (.float I b)=>bif decide (k=I)then Afr op k a b λc=>K ⟨.val (.float k c),[],[]⟩ n else False
  |.val (.string a),.val (.string b)=>
   match op with
   |.add=>Afq (a.size+b.size) (K ⟨.val (.string (a++b)),[],[]⟩ n)
   |op=>
    match Akk op a b with
    |some t=>K ⟨.val (.bool t),[],[]⟩ n
    |none=>False
  |.val (.slice p _ _),.val (.slice none _ _)=>
   match op with
   |.eql=>
    match T t with
    |some ⟨.slice _,_,_,_⟩=>K ⟨.val (.bool p.isNone),[],[]⟩ n
    |_=>False
   |_=>False
  |_,_=>False
 |.unOp op _ x=>
  match op,ρ x with
  |.not,.val (.bool b)=>K ⟨.val (.bool !b),[],[]⟩ n
  |.neg,.val (.int k m)=>Jm k (0-m) λc=>K ⟨.val (.int k c),[],[]⟩ n
  |_,_=>False
 |.convert s d x=>
  match T s,T d,ρ x with
  |some _,some ⟨.int k,_,_,_⟩,.val (.int _ m)=>Jm k m λc=>K ⟨.val (.int k c),[],[]⟩ n
  |some _,some ⟨.float k,_,_,_⟩,.val (.int _ m)=>K ⟨.val (.float k (floatOfInt k m)),[],[]⟩ n
  |some _,some ⟨.int k,_,_,_⟩,.val (.float q m)=>Afs q m k λc=>K ⟨.val (.int k c),[],[]⟩ n
  |_,_,_=>False
 |.makeFunc (.func f) first A=>bif first.isEmpty then K ⟨.fn f (A.toList.map ρ),[],[]⟩ n else False
 |.makeSlice t x y=>
  match T t with
  |some ⟨.slice e,_,_,_⟩=>
   match T e with
   |some g=>
    match ρ x,ρ y with
    |.val (.int _ l),.val (.int _ c)=>
     match an (o.dst.getD 0)with
     |.vec m=>
      match g.zero with
      |[v]=>
       bif Nat.beq g.size 1&&Nat.ble m 16&&Nat.ble (g.bytes*m) 281474976710656&&decide (l=(m:Int))&&decide (c=(m:Int))then
        K ⟨.vec n m,[(n,.none)],[(n,.cells e (replicate m (.val v)))]⟩ (n+1)
       else False
      |_=>False
     |_=>
     bif Nat.blt 0 g.size&&M2 g.size (Gt g)&&Nat.beq (Gt g).cells.length g.zero.length&&Aa3 (Gt g)then
      Xs l c g.bytes (Gt g) λl u=>K ⟨.arr n l 0 l,[(n,.none)],[(n,.rows e g.size u)]⟩ (n+1)
     else False
    |_,_=>False
   |none=>False
  |_=>False
 |.slice t x lo hi none=>
  match T t with
  |some ⟨.slice e,_,_,_⟩=>
   match T e with
   |some g=>
    match ρ x with
    |.sl sz xs=>
     match Jl ρ 0 lo,Jl ρ xs.length hi with
     |some l,some h=>bif Nat.beq sz g.size then O1 xs l h λys=>K ⟨.sl sz ys,[],[]⟩ n else False
     |_,_=>False
    |.arr hd k off len=>
     match H hd with
     |.rows E sz xs=>
      match Jl ρ 0 lo,Jl ρ len hi with
      |some l,some h=>bif Nat.beq sz g.size then Afo k xs len l h (λl h=>K ⟨.arr hd k (off+l) (h-l),[(hd,.rows E sz xs)],[]⟩ n) (K ⟨.sl g.size [],[(hd,.rows E sz xs)],[]⟩ n)else False
      |_,_=>False
     |_=>False
    |_=>False
   |none=>False
  |some ⟨.string,_,_,_⟩=>
   match ρ x with
   |.val (.string s)=>
    match Jl ρ 0 lo,Jl ρ s.size hi with
    |some l,some h=>Afn s.size l h λl h=>K ⟨.val (.string (s.extract l h)),[],[]⟩ n
    |_,_=>False
   |_=>False
  |_=>False
 |.fieldAddr s x f=>
  match T s with
  |some ⟨.struct fs,_,_,_⟩=>
   match fs[f]? with
   |some q=>
    match ρ x with
    |.loc h off=>K ⟨.loc h (off+q.1),[],[]⟩ n
    |.ref cs=>K ⟨.ref (cs.drop q.1),[],[]⟩ n
    |.el h k m j=>
     match H h with
     |.rows E sz xs=>Ic k xs (K ⟨.el h k m (j+q.1),[(h,.rows E sz xs)],[]⟩ n)
     |_=>False
    |_=>False
   |none=>False
  |_=>False
 |.indexAddr t x y=>
  match T t with
  |some ⟨.slice e,_,_,_⟩=>
   match T e with
   |some g=>
    match ρ x,ρ y with
    |.vec h m,.val (.int _ i)=>bif Nat.beq g.size 1 then A3n m i λq=>K ⟨.loc h q,[],[]⟩ n else False
    |.sl sz xs,.val (.int _ i)=>bif Nat.beq sz g.size then Xr xs i λ_ z=>K ⟨.ref z.cells,[],[]⟩ n else False
    |.arr h k off len,.val (.int _ i)=>
     match H h with
     |.rows E sz xs=>bif Nat.beq sz g.size then Uu len k xs i λm=>K ⟨.el h k (off+m) 0,[(h,.rows E sz xs)],[]⟩ n else False
     |_=>False
    |_,_=>False
   |none=>False
  |_=>False
 |.index t x y=>
  match T t with
  |some ⟨.string,_,_,_⟩=>
   match ρ x,ρ y with
   |.val (.string s),.val (.int _ i)=>Afp s i λc=>K ⟨.val (.int .u8 c.toNat),[],[]⟩ n
   |_,_=>False
  |_=>False
 |.field s x f=>
  match T s with
  |some ⟨.struct fs,_,_,_⟩=>
   match fs[f]? with
   |some q=>
    match ρ x with
    |.agg cs=>Arg P s f λV=>
     match T V with
     |some J=>bif J.isAgg then(bif Nat.ble (q.1+J.size) cs.length then K ⟨.agg ((cs.drop q.1).take J.size),[],[]⟩ n else False)else
       match cs[q.1]? with
       |some c=>K ⟨c,[],[]⟩ n
       |none=>False
     |none=>False
    |_=>False
   |none=>False
  |_=>False
 |.makeMap _ none=>K ⟨.mp n,[(n,.none)],[(n,.map [])]⟩ (n+1)
 |.lookup t x y ok=>
  match T t with
  |some ⟨.map R X,_,_,_⟩=>
   match T R with
   |some ⟨.string,_,_,_⟩=>
    match T X with
    |some J=>
     match ρ x with
     |.mp h=>
      match ρ y with
      |.val (.string s)=>
       match H h with
       |.map es=>Are s es λr=>K ⟨Akw ok J r,[(h,.map es)],[]⟩ n
       |_=>False
      |_=>False
     |_=>False
    |none=>False
   |_=>False
  |_=>False
 |.mapUpdate t x y z=>
  match T t with
  |some ⟨.map R _,_,_,_⟩=>
   match T R with
   |some ⟨.string,_,_,_⟩=>
    match ρ x with
    |.mp h=>
     match ρ y with
     |.val (.string s)=>
      match H h with
      |.map es=>bif(ρ z).free1 then Xt (ρ z) λv=>Arf s v es λS=>K ⟨.val undef,[(h,.map es)],[(h,.map S)]⟩ n else False
      |_=>False
     |_=>False
    |_=>False
   |_=>False
  |_=>False
 |.extract x i=>
  match ρ x with
  |.tup cs=>
   match cs[i]? with
   |some c=>K ⟨c,[],[]⟩ n
   |none=>False
  |_=>False
 |.call c=>
  match c.callee with
  |.value x=>
   match ρ x with
   |.fn f A=>
    match an (o.dst.getD 0)with
    |.frz j=>
     (match(c.args.toList.map ρ++A)[j]? with
     |some (.arr h k 0 len)=>
      (match H h with
      |.rows E sz xs=>Ic k xs (Ic len xs (Ak5 P f ((c.args.toList.map ρ++A).set j (.sl sz xs)) λr=>K ⟨r,[(h,.rows E sz xs)],[(h,.dead)]⟩ n))
      |_=>False)
     |_=>False)
    |_=>G8 P n H f (c.args.toList.map ρ++A) K
   |_=>False
  |.invoke _ _=>False
  |.builtin .len=>
   match c.args.toList,c.argTypes.toList with
   |[x],[t]=>
    match T t with
    |some ⟨.slice _,_,_,_⟩=>
     match ρ x with
     |.sl _ xs=>
      match an (o.dst.getD 0)with
      |.ask=>O2 xs λc=>K ⟨.val (.int .i64 c),[],[]⟩ n
      |_=>K ⟨.val (.int .i64 xs.length),[],[]⟩ n
     |.val (.slice _ m _)=>K ⟨.val (.int .i64 m),[],[]⟩ n
     |.vec _ m=>K ⟨.val (.int .i64 m),[],[]⟩ n
     |.arr h k _ len=>
      match H h with
      |.rows E sz xs=>Ic k xs (K ⟨.val (.int .i64 len),[(h,.rows E sz xs)],[]⟩ n)
      |_=>False
     |_=>False
    |some ⟨.string,_,_,_⟩=>
     match ρ x with
     |.val (.string s)=>K ⟨.val (.int .i64 s.size),[],[]⟩ n
     |_=>False
    |_=>False
   |_,_=>False
  |.builtin .cap=>
   match c.args.toList,c.argTypes.toList with
   |[x],[t]=>
    match T t with
    |some ⟨.slice _,_,_,_⟩=>
     match ρ x with
     |.val (.slice _ _ m)=>K ⟨.val (.int .i64 m),[],[]⟩ n
     |_=>False
    |_=>False
   |_,_=>False
  |.builtin .copy=>
   match c.args.toList,c.argTypes.toList with
   |[x,y],[t,U]=>
    match T t with
    |some ⟨.slice e,_,_,_⟩=>
     match T e with
     |some g=>
      match ρ y with
      |.arr h2 L D G=>
       match ρ x with
       |.arr h k off len=>
        match H h with
        |.rows E sz xs=>bif Nat.beq E e&&Nat.beq sz g.size&&Nat.beq h h2&&Nat.blt 0 g.size then
          Arc xs k off len L D G (λu c=>K ⟨.val (.int .i64 c),[(h,.rows e g.size xs)],[(h,.rows e g.size u)]⟩ n)else False
        |_=>False
       |.sl _ []=>
        match H h2 with
        |.rows E sz xs=>bif Nat.beq sz g.size then Ic L xs (K ⟨.val (.int .i64 0),[(h2,.rows E g.size xs)],[]⟩ n)else False
        |_=>False
       |_=>False
      |_=>False
     |none=>False
    |_=>False
   |_,_=>False
  |.builtin .clear=>
   match c.args.toList,c.argTypes.toList with
   |[x],[t]=>
    match T t with
    |some ⟨.slice e,_,_,_⟩=>
     match T e with
     |some g=>
      match ρ x with
      |.arr h k off len=>
       match H h with
       |.rows E sz xs=>bif Nat.beq E e&&Nat.beq sz g.size&&Nat.blt 0 g.size&&M2 g.size (Gt g)&&Nat.beq (Gt g).cells.length g.zero.length&&Aa3 (Gt g)then
         Ard xs k off len (Gt g) (λu=>K ⟨.tup [],[(h,.rows e g.size xs)],[(h,.rows e g.size u)]⟩ n)else False
       |_=>False
      |.sl _ []=>K ⟨.tup [],[],[]⟩ n
      |_=>False
     |none=>False
    |_=>False
   |_,_=>False
  |.builtin .append=>
   match c.args.toList,c.argTypes.toList with
   |[x,y],[t,U]=>
    match T t,T U with
    |some ⟨.slice e,_,_,_⟩,some ⟨.slice _,_,_,_⟩=>
     match T e with
     |some g=>
      bif Nat.blt 0 g.size&&Nat.beq g.zero.length g.size&&Nat.ble 1 g.bytes then
       match ρ y with
       |.sl sz ys=>
        bif Nat.beq sz g.size then
         match ρ x with
         |.arr h k 0 len=>
          match H h with
          |.rows E B xs=>bif Nat.beq E e&&Nat.beq B g.size then
            match an (o.dst.getD 0)with
            |.frz _=>Nz xs ys k len g.bytes (λu _=>K ⟨.sl g.size u,[(h,.rows e g.size xs)],[(h,.dead)]⟩ n) (λ_ _ _=>False)
            |_=>Nz xs ys k len g.bytes (λu m=>K ⟨.arr h m 0 m,[(h,.rows e g.size xs)],[(h,.rows e g.size u)]⟩ n) (λu I m=>K ⟨.arr h I 0 m,[(h,.rows e g.size xs)],[(h,.rows e g.size u)]⟩ n)else False
          |_=>False
         |.val (.slice none 0 0)=>Uv ys g.bytes λu m=>K ⟨.arr n m 0 m,[(n,.none)],[(n,.rows e g.size u)]⟩ (n+1)
         |.sl N M=>A3p ys (K ⟨.sl N M,[],[]⟩ n)
         |_=>False
        else False
       |.arr h2 L D G=>
        match ρ x with
        |.arr h k 0 len=>
         match H h with
         |.rows E B xs=>bif Nat.beq E e&&Nat.beq B g.size&&Nat.beq h h2 then
           Arb xs k len L D G g.bytes (λu I m=>K ⟨.arr h I 0 m,[(h,.rows e g.size xs)],[(h,.rows e g.size u)]⟩ n)else False
         |_=>False
        |_=>False
       |_=>False
      else False
     |none=>False
    |some ⟨.slice e,_,_,_⟩,some ⟨.string,_,_,_⟩=>
     match T e with
     |some g=>
      bif Nat.beq g.size 1&&Nat.beq g.zero.length g.size&&Nat.ble 1 g.bytes then
       match ρ y with
       |.val (.string s)=>
        match ρ x with
        |.arr h k 0 len=>
         match H h with
         |.rows E B xs=>bif Nat.beq E e&&Nat.beq B g.size then
           Nz xs (Kv s) k len g.bytes (λu m=>K ⟨.arr h m 0 m,[(h,.rows e g.size xs)],[(h,.rows e g.size u)]⟩ n) (λ_ _ _=>False)else False
         |_=>False
        |_=>False
       |_=>False
      else False
     |none=>False
    |_,_=>False
   |_,_=>False
  |.builtin .max=>
   match c.args.toList,c.argTypes.toList with
   |[x,y],[_,_]=>
    match ρ x,ρ y with
    |.val (.int k a),.val (.int _ b)=>K ⟨.val (.int k (if b>a then b else a)),[],[]⟩ n
    |_,_=>False
   |_,_=>False
  |.builtin .min=>
   match c.args.toList,c.argTypes.toList with
   |[x,y],[_,_]=>
    match ρ x,ρ y with
    |.val (.int k a),.val (.int _ b)=>K ⟨.val (.int k (if b<a then b else a)),[],[]⟩ n
    |_,_=>False
   |_,_=>False
  |_=>False
 |_=>False
section
variable{P:Program}{o:Oper}{ρ:Operand->AV}{a:Act}{w w':World}{next:Act->World->Prop}{Q:Exit->Act->World->Prop}
variable{r:AV}{F σ:Bd}{ι:Cl}{H:Hp}{b g:Λ AV}{x:Operand}{v:Value}{W:World}
def Uw(σ:Bd)(w:World):Bd:=λb=>match σ b with|none=>w.heap[b]?|some _=>none
theorem St.lend(s:St σ ι H F W w):St σ ι0 H0 (Uw σ w) W w:=by refine⟨s.sto,λb o hb=>?_,λh=>rfl,(λh h' b c=>by cases c),s.os,s.tape,s.output,s.glo,s.drw⟩;unfold Uw at hb;cases e:σ b with|none=>rw[e]at hb;exact⟨hb,rfl⟩|some _=>rw[e]at hb;cases hb
theorem St.unlend{k:Bd}(s:St σ ι H F W w)(g:σ.le k)(s':St k ι0 H0 (Uw σ w) W w'):St k ι H F W w':=by(have d:∀b,σ b=none->∀o,w.heap[b]?=some o->w'.heap[b]?=some o/\k b=none:=by intro b hb o f;exact s'.fra b o (by unfold Uw;rw[hb];exact f));have le:Le σ ι H k ι H:=⟨g,λ_=>HLe.refl _ _⟩;refine⟨s'.sto,λb o hb=>?_,λh=>?_,s.inj,s'.os,s'.tape,s'.output,s'.glo,s'.drw⟩;obtain⟨h1,h2⟩:=s.fra b o hb;exact d b h2 o h1;have f:=s.obj h;unfold C9 at f⊢;cases A:H h with|none=>rw[A]at f;exact f|dead=>trivial|cells E cs=>rw[A]at f;obtain⟨b,C,j,h1,h2,h3,z,B⟩:=f;obtain⟨u,l⟩:=d b h1 _ h3;exact⟨b,C,j,l,h2,u,z,λi c v x y=>(B i c v x y).mono le⟩|rows E sz xs=>rw[A]at f;obtain⟨D,J,⟨j,I⟩|⟨b,tot,C,j,h1,h2,h3,z,B,G⟩⟩:=f;exact⟨D,J,.inl ⟨j,I⟩⟩;obtain⟨u,l⟩:=d b h1 _ h3;exact⟨D,J,.inr ⟨b,tot,C,j,l,h2,u,z,B,G.mono g⟩⟩|map es=>rw[A]at f;obtain⟨b,M,q,j,h1,h2,h3,z⟩:=f;obtain⟨u,l⟩:=d b h1 _ h3;exact⟨b,M,q,j,l,h2,u,z.mono g⟩
theorem Conc.of0{x:AV}(h:Conc σ ι0 H0 x v):Conc σ ι H x v:=by induction h with|cc h=>exact .cc h|loc h off b hb=>cases hb|mp h b hb=>cases hb|vec h n b hb=>cases hb|arr h k off len v hn u c=>exact(hn rfl).elim|el h k i j v hn u c=>exact(hn rfl).elim|ref cs b off C E fr g s hc h1 y=>exact .ref cs b off C E fr g s hc h1 y|agg cs vs l _ ih=>exact .agg cs vs l ih|tup cs vs l _ ih=>exact .tup cs vs l ih|fn f q vs l _ ih=>exact .fn f q vs l ih
theorem A3r{x:AV}(h:x.free1=true)(d:∀cs,x≠.agg cs):x.cl1=true:=by cases x<;>first|exact h|exact(d _ rfl).elim
theorem Conc.to0{x:AV}(hx:x.free=true)(h:Conc σ ι H x v):Conc σ ι0 H0 x v:=by(have I:∀(cs:Λ AV),cs.all AV.cl1=true->∀(i:Nat)(c:AV)(u:Value),cs[i]?=some c->Conc σ ι H c u->Conc σ ι0 H0 c u:=by intro cs s i c u hc h;exact .cc (h.cc_of (Fd.1 s c (F7 hc))).1);cases h with|cc h=>exact .cc h|loc=>cases hx|mp=>cases hx|vec=>cases hx|arr=>cases hx|el=>cases hx|ref cs b off C E fr g A hc h1 D=>exact .ref cs b off C E fr g A hc h1 D|agg cs vs l h=>exact .agg cs vs l λi c u h1 h2=>I cs hx i c u h1 (h i c u h1 h2)|tup cs vs l h=>(refine .tup cs vs l λi c u h1 h2=>?_;have y:=Fd.1 hx c (F7 h1);have hc:=h i c u h1 h2;cases c with|agg ds=>obtain⟨z,rfl,q,B⟩:=hc.agg_inv;exact .agg ds z q λj d v J L=>I ds y j d v J (B j d v J L)|_=>exact .cc (hc.cc_of (A3r y (by intro cs e;cases e))).1)|fn f k vs l h=>exact .fn f k vs l λi c u h1 h2=>I k hx i c u h1 (h i c u h1 h2)
theorem Conc.fn_inv{f:FuncId}(h:Conc σ ι H (.fn f b) v):∃vs:Array Value,v=.func (.func f) #[] vs/\vs.size=b.length/\∀(i:Nat)(c:AV)(u:Value),b[i]?=some c->vs[i]?=some u->Conc σ ι H c u:=by cases h with|cc h=>cases h|fn _ _ vs g h=>exact⟨vs,rfl,g,h⟩
theorem Afx{xs:Array Operand}{vs:Array Value}(D:∀x∈xs.toList,Conc σ ι H (ρ x) (a.eval x))(h:vs.size=b.length)(g:∀(i:Nat)(c:AV)(u:Value),b[i]?=some c->vs[i]?=some u->Conc σ ι H c u):Ma σ ι H (xs.toList.map ρ++b) (xs.map a.eval++vs):=by refine⟨by simp[h],λi c u d B=>?_⟩;by_cases f:i<xs.size;rw[getElem?_append_left (by simpa using f),getElem?_map,Hg]at d;rw[Array.getElem?_append_left (by simpa using f),Array.getElem?_map]at B;simp[f]at d B;subst d;subst B;exact D _ ψ;rw[getElem?_append_right ζ]at d;rw[Array.getElem?_append_right ζ]at B;simp at d B;exact g _ c u d B
theorem A3s{c:Call}{f:FuncId}(G:o.op=.call c)(h:c.callee=.value x)(V:ρ x=.fn f g)(hp:Ay P f (c.args.toList.map ρ++g) r)(l:(c.args.toList.map ρ++g).all AV.free=true):Cm P o ρ ⟨r,[],[]⟩:=by(intro σ ι H F W w a next Q s B _ X);obtain⟨⟨fn,N,k,q⟩,hp⟩:=hp;have z:=B x (by simp[G,Op.operands,Call.operands,h]);rw[V]at z;obtain⟨d,L,M,E⟩:=z.fn_inv;have j:Ma σ ι H (c.args.toList.map ρ++g) (c.args.map a.eval++d):=Afx (λy R=>B y (by simp only[G,Op.operands,Call.operands,h];simp at R⊢;exact .inr R)) M E;(have A:(execOp a.eval o).run P w=.ok (.enter f (c.args.map a.eval++d)) w:=by have I:(callFunc f (c.args.map a.eval++d)).run P w=.ok (.enter f (c.args.map a.eval++d)) w:=(by unfold callFunc;simp only[Sem.run_bind,program,Sem.run,Result.andThen_ok,N,k,q,Bool.false_eq_true,if_false,Sem.run_pure]);simp only[execOp,G,resolve,h,L,Deferred.ofValue,invoke,Sem.run_bind,Sem.run_pure,Result.andThen_ok,Array.empty_append,I]);unfold Oper.wp;rw[A];simp only[Oper.upon];refine(hp σ (Uw σ w) W w (c.args.map a.eval++d) s.lend ⟨j.1,λi b u U h2=>(j.2 i b u U h2).to0 (Fd.1 l b (F7 U))⟩).mono ?_;rintro e w' ⟨v,J,rfl,D,s',hc⟩;exact X J ι v w' ⟨D,λ_=>HLe.refl _ _⟩ (s.unlend D s') hc.of0
theorem A3t{c:Call}{f:FuncId}(B:o.op=.call c)(h:c.callee=.value x)(L:ρ x=.fn f g)(hp:Ext P f (c.args.toList.map ρ++g) r)(k:(c.args.toList.map ρ++g).all AV.free=true):Cm P o ρ ⟨r,[],[]⟩:=by(intro σ ι H F W w a next Q s z _ M);have l:=z x (by simp[B,Op.operands,Call.operands,h]);rw[L]at l;obtain⟨d,E,G,A⟩:=l.fn_inv;have j:Ma σ ι H (c.args.toList.map ρ++g) (c.args.map a.eval++d):=Afx (λy I=>z y (by simp only[B,Op.operands,Call.operands,h];simp at I⊢;exact .inr I)) G A;obtain⟨v,D,N⟩:=hp σ (Uw σ w) W w (c.args.map a.eval++d) s.lend ⟨j.1,λi b u J R=>(j.2 i b u J R).to0 (Fd.1 k b (F7 J))⟩;(have q:(execOp a.eval o).run P w=.ok (.value v) w:=by simp only[execOp,B,resolve,h,E,Deferred.ofValue,invoke,Sem.run_bind,Sem.run_pure,Result.andThen_ok,Array.empty_append,D]);exact Gm q (M σ ι v w (Le.refl _ _ _) s N.of0)
theorem A3u{c:Call}{f:FuncId}{j h sz:Nat}{E:TypeId}{xs:Λ AV}(S:o.op=.call c)(k:c.callee=.value x)(hx:ρ x=.fn f g)(hj:(c.args.toList.map ρ++g)[j]?=some (.arr h xs.length 0 xs.length))(hp:Ay P f ((c.args.toList.map ρ++g).set j (.sl sz xs)) r)(A:((c.args.toList.map ρ++g).set j (.sl sz xs)).all AV.free=true):Cm P o ρ ⟨r,[(h,.rows E sz xs)],[(h,.dead)]⟩:=by(intro σ ι H F W w a next Q s J R hk);have Z:H h=.rows E sz xs:=R (h,.rows E sz xs) ψ;obtain⟨⟨fn,hf,z,B⟩,hp⟩:=hp;have G:=J x (by simp[S,Op.operands,Call.operands,k]);rw[hx]at G;obtain⟨vs,hv,hl,M⟩:=G.fn_inv;have q:Ma σ ι H (c.args.toList.map ρ++g) (c.args.map a.eval++vs):=Afx (λy hy=>J y (by simp only[S,Op.operands,Call.operands,k];simp at hy⊢;exact .inr hy)) hl M;obtain⟨N,D,Y,V⟩:=s.freeze Z;(have l:Ma N ι (Bg H h .dead) ((c.args.toList.map ρ++g).set j (.sl sz xs)) (c.args.map a.eval++vs):=by refine⟨by rw[length_set];exact q.1,λi b u d h2=>?_⟩;rw[getElem?_set]at d;split at d;rename_i U;split at d;cases d;subst U;have hc:=q.2 j _ u hj h2;have:=V 0 xs.length _ ω (hc.arr_inv Z rfl);rw[drop_zero,take_of_length_le ω]at this;exact .cc this;cases d;exact(q.2 i b u d h2).mono D);(have I:(execOp a.eval o).run P w=.ok (.enter f (c.args.map a.eval++vs)) w:=by have X:(callFunc f (c.args.map a.eval++vs)).run P w=.ok (.enter f (c.args.map a.eval++vs)) w:=(by unfold callFunc;simp only[Sem.run_bind,program,Sem.run,Result.andThen_ok,hf,z,B,Bool.false_eq_true,if_false,Sem.run_pure]);simp only[execOp,S,resolve,k,hv,Deferred.ofValue,invoke,Sem.run_bind,Sem.run_pure,Result.andThen_ok,Array.empty_append,X]);unfold Oper.wp;rw[I];simp only[Oper.upon];refine(hp N (Uw N w) W w (c.args.map a.eval++vs) Y.lend ⟨l.1,λi b u d h2=>(l.2 i b u d h2).to0 (Fd.1 A b (F7 d))⟩).mono ?_;rintro e w' ⟨v,σ',rfl,L,s',hc⟩;exact hk σ' ι v w' (D.trans ⟨L,λ_=>HLe.refl _ _⟩) (Y.unlend L s') hc.of0
end
variable{o:Bt}{es:Nat->Nat}
theorem Ie{a b:Nat}(h:Nat.blt a b=true):a<b:=Gz h
theorem Ak8:Ke es o=.none↔o=.none:=by cases o<;>simp[Ke]
theorem Afy:(Ke es o).live=o.live:=by cases o<;>rfl
theorem Ak9{E:TypeId}{sz:Nat}{xs:Λ AV}:Ke es o=.rows E sz xs↔o=.rows E sz xs:=by cases o<;>simp[Ke]
section
variable{es:Nat->Nat}{m:Nat}{σ:Bd}{ι ιl:Cl}{H I:Hp}
variable{x:AV}{n:Nat}{v:Value}
theorem P6(f:∀k,k<m->ιl k=ι (es k))(A:∀k,k<m->H (es k)=Ke es (I k))(B:x.under0 m=true):Conc σ ι H (Ak1 es x) v↔Conc σ ιl I x v:=by(have rows:∀k,k<m->∀E sz xs,H (es k)=.rows E sz xs↔I k=.rows E sz xs:=λk d E sz xs=>by rw[A k d];exact Ak9);(have some:∀k,k<m->(H (es k)≠.none↔I k≠.none):=λk d=>by rw[A k d];exact not_congr Ak8);constructor;intro h;(cases x with|val u=>(cases h with|cc h=>exact .cc h)|sl sz xs=>(cases h with|cc h=>exact .cc h)|fb s=>(cases h with|cc h=>exact .cc h)|ref cs=>(cases h with|cc h=>exact .cc h|ref cs b off C E L g y M N z=>exact .ref cs b off C E L g y M N z)|loc k off=>(have d:=Ie B;cases h with|cc h=>cases h|loc _ _ b D=>exact .loc k off b (by rw[f k d];exact D))|mp k=>(have d:=Ie B;cases h with|cc h=>cases h|mp _ b D=>exact .mp k b (by rw[f k d];exact D))|vec k n=>(have d:=Ie B;cases h with|cc h=>cases h|vec _ _ b D=>exact .vec k n b (by rw[f k d];exact D))|arr k q off len=>(have d:=Ie B;cases h with|cc h=>cases h|arr _ _ _ _ _ J l c=>exact .arr k q off len v ((some k d).1 J) (λE sz xs e=>by rw[f k d];exact l E sz xs ((rows k d E sz xs).2 e)) c)|el k q i j=>(have d:=Ie B;cases h with|cc h=>cases h|el _ _ _ _ _ J l c=>exact .el k q i j v ((some k d).1 J) (λE sz xs e=>by rw[f k d];exact l E sz xs ((rows k d E sz xs).2 e)) c)|agg=>cases B|tup=>cases B|fn=>cases B);intro h;cases x with|val u=>(cases h with|cc h=>exact .cc h)|sl sz xs=>(cases h with|cc h=>exact .cc h)|fb s=>(cases h with|cc h=>exact .cc h)|ref cs=>(cases h with|cc h=>exact .cc h|ref cs b off C E L g y M N z=>exact .ref cs b off C E L g y M N z)|loc k off=>(have d:=Ie B;cases h with|cc h=>cases h|loc _ _ b D=>exact .loc (es k) off b (by rw[<-f k d];exact D))|mp k=>(have d:=Ie B;cases h with|cc h=>cases h|mp _ b D=>exact .mp (es k) b (by rw[<-f k d];exact D))|vec k n=>(have d:=Ie B;cases h with|cc h=>cases h|vec _ _ b D=>exact .vec (es k) n b (by rw[<-f k d];exact D))|arr k q off len=>(have d:=Ie B;cases h with|cc h=>cases h|arr _ _ _ _ _ J l c=>exact .arr (es k) q off len v ((some k d).2 J) (λE sz xs e=>by rw[<-f k d];exact l E sz xs ((rows k d E sz xs).1 e)) c)|el k q i j=>(have d:=Ie B;cases h with|cc h=>cases h|el _ _ _ _ _ J l c=>exact .el (es k) q i j v ((some k d).2 J) (λE sz xs e=>by rw[<-f k d];exact l E sz xs ((rows k d E sz xs).1 e)) c)|agg=>cases B|tup=>cases B|fn=>cases B
theorem Jb(b:∀k,k<m->ιl k=ι (es k))(g:∀k,k<m->H (es k)=Ke es (I k))(d:x.under1 m=true):Conc σ ι H (P4 es x) v↔Conc σ ιl I x v:=by
 have cells:∀{cs:Λ AV},cs.all (AV.under0 m)=true->∀(i:Nat)(c:AV),cs[i]?=some c->∀u,(Conc σ ι H (Ak1 es c) u↔Conc σ ιl I c u) :=
  λq i c D u=>P6 b g (Fd.1 q c (F7 D));cases x with
 |fn f cs=>
  constructor
  .intro h;obtain⟨J,rfl,l,h⟩:=h.fn_inv;exact .fn f cs J (by simpa using l) λi c u B L=>(cells d i c B u).1 (h i _ u (by simp[B]) L)
  .intro h;obtain⟨J,rfl,l,h⟩:=h.fn_inv;refine .fn f _ J (by simpa using l) λi c u B L=>?_;rw[getElem?_map]at B;cases D:cs[i]? with|none=>rw[D]at B;cases B|some y=>rw[D]at B;cases B;exact(cells d i y D u).2 (h i y u D L)
 |agg cs=>cases d
 |tup cs=>cases d
 |val u=>exact P6 (x:=(.val u)) b g d
 |loc h off=>exact P6 (x:=(.loc h off)) b g d
 |arr h k off len=>exact P6 (x:=(.arr h k off len)) b g d
 |el h k i j=>exact P6 (x:=(.el h k i j)) b g d
 |mp h=>exact P6 (x:=(.mp h)) b g d
 |vec h n=>exact P6 (x:=(.vec h n)) b g d
 |ref cs=>exact P6 (x:=(.ref cs)) b g d
 |sl sz xs=>exact P6 (x:=(.sl sz xs)) b g d
 |fb s=>exact P6 (x:=(.fb s)) b g d
theorem A3v(h:x.under0 n=true):x.under1 n=true:=by cases x<;>first|exact h|cases h
theorem Ark(h:x.under1 n=true):x.under n=true:=by cases x with|fn f cs=>exact Fd.2 λc d=>A3v (Fd.1 h c d)|agg cs=>cases h|tup cs=>cases h|_=>exact h
theorem A3w(b:∀k,k<m->ιl k=ι (es k))(g:∀k,k<m->H (es k)=Ke es (I k))(d:x.under2 m=true):Conc σ ι H (Ak2 es x) v↔Conc σ ιl I x v:=by
 have cells:∀{cs:Λ AV},cs.all (AV.under1 m)=true->∀(i:Nat)(c:AV),cs[i]?=some c->∀u,(Conc σ ι H (P4 es c) u↔Conc σ ιl I c u) :=
  λq i c D u=>Jb b g (Fd.1 q c (F7 D));cases x with
 |agg cs=>
  constructor
  .intro h;obtain⟨J,rfl,l,h⟩:=h.agg_inv;exact .agg cs J (by simpa using l) λi c u B L=>(cells d i c B u).1 (h i _ u (by simp[B]) L)
  .intro h;obtain⟨J,rfl,l,h⟩:=h.agg_inv;refine .agg _ J (by simpa using l) λi c u B L=>?_;rw[getElem?_map]at B;cases D:cs[i]? with|none=>rw[D]at B;cases B|some y=>rw[D]at B;cases B;exact(cells d i y D u).2 (h i y u D L)
 |tup cs=>cases d
 |fn f cs=>exact Jb (x:=(.fn f cs)) b g d
 |val u=>exact Jb (x:=(.val u)) b g d
 |loc h off=>exact Jb (x:=(.loc h off)) b g d
 |arr h k off len=>exact Jb (x:=(.arr h k off len)) b g d
 |el h k i j=>exact Jb (x:=(.el h k i j)) b g d
 |mp h=>exact Jb (x:=(.mp h)) b g d
 |vec h n=>exact Jb (x:=(.vec h n)) b g d
 |ref cs=>exact Jb (x:=(.ref cs)) b g d
 |sl sz xs=>exact Jb (x:=(.sl sz xs)) b g d
 |fb s=>exact Jb (x:=(.fb s)) b g d
theorem Arl(g:∀k,k<m->ιl k=ι (es k))(q:∀k,k<m->H (es k)=Ke es (I k))(D:x.under m=true):Conc σ ι H (ren es x) v↔Conc σ ιl I x v:=by
 have cells:∀{cs:Λ AV},cs.all (AV.under1 m)=true->∀(i:Nat)(c:AV),cs[i]?=some c->∀u,(Conc σ ι H (P4 es c) u↔Conc σ ιl I c u) :=
  λz i c B u=>Jb g q (Fd.1 z c (F7 B));have b:∀{cs:Λ AV},cs.all (AV.under2 m)=true->∀(i:Nat)(c:AV),cs[i]?=some c->∀u,(Conc σ ι H (Ak2 es c) u↔Conc σ ιl I c u) :=
  λz i c B u=>A3w g q (Fd.1 z c (F7 B));cases x with
 |agg cs=>
  constructor
  .intro h;obtain⟨J,rfl,l,h⟩:=h.agg_inv;exact .agg cs J (by simpa using l) λi c u d L=>(cells D i c d u).1 (h i _ u (by simp[d]) L)
  .intro h;obtain⟨J,rfl,l,h⟩:=h.agg_inv;refine .agg _ J (by simpa using l) λi c u d L=>?_;rw[getElem?_map]at d;cases B:cs[i]? with|none=>rw[B]at d;cases d|some y=>rw[B]at d;cases d;exact(cells D i y B u).2 (h i y u B L)
 |tup cs=>
  constructor
  .intro h;obtain⟨J,rfl,l,h⟩:=h.tup_inv;exact .tup cs J (by simpa using l) λi c u d L=>(b D i c d u).1 (h i _ u (by simp[d]) L)
  .intro h;obtain⟨J,rfl,l,h⟩:=h.tup_inv;refine .tup _ J (by simpa using l) λi c u d L=>?_;rw[getElem?_map]at d;cases B:cs[i]? with|none=>rw[B]at d;cases d|some y=>rw[B]at d;cases d;exact(b D i y B u).2 (h i y u B L)
 |fn f cs=>
  constructor
  .intro h;obtain⟨J,rfl,l,h⟩:=h.fn_inv;exact .fn f cs J (by simpa using l) λi c u d L=>(cells D i c d u).1 (h i _ u (by simp[d]) L)
  .intro h;obtain⟨J,rfl,l,h⟩:=h.fn_inv;refine .fn f _ J (by simpa using l) λi c u d L=>?_;rw[getElem?_map]at d;cases B:cs[i]? with|none=>rw[B]at d;cases d|some y=>rw[B]at d;cases d;exact(cells D i y B u).2 (h i y u B L)
 |val u=>exact Jb (x:=(.val u)) g q D
 |loc h off=>exact Jb (x:=(.loc h off)) g q D
 |arr h k off len=>exact Jb (x:=(.arr h k off len)) g q D
 |el h k i j=>exact Jb (x:=(.el h k i j)) g q D
 |mp h=>exact Jb (x:=(.mp h)) g q D
 |vec h n=>exact Jb (x:=(.vec h n)) g q D
 |ref cs=>exact Jb (x:=(.ref cs)) g q D
 |sl sz xs=>exact Jb (x:=(.sl sz xs)) g q D
 |fb s=>exact Jb (x:=(.fb s)) g q D
theorem Arm(z:∀k,k<m->ιl k=ι (es k))(A:∀k,k<m->H (es k)=Ke es (I k)){F D:Bd}{w:World}{k:Nat}(X:k<m)(U:(I k).under m=true)(h:∀b,(I k).live=true->(ιl k).block?=some b->(F b=none↔D b=none)):C9 σ ι H F w (es k)↔C9 σ ιl I D w k:=by
 have cells:∀{cs:Λ AV},cs.all (AV.under1 m)=true->∀(i:Nat)(c:AV),cs[i]?=some c->∀u,(Conc σ ι H (P4 es c) u↔Conc σ ιl I c u) :=
  λs i c N u=>Jb z A (Fd.1 s c (F7 N));unfold C9;rw[A k X,<-z k X];cases V:I k with
 |none=>exact Iff.rfl
 |dead=>exact Iff.rfl
 |map l=>
  simp only[Ke];rw[V]at h;constructor
  .rintro⟨b,M,q,f,d,J,L⟩;exact⟨b,M,q,f,d,(h b rfl (by rw[f];rfl)).1 J,L⟩
  .rintro⟨b,M,q,f,d,J,L⟩;exact⟨b,M,q,f,d,(h b rfl (by rw[f];rfl)).2 J,L⟩
 |rows E sz xs=>
  simp only[Ke];rw[V]at h;refine and_congr Iff.rfl (and_congr Iff.rfl (or_congr Iff.rfl ?_));constructor
  .rintro⟨b,R,C,f,d,J,L⟩;exact⟨b,R,C,f,d,(h b rfl (by rw[f];rfl)).1 J,L⟩
  .rintro⟨b,R,C,f,d,J,L⟩;exact⟨b,R,C,f,d,(h b rfl (by rw[f];rfl)).2 J,L⟩
 |cells E cs=>
  simp only[Ke];rw[V]at h U;constructor
  .rintro⟨b,C,f,d,J,L,y,x⟩;refine⟨b,C,f,d,(h b rfl (by rw[f];rfl)).1 J,L,by simpa using y,λi c v N j=>(cells U i c N v).1 (x i _ v (by simp[N]) j)⟩
  .rintro⟨b,C,f,d,J,L,y,x⟩;refine⟨b,C,f,d,(h b rfl (by rw[f];rfl)).2 J,L,by simpa using y,λi c v N j=>?_⟩;rw[getElem?_map]at N;cases g:cs[i]? with|none=>rw[g]at N;cases N|some B=>rw[g]at N;cases N;exact(cells U i B g v).2 (x i B v g j)
end
variable{b:Λ Bt}{k:Nat}
theorem Arn{n:Nat}:∀{l:Λ Nat}{k:Nat},Q3 n l=true->k<l.length->Ds n l k<n
 |[],k,_,h=>by simp at h
 |h::l,0,b,_=>by simp only[Q3,Gg]at b;exact Ie b.1.1
 |h::l,k+1,b,d=>by simp only[Q3,Gg]at b;exact Arn (l:=l) b.2 (by simpa using d)
theorem Aa5{n:Nat}:∀{l:Λ Nat}{k:Nat},l.length<=k->Ds n l k=n+(k-l.length)
 |[],k,_=>by simp[Ds]
 |h::l,0,d=>by simp at d
 |h::l,k+1,d=>by simp only[Ds,length_cons];rw[Aa5 (l:=l) (by simpa using d)];omega
theorem Ala{n:Nat}:∀{l:Λ Nat}{k:Nat},k<l.length->Ds n l k∈l
 |[],k,h=>by simp at h
 |h::l,0,_=>by simp[Ds]
 |h::l,k+1,d=>by simp only[Ds];exact mem_cons_of_mem _ (Ala (by simpa using d))
theorem Aro{n:Nat}:∀{l:Λ Nat}{j k:Nat},Q3 n l=true->Ds n l j=Ds n l k->j=k
 |[],j,k,_,h=>by simp only[Ds]at h;omega
 |h::l,0,0,_,_=>rfl
 |h::l,j+1,k+1,b,e=>by simp only[Q3,Gg]at b;simp only[Ds]at e;rw[Aro (l:=l) b.2 e]
 |h::l,0,k+1,b,e=>by simp only[Q3,Gg]at b;simp only[Ds]at e;rcases Nat.lt_or_ge k l.length with d|d;have:=Ala (n:=n) d;rw[<-e]at this;simp[this]at b;have u:=Aa5 (n:=n) d;have B:=Ie b.1.1;omega
 |h::l,j+1,0,b,e=>by simp only[Q3,Gg]at b;simp only[Ds]at e;rcases Nat.lt_or_ge j l.length with d|d;have:=Ala (n:=n) d;rw[e]at this;simp[this]at b;have u:=Aa5 (n:=n) d;have B:=Ie b.1.1;omega
theorem Arp{es:Nat->Nat}:∀{os:Λ Bt}{k i:Nat}{o:Bt},os[i]?=some o->(es (k+i),Ke es o)∈Fi es k os
 |[],k,i,o,h=>by simp at h
 |p::os,k,0,o,h=>by simp at h;subst h;simp[Fi]
 |p::os,k,i+1,o,h=>by simp only[Fi];refine mem_cons_of_mem _ ?_;have:=Arp (es:=es) (k:=k+1) (i:=i) (by simpa using h);rwa [show k+(i+1)=k+1+i by omega]
theorem Afz{es:Nat->Nat}:∀{os:Λ Bt}{k x:Nat}{H:Hp},(∀i,i<os.length->es (k+i)≠x)->C8 H (Fi es k os) x=H x
 |[],k,x,H,h=>rfl
 |q::os,k,x,H,h=>by simp only[Fi,C8];rw[Afz (λi hi=>by rw[show k+1+i=k+(i+1)by omega];exact h (i+1) (by simpa using hi)),De _ _ (Ne.symm (by simpa using h 0 ψ))]
theorem Arq{es:Nat->Nat}(b:∀i j,es i=es j->i=j):∀{os:Λ Bt}{k i:Nat}{o:Bt}{H:Hp},os[i]?=some o->C8 H (Fi es k os) (es (k+i))=Ke es o
 |[],k,i,o,H,h=>by simp at h
 |q::os,k,0,o,H,h=>by simp at h;subst h;simp only[Fi,C8];rw[Afz (λi hi e=>by have:=b _ _ e;omega)];exact Cr _ _ _
 |q::os,k,i+1,o,H,h=>by simp only[Fi,C8];rw[show k+(i+1)=k+1+i by omega];exact Arq b (by simpa using h)
theorem Arr{es:Nat->Nat}:∀{c k i:Nat},i<c->(es (k+i),Bt.none)∈Cu es k c
 |0,k,i,h=>ω
 |c+1,k,0,h=>by simp[Cu]
 |c+1,k,i+1,h=>by simp only[Cu];refine mem_cons_of_mem _ ?_;have:=Arr (es:=es) (c:=c) (k:=k+1) (i:=i) ω;rwa [show k+(i+1)=k+1+i by omega]
theorem Ars{es:Nat->Nat}:∀{c k:Nat}{p:Nat×Bt},p∈Cu es k c->∃i,i<c/\p=(es (k+i),Bt.none)
 |0,k,p,h=>by simp[Cu]at h
 |c+1,k,p,h=>by simp only[Cu,mem_cons]at h;rcases h with rfl|h;exact⟨0,ω,rfl⟩;obtain⟨i,u,d⟩:=Ars h;exact⟨i+1,ω,by rw[d,show k+(i+1)=k+1+i by omega]⟩
theorem P5.spec{H:Hp}:∀{l:Λ (Nat×Bt)},P5 H l->∀p∈l,H p.1=p.2
 |[],_,p,hp=>by cases hp
 |q::l,h,p,hp=>by rcases mem_cons.1 hp with rfl|hp;exact h.1;exact P5.spec h.2 p hp
theorem Aa6(h:k<b.length):b[k]?=some (hp b k):=by simp[hp,h]
theorem Se(h:b.length<=k):hp b k=.none:=by simp[hp,getElem?_eq_none h]
section
variable{P:Program}{o:Oper}{ρ:Operand->AV}{a:Act}{w w':World}
open Classical in
theorem A3x{n m:Nat}{c:Call}{x:Operand}{f:FuncId}{b1:Λ AV}{l:Λ Nat}{a1:Λ AV}{L:Λ Bt}{R:AV->Λ Bt->Prop}(ho:o.op=.call c)(b2:c.callee=.value x)(hx:ρ x=.fn f b1)(e9:Ut P f a1 L R)(ha:a1.map (ren (Ds n l))=c.args.toList.map ρ++b1){r0:AV}{g0:Λ Bt}(h0:R r0 g0)(ok:∀r d,R r d->M6 n l a1 L r d=true/\d.length=m){σ:Bd}{ι:Cl}{H:Hp}{F:Bd}{W w:World}{a:Act}{next:Act->World->Prop}{Q:Exit->Act->World->Prop}(s:St σ ι H F W w)(c7:∀x∈o.op.operands.toList,Conc σ ι H (ρ x) (a.eval x))(c8:∀p∈Fi (Ds n l) 0 L++Cu (Ds n l) l.length (m-l.length),H p.1=p.2)(hk:∀r d,R r d->∀σ' ι' v w',Le σ ι H σ' ι' (C8 H (Fi (Ds n l) 0 d))->St σ' ι' (C8 H (Fi (Ds n l) 0 d)) F W w'->Conc σ' ι' (C8 H (Fi (Ds n l) 0 d)) (ren (Ds n l) r) v->next (a.put o.dst v) w'):o.wp P a w next Q:=by have c9:=(ok _ _ h0).1;simp only[M6,Gg]at c9;obtain⟨⟨⟨⟨⟨⟨o1,o2⟩,o3⟩,o4⟩,o5⟩,-⟩,-⟩:=c9;have o2:=G0 o2;generalize g5:Ds n l=es at *;(have c3:∀i j,es i=es j->i=j:=λi j e=>by rw[<-g5]at e;exact Aro o1 e);obtain⟨⟨fn,hf,c4,c5⟩,g6⟩:=e9;have e3:=c7 x (by simp[ho,Op.operands,Call.operands,b2]);rw[hx]at e3;obtain⟨vs,hv,hl,e4⟩:=e3.fn_inv;have b3:Ma σ ι H (c.args.toList.map ρ++b1) (c.args.map a.eval++vs):=Afx (λy hy=>c7 y (by simp only[ho,Op.operands,Call.operands,b2];simp at hy⊢;exact .inr hy)) hl e4;(have e5:(execOp a.eval o).run P w=.ok (.enter f (c.args.map a.eval++vs)) w:=by have g7:(callFunc f (c.args.map a.eval++vs)).run P w=.ok (.enter f (c.args.map a.eval++vs)) w:=(by unfold callFunc;simp only[Sem.run_bind,program,Sem.run,Result.andThen_ok,hf,c4,c5,Bool.false_eq_true,if_false,Sem.run_pure]);simp only[execOp,ho,resolve,b2,hv,Deferred.ofValue,invoke,Sem.run_bind,Sem.run_pure,Result.andThen_ok,Array.empty_append,g7]);unfold Oper.wp;rw[e5];simp only[Oper.upon];(have N:∀k,k<L.length->H (es k)=Ke es (hp L k):=by intro k I;have:=c8 _ (mem_append_left _ (Arp (es:=es) (k:=0) (Aa6 I)));simpa using this);(have e6:∀k,L.length<=k->k<m->H (es k)=.none:=by intro k B D;have:=c8 _ (mem_append_right _ (Arr (es:=es) (k:=l.length) (c:=m-l.length) (i:=k-l.length) ω));rwa [show l.length+(k-l.length)=k by omega]at this);let ιl:Cl:=λk=>if k<L.length then ι (es k)else .none;let a3:Nat->Prop:=λb=>∃k,k<L.length/\(hp L k).live=true/\(ι (es k)).block?=some b;let Fl:Bd:=λb=>if σ b=none/\¬a3 b then w.heap[b]? else none;have a6:∀k,k<L.length->ιl k=ι (es k):=λk h=>if_pos h;(have U:∀k,k<L.length->(H (es k)).live=(hp L k).live:=λk h=>by rw[N k h,Afy]);(have b8:∀k,k<L.length->(hp L k).under L.length=true:=by intro k h;have:=Fd.1 o5 _ (F7 (Aa6 h));rw[o2];exact this);(have b9:∀k,k<L.length->∀b,(hp L k).live=true->(ιl k).block?=some b->F b=none/\Fl b=none:=by intro k h b B D;rw[a6 k h]at D;exact⟨(s.block (by rw[U k h];exact B) D).2.2,if_neg λhn=>hn.2 ⟨k,h,B,D⟩⟩);(have sl:St σ ιl (hp L) Fl W w:=by refine⟨s.sto,λb ob hb=>?_,λk=>?_,λk k' b B D V h4=>?_,s.os,s.tape,s.output,s.glo,s.drw⟩;by_cases hc:σ b=none/\¬a3 b;simp only[Fl,if_pos hc]at hb;exact⟨hb,hc.1⟩;simp only[Fl,if_neg hc]at hb;cases hb;by_cases I:k<L.length;refine(Arm (es:=es) a6 N I (b8 k I) λb B D=>?_).1 (s.obj (es k));obtain⟨V,h4⟩:=b9 k I b B D;rw[V,h4];unfold C9;rw[Se ω];exact if_neg I;(have lt:∀k,(hp L k).live=true->k<L.length:=by intro k h;rcases Nat.lt_or_ge k L.length with h'|h';exact h';rw[Se h']at h;cases h);have k1:=lt k B;have k2:=lt k' D;rw[a6 k k1]at V;rw[a6 k' k2]at h4;exact c3 _ _ (s.inj _ _ b (by rw[U k k1];exact B) (by rw[U k' k2];exact D) V h4));(have c6:Ma σ ιl (hp L) a1 (c.args.map a.eval++vs):=by rw[<-ha]at b3;refine⟨by simpa using b3.1,λi b u B D=>?_⟩;have:=b3.2 i (ren es b) u (by simp[B]) D;refine(Arl (es:=es) a6 N ?_).1 this;rw[o2];exact Fd.1 o4 b (F7 B));refine(g6 σ Fl W w ιl (c.args.map a.eval++vs) sl c6).mono ?_;rintro e w' ⟨r,d,v,σ',ι'l,hR,rfl,c0,s',g8⟩;obtain⟨a7,rfl⟩:=ok _ _ hR;simp only[M6,Gg]at a7;obtain⟨⟨⟨⟨-,o3⟩,-⟩,o6⟩,o7⟩:=(⟨⟨⟨⟨a7.1.1.1.1.1,a7.1.1.1.1.2⟩,a7.1.1.1.2⟩,a7.1.2⟩,a7.2⟩:(((_/\_)/\_)/\_)/\_);have o3:=Gz o3;let ι':Cl:=λh=>if hh:∃k,k<d.length/\es k=h then ι'l hh.choose else ι h;(have a8:∀k,k<d.length->ι'l k=ι' (es k):=by intro k h;have hh:∃k',k' < d.length/\es k'=es k:=⟨k,h,rfl⟩;have:hh.choose=k:=c3 _ _ hh.choose_spec.2;simp only[ι',dif_pos hh,this]);(have b4:∀h,(∀k,k<d.length->es k≠h)->ι' h=ι h:=by intro h J;exact dif_neg (λ⟨k,k1,k2⟩=>J k k1 k2));(have a9:∀k,k<d.length->C8 H (Fi es 0 d) (es k)=Ke es (hp d k):=by intro k h;have:=Arq (es:=es) c3 (k:=0) (H:=H) (Aa6 h);simpa using this);(have b5:∀h,(∀k,k<d.length->es k≠h)->C8 H (Fi es 0 d) h=H h:=by intro h J;exact Afz (λi hi=>by simpa using J i hi));have i0:L.length<=d.length:=ω;(have e7:Le σ ι H σ' ι' (C8 H (Fi es 0 d)):=by refine⟨c0.sto,λh=>?_⟩;by_cases hh:∃k,k<d.length/\es k=h;obtain⟨k,I,rfl⟩:=hh;rw[<-a8 k I,a9 k I];by_cases a5:k<L.length;have q:=c0.obj k;rw[a6 k a5]at q;rw[N k a5];refine⟨q.box,λh=>?_,λB E sz xs D=>?_⟩;rw[Ne,Ak8]at h⊢;exact q.some h;rw[Ne,Ak8]at B;rw[Ak9]at D;obtain⟨E0,g9,h7,e0,r0⟩:=q.rows B E sz xs D;exact⟨E0,g9,h7,Ak9.2 e0,r0⟩;have h0:=e6 k ω I;have:ι (es k)=.none:=(by have:=s.obj (es k);unfold C9 at this;rw[h0]at this;exact this);rw[h0,this];exact HLe.of_none;have J:∀k,k<d.length->es k≠h:=λk B D=>hh ⟨k,B,D⟩;rw[b4 h J,b5 h J];exact HLe.refl _ _);(have X:∀b,σ b=none->¬a3 b->∀ob,w.heap[b]?=some ob->w'.heap[b]?=some ob/\σ' b=none/\Fl b=some ob:=by intro b B D ob V;have:Fl b=some ob:=(by simp only[Fl];rw[if_pos ⟨B,D⟩];exact V);exact⟨(s'.fra b ob this).1,(s'.fra b ob this).2,this⟩);(have a4:∀h b,(∀k,k<d.length->es k≠h)->(H h).live=true->(ι h).block?=some b->¬a3 b:=by rintro h b J B D ⟨k,k1,k2,k3⟩;exact J k ω (s.inj _ _ b (by rw[U k k1];exact k2) B k3 D));(have a0:∀b ob,F b=some ob->¬a3 b:=by rintro b ob hb ⟨k,k1,k2,k3⟩;have:=(s.block (by rw[U k k1];exact k2) k3).2.2;rw[this]at hb;cases hb);have b6:∀k,k<d.length->(hp d k).under d.length=true:=λk h=>Fd.1 o7 _ (F7 (Aa6 h));(have h8:St σ' ι' (C8 H (Fi es 0 d)) F W w':=by refine⟨s'.sto,λb ob hb=>?_,λh=>?_,λh h' b B D V h4=>?_,s'.os,s'.tape,s'.output,s'.glo,s'.drw⟩;obtain⟨B,D⟩:=s.fra b ob hb;obtain⟨k1,k2,_⟩:=X b D (a0 b ob hb) ob B;exact⟨k1,k2⟩;by_cases hh:∃k,k<d.length/\es k=h;obtain⟨k,I,rfl⟩:=hh;refine(Arm (es:=es) a8 a9 I (b6 k I) λb B D=>?_).2 (s'.obj k);have c1:=(s'.block B D).2.2;refine⟨λ_=>c1,λ_=>?_⟩;(cases b9:F b with|none=>rfl|some ob=>obtain⟨V,h4⟩:=s.fra b ob b9;have:=(X b h4 (a0 b ob b9) ob V).2.2;rw[c1]at this;cases this);have J:∀k,k<d.length->es k≠h:=λk B D=>hh ⟨k,B,D⟩;have a2:=s.obj h;have b0:=λb B D=>a4 h b J B D;unfold C9 at a2⊢;rw[b5 h J,b4 h J];(cases hx:H h with|none=>rw[hx]at a2;exact a2|dead=>trivial|cells E cs=>rw[hx]at a2 b0;obtain⟨b,C,e1,B,D,V,h4,h5⟩:=a2;obtain⟨k1,k2,_⟩:=X b B (b0 b rfl (by rw[e1];rfl)) _ V;exact⟨b,C,e1,k2,D,k1,h4,λi c v x y=>(h5 i c v x y).mono e7⟩|rows E sz xs=>rw[hx]at a2 b0;obtain⟨z1,z2,⟨e1,e2⟩|⟨b,h9,C,e1,B,D,V,h4,h5,h6⟩⟩:=a2;exact⟨z1,z2,.inl ⟨e1,e2⟩⟩;obtain⟨k1,k2,_⟩:=X b B (b0 b rfl (by rw[e1];rfl)) _ V;exact⟨z1,z2,.inr ⟨b,h9,C,e1,k2,D,k1,h4,h5,h6.mono c0.sto⟩⟩|map l=>rw[hx]at a2 b0;obtain⟨b,M,q,e1,B,D,V,h4⟩:=a2;obtain⟨k1,k2,_⟩:=X b B (b0 b rfl (by rw[e1];rfl)) _ V;exact⟨b,M,q,e1,k2,D,k1,h4.mono c0.sto⟩);have Aa7:∀k,k<d.length->∀h,(∀k,k<d.length->es k≠h)->(C8 H (Fi es 0 d) (es k)).live=true->(C8 H (Fi es 0 d) h).live=true->(ι' (es k)).block?=some b->(ι' h).block?=some b->False:=(by intro k I h J g1 g2 g3 g4;rw[a9 k I,Afy]at g1;rw[b5 h J]at g2;rw[<-a8 k I]at g3;rw[b4 h J]at g4;have c1:=(s'.block g1 g3).2.2;have hb:=s.block g2 g4;have e8:w.heap[b]?=some w.heap[b]:=(by simp[hb.1]);have:=(X b hb.2.1 (a4 h b J g2 g4) _ e8).2.2;rw[c1]at this;cases this);by_cases hh:∃k,k<d.length/\es k=h;obtain⟨k,I,rfl⟩:=hh;by_cases b7:∃k,k<d.length/\es k=h';obtain⟨k',a5,rfl⟩:=b7;rw[a9 k I,Afy]at B;rw[a9 k' a5,Afy]at D;rw[<-a8 k I]at V;rw[<-a8 k' a5]at h4;rw[s'.inj k k' b B D V h4];exact(Aa7 k I h' (λk B D=>b7 ⟨k,B,D⟩) B D V h4).elim;have J:∀k,k<d.length->es k≠h:=λk B D=>hh ⟨k,B,D⟩;by_cases b7:∃k,k<d.length/\es k=h';obtain⟨k',a5,rfl⟩:=b7;exact(Aa7 k' a5 h J D B h4 V).elim;have c2:∀k,k<d.length->es k≠h':=λk B D=>b7 ⟨k,B,D⟩;rw[b5 h J]at B;rw[b5 h' c2]at D;rw[b4 h J]at V;rw[b4 h' c2]at h4;exact s.inj h h' b B D V h4);exact hk r d hR σ' ι' v w' e7 h8 ((Arl (es:=es) a8 a9 o6).2 g8)
theorem Art{n:Nat}{c:Call}{x:Operand}{f:FuncId}{h:Λ AV}{l:Λ Nat}{b:Λ AV}{j:Λ Bt}{r:AV}{g:Λ Bt}(z:o.op=.call c)(i:c.callee=.value x)(d:ρ x=.fn f h)(q:B9 P f b j r g)(B:b.map (ren (Ds n l))=c.args.toList.map ρ++h)(y:M6 n l b j r g=true):Cm P o ρ ⟨ren (Ds n l) r,Fi (Ds n l) 0 j++Cu (Ds n l) l.length (g.length-l.length),Fi (Ds n l) 0 g⟩:=λ_ _ _ _ _ _ _ _ _ s u k D=>A3x z i d q.toR B ⟨rfl,rfl⟩ (λ_ _ e=>⟨by rw[e.1,e.2];exact y,by rw[e.2]⟩) s u k λ_ _ e=>by rw[e.1,e.2];exact D
end
section
variable{P:Program}{T:Dv}{an:Nat->Ann}{n:Nat}{o:Oper}{ρ:Operand->AV}{H:Hp}{K:Eff->Nat->Prop}
variable{r:AV}{b:Bt}{l:Λ Nat}{x y:Operand}{α:Type}{t:TypeId}
theorem G9{b:Bool}{X:Prop}(h:bif b then X else False):b=true/\X:=by cases b with|false=>exact h.elim|true=>exact⟨rfl,h⟩
theorem Af0{x:AV}(h:N1 x=true):x=.val (.slice none 0 0):=by unfold N1 at h;split at h;rfl;cases h
theorem A3y{x:AV}(h:Aa3 x=true):∀d,x≠.val (.agg d):=by intro d e;subst e;cases h
theorem Alb{i:TI}(u:Nat.beq (Gt i).cells.length i.zero.length=true)(d:Aa3 (Gt i)=true)(B:M2 i.size (Gt i)=true):(Gt i).cells=i.zero.map .val:=by have _:=u;have _:=B;unfold Gt at d⊢;cases D:i.d with|struct I=>rfl|_=>rw[D]at d;cases b:i.zero with|nil=>rfl|cons v l=>cases l with|cons _ _=>rfl|nil=>rw[b]at d;cases v<;>first|rfl|cases d
theorem Sf{c:Array α}{x y:α}(h:c.toList=[x,y]):c=#[x,y]:=by apply Array.ext';simpa using h
theorem Xv{c:Array α}{x:α}(h:c.toList=[x]):c=#[x]:=by apply Array.ext';simpa using h
theorem Ux{c:Call}{b:Builtin}{xs:Array Operand}{ts:Array TypeId}(d:c.callee=.builtin b)(u:c.args=xs)(B:c.argTypes=ts):c = {callee:=.builtin b,args:=xs,argTypes:=ts}:=by cases c;simp_all
def Hw(H:Hp)(n:Nat):Prop:=∀m,n<=m->H m=.none
def O3(P:Program)(o:Oper)(ρ:Operand->AV)(H:Hp)(n:Nat)(K:Eff->Nat->Prop):Prop:=∃b m,Cm P o ρ b/\(∀p∈b.rd,H p.1=p.2)/\K b m/\n<=m/\Hw (C8 H b.wr) m
theorem Em(d:Hw H n)(h:Cm P o ρ ⟨r,[],[]⟩)(k:K ⟨r,[],[]⟩ n):O3 P o ρ H n K:=⟨_,n,h,ψ,k,Nat.le_refl _,d⟩
theorem O4(d:Hw H n){x:Nat}(h:Cm P o ρ ⟨r,[(x,b)],[]⟩)(u:H x=b)(k:K ⟨r,[(x,b)],[]⟩ n):O3 P o ρ H n K:=⟨_,n,h,by simpa using u,k,Nat.le_refl _,d⟩
theorem O5(d:Hw H n){x:Nat}{c:Bt}(h:Cm P o ρ ⟨r,[(x,c)],[(x,b)]⟩)(u:H x=c)(f:c≠.none)(k:K ⟨r,[(x,c)],[(x,b)]⟩ n):O3 P o ρ H n K:=by refine⟨_,n,h,by simpa using u,k,Nat.le_refl _,λm B=>?_⟩;(have g:x<n:=by rcases Nat.lt_or_ge x n with h|h;exact h;exact(f (u▸d x h)).elim);show Bg H x b m=_;rw[De _ _ ω];exact d m B
theorem Q4(d:Hw H n)(h:Cm P o ρ ⟨r,[(n,.none)],[(n,b)]⟩)(k:K ⟨r,[(n,.none)],[(n,b)]⟩ (n+1)):O3 P o ρ H n K:=by refine⟨_,n+1,h,by simpa using d n (Nat.le_refl _),k,ω,λm u=>?_⟩;show Bg H n b m=_;rw[De _ _ ω];exact d m ω
theorem Aru{H:Hp}:∀{l:Λ (Nat×Bt)},(∀p∈l,H p.1=p.2)->C8 H l=H
 |[],_=>rfl
 |p::l,h=>by(have e:Bg H p.1 p.2=H:=by funext q;by_cases d:q=p.1;subst d;rw[Cr];exact(h p ψ).symm;exact De _ _ d);show C8 (Bg H p.1 p.2) l=H;rw[e];exact Aru λq d=>h q (by simp[d])
theorem A3z{c:Call}{f:FuncId}{h:Λ AV}{b:Λ AV}{g:Λ Bt}(B:o.op=.call c)(j:c.callee=.value x)(I:ρ x=.fn f h)(u:B9 P f b g r g)(J:b.map (ren (Ds n l))=c.args.toList.map ρ++h)(k:M6 n l b g r g=true):Cm P o ρ ⟨ren (Ds n l) r,Fi (Ds n l) 0 g,[]⟩:=by(intro σ ι H F W w a next Q s y i L);(have G:g.length=l.length:=by simp only[M6,Gg]at k;exact G0 k.1.1.1.1.1.2);have E:g.length-l.length=0:=ω;(refine Art B j I u J k σ ι H F W w a next Q s y (λp hp=>?_) (λz A v w' le d q=>?_));rw[E]at hp;rcases mem_append.1 hp with hp|hp;exact i p hp;simp[Cu]at hp;have D:C8 H (Fi (Ds n l) 0 g)=H:=Aru i;dsimp only at le d q;rw[D]at le d q;exact L z A v w' le d q
theorem A30(B:Hw H n){c:Λ AV}{f b:Λ Bt}(g:M6 n l c f r b=true)(s:P5 H (Fi (Ds n l) 0 f))(h:Cm P o ρ ⟨ren (Ds n l) r,Fi (Ds n l) 0 f++Cu (Ds n l) l.length (b.length-l.length),Fi (Ds n l) 0 b⟩)(k:K ⟨ren (Ds n l) r,Fi (Ds n l) 0 f++Cu (Ds n l) l.length (b.length-l.length),Fi (Ds n l) 0 b⟩ (n+(b.length-l.length))):O3 P o ρ H n K:=by simp only[M6,Gg]at g;have j:=g.1.1.1.1.1.1;have u:=Gz g.1.1.1.1.2;refine⟨_,n+(b.length-l.length),h,λp hp=>?_,k,ω,λq D=>?_⟩;rcases mem_append.1 hp with hp|hp;exact s.spec p hp;obtain⟨i,hi,rfl⟩:=Ars hp;refine B _ ?_;show n<=Ds n l (l.length+i);rw[Aa5 ω];omega;show C8 H (Fi (Ds n l) 0 b) q=.none;rw[Afz λi hi e=>?_];exact B q ω;rcases Nat.lt_or_ge (0+i) l.length with d|d;have:=Arn j d;omega;have:=Aa5 (n:=n) d;omega
theorem A31(g:Dx P T)(u:Hw H n)(f:o.op=.load t x)(h:sop P T an n o ρ H K):O3 P o ρ H n K:=by unfold sop at h;rw[f]at h;dsimp only at h;split at h;rename_i i B;split at h;rename_i cs d;(cases b:i.isAgg with|true=>rw[b]at h;simp only[cond_true]at h;obtain⟨D,I⟩:=G9 h;exact Em u (A1f g f B b d (Gz D)) I|false=>rw[b]at h;simp only[cond_false]at h;split at h;exact Em u (A1e g f B b d) h;exact h.elim);rename_i N off d;split at h;rename_i E cs l;(cases b:i.isAgg with|true=>rw[b]at h;simp only[cond_true]at h;obtain⟨D,I⟩:=G9 h;exact O4 u (A1h g f B b d (Gz D)) l I|false=>rw[b]at h;simp only[cond_false]at h;split at h;rename_i c J;exact O4 u (A1g g f B b d J) l h;exact h.elim);exact h.elim;rename_i N k q j d;split at h;rename_i E sz xs l;obtain⟨y,L,M,h⟩:=h;(cases b:i.isAgg with|true=>rw[b]at h;simp only[cond_true]at h;obtain⟨D,I⟩:=G9 h;exact O4 u (A1j g f B b d L M (Gz D)) l I|false=>rw[b]at h;simp only[cond_false]at h;split at h;rename_i c J;exact O4 u (A1i g f B b d L M J) l h;exact h.elim);exact h.elim;exact h.elim;exact h.elim
theorem A32(g:Dx P T)(D:Hw H n)(c:o.op=.store t x y)(h:sop P T an n o ρ H K):O3 P o ρ H n K:=by unfold sop at h;rw[c]at h;dsimp only at h;split at h;rename_i i I;split at h;rename_i J off B;split at h;rename_i E cs f;obtain⟨d,u⟩:=G9 h;simp only[Gg]at d;exact O5 D (A1l g c I B (G0 d.1.1) (Gz d.1.2) d.2) f (by intro e;cases e) u;exact h.elim;rename_i J k q j B;split at h;rename_i E sz xs f;obtain⟨z,L,l,h⟩:=h;obtain⟨d,u⟩:=G9 h;simp only[Gg]at d;obtain⟨⟨⟨⟨M,N⟩,R⟩,U⟩,V⟩:=d;rw[Afu,Afv]at u;obtain⟨s,b,u⟩:=u;subst b;exact O5 D (A1n g c I B L l (G0 M) (Gz N) (Gz R) U (A3y V)) f (by intro e;cases e) u;exact h.elim;exact h.elim;exact h.elim
theorem A33(j:Dx P T)(N:Hw H n){op:BinOp}{l:TypeId}(f:o.op=.binOp op t x y l)(h:sop P T an n o ρ H K):O3 P o ρ H n K:=by unfold sop at h;rw[f]at h;dsimp only at h;split at h;rename_i k a g b d J;split at h;obtain⟨c,L,M,U⟩:=h;exact Em N (A1x f d J L M) U;obtain⟨c,L,M,U⟩:=h;exact Em N (A1w f d J L M) U;replace h:=G9 h;obtain⟨V,h⟩:=h;have V:k=g:=(by simpa using V);subst V;split at h;obtain⟨c,L,M⟩:=h;exact Em N (A1p f d J L) M;obtain⟨c,L,M⟩:=h;exact Em N (A1q f d J L) M;obtain⟨c,L,M⟩:=h;exact Em N (A1r f d J L) M;obtain⟨c,L,M,U⟩:=h;exact Em N (A1s f d J L M) U;obtain⟨c,L,M,U⟩:=h;exact Em N (A1t f d J L M) U;split at h;rename_i i R;exact Em N (A1u f d J R) h;split at h;rename_i c hc;exact Em N (A1v f d J hc) h;exact h.elim;rename_i a b d J;split at h;rename_i u s q X;split at h;rename_i i R;exact Em N (A10 j f X rfl d J R) h;exact h.elim;exact h.elim;rename_i k a g b d J;replace h:=G9 h;obtain⟨V,h⟩:=h;have V:k=g:=(by simpa using V);subst V;obtain⟨c,L,M⟩:=h;exact Em N (A17 f d J L) M;rename_i a b d J;split at h;obtain⟨L,M⟩:=h;exact Em N (A13 f d J L) M;split at h;rename_i i R;exact Em N (A12 f d J R) h;exact h.elim;rename_i p D B A z d J;split at h;split at h;rename_i I G E e4 X;exact Em N (A11 j f X rfl d J) h;exact h.elim;exact h.elim;exact h.elim
theorem A34(q:Dx P T)(L:Hw H n){lo hi:Ο Operand}(i:o.op=.slice t x lo hi none)(h:sop P T an n o ρ H K):O3 P o ρ H n K:=by unfold sop at h;rw[i]at h;dsimp only at h;split at h;rename_i e A z y I;split at h;rename_i B M;split at h;rename_i sz xs D;split at h;rename_i u U c f;replace h:=G9 h;obtain⟨N,h⟩:=h;obtain⟨l,j,ys,el,b,J,d,V,k⟩:=h;subst el;subst b;subst V;exact Em L (A2o q i I rfl M (G0 N) D c f J d) k;exact h.elim;rename_i hd k off len D;split at h;rename_i E sz xs g;split at h;rename_i u U c f;replace h:=G9 h;obtain⟨N,h⟩:=h;(cases h with|mk l j R el b J d X k=>subst el;subst b;exact O4 L (A2q q i I rfl M (G0 N) D R c f J d X) g k|mkE l R el b d k=>subst el;subst b;exact O4 L (A3c q i I rfl M D R c f d) g k);exact h.elim;exact h.elim;exact h.elim;exact h.elim;rename_i A z y I;split at h;rename_i s D;split at h;rename_i u U c f;obtain⟨l,j,el,b,J,d,k⟩:=h;subst el;subst b;exact Em L (A2p q i I rfl D c f J d) k;exact h.elim;exact h.elim;exact h.elim
theorem A35(B:Dx P T)(hn:Hw H n){c:Call}(u:o.op=.call c)(h:sop P T an n o ρ H K):O3 P o ρ H n K:=by unfold sop at h;rw[u]at h;dsimp only at h;split at h;rename_i x i;split at h;rename_i f ac d;split at h;rename_i j ag;split at h;rename_i hd k len hj;split at h;rename_i E sz xs A;obtain⟨hk,G,r,hp,hf,h⟩:=h;subst hk;rw[<-G]at hj;exact O5 hn (A3u u i d hj hp hf) A (by intro e;cases e) h;exact h.elim;exact h.elim;(cases h with|mk r hp hf k=>exact Em hn (A3s u i d hp hf) k|ext r hp hf k=>exact Em hn (A3t u i d hp hf) k|act l N hs r af hp ha ok A k=>exact A30 hn ok A (Art u i d hp ha ok) k|rd l N hs r hp ha ok A k=>exact⟨_,n,A3z u i d hp ha ok,λp hp=>A.spec p hp,k,Nat.le_refl _,hn⟩);exact h.elim;exact h.elim;rename_i i;split at h;rename_i x t ha z;rw[Ux i (Xv ha) (Xv z)]at u;split at h;rename_i e X V U ht;split at h;rename_i sz xs d;split at h;obtain⟨c,hc,h⟩:=h;subst hc;exact Em hn (Aqq B u ht rfl d) h;exact Em hn (Aqq B u ht rfl d) h;rename_i p m a2 d;exact Em hn (A2e B u ht rfl d) h;rename_i hd m d;exact Em hn (A2k B u ht rfl d) h;rename_i hd k off len d;split at h;rename_i E sz xs A;obtain⟨hk,h⟩:=h;exact O4 hn (A2h B u ht rfl d hk) A h;exact h.elim;exact h.elim;rename_i X V U ht;split at h;rename_i s d;exact Em hn (A2g B u ht rfl d) h;exact h.elim;exact h.elim;exact h.elim;rename_i i;split at h;rename_i x t ha z;rw[Ux i (Xv ha) (Xv z)]at u;split at h;rename_i e X V U ht;split at h;rename_i p m a2 d;exact Em hn (A2f B u ht rfl d) h;exact h.elim;exact h.elim;exact h.elim;rename_i i;split at h;rename_i x y t t' ha z;rw[Ux i (Sf ha) (Sf z)]at u;split at h;rename_i e X V U ht;split at h;rename_i Y he;split at h;rename_i h2 k2 a1 a6 hy;split at h;rename_i hd k off len d;split at h;rename_i E sz xs A;replace h:=G9 h;obtain⟨g5,h⟩:=h;simp only[Gg]at g5;have I:=G0 g5.1.1.1;have L:=G0 g5.1.1.2;have e3:=G0 g5.1.2;have e4:0<Y.size:=Gz g5.2;subst I;subst L;subst e3;obtain⟨M,c,hk,G,S,R,D,hc,k⟩:=h;subst D;subst hc;exact O5 hn (A3a B u ht rfl he e4 d hk G hy S R) A (by intro e;cases e) k;exact h.elim;rename_i q d;split at h;rename_i E sz xs A;replace h:=G9 h;obtain⟨g5,h⟩:=h;have I:=G0 g5;subst I;obtain⟨hk,k⟩:=h;exact O4 hn (A3b B u ht rfl he d hy hk) A k;exact h.elim;exact h.elim;exact h.elim;exact h.elim;exact h.elim;exact h.elim;rename_i i;split at h;rename_i x t ha z;rw[Ux i (Xv ha) (Xv z)]at u;split at h;rename_i e X V U ht;split at h;rename_i Y he;split at h;rename_i hd k off len d;split at h;rename_i E sz xs A;replace h:=G9 h;obtain⟨g5,h⟩:=h;simp only[Gg]at g5;have I:=G0 g5.1.1.1.1.1;have L:=G0 g5.1.1.1.1.2;have e3:0<Y.size:=Gz g5.1.1.1.2;subst I;subst L;obtain⟨M,hk,G,D,k⟩:=h;subst D;exact O5 hn (A3d B u ht rfl he e3 g5.1.1.2 (Alb g5.1.2 g5.2 g5.1.1.2) d hk G) A (by intro e;cases e) k;exact h.elim;rename_i q d;exact Em hn (A3e B u ht rfl d) h;exact h.elim;exact h.elim;exact h.elim;exact h.elim;rename_i i;split at h;rename_i x y t t' ha z;rw[Ux i (Sf ha) (Sf z)]at u;split at h;rename_i e X V U e' aa a8 a7 ht a0;split at h;rename_i Y he;replace h:=G9 h;obtain⟨g,h⟩:=h;simp only[Gg]at g;obtain⟨⟨g1,g2⟩,g3⟩:=g;have g1:0<Y.size:=Gz g1;have g2:=G0 g2;have g3:=Gz g3;split at h;rename_i sz ys hy;replace h:=G9 h;obtain⟨g4,h⟩:=h;have g4:=G0 g4;subst g4;split at h;rename_i hd k len d;split at h;rename_i E Z xs A;replace h:=G9 h;obtain⟨g5,h⟩:=h;simp only[Gg]at g5;have I:=G0 g5.1;have L:=G0 g5.2;subst I;subst L;split at h;(cases h with|mk M m hk G hb D hm k=>subst G;subst D;exact O5 hn (A27 (Aqx B u ht rfl a0 rfl he g1 g2 g3 d hk hy hb) (by simp[hk])) A (by intro e;cases e) k|mkP M k' m hk G hb D J hm k=>exact k.elim);(cases h with|mk M m hk G hb D hm k=>subst G;subst D;subst hm;exact O5 hn (Aqx B u ht rfl a0 rfl he g1 g2 g3 d hk hy hb) A (by intro e;cases e) k|mkP M k' m hk G hb D J hm k=>subst D;subst hm;subst J;exact O5 hn (A25 B u ht rfl a0 rfl he g1 g2 g3 d hk G hy hb) A (by intro e;cases e) k);exact h.elim;rename_i d;obtain⟨M,m,hb,D,hm,k⟩:=h;subst D;subst hm;exact Q4 hn (A21 B n u ht rfl a0 rfl he g1 g2 g3 d hy hb) k;rename_i ae ad d;obtain⟨ab,k⟩:=h;subst ab;exact Em hn (A28 B u ht rfl a0 rfl he g1 d hy) k;exact h.elim;rename_i h2 k2 a1 a6 hy;split at h;rename_i hd k len d;split at h;rename_i E Z xs A;replace h:=G9 h;obtain⟨g5,h⟩:=h;simp only[Gg]at g5;have I:=G0 g5.1.1;have L:=G0 g5.1.2;have e3:=G0 g5.2;subst I;subst L;subst e3;obtain⟨M,k',m,hk,G,S,R,hb,D,J,hm,k⟩:=h;subst D;subst hm;subst J;exact O5 hn (A29 B u ht rfl a0 rfl he g1 g2 g3 d hk G hy S R hb) A (by intro e;cases e) k;exact h.elim;exact h.elim;exact h.elim;exact h.elim;rename_i e X V U aa a8 a7 ht a0;split at h;rename_i Y he;replace h:=G9 h;obtain⟨g,h⟩:=h;simp only[Gg]at g;obtain⟨⟨g1,g2⟩,g3⟩:=g;have g1:=G0 g1;have g2:=G0 g2;have g3:=Gz g3;split at h;rename_i s hy;split at h;rename_i hd k len d;split at h;rename_i E Z xs A;replace h:=G9 h;obtain⟨g5,h⟩:=h;simp only[Gg]at g5;have I:=G0 g5.1;have L:=G0 g5.2;subst I;subst L;obtain⟨_,_,_,_,_,_,_,_,_,k⟩|⟨M,m,hk,G,hb,D,hm,k⟩:=h;exact k.elim;subst G;subst D;subst hm;exact O5 hn (A20 B u ht rfl a0 rfl he g1 g2 g3 d hk hy hb) A (by intro e;cases e) k;exact h.elim;exact h.elim;exact h.elim;exact h.elim;exact h.elim;exact h.elim;rename_i i;split at h;rename_i x y t t' ha z;rw[Ux i (Sf ha) (Sf z)]at u;split at h;rename_i k a k' b d hy;exact Em hn (A23 u d hy) h;exact h.elim;exact h.elim;rename_i i;split at h;rename_i x y t t' ha z;rw[Ux i (Sf ha) (Sf z)]at u;split at h;rename_i k a k' b d hy;exact Em hn (A24 u d hy) h;exact h.elim;exact h.elim;exact h.elim
theorem A36(A:Dx P T)(hn:Hw H n)(h:sop P T an n o ρ H K):O3 P o ρ H n K:=by cases u:o.op with|load t x=>exact A31 A hn u h|store t x y=>exact A32 A hn u h|binOp op t x y yt=>exact A33 A hn u h|call c=>exact A35 A hn u h|slice t x lo hi mx=>(cases mx with|none=>exact A34 A hn u h|some m=>unfold sop at h;rw[u]at h;exact h.elim)|move x=>unfold sop at h;rw[u]at h;exact Em hn (A09 u) h|assign x=>(unfold sop at h;rw[u]at h;dsimp only at h;split at h;exact Em hn (Xn u) h;split at h;exact Em hn (Xn u) h;exact Em hn (Xn u) h;exact Em hn (Xn u) h;exact Em hn (Xn u) h;cases hb:N1 (ρ x)with|false=>rw[hb]at h;exact Em hn (Xn u) h|true=>rw[hb]at h;simp only[cond_true]at h;split at h;rename_i e D B G ht;split at h;rename_i R he;replace h:=G9 h;obtain⟨g1,h⟩:=h;exact Q4 hn (A22 A n u (Af0 hb) ht rfl he (Gz g1)) h;exact h.elim;exact h.elim)|pick c a b=>unfold sop at h;rw[u]at h;dsimp only at h;split at h;rename_i t hc;exact Em hn (A1a u hc) h;exact h.elim|alloc t=>unfold sop at h;rw[u]at h;dsimp only at h;split at h;rename_i i ht;exact Q4 hn (A1c A n u ht) h;exact h.elim|box t x=>unfold sop at h;rw[u]at h;exact Q4 hn (A1d n u) h|build t parts=>unfold sop at h;rw[u]at h;dsimp only at h;split at h;rename_i fs D B z ht;split at h;rename_i cs hc;exact Em hn (A2r A u ht rfl hc) h;exact h.elim;exact h.elim|buildSlice t len parts=>unfold sop at h;rw[u]at h;dsimp only at h;split at h;rename_i e D B G ht;split at h;rename_i R he;replace h:=G9 h;obtain⟨g,h⟩:=h;simp only[Gg]at g;obtain⟨⟨⟨g1,g2⟩,g3⟩,g4⟩:=g;have g2:parts.toList.map (·.1)=range' 0 len:=(by simpa using g2);have g4:∀p∈parts.toList,M2 R.size (ρ p.2)=true:=Fd.1 g4;split at h;exact h.elim;exact h.elim;rw[Afw]at h;exact Em hn (Aqu A u ht rfl he (Gz g1) g2 (Gz g3) g4) h;rw[Afw]at h;exact Em hn (Aqu A u ht rfl he (Gz g1) g2 (Gz g3) g4) h;rw[Afw]at h;exact Q4 hn (A2t A n u ht rfl he (Gz g1) g2 (Gz g3) g4) h;exact h.elim;exact h.elim|nilCheck x=>unfold sop at h;rw[u]at h;dsimp only at h;replace h:=G9 h;obtain⟨g1,h⟩:=h;exact Em hn (A1o u g1) h|unOp op t x=>unfold sop at h;rw[u]at h;dsimp only at h;split at h;rename_i b hx;exact Em hn (A14 u hx) h;rename_i k m hx;obtain⟨c,h1,h2⟩:=h;exact Em hn (A15 u hx h1) h2;exact h.elim|convert s d x=>unfold sop at h;rw[u]at h;dsimp only at h;split at h;rename_i i k D B G I m hs hd hx;obtain⟨c,h1,h2⟩:=h;exact Em hn (A16 A u hs hd rfl hx h1) h2;rename_i v0 k0 D B G k1 m h1 h2 hx;exact Em hn (A18 A u h1 h2 rfl hx) h;rename_i v0 k0 D B G q m h1 h2 hx;obtain⟨c,g1,g2⟩:=h;exact Em hn (A19 A u h1 h2 rfl hx g1) g2;exact h.elim|makeFunc fn first X=>(cases fn with|func f=>unfold sop at h;rw[u]at h;dsimp only at h;replace h:=G9 h;obtain⟨g1,h⟩:=h;(have:first=#[]:=by simpa using g1);subst this;exact Em hn (A2n u) h|_=>unfold sop at h;rw[u]at h;exact h.elim)|makeSlice t x y=>unfold sop at h;rw[u]at h;dsimp only at h;split at h;rename_i e D B G ht;split at h;rename_i R he;split at h;rename_i k l I c hx hy;split at h;rename_i m hm;split at h;rename_i v hv;replace h:=G9 h;obtain⟨g,h⟩:=h;simp only[Gg]at g;obtain⟨⟨⟨⟨g1,g2⟩,g3⟩,g4⟩,g5⟩:=g;have g4:=of_decide_eq_true g4;have g5:=of_decide_eq_true g5;subst g4;subst g5;exact Q4 hn (A2u A n u ht rfl he (G0 g1) hv hx hy (Gz g3) (Gz g2)) h;exact h.elim;replace h:=G9 h;obtain⟨g,h⟩:=h;simp only[Gg]at g;obtain⟨⟨⟨g1,g2⟩,g3⟩,g4⟩:=g;(rcases h with⟨l',c',Y,el,ec,h1,h2,h3,N,k⟩|⟨Z,U,l',c',Y,el,ec,h1,h2,h3,N,k⟩);subst el;subst ec;subst N;exact Q4 hn (A2v A n u ht rfl he (Gz g1) hx hy h1 h2 h3 g2 (Alb g3 g4 g2)) k;subst el;subst ec;subst N;exact Q4 hn (A2w A Z n u ht rfl he (Gz g1) hx hy h1 h2 h3 g2 (Alb g3 g4 g2) U) k;exact h.elim;exact h.elim;exact h.elim|fieldAddr s x f=>unfold sop at h;rw[u]at h;dsimp only at h;split at h;rename_i fs D B G ht;split at h;rename_i q M;split at h;rename_i hd off hx;exact Em hn (A2b A u ht rfl M hx) h;rename_i cs hx;exact Em hn (A2c A u ht rfl M hx) h;rename_i hd k m j hx;split at h;rename_i E sz xs L;obtain⟨hk,h⟩:=h;exact O4 hn (A2d A u ht rfl M hx hk) L h;exact h.elim;exact h.elim;exact h.elim;exact h.elim|indexAddr t x y=>unfold sop at h;rw[u]at h;dsimp only at h;split at h;rename_i e D B G ht;split at h;rename_i R he;split at h;rename_i hd m k i hx hy;replace h:=G9 h;obtain⟨g1,h⟩:=h;obtain⟨q,hi,hq,I⟩:=h;subst hi;exact Em hn (A2j A u ht rfl he (G0 g1) hx hy hq) I;rename_i sz xs k i hx hy;replace h:=G9 h;obtain⟨g1,h⟩:=h;obtain⟨m,z,hi,N,I⟩:=h;subst hi;exact Em hn (A2i A u ht rfl he (G0 g1) hx hy N) I;rename_i hd k off len kk i hx hy;split at h;rename_i E sz xs L;replace h:=G9 h;obtain⟨g1,h⟩:=h;obtain⟨m,hk,hi,hm,I⟩:=h;subst hi;exact O4 hn (A2l A u ht rfl he hx hk hy hm (G0 g1)) L I;exact h.elim;exact h.elim;exact h.elim;exact h.elim|index t x y=>unfold sop at h;rw[u]at h;dsimp only at h;split at h;rename_i D B G ht;split at h;rename_i s k i hx hy;obtain⟨m,c,hi,hc,I⟩:=h;subst hi;exact Em hn (A2m A u ht rfl hx hy hc) I;exact h.elim;exact h.elim|field t x f=>unfold sop at h;rw[u]at h;dsimp only at h;split at h;rename_i fs D B G ht;split at h;rename_i q hq;split at h;rename_i cs hx;obtain⟨ft,M,h⟩:=h;split at h;rename_i V he;(cases J:V.isAgg with|true=>rw[J]at h;simp only[cond_true]at h;obtain⟨h1,h2⟩:=G9 h;exact Em hn (Aq1 A u ht rfl hq M he hx (.inl ⟨J,Gz h1,rfl⟩)) h2|false=>rw[J]at h;simp only[cond_false]at h;split at h;rename_i c hc;exact Em hn (Aq1 A u ht rfl hq M he hx (.inr ⟨J,hc⟩)) h;exact h.elim);exact h.elim;exact h.elim;exact h.elim;exact h.elim|makeMap t r=>(cases r with|none=>unfold sop at h;rw[u]at h;exact Q4 hn (A3f n u) h|some q=>unfold sop at h;rw[u]at h;exact h.elim)|lookup t x y ok=>unfold sop at h;rw[u]at h;dsimp only at h;split at h;rename_i kt et D B G ht;split at h;rename_i q1 q2 q3 hk;split at h;rename_i V he;split at h;rename_i hd hx;split at h;rename_i s hy;split at h;rename_i es L;obtain⟨r,S,h⟩:=h;exact O4 hn (A3h A u ht rfl hk rfl he hx hy S) L h;exact h.elim;exact h.elim;exact h.elim;exact h.elim;exact h.elim;exact h.elim|mapUpdate t x y z=>unfold sop at h;rw[u]at h;dsimp only at h;split at h;rename_i kt et D B G ht;split at h;rename_i q1 q2 q3 hk;split at h;rename_i hd hx;split at h;rename_i s hy;split at h;rename_i es L;obtain⟨g1,h⟩:=G9 h;rw[Afv]at h;obtain⟨a1,S,h⟩:=h;exact O5 hn (A3i A u ht rfl hk rfl hx hy g1 S) L (by intro e;cases e) h;exact h.elim;exact h.elim;exact h.elim;exact h.elim;exact h.elim|extract x i=>unfold sop at h;rw[u]at h;dsimp only at h;split at h;rename_i cs hx;split at h;rename_i c hc;exact Em hn (A2a u hx hc) h;exact h.elim;exact h.elim|_=>unfold sop at h;rw[u]at h;exact h.elim
end
variable{x:AV}{σ:Bd}{t:Bool}{ι:Cl}{H:Hp}{l:Λ (Nat×Nat)}{sz:Nat}{A:Prop}{v:Value}
theorem Ha{B:Prop}(h:t=true)(k:A):bif t then A else B:=by rw[h];exact k
theorem Alc{B:Prop}(h:t=false)(k:B):bif t then A else B:=by rw[h];exact k
abbrev Lr:=List (List Nat×List Nat)
def N2(l:Λ (Nat×Nat)):Nat->Λ AV->Λ AV
 |_,[]=>[]
 |i,x::xs=>(bif N1 x then(match l.lookup i with|some sz=>.sl sz []|none=>x)else x)::N2 l (i+1) xs
def elN(l:Λ (Nat×Nat))(x:AV):AV:=match x with|.val (.agg d)=>.agg (N2 l 1000 (d.toList.map .val))|.agg cs=>.agg (N2 l 1000 cs)|x=>x
def Aa8(l:Λ (Nat×Nat))(x:AV):AV:=match l with
 |[]=>x
 |p::l=>match x with
  |.sl sz xs=>bif Nat.ble 1000 p.1 then .sl sz (xs.map (elN (p::l)))else .sl sz xs
  |.agg cs=>.agg (N2 (p::l) 0 cs)
  |x=>bif N1 x then .sl p.2 []else x
def Ald(nl:Nat->Λ (Nat×Nat)):Ο Nat->Λ (Nat×Nat)
 |none=>[]
 |some d=>nl d
theorem Af1(d:N1 x=true)(h:Conc σ ι H x v):Conc σ ι H (.sl sz []) v:=by rw[Af0 d]at h;rw[h.val_inv];exact .cc (.nil sz none 0)
theorem Ale{l:Λ (Nat×Nat)}:∀{cs:Λ AV}{i k:Nat}{c:AV},(N2 l k cs)[i]?=some c->∃d,cs[i]?=some d/\(c=d\/(N1 d=true/\∃sz,c=.sl sz []))
 |[],i,k,c,h=>by simp[N2]at h
 |x::xs,0,k,c,h=>by simp only[N2,getElem?_cons_zero,Option.some.injEq]at h;refine⟨x,rfl,?_⟩;cases u:N1 x with|false=>rw[u]at h;exact .inl h.symm|true=>rw[u]at h;simp only[cond_true]at h;split at h;rename_i sz _;exact .inr ⟨rfl,sz,h.symm⟩;exact .inl h.symm
 |x::xs,i+1,k,c,h=>by simp only[N2,getElem?_cons_succ]at h;obtain⟨d,B,D⟩:=Ale h;exact⟨d,by simpa using B,D⟩
theorem Alf{l:Λ (Nat×Nat)}:∀{cs:Λ AV}{k:Nat},(N2 l k cs).length=cs.length
 |[],_=>rfl
 |x::xs,k=>by simp only[N2,length_cons,Alf]
theorem A37:(elN l x).cells.length=x.cells.length/\∀(j:Nat)(c b:AV)(u:Value),x.cells[j]?=some c->(elN l x).cells[j]?=some b->CC σ c u->CC σ b u:=by(have d:∀cs:Λ AV,(N2 l 1000 cs).length=cs.length/\∀(j:Nat)(c b:AV)(u:Value),cs[j]?=some c->(N2 l 1000 cs)[j]?=some b->CC σ c u->CC σ b u:=by intro cs;refine⟨Alf,λj c b u D I B=>?_⟩;obtain⟨M,J,rfl|⟨L,sz,rfl⟩⟩:=Ale I;rw[D]at J;cases J;exact B;rw[D]at J;cases J;rw[Af0 L]at B;cases B;exact .nil sz none 0);unfold elN;split;exact d _;exact d _;exact⟨rfl,λj c b u D I B=>by rw[D]at I;cases I;exact B⟩
theorem CC.mapEl{xs:Λ AV}(f:AV->AV)(B:∀x,(f x).cells.length=x.cells.length/\∀(j:Nat)(c k:AV)(u:Value),x.cells[j]?=some c->(f x).cells[j]?=some k->CC σ c u->CC σ k u)(h:CC σ (.sl sz xs) v):CC σ (.sl sz (xs.map f)) v:=by cases h with|nil sz a cap=>exact .nil sz a cap|sl _ b off cap _ C E fr g D G hc h1 J I s=>have q:(xs.map f).length=xs.length:=ψ;have l:∀(i:Nat)(y:AV)(j:Nat)(k:AV),(xs.map f)[i]?=some y->y.cells[j]?=some k->∃x c,xs[i]?=some x/\x.cells[j]?=some c/\y=f x:=(by intro i y j k d L;rw[getElem?_map]at d;cases hx:xs[i]? with|none=>rw[hx]at d;cases d|some x=>rw[hx]at d;cases d;have M:j<x.cells.length:=(by rw[<-(B x).1];exact(G7.1 L).1);exact⟨x,x.cells[j],rfl,getElem?_eq_getElem M,rfl⟩);rw[<-q];refine .sl (xs.map f) b off cap sz C E fr g D ?_ ?_ ?_ (λi j hi M=>J i j (by simpa using hi) M) (by simpa using I) (by simpa using s);intro i y hy;rw[getElem?_map]at hy;(cases hx:xs[i]? with|none=>rw[hx]at hy;cases hy|some x=>rw[hx]at hy;cases hy;rw[(B x).1];exact G i x hx);intro i y j k d L;obtain⟨x,c,A,z,rfl⟩:=l i y j k d L;exact(B x).2 j c k _ z L (hc i x j c A z);intro i y j k d L;obtain⟨x,c,A,z,rfl⟩:=l i y j k d L;exact h1 i x j c A z
theorem A38(h:Conc σ ι H x v):Conc σ ι H (Aa8 l x) v:=by unfold Aa8;split;exact h;split;rename_i _ p l _ sz xs;(cases L:Nat.ble 1000 p.1 with|false=>exact h|true=>exact .cc (h.sl_inv.mapEl _ λx=>A37));rename_i cs;obtain⟨D,rfl,f,b⟩:=h.agg_inv;refine .agg _ D (by rw[Alf];exact f) λi c u I d=>?_;obtain⟨M,B,rfl|⟨g,sz,rfl⟩⟩:=Ale I;exact b i _ u B d;exact Af1 g (b i _ u B d);cases J:N1 x with|false=>exact h|true=>exact Af1 J h
theorem Cm.nils{P:Program}{o:Oper}{ρ:Operand->AV}{b:Eff}(l:Λ (Nat×Nat))(h:Cm P o ρ b):Cm P o ρ ⟨Aa8 l b.r,b.rd,b.wr⟩:=λσ ι H F W w a next Q s hx g hk=>h σ ι H F W w a next Q s hx g λc f v w' le d hc=>hk c f v w' le d (A38 hc)
def Alg(e:Ck)(d:Ο Nat)(r:AV)(H:Hp)(b:Λ (Nat×Bt))(K:Ck->Hp->Prop):Prop :=
 match d with
 |none=>
  (match b with
  |[]=>K e H
  |[p]=>K e (Bg H p.1 p.2)
  |p::q::l=>K e (C8 H (p::q::l)))
 |some t=>
  (match b with
  |[]=>K (Bg e t r) H
  |[p]=>K (Bg e t r) (Bg H p.1 p.2)
  |p::q::l=>K (Bg e t r) (C8 H (p::q::l)))
theorem Arv(e:Ck)(d:Ο Nat)(r:AV)(H:Hp)(b:Λ (Nat×Bt))(K:Ck->Hp->Prop):Alg e d r H b K=K (put e d r) (C8 H b):=by cases d<;>cases b with|nil=>rfl|cons p l=>cases l<;>rfl
inductive P7(ops:List Oper)(acc:Lr)(K:Prop):Prop where
 |mk(h:Akz ops acc=true)(k:K)
inductive Ex where
 |normal
 |exit(id:Nat)
 |ret
def Ir(e:Ck):Λ (Nat×AV)->Prop
 |[]=>True
 |p::l=>e p.1=p.2/\Ir e l
def Is(H H':Hp):Nat->Nat->Prop
 |0,_=>True
 |k+1,n=>(H k=H' k/\(H' k).under n=true)/\Is H H' k n
def Mb(b:Λ Nat)(e:Ck)(u:Nat->Value)(l:Λ (Nat×AV)):Ck:=l.foldr (λp e=>Bg e p.1 p.2) (b.foldr (λs e=>Bg e s (.val (u s))) e)
def N3(n:Nat)(b:Λ (Nat×AV))(c:Λ (Nat×Bt)):Bool:=(b.all λp=>p.2.under n)&&c.all λp=>Nat.blt p.1 n
def Ig:Code->Λ Nat
 |.region _ ops _=>ops.toList.filterMap (·.dst)
 |.seq a b=>Ig a++Ig b
 |.cond _ a b=>Ig a++Ig b
 |.block _ b=>Ig b
 |.loop b=>Ig b
 |.scope b=>Ig b
 |_=>[]
structure Cfg where
 T:Dv
 an:Nat->Ann:=λ_=>.std
 gh:Nat->List Nat:=λ_=>[]
 nl:Nat->List (Nat×Nat):=λ_=>[]
def Arw(N:Nat)(x:Operand):Bool:=match x with|.tmp t=>Nat.blt t N|_=>true
def N4(N:Nat):Code->Bool
 |.region _ ops _=>ops.toList.all λo=>(M4 ops o).all λs=>Nat.blt s N
 |.seq a b=>N4 N a&&N4 N b
 |.cond c a b=>Arw N c&&N4 N a&&N4 N b
 |.block _ b=>N4 N b
 |.loop b=>N4 N b
 |.scope b=>N4 N b
 |_=>true
def Ex.out:Ex->Exit
 |.normal=>.normal
 |.exit id=>.exit id
 |.ret=>.ret
section
variable{P:Program}{T:Dv}{an:Nat->Ann}{nl:Nat->Λ (Nat×Nat)}{ops:Array Oper}{F:Bd}{W:World}{Q:Exit->Act->World->Prop}
theorem Arx{α:Type}{e:Nat->α}{s:Nat}{v:α}(h:e s=v):Bg e s v=e:=by subst h;exact Jv e s
end
section
variable{P:Program}{C:Cfg}{F:Bd}{W:World}
variable{x:AV}{n:Nat}
theorem A39{c:Code}{Q:Exit->Act->World->Prop}{a:Act}{w:World}(J:Nat->Act->World->Prop)(k0:Nat)(h0:J k0 a w)(g:∀k a w,J k a w->c.wp P (Exit.then (λq w'=>∃s,s<k/\J s q w') Q) a w):(Code.loop c).wp P Q a w:=by intro b u cs;(have L:∀k a w,J k a w->∃e q w',Q e q w'/\Arrives P (lone (b.at a (.code c::.inLoop c::u)) cs w) b u cs e q w':=by intro k;induction k using Nat.strongRecOn with|_ k ih=>intro a w D;obtain⟨e,j,i,d,f⟩:=g k a w D b (.inLoop c::u) cs;cases e with|normal=>obtain⟨s,z,A⟩:=d;obtain⟨E,G,B,y,h⟩:=ih s z j i A;exact⟨E,G,B,y,.of_steps (Steps.trans f (.one step_inLoop)) h⟩|exit id=>exact⟨_,j,i,d,.pass (x:=.inLoop c) rfl (λ_ _=>.inl ψ) f⟩|goto l=>exact⟨_,j,i,d,.pass (x:=.inLoop c) rfl (λ_ _=>.inl ψ) f⟩|ret=>exact⟨_,j,i,d,.pass (x:=.inLoop c) rfl (λ_ _=>.inl ψ) f⟩|panic I=>exact⟨_,j,i,d,.pass (x:=.inLoop c) rfl (λ_ _=>.inl ψ) f⟩|outgrown=>exact⟨_,j,i,d,.pass (x:=.inLoop c) rfl (λ_ _=>.inl ψ) f⟩);obtain⟨e,q,w',d,f⟩:=L k0 a w h0;exact⟨e,q,w',d,.of_steps (.one step_loop) f⟩
theorem A4a(h:x.under2 n=true)(d:∀cs,x≠.agg cs):x.under1 n=true:=by cases x<;>first|exact h|exact(d _ rfl).elim
theorem Conc.restrict{σ:Bd}{ι B:Cl}{H H':Hp}(D:∀h,h<n->B h=ι h)(I:∀h,h<n->H' h=H h){v:Value}(hx:x.under n=true)(h:Conc σ ι H x v):Conc σ B H' x v:=by(have l:∀{x:AV}{v:Value},x.under0 n=true->Conc σ ι H x v->Conc σ B H' x v:=by intro x v hx h;cases h with|cc h=>exact .cc h|loc h off b hb=>exact .loc h off b (by rw[D h (Ie hx)];exact hb)|mp h b hb=>exact .mp h b (by rw[D h (Ie hx)];exact hb)|vec h n b hb=>exact .vec h n b (by rw[D h (Ie hx)];exact hb)|arr h k off len v hn G z=>have y:=Ie hx;exact .arr h k off len v (by rw[I h y];exact hn) (by rw[D h y,I h y];exact G) z|el h k i j v hn G z=>have y:=Ie hx;exact .el h k i j v (by rw[I h y];exact hn) (by rw[D h y,I h y];exact G) z|ref cs b off C E fr g R hc h1 S=>exact .ref cs b off C E fr g R hc h1 S|agg=>cases hx|tup=>cases hx|fn=>cases hx);(have U:∀{x:AV}{v:Value},x.under1 n=true->Conc σ ι H x v->Conc σ B H' x v:=by intro x v hx h;cases x with|fn f cs=>obtain⟨vs,rfl,A,h⟩:=h.fn_inv;exact .fn f cs vs A λi c u h1 h2=>l (Fd.1 hx c (F7 h1)) (h i c u h1 h2)|agg cs=>cases hx|tup cs=>cases hx|val u=>exact l (x:=(.val u)) hx h|loc q off=>exact l (x:=(.loc q off)) hx h|arr q k off len=>exact l (x:=(.arr q k off len)) hx h|el q k i j=>exact l (x:=(.el q k i j)) hx h|mp q=>exact l (x:=(.mp q)) hx h|vec q m=>exact l (x:=(.vec q m)) hx h|ref cs=>exact l (x:=(.ref cs)) hx h|sl sz xs=>exact l (x:=(.sl sz xs)) hx h|fb s=>exact l (x:=(.fb s)) hx h);have cells:∀{cs:Λ AV},cs.all (AV.under1 n)=true->∀(i:Nat)(c:AV)(u:Value),cs[i]?=some c->Conc σ ι H c u->Conc σ B H' c u:=λL i c u hc h=>U (Fd.1 L c (F7 hc)) h;cases x with|agg cs=>(cases h with|cc h=>exact .cc h|agg _ vs A h=>exact .agg cs vs A λi c u h1 h2=>cells hx i c u h1 (h i c u h1 h2))|tup cs=>(cases h with|cc h=>exact .cc h|tup _ vs A h=>refine .tup cs vs A λi c u h1 h2=>?_;have M:=Fd.1 hx c (F7 h1);have hc:=h i c u h1 h2;cases c with|agg ds=>obtain⟨N,rfl,J,G⟩:=hc.agg_inv;exact .agg ds N J λj d v V X=>cells M j d v V (G j d v V X)|_=>exact U (A4a M (by intro cs e;cases e)) hc)|fn f cs=>(cases h with|cc h=>exact .cc h|fn _ _ vs A h=>exact .fn f cs vs A λi c u h1 h2=>cells hx i c u h1 (h i c u h1 h2))|val v=>exact U rfl h|loc h off=>exact U hx h|arr h k off len=>exact U hx h|el h k i j=>exact U hx h|mp h=>exact U hx h|vec h n=>exact U hx h|ref cs=>exact U rfl h|sl sz xs=>exact U rfl h|fb s=>exact U rfl h
theorem Is.spec{H H':Hp}{n:Nat}:∀{k:Nat},Is H H' k n->∀h,h<k->H h=H' h/\(H' h).under n=true
 |0,_,h,b=>ω
 |k+1,c,h,b=>by by_cases e:h=k;subst e;exact c.1;exact Is.spec c.2 h ω
theorem Ir.spec{e:Ck}:∀{l:Λ (Nat×AV)},Ir e l->∀p∈l,e p.1=p.2
 |[],_,p,hp=>by cases hp
 |q::l,h,p,hp=>by rcases mem_cons.1 hp with rfl|hp;exact h.1;exact Ir.spec h.2 p hp
theorem A4b(c:Λ Nat)(e:Ck)(u:Nat->Value)(l:Λ (Nat×AV))(s:Nat):(∃p∈l,p.1=s/\Mb c e u l s=p.2)\/(s∈c/\Mb c e u l s=.val (u s))\/(s∉c/\Mb c e u l s=e s):=by(have d:(s∈c/\(c.foldr (λs e=>Bg e s (.val (u s))) e) s=.val (u s))\/(s∉c/\(c.foldr (λs e=>Bg e s (.val (u s))) e) s=e s):=by induction c with|nil=>exact .inr ⟨ψ,rfl⟩|cons t c ih=>simp only[foldr_cons];by_cases b:s=t;subst b;exact .inl ⟨ψ,Cr _ _ _⟩;rw[De _ _ b];(rcases ih with⟨B,D⟩|⟨B,D⟩);exact .inl ⟨by simp[B],D⟩;exact .inr ⟨by simp[B,b],D⟩);unfold Mb;induction l with|nil=>exact .inr d|cons p l ih=>simp only[foldr_cons];by_cases b:s=p.1;exact .inl ⟨p,ψ,b.symm,by rw[b];exact Cr _ _ _⟩;rw[De _ _ b];(rcases ih with⟨q,I,B,D⟩|h|h);exact .inl ⟨q,by simp[I],B,D⟩;exact .inr (.inl h);exact .inr (.inr h)
theorem A4c{N:Nat}{ops:Array Oper}(h:(ops.toList.all λo=>(M4 ops o).all λs=>Nat.blt s N)=true):Afj ops N:=by intro i o c s b;rw[Fd]at h;have:=h o (by simpa using Array.mem_of_getElem? c);rw[Fd]at this;exact Ie (this s b)
end
def Af2(T:Dv)(e:Ck)(H:Hp):ResultVar->Ο AV
 |.tmp t=>some (e t)
 |.cell a t=>match e a with
  |.loc h off=>match H h with
   |.cells _ cs=>match T t with
    |some i=>bif i.isAgg then(bif Nat.ble (off+i.size) cs.length then some (.agg ((cs.drop off).take i.size))else none)else cs[off]?
    |none=>none
   |_=>none
  |_=>none
def Af3(x:AV)(H:Hp)(K:AV->Hp->Prop):Prop:=match x with
 |.arr h k 0 len=>match H h with
  |.rows _ sz xs=>Ic k xs (Ic len xs (K (.sl sz xs) (Bg H h .dead)))
  |_=>False
 |x=>K x H
def Af4:Λ AV->Hp->(List AV->Hp->Prop)->Prop
 |[],H,K=>K [] H
 |x::xs,H,K=>Af3 x H λy H=>Af4 xs H λys H=>K (y::ys) H
def fin(x:AV)(H:Hp)(K:AV->Hp->Prop):Prop:=match x with|.agg cs=>Af4 cs H λcs H=>K (.agg cs) H|x=>Af3 x H K
def Af5:Λ AV->Hp->(List AV->Prop)->Prop
 |[],_,K=>K []
 |x::xs,H,K=>fin x H λy H=>Af5 xs H λys=>K (y::ys)
def Xw(T:Dv)(e:Ck)(H:Hp):Λ ResultVar->Ο (List AV)
 |[]=>some []
 |r::d=>match Af2 T e H r with
  |none=>none
  |some x=>match Xw T e H d with
   |none=>none
   |some xs=>some (x::xs)
def Aa9:Λ AV->AV
 |[x]=>x
 |xs=>.tup xs
def Uy(T:Dv)(b:Λ ResultVar)(K:AV->Prop)(e:Ck)(H:Hp):Prop:=match Xw T e H b with|none=>False|some xs=>Af5 xs H λys=>K (Aa9 ys)
def Xx(args:Λ AV):Ck:=λn=>args.getD n (.val undef)
def Uz:ResultVar->Nat
 |.tmp t=>t
 |.cell a _=>a
def Xy(fn:Func)(c:Code)(k:Nat):Bool:=N4 fn.ntmps c&&(fn.results.toList.all λr=>Nat.blt (Uz r) fn.ntmps)&&Nat.ble k fn.ntmps
section
variable{P:Program}{T:Dv}{F:Bd}{W w:World}
variable{x:AV}{K:AV->Hp->Prop}{a:Act}{σ:Bd}{e:Ck}{ι:Cl}{H:Hp}{v:Value}
theorem Ary(h:Af3 x H K)(s:St σ ι H F W w)(u:Conc σ ι H x v):∃b y d,K y d/\Le σ ι H b ι d/\St b ι d F W w/\Conc b ι d y v:=by unfold Af3 at h;split at h;rename_i B k len;split at h;rename_i E sz xs g;obtain⟨D,l,h⟩:=h;obtain⟨i,c,j,f⟩:=s.freeze g;refine⟨i,.sl sz xs,Bg H B .dead,h,c,j,.cc ?_⟩;have:=f 0 len _ ω (u.arr_inv g D);rwa [drop_zero,take_of_length_le ω]at this;exact h.elim;exact⟨σ,_,H,h,Le.refl _ _ _,s,u⟩
theorem Arz:∀{cs:Λ AV}{vs:Λ Value}{H:Hp}{K:Λ AV->Hp->Prop}{σ:Bd}{ι:Cl},Af4 cs H K->St σ ι H F W w->vs.length=cs.length->(∀(i:Nat)(c:AV)(v:Value),cs[i]?=some c->vs[i]?=some v->Conc σ ι H c v)->∃j ys J,K ys J/\Le σ ι H j ι J/\St j ι J F W w/\vs.length=ys.length/\∀(i:Nat)(c:AV)(v:Value),ys[i]?=some c->vs[i]?=some v->Conc j ι J c v
 |[],vs,H,K,σ,ι,h,s,g,d=>⟨σ,[],H,h,Le.refl _ _ _,s,g,d⟩
 |x::cs,[],H,K,σ,ι,h,s,g,d=>by simp at g
 |x::cs,v::vs,H,K,σ,ι,h,s,g,d=>by simp only[Af4]at h;obtain⟨B,y,D,L,f,z,M⟩:=Ary h s (d 0 x v ψ ψ);obtain⟨l,ys,A,N,b,q,k,R⟩:=Arz (vs:=vs) L z (by simpa using g) λi c u hi I=>(d (i+1) c u (by simpa using hi) (by simpa using I)).mono f;refine⟨l,y::ys,A,N,f.trans b,q,by simp[k],λi c u hi I=>?_⟩;cases i with|zero=>simp at hi I;subst hi;subst I;exact M.mono b|succ i=>exact R i c u (by simpa using hi) (by simpa using I)
theorem Ar0(h:fin x H K)(s:St σ ι H F W w)(D:Conc σ ι H x v):∃b y d,K y d/\Le σ ι H b ι d/\St b ι d F W w/\Conc b ι d y v:=by unfold fin at h;split at h;rename_i cs;obtain⟨vs,rfl,q,l⟩:=D.agg_inv;obtain⟨j,ys,z,I,f,k,g,J⟩:=Arz (vs:=vs.toList) h s (by simpa using q) λi c u hi B=>l i c u hi (by simpa using B);exact⟨j,.agg ys,z,I,f,k,.agg ys vs (by simpa using g) λi c u hi B=>J i c u hi (by simpa using B)⟩;exact Ary h s D
theorem Ar1:∀{xs:Λ AV}{vs:Λ Value}{H:Hp}{K:Λ AV->Prop}{σ:Bd}{ι:Cl},Af5 xs H K->St σ ι H F W w->vs.length=xs.length->(∀(i:Nat)(c:AV)(v:Value),xs[i]?=some c->vs[i]?=some v->Conc σ ι H c v)->∃j ys J,K ys/\Le σ ι H j ι J/\St j ι J F W w/\vs.length=ys.length/\∀(i:Nat)(c:AV)(v:Value),ys[i]?=some c->vs[i]?=some v->Conc j ι J c v
 |[],vs,H,K,σ,ι,h,s,g,d=>⟨σ,[],H,h,Le.refl _ _ _,s,g,d⟩
 |x::cs,[],H,K,σ,ι,h,s,g,d=>by simp at g
 |x::cs,v::vs,H,K,σ,ι,h,s,g,d=>by simp only[Af5]at h;obtain⟨B,y,D,L,f,z,M⟩:=Ar0 h s (d 0 x v ψ ψ);obtain⟨l,ys,A,N,b,q,k,R⟩:=Ar1 (vs:=vs) L z (by simpa using g) λi c u hi I=>(d (i+1) c u (by simpa using hi) (by simpa using I)).mono f;refine⟨l,y::ys,A,N,f.trans b,q,by simp[k],λi c u hi I=>?_⟩;cases i with|zero=>simp at hi I;subst hi;subst I;exact M.mono b|succ i=>exact R i c u (by simpa using hi) (by simpa using I)
def U1(b:Array Value):ResultVar->Sem Value
 |.tmp t=>pure (b.getD t undef)
 |.cell a t=>do loadVar t (<-asAddr (b.getD a undef))
theorem A4d(B:Dx P T)(s:St σ ι H F W w)(U:G1 σ ι H e a){r:ResultVar}(A:Uz r<a.tmps.size)(h:Af2 T e H r=some x):∃v,(U1 a.tmps r).run P w=.ok v w/\Conc σ ι H x v:=by cases r with|tmp t=>simp only[Af2]at h;cases h;exact⟨_,rfl,U t A⟩|cell p t=>simp only[Af2]at h;split at h;rename_i hd off hx;split at h;rename_i E cs J;split at h;rename_i i V;have X:=U p A;rw[hx]at X;obtain⟨b,hb,z⟩:=X.loc_inv;have k:=s.obj hd;unfold C9 at k;rw[J]at k;obtain⟨M,C,I,_,_,h3,L,G⟩:=k;rw[hb]at I;cases I;have d:=Ae8 (B t i V) w;(cases y:i.isAgg with|true=>(rw[y]at h d;simp only[cond_true]at h;cases g:Nat.ble (off+i.size) cs.length with|false=>rw[g]at h;cases h|true=>rw[g]at h;cases h;have g:=Gz g;have h2:=O0 (B t i V) w;have D:=run_loadCells_list (P:=P) w ⟨b,off,none⟩ ((C.toList.drop off).take i.size) (by intro j v N;have f:j<i.size:=(by have:=(G7.1 N).1;simp at this;omega);rw[Ib f,getElem?_drop,Hg]at N;rw[L9,Lb h3];exact N);have q:((C.toList.drop off).take i.size).length=i.size:=ζ;rw[q]at D;refine⟨_,by simp only[U1,z,asAddr,Sem.run_bind,Sem.run_pure,Result.andThen_ok,loadVar,d,if_true,h2,D];rfl,?_⟩;refine .agg _ _ ζ λj c u R g2=>?_;have f:j<i.size:=(by have:=(G7.1 R).1;simp at this;omega);rw[Ib f,getElem?_drop]at R;rw[getElem?_toArray,Ib f,getElem?_drop,Hg]at g2;exact G _ c u R g2)|false=>rw[y]at h d;simp only[cond_false]at h;have f:off<C.size:=(by rw[L];exact(G7.1 h).1);have l:w.cell? ⟨b,off,none⟩=some C[off]:=(by rw[Lb h3];simp[f]);exact⟨C[off],by simp[U1,z,asAddr,loadVar,d,l],G off x _ h (by simp[f])⟩);cases h;cases h;cases h
theorem Alh(j:Dx P T){e:Ck}{H:Hp}{σ:Bd}{ι:Cl}{a:Act}(s:St σ ι H F W w)(D:G1 σ ι H e a):∀{b:Λ ResultVar}{xs:Λ AV},(∀r∈b,Uz r<a.tmps.size)->Xw T e H b=some xs->∃d:Λ Value,(b.mapM (U1 a.tmps)).run P w=.ok d w/\d.length=xs.length/\∀(i:Nat)(c:AV)(v:Value),xs[i]?=some c->d[i]?=some v->Conc σ ι H c v
 |[],xs,_,h=>by simp only[Xw]at h;cases h;exact⟨[],ψ,rfl,ψ⟩
 |r::b,xs,g,h=>by simp only[Xw]at h;split at h;cases h;rename_i x I;split at h;cases h;rename_i ys J;cases h;obtain⟨v,L,M⟩:=A4d j s D (g r ψ) I;obtain⟨d,N,l,R⟩:=Alh j s D (λk f=>g k (by simp[f])) J;refine⟨v::d,by simp[mapM_cons,L,N],by simp[l],λi c u hi B=>?_⟩;cases i with|zero=>simp at hi B;subst hi;subst B;exact M|succ i=>exact R i c u (by simpa using hi) (by simpa using B)
theorem Ar2(fn:Func)(b:Array Value):results fn b=(fn.results.mapM (U1 b) >>= λd=>pure (if h:d.size=1 then d[0]else .tuple d)):=by unfold results;congr 1
theorem A4e(z:Dx P T){fn:Func}{K:AV->Prop}(s:St σ ι H F W w)(D:G1 σ ι H e a)(q:∀r∈fn.results.toList,Uz r<a.tmps.size)(h:Uy T fn.results.toList K e H):∃v f B r,(results fn a.tmps).run P w=.ok v w/\K r/\Le σ ι H f ι B/\St f ι B F W w/\Conc f ι B r v:=by unfold Uy at h;split at h;exact h.elim;rename_i xs I;obtain⟨d,J,x,L⟩:=Alh z s D q I;obtain⟨f,ys,B,k,le,M,b,j⟩:=Ar1 h s x L;have g:(fn.results.mapM (U1 a.tmps)).run P w=.ok d.toArray w:=(by rw[Array.mapM_eq_mapM_toList];simp[J]);refine⟨if h:d.toArray.size=1 then d.toArray[0]else .tuple d.toArray,f,B,Aa9 ys,?_,k,le,M,?_⟩;rw[Ar2,Sem.run_bind,g];rfl;match ys,d,b,j with|[y],[v],_,j=>exact j 0 y v rfl rfl|[],[],_,_=>exact .tup [] #[] rfl ψ|y::A::ys,v::l::d,b,j=>have:¬(v::l::d).toArray.size=1:=ψ;rw[dif_neg this];exact .tup _ _ (by simpa using b) (λi c u hi N=>j i c u hi (by simpa using N))|[],_::_,b,_=>simp at b|_::_,[],b,_=>simp at b|[_],_::_::_,b,_=>simp at b|_::_::_,[_],b,_=>simp at b
theorem St.forget(s:St σ ι H F W w):St σ ι0 H0 F W w:=⟨s.sto,s.fra,λ_=>rfl,(λ_ _ _ b=>by cases b),s.os,s.tape,s.output,s.glo,s.drw⟩
theorem Ar3{args:Λ AV}{vs:Array Value}{N:Nat}(h:Ma σ ι H args vs):G1 σ ι H (Xx args) ⟨vs++Array.replicate (N-vs.size) undef,[]⟩:=by intro q D;simp only[Xx,Array.getD_eq_getD_getElem?];by_cases b:q<args.length;have d:q<vs.size:=(by rw[h.1];exact b);rw[Array.getElem?_append_left d];have u:args[q]?=some args[q]:=getElem?_eq_getElem b;have B:vs[q]?=some vs[q]:=Array.getElem?_eq_getElem d;have:=h.2 q _ _ u B;simpa[getD,u,B]using this;rw[Array.getElem?_append_right (by rw[h.1];omega)];have u:args[q]?=none:=getElem?_eq_none ω;have d:q-vs.size<N-vs.size:=(by simp at D;have:=h.1;omega);simp only[getD,u,Option.getD_none];simp[d];exact .of_val undef
end
inductive Tr where
 |leaf
 |node(l:Tr)(k:Nat)(v:TI)(r:Tr)
def Tr.find:Tr->Nat->Ο TI
 |.leaf,_=>none
 |.node l k v r,t=>bif Nat.beq t k then some v else bif Nat.blt t k then l.find t else r.find t
def Tr.toList:Tr->Λ (Nat×TI)
 |.leaf=>[]
 |.node l k v r=>l.toList++(k,v)::r.toList
theorem Tr.find_mem:∀(t:Tr)(k:Nat)(v:TI),t.find k=some v->(k,v)∈t.toList
 |.leaf,k,v,h=>by cases h
 |.node l b f r,k,v,h=>by simp only[Tr.find]at h;simp only[Tr.toList,mem_append,mem_cons];cases hb:Nat.beq k b with|true=>rw[hb]at h;simp only[cond_true]at h;cases h;rw[G0 hb];exact .inr (.inl rfl)|false=>rw[hb]at h;simp only[cond_false]at h;cases c:Nat.blt k b with|true=>rw[c]at h;exact .inl (Tr.find_mem l k v h)|false=>rw[c]at h;exact .inr (.inr (Tr.find_mem r k v h))
theorem Tr.ok{P:Program}{t:Tr}(h:t.toList.map (λp=>Jk P p.1)=t.toList.map λp=>some p.2):Dx P t.find:=by intro k v hk;have hm:=t.find_mem k v hk;obtain⟨i,hi⟩:=getElem?_of_mem hm;have:=congrArg (λl=>l[i]?) h;simpa[hi]using this
def Af6:Λ AV->Hp->(List AV->Hp->Prop)->Prop
 |[],H,K=>K [] H
 |x::xs,H,K=>fin x H λy H=>Af6 xs H λys H=>K (y::ys) H
def Sg(H:Hp):Nat->Λ Bt->Prop
 |_,[]=>True
 |k,o::os=>H k=o/\Sg H (k+1) os
def U2(T:Dv)(d:Bool)(c:Λ ResultVar)(r:AV)(b:Λ Bt)(e:Ck)(H:Hp):Prop:=match Xw T e H c with|none=>False|some xs=>bif d then Af6 xs H λys H=>Aa9 ys=r/\Sg H 0 b else Aa9 xs=r/\Sg H 0 b
section
variable{P:Program}{T:Dv}{F:Bd}{W w:World}
variable{r:AV}{σ:Bd}{ι:Cl}{H:Hp}
theorem Sg.spec{H:Hp}:∀{os:Λ Bt}{k:Nat},Sg H k os->∀i,i<os.length->H (k+i)=hp os i
 |[],k,_,i,hi=>by simp at hi
 |o::os,k,h,0,_=>by simpa[hp]using h.1
 |o::os,k,h,i+1,hi=>by have:=Sg.spec h.2 i (by simpa using hi);rw[show k+(i+1)=k+1+i by omega,this];simp[hp]
theorem Ar4:∀{xs:Λ AV}{vs:Λ Value}{H:Hp}{K:Λ AV->Hp->Prop}{σ:Bd}{ι:Cl},Af6 xs H K->St σ ι H F W w->vs.length=xs.length->(∀(i:Nat)(c:AV)(v:Value),xs[i]?=some c->vs[i]?=some v->Conc σ ι H c v)->∃j ys J,K ys J/\Le σ ι H j ι J/\St j ι J F W w/\vs.length=ys.length/\∀(i:Nat)(c:AV)(v:Value),ys[i]?=some c->vs[i]?=some v->Conc j ι J c v
 |[],vs,H,K,σ,ι,h,s,g,d=>⟨σ,[],H,h,Le.refl _ _ _,s,g,d⟩
 |x::cs,[],H,K,σ,ι,h,s,g,d=>by simp at g
 |x::cs,v::vs,H,K,σ,ι,h,s,g,d=>by simp only[Af6]at h;obtain⟨B,y,D,L,f,z,M⟩:=Ar0 h s (d 0 x v ψ ψ);obtain⟨l,ys,A,N,b,q,k,R⟩:=Ar4 (vs:=vs) L z (by simpa using g) λi c u hi I=>(d (i+1) c u (by simpa using hi) (by simpa using I)).mono f;refine⟨l,y::ys,A,N,f.trans b,q,by simp[k],λi c u hi I=>?_⟩;cases i with|zero=>simp at hi I;subst hi;subst I;exact M.mono b|succ i=>exact R i c u (by simpa using hi) (by simpa using I)
theorem A4f(A:Dx P T){fn:Func}{J:Bool}{q:Λ Bt}{e:Ck}{a:Act}(s:St σ ι H F W w)(M:G1 σ ι H e a)(l:∀r∈fn.results.toList,Uz r<a.tmps.size)(h:U2 T J fn.results.toList r q e H):∃v f d,(results fn a.tmps).run P w=.ok v w/\Sg d 0 q/\Le σ ι H f ι d/\St f ι d F W w/\Conc f ι d r v:=by unfold U2 at h;split at h;exact h.elim;rename_i xs N;obtain⟨D,R,x,L⟩:=Alh A s M l N;have I:∃f ys d,(Aa9 ys=r/\Sg d 0 q)/\Le σ ι H f ι d/\St f ι d F W w/\D.length=ys.length/\∀(i:Nat)(c:AV)(v:Value),ys[i]?=some c->D[i]?=some v->Conc f ι d c v:=(by cases J with|true=>exact Ar4 h s x L|false=>exact⟨σ,xs,H,h,Le.refl _ _ _,s,x,L⟩);obtain⟨f,ys,d,⟨rfl,k⟩,le,U,b,j⟩:=I;have g:(fn.results.mapM (U1 a.tmps)).run P w=.ok D.toArray w:=(by rw[Array.mapM_eq_mapM_toList];simp[R]);refine⟨if h:D.toArray.size=1 then D.toArray[0]else .tuple D.toArray,f,d,?_,k,le,U,?_⟩;rw[Ar2,Sem.run_bind,g];rfl;match ys,D,b,j with|[y],[v],_,j=>exact j 0 y v rfl rfl|[],[],_,_=>exact .tup [] #[] rfl ψ|y::B::ys,v::z::D,b,j=>have:¬(v::z::D).toArray.size=1:=ψ;rw[dif_neg this];exact .tup _ _ (by simpa using b) (λi c u hi V=>j i c u hi (by simpa using V))|[],_::_,b,_=>simp at b|_::_,[],b,_=>simp at b|[_],_::_::_,b,_=>simp at b|_::_::_,[_],b,_=>simp at b
theorem St.first(s:St σ ι H F W w)(f:Λ Bt)(hk:∀i,i<f.length->H i=hp f i)(I:f.all (Bt.under f.length)=true):St σ (λk=>if k<f.length then ι k else .none) (hp f) F W w:=by have B:∀h,h<f.length->(λk=>if k<f.length then ι k else Loc.none) h=ι h:=λh j=>if_pos j;have d:∀h,h<f.length->hp f h=H h:=λh j=>(hk h j).symm;(have lt:∀k,(hp f k).live=true->k<f.length:=by intro k h;rcases Nat.lt_or_ge k f.length with h'|h';exact h';rw[Se h']at h;cases h);refine⟨s.sto,s.fra,λk=>?_,λk u b h1 h2 h3 q=>?_,s.os,s.tape,s.output,s.glo,s.drw⟩;by_cases j:k<f.length;have g:=s.obj k;have l:=Fd.1 I _ (F7 (Aa6 j));unfold C9 at g⊢;rw[hk k j]at g;dsimp only;rw[if_pos j];(cases hx:hp f k with|none=>rw[hx]at g;exact g|dead=>trivial|rows E sz xs=>rw[hx]at g;exact g|map es=>rw[hx]at g;exact g|cells E cs=>rw[hx]at g l;obtain⟨b,C,G,h1,h2,h3,q,D⟩:=g;refine⟨b,C,G,h1,h2,h3,q,λi c v x y=>?_⟩;have hc:=Fd.1 l c (F7 x);refine(D i c v x y).restrict (n:=f.length) B d ?_;exact Ark hc);unfold C9;rw[Se ω];exact if_neg j;have A:=lt k h1;have z:=lt u h2;rw[if_pos A]at h3;rw[if_pos z]at q;rw[d k A]at h1;rw[d u z]at h2;exact s.inj k u b h1 h2 h3 q
def Ali(c:Λ Bt)(r:AV)(b:Λ Bt):Bool:=Nat.ble c.length b.length&&r.under b.length&&b.all (Bt.under b.length)
def Sub(x y:AV):Prop:=∀(σ:Bd)(ι:Cl)(H:Hp)(v:Value),Conc σ ι H x v->Conc σ ι H y v
theorem Sub.refl(x:AV):Sub x x:=λ_ _ _ _ h=>h
theorem Sub.nil(sz:Nat):Sub (.val (.slice none 0 0)) (.sl sz []):=λ_ _ _ _ h=>Af1 rfl h
def Sh:Λ AV->Λ AV->Prop
 |[],[]=>True
 |x::xs,y::ys=>Sub x y/\Sh xs ys
 |_,_=>False
theorem Sh.spec:∀{xs ys:Λ AV},Sh xs ys->xs.length=ys.length/\∀(i:Nat)(y:AV),ys[i]?=some y->∃x,xs[i]?=some x/\Sub x y
 |[],[],_=>⟨rfl,ψ⟩
 |[],_::_,h=>h.elim
 |_::_,[],h=>h.elim
 |x::xs,y::ys,h=>by obtain⟨h1,h2⟩:=Sh.spec h.2;refine⟨by simp[h1],λi z b=>?_⟩;cases i with|zero=>simp at b;subst b;exact⟨x,rfl,h.1⟩|succ i=>simpa using h2 i z (by simpa using b)
theorem Sub.agg{xs ys:Λ AV}(h:Sh xs ys):Sub (.agg xs) (.agg ys):=by intro σ ι H v hc;obtain⟨vs,rfl,f,b⟩:=hc.agg_inv;obtain⟨h1,h2⟩:=h.spec;refine .agg _ vs (by rw[<-h1];exact f) λi c u h3 k=>?_;obtain⟨x,j,g⟩:=h2 i c h3;exact g _ _ _ _ (b i x u j k)
theorem Ay.sub{f:FuncId}{args b:Λ AV}{k:AV}(h:Ay P f b r)(ha:Sh args b)(q:Sub r k):Ay P f args k:=by refine⟨h.1,λσ F W w vs s hc=>?_⟩;obtain⟨h1,h2⟩:=ha.spec;refine(h.2 σ F W w vs s ⟨by rw[<-h1];exact hc.1,λi a v h3 j=>?_⟩).mono ?_;obtain⟨x,g,c⟩:=h2 i a h3;exact c _ _ _ _ (hc.2 i x v g j);rintro e w' ⟨v,l,h3,j,g,c⟩;exact⟨v,l,h3,j,g,q _ _ _ _ c⟩
theorem B9.sub{f:FuncId}{args b:Λ AV}{g c:Λ Bt}{r:AV}(h:B9 P f b g r c)(ha:Sh args b):B9 P f args g r c:=by refine⟨h.1,λσ F W w ι vs s hc=>?_⟩;obtain⟨h1,h2⟩:=ha.spec;refine h.2 σ F W w ι vs s ⟨by rw[<-h1];exact hc.1,λi a v h3 l=>?_⟩;obtain⟨x,k,j⟩:=h2 i a h3;exact j _ _ _ _ (hc.2 i x v k l)
end
inductive Gi(K:Prop):Prop where
 |mk(k:K)
def opK(P:Program)(T:Dv)(an:Nat->Ann)(nl:Nat->Λ (Nat×Nat))(o:Oper)(n:Nat)(e:Ck)(H:Hp)(acc:Lr)(K:Nat->Ck->Hp->Lr->Prop):Prop:=sop P T an n o (ev e) H λb m=>Xt (Aa8 (Ald nl o.dst) b.r) λr=>Aft b.wr λwr=>Aa4 b.rd λf=>Aa4 wr λc=>Alg e o.dst r H wr λe H=>Gi (K m e H (acc++[(f,c)]))
def Aba(o:Oper)(n:Nat)(e:Ck)(H:Hp)(acc:Lr)(K:Nat->Ck->Hp->Lr->Prop):Prop:=Alg e o.dst (.val undef) H [] λe H=>Gi (K n e H (acc++[([],[])]))
def F8(P:Program)(T:Dv)(an:Nat->Ann)(nl:Nat->Λ (Nat×Nat))(ops:Array Oper):Λ Oper->Nat->Ck->Hp->Lr->(Nat->Ck->Hp->Lr->Prop)->Prop
 |[],n,e,H,acc,K=>K n e H acc
 |o::os,n,e,H,acc,K=>match o.guard with
  |none=>opK P T an nl o n e H acc λn e H acc=>F8 P T an nl ops os n e H acc K
  |some p=>match(ops[p.1]?).bind (·.dst)with
   |none=>False
   |some s=>match e s with
    |.val v=>bif Us v==some p.2 then opK P T an nl o n e H acc λn e H acc=>F8 P T an nl ops os n e H acc K else Aba o n e H acc λn e H acc=>F8 P T an nl ops os n e H acc K
    |_=>False
section
variable{P:Program}{T:Dv}{an:Nat->Ann}{nl:Nat->Λ (Nat×Nat)}{ops:Array Oper}
theorem Alj(D:Dx P T):∀(os:Λ Oper)(i n:Nat)(e:Ck)(H:Hp)(acc:Lr)(K:Nat->Ck->Hp->Lr->Prop),ops.toList.drop i=os->acc.length=i->Hw H n->F8 P T an nl ops os n e H acc K->∃b U R d,K b U R d/\d.take i=acc/\d.length=i+os.length/\n<=b/\Hw R b/\Run P ops (λk=>d.getD k ([],[])) (range' i os.length) e H U R
 |[],i,n,e,H,acc,K,hd,j,X,h=>⟨n,e,H,acc,h,by rw[<-j];simp,by simpa using j,Nat.le_refl _,X,.nil e H⟩
 |o::os,i,n,e,H,acc,K,hd,j,X,h=>by have G:ops[i]?=some o:=(by have:=congrArg (λl=>l[0]?) hd;simpa using this);have u:ops.toList.drop (i+1)=os:=(by have:=congrArg (drop 1) hd;simpa[drop_drop]using this);(have V:M5 ops o e true->(opK P T an nl o n e H acc λn e H acc=>F8 P T an nl ops os n e H acc K)->∃b U R d,K b U R d/\d.take i=acc/\d.length=i+(o::os).length/\n<=b/\Hw R b/\Run P ops (λk=>d.getD k ([],[])) (range' i (o::os).length) e H U R:=by intro hg g;obtain⟨c,m,h1,h2,h3,N,L⟩:=A36 D X g;simp only[Afv,Ari,Arj,Arv]at h3;obtain⟨b,U,R,d,A,x,J,I,z,y⟩:=Alj D os (i+1) m _ _ _ K u (by simp[j]) L h3.1;have B:d[i]?=some (c.rd.map (·.1),c.wr.map (·.1)):=(by have M:(d.take (i+1))[i]?=d[i]?:=Ib ω;rw[<-M,x,getElem?_append_right ω];simp[j]);have q:d.getD i ([],[])=(c.rd.map (·.1),c.wr.map (·.1)):=(by simp[getD,B]);refine⟨b,U,R,d,A,?_,by simp only[length_cons];omega,ω,z,?_⟩;have:=congrArg (take i) x;rw[take_take]at this;simpa[j]using this;rw[length_cons,range'_succ];refine .cons o (Aa8 (Ald nl o.dst) c.r) c.wr ⟨G,.inl ⟨hg,_,h1.nils (Ald nl o.dst),h2,?_,?_,rfl,rfl⟩⟩ y;intro p hp;show p.1∈(d.getD i ([],[])).1;rw[q];exact mem_map_of_mem hp;intro p hp;show p.1∈(d.getD i ([],[])).2;rw[q];exact mem_map_of_mem hp);(have skip:M5 ops o e false->(Aba o n e H acc λn e H acc=>F8 P T an nl ops os n e H acc K)->∃b U R d,K b U R d/\d.take i=acc/\d.length=i+(o::os).length/\n<=b/\Hw R b/\Run P ops (λk=>d.getD k ([],[])) (range' i (o::os).length) e H U R:=by intro hg g;unfold Aba at g;rw[Arv]at g;obtain⟨b,U,R,d,A,x,J,I,z,y⟩:=Alj D os (i+1) n _ _ _ K u (by simp[j]) X g.1;refine⟨b,U,R,d,A,?_,by simp only[length_cons];omega,ω,z,?_⟩;have:=congrArg (take i) x;rw[take_take]at this;simpa[j]using this;rw[length_cons,range'_succ];exact .cons o (.val undef) [] ⟨G,.inr ⟨hg,rfl,rfl⟩⟩ y);simp only[F8]at h;cases f:o.guard with|none=>rw[f]at h;exact V (by unfold M5;rw[f]) h|some p=>rw[f]at h;simp only[]at h;cases g:(ops[p.1]?).bind (·.dst)with|none=>rw[g]at h;exact h.elim|some s=>rw[g]at h;simp only[]at h;split at h;rename_i v E;(cases hb:Us v==some p.2 with|true=>rw[hb]at h;exact V (by unfold M5;rw[f];exact⟨s,v,g,E,hb.symm⟩) h|false=>rw[hb]at h;exact skip (by unfold M5;rw[f];exact⟨s,v,g,E,hb.symm⟩) h);exact h.elim
variable{o:Oper}{os:Λ Oper}{n:Nat}{e:Ck}{H:Hp}{acc:Lr}{K:Nat->Ck->Hp->Lr->Prop}{β:Type}{r:β}
variable{s:Nat}{p:Nat×Bool}
theorem nx(k:opK P T an nl o n e H acc λn e H acc=>F8 P T an nl ops os n e H acc K)(hg:o.guard=none:=by exact rfl):Gi (F8 P T an nl ops (o::os) n e H acc K):=.mk (by simp only[F8,hg];exact k)
theorem M7(k:K n e H acc):Gi (F8 P T an nl ops [] n e H acc K):=.mk k
theorem A4g(p:Nat×Bool)(s:Nat)(k:opK P T an nl o n e H acc λn e H acc=>F8 P T an nl ops os n e H acc K)(hg:o.guard=some p:=by exact rfl)(b:(ops[p.1]?).bind (·.dst)=some s:=by exact rfl)(hb:e s=.val (.bool p.2):=by exact rfl):Gi (F8 P T an nl ops (o::os) n e H acc K) :=
 .mk (by simp only[F8,hg,b,hb,Us,BEq.rfl,cond_true];exact k)
theorem A4h(p:Nat×Bool)(s:Nat)(v:Value)(k:Aba o n e H acc λn e H acc=>F8 P T an nl ops os n e H acc K)(hg:o.guard=some p:=by exact rfl)(c:(ops[p.1]?).bind (·.dst)=some s:=by exact rfl)(hb:e s=.val v:=by exact rfl)(b:(Us v==some p.2)=false:=by exact rfl):Gi (F8 P T an nl ops (o::os) n e H acc K) :=
 .mk (by simp only[F8,hg,c,hb,b,cond_false];exact k)
theorem Si(k:opK P T an nl o n e H acc λn e H acc=>F8 P T an nl ops os n e H acc K)(hg:o.guard=some p:=by exact rfl)(b:(ops[p.1]?).bind (·.dst)=some s:=by exact rfl)(hb:e s=.val (.bool p.2):=by exact rfl):Gi (F8 P T an nl ops (o::os) n e H acc K):=A4g p s k hg b hb
theorem Sj{v:Value}(k:Aba o n e H acc λn e H acc=>F8 P T an nl ops os n e H acc K)(hg:o.guard=some p:=by exact rfl)(c:(ops[p.1]?).bind (·.dst)=some s:=by exact rfl)(hb:e s=.val v:=by exact rfl)(b:(Us v==some p.2)=false:=by exact rfl):Gi (F8 P T an nl ops (o::os) n e H acc K):=A4h p s v k hg c hb b
theorem A4i{b:Bool}{m c:Ο β}{X:Λ Oper}(h:(bif b then m else c)=some r)(d:b=true->m=some r->Gi (F8 P T an nl ops X n (Bg e s (.val (.bool true))) H acc K))(u:b=false->c=some r->Gi (F8 P T an nl ops X n (Bg e s (.val (.bool false))) H acc K))(hb:e s=.val (.bool b):=by exact rfl):Gi (F8 P T an nl ops X n e H acc K):=by cases b with|true=>have:=d rfl h;rwa [Arx hb]at this|false=>have:=u rfl h;rwa [Arx hb]at this
end
theorem St.recell{σ:Bd}{ι:Cl}{H:Hp}{F:Bd}{W w:World}(s:St σ ι H F W w)(h:Nat)(E:TypeId)(cs f:Λ AV)(j:H h=.cells E cs)(q:f.length=cs.length)(hc:∀(i:Nat)(c k:AV)(v:Value),cs[i]?=some c->f[i]?=some k->Conc σ ι H c v->Conc σ ι H k v):St σ ι (Bg H h (.cells E f)) F W w/\Le σ ι H σ ι (Bg H h (.cells E f)):=by have l:=s.obj h;unfold C9 at l;rw[j]at l;obtain⟨b,C,hb,h1,h2,h3,B,A⟩:=l;(have le:Le σ ι H σ ι (Bg H h (.cells E f)):=by have:=Le.upd (ι:=ι) (H:=H) (Bd.le_refl σ) h (ι h) (.cells E f) (by rw[j];exact⟨λ_ e=>e,(λ_ e=>by cases e),(λ_ _ _ _ e=>by cases e)⟩);rwa [Jv]at this);refine⟨s.touch h b (λ_ _=>rfl) (λx e=>De _ _ e) le (λx e=>rfl) (λ_ _=>rfl) (λo e=>by rw[h1]at e;cases e) ?_ h2 ?_ ?_ rfl rfl rfl,le⟩;intro x e q u;exact e (s.inj x h b q (by rw[j];rfl) u (by rw[hb];rfl));intro D _ z;exact .inr ⟨by rw[j];rfl,z⟩;unfold C9;rw[Cr];refine⟨b,C,hb,h1,h2,h3,ω,λi k v x y=>?_⟩;have hi:i<cs.length:=(by rw[<-q];exact(G7.1 x).1);have g:cs[i]?=some cs[i]:=getElem?_eq_getElem hi;exact(hc i _ k v g x (A i _ v g y)).mono le
def Af7:AV->Ο Nat
 |.loc h _=>some h
 |.vec h _=>some h
 |_=>none
inductive Gh where
 |fz(s:Nat)
 |own(s j:Nat)(e:TypeId)(sz:Nat)
 |nil(s j sz:Nat)
 |fzc(s j:Nat)
 |fzp(s:Nat)
 |fzcp(s j:Nat)
 |fzv(s:Nat)
def gxs:Λ Gh->Nat->Ck->Hp->(Nat->Ck->Hp->Prop)->Prop
 |[],n,e,H,K=>K n e H
 |.fz s::d,n,e,H,K=>match e s with
  |.arr h k 0 len=>match H h with
   |.rows _ sz xs=>Ic k xs (Ic len xs (gxs d n (Bg e s (.sl sz xs)) (Bg H h .dead) K))
   |_=>False
  |_=>False
 |.fzp s::d,n,e,H,K=>match e s with
  |.arr h k 0 len=>match H h with
   |.rows _ sz xs=>Ic k xs (Ak3 len k (Ak4 xs len λys=>gxs d n (Bg e s (.sl sz ys)) (Bg H h .dead) K))
   |_=>False
  |_=>False
 |.own s j E sz::d,n,e,H,K=>match Af7 (e s)with
  |some h=>match H h with
   |.cells T cs=>match cs[j]? with
    |some x=>bif N1 x&&Nat.blt 0 sz then gxs d (n+1) e (Bg (Bg H n (.rows E sz [])) h (.cells T (cs.set j (.arr n 0 0 0)))) K else False
    |none=>False
   |_=>False
  |_=>False
 |.nil s j sz::d,n,e,H,K=>match Af7 (e s)with
  |some h=>match H h with
   |.cells T cs=>match cs[j]? with
    |some x=>bif N1 x then gxs d n e (Bg H h (.cells T (cs.set j (.sl sz [])))) K else False
    |none=>False
   |_=>False
  |_=>False
 |.fzc s j::d,n,e,H,K=>match Af7 (e s)with
  |some h=>match H h with
   |.cells T cs=>match cs[j]? with
    |some (.arr u k 0 len)=>match H u with
     |.rows _ sz xs=>Ic k xs (Ic len xs (gxs d n e (Bg (Bg H u .dead) h (.cells T (cs.set j (.sl sz xs)))) K))
     |_=>False
    |_=>False
   |_=>False
  |_=>False
 |.fzcp s j::d,n,e,H,K=>match Af7 (e s)with
  |some h=>match H h with
   |.cells T cs=>match cs[j]? with
    |some (.arr u k 0 len)=>match H u with
     |.rows _ sz xs=>Ic k xs (Ak3 len k (Ak4 xs len λys=>gxs d n e (Bg (Bg H u .dead) h (.cells T (cs.set j (.sl sz ys)))) K))
     |_=>False
    |_=>False
   |_=>False
  |_=>False
 |.fzv s::d,n,e,H,K=>match e s with
  |.vec h m=>match H h with
   |.cells _ cs=>bif cs.all AV.cl1&&Nat.beq cs.length m&&Nat.ble m 16 then gxs d n (Bg e s (.sl 1 cs)) (Bg H h .dead) K else False
   |_=>False
  |_=>False
section
variable{F:Bd}{W:World}
variable{σ:Bd}{ι:Cl}{H:Hp}{h j:Nat}{E:TypeId}{w:World}
theorem Ar5{cs:Λ AV}{i:Nat}{y c b:AV}{P:AV->AV->Prop}(u:cs[i]?=some c)(d:(cs.set j y)[i]?=some b)(f:P c c)(B:i=j->P c y):P c b:=by rw[getElem?_set]at d;split at d;rename_i e;split at d;cases d;exact B e.symm;cases d;rw[u]at d;cases d;exact f
theorem St.freezeVec(s:St σ ι H F W w){cs:Λ AV}(L:H h=.cells E cs)(k:∀c∈cs,c.cl1=true):∃D,Le σ ι H D ι (Bg H h .dead)/\St D ι (Bg H h .dead) F W w/\∀v,cs.length<=140737488355328->Conc σ ι H (.vec h cs.length) v->CC D (.sl 1 cs) v:=by
 have l:=s.obj h;unfold C9 at l;rw[L]at l;obtain⟨b,C,M,p1,Z,Y,X,V⟩:=l;(have A:σ.le (Bg σ b (some (.cells C E))):=by intro b' o' d;rw[De _ _ (by intro e;subst e;rw[p1]at d;cases d)];exact d);(have g:Le σ ι H (Bg σ b (some (.cells C E))) ι (Bg H h .dead):=by have:=Le.upd (ι:=ι) (H:=H) A h (ι h) .dead ⟨λ_ e=>e,(λ_ e=>by cases e),(λ_ E1 U N e=>by cases e)⟩;rwa [Jv]at this);refine⟨Bg σ b (some (.cells C E)),g,?_,?_⟩;exact s.touch h b (λ_ _=>rfl) (λx e=>De _ _ e) g (λ_ _=>rfl) (λx e=>De _ _ e) (λo J=>by rw[Cr]at J;cases J;exact Y) (λx e q hb=>e (s.inj x h b q (by rw[L];rfl) hb (by rw[M];rfl))) Z (λb' q hb=>by rw[Cr]at q;cases q) (by unfold C9;rw[Cr];trivial) rfl rfl rfl
 .intro v q hc;obtain⟨b2,B,rfl⟩:=hc.vec_inv;rw[M]at B;cases B;(have f:∀c:AV,c.cl1=true->c.cells=[c]:=by intro c hc;cases c with|val v=>(cases v<;>first|rfl|cases hc)|sl=>rfl|_=>cases hc);have I:∀(i:Nat)(c:AV),cs[i]?=some c->∃u,C[i]?=some u/\CC σ c u/\Fu u=true:=(by intro i c hi;have z:i<C.size:=(by rw[X];exact(G7.1 hi).1);refine⟨C[i],by simp[z],?_⟩;exact(V i c C[i] hi (by simp[z])).cc_of (k c (F7 hi)));have:=CC.sl (σ:=Bg σ b (some (.cells C E))) cs b 0 cs.length 1 C E (0,0) (λn _=>(C[n]?).getD undef) (Cr _ _ _) (λi x hx=>by rw[f x (k x (F7 hx))];rfl) (λi x j c hx hj=>by rw[f x (k x (F7 hx))]at hj;obtain⟨rfl,rfl⟩:=Akb hj;obtain⟨u,y,S,_⟩:=I i _ hx;rw[y];exact S.mono A) (λi x j c hx hj=>by rw[f x (k x (F7 hx))]at hj;obtain⟨rfl,rfl⟩:=Akb hj;obtain⟨u,y,_,R⟩:=I i _ hx;rw[y];exact R) (λi j hi hj=>by have G:j=0:=ω;subst G;rw[Nat.zero_add,Nat.mul_one,Nat.add_zero];obtain⟨u,y,_⟩:=I i cs[i] (getElem?_eq_getElem hi);rw[y];rfl) q (Nat.le_refl _);exact this
theorem Q5{n:Nat}{o:Bt}(d:Hw H n)(b:H h≠.none):Hw (Bg H h o) n:=by intro m u;rw[De _ _ λe=>b (by rw[<-e];exact d m u)];exact d m u
theorem Ar6{d h' k len:Nat}{T:TypeId}{sz:Nat}{cs xs ys:Λ AV}(s:St σ ι H F W w)(M:H d=.cells T cs)(hj:cs[j]?=some (.arr h' k 0 len))(g:H h'=.rows E sz xs)(hk:xs.length=k)(X:len<=xs.length)(hy:xs.take len=ys):∃c,Le σ ι H c ι (Bg (Bg H h' .dead) d (.cells T (cs.set j (.sl sz ys))))/\St c ι (Bg (Bg H h' .dead) d (.cells T (cs.set j (.sl sz ys)))) F W w:=by obtain⟨c,G,D,N⟩:=s.freeze g;(have J:d≠h':=by intro B;subst B;rw[M]at g;cases g);(have f:Bg H h' .dead d=.cells T cs:=by rw[De _ _ J];exact M);have h:=s.obj d;unfold C9 at h;rw[M]at h;obtain⟨b,C,B,g1,g2,g3,g4,g5⟩:=h;(have l:∀v,C[j]?=some v->Conc c ι (Bg H h' .dead) (.sl sz ys) v:=by intro v Y;have hc:=g5 j _ v hj Y;have:=N 0 len _ ω (hc.arr_inv g hk);rw[drop_zero,hy]at this;exact .cc this);(have V:St c ι (Bg (Bg H h' .dead) d (.cells T (cs.set j (.sl sz ys)))) F W w/\Le c ι (Bg H h' .dead) c ι (Bg (Bg H h' .dead) d (.cells T (cs.set j (.sl sz ys)))):=by have I:=D.obj d;unfold C9 at I;rw[f]at I;obtain⟨b',C',A,z,u,q,Z,U⟩:=I;rw[B]at A;cases A;rw[g3]at q;cases q;have le:Le c ι (Bg H h' .dead) c ι (Bg (Bg H h' .dead) d (.cells T (cs.set j (.sl sz ys)))):=(by have:=Le.upd (ι:=ι) (H:=Bg H h' .dead) (Bd.le_refl c) d (ι d) (.cells T (cs.set j (.sl sz ys))) (by rw[f];exact⟨λ_ e=>e,(λ_ e=>by cases e),(λ_ _ _ _ e=>by cases e)⟩);rwa [Jv]at this);refine⟨D.touch d b (λ_ _=>rfl) (λx e=>De _ _ e) le (λx e=>rfl) (λ_ _=>rfl) (λo e=>by rw[z]at e;cases e) ?_ u ?_ ?_ rfl rfl rfl,le⟩;intro x e X R;exact e (D.inj x d b X (by rw[f];rfl) R (by rw[B];rfl));intro b0 _ S;exact .inr ⟨by rw[f];rfl,S⟩;unfold C9;rw[Cr];refine⟨b,C,B,z,u,g3,by simpa using g4,λi c' v x y=>?_⟩;rw[getElem?_set]at x;split at x;rename_i L;split at x;cases x;subst L;exact(l v y).mono le;cases x;exact(U i c' v x y).mono le);exact⟨c,G.trans V.2,V.1⟩
theorem Sk:∀(y:Λ Gh){n:Nat}{e:Ck}{H:Hp}{K:Nat->Ck->Hp->Prop}{σ:Bd}{ι:Cl}{a:Act}{w:World},gxs y n e H K->St σ ι H F W w->G1 σ ι H e a->Hw H n->∃σ' ι' n' e' H',K n' e' H'/\Le σ ι H σ' ι' H'/\St σ' ι' H' F W w/\G1 σ' ι' H' e' a/\Hw H' n'/\n<=n'
 |[],n,e,H,K,σ,ι,a,w,h,s,d,hn=>⟨σ,ι,n,e,H,h,Le.refl _ _ _,s,d,hn,Nat.le_refl _⟩
 |.fz t::y,n,e,H,K,σ,ι,a,w,h,s,d,hn=>by simp only[gxs]at h;split at h;rename_i hd k len hx;split at h;rename_i E sz xs l;obtain⟨hk,hl,h⟩:=h;obtain⟨Y,f,D,V⟩:=s.freeze l;(have X:G1 Y ι (Bg H hd .dead) (Bg e t (.sl sz xs)) a:=by intro q hq;by_cases z:q=t;subst z;rw[Cr];have hc:=d q hq;rw[hx]at hc;have:=V 0 len _ ω (hc.arr_inv l hk);rw[drop_zero,take_of_length_le ω]at this;exact .cc this;rw[De _ _ z];exact(d q hq).mono f);obtain⟨A,B,G,R,S,N,M,L,J,I,U⟩:=Sk y h D X (Q5 hn (by rw[l];intro e;cases e));exact⟨A,B,G,R,S,N,f.trans M,L,J,I,U⟩;exact h.elim;exact h.elim
 |.fzp t::y,n,e,H,K,σ,ι,a,w,h,s,d,hn=>by simp only[gxs]at h;split at h;rename_i hd k len hx;split at h;rename_i E sz xs l;obtain⟨hk,hl,ys,hy,h⟩:=h;obtain⟨Y,f,D,V⟩:=s.freeze l;(have X:G1 Y ι (Bg H hd .dead) (Bg e t (.sl sz ys)) a:=by intro q hq;by_cases z:q=t;subst z;rw[Cr];have hc:=d q hq;rw[hx]at hc;have:=V 0 len _ ω (hc.arr_inv l hk);rw[drop_zero,hy]at this;exact .cc this;rw[De _ _ z];exact(d q hq).mono f);obtain⟨A,B,G,R,S,N,M,L,J,I,U⟩:=Sk y h D X (Q5 hn (by rw[l];intro e;cases e));exact⟨A,B,G,R,S,N,f.trans M,L,J,I,U⟩;exact h.elim;exact h.elim
 |.own t j E sz::y,n,e,H,K,σ,ι,a,w,h,s,d,hn=>by simp only[gxs]at h;split at h;rename_i hd hx;split at h;rename_i T cs l;split at h;rename_i x hj;obtain⟨hb,h⟩:=G9 h;rw[Gg]at hb;have a7:hd≠n:=(by intro z;subst z;have:=hn hd (Nat.le_refl _);rw[l]at this;cases this);obtain⟨s0,a1⟩:=s.newNil n (hn n (Nat.le_refl _)) E sz (Ie hb.2);have a6:Bg H n (.rows E sz []) hd=.cells T cs:=(by rw[De _ _ a7];exact l);obtain⟨D,f⟩:=s0.recell hd T cs (cs.set j (.arr n 0 0 0)) a6 ψ (by intro i c c' v h1 h2 h3;refine Ar5 (P:=λa b=>Conc σ _ _ a v->Conc σ _ _ b v) h1 h2 (λh=>h) (λZ h=>?_) h3;subst Z;rw[hj]at h1;cases h1;rw[Af0 hb.1]at h;rw[h.val_inv];refine .arr _ _ _ _ _ (by rw[Cr];intro e;cases e) (λE' ab aa e'=>?_) rfl;rw[Cr]at e';cases e';exact⟨ψ,λ_=>by rw[Cr];exact⟨rfl,rfl,rfl⟩⟩);have a8:Hw (Bg (Bg H n (.rows E sz [])) hd (.cells T (cs.set j (.arr n 0 0 0)))) (n+1):=(by refine Q5 ?_ (by rw[a6];intro e;cases e);intro m hm;rw[De _ _ ω];exact hn m ω);obtain⟨A,B,G,R,S,N,M,L,J,I,U⟩:=Sk y h D (d.mono (a1.trans f)) a8;exact⟨A,B,G,R,S,N,(a1.trans f).trans M,L,J,I,ω⟩;exact h.elim;exact h.elim;exact h.elim
 |.nil t j sz::y,n,e,H,K,σ,ι,a,w,h,s,d,hn=>by simp only[gxs]at h;split at h;rename_i hd hx;split at h;rename_i T cs l;split at h;rename_i x hj;obtain⟨hb,h⟩:=G9 h;obtain⟨D,f⟩:=s.recell hd T cs (cs.set j (.sl sz [])) l ψ (by intro i c c' v h1 h2 h3;refine Ar5 (P:=λa b=>Conc σ _ _ a v->Conc σ _ _ b v) h1 h2 (λh=>h) (λZ h=>?_) h3;subst Z;rw[hj]at h1;cases h1;exact Af1 hb h);obtain⟨A,B,G,R,S,N,M,L,J,I,U⟩:=Sk y h D (d.mono f) (Q5 hn (by rw[l];intro e;cases e));exact⟨A,B,G,R,S,N,f.trans M,L,J,I,U⟩;exact h.elim;exact h.elim;exact h.elim
 |.fzc t j::y,n,e,H,K,σ,ι,a,w,h,s,d,hn=>by simp only[gxs]at h;split at h;rename_i hd hx;split at h;rename_i T cs l;split at h;rename_i h' k len hj;split at h;rename_i E sz xs u;obtain⟨hk,hl,h⟩:=h;obtain⟨Y,f,D⟩:=Ar6 s l hj u hk ω (take_of_length_le ω);obtain⟨A,B,G,R,S,N,M,L,J,I,U⟩:=Sk y h D (d.mono f) (Q5 (Q5 hn (by rw[u];intro e;cases e)) (by rw[De _ _ (by intro z;subst z;rw[l]at u;cases u)];rw[l];intro e;cases e));exact⟨A,B,G,R,S,N,f.trans M,L,J,I,U⟩;exact h.elim;exact h.elim;exact h.elim;exact h.elim
 |.fzcp t j::y,n,e,H,K,σ,ι,a,w,h,s,d,hn=>by simp only[gxs]at h;split at h;rename_i hd hx;split at h;rename_i T cs l;split at h;rename_i h' k len hj;split at h;rename_i E sz xs u;obtain⟨hk,hl,ys,hy,h⟩:=h;obtain⟨Y,f,D⟩:=Ar6 s l hj u hk ω (hy);obtain⟨A,B,G,R,S,N,M,L,J,I,U⟩:=Sk y h D (d.mono f) (Q5 (Q5 hn (by rw[u];intro e;cases e)) (by rw[De _ _ (by intro z;subst z;rw[l]at u;cases u)];rw[l];intro e;cases e));exact⟨A,B,G,R,S,N,f.trans M,L,J,I,U⟩;exact h.elim;exact h.elim;exact h.elim;exact h.elim
 |.fzv t::y,n,e,H,K,σ,ι,a,w,h,s,d,hn=>by simp only[gxs]at h;split at h;rename_i hd m hx;split at h;rename_i E cs l;obtain⟨g,h⟩:=G9 h;simp only[Gg]at g;obtain⟨⟨g1,g2⟩,g3⟩:=g;have g2:=G0 g2;have g3:=Gz g3;obtain⟨Y,f,D,V⟩:=s.freezeVec l λc hc=>Fd.1 g1 c hc;(have X:G1 Y ι (Bg H hd .dead) (Bg e t (.sl 1 cs)) a:=by intro q hq;by_cases z:q=t;subst z;rw[Cr];have hc:=d q hq;rw[hx,<-g2]at hc;exact .cc (V _ ω hc);rw[De _ _ z];exact(d q hq).mono f);obtain⟨A,B,G,R,S,N,M,L,J,I,U⟩:=Sk y h D X (Q5 hn (by rw[l];intro e;cases e));exact⟨A,B,G,R,S,N,f.trans M,L,J,I,U⟩;exact h.elim;exact h.elim
end
variable{i:Int}{n:Nat}{E S α:Type}{e:E}{l:Λ α}{s:S}
def Kf{S E:Type}(step:S->Ο (S⊕E)):Nat->S->Ο E
 |0,_=>none
 |n+1,s=>match step s with|none=>none|some (.inl d)=>Kf step n d|some (.inr e)=>some e
theorem Alk{S E:Type}{step:S->Ο (S⊕E)}:∀{n:Nat}{s:S}{e:E},Kf step n s=some e->∀m,n<=m->Kf step m s=some e
 |0,s,e,h,_,_=>by cases h
 |n+1,s,e,h,0,d=>ω
 |n+1,s,e,h,m+1,d=>by simp only[Kf]at h⊢;cases b:step s with|none=>rw[b]at h;cases h|some o=>rw[b]at h;cases o with|inl u=>exact Alk (n:=n) h m ω|inr B=>exact h
theorem Ar7{step:S->Ο (S⊕E)}{m:Nat}{e':E}(h:Kf step n s=some e)(u:Kf step m s=some e'):e=e':=by have B:=Alk h (max n m) ω;have d:=Alk u (max n m) ω;rw[B]at d;exact Option.some.inj d
open Classical in
noncomputable def Ap{S E:Type}(step:S->Ο (S⊕E))(s:S):Ο E:=match Kf step 4096 s with|some e=>some e|none=>if h:∃n e,Kf step n s=some e then some (Classical.choose (Classical.choose_spec h))else none
theorem All{step:S->Ο (S⊕E)}(h:Ap step s=some e):∃n,Kf step n s=some e:=by unfold Ap at h;split at h;rename_i B d;cases h;exact⟨_,d⟩;split at h;rename_i u;cases h;exact⟨_,Classical.choose_spec (Classical.choose_spec u)⟩;cases h
theorem Alm{step:S->Ο (S⊕E)}(h:Kf step n s=some e):Ap step s=some e:=by have d:∃n e,Kf step n s=some e:=⟨n,e,h⟩;unfold Ap;split;rename_i B u;exact congrArg some (Ar7 u h);rw[dif_pos d];exact congrArg some (Ar7 (Classical.choose_spec (Classical.choose_spec d)) h)
theorem Cs{step:S->Ο (S⊕E)}(h:step s=some (.inr e)):Ap step s=some e:=Alm (n:=1) (by simp only[Kf,h])
theorem Fj{step:S->Ο (S⊕E)}{s':S}(h:step s=some (.inl s')):Ap step s=Ap step s':=by cases u:Ap step s' with|some e=>obtain⟨n,d⟩:=All u;exact Alm (n:=n+1) (by simp only[Kf,h];exact d)|none=>cases b:Ap step s with|none=>rfl|some e=>obtain⟨n,d⟩:=All b;cases n with|zero=>cases d|succ n=>simp only[Kf,h]at d;rw[Alm d]at u;cases u
theorem Jc{step:S->Ο (S⊕E)}(c:S->Prop)(m:S->Nat)(b:E->Prop)(f:∀s,c s->(∃d,step s=some (.inl d)/\c d/\m d < m s)\/(∃e,step s=some (.inr e)/\b e))(s:S)(h0:c s):∃e,Ap step s=some e/\b e:=by generalize D:m s=k;induction k using Nat.strongRecOn generalizing s with|_ k ih=>(rcases f s h0 with⟨d,u,B,I⟩|⟨e,u,B⟩);obtain⟨e,h,g⟩:=ih (m d) ω d B rfl;exact⟨e,by rw[Fj u];exact h,g⟩;exact⟨e,Cs u,B⟩
def Ae(l:Λ α)(i:Int):Ο α:=if 0<=i then l[i.toNat]? else none
def Fb(l:Λ α)(lo hi:Int):Ο (List α):=if 0<=lo/\lo<=hi/\hi<=l.length then some ((l.take hi.toNat).drop lo.toNat)else none
def Cg(b:Nat)(xs ys:Λ α):Ο (List α):=if(xs.length+ys.length)*b<=140737488355328 then some (xs++ys)else none
def Gu(c:Nat)(len b:Int)(z:α):Ο (List α):=if 0<=len/\len<=b/\c*b.toNat<=281474976710656/\b<=140737488355328 then some (replicate len.toNat z)else none
def Ew(l:Λ α)(off n:Nat)(i:Int):Ο α:=if 0<=i/\i<n then l[off+i.toNat]? else none
def H5(n:Nat)(lo hi:Int):Ο (Nat×Nat):=if 0<=lo/\lo<=hi/\hi<=n/\(lo=0\/lo<hi)then some (lo.toNat,hi.toNat)else none
def M8(b:Nat)(xs:Λ α)(n:Nat)(ys:Λ α):Ο (List α×Nat):=if n<=xs.length/\(xs.length+ys.length)*b<=140737488355328 then some (D9 xs n ys,n+ys.length)else none
def U3(c:Nat)(xs:Λ α)(n b f:Nat):Ο (List α×Nat):=if n<=xs.length/\b+f<=xs.length/\(xs.length+f)*c<=140737488355328 then some (D9 xs n ((xs.drop b).take f),n+f)else none
def Lt(xs:Λ α)(off n b c:Nat):Ο (List α):=if off+n<=xs.length/\b+c<=xs.length then some (D9 xs off ((xs.drop b).take (min c n)))else none
def Sl(xs:Λ α)(off n:Nat)(z:α):Ο (List α):=if off+n<=xs.length then some (D9 xs off (replicate n z))else none
def Jn(xs:Λ α)(n:Nat):Ο (List α):=if n<=xs.length then some (xs.take n)else none
def N5(n:Nat)(hi:Int):Ο Nat:=if 0<=hi/\hi<=n then some hi.toNat else none
def H6(n:Nat)(lo hi:Int):Ο ((Nat×Nat)⊕Unit):=if 0<=lo/\lo<=hi/\hi<=n then(if lo=0\/lo<hi then some (.inl (lo.toNat,hi.toNat))else some (.inr ()))else none
def Hx(n:Nat)(l:Λ α):Ο Unit:=if n=l.length then some ()else none
theorem Ld{u:Unit}(h:Hx n l=some u):n=l.length:=by unfold Hx at h;split at h;assumption;cases h
theorem Sn(off:Nat)(h:i=n):((off:Nat):Int)+i=((off+n:Nat):Int):=by omega
def Q6(n:Int):Ο Β:=if -9223372036854775808<=n/\n<=9223372036854775807 then some ⟨(Lib.itoa n).toArray⟩else none
def Ar8(l:Λ Int):Ο (List Int):=some (l.mergeSort λx y=>decide (x<=y))
def Af8(a b:Int):Ο Β:=bif b==10 then Q6 a else none
def Fw(l:Λ Int):Λ UInt8:=l.map λn=>UInt8.ofNat n.toNat
def Abb(l:Λ Int):Ο Β:=if(∀x∈l,0<=x/\x<256)then some ⟨(Fw l).toArray⟩else none
def O6(s:Β):Λ Int:=s.data.toList.map λb=>(b.toNat:Int)
def Ca(l:Λ α)(i:Int)(x:α):Λ α:=l.set i.toNat x
def G2(k:IntKind)(a b:Int):Ο Int:=if b=0 then none else some (k.wrap (a.tdiv b))
def It(a b:Int):Ο Int:=if b=0 then none else some (a.tmod b)
def Abc(k:IntKind)(a b:Int):Ο Int:=if 0<=b then some (a.fdiv (2^(min b.toNat k.bits)))else none
def Gv(s:Β)(i:Int):Ο UInt8:=if 0<=i then s[i.toNat]? else none
def Gw(a b:Β):Ο Β:=if a.size+b.size<=9223372036854775807 then some (a++b)else none
def Fk(s:Β)(lo hi:Int):Ο Β:=if 0<=lo/\lo<=hi/\hi<=s.size then some (s.extract lo.toNat hi.toNat)else none
abbrev Ac(n:Int):Int:=IntKind.i64.wrap n
abbrev Bf(n:Int):Int:=IntKind.u64.wrap n
abbrev Cz(n:Int):Int:=IntKind.u32.wrap n
abbrev wu8(n:Int):Int:=IntKind.u8.wrap n
theorem Ar9{x:α}(h:Ae l i=some x):∃n:Nat,i=n/\l[n]?=some x:=by unfold Ae at h;split at h;exact⟨i.toNat,ω,h⟩;cases h
section
variable{β:Type}{r:β}
variable{q:FloatKind}{hi i lo:Int}{xs ys:Λ AV}{a b g j k n off:Nat}{K:Nat->Nat->Prop}{m:Nat->Ο β}{G:Prop}{α:Type}{l:Λ α}{o:Ο α}{x:α}
theorem Ec{m:α->Ο β}(h:o.bind m=some r)(k:∀x,o=some x->m x=some r->G):G:=by cases o with|none=>cases h|some x=>exact k x rfl h
theorem So{m:α->Ο β}(h:o.bind m=some r)(k:∀x,o=some x->(∀y,y=x->m y=some r)->G):G:=by cases o with|none=>cases h|some x=>exact k x rfl (λy d=>by subst d;exact h)
theorem Aln{f:α->AV}(B:ys=l.map f){m:α->Ο β}{K:Nat->AV->Prop}(h:(Ae l i).bind m=some r)(k:∀(n:Nat)(x:α),i=n->l[n]?=some x->m x=some r->K n (f x)):Xr ys i K:=by subst B;refine Ec h λx D h=>?_;obtain⟨n,d,u⟩:=Ar9 D;exact .mk n (f x) d (by simp[u]) (k n x d u h)
theorem A4j{f:α->AV}(B:ys=l.map f){m:α->Ο β}{K:Nat->Prop}{len:Nat}(c:len=l.length)(D:b=l.length)(h:(Ae l i).bind m=some r)(k:∀(n:Nat)(x:α),i=n->l[n]?=some x->m x=some r->K n):Uu len b ys i K:=by subst B;refine Ec h λx I h=>?_;obtain⟨n,d,u⟩:=Ar9 I;exact .mk n (by rw[D];simp) d (by rw[c];exact(G7.1 u).1) (k n x d u h)
theorem A4k{f:α->AV}(u:ys=l.map f){m:α->Ο β}{K:Nat->Prop}{len:Nat}(B:b=l.length)(h:(Ew l off len i).bind m=some r)(k:∀(n:Nat)(x:α),i=n->l[off+n]?=some x->m x=some r->K n):Uu len b ys i K:=by subst u;refine Ec h λx d h=>?_;unfold Ew at d;split at d;rename_i D;exact .mk i.toNat (by rw[B];simp) ω ω (k _ x ω d h);cases d
theorem Md{f:α->AV}(u:ys=l.map f)(B:b=l.length){m:Nat×Nat->Ο β}{c:Prop}(h:(H5 n lo hi).bind m=some r)(k:∀v:Nat×Nat,m v=some r->K v.1 v.2):Afo b ys n lo hi K c:=by subst u;refine Ec h λx d h=>?_;unfold H5 at d;split at d;rename_i D;cases d;exact .mk lo.toNat hi.toNat (by rw[B];simp) ω ω ω ω ω (k _ h);cases d
theorem Af9{β:Type}(f:α->β)(xs:Λ α)(d:Nat)(ys:Λ α):D9 (xs.map f) d (ys.map f)=(D9 xs d ys).map f:=by unfold D9;simp[map_take,map_drop]
theorem Xz{ys:Λ α}{f:α->AV}{c:Λ AV}(B:xs=l.map f)(j:c=ys.map f){len:Nat}{m:List α×Nat->Ο β}{K:Λ AV->Nat->Prop}{i:Λ AV->Nat->Nat->Prop}(D:g=l.length)(h:(M8 b l len ys).bind m=some r)(k:∀o:List α×Nat,m o=some r->i (o.1.map f) o.1.length o.2):Nz xs c g len b K i:=by subst B;subst j;subst D;refine Ec h λx d h=>?_;unfold M8 at d;split at d;rename_i u;cases d;exact .mkP _ _ _ ψ (by simpa using u.1) (by simpa using u.2) (Af9 f l len ys) ψ ψ (k _ h);cases d
theorem Alo{f:α->AV}(B:xs=l.map f){len q c:Nat}{m:List α×Nat->Ο β}{K:Λ AV->Nat->Nat->Prop}(D:j=l.length)(i:q=l.length)(h:(U3 b l len c g).bind m=some r)(k:∀o:List α×Nat,m o=some r->K (o.1.map f) o.1.length o.2):Arb xs j len q c g b K:=by subst B;subst D;subst i;refine Ec h λx d h=>?_;unfold U3 at d;split at d;rename_i u;cases d;exact .mk _ _ _ ψ (by simpa using u.1) ψ (by simpa using u.2.1) (by simpa using u.2.2) (by rw[<-map_drop,<-map_take,Af9]) ψ rfl (k _ h);cases d
theorem X0{f:α->AV}(B:xs=l.map f){len q c:Nat}{m:Λ α->Ο β}{K:Λ AV->Nat->Prop}(D:j=l.length)(i:q=l.length)(h:(Lt l off len c b).bind m=some r)(k:∀o:Λ α,Lt l off len c b=some o->m o=some r->K (o.map f) (min b len)):Arc xs j off len q c b K:=by subst B;subst D;subst i;refine Ec h λx d h=>?_;have g:=d;unfold Lt at d;split at d;rename_i u;cases d;exact .mk _ _ ψ (by simpa using u.1) ψ (by simpa using u.2) (by rw[<-map_drop,<-map_take,Af9]) rfl (k _ g h);cases d
theorem X1{o:Λ α}{c:Nat}(d:k=l.length)(h:Lt l off n b c=some o):k=o.length:=by unfold Lt at h;split at h;rename_i u;cases h;rw[P3 ω];simp;omega;cases h
theorem A4l{f:α->AV}{z:α}{c:AV}(u:xs=l.map f)(i:c=f z){len:Nat}{m:Λ α->Ο β}{K:Λ AV->Prop}(B:g=l.length)(h:(Sl l off len z).bind m=some r)(k:∀o:Λ α,Sl l off len z=some o->m o=some r->K (o.map f)):Ard xs g off len c K:=by subst u;subst B;subst i;refine Ec h λx d h=>?_;have b:=d;unfold Sl at d;split at d;rename_i D;cases d;exact .mk _ ψ (by simpa using D) (by rw[<-map_replicate,Af9]) (k _ b h);cases d
theorem Asa{o:Λ α}{z:α}(d:k=l.length)(h:Sl l off n z=some o):k=o.length:=by unfold Sl at h;split at h;cases h;rw[P3 ω];simp;omega;cases h
theorem Abd{f:α->AV}(u:xs=l.map f){len:Nat}{m:Λ α->Ο β}{K:Λ AV->Prop}(B:b=l.length)(h:(Jn l len).bind m=some r)(k:∀o:Λ α,m o=some r->K (o.map f)):Ic b xs (Ak3 len b (Ak4 xs len K)):=by subst u;subst B;refine Ec h λx d h=>?_;unfold Jn at d;split at d;rename_i D;cases d;exact .mk ψ (.mk D (.mk _ (by rw[map_take]) (k _ h)));cases d
theorem Abe{f:α->AV}(u:ys=l.map f)(B:b=l.length){c:Prop}(h:(N5 n hi).bind m=some r)(k:∀v:Nat,m v=some r->K 0 v):Afo b ys n 0 hi K c:=by subst u;refine Ec h λx d h=>?_;unfold N5 at d;split at d;rename_i D;cases d;exact .mk 0 hi.toNat (by rw[B];simp) ω ω ω ω ω (k _ h);cases d
theorem P8{f:α->AV}(B:ys=l.map f)(u:b=l.length){m:(Nat×Nat)⊕Unit->Ο β}{c:Prop}(h:(H6 n lo hi).bind m=some r)(k:∀v:Nat×Nat,m (.inl v)=some r->K v.1 v.2)(g:m (.inr ())=some r->c):Afo b ys n lo hi K c:=by subst B;refine Ec h λx d h=>?_;unfold H6 at d;split at d;rename_i D;split at d;cases d;exact .mk lo.toNat hi.toNat (by rw[u];simp) ω ω ω ω ω (k _ h);cases d;exact .mkE lo.toNat (by rw[u];simp) ω ω ω (g h);cases d
theorem Asb{op:BinOp}{K:Nat->Prop}(h:(floatBits op q a b).bind m=some r)(k:∀c,m c=some r->K c):Afr op q a b K:=Ec h λx d h=>.mk x d (k x h)
theorem Asd{z:IntKind}{m:Int->Ο β}{K:Int->Prop}(h:(floatToIntVal q a z).bind m=some r)(k:∀c,m c=some r->K c):Afs q a z K:=Ec h λx d h=>.mk x d (k x h)
theorem A4m{f:α->AV}(d:ys=l.map f){i:Nat}{K:AV->Prop}(u:b=l.length)(hi:i=n)(B:l[n]?=some x)(k:K (f x)):N0 b i ys K:=by subst d;subst hi;exact .mk (f x) (by rw[u];simp) (by simp[B]) k
theorem Jo{f:α->AV}(d:ys=l.map f){i:Nat}{j:Int}{p:AV}{K:Λ AV->Prop}(hp:p=f x)(hi:i=n)(u:j=(n:Int))(k:K ((Ca l j x).map f)):Aa2 ys i p K:=by subst d;subst hi;subst hp;subst u;exact .mk _ (by simp[Ca,map_set]) k
variable{g:AV}{hi lo:Int}{xs ys:Λ AV}{K:Λ AV->Nat->Prop}{b:Nat}{α:Type}{l:Λ α}{m:Λ α->Ο β}
theorem Fy{k:Nat}(h:k=l.length)(j:Int)(x:α):k=(Ca l j x).length:=by simp[Ca,h]
theorem Alp{f:α->AV}(u:ys=l.map f){K:Λ AV->Prop}(h:(Fb l lo hi).bind m=some r)(k:∀b:Λ α,m b=some r->K (b.map f)):O1 ys lo hi K:=by subst u;refine Ec h λx d h=>?_;unfold Fb at d;split at d;rename_i B;cases d;exact .mk lo.toNat hi.toNat _ ω ω ω ζ (by rw[<-map_take,<-map_drop]) (k _ h);cases d
theorem Ase{f:α->AV}(d:ys=l.map f){K:Λ AV->Prop}(h:(Fb l lo l.length).bind m=some r)(k:∀b:Λ α,m b=some r->K (b.map f)):O1 ys lo ys.length K:=by(have e:((ys.length:Nat):Int)=(l.length:Int):=by rw[d];simp);rw[e];exact Alp d h k
theorem A4n{g:Λ α->Λ AV}{f:α->AV}(hg:∀l,g l=l.map f)(d:ys=l.map f){K:Λ AV->Prop}(h:(Fb l lo hi).bind m=some r)(k:∀b:Λ α,m b=some r->K (g b)):O1 ys lo hi K:=Alp d h λb h=>by rw[<-hg];exact k b h
theorem A4o{g:Λ α->Λ AV}{f:α->AV}(hg:∀l,g l=l.map f)(d:ys=l.map f){K:Λ AV->Prop}(h:(Fb l lo l.length).bind m=some r)(k:∀b:Λ α,m b=some r->K (g b)):O1 ys lo ys.length K:=Ase d h λb h=>by rw[<-hg];exact k b h
theorem Alq{ys:Λ α}{f:α->AV}{c:Λ AV}(u:xs=l.map f)(i:c=ys.map f){g len:Nat}{q:Λ AV->Nat->Nat->Prop}(B:g=l.length)(j:len=l.length)(h:(Cg b l ys).bind m=some r)(k:∀o:Λ α,m o=some r->K (o.map f) o.length):Nz xs c g len b K q:=by subst u;subst i;subst B;subst j;refine Ec h λx d h=>?_;unfold Cg at d;split at d;rename_i D;cases d;exact .mk _ _ ψ rfl (by simpa using D) ψ ψ (k _ h);cases d
theorem A4p{l:Λ Int}{s:Β}(d:xs=l.map λn=>.val (.int .u8 n)){c len:Nat}{m:Λ Int->Ο β}{i:Λ AV->Nat->Nat->Prop}(u:c=l.length)(g:len=l.length)(h:(Cg b l (O6 s)).bind m=some r)(k:∀o:Λ Int,m o=some r->K (o.map λn=>.val (.int .u8 n)) o.length):Nz xs (Kv s) c len b K i:=by refine Alq (f:=λn=>.val (.int .u8 n)) d ?_ u g h k;simp[Kv,O6]
theorem Alr{ys:Λ α}{f:α->AV}{c:Λ AV}(g:c=ys.map f)(h:(Cg b [] ys).bind m=some r)(k:∀o:Λ α,m o=some r->K (o.map f) o.length):Uv c b K:=by subst g;refine Ec h λx d h=>?_;unfold Cg at d;split at d;rename_i u;cases d;exact .mk _ _ (by simpa using u) ψ ψ (k _ h);cases d
theorem A4q{g:Λ α->Λ AV}{f:α->AV}(hg:∀l,g l=l.map f){ys:Λ α}{c:Λ AV}(d:xs=l.map f)(j:c=ys.map f){i len:Nat}{s:Λ AV->Nat->Nat->Prop}(u:i=l.length)(q:len=l.length)(h:(Cg b l ys).bind m=some r)(k:∀o:Λ α,m o=some r->K (g o) o.length):Nz xs c i len b K s:=Alq d j u q h λo h=>by rw[<-hg];exact k o h
theorem A4r{g:Λ α->Λ AV}{f:α->AV}(hg:∀l,g l=l.map f){ys:Λ α}{c:Λ AV}(i:c=ys.map f)(h:(Cg b [] ys).bind m=some r)(k:∀o:Λ α,m o=some r->K (g o) o.length):Uv c b K:=Alr i h λo h=>by rw[<-hg];exact k o h
theorem A4s{z:α}{f:α->AV}(i:g=f z){len c:Int}{K:Nat->Λ AV->Prop}(h:(Gu b len c z).bind m=some r)(k:∀o:Λ α,m o=some r->K o.length (o.map f)):Xs len c b g K:=by subst i;refine Ec h λx d h=>?_;unfold Gu at d;split at d;rename_i u;cases d;exact .mk _ c.toNat _ ζ ω ζ u.2.2.1 ω ψ (k _ h);cases d
theorem U4{z:α}{f:α->AV}(i:Hh g.cells (f z).cells){len c:Int}{K:Nat->Λ AV->Prop}(h:(Gu b len c z).bind m=some r)(k:∀o:Λ α,m o=some r->K o.length (o.map f)):Xs len c b g K:=by refine Ec h λx d h=>?_;unfold Gu at d;split at d;rename_i u;cases d;exact .mkN (f z) i _ c.toNat _ ζ ω ζ u.2.2.1 ω ψ (k _ h);cases d
theorem Asf{f:α->AV}(d:ys=l.map f){K:Int->Prop}(k:K (l.length:Int)):O2 ys K:=by subst d;exact .mk _ ψ k
theorem A4t{f:α->AV}(d:ys=l.map f)(u:b=l.length){K:Prop}(k:K):Ic b ys K:=by subst d;exact .mk (by rw[u];simp) k
def Gj(l:Λ (Β×α))(s:Β):Bool:=l.any λp=>s==p.1
def Jp(l:Λ (Β×α))(s:Β)(z:α):α:=((l.find? λp=>s==p.1).map (·.2)).getD z
def G3{α:Type}:Λ (Β×α)->Β->α->Λ (Β×α)
 |[],s,v=>[(s,v)]
 |p::l,s,v=>bif s==p.1 then(s,v)::l else p::G3 l s v
def B1(f:α->AV)(l:Λ (Β×α)):Λ (AV×AV):=l.map λp=>(.val (.string p.1),f p.2)
theorem Als{α:Type}(f:α->AV)(s:Β)(z:α):∀(l:Λ (Β×α))(i:Nat), (Gj l s=false/\Kw s (B1 f l) i=some none)\/(Gj l s=true/\∃j,Kw s (B1 f l) i=some (some (i+j,f (Jp l s z)))/\∀v,B1 f (G3 l s v)=(B1 f l).set j (.val (.string s),f v))
 |[],i=>.inl ⟨rfl,rfl⟩
 |p::l,i=>by cases hp:s==p.1 with|true=>refine .inr ⟨by simp[Gj,hp],0,?_,λv=>?_⟩;simp[B1,Kw,Jp,hp];simp[B1,G3,hp]|false=>(rcases Als f s z l (i+1)with⟨d,u⟩|⟨d,j,u,B⟩);refine .inl ⟨by simp only[Gj,any_cons,hp,Bool.false_or];exact d,?_⟩;have:Kw s (B1 f (p::l)) i=Kw s (B1 f l) (i+1):=(by simp[B1,Kw,hp]);rw[this,u];refine .inr ⟨by simp only[Gj,any_cons,hp,Bool.false_or];exact d,j+1,?_,λv=>?_⟩;have:Kw s (B1 f (p::l)) i=Kw s (B1 f l) (i+1):=(by simp[B1,Kw,hp]);have b:Jp (p::l) s z=Jp l s z:=(by simp[Jp,hp]);rw[this,u,b];congr 3;omega;have c:B1 f (G3 (p::l) s v)=(.val (.string p.1),f p.2)::B1 f (G3 l s v):=(by simp[B1,G3,hp]);rw[c,B v];rfl
theorem Asg{α:Type}(f:α->AV){s:Β}{v:α}:∀{l:Λ (Β×α)},Gj l s=false->B1 f (G3 l s v)=B1 f l++[(.val (.string s),f v)]
 |[],_=>rfl
 |p::l,h=>by simp only[Gj,any_cons,Bool.or_eq_false_iff]at h;have:=Asg f (v:=v) (l:=l) h.2;simp only[G3,h.1,cond_false];simp only[B1,map_cons,cons_append]at this⊢;rw[this]
variable{s:Β}{a b:Int}{m:Int->Ο β}{K:Int->Prop}{k:IntKind}{es:Λ (AV×AV)}{α:Type}{l:Λ (Β×α)}
theorem X2{f:α->AV}(B:es=B1 f l)(z:α){m b:Ο β}{K:Ο (Nat×AV)->Prop}(h:(bif Gj l s then m else b)=some r)(g:∀j,Gj l s=true->m=some r->K (some (j,f (Jp l s z))))(c:Gj l s=false->b=some r->K none):Are s es K:=by subst B;(rcases Als f s z l 0 with⟨d,u⟩|⟨d,j,u,_⟩);rw[d]at h;exact .mk _ u (c d h);rw[d]at h;exact .mk _ u (g _ d h)
theorem U5{f:α->AV}(B:es=B1 f l){x:α}{v:AV}(b:v=f x){K:Λ (AV×AV)->Prop}(k:K (B1 f (G3 l s x))):Arf s v es K:=by subst B;subst b;refine .mk _ ?_ k;unfold Afi;(rcases Als f s x l 0 with⟨u,d⟩|⟨u,j,d,D⟩);rw[d,Asg f u];rw[d,D x];simp
theorem Abf(h:(G2 k a b).bind m=some r)(f:∀c:Int,m c=some r->K c):Afk k a b K:=by refine Ec h λx d h=>?_;unfold G2 at d;split at d;cases d;rename_i u;cases d;exact .mk _ u rfl (f _ h)
theorem Aga(h:(It a b).bind m=some r)(f:∀c:Int,m c=some r->K c):Afl a b K:=by refine Ec h λx d h=>?_;unfold It at d;split at d;cases d;rename_i u;cases d;exact .mk _ u rfl (f _ h)
theorem Ash(h:(Abc k a b).bind m=some r)(f:∀c:Int,m c=some r->K c):Afm k a b K:=by refine Ec h λx d h=>?_;unfold Abc at d;split at d;rename_i u;cases d;exact .mk _ u rfl (f _ h);cases d
theorem O7{i:Int}{m:UInt8->Ο β}{K:UInt8->Prop}(h:(Gv s i).bind m=some r)(b:∀c:UInt8,m c=some r->K c):Afp s i K:=by refine Ec h λx d h=>?_;unfold Gv at d;split at d;exact .mk i.toNat x ω d (b _ h);cases d
theorem I1{a b:Β}{m:Β->Ο β}{K:Prop}(h:(Gw a b).bind m=some r)(k:m (a++b)=some r->K):Afq (a.size+b.size) K:=by refine Ec h λx d h=>?_;unfold Gw at d;split at d;rename_i u;cases d;exact .mk u (k h);cases d
theorem Alt{lo hi:Int}{m:Β->Ο β}{K:Nat->Nat->Prop}(h:(Fk s lo hi).bind m=some r)(k:∀l u,lo=((l:Nat):Int)->hi=((u:Nat):Int)->m (s.extract l u)=some r->K l u):Afn s.size lo hi K:=by refine Ec h λx d h=>?_;unfold Fk at d;split at d;rename_i B;cases d;exact .mk lo.toNat hi.toNat ω ω ω ω (k _ _ ω ω h);cases d
end
def Alu(V:Nat->Ck->Hp->Prop)(X:Nat->Nat->Ck->Hp->Prop)(U:Nat->Ck->Hp->Prop)(x:Ex)(n:Nat)(e:Ck)(H:Hp):Prop:=match x with|.normal=>V n e H|.exit i=>X i n e H|.ret=>U n e H
def wc(P:Program)(C:Cfg)(c:Code)(V:Nat->Ck->Hp->Prop)(X:Nat->Nat->Ck->Hp->Prop)(U:Nat->Ck->Hp->Prop)(n:Nat)(e:Ck)(H:Hp):Prop:=Dx P C.T->P.follows .mixedOrders=true->∀(F:Bd)(W:World)(σ:Bd)(ι:Cl)(a:Act)(w:World)(Q:Exit->Act->World->Prop), N4 a.tmps.size c=true->St σ ι H F W w->G1 σ ι H e a->Hw H n->(∀x h u d f g b w',Alu V X U x h u d->Le σ ι H f g d->St f g d F W w'->G1 f g d u b->Hw d h->n<=h->b.tmps.size=a.tmps.size->b.defers=a.defers->Hi (Ig c) a b->Q x.out b w')->c.wp P Q a w
section
variable{P:Program}{C:Cfg}{V:Nat->Ck->Hp->Prop}{X:Nat->Nat->Ck->Hp->Prop}{U:Nat->Ck->Hp->Prop}{n:Nat}{e:Ck}{H:Hp}{β:Type}{r:β}
variable{a:Act}{σ:Bd}{t:Bool}{ι:Cl}{G b q:Code}{fn:Func}{os:Λ Oper}{id:Nat}{x:Operand}{S:Type}
theorem Kx(k:V n e H):wc P C .skip V X U n e H:=λ_ _ _ _ σ ι a w _ _ s d u B=>wp_skip (B .normal n e H σ ι a w k (Le.refl _ _ _) s d u (Nat.le_refl _) rfl rfl (Hi.refl _ _))
theorem Alv(k:U n e H):wc P C .ret V X U n e H:=λ_ _ _ _ σ ι a w _ _ s d u B=>wp_ret (B .ret n e H σ ι a w k (Le.refl _ _ _) s d u (Nat.le_refl _) rfl rfl (Hi.refl _ _))
theorem Hb(k:X id n e H):wc P C (.exit id) V X U n e H:=λ_ _ _ _ σ ι a w _ _ s d u B=>wp_exit (B (.exit id) n e H σ ι a w k (Le.refl _ _ _) s d u (Nat.le_refl _) rfl rfl (Hi.refl _ _))
theorem Asi{ops:Array Oper}{b:Bool}(h:Gi (F8 P C.T C.an C.nl ops ops.toList n e H [] λn e H acc=>bif b then P7 ops.toList acc (V n e H)else V n e H)):wc P C (.region id ops b) V X U n e H:=by intro d hm F W σ ι a w Q E s he hn hk;have q:=Le.refl σ ι H;have s0:=s;have z:=he;have N:=hn;obtain⟨L,e',H',accs,l,_,S,x,M,c⟩:=Alj d ops.toList 0 n e H [] _ ψ rfl hn h.1;have u:=A4c E;cases b with|false=>simp only[cond_false]at l;refine wp_region ?_;have:range ops.size=range' 0 ops.toList.length:=(by rw[range_eq_range'];simp);rw[this];refine c.wpOps s0 z u ?_;intro B D J w' le s' g f j hu;exact hk .normal L e' H' B D J w' l (q.trans le) s' g M x f j hu|true=>simp only[cond_true]at l;obtain⟨G,l⟩:=l;refine wp_region_any hm ?_;have A:ops=ops.toList.toArray:=ψ;rw[A];simp only[size_toArray];refine Ara (accs:=accs) (e':=e') (H':=H') G ops.toList.length _ (range' 0 ops.toList.length) e H σ ι a _ (by rw[<-A];exact c) (pairwise_lt_range' ..) ?_ ψ ?_ ψ (s0.drew _) z (by rw[<-A];exact u) ?_;intro i;simp only[mem_range'_1,Array.getD_eq_getD_getElem?];constructor;rintro⟨_,h2⟩;refine⟨ω,?_⟩;have:i<ops.size:=(by simpa using h2);simp[this];rintro⟨h1,_⟩;omega;intro k o R I;exfalso;simp only[Array.getD_eq_getD_getElem?]at I;by_cases y:k<ops.size;simp[y]at I;simp[y]at I;intro B D J w' le s' g f j hu;exact hk .normal L e' H' B D J w' l (q.trans le) s' g M x f j (by rw[<-A]at hu;exact hu)
theorem Asj(k:Gi (F8 P C.T C.an C.nl os.toArray os n e H [] λn e H acc=>P7 os acc (V n e H))):wc P C (.region id os.toArray true) V X U n e H:=Asi k
theorem G4(k:Gi (F8 P C.T C.an C.nl os.toArray os n e H [] λn e H _=>V n e H)):wc P C (.region id os.toArray false) V X U n e H:=Asi k
theorem Et{c:Code}(z:Λ Gh)(k:gxs z n e H λn e H=>Gi (wc P C c V X U n e H)):wc P C c V X U n e H:=by intro M hm F W σ ι a w Q h s he hn hk;obtain⟨A,D,R,S,d,J,b,G,l,i,L⟩:=Sk z k s he hn;exact J.1 M hm F W A D a w Q h G l i λx I e' H' B E N w' hq f s' q j y g u hu=>hk x I e' H' B E N w' hq (b.trans f) s' q j ω g u hu
theorem Az{a3 S:Code}(k:wc P C a3 (λn e H=>wc P C S V X U n e H) X U n e H):wc P C (.seq a3 S) V X U n e H:=by intro N hm F W σ ι a w Q f s he hn hk;simp only[N4,Gg]at f;refine wp_seq (k N hm F W σ ι a w _ f.1 s he hn ?_);intro x L R d y z a1 A hq c B i g q b j hu;cases x with|normal=>refine hq N hm F W y z a1 A Q (by rw[b];exact f.2) B i g ?_;intro x n2 e2 H2 a0 Y a2 Z G D s2 J I M l u E;exact hk x n2 e2 H2 a0 Y a2 Z G (c.trans D) s2 J I ω (l.trans b) (u.trans j) ((hu.mono (by simp[Ig];exactλs h=>.inl h)).trans (E.mono (by simp[Ig];exactλs h=>.inr h)))|exit id=>exact hk (.exit id) L R d y z a1 A hq c B i g q b j (hu.mono (by simp[Ig];exactλs h=>.inl h))|ret=>exact hk .ret L R d y z a1 A hq c B i g q b j (hu.mono (by simp[Ig];exactλs h=>.inl h))
theorem Alw{l:Nat}(k:V n e H):wc P C (.label l) V X U n e H:=by intro c D F W σ ι a w Q b s d u B;exact wp_label (B .normal n e H σ ι a w k (Le.refl _ _ _) s d u (Nat.le_refl _) rfl rfl (Hi.refl _ _))
theorem Alx{c:Code}(k:wc P C c V X U n e H):wc P C (.scope c) V X U n e H:=by intro B d F W σ ι a w Q g s I J L;refine wp_scope_straight (k B d F W σ ι a w _ g s I J ?_);intro x A D E q u M y N b z j h i f l R;have:=L x A D E q u M y N b z j h i f l R;cases x<;>exact this
theorem M9{c:Code}(k:wc P C c V (λi n e H=>bif Nat.beq i id then V n e H else X i n e H) U n e H):wc P C (.block id c) V X U n e H:=by intro G M F W σ ι a w Q E s N R I;refine wp_block (k G M F W σ ι a w _ E s N R ?_);intro x A B D q u J y d b z j g h f l L;cases x with|normal=>exact I .normal A B D q u J y d b z j g h f l L|exit i=>simp only[Ex.out,Exit.inBlock];by_cases hi:i=id;subst hi;rw[if_pos rfl];have:Nat.beq i i=true:=Nat.beq_refl i;simp only[Alu,this,cond_true]at d;exact I .normal A B D q u J y d b z j g h f l L;rw[if_neg hi];(have:Nat.beq i id=false:=by cases hb:Nat.beq i id;rfl;exact(hi (G0 hb)).elim);simp only[Alu,this,cond_false]at d;exact I (.exit i) A B D q u J y d b z j g h f l L|ret=>exact I .ret A B D q u J y d b z j g h f l L
theorem Ask(b:Arw a.tmps.size x=true)(B:G1 σ ι H e a)(D:ev e x=.val (.bool t)):a.eval x=.bool t:=by have d:=B.eval (x:=x) (λt u=>by cases x with|tmp q=>cases u;exact Ie b|_=>cases u);rw[D]at d;exact d.val_inv
theorem Agb(k:wc P C q V X U n e H)(J:ev e x=.val (.bool true):=by exact rfl):wc P C (.cond x q G) V X U n e H:=by intro D L F W σ ι a w Q b s d M N;simp only[N4,Gg]at b;refine wp_cond_true (Ask b.1.1 d J) (k D L F W σ ι a w Q b.1.2 s d M ?_);intro x B E I u y R z hq c A j g i f l hu;exact N x B E I u y R z hq c A j g i f l (hu.mono (by simp[Ig];exactλs h=>.inl h))
theorem Sp(k:wc P C q V X U n e H)(J:ev e x=.val (.bool false):=by exact rfl):wc P C (.cond x G q) V X U n e H:=by intro D L F W σ ι a w Q b s d M N;simp only[N4,Gg]at b;refine wp_cond_false (Ask b.1.1 d J) (k D L F W σ ι a w Q b.2 s d M ?_);intro x B E I u y R z hq c A j g i f l hu;exact N x B E I u y R z hq c A j g i f l (hu.mono (by simp[Ig];exactλs h=>.inr h))
theorem Dt{c:Operand}{a:Code}{m f:Ο β}(h:(bif t then m else f)=some r)(u:t=true->m=some r->wc P C a V X U n e H)(B:t=false->f=some r->wc P C b V X U n e H)(d:ev e c=.val (.bool t):=by exact rfl):wc P C (.cond c a b) V X U n e H:=by cases t with|true=>exact Agb (u rfl h) d|false=>exact Sp (B rfl h) d
theorem Asl{X:Λ Nat}{l:Λ (Nat×AV)}{h:Λ (Nat×Bt)}{F z:Bd}{W w Y:World}{I:Cl}{a1:Act}{G:Hp}{e1:Ck}(hb:N3 n l h=true)(hn:Hw H n)(s:St σ ι H F W w)(he:G1 σ ι H e a)(M:Ir e1 l)(R:Is G (C8 H h) n n)(L:Le σ ι H z I G)(i:St z I G F W Y)(a8:G1 z I G e1 a1)(aa:a1.tmps.size=a.tmps.size)(a7:Hi X a a1):∃A,Le σ ι H z A (C8 H h)/\St z A (C8 H h) F W Y/\G1 z A (C8 H h) (Mb X e (λs=>a1.tmps.getD s undef) l) a1/\Hw (C8 H h) n:=by(have Z:∀x,n<=x->ι x=.none:=by intro x d;have:=s.obj x;unfold C9 at this;rw[hn x d]at this;exact this);(have D:∀p∈h,p.1<n:=by intro p hp;unfold N3 at hb;rw[Gg,Fd,Fd]at hb;exact Ie (hb.2 p hp));(have N:∀p∈l,p.2.under n=true:=by intro p hp;unfold N3 at hb;rw[Gg,Fd,Fd]at hb;exact hb.1 p hp);(have u:Hw (C8 H h) n:=by intro x d;rw[Aaz (λp hp e=>by have:=D p hp;omega)];exact hn x d);let A:Cl:=λx=>if x<n then I x else .none;have c:∀x,x<n->A x=I x:=λx d=>if_pos d;have f:∀x,x<n->C8 H h x=G x:=λx d=>((R.spec) x d).1.symm;(have J:Le σ ι H z A (C8 H h):=by refine⟨L.sto,λx=>?_⟩;by_cases d:x<n;rw[c x d,f x d];exact L.obj x;rw[Z x ω,hn x ω];exact HLe.of_none);(have s2:St z A (C8 H h) F W Y:=by refine⟨i.sto,i.fra,λx=>?_,?_,i.os,i.tape,i.output,i.glo,i.drw⟩;by_cases d:x<n;have k:=i.obj x;have B:=((R.spec) x d).2;unfold C9 at k⊢;rw[f x d]at B⊢;rw[c x d];(cases j:G x with|none=>rw[j]at k;exact k|dead=>trivial|cells E cs=>rw[j]at k B;obtain⟨b,Cc,g1,g2,g3,g4,g5,g6⟩:=k;refine⟨b,Cc,g1,g2,g3,g4,g5,λq cq v hq a6=>(g6 q cq v hq a6).restrict c f ?_⟩;have:=Fd.1 B cq (F7 hq);exact Ark this|rows E sz xs=>rw[j]at k;exact k|map es=>rw[j]at k;exact k);unfold C9;rw[u x ω];exact if_neg d;intro x y b V U bx S;(have d:x<n:=by rcases Nat.lt_or_ge x n with d|d;exact d;rw[u x d]at V;cases V);(have hy:y<n:=by rcases Nat.lt_or_ge y n with hy|hy;exact hy;rw[u y hy]at U;cases U);rw[f x d]at V;rw[f y hy]at U;rw[c x d]at bx;rw[c y hy]at S;exact i.inj x y b V U bx S);refine⟨A,J,s2,?_,u⟩;intro q hq;(rcases A4b X e (λs=>a1.tmps.getD s undef) l q with⟨p,hp,rfl,g⟩|⟨hw,g⟩|⟨hw,g⟩);rw[g,<-M.spec p hp];refine(a8 p.1 hq).restrict c f ?_;rw[M.spec p hp];exact N p hp;rw[g];exact .of_val _;rw[g,a7 q hw];exact(he q ω).mono J
theorem Asm{E:Type}{step:S->Ο (S⊕E)}{s0:S}{J:E->Ο β}(h:(Ap step s0).bind J=some r)(L:S->Λ (Nat×AV))(B:S->Λ (Nat×Bt))(j:S->Prop)(hb:∀s,N3 n (L s) (B s)=true)(hs:Ir e (L s0))(hh:Is H (C8 H (B s0)) n n)(h0:j s0)(a8:∀(s:S)(u:Nat->Value)(K:Nat->Ck->Hp->Prop)(o:S⊕E),step s=some o->(∀x,.inr x=o->J x=some r)->(∀s' n' e' H',.inl s'=o->Ir e' (L s')->Is H' (C8 H (B s')) n n->j s'->K n' e' H')->j s->wc P C b K X U n (Mb (Ig b) e u (L s)) (C8 H (B s))):wc P C (.loop b) V X U n e H:=by intro hT hm F W σ ι a w Q aa s he hn hk;refine Ec h λx hx h=>?_;obtain⟨N,hN⟩:=All hx;let J':Nat->Act->World->Prop:=λk a' w'=>∃i σ' ι',(Kf step k i=some x/\j i)/\Le σ ι H σ' ι' (C8 H (B i))/\St σ' ι' (C8 H (B i)) F W w'/\G1 σ' ι' (C8 H (B i)) (Mb (Ig b) e (λs=>a'.tmps.getD s undef) (L i)) a'/\a'.tmps.size=a.tmps.size/\a'.defers=a.defers/\Hi (Ig b) a a';(have g:∀(k:Nat)(i:S)(G:Bd)(Y:Cl)(H1:Hp)(e1:Ck)(a1:Act)(w1:World),(Kf step k i=some x/\j i)->Ir e1 (L i)->Is H1 (C8 H (B i)) n n->Le σ ι H G Y H1->St G Y H1 F W w1->G1 G Y H1 e1 a1->a1.tmps.size=a.tmps.size->a1.defers=a.defers->Hi (Ig b) a a1->J' k a1 w1:=by intro k i G Y H1 e1 a1 w1 hi ab ad q s1 d c f l;obtain⟨Z,g1,g2,g3,_⟩:=Asl (hb i) hn s he ab ad q s1 d c l;exact⟨i,G,Z,hi,g1,g2,g3,c,f,l⟩);refine A39 J' N (g N s0 σ ι H e a w ⟨hN,h0⟩ hs hh (Le.refl _ _ _) s he rfl rfl (Hi.refl _ _)) ?_;rintro k a1 w1 ⟨i,G,Y,⟨hi,a7⟩,q,s1,d,c,f,l⟩;(have af:Hw (C8 H (B i)) n:=by intro y hy;have a0:=hb i;unfold N3 at a0;rw[Gg,Fd,Fd]at a0;rw[Aaz (λp hp e=>by have:=Ie (a0.2 p hp);omega)];exact hn y hy);cases k with|zero=>cases hi|succ k=>simp only[Kf]at hi;cases ho:step i with|none=>rw[ho]at hi;cases hi|some o=>rw[ho]at hi;refine a8 i (λs=>a1.tmps.getD s undef) (λ_ e' H'=>∃s',(Kf step k s'=some x/\j s')/\Ir e' (L s')/\Is H' (C8 H (B s')) n n) o ho ?_ ?_ a7 hT hm F W G Y a1 w1 _ (by rw[c];exact aa) s1 d af ?_;intro y hy;subst hy;simp only[Option.some.injEq]at hi;rw[hi];exact h;intro s' n' e' H' R h1 h2 h3;subst R;exact⟨s',⟨hi,h3⟩,h1,h2⟩;intro x n2 e2 H2 σ2 Z a2 w2 hq I s2 a3 a6 D z A M;cases x with|normal=>obtain⟨i',ac,R,ae⟩:=hq;exact⟨k,ω,g k i' σ2 Z H2 e2 a2 w2 ac R ae (q.trans I) s2 a3 (z.trans c) (A.trans f) (l.trans M)⟩|exit id=>exact hk (.exit id) n2 e2 H2 σ2 Z a2 w2 hq (q.trans I) s2 a3 a6 D (z.trans c) (A.trans f) (l.trans M)|ret=>exact hk .ret n2 e2 H2 σ2 Z a2 w2 hq (q.trans I) s2 a3 a6 D (z.trans c) (A.trans f) (l.trans M)
theorem Na{c:Code}(J:S->Prop)(l:S->Λ (Nat×AV))(q:S->Λ (Nat×Bt))(hb:∀s,N3 n (l s) (q s)=true)(d:∀(K:Nat->Ck->Hp->Prop),(∀s R e' H',J s->Ir e' (l s)->Is H' (C8 H (q s)) n n->K R e' H')->wc P C c K X U n e H)(a2:∀(s:S)(u:Nat->Value),J s->V n (Mb (Ig c) e u (l s)) (C8 H (q s))):wc P C c V X U n e H:=by intro a0 hm F W σ ι a w Q B s he hn hk;refine d (λ_ e' H'=>∃s,J s/\Ir e' (l s)/\Is H' (C8 H (q s)) n n) (λs _ _ _ h1 h2 h3=>⟨s,h1,h2,h3⟩) a0 hm F W σ ι a w _ B s he hn ?_;intro x I L M y G a1 z hq f A g j k b h hu;cases x with|normal=>obtain⟨i,hi,D,E⟩:=hq;obtain⟨N,g1,g2,g3,g4⟩:=Asl (hb i) hn s he D E f A g b hu;exact hk .normal n _ _ y N a1 z (a2 i (λs=>a1.tmps.getD s undef) hi) g1 g2 g3 g4 (Nat.le_refl _) b h hu|exit id=>exact hk (.exit id) I L M y G a1 z hq f A g j k b h hu|ret=>exact hk .ret I L M y G a1 z hq f A g j k b h hu
theorem A4u(E:Dx P C.T)(hm:P.follows .mixedOrders=true){f:FuncId}{c:Code}{args:Λ AV}{r:AV}(D:P.funcs[f]?=some fn)(hb:fn.body=some c)(g:(fn.name == "runtime.NumGoroutine")=false)(b:Xy fn c args.length=true)(h:r.free=true)(J:wc P C c (λ_ e H=>Uy C.T fn.results.toList (· = r) e H) (λ_ _ _ _=>False) (λ_ e H=>Uy C.T fn.results.toList (· = r) e H) 0 (Xx args) H0):Ay P f args r:=by unfold Xy at b;simp only[Gg]at b;obtain⟨⟨u,y⟩,G⟩:=b;have G:=Gz G;refine⟨⟨fn,D,g,by rw[hb];rfl⟩,λσ F W w vs s hc=>?_⟩;(have j:(vs++Array.replicate (fn.ntmps-vs.size) undef).size=fn.ntmps:=by have:=hc.1;simp;omega);refine calls_of_wp D hb (J E hm F W σ ι0 _ w _ (by rw[j];exact u) s (Ar3 hc) (λ_ _=>rfl) ?_);intro x U e' H' N R B w' d le s' z _ _ i A _;(have k:∀q∈fn.results.toList,Uz q<B.tmps.size:=by intro q X;rw[i];have:=Ie (Fd.1 y q X);rw[j];exact this);(have fin:Uy C.T fn.results.toList (· = r) e' H'->B.defers=[]/\∃v,(results fn B.tmps).run P w'=.ok v w'/\∃v0 l,Ending.returned v=.returned v0/\σ.le l/\St l ι0 H0 F W w'/\Conc l ι0 H0 r v0:=by intro d;obtain⟨v,I,V,S,h1,h2,h3,M,L⟩:=A4e E s' z k d;subst h2;exact⟨A,v,h1,v,I,rfl,Bd.le_trans le.sto h3.sto,M.forget,L.to0 h⟩);cases x with|normal=>exact fin d|ret=>exact fin d|exit id=>exact d.elim
theorem A4v(fz:Bool)(X:Dx P C.T)(hm:P.follows .mixedOrders=true){f:FuncId}{c:Code}{args:Λ AV}{r:AV}{B b:Λ Bt}(V:P.funcs[f]?=some fn)(hb:fn.body=some c)(l:(fn.name == "runtime.NumGoroutine")=false)(j:Xy fn c args.length=true)(g:Ali B r b=true)(hv:wc P C c (λ_ e H=>U2 C.T fz fn.results.toList r b e H) (λ_ _ _ _=>False) (λ_ e H=>U2 C.T fz fn.results.toList r b e H) B.length (Xx args) (hp B)):B9 P f args B r b:=by unfold Xy at j;unfold Ali at g;simp only[Gg]at j g;obtain⟨⟨I,L⟩,Y⟩:=j;obtain⟨⟨E,J⟩,N⟩:=g;have E:=Gz E;have Y:=Gz Y;refine⟨⟨fn,V,l,by rw[hb];rfl⟩,λσ F W w ι vs s hc=>?_⟩;(have A:(vs++Array.replicate (fn.ntmps-vs.size) undef).size=fn.ntmps:=by have:=hc.1;simp;omega);refine calls_of_wp V hb (hv X hm F W σ ι _ w _ (by rw[A];exact I) s (Ar3 hc) (λ_ h=>Se h) ?_);intro x n' e' H' σ' ι' U w' d le s' R _ _ z S _;(have D:∀q∈fn.results.toList,Uz q<U.tmps.size:=by intro q a0;rw[z];have:=Ie (Fd.1 L q a0);rw[A];exact this);(have fin:U2 C.T fz fn.results.toList r b e' H'->U.defers=[]/\∃v,(results fn U.tmps).run P w'=.ok v w'/\∃v0 G ι0,Ending.returned v=.returned v0/\Le σ ι (hp B) G ι0 (hp b)/\St G ι0 (hp b) F W w'/\Conc G ι0 (hp b) r v0:=by intro d;obtain⟨v,Z,H2,h1,h2,h3,h4,h5⟩:=A4f X s' R D d;(have u:∀i,i<b.length->H2 i=hp b i:=λi hi=>by simpa using h2.spec i hi);refine⟨S,v,h1,v,Z,λk=>if k<b.length then ι' k else .none,rfl,?_,h4.first b u N,?_⟩;have y:=le.trans h3;refine⟨y.sto,λk=>?_⟩;by_cases hk:k<b.length;rw[if_pos hk,<-u k hk];exact y.obj k;rw[if_neg hk,Se ω,Se ω];have:ι k=.none:=(by have:=s.obj k;unfold C9 at this;rw[Se ω]at this;exact this);rw[this];exact HLe.refl _ _;exact h5.restrict (n:=b.length) (λh M=>if_pos M) (λh M=>(u h M).symm) J);cases x with|normal=>exact fin d|ret=>exact fin d|exit id=>exact d.elim
end
variable{a:Act}{P:Program}{w:World}
theorem Asn{id:Nat}:∀{k b:Λ Item},exitTo id k=some b->b.length<k.length
 |[],b,h=>by cases h
 |x::k,b,h=>by have ih:exitTo id k=some b->b.length<(x::k).length:=λh=>Nat.lt_succ_of_lt (Asn h);unfold exitTo at h;split at h;rename_i c u d;cases d;split at h;cases h;simp;exact ih h;rename_i B u _ d;cases d;exact ih h;rename_i d;cases d
theorem Aly{m c b:Machine}(h:step P m=.next c)(u:Steps P m b):b=m\/Steps P c b:=by obtain⟨n,d⟩:=u;cases n with|zero=>left;simp only[runN,Stepped.next.injEq]at d;exact d.symm|succ n=>right;simp only[runN,h]at d;exact⟨n,d⟩
theorem Aso{b:Frame}{f:Act}{k c:Λ Item}{cs:Λ Frame}{w':World}(h:lone (b.at a k) cs w=lone (b.at f c) cs w'):k=c:=by simp only[lone,Machine.mk.injEq,Array.mk.injEq,List.cons.injEq,Goroutine.mk.injEq,Frame.at,Frame.mk.injEq]at h;exact h.2.1.1.1.2.2.1
def A4w:Exit->Bool
 |.normal|.exit _|.ret=>true
 |_=>false
theorem A4x{Q:Exit->Act->World->Prop}{c:Code}(h:c.wp P (Exit.then (λD w'=>(Code.loop c).wp P (λe a w=>A4w e=true/\Q e a w) D w') Q) a w):(Code.loop c).wp P Q a w:=by intro b k cs;obtain⟨e,d,i,I,f⟩:=h b (.inLoop c::k) cs;(have first:Steps P (lone (b.at a (.code (.loop c)::k)) cs w) (lone (b.at a (.code c::.inLoop c::k)) cs w):=.one step_loop);cases e with|normal=>(obtain⟨u,M,y,⟨s,q⟩,g⟩:=I b k cs;have j:Steps P (lone (b.at a (.code (.loop c)::k)) cs w) (lone (b.at d (.code c::.inLoop c::k)) cs i):=first.trans (Steps.trans f (.one step_inLoop));refine⟨u,M,y,q,.of_steps j ?_⟩;cases u with|normal=>(rcases Aly step_loop g with e|e;have:=congrArg length (Aso e);simp at this;exact e)|exit id=>(intro z L;rcases Aly step_loop (g z L)with e|e;have R:=Asn L;have N:=congrArg length (Aso e);simp at N;omega;exact e)|ret=>(obtain⟨J,A⟩:=g;rcases Aly step_loop A with e|e;simp only[lone,Machine.mk.injEq,Array.mk.injEq,List.cons.injEq,Goroutine.mk.injEq,Frame.at,Frame.mk.injEq]at e;simp at e;exact⟨J,e⟩)|goto l=>cases s|panic B=>cases s|outgrown=>cases s)|exit id=>exact⟨_,d,i,I,.of_steps first (.pass (x:=.inLoop c) rfl (λ_ _=>.inl ψ) f)⟩|goto l=>exact⟨_,d,i,I,.of_steps first (.pass (x:=.inLoop c) rfl (λ_ _=>.inl ψ) f)⟩|ret=>exact⟨_,d,i,I,.of_steps first (.pass (x:=.inLoop c) rfl (λ_ _=>.inl ψ) f)⟩|panic B=>exact⟨_,d,i,I,.of_steps first (.pass (x:=.inLoop c) rfl (λ_ _=>.inl ψ) f)⟩|outgrown=>exact⟨_,d,i,I,.of_steps (b:=b) (k:=k) (cs:=cs) (e:=.outgrown) first (.pass (x:=.inLoop c) rfl (λ_ _=>.inl ψ) f)⟩
section
variable{P:Program}{C:Cfg}{V:Nat->Ck->Hp->Prop}{X:Nat->Nat->Ck->Hp->Prop}{U:Nat->Ck->Hp->Prop}{n:Nat}{e:Ck}{H:Hp}
theorem Abg{c:Code}(k:wc P C c (λn e H=>wc P C (.loop c) V X U n e H) X U n e H):wc P C (.loop c) V X U n e H:=by intro N hm F W σ ι a w Q l s he hn hk;refine A4x (k N hm F W σ ι a w _ l s he hn ?_);intro x L R S y z a1 A hq f B h g q b i hu;cases x with|normal=>refine hq N hm F W y z a1 A _ (by rw[b];exact l) B h g ?_;intro x Z e2 H2 a3 d a2 a0 G D Y J I M j u E;exact⟨by cases x<;>rfl,hk x Z e2 H2 a3 d a2 a0 G (f.trans D) Y J I ω (j.trans b) (u.trans i) (hu.trans E)⟩|exit id=>exact hk (.exit id) L R S y z a1 A hq f B h g q b i hu|ret=>exact hk .ret L R S y z a1 A hq f B h g q b i hu
def Vw(x:AV)(v:Value):Prop:=∀sz xs,x=.sl sz xs->∃p c,v=.slice p xs.length c/\(p=none->xs=[])
theorem Abh{c:Code}(s:Nat)(k:∀v,Vw (e s) v->wc P C c V X U n (Bg e s (.val v)) H):wc P C c V X U n e H:=by intro x I F W σ ι a w Q f u B J L;by_cases y:s<a.tmps.size;have M:=B s y;refine k (a.tmps.getD s undef) ?_ x I F W σ ι a w Q f u ?_ J L;intro sz xs N;rw[N]at M;(rcases M.sl_inv.sl_inv with⟨rfl,p,d,e⟩|⟨b,off,d,C,E,R,g,e,_⟩);exact⟨p,d,e,λ_=>rfl⟩;exact⟨_,d,e,λh=>by cases h⟩;intro q D;by_cases h:q=s;subst h;rw[Cr];exact .of_val _;rw[De _ _ h];exact B q D;have l:∃v,Vw (e s) v:=(by cases N:e s with|sl sz xs=>exact⟨.slice (some ⟨0,0,none⟩) xs.length 0,λj i h=>by cases h;exact⟨_,_,rfl,λh=>by cases h⟩⟩|_=>exact⟨undef,λj i h=>by cases h⟩);obtain⟨v,l⟩:=l;refine k v l x I F W σ ι a w Q f u ?_ J L;intro q D;rw[De _ _ ω];exact B q D
end
theorem St.move{σ:Bd}{ι:Cl}{H:Hp}{F:Bd}{W w:World}(s:St σ ι H F W w){h n:Nat}{E:TypeId}{sz:Nat}{xs:Λ AV}(hn:Hw H n)(u:H h=.rows E sz xs):St σ (Bg ι n (ι h)) (Bg (Bg H h .dead) n (.rows E sz xs)) F W w/\Le σ ι H σ (Bg ι n (ι h)) (Bg (Bg H h .dead) n (.rows E sz xs)):=by(have L:h≠n:=λe=>by rw[e,hn n (Nat.le_refl _)]at u;cases u);(have A:ι n=.none:=by have:=s.obj n;unfold C9 at this;rw[hn n (Nat.le_refl _)]at this;exact this);(have le:Le σ ι H σ (Bg ι n (ι h)) (Bg (Bg H h .dead) n (.rows E sz xs)):=by refine⟨Bd.le_refl σ,λx=>?_⟩;by_cases e:x=n;subst e;rw[A,hn x (Nat.le_refl _)];exact HLe.of_none;rw[De _ _ e,De _ _ e];by_cases g:x=h;subst g;rw[Cr,u];exact⟨λ_ q=>q,λ_ q=>(by cases q),λ_ _ _ _ q=>(by cases q)⟩;rw[De _ _ g];exact HLe.refl _ _);refine⟨⟨s.sto,s.fra,λx=>?_,λx y b k J l B=>?_,s.os,s.tape,s.output,s.glo,s.drw⟩,le⟩;by_cases e:x=n;subst e;have f:=s.obj h;unfold C9 at f⊢;rw[u]at f;rw[Cr,Cr];exact f;by_cases g:x=h;subst g;unfold C9;rw[De _ _ e,Cr];trivial;have f:=s.obj x;unfold C9 at f⊢;rw[De _ _ e,De _ _ g,De _ _ e];(cases hx:H x with|cells T cs=>rw[hx]at f;obtain⟨b,C,d,N,R,U,V,X⟩:=f;exact⟨b,C,d,N,R,U,V,λi c v q I=>(X i c v q I).mono le⟩|none=>rw[hx]at f;exact f|dead=>trivial|rows T z ys=>rw[hx]at f;exact f|map es=>rw[hx]at f;exact f);(have j:∀x b,((Bg (Bg H h .dead) n (.rows E sz xs)) x).live=true->((Bg ι n (ι h)) x).block?=some b->∃y,(H y).live=true/\(ι y).block?=some b/\((x=n/\y=h)\/(x≠n/\x≠h/\y=x)):=by intro x b k l;by_cases e:x=n;subst e;rw[Cr]at l;exact⟨h,by rw[u];rfl,l,.inl ⟨rfl,rfl⟩⟩;rw[De _ _ e]at k l;by_cases g:x=h;subst g;rw[Cr]at k;cases k;rw[De _ _ g]at k;exact⟨x,k,l,.inr ⟨e,g,rfl⟩⟩);obtain⟨G,a1,a2,a3⟩:=j x b k l;obtain⟨D,b1,b2,M⟩:=j y b J B;have:=s.inj G D b a1 b1 a2 b2;rcases a3 with⟨rfl,rfl⟩|⟨c1,c2,rfl⟩<;>rcases M with⟨d0,d1⟩|⟨d1,d2,d3⟩<;>omega
section
variable{P:Program}{C:Cfg}{V:Nat->Ck->Hp->Prop}{X:Nat->Nat->Ck->Hp->Prop}{U:Nat->Ck->Hp->Prop}{n:Nat}{e:Ck}{H:Hp}{β:Type}{r:β}
end
variable{α:Type}{l r:Λ α}{cmp:α->α->Ο Int}
structure P9{α:Type}(cf:α->α->Int):Prop where
 irr:∀x,¬cf x x<0
 trs:∀x y z,cf x y<0->cf y z<0->cf x z<0
 ntr:∀x y z,¬cf x y<0->¬cf y z<0->¬cf x z<0
def Q7(cmp:α->α->Ο Int)(l r:Λ α):Prop:=∃cf:α->α->Int,P9 cf/\(∀x∈l,∀y∈l,cmp x y=some (cf x y))/\r.Perm l/\r.Pairwise (λx y=>cf x y<0)
open Classical in
noncomputable def Sq{α:Type}(cmp:α->α->Ο Int)(l:Λ α):Ο (List α):=if h:∃r,Q7 cmp l r then some (Classical.choose h)else none
theorem Agc(h:Sq cmp l=some r):Q7 cmp l r:=by unfold Sq at h;split at h;rename_i k;cases h;exact Classical.choose_spec k;cases h
theorem A4y(h:Q7 cmp l r):∃b,Sq cmp l=some b/\Q7 cmp l b:=by unfold Sq;rw[dif_pos ⟨r,h⟩];exact⟨_,rfl,Classical.choose_spec (⟨r,h⟩:∃r,Q7 cmp l r)⟩
def Me(n:Nat)(a:Λ α):Ο (List α×List α):=(Cg n [] a).bind λo=>some ([],o)
def Qa(n:Int):Ο (List α):=bif decide (0<=n)&&decide (n<=1000000)then some []else none
def Qb(cmp:α->α->Ο Int)(l r:Λ α):Prop:=∃cf:α->α->Int,P9 cf/\(∀x∈l,∀y∈l,cmp x y=some (cf x y))/\r.Perm l/\r.Pairwise (λx y=>¬cf y x<0)
open Classical in
noncomputable def A4z{α β:Type}(cmp:α->α->Ο Int)(l:Λ α)(k:Λ α->Ο β):Ο β:=if h:∃r,(∃o,Qb cmp l o)/\∀o,Qb cmp l o->k o=some r then some (Classical.choose h)else none
structure Alz(α:Type) where
 f:List α->Option (List α)
 cmp:α->α->Option Int
 l:List α
noncomputable def Alz.bind{β:Type}(s:Alz α)(k:Λ α->Ο β):Ο β:=bif Nat.ble s.l.length 12 then(s.f s.l).bind k else A4z s.cmp s.l k
section
variable{P:Program}{C:Cfg}{V:Nat->Ck->Hp->Prop}{X:Nat->Nat->Ck->Hp->Prop}{U:Nat->Ck->Hp->Prop}{n:Nat}{e:Ck}{H:Hp}
end
end Go.Ab
