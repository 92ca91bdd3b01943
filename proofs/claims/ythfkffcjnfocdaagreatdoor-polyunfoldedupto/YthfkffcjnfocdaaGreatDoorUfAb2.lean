/- Abstract values. -/
import Derived.Test.YthfkffcjnfocdaaGreatDoorUfAb
open List
namespace Go.Ab
def H0:Hp:=λ_=>.none
def ι0:B6:=λ_=>.none
def X2(P:Program)(f:FuncId):Prop:=∃fn,P.funcs[f]?=some fn/\(fn.name == "runtime.NumGoroutine")=false/\fn.body.isNone=false
def Ml(σ:Aw)(ι:B6)(H:Hp)(args:Λ AV)(vs:Array Value):Prop:=vs.size=args.length/\∀(i:Nat)(a:AV)(v:Value),args[i]?=some a->vs[i]?=some v->Conc σ ι H a v
def Ba(P:Program)(f:FuncId)(args:Λ AV)(r:AV):Prop:=X2 P f/\∀(σ F:Aw)(W w:World)(d:Array Value),St σ ι0 H0 F W w->Ml σ ι0 H0 args d->Calls P f d w λe w'=>∃v b,e=.returned v/\σ.le b/\St b ι0 H0 F W w'/\Conc b ι0 H0 r v
def AV.under0(n:Nat):AV->Bool
 |.loc h _|.mp h|.vec h _=>Nat.blt h n
 |.arr h _ _ _|.el h _ _ _=>Nat.blt h n
 |.val _|.sl _ _|.ref _|.fb _|.sf _|.sp _=>true
 |_=>false
def AV.under1(n:Nat):AV->Bool
 |.loc h _|.mp h|.vec h _=>Nat.blt h n
 |.arr h _ _ _|.el h _ _ _=>Nat.blt h n
 |.val _|.sl _ _|.ref _|.fb _|.sf _|.sp _=>true
 |.fn _ cs=>cs.all (AV.under0 n)
 |_=>false
def AV.under2(n:Nat):AV->Bool
 |.agg cs=>cs.all (AV.under1 n)
 |x=>x.under1 n
def AV.under(n:Nat):AV->Bool
 |.agg cs|.fn _ cs=>cs.all (AV.under1 n)
 |.tup cs=>cs.all (AV.under2 n)
 |x=>x.under1 n
def Bs.under(n:Nat):Bs->Bool
 |.cells _ cs=>cs.all (AV.under1 n)
 |.map _=>true
 |.rows _ _ _=>true
 |.none=>true
 |.dead=>true
def Alr(es:Nat->Nat):AV->AV
 |.loc h off=>.loc (es h) off
 |.mp h=>.mp (es h)
 |.vec h k=>.vec (es h) k
 |.arr h k off len=>.arr (es h) k off len
 |.el h k i j=>.el (es h) k i j
 |x=>x
def Qg(es:Nat->Nat):AV->AV
 |.loc h off=>.loc (es h) off
 |.mp h=>.mp (es h)
 |.vec h k=>.vec (es h) k
 |.arr h k off len=>.arr (es h) k off len
 |.el h k i j=>.el (es h) k i j
 |.fn f cs=>.fn f (cs.map (Alr es))
 |x=>x
variable{r:AV}{g:Λ Bs}{P:Program}
def Als(es:Nat->Nat):AV->AV
 |.agg cs=>.agg (cs.map (Qg es))
 |x=>Qg es x
def ren(es:Nat->Nat):AV->AV
 |.agg cs=>.agg (cs.map (Qg es))
 |.tup cs=>.tup (cs.map (Als es))
 |.fn f cs=>.fn f (cs.map (Qg es))
 |x=>Qg es x
def K7(es:Nat->Nat):Bs->Bs
 |.cells E cs=>.cells E (cs.map (Qg es))
 |o=>o
def hp(b:Λ Bs):Hp:=λk=>b.getD k .none
def Bn(P:Program)(f:FuncId)(args:Λ AV)(h:Λ Bs)(r:AV)(b:Λ Bs):Prop:=X2 P f/\∀(σ F:Aw)(W w:World)(ι:B6)(d:Array Value),St σ ι (hp h) F W w->Ml σ ι (hp h) args d->Calls P f d w λe w'=>∃v c g,e=.returned v/\Le σ ι (hp h) c g (hp b)/\St c g (hp b) F W w'/\Conc c g (hp b) r v
def Tj(P:Program)(f:FuncId)(args:Λ AV)(h:Λ Bs)(R:AV->Λ Bs->Prop):Prop:=X2 P f/\∀(σ F:Aw)(W w:World)(ι:B6)(d:Array Value),St σ ι (hp h) F W w->Ml σ ι (hp h) args d->Calls P f d w λe w'=>∃r b v c g,R r b/\e=.returned v/\Le σ ι (hp h) c g (hp b)/\St c g (hp b) F W w'/\Conc c g (hp b) r v
theorem Bn.toR{f:FuncId}{args:Λ AV}{c:Λ Bs}(h:Bn P f args g r c):Tj P f args g λa b=>a=r/\b=c:=⟨h.1,λσ F W w ι vs s hc=>(h.2 σ F W w ι vs s hc).mono λ_ _ ⟨v,i,j,a⟩=>⟨r,c,v,i,j,⟨rfl,rfl⟩,a⟩⟩
theorem Tj.one{f:FuncId}{args:Λ AV}{R:AV->Λ Bs->Prop}{c:Λ Bs}(h:Tj P f args g R)(h1:∀a b,R a b->a=r/\b=c):Bn P f args g r c:=⟨h.1,λσ F W w ι vs s hc=>(h.2 σ F W w ι vs s hc).mono λ_ _ ⟨a,b,v,i,j,k,q⟩=>⟨v,i,j,by obtain⟨rfl,rfl⟩:=h1 a b k;exact q⟩⟩
def Dp(n:Nat):Λ Nat->Nat->Nat
 |[],k=>n+k
 |h::_,0=>h
 |_::l,k+1=>Dp n l k
def Rx(n:Nat):Λ Nat->Bool
 |[]=>true
 |h::l=>Nat.blt h n && !(l.elem h)&&Rx n l
def Fp(es:Nat->Nat):Nat->Λ Bs->Λ (Nat×Bs)
 |_,[]=>[]
 |k,o::os=>(es k,K7 es o)::Fp es (k+1) os
def Cy(es:Nat->Nat):Nat->Nat->Λ (Nat×Bs)
 |_,0=>[]
 |k,c+1=>(es k,.none)::Cy es (k+1) c
def Pd(H:Hp):Λ (Nat×Bs)->Prop
 |[]=>True
 |p::l=>H p.1=p.2/\Pd H l
def M0(n:Nat)(l:Λ Nat)(c:Λ AV)(f:Λ Bs)(r:AV)(b:Λ Bs):Bool:=Rx n l&&Nat.beq f.length l.length&&Nat.ble l.length b.length&&c.all (AV.under l.length)&&f.all (Bs.under l.length)&&r.under b.length&&b.all (Bs.under b.length)
inductive Vn(xs:List AV)(i:Int)(K:Nat->AV->Prop):Prop where
 |mk(n:Nat)(x:AV)(hi:i=n)(hx:xs[n]?=some x)(k:K n x)
inductive Vo(len:Nat)(kk:Nat)(xs:List AV)(i:Int)(K:Nat->Prop):Prop where
 |mk(n:Nat)(hk:xs.length=kk)(hi:i=n)(hn:n<len)(k:K n)
inductive Ry(len:Nat)(i:Int)(K:Nat->Prop):Prop where
 |mk(n:Nat)(hi:i=n)(hn:n<len)(k:K n)
inductive J5(k:IntKind)(n:Int)(K:Int->Prop):Prop where
 |mk(c:Int)(h:k.wrap n=c)(k:K c)
inductive Afy(k:IntKind)(m n:Int)(K:Int->Prop):Prop where
 |mk(c:Int)(hn:n≠0)(h:k.wrap (m.tdiv n)=c)(k:K c)
inductive Afz(m n:Int)(K:Int->Prop):Prop where
 |mk(c:Int)(hn:n≠0)(h:m.tmod n=c)(k:K c)
inductive Af0(k:IntKind)(m n:Int)(K:Int->Prop):Prop where
 |mk(c:Int)(hn:0<=n)(h:m.fdiv (2^(min n.toNat k.bits))=c)(k:K c)
inductive Af1(k:IntKind)(m n:Int)(K:Int->Prop):Prop where
 |mk(c:Int)(hn:0<=n)(h:k.wrap (m*2^(min n.toNat k.bits))=c)(k:K c)
inductive Af2(n:Nat)(lo hi:Int)(K:Nat->Nat->Prop):Prop where
 |mk(l h:Nat)(el:lo=l)(eh:hi=h)(h1:l<=h)(h2:h<=n)(k:K l h)
inductive Pe(xs:List AV)(lo hi:Int)(K:List AV->Prop):Prop where
 |mk(l h:Nat)(ys:List AV)(el:lo=l)(eh:hi=h)(h1:l<=h)(h2:h<=xs.length)(hy:(xs.take h).drop l=ys)(k:K ys)
inductive Af3(kk:Nat)(xs:List AV)(n:Nat)(lo hi:Int)(K:Nat->Nat->Prop)(KE:Prop):Prop where
 |mk(l h:Nat)(hk:xs.length=kk)(el:lo=l)(eh:hi=h)(h1:l<=h)(h2:h<=n)(h3:l=0\/l<h)(k:K l h)
 |mkE(l:Nat)(hk:xs.length=kk)(el:lo=l)(eh:hi=l)(h2:l<=n)(k:KE)
inductive Af4(s:ByteArray)(i:Int)(K:UInt8->Prop):Prop where
 |mk(n:Nat)(c:UInt8)(hi:i=n)(hc:s[n]?=some c)(k:K c)
inductive Af5(xs:List AV)(K:ByteArray->Prop):Prop where
 |mk(bs:List UInt8)(hx:xs=bs.map λb=>.val (.int .u8 b.toNat))(k:K ⟨bs.toArray⟩)
inductive Af6(n:Nat)(K:Prop):Prop where
 |mk(h:n<=9223372036854775807)(k:K)
inductive Vp(len cap:Int)(bytes:Nat)(z:AV)(K:Nat->List AV->Prop):Prop where
 |mk(l c:Nat)(zs:List AV)(el:len=l)(ec:cap=c)(h1:l<=c)(h2:bytes*c<=281474976710656)(h3:c<=140737488355328)(hz:replicate l z=zs)(k:K l zs)
 |mkN(z':AV)(hn:G9 z.cells z'.cells)(l c:Nat)(zs:List AV)(el:len=l)(ec:cap=c)(h1:l<=c)(h2:bytes*c<=281474976710656)(h3:c<=140737488355328)(hz:replicate l z'=zs)(k:K l zs)
inductive Pf(xs ys:List AV)(kk len bytes:Nat)(K:List AV->Nat->Prop)(KP:List AV->Nat->Nat->Prop):Prop where
 |mkP(zs:List AV)(k' m:Nat)(hk:xs.length=kk)(hl:len<=kk)(hb:(xs.length+ys.length)*bytes<=140737488355328)(hz:Gg xs len ys=zs)(hk':zs.length=k')(hm:len+ys.length=m)(k:KP zs k' m)
 |mk(zs:List AV)(m:Nat)(hk:xs.length=kk)(hl:len=kk)(hb:(xs.length+ys.length)*bytes<=140737488355328)(hz:xs++ys=zs)(hm:kk+ys.length=m)(k:K zs m)
inductive A5r(ys:List AV)(K:Prop):Prop where
 |mk(hy:ys=[])(k:K)
inductive Vq(ys:List AV)(bytes:Nat)(K:List AV->Nat->Prop):Prop where
 |mk(zs:List AV)(m:Nat)(hb:ys.length*bytes<=140737488355328)(hz:ys=zs)(hm:ys.length=m)(k:K zs m)
inductive A5s(xs:List AV)(kk len k2 off2 len2 bytes:Nat)(K:List AV->Nat->Nat->Prop):Prop where
 |mk(zs:List AV)(k' m:Nat)(hk:xs.length=kk)(hl:len<=kk)(hk2:xs.length=k2)(hl2:off2+len2<=kk)(hb:(xs.length+len2)*bytes<=140737488355328)(hz:Gg xs len ((xs.drop off2).take len2)=zs)(hk':zs.length=k')(hm:len+len2=m)(k:K zs k' m)
inductive Ar4(xs xs2:List AV)(kk len k2 off2 len2 bytes:Nat)(K:List AV->Nat->Prop):Prop where
 |mk(zs:List AV)(m:Nat)(hk:xs.length=kk)(hl:len=kk)(hk2:xs2.length=k2)(hl2:off2+len2<=k2)(hb:(xs.length+len2)*bytes<=140737488355328)(hz:xs++(xs2.drop off2).take len2=zs)(hm:kk+len2=m)(k:K zs m)
inductive A5t(xs:List AV)(kk off len k2 off2 len2:Nat)(K:List AV->Nat->Prop):Prop where
 |mk(zs:List AV)(c:Nat)(hk:xs.length=kk)(hl:off+len<=kk)(hk2:xs.length=k2)(hl2:off2+len2<=kk)(hz:Gg xs off ((xs.drop off2).take (min len2 len))=zs)(hc:min len2 len=c)(k:K zs c)
inductive Ar5(xs:List AV)(kk off len:Nat)(z:AV)(K:List AV->Prop):Prop where
 |mk(zs:List AV)(hk:xs.length=kk)(hl:off+len<=kk)(hz:Gg xs off (replicate len z)=zs)(k:K zs)
inductive Alt(a b:Nat)(K:Prop):Prop where
 |mk(h:a<=b)(k:K)
inductive Alu(xs:List AV)(n:Nat)(K:List AV->Prop):Prop where
 |mk(ys:List AV)(hy:xs.take n=ys)(k:K ys)
inductive X3(xs:List AV)(q:Nat)(p:AV)(K:List AV->Prop):Prop where
 |mk(zs:List AV)(hz:xs.set q p=zs)(k:K zs)
inductive Ar6(a b:List AV)(K:Prop):Prop where
 |mk(h:b=a)(k:K)
inductive N9(xs:List AV)(K:Int->Prop):Prop where
 |mk(c:Int)(hc:(xs.length:Int)=c)(k:K c)
inductive Oa(kk i:Nat)(xs:List AV)(K:AV->Prop):Prop where
 |mk(x:AV)(hk:xs.length=kk)(hx:xs[i]?=some x)(k:K x)
inductive Iq(kk:Nat)(xs:List AV)(K:Prop):Prop where
 |mk(hk:xs.length=kk)(k:K)
def Ext(P:Program)(f:FuncId)(args:Λ AV)(r:AV):Prop:=∀(σ F:Aw)(W w:World)(d:Array Value),St σ ι0 H0 F W w->Ml σ ι0 H0 args d->∃v,(callFunc f d).run P w=.ok (.value v) w/\Conc σ ι0 H0 r v
inductive Fy(P:Program)(n:Nat)(H:Hp)(f:FuncId)(args:List AV)(K:Eff->Nat->Prop):Prop where
 |mk(r:AV)(h:Ba P f args r)(hf:args.all AV.free=true)(k:K ⟨r,[],[]⟩ n)
 |ext(r:AV)(h:Ext P f args r)(hf:args.all AV.free=true)(k:K ⟨r,[],[]⟩ n)
 |act(l:List Nat)(largs:List AV)(hs:List Bs)(r:AV)(hs':List Bs)(h:Bn P f largs hs r hs')(ha:largs.map (ren (Dp n l))=args)(ok:M0 n l largs hs r hs'=true)(hh:Pd H (Fp (Dp n l) 0 hs))
   (k:K ⟨ren (Dp n l) r,Fp (Dp n l) 0 hs++Cy (Dp n l) l.length (hs'.length-l.length),Fp (Dp n l) 0 hs'⟩ (n+(hs'.length-l.length)))
 |rd(l:List Nat)(largs:List AV)(hs:List Bs)(r:AV)(h:Bn P f largs hs r hs)(ha:largs.map (ren (Dp n l))=args)(ok:M0 n l largs hs r hs=true)(hh:Pd H (Fp (Dp n l) 0 hs))
   (k:K ⟨ren (Dp n l) r,Fp (Dp n l) 0 hs,[]⟩ n)
inductive Ar7(s:ByteArray)(es:List (AV×AV))(K:Option (Nat×AV)->Prop):Prop where
 |mk(r:Option (Nat×AV))(h:Ln s es 0=some r)(k:K r)
inductive Af7(op:BinOp)(k:FloatKind)(a b:Nat)(K:Nat->Prop):Prop where
 |mk(c:Nat)(h:floatBits op k a b=some c)(k:K c)
inductive Af8(k:FloatKind)(a:Nat)(q:IntKind)(K:Int->Prop):Prop where
 |mk(c:Int)(h:floatToIntVal k a q=some c)(k:K c)
inductive A5u(P:Program)(kt:TypeId)(us:List Value)(es:List (AV×AV))(K:Option (Nat×AV)->Prop):Prop where
 |mk(r:Option (Nat×AV))(hc:Afw P kt us)(h:Qf P kt us es 0 r)(k:K r)
inductive A5v(P:Program)(kt:TypeId)(ks:List AV)(us:List Value)(v:AV)(es:List (AV×AV))(K:List (AV×AV)->Prop):Prop where
 |mk(es':List (AV×AV))(hc:Afw P kt us)(h:Qf P kt us es 0 none)(he:es++[(.agg ks,v)]=es')(k:K es')
inductive Ar8(s:ByteArray)(v:AV)(es:List (AV×AV))(K:List (AV×AV)->Prop):Prop where
 |mk(es':List (AV×AV))(h:Afu s v es=some es')(k:K es')
inductive Ar9(P:Program)(t:TypeId)(us vs:List Value)(K:Bool->Prop):Prop where
 |mk(b:Bool)(h:Afv P t us vs b)(k:K b)
inductive Af9(P:Program)(t:TypeId)(f:Nat)(K:TypeId->Prop):Prop where
 |mk(ft:TypeId)(h:Alm P t f=some ft)(k:K ft)
inductive Asa(P:Program)(f:FuncId)(args:List AV)(K:AV->Prop):Prop where
 |mk(r:AV)(h:Ba P f args r)(hf:args.all AV.free=true)(k:K r)
inductive Ann where
 |frz(j:Nat)
 |std
 |own
 |ask
 |vec(m:Nat)
def Ob:AV->Bool
 |.val (.slice none 0 0)=>true
 |_=>false
def Aas:AV->Bool
 |.val (.agg _)=>false
 |_=>true
def Alv(x:AV)(K:AV->Prop):Prop:=match x with|.val v=>K (.val v)|.loc h off=>K (.loc h off)|.arr h k off len=>K (.arr h k off len)|.el h k i j=>K (.el h k i j)|.mp h=>K (.mp h)|.vec h n=>K (.vec h n)|.ref cs=>K (.ref cs)|.sl sz xs=>K (.sl sz xs)|.agg cs=>K (.agg cs)|.tup cs=>K (.tup cs)|.fn f cs=>K (.fn f cs)|.fb s=>K (.fb s)|.sf xs=>K (.sf xs)|.sp cs=>K (.sp cs)
def Tk:Λ AV->(List AV->Prop)->Prop
 |[],K=>K []
 |x::xs,K=>Alv x λx=>Tk xs λxs=>K (x::xs)
def Vr(x:AV)(K:AV->Prop):Prop:=match x with|.agg cs=>Tk cs λcs=>K (.agg cs)|.tup cs=>Tk cs λcs=>K (.tup cs)|.fn f cs=>Tk cs λcs=>K (.fn f cs)|x=>Alv x K
def X4:Λ AV->(List AV->Prop)->Prop
 |[],K=>K []
 |x::xs,K=>Vr x λx=>X4 xs λxs=>K (x::xs)
def Alw(o:Bs)(K:Bs->Prop):Prop:=match o with|.cells E cs=>Tk cs λcs=>K (.cells E cs)|.rows E sz xs=>K (.rows E sz xs)|.map es=>K (.map es)|.none=>K .none|.dead=>K .dead
def Aga:Λ (Nat×Bs)->(List (Nat×Bs)->Prop)->Prop
 |[],K=>K []
 |p::l,K=>Alw p.2 λo=>Aga l λl=>K ((p.1,o)::l)
def Aat:Λ (Nat×Bs)->(List Nat->Prop)->Prop
 |[],K=>K []
 |p::l,K=>Aat l λl=>K (p.1::l)
theorem Asb(x:AV)(K:AV->Prop):Alv x K=K x:=by cases x<;>rfl
theorem Agb:∀(l:Λ AV)(K:Λ AV->Prop),Tk l K=K l
 |[],_=>rfl
 |x::xs,K=>by simp only[Tk,Asb,Agb xs]
theorem Aau(x:AV)(K:AV->Prop):Vr x K=K x:=by cases x<;>simp only[Vr,Agb,Asb]
theorem Agc:∀(l:Λ AV)(K:Λ AV->Prop),X4 l K=K l
 |[],_=>rfl
 |x::xs,K=>by simp only[X4,Aau,Agc xs]
theorem A5w(o:Bs)(K:Bs->Prop):Alw o K=K o:=by cases o<;>simp only[Alw,Agb]
theorem Asd:∀(l:Λ (Nat×Bs))(K:Λ (Nat×Bs)->Prop),Aga l K=K l
 |[],_=>rfl
 |p::l,K=>by simp only[Aga,A5w,Asd l]
theorem Ase:∀(l:Λ (Nat×Bs))(K:Λ Nat->Prop),Aat l K=K (l.map (·.1))
 |[],_=>rfl
 |p::l,K=>by simp only[Aat,Ase l,map_cons]
def sop(P:Program)(T:Di)(an:Nat->Ann)(n:Nat)(o:Oper)(ρ:Operand->AV)(H:Hp)(K:Eff->Nat->Prop):Prop :=
 match o.op with
 |.move x=>K ⟨ρ x,[],[]⟩ n
 |.assign x=>
  match o.dst with
  |none=>K ⟨ρ x,[],[]⟩ n
  |some d=>
   match an d with
   |.frz _=>K ⟨ρ x,[],[]⟩ n
   |.std=>K ⟨ρ x,[],[]⟩ n
   |.ask=>K ⟨ρ x,[],[]⟩ n
   |.vec _=>K ⟨ρ x,[],[]⟩ n
   |.own=>bif Ob (ρ x)then
     match T o.type with
     |some ⟨.slice e,_,_,_⟩=>
      match T e with
      |some i'=>bif Nat.blt 0 i'.size then K ⟨.arr n 0 0 0,[(n,.none)],[(n,.rows e i'.size [])]⟩ (n+1)else False
      |none=>False
     |_=>False
    else K ⟨ρ x,[],[]⟩ n
 |.pick c a b=>
  match ρ c with
  |.val (.bool t)=>K ⟨bif t then ρ a else ρ b,[],[]⟩ n
  |_=>False
 |.alloc t=>
  match T t with
  |some i=>K ⟨.loc n 0,[(n,.none)],[(n,.cells t (i.zero.map .val))]⟩ (n+1)
  |none=>False
 |.box t x=>K ⟨.loc n 0,[(n,.none)],[(n,.cells t (ρ x).cells)]⟩ (n+1)
 |.build t parts=>
  match T t with
  |some ⟨.struct fs,_,_,z⟩=>
   match Xx fs (z.map .val) (parts.toList.map λp=>(p.1,ρ p.2))with
   |some cs=>K ⟨.agg cs,[],[]⟩ n
   |none=>False
  |_=>False
 |.buildSlice t len parts=>
  match T t with
  |some ⟨.slice e,_,_,_⟩=>
   match T e with
   |some i'=>
    bif Nat.blt 0 i'.size&&(parts.toList.map (·.1)==range' 0 len)&&Nat.ble (len*i'.size) 16777216&&parts.toList.all (λp=>Nc i'.size (ρ p.2))then
     match an (o.dst.getD 0)with
     |.frz _=>False
     |.vec _=>False
     |.std=>X4 (parts.toList.map λp=>ρ p.2) λxs=>K ⟨.sl i'.size xs,[],[]⟩ n
     |.ask=>X4 (parts.toList.map λp=>ρ p.2) λxs=>K ⟨.sl i'.size xs,[],[]⟩ n
     |.own=>X4 (parts.toList.map λp=>ρ p.2) λxs=>K ⟨.arr n len 0 len,[(n,.none)],[(n,.rows e i'.size xs)]⟩ (n+1)
    else False
   |none=>False
  |_=>False
 |.load t x=>
  match T t with
  |some i=>
   match ρ x with
   |.ref cs=>bif i.isAgg then(bif Nat.ble i.size cs.length then K ⟨.agg (cs.take i.size),[],[]⟩ n else False)else
     match cs with
     |c::_=>K ⟨c,[],[]⟩ n
     |[]=>False
   |.loc h off=>
    match H h with
    |.cells E cs=>bif i.isAgg then(bif Nat.ble (off+i.size) cs.length then K ⟨.agg ((cs.drop off).take i.size),[(h,.cells E cs)],[]⟩ n else False)else
      match cs[off]? with
      |some c=>K ⟨c,[(h,.cells E cs)],[]⟩ n
      |none=>False
    |_=>False
   |.el h k q j=>
    match H h with
    |.rows E sz xs=>Oa k q xs λy=>bif i.isAgg then(bif Nat.ble (j+i.size) y.cells.length then K ⟨.agg ((y.cells.drop j).take i.size),[(h,.rows E sz xs)],[]⟩ n else False)else
      match y.cells[j]? with
      |some c=>K ⟨c,[(h,.rows E sz xs)],[]⟩ n
      |none=>False
    |_=>False
   |.sp cs=>bif i.isAgg then(bif Nat.ble i.size cs.length then K ⟨.agg (cs.take i.size),[],[]⟩ n else False)else
     match cs with
     |c::_=>K ⟨c,[],[]⟩ n
     |[]=>False
   |_=>False
  |none=>False
 |.store t x y=>
  match T t with
  |some i=>
   match ρ x with
   |.loc h off=>
    match H h with
    |.cells E cs=>bif Nat.beq (ρ y).cells.length i.size&&Nat.ble (off+i.size) cs.length&&(ρ y).cells.all AV.one then K ⟨.val undef,[(h,.cells E cs)],[(h,.cells E (Pa cs off (ρ y).cells))]⟩ n else False
    |_=>False
   |.el h k q j=>
    match H h with
    |.rows E sz xs=>Oa k q xs λz=>bif Nat.beq (ρ y).cells.length i.size&&Nat.blt 0 i.size&&Nat.ble (j+i.size) z.cells.length&&(ρ y).cells.all AV.cl1&&Aas z then
      Tk (ρ y).cells λys=>Vr (Aal z j ys) λp=>X3 xs q p λg=>K ⟨.val undef,[(h,.rows E sz xs)],[(h,.rows E sz g)]⟩ n else False
    |_=>False
   |.sp cs=>bif Nat.beq (ρ y).cells.length i.size&&Nat.blt 0 i.size&&(ρ y).cells.all AV.cl1 then Ar6 (cs.take i.size) (ρ y).cells (K ⟨.val undef,[],[]⟩ n)else False
   |_=>False
  |none=>False
 |.nilCheck x=>bif(ρ x).isPtr then K ⟨ρ x,[],[]⟩ n else False
 |.binOp op t x y _=>
  match ρ x,ρ y with
  |.val (.int k a),.val (.int G b)=>
   match op with
   |.shl=>Af1 k a b λc=>K ⟨.val (.int k c),[],[]⟩ n
   |.shr=>Af0 k a b λc=>K ⟨.val (.int k c),[],[]⟩ n
   |op=>bif decide (k=G)then
     match op with
     |.add=>J5 k (a+b) λc=>K ⟨.val (.int k c),[],[]⟩ n
     |.sub=>J5 k (a-b) λc=>K ⟨.val (.int k c),[],[]⟩ n
     |.mul=>J5 k (a*b) λc=>K ⟨.val (.int k c),[],[]⟩ n
     |.quo=>Afy k a b λc=>K ⟨.val (.int k c),[],[]⟩ n
     |.rem=>Afz a b λc=>K ⟨.val (.int k c),[],[]⟩ n
     |op=>
      match Ak4 op a b with
      |some t=>K ⟨.val (.bool t),[],[]⟩ n
      |none=>
       match Ak9 op k a b with
       |some c=>K ⟨.val (.int k c),[],[]⟩ n
       |none=>False
    else False
  |.val (.bool a),.val (.bool b)=>
   match T t with
   |some ⟨.bool,_,_,_⟩=>
    match Ala op a b with
    |some t=>K ⟨.val (.bool t),[],[]⟩ n
    |none=>False
   |_=>False
  |.agg xs,.agg ys=>
   match Kv xs with
   |some L=>
    match Kv ys with
    |some vs=>
     match op with
     |.eql=>Ar9 P t L vs λb=>K ⟨.val (.bool b),[],[]⟩ n
     |.neq=>Ar9 P t L vs λb=>K ⟨.val (.bool !b),[],[]⟩ n
     |_=>False
    |none=>False
   |none=>False
  |.val (.float k a),.val (.float G b)=>bif decide (k=G)then Af7 op k a b λc=>K ⟨.val (.float k c),[],[]⟩ n else False
  |.val (.string a),.val (.string b)=>
   match op with
   |.add=>Af6 (a.size+b.size) (K ⟨.val (.string (a++b)),[],[]⟩ n)
   |op=>
    match Alb op a b with
    |some t=>K ⟨.val (.bool t),[],[]⟩ n
    |none=>False
  |.val (.slice p _ _),.val (.slice none _ _)=>
   match op with
   |.eql=>
    match T t with
    |some ⟨.slice _,_,_,_⟩=>K ⟨.val (.bool p.isNone),[],[]⟩ n
    |_=>False
   |_=>False
  |_,_=>False
 |.unOp op _ x=>
  match op,ρ x with
  |.not,.val (.bool b)=>K ⟨.val (.bool !b),[],[]⟩ n
  |.neg,.val (.int k m)=>J5 k (0-m) λc=>K ⟨.val (.int k c),[],[]⟩ n
  |_,_=>False
 |.convert s d x=>
  match T s,T d,ρ x with
  |some _,some ⟨.int k,_,_,_⟩,.val (.int _ m)=>J5 k m λc=>K ⟨.val (.int k c),[],[]⟩ n
  |some _,some ⟨.float k,_,_,_⟩,.val (.int _ m)=>K ⟨.val (.float k (floatOfInt k m)),[],[]⟩ n
  |some _,some ⟨.int k,_,_,_⟩,.val (.float q m)=>Af8 q m k λc=>K ⟨.val (.int k c),[],[]⟩ n
  |some ⟨.slice e,_,_,_⟩,some ⟨.string,_,_,_⟩,.sl sz xs=>
   match T e with
   |some ⟨.int .u8,_,_,_⟩=>bif Nat.beq sz 1 then Af5 xs λs=>K ⟨.val (.string s),[],[]⟩ n else False
   |_=>False
  |_,_,_=>False
 |.makeFunc (.func f) first u=>bif first.isEmpty then K ⟨.fn f (u.toList.map ρ),[],[]⟩ n else False
 |.makeSlice t x y=>
  match T t with
  |some ⟨.slice e,_,_,_⟩=>
   match T e with
   |some i'=>
    match ρ x,ρ y with
    |.val (.int _ l),.val (.int _ c)=>
     match an (o.dst.getD 0)with
     |.vec m=>
      match i'.zero with
      |[v]=>
       bif Nat.beq i'.size 1&&Nat.ble m 16&&Nat.ble (i'.bytes*m) 281474976710656&&decide (l=(m:Int))&&decide (c=(m:Int))then
        K ⟨.vec n m,[(n,.none)],[(n,.cells e (replicate m (.val v)))]⟩ (n+1)
       else False
      |_=>False
     |_=>
     bif Nat.blt 0 i'.size&&Nc i'.size (G4 i')&&Nat.beq (G4 i').cells.length i'.zero.length&&Aas (G4 i')then
      Vp l c i'.bytes (G4 i') λl g=>K ⟨.arr n l 0 l,[(n,.none)],[(n,.rows e i'.size g)]⟩ (n+1)
     else False
    |_,_=>False
   |none=>False
  |_=>False
 |.slice t x lo hi none=>
  match T t with
  |some ⟨.slice e,_,_,_⟩=>
   match T e with
   |some i'=>
    match ρ x with
    |.sl sz xs=>
     match J4 ρ 0 lo,J4 ρ xs.length hi with
     |some l,some h=>bif Nat.beq sz i'.size then Pe xs l h λys=>K ⟨.sl sz ys,[],[]⟩ n else False
     |_,_=>False
    |.arr hd k off len=>
     match H hd with
     |.rows E sz xs=>
      match J4 ρ 0 lo,J4 ρ len hi with
      |some l,some h=>bif Nat.beq sz i'.size then Af3 k xs len l h (λl h=>K ⟨.arr hd k (off+l) (h-l),[(hd,.rows E sz xs)],[]⟩ n) (K ⟨.sl i'.size [],[(hd,.rows E sz xs)],[]⟩ n)else False
      |_,_=>False
     |_=>False
    |_=>False
   |none=>False
  |some ⟨.string,_,_,_⟩=>
   match ρ x with
   |.val (.string s)=>
    match J4 ρ 0 lo,J4 ρ s.size hi with
    |some l,some h=>Af2 s.size l h λl h=>K ⟨.val (.string (s.extract l h)),[],[]⟩ n
    |_,_=>False
   |_=>False
  |_=>False
 |.fieldAddr s x f=>
  match T s with
  |some ⟨.struct fs,_,_,_⟩=>
   match fs[f]? with
   |some q=>
    match ρ x with
    |.loc h off=>K ⟨.loc h (off+q.1),[],[]⟩ n
    |.ref cs=>K ⟨.ref (cs.drop q.1),[],[]⟩ n
    |.el h k m j=>
     match H h with
     |.rows E sz xs=>Iq k xs (K ⟨.el h k m (j+q.1),[(h,.rows E sz xs)],[]⟩ n)
     |_=>False
    |_=>False
   |none=>False
  |_=>False
 |.indexAddr t x y=>
  match T t with
  |some ⟨.slice e,_,_,_⟩=>
   match T e with
   |some i'=>
    match ρ x,ρ y with
    |.vec h m,.val (.int _ i)=>bif Nat.beq i'.size 1 then Ry m i λq=>K ⟨.loc h q,[],[]⟩ n else False
    |.sl sz xs,.val (.int _ i)=>bif Nat.beq sz i'.size then Vn xs i λ_ z=>K ⟨.ref z.cells,[],[]⟩ n else False
    |.arr h k off len,.val (.int _ i)=>
     match H h with
     |.rows E sz xs=>bif Nat.beq sz i'.size then Vo len k xs i λm=>K ⟨.el h k (off+m) 0,[(h,.rows E sz xs)],[]⟩ n else False
     |_=>False
    |.sf xs,.val (.int _ i)=>bif Nat.beq i'.size 2 then Vn xs i λ_ z=>K ⟨.sp z.cells,[],[]⟩ n else False
    |_,_=>False
   |none=>False
  |_=>False
 |.index t x y=>
  match T t with
  |some ⟨.string,_,_,_⟩=>
   match ρ x,ρ y with
   |.val (.string s),.val (.int _ i)=>Af4 s i λc=>K ⟨.val (.int .u8 c.toNat),[],[]⟩ n
   |_,_=>False
  |_=>False
 |.field s x f=>
  match T s with
  |some ⟨.struct fs,_,_,_⟩=>
   match fs[f]? with
   |some q=>
    match ρ x with
    |.agg cs=>Af9 P s f λZ=>
     match T Z with
     |some I=>bif I.isAgg then(bif Nat.ble (q.1+I.size) cs.length then K ⟨.agg ((cs.drop q.1).take I.size),[],[]⟩ n else False)else
       match cs[q.1]? with
       |some c=>K ⟨c,[],[]⟩ n
       |none=>False
     |none=>False
    |_=>False
   |none=>False
  |_=>False
 |.makeMap _ none=>K ⟨.mp n,[(n,.none)],[(n,.map [])]⟩ (n+1)
 |.lookup t x y ok=>
  match T t with
  |some ⟨.map N Y,_,_,_⟩=>
   match T N with
   |some ⟨.string,_,_,_⟩=>
    match T Y with
    |some I=>
     match ρ x with
     |.mp h=>
      match ρ y with
      |.val (.string s)=>
       match H h with
       |.map es=>Ar7 s es λr=>K ⟨Xz ok I r,[(h,.map es)],[]⟩ n
       |_=>False
      |_=>False
     |_=>False
    |none=>False
   |some ⟨.struct _,_,_,_⟩=>
    match T Y with
    |some I=>
     match ρ x with
     |.mp h=>
      match ρ y with
      |.agg S=>
       match Kv S with
       |some L=>
        match H h with
        |.map es=>A5u P N L es λr=>K ⟨Xz ok I r,[(h,.map es)],[]⟩ n
        |_=>False
       |none=>False
      |_=>False
     |_=>False
    |none=>False
   |_=>False
  |_=>False
 |.mapUpdate t x y z=>
  match T t with
  |some ⟨.map N _,_,_,_⟩=>
   match T N with
   |some ⟨.string,_,_,_⟩=>
    match ρ x with
    |.mp h=>
     match ρ y with
     |.val (.string s)=>
      match H h with
      |.map es=>bif(ρ z).free1 then Vr (ρ z) λv=>Ar8 s v es λJ=>K ⟨.val undef,[(h,.map es)],[(h,.map J)]⟩ n else False
      |_=>False
     |_=>False
    |_=>False
   |some ⟨.struct _,_,_,_⟩=>
    match ρ x with
    |.mp h=>
     match ρ y with
     |.agg S=>
      match Kv S with
      |some L=>
       match H h with
       |.map es=>bif(ρ z).free1 then Vr (ρ z) λv=>A5v P N S L v es λJ=>K ⟨.val undef,[(h,.map es)],[(h,.map J)]⟩ n else False
       |_=>False
      |none=>False
     |_=>False
    |_=>False
   |_=>False
  |_=>False
 |.extract x i=>
  match ρ x with
  |.tup cs=>
   match cs[i]? with
   |some c=>K ⟨c,[],[]⟩ n
   |none=>False
  |_=>False
 |.call c=>
  match c.callee with
  |.value x=>
   match ρ x with
   |.fn f u=>
    match an (o.dst.getD 0)with
    |.frz j=>
     (match(c.args.toList.map ρ++u)[j]? with
     |some (.arr h k 0 len)=>
      (match H h with
      |.rows E sz xs=>Iq k xs (Iq len xs (Asa P f ((c.args.toList.map ρ++u).set j (.sl sz xs)) λr=>K ⟨r,[(h,.rows E sz xs)],[(h,.dead)]⟩ n))
      |_=>False)
     |_=>False)
    |_=>Fy P n H f (c.args.toList.map ρ++u) K
   |_=>False
  |.invoke _ _=>False
  |.builtin .len=>
   match c.args.toList,c.argTypes.toList with
   |[x],[t]=>
    match T t with
    |some ⟨.slice _,_,_,_⟩=>
     match ρ x with
     |.sl _ xs=>
      match an (o.dst.getD 0)with
      |.ask=>N9 xs λc=>K ⟨.val (.int .i64 c),[],[]⟩ n
      |_=>K ⟨.val (.int .i64 xs.length),[],[]⟩ n
     |.val (.slice _ m _)=>K ⟨.val (.int .i64 m),[],[]⟩ n
     |.vec _ m=>K ⟨.val (.int .i64 m),[],[]⟩ n
     |.arr h k _ len=>
      match H h with
      |.rows E sz xs=>Iq k xs (K ⟨.val (.int .i64 len),[(h,.rows E sz xs)],[]⟩ n)
      |_=>False
     |.sf xs=>
      match an (o.dst.getD 0)with
      |.ask=>N9 xs λc=>K ⟨.val (.int .i64 c),[],[]⟩ n
      |_=>K ⟨.val (.int .i64 xs.length),[],[]⟩ n
     |_=>False
    |some ⟨.string,_,_,_⟩=>
     match ρ x with
     |.val (.string s)=>K ⟨.val (.int .i64 s.size),[],[]⟩ n
     |_=>False
    |_=>False
   |_,_=>False
  |.builtin .cap=>
   match c.args.toList,c.argTypes.toList with
   |[x],[t]=>
    match T t with
    |some ⟨.slice _,_,_,_⟩=>
     match ρ x with
     |.val (.slice _ _ m)=>K ⟨.val (.int .i64 m),[],[]⟩ n
     |_=>False
    |_=>False
   |_,_=>False
  |.builtin .copy=>
   match c.args.toList,c.argTypes.toList with
   |[x,y],[t,t']=>
    match T t with
    |some ⟨.slice e,_,_,_⟩=>
     match T e with
     |some i'=>
      match ρ y with
      |.arr h2 R A B=>
       match ρ x with
       |.arr h k off len=>
        match H h with
        |.rows E sz xs=>bif Nat.beq E e&&Nat.beq sz i'.size&&Nat.beq h h2&&Nat.blt 0 i'.size then
          A5t xs k off len R A B (λg c=>K ⟨.val (.int .i64 c),[(h,.rows e i'.size xs)],[(h,.rows e i'.size g)]⟩ n)else False
        |_=>False
       |.sl _ []=>
        match H h2 with
        |.rows E sz xs=>bif Nat.beq sz i'.size then Iq R xs (K ⟨.val (.int .i64 0),[(h2,.rows E i'.size xs)],[]⟩ n)else False
        |_=>False
       |_=>False
      |_=>False
     |none=>False
    |_=>False
   |_,_=>False
  |.builtin .clear=>
   match c.args.toList,c.argTypes.toList with
   |[x],[t]=>
    match T t with
    |some ⟨.slice e,_,_,_⟩=>
     match T e with
     |some i'=>
      match ρ x with
      |.arr h k off len=>
       match H h with
       |.rows E sz xs=>bif Nat.beq E e&&Nat.beq sz i'.size&&Nat.blt 0 i'.size&&Nc i'.size (G4 i')&&Nat.beq (G4 i').cells.length i'.zero.length&&Aas (G4 i')then
         Ar5 xs k off len (G4 i') (λg=>K ⟨.tup [],[(h,.rows e i'.size xs)],[(h,.rows e i'.size g)]⟩ n)else False
       |_=>False
      |.sl _ []=>K ⟨.tup [],[],[]⟩ n
      |_=>False
     |none=>False
    |_=>False
   |_,_=>False
  |.builtin .append=>
   match c.args.toList,c.argTypes.toList with
   |[x,y],[t,t']=>
    match T t,T t' with
    |some ⟨.slice e,_,_,_⟩,some ⟨.slice _,_,_,_⟩=>
     match T e with
     |some i'=>
      bif Nat.blt 0 i'.size&&Nat.beq i'.zero.length i'.size&&Nat.ble 1 i'.bytes then
       match ρ y with
       |.sl sz ys=>
        bif Nat.beq sz i'.size then
         match ρ x with
         |.arr h k 0 len=>
          match H h with
          |.rows E D xs=>bif Nat.beq E e&&Nat.beq D i'.size then
            match an (o.dst.getD 0)with
            |.frz _=>Pf xs ys k len i'.bytes (λg _=>K ⟨.sl i'.size g,[(h,.rows e i'.size xs)],[(h,.dead)]⟩ n) (λ_ _ _=>False)
            |_=>Pf xs ys k len i'.bytes (λg m=>K ⟨.arr h m 0 m,[(h,.rows e i'.size xs)],[(h,.rows e i'.size g)]⟩ n) (λg G m=>K ⟨.arr h G 0 m,[(h,.rows e i'.size xs)],[(h,.rows e i'.size g)]⟩ n)else False
          |_=>False
         |.val (.slice none 0 0)=>Vq ys i'.bytes λg m=>K ⟨.arr n m 0 m,[(n,.none)],[(n,.rows e i'.size g)]⟩ (n+1)
         |.sl X U=>A5r ys (K ⟨.sl X U,[],[]⟩ n)
         |_=>False
        else False
       |.arr h2 R A B=>
        match ρ x with
        |.arr h k 0 len=>
         match H h with
         |.rows E D xs=>bif Nat.beq E e&&Nat.beq D i'.size then(bif Nat.beq h h2 then
           A5s xs k len R A B i'.bytes (λg G m=>K ⟨.arr h G 0 m,[(h,.rows e i'.size xs)],[(h,.rows e i'.size g)]⟩ n)else
           match H h2 with
           |.rows E2 V M=>bif Nat.beq E2 e&&Nat.beq V i'.size then Ar4 xs M k len R A B i'.bytes (λg m=>K ⟨.arr h m 0 m,[(h,.rows e i'.size xs),(h2,.rows e i'.size M)],[(h,.rows e i'.size g)]⟩ n)else False
           |_=>False)else False
         |_=>False
        |_=>False
       |_=>False
      else False
     |none=>False
    |some ⟨.slice e,_,_,_⟩,some ⟨.string,_,_,_⟩=>
     match T e with
     |some i'=>
      bif Nat.beq i'.size 1&&Nat.beq i'.zero.length i'.size&&Nat.ble 1 i'.bytes then
       match ρ y with
       |.val (.string s)=>
        match ρ x with
        |.arr h k 0 len=>
         match H h with
         |.rows E D xs=>bif Nat.beq E e&&Nat.beq D i'.size then
           Pf xs (Lm s) k len i'.bytes (λg m=>K ⟨.arr h m 0 m,[(h,.rows e i'.size xs)],[(h,.rows e i'.size g)]⟩ n) (λ_ _ _=>False)else False
         |_=>False
        |_=>False
       |_=>False
      else False
     |none=>False
    |_,_=>False
   |_,_=>False
  |.builtin .max=>
   match c.args.toList,c.argTypes.toList with
   |[x,y],[_,_]=>
    match ρ x,ρ y with
    |.val (.int k a),.val (.int _ b)=>K ⟨.val (.int k (if b>a then b else a)),[],[]⟩ n
    |_,_=>False
   |_,_=>False
  |.builtin .min=>
   match c.args.toList,c.argTypes.toList with
   |[x,y],[_,_]=>
    match ρ x,ρ y with
    |.val (.int k a),.val (.int _ b)=>K ⟨.val (.int k (if b<a then b else a)),[],[]⟩ n
    |_,_=>False
   |_,_=>False
  |_=>False
 |_=>False
section
variable{P:Program}{o:Oper}{ρ:Operand->AV}{a:Act}{w w':World}{next:Act->World->Prop}{Q:Exit->Act->World->Prop}
variable{r:AV}{F σ:Aw}{ι:B6}{H:Hp}{b g:Λ AV}{x:Operand}{v:Value}{W:World}
def Jb(σ:Aw)(w:World):Aw:=λb=>match σ b with|none=>w.heap[b]?|some _=>none
theorem St.lend(s:St σ ι H F W w):St σ ι0 H0 (Jb σ w) W w:=by refine⟨s.sto,λb o hb=>?_,λh=>rfl,(λh h' b c=>by cases c),s.os,s.tape,s.output,s.glo,s.drw⟩;unfold Jb at hb;cases e:σ b with|none=>rw[e]at hb;exact⟨hb,rfl⟩|some _=>rw[e]at hb;cases hb
theorem St.unlend{k:Aw}(s:St σ ι H F W w)(g:σ.le k)(s':St k ι0 H0 (Jb σ w) W w'):St k ι H F W w':=by(have d:∀b,σ b=none->∀o,w.heap[b]?=some o->w'.heap[b]?=some o/\k b=none:=by intro b hb o f;exact s'.fra b o (by unfold Jb;rw[hb];exact f));have le:Le σ ι H k ι H:=⟨g,λ_=>HLe.refl _ _⟩;refine⟨s'.sto,λb o hb=>?_,λh=>?_,s.inj,s'.os,s'.tape,s'.output,s'.glo,s'.drw⟩;obtain⟨h1,h2⟩:=s.fra b o hb;exact d b h2 o h1;have f:=s.obj h;unfold Cz at f⊢;cases hh:H h with|none=>rw[hh]at f;exact f|dead=>trivial|cells E cs=>rw[hh]at f;obtain⟨b,C,j,h1,h2,h3,I,A⟩:=f;obtain⟨u,l⟩:=d b h1 _ h3;exact⟨b,C,j,l,h2,u,I,λi c v x y=>(A i c v x y).mono le⟩|rows E sz xs=>rw[hh]at f;obtain⟨B,J,⟨j,G⟩|⟨b,z,C,j,h1,h2,h3,I,A,D⟩⟩:=f;exact⟨B,J,.inl ⟨j,G⟩⟩;obtain⟨u,l⟩:=d b h1 _ h3;exact⟨B,J,.inr ⟨b,z,C,j,l,h2,u,I,A,D.mono g⟩⟩|map es=>rw[hh]at f;obtain⟨b,M,q,j,h1,h2,h3,I⟩:=f;obtain⟨u,l⟩:=d b h1 _ h3;exact⟨b,M,q,j,l,h2,u,I.mono g⟩
theorem Conc.of0{x:AV}(h:Conc σ ι0 H0 x v):Conc σ ι H x v:=by induction h with|cc h=>exact .cc h|loc h off b hb=>cases hb|mp h b hb=>cases hb|vec h n b hb=>cases hb|arr h k off len v y hv c=>exact(y rfl).elim|el h k i j v y hv c=>exact(y rfl).elim|ref cs b off C E fr g s hc h1 z=>exact .ref cs b off C E fr g s hc h1 z|sp cs b off C E g s u hd hc z=>exact .sp cs b off C E g s u hd hc z|agg cs vs l _ ih=>exact .agg cs vs l ih|tup cs vs l _ ih=>exact .tup cs vs l ih|fn f q vs l _ ih=>exact .fn f q vs l ih
theorem A5x{x:AV}(h:x.free1=true)(d:∀cs,x≠.agg cs):x.cl1=true:=by cases x<;>first|exact h|exact(d _ rfl).elim
theorem Conc.to0{x:AV}(hx:x.free=true)(h:Conc σ ι H x v):Conc σ ι0 H0 x v:=by(have I:∀(cs:Λ AV),cs.all AV.cl1=true->∀(i:Nat)(c:AV)(u:Value),cs[i]?=some c->Conc σ ι H c u->Conc σ ι0 H0 c u:=by intro cs z i c u hc h;exact .cc (h.cc_of (E7.1 z c (Ev hc))).1);cases h with|cc h=>exact .cc h|loc=>cases hx|mp=>cases hx|vec=>cases hx|arr=>cases hx|el=>cases hx|ref cs b off C E fr g q hc h1 A=>exact .ref cs b off C E fr g q hc h1 A|sp cs b off C E g q s hd hc A=>exact .sp cs b off C E g q s hd hc A|agg cs vs l h=>exact .agg cs vs l λi c u h1 h2=>I cs hx i c u h1 (h i c u h1 h2)|tup cs vs l h=>(refine .tup cs vs l λi c u h1 h2=>?_;have hf:=E7.1 hx c (Ev h1);have hc:=h i c u h1 h2;cases c with|agg ds=>obtain⟨B,rfl,y,hv⟩:=hc.agg_inv;exact .agg ds B y λj d v J L=>I ds hf j d v J (hv j d v J L)|_=>exact .cc (hc.cc_of (A5x hf (by intro cs e;cases e))).1)|fn f k vs l h=>exact .fn f k vs l λi c u h1 h2=>I k hx i c u h1 (h i c u h1 h2)
theorem Conc.fn_inv{f:FuncId}(h:Conc σ ι H (.fn f b) v):∃vs:Array Value,v=.func (.func f) #[] vs/\vs.size=b.length/\∀(i:Nat)(c:AV)(u:Value),b[i]?=some c->vs[i]?=some u->Conc σ ι H c u:=by cases h with|cc h=>cases h|fn _ _ vs g h=>exact⟨vs,rfl,g,h⟩
theorem Agd{xs:Array Operand}{vs:Array Value}(I:∀x∈xs.toList,Conc σ ι H (ρ x) (a.eval x))(g:vs.size=b.length)(J:∀(i:Nat)(c:AV)(u:Value),b[i]?=some c->vs[i]?=some u->Conc σ ι H c u):Ml σ ι H (xs.toList.map ρ++b) (xs.map a.eval++vs):=by refine⟨by simp[g],λi c u d B=>?_⟩;by_cases f:i<xs.size;rw[getElem?_append_left (by simpa using f),getElem?_map,He]at d;rw[Array.getElem?_append_left (by simpa using f),Array.getElem?_map]at B;simp[f]at d B;subst d;subst B;exact I _ ψ;rw[getElem?_append_right ζ]at d;rw[Array.getElem?_append_right ζ]at B;simp at d B;exact J _ c u d B
theorem A5y{c:Call}{f:FuncId}(G:o.op=.call c)(h:c.callee=.value x)(R:ρ x=.fn f g)(hp:Ba P f (c.args.toList.map ρ++g) r)(l:(c.args.toList.map ρ++g).all AV.free=true):Cl P o ρ ⟨r,[],[]⟩:=by(intro σ ι H F W w a next Q s B _ U);obtain⟨⟨fn,V,k,q⟩,hp⟩:=hp;have z:=B x (by simp[G,Op.operands,Call.operands,h]);rw[R]at z;obtain⟨d,X,L,E⟩:=z.fn_inv;have j:Ml σ ι H (c.args.toList.map ρ++g) (c.args.map a.eval++d):=Agd (λy M=>B y (by simp only[G,Op.operands,Call.operands,h];simp at M⊢;exact .inr M)) L E;(have A:(execOp a.eval o).run P w=.ok (.enter f (c.args.map a.eval++d)) w:=by have I:(callFunc f (c.args.map a.eval++d)).run P w=.ok (.enter f (c.args.map a.eval++d)) w:=(by unfold callFunc;simp only[Sem.run_bind,program,Sem.run,Result.andThen_ok,V,k,q,Bool.false_eq_true,if_false,Sem.run_pure]);simp only[execOp,G,resolve,h,X,Deferred.ofValue,invoke,Sem.run_bind,Sem.run_pure,Result.andThen_ok,Array.empty_append,I]);unfold Oper.wp;rw[A];simp only[Oper.upon];refine(hp σ (Jb σ w) W w (c.args.map a.eval++d) s.lend ⟨j.1,λi b u N h2=>(j.2 i b u N h2).to0 (E7.1 l b (Ev N))⟩).mono ?_;rintro e w' ⟨v,J,rfl,D,s',hc⟩;exact U J ι v w' ⟨D,λ_=>HLe.refl _ _⟩ (s.unlend D s') hc.of0
theorem A5z{c:Call}{f:FuncId}(B:o.op=.call c)(h:c.callee=.value x)(L:ρ x=.fn f g)(hp:Ext P f (c.args.toList.map ρ++g) r)(k:(c.args.toList.map ρ++g).all AV.free=true):Cl P o ρ ⟨r,[],[]⟩:=by(intro σ ι H F W w a next Q s z _ M);have l:=z x (by simp[B,Op.operands,Call.operands,h]);rw[L]at l;obtain⟨d,N,E,A⟩:=l.fn_inv;have j:Ml σ ι H (c.args.toList.map ρ++g) (c.args.map a.eval++d):=Agd (λy I=>z y (by simp only[B,Op.operands,Call.operands,h];simp at I⊢;exact .inr I)) E A;obtain⟨v,D,R⟩:=hp σ (Jb σ w) W w (c.args.map a.eval++d) s.lend ⟨j.1,λi b u J U=>(j.2 i b u J U).to0 (E7.1 k b (Ev J))⟩;(have q:(execOp a.eval o).run P w=.ok (.value v) w:=by simp only[execOp,B,resolve,h,N,Deferred.ofValue,invoke,Sem.run_bind,Sem.run_pure,Result.andThen_ok,Array.empty_append,D]);exact F9 q (M σ ι v w (Le.refl _ _ _) s R.of0)
theorem A50{c:Call}{f:FuncId}{j h sz:Nat}{E:TypeId}{xs:Λ AV}(S:o.op=.call c)(k:c.callee=.value x)(hx:ρ x=.fn f g)(hj:(c.args.toList.map ρ++g)[j]?=some (.arr h xs.length 0 xs.length))(hp:Ba P f ((c.args.toList.map ρ++g).set j (.sl sz xs)) r)(A:((c.args.toList.map ρ++g).set j (.sl sz xs)).all AV.free=true):Cl P o ρ ⟨r,[(h,.rows E sz xs)],[(h,.dead)]⟩:=by(intro σ ι H F W w a next Q s J R hk);have hh:H h=.rows E sz xs:=R (h,.rows E sz xs) ψ;obtain⟨⟨fn,hf,z,B⟩,hp⟩:=hp;have G:=J x (by simp[S,Op.operands,Call.operands,k]);rw[hx]at G;obtain⟨vs,hv,hl,M⟩:=G.fn_inv;have q:Ml σ ι H (c.args.toList.map ρ++g) (c.args.map a.eval++vs):=Agd (λy hy=>J y (by simp only[S,Op.operands,Call.operands,k];simp at hy⊢;exact .inr hy)) hl M;obtain⟨N,D,Y,V⟩:=s.freeze hh;(have l:Ml N ι (A5 H h .dead) ((c.args.toList.map ρ++g).set j (.sl sz xs)) (c.args.map a.eval++vs):=by refine⟨by rw[length_set];exact q.1,λi b u d h2=>?_⟩;rw[getElem?_set]at d;split at d;rename_i U;split at d;cases d;subst U;have hc:=q.2 j _ u hj h2;have:=V 0 xs.length _ ω (hc.arr_inv hh rfl);rw[drop_zero,take_of_length_le ω]at this;exact .cc this;cases d;exact(q.2 i b u d h2).mono D);(have I:(execOp a.eval o).run P w=.ok (.enter f (c.args.map a.eval++vs)) w:=by have X:(callFunc f (c.args.map a.eval++vs)).run P w=.ok (.enter f (c.args.map a.eval++vs)) w:=(by unfold callFunc;simp only[Sem.run_bind,program,Sem.run,Result.andThen_ok,hf,z,B,Bool.false_eq_true,if_false,Sem.run_pure]);simp only[execOp,S,resolve,k,hv,Deferred.ofValue,invoke,Sem.run_bind,Sem.run_pure,Result.andThen_ok,Array.empty_append,X]);unfold Oper.wp;rw[I];simp only[Oper.upon];refine(hp N (Jb N w) W w (c.args.map a.eval++vs) Y.lend ⟨l.1,λi b u d h2=>(l.2 i b u d h2).to0 (E7.1 A b (Ev d))⟩).mono ?_;rintro e w' ⟨v,Z,rfl,L,s',hc⟩;exact hk Z ι v w' (D.trans ⟨L,λ_=>HLe.refl _ _⟩) (Y.unlend L s') hc.of0
end
variable{o:Bs}{es:Nat->Nat}
theorem Iz{a b:Nat}(h:Nat.blt a b=true):a<b:=G8 h
theorem Alx:K7 es o=.none↔o=.none:=by cases o<;>simp[K7]
theorem Age:(K7 es o).live=o.live:=by cases o<;>rfl
theorem Aly{E:TypeId}{sz:Nat}{xs:Λ AV}:K7 es o=.rows E sz xs↔o=.rows E sz xs:=by cases o<;>simp[K7]
section
variable{es:Nat->Nat}{m:Nat}{σ:Aw}{ι ιl:B6}{H I:Hp}
variable{x:AV}{n:Nat}{v:Value}
theorem Oc(f:∀k,k<m->ιl k=ι (es k))(B:∀k,k<m->H (es k)=K7 es (I k))(J:x.under0 m=true):Conc σ ι H (Alr es x) v↔Conc σ ιl I x v:=by(have rows:∀k,k<m->∀E sz xs,H (es k)=.rows E sz xs↔I k=.rows E sz xs:=λk d E sz xs=>by rw[B k d];exact Aly);(have some:∀k,k<m->(H (es k)≠.none↔I k≠.none):=λk d=>by rw[B k d];exact not_congr Alx);constructor;intro h;(cases x with|val u=>(cases h with|cc h=>exact .cc h)|sl sz xs=>(cases h with|cc h=>exact .cc h)|fb s=>(cases h with|cc h=>exact .cc h)|sf xs=>(cases h with|cc h=>exact .cc h)|sp cs=>(cases h with|cc h=>exact .cc h|sp cs b off C E g l y R M A=>exact .sp cs b off C E g l y R M A)|ref cs=>(cases h with|cc h=>exact .cc h|ref cs b off C E U g l M V A=>exact .ref cs b off C E U g l M V A)|loc k off=>(have d:=Iz J;cases h with|cc h=>cases h|loc _ _ b L=>exact .loc k off b (by rw[f k d];exact L))|mp k=>(have d:=Iz J;cases h with|cc h=>cases h|mp _ b L=>exact .mp k b (by rw[f k d];exact L))|vec k n=>(have d:=Iz J;cases h with|cc h=>cases h|vec _ _ b L=>exact .vec k n b (by rw[f k d];exact L))|arr k q off len=>(have d:=Iz J;cases h with|cc h=>cases h|arr _ _ _ _ _ z N c=>exact .arr k q off len v ((some k d).1 z) (λE sz xs e=>by rw[f k d];exact N E sz xs ((rows k d E sz xs).2 e)) c)|el k q i j=>(have d:=Iz J;cases h with|cc h=>cases h|el _ _ _ _ _ z N c=>exact .el k q i j v ((some k d).1 z) (λE sz xs e=>by rw[f k d];exact N E sz xs ((rows k d E sz xs).2 e)) c)|agg=>cases J|tup=>cases J|fn=>cases J);intro h;cases x with|val u=>(cases h with|cc h=>exact .cc h)|sl sz xs=>(cases h with|cc h=>exact .cc h)|fb s=>(cases h with|cc h=>exact .cc h)|sf xs=>(cases h with|cc h=>exact .cc h)|sp cs=>(cases h with|cc h=>exact .cc h|sp cs b off C E g l y R M A=>exact .sp cs b off C E g l y R M A)|ref cs=>(cases h with|cc h=>exact .cc h|ref cs b off C E U g l M V A=>exact .ref cs b off C E U g l M V A)|loc k off=>(have d:=Iz J;cases h with|cc h=>cases h|loc _ _ b L=>exact .loc (es k) off b (by rw[<-f k d];exact L))|mp k=>(have d:=Iz J;cases h with|cc h=>cases h|mp _ b L=>exact .mp (es k) b (by rw[<-f k d];exact L))|vec k n=>(have d:=Iz J;cases h with|cc h=>cases h|vec _ _ b L=>exact .vec (es k) n b (by rw[<-f k d];exact L))|arr k q off len=>(have d:=Iz J;cases h with|cc h=>cases h|arr _ _ _ _ _ z N c=>exact .arr (es k) q off len v ((some k d).2 z) (λE sz xs e=>by rw[<-f k d];exact N E sz xs ((rows k d E sz xs).1 e)) c)|el k q i j=>(have d:=Iz J;cases h with|cc h=>cases h|el _ _ _ _ _ z N c=>exact .el (es k) q i j v ((some k d).2 z) (λE sz xs e=>by rw[<-f k d];exact N E sz xs ((rows k d E sz xs).1 e)) c)|agg=>cases J|tup=>cases J|fn=>cases J
theorem I0(b:∀k,k<m->ιl k=ι (es k))(g:∀k,k<m->H (es k)=K7 es (I k))(d:x.under1 m=true):Conc σ ι H (Qg es x) v↔Conc σ ιl I x v:=by
 have cells:∀{cs:Λ AV},cs.all (AV.under0 m)=true->∀(i:Nat)(c:AV),cs[i]?=some c->∀u,(Conc σ ι H (Alr es c) u↔Conc σ ιl I c u) :=
  λq i c J u=>Oc b g (E7.1 q c (Ev J));cases x with
 |fn f cs=>
  constructor
  .intro h;obtain⟨L,rfl,l,h⟩:=h.fn_inv;exact .fn f cs L (by simpa using l) λi c u B M=>(cells d i c B u).1 (h i _ u (by simp[B]) M)
  .intro h;obtain⟨L,rfl,l,h⟩:=h.fn_inv;refine .fn f _ L (by simpa using l) λi c u B M=>?_;rw[getElem?_map]at B;cases J:cs[i]? with|none=>rw[J]at B;cases B|some y=>rw[J]at B;cases B;exact(cells d i y J u).2 (h i y u J M)
 |agg cs=>cases d
 |tup cs=>cases d
 |val u=>exact Oc (x:=(.val u)) b g d
 |loc h off=>exact Oc (x:=(.loc h off)) b g d
 |arr h k off len=>exact Oc (x:=(.arr h k off len)) b g d
 |el h k i j=>exact Oc (x:=(.el h k i j)) b g d
 |mp h=>exact Oc (x:=(.mp h)) b g d
 |vec h n=>exact Oc (x:=(.vec h n)) b g d
 |ref cs=>exact Oc (x:=(.ref cs)) b g d
 |sl sz xs=>exact Oc (x:=(.sl sz xs)) b g d
 |fb s=>exact Oc (x:=(.fb s)) b g d
 |sf xs=>exact Oc (x:=(.sf xs)) b g d
 |sp cs=>exact Oc (x:=(.sp cs)) b g d
theorem A51(h:x.under0 n=true):x.under1 n=true:=by cases x<;>first|exact h|cases h
theorem Alz(h:x.under1 n=true):x.under n=true:=by cases x with|fn f cs=>exact E7.2 λc d=>A51 (E7.1 h c d)|agg cs=>cases h|tup cs=>cases h|_=>exact h
theorem A52(b:∀k,k<m->ιl k=ι (es k))(g:∀k,k<m->H (es k)=K7 es (I k))(d:x.under2 m=true):Conc σ ι H (Als es x) v↔Conc σ ιl I x v:=by
 have cells:∀{cs:Λ AV},cs.all (AV.under1 m)=true->∀(i:Nat)(c:AV),cs[i]?=some c->∀u,(Conc σ ι H (Qg es c) u↔Conc σ ιl I c u) :=
  λq i c J u=>I0 b g (E7.1 q c (Ev J));cases x with
 |agg cs=>
  constructor
  .intro h;obtain⟨L,rfl,l,h⟩:=h.agg_inv;exact .agg cs L (by simpa using l) λi c u B M=>(cells d i c B u).1 (h i _ u (by simp[B]) M)
  .intro h;obtain⟨L,rfl,l,h⟩:=h.agg_inv;refine .agg _ L (by simpa using l) λi c u B M=>?_;rw[getElem?_map]at B;cases J:cs[i]? with|none=>rw[J]at B;cases B|some y=>rw[J]at B;cases B;exact(cells d i y J u).2 (h i y u J M)
 |tup cs=>cases d
 |fn f cs=>exact I0 (x:=(.fn f cs)) b g d
 |val u=>exact I0 (x:=(.val u)) b g d
 |loc h off=>exact I0 (x:=(.loc h off)) b g d
 |arr h k off len=>exact I0 (x:=(.arr h k off len)) b g d
 |el h k i j=>exact I0 (x:=(.el h k i j)) b g d
 |mp h=>exact I0 (x:=(.mp h)) b g d
 |vec h n=>exact I0 (x:=(.vec h n)) b g d
 |ref cs=>exact I0 (x:=(.ref cs)) b g d
 |sl sz xs=>exact I0 (x:=(.sl sz xs)) b g d
 |fb s=>exact I0 (x:=(.fb s)) b g d
 |sf xs=>exact I0 (x:=(.sf xs)) b g d
 |sp cs=>exact I0 (x:=(.sp cs)) b g d
theorem Asf(b:∀k,k<m->ιl k=ι (es k))(g:∀k,k<m->H (es k)=K7 es (I k))(J:x.under m=true):Conc σ ι H (ren es x) v↔Conc σ ιl I x v:=by
 have cells:∀{cs:Λ AV},cs.all (AV.under1 m)=true->∀(i:Nat)(c:AV),cs[i]?=some c->∀u,(Conc σ ι H (Qg es c) u↔Conc σ ιl I c u) :=
  λy i c B u=>I0 b g (E7.1 y c (Ev B));have cells2:∀{cs:Λ AV},cs.all (AV.under2 m)=true->∀(i:Nat)(c:AV),cs[i]?=some c->∀u,(Conc σ ι H (Als es c) u↔Conc σ ιl I c u) :=
  λy i c B u=>A52 b g (E7.1 y c (Ev B));cases x with
 |agg cs=>
  constructor
  .intro h;obtain⟨L,rfl,l,h⟩:=h.agg_inv;exact .agg cs L (by simpa using l) λi c u d M=>(cells J i c d u).1 (h i _ u (by simp[d]) M)
  .intro h;obtain⟨L,rfl,l,h⟩:=h.agg_inv;refine .agg _ L (by simpa using l) λi c u d M=>?_;rw[getElem?_map]at d;cases B:cs[i]? with|none=>rw[B]at d;cases d|some q=>rw[B]at d;cases d;exact(cells J i q B u).2 (h i q u B M)
 |tup cs=>
  constructor
  .intro h;obtain⟨L,rfl,l,h⟩:=h.tup_inv;exact .tup cs L (by simpa using l) λi c u d M=>(cells2 J i c d u).1 (h i _ u (by simp[d]) M)
  .intro h;obtain⟨L,rfl,l,h⟩:=h.tup_inv;refine .tup _ L (by simpa using l) λi c u d M=>?_;rw[getElem?_map]at d;cases B:cs[i]? with|none=>rw[B]at d;cases d|some q=>rw[B]at d;cases d;exact(cells2 J i q B u).2 (h i q u B M)
 |fn f cs=>
  constructor
  .intro h;obtain⟨L,rfl,l,h⟩:=h.fn_inv;exact .fn f cs L (by simpa using l) λi c u d M=>(cells J i c d u).1 (h i _ u (by simp[d]) M)
  .intro h;obtain⟨L,rfl,l,h⟩:=h.fn_inv;refine .fn f _ L (by simpa using l) λi c u d M=>?_;rw[getElem?_map]at d;cases B:cs[i]? with|none=>rw[B]at d;cases d|some q=>rw[B]at d;cases d;exact(cells J i q B u).2 (h i q u B M)
 |val u=>exact I0 (x:=(.val u)) b g J
 |loc h off=>exact I0 (x:=(.loc h off)) b g J
 |arr h k off len=>exact I0 (x:=(.arr h k off len)) b g J
 |el h k i j=>exact I0 (x:=(.el h k i j)) b g J
 |mp h=>exact I0 (x:=(.mp h)) b g J
 |vec h n=>exact I0 (x:=(.vec h n)) b g J
 |ref cs=>exact I0 (x:=(.ref cs)) b g J
 |sl sz xs=>exact I0 (x:=(.sl sz xs)) b g J
 |fb s=>exact I0 (x:=(.fb s)) b g J
 |sf xs=>exact I0 (x:=(.sf xs)) b g J
 |sp cs=>exact I0 (x:=(.sp cs)) b g J
theorem Asg(y:∀k,k<m->ιl k=ι (es k))(z:∀k,k<m->H (es k)=K7 es (I k)){F B:Aw}{w:World}{k:Nat}(hk:k<m)(R:(I k).under m=true)(h:∀b,(I k).live=true->(ιl k).block?=some b->(F b=none↔B b=none)):Cz σ ι H F w (es k)↔Cz σ ιl I B w k:=by
 have cells:∀{cs:Λ AV},cs.all (AV.under1 m)=true->∀(i:Nat)(c:AV),cs[i]?=some c->∀u,(Conc σ ι H (Qg es c) u↔Conc σ ιl I c u) :=
  λs i c N u=>I0 y z (E7.1 s c (Ev N));unfold Cz;rw[z k hk,<-y k hk];cases U:I k with
 |none=>exact Iff.rfl
 |dead=>exact Iff.rfl
 |map l=>
  simp only[K7];rw[U]at h;constructor
  .rintro⟨b,M,q,f,d,J,L⟩;exact⟨b,M,q,f,d,(h b rfl (by rw[f];rfl)).1 J,L⟩
  .rintro⟨b,M,q,f,d,J,L⟩;exact⟨b,M,q,f,d,(h b rfl (by rw[f];rfl)).2 J,L⟩
 |rows E sz xs=>
  simp only[K7];rw[U]at h;refine and_congr Iff.rfl (and_congr Iff.rfl (or_congr Iff.rfl ?_));constructor
  .rintro⟨b,j,C,f,d,J,L⟩;exact⟨b,j,C,f,d,(h b rfl (by rw[f];rfl)).1 J,L⟩
  .rintro⟨b,j,C,f,d,J,L⟩;exact⟨b,j,C,f,d,(h b rfl (by rw[f];rfl)).2 J,L⟩
 |cells E cs=>
  simp only[K7];rw[U]at h R;constructor
  .rintro⟨b,C,f,d,J,L,V,x⟩;refine⟨b,C,f,d,(h b rfl (by rw[f];rfl)).1 J,L,by simpa using V,λi c v N X=>(cells R i c N v).1 (x i _ v (by simp[N]) X)⟩
  .rintro⟨b,C,f,d,J,L,V,x⟩;refine⟨b,C,f,d,(h b rfl (by rw[f];rfl)).2 J,L,by simpa using V,λi c v N X=>?_⟩;rw[getElem?_map]at N;cases g:cs[i]? with|none=>rw[g]at N;cases N|some A=>rw[g]at N;cases N;exact(cells R i A g v).2 (x i A v g X)
end
variable{b:Λ Bs}{k:Nat}
theorem Ash{n:Nat}:∀{l:Λ Nat}{k:Nat},Rx n l=true->k<l.length->Dp n l k<n
 |[],k,_,h=>by simp at h
 |h::l,0,b,_=>by simp only[Rx,F8]at b;exact Iz b.1.1
 |h::l,k+1,b,d=>by simp only[Rx,F8]at b;exact Ash (l:=l) b.2 (by simpa using d)
theorem Aav{n:Nat}:∀{l:Λ Nat}{k:Nat},l.length<=k->Dp n l k=n+(k-l.length)
 |[],k,_=>by simp[Dp]
 |h::l,0,d=>by simp at d
 |h::l,k+1,d=>by simp only[Dp,length_cons];rw[Aav (l:=l) (by simpa using d)];omega
theorem Al0{n:Nat}:∀{l:Λ Nat}{k:Nat},k<l.length->Dp n l k∈l
 |[],k,h=>by simp at h
 |h::l,0,_=>by simp[Dp]
 |h::l,k+1,d=>by simp only[Dp];exact mem_cons_of_mem _ (Al0 (by simpa using d))
theorem Asi{n:Nat}:∀{l:Λ Nat}{j k:Nat},Rx n l=true->Dp n l j=Dp n l k->j=k
 |[],j,k,_,h=>by simp only[Dp]at h;omega
 |h::l,0,0,_,_=>rfl
 |h::l,j+1,k+1,b,e=>by simp only[Rx,F8]at b;simp only[Dp]at e;rw[Asi (l:=l) b.2 e]
 |h::l,0,k+1,b,e=>by simp only[Rx,F8]at b;simp only[Dp]at e;rcases Nat.lt_or_ge k l.length with d|d;have:=Al0 (n:=n) d;rw[<-e]at this;simp[this]at b;have B:=Aav (n:=n) d;have I:=Iz b.1.1;omega
 |h::l,j+1,0,b,e=>by simp only[Rx,F8]at b;simp only[Dp]at e;rcases Nat.lt_or_ge j l.length with d|d;have:=Al0 (n:=n) d;rw[e]at this;simp[this]at b;have B:=Aav (n:=n) d;have I:=Iz b.1.1;omega
theorem Asj{es:Nat->Nat}:∀{os:Λ Bs}{k i:Nat}{o:Bs},os[i]?=some o->(es (k+i),K7 es o)∈Fp es k os
 |[],k,i,o,h=>by simp at h
 |p::os,k,0,o,h=>by simp at h;subst h;simp[Fp]
 |p::os,k,i+1,o,h=>by simp only[Fp];refine mem_cons_of_mem _ ?_;have:=Asj (es:=es) (k:=k+1) (i:=i) (by simpa using h);rwa [show k+(i+1)=k+1+i by omega]
theorem Agf{es:Nat->Nat}:∀{os:Λ Bs}{k x:Nat}{H:Hp},(∀i,i<os.length->es (k+i)≠x)->C4 H (Fp es k os) x=H x
 |[],k,x,H,h=>rfl
 |q::os,k,x,H,h=>by simp only[Fp,C4];rw[Agf (λi hi=>by rw[show k+1+i=k+(i+1)by omega];exact h (i+1) (by simpa using hi)),Cv _ _ (Ne.symm (by simpa using h 0 ψ))]
theorem Ask{es:Nat->Nat}(b:∀i j,es i=es j->i=j):∀{os:Λ Bs}{k i:Nat}{o:Bs}{H:Hp},os[i]?=some o->C4 H (Fp es k os) (es (k+i))=K7 es o
 |[],k,i,o,H,h=>by simp at h
 |q::os,k,0,o,H,h=>by simp at h;subst h;simp only[Fp,C4];rw[Agf (λi hi e=>by have:=b _ _ e;omega)];exact Ca _ _ _
 |q::os,k,i+1,o,H,h=>by simp only[Fp,C4];rw[show k+(i+1)=k+1+i by omega];exact Ask b (by simpa using h)
theorem Asl{es:Nat->Nat}:∀{c k i:Nat},i<c->(es (k+i),Bs.none)∈Cy es k c
 |0,k,i,h=>ω
 |c+1,k,0,h=>by simp[Cy]
 |c+1,k,i+1,h=>by simp only[Cy];refine mem_cons_of_mem _ ?_;have:=Asl (es:=es) (c:=c) (k:=k+1) (i:=i) ω;rwa [show k+(i+1)=k+1+i by omega]
theorem Asm{es:Nat->Nat}:∀{c k:Nat}{p:Nat×Bs},p∈Cy es k c->∃i,i<c/\p=(es (k+i),Bs.none)
 |0,k,p,h=>by simp[Cy]at h
 |c+1,k,p,h=>by simp only[Cy,mem_cons]at h;rcases h with rfl|h;exact⟨0,ω,rfl⟩;obtain⟨i,B,d⟩:=Asm h;exact⟨i+1,ω,by rw[d,show k+(i+1)=k+1+i by omega]⟩
theorem Pd.spec{H:Hp}:∀{l:Λ (Nat×Bs)},Pd H l->∀p∈l,H p.1=p.2
 |[],_,p,hp=>by cases hp
 |q::l,h,p,hp=>by rcases mem_cons.1 hp with rfl|hp;exact h.1;exact Pd.spec h.2 p hp
theorem Aaw(h:k<b.length):b[k]?=some (hp b k):=by simp[hp,h]
theorem Qh(h:b.length<=k):hp b k=.none:=by simp[hp,getElem?_eq_none h]
section
variable{P:Program}{o:Oper}{ρ:Operand->AV}{a:Act}{w w':World}
open Classical in
theorem A53{n m:Nat}{c:Call}{x:Operand}{f:FuncId}{b2:Λ AV}{l:Λ Nat}{a2:Λ AV}{N:Λ Bs}{R:AV->Λ Bs->Prop}(ho:o.op=.call c)(b3:c.callee=.value x)(hx:ρ x=.fn f b2)(g6:Tj P f a2 N R)(ha:a2.map (ren (Dp n l))=c.args.toList.map ρ++b2){r0:AV}{g7:Λ Bs}(h0:R r0 g7)(ok:∀r d,R r d->M0 n l a2 N r d=true/\d.length=m){σ:Aw}{ι:B6}{H:Hp}{F:Aw}{W w:World}{a:Act}{next:Act->World->Prop}{Q:Exit->Act->World->Prop}(s:St σ ι H F W w)(e3:∀x∈o.op.operands.toList,Conc σ ι H (ρ x) (a.eval x))(e4:∀p∈Fp (Dp n l) 0 N++Cy (Dp n l) l.length (m-l.length),H p.1=p.2)(hk:∀r d,R r d->∀σ' ι' v w',Le σ ι H σ' ι' (C4 H (Fp (Dp n l) 0 d))->St σ' ι' (C4 H (Fp (Dp n l) 0 d)) F W w'->Conc σ' ι' (C4 H (Fp (Dp n l) 0 d)) (ren (Dp n l) r) v->next (a.put o.dst v) w'):o.wp P a w next Q:=by have e5:=(ok _ _ h0).1;simp only[M0,F8]at e5;obtain⟨⟨⟨⟨⟨⟨o1,o2⟩,o3⟩,o4⟩,o5⟩,-⟩,-⟩:=e5;have o2:=Gk o2;generalize g8:Dp n l=es at *;(have c6:∀i j,es i=es j->i=j:=λi j e=>by rw[<-g8]at e;exact Asi o1 e);obtain⟨⟨fn,hf,c7,c8⟩,g9⟩:=g6;have e6:=e3 x (by simp[ho,Op.operands,Call.operands,b3]);rw[hx]at e6;obtain⟨vs,hv,hl,e7⟩:=e6.fn_inv;have b4:Ml σ ι H (c.args.toList.map ρ++b2) (c.args.map a.eval++vs):=Agd (λy hy=>e3 y (by simp only[ho,Op.operands,Call.operands,b3];simp at hy⊢;exact .inr hy)) hl e7;(have e8:(execOp a.eval o).run P w=.ok (.enter f (c.args.map a.eval++vs)) w:=by have h7:(callFunc f (c.args.map a.eval++vs)).run P w=.ok (.enter f (c.args.map a.eval++vs)) w:=(by unfold callFunc;simp only[Sem.run_bind,program,Sem.run,Result.andThen_ok,hf,c7,c8,Bool.false_eq_true,if_false,Sem.run_pure]);simp only[execOp,ho,resolve,b3,hv,Deferred.ofValue,invoke,Sem.run_bind,Sem.run_pure,Result.andThen_ok,Array.empty_append,h7]);unfold Oper.wp;rw[e8];simp only[Oper.upon];(have U:∀k,k<N.length->H (es k)=K7 es (hp N k):=by intro k J;have:=e4 _ (mem_append_left _ (Asj (es:=es) (k:=0) (Aaw J)));simpa using this);(have e9:∀k,N.length<=k->k<m->H (es k)=.none:=by intro k B I;have:=e4 _ (mem_append_right _ (Asl (es:=es) (k:=l.length) (c:=m-l.length) (i:=k-l.length) ω));rwa [show l.length+(k-l.length)=k by omega]at this);let ιl:B6:=λk=>if k<N.length then ι (es k)else .none;let a4:Nat->Prop:=λb=>∃k,k<N.length/\(hp N k).live=true/\(ι (es k)).block?=some b;let Fl:Aw:=λb=>if σ b=none/\¬a4 b then w.heap[b]? else none;have a7:∀k,k<N.length->ιl k=ι (es k):=λk h=>if_pos h;(have V:∀k,k<N.length->(H (es k)).live=(hp N k).live:=λk h=>by rw[U k h,Age]);(have b9:∀k,k<N.length->(hp N k).under N.length=true:=by intro k h;have:=E7.1 o5 _ (Ev (Aaw h));rw[o2];exact this);(have c0:∀k,k<N.length->∀b,(hp N k).live=true->(ιl k).block?=some b->F b=none/\Fl b=none:=by intro k h b B I;rw[a7 k h]at I;exact⟨(s.block (by rw[V k h];exact B) I).2.2,if_neg λhn=>hn.2 ⟨k,h,B,I⟩⟩);(have sl:St σ ιl (hp N) Fl W w:=by refine⟨s.sto,λb ob hb=>?_,λk=>?_,λk k' b B I X h4=>?_,s.os,s.tape,s.output,s.glo,s.drw⟩;by_cases hc:σ b=none/\¬a4 b;simp only[Fl,if_pos hc]at hb;exact⟨hb,hc.1⟩;simp only[Fl,if_neg hc]at hb;cases hb;by_cases J:k<N.length;refine(Asg (es:=es) a7 U J (b9 k J) λb B I=>?_).1 (s.obj (es k));obtain⟨X,h4⟩:=c0 k J b B I;rw[X,h4];unfold Cz;rw[Qh ω];exact if_neg J;(have lt:∀k,(hp N k).live=true->k<N.length:=by intro k h;rcases Nat.lt_or_ge k N.length with h'|h';exact h';rw[Qh h']at h;cases h);have k1:=lt k B;have k2:=lt k' I;rw[a7 k k1]at X;rw[a7 k' k2]at h4;exact c6 _ _ (s.inj _ _ b (by rw[V k k1];exact B) (by rw[V k' k2];exact I) X h4));(have c9:Ml σ ιl (hp N) a2 (c.args.map a.eval++vs):=by rw[<-ha]at b4;refine⟨by simpa using b4.1,λi b u B I=>?_⟩;have:=b4.2 i (ren es b) u (by simp[B]) I;refine(Asf (es:=es) a7 U ?_).1 this;rw[o2];exact E7.1 o4 b (Ev B));refine(g9 σ Fl W w ιl (c.args.map a.eval++vs) sl c9).mono ?_;rintro e w' ⟨r,d,v,σ',ι'l,hR,rfl,c3,s',h8⟩;obtain⟨a8,rfl⟩:=ok _ _ hR;simp only[M0,F8]at a8;obtain⟨⟨⟨⟨-,o3⟩,-⟩,o6⟩,o7⟩:=(⟨⟨⟨⟨a8.1.1.1.1.1,a8.1.1.1.1.2⟩,a8.1.1.1.2⟩,a8.1.2⟩,a8.2⟩:(((_/\_)/\_)/\_)/\_);have o3:=G8 o3;let ι':B6:=λh=>if hh:∃k,k<d.length/\es k=h then ι'l hh.choose else ι h;(have a9:∀k,k<d.length->ι'l k=ι' (es k):=by intro k h;have hh:∃k',k' < d.length/\es k'=es k:=⟨k,h,rfl⟩;have:hh.choose=k:=c6 _ _ hh.choose_spec.2;simp only[ι',dif_pos hh,this]);(have b5:∀h,(∀k,k<d.length->es k≠h)->ι' h=ι h:=by intro h L;exact dif_neg (λ⟨k,k1,k2⟩=>L k k1 k2));(have b0:∀k,k<d.length->C4 H (Fp es 0 d) (es k)=K7 es (hp d k):=by intro k h;have:=Ask (es:=es) c6 (k:=0) (H:=H) (Aaw h);simpa using this);(have b6:∀h,(∀k,k<d.length->es k≠h)->C4 H (Fp es 0 d) h=H h:=by intro h L;exact Agf (λi hi=>by simpa using L i hi));have i3:N.length<=d.length:=ω;(have g0:Le σ ι H σ' ι' (C4 H (Fp es 0 d)):=by refine⟨c3.sto,λh=>?_⟩;by_cases hh:∃k,k<d.length/\es k=h;obtain⟨k,J,rfl⟩:=hh;rw[<-a9 k J,b0 k J];by_cases a6:k<N.length;have q:=c3.obj k;rw[a7 k a6]at q;rw[U k a6];refine⟨q.box,λh=>?_,λB E sz xs I=>?_⟩;rw[Ne,Alx]at h⊢;exact q.some h;rw[Ne,Alx]at B;rw[Aly]at I;obtain⟨E0,h9,i0,e0,r0⟩:=q.rows B E sz xs I;exact⟨E0,h9,i0,Aly.2 e0,r0⟩;have h0:=e9 k ω J;have:ι (es k)=.none:=(by have:=s.obj (es k);unfold Cz at this;rw[h0]at this;exact this);rw[h0,this];exact HLe.of_none;have L:∀k,k<d.length->es k≠h:=λk B I=>hh ⟨k,B,I⟩;rw[b5 h L,b6 h L];exact HLe.refl _ _);(have a0:∀b,σ b=none->¬a4 b->∀ob,w.heap[b]?=some ob->w'.heap[b]?=some ob/\σ' b=none/\Fl b=some ob:=by intro b B I ob X;have:Fl b=some ob:=(by simp only[Fl];rw[if_pos ⟨B,I⟩];exact X);exact⟨(s'.fra b ob this).1,(s'.fra b ob this).2,this⟩);(have a5:∀h b,(∀k,k<d.length->es k≠h)->(H h).live=true->(ι h).block?=some b->¬a4 b:=by rintro h b L B I ⟨k,k1,k2,k3⟩;exact L k ω (s.inj _ _ b (by rw[V k k1];exact k2) B k3 I));(have a1:∀b ob,F b=some ob->¬a4 b:=by rintro b ob hb ⟨k,k1,k2,k3⟩;have:=(s.block (by rw[V k k1];exact k2) k3).2.2;rw[this]at hb;cases hb);have b7:∀k,k<d.length->(hp d k).under d.length=true:=λk h=>E7.1 o7 _ (Ev (Aaw h));(have i1:St σ' ι' (C4 H (Fp es 0 d)) F W w':=by refine⟨s'.sto,λb ob hb=>?_,λh=>?_,λh h' b B I X h4=>?_,s'.os,s'.tape,s'.output,s'.glo,s'.drw⟩;obtain⟨B,I⟩:=s.fra b ob hb;obtain⟨k1,k2,_⟩:=a0 b I (a1 b ob hb) ob B;exact⟨k1,k2⟩;by_cases hh:∃k,k<d.length/\es k=h;obtain⟨k,J,rfl⟩:=hh;refine(Asg (es:=es) a9 b0 J (b7 k J) λb B I=>?_).2 (s'.obj k);have c4:=(s'.block B I).2.2;refine⟨λ_=>c4,λ_=>?_⟩;(cases c0:F b with|none=>rfl|some ob=>obtain⟨X,h4⟩:=s.fra b ob c0;have:=(a0 b h4 (a1 b ob c0) ob X).2.2;rw[c4]at this;cases this);have L:∀k,k<d.length->es k≠h:=λk B I=>hh ⟨k,B,I⟩;have a3:=s.obj h;have b1:=λb B I=>a5 h b L B I;unfold Cz at a3⊢;rw[b6 h L,b5 h L];(cases hx:H h with|none=>rw[hx]at a3;exact a3|dead=>trivial|cells E cs=>rw[hx]at a3 b1;obtain⟨b,C,e1,B,I,X,h4,h5⟩:=a3;obtain⟨k1,k2,_⟩:=a0 b B (b1 b rfl (by rw[e1];rfl)) _ X;exact⟨b,C,e1,k2,I,k1,h4,λi c v x y=>(h5 i c v x y).mono g0⟩|rows E sz xs=>rw[hx]at a3 b1;obtain⟨z1,z2,⟨e1,e2⟩|⟨b,i2,C,e1,B,I,X,h4,h5,h6⟩⟩:=a3;exact⟨z1,z2,.inl ⟨e1,e2⟩⟩;obtain⟨k1,k2,_⟩:=a0 b B (b1 b rfl (by rw[e1];rfl)) _ X;exact⟨z1,z2,.inr ⟨b,i2,C,e1,k2,I,k1,h4,h5,h6.mono c3.sto⟩⟩|map l=>rw[hx]at a3 b1;obtain⟨b,M,q,e1,B,I,X,h4⟩:=a3;obtain⟨k1,k2,_⟩:=a0 b B (b1 b rfl (by rw[e1];rfl)) _ X;exact⟨b,M,q,e1,k2,I,k1,h4.mono c3.sto⟩);have Aax:∀k,k<d.length->∀h,(∀k,k<d.length->es k≠h)->(C4 H (Fp es 0 d) (es k)).live=true->(C4 H (Fp es 0 d) h).live=true->(ι' (es k)).block?=some b->(ι' h).block?=some b->False:=(by intro k J h L g1 g2 g3 g4;rw[b0 k J,Age]at g1;rw[b6 h L]at g2;rw[<-a9 k J]at g3;rw[b5 h L]at g4;have c4:=(s'.block g1 g3).2.2;have hb:=s.block g2 g4;have g5:w.heap[b]?=some w.heap[b]:=(by simp[hb.1]);have:=(a0 b hb.2.1 (a5 h b L g2 g4) _ g5).2.2;rw[c4]at this;cases this);by_cases hh:∃k,k<d.length/\es k=h;obtain⟨k,J,rfl⟩:=hh;by_cases b8:∃k,k<d.length/\es k=h';obtain⟨k',a6,rfl⟩:=b8;rw[b0 k J,Age]at B;rw[b0 k' a6,Age]at I;rw[<-a9 k J]at X;rw[<-a9 k' a6]at h4;rw[s'.inj k k' b B I X h4];exact(Aax k J h' (λk B I=>b8 ⟨k,B,I⟩) B I X h4).elim;have L:∀k,k<d.length->es k≠h:=λk B I=>hh ⟨k,B,I⟩;by_cases b8:∃k,k<d.length/\es k=h';obtain⟨k',a6,rfl⟩:=b8;exact(Aax k' a6 h L I B h4 X).elim;have c5:∀k,k<d.length->es k≠h':=λk B I=>b8 ⟨k,B,I⟩;rw[b6 h L]at B;rw[b6 h' c5]at I;rw[b5 h L]at X;rw[b5 h' c5]at h4;exact s.inj h h' b B I X h4);exact hk r d hR σ' ι' v w' g0 i1 ((Asf (es:=es) a9 b0 o6).2 h8)
theorem Asn{n:Nat}{c:Call}{x:Operand}{f:FuncId}{h:Λ AV}{l:Λ Nat}{b:Λ AV}{j:Λ Bs}{r:AV}{g:Λ Bs}(z:o.op=.call c)(i:c.callee=.value x)(d:ρ x=.fn f h)(q:Bn P f b j r g)(B:b.map (ren (Dp n l))=c.args.toList.map ρ++h)(y:M0 n l b j r g=true):Cl P o ρ ⟨ren (Dp n l) r,Fp (Dp n l) 0 j++Cy (Dp n l) l.length (g.length-l.length),Fp (Dp n l) 0 g⟩:=λ_ _ _ _ _ _ _ _ _ s u k I=>A53 z i d q.toR B ⟨rfl,rfl⟩ (λ_ _ e=>⟨by rw[e.1,e.2];exact y,by rw[e.2]⟩) s u k λ_ _ e=>by rw[e.1,e.2];exact I
end
section
variable{P:Program}{T:Di}{an:Nat->Ann}{n:Nat}{o:Oper}{ρ:Operand->AV}{H:Hp}{K:Eff->Nat->Prop}
variable{r:AV}{b:Bs}{l:Λ Nat}{x y:Operand}{α:Type}{t:TypeId}
theorem Gm{b:Bool}{X:Prop}(h:bif b then X else False):b=true/\X:=by cases b with|false=>exact h.elim|true=>exact⟨rfl,h⟩
theorem Agg{x:AV}(h:Ob x=true):x=.val (.slice none 0 0):=by unfold Ob at h;split at h;rfl;cases h
theorem A54{x:AV}(h:Aas x=true):∀d,x≠.val (.agg d):=by intro d e;subst e;cases h
theorem Al1{i:TI}(B:Nat.beq (G4 i).cells.length i.zero.length=true)(d:Aas (G4 i)=true)(I:Nc i.size (G4 i)=true):(G4 i).cells=i.zero.map .val:=by have _:=B;have _:=I;unfold G4 at d⊢;cases J:i.d with|struct L=>rfl|_=>rw[J]at d;cases b:i.zero with|nil=>rfl|cons v l=>cases l with|cons _ _=>rfl|nil=>rw[b]at d;cases v<;>first|rfl|cases d
theorem Tl{c:Array α}{x y:α}(h:c.toList=[x,y]):c=#[x,y]:=by apply Array.ext';simpa using h
theorem X5{c:Array α}{x:α}(h:c.toList=[x]):c=#[x]:=by apply Array.ext';simpa using h
theorem Vs{c:Call}{b:Builtin}{xs:Array Operand}{ts:Array TypeId}(d:c.callee=.builtin b)(B:c.args=xs)(I:c.argTypes=ts):c = {callee:=.builtin b,args:=xs,argTypes:=ts}:=by cases c;simp_all
def Hf(H:Hp)(n:Nat):Prop:=∀m,n<=m->H m=.none
def Od(P:Program)(o:Oper)(ρ:Operand->AV)(H:Hp)(n:Nat)(K:Eff->Nat->Prop):Prop:=∃b m,Cl P o ρ b/\(∀p∈b.rd,H p.1=p.2)/\K b m/\n<=m/\Hf (C4 H b.wr) m
theorem D9(b:Hf H n)(h:Cl P o ρ ⟨r,[],[]⟩)(k:K ⟨r,[],[]⟩ n):Od P o ρ H n K:=⟨_,n,h,ψ,k,Nat.le_refl _,b⟩
theorem Oe(c:Hf H n){x:Nat}(h:Cl P o ρ ⟨r,[(x,b)],[]⟩)(d:H x=b)(k:K ⟨r,[(x,b)],[]⟩ n):Od P o ρ H n K:=⟨_,n,h,by simpa using d,k,Nat.le_refl _,c⟩
theorem Of(g:Hf H n){x:Nat}{c:Bs}(h:Cl P o ρ ⟨r,[(x,c)],[(x,b)]⟩)(d:H x=c)(f:c≠.none)(k:K ⟨r,[(x,c)],[(x,b)]⟩ n):Od P o ρ H n K:=by refine⟨_,n,h,by simpa using d,k,Nat.le_refl _,λm B=>?_⟩;(have i:x<n:=by rcases Nat.lt_or_ge x n with h|h;exact h;exact(f (d▸g x h)).elim);show A5 H x b m=_;rw[Cv _ _ ω];exact g m B
theorem Rz(c:Hf H n)(h:Cl P o ρ ⟨r,[(n,.none)],[(n,b)]⟩)(k:K ⟨r,[(n,.none)],[(n,b)]⟩ (n+1)):Od P o ρ H n K:=by refine⟨_,n+1,h,by simpa using c n (Nat.le_refl _),k,ω,λm d=>?_⟩;show A5 H n b m=_;rw[Cv _ _ ω];exact c m ω
theorem A55(i:Hf H n){x y:Nat}{f c:Bs}(h:Cl P o ρ ⟨r,[(x,f),(y,b)],[(x,c)]⟩)(d:H x=f)(B:H y=b)(g:f≠.none)(k:K ⟨r,[(x,f),(y,b)],[(x,c)]⟩ n):Od P o ρ H n K:=by refine⟨_,n,h,by simp[d,B],k,Nat.le_refl _,λm I=>?_⟩;(have j:x<n:=by rcases Nat.lt_or_ge x n with h|h;exact h;exact(g (d▸i x h)).elim);show A5 H x c m=_;rw[Cv _ _ ω];exact i m I
theorem Aso{H:Hp}:∀{l:Λ (Nat×Bs)},(∀p∈l,H p.1=p.2)->C4 H l=H
 |[],_=>rfl
 |p::l,h=>by(have e:A5 H p.1 p.2=H:=by funext q;by_cases d:q=p.1;subst d;rw[Ca];exact(h p ψ).symm;exact Cv _ _ d);show C4 (A5 H p.1 p.2) l=H;rw[e];exact Aso λq d=>h q (by simp[d])
theorem A56{c:Call}{f:FuncId}{h:Λ AV}{b:Λ AV}{g:Λ Bs}(A:o.op=.call c)(j:c.callee=.value x)(J:ρ x=.fn f h)(q:Bn P f b g r g)(L:b.map (ren (Dp n l))=c.args.toList.map ρ++h)(k:M0 n l b g r g=true):Cl P o ρ ⟨ren (Dp n l) r,Fp (Dp n l) 0 g,[]⟩:=by(intro σ ι H F W w a next Q s u i M);(have E:g.length=l.length:=by simp only[M0,F8]at k;exact Gk k.1.1.1.1.1.2);have D:g.length-l.length=0:=ω;(refine Asn A j J q L k σ ι H F W w a next Q s u (λp hp=>?_) (λy z v w' le d I=>?_));rw[D]at hp;rcases mem_append.1 hp with hp|hp;exact i p hp;simp[Cy]at hp;have B:C4 H (Fp (Dp n l) 0 g)=H:=Aso i;dsimp only at le d I;rw[B]at le d I;exact M y z v w' le d I
theorem A57(j:Hf H n){c:Λ AV}{f b:Λ Bs}(g:M0 n l c f r b=true)(hh:Pd H (Fp (Dp n l) 0 f))(h:Cl P o ρ ⟨ren (Dp n l) r,Fp (Dp n l) 0 f++Cy (Dp n l) l.length (b.length-l.length),Fp (Dp n l) 0 b⟩)(k:K ⟨ren (Dp n l) r,Fp (Dp n l) 0 f++Cy (Dp n l) l.length (b.length-l.length),Fp (Dp n l) 0 b⟩ (n+(b.length-l.length))):Od P o ρ H n K:=by simp only[M0,F8]at g;have s:=g.1.1.1.1.1.1;have u:=G8 g.1.1.1.1.2;refine⟨_,n+(b.length-l.length),h,λp hp=>?_,k,ω,λq B=>?_⟩;rcases mem_append.1 hp with hp|hp;exact hh.spec p hp;obtain⟨i,hi,rfl⟩:=Asm hp;refine j _ ?_;show n<=Dp n l (l.length+i);rw[Aav ω];omega;show C4 H (Fp (Dp n l) 0 b) q=.none;rw[Agf λi hi e=>?_];exact j q ω;rcases Nat.lt_or_ge (0+i) l.length with d|d;have:=Ash s d;omega;have:=Aav (n:=n) d;omega
theorem A58(l:Dk P T)(g:Hf H n)(f:o.op=.load t x)(h:sop P T an n o ρ H K):Od P o ρ H n K:=by unfold sop at h;rw[f]at h;dsimp only at h;split at h;rename_i i B;split at h;rename_i cs d;(cases b:i.isAgg with|true=>rw[b]at h;simp only[cond_true]at h;obtain⟨I,J⟩:=Gm h;exact D9 g (A3c l f B b d (G8 I)) J|false=>rw[b]at h;simp only[cond_false]at h;split at h;exact D9 g (A3b l f B b d) h;exact h.elim);rename_i U off d;split at h;rename_i E cs L;(cases b:i.isAgg with|true=>rw[b]at h;simp only[cond_true]at h;obtain⟨I,J⟩:=Gm h;exact Oe g (A3e l f B b d (G8 I)) L J|false=>rw[b]at h;simp only[cond_false]at h;split at h;rename_i c M;exact Oe g (A3d l f B b d M) L h;exact h.elim);exact h.elim;rename_i U k q j d;split at h;rename_i E sz xs L;obtain⟨y,N,R,h⟩:=h;(cases b:i.isAgg with|true=>rw[b]at h;simp only[cond_true]at h;obtain⟨I,J⟩:=Gm h;exact Oe g (A3g l f B b d N R (G8 I)) L J|false=>rw[b]at h;simp only[cond_false]at h;split at h;rename_i c M;exact Oe g (A3f l f B b d N R M) L h;exact h.elim);exact h.elim;rename_i cs d;(cases b:i.isAgg with|true=>rw[b]at h;simp only[cond_true]at h;obtain⟨I,J⟩:=Gm h;exact D9 g (A5e l f B b d (G8 I)) J|false=>rw[b]at h;simp only[cond_false]at h;split at h;exact D9 g (A5d l f B b d) h;exact h.elim);exact h.elim;exact h.elim
theorem A59(g:Dk P T)(f:Hf H n)(b:o.op=.store t x y)(h:sop P T an n o ρ H K):Od P o ρ H n K:=by unfold sop at h;rw[b]at h;dsimp only at h;split at h;rename_i i J;split at h;rename_i U off I;split at h;rename_i E cs L;obtain⟨d,B⟩:=Gm h;simp only[F8]at d;exact Of f (A3i g b J I (Gk d.1.1) (G8 d.1.2) d.2) L (by intro e;cases e) B;exact h.elim;rename_i U k q j I;split at h;rename_i E sz xs L;obtain⟨z,V,l,h⟩:=h;obtain⟨d,B⟩:=Gm h;simp only[F8]at d;obtain⟨⟨⟨⟨M,N⟩,R⟩,X⟩,g5⟩:=d;rw[Agb,Aau]at B;obtain⟨u,c,B⟩:=B;subst c;exact Of f (A3k g b J I V l (Gk M) (G8 N) (G8 R) X (A54 g5)) L (by intro e;cases e) B;exact h.elim;rename_i cs I;obtain⟨d,B⟩:=Gm h;simp only[F8]at d;obtain⟨⟨M,N⟩,R⟩:=d;obtain⟨s,B⟩:=B;exact D9 f (A5g g b J I (Gk M) (G8 N) s R) B;exact h.elim;exact h.elim
theorem A6a(l:Dk P T)(g:Hf H n){op:BinOp}{q:TypeId}(f:o.op=.binOp op t x y q)(h:sop P T an n o ρ H K):Od P o ρ H n K:=by unfold sop at h;rw[f]at h;dsimp only at h;split at h;rename_i k a j b d N;split at h;obtain⟨c,R,U,V⟩:=h;exact D9 g (A3u f d N R U) V;obtain⟨c,R,U,V⟩:=h;exact D9 g (A3t f d N R U) V;replace h:=Gm h;obtain⟨X,h⟩:=h;have X:k=j:=(by simpa using X);subst X;split at h;obtain⟨c,R,U⟩:=h;exact D9 g (A3m f d N R) U;obtain⟨c,R,U⟩:=h;exact D9 g (A3n f d N R) U;obtain⟨c,R,U⟩:=h;exact D9 g (A3o f d N R) U;obtain⟨c,R,U,V⟩:=h;exact D9 g (A3p f d N R U) V;obtain⟨c,R,U,V⟩:=h;exact D9 g (A3q f d N R U) V;split at h;rename_i t' i;exact D9 g (A3r f d N i) h;split at h;rename_i c hc;exact D9 g (A3s f d N hc) h;exact h.elim;rename_i a b d N;split at h;rename_i A z u ht;split at h;rename_i t' i;exact D9 g (A3x l f ht rfl d N i) h;exact h.elim;exact h.elim;rename_i xs ys d N;split at h;rename_i s R;split at h;rename_i vs U;split at h;obtain⟨b,hb,h⟩:=h;exact D9 g (Ars f d N R U hb (.inl ⟨rfl,rfl⟩)) h;obtain⟨b,hb,h⟩:=h;exact D9 g (Ars f d N R U hb (.inr ⟨rfl,rfl⟩)) h;exact h.elim;exact h.elim;exact h.elim;rename_i k a j b d N;replace h:=Gm h;obtain⟨X,h⟩:=h;have X:k=j:=(by simpa using X);subst X;obtain⟨c,R,U⟩:=h;exact D9 g (A34 f d N R) U;rename_i a b d N;split at h;obtain⟨R,U⟩:=h;exact D9 g (A30 f d N R) U;split at h;rename_i t' i;exact D9 g (A3z f d N i) h;exact h.elim;rename_i p G E D B d N;split at h;split at h;rename_i M L J I ht;exact D9 g (A3y l f ht rfl d N) h;exact h.elim;exact h.elim;exact h.elim
theorem A6b(q:Dk P T)(j:Hf H n){lo hi:Ο Operand}(g:o.op=.slice t x lo hi none)(h:sop P T an n o ρ H K):Od P o ρ H n K:=by unfold sop at h;rw[g]at h;dsimp only at h;split at h;rename_i e B A z L;split at h;rename_i i' u;split at h;rename_i sz xs I;split at h;rename_i y U c J;replace h:=Gm h;obtain⟨N,h⟩:=h;obtain⟨l,i,ys,el,b,M,d,V,k⟩:=h;subst el;subst b;subst V;exact D9 j (A4m q g L rfl u (Gk N) I c J M d) k;exact h.elim;rename_i hd k off len I;split at h;rename_i E sz xs f;split at h;rename_i y U c J;replace h:=Gm h;obtain⟨N,h⟩:=h;(cases h with|mk l i R el b M d X k=>subst el;subst b;exact Oe j (A4o q g L rfl u (Gk N) I R c J M d X) f k|mkE l R el b d k=>subst el;subst b;exact Oe j (A5a q g L rfl u I R c J d) f k);exact h.elim;exact h.elim;exact h.elim;exact h.elim;rename_i B A z L;split at h;rename_i s I;split at h;rename_i y U c J;obtain⟨l,i,el,b,M,d,k⟩:=h;subst el;subst b;exact D9 j (A4n q g L rfl I c J M d) k;exact h.elim;exact h.elim;exact h.elim
theorem A6c(B:Dk P T)(z:Hf H n){c:Call}(u:o.op=.call c)(h:sop P T an n o ρ H K):Od P o ρ H n K:=by unfold sop at h;rw[u]at h;dsimp only at h;split at h;rename_i x i;split at h;rename_i f ae d;split at h;rename_i j ak;split at h;rename_i hd k len hj;split at h;rename_i E sz xs hh;obtain⟨hk,I,r,hp,hf,h⟩:=h;subst hk;rw[<-I]at hj;exact Of z (A50 u i d hj hp hf) hh (by intro e;cases e) h;exact h.elim;exact h.elim;(cases h with|mk r hp hf k=>exact D9 z (A5y u i d hp hf) k|ext r hp hf k=>exact D9 z (A5z u i d hp hf) k|act l V hs r aj hp ha ok hh k=>exact A57 z ok hh (Asn u i d hp ha ok) k|rd l V hs r hp ha ok hh k=>exact⟨_,n,A56 u i d hp ha ok,λp hp=>hh.spec p hp,k,Nat.le_refl _,z⟩);exact h.elim;exact h.elim;rename_i i;split at h;rename_i x t ha A;rw[Vs i (X5 ha) (X5 A)]at u;split at h;rename_i e s1 Z Y ht;split at h;rename_i sz xs d;split at h;obtain⟨c,hc,h⟩:=h;subst hc;exact D9 z (Arg B u ht rfl d) h;exact D9 z (Arg B u ht rfl d) h;rename_i p m a0 d;exact D9 z (A4b B u ht rfl d) h;rename_i hd m d;exact D9 z (A4i B u ht rfl d) h;rename_i hd k off len d;split at h;rename_i E sz xs hh;obtain⟨hk,h⟩:=h;exact Oe z (A4e B u ht rfl d hk) hh h;exact h.elim;rename_i xs d;split at h;obtain⟨c,hc,h⟩:=h;subst hc;exact D9 z (Arr B u ht rfl d) h;exact D9 z (Arr B u ht rfl d) h;exact h.elim;rename_i s1 Z Y ht;split at h;rename_i s d;exact D9 z (A4d B u ht rfl d) h;exact h.elim;exact h.elim;exact h.elim;rename_i i;split at h;rename_i x t ha A;rw[Vs i (X5 ha) (X5 A)]at u;split at h;rename_i e s1 Z Y ht;split at h;rename_i p m a0 d;exact D9 z (A4c B u ht rfl d) h;exact h.elim;exact h.elim;exact h.elim;rename_i i;split at h;rename_i x y t t' ha A;rw[Vs i (Tl ha) (Tl A)]at u;split at h;rename_i e s1 Z Y ht;split at h;rename_i i' J;split at h;rename_i h2 k2 a6 a7 hy;split at h;rename_i hd k off len d;split at h;rename_i E sz xs hh;replace h:=Gm h;obtain⟨g5,h⟩:=h;simp only[F8]at g5;have N:=Gk g5.1.1.1;have U:=Gk g5.1.1.2;have X:=Gk g5.1.2;have e4:0<i'.size:=G8 g5.2;subst N;subst U;subst X;obtain⟨R,c,hk,I,M,L,G,hc,k⟩:=h;subst G;subst hc;exact Of z (A48 B u ht rfl J e4 d hk I hy M L) hh (by intro e;cases e) k;exact h.elim;rename_i q d;split at h;rename_i E sz xs hh;replace h:=Gm h;obtain⟨g5,h⟩:=h;have N:=Gk g5;subst N;obtain⟨hk,k⟩:=h;exact Oe z (A49 B u ht rfl J d hy hk) hh k;exact h.elim;exact h.elim;exact h.elim;exact h.elim;exact h.elim;exact h.elim;rename_i i;split at h;rename_i x t ha A;rw[Vs i (X5 ha) (X5 A)]at u;split at h;rename_i e s1 Z Y ht;split at h;rename_i i' J;split at h;rename_i hd k off len d;split at h;rename_i E sz xs hh;replace h:=Gm h;obtain⟨g5,h⟩:=h;simp only[F8]at g5;have N:=Gk g5.1.1.1.1.1;have U:=Gk g5.1.1.1.1.2;have X:0<i'.size:=G8 g5.1.1.1.2;subst N;subst U;obtain⟨R,hk,I,G,k⟩:=h;subst G;exact Of z (A5b B u ht rfl J X g5.1.1.2 (Al1 g5.1.2 g5.2 g5.1.1.2) d hk I) hh (by intro e;cases e) k;exact h.elim;rename_i q d;exact D9 z (A5c B u ht rfl d) h;exact h.elim;exact h.elim;exact h.elim;exact h.elim;rename_i i;split at h;rename_i x y t t' ha A;rw[Vs i (Tl ha) (Tl A)]at u;split at h;rename_i e s1 Z Y e' ab aa a8 ht D;split at h;rename_i i' J;replace h:=Gm h;obtain⟨g,h⟩:=h;simp only[F8]at g;obtain⟨⟨g1,g2⟩,g3⟩:=g;have g1:0<i'.size:=G8 g1;have g2:=Gk g2;have g3:=G8 g3;split at h;rename_i sz ys hy;replace h:=Gm h;obtain⟨g4,h⟩:=h;have g4:=Gk g4;subst g4;split at h;rename_i hd k len d;split at h;rename_i E a1 xs hh;replace h:=Gm h;obtain⟨g5,h⟩:=h;simp only[F8]at g5;have N:=Gk g5.1;have U:=Gk g5.2;subst N;subst U;split at h;(cases h with|mk R m hk I hb G hm k=>subst I;subst G;exact Of z (A45 (Arn B u ht rfl D rfl J g1 g2 g3 d hk hy hb) (by simp[hk])) hh (by intro e;cases e) k|mkP R k' m hk I hb G S hm k=>exact k.elim);(cases h with|mk R m hk I hb G hm k=>subst I;subst G;subst hm;exact Of z (Arn B u ht rfl D rfl J g1 g2 g3 d hk hy hb) hh (by intro e;cases e) k|mkP R k' m hk I hb G S hm k=>subst G;subst hm;subst S;exact Of z (A43 B u ht rfl D rfl J g1 g2 g3 d hk I hy hb) hh (by intro e;cases e) k);exact h.elim;rename_i d;obtain⟨R,m,hb,G,hm,k⟩:=h;subst G;subst hm;exact Rz z (A4z B n u ht rfl D rfl J g1 g2 g3 d hy hb) k;rename_i ai ag d;obtain⟨ac,k⟩:=h;subst ac;exact D9 z (A46 B u ht rfl D rfl J g1 d hy) k;exact h.elim;rename_i h2 k2 a6 a7 hy;split at h;rename_i hd k len d;split at h;rename_i E a1 xs hh;replace h:=Gm h;obtain⟨g5,h⟩:=h;simp only[F8]at g5;have N:=Gk g5.1;have U:=Gk g5.2;subst N;subst U;(cases g6:Nat.beq hd h2 with|true=>rw[g6]at h;have X:=Gk g6;subst X;obtain⟨R,k',m,hk,I,M,L,hb,G,S,hm,k⟩:=h;subst G;subst hm;subst S;exact Of z (A47 B u ht rfl D rfl J g1 g2 g3 d hk I hy M L hb) hh (by intro e;cases e) k|false=>rw[g6]at h;simp only[cond_false]at h;split at h;rename_i E2 ah af ad;replace h:=Gm h;obtain⟨g7,h⟩:=h;simp only[F8]at g7;have X:=Gk g7.1;have e4:=Gk g7.2;subst X;subst e4;obtain⟨R,m,hk,I,M,L,hb,G,hm,k⟩:=h;subst I;subst G;subst hm;exact A55 z (A5h B u ht rfl D rfl J g1 g2 g3 d hk hy M L hb) hh ad (by intro e;cases e) k;exact h.elim);exact h.elim;exact h.elim;exact h.elim;exact h.elim;rename_i e s1 Z Y ab aa a8 ht D;split at h;rename_i i' J;replace h:=Gm h;obtain⟨g,h⟩:=h;simp only[F8]at g;obtain⟨⟨g1,g2⟩,g3⟩:=g;have g1:=Gk g1;have g2:=Gk g2;have g3:=G8 g3;split at h;rename_i s hy;split at h;rename_i hd k len d;split at h;rename_i E a1 xs hh;replace h:=Gm h;obtain⟨g5,h⟩:=h;simp only[F8]at g5;have N:=Gk g5.1;have U:=Gk g5.2;subst N;subst U;obtain⟨_,_,_,_,_,_,_,_,_,k⟩|⟨R,m,hk,I,hb,G,hm,k⟩:=h;exact k.elim;subst I;subst G;subst hm;exact Of z (A4y B u ht rfl D rfl J g1 g2 g3 d hk hy hb) hh (by intro e;cases e) k;exact h.elim;exact h.elim;exact h.elim;exact h.elim;exact h.elim;exact h.elim;rename_i i;split at h;rename_i x y t t' ha A;rw[Vs i (Tl ha) (Tl A)]at u;split at h;rename_i k a k' b d hy;exact D9 z (A41 u d hy) h;exact h.elim;exact h.elim;rename_i i;split at h;rename_i x y t t' ha A;rw[Vs i (Tl ha) (Tl A)]at u;split at h;rename_i k a k' b d hy;exact D9 z (A42 u d hy) h;exact h.elim;exact h.elim;exact h.elim
theorem A6d(B:Dk P T)(A:Hf H n)(h:sop P T an n o ρ H K):Od P o ρ H n K:=by cases u:o.op with|load t x=>exact A58 B A u h|store t x y=>exact A59 B A u h|binOp op t x y yt=>exact A6a B A u h|call c=>exact A6c B A u h|slice t x lo hi mx=>(cases mx with|none=>exact A6b B A u h|some m=>unfold sop at h;rw[u]at h;exact h.elim)|move x=>unfold sop at h;rw[u]at h;exact D9 A (A27 u) h|assign x=>(unfold sop at h;rw[u]at h;dsimp only at h;split at h;exact D9 A (Xy u) h;split at h;exact D9 A (Xy u) h;exact D9 A (Xy u) h;exact D9 A (Xy u) h;exact D9 A (Xy u) h;cases hb:Ob (ρ x)with|false=>rw[hb]at h;exact D9 A (Xy u) h|true=>rw[hb]at h;simp only[cond_true]at h;split at h;rename_i e I G J ht;split at h;rename_i i' D;replace h:=Gm h;obtain⟨g1,h⟩:=h;exact Rz A (A40 B n u (Agg hb) ht rfl D (G8 g1)) h;exact h.elim;exact h.elim)|pick c a b=>unfold sop at h;rw[u]at h;dsimp only at h;split at h;rename_i t hc;exact D9 A (A28 u hc) h;exact h.elim|alloc t=>unfold sop at h;rw[u]at h;dsimp only at h;split at h;rename_i i ht;exact Rz A (A29 B n u ht) h;exact h.elim|box t x=>unfold sop at h;rw[u]at h;exact Rz A (A3a n u) h|build t parts=>unfold sop at h;rw[u]at h;dsimp only at h;split at h;rename_i fs I G z ht;split at h;rename_i cs hc;exact D9 A (A4p B u ht rfl hc) h;exact h.elim;exact h.elim|buildSlice t len parts=>unfold sop at h;rw[u]at h;dsimp only at h;split at h;rename_i e I G J ht;split at h;rename_i i' D;replace h:=Gm h;obtain⟨g,h⟩:=h;simp only[F8]at g;obtain⟨⟨⟨g1,g2⟩,g3⟩,g4⟩:=g;have g2:parts.toList.map (·.1)=range' 0 len:=(by simpa using g2);have g4:∀p∈parts.toList,Nc i'.size (ρ p.2)=true:=E7.1 g4;split at h;exact h.elim;exact h.elim;rw[Agc]at h;exact D9 A (Ark B u ht rfl D (G8 g1) g2 (G8 g3) g4) h;rw[Agc]at h;exact D9 A (Ark B u ht rfl D (G8 g1) g2 (G8 g3) g4) h;rw[Agc]at h;exact Rz A (A4r B n u ht rfl D (G8 g1) g2 (G8 g3) g4) h;exact h.elim;exact h.elim|nilCheck x=>unfold sop at h;rw[u]at h;dsimp only at h;replace h:=Gm h;obtain⟨g1,h⟩:=h;exact D9 A (A3l u g1) h|unOp op t x=>unfold sop at h;rw[u]at h;dsimp only at h;split at h;rename_i b hx;exact D9 A (A31 u hx) h;rename_i k m hx;obtain⟨c,h1,h2⟩:=h;exact D9 A (A32 u hx h1) h2;exact h.elim|convert s d x=>unfold sop at h;rw[u]at h;dsimp only at h;split at h;rename_i i k I G J L m hs hd hx;obtain⟨c,h1,h2⟩:=h;exact D9 A (A33 B u hs hd rfl hx h1) h2;rename_i v0 k0 I G J k1 m h1 h2 hx;exact D9 A (A35 B u h1 h2 rfl hx) h;rename_i v0 k0 I G J q m h1 h2 hx;obtain⟨c,g1,g2⟩:=h;exact D9 A (A36 B u h1 h2 rfl hx g1) g2;rename_i e I G J s4 s5 s6 sz xs ht hd hx;split at h;rename_i s7 s8 s9 D;replace h:=Gm h;obtain⟨g1,h⟩:=h;obtain⟨bs,g2,g3⟩:=h;have g1:sz=1:=Gk g1;subst g1;exact D9 A (A4f B u ht rfl D rfl hd rfl hx g2) g3;exact h.elim;exact h.elim|makeFunc fn first X=>(cases fn with|func f=>unfold sop at h;rw[u]at h;dsimp only at h;replace h:=Gm h;obtain⟨g1,h⟩:=h;(have:first=#[]:=by simpa using g1);subst this;exact D9 A (A4l u) h|_=>unfold sop at h;rw[u]at h;exact h.elim)|makeSlice t x y=>unfold sop at h;rw[u]at h;dsimp only at h;split at h;rename_i e I G J ht;split at h;rename_i i' D;split at h;rename_i k l L c hx hy;split at h;rename_i m hm;split at h;rename_i v hv;replace h:=Gm h;obtain⟨g,h⟩:=h;simp only[F8]at g;obtain⟨⟨⟨⟨g1,g2⟩,g3⟩,g4⟩,g5⟩:=g;have g4:=of_decide_eq_true g4;have g5:=of_decide_eq_true g5;subst g4;subst g5;exact Rz A (A4s B n u ht rfl D (Gk g1) hv hx hy (G8 g3) (G8 g2)) h;exact h.elim;replace h:=Gm h;obtain⟨g,h⟩:=h;simp only[F8]at g;obtain⟨⟨⟨g1,g2⟩,g3⟩,g4⟩:=g;(rcases h with⟨l',c',Y,el,ec,h1,h2,h3,N,k⟩|⟨Z,U,l',c',Y,el,ec,h1,h2,h3,N,k⟩);subst el;subst ec;subst N;exact Rz A (A4t B n u ht rfl D (G8 g1) hx hy h1 h2 h3 g2 (Al1 g3 g4 g2)) k;subst el;subst ec;subst N;exact Rz A (A4u B Z n u ht rfl D (G8 g1) hx hy h1 h2 h3 g2 (Al1 g3 g4 g2) U) k;exact h.elim;exact h.elim;exact h.elim|fieldAddr s x f=>unfold sop at h;rw[u]at h;dsimp only at h;split at h;rename_i fs I G J ht;split at h;rename_i q hf;split at h;rename_i hd off hx;exact D9 A (A38 B u ht rfl hf hx) h;rename_i cs hx;exact D9 A (A39 B u ht rfl hf hx) h;rename_i hd k m j hx;split at h;rename_i E sz xs hh;obtain⟨hk,h⟩:=h;exact Oe A (A4a B u ht rfl hf hx hk) hh h;exact h.elim;exact h.elim;exact h.elim;exact h.elim|indexAddr t x y=>unfold sop at h;rw[u]at h;dsimp only at h;split at h;rename_i e I G J ht;split at h;rename_i i' D;split at h;rename_i hd m k i hx hy;replace h:=Gm h;obtain⟨g1,h⟩:=h;obtain⟨q,hi,hq,L⟩:=h;subst hi;exact D9 A (A4h B u ht rfl D (Gk g1) hx hy hq) L;rename_i sz xs k i hx hy;replace h:=Gm h;obtain⟨g1,h⟩:=h;obtain⟨m,z,hi,N,L⟩:=h;subst hi;exact D9 A (A4g B u ht rfl D (Gk g1) hx hy N) L;rename_i hd k off len kk i hx hy;split at h;rename_i E sz xs hh;replace h:=Gm h;obtain⟨g1,h⟩:=h;obtain⟨m,hk,hi,hm,L⟩:=h;subst hi;exact Oe A (A4j B u ht rfl D hx hk hy hm (Gk g1)) hh L;exact h.elim;rename_i xs k i hx hy;replace h:=Gm h;obtain⟨g1,h⟩:=h;obtain⟨m,z,hi,N,L⟩:=h;subst hi;exact D9 A (A5f B u ht rfl D (Gk g1) hx hy N) L;exact h.elim;exact h.elim;exact h.elim|index t x y=>unfold sop at h;rw[u]at h;dsimp only at h;split at h;rename_i I G J ht;split at h;rename_i s k i hx hy;obtain⟨m,c,hi,hc,L⟩:=h;subst hi;exact D9 A (A4k B u ht rfl hx hy hc) L;exact h.elim;exact h.elim|field t x f=>unfold sop at h;rw[u]at h;dsimp only at h;split at h;rename_i fs I G J ht;split at h;rename_i q hq;split at h;rename_i cs hx;obtain⟨ft,hf,h⟩:=h;split at h;rename_i S D;(cases M:S.isAgg with|true=>rw[M]at h;simp only[cond_true]at h;obtain⟨h1,h2⟩:=Gm h;exact D9 A (Art B u ht rfl hq hf D hx (.inl ⟨M,G8 h1,rfl⟩)) h2|false=>rw[M]at h;simp only[cond_false]at h;split at h;rename_i c hc;exact D9 A (Art B u ht rfl hq hf D hx (.inr ⟨M,hc⟩)) h;exact h.elim);exact h.elim;exact h.elim;exact h.elim;exact h.elim|makeMap t r=>(cases r with|none=>unfold sop at h;rw[u]at h;exact Rz A (A5i n u) h|some q=>unfold sop at h;rw[u]at h;exact h.elim)|lookup t x y ok=>unfold sop at h;rw[u]at h;dsimp only at h;split at h;rename_i kt et I G J ht;split at h;rename_i q1 q2 q3 hk;split at h;rename_i S D;split at h;rename_i hd hx;split at h;rename_i s hy;split at h;rename_i es hh;obtain⟨r,R,h⟩:=h;exact Oe A (A5j B u ht rfl hk rfl D hx hy R) hh h;exact h.elim;exact h.elim;exact h.elim;exact h.elim;split at h;rename_i S D;split at h;rename_i hd hx;split at h;rename_i ks hy;split at h;rename_i us hu;split at h;rename_i es hh;obtain⟨r,hc,R,h⟩:=h;exact Oe A (A5l B u ht rfl D hx hy hu hc R) hh h;exact h.elim;exact h.elim;exact h.elim;exact h.elim;exact h.elim;exact h.elim;exact h.elim|mapUpdate t x y z=>unfold sop at h;rw[u]at h;dsimp only at h;split at h;rename_i kt et I G J ht;split at h;rename_i q1 q2 q3 hk;split at h;rename_i hd hx;split at h;rename_i s hy;split at h;rename_i es hh;obtain⟨g1,h⟩:=Gm h;rw[Aau]at h;obtain⟨V,R,h⟩:=h;exact Of A (A5k B u ht rfl hk rfl hx hy g1 R) hh (by intro e;cases e) h;exact h.elim;exact h.elim;exact h.elim;split at h;rename_i hd hx;split at h;rename_i ks hy;split at h;rename_i us hu;split at h;rename_i es hh;obtain⟨g1,h⟩:=Gm h;rw[Aau]at h;obtain⟨V,hc,R,rfl,h⟩:=h;exact Of A (A5m B u ht rfl hx hy hu g1 hc R) hh (by intro e;cases e) h;exact h.elim;exact h.elim;exact h.elim;exact h.elim;exact h.elim;exact h.elim|extract x i=>unfold sop at h;rw[u]at h;dsimp only at h;split at h;rename_i cs hx;split at h;rename_i c hc;exact D9 A (A37 u hx hc) h;exact h.elim;exact h.elim|_=>unfold sop at h;rw[u]at h;exact h.elim
end
variable{x:AV}{σ:Aw}{ι:B6}{t:Bool}{H:Hp}{l:Λ (Nat×Nat)}{sz:Nat}{A:Prop}{v:Value}
theorem I3{B:Prop}(h:t=true)(k:A):bif t then A else B:=by rw[h];exact k
theorem Al2{B:Prop}(h:t=false)(k:B):bif t then A else B:=by rw[h];exact k
abbrev Mm:=List (List Nat×List Nat)
def Og(l:Λ (Nat×Nat)):Nat->Λ AV->Λ AV
 |_,[]=>[]
 |i,x::xs=>(bif Ob x then(match l.lookup i with|some sz=>.sl sz []|none=>x)else x)::Og l (i+1) xs
def elN(l:Λ (Nat×Nat))(x:AV):AV:=match x with|.val (.agg d)=>.agg (Og l 1000 (d.toList.map .val))|.agg cs=>.agg (Og l 1000 cs)|x=>x
def Aay(l:Λ (Nat×Nat))(x:AV):AV:=match l with
 |[]=>x
 |p::l=>match x with
  |.sl sz xs=>bif Nat.ble 1000 p.1 then .sl sz (xs.map (elN (p::l)))else .sl sz xs
  |.agg cs=>.agg (Og (p::l) 0 cs)
  |x=>bif Ob x then .sl p.2 []else x
def Al3(nl:Nat->Λ (Nat×Nat)):Ο Nat->Λ (Nat×Nat)
 |none=>[]
 |some d=>nl d
theorem Agh(d:Ob x=true)(h:Conc σ ι H x v):Conc σ ι H (.sl sz []) v:=by rw[Agg d]at h;rw[h.val_inv];exact .cc (.nil sz none 0)
theorem Al4{l:Λ (Nat×Nat)}:∀{cs:Λ AV}{i k:Nat}{c:AV},(Og l k cs)[i]?=some c->∃d,cs[i]?=some d/\(c=d\/(Ob d=true/\∃sz,c=.sl sz []))
 |[],i,k,c,h=>by simp[Og]at h
 |x::xs,0,k,c,h=>by simp only[Og,getElem?_cons_zero,Option.some.injEq]at h;refine⟨x,rfl,?_⟩;cases B:Ob x with|false=>rw[B]at h;exact .inl h.symm|true=>rw[B]at h;simp only[cond_true]at h;split at h;rename_i sz _;exact .inr ⟨rfl,sz,h.symm⟩;exact .inl h.symm
 |x::xs,i+1,k,c,h=>by simp only[Og,getElem?_cons_succ]at h;obtain⟨d,I,J⟩:=Al4 h;exact⟨d,by simpa using I,J⟩
theorem Al5{l:Λ (Nat×Nat)}:∀{cs:Λ AV}{k:Nat},(Og l k cs).length=cs.length
 |[],_=>rfl
 |x::xs,k=>by simp only[Og,length_cons,Al5]
theorem A6e:(elN l x).cells.length=x.cells.length/\∀(j:Nat)(c b:AV)(u:Value),x.cells[j]?=some c->(elN l x).cells[j]?=some b->CC σ c u->CC σ b u:=by(have d:∀cs:Λ AV,(Og l 1000 cs).length=cs.length/\∀(j:Nat)(c b:AV)(u:Value),cs[j]?=some c->(Og l 1000 cs)[j]?=some b->CC σ c u->CC σ b u:=by intro cs;refine⟨Al5,λj c b u I J B=>?_⟩;obtain⟨N,L,rfl|⟨M,sz,rfl⟩⟩:=Al4 J;rw[I]at L;cases L;exact B;rw[I]at L;cases L;rw[Agg M]at B;cases B;exact .nil sz none 0);unfold elN;split;exact d _;exact d _;exact⟨rfl,λj c b u I J B=>by rw[I]at J;cases J;exact B⟩
theorem CC.mapEl{xs:Λ AV}(f:AV->AV)(hf:∀x,(f x).cells.length=x.cells.length/\∀(j:Nat)(c k:AV)(u:Value),x.cells[j]?=some c->(f x).cells[j]?=some k->CC σ c u->CC σ k u)(h:CC σ (.sl sz xs) v):CC σ (.sl sz (xs.map f)) v:=by cases h with|nil sz a cap=>exact .nil sz a cap|sl _ b off cap _ C E fr g B D hc h1 I G s=>have q:(xs.map f).length=xs.length:=ψ;have l:∀(i:Nat)(y:AV)(j:Nat)(k:AV),(xs.map f)[i]?=some y->y.cells[j]?=some k->∃x c,xs[i]?=some x/\x.cells[j]?=some c/\y=f x:=(by intro i y j k d J;rw[getElem?_map]at d;cases hx:xs[i]? with|none=>rw[hx]at d;cases d|some x=>rw[hx]at d;cases d;have L:j<x.cells.length:=(by rw[<-(hf x).1];exact(F5.1 J).1);exact⟨x,x.cells[j],rfl,getElem?_eq_getElem L,rfl⟩);rw[<-q];refine .sl (xs.map f) b off cap sz C E fr g B ?_ ?_ ?_ (λi j hi L=>I i j (by simpa using hi) L) (by simpa using G) (by simpa using s);intro i y hy;rw[getElem?_map]at hy;(cases hx:xs[i]? with|none=>rw[hx]at hy;cases hy|some x=>rw[hx]at hy;cases hy;rw[(hf x).1];exact D i x hx);intro i y j k d J;obtain⟨x,c,A,z,rfl⟩:=l i y j k d J;exact(hf x).2 j c k _ z J (hc i x j c A z);intro i y j k d J;obtain⟨x,c,A,z,rfl⟩:=l i y j k d J;exact h1 i x j c A z
theorem A6f(h:Conc σ ι H x v):Conc σ ι H (Aay l x) v:=by unfold Aay;split;exact h;split;rename_i _ p l _ sz xs;(cases R:Nat.ble 1000 p.1 with|false=>exact h|true=>exact .cc (h.sl_inv.mapEl _ λx=>A6e));rename_i cs;obtain⟨J,rfl,b,d⟩:=h.agg_inv;refine .agg _ J (by rw[Al5];exact b) λi c u L B=>?_;obtain⟨U,I,rfl|⟨M,sz,rfl⟩⟩:=Al4 L;exact d i _ u I B;exact Agh M (d i _ u I B);cases N:Ob x with|false=>exact h|true=>exact Agh N h
theorem Cl.nils{P:Program}{o:Oper}{ρ:Operand->AV}{b:Eff}(l:Λ (Nat×Nat))(h:Cl P o ρ b):Cl P o ρ ⟨Aay l b.r,b.rd,b.wr⟩:=λσ ι H F W w a next Q s hx g hk=>h σ ι H F W w a next Q s hx g λc f v w' le d hc=>hk c f v w' le d (A6f hc)
def Al6(e:Cm)(d:Ο Nat)(r:AV)(H:Hp)(b:Λ (Nat×Bs))(K:Cm->Hp->Prop):Prop :=
 match d with
 |none=>
  (match b with
  |[]=>K e H
  |[p]=>K e (A5 H p.1 p.2)
  |p::q::l=>K e (C4 H (p::q::l)))
 |some t=>
  (match b with
  |[]=>K (A5 e t r) H
  |[p]=>K (A5 e t r) (A5 H p.1 p.2)
  |p::q::l=>K (A5 e t r) (C4 H (p::q::l)))
theorem Asp(e:Cm)(d:Ο Nat)(r:AV)(H:Hp)(b:Λ (Nat×Bs))(K:Cm->Hp->Prop):Al6 e d r H b K=K (put e d r) (C4 H b):=by cases d<;>cases b with|nil=>rfl|cons p l=>cases l<;>rfl
inductive Qi(ops:List Oper)(acc:Mm)(K:Prop):Prop where
 |mk(h:Alp ops acc=true)(k:K)
inductive Ex where
 |normal
 |exit(id:Nat)
 |ret
def H5(e:Cm):Λ (Nat×AV)->Prop
 |[]=>True
 |p::l=>e p.1=p.2/\H5 e l
def Ie(H H':Hp):Nat->Nat->Prop
 |0,_=>True
 |k+1,n=>(H k=H' k/\(H' k).under n=true)/\Ie H H' k n
def Lo(b:Λ Nat)(e:Cm)(u:Nat->Value)(l:Λ (Nat×AV)):Cm:=l.foldr (λp e=>A5 e p.1 p.2) (b.foldr (λs e=>A5 e s (.val (u s))) e)
def L8(n:Nat)(b:Λ (Nat×AV))(d:Λ (Nat×Bs)):Bool:=(b.all λp=>p.2.under n)&&d.all λp=>Nat.blt p.1 n
def H6:Code->Λ Nat
 |.region _ ops _=>ops.toList.filterMap (·.dst)
 |.seq a b=>H6 a++H6 b
 |.cond _ a b=>H6 a++H6 b
 |.block _ b=>H6 b
 |.loop b=>H6 b
 |.scope b=>H6 b
 |_=>[]
structure Cfg where
 T:Di
 an:Nat->Ann:=λ_=>.std
 gh:Nat->List Nat:=λ_=>[]
 nl:Nat->List (Nat×Nat):=λ_=>[]
def Asq(N:Nat)(x:Operand):Bool:=match x with|.tmp t=>Nat.blt t N|_=>true
def Oh(N:Nat):Code->Bool
 |.region _ ops _=>ops.toList.all λo=>(Nd ops o).all λs=>Nat.blt s N
 |.seq a b=>Oh N a&&Oh N b
 |.cond c a b=>Asq N c&&Oh N a&&Oh N b
 |.block _ b=>Oh N b
 |.loop b=>Oh N b
 |.scope b=>Oh N b
 |_=>true
def Ex.out:Ex->Exit
 |.normal=>.normal
 |.exit id=>.exit id
 |.ret=>.ret
section
variable{P:Program}{T:Di}{an:Nat->Ann}{nl:Nat->Λ (Nat×Nat)}{ops:Array Oper}{F:Aw}{W:World}{Q:Exit->Act->World->Prop}
theorem Asr{α:Type}{e:Nat->α}{s:Nat}{v:α}(h:e s=v):A5 e s v=e:=by subst h;exact Jt e s
end
section
variable{P:Program}{C:Cfg}{F:Aw}{W:World}
variable{x:AV}{n:Nat}
theorem Ass{c:Code}{Q:Exit->Act->World->Prop}{a:Act}{w:World}(J:Nat->Act->World->Prop)(k0:Nat)(h0:J k0 a w)(g:∀k a w,J k a w->c.wp P (Exit.then (λq w'=>∃s,s<k/\J s q w') Q) a w):(Code.loop c).wp P Q a w:=by intro b u cs;(have L:∀k a w,J k a w->∃e q w',Q e q w'/\Arrives P (lone (b.at a (.code c::.inLoop c::u)) cs w) b u cs e q w':=by intro k;induction k using Nat.strongRecOn with|_ k ih=>intro a w D;obtain⟨e,j,i,d,f⟩:=g k a w D b (.inLoop c::u) cs;cases e with|normal=>obtain⟨s,z,A⟩:=d;obtain⟨E,G,B,y,h⟩:=ih s z j i A;exact⟨E,G,B,y,.of_steps (Steps.trans f (.one step_inLoop)) h⟩|exit id=>exact⟨_,j,i,d,.pass (x:=.inLoop c) rfl (λ_ _=>.inl ψ) f⟩|goto l=>exact⟨_,j,i,d,.pass (x:=.inLoop c) rfl (λ_ _=>.inl ψ) f⟩|ret=>exact⟨_,j,i,d,.pass (x:=.inLoop c) rfl (λ_ _=>.inl ψ) f⟩|panic I=>exact⟨_,j,i,d,.pass (x:=.inLoop c) rfl (λ_ _=>.inl ψ) f⟩|outgrown=>exact⟨_,j,i,d,.pass (x:=.inLoop c) rfl (λ_ _=>.inl ψ) f⟩);obtain⟨e,q,w',d,f⟩:=L k0 a w h0;exact⟨e,q,w',d,.of_steps (.one step_loop) f⟩
theorem A6g(h:x.under2 n=true)(d:∀cs,x≠.agg cs):x.under1 n=true:=by cases x<;>first|exact h|exact(d _ rfl).elim
theorem Conc.restrict{σ:Aw}{ι B:B6}{H H':Hp}(D:∀h,h<n->B h=ι h)(G:∀h,h<n->H' h=H h){v:Value}(hx:x.under n=true)(h:Conc σ ι H x v):Conc σ B H' x v:=by(have l:∀{x:AV}{v:Value},x.under0 n=true->Conc σ ι H x v->Conc σ B H' x v:=by intro x v hx h;cases h with|cc h=>exact .cc h|loc h off b hb=>exact .loc h off b (by rw[D h (Iz hx)];exact hb)|mp h b hb=>exact .mp h b (by rw[D h (Iz hx)];exact hb)|vec h n b hb=>exact .vec h n b (by rw[D h (Iz hx)];exact hb)|arr h k off len v L hv z=>have y:=Iz hx;exact .arr h k off len v (by rw[G h y];exact L) (by rw[D h y,G h y];exact hv) z|el h k i j v L hv z=>have y:=Iz hx;exact .el h k i j v (by rw[G h y];exact L) (by rw[D h y,G h y];exact hv) z|ref cs b off C E fr g I hc h1 R=>exact .ref cs b off C E fr g I hc h1 R|sp cs b off C E g I J hd hc R=>exact .sp cs b off C E g I J hd hc R|agg=>cases hx|tup=>cases hx|fn=>cases hx);(have U:∀{x:AV}{v:Value},x.under1 n=true->Conc σ ι H x v->Conc σ B H' x v:=by intro x v hx h;cases x with|fn f cs=>obtain⟨vs,rfl,A,h⟩:=h.fn_inv;exact .fn f cs vs A λi c u h1 h2=>l (E7.1 hx c (Ev h1)) (h i c u h1 h2)|agg cs=>cases hx|tup cs=>cases hx|val u=>exact l (x:=(.val u)) hx h|loc q off=>exact l (x:=(.loc q off)) hx h|arr q k off len=>exact l (x:=(.arr q k off len)) hx h|el q k i j=>exact l (x:=(.el q k i j)) hx h|mp q=>exact l (x:=(.mp q)) hx h|vec q m=>exact l (x:=(.vec q m)) hx h|ref cs=>exact l (x:=(.ref cs)) hx h|sl sz xs=>exact l (x:=(.sl sz xs)) hx h|fb s=>exact l (x:=(.fb s)) hx h|sf xs=>exact l (x:=(.sf xs)) hx h|sp cs=>exact l (x:=(.sp cs)) hx h);have cells:∀{cs:Λ AV},cs.all (AV.under1 n)=true->∀(i:Nat)(c:AV)(u:Value),cs[i]?=some c->Conc σ ι H c u->Conc σ B H' c u:=λN i c u hc h=>U (E7.1 N c (Ev hc)) h;cases x with|agg cs=>(cases h with|cc h=>exact .cc h|agg _ vs A h=>exact .agg cs vs A λi c u h1 h2=>cells hx i c u h1 (h i c u h1 h2))|tup cs=>(cases h with|cc h=>exact .cc h|tup _ vs A h=>refine .tup cs vs A λi c u h1 h2=>?_;have hf:=E7.1 hx c (Ev h1);have hc:=h i c u h1 h2;cases c with|agg ds=>obtain⟨S,rfl,M,hv⟩:=hc.agg_inv;exact .agg ds S M λj d v V X=>cells hf j d v V (hv j d v V X)|_=>exact U (A6g hf (by intro cs e;cases e)) hc)|fn f cs=>(cases h with|cc h=>exact .cc h|fn _ _ vs A h=>exact .fn f cs vs A λi c u h1 h2=>cells hx i c u h1 (h i c u h1 h2))|val v=>exact U rfl h|loc h off=>exact U hx h|arr h k off len=>exact U hx h|el h k i j=>exact U hx h|mp h=>exact U hx h|vec h n=>exact U hx h|ref cs=>exact U rfl h|sl sz xs=>exact U rfl h|fb s=>exact U rfl h|sf xs=>exact U rfl h|sp cs=>exact U rfl h
theorem Ie.spec{H H':Hp}{n:Nat}:∀{k:Nat},Ie H H' k n->∀h,h<k->H h=H' h/\(H' h).under n=true
 |0,_,h,b=>ω
 |k+1,hh,h,b=>by by_cases e:h=k;subst e;exact hh.1;exact Ie.spec hh.2 h ω
theorem H5.spec{e:Cm}:∀{l:Λ (Nat×AV)},H5 e l->∀p∈l,e p.1=p.2
 |[],_,p,hp=>by cases hp
 |q::l,h,p,hp=>by rcases mem_cons.1 hp with rfl|hp;exact h.1;exact H5.spec h.2 p hp
theorem Al7(c:Λ Nat)(e:Cm)(u:Nat->Value)(l:Λ (Nat×AV))(s:Nat):(∃p∈l,p.1=s/\Lo c e u l s=p.2)\/(s∈c/\Lo c e u l s=.val (u s))\/(s∉c/\Lo c e u l s=e s):=by(have d:(s∈c/\(c.foldr (λs e=>A5 e s (.val (u s))) e) s=.val (u s))\/(s∉c/\(c.foldr (λs e=>A5 e s (.val (u s))) e) s=e s):=by induction c with|nil=>exact .inr ⟨ψ,rfl⟩|cons t c ih=>simp only[foldr_cons];by_cases b:s=t;subst b;exact .inl ⟨ψ,Ca _ _ _⟩;rw[Cv _ _ b];(rcases ih with⟨B,I⟩|⟨B,I⟩);exact .inl ⟨by simp[B],I⟩;exact .inr ⟨by simp[B,b],I⟩);unfold Lo;induction l with|nil=>exact .inr d|cons p l ih=>simp only[foldr_cons];by_cases b:s=p.1;exact .inl ⟨p,ψ,b.symm,by rw[b];exact Ca _ _ _⟩;rw[Cv _ _ b];(rcases ih with⟨q,J,B,I⟩|h|h);exact .inl ⟨q,by simp[J],B,I⟩;exact .inr (.inl h);exact .inr (.inr h)
theorem A6h{N:Nat}{ops:Array Oper}(h:(ops.toList.all λo=>(Nd ops o).all λs=>Nat.blt s N)=true):Afx ops N:=by intro i o c s b;rw[E7]at h;have:=h o (by simpa using Array.mem_of_getElem? c);rw[E7]at this;exact Iz (this s b)
end
def Agi(T:Di)(e:Cm)(H:Hp):ResultVar->Ο AV
 |.tmp t=>some (e t)
 |.cell a t=>match e a with
  |.loc h off=>match H h with
   |.cells _ cs=>match T t with
    |some i=>bif i.isAgg then(bif Nat.ble (off+i.size) cs.length then some (.agg ((cs.drop off).take i.size))else none)else cs[off]?
    |none=>none
   |_=>none
  |_=>none
def Agj(x:AV)(H:Hp)(K:AV->Hp->Prop):Prop:=match x with
 |.arr h k 0 len=>match H h with
  |.rows _ sz xs=>Iq k xs (Iq len xs (K (.sl sz xs) (A5 H h .dead)))
  |_=>False
 |x=>K x H
def Agk:Λ AV->Hp->(List AV->Hp->Prop)->Prop
 |[],H,K=>K [] H
 |x::xs,H,K=>Agj x H λy H=>Agk xs H λys H=>K (y::ys) H
def fin(x:AV)(H:Hp)(K:AV->Hp->Prop):Prop:=match x with|.agg cs=>Agk cs H λcs H=>K (.agg cs) H|x=>Agj x H K
def Agl:Λ AV->Hp->(List AV->Prop)->Prop
 |[],_,K=>K []
 |x::xs,H,K=>fin x H λy H=>Agl xs H λys=>K (y::ys)
def X6(T:Di)(e:Cm)(H:Hp):Λ ResultVar->Ο (List AV)
 |[]=>some []
 |r::d=>match Agi T e H r with
  |none=>none
  |some x=>match X6 T e H d with
   |none=>none
   |some xs=>some (x::xs)
def Aaz:Λ AV->AV
 |[x]=>x
 |xs=>.tup xs
def Vt(T:Di)(b:Λ ResultVar)(K:AV->Prop)(e:Cm)(H:Hp):Prop:=match X6 T e H b with|none=>False|some xs=>Agl xs H λys=>K (Aaz ys)
def X7(args:Λ AV):Cm:=λn=>args.getD n (.val undef)
def Vu:ResultVar->Nat
 |.tmp t=>t
 |.cell a _=>a
def X8(fn:Func)(c:Code)(k:Nat):Bool:=Oh fn.ntmps c&&(fn.results.toList.all λr=>Nat.blt (Vu r) fn.ntmps)&&Nat.ble k fn.ntmps
section
variable{P:Program}{T:Di}{F:Aw}{W w:World}
variable{x:AV}{K:AV->Hp->Prop}{a:Act}{σ:Aw}{ι:B6}{e:Cm}{H:Hp}{v:Value}
theorem Ast(h:Agj x H K)(s:St σ ι H F W w)(B:Conc σ ι H x v):∃b y d,K y d/\Le σ ι H b ι d/\St b ι d F W w/\Conc b ι d y v:=by unfold Agj at h;split at h;rename_i J k len;split at h;rename_i E sz xs I;obtain⟨L,j,h⟩:=h;obtain⟨g,c,i,f⟩:=s.freeze I;refine⟨g,.sl sz xs,A5 H J .dead,h,c,i,.cc ?_⟩;have:=f 0 len _ ω (B.arr_inv I L);rwa [drop_zero,take_of_length_le ω]at this;exact h.elim;exact⟨σ,_,H,h,Le.refl _ _ _,s,B⟩
theorem Asu:∀{cs:Λ AV}{vs:Λ Value}{H:Hp}{K:Λ AV->Hp->Prop}{σ:Aw}{ι:B6},Agk cs H K->St σ ι H F W w->vs.length=cs.length->(∀(i:Nat)(c:AV)(v:Value),cs[i]?=some c->vs[i]?=some v->Conc σ ι H c v)->∃j ys J,K ys J/\Le σ ι H j ι J/\St j ι J F W w/\vs.length=ys.length/\∀(i:Nat)(c:AV)(v:Value),ys[i]?=some c->vs[i]?=some v->Conc j ι J c v
 |[],vs,H,K,σ,ι,h,s,g,d=>⟨σ,[],H,h,Le.refl _ _ _,s,g,d⟩
 |x::cs,[],H,K,σ,ι,h,s,g,d=>by simp at g
 |x::cs,v::vs,H,K,σ,ι,h,s,g,d=>by simp only[Agk]at h;obtain⟨B,y,D,L,f,z,c1⟩:=Ast h s (d 0 x v ψ ψ);obtain⟨l,ys,A,M,b,q,k,c2⟩:=Asu (vs:=vs) L z (by simpa using g) λi c u hi I=>(d (i+1) c u (by simpa using hi) (by simpa using I)).mono f;refine⟨l,y::ys,A,M,f.trans b,q,by simp[k],λi c u hi I=>?_⟩;cases i with|zero=>simp at hi I;subst hi;subst I;exact c1.mono b|succ i=>exact c2 i c u (by simpa using hi) (by simpa using I)
theorem Asv(h:fin x H K)(s:St σ ι H F W w)(I:Conc σ ι H x v):∃b y d,K y d/\Le σ ι H b ι d/\St b ι d F W w/\Conc b ι d y v:=by unfold fin at h;split at h;rename_i cs;obtain⟨vs,rfl,l,J⟩:=I.agg_inv;obtain⟨j,ys,q,L,f,k,g,c1⟩:=Asu (vs:=vs.toList) h s (by simpa using l) λi c u hi B=>J i c u hi (by simpa using B);exact⟨j,.agg ys,q,L,f,k,.agg ys vs (by simpa using g) λi c u hi B=>c1 i c u hi (by simpa using B)⟩;exact Ast h s I
theorem Asw:∀{xs:Λ AV}{vs:Λ Value}{H:Hp}{K:Λ AV->Prop}{σ:Aw}{ι:B6},Agl xs H K->St σ ι H F W w->vs.length=xs.length->(∀(i:Nat)(c:AV)(v:Value),xs[i]?=some c->vs[i]?=some v->Conc σ ι H c v)->∃j ys J,K ys/\Le σ ι H j ι J/\St j ι J F W w/\vs.length=ys.length/\∀(i:Nat)(c:AV)(v:Value),ys[i]?=some c->vs[i]?=some v->Conc j ι J c v
 |[],vs,H,K,σ,ι,h,s,g,d=>⟨σ,[],H,h,Le.refl _ _ _,s,g,d⟩
 |x::cs,[],H,K,σ,ι,h,s,g,d=>by simp at g
 |x::cs,v::vs,H,K,σ,ι,h,s,g,d=>by simp only[Agl]at h;obtain⟨B,y,D,L,f,z,c1⟩:=Asv h s (d 0 x v ψ ψ);obtain⟨l,ys,A,M,b,q,k,c2⟩:=Asw (vs:=vs) L z (by simpa using g) λi c u hi I=>(d (i+1) c u (by simpa using hi) (by simpa using I)).mono f;refine⟨l,y::ys,A,M,f.trans b,q,by simp[k],λi c u hi I=>?_⟩;cases i with|zero=>simp at hi I;subst hi;subst I;exact c1.mono b|succ i=>exact c2 i c u (by simpa using hi) (by simpa using I)
def Vv(b:Array Value):ResultVar->Sem Value
 |.tmp t=>pure (b.getD t undef)
 |.cell a t=>do loadVar t (<-asAddr (b.getD a undef))
theorem A6i(B:Dk P T)(s:St σ ι H F W w)(A:Gi σ ι H e a){r:ResultVar}(z:Vu r<a.tmps.size)(h:Agi T e H r=some x):∃v,(Vv a.tmps r).run P w=.ok v w/\Conc σ ι H x v:=by cases r with|tmp t=>simp only[Agi]at h;cases h;exact⟨_,rfl,A t z⟩|cell p t=>simp only[Agi]at h;split at h;rename_i hd off hx;split at h;rename_i E cs hh;split at h;rename_i i N;have R:=A p z;rw[hx]at R;obtain⟨b,hb,U⟩:=R.loc_inv;have k:=s.obj hd;unfold Cz at k;rw[hh]at k;obtain⟨J,C,I,_,_,V,h4,G⟩:=k;rw[hb]at I;cases I;have d:=Afj (B t i N) w;(cases y:i.isAgg with|true=>(rw[y]at h d;simp only[cond_true]at h;cases g:Nat.ble (off+i.size) cs.length with|false=>rw[g]at h;cases h|true=>rw[g]at h;cases h;have g:=G8 g;have h2:=Pb (B t i N) w;have D:=run_loadCells_list (P:=P) w ⟨b,off,none⟩ ((C.toList.drop off).take i.size) (by intro j v L;have f:j<i.size:=(by have:=(F5.1 L).1;simp at this;omega);rw[Ip f,getElem?_drop,He]at L;rw[L6,Km V];exact L);have q:((C.toList.drop off).take i.size).length=i.size:=ζ;rw[q]at D;refine⟨_,by simp only[Vv,U,asAddr,Sem.run_bind,Sem.run_pure,Result.andThen_ok,loadVar,d,if_true,h2,D];rfl,?_⟩;refine .agg _ _ ζ λj c u M X=>?_;have f:j<i.size:=(by have:=(F5.1 M).1;simp at this;omega);rw[Ip f,getElem?_drop]at M;rw[getElem?_toArray,Ip f,getElem?_drop,He]at X;exact G _ c u M X)|false=>rw[y]at h d;simp only[cond_false]at h;have f:off<C.size:=(by rw[h4];exact(F5.1 h).1);have l:w.cell? ⟨b,off,none⟩=some C[off]:=(by rw[Km V];simp[f]);exact⟨C[off],by simp[Vv,U,asAddr,loadVar,d,l],G off x _ h (by simp[f])⟩);cases h;cases h;cases h
theorem Al8(k:Dk P T){e:Cm}{H:Hp}{σ:Aw}{ι:B6}{a:Act}(s:St σ ι H F W w)(j:Gi σ ι H e a):∀{b:Λ ResultVar}{xs:Λ AV},(∀r∈b,Vu r<a.tmps.size)->X6 T e H b=some xs->∃d:Λ Value,(b.mapM (Vv a.tmps)).run P w=.ok d w/\d.length=xs.length/\∀(i:Nat)(c:AV)(v:Value),xs[i]?=some c->d[i]?=some v->Conc σ ι H c v
 |[],xs,_,h=>by simp only[X6]at h;cases h;exact⟨[],ψ,rfl,ψ⟩
 |r::b,xs,g,h=>by simp only[X6]at h;split at h;cases h;rename_i x I;split at h;cases h;rename_i ys J;cases h;obtain⟨v,L,c1⟩:=A6i k s j (g r ψ) I;obtain⟨d,M,q,c2⟩:=Al8 k s j (λl f=>g l (by simp[f])) J;refine⟨v::d,by simp[mapM_cons,L,M],by simp[q],λi c u hi B=>?_⟩;cases i with|zero=>simp at hi B;subst hi;subst B;exact c1|succ i=>exact c2 i c u (by simpa using hi) (by simpa using B)
theorem Asx(fn:Func)(b:Array Value):results fn b=(fn.results.mapM (Vv b) >>= λd=>pure (if h:d.size=1 then d[0]else .tuple d)):=by unfold results;congr 1
theorem A6j(A:Dk P T){fn:Func}{K:AV->Prop}(s:St σ ι H F W w)(z:Gi σ ι H e a)(q:∀r∈fn.results.toList,Vu r<a.tmps.size)(h:Vt T fn.results.toList K e H):∃v f I r,(results fn a.tmps).run P w=.ok v w/\K r/\Le σ ι H f ι I/\St f ι I F W w/\Conc f ι I r v:=by unfold Vt at h;split at h;exact h.elim;rename_i xs J;obtain⟨d,L,x,c1⟩:=Al8 A s z q J;obtain⟨f,ys,I,k,le,M,b,j⟩:=Asw h s x c1;have g:(fn.results.mapM (Vv a.tmps)).run P w=.ok d.toArray w:=(by rw[Array.mapM_eq_mapM_toList];simp[L]);refine⟨if h:d.toArray.size=1 then d.toArray[0]else .tuple d.toArray,f,I,Aaz ys,?_,k,le,M,?_⟩;rw[Asx,Sem.run_bind,g];rfl;match ys,d,b,j with|[y],[v],_,j=>exact j 0 y v rfl rfl|[],[],_,_=>exact .tup [] #[] rfl ψ|y::B::ys,v::l::d,b,j=>have:¬(v::l::d).toArray.size=1:=ψ;rw[dif_neg this];exact .tup _ _ (by simpa using b) (λi c u hi N=>j i c u hi (by simpa using N))|[],_::_,b,_=>simp at b|_::_,[],b,_=>simp at b|[_],_::_::_,b,_=>simp at b|_::_::_,[_],b,_=>simp at b
theorem St.forget(s:St σ ι H F W w):St σ ι0 H0 F W w:=⟨s.sto,s.fra,λ_=>rfl,(λ_ _ _ b=>by cases b),s.os,s.tape,s.output,s.glo,s.drw⟩
theorem Asy{args:Λ AV}{vs:Array Value}{N:Nat}(h:Ml σ ι H args vs):Gi σ ι H (X7 args) ⟨vs++Array.replicate (N-vs.size) undef,[]⟩:=by intro q J;simp only[X7,Array.getD_eq_getD_getElem?];by_cases b:q<args.length;have d:q<vs.size:=(by rw[h.1];exact b);rw[Array.getElem?_append_left d];have B:args[q]?=some args[q]:=getElem?_eq_getElem b;have I:vs[q]?=some vs[q]:=Array.getElem?_eq_getElem d;have:=h.2 q _ _ B I;simpa[getD,B,I]using this;rw[Array.getElem?_append_right (by rw[h.1];omega)];have B:args[q]?=none:=getElem?_eq_none ω;have d:q-vs.size<N-vs.size:=(by simp at J;have:=h.1;omega);simp only[getD,B,Option.getD_none];simp[d];exact .of_val undef
end
inductive Tr where
 |leaf
 |node(l:Tr)(k:Nat)(v:TI)(r:Tr)
def Tr.find:Tr->Nat->Ο TI
 |.leaf,_=>none
 |.node l k v r,t=>bif Nat.beq t k then some v else bif Nat.blt t k then l.find t else r.find t
def Tr.toList:Tr->Λ (Nat×TI)
 |.leaf=>[]
 |.node l k v r=>l.toList++(k,v)::r.toList
theorem Tr.find_mem:∀(t:Tr)(k:Nat)(v:TI),t.find k=some v->(k,v)∈t.toList
 |.leaf,k,v,h=>by cases h
 |.node l b f r,k,v,h=>by simp only[Tr.find]at h;simp only[Tr.toList,mem_append,mem_cons];cases hb:Nat.beq k b with|true=>rw[hb]at h;simp only[cond_true]at h;cases h;rw[Gk hb];exact .inr (.inl rfl)|false=>rw[hb]at h;simp only[cond_false]at h;cases c:Nat.blt k b with|true=>rw[c]at h;exact .inl (Tr.find_mem l k v h)|false=>rw[c]at h;exact .inr (.inr (Tr.find_mem r k v h))
theorem Tr.ok{P:Program}{t:Tr}(h:t.toList.map (λp=>J3 P p.1)=t.toList.map λp=>some p.2):Dk P t.find:=by intro k v hk;have hm:=t.find_mem k v hk;obtain⟨i,hi⟩:=getElem?_of_mem hm;have:=congrArg (λl=>l[i]?) h;simpa[hi]using this
def Agm:Λ AV->Hp->(List AV->Hp->Prop)->Prop
 |[],H,K=>K [] H
 |x::xs,H,K=>fin x H λy H=>Agm xs H λys H=>K (y::ys) H
def Tn(H:Hp):Nat->Λ Bs->Prop
 |_,[]=>True
 |k,o::os=>H k=o/\Tn H (k+1) os
def Vx(T:Di)(d:Bool)(c:Λ ResultVar)(r:AV)(b:Λ Bs)(e:Cm)(H:Hp):Prop:=match X6 T e H c with|none=>False|some xs=>bif d then Agm xs H λys H=>Aaz ys=r/\Tn H 0 b else Aaz xs=r/\Tn H 0 b
section
variable{P:Program}{T:Di}{F:Aw}{W w:World}
variable{r:AV}{σ:Aw}{ι:B6}{H:Hp}
theorem Tn.spec{H:Hp}:∀{os:Λ Bs}{k:Nat},Tn H k os->∀i,i<os.length->H (k+i)=hp os i
 |[],k,_,i,hi=>by simp at hi
 |o::os,k,h,0,_=>by simpa[hp]using h.1
 |o::os,k,h,i+1,hi=>by have:=Tn.spec h.2 i (by simpa using hi);rw[show k+(i+1)=k+1+i by omega,this];simp[hp]
theorem Asz:∀{xs:Λ AV}{vs:Λ Value}{H:Hp}{K:Λ AV->Hp->Prop}{σ:Aw}{ι:B6},Agm xs H K->St σ ι H F W w->vs.length=xs.length->(∀(i:Nat)(c:AV)(v:Value),xs[i]?=some c->vs[i]?=some v->Conc σ ι H c v)->∃j ys J,K ys J/\Le σ ι H j ι J/\St j ι J F W w/\vs.length=ys.length/\∀(i:Nat)(c:AV)(v:Value),ys[i]?=some c->vs[i]?=some v->Conc j ι J c v
 |[],vs,H,K,σ,ι,h,s,g,d=>⟨σ,[],H,h,Le.refl _ _ _,s,g,d⟩
 |x::cs,[],H,K,σ,ι,h,s,g,d=>by simp at g
 |x::cs,v::vs,H,K,σ,ι,h,s,g,d=>by simp only[Agm]at h;obtain⟨B,y,D,L,f,z,c1⟩:=Asv h s (d 0 x v ψ ψ);obtain⟨l,ys,A,M,b,q,k,c2⟩:=Asz (vs:=vs) L z (by simpa using g) λi c u hi I=>(d (i+1) c u (by simpa using hi) (by simpa using I)).mono f;refine⟨l,y::ys,A,M,f.trans b,q,by simp[k],λi c u hi I=>?_⟩;cases i with|zero=>simp at hi I;subst hi;subst I;exact c1.mono b|succ i=>exact c2 i c u (by simpa using hi) (by simpa using I)
theorem A6k(B:Dk P T){fn:Func}{L:Bool}{q:Λ Bs}{e:Cm}{a:Act}(s:St σ ι H F W w)(A:Gi σ ι H e a)(l:∀r∈fn.results.toList,Vu r<a.tmps.size)(h:Vx T L fn.results.toList r q e H):∃v f d,(results fn a.tmps).run P w=.ok v w/\Tn d 0 q/\Le σ ι H f ι d/\St f ι d F W w/\Conc f ι d r v:=by unfold Vx at h;split at h;exact h.elim;rename_i xs M;obtain⟨I,N,x,c1⟩:=Al8 B s A l M;have J:∃f ys d,(Aaz ys=r/\Tn d 0 q)/\Le σ ι H f ι d/\St f ι d F W w/\I.length=ys.length/\∀(i:Nat)(c:AV)(v:Value),ys[i]?=some c->I[i]?=some v->Conc f ι d c v:=(by cases L with|true=>exact Asz h s x c1|false=>exact⟨σ,xs,H,h,Le.refl _ _ _,s,x,c1⟩);obtain⟨f,ys,d,⟨rfl,k⟩,le,R,b,j⟩:=J;have g:(fn.results.mapM (Vv a.tmps)).run P w=.ok I.toArray w:=(by rw[Array.mapM_eq_mapM_toList];simp[N]);refine⟨if h:I.toArray.size=1 then I.toArray[0]else .tuple I.toArray,f,d,?_,k,le,R,?_⟩;rw[Asx,Sem.run_bind,g];rfl;match ys,I,b,j with|[y],[v],_,j=>exact j 0 y v rfl rfl|[],[],_,_=>exact .tup [] #[] rfl ψ|y::D::ys,v::z::I,b,j=>have:¬(v::z::I).toArray.size=1:=ψ;rw[dif_neg this];exact .tup _ _ (by simpa using b) (λi c u hi U=>j i c u hi (by simpa using U))|[],_::_,b,_=>simp at b|_::_,[],b,_=>simp at b|[_],_::_::_,b,_=>simp at b|_::_::_,[_],b,_=>simp at b
theorem St.first(s:St σ ι H F W w)(f:Λ Bs)(hk:∀i,i<f.length->H i=hp f i)(J:f.all (Bs.under f.length)=true):St σ (λk=>if k<f.length then ι k else .none) (hp f) F W w:=by have A:∀h,h<f.length->(λk=>if k<f.length then ι k else Loc.none) h=ι h:=λh j=>if_pos j;have I:∀h,h<f.length->hp f h=H h:=λh j=>(hk h j).symm;(have lt:∀k,(hp f k).live=true->k<f.length:=by intro k h;rcases Nat.lt_or_ge k f.length with h'|h';exact h';rw[Qh h']at h;cases h);refine⟨s.sto,s.fra,λk=>?_,λk q b h1 h2 h3 d=>?_,s.os,s.tape,s.output,s.glo,s.drw⟩;by_cases j:k<f.length;have g:=s.obj k;have l:=E7.1 J _ (Ev (Aaw j));unfold Cz at g⊢;rw[hk k j]at g;dsimp only;rw[if_pos j];(cases hx:hp f k with|none=>rw[hx]at g;exact g|dead=>trivial|rows E sz xs=>rw[hx]at g;exact g|map es=>rw[hx]at g;exact g|cells E cs=>rw[hx]at g l;obtain⟨b,C,D,h1,h2,h3,d,B⟩:=g;refine⟨b,C,D,h1,h2,h3,d,λi c v x y=>?_⟩;have hc:=E7.1 l c (Ev x);refine(B i c v x y).restrict (n:=f.length) A I ?_;exact Alz hc);unfold Cz;rw[Qh ω];exact if_neg j;have z:=lt k h1;have u:=lt q h2;rw[if_pos z]at h3;rw[if_pos u]at d;rw[I k z]at h1;rw[I q u]at h2;exact s.inj k q b h1 h2 h3 d
def Al9(c:Λ Bs)(r:AV)(b:Λ Bs):Bool:=Nat.ble c.length b.length&&r.under b.length&&b.all (Bs.under b.length)
def Sub(x y:AV):Prop:=∀(σ:Aw)(ι:B6)(H:Hp)(v:Value),Conc σ ι H x v->Conc σ ι H y v
theorem Sub.refl(x:AV):Sub x x:=λ_ _ _ _ h=>h
theorem Sub.nil(sz:Nat):Sub (.val (.slice none 0 0)) (.sl sz []):=λ_ _ _ _ h=>Agh rfl h
def To:Λ AV->Λ AV->Prop
 |[],[]=>True
 |x::xs,y::ys=>Sub x y/\To xs ys
 |_,_=>False
theorem To.spec:∀{xs ys:Λ AV},To xs ys->xs.length=ys.length/\∀(i:Nat)(y:AV),ys[i]?=some y->∃x,xs[i]?=some x/\Sub x y
 |[],[],_=>⟨rfl,ψ⟩
 |[],_::_,h=>h.elim
 |_::_,[],h=>h.elim
 |x::xs,y::ys,h=>by obtain⟨h1,h2⟩:=To.spec h.2;refine⟨by simp[h1],λi z b=>?_⟩;cases i with|zero=>simp at b;subst b;exact⟨x,rfl,h.1⟩|succ i=>simpa using h2 i z (by simpa using b)
theorem Sub.agg{xs ys:Λ AV}(h:To xs ys):Sub (.agg xs) (.agg ys):=by intro σ ι H v hc;obtain⟨vs,rfl,b,hv⟩:=hc.agg_inv;obtain⟨h1,h2⟩:=h.spec;refine .agg _ vs (by rw[<-h1];exact b) λi c u h3 d=>?_;obtain⟨x,g,f⟩:=h2 i c h3;exact f _ _ _ _ (hv i x u g d)
theorem Ba.sub{f:FuncId}{args b:Λ AV}{j:AV}(h:Ba P f b r)(ha:To args b)(l:Sub r j):Ba P f args j:=by refine⟨h.1,λσ F W w vs s hc=>?_⟩;obtain⟨h1,h2⟩:=ha.spec;refine(h.2 σ F W w vs s ⟨by rw[<-h1];exact hc.1,λi a v h3 d=>?_⟩).mono ?_;obtain⟨x,g,c⟩:=h2 i a h3;exact c _ _ _ _ (hc.2 i x v g d);rintro e w' ⟨v,k,h3,d,g,c⟩;exact⟨v,k,h3,d,g,l _ _ _ _ c⟩
theorem Bn.sub{f:FuncId}{args b:Λ AV}{g c:Λ Bs}{r:AV}(h:Bn P f b g r c)(ha:To args b):Bn P f args g r c:=by refine⟨h.1,λσ F W w ι vs s hc=>?_⟩;obtain⟨h1,h2⟩:=ha.spec;refine h.2 σ F W w ι vs s ⟨by rw[<-h1];exact hc.1,λi a v h3 d=>?_⟩;obtain⟨x,k,j⟩:=h2 i a h3;exact j _ _ _ _ (hc.2 i x v k d)
end
variable{σ:Aw}{b:Nat}{o:Obj}{w:World}
def Jm(σ:Aw)(w:World):Aw:=λb=>match σ b with
 |none=>none
 |some o=>bif Eh o then(match w.heap[b]? with|some d=>bif Eh d then none else some d|none=>none)else some o
def Mn(σ:Aw):Aw:=λb=>match σ b with|none=>none|some o=>bif Eh o then none else some o
theorem X9(h:σ b=some o)(c:Eh o=false):Jm σ w b=some o:=by unfold Jm;rw[h];simp only[c,cond_false]
theorem Agn(h:σ b=some o)(c:Eh o=false):Mn σ b=some o:=by unfold Mn;rw[h];simp only[c,cond_false]
theorem A6l{o':Obj}(h:σ b=some o)(f:Eh o=true)(hb:w.heap[b]?=some o')(c:Eh o'=false):Jm σ w b=some o':=by unfold Jm;rw[h];simp only[f,cond_true,hb,c,cond_false]
theorem Ago(h:Jm σ w b=some o):Eh o=false/\∃g,σ b=some g/\(Eh g=false->o=g)/\(Eh g=true->w.heap[b]?=some o):=by unfold Jm at h;cases d:σ b with|none=>rw[d]at h;cases h|some g=>rw[d]at h;cases f:Eh g with|false=>simp only[f,cond_false,Option.some.injEq]at h;subst h;exact⟨f,g,rfl,λ_=>rfl,(λh=>by rw[f]at h;cases h)⟩|true=>simp only[f,cond_true]at h;cases B:w.heap[b]? with|none=>rw[B]at h;cases h|some I=>rw[B]at h;cases c:Eh I with|true=>simp only[c,cond_true]at h;cases h|false=>simp only[c,cond_false,Option.some.injEq]at h;subst h;exact⟨c,g,rfl,(λh=>by rw[f]at h;cases h),λ_=>rfl⟩
theorem Ama(h:Mn σ b=some o):Eh o=false/\σ b=some o:=by unfold Mn at h;cases d:σ b with|none=>rw[d]at h;cases h|some f=>rw[d]at h;cases c:Eh f with|false=>simp only[c,cond_false,Option.some.injEq]at h;subst h;exact⟨c,rfl⟩|true=>simp only[c,cond_true]at h;cases h
section
variable{P:Program}{F:Aw}{W w:World}
variable{a:AV}{σ:Aw}{ι:B6}{H:Hp}{l:Λ (List AV)}{xs:Λ AV}{sz:Nat}{E:TypeId}{u v:Value}
theorem Amb{C:Array Value}{fr:Nat×Nat}{off:Nat}{g:Nat->Nat->Value}(f:∀(i:Nat)(x:AV),xs[i]?=some x->x.cells.length=sz)(B:∀(i:Nat)(x:AV)(j:Nat)(c:AV),xs[i]?=some x->x.cells[j]?=some c->Em (g i j)=true)(h:∀(i j:Nat),i<xs.length->j<sz->C[off+i*sz+j]?=some (g i j))(hp:0<xs.length)(b:0<sz):Eh (.cells C E fr)=false:=by have d:xs[0]?=some xs[0]:=getElem?_eq_getElem hp;have I:xs[0].cells[0]?=some (xs[0].cells[0]'(by rw[f 0 _ d];exact b)):=getElem?_eq_getElem _;exact O9 (h 0 0 hp b) (Vf (B 0 _ 0 _ d I))
theorem Ix.hard{x:AV}(hx:Ix x):∀{σ h:Aw}{j:Nat}{c:AV}{v:Value},(∀b o,σ b=some o->Eh o=false->h b=some o)->x.cells[j]?=some c->CC σ c v->CC h c v:=by induction hx with|mk k n q A ih=>intro σ h j c v hh d hc;match j,d with|0,d=>cases d;cases hc;exact .val _|1,d=>(cases d;cases hc with|nil a cap=>exact .nil 2 _ _|sl _ b off cap _ C E fr g y s hc h1 u z f=>by_cases h0:q=[];subst h0;exact .nil 2 _ _;have l:=Amb (E:=E) (fr:=fr) s h1 u (length_pos_iff.2 h0) δ;exact .sl q b off cap 2 C E fr g (hh _ _ y l) s (λi x j c hx d=>ih x (Ev hx) hh d (hc i x j c hx d)) h1 u z f)|j+2,d=>cases d
inductive E8:AV->Prop where
 |val(v:Value):E8 (.val v)
 |sl(sz:Nat)(xs:List AV)(hz:0<sz)(h:∀x∈xs,∀c∈x.cells,E8 c):E8 (.sl sz xs)
 |agg(cs:List AV)(h:∀c∈cs,E8 c):E8 (.agg cs)
theorem E8.cells(h:E8 a):∀c∈a.cells,E8 c:=by cases h with|val v=>(intro c hc;cases v with|agg vs=>simp only[AV.cells,mem_map]at hc;obtain⟨u,_,rfl⟩:=hc;exact .val u|_=>simp only[AV.cells,mem_singleton]at hc;subst hc;exact .val _)|sl sz xs b h=>intro c hc;simp only[AV.cells,mem_singleton]at hc;subst hc;exact .sl sz xs b h|agg cs h=>exact h
theorem E8.slM{α:Type}{f:α->AV}(h:∀x,E8 (f x))(b:0<sz)(l:Λ α):E8 (.sl sz (l.map f)) :=
 .sl _ _ b λy hy=>by obtain⟨x,_,rfl⟩:=mem_map.1 hy;exact(h x).cells
theorem E8.slL(h:∀y∈xs,E8 y)(b:0<sz):E8 (.sl sz xs):=.sl _ _ b λy hy=>(h y hy).cells
theorem CC.hard{q:Aw}(hh:∀b o,σ b=some o->Eh o=false->q b=some o)(ha:E8 a)(h:CC σ a v):CC q a v:=by induction ha generalizing v with|val u=>cases h;exact .val _|sl sz xs A _ ih=>(cases h with|nil _ a cap=>exact .nil sz a cap|sl _ b off cap _ C E fr g z s hc h1 y l f=>by_cases h0:xs=[];subst h0;exact .nil sz _ _;have k:=Amb (E:=E) (fr:=fr) s h1 y (length_pos_iff.2 h0) A;exact .sl xs b off cap sz C E fr g (hh _ _ z k) s (λi x j c hx d=>ih x (Ev hx) c (Ev d) (hc i x j c hx d)) h1 y l f)|agg cs _ ih=>cases h with|agg _ vs l h=>exact .agg cs vs l λi c u h1 h2=>ih c (Ev h1) (h i c u h1 h2)
theorem St.sf_hard(s:St σ ι H F W w)(h:CC σ (.sf xs) v):CC (Jm σ w) (.sl 2 xs) v:=by(rcases h.sf_inv with⟨rfl,p,cap,rfl⟩|⟨b,off,cap,C,E,g,rfl,I,y,hd,hc,N,M,z⟩);exact .nil 2 p cap;by_cases h0:xs=[];subst h0;exact .nil 2 _ _;obtain⟨k,L,R,J⟩:=s.soft I y;have U:∀(i:Nat)(x:AV)(j:Nat)(c:AV),xs[i]?=some x->x.cells[j]?=some c->∃u,k[off+i*2+j]?=some u/\CC σ c u/\Em u=true:=(by intro i x j c hx d;have l:=hd x (Ev hx);have hi:=(F5.1 hx).1;have D:j<2:=(by rw[<-l.cells2];exact(F5.1 d).1);obtain⟨u,f,B⟩:=J _ _ (N i j hi D);exact⟨u,f,B.read l d (hc i x j c hx d)⟩);have V:0<xs.length:=length_pos_iff.2 h0;have q:Eh (.cells k E)=false:=(by have hx:xs[0]?=some xs[0]:=getElem?_eq_getElem V;have G:xs[0].cells[0]?=some (xs[0].cells[0]'(by rw[(hd _ (getElem_mem V)).cells2];decide)):=getElem?_eq_getElem _;obtain⟨u,f,_,A⟩:=U 0 _ 0 _ hx G;exact O9 f (Vf A));refine .sl xs b off cap 2 k E (0,0) (λi j=>(k[off+i*2+j]?).getD undef) (A6l I y L q) (λi x hx=>(hd x (Ev hx)).cells2) ?_ ?_ ?_ M z;intro i x j c hx d;obtain⟨u,f,B,_⟩:=U i x j c hx d;show CC _ c ((k[off+i*2+j]?).getD undef);rw[f];exact(hd x (Ev hx)).hard (λb o h1 h2=>X9 h1 h2) d B;intro i x j c hx d;obtain⟨u,f,_,A⟩:=U i x j c hx d;show Em ((k[off+i*2+j]?).getD undef)=true;rw[f];exact A;intro i j hi d;have hx:xs[i]?=some xs[i]:=getElem?_eq_getElem hi;have X:j<xs[i].cells.length:=(by rw[(hd _ (getElem_mem hi)).cells2];exact d);obtain⟨u,f,_⟩:=U i _ j _ hx (getElem?_eq_getElem X);rw[f];rfl
theorem St.sfs_hard(s:St σ ι H F W w)(h:CC σ (.sl 1 (l.map .sf)) v):CC (Jm σ w) (.sl 1 (l.map (.sl 2))) v:=by(rcases h.sl_inv with⟨h0,p,cap,rfl⟩|⟨b,off,cap,C,E,fr,g,rfl,A,B,hc,z,D,q⟩);have:l=[]:=map_eq_nil_iff.1 h0;subst this;exact .nil 1 p cap;by_cases h0:l=[];subst h0;exact .nil 1 _ _;have I:0<(l.map AV.sf).length:=(by rw[length_map];exact length_pos_iff.2 h0);have u:=Amb (E:=E) (fr:=fr) B (λi x j c hx d=>(hc i x j c hx d).2) z I δ;have k:(l.map AV.sf).length=(l.map (AV.sl 2)).length:=ψ;rw[k];have f:∀(i:Nat)(y:AV)(j:Nat)(c:AV),(l.map (AV.sl 2))[i]?=some y->y.cells[j]?=some c->∃xs,(l.map AV.sf)[i]?=some (.sf xs)/\j=0/\c=.sl 2 xs:=(by intro i y j c hy d;rw[getElem?_map]at hy;cases hx:l[i]? with|none=>rw[hx]at hy;cases hy|some xs=>rw[hx]at hy;cases hy;obtain⟨rfl,rfl⟩:=Aaj (x:=AV.sl 2 xs) d;exact⟨xs,by rw[getElem?_map,hx];rfl,rfl,rfl⟩);refine .sl _ b off cap 1 C E fr g (X9 A u) ?_ ?_ ?_ (λi j hi d=>z i j (by simpa using hi) d) (by simpa using D) (by simpa using q);intro i y hy;rw[getElem?_map]at hy;(cases hx:l[i]? with|none=>rw[hx]at hy;cases hy|some xs=>rw[hx]at hy;cases hy;rfl);intro i y j c hy d;obtain⟨xs,h1,rfl,rfl⟩:=f i y j c hy d;exact s.sf_hard (hc i _ 0 (.sf xs) h1 rfl).1;intro i y j c hy d;obtain⟨xs,h1,rfl,rfl⟩:=f i y j c hy d;exact(hc i _ 0 (.sf xs) h1 rfl).2
def As0(a:AV):Prop:=∀(σ:Aw)(v:Value),Conc σ ι0 H0 a v->Conc (Mn σ) ι0 H0 a v
def Agp(r b:AV):Prop:=∀(σ F:Aw)(W w:World)(v:Value),St σ ι0 H0 F W w->Conc σ ι0 H0 r v->Conc (Jm σ w) ι0 H0 b v
theorem St.lend'{c:Aw}(s:St σ ι H F W w)(h1:∀b o,c b=some o->Eh o=false/\w.heap[b]?=some o)(h2:N8 c):St c ι0 H0 (Jb c w) W w:=by refine⟨λb o hb=>.of_hard (h1 b o hb).1 (h1 b o hb).2,λb o hb=>?_,λh=>rfl,(λh h' b f=>by cases f),s.os,s.tape,s.output,h2,s.drw⟩;unfold Jb at hb;cases e:c b with|none=>rw[e]at hb;exact⟨hb,rfl⟩|some _=>rw[e]at hb;cases hb
theorem Agq{c:Aw}(g:N8 σ)(h:∀b o,σ b=some o->Eh o=false->c b=some o):N8 c:=by obtain⟨E,d,e⟩:=g;exact⟨E,d,h _ _ e (O9 (k:=0) (v:=.int .u64 1) rfl rfl)⟩
theorem Ba.harden{f:FuncId}{args:Λ AV}{r L:AV}(h:Ba P f args r)(ha:∀a∈args,As0 a)(N:Agp r L):Ba P f args L:=by refine⟨h.1,λσ F W w vs s hc=>?_⟩;have d:St (Mn σ) ι0 H0 (Jb (Mn σ) w) W w:=s.lend' (λb o hb=>⟨(Ama hb).1,(s.sto b o (Ama hb).2).hard (Ama hb).1⟩) (Agq s.glo λb o=>Agn);refine(h.2 (Mn σ) _ W w vs d ⟨hc.1,λi a v h1 h2=>ha a (Ev h1) σ v (hc.2 i a v h1 h2)⟩).mono ?_;rintro e w' ⟨v,A,rfl,D,l,c1⟩;have j:∀b,Mn σ b=none->∀o,w.heap[b]?=some o->w'.heap[b]?=some o/\A b=none:=λb hb o R=>l.fra b o (by unfold Jb;rw[hb];exact R);(let z:Aw:=λb=>match σ b with|none=>Jm A w' b|some o=>some o);(have x:∀b,σ b=none->z b=Jm A w' b:=λb hb=>by show(match σ b with|none=>_|some o=>_)=_;rw[hb]);(have u:∀b o,σ b=some o->z b=some o:=λb o hb=>by show(match σ b with|none=>_|some o=>_)=_;rw[hb]);have q:σ.le z:=u;(have I:(Jm A w').le z:=by intro b o hb;cases e:σ b with|none=>rw[x b e];exact hb|some g=>rw[u b g e];obtain⟨E,G,y,J,M⟩:=Ago hb;cases c:Eh g with|false=>have:=D b g (Agn e c);rw[y]at this;cases this;rw[J c]|true=>have B:Mn σ b=none:=(by unfold Mn;rw[e];simp only[c,cond_true]);have k:=(s.sto b g e).lt;have:=(j b B _ (Array.getElem?_eq_getElem k)).2;rw[y]at this;cases this);refine⟨v,z,rfl,q,⟨λb o hb=>?_,λb o hb=>?_,λ_=>rfl,(λh h' b S=>by cases S),l.os,l.tape,l.output,s.glo.mono q,l.drw⟩,(N A _ W w' v l c1).mono ⟨I,λ_=>HLe.refl _ _⟩⟩;(cases e:σ b with|some g=>(rw[u b g e]at hb;have hb:=Option.some.inj hb;subst hb;cases c:Eh g with|false=>exact .of_hard c ((l.sto b g (D b g (Agn e c))).hard c)|true=>have B:Mn σ b=none:=(by unfold Mn;rw[e];simp only[c,cond_true]);have k:=(s.sto b g e).lt;have hk:=(j b B _ (Array.getElem?_eq_getElem k)).1;exact(s.sto b g e).mono q (by rw[hk];exact(Array.getElem?_eq_getElem k).symm))|none=>rw[x b e]at hb;obtain⟨E,G,y,J,M⟩:=Ago hb;refine .of_hard E ?_;cases c:Eh G with|false=>rw[J c];exact(l.sto b G y).hard c|true=>exact M c);obtain⟨f1,f2⟩:=s.fra b o hb;have B:Mn σ b=none:=(by unfold Mn;rw[f2]);obtain⟨E,y⟩:=j b B o f1;refine⟨E,?_⟩;rw[x b f2];unfold Jm;rw[y]
theorem Ba.soft{f:FuncId}{args c:Λ AV}(h:Ba P f args (.val u))(ha:c.length=args.length/\∀(i:Nat)(a B:AV),args[i]?=some a->c[i]?=some B->Agp B a):Ba P f c (.val u):=by refine⟨h.1,λσ F W w vs s hc=>?_⟩;(have hh:∀b o,Jm σ w b=some o->Eh o=false/\w.heap[b]?=some o:=by intro b o hb;obtain⟨x,l,q,E,D⟩:=Ago hb;refine⟨x,?_⟩;cases j:Eh l with|false=>rw[E j];exact(s.sto b l q).hard j|true=>exact D j);have d:St (Jm σ w) ι0 H0 (Jb (Jm σ w) w) W w:=s.lend' hh (Agq s.glo λb o=>X9);(have A:Ml (Jm σ w) ι0 H0 args vs:=by refine⟨hc.1.trans ha.1,λi a v h1 h2=>?_⟩;have hi:i<c.length:=(by rw[ha.1];exact(F5.1 h1).1);exact ha.2 i a _ h1 (getElem?_eq_getElem hi) σ F W w v s (hc.2 i _ v (getElem?_eq_getElem hi) h2));refine(h.2 (Jm σ w) _ W w vs d A).mono ?_;rintro e w' ⟨v,I,rfl,z,g,c1⟩;(have same:∀b o,w.heap[b]?=some o->σ b≠none->w'.heap[b]?=some o:=by intro b o hb J;cases y:Jm σ w b with|none=>exact(g.fra b o (by unfold Jb;rw[y];exact hb)).1|some l=>obtain⟨x,q⟩:=hh b l y;rw[hb]at q;cases q;exact(g.sto b o (z b o y)).hard x);refine⟨v,σ,rfl,Aw.le_refl σ,⟨λb o hb=>?_,λb o hb=>?_,λ_=>rfl,(λh h' b G=>by cases G),g.os,g.tape,g.output,s.glo,g.drw⟩,by rw[c1.val_inv];exact .of_val _⟩;have k:=(s.sto b o hb).lt;refine(s.sto b o hb).mono (Aw.le_refl σ) ?_;rw[same b _ (Array.getElem?_eq_getElem k) (by rw[hb];intro e;cases e)];exact(Array.getElem?_eq_getElem k).symm;obtain⟨f1,f2⟩:=s.fra b o hb;refine⟨(g.fra b o ?_).1,f2⟩;unfold Jb Jm;rw[f2];exact f1
theorem E8.noSf'(h:E8 a):As0 a:=by intro σ v hc;induction h generalizing v with|val u=>rw[hc.val_inv];exact .of_val _|sl sz xs b h _=>exact .cc (hc.sl_inv.hard (λ_ _=>Agn) (.sl sz xs b h))|agg cs _ ih=>obtain⟨vs,rfl,f,hv⟩:=hc.agg_inv;exact .agg cs vs f λi c u h1 h2=>ih c (Ev h1) u (hv i c u h1 h2)
theorem A6m:Agp (.tup [.sl 1 (l.map .sf),.val u]) (.tup [.sl 1 (l.map (.sl 2)),.val u]):=by intro σ F W w v s J;obtain⟨L,rfl,b,B⟩:=J.tup_inv;refine .tup _ L b λi c x d I=>?_;match i,d with|0,d=>cases d;exact .cc (s.sfs_hard (B 0 _ x rfl I).sl_inv)|1,d=>cases d;rw[(B 1 _ x rfl I).val_inv];exact .of_val _|i+2,d=>cases d
theorem Bn.soften{f:FuncId}{args:Λ AV}{b:Λ Bs}{u:Bs}{k:Nat}(h:Bn P f args b (.arr (b.length+1) k 0 k) (b++[u,.rows E 2 xs]))(hk:xs.length=k)(y:∀x∈xs,Ix x)(I:b.all (Bs.under b.length)=true):Bn P f args b (.sf xs) b:=by refine⟨h.1,λσ F W w ι vs s hc=>(h.2 σ F W w ι vs s hc).mono ?_⟩;rintro e w' ⟨v,G,A,rfl,le,J,D⟩;(have c:hp (b++[u,.rows E 2 xs]) (b.length+1)=.rows E 2 xs:=by simp[hp]);(have j:∀i,i<b.length->hp (b++[u,.rows E 2 xs]) i=hp b i:=λi hi=>by simp[hp,getElem?_append_left hi]);have hv:=D.arr_inv c hk;obtain⟨z,g,B,c2⟩:=J.freezeSoft c y;rw[<-hk]at hv;(have l:∀i,i<b.length->A5 (hp (b++[u,.rows E 2 xs])) (b.length+1) .dead i=hp b i:=λi hi=>by rw[Cv _ _ ω];exact j i hi);refine⟨v,z,λk=>if k<b.length then A k else .none,rfl,⟨Aw.le_trans le.sto g.sto,λq=>?_⟩,B.first b l I,.cc (c2 v hv)⟩;by_cases d:q<b.length;have:=(le.trans g).obj q;rw[l q d]at this;rw[if_pos d];exact this;rw[if_neg d,Qh ω];have:ι q=.none:=(by have:=s.obj q;unfold Cz at this;rw[Qh ω]at this;exact this);rw[this];exact HLe.refl _ _
end
inductive Gz(K:Prop):Prop where
 |mk(k:K)
def opK(P:Program)(T:Di)(an:Nat->Ann)(nl:Nat->Λ (Nat×Nat))(o:Oper)(n:Nat)(e:Cm)(H:Hp)(acc:Mm)(K:Nat->Cm->Hp->Mm->Prop):Prop:=sop P T an n o (ev e) H λb m=>Vr (Aay (Al3 nl o.dst) b.r) λr=>Aga b.wr λwr=>Aat b.rd λf=>Aat wr λc=>Al6 e o.dst r H wr λe H=>Gz (K m e H (acc++[(f,c)]))
def Aa0(o:Oper)(n:Nat)(e:Cm)(H:Hp)(acc:Mm)(K:Nat->Cm->Hp->Mm->Prop):Prop:=Al6 e o.dst (.val undef) H [] λe H=>Gz (K n e H (acc++[([],[])]))
def Gn(P:Program)(T:Di)(an:Nat->Ann)(nl:Nat->Λ (Nat×Nat))(ops:Array Oper):Λ Oper->Nat->Cm->Hp->Mm->(Nat->Cm->Hp->Mm->Prop)->Prop
 |[],n,e,H,acc,K=>K n e H acc
 |o::os,n,e,H,acc,K=>match o.guard with
  |none=>opK P T an nl o n e H acc λn e H acc=>Gn P T an nl ops os n e H acc K
  |some p=>match(ops[p.1]?).bind (·.dst)with
   |none=>False
   |some s=>match e s with
    |.val v=>bif Vm v==some p.2 then opK P T an nl o n e H acc λn e H acc=>Gn P T an nl ops os n e H acc K else Aa0 o n e H acc λn e H acc=>Gn P T an nl ops os n e H acc K
    |_=>False
section
variable{P:Program}{T:Di}{an:Nat->Ann}{nl:Nat->Λ (Nat×Nat)}{ops:Array Oper}
theorem Amc(E:Dk P T):∀(os:Λ Oper)(i n:Nat)(e:Cm)(H:Hp)(acc:Mm)(K:Nat->Cm->Hp->Mm->Prop),ops.toList.drop i=os->acc.length=i->Hf H n->Gn P T an nl ops os n e H acc K->∃b R N d,K b R N d/\d.take i=acc/\d.length=i+os.length/\n<=b/\Hf N b/\Run P ops (λk=>d.getD k ([],[])) (range' i os.length) e H R N
 |[],i,n,e,H,acc,K,X,j,y,h=>⟨n,e,H,acc,h,by rw[<-j];simp,by simpa using j,Nat.le_refl _,y,.nil e H⟩
 |o::os,i,n,e,H,acc,K,X,j,y,h=>by have G:ops[i]?=some o:=(by have:=congrArg (λl=>l[0]?) X;simpa using this);have u:ops.toList.drop (i+1)=os:=(by have:=congrArg (drop 1) X;simpa[drop_drop]using this);(have U:Nf ops o e true->(opK P T an nl o n e H acc λn e H acc=>Gn P T an nl ops os n e H acc K)->∃b R N d,K b R N d/\d.take i=acc/\d.length=i+(o::os).length/\n<=b/\Hf N b/\Run P ops (λk=>d.getD k ([],[])) (range' i (o::os).length) e H R N:=by intro hg g;obtain⟨c,m,h1,h2,h3,h4,L⟩:=A6d E y g;simp only[Aau,Asd,Ase,Asp]at h3;obtain⟨b,R,N,d,B,x,J,I,A,z⟩:=Amc E os (i+1) m _ _ _ K u (by simp[j]) L h3.1;have D:d[i]?=some (c.rd.map (·.1),c.wr.map (·.1)):=(by have M:(d.take (i+1))[i]?=d[i]?:=Ip ω;rw[<-M,x,getElem?_append_right ω];simp[j]);have q:d.getD i ([],[])=(c.rd.map (·.1),c.wr.map (·.1)):=(by simp[getD,D]);refine⟨b,R,N,d,B,?_,by simp only[length_cons];omega,ω,A,?_⟩;have:=congrArg (take i) x;rw[take_take]at this;simpa[j]using this;rw[length_cons,range'_succ];refine .cons o (Aay (Al3 nl o.dst) c.r) c.wr ⟨G,.inl ⟨hg,_,h1.nils (Al3 nl o.dst),h2,?_,?_,rfl,rfl⟩⟩ z;intro p hp;show p.1∈(d.getD i ([],[])).1;rw[q];exact mem_map_of_mem hp;intro p hp;show p.1∈(d.getD i ([],[])).2;rw[q];exact mem_map_of_mem hp);(have skip:Nf ops o e false->(Aa0 o n e H acc λn e H acc=>Gn P T an nl ops os n e H acc K)->∃b R N d,K b R N d/\d.take i=acc/\d.length=i+(o::os).length/\n<=b/\Hf N b/\Run P ops (λk=>d.getD k ([],[])) (range' i (o::os).length) e H R N:=by intro hg g;unfold Aa0 at g;rw[Asp]at g;obtain⟨b,R,N,d,B,x,J,I,A,z⟩:=Amc E os (i+1) n _ _ _ K u (by simp[j]) y g.1;refine⟨b,R,N,d,B,?_,by simp only[length_cons];omega,ω,A,?_⟩;have:=congrArg (take i) x;rw[take_take]at this;simpa[j]using this;rw[length_cons,range'_succ];exact .cons o (.val undef) [] ⟨G,.inr ⟨hg,rfl,rfl⟩⟩ z);simp only[Gn]at h;cases f:o.guard with|none=>rw[f]at h;exact U (by unfold Nf;rw[f]) h|some p=>rw[f]at h;simp only[]at h;cases g:(ops[p.1]?).bind (·.dst)with|none=>rw[g]at h;exact h.elim|some s=>rw[g]at h;simp only[]at h;split at h;rename_i v hv;(cases V:Vm v==some p.2 with|true=>rw[V]at h;exact U (by unfold Nf;rw[f];exact⟨s,v,g,hv,V.symm⟩) h|false=>rw[V]at h;exact skip (by unfold Nf;rw[f];exact⟨s,v,g,hv,V.symm⟩) h);exact h.elim
variable{o:Oper}{os:Λ Oper}{n:Nat}{e:Cm}{H:Hp}{acc:Mm}{K:Nat->Cm->Hp->Mm->Prop}{β:Type}{r:β}
variable{s:Nat}{p:Nat×Bool}
theorem nx(k:opK P T an nl o n e H acc λn e H acc=>Gn P T an nl ops os n e H acc K)(hg:o.guard=none:=by exact rfl):Gz (Gn P T an nl ops (o::os) n e H acc K):=.mk (by simp only[Gn,hg];exact k)
theorem Ng(k:K n e H acc):Gz (Gn P T an nl ops [] n e H acc K):=.mk k
theorem A6n(p:Nat×Bool)(s:Nat)(k:opK P T an nl o n e H acc λn e H acc=>Gn P T an nl ops os n e H acc K)(hg:o.guard=some p:=by exact rfl)(b:(ops[p.1]?).bind (·.dst)=some s:=by exact rfl)(hb:e s=.val (.bool p.2):=by exact rfl):Gz (Gn P T an nl ops (o::os) n e H acc K) :=
 .mk (by simp only[Gn,hg,b,hb,Vm,BEq.rfl,cond_true];exact k)
theorem A6o(p:Nat×Bool)(s:Nat)(v:Value)(k:Aa0 o n e H acc λn e H acc=>Gn P T an nl ops os n e H acc K)(hg:o.guard=some p:=by exact rfl)(b:(ops[p.1]?).bind (·.dst)=some s:=by exact rfl)(hb:e s=.val v:=by exact rfl)(d:(Vm v==some p.2)=false:=by exact rfl):Gz (Gn P T an nl ops (o::os) n e H acc K) :=
 .mk (by simp only[Gn,hg,b,hb,d,cond_false];exact k)
theorem Tp(k:opK P T an nl o n e H acc λn e H acc=>Gn P T an nl ops os n e H acc K)(hg:o.guard=some p:=by exact rfl)(b:(ops[p.1]?).bind (·.dst)=some s:=by exact rfl)(hb:e s=.val (.bool p.2):=by exact rfl):Gz (Gn P T an nl ops (o::os) n e H acc K):=A6n p s k hg b hb
theorem Tq{v:Value}(k:Aa0 o n e H acc λn e H acc=>Gn P T an nl ops os n e H acc K)(hg:o.guard=some p:=by exact rfl)(b:(ops[p.1]?).bind (·.dst)=some s:=by exact rfl)(hb:e s=.val v:=by exact rfl)(d:(Vm v==some p.2)=false:=by exact rfl):Gz (Gn P T an nl ops (o::os) n e H acc K):=A6o p s v k hg b hb d
theorem A6p{b:Bool}{m c:Ο β}{X:Λ Oper}(h:(bif b then m else c)=some r)(d:b=true->m=some r->Gz (Gn P T an nl ops X n (A5 e s (.val (.bool true))) H acc K))(B:b=false->c=some r->Gz (Gn P T an nl ops X n (A5 e s (.val (.bool false))) H acc K))(hb:e s=.val (.bool b):=by exact rfl):Gz (Gn P T an nl ops X n e H acc K):=by cases b with|true=>have:=d rfl h;rwa [Asr hb]at this|false=>have:=B rfl h;rwa [Asr hb]at this
end
theorem St.recell{σ:Aw}{ι:B6}{H:Hp}{F:Aw}{W w:World}(s:St σ ι H F W w)(h:Nat)(E:TypeId)(cs f:Λ AV)(hh:H h=.cells E cs)(l:f.length=cs.length)(hc:∀(i:Nat)(c j:AV)(v:Value),cs[i]?=some c->f[i]?=some j->Conc σ ι H c v->Conc σ ι H j v):St σ ι (A5 H h (.cells E f)) F W w/\Le σ ι H σ ι (A5 H h (.cells E f)):=by have k:=s.obj h;unfold Cz at k;rw[hh]at k;obtain⟨b,C,hb,h1,h2,h3,d,z⟩:=k;(have le:Le σ ι H σ ι (A5 H h (.cells E f)):=by have:=Le.upd (ι:=ι) (H:=H) (Aw.le_refl σ) h (ι h) (.cells E f) (by rw[hh];exact⟨λ_ e=>e,(λ_ e=>by cases e),(λ_ _ _ _ e=>by cases e)⟩);rwa [Jt]at this);refine⟨s.touch h b (λ_ _=>rfl) (λx e=>Cv _ _ e) le (λx e=>rfl) (λ_ _=>rfl) (λo e=>by rw[h1]at e;cases e) ?_ h2 ?_ ?_ rfl rfl rfl,le⟩;intro x e l q;exact e (s.inj x h b l (by rw[hh];rfl) q (by rw[hb];rfl));intro A _ u;exact .inr ⟨by rw[hh];rfl,u⟩;unfold Cz;rw[Ca];refine⟨b,C,hb,h1,h2,h3,ω,λi j v x y=>?_⟩;have hi:i<cs.length:=(by rw[<-l];exact(F5.1 x).1);have g:cs[i]?=some cs[i]:=getElem?_eq_getElem hi;exact(hc i _ j v g x (z i _ v g y)).mono le
def Agr:AV->Ο Nat
 |.loc h _=>some h
 |.vec h _=>some h
 |_=>none
inductive Gh where
 |fz(s:Nat)
 |own(s j:Nat)(e:TypeId)(sz:Nat)
 |nil(s j sz:Nat)
 |fzc(s j:Nat)
 |fzp(s:Nat)
 |fzcp(s j:Nat)
 |fzv(s:Nat)
 |fzs(s:Nat)
inductive A6q(xs:List AV)(K:Prop):Prop where
 |mk(h:∀x∈xs,Ix x)(k:K)
def gxs:Λ Gh->Nat->Cm->Hp->(Nat->Cm->Hp->Prop)->Prop
 |[],n,e,H,K=>K n e H
 |.fz s::d,n,e,H,K=>match e s with
  |.arr h k 0 len=>match H h with
   |.rows _ sz xs=>Iq k xs (Iq len xs (gxs d n (A5 e s (.sl sz xs)) (A5 H h .dead) K))
   |_=>False
  |_=>False
 |.fzp s::d,n,e,H,K=>match e s with
  |.arr h k 0 len=>match H h with
   |.rows _ sz xs=>Iq k xs (Alt len k (Alu xs len λys=>gxs d n (A5 e s (.sl sz ys)) (A5 H h .dead) K))
   |_=>False
  |_=>False
 |.own s j E sz::d,n,e,H,K=>match Agr (e s)with
  |some h=>match H h with
   |.cells T cs=>match cs[j]? with
    |some x=>bif Ob x&&Nat.blt 0 sz then gxs d (n+1) e (A5 (A5 H n (.rows E sz [])) h (.cells T (cs.set j (.arr n 0 0 0)))) K else False
    |none=>False
   |_=>False
  |_=>False
 |.nil s j sz::d,n,e,H,K=>match Agr (e s)with
  |some h=>match H h with
   |.cells T cs=>match cs[j]? with
    |some x=>bif Ob x then gxs d n e (A5 H h (.cells T (cs.set j (.sl sz [])))) K else False
    |none=>False
   |_=>False
  |_=>False
 |.fzc s j::d,n,e,H,K=>match Agr (e s)with
  |some h=>match H h with
   |.cells T cs=>match cs[j]? with
    |some (.arr h' k 0 len)=>match H h' with
     |.rows _ sz xs=>Iq k xs (Iq len xs (gxs d n e (A5 (A5 H h' .dead) h (.cells T (cs.set j (.sl sz xs)))) K))
     |_=>False
    |_=>False
   |_=>False
  |_=>False
 |.fzcp s j::d,n,e,H,K=>match Agr (e s)with
  |some h=>match H h with
   |.cells T cs=>match cs[j]? with
    |some (.arr h' k 0 len)=>match H h' with
     |.rows _ sz xs=>Iq k xs (Alt len k (Alu xs len λys=>gxs d n e (A5 (A5 H h' .dead) h (.cells T (cs.set j (.sl sz ys)))) K))
     |_=>False
    |_=>False
   |_=>False
  |_=>False
 |.fzv s::d,n,e,H,K=>match e s with
  |.vec h m=>match H h with
   |.cells _ cs=>bif cs.all AV.cl1&&Nat.beq cs.length m&&Nat.ble m 16 then gxs d n (A5 e s (.sl 1 cs)) (A5 H h .dead) K else False
   |_=>False
  |_=>False
 |.fzs s::d,n,e,H,K=>match e s with
  |.arr h k 0 len=>match H h with
   |.rows _ sz xs=>bif Nat.beq sz 2 then Iq k xs (Iq len xs (A6q xs (gxs d n (A5 e s (.sf xs)) (A5 H h .dead) K)))else False
   |_=>False
  |_=>False
section
variable{F:Aw}{W:World}
variable{σ:Aw}{ι:B6}{H:Hp}{h j:Nat}{E:TypeId}{w:World}
theorem As1{cs:Λ AV}{i:Nat}{y c b:AV}{P:AV->AV->Prop}(B:cs[i]?=some c)(d:(cs.set j y)[i]?=some b)(f:P c c)(I:i=j->P c y):P c b:=by rw[getElem?_set]at d;split at d;rename_i e;split at d;cases d;exact I e.symm;cases d;rw[B]at d;cases d;exact f
theorem St.freezeVec(s:St σ ι H F W w){cs:Λ AV}(hh:H h=.cells E cs)(y:∀c∈cs,c.cl1=true):∃J,Le σ ι H J ι (A5 H h .dead)/\St J ι (A5 H h .dead) F W w/\∀v,cs.length<=140737488355328->Conc σ ι H (.vec h cs.length) v->CC J (.sl 1 cs) v:=by
 have z:=s.obj h;unfold Cz at z;rw[hh]at z;obtain⟨b,C,V,p1,p2,p3,Z,U⟩:=z;by_cases I:cs=[];subst I;have f:Le σ ι H σ ι (A5 H h .dead):=(by have:=Le.upd (ι:=ι) (H:=H) (Aw.le_refl σ) h (ι h) .dead ⟨λ_ e=>e,(λ_ e=>by cases e),(λ_ E1 M L e=>by cases e)⟩;rwa [Jt]at this);obtain⟨f1,f2⟩:=s.fresh;refine⟨σ,f,s.touch h w.heap.size (λ_ _=>rfl) (λx e=>Cv _ _ e) f (λ_ _=>rfl) (λ_ _=>rfl) (λo D=>by rw[f1]at D;cases D) (λx e q hb=>by have:=(s.block q hb).1;omega) f2 (λb q hb=>by rw[Ca]at q;cases q) (by unfold Cz;rw[Ca];trivial) rfl rfl rfl,λv _ hc=>?_⟩;obtain⟨b2,A,rfl⟩:=hc.vec_inv;exact .nil 1 _ _;(have N:Eh (.cells C E)=false:=by have d:0<cs.length:=length_pos_iff.2 I;have l:0<C.size:=ω;exact O9 (k:=0) (v:=C[0]) (by simp[l]) (Vf ((U 0 cs[0] C[0] (getElem?_eq_getElem d) (by simp[l])).cc_of (y _ (getElem_mem d))).2));(have G:σ.le (A5 σ b (some (.cells C E))):=by intro b' o' a0;rw[Cv _ _ (by intro e;subst e;rw[p1]at a0;cases a0)];exact a0);(have f:Le σ ι H (A5 σ b (some (.cells C E))) ι (A5 H h .dead):=by have:=Le.upd (ι:=ι) (H:=H) G h (ι h) .dead ⟨λ_ e=>e,(λ_ e=>by cases e),(λ_ E1 M L e=>by cases e)⟩;rwa [Jt]at this);refine⟨A5 σ b (some (.cells C E)),f,?_,?_⟩;exact s.touch h b (λ_ _=>rfl) (λx e=>Cv _ _ e) f (λ_ _=>rfl) (λx e=>Cv _ _ e) (λo D=>by rw[Ca]at D;cases D;exact .of_hard N p3) (λx e q hb=>e (s.inj x h b q (by rw[hh];rfl) hb (by rw[V];rfl))) p2 (λb' q hb=>by rw[Ca]at q;cases q) (by unfold Cz;rw[Ca];trivial) rfl rfl rfl
 .intro v q hc;obtain⟨b2,A,rfl⟩:=hc.vec_inv;rw[V]at A;cases A;(have g:∀c:AV,c.cl1=true->c.cells=[c]:=by intro c hc;cases c with|val v=>(cases v<;>first|rfl|cases hc)|sl=>rfl|sf=>rfl|_=>cases hc);have S:∀(i:Nat)(c:AV),cs[i]?=some c->∃u,C[i]?=some u/\CC σ c u/\Em u=true:=(by intro i c hi;have l:i<C.size:=(by rw[Z];exact(F5.1 hi).1);refine⟨C[i],by simp[l],?_⟩;exact(U i c C[i] hi (by simp[l])).cc_of (y c (Ev hi)));have:=CC.sl (σ:=A5 σ b (some (.cells C E))) cs b 0 cs.length 1 C E (0,0) (λn _=>(C[n]?).getD undef) (Ca _ _ _) (λi x hx=>by rw[g x (y x (Ev hx))];rfl) (λi x j c hx hj=>by rw[g x (y x (Ev hx))]at hj;obtain⟨rfl,rfl⟩:=Aaj hj;obtain⟨u,B,Y,_⟩:=S i _ hx;rw[B];exact Y.mono G) (λi x j c hx hj=>by rw[g x (y x (Ev hx))]at hj;obtain⟨rfl,rfl⟩:=Aaj hj;obtain⟨u,B,_,X⟩:=S i _ hx;rw[B];exact X) (λi j hi hj=>by have R:j=0:=ω;subst R;rw[Nat.zero_add,Nat.mul_one,Nat.add_zero];obtain⟨u,B,_⟩:=S i cs[i] (getElem?_eq_getElem hi);rw[B];rfl) q (Nat.le_refl _);exact this
theorem Qj{n:Nat}{o:Bs}(b:Hf H n)(hh:H h≠.none):Hf (A5 H h o) n:=by intro m d;rw[Cv _ _ λe=>hh (by rw[<-e];exact b m d)];exact b m d
theorem As2{d h' k len:Nat}{T:TypeId}{sz:Nat}{cs xs ys:Λ AV}(s:St σ ι H F W w)(hh:H d=.cells T cs)(hj:cs[j]?=some (.arr h' k 0 len))(g:H h'=.rows E sz xs)(hk:xs.length=k)(V:len<=xs.length)(hy:xs.take len=ys):∃c,Le σ ι H c ι (A5 (A5 H h' .dead) d (.cells T (cs.set j (.sl sz ys))))/\St c ι (A5 (A5 H h' .dead) d (.cells T (cs.set j (.sl sz ys)))) F W w:=by obtain⟨c,G,D,M⟩:=s.freeze g;(have J:d≠h':=by intro B;subst B;rw[hh]at g;cases g);(have f:A5 H h' .dead d=.cells T cs:=by rw[Cv _ _ J];exact hh);have h:=s.obj d;unfold Cz at h;rw[hh]at h;obtain⟨b,C,B,g1,g2,g3,g4,g5⟩:=h;(have l:∀v,C[j]?=some v->Conc c ι (A5 H h' .dead) (.sl sz ys) v:=by intro v hv;have hc:=g5 j _ v hj hv;have:=M 0 len _ ω (hc.arr_inv g hk);rw[drop_zero,hy]at this;exact .cc this);(have U:St c ι (A5 (A5 H h' .dead) d (.cells T (cs.set j (.sl sz ys)))) F W w/\Le c ι (A5 H h' .dead) c ι (A5 (A5 H h' .dead) d (.cells T (cs.set j (.sl sz ys)))):=by have I:=D.obj d;unfold Cz at I;rw[f]at I;obtain⟨b',C',A,z,u,q,X,S⟩:=I;rw[B]at A;cases A;rw[g3]at q;cases q;have le:Le c ι (A5 H h' .dead) c ι (A5 (A5 H h' .dead) d (.cells T (cs.set j (.sl sz ys)))):=(by have:=Le.upd (ι:=ι) (H:=A5 H h' .dead) (Aw.le_refl c) d (ι d) (.cells T (cs.set j (.sl sz ys))) (by rw[f];exact⟨λ_ e=>e,(λ_ e=>by cases e),(λ_ _ _ _ e=>by cases e)⟩);rwa [Jt]at this);refine⟨D.touch d b (λ_ _=>rfl) (λx e=>Cv _ _ e) le (λx e=>rfl) (λ_ _=>rfl) (λo e=>by rw[z]at e;cases e) ?_ u ?_ ?_ rfl rfl rfl,le⟩;intro x e V N;exact e (D.inj x d b V (by rw[f];rfl) N (by rw[B];rfl));intro Z _ R;exact .inr ⟨by rw[f];rfl,R⟩;unfold Cz;rw[Ca];refine⟨b,C,B,z,u,g3,by simpa using g4,λi Y v x y=>?_⟩;rw[getElem?_set]at x;split at x;rename_i L;split at x;cases x;subst L;exact(l v y).mono le;cases x;exact(S i Y v x y).mono le);exact⟨c,G.trans U.2,U.1⟩
theorem R0:∀(z:Λ Gh){n:Nat}{e:Cm}{H:Hp}{K:Nat->Cm->Hp->Prop}{σ:Aw}{ι:B6}{a:Act}{w:World},gxs z n e H K->St σ ι H F W w->Gi σ ι H e a->Hf H n->∃σ' ι' n' e' H',K n' e' H'/\Le σ ι H σ' ι' H'/\St σ' ι' H' F W w/\Gi σ' ι' H' e' a/\Hf H' n'/\n<=n'
 |[],n,e,H,K,σ,ι,a,w,h,s,l,u=>⟨σ,ι,n,e,H,h,Le.refl _ _ _,s,l,u,Nat.le_refl _⟩
 |.fz t::z,n,e,H,K,σ,ι,a,w,h,s,l,u=>by simp only[gxs]at h;split at h;rename_i hd k len hx;split at h;rename_i E sz xs d;obtain⟨hk,hl,h⟩:=h;obtain⟨Z,f,G,S⟩:=s.freeze d;(have U:Gi Z ι (A5 H hd .dead) (A5 e t (.sl sz xs)) a:=by intro q hq;by_cases A:q=t;subst A;rw[Ca];have hc:=l q hq;rw[hx]at hc;have:=S 0 len _ ω (hc.arr_inv d hk);rw[drop_zero,take_of_length_le ω]at this;exact .cc this;rw[Cv _ _ A];exact(l q hq).mono f);obtain⟨B,D,I,V,X,R,N,M,L,J,Y⟩:=R0 z h G U (Qj u (by rw[d];intro e;cases e));exact⟨B,D,I,V,X,R,f.trans N,M,L,J,Y⟩;exact h.elim;exact h.elim
 |.fzp t::z,n,e,H,K,σ,ι,a,w,h,s,l,u=>by simp only[gxs]at h;split at h;rename_i hd k len hx;split at h;rename_i E sz xs d;obtain⟨hk,hl,ys,hy,h⟩:=h;obtain⟨Z,f,G,S⟩:=s.freeze d;(have U:Gi Z ι (A5 H hd .dead) (A5 e t (.sl sz ys)) a:=by intro q hq;by_cases A:q=t;subst A;rw[Ca];have hc:=l q hq;rw[hx]at hc;have:=S 0 len _ ω (hc.arr_inv d hk);rw[drop_zero,hy]at this;exact .cc this;rw[Cv _ _ A];exact(l q hq).mono f);obtain⟨B,D,I,V,X,R,N,M,L,J,Y⟩:=R0 z h G U (Qj u (by rw[d];intro e;cases e));exact⟨B,D,I,V,X,R,f.trans N,M,L,J,Y⟩;exact h.elim;exact h.elim
 |.own t j E sz::z,n,e,H,K,σ,ι,a,w,h,s,l,u=>by simp only[gxs]at h;split at h;rename_i hd hx;split at h;rename_i T cs d;split at h;rename_i x hj;obtain⟨hb,h⟩:=Gm h;rw[F8]at hb;have a8:hd≠n:=(by intro A;subst A;have:=u hd (Nat.le_refl _);rw[d]at this;cases this);obtain⟨s0,a6⟩:=s.newNil n (u n (Nat.le_refl _)) E sz (Iz hb.2);have a7:A5 H n (.rows E sz []) hd=.cells T cs:=(by rw[Cv _ _ a8];exact d);obtain⟨G,f⟩:=s0.recell hd T cs (cs.set j (.arr n 0 0 0)) a7 ψ (by intro i c c' v h1 h2 h3;refine As1 (P:=λa b=>Conc σ _ _ a v->Conc σ _ _ b v) h1 h2 (λh=>h) (λa1 h=>?_) h3;subst a1;rw[hj]at h1;cases h1;rw[Agg hb.1]at h;rw[h.val_inv];refine .arr _ _ _ _ _ (by rw[Ca];intro e;cases e) (λE' ad ac e'=>?_) rfl;rw[Ca]at e';cases e';exact⟨ψ,λ_=>by rw[Ca];exact⟨rfl,rfl,rfl⟩⟩);have aa:Hf (A5 (A5 H n (.rows E sz [])) hd (.cells T (cs.set j (.arr n 0 0 0)))) (n+1):=(by refine Qj ?_ (by rw[a7];intro e;cases e);intro m hm;rw[Cv _ _ ω];exact u m ω);obtain⟨B,D,I,V,X,R,N,M,L,J,Y⟩:=R0 z h G (l.mono (a6.trans f)) aa;exact⟨B,D,I,V,X,R,(a6.trans f).trans N,M,L,J,ω⟩;exact h.elim;exact h.elim;exact h.elim
 |.nil t j sz::z,n,e,H,K,σ,ι,a,w,h,s,l,u=>by simp only[gxs]at h;split at h;rename_i hd hx;split at h;rename_i T cs d;split at h;rename_i x hj;obtain⟨hb,h⟩:=Gm h;obtain⟨G,f⟩:=s.recell hd T cs (cs.set j (.sl sz [])) d ψ (by intro i c c' v h1 h2 h3;refine As1 (P:=λa b=>Conc σ _ _ a v->Conc σ _ _ b v) h1 h2 (λh=>h) (λa1 h=>?_) h3;subst a1;rw[hj]at h1;cases h1;exact Agh hb h);obtain⟨B,D,I,V,X,R,N,M,L,J,Y⟩:=R0 z h G (l.mono f) (Qj u (by rw[d];intro e;cases e));exact⟨B,D,I,V,X,R,f.trans N,M,L,J,Y⟩;exact h.elim;exact h.elim;exact h.elim
 |.fzc t j::z,n,e,H,K,σ,ι,a,w,h,s,l,u=>by simp only[gxs]at h;split at h;rename_i hd hx;split at h;rename_i T cs d;split at h;rename_i h' k len hj;split at h;rename_i E sz xs y;obtain⟨hk,hl,h⟩:=h;obtain⟨Z,f,G⟩:=As2 s d hj y hk ω (take_of_length_le ω);obtain⟨B,D,I,V,X,R,N,M,L,J,Y⟩:=R0 z h G (l.mono f) (Qj (Qj u (by rw[y];intro e;cases e)) (by rw[Cv _ _ (by intro A;subst A;rw[d]at y;cases y)];rw[d];intro e;cases e));exact⟨B,D,I,V,X,R,f.trans N,M,L,J,Y⟩;exact h.elim;exact h.elim;exact h.elim;exact h.elim
 |.fzcp t j::z,n,e,H,K,σ,ι,a,w,h,s,l,u=>by simp only[gxs]at h;split at h;rename_i hd hx;split at h;rename_i T cs d;split at h;rename_i h' k len hj;split at h;rename_i E sz xs y;obtain⟨hk,hl,ys,hy,h⟩:=h;obtain⟨Z,f,G⟩:=As2 s d hj y hk ω (hy);obtain⟨B,D,I,V,X,R,N,M,L,J,Y⟩:=R0 z h G (l.mono f) (Qj (Qj u (by rw[y];intro e;cases e)) (by rw[Cv _ _ (by intro A;subst A;rw[d]at y;cases y)];rw[d];intro e;cases e));exact⟨B,D,I,V,X,R,f.trans N,M,L,J,Y⟩;exact h.elim;exact h.elim;exact h.elim;exact h.elim
 |.fzv t::z,n,e,H,K,σ,ι,a,w,h,s,l,u=>by simp only[gxs]at h;split at h;rename_i hd m hx;split at h;rename_i E cs d;obtain⟨g,h⟩:=Gm h;simp only[F8]at g;obtain⟨⟨g1,g2⟩,g3⟩:=g;have g2:=Gk g2;have g3:=G8 g3;obtain⟨Z,f,G,S⟩:=s.freezeVec d λc hc=>E7.1 g1 c hc;(have U:Gi Z ι (A5 H hd .dead) (A5 e t (.sl 1 cs)) a:=by intro q hq;by_cases A:q=t;subst A;rw[Ca];have hc:=l q hq;rw[hx,<-g2]at hc;exact .cc (S _ ω hc);rw[Cv _ _ A];exact(l q hq).mono f);obtain⟨B,D,I,V,X,R,N,M,L,J,Y⟩:=R0 z h G U (Qj u (by rw[d];intro e;cases e));exact⟨B,D,I,V,X,R,f.trans N,M,L,J,Y⟩;exact h.elim;exact h.elim
 |.fzs t::z,n,e,H,K,σ,ι,a,w,h,s,l,u=>by simp only[gxs]at h;split at h;rename_i hd k len hx;split at h;rename_i E sz xs d;obtain⟨g,h⟩:=Gm h;have g:=Gk g;subst g;obtain⟨hk,hl,ab,h⟩:=h;obtain⟨Z,f,G,S⟩:=s.freezeSoft d ab;(have U:Gi Z ι (A5 H hd .dead) (A5 e t (.sf xs)) a:=by intro q hq;by_cases A:q=t;subst A;rw[Ca];have hc:=l q hq;rw[hx]at hc;have:=hc.arr_inv d hk;rw[<-hl]at this;exact .cc (S _ this);rw[Cv _ _ A];exact(l q hq).mono f);obtain⟨B,D,I,V,X,R,N,M,L,J,Y⟩:=R0 z h G U (Qj u (by rw[d];intro e;cases e));exact⟨B,D,I,V,X,R,f.trans N,M,L,J,Y⟩;exact h.elim;exact h.elim
end
variable{i:Int}{n:Nat}{E S α:Type}{e:E}{l:Λ α}{s:S}
def Ju{S E:Type}(step:S->Ο (S⊕E)):Nat->S->Ο E
 |0,_=>none
 |n+1,s=>match step s with|none=>none|some (.inl d)=>Ju step n d|some (.inr e)=>some e
theorem Amd{S E:Type}{step:S->Ο (S⊕E)}:∀{n:Nat}{s:S}{e:E},Ju step n s=some e->∀m,n<=m->Ju step m s=some e
 |0,s,e,h,_,_=>by cases h
 |n+1,s,e,h,0,d=>ω
 |n+1,s,e,h,m+1,d=>by simp only[Ju]at h⊢;cases b:step s with|none=>rw[b]at h;cases h|some o=>rw[b]at h;cases o with|inl B=>exact Amd (n:=n) h m ω|inr I=>exact h
theorem As3{step:S->Ο (S⊕E)}{m:Nat}{e':E}(h:Ju step n s=some e)(h':Ju step m s=some e'):e=e':=by have B:=Amd h (max n m) ω;have d:=Amd h' (max n m) ω;rw[B]at d;exact Option.some.inj d
open Classical in
noncomputable def Ak{S E:Type}(step:S->Ο (S⊕E))(s:S):Ο E:=match Ju step 4096 s with|some e=>some e|none=>if h:∃n e,Ju step n s=some e then some (Classical.choose (Classical.choose_spec h))else none
theorem Ags{step:S->Ο (S⊕E)}(h:Ak step s=some e):∃n,Ju step n s=some e:=by unfold Ak at h;split at h;rename_i B b;cases h;exact⟨_,b⟩;split at h;rename_i d;cases h;exact⟨_,Classical.choose_spec (Classical.choose_spec d)⟩;cases h
theorem Ame{step:S->Ο (S⊕E)}(h:Ju step n s=some e):Ak step s=some e:=by have d:∃n e,Ju step n s=some e:=⟨n,e,h⟩;unfold Ak;split;rename_i B b;exact congrArg some (As3 b h);rw[dif_pos d];exact congrArg some (As3 (Classical.choose_spec (Classical.choose_spec d)) h)
theorem G0{step:S->Ο (S⊕E)}(h:step s=some (.inr e)):Ak step s=some e:=Ame (n:=1) (by simp only[Ju,h])
theorem Mo{step:S->Ο (S⊕E)}{s':S}(h:step s=some (.inl s')):Ak step s=Ak step s':=by cases h':Ak step s' with|some e=>obtain⟨n,b⟩:=Ags h';exact Ame (n:=n+1) (by simp only[Ju,h];exact b)|none=>cases c:Ak step s with|none=>rfl|some e=>obtain⟨n,b⟩:=Ags c;cases n with|zero=>cases b|succ n=>simp only[Ju,h]at b;rw[Ame b]at h';cases h'
theorem J6{step:S->Ο (S⊕E)}(c:S->Prop)(m:S->Nat)(b:E->Prop)(f:∀s,c s->(∃d,step s=some (.inl d)/\c d/\m d < m s)\/(∃e,step s=some (.inr e)/\b e))(s:S)(h0:c s):∃e,Ak step s=some e/\b e:=by generalize L:m s=k;induction k using Nat.strongRecOn generalizing s with|_ k ih=>(rcases f s h0 with⟨d,B,I,M⟩|⟨e,B,I⟩);obtain⟨e,J,g⟩:=ih (m d) ω d I rfl;exact⟨e,by rw[Mo B];exact J,g⟩;exact⟨e,G0 B,I⟩
def Ah(l:Λ α)(i:Int):Ο α:=if 0<=i then l[i.toNat]? else none
def En(l:Λ α)(lo hi:Int):Ο (List α):=if 0<=lo/\lo<=hi/\hi<=l.length then some ((l.take hi.toNat).drop lo.toNat)else none
def Bw(b:Nat)(xs ys:Λ α):Ο (List α):=if(xs.length+ys.length)*b<=140737488355328 then some (xs++ys)else none
def G1(c:Nat)(len b:Int)(z:α):Ο (List α):=if 0<=len/\len<=b/\c*b.toNat<=281474976710656/\b<=140737488355328 then some (replicate len.toNat z)else none
def I4(l:Λ α)(off n:Nat)(i:Int):Ο α:=if 0<=i/\i<n then l[off+i.toNat]? else none
def Ts(n:Nat)(lo hi:Int):Ο (Nat×Nat):=if 0<=lo/\lo<=hi/\hi<=n/\(lo=0\/lo<hi)then some (lo.toNat,hi.toNat)else none
def Tt(xs:Λ α)(off n:Nat)(z:α):Ο (List α):=if off+n<=xs.length then some (Gg xs off (replicate n z))else none
def Agt(xs:Λ α)(n:Nat):Ο (List α):=if n<=xs.length then some (xs.take n)else none
def Ya(n:Nat)(hi:Int):Ο Nat:=if 0<=hi/\hi<=n then some hi.toNat else none
def Vy(n:Nat)(lo hi:Int):Ο ((Nat×Nat)⊕Unit):=if 0<=lo/\lo<=hi/\hi<=n then(if lo=0\/lo<hi then some (.inl (lo.toNat,hi.toNat))else some (.inr ()))else none
def G2(n:Nat)(l:Λ α):Ο Unit:=if n=l.length then some ()else none
theorem Jn{u:Unit}(h:G2 n l=some u):n=l.length:=by unfold G2 at h;split at h;assumption;cases h
theorem As4(off:Nat)(h:i=n):((off:Nat):Int)+i=((off+n:Nat):Int):=by omega
def R1(n:Int):Ο Β:=if -9223372036854775808<=n/\n<=9223372036854775807 then some ⟨(Lib.itoa n).toArray⟩else none
def As5(l:Λ Int):Ο (List Int):=some (l.mergeSort λx y=>decide (x<=y))
def Agu(a b:Int):Ο Β:=bif b==10 then R1 a else none
def Fj(l:Λ Int):Λ UInt8:=l.map λn=>UInt8.ofNat n.toNat
def Vz(l:Λ Int):Ο Β:=if(∀x∈l,0<=x/\x<256)then some ⟨(Fj l).toArray⟩else none
def Pg(s:Β):Λ Int:=s.data.toList.map λb=>(b.toNat:Int)
def Cn(l:Λ α)(i:Int)(x:α):Λ α:=l.set i.toNat x
def I5(k:IntKind)(a b:Int):Ο Int:=if b=0 then none else some (k.wrap (a.tdiv b))
def Jv(a b:Int):Ο Int:=if b=0 then none else some (a.tmod b)
def As6(k:IntKind)(a b:Int):Ο Int:=if 0<=b then some (k.wrap (a*2^(min b.toNat k.bits)))else none
def Aa1(k:IntKind)(a b:Int):Ο Int:=if 0<=b then some (a.fdiv (2^(min b.toNat k.bits)))else none
def Lp(s:Β)(i:Int):Ο UInt8:=if 0<=i then s[i.toNat]? else none
def Hg(a b:Β):Ο Β:=if a.size+b.size<=9223372036854775807 then some (a++b)else none
def H7(s:Β)(lo hi:Int):Ο Β:=if 0<=lo/\lo<=hi/\hi<=s.size then some (s.extract lo.toNat hi.toNat)else none
abbrev Ac(n:Int):Int:=IntKind.i64.wrap n
abbrev Bi(n:Int):Int:=IntKind.u64.wrap n
abbrev Dv(n:Int):Int:=IntKind.u32.wrap n
abbrev wu8(n:Int):Int:=IntKind.u8.wrap n
theorem As7{x:α}(h:Ah l i=some x):∃n:Nat,i=n/\l[n]?=some x:=by unfold Ah at h;split at h;exact⟨i.toNat,ω,h⟩;cases h
section
variable{β:Type}{r:β}
variable{hi i lo:Int}{xs ys:Λ AV}{b n off:Nat}{K:Nat->Nat->Prop}{G:Prop}{α:Type}{l:Λ α}{o:Ο α}{m:α->Ο β}
theorem Df(h:o.bind m=some r)(k:∀x,o=some x->m x=some r->G):G:=by cases o with|none=>cases h|some x=>exact k x rfl h
theorem Amf(h:o.bind m=some r)(k:∀x,o=some x->(∀y,y=x->m y=some r)->G):G:=by cases o with|none=>cases h|some x=>exact k x rfl (λy d=>by subst d;exact h)
theorem As8{f:α->AV}(c:ys=l.map f){K:Nat->AV->Prop}(h:(Ah l i).bind m=some r)(k:∀(n:Nat)(x:α),i=n->l[n]?=some x->m x=some r->K n (f x)):Vn ys i K:=by subst c;refine Df h λx B h=>?_;obtain⟨n,b,d⟩:=As7 B;exact .mk n (f x) b (by simp[d]) (k n x b d h)
theorem A6r{f:α->AV}(j:ys=l.map f){K:Nat->Prop}{len:Nat}(g:len=l.length)(B:b=l.length)(h:(Ah l i).bind m=some r)(k:∀(n:Nat)(x:α),i=n->l[n]?=some x->m x=some r->K n):Vo len b ys i K:=by subst j;refine Df h λx I h=>?_;obtain⟨n,c,d⟩:=As7 I;exact .mk n (by rw[B];simp) c (by rw[g];exact(F5.1 d).1) (k n x c d h)
theorem A6s{f:α->AV}(c:ys=l.map f){K:Nat->Prop}{len:Nat}(B:b=l.length)(h:(I4 l off len i).bind m=some r)(k:∀(n:Nat)(x:α),i=n->l[off+n]?=some x->m x=some r->K n):Vo len b ys i K:=by subst c;refine Df h λx d h=>?_;unfold I4 at d;split at d;rename_i I;exact .mk i.toNat (by rw[B];simp) ω ω (k _ x ω d h);cases d
theorem As9{f:α->AV}(c:ys=l.map f)(B:b=l.length){m:Nat×Nat->Ο β}{g:Prop}(h:(Ts n lo hi).bind m=some r)(k:∀v:Nat×Nat,m v=some r->K v.1 v.2):Af3 b ys n lo hi K g:=by subst c;refine Df h λx d h=>?_;unfold Ts at d;split at d;rename_i I;cases d;exact .mk lo.toNat hi.toNat (by rw[B];simp) ω ω ω ω ω (k _ h);cases d
theorem A6t{β:Type}(f:α->β)(xs:Λ α)(d:Nat)(ys:Λ α):Gg (xs.map f) d (ys.map f)=(Gg xs d ys).map f:=by unfold Gg;simp[map_take,map_drop]
theorem A6u{f:α->AV}{z:α}{c:AV}(j:xs=l.map f)(i:c=f z){g len:Nat}{m:Λ α->Ο β}{K:Λ AV->Prop}(B:g=l.length)(h:(Tt l off len z).bind m=some r)(k:∀o:Λ α,Tt l off len z=some o->m o=some r->K (o.map f)):Ar5 xs g off len c K:=by subst j;subst B;subst i;refine Df h λx d h=>?_;have b:=d;unfold Tt at d;split at d;rename_i I;cases d;exact .mk _ ψ (by simpa using I) (by rw[<-map_replicate,A6t]) (k _ b h);cases d
theorem Ata{o:Λ α}{k:Nat}{z:α}(d:k=l.length)(h:Tt l off n z=some o):k=o.length:=by unfold Tt at h;split at h;cases h;rw[Aao ω];simp;omega;cases h
theorem A6v{f:α->AV}(c:xs=l.map f){len:Nat}{m:Λ α->Ο β}{K:Λ AV->Prop}(B:b=l.length)(h:(Agt l len).bind m=some r)(k:∀o:Λ α,m o=some r->K (o.map f)):Iq b xs (Alt len b (Alu xs len K)):=by subst c;subst B;refine Df h λx d h=>?_;unfold Agt at d;split at d;rename_i I;cases d;exact .mk ψ (.mk I (.mk _ (by rw[map_take]) (k _ h)));cases d
theorem Atb{f:α->AV}(c:ys=l.map f)(B:b=l.length){m:Nat->Ο β}{g:Prop}(h:(Ya n hi).bind m=some r)(k:∀v:Nat,m v=some r->K 0 v):Af3 b ys n 0 hi K g:=by subst c;refine Df h λx d h=>?_;unfold Ya at d;split at d;rename_i I;cases d;exact .mk 0 hi.toNat (by rw[B];simp) ω ω ω ω ω (k _ h);cases d
theorem A6w{f:α->AV}(i:ys=l.map f)(B:b=l.length){m:(Nat×Nat)⊕Unit->Ο β}{c:Prop}(h:(Vy n lo hi).bind m=some r)(k:∀v:Nat×Nat,m (.inl v)=some r->K v.1 v.2)(g:m (.inr ())=some r->c):Af3 b ys n lo hi K c:=by subst i;refine Df h λx d h=>?_;unfold Vy at d;split at d;rename_i I;split at d;cases d;exact .mk lo.toNat hi.toNat (by rw[B];simp) ω ω ω ω ω (k _ h);cases d;exact .mkE lo.toNat (by rw[B];simp) ω ω ω (g h);cases d
variable{p:AV}{q:FloatKind}{hi j lo:Int}{xs ys:Λ AV}{K:Λ AV->Prop}{a b i n:Nat}{α:Type}{l:Λ α}{g:Λ α->Λ AV}{m:Λ α->Ο β}{x:α}
theorem Atc{op:BinOp}{m:Nat->Ο β}{K:Nat->Prop}(h:(floatBits op q a b).bind m=some r)(k:∀c,m c=some r->K c):Af7 op q a b K:=Df h λx d h=>.mk x d (k x h)
theorem Atd{z:IntKind}{m:Int->Ο β}{K:Int->Prop}(h:(floatToIntVal q a z).bind m=some r)(k:∀c,m c=some r->K c):Af8 q a z K:=Df h λx d h=>.mk x d (k x h)
theorem A6x{f:α->AV}(c:ys=l.map f){K:AV->Prop}(d:b=l.length)(hi:i=n)(B:l[n]?=some x)(k:K (f x)):Oa b i ys K:=by subst c;subst hi;exact .mk (f x) (by rw[d];simp) (by simp[B]) k
theorem Oi{f:α->AV}(b:ys=l.map f)(hp:p=f x)(hi:i=n)(d:j=(n:Int))(k:K ((Cn l j x).map f)):X3 ys i p K:=by subst b;subst hi;subst hp;subst d;exact .mk _ (by simp[Cn,map_set]) k
theorem Yb{f:α->AV}(hg:∀l,g l=l.map f)(b:ys=l.map f)(hp:p=f x)(hi:i=n)(d:j=(n:Int))(k:K (g (Cn l j x))):X3 ys i p K:=Oi b hp hi d (by rw[<-hg];exact k)
theorem Jo{k:Nat}(h:k=l.length)(j:Int)(x:α):k=(Cn l j x).length:=by simp[Cn,h]
theorem Amg{f:α->AV}(c:ys=l.map f)(h:(En l lo hi).bind m=some r)(k:∀b:Λ α,m b=some r->K (b.map f)):Pe ys lo hi K:=by subst c;refine Df h λx d h=>?_;unfold En at d;split at d;rename_i B;cases d;exact .mk lo.toNat hi.toNat _ ω ω ω ζ (by rw[<-map_take,<-map_drop]) (k _ h);cases d
theorem Ate{f:α->AV}(c:ys=l.map f)(h:(En l lo l.length).bind m=some r)(k:∀b:Λ α,m b=some r->K (b.map f)):Pe ys lo ys.length K:=by(have e:((ys.length:Nat):Int)=(l.length:Int):=by rw[c];simp);rw[e];exact Amg c h k
theorem A6y{f:α->AV}(hg:∀l,g l=l.map f)(c:ys=l.map f)(h:(En l lo hi).bind m=some r)(k:∀b:Λ α,m b=some r->K (g b)):Pe ys lo hi K:=Amg c h λb h=>by rw[<-hg];exact k b h
theorem A6z{f:α->AV}(hg:∀l,g l=l.map f)(c:ys=l.map f)(h:(En l lo l.length).bind m=some r)(k:∀b:Λ α,m b=some r->K (g b)):Pe ys lo ys.length K:=Ate c h λb h=>by rw[<-hg];exact k b h
theorem V1{ys:Λ α}{f:α->AV}{c:Λ AV}(q:xs=l.map f)(i:c=ys.map f){g len:Nat}{K:Λ AV->Nat->Prop}{s:Λ AV->Nat->Nat->Prop}(B:g=l.length)(j:len=l.length)(h:(Bw b l ys).bind m=some r)(k:∀o:Λ α,m o=some r->K (o.map f) o.length):Pf xs c g len b K s:=by subst q;subst i;subst B;subst j;refine Df h λx d h=>?_;unfold Bw at d;split at d;rename_i I;cases d;exact .mk _ _ ψ rfl (by simpa using I) ψ ψ (k _ h);cases d
theorem Atf{ys:Λ α}{f:α->AV}{j:Λ AV}{q len s c:Nat}{K:Λ AV->Nat->Prop}(h:(Bw b l ys).bind m=some r)(k:∀o:Λ α,m o=some r->K (o.map f) o.length)(z:xs=l.map f)(u:j=ys.map f)(B:q=l.length)(y:len=l.length)(i:s=ys.length)(g:c=ys.length):Ar4 xs j q len s 0 c b K:=by subst z;subst u;subst B;subst y;subst i;subst g;refine Df h λx d h=>?_;unfold Bw at d;split at d;rename_i I;cases d;exact .mk _ _ ψ rfl ψ ω (by simpa using I) (by rw[drop_zero,take_of_length_le ψ,map_append]) ψ (k _ h);cases d
variable{g:AV}{xs ys:Λ AV}{K:Λ AV->Nat->Prop}{b:Nat}{α:Type}{l:Λ α}{m:Λ α->Ο β}
theorem A60{l:Λ Int}{s:Β}(i:xs=l.map λn=>.val (.int .u8 n)){c len:Nat}{m:Λ Int->Ο β}{j:Λ AV->Nat->Nat->Prop}(d:c=l.length)(g:len=l.length)(h:(Bw b l (Pg s)).bind m=some r)(k:∀o:Λ Int,m o=some r->K (o.map λn=>.val (.int .u8 n)) o.length):Pf xs (Lm s) c len b K j:=by refine V1 (f:=λn=>.val (.int .u8 n)) i ?_ d g h k;simp[Lm,Pg]
theorem Atg{ys:Λ α}{f:α->AV}{c:Λ AV}(g:c=ys.map f)(h:(Bw b [] ys).bind m=some r)(k:∀o:Λ α,m o=some r->K (o.map f) o.length):Vq c b K:=by subst g;refine Df h λx d h=>?_;unfold Bw at d;split at d;rename_i B;cases d;exact .mk _ _ (by simpa using B) ψ ψ (k _ h);cases d
theorem A61{g:Λ α->Λ AV}{f:α->AV}(hg:∀l,g l=l.map f){ys:Λ α}{c:Λ AV}(s:xs=l.map f)(j:c=ys.map f){i len:Nat}{u:Λ AV->Nat->Nat->Prop}(d:i=l.length)(q:len=l.length)(h:(Bw b l ys).bind m=some r)(k:∀o:Λ α,m o=some r->K (g o) o.length):Pf xs c i len b K u:=V1 s j d q h λo h=>by rw[<-hg];exact k o h
theorem Ath{g:Λ α->Λ AV}{f:α->AV}(hg:∀l,g l=l.map f){ys:Λ α}{c:Λ AV}(i:c=ys.map f)(h:(Bw b [] ys).bind m=some r)(k:∀o:Λ α,m o=some r->K (g o) o.length):Vq c b K:=Atg i h λo h=>by rw[<-hg];exact k o h
theorem A62{z:α}{f:α->AV}(i:g=f z){len c:Int}{K:Nat->Λ AV->Prop}(h:(G1 b len c z).bind m=some r)(k:∀o:Λ α,m o=some r->K o.length (o.map f)):Vp len c b g K:=by subst i;refine Df h λx d h=>?_;unfold G1 at d;split at d;rename_i B;cases d;exact .mk _ c.toNat _ ζ ω ζ B.2.2.1 ω ψ (k _ h);cases d
theorem Tu{z:α}{f:α->AV}(i:G9 g.cells (f z).cells){len c:Int}{K:Nat->Λ AV->Prop}(h:(G1 b len c z).bind m=some r)(k:∀o:Λ α,m o=some r->K o.length (o.map f)):Vp len c b g K:=by refine Df h λx d h=>?_;unfold G1 at d;split at d;rename_i B;cases d;exact .mkN (f z) i _ c.toNat _ ζ ω ζ B.2.2.1 ω ψ (k _ h);cases d
theorem A63{f:α->AV}(b:ys=l.map f){K:Int->Prop}(k:K (l.length:Int)):N9 ys K:=by subst b;exact .mk _ ψ k
theorem A64{f:α->AV}(c:ys=l.map f)(d:b=l.length){K:Prop}(k:K):Iq b ys K:=by subst c;exact .mk (by rw[d];simp) k
def Fk(l:Λ (Β×α))(s:Β):Bool:=l.any λp=>s==p.1
def Ir(l:Λ (Β×α))(s:Β)(z:α):α:=((l.find? λp=>s==p.1).map (·.2)).getD z
def G5{α:Type}:Λ (Β×α)->Β->α->Λ (Β×α)
 |[],s,v=>[(s,v)]
 |p::l,s,v=>bif s==p.1 then(s,v)::l else p::G5 l s v
def Bm(f:α->AV)(l:Λ (Β×α)):Λ (AV×AV):=l.map λp=>(.val (.string p.1),f p.2)
variable{s:Β}{m:Β->Ο β}{a b:Int}{K:Int->Prop}{k:IntKind}{es:Λ (AV×AV)}{α:Type}{l:Λ (Β×α)}
theorem Amh{α:Type}(f:α->AV)(s:Β)(z:α):∀(l:Λ (Β×α))(i:Nat), (Fk l s=false/\Ln s (Bm f l) i=some none)\/(Fk l s=true/\∃j,Ln s (Bm f l) i=some (some (i+j,f (Ir l s z)))/\∀v,Bm f (G5 l s v)=(Bm f l).set j (.val (.string s),f v))
 |[],i=>.inl ⟨rfl,rfl⟩
 |p::l,i=>by cases hp:s==p.1 with|true=>refine .inr ⟨by simp[Fk,hp],0,?_,λv=>?_⟩;simp[Bm,Ln,Ir,hp];simp[Bm,G5,hp]|false=>(rcases Amh f s z l (i+1)with⟨d,B⟩|⟨d,j,B,I⟩);refine .inl ⟨by simp only[Fk,any_cons,hp,Bool.false_or];exact d,?_⟩;have:Ln s (Bm f (p::l)) i=Ln s (Bm f l) (i+1):=(by simp[Bm,Ln,hp]);rw[this,B];refine .inr ⟨by simp only[Fk,any_cons,hp,Bool.false_or];exact d,j+1,?_,λv=>?_⟩;have:Ln s (Bm f (p::l)) i=Ln s (Bm f l) (i+1):=(by simp[Bm,Ln,hp]);have b:Ir (p::l) s z=Ir l s z:=(by simp[Ir,hp]);rw[this,B,b];congr 3;omega;have c:Bm f (G5 (p::l) s v)=(.val (.string p.1),f p.2)::Bm f (G5 l s v):=(by simp[Bm,G5,hp]);rw[c,I v];rfl
theorem Ati{α:Type}(f:α->AV){s:Β}{v:α}:∀{l:Λ (Β×α)},Fk l s=false->Bm f (G5 l s v)=Bm f l++[(.val (.string s),f v)]
 |[],_=>rfl
 |p::l,h=>by simp only[Fk,any_cons,Bool.or_eq_false_iff]at h;have:=Ati f (v:=v) (l:=l) h.2;simp only[G5,h.1,cond_false];simp only[Bm,map_cons,cons_append]at this⊢;rw[this]
theorem Tv{f:α->AV}(i:es=Bm f l)(z:α){m b:Ο β}{K:Ο (Nat×AV)->Prop}(h:(bif Fk l s then m else b)=some r)(g:∀j,Fk l s=true->m=some r->K (some (j,f (Ir l s z))))(c:Fk l s=false->b=some r->K none):Ar7 s es K:=by subst i;(rcases Amh f s z l 0 with⟨d,B⟩|⟨d,j,B,_⟩);rw[d]at h;exact .mk _ B (c d h);rw[d]at h;exact .mk _ B (g _ d h)
theorem R2{f:α->AV}(b:es=Bm f l){x:α}{v:AV}(I:v=f x){K:Λ (AV×AV)->Prop}(k:K (Bm f (G5 l s x))):Ar8 s v es K:=by subst b;subst I;refine .mk _ ?_ k;unfold Afu;(rcases Amh f s x l 0 with⟨B,d⟩|⟨B,j,d,J⟩);rw[d,Ati f B];rw[d,J x];simp
theorem Aa2{m:Int->Ο β}(h:(I5 k a b).bind m=some r)(f:∀c:Int,m c=some r->K c):Afy k a b K:=by refine Df h λx d h=>?_;unfold I5 at d;split at d;cases d;rename_i B;cases d;exact .mk _ B rfl (f _ h)
theorem Agv{m:Int->Ο β}(h:(Jv a b).bind m=some r)(f:∀c:Int,m c=some r->K c):Afz a b K:=by refine Df h λx d h=>?_;unfold Jv at d;split at d;cases d;rename_i B;cases d;exact .mk _ B rfl (f _ h)
theorem Atj{m:Int->Ο β}(h:(As6 k a b).bind m=some r)(f:∀c:Int,m c=some r->K c):Af1 k a b K:=by refine Df h λx d h=>?_;unfold As6 at d;split at d;rename_i B;cases d;exact .mk _ B rfl (f _ h);cases d
theorem Atl{m:Int->Ο β}(h:(Aa1 k a b).bind m=some r)(f:∀c:Int,m c=some r->K c):Af0 k a b K:=by refine Df h λx d h=>?_;unfold Aa1 at d;split at d;rename_i B;cases d;exact .mk _ B rfl (f _ h);cases d
theorem Aa3{i:Int}{m:UInt8->Ο β}{K:UInt8->Prop}(h:(Lp s i).bind m=some r)(b:∀c:UInt8,m c=some r->K c):Af4 s i K:=by refine Df h λx d h=>?_;unfold Lp at d;split at d;exact .mk i.toNat x ω d (b _ h);cases d
theorem Atm{l:Λ Int}{K:Β->Prop}(h:(Vz l).bind m=some r)(b:∀c:Β,m c=some r->K c):Af5 (l.map λn=>.val (.int .u8 n)) K:=by refine Df h λx d h=>?_;unfold Vz at d;split at d;rename_i B;cases d;refine .mk (Fj l) ?_ (b _ h);unfold Fj;rw[map_map];refine map_congr_left λn f=>?_;have:=B n f;show AV.val (.int .u8 n)=.val (.int .u8 ((UInt8.ofNat n.toNat).toNat:Nat));rw[UInt8.toNat_ofNat',Nat.mod_eq_of_lt ω,Int.toNat_of_nonneg ω];cases d
theorem Jp{a b:Β}{K:Prop}(h:(Hg a b).bind m=some r)(k:m (a++b)=some r->K):Af6 (a.size+b.size) K:=by refine Df h λx d h=>?_;unfold Hg at d;split at d;rename_i B;cases d;exact .mk B (k h);cases d
theorem Ami{lo hi:Int}{K:Nat->Nat->Prop}(h:(H7 s lo hi).bind m=some r)(k:∀l h',lo=((l:Nat):Int)->hi=((h':Nat):Int)->m (s.extract l h')=some r->K l h'):Af2 s.size lo hi K:=by refine Df h λx d h=>?_;unfold H7 at d;split at d;rename_i B;cases d;exact .mk lo.toNat hi.toNat ω ω ω ω (k _ _ ω ω h);cases d
end
def Amj(X:Nat->Cm->Hp->Prop)(U:Nat->Nat->Cm->Hp->Prop)(V:Nat->Cm->Hp->Prop)(x:Ex)(n:Nat)(e:Cm)(H:Hp):Prop:=match x with|.normal=>X n e H|.exit i=>U i n e H|.ret=>V n e H
def wc(P:Program)(C:Cfg)(c:Code)(X:Nat->Cm->Hp->Prop)(U:Nat->Nat->Cm->Hp->Prop)(V:Nat->Cm->Hp->Prop)(n:Nat)(e:Cm)(H:Hp):Prop:=Dk P C.T->P.follows .mixedOrders=true->∀(F:Aw)(W:World)(σ:Aw)(ι:B6)(a:Act)(w:World)(Q:Exit->Act->World->Prop), Oh a.tmps.size c=true->St σ ι H F W w->Gi σ ι H e a->Hf H n->(∀x h B d f g b w',Amj X U V x h B d->Le σ ι H f g d->St f g d F W w'->Gi f g d B b->Hf d h->n<=h->b.tmps.size=a.tmps.size->b.defers=a.defers->Ha (H6 c) a b->Q x.out b w')->c.wp P Q a w
section
variable{P:Program}{C:Cfg}{X:Nat->Cm->Hp->Prop}{U:Nat->Nat->Cm->Hp->Prop}{V:Nat->Cm->Hp->Prop}{n:Nat}{e:Cm}{H:Hp}{β:Type}{r:β}
variable{a:Act}{σ:Aw}{ι:B6}{t:Bool}{b c1 c2:Code}{fn:Func}{os:Λ Oper}{id:Nat}{x:Operand}{S:Type}
theorem Nh(k:X n e H):wc P C .skip X U V n e H:=λ_ _ _ _ σ ι a w _ _ s c b d=>wp_skip (d .normal n e H σ ι a w k (Le.refl _ _ _) s c b (Nat.le_refl _) rfl rfl (Ha.refl _ _))
theorem Amk(k:V n e H):wc P C .ret X U V n e H:=λ_ _ _ _ σ ι a w _ _ s c b d=>wp_ret (d .ret n e H σ ι a w k (Le.refl _ _ _) s c b (Nat.le_refl _) rfl rfl (Ha.refl _ _))
theorem I6(k:U id n e H):wc P C (.exit id) X U V n e H:=λ_ _ _ _ σ ι a w _ _ s c b d=>wp_exit (d (.exit id) n e H σ ι a w k (Le.refl _ _ _) s c b (Nat.le_refl _) rfl rfl (Ha.refl _ _))
theorem Atn{ops:Array Oper}{b:Bool}(h:Gz (Gn P C.T C.an C.nl ops ops.toList n e H [] λn e H acc=>bif b then Qi ops.toList acc (X n e H)else X n e H)):wc P C (.region id ops b) X U V n e H:=by intro a0 hm F W σ ι a w Q E s S M hk;have q:=Le.refl σ ι H;have s0:=s;have z:=S;have N:=M;obtain⟨L,e',H',accs,l,_,d,x,hf,c⟩:=Amc a0 ops.toList 0 n e H [] _ ψ rfl M h.1;have u:=A6h E;cases b with|false=>simp only[cond_false]at l;refine wp_region ?_;have:range ops.size=range' 0 ops.toList.length:=(by rw[range_eq_range'];simp);rw[this];refine c.wpOps s0 z u ?_;intro B D J w' le s' g f j hu;exact hk .normal L e' H' B D J w' l (q.trans le) s' g hf x f j hu|true=>simp only[cond_true]at l;obtain⟨G,l⟩:=l;refine wp_region_any hm ?_;have A:ops=ops.toList.toArray:=ψ;rw[A];simp only[size_toArray];refine Ar3 (accs:=accs) (e':=e') (H':=H') G ops.toList.length _ (range' 0 ops.toList.length) e H σ ι a _ (by rw[<-A];exact c) (pairwise_lt_range' ..) ?_ ψ ?_ ψ (s0.drew _) z (by rw[<-A];exact u) ?_;intro i;simp only[mem_range'_1,Array.getD_eq_getD_getElem?];constructor;rintro⟨_,h2⟩;refine⟨ω,?_⟩;have:i<ops.size:=(by simpa using h2);simp[this];rintro⟨h1,_⟩;omega;intro k o R I;exfalso;simp only[Array.getD_eq_getD_getElem?]at I;by_cases y:k<ops.size;simp[y]at I;simp[y]at I;intro B D J w' le s' g f j hu;exact hk .normal L e' H' B D J w' l (q.trans le) s' g hf x f j (by rw[<-A]at hu;exact hu)
theorem Aml(k:Gz (Gn P C.T C.an C.nl os.toArray os n e H [] λn e H acc=>Qi os acc (X n e H))):wc P C (.region id os.toArray true) X U V n e H:=Atn k
theorem Hr(k:Gz (Gn P C.T C.an C.nl os.toArray os n e H [] λn e H _=>X n e H)):wc P C (.region id os.toArray false) X U V n e H:=Atn k
theorem Ez{c:Code}(z:Λ Gh)(k:gxs z n e H λn e H=>Gz (wc P C c X U V n e H)):wc P C c X U V n e H:=by intro R hm F W σ ι a w Q h s N L hk;obtain⟨A,D,a0,a1,d,J,b,G,l,i,M⟩:=R0 z k s N L;exact J.1 R hm F W A D a w Q h G l i λx I e' H' B E S w' hq f s' q j y g u hu=>hk x I e' H' B E S w' hq (b.trans f) s' q j ω g u hu
theorem Bb(k:wc P C c1 (λn e H=>wc P C c2 X U V n e H) U V n e H):wc P C (.seq c1 c2) X U V n e H:=by intro N hm F W σ ι a w Q f s he hn hk;simp only[Oh,F8]at f;refine wp_seq (k N hm F W σ ι a w _ f.1 s he hn ?_);intro x L R S y z a1 A hq c B i g q b j hu;cases x with|normal=>refine hq N hm F W y z a1 A Q (by rw[b];exact f.2) B i g ?_;intro x Z e2 H2 a0 a3 a2 d G D Y J I M l u E;exact hk x Z e2 H2 a0 a3 a2 d G (c.trans D) Y J I ω (l.trans b) (u.trans j) ((hu.mono (by simp[H6];exactλs h=>.inl h)).trans (E.mono (by simp[H6];exactλs h=>.inr h)))|exit id=>exact hk (.exit id) L R S y z a1 A hq c B i g q b j (hu.mono (by simp[H6];exactλs h=>.inl h))|ret=>exact hk .ret L R S y z a1 A hq c B i g q b j (hu.mono (by simp[H6];exactλs h=>.inl h))
theorem Amm{l:Nat}(k:X n e H):wc P C (.label l) X U V n e H:=by intro g B F W σ ι a w Q b s f c d;exact wp_label (d .normal n e H σ ι a w k (Le.refl _ _ _) s f c (Nat.le_refl _) rfl rfl (Ha.refl _ _))
theorem Amn{c:Code}(k:wc P C c X U V n e H):wc P C (.scope c) X U V n e H:=by intro E d F W σ ι a w Q g s D B J;refine wp_scope_straight (k E d F W σ ι a w _ g s D B ?_);intro x A G I q u L y M b z j h i f l N;have:=J x A G I q u L y M b z j h i f l N;cases x<;>exact this
theorem Oj{c:Code}(k:wc P C c X (λi n e H=>bif Nat.beq i id then X n e H else U i n e H) V n e H):wc P C (.block id c) X U V n e H:=by intro J R F W σ ι a w Q E s I G L;refine wp_block (k J R F W σ ι a w _ E s I G ?_);intro x A B D q u M y d b z j g h f l N;cases x with|normal=>exact L .normal A B D q u M y d b z j g h f l N|exit i=>simp only[Ex.out,Exit.inBlock];by_cases hi:i=id;subst hi;rw[if_pos rfl];have:Nat.beq i i=true:=Nat.beq_refl i;simp only[Amj,this,cond_true]at d;exact L .normal A B D q u M y d b z j g h f l N;rw[if_neg hi];(have:Nat.beq i id=false:=by cases hb:Nat.beq i id;rfl;exact(hi (Gk hb)).elim);simp only[Amj,this,cond_false]at d;exact L (.exit i) A B D q u M y d b z j g h f l N|ret=>exact L .ret A B D q u M y d b z j g h f l N
theorem Ato(b:Asq a.tmps.size x=true)(c:Gi σ ι H e a)(I:ev e x=.val (.bool t)):a.eval x=.bool t:=by have d:=c.eval (x:=x) (λt B=>by cases x with|tmp q=>cases B;exact Iz b|_=>cases B);rw[I]at d;exact d.val_inv
theorem Agw(k:wc P C c1 X U V n e H)(d:ev e x=.val (.bool true):=by exact rfl):wc P C (.cond x c1 c2) X U V n e H:=by intro E J F W σ ι a w Q b s q D L;simp only[Oh,F8]at b;refine wp_cond_true (Ato b.1.1 q d) (k E J F W σ ι a w Q b.1.2 s q D ?_);intro x B G I u y M z N c A j g i f l R;exact L x B G I u y M z N c A j g i f l (R.mono (by simp[H6];exactλs h=>.inl h))
theorem Agx(k:wc P C c2 X U V n e H)(d:ev e x=.val (.bool false):=by exact rfl):wc P C (.cond x c1 c2) X U V n e H:=by intro E J F W σ ι a w Q b s q D L;simp only[Oh,F8]at b;refine wp_cond_false (Ato b.1.1 q d) (k E J F W σ ι a w Q b.2 s q D ?_);intro x B G I u y M z N c A j g i f l R;exact L x B G I u y M z N c A j g i f l (R.mono (by simp[H6];exactλs h=>.inr h))
theorem Fb{c:Operand}{a:Code}{m f:Ο β}(h:(bif t then m else f)=some r)(B:t=true->m=some r->wc P C a X U V n e H)(I:t=false->f=some r->wc P C b X U V n e H)(d:ev e c=.val (.bool t):=by exact rfl):wc P C (.cond c a b) X U V n e H:=by cases t with|true=>exact Agw (B rfl h) d|false=>exact Agx (I rfl h) d
theorem Atp{X:Λ Nat}{l:Λ (Nat×AV)}{h:Λ (Nat×Bs)}{F z:Aw}{W w Y:World}{I:B6}{a1:Act}{G:Hp}{e1:Cm}(hb:L8 n l h=true)(hn:Hf H n)(s:St σ ι H F W w)(he:Gi σ ι H e a)(M:H5 e1 l)(R:Ie G (C4 H h) n n)(L:Le σ ι H z I G)(i:St z I G F W Y)(a8:Gi z I G e1 a1)(aa:a1.tmps.size=a.tmps.size)(a7:Ha X a a1):∃A,Le σ ι H z A (C4 H h)/\St z A (C4 H h) F W Y/\Gi z A (C4 H h) (Lo X e (λs=>a1.tmps.getD s undef) l) a1/\Hf (C4 H h) n:=by(have Z:∀x,n<=x->ι x=.none:=by intro x d;have:=s.obj x;unfold Cz at this;rw[hn x d]at this;exact this);(have D:∀p∈h,p.1<n:=by intro p hp;unfold L8 at hb;rw[F8,E7,E7]at hb;exact Iz (hb.2 p hp));(have N:∀p∈l,p.2.under n=true:=by intro p hp;unfold L8 at hb;rw[F8,E7,E7]at hb;exact hb.1 p hp);(have u:Hf (C4 H h) n:=by intro x d;rw[X1 (λp hp e=>by have:=D p hp;omega)];exact hn x d);let A:B6:=λx=>if x<n then I x else .none;have c:∀x,x<n->A x=I x:=λx d=>if_pos d;have f:∀x,x<n->C4 H h x=G x:=λx d=>((R.spec) x d).1.symm;(have J:Le σ ι H z A (C4 H h):=by refine⟨L.sto,λx=>?_⟩;by_cases d:x<n;rw[c x d,f x d];exact L.obj x;rw[Z x ω,hn x ω];exact HLe.of_none);(have s2:St z A (C4 H h) F W Y:=by refine⟨i.sto,i.fra,λx=>?_,?_,i.os,i.tape,i.output,i.glo,i.drw⟩;by_cases d:x<n;have k:=i.obj x;have B:=((R.spec) x d).2;unfold Cz at k⊢;rw[f x d]at B⊢;rw[c x d];(cases j:G x with|none=>rw[j]at k;exact k|dead=>trivial|cells E cs=>rw[j]at k B;obtain⟨b,Cc,g1,g2,g3,g4,g5,g6⟩:=k;refine⟨b,Cc,g1,g2,g3,g4,g5,λq cq v hq a6=>(g6 q cq v hq a6).restrict c f ?_⟩;have:=E7.1 B cq (Ev hq);exact Alz this|rows E sz xs=>rw[j]at k;exact k|map es=>rw[j]at k;exact k);unfold Cz;rw[u x ω];exact if_neg d;intro x y b V U bx S;(have d:x<n:=by rcases Nat.lt_or_ge x n with d|d;exact d;rw[u x d]at V;cases V);(have hy:y<n:=by rcases Nat.lt_or_ge y n with hy|hy;exact hy;rw[u y hy]at U;cases U);rw[f x d]at V;rw[f y hy]at U;rw[c x d]at bx;rw[c y hy]at S;exact i.inj x y b V U bx S);refine⟨A,J,s2,?_,u⟩;intro q hq;(rcases Al7 X e (λs=>a1.tmps.getD s undef) l q with⟨p,hp,rfl,g⟩|⟨hw,g⟩|⟨hw,g⟩);rw[g,<-M.spec p hp];refine(a8 p.1 hq).restrict c f ?_;rw[M.spec p hp];exact N p hp;rw[g];exact .of_val _;rw[g,a7 q hw];exact(he q ω).mono J
theorem Atq{E:Type}{step:S->Ο (S⊕E)}{s0:S}{J:E->Ο β}(h:(Ak step s0).bind J=some r)(I:S->Λ (Nat×AV))(hv:S->Λ (Nat×Bs))(j:S->Prop)(hb:∀s,L8 n (I s) (hv s)=true)(hs:H5 e (I s0))(hh:Ie H (C4 H (hv s0)) n n)(h0:j s0)(a8:∀(s:S)(u:Nat->Value)(K:Nat->Cm->Hp->Prop)(o:S⊕E),step s=some o->(∀x,.inr x=o->J x=some r)->(∀s' n' e' H',.inl s'=o->H5 e' (I s')->Ie H' (C4 H (hv s')) n n->j s'->K n' e' H')->j s->wc P C b K U V n (Lo (H6 b) e u (I s)) (C4 H (hv s))):wc P C (.loop b) X U V n e H:=by intro hT hm F W σ ι a w Q aa s he hn hk;refine Df h λx hx h=>?_;obtain⟨N,hN⟩:=Ags hx;let J':Nat->Act->World->Prop:=λk a' w'=>∃i σ' ι',(Ju step k i=some x/\j i)/\Le σ ι H σ' ι' (C4 H (hv i))/\St σ' ι' (C4 H (hv i)) F W w'/\Gi σ' ι' (C4 H (hv i)) (Lo (H6 b) e (λs=>a'.tmps.getD s undef) (I i)) a'/\a'.tmps.size=a.tmps.size/\a'.defers=a.defers/\Ha (H6 b) a a';(have g:∀(k:Nat)(i:S)(D:Aw)(d:B6)(H1:Hp)(e1:Cm)(a1:Act)(Z:World),(Ju step k i=some x/\j i)->H5 e1 (I i)->Ie H1 (C4 H (hv i)) n n->Le σ ι H D d H1->St D d H1 F W Z->Gi D d H1 e1 a1->a1.tmps.size=a.tmps.size->a1.defers=a.defers->Ha (H6 b) a a1->J' k a1 Z:=by intro k i D d H1 e1 a1 Z hi ab ad q s1 a0 c f l;obtain⟨Y,g1,g2,g3,_⟩:=Atp (hb i) hn s he ab ad q s1 a0 c l;exact⟨i,D,Y,hi,g1,g2,g3,c,f,l⟩);refine Ass J' N (g N s0 σ ι H e a w ⟨hN,h0⟩ hs hh (Le.refl _ _ _) s he rfl rfl (Ha.refl _ _)) ?_;rintro k a1 Z ⟨i,D,d,⟨hi,a7⟩,q,s1,a0,c,f,l⟩;(have af:Hf (C4 H (hv i)) n:=by intro y hy;have a3:=hb i;unfold L8 at a3;rw[F8,E7,E7]at a3;rw[X1 (λp hp e=>by have:=Iz (a3.2 p hp);omega)];exact hn y hy);cases k with|zero=>cases hi|succ k=>simp only[Ju]at hi;cases ho:step i with|none=>rw[ho]at hi;cases hi|some o=>rw[ho]at hi;refine a8 i (λs=>a1.tmps.getD s undef) (λ_ e' H'=>∃s',(Ju step k s'=some x/\j s')/\H5 e' (I s')/\Ie H' (C4 H (hv s')) n n) o ho ?_ ?_ a7 hT hm F W D d a1 Z _ (by rw[c];exact aa) s1 a0 af ?_;intro y hy;subst hy;simp only[Option.some.injEq]at hi;rw[hi];exact h;intro s' n' e' H' M h1 h2 h3;subst M;exact⟨s',⟨hi,h3⟩,h1,h2⟩;intro x n2 e2 H2 σ2 Y a2 w2 hq G s2 R a6 B z A L;cases x with|normal=>obtain⟨i',ac,M,ae⟩:=hq;exact⟨k,ω,g k i' σ2 Y H2 e2 a2 w2 ac M ae (q.trans G) s2 R (z.trans c) (A.trans f) (l.trans L)⟩|exit id=>exact hk (.exit id) n2 e2 H2 σ2 Y a2 w2 hq (q.trans G) s2 R a6 B (z.trans c) (A.trans f) (l.trans L)|ret=>exact hk .ret n2 e2 H2 σ2 Y a2 w2 hq (q.trans G) s2 R a6 B (z.trans c) (A.trans f) (l.trans L)
theorem Tw{c:Code}(J:S->Prop)(l:S->Λ (Nat×AV))(hv:S->Λ (Nat×Bs))(hb:∀s,L8 n (l s) (hv s)=true)(d:∀(K:Nat->Cm->Hp->Prop),(∀s a0 e' H',J s->H5 e' (l s)->Ie H' (C4 H (hv s)) n n->K a0 e' H')->wc P C c K U V n e H)(a2:∀(s:S)(u:Nat->Value),J s->X n (Lo (H6 c) e u (l s)) (C4 H (hv s))):wc P C c X U V n e H:=by intro Y hm F W σ ι a w Q A s L I hk;refine d (λ_ e' H'=>∃s,J s/\H5 e' (l s)/\Ie H' (C4 H (hv s)) n n) (λs _ _ _ h1 h2 h3=>⟨s,h1,h2,h3⟩) Y hm F W σ ι a w _ A s L I ?_;intro x G M N q E a1 y hq f z g j k b h hu;cases x with|normal=>obtain⟨i,hi,B,D⟩:=hq;obtain⟨R,g1,g2,g3,g4⟩:=Atp (hb i) I s L B D f z g b hu;exact hk .normal n _ _ q R a1 y (a2 i (λs=>a1.tmps.getD s undef) hi) g1 g2 g3 g4 (Nat.le_refl _) b h hu|exit id=>exact hk (.exit id) G M N q E a1 y hq f z g j k b h hu|ret=>exact hk .ret G M N q E a1 y hq f z g j k b h hu
theorem A65(D:Dk P C.T)(hm:P.follows .mixedOrders=true){f:FuncId}{c:Code}{args:Λ AV}{r:AV}(V:P.funcs[f]?=some fn)(hb:fn.body=some c)(g:(fn.name == "runtime.NumGoroutine")=false)(b:X8 fn c args.length=true)(h:r.free=true)(hv:wc P C c (λ_ e H=>Vt C.T fn.results.toList (· = r) e H) (λ_ _ _ _=>False) (λ_ e H=>Vt C.T fn.results.toList (· = r) e H) 0 (X7 args) H0):Ba P f args r:=by unfold X8 at b;simp only[F8]at b;obtain⟨⟨u,y⟩,E⟩:=b;have E:=G8 E;refine⟨⟨fn,V,g,by rw[hb];rfl⟩,λσ F W w X s hc=>?_⟩;(have j:(X++Array.replicate (fn.ntmps-X.size) undef).size=fn.ntmps:=by have:=hc.1;simp;omega);refine calls_of_wp V hb (hv D hm F W σ ι0 _ w _ (by rw[j];exact u) s (Asy hc) (λ_ _=>rfl) ?_);intro x N e' H' J L B w' d le s' z _ _ i A _;(have k:∀q∈fn.results.toList,Vu q<B.tmps.size:=by intro q U;rw[i];have:=Iz (E7.1 y q U);rw[j];exact this);(have fin:Vt C.T fn.results.toList (· = r) e' H'->B.defers=[]/\∃v,(results fn B.tmps).run P w'=.ok v w'/\∃v0 l,Ending.returned v=.returned v0/\σ.le l/\St l ι0 H0 F W w'/\Conc l ι0 H0 r v0:=by intro d;obtain⟨v,G,R,M,h1,h2,h3,h4,I⟩:=A6j D s' z k d;subst h2;exact⟨A,v,h1,v,G,rfl,Aw.le_trans le.sto h3.sto,h4.forget,I.to0 h⟩);cases x with|normal=>exact fin d|ret=>exact fin d|exit id=>exact d.elim
theorem A66(fz:Bool)(V:Dk P C.T)(hm:P.follows .mixedOrders=true){f:FuncId}{c:Code}{args:Λ AV}{r:AV}{B b:Λ Bs}(hf:P.funcs[f]?=some fn)(hb:fn.body=some c)(l:(fn.name == "runtime.NumGoroutine")=false)(j:X8 fn c args.length=true)(g:Al9 B r b=true)(hv:wc P C c (λ_ e H=>Vx C.T fz fn.results.toList r b e H) (λ_ _ _ _=>False) (λ_ e H=>Vx C.T fz fn.results.toList r b e H) B.length (X7 args) (hp B)):Bn P f args B r b:=by unfold X8 at j;unfold Al9 at g;simp only[F8]at j g;obtain⟨⟨I,L⟩,X⟩:=j;obtain⟨⟨E,J⟩,N⟩:=g;have E:=G8 E;have X:=G8 X;refine⟨⟨fn,hf,l,by rw[hb];rfl⟩,λσ F W w ι vs s hc=>?_⟩;(have A:(vs++Array.replicate (fn.ntmps-vs.size) undef).size=fn.ntmps:=by have:=hc.1;simp;omega);refine calls_of_wp hf hb (hv V hm F W σ ι _ w _ (by rw[A];exact I) s (Asy hc) (λ_ h=>Qh h) ?_);intro x n' e' H' σ' Z U w' d le s' R _ _ z S _;(have D:∀q∈fn.results.toList,Vu q<U.tmps.size:=by intro q a0;rw[z];have:=Iz (E7.1 L q a0);rw[A];exact this);(have fin:Vx C.T fz fn.results.toList r b e' H'->U.defers=[]/\∃v,(results fn U.tmps).run P w'=.ok v w'/\∃v0 G ι0,Ending.returned v=.returned v0/\Le σ ι (hp B) G ι0 (hp b)/\St G ι0 (hp b) F W w'/\Conc G ι0 (hp b) r v0:=by intro d;obtain⟨v,Y,H2,h1,h2,h3,h4,h5⟩:=A6k V s' R D d;(have u:∀i,i<b.length->H2 i=hp b i:=λi hi=>by simpa using h2.spec i hi);refine⟨S,v,h1,v,Y,λk=>if k<b.length then Z k else .none,rfl,?_,h4.first b u N,?_⟩;have y:=le.trans h3;refine⟨y.sto,λk=>?_⟩;by_cases hk:k<b.length;rw[if_pos hk,<-u k hk];exact y.obj k;rw[if_neg hk,Qh ω,Qh ω];have:ι k=.none:=(by have:=s.obj k;unfold Cz at this;rw[Qh ω]at this;exact this);rw[this];exact HLe.refl _ _;exact h5.restrict (n:=b.length) (λh M=>if_pos M) (λh M=>(u h M).symm) J);cases x with|normal=>exact fin d|ret=>exact fin d|exit id=>exact d.elim
end
variable{α β:Type}{r:β}
inductive I7 where
 |c0|c1|c2|c3|c4|c5|c6
def Aa4(i:Int):Ο I7:=if i=0 then some .c0 else if i=1 then some .c1 else if i=2 then some .c2 else if i=3 then some .c3 else if i=4 then some .c4 else if i=5 then some .c5 else if i=6 then some .c6 else none
theorem Atr{i:Int}{m:I7->Ο β}{K:Nat->Prop}(h:(Aa4 i).bind m=some r)(k0:i=((0:Nat):Int)->m .c0=some r->K 0)(k:i=((1:Nat):Int)->m .c1=some r->K 1)(j:i=((2:Nat):Int)->m .c2=some r->K 2)(g:i=((3:Nat):Int)->m .c3=some r->K 3)(f:i=((4:Nat):Int)->m .c4=some r->K 4)(c:i=((5:Nat):Int)->m .c5=some r->K 5)(b:i=((6:Nat):Int)->m .c6=some r->K 6):Ry 7 i K:=by unfold Aa4 at h;split at h;rename_i e;exact .mk 0 e δ (k0 e h);split at h;rename_i e;exact .mk 1 e δ (k e h);split at h;rename_i e;exact .mk 2 e δ (j e h);split at h;rename_i e;exact .mk 3 e δ (g e h);split at h;rename_i e;exact .mk 4 e δ (f e h);split at h;rename_i e;exact .mk 5 e δ (c e h);split at h;rename_i e;exact .mk 6 e δ (b e h);cases h
noncomputable def eqG(a b:α):Ο Unit:=by classical exact if a=b then some ()else none
theorem A67(a:α):eqG a a=some ():=by unfold eqG;rw[if_pos rfl]
theorem A68{a b:α}{m:Unit->Ο β}{f:α->Λ AV}{K:Prop}(h:(eqG a b).bind m=some r)(k:m ()=some r->K):Ar6 (f a) (f b) K:=by unfold eqG at h;by_cases e:a=b;subst e;rw[if_pos rfl]at h;exact .mk rfl (k h);rw[if_neg e]at h;cases h
variable{a:Act}{P:Program}{w:World}
theorem Ats{id:Nat}:∀{k b:Λ Item},exitTo id k=some b->b.length<k.length
 |[],b,h=>by cases h
 |x::k,b,h=>by have ih:exitTo id k=some b->b.length<(x::k).length:=λh=>Nat.lt_succ_of_lt (Ats h);unfold exitTo at h;split at h;rename_i c B d;cases d;split at h;cases h;simp;exact ih h;rename_i f B _ d;cases d;exact ih h;rename_i d;cases d
theorem Amo{m f c:Machine}(h:step P m=.next f)(h':Steps P m c):c=m\/Steps P f c:=by obtain⟨n,b⟩:=h';cases n with|zero=>left;simp only[runN,Stepped.next.injEq]at b;exact b.symm|succ n=>right;simp only[runN,h]at b;exact⟨n,b⟩
theorem Att{b:Frame}{f:Act}{k c:Λ Item}{cs:Λ Frame}{w':World}(h:lone (b.at a k) cs w=lone (b.at f c) cs w'):k=c:=by simp only[lone,Machine.mk.injEq,Array.mk.injEq,List.cons.injEq,Goroutine.mk.injEq,Frame.at,Frame.mk.injEq]at h;exact h.2.1.1.1.2.2.1
def A69:Exit->Bool
 |.normal|.exit _|.ret=>true
 |_=>false
theorem A7a{Q:Exit->Act->World->Prop}{c:Code}(h:c.wp P (Exit.then (λD w'=>(Code.loop c).wp P (λe a w=>A69 e=true/\Q e a w) D w') Q) a w):(Code.loop c).wp P Q a w:=by intro b k cs;obtain⟨e,d,i,I,f⟩:=h b (.inLoop c::k) cs;(have first:Steps P (lone (b.at a (.code (.loop c)::k)) cs w) (lone (b.at a (.code c::.inLoop c::k)) cs w):=.one step_loop);cases e with|normal=>(obtain⟨u,M,y,⟨s,q⟩,g⟩:=I b k cs;have j:Steps P (lone (b.at a (.code (.loop c)::k)) cs w) (lone (b.at d (.code c::.inLoop c::k)) cs i):=first.trans (Steps.trans f (.one step_inLoop));refine⟨u,M,y,q,.of_steps j ?_⟩;cases u with|normal=>(rcases Amo step_loop g with e|e;have:=congrArg length (Att e);simp at this;exact e)|exit id=>(intro z L;rcases Amo step_loop (g z L)with e|e;have R:=Ats L;have N:=congrArg length (Att e);simp at N;omega;exact e)|ret=>(obtain⟨J,A⟩:=g;rcases Amo step_loop A with e|e;simp only[lone,Machine.mk.injEq,Array.mk.injEq,List.cons.injEq,Goroutine.mk.injEq,Frame.at,Frame.mk.injEq]at e;simp at e;exact⟨J,e⟩)|goto l=>cases s|panic B=>cases s|outgrown=>cases s)|exit id=>exact⟨_,d,i,I,.of_steps first (.pass (x:=.inLoop c) rfl (λ_ _=>.inl ψ) f)⟩|goto l=>exact⟨_,d,i,I,.of_steps first (.pass (x:=.inLoop c) rfl (λ_ _=>.inl ψ) f)⟩|ret=>exact⟨_,d,i,I,.of_steps first (.pass (x:=.inLoop c) rfl (λ_ _=>.inl ψ) f)⟩|panic B=>exact⟨_,d,i,I,.of_steps first (.pass (x:=.inLoop c) rfl (λ_ _=>.inl ψ) f)⟩|outgrown=>exact⟨_,d,i,I,.of_steps (b:=b) (k:=k) (cs:=cs) (e:=.outgrown) first (.pass (x:=.inLoop c) rfl (λ_ _=>.inl ψ) f)⟩
section
variable{P:Program}{C:Cfg}{X:Nat->Cm->Hp->Prop}{U:Nat->Nat->Cm->Hp->Prop}{V:Nat->Cm->Hp->Prop}{n:Nat}{e:Cm}{H:Hp}
theorem Aa5{c:Code}(k:wc P C c (λn e H=>wc P C (.loop c) X U V n e H) U V n e H):wc P C (.loop c) X U V n e H:=by intro N hm F W σ ι a w Q l s he hn hk;refine A7a (k N hm F W σ ι a w _ l s he hn ?_);intro x L R S y z a1 A hq f B h g q b i hu;cases x with|normal=>refine hq N hm F W y z a1 A _ (by rw[b];exact l) B h g ?_;intro x Z e2 H2 a0 a3 a2 d G D Y J I M j u E;exact⟨by cases x<;>rfl,hk x Z e2 H2 a0 a3 a2 d G (f.trans D) Y J I ω (j.trans b) (u.trans i) (hu.trans E)⟩|exit id=>exact hk (.exit id) L R S y z a1 A hq f B h g q b i hu|ret=>exact hk .ret L R S y z a1 A hq f B h g q b i hu
def Vw(x:AV)(v:Value):Prop:=∀sz xs,x=.sl sz xs->∃p c,v=.slice p xs.length c/\(p=none->xs=[])
theorem Agy{c:Code}(s:Nat)(k:∀v,Vw (e s) v->wc P C c X U V n (A5 e s (.val v)) H):wc P C c X U V n e H:=by intro y J F W σ ι a w Q f u l x L;by_cases z:s<a.tmps.size;have M:=l s z;refine k (a.tmps.getD s undef) ?_ y J F W σ ι a w Q f u ?_ x L;intro sz xs N;rw[N]at M;(rcases M.sl_inv.sl_inv with⟨rfl,p,d,e⟩|⟨b,off,d,C,E,R,g,e,_⟩);exact⟨p,d,e,λ_=>rfl⟩;exact⟨_,d,e,λh=>by cases h⟩;intro q B;by_cases h:q=s;subst h;rw[Ca];exact .of_val _;rw[Cv _ _ h];exact l q B;have I:∃v,Vw (e s) v:=(by cases N:e s with|sl sz xs=>exact⟨.slice (some ⟨0,0,none⟩) xs.length 0,λj i h=>by cases h;exact⟨_,_,rfl,λh=>by cases h⟩⟩|_=>exact⟨undef,λj i h=>by cases h⟩);obtain⟨v,I⟩:=I;refine k v I y J F W σ ι a w Q f u ?_ x L;intro q B;rw[Cv _ _ ω];exact l q B
theorem A7b{c:Code}(s:Nat){h k:Nat}{E:TypeId}{sz:Nat}{xs:Λ AV}(M:e s=.arr h k 0 k)(hh:H h=.rows E sz xs)(f:xs.length=k)(j:∀v,(∃p c,v=.slice p k c/\(p=none->xs=[]))->wc P C c X U V n (A5 e s (.val v)) H):wc P C c X U V n e H:=by intro u I F W σ ι a w Q b i g l J;by_cases x:s<a.tmps.size;have L:=g s x;rw[M]at L;have d:=L.arr_inv hh f;refine j (a.tmps.getD s undef) ?_ u I F W σ ι a w Q b i ?_ l J;generalize a.tmps.getD s undef=v at d;unfold Hq at d;split at d;obtain⟨rfl,_,rfl⟩:=d;exact⟨none,0,rfl,λ_=>eq_nil_of_length_eq_zero f⟩;obtain⟨_,rfl⟩:=d;exact⟨_,_,rfl,λh=>by cases h⟩;exact d.elim;intro q B;by_cases h:q=s;subst h;rw[Ca];exact .of_val _;rw[Cv _ _ h];exact g q B;refine j (.slice (some ⟨0,0,none⟩) k 0) ⟨_,_,rfl,λh=>by cases h⟩ u I F W σ ι a w Q b i ?_ l J;intro q B;rw[Cv _ _ ω];exact g q B
end
variable{F σ:Aw}{ι:B6}{H:Hp}{xs:Λ AV}{h h' k n sz:Nat}{W:World}
theorem St.move{w:World}(s:St σ ι H F W w){E:TypeId}(A:Hf H n)(hh:H h=.rows E sz xs):St σ (A5 ι n (ι h)) (A5 (A5 H h .dead) n (.rows E sz xs)) F W w/\Le σ ι H σ (A5 ι n (ι h)) (A5 (A5 H h .dead) n (.rows E sz xs)):=by(have L:h≠n:=λe=>by rw[e,A n (Nat.le_refl _)]at hh;cases hh);(have u:ι n=.none:=by have:=s.obj n;unfold Cz at this;rw[A n (Nat.le_refl _)]at this;exact this);(have le:Le σ ι H σ (A5 ι n (ι h)) (A5 (A5 H h .dead) n (.rows E sz xs)):=by refine⟨Aw.le_refl σ,λx=>?_⟩;by_cases e:x=n;subst e;rw[u,A x (Nat.le_refl _)];exact HLe.of_none;rw[Cv _ _ e,Cv _ _ e];by_cases g:x=h;subst g;rw[Ca,hh];exact⟨λ_ q=>q,λ_ q=>(by cases q),λ_ _ _ _ q=>(by cases q)⟩;rw[Cv _ _ g];exact HLe.refl _ _);refine⟨⟨s.sto,s.fra,λx=>?_,λx y b k J l B=>?_,s.os,s.tape,s.output,s.glo,s.drw⟩,le⟩;by_cases e:x=n;subst e;have f:=s.obj h;unfold Cz at f⊢;rw[hh]at f;rw[Ca,Ca];exact f;by_cases g:x=h;subst g;unfold Cz;rw[Cv _ _ e,Ca];trivial;have f:=s.obj x;unfold Cz at f⊢;rw[Cv _ _ e,Cv _ _ g,Cv _ _ e];(cases hx:H x with|cells T cs=>rw[hx]at f;obtain⟨b,C,d,N,R,U,V,X⟩:=f;exact⟨b,C,d,N,R,U,V,λi c v q I=>(X i c v q I).mono le⟩|none=>rw[hx]at f;exact f|dead=>trivial|rows T z ys=>rw[hx]at f;exact f|map es=>rw[hx]at f;exact f);(have j:∀x b,((A5 (A5 H h .dead) n (.rows E sz xs)) x).live=true->((A5 ι n (ι h)) x).block?=some b->∃y,(H y).live=true/\(ι y).block?=some b/\((x=n/\y=h)\/(x≠n/\x≠h/\y=x)):=by intro x b k l;by_cases e:x=n;subst e;rw[Ca]at l;exact⟨h,by rw[hh];rfl,l,.inl ⟨rfl,rfl⟩⟩;rw[Cv _ _ e]at k l;by_cases g:x=h;subst g;rw[Ca]at k;cases k;rw[Cv _ _ g]at k;exact⟨x,k,l,.inr ⟨e,g,rfl⟩⟩);obtain⟨G,a1,a2,a3⟩:=j x b k l;obtain⟨D,b1,b2,M⟩:=j y b J B;have:=s.inj G D b a1 b1 a2 b2;rcases a3 with⟨rfl,rfl⟩|⟨c1,c2,rfl⟩<;>rcases M with⟨d0,d1⟩|⟨d1,d2,d3⟩<;>omega
theorem Conc.arr_mv{c:B6}{H':Hp}{off len:Nat}{v:Value}(g:c h'=ι h)(f:H' h'=H h)(hc:Conc σ ι H (.arr h k off len) v):Conc σ c H' (.arr h' k off len) v:=by cases hc with|cc h=>cases h|arr _ _ _ _ _ i hv b=>exact .arr h' k off len v (by rw[f];exact i) (λE sz xs e=>by rw[g];exact hv E sz xs (by rw[<-f];exact e)) b
theorem A7c{ws:Λ Nat}{l:Λ (Nat×AV)}{g:Λ (Nat×Bs)}{J:Aw}{w1:World}{L:B6}{a a1:Act}{G I:Hp}{e e1:Cm}{sl:Nat}{T:TypeId}(hb:L8 n l g=true)(ad:Hf G n)(a7:∀x,n<=x->ι x=.none)(ac:Hf H n)(he:Gi σ ι H e a)(ag:n<=h')(Y:H5 e1 l)(ab:e1 sl=.arr h' k 0 k)(hr:I h'=.rows T sz xs)(S:Ie I G n n)(X:Le σ ι H J L I)(B:St J L I F W w1)(a6:Gi J L I e1 a1)(af:a1.tmps.size=a.tmps.size)(aa:Ha ws a a1):∃A,Le σ ι H J A (A5 G n (.rows T sz xs))/\St J A (A5 G n (.rows T sz xs)) F W w1/\Gi J A (A5 G n (.rows T sz xs)) (A5 (Lo ws e (λs=>a1.tmps.getD s undef) l) sl (.arr n k 0 k)) a1/\Hf (A5 G n (.rows T sz xs)) (n+1):=by(have Z:∀p∈l,p.2.under n=true:=by intro p hp;unfold L8 at hb;rw[F8,E7,E7]at hb;exact hb.1 p hp);let A:B6:=λx=>if x<n then L x else if x=n then L h' else .none;have i:∀x,x<n->A x=L x:=λx d=>if_pos d;(have h:A n=L h':=by show(if n<n then _ else if n=n then _ else _)=_;rw[if_neg ω,if_pos rfl]);(have z:∀x,x<n->(A5 G n (.rows T sz xs)) x=I x:=λx d=>by rw[Cv _ _ ω];exact((S.spec) x d).1.symm);(have u:(A5 G n (.rows T sz xs)) n=I h':=by rw[Ca,hr]);(have c:∀x,n<x->(A5 G n (.rows T sz xs)) x=.none:=λx d=>by rw[Cv _ _ ω];exact ad x ω);(have V:Le σ ι H J A (A5 G n (.rows T sz xs)):=by refine⟨X.sto,λx=>?_⟩;by_cases d:x<n;rw[i x d,z x d];exact X.obj x;rw[a7 x ω,ac x ω];exact HLe.of_none);(have s2:St J A (A5 G n (.rows T sz xs)) F W w1:=by refine⟨B.sto,B.fra,λx=>?_,?_,B.os,B.tape,B.output,B.glo,B.drw⟩;rcases Nat.lt_trichotomy x n with d|d|d;have f:=B.obj x;have R:=((S.spec) x d).2;unfold Cz at f⊢;rw[z x d,i x d];rw[<-((S.spec) x d).1]at R;(cases D:I x with|none=>rw[D]at f;exact f|dead=>trivial|cells E cs=>rw[D]at f R;obtain⟨b,Cc,g1,g2,g3,g4,g5,g6⟩:=f;refine⟨b,Cc,g1,g2,g3,g4,g5,λq cq v hq a8=>(g6 q cq v hq a8).restrict i z ?_⟩;have:=E7.1 R cq (Ev hq);exact Alz this|rows E sz xs=>rw[D]at f;exact f|map es=>rw[D]at f;exact f);subst d;have f:=B.obj h';unfold Cz at f⊢;rw[u,h];rw[hr]at f⊢;exact f;unfold Cz;rw[c x d];show(if x<n then _ else if x=n then _ else _)=_;rw[if_neg ω,if_neg ω];(have N:∀x b,((A5 G n (.rows T sz xs)) x).live=true->(A x).block?=some b->∃y,(I y).live=true/\(L y).block?=some b/\((x=n/\y=h')\/(x<n/\y=x)):=by intro x b M U;rcases Nat.lt_trichotomy x n with d|d|d;rw[z x d]at M;rw[i x d]at U;exact⟨x,M,U,.inr ⟨d,rfl⟩⟩;subst d;rw[u]at M;rw[h]at U;exact⟨h',M,U,.inl ⟨rfl,rfl⟩⟩;rw[c x d]at M;cases M);intro x y b M ly U ae;obtain⟨x',a1,a2,a3⟩:=N x b M U;obtain⟨y',b1,b2,b3⟩:=N y b ly ae;have:=B.inj x' y' b a1 b1 a2 b2;rcases a3 with⟨c1,c2⟩|⟨c1,c2⟩<;>rcases b3 with⟨d1,d2⟩|⟨d1,d2⟩<;>omega);refine⟨A,V,s2,?_,λx d=>c x ω⟩;intro q hq;by_cases e0:q=sl;subst e0;rw[Ca];have:=a6 q hq;rw[ab]at this;exact this.arr_mv h u;rw[Cv _ _ e0];(rcases Al7 ws e (λs=>a1.tmps.getD s undef) l q with⟨p,hp,rfl,j⟩|⟨hw,j⟩|⟨hw,j⟩);rw[j,<-Y.spec p hp];refine(a6 p.1 hq).restrict i z ?_;rw[Y.spec p hp];exact Z p hp;rw[j];exact .of_val _;rw[j,aa q hw];exact(he q ω).mono V
section
variable{P:Program}{C:Cfg}{X:Nat->Cm->Hp->Prop}{U:Nat->Nat->Cm->Hp->Prop}{V:Nat->Cm->Hp->Prop}{n:Nat}{e:Cm}{H:Hp}{β:Type}{r:β}
theorem A7d{S E:Type}{step:S->Ο (S⊕E)}{s0:S}{J:E->Ο β}{b:Code}(h:(Ak step s0).bind J=some r)(sl h0:Nat)(T:TypeId)(sz:Nat)(xs:S->Λ AV)(len:S->Nat)(D:S->Λ (Nat×AV))(hv:S->Λ (Nat×Bs))(hb:∀s,L8 n (D s) (hv s)=true)(ak:e sl=.arr h0 (len s0) 0 (len s0))(G:H h0=.rows T sz (xs s0))(hs:H5 e (D s0))(hh:Ie (A5 H h0 .dead) (C4 (A5 H h0 .dead) (hv s0)) n n)(aa:∀(s:S)(u:Nat->Value)(K:Nat->Cm->Hp->Prop)(o:S⊕E),step s=some o->(∀x,.inr x=o->J x=some r)->(∀s' d n' e' H',.inl s'=o->H5 e' (D s')->e' sl=.arr (n+d) (len s') 0 (len s')->H' (n+d)=.rows T sz (xs s')->Ie H' (C4 (A5 H h0 .dead) (hv s')) n n->K n' e' H')->wc P C b K U V (n+1) (A5 (Lo (H6 b) e u (D s)) sl (.arr n (len s) 0 (len s))) (A5 (C4 (A5 H h0 .dead) (hv s)) n (.rows T sz (xs s)))):wc P C (.loop b) X U V n e H:=by intro hT hm F W σ ι a w Q ac s he hn hk;refine Df h λx hx h=>?_;obtain⟨N,hN⟩:=Ags hx;(have ab:∀x,n<=x->ι x=.none:=by intro x hx;have:=s.obj x;unfold Cz at this;rw[hn x hx]at this;exact this);(have ap:h0<n:=by rcases Nat.lt_or_ge h0 n with q|q;exact q;rw[hn h0 q]at G;cases G);(have Z:∀i,Hf (C4 (A5 H h0 .dead) (hv i)) n:=λi y hy=>by have Y:=hb i;unfold L8 at Y;rw[F8,E7,E7]at Y;rw[X1 (λp hp e=>by have:=Iz (Y.2 p hp);omega),Cv _ _ ω];exact hn y hy);let Hd:S->Hp:=λi=>A5 (C4 (A5 H h0 .dead) (hv i)) n (.rows T sz (xs i));let J':Nat->Act->World->Prop:=λk a' w'=>∃i σ' ι',Ju step k i=some x/\Le σ ι H σ' ι' (Hd i)/\St σ' ι' (Hd i) F W w'/\Gi σ' ι' (Hd i) (A5 (Lo (H6 b) e (λs=>a'.tmps.getD s undef) (D i)) sl (.arr n (len i) 0 (len i))) a'/\a'.tmps.size=a.tmps.size/\a'.defers=a.defers/\Ha (H6 b) a a';(have I:∀(k d:Nat)(i:S)(L:Aw)(ι1:B6)(H1:Hp)(e1:Cm)(a1:Act)(w1:World),Ju step k i=some x->H5 e1 (D i)->e1 sl=.arr (n+d) (len i) 0 (len i)->H1 (n+d)=.rows T sz (xs i)->Ie H1 (C4 (A5 H h0 .dead) (hv i)) n n->Le σ ι H L ι1 H1->St L ι1 H1 F W w1->Gi L ι1 H1 e1 a1->a1.tmps.size=a.tmps.size->a1.defers=a.defers->Ha (H6 b) a a1->J' k a1 w1:=by intro k d i L ι1 H1 e1 a1 w1 hi ae ad hr ah j s1 a0 c f g;obtain⟨ι2,g1,g2,g3,_⟩:=A7c (hb i) (Z i) ab hn he (Nat.le_add_right n d) ae ad hr ah j s1 a0 c g;exact⟨i,L,ι2,hi,g1,g2,g3,c,f,g⟩);obtain⟨sm,lm⟩:=s.move hn G;(have a8:Gi σ (A5 ι n (ι h0)) (A5 (A5 H h0 .dead) n (.rows T sz (xs s0))) (A5 e sl (.arr n (len s0) 0 (len s0))) a:=λq hq=>by by_cases e0:q=sl;subst e0;rw[Ca];have:=he q hq;rw[ak]at this;exact this.arr_mv (Ca _ _ _) (by rw[Ca,G]);rw[Cv _ _ e0];exact(he q hq).mono lm);have aq:H5 (A5 e sl (.arr n (len s0) 0 (len s0))) (D s0)\/True:=.inr trivial;(have Amp:J' N a w:=by have am:∀y,y<n->(C4 (A5 H h0 .dead) (hv s0)) y=(A5 H h0 .dead) y:=λy hy=>((hh.spec) y hy).1.symm;(have B:∀y,Hd s0 y=(A5 (A5 H h0 .dead) n (.rows T sz (xs s0))) y:=λy=>by show(A5 (C4 (A5 H h0 .dead) (hv s0)) n (.rows T sz (xs s0))) y=_;by_cases ey:y=n;subst ey;rw[Ca,Ca];rw[Cv _ _ ey,Cv _ _ ey];rcases Nat.lt_or_ge y n with hy|hy;exact am y hy;rw[Z s0 y hy,Cv _ _ ω,hn y hy]);have B:Hd s0=A5 (A5 H h0 .dead) n (.rows T sz (xs s0)):=funext B;refine⟨s0,σ,A5 ι n (ι h0),hN,by rw[B];exact lm,by rw[B];exact sm,?_,rfl,rfl,Ha.refl _ _⟩;rw[B];intro q hq;by_cases e0:q=sl;have:=a8 q hq;subst e0;rw[Ca]at this⊢;exact this;have h1:=a8 q hq;rw[Cv _ _ e0]at h1⊢;(rcases Al7 (H6 b) e (λs=>a.tmps.getD s undef) (D s0) q with⟨p,hp,rfl,z⟩|⟨hw,z⟩|⟨hw,z⟩);rw[z,<-hs.spec p hp];exact h1;rw[z];exact .of_val _;rw[z];exact h1);refine Ass J' N Amp ?_;rintro k a1 w1 ⟨i,L,ι1,hi,j,s1,a0,c,f,g⟩;(have aj:Hf (Hd i) (n+1):=λy hy=>by show(A5 (C4 (A5 H h0 .dead) (hv i)) n (.rows T sz (xs i))) y=_;rw[Cv _ _ ω];exact Z i y ω);cases k with|zero=>cases hi|succ k=>simp only[Ju]at hi;cases ho:step i with|none=>rw[ho]at hi;cases hi|some o=>rw[ho]at hi;refine aa i (λs=>a1.tmps.getD s undef) (λ_ e' H'=>∃s' d,Ju step k s'=some x/\H5 e' (D s')/\e' sl=.arr (n+d) (len s') 0 (len s')/\H' (n+d)=.rows T sz (xs s')/\Ie H' (C4 (A5 H h0 .dead) (hv s')) n n) o ho ?_ ?_ hT hm F W L ι1 a1 w1 _ (by rw[c];exact ac) s1 a0 aj ?_;intro y hy;subst hy;simp only[Option.some.injEq]at hi;rw[hi];exact h;intro s' d n' e' H' a3 h1 h2 h3 h4;subst a3;exact⟨s',d,hi,h1,h2,h3,h4⟩;intro x n2 e2 H2 σ2 ι2 a2 w2 hq M s2 a4 a7 ao l A R;cases x with|normal=>obtain⟨i',d,ag,a3,a6,af,ai⟩:=hq;exact⟨k,ω,I k d i' σ2 ι2 H2 e2 a2 w2 ag a3 a6 af ai (j.trans M) s2 a4 (l.trans c) (A.trans f) (g.trans R)⟩|exit id=>exact hk (.exit id) n2 e2 H2 σ2 ι2 a2 w2 hq (j.trans M) s2 a4 a7 ω (l.trans c) (A.trans f) (g.trans R)|ret=>exact hk .ret n2 e2 H2 σ2 ι2 a2 w2 hq (j.trans M) s2 a4 a7 ω (l.trans c) (A.trans f) (g.trans R)
end
variable{α:Type}{l r:Λ α}{cmp:α->α->Ο Int}
structure Ph{α:Type}(cf:α->α->Int):Prop where
 irr:∀x,¬cf x x<0
 trs:∀x y z,cf x y<0->cf y z<0->cf x z<0
 ntr:∀x y z,¬cf x y<0->¬cf y z<0->¬cf x z<0
def R3(cmp:α->α->Ο Int)(l r:Λ α):Prop:=∃cf:α->α->Int,Ph cf/\(∀x∈l,∀y∈l,cmp x y=some (cf x y))/\r.Perm l/\r.Pairwise (λx y=>cf x y<0)
open Classical in
noncomputable def Ok{α:Type}(cmp:α->α->Ο Int)(l:Λ α):Ο (List α):=if h:∃r,R3 cmp l r then some (Classical.choose h)else none
theorem Yc(h:Ok cmp l=some r):R3 cmp l r:=by unfold Ok at h;split at h;rename_i k;cases h;exact Classical.choose_spec k;cases h
theorem Amq(h:R3 cmp l r):∃b,Ok cmp l=some b/\R3 cmp l b:=by unfold Ok;rw[dif_pos ⟨r,h⟩];exact⟨_,rfl,Classical.choose_spec (⟨r,h⟩:∃r,R3 cmp l r)⟩
def Ol(n:Nat)(a:Λ α):Ο (List α×List α):=(Bw n [] a).bind λo=>some ([],o)
def Om(n:Int):Ο (List α):=bif decide (0<=n)&&decide (n<=1000000)then some []else none
def On(cmp:α->α->Ο Int)(l r:Λ α):Prop:=∃cf:α->α->Int,Ph cf/\(∀x∈l,∀y∈l,cmp x y=some (cf x y))/\r.Perm l/\r.Pairwise (λx y=>¬cf y x<0)
open Classical in
noncomputable def A7e{α β:Type}(cmp:α->α->Ο Int)(l:Λ α)(k:Λ α->Ο β):Ο β:=if h:∃r,(∃o,On cmp l o)/\∀o,On cmp l o->k o=some r then some (Classical.choose h)else none
structure Atu(α:Type) where
 f:List α->Option (List α)
 cmp:α->α->Option Int
 l:List α
noncomputable def Atu.bind{β:Type}(s:Atu α)(k:Λ α->Ο β):Ο β:=bif Nat.ble s.l.length 12 then(s.f s.l).bind k else A7e s.cmp s.l k
section
variable{P:Program}{C:Cfg}{X:Nat->Cm->Hp->Prop}{U:Nat->Nat->Cm->Hp->Prop}{V:Nat->Cm->Hp->Prop}{n:Nat}{e:Cm}{H:Hp}
end
end Go.Ab
