/- Plain laws: what the plain functions answer. -/
import Derived.Test.YtpgmgplnkdhlbaaGreatDoorPtPl3
namespace Go.Ab
open Go
theorem c40:ByteArray.mk #[40]=bs [40]:=rfl
theorem c41:ByteArray.mk #[41]=bs [41]:=rfl
theorem c91:ByteArray.mk #[91]=bs [91]:=rfl
theorem c93:ByteArray.mk #[93]=bs [93]:=rfl
theorem Awk {data:List Ao} (y:Szv data) (hs:He data) (i:Az) (t:Af) (hi:Cm i<=1048576) (ht:A9 t<=200) (A:iR i) (hd:(D9 data i t).isSome=true) (hb:(ixT data i t).length+8*Cm i<=140737488355328):S0 data t i []=some (ixT data i t):=by
 obtain ⟨h,k⟩:=Awj y hs 4000000
 have E:=Eg i
 have D:=Ia i.Kids
 have b:=(Pk i).1 A
 obtain ⟨d6,d7,d5⟩:=Aei hd
 rw [Ad9] at hb ⊢
 rw [S0]
 by_cases f:t.Kind=6
 .rw [if_pos f] at hb ⊢
  simp only [List.length_cons,List.length_append,List.length_nil,List.length_drop] at hb
  obtain ⟨J,I⟩:=U2 (d6 f)
  rw [Da f,cond_true]
  unfold Ww
  rw [c40,Kk (By.cons (by omega) By.nil) (by simp),Ad]
  refine bnd (a:=40::((Eo data i.Kids t.Args).drop 2++[41])) ?_ rfl
  refine Amh (data:=data) (8*Db i.Kids) J (by omega) (by simp; omega) (fun j x u q h1 h2 h3=>?_) ?_
  .have B:=Hf (Br h1)
   exact h x u q (by omega) (by omega) (by have:=Fx (Br h2); have:=Fm t; omega) (Pl b.2 (Br h1)) (I j x u h1 h2) (by omega)
  .rw [c41,Fz (By.cons (by omega) By.nil) (by simp only [List.length_append,List.length_cons,List.length_nil,List.length_drop]; omega)]
   simp
 .rw [if_neg f] at hb ⊢
  rw [B2 f,cond_false]
  by_cases g:t.Kind=7
  .rw [if_pos g] at hb ⊢
   rw [Da g,cond_true,Fg,Nj b.1,Ad,Kk (By.ti _) (by simp; omega)]; rfl
  .rw [if_neg g] at hb ⊢
   rw [B2 g,cond_false]
   by_cases c:t.Kind=5
   .rw [if_pos c] at hb ⊢
    simp only [List.length_cons,List.length_append,List.length_nil,List.length_drop] at hb
    rw [Da c,cond_true,c91,Kk (By.cons (by omega) By.nil) (by simp),Ad]
    refine Amj (data:=data) (8*Db i.Kids) (by omega) (by simp; omega) (Aeh y hs ht (d5 c)) (fun e he s q h1 h2=>?_) ?_
    .obtain ⟨z,g1,g2⟩:=U3 (d5 c) e he
     rw [h1] at g1; cases g1
     have B:=Hf he
     have G:=Eg e
     have l:=(Pk e).1 (Pl b.2 he)
     have:=Aeg data e.Kids s
     exact k e.Kids s q (by omega) (by omega) (Ro h1).1 l.2 g2 (by omega)
    .rw [c93,Fz (By.cons (by omega) By.nil) (by simp only [List.length_append,List.length_cons,List.length_nil,List.length_drop]; omega)]
     simp
   .rw [if_neg c] at hb ⊢
    rw [B2 c,cond_false,c42,Kk (By.cons (by omega) By.nil) (by simp)]; rfl
theorem Awl {l:List Int} {s:ByteArray} (h:l.length+(Fe s).length<=9223372036854775807):Bb (bs l) s=some (bs (l++Fe s)):=by
 have:=C3 h
 rwa [Alt] at this
theorem Awm {data:List Ao} (hz:Szv data) (hs:He data):∀k:Nat,
  (∀(i:Az) (t:Af),2*Cm i<=k->Cm i<=1048576->A9 t<=200->iR i->(D9 data i t).isSome=true->(ixT data i t).length<=70368744177664->Oa k data t i=some (bs (ixT data i t))) /\
  (∀(b:List Az) (c:List Af),2*Db b+1<=k->Db b<=1048576->(∀t∈c,A9 t<=200)->iRs b->(C8 data b c).isSome=true->(Eo data b c).length<=70368744177666->Mo k data c b=some (bs ((Eo data b c).drop 2))):=by
 intro k
 induction k with
 | zero=>exact ⟨fun i t h=>by have:=Eg i; omega,fun b c h=>by omega⟩
 | succ k ih=>
  obtain ⟨a6,G⟩:=ih
  constructor
  .intro i t hk hi ht hr hd hb
   have ai:=Eg i
   have ac:=Ia i.Kids
   have J:=(Pk i).1 hr
   obtain ⟨d6,d7,d5⟩:=Aei hd
   rw [Ad9] at hb ⊢
   rw [Oa]
   by_cases M:t.Kind=6
   .rw [if_pos M] at hb ⊢
    simp only [List.length_cons,List.length_append,List.length_nil,List.length_drop] at hb
    rw [Da M,cond_true,G i.Kids t.Args (by omega) (by omega) (fun a ha=>by have:=Fx ha; have:=Fm t; omega) J.2 (d6 M) (by omega),Ad,c40,C3 (by simp; omega),Ad,c41,C3 (by simp; omega)]; rfl
   .rw [if_neg M] at hb ⊢
    rw [B2 M,cond_false]
    by_cases L:t.Kind=7
    .rw [if_pos L] at hb ⊢
     obtain ⟨n1,n2⟩:=d7 L
     obtain ⟨n,hn⟩:∃n:Nat,i.Num=n:=⟨i.Num.toNat,by omega⟩
     rw [Da L,cond_true,hn,Yz n (by omega)]; rfl
    .rw [if_neg L] at hb ⊢
     rw [B2 L,cond_false]
     by_cases B:t.Kind=5
     .rw [if_pos B] at hb ⊢
      simp only [List.length_cons,List.length_append,List.length_nil,List.length_drop] at hb
      rw [Da B,cond_true]
      have hb':(Hr data i.Kids t).length<=70368744177666:=by omega
      refine bnd (a:=bs ((Hr data i.Kids t).drop 2)) ?_ ?_
      .have fac:=Aeh hz hs ht (d5 B)
       have I:=d5 B
       have ab:=J.2
       generalize i.Kids=es at *
       rw [Aeb] at hb' ⊢
       have f:=Y4 (fun e:Az=>44::32::(Fp data t e.Num++Gk data t e)) es
       have key:(An (S:=(ByteArray×Int)) (E:=ByteArray) (fun (A,l)=>
         bif (decide (l<(es.length:Int))) then (
         (Ae es l).bind fun u=>
         (show Option ByteArray from
         bif (decide (l>(0:Int))) then (
         (Bb A (ByteArray.mk #[44,32])).bind fun v21=>
         some v21
         )
         else (
         some A
         )
         ).bind fun v22=>
         (Ae data t.Num).bind fun a1=>
         (Ae a1.Cons u.Num).bind fun v24=>
         (Bb v22 v24.Name).bind fun D=>
         bif (decide ((u.Kids.length:Int)>(0:Int))) then (
         (Mp data t u.Num).bind fun Z=>
         (Mo k data Z.1 u.Kids).bind fun Y=>
         (Bb (ByteArray.mk #[40]) Y).bind fun v28=>
         (Bb v28 (ByteArray.mk #[41])).bind fun V=>
         (Bb D V).bind fun U=>
         some (.inl (U,(Ac (l+1))))
         )
         else (
         some (.inl (D,(Ac (l+1))))
         )
         )
         else (
         some (.inr A)
         )) (bs [],0)).bind some=some (bs ((es.flatMap fun e=>44::32::(Fp data t e.Num++Gk data t e)).drop 2)):=by
        refine Gj es.length (fun j=>(bs (((es.take j).flatMap fun e=>44::32::(Fp data t e.Num++Gk data t e)).drop 2),(j:Int))) (by simp) ?_ ?_
        .intro j hj
         obtain ⟨x,hx⟩:∃x,es[j]? = some x:=⟨_,B0 hj⟩
         have hxm:=Br hx
         have e:=Nl (g:=fun e:Az=>44::32::(Fp data t e.Num++Gk data t e)) hx
         have p1:=f j
         have s:=f (j+1)
         rw [e] at s
         have f2:0<j->2<=((es.take j).flatMap fun e=>44::32::(Fp data t e.Num++Gk data t e)).length:=fun h0=>by
          have:=U4 (g:=fun e:Az=>44::32::(Fp data t e.Num++Gk data t e)) (fun a=>by simp) (es.take j)
          rw [List.length_take] at this; omega
         have f0:j=0->((es.take j).flatMap fun e=>44::32::(Fp data t e.Num++Gk data t e)) = []:=fun h0=>by rw [h0]; rfl
         rw [e]
         generalize ((es.take j).flatMap fun e=>44::32::(Fp data t e.Num++Gk data t e))=X at p1 s f2 f0
         simp only [List.length_append,List.length_cons] at s
         obtain ⟨q1,c,d,y,R,q3,q4⟩:=fac x hxm
         obtain ⟨ah,g1,g2⟩:=U3 I x hxm
         rw [R] at g1; cases g1
         have ag:=(U2 g2).1
         have hm:=Hf hxm
         have aj:=Eg x
         have af:=(Pk x).1 (Pl ab hxm)
         have ec:Fp data t x.Num=Fe y.Name:=by unfold Fp; simp only [q3,q4]
         have ad:Ae es (j:Int)=some x:=Bv rfl hx
         have ew:Ac ((j:Int)+1)=((j+1:Nat):Int):=by rw [Ac,Bl] <;> omega
         have aa:(if 0<j then X.drop 2++[44,32] else X.drop 2).length<=X.length+2:=by split <;> simp <;> omega
         simp only [Aj (show (j:Int)<(es.length:Int) by omega),cond_true,ad,Ad]
         refine Amg (by omega) ?_
         rw [ec] at s
         rw [q3,Ad,q4,Ad,Awl (by omega),Ad]
         have N:Gk data t x=if c.length=0 then [] else 40::((Eo data x.Kids c).drop 2++[41]):=by unfold Gk; simp only [R]
         by_cases h0:c.length=0
         .rw [if_pos h0] at N
          rw [Ap (show ¬((x.Kids.length:Int)>0) by omega),cond_false,ew,ec,N,List.append_nil,<-Ry f0 f2]
         .rw [if_neg h0] at N
          rw [N] at s
          simp only [List.length_append,List.length_cons,List.length_nil,List.length_drop] at s
          rw [Aj (show ((x.Kids.length:Int)>0) by omega),cond_true,Um hz hs t ht x.Num,Ad,R,Ami]
          rw [G x.Kids c (by omega) (by omega) (Ro R).1 af.2 g2 (by omega),Ad,c40,C3 (by simp; omega),Ad,c41,C3 (by simp; omega),Ad,C3 (by simp only [List.length_append,List.length_cons,List.length_nil,List.length_drop]; omega),Ad,ew,ec,N,<-Ry f0 f2]
          simp only [List.append_assoc,List.cons_append,List.nil_append]
        .refine ⟨_,by simp only [Ap (show ¬(es.length:Int)<(es.length:Int) by omega),cond_false]; rfl,?_⟩
         rw [List.take_of_length_le (Nat.le_refl _)]
       rw [Option.bind_fun_some] at key
       exact key
      .rw [c91,C3 (by simp; omega),Ad,c93,C3 (by simp; omega)]; rfl
     .rw [if_neg B] at hb ⊢
      rw [B2 B,cond_false,c42]
  .intro b c hk hi ht hr hd hb
   obtain ⟨e1,e2⟩:=U2 hd
   have ac:=Ia b
   rw [Mo]
   rw [Aea] at hb ⊢
   have a8:(b.zip c).length=b.length:=by rw [List.length_zip]; omega
   have f:=Y4 (fun p:Az×Af=>44::32::ixT data p.1 p.2) (b.zip c)
   refine Gj b.length (fun j=>(bs ((((b.zip c).take j).flatMap fun p=>44::32::ixT data p.1 p.2).drop 2),(j:Int))) (by simp [K5]) ?_ ?_
   .intro j hj
    obtain ⟨i,q⟩:∃i,b[j]? = some i:=⟨_,B0 hj⟩
    obtain ⟨t,z⟩:∃t,c[j]? = some t:=⟨_,B0 (by omega)⟩
    have a7:(b.zip c)[j]? = some (i,t):=by rw [List.getElem?_zip_eq_some]; exact ⟨q,z⟩
    have e:=Nl (g:=fun p:Az×Af=>44::32::ixT data p.1 p.2) a7
    have p1:=f j
    have s:=f (j+1)
    rw [e] at s
    have f2:0<j->2<=(((b.zip c).take j).flatMap fun p=>44::32::ixT data p.1 p.2).length:=fun h0=>by
     have:=U4 (g:=fun p:Az×Af=>44::32::ixT data p.1 p.2) (fun a=>by simp) ((b.zip c).take j)
     rw [List.length_take,a8] at this; omega
    have f0:j=0->(((b.zip c).take j).flatMap fun p=>44::32::ixT data p.1 p.2) = []:=fun h0=>by rw [h0]; rfl
    rw [e]
    generalize (((b.zip c).take j).flatMap fun p=>44::32::ixT data p.1 p.2)=X at p1 s f2 f0
    simp only [List.length_append,List.length_cons] at s
    have hgt:Ae c (j:Int)=some t:=Bv rfl z
    have ae:Ae b (j:Int)=some i:=Bv rfl q
    have hm:=Hf (Br q)
    have aa:(if 0<j then X.drop 2++[44,32] else X.drop 2).length<=X.length+2:=by split <;> simp <;> omega
    simp only [Aj (show (j:Int)<(b.length:Int) by omega),cond_true]
    refine Amg (by omega) ?_
    rw [hgt,Ad,ae,Ad,a6 i t (by omega) (by omega) (ht t (Br z)) (Pl hr (Br q)) (e2 j i t q z) (by omega),Ad,C3 (by omega),Ad,Ry f0 f2,show Ac ((j:Int)+1)=((j+1:Nat):Int) by rw [Ac,Bl] <;> omega]
   .refine ⟨_,by simp only [Ap (show ¬(b.length:Int)<(b.length:Int) by omega),cond_false]; rfl,?_⟩
    rw [List.take_of_length_le (by omega)]
theorem Awn {data:List Ao} (f:DSz data) (g:Gu data) {t:Af} (k:F2 data t=true) {i:Az} (hi:Cm i<=1048576) (j:iR i) (hd:0<=Et (D9 data i t)):Qh data t i=some (bs (ixT data i t))/\N7 data t i=some (bs (ixT data i t)):=by
 have q:NmB data:=f.cn
 have l:=Aed q i t j
 have c:=k
 simp only [F2,C7,decide_eq_true_eq] at c
 have b:(D9 data i t).isSome=true:=by
  cases h:D9 data i t with
  | none=>rw [h,Aui] at hd; omega
  | some d=>rfl
 constructor
 .unfold Qh Wp
  rw [Ave f g t k i hi,Ad,Ad,Aj (show Et (D9 data i t)>=0 from hd),De,cond_false,Awk g.szv f.sz.short i t hi c.2 j b (by omega),Ad,Ut (By.ix data i t)]; rfl
 .unfold N7 Wm
  rw [Avf f g t k i hi,Ad,Ad,Aj (show Et (D9 data i t)>=0 from hd),De,cond_false,(Awm g.szv f.sz.short 4000000).1 i t (by omega) hi c.2 j b (by omega)]; rfl
end Go.Ab
namespace Go.Ab
open Go
def Gw (data:List Ao) (vars:List Af) (res:Af) (f:Cd):List Int:=F5 f.Var++58::(match tyX vars res f.Var with
 | some u=>ixT data f.Index u
 | none=>[])
def atX (a:B1):List Int:=if a.Deg=1 then 40::(Kj a.Lin++[41,43]) else 67::40::(Kj a.Lin++44::32::(ti a.Deg++[41]))
def I4 (data:List Ao) (vars:List Af) (res:Af) (m:B8):List (List Int):=m.Factors.map (Gw data vars res)++m.Atoms.map atX
def Jn (l:List (List Int)):List Int:=(l.flatMap fun t=>42::t).drop 1
def Is (c:A4):A4:=Bw false (nv c) (dv c)
def Kl (data:List Ao) (vars:List Af) (res:Af) (t:A6):List Int:=if I4 data vars res t.Mono = []\/Fk (Is t.Coef)≠[49] then Jn (Fk (Is t.Coef)::I4 data vars res t.Mono) else Jn (I4 data vars res t.Mono)
theorem Aej (c:List Int) (l:List (List Int)):Jn (c::l)=if l = [] then c else c++42::Jn l:=by
 unfold Jn
 cases l with
 | nil=>simp
 | cons a l=>simp
theorem Awo {l:List (List Int)} (s:List Int) (h:l≠[]):Jn (l++[s])=Jn l++42::s:=by
 unfold Jn
 cases l with
 | nil=>exact (h rfl).elim
 | cons a l=>simp
theorem Amk (s:List Int):Jn [s]=s:=by simp [Jn]
theorem Y5 {l:List (List Int)} (h:l≠[]) (b:∀s∈l,s≠[]):Jn l≠[]:=by
 cases l with
 | nil=>exact (h rfl).elim
 | cons a l=>
  have:=b a (by simp)
  unfold Jn
  simp [this]
theorem Y6 {l:List (List Int)} (h:∀s∈l,By s):By (Jn l):=by
 unfold Jn
 refine By.drop ?_ 1
 intro c hc
 obtain ⟨a,ha,k⟩:=List.mem_flatMap.1 hc
 exact (By.cons (by omega) (h a ha)) c k
theorem Aml (a b:List Int):Ct (a++b)=Ct a++Ct b:=by unfold Ct; rw [List.map_append]
theorem Awp (l:List (List Int)):Lib.join (l.map Ct) [42]=Ct (Jn l):=by
 have key:∀r:List (List Int),Lib.joinTail [42] (r.map Ct)=Ct (r.flatMap fun t=>42::t):=by
  intro r
  induction r with
  | nil=>rfl
  | cons a r ih=>
   rw [List.flatMap_cons,Aml,<-ih]; rfl
 cases l with
 | nil=>rfl
 | cons x r=>
  rw [List.map_cons,Lib.join_cons,key]
  unfold Jn
  rw [List.flatMap_cons,List.cons_append,List.drop_one,List.tail_cons,Aml]
theorem Aek {l:List (List Int)} (h:(Jn l).length<=140737488355328):Mi (l.map bs) (ByteArray.mk #[42])=some (bs (Jn l)):=by
 have e:((l.map bs).map fun x:ByteArray=>x.data.toList)=l.map Ct:=by
  rw [List.map_map]
  refine List.map_congr_left fun a _=>?_
  show ((Ct a).toArray).toList=_
  simp
 have c:(ByteArray.mk #[42]).data.toList = [42]:=rfl
 have b:(Ct (Jn l)).length=(Jn l).length:=by unfold Ct; rw [List.length_map]
 unfold Mi Wh
 rw [e,c,Awp,if_pos (by rw [b]; exact h)]; rfl
theorem Ael {m s:List Int} (b:By m) (hs:By s) (h:m.length+s.length<=140737488355328):Ih (bs m) (bs s)=some (bs (if m = []\/s = [] then m++s else m++42::s)):=by
 unfold Ih
 rw [K5,Nm _ _ b By.nil,Nm _ _ hs By.nil]
 by_cases h1:m = []
 .rw [decide_eq_true h1,if_pos (.inl h1)]
  simp only [cond_true,Ad]
  rw [C3 (by omega)]; rfl
 .by_cases h2:s = []
  .rw [decide_eq_false h1,decide_eq_true h2,if_pos (.inr h2)]
   simp only [cond_true,cond_false,Ad]
   rw [C3 (by omega)]; rfl
  .rw [decide_eq_false h1,decide_eq_false h2,if_neg (by simp [h1,h2])]
   simp only [cond_false,Ad]
   rw [c42,C3 (by simp; omega),Ad,C3 (by simp; omega),Ad]
   simp
theorem Amm {l:List (List Int)} {s:List Int} (f:∀u∈l,u≠[]) (b:s≠[]) (hb:∀u∈l,By u) (hs:By s) (h:(Jn l).length+s.length<=140737488355328):Ih (bs (Jn l)) (bs s)=some (bs (Jn (l++[s]))):=by
 rw [Ael (Y6 hb) hs h]
 by_cases c:l = []
 .subst c
  rw [if_pos (.inl rfl)]; simp [Jn]
 .rw [if_neg (by simp [Y5 c f,b]),Awo s c]
structure Y7 (data:List Ao) (vars:List Af) (res:Af) (f:Cd) (u:Af):Prop where
 ty:tyX vars res f.Var=some u
 rg : -1<=f.Var/\f.Var<3000
 tx:Qh data u f.Index=some (bs (ixT data f.Index u))/\N7 data u f.Index=some (bs (ixT data f.Index u))
 ln:(ixT data f.Index u).length<=1099580000000
theorem Awq {x:Ck} (g:CSz x) (b:Ir x) {m:B8} (hc:Gv x.Data x.Vars x.Res m=true) (c:MSz m) {f:Cd} (h:f∈m.Factors):∃u,Y7 x.Data x.Vars x.Res f u:=by
 obtain ⟨u,hu⟩:=(Ak5 hc).1 f h
 have hp:Ki x.Data x.Vars x.Res m=true:=by
  rw [Aky] at hc
  simp only [C7] at hc
  exact hc.1.1.1
 have hd:0<=Ea x.Data x.Vars x.Res f:=by
  unfold Ki at hp
  simp only [C7,List.all_eq_true,decide_eq_true_eq] at hp
  exact hp.1 f h
 unfold Ea at hd
 rw [hu] at hd
 have hs:=Aks x.Vars x.Res f.Var
 rw [hu] at hs
 have hs:=of_decide_eq_true hs.symm
 have k:=b.1
 have j:F2 x.Data u=true:=by
  unfold tyX at hu
  split at hu
  .cases hu; exact b.2.2.1
  .exact List.all_eq_true.1 b.2.2.2 u (Aec hu)
 have i:=Aed (data:=x.Data) g.ds.cn f.Index u (c.fr f h).1
 have hi:=c.fi f h
 exact ⟨u,hu,by omega,Awn g.ds b.2.1 j hi (c.fr f h).1 hd,by omega⟩
theorem Aem {data:List Ao} {vars:List Af} {res:Af} {f:Cd} {u:Af} (h:Y7 data vars res f u):Gw data vars res f=F5 f.Var++58::ixT data f.Index u:=by
 unfold Gw; rw [h.ty]
theorem Aen (data:List Ao) (vars:List Af) (res:Af) (f:Cd):By (Gw data vars res f):=by
 unfold Gw
 refine (By.var _).app (By.cons (by omega) ?_)
 split
 .exact By.ix _ _ _
 .exact By.nil
theorem Aeo (data:List Ao) (vars:List Af) (res:Af) (f:Cd):Gw data vars res f≠[]:=by unfold Gw; simp
theorem Amn (l:C2):By (Kj l):=By.lins _ _ _
theorem Amo (a:B1):By (atX a):=by
 unfold atX
 split
 .exact By.cons (by omega) ((Amn _).app (By.cons (by omega) (By.cons (by omega) By.nil)))
 .exact By.cons (by omega) (By.cons (by omega) ((Amn _).app (By.cons (by omega) (By.cons (by omega) ((By.ti _).app (By.cons (by omega) By.nil))))))
theorem Amp (a:B1):atX a≠[]:=by unfold atX; split <;> simp
theorem Amq {a:B1} (h:Ho a.Lin=true/\a.Lin.Terms≠[]/\1<=a.Deg/\a.Deg<=6):(atX a).length<=1100:=by
 have h1:=Ib (n:=a.Deg) (by unfold I64; omega)
 have h2:=Alo (Yt h.1)
 unfold atX
 split <;> simp <;> omega
theorem Awr {v:Int} (h : -1<=v/\v<3000):Qg v=some (bs (F5 v)):=by
 have ht:=Ib (n:=v) (by unfold I64; omega)
 unfold Qg F5
 by_cases h0:v = -1
 .rw [Da h0,if_pos h0,Uw]; rfl
 .rw [B2 h0,if_neg h0,cond_false,Fg,Nj (by unfold I64; omega),Ad,Uv,C3 (by simp; omega)]; rfl
theorem Aws {v:Int} (h : -1<=v/\v<3000):(bif (decide (v>=(0:Int))) then ((Lf v).bind fun c=>(Bb (ByteArray.mk #[118]) c).bind fun b=>some b) else some (ByteArray.mk #[114,101,115]))=some (bs (F5 v)):=by
 have ht:=Ib (n:=v) (by unfold I64; omega)
 unfold F5
 by_cases h0:v = -1
 .rw [Ap (by omega),if_pos h0,Uw]; rfl
 .obtain ⟨n,rfl⟩:∃n:Nat,v=n:=⟨v.toNat,by omega⟩
  rw [Aj (by omega),if_neg h0,cond_true,Aly n (by omega),Ad,Uv,C3 (by simp; omega)]; rfl
theorem Awt:ByteArray.mk #[41,43]=bs [41,43]:=rfl
theorem Awu:ByteArray.mk #[67,40]=bs [67,40]:=rfl
theorem Amr {R:Type} {a:B1} {F:C2->Option ByteArray} {G:Int->Option ByteArray} {K:ByteArray->Option R} {r:Option R} (h:Ho a.Lin=true/\a.Lin.Terms≠[]/\1<=a.Deg/\a.Deg<=6) (l:F a.Lin=some (bs (Kj a.Lin))) (q:G a.Deg=some (bs (ti a.Deg))) (b:K (bs (atX a))=r) :
  (bif (a.Deg==(1:Int)) then (
  (F a.Lin).bind fun k=>
  (Bb (ByteArray.mk #[40]) k).bind fun v127=>
  (Bb v127 (ByteArray.mk #[41,43])).bind fun j=>
  K j)
  else (
  (F a.Lin).bind fun v130=>
  (Bb (ByteArray.mk #[67,40]) v130).bind fun v131=>
  (Bb v131 (ByteArray.mk #[44,32])).bind fun i=>
  (G a.Deg).bind fun g=>
  (Bb i g).bind fun f=>
  (Bb f (ByteArray.mk #[41])).bind fun c=>
  K c))=r:=by
 have h1:=Ib (n:=a.Deg) (by unfold I64; omega)
 have h2:=Alo (Yt h.1)
 unfold atX at b
 by_cases hd:a.Deg=1
 .rw [if_pos hd] at b
  rw [Da hd,cond_true,l,Ad,c40,C3 (by simp; omega),Ad,Awt,C3 (by simp; omega),Ad]
  exact b
 .rw [if_neg hd] at b
  rw [B2 hd,cond_false,l,Ad,Awu,C3 (by simp; omega),Ad,Aef,C3 (by simp; omega),Ad,q,Ad,C3 (by simp; omega),Ad,c41,C3 (by simp; omega),Ad]
  simp only [List.append_assoc,List.cons_append,List.nil_append] at b ⊢
  exact b
end Go.Ab
namespace Go.Ab
open Go
theorem Awv:RB 1 (Bw false 1 1):=Acw _ _ _ 1 (by rw [X0]; decide) (by rw [X0]; decide) (by decide)
theorem Aww {c:A4} {k:Nat} (hc:Hq c) (i:c.Neg=false) (h:RB k c) (hk:k<=1099511627):((Gb 1).bind fun f=>(N9 c f).bind fun b=>some (b != (0:Int)))=some (decide (Fk c≠[49])):=by
 have h1:Gb 1=some (Bw false 1 1):=Asm 1 (by decide) (by decide)
 rw [h1,Ad,Avh h Awv (by omega) (by decide),Ad]
 congr 1
 by_cases e:c=Bw false 1 1
 .have g:=(Al9 hc i).2 e
  rw [decide_eq_false (by rw [g]; simp),e]
  unfold Rw
  rw [if_neg (Rat.lt_irrefl),if_neg (Rat.lt_irrefl)]; rfl
 .have g:Fk c≠[49]:=fun h=>e ((Al9 hc i).1 h)
  rw [decide_eq_true g]
  have j:rq c≠rq (Bw false 1 1):=fun h=>e (Avg hc (Ak6 _ _ _ (by decide)) h)
  unfold Rw
  by_cases h3:rq c<rq (Bw false 1 1)
  .rw [if_pos h3]; rfl
  .rw [if_neg h3,if_pos (by
    rcases (Rat.le_total:rq c<=rq (Bw false 1 1)\/rq (Bw false 1 1)<=rq c) with h4 | h4
    .exact absurd (Rat.lt_of_le_of_ne h4 j) h3
    .exact Rat.lt_of_le_of_ne h4 (Ne.symm j))]; rfl
theorem Y8 (data:List Ao) (vars:List Af) (res:Af) (m:B8):∀s∈I4 data vars res m,s≠[]/\By s:=by
 intro s hs
 unfold I4 at hs
 rcases List.mem_append.1 hs with h | h
 .obtain ⟨f,_,rfl⟩:=List.mem_map.1 h
  exact ⟨Aeo _ _ _ _,Aen _ _ _ _⟩
 .obtain ⟨a,_,rfl⟩:=List.mem_map.1 h
  exact ⟨Amp _,Amo _⟩
structure I5 (x:Ck) (t:A6):Prop where
 cm:CMo t.Mono
 fa:∀f∈t.Mono.Factors,∃u,Y7 x.Data x.Vars x.Res f u
 cq:Hq t.Coef
 rb:RB 1048576 t.Coef
theorem Ams {data:List Ao} {vars:List Af} {res:Af} {f:Cd} {u:Af} (h:Y7 data vars res f u):(Gw data vars res f).length<=1099580000100:=by
 have h1:=h.ln
 have h2:=Uu h.rg
 rw [Aem h]; simp; omega
theorem Awx {x:Ck} {t:A6} (h:I5 x t) (l:List Cd) (b:∀f∈l,f∈t.Mono.Factors):(l.flatMap fun f=>42::Gw x.Data x.Vars x.Res f).length<=l.length*1099580000101 :=
 Yv l fun f c=>by
  obtain ⟨u,hu⟩:=h.fa f (b f c)
  have:=Ams hu
  simp only [List.length_cons]; omega
theorem Awy {x:Ck} {t:A6} (h:I5 x t) (l:List B1) (b:∀a∈l,a∈t.Mono.Atoms):(l.flatMap fun a=>42::atX a).length<=l.length*1101 :=
 Yv l fun a ha=>by
  have:=Amq (h.cm.al a (b a ha))
  simp only [List.length_cons]; omega
theorem Awz (l m:List (List Int)):(Jn (l++m)).length<=(l.flatMap fun t=>42::t).length+(m.flatMap fun t=>42::t).length:=by
 unfold Jn
 rw [List.length_drop,List.flatMap_append,List.length_append]; omega
theorem Amt {x:Ck} {t:A6} (h:I5 x t) (i j:Nat):(Jn ((t.Mono.Factors.take i).map (Gw x.Data x.Vars x.Res)++(t.Mono.Atoms.take j).map atX)).length<=6597490000000:=by
 have h1:=Awx h (t.Mono.Factors.take i) (fun f b=>List.mem_of_mem_take b)
 have h2:=Awy h (t.Mono.Atoms.take j) (fun f b=>List.mem_of_mem_take b)
 have h3:=h.cm.nf
 have h4:=h.cm.na
 have c:=Awz ((t.Mono.Factors.take i).map (Gw x.Data x.Vars x.Res)) ((t.Mono.Atoms.take j).map atX)
 rw [List.flatMap_map,List.flatMap_map] at c
 rw [List.length_take] at h1 h2
 have k:min i t.Mono.Factors.length*1099580000101<=6*1099580000101:=Nat.mul_le_mul_right _ (by omega)
 have g:min j t.Mono.Atoms.length*1101<=6*1101:=Nat.mul_le_mul_right _ (by omega)
 omega
theorem Aep {x:Ck} {t:A6} (h:I5 x t):(Jn (I4 x.Data x.Vars x.Res t.Mono)).length<=6597490000000:=by
 have:=Amt h t.Mono.Factors.length t.Mono.Atoms.length
 rwa [List.take_length,List.take_length] at this
theorem Aeq {x:Ck} {t:A6} (h:I5 x t):(Fk (Is t.Coef)).length<=20000000:=by
 obtain ⟨a1,a2,a3⟩:=Ad7 h.cq h.rb (by decide)
 obtain ⟨f1,f2,f3⟩:=U1 a1
 have c:=a3.nl
 have b:=a3.dl
 have d1:Bp (Is t.Coef).Num:=by unfold Is; rw [f1]; exact Ef _
 have d2:Bp (Is t.Coef).Den:=by unfold Is; rw [f2]; exact Ef _
 have t1:=Y2 d1
 have t2:=Y2 d2
 unfold Is at t1 t2
 unfold Fk Is
 rw [List.length_append]
 split
 .simp; omega
 .simp only [List.length_cons]; omega
theorem Aer {x:Ck} {t:A6} (h:I5 x t):(Kl x.Data x.Vars x.Res t).length<=6598000000000:=by
 have h1:=Aep h
 have h2:=Aeq h
 unfold Kl
 split
 .rw [Aej]
  split
  .omega
  .simp only [List.length_append,List.length_cons]; omega
 .omega
theorem U5 (data:List Ao) (vars:List Af) (res:Af) (t:A6):By (Kl data vars res t):=by
 have hp:=fun s hs=>(Y8 data vars res t.Mono s hs).2
 unfold Kl
 split
 .refine Y6 fun s hs=>?_
  rcases List.mem_cons.1 hs with rfl | hs
  .exact Y3 _
  .exact hp s hs
 .exact Y6 hp
theorem Amu {x:Ck} {t:A6} (h:I5 x t) (b1:List (ByteArray×Int)) (b2:List (ByteArray×List Dh)):Jb t b1 b2 x.Data x.Vars x.Res.Kind x.Res.Num x.Res.Args=some (bs (Kl x.Data x.Vars x.Res t)):=by
 unfold Jb
 have nf:=h.cm.nf
 have na:=h.cm.na
 obtain ⟨a1,a2,a3⟩:=Ad7 h.cq h.rb (by decide)
 have g:=Aep h
 have b:=Aeq h
 refine Gj t.Mono.Factors.length (fun j=>((j:Int),(t.Mono.Factors.take j).map fun f=>bs (Gw x.Data x.Vars x.Res f))) (by simp) ?_ ?_
 .intro j hj
  obtain ⟨f,s⟩:∃f,t.Mono.Factors[j]? = some f:=⟨_,B0 hj⟩
  obtain ⟨u,hu⟩:=h.fa f (Br s)
  have h1:=hu.ln
  have h2:=Uu hu.rg
  have k:Ae t.Mono.Factors (j:Int)=some f:=Bv rfl s
  simp only [Aj (show (j:Int)<(t.Mono.Factors.length:Int) by omega),cond_true,k,Ad]
  rw [Awr hu.rg,Ad,c58,C3 (by simp; omega),Ad,Aku (ht:=hu.ty),Ad,hu.tx.1,Ad,C3 (by simp; omega),Ad]
  rw [Ds (by simp; omega),Ad,show Ac ((j:Int)+1)=((j+1:Nat):Int) by rw [Ac,Bl] <;> omega,Dk s,List.map_append,List.map_cons,List.map_nil,Aem hu,List.append_assoc]; rfl
 .refine ⟨_,by simp only [Ap (show ¬(t.Mono.Factors.length:Int)<(t.Mono.Factors.length:Int) by omega),cond_false]; rfl,?_⟩
  rw [List.take_length]
  refine Gj t.Mono.Atoms.length (fun j=>((j:Int),(t.Mono.Factors.map fun f=>bs (Gw x.Data x.Vars x.Res f))++(t.Mono.Atoms.take j).map fun a=>bs (atX a))) (by simp) ?_ ?_
  .intro j hj
   obtain ⟨a,ha⟩:∃a,t.Mono.Atoms[j]? = some a:=⟨_,B0 hj⟩
   have b:=h.cm.al a (Br ha)
   have q:Ae t.Mono.Atoms (j:Int)=some a:=Bv rfl ha
   simp only [Aj (show (j:Int)<(t.Mono.Atoms.length:Int) by omega),cond_true,q,Ad]
   refine Amr (R:=(Int×List ByteArray)⊕List ByteArray) (F:=Iz) (G:=Fg) (K:=fun v=>(B7 16 _ [v]).bind fun c=>some (Sum.inl ((Ac ((j:Int)+1)),c))) b (Avy b.1 b.2.1) (Nj (by unfold I64; omega)) ?_
   rw [Ds (by simp; omega),Ad,show Ac ((j:Int)+1)=((j+1:Nat):Int) by rw [Ac,Bl] <;> omega,Dk ha,List.map_append,List.map_cons,List.map_nil,List.append_assoc]
  .refine ⟨_,by simp only [Ap (show ¬(t.Mono.Atoms.length:Int)<(t.Mono.Atoms.length:Int) by omega),cond_false]; rfl,?_⟩
   rw [List.take_length]
   have z:(t.Mono.Factors.map fun f=>bs (Gw x.Data x.Vars x.Res f))++(t.Mono.Atoms.map fun a=>bs (atX a))=(I4 x.Data x.Vars x.Res t.Mono).map bs:=by
    unfold I4
    rw [List.map_append,List.map_map,List.map_map]; rfl
   have i:(I4 x.Data x.Vars x.Res t.Mono).length<=12:=by unfold I4; simp; omega
   rw [z,(Al8 h.cq h.rb (by decide)).1,Ad,Aww a1 a2 a3 (by decide)]
   unfold Kl Is
   unfold Is at b
   generalize I4 x.Data x.Vars x.Res t.Mono=P at g i
   by_cases h0:P = []
   .subst h0
    rw [if_pos (.inl rfl),List.map_nil,show (((([]:List ByteArray).length:Nat):Int)==0)=true from rfl]
    simp only [cond_true,Ad]
    rw [(Ad6 a1 a2 a3 (by decide)).1,Ad,Ds (by simp),Ad]
    have:=Aek (l:=[Fk (Bw false (nv t.Coef) (dv t.Coef))]) (by rw [Amk]; omega)
    rw [show [bs (Fk (Bw false (nv t.Coef) (dv t.Coef)))]++([]:List ByteArray) = [Fk (Bw false (nv t.Coef) (dv t.Coef))].map bs from rfl,this]; rfl
   .have y:P.length≠0:=fun e=>h0 (List.length_eq_zero_iff.1 e)
    rw [B2 (by rw [List.length_map]; omega)]
    simp only [cond_false,Ad]
    by_cases h1:Fk (Bw false (nv t.Coef) (dv t.Coef)) = [49]
    .rw [if_neg (by simp [h0,h1]),decide_eq_false (by simp [h1]),cond_false,Aek (by omega)]; rfl
    .rw [if_pos (.inr h1),decide_eq_true h1,cond_true,(Ad6 a1 a2 a3 (by decide)).1,Ad,Ds (by simp; omega),Ad]
     have:=Aek (l:=Fk (Bw false (nv t.Coef) (dv t.Coef))::P) (by
      rw [Aej,if_neg h0]
      simp only [List.length_append,List.length_cons]; omega)
     rw [show [bs (Fk (Bw false (nv t.Coef) (dv t.Coef)))]++P.map bs=(Fk (Bw false (nv t.Coef) (dv t.Coef))::P).map bs from rfl,this]; rfl
theorem Aw0 {x:Ck} {t:A6} (h:I5 x t) {S:List Int} {j:Nat} (hj:j<=1000) (hS:S.length<=100000000000000) :
  ((Qc t.Coef).bind fun ah=>
   (Qb ah).bind fun M=>
   (An (S:=(ByteArray×Int)) (E:=(ByteArray×Int)) (fun (L,D)=>
   bif (decide (D<(t.Mono.Factors.length:Int))) then (
   (Ae t.Mono.Factors D).bind fun B=>
   (Ld x B.Var).bind fun ag=>
   (show Option ByteArray from
   bif (decide (B.Var>=(0:Int))) then (
   (Lf B.Var).bind fun af=>
   (Bb (ByteArray.mk #[118]) af).bind fun ae=>
   some ae
   )
   else (
   some (ByteArray.mk #[114,101,115])
   )
   ).bind fun ad=>
   (Bb ad (ByteArray.mk #[58])).bind fun ac=>
   (N7 x.Data ag.1 B.Index).bind fun ab=>
   (Bb ac ab).bind fun v105=>
   (Ih L v105).bind fun aa=>
   some (.inl (aa,(Ac (D+1))))
   )
   else (
   some (.inr (L,D))
   )
    ) ((ByteArray.mk #[]),0)).bind fun (v107,ao)=>
   (An (S:=(ByteArray×Int)) (E:=(ByteArray×Int)) (fun (A,b)=>
   bif (decide (b<(t.Mono.Atoms.length:Int))) then (
   (Ae t.Mono.Atoms b).bind fun v124=>
   bif (v124.Deg==(1:Int)) then (
   (Lg v124.Lin).bind fun a8=>
   (Bb (ByteArray.mk #[40]) a8).bind fun v127=>
   (Bb v127 (ByteArray.mk #[41,43])).bind fun a7=>
   (Ih A a7).bind fun z=>
   some (.inl (z,(Ac (b+1))))
   )
   else (
   (Lg v124.Lin).bind fun v130=>
   (Bb (ByteArray.mk #[67,40]) v130).bind fun v131=>
   (Bb v131 (ByteArray.mk #[44,32])).bind fun a6=>
   (Lf v124.Deg).bind fun Z=>
   (Bb a6 Z).bind fun Y=>
   (Bb Y (ByteArray.mk #[41])).bind fun X=>
   (Ih A X).bind fun V=>
   some (.inl (V,(Ac (b+1))))
   )
   )
   else (
   some (.inr (A,b))
   )
    ) (v107,0)).bind fun (y,v138)=>
   (show Option Bool from
   bif (!(M.toList==(ByteArray.mk #[49]).toList)) then (
   some true
   )
   else (
   some (y.toList==(ByteArray.mk #[]).toList)
   )
   ).bind fun v139=>
   bif v139 then (
   (Ih M y).bind fun U=>
   (Bb (bs S) U).bind fun v141=>
   some (Sum.inl (v141,(Ac ((j:Int)+1))))
   )
   else (
   (Bb (bs S) y).bind fun N=>
   some (Sum.inl (N,(Ac ((j:Int)+1))))
   ):Option ((ByteArray×Int)⊕ByteArray))=some (.inl (bs (S++Kl x.Data x.Vars x.Res t),((j+1:Nat):Int))):=by
 have nf:=h.cm.nf
 have na:=h.cm.na
 obtain ⟨a1,a2,a3⟩:=Ad7 h.cq h.rb (by decide)
 have aj:=Aep h
 have k:=Aeq h
 have I:=Amt h
 rw [(Al8 h.cq h.rb (by decide)).2,Ad,(Ad6 a1 a2 a3 (by decide)).2,Ad]
 have ew:Ac ((j:Int)+1)=((j+1:Nat):Int):=by rw [Ac,Bl] <;> omega
 refine Gj t.Mono.Factors.length (fun q=>(bs (Jn ((t.Mono.Factors.take q).map (Gw x.Data x.Vars x.Res))),(q:Int))) (by simp [Jn,K5]) ?_ ?_
 .intro q hq
  obtain ⟨f,hf⟩:∃f,t.Mono.Factors[q]? = some f:=⟨_,B0 hq⟩
  obtain ⟨u,hu⟩:=h.fa f (Br hf)
  have h1:=hu.ln
  have h2:=Uu hu.rg
  have h3:=I q 0
  simp only [List.take_zero,List.map_nil,List.append_nil] at h3
  have h4:=Ams hu
  have ak:Ae t.Mono.Factors (q:Int)=some f:=Bv rfl hf
  simp only [Aj (show (q:Int)<(t.Mono.Factors.length:Int) by omega),cond_true,ak,Ad]
  rw [Adq,hu.ty,Ad,Aws hu.rg,Ad,c58,C3 (by simp; omega),Ad,hu.tx.2,Ad,C3 (by simp; omega),Ad]
  rw [show F5 f.Var++[58]++ixT x.Data f.Index u=Gw x.Data x.Vars x.Res f by rw [Aem hu,List.append_assoc]; rfl]
  rw [Amm (fun s hs=>by obtain ⟨g,_,rfl⟩:=List.mem_map.1 hs; exact Aeo _ _ _ _) (Aeo _ _ _ _) (fun s hs=>by obtain ⟨g,_,rfl⟩:=List.mem_map.1 hs; exact Aen _ _ _ _) (Aen _ _ _ _) (by omega),Ad]
  rw [show Ac ((q:Int)+1)=((q+1:Nat):Int) by rw [Ac,Bl] <;> omega,Dk hf,List.map_append,List.map_cons,List.map_nil]
 .refine ⟨_,by simp only [Ap (show ¬(t.Mono.Factors.length:Int)<(t.Mono.Factors.length:Int) by omega),cond_false]; rfl,?_⟩
  rw [List.take_length]
  refine Gj t.Mono.Atoms.length (fun q=>(bs (Jn (t.Mono.Factors.map (Gw x.Data x.Vars x.Res)++(t.Mono.Atoms.take q).map atX)),(q:Int))) (by simp) ?_ ?_
  .intro q hq
   obtain ⟨a,ha⟩:∃a,t.Mono.Atoms[q]? = some a:=⟨_,B0 hq⟩
   have k:=h.cm.al a (Br ha)
   have ap:=Amq k
   have h3:=I t.Mono.Factors.length q
   rw [List.take_length] at h3
   have am:Ae t.Mono.Atoms (q:Int)=some a:=Bv rfl ha
   obtain ⟨n,hn⟩:∃n:Nat,a.Deg=n:=⟨a.Deg.toNat,by omega⟩
   simp only [Aj (show (q:Int)<(t.Mono.Atoms.length:Int) by omega),cond_true,am,Ad]
   refine Amr (R:=(ByteArray×Int)⊕(ByteArray×Int)) (F:=Lg) (G:=Lf) (K:=fun v=>(Ih _ v).bind fun z=>some (Sum.inl (z,(Ac ((q:Int)+1))))) k (Awg k.1 k.2.1) (by rw [hn]; exact Aly n (by omega)) ?_
   have i:=fun s hs=>Y8 x.Data x.Vars x.Res ⟨t.Mono.Factors,t.Mono.Atoms.take q⟩ s hs
   rw [Amm (l:=t.Mono.Factors.map (Gw x.Data x.Vars x.Res)++(t.Mono.Atoms.take q).map atX) (fun s hs=>(i s hs).1) (Amp _) (fun s hs=>(i s hs).2) (Amo _) (by omega),Ad]
   rw [show Ac ((q:Int)+1)=((q+1:Nat):Int) by rw [Ac,Bl] <;> omega,Dk ha,List.map_append,List.map_cons,List.map_nil,List.append_assoc]
  .refine ⟨_,by simp only [Ap (show ¬(t.Mono.Atoms.length:Int)<(t.Mono.Atoms.length:Int) by omega),cond_false]; rfl,?_⟩
   rw [List.take_length]
   have i:=Y8 x.Data x.Vars x.Res t.Mono
   have eP:t.Mono.Factors.map (Gw x.Data x.Vars x.Res)++t.Mono.Atoms.map atX=I4 x.Data x.Vars x.Res t.Mono:=rfl
   rw [eP]
   unfold Kl Is
   unfold Is at k
   generalize I4 x.Data x.Vars x.Res t.Mono=P at aj i
   have J:By (Jn P):=Y6 fun s hs=>(i s hs).2
   have c:Jn P = []↔P = []:=⟨fun e=>by
    by_cases h0:P = []
    .exact h0
    .exact absurd e (Y5 h0 fun s hs=>(i s hs).1),fun e=>by rw [e]; rfl⟩
   have ai:Fk (Bw false (nv t.Coef) (dv t.Coef))≠[]:=by
    unfold Fk G2
    split
    .simp
    .simp [Pi]
   dsimp only
   rw [c49,Nm _ _ (Y3 _) (By.cons (by omega) By.nil),K5,Nm _ _ J By.nil]
   by_cases h1:Fk (Bw false (nv t.Coef) (dv t.Coef)) = [49]
   .by_cases h0:P = []
    .rw [decide_eq_true h1,decide_eq_true (c.2 h0),if_pos (.inl h0)]
     simp only [De,cond_false,cond_true,Ad]
     rw [Ael (Y3 _) J (by omega),Ad,if_pos (.inr (c.2 h0)),c.2 h0,List.append_nil,C3 (by omega),Ad,ew,h0,Amk]
    .rw [decide_eq_true h1,decide_eq_false (fun e=>h0 (c.1 e)),if_neg (by simp [h0,h1])]
     simp only [De,cond_false,Ad]
     rw [C3 (by omega),Ad,ew]
   .rw [decide_eq_false h1,if_pos (.inr h1)]
    simp only [Bool.not_false,cond_true,Ad]
    rw [Ael (Y3 _) J (by omega),Ad,Aej]
    by_cases h0:P = []
    .rw [if_pos (.inr (c.2 h0)),if_pos h0,c.2 h0,List.append_nil,C3 (by omega),Ad,ew]
    .rw [if_neg (by simp [ai,c,h0]),if_neg h0,C3 (by simp only [List.length_append,List.length_cons]; omega),Ad,ew]
end Go.Ab
namespace Go.Ab
open Go
def Hs (x:Ck) (q:A6×Nat):List Int:=Fy (Dt (sv q.1.Coef) (nv q.1.Coef)) (decide (q.2=0))++Kl x.Data x.Vars x.Res q.1
def Rz (x:Ck) (p:List A6):List Int:=if p = [] then [48] else p.zipIdx.flatMap (Hs x)
theorem Aw1 (data:List Ao) (vars:List Af) (res:Af) (t:A6):Kl data vars res t≠[]:=by
 have b:=Y8 data vars res t.Mono
 have c:Fk (Is t.Coef)≠[]:=by
  unfold Fk G2
  split
  .simp
  .simp [Pi]
 unfold Kl
 split
 .refine Y5 (by simp) fun s hs=>?_
  rcases List.mem_cons.1 hs with rfl | hs
  .exact c
  .exact (b s hs).1
 .rename_i h
  exact Y5 (fun e=>h (.inl e)) fun s hs=>(b s hs).1
theorem Amv (x:Ck) (q:A6×Nat):By (Hs x q):=(By.sgn _ _).app (U5 _ _ _ _)
theorem Aw2 {x:Ck} {q:A6×Nat} (h:I5 x q.1):(Hs x q).length<=6598000000003:=by
 have h1:=Nk (Dt (sv q.1.Coef) (nv q.1.Coef)) (decide (q.2=0))
 have h2:=Aer h
 unfold Hs
 rw [List.length_append]; omega
theorem Amw {p:List A6} {j:Nat} {t:A6} (h:p[j]? = some t):p.zipIdx[j]? = some (t,j):=by
 rw [List.getElem?_zipIdx,h]; simp
theorem Amx {x:Ck} {p:List A6} (h:∀t∈p,I5 x t) (b:p.length<=10) (j:Nat):((p.zipIdx.take j).flatMap (Hs x)).length<=65980000000030:=by
 have h1:=Alm (g:=Hs x) (n:=6598000000003) p.zipIdx j (fun q hq=>by
  obtain ⟨i,hi⟩:=List.getElem?_of_mem hq
  rw [List.getElem?_zipIdx] at hi
  cases hp:p[i]? with
  | none=>rw [hp] at hi; simp at hi
  | some t=>
   rw [hp] at hi
   simp at hi
   subst hi
   exact Aw2 (h t (Br hp)))
 rw [List.length_zipIdx] at h1
 have:p.length*6598000000003<=10*6598000000003:=Nat.mul_le_mul_right _ b
 omega
theorem Aw3 {x:Ck} (g:CSz x) {p:List A6} (hp:∀t∈p,TSz t) (i:Ir x/\Hh x.Data x.Vars x.Res p=true) (h:∀t∈p,I5 x t) (q:p.length<=10):N6 x p=some (bs (Rz x p)):=by
 obtain ⟨b,b1,b2⟩:=Ak4 x g p hp
 have hb:b=true:=b2.2 i
 subst hb
 unfold N6
 rw [b1,Ad,De,cond_false]
 refine Gj p.length (fun j=>(bs ((p.zipIdx.take j).flatMap (Hs x)),(j:Int))) (by simp [K5]) ?_ ?_
 .intro j hj
  obtain ⟨t,ht⟩:∃t,p[j]? = some t:=⟨_,B0 hj⟩
  have c:=h t (Br ht)
  have hgt:Ae p (j:Int)=some t:=Bv rfl ht
  have l:=Amx h q j
  have k:=Nk (Dt (sv t.Coef) (nv t.Coef)) (decide (j=0))
  simp only [Aj (show (j:Int)<(p.length:Int) by omega),cond_true,hgt,Ad,Ajg t.Coef _ c.rb (by decide)]
  refine Ad8 (by omega) ?_
  rw [Nl (Amw ht)]
  have:=Aw0 c (S:=(p.zipIdx.take j).flatMap (Hs x)++Fy (Dt (sv t.Coef) (nv t.Coef)) (decide (j=0))) (j:=j) (by omega) (by rw [List.length_append]; omega)
  rw [List.append_assoc] at this
  exact this
 .refine ⟨_,by simp only [Ap (show ¬(p.length:Int)<(p.length:Int) by omega),cond_false]; rfl,?_⟩
  have f:By ((p.zipIdx.take p.length).flatMap (Hs x)):=By.flat (Amv x) _
  rw [K5,Nm _ _ f By.nil]
  unfold Rz
  by_cases h0:p = []
  .subst h0; rfl
  .rw [if_neg h0,List.take_of_length_le (by simp)]
   rw [decide_eq_false (by
    cases p with
    | nil=>exact (h0 rfl).elim
    | cons t s=>
     intro e
     rw [List.zipIdx_cons,List.flatMap_cons] at e
     have:=(List.append_eq_nil_iff.1 e).1
     unfold Hs at this
     exact Aw1 _ _ _ _ (List.append_eq_nil_iff.1 this).2)]; rfl
theorem Aw4 {x:Ck} (D:CSz x) {p:List A6} (hp:∀t∈p,TSz t) (y:Ir x/\Hh x.Data x.Vars x.Res p=true) (h:∀t∈p,I5 x t) (z:p.length<=10):N5 x p=some (bs (Rz x p)):=by
 obtain ⟨r,B,A⟩:=Alp x D [p] (by intro q hq; rw [List.mem_singleton] at hq; subst hq; exact hp) (by simp)
 rcases A with ⟨_,L,rfl,_⟩ | ⟨c,_⟩
 .unfold N5
  rw [B,Ad]
  dsimp only
  rw [De,cond_false]
  unfold Rz
  cases p with
  | nil=>rfl
  | cons t b=>
   have g:=h t (by simp)
   have I:b.length<=9:=by simp at z; omega
   rw [B2 (by simp only [List.length_cons]; omega),cond_false,Aj (by simp only [List.length_cons]; omega),cond_true,if_neg (by simp)]
   have i:=Amx h z
   have G:=Aer g
   refine bnd (a:=(decide (Dt (sv t.Coef) (nv t.Coef)<0),Hs x (t,0))) ?_ ?_
   .rw [show Ae (t::b) 0=some t from rfl,Ad,Acu t.Coef _ g.rb (by decide),Ad,Amu g]
    unfold Hs Fy
    by_cases c:Dt (sv t.Coef) (nv t.Coef)<0
    .rw [Aj c,cond_true,c45,Kk Ad0 (by simp),Ad,Ad,Fz (U5 _ _ _ _) (by simp; omega),Ad]
     simp [c]
    .rw [Ap c,cond_false,Ad,Kk (U5 _ _ _ _) (by simp; omega),Ad]
     simp [c]
   .dsimp only
    refine Gj b.length (fun j=>(((j+1:Nat):Int),((t::b).zipIdx.take (j+1)).flatMap (Hs x))) (by simp [Ac,Bl]) ?_ ?_
    .intro j hj
     obtain ⟨u,hu⟩:∃u,(t::b)[j+1]? = some u:=⟨_,B0 (by simp; omega)⟩
     have f:=h u (Br hu)
     have l:Ae (t::b) ((j+1:Nat):Int)=some u:=Bv rfl hu
     have k:=i (j+1)
     have E:=Aer f
     have J:Ac (((j+1:Nat):Int)+1)=((j+1+1:Nat):Int):=by rw [Ac,Bl] <;> omega
     rw [Nl (Amw hu)]
     simp only [Aj (show ((j+1:Nat):Int)<((t::b).length:Int) by simp only [List.length_cons]; omega),cond_true,l,Ad,Acu u.Coef _ f.rb (by decide),B2 (show ((j+1:Nat):Int)≠0 by omega),cond_false,Aj (show ((j+1:Nat):Int)>0 by omega),Amu f,J]
     generalize ((t::b).zipIdx.take (j+1)).flatMap (Hs x)=X at k ⊢
     unfold Hs Fy
     dsimp only
     rw [decide_eq_false (show ¬j+1=0 by omega)]
     by_cases c:Dt (sv u.Coef) (nv u.Coef)<0
     .rw [Aj c,cond_true,Ady,Fz (by3 _ _ _ (by omega) (by omega) (by omega)) (by simp only [List.length_cons,List.length_nil]; omega),Ad]
      rw [Fz (U5 _ _ _ _) (by simp only [List.length_append,List.length_cons,List.length_nil]; omega),Ad]
      simp [c]
     .rw [Ap c,cond_false,Adz,Fz (by3 _ _ _ (by omega) (by omega) (by omega)) (by simp only [List.length_cons,List.length_nil]; omega),Ad]
      rw [Fz (U5 _ _ _ _) (by simp only [List.length_append,List.length_cons,List.length_nil]; omega),Ad]
      simp [c]
    .refine ⟨_,by simp only [Ap (show ¬((b.length+1:Nat):Int)<((t::b).length:Int) by simp only [List.length_cons]; omega),cond_false]; rfl,?_⟩
     have s:By (((t::b).zipIdx.take (b.length+1)).flatMap (Hs x)):=By.flat (Amv x) _
     rw [Ut s,List.take_of_length_le (by simp)]; rfl
 .exact (c ⟨y.1,by intro q hq; rw [List.mem_singleton] at hq; subst hq; exact y.2⟩).elim
theorem Aw5 (x:Ck) (p:List A6) (j:CSz x) (y:p.length<=1048576) (hp:∀t∈p,TSz t):Wk x p=some true:=by
 unfold Wk
 obtain ⟨b,b1,b2⟩:=Av8 x j [p] (by simp) (by intro q hq; rw [List.mem_singleton] at hq; subst hq; exact ⟨y,hp⟩)
 rw [b1,Ad]
 cases b with
 | false=>rfl
 | true=>
  have g:=(b2 rfl p (by simp)).1
  rw [De,cond_false]
  by_cases k:Ir x/\Hh x.Data x.Vars x.Res p=true
  .have i:=Adx.1 k.2
   have h:∀t∈p,I5 x t:=fun t ht=>⟨Avz (i.2.2 t ht) (hp t ht).mo,fun f z=>Awq j k.1 (i.2.2 t ht) (hp t ht).mo z,(i.2.1.coe t ht).1,(hp t ht).co⟩
   rw [Aw4 j hp k h g,Aw3 j hp k h g,Ad,Ad,show ((bs (Rz x p)).toList==(bs (Rz x p)).toList)=true from beq_self_eq_true _,cond_true,Alq]; rfl
  .obtain ⟨r,s,l⟩:=Alp x j [p] (by intro q hq; rw [List.mem_singleton] at hq; subst hq; exact hp) (by simp)
   have u:r = .inr false:=by
    rcases l with ⟨⟨g1,g2⟩,_⟩ | ⟨_,e⟩
    .exact (k ⟨g1,g2 p (by simp)⟩).elim
    .exact e
   subst u
   have B:N5 x p=some (bs []):=by
    unfold N5
    rw [s]; rfl
   obtain ⟨c,E,D⟩:=Ak4 x j p hp
   have hc:c=false:=by
    cases c with
    | false=>rfl
    | true=>exact (k (D.1 rfl)).elim
   subst hc
   have A:N6 x p=some (bs []):=by
    unfold N6
    rw [E]; rfl
   rw [B,A,Ad,Ad,show ((bs []).toList==(bs []).toList)=true from beq_self_eq_true _,cond_true,Alq]; rfl
end Go.Ab
