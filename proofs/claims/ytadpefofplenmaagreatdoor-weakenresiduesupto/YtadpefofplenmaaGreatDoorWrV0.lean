/- Contracts by walks. -/
import Derived.Test.YtadpefofplenmaaGreatDoorWrHand
import Derived.Test.YtadpefofplenmaaGreatDoorWrDef
open List
namespace Go.Ab
open Go Go.Proofs Go.Proofs.Tryz
set_option maxRecDepth 10000
set_option maxHeartbeats 4000000
set_option linter.unusedVariables false
abbrev bk{α:Type}(u:Nat)(v:Λ α):AV:=.arr u v.length 0 v.length
abbrev cd:=λu v w x y (z:Nat) (s:Nat)=>(.cells 129 [.sl 3 (map Dc u),.sl 3 (B4 v),eo w,eo x,.sl 3 (B4 y),.mp z,.mp s]:Bt)
abbrev ce{α:Type}:=λ(u:Nat) (v:Nat) (w:Λ α)=>(.cells 176 [.loc u 0,.arr v (List.length w) 0 (List.length w)]:Bt)
abbrev cg:=λu=>(.map (Bz eo u):Bt)
abbrev ch:=λu=>(.map (Bz (Ax 5 Ep) u):Bt)
abbrev ci:=λu=>(.rows 54 5 (map Bk u):Bt)
abbrev cj:=λu v w=>(.cells 40 [Av u,.sl 1 (map fo v),.sl 1 (map fo w)]:Bt)
abbrev ck:=λu=>(.rows 5 1 (map jo u):Bt)
abbrev cm:=λu=>(.rows 77 1 (map fo u):Bt)
abbrev cr:=λu v w x=>(.cells 124 [.sl 3 (map Dc u),.sl 7 (map V3 v),.sl 3 (B4 w),.sl 8 (map V4 x)]:Bt)
abbrev ct{α:Type}:=λ(u:Nat) (v:Nat) (w:Λ α)=>(.cells 131 [.mp u,.arr v (List.length w) 0 (List.length w)]:Bt)
abbrev cu:=λu=>(.rows 43 2 (map C9 u):Bt)
abbrev cv:=λu v w=>(.cells 170 [.sl 3 (map Dc u),eo v,eo w]:Bt)
abbrev cx{α β:Type}:=λ(u:Nat) (v:Λ α) (w:Nat) (x:Λ β)=>(.cells 52 [.arr u (List.length v) 0 (List.length v),.arr w (List.length x) 0 (List.length x)]:Bt)
abbrev cy{α:Type}:=λ(u:Nat) (v:Λ α)=>(.cells 176 [.val (.pointer none),.arr u (List.length v) 0 (List.length v)]:Bt)
abbrev da:=λu=>(.rows 48 3 (map Em u):Bt)
abbrev db:=λu=>(.rows 3 1 (map eo u):Bt)
abbrev dc:=λu=>(.rows 87 3 (map Fy u):Bt)
abbrev dd:=λu=>(.rows 40 3 (map B9 u):Bt)
abbrev de{α:Type}:=λu v (w:Nat) (x:Λ α)=>(.cells 25 [eo u,eo v,.arr w (List.length x) 0 (List.length x)]:Bt)
abbrev df{α:Type}:=λ(u:Nat) (v:Λ α) (w:Nat)=>(.cells 52 [.arr u (List.length v) 0 (List.length v),.arr w 0 0 0]:Bt)
abbrev dh:=λu=>(.cells 3 [eo u]:Bt)
abbrev di:=λu=>(.cells 176 [.val (.pointer none),.fb u]:Bt)
abbrev dj:=λ(u:Nat)=>(.cells 168 [.loc u 0]:Bt)
abbrev dn:=λu=>(.rows 25 3 (B4 u):Bt)
abbrev dp:=λ(u:Nat)=>(.cells 88 [.loc u 0]:Bt)
variable{a0:A8}{a1:Int}
abbrev Asj(k:Nat):Prop:=∀{a0:Ay}{a1:Int},OK (P3 k a0 a1) λr=>ib 34 [Hx a0,eo a1] (eo r)
theorem A45(k:Nat):Asj k:=by induction k with|zero=>exact okz|succ k ih=>refine@λa0 a1=>⟨λ{r} h=>?_⟩;unfold P3 at h;refine pw C0 func34 ?_;refine Bc h (λ(a,b)=>[(4,eo 0),(5,eo a),(10,eo b)]) ia ?_;rintro⟨a,b⟩ _ _ _ h _ _;exact Y
instance{k:Nat}:Asj k:=(A45 k)
instance{a0:Aw}:OK (N0 a0) λr=>ib 16 [Hi a0] (Av r):=⟨λh=>by refine pw C0 func16 ?_;refine ZR ?_;refine Az (Az ?_);refine Ce h (λb=>[(14,Av b)]) ia ?_;rintro b _ h;refine Dz h (λ_ h=>?_) λ_ h=>?_;exact Y;refine Bc h (λd=>[(2,Av false),(18,eo d)]) ia ?_;rintro d _ _ _ h _ _;refine Ca h λ_ h=>?_;replace h:=C3 h;refine Bc h (λa=>[(2,Av false),(33,eo a)]) ia ?_;rintro a _ _ _ h _ _;exact Y⟩
instance{a0:An}:OK (Q4 a0) λr=>ib 15 [B9 a0] (Av r):=⟨λh=>by refine pw C0 func15 ?_;exact Y⟩
instance{a0:Bi}:OK (N1 a0 a1) λr=>ib 17 [Ax 3 B9 a0,eo a1] (Av r):=⟨λh=>by refine pw C0 func17 ?_;refine Ca h λ_ h=>?_;refine Bc h (λa=>[(4,Av false),(12,eo a)]) ia ?_;rintro a _ _ _ h _ _;exact Y⟩
instance{a0:Ec}:OK (Aav a0 a1) λr=>ib 6 [Ax 13 Nf a0,eo a1] (Av r):=⟨λh=>by refine pw C0 func6 ?_;refine Ca h λ_ h=>?_;refine Bc h (λa=>[(4,Av false),(13,eo a)]) ia ?_;rintro a _ _ _ h _ _;exact Y⟩
instance:OK (Aax a0) λr=>ib 12 [Gi a0] (Av r):=⟨λh=>by refine pw C0 func12 ?_;exact Y⟩
instance{a0:Bo}{a2:Int}:OK (Aay a0 a1 a2) λr=>ib 13 [Ax 2 Dq a0,eo a1,eo a2] (Av r):=⟨λh=>by refine pw C0 func13 ?_;refine Ca h λ_ h=>?_;refine Bc h (λa=>[(6,Av false),(14,eo a)]) ia ?_;rintro a _ _ _ h _ _;exact Y⟩
instance{a0:Ad}:OK (Xq a0 a1) λr=>ib 14 [Ax 5 Bk a0,eo a1] (Av r):=⟨λh=>by refine pw C0 func14 ?_;refine Ca h λ_ h=>?_;refine Bc h (λa=>[(4,Av false),(12,eo a)]) ia ?_;rintro a _ _ _ h _ _;exact Y⟩
instance{a1:Bo}{a2 a:Ad}:OK (Aau a0 a1 a2 a) λr=>ib 5 [Gi a0,Ax 2 Dq a1,Ax 5 Bk a2,Ax 5 Bk a] (Av r):=⟨λh=>by refine pw C0 func5 ?_;exact Y⟩
instance{a0:Ag}:OK (Mb a0) λr=>ib 104 [Ax 1 fo a0] (Ax 1 fo r):=⟨λh=>by refine pw (C1 (iv 2 0 1 ij)) func104 ?_;refine Bc h (λa=>[(3,eo a)]) ia ?_;rintro a _ _ _ h _ _;exact Y⟩
variable{a0 a1:Ag}
instance:OK (Xw a0) λr=>ib 56 [Ax 1 fo a0] (Ax 1 fo r):=⟨λh=>by refine pw (ii (iz 3 .own ix) (iv 3 0 1 (iv 2 0 1 ij))) func56 ?_;refine Bc h (λ(b,d,a)=>[(3,bk 0 a),(4,io b),(5,eo d)]) (λ(b,d,a)=>[(0,cm a)]) ?_;rintro⟨b,d,a⟩ _ _ _ h _ _;refine Ca h λ_ h=>?_;replace h:=C3 h;refine B3 h (λ_ h=>?_) λ_ h=>?_;refine Z ?_;refine Mg h λ_ h=>?_;refine ZO ?_;refine Az ?_;refine Et [.fz 3] ?_;exact Y;refine Kr (Az ?_);refine Et [.fz 3] ?_;exact Y⟩
instance:OK (Abg a0 a1) λr=>ib 107 [Ax 1 fo a0,Ax 1 fo a1] (io r):=⟨λh=>by refine pw C0 func107 ?_;exact Y⟩
instance{a0:Int}:OK (O3 a0) λr=>ib 29 [io a0] (Ax 1 fo r):=⟨λh=>by refine pw (ii (iz 3 .own ix) (iv 3 0 1 (iv 2 0 1 ij))) func29 ?_;refine Bc h (λ(b,a)=>[(0,io b),(3,bk 0 a)]) (λ(b,a)=>[(0,cm a)]) ?_;rintro⟨b,a⟩ _ _ _ h _ _;exact Y⟩
instance:OK (Sv a0 a1) λr=>ib 105 [Ax 1 fo a0,Ax 1 fo a1] (eo r):=⟨λh=>by refine pw C0 func105 ?_;refine Ca h λ_ h=>?_;refine Bc h (λa=>[(4,eo 0),(5,eo a)]) ia ?_;rintro a _ _ _ h _ _;exact Y⟩
instance:OK (Md a0 a1) λr=>ib 108 [Ax 1 fo a0,Ax 1 fo a1] (Ax 1 fo r):=⟨λh=>by refine pw (C1 (iv 4 0 1 ij)) func108 ?_;refine Z ?_;refine Js h λk h=>?_;refine Z ?_;refine Gk h (λ(d,a)=>[(6,eo d)]) (λ(d,a)=>[(0,cm a)]) (λ(d,a)=>k.length=a.length) ?_;rintro⟨d,a⟩ _ _ _ h _ _ l;refine B3 h (λ_ h=>?_) λ_ h=>?_;refine Z ?_;refine Gk h (λ(e,g,b)=>[(7,io e),(8,eo g)]) (λ(e,g,b)=>[(0,cm b)]) (λ(e,g,b)=>k.length=b.length) ?_;rintro⟨e,g,b⟩ _ _ _ h _ _ m;refine Az (Az ?_);refine Ce h (λi=>[(29,Av i)]) ia ?_;rintro i _ h;refine Dz h (λ_ h=>?_) λ_ h=>?_;refine Z ?_;refine J0 h λ_ _ _ _ h=>?_;refine ZR ?_;refine Ce h (λj=>[(7,io j)]) ia ?_;rintro j _ h;exact Y;exact Y;replace h:=C3 h;refine Hh (Hg rfl (Az ?_));refine Et [.fz 5] ?_;exact Y⟩
instance{a1:Int}:OK (Abf a0 a1) λr=>ib 106 [Ax 1 fo a0,io a1] (.tup [Ax 1 fo r.1,io r.2]):=⟨λh=>by refine pw (C1 (iv 4 0 1 ij)) func106 ?_;refine Z ?_;refine Js h λe h=>?_;refine Z ?_;refine Gk h (λ(b,d,a)=>[(7,io b),(8,eo d)]) (λ(b,d,a)=>[(0,cm a)]) (λ(b,d,a)=>e.length=a.length) ?_;rintro⟨b,d,a⟩ _ _ _ h _ _ g;refine Ca h λ_ h=>?_;replace h:=C3 h;refine Hh (Hg rfl (Az ?_));refine Et [.fz 6] ?_;exact Y⟩
instance:OK (Sw a0 a1) λr=>ib 109 [Ax 1 fo a0,Ax 1 fo a1] (Ax 1 fo r):=⟨λh=>by refine pw (C1 (iv 4 0 1 ij)) func109 ?_;refine Z ?_;refine Js h λg h=>?_;refine Z ?_;refine Gk h (λ(b,d,a)=>[(6,fo b),(7,eo d)]) (λ(b,d,a)=>[(0,cm a)]) (λ(b,d,a)=>g.length=a.length) ?_;rintro⟨b,d,a⟩ _ _ _ h _ _ i;refine B3 h (λ_ h=>?_) λ_ h=>?_;refine ZS ?_;refine G2 ?_;refine ZR ?_;refine Ce h (λe=>[(8,fo e)]) ia ?_;rintro e _ h;exact Y;replace h:=C3 h;refine Hh (Hg rfl (Az ?_));refine Et [.fz 5] ?_;exact Y⟩
instance:OK (U4 a0 a1) λr=>ib 58 [Ax 1 fo a0,Ax 1 fo a1] (.tup [Ax 1 fo r.1,Ax 1 fo r.2]):=⟨λh=>by refine pw (ii (iz 50 (.frz 0) (iz 47 .own ix)) (iv 9 0 1 (iv 5 0 1 (iv 4 0 1 ij)))) func58 ?_;refine Bx h λ_ h=>?_;refine Ca h λ_ h=>?_;refine Ca h λ_ h=>?_;refine Z ?_;refine Js h λk h=>?_;refine Z ?_;refine Gk h (λ(e,g,d)=>[(9,.sl 1 (map fo e)),(10,eo g)]) (λ(e,g,d)=>[(0,cm d)]) (λ(e,g,d)=>k.length=d.length) ?_;rintro⟨e,g,d⟩ _ _ _ h _ _ l;refine B3 h (λ_ h=>?_) λ_ h=>?_;refine Cu h λ_ _ _ _ h=>?_;refine Z ?_;refine Mg h λm h=>?_;refine Z ?_;refine Eb h λn i h=>?_;refine Aqq.mk _ (OK.ok i :) rfl ?_;refine Bx h λ_ h=>?_;refine Bc h (λj=>[(11,io j)]) ia ?_;rintro j _ _ _ h _ _;refine Z ?_;refine Hv h (λ_ h=>?_) λ_ h=>?_;refine Bx h λ_ h=>?_;refine Bx h λ_ h=>?_;refine Bx h λ_ h=>?_;refine Ca h λ_ h=>?_;replace h:=C3 h;refine Bx h λ_ h=>?_;refine Bx h λ_ h=>?_;refine Bx h λ_ h=>?_;refine Bc h (λ(a,b)=>[(9,.sl 1 (map fo a)),(11,io b)]) ia ?_;rintro⟨a,b⟩ _ _ _ h _ _;exact Y;replace h:=C3 h;refine Bx h λ_ h=>?_;refine Bx h λ_ h=>?_;refine Bx h λ_ h=>?_;refine Bc h (λ(a,b)=>[(9,.sl 1 (map fo a)),(11,io b)]) ia ?_;rintro⟨a,b⟩ _ _ _ h _ _;exact Y;replace h:=C3 h;refine Hh (Hg rfl (Az ?_));refine Et [.fz 8] ?_;exact Y⟩
instance:OK (Aa3 a0 a1) λr=>ib 57 [Ax 1 fo a0,Ax 1 fo a1] (Ax 1 fo r):=⟨λh=>by refine pw (C1 (iv 4 0 1 ij)) func57 ?_;refine Bc h (λ(a,b)=>[(0,.sl 1 (map fo a)),(1,.sl 1 (map fo b))]) ia ?_;rintro⟨a,b⟩ _ _ _ h _ _;exact Y⟩
instance{a0:Bool}{a2:Ag}:OK (La a0 a1 a2) λr=>ib 28 [Av a0,Ax 1 fo a1,Ax 1 fo a2] (B9 r):=⟨λh=>by refine pw (C1 (iv 21 1 1 ij)) func28 ?_;refine Bx h λ_ h=>?_;refine Bx h λ_ h=>?_;refine ZO ?_;refine Az (Az ?_);refine Ce h (λa=>[(19,Av a)]) ia ?_;rintro a _ h;refine Dz h (λ_ h=>?_) λ_ h=>?_;exact Y;refine Bx h λ_ h=>?_;refine ZO ?_;refine Az (Az ?_);refine Ce h (λb=>[(33,Av b)]) ia ?_;rintro b _ h;exact Y⟩
instance{a0:Int}:OK (I6 a0) λr=>ib 10 [eo a0] (B9 r):=⟨λh=>by refine pw C0 func10 ?_;exact Y⟩
instance{a0:Nat}{b0:Ag}:OK (X3 a0 b0) λr=>ic 113 [.arr 0 b0.length 0 a0] [db b0] (.arr 0 r.2.length 0 r.1) [db r.2]:=⟨λh=>by refine aw (C1 (iv 2 0 1 ij)) false func113 ?_;refine Ca h λ_ h=>?_;refine Bc h (λi=>[(2,.sl 1 (map eo [])),(3,eo i)]) ia ?_;rintro i _ _ _ h _ _;refine B3 h (λ_ h=>?_) λ_ h=>?_;refine Z ?_;refine Ie h λ_ _ _ _ h=>?_;refine Z ?_;refine Ie h λ_ _ _ _ h=>?_;refine B3 h (λ_ h=>?_) λ_ h=>?_;refine Z ?_;refine L6 (f:=eo) (l:=b0) rfl rfl h λp h=>?_;refine Z ?_;refine Gk h (λ(d,g,a)=>[(3,eo d),(5,eo g)]) (λ(d,g,a)=>[(0,db a)]) (λ(d,g,a)=>b0.length=a.length) ?_;rintro⟨d,g,a⟩ _ _ _ h _ _ b;refine B3 h (λ_ h=>?_) λ_ h=>?_;refine Z ?_;refine Ie h λ_ _ _ _ h=>?_;refine Z ?_;refine Ie h λ_ _ _ _ h=>?_;refine B3 h (λ_ h=>?_) λ_ h=>?_;refine Z ?_;refine Ie h λ_ m _ _ h=>?_;refine Z ?_;refine Ie h λ_ _ k _ h=>?_;refine Z ?_;refine Jj (f:=eo) (x:=m) (j:=(((0:Nat):Int)+d)) rfl rfl rfl (Sh _ k) ?_;exact Y;exact Y;replace h:=C3 h;refine Z ?_;refine Px (f:=eo) (l:=a) rfl b h (λq h=>?_) λh=>?_;refine Z ?_;refine A3m (f:=eo) (l:=a) (z:=(0:Int)) rfl rfl b h λn e h=>?_;refine Z ?_;refine Aap (f:=eo) (l:=n) rfl (Ark b e) h λt h=>?_;replace h:=C3 h;refine Z ?_;cases h;exact⟨congrArg (λo=>AV.arr 0 o 0 _) (Ark b e),rfl,trivial⟩;refine Z ?_;refine Aap (f:=eo) (l:=a) rfl b h λu h=>?_;replace h:=C3 h;refine Z ?_;cases h;exact⟨congrArg (λo=>AV.arr 0 o 0 _) b,rfl,trivial⟩;exact Y;exact Y⟩
variable{a0 a1:Int}{b0:Ag}
instance:OK (Afz a0) λr=>ib 223 [io a0] (eo r):=⟨λh=>by refine pw C0 func223 ?_;refine ZS ?_;refine G2 ?_;refine ZR ?_;refine Ce h (λ(a,b)=>[(0,io a),(2,eo b)]) ia ?_;rintro⟨a,b⟩ _ h;refine ZR ?_;refine Ce h (λ(d,e)=>[(0,io d),(2,eo e)]) ia ?_;rintro⟨d,e⟩ _ h;refine ZR ?_;refine Ce h (λ(g,i)=>[(0,io g),(2,eo i)]) ia ?_;rintro⟨g,i⟩ _ h;exact Y⟩
instance:OK (U8 a0) λr=>ib 139 [io a0] (eo r):=⟨λh=>by refine pw C0 func139 ?_;exact Y⟩
instance:OK (Vj a0) λr=>ib 224 [eo a0] (Av r):=⟨λh=>by refine pw C0 func224 ?_;exact Y⟩
instance:OK (Alf a0 a1) λr=>ib 258 [eo a0,eo a1] (Av r):=⟨λh=>by refine pw C0 func258 ?_;exact Y⟩
instance:OK (Ale a0 a1 b0) λr=>ic 252 [bk 0 b0,eo a0,eo a1] [db b0] (.tup []) [db r]:=⟨λh=>by refine aw C0 true func252 ?_;refine Z ?_;refine Gk h (λ(d,a)=>[(6,eo d)]) (λ(d,a)=>[(0,db a)]) (λ(d,a)=>b0.length=a.length) ?_;rintro⟨d,a⟩ _ _ _ h _ _ i;refine B3 h (λ_ h=>?_) λ_ h=>?_;refine Z ?_;refine Gk h (λ(e,b)=>[(7,eo e)]) (λ(e,b)=>[(0,db b)]) (λ(e,b)=>b0.length=b.length) ?_;rintro⟨e,b⟩ _ _ _ h _ _ j;refine Az (Az ?_);refine Ce h (λg=>[(30,Av g)]) ia ?_;rintro g _ h;exact Y;exact Y⟩
instance{a2:Int}:OK (Alb a0 a1 a2 b0) λr=>ic 184 [bk 0 b0,eo a0,eo a1,eo a2] [db b0] (.tup []) [db r]:=⟨λh=>by refine aw C0 true func184 ?_;refine Bc h (λ_=>[(1,eo a0),(2,eo a1),(3,eo a2),(8,Av true),(9,Av true)]) ia ?_;rintro _ _ _ _ h _ _;refine B3 h (λ_ h=>?_) λ_ h=>?_;refine D1 [0] h λ_ h=>?_;refine Eb h λb a h=>?_;exact Y;exact Y⟩
theorem A46{r:Ag}(h:Ar1 b0=some r):ic 112 [bk 0 b0] [db b0] (.tup []) [db r]:=by refine aw C0 true func112 ?_;refine Bx h λ_ h=>?_;refine D1 [0] h λ_ h=>?_;refine Eb h λb a h=>?_;exact Y
instance:OK (Abi b0) λr=>ic 112 [bk 0 b0] [db b0] (.tup []) [db r]:=⟨λh=>by cases b0 with|nil=>exact A46 h|cons b l=>exact A4k h ψ⟩
instance{a0:Bo}:OK (Xx a0) λr=>ib 60 [Ax 2 Dq a0] (Ax 1 eo r):=⟨λh=>by refine pw (ii (iz 3 .own ix) (iv 3 0 1 (iv 2 0 1 ij))) func60 ?_;refine Bc h (λ(e,a)=>[(3,.arr 0 a.length 0 a.length),(10,eo e)]) (λ(e,a)=>[(0,.rows 3 1 (map eo a))]) ?_;rintro⟨e,a⟩ _ _ _ h _ _;refine B3 h (λ_ h=>?_) λ_ h=>?_;refine Cu h λ_ _ _ _ h=>?_;refine Bc h (λ(g,b)=>[(3,.arr 0 b.length 0 b.length),(17,eo g)]) (λ(g,b)=>[(0,.rows 3 1 (map eo b))]) ?_;rintro⟨g,b⟩ _ _ _ h _ _;exact Y;replace h:=C3 h;refine Z ?_;refine Y6 [0] h λm h=>?_;refine Eb h λn i h=>?_;refine Z ?_;refine Eb h λk j h=>?_;have d:=(OK.ok j :);rw[<-(K7 i)]at d;refine G6.act [0] _ _ _ _ d rfl rfl ⟨rfl,trivial⟩ ?_;refine ZO ?_;refine Et [.fzp 2] ?_;refine Aao (f:=eo) (l:=k.2) rfl rfl h λo h=>?_;exact Y⟩
instance:OK (X2 a0) λr=>ib 110 [eo a0] (Av r):=⟨λh=>by refine pw C0 func110 ?_;exact Y⟩
instance:OK (Abh a0) λr=>ib 111 [eo a0] (Av r):=⟨λh=>by refine pw C0 func111 ?_;exact Y⟩
instance{a0:Aq}:OK (Ks a0) λr=>ib 59 [Dq a0] (Av r):=⟨λh=>by refine pw C0 func59 ?_;refine ZR ?_;refine Az (Az ?_);refine Ce h (λa=>[(14,Av a)]) ia ?_;rintro a _ h;refine Dz h (λ_ h=>?_) λ_ h=>?_;exact Y;refine Bc h (λb=>[(2,Av false),(18,eo b)]) ia ?_;rintro b _ _ _ h _ _;exact Y⟩
variable{a0:Ad}
instance{a0:Bo}:OK (Uz a0) λr=>ib 30 [Ax 2 Dq a0] (Av r):=⟨λh=>by refine pw C0 func30 ?_;refine Ca h λ_ h=>?_;refine Bc h (λa=>[(2,Av false),(10,eo a)]) ia ?_;rintro a _ _ _ h _ _;exact Y⟩
instance{a0:Is}:OK (Aa4 a0) λr=>ib 63 [Td a0] (eo r):=⟨λh=>by refine pw C0 func63 ?_;exact Y⟩
instance{a0:Ag}:OK (Mf a0) λr=>ib 189 [Ax 1 fo a0] (Ax 1 fo r):=⟨λh=>by refine pw (C1 (iv 2 0 1 ij)) func189 ?_;refine Bc h (λa=>[(3,eo a)]) ia ?_;rintro a _ _ _ h _ _;exact Y⟩
instance{a0:Ag}:OK (X4 a0) λr=>ib 116 [Ax 1 fo a0] (Ax 1 fo r):=⟨λh=>by refine pw (C1 (iv 2 0 1 ij)) func116 ?_;refine Z ?_;refine Js h λ_ h=>?_;refine Bc h (λ(b,d,a)=>[(3,bk 0 a),(4,io b),(13,eo d)]) (λ(b,d,a)=>[(0,cm a)]) ?_;rintro⟨b,d,a⟩ _ _ _ h _ _;refine Ca h λ_ h=>?_;replace h:=C3 h;refine B3 h (λ_ h=>?_) λ_ h=>?_;refine Z ?_;refine Mg h λ_ h=>?_;refine ZO ?_;refine Az ?_;refine Et [.fz 3] ?_;exact Y;refine Kr (Az ?_);refine Et [.fz 3] ?_;exact Y⟩
instance{a0:An}:OK (N4 a0) λr=>ib 62 [B9 a0] (Td r):=⟨λh=>by refine pw (C1 (iv 20 1 1 ij)) func62 ?_;refine Bx h λ_ h=>?_;refine Bx h λ_ h=>?_;refine ZO ?_;refine Az (Az ?_);refine Ce h (λa=>[(18,Av a)]) ia ?_;rintro a _ h;exact Y⟩
instance{a0:An}:OK (I7 a0) λr=>ib 32 [B9 a0] (eo r):=⟨λh=>by refine pw C0 func32 ?_;exact Y⟩
instance{a0:Ae}:OK (Ak3 a0) λr=>ib 65 [Bk a0] (Av r):=⟨λh=>by refine pw C0 func65 ?_;exact Y⟩
instance:OK (Ak4 a0) λr=>ib 117 [Ax 5 Bk a0,.fn 65 []] (eo r):=⟨λh=>by refine pw C0 func117 ?_;refine Bc h (λa=>[(4,eo 0),(8,eo a)]) ia ?_;rintro a _ _ _ h _ _;exact Y⟩
instance:OK (Ak2 a0) λr=>ib 64 [Ax 5 Bk a0,.fn 65 []] (Av r):=⟨λh=>by refine pw C0 func64 ?_;exact Y⟩
instance:OK (Afq a0) λr=>ib 33 [Ax 5 Bk a0] (Av r):=⟨λh=>by refine pw C0 func33 ?_;exact Y⟩
instance{a0:A0}:OK (Ak8 a0) λr=>ib 122 [V5 (Lq.mk a0 [] [] [])] (Av r):=⟨λh=>by refine pw C0 func122 ?_;refine Z ?_;refine Js h λ_ h=>?_;refine Bc h (λ_=>[(2,Av false),(20,eo 0)]) ia ?_;rintro _ _ _ _ h _ _;replace h:=C3 h;refine Bc h (λ_=>[(2,Av false),(40,eo 0)]) ia ?_;rintro _ _ _ _ h _ _;exact Y⟩
instance{a0:A0}:OK (Ak6 a0) λr=>ib 120 [V5 (Lq.mk a0 [] [] [])] (Av r):=⟨λh=>by refine pw C0 func120 ?_;refine Bc h (λ_=>[(2,Av false),(4,Av false),(21,eo 0)]) ia ?_;rintro _ _ _ _ h _ _;exact Y⟩
variable{a0:Β}
instance{a0:Int}:OK (Aci a0) λr=>ib 333 [jo a0] (Av r):=⟨λh=>by refine pw C0 func333 ?_;exact Y⟩
instance:OK (Acq a0) λr=>ib 377 [E5 a0] (Av r):=⟨λh=>by refine pw C0 func377 ?_;exact Y⟩
instance{a0:Int}:OK (Ta a0) λr=>ib 378 [jo a0] (Av r):=⟨λh=>by refine pw C0 func378 ?_;exact Y⟩
instance{a0:Int}:OK (Y0 a0) λr=>ib 373 [jo a0] (Av r):=⟨λh=>by refine pw C0 func373 ?_;exact Y⟩
instance{a0:Int}:OK (Vy a0) λr=>ib 374 [jo a0] (Av r):=⟨λh=>by refine pw C0 func374 ?_;exact Y⟩
instance{a0:Int}:OK (Y1 a0) λr=>ib 376 [jo a0] (Av r):=⟨λh=>by refine pw C0 func376 ?_;exact Y⟩
instance:OK (Acp a0) λr=>ib 375 [E5 a0,.fn 376 []] (E5 r):=⟨λh=>by refine pw C0 func375 ?_;refine Bc h (λa=>[(5,eo a)]) ia ?_;rintro a _ _ _ h _ _;exact Y⟩
instance:OK (Agg a0) λr=>ib 375 [E5 a0,.fn 378 []] (E5 r):=⟨λh=>by refine pw C0 func375 ?_;refine Bc h (λa=>[(5,eo a)]) ia ?_;rintro a _ _ _ h _ _;exact Y⟩
instance:OK (Acs a0) λr=>ib 380 [E5 a0] (E5 r):=⟨λh=>by refine pw C0 func380 ?_;refine ZS ?_;refine G2 ?_;refine ZR ?_;refine Ago (λ(x:Unit)=>(.inr x)) h (λ_=>[(2,E5 (ByteArray.mk #[]))]) ia ?_ ?_;intro _ h _ _ _;exact Y;rintro _ _ h;exact Y⟩
instance:OK (Acr a0) λr=>ib 379 [E5 a0] (Av r):=⟨λh=>by refine pw C0 func379 ?_;refine Bc h (λ(a,b)=>[(2,Av false),(3,eo a),(7,eo b)]) ia ?_;rintro⟨a,b⟩ _ _ _ h _ _;exact Y⟩
instance{a1:Int}:OK (Acj a0 a1) λr=>ib 334 [E5 a0,eo a1] (.tup [Agf r.1,eo r.2]):=⟨λh=>by refine pw C0 func334 ?_;refine Z ?_;refine O1 h λ_ h=>?_;refine ZO ?_;refine M3 (Az ?_);refine Ce h (λb=>[(23,Av b)]) ia ?_;rintro b _ h;refine Dz h (λ_ h=>?_) λ_ h=>?_;exact Y;refine Bx h λ_ h=>?_;refine B3 h (λ_ h=>?_) λ_ h=>?_;refine Z ?_;refine Aku h λ_ _ _ _ h=>?_;refine Bx h λ_ h=>?_;refine ZO ?_;refine Az (Az ?_);refine Ce h (λa=>[(67,Av a)]) ia ?_;rintro a _ h;exact Y;exact Y⟩
instance:OK (Af5 a0) λr=>ib 266 [E5 a0] (.tup [Ax 3 Agf r.1,eo r.2.1,eo r.2.2]):=⟨λh=>by refine pw (ii (iz 5 .own ix) (iv 5 0 3 (iv 2 0 3 ij))) func266 ?_;refine Ca h λ_ h=>?_;refine Bc h (λ(b,a)=>[(2,.sl 3 (map Agf [])),(3,eo 0),(4,eo 0),(5,bk 0 a),(6,eo b)]) (λ(b,a)=>[(0,.rows 319 3 (map Agf a))]) ?_;rintro⟨b,a⟩ _ _ _ h _ _;refine B3 h (λ_ h=>?_) λ_ h=>?_;refine Z ?_;refine O1 h λ_ h=>?_;refine Bx h λ_ h=>?_;refine Ca h λ_ h=>?_;refine Z ?_;refine O1 h λ_ h=>?_;refine B3 h (λ_ h=>?_) λ_ h=>?_;refine Bc h (λd=>[(6,eo d)]) ia ?_;rintro d _ _ _ h _ _;exact Y;exact Y;exact Y⟩
instance{a0:Β}:OK (Vd a0) λr=>ib 190 [E5 a0] (Av r):=⟨λh=>by refine pw C0 func190 ?_;exact Y⟩
abbrev Ask(k:Nat):Prop:=∀{a0:Ai}{a1:Int},OK (Vo k a0 a1) λr=>ib 268 [Fx a0,eo a1] (Av r)
abbrev Asl(k:Nat):Prop:=∀{a0:Ai}{b0:Int},OK (Ack k a0 b0) λr=>ic 335 [Fx a0,.loc 0 0] [dh b0] (Av r) [dh b0]
abbrev Asm(k:Nat):Prop:=∀{a0:A1}{b0:Int},OK (Y3 k a0 b0) λr=>ic 192 [Jz 3 B4 a0,.fn 335 [.loc 0 0]] [dh b0] (Av r) [dh b0]
abbrev Asn(k:Nat):Prop:=∀{a0:A1}{b0:Int},OK (Agh k a0 b0) λr=>ic 269 [Jz 3 B4 a0,.fn 335 [.loc 0 0]] [dh b0] (eo r) [dh b0]
theorem Agp(k:Nat):Ask k/\Asl k/\Asm k/\Asn k:=by induction k with|zero=>exact⟨okz,okz,okz,okz⟩|succ k ih=>obtain⟨b,d,e,g⟩:=ih;refine⟨@λa0 a1=>⟨λ{r} h=>?_⟩,@λa0 b0=>⟨λ{r} h=>?_⟩,@λa0 b0=>⟨λ{r} h=>?_⟩,@λa0 b0=>⟨λ{r} h=>?_⟩⟩;unfold Vo at h;refine pw C0 func268 ?_;refine Z ?_;refine Hv h (λ_ h=>?_) λ_ h=>?_;refine Z ?_;refine Hv h (λ_ h=>?_) λ_ h=>?_;exact Y;exact Cv [1] h;exact Cv [1] h;unfold Ack at h;refine aw C0 true func335 ?_;exact Y;unfold Y3 at h;refine aw C0 true func192 ?_;exact Cv [0] h;unfold Agh at h;refine aw C0 true func269 ?_;refine Bc h (λa=>[(4,eo 0),(8,eo a)]) ia ?_;rintro a _ _ _ h _ _;refine B3 h (λ_ h=>?_) λ_ h=>?_;refine Cu h λ_ _ _ _ h=>?_;exact Cv [0] h;exact Y
instance{k:Nat}:Ask k:=(Agp k).1
instance{k:Nat}:Asl k:=(Agp k).2.1
instance{k:Nat}:Asm k:=(Agp k).2.2.1
instance{k:Nat}:Asn k:=(Agp k).2.2.2
instance{a0:A0}{a1 a2:Int}:OK (Yn a0 a1 a2) λr=>ib 267 [Ax 3 Dc a0,eo a1,eo a2] (Ax 1 Av r):=⟨λh=>by refine pw (C1 (iv 6 0 1 ij)) func267 ?_;refine ZR ?_;refine Az (Az ?_);refine Ce h (λt=>[(34,Av t)]) ia ?_;rintro t _ h;refine Dz h (λ_ h=>?_) λ_ h=>?_;exact Y;refine Cu h λ_ _ _ _ h=>?_;refine Cu h λ_ _ _ _ h=>?_;refine Z ?_;refine Js h λu h=>?_;refine Z ?_;refine Gk h (λ(a,b)=>[(49,eo a)]) (λ(a,b)=>[(0,.rows 4 1 (map Av b))]) (λ(a,b)=>u.length=b.length) ?_;rintro⟨a,b⟩ _ _ _ h _ _ i;refine B3 h (λ_ h=>?_) λ_ h=>?_;refine Z ?_;refine Tf h λ_ k _ _ h=>?_;refine ZO ?_;refine Az ?_;refine Si h λv h w=>?_;refine M4 (λ(d:In)=>d=v/\u.length=d.length) ia (λd=>[(0,.rows 4 1 (map Av d))]) (λ_=>rfl) ?_ ?_;intro C m;refine Z ?_;refine Hv h (λ_ h=>?_) λ_ h=>?_;refine Z ?_;refine Hv h (λ_ h=>?_) λ_ h=>?_;refine Z ?_;refine Tf h λ_ n _ _ h=>?_;refine Z ?_;refine J0 h λ_ _ o _ h=>?_;refine Z ?_;refine Jj (f:=Av) (x:=((k.R.length:Int)==n.V)) (j:=a) rfl rfl (Nat.zero_add _) o ?_;refine Z ?_;exact m (Cd b a ((k.R.length:Int)==n.V)) _ _ _ ⟨Option.some.inj h,Fw (l:=b) i a ((k.R.length:Int)==n.V)⟩ trivial ⟨⟨rfl,rfl⟩,⟨rfl,rfl⟩,trivial⟩;refine Z ?_;refine J0 h λ_ _ p _ h=>?_;refine Z ?_;refine Jj (f:=Av) (x:=false) (j:=a) rfl rfl (Nat.zero_add _) p ?_;refine Z ?_;exact m (Cd b a false) _ _ _ ⟨Option.some.inj h,Fw (l:=b) i a false⟩ trivial ⟨⟨rfl,rfl⟩,⟨rfl,rfl⟩,trivial⟩;refine Z ?_;refine J0 h λ_ _ q _ h=>?_;refine Z ?_;refine Jj (f:=Av) (x:=false) (j:=a) rfl rfl (Nat.zero_add _) q ?_;refine Z ?_;exact m (Cd b a false) _ _ _ ⟨Option.some.inj h,Fw (l:=b) i a false⟩ trivial ⟨⟨rfl,rfl⟩,⟨rfl,rfl⟩,trivial⟩;rintro d D ⟨y,A⟩;have h:=w _ y;refine Z ?_;refine Gk h (λ(g,e)=>[(80,eo g)]) (λ(g,e)=>[(0,.rows 4 1 (map Av e))]) (λ(g,e)=>u.length=e.length) ?_;rintro⟨g,e⟩ _ _ _ h _ _ B;exact Y;exact Y⟩
variable{a2:Int}{a0:A0}{b0:Lq}
abbrev Aso(k:Nat):Prop:=∀{a0:A1}{b1:Hy},OK (Y4 k a0 b1) λr=>ic 192 [Jz 3 B4 a0,.fn 200 [.loc 0 0]] [dj 1,cv b1.data b1.vars b1.left] (Av r.1) [dj 1,cv r.2.data r.2.vars r.2.left]
abbrev Asp(k:Nat):Prop:=∀{a0:A1}{b1:Hy},OK (Acu k a0 b1) λr=>ic 269 [Jz 3 B4 a0,.fn 200 [.loc 0 0]] [dj 1,cv b1.data b1.vars b1.left] (eo r.1) [dj 1,cv r.2.data r.2.vars r.2.left]
abbrev Asq(k:Nat):Prop:=∀{a0:Ai}{b0:Hy},OK (O6 k a0 b0) λr=>ic 125 [.loc 0 0,Fx a0] [cv b0.data b0.vars b0.left] (Av r.1) [cv r.2.data r.2.vars r.2.left]
abbrev Asr(k:Nat):Prop:=∀{a0:Ai}{b1:Hy},OK (Abt k a0 b1) λr=>ic 200 [Fx a0,.loc 0 0] [dj 1,cv b1.data b1.vars b1.left] (Av r.1) [dj 1,cv r.2.data r.2.vars r.2.left]
theorem Agq(k:Nat):Aso k/\Asp k/\Asq k/\Asr k:=by induction k with|zero=>exact⟨okz,okz,okz,okz⟩|succ k ih=>obtain⟨n,o,p,q⟩:=ih;refine⟨@λa0 b1=>⟨λ{r} h=>?_⟩,@λa0 b1=>⟨λ{r} h=>?_⟩,@λa0 b0=>⟨λ{r} h=>?_⟩,@λa0 b1=>⟨λ{r} h=>?_⟩⟩;unfold Y4 at h;refine aw C0 true func192 ?_;exact Cv [0,1] h;unfold Acu at h;refine aw C0 true func269 ?_;refine Bc h (λ(a,b,g,i)=>[(4,eo 0),(8,eo a)]) (λ(a,b,g,i)=>[(1,cv b g i)]) ?_;rintro⟨a,b,g,i⟩ _ _ _ h _ _;refine B3 h (λ_ h=>?_) λ_ h=>?_;refine Cu h λ_ _ _ _ h=>?_;exact Cv [0,1] h;exact Y;unfold O6 at h;refine aw C0 true func125 ?_;refine Ca h λ_ h=>?_;refine ZS ?_;refine G2 ?_;refine ZR ?_;refine Ago (λ(x:(Int×Int))=>(.inl x)) h (λ(j,l)=>[(4,Av false),(5,eo j),(6,eo l)]) ia ?_ ?_;intro _ h _ _ _;refine ZR ?_;refine Ce h (λa=>[(21,Av a)]) ia ?_;rintro a _ h;refine Dz h (λ_ h=>?_) λ_ h=>?_;exact Y;refine Ca h λ_ h=>?_;refine B3 h (λ_ h=>?_) λ_ h=>?_;refine Az (Az ?_);refine Ce h (λb=>[(53,Av b)]) ia ?_;rintro b _ h;exact Y;refine Ca h λ_ h=>?_;refine ZR ?_;refine Ce h (λm=>[(74,Av m)]) ia ?_;rintro m _ h;exact Y;rintro⟨j,l⟩ _ h;refine Az (Az ?_);refine Ce h (λd=>[(91,Av d)]) ia ?_;rintro d _ h;refine Dz h (λ_ h=>?_) λ_ h=>?_;exact Y;refine Kr (Az (Az ?_));refine Ce h (λe=>[(103,Av e)]) ia ?_;rintro e _ h;refine Dz h (λ_ h=>?_) λ_ h=>?_;exact Y;exact Cv [1,0] h;unfold Abt at h;refine aw C0 true func200 ?_;exact Cv [1] h
instance{k:Nat}:Aso k:=(Agq k).1
instance{k:Nat}:Asp k:=(Agq k).2.1
instance{k:Nat}:Asq k:=(Agq k).2.2.1
instance{k:Nat}:Asr k:=(Agq k).2.2.2
instance{a1:Ai}:OK (Sp a0 a1 a2) λr=>ib 67 [Ax 3 Dc a0,Fx a1,eo a2] (Av r):=⟨λh=>by refine pw C0 func67 ?_;exact Cv [1] h⟩
instance{a1:Int}:OK (S5 a0 a1 a2) λr=>ib 191 [Ax 3 Dc a0,eo a1,eo a2] (Av r):=⟨λh=>by refine pw C0 func191 ?_;refine Cu h λ_ _ _ _ h=>?_;refine Cu h λ_ _ _ _ h=>?_;refine Ca h λ_ h=>?_;refine Bx h λ_ h=>?_;refine Bc h (λa=>[(6,Av false),(29,eo a)]) ia ?_;rintro a _ _ _ h _ _;exact Y⟩
instance:OK (Abj a0) λr=>ib 118 [Ax 3 Dc a0] (Av r):=⟨λh=>by refine pw C0 func118 ?_;refine Ca h λ_ h=>?_;refine Bc h (λ(d,b,e)=>[(2,Av false),(15,eo d)]) (λ(d,b,e)=>[(0,.map (Bz Av b)),(1,.map (Bz Av e))]) ?_;rintro⟨d,b,e⟩ _ _ _ h _ _;refine B3 h (λ_ h=>?_) λ_ h=>?_;refine ZR ?_;refine Az (Az ?_);refine Ng h (λg=>[(49,Av g)]) ia ?_ ?_;intro _ h _ _ _;refine Cu h λ_ _ _ _ h=>?_;refine Bx h λ_ h=>?_;refine Z ?_;refine Hv h (λ_ h=>?_) λ_ h=>?_;exact Y;refine Cu h λ_ _ _ _ h=>?_;refine Z ?_;refine Xp (f:=Av) (l:=b) rfl (false:Bool) h (λm k h=>?_) λk h=>?_;exact Y;exact Y;rintro g _ h;refine Dz h (λ_ h=>?_) λ_ h=>?_;exact Y;refine Cu h λ_ _ _ _ h=>?_;refine Z ?_;refine Uw (f:=Av) (l:=b) (x:=true) rfl rfl ?_;refine ZO ?_;refine Az (Az ?_);refine Ce h (λi=>[(71,Av i)]) ia ?_;rintro i _ h;refine Dz h (λ_ h=>?_) λ_ h=>?_;exact Y;refine Cu h λ_ _ _ _ h=>?_;refine Bc h (λ(j,a)=>[(2,Av false),(78,eo j)]) (λ(j,a)=>[(1,.map (Bz Av a))]) ?_;rintro⟨j,a⟩ _ _ _ h _ _;refine B3 h (λ_ h=>?_) λ_ h=>?_;refine Cu h λ_ _ _ _ h=>?_;refine Bx h λ_ h=>?_;refine Z ?_;refine Hv h (λ_ h=>?_) λ_ h=>?_;exact Y;refine Z ?_;refine Xp (f:=Av) (l:=a) rfl (false:Bool) h (λm k h=>?_) λk h=>?_;refine Z ?_;refine Hv h (λ_ h=>?_) λ_ h=>?_;exact Y;refine Bx h λ_ h=>?_;refine Ca h λ_ h=>?_;refine Z ?_;refine Uw (f:=Av) (l:=a) (x:=true) rfl rfl ?_;exact Y;refine Bx h λ_ h=>?_;refine Ca h λ_ h=>?_;refine Z ?_;refine Uw (f:=Av) (l:=a) (x:=true) rfl rfl ?_;exact Y;exact Y;exact Y⟩
instance:OK (Ala a0) λr=>ib 124 [V5 (Lq.mk a0 [] [] [])] (Av r):=⟨λh=>by refine pw C0 func124 ?_;refine Z ?_;refine Js h λ_ h=>?_;refine Bc h (λ_=>[(2,Av false),(18,eo 0)]) ia ?_;rintro _ _ _ _ h _ _;replace h:=C3 h;refine Bc h (λ_=>[(2,Av false),(30,eo 0)]) ia ?_;rintro _ _ _ _ h _ _;exact Y⟩
instance:OK (Ak9 a0) λr=>ib 123 [V5 (Lq.mk a0 [] [] [])] (Av r):=⟨λh=>by refine pw C0 func123 ?_;refine Z ?_;refine Js h λ_ h=>?_;refine Bc h (λ_=>[(2,Av false),(17,eo 0)]) ia ?_;rintro _ _ _ _ h _ _;exact Y⟩
instance:OK (Ak7 a0) λr=>ib 121 [V5 (Lq.mk a0 [] [] [])] (Av r):=⟨λh=>by refine pw C0 func121 ?_;refine Z ?_;refine Js h λ_ h=>?_;refine Bc h (λ_=>[(2,Av false),(20,eo 0)]) ia ?_;rintro _ _ _ _ h _ _;replace h:=C3 h;refine Bc h (λ_=>[(2,Av false),(33,eo 0)]) ia ?_;rintro _ _ _ _ h _ _;exact Y⟩
instance{a0:Ai}:OK (Ald a0 b0) λr=>ic 193 [Fx a0,.loc 0 0] [cr b0.D b0.Codes b0.V b0.Exprs] (Av r) [cr b0.D b0.Codes b0.V b0.Exprs]:=⟨λh=>by refine aw C0 true func193 ?_;exact Y⟩
instance{a0:A1}:OK (Alg a0 b0) λr=>ic 269 [Jz 3 B4 a0,.fn 193 [.loc 0 0]] [cr b0.D b0.Codes b0.V b0.Exprs] (eo r) [cr b0.D b0.Codes b0.V b0.Exprs]:=⟨λh=>by refine aw C0 true func269 ?_;refine Bc h (λa=>[(4,eo 0),(8,eo a)]) ia ?_;rintro a _ _ _ h _ _;refine B3 h (λ_ h=>?_) λ_ h=>?_;refine Cu h λ_ _ _ _ h=>?_;exact Cv [0] h;exact Y⟩
instance{a0:A1}:OK (Alc a0 b0) λr=>ic 192 [Jz 3 B4 a0,.fn 193 [.loc 0 0]] [cr b0.D b0.Codes b0.V b0.Exprs] (Av r) [cr b0.D b0.Codes b0.V b0.Exprs]:=⟨λh=>by refine aw C0 true func192 ?_;exact Cv [0] h⟩
instance:OK (Ak5 a0) λr=>ib 119 [V5 (Lq.mk a0 [] [] [])] (Av r):=⟨λh=>by refine pw C0 func119 ?_;exact Cv [0] h⟩
instance:OK (Aa5 a0) λr=>ib 66 [V5 (Lq.mk a0 [] [] [])] (Av r):=⟨λh=>by refine pw C0 func66 ?_;exact Y⟩
variable{a0 a1:Int}{b1:Ag}
instance:OK (Nc a0 a1) λr=>ib 140 [eo a0,eo a1] (eo r):=⟨λh=>by refine pw C0 func140 ?_;exact Y⟩
instance{a0:Ag}:OK (Qa a0) λr=>ib 143 [Ax 1 eo a0] (eo r):=⟨λh=>by refine pw C0 func143 ?_;refine Bc h (λa=>[(2,eo 0),(8,eo a)]) ia ?_;rintro a _ _ _ h _ _;exact Y⟩
instance:OK (Af6 a0) λr=>ib 294 [eo a0] (Av r):=⟨λh=>by refine pw C0 func294 ?_;exact Y⟩
instance:OK (Ab1 a0 a1) λr=>ib 228 [eo a0,eo a1] (eo r):=⟨λh=>by refine pw C0 func228 ?_;exact Y⟩
instance{a0 a1:Bh}:OK (Ab0 a0 a1) λr=>ib 227 [C9 a0,C9 a1] (eo r):=⟨λh=>by refine pw C0 func227 ?_;exact Y⟩
instance{a0 a1:A7}:OK (Af0 a0 a1) λr=>ib 226 [Ax 2 C9 a0,Ax 2 C9 a1,.fn 227 []] (eo r):=⟨λh=>by refine pw C0 func226 ?_;refine Bc h (λa=>[(6,eo 0),(13,eo a)]) ia ?_;rintro a _ _ _ h _ _;exact Y⟩
instance{a0 a1:Aq}:OK (O7 a0 a1) λr=>ib 147 [Dq a0,Dq a1] (eo r):=⟨λh=>by refine pw C0 func147 ?_;exact Y⟩
instance{a0 a1:A6}:OK (Abm a0 a1) λr=>ib 146 [Em a0,Em a1] (eo r):=⟨λh=>by refine pw C0 func146 ?_;exact Y⟩
instance{a0 a1:A2}:OK (Afv a0 a1) λr=>ib 145 [Ax 3 Em a0,Ax 3 Em a1,.fn 146 []] (eo r):=⟨λh=>by refine pw C0 func145 ?_;refine Bc h (λa=>[(6,eo 0),(13,eo a)]) ia ?_;rintro a _ _ _ h _ _;exact Y⟩
abbrev Ass(k:Nat):Prop:=∀{a0 a1:Ay},OK (Sx k a0 a1) λr=>ib 144 [Hx a0,Hx a1] (eo r)
abbrev Ast(k:Nat):Prop:=∀{a0 a1:Bg},OK (Abz k a0 a1) λr=>ib 225 [Jz 2 Lc a0,Jz 2 Lc a1,.fn 144 []] (eo r)
theorem Asu(k:Nat):Ass k/\Ast k:=by induction k with|zero=>exact⟨okz,okz⟩|succ k ih=>obtain⟨b,d⟩:=ih;refine⟨@λa0 a1=>⟨λ{r} h=>?_⟩,@λa0 a1=>⟨λ{r} h=>?_⟩⟩;unfold Sx at h;refine pw C0 func144 ?_;exact Y;unfold Abz at h;refine pw C0 func225 ?_;refine Bc h (λa=>[(6,eo 0),(13,eo a)]) ia ?_;rintro a _ _ _ h _ _;exact Y
instance{k:Nat}:Ass k:=(Asu k).1
instance{k:Nat}:Ast k:=(Asu k).2
instance{a0 a1:Bl}:OK (Abl a0 a1) λr=>ib 142 [Fy a0,Fy a1] (eo r):=⟨λh=>by refine pw C0 func142 ?_;exact Y⟩
instance{a0 a1:Be}:OK (Afu a0 a1) λr=>ib 141 [Ax 3 Fy a0,Ax 3 Fy a1,.fn 142 []] (eo r):=⟨λh=>by refine pw C0 func141 ?_;refine Bc h (λa=>[(6,eo 0),(13,eo a)]) ia ?_;rintro a _ _ _ h _ _;exact Y⟩
instance{a0 a1:Aw}:OK (Sq a0 a1) λr=>ib 76 [Hi a0,Hi a1] (eo r):=⟨λh=>by refine pw C0 func76 ?_;exact Y⟩
instance:OK (Jy a0) λr=>ib 131 [eo a0] (E5 r):=⟨λh=>by exact A35 h⟩
instance:OK (Y5 b1) λr=>ic 203 [.loc 0 0] [ce 0 1 b1,ck b1] (.tup []) [ce 0 1 b1,ck b1]:=⟨λh=>by cases h;exact A38 _ _⟩
instance:OK (Yo a0 b1) λr=>ic 283 [.loc 0 0,jo a0] [ce 0 1 b1,ck b1] (.val .nilIface) [ce 0 1 r,ck r]:=⟨λh=>by refine aw C0 true func283 ?_;exact Cv [0,1] h⟩
variable{a0:Β}{b1:Ag}
instance:OK (H4 a0 b1) λr=>ic 129 [.loc 0 0,E5 a0] [ce 0 1 b1,ck b1] (.tup [eo r.1,.val .nilIface]) [ce 0 1 r.2,ck r.2]:=⟨λh=>by refine aw C0 true func129 ?_;exact Cv [0,1] h⟩
abbrev Asv(k:Nat):Prop:=∀{a0:Ay}{b1:Ag},OK (Ve k a0 b1) λr=>ic 204 [.loc 0 0,Hx a0] [ce 0 1 b1,ck b1] (.tup []) [ce 0 1 r,ck r]
theorem A47(k:Nat):Asv k:=by induction k with|zero=>exact okz|succ k ih=>refine@λa0 b1=>⟨λ{r} h=>?_⟩;unfold Ve at h;refine aw C0 true func204 ?_;refine Bx h λ_ h=>?_;refine D1 [0,1] h λ_ h=>?_;refine B3 h (λ_ h=>?_) λ_ h=>?_;refine D1 [0,1] h λ_ h=>?_;refine Bc h (λ(b,a)=>[(20,eo b)]) (λ(b,a)=>[(0,ce 0 1 a),(1,ck a)]) ?_;rintro⟨b,a⟩ _ _ _ h _ _;refine B3 h (λ_ h=>?_) λ_ h=>?_;refine Cu h λ_ _ _ _ h=>?_;refine D1 [0,1] h λ_ h=>?_;exact Cv [0,1] h;replace h:=C3 h;exact Cv [0,1] h;exact Y
instance{k:Nat}:Asv k:=(A47 k)
instance:OK (Nb b1) λr=>ic 133 [.loc 0 0] [ce 0 1 b1,ck b1] (E5 r) [.cells 176 [.loc 0 0,.fb r],.dead]:=⟨λh=>by exact Ar6 h⟩
instance:OK (Abv b1) λr=>ic 203 [.loc 0 0] [cy 1 b1,ck b1] (.tup []) [ce 0 1 b1,ck b1]:=⟨λh=>by cases h;exact A39 _ _⟩
instance:OK (Kt a0 b1) λr=>ic 129 [.loc 0 0,E5 a0] [cy 1 b1,ck b1] (.tup [eo r.1,.val .nilIface]) [ce 0 1 r.2,ck r.2]:=⟨λh=>by refine aw C0 true func129 ?_;exact Cv [0,1] h⟩
instance{a0:Int}{a1:Ay}:OK (P9 a0 a1) λr=>ib 130 [eo a0,Hx a1] (E5 r):=⟨λh=>by refine pw C0 func130 ?_;refine ZS ?_;refine G2 ?_;refine ZR ?_;refine Az ?_;refine Et [.own 5 1 5 1] ?_;refine Bx h λ_ h=>?_;refine Z ?_;refine Iw h λh=>?_;refine Z ?_;refine Iw h λh=>?_;refine D1 [1,2] h λ_ h=>?_;refine D1 [1,2] h λ_ h=>?_;exact Cv [1,2] h⟩
abbrev Asw(k:Nat):Prop:=∀{a0:Ai},OK (Vz k a0) λr=>ib 381 [Fx a0] (eo r)
theorem A48(k:Nat):Asw k:=by induction k with|zero=>exact okz|succ k ih=>refine@λa0=>⟨λ{r} h=>?_⟩;unfold Vz at h;refine pw C0 func381 ?_;refine Bc h (λ(a,b)=>[(3,eo a),(9,eo b)]) ia ?_;rintro⟨a,b⟩ _ _ _ h _ _;exact Y
instance{k:Nat}:Asw k:=(A48 k)
abbrev Asx(k:Nat):Prop:=∀{a0:Ai}{a1:A1},OK (Tb k a0 a1) λr=>ib 383 [Fx a0,Jz 3 B4 a1] (Fx r)
theorem A49(k:Nat):Asx k:=by induction k with|zero=>exact okz|succ k ih=>refine@λa0 a1=>⟨λ{r} h=>?_⟩;unfold Tb at h;refine pw (C1 (iv 42 0 3 ij)) func383 ?_;refine ZR ?_;refine Az (Az ?_);refine Ce h (λd=>[(22,Av d)]) ia ?_;rintro d _ h;refine Dz h (λ_ h=>?_) λ_ h=>?_;exact Y;refine ZR ?_;refine Az (Az ?_);refine Et [.own 5 2 25 3] ?_;refine Bc h (λ(b,a)=>[(37,eo b)]) (λ(b,a)=>[(2,de a0.G a0.U 3 a),(3,dn a)]) ?_;rintro⟨b,a⟩ _ _ _ h _ _;exact Y
instance{k:Nat}:Asx k:=(A49 k)
abbrev Asy(k:Nat):Prop:=∀{a0:Ai}{a1:Ag},OK (V1 k a0 a1) λr=>ib 382 [Fx a0,Ax 1 eo a1] (eo r)
theorem A5a(k:Nat):Asy k:=by induction k with|zero=>exact okz|succ k ih=>refine@λa0 a1=>⟨λ{r} h=>?_⟩;unfold V1 at h;refine pw C0 func382 ?_;refine ZR ?_;refine Az (Az ?_);refine Ce h (λa=>[(22,Av a)]) ia ?_;rintro a _ h;refine Dz h (λ_ h=>?_) λ_ h=>?_;exact Y;refine Bc h (λ(b,d)=>[(5,eo b),(31,eo d)]) ia ?_;rintro⟨b,d⟩ _ _ _ h _ _;exact Y
instance{k:Nat}:Asy k:=(A5a k)
instance{a0:A0}{a1:Ai}{a2:Int}:OK (Acl a0 a1 a2) λr=>ib 336 [Ax 3 Dc a0,Fx a1,eo a2] (.tup [Jz 3 B4 r.1,Av r.2]):=⟨λh=>by refine pw (ii (iz 14 .own ix) (iv 14 0 3 (iv 6 0 3 ij))) func336 ?_;refine ZR ?_;refine Az (Az ?_);refine Ce h (λi=>[(31,Av i)]) ia ?_;rintro i _ h;refine Dz h (λ_ h=>?_) λ_ h=>?_;exact Y;refine Cu h λ_ _ _ _ h=>?_;refine ZO ?_;refine Az (Az ?_);refine Ce h (λj=>[(53,Av j)]) ia ?_;rintro j _ h;refine Dz h (λ_ h=>?_) λ_ h=>?_;exact Y;refine Z ?_;refine Js h λk h=>?_;refine Z ?_;refine Gk h (λ(d,a)=>[(61,eo d)]) (λ(d,a)=>[(2,db a)]) (λ(d,a)=>k.length=a.length) ?_;rintro⟨d,a⟩ _ _ _ h _ _ l;refine Ca h λ_ h=>?_;replace h:=C3 h;refine Cu h λ_ _ _ _ h=>?_;refine ZO ?_;refine M3 ?_;refine Et [.fz 9] ?_;refine Bc h (λe=>[(6,.sl 3 (B4 [])),(7,Av false),(79,eo e)]) ia ?_;rintro e _ _ _ h _ _;refine Ca h λ_ h=>?_;replace h:=C3 h;refine Cu h λ_ _ _ _ h=>?_;refine Bc h (λ(g,b)=>[(14,bk 3 b),(95,eo g)]) (λ(g,b)=>[(3,dn b)]) ?_;rintro⟨g,b⟩ _ _ _ h _ _;exact Y⟩
abbrev Asz(k:Nat):Prop:=∀{a0:Ai}{a1:Ay}{b1:At}{b2:As}{I:A0}{V:A1}{b0_2 X:Int}{U:A1},OK (Vu k a0 a1 b1 b2 I V b0_2 X U) λr=>ic 341 [.loc 0 0,Fx a0,Hx a1] [cd I V b0_2 X U 1 2,cg b1,ch b2] (eo r) [cd I V b0_2 X U 1 2,cg b1,ch b2]
abbrev As0(k:Nat):Prop:=∀{a0:Ai}{a1:Ay}{b1:At}{b2:As}{I:A0}{V:A1}{b0_2 X:Int}{U:A1},OK (S8 k a0 a1 b1 b2 I V b0_2 X U) λr=>ic 281 [.loc 0 0,Fx a0,Hx a1] [cd I V b0_2 X U 1 2,cg b1,ch b2] (eo r) [cd I V b0_2 X U 1 2,cg b1,ch b2]
variable{a0 b0_2 X:Int}{b2:As}{b1:At}{I:A0}{V U:A1}
abbrev As1(k:Nat):Prop:=∀{a0:A1}{a1:Bg}{b1:At}{b2:As}{I:A0}{V:A1}{b0_2 X:Int}{U:A1},OK (Vt k a0 a1 b1 b2 I V b0_2 X U) λr=>ic 340 [.loc 0 0,Jz 3 B4 a0,Jz 2 Lc a1] [cd I V b0_2 X U 1 2,cg b1,ch b2] (eo r) [cd I V b0_2 X U 1 2,cg b1,ch b2]
theorem Alt(k:Nat):Asz k/\As0 k/\As1 k:=by induction k with|zero=>exact⟨okz,okz,okz⟩|succ k ih=>obtain⟨j,l,m⟩:=ih;refine⟨@λa0 a1 b1 b2 I V b0_2 X U=>⟨λ{r} h=>?_⟩,@λa0 a1 b1 b2 I V b0_2 X U=>⟨λ{r} h=>?_⟩,@λa0 a1 b1 b2 I V b0_2 X U=>⟨λ{r} h=>?_⟩⟩;unfold Vu at h;refine aw (ii (iz 9 .own ix) (iv 9 0 3 ij)) true func341 ?_;refine Bx h λ_ h=>?_;refine Ca h λ_ h=>?_;refine Bx h λ_ h=>?_;refine Bc h (λ(b,a)=>[(9,bk 5 a),(38,eo b)]) (λ(b,a)=>[(5,dn a)]) ?_;rintro⟨b,a⟩ _ _ _ h _ _;refine Ca h λ_ h=>?_;replace h:=C3 h;refine Hh (Hg rfl (Az ?_));refine Et [.fz 9] ?_;exact Cv [0,1,2] h;unfold S8 at h;refine aw C0 true func281 ?_;refine B3 h (λ_ h=>?_) λ_ h=>?_;refine B3 h (λ_ h=>?_) λ_ h=>?_;exact Cv [0,1,2] h;exact Y;refine Ca h λ_ h=>?_;refine B3 h (λ_ h=>?_) λ_ h=>?_;refine Ca h λ_ h=>?_;refine Bc h (λ(d,e)=>[(6,eo 0),(7,eo d),(50,eo e)]) ia ?_;rintro⟨d,e⟩ _ _ _ h _ _;refine B3 h (λ_ h=>?_) λ_ h=>?_;refine Cu h λ_ _ _ _ h=>?_;exact Cv [0,1,2] h;exact Y;exact Y;unfold Vt at h;refine aw C0 true func340 ?_;refine Ca h λ_ h=>?_;refine Bc h (λ(g,i)=>[(6,eo 0),(7,eo g),(18,eo i)]) ia ?_;rintro⟨g,i⟩ _ _ _ h _ _;refine B3 h (λ_ h=>?_) λ_ h=>?_;refine Cu h λ_ _ _ _ h=>?_;refine Cu h λ_ _ _ _ h=>?_;exact Cv [0,1,2] h;exact Y
instance{k:Nat}:Asz k:=(Alt k).1
instance{k:Nat}:As0 k:=(Alt k).2.1
instance{k:Nat}:As1 k:=(Alt k).2.2
instance:OK (Pa a0 b1 b2 I V b0_2 X U) λr=>ic 237 [.loc 0 0,eo a0] [cd I V b0_2 X U 1 2,cg b1,ch b2] (Fx r) [cd I V b0_2 X U 1 2,cg b1,ch b2]:=⟨λh=>by refine aw C0 true func237 ?_;exact Y⟩
instance{a1:Ay}:OK (O8 a0 a1 b1 b2 I V b0_2 X U) λr=>ic 202 [.loc 0 0,eo a0,Hx a1] [cd I V b0_2 X U 1 2,cg b1,ch b2] (eo r.1) [cd I V b0_2 X U 1 2,cg r.2,ch b2]:=⟨λh=>by refine aw C0 true func202 ?_;refine Bx h λ_ h=>?_;refine ZO ?_;refine Az ?_;refine Ng h (λ(b,d)=>[(8,eo b),(9,Av d)]) ia ?_ ?_;intro _ h _ _ _;refine Z ?_;refine Xp (f:=eo) (l:=b1) rfl (0:Int) h (λg e h=>?_) λe h=>?_;exact Y;exact Y;rintro⟨b,d⟩ _ h;refine B3 h (λ_ h=>?_) λ_ h=>?_;refine D1 [0,1,2] h λ_ h=>?_;refine D1 [0,1,2] h λ_ h=>?_;refine ZR ?_;refine Ce h (λa=>[(8,eo a)]) ia ?_;rintro a _ h;refine Z ?_;refine Uw (f:=eo) (l:=b1) (x:=a) rfl rfl ?_;exact Y;exact Y⟩
instance{a0:Aw}:OK (N6 a0 b1 b2 I V b0_2 X U) λr=>ic 153 [.loc 0 0,Hi a0] [cd I V b0_2 X U 1 2,cg b1,ch b2] (eo r.1) [cd I V b0_2 X U 1 2,cg r.2,ch b2]:=⟨λh=>by refine aw C0 true func153 ?_;refine Bc h (λ(d,e,g)=>[(5,eo d),(13,eo e)]) (λ(d,e,g)=>[(1,cg g)]) ?_;rintro⟨d,e,g⟩ _ _ _ h _ _;refine B3 h (λ_ h=>?_) λ_ h=>?_;refine Cu h λ_ _ _ _ h=>?_;refine B3 h (λ_ h=>?_) λ_ h=>?_;exact Cv [0,1,2] h;exact Y;replace h:=C3 h;refine Bc h (λ(a,b)=>[(5,eo a),(31,eo b)]) ia ?_;rintro⟨a,b⟩ _ _ _ h _ _;exact Y⟩
instance:OK (Vp a0 b1 b2 I V b0_2 X U) λr=>ic 280 [.loc 0 0,eo a0] [cd I V b0_2 X U 1 2,cg b1,ch b2] (Av r) [cd I V b0_2 X U 1 2,cg b1,ch b2]:=⟨λh=>by refine aw C0 true func280 ?_;exact Y⟩
instance{a0:Bh}{b2:At}{b3:As}{b1_0:A0}{b1_1:A1}{b1_2 b1_3:Int}{b1_4:A1}:OK (Ys a0 b2 b3 b1_0 b1_1 b1_2 b1_3 b1_4) λr=>ic 299 [C9 a0,.loc 0 0] [dp 1,cd b1_0 b1_1 b1_2 b1_3 b1_4 2 3,cg b2,ch b3] (Av r) [dp 1,cd b1_0 b1_1 b1_2 b1_3 b1_4 2 3,cg b2,ch b3]:=⟨λh=>by refine aw C0 true func299 ?_;refine D1 [1,2,3] h λ_ h=>?_;refine Z ?_;refine Hv h (λ_ h=>?_) λ_ h=>?_;exact Y;refine D1 [1,2,3] h λ_ h=>?_;refine Z ?_;refine Aqp.mk 3 κ ?_;exact Y⟩
variable{b0_2 X b1_2 b1_3:Int}{b2 b3:As}{b1:At}{I b1_0:A0}{V U b1_1 b1_4:A1}{a0 a1:Ag}
end Go.Ab
