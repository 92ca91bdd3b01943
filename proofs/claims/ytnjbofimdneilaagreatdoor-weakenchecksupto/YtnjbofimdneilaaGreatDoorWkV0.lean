/- Contracts by walks. -/
import Derived.Test.YtnjbofimdneilaaGreatDoorWkHand
import Derived.Test.YtnjbofimdneilaaGreatDoorWkDef
open List
namespace Go.Ab
open Go Go.Proofs Go.Proofs.Tryz
set_option maxRecDepth 10000
set_option maxHeartbeats 4000000
set_option linter.unusedVariables false
abbrev bk{α:Type}(u:Nat)(v:Λ α):AV:=.arr u v.length 0 v.length
abbrev cd:=λu v w x y (z:Nat) (s:Nat)=>(.cells 114 [.sl 3 (map Di u),.sl 3 (B6 v),eo w,eo x,.sl 3 (B6 y),.mp z,.mp s]:Bt)
abbrev ce{α:Type}:=λ(u:Nat) (v:Nat) (w:Λ α)=>(.cells 242 [.loc u 0,.arr v (List.length w) 0 (List.length w)]:Bt)
abbrev cg:=λu=>(.map (B1 eo u):Bt)
abbrev ch:=λu=>(.map (B1 (Aw 5 Er) u):Bt)
abbrev ci:=λu=>(.rows 53 5 (map Bl u):Bt)
abbrev cj:=λu v w=>(.cells 39 [Av u,.sl 1 (map fo v),.sl 1 (map fo w)]:Bt)
abbrev ck:=λu=>(.rows 5 1 (map jo u):Bt)
abbrev cm:=λu=>(.rows 75 1 (map fo u):Bt)
abbrev cr:=λu v w x=>(.cells 109 [.sl 3 (map Di u),.sl 7 (map Wf v),.sl 3 (B6 w),.sl 8 (map Wg x)]:Bt)
abbrev ct{α:Type}:=λ(u:Nat) (v:Nat) (w:Λ α)=>(.cells 159 [.mp u,.arr v (List.length w) 0 (List.length w)]:Bt)
abbrev cu:=λu=>(.rows 42 2 (map Da u):Bt)
abbrev cv:=λu v w=>(.cells 144 [.sl 3 (map Di u),eo v,eo w]:Bt)
abbrev cx{α β:Type}:=λ(u:Nat) (v:Λ α) (w:Nat) (x:Λ β)=>(.cells 51 [.arr u (List.length v) 0 (List.length v),.arr w (List.length x) 0 (List.length x)]:Bt)
abbrev cy{α:Type}:=λ(u:Nat) (v:Λ α)=>(.cells 242 [.val (.pointer none),.arr u (List.length v) 0 (List.length v)]:Bt)
abbrev da:=λu=>(.rows 47 3 (map En u):Bt)
abbrev db:=λu=>(.rows 3 1 (map eo u):Bt)
abbrev dc:=λu=>(.rows 81 3 (map F0 u):Bt)
abbrev dd:=λu=>(.rows 39 3 (map B4 u):Bt)
abbrev de{α:Type}:=λu v (w:Nat) (x:Λ α)=>(.cells 25 [eo u,eo v,.arr w (List.length x) 0 (List.length x)]:Bt)
abbrev df{α:Type}:=λ(u:Nat) (v:Λ α) (w:Nat)=>(.cells 51 [.arr u (List.length v) 0 (List.length v),.arr w 0 0 0]:Bt)
abbrev dh:=λu=>(.cells 3 [eo u]:Bt)
abbrev di:=λu=>(.cells 242 [.val (.pointer none),.fb u]:Bt)
abbrev dj:=λ(u:Nat)=>(.cells 142 [.loc u 0]:Bt)
abbrev dn:=λu=>(.rows 25 3 (B6 u):Bt)
abbrev dp:=λ(u:Nat)=>(.cells 82 [.loc u 0]:Bt)
variable{a0:A9}{a1:Int}
abbrev As9(k:Nat):Prop:=∀{a0:A3}{a1:Int},OK (Qc k a0 a1) λr=>ic 29 [Hz a0,eo a1] (eo r)
theorem A54(k:Nat):As9 k:=by induction k with|zero=>exact okz|succ k ih=>refine@λa0 a1=>⟨λ{r} h=>?_⟩;unfold Qc at h;refine pw C0 func29 ?_;refine Bb h (λ(a,b)=>[(4,eo 0),(5,eo a),(10,eo b)]) ib ?_;rintro⟨a,b⟩ _ _ _ h _ _;exact Y
instance{k:Nat}:As9 k:=(A54 k)
instance{a0:Ax}:OK (N7 a0) λr=>ic 14 [Hn a0] (Av r):=⟨λh=>by refine pw C0 func14 ?_;refine ZR ?_;refine Az (Az ?_);refine Cb h (λb=>[(14,Av b)]) ib ?_;rintro b _ h;refine Dt h (λ_ h=>?_) λ_ h=>?_;exact Y;refine Bb h (λd=>[(2,Av false),(18,eo d)]) ib ?_;rintro d _ _ _ h _ _;refine Ce h λ_ h=>?_;replace h:=C3 h;refine Bb h (λa=>[(2,Av false),(33,eo a)]) ib ?_;rintro a _ _ _ h _ _;exact Y⟩
instance{a0:Am}:OK (Q8 a0) λr=>ic 13 [B4 a0] (Av r):=⟨λh=>by refine pw C0 func13 ?_;exact Y⟩
instance{a0:Bc}:OK (N8 a0 a1) λr=>ic 15 [Aw 3 B4 a0,eo a1] (Av r):=⟨λh=>by refine pw C0 func15 ?_;refine Ce h λ_ h=>?_;refine Bb h (λa=>[(4,Av false),(12,eo a)]) ib ?_;rintro a _ _ _ h _ _;exact Y⟩
instance{a0:D4}:OK (Abk a0 a1) λr=>ic 6 [Aw 13 Lw a0,eo a1] (Av r):=⟨λh=>by refine pw C0 func6 ?_;refine Ce h λ_ h=>?_;refine Bb h (λa=>[(4,Av false),(13,eo a)]) ib ?_;rintro a _ _ _ h _ _;exact Y⟩
instance:OK (Abm a0) λr=>ic 10 [Gk a0] (Av r):=⟨λh=>by refine pw C0 func10 ?_;exact Y⟩
instance{a0:A6}{a2:Int}:OK (Abn a0 a1 a2) λr=>ic 11 [Aw 2 C1 a0,eo a1,eo a2] (Av r):=⟨λh=>by refine pw C0 func11 ?_;refine Ce h λ_ h=>?_;refine Bb h (λa=>[(6,Av false),(14,eo a)]) ib ?_;rintro a _ _ _ h _ _;exact Y⟩
instance{a0:Ad}:OK (X3 a0 a1) λr=>ic 12 [Aw 5 Bl a0,eo a1] (Av r):=⟨λh=>by refine pw C0 func12 ?_;refine Ce h λ_ h=>?_;refine Bb h (λa=>[(4,Av false),(12,eo a)]) ib ?_;rintro a _ _ _ h _ _;exact Y⟩
instance{a1:A6}{a2 a:Ad}:OK (Abj a0 a1 a2 a) λr=>ic 5 [Gk a0,Aw 2 C1 a1,Aw 5 Bl a2,Aw 5 Bl a] (Av r):=⟨λh=>by refine pw C0 func5 ?_;exact Y⟩
instance{a0:Ag}:OK (Mg a0) λr=>ic 87 [Aw 1 fo a0] (Aw 1 fo r):=⟨λh=>by refine pw (ii (iw 2 0 1 iv)) func87 ?_;refine Bb h (λa=>[(3,eo a)]) ib ?_;rintro a _ _ _ h _ _;exact Y⟩
variable{a0 a1:Ag}
instance:OK (Yb a0) λr=>ic 50 [Aw 1 fo a0] (Aw 1 fo r):=⟨λh=>by refine pw (ij (ia 3 .own iz) (iw 3 0 1 (iw 2 0 1 iv))) func50 ?_;refine Bb h (λ(b,d,a)=>[(3,bk 0 a),(4,io b),(5,eo d)]) (λ(b,d,a)=>[(0,cm a)]) ?_;rintro⟨b,d,a⟩ _ _ _ h _ _;refine Ce h λ_ h=>?_;replace h:=C3 h;refine B5 h (λ_ h=>?_) λ_ h=>?_;refine Z ?_;refine Lz h λ_ h=>?_;refine ZO ?_;refine Az ?_;refine Et [.fz 3] ?_;exact Y;refine Kx (Az ?_);refine Et [.fz 3] ?_;exact Y⟩
instance:OK (Ab3 a0 a1) λr=>ic 90 [Aw 1 fo a0,Aw 1 fo a1] (io r):=⟨λh=>by refine pw C0 func90 ?_;exact Y⟩
instance{a0:Int}:OK (O8 a0) λr=>ic 28 [io a0] (Aw 1 fo r):=⟨λh=>by refine pw (ij (ia 3 .own iz) (iw 3 0 1 (iw 2 0 1 iv))) func28 ?_;refine Bb h (λ(b,a)=>[(0,io b),(3,bk 0 a)]) (λ(b,a)=>[(0,cm a)]) ?_;rintro⟨b,a⟩ _ _ _ h _ _;exact Y⟩
instance:OK (Sw a0 a1) λr=>ic 88 [Aw 1 fo a0,Aw 1 fo a1] (eo r):=⟨λh=>by refine pw C0 func88 ?_;refine Ce h λ_ h=>?_;refine Bb h (λa=>[(4,eo 0),(5,eo a)]) ib ?_;rintro a _ _ _ h _ _;exact Y⟩
instance:OK (Mh a0 a1) λr=>ic 91 [Aw 1 fo a0,Aw 1 fo a1] (Aw 1 fo r):=⟨λh=>by refine pw (ii (iw 4 0 1 iv)) func91 ?_;refine Z ?_;refine Jw h λk h=>?_;refine Z ?_;refine F9 h (λ(d,a)=>[(6,eo d)]) (λ(d,a)=>[(0,cm a)]) (λ(d,a)=>k.length=a.length) ?_;rintro⟨d,a⟩ _ _ _ h _ _ l;refine B5 h (λ_ h=>?_) λ_ h=>?_;refine Z ?_;refine F9 h (λ(e,g,b)=>[(7,io e),(8,eo g)]) (λ(e,g,b)=>[(0,cm b)]) (λ(e,g,b)=>k.length=b.length) ?_;rintro⟨e,g,b⟩ _ _ _ h _ _ m;refine Az (Az ?_);refine Cb h (λi=>[(29,Av i)]) ib ?_;rintro i _ h;refine Dt h (λ_ h=>?_) λ_ h=>?_;refine Z ?_;refine J6 h λ_ _ _ _ h=>?_;refine ZR ?_;refine Cb h (λj=>[(7,io j)]) ib ?_;rintro j _ h;exact Y;exact Y;replace h:=C3 h;refine Hb (Ha rfl (Az ?_));refine Et [.fz 5] ?_;exact Y⟩
instance{a1:Int}:OK (Ab2 a0 a1) λr=>ic 89 [Aw 1 fo a0,io a1] (.tup [Aw 1 fo r.1,io r.2]):=⟨λh=>by refine pw (ii (iw 4 0 1 iv)) func89 ?_;refine Z ?_;refine Jw h λe h=>?_;refine Z ?_;refine F9 h (λ(b,d,a)=>[(7,io b),(8,eo d)]) (λ(b,d,a)=>[(0,cm a)]) (λ(b,d,a)=>e.length=a.length) ?_;rintro⟨b,d,a⟩ _ _ _ h _ _ g;refine Ce h λ_ h=>?_;replace h:=C3 h;refine Hb (Ha rfl (Az ?_));refine Et [.fz 6] ?_;exact Y⟩
instance:OK (Sx a0 a1) λr=>ic 92 [Aw 1 fo a0,Aw 1 fo a1] (Aw 1 fo r):=⟨λh=>by refine pw (ii (iw 4 0 1 iv)) func92 ?_;refine Z ?_;refine Jw h λg h=>?_;refine Z ?_;refine F9 h (λ(b,d,a)=>[(6,fo b),(7,eo d)]) (λ(b,d,a)=>[(0,cm a)]) (λ(b,d,a)=>g.length=a.length) ?_;rintro⟨b,d,a⟩ _ _ _ h _ _ i;refine B5 h (λ_ h=>?_) λ_ h=>?_;refine ZS ?_;refine G4 ?_;refine ZR ?_;refine Cb h (λe=>[(8,fo e)]) ib ?_;rintro e _ h;exact Y;replace h:=C3 h;refine Hb (Ha rfl (Az ?_));refine Et [.fz 5] ?_;exact Y⟩
instance:OK (Vc a0 a1) λr=>ic 52 [Aw 1 fo a0,Aw 1 fo a1] (.tup [Aw 1 fo r.1,Aw 1 fo r.2]):=⟨λh=>by refine pw (ij (ia 50 (.frz 0) (ia 47 .own iz)) (iw 9 0 1 (iw 5 0 1 (iw 4 0 1 iv)))) func52 ?_;refine Bs h λ_ h=>?_;refine Ce h λ_ h=>?_;refine Ce h λ_ h=>?_;refine Z ?_;refine Jw h λk h=>?_;refine Z ?_;refine F9 h (λ(e,g,d)=>[(9,.sl 1 (map fo e)),(10,eo g)]) (λ(e,g,d)=>[(0,cm d)]) (λ(e,g,d)=>k.length=d.length) ?_;rintro⟨e,g,d⟩ _ _ _ h _ _ l;refine B5 h (λ_ h=>?_) λ_ h=>?_;refine Ct h λ_ _ _ _ h=>?_;refine Z ?_;refine Lz h λm h=>?_;refine Z ?_;refine Ec h λn i h=>?_;refine Ak5.mk _ (OK.ok i :) rfl ?_;refine Bs h λ_ h=>?_;refine Bb h (λj=>[(11,io j)]) ib ?_;rintro j _ _ _ h _ _;refine Z ?_;refine Hs h (λ_ h=>?_) λ_ h=>?_;refine Bs h λ_ h=>?_;refine Bs h λ_ h=>?_;refine Bs h λ_ h=>?_;refine Ce h λ_ h=>?_;replace h:=C3 h;refine Bs h λ_ h=>?_;refine Bs h λ_ h=>?_;refine Bs h λ_ h=>?_;refine Bb h (λ(a,b)=>[(9,.sl 1 (map fo a)),(11,io b)]) ib ?_;rintro⟨a,b⟩ _ _ _ h _ _;exact Y;replace h:=C3 h;refine Bs h λ_ h=>?_;refine Bs h λ_ h=>?_;refine Bs h λ_ h=>?_;refine Bb h (λ(a,b)=>[(9,.sl 1 (map fo a)),(11,io b)]) ib ?_;rintro⟨a,b⟩ _ _ _ h _ _;exact Y;replace h:=C3 h;refine Hb (Ha rfl (Az ?_));refine Et [.fz 8] ?_;exact Y⟩
instance:OK (Abt a0 a1) λr=>ic 51 [Aw 1 fo a0,Aw 1 fo a1] (Aw 1 fo r):=⟨λh=>by refine pw (ii (iw 4 0 1 iv)) func51 ?_;refine Bb h (λ(a,b)=>[(0,.sl 1 (map fo a)),(1,.sl 1 (map fo b))]) ib ?_;rintro⟨a,b⟩ _ _ _ h _ _;exact Y⟩
instance{a0:Bool}{a2:Ag}:OK (Lf a0 a1 a2) λr=>ic 27 [Av a0,Aw 1 fo a1,Aw 1 fo a2] (B4 r):=⟨λh=>by refine pw (ii (iw 21 1 1 iv)) func27 ?_;refine Bs h λ_ h=>?_;refine Bs h λ_ h=>?_;refine ZO ?_;refine Az (Az ?_);refine Cb h (λa=>[(19,Av a)]) ib ?_;rintro a _ h;refine Dt h (λ_ h=>?_) λ_ h=>?_;exact Y;refine Bs h λ_ h=>?_;refine ZO ?_;refine Az (Az ?_);refine Cb h (λb=>[(33,Av b)]) ib ?_;rintro b _ h;exact Y⟩
instance{a0:Int}:OK (Hj a0) λr=>ic 9 [eo a0] (B4 r):=⟨λh=>by refine pw C0 func9 ?_;exact Y⟩
instance{a0:Nat}{b0:Ag}:OK (Yd a0 b0) λr=>ie 59 [.arr 0 b0.length 0 a0] [db b0] (.arr 0 r.2.length 0 r.1) [db r.2]:=⟨λh=>by refine aw (ii (iw 2 0 1 iv)) false func59 ?_;refine Ce h λ_ h=>?_;refine Bb h (λi=>[(2,.sl 1 (map eo [])),(3,eo i)]) ib ?_;rintro i _ _ _ h _ _;refine B5 h (λ_ h=>?_) λ_ h=>?_;refine Z ?_;refine Ih h λ_ _ _ _ h=>?_;refine Z ?_;refine Ih h λ_ _ _ _ h=>?_;refine B5 h (λ_ h=>?_) λ_ h=>?_;refine Z ?_;refine Md (f:=eo) (l:=b0) rfl rfl h λp h=>?_;refine Z ?_;refine F9 h (λ(d,g,a)=>[(3,eo d),(5,eo g)]) (λ(d,g,a)=>[(0,db a)]) (λ(d,g,a)=>b0.length=a.length) ?_;rintro⟨d,g,a⟩ _ _ _ h _ _ b;refine B5 h (λ_ h=>?_) λ_ h=>?_;refine Z ?_;refine Ih h λ_ _ _ _ h=>?_;refine Z ?_;refine Ih h λ_ _ _ _ h=>?_;refine B5 h (λ_ h=>?_) λ_ h=>?_;refine Z ?_;refine Ih h λ_ m _ _ h=>?_;refine Z ?_;refine Ih h λ_ _ k _ h=>?_;refine Z ?_;refine Jo (f:=eo) (x:=m) (j:=(((0:Nat):Int)+d)) rfl rfl rfl (Sn _ k) ?_;exact Y;exact Y;replace h:=C3 h;refine Z ?_;refine P8 (f:=eo) (l:=a) rfl b h (λq h=>?_) λh=>?_;refine Z ?_;refine A4l (f:=eo) (l:=a) (z:=(0:Int)) rfl rfl b h λn e h=>?_;refine Z ?_;refine Abe (f:=eo) (l:=n) rfl (Asa b e) h λt h=>?_;replace h:=C3 h;refine Z ?_;cases h;exact⟨congrArg (λo=>AV.arr 0 o 0 _) (Asa b e),rfl,trivial⟩;refine Z ?_;refine Abe (f:=eo) (l:=a) rfl b h λu h=>?_;replace h:=C3 h;refine Z ?_;cases h;exact⟨congrArg (λo=>AV.arr 0 o 0 _) b,rfl,trivial⟩;exact Y;exact Y⟩
variable{a0 a1:Int}{b0:Ag}
instance:OK (Agi a0) λr=>ic 187 [io a0] (eo r):=⟨λh=>by refine pw C0 func187 ?_;refine ZS ?_;refine G4 ?_;refine ZR ?_;refine Cb h (λ(a,b)=>[(0,io a),(2,eo b)]) ib ?_;rintro⟨a,b⟩ _ h;refine ZR ?_;refine Cb h (λ(d,e)=>[(0,io d),(2,eo e)]) ib ?_;rintro⟨d,e⟩ _ h;refine ZR ?_;refine Cb h (λ(g,i)=>[(0,io g),(2,eo i)]) ib ?_;rintro⟨g,i⟩ _ h;exact Y⟩
instance:OK (Vg a0) λr=>ic 106 [io a0] (eo r):=⟨λh=>by refine pw C0 func106 ?_;exact Y⟩
instance:OK (Vu a0) λr=>ic 258 [eo a0] (Av r):=⟨λh=>by refine pw C0 func258 ?_;exact Y⟩
instance:OK (Amb a0 a1) λr=>ic 183 [eo a0,eo a1] (Av r):=⟨λh=>by refine pw C0 func183 ?_;exact Y⟩
instance:OK (Ama a0 a1 b0) λr=>ie 177 [bk 0 b0,eo a0,eo a1] [db b0] (.tup []) [db r]:=⟨λh=>by refine aw C0 true func177 ?_;refine Z ?_;refine F9 h (λ(d,a)=>[(6,eo d)]) (λ(d,a)=>[(0,db a)]) (λ(d,a)=>b0.length=a.length) ?_;rintro⟨d,a⟩ _ _ _ h _ _ i;refine B5 h (λ_ h=>?_) λ_ h=>?_;refine Z ?_;refine F9 h (λ(e,b)=>[(7,eo e)]) (λ(e,b)=>[(0,db b)]) (λ(e,b)=>b0.length=b.length) ?_;rintro⟨e,b⟩ _ _ _ h _ _ j;refine Az (Az ?_);refine Cb h (λg=>[(30,Av g)]) ib ?_;rintro g _ h;exact Y;exact Y⟩
instance{a2:Int}:OK (Al7 a0 a1 a2 b0) λr=>ie 105 [bk 0 b0,eo a0,eo a1,eo a2] [db b0] (.tup []) [db r]:=⟨λh=>by refine aw C0 true func105 ?_;refine Bb h (λ_=>[(1,eo a0),(2,eo a1),(3,eo a2),(8,Av true),(9,Av true)]) ib ?_;rintro _ _ _ _ h _ _;refine B5 h (λ_ h=>?_) λ_ h=>?_;refine D3 [0] h λ_ h=>?_;refine Ec h λb a h=>?_;exact Y;exact Y⟩
theorem A55{r:Ag}(h:Ass b0=some r):ie 58 [bk 0 b0] [db b0] (.tup []) [db r]:=by refine aw C0 true func58 ?_;refine Bs h λ_ h=>?_;refine D3 [0] h λ_ h=>?_;refine Ec h λb a h=>?_;exact Y
instance:OK (Abx b0) λr=>ie 58 [bk 0 b0] [db b0] (.tup []) [db r]:=⟨λh=>by cases b0 with|nil=>exact A55 h|cons b l=>exact A5j h ψ⟩
instance{a0:A6}:OK (X6 a0) λr=>ic 32 [Aw 2 C1 a0] (Aw 1 eo r):=⟨λh=>by refine pw (ij (ia 3 .own iz) (iw 3 0 1 (iw 2 0 1 iv))) func32 ?_;refine Bb h (λ(e,a)=>[(3,.arr 0 a.length 0 a.length),(10,eo e)]) (λ(e,a)=>[(0,.rows 3 1 (map eo a))]) ?_;rintro⟨e,a⟩ _ _ _ h _ _;refine B5 h (λ_ h=>?_) λ_ h=>?_;refine Ct h λ_ _ _ _ h=>?_;refine Bb h (λ(g,b)=>[(3,.arr 0 b.length 0 b.length),(17,eo g)]) (λ(g,b)=>[(0,.rows 3 1 (map eo b))]) ?_;rintro⟨g,b⟩ _ _ _ h _ _;exact Y;replace h:=C3 h;refine Z ?_;refine Zw [0] h λm h=>?_;refine Ec h λn i h=>?_;refine Z ?_;refine Ec h λk j h=>?_;have d:=(OK.ok j :);rw[<-(Ld i)]at d;refine G8.act [0] _ _ _ _ d rfl rfl ⟨rfl,trivial⟩ ?_;refine ZO ?_;refine Et [.fzp 2] ?_;refine Abd (f:=eo) (l:=k.2) rfl rfl h λo h=>?_;exact Y⟩
instance:OK (Yc a0) λr=>ic 56 [eo a0] (Av r):=⟨λh=>by refine pw C0 func56 ?_;exact Y⟩
instance:OK (Abw a0) λr=>ic 57 [eo a0] (Av r):=⟨λh=>by refine pw C0 func57 ?_;exact Y⟩
instance{a0:Ao}:OK (Ky a0) λr=>ic 31 [C1 a0] (Av r):=⟨λh=>by refine pw C0 func31 ?_;refine ZR ?_;refine Az (Az ?_);refine Cb h (λa=>[(14,Av a)]) ib ?_;rintro a _ h;refine Dt h (λ_ h=>?_) λ_ h=>?_;exact Y;refine Bb h (λb=>[(2,Av false),(18,eo b)]) ib ?_;rintro b _ _ _ h _ _;exact Y⟩
variable{a0:Ad}
instance{a0:A6}:OK (U6 a0) λr=>ic 17 [Aw 2 C1 a0] (Av r):=⟨λh=>by refine pw C0 func17 ?_;refine Ce h λ_ h=>?_;refine Bb h (λa=>[(2,Av false),(10,eo a)]) ib ?_;rintro a _ _ _ h _ _;exact Y⟩
instance{a0:Iw}:OK (Abp a0) λr=>ic 35 [Tk a0] (eo r):=⟨λh=>by refine pw C0 func35 ?_;exact Y⟩
instance{a0:Ag}:OK (Mi a0) λr=>ic 113 [Aw 1 fo a0] (Aw 1 fo r):=⟨λh=>by refine pw (ii (iw 2 0 1 iv)) func113 ?_;refine Bb h (λa=>[(3,eo a)]) ib ?_;rintro a _ _ _ h _ _;exact Y⟩
instance{a0:Ag}:OK (Yf a0) λr=>ic 62 [Aw 1 fo a0] (Aw 1 fo r):=⟨λh=>by refine pw (ii (iw 2 0 1 iv)) func62 ?_;refine Z ?_;refine Jw h λ_ h=>?_;refine Bb h (λ(b,d,a)=>[(3,bk 0 a),(4,io b),(13,eo d)]) (λ(b,d,a)=>[(0,cm a)]) ?_;rintro⟨b,d,a⟩ _ _ _ h _ _;refine Ce h λ_ h=>?_;replace h:=C3 h;refine B5 h (λ_ h=>?_) λ_ h=>?_;refine Z ?_;refine Lz h λ_ h=>?_;refine ZO ?_;refine Az ?_;refine Et [.fz 3] ?_;exact Y;refine Kx (Az ?_);refine Et [.fz 3] ?_;exact Y⟩
instance{a0:Am}:OK (N9 a0) λr=>ic 34 [B4 a0] (Tk r):=⟨λh=>by refine pw (ii (iw 20 1 1 iv)) func34 ?_;refine Bs h λ_ h=>?_;refine Bs h λ_ h=>?_;refine ZO ?_;refine Az (Az ?_);refine Cb h (λa=>[(18,Av a)]) ib ?_;rintro a _ h;exact Y⟩
instance{a0:Am}:OK (Jd a0) λr=>ic 19 [B4 a0] (eo r):=⟨λh=>by refine pw C0 func19 ?_;exact Y⟩
instance{a0:Af}:OK (Abq a0) λr=>ic 40 [Bl a0] (Av r):=⟨λh=>by refine pw C0 func40 ?_;exact Y⟩
instance:OK (Agf a0) λr=>ic 71 [Aw 5 Bl a0,.fn 40 []] (eo r):=⟨λh=>by refine pw C0 func71 ?_;refine Bb h (λa=>[(4,eo 0),(8,eo a)]) ib ?_;rintro a _ _ _ h _ _;exact Y⟩
instance:OK (Age a0) λr=>ic 39 [Aw 5 Bl a0,.fn 40 []] (Av r):=⟨λh=>by refine pw C0 func39 ?_;exact Y⟩
instance:OK (U9 a0) λr=>ic 21 [Aw 5 Bl a0] (Av r):=⟨λh=>by refine pw C0 func21 ?_;exact Y⟩
instance{a0:A0}:OK (Al4 a0) λr=>ic 97 [Wh (Lx.mk a0 [] [] [])] (Av r):=⟨λh=>by refine pw C0 func97 ?_;refine Z ?_;refine Jw h λ_ h=>?_;refine Bb h (λ_=>[(2,Av false),(20,eo 0)]) ib ?_;rintro _ _ _ _ h _ _;replace h:=C3 h;refine Bb h (λ_=>[(2,Av false),(40,eo 0)]) ib ?_;rintro _ _ _ _ h _ _;exact Y⟩
instance{a0:A0}:OK (Al2 a0) λr=>ic 95 [Wh (Lx.mk a0 [] [] [])] (Av r):=⟨λh=>by refine pw C0 func95 ?_;refine Bb h (λ_=>[(2,Av false),(4,Av false),(21,eo 0)]) ib ?_;rintro _ _ _ _ h _ _;exact Y⟩
variable{a0:Β}
instance{a0:Int}:OK (Ac6 a0) λr=>ic 313 [jo a0] (Av r):=⟨λh=>by refine pw C0 func313 ?_;exact Y⟩
instance:OK (Adf a0) λr=>ic 364 [E4 a0] (Av r):=⟨λh=>by refine pw C0 func364 ?_;exact Y⟩
instance{a0:Int}:OK (Th a0) λr=>ic 365 [jo a0] (Av r):=⟨λh=>by refine pw C0 func365 ?_;exact Y⟩
instance{a0:Int}:OK (Zq a0) λr=>ic 360 [jo a0] (Av r):=⟨λh=>by refine pw C0 func360 ?_;exact Y⟩
instance{a0:Int}:OK (Wa a0) λr=>ic 361 [jo a0] (Av r):=⟨λh=>by refine pw C0 func361 ?_;exact Y⟩
instance{a0:Int}:OK (Zr a0) λr=>ic 363 [jo a0] (Av r):=⟨λh=>by refine pw C0 func363 ?_;exact Y⟩
instance:OK (Ade a0) λr=>ic 362 [E4 a0,.fn 363 []] (E4 r):=⟨λh=>by refine pw C0 func362 ?_;refine Bb h (λa=>[(5,eo a)]) ib ?_;rintro a _ _ _ h _ _;exact Y⟩
instance:OK (Ag2 a0) λr=>ic 362 [E4 a0,.fn 365 []] (E4 r):=⟨λh=>by refine pw C0 func362 ?_;refine Bb h (λa=>[(5,eo a)]) ib ?_;rintro a _ _ _ h _ _;exact Y⟩
instance:OK (Adh a0) λr=>ic 367 [E4 a0] (E4 r):=⟨λh=>by refine pw C0 func367 ?_;refine ZS ?_;refine G4 ?_;refine ZR ?_;refine Ahb (λ(x:Unit)=>(.inr x)) h (λ_=>[(2,E4 (ByteArray.mk #[]))]) ib ?_ ?_;intro _ h _ _ _;exact Y;rintro _ _ h;exact Y⟩
instance:OK (Adg a0) λr=>ic 366 [E4 a0] (Av r):=⟨λh=>by refine pw C0 func366 ?_;refine Bb h (λ(a,b)=>[(2,Av false),(3,eo a),(7,eo b)]) ib ?_;rintro⟨a,b⟩ _ _ _ h _ _;exact Y⟩
instance{a1:Int}:OK (Ac7 a0 a1) λr=>ic 314 [E4 a0,eo a1] (.tup [Ag1 r.1,eo r.2]):=⟨λh=>by refine pw C0 func314 ?_;refine Z ?_;refine O7 h λ_ h=>?_;refine ZO ?_;refine M9 (Az ?_);refine Cb h (λb=>[(23,Av b)]) ib ?_;rintro b _ h;refine Dt h (λ_ h=>?_) λ_ h=>?_;exact Y;refine Bs h λ_ h=>?_;refine B5 h (λ_ h=>?_) λ_ h=>?_;refine Z ?_;refine Alt h λ_ _ _ _ h=>?_;refine Bs h λ_ h=>?_;refine ZO ?_;refine Az (Az ?_);refine Cb h (λa=>[(67,Av a)]) ib ?_;rintro a _ h;exact Y;exact Y⟩
instance:OK (Agn a0) λr=>ic 237 [E4 a0] (.tup [Aw 3 Ag1 r.1,eo r.2.1,eo r.2.2]):=⟨λh=>by refine pw (ij (ia 5 .own iz) (iw 5 0 3 (iw 2 0 3 iv))) func237 ?_;refine Ce h λ_ h=>?_;refine Bb h (λ(b,a)=>[(2,.sl 3 (map Ag1 [])),(3,eo 0),(4,eo 0),(5,bk 0 a),(6,eo b)]) (λ(b,a)=>[(0,.rows 288 3 (map Ag1 a))]) ?_;rintro⟨b,a⟩ _ _ _ h _ _;refine B5 h (λ_ h=>?_) λ_ h=>?_;refine Z ?_;refine O7 h λ_ h=>?_;refine Bs h λ_ h=>?_;refine Ce h λ_ h=>?_;refine Z ?_;refine O7 h λ_ h=>?_;refine B5 h (λ_ h=>?_) λ_ h=>?_;refine Bb h (λd=>[(6,eo d)]) ib ?_;rintro d _ _ _ h _ _;exact Y;exact Y;exact Y⟩
instance{a0:Β}:OK (Vm a0) λr=>ic 155 [E4 a0] (Av r):=⟨λh=>by refine pw C0 func155 ?_;exact Y⟩
abbrev Ata(k:Nat):Prop:=∀{a0:Ak}{a1:Int},OK (Vr k a0 a1) λr=>ic 239 [Fz a0,eo a1] (Av r)
abbrev Atb(k:Nat):Prop:=∀{a0:Ak}{b0:Int},OK (Ac8 k a0 b0) λr=>ie 315 [Fz a0,.loc 0 0] [dh b0] (Av r) [dh b0]
abbrev Atc(k:Nat):Prop:=∀{a0:A1}{b0:Int},OK (Zt k a0 b0) λr=>ie 157 [J5 3 B6 a0,.fn 315 [.loc 0 0]] [dh b0] (Av r) [dh b0]
abbrev Atd(k:Nat):Prop:=∀{a0:A1}{b0:Int},OK (Ag3 k a0 b0) λr=>ie 240 [J5 3 B6 a0,.fn 315 [.loc 0 0]] [dh b0] (eo r) [dh b0]
theorem Ahc(k:Nat):Ata k/\Atb k/\Atc k/\Atd k:=by induction k with|zero=>exact⟨okz,okz,okz,okz⟩|succ k ih=>obtain⟨b,d,e,g⟩:=ih;refine⟨@λa0 a1=>⟨λ{r} h=>?_⟩,@λa0 b0=>⟨λ{r} h=>?_⟩,@λa0 b0=>⟨λ{r} h=>?_⟩,@λa0 b0=>⟨λ{r} h=>?_⟩⟩;unfold Vr at h;refine pw C0 func239 ?_;refine Z ?_;refine Hs h (λ_ h=>?_) λ_ h=>?_;refine Z ?_;refine Hs h (λ_ h=>?_) λ_ h=>?_;exact Y;exact Cv [1] h;exact Cv [1] h;unfold Ac8 at h;refine aw C0 true func315 ?_;exact Y;unfold Zt at h;refine aw C0 true func157 ?_;exact Cv [0] h;unfold Ag3 at h;refine aw C0 true func240 ?_;refine Bb h (λa=>[(4,eo 0),(8,eo a)]) ib ?_;rintro a _ _ _ h _ _;refine B5 h (λ_ h=>?_) λ_ h=>?_;refine Ct h λ_ _ _ _ h=>?_;exact Cv [0] h;exact Y
instance{k:Nat}:Ata k:=(Ahc k).1
instance{k:Nat}:Atb k:=(Ahc k).2.1
instance{k:Nat}:Atc k:=(Ahc k).2.2.1
instance{k:Nat}:Atd k:=(Ahc k).2.2.2
instance{a0:A0}{a1 a2:Int}:OK (Y8 a0 a1 a2) λr=>ic 238 [Aw 3 Di a0,eo a1,eo a2] (Aw 1 Av r):=⟨λh=>by refine pw (ii (iw 6 0 1 iv)) func238 ?_;refine ZR ?_;refine Az (Az ?_);refine Cb h (λt=>[(34,Av t)]) ib ?_;rintro t _ h;refine Dt h (λ_ h=>?_) λ_ h=>?_;exact Y;refine Ct h λ_ _ _ _ h=>?_;refine Ct h λ_ _ _ _ h=>?_;refine Z ?_;refine Jw h λu h=>?_;refine Z ?_;refine F9 h (λ(a,b)=>[(49,eo a)]) (λ(a,b)=>[(0,.rows 4 1 (map Av b))]) (λ(a,b)=>u.length=b.length) ?_;rintro⟨a,b⟩ _ _ _ h _ _ i;refine B5 h (λ_ h=>?_) λ_ h=>?_;refine Z ?_;refine Tm h λ_ k _ _ h=>?_;refine ZO ?_;refine Az ?_;refine So h λv h w=>?_;refine Na (λ(d:In)=>d=v/\u.length=d.length) ib (λd=>[(0,.rows 4 1 (map Av d))]) (λ_=>rfl) ?_ ?_;intro C m;refine Z ?_;refine Hs h (λ_ h=>?_) λ_ h=>?_;refine Z ?_;refine Hs h (λ_ h=>?_) λ_ h=>?_;refine Z ?_;refine Tm h λ_ n _ _ h=>?_;refine Z ?_;refine J6 h λ_ _ o _ h=>?_;refine Z ?_;refine Jo (f:=Av) (x:=((k.R.length:Int)==n.V)) (j:=a) rfl rfl (Nat.zero_add _) o ?_;refine Z ?_;exact m (Ca b a ((k.R.length:Int)==n.V)) _ _ _ ⟨Option.some.inj h,Fy (l:=b) i a ((k.R.length:Int)==n.V)⟩ trivial ⟨⟨rfl,rfl⟩,⟨rfl,rfl⟩,trivial⟩;refine Z ?_;refine J6 h λ_ _ p _ h=>?_;refine Z ?_;refine Jo (f:=Av) (x:=false) (j:=a) rfl rfl (Nat.zero_add _) p ?_;refine Z ?_;exact m (Ca b a false) _ _ _ ⟨Option.some.inj h,Fy (l:=b) i a false⟩ trivial ⟨⟨rfl,rfl⟩,⟨rfl,rfl⟩,trivial⟩;refine Z ?_;refine J6 h λ_ _ q _ h=>?_;refine Z ?_;refine Jo (f:=Av) (x:=false) (j:=a) rfl rfl (Nat.zero_add _) q ?_;refine Z ?_;exact m (Ca b a false) _ _ _ ⟨Option.some.inj h,Fy (l:=b) i a false⟩ trivial ⟨⟨rfl,rfl⟩,⟨rfl,rfl⟩,trivial⟩;rintro d D ⟨y,A⟩;have h:=w _ y;refine Z ?_;refine F9 h (λ(g,e)=>[(80,eo g)]) (λ(g,e)=>[(0,.rows 4 1 (map Av e))]) (λ(g,e)=>u.length=e.length) ?_;rintro⟨g,e⟩ _ _ _ h _ _ B;exact Y;exact Y⟩
variable{a2:Int}{a0:A0}{b0:Lx}
abbrev Ate(k:Nat):Prop:=∀{a0:A1}{b1:H3},OK (Zu k a0 b1) λr=>ie 157 [J5 3 B6 a0,.fn 165 [.loc 0 0]] [dj 1,cv b1.data b1.vars b1.left] (Av r.1) [dj 1,cv r.2.data r.2.vars r.2.left]
abbrev Atf(k:Nat):Prop:=∀{a0:A1}{b1:H3},OK (Adj k a0 b1) λr=>ie 240 [J5 3 B6 a0,.fn 165 [.loc 0 0]] [dj 1,cv b1.data b1.vars b1.left] (eo r.1) [dj 1,cv r.2.data r.2.vars r.2.left]
abbrev Atg(k:Nat):Prop:=∀{a0:Ak}{b0:H3},OK (Pc k a0 b0) λr=>ie 100 [.loc 0 0,Fz a0] [cv b0.data b0.vars b0.left] (Av r.1) [cv r.2.data r.2.vars r.2.left]
abbrev Ath(k:Nat):Prop:=∀{a0:Ak}{b1:H3},OK (Acb k a0 b1) λr=>ie 165 [Fz a0,.loc 0 0] [dj 1,cv b1.data b1.vars b1.left] (Av r.1) [dj 1,cv r.2.data r.2.vars r.2.left]
theorem Ahd(k:Nat):Ate k/\Atf k/\Atg k/\Ath k:=by induction k with|zero=>exact⟨okz,okz,okz,okz⟩|succ k ih=>obtain⟨n,o,p,q⟩:=ih;refine⟨@λa0 b1=>⟨λ{r} h=>?_⟩,@λa0 b1=>⟨λ{r} h=>?_⟩,@λa0 b0=>⟨λ{r} h=>?_⟩,@λa0 b1=>⟨λ{r} h=>?_⟩⟩;unfold Zu at h;refine aw C0 true func157 ?_;exact Cv [0,1] h;unfold Adj at h;refine aw C0 true func240 ?_;refine Bb h (λ(a,b,g,i)=>[(4,eo 0),(8,eo a)]) (λ(a,b,g,i)=>[(1,cv b g i)]) ?_;rintro⟨a,b,g,i⟩ _ _ _ h _ _;refine B5 h (λ_ h=>?_) λ_ h=>?_;refine Ct h λ_ _ _ _ h=>?_;exact Cv [0,1] h;exact Y;unfold Pc at h;refine aw C0 true func100 ?_;refine Ce h λ_ h=>?_;refine ZS ?_;refine G4 ?_;refine ZR ?_;refine Ahb (λ(x:(Int×Int))=>(.inl x)) h (λ(j,l)=>[(4,Av false),(5,eo j),(6,eo l)]) ib ?_ ?_;intro _ h _ _ _;refine ZR ?_;refine Cb h (λa=>[(21,Av a)]) ib ?_;rintro a _ h;refine Dt h (λ_ h=>?_) λ_ h=>?_;exact Y;refine Ce h λ_ h=>?_;refine B5 h (λ_ h=>?_) λ_ h=>?_;refine Az (Az ?_);refine Cb h (λb=>[(53,Av b)]) ib ?_;rintro b _ h;exact Y;refine Ce h λ_ h=>?_;refine ZR ?_;refine Cb h (λm=>[(74,Av m)]) ib ?_;rintro m _ h;exact Y;rintro⟨j,l⟩ _ h;refine Az (Az ?_);refine Cb h (λd=>[(91,Av d)]) ib ?_;rintro d _ h;refine Dt h (λ_ h=>?_) λ_ h=>?_;exact Y;refine Kx (Az (Az ?_));refine Cb h (λe=>[(103,Av e)]) ib ?_;rintro e _ h;refine Dt h (λ_ h=>?_) λ_ h=>?_;exact Y;exact Cv [1,0] h;unfold Acb at h;refine aw C0 true func165 ?_;exact Cv [1] h
instance{k:Nat}:Ate k:=(Ahd k).1
instance{k:Nat}:Atf k:=(Ahd k).2.1
instance{k:Nat}:Atg k:=(Ahd k).2.2.1
instance{k:Nat}:Ath k:=(Ahd k).2.2.2
instance{a1:Ak}:OK (Sv a0 a1 a2) λr=>ic 54 [Aw 3 Di a0,Fz a1,eo a2] (Av r):=⟨λh=>by refine pw C0 func54 ?_;exact Cv [1] h⟩
instance{a1:Int}:OK (S8 a0 a1 a2) λr=>ic 156 [Aw 3 Di a0,eo a1,eo a2] (Av r):=⟨λh=>by refine pw C0 func156 ?_;refine Ct h λ_ _ _ _ h=>?_;refine Ct h λ_ _ _ _ h=>?_;refine Ce h λ_ h=>?_;refine Bs h λ_ h=>?_;refine Bb h (λa=>[(6,Av false),(29,eo a)]) ib ?_;rintro a _ _ _ h _ _;exact Y⟩
instance:OK (Ab4 a0) λr=>ic 93 [Aw 3 Di a0] (Av r):=⟨λh=>by refine pw C0 func93 ?_;refine Ce h λ_ h=>?_;refine Bb h (λ(d,b,e)=>[(2,Av false),(15,eo d)]) (λ(d,b,e)=>[(0,.map (B1 Av b)),(1,.map (B1 Av e))]) ?_;rintro⟨d,b,e⟩ _ _ _ h _ _;refine B5 h (λ_ h=>?_) λ_ h=>?_;refine ZR ?_;refine Az (Az ?_);refine Nm h (λg=>[(49,Av g)]) ib ?_ ?_;intro _ h _ _ _;refine Ct h λ_ _ _ _ h=>?_;refine Bs h λ_ h=>?_;refine Z ?_;refine Hs h (λ_ h=>?_) λ_ h=>?_;exact Y;refine Ct h λ_ _ _ _ h=>?_;refine Z ?_;refine X2 (f:=Av) (l:=b) rfl (false:Bool) h (λm k h=>?_) λk h=>?_;exact Y;exact Y;rintro g _ h;refine Dt h (λ_ h=>?_) λ_ h=>?_;exact Y;refine Ct h λ_ _ _ _ h=>?_;refine Z ?_;refine U5 (f:=Av) (l:=b) (x:=true) rfl rfl ?_;refine ZO ?_;refine Az (Az ?_);refine Cb h (λi=>[(71,Av i)]) ib ?_;rintro i _ h;refine Dt h (λ_ h=>?_) λ_ h=>?_;exact Y;refine Ct h λ_ _ _ _ h=>?_;refine Bb h (λ(j,a)=>[(2,Av false),(78,eo j)]) (λ(j,a)=>[(1,.map (B1 Av a))]) ?_;rintro⟨j,a⟩ _ _ _ h _ _;refine B5 h (λ_ h=>?_) λ_ h=>?_;refine Ct h λ_ _ _ _ h=>?_;refine Bs h λ_ h=>?_;refine Z ?_;refine Hs h (λ_ h=>?_) λ_ h=>?_;exact Y;refine Z ?_;refine X2 (f:=Av) (l:=a) rfl (false:Bool) h (λm k h=>?_) λk h=>?_;refine Z ?_;refine Hs h (λ_ h=>?_) λ_ h=>?_;exact Y;refine Bs h λ_ h=>?_;refine Ce h λ_ h=>?_;refine Z ?_;refine U5 (f:=Av) (l:=a) (x:=true) rfl rfl ?_;exact Y;refine Bs h λ_ h=>?_;refine Ce h λ_ h=>?_;refine Z ?_;refine U5 (f:=Av) (l:=a) (x:=true) rfl rfl ?_;exact Y;exact Y;exact Y⟩
instance:OK (Al6 a0) λr=>ic 99 [Wh (Lx.mk a0 [] [] [])] (Av r):=⟨λh=>by refine pw C0 func99 ?_;refine Z ?_;refine Jw h λ_ h=>?_;refine Bb h (λ_=>[(2,Av false),(18,eo 0)]) ib ?_;rintro _ _ _ _ h _ _;replace h:=C3 h;refine Bb h (λ_=>[(2,Av false),(30,eo 0)]) ib ?_;rintro _ _ _ _ h _ _;exact Y⟩
instance:OK (Al5 a0) λr=>ic 98 [Wh (Lx.mk a0 [] [] [])] (Av r):=⟨λh=>by refine pw C0 func98 ?_;refine Z ?_;refine Jw h λ_ h=>?_;refine Bb h (λ_=>[(2,Av false),(17,eo 0)]) ib ?_;rintro _ _ _ _ h _ _;exact Y⟩
instance:OK (Al3 a0) λr=>ic 96 [Wh (Lx.mk a0 [] [] [])] (Av r):=⟨λh=>by refine pw C0 func96 ?_;refine Z ?_;refine Jw h λ_ h=>?_;refine Bb h (λ_=>[(2,Av false),(20,eo 0)]) ib ?_;rintro _ _ _ _ h _ _;replace h:=C3 h;refine Bb h (λ_=>[(2,Av false),(33,eo 0)]) ib ?_;rintro _ _ _ _ h _ _;exact Y⟩
instance{a0:Ak}:OK (Al9 a0 b0) λr=>ie 158 [Fz a0,.loc 0 0] [cr b0.D b0.Codes b0.V b0.Exprs] (Av r) [cr b0.D b0.Codes b0.V b0.Exprs]:=⟨λh=>by refine aw C0 true func158 ?_;exact Y⟩
instance{a0:A1}:OK (Amc a0 b0) λr=>ie 240 [J5 3 B6 a0,.fn 158 [.loc 0 0]] [cr b0.D b0.Codes b0.V b0.Exprs] (eo r) [cr b0.D b0.Codes b0.V b0.Exprs]:=⟨λh=>by refine aw C0 true func240 ?_;refine Bb h (λa=>[(4,eo 0),(8,eo a)]) ib ?_;rintro a _ _ _ h _ _;refine B5 h (λ_ h=>?_) λ_ h=>?_;refine Ct h λ_ _ _ _ h=>?_;exact Cv [0] h;exact Y⟩
instance{a0:A1}:OK (Al8 a0 b0) λr=>ie 157 [J5 3 B6 a0,.fn 158 [.loc 0 0]] [cr b0.D b0.Codes b0.V b0.Exprs] (Av r) [cr b0.D b0.Codes b0.V b0.Exprs]:=⟨λh=>by refine aw C0 true func157 ?_;exact Cv [0] h⟩
instance:OK (Al1 a0) λr=>ic 94 [Wh (Lx.mk a0 [] [] [])] (Av r):=⟨λh=>by refine pw C0 func94 ?_;exact Cv [0] h⟩
instance:OK (Abu a0) λr=>ic 53 [Wh (Lx.mk a0 [] [] [])] (Av r):=⟨λh=>by refine pw C0 func53 ?_;exact Y⟩
variable{a0 a1:Int}{b1:Ag}
instance:OK (Ni a0 a1) λr=>ic 170 [eo a0,eo a1] (eo r):=⟨λh=>by refine pw C0 func170 ?_;exact Y⟩
instance{a0:Ag}:OK (Qk a0) λr=>ic 173 [Aw 1 eo a0] (eo r):=⟨λh=>by refine pw C0 func173 ?_;refine Bb h (λa=>[(2,eo 0),(8,eo a)]) ib ?_;rintro a _ _ _ h _ _;exact Y⟩
instance:OK (Agv a0) λr=>ic 324 [eo a0] (Av r):=⟨λh=>by refine pw C0 func324 ?_;exact Y⟩
instance:OK (Acs a0 a1) λr=>ic 257 [eo a0,eo a1] (eo r):=⟨λh=>by refine pw C0 func257 ?_;exact Y⟩
instance{a0 a1:Bh}:OK (Acr a0 a1) λr=>ic 256 [Da a0,Da a1] (eo r):=⟨λh=>by refine pw C0 func256 ?_;exact Y⟩
instance{a0 a1:A7}:OK (Ago a0 a1) λr=>ic 255 [Aw 2 Da a0,Aw 2 Da a1,.fn 256 []] (eo r):=⟨λh=>by refine pw C0 func255 ?_;refine Bb h (λa=>[(6,eo 0),(13,eo a)]) ib ?_;rintro a _ _ _ h _ _;exact Y⟩
instance{a0 a1:Ao}:OK (Pe a0 a1) λr=>ic 169 [C1 a0,C1 a1] (eo r):=⟨λh=>by refine pw C0 func169 ?_;exact Y⟩
instance{a0 a1:A8}:OK (Acf a0 a1) λr=>ic 176 [En a0,En a1] (eo r):=⟨λh=>by refine pw C0 func176 ?_;exact Y⟩
instance{a0 a1:A2}:OK (Agh a0 a1) λr=>ic 175 [Aw 3 En a0,Aw 3 En a1,.fn 176 []] (eo r):=⟨λh=>by refine pw C0 func175 ?_;refine Bb h (λa=>[(6,eo 0),(13,eo a)]) ib ?_;rintro a _ _ _ h _ _;exact Y⟩
abbrev Ati(k:Nat):Prop:=∀{a0 a1:A3},OK (S9 k a0 a1) λr=>ic 174 [Hz a0,Hz a1] (eo r)
abbrev Atj(k:Nat):Prop:=∀{a0 a1:Bo},OK (Acu k a0 a1) λr=>ic 259 [J5 2 Li a0,J5 2 Li a1,.fn 174 []] (eo r)
theorem Atl(k:Nat):Ati k/\Atj k:=by induction k with|zero=>exact⟨okz,okz⟩|succ k ih=>obtain⟨b,d⟩:=ih;refine⟨@λa0 a1=>⟨λ{r} h=>?_⟩,@λa0 a1=>⟨λ{r} h=>?_⟩⟩;unfold S9 at h;refine pw C0 func174 ?_;exact Y;unfold Acu at h;refine pw C0 func259 ?_;refine Bb h (λa=>[(6,eo 0),(13,eo a)]) ib ?_;rintro a _ _ _ h _ _;exact Y
instance{k:Nat}:Ati k:=(Atl k).1
instance{k:Nat}:Atj k:=(Atl k).2
instance{a0 a1:Bm}:OK (Ace a0 a1) λr=>ic 172 [F0 a0,F0 a1] (eo r):=⟨λh=>by refine pw C0 func172 ?_;exact Y⟩
instance{a0 a1:Bi}:OK (Agg a0 a1) λr=>ic 171 [Aw 3 F0 a0,Aw 3 F0 a1,.fn 172 []] (eo r):=⟨λh=>by refine pw C0 func171 ?_;refine Bb h (λa=>[(6,eo 0),(13,eo a)]) ib ?_;rintro a _ _ _ h _ _;exact Y⟩
instance{a0 a1:Ax}:OK (Sy a0 a1) λr=>ic 104 [Hn a0,Hn a1] (eo r):=⟨λh=>by refine pw C0 func104 ?_;exact Y⟩
instance:OK (J4 a0) λr=>ic 200 [eo a0] (E4 r):=⟨λh=>by exact A44 h⟩
instance:OK (Zv b1) λr=>ie 269 [.loc 0 0] [ce 0 1 b1,ck b1] (.tup []) [ce 0 1 b1,ck b1]:=⟨λh=>by cases h;exact A47 _ _⟩
instance:OK (Zj a0 b1) λr=>ie 328 [.loc 0 0,jo a0] [ce 0 1 b1,ck b1] (.val .nilIface) [ce 0 1 r,ck r]:=⟨λh=>by refine aw C0 true func328 ?_;exact Cv [0,1] h⟩
variable{a0:Β}{b1:Ag}
instance:OK (H7 a0 b1) λr=>ie 198 [.loc 0 0,E4 a0] [ce 0 1 b1,ck b1] (.tup [eo r.1,.val .nilIface]) [ce 0 1 r.2,ck r.2]:=⟨λh=>by refine aw C0 true func198 ?_;exact Cv [0,1] h⟩
abbrev Atm(k:Nat):Prop:=∀{a0:A3}{b1:Ag},OK (Vv k a0 b1) λr=>ie 270 [.loc 0 0,Hz a0] [ce 0 1 b1,ck b1] (.tup []) [ce 0 1 r,ck r]
theorem A56(k:Nat):Atm k:=by induction k with|zero=>exact okz|succ k ih=>refine@λa0 b1=>⟨λ{r} h=>?_⟩;unfold Vv at h;refine aw C0 true func270 ?_;refine Bs h λ_ h=>?_;refine D3 [0,1] h λ_ h=>?_;refine B5 h (λ_ h=>?_) λ_ h=>?_;refine D3 [0,1] h λ_ h=>?_;refine Bb h (λ(b,a)=>[(20,eo b)]) (λ(b,a)=>[(0,ce 0 1 a),(1,ck a)]) ?_;rintro⟨b,a⟩ _ _ _ h _ _;refine B5 h (λ_ h=>?_) λ_ h=>?_;refine Ct h λ_ _ _ _ h=>?_;refine D3 [0,1] h λ_ h=>?_;exact Cv [0,1] h;replace h:=C3 h;exact Cv [0,1] h;exact Y
instance{k:Nat}:Atm k:=(A56 k)
instance:OK (Nj b1) λr=>ie 202 [.loc 0 0] [ce 0 1 b1,ck b1] (E4 r) [.cells 242 [.loc 0 0,.fb r],.dead]:=⟨λh=>by exact Asx h⟩
instance:OK (Acv b1) λr=>ie 269 [.loc 0 0] [cy 1 b1,ck b1] (.tup []) [ce 0 1 b1,ck b1]:=⟨λh=>by cases h;exact A48 _ _⟩
instance:OK (Kz a0 b1) λr=>ie 198 [.loc 0 0,E4 a0] [cy 1 b1,ck b1] (.tup [eo r.1,.val .nilIface]) [ce 0 1 r.2,ck r.2]:=⟨λh=>by refine aw C0 true func198 ?_;exact Cv [0,1] h⟩
instance{a0:Int}{a1:A3}:OK (Ql a0 a1) λr=>ic 199 [eo a0,Hz a1] (E4 r):=⟨λh=>by refine pw C0 func199 ?_;refine ZS ?_;refine G4 ?_;refine ZR ?_;refine Az ?_;refine Et [.own 5 1 5 1] ?_;refine Bs h λ_ h=>?_;refine Z ?_;refine I1 h λh=>?_;refine Z ?_;refine I1 h λh=>?_;refine D3 [1,2] h λ_ h=>?_;refine D3 [1,2] h λ_ h=>?_;exact Cv [1,2] h⟩
abbrev Atn(k:Nat):Prop:=∀{a0:Ak},OK (Wb k a0) λr=>ic 368 [Fz a0] (eo r)
theorem A57(k:Nat):Atn k:=by induction k with|zero=>exact okz|succ k ih=>refine@λa0=>⟨λ{r} h=>?_⟩;unfold Wb at h;refine pw C0 func368 ?_;refine Bb h (λ(a,b)=>[(3,eo a),(9,eo b)]) ib ?_;rintro⟨a,b⟩ _ _ _ h _ _;exact Y
instance{k:Nat}:Atn k:=(A57 k)
abbrev Ato(k:Nat):Prop:=∀{a0:Ak}{a1:A1},OK (Ti k a0 a1) λr=>ic 370 [Fz a0,J5 3 B6 a1] (Fz r)
theorem A58(k:Nat):Ato k:=by induction k with|zero=>exact okz|succ k ih=>refine@λa0 a1=>⟨λ{r} h=>?_⟩;unfold Ti at h;refine pw (ii (iw 42 0 3 iv)) func370 ?_;refine ZR ?_;refine Az (Az ?_);refine Cb h (λd=>[(22,Av d)]) ib ?_;rintro d _ h;refine Dt h (λ_ h=>?_) λ_ h=>?_;exact Y;refine ZR ?_;refine Az (Az ?_);refine Et [.own 5 2 25 3] ?_;refine Bb h (λ(b,a)=>[(37,eo b)]) (λ(b,a)=>[(2,de a0.G a0.U 3 a),(3,dn a)]) ?_;rintro⟨b,a⟩ _ _ _ h _ _;exact Y
instance{k:Nat}:Ato k:=(A58 k)
abbrev Atp(k:Nat):Prop:=∀{a0:Ak}{a1:Ag},OK (Wc k a0 a1) λr=>ic 369 [Fz a0,Aw 1 eo a1] (eo r)
theorem A59(k:Nat):Atp k:=by induction k with|zero=>exact okz|succ k ih=>refine@λa0 a1=>⟨λ{r} h=>?_⟩;unfold Wc at h;refine pw C0 func369 ?_;refine ZR ?_;refine Az (Az ?_);refine Cb h (λa=>[(22,Av a)]) ib ?_;rintro a _ h;refine Dt h (λ_ h=>?_) λ_ h=>?_;exact Y;refine Bb h (λ(b,d)=>[(5,eo b),(31,eo d)]) ib ?_;rintro⟨b,d⟩ _ _ _ h _ _;exact Y
instance{k:Nat}:Atp k:=(A59 k)
instance{a0:A0}{a1:Ak}{a2:Int}:OK (Ac9 a0 a1 a2) λr=>ic 316 [Aw 3 Di a0,Fz a1,eo a2] (.tup [J5 3 B6 r.1,Av r.2]):=⟨λh=>by refine pw (ij (ia 14 .own iz) (iw 14 0 3 (iw 6 0 3 iv))) func316 ?_;refine ZR ?_;refine Az (Az ?_);refine Cb h (λi=>[(31,Av i)]) ib ?_;rintro i _ h;refine Dt h (λ_ h=>?_) λ_ h=>?_;exact Y;refine Ct h λ_ _ _ _ h=>?_;refine ZO ?_;refine Az (Az ?_);refine Cb h (λj=>[(53,Av j)]) ib ?_;rintro j _ h;refine Dt h (λ_ h=>?_) λ_ h=>?_;exact Y;refine Z ?_;refine Jw h λk h=>?_;refine Z ?_;refine F9 h (λ(d,a)=>[(61,eo d)]) (λ(d,a)=>[(2,db a)]) (λ(d,a)=>k.length=a.length) ?_;rintro⟨d,a⟩ _ _ _ h _ _ l;refine Ce h λ_ h=>?_;replace h:=C3 h;refine Ct h λ_ _ _ _ h=>?_;refine ZO ?_;refine M9 ?_;refine Et [.fz 9] ?_;refine Bb h (λe=>[(6,.sl 3 (B6 [])),(7,Av false),(79,eo e)]) ib ?_;rintro e _ _ _ h _ _;refine Ce h λ_ h=>?_;replace h:=C3 h;refine Ct h λ_ _ _ _ h=>?_;refine Bb h (λ(g,b)=>[(14,bk 3 b),(95,eo g)]) (λ(g,b)=>[(3,dn b)]) ?_;rintro⟨g,b⟩ _ _ _ h _ _;exact Y⟩
abbrev Atq(k:Nat):Prop:=∀{a0:Ak}{a1:A3}{b1:At}{b2:Aq}{I:A0}{V:A1}{b0_2 X:Int}{U:A1},OK (V5 k a0 a1 b1 b2 I V b0_2 X U) λr=>ie 323 [.loc 0 0,Fz a0,Hz a1] [cd I V b0_2 X U 1 2,cg b1,ch b2] (eo r) [cd I V b0_2 X U 1 2,cg b1,ch b2]
abbrev Atr(k:Nat):Prop:=∀{a0:Ak}{a1:A3}{b1:At}{b2:Aq}{I:A0}{V:A1}{b0_2 X:Int}{U:A1},OK (Te k a0 a1 b1 b2 I V b0_2 X U) λr=>ie 253 [.loc 0 0,Fz a0,Hz a1] [cd I V b0_2 X U 1 2,cg b1,ch b2] (eo r) [cd I V b0_2 X U 1 2,cg b1,ch b2]
variable{a0 b0_2 X:Int}{b2:Aq}{b1:At}{I:A0}{V U:A1}
abbrev Ats(k:Nat):Prop:=∀{a0:A1}{a1:Bo}{b1:At}{b2:Aq}{I:A0}{V:A1}{b0_2 X:Int}{U:A1},OK (V4 k a0 a1 b1 b2 I V b0_2 X U) λr=>ie 322 [.loc 0 0,J5 3 B6 a0,J5 2 Li a1] [cd I V b0_2 X U 1 2,cg b1,ch b2] (eo r) [cd I V b0_2 X U 1 2,cg b1,ch b2]
theorem Amo(k:Nat):Atq k/\Atr k/\Ats k:=by induction k with|zero=>exact⟨okz,okz,okz⟩|succ k ih=>obtain⟨j,l,m⟩:=ih;refine⟨@λa0 a1 b1 b2 I V b0_2 X U=>⟨λ{r} h=>?_⟩,@λa0 a1 b1 b2 I V b0_2 X U=>⟨λ{r} h=>?_⟩,@λa0 a1 b1 b2 I V b0_2 X U=>⟨λ{r} h=>?_⟩⟩;unfold V5 at h;refine aw (ij (ia 9 .own iz) (iw 9 0 3 iv)) true func323 ?_;refine Bs h λ_ h=>?_;refine Ce h λ_ h=>?_;refine Bs h λ_ h=>?_;refine Bb h (λ(b,a)=>[(9,bk 5 a),(38,eo b)]) (λ(b,a)=>[(5,dn a)]) ?_;rintro⟨b,a⟩ _ _ _ h _ _;refine Ce h λ_ h=>?_;replace h:=C3 h;refine Hb (Ha rfl (Az ?_));refine Et [.fz 9] ?_;exact Cv [0,1,2] h;unfold Te at h;refine aw C0 true func253 ?_;refine B5 h (λ_ h=>?_) λ_ h=>?_;refine B5 h (λ_ h=>?_) λ_ h=>?_;exact Cv [0,1,2] h;exact Y;refine Ce h λ_ h=>?_;refine B5 h (λ_ h=>?_) λ_ h=>?_;refine Ce h λ_ h=>?_;refine Bb h (λ(d,e)=>[(6,eo 0),(7,eo d),(50,eo e)]) ib ?_;rintro⟨d,e⟩ _ _ _ h _ _;refine B5 h (λ_ h=>?_) λ_ h=>?_;refine Ct h λ_ _ _ _ h=>?_;exact Cv [0,1,2] h;exact Y;exact Y;unfold V4 at h;refine aw C0 true func322 ?_;refine Ce h λ_ h=>?_;refine Bb h (λ(g,i)=>[(6,eo 0),(7,eo g),(18,eo i)]) ib ?_;rintro⟨g,i⟩ _ _ _ h _ _;refine B5 h (λ_ h=>?_) λ_ h=>?_;refine Ct h λ_ _ _ _ h=>?_;refine Ct h λ_ _ _ _ h=>?_;exact Cv [0,1,2] h;exact Y
instance{k:Nat}:Atq k:=(Amo k).1
instance{k:Nat}:Atr k:=(Amo k).2.1
instance{k:Nat}:Ats k:=(Amo k).2.2
instance:OK (Pf a0 b1 b2 I V b0_2 X U) λr=>ie 254 [.loc 0 0,eo a0] [cd I V b0_2 X U 1 2,cg b1,ch b2] (Fz r) [cd I V b0_2 X U 1 2,cg b1,ch b2]:=⟨λh=>by refine aw C0 true func254 ?_;exact Y⟩
instance{a1:A3}:OK (Pd a0 a1 b1 b2 I V b0_2 X U) λr=>ie 168 [.loc 0 0,eo a0,Hz a1] [cd I V b0_2 X U 1 2,cg b1,ch b2] (eo r.1) [cd I V b0_2 X U 1 2,cg r.2,ch b2]:=⟨λh=>by refine aw C0 true func168 ?_;refine Bs h λ_ h=>?_;refine ZO ?_;refine Az ?_;refine Nm h (λ(b,d)=>[(8,eo b),(9,Av d)]) ib ?_ ?_;intro _ h _ _ _;refine Z ?_;refine X2 (f:=eo) (l:=b1) rfl (0:Int) h (λg e h=>?_) λe h=>?_;exact Y;exact Y;rintro⟨b,d⟩ _ h;refine B5 h (λ_ h=>?_) λ_ h=>?_;refine D3 [0,1,2] h λ_ h=>?_;refine D3 [0,1,2] h λ_ h=>?_;refine ZR ?_;refine Cb h (λa=>[(8,eo a)]) ib ?_;rintro a _ h;refine Z ?_;refine U5 (f:=eo) (l:=b1) (x:=a) rfl rfl ?_;exact Y;exact Y⟩
instance{a0:Ax}:OK (Ob a0 b1 b2 I V b0_2 X U) λr=>ie 167 [.loc 0 0,Hn a0] [cd I V b0_2 X U 1 2,cg b1,ch b2] (eo r.1) [cd I V b0_2 X U 1 2,cg r.2,ch b2]:=⟨λh=>by refine aw C0 true func167 ?_;refine Bb h (λ(d,e,g)=>[(5,eo d),(13,eo e)]) (λ(d,e,g)=>[(1,cg g)]) ?_;rintro⟨d,e,g⟩ _ _ _ h _ _;refine B5 h (λ_ h=>?_) λ_ h=>?_;refine Ct h λ_ _ _ _ h=>?_;refine B5 h (λ_ h=>?_) λ_ h=>?_;exact Cv [0,1,2] h;exact Y;replace h:=C3 h;refine Bb h (λ(a,b)=>[(5,eo a),(31,eo b)]) ib ?_;rintro⟨a,b⟩ _ _ _ h _ _;exact Y⟩
instance:OK (Vs a0 b1 b2 I V b0_2 X U) λr=>ie 251 [.loc 0 0,eo a0] [cd I V b0_2 X U 1 2,cg b1,ch b2] (Av r) [cd I V b0_2 X U 1 2,cg b1,ch b2]:=⟨λh=>by refine aw C0 true func251 ?_;exact Y⟩
instance{a0:Bh}{b2:At}{b3:Aq}{b1_0:A0}{b1_1:A1}{b1_2 b1_3:Int}{b1_4:A1}:OK (Zi a0 b2 b3 b1_0 b1_1 b1_2 b1_3 b1_4) λr=>ie 321 [Da a0,.loc 0 0] [dp 1,cd b1_0 b1_1 b1_2 b1_3 b1_4 2 3,cg b2,ch b3] (Av r) [dp 1,cd b1_0 b1_1 b1_2 b1_3 b1_4 2 3,cg b2,ch b3]:=⟨λh=>by refine aw C0 true func321 ?_;refine D3 [1,2,3] h λ_ h=>?_;refine Z ?_;refine Hs h (λ_ h=>?_) λ_ h=>?_;exact Y;refine D3 [1,2,3] h λ_ h=>?_;refine Z ?_;refine Arg.mk 3 κ ?_;exact Y⟩
variable{b0_2 X b1_2 b1_3:Int}{b2 b3:Aq}{b1:At}{I b1_0:A0}{V U b1_1 b1_4:A1}{a0 a1:Ag}
end Go.Ab
