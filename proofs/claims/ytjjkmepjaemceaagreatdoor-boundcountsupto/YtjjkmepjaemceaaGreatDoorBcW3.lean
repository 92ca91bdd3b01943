/- The contracts of the functions, each by its walk (made by a program). -/
import Derived.Test.YtjjkmepjaemceaaGreatDoorBcW2
namespace Go.Ab
open Go Go.Proofs
set_option maxRecDepth 10000
theorem Ara {a0:ByteArray} {r:((List Fa)×Int×Int)} (h:U2 a0=some r):Bb Tryz.prog 227 [Co a0] (.tup [(A2 3 Gb) r.1,(Af .i64) r.2.1,(Af .i64) r.2.2]):=by
 unfold U2 at h
 refine C2 (C:={T:=B4,an:=(fun s=>bif Nat.beq s 5 then .own else .ask),nl:=(fun s=>bif Nat.beq s 5 then [(0,3)] else bif Nat.beq s 2 then [(0,3)] else [])}) B8 B5 Tryz.func227 rfl (by kernel_rfl) (by kernel_rfl) rfl ?_
 refine Z<|Ac<|O<|O<|O<|Aa<|Z<|Z<|Ac<|O<|O<|O<|Aa<|Am h (fun b h=>?_) fun b h=>?_
 exact Z<|Ac<|O<|O<|O<|Aa<|Ak<|congrArg (fun x:((List Fa)×Int×Int)=>(.tup [(A2 3 Gb) x.1,(Af .i64) x.2.1,(Af .i64) x.2.2]:AV))<|Ai h
 refine An<|Z<|Ac<|O<|Aa<|Z<|Z<|Ac<|O<|Aa<|Ay<|Bn h (fun (v49,i)=>[(2,(.sl 3<|List.map Gb [])),(3,(Af .i64 0)),(4,(Af .i64 0)),(5,(.arr 0 i.length 0 i.length)),(6,(Af .i64 v49))]) (fun (v49,i)=>[(0,.rows 273 3 (List.map Gb i))]) (fun _=>True) (fun _=>rfl) ⟨rfl,rfl,rfl,rfl,rfl,Ae⟩ ⟨Ah,Ae⟩ Ae ?_
 rintro ⟨v49,i⟩ u1 K1 bx ax j hn1 _
 refine Z<|Z<|Ac<|O<|O<|O<|O<|Aa<|Am ax (fun b h=>?_) fun b h=>?_
 refine An<|Ay<|Z<|Ac<|O<|O<|O<|Ha h fun k h=>O<|Aa<|Z<|Z<|Cd h fun ak aw b4=>Ce (fun (q:Bool)=>q=ak) (fun q=>[(35,(Av q))]) (fun q=>[]) (fun _=>rfl) ?_ ?_
 intro K2 hK2
 refine Ac<|O<|O<|O<|A6 (s:=24) aw (fun b h=>?_) fun b h=>?_
 exact Ad<|Ad<|O<|O<|Ad<|Ad<|O<|O<|Ad<|Ad<|O<|Aa<|hK2 true _ _ _ (Ai h) ⟨rfl,Ae⟩ ⟨Ah,Ae⟩
 refine Ag<|Ag<|O<|O<|A6 (s:=28) h (fun b h=>?_) fun b h=>?_
 exact Ad<|Ad<|O<|O<|Ad<|Ad<|O<|Aa<|hK2 true _ _ _ (Ai h) ⟨rfl,Ae⟩ ⟨Ah,Ae⟩
 refine Ag<|Ag<|O<|O<|A6 (s:=32) h (fun b h=>?_) fun b h=>?_
 exact Ad<|Ad<|O<|Aa<|hK2 true _ _ _ (Ai h) ⟨rfl,Ae⟩ ⟨Ah,Ae⟩
 exact Ag<|Ag<|O<|Aa<|hK2 ((k.toNat:Int)==(32:Int)) _ _ _ (Ai h) ⟨rfl,Ae⟩ ⟨Ah,Ae⟩
 rintro q u2 b9
 have h:=b4 _ b9
 refine Am h (fun b h=>?_) fun b h=>?_
 exact Z<|Ac<|O<|O<|Aw.mk _ rfl<|O<|Aa<|Bh<|Bg rfl<|hn1 _ _ _ _ (Ai h) ⟨rfl,rfl,rfl,rfl,rfl,Ae⟩ ⟨Ah,Ae⟩ Ae
 refine An<|Z<|Z<|Ac<|O<|O<|Aa<|Am h (fun b h=>?_) fun b h=>?_
 refine Z<|Ay<|Bn h (fun L=>[(6,(Af .i64 L))]) (fun L=>[]) (fun _=>True) (fun _=>rfl) ⟨rfl,Ae⟩ ⟨Ah,Ae⟩ Ae ?_
 rintro L u3 K3 bw av a7 hn3 _
 refine Z<|Z<|Ac<|O<|O<|O<|O<|O<|A6 (s:=44) av (fun b h=>?_) fun b h=>?_
 refine Ag<|Ag<|Ag<|Ha h fun c0 h=>Ag<|O<|Aa<|Am h (fun b h=>?_) fun b h=>?_
 exact An<|Ay<|Ac<|O<|O<|Aw.mk _ rfl<|O<|Aa<|hn3 _ _ _ _ (Ai h) ⟨rfl,Ae⟩ ⟨Ah,Ae⟩ Ae
 refine Bh<|Bg rfl ?_
 have h:=a7 _ (Ai h)
 exact Bh<|Bg rfl<|hn1 _ _ _ _ (Ai h) ⟨rfl,rfl,rfl,rfl,rfl,Ae⟩ ⟨Ah,Ae⟩ Ae
 refine Ad<|Ad<|Ad<|Ad<|O<|Aa<|Fg<|Bh<|Bg rfl ?_
 have h:=a7 _ (Ai h)
 exact Bh<|Bg rfl<|hn1 _ _ _ _ (Ai h) ⟨rfl,rfl,rfl,rfl,rfl,Ae⟩ ⟨Ah,Ae⟩ Ae
 refine An<|Z<|Ac<|O<|Aa<|Z<|Ay<|Z<|Cd h fun aj au b3=>Ce (fun (v59:Bool)=>v59=aj) (fun v59=>[(70,(Av v59))]) (fun v59=>[]) (fun _=>rfl) ?_ ?_
 intro K4 hK4
 refine Ac<|O<|O<|Aq au fun br bl h=>As.mk _ (Ahc (a0:=(k.toNat:Int)) bl) rfl<|O<|A6 (s:=73) h (fun b h=>?_) fun b h=>?_
 exact Ad<|Ad<|O<|O<|Aa<|hK4 true _ _ _ (Ai h) ⟨rfl,Ae⟩ ⟨Ah,Ae⟩
 exact Ag<|Ag<|Aq h fun ad bk h=>As.mk _ (Xw (a0:=(k.toNat:Int)) bk) rfl<|O<|O<|Aa<|hK4 ad _ _ _ (Ai h) ⟨rfl,Ae⟩ ⟨Ah,Ae⟩
 rintro v59 u4 b8
 have h:=b3 _ b8
 refine Am h (fun b h=>?_) fun b h=>?_
 refine Z<|Ay<|Bn h (fun J=>[(8,(Af .i64 J))]) (fun J=>[]) (fun _=>True) (fun _=>rfl) ⟨rfl,Ae⟩ ⟨Ah,Ae⟩ Ae ?_
 rintro J u5 K5 bv ar a6 hn5 _
 refine Z<|Z<|Ac<|O<|O<|O<|Aw.mk _ rfl<|O<|O<|O<|O<|A6 (s:=83) ar (fun b h=>?_) fun b h=>?_
 refine Ag<|Ag<|Ag<|Ag<|Aw.mk _ rfl<|Ag<|Ha h fun bj h=>Ag<|Aq h fun bq bi h=>As.mk _ (Ahc (a0:=(bj.toNat:Int)) bi) rfl<|Ag<|A6 (s:=90) h (fun b h=>?_) fun b h=>?_
 refine Ad<|Ad<|Ad<|Ad<|Ad<|Ad<|Ag<|Ag<|Ad<|Ad<|Ad<|Ad<|Ad<|Ad<|Ag<|Ag<|Ad<|Ad<|Ad<|Ad<|Ad<|Ad<|Ag<|O ?_
 exact Aa<|Dd<|An<|Ay<|Ac<|O<|O<|Aw.mk _ rfl<|O<|Aa<|hn5 _ _ _ _ (Ai h) ⟨rfl,Ae⟩ ⟨Ah,Ae⟩ Ae
 refine Ag<|Ag<|Ag<|Ag<|Aw.mk _ rfl<|Ag<|Ha h fun bh h=>Ag<|Aq h fun bp bg h=>As.mk _ (Xw (a0:=(bh.toNat:Int)) bg) rfl<|Ag<|Ag<|A6 (s:=98) h (fun b h=>?_) fun b h=>?_
 refine Ad<|Ad<|Ad<|Ad<|Ad<|Ad<|Ag<|Ag<|Ad<|Ad<|Ad<|Ad<|Ad<|Ad<|Ag<|O<|Aa<|Dd<|An<|Ay<|Ac<|O<|O<|Aw.mk _ rfl ?_
 exact O<|Aa<|hn5 _ _ _ _ (Ai h) ⟨rfl,Ae⟩ ⟨Ah,Ae⟩ Ae
 refine Ag<|Ag<|Ag<|Ag<|Aw.mk _ rfl<|Ag<|Ha h fun bf h=>Ag<|Aq h fun bo be h=>As.mk _ (Abl (a0:=(bf.toNat:Int)) be) rfl<|Ag<|Ag<|A6 (s:=106) h (fun b h=>?_) fun b h=>?_
 exact Ad<|Ad<|Ad<|Ad<|Ad<|Ad<|Ag<|O<|Aa<|Dd<|An<|Ay<|Ac<|O<|O<|Aw.mk _ rfl<|O<|Aa<|hn5 _ _ _ _ (Ai h) ⟨rfl,Ae⟩ ⟨Ah,Ae⟩ Ae
 refine Ag<|Ag<|Ag<|Ag<|Aw.mk _ rfl<|Ag<|Ha h fun bz h=>Ag<|Ag<|O<|Aa<|Am h (fun b h=>?_) fun b h=>?_
 exact An<|Ay<|Ac<|O<|O<|Aw.mk _ rfl<|O<|Aa<|hn5 _ _ _ _ (Ai h) ⟨rfl,Ae⟩ ⟨Ah,Ae⟩ Ae
 refine Bh<|Bg rfl ?_
 have h:=a6 _ (Ai h)
 refine Z<|Z<|Ac<|O<|O<|Aa<|Am h (fun b h=>?_) fun b h=>?_
 refine Z<|Ac<|O<|O<|O<|O<|Aa<|Ak ?_
 have h:=j _ (Ai h)
 exact congrArg (fun x:((List Fa)×Int×Int)=>(.tup [(A2 3 Gb) x.1,(Af .i64) x.2.1,(Af .i64) x.2.2]:AV))<|Ai h
 refine An<|Z<|Ac<|O<|Aa<|Z<|Z<|Ac<|O<|O<|Aq h fun v76 R h=>As.mk _ (Xw (a0:=(k.toNat:Int)) R) rfl<|Aa<|Cd h fun ai aq b0=>Ce (fun (c:Int)=>c=ai) (fun c=>[(9,(Af .i64 c))]) (fun c=>[]) (fun _=>rfl) ?_ ?_
 intro K6 hK6
 refine Am aq (fun b h=>?_) fun b h=>?_
 exact Ac<|O<|Aa<|hK6 2 _ _ _ (Ai h) ⟨rfl,Ae⟩ ⟨Ah,Ae⟩
 refine Z<|Ac<|O<|O<|O<|O<|O<|Aw.mk _ rfl<|O<|Eg h fun G A _ _ h=>O<|Aq h fun ac N h=>As.mk _ (Aha (a0:=(a0.extract G A)) N) rfl<|Aa<|Am h (fun b h=>?_) fun b h=>?_
 exact Ac<|O<|Aa<|hK6 4 _ _ _ (Ai h) ⟨rfl,Ae⟩ ⟨Ah,Ae⟩
 exact An<|hK6 1 _ _ _ (Ai h) ⟨rfl,Ae⟩ ⟨Ah,Ae⟩
 rintro c u6 b7
 have h:=b0 _ b7
 refine Ac<|O<|O<|O<|O<|O<|O<|O<|Aw.mk _ rfl<|O<|Eg h fun E z _ _ h=>O<|O<|O<|O<|D9 (f:=Gb) (l:=i) (ys:=[(Fa.mk c (a0.extract E z) v49)]) rfl rfl rfl rfl h fun ag h=>O<|Aa<|Ac<|O<|O<|O<|Aw.mk _ rfl<|O ?_
 exact Aa<|hn1 _ _ _ _ (Ai h) ⟨rfl,rfl,rfl,rfl,rfl,Ae⟩ ⟨Ah,Ae⟩ Ae
 refine Ad<|Ad<|Ad<|Ad<|Ad<|Ad<|Ad<|A9 (13,false) 90 undef<|A9 (13,false) 90 undef<|A9 (13,false) 90 undef<|A9 (13,false) 90 undef<|A9 (13,false) 90 undef<|A9 (13,false) 90 undef<|Ad<|Ad<|A9 (21,false) 98 undef<|A9 (21,false) 98 undef<|A9 (21,false) 98 undef<|A9 (21,false) 98 undef<|A9 (21,false) 98 undef<|A9 (21,false) 98 undef<|Ad<|Ad<|A9 (29,false) 106 undef ?_
 refine A9 (29,false) 106 undef<|A9 (29,false) 106 undef<|A9 (29,false) 106 undef<|A9 (29,false) 106 undef<|A9 (29,false) 106 undef<|Ad<|O<|Aa<|Fg<|Bh<|Bg rfl ?_
 have h:=a6 _ (Ai h)
 refine Z<|Z<|Ac<|O<|O<|Aa<|Am h (fun b h=>?_) fun b h=>?_
 refine Z<|Ac<|O<|O<|O<|O<|Aa<|Ak ?_
 have h:=j _ (Ai h)
 exact congrArg (fun x:((List Fa)×Int×Int)=>(.tup [(A2 3 Gb) x.1,(Af .i64) x.2.1,(Af .i64) x.2.2]:AV))<|Ai h
 refine An<|Z<|Ac<|O<|Aa<|Z<|Z<|Ac<|O<|O<|Aq h fun v76 R h=>As.mk _ (Xw (a0:=(k.toNat:Int)) R) rfl<|Aa<|Cd h fun ah ap az=>Ce (fun (c:Int)=>c=ah) (fun c=>[(9,(Af .i64 c))]) (fun c=>[]) (fun _=>rfl) ?_ ?_
 intro K7 hK7
 refine Am ap (fun b h=>?_) fun b h=>?_
 exact Ac<|O<|Aa<|hK7 2 _ _ _ (Ai h) ⟨rfl,Ae⟩ ⟨Ah,Ae⟩
 refine Z<|Ac<|O<|O<|O<|O<|O<|Aw.mk _ rfl<|O<|Eg h fun G A _ _ h=>O<|Aq h fun ac N h=>As.mk _ (Aha (a0:=(a0.extract G A)) N) rfl<|Aa<|Am h (fun b h=>?_) fun b h=>?_
 exact Ac<|O<|Aa<|hK7 4 _ _ _ (Ai h) ⟨rfl,Ae⟩ ⟨Ah,Ae⟩
 exact An<|hK7 1 _ _ _ (Ai h) ⟨rfl,Ae⟩ ⟨Ah,Ae⟩
 rintro c u7 b6
 have h:=az _ b6
 refine Ac<|O<|O<|O<|O<|O<|O<|O<|Aw.mk _ rfl<|O<|Eg h fun E z _ _ h=>O<|O<|O<|O<|D9 (f:=Gb) (l:=i) (ys:=[(Fa.mk c (a0.extract E z) v49)]) rfl rfl rfl rfl h fun ag h=>O<|Aa<|Ac<|O<|O<|O<|Aw.mk _ rfl<|O ?_
 exact Aa<|hn1 _ _ _ _ (Ai h) ⟨rfl,rfl,rfl,rfl,rfl,Ae⟩ ⟨Ah,Ae⟩ Ae
 refine Z<|Ac<|O<|O<|Aq h fun bn bd h=>As.mk _ (Abl (a0:=(k.toNat:Int)) bd) rfl<|O<|Aa<|Am h (fun b h=>?_) fun b h=>?_
 refine Z<|Ay<|Bn h (fun v85=>[(8,(Af .i64 v85))]) (fun v85=>[]) (fun _=>True) (fun _=>rfl) ⟨rfl,Ae⟩ ⟨Ah,Ae⟩ Ae ?_
 rintro v85 u8 K8 bu ao a1 hn8 _
 refine Z<|Z<|Ac<|O<|O<|O<|Aw.mk _ rfl<|O<|O<|O<|O<|A6 (s:=150) ao (fun b h=>?_) fun b h=>?_
 refine Ag<|Ag<|Ag<|Ag<|Aw.mk _ rfl<|Ag<|Ha h fun bc h=>Ag<|Aq h fun v87 bb h=>As.mk _ (Abl (a0:=(bc.toNat:Int)) bb) rfl<|O<|Aa<|Am h (fun b h=>?_) fun b h=>?_
 exact An<|Ay<|Ac<|O<|O<|Aw.mk _ rfl<|O<|Aa<|hn8 _ _ _ _ (Ai h) ⟨rfl,Ae⟩ ⟨Ah,Ae⟩ Ae
 refine Bh<|Bg rfl ?_
 have h:=a1 _ (Ai h)
 refine Z<|Z<|Cd h fun ae am ay=>Ce (fun (g:Bool)=>g=ae) (fun g=>[(165,(Av g))]) (fun g=>[]) (fun _=>rfl) ?_ ?_
 intro K9 hK9
 refine Ac<|O<|O<|O<|A6 (s:=162) am (fun b h=>?_) fun b h=>?_
 exact Ag<|Ag<|O<|Aa<|hK9 ((k.toNat:Int)==(48:Int)) _ _ _ (Ai h) ⟨rfl,Ae⟩ ⟨Ah,Ae⟩
 exact Ad<|Ad<|O<|Aa<|hK9 false _ _ _ (Ai h) ⟨rfl,Ae⟩ ⟨Ah,Ae⟩
 rintro g u9 b5
 have h:=ay _ b5
 refine Am h (fun b h=>?_) fun b h=>?_
 refine Z<|Ac<|O<|O<|O<|O<|Aa<|Ak ?_
 have h:=j _ (Ai h)
 exact congrArg (fun x:((List Fa)×Int×Int)=>(.tup [(A2 3 Gb) x.1,(Af .i64) x.2.1,(Af .i64) x.2.2]:AV))<|Ai h
 refine An<|Z<|Z<|Ac<|O<|O<|O<|O<|O<|Aw.mk _ rfl<|O<|Eg h fun D y _ _ h=>O<|Aq h fun v91 M h=>As.mk _ (Ahb (a0:=(a0.extract D y)) M) rfl<|O<|O<|O<|O<|O<|Aa<|Z<|Ac<|O ?_
 refine O<|Aa<|Am h (fun b h=>?_) fun b h=>?_
 refine Z<|Ac<|O<|O<|O<|O<|Aa<|Ak ?_
 have h:=j _ (Ai h)
 exact congrArg (fun x:((List Fa)×Int×Int)=>(.tup [(A2 3 Gb) x.1,(Af .i64) x.2.1,(Af .i64) x.2.2]:AV))<|Ai h
 refine An<|Ac<|O<|O<|O<|O<|O<|O<|Aw.mk _ rfl<|O<|Eg h fun B u _ _ h=>O<|O<|O<|O<|D9 (f:=Gb) (l:=i) (ys:=[(Fa.mk 3 (a0.extract B u) v49)]) rfl rfl rfl rfl h fun af h=>O<|Aa<|Ac<|O<|O<|O<|Aw.mk _ rfl<|O ?_
 exact Aa<|hn1 _ _ _ _ (Ai h) ⟨rfl,rfl,rfl,rfl,rfl,Ae⟩ ⟨Ah,Ae⟩ Ae
 refine Ad<|Ad<|Ad<|Ad<|Ad<|Ad<|O<|Aa<|Fg<|Bh<|Bg rfl ?_
 have h:=a1 _ (Ai h)
 refine Z<|Z<|Cd h fun V a8 aa=>Ce (fun (g:Bool)=>g=V) (fun g=>[(165,(Av g))]) (fun g=>[]) (fun _=>rfl) ?_ ?_
 intro c1 hK10
 refine Ac<|O<|O<|O<|A6 (s:=162) a8 (fun b h=>?_) fun b h=>?_
 exact Ag<|Ag<|O<|Aa<|hK10 ((k.toNat:Int)==(48:Int)) _ _ _ (Ai h) ⟨rfl,Ae⟩ ⟨Ah,Ae⟩
 exact Ad<|Ad<|O<|Aa<|hK10 false _ _ _ (Ai h) ⟨rfl,Ae⟩ ⟨Ah,Ae⟩
 rintro g bs ab
 have h:=aa _ ab
 refine Am h (fun b h=>?_) fun b h=>?_
 refine Z<|Ac<|O<|O<|O<|O<|Aa<|Ak ?_
 have h:=j _ (Ai h)
 exact congrArg (fun x:((List Fa)×Int×Int)=>(.tup [(A2 3 Gb) x.1,(Af .i64) x.2.1,(Af .i64) x.2.2]:AV))<|Ai h
 refine An<|Z<|Z<|Ac<|O<|O<|O<|O<|O<|Aw.mk _ rfl<|O<|Eg h fun D y _ _ h=>O<|Aq h fun v91 M h=>As.mk _ (Ahb (a0:=(a0.extract D y)) M) rfl<|O<|O<|O<|O<|O<|Aa<|Z<|Ac<|O ?_
 refine O<|Aa<|Am h (fun b h=>?_) fun b h=>?_
 refine Z<|Ac<|O<|O<|O<|O<|Aa<|Ak ?_
 have h:=j _ (Ai h)
 exact congrArg (fun x:((List Fa)×Int×Int)=>(.tup [(A2 3 Gb) x.1,(Af .i64) x.2.1,(Af .i64) x.2.2]:AV))<|Ai h
 refine An<|Ac<|O<|O<|O<|O<|O<|O<|Aw.mk _ rfl<|O<|Eg h fun B u _ _ h=>O<|O<|O<|O<|D9 (f:=Gb) (l:=i) (ys:=[(Fa.mk 3 (a0.extract B u) v49)]) rfl rfl rfl rfl h fun af h=>O<|Aa<|Ac<|O<|O<|O<|Aw.mk _ rfl<|O ?_
 exact Aa<|hn1 _ _ _ _ (Ai h) ⟨rfl,rfl,rfl,rfl,rfl,Ae⟩ ⟨Ah,Ae⟩ Ae
 refine Z<|Ac<|O<|O<|O<|Eg h fun Y U _ _ h=>O<|Aq h fun bm ba h=>As.mk _ (Aq9 (a0:=(a0.extract Y U)) ba) rfl<|O<|Aa<|Z<|Z<|Ac<|O<|O<|Aa<|Am h (fun b h=>?_) fun b h=>?_
 refine Z<|Ac<|O<|O<|O<|O<|Aa<|Ak ?_
 have h:=j _ (Ai h)
 exact congrArg (fun x:((List Fa)×Int×Int)=>(.tup [(A2 3 Gb) x.1,(Af .i64) x.2.1,(Af .i64) x.2.2]:AV))<|Ai h
 refine An<|Ac<|O<|O<|O<|O<|O<|O<|Aw.mk _ rfl<|O<|Eg h fun X S _ _ h=>O<|O<|O<|O<|D9 (f:=Gb) (l:=i) (ys:=[(Fa.mk 5 (a0.extract X S) v49)]) rfl rfl rfl rfl h fun bt h=>O<|Aa<|Ac<|O<|O<|O<|Aw.mk _ rfl<|O ?_
 exact Aa<|hn1 _ _ _ _ (Ai h) ⟨rfl,rfl,rfl,rfl,rfl,Ae⟩ ⟨Ah,Ae⟩ Ae
 refine Bh<|Bg rfl ?_
 have h:=j _ (Ai h)
 exact Z<|Ac<|O<|O<|O<|O<|O<|O<|D9 (f:=Gb) (l:=i) (ys:=[(Fa.mk 6 (ByteArray.mk #[]) (a0.size:Int))]) rfl rfl rfl rfl h fun I h=>O<|O<|O<|Aa<|Ak<|Bz (f:=Gb) (l:=I) rfl rfl<|Bz (f:=Gb) (l:=I) rfl rfl<|congrArg (fun x:((List Fa)×Int×Int)=>(.tup [(A2 3 Gb) x.1,(Af .i64) x.2.1,(Af .i64) x.2.2]:AV))<|Ai h
theorem Ahd {a0:ByteArray} {r:Bool} (h:Nw a0=some r):Bb Tryz.prog 149 [Co a0] (Av r):=by
 unfold Nw at h
 refine Bv Tryz.func149 rfl (by kernel_rfl) (by kernel_rfl) rfl ?_
 refine Z<|Ac<|O<|Aa<|Z<|Ac<|O<|O<|Aq h fun c g h=>As.mk _ (Ara (a0:=a0) g) rfl<|O<|O<|O<|O<|O<|O<|O<|Aa<|Z<|Ac<|O<|O<|O<|A6 (s:=14) h (fun b h=>?_) fun b h=>?_
 refine Ag<|Ag<|Ax (f:=Gb) (l:=c.1) rfl<|Ag<|O<|O<|A6 (s:=19) h (fun b h=>?_) fun b h=>?_
 refine Ag<|Ag<|A7 (f:=Gb) rfl h fun q v2 i2 j h=>Ag<|Ag<|Ag<|O<|O<|A6 (s:=26) h (fun b h=>?_) fun b h=>?_
 exact Ag<|Ag<|A7 (f:=Gb) rfl h fun k v3 i3 i h=>Ag<|Ag<|Ag<|Ag<|O<|O<|Aa<|Ak<|A3 h
 exact Ad<|Ad<|Ad<|Ad<|Ad<|Ad<|O<|O<|Aa<|Ak<|A3 h
 exact Ad<|Ad<|Ad<|Ad<|Ad<|O<|O<|Ad<|Ad<|Ad<|Ad<|Ad<|Ad<|O<|O<|Aa<|Ak<|A3 h
 exact Ad<|Ad<|Ad<|O<|O<|Ad<|Ad<|Ad<|Ad<|Ad<|O<|O<|Ad<|Ad<|Ad<|Ad<|Ad<|Ad<|O<|O<|Aa<|Ak<|A3 h
theorem Abm {a0:(List A5)} {r:Bool} (h:Np a0=some r):Bb Tryz.prog 87 [(A2 3 Bf) a0] (Av r):=by
 unfold Np at h
 refine C2 (C:={T:=B4,an:=(fun s=>bif Nat.beq s 4 then .own else bif Nat.beq s 3 then .own else .ask),nl:=(fun s=>bif Nat.beq s 4 then [(0,1)] else bif Nat.beq s 3 then [(0,1)] else [])}) B8 B5 Tryz.func87 rfl (by kernel_rfl) (by kernel_rfl) rfl ?_
 refine Z<|Ac<|O<|Aa<|Z<|Z<|Ac<|O<|O<|Ax (f:=Bf) (l:=a0) rfl<|O<|Aa<|Am h (fun b h=>?_) fun b h=>?_
 exact Z<|Ac<|O<|Aa<|Ak<|A3 h
 refine An<|Z<|Ac<|O<|O<|Aa<|Z<|Z<|Ac<|O<|Aa<|Ay<|Bn h (fun (u,c,g)=>[(2,(Av false)),(3,(.arr 0 c.length 0 c.length)),(4,(.arr 1 g.length 0 g.length)),(5,(Af .i64 u))]) (fun (u,c,g)=>[(0,.rows 9 1 (List.map Co c)),(1,.rows 9 1 (List.map Co g))]) (fun _=>True) (fun _=>rfl) ⟨rfl,rfl,rfl,rfl,Ae⟩ ⟨Ah,Ah,Ae⟩ Ae ?_
 rintro ⟨u,c,g⟩ u1 K1 au a8 z hn1 _
 refine Z<|Z<|Ac<|O<|O<|O<|Ax (f:=Bf) (l:=a0) rfl<|O<|Aa<|Am a8 (fun b h=>?_) fun b h=>?_
 refine An<|Z<|Ay<|Z<|Ac<|O<|O<|O<|A7 (f:=Bf) rfl h fun n153 i i153 aj h=>O<|O<|O<|Aa<|Z<|Z<|Cd h fun V a7 ab=>Ce (fun (q:Bool)=>q=V) (fun q=>[(48,(Av q))]) (fun q=>[]) (fun _=>rfl) ?_ ?_
 intro K2 hK2
 refine Ac<|O<|O<|O<|O<|A6 (s:=26) a7 (fun b h=>?_) fun b h=>?_
 exact Ad<|Ad<|Ad<|O<|O<|Ad<|Ad<|Ad<|Ad<|O<|O<|Ad<|Ad<|Ad<|Ad<|O<|O<|Ad<|Ad<|Ad<|Ad<|O<|Aa<|hK2 true _ _ _ (Ai h) ⟨rfl,Ae⟩ ⟨Ah,Ah,Ah,Ae⟩
 refine Ag<|Ag<|Ag<|O<|O<|A6 (s:=31) h (fun b h=>?_) fun b h=>?_
 exact Ad<|Ad<|Ad<|Ad<|O<|O<|Ad<|Ad<|Ad<|Ad<|O<|O<|Ad<|Ad<|Ad<|Ad<|O<|Aa<|hK2 true _ _ _ (Ai h) ⟨rfl,Ae⟩ ⟨Ah,Ah,Ah,Ae⟩
 refine Ag<|Ag<|Ag<|Ax (f:=Ej) (l:=i.Cons) rfl<|Ag<|O<|O<|A6 (s:=37) h (fun b h=>?_) fun b h=>?_
 exact Ad<|Ad<|Ad<|Ad<|O<|O<|Ad<|Ad<|Ad<|Ad<|O<|Aa<|hK2 true _ _ _ (Ai h) ⟨rfl,Ae⟩ ⟨Ah,Ah,Ah,Ae⟩
 refine Ag<|Ag<|Ag<|Ax (f:=Ej) (l:=i.Cons) rfl<|Ag<|O<|O<|A6 (s:=43) h (fun b h=>?_) fun b h=>?_
 exact Ad<|Ad<|Ad<|Ad<|O<|Aa<|hK2 true _ _ _ (Ai h) ⟨rfl,Ae⟩ ⟨Ah,Ah,Ah,Ae⟩
 exact Ag<|Ag<|Ag<|Aq h fun G S h=>As.mk _ (Ahd (a0:=i.Name) S) rfl<|Ag<|O<|Aa<|hK2 (!G) _ _ _ (Ai h) ⟨rfl,Ae⟩ ⟨Ah,Ah,Ah,Ae⟩
 rintro q u2 ad
 have h:=ab _ ad
 refine Am h (fun b h=>?_) fun b h=>?_
 refine Z<|Ac<|O<|Aa<|Ak ?_
 have h:=z _ (Ai h)
 exact A3 h
 refine An<|Z<|Ac<|O<|O<|O<|O<|O<|D9 (f:=Co) (l:=c) (ys:=[i.Name]) rfl rfl rfl rfl h fun ap h=>O<|Aa<|Z<|Ac<|O<|Aa<|Ay<|Bn h (fun (y,j)=>[(2,(Av false)),(4,(.arr 1 j.length 0 j.length)),(7,(Af .i64 y))]) (fun (y,j)=>[(1,.rows 9 1 (List.map Co j))]) (fun _=>True) (fun _=>rfl) ⟨rfl,rfl,rfl,Ae⟩ ⟨Ah,Ah,Ah,Ae⟩ Ae ?_
 rintro ⟨y,j⟩ u3 K3 ar a6 D hn3 _
 refine Z<|Z<|Ac<|O<|O<|O<|O<|Ax (f:=Ej) (l:=i.Cons) rfl<|O<|Aa<|Am a6 (fun b h=>?_) fun b h=>?_
 refine An<|Z<|Ay<|Z<|Z<|Cd h fun U Y aa=>Ce (fun (k:Bool)=>k=U) (fun k=>[(78,(Av k))]) (fun k=>[]) (fun _=>rfl) ?_ ?_
 intro K4 hK4
 refine Ac<|O<|O<|O<|O<|A7 (f:=Ej) rfl Y fun n202 E i202 ai h=>O<|O<|O<|Aq h fun v203 R h=>As.mk _ (Ahd (a0:=E.Name) R) rfl<|O<|O<|A6 (s:=69) h (fun b h=>?_) fun b h=>?_
 exact Ad<|Ad<|Ad<|Ad<|Ad<|Ad<|Ad<|Ad<|O<|Aa<|hK4 true _ _ _ (Ai h) ⟨rfl,Ae⟩ ⟨Ah,Ah,Ah,Ae⟩
 exact Ag<|Ag<|Ag<|Ag<|A7 (f:=Ej) rfl h fun n204 B i204 ah h=>Ag<|Ag<|Ag<|Ax (f:=Ba) (l:=B.Args) (Bq _)<|Ag<|O<|Aa<|hK4 (decide ((B.Args.length:Int)>(6:Int))) _ _ _ (Ai h) ⟨rfl,Ae⟩ ⟨Ah,Ah,Ah,Ae⟩
 rintro k u4 ac
 have h:=aa _ ac
 refine Am h (fun b h=>?_) fun b h=>?_
 refine Z<|Ac<|O<|Aa<|Ak ?_
 have h:=D _ (Ai h)
 have h:=z _ (Ai h)
 exact A3 h
 refine An<|Z<|Ac<|O<|O<|O<|O<|O<|A7 (f:=Ej) rfl h fun n206 v206 i206 ag h=>O<|O<|O<|O<|D9 (f:=Co) (l:=j) (ys:=[v206.Name]) rfl rfl rfl rfl h fun ao h=>O<|Aa<|Z<|Ac<|O<|O<|O<|O<|A7 (f:=Ej) rfl h fun n208 v208 i208 af h=>O ?_
 refine O<|O<|Ax (f:=Ba) (l:=v208.Args) (Bq _)<|O<|Aa<|Ay<|Bn h (fun x=>[(2,(Av false)),(95,(Af .i64 x))]) (fun x=>[]) (fun _=>True) (fun _=>rfl) ⟨rfl,rfl,Ae⟩ ⟨Ah,Ah,Ah,Ae⟩ Ae ?_
 rintro x u5 K5 aq X I hn5 _
 refine Z<|Ac<|O<|Aa<|Z<|Am X (fun b h=>?_) fun b h=>?_
 refine An<|Z<|Ay<|Z<|Ac<|O<|A7 (f:=Ba) (Bq _) h fun n215 A i215 ae h=>O<|O<|O<|Aa<|Z<|Z<|Ac<|O<|O<|O<|O<|O<|Aq h fun am N h=>As.mk _ (Abk (a0:=A) (a1:=u) (a2:=i.Vars) N) rfl<|Aa<|Am h (fun b h=>?_) fun b h=>?_
 exact Bh<|Bg rfl<|Ac<|O<|Aw.mk _ rfl<|O<|Aa<|hn5 _ _ _ _ (Ai h) ⟨rfl,rfl,Ae⟩ ⟨Ah,Ah,Ah,Ae⟩ Ae
 refine An<|Z<|B0<|O<|O<|O<|Mk (f:=Bf) rfl h fun v218 h=>O<|O<|O<|O<|Aq h fun ak M h=>As.mk _ (Ve (a0:=v218) (a1:=A) (a2:=i.Vars) M) rfl<|O<|Aa<|Bj.mk (by kernel_rfl)<|Am h (fun b h=>?_) fun b h=>?_
 refine Z<|Ac<|O<|Aa<|Ak ?_
 have h:=I _ (Ai h)
 have h:=D _ (Ai h)
 have h:=z _ (Ai h)
 exact A3 h
 exact An<|Ac<|O<|Aw.mk _ rfl<|O<|Aa<|hn5 _ _ _ _ (Ai h) ⟨rfl,rfl,Ae⟩ ⟨Ah,Ah,Ah,Ae⟩ Ae
 refine Bh<|Bg rfl ?_
 have h:=I _ (Ai h)
 exact Ac<|O<|O<|Aw.mk _ rfl<|O<|Aa<|hn3 _ _ _ _ (Ai h) ⟨rfl,rfl,rfl,Ae⟩ ⟨Ah,Ah,Ah,Ae⟩ Ae
 refine Bh<|Bg rfl ?_
 have h:=D _ (Ai h)
 exact Ac<|O<|O<|Aw.mk _ rfl<|O<|Aa<|hn1 _ _ _ _ (Ai h) ⟨rfl,rfl,rfl,rfl,Ae⟩ ⟨Ah,Ah,Ae⟩ Ae
 refine Bh<|Bg rfl ?_
 have h:=z _ (Ai h)
 refine Z<|Fd [.fz 3,.fz 4]<|Bz (f:=Co) (l:=c) rfl rfl<|Bz (f:=Co) (l:=c) rfl rfl<|Bz (f:=Co) (l:=g) rfl rfl<|Bz (f:=Co) (l:=g) rfl rfl<|Dx.mk<|Ac<|O<|O<|Aq h fun v228 L h=>As.mk _ (Ag9 (a0:=c) L) rfl<|O<|O<|A6 (s:=116) h (fun b h=>?_) fun b h=>?_
 exact Ag<|Ag<|Aq h fun v229 J h=>As.mk _ (Ag9 (a0:=g) J) rfl<|Ag<|O<|O<|Aa<|Ak<|A3 h
 exact Ad<|Ad<|Ad<|O<|O<|Aa<|Ak<|A3 h
theorem Arb {a0:Cp} {r:Bool} (h:R5 a0=some r):Bb Tryz.prog 53 [Fe a0] (Av r):=by
 unfold R5 at h
 refine Bv Tryz.func53 rfl (by kernel_rfl) (by kernel_rfl) rfl ?_
 refine Z<|Ac<|O<|O<|Aa<|Z<|Z<|Cd h fun g j k=>Ce (fun (v4:Bool)=>v4=g) (fun v4=>[(22,(Av v4))]) (fun v4=>[]) (fun _=>rfl) ?_ ?_
 intro J hK1
 refine Ac<|O<|O<|O<|Aq j fun v2 A h=>As.mk _ (Abm (a0:=a0.Data) A) rfl<|O<|O<|A6 (s:=9) h (fun b h=>?_) fun b h=>?_
 exact Ad<|Ad<|Ad<|Ad<|O<|O<|Ad<|Ad<|Ad<|Ad<|Ad<|Ad<|O<|Aa<|hK1 true _ _ _ (Ai h) ⟨rfl,Ae⟩ ⟨Ah,Ae⟩
 refine Ag<|Ag<|Ag<|Ax (f:=Ba) (l:=a0.Vars) (Bq _)<|Ag<|O<|O<|A6 (s:=15) h (fun b h=>?_) fun b h=>?_
 exact Ad<|Ad<|Ad<|Ad<|Ad<|Ad<|O<|Aa<|hK1 true _ _ _ (Ai h) ⟨rfl,Ae⟩ ⟨Ah,Ae⟩
 exact Ag<|Ag<|Ag<|Ag<|Ag<|Aq h fun v3 z h=>As.mk _ (Ve (a0:=a0.Data) (a1:=a0.Res) (a2:=0) z) rfl<|Ag<|O<|Aa<|hK1 (!v3) _ _ _ (Ai h) ⟨rfl,Ae⟩ ⟨Ah,Ae⟩
 rintro v4 E q
 have h:=k _ q
 refine Am h (fun b h=>?_) fun b h=>?_
 exact Z<|Ac<|O<|Aa<|Ak<|A3 h
 refine An<|Z<|Z<|Ac<|O<|O<|O<|Ax (f:=Ba) (l:=a0.Vars) (Bq _)<|O<|Aa<|Ay<|Bn h (fun v8=>[(2,(Av false)),(26,(Af .i64 v8))]) (fun v8=>[]) (fun _=>True) (fun _=>rfl) ⟨rfl,rfl,Ae⟩ ⟨Ah,Ae⟩ Ae ?_
 rintro v8 D I y i c hn2 _
 refine Z<|Ac<|O<|Aa<|Z<|Am i (fun b h=>?_) fun b h=>?_
 refine An<|Z<|Ay<|Z<|Ac<|O<|A7 (f:=Ba) (Bq _) h fun G v9 i9 B h=>O<|O<|O<|Aa<|Z<|Ac<|O<|O<|O<|O<|Aq h fun x u h=>As.mk _ (Ve (a0:=a0.Data) (a1:=v9) (a2:=0) u) rfl<|O<|Aa<|Am h (fun b h=>?_) fun b h=>?_
 refine Z<|Ac<|O<|Aa<|Ak ?_
 have h:=c _ (Ai h)
 exact A3 h
 exact An<|Ac<|O<|Aw.mk _ rfl<|O<|Aa<|hn2 _ _ _ _ (Ai h) ⟨rfl,rfl,Ae⟩ ⟨Ah,Ae⟩ Ae
 refine Bh<|Bg rfl ?_
 have h:=c _ (Ai h)
 exact Z<|Ac<|O<|Aa<|Ak<|A3 h
end Go.Ab
namespace Go.Ab
open Go Go.Proofs
set_option maxRecDepth 10000
theorem Arc {a0:A1} {a1:A1} {r:Bool} (h:Sf a0 a1=some r):Bb Tryz.prog 109 [Bx a0,Bx a1] (Av r):=by
 unfold Sf at h
 refine Bv Tryz.func109 rfl (by kernel_rfl) (by kernel_rfl) rfl ?_
 refine Z<|Ac<|O<|O<|O<|Aa<|Z<|Z<|Cd h fun j u x=>Ce (fun (v3:Bool)=>v3=j) (fun v3=>[(29,(Av v3))]) (fun v3=>[]) (fun _=>rfl) ?_ ?_
 intro Y hK1
 refine Ac<|O<|O<|O<|O<|O<|O<|A6 (s:=12) u (fun b h=>?_) fun b h=>?_
 exact Ad<|Ad<|Ad<|Ad<|Ad<|Ad<|Ad<|O<|O<|Ad<|Ad<|Ad<|Ad<|Ad<|Ad<|Ad<|O<|Aa<|hK1 true _ _ _ (Ai h) ⟨rfl,Ae⟩ ⟨Ah,Ah,Ae⟩
 refine Ag<|Ag<|Ag<|Ax (f:=(Af .u32)) (l:=a0.Num) rfl<|Ag<|Ag<|Ag<|Ax (f:=(Af .u32)) (l:=a1.Num) rfl<|Ag<|O<|O<|A6 (s:=21) h (fun b h=>?_) fun b h=>?_
 exact Ad<|Ad<|Ad<|Ad<|Ad<|Ad<|Ad<|O<|Aa<|hK1 true _ _ _ (Ai h) ⟨rfl,Ae⟩ ⟨Ah,Ah,Ae⟩
 exact Ag<|Ag<|Ag<|Ax (f:=(Af .u32)) (l:=a0.Den) rfl<|Ag<|Ag<|Ag<|Ax (f:=(Af .u32)) (l:=a1.Den) rfl<|Ag<|O<|Aa<|hK1 ((a0.Den.length:Int) != (a1.Den.length:Int)) _ _ _ (Ai h) ⟨rfl,Ae⟩ ⟨Ah,Ah,Ae⟩
 rintro v3 R y
 have h:=x _ y
 refine Am h (fun b h=>?_) fun b h=>?_
 exact Z<|Ac<|O<|Aa<|Ak<|A3 h
 refine An<|Z<|Z<|Ac<|O<|Aa<|Ay<|Bn h (fun i=>[(4,(Av false)),(5,(Af .i64 i))]) (fun i=>[]) (fun _=>True) (fun _=>rfl) ⟨rfl,rfl,Ae⟩ ⟨Ah,Ah,Ae⟩ Ae ?_
 rintro i N X E q g hn2 _
 refine Z<|Z<|Ac<|O<|O<|O<|O<|Ax (f:=(Af .u32)) (l:=a0.Num) rfl<|O<|Aa<|Am q (fun b h=>?_) fun b h=>?_
 refine An<|Z<|Ay<|Z<|B0<|O<|O<|O<|O<|A7 (f:=(Af .u32)) rfl h fun U v7 i7 L h=>O<|O<|O<|O<|O<|A7 (f:=(Af .u32)) rfl h fun S v8 i8 J h=>O<|O<|Aa<|Bj.mk (by kernel_rfl)<|Am h (fun b h=>?_) fun b h=>?_
 refine Z<|Ac<|O<|Aa<|Ak ?_
 have h:=g _ (Ai h)
 exact A3 h
 exact An<|Ac<|O<|O<|Aw.mk _ rfl<|O<|Aa<|hn2 _ _ _ _ (Ai h) ⟨rfl,rfl,Ae⟩ ⟨Ah,Ah,Ae⟩ Ae
 refine Bh<|Bg rfl ?_
 have h:=g _ (Ai h)
 refine Z<|Z<|Ac<|O<|Aa<|Ay<|Bn h (fun v12=>[(4,(Av false)),(6,(Af .i64 v12))]) (fun v12=>[]) (fun _=>True) (fun _=>rfl) ⟨rfl,rfl,Ae⟩ ⟨Ah,Ah,Ae⟩ Ae ?_
 rintro v12 M V D k c hn3 _
 refine Z<|Z<|Ac<|O<|O<|O<|O<|Ax (f:=(Af .u32)) (l:=a0.Den) rfl<|O<|Aa<|Am k (fun b h=>?_) fun b h=>?_
 refine An<|Z<|Ay<|Z<|B0<|O<|O<|O<|O<|A7 (f:=(Af .u32)) rfl h fun I v13 i13 A h=>O<|O<|O<|O<|O<|A7 (f:=(Af .u32)) rfl h fun G B i14 z h=>O<|O<|Aa<|Bj.mk (by kernel_rfl)<|Am h (fun b h=>?_) fun b h=>?_
 refine Z<|Ac<|O<|Aa<|Ak ?_
 have h:=c _ (Ai h)
 exact A3 h
 exact An<|Ac<|O<|O<|Aw.mk _ rfl<|O<|Aa<|hn3 _ _ _ _ (Ai h) ⟨rfl,rfl,Ae⟩ ⟨Ah,Ah,Ae⟩ Ae
 refine Bh<|Bg rfl ?_
 have h:=c _ (Ai h)
 exact Z<|Ac<|O<|Aa<|Ak<|A3 h
theorem Ahe {a0:Bool} {r:Int} (h:P7 a0=some r):Bb Tryz.prog 199 [Av a0] ((Af .i64) r):=by
 unfold P7 at h
 refine Bv Tryz.func199 rfl (by kernel_rfl) (by kernel_rfl) rfl ?_
 refine Z<|Ac<|O<|Aa<|Z<|Z<|Ac<|O<|Aa<|Am h (fun b h=>?_) fun b h=>?_
 exact Z<|Ac<|O<|Aa<|Ak<|Bu h
 exact An<|Z<|Ac<|O<|Aa<|Ak<|Bu h
theorem Ahf:∀k:Nat,(∀(a0:Be) (a1:Be) (r:Int),Kc k a0 a1=some r->Bb Tryz.prog 124 [Bw (Be.mk a0.Num a0.Kids),Bw (Be.mk a1.Num a1.Kids)] ((Af .i64) r))/\(∀(a0:(List Be)) (a1:(List Be)) (r:Int),P8 k a0 a1=some r->Bb Tryz.prog 200 [(Ck 2 Fs) a0,(Ck 2 Fs) a1] ((Af .i64) r))
 | 0=>⟨(fun _ _ _ h=>by simp only [Kc] at h; cases h),(fun _ _ _ h=>by simp only [P8] at h; cases h)⟩
 | k+1=>by
  have ih:=Ahf k
  have g:∀{a0:Be} {a1:Be} {r:Int},Kc k a0 a1=some r->Bb Tryz.prog 124 [Bw (Be.mk a0.Num a0.Kids),Bw (Be.mk a1.Num a1.Kids)] ((Af .i64) r):=fun h=>ih.1 _ _ _ h
  have c:∀{a0:(List Be)} {a1:(List Be)} {r:Int},P8 k a0 a1=some r->Bb Tryz.prog 200 [(Ck 2 Fs) a0,(Ck 2 Fs) a1] ((Af .i64) r):=fun h=>ih.2 _ _ _ h
  refine ⟨?_,?_⟩
  .intro a0 a1 r h
   unfold Kc at h
   refine Bv Tryz.func124 rfl (by kernel_rfl) (by kernel_rfl) rfl ?_
   refine Z<|Ac<|O<|O<|O<|Aa<|Z<|Z<|Ac<|O<|O<|O<|O<|O<|Aa<|Am h (fun b h=>?_) fun b h=>?_
   exact Z<|Ac<|O<|O<|O<|O<|O<|O<|Aq h fun v3 y h=>As.mk _ (Ahe (a0:=(decide<|a0.Num<a1.Num)) y) rfl<|O<|Aa<|Ak<|Bu h
   exact An<|Z<|Ac<|O<|O<|O<|O<|O<|Aq h fun v4 x h=>As.mk _ (c (a0:=a0.Kids) (a1:=a1.Kids) x) rfl<|O<|Aa<|Ak<|Bu h
  .intro a0 a1 r h
   unfold P8 at h
   refine Bv Tryz.func200 rfl (by kernel_rfl) (by kernel_rfl) rfl ?_
   refine Z<|Ac<|O<|Aa<|Z<|Z<|Ac<|O<|O<|Ax (f:=Bw) (l:=a0) (Cu _)<|O<|O<|Ax (f:=Bw) (l:=a1) (Cu _)<|O<|Aa<|Am h (fun b h=>?_) fun b h=>?_
   exact Z<|Ac<|O<|O<|Ax (f:=Bw) (l:=a0) (Cu _)<|O<|O<|Ax (f:=Bw) (l:=a1) (Cu _)<|O<|O<|Aq h fun D z h=>As.mk _ (Ahe (a0:=(decide ((a0.length:Int)<(a1.length:Int)))) z) rfl<|O<|Aa<|Ak<|Bu h
   refine An<|Z<|Z<|Ac<|O<|O<|Ax (f:=Bw) (l:=a0) (Cu _)<|O<|Aa<|Ay<|Bn h (fun v5=>[(4,(Af .i64 0)),(20,(Af .i64 v5))]) (fun v5=>[]) (fun _=>True) (fun _=>rfl) ⟨rfl,rfl,Ae⟩ Ae Ae ?_
   rintro v5 E J s j i hn1 _
   refine Z<|Ac<|O<|Aa<|Z<|Am j (fun b h=>?_) fun b h=>?_
   refine An<|Z<|Ay<|Z<|Ac<|O<|O<|Aa<|Z<|B0<|O<|O<|O<|A7 (f:=Bw) (Cu _) h fun I q i6 B h=>O<|O<|O<|O<|A7 (f:=Bw) (Cu _) h fun G v7 i7 A h=>O<|O<|Aq h fun v8 u h=>As.mk _ (g (a0:=q) (a1:=v7) u) rfl<|O ?_
   refine Aa<|Bj.mk (by kernel_rfl)<|Z<|Ac<|O<|O<|Aa<|Am h (fun b h=>?_) fun b h=>?_
   refine Z<|Ac<|O<|O<|Aa<|Ak ?_
   have h:=i _ (Ai h)
   exact Bu h
   exact An<|Ac<|O<|Aw.mk _ rfl<|O<|Aa<|hn1 _ _ _ _ (Ai h) ⟨rfl,rfl,Ae⟩ Ae Ae
   refine Bh<|Bg rfl ?_
   have h:=i _ (Ai h)
   exact Z<|Ac<|O<|Aa<|Ak<|Bu h
theorem Ard {k:Nat} {a0:Be} {a1:Be} {r:Int} (h:Kc k a0 a1=some r):Bb Tryz.prog 124 [Bw (Be.mk a0.Num a0.Kids),Bw (Be.mk a1.Num a1.Kids)] ((Af .i64) r):=(Ahf k).1 _ _ _ h
theorem Xx {a0:Bool} {r:Int} (h:N1 a0=some r):Bb Tryz.prog 201 [Av a0] ((Af .i64) r):=by
 unfold N1 at h
 refine Bv Tryz.func201 rfl (by kernel_rfl) (by kernel_rfl) rfl ?_
 refine Z<|Ac<|O<|Aa<|Z<|Z<|Ac<|O<|Aa<|Am h (fun b h=>?_) fun b h=>?_
 exact Z<|Ac<|O<|Aa<|Ak<|Bu h
 exact An<|Z<|Ac<|O<|Aa<|Ak<|Bu h
theorem Ahg {a0:Ey} {a1:Ey} {r:Int} (h:Lq a0 a1=some r):Bb Tryz.prog 125 [Km a0,Km a1] ((Af .i64) r):=by
 unfold Lq at h
 refine Bv Tryz.func125 rfl (by kernel_rfl) (by kernel_rfl) rfl ?_
 refine Z<|Ac<|O<|O<|O<|Aa<|Z<|Z<|Ac<|O<|O<|O<|Ax (f:=Dq) (l:=a0.Terms) rfl<|O<|O<|O<|Ax (f:=Dq) (l:=a1.Terms) rfl<|O<|Aa<|Am h (fun b h=>?_) fun b h=>?_
 exact Z<|Ac<|O<|O<|O<|Ax (f:=Dq) (l:=a0.Terms) rfl<|O<|O<|O<|Ax (f:=Dq) (l:=a1.Terms) rfl<|O<|O<|Aq h fun v3 V h=>As.mk _ (Xx (a0:=(decide ((a0.Terms.length:Int)<(a1.Terms.length:Int)))) V) rfl<|O<|Aa<|Ak<|Bu h
 refine An<|Z<|Z<|Ac<|O<|O<|O<|Ax (f:=Dq) (l:=a0.Terms) rfl<|O<|Aa<|Ay<|Bn h (fun c=>[(4,(Af .i64 0)),(24,(Af .i64 c))]) (fun c=>[]) (fun _=>True) (fun _=>rfl) ⟨rfl,rfl,Ae⟩ ⟨Ah,Ah,Ae⟩ Ae ?_
 rintro c X Y G i g hn1 _
 refine Z<|Ac<|O<|Aa<|Z<|Am i (fun b h=>?_) fun b h=>?_
 refine An<|Z<|Ay<|Z<|Ac<|O<|O<|Aa<|Z<|Z<|B0<|O<|O<|O<|O<|A7 (f:=Dq) rfl h fun U v15 i15 D h=>O<|O<|O<|O<|O<|O<|A7 (f:=Dq) rfl h fun S v16 i16 B h=>O ?_
 refine O<|O<|Aa<|Bj.mk (by kernel_rfl)<|Am h (fun b h=>?_) fun b h=>?_
 refine Z<|B0<|O<|O<|O<|O<|A7 (f:=Dq) rfl h fun R v17 i17 A h=>O<|O<|O<|O<|O<|O<|A7 (f:=Dq) rfl h fun N v18 i18 z h=>O<|O<|O<|O<|Aq h fun E q h=>As.mk _ (Xx (a0:=(decide<|v17.Var<v18.Var)) q) rfl<|O<|Aa<|Bj.mk (by kernel_rfl)<|Ak ?_
 have h:=g _ (Ai h)
 exact Bu h
 refine An<|Z<|B0<|O<|O<|O<|O<|A7 (f:=Dq) rfl h fun M v20 i20 y h=>O<|O<|O<|O<|O<|O<|A7 (f:=Dq) rfl h fun L v21 i21 x h=>O<|O<|O<|Aa<|Bj.mk (by kernel_rfl)<|Am h (fun b h=>?_) fun b h=>?_
 refine Z<|B0<|O<|O<|O<|O<|A7 (f:=Dq) rfl h fun J v22 i22 u h=>O<|O<|O<|O<|O<|O<|A7 (f:=Dq) rfl h fun I v23 i23 s h=>O<|O<|O<|O<|Aq h fun v24 k h=>As.mk _ (Xx (a0:=(decide<|v22.Coef<v23.Coef)) k) rfl<|O<|Aa<|Bj.mk (by kernel_rfl)<|Ak ?_
 have h:=g _ (Ai h)
 exact Bu h
 exact An<|Ac<|O<|Aw.mk _ rfl<|O<|Aa<|hn1 _ _ _ _ (Ai h) ⟨rfl,rfl,Ae⟩ ⟨Ah,Ah,Ae⟩ Ae
 refine Bh<|Bg rfl ?_
 have h:=g _ (Ai h)
 refine Z<|Z<|Ac<|O<|O<|O<|O<|O<|Aa<|Am h (fun b h=>?_) fun b h=>?_
 exact Z<|Ac<|O<|O<|O<|O<|O<|O<|Aq h fun v26 j h=>As.mk _ (Xx (a0:=(decide<|a0.Const<a1.Const)) j) rfl<|O<|Aa<|Ak<|Bu h
 exact An<|Z<|Ac<|O<|Aa<|Ak<|Bu h
theorem Xy {a0:Bool} {r:Int} (h:Nt a0=some r):Bb Tryz.prog 123 [Av a0] ((Af .i64) r):=by
 unfold Nt at h
 refine Bv Tryz.func123 rfl (by kernel_rfl) (by kernel_rfl) rfl ?_
 refine Z<|Ac<|O<|Aa<|Z<|Z<|Ac<|O<|Aa<|Am h (fun b h=>?_) fun b h=>?_
 exact Z<|Ac<|O<|Aa<|Ak<|Bu h
 exact An<|Z<|Ac<|O<|Aa<|Ak<|Bu h
theorem Are {a0:C8} {a1:C8} {r:Int} (h:Pt a0 a1=some r):Bb Tryz.prog 65 [Hd a0,Hd a1] ((Af .i64) r):=by
 unfold Pt at h
 refine Bv Tryz.func65 rfl (by kernel_rfl) (by kernel_rfl) rfl ?_
 refine Z<|Ac<|O<|O<|O<|Aa<|Z<|Z<|Ac<|O<|O<|O<|Ax (f:=C4) (l:=a0.Factors) rfl<|O<|O<|O<|Ax (f:=C4) (l:=a1.Factors) rfl<|O<|Aa<|Am h (fun b h=>?_) fun b h=>?_
 exact Z<|Ac<|O<|O<|O<|Ax (f:=C4) (l:=a0.Factors) rfl<|O<|O<|O<|Ax (f:=C4) (l:=a1.Factors) rfl<|O<|O<|Aq h fun v3 c3 h=>As.mk _ (Xy (a0:=(decide ((a0.Factors.length:Int)<(a1.Factors.length:Int)))) c3) rfl<|O<|Aa<|Ak<|Bu h
 refine An<|Z<|Z<|Ac<|O<|O<|O<|Ax (f:=C4) (l:=a0.Factors) rfl<|O<|Aa<|Ay<|Bn h (fun v12=>[(4,(Af .i64 0)),(27,(Af .i64 v12))]) (fun v12=>[]) (fun _=>True) (fun _=>rfl) ⟨rfl,rfl,Ae⟩ ⟨Ah,Ah,Ae⟩ Ae ?_
 rintro v12 u1 K1 a8 s g hn1 _
 refine Z<|Ac<|O<|Aa<|Z<|Am s (fun b h=>?_) fun b h=>?_
 refine An<|Z<|Ay<|Z<|Ac<|O<|O<|Aa<|Z<|Z<|B0<|O<|O<|O<|O<|A7 (f:=C4) rfl h fun am v13 i13 U h=>O<|O<|O<|O<|O<|O<|A7 (f:=C4) rfl h fun ak a6 i14 S h=>O ?_
 refine O<|O<|Aa<|Bj.mk (by kernel_rfl)<|Am h (fun b h=>?_) fun b h=>?_
 refine Z<|B0<|O<|O<|O<|O<|A7 (f:=C4) rfl h fun aj v15 i15 R h=>O<|O<|O<|O<|O<|O<|A7 (f:=C4) rfl h fun ai v16 i16 N h=>O<|O<|O<|O<|Aq h fun v17 A h=>As.mk _ (Xy (a0:=(decide<|v15.Var<v16.Var)) A) rfl<|O<|Aa<|Bj.mk (by kernel_rfl)<|Ak ?_
 have h:=g _ (Ai h)
 exact Bu h
 refine An<|Z<|B0<|O<|O<|O<|O<|A7 (f:=C4) rfl h fun ah v18 i18 M h=>O<|O<|O<|O<|O<|O<|A7 (f:=C4) rfl h fun ag k i19 L h=>O<|O<|O<|Aq h fun v20 z h=>As.mk _ (Ard (a0:=v18.Index) (a1:=k.Index) z) rfl<|O<|Aa<|Bj.mk (by kernel_rfl)<|Z ?_
 refine Ac<|O<|O<|Aa<|Am h (fun b h=>?_) fun b h=>?_
 refine Z<|Ac<|O<|O<|Aa<|Ak ?_
 have h:=g _ (Ai h)
 exact Bu h
 exact An<|Ac<|O<|Aw.mk _ rfl<|O<|Aa<|hn1 _ _ _ _ (Ai h) ⟨rfl,rfl,Ae⟩ ⟨Ah,Ah,Ae⟩ Ae
 refine Bh<|Bg rfl ?_
 have h:=g _ (Ai h)
 refine Z<|Z<|Ac<|O<|O<|O<|Ax (f:=Dk) (l:=a0.Atoms) rfl<|O<|O<|O<|Ax (f:=Dk) (l:=a1.Atoms) rfl<|O<|Aa<|Am h (fun b h=>?_) fun b h=>?_
 exact Z<|Ac<|O<|O<|O<|Ax (f:=Dk) (l:=a0.Atoms) rfl<|O<|O<|O<|Ax (f:=Dk) (l:=a1.Atoms) rfl<|O<|O<|Aq h fun v22 y h=>As.mk _ (Xy (a0:=(decide ((a0.Atoms.length:Int)<(a1.Atoms.length:Int)))) y) rfl<|O<|Aa<|Ak<|Bu h
 refine An<|Z<|Z<|Ac<|O<|O<|O<|Ax (f:=Dk) (l:=a0.Atoms) rfl<|O<|Aa<|Ay<|Bn h (fun v31=>[(4,(Af .i64 0)),(92,(Af .i64 v31))]) (fun v31=>[]) (fun _=>True) (fun _=>rfl) ⟨rfl,rfl,Ae⟩ ⟨Ah,Ah,Ae⟩ Ae ?_
 rintro v31 u2 K2 a7 q c hn2 _
 refine Z<|Ac<|O<|Aa<|Z<|Am q (fun b h=>?_) fun b h=>?_
 refine An<|Z<|Ay<|Z<|Ac<|O<|O<|Aa<|Z<|Z<|B0<|O<|O<|O<|O<|A7 (f:=Dk) rfl h fun af j i32 J h=>O<|O<|O<|O<|O<|O<|A7 (f:=Dk) rfl h fun ae i i33 I h=>O ?_
 refine O<|O<|Aq h fun Y x h=>As.mk _ (Ahg (a0:=j.Lin) (a1:=i.Lin) x) rfl<|O<|Aa<|Bj.mk (by kernel_rfl)<|Z<|Ac<|O<|O<|Aa<|Am h (fun b h=>?_) fun b h=>?_
 refine Z<|Ac<|O<|O<|Aa<|Ak ?_
 have h:=c _ (Ai h)
 exact Bu h
 refine An<|Z<|B0<|O<|O<|O<|O<|A7 (f:=Dk) rfl h fun ad v35 i35 G h=>O<|O<|O<|O<|O<|O<|A7 (f:=Dk) rfl h fun ac X i36 E h=>O<|O<|O<|Aa<|Bj.mk (by kernel_rfl)<|Am h (fun b h=>?_) fun b h=>?_
 refine Z<|B0<|O<|O<|O<|O<|A7 (f:=Dk) rfl h fun ab v37 i37 D h=>O<|O<|O<|O<|O<|O<|A7 (f:=Dk) rfl h fun aa v38 i38 B h=>O<|O<|O<|O<|Aq h fun V u h=>As.mk _ (Xy (a0:=(decide<|v37.Deg<v38.Deg)) u) rfl<|O<|Aa<|Bj.mk (by kernel_rfl)<|Ak ?_
 have h:=c _ (Ai h)
 exact Bu h
 exact An<|Ac<|O<|Aw.mk _ rfl<|O<|Aa<|hn2 _ _ _ _ (Ai h) ⟨rfl,rfl,Ae⟩ ⟨Ah,Ah,Ae⟩ Ae
 refine Bh<|Bg rfl ?_
 have h:=c _ (Ai h)
 exact Z<|Ac<|O<|Aa<|Ak<|Bu h
theorem Arf {a0:(List A5)} {a1:Int} {a2:Int} {r:(List Bool)} (h:Xq a0 a1 a2=some r):Bb Tryz.prog 229 [(A2 3 Bf) a0,(Af .i64) a1,(Af .i64) a2] ((A2 1 Av) r):=by
 unfold Xq at h
 refine C2 (C:={T:=B4,an:=(fun s=>bif Nat.beq s 7 then .own else .ask),nl:=(fun s=>bif Nat.beq s 7 then [(0,1)] else bif Nat.beq s 6 then [(0,1)] else [])}) B8 B5 Tryz.func229 rfl (by kernel_rfl) (by kernel_rfl) rfl ?_
 refine Z<|Ac<|O<|Aa<|Z<|Z<|Cd h fun g k q=>Ce (fun (v2:Bool)=>v2=g) (fun v2=>[(31,(Av v2))]) (fun v2=>[]) (fun _=>rfl) ?_ ?_
 intro Y hK1
 refine Ac<|O<|O<|O<|A6 (s:=12) k (fun b h=>?_) fun b h=>?_
 exact Ad<|Ad<|Ad<|Ad<|O<|O<|Ad<|Ad<|O<|O<|Ad<|Ad<|Ad<|Ad<|Ad<|Ad<|Ad<|Ad<|O<|Aa<|hK1 true _ _ _ (Ai h) ⟨rfl,Ae⟩ Ae
 refine Ag<|Ag<|Ag<|Ax (f:=Bf) (l:=a0) rfl<|Ag<|O<|O<|A6 (s:=18) h (fun b h=>?_) fun b h=>?_
 exact Ad<|Ad<|O<|O<|Ad<|Ad<|Ad<|Ad<|Ad<|Ad<|Ad<|Ad<|O<|Aa<|hK1 true _ _ _ (Ai h) ⟨rfl,Ae⟩ Ae
 refine Ag<|Ag<|O<|O<|A6 (s:=22) h (fun b h=>?_) fun b h=>?_
 exact Ad<|Ad<|Ad<|Ad<|Ad<|Ad<|Ad<|Ad<|O<|Aa<|hK1 true _ _ _ (Ai h) ⟨rfl,Ae⟩ Ae
 exact Ag<|Ag<|Ag<|Ag<|A7 (f:=Bf) rfl h fun V z i1 M h=>Ag<|Ag<|Ag<|Ax (f:=Ej) (l:=z.Cons) rfl<|Ag<|O<|Aa<|hK1 (decide<|a2>=(z.Cons.length:Int)) _ _ _ (Ai h) ⟨rfl,Ae⟩ Ae
 rintro v2 R u
 have h:=q _ u
 refine Am h (fun b h=>?_) fun b h=>?_
 exact Z<|Ac<|O<|Aa<|Ak<|congrArg (fun x:(List Bool)=>((A2 1 Av) x:AV))<|Ai h
 refine An<|Z<|Ac<|O<|Aa<|Z<|Z<|Ac<|O<|O<|O<|A7 (f:=Bf) rfl h fun U v4 i4 L h=>O<|O<|O<|O<|A7 (f:=Ej) rfl h fun S v5 i5 J h=>O<|O<|O<|Ax (f:=Ba) (l:=v5.Args) (Bq _)<|O<|Aa<|Ay ?_
 refine Bn h (fun (v18,c)=>[(7,(.arr 0 c.length 0 c.length)),(42,(Af .i64 v18))]) (fun (v18,c)=>[(0,.rows 4 1 (List.map Av c))]) (fun _=>True) (fun _=>rfl) ⟨rfl,rfl,Ae⟩ ⟨Ah,Ae⟩ Ae ?_
 rintro ⟨v18,c⟩ N X D j i hn2 _
 refine Z<|Ac<|O<|Aa<|Z<|Am j (fun b h=>?_) fun b h=>?_
 refine An<|Z<|Ay<|Z<|Ac<|O<|A7 (f:=Ba) (Bq _) h fun I v20 i20 B h=>O<|O<|O<|Aa<|B0<|O<|O<|O<|O<|O<|O<|A7 (f:=Bf) rfl h fun G v22 i22 A h=>O<|O<|O<|Aq h fun v23 y h=>As.mk _ (Abk (a0:=v20) (a1:=a1) (a2:=v22.Vars) y) rfl ?_
 exact O<|O<|D9 (f:=Av) (l:=c) (ys:=[v23]) rfl rfl rfl rfl h fun E h=>O<|Aa<|Bj.mk (by kernel_rfl)<|Ac<|O<|Aw.mk _ rfl<|O<|Aa<|hn2 _ _ _ _ (Ai h) ⟨rfl,rfl,Ae⟩ ⟨Ah,Ae⟩ Ae
 refine Bh<|Bg rfl ?_
 have h:=i _ (Ai h)
 exact Z<|Ac<|O<|O<|Aa<|Ak<|Bz (f:=Av) (l:=c) rfl rfl<|Bz (f:=Av) (l:=c) rfl rfl<|congrArg (fun x:(List Bool)=>((A2 1 Av) x:AV))<|Ai h
theorem Ahh:∀k:Nat,(∀(a0:Ao) (r:Ao),Lz k a0=some r->Bb Tryz.prog 288 [Ba a0] (Ba r))
 | 0=>(fun _ _ h=>by simp only [Lz] at h; cases h)
 | k+1=>by
  have ih:=Ahh k
  have c:∀{a0:Ao} {r:Ao},Lz k a0=some r->Bb Tryz.prog 288 [Ba a0] (Ba r):=fun h=>ih _ _ h
  intro a0 r h
  unfold Lz at h
  refine C2 (C:={T:=B4,an:=(fun _=>.ask),nl:=(fun s=>bif Nat.beq s 18 then [(0,3)] else [])}) B8 B5 Tryz.func288 rfl (by kernel_rfl) (by kernel_rfl) rfl ?_
  refine Z<|Ac<|O<|O<|Aa<|Z<|Ac<|O<|O<|O<|O<|O<|O<|O<|Aa<|Z<|Z<|Fd [.own 3 2 25 3]<|Dx.mk<|Ac<|O<|Aa<|Ay<|Bn h (fun (v13,i)=>[(4,(Af .i64 v13))]) (fun (v13,i)=>[(2,.cells 25 [(Af .i64 a0.Kind),(Af .i64 a0.Num),(.arr 3 i.length 0 i.length)]),(3,.rows 25 3 (Bi i))]) (fun _=>True) (fun _=>rfl) ⟨rfl,Ae⟩ ⟨Ah,Ah,Ah,Ah,Ae⟩ Ae ?_
  rintro ⟨v13,i⟩ D E z q j hn1 _
  refine Z<|Z<|Ac<|O<|O<|O<|O<|Ax (f:=Ba) (l:=a0.Args) (Bq _)<|O<|Aa<|Am q (fun b h=>?_) fun b h=>?_
  refine An<|Z<|Ay<|B0<|O<|O<|O<|O<|O<|O<|A7 (f:=Ba) (Bq _) h fun B v15 i15 y h=>O<|O<|Aq h fun v16 u h=>As.mk _ (c (a0:=v15) u) rfl<|O<|O<|H4 (g:=Bi) Bq (f:=Ba) (l:=i) (ys:=[v16]) (Bq _) rfl rfl rfl h fun A h=>O<|O<|Aa<|Bj.mk (by kernel_rfl)<|Ac<|O ?_
  exact O<|Aw.mk _ rfl<|O<|Aa<|hn1 _ _ _ _ (Ai h) ⟨rfl,Ae⟩ ⟨Ah,Ah,Ah,Ah,Ae⟩ Ae
  refine Bh<|Bg rfl ?_
  have h:=j _ (Ai h)
  exact Z<|Ac<|O<|O<|Aa<|Ak<|Bz (f:=Ba) (l:=i) (Bq _) rfl<|Bz (f:=Ba) (l:=i) (Bq _) rfl<|congrArg (fun x:Ao=>(Ba x:AV))<|Ai h
theorem Arg {k:Nat} {a0:Ao} {r:Ao} (h:Lz k a0=some r):Bb Tryz.prog 288 [Ba a0] (Ba r):=(Ahh k) _ _ h
theorem Ahi:∀k:Nat,(∀(a0:Ao) (a1:(List Ao)) (r:Ao),Js k a0 a1=some r->Bb Tryz.prog 228 [Ba a0,(Ck 3 Bi) a1] (Ba r))
 | 0=>(fun _ _ _ h=>by simp only [Js] at h; cases h)
 | k+1=>by
  have ih:=Ahi k
  have c:∀{a0:Ao} {a1:(List Ao)} {r:Ao},Js k a0 a1=some r->Bb Tryz.prog 228 [Ba a0,(Ck 3 Bi) a1] (Ba r):=fun h=>ih _ _ _ h
  intro a0 a1 r h
  unfold Js at h
  refine C2 (C:={T:=B4,an:=(fun _=>.ask),nl:=(fun s=>bif Nat.beq s 41 then [(0,3)] else [])}) B8 B5 Tryz.func228 rfl (by kernel_rfl) (by kernel_rfl) rfl ?_
  refine Z<|Ac<|O<|O<|Aa<|Z<|Z<|Cd h fun q z A=>Ce (fun (v3:Bool)=>v3=q) (fun v3=>[(21,(Av v3))]) (fun v3=>[]) (fun _=>rfl) ?_ ?_
  intro V hK1
  refine Ac<|O<|O<|O<|O<|A6 (s:=10) z (fun b h=>?_) fun b h=>?_
  refine Ag<|Ag<|Ag<|O<|O<|A6 (s:=15) h (fun b h=>?_) fun b h=>?_
  exact Ag<|Ag<|Ag<|Ag<|Ax (f:=Ba) (l:=a1) (Bq _)<|Ag<|O<|Aa<|hK1 (decide<|a0.Num<(a1.length:Int)) _ _ _ (Ai h) ⟨rfl,Ae⟩ ⟨Ah,Ah,Ae⟩
  exact Ad<|Ad<|Ad<|Ad<|Ad<|O<|Aa<|hK1 false _ _ _ (Ai h) ⟨rfl,Ae⟩ ⟨Ah,Ah,Ae⟩
  exact Ad<|Ad<|Ad<|O<|O<|Ad<|Ad<|Ad<|Ad<|Ad<|O<|Aa<|hK1 false _ _ _ (Ai h) ⟨rfl,Ae⟩ ⟨Ah,Ah,Ae⟩
  rintro v3 R B
  have h:=A _ B
  refine Am h (fun b h=>?_) fun b h=>?_
  exact Z<|Ac<|O<|O<|O<|O<|A7 (f:=Ba) (Bq _) h fun S v4 i4 M h=>O<|O<|Aq h fun v5 L h=>As.mk _ (Arg (a0:=v4) L) rfl<|O<|Aa<|Ak<|congrArg (fun x:Ao=>(Ba x:AV))<|Ai h
  refine An<|Z<|Ac<|O<|O<|O<|O<|O<|O<|O<|Aa<|Z<|Z<|Fd [.own 5 2 25 3]<|Dx.mk<|Ac<|O<|Aa<|Ay<|Bn h (fun (v16,i)=>[(6,(Af .i64 v16))]) (fun (v16,i)=>[(2,.cells 25 [(Af .i64 a0.Kind),(Af .i64 a0.Num),(.arr 3 i.length 0 i.length)]),(3,.rows 25 3 (Bi i))]) (fun _=>True) (fun _=>rfl) ⟨rfl,Ae⟩ ⟨Ah,Ah,Ah,Ah,Ae⟩ Ae ?_
  rintro ⟨v16,i⟩ N U G y u hn2 _
  refine Z<|Z<|Ac<|O<|O<|O<|O<|Ax (f:=Ba) (l:=a0.Args) (Bq _)<|O<|Aa<|Am y (fun b h=>?_) fun b h=>?_
  refine An<|Z<|Ay<|B0<|O<|O<|O<|O<|O<|O<|A7 (f:=Ba) (Bq _) h fun J v18 i18 E h=>O<|O<|O<|Aq h fun j D h=>As.mk _ (c (a0:=v18) (a1:=a1) D) rfl<|O<|O<|H4 (g:=Bi) Bq (f:=Ba) (l:=i) (ys:=[j]) (Bq _) rfl rfl rfl h fun I h=>O<|O<|Aa<|Bj.mk (by kernel_rfl)<|Ac ?_
  exact O<|O<|Aw.mk _ rfl<|O<|Aa<|hn2 _ _ _ _ (Ai h) ⟨rfl,Ae⟩ ⟨Ah,Ah,Ah,Ah,Ae⟩ Ae
  refine Bh<|Bg rfl ?_
  have h:=u _ (Ai h)
  exact Z<|Ac<|O<|O<|Aa<|Ak<|Bz (f:=Ba) (l:=i) (Bq _) rfl<|Bz (f:=Ba) (l:=i) (Bq _) rfl<|congrArg (fun x:Ao=>(Ba x:AV))<|Ai h
theorem Ahj {k:Nat} {a0:Ao} {a1:(List Ao)} {r:Ao} (h:Js k a0 a1=some r):Bb Tryz.prog 228 [Ba a0,(Ck 3 Bi) a1] (Ba r):=(Ahi k) _ _ _ h
end Go.Ab
namespace Go.Ab
open Go Go.Proofs
set_option maxRecDepth 10000
theorem Ahk {a0:(List A5)} {a1:Ao} {a2:Int} {r:((List Ao)×Bool)} (h:Qx a0 a1 a2=some r):Bb Tryz.prog 155 [(A2 3 Bf) a0,Ba a1,(Af .i64) a2] (.tup [(Ck 3 Bi) r.1,Av r.2]):=by
 unfold Qx at h
 refine C2 (C:={T:=B4,an:=(fun s=>bif Nat.beq s 8 then .own else .ask),nl:=(fun s=>bif Nat.beq s 8 then [(0,3)] else bif Nat.beq s 6 then [(0,3)] else [])}) B8 B5 Tryz.func155 rfl (by kernel_rfl) (by kernel_rfl) rfl ?_
 refine Z<|Ac<|O<|O<|O<|Aa<|Z<|Z<|Cd h fun j q u=>Ce (fun (v4:Bool)=>v4=j) (fun v4=>[(53,(Av v4))]) (fun v4=>[]) (fun _=>rfl) ?_ ?_
 intro K1 hK1
 refine B0<|O<|O<|O<|O<|A6 (s:=15) q (fun b h=>?_) fun b h=>?_
 refine Ad<|Ad<|Ad<|O<|O<|Ad<|Ad<|Ad<|Ad<|Ad<|O<|O<|Ad<|Ad<|Ad<|Ad<|Ad<|Ad<|Ad<|Ad<|Ad<|Ad<|O<|O ?_
 exact Ad<|Ad<|O<|O<|Ad<|Ad<|Ad<|Ad<|Ad<|Ad<|Ad<|Ad<|Ad<|O<|Aa<|Bj.mk (by kernel_rfl)<|hK1 true _ _ _ (Ai h) ⟨rfl,Ae⟩ ⟨Ah,Ae⟩
 refine Ag<|Ag<|Ag<|O<|O<|A6 (s:=20) h (fun b h=>?_) fun b h=>?_
 refine Ad<|Ad<|Ad<|Ad<|Ad<|O<|O<|Ad<|Ad<|Ad<|Ad<|Ad<|Ad<|Ad<|Ad<|Ad<|Ad<|O<|O<|Ad<|Ad<|O<|O<|Ad ?_
 exact Ad<|Ad<|Ad<|Ad<|Ad<|Ad<|Ad<|Ad<|O<|Aa<|Bj.mk (by kernel_rfl)<|hK1 true _ _ _ (Ai h) ⟨rfl,Ae⟩ ⟨Ah,Ae⟩
 refine Ag<|Ag<|Ag<|Ag<|Ax (f:=Bf) (l:=a0) rfl<|Ag<|O<|O<|A6 (s:=27) h (fun b h=>?_) fun b h=>?_
 refine Ad<|Ad<|Ad<|Ad<|Ad<|Ad<|Ad<|Ad<|Ad<|Ad<|O<|O<|Ad<|Ad<|O<|O<|Ad<|Ad<|Ad<|Ad<|Ad<|Ad<|Ad<|Ad ?_
 exact Ad<|O<|Aa<|Bj.mk (by kernel_rfl)<|hK1 true _ _ _ (Ai h) ⟨rfl,Ae⟩ ⟨Ah,Ae⟩
 refine Ag<|Ag<|Ag<|Ax (f:=Ba) (l:=a1.Args) (Bq _)<|Ag<|Ag<|Ag<|Ag<|A7 (f:=Bf) rfl h fun Y v2 i2 M h=>Ag<|Ag<|Ag<|O<|O<|A6 (s:=39) h (fun b h=>?_) fun b h=>?_
 exact Ad<|Ad<|O<|O<|Ad<|Ad<|Ad<|Ad<|Ad<|Ad<|Ad<|Ad<|Ad<|O<|Aa<|Bj.mk (by kernel_rfl)<|hK1 true _ _ _ (Ai h) ⟨rfl,Ae⟩ ⟨Ah,Ae⟩
 refine Ag<|Ag<|O<|O<|A6 (s:=43) h (fun b h=>?_) fun b h=>?_
 exact Ad<|Ad<|Ad<|Ad<|Ad<|Ad<|Ad<|Ad<|Ad<|O<|Aa<|Bj.mk (by kernel_rfl)<|hK1 true _ _ _ (Ai h) ⟨rfl,Ae⟩ ⟨Ah,Ae⟩
 exact Ag<|Ag<|Ag<|Ag<|Ag<|A7 (f:=Bf) rfl h fun X v3 i3 L h=>Ag<|Ag<|Ag<|Ax (f:=Ej) (l:=v3.Cons) rfl<|Ag<|O<|Aa<|Bj.mk (by kernel_rfl)<|hK1 (decide<|a2>=(v3.Cons.length:Int)) _ _ _ (Ai h) ⟨rfl,Ae⟩ ⟨Ah,Ae⟩
 rintro v4 S y
 have h:=u _ y
 refine Am h (fun b h=>?_) fun b h=>?_
 exact Z<|Ac<|O<|O<|Aa<|Ak<|congrArg (fun x:((List Ao)×Bool)=>(.tup [(Ck 3 Bi) x.1,Av x.2]:AV))<|Ai h
 refine An<|Z<|Ac<|O<|Aa<|Z<|Z<|Ac<|O<|O<|O<|O<|A7 (f:=Bf) rfl h fun V N i6 J h=>O<|O<|O<|O<|A7 (f:=Ej) rfl h fun U v7 i7 I h=>O<|O<|O<|Ax (f:=Ba) (l:=v7.Args) (Bq _)<|O<|Aa ?_
 refine Ay<|Bn h (fun (v22,c)=>[(6,(.sl 3<|Bi [])),(7,(Av false)),(8,(.arr 1 c.length 0 c.length)),(65,(Af .i64 v22))]) (fun (v22,c)=>[(1,.rows 25 3 (Bi c))]) (fun _=>True) (fun _=>rfl) ⟨rfl,rfl,rfl,rfl,Ae⟩ ⟨Ah,Ah,Ae⟩ Ae ?_
 rintro ⟨v22,c⟩ R K2 D k i hn2 _
 refine Z<|Ac<|O<|Aa<|Z<|Am k (fun b h=>?_) fun b h=>?_
 refine An<|Z<|Ay<|Z<|Ac<|O<|A7 (f:=Ba) (Bq _) h fun G v24 i24 B h=>O<|O<|O<|Aa<|Z<|Ac<|O<|O<|O<|O<|Aq h fun v26 A h=>As.mk _ (Ahj (a0:=v24) (a1:=a1.Args) A) rfl<|O<|O<|Aa<|Z<|Z ?_
 refine Ac<|O<|O<|Aq h fun v28 z h=>As.mk _ (Abj (a0:=v26) z) rfl<|O<|Aa<|Am h (fun b h=>?_) fun b h=>?_
 refine Z<|Ac<|O<|O<|Aa<|Ak ?_
 have h:=i _ (Ai h)
 exact congrArg (fun x:((List Ao)×Bool)=>(.tup [(Ck 3 Bi) x.1,Av x.2]:AV))<|Ai h
 exact An<|Ac<|O<|O<|O<|O<|H4 (g:=Bi) Bq (f:=Ba) (l:=c) (ys:=[v26]) (Bq _) rfl rfl rfl h fun E h=>O<|Aa<|Ac<|O<|Aw.mk _ rfl<|O<|Aa<|hn2 _ _ _ _ (Ai h) ⟨rfl,rfl,rfl,rfl,Ae⟩ ⟨Ah,Ah,Ae⟩ Ae
 refine Bh<|Bg rfl ?_
 have h:=i _ (Ai h)
 exact Z<|Ac<|O<|O<|O<|Aa<|Ak<|Bz (f:=Ba) (l:=c) (Bq _) rfl<|Bz (f:=Ba) (l:=c) (Bq _) rfl<|congrArg (fun x:((List Ao)×Bool)=>(.tup [(Ck 3 Bi) x.1,Av x.2]:AV))<|Ai h
theorem Arh {a0:(List A5)} {a1:Ao} {a2:Int} {r:((List Int)×(List Int)×Bool)} (h:S3 a0 a1 a2=some r):Bb Tryz.prog 293 [(A2 3 Bf) a0,Ba a1,(Af .i64) a2] (.tup [(A2 1 (Af .i64)) r.1,(A2 1 (Af .i64)) r.2.1,Av r.2.2]):=by
 unfold S3 at h
 refine C2 (C:={T:=B4,an:=(fun s=>bif Nat.beq s 12 then .own else bif Nat.beq s 11 then .own else .ask),nl:=(fun s=>bif Nat.beq s 12 then [(0,1)] else bif Nat.beq s 11 then [(0,1)] else bif Nat.beq s 7 then [(0,1)] else bif Nat.beq s 6 then [(0,1)] else [])}) B8 B5 Tryz.func293 rfl (by kernel_rfl) (by kernel_rfl) rfl ?_
 refine Z<|Ac<|O<|O<|O<|O<|Aa<|Z<|Z<|Ac<|O<|O<|O<|O<|Aq h fun v2 B h=>As.mk _ (Ahk (a0:=a0) (a1:=a1) (a2:=a2) B) rfl<|O<|O<|O<|O<|O<|Aa<|Z<|Ac ?_
 refine O<|O<|Aa<|Am h (fun b h=>?_) fun b h=>?_
 exact Z<|Ac<|O<|O<|O<|Aa<|Ak<|congrArg (fun x:((List Int)×(List Int)×Bool)=>(.tup [(A2 1<|Af .i64) x.1,(A2 1<|Af .i64) x.2.1,Av x.2.2]:AV))<|Ai h
 refine An<|Z<|Ac<|O<|O<|Aa<|Z<|Z<|Ac<|O<|O<|O<|O<|O<|Aq h fun v5 A h=>As.mk _ (Arf (a0:=a0) (a1:=a1.Num) (a2:=a2) A) rfl<|O<|Ax (f:=Av) (l:=v5) rfl<|O<|Aa<|Ay<|Bn h (fun (v15,g,c)=>[(11,(.arr 1 g.length 0 g.length)),(12,(.arr 2 c.length 0 c.length)),(30,(Af .i64 v15))]) (fun (v15,g,c)=>[(1,.rows 3 1 (List.map (Af .i64) g)),(2,.rows 3 1 (List.map (Af .i64) c))]) (fun _=>True) (fun _=>rfl) ⟨rfl,rfl,rfl,Ae⟩ ⟨Ah,Ah,Ah,Ae⟩ Ae ?_
 rintro ⟨v15,g,c⟩ D E u j i hn1 _
 refine Z<|Ac<|O<|Aa<|Z<|Am j (fun b h=>?_) fun b h=>?_
 refine An<|Z<|Ay<|Z<|Ac<|O<|O<|A7 (f:=Av) rfl h fun z v18 i18 k h=>O<|O<|O<|Aa<|Z<|Ac<|O<|Aa<|Am h (fun b h=>?_) fun b h=>?_
 exact Ac<|O<|O<|O<|O<|D9 (f:=(Af .i64)) (l:=c) (ys:=[v15]) rfl rfl rfl rfl h fun y h=>O<|Aa<|Ac<|O<|Aw.mk _ rfl<|O<|Aa<|hn1 _ _ _ _ (Ai h) ⟨rfl,rfl,rfl,Ae⟩ ⟨Ah,Ah,Ah,Ae⟩ Ae
 exact Ac<|O<|O<|O<|O<|D9 (f:=(Af .i64)) (l:=g) (ys:=[v15]) rfl rfl rfl rfl h fun q h=>O<|Aa<|Ac<|O<|Aw.mk _ rfl<|O<|Aa<|hn1 _ _ _ _ (Ai h) ⟨rfl,rfl,rfl,Ae⟩ ⟨Ah,Ah,Ah,Ae⟩ Ae
 refine Bh<|Bg rfl ?_
 have h:=i _ (Ai h)
 exact Z<|Ac<|O<|O<|O<|O<|O<|Aa<|Ak<|Bz (f:=(Af .i64)) (l:=g) rfl rfl<|Bz (f:=(Af .i64)) (l:=g) rfl rfl<|Bz (f:=(Af .i64)) (l:=c) rfl rfl<|Bz (f:=(Af .i64)) (l:=c) rfl rfl<|congrArg (fun x:((List Int)×(List Int)×Bool)=>(.tup [(A2 1<|Af .i64) x.1,(A2 1<|Af .i64) x.2.1,Av x.2.2]:AV))<|Ai h
theorem Ari {a0:(List A5)} {a1:Ao} {a2:Int} {r:((List Ao)×Bool)} (h:Qc a0 a1 a2=some r):Bb Tryz.prog 236 [(A2 3 Bf) a0,Ba a1,(Af .i64) a2] (.tup [(Ck 3 Bi) r.1,Av r.2]):=by
 unfold Qc at h
 refine C2 (C:={T:=B4,an:=(fun s=>bif Nat.beq s 13 then .own else .ask),nl:=(fun s=>bif Nat.beq s 13 then [(0,3)] else bif Nat.beq s 6 then [(0,3)] else [])}) B8 B5 Tryz.func236 rfl (by kernel_rfl) (by kernel_rfl) rfl ?_
 refine Z<|Ac<|O<|O<|O<|Aa<|Z<|Ac<|O<|O<|O<|O<|Aq h fun v2 D h=>As.mk _ (Ahk (a0:=a0) (a1:=a1) (a2:=a2) D) rfl<|O<|O<|O<|O<|O<|Aa<|Z<|Z<|Ac<|O ?_
 refine O<|Aa<|Am h (fun b h=>?_) fun b h=>?_
 exact Z<|Ac<|O<|O<|Aa<|Ak<|congrArg (fun x:((List Ao)×Bool)=>(.tup [(Ck 3 Bi) x.1,Av x.2]:AV))<|Ai h
 refine An<|Z<|Ac<|O<|O<|O<|O<|Aq h fun v3 B h=>As.mk _ (Arh (a0:=a0) (a1:=a1) (a2:=a2) B) rfl<|O<|O<|O<|O<|O<|O<|O<|Aa<|Z<|Ac<|O<|Aa<|Z<|Z<|Ac ?_
 refine O<|O<|Ax (f:=(Af .i64)) (l:=v3.1) rfl<|O<|Aa<|Ay<|Bn h (fun (v13,c)=>[(13,(.arr 1 c.length 0 c.length)),(35,(Af .i64 v13))]) (fun (v13,c)=>[(1,.rows 25 3 (Bi c))]) (fun _=>True) (fun _=>rfl) ⟨rfl,rfl,Ae⟩ ⟨Ah,Ah,Ae⟩ Ae ?_
 rintro ⟨v13,c⟩ E G u j i hn1 _
 refine Z<|Ac<|O<|Aa<|Z<|Am j (fun b h=>?_) fun b h=>?_
 refine An<|Z<|Ay<|Z<|Ac<|O<|A7 (f:=(Af .i64)) rfl h fun A v15 i15 q h=>O<|O<|Aa<|Ac<|O<|O<|O<|O<|A7 (f:=Ba) (Bq _) h fun z v16 i16 k h=>O<|O<|O<|H4 (g:=Bi) Bq (f:=Ba) (l:=c) (ys:=[v16]) (Bq _) rfl rfl rfl h fun y h=>O<|Aa<|Ac<|O ?_
 exact Aw.mk _ rfl<|O<|Aa<|hn1 _ _ _ _ (Ai h) ⟨rfl,rfl,Ae⟩ ⟨Ah,Ah,Ae⟩ Ae
 refine Bh<|Bg rfl ?_
 have h:=i _ (Ai h)
 exact Z<|Ac<|O<|O<|O<|Aa<|Ak<|Bz (f:=Ba) (l:=c) (Bq _) rfl<|Bz (f:=Ba) (l:=c) (Bq _) rfl<|congrArg (fun x:((List Ao)×Bool)=>(.tup [(Ck 3 Bi) x.1,Av x.2]:AV))<|Ai h
theorem Ahl:∀k:Nat,(∀(a0:(List A5)) (a1:Ao) (a2:Be) (r:Int),Jq k a0 a1 a2=some r->Bb Tryz.prog 164 [(A2 3 Bf) a0,Ba (Ao.mk a1.Kind a1.Num a1.Args),Bw (Be.mk a2.Num a2.Kids)] ((Af .i64) r))/\(∀(a0:(List A5)) (a1:(List Ao)) (a2:(List Be)) (r:Int),Ly k a0 a1 a2=some r->Bb Tryz.prog 235 [(A2 3 Bf) a0,(Ck 3 Bi) a1,(Ck 2 Fs) a2] ((Af .i64) r))
 | 0=>⟨(fun _ _ _ _ h=>by simp only [Jq] at h; cases h),(fun _ _ _ _ h=>by simp only [Ly] at h; cases h)⟩
 | k+1=>by
  have ih:=Ahl k
  have g:∀{a0:(List A5)} {a1:Ao} {a2:Be} {r:Int},Jq k a0 a1 a2=some r->Bb Tryz.prog 164 [(A2 3 Bf) a0,Ba (Ao.mk a1.Kind a1.Num a1.Args),Bw (Be.mk a2.Num a2.Kids)] ((Af .i64) r):=fun h=>ih.1 _ _ _ _ h
  have c:∀{a0:(List A5)} {a1:(List Ao)} {a2:(List Be)} {r:Int},Ly k a0 a1 a2=some r->Bb Tryz.prog 235 [(A2 3 Bf) a0,(Ck 3 Bi) a1,(Ck 2 Fs) a2] ((Af .i64) r):=fun h=>ih.2 _ _ _ _ h
  refine ⟨?_,?_⟩
  .intro a0 a1 a2 r h
   unfold Jq at h
   refine Bv Tryz.func164 rfl (by kernel_rfl) (by kernel_rfl) rfl ?_
   refine Z<|Ac<|O<|O<|O<|Aa<|Z<|Z<|Ac<|O<|O<|Aa<|Ay<|Z<|Ac<|O<|O<|Aa<|Am h (fun b h=>?_) fun b h=>?_
   refine Z<|Z<|Ac<|O<|O<|O<|Aa<|Am h (fun b h=>?_) fun b h=>?_
   exact Z<|Ac<|O<|Aa<|Ak<|Bu h
   exact An<|Z<|Ac<|O<|O<|O<|O<|O<|O<|Aq h fun v3 X h=>As.mk _ (c (a0:=a0) (a1:=a1.Args) (a2:=a2.Kids) X) rfl<|O<|Aa<|Ak<|Bu h
   refine Z<|Ac<|O<|O<|Aa<|Am h (fun b h=>?_) fun b h=>?_
   refine Z<|Z<|Ac<|O<|O<|O<|O<|A6 (s:=31) h (fun b h=>?_) fun b h=>?_
   exact Ad<|Ad<|Ad<|O<|O<|Ad<|Ad<|Ad<|Ad<|O<|Aa<|Dd<|Z<|Ac<|O<|Aa<|Ak<|Bu h
   refine Ag<|Ag<|Ag<|O<|O<|A6 (s:=36) h (fun b h=>?_) fun b h=>?_
   exact Ad<|Ad<|Ad<|Ad<|O<|Aa<|Dd<|Z<|Ac<|O<|Aa<|Ak<|Bu h
   refine Ag<|Ag<|Ag<|Ax (f:=Bw) (l:=a2.Kids) (Cu _)<|Ag<|O<|Aa<|Am h (fun b h=>?_) fun b h=>?_
   exact Z<|Ac<|O<|Aa<|Ak<|Bu h
   exact An<|Z<|Ac<|O<|O<|O<|Aa<|Ak<|Bu h
   refine Z<|Ac<|O<|O<|Aa<|Am h (fun b h=>?_) fun b h=>?_
   refine Z<|Z<|Cd h fun y x E=>Ce (fun (v4:Bool)=>v4=y) (fun v4=>[(54,(Av v4))]) (fun v4=>[]) (fun _=>rfl) ?_ ?_
   intro Y hK1
   refine Ac<|O<|O<|O<|O<|A6 (s:=49) x (fun b h=>?_) fun b h=>?_
   exact Ad<|Ad<|Ad<|Ad<|O<|Aa<|hK1 true _ _ _ (Ai h) ⟨rfl,Ae⟩ ⟨Ah,Ah,Ae⟩
   exact Ag<|Ag<|Ag<|Ax (f:=Bw) (l:=a2.Kids) (Cu _)<|Ag<|O<|Aa<|hK1 (decide ((a2.Kids.length:Int)>(6:Int))) _ _ _ (Ai h) ⟨rfl,Ae⟩ ⟨Ah,Ah,Ae⟩
   rintro v4 R I
   have h:=E _ I
   refine Am h (fun b h=>?_) fun b h=>?_
   exact Z<|Ac<|O<|Aa<|Ak<|Bu h
   refine An<|Z<|Ac<|O<|Aa<|Z<|Z<|Ac<|O<|O<|O<|Ax (f:=Bw) (l:=a2.Kids) (Cu _)<|O<|Aa<|Ay<|Bn h (fun (v10,q)=>[(6,(Af .i64 0)),(7,(Af .i64 v10)),(58,(Af .i64 q))]) (fun (v10,q)=>[]) (fun _=>True) (fun _=>rfl) ⟨rfl,rfl,rfl,Ae⟩ ⟨Ah,Ah,Ae⟩ Ae ?_
   rintro ⟨v10,q⟩ u2 K2 S B j hn2 _
   refine Z<|Ac<|O<|Aa<|Z<|Am B (fun b h=>?_) fun b h=>?_
   refine An<|Z<|Ay<|Z<|Ac<|O<|A7 (f:=Bw) (Cu _) h fun U v12 i12 M h=>O<|O<|O<|Aa<|Z<|Z<|Cd h fun z A D=>Ce (fun (i:Bool)=>i=z) (fun i=>[(69,(Av i))]) (fun i=>[]) (fun _=>rfl) ?_ ?_
   intro K3 hK3
   refine Ac<|O<|O<|O<|O<|A6 (s:=65) A (fun b h=>?_) fun b h=>?_
   exact Ad<|Ad<|Ad<|O<|Aa<|hK3 true _ _ _ (Ai h) ⟨rfl,Ae⟩ ⟨Ah,Ah,Ah,Ae⟩
   exact Ag<|Ag<|Ag<|O<|Aa<|hK3 (decide<|v12.Num>=(8:Int)) _ _ _ (Ai h) ⟨rfl,Ae⟩ ⟨Ah,Ah,Ah,Ae⟩
   rintro i u3 G
   have h:=D _ G
   refine Am h (fun b h=>?_) fun b h=>?_
   refine Z<|Ac<|O<|Aa<|Ak ?_
   have h:=j _ (Ai h)
   exact Bu h
   refine An<|Z<|Ac<|O<|O<|O<|O<|O<|Aq h fun v15 L h=>As.mk _ (Ari (a0:=a0) (a1:=a1) (a2:=v12.Num) L) rfl<|O<|O<|O<|O<|O<|Aa<|Z<|Z<|Ac<|O<|O<|Aa<|Am h (fun b h=>?_) fun b h=>?_
   refine Z<|Ac<|O<|Aa<|Ak ?_
   have h:=j _ (Ai h)
   exact Bu h
   refine An<|Z<|Ac<|O<|O<|O<|O<|O<|Aq h fun v16 J h=>As.mk _ (c (a0:=a0) (a1:=v15.1) (a2:=v12.Kids) J) rfl<|O<|Aa<|Z<|Z<|Ac<|O<|O<|O<|A6 (s:=87) h (fun b h=>?_) fun b h=>?_
   refine Ad<|Ad<|Ad<|Ad<|Ad<|O<|Aa<|Dd<|Z<|Ac<|O<|Aa<|Ak ?_
   have h:=j _ (Ai h)
   exact Bu h
   refine Ag<|Ag<|Aw.mk _ rfl<|Ag<|Ag<|Aw.mk _ rfl<|Ag<|O<|Aa<|Am h (fun b h=>?_) fun b h=>?_
   refine Z<|Ac<|O<|Aa<|Ak ?_
   have h:=j _ (Ai h)
   exact Bu h
   exact An<|Ac<|O<|O<|O<|Aw.mk _ rfl<|O<|Aw.mk _ rfl<|O<|Aa<|Ac<|O<|Aw.mk _ rfl<|O<|Aa<|hn2 _ _ _ _ (Ai h) ⟨rfl,rfl,rfl,Ae⟩ ⟨Ah,Ah,Ae⟩ Ae
   refine Bh<|Bg rfl ?_
   have h:=j _ (Ai h)
   exact Z<|Ac<|O<|O<|Aa<|Ak<|Bu h
   refine An<|Z<|Z<|Ac<|O<|O<|O<|O<|A6 (s:=103) h (fun b h=>?_) fun b h=>?_
   exact Ad<|Ad<|Ad<|Ad<|O<|Aa<|Dd<|Z<|Ac<|O<|Aa<|Ak<|Bu h
   refine Ag<|Ag<|Ag<|Ax (f:=Bw) (l:=a2.Kids) (Cu _)<|Ag<|O<|Aa<|Am h (fun b h=>?_) fun b h=>?_
   exact Z<|Ac<|O<|Aa<|Ak<|Bu h
   exact An<|Z<|Ac<|O<|Aa<|Ak<|Bu h
  .intro a0 a1 a2 r h
   unfold Ly at h
   refine Bv Tryz.func235 rfl (by kernel_rfl) (by kernel_rfl) rfl ?_
   refine Z<|Ac<|O<|Aa<|Z<|Z<|Ac<|O<|O<|Ax (f:=Ba) (l:=a1) (Bq _)<|O<|O<|Ax (f:=Bw) (l:=a2) (Cu _)<|O<|Aa<|Am h (fun b h=>?_) fun b h=>?_
   exact Z<|Ac<|O<|Aa<|Ak<|Bu h
   refine An<|Z<|Ac<|O<|Aa<|Z<|Z<|Ac<|O<|O<|Ax (f:=Ba) (l:=a1) (Bq _)<|O<|Aa<|Ay<|Bn h (fun (v4,v5)=>[(6,(Af .i64 0)),(7,(Af .i64 v4)),(17,(Af .i64 v5))]) (fun (v4,v5)=>[]) (fun _=>True) (fun _=>rfl) ⟨rfl,rfl,rfl,Ae⟩ Ae Ae ?_
   rintro ⟨v4,v5⟩ R Y y x u hn1 _
   refine Z<|Ac<|O<|Aa<|Z<|Am x (fun b h=>?_) fun b h=>?_
   refine An<|Z<|Ay<|Z<|Ac<|O<|O<|Aa<|Z<|B0<|O<|O<|O<|O<|A7 (f:=Ba) (Bq _) h fun n6 N i6 x6 h=>O<|O<|O<|O<|A7 (f:=Bw) (Cu _) h fun n7 v7 i7 x7 h=>O<|O<|Aq h fun v8 V h=>As.mk _ (g (a0:=a0) (a1:=N) (a2:=v7) V) rfl ?_
   refine O<|Aa<|Bj.mk (by kernel_rfl)<|Z<|Z<|Ac<|O<|O<|O<|A6 (s:=32) h (fun b h=>?_) fun b h=>?_
   refine Ad<|Ad<|Ad<|Ad<|O<|Aa<|Dd<|Z<|Ac<|O<|Aa<|Ak ?_
   have h:=u _ (Ai h)
   exact Bu h
   refine Ag<|Ag<|Ag<|Aw.mk _ rfl<|Ag<|O<|Aa<|Am h (fun b h=>?_) fun b h=>?_
   refine Z<|Ac<|O<|Aa<|Ak ?_
   have h:=u _ (Ai h)
   exact Bu h
   exact An<|Ac<|O<|O<|O<|Aw.mk _ rfl<|O<|Aa<|Ac<|O<|Aw.mk _ rfl<|O<|Aa<|hn1 _ _ _ _ (Ai h) ⟨rfl,rfl,rfl,Ae⟩ Ae Ae
   refine Bh<|Bg rfl ?_
   have h:=u _ (Ai h)
   exact Z<|Ac<|O<|O<|Aa<|Ak<|Bu h
theorem Ahm {k:Nat} {a0:(List A5)} {a1:Ao} {a2:Be} {r:Int} (h:Jq k a0 a1 a2=some r):Bb Tryz.prog 164 [(A2 3 Bf) a0,Ba (Ao.mk a1.Kind a1.Num a1.Args),Bw (Be.mk a2.Num a2.Kids)] ((Af .i64) r):=(Ahl k).1 _ _ _ _ h
theorem Arj {a0:(List A5)} {a1:Ao} {a2:Be} {r:Int} (h:P5 a0 a1 a2=some r):Bb Tryz.prog 168 [(A2 3 Bf) a0,Ba a1,Bw a2] ((Af .i64) r):=by
 unfold P5 at h
 refine Bv Tryz.func168 rfl (by kernel_rfl) (by kernel_rfl) rfl ?_
 exact Z<|Ac<|O<|O<|O<|Aa<|Z<|Ac<|O<|O<|O<|O<|Aq h fun v3 b h=>As.mk _ (Ahm (a0:=a0) (a1:=a1) (a2:=a2) b) rfl<|O<|Aa<|Ak<|Bu h
theorem Ark {a0:Ey} {r:Bool} (h:Ny a0=some r):Bb Tryz.prog 169 [Km a0] (Av r):=by
 unfold Ny at h
 refine Bv Tryz.func169 rfl (by kernel_rfl) (by kernel_rfl) rfl ?_
 refine Z<|Ac<|O<|O<|Aa<|Z<|Z<|Cd h fun g j k=>Ce (fun (v2:Bool)=>v2=g) (fun v2=>[(18,(Av v2))]) (fun v2=>[]) (fun _=>rfl) ?_ ?_
 intro I hK1
 refine Ac<|O<|O<|O<|Ax (f:=Dq) (l:=a0.Terms) rfl<|O<|O<|A6 (s:=9) j (fun b h=>?_) fun b h=>?_
 exact Ad<|Ad<|Ad<|O<|O<|Ad<|Ad<|Ad<|O<|Aa<|hK1 true _ _ _ (Ai h) ⟨rfl,Ae⟩ ⟨Ah,Ae⟩
 refine Ag<|Ag<|Ag<|O<|O<|A6 (s:=14) h (fun b h=>?_) fun b h=>?_
 exact Ad<|Ad<|Ad<|O<|Aa<|hK1 true _ _ _ (Ai h) ⟨rfl,Ae⟩ ⟨Ah,Ae⟩
 exact Ag<|Ag<|Ag<|O<|Aa<|hK1 (decide<|a0.Const>(1048576:Int)) _ _ _ (Ai h) ⟨rfl,Ae⟩ ⟨Ah,Ae⟩
 rintro v2 B q
 have h:=k _ q
 refine Am h (fun b h=>?_) fun b h=>?_
 exact Z<|Ac<|O<|Aa<|Ak<|A3 h
 refine An<|Z<|Z<|Ac<|O<|O<|O<|Ax (f:=Dq) (l:=a0.Terms) rfl<|O<|Aa<|Ay<|Bn h (fun v5=>[(2,(Av false)),(22,(Af .i64 v5))]) (fun v5=>[]) (fun _=>True) (fun _=>rfl) ⟨rfl,rfl,Ae⟩ ⟨Ah,Ae⟩ Ae ?_
 rintro v5 A G u i c hn2 _
 refine Z<|Ac<|O<|Aa<|Z<|Am i (fun b h=>?_) fun b h=>?_
 refine An<|Z<|Ay<|Z<|Ac<|O<|O<|A7 (f:=Dq) rfl h fun E z i6 y h=>O<|O<|O<|O<|Aa<|Z<|B0<|O<|O<|O<|O<|A6 (s:=30) h (fun b h=>?_) fun b h=>?_
 refine Ad<|Ad<|Ad<|O<|O<|Ad<|Ad<|Ad<|O<|O<|Ad<|Ad<|Ad<|O<|O<|Ad<|Ad<|Ad<|O<|O<|Ad<|Ad<|Ad<|A9 (26,true) 53 undef ?_
 refine A9 (26,true) 53 undef<|A9 (26,true) 53 undef<|A9 (26,true) 53 undef<|A9 (26,true) 53 undef<|A9 (26,true) 53 undef<|A9 (26,true) 53 undef<|A9 (26,true) 53 undef<|A9 (26,true) 53 undef<|A9 (26,true) 53 undef<|Ad<|O<|Aa<|Bj.mk (by kernel_rfl)<|Dd<|Z<|Ac<|O<|Aa<|Ak ?_
 have h:=c _ (Ai h)
 exact A3 h
 refine Ag<|Ag<|Ag<|O<|O<|A6 (s:=35) h (fun b h=>?_) fun b h=>?_
 refine Ad<|Ad<|Ad<|O<|O<|Ad<|Ad<|Ad<|O<|O<|Ad<|Ad<|Ad<|O<|O<|Ad<|Ad<|Ad<|A9 (26,true) 53 undef<|A9 (26,true) 53 undef<|A9 (26,true) 53 undef<|A9 (26,true) 53 undef<|A9 (26,true) 53 undef<|A9 (26,true) 53 undef ?_
 refine A9 (26,true) 53 undef<|A9 (26,true) 53 undef<|A9 (26,true) 53 undef<|A9 (26,true) 53 undef<|Ad<|O<|Aa<|Bj.mk (by kernel_rfl)<|Dd<|Z<|Ac<|O<|Aa<|Ak ?_
 have h:=c _ (Ai h)
 exact A3 h
 refine Ag<|Ag<|Ag<|O<|O<|A6 (s:=40) h (fun b h=>?_) fun b h=>?_
 refine Ad<|Ad<|Ad<|O<|O<|Ad<|Ad<|Ad<|O<|O<|Ad<|Ad<|Ad<|A9 (26,true) 53 undef<|A9 (26,true) 53 undef<|A9 (26,true) 53 undef<|A9 (26,true) 53 undef<|A9 (26,true) 53 undef<|A9 (26,true) 53 undef<|A9 (26,true) 53 undef<|A9 (26,true) 53 undef<|A9 (26,true) 53 undef<|A9 (26,true) 53 undef<|Ad ?_
 refine O<|Aa<|Bj.mk (by kernel_rfl)<|Dd<|Z<|Ac<|O<|Aa<|Ak ?_
 have h:=c _ (Ai h)
 exact A3 h
 refine Ag<|Ag<|Ag<|O<|O<|A6 (s:=45) h (fun b h=>?_) fun b h=>?_
 refine Ad<|Ad<|Ad<|O<|O<|Ad<|Ad<|Ad<|A9 (26,true) 53 undef<|A9 (26,true) 53 undef<|A9 (26,true) 53 undef<|A9 (26,true) 53 undef<|A9 (26,true) 53 undef<|A9 (26,true) 53 undef<|A9 (26,true) 53 undef<|A9 (26,true) 53 undef<|A9 (26,true) 53 undef<|A9 (26,true) 53 undef<|Ad<|O<|Aa<|Bj.mk (by kernel_rfl)<|Dd<|Z ?_
 refine Ac<|O<|Aa<|Ak ?_
 have h:=c _ (Ai h)
 exact A3 h
 refine Ag<|Ag<|Ag<|O<|O<|A6 (s:=50) h (fun b h=>?_) fun b h=>?_
 refine Ad<|Ad<|Ad<|A9 (26,true) 53 undef<|A9 (26,true) 53 undef<|A9 (26,true) 53 undef<|A9 (26,true) 53 undef<|A9 (26,true) 53 undef<|A9 (26,true) 53 undef<|A9 (26,true) 53 undef<|A9 (26,true) 53 undef<|A9 (26,true) 53 undef<|A9 (26,true) 53 undef<|Ad<|O<|Aa<|Bj.mk (by kernel_rfl)<|Dd<|Z<|Ac<|O<|Aa<|Ak ?_
 have h:=c _ (Ai h)
 exact A3 h
 refine Ag<|Ag<|Ag<|A6 (s:=53) h (fun b h=>?_) fun b h=>?_
 refine Ag<|Ag<|Ag<|Ag<|Aw.mk _ rfl<|Ag<|A7 (f:=Dq) rfl h fun D v8 i8 x h=>Ag<|Ag<|Ag<|Ag<|Ag<|Ag<|O<|Aa<|Bj.mk (by kernel_rfl)<|Am h (fun b h=>?_) fun b h=>?_
 refine Z<|Ac<|O<|Aa<|Ak ?_
 have h:=c _ (Ai h)
 exact A3 h
 exact An<|Ac<|O<|Aw.mk _ rfl<|O<|Aa<|hn2 _ _ _ _ (Ai h) ⟨rfl,rfl,Ae⟩ ⟨Ah,Ae⟩ Ae
 exact Ad<|Ad<|Ad<|Ad<|Ad<|Ad<|Ad<|Ad<|Ad<|Ad<|Ag<|O<|Aa<|Bj.mk (by kernel_rfl)<|Fg<|An<|Ac<|O<|Aw.mk _ rfl<|O<|Aa<|hn2 _ _ _ _ (Ai h) ⟨rfl,rfl,Ae⟩ ⟨Ah,Ae⟩ Ae
 refine Bh<|Bg rfl ?_
 have h:=c _ (Ai h)
 exact Z<|Ac<|O<|Aa<|Ak<|A3 h
end Go.Ab
namespace Go.Ab
open Go Go.Proofs
set_option maxRecDepth 10000
theorem Ahn {a0:Cp} {a1:Int} {r:(Ao×Bool)} (h:Nx a0 a1=some r):Bb Tryz.prog 167 [Fe a0,(Af .i64) a1] (.tup [Ba r.1,Av r.2]):=by
 unfold Nx at h
 refine C2 (C:={T:=B4,an:=(fun _=>.ask),nl:=(fun s=>bif Nat.beq s 19 then [(2,3)] else [])}) B8 B5 Tryz.func167 rfl (by kernel_rfl) (by kernel_rfl) rfl ?_
 refine Z<|Ac<|O<|O<|O<|Aa<|Z<|Z<|Ac<|O<|O<|Aa<|Am h (fun b h=>?_) fun b h=>?_
 exact Z<|Ac<|O<|O<|O<|O<|Aa<|Ak<|congrArg (fun x:(Ao×Bool)=>(.tup [Ba x.1,Av x.2]:AV))<|Ai h
 refine An<|Z<|Z<|Cd h fun c g i=>Ce (fun (v3:Bool)=>v3=c) (fun v3=>[(18,(Av v3))]) (fun v3=>[]) (fun _=>rfl) ?_ ?_
 intro y hK1
 refine Ac<|O<|O<|O<|A6 (s:=12) g (fun b h=>?_) fun b h=>?_
 exact Ad<|Ad<|Ad<|Ad<|Ad<|O<|Aa<|hK1 true _ _ _ (Ai h) ⟨rfl,Ae⟩ ⟨Ah,Ah,Ae⟩
 exact Ag<|Ag<|Ag<|Ag<|Ax (f:=Ba) (l:=a0.Vars) (Bq _)<|Ag<|O<|Aa<|hK1 (decide<|a1>=(a0.Vars.length:Int)) _ _ _ (Ai h) ⟨rfl,Ae⟩ ⟨Ah,Ah,Ae⟩
 rintro v3 q j
 have h:=i _ j
 refine Am h (fun b h=>?_) fun b h=>?_
 exact Z<|Ac<|O<|O<|O<|Aa<|Ak<|congrArg (fun x:(Ao×Bool)=>(.tup [Ba x.1,Av x.2]:AV))<|Ai h
 exact An<|Z<|Ac<|O<|O<|O<|O<|A7 (f:=Ba) (Bq _) h fun u v4 i4 k h=>O<|O<|O<|Aa<|Ak<|congrArg (fun x:(Ao×Bool)=>(.tup [Ba x.1,Av x.2]:AV))<|Ai h
theorem Arl {a0:Cp} {a1:Ey} {r:Bool} (h:Nz a0 a1=some r):Bb Tryz.prog 170 [Fe a0,Km a1] (Av r):=by
 unfold Nz at h
 refine Bv Tryz.func170 rfl (by kernel_rfl) (by kernel_rfl) rfl ?_
 refine Z<|Ac<|O<|O<|O<|Aa<|Z<|Z<|Ac<|O<|O<|O<|Ax (f:=Dq) (l:=a1.Terms) rfl<|O<|Aa<|Ay<|Bn h (fun v7=>[(4,(Av false)),(12,(Af .i64 v7))]) (fun v7=>[]) (fun _=>True) (fun _=>rfl) ⟨rfl,rfl,Ae⟩ ⟨Ah,Ah,Ae⟩ Ae ?_
 rintro v7 q x j g c hn1 _
 refine Z<|Ac<|O<|Aa<|Z<|Am g (fun b h=>?_) fun b h=>?_
 refine An<|Z<|Ay<|Z<|Ac<|O<|A7 (f:=Dq) rfl h fun u v8 i8 k h=>O<|O<|O<|Aa<|Z<|Ac<|O<|O<|O<|O<|Aq h fun v10 i h=>As.mk _ (Ahn (a0:=a0) (a1:=v8.Var) i) rfl<|O<|O<|O<|O<|O ?_
 refine O<|Aa<|Z<|Ac<|O<|O<|O<|A6 (s:=25) h (fun b h=>?_) fun b h=>?_
 refine Ad<|Ad<|Ad<|O<|Aa<|Dd<|Z<|Ac<|O<|Aa<|Ak ?_
 have h:=c _ (Ai h)
 exact A3 h
 refine Ag<|Ag<|Ag<|O<|Aa<|Am h (fun b h=>?_) fun b h=>?_
 refine Z<|Ac<|O<|Aa<|Ak ?_
 have h:=c _ (Ai h)
 exact A3 h
 exact An<|Ac<|O<|Aw.mk _ rfl<|O<|Aa<|hn1 _ _ _ _ (Ai h) ⟨rfl,rfl,Ae⟩ ⟨Ah,Ah,Ae⟩ Ae
 refine Bh<|Bg rfl ?_
 have h:=c _ (Ai h)
 exact Z<|Ac<|O<|Aa<|Ak<|A3 h
theorem Arm {a0:Cp} {a1:C8} {r:Int} (h:Se a0 a1=some r):Bb Tryz.prog 108 [Fe a0,Hd a1] ((Af .i64) r):=by
 unfold Se at h
 refine Bv Tryz.func108 rfl (by kernel_rfl) (by kernel_rfl) rfl ?_
 refine Z<|Ac<|O<|O<|O<|Aa<|Z<|Ac<|O<|Aa<|Z<|Z<|Ac<|O<|O<|O<|Ax (f:=C4) (l:=a1.Factors) rfl<|O<|Aa<|Ay<|Bn h (fun (v9,v10)=>[(4,(Af .i64 0)),(5,(Af .i64 v9)),(16,(Af .i64 v10))]) (fun (v9,v10)=>[]) (fun _=>True) (fun _=>rfl) ⟨rfl,rfl,rfl,Ae⟩ ⟨Ah,Ah,Ae⟩ Ae ?_
 rintro ⟨v9,v10⟩ u1 K1 S x i hn1 _
 refine Z<|Ac<|O<|Aa<|Z<|Am x (fun b h=>?_) fun b h=>?_
 refine An<|Z<|Ay<|Z<|Ac<|O<|O<|A7 (f:=C4) rfl h fun Y g i11 M h=>O<|O<|O<|O<|Aa<|Z<|Ac<|O<|O<|O<|O<|Aq h fun v13 G h=>As.mk _ (Ahn (a0:=a0) (a1:=g.Var) G) rfl<|O<|O<|O ?_
 refine O<|O<|O<|Aa<|Z<|Z<|Cd h fun k u y=>Ce (fun (v16:Bool)=>v16=k) (fun v16=>[(45,(Av v16))]) (fun v16=>[]) (fun _=>rfl) ?_ ?_
 intro K2 hK2
 refine B0<|O<|O<|O<|A6 (s:=30) u (fun b h=>?_) fun b h=>?_
 exact Ad<|Ad<|Ad<|A9 (5,true) 33 undef<|A9 (5,true) 33 undef<|A9 (5,true) 33 undef<|A9 (5,true) 33 undef<|A9 (5,true) 33 undef<|A9 (5,true) 33 undef<|A9 (5,true) 33 undef<|A9 (5,true) 33 undef<|A9 (5,true) 33 undef<|A9 (5,true) 33 undef<|Ad<|O<|Aa<|Bj.mk (by kernel_rfl)<|hK2 true _ _ _ (Ai h) ⟨rfl,Ae⟩ ⟨Ah,Ah,Ah,Ah,Ae⟩
 refine Ag<|Ag<|Ag<|A6 (s:=33) h (fun b h=>?_) fun b h=>?_
 exact Ag<|Ag<|Ag<|Ag<|Aw.mk _ rfl<|Ag<|A7 (f:=C4) rfl h fun X v15 i15 L h=>Ag<|Ag<|Ag<|Ag<|Ag<|Ag<|O<|Aa<|Bj.mk (by kernel_rfl)<|hK2 (decide<|v15.Var>=g.Var) _ _ _ (Ai h) ⟨rfl,Ae⟩ ⟨Ah,Ah,Ah,Ah,Ae⟩
 exact Ad<|Ad<|Ad<|Ad<|Ad<|Ad<|Ad<|Ad<|Ad<|Ad<|Ag<|O<|Aa<|Bj.mk (by kernel_rfl)<|hK2 false _ _ _ (Ai h) ⟨rfl,Ae⟩ ⟨Ah,Ah,Ah,Ah,Ae⟩
 rintro v16 u2 z
 have h:=y _ z
 refine Am h (fun b h=>?_) fun b h=>?_
 refine Z<|Ac<|O<|Aa<|Ak ?_
 have h:=i _ (Ai h)
 exact Bu h
 refine An<|Z<|Ac<|O<|O<|O<|O<|O<|O<|Aq h fun v17 E h=>As.mk _ (Arj (a0:=a0.Data) (a1:=v13.1) (a2:=g.Index) E) rfl<|O<|Aa<|Z<|Z<|Ac<|O<|O<|Aa<|Am h (fun b h=>?_) fun b h=>?_
 refine Z<|Ac<|O<|Aa<|Ak ?_
 have h:=i _ (Ai h)
 exact Bu h
 exact An<|Ac<|O<|O<|O<|Aw.mk _ rfl<|O<|Aa<|Ac<|O<|Aw.mk _ rfl<|O<|Aa<|hn1 _ _ _ _ (Ai h) ⟨rfl,rfl,rfl,Ae⟩ ⟨Ah,Ah,Ae⟩ Ae
 refine Bh<|Bg rfl ?_
 have h:=i _ (Ai h)
 refine Z<|Z<|Ac<|O<|O<|O<|Ax (f:=Dk) (l:=a1.Atoms) rfl<|O<|Aa<|Ay<|Bn h (fun (v24,v25)=>[(4,(Af .i64 0)),(5,(Af .i64 v24)),(61,(Af .i64 v25))]) (fun (v24,v25)=>[]) (fun _=>True) (fun _=>rfl) ⟨rfl,rfl,rfl,Ae⟩ ⟨Ah,Ah,Ae⟩ Ae ?_
 rintro ⟨v24,v25⟩ u3 K3 R q c hn3 _
 refine Z<|Ac<|O<|Aa<|Z<|Am q (fun b h=>?_) fun b h=>?_
 refine An<|Z<|Ay<|Z<|Ac<|O<|O<|A7 (f:=Dk) rfl h fun V v26 i26 J h=>O<|O<|O<|O<|Aa<|Z<|Z<|B0<|O<|O<|O<|Aq h fun v28 D h=>As.mk _ (Ark (a0:=v26.Lin) D) rfl<|O<|O<|A6 (s:=70) h (fun b h=>?_) fun b h=>?_
 refine Ad<|Ad<|Ad<|Ad<|Ad<|O<|O<|Ad<|Ad<|Ad<|Ad<|Ad<|O<|O<|Ad<|Ad<|Ad<|A9 (21,true) 87 undef<|A9 (21,true) 87 undef<|A9 (21,true) 87 undef<|A9 (21,true) 87 undef<|A9 (21,true) 87 undef<|A9 (21,true) 87 undef<|A9 (21,true) 87 undef ?_
 refine A9 (21,true) 87 undef<|A9 (21,true) 87 undef<|A9 (21,true) 87 undef<|A9 (21,true) 87 undef<|Ad<|O<|O<|Ad<|Ad<|Ad<|O<|O<|Ad<|Ad<|Ad<|O<|Aa<|Bj.mk (by kernel_rfl)<|Dd<|Z<|Ac<|O<|Aa<|Ak ?_
 have h:=c _ (Ai h)
 exact Bu h
 refine Ag<|Ag<|Ag<|Ag<|Ax (f:=Dq) (l:=v26.Lin.Terms) rfl<|Ag<|O<|O<|A6 (s:=77) h (fun b h=>?_) fun b h=>?_
 refine Ad<|Ad<|Ad<|Ad<|Ad<|O<|O<|Ad<|Ad<|Ad<|A9 (21,true) 87 undef<|A9 (21,true) 87 undef<|A9 (21,true) 87 undef<|A9 (21,true) 87 undef<|A9 (21,true) 87 undef<|A9 (21,true) 87 undef<|A9 (21,true) 87 undef<|A9 (21,true) 87 undef<|A9 (21,true) 87 undef<|A9 (21,true) 87 undef<|A9 (21,true) 87 undef<|Ad<|O<|O ?_
 refine Ad<|Ad<|Ad<|O<|O<|Ad<|Ad<|Ad<|O<|Aa<|Bj.mk (by kernel_rfl)<|Dd<|Z<|Ac<|O<|Aa<|Ak ?_
 have h:=c _ (Ai h)
 exact Bu h
 refine Ag<|Ag<|Ag<|Ag<|Aq h fun N B h=>As.mk _ (Arl (a0:=a0) (a1:=v26.Lin) B) rfl<|Ag<|O<|O<|A6 (s:=84) h (fun b h=>?_) fun b h=>?_
 refine Ad<|Ad<|Ad<|A9 (21,true) 87 undef<|A9 (21,true) 87 undef<|A9 (21,true) 87 undef<|A9 (21,true) 87 undef<|A9 (21,true) 87 undef<|A9 (21,true) 87 undef<|A9 (21,true) 87 undef<|A9 (21,true) 87 undef<|A9 (21,true) 87 undef<|A9 (21,true) 87 undef<|A9 (21,true) 87 undef<|Ad<|O<|O<|Ad<|Ad<|Ad<|O<|O<|Ad<|Ad ?_
 refine Ad<|O<|Aa<|Bj.mk (by kernel_rfl)<|Dd<|Z<|Ac<|O<|Aa<|Ak ?_
 have h:=c _ (Ai h)
 exact Bu h
 refine Ag<|Ag<|Ag<|A6 (s:=87) h (fun b h=>?_) fun b h=>?_
 refine Ag<|Ag<|Ag<|Ag<|Aw.mk _ rfl<|Ag<|A7 (f:=Dk) rfl h fun U j i30 I h=>Ag<|Ag<|Ag<|Ag<|Ag<|Aq h fun v31 A h=>As.mk _ (Ahg (a0:=j.Lin) (a1:=v26.Lin) A) rfl<|Ag<|Ag<|O<|O<|A6 (s:=101) h (fun b h=>?_) fun b h=>?_
 refine Ad<|Ad<|Ad<|O<|O<|Ad<|Ad<|Ad<|O<|Aa<|Bj.mk (by kernel_rfl)<|Dd<|Z<|Ac<|O<|Aa<|Ak ?_
 have h:=c _ (Ai h)
 exact Bu h
 refine Ag<|Ag<|Ag<|O<|O<|A6 (s:=106) h (fun b h=>?_) fun b h=>?_
 refine Ad<|Ad<|Ad<|O<|Aa<|Bj.mk (by kernel_rfl)<|Dd<|Z<|Ac<|O<|Aa<|Ak ?_
 have h:=c _ (Ai h)
 exact Bu h
 refine Ag<|Ag<|Ag<|O<|Aa<|Bj.mk (by kernel_rfl)<|Am h (fun b h=>?_) fun b h=>?_
 refine Z<|Ac<|O<|Aa<|Ak ?_
 have h:=c _ (Ai h)
 exact Bu h
 exact An<|Ac<|O<|O<|O<|O<|Aw.mk _ rfl<|O<|Aa<|Ac<|O<|Aw.mk _ rfl<|O<|Aa<|hn3 _ _ _ _ (Ai h) ⟨rfl,rfl,rfl,Ae⟩ ⟨Ah,Ah,Ae⟩ Ae
 refine Ad<|Ad<|Ad<|Ad<|Ad<|Ad<|Ad<|Ad<|Ad<|Ad<|Ad<|Ag<|O<|O<|Ag<|Ag<|Ag<|O<|O<|A6 (s:=106) h (fun b h=>?_) fun b h=>?_
 refine Ad<|Ad<|Ad<|O<|Aa<|Bj.mk (by kernel_rfl)<|Dd<|Z<|Ac<|O<|Aa<|Ak ?_
 have h:=c _ (Ai h)
 exact Bu h
 refine Ag<|Ag<|Ag<|O<|Aa<|Bj.mk (by kernel_rfl)<|Am h (fun b h=>?_) fun b h=>?_
 refine Z<|Ac<|O<|Aa<|Ak ?_
 have h:=c _ (Ai h)
 exact Bu h
 exact An<|Ac<|O<|O<|O<|O<|Aw.mk _ rfl<|O<|Aa<|Ac<|O<|Aw.mk _ rfl<|O<|Aa<|hn3 _ _ _ _ (Ai h) ⟨rfl,rfl,rfl,Ae⟩ ⟨Ah,Ah,Ae⟩ Ae
 refine Bh<|Bg rfl ?_
 have h:=c _ (Ai h)
 refine Z<|Z<|Ac<|O<|O<|Aa<|Am h (fun b h=>?_) fun b h=>?_
 exact Z<|Ac<|O<|Aa<|Ak<|Bu h
 exact An<|Z<|Ac<|O<|O<|Aa<|Ak<|Bu h
theorem Arn {a0:Cp} {a1:(List B2)} {r:Bool} (h:R6 a0 a1=some r):Bb Tryz.prog 54 [Fe a0,(A2 5 B7) a1] (Av r):=by
 unfold R6 at h
 refine Bv Tryz.func54 rfl (by kernel_rfl) (by kernel_rfl) rfl ?_
 refine Z<|Ac<|O<|O<|Aa<|Z<|Z<|Ac<|O<|O<|Ax (f:=B7) (l:=a1) rfl<|O<|Aa<|Am h (fun b h=>?_) fun b h=>?_
 exact Z<|Ac<|O<|Aa<|Ak<|A3 h
 refine An<|Z<|Z<|Ac<|O<|O<|Ax (f:=B7) (l:=a1) rfl<|O<|Aa<|Ay<|Bn h (fun v8=>[(4,(Av false)),(12,(Af .i64 v8))]) (fun v8=>[]) (fun _=>True) (fun _=>rfl) ⟨rfl,rfl,Ae⟩ ⟨Ah,Ae⟩ Ae ?_
 rintro v8 E I A g c hn1 _
 refine Z<|Ac<|O<|Aa<|Z<|Am g (fun b h=>?_) fun b h=>?_
 refine An<|Z<|Ay<|Z<|Ac<|O<|O<|A7 (f:=B7) rfl h fun G v9 i9 D h=>O<|O<|O<|O<|Aa<|Z<|B0<|O<|O<|O<|O<|Aq h fun z u h=>As.mk _ (Arm (a0:=a0) (a1:=v9.Mono) u) rfl<|O<|O<|A6 (s:=22) h (fun b h=>?_) fun b h=>?_
 refine Ad<|Ad<|Ad<|Ad<|O<|O<|Ad<|Ad<|Ad<|Ad<|Ad<|Ad<|Ad<|O<|O<|Ad<|Ad<|Ad<|A9 (23,true) 40 undef<|A9 (23,true) 40 undef<|A9 (23,true) 40 undef<|A9 (23,true) 40 undef<|A9 (23,true) 40 undef<|A9 (23,true) 40 undef ?_
 refine A9 (23,true) 40 undef<|A9 (23,true) 40 undef<|A9 (23,true) 40 undef<|A9 (23,true) 40 undef<|Ad<|O<|Aa<|Bj.mk (by kernel_rfl)<|Dd<|Z<|Ac<|O<|Aa<|Ak ?_
 have h:=c _ (Ai h)
 exact A3 h
 refine Ag<|Ag<|Ag<|Aq h fun v12 q h=>As.mk _ (Abi (a0:=v9.Coef) q) rfl<|Ag<|O<|O<|A6 (s:=28) h (fun b h=>?_) fun b h=>?_
 refine Ad<|Ad<|Ad<|Ad<|Ad<|Ad<|Ad<|O<|O<|Ad<|Ad<|Ad<|A9 (23,true) 40 undef<|A9 (23,true) 40 undef<|A9 (23,true) 40 undef<|A9 (23,true) 40 undef<|A9 (23,true) 40 undef<|A9 (23,true) 40 undef<|A9 (23,true) 40 undef<|A9 (23,true) 40 undef<|A9 (23,true) 40 undef<|A9 (23,true) 40 undef<|Ad<|O ?_
 refine Aa<|Bj.mk (by kernel_rfl)<|Dd<|Z<|Ac<|O<|Aa<|Ak ?_
 have h:=c _ (Ai h)
 exact A3 h
 refine Ag<|Ag<|Ag<|Ag<|Ag<|Aq h fun v13 k h=>As.mk _ (Oi (a0:=v9.Coef) k) rfl<|Ag<|Aq h fun y j h=>As.mk _ (Arc (a0:=v9.Coef) (a1:=v13) j) rfl<|Ag<|O<|O<|A6 (s:=37) h (fun b h=>?_) fun b h=>?_
 refine Ad<|Ad<|Ad<|A9 (23,true) 40 undef<|A9 (23,true) 40 undef<|A9 (23,true) 40 undef<|A9 (23,true) 40 undef<|A9 (23,true) 40 undef<|A9 (23,true) 40 undef<|A9 (23,true) 40 undef<|A9 (23,true) 40 undef<|A9 (23,true) 40 undef<|A9 (23,true) 40 undef<|Ad<|O<|Aa<|Bj.mk (by kernel_rfl)<|Dd<|Z<|Ac<|O<|Aa<|Ak ?_
 have h:=c _ (Ai h)
 exact A3 h
 refine Ag<|Ag<|Ag<|A6 (s:=40) h (fun b h=>?_) fun b h=>?_
 refine Ag<|Ag<|Ag<|Aw.mk _ rfl<|Ag<|A7 (f:=B7) rfl h fun B v15 i15 x h=>Ag<|Ag<|Ag<|Ag<|Ag<|Aq h fun v16 i h=>As.mk _ (Are (a0:=v15.Mono) (a1:=v9.Mono) i) rfl<|Ag<|Ag<|O<|Aa<|Bj.mk (by kernel_rfl)<|Am h (fun b h=>?_) fun b h=>?_
 refine Z<|Ac<|O<|Aa<|Ak ?_
 have h:=c _ (Ai h)
 exact A3 h
 exact An<|Ac<|O<|Aw.mk _ rfl<|O<|Aa<|hn1 _ _ _ _ (Ai h) ⟨rfl,rfl,Ae⟩ ⟨Ah,Ae⟩ Ae
 exact Ad<|Ad<|Ad<|Ad<|Ad<|Ad<|Ad<|Ad<|Ad<|Ad<|Ag<|O<|Aa<|Bj.mk (by kernel_rfl)<|Fg<|An<|Ac<|O<|Aw.mk _ rfl<|O<|Aa<|hn1 _ _ _ _ (Ai h) ⟨rfl,rfl,Ae⟩ ⟨Ah,Ae⟩ Ae
 refine Bh<|Bg rfl ?_
 have h:=c _ (Ai h)
 exact Z<|Ac<|O<|Aa<|Ak<|A3 h
theorem Aho {a0:Cp} {a1:(List B2)} {r:Bool} (h:Pn a0 a1=some r):Bb Tryz.prog 17 [Fe a0,(A2 5 B7) a1] (Av r):=by
 unfold Pn at h
 refine Bv Tryz.func17 rfl (by kernel_rfl) (by kernel_rfl) rfl ?_
 refine Z<|Ac<|O<|O<|Aa<|Z<|Ac<|O<|O<|Aq h fun v2 f h=>As.mk _ (Arb (a0:=a0) f) rfl<|O<|A6 (s:=7) h (fun b h=>?_) fun b h=>?_
 exact Ag<|Ag<|Ag<|Aq h fun v3 c h=>As.mk _ (Arn (a0:=a0) (a1:=a1) c) rfl<|O<|O<|Aa<|Ak<|A3 h
 exact Ad<|Ad<|Ad<|O<|O<|Aa<|Ak<|A3 h
theorem Ahp {a0:(List A5)} {a1:Ao} {r:Bool} (h:Pu a0 a1=some r):Bb Tryz.prog 91 [(A2 3 Bf) a0,Ba a1] (Av r):=by
 unfold Pu at h
 refine Bv Tryz.func91 rfl (by kernel_rfl) (by kernel_rfl) rfl ?_
 refine Z<|Ac<|O<|O<|Aa<|Z<|Ac<|O<|O<|Aq h fun v2 f h=>As.mk _ (Abm (a0:=a0) f) rfl<|O<|A6 (s:=7) h (fun b h=>?_) fun b h=>?_
 exact Ag<|Ag<|Ag<|Aq h fun v3 c h=>As.mk _ (Ve (a0:=a0) (a1:=a1) (a2:=0) c) rfl<|O<|O<|Aa<|Ak<|A3 h
 exact Ad<|Ad<|Ad<|O<|O<|Aa<|Ak<|A3 h
theorem Aro {a0:(List A5)} {a1:Ao} {a2:Be} {r:Int} (h:Sc a0 a1 a2=some r):Bb Tryz.prog 100 [(A2 3 Bf) a0,Ba a1,Bw a2] ((Af .i64) r):=by
 unfold Sc at h
 refine Bv Tryz.func100 rfl (by kernel_rfl) (by kernel_rfl) rfl ?_
 refine Z<|Ac<|O<|O<|O<|Aa<|Z<|Z<|Ac<|O<|O<|O<|Aq h fun v3 f h=>As.mk _ (Ahp (a0:=a0) (a1:=a1) f) rfl<|O<|Aa<|Am h (fun b h=>?_) fun b h=>?_
 exact Z<|Ac<|O<|Aa<|Ak<|Bu h
 exact An<|Z<|Ac<|O<|O<|O<|O<|Aq h fun v4 c h=>As.mk _ (Ahm (a0:=a0) (a1:=a1) (a2:=a2) c) rfl<|O<|Aa<|Ak<|Bu h
theorem Ahq {a0:Cp} {a1:Int} {a2:Be} {r:(Int×Int×Bool)} (h:Jm a0 a1 a2=some r):Bb Tryz.prog 47 [Fe a0,(Af .i64) a1,Bw a2] (.tup [(Af .i64) r.1,(Af .i64) r.2.1,Av r.2.2]):=by
 unfold Jm at h
 refine Bv Tryz.func47 rfl (by kernel_rfl) (by kernel_rfl) rfl ?_
 refine Z<|Ac<|O<|O<|O<|O<|O<|Aa<|Z<|Ac<|O<|O<|O<|O<|Aa<|Z<|Z<|Cd h fun j u z=>Ce (fun (v4:Bool)=>v4=j) (fun v4=>[(23,(Av v4))]) (fun v4=>[]) (fun _=>rfl) ?_ ?_
 intro K1 hK1
 refine Ac<|O<|O<|O<|A6 (s:=17) u (fun b h=>?_) fun b h=>?_
 exact Ag<|Ag<|Ag<|Ag<|Ax (f:=Ba) (l:=a0.Vars) (Bq _)<|Ag<|O<|Aa<|hK1 (decide<|a1<(a0.Vars.length:Int)) _ _ _ (Ai h) ⟨rfl,Ae⟩ ⟨Ah,Ah,Ah,Ae⟩
 exact Ad<|Ad<|Ad<|Ad<|Ad<|O<|Aa<|hK1 false _ _ _ (Ai h) ⟨rfl,Ae⟩ ⟨Ah,Ah,Ah,Ae⟩
 rintro v4 X B
 have h:=z _ B
 refine Cd h fun i q y=>Ce (fun (x:(Int×Int×(List Ao)))=>x=i) (fun (g,v7,v8)=>[]) (fun (g,v7,v8)=>[(2,.cells 25 [(Af .i64 g),(Af .i64 v7),(.sl 3<|Bi v8)])]) (fun _=>rfl) ?_ ?_
 intro K2 hK2
 refine Am q (fun b h=>?_) fun b h=>?_
 exact Ac<|O<|O<|O<|O<|A7 (f:=Ba) (Bq _) h fun Y v5 i5 S h=>O<|O<|Aa<|hK2 (v5.Kind,v5.Num,v5.Args) _ _ _ (Ai h) Ae ⟨Ah,Ah,Ah,Ae⟩
 exact An<|hK2 (a0.Res.Kind,a0.Res.Num,a0.Res.Args) _ _ _ (Ai h) Ae ⟨Ah,Ah,Ah,Ae⟩
 rintro ⟨g,v7,v8⟩ V A
 have h:=y _ A
 refine Z<|Z<|Ac<|O<|O<|Aa<|Ay<|Z<|Ac<|O<|O<|Aa<|Am h (fun b h=>?_) fun b h=>?_
 exact Z<|B0<|O<|O<|O<|O<|O<|O<|O<|O<|Aa<|Bj.mk (by kernel_rfl)<|Ak<|congrArg (fun x:(Int×Int×Bool)=>(.tup [(Af .i64) x.1,(Af .i64) x.2.1,Av x.2.2]:AV))<|Ai h
 refine Z<|Ac<|O<|O<|Aa<|Am h (fun b h=>?_) fun b h=>?_
 refine Z<|Z<|Ac<|O<|O<|O<|Ax (f:=Bw) (l:=a2.Kids) (Cu _)<|O<|Aa<|Am h (fun b h=>?_) fun b h=>?_
 exact Z<|Ac<|O<|O<|O<|Aa<|Ak<|congrArg (fun x:(Int×Int×Bool)=>(.tup [(Af .i64) x.1,(Af .i64) x.2.1,Av x.2.2]:AV))<|Ai h
 refine An<|Z<|Z<|Ac<|O<|O<|O<|Ax (f:=Bw) (l:=a2.Kids) (Cu _)<|O<|Aa<|Ay<|Bn h (fun v12=>[(6,(Af .i64 0)),(7,(Af .i64 0)),(8,(Av false)),(47,(Af .i64 v12))]) (fun v12=>[]) (fun _=>True) (fun _=>rfl) ⟨rfl,rfl,rfl,rfl,Ae⟩ ⟨Ah,Ah,Ah,Ae⟩ Ae ?_
 rintro v12 U K3 L k c hn3 _
 refine Z<|Ac<|O<|Aa<|Z<|Am k (fun b h=>?_) fun b h=>?_
 refine An<|Z<|Ay<|Z<|Ac<|O<|A7 (f:=Bw) (Cu _) h fun R v13 i13 I h=>O<|O<|O<|Aa<|Z<|B0<|O<|O<|O<|O<|O<|A7 (f:=Bw) (Cu _) h fun N v15 i15 G h=>O<|O<|O<|Aa<|Bj.mk (by kernel_rfl) ?_
 refine Am h (fun b h=>?_) fun b h=>?_
 refine Z<|Ac<|O<|O<|O<|Aa<|Ak ?_
 have h:=c _ (Ai h)
 exact congrArg (fun x:(Int×Int×Bool)=>(.tup [(Af .i64) x.1,(Af .i64) x.2.1,Av x.2.2]:AV))<|Ai h
 exact An<|Ac<|O<|Aw.mk _ rfl<|O<|Aa<|hn3 _ _ _ _ (Ai h) ⟨rfl,rfl,rfl,rfl,Ae⟩ ⟨Ah,Ah,Ah,Ae⟩ Ae
 refine Bh<|Bg rfl ?_
 have h:=c _ (Ai h)
 refine Z<|Ac<|O<|O<|O<|O<|O<|Aq h fun J D h=>As.mk _ (Aro (a0:=a0.Data) (a1:=(Ao.mk g v7 v8)) (a2:=a2) D) rfl<|O<|Aa<|Z<|B0<|O<|O<|O<|A7 (f:=Bw) (Cu _) h fun M v20 i20 E h=>O<|O<|O<|O<|O<|Ax (f:=Bw) (l:=a2.Kids) (Cu _)<|O ?_
 exact O<|O<|O<|Ax (f:=Bw) (l:=a2.Kids) (Cu _)<|O<|O<|O<|O<|Aa<|Bj.mk (by kernel_rfl)<|Ak<|congrArg (fun x:(Int×Int×Bool)=>(.tup [(Af .i64) x.1,(Af .i64) x.2.1,Av x.2.2]:AV))<|Ai h
 exact An<|Z<|Ac<|O<|O<|O<|Aa<|Ak<|congrArg (fun x:(Int×Int×Bool)=>(.tup [(Af .i64) x.1,(Af .i64) x.2.1,Av x.2.2]:AV))<|Ai h
theorem Ahr {a0:Cp} {a1:(List B2)} {r:Bool} (h:Pm a0 a1=some r):Bb Tryz.prog 16 [Fe a0,(A2 5 B7) a1] (Av r):=by
 unfold Pm at h
 refine Bv Tryz.func16 rfl (by kernel_rfl) (by kernel_rfl) rfl ?_
 refine Z<|Ac<|O<|O<|Aa<|Z<|Z<|Ac<|O<|O<|O<|Aq h fun v2 B h=>As.mk _ (Aho (a0:=a0) (a1:=a1) B) rfl<|O<|Aa<|Am h (fun b h=>?_) fun b h=>?_
 exact Z<|Ac<|O<|Aa<|Ak<|A3 h
 refine An<|Z<|Z<|Ac<|O<|O<|Ax (f:=B7) (l:=a1) rfl<|O<|Aa<|Ay<|Bn h (fun c=>[(4,(Av false)),(18,(Af .i64 c))]) (fun c=>[]) (fun _=>True) (fun _=>rfl) ⟨rfl,rfl,Ae⟩ ⟨Ah,Ae⟩ Ae ?_
 rintro c E I y k g hn1 _
 refine Z<|Ac<|O<|Aa<|Z<|Am k (fun b h=>?_) fun b h=>?_
 refine An<|Z<|Ay<|Z<|Ac<|O<|A7 (f:=B7) rfl h fun A v15 i15 u h=>O<|O<|O<|Aa<|Z<|Z<|Ac<|O<|O<|O<|O<|Ax (f:=Dk) (l:=v15.Mono.Atoms) rfl<|O<|Aa<|Am h (fun b h=>?_) fun b h=>?_
 refine Z<|Ac<|O<|Aa<|Ak ?_
 have h:=g _ (Ai h)
 exact A3 h
 refine An<|Z<|Ac<|O<|O<|O<|O<|Ax (f:=C4) (l:=v15.Mono.Factors) rfl<|O<|Aa<|Ay<|Bn h (fun v20=>[(4,(Av false)),(31,(Af .i64 v20))]) (fun v20=>[]) (fun _=>True) (fun _=>rfl) ⟨rfl,rfl,Ae⟩ ⟨Ah,Ah,Ae⟩ Ae ?_
 rintro v20 D G x j i hn2 _
 refine Z<|Ac<|O<|Aa<|Z<|Am j (fun b h=>?_) fun b h=>?_
 refine An<|Z<|Ay<|Z<|Ac<|O<|A7 (f:=C4) rfl h fun z v21 i21 s h=>O<|O<|O<|Aa<|Z<|Ac<|O<|O<|O<|O<|O<|O<|Aq h fun v23 q h=>As.mk _ (Ahq (a0:=a0) (a1:=v21.Var) (a2:=v21.Index) q) rfl<|O<|O<|O ?_
 refine O<|O<|O<|O<|Aa<|Z<|Ac<|O<|O<|Aa<|Am h (fun b h=>?_) fun b h=>?_
 refine Z<|Ac<|O<|Aa<|Ak ?_
 have h:=i _ (Ai h)
 have h:=g _ (Ai h)
 exact A3 h
 exact An<|Ac<|O<|Aw.mk _ rfl<|O<|Aa<|hn2 _ _ _ _ (Ai h) ⟨rfl,rfl,Ae⟩ ⟨Ah,Ah,Ae⟩ Ae
 refine Bh<|Bg rfl ?_
 have h:=i _ (Ai h)
 exact Ac<|O<|Aw.mk _ rfl<|O<|Aa<|hn1 _ _ _ _ (Ai h) ⟨rfl,rfl,Ae⟩ ⟨Ah,Ae⟩ Ae
 refine Bh<|Bg rfl ?_
 have h:=g _ (Ai h)
 exact Z<|Ac<|O<|Aa<|Ak<|A3 h
end Go.Ab
namespace Go.Ab
open Go Go.Proofs
set_option maxRecDepth 10000
theorem Arp {a0:Cp} {a1:(List B2)} {a2:(List Da)} {r:(A1×Int)} (h:Rz a0 a1 a2=some r):Bb Tryz.prog 13 [Fe a0,(A2 5 B7) a1,(A2 3 Db) a2] (.tup [Bx r.1,(Af .i64) r.2]):=by
 unfold Rz at h
 refine C2 (C:={T:=B4,an:=(fun _=>.ask),nl:=(fun s=>bif Nat.beq s 143 then [(1,1),(2,1)] else bif Nat.beq s 83 then [(1,1),(2,1)] else bif Nat.beq s 45 then [(1,1),(2,1)] else bif Nat.beq s 30 then [(1,1),(2,1)] else [])}) B8 B5 Tryz.func13 rfl (by kernel_rfl) (by kernel_rfl) rfl ?_
 refine Z<|Ac<|O<|O<|O<|Aa<|Z<|Z<|Ac<|O<|O<|O<|Aq h fun v3 c3 h=>As.mk _ (Ahr (a0:=a0) (a1:=a1) c3) rfl<|O<|Aa<|Am h (fun b h=>?_) fun b h=>?_
 exact Z<|Ac<|O<|O<|O<|Aa<|Ak<|congrArg (fun x:(A1×Int)=>(.tup [Bx x.1,(Af .i64) x.2]:AV))<|Ai h
 refine An<|Z<|Z<|Ac<|O<|O<|Ax (f:=Db) (l:=a2) rfl<|O<|Aa<|Ay<|Bn h (fun V=>[(7,(Af .i64 0)),(33,(Af .i64 V))]) (fun V=>[]) (fun _=>True) (fun _=>rfl) ⟨rfl,rfl,Ae⟩ ⟨Ah,Ah,Ae⟩ Ae ?_
 rintro V u1 K1 b3 ad D hn1 _
 refine Z<|Ac<|O<|Aa<|Z<|Am ad (fun b h=>?_) fun b h=>?_
 refine An<|Z<|Ay<|Z<|Ac<|O<|A7 (f:=Db) rfl h fun n7 v7 i7 x7 h=>O<|O<|O<|Aa<|Z<|Ac<|O<|O<|O<|O<|A6 (s:=40) h (fun b h=>?_) fun b h=>?_
 refine Ad<|Ad<|Ad<|O<|Aa<|Dd<|Z<|Ac<|O<|O<|O<|Aa<|Ak ?_
 have h:=D _ (Ai h)
 exact congrArg (fun x:(A1×Int)=>(.tup [Bx x.1,(Af .i64) x.2]:AV))<|Ai h
 refine Ag<|Ag<|Ag<|O<|Aa<|Am h (fun b h=>?_) fun b h=>?_
 refine Z<|Ac<|O<|O<|O<|Aa<|Ak ?_
 have h:=D _ (Ai h)
 exact congrArg (fun x:(A1×Int)=>(.tup [Bx x.1,(Af .i64) x.2]:AV))<|Ai h
 exact An<|Ac<|O<|Aw.mk _ rfl<|O<|Aa<|hn1 _ _ _ _ (Ai h) ⟨rfl,rfl,Ae⟩ ⟨Ah,Ah,Ae⟩ Ae
 refine Bh<|Bg rfl ?_
 have h:=D _ (Ai h)
 refine Z<|Z<|Ac<|O<|O<|Ax (f:=Db) (l:=a2) rfl<|O<|Aa<|Ay<|Bn h (fun v24=>[(7,(Af .i64 0)),(49,(Af .i64 v24))]) (fun v24=>[]) (fun _=>True) (fun _=>rfl) ⟨rfl,rfl,Ae⟩ ⟨Ah,Ah,Ae⟩ Ae ?_
 rintro v24 u2 K2 b0 ac L hn2 _
 refine Z<|Ac<|O<|Aa<|Z<|Am ac (fun b h=>?_) fun b h=>?_
 refine An<|Z<|Ay<|Z<|Ac<|O<|O<|Aa<|Z<|Ac<|O<|O<|O<|Mk (f:=Db) rfl h fun v25 h=>O<|Ax (f:=Db) (l:=v25) rfl<|O<|Aa<|Ay<|Bn h (fun B=>[(7,(Af .i64 0)),(56,(Af .i64 B))]) (fun B=>[]) (fun _=>True) (fun _=>rfl) ⟨rfl,rfl,Ae⟩ ⟨Ah,Ah,Ae⟩ Ae ?_
 rintro B u3 K3 az ab J hn3 _
 refine Z<|Ac<|O<|Aa<|Z<|Am ab (fun b h=>?_) fun b h=>?_
 refine An<|Z<|Ay<|Z<|Ac<|O<|O<|Aa<|Z<|B0<|O<|O<|O<|A7 (f:=Db) rfl h fun b7 v31 i31 aq h=>O<|O<|O<|O<|O<|A7 (f:=Db) rfl h fun b6 av i32 ap h=>O<|O<|O<|O ?_
 refine A6 (s:=70) h (fun b h=>?_) fun b h=>?_
 refine Ag<|Ag<|Ag<|A7 (f:=Db) rfl h fun b5 au i33 ao h=>Ag<|Ag<|Ag<|Ag<|Ag<|A7 (f:=Db) rfl h fun b4 ar i34 am h=>Ag<|Ag<|Ag<|O<|Aa<|Bj.mk (by kernel_rfl)<|Am h (fun b h=>?_) fun b h=>?_
 refine Z<|Ac<|O<|O<|O<|Aa<|Ak ?_
 have h:=J _ (Ai h)
 have h:=L _ (Ai h)
 exact congrArg (fun x:(A1×Int)=>(.tup [Bx x.1,(Af .i64) x.2]:AV))<|Ai h
 exact An<|Ac<|O<|Aw.mk _ rfl<|O<|Aa<|hn3 _ _ _ _ (Ai h) ⟨rfl,rfl,Ae⟩ ⟨Ah,Ah,Ae⟩ Ae
 exact Ad<|Ad<|Ad<|Ad<|Ad<|Ad<|Ad<|Ad<|Ad<|Ad<|Ad<|O<|Aa<|Bj.mk (by kernel_rfl)<|Fg<|An<|Ac<|O<|Aw.mk _ rfl<|O<|Aa<|hn3 _ _ _ _ (Ai h) ⟨rfl,rfl,Ae⟩ ⟨Ah,Ah,Ae⟩ Ae
 refine Bh<|Bg rfl ?_
 have h:=J _ (Ai h)
 exact Ac<|O<|Aw.mk _ rfl<|O<|Aa<|hn2 _ _ _ _ (Ai h) ⟨rfl,rfl,Ae⟩ ⟨Ah,Ah,Ae⟩ Ae
 refine Bh<|Bg rfl ?_
 have h:=L _ (Ai h)
 refine Z<|Ac<|O<|Aq h fun v40 ag h=>As.mk _ (Jt (a0:=0) ag) rfl<|O<|O<|Aa<|Z<|Z<|Ac<|O<|O<|Ax (f:=B7) (l:=a1) rfl<|O<|Aa<|Ay<|Bn h (fun (u,v107,k,v109)=>[(7,(Af .i64 0)),(89,(Af .i64 u))]) (fun (u,v107,k,v109)=>[(2,.cells 41 [(Av v107),(.sl 1<|List.map (Af .u32) k),(.sl 1<|List.map (Af .u32) v109)])]) (fun _=>True) (fun _=>rfl) ⟨rfl,rfl,Ae⟩ ⟨Ah,Ah,Ah,Ae⟩ Ae ?_
 rintro ⟨u,v107,k,v109⟩ u4 K4 ay aa I hn4 _
 refine Z<|Ac<|O<|Aa<|Z<|Am aa (fun b h=>?_) fun b h=>?_
 refine An<|Z<|Ay<|Z<|Ac<|O<|A7 (f:=B7) rfl h fun n110 E i110 aj h=>O<|O<|O<|Aa<|Z<|Ac<|O<|O<|O<|O<|Aa<|Z<|Z<|Ac<|O<|O<|O ?_
 refine O<|Ax (f:=C4) (l:=E.Mono.Factors) rfl<|O<|Aa<|Ay<|Bn h (fun (v138,v139,j,v141)=>[(7,(Af .i64 0)),(99,(Af .i64 v138))]) (fun (v138,v139,j,v141)=>[(4,.cells 41 [(Av v139),(.sl 1<|List.map (Af .u32) j),(.sl 1<|List.map (Af .u32) v141)])]) (fun _=>True) (fun _=>rfl) ⟨rfl,rfl,Ae⟩ ⟨Ah,Ah,Ah,Ah,Ah,Ae⟩ Ae ?_
 rintro ⟨v138,v139,j,v141⟩ u5 K5 ax a8 G hn5 _
 refine Z<|Ac<|O<|Aa<|Z<|Am a8 (fun b h=>?_) fun b h=>?_
 refine An<|Z<|Ay<|Z<|Ac<|O<|A7 (f:=C4) rfl h fun n142 A i142 ai h=>O<|O<|O<|Aa<|Z<|Ac<|O<|O<|O<|O<|O<|O<|Aq h fun z U h=>As.mk _ (Ahq (a0:=a0) (a1:=A.Var) (a2:=A.Index) U) rfl<|O<|O<|O ?_
 refine O<|O<|O<|O<|Aa<|Z<|Ac<|O<|Aa<|Z<|Z<|Ac<|O<|O<|Ax (f:=Db) (l:=a2) rfl<|O<|Aa<|Ay<|Bn h (fun (q,v152,i,v154,g)=>[(21,(Av q)),(115,(Af .i64 v152))]) (fun (q,v152,i,v154,g)=>[(4,.cells 41 [(Av i),(.sl 1<|List.map (Af .u32) v154),(.sl 1<|List.map (Af .u32) g)])]) (fun _=>True) (fun _=>rfl) ⟨rfl,rfl,Ae⟩ ⟨Ah,Ah,Ah,Ah,Ah,Ah,Ae⟩ Ae ?_
 rintro ⟨q,v152,i,v154,g⟩ u6 K6 aw a7 Y hn6 _
 refine Z<|Ac<|O<|Aa<|Z<|Am a7 (fun b h=>?_) fun b h=>?_
 refine An<|Z<|Ay<|Z<|Ac<|O<|A7 (f:=Db) rfl h fun n156 y i156 ah h=>O<|O<|O<|Aa<|Z<|Cd h fun X a6 ae=>Ce (fun (c:Bool)=>c=X) (fun c=>[(129,(Av c))]) (fun c=>[]) (fun _=>rfl) ?_ ?_
 intro K7 hK7
 refine Ac<|O<|O<|O<|O<|O<|O<|A6 (s:=124) a6 (fun b h=>?_) fun b h=>?_
 exact Ag<|Ag<|Ag<|Ag<|O<|Aa<|hK7 (y.Con==z.1) _ _ _ (Ai h) ⟨rfl,Ae⟩ ⟨Ah,Ah,Ah,Ah,Ah,Ah,Ah,Ae⟩
 exact Ad<|Ad<|Ad<|Ad<|O<|Aa<|hK7 false _ _ _ (Ai h) ⟨rfl,Ae⟩ ⟨Ah,Ah,Ah,Ah,Ah,Ah,Ah,Ae⟩
 rintro c u7 af
 have h:=ae _ af
 refine Am h (fun b h=>?_) fun b h=>?_
 refine Z<|Ac<|O<|O<|O<|O<|Aq h fun v159 S h=>As.mk _ (Aq7 (a0:=y.N) (a1:=z.2.1) S) rfl<|O<|O<|O<|O<|O<|O<|Aa<|Ac<|O<|O<|O<|Aq h fun ak R h=>As.mk _ (Ag4 (a0:=(A1.mk i v154 g)) (a1:=v159.1) R) rfl<|O<|O<|Aa ?_
 exact Ac<|O<|Aw.mk _ rfl<|O<|Aa<|hn6 _ _ _ _ (Ai h) ⟨rfl,rfl,Ae⟩ ⟨Ah,Ah,Ah,Ah,Ah,Ah,Ae⟩ Ae
 exact An<|Ac<|O<|Aw.mk _ rfl<|O<|Aa<|hn6 _ _ _ _ (Ai h) ⟨rfl,rfl,Ae⟩ ⟨Ah,Ah,Ah,Ah,Ah,Ah,Ae⟩ Ae
 refine Bh<|Bg rfl ?_
 have h:=Y _ (Ai h)
 refine Z<|Ac<|O<|O<|Aa<|Am h (fun b h=>?_) fun b h=>?_
 refine Z<|Ac<|O<|O<|O<|Aa<|Ak ?_
 have h:=G _ (Ai h)
 have h:=I _ (Ai h)
 exact congrArg (fun x:(A1×Int)=>(.tup [Bx x.1,(Af .i64) x.2]:AV))<|Ai h
 exact An<|Ac<|O<|Aw.mk _ rfl<|O<|Aa<|hn5 _ _ _ _ (Ai h) ⟨rfl,rfl,Ae⟩ ⟨Ah,Ah,Ah,Ah,Ah,Ae⟩ Ae
 refine Bh<|Bg rfl ?_
 have h:=G _ (Ai h)
 exact Ac<|O<|O<|O<|Aq h fun v173 M h=>As.mk _ (Ag1 (a0:=(A1.mk v107 k v109)) (a1:=(A1.mk v139 j v141)) M) rfl<|O<|Aa<|Ac<|O<|Aw.mk _ rfl<|O<|Aa<|hn4 _ _ _ _ (Ai h) ⟨rfl,rfl,Ae⟩ ⟨Ah,Ah,Ah,Ae⟩ Ae
 refine Bh<|Bg rfl ?_
 have h:=I _ (Ai h)
 exact Z<|Ac<|O<|O<|O<|Aa<|Ak<|congrArg (fun x:(A1×Int)=>(.tup [Bx x.1,(Af .i64) x.2]:AV))<|Ai h
theorem Ahs:∀k:Nat,(∀(a0:Bl) (b0:Int) (r:(Bool×Int)),I6 k a0 b0=some r->Cm Tryz.prog 89 [Cj a0,(.loc 0 0)] [.cells 3 [(Af .i64 b0)]] (Av r.1) [.cells 3 [(Af .i64 r.2)]])
 | 0=>(fun _ _ _ h=>by simp only [I6] at h; cases h)
 | k+1=>by
  have ih:=Ahs k
  have c:∀{a0:Bl} {b0:Int} {r:(Bool×Int)},I6 k a0 b0=some r->Cm Tryz.prog 89 [Cj a0,(.loc 0 0)] [.cells 3 [(Af .i64 b0)]] (Av r.1) [.cells 3 [(Af .i64 r.2)]]:=fun h=>ih _ _ _ h
  intro a0 b0 r h
  unfold I6 at h
  refine D0 (C:={T:=B4,an:=(fun _=>.ask)}) true B8 B5 Tryz.func89 rfl (by kernel_rfl) (by kernel_rfl) rfl ?_
  refine Z<|Ac<|O<|O<|Aa<|Z<|Ac<|O<|O<|O<|O<|Aw.mk _ rfl<|O<|O<|Aa<|Z<|Z<|Ac<|O<|O<|O<|O<|Aa<|Am h (fun b h=>?_) fun b h=>?_
  refine Z<|Ac<|O<|Aa<|Ak ?_
  cases h
  exact ⟨rfl,rfl,Ae⟩
  refine An<|Z<|Z<|Ac<|O<|Aa<|Ay<|Bn h (fun (v4,v5)=>[(4,(Av false)),(5,(Af .i64 v4))]) (fun (v4,v5)=>[(0,.cells 3 [(Af .i64 v5)])]) (fun _=>True) (fun _=>rfl) ⟨rfl,rfl,Ae⟩ ⟨Ah,Ah,Ae⟩ Ae ?_
  rintro ⟨v4,v5⟩ x z q i g hn1 _
  refine Z<|Z<|Ac<|O<|O<|O<|O<|Ax (f:=Cj) (l:=a0.Kids) (Dn _)<|O<|Aa<|Am i (fun b h=>?_) fun b h=>?_
  refine An<|Z<|Ay<|Z<|Ac<|O<|O<|O<|O<|A7 (f:=Cj) (Dn _) h fun y j i6 u h=>O<|O<|O<|Aq h fun v7 s h=>As.act [0] _ _ _ _ (c (a0:=j) (b0:=v5) s) rfl rfl ⟨rfl,Ae⟩<|O<|Aa<|Am h (fun b h=>?_) fun b h=>?_
  refine Z<|Ac<|O<|Aa<|Ak ?_
  have h:=g _ (Ai h)
  cases h
  exact ⟨rfl,rfl,Ae⟩
  exact An<|Ac<|O<|O<|Aw.mk _ rfl<|O<|Aa<|hn1 _ _ _ _ (Ai h) ⟨rfl,rfl,Ae⟩ ⟨Ah,Ah,Ae⟩ Ae
  refine Bh<|Bg rfl ?_
  have h:=g _ (Ai h)
  refine Z<|Ac<|O<|Aa<|Ak ?_
  cases h
  exact ⟨rfl,rfl,Ae⟩
theorem Arq {k:Nat} {a0:Bl} {b0:Int} {r:(Bool×Int)} (h:I6 k a0 b0=some r):Cm Tryz.prog 89 [Cj a0,(.loc 0 0)] [.cells 3 [(Af .i64 b0)]] (Av r.1) [.cells 3 [(Af .i64 r.2)]]:=(Ahs k) _ _ _ h
theorem Arr {a0:(List A5)} {a1:Ao} {a2:Int} {r:((List Ao)×Bool)} (h:Uw a0 a1 a2=some r):Bb Tryz.prog 155 [(A2 3 Bf) a0,Ba a1,(Af .i64) a2] (.tup [(Ck 3 Bi) r.1,Av r.2]):=by
 unfold Uw at h
 refine C2 (C:={T:=B4,an:=(fun s=>bif Nat.beq s 8 then .own else .ask),nl:=(fun s=>bif Nat.beq s 8 then [(0,3)] else bif Nat.beq s 6 then [(0,3)] else [])}) B8 B5 Tryz.func155 rfl (by kernel_rfl) (by kernel_rfl) rfl ?_
 refine Z<|Ac<|O<|O<|O<|Aa<|Z<|Z<|Cd h fun j q u=>Ce (fun (v4:Bool)=>v4=j) (fun v4=>[(53,(Av v4))]) (fun v4=>[]) (fun _=>rfl) ?_ ?_
 intro K1 hK1
 refine B0<|O<|O<|O<|O<|A6 (s:=15) q (fun b h=>?_) fun b h=>?_
 refine Ad<|Ad<|Ad<|O<|O<|Ad<|Ad<|Ad<|Ad<|Ad<|O<|O<|Ad<|Ad<|Ad<|Ad<|Ad<|Ad<|Ad<|Ad<|Ad<|Ad<|O<|O ?_
 exact Ad<|Ad<|O<|O<|Ad<|Ad<|Ad<|Ad<|Ad<|Ad<|Ad<|Ad<|Ad<|O<|Aa<|Bj.mk (by kernel_rfl)<|hK1 true _ _ _ (Ai h) ⟨rfl,Ae⟩ ⟨Ah,Ae⟩
 refine Ag<|Ag<|Ag<|O<|O<|A6 (s:=20) h (fun b h=>?_) fun b h=>?_
 refine Ad<|Ad<|Ad<|Ad<|Ad<|O<|O<|Ad<|Ad<|Ad<|Ad<|Ad<|Ad<|Ad<|Ad<|Ad<|Ad<|O<|O<|Ad<|Ad<|O<|O<|Ad ?_
 exact Ad<|Ad<|Ad<|Ad<|Ad<|Ad<|Ad<|Ad<|O<|Aa<|Bj.mk (by kernel_rfl)<|hK1 true _ _ _ (Ai h) ⟨rfl,Ae⟩ ⟨Ah,Ae⟩
 refine Ag<|Ag<|Ag<|Ag<|Ax (f:=Bf) (l:=a0) rfl<|Ag<|O<|O<|A6 (s:=27) h (fun b h=>?_) fun b h=>?_
 refine Ad<|Ad<|Ad<|Ad<|Ad<|Ad<|Ad<|Ad<|Ad<|Ad<|O<|O<|Ad<|Ad<|O<|O<|Ad<|Ad<|Ad<|Ad<|Ad<|Ad<|Ad<|Ad ?_
 exact Ad<|O<|Aa<|Bj.mk (by kernel_rfl)<|hK1 true _ _ _ (Ai h) ⟨rfl,Ae⟩ ⟨Ah,Ae⟩
 refine Ag<|Ag<|Ag<|Ax (f:=Ba) (l:=a1.Args) (Bq _)<|Ag<|Ag<|Ag<|Ag<|A7 (f:=Bf) rfl h fun Y v2 i2 M h=>Ag<|Ag<|Ag<|O<|O<|A6 (s:=39) h (fun b h=>?_) fun b h=>?_
 exact Ad<|Ad<|O<|O<|Ad<|Ad<|Ad<|Ad<|Ad<|Ad<|Ad<|Ad<|Ad<|O<|Aa<|Bj.mk (by kernel_rfl)<|hK1 true _ _ _ (Ai h) ⟨rfl,Ae⟩ ⟨Ah,Ae⟩
 refine Ag<|Ag<|O<|O<|A6 (s:=43) h (fun b h=>?_) fun b h=>?_
 exact Ad<|Ad<|Ad<|Ad<|Ad<|Ad<|Ad<|Ad<|Ad<|O<|Aa<|Bj.mk (by kernel_rfl)<|hK1 true _ _ _ (Ai h) ⟨rfl,Ae⟩ ⟨Ah,Ae⟩
 exact Ag<|Ag<|Ag<|Ag<|Ag<|A7 (f:=Bf) rfl h fun X v3 i3 L h=>Ag<|Ag<|Ag<|Ax (f:=Ej) (l:=v3.Cons) rfl<|Ag<|O<|Aa<|Bj.mk (by kernel_rfl)<|hK1 (decide<|a2>=(v3.Cons.length:Int)) _ _ _ (Ai h) ⟨rfl,Ae⟩ ⟨Ah,Ae⟩
 rintro v4 S y
 have h:=u _ y
 refine Am h (fun b h=>?_) fun b h=>?_
 exact Z<|Ac<|O<|O<|Aa<|Ak<|congrArg (fun x:((List Ao)×Bool)=>(.tup [(Ck 3 Bi) x.1,Av x.2]:AV))<|Ai h
 refine An<|Z<|Ac<|O<|Aa<|Z<|Z<|Ac<|O<|O<|O<|O<|A7 (f:=Bf) rfl h fun V N i6 J h=>O<|O<|O<|O<|A7 (f:=Ej) rfl h fun U v7 i7 I h=>O<|O<|O<|Ax (f:=Ba) (l:=v7.Args) (Bq _)<|O<|Aa ?_
 refine Ay<|Bn h (fun (v22,c)=>[(6,(.sl 3<|Bi [])),(7,(Av false)),(8,(.arr 1 c.length 0 c.length)),(65,(Af .i64 v22))]) (fun (v22,c)=>[(1,.rows 25 3 (Bi c))]) (fun _=>True) (fun _=>rfl) ⟨rfl,rfl,rfl,rfl,Ae⟩ ⟨Ah,Ah,Ae⟩ Ae ?_
 rintro ⟨v22,c⟩ R K2 D k i hn2 _
 refine Z<|Ac<|O<|Aa<|Z<|Am k (fun b h=>?_) fun b h=>?_
 refine An<|Z<|Ay<|Z<|Ac<|O<|A7 (f:=Ba) (Bq _) h fun G v24 i24 B h=>O<|O<|O<|Aa<|Z<|Ac<|O<|O<|O<|O<|Aq h fun v26 A h=>As.mk _ (Ahj (a0:=v24) (a1:=a1.Args) A) rfl<|O<|O<|Aa<|Z<|Z ?_
 refine Ac<|O<|O<|Aq h fun v28 z h=>As.mk _ (Abj (a0:=v26) z) rfl<|O<|Aa<|Am h (fun b h=>?_) fun b h=>?_
 refine Z<|Ac<|O<|O<|Aa<|Ak ?_
 have h:=i _ (Ai h)
 exact congrArg (fun x:((List Ao)×Bool)=>(.tup [(Ck 3 Bi) x.1,Av x.2]:AV))<|Ai h
 exact An<|Ac<|O<|O<|O<|O<|H4 (g:=Bi) Bq (f:=Ba) (l:=c) (ys:=[v26]) (Bq _) rfl rfl rfl h fun E h=>O<|Aa<|Ac<|O<|Aw.mk _ rfl<|O<|Aa<|hn2 _ _ _ _ (Ai h) ⟨rfl,rfl,rfl,rfl,Ae⟩ ⟨Ah,Ah,Ae⟩ Ae
 refine Bh<|Bg rfl ?_
 have h:=i _ (Ai h)
 exact Z<|Ac<|O<|O<|O<|Aa<|Ak<|Bz (f:=Ba) (l:=c) (Bq _) rfl<|Bz (f:=Ba) (l:=c) (Bq _) rfl<|congrArg (fun x:((List Ao)×Bool)=>(.tup [(Ck 3 Bi) x.1,Av x.2]:AV))<|Ai h
end Go.Ab
namespace Go.Ab
open Go Go.Proofs
set_option maxRecDepth 10000
theorem Aht:∀k:Nat,(∀(a0:(List A5)) (a1:(List Bl)) (a2:(List Ao)) (r:Bool),Mr k a0 a1 a2=some r->Bb Tryz.prog 154 [(A2 3 Bf) a0,(Ck 3 Dv) a1,(Ck 3 Bi) a2] (Av r))/\(∀(a0:(List A5)) (a1:Bl) (a2:Ao) (r:Bool),I7 k a0 a1 a2=some r->Bb Tryz.prog 90 [(A2 3 Bf) a0,Cj a1,Ba a2] (Av r))
 | 0=>⟨(fun _ _ _ _ h=>by simp only [Mr] at h; cases h),(fun _ _ _ _ h=>by simp only [I7] at h; cases h)⟩
 | k+1=>by
  have ih:=Aht k
  have g:∀{a0:(List A5)} {a1:(List Bl)} {a2:(List Ao)} {r:Bool},Mr k a0 a1 a2=some r->Bb Tryz.prog 154 [(A2 3 Bf) a0,(Ck 3 Dv) a1,(Ck 3 Bi) a2] (Av r):=fun h=>ih.1 _ _ _ _ h
  have c:∀{a0:(List A5)} {a1:Bl} {a2:Ao} {r:Bool},I7 k a0 a1 a2=some r->Bb Tryz.prog 90 [(A2 3 Bf) a0,Cj a1,Ba a2] (Av r):=fun h=>ih.2 _ _ _ _ h
  refine ⟨?_,?_⟩
  .intro a0 a1 a2 r h
   unfold Mr at h
   refine Bv Tryz.func154 rfl (by kernel_rfl) (by kernel_rfl) rfl ?_
   refine Z<|Ac<|O<|Aa<|Z<|Z<|Ac<|O<|O<|Ax (f:=Cj) (l:=a1) (Dn _)<|O<|O<|Ax (f:=Ba) (l:=a2) (Bq _)<|O<|Aa<|Am h (fun b h=>?_) fun b h=>?_
   exact Z<|Ac<|O<|Aa<|Ak<|A3 h
   refine An<|Z<|Z<|Ac<|O<|Aa<|Ay<|Bn h (fun v4=>[(6,(Av false)),(7,(Af .i64 v4))]) (fun v4=>[]) (fun _=>True) (fun _=>rfl) ⟨rfl,rfl,Ae⟩ Ae Ae ?_
   rintro v4 V K1 j i u hn1 _
   refine Z<|Z<|Ac<|O<|O<|O<|Ax (f:=Cj) (l:=a1) (Dn _)<|O<|Aa<|Am i (fun b h=>?_) fun b h=>?_
   refine An<|Z<|Ay<|Z<|B0<|O<|O<|O<|O<|A7 (f:=Cj) (Dn _) h fun n5 v5 i5 x5 h=>O<|O<|O<|O<|A7 (f:=Ba) (Bq _) h fun n6 R i6 x6 h=>O<|O<|Aq h fun v7 c7 h=>As.mk _ (c (a0:=a0) (a1:=v5) (a2:=R) c7) rfl<|O<|Aa<|Bj.mk (by kernel_rfl)<|Am h (fun b h=>?_) fun b h=>?_
   refine Z<|Ac<|O<|Aa<|Ak ?_
   have h:=u _ (Ai h)
   exact A3 h
   exact An<|Ac<|O<|O<|Aw.mk _ rfl<|O<|Aa<|hn1 _ _ _ _ (Ai h) ⟨rfl,rfl,Ae⟩ Ae Ae
   refine Bh<|Bg rfl ?_
   have h:=u _ (Ai h)
   exact Z<|Ac<|O<|Aa<|Ak<|A3 h
  .intro a0 a1 a2 r h
   unfold I7 at h
   refine Bv Tryz.func90 rfl (by kernel_rfl) (by kernel_rfl) rfl ?_
   refine Z<|Ac<|O<|O<|O<|Aa<|Z<|Ac<|O<|O<|O<|Ax (f:=Cj) (l:=a1.Kids) (Dn _)<|O<|Aa<|Z<|Z<|Ac<|O<|O<|Aa<|Ay<|Z<|Ac<|O ?_
   refine O<|Aa<|Am h (fun b h=>?_) fun b h=>?_
   refine Z<|Ac<|O<|O<|O<|O<|A6 (s:=21) h (fun b h=>?_) fun b h=>?_
   refine Ag<|Ag<|Ag<|O<|O<|A6 (s:=26) h (fun b h=>?_) fun b h=>?_
   exact Ag<|Ag<|O<|O<|Aa<|Ak<|A3 h
   exact Ad<|Ad<|O<|O<|Aa<|Ak<|A3 h
   exact Ad<|Ad<|Ad<|O<|O<|Ad<|Ad<|O<|O<|Aa<|Ak<|A3 h
   refine Z<|Ac<|O<|O<|Aa<|Am h (fun b h=>?_) fun b h=>?_
   refine Z<|Ac<|O<|O<|O<|O<|A6 (s:=35) h (fun b h=>?_) fun b h=>?_
   refine Ag<|Ag<|Ag<|Ag<|A6 (s:=39) h (fun b h=>?_) fun b h=>?_
   exact Ad<|Ad<|Ad<|Ag<|O<|O<|Ag<|Ag<|O<|O<|Aa<|Ak<|A3 h
   refine Ag<|Ag<|Ag<|Ag<|O<|O<|A6 (s:=45) h (fun b h=>?_) fun b h=>?_
   exact Ag<|Ag<|O<|O<|Aa<|Ak<|A3 h
   exact Ad<|Ad<|O<|O<|Aa<|Ak<|A3 h
   exact Ad<|Ad<|Ad<|Ad<|A9 (7,false) 39 undef<|A9 (7,false) 39 undef<|A9 (7,false) 39 undef<|Ad<|O<|O<|Ad<|Ad<|O<|O<|Aa<|Ak<|A3 h
   refine Z<|Ac<|O<|O<|Aa<|Am h (fun b h=>?_) fun b h=>?_
   refine Z<|Ac<|O<|O<|O<|O<|A6 (s:=54) h (fun b h=>?_) fun b h=>?_
   refine Ag<|Ag<|Ag<|O<|O<|A6 (s:=59) h (fun b h=>?_) fun b h=>?_
   refine Ag<|Ag<|Ag<|O<|O<|A6 (s:=64) h (fun b h=>?_) fun b h=>?_
   exact Ag<|Ag<|O<|O<|Aa<|Ak<|A3 h
   exact Ad<|Ad<|O<|O<|Aa<|Ak<|A3 h
   exact Ad<|Ad<|Ad<|O<|O<|Ad<|Ad<|O<|O<|Aa<|Ak<|A3 h
   exact Ad<|Ad<|Ad<|O<|O<|Ad<|Ad<|Ad<|O<|O<|Ad<|Ad<|O<|O<|Aa<|Ak<|A3 h
   refine Z<|Ac<|O<|O<|Aa<|Am h (fun b h=>?_) fun b h=>?_
   refine Z<|Ac<|O<|O<|O<|O<|A6 (s:=73) h (fun b h=>?_) fun b h=>?_
   refine Ag<|Ag<|Ag<|O<|O<|A6 (s:=78) h (fun b h=>?_) fun b h=>?_
   exact Ag<|Ag<|Ag<|Ag<|Ag<|Ag<|Aq h fun v3 c3 h=>As.mk _ (g (a0:=a0) (a1:=a1.Kids) (a2:=a2.Args) c3) rfl<|O<|O<|Aa<|Ak<|A3 h
   exact Ad<|Ad<|Ad<|Ad<|Ad<|Ad<|O<|O<|Aa<|Ak<|A3 h
   exact Ad<|Ad<|Ad<|O<|O<|Ad<|Ad<|Ad<|Ad<|Ad<|Ad<|O<|O<|Aa<|Ak<|A3 h
   refine Z<|Ac<|O<|O<|Aa<|Am h (fun b h=>?_) fun b h=>?_
   refine Z<|Z<|Cd h fun j i I=>Ce (fun (v4:Bool)=>v4=j) (fun v4=>[(100,(Av v4))]) (fun v4=>[]) (fun _=>rfl) ?_ ?_
   intro K1 hK1
   refine Ac<|O<|O<|O<|O<|A6 (s:=91) i (fun b h=>?_) fun b h=>?_
   exact Ad<|Ad<|Ad<|O<|O<|Ad<|Ad<|Ad<|O<|Aa<|hK1 true _ _ _ (Ai h) ⟨rfl,Ae⟩ ⟨Ah,Ah,Ae⟩
   refine Ag<|Ag<|Ag<|O<|O<|A6 (s:=96) h (fun b h=>?_) fun b h=>?_
   exact Ad<|Ad<|Ad<|O<|Aa<|hK1 true _ _ _ (Ai h) ⟨rfl,Ae⟩ ⟨Ah,Ah,Ae⟩
   exact Ag<|Ag<|Ag<|O<|Aa<|hK1 (decide<|a1.Num>=(8:Int)) _ _ _ (Ai h) ⟨rfl,Ae⟩ ⟨Ah,Ah,Ae⟩
   rintro v4 V M
   have h:=I _ M
   refine Am h (fun b h=>?_) fun b h=>?_
   exact Z<|Ac<|O<|Aa<|Ak<|A3 h
   refine An<|Z<|Ac<|O<|O<|O<|O<|O<|Aq h fun v5 c5 h=>As.mk _ (Arr (a0:=a0) (a1:=a2) (a2:=a1.Num) c5) rfl<|O<|O<|O<|O<|O<|Aa<|Z<|Ac<|O<|O<|A6 (s:=110) h (fun b h=>?_) fun b h=>?_
   exact Ag<|Ag<|Ag<|Ag<|Ag<|Aq h fun R c6 h=>As.mk _ (g (a0:=a0) (a1:=a1.Kids) (a2:=v5.1) c6) rfl<|O<|O<|Aa<|Ak<|A3 h
   exact Ad<|Ad<|Ad<|Ad<|Ad<|O<|O<|Aa<|Ak<|A3 h
   refine Z<|Z<|Ac<|O<|O<|Aa<|Cd h fun z D G=>Ce (fun (v7:Bool)=>v7=z) (fun v7=>[(117,(Av v7))]) (fun v7=>[]) (fun _=>rfl) ?_ ?_
   intro K2 hK2
   refine Am D (fun b h=>?_) fun b h=>?_
   exact An<|hK2 (a2.Kind==(7:Int)) _ _ _ (Ai h) ⟨rfl,Ae⟩ ⟨Ah,Ah,Ae⟩
   exact Ac<|O<|O<|Aa<|hK2 (a2.Kind==(8:Int)) _ _ _ (Ai h) ⟨rfl,Ae⟩ ⟨Ah,Ah,Ae⟩
   rintro v7 u2 L
   have h:=G _ L
   refine Am h (fun b h=>?_) fun b h=>?_
   refine Z<|Z<|Cd h fun y B E=>Ce (fun (v8:Bool)=>v8=y) (fun v8=>[(150,(Av v8))]) (fun v8=>[]) (fun _=>rfl) ?_ ?_
   intro K3 hK3
   refine Ac<|O<|O<|O<|O<|A6 (s:=123) B (fun b h=>?_) fun b h=>?_
   refine Ag<|Ag<|Ag<|Ag<|A6 (s:=127) h (fun b h=>?_) fun b h=>?_
   exact Ad<|Ad<|Ag<|O<|O<|Ad<|Ad<|Ad<|Ad<|A9 (16,true) 136 undef<|A9 (16,true) 136 undef<|A9 (16,true) 136 undef<|A9 (16,true) 136 undef<|A9 (20,false) 140 undef<|A9 (20,false) 140 undef<|A9 (16,true) 136 undef<|Ad<|O<|O<|Ad<|Ad<|Ad<|O<|Aa<|hK3 true _ _ _ (Ai h) ⟨rfl,Ae⟩ ⟨Ah,Ah,Ae⟩
   refine Ag<|Ag<|Ag<|O<|O<|A6 (s:=132) h (fun b h=>?_) fun b h=>?_
   exact Ad<|Ad<|Ad<|Ad<|A9 (16,true) 136 undef<|A9 (16,true) 136 undef<|A9 (16,true) 136 undef<|A9 (16,true) 136 undef<|A9 (20,false) 140 undef<|A9 (20,false) 140 undef<|A9 (16,true) 136 undef<|Ad<|O<|O<|Ad<|Ad<|Ad<|O<|Aa<|hK3 true _ _ _ (Ai h) ⟨rfl,Ae⟩ ⟨Ah,Ah,Ae⟩
   refine Ag<|Ag<|Ag<|Ag<|A6 (s:=136) h (fun b h=>?_) fun b h=>?_
   refine Ag<|Ag<|Ag<|Ag<|A6 (s:=140) h (fun b h=>?_) fun b h=>?_
   exact Ad<|Ad<|Ag<|Ag<|O<|O<|Ad<|Ad<|Ad<|O<|Aa<|hK3 true _ _ _ (Ai h) ⟨rfl,Ae⟩ ⟨Ah,Ah,Ae⟩
   refine Ag<|Ag<|Ag<|Ag<|O<|O<|A6 (s:=146) h (fun b h=>?_) fun b h=>?_
   exact Ad<|Ad<|Ad<|O<|Aa<|hK3 true _ _ _ (Ai h) ⟨rfl,Ae⟩ ⟨Ah,Ah,Ae⟩
   exact Ag<|Ag<|Ag<|O<|Aa<|hK3 (a1.Num != (0:Int)) _ _ _ (Ai h) ⟨rfl,Ae⟩ ⟨Ah,Ah,Ae⟩
   exact Ad<|Ad<|Ad<|Ad<|A9 (20,false) 140 undef<|A9 (20,false) 140 undef<|Ad<|Ag<|O<|O<|Ag<|Ag<|Ag<|O<|Aa<|hK3 (a1.Num != (0:Int)) _ _ _ (Ai h) ⟨rfl,Ae⟩ ⟨Ah,Ah,Ae⟩
   refine Ad<|Ad<|Ad<|Ad<|A9 (7,false) 127 undef<|A9 (7,false) 127 undef<|Ad<|O<|O<|Ag<|Ag<|Ag<|Ag<|A6 (s:=136) h (fun b h=>?_) fun b h=>?_
   refine Ag<|Ag<|Ag<|Ag<|A6 (s:=140) h (fun b h=>?_) fun b h=>?_
   exact Ad<|Ad<|Ag<|Ag<|O<|O<|Ad<|Ad<|Ad<|O<|Aa<|hK3 true _ _ _ (Ai h) ⟨rfl,Ae⟩ ⟨Ah,Ah,Ae⟩
   refine Ag<|Ag<|Ag<|Ag<|O<|O<|A6 (s:=146) h (fun b h=>?_) fun b h=>?_
   exact Ad<|Ad<|Ad<|O<|Aa<|hK3 true _ _ _ (Ai h) ⟨rfl,Ae⟩ ⟨Ah,Ah,Ae⟩
   exact Ag<|Ag<|Ag<|O<|Aa<|hK3 (a1.Num != (0:Int)) _ _ _ (Ai h) ⟨rfl,Ae⟩ ⟨Ah,Ah,Ae⟩
   exact Ad<|Ad<|Ad<|Ad<|A9 (20,false) 140 undef<|A9 (20,false) 140 undef<|Ad<|Ag<|O<|O<|Ag<|Ag<|Ag<|O<|Aa<|hK3 (a1.Num != (0:Int)) _ _ _ (Ai h) ⟨rfl,Ae⟩ ⟨Ah,Ah,Ae⟩
   rintro v8 u3 J
   have h:=E _ J
   refine Am h (fun b h=>?_) fun b h=>?_
   exact Z<|Ac<|O<|Aa<|Ak<|A3 h
   refine An<|Z<|Z<|Ac<|O<|Aa<|Ay<|Bn h (fun v12=>[(6,(Av false)),(10,(Af .i64 v12))]) (fun v12=>[]) (fun _=>True) (fun _=>rfl) ⟨rfl,rfl,Ae⟩ ⟨Ah,Ah,Ae⟩ Ae ?_
   rintro v12 u4 K4 X A q hn4 _
   refine Z<|Z<|Ac<|O<|O<|O<|Aa<|Am A (fun b h=>?_) fun b h=>?_
   refine An<|Z<|Ay<|Z<|B0<|O<|O<|O<|O<|O<|A7 (f:=Cj) (Dn _) h fun a6 v13 i13 U h=>O<|O<|O<|O<|A7 (f:=Ba) (Bq _) h fun Y x i14 S h=>O<|O<|Aq h fun v15 N h=>As.mk _ (c (a0:=a0) (a1:=v13) (a2:=x) N) rfl<|O<|Aa<|Bj.mk (by kernel_rfl)<|Am h (fun b h=>?_) fun b h=>?_
   refine Z<|Ac<|O<|Aa<|Ak ?_
   have h:=q _ (Ai h)
   exact A3 h
   exact An<|Ac<|O<|O<|Aw.mk _ rfl<|O<|Aa<|hn4 _ _ _ _ (Ai h) ⟨rfl,rfl,Ae⟩ ⟨Ah,Ah,Ae⟩ Ae
   refine Bh<|Bg rfl ?_
   have h:=q _ (Ai h)
   exact Z<|Ac<|O<|Aa<|Ak<|A3 h
   refine An<|Z<|Ac<|O<|O<|O<|O<|A6 (s:=171) h (fun b h=>?_) fun b h=>?_
   refine Ag<|Ag<|Ag<|O<|O<|A6 (s:=176) h (fun b h=>?_) fun b h=>?_
   refine Ag<|Ag<|Ag<|O<|O<|A6 (s:=181) h (fun b h=>?_) fun b h=>?_
   exact Ag<|Ag<|O<|O<|Aa<|Ak<|A3 h
   exact Ad<|Ad<|O<|O<|Aa<|Ak<|A3 h
   exact Ad<|Ad<|Ad<|O<|O<|Ad<|Ad<|O<|O<|Aa<|Ak<|A3 h
   exact Ad<|Ad<|Ad<|O<|O<|Ad<|Ad<|Ad<|O<|O<|Ad<|Ad<|O<|O<|Aa<|Ak<|A3 h
theorem Ars {k:Nat} {a0:(List A5)} {a1:Bl} {a2:Ao} {r:Bool} (h:I7 k a0 a1 a2=some r):Bb Tryz.prog 90 [(A2 3 Bf) a0,Cj a1,Ba a2] (Av r):=(Aht k).2 _ _ _ _ h
theorem Abn {a0:(List A5)} {a1:Bl} {a2:Ao} {r:Bool} (h:Nl a0 a1 a2=some r):Bb Tryz.prog 40 [(A2 3 Bf) a0,Cj a1,Ba a2] (Av r):=by
 unfold Nl at h
 refine Bv Tryz.func40 rfl (by kernel_rfl) (by kernel_rfl) rfl ?_
 refine Z<|Ac<|O<|O<|O<|Aa<|Z<|Ac<|O<|O<|Aa<|Z<|Ac<|O<|O<|Aq h fun v4 i h=>As.mk _ (Abm (a0:=a0) i) rfl<|O<|A6 (s:=10) h (fun b h=>?_) fun b h=>?_
 refine Ag<|Ag<|Ag<|Aq h fun v5 g h=>As.mk _ (Ve (a0:=a0) (a1:=a2) (a2:=0) g) rfl<|O<|O<|A6 (s:=15) h (fun b h=>?_) fun b h=>?_
 refine Ag<|Ag<|Aq h fun j f h=>As.act [2] _ _ _ _ (Arq (a0:=a1) (b0:=5000) f) rfl rfl ⟨rfl,Ae⟩<|O<|O<|A6 (s:=19) h (fun b h=>?_) fun b h=>?_
 exact Ag<|Ag<|Ag<|Ag<|Aq h fun v7 c h=>As.mk _ (Ars (a0:=a0) (a1:=a1) (a2:=a2) c) rfl<|O<|O<|Aa<|Ak<|A3 h
 exact Ad<|Ad<|Ad<|Ad<|O<|O<|Aa<|Ak<|A3 h
 exact Ad<|Ad<|O<|O<|Ad<|Ad<|Ad<|Ad<|O<|O<|Aa<|Ak<|A3 h
 exact Ad<|Ad<|Ad<|O<|O<|Ad<|Ad<|O<|O<|Ad<|Ad<|Ad<|Ad<|O<|O<|Aa<|Ak<|A3 h
theorem Ahu {a0:(List A5)} {a1:Int} {a2:Int} {r:(List Bool)} (h:Qa a0 a1 a2=some r):Bb Tryz.prog 229 [(A2 3 Bf) a0,(Af .i64) a1,(Af .i64) a2] ((A2 1 Av) r):=by
 unfold Qa at h
 refine C2 (C:={T:=B4,an:=(fun s=>bif Nat.beq s 7 then .own else .ask),nl:=(fun s=>bif Nat.beq s 7 then [(0,1)] else bif Nat.beq s 6 then [(0,1)] else [])}) B8 B5 Tryz.func229 rfl (by kernel_rfl) (by kernel_rfl) rfl ?_
 refine Z<|Ac<|O<|Aa<|Z<|Z<|Cd h fun g k q=>Ce (fun (v2:Bool)=>v2=g) (fun v2=>[(31,(Av v2))]) (fun v2=>[]) (fun _=>rfl) ?_ ?_
 intro Y hK1
 refine Ac<|O<|O<|O<|A6 (s:=12) k (fun b h=>?_) fun b h=>?_
 exact Ad<|Ad<|Ad<|Ad<|O<|O<|Ad<|Ad<|O<|O<|Ad<|Ad<|Ad<|Ad<|Ad<|Ad<|Ad<|Ad<|O<|Aa<|hK1 true _ _ _ (Ai h) ⟨rfl,Ae⟩ Ae
 refine Ag<|Ag<|Ag<|Ax (f:=Bf) (l:=a0) rfl<|Ag<|O<|O<|A6 (s:=18) h (fun b h=>?_) fun b h=>?_
 exact Ad<|Ad<|O<|O<|Ad<|Ad<|Ad<|Ad<|Ad<|Ad<|Ad<|Ad<|O<|Aa<|hK1 true _ _ _ (Ai h) ⟨rfl,Ae⟩ Ae
 refine Ag<|Ag<|O<|O<|A6 (s:=22) h (fun b h=>?_) fun b h=>?_
 exact Ad<|Ad<|Ad<|Ad<|Ad<|Ad<|Ad<|Ad<|O<|Aa<|hK1 true _ _ _ (Ai h) ⟨rfl,Ae⟩ Ae
 exact Ag<|Ag<|Ag<|Ag<|A7 (f:=Bf) rfl h fun V z i1 M h=>Ag<|Ag<|Ag<|Ax (f:=Ej) (l:=z.Cons) rfl<|Ag<|O<|Aa<|hK1 (decide<|a2>=(z.Cons.length:Int)) _ _ _ (Ai h) ⟨rfl,Ae⟩ Ae
 rintro v2 R u
 have h:=q _ u
 refine Am h (fun b h=>?_) fun b h=>?_
 exact Z<|Ac<|O<|Aa<|Ak<|congrArg (fun x:(List Bool)=>((A2 1 Av) x:AV))<|Ai h
 refine An<|Z<|Ac<|O<|Aa<|Z<|Z<|Ac<|O<|O<|O<|A7 (f:=Bf) rfl h fun U v4 i4 L h=>O<|O<|O<|O<|A7 (f:=Ej) rfl h fun S v5 i5 J h=>O<|O<|O<|Ax (f:=Ba) (l:=v5.Args) (Bq _)<|O<|Aa<|Ay ?_
 refine Bn h (fun (v18,c)=>[(7,(.arr 0 c.length 0 c.length)),(42,(Af .i64 v18))]) (fun (v18,c)=>[(0,.rows 4 1 (List.map Av c))]) (fun _=>True) (fun _=>rfl) ⟨rfl,rfl,Ae⟩ ⟨Ah,Ae⟩ Ae ?_
 rintro ⟨v18,c⟩ N X D j i hn2 _
 refine Z<|Ac<|O<|Aa<|Z<|Am j (fun b h=>?_) fun b h=>?_
 refine An<|Z<|Ay<|Z<|Ac<|O<|A7 (f:=Ba) (Bq _) h fun I v20 i20 B h=>O<|O<|O<|Aa<|B0<|O<|O<|O<|O<|O<|O<|A7 (f:=Bf) rfl h fun G v22 i22 A h=>O<|O<|O<|Aq h fun v23 y h=>As.mk _ (Abk (a0:=v20) (a1:=a1) (a2:=v22.Vars) y) rfl ?_
 exact O<|O<|D9 (f:=Av) (l:=c) (ys:=[v23]) rfl rfl rfl rfl h fun E h=>O<|Aa<|Bj.mk (by kernel_rfl)<|Ac<|O<|Aw.mk _ rfl<|O<|Aa<|hn2 _ _ _ _ (Ai h) ⟨rfl,rfl,Ae⟩ ⟨Ah,Ae⟩ Ae
 refine Bh<|Bg rfl ?_
 have h:=i _ (Ai h)
 exact Z<|Ac<|O<|O<|Aa<|Ak<|Bz (f:=Av) (l:=c) rfl rfl<|Bz (f:=Av) (l:=c) rfl rfl<|congrArg (fun x:(List Bool)=>((A2 1 Av) x:AV))<|Ai h
theorem Ahv:∀k:Nat,(∀(a0:(List A5)) (a1:Bl) (a2:Int) (b0:(List Bl)) (r:(List Bl)),My k a0 a1 a2 b0=some r->Cm Tryz.prog 156 [(A2 3 Bf) a0,Cj a1,(Af .i64) a2,(.arr 0 b0.length 0 b0.length)] [.rows 31 3 (Dv b0)] (.arr 0 r.length 0 r.length) [.rows 31 3 (Dv r)])
 | 0=>(fun _ _ _ _ _ h=>by simp only [My] at h; cases h)
 | k+1=>by
  have ih:=Ahv k
  have c:∀{a0:(List A5)} {a1:Bl} {a2:Int} {b0:(List Bl)} {r:(List Bl)},My k a0 a1 a2 b0=some r->Cm Tryz.prog 156 [(A2 3 Bf) a0,Cj a1,(Af .i64) a2,(.arr 0 b0.length 0 b0.length)] [.rows 31 3 (Dv b0)] (.arr 0 r.length 0 r.length) [.rows 31 3 (Dv r)]:=fun h=>ih _ _ _ _ _ h
  intro a0 a1 a2 b0 r h
  unfold My at h
  refine D0 (C:={T:=B4,an:=(fun _=>.ask),nl:=(fun s=>bif Nat.beq s 8 then [(0,3)] else [])}) false B8 B5 Tryz.func156 rfl (by kernel_rfl) (by kernel_rfl) rfl ?_
  refine Z<|Ac<|O<|O<|Aa<|Z<|Ac<|O<|O<|O<|O<|H4 (g:=Dv) Dn (f:=Cj) (l:=b0) (ys:=[a1]) (Dn _) rfl rfl rfl h fun I h=>O<|Aa<|Z<|Ac<|O<|O<|O<|O<|O<|Aq h fun v3 E h=>As.mk _ (Ahu (a0:=a0) (a1:=a2) (a2:=a1.Num) E) rfl<|O ?_
  refine Aa<|Z<|Z<|Ac<|O<|O<|Ax (f:=Av) (l:=v3) rfl<|O<|Aa<|Ay<|Bn h (fun (v12,i)=>[(3,(.arr 0 i.length 0 i.length)),(22,(Af .i64 v12))]) (fun (v12,i)=>[(0,.rows 31 3 (Dv i))]) (fun _=>True) (fun _=>rfl) ⟨rfl,rfl,Ae⟩ ⟨Ah,Ah,Ae⟩ Ae ?_
  rintro ⟨v12,i⟩ G J A q j hn1 _
  refine Z<|Ac<|O<|Aa<|Z<|Am q (fun b h=>?_) fun b h=>?_
  refine An<|Z<|Ay<|Z<|Ac<|O<|O<|Aa<|Z<|Ac<|O<|O<|O<|A7 (f:=Av) rfl h fun D z i14 y h=>O<|Aa<|Am h (fun b h=>?_) fun b h=>?_
  exact Ac<|O<|O<|O<|O<|O<|A7 (f:=Cj) (Dn _) h fun B v15 i15 x h=>O<|O<|O<|O<|Aq h fun v16 u h=>As.act [0] _ _ _ _ (c (a0:=a0) (a1:=v15) (a2:=a2) (b0:=i) u) rfl rfl ⟨rfl,Ae⟩<|O<|Aa<|Ac<|O<|Aw.mk _ rfl<|O<|Aa<|hn1 _ _ _ _ (Ai h) ⟨rfl,rfl,Ae⟩ ⟨Ah,Ah,Ae⟩ Ae
  exact An<|Ac<|O<|Aw.mk _ rfl<|O<|Aa<|hn1 _ _ _ _ (Ai h) ⟨rfl,rfl,Ae⟩ ⟨Ah,Ah,Ae⟩ Ae
  refine Bh<|Bg rfl ?_
  have h:=j _ (Ai h)
  refine Z<|Ac<|O<|O<|Aa<|Ak ?_
  cases h
  exact ⟨rfl,rfl,Ae⟩
theorem Art {k:Nat} {a0:(List A5)} {a1:Bl} {a2:Int} {b0:(List Bl)} {r:(List Bl)} (h:My k a0 a1 a2 b0=some r):Cm Tryz.prog 156 [(A2 3 Bf) a0,Cj a1,(Af .i64) a2,(.arr 0 b0.length 0 b0.length)] [.rows 31 3 (Dv b0)] (.arr 0 r.length 0 r.length) [.rows 31 3 (Dv r)]:=(Ahv k) _ _ _ _ _ h
theorem Aru {a0:(List A5)} {a1:Bl} {a2:Int} {r:(List Bl)} (h:Si a0 a1 a2=some r):Bb Tryz.prog 156 [(A2 3 Bf) a0,Cj a1,(Af .i64) a2,(.val (.slice none 0 0))] ((Ck 3 Dv) r):=by
 unfold Si at h
 refine C2 (C:={T:=B4,an:=(fun _=>.ask),nl:=(fun s=>bif Nat.beq s 8 then [(0,3)] else [])}) B8 B5 Tryz.func156 rfl (by kernel_rfl) (by kernel_rfl) rfl ?_
 refine Z<|Ac<|O<|O<|Aa<|Z<|Ac<|O<|O<|O<|O<|An0 (g:=Dv) Dn (f:=Cj) (ys:=[a1]) rfl h fun E h=>O<|Aa<|Z<|Ac<|O<|O<|O<|O<|O<|Aq h fun v4 B h=>As.mk _ (Ahu (a0:=a0) (a1:=a2) (a2:=a1.Num) B) rfl<|O ?_
 refine Aa<|Z<|Z<|Ac<|O<|O<|Ax (f:=Av) (l:=v4) rfl<|O<|Aa<|Ay<|Bn h (fun (v13,c)=>[(3,(.arr 1 c.length 0 c.length)),(22,(Af .i64 v13))]) (fun (v13,c)=>[(1,.rows 31 3 (Dv c))]) (fun _=>True) (fun _=>rfl) ⟨rfl,rfl,Ae⟩ ⟨Ah,Ah,Ae⟩ Ae ?_
 rintro ⟨v13,c⟩ D G y j i hn1 _
 refine Z<|Ac<|O<|Aa<|Z<|Am j (fun b h=>?_) fun b h=>?_
 refine An<|Z<|Ay<|Z<|Ac<|O<|O<|Aa<|Z<|Ac<|O<|O<|O<|A7 (f:=Av) rfl h fun A v15 i15 u h=>O<|Aa<|Am h (fun b h=>?_) fun b h=>?_
 exact Ac<|O<|O<|O<|O<|O<|A7 (f:=Cj) (Dn _) h fun z v16 i16 q h=>O<|O<|O<|O<|Aq h fun v17 k h=>As.act [1] _ _ _ _ (Art (a0:=a0) (a1:=v16) (a2:=a2) (b0:=c) k) rfl rfl ⟨rfl,Ae⟩<|O<|Aa<|Ac<|O<|Aw.mk _ rfl<|O<|Aa<|hn1 _ _ _ _ (Ai h) ⟨rfl,rfl,Ae⟩ ⟨Ah,Ah,Ae⟩ Ae
 exact An<|Ac<|O<|Aw.mk _ rfl<|O<|Aa<|hn1 _ _ _ _ (Ai h) ⟨rfl,rfl,Ae⟩ ⟨Ah,Ah,Ae⟩ Ae
 refine Bh<|Bg rfl ?_
 have h:=i _ (Ai h)
 exact Z<|Ac<|O<|O<|Aa<|Ak<|Bz (f:=Cj) (l:=c) (Dn _) rfl<|Bz (f:=Cj) (l:=c) (Dn _) rfl<|congrArg (fun x:(List Bl)=>((Ck 3 Dv) x:AV))<|Ai h
theorem Arv {a0:(List A5)} {a1:Bl} {a2:Ao} {r:(List Bl)} (h:Ur a0 a1 a2=some r):Bb Tryz.prog 92 [(A2 3 Bf) a0,Cj a1,Ba a2] ((Ck 3 Dv) r):=by
 unfold Ur at h
 refine C2 (C:={T:=B4,an:=(fun _=>.ask),nl:=(fun s=>bif Nat.beq s 6 then [(0,3)] else [])}) B8 B5 Tryz.func92 rfl (by kernel_rfl) (by kernel_rfl) rfl ?_
 refine Z<|Ac<|O<|O<|O<|Aa<|Z<|Z<|Cd h fun c f g=>Ce (fun (v4:Bool)=>v4=c) (fun v4=>[(16,(Av v4))]) (fun v4=>[]) (fun _=>rfl) ?_ ?_
 intro q hK1
 refine Ac<|O<|O<|O<|O<|A6 (s:=10) f (fun b h=>?_) fun b h=>?_
 exact Ad<|Ad<|Ad<|Ad<|Ad<|O<|Aa<|hK1 true _ _ _ (Ai h) ⟨rfl,Ae⟩ ⟨Ah,Ah,Ae⟩
 exact Ag<|Ag<|Ag<|Ag<|Aq h fun v3 k h=>As.mk _ (Abn (a0:=a0) (a1:=a1) (a2:=a2) k) rfl<|Ag<|O<|Aa<|hK1 (!v3) _ _ _ (Ai h) ⟨rfl,Ae⟩ ⟨Ah,Ah,Ae⟩
 rintro v4 l i
 have h:=g _ i
 refine Am h (fun b h=>?_) fun b h=>?_
 exact Z<|Ac<|O<|Aa<|Ak<|congrArg (fun x:(List Bl)=>((Ck 3 Dv) x:AV))<|Ai h
 exact An<|Z<|Ac<|O<|O<|O<|O<|O<|Aq h fun v5 j h=>As.mk _ (Aru (a0:=a0) (a1:=a1) (a2:=a2.Num) j) rfl<|O<|Aa<|Ak<|congrArg (fun x:(List Bl)=>((Ck 3 Dv) x:AV))<|Ai h
end Go.Ab
namespace Go.Ab
open Go Go.Proofs
set_option maxRecDepth 10000
theorem Arw {a0:(List A5)} {a1:Ao} {a2:Bl} {a3:Int} {r:(Int×Int)} (h:R4 a0 a1 a2 a3=some r):Bb Tryz.prog 41 [(A2 3 Bf) a0,Ba a1,Cj a2,(Af .i64) a3] (.tup [(Af .i64) r.1,(Af .i64) r.2]):=by
 unfold R4 at h
 refine Bv Tryz.func41 rfl (by kernel_rfl) (by kernel_rfl) rfl ?_
 refine Z<|Ac<|O<|O<|O<|O<|Aa<|Z<|Z<|Cd h fun g k q=>Ce (fun (v5:Bool)=>v5=g) (fun v5=>[(36,(Av v5))]) (fun v5=>[]) (fun _=>rfl) ?_ ?_
 intro R hK1
 refine Ac<|O<|O<|O<|Aq k fun v3 E h=>As.mk _ (Ahp (a0:=a0) (a1:=a1) E) rfl<|O<|O<|A6 (s:=17) h (fun b h=>?_) fun b h=>?_
 exact Ad<|Ad<|Ad<|O<|O<|Ad<|Ad<|O<|O<|Ad<|Ad<|Ad<|Ad<|Ad<|Ad<|Ad<|Ad<|Ad<|O<|Aa<|hK1 true _ _ _ (Ai h) ⟨rfl,Ae⟩ ⟨Ah,Ah,Ae⟩
 refine Ag<|Ag<|Ag<|O<|O<|A6 (s:=22) h (fun b h=>?_) fun b h=>?_
 exact Ad<|Ad<|O<|O<|Ad<|Ad<|Ad<|Ad<|Ad<|Ad<|Ad<|Ad<|Ad<|O<|Aa<|hK1 true _ _ _ (Ai h) ⟨rfl,Ae⟩ ⟨Ah,Ah,Ae⟩
 refine Ag<|Ag<|O<|O<|A6 (s:=26) h (fun b h=>?_) fun b h=>?_
 exact Ad<|Ad<|Ad<|Ad<|Ad<|Ad<|Ad<|Ad<|Ad<|O<|Aa<|hK1 true _ _ _ (Ai h) ⟨rfl,Ae⟩ ⟨Ah,Ah,Ae⟩
 exact Ag<|Ag<|Ag<|Ag<|Ag<|A7 (f:=Bf) rfl h fun M v4 i4 G h=>Ag<|Ag<|Ag<|Ax (f:=Ej) (l:=v4.Cons) rfl<|Ag<|O<|Aa<|hK1 (decide<|a3>=(v4.Cons.length:Int)) _ _ _ (Ai h) ⟨rfl,Ae⟩ ⟨Ah,Ah,Ae⟩
 rintro v5 L u
 have h:=q _ u
 refine Am h (fun b h=>?_) fun b h=>?_
 exact Z<|Ac<|O<|O<|Aa<|Ak<|congrArg (fun x:(Int×Int)=>(.tup [(Af .i64) x.1,(Af .i64) x.2]:AV))<|Ai h
 refine An<|Z<|Z<|Ac<|O<|O<|O<|O<|Aq h fun I D h=>As.mk _ (Abn (a0:=a0) (a1:=a2) (a2:=a1) D) rfl<|O<|Aa<|Am h (fun b h=>?_) fun b h=>?_
 exact Z<|Ac<|O<|O<|Aa<|Ak<|congrArg (fun x:(Int×Int)=>(.tup [(Af .i64) x.1,(Af .i64) x.2]:AV))<|Ai h
 refine An<|Z<|Ac<|O<|Aa<|Z<|Z<|Ac<|O<|O<|O<|O<|Aq h fun v7 B h=>As.mk _ (Arv (a0:=a0) (a1:=a2) (a2:=a1) B) rfl<|O<|Ax (f:=Cj) (l:=v7) (Dn _)<|O<|Aa<|Ay<|Bn h (fun (v10,c)=>[(10,(Af .i64 v10)),(47,(Af .i64 c))]) (fun (v10,c)=>[]) (fun _=>True) (fun _=>rfl) ⟨rfl,rfl,Ae⟩ ⟨Ah,Ah,Ae⟩ Ae ?_
 rintro ⟨v10,c⟩ J N z j i hn2 _
 refine Z<|Ac<|O<|Aa<|Z<|Am j (fun b h=>?_) fun b h=>?_
 refine An<|Z<|Ay<|Z<|Ac<|O<|A7 (f:=Cj) (Dn _) h fun A v12 i12 y h=>O<|O<|O<|Aa<|Z<|Ac<|O<|O<|O<|O<|Aa<|Am h (fun b h=>?_) fun b h=>?_
 exact Ac<|O<|O<|Aw.mk _ rfl<|O<|Aa<|Ac<|O<|Aw.mk _ rfl<|O<|Aa<|hn2 _ _ _ _ (Ai h) ⟨rfl,rfl,Ae⟩ ⟨Ah,Ah,Ae⟩ Ae
 exact An<|Ac<|O<|Aw.mk _ rfl<|O<|Aa<|hn2 _ _ _ _ (Ai h) ⟨rfl,rfl,Ae⟩ ⟨Ah,Ah,Ae⟩ Ae
 refine Bh<|Bg rfl ?_
 have h:=i _ (Ai h)
 exact Z<|Ac<|O<|O<|O<|Aa<|Ak<|congrArg (fun x:(Int×Int)=>(.tup [(Af .i64) x.1,(Af .i64) x.2]:AV))<|Ai h
theorem Arx {a0:Cp} {a1:Int} {a2:Bl} {r:((List Da)×Int)} (h:Rx a0 a1 a2=some r):Bb Tryz.prog 11 [Fe a0,(Af .i64) a1,Cj a2] (.tup [(A2 3 Db) r.1,(Af .i64) r.2]):=by
 unfold Rx at h
 refine C2 (C:={T:=B4,an:=(fun s=>bif Nat.beq s 9 then .own else .ask),nl:=(fun s=>bif Nat.beq s 9 then [(0,3)] else bif Nat.beq s 6 then [(0,3)] else [])}) B8 B5 Tryz.func11 rfl (by kernel_rfl) (by kernel_rfl) rfl ?_
 refine Z<|Ac<|O<|O<|O<|O<|Aa<|Z<|Z<|Ac<|O<|O<|Aq h fun v3 R h=>As.mk _ (Bb.sub (Aho (a0:=a0) (a1:=[]) R) ⟨Sub.refl _,Sub.nil _,Ae⟩<|Sub.refl _) rfl<|O<|Aa<|Am h (fun b h=>?_) fun b h=>?_
 exact Z<|Ac<|O<|O<|Aa<|Ak<|congrArg (fun x:((List Da)×Int)=>(.tup [(A2 3 Db) x.1,(Af .i64) x.2]:AV))<|Ai h
 refine An<|Z<|Z<|Cd h fun k z B=>Ce (fun (v4:Bool)=>v4=k) (fun v4=>[(24,(Av v4))]) (fun v4=>[]) (fun _=>rfl) ?_ ?_
 intro K1 hK1
 refine Ac<|O<|O<|O<|A6 (s:=18) z (fun b h=>?_) fun b h=>?_
 exact Ad<|Ad<|Ad<|Ad<|Ad<|O<|Aa<|hK1 true _ _ _ (Ai h) ⟨rfl,Ae⟩ ⟨Ah,Ah,Ae⟩
 exact Ag<|Ag<|Ag<|Ag<|Ax (f:=Ba) (l:=a0.Vars) (Bq _)<|Ag<|O<|Aa<|hK1 (decide<|a1>=(a0.Vars.length:Int)) _ _ _ (Ai h) ⟨rfl,Ae⟩ ⟨Ah,Ah,Ae⟩
 rintro v4 X E
 have h:=B _ E
 refine Am h (fun b h=>?_) fun b h=>?_
 exact Z<|Ac<|O<|O<|Aa<|Ak<|congrArg (fun x:((List Da)×Int)=>(.tup [(A2 3 Db) x.1,(Af .i64) x.2]:AV))<|Ai h
 refine An<|Z<|Ac<|O<|O<|O<|O<|Aa<|Z<|Z<|Ac<|O<|O<|Aa<|Cd h fun j y A=>Ce (fun (x:(Int×Int×(List Ao)))=>x=j) (fun (v7,v8,v9)=>[]) (fun (v7,v8,v9)=>[(2,.cells 25 [(Af .i64 v7),(Af .i64 v8),(.sl 3<|Bi v9)])]) (fun _=>rfl) ?_ ?_
 intro K2 hK2
 refine Am y (fun b h=>?_) fun b h=>?_
 exact Ac<|O<|O<|O<|O<|A7 (f:=Ba) (Bq _) h fun Y i i6 S h=>O<|O<|Aa<|hK2 (i.Kind,i.Num,i.Args) _ _ _ (Ai h) Ae ⟨Ah,Ah,Ah,Ae⟩
 exact An<|hK2 (a0.Res.Kind,a0.Res.Num,a0.Res.Args) _ _ _ (Ai h) Ae ⟨Ah,Ah,Ah,Ae⟩
 rintro ⟨v7,v8,v9⟩ V D
 have h:=A _ D
 refine Z<|Z<|Ac<|O<|O<|O<|O<|O<|Aq h fun v10 I h=>As.mk _ (Abn (a0:=a0.Data) (a1:=a2) (a2:=(Ao.mk v7 v8 v9)) I) rfl<|O<|Aa<|Am h (fun b h=>?_) fun b h=>?_
 exact Z<|Ac<|O<|O<|Aa<|Ak<|congrArg (fun x:((List Da)×Int)=>(.tup [(A2 3 Db) x.1,(Af .i64) x.2]:AV))<|Ai h
 refine An<|Z<|Ac<|O<|Aa<|Z<|Z<|Ac<|O<|O<|Aa<|Ay<|Z<|Ac<|O<|O<|Aa<|Am h (fun b h=>?_) fun b h=>?_
 exact Ac<|O<|O<|O<|O<|O<|Ax (f:=Cj) (l:=a2.Kids) (Dn _)<|O<|O<|O<|D9 (f:=Db) (l:=[]) (ys:=[(Da.mk a1 (-1) (a2.Kids.length:Int))]) rfl rfl rfl rfl h fun g h=>O<|Aa<|Z<|Ac<|O<|O<|O<|Aa<|Ak<|Bz (f:=Db) (l:=g) rfl rfl<|Bz (f:=Db) (l:=g) rfl rfl<|congrArg (fun x:((List Da)×Int)=>(.tup [(A2 3 Db) x.1,(Af .i64) x.2]:AV))<|Ai h
 refine Z<|Ac<|O<|O<|Aa<|Am h (fun b h=>?_) fun b h=>?_
 refine Z<|Ac<|O<|O<|O<|O<|O<|A7 (f:=Bf) rfl h fun N v13 i13 J h=>O<|O<|O<|Ax (f:=Ej) (l:=v13.Cons) rfl<|O<|Aa<|Ay<|Bn h (fun (v20,c)=>[(9,(.arr 3 c.length 0 c.length)),(62,(Af .i64 v20))]) (fun (v20,c)=>[(3,.rows 46 3 (List.map Db c))]) (fun _=>True) (fun _=>rfl) ⟨rfl,rfl,Ae⟩ ⟨Ah,Ah,Ah,Ah,Ae⟩ Ae ?_
 rintro ⟨v20,c⟩ U K3 L u q hn3 _
 refine Z<|Ac<|O<|Aa<|Z<|Am u (fun b h=>?_) fun b h=>?_
 refine An<|Z<|Ay<|Z<|Ac<|O<|O<|Aa<|Z<|Ac<|O<|O<|O<|O<|O<|O<|Aq h fun v22 G h=>As.mk _ (Arw (a0:=a0.Data) (a1:=(Ao.mk v7 v8 v9)) (a2:=a2) (a3:=v20) G) rfl<|O<|O<|O<|O<|O<|Aa ?_
 exact Ac<|O<|O<|O<|O<|O<|O<|O<|D9 (f:=Db) (l:=c) (ys:=[(Da.mk a1 v20 v22.1)]) rfl rfl rfl rfl h fun M h=>O<|Aa<|Ac<|O<|Aw.mk _ rfl<|O<|Aa<|hn3 _ _ _ _ (Ai h) ⟨rfl,rfl,Ae⟩ ⟨Ah,Ah,Ah,Ah,Ae⟩ Ae
 refine Bh<|Bg rfl ?_
 have h:=q _ (Ai h)
 exact Z<|Ac<|O<|O<|O<|Aa<|Ak<|Bz (f:=Db) (l:=c) rfl rfl<|Bz (f:=Db) (l:=c) rfl rfl<|congrArg (fun x:((List Da)×Int)=>(.tup [(A2 3 Db) x.1,(Af .i64) x.2]:AV))<|Ai h
 exact An<|Z<|Ac<|O<|O<|O<|Aa<|Ak<|Bz (f:=Db) (l:=[]) rfl rfl<|Bz (f:=Db) (l:=[]) rfl rfl<|congrArg (fun x:((List Da)×Int)=>(.tup [(A2 3 Db) x.1,(Af .i64) x.2]:AV))<|Ai h
theorem Ary {a0:Cp} {a1:(List B2)} {a2:Int} {a3:Bl} {i:(List Da)} {r:Bool} (h:Ul a0 a1 a2 a3 i=some r):Bb Tryz.prog 3 [Fe a0,(A2 5 B7) a1,(Af .i64) a2,Cj a3,(A2 3 Db) i] (Av r):=by
 unfold Ul at h
 refine Bv Tryz.func3 rfl (by kernel_rfl) (by kernel_rfl) rfl ?_
 refine Z<|Ac<|O<|O<|O<|Aa<|Z<|Z<|Ac<|O<|Aq h fun v3 c3 h=>As.mk _ (Aq4  c3) rfl<|O<|Aa<|Am h (fun b h=>?_) fun b h=>?_
 exact Z<|Ac<|O<|Aa<|Ak<|A3 h
 refine An<|Z<|Z<|Cd h fun x A D=>Ce (fun (j:Bool)=>j=x) (fun j=>[(36,(Av j))]) (fun j=>[]) (fun _=>rfl) ?_ ?_
 intro K1 hK1
 refine Ac<|O<|O<|O<|Aq A fun v4 c4 h=>As.mk _ (Bb.sub (Aqn (a0:=a0) (a1:=a1) (a2:=[]) c4) ⟨Sub.refl _,Sub.refl _,Sub.nil _,Ae⟩<|Sub.refl _) rfl<|O<|O<|A6 (s:=26) h (fun b h=>?_) fun b h=>?_
 exact Ad<|Ad<|Ad<|Ad<|O<|O<|Ad<|Ad<|Ad<|O<|Aa<|hK1 true _ _ _ (Ai h) ⟨rfl,Ae⟩ ⟨Ah,Ah,Ae⟩
 refine Ag<|Ag<|Ag<|Aq h fun v5 c5 h=>As.mk _ (Bb.sub (Aqi (a0:=[a3]) c5) ⟨Sub.of_eq<|congrArg (AV.sl 3) (Dn [a3]).symm,Ae⟩<|Sub.refl _) rfl<|Ag<|O<|O<|A6 (s:=32) h (fun b h=>?_) fun b h=>?_
 exact Ad<|Ad<|Ad<|O<|Aa<|hK1 true _ _ _ (Ai h) ⟨rfl,Ae⟩ ⟨Ah,Ah,Ae⟩
 exact Ag<|Ag<|Ax (f:=Db) (l:=i) rfl<|Ag<|O<|Aa<|hK1 (decide ((i.length:Int)>(6:Int))) _ _ _ (Ai h) ⟨rfl,Ae⟩ ⟨Ah,Ah,Ae⟩
 rintro j u1 G
 have h:=D _ G
 refine Am h (fun b h=>?_) fun b h=>?_
 exact Z<|Ac<|O<|Aa<|Ak<|A3 h
 refine An<|Z<|Ac<|O<|O<|O<|O<|Aq h fun v7 c7 h=>As.mk _ (Aqg (a0:=a0) (a1:=a2) (a2:=a3) c7) rfl<|O<|O<|O<|O<|O<|Aa<|Z<|Ac<|O<|O<|O<|O<|Aq h fun v8 c8 h=>As.mk _ (Arx (a0:=a0) (a1:=a2) (a2:=a3) c8) rfl<|O ?_
 refine O<|O<|O<|O<|Aa<|Z<|Ac<|O<|O<|O<|O<|Aq h fun v9 Y h=>As.mk _ (Ap6 (a0:=a0) (a1:=a1) (a2:=i) Y) rfl<|O<|O<|O<|O<|O<|O<|Aa<|Z<|Ac<|O<|O ?_
 refine O<|O<|Aq h fun q M h=>As.mk _ (Arp (a0:=a0) (a1:=a1) (a2:=i) M) rfl<|O<|O<|O<|O<|O<|O<|Aa<|Z<|Z<|Cd h fun u z B=>Ce (fun (c:Bool)=>c=u) (fun c=>[(85,(Av c))]) (fun c=>[]) (fun _=>rfl) ?_ ?_
 intro K2 hK2
 refine Ac<|O<|O<|O<|O<|A6 (s:=68) z (fun b h=>?_) fun b h=>?_
 exact Ad<|Ad<|Ad<|Ad<|Ad<|O<|O<|Ad<|Ad<|Ad<|O<|O<|Ad<|Ad<|Ad<|Ad<|O<|Aa<|hK2 true _ _ _ (Ai h) ⟨rfl,Ae⟩ ⟨Ah,Ah,Ah,Ah,Ae⟩
 refine Ag<|Ag<|Ax (f:=Db) (l:=v7.1) rfl<|Ag<|Ag<|Ax (f:=Db) (l:=v8.1) rfl<|Ag<|O<|O<|A6 (s:=75) h (fun b h=>?_) fun b h=>?_
 exact Ad<|Ad<|Ad<|O<|O<|Ad<|Ad<|Ad<|Ad<|O<|Aa<|hK2 true _ _ _ (Ai h) ⟨rfl,Ae⟩ ⟨Ah,Ah,Ah,Ah,Ae⟩
 refine Ag<|Ag<|Ag<|O<|O<|A6 (s:=80) h (fun b h=>?_) fun b h=>?_
 exact Ad<|Ad<|Ad<|Ad<|O<|Aa<|hK2 true _ _ _ (Ai h) ⟨rfl,Ae⟩ ⟨Ah,Ah,Ah,Ah,Ae⟩
 exact Ag<|Ag<|Ag<|Aq h fun v13 L h=>As.mk _ (Ag3 (a0:=v9.1) (a1:=q.1) L) rfl<|Ag<|O<|Aa<|hK2 (v13 != (0:Int)) _ _ _ (Ai h) ⟨rfl,Ae⟩ ⟨Ah,Ah,Ah,Ah,Ae⟩
 rintro c u2 E
 have h:=B _ E
 refine Am h (fun b h=>?_) fun b h=>?_
 exact Z<|Ac<|O<|Aa<|Ak<|A3 h
 refine An<|Z<|Z<|Ac<|O<|O<|Ax (f:=Db) (l:=v7.1) rfl<|O<|Aa<|Ay<|Bn h (fun v17=>[(10,(Av false)),(88,(Af .i64 v17))]) (fun v17=>[]) (fun _=>True) (fun _=>rfl) ⟨rfl,rfl,Ae⟩ ⟨Ah,Ah,Ah,Ah,Ae⟩ Ae ?_
 rintro v17 u3 K3 U y k hn3 _
 refine Z<|Ac<|O<|Aa<|Z<|Am y (fun b h=>?_) fun b h=>?_
 refine An<|Z<|Ay<|Z<|Ac<|O<|O<|Aa<|Z<|B0<|O<|O<|O<|A7 (f:=Db) rfl h fun X v18 i18 S h=>O<|O<|O<|O<|A7 (f:=Db) rfl h fun V g i19 R h=>O<|O<|Z8.mk _ (Aog v18.Var v18.Con v18.N g.Var g.Con g.N)<|Aa<|Bj.mk (by kernel_rfl) ?_
 refine Am h (fun b h=>?_) fun b h=>?_
 refine Z<|Ac<|O<|Aa<|Ak ?_
 have h:=k _ (Ai h)
 exact A3 h
 exact An<|Ac<|O<|Aw.mk _ rfl<|O<|Aa<|hn3 _ _ _ _ (Ai h) ⟨rfl,rfl,Ae⟩ ⟨Ah,Ah,Ah,Ah,Ae⟩ Ae
 refine Bh<|Bg rfl ?_
 have h:=k _ (Ai h)
 exact Z<|B0<|O<|O<|O<|Aq h fun v21 J h=>As.mk _ (Abg (a0:=a0) (a1:=a1) J) rfl<|O<|O<|O<|Aq h fun v22 I h=>As.mk _ (Ahr (a0:=a0) (a1:=a1) I) rfl<|O<|O<|Aa<|Bj.mk (by kernel_rfl)<|Ak<|A3 h
end Go.Ab
