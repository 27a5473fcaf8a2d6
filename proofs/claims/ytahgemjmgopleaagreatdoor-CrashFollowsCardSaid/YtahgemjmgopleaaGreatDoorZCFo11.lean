/- Models and proofs. Conditions: none. -/
import Derived.Test.YtahgemjmgopleaaGreatDoorZCFo6
import Derived.Test.YtahgemjmgopleaaGreatDoorZCFo10
import Derived.Test.YtahgemjmgopleaaGreatDoorZCFo5
import Derived.Test.YtahgemjmgopleaaGreatDoorZCFo9
import Derived.Test.YtahgemjmgopleaaGreatDoorZCFo1
import Derived.OpenShut
import Derived.Test.YtahgemjmgopleaaGreatDoorZCFo2
import Derived.LaidLaws
import Derived.LaidHandle
import Derived.Lay
import Derived.MakeChecks
set_option linter.unusedVariables false
set_option linter.unusedSimpArgs false
set_option maxHeartbeats 4000000
set_option maxRecDepth 20000
namespace Go.Proofs.YtahgemjmgopleaaGreatDoor
open Go.Sx
noncomputable def fN  (a:Bool):Option Bool:=
 some (a)
noncomputable def uO (U:Nat) (k:EM) (s:aY) (t:Int) (l:Int) (u:aY):Option Bool:=
 Option.bind (pT U ((k.1,k.2.1,k.2.2.1,k.2.2.2.1,k.2.2.2.2.1,k.2.2.2.2.2)) (7:Int)) λf=>(Option.bind (vR U) λv=>(Option.bind (sQ U v) λa=>Ys a.2.2 λh=>(Option.bind (Fo U) λm=>(Option.bind (oE U ((f.1,f.2)) m s) λg=>(Option.bind (hZ U t (6:Int)) λi=>(Option.bind (rK U u (20:Int)) λj=>(Option.bind (n_ U ((a.1,a.2.1,h)) ((f.1,f.2)) i g l j) λb=>(Option.bind (oC U ((a.1,a.2.1,h)) ((f.1,f.2)) i g l j) λc=>(Option.bind (n_ U ((a.1,a.2.1,h)) ((f.1,f.2)) i g (0:Int) j) λd=>(Option.bind (pX U ((a.1,a.2.1,h)) ((f.1,f.2)) i g j) λe=>(Option.bind (Ec U) λn=>(if n=true then(if b.2=c.2 then(Option.bind (sE U ((b.1.1,b.1.2.1,b.1.2.2.1,((b.1.2.2.2.1,b.1.2.2.2.2.1,b.1.2.2.2.2.2.1,b.1.2.2.2.2.2.2.1,b.1.2.2.2.2.2.2.2)))) ((c.1.1,c.1.2.1,c.1.2.2.1,((c.1.2.2.2.1,c.1.2.2.2.2.1,c.1.2.2.2.2.2.1,c.1.2.2.2.2.2.2.1,c.1.2.2.2.2.2.2.2))))) λo=>(if o=true then(if d.2=e.2 then(Option.bind (sE U ((d.1.1,d.1.2.1,d.1.2.2.1,((d.1.2.2.2.1,d.1.2.2.2.2.1,d.1.2.2.2.2.2.1,d.1.2.2.2.2.2.2.1,d.1.2.2.2.2.2.2.2)))) ((e.1.1,e.1.2.1,e.1.2.2.1,((e.1.2.2.2.1,e.1.2.2.2.2.1,e.1.2.2.2.2.2.1,e.1.2.2.2.2.2.2.1,e.1.2.2.2.2.2.2.2))))) λp=>(if p=true then(Option.bind (yC U ((a.1,a.2.1,h)) ((f.1,f.2)) g l) λq=>(Option.bind (g_ U ((a.1,a.2.1,h)) ((f.1,f.2)) g l) λr=>(fN  (decide (q=r)))))else(fN  (false))))else(fN  (false)))else(fN  (false))))else(fN  (false)))else(fN  (false))))))))))))))
theorem GQ (U:Nat) {p0:EM} {p1:aY} {p2:Int} {p3:Int} {p4:aY} (Y:Value)  (v1:Value)  (v2:Value)  (v3:Value)  (v4:Value) (r:Bool) (h:uO U p0 p1 p2 p3 p4=some r):
  aW Tryz.prog 4 #[Value.agg #[vI (p0.1),Y,v1,v2,vB (p0.2.2.2.2.1),vB (p0.2.2.2.2.2)],v3,vI (p2),vU (p3),v4] [Sl bR Y p0.2.1,Sl bR v1 p0.2.2.1,Sl bR v2 p0.2.2.2.1,Sl bR v3 p1,Sl tY v4 p4,Gb 0 (cellsOf HN vE)] (λx:Unit=>vB (r)) (λx l=>l) (λ_ l=>l):=by
 refine aW.of Tryz.func4 Z Tryz.ntmps4 Z λc=>?_;refine aT<|aG (aM.box (cs:=[vI (p0.1),Y,v1,v2,vB (p0.2.2.2.2.1),vB (p0.2.2.2.2.2)]) Z Z) Z λb1=>aB Z<|aL<|aT<|cG 0 Z<|dN h λE w3 h=>aG (zBi ahb (JC U Y v1 v2 E w3) Z (jF [0,1,2] Z)) Z λe=>aG (aM.alloc (cs:=[iO,iO]) Z Z) Z λb5=>bQ (Know.one ((bB (aD.res 1 Z) dW))) λac=>bQ (Know.one (aD.sl (bF (i:=2) (j:=3) Z Z bV))) λad=>bH 0 (vs:=[e.1,e.2.1]) Z Z (c_ ac (c_ ad Z)) Z Z Z<|aL<|aT<|dN h λr8 w9 h=>aG (zBi ahc (KB U  r8 w9) Z .nil) Z λa2=>dN h λC ak h=>aG (aM.call Uc (Lv U C ak) Z (iI 5 Z) (λ_ _=>rfl) (λ_ _=>rfl)) Z fun⟨a,b,ab,V⟩=>?_;have h:=WQ h ab V;refine aG (aM.alloc (cs:=[vS (ByteArray.mk #[]),iO,iO]) Z Z) Z λaS=>bQ (Know.one ((aD.fact 0 Z))) λG=>bQ (Know.one ((aD.fact 1 Z))) λH=>bH 0 (vs:=[vS (C.1),a,b]) Z Z (c_ Z (c_ G (c_ H Z))) Z Z Z<|aL<|aK ?_;refine JR.start [0,0,0,7,15] 3 mixedOrders (by decide +kernel) ?_;refine zBl (by exact rfl) ?_;refine gN 1 Z<|dN h λae al h=>zBk Z Z Z (zBi ahd (QX U  ae al) Z .nil) Z (λaa=>(oU [([2],[])] Z)) λaa=>fW Z (eY Z)<|bK 3 Z Z<|dN h λf am h=>aG (zBi aer (NH U e.1 e.2.1 (List.zip e.2.2 E.2) aa v3 f am) Z (aE.cons (bB (aD.res 3 Z) dW) (aE.cons (bF (i:=4) (j:=5) Z Z bV) (aE.cons (bB (aD.res 0 Z) wG) (jF [6] Z))))) Z λd=>aB Z<|aL<|aT<|aA Z<|dN h λaf an h=>aG (zBi E_ (kQ U  af an) Z .nil) Z λa3=>aB Z<|aL<|aT<|aA Z<|dN h λag ao h=>aG (zBi aes (NI U v4 ag ao) Z (jF [7] Z)) Z λD=>aB Z<|aL<|aT<|cG 4 Z<|cG 5 Z<|aA Z<|aA Z<|aA Z<|aA Z<|dN h λg ap h=>aG (zBi YB (GM U a b e.1 e.2.1 (List.zip e.2.2 E.2) d.1 (List.zip d.2 f) D g ap) Z (aE.cons (aD.fact 0 Z) (aE.cons (aD.fact 1 Z) (aE.cons (aD.fact 2 Z) (aE.cons (bB (aD.res 6 Z) dW) (aE.cons (bF (i:=7) (j:=8) Z Z bV) (aE.cons (bF (i:=1) (j:=2) Z Z dW) (aE.cons (bB (aD.res 0 Z) fS) (jF [8] Z))))))))) Z λo=>aA Z<|eS Z<|eS Z<|aG (aM.alloc (cs:=yO) Z Z) Z λaU=>bQ (Know.one ((bB (aD.res 1 Z) fS))) λI=>bQ (Know.one ((bB (aD.res 2 Z) fS))) λJ=>bQ (Know.one (aD.sl (bF (i:=3) (j:=4) Z Z dW))) λK=>bH 0 (vs:=[o.1,o.2.1,o.2.2.1,vI (g.1.2.2.2.1),vI (g.1.2.2.2.2.1),vI (g.1.2.2.2.2.2.1),vI (g.1.2.2.2.2.2.2.1),vU (g.1.2.2.2.2.2.2.2)]) Z Z (c_ I (c_ J (c_ K (c_ Z (c_ Z (c_ Z (c_ Z (c_ Z Z)))))))) Z Z Z<|aB Z<|aL<|aT<|cG 9 Z<|cG 10 Z<|aA Z<|aA Z<|aA Z<|aA Z<|dN h λk aq h=>aG (zBi aet (NE U a b e.1 e.2.1 (List.zip e.2.2 E.2) d.1 (List.zip d.2 f) D k aq) Z (aE.cons (aD.fact 0 Z) (aE.cons (aD.fact 1 Z) (aE.cons (aD.fact 2 Z) (aE.cons (bB (aD.res 11 Z) dW) (aE.cons (bF (i:=12) (j:=13) Z Z bV) (aE.cons (bF (i:=6) (j:=7) Z Z dW) (aE.cons (bB (aD.res 5 Z) fS) .nil)))))))) Z λp=>aA Z<|eS Z<|eS Z<|aG (aM.alloc (cs:=yO) Z Z) Z λaX=>bQ (Know.one ((bB (aD.res 1 Z) fS))) λL=>bQ (Know.one ((bB (aD.res 2 Z) fS))) λM=>bQ (Know.one (aD.sl (bF (i:=3) (j:=4) Z Z dW))) λN=>bH 0 (vs:=[p.1,p.2.1,p.2.2.1,vI (k.1.2.2.2.1),vI (k.1.2.2.2.2.1),vI (k.1.2.2.2.2.2.1),vI (k.1.2.2.2.2.2.2.1),vU (k.1.2.2.2.2.2.2.2)]) Z Z (c_ L (c_ M (c_ N (c_ Z (c_ Z (c_ Z (c_ Z (c_ Z Z)))))))) Z Z Z<|aB Z<|aL<|aT<|cG 14 Z<|cG 15 Z<|aA Z<|aA Z<|aA Z<|dN h λm ar h=>aG (zBi YB (GM U a b e.1 e.2.1 (List.zip e.2.2 E.2) d.1 (List.zip d.2 f) D m ar) Z (aE.cons (aD.fact 0 Z) (aE.cons (aD.fact 1 Z) (aE.cons (aD.fact 2 Z) (aE.cons (bB (aD.res 16 Z) dW) (aE.cons (bF (i:=17) (j:=18) Z Z bV) (aE.cons (bF (i:=11) (j:=12) Z Z dW) (aE.cons (bB (aD.res 10 Z) fS) (jF [8] Z))))))))) Z λq=>aA Z<|eS Z<|eS Z<|aG (aM.alloc (cs:=yO) Z Z) Z λa0=>bQ (Know.one ((bB (aD.res 1 Z) fS))) λO=>bQ (Know.one ((bB (aD.res 2 Z) fS))) λP=>bQ (Know.one (aD.sl (bF (i:=3) (j:=4) Z Z dW))) λQ=>bH 0 (vs:=[q.1,q.2.1,q.2.2.1,vI (m.1.2.2.2.1),vI (m.1.2.2.2.2.1),vI (m.1.2.2.2.2.2.1),vI (m.1.2.2.2.2.2.2.1),vU (m.1.2.2.2.2.2.2.2)]) Z Z (c_ O (c_ P (c_ Q (c_ Z (c_ Z (c_ Z (c_ Z (c_ Z Z)))))))) Z Z Z<|aB Z<|aL<|aT<|cG 19 Z<|cG 20 Z<|aA Z<|aA Z<|aA Z<|dN h λn au h=>aG (zBi aeu (QY U a b e.1 e.2.1 (List.zip e.2.2 E.2) d.1 (List.zip d.2 f) D n au) Z (aE.cons (aD.fact 0 Z) (aE.cons (aD.fact 1 Z) (aE.cons (aD.fact 2 Z) (aE.cons (bB (aD.res 21 Z) dW) (aE.cons (bF (i:=22) (j:=23) Z Z bV) (aE.cons (bF (i:=16) (j:=17) Z Z dW) (aE.cons (bB (aD.res 15 Z) fS) (jF [8] Z))))))))) Z λs=>aA Z<|eS Z<|eS Z<|aG (aM.alloc (cs:=yO) Z Z) Z λa1=>bQ (Know.one ((bB (aD.res 1 Z) fS))) λR=>bQ (Know.one ((bB (aD.res 2 Z) fS))) λS=>bQ (Know.one (aD.sl (bF (i:=3) (j:=4) Z Z dW))) λT=>bH 0 (vs:=[s.1,s.2.1,s.2.2.1,vI (n.1.2.2.2.1),vI (n.1.2.2.2.2.1),vI (n.1.2.2.2.2.2.1),vI (n.1.2.2.2.2.2.2.1),vU (n.1.2.2.2.2.2.2.2)]) Z Z (c_ R (c_ S (c_ T (c_ Z (c_ Z (c_ Z (c_ Z (c_ Z Z)))))))) Z Z Z<|aB Z<|aL<|aK<|Gg (B:=Unit) (λt=>fN  t=some r) (λt F=>[(10,vB (t))]) (λt F=>[]) (λt F=>[Sl aN a C.2.1,Sl aJ b ab,PF (Value.agg #[vS C.1,a,b]),Sl bR Y p0.2.1,Sl bR v1 p0.2.2.1,Sl bR v2 p0.2.2.2.1,Sl bR v3 p1,Sl tY v4 p4,Gb 0 (cellsOf HN vE)]) ?_ ?_
 ·refine JR.start [0,1,3,3,15,31,63,127,127,511,1023,2047,4095,4095,16383,32767,65535,131071,131071,524287,1048575,2097151,4194303,4194303,4194303,4194303,67108863,4194303,4194303,4194303,4194303,2147483647,4294967295,8589934591,17179869183] 31 mixedOrders (by decide +kernel) ?_;refine zBl (by exact rfl)<|dN h λah av h=>zBk Z Z Z (zBi YC (Ob U  ah av) Z (jF [8] Z)) Z (λaC=>Dw.z) λaC=>fW Z (eY Z) ?_;refine JR.guard (by exact rfl) (by exact rfl) (by exact rfl) (λu=>?_) (λu=>?_)
  ·have h:=Jl u h;refine eN Z .nil .nil (eY Z) (Qp Z)<|eN Z .nil .nil (eY Z) (Qp Z)<|eN Z .nil .nil (FJ Z Z) (Qp Z)<|fW Z (EZ Z Z)<|fW Z (eY Z) ?_;refine Bb (by exact rfl) (by exact rfl) (by exact rfl) (λv=>?_) (λv=>?_)
   ·have h:=Jl v h;refine eN Z (a_.cons 15 Z .nil) .nil (eP 0 Z Z Z Z) (Qp Z)<|eN Z (a_.cons 10 Z .nil) .nil (eP 0 Z Z Z Z) (Qp Z)<|dN h λai aw h=>IT Z Z Z Z (zBi YD (JN U o.1 o.2.1 o.2.2.1 (List.zip o.2.2.2 g.1.2.2.1) p.1 p.2.1 p.2.2.1 (List.zip p.2.2.2 k.1.2.2.1) ai aw) Z (aE.cons (bB (aD.res 16 Z) fS) (aE.cons (bB (aD.res 17 Z) fS) (aE.cons (bF (i:=18) (j:=19) Z Z dW) (aE.cons (bB (aD.res 11 Z) fS) (aE.cons (bB (aD.res 12 Z) fS) (aE.cons (bF (i:=13) (j:=14) Z Z dW) .nil))))))) Z (λaF=>(oU [] Z)) λaF=>fW Z (EZ Z Z)<|fW Z (eY Z) ?_;refine JR.guard (by exact rfl) (by exact rfl) (by exact rfl) (λw=>?_) (λw=>?_)
    ·have h:=Jl w h;refine eN Z .nil .nil (eY Z) (Qp Z)<|eN Z .nil .nil (eY Z) (Qp Z)<|eN Z .nil .nil (FJ Z Z) (Qp Z)<|fW Z (EZ Z Z)<|fW Z (eY Z) ?_;refine Bb (by exact rfl) (by exact rfl) (by exact rfl) (λy=>?_) (λy=>?_)
     ·have h:=Jl y h;refine eN Z (a_.cons 5 Z .nil) .nil (eP 0 Z Z Z Z) (Qp Z)<|eN Z (a_.cons 0 Z .nil) .nil (eP 0 Z Z Z Z) (Qp Z)<|dN h λaj ax h=>IT Z Z Z Z (zBi YD (JN U q.1 q.2.1 q.2.2.1 (List.zip q.2.2.2 m.1.2.2.1) s.1 s.2.1 s.2.2.1 (List.zip s.2.2.2 n.1.2.2.1) aj ax) Z (aE.cons (bB (aD.res 6 Z) fS) (aE.cons (bB (aD.res 7 Z) fS) (aE.cons (bF (i:=8) (j:=9) Z Z dW) (aE.cons (bB (aD.res 1 Z) fS) (aE.cons (bB (aD.res 2 Z) fS) (aE.cons (bF (i:=3) (j:=4) Z Z dW) .nil))))))) Z (λaI=>(oU [] Z)) λaI=>fW Z (EZ Z Z)<|fW Z (eY Z) ?_;refine JR.guard (by exact rfl) (by exact rfl) (by exact rfl) (λA=>?_) (λA=>?_)
      ·have h:=Jl A h;refine eN Z (a_.cons 24 Z .nil) .nil (eP 0 Z Z Z Z) (Qp Z)<|eN Z (a_.cons 25 Z .nil) .nil (eP 0 Z Z Z Z) (Qp Z)<|eN Z .nil .nil (eY Z) (Qp Z)<|eN Z .nil .nil (eY Z) (Qp Z)<|dN h λW ay h=>IT Z Z Z Z (zBi aev (Lq U a b e.1 e.2.1 (List.zip e.2.2 E.2) d.1 (List.zip d.2 f) W ay) Z (aE.cons (aD.fact 0 Z) (aE.cons (aD.fact 1 Z) (aE.cons (aD.fact 2 Z) (aE.cons (bB (aD.res 26 Z) dW) (aE.cons (bF (i:=27) (j:=28) Z Z bV) (aE.cons (bF (i:=21) (j:=22) Z Z dW) .nil))))))) Z (λaO=>(oU [] Z)) λaO=>eN Z (a_.cons 24 Z .nil) .nil (eP 0 Z Z Z Z) (aP.h (a_.ix [24] Z Z) .nil (Qp Z))<|eN Z (a_.cons 25 Z .nil) .nil (eP 0 Z Z Z Z) (aP.h (a_.ix [25] Z Z) .nil (Qp Z))<|eN Z .nil .nil (eY Z) hkN<|eN Z .nil .nil (eY Z) hkN<|bK 31 Z Z<|dN h λX az h=>iP Z (zBi Ud (Cq U a b e.1 e.2.1 (List.zip e.2.2 E.2) d.1 (List.zip d.2 f) X az) Z (aE.cons (aD.fact 0 Z) (aE.cons (aD.fact 1 Z) (aE.cons (aD.fact 2 Z) (aE.cons (bB (aD.res 26 Z) dW) (aE.cons (bF (i:=27) (j:=28) Z Z bV) (aE.cons (bF (i:=21) (j:=22) Z Z dW) .nil))))))) Z λa4=>aQ Z (FJ Z Z) Z<|dC Z<|aB Z<|aL ?_;exact bZ (decide (W=X)) () h SF .nil (aE.refl _ _)
      have h:=FZ A h;refine aV Z Z Z Z<|aV Z Z Z Z<|aV Z Z Z Z<|aV Z Z Z Z<|aV Z Z Z Z<|aV Z Z Z Z<|aV Z Z Z Z<|aV Z Z Z Z<|aV Z Z Z Z<|bK 31 Z Z<|aH Z<|aH Z<|dR Z<|aB Z<|aL ?_;exact bZ (false) () h SF .nil (aE.refl _ _)
     have h:=ZI y h;refine aV Z Z Z Z<|aV Z Z Z Z<|aV Z Z Z Z<|fW Z (tO Z Z)<|fW Z (eY Z)<|aV Z Z Z Z<|aV Z Z Z Z<|aV Z Z Z Z<|aV Z Z Z Z<|aV Z Z Z Z<|aV Z Z Z Z<|aV Z Z Z Z<|aV Z Z Z Z<|aV Z Z Z Z<|bK 31 Z Z<|aH Z<|aH Z<|dR Z<|aB Z<|aL ?_;exact bZ (false) () h SF .nil (aE.refl _ _)
    have h:=FZ w h;refine aV Z Z Z Z<|aV Z Z Z Z<|aV Z Z Z Z<|fW Z (tO Z Z)<|fW Z (eY Z)<|aV Z Z Z Z<|aV Z Z Z Z<|aV Z Z Z Z<|fW Z (tO Z Z)<|fW Z (eY Z)<|aV Z Z Z Z<|aV Z Z Z Z<|aV Z Z Z Z<|aV Z Z Z Z<|aV Z Z Z Z<|aV Z Z Z Z<|aV Z Z Z Z<|aV Z Z Z Z<|aV Z Z Z Z<|bK 31 Z Z<|aH Z<|aH Z<|dR Z<|aB Z<|aL ?_;exact bZ (false) () h SF .nil (aE.refl _ _)
   have h:=ZI v h;refine aV Z Z Z Z<|aV Z Z Z Z<|aV Z Z Z Z<|fW Z (tO Z Z)<|fW Z (eY Z)<|aV Z Z Z Z<|aV Z Z Z Z<|aV Z Z Z Z<|fW Z (tO Z Z)<|fW Z (eY Z)<|aV Z Z Z Z<|aV Z Z Z Z<|aV Z Z Z Z<|fW Z (tO Z Z)<|fW Z (eY Z)<|aV Z Z Z Z<|aV Z Z Z Z<|aV Z Z Z Z<|aV Z Z Z Z<|aV Z Z Z Z<|aV Z Z Z Z<|aV Z Z Z Z<|aV Z Z Z Z<|aV Z Z Z Z<|bK 31 Z Z<|aH Z<|aH Z<|dR Z<|aB Z<|aL ?_;exact bZ (false) () h SF .nil (aE.refl _ _)
  have h:=FZ u h;refine aV Z Z Z Z<|aV Z Z Z Z<|aV Z Z Z Z<|fW Z (tO Z Z)<|fW Z (eY Z)<|aV Z Z Z Z<|aV Z Z Z Z<|aV Z Z Z Z<|fW Z (tO Z Z)<|fW Z (eY Z)<|aV Z Z Z Z<|aV Z Z Z Z<|aV Z Z Z Z<|fW Z (tO Z Z)<|fW Z (eY Z)<|aV Z Z Z Z<|aV Z Z Z Z<|aV Z Z Z Z<|fW Z (tO Z Z)<|fW Z (eY Z)<|aV Z Z Z Z<|aV Z Z Z Z<|aV Z Z Z Z<|aV Z Z Z Z<|aV Z Z Z Z<|aV Z Z Z Z<|aV Z Z Z Z<|aV Z Z Z Z<|aV Z Z Z Z<|bK 31 Z Z<|aH Z<|aH Z<|dR Z<|aB Z<|aL ?_;exact bZ (false) () h SF .nil (aE.refl _ _)
 intro t F h;unfold fN at h;refine aR ?_;cases h;exact gF Z
end Go.Proofs.YtahgemjmgopleaaGreatDoor
namespace Go.Proofs.YtahgemjmgopleaaGreatDoor
open Go Go.Sx
theorem ahY:∀x,x<FE.length->Gl (at' FE (x:Int)) ∧ -100000<=(at' FE (x:Int)).2.2.1∧(at' FE (x:Int)).2.2.1<=(at' FE (x:Int)).2.2.2.1:=by
 intro x a;refine⟨Wj x a,?_⟩
 obtain rfl:x=0:=by simp[FE]at a;exact a
 exact⟨by decide,by decide⟩
theorem aav (l:aY) (h:l.length<=900):Ao 1000 l l=some true:=by
 unfold Ao;rw[if_neg (by simp)];refine cQ (step:=xK l l) l.length (λk=>(k:Int)) (λk a b=> ?_) (λa=> ?_) 1000 (by omega)
 ·unfold xK;rw[if_pos (by omega),cV (by omega),cV (by omega),if_neg (by simp),dL (by omega)]
 ·unfold xK BK;rw[if_neg (by omega)]
theorem QJ (t:List Int×List Int×bO×CT) (a:t.1.length<=900) (b:t.2.1.length<=900) (c:t.2.2.1.length<=900) (d:∀v:Nat,v<t.2.2.1.length->(at' t.2.2.1 (v:Int)).length<=30):sE 1000 t t=some true:=by
 unfold sE qG;rw[bA (aav _ a),if_pos Z,bA (aav _ b),if_pos Z,bA (afN _ c d),if_pos Z,zA5 Z]
section
variable {p:BW} {g:GR}
theorem Sw (c:VG g) (e:jQ g p.2.1) {kind:Int} (d:¬(1<=kind∧kind<=4)) {a:List (List Int)} (b:HC g a p.2.1) (lv:Int) (ws:List Int):gY 1000 p g kind a lv ws=some SL:=by
 unfold gY;rw[bA (show kG 1000 _ _ kind a _=_ from VA c e d b _),if_pos (by decide)]
theorem ahK (c:VG g) (f:jQ g p.2.1) {kind:Int} (e:¬(1<=kind∧kind<=4)) {a:List (List Int)} (b:HC g a p.2.1) (d:Int) (ws:List Int):oC 1000 p g kind a d ws=some SL:=by
 unfold oC;rw[bA (show kL 1000 _ _ a=_ from Qc c f b),if_neg (by decide),bA (adH e),if_pos (by decide)]
end
theorem Jc {p:BW} {g:GR} {kind:Int} {a:List (List Int)} {d lv:Int} {ws:List Int} {t:(List Int×List Int×List (List Int)×CT)×Int} (b:YA .u32 4294967295 d=lv) (h:gY 1000 p g kind a lv ws=some t):n_ 1000 p g kind a d ws=some t:=by
 unfold n_;rw[b,bA (show gY 1000 _ _ kind a lv ws=_ from h)]
theorem Qk (x:TQ) (E:List Int) (a p3:Int) (h:List Int) (h0:0<=p3) (h1:p3<4294967296):uO 1000 x E a p3 h=some true:=by
 obtain⟨d,rfl⟩:∃d:Nat,p3=d:=⟨p3.toNat,by omega⟩
 have N:d<4294967296:=by omega
 obtain⟨g,hg,T,aa⟩:=aen x 7 (by omega) (by omega);have l:VG g:=T.vg;have X:=l.n24;obtain⟨w,hc,b⟩:=Xc l FE E (by decide) ahY;obtain⟨f,U,ab,s⟩:=XO h (n:=20) (by omega);obtain⟨O,J,B,o⟩:=Si N;obtain⟨lw,K,C,L⟩:=Si (d:=0) (by omega);unfold uO;rw[show pT 1000 (x.1,x.2.1,x.2.2.1,x.2.2.2.1,x.2.2.2.2.1,x.2.2.2.2.2) 7=some g from hg,bA Z,bA (show vR 1000=some ID from rfl)];rw[bA (aal 1000)];refine abu λz y=> ?_;have y:z.map tH=Dx RC:=y;let p:BW:=(ByteArray.mk #[99,111,108,111,117,114,105,110,103],FE,z)
 have m:jQ g p.2.1:=ahW l;have V:KQ p g RC:=afH l Z;rw[afV,bA Z,show oE 1000 (g.1,g.2) FE E=some w from hc,bA Z,bA (wB a 6 (by omega) (by omega)),bA (show rK 1000 h 20=_ from U)];have M:∃t u e,n_ 1000 p g (a%6) w (d:Int) f=some (t,e)∧oC 1000 p g (a%6) w (d:Int) f=some (t,e)∧n_ 1000 p g (a%6) w 0 f=some (u,e)∧pX 1000 p g (a%6) w f=some (u,e)∧sE 1000 t t=some true∧sE 1000 u u=some true:=by
  by_cases I:1<=a%6∧a%6<=4
  rotate_left
  ·exact⟨SL.1,SL.1,12,Jc J (Sw l m I b _ f),ahK l m I b _ f,Jc K (Sw l m I b _ f),Zz l m I b f,QJ _ (by decide) (by decide) (by decide) (λv D=>absurd D (Nat.not_lt_zero v)),QJ _ (by decide) (by decide) (by decide) (λv D=>absurd D (Nat.not_lt_zero v))⟩
  obtain⟨q,r⟩:=I;obtain⟨k,W,Y⟩:=KY (p:=p) l m y Hy q r b B (ws:=f) (by omega) s;obtain⟨j,A,F⟩:=KY (p:=p) l m y Hy q r b C (ws:=f) (by omega) s;obtain⟨i,S,Q⟩:=Ur (p:=p) l m y Hy q r b (ws:=f) (by omega) s;have hR:=Xi l m V y Hy q r b N o (ws:=f) (by omega) s W;have P:oW (bI p g) RC lw=oW (bI p g) RC (o_ g):=funext λc=>Ht λv=>by
   rw[Bool.eq_iff_iff,Hh,Hh];refine and_congr_right λD=>and_congr_right λ_=> ?_;have D:v<g.2.length:=D;unfold o_;rw[L v (by omega),zBb,zBf,zA5 D];simp
  rw[P]at A F;obtain rfl:=Ml.det _ _ _ _ _ A S;obtain⟨s1,s2,s3,s4⟩:=Lh (R:=RC) (kind:=a%6) (lv:=O) l m b (ws:=f) (by omega) W.1;obtain⟨u1,u2,u3,u4⟩:=Lh (R:=RC) (kind:=a%6) (lv:=o_ g) l m b (ws:=f) (by omega) A.1;exact⟨_,_,0,Jc J Y,hR,Jc K F,Q,QJ _ s1 s2 s3 s4,QJ _ u1 u2 u3 u4⟩
 obtain⟨t,u,e,m1,m2,m3,m4,m5,m6⟩:=M;have G:=Lm (p:=p) l m y Hy b N o;have H:g_ 1000 p g w (d:Int)=some ((oW (bI p g) RC O w:Nat):Int):=by
  unfold g_;rw[bA (show pF 1000 _ _ w=_ from Rp l m V b y Hy),uH,So l N o]
 refine(bA m1).trans ?_;refine(bA m2).trans ?_;refine(bA m3).trans ?_;refine(bA m4).trans ?_;dsimp only;rw[bA (show Ec 1000=some true from rfl),if_pos Z,if_pos Z];refine(bA m5).trans ?_;rw[if_pos Z,if_pos Z];refine(bA m6).trans ?_;rw[if_pos Z];refine(bA G).trans ?_;refine(bA H).trans ?_;unfold fN;rw[zA5 Z]
end Go.Proofs.YtahgemjmgopleaaGreatDoor
namespace Go.Sx
open Go.RowKit Go.ChangeShapes Go.WideShapes Go.ChangeAt Go.Proofs Go.Joins Go.Deep
section
variable {H:Type} {enc:TypeId×Value->H} {P:Program} {w:World} {base:Nat} {spare:Nat->Bool} {held:Bool}
theorem NT {a:Type} (l:List a) (d:a):l=(List.range l.length).map λi=>l.getD i d:=by
 apply List.ext_getElem?;intro i;by_cases h:i<l.length
 ·simp[h]
 ·simp[h]
theorem aad {r:Reach} {x:Nat} {t:TypeId} {b:Array Field} {v:Value} {d:DataW H} {p:List MemPlace} (s:P.underlying t=some (.struct b)) (c:oneCellFields P b=true) (z:P.cellsOf t=b.size)
  (E:Value.okWide P w r x t v) (h:DataW.Trod enc P w base spare held t v d p):
  ∃(V:Nat->Value) (Y:Nat->DataW H×List MemPlace) (n:Nat),v = .agg ((List.range b.size).map V).toArray∧∀(i:Nat) (f:Field),b[i]? = some f->DataW.trod enc P w base spare held n f.type [V i]=some (Y i):=by
 obtain⟨a,rfl,l⟩:=okWide_struct s E;obtain⟨m,A⟩:=h;obtain⟨u,n,_,_,_,q,B⟩:=DataW.trod_struct s A;refine⟨λi=>a.toList.getD i undef,λi=>u.getD i (.nil,[]),n,?_,λi f j=> ?_⟩
 ·congr 1;apply Array.toList_inj.1;show a.toList=(List.range b.size).map λi=>a.toList.getD i undef;have y:b.size=a.toList.length:=by rw[<-z,<-l];rfl
  rw[y];exact NT a.toList undef
 ·have D:i<b.size:=(zA9.1 j).1;obtain⟨o,k⟩:=hone_of c i f j;have g:=B i f j;have e:(Value.cells (.agg a)).toList=a.toList:=rfl;have C:i<a.toList.length:=by rw[Array.length_toList];omega
  rw[o,k,e,take1_drop _ _ undef C]at g;rw[g];have F:i<u.length:=by omega
  simp[F]
theorem ZO {k:IntKind} {e:TypeId} (a:P.underlying e=some (.int k)) {n:Nat} {v:Value} {x:DataW H×List MemPlace} (h:DataW.trod enc P w base spare held n e [v]=some x):∃y:Int,v = .int k y:=by
 obtain⟨y,b,_,_⟩:=DataW.trod_int a h;exact⟨y,by simpa using b⟩
theorem OS {e:TypeId} (a:P.underlying e=some .bool) {n:Nat} {v:Value} {x:DataW H×List MemPlace} (h:DataW.trod enc P w base spare held n e [v]=some x):∃y:Bool,v = .bool y:=by
 obtain⟨y,b,_⟩:=DataW.trod_bool a h;exact⟨y,by simpa using b⟩
theorem aaY {n:Int} (h:(Lit.int .u32 n).wf=true):0<=n∧n<4294967296:=by
 simp only[Lit.wf,zA3,zA8]at h;have a:IntKind.u32.min=0:=by decide
 have b:IntKind.u32.max=4294967295:=by decide
 omega
end
end Go.Sx
section
set_option maxRecDepth 100000
namespace Go.Sx
open Go.RowKit Go.ChangeShapes Go.WideShapes Go.ChangeAt Go.Proofs Go.Joins
theorem Us {P:Program} {W:World} {n:String} {b m t B:Nat} {k:IntKind} {a:aY} (h:laidMet P [(n,.agg (a.map λx=> .lit (.int k x)))] W) (I:P.globalNamed n=some b)
  (ht:(P.globals[b]?).map (·.type)=some t) (hu:P.underlying t=some (.array m B)) (w:P.underlying B=some (.int k)) (S:P.cellsOf B=1) (u:P.cellsOf t=m) (hm:0<m):(Gb b (cellsOf (eO.int k) a)).p W (λ_=>True):=by
 obtain⟨ps,⟨g,t2,j,F,p,q,C,D,E,M,e5,N⟩,aa,d⟩:=h;rw[I]at C;cases C;rw[ht]at D;cases D;refine⟨trivial,?_⟩
 obtain⟨L,ml,_,l,Y,y,V⟩:=DataW.trod_array hu M;simp only[Prod.mk.injEq,DataW.agg.injEq]at l;have e:a.length=m:=by rw[<-y];simpa using congrArg List.length l.1
 have U:j.size=m:=by rw[<-u,<-Y];simp
 have v:j.toList=cellsOf (eO.int k) a:=by
  refine List.ext_getElem? λi=> ?_;by_cases X:i<m
  ·have o:=V i X;rw[S,Nat.mul_one]at o;have J:a[i]? = some (a[i]'(by omega)):=zA0 _;have G:=zK (eO.int k) a i _ J 0 _ Z;rw[show i*(eO.int k).sz+0=i from Nat.mul_one i]at G;rw[G];have K:L[i]? = some (L[i]'(by omega)):=zA0 _;rw[K]at o;obtain⟨z,hz,A,_⟩:=DataW.trod_int w o;have s:j.toList[i]? = some (.int k z):=by
    have:=congrArg (·[0]?) hz;simpa [zAr,zAs]using this
   rw[s];have r:=congrArg (·[i]?) l.1;simp only[List.getElem?_map,J,K,Option.map_some,Option.some.injEq]at r;rw[A]at r;have O:a[i]=z:=by simpa using r
   rw[O]
  ·rw[zAt (by simp;omega),zAt (by rw[fK,e];show m*1<=i;omega)]
 have f:MemPlace.cell b 0∈ps:=by
  rw[N];refine List.mem_append_left _ (List.mem_append_left _ ?_);exact zB4.2 ⟨0,by simp;omega,rfl⟩
 obtain⟨⟨c,T,H⟩,_⟩:=d b 0 f;refine⟨T,?_⟩
 have Q:c=j:=by
  have R:(W.var? P n)=some c:=by unfold World.var?;rw[I];simp[H]
  rw[R]at E;exact Option.some.inj E
 rw[H,Q,<-v]
theorem Sv {H:Type} {enc:TypeId×Value->H} {os:Os} (D:List (String×DataW Unit)) (N:(D.all λx=>x.2.handleName?.isNone)=true) (l:os.Started) {f:FuncId} {c:Func} {s:ChangeSpec} {r:Bool} (L:Tryz.prog.funcs[f]? = some c) (n:Tryz.prog.inits.idxOf? f=none)
  (o:(c.params.toList.all λt=>Tryz.prog.readableRec t&&decide (t<Tryz.prog.types.size))=true) (A:c.resultTypes = #[4]) (k:s.vars=[])
  (u:∀a:List (DataW H),a.length=c.params.toList.length->s.fn H a={results:=[.lit (.bool true)],args:=a})
  (m:∃(w:World) (b:Tape) (i:Input),w.os=os∧(w.forCall b i).Shaped Tryz.prog∧i.vars=[]∧Input.okWide Tryz.prog (w.forCall b i) .any w.heap.size f i∧
   ((s.pre enc Tryz.prog c [] false (w.forCall b i).memory i.args∧laidMetH Tryz.prog D (w.forCall b i).memory)∧sizedMet enc Tryz.prog c (OpenSpec.ofChange s) false (w.forCall b i).memory i.args)∧({}:Assume).holds Tryz.prog (lone (Frame.enter Tryz.prog f i.args .normal) [] (w.forCall b i)))
  (E:∀(W:World) (g:Nat) (args:Array Value) (a:List (DataW H)) (p:List MemPlace),laidMetH Tryz.prog D W->(∀(j:Nat) t v,c.params[j]? = some t->args[j]? = some v->Value.okWide Tryz.prog W .any g t v)->
   DataW.TrodAll enc Tryz.prog W 0 (λ_=>true) true c.params.toList args.toList a p->Calls Tryz.prog f args W λe P=>e = .returned (.bool true)∧Oo W P):
  ReturnsInHanded {} Go.Proofs.YtahgemjmgopleaaGreatDoor.Tryz.pinned.checked os f .any (λw args=>(s.pre enc Tryz.prog c [] false w args∧laidMetH Tryz.prog D w)∧sizedMet enc Tryz.prog c (OpenSpec.ofChange s) false w args) (s.post enc Tryz.prog c false r false false):=by
 refine returnsInHanded_of_change_and (C:=Go.Proofs.YtahgemjmgopleaaGreatDoor.Tryz.pinned.checked) (X:=λw _=>laidMetH Tryz.prog D w) (λ_ _ _ U h=>by rw[MakeChecks.laidMetH_plain _ _ _ N]at h ⊢;exact h.of_heap U) alk l n L m ?_;intro W g args a Y G B J _ _ T _;have M:=J.lt;have K:=J;obtain⟨p,q,I,Q,rfl,_,_⟩:=J;rw[k]at Q;obtain⟨rfl,rfl⟩:=trodVars_none Q;refine(E W g args a p T B I).mono ?_;rintro e P ⟨rfl,R⟩;refine⟨_,rfl,?_⟩
 have z:a.length=c.params.toList.length:=by
  have:∀(F:List TypeId) (y:fP) (a:List (DataW H)) (p:List MemPlace),DataW.TrodAll enc Tryz.prog W 0 (λ_=>true) true F y a p->a.length=F.length:=by
   intro F
   induction F with
   |nil=>intro y a p h;cases y<;>cases a<;>first|rfl|exact h.elim
   | cons t F ih =>
    intro y a p h;cases y with
    |nil=>exact h.elim
    |cons v y=>
     cases a with
     |nil=>exact h.elim
     |cons d a=>obtain⟨_,_,_,S,_⟩:=h;simp[ih y a _ S]
  exact this _ _ _ _ I
 have O:s.fn H (a++[])={results:=[.lit (.bool true)],args:=a}:=by rw[List.append_nil];exact u a z
 refine⟨a,[],p++[],[],p,[],K,?_,?_,?_,R.frame _,λh=>by cases h⟩
 ·rw[O,A];exact trodAll_mk1 (shut_bool Tryz.underlying4 true)
 ·rw[O];exact Ii ahz R _ _ _ _ o I (λx V=>M x (List.mem_append_left _ V))
 ·rw[O,k];exact rfl
theorem Xr {P:Program} {n:String} {k:IntKind} {a:aY} {W:World} (h:laidMetH P [(n,.agg (a.map λx=> .lit (.int k x)))] W):laidMet P [(n,.agg (a.map λx=> .lit (.int k x)))] W:=by
 rw[MakeChecks.laidMetH_plain _ _ _ (by rfl)]at h;exact h
end Go.Sx
end
