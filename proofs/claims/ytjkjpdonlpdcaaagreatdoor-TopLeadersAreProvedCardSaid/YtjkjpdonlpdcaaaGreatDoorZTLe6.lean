/- Models and proofs. Conditions: none. -/
import Derived.Test.YtjkjpdonlpdcaaaGreatDoorZTLe2
import Derived.Test.YtjkjpdonlpdcaaaGreatDoorZTLe5
import Derived.KernelRfl
set_option linter.unusedVariables false
set_option linter.unusedSimpArgs false
set_option maxHeartbeats 4000000
set_option maxRecDepth 20000
namespace Go.Proofs.YtjkjpdonlpdcaaaGreatDoor
open Go.Sx
def uU  (a:aT):Option aT:=
 some (a)
def qV (c:Int×aT×aT) (b:(Int×aT×aT)->Option aT) (a:aT×aT):Option aT:=
 b ((wI .i64 (c.1+(1:Int))),a.1,a.2)
def qW (c:cB) (b:aT×aT) (e:(aT×aT)->Option aT) (a:Int×aT×aT) (d:(Int×aT×aT)->Option aT):Option aT:=
 if a.1<(List.length (at' c.2 (at' b.1 (0:Int))):Int)then(ck (0<=a.1∧a.1<(List.length (at' c.2 (at' b.1 (0:Int))):Int)) (ck (0<=((at' (at' c.2 (at' b.1 (0:Int))) a.1).1)∧((at' (at' c.2 (at' b.1 (0:Int))) a.1).1)<(List.length a.2.2:Int)) (if(at' a.2.2 ((at' (at' c.2 (at' b.1 (0:Int))) a.1).1))<(0:Int)then(ck (0<=(at' b.1 (0:Int))∧(at' b.1 (0:Int))<(List.length a.2.2:Int)) (ck (0<=((at' (at' c.2 (at' b.1 (0:Int))) a.1).1)∧((at' (at' c.2 (at' b.1 (0:Int))) a.1).1)<(List.length a.2.2:Int)) (ck ((List.length a.2.1:Int)+(List.length ([((at' (at' c.2 (at' b.1 (0:Int))) a.1).1)]):Int)<=1099511627) (qV a d ((a.2.1++([((at' (at' c.2 (at' b.1 (0:Int))) a.1).1)])),(List.set a.2.2 (Int.toNat ((at' (at' c.2 (at' b.1 (0:Int))) a.1).1)) (wI .i64 ((at' a.2.2 (at' b.1 (0:Int)))+(1:Int)))))))))else(qV a d (a.2.1,a.2.2)))))else(e (a.2.1,a.2.2))
def nX (U:Nat) (c:cB) (a:aT×aT) (b:(aT×aT)->Option aT):Option aT:=
 if(0:Int)<(List.length a.1:Int)then(ck (0<=(0:Int)∧(0:Int)<(List.length a.1:Int)) (ck (0<=(1:Int)∧(1:Int)<=(List.length a.1:Int)) (ck (0<=(at' a.1 (0:Int))∧(at' a.1 (0:Int))<(List.length c.2:Int)) (bP (qW c a b) U ((0:Int),(List.drop (Int.toNat (1:Int)) a.1),a.2)))))else(uU  (a.2))
def z_ (U:Nat) (c:cB) (a:Int) (b:aT):Option aT:=
 ck (0<=a∧a<(List.length b:Int)) (bP (nX U c) U (([a]),(List.set b (Int.toNat a) (0:Int))))
def Aa (U:Nat) (c:cB) (d:Int) (a:Bu) (b:(Int×aT)->Option aT):Option aT:=
 if a.1<(List.length (List.replicate (Int.toNat (List.length c.2:Int)) (0:Int)):Int)then(ck (0<=a.1∧a.1<(List.length a.2:Int)) (b ((wI .i64 (a.1+(1:Int))),(List.set a.2 (Int.toNat a.1) (-1:Int)))))else(z_ U c d (a.2))
def pU (U:Nat) (a:cB) (b:Int):Option aT:=
 ck (0<=(List.length a.2:Int)∧(List.length a.2:Int)<=1099511627) (bP (Aa U a b) U ((0:Int),(List.replicate (Int.toNat (List.length a.2:Int)) (0:Int))))
theorem Qp:aQ Tryz.prog 115:=Tryz.call115
theorem Dz (U:Nat) {d:cB} {o:Int} (s:Value)  (t:Value)  (M:mH) (r:aT) (h:pU U d o=some r):
  bA Tryz.prog 115 #[Value.agg #[s,t],vI (o)] [Sl bN s d.1,S2 aO t M d.2] (λx:Value=>x) (λx l=>Ar cM x r::l) (λ_ l=>l):=by
 refine bA.of Tryz.func115 Z Tryz.ntmps115 Z λc=>?_;refine aS<|aG (aJ.box (cs:=[s,t]) Z Z) Z λp=>aC Z<|aK<|aS<|bX Z<|cJ 0 Z<|aB (lY Z (aE.fact 1 Z) Z) Z<|dK h λQ h=>aG (sD (e:=cM) (0:Int) Z Z Z Z Q Z Z Z) Z λk=>aC Z<|aK<|aI<|d_ (λu=>z_ U d o u=some r) (λu N=>[(1,vI (o)),(2,vP p),(5,k)]) (λu N=>[Ar cM k u,bH p [s,t] 27]) ?_ ?_
 ·refine aS<|aA Z<|aB (fG Z (aX (aE.res 0 Z) cU) Z) Z<|aA Z<|aK<|aU<|eH (Aa U d o) (λg w=>[(1,vI (o)),(2,vP p),(5,k),(16,vI (List.length (List.replicate (Int.toNat (List.length d.2:Int)) (0:Int)):Int)),(17,vI (g.1))]) (λg w=>[Ar cM k g.2,bH p [s,t] 27]) ((0:Int),(List.replicate (Int.toNat (List.length d.2:Int)) (0:Int))) () h SF (aY.refl _) ?_;intro R g w h;refine aS<|cP Z<|aK<|aI ?_;refine eZ h Z (λh=>?_) λh=>?_
  ·refine cE<|aI<|aU<|aS<|aA Z<|aC Z<|aK<|aR<|aA Z<|aA Z<|dK h λF h=>aB (aZ Z Z (aX (aE.res 0 Z) cU) Z Z F) Z<|BL 0 (-1:Int) F Z Z Z Z Z Z Z<|fF<|mP<|aR<|cO Z<|aA Z<|aK ?_;exact Ai ((wI .i64 (g.1+(1:Int))),(List.set g.2 (Int.toNat g.1) (-1:Int))) () h SF Z
  refine fE ?_;exact iI (g.2) () h SF Z
 intro u N h;refine aS<|aA Z<|aA Z<|dK h λO h=>aB (aZ Z Z (aX (aE.res 0 Z) cU) Z Z O) Z<|BL 0 (0:Int) O Z Z Z Z Z Z Z<|aK<|aS<|aA Z<|aG (cW (e:=cM) ([o]) [(0,vI (o))] Z Z Z Z (pP (vI (o)) Z) Z Z Z) Z λT=>aC Z<|aK<|aI<|d_ (λm=>uU  m=some r) (λm v=>[(5,k)]) (λm v=>[Ar cM k m]) ?_ ?_
 ·refine aU<|eH (B:=Value) (nX U d) (λa q=>[(2,vP p),(5,k),(7,q)]) (λa q=>[Ar cM q a.1,Ar cM k a.2,bH p [s,t] 27]) (([o]),(List.set u (Int.toNat o) (0:Int))) (T) h SF (aY.refl _) ?_;intro G a q h;refine aI<|aS<|aA Z<|aB (fG Z (aX (aE.res 0 Z) cU) Z) Z<|aB (Ah Z Z) Z<|aK ?_;refine eZ h Z (λh=>?_) λh=>?_
  ·refine cE<|aU<|aS<|aA Z<|dK h λy h=>aB (aZ Z Z (aX (aE.res 0 Z) cU) Z Z y) Z<|aB (bU Z (aX (aE.res 0 Z) cU) Z Z Z cS y) Z<|aC Z<|aK<|aS<|aA Z<|dK h λH h=>aG (MF 0 H Z Z Z Z Z Z) Z λK=>aC Z<|aK<|aS<|bX Z<|cJ 2 Z<|aA Z<|dK h λi h=>aB (cQ Z Z (aE.fact 1 Z) Z Z i) Z<|aB (cL Z (aE.fact 1 Z) Z Z i) Z<|aB (fG Z (aE.el (aE.fact 1 Z) i.1 i.2) Z) Z<|aA Z<|aK<|aU<|eH (B:=Value) (qW d a (bP (nX U d) G)) (λb j=>[(2,vP p),(5,k),(7,j),(8,vI (at' a.1 (0:Int))),(41,(at' M (at' a.1 (0:Int))).1),(42,vI (List.length (at' d.2 (at' a.1 (0:Int))):Int)),(43,vI (b.1))]) (λb j=>[Ar cM j b.2.1,Ar cM k b.2.2,bH p [s,t] 27]) ((0:Int),(List.drop (Int.toNat (1:Int)) a.1),a.2) (K) h SF (aY.refl _) ?_;intro J b j h;refine aS<|cP Z<|aK<|aI ?_;refine eZ h Z (λh=>?_) λh=>?_
   ·refine cE<|aI<|Cz (B:=Value) (λf=>qV b (bP (qW d a (bP (nX U d) G)) J) f=some r) (λf n=>[(2,vP p),(5,k),(7,n),(8,vI (at' a.1 (0:Int))),(41,(at' M (at' a.1 (0:Int))).1),(42,vI (List.length (at' d.2 (at' a.1 (0:Int))):Int)),(43,vI (b.1))]) (λf n=>[Ar cM n f.1,Ar cM k f.2,bH p [s,t] 27]) ?_ ?_
    ·refine aU<|aS<|dK h λA h=>aB (aZ Z Z (aE.el (aE.fact 1 Z) i.1 i.2) Z Z A) Z<|aB (c_ (cs:=[vI ((at' (at' d.2 (at' a.1 (0:Int))) b.1).1),vI ((at' (at' d.2 (at' a.1 (0:Int))) b.1).2)]) Z (aE.el (aE.fact 1 Z) i.1 i.2) bB Z Z Z Z A) Z<|aG (aJ.alloc (cs:=Ms) Z Z) Z λP=>bR 0 (vs:=[vI ((at' (at' d.2 (at' a.1 (0:Int))) b.1).1),vI ((at' (at' d.2 (at' a.1 (0:Int))) b.1).2)]) Z Z Z Z Z Z<|aK<|aS<|aA Z<|bX Z<|cJ 0 Z<|dK h λC h=>aB (aZ Z Z (aX (aE.res 2 Z) cU) Z Z C) Z<|aB (bU Z (aX (aE.res 2 Z) cU) Z Z Z cS C) Z<|cP Z<|aK ?_;refine eZ h Z (λh=>?_) λh=>?_
     ·refine aI ?_;refine JR.start [0,0,2,0,0,24,56,120,255,511] 8 mixedOrders (by decide +kernel) ?_;refine JR.open (by exact rfl) ?_;refine bE Z<|cN Z<|dY 0 Z<|bE Z<|bE Z<|dK h λD h=>bI Z (aY.cons 2 Z .nil) .nil (aZ Z Z (aX (aE.res 0 Z) cU) Z Z D) aN.z<|bI Z (aY.cons 2 Z .nil) .nil (bU Z (aX (aE.res 0 Z) cU) Z Z Z cS D) aN.z<|fY Z (zX Z Z)<|bK 8 Z Z<|dK h λE h=>aB (aZ Z Z (aX (aE.res 2 Z) cU) Z Z E) Z<|BL 2 (wI .i64 ((at' b.2.2 (at' a.1 (0:Int)))+(1:Int))) E Z Z Z Z Z Z Z<|aK<|aR<|aA Z<|bX Z<|cJ 0 Z<|aG (cW (e:=cM) ([((at' (at' d.2 (at' a.1 (0:Int))) b.1).1)]) [(0,vI ((at' (at' d.2 (at' a.1 (0:Int))) b.1).1))] Z Z Z Z (pP (vI ((at' (at' d.2 (at' a.1 (0:Int))) b.1).1)) Z) Z Z Z) Z λS=>dK h λI h=>aG (g_ 2 cU Z Z Z (aX (aE.res 0 Z) cU) Z Z Z Z I Z) Z λL=>aC Z<|fF<|mP ?_;exact bT ((b.2.1++([((at' (at' d.2 (at' a.1 (0:Int))) b.1).1)])),(List.set b.2.2 (Int.toNat ((at' (at' d.2 (at' a.1 (0:Int))) b.1).1)) (wI .i64 ((at' b.2.2 (at' a.1 (0:Int)))+(1:Int))))) (L) h SF (aY.ix [2,3,4] Z Z) (aD.refl _ _)
     refine dJ<|mP ?_;exact bT (b.2.1,b.2.2) (j) h SF (aY.ix [1,2,3] Z Z) (aD.refl _ _)
    intro f n h;unfold qV at h;refine aR<|cO Z<|aA Z<|aK ?_;exact Ai ((wI .i64 (b.1+(1:Int))),f.1,f.2) (n) h SF Z
   refine yJ<|iQ<|iQ<|BK<|mP ?_;exact Ai (b.2.1,b.2.2) (j) h SF Z
  refine fE ?_;exact bT (a.2) () h SF (aY.ix [1] Z Z) (aD.refl _ _)
 intro m v h;unfold uU at h;refine aS<|aA Z<|aC Z<|aK<|aP ?_;cases h;exact kC (k) Z Z (RV.tmp Z) (aY.refl _) aD.nil
def tS (b:cB) (a:gH):Option tO:=
 some ((b.1,a))
def lU (U:Nat) (b:CZ) (d:cB) (a:Int×gH) (c:(Int×gH)->Option tO) (e:Bool):Option tO:=
 if e=true then(ck (0<=a.1∧a.1<(List.length b.2.1:Int)) (Option.bind (fW U (at' b.2.1 a.1) (List.length d.2:Int)) λf=>(ck (0<=(wI .i64 (a.1+(1:Int)))∧(wI .i64 (a.1+(1:Int)))<(List.length b.2.1:Int)) (Option.bind (fW U (at' b.2.1 (wI .i64 (a.1+(1:Int)))) (List.length d.2:Int)) λg=>(Option.bind (sR U b.2.2.1 a.1) λh=>(Option.bind (fW U h (15:Int)) λi=>(Option.bind (m_ U ((b.1,b.2.1,b.2.2.1,b.2.2.2.1,b.2.2.2.2.1,b.2.2.2.2.2)) ((d.1,a.2)) f g (wI .i64 ((1:Int)+i))) λj=>(c ((wI .i64 (a.1+(2:Int))),j)))))))))else(tS d (a.2))
def oW (U:Nat) (c:CZ) (d:cB) (a:Int×gH) (b:(Int×gH)->Option tO):Option tO:=
 if(wI .i64 (a.1+(1:Int)))<(List.length c.2.1:Int)then(lU U c d a b (decide (a.1<(60:Int))))else(lU U c d a b (false))
def nA (U:Nat) (b:CZ) (a:cB):Option tO:=
 bP (oW U b a) U ((List.length a.2:Int),a.2)
theorem Z_:aQ Tryz.prog 25:=Tryz.call25
theorem Fc (U:Nat) {a:CZ} {e:cB} (n:Value)  (m:Value)  (o:Value)  (f:Value)  (g:Value)  (O:iP) (r:Cb) (h:nA U a e=some r):
  EO Tryz.prog 25 #[Value.agg #[vI (a.1),n,m,o,vB (a.2.2.2.2.1),vB (a.2.2.2.2.2)],Value.agg #[f,g]] [Ar cM f e.1,Ar eK.raw g O,k_ bS O e.2] [Sl bN n a.2.1,Sl bN m a.2.2.1,Sl bN o a.2.2.2.1] (λx:Value×Value×List Value=>Value.agg #[x.1,x.2.1]) (λx l=>Ar cM x.1 r.1::Ar eK.raw x.2.1 x.2.2::k_ bS x.2.2 r.2::l):=by
 refine EO.of (vs:=[Value.agg #[vI (a.1),n,m,o,vB (a.2.2.2.2.1),vB (a.2.2.2.2.2)],Value.agg #[f,g]]) Tryz.func25 Z Tryz.ntmps25 Z λc=>?_;unfold nA at h;refine aS<|aG (aJ.box (cs:=[vI (a.1),n,m,o,vB (a.2.2.2.2.1),vB (a.2.2.2.2.2)]) Z Z) Z λv=>aG (aJ.box (cs:=[f,g]) Z Z) Z λq=>aG (aJ.alloc (cs:=[lS,lS]) Z Z) Z λs=>aK<|aS<|bX Z<|cJ 1 Z<|aB (lY Z (bJ (i:=4) (j:=5) Z Z bB) Z) Z<|aC Z<|aK<|aI<|EM (B:=iP) (λt=>tS e t=some r) (λt u=>[(3,vP q),(4,vP s)]) (λt u=>[bH s [lS,lS] 27,bH q [f,g] 27,Ar cM f e.1,Ar eK.raw g u,k_ bS u t]) (λt u=>[Sl bN n a.2.1,Sl bN m a.2.2.1,Sl bN o a.2.2.2.1]) ?_ ?_
 ·refine aS<|aA Z<|aC Z<|aK<|aU<|HQ (B:=iP) (oW U a e) (λb d=>[(2,vP v),(3,vP q),(4,vP s),(5,vI (List.length e.2:Int)),(6,vI (b.1))]) (λb d=>[bH s [lS,lS] 27,bH q [f,g] 27,bH v [vI (a.1),n,m,o,vB (a.2.2.2.2.1),vB (a.2.2.2.2.2)] 24,Ar cM f e.1,Ar eK.raw g d,k_ bS d b.2]) (λb d=>[Sl bN n a.2.1,Sl bN m a.2.2.1,Sl bN o a.2.2.2.1]) ((List.length e.2:Int),e.2) (O) h SF (aY.refl _) (aD.refl _ _) ?_;intro J b d h;refine aI<|aI<|EM (B:=Unit) (λk=>lU U a e b (bP (oW U a e) J) k=some r) (λk p=>[(2,vP v),(3,vP q),(4,vP s),(5,vI (List.length e.2:Int)),(6,vI (b.1)),(20,vB (k))]) (λk p=>[bH s [lS,lS] 27,bH q [f,g] 27,bH v [vI (a.1),n,m,o,vB (a.2.2.2.2.1),vB (a.2.2.2.2.2)] 24,Ar cM f e.1,Ar eK.raw g d,k_ bS d b.2]) (λk p=>[Sl bN n a.2.1,Sl bN m a.2.2.1,Sl bN o a.2.2.2.1]) ?_ ?_
  ·refine aR<|aA Z<|cO Z<|bX Z<|cJ 2 Z<|iH (aE.fact 0 Z) Z<|cP Z<|aA Z ?_;refine Cd h Z (λ_ h=>?_) λ_ h=>?_
   ·refine eS Z<|aV Z (Hj Z Z) Z<|dU Z<|aK ?_;exact iI (decide (b.1<(60:Int))) () h SF Z
   refine aL Z<|aL Z<|e_ Z<|aK ?_;exact iI (false) () h SF Z
  intro k p h;refine yC h Z (λ_ h=>?_) λ_ h=>?_
  ·refine cE<|aI<|aU ?_;refine JR.start [0,0,0,4,0,28,60,0,252,0,512,0,2048,7680,15872,0,65532,0,131072,0,1048572,2097148,4194300,8388607] 23 mixedOrders (by decide +kernel) ?_;refine JR.open (by exact rfl) ?_;refine hZ 2 Z<|hZ 1 Z<|cN Z<|dY 2 Z<|bE Z<|dK h λE h=>bI Z .nil (h_ 0 Z) (aZ Z Z (aE.fact 0 Z) Z Z E) aN.z<|bI Z .nil (h_ 0 Z) (bU Z (aE.fact 0 Z) Z Z Z cS E) aN.z<|bE Z<|eL h λK w h=>JR.loud Z Z Z (aJ.callQ Co (jO U  K w) Z .nil) Z (λP=>(jV [([1],[]),([2],[])] Z)) λP=>fY Z (dR Z Z Z Z Z)<|bI Z (aY.cons 2 Z .nil) .nil (cK 0 Z Z Z Z Z) (aN.h (aY.ix [2] Z Z) .nil aN.z)<|fY Z (fC Z)<|fY Z (zX Z Z)<|dK h λF h=>bI Z .nil (h_ 0 Z) (aZ Z Z (aE.fact 0 Z) Z Z F) (aN.h .nil (h_ 0 Z) aN.z)<|bI Z .nil (h_ 0 Z) (bU Z (aE.fact 0 Z) Z Z Z cS F) (aN.h .nil (h_ 0 Z) aN.z)<|fY Z (fC Z)<|eL h λL y h=>JR.loud Z Z Z (aJ.callQ Co (jO U  L y) Z .nil) Z (λQ=>(jV [([1],[]),([2],[])] Z)) λQ=>fY Z (dR Z Z Z Z Z)<|bI Z (aY.cons 2 Z .nil) .nil (cK 0 Z Z Z Z Z) (aN.h (aY.ix [2] Z Z) .nil (aN.h (aY.ix [2] Z Z) .nil aN.z))<|fY Z (fC Z)<|eL h λM A h=>JR.loud Z Z Z (aJ.callQ IJ (AW U m M A) Z (lJ [1] Z)) Z (λR=>(jV [([1],[]),([2],[])] Z)) λR=>eL h λN C h=>JR.loud Z Z Z (aJ.callQ Co (jO U  N C) Z .nil) Z (λS=>(jV [([1],[]),([2],[])] Z)) λS=>fY Z (zX Z Z)<|bK 23 Z Z<|eL h λG D h=>aG (EN (Min:=[Ar eK.raw g d,k_ bS d b.2]) (Mr:=[bH s [lS,lS] 27,bH q [f,g] 27,bH v [vI (a.1),n,m,o,vB (a.2.2.2.2.1),vB (a.2.2.2.2.2)] 24,Ar cM f e.1]) Qm (AR U n m o f g d G D) Z (aY.ix [4,5,0,1,2,3] Z Z) (aD.cons (aE.fact 0 Z) (aD.cons (aE.fact 1 Z) (aD.cons (aE.fact 2 Z) (aD.cons (aX (aE.res 3 Z) cU) .nil)))) (λ_ _=>rfl)) Z λT=>fF<|mP<|aR<|aA Z<|cO Z<|aC Z<|aK ?_;exact lT ((wI .i64 (b.1+(2:Int))),G) (T) h SF (aY.ix [2,3,4,5,0,1] Z Z) (aD.refl _ _)
  refine fE ?_;exact bT (b.2) (d) h SF (aY.ix [0,1,3,4,5] Z Z) (aD.refl _ _)
 intro t u h;unfold tS at h;refine aS<|dM 1 Z<|dB (Know.one ((aX (aE.res 2 Z) cU))) λH=>dB (Know.one (aE.sl (bJ (i:=3) (j:=4) Z Z bB))) λI=>bR 0 (vs:=[f,g]) Z Z (dQ H (dQ I Z)) Z Z Z<|aK<|aP ?_;cases h;exact kC (f,g,u) Z Z (RV.cell 0 Z Z Z Z) (aY.ix [2,3,4] Z Z) aD.nil
def jF (U:Nat) (a:CZ) (d:Int):Option tO:=
 Option.bind (mZ U ((a.1,a.2.1,a.2.2.1,a.2.2.2.1,a.2.2.2.2.1,a.2.2.2.2.2)) d) λb=>(Option.bind (nA U ((a.1,a.2.1,a.2.2.1,a.2.2.2.1,a.2.2.2.2.1,a.2.2.2.2.2)) ((b.1,b.2))) λc=>(some ((c.1,c.2))))
theorem acW:aQ Tryz.prog 5:=Tryz.call5
theorem BZ (U:Nat) {a:CZ} {o:Int} (d:Value)  (e:Value)  (f:Value) (r:Cb) (h:jF U a o=some r):
  bA Tryz.prog 5 #[Value.agg #[vI (a.1),d,e,f,vB (a.2.2.2.2.1),vB (a.2.2.2.2.2)],vI (o)] [Sl bN d a.2.1,Sl bN e a.2.2.1,Sl bN f a.2.2.2.1] (λx:Value×Value×List Value=>Value.agg #[x.1,x.2.1]) (λx l=>Ar cM x.1 r.1::Ar eK.raw x.2.1 x.2.2::k_ bS x.2.2 r.2::l) (λ_ l=>l):=by
 refine bA.of Tryz.func5 Z Tryz.ntmps5 Z λc=>?_;refine aS<|aG (aJ.box (cs:=[vI (a.1),d,e,f,vB (a.2.2.2.2.1),vB (a.2.2.2.2.2)]) Z Z) Z λp=>aG (aJ.alloc (cs:=[lS,lS]) Z Z) Z λq=>aK<|aI ?_;refine JR.start [0,0,0,6,15,31] 4 mixedOrders (by decide +kernel) ?_;refine JR.open (by exact rfl) ?_;refine hZ 1 Z<|hZ 1 Z<|bE Z<|eL h λn t h=>JR.loud Z Z Z (aJ.callQ Un (AQ U d e f n t) Z (lJ [0,1,2] Z)) Z (λb=>(jV [([4],[])] Z)) λb=>bK 4 Z Z<|eL h λs u h=>aG (EN (Min:=[Ar cM b.1 n.1,Ar eK.raw b.2.1 b.2.2,k_ bS b.2.2 n.2]) (Mr:=[bH q [lS,lS] 27,bH p [vI (a.1),d,e,f,vB (a.2.2.2.2.1),vB (a.2.2.2.2.2)] 24]) Z_ (Fc U d e f b.1 b.2.1 b.2.2 s u) Z (aY.refl _) (lJ [0,1,2] Z) (λ_ _=>rfl)) Z λk=>dB (Know.one ((aX (aE.res 0 Z) cU))) λm=>dB (Know.one (aE.sl (bJ (i:=1) (j:=2) Z Z bB))) λg=>bR 3 (vs:=[k.1,k.2.1]) Z Z (dQ m (dQ g Z)) Z Z Z<|aK<|aP ?_;cases h;exact kC (k.1,k.2.1,k.2.2) Z Z (RV.cell 3 Z Z Z Z) (aY.ix [0,1,2] Z Z) aD.nil
def zZ  (a:Unit):Option (Int):=
 some (-1:Int)
def uT (c:cB) (d:Int) (e:Int) (a:Int) (b:(Int)->Option (Int)):Option (Int):=
 if a<(List.length (at' c.2 d):Int)then(ck (0<=a∧a<(List.length (at' c.2 d):Int)) (if((at' (at' c.2 d) a).1)=e then(some (a))else(b (wI .i64 (a+(1:Int))))))else(zZ  (()))
def pT (U:Nat) (b:cB) (a:Int) (c:Int):Option (Int):=
 ck (0<=a∧a<(List.length b.2:Int)) (bP (uT b a c) U (0:Int))
theorem Qw:aQ Tryz.prog 197:=Tryz.call197
theorem Dy (U:Nat) {a:cB} {b:Int} {i:Int} (j:Value)  (k:Value)  (o:mH) (r:Int) (h:pT U a b i=some r):
  bA Tryz.prog 197 #[Value.agg #[j,k],vI (b),vI (i)] [Sl bN j a.1,S2 aO k o a.2] (λx:Unit=>vI (r)) (λx l=>l) (λ_ l=>l):=by
 refine bA.of Tryz.func197 Z Tryz.ntmps197 Z λc=>?_;refine aS<|aG (aJ.box (cs:=[j,k]) Z Z) Z λq=>aC Z<|aK<|aI<|d_ (λg=>zZ  g=some r) (λg m=>[]) (λg m=>[]) ?_ ?_
 ·refine aS<|bX Z<|cJ 0 Z<|aA Z<|dK h λe h=>aB (cQ Z Z (aE.fact 1 Z) Z Z e) Z<|aB (cL Z (aE.fact 1 Z) Z Z e) Z<|aB (fG Z (aE.el (aE.fact 1 Z) e.1 e.2) Z) Z<|aA Z<|aK<|aU<|eH (uT a b i) (λd n=>[(2,vI (i)),(13,(at' o b).1),(14,vI (List.length (at' a.2 b):Int)),(15,vI (d))]) (λd n=>[]) (0:Int) () h SF .nil ?_;intro s d n h;refine aS<|cP Z<|aK<|aI ?_;refine eZ h Z (λh=>?_) λh=>?_
  ·refine cE<|aI<|aU<|aS<|aA Z<|dK h λf h=>aB (aZ Z Z (aE.el (aE.fact 1 Z) e.1 e.2) Z Z f) Z<|aB (c_ (cs:=[vI ((at' (at' a.2 b) d).1),vI ((at' (at' a.2 b) d).2)]) Z (aE.el (aE.fact 1 Z) e.1 e.2) bB Z Z Z Z f) Z<|aG (aJ.alloc (cs:=Ms) Z Z) Z λp=>aC Z<|bR 0 (vs:=[vI ((at' (at' a.2 b) d).1),vI ((at' (at' a.2 b) d).2)]) Z Z Z Z Z Z<|aK<|aS<|bX Z<|cJ 0 Z<|aA Z<|cC Z<|aK ?_;refine eZ h Z (λh=>?_) λh=>?_
   ·refine aS<|aA Z<|aC Z<|aK<|aP<|bO<|aH<|aH<|bO<|aH ?_;cases h;exact sV Z
   refine dJ<|mP<|aR<|cO Z<|aA Z<|aK ?_;exact lT (wI .i64 (d+(1:Int))) () h SF .nil (aD.refl _ _)
  refine fE ?_;exact iI () (()) h SF Z
 intro g m h;unfold zZ at h;refine aS<|aC Z<|aK<|aP ?_;cases h;exact kM Z
def sJ  (a:Unit):Option (Bool):=
 some (true)
def lE (c:Int) (a:(Int)->Option (Bool)) (b:Unit):Option (Bool):=
 a (wI .i64 (c+(1:Int)))
def gT (b:Int) (a:(Int)->Option (Bool)) (c:Bool):Option (Bool):=
 if c=true then(some (false))else(a (wI .i64 (b+(1:Int))))
def gS (e:bW) (d:Int) (a:Int) (b:(Int)->Option (Bool)) (c:eD):Option (Bool):=
 if(at' (at' e d) a)<c.1 then(gT a b (true))else(gT a b (decide (c.2<(at' (at' e d) a))))
def dG (g:cB) (d:bW) (f:aT) (b:Int) (e:(Int)->Option (Bool)) (a:Int) (c:(Int)->Option (Bool)):Option (Bool):=
 if a<(List.length (at' d b):Int)then(ck (0<=a∧a<(List.length (at' d b):Int)) (ck (0<=a∧a<(List.length f:Int)) (if(at' f a)=(-1:Int)then(ck (0<=b∧b<(List.length g.2:Int)) (gS d b a c ((-1:Int),(wI .i64 ((List.length (at' g.2 b):Int) - (1:Int))))))else(gS d b a c ((0:Int),(at' f a))))))else(lE b e (()))
def fR (U:Nat) (e:cB) (b:bW) (d:aT) (a:Int) (c:(Int)->Option (Bool)):Option (Bool):=
 if a<(List.length b:Int)then(ck (0<=a∧a<(List.length b:Int)) (if(List.length (at' b a):Int)≠(List.length d:Int)then(some (false))else(bP (dG e b d a c) U (0:Int))))else(sJ  (()))
def jX (U:Nat) (a:cB) (b:bW) (c:aT):Option (Bool):=
 if(List.length b:Int)≠(List.length a.1:Int)then(some (false))else(bP (fR U a b c) U (0:Int))
theorem aad:aQ Tryz.prog 36:=Tryz.call36
theorem Ep (U:Nat) {g:cB} {e:bW} {j:aT} (o:Value)  (p:Value)  (H:mH)  (q:Value)  (E:wL)  (s:Value) (r:Bool) (h:jX U g e j=some r):
  bA Tryz.prog 36 #[Value.agg #[o,p],q,s] [Sl bN o g.1,S2 aO p H g.2,S2 bN q E e,Sl bN s j] (λx:Unit=>vB (r)) (λx l=>l) (λ_ l=>l):=by
 refine bA.of Tryz.func36 Z Tryz.ntmps36 Z λc=>?_;refine aS<|aG (aJ.box (cs:=[o,p]) Z Z) Z λk=>aC Z<|aK<|aI<|aS<|aA Z<|aB (lY Z (aE.fact 2 Z) Z) Z<|bX Z<|cJ 0 Z<|iH (aE.fact 0 Z) Z<|oT Z<|aK ?_;refine eZ h Z (λh=>?_) λh=>?_
 ·refine aS<|aC Z<|aK<|aP<|aH ?_;cases h;exact sV Z
 refine cE<|aI<|d_ (λC=>sJ  C=some r) (λC F=>[]) (λC F=>[]) ?_ ?_
 ·refine aS<|aA Z<|aB (lY Z (aE.fact 2 Z) Z) Z<|aA Z<|aK<|aU<|eH (fR U g e j) (λa G=>[(2,s),(3,vP k),(19,q),(20,vI (List.length e:Int)),(21,vI (a))]) (λa G=>[bH k [o,p] 27]) (0:Int) () h SF (aY.refl _) ?_;intro D a G h;refine aS<|cP Z<|aK<|aI ?_;refine eZ h Z (λh=>?_) λh=>?_
  ·refine cE<|aI<|d_ (λm=>lE a (bP (fR U g e j) D) m=some r) (λm t=>[(2,s),(3,vP k),(19,q),(20,vI (List.length e:Int)),(21,vI (a))]) (λm t=>[bH k [o,p] 27]) ?_ ?_
   ·refine aU<|aS<|aA Z<|dK h λd h=>aB (cQ Z Z (aE.fact 2 Z) Z Z d) Z<|aB (cL Z (aE.fact 2 Z) Z Z d) Z<|aC Z<|aC Z<|aK<|aI<|aS<|aA Z<|aB (fG Z (aE.el (aE.fact 2 Z) d.1 d.2) Z) Z<|aA Z<|iH (aE.fact 3 Z) Z<|oT Z<|aK ?_;refine eZ h Z (λh=>?_) λh=>?_
    ·refine aS<|aC Z<|aK<|aP<|aH<|bO<|aH<|aH<|bO<|aH ?_;cases h;exact sV Z
    refine cE<|aS<|aA Z<|aB (fG Z (aE.el (aE.fact 2 Z) d.1 d.2) Z) Z<|aA Z<|aK<|aU<|eH (dG g e j a (bP (fR U g e j) D)) (λb u=>[(2,s),(3,vP k),(7,vI (a)),(19,q),(20,vI (List.length e:Int)),(21,vI (a)),(31,(at' E a).1),(32,vI (List.length (at' e a):Int)),(33,vI (b))]) (λb u=>[bH k [o,p] 27]) (0:Int) () h SF (aY.refl _) ?_;intro B b u h;refine aS<|cP Z<|aK<|aI ?_;refine eZ h Z (λh=>?_) λh=>?_
    ·refine cE<|aI<|aU<|aS<|aA Z<|dK h λy h=>aB (aZ Z Z (aE.el (aE.fact 2 Z) d.1 d.2) Z Z y) Z<|aB (bU Z (aE.el (aE.fact 2 Z) d.1 d.2) Z Z Z cS y) Z<|aC Z<|aC Z<|aK<|aI ?_;refine JR.start [0,0,3,7,0,31] 5 mixedOrders (by decide +kernel) ?_;refine JR.open (by exact rfl) ?_;refine bE Z<|bE Z<|dK h λA h=>bI Z .nil (h_ 3 Z) (aZ Z Z (aE.fact 0 Z) Z Z A) aN.z<|bI Z .nil (h_ 3 Z) (bU Z (aE.fact 0 Z) Z Z Z cS A) aN.z<|fY Z (tY Z)<|bK 5 Z Z<|aC Z<|aK<|aI<|d_ (λf=>gS e a b (bP (dG g e j a (bP (fR U g e j) D)) B) f=some r) (λf v=>[(2,s),(3,vP k),(7,vI (a)),(10,vI (at' (at' e a) b)),(11,vI (f.1)),(12,vI (f.2)),(19,q),(20,vI (List.length e:Int)),(21,vI (a)),(31,(at' E a).1),(32,vI (List.length (at' e a):Int)),(33,vI (b))]) (λf v=>[bH k [o,p] 27]) ?_ ?_
     ·refine aS<|aA Z<|cC Z<|aK ?_;refine eZ h Z (λh=>?_) λh=>?_
      ·refine JR.start [0,1,0,7,15,31,63,0,255] 8 mixedOrders (by decide +kernel) ?_;refine JR.open (by exact rfl) ?_;refine cN Z<|dY 0 Z<|bE Z<|dK h λn h=>bI Z .nil (h_ 1 Z) (cQ Z Z (aE.fact 0 Z) Z Z n) aN.z<|bI Z .nil (h_ 1 Z) (cL Z (aE.fact 0 Z) Z Z n) aN.z<|bI Z .nil (h_ 1 Z) (fG Z (aE.el (aE.fact 0 Z) n.1 n.2) Z) aN.z<|fY Z (mJ Z Z)<|fY Z (tY Z)<|bK 8 Z Z<|aC Z<|aK ?_;exact iI ((-1:Int),(wI .i64 ((List.length (at' g.2 a):Int) - (1:Int)))) () h SF Z
      refine cE ?_;exact iI ((0:Int),(at' j b)) () h SF Z
     intro f v h;refine aI<|d_ (λi=>gT b (bP (dG g e j a (bP (fR U g e j) D)) B) i=some r) (λi w=>[(2,s),(3,vP k),(7,vI (a)),(19,q),(20,vI (List.length e:Int)),(21,vI (a)),(31,(at' E a).1),(32,vI (List.length (at' e a):Int)),(33,vI (b)),(58,vB (i))]) (λi w=>[bH k [o,p] 27]) ?_ ?_
     ·refine aR<|aA Z<|aA Z<|cP Z<|aA Z ?_;refine Cd h Z (λ_ h=>?_) λ_ h=>?_
      ·refine aL Z<|aL Z<|aL Z<|dU Z<|aK ?_;exact iI (true) () h SF Z
      refine eS Z<|eS Z<|aV Z (Ah Z Z) Z<|e_ Z<|aK ?_;exact iI (decide (f.2<(at' (at' e a) b))) () h SF Z
     intro i w h;refine yC h Z (λ_ h=>?_) λ_ h=>?_
     ·refine aS<|aC Z<|aK<|aP<|bO<|aH<|aH<|bO<|bO<|aH<|aH<|bO<|aH ?_;cases h;exact sV Z
     refine dJ<|mP<|aR<|cO Z<|aA Z<|aK ?_;exact Ai (wI .i64 (b+(1:Int))) () h SF Z
    refine yJ<|iQ<|iQ<|BK<|mP ?_;exact iI () (()) h SF Z
   intro m t h;unfold lE at h;refine aR<|cO Z<|aA Z<|aK ?_;exact Ai (wI .i64 (a+(1:Int))) () h SF Z
  refine fE ?_;exact bT () (()) h SF .nil (aD.refl _ _)
 intro C F h;unfold sJ at h;refine aS<|aC Z<|aK<|aP ?_;cases h;exact kM Z
def mN (U:Nat) (a:cB) (c:Int) (b:Bool):Option aT:=
 if b=true then(some ([]:aT))else(Option.bind (pU U ((a.1,a.2)) c) λd=>(some (d)))
def gM (U:Nat) (a:cB) (b:Int):Option aT:=
 Option.bind (eM U ((a.1,a.2))) λc=>(if(!c)=true then(mN U a b (true))else(if b<(0:Int)then(mN U a b (true))else(mN U a b (decide ((List.length a.2:Int)<=b)))))
theorem Ur:aQ Tryz.prog 39:=Tryz.call39
theorem Br (U:Nat) {f:cB} {g:Int} (b:Value)  (d:Value)  (j:mH) (r:aT) (h:gM U f g=some r):
  bA Tryz.prog 39 #[Value.agg #[b,d],vI (g)] [Sl bN b f.1,S2 aO d j f.2] (λx:Value=>x) (λx l=>Ar cM x r::l) (λ_ l=>l):=by
 refine bA.of Tryz.func39 Z Tryz.ntmps39 Z λc=>?_;refine aS<|aG (aJ.box (cs:=[b,d]) Z Z) Z λk=>aC Z<|aK<|aI<|aI<|d_ (λe=>mN U f g e=some r) (λe m=>[(1,vI (g)),(2,vP k),(18,vB (e))]) (λe m=>[bH k [b,d] 27]) ?_ ?_
 ·refine aR<|dM 0 Z<|eL h λo i h=>aG (aJ.callQ Gv (rO U b d j o i) Z (lJ [0,1] Z)) Z λq=>aB (iZ Z) Z<|aA Z ?_;refine Cf (by exact rfl) (by exact rfl) (λa=>?_) (λa=>?_)
  ·have h:=Ie a h;refine aL Z<|aL Z<|dU Z<|aA Z<|aL Z<|aL Z<|aL Z<|aL Z<|aL Z<|dU Z<|aK ?_;exact iI (true) () h SF Z
  have h:=Je a h;refine eS Z<|aV Z (Hj Z Z) Z<|e_ Z<|aA Z ?_;refine Cd h Z (λ_ h=>?_) λ_ h=>?_
  ·refine aL Z<|aL Z<|aL Z<|aL Z<|aL Z<|dU Z<|aK ?_;exact iI (true) () h SF Z
  refine eS Z<|aV Z (dR Z Z Z Z Z) Z<|aV Z (cK 0 Z Z Z Z Z) Z<|aV Z (lY Z (aE.fact 1 Z) Z) Z<|aV Z (wP Z Z) Z<|e_ Z<|aK ?_;exact iI (decide ((List.length f.2:Int)<=g)) () h SF Z
 intro e m h;refine yC h Z (λ_ h=>?_) λ_ h=>?_
 ·refine aS<|aC Z<|aK<|aP<|aH<|jY (f_ cM) ?_;cases h;exact kC (lS) Z Z (RV.tmp Z) (aY.ix [0] Z Z) aD.nil
 refine cE<|aS<|dM 0 Z<|aA Z<|eL h λn p h=>aG (aJ.callQ Qp (Dz U b d j n p) Z (lJ [0,1] Z)) Z λs=>aC Z<|aK<|aP ?_;cases h;exact kC (s) Z Z (RV.tmp Z) (aY.ix [0] Z Z) aD.nil
def qC  (a:Unit):Option (Bool):=
 some (true)
def kP (c:aT) (a:Int) (b:(Int)->Option (Bool)):Option (Bool):=
 if a<(List.length c:Int)then(ck (0<=a∧a<(List.length c:Int)) (if(at' c a)<(0:Int)then(some (false))else(b (wI .i64 (a+(1:Int))))))else(qC  (()))
def iF (U:Nat) (a:cB):Option (Bool):=
 Option.bind (eM U ((a.1,a.2))) λb=>(if(!b)=true then(some (false))else(Option.bind (pU U ((a.1,a.2)) (0:Int)) λc=>(bP (kP c) U (0:Int))))
theorem Us:aQ Tryz.prog 43:=Tryz.call43
theorem Bq (U:Nat) {k:cB} (e:Value)  (f:Value)  (m:mH) (r:Bool) (h:iF U k=some r):
  bA Tryz.prog 43 #[Value.agg #[e,f]] [Sl bN e k.1,S2 aO f m k.2] (λx:Unit=>vB (r)) (λx l=>l) (λ_ l=>l):=by
 refine bA.of Tryz.func43 Z Tryz.ntmps43 Z λc=>?_;refine aS<|aG (aJ.box (cs:=[e,f]) Z Z) Z λt=>aC Z<|aK<|aI<|aS<|dM 0 Z<|eL h λp q h=>aG (aJ.callQ Gv (rO U e f m p q) Z (lJ [0,1] Z)) Z λu=>aB (iZ Z) Z<|aK ?_;refine yC h Z (λ_ h=>?_) λ_ h=>?_
 ·refine aS<|aC Z<|aK<|aP<|aH ?_;cases h;exact sV Z
 refine cE<|aI<|d_ (λi=>qC  i=some r) (λi n=>[]) (λi n=>[]) ?_ ?_
 ·refine aS<|dM 0 Z<|eL h λj s h=>aG (aJ.callQ Qp (Dz U e f m j s) Z (lJ [0,1] Z)) Z λg=>aB (fG Z (aX (aE.res 0 Z) cU) Z) Z<|aA Z<|aK<|aU<|eH (kP j) (λa b=>[(9,g),(10,vI (List.length j:Int)),(11,vI (a))]) (λa b=>[Ar cM g j]) (0:Int) () h SF (aY.ix [0] Z Z) ?_;intro o a b h;refine aS<|cP Z<|aK<|aI ?_;refine eZ h Z (λh=>?_) λh=>?_
  ·refine cE<|aI<|aU<|aS<|dK h λd h=>aB (aZ Z Z (aX (aE.res 0 Z) cU) Z Z d) Z<|aB (bU Z (aX (aE.res 0 Z) cU) Z Z Z cS d) Z<|aC Z<|aK<|aS<|aA Z<|cP Z<|aK ?_;refine eZ h Z (λh=>?_) λh=>?_
   ·refine aS<|aC Z<|aK<|aP<|bO<|aH<|aH<|bO<|aH ?_;cases h;exact sV Z
   refine dJ<|mP<|aR<|cO Z<|aA Z<|aK ?_;exact Ai (wI .i64 (a+(1:Int))) () h SF Z
  refine fE ?_;exact bT () (()) h SF .nil (aD.refl _ _)
 intro i n h;unfold qC at h;refine aS<|aC Z<|aK<|aP ?_;cases h;exact kM Z
def xT (U:Nat) (a:ByteArray) (b:Int) (c:Int) (d:Int):Option ((ByteArray×Int×Int×Int×Int×Int)):=
 some ((a,(1:Int),(0:Int),b,c,d))
theorem Up:aQ Tryz.prog 33:=Tryz.call33
theorem DD (U:Nat) {a:ByteArray} {b:Int} {d:Int} {e:Int} (r:Rx) (h:xT U a b d e=some r):
  bA Tryz.prog 33 #[vS (a),vI (b),vI (d),vI (e)] [] (λx:Unit=>Value.agg #[vS (r.1),vI (r.2.1),vI (r.2.2.1),vI (r.2.2.2.1),vI (r.2.2.2.2.1),vI (r.2.2.2.2.2)]) (λx l=>l) (λ_ l=>l):=by
 refine bA.of Tryz.func33 Z Tryz.ntmps33 Z λc=>?_;unfold xT at h;refine aS<|aG (aJ.alloc (cs:=vD4) Z Z) Z λf=>aK<|aS<|aA Z<|aA Z<|aA Z<|aA Z ?_;refine aB (Y.bld5 (r:=Value.agg #[vS (a),vI (1:Int),vI (0:Int),vI (b),vI (d),vI (e)]) Z Z Z Z Z (by intro w;simp[Instr.build,Instr.fill,eP,dV,dH,eQ,eR,dW,fS])) Z ?_;refine bR 0 (vs:=[vS (a),vI (1:Int),vI (0:Int),vI (b),vI (d),vI (e)]) Z Z Z Z Z Z<|aK<|aP ?_;cases h;exact kC () Z Z (RV.cell 0 Z Z Z Z) .nil aD.nil
def vH  (a:bW):Option bW:=
 some (a)
def Af (a:bW×Int) (c:(bW×Int)->Option bW) (b:aT):Option bW:=
 ck ((List.length a.1:Int)+(List.length ([b]):Int)<=1099511627) (c ((a.1++[b]),(wI .i64 (a.2+(1:Int)))))
def n_ (U:Nat) (g:Hy) (h:aT) (e:bW×Int) (a:aT×Int) (c:(aT×Int)->Option bW) (b:eD):Option bW:=
 Option.bind (sR U h (wI .i64 ((wI .i64 (e.2*(List.length g:Int)))+a.2))) λf=>(Option.bind (fW U f (wI .i64 ((wI .i64 (b.2 - b.1))+(1:Int)))) λd=>(ck ((List.length a.1:Int)+(List.length ([(wI .i64 (b.1+d))]):Int)<=1099511627) (c ((a.1++([(wI .i64 (b.1+d))])),(wI .i64 (a.2+(1:Int)))))))
def oA (U:Nat) (f:cB) (c:Hy) (g:aT) (h:Int) (b:bW×Int) (e:(bW×Int)->Option bW) (a:aT×Int) (d:(aT×Int)->Option bW):Option bW:=
 if a.2<(List.length c:Int)then(ck (0<=a.2∧a.2<(List.length c:Int)) (ck (0<=a.2∧a.2<(List.length c:Int)) (ck (0<=a.2∧a.2<(List.length c:Int)) (ck (0<=a.2∧a.2<(List.length c:Int)) (ck (0<=a.2∧a.2<(List.length c:Int)) (if((at' c a.2).2.1)=(2:Int)then(n_ U c g b a d ((0:Int),(1:Int)))else(if((at' c a.2).2.1)=(3:Int)then(ck (0<=b.2∧b.2<(List.length f.2:Int)) (n_ U c g b a d ((-1:Int),(wI .i64 ((List.length (at' f.2 b.2):Int) - (1:Int))))))else(n_ U c g b a d (((at' c a.2).2.2.1),(wI .i64 ((wI .i64 (((at' c a.2).2.2.2.1)+(wI .i64 (((at' c a.2).2.2.2.2.1)*(List.length f.2:Int)))))+(wI .i64 (((at' c a.2).2.2.2.2.2)*h)))))))))))))else(Af b e (a.1))
def kA (U:Nat) (c:cB) (e:Hy) (f:aT) (d:Int) (a:bW×Int) (b:(bW×Int)->Option bW):Option bW:=
 if a.2<(List.length c.2:Int)then(bP (oA U c e f d a b) U (([]:aT),(0:Int)))else(vH  (a.1))
def rD (U:Nat) (b:cB) (c:Hy) (d:aT) (a:Int):Option bW:=
 bP (kA U b c d a) U (([]:bW),(0:Int))
def vJ (U:Nat) (c:cB) (d:Hy) (e:aT) (a:eD) (b:iO->Option bW):Option bW:=
 if a.2<(List.length c.2:Int)then(ck (0<=a.2∧a.2<(List.length c.1:Int)) (b ((max a.1 (at' c.1 a.2)),(wI .i64 (a.2+(1:Int))))))else(rD U c d e (a.1))
def nE (U:Nat) (a:cB) (b:Hy) (c:aT):Option bW:=
 bP (vJ U a b c) U ((0:Int),(0:Int))
theorem IM:aQ Tryz.prog 9:=Tryz.call9
theorem nH (U:Nat) {g:cB} {n:Hy} {s:aT} (v:Value)  (w:Value)  (z2:mH)  (F:Value)  (y:Value) (r:bW) (h:nE U g n s=some r):
  bA Tryz.prog 9 #[Value.agg #[v,w],F,y] [Sl bN v g.1,S2 aO w z2 g.2,Sl aW F n,Sl bN y s] (λx:Value×List Value=>x.1) (λx l=>Ar eK.raw x.1 x.2::k_ cM x.2 r::l) (λ_ l=>l):=by
 refine bA.of Tryz.func9 Z Tryz.ntmps9 Z λc=>?_;unfold nE at h;refine aS<|aG (aJ.box (cs:=[v,w]) Z Z) Z λp=>aC Z<|aK<|aS<|bX Z<|cJ 0 Z<|aB (lY Z (aE.fact 1 Z) Z) Z<|aC Z<|aC Z<|aK<|aI<|d_ (λk=>rD U g n s k=some r) (λk b4=>[(1,F),(2,y),(3,vP p),(7,vI (List.length g.2:Int)),(8,vI (k))]) (λk b4=>[bH p [v,w] 27]) ?_ ?_
 ·refine aS<|aC Z<|aK<|aU<|eH (vJ U g n s) (λi J=>[(1,F),(2,y),(3,vP p),(7,vI (List.length g.2:Int)),(8,vI (i.1)),(9,vI (i.2))]) (λi J=>[bH p [v,w] 27]) ((0:Int),(0:Int)) () h SF (aY.refl _) ?_;intro ac i J h;refine aI<|aS<|aA Z<|aA Z<|cP Z<|aK ?_;refine eZ h Z (λh=>?_) λh=>?_
  ·refine cE<|aI<|aU<|aR<|aA Z<|bX Z<|cJ 0 Z<|aA Z<|dK h λQ h=>aB (aZ Z Z (aE.fact 0 Z) Z Z Q) Z<|aB (bU Z (aE.fact 0 Z) Z Z Z cS Q) Z<|aB (Nc Z Z) Z<|aC Z<|fF<|mP<|aR<|aA Z<|cO Z<|aC Z<|aK ?_;exact Ai ((max i.1 (at' g.1 i.2)),(wI .i64 (i.2+(1:Int)))) () h SF Z
  refine fE ?_;exact iI (i.1) () h SF Z
 intro k b4 h;unfold rD at h;refine aS<|aC Z<|aK<|aI<|Cz (B:=Value×List Value) (λH=>vH  H=some r) (λH A=>[(10,A.1)]) (λH A=>[Ar eK.raw A.1 A.2,k_ cM A.2 H]) ?_ ?_
 ·refine aS<|aC Z<|aK<|aU<|jY (f_ eK.raw) (jY (Bf cM) ?_);refine eH (B:=Value×List Value) (kA U g n s k) (λb a=>[(1,F),(2,y),(3,vP p),(7,vI (List.length g.2:Int)),(8,vI (k)),(10,a.1),(11,vI (b.2))]) (λb a=>[bH p [v,w] 27,Ar eK.raw a.1 a.2,k_ cM a.2 b.1]) (([]:bW),(0:Int)) ((lS),([]:iP)) h SF (aY.ix [2,1,0] Z Z) ?_;intro G b a h;refine aI<|aS<|aA Z<|aA Z<|cP Z<|aK ?_;refine eZ h Z (λh=>?_) λh=>?_
  ·refine cE<|aI<|aU<|aS<|aC Z<|aK<|aI<|Cz (B:=Value) (λo=>Af b (bP (kA U g n s k) G) o=some r) (λo j=>[(1,F),(2,y),(3,vP p),(7,vI (List.length g.2:Int)),(8,vI (k)),(10,a.1),(11,vI (b.2)),(12,j)]) (λo j=>[bH p [v,w] 27,Ar eK.raw a.1 a.2,k_ cM a.2 b.1,Ar cM j o]) ?_ ?_
   ·refine aS<|aC Z<|aK<|aU<|jY (f_ cM)<|eH (B:=Value) (oA U g n s k b (bP (kA U g n s k) G)) (λd m=>[(1,F),(2,y),(3,vP p),(7,vI (List.length g.2:Int)),(8,vI (k)),(10,a.1),(11,vI (b.2)),(12,m),(13,vI (d.2))]) (λd m=>[bH p [v,w] 27,Ar eK.raw a.1 a.2,k_ cM a.2 b.1,Ar cM m d.1]) (([]:aT),(0:Int)) (lS) h SF (aY.ix [1,2,3,0] Z Z) ?_;intro S d m h;refine aI<|aS<|aA Z<|aA Z<|iH (aE.fact 2 Z) Z<|cP Z<|aK ?_;refine eZ h Z (λh=>?_) λh=>?_
    ·refine cE<|aI<|aU<|aI ?_;refine JR.start [0,0,3,7,15,0,0,96,224,480,0,0,3072,7168,15360,0,64512,131040,0,0,786432,1835008,3932160,0,16515072,33554400,31,134217727] 27 mixedOrders (by decide +kernel) ?_;refine JR.open (by exact rfl) ?_;refine bE Z<|bE Z<|dK h λL h=>bI Z .nil (h_ 2 Z) (aZ Z Z (aE.fact 0 Z) Z Z L) aN.z<|fY Z (mC Z Z Z Z Z)<|bI Z .nil (h_ 2 Z) (jK Z (aE.fact 0 Z) Z Z Z CU L) aN.z<|bE Z<|bE Z<|dK h λM h=>bI Z .nil (h_ 2 Z) (aZ Z Z (aE.fact 0 Z) Z Z M) aN.z<|fY Z (mC Z Z Z Z Z)<|bI Z .nil (h_ 2 Z) (jK Z (aE.fact 0 Z) Z Z Z CV M) aN.z<|bE Z<|bE Z<|dK h λN h=>bI Z .nil (h_ 2 Z) (aZ Z Z (aE.fact 0 Z) Z Z N) aN.z<|fY Z (mC Z Z Z Z Z)<|bI Z .nil (h_ 2 Z) (jK Z (aE.fact 0 Z) Z Z Z CW N) aN.z<|bE Z<|fY Z (tQ Z Z)<|fY Z (zX Z Z)<|bE Z<|bE Z<|dK h λO h=>bI Z .nil (h_ 2 Z) (aZ Z Z (aE.fact 0 Z) Z Z O) aN.z<|fY Z (mC Z Z Z Z Z)<|bI Z .nil (h_ 2 Z) (jK Z (aE.fact 0 Z) Z Z Z CX O) aN.z<|bE Z<|fY Z (tQ Z Z)<|fY Z (zX Z Z)<|fY Z (tY Z)<|bK 27 Z Z<|aC Z<|aK<|aI<|d_ (λf=>n_ U n s b d (bP (oA U g n s k b (bP (kA U g n s k) G)) S) f=some r) (λf I=>[(1,F),(2,y),(3,vP p),(7,vI (List.length g.2:Int)),(8,vI (k)),(10,a.1),(11,vI (b.2)),(12,m),(13,vI (d.2)),(14,vI (f.1)),(15,vI (f.2))]) (λf I=>[bH p [v,w] 27,Ar eK.raw a.1 a.2,k_ cM a.2 b.1,Ar cM m d.1]) ?_ ?_
     ·refine aS<|aA Z<|aA Z<|dK h λP h=>aB (aZ Z Z (aE.fact 2 Z) Z Z P) Z<|aB (mC Z Z Z Z Z) Z<|aB (jK Z (aE.fact 2 Z) Z Z Z yG P) Z<|aK<|aU<|aS<|cC Z<|aC Z<|aK ?_;refine eZ h Z (λh=>?_) λh=>?_
      ·refine aR<|aC Z<|aC Z<|fF<|mP ?_;exact iI ((0:Int),(1:Int)) () h SF Z
      refine aS<|cC Z<|aC Z<|aK ?_;refine eZ h Z (λh=>?_) λh=>?_
      ·refine JR.start [0,1,0,7,15,31,63,0,255] 8 mixedOrders (by decide +kernel) ?_;refine JR.open (by exact rfl) ?_;refine cN Z<|dY 0 Z<|bE Z<|dK h λu h=>bI Z .nil (h_ 1 Z) (cQ Z Z (aE.fact 0 Z) Z Z u) aN.z<|bI Z .nil (h_ 1 Z) (cL Z (aE.fact 0 Z) Z Z u) aN.z<|bI Z .nil (h_ 1 Z) (fG Z (aE.el (aE.fact 0 Z) u.1 u.2) Z) aN.z<|fY Z (mJ Z Z)<|fY Z (tY Z)<|bK 8 Z Z<|aC Z<|fF<|mP ?_;exact iI ((-1:Int),(wI .i64 ((List.length (at' g.2 b.2):Int) - (1:Int)))) () h SF Z
      refine dJ<|mP ?_;exact iI (((at' n d.2).2.2.1),(wI .i64 ((wI .i64 (((at' n d.2).2.2.2.1)+(wI .i64 (((at' n d.2).2.2.2.2.1)*(List.length g.2:Int)))))+(wI .i64 (((at' n d.2).2.2.2.2.2)*k))))) () h SF Z
     intro f I h;refine aR<|aA Z<|aA Z<|aA Z<|aA Z<|aA Z<|iH (aE.fact 2 Z) Z<|aB (tQ Z Z) Z<|aA Z<|cO Z<|eL h λW aa h=>aG (aJ.callQ IJ (AW U y W aa) Z (lJ [3] Z)) Z λaf=>aA Z<|aA Z<|aB (mJ Z Z) Z<|cO Z<|eL h λt ab h=>aG (aJ.callQ Co (jO U  t ab) Z .nil) Z λag=>cO Z<|aG (cW (e:=cM) ([(wI .i64 (f.1+t))]) [(0,vI (wI .i64 (f.1+t)))] Z Z Z Z (pP (vI (wI .i64 (f.1+t))) Z) Z Z Z) Z λae=>dK h λR h=>aG (g_ 4 cU Z Z Z (aX (aE.res 0 Z) cU) Z Z Z Z R Z) Z λY=>aC Z<|fF<|mP<|aR<|aA Z<|cO Z<|aC Z<|aK ?_;exact lT ((d.1++([(wI .i64 (f.1+t))])),(wI .i64 (d.2+(1:Int)))) (Y) h SF (aY.ix [1,2,3,4] Z Z) (aD.refl _ _)
    refine fE ?_;exact iI (d.1) (m) h SF Z
   intro o j h;refine aR<|aA Z<|aA Z<|jY (Bf cM)<|dB (Know.one ((aX (aE.res 4 Z) cU))) λE=>jY (OU 0 4 Z Z Z) ?_;refine aG (cW (e:=eK.raw) [j] [(0,j)] Z Z Z Z (pP (j) E) Z Z (by simp[cellsOf,eK.raw,E])) Z λad=>?_;refine dB (cY 4 Z) λC=>dB (cY 1 Z) λD=>dK h λK h=>jY (MV 4 1 Z Z Z) ?_;refine aG (aJ.append 2 0 Z Z Z Z Z Z Z (by have q:=K;have T:=C;have V:=D;(try simp only[List.length_cons,List.length_nil]at q T V ⊢);omega) (by have q:=K;have T:=C;have V:=D;(try simp only[List.length_cons,List.length_nil]at q T V ⊢);omega) Z) Z λX=>?_;refine aC Z<|fF<|mP<|aR<|aA Z<|cO Z<|aC Z<|aK ?_;exact lT ((b.1++[o]),(wI .i64 (b.2+(1:Int)))) (X,(a.2++[j])) h SF (aY.ix [1,2,3] Z Z) (aD.refl _ _)
  refine fE ?_;exact bT (b.1) (a.1,a.2) h SF (aY.ix [1,2] Z Z) (aD.refl _ _)
 intro H A h;unfold vH at h;refine aS<|aA Z<|aC Z<|aK<|aP ?_;cases h;exact kC (A.1,A.2) Z Z (RV.tmp Z) (aY.refl _) aD.nil
end Go.Proofs.YtjkjpdonlpdcaaaGreatDoor
namespace Go.Proofs.YtjkjpdonlpdcaaaGreatDoor
open Go.Sx
theorem Ig {R:Type} {step:Int->(Int->Option R)->Option R} {K:Option R} {bad:R} (N:Nat) (p:Nat->Prop)
  (r:∀(k:Nat) c,k<N->p k->step k c=c ((k:Int)+1)) (i:∀(k:Nat) c,k<N->¬p k->step k c=some bad) (j:∀c,step N c=K):
  ∀(b:Nat),N<b->((∀k,k<N->p k)->bP step b 0=K)∧(¬(∀k,k<N->p k)->bP step b 0=some bad):=by
 intro b q;have s:∀(d a b:Nat),a+d=N->d<b->((∀k,a<=k->k<N->p k)->bP step b (a:Int)=K)∧(¬(∀k,a<=k->k<N->p k)->bP step b (a:Int)=some bad):=by
  intro d
  induction d with
  |zero=>
   intro a b v q;obtain rfl:a=N:=by omega
   cases b with
   |zero=>omega
   |succ f=>exact⟨λ_=>j _,λh=>absurd (λk m g=>by omega) h⟩
  | succ d ih =>
   intro a b v q;cases b with
   |zero=>omega
   | succ f =>
    obtain⟨t,u⟩:=ih (a+1) f (by omega) (by omega);have e:((a+1:Nat):Int)=(a:Int)+1:=by omega
    rw[e]at t u;by_cases n:p a
    ·have w:bP step (f+1) (a:Int)=bP step f ((a:Int)+1):=r a _ (by omega) n;rw[w];refine⟨λh=>t λk m g=>h k (by omega) g,λh=>u λo=>h λk m g=> ?_⟩
     by_cases l:k=a
     ·subst l;exact n
     ·exact o k (by omega) g
    ·exact⟨λh=>absurd (h a (Nat.le_refl _) (by omega)) n,λ_=>i a _ (by omega) n⟩
 obtain⟨m,g⟩:=s N 0 b (by omega) q;exact⟨λh=>m λk _ l=>h k l,λh=>g λo=>h λk l=>o k (by omega) l⟩
abbrev GR:=List Int×gH
abbrev row (g:GR) (v:Nat):b_:=at' g.2 (v:Int)
abbrev Vj (g:GR) (v:Nat):Int:=at' g.1 (v:Int)
abbrev iA (l:b_) (i:Nat):eD:=at' l (i:Int)
def light (g:GR):Prop:=g.1.length<=30∧g.2.length<=30∧∀v,v<g.2.length->(row g v).length<=30
def Ix (l:b_) (v n i:Nat):Prop:=(0<=(iA l i).1∧(iA l i).1<=(n:Int) - 1)∧(iA l i).1≠v∧(1<=(iA l i).2∧(iA l i).2<=15)∧∀k,k<i->(iA l k).1≠(iA l i).1
def uN (l:b_) (v n:Nat):Prop:=∀i,i<l.length->Ix l v n i
def CC (l:b_) (u:Int):Int:=match l.findIdx? (λx=>decide (x.1=u))with
 |some i=>i
 |none=> -1
theorem NM {l:b_} {u:Int} (i:Nat) (b:i<l.length) (d:(iA l i).1=u) (c:∀k,k<i->(iA l k).1≠u):CC l u=i:=by
 have:l.findIdx? (λx=>decide (x.1=u))=some i:=by
  rw[List.findIdx?_eq_some_iff_getElem];have e:∀k (a:k<l.length),iA l k=l[k]:=λk a=>by rw[iA,jL,List.getD_eq_getElem?_getD,List.getElem?_eq_getElem a];rfl
  refine⟨b,by rw[<-e i b];simpa using d,λk a=> ?_⟩
  have:=c k a;rw[e k (by omega)]at this;simpa using this
 rw[CC,this]
theorem NL {l:b_} {u:Int} (b:∀k,k<l.length->(iA l k).1≠u):CC l u = -1:=by
 have:l.findIdx? (λx=>decide (x.1=u))=none:=by
  rw[List.findIdx?_eq_none_iff];intro x c;obtain⟨k,a,rfl⟩:=List.getElem_of_mem c;have:=b k a;rw[iA,jL,List.getD_eq_getElem?_getD,List.getElem?_eq_getElem a]at this;simpa using this
 rw[CC,this]
theorem Ma (l:b_) (u:Int):(∃i,i<l.length∧(iA l i).1=u∧(∀k,k<i->(iA l k).1≠u)∧CC l u=i)∨((∀k,k<l.length->(iA l k).1≠u)∧CC l u = -1):=by
 by_cases h:∀k,k<l.length->(iA l k).1≠u
 ·exact .inr ⟨h,NL h⟩
 ·left;have f:∃k,k<l.length∧(iA l k).1=u:=by
   apply Classical.byContradiction;intro o;exact h λk g e=>o ⟨k,g,e⟩
  obtain⟨k,g,n⟩:=f;have:∀m,(∃k,k<=m∧k<l.length∧(iA l k).1=u)->∃i,i<l.length∧(iA l i).1=u∧∀k,k<i->(iA l k).1≠u:=by
   intro m
   induction m with
   |zero=>rintro⟨k,d,a,b⟩;exact⟨k,a,b,λj p=>by omega⟩
   |succ m q=>
    rintro⟨k,d,a,b⟩;by_cases c:∃j,j<=m∧j<l.length∧(iA l j).1=u
    ·exact q c
    ·exact⟨k,a,b,λj p e=>c ⟨j,by omega,by omega,e⟩⟩
  obtain⟨i,d,a,b⟩:=this k ⟨k,Nat.le_refl _,g,n⟩;exact⟨i,d,a,b,NM i d a b⟩
theorem FK {X R:Type} {step:X->(X->Option R)->Option R} {K:X->Option R} {bad:R} (N:Nat) (p:Nat->Prop) (I:Nat->X->Prop)
  (t:∀(k:Nat) x g,k<N->I k x->p k->∃c,I (k+1) c∧step x g=g c) (j:∀(k:Nat) x g,k<N->I k x->¬p k->step x g=some bad) (l:∀x g,I N x->step x g=K x):
  ∀(b:Nat) (x:X),I 0 x->N<b->((∀k,k<N->p k)->∃c,I N c∧bP step b x=K c)∧(¬(∀k,k<N->p k)->bP step b x=some bad):=by
 intro b x e s;have v:∀(d a b:Nat) (x:X),a+d=N->d<b->I a x->((∀k,a<=k->k<N->p k)->∃c,I N c∧bP step b x=K c)∧(¬(∀k,a<=k->k<N->p k)->bP step b x=some bad):=by
  intro d
  induction d with
  |zero=>
   intro a b x w s e;obtain rfl:a=N:=by omega
   cases b with
   |zero=>omega
   |succ f=>exact⟨λ_=>⟨x,e,l _ _ e⟩,λh=>absurd (λk n i=>by omega) h⟩
  | succ d ih =>
   intro a b x w s e;cases b with
   |zero=>omega
   | succ f =>
    by_cases o:p a
    ·obtain⟨c,r,u⟩:=t a x (bP step f) (by omega) e o;have u:bP step (f+1) x=bP step f c:=u;obtain⟨y,z⟩:=ih (a+1) f c (by omega) (by omega) r;rw[u];refine⟨λh=>y λk n i=>h k (by omega) i,λh=>z λq=>h λk n i=> ?_⟩
     by_cases m:k=a
     ·subst m;exact o
     ·exact q k (by omega) i
    ·exact⟨λh=>absurd (h a (Nat.le_refl _) (by omega)) o,λ_=>j a x _ (by omega) e o⟩
 obtain⟨n,i⟩:=v N 0 b x (by omega) s e;exact⟨λh=>n λk _ m=>h k m,λh=>i λq=>h λk m=>q k (by omega) m⟩
def Kj (g:GR) (v i:Nat):Prop:=∃j,j<(at' g.2 (iA (row g v) i).1).length∧(iA (at' g.2 (iA (row g v) i).1) j).1=v∧(iA (at' g.2 (iA (row g v) i).1) j).2=(iA (row g v) i).2
structure ZN (g:GR) (v:Nat):Prop where
 id:0<=Vj g v∧Vj g v<=255
 deg:(row g v).length<g.2.length
 links:uN (row g v) v g.2.length
 ids:∀k,k<v->Vj g k≠Vj g v
structure VG (g:GR):Prop where
 n1:1<=g.2.length
 n24:g.2.length<=24
 len:g.1.length=g.2.length
 node:∀v,v<g.2.length->ZN g v
 sym:∀v,v<g.2.length->∀i,i<(row g v).length->Kj g v i
theorem zY {a:Type} [Inhabited a] (l:List a) (i k:Nat) (y:a) (b:i<l.length):at' (l.set i y) (k:Int)=if k=i then y else at' l (k:Int):=by
 rw[jL,jL,List.getD_eq_getElem?_getD,List.getD_eq_getElem?_getD,List.getElem?_set];by_cases h:i=k
 ·rw[if_pos h,if_pos h.symm,if_pos (by omega)];rfl
 ·rw[if_neg h,if_neg (Ne.symm h)]
def Tz (l:aT) (k:Nat):Prop:=(0<=at' l (k:Int)∧at' l (k:Int)<=255)∧∀j,j<k->at' l (j:Int)≠at' l (k:Int)
theorem uP (l:aT) (C:l.length<=30):((∀k,k<l.length->Tz l k)->jH 1000 l=some true)∧(¬(∀k,k<l.length->Tz l k)->jH 1000 l=some false):=by
 unfold jH;have i:=FK (step:=gF l) (K:=λ_=>some true) (bad:=false) l.length (Tz l) (λk x=>x.1=(k:Int)∧x.2.length=256∧∀z:Nat,z<256->(at' x.2 (z:Int)=true↔∃j,j<k∧at' l (j:Int)=(z:Int))) ?_ ?_ ?_ 1000 ((0:Int),(List.replicate 256 false)) ⟨rfl,List.length_replicate ..,λz c=> ?_⟩ (by omega)
 ·exact⟨λh=>by obtain⟨x,_,b⟩:=i.1 h;exact b,i.2⟩
 ·rintro k ⟨t,m⟩ q w ⟨b,a,f⟩ ⟨D,v⟩;dsimp only at b a f;subst b;obtain⟨z,c⟩:∃z:Nat,at' l (k:Int)=z:=⟨(at' l (k:Int)).toNat,by omega⟩
  have p:z<256:=by omega
  have o:¬at' m (z:Int)=true:=by
   rw[f z p];rintro⟨j,e,d⟩;exact v j e (d.trans c.symm)
  refine⟨((k:Int)+1,m.set z true),⟨by simp,by simp[a],λy B=> ?_⟩,?_⟩
  ·dsimp only;rw[zY _ _ _ _ (by omega)];by_cases g:y=z
   ·subst g;rw[if_pos Z];exact⟨λ_=>⟨k,by omega,c⟩,λ_=>rfl⟩
   ·rw[if_neg g,f y B];constructor
    ·rintro⟨j,e,d⟩;exact⟨j,by omega,d⟩
    ·rintro⟨j,e,d⟩;by_cases n:j=k
     ·subst n;rw[c]at d;omega
     ·exact⟨j,by omega,d⟩
  ·unfold gF iK;dsimp only;rw[if_pos (by omega),cV (by omega),c,if_neg (by omega),if_neg (by omega),cV ⟨by omega,a⟩,if_neg o,cV ⟨by omega,a⟩,wr (by omega) (by omega)];rfl
 ·rintro k ⟨t,m⟩ q w ⟨b,a,f⟩ A;dsimp only at b a f;subst b;unfold gF iK;dsimp only;rw[if_pos (by omega),cV (by omega)];by_cases r:at' l (k:Int)<0
  ·rw[if_pos r,if_pos Z]
  rw[if_neg r];by_cases s:255<at' l (k:Int)
  ·rw[if_pos s,if_pos Z]
  rw[if_neg s];obtain⟨z,c⟩:∃z:Nat,at' l (k:Int)=z:=⟨(at' l (k:Int)).toNat,by omega⟩
  rw[c,cV ⟨by omega,a⟩,if_pos];rw[f z (by omega)];apply Classical.byContradiction;intro u;exact A ⟨by omega,λj e d=>u ⟨j,e,d.trans c⟩⟩
 ·rintro⟨t,m⟩ q ⟨b,_,_⟩;dsimp only at b;subst b;unfold gF nS;dsimp only;rw[if_neg (by omega)]
 ·rw[show at' (List.replicate 256 false) (z:Int)=false by rw[jL,List.getD_eq_getElem?_getD,List.getElem?_replicate,if_pos c];rfl];exact⟨λh=>(by cases h),fun⟨j,e,_⟩=>(by omega)⟩
theorem SQ {d e:Type} [DecidableEq d] (k c:d) (v:e):∀l:List (d×e),mF c (CB k v l)=if c=k then some v else mF c l
 | []=>by simp only[CB,mF]
 | x :: xs => by
  simp only[CB];by_cases h:k=x.1
  ·rw[if_pos h];simp only[mF];by_cases a:c=k
   ·rw[if_pos a,if_pos a]
   ·rw[if_neg a,if_neg a,if_neg (λb=>a (b.trans h.symm))]
  ·rw[if_neg h];simp only[mF];by_cases a:c=x.1
   ·rw[if_pos a,if_neg (λb=>h (b.symm.trans a)),if_pos a]
   ·rw[if_neg a,SQ k c v xs];by_cases b:c=k
    ·rw[if_pos b,if_pos b]
    ·rw[if_neg b,if_neg b,if_neg a]
theorem NA {a b:Type} [DecidableEq a] {k:a} {v:b} {z:a×b} {l:List (a×b)} (c:mF k l=none):z∈CB k v l↔z=(k,v)∨z∈l:=by
 rw[GM k v l c];simp[or_comm]
theorem GK {a c:Type} [DecidableEq a] {k:a}:∀{l:List (a×c)},(∀v,(k,v)∉l)->mF k l=none
 | [],_=>rfl
 |x::xs,h=>by
  simp only[mF];rw[if_neg (λe=>h x.2 (by rw[e];exact List.mem_cons_self ..))];exact GK λv b=>h v (List.mem_cons_of_mem _ b)
theorem uE {b c:Type} [DecidableEq b] {k:b} {v:c}:∀{l:List (b×c)},mF k l=none->(k,v)∉l
 | [],_=>by simp
 | x :: xs, h => by
  simp only[mF]at h;by_cases e:k=x.1
  ·rw[if_pos e]at h;cases h
  ·rw[if_neg e]at h;intro d;rcases List.mem_cons.1 d with a|a
   ·exact e (by rw[<-a])
   ·exact uE h a
theorem BX {a b:Type} [DecidableEq a] {k:a} {v:b}:∀{l:List (a×b)},mF k l=some v->(k,v)∈l
 |x::xs,h=>by
  simp only[mF]at h;by_cases e:k=x.1
  ·rw[if_pos e]at h;cases h;rw[e];exact List.mem_cons_self ..
  ·rw[if_neg e]at h;exact List.mem_cons_of_mem _ (BX h)
theorem Jr {a b:Type} (p:a×b->Prop) [DecidablePred p]:∀l:List (a×b),JW (λd x=>if p d then some false else x) (some true) l=some (decide (∀z∈l,¬p z))
 | []=>by simp[JW]
 |x::xs=>by
  show(if p x then some false else JW _ (some true) xs)=_;rw[Jr p xs];by_cases h:p x
  ·rw[if_pos h];congr 1;symm;exact decide_eq_false λc=>c x (List.mem_cons_self ..) h
  ·rw[if_neg h];congr 1;apply decide_eq_decide.2;simp[h]
def MQ (c:gH) (v i:Nat) (z:(Int×Int)×Int):Prop:=∃a b:Nat,(a<v∨(a=v∧b<i))∧b<(at' c (a:Int)).length∧z=(((a:Int),(iA (at' c (a:Int)) b).1),(iA (at' c (a:Int)) b).2)
def Kk (a:gH):Prop:=(∀v,v<a.length->uN (at' a (v:Int)) v a.length)∧∀v,v<a.length->∀i,i<(at' a (v:Int)).length->Kj ([],a) v i
theorem FY (c:gH) (hn:c.length<=30) (hd:∀v,v<c.length->(at' c (v:Int)).length<=30):(Kk c->gN 1000 c=some true)∧(¬Kk c->gN 1000 c=some false):=by
 unfold gN;have s:∀(v:Nat) (m:List ((Int×Int)×Int)) p,v<c.length->(∀z,z∈m↔MQ c v 0 z)->
   (uN (at' c (v:Int)) v c.length->∃X,(∀z,z∈X↔MQ c (v+1) 0 z)∧bP (cF c ((v:Int),m) p) 1000 ((0:Int),m)=p ((v:Int)+1,X))∧
   (¬uN (at' c (v:Int)) v c.length->bP (cF c ((v:Int),m) p) 1000 ((0:Int),m)=some false):=by
  intro v m p F hm;have af:=hd v F;have R:=FK (step:=cF c ((v:Int),m) p) (K:=λx=>p ((v:Int)+1,x.2)) (bad:=false) (at' c (v:Int)).length (Ix (at' c (v:Int)) v c.length) (λi x=>x.1=(i:Int)∧∀z,z∈x.2↔MQ c v i z) ?_ ?_ ?_ 1000 ((0:Int),m) ⟨rfl,hm⟩ (by omega)
  ·refine⟨λh=> ?_,λh=>R.2 h⟩
   obtain⟨x,⟨ah,ad⟩,f⟩:=R.1 h;refine⟨x.2,λz=>(ad z).trans ⟨?_,?_⟩,f⟩
   ·rintro⟨a,b,y,e,l⟩;exact⟨a,b,by omega,e,l⟩
   ·rintro⟨a,b,y,e,l⟩;refine⟨a,b,?_,e,l⟩
    by_cases W:a=v
    ·subst W;exact .inr ⟨rfl,e⟩
    ·omega
  ·rintro i ⟨H,g⟩ I M ⟨f,d⟩ ⟨p1,p2,p3,p4⟩;dsimp only at f d;subst f;have q:mF (((v:Int),(iA (at' c (v:Int)) i).1)) g=none:=by
    apply GK;intro w hw;obtain⟨a,b,y,e,l⟩:=(d _).1 hw;simp only[Prod.mk.injEq]at l;obtain⟨⟨C,A⟩,_⟩:=l;have:a=v:=by omega
    subst this;have hb:b<i:=by omega
    exact p4 b hb A.symm
   refine⟨((i:Int)+1,CB (((v:Int),(iA (at' c (v:Int)) i).1)) (iA (at' c (v:Int)) i).2 g),⟨by simp,λz=> ?_⟩,?_⟩
   ·dsimp only;rw[NA q,d];constructor
    ·rintro(rfl|⟨a,b,y,e,l⟩)
     ·exact⟨v,i,.inr ⟨rfl,by omega⟩,M,rfl⟩
     ·exact⟨a,b,by omega,e,l⟩
    ·rintro⟨a,b,y,e,l⟩;by_cases J:a=v∧b=i
     ·left;rw[l,J.1,J.2]
     ·right;exact⟨a,b,by omega,e,l⟩
   ·replace p1:0<=(at' (at' c (v:Int)) (i:Int)).1∧(at' (at' c (v:Int)) (i:Int)).1<=(c.length:Int) - 1:=p1;replace p3:1<=(at' (at' c (v:Int)) (i:Int)).2∧(at' (at' c (v:Int)) (i:Int)).2<=15:=p3;unfold cF gV iX;dsimp only;rw[if_pos (by omega),cV (by omega),if_neg (by omega),if_neg (by omega),if_neg (by rw[decide_eq_false p2];simp),if_neg (by omega),if_neg (by rw[decide_eq_false (by omega)];simp),q,if_neg (by simp),wr (by omega) (by omega)]
  ·rintro i ⟨H,g⟩ I M ⟨f,d⟩ P;dsimp only at f d;subst f;unfold cF gV iX;dsimp only;rw[if_pos (by omega),cV (by omega)];by_cases y:(iA (at' c (v:Int)) i).1<0
   ·rw[if_pos y,if_pos Z]
   rw[if_neg y];by_cases e:(c.length:Int)<=(iA (at' c (v:Int)) i).1
   ·rw[if_pos e,if_pos Z]
   rw[if_neg e];by_cases l:(iA (at' c (v:Int)) i).1=v
   ·rw[if_pos (decide_eq_true l)]
   rw[if_neg (by rw[decide_eq_false l];simp)];by_cases C:(iA (at' c (v:Int)) i).2<1
   ·rw[if_pos C,if_pos Z]
   rw[if_neg C];by_cases A:15<(iA (at' c (v:Int)) i).2
   ·rw[if_pos (decide_eq_true A)]
   rw[if_neg (by rw[decide_eq_false A];simp)];have:∃k,k<i∧(iA (at' c (v:Int)) k).1=(iA (at' c (v:Int)) i).1:=by
    apply Classical.byContradiction;intro hc;exact P ⟨by omega,l,by omega,λk N L=>hc ⟨k,N,L⟩⟩
   obtain⟨k,N,L⟩:=this;have n:=(d _).2 ⟨v,k,.inr ⟨rfl,N⟩,by omega,rfl⟩;rw[if_pos];rw[<-L];cases q:mF (((v:Int),(iA (at' c (v:Int)) k).1)) g with
   |some w=>rfl
   | none => exact absurd n (by
     intro n;exact uE q n)
  ·rintro⟨H,g⟩ I ⟨f,d⟩;dsimp only at f d;subst f;unfold cF mO;dsimp only;rw[if_neg (by omega),wr (by omega) (by omega)]
 have t:=FK (step:=dA 1000 c) (K:=λx=>iW x.2) (bad:=false) c.length (λv=>uN (at' c (v:Int)) v c.length) (λv x=>x.1=(v:Int)∧∀z,z∈x.2↔MQ c v 0 z) ?_ ?_ ?_ 1000 ((0:Int),[]) ⟨rfl,λz=>⟨λh=>(by cases h),fun⟨a,b,y,_⟩=>(by omega)⟩⟩ (by omega)
 rotate_left
 ·rintro v ⟨H,g⟩ p F ⟨f,d⟩ P;dsimp only at f d;subst f;obtain⟨X,y,e⟩:=(s v g p F d).1 P;refine⟨((v:Int)+1,X),⟨by simp,y⟩,?_⟩
  ·unfold dA;dsimp only;rw[if_pos (by omega),cV (by omega)];exact e
 ·rintro v ⟨H,g⟩ p F ⟨f,d⟩ P;dsimp only at f d;subst f;unfold dA;dsimp only;rw[if_pos (by omega),cV (by omega)];exact(s v g p F d).2 P
 ·rintro⟨H,g⟩ p ⟨f,d⟩;dsimp only at f d;subst f;unfold dA;dsimp only;rw[if_neg (by omega)]
 by_cases D:∀v,v<c.length->uN (at' c (v:Int)) v c.length
 rotate_left
 ·exact⟨λh=>absurd h.1 D,λ_=>t.2 D⟩
 obtain⟨⟨H,g⟩,⟨f,d⟩,L⟩:=t.1 D;rw[L];dsimp only at d ⊢;have N:iW g=some (decide (∀z∈g,¬(Option.getD (mF (z.1.2,z.1.1) g) (0:Int))≠z.2)):=Jr (λz:(Int×Int)×Int=>(Option.getD (mF (z.1.2,z.1.1) g) (0:Int))≠z.2) g;rw[N];have E:(∀z∈g,¬(Option.getD (mF (z.1.2,z.1.1) g) (0:Int))≠z.2)↔∀v,v<c.length->∀i,i<(at' c (v:Int)).length->Kj ([],c) v i:=by
  constructor
  ·intro h v F i M;have hw:=(D v F i M).2.2.1;have n:=(d (((v:Int),(iA (at' c (v:Int)) i).1),(iA (at' c (v:Int)) i).2)).2 ⟨v,i,.inl F,M,rfl⟩;have e:=Decidable.not_not.1 (h _ n);dsimp only at e;cases q:mF ((iA (at' c (v:Int)) i).1,(v:Int)) g with
   |none=>rw[q]at e;simp only[Option.getD]at e;omega
   | some w =>
    rw[q]at e;simp only[Option.getD]at e;obtain⟨a,b,l,C,A⟩:=(d _).1 (BX q);simp only[Prod.mk.injEq]at A;obtain⟨⟨T,U⟩,h8⟩:=A;refine⟨b,?_,?_,?_⟩
    ·show b<(at' c (iA (at' c (v:Int)) i).1).length;rw[T];exact C
    ·show(iA (at' c (iA (at' c (v:Int)) i).1) b).1=v;rw[T];exact U.symm
    ·show(iA (at' c (iA (at' c (v:Int)) i).1) b).2=(iA (at' c (v:Int)) i).2;rw[T,<-h8];exact e
  ·intro h z hz ac;obtain⟨a,b,l,C,rfl⟩:=(d z).1 hz;have W:a<c.length:=by omega
   apply ac;obtain⟨j,r,o,B⟩:=h a W b C;have hu:=(D a W b C).1;obtain⟨u,Q⟩:∃u:Nat,(iA (at' c (a:Int)) b).1=u:=⟨(iA (at' c (a:Int)) b).1.toNat,by omega⟩
   replace r:j<(at' c (iA (at' c (a:Int)) b).1).length:=r;replace o:(iA (at' c (iA (at' c (a:Int)) b).1) j).1=a:=o;replace B:(iA (at' c (iA (at' c (a:Int)) b).1) j).2=(iA (at' c (a:Int)) b).2:=B;rw[Q]at r o B;have G:u<c.length:=by omega
   dsimp only;rw[Q,<-B];have n:=(d (((u:Int),(iA (at' c (u:Int)) j).1),(iA (at' c (u:Int)) j).2)).2 ⟨u,j,.inl G,r,rfl⟩;rw[o]at n;cases q:mF ((u:Int),(a:Int)) g with
   |none=>exact absurd n (uE q)
   | some w =>
    obtain⟨Y,S,ae,aa,A⟩:=(d _).1 (BX q);simp only[Prod.mk.injEq]at A;obtain⟨⟨T,U⟩,h8⟩:=A;have:Y=u:=by omega
    subst this;have ab:S=j:=by
     rcases Nat.lt_trichotomy S j with O|O|O
     ·exact absurd (U.symm.trans o.symm) ((D Y G j r).2.2.2 S O)
     ·exact O
     ·exact absurd (o.trans U) ((D Y G S aa).2.2.2 j O)
    subst ab;exact h8
 by_cases V:∀v,v<c.length->∀i,i<(at' c (v:Int)).length->Kj ([],c) v i
 ·rw[decide_eq_true (E.2 V)];exact⟨λ_=>rfl,λh=>absurd ⟨D,V⟩ h⟩
 ·rw[decide_eq_false (λh=>V (E.1 h))];exact⟨λh=>absurd h.2 V,λ_=>rfl⟩
theorem Jv:∀(N:Nat) (f:Nat->Nat) (k:Nat),(∀i,i<k->f i<N)->(∀i j,i<j->j<k->f i≠f j)->k<=N
 |0,f,k,h,_=>by
  cases k with
  |zero=>omega
  |succ k=>exact absurd (h 0 (by omega)) (by omega)
 | N + 1, f, k, h, hd => by
  by_cases b:∃a,a<k∧f a=N
  ·obtain⟨a,g,l⟩:=b;have:=Jv N (λi=>if i<a then f i else f (i+1)) (k - 1) (λi c=>by
    split
    ·have:=h i (by omega);have:=hd i a (by omega) g;omega
    ·have:=h (i+1) (by omega);have:=hd a (i+1) (by omega) (by omega);omega) (λi j d m=>by
    split<;>split
    ·exact hd i j d (by omega)
    ·exact hd i (j+1) (by omega) (by omega)
    ·omega
    ·exact hd (i+1) (j+1) (by omega) (by omega))
   omega
  ·have:=Jv N f k (λi c=>by
    have:=h i c;have:f i≠N:=λe=>b ⟨i,c,e⟩;omega) hd
   omega
theorem Pe {l:b_} {v n:Nat} (b:v<n) (h:uN l v n):l.length<n:=by
 have:=Jv n (λi=>if i=l.length then v else(iA l i).1.toNat) (l.length+1) (λi e=>by
  split
  ·exact b
  ·have:=(h i (by omega)).1;omega) (λi j a f=>by
  rw[if_neg (by omega)];have c:=(h i (by omega)).1;split
  ·have:=(h i (by omega)).2.1;omega
  ·have d:=(h j (by omega)).1;have:=(h j (by omega)).2.2.2 i a;omega)
 omega
theorem Gh (g:GR) (j:light g):(VG g->eM 1000 g=some true)∧(¬VG g->eM 1000 g=some false):=by
 obtain⟨e,f,i⟩:=j;unfold eM pQ pR;by_cases l:g.1.length<1
 ·rw[if_pos (by omega)];exact⟨λh=>by have:=h.n1;have:=h.len;omega,λ_=>rfl⟩
 rw[if_neg (by omega)];by_cases m:24<g.1.length
 ·rw[if_pos (by omega)];exact⟨λh=>by have:=h.n24;have:=h.len;omega,λ_=>rfl⟩
 rw[if_neg (by omega)];by_cases d:g.1.length=g.2.length
 rotate_left
 ·rw[decide_eq_true (by omega)];exact⟨λh=>absurd h.len d,λ_=>rfl⟩
 rw[decide_eq_false (by omega),if_neg (by simp)];by_cases b:∀k,k<g.1.length->Tz g.1 k
 rotate_left
 ·rw[(uP g.1 e).2 b,bM Z];exact⟨λh=>absurd (λk n=>⟨(h.node k (by omega)).id,(h.node k (by omega)).ids⟩) b,λ_=>rfl⟩
 rw[(uP g.1 e).1 b,bM Z,if_pos Z];by_cases a:Kk g.2
 ·rw[(FY g.2 f i).1 a];exact⟨λ_=>rfl,λh=>absurd ⟨by omega,by omega,d,λv c=>⟨(b v (by omega)).1,Pe c (a.1 v c),a.1 v c,(b v (by omega)).2⟩,a.2⟩ h⟩
 ·rw[(FY g.2 f i).2 a];exact⟨λh=>absurd ⟨λv c=>(h.node v c).links,h.sym⟩ a,λ_=>rfl⟩
theorem VG.light {g:GR} (h:VG g):light g:=⟨by have:=h.n24;have:=h.len;omega,by have:=h.n24;omega,λv a=>by have:=(h.node v a).deg;have:=h.n24;omega⟩
abbrev D (d:aT) (v:Nat):Int:=at' d (v:Int)
def Iq (g:GR) (v u:Nat):Prop:=∃i,i<(row g v).length∧(iA (row g v) i).1=(u:Int)
theorem VG.port {g:GR} (h:VG g) {v i:Nat} (b:v<g.2.length) (a:i<(row g v).length):∃u:Nat,u<g.2.length∧(iA (row g v) i).1=(u:Int)∧Iq g v u:=by
 have c:=((h.node v b).links i a).1;exact⟨(iA (row g v) i).1.toNat,by omega,by omega,i,a,by omega⟩
theorem VG.back {g:GR} (h:VG g) {v u:Nat} (f:v<g.2.length) (c:Iq g v u):Iq g u v:=by
 obtain⟨i,d,e⟩:=c;obtain⟨j,b,a,_⟩:=h.sym v f i d;rw[e]at b a;exact⟨j,b,a⟩
theorem VG.adj_lt {g:GR} (h:VG g) {v u:Nat} (c:v<g.2.length) (a:Iq g v u):u<g.2.length:=by
 obtain⟨i,b,d⟩:=a;have:=((h.node v c).links i b).1;omega
def FC (d:aT):Nat:=d.countP λx=>decide (x<0)
structure OF (g:GR) (s:Nat) (d:aT):Prop where
 len:d.length=g.2.length
 lo:∀v,v<g.2.length -> -1<=D d v
 zero:∀v,v<g.2.length->(D d v=0↔v=s)
 near:∀v,v<g.2.length->0<D d v->∃u,u<g.2.length∧Iq g v u∧D d u=D d v - 1
 hi:∀v,v<g.2.length->D d v+(FC d:Int)<=(g.2.length:Int)
structure Qu (g:GR) (q d:aT) (b:Int) (done:Nat->Prop):Prop where
 mem:∀y∈q,∃v,v<g.2.length∧y=((v:Nat):Int)∧0<=D d v
 top:∀v,v<g.2.length->D d v<=b
 sort:q.Pairwise λa c=>at' d a<=at' d c
 done:∀v,v<g.2.length->0<=D d v->((v:Nat):Int)∉q->done v->∀u,u<g.2.length->Iq g v u->0<=D d u∧D d u<=D d v+1
theorem Ke {d:aT} {v:Nat} (h:v<d.length):D d v=d[v]:=by
 rw[D,jL,List.getD_eq_getElem?_getD,List.getElem?_eq_getElem h];rfl
theorem IU {d:aT} {u:Nat} {x:Int} (a:u<d.length) (b:D d u<0) (e:0<=x):FC (d.set u x)+1=FC d:=by
 unfold FC;rw[List.countP_set a];have c:0<d.countP λx=>decide (x<0):=by
  rw[List.countP_pos_iff];exact⟨d[u],List.getElem_mem a,by rw[<-Ke a];simpa using b⟩
 rw[Ke a]at b;rw[if_pos (by simpa using b),if_neg (by simp;omega)];omega
theorem assign {g:GR} {s:Nat} {q d:aT} {b:Int} {done:Nat->Prop} (E:VG g) (l:OF g s d) {x u:Nat} (m:Qu g q d (D d x+1) done) (B:x<g.2.length) (K:0<=D d x) (J:u<g.2.length) (t:D d u<0) (F:Iq g x u):
  OF g s (d.set u (D d x+1))∧Qu g (q++[(u:Int)]) (d.set u (D d x+1)) (D d x+1) done:=by
 have o:=l.len;have e:∀v,D (d.set u (D d x+1)) v=if v=u then D d x+1 else D d v:=λv=>zY _ _ _ _ (by omega);have G:=IU (x:=D d x+1) (by omega:u<d.length) t (by omega);refine⟨⟨by simp[o],λv f=> ?_,λv f=> ?_,λv f=> ?_,λv f=> ?_⟩,⟨λy j=> ?_,λv f=> ?_,?_,λv f k n H w A i=> ?_⟩⟩
 ·rw[e];split
  ·omega
  ·exact l.lo v f
 ·rw[e];split
  ·rename_i h;subst h;have:=(l.zero v f)
   constructor
   ·intro;omega
   ·intro h;have:=this.2 h;omega
  ·exact l.zero v f
 ·rw[e];split
  ·rename_i h;subst h;intro _;refine⟨x,B,E.back B F,?_⟩
   rw[e,if_neg (by intro h;subst h;omega)];omega
  ·intro k;obtain⟨w,A,i,I⟩:=l.near v f k;refine⟨w,A,i,?_⟩
   rw[e,if_neg (by intro h;subst h;omega)];exact I
 ·rw[e];split
  ·have:=l.hi x B;omega
  ·have:=l.hi v f;omega
 ·rcases List.mem_append.1 j with j|j
  ·obtain⟨v,f,rfl,k⟩:=m.mem y j;refine⟨v,f,rfl,?_⟩
   rw[e];split<;>omega
  ·simp only[List.mem_singleton]at j;refine⟨u,J,j,?_⟩
   rw[e,if_pos Z];omega
 ·rw[e];split
  ·omega
  ·exact m.top v f
 ·rw[List.pairwise_append];have n:∀y∈q,at' (d.set u (D d x+1)) y=at' d y:=by
   intro y j;obtain⟨v,f,rfl,k⟩:=m.mem y j;have:=e v;rw[if_neg (by intro h;subst h;omega)]at this;exact this
  refine⟨m.sort.imp_of_mem λ{a c} h1 r h=> ?_,List.pairwise_singleton ..,λy j z C=> ?_⟩
  ·rw[n a h1,n c r];exact h
  ·simp only[List.mem_singleton]at C;subst C;rw[n y j];have r:=e u;rw[if_pos Z]at r;obtain⟨v,f,rfl,k⟩:=m.mem y j;have:=m.top v f;show D d v<=D (d.set u (D d x+1)) u;omega
 ·have p:v≠u:=by
   rintro rfl;exact n (by simp)
  rw[e,if_neg p]at k;rw[e v,if_neg p];have:=m.done v f k (λh=>n (List.mem_append_left _ h)) H w A i;rw[e w,if_neg (by rintro rfl;omega)];exact this
theorem Me {g:GR} (E:VG g) {s x:Nat} (I:x<g.2.length) (a e:aT) (R:List Int×aT->Option aT) (r:aT->Prop)
  (o:OF g s e) (ae:0<=D e x) (m:Qu g a e (D e x+1) (λv=>v≠x)) (hm:a.length+FC e<=g.2.length)
  (K:∀q d,OF g s d->D d x=D e x->Qu g q d (D d x+1) (λ_=>True)->q.length+FC d=a.length+FC e->(∀y∈q,D e x<=at' d y)->OK r (R (q,d)))
  (l:∀y∈a,D e x<=at' e y):
  OK r (bP (qW g ((x:Int)::a,e) R) 1000 ((0:Int),a,e)):=by
 have U:=(E.node x I).deg;have aa:=E.n24;refine xF (λz:Int×List Int×aT=>∃k:Nat,z.1=k∧k<=(row g x).length∧OF g s z.2.2∧D z.2.2 x=D e x∧Qu g z.2.1 z.2.2 (D e x+1) (λv=>v≠x)∧z.2.1.length+FC z.2.2=a.length+FC e∧(∀i,i<k->∀u:Nat,(iA (row g x) i).1=u->0<=D z.2.2 u)∧(∀y∈z.2.1,D e x<=at' z.2.2 y)) (λz=>31 - z.1.toNat) ?_ 1000 _ ⟨0,rfl,by omega,o,rfl,m,rfl,λi L=>by omega,l⟩ (by simp);rintro⟨z1,q,d⟩ X ⟨k,W,hk,o,f,m,A,F,l⟩ p;dsimp only at W o f m A F l;subst W;have V:=o.len;have e0:at' ((x:Int)::a) 0=(x:Int):=rfl;unfold qW qV;dsimp only;rw[e0];by_cases N:k<(row g x).length
 ·rw[if_pos (show(k:Int)<((row g x).length:Int) by omega),cV (show 0<=(k:Int)∧(k:Int)<((row g x).length:Int) by omega)];obtain⟨u,G,O,j⟩:=E.port I N;rw[show at' (at' g.2 (x:Int)) (k:Int)=iA (row g x) k from rfl,O,cV (by omega)];have ac:=o.hi x I;by_cases c:at' d (u:Int)<0
  ·have J:Qu g q d (D d x+1) (λv=>v≠x):=by rw[f];exact m
   obtain⟨Y,c2⟩:=assign (b:=0) E o J I (by omega) G c j;have ab:=IU (x:=D d x+1) (by omega:u<d.length) c (by omega);have n:∀v,D (d.set u (D d x+1)) v=if v=u then D d x+1 else D d v:=λv=>zY _ _ _ _ (by omega);have Q:x≠u:=by rintro rfl;have:D d x<0:=c;omega
   rw[if_pos c,cV (by omega),cV (by omega),cV (by simp only[List.length_singleton];omega),wr (x:=(k:Int)+1) (by omega) (by omega),wr (x:=at' d (x:Int)+1) (by show -9223372036854775808<=D d x+1;omega) (by show D d x+1<=_;omega)];refine p _ ⟨k+1,by simp,by omega,Y,?_,?_,?_,?_,?_⟩ (by dsimp only;omega)
   ·show D (d.set u (D d x+1)) x=_;rw[n,if_neg Q];exact f
   ·rw[<-f];exact c2
   ·show(q++[(u:Int)]).length+FC (d.set u (D d x+1))=_;simp only[List.length_append,List.length_singleton];omega
   ·intro i L w P;show 0<=D (d.set u (D d x+1)) w;rw[n];split
    ·omega
    ·by_cases t:i=k
     ·subst t;omega
     ·exact F i (by omega) w P
   ·intro y B;show D e x<=at' (d.set u (D d x+1)) y;rcases List.mem_append.1 B with B|B
    ·have h1:=l y B;obtain⟨v,H,rfl,S⟩:=m.mem y B;have T:=n v;rw[if_neg (by intro h;subst h;have:D d v<0:=c;omega)]at T;rw[show at' (d.set u (D d x+1)) (v:Int)=D d v from T];exact h1
    ·simp only[List.mem_singleton]at B;subst B;rw[show at' (d.set u (D d x+1)) (u:Int)=D d x+1 from(n u).trans (if_pos Z)];omega
  ·rw[if_neg c,wr (by omega) (by omega)];refine p _ ⟨k+1,by simp,by omega,o,f,m,A,?_,l⟩ (by dsimp only;omega);intro i L w P;by_cases t:i=k
   ·subst t;have:w=u:=by omega
    subst this;show 0<=at' d (w:Int);omega
   ·exact F i (by omega) w P
 ·rw[if_neg (show¬(k:Int)<((row g x).length:Int) by omega)];have ad:k=(row g x).length:=by omega
  refine K q d o f ⟨m.mem,λv H=>by rw[f];exact m.top v H,m.sort,λv H S hq _ u G j=> ?_⟩ A l;by_cases C:v=x
  ·subst C;obtain⟨i,L,M⟩:=j;exact⟨F i (by omega) u M,by rw[f];exact m.top u G⟩
  ·exact m.done v H S hq C u G j
structure Al (g:GR) (s:Nat) (d:aT):Prop where
 len:d.length=g.2.length
 lo:∀v,v<g.2.length -> -1<=D d v
 zero:∀v,v<g.2.length->(D d v=0↔v=s)
 near:∀v,v<g.2.length->0<D d v->∃u,u<g.2.length∧Iq g v u∧D d u=D d v - 1
 next:∀v,v<g.2.length->0<=D d v->∀u,u<g.2.length->Iq g v u->0<=D d u∧D d u<=D d v+1
 hi:∀v,v<g.2.length->D d v<=(g.2.length:Int)
theorem NZ {g:GR} (t:VG g) {s:Nat} (f:aT) (k:aT) (b:OF g s f) (c:Qu g k f (match k with|[]=>1000|y::_=>at' f y+1) (λ_=>True)) (j:k.length+FC f<=g.2.length):
  OK (Al g s) (bP (nX 1000 g) 1000 (k,f)):=by
 have G:=t.n24;refine xF (λz:List Int×aT=>OF g s z.2∧Qu g z.1 z.2 (match z.1 with|[]=>1000|y::_=>at' z.2 y+1) (λ_=>True)∧z.1.length+FC z.2<=g.2.length) (λz=>z.1.length+FC z.2) ?_ 1000 _ ⟨b,c,j⟩ (by dsimp only;omega);rintro⟨q,d⟩ C ⟨b,c,j⟩ m;dsimp only at b c j;unfold nX uU;dsimp only;cases q with
 |nil=>
  rw[if_neg (by simp)];exact⟨d,rfl,b.len,b.lo,b.zero,b.near,λv e l u n a=>c.done v e l (by simp) trivial u n a,λv e=>by have:=b.hi v e;omega⟩
 | cons y rest =>
  obtain⟨x,A,rfl,p⟩:=c.mem y (List.mem_cons_self ..);have F:at' ((x:Int)::rest) 0=(x:Int):=rfl;rw[if_pos (by simp only[List.length_cons];omega),cV (by simp only[List.length_cons];omega),cV (by simp only[List.length_cons];omega),F,cV (by omega)];have w:=List.pairwise_cons.1 c.sort;simp only[List.length_cons]at j;refine Me t A rest d C _ b p ⟨λz I=>c.mem z (List.mem_cons_of_mem _ I),c.top,w.2,λv e l H o u n a=>c.done v e l (λh=> ?_) trivial u n a⟩ (by omega) (λB E r J i K D=> ?_) w.1
  ·rcases List.mem_cons.1 h with h|h
   ·exact o (by omega)
   ·exact H h
  ·refine m (B,E) ⟨r,⟨i.mem,λv e=> ?_,i.sort,i.done⟩,by dsimp only;omega⟩ (by simp only[List.length_cons];omega);dsimp only;have L:=i.top v e;cases B with
   |nil=>
    dsimp only;have:=r.hi x A;omega
   |cons z M=>
    dsimp only;have:=D z (List.mem_cons_self ..);omega
theorem KM {g:GR} (l:VG g) {s:Nat} (m:s<g.2.length):OK (Al g s) (pU 1000 g (s:Int)):=by
 have q:=l.n24;unfold pU;rw[cV (by omega)];refine xF (λz:Bu=>∃k:Nat,z.1=k∧k<=g.2.length∧z.2.length=g.2.length∧∀v,v<k->D z.2 v = -1) (λz=>31 - z.1.toNat) ?_ 1000 _ ⟨0,rfl,by omega,by simp,λv c=>by omega⟩ (by simp);rintro⟨C,d⟩ A ⟨k,o,B,e,j⟩ i;dsimp only at o e j;subst o;unfold Aa;simp only[List.length_replicate,Int.toNat_natCast];by_cases u:k<g.2.length
 ·rw[if_pos (by omega),cV (by omega),wr (by omega) (by omega)];refine i _ ⟨k+1,by simp,by omega,by simp[e],λv c=> ?_⟩ (by dsimp only;omega);show at' (d.set k (-1)) (v:Int) = -1;rw[zY _ _ _ _ (by omega)];split
  ·rfl
  ·exact j v (by omega)
 ·rw[if_neg (by omega)];unfold z_;rw[cV (by omega)];have b:∀v,v<g.2.length->D d v = -1:=λv c=>j v (by omega);have a:∀v,D (d.set s 0) v=if v=s then 0 else D d v:=λv=>zY _ _ _ _ (by omega);have t:=IU (x:=0) (by omega:s<d.length) (by rw[b s m];omega) (by omega);have r:FC d<=d.length:=List.countP_le_length ..;refine NZ l _ _ ⟨by simp[e],λv c=> ?_,λv c=> ?_,λv c=> ?_,λv c=> ?_⟩ ⟨λy n=> ?_,λv c=> ?_,List.pairwise_singleton ..,λv c p w=> ?_⟩ ?_
  ·rw[Int.toNat_natCast,a];split
   ·omega
   ·rw[b v c];omega
  ·rw[Int.toNat_natCast,a];split
   ·rename_i h;exact⟨λ_=>h,λ_=>rfl⟩
   ·rename_i h;rw[b v c];exact⟨λf=>by omega,λf=>absurd f h⟩
  ·rw[Int.toNat_natCast,a];split
   ·omega
   ·rw[b v c];omega
  ·rw[Int.toNat_natCast,a];split
   ·omega
   ·rw[b v c];omega
  ·simp only[List.mem_singleton]at n;refine⟨s,m,n,?_⟩
   rw[Int.toNat_natCast,a,if_pos Z];omega
  ·rw[Int.toNat_natCast];have f:at' (d.set s 0) (s:Int)=0:=(a s).trans (if_pos Z);show D (d.set s 0) v<=at' (d.set s 0) (s:Int)+1;rw[f,a];split
   ·omega
   ·rw[b v c];omega
  ·rw[Int.toNat_natCast,a,if_neg (by rintro rfl;exact w (by simp)),b v c]at p;omega
  ·rw[Int.toNat_natCast];simp only[List.length_singleton];omega
theorem Ly {g:GR} (a:VG g) {s:Nat} (e:s<g.2.length):OK (Al g s) (gM 1000 g (s:Int)):=by
 unfold gM mN;rw[(Gh g a.light).1 a,bM Z,if_neg (by simp),if_neg (by omega),decide_eq_false (by omega),if_neg (by simp)];obtain⟨d,c,b⟩:=KM a e;rw[c];exact⟨d,rfl,b⟩
def yM (g:GR) (s:Nat):Nat->Nat->Prop
 |0,v=>v=s∧s<g.2.length
 |k+1,v=>∃u,yM g s k u∧Iq g u v
theorem yM.lt {g:GR} (a:VG g) {s:Nat}:∀{k v:Nat},yM g s k v->v<g.2.length
 |0,_,h=>by obtain⟨rfl,h⟩:=h;exact h
 |_+1,_,h=>by obtain⟨u,b,c⟩:=h;exact a.adj_lt (yM.lt a b) c
theorem yM.trans {g:GR} {s t:Nat} {k:Nat} (h:yM g s k t):∀{m v:Nat},yM g t m v->yM g s (k+m) v
 |0,_,h2=>by obtain⟨rfl,_⟩:=h2;exact h
 |_+1,_,h2=>by obtain⟨u,a,b⟩:=h2;exact⟨u,yM.trans h a,b⟩
theorem Fz {g:GR} (a:VG g) {s:Nat}:∀{k v:Nat},yM g s k v->yM g v k s
 |0,_,h=>by obtain⟨rfl,h⟩:=h;exact⟨rfl,h⟩
 |k+1,v,h=>by
  obtain⟨u,b,c⟩:=h;have d:=yM.lt a b;have e:yM g v 1 u:=⟨v,⟨rfl,a.adj_lt d c⟩,a.back d c⟩
  have:=yM.trans e (Fz a b);rwa[Nat.add_comm]at this
theorem Al.le {g:GR} (a:VG g) {s:Nat} {d:aT} (h:Al g s d):∀{k v:Nat},yM g s k v->0<=D d v∧D d v<=k
 |0,v,hw=>by
  obtain⟨rfl,i⟩:=hw;have:=(h.zero v i).2 Z;omega
 |k+1,v,hw=>by
  obtain⟨u,b,c⟩:=hw;have e:=yM.lt a b;have f:=Al.le a h b;have j:=h.next u e f.1 v (a.adj_lt e c) c;omega
theorem Kf {g:GR} (b:VG g) {s:Nat} {d:aT} (h:Al g s d):∀(k v:Nat),v<g.2.length->D d v=k->yM g s k v
 |0,v,hv,he=>by
  have:=(h.zero v hv).1 he;exact⟨this,by omega⟩
 |k+1,v,hv,he=>by
  obtain⟨u,c,a,e⟩:=h.near v hv (by omega);exact⟨u,Kf b h k u c (by omega),b.back hv a⟩
theorem Al.pos {g:GR} (a:VG g) {s:Nat} {d:aT} (h:Al g s d) {v:Nat} (b:v<g.2.length) (c:0<=D d v):yM g s (D d v).toNat v:=
 Kf a h _ v b (by omega)
def OE (g:GR):Prop:=∀u v,u<g.2.length->v<g.2.length->∃k,yM g u k v
theorem FD {g:GR} (a:VG g):(OE g->iF 1000 g=some true)∧(¬OE g->iF 1000 g=some false):=by
 have r:=a.n1;have n:=a.n24;unfold iF;obtain⟨d,o,e⟩:=KM a (s:=0) (by omega);have j:=e.len;rw[(Gh g a.light).1 a,bM Z,if_neg (by simp),show pU 1000 (g.1,g.2) 0=some d from o,bM Z];have c:=Ig (step:=kP d) (K:=some true) (bad:=false) d.length (λv=>0<=D d v) (λk i f p=> ?_) (λk i f p=> ?_) (λi=> ?_) 1000 (by omega)
 ·have b:(∀v,v<d.length->0<=D d v)↔OE g:=by
   constructor
   ·intro h u v q l;exact⟨_,yM.trans (Fz a (Al.pos a e q (h u (by omega)))) (Al.pos a e l (h v (by omega)))⟩
   ·intro h v l;obtain⟨k,f⟩:=h 0 v (by omega) (by omega);exact(Al.le a e f).1
  exact⟨λh=>c.1 (b.2 h),λh=>c.2 λm=>h (b.1 m)⟩
 ·unfold kP;rw[if_pos (by omega),cV (by omega),if_neg (show¬D d k<0 by omega),wr (by omega) (by omega)]
 ·unfold kP;rw[if_pos (by omega),cV (by omega),if_pos (show D d k<0 by omega)]
 ·unfold kP qC;rw[if_neg (by omega)]
theorem SZ (g:GR) (v:Nat) (u:Int) (m:v<g.2.length) (l:(row g v).length<=30):pT 1000 g v u=some (CC (row g v) u):=by
 unfold pT;rw[cV (by omega)];rcases Ma (row g v) u with⟨i,j,h,c,b⟩|⟨c,b⟩
 ·rw[b];refine LJ (λx:Int=>∃k:Nat,x=k∧k<=i) (λx=>31 - x.toNat) ?_ 1000 _ ⟨0,rfl,by omega⟩ (by omega);rintro x d ⟨k,rfl,f⟩ a;unfold uT;rw[if_pos (show(k:Int)<((row g v).length:Int) by omega),cV (show 0<=(k:Int)∧(k:Int)<((row g v).length:Int) by omega)];by_cases e:k=i
  ·subst e;exact if_pos h
  ·rw[if_neg (c k (by omega)),wr (by omega) (by omega)];exact a _ ⟨k+1,by omega,by omega⟩ (by omega)
 ·rw[b];refine LJ (λx:Int=>∃k:Nat,x=k∧k<=(row g v).length) (λx=>31 - x.toNat) ?_ 1000 _ ⟨0,rfl,by omega⟩ (by omega);rintro x d ⟨k,rfl,f⟩ a;unfold uT;by_cases e:k<(row g v).length
  ·rw[if_pos (show(k:Int)<((row g v).length:Int) by omega),cV (show 0<=(k:Int)∧(k:Int)<((row g v).length:Int) by omega),if_neg (c k e),wr (by omega) (by omega)];exact a _ ⟨k+1,by omega,by omega⟩ (by omega)
  ·rw[if_neg (show¬(k:Int)<((row g v).length:Int) by omega)];rfl
section
def agZ (f:Nat->Nat):Nat->Nat
 |0=>0
 |k+1=>agZ f k+f k
open Classical in
noncomputable def ind (p:Prop):Nat:=if p then 1 else 0
end
theorem Oy (a:Nat) (h:a<4294967296):IntKind.u32.wrap (a:Int)=a:=by rw[<-EJ];exact if_pos ⟨by omega,by omega⟩
def WI (x:Int):Nat:=(BitVec.ofInt 32 x).toNat
theorem Lh (x:Int):WI x<4294967296:=(BitVec.ofInt 32 x).isLt
theorem Be {a:Nat} (h:a<4294967296):WI (a:Int)=a:=by
 unfold WI;rw[BitVec.ofInt_natCast,BitVec.toNat_ofNat];exact Nat.mod_eq_of_lt h
theorem Lo (x y:Int):eO .u32 x y=((WI x &&& WI y:Nat):Int):=by
 show IntKind.u32.wrap (((BitVec.ofInt 32 x &&& BitVec.ofInt 32 y).toNat:Nat):Int)=_;rw[BitVec.toNat_and];exact Oy _ (Nat.lt_of_le_of_lt Nat.and_le_left (Lh x))
theorem ZW (x y:Int):JS .u32 x y=((WI x ||| WI y:Nat):Int):=by
 show IntKind.u32.wrap (((BitVec.ofInt 32 x ||| BitVec.ofInt 32 y).toNat:Nat):Int)=_;rw[BitVec.toNat_or];exact Oy _ (Nat.or_lt_two_pow (n:=32) (Lh x) (Lh y))
theorem Hv {k:Nat} (a:k<32):2^k<4294967296:=Nat.pow_lt_pow_right (n:=32) (by omega) a
theorem Zp {k:Nat} (a:k<32):BB .u32 1 (k:Int)=((2^k:Nat):Int):=by
 show IntKind.u32.wrap (1*2^(min ((k:Int).toNat) 32))=_;rw[Int.toNat_natCast,Nat.min_eq_left (by omega),Int.one_mul,show(2:Int)^k=((2^k:Nat):Int) by simp];exact Oy _ (Hv a)
theorem Qk {a k:Nat} (b:k<32):vN .u32 (a:Int) (k:Int)=((a / 2^k:Nat):Int):=by
 show Int.fdiv (a:Int) (2^(min ((k:Int).toNat) 32))=_;rw[Int.toNat_natCast,Nat.min_eq_left (by omega),show(2:Int)^k=((2^k:Nat):Int) by simp,Int.fdiv_eq_ediv_of_nonneg _ (Int.natCast_nonneg _)];simp
theorem Vf {a k:Nat} (d:k<32) (c:a<4294967296):eO .u32 (vN .u32 (a:Int) (k:Int)) 1=1↔a.testBit k=true:=by
 have b:WI 1=1:=Be (a:=1) (by omega);rw[Qk d,Lo,Be (Nat.lt_of_le_of_lt (Nat.div_le_self _ _) c),b,Nat.and_one_is_mod,Nat.testBit_eq_decide_div_mod_eq,decide_eq_true_eq];omega
def Is (g:GR) (s:Nat):Prop:=(∀v,s.testBit v=true->v<g.2.length)∧∀v u,s.testBit v=true->s.testBit u=true->¬Iq g v u
theorem ZS {g:GR} (a:VG g):zR 1000 g=some ((2^g.2.length - 1:Nat):Int):=by
 have c:=a.n24;have d:=a.len;have e:=Hv (show g.2.length<32 by omega);have b:1<=2^g.2.length:=Nat.one_le_two_pow;unfold zR;rw[cV (by omega),d,Zp (by omega),show((2^g.2.length:Nat):Int) - 1=((2^g.2.length - 1:Nat):Int) by omega];congr 1;exact if_pos ⟨by omega,by omega⟩
theorem Al.lt {g:GR} {s:Nat} {d:aT} (h:Al g s d) {v:Nat} (p:v<g.2.length):D d v<(g.2.length:Int):=by
 apply Classical.byContradiction;intro t;have all:∀m:Nat,(m:Int)<=D d v->∃w,w<g.2.length∧D d w=D d v - m:=by
  intro m
  induction m with
  |zero=>intro _;exact⟨v,p,by omega⟩
  |succ m q=>
   intro x;obtain⟨w,e,c⟩:=q (by omega);obtain⟨u,n,_,o⟩:=h.near w e (by omega);exact⟨u,n,by omega⟩
 have b:∀i:Nat,i<g.2.length+1->∃w,w<g.2.length∧D d w=(i:Int):=by
  intro i a;obtain⟨w,e,c⟩:=all (D d v - i).toNat (by omega);exact⟨w,e,by omega⟩
 have:=Jv g.2.length (λi=>if a:i<g.2.length+1 then Classical.choose (b i a)else 0) (g.2.length+1) (λi a=>by
  rw[dif_pos a];exact(Classical.choose_spec (b i a)).1) (λi j l f c=>by
  rw[dif_pos (by omega),dif_pos f]at c;have k:=(Classical.choose_spec (b i (by omega))).2;have r:=(Classical.choose_spec (b j f)).2;rw[c]at k;omega)
 omega
def T (e:aT) (k v w:Nat):Int:=if 0<=D e w∧(D e w<k∨(D e w=k∧w<v))then D e w else -1
theorem UC {g:GR} (b:VG g) {s:Nat} (i:s<g.2.length) {d:aT} (a:Al g s d):(∀v,v<d.length->0<=D d v)↔OE g:=by
 have c:=a.len;constructor
 ·intro h u v j e;exact⟨_,yM.trans (Fz b (Al.pos b a j (h u (by omega)))) (Al.pos b a e (h v (by omega)))⟩
 ·intro h v e;obtain⟨k,f⟩:=h s v i (by omega);exact(Al.le b a f).1
theorem Vk {X R:Type} {step:X->(X->Option R)->Option R} {K:X->Option R} {bad:R} (N:Nat) (p:Nat->Prop) (I:Nat->X->Prop) (B:Nat)
  (t:∀(k:Nat) x q,k<N->k<B->I k x->p k->∃c,I (k+1) c∧step x q=q c) (l:∀(k:Nat) x q,k<N->k<B->I k x->¬p k->step x q=some bad) (s:∀x q,I N x->N<B->step x q=K x):
  ∀(b:Nat) (x:X),I 0 x->B<=b->(N<B∨∃k,k<N∧k<B∧¬p k)->((∀k,k<N->p k)->∃c,I N c∧bP step b x=K c)∧(¬(∀k,k<N->p k)->bP step b x=some bad):=by
 intro b x e v hB;have r:∀(d a b:Nat) (x:X),I a x->a+d<N->a+d<B->¬p (a+d)->d<b->bP step b x=some bad:=by
  intro d
  induction d with
  |zero=>
   intro a b x e j g i v;obtain⟨f,rfl⟩:∃f,b=f+1:=⟨b - 1,by omega⟩
   exact l a x _ j g e i
  | succ d y =>
   intro a b x e j g i v;obtain⟨f,rfl⟩:∃f,b=f+1:=⟨b - 1,by omega⟩
   by_cases u:p a
   ·obtain⟨c,n,o⟩:=t a x (bP step f) (by omega) (by omega) e u;have o:bP step (f+1) x=bP step f c:=o;rw[o];exact y (a+1) f c n (by omega) (by omega) (by rw[show a+1+d=a+(d+1) by omega];exact i) (by omega)
   ·exact l a x _ (by omega) (by omega) e u
 have m:∀(d a b:Nat) (x:X),I a x->a+d=N->N<B->(∀k,a<=k->k<N->p k)->d<b->∃c,I N c∧bP step b x=K c:=by
  intro d
  induction d with
  |zero=>
   intro a b x e j g i v;obtain⟨f,rfl⟩:∃f,b=f+1:=⟨b - 1,by omega⟩
   obtain rfl:a=N:=by omega
   exact⟨x,e,s x _ e g⟩
  |succ d y=>
   intro a b x e j g i v;obtain⟨f,rfl⟩:∃f,b=f+1:=⟨b - 1,by omega⟩
   obtain⟨c,n,o⟩:=t a x (bP step f) (by omega) (by omega) e (i a (Nat.le_refl _) (by omega));have o:bP step (f+1) x=bP step f c:=o;rw[o];exact y (a+1) f c n (by omega) g (λk j g=>i k (by omega) g) (by omega)
 constructor
 ·intro h;rcases hB with hB|⟨k,j,_,g⟩
  ·exact m N 0 b x e (by omega) hB (λk _ w=>h k w) (by omega)
  ·exact absurd (h k j) g
 ·intro h;have:∃k,k<N∧k<B∧¬p k:=by
   rcases hB with hB|hB
   ·apply Classical.byContradiction;intro A;exact h λk w=>Classical.byContradiction λi=>A ⟨k,w,by omega,i⟩
   ·exact hB
  obtain⟨k,j,g,z⟩:=this;exact r k 0 b x e (by omega) (by omega) (by rw[Nat.zero_add];exact z) (by omega)
theorem Ta {a:gH} (q:a.length<=30) {v:Nat} (r:v<a.length):(at' a (v:Int)).length<1000∨∃k,k<(at' a (v:Int)).length∧k<1000∧¬Ix (at' a (v:Int)) v a.length k:=by
 by_cases h:(at' a (v:Int)).length<1000
 ·exact .inl h
 ·right;apply Classical.byContradiction;intro f;have b:∀k,k<40->Ix (at' a (v:Int)) v a.length k:=λk p=>Classical.byContradiction λl=>f ⟨k,by omega,by omega,l⟩;have:=Jv a.length (λi=>(iA (at' a (v:Int)) i).1.toNat) 40 (λi g=>by have:=(b i g).1;omega) (λi j c d o=>by
   have m:=(b i (by omega)).1;have n:=(b j d).1;have e:=(b j d).2.2.2 i c;exact e (by omega))
  omega
theorem EE (c:gH) (hn:c.length<=30):(Kk c->gN 1000 c=some true)∧(¬Kk c->gN 1000 c=some false):=by
 unfold gN;have s:∀(v:Nat) (m:List ((Int×Int)×Int)) p,v<c.length->(∀z,z∈m↔MQ c v 0 z)->
   (uN (at' c (v:Int)) v c.length->∃Y,(∀z,z∈Y↔MQ c (v+1) 0 z)∧bP (cF c ((v:Int),m) p) 1000 ((0:Int),m)=p ((v:Int)+1,Y))∧
   (¬uN (at' c (v:Int)) v c.length->bP (cF c ((v:Int),m) p) 1000 ((0:Int),m)=some false):=by
  intro v m p F hm;have L:=Ta hn F;have S:=Vk (step:=cF c ((v:Int),m) p) (K:=λx=>p ((v:Int)+1,x.2)) (bad:=false) (at' c (v:Int)).length (Ix (at' c (v:Int)) v c.length) (λi x=>x.1=(i:Int)∧∀z,z∈x.2↔MQ c v i z) 1000 ?_ ?_ ?_ 1000 ((0:Int),m) ⟨rfl,hm⟩ (by omega) L
  ·refine⟨λh=> ?_,λh=>S.2 h⟩
   obtain⟨x,⟨ah,ae⟩,f⟩:=S.1 h;refine⟨x.2,λz=>(ae z).trans ⟨?_,?_⟩,f⟩
   ·rintro⟨a,b,y,e,l⟩;exact⟨a,b,by omega,e,l⟩
   ·rintro⟨a,b,y,e,l⟩;refine⟨a,b,?_,e,l⟩
    by_cases X:a=v
    ·subst X;exact .inr ⟨rfl,e⟩
    ·omega
  ·rintro i ⟨H,g⟩ I N ac ⟨f,d⟩ ⟨p1,p2,p3,p4⟩;dsimp only at f d;subst f;have q:mF (((v:Int),(iA (at' c (v:Int)) i).1)) g=none:=by
    apply GK;intro w hw;obtain⟨a,b,y,e,l⟩:=(d _).1 hw;simp only[Prod.mk.injEq]at l;obtain⟨⟨C,A⟩,_⟩:=l;have:a=v:=by omega
    subst this;have hb:b<i:=by omega
    exact p4 b hb A.symm
   refine⟨((i:Int)+1,CB (((v:Int),(iA (at' c (v:Int)) i).1)) (iA (at' c (v:Int)) i).2 g),⟨by simp,λz=> ?_⟩,?_⟩
   ·dsimp only;rw[NA q,d];constructor
    ·rintro(rfl|⟨a,b,y,e,l⟩)
     ·exact⟨v,i,.inr ⟨rfl,by omega⟩,N,rfl⟩
     ·exact⟨a,b,by omega,e,l⟩
    ·rintro⟨a,b,y,e,l⟩;by_cases J:a=v∧b=i
     ·left;rw[l,J.1,J.2]
     ·right;exact⟨a,b,by omega,e,l⟩
   ·replace p1:0<=(at' (at' c (v:Int)) (i:Int)).1∧(at' (at' c (v:Int)) (i:Int)).1<=(c.length:Int) - 1:=p1;replace p3:1<=(at' (at' c (v:Int)) (i:Int)).2∧(at' (at' c (v:Int)) (i:Int)).2<=15:=p3;unfold cF gV iX;dsimp only;rw[if_pos (by omega),cV (by omega),if_neg (by omega),if_neg (by omega),if_neg (by rw[decide_eq_false p2];simp),if_neg (by omega),if_neg (by rw[decide_eq_false (by omega)];simp),q,if_neg (by simp),wr (by omega) (by omega)]
  ·rintro i ⟨H,g⟩ I N ac ⟨f,d⟩ Q;dsimp only at f d;subst f;unfold cF gV iX;dsimp only;rw[if_pos (by omega),cV (by omega)];by_cases y:(iA (at' c (v:Int)) i).1<0
   ·rw[if_pos y,if_pos Z]
   rw[if_neg y];by_cases e:(c.length:Int)<=(iA (at' c (v:Int)) i).1
   ·rw[if_pos e,if_pos Z]
   rw[if_neg e];by_cases l:(iA (at' c (v:Int)) i).1=v
   ·rw[if_pos (decide_eq_true l)]
   rw[if_neg (by rw[decide_eq_false l];simp)];by_cases C:(iA (at' c (v:Int)) i).2<1
   ·rw[if_pos C,if_pos Z]
   rw[if_neg C];by_cases A:15<(iA (at' c (v:Int)) i).2
   ·rw[if_pos (decide_eq_true A)]
   rw[if_neg (by rw[decide_eq_false A];simp)];have:∃k,k<i∧(iA (at' c (v:Int)) k).1=(iA (at' c (v:Int)) i).1:=by
    apply Classical.byContradiction;intro hc;exact Q ⟨by omega,l,by omega,λk O M=>hc ⟨k,O,M⟩⟩
   obtain⟨k,O,M⟩:=this;have n:=(d _).2 ⟨v,k,.inr ⟨rfl,O⟩,by omega,rfl⟩;rw[if_pos];rw[<-M];cases q:mF (((v:Int),(iA (at' c (v:Int)) k).1)) g with
   |some w=>rfl
   | none => exact absurd n (by
     intro n;exact uE q n)
  ·rintro⟨H,g⟩ I ⟨f,d⟩ _;dsimp only at f d;subst f;unfold cF mO;dsimp only;rw[if_neg (by omega),wr (by omega) (by omega)]
 have t:=FK (step:=dA 1000 c) (K:=λx=>iW x.2) (bad:=false) c.length (λv=>uN (at' c (v:Int)) v c.length) (λv x=>x.1=(v:Int)∧∀z,z∈x.2↔MQ c v 0 z) ?_ ?_ ?_ 1000 ((0:Int),[]) ⟨rfl,λz=>⟨λh=>(by cases h),fun⟨a,b,y,_⟩=>(by omega)⟩⟩ (by omega)
 rotate_left
 ·rintro v ⟨H,g⟩ p F ⟨f,d⟩ Q;dsimp only at f d;subst f;obtain⟨Y,y,e⟩:=(s v g p F d).1 Q;refine⟨((v:Int)+1,Y),⟨by simp,y⟩,?_⟩
  ·unfold dA;dsimp only;rw[if_pos (by omega),cV (by omega)];exact e
 ·rintro v ⟨H,g⟩ p F ⟨f,d⟩ Q;dsimp only at f d;subst f;unfold dA;dsimp only;rw[if_pos (by omega),cV (by omega)];exact(s v g p F d).2 Q
 ·rintro⟨H,g⟩ p ⟨f,d⟩;dsimp only at f d;subst f;unfold dA;dsimp only;rw[if_neg (by omega)]
 by_cases D:∀v,v<c.length->uN (at' c (v:Int)) v c.length
 rotate_left
 ·exact⟨λh=>absurd h.1 D,λ_=>t.2 D⟩
 obtain⟨⟨H,g⟩,⟨f,d⟩,M⟩:=t.1 D;rw[M];dsimp only at d ⊢;have O:iW g=some (decide (∀z∈g,¬(Option.getD (mF (z.1.2,z.1.1) g) (0:Int))≠z.2)):=Jr (λz:(Int×Int)×Int=>(Option.getD (mF (z.1.2,z.1.1) g) (0:Int))≠z.2) g;rw[O];have E:(∀z∈g,¬(Option.getD (mF (z.1.2,z.1.1) g) (0:Int))≠z.2)↔∀v,v<c.length->∀i,i<(at' c (v:Int)).length->Kj ([],c) v i:=by
  constructor
  ·intro h v F i N;have hw:=(D v F i N).2.2.1;have n:=(d (((v:Int),(iA (at' c (v:Int)) i).1),(iA (at' c (v:Int)) i).2)).2 ⟨v,i,.inl F,N,rfl⟩;have e:=Decidable.not_not.1 (h _ n);dsimp only at e;cases q:mF ((iA (at' c (v:Int)) i).1,(v:Int)) g with
   |none=>rw[q]at e;simp only[Option.getD]at e;omega
   | some w =>
    rw[q]at e;simp only[Option.getD]at e;obtain⟨a,b,l,C,A⟩:=(d _).1 (BX q);simp only[Prod.mk.injEq]at A;obtain⟨⟨U,V⟩,h8⟩:=A;refine⟨b,?_,?_,?_⟩
    ·show b<(at' c (iA (at' c (v:Int)) i).1).length;rw[U];exact C
    ·show(iA (at' c (iA (at' c (v:Int)) i).1) b).1=v;rw[U];exact V.symm
    ·show(iA (at' c (iA (at' c (v:Int)) i).1) b).2=(iA (at' c (v:Int)) i).2;rw[U,<-h8];exact e
  ·intro h z hz ad;obtain⟨a,b,l,C,rfl⟩:=(d z).1 hz;have X:a<c.length:=by omega
   apply ad;obtain⟨j,r,o,B⟩:=h a X b C;have hu:=(D a X b C).1;obtain⟨u,R⟩:∃u:Nat,(iA (at' c (a:Int)) b).1=u:=⟨(iA (at' c (a:Int)) b).1.toNat,by omega⟩
   replace r:j<(at' c (iA (at' c (a:Int)) b).1).length:=r;replace o:(iA (at' c (iA (at' c (a:Int)) b).1) j).1=a:=o;replace B:(iA (at' c (iA (at' c (a:Int)) b).1) j).2=(iA (at' c (a:Int)) b).2:=B;rw[R]at r o B;have G:u<c.length:=by omega
   dsimp only;rw[R,<-B];have n:=(d (((u:Int),(iA (at' c (u:Int)) j).1),(iA (at' c (u:Int)) j).2)).2 ⟨u,j,.inl G,r,rfl⟩;rw[o]at n;cases q:mF ((u:Int),(a:Int)) g with
   |none=>exact absurd n (uE q)
   | some w =>
    obtain⟨a',T,af,aa,A⟩:=(d _).1 (BX q);simp only[Prod.mk.injEq]at A;obtain⟨⟨U,V⟩,h8⟩:=A;have:a'=u:=by omega
    subst this;have ab:T=j:=by
     rcases Nat.lt_trichotomy T j with P|P|P
     ·exact absurd (V.symm.trans o.symm) ((D a' G j r).2.2.2 T P)
     ·exact P
     ·exact absurd (o.trans V) ((D a' G T aa).2.2.2 j P)
    subst ab;exact h8
 by_cases W:∀v,v<c.length->∀i,i<(at' c (v:Int)).length->Kj ([],c) v i
 ·rw[decide_eq_true (E.2 W)];exact⟨λ_=>rfl,λh=>absurd ⟨D,W⟩ h⟩
 ·rw[decide_eq_false (λh=>W (E.1 h))];exact⟨λh=>absurd h.2 W,λ_=>rfl⟩
theorem Tg (g:GR):(VG g->eM 1000 g=some true)∧(¬VG g->eM 1000 g=some false):=by
 unfold eM pQ pR;by_cases e:g.1.length<1
 ·rw[if_pos (by omega)];exact⟨λh=>by have:=h.n1;have:=h.len;omega,λ_=>rfl⟩
 rw[if_neg (by omega)];by_cases f:24<g.1.length
 ·rw[if_pos (by omega)];exact⟨λh=>by have:=h.n24;have:=h.len;omega,λ_=>rfl⟩
 rw[if_neg (by omega)];by_cases d:g.1.length=g.2.length
 rotate_left
 ·rw[decide_eq_true (by omega)];exact⟨λh=>absurd h.len d,λ_=>rfl⟩
 rw[decide_eq_false (by omega),if_neg (by simp)];by_cases b:∀k,k<g.1.length->Tz g.1 k
 rotate_left
 ·rw[(uP g.1 (by omega)).2 b,bM Z];exact⟨λh=>absurd (λk i=>⟨(h.node k (by omega)).id,(h.node k (by omega)).ids⟩) b,λ_=>rfl⟩
 rw[(uP g.1 (by omega)).1 b,bM Z,if_pos Z];by_cases a:Kk g.2
 ·rw[(EE g.2 (by omega)).1 a];exact⟨λ_=>rfl,λh=>absurd ⟨by omega,by omega,d,λv c=>⟨(b v (by omega)).1,Pe c (a.1 v c),a.1 v c,(b v (by omega)).2⟩,a.2⟩ h⟩
 ·rw[(EE g.2 (by omega)).2 a];exact⟨λh=>absurd ⟨λv c=>(h.node v c).links,h.sym⟩ a,λ_=>rfl⟩
abbrev RU:=CZ
theorem tI (v m:Int) (g:1<=m) (h:m<=4611686018427387904):fW 1000 v m=some (v%m):=by
 unfold fW rF;rw[if_neg (by omega),cV (by omega)];have c:=Int.tmod_eq_emod (a:=v) (b:=m);have f:=Int.emod_nonneg v (show m≠0 by omega);have i:=Int.emod_lt_of_pos v (show 0<m by omega);by_cases e:0<=v∨m∣v
 ·rw[if_pos e]at c;have d:v.tmod m=v%m:=by simpa using c
  rw[d,if_neg (by omega)]
 ·rw[if_neg e]at c;have:(m.natAbs:Int)=m:=by omega
  rw[c,if_pos (by omega),wr (by omega) (by omega)];congr 1;omega
theorem Ng (l:aT) (i:Int) (h:0<=i):sR 1000 l i=some (at' l i):=by
 unfold sR;by_cases a:i<(l.length:Int)
 ·rw[if_pos a,cV ⟨h,a⟩]
 ·rw[if_neg a];unfold at';rw[List.getD_eq_getElem?_getD,List.getElem?_eq_none (by omega)];rfl
theorem NG {i:Type} [DecidableEq i]:∀(e c:List i),e.Nodup->(∀x∈e,x∈c)->e.length<=c.length
 | [],_,_,_=>Nat.zero_le _
 | a :: t, c, hn, hs => by
  have b:=List.nodup_cons.1 hn;have f:=hs a (List.mem_cons_self ..);have:=NG t (c.erase a) b.2 λx h=>by
   have d:x≠a:=λj=>b.1 (j▸h);exact(List.mem_erase_of_ne d).2 (hs x (List.mem_cons_of_mem _ h))
  rw[List.length_erase_of_mem f]at this;have g:0<c.length:=List.length_pos_of_mem f;simp only[List.length_cons];omega
theorem Wl (d:Int) (c:aT) (t:Nat) (k:t<=200) (h:∀s,s<t->(d+(s:Int))%256∈c):t<=c.length:=by
 have:=NG ((List.range t).map λs:Nat=>(d+(s:Int))%256) c (by
  rw[List.nodup_iff_pairwise_ne,List.pairwise_map];refine List.Pairwise.imp_of_mem ?_ List.pairwise_lt_range;intro a b e g f;rw[List.mem_range]at e g;omega) (λx j=>by
  obtain⟨s,i,rfl⟩:=List.mem_map.1 j;exact h s (List.mem_range.1 i))
 simpa using this
structure Ir (ids:aT):Prop where
 rng:∀y∈ids,0<=y∧y<=255
 nd:ids.Nodup
theorem Ir.snoc {c:aT} {y:Int} (h:Ir c) (j:0<=y∧y<=255) (i:y∉c):Ir (c++[y]):=by
 refine⟨λz d=> ?_,?_⟩
 ·rcases List.mem_append.1 d with d|d
  ·exact h.rng z d
  ·rw[List.mem_singleton.1 d];exact j
 ·rw[List.nodup_append];refine⟨h.nd,by simp,?_⟩
  intro a e b f;rw[List.mem_singleton.1 f];exact λg=>i (g▸e)
theorem BW {a:Type} [Inhabited a] {l:List a} {i:Nat} (h:i<l.length):at' l (i:Int)∈l:=by
 rw[jL,List.getD_eq_getElem?_getD,List.getElem?_eq_getElem h];exact List.getElem_mem h
theorem DR {a:Type} [Inhabited a] {l:List a} {x:a} (h:x∈l):∃i,i<l.length∧at' l ((i:Nat):Int)=x:=by
 obtain⟨i,b,c⟩:=List.getElem_of_mem h;refine⟨i,b,?_⟩
 rw[jL,List.getD_eq_getElem?_getD,List.getElem?_eq_getElem b];exact c
theorem UZ {Q:List Int×gH->Prop} {a:aT} (H:a.length<=24) (b:Int) (r:Bu->Option (List Int×gH))
  (m:∀y,0<=y->y<=255->y∉a->OK Q (r ((a.length:Int)+1,a++[y]))):OK Q (bP (lC ((a.length:Int),a) r) 1000 (b%256,0)):=by
 refine xF (λs:eD=>∃(t u:Nat),s.1=(b+(t:Int))%256∧s.2=u∧u<=a.length∧t<=a.length∧(∀k,k<t->(b+(k:Int))%256∈a)∧∀j,j<u->at' a (j:Int)≠s.1)
  (λs=>(a.length - ((s.1 - b)%256).toNat)*30+(a.length - s.2.toNat)) ?_ 1000 _ ⟨0,0,by simp,rfl,by omega,by omega,λk p=>by omega,λj o=>by omega⟩ ?_
 ·rintro⟨i,j⟩ z ⟨t,u,g,v,F,C,w,l⟩ d;dsimp only at g v l;subst v;unfold lC sG lB;dsimp only;by_cases x:(u:Int)<(a.length:Int)
  ·rw[if_pos x,cV (by omega)];by_cases f:at' a (u:Int)=i
   ·rw[if_pos f,cV (by decide)];have n:(b+(t:Int))%256∈a:=by rw[<-g,<-f];exact BW (by omega)
    have c:∀k,k<t+1->(b+(k:Int))%256∈a:=λk p=>by
     rcases Nat.lt_succ_iff_lt_or_eq.1 p with h|h
     ·exact w k h
     ·subst h;exact n
    have E:=Wl b a (t+1) (by omega) c;have G:0<=i∧i<=255:=by omega
    rw[wr (by omega) (by omega),Int.tmod_eq_emod_of_nonneg (by omega),wr (by omega) (by omega)];refine d _ ⟨t+1,0,?_,by simp,by omega,E,c,λj o=>by omega⟩ ?_
    ·dsimp only;omega
    ·dsimp only;have A:((i+1)%256 - b)%256=(t:Int)+1:=by omega
     have B:(i - b)%256=(t:Int):=by omega
     rw[A,B];omega
   ·rw[if_neg f,wr (by omega) (by omega)];refine d _ ⟨t,u+1,g,by dsimp only;omega,by omega,C,w,λj o=> ?_⟩ ?_
    ·rcases Nat.lt_succ_iff_lt_or_eq.1 o with h|h
     ·exact l j h
     ·subst h;exact f
    ·dsimp only;omega
  ·rw[if_neg x];rw[cV (by simp;omega),wr (by omega) (by omega)];refine m i (by omega) (by omega) λD=> ?_;obtain⟨k,p,q⟩:=DR D;exact l k (by omega) q
 ·dsimp only;have e:(b%256 - b)%256=0:=by omega
  rw[e];omega
theorem VK (x:RU) (a:Nat) (u:1<=a) (k:a<=24):OK (λg:GR=>Ir g.1∧g.2=List.replicate g.1.length []∧1<=g.1.length∧g.1.length<=a) (pC 1000 x (a:Int)):=by
 unfold pC;rw[bM (tI _ _ (by omega) (by omega))];generalize f:(wI .i64 (x.1 - 1))%(a:Int)=r;have m:0<=r:=by rw[<-f];exact Int.emod_nonneg _ (by omega)
 have n:r<a:=by rw[<-f];exact Int.emod_lt_of_pos _ (by omega)
 have i:wI .i64 (1+r)=1+r:=wr (by omega) (by omega);rw[i,cV (by omega)];refine xF (λs:Bu=>s.1=(s.2.length:Int)∧(s.2.length:Int)<=1+r∧Ir s.2) (λs=>(1+r - s.1).toNat) ?_ 1000 _ ⟨rfl,by simp;omega,⟨λy o=>by simp at o,List.nodup_nil⟩⟩ (by dsimp only;omega);rintro⟨v,d⟩ j ⟨e,l,c⟩ b;dsimp only at e l c;subst e;unfold jB oD;dsimp only;rw[i];by_cases h:(d.length:Int)<1+r
 ·rw[if_pos h,bM (Ng _ _ (by omega)),bM (tI _ _ (by decide) (by decide))];exact UZ (by omega) _ j λy p q t=>b _ ⟨by simp,by simp;omega,c.snoc ⟨p,q⟩ t⟩ (by dsimp only;omega)
 ·rw[if_neg h];refine⟨_,rfl,c,?_,by dsimp only;omega,by dsimp only;omega⟩
  dsimp only;congr 1;omega
structure VM (ids:aT) (P:gH):Prop where
 n1:1<=P.length
 n24:P.length<=24
 len:ids.length=P.length
 ok:Ir ids
 nd:∀v:Nat,v<P.length->((at' P (v:Int)).map Prod.fst).Nodup
 lk:∀v:Nat,v<P.length->∀x∈at' P (v:Int),(0<=x.1∧x.1<=(P.length:Int) - 1)∧x.1≠(v:Int)∧(1<=x.2∧x.2<=15)∧((v:Int),x.2)∈at' P x.1
theorem VL {d:Type} [Inhabited d] {l:List d} (h:l.Nodup) {i j:Nat} (b:i<l.length) (c:j<l.length) (a:i<j):at' l (i:Int)≠at' l (j:Int):=by
 rw[jL,jL,List.getD_eq_getElem?_getD,List.getD_eq_getElem?_getD,List.getElem?_eq_getElem b,List.getElem?_eq_getElem c];exact List.pairwise_iff_getElem.1 (List.nodup_iff_pairwise_ne.1 h) i j b c a
theorem VM.vg {ids:aT} {P:gH} (h:VM ids P):VG (ids,P):=by
 have hlen:=h.len;have links:∀v,v<P.length->uN (row (ids,P) v) v P.length:=by
  intro v hv i hi;have hm:iA (row (ids,P) v) i∈at' P (v:Int):=BW hi;obtain⟨a1,a2,a3,_⟩:=h.lk v hv _ hm;refine⟨a1,a2,a3,λk hk=> ?_⟩
  have hk2:k<(row (ids,P) v).length:=by omega
  have:=List.pairwise_iff_getElem.1 (List.nodup_iff_pairwise_ne.1 (h.nd v hv)) k i (by simpa using hk2) (by simpa using hi) hk;rw[List.getElem_map,List.getElem_map]at this;have e:∀j (hj:j<(row (ids,P) v).length),iA (row (ids,P) v) j=(at' P (v:Int))[j]'hj:=λj hj=>by
   unfold iA;rw[jL,List.getD_eq_getElem?_getD,List.getElem?_eq_getElem hj];rfl
  rw[e k hk2,e i hi];exact this
 refine⟨h.n1,h.n24,h.len,λv hv=>⟨?_,Pe hv (links v hv),links v hv,λk hk=> ?_⟩,λv hv i hi=> ?_⟩
 ·exact h.ok.rng _ (BW (by dsimp only at hv ⊢;omega))
 ·exact VL h.ok.nd (by dsimp only at hv ⊢;omega) (by dsimp only at hv ⊢;omega) hk
 ·have hm:iA (row (ids,P) v) i∈at' P (v:Int):=BW hi;obtain⟨_,_,_,a4⟩:=h.lk v hv _ hm;obtain⟨j,hj,he⟩:=DR a4;exact⟨j,hj,by unfold iA;rw[he],by unfold iA;rw[he]⟩
theorem VM.start {a:aT} (h:Ir a) (d:1<=a.length) (b:a.length<=24):VM a (List.replicate a.length []):=by
 have e:∀v:Nat,at' (List.replicate a.length ([]:b_)) (v:Int)=[]:=λv=>by
  rw[jL,List.getD_eq_getElem?_getD,List.getElem?_replicate];split<;>rfl
 refine⟨by simpa using d,by simpa using b,by simp,h,λv _=>by rw[e];exact List.nodup_nil,λv _ x c=> ?_⟩
 rw[e]at c;cases c
def mI (P:gH) (v u:Nat):Prop:=∃x∈at' P (v:Int),x.1=(u:Int)
theorem KC (d:aT) (P:gH) (a b:Nat) (u:a<P.length) (w:(at' P (a:Int)).length<=900):(mI P a b->nF 1000 (d,P) a b=some true)∧(¬mI P a b->nF 1000 (d,P) a b=some false):=by
 have c:∀(r:Bool),(r=true->mI P a b)->(r=false->¬mI P a b)->nF 1000 (d,P) a b=some r:=by
  intro r q p;unfold nF;refine LJ (λi:Int=>∃k:Nat,i=k∧k<=(at' P (a:Int)).length∧∀j,j<k->(at' (at' P (a:Int)) ((j:Nat):Int)).1≠(b:Int)) (λi=>(at' P (a:Int)).length - i.toNat) ?_ 1000 0 ⟨0,rfl,by omega,λj m=>by omega⟩ (by omega);rintro i t ⟨k,rfl,v,f⟩ g;unfold Ag vL;dsimp only;rw[cV (by omega)];by_cases o:(k:Int)<((at' P (a:Int)).length:Int)
  ·rw[if_pos o,cV (by omega),cV (by omega)];by_cases e:(at' (at' P (a:Int)) (k:Int)).1=(b:Int)
   ·rw[if_pos e];cases r with
    |true=>rfl
    |false=>exact absurd ⟨_,BW (by omega),e⟩ (p Z)
   ·rw[if_neg e,wr (by omega) (by omega)];refine g _ ⟨k+1,by omega,by omega,λj m=> ?_⟩ (by omega);rcases Nat.lt_succ_iff_lt_or_eq.1 m with h|h
    ·exact f j h
    ·subst h;exact e
  ·rw[if_neg o];cases r with
   |false=>rfl
   |true=>
    obtain⟨x,s,e⟩:=q Z;obtain⟨j,m,n⟩:=DR s;exact absurd (by rw[n];exact e) (f j (by omega))
 exact⟨λh=>c true (λ_=>h) (λl=>by cases l),λh=>c false (λl=>by cases l) (λ_=>h)⟩
theorem Xk (P:gH) (a b:Nat) (x y:b_) (e:a<P.length) (f:b<P.length) (v:Nat):at' ((P.set a x).set b y) (v:Int)=if v=b then y else if v=a then x else at' P (v:Int):=by
 rw[jL,jL,List.getD_eq_getElem?_getD,List.getD_eq_getElem?_getD,List.getElem?_set,List.getElem?_set];by_cases h:v=b
 ·subst h;rw[if_pos Z,if_pos Z,if_pos (by simpa using f)];rfl
 ·rw[if_neg (λd=>h d.symm),if_neg h];by_cases c:v=a
  ·subst c;rw[if_pos Z,if_pos Z,if_pos e];rfl
  ·rw[if_neg (λd=>c d.symm),if_neg c]
theorem VM.add {m:aT} {P:gH} (h:VM m P) {a b:Nat} {w:Int} (J:a<P.length) (A:b<P.length) (p:a≠b) (B:¬mI P a b) (D:1<=w∧w<=15)
  {x y:b_} (E:x.Perm (((b:Int),w)::at' P (a:Int))) (F:y.Perm (((a:Int),w)::at' P (b:Int))):
  VM m ((P.set a x).set b y)∧(∀v u,mI P v u->mI ((P.set a x).set b y) v u)∧mI ((P.set a x).set b y) a b:=by
 have r:¬mI P b a:=by
  rintro⟨z,g,i⟩;obtain⟨_,_,_,l⟩:=h.lk b A z g;rw[i]at l;exact B ⟨_,l,rfl⟩
 have C:=Xk P a b x y J A;have k:((P.set a x).set b y).length=P.length:=by simp
 have d:∀(v:Nat) (z:eD),z∈at' ((P.set a x).set b y) (v:Int)↔z∈at' P (v:Int)∨(v=b∧z=((a:Int),w))∨(v=a∧z=((b:Int),w)):=by
  intro v z;rw[C v];by_cases f:v=b
  ·subst f;rw[if_pos Z,F.mem_iff,List.mem_cons];constructor
   ·rintro(c|c)
    ·exact .inr (.inl ⟨rfl,c⟩)
    ·exact .inl c
   ·rintro(c|⟨_,c⟩|⟨e,_⟩)
    ·exact .inr c
    ·exact .inl c
    ·exact absurd e.symm p
  ·rw[if_neg f];by_cases c:v=a
   ·subst c;rw[if_pos Z,E.mem_iff,List.mem_cons];constructor
    ·rintro(e|e)
     ·exact .inr (.inr ⟨rfl,e⟩)
     ·exact .inl e
    ·rintro(e|⟨n,_⟩|⟨_,e⟩)
     ·exact .inr e
     ·exact absurd n f
     ·exact .inl e
   ·rw[if_neg c];exact⟨.inl,λe=>e.elim id λn=>n.elim (λo=>absurd o.1 f) λo=>absurd o.1 c⟩
 refine⟨⟨by rw[k];exact h.n1,by rw[k];exact h.n24,by rw[k];exact h.len,h.ok,λv j=> ?_,λv j z g=> ?_⟩,λv u s=> ?_,?_⟩
 ·rw[k]at j;rw[C v];by_cases f:v=b
  ·subst f;rw[if_pos Z,(F.map Prod.fst).nodup_iff,List.map_cons,List.nodup_cons];exact⟨λq=>by obtain⟨z,g,i⟩:=List.mem_map.1 q;exact r ⟨z,g,i⟩,h.nd v j⟩
  ·rw[if_neg f];by_cases c:v=a
   ·subst c;rw[if_pos Z,(E.map Prod.fst).nodup_iff,List.map_cons,List.nodup_cons];exact⟨λq=>by obtain⟨z,g,i⟩:=List.mem_map.1 q;exact B ⟨z,g,i⟩,h.nd v j⟩
   ·rw[if_neg c];exact h.nd v j
 ·rw[k]at j ⊢;rcases(d v z).1 g with f|⟨rfl,rfl⟩|⟨rfl,rfl⟩
  ·obtain⟨G,H,I,t⟩:=h.lk v j z f;refine⟨G,H,I,?_⟩
   obtain⟨u,K⟩:∃u:Nat,z.1=u:=⟨z.1.toNat,by omega⟩
   rw[K]at t ⊢;exact(d u _).2 (.inl t)
  ·exact⟨by dsimp only;omega,by dsimp only;omega,D,(d a _).2 (.inr (.inr ⟨rfl,rfl⟩))⟩
  ·exact⟨by dsimp only;omega,by dsimp only;omega,D,(d b _).2 (.inr (.inl ⟨rfl,rfl⟩))⟩
 ·obtain⟨z,g,i⟩:=s;exact⟨z,(d v z).2 (.inl g),i⟩
 ·exact⟨_,(d a _).2 (.inr (.inr ⟨rfl,rfl⟩)),rfl⟩
theorem Q_ (x:RU) {c:aT} {P:gH} (h:VM c P) {a b:Nat} {w:Int} (g:a<P.length) (m:b<P.length) (o:1<=w∧w<=15):
  ∃f,m_ 1000 x (c,P) a b w=some f∧VM c f∧f.length=P.length∧(∀v u,mI P v u->mI f v u)∧(a≠b->mI f a b):=by
 have p:=h.n24;have n:∀v:Nat,v<P.length->(at' P (v:Int)).length<24:=λv s=>by
  have:=(h.vg.node v s).deg;have e:(at' P (v:Int)).length=(row (c,P) v).length:=rfl;dsimp only at this;omega
 have t:=n a g;have z:=n b m;unfold m_;by_cases d:a=b
 ·subst d;rw[if_pos Z];exact⟨P,rfl,h,rfl,λ_ _ h=>h,λr=>absurd Z r⟩
 rw[if_neg (by omega)];by_cases i:mI P a b
 ·rw[bM ((KC c P a b g (by omega)).1 i)];exact⟨P,rfl,h,rfl,λ_ _ h=>h,λ_=>i⟩
 rw[bM ((KC c P a b g (by omega)).2 i)];unfold oV;rw[if_neg (by simp)];dsimp only;cases q:x.2.2.2.2.2 with
 | true =>
  rw[if_pos Z];have e:at' (P.set (Int.toNat (a:Int)) ([((b:Int),w)]++at' P (a:Int))) (b:Int)=at' P (b:Int):=by
   rw[jL,List.getD_eq_getElem?_getD,List.getElem?_set,if_neg (by simpa using d),jL,List.getD_eq_getElem?_getD]
  rw[e];rw[cV (by omega),cV (by simp;omega),cV (by omega),cV (by simp;omega),cV (by simp;omega),cV (by simp;omega)];obtain⟨j,k,l⟩:=h.add g m d i o (List.Perm.refl _) (List.Perm.refl _);exact⟨_,rfl,j,by simp,k,λ_=>l⟩
 |false=>
  rw[if_neg (by simp)];rw[cV (by omega),cV (by omega),cV (by simp;omega),cV (by simp;omega),cV (by simpa using d),cV (by simp;omega),cV (by simp;omega)];obtain⟨j,k,l⟩:=h.add g m d i o (x:=at' P (a:Int)++[((b:Int),w)]) (y:=at' P (b:Int)++[((a:Int),w)]) List.perm_append_comm List.perm_append_comm;exact⟨_,rfl,j,by simp,k,λ_=>l⟩
theorem KW (v:Int):wI .i64 (1+v%15)=1+v%15∧1<=1+v%15∧1+v%15<=15:=by
 have:=Int.emod_nonneg v (show(15:Int)≠0 by decide);have:=Int.emod_lt_of_pos v (show(0:Int)<15 by decide);exact⟨wr (by omega) (by omega),by omega,by omega⟩
theorem Zb (x:RU) (c:Nat) (F:1<=c) (m:c<=24):
  OK (λg:GR=>VM g.1 g.2∧g.2.length<=c∧∀v:Nat,1<=v->v<g.2.length->∃u:Nat,u<v∧mI g.2 u v) (mZ 1000 x (c:Int)):=by
 unfold mZ;obtain⟨⟨d,S⟩,D,h,z,e,q⟩:=VK x c F m;dsimp only at z h e q;rw[bM D];dsimp only;subst z;have r:=VM.start h e (by omega);refine xF (λs:Int×gH=>∃k:Nat,s.1=k∧1<=k∧k<=d.length∧VM d s.2∧s.2.length=d.length∧∀v:Nat,1<=v->v<k->∃u:Nat,u<v∧mI s.2 u v) (λs=>d.length - s.1.toNat) ?_ 1000 _ ⟨1,rfl,by omega,e,r,by simp,λv l f=>by omega⟩ (by dsimp only;omega);rintro⟨i,P⟩ T ⟨k,B,H,I,p,G,o⟩ j;dsimp only at B p G o;subst B;unfold tR oU;dsimp only;by_cases A:(k:Int)<(P.length:Int)
 ·rw[if_pos A,wr (by omega) (by omega),bM (Ng _ _ (by omega)),bM (tI _ _ (by omega) (by omega)),bM (Ng _ _ (by omega)),bM (tI _ _ (by decide) (by decide))];obtain⟨N,O,Q⟩:=KW (at' x.2.2.1 ((k:Int) - 1));rw[N];generalize C:at' x.2.1 ((k:Int) - 1)%(k:Int)=u;have U:0<=u:=by rw[<-C];exact Int.emod_nonneg _ (by omega)
  have V:u<k:=by rw[<-C];exact Int.emod_lt_of_pos _ (by omega)
  obtain⟨u,rfl⟩:∃n:Nat,u=n:=⟨u.toNat,by omega⟩
  obtain⟨R,E,K,W,L,M⟩:=Q_ x p (a:=u) (b:=k) (by omega) (by omega) ⟨O,Q⟩;rw[bM E,wr (by omega) (by omega)];refine j _ ⟨k+1,by dsimp only;omega,by omega,by omega,K,by dsimp only;omega,λv l f=> ?_⟩ (by dsimp only;omega);by_cases y:v=k
  ·subst y;exact⟨u,by omega,M (by omega)⟩
  ·obtain⟨J,t,w⟩:=o v l (by omega);exact⟨J,t,L _ _ w⟩
 ·rw[if_neg A];exact⟨_,rfl,p,by dsimp only;omega,λv l f=>o v l (by dsimp only at f;omega)⟩
theorem YK (x:RU) {c:aT} {P:gH} (h:VM c P):OK (λg:GR=>VM g.1 g.2∧g.1=c∧g.2.length=P.length∧∀v u,mI P v u->mI g.2 v u) (nA 1000 x (c,P)):=by
 unfold nA;have z:=h.n24;have B:=h.n1;refine xF (λs:Int×gH=>∃k:Nat,s.1=k∧k<=100∧VM c s.2∧s.2.length=P.length∧∀v u,mI P v u->mI s.2 v u) (λs=>200 - s.1.toNat) ?_ 1000 _ ⟨P.length,rfl,by omega,h,rfl,λ_ _ h=>h⟩ (by dsimp only;omega);rintro⟨i,Q⟩ w ⟨k,p,A,f,o,e⟩ d;dsimp only at p f o e;subst p;have done:∀b:Bool,b=false->OK (λg:GR=>VM g.1 g.2∧g.1=c∧g.2.length=P.length∧∀v u,mI P v u->mI g.2 v u) (lU 1000 x (c,P) ((k:Int),Q) w b):=by
  rintro b rfl;exact⟨_,rfl,f,rfl,o,e⟩
 unfold oW;dsimp only;rw[wr (by omega) (by omega)];by_cases l:(k:Int)+1<(x.2.1.length:Int)
 rotate_left
 ·rw[if_neg l];exact done _ Z
 rw[if_pos l];by_cases m:(k:Int)<60
 rotate_left
 ·exact done _ (decide_eq_false m)
 rw[decide_eq_true m];unfold lU;dsimp only;rw[if_pos Z,cV (by omega),bM (tI _ _ (by omega) (by omega)),wr (by omega) (by omega),cV (by omega),bM (tI _ _ (by omega) (by omega)),bM (Ng _ _ (by omega)),bM (tI _ _ (by decide) (by decide))];obtain⟨E,F,G⟩:=KW (at' x.2.2.1 (k:Int));rw[E];generalize r:at' x.2.1 (k:Int)%(P.length:Int)=u;have K:0<=u:=by rw[<-r];exact Int.emod_nonneg _ (by omega)
 have L:u<P.length:=by rw[<-r];exact Int.emod_lt_of_pos _ (by omega)
 obtain⟨u,rfl⟩:∃n:Nat,u=n:=⟨u.toNat,by omega⟩
 generalize q:at' x.2.1 ((k:Int)+1)%(P.length:Int)=t;have I:0<=t:=by rw[<-q];exact Int.emod_nonneg _ (by omega)
 have J:t<P.length:=by rw[<-q];exact Int.emod_lt_of_pos _ (by omega)
 obtain⟨t,rfl⟩:∃n:Nat,t=n:=⟨t.toNat,by omega⟩
 obtain⟨H,y,C,M,D,N⟩:=Q_ x f (a:=u) (b:=t) (by omega) (by omega) ⟨F,G⟩;rw[bM y,wr (by omega) (by omega)];exact d _ ⟨k+2,by dsimp only;omega,by omega,C,by dsimp only;omega,λv u j=>D _ _ (e v u j)⟩ (by dsimp only;omega)
theorem Lv (x:RU) (a:Nat) (m:1<=a) (c:a<=24):
  OK (λg:GR=>VM g.1 g.2∧g.2.length<=a∧∀v:Nat,1<=v->v<g.2.length->∃u:Nat,u<v∧mI g.2 u v) (jF 1000 x (a:Int)):=by
 unfold jF;obtain⟨⟨s,P⟩,k,o,n,i⟩:=Zb x a m c;obtain⟨⟨j,t⟩,l,b,p,d,h⟩:=YK x o;rw[bM k,bM l];dsimp only at n i b p d h;refine⟨_,rfl,b,by dsimp only;omega,λv r f=> ?_⟩
 obtain⟨u,q,e⟩:=i v r (by dsimp only at f;omega);exact⟨u,q,h _ _ e⟩
end Go.Proofs.YtjkjpdonlpdcaaaGreatDoor
namespace Go.Proofs.YtjkjpdonlpdcaaaGreatDoor
open Go Go.Sx
abbrev val (c:bW) (v x:Nat):Int:=at' (at' c (v:Int)) (x:Int)
def Zk (g:GR) (b:Int) (v:Nat) (a:Int):Prop:=if b = -1 then -1<=a∧a<=((row g v).length:Int) - 1 else 0<=a∧a<=b
instance (g:GR) (top:Int) (v:Nat) (a:Int):Decidable (Zk g top v a):=by unfold Zk;infer_instance
def fO (g:GR):Nat->Int
 |0=>0
 |k+1=>max (fO g k) (at' g.1 (k:Int))
theorem rB {g:GR} (a:VG g):∀k,k<=g.2.length->0<=fO g k∧fO g k<=255
 |0,_=>by simp[fO]
 |k+1,h=>by
  have b:=rB a k (by omega);have c:0<=at' g.1 (k:Int)∧at' g.1 (k:Int)<=255:=(a.node k (by omega)).id;simp only[fO];omega
abbrev Hi:=DI
def Fy (x:Hi):Prop:=(-100000<=x.2.2.2.1∧x.2.2.2.1<=100000)∧(0<=x.2.2.2.2.1∧x.2.2.2.2.1<=100000)∧(0<=x.2.2.2.2.2∧x.2.2.2.2.2<=100000)
def lo (g:GR) (x:Hi) (v:Nat):Int:=if x.2.1=2 then 0 else if x.2.1=3 then -1 else x.2.2.1
def hi (g:GR) (x:Hi) (v:Nat):Int:=if x.2.1=2 then 1 else if x.2.1=3 then((row g v).length:Int) - 1 else x.2.2.2.1+x.2.2.2.2.1*(g.2.length:Int)+x.2.2.2.2.2*fO g g.1.length
structure MN (g:GR) (c:bW) (vars:List Hi):Prop where
 len:c.length=g.2.length
 row:∀v,v<g.2.length->(at' c (v:Int)).length=vars.length
 ok:∀v,v<g.2.length->∀x,x<vars.length->lo g (at' vars (x:Int)) v<=val c v x∧val c v x<=hi g (at' vars (x:Int)) v
def Nq (a b:Nat):Nat:=(BitVec.ofInt 32 (a:Int) &&& ~~~ BitVec.ofInt 32 (b:Int)).toNat
theorem UK (a b:Nat):Nq a b<4294967296:=(BitVec.ofInt 32 (a:Int) &&& ~~~ BitVec.ofInt 32 (b:Int)).isLt
theorem Gu {a i:Nat} (b:a<4294967296) (h:a.testBit i=true):i<32:=by
 apply Classical.byContradiction;intro c;rw[Nat.testBit_lt_two_pow (Nat.lt_of_lt_of_le b (Nat.pow_le_pow_right (n:=2) (by omega) (show 32<=i by omega)))]at h;cases h
theorem Sr {a b:Nat} (d:a<4294967296) (e:b<4294967296) (i:Nat):(Nq a b).testBit i=(a.testBit i && !b.testBit i):=by
 have:=BitVec.getLsbD_and (x:=BitVec.ofInt 32 (a:Int)) (y:= ~~~ BitVec.ofInt 32 (b:Int)) (i:=i);rw[BitVec.getLsbD_not]at this;have h:(Nq a b).testBit i=((WI (a:Int)).testBit i&&(decide (i<32) && !(WI (b:Int)).testBit i)):=this;rw[Be d,Be e]at h;rw[h];cases c:a.testBit i with
 |false=>simp
 |true=>simp[Gu d c]
theorem Uk (a b:Nat):Aq .u32 (a:Int) (b:Int)=(Nq a b:Int):=Oy _ (UK a b)
theorem II {a b:Nat} (c:a<4294967296) (d:b<4294967296):eO .u32 (a:Int) (b:Int)=((a &&& b:Nat):Int):=by rw[Lo,Be c,Be d]
theorem aef {a b:Nat} (c:a<4294967296) (d:b<4294967296):JS .u32 (a:Int) (b:Int)=((a ||| b:Nat):Int):=by rw[ZW,Be c,Be d]
theorem Zw {a b:Nat} (c:a<4294967296) (d:b<4294967296):a ||| b<4294967296:=Nat.or_lt_two_pow (n:=32) c d
theorem OY {a b:Nat} (c:a<4294967296):a &&& b<4294967296:=Nat.lt_of_le_of_lt Nat.and_le_left c
theorem Lq {a k:Nat} (c:a<4294967296) (b:k<32):JS .u32 (a:Int) (BB .u32 1 (k:Int))=((a ||| 2^k:Nat):Int):=by rw[Zp b,aef c (Hv b)]
theorem LS (p:Nat->Bool) {k:Nat} (a:k<=32):wU p k<4294967296:=Nat.lt_of_lt_of_le (Ny p k) (Nat.pow_le_pow_right (n:=2) (by omega) a)
theorem YM {a b:Nat} (h:∀i,a.testBit i=b.testBit i):a=b:=Nat.eq_of_testBit_eq h
theorem aha {i:Nat} (h:i<1000000):wI .i64 ((i:Int)+1)=(i:Int)+1:=wr (by omega) (by omega)
theorem VG.to {g:GR} (c:VG g) {v i:Nat} (e:v<g.2.length) (d:i<(row g v).length):∃u:Nat,u<g.2.length∧(iA (row g v) i).1=(u:Int):=by
 obtain⟨u,a,b,_⟩:=c.port e d;exact⟨u,a,b⟩
theorem Qi {n i:Nat}:(2^n - 1).testBit i=decide (i<n):=Nat.testBit_two_pow_sub_one n i
def d0 (g:GR) (c:bW) (d v:Nat):Int:=if d.testBit v=true then at' (at' c (v:Int)) 0 else if v=0 then 0 else(g.2.length:Int)
def start (g:GR) (c:bW) (d:Nat):aT:=(List.range g.2.length).map (d0 g c d)
theorem Mi {a:Type} [Inhabited a] (l:List a) (x:a) {i:Nat} (b:i<l.length+1):at' (l++[x]) (i:Int)=if i<l.length then at' l (i:Int)else x:=by
 rw[jL,jL];by_cases h:i<l.length
 ·rw[if_pos h,List.getD_eq_getElem?_getD,List.getD_eq_getElem?_getD,List.getElem?_append_left h]
 ·have:i=l.length:=by omega
  subst this;rw[if_neg h];simp
def TW (g:GR) (a:List Hi) (v:Nat) (l:aT):Prop:=∀x,x<l.length->lo g (at' a (x:Int)) v<=at' l (x:Int)∧at' l (x:Int)<=hi g (at' a (x:Int)) v
def low (a b:Int):Int:=if 0<=b∧(a<0∨b<a)then b else a
end Go.Proofs.YtjkjpdonlpdcaaaGreatDoor
namespace Go.Proofs.YtjkjpdonlpdcaaaGreatDoor
open Go.Sx
def sY  (a:aT):Option aT:=
 some (a)
def sZ (a:Bu) (c:(Int×aT)->Option aT) (b:aT):Option aT:=
 c ((wI .i64 (a.1+(1:Int))),b)
def pJ (d:cB) (a:Bu) (e:(Int×aT)->Option aT) (b:Bu) (c:(Int×aT)->Option aT):Option aT:=
 if b.1<(List.length (at' d.2 a.1):Int)then(ck (0<=b.1∧b.1<(List.length (at' d.2 a.1):Int)) (ck (0<=a.1∧a.1<(List.length b.2:Int)) (ck (0<=((at' (at' d.2 a.1) b.1).1)) (ck (0<=a.1∧a.1<(List.length b.2:Int)) (c ((wI .i64 (b.1+(1:Int))),(List.set b.2 (Int.toNat a.1) (JS .u32 (at' b.2 a.1) (BB .u32 (1:Int) ((at' (at' d.2 a.1) b.1).1))))))))))else(sZ a e (b.2))
def kO (U:Nat) (c:cB) (a:Bu) (b:(Int×aT)->Option aT):Option aT:=
 if a.1<(List.length c.2:Int)then(ck (0<=a.1∧a.1<(List.length c.2:Int)) (bP (pJ c a b) U ((0:Int),a.2)))else(sY  (a.2))
def nY (U:Nat) (a:cB):Option aT:=
 ck (0<=(List.length a.2:Int)∧(List.length a.2:Int)<=1099511627) (bP (kO U a) U ((0:Int),(List.replicate (Int.toNat (List.length a.2:Int)) (0:Int))))
theorem Xo:aQ Tryz.prog 104:=Tryz.call104
theorem HG (U:Nat) {d:cB} (v:Value)  (j:Value)  (y:mH) (r:aT) (h:nY U d=some r):
  bA Tryz.prog 104 #[Value.agg #[v,j]] [Sl bN v d.1,S2 aO j y d.2] (λx:Value=>x) (λx l=>Ar kF x r::l) (λ_ l=>l):=by
 refine bA.of Tryz.func104 Z Tryz.ntmps104 Z λc=>?_;refine aS<|aG (aJ.box (cs:=[v,j]) Z Z) Z λD=>aC Z<|aK<|aS<|bX Z<|cJ 0 Z<|aB (lY Z (aE.fact 1 Z) Z) Z<|dK h λB h=>aG (sD (e:=kF) (0:Int) Z Z Z Z B Z Z Z) Z λi=>aC Z<|aK<|aI<|d_ (λk=>sY  k=some r) (λk w=>[(3,i)]) (λk w=>[Ar kF i k]) ?_ ?_
 ·refine aS<|bX Z<|cJ 1 Z<|aB (lY Z (aE.fact 1 Z) Z) Z<|aA Z<|aK<|aU<|eH (kO U d) (λa m=>[(3,i),(13,j),(14,vI (List.length d.2:Int)),(15,vI (a.1))]) (λa m=>[Ar kF i a.2]) ((0:Int),(List.replicate (Int.toNat (List.length d.2:Int)) (0:Int))) () h SF (aY.ix [0] Z Z) ?_;intro t a m h;refine aS<|cP Z<|aK<|aI ?_;refine eZ h Z (λh=>?_) λh=>?_
  ·refine cE<|aI<|d_ (λg=>sZ a (bP (kO U d) t) g=some r) (λg n=>[(3,i),(13,j),(14,vI (List.length d.2:Int)),(15,vI (a.1))]) (λg n=>[Ar kF i g]) ?_ ?_
   ·refine aU<|aS<|aA Z<|dK h λf h=>aB (cQ Z Z (aE.fact 1 Z) Z Z f) Z<|aB (cL Z (aE.fact 1 Z) Z Z f) Z<|aC Z<|aC Z<|aK<|aS<|aA Z<|aB (fG Z (aE.el (aE.fact 1 Z) f.1 f.2) Z) Z<|aA Z<|aK<|aU<|eH (pJ d a (bP (kO U d) t)) (λb o=>[(3,i),(4,vI (a.1)),(13,j),(14,vI (List.length d.2:Int)),(15,vI (a.1)),(20,(at' y a.1).1),(21,vI (List.length (at' d.2 a.1):Int)),(22,vI (b.1))]) (λb o=>[Ar kF i b.2]) ((0:Int),a.2) () h SF (aY.refl _) ?_;intro C b o h;refine aS<|cP Z<|aK<|aI ?_;refine eZ h Z (λh=>?_) λh=>?_
    ·refine cE<|aI<|aU<|aS<|dK h λp h=>aB (aZ Z Z (aE.el (aE.fact 1 Z) f.1 f.2) Z Z p) Z<|aB (c_ (cs:=[vI ((at' (at' d.2 a.1) b.1).1),vI ((at' (at' d.2 a.1) b.1).2)]) Z (aE.el (aE.fact 1 Z) f.1 f.2) bB Z Z Z Z p) Z<|aG (aJ.alloc (cs:=Ms) Z Z) Z λA=>bR 0 (vs:=[vI ((at' (at' d.2 a.1) b.1).1),vI ((at' (at' d.2 a.1) b.1).2)]) Z Z Z Z Z Z<|aK ?_;refine JR.start [0,0,3,7,0,16,48,127,255,511] 7 mixedOrders (by decide +kernel) ?_;refine JR.open (by exact rfl) ?_;refine bE Z<|bE Z<|dK h λq h=>bI Z (aY.cons 1 Z .nil) .nil (aZ Z Z (aX (aE.res 0 Z) lX) Z Z q) aN.z<|bI Z (aY.cons 1 Z .nil) .nil (bU Z (aX (aE.res 0 Z) lX) Z Z Z Gr q) aN.z<|cN Z<|dY 0 Z<|dK h λu h=>fY Z (Kl Z Z u)<|bK 7 Z Z<|aB (Uc Z Z) Z<|dK h λs h=>aB (aZ Z Z (aX (aE.res 1 Z) lX) Z Z s) Z<|BL 1 (JS .u32 (at' b.2 a.1) (BB .u32 (1:Int) ((at' (at' d.2 a.1) b.1).1))) s Z Z Z Z Z Z Z<|fF<|mP<|aR<|cO Z<|aA Z<|aK ?_;exact lT ((wI .i64 (b.1+(1:Int))),(List.set b.2 (Int.toNat a.1) (JS .u32 (at' b.2 a.1) (BB .u32 (1:Int) ((at' (at' d.2 a.1) b.1).1))))) () h SF (aY.ix [1] Z Z) (aD.refl _ _)
    refine yJ<|iQ<|iQ<|BK<|mP ?_;exact iI (b.2) () h SF Z
   intro g n h;unfold sZ at h;refine aR<|cO Z<|aA Z<|aK ?_;exact Ai ((wI .i64 (a.1+(1:Int))),g) () h SF Z
  refine fE ?_;exact iI (a.2) () h SF Z
 intro k w h;unfold sY at h;refine aS<|aA Z<|aC Z<|aK<|aP ?_;cases h;exact kC (i) Z Z (RV.tmp Z) (aY.refl _) aD.nil
end Go.Proofs.YtjkjpdonlpdcaaaGreatDoor
namespace Go.Proofs.YtjkjpdonlpdcaaaGreatDoor
open Go Go.Sx
structure RR (m k:Nat):Prop where
 bit:m.testBit k=true
 low:∀j,j<k->m.testBit j=false
theorem LR {m:Nat} (h:m≠0):∃k,RR m k:=by
 obtain⟨i,c⟩:=Nat.exists_testBit_of_ne_zero h;obtain⟨k,_,a,b⟩:=least (p:=λi=>m.testBit i=true) i c;exact⟨k,a,λj d=>by simpa using b j d⟩
theorem NN {m k:Nat} (h:RR m k) (i:Nat):(m - 1).testBit i=if i<k then true else if i=k then false else m.testBit i:=by
 have b:m=2^(k+1)*(m / 2^(k+1))+2^k:=by
  refine Nat.eq_of_testBit_eq λi=> ?_;have a:2^k<2^(k+1):=Nat.pow_lt_pow_right (by omega) (by omega);rw[Nat.testBit_two_pow_mul_add _ a,Nat.testBit_two_pow,Nat.testBit_div_two_pow];rcases Nat.lt_trichotomy i k with q|q|q
  ·rw[if_pos (by omega),h.low i q,decide_eq_false (by omega)]
  ·subst q;rw[if_pos (by omega),h.bit,decide_eq_true Z]
  ·rw[if_neg (by omega),show i - (k+1)+(k+1)=i by omega]
 have c:0<2^k:=Nat.pow_pos (by omega);have a:2^k - 1<2^(k+1):=by rw[Nat.pow_succ];omega
 have e:m - 1=2^(k+1)*(m / 2^(k+1))+(2^k - 1):=by omega
 rw[e,Nat.testBit_two_pow_mul_add _ a,Nat.testBit_two_pow_sub_one,Nat.testBit_div_two_pow];rcases Nat.lt_trichotomy i k with q|q|q
 ·rw[if_pos (by omega),if_pos q,decide_eq_true q]
 ·subst q;rw[if_pos (by omega),if_neg (by omega),if_pos Z,decide_eq_false (by omega)]
 ·rw[if_neg (by omega),if_neg (by omega),if_neg (by omega),show i - (k+1)+(k+1)=i by omega]
theorem agV {m:Nat} (b:m<4294967296) (a:m≠0):wI .u32 (0 - (m:Int))=((4294967296 - m:Nat):Int):=by
 rw[EJ];have:IntKind.u32.wrap (0 - (m:Int))=(0 - (m:Int))%4294967296:=rfl;rw[this];omega
theorem adE {m:Nat} (b:m<4294967296) (a:m≠0):wI .u32 ((m:Int) - 1)=((m - 1:Nat):Int):=by
 rw[show(m:Int) - 1=((m - 1:Nat):Int) by omega,EJ,Oy _ (by omega)]
theorem aaT {m k:Nat} (a:m<4294967296) (h:RR m k):eO .u32 (m:Int) (wI .u32 (0 - (m:Int)))=((2^k:Nat):Int):=by
 have b:m≠0:=λe=>by have:=h.bit;rw[e]at this;simp at this
 have c:k<32:=Gu a h.bit;rw[agV a b,II a (by omega)];congr 1;refine Nat.eq_of_testBit_eq λi=> ?_;rw[Nat.testBit_and,show 4294967296 - m=2^32 - ((m - 1)+1) by omega,Nat.testBit_two_pow_sub_succ (by omega),Nat.testBit_two_pow,NN h];rcases Nat.lt_trichotomy i k with q|q|q
 ·rw[h.low i q,decide_eq_false (show¬k=i by omega)];rfl
 ·subst q;rw[h.bit,if_neg (by omega),if_pos Z,decide_eq_true c,decide_eq_true Z];rfl
 ·rw[if_neg (by omega),if_neg (by omega),decide_eq_false (show¬k=i by omega)];cases m.testBit i<;>simp
theorem O_ {m k:Nat} (a:m<4294967296) (h:RR m k):∃b:Nat,eO .u32 (m:Int) (wI .u32 ((m:Int) - 1))=(b:Int)∧b<4294967296∧∀i,b.testBit i=(m.testBit i&&decide (i≠k)):=by
 have c:m≠0:=λe=>by have:=h.bit;rw[e]at this;simp at this
 refine⟨m &&& (m - 1),by rw[adE a c,II a (by omega)],OY a,λi=> ?_⟩
 rw[Nat.testBit_and,NN h];rcases Nat.lt_trichotomy i k with q|q|q
 ·rw[h.low i q];rfl
 ·subst q;simp
 ·rw[if_neg (by omega),if_neg (by omega)];have:decide (i≠k)=true:=decide_eq_true (by omega);rw[this];cases m.testBit i<;>rfl
theorem abm:∀k:Fin 32,((0:Int)<=vN .u32 (wI .u32 ((((2^k.val:Nat):Int))*125613361)) 27∧vN .u32 (wI .u32 ((((2^k.val:Nat):Int))*125613361)) 27<((32:Nat):Int))∧wI .i64 (at' Ae (vN .u32 (wI .u32 ((((2^k.val:Nat):Int))*125613361)) 27))=(k.val:Int):=by decide +kernel
theorem Zz (f:Nat) {m k:Nat} (a:m<4294967296) (h:RR m k):jM f (m:Int)=some (k:Int):=by
 have d:m≠0:=λe=>by have:=h.bit;rw[e]at this;simp at this
 obtain⟨b,c⟩:=abm ⟨k,Gu a h.bit⟩;unfold jM;rw[if_neg (by omega),cV (by decide),aaT a h,cV ⟨b,rfl⟩,c]
structure MJ (g:GR) (r:aT):Prop where
 len:r.length=g.2.length
 at':∀v:Nat,v<g.2.length->∃m:Nat,Go.Sx.at' r (v:Int)=(m:Int)∧m<4294967296∧∀u,m.testBit u=true↔Iq g v u
theorem aaY {g:GR} (I:VG g):∃r,nY 1000 g=some r∧MJ g r:=by
 have R:=I.n24;unfold nY;rw[cV (by omega)];obtain⟨⟨a,r⟩,⟨y,B,C⟩,J⟩:=BV (step:=kO 1000 g) (K:=λz=>some z.2) g.2.length
  (λk z=>z.1=(k:Int)∧z.2.length=g.2.length∧∀v:Nat,v<g.2.length->∃m:Nat,Go.Sx.at' z.2 (v:Int)=(m:Int)∧m<4294967296∧∀u,m.testBit u=true↔v<k∧Iq g v u) (λk z E M G=>by
  obtain⟨a,r⟩:=z;obtain⟨y,B,C⟩:=G;dsimp only at y B C;subst y;have O:=(I.node k M).deg;obtain⟨⟨b,U⟩,⟨s,d,c⟩,J⟩:=BV (step:=pJ g ((k:Int),r) E) (K:=λz=>E (((k+1:Nat):Int),z.2)) (row g k).length
   (λj z=>z.1=(j:Int)∧z.2.length=g.2.length∧∀v:Nat,v<g.2.length->∃m:Nat,Go.Sx.at' z.2 (v:Int)=(m:Int)∧m<4294967296∧∀u,m.testBit u=true↔(v<k∧Iq g v u)∨(v=k∧∃i,i<j∧(iA (row g k) i).1=(u:Int))) (λj z F S H=>by
   obtain⟨b,q⟩:=z;obtain⟨s,d,c⟩:=H;dsimp only at s d c;subst s;obtain⟨w,V,x,N⟩:=I.port M S;obtain⟨m,T,l,t⟩:=c k M;refine⟨(((j+1:Nat):Int),q.set k (((m ||| 2^w:Nat)):Int)),⟨rfl,by simpa using d,λv f=> ?_⟩,?_⟩
   ·show∃P,Go.Sx.at' (q.set k _) (v:Int)=_∧_;rw[zY q k v _ (by omega)];by_cases e:v=k
    ·subst e;refine⟨_,if_pos Z,Zw l (Hv (by omega)),λu=> ?_⟩
     rw[Nat.testBit_or,Nat.testBit_two_pow,Bool.or_eq_true,t u,decide_eq_true_eq];constructor
     ·rintro((h|⟨_,i,A,h⟩)|h)
      ·exact .inl h
      ·exact .inr ⟨rfl,i,by omega,h⟩
      ·exact .inr ⟨rfl,j,by omega,by rw[x,h]⟩
     ·rintro(h|⟨_,i,A,h⟩)
      ·exact .inl (.inl h)
      ·by_cases L:i=j
       ·subst L;right;rw[x]at h;omega
       ·exact .inl (.inr ⟨rfl,i,by omega,h⟩)
    ·obtain⟨P,n,o,p⟩:=c v f;refine⟨P,by rw[if_neg e];exact n,o,λu=> ?_⟩
     rw[p u];constructor
     ·rintro(h|⟨h,_⟩)
      ·exact .inl h
      ·exact absurd h e
     ·rintro(h|⟨h,_⟩)
      ·exact .inl h
      ·exact absurd h e
   ·unfold pJ;dsimp only;rw[if_pos (show(j:Int)<((row g k).length:Int) by omega),cV (show 0<=(j:Int)∧(j:Int)<((row g k).length:Int) by omega),cV (by omega),show Go.Sx.at' (Go.Sx.at' g.2 (k:Int)) (j:Int)=iA (row g k) j from rfl,x,cV (by omega),cV (by omega),T,Lq l (by omega),eY (by omega),Int.toNat_natCast]) (λz F H=>by
   obtain⟨b,q⟩:=z;obtain⟨s,d,c⟩:=H;dsimp only at s d c;subst s;unfold pJ sZ;dsimp only;rw[if_neg (show¬((row g k).length:Int)<((row g k).length:Int) by omega),eY (by omega)]) 1000 ((0:Int),r) ⟨rfl,B,λv f=>by
    obtain⟨m,n,o,p⟩:=C v f;refine⟨m,n,o,λu=> ?_⟩
    rw[p u];constructor
    ·exact λh=> .inl h
    ·rintro(h|⟨_,i,A,_⟩)
     ·exact h
     ·omega⟩ (by omega)
  dsimp only at s d c;refine⟨(((k+1:Nat):Int),U),⟨rfl,d,λv f=> ?_⟩,?_⟩
  ·obtain⟨m,n,o,p⟩:=c v f;refine⟨m,n,o,λu=> ?_⟩
   rw[p u];constructor
   ·rintro(⟨Q,D⟩|⟨rfl,i,A,h⟩)
    ·exact⟨by omega,D⟩
    ·exact⟨by omega,i,A,h⟩
   ·rintro⟨Q,D⟩;by_cases e:v=k
    ·subst e;obtain⟨i,A,h⟩:=D;exact .inr ⟨rfl,i,A,h⟩
    ·exact .inl ⟨by omega,D⟩
  ·unfold kO;dsimp only;rw[if_pos (by omega),cV (by omega)];exact J) (λz E G=>by
  obtain⟨a,r⟩:=z;obtain⟨y,B,C⟩:=G;dsimp only at y;subst y;unfold kO sY;dsimp only;rw[if_neg (by omega)]) 1000 ((0:Int),List.replicate (Int.toNat (g.2.length:Int)) (0:Int)) ⟨rfl,by simp,λv f=>⟨0,by
   rw[Int.toNat_natCast,nU (by simpa using f)];simp,by omega,λu=>by simp⟩⟩ (by omega)
 refine⟨r,J,B,λv f=> ?_⟩
 obtain⟨m,n,o,p⟩:=C v f;exact⟨m,n,o,λu=>by rw[p u];exact⟨λh=>h.2,λh=>⟨f,h⟩⟩⟩
def WG (g:GR) (m:Nat):Prop:=∀i,m.testBit i=true->i<g.2.length
theorem WG.lt {g:GR} (b:VG g) {m:Nat} (h:WG g m):m<16777216:=by
 have a:=b.n24;refine Nat.lt_of_lt_of_le (Nat.lt_pow_two_of_testBit (n:=24) m λi d=> ?_) (Nat.le_refl _);cases c:m.testBit i with
 |false=>rfl
 |true=>have:=h i c;omega
theorem acV {m:Nat} (h:∀i,i<32->m.testBit i=false) (b:m<4294967296):m=0:=by
 refine Nat.eq_of_testBit_eq λi=> ?_;rw[Nat.zero_testBit];rcases Nat.lt_or_ge i 32 with q|q
 ·exact h i q
 ·cases a:m.testBit i with
  |false=>rfl
  |true=>have:=Gu b a;omega
theorem Pr {g:GR} (z:VG g) {r:aT} (y:MJ g r) {t:Nat} (C:WG g t) (n:∀v u,t.testBit v=true->t.testBit u=true->¬Iq g v u) (F:Nat):∀(d s a b:Nat),s+d=32->b<4294967296->(∀i,i<s->b.testBit i=false)->(∀i,b.testBit i=true->t.testBit i=true)->d<a->
  bP (gK F r (t:Int)) a (b:Int)=some true:=by
 have J:=z.n24;have p:t<4294967296:=by have:=C.lt z;omega
 intro d
 induction d using Nat.strongRecOn with
 | _ d ih =>
  intro s a b P B o c O;obtain⟨a,rfl⟩:∃f,a=f+1:=⟨a - 1,by omega⟩
  show gK F r (t:Int) (b:Int) (bP _ a)=_;unfold gK jI;by_cases G:b=0
  ·rw[if_neg (by omega)]
  obtain⟨k,l⟩:=LR G;have w:=C k (c k l.bit);have K:s<=k:=by
   rcases Nat.lt_or_ge k s with q|q
   ·have:=l.bit;rw[o k q]at this;cases this
   ·exact q
  obtain⟨m,L,h,j⟩:=y.at' k w;rw[if_pos (by omega),bM (Zz F B l),cV (by have:=y.len;omega),L,II h p];have M:m &&& t=0:=by
   refine acV (λi _=> ?_) (OY h);rw[Nat.testBit_and];cases H:m.testBit i with
   |false=>rfl
   |true=>
    cases I:t.testBit i with
    |false=>rfl
    |true=>exact absurd ((j i).1 H) (n k i (c k l.bit) I)
  rw[M,if_neg (by simp)];obtain⟨N,D,E,x⟩:=O_ B l;rw[D];have A:k<32:=by omega
  refine ih (32 - (k+1)) (by omega) (k+1) a N (by omega) E (λi n=> ?_) (λi n=> ?_) (by omega)
  ·rw[x];by_cases e:i=k
   ·simp[e]
   ·rw[l.low i (by omega)];rfl
  ·rw[x,Bool.and_eq_true]at n;exact c i n.1
theorem HC {g:GR} (a:VG g) {r:aT} (d:MJ g r) {t:Nat} (c:WG g t) (b:∀v u,t.testBit v=true->t.testBit u=true->¬Iq g v u):gW 1000 r (t:Int)=some true:=
 Pr a d c b 1000 32 0 1000 t (by omega) (by have:=c.lt a;omega) (λi b=>by omega) (λi h=>h) (by omega)
theorem Nt {g:GR} (M:VG g) {r:aT} (T:MJ g r) {W:Nat} (U:WG g W) (F:Nat):∀(d s a b t:Nat),s+d=32->b<4294967296->t<4294967296->(∀i,i<s->b.testBit i=false)->(∀i,b.testBit i=true->W.testBit i=true)->(∀i,t.testBit i=true->W.testBit i=true)->(∀v u,t.testBit v=true->t.testBit u=true->¬Iq g v u)->(W≠0->t≠0∨b=W)->d<a->
  ∃C:Nat,bP (eG F r) a ((b:Int),(t:Int))=some (C:Int)∧C<4294967296∧(∀i,C.testBit i=true->W.testBit i=true)∧(∀v u,C.testBit v=true->C.testBit u=true->¬Iq g v u)∧(W≠0->C≠0):=by
 have aa:=M.n24;intro d
 induction d using Nat.strongRecOn with
 | _ d ih =>
  intro s a b t hs V c I w n j O hf;obtain⟨a,rfl⟩:∃f,a=f+1:=⟨a - 1,by omega⟩
  have P:bP (eG F r) (a+1) ((b:Int),(t:Int))=eG F r ((b:Int),(t:Int)) (bP (eG F r) a):=rfl;rw[P];unfold eG lM jA;dsimp only;by_cases S:b=0
  ·rw[if_neg (by omega)];refine⟨t,rfl,c,n,j,λX=> ?_⟩
   rcases O X with h|h
   ·exact h
   ·exact absurd (h.symm.trans S) X
  obtain⟨k,D⟩:=LR S;have E:=w k D.bit;have G:=U k E;have ab:s<=k:=by
   rcases Nat.lt_or_ge k s with q|q
   ·have:=D.bit;rw[I k q]at this;cases this
   ·exact q
  obtain⟨m,hm,J,A⟩:=T.at' k G;obtain⟨L,Y,Q,R⟩:=O_ V D;have p:k<32:=by omega
  have x:∀i,i<k+1->L.testBit i=false:=λi l=>by
   rw[R];by_cases e:i=k
   ·simp[e]
   ·rw[D.low i (by omega)];rfl
  have z:∀i,L.testBit i=true->W.testBit i=true:=λi l=>by
   rw[R,Bool.and_eq_true]at l;exact w i l.1
  rw[if_pos (by omega),bM (Zz F V D),cV (by have:=T.len;omega),hm,II J c,Y];by_cases K:m &&& t=0
  ·rw[K,if_pos (by rfl),cV (by omega),Lq c p];have H:(t ||| 2^k).testBit k=true:=by rw[Nat.testBit_or,Nat.testBit_two_pow];simp
   have y:∀u,t.testBit u=true->¬Iq g k u:=λu o N=>by
    have:=congrArg (λq=>q.testBit u) K;simp only[Nat.testBit_and,Nat.zero_testBit,(A u).2 N,o]at this;cases this
   refine ih (32 - (k+1)) (by omega) (k+1) a L (t ||| 2^k) (by omega) Q (Zw c (Hv p)) x z (λi l=> ?_) (λv u B o=> ?_) (λ_=> .inl λe=>by rw[e]at H;simp at H) (by omega)
   ·rw[Nat.testBit_or,Nat.testBit_two_pow,Bool.or_eq_true,decide_eq_true_eq]at l;rcases l with l|rfl
    ·exact n i l
    ·exact E
   ·rw[Nat.testBit_or,Nat.testBit_two_pow,Bool.or_eq_true,decide_eq_true_eq]at B o;rcases B with B|rfl
    ·rcases o with o|rfl
     ·exact j v u B o
     ·exact λN=>y v B (M.back (U v (n v B)) N)
    ·rcases o with o|rfl
     ·exact y u o
     ·rintro⟨i,l,he⟩;exact((M.node k G).links i l).2.1 he
  ·rw[if_neg (by omega)];refine ih (32 - (k+1)) (by omega) (k+1) a L t (by omega) Q c x z n j (λ_=> .inl λe=> ?_) (by omega);rw[e]at K;exact K (Nat.and_zero m)
theorem PK {g:GR} (hV:VG g) {r:aT} (hN:MJ g r) {kind:Int} (hk1:1<=kind) (hk4:kind<=4) {e w:Nat} (he:WG g e) (hw:w<4294967296):
  ∃t:Nat,eX 1000 r kind (e:Int) (w:Int)=some (t:Int)∧(∀i,t.testBit i=true->e.testBit i=true)∧(e≠0->t≠0∧fT 1000 r kind (e:Int) (t:Int)=some true∧(kind<=2->∀v u,t.testBit v=true->t.testBit u=true->¬Iq g v u)∧(kind=4->t=e)):=by
 have he24:=he.lt hV;have he32:e<4294967296:=by omega
 -- the wish
 obtain⟨W,hW,hW32,hWe,hW0,hWm⟩:∃W:Nat,eX 1000 r kind (e:Int) (w:Int)=i_ 1000 r kind (e:Int) (W:Int)∧W<4294967296∧(∀i,W.testBit i=true->e.testBit i=true)∧(e≠0->W≠0)∧(e=0->W=0):=by
  unfold eX;rw[II hw he32];by_cases h0:w &&& e=0
  ·rw[h0,if_pos (show((0:Nat):Int)=0 from rfl)];by_cases hee:e=0
   ·refine⟨0,by rw[hee];rfl,by omega,λi h=>by simp at h,λh=>absurd hee h,λ_=>rfl⟩
   ·obtain⟨k,hk⟩:=LR hee;have hk32:=Gu he32 hk.bit;refine⟨2^k,by rw[aaT he32 hk],Hv hk32,λi h=> ?_,λ_=>Nat.ne_of_gt (Nat.pow_pos (by omega)),λh=>absurd h hee⟩
    rw[Nat.testBit_two_pow,decide_eq_true_eq]at h;rw[<-h];exact hk.bit
  ·rw[if_neg (by omega)];refine⟨w &&& e,rfl,OY hw,λi h=> ?_,λ_=>h0,λh=>by rw[h];exact Nat.and_zero w⟩
   rw[Nat.testBit_and,Bool.and_eq_true]at h;exact h.2
 have hWG:WG g W:=λi hi=>he i (hWe i hi);have permits:∀(t:Nat),t≠0->t<4294967296->(∀i,t.testBit i=true->e.testBit i=true)->∀b,(if kind=1 then some (decide ((eO .u32 (t:Int) (wI .u32 ((t:Int) - 1)))=0))else if kind=2 then(Option.bind (gW 1000 r (t:Int)) λr7=>some r7)else if kind=4 then some (decide ((t:Int)=(e:Int)))else some true)=some b->fT 1000 r kind (e:Int) (t:Int)=some b:=by
  intro t h0 h32 hsub b hb;unfold fT lL;have hd:Nq t e=0:=by
   refine Nat.eq_of_testBit_eq λi=> ?_;rw[Sr h32 he32,Nat.zero_testBit];cases h1:t.testBit i with
   |false=>rfl
   |true=>rw[hsub i h1];rfl
  rw[if_neg (by omega),Uk,hd,if_neg (by simp)];exact hb
 rw[hW];unfold i_;by_cases k1:kind=1
 ·rw[if_pos k1];by_cases hw0:W=0
  ·refine⟨0,by rw[hw0];rfl,λi h=>by simp at h,λh=>absurd hw0 (hW0 h)⟩
  ·obtain⟨k,hk⟩:=LR hw0;have hk32:=Gu hW32 hk.bit;have hL:RR (2^k) k:=⟨by rw[Nat.testBit_two_pow];simp,λj hj=>by rw[Nat.testBit_two_pow];exact decide_eq_false (by omega)⟩
   refine⟨2^k,by rw[aaT hW32 hk],λi h=> ?_,λhee=>⟨Nat.ne_of_gt (Nat.pow_pos (by omega)),?_,λ_ v u hv hu hadj=> ?_,λh=>by omega⟩⟩
   ·rw[Nat.testBit_two_pow,decide_eq_true_eq]at h;rw[<-h];exact hWe k hk.bit
   ·refine permits _ (Nat.ne_of_gt (Nat.pow_pos (by omega))) (Hv hk32) (λi h=> ?_) true ?_
    ·rw[Nat.testBit_two_pow,decide_eq_true_eq]at h;rw[<-h];exact hWe k hk.bit
    ·obtain⟨m',e1,e2,e3⟩:=O_ (Hv hk32) hL;rw[if_pos k1,e1];have:m'=0:=Nat.eq_of_testBit_eq λi=>by
      rw[e3,Nat.testBit_two_pow,Nat.zero_testBit];by_cases q:k=i
      ·simp[q]
      ·simp[q]
     rw[this];rfl
   ·rw[Nat.testBit_two_pow,decide_eq_true_eq]at hv hu;subst hv;subst hu;obtain⟨i,hi,he⟩:=hadj;exact((hV.node k (hWG k hk.bit)).links i hi).2.1 he
 rw[if_neg k1];by_cases k2:kind=2
 ·rw[if_pos k2];obtain⟨t,h1,h2,h3,h4,h5⟩:=Nt hV hN hWG 1000 32 0 1000 W 0 (by omega) hW32 (by omega) (λi hi=>by omega) (λi h=>h) (λi h=>by simp at h) (λv u h=>by simp at h) (λ_=> .inr Z) (by omega);refine⟨t,h1,λi h=>hWe i (h3 i h),λhee=>⟨h5 (hW0 hee),?_,λ_=>h4,λh=>by omega⟩⟩
  refine permits t (h5 (hW0 hee)) h2 (λi h=>hWe i (h3 i h)) true ?_;rw[if_neg k1,if_pos k2,bM (HC hV hN (λi h=>hWG i (h3 i h)) h4)]
 rw[if_neg k2];by_cases k4:kind=4
 ·rw[if_pos k4];refine⟨e,rfl,λi h=>h,λhee=>⟨hee,permits e hee he32 (λi h=>h) true ?_,λh=>by omega,λ_=>rfl⟩⟩
  rw[if_neg k1,if_neg k2,if_pos k4];simp
 ·rw[if_neg k4];refine⟨W,rfl,hWe,λhee=>⟨hW0 hee,permits W (hW0 hee) hW32 hWe true ?_,λh=>by omega,λh=>absurd h k4⟩⟩
  rw[if_neg k1,if_neg k2,if_neg k4]
end Go.Proofs.YtjkjpdonlpdcaaaGreatDoor
namespace Go.Proofs.YtjkjpdonlpdcaaaGreatDoor
open Go.Sx
def zH  (a:Int):Option (Int):=
 some (a)
def uI (c:aT) (a:eD) (b:iO->Option (Int)):Option (Int):=
 if a.2<(List.length c:Int)then(ck (0<=a.2∧a.2<(List.length c:Int)) (b ((max a.1 (at' c a.2)),(wI .i64 (a.2+(1:Int))))))else(zH  (a.1))
def xV (U:Nat) (a:aT):Option (Int):=
 if(List.length a:Int)<(1:Int)then(none)else(ck (0<=(0:Int)∧(0:Int)<(List.length a:Int)) (bP (uI a) U ((at' a (0:Int)),(1:Int))))
theorem Uq:aQ Tryz.prog 37:=Tryz.call37
theorem Gf (U:Nat) {f:aT} (g:Value) (r:Int) (h:xV U f=some r):
  bA Tryz.prog 37 #[g] [Sl bN g f] (λx:Unit=>vI (r)) (λx l=>l) (λ_ l=>l):=by
 refine bA.of Tryz.func37 Z Tryz.ntmps37 Z λc=>?_;refine aS<|aC Z<|aK<|aI<|aS<|aA Z<|iH (aE.fact 0 Z) Z<|cP Z<|aK ?_;refine eZ h Z (λh=>?_) λh=>?_
 ·refine aR ?_;cases h
 refine cE<|aS<|aA Z<|dK h λj h=>aB (aZ Z Z (aE.fact 0 Z) Z Z j) Z<|aB (bU Z (aE.fact 0 Z) Z Z Z cS j) Z<|aC Z<|aK<|aI<|d_ (λb=>zH  b=some r) (λb i=>[(3,vI (b))]) (λb i=>[]) ?_ ?_
 ·refine aS<|aC Z<|aK<|aU<|eH (uI f) (λa d=>[(0,g),(3,vI (a.1)),(4,vI (a.2))]) (λa d=>[]) ((at' f (0:Int)),(1:Int)) () h SF (aY.refl _) ?_;intro k a d h;refine aI<|aS<|aA Z<|aA Z<|iH (aE.fact 0 Z) Z<|cP Z<|aK ?_;refine eZ h Z (λh=>?_) λh=>?_
  ·refine cE<|aI<|aU<|aR<|aA Z<|aA Z<|aA Z<|dK h λe h=>aB (aZ Z Z (aE.fact 0 Z) Z Z e) Z<|aB (bU Z (aE.fact 0 Z) Z Z Z cS e) Z<|aB (Nc Z Z) Z<|aC Z<|fF<|mP<|aR<|aA Z<|cO Z<|aC Z<|aK ?_;exact Ai ((max a.1 (at' f a.2)),(wI .i64 (a.2+(1:Int)))) () h SF Z
  refine fE ?_;exact iI (a.1) () h SF Z
 intro b i h;unfold zH at h;refine aS<|aA Z<|aC Z<|aK<|aP ?_;cases h;exact kM Z
def oH (U:Nat) (a:DI) (b:cB) (d:Int):Option iO:=
 Option.bind (xV U b.1) λc=>(some (a.2.2.1,(wI .i64 ((wI .i64 (a.2.2.2.1+(wI .i64 (a.2.2.2.2.1*(List.length b.1:Int)))))+(wI .i64 (a.2.2.2.2.2*c))))))
theorem XG:aQ Tryz.prog 217:=Tryz.call217
theorem FZ (U:Nat) {a:DI} {d:cB} {f:Int} (b:Value)  (e:Value)  (k:mH) (r:eD) (h:oH U a d f=some r):
  bA Tryz.prog 217 #[Value.agg #[vS (a.1),vI (a.2.1),vI (a.2.2.1),vI (a.2.2.2.1),vI (a.2.2.2.2.1),vI (a.2.2.2.2.2)],Value.agg #[b,e],vI (f)] [Sl bN b d.1,S2 aO e k d.2] (λx:Unit=>Value.tuple #[vI (r.1),vI (r.2)]) (λx l=>l) (λ_ l=>l):=by
 refine bA.of Tryz.func217 Z Tryz.ntmps217 Z λc=>?_;refine aS<|aG (aJ.box (cs:=[vS (a.1),vI (a.2.1),vI (a.2.2.1),vI (a.2.2.2.1),vI (a.2.2.2.2.1),vI (a.2.2.2.2.2)]) Z Z) Z λm=>aG (aJ.box (cs:=[b,e]) Z Z) Z λn=>aC Z<|aC Z<|aK<|aI ?_;refine JR.start [0,1,0,4,0,16,0,64,192,496,1020,0,2048,0,8192,24576,63488,131068,57347,524287] 19 mixedOrders (by decide +kernel) ?_;refine JR.open (by exact rfl) ?_;refine cN Z<|dY 1 Z<|cN Z<|dY 1 Z<|cN Z<|dY 1 Z<|cN Z<|dY 0 Z<|bI Z .nil (h_ 0 Z) (fG Z (aE.fact 0 Z) Z) aN.z<|fY Z (tQ Z Z)<|fY Z (zX Z Z)<|cN Z<|dY 1 Z<|cN Z<|dY 0 Z<|eL h λg i h=>JR.loud Z Z Z (aJ.callQ Uq (Gf U b g i) Z (lJ [0] Z)) Z (λj=>(jV [([1],[]),([],[0]),([0],[]),([1],[]),([1],[]),([1],[])] Z)) λj=>fY Z (tQ Z Z)<|fY Z (zX Z Z)<|fY Z (tY Z)<|bK 19 Z Z<|aC Z<|aK<|aP ?_;cases h;exact gZ () Z Z (RV.tmp Z) (RV.tmp Z) .nil aD.nil
def rX (U:Nat) (a:DI) (b:cB) (c:Int):Option iO:=
 some ((0:Int),(1:Int))
theorem XH:aQ Tryz.prog 218:=Tryz.call218
theorem F_ (U:Nat) {a:DI} {b:cB} {f:Int} (d:Value)  (e:Value)  (g:mH) (r:eD) (h:rX U a b f=some r):
  bA Tryz.prog 218 #[Value.agg #[vS (a.1),vI (a.2.1),vI (a.2.2.1),vI (a.2.2.2.1),vI (a.2.2.2.2.1),vI (a.2.2.2.2.2)],Value.agg #[d,e],vI (f)] [Sl bN d b.1,S2 aO e g b.2] (λx:Unit=>Value.tuple #[vI (r.1),vI (r.2)]) (λx l=>l) (λ_ l=>l):=by
 refine bA.of Tryz.func218 Z Tryz.ntmps218 Z λc=>?_;unfold rX at h;refine aS<|aG (aJ.box (cs:=[vS (a.1),vI (a.2.1),vI (a.2.2.1),vI (a.2.2.2.1),vI (a.2.2.2.2.1),vI (a.2.2.2.2.2)]) Z Z) Z λi=>aG (aJ.box (cs:=[d,e]) Z Z) Z λj=>aC Z<|aC Z<|aK<|aS<|aC Z<|aC Z<|aK<|aP ?_;cases h;exact gZ () Z Z (RV.tmp Z) (RV.tmp Z) .nil aD.nil
def oI (U:Nat) (c:DI) (b:cB) (a:Int):Option iO:=
 ck (0<=a∧a<(List.length b.2:Int)) (some ((-1:Int),(wI .i64 ((List.length (at' b.2 a):Int) - (1:Int)))))
theorem XI:aQ Tryz.prog 219:=Tryz.call219
theorem Ga (U:Nat) {a:DI} {d:cB} {g:Int} (e:Value)  (f:Value)  (i:mH) (r:eD) (h:oI U a d g=some r):
  bA Tryz.prog 219 #[Value.agg #[vS (a.1),vI (a.2.1),vI (a.2.2.1),vI (a.2.2.2.1),vI (a.2.2.2.2.1),vI (a.2.2.2.2.2)],Value.agg #[e,f],vI (g)] [Sl bN e d.1,S2 aO f i d.2] (λx:Unit=>Value.tuple #[vI (r.1),vI (r.2)]) (λx l=>l) (λ_ l=>l):=by
 refine bA.of Tryz.func219 Z Tryz.ntmps219 Z λc=>?_;refine aS<|aG (aJ.box (cs:=[vS (a.1),vI (a.2.1),vI (a.2.2.1),vI (a.2.2.2.1),vI (a.2.2.2.2.1),vI (a.2.2.2.2.2)]) Z Z) Z λj=>aG (aJ.box (cs:=[e,f]) Z Z) Z λk=>aC Z<|aC Z<|aK<|aI ?_;refine JR.start [0,1,0,7,15,31,63,0,255] 8 mixedOrders (by decide +kernel) ?_;refine JR.open (by exact rfl) ?_;refine cN Z<|dY 0 Z<|bE Z<|dK h λb h=>bI Z .nil (h_ 1 Z) (cQ Z Z (aE.fact 0 Z) Z Z b) aN.z<|bI Z .nil (h_ 1 Z) (cL Z (aE.fact 0 Z) Z Z b) aN.z<|bI Z .nil (h_ 1 Z) (fG Z (aE.el (aE.fact 0 Z) b.1 b.2) Z) aN.z<|fY Z (mJ Z Z)<|fY Z (tY Z)<|bK 8 Z Z<|aC Z<|aK<|aP ?_;cases h;exact gZ () Z Z (RV.tmp Z) (RV.tmp Z) .nil aD.nil
def yP  (a:Unit):Option iO:=
 some ((0:Int),(-1:Int))
def mE (c:Int) (a:(Int)->Option iO) (b:Unit):Option iO:=
 a (wI .i64 (c+(1:Int)))
def eT (U:Nat) (a:DI) (d:cB) (h:Int) (b:Int) (c:(Int)->Option iO):Option iO:=
 if b<(List.length ([((1:Int),(217:Nat)),((2:Int),(218:Nat)),((3:Int),(219:Nat))]):Int)then(ck (0<=b∧b<(List.length ([((1:Int),(217:Nat)),((2:Int),(218:Nat)),((3:Int),(219:Nat))]):Int)) (if b=(0:Int)then(if(1:Int)=a.2.1 then(Option.bind (oH U ((a.1,a.2.1,a.2.2.1,a.2.2.2.1,a.2.2.2.2.1,a.2.2.2.2.2)) ((d.1,d.2)) h) λe=>(some (e.1,e.2)))else(mE b c (())))else(if b=(1:Int)then(if(2:Int)=a.2.1 then(Option.bind (rX U ((a.1,a.2.1,a.2.2.1,a.2.2.2.1,a.2.2.2.2.1,a.2.2.2.2.2)) ((d.1,d.2)) h) λf=>(some (f.1,f.2)))else(mE b c (())))else(if(3:Int)=a.2.1 then(Option.bind (oI U ((a.1,a.2.1,a.2.2.1,a.2.2.2.1,a.2.2.2.2.1,a.2.2.2.2.2)) ((d.1,d.2)) h) λg=>(some (g.1,g.2)))else(mE b c (()))))))else(yP  (()))
def j_ (U:Nat) (a:DI) (b:cB) (c:Int):Option iO:=
 bP (eT U a b c) U (0:Int)
theorem Qr:aQ Tryz.prog 162:=Tryz.call162
theorem CQ (U:Nat) {a:DI} {p:cB} {m:Int} (g:Value)  (i:Value)  (y:mH) (r:eD) (h:j_ U a p m=some r):
  bA Tryz.prog 162 #[Value.agg #[vS (a.1),vI (a.2.1),vI (a.2.2.1),vI (a.2.2.2.1),vI (a.2.2.2.2.1),vI (a.2.2.2.2.2)],Value.agg #[g,i],vI (m)] [Sl bN g p.1,S2 aO i y p.2] (λx:Unit=>Value.tuple #[vI (r.1),vI (r.2)]) (λx l=>l) (λ_ l=>l):=by
 refine bA.of Tryz.func162 Z Tryz.ntmps162 Z λc=>?_;unfold j_ at h;refine aS<|aG (aJ.box (cs:=[vS (a.1),vI (a.2.1),vI (a.2.2.1),vI (a.2.2.2.1),vI (a.2.2.2.2.1),vI (a.2.2.2.2.2)]) Z Z) Z λt=>aG (aJ.box (cs:=[g,i]) Z Z) Z λu=>aC Z<|aC Z<|aK<|aS ?_;refine aB (Cm (r:=Value.agg #[vI (1:Int),Value.func (.func 217) #[] #[]]) Z Z (by intro w;simp[Instr.build,Instr.fill,eP,dV,dH,eQ,eR,dW,fS])) Z ?_;refine aB (Cm (r:=Value.agg #[vI (2:Int),Value.func (.func 218) #[] #[]]) Z Z (by intro w;simp[Instr.build,Instr.fill,eP,dV,dH,eQ,eR,dW,fS])) Z ?_;refine aB (Cm (r:=Value.agg #[vI (3:Int),Value.func (.func 219) #[] #[]]) Z Z (by intro w;simp[Instr.build,Instr.fill,eP,dV,dH,eQ,eR,dW,fS])) Z ?_;refine aG (cW (e:=HO) ([(((1:Int),((217:Nat)))),(((2:Int),((218:Nat)))),(((3:Int),((219:Nat))))]) [(0,Value.agg #[vI (1:Int),Value.func (.func 217) #[] #[]]),(1,Value.agg #[vI (2:Int),Value.func (.func 218) #[] #[]]),(2,Value.agg #[vI (3:Int),Value.func (.func 219) #[] #[]])] Z Z Z Z (UW (vI (1:Int)) (Value.func (.func 217) #[] #[]) (vI (2:Int)) (Value.func (.func 218) #[] #[]) (vI (3:Int)) (Value.func (.func 219) #[] #[])) Z Z Z) Z λv=>aC Z<|aK<|aI<|d_ (λs=>yP  s=some r) (λs G=>[]) (λs G=>[]) ?_ ?_
 ·refine aS<|aA Z<|aB (fG Z (aX (aE.res 0 Z) Bb) Z) Z<|aA Z<|aK<|aU<|eH (eT U a p m) (λk H=>[(2,vI (m)),(3,vP t),(4,vP u),(15,v),(16,vI (List.length ([((1:Int),(217:Nat)),((2:Int),(218:Nat)),((3:Int),(219:Nat))]):Int)),(17,vI (k))]) (λk H=>[Ar HO v ([((1:Int),(217:Nat)),((2:Int),(218:Nat)),((3:Int),(219:Nat))]),bH u [g,i] 27,bH t [vS (a.1),vI (a.2.1),vI (a.2.2.1),vI (a.2.2.2.1),vI (a.2.2.2.2.1),vI (a.2.2.2.2.2)] 85]) (0:Int) () h SF (aY.refl _) ?_;intro z k H h;refine aS<|cP Z<|aK<|aI ?_;refine eZ h Z (λh=>?_) λh=>?_
  ·refine cE<|aI<|d_ (λj=>mE k (bP (eT U a p m) z) j=some r) (λj n=>[(2,vI (m)),(3,vP t),(4,vP u),(15,v),(16,vI (List.length ([((1:Int),(217:Nat)),((2:Int),(218:Nat)),((3:Int),(219:Nat))]):Int)),(17,vI (k))]) (λj n=>[Ar HO v ([((1:Int),(217:Nat)),((2:Int),(218:Nat)),((3:Int),(219:Nat))]),bH u [g,i] 27,bH t [vS (a.1),vI (a.2.1),vI (a.2.2.1),vI (a.2.2.2.1),vI (a.2.2.2.2.1),vI (a.2.2.2.2.2)] 85]) ?_ ?_
   ·refine aU<|aS<|dK h λf h=>aB (aZ Z Z (aX (aE.res 0 Z) Bb) Z Z f) Z ?_;by_cases b:k=(0:Int)
    ·have h:=Ie b h;refine aB (c_ (cs:=[vI (1:Int),Value.func (.func 217) #[] #[]]) Z (aX (aE.res 0 Z) Bb) Bb (by rw[b];rfl) Z Z Z f) Z ?_;refine aG (aJ.alloc (cs:=[vI (0:Int),Value.nilFunc]) Z Z) Z λI=>bR 0 (vs:=[vI (1:Int),Value.func (.func 217) #[] #[]]) Z Z Z Z Z Z<|aK<|aS<|bX Z<|cJ 0 Z<|bX Z<|cJ 3 Z<|cC Z<|aK ?_;refine eZ h Z (λh=>?_) λh=>?_
     ·refine aS<|bX Z<|cJ 0 Z<|dM 3 Z<|dM 2 Z<|aA Z<|eL h λA D h=>aG (fQ (vs:=[Value.agg #[vS (a.1),vI (a.2.1),vI (a.2.2.1),vI (a.2.2.2.1),vI (a.2.2.2.2.1),vI (a.2.2.2.2.2)],Value.agg #[g,i],vI (m)]) (cs:=[]) XG Z (FZ U g i y A D) Z (lJ [0,1] Z) (λ_ _=>rfl)) Z λL=>iG Z<|iG Z<|aC Z<|aC Z<|aK<|aP<|bO<|aH<|aH<|bO<|aH ?_;cases h;exact gZ () Z Z (RV.tmp Z) (RV.tmp Z) .nil aD.nil
     refine dJ<|mP ?_;exact bT () (()) h SF (aY.ix [1,2,3] Z Z) (aD.refl _ _)
    have h:=SH b h;by_cases d:k=(1:Int)
    ·have h:=Ie d h;refine aB (c_ (cs:=[vI (2:Int),Value.func (.func 218) #[] #[]]) Z (aX (aE.res 0 Z) Bb) Bb (by rw[d];rfl) Z Z Z f) Z ?_;refine aG (aJ.alloc (cs:=[vI (0:Int),Value.nilFunc]) Z Z) Z λJ=>bR 0 (vs:=[vI (2:Int),Value.func (.func 218) #[] #[]]) Z Z Z Z Z Z<|aK<|aS<|bX Z<|cJ 0 Z<|bX Z<|cJ 3 Z<|cC Z<|aK ?_;refine eZ h Z (λh=>?_) λh=>?_
     ·refine aS<|bX Z<|cJ 0 Z<|dM 3 Z<|dM 2 Z<|aA Z<|eL h λB E h=>aG (fQ (vs:=[Value.agg #[vS (a.1),vI (a.2.1),vI (a.2.2.1),vI (a.2.2.2.1),vI (a.2.2.2.2.1),vI (a.2.2.2.2.2)],Value.agg #[g,i],vI (m)]) (cs:=[]) XH Z (F_ U g i y B E) Z (lJ [0,1] Z) (λ_ _=>rfl)) Z λM=>iG Z<|iG Z<|aC Z<|aC Z<|aK<|aP<|bO<|aH<|aH<|bO<|aH ?_;cases h;exact gZ () Z Z (RV.tmp Z) (RV.tmp Z) .nil aD.nil
     refine dJ<|mP ?_;exact bT () (()) h SF (aY.ix [1,2,3] Z Z) (aD.refl _ _)
    have h:=SH d h;have o:k=(2:Int):=by have q:=f;simp only[List.length_cons,List.length_nil]at q;omega
    refine aB (c_ (cs:=[vI (3:Int),Value.func (.func 219) #[] #[]]) Z (aX (aE.res 0 Z) Bb) Bb (by rw[o];rfl) Z Z Z f) Z ?_;refine aG (aJ.alloc (cs:=[vI (0:Int),Value.nilFunc]) Z Z) Z λK=>bR 0 (vs:=[vI (3:Int),Value.func (.func 219) #[] #[]]) Z Z Z Z Z Z<|aK<|aS<|bX Z<|cJ 0 Z<|bX Z<|cJ 3 Z<|cC Z<|aK ?_;refine eZ h Z (λh=>?_) λh=>?_
    ·refine aS<|bX Z<|cJ 0 Z<|dM 3 Z<|dM 2 Z<|aA Z<|eL h λC F h=>aG (fQ (vs:=[Value.agg #[vS (a.1),vI (a.2.1),vI (a.2.2.1),vI (a.2.2.2.1),vI (a.2.2.2.2.1),vI (a.2.2.2.2.2)],Value.agg #[g,i],vI (m)]) (cs:=[]) XI Z (Ga U g i y C F) Z (lJ [0,1] Z) (λ_ _=>rfl)) Z λN=>iG Z<|iG Z<|aC Z<|aC Z<|aK<|aP<|bO<|aH<|aH<|bO<|aH ?_;cases h;exact gZ () Z Z (RV.tmp Z) (RV.tmp Z) .nil aD.nil
    refine dJ<|mP ?_;exact bT () (()) h SF (aY.ix [1,2,3] Z Z) (aD.refl _ _)
   intro j n h;unfold mE at h;refine aR<|cO Z<|aA Z<|aK ?_;exact Ai (wI .i64 (k+(1:Int))) () h SF Z
  refine fE ?_;exact bT () (()) h SF .nil (aD.refl _ _)
 intro s G h;unfold yP at h;refine aS<|aC Z<|aC Z<|aK<|aP ?_;cases h;exact gZ () Z Z (RV.tmp Z) (RV.tmp Z) (aY.refl _) aD.nil
def uR  (a:gH):Option (gH):=
 some (a)
def uS (b:Int×gH) (a:(Int×gH)->Option (gH)) (c:gH):Option (gH):=
 a ((wI .i64 (b.1+(1:Int))),c)
def nW (U:Nat) (d:Ca) (g:cB) (b:Int×gH) (e:(Int×gH)->Option (gH)) (a:Int×gH) (f:(Int×gH)->Option (gH)):Option (gH):=
 if a.1<(List.length d.2.1:Int)then(ck (0<=a.1∧a.1<(List.length d.2.1:Int)) (ck (0<=b.1∧b.1<(List.length a.2:Int)) (ck (0<=b.1∧b.1<(List.length a.2:Int)) (Option.bind (j_ U ((((at' d.2.1 a.1).1),((at' d.2.1 a.1).2.1),((at' d.2.1 a.1).2.2.1),((at' d.2.1 a.1).2.2.2.1),((at' d.2.1 a.1).2.2.2.2.1),((at' d.2.1 a.1).2.2.2.2.2))) ((g.1,g.2)) b.1) λc=>(ck (0<=a.1∧a.1<(List.length (at' a.2 b.1):Int)) (ck (0<=a.1∧a.1<(List.length (at' (List.set a.2 (Int.toNat b.1) (List.set (at' a.2 b.1) (Int.toNat a.1) (c.1,((at' (at' a.2 b.1) a.1).2)))) b.1):Int)) (f ((wI .i64 (a.1+(1:Int))),(List.set (List.set a.2 (Int.toNat b.1) (List.set (at' a.2 b.1) (Int.toNat a.1) (c.1,((at' (at' a.2 b.1) a.1).2)))) (Int.toNat b.1) (List.set (at' (List.set a.2 (Int.toNat b.1) (List.set (at' a.2 b.1) (Int.toNat a.1) (c.1,((at' (at' a.2 b.1) a.1).2)))) b.1) (Int.toNat a.1) (((at' (at' (List.set a.2 (Int.toNat b.1) (List.set (at' a.2 b.1) (Int.toNat a.1) (c.1,((at' (at' a.2 b.1) a.1).2)))) b.1) a.1).1),c.2)))))))))))else(uS b e (a.2))
def lP (U:Nat) (c:Ca) (d:cB) (a:Int×gH) (b:(Int×gH)->Option (gH)):Option (gH):=
 if a.1<(List.length (List.replicate (Int.toNat (List.length d.1:Int)) ([]:b_)):Int)then(ck (0<=(List.length c.2.1:Int)∧(List.length c.2.1:Int)<=1099511627) (ck (0<=a.1∧a.1<(List.length a.2:Int)) (bP (nW U c d a b) U ((0:Int),(List.set a.2 (Int.toNat a.1) (List.replicate (Int.toNat (List.length c.2.1:Int)) ((0:Int),(0:Int))))))))else(uR  (a.2))
def nC (U:Nat) (b:Ca) (a:cB):Option (gH):=
 ck (0<=(List.length a.1:Int)∧(List.length a.1:Int)<=1099511627) (bP (lP U b a) U ((0:Int),(List.replicate (Int.toNat (List.length a.1:Int)) ([]:b_))))
theorem Uu:aQ Tryz.prog 97:=Tryz.call97
theorem Dw (U:Nat) {d:Ca} {q:cB} (v:Value)  (y:Value)  (A:Value)  (C:Value)  (z4:mH) (r:gH) (h:nC U d q=some r):
  bA Tryz.prog 97 #[Value.agg #[vS (d.1),v,y],Value.agg #[A,C]] [Sl aW v d.2.1,Sl aM y d.2.2,PF (Value.agg #[vS d.1,v,y]),Sl bN A q.1,S2 aO C z4 q.2] (λx:Value×List Value=>x.1) (λx l=>Ar eK.raw x.1 x.2::k_ bS x.2 r::l) (λ_ l=>l):=by
 refine bA.of Tryz.func97 Z Tryz.ntmps97 Z λc=>?_;refine aS<|aG (aJ.box (cs:=[vS (d.1),v,y]) Z Z) Z λD=>aG (aJ.box (cs:=[A,C]) Z Z) Z λE=>aC Z<|aK<|aS<|bX Z<|cJ 0 Z<|iH (aE.fact 3 Z) Z<|dK h λj3 h=>jY (zM bS (Int.toNat (List.length q.1:Int)))<|aG (sD (e:=eK.raw) (lS) Z Z Z Z j3 Z Z Z) Z λu=>aC Z<|aK<|aI<|Cz (B:=iP) (λF=>uR  F=some r) (λF H=>[(5,u)]) (λF H=>[Ar eK.raw u H,k_ bS H F]) ?_ ?_
 ·refine aS<|aA Z<|aB (lY Z (bJ (i:=0) (j:=1) Z Z bB) Z) Z<|aA Z<|aK<|aU<|eH (B:=iP) (lP U d q) (λb m=>[(2,vP D),(3,vP E),(5,u),(14,vI (List.length (List.replicate (Int.toNat (List.length q.1:Int)) ([]:b_)):Int)),(15,vI (b.1))]) (λb m=>[Ar eK.raw u m,k_ bS m b.2,bH E [A,C] 27,bH D [vS (d.1),v,y] 42]) ((0:Int),(List.replicate (Int.toNat (List.length q.1:Int)) ([]:b_))) (List.replicate (Int.toNat (List.length q.1:Int)) (lS)) h SF (aY.refl _) ?_;intro S b m h;refine aS<|cP Z<|aK<|aI ?_;refine eZ h Z (λh=>?_) λh=>?_
  ·refine cE<|aI<|Cz (B:=iP) (λp=>uS b (bP (lP U d q) S) p=some r) (λp s=>[(2,vP D),(3,vP E),(5,u),(14,vI (List.length (List.replicate (Int.toNat (List.length q.1:Int)) ([]:b_)):Int)),(15,vI (b.1))]) (λp s=>[Ar eK.raw u s,k_ bS s p,bH E [A,C] 27,bH D [vS (d.1),v,y] 42]) ?_ ?_
   ·refine aU<|aS<|aA Z<|aC Z<|aK<|aS<|aA Z<|aA Z<|bX Z<|cJ 3 Z<|iH (aE.fact 0 Z) Z<|dK h λT h=>aG (sD (e:=bS) (((0:Int),(0:Int))) Z Z Z Z T Z Z Z) Z λw=>dK h λt h=>aB (cQ Z Z (bJ (i:=1) (j:=2) Z Z bB) Z Z t) Z<|dB (Know.one ((aX (aE.res 0 Z) bB))) λO=>jY (yL (k:=b.1) 2 0 Z Z Z t) ?_;refine qA 0 1 ⟨t.1,by first|exact t.2|simpa using t.2⟩ Z Z Z Z Z (by simp) O Z ?_;refine aK<|aS<|bX Z<|cJ 3 Z<|iH (aE.fact 0 Z) Z<|aA Z<|aK<|aU<|eH (nW U d q b (bP (lP U d q) S)) (λa G=>[(2,vP D),(3,vP E),(5,u),(6,vI (b.1)),(14,vI (List.length (List.replicate (Int.toNat (List.length q.1:Int)) ([]:b_)):Int)),(15,vI (b.1)),(26,v),(27,vI (List.length d.2.1:Int)),(28,vI (a.1))]) (λa G=>[Ar eK.raw u (List.set m (Int.toNat b.1) w),k_ bS (List.set m (Int.toNat b.1) w) a.2,bH E [A,C] 27,bH D [vS (d.1),v,y] 42]) ((0:Int),(List.set b.2 (Int.toNat b.1) (List.replicate (Int.toNat (List.length d.2.1:Int)) ((0:Int),(0:Int))))) () h SF (aY.refl _) ?_;intro ac a G h;refine aS<|cP Z<|aK<|aI ?_;refine eZ h Z (λh=>?_) λh=>?_
    ·refine cE<|aI<|aU<|aS<|aA Z<|dK h λP h=>aB (aZ Z Z (aE.fact 0 Z) Z Z P) Z<|aB (c_ (cs:=[vS ((at' d.2.1 a.1).1),vI ((at' d.2.1 a.1).2.1),vI ((at' d.2.1 a.1).2.2.1),vI ((at' d.2.1 a.1).2.2.2.1),vI ((at' d.2.1 a.1).2.2.2.2.1),vI ((at' d.2.1 a.1).2.2.2.2.2)]) Z (aE.fact 0 Z) fJ Z Z Z Z P) Z<|aG (aJ.alloc (cs:=vD4) Z Z) Z λab=>aC Z<|bR 0 (vs:=[vS ((at' d.2.1 a.1).1),vI ((at' d.2.1 a.1).2.1),vI ((at' d.2.1 a.1).2.2.1),vI ((at' d.2.1 a.1).2.2.2.1),vI ((at' d.2.1 a.1).2.2.2.2.1),vI ((at' d.2.1 a.1).2.2.2.2.2)]) Z Z Z Z Z Z<|aK ?_;refine JR.start [0,0,3,7,0,0,0,96,224,0,0,0,0,7168,15360,31744,31744,31,196095,458239,992,2097151,4194303] 21 mixedOrders (by decide +kernel) ?_;refine JR.open (by exact rfl) ?_;refine bE Z<|bE Z<|dK h λn h=>bY (cY 2 Z) λI=>?_;refine bI Z (aY.cons 1 Z .nil) .nil (iM 0 Z Z Z Z Z n.1 (by have V:=n.2;have W:=I;(try simp only[List.length_set]at V);(try simp only[List.length_set]at W);(try simp only[List.length_set]);omega)) aN.z ?_;refine bY (cY 2 Z) λJ=>bI Z (aY.cons 1 Z .nil) .nil (lK 0 Z Z J Z Z n) aN.z<|bE Z<|bE Z<|bE Z<|dK h λg h=>bY (cY 2 Z) λK=>?_;refine bI Z (aY.cons 1 Z .nil) .nil (iM 0 Z Z Z Z Z g.1 (by have V:=g.2;have W:=K;(try simp only[List.length_set]at V);(try simp only[List.length_set]at W);(try simp only[List.length_set]);omega)) aN.z ?_;refine bY (cY 2 Z) λL=>bI Z (aY.cons 1 Z .nil) .nil (lK 0 Z Z L Z Z g) aN.z<|bE Z<|hZ 0 Z<|hZ 3 Z<|bE Z<|eL h λf X h=>JR.loud Z Z Z (aJ.callQ Qr (CQ U A C z4 f X) Z (lJ [3,4] Z)) Z (λY=>(jV [([1],[]),([1],[]),([1],[]),([1],[])] Z)) λY=>fY Z (fC Z)<|fY Z (gA Z Z)<|fY Z (gA Z Z)<|dK h λQ h=>bY (Know.len (aE.row (j:=2) Z bB n.1 n.2)) λM=>fY Z (Df Z Z M Z Z Q) ?_;refine fY Z (pG (i:=0) Z Z Z Z Z (by decide)) ?_;refine oC Z Z Z (Db (us:=[vI (f.1)]) (o:=0) (k:=b.1) 2 ((f.1,((at' (at' a.2 b.1) a.1).2))) ⟨n.1,by first|exact n.2|simpa using n.2⟩ Q Z Z Z Z Z Z Z Z Z Z) (λaa=>(jV [] Z)) λaa=>dK h λR h=>bY (Know.len (aE.row (j:=2) Z bB g.1 (by first|exact g.2|simpa using g.2))) λN=>?_;refine fY Z (Df Z Z N Z Z R)<|bK 21 Z Z ?_;refine aB (pG (i:=1) Z Z Z Z Z (by decide)) Z ?_;refine Ld (Db (us:=[vI (f.2)]) (o:=1) (k:=b.1) 2 ((((at' (at' (List.set a.2 (Int.toNat b.1) (List.set (at' a.2 b.1) (Int.toNat a.1) (f.1,((at' (at' a.2 b.1) a.1).2)))) b.1) a.1).1),f.2)) ⟨g.1,by first|exact g.2|simpa using g.2⟩ R Z Z Z Z Z Z Z Z Z Z) λad=>fF<|mP<|aR<|cO Z<|aA Z<|aK ?_;exact lT ((wI .i64 (a.1+(1:Int))),(List.set (List.set a.2 (Int.toNat b.1) (List.set (at' a.2 b.1) (Int.toNat a.1) (f.1,((at' (at' a.2 b.1) a.1).2)))) (Int.toNat b.1) (List.set (at' (List.set a.2 (Int.toNat b.1) (List.set (at' a.2 b.1) (Int.toNat a.1) (f.1,((at' (at' a.2 b.1) a.1).2)))) b.1) (Int.toNat a.1) (((at' (at' (List.set a.2 (Int.toNat b.1) (List.set (at' a.2 b.1) (Int.toNat a.1) (f.1,((at' (at' a.2 b.1) a.1).2)))) b.1) a.1).1),f.2)))) () h SF (aY.ix [1,2,3,4] Z Z) (aD.refl _ _)
    refine yJ<|iQ<|iQ<|BK<|mP ?_;exact iI (a.2) (List.set m (Int.toNat b.1) w) h SF Z
   intro p s h;unfold uS at h;refine aR<|cO Z<|aA Z<|aK ?_;exact Ai ((wI .i64 (b.1+(1:Int))),p) (s) h SF Z
  refine fE ?_;exact bT (b.2) (m) h SF (aY.ix [0,1] Z Z) (aD.refl _ _)
 intro F H h;unfold uR at h;refine aS<|aA Z<|aC Z<|aK<|aP ?_;cases h;exact kC (u,H) Z Z (RV.tmp Z) (aY.refl _) aD.nil
end Go.Proofs.YtjkjpdonlpdcaaaGreatDoor