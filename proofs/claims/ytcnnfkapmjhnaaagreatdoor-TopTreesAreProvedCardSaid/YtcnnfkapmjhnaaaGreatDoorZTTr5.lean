/- Models and proofs. Conditions: none. -/
import Derived.Test.YtcnnfkapmjhnaaaGreatDoorZTTr2
import Derived.Test.YtcnnfkapmjhnaaaGreatDoorZTTr4
set_option linter.unusedVariables false
set_option linter.unusedSimpArgs false
set_option maxHeartbeats 4000000
set_option maxRecDepth 20000
namespace Go.Proofs.YtcnnfkapmjhnaaaGreatDoor
open Go.Sx
def yF (c:(List ((Int×Int)×Int))) (a:(Int×Int)×Int) (b:Option Bool):Option Bool:=
 if(Option.getD (oC (a.1.2,a.1.1) c) (0:Int))≠a.2 then(some (false))else(b)
def jY  (a:(List ((Int×Int)×Int))):Option Bool:=
 Nn (yF a) (some (true)) a
def oO (b:Ks) (a:Ot->Option Bool) (c:(List ((Int×Int)×Int))):Option Bool:=
 a ((wI .i64 (b.1+(1:Int))),c)
def jZ (e:g_) (b:Ks) (a:Ks) (c:Ot->Option Bool) (d:Bool):Option Bool:=
 if d=true then(some (false))else(if(Option.isSome (oC (b.1,((at' (at' e b.1) a.1).1)) a.2))=true then(some (false))else(c ((wI .i64 (a.1+(1:Int))),(Em (b.1,((at' (at' e b.1) a.1).1)) ((at' (at' e b.1) a.1).2) a.2))))
def iM (d:g_) (a:Ks) (b:Ks) (c:Ot->Option Bool) (e:Bool):Option Bool:=
 if e=true then(some (false))else(if((at' (at' d a.1) b.1).2)<(1:Int)then(jZ d a b c (true))else(jZ d a b c (decide ((15:Int)<((at' (at' d a.1) b.1).2)))))
def cU (d:g_) (a:Ks) (e:Ot->Option Bool) (b:Ks) (c:Ot->Option Bool):Option Bool:=
 if b.1<((at' d a.1).length:Int)then(ck (0<=b.1∧b.1<((at' d a.1).length:Int)) (if((at' (at' d a.1) b.1).1)<(0:Int)then(iM d a b c (true))else(if(d.length:Int)<=((at' (at' d a.1) b.1).1)then(iM d a b c (true))else(iM d a b c (decide (((at' (at' d a.1) b.1).1)=a.1))))))else(oO a e (b.2))
def dN (U:Nat) (c:g_) (a:Ks) (b:Ot->Option Bool):Option Bool:=
 if a.1<(c.length:Int)then(ck (0<=a.1∧a.1<(c.length:Int)) (bH (cU c a b) U ((0:Int),a.2)))else(jY  (a.2))
def iB (U:Nat) (a:g_):Option Bool:=
 bH (dN U a) U ((0:Int),([]:List ((Int×Int)×Int)))
theorem abJ:aS Tryz.prog 177:=Tryz.call177
theorem IN (U:Nat) {f:g_} (n:Value)  (F:jO) (r:Bool) (h:iB U f=some r):
  aY Tryz.prog 177 #[n] [S2 aV n F f] (λx:Unit=>vB (r)) (λx l=>l) (λ_ l=>l):=by
 refine aY.of Tryz.func177 Z Tryz.ntmps177 Z λc=>?_;unfold iB at h;refine aP<|aC Z<|aJ<|aP<|aG (aI.makeMap pD SC) Z λk=>aC Z<|aJ<|aK<|eJ (λq=>jY  q=some r) (λq H=>[(3,Value.map (some k))]) (λq H=>[Mp pD SC k q]) ?_ ?_
 ·refine aP<|aA Z<|aD (jW Z (aE.fact 0 Z) Z) Z<|aA Z<|aJ<|aR<|eO (dN U f) (λd y=>[(0,n),(3,Value.map (some k)),(14,n),(15,vI (f.length:Int)),(16,vI (d.1))]) (λd y=>[Mp pD SC k d.2]) ((0:Int),([]:List ((Int×Int)×Int))) () h SF (a_.refl _) ?_;intro t d y h;refine aP<|cO Z<|aJ<|aK ?_;refine dK h Z (λh=>?_) λh=>?_
  ·refine cG<|aK<|eJ (λm=>oO d (bH (dN U f) t) m=some r) (λm z=>[(0,n),(3,Value.map (some k)),(14,n),(15,vI (f.length:Int)),(16,vI (d.1))]) (λm z=>[Mp pD SC k m]) ?_ ?_
   ·refine aR<|aP<|aA Z<|dQ h λj h=>aD (cV Z Z (aE.fact 0 Z) Z Z j) Z<|aD (cP Z (aE.fact 0 Z) Z Z j) Z<|aC Z<|aC Z<|aJ<|aP<|aA Z<|aD (fF Z (zBd (aE.fact 0 Z) j.1 j.2) Z) Z<|aA Z<|aJ<|aR<|eO (cU f d (bH (dN U f) t)) (λe A=>[(0,n),(3,Value.map (some k)),(4,vI (d.1)),(14,n),(15,vI (f.length:Int)),(16,vI (d.1)),(21,(at' F d.1).1),(22,vI ((at' f d.1).length:Int)),(23,vI (e.1))]) (λe A=>[Mp pD SC k e.2]) ((0:Int),d.2) () h SF (a_.refl _) ?_;intro E e A h;refine aP<|cO Z<|aJ<|aK ?_;refine dK h Z (λh=>?_) λh=>?_
    ·refine cG<|aK<|aR<|aP<|dQ h λD h=>aD (aZ Z Z (zBd (aE.fact 0 Z) j.1 j.2) Z Z D) Z<|aD (eM (cs:=[vI ((at' (at' f d.1) e.1).1),vI ((at' (at' f d.1) e.1).2)]) Z (zBd (aE.fact 0 Z) j.1 j.2) bD Z Z Z Z D) Z<|aG (aI.alloc (cs:=Ni) Z Z) Z λs=>bK 0 (vs:=[vI ((at' (at' f d.1) e.1).1),vI ((at' (at' f d.1) e.1).2)]) Z Z Z Z Z Z<|aJ<|aK<|aK<|eJ (λo=>iM f d e (bH (cU f d (bH (dN U f) t)) E) o=some r) (λo B=>[(0,n),(3,Value.map (some k)),(4,vI (d.1)),(7,vP s),(14,n),(15,vI (f.length:Int)),(16,vI (d.1)),(21,(at' F d.1).1),(22,vI ((at' f d.1).length:Int)),(23,vI (e.1)),(42,vB (o))]) (λo B=>[bM s [vI ((at' (at' f d.1) e.1).1),vI ((at' (at' f d.1) e.1).2)] 115,Mp pD SC k e.2]) ?_ ?_
     ·refine aQ<|bY Z<|cR 0 Z<|cO Z<|aA Z ?_;refine Eb h Z (λ_ h=>?_) λ_ h=>?_
      ·refine aL Z<|aL Z<|aL Z<|aL Z<|aL Z<|eK Z<|aA Z<|aL Z<|aL Z<|aL Z<|aL Z<|eK Z<|aJ ?_;exact iH (true) () h SF Z
      refine aW Z (eI Z Z Z Z Z) Z<|aW Z (d_ 0 Z Z Z Z Z) Z<|eG Z<|aW Z (jW Z (aE.fact 0 Z) Z) Z<|aW Z (Bo Z Z) Z<|fY Z<|aA Z ?_;refine Eb h Z (λ_ h=>?_) λ_ h=>?_
      ·refine aL Z<|aL Z<|aL Z<|aL Z<|eK Z<|aJ ?_;exact iH (true) () h SF Z
      refine aW Z (eI Z Z Z Z Z) Z<|aW Z (d_ 0 Z Z Z Z Z) Z<|eG Z<|aW Z (QM Z Z) Z<|fY Z<|aJ ?_;exact iH (decide (((at' (at' f d.1) e.1).1)=d.1)) () h SF Z
     intro o B h;refine yW h Z (λ_ h=>?_) λ_ h=>?_
     ·refine aP<|aC Z<|aJ<|aU<|aH<|bN<|aH<|aH<|bN<|bN<|aH<|aH<|bN<|aH ?_;cases h;exact sB Z
     refine cG<|aK<|aK<|eJ (λp=>jZ f d e (bH (cU f d (bH (dN U f) t)) E) p=some r) (λp C=>[(0,n),(3,Value.map (some k)),(4,vI (d.1)),(7,vP s),(14,n),(15,vI (f.length:Int)),(16,vI (d.1)),(21,(at' F d.1).1),(22,vI ((at' f d.1).length:Int)),(23,vI (e.1)),(50,vB (p))]) (λp C=>[bM s [vI ((at' (at' f d.1) e.1).1),vI ((at' (at' f d.1) e.1).2)] 115,Mp pD SC k e.2]) ?_ ?_
     ·refine aQ<|bY Z<|cR 0 Z<|cO Z<|aA Z ?_;refine Eb h Z (λ_ h=>?_) λ_ h=>?_
      ·refine aL Z<|aL Z<|aL Z<|eK Z<|aJ ?_;exact iH (true) () h SF Z
      refine aW Z (eI Z Z Z Z Z) Z<|aW Z (d_ 0 Z Z Z Z Z) Z<|aW Z (Bp Z Z) Z<|fY Z<|aJ ?_;exact iH (decide ((15:Int)<((at' (at' f d.1) e.1).2))) () h SF Z
     intro p C h;refine yW h Z (λ_ h=>?_) λ_ h=>?_
     ·refine aP<|aC Z<|aJ<|aU<|aH<|bN<|aH<|aH<|bN<|bN<|aH<|aH<|bN<|aH ?_;cases h;exact sB Z
     refine cG<|aP<|aA Z<|bY Z<|cR 0 Z ?_;refine aD (DU (r:=Value.agg #[vI (d.1),vI ((at' (at' f d.1) e.1).1)]) Z Z (by intro w;simp[Instr.build,Instr.fill,dX,dA,cM,dY,dZ,dB,eQ])) Z ?_;refine aG (aI.alloc (cs:=Ni) Z Z) Z λK=>bK 0 (vs:=[vI (d.1),vI ((at' (at' f d.1) e.1).1)]) Z Z Z Z Z Z<|aJ<|aK<|aP<|aA Z<|cA 0 Z ?_;refine aD (QP 2 ((d.1,((at' (at' f d.1) e.1).1))) (u:=vI (Option.getD (oC (d.1,((at' (at' f d.1) e.1).1)) e.2) (0:Int))) TT Z Z Z Z Z (by cases oC ((d.1,((at' (at' f d.1) e.1).1))) e.2<;>rfl)) Z ?_;refine aA Z<|iU Z<|iU Z<|aC Z<|aC Z<|aJ<|aP<|aA Z<|aJ ?_;refine yW h Z (λ_ h=>?_) λ_ h=>?_
     ·refine aP<|aC Z<|aJ<|aU<|aH<|bN<|aH<|aH<|bN<|bN<|aH<|aH<|bN<|aH ?_;cases h;exact sB Z
     refine cG<|aQ<|aA Z<|cA 0 Z<|bY Z<|cR 1 Z<|Qq 2 ((d.1,((at' (at' f d.1) e.1).1))) ((at' (at' f d.1) e.1).2) TT Z Z Z Z Z<|eV<|lU<|aQ<|cH Z<|aA Z<|aJ ?_;exact kO ((wI .i64 (e.1+(1:Int))),(Em (d.1,((at' (at' f d.1) e.1).1)) ((at' (at' f d.1) e.1).2) e.2)) () h SF (a_.ix [2] Z Z) (aB.refl _ _)
    refine sD<|fD<|fD<|yY<|lU ?_;exact iH (e.2) () h SF Z
   intro m z h;unfold oO at h;refine aQ<|cH Z<|aA Z<|aJ ?_;exact AS ((wI .i64 (d.1+(1:Int))),m) () h SF Z
  refine fL ?_;exact iH (d.2) () h SF Z
 intro q H h;unfold jY at h;refine aK<|aP<|aA Z<|aG (aI.range 0 Z Z Z) Z λI=>aJ<|aR<|aba [(3,Value.map (some k)),(69,vP I)] [It I k (q.length) ([]),Mp pD SC k q] [S2 aV n F f] SF (a_.refl _) (aB.refl _ _) ?_;refine Wj (yF q) 1 0 (by intro a b x;unfold yF;repeat' split;all_goals first|rfl|contradiction|simp_all) h Z Z Z Z Z Z ?_ ?_
 ·skip
  intro g N G M v h;refine aR<|aP<|aG (aI.entry 1 0 v Z Z Z) Z λL=>iU Z<|iU Z<|aG (aI.alloc (cs:=Ni) Z Z) Z λJ=>bK 0 (vs:=[vI (g.1.1),vI (g.1.2)]) Z Z Z Z Z Z<|aC Z<|aJ<|aP<|aA Z ?_;refine aD (lP (i:=1) Z Z Z Z Z (by decide)) Z ?_;refine cR 0 Z ?_;refine aD (lP (i:=0) Z Z Z Z Z (by decide)) Z ?_;refine cR 0 Z ?_;refine aD (DU (r:=Value.agg #[vI (g.1.2),vI (g.1.1)]) Z Z (by intro w;simp[Instr.build,Instr.fill,dX,dA,cM,dY,dZ,dB,eQ])) Z ?_;refine aD (QP 2 ((g.1.2,g.1.1)) (u:=vI (Option.getD (oC (g.1.2,g.1.1) q) (0:Int))) TT Z Z Z Z Z (by cases oC ((g.1.2,g.1.1)) q<;>rfl)) Z ?_;refine aA Z<|pC Z<|aJ ?_;refine dK h Z (λh=>?_) λh=>?_
  ·refine aP<|aC Z<|aJ<|aU<|bN<|aH<|bN<|aH ?_;cases h;exact sB Z
  refine dD<|lU ?_;exact Tc h SF (a_.ix [1,2] Z Z) (aB.refl _ _)
 intro G h;refine yY<|CE<|aP<|aC Z<|aJ<|aU ?_;cases h;exact sB Z
def rO  (a:Bool):Option Bool:=
 some (a)
def rM (U:Nat) (b:b_) (c:Bool):Option Bool:=
 if c=true then(some (false))else(Option.bind (kI U b.1) λd=>(if d=true then(Option.bind (iB U b.2) λa=>(rO  (a)))else(rO  (false))))
def fJ (U:Nat) (a:b_):Option Bool:=
 if(a.1.length:Int)<(1:Int)then(rM U a (true))else(if(24:Int)<(a.1.length:Int)then(rM U a (true))else(rM U a (decide ((a.2.length:Int)≠(a.1.length:Int)))))
theorem Jg:aS Tryz.prog 94:=Tryz.call94
theorem tI (U:Nat) {p0:b_} (f:Value)  (g:Value)  (o:jO) (r:Bool) (h:fJ U p0=some r):
  aY Tryz.prog 94 #[Value.agg #[f,g]] [Sl bP f p0.1,S2 aV g o p0.2] (λx:Unit=>vB (r)) (λx l=>l) (λ_ l=>l):=by
 refine aY.of Tryz.func94 Z Tryz.ntmps94 Z λc=>?_;refine aP<|aG (aI.box (cs:=[f,g]) Z Z) Z λk=>aC Z<|aJ<|aP<|bY Z<|cR 0 Z<|gS (aE.fact 0 Z) Z<|aC Z<|aJ<|aK<|aK<|eJ (λb=>rM U p0 b=some r) (λb m=>[(1,vP k),(19,vB (b))]) (λb m=>[bM k [f,g] 29]) ?_ ?_
 ·refine aQ<|aA Z<|cO Z<|aA Z ?_;refine Eb h Z (λ_ h=>?_) λ_ h=>?_
  ·refine aL Z<|aL Z<|eK Z<|aA Z<|aL Z<|aL Z<|aL Z<|aL Z<|aL Z<|eK Z<|aJ ?_;exact iH (true) () h SF Z
  refine eG Z<|aW Z (Bp Z Z) Z<|fY Z<|aA Z ?_;refine Eb h Z (λ_ h=>?_) λ_ h=>?_
  ·refine aL Z<|aL Z<|aL Z<|aL Z<|aL Z<|eK Z<|aJ ?_;exact iH (true) () h SF Z
  refine aW Z (eI Z Z Z Z Z) Z<|aW Z (d_ 0 Z Z Z Z Z) Z<|aW Z (jW Z (aE.fact 1 Z) Z) Z<|eG Z<|aW Z (Bq Z Z) Z<|fY Z<|aJ ?_;exact iH (decide ((p0.2.length:Int)≠(p0.1.length:Int))) () h SF Z
 intro b m h;refine yW h Z (λ_ h=>?_) λ_ h=>?_
 ·refine aP<|aC Z<|aJ<|aU<|aH ?_;cases h;exact sB Z
 refine cG<|aK<|eJ (λd=>rO  d=some r) (λd n=>[(2,vB (d))]) (λd n=>[]) ?_ ?_
 ·refine aQ<|bY Z<|cR 0 Z<|dV h λp i h=>aG (zBb abI (FI U f p i) Z (kA [0] Z)) Z λq=>aA Z ?_;refine yX (by exact rfl) (by exact rfl) (λa=>?_) (λa=>?_)
  ·have h:=Kx a h;refine aW Z (eI Z Z Z Z Z) Z<|aW Z (d_ 0 Z Z Z Z Z) Z<|dV h λe j h=>nN Z (zBb abJ (IN U g o e j) Z (kA [1] Z)) Z λs=>eK Z<|aC Z<|aJ ?_;exact bW (e) () h SF .nil (aB.refl _ _)
  have h:=Ju a h;refine aL Z<|aL Z<|aL Z<|fY Z<|aC Z<|aJ ?_;exact bW (false) () h SF .nil (aB.refl _ _)
 intro d n h;unfold rO at h;refine aU ?_;cases h;exact kY Z
def tB  (a:Int):Option (Int):=
 some (a)
def gA (U:Nat) (b:Int) (a:Int):Option (Int):=
 if a<(1:Int)then(some (0:Int))else(ck (a≠0) (if(Int.tmod b a)<(0:Int)then(tB  (wI .i64 ((Int.tmod b a)+a)))else(tB  (Int.tmod b a))))
theorem GQ:aS Tryz.prog 4:=Tryz.call4
theorem jJ (U:Nat) {d:Int} {b:Int} (r:Int) (h:gA U d b=some r):
  aY Tryz.prog 4 #[vI (d),vI (b)] [] (λx:Unit=>vI (r)) (λx l=>l) (λ_ l=>l):=by
 refine aY.of Tryz.func4 Z Tryz.ntmps4 Z λc=>?_;refine aP<|aC Z<|aJ<|aK<|aP<|aA Z<|cO Z<|aJ ?_;refine dK h Z (λh=>?_) λh=>?_
 ·refine aP<|aC Z<|aJ<|aU<|aH ?_;cases h;exact kY Z
 refine cG<|aP<|aA Z<|aA Z<|dQ h λf h=>aD (QQ Z Z f) Z<|aC Z<|aJ<|aK<|eJ (λa=>tB  a=some r) (λa e=>[(0,vI (a))]) (λa e=>[]) ?_ ?_
 ·refine aP<|aA Z<|cO Z<|aJ ?_;refine dK h Z (λh=>?_) λh=>?_
  ·refine aQ<|aA Z<|aA Z<|cH Z<|aC Z<|aJ ?_;exact iH (wI .i64 ((Int.tmod d b)+b)) () h SF Z
  refine cG ?_;exact iH (Int.tmod d b) () h SF Z
 intro a e h;unfold tB at h;refine aP<|aA Z<|aC Z<|aJ<|aU ?_;cases h;exact kY Z
def uQ (U:Nat) (b:aO) (a:Int):Option (Int):=
 if a<(b.length:Int)then(ck (0<=a∧a<(b.length:Int)) (some (at' b a)))else(some (0:Int))
theorem LJ:aS Tryz.prog 41:=Tryz.call41
theorem Cq (U:Nat) {b:aO} {d:Int} (e:Value) (r:Int) (h:uQ U b d=some r):
  aY Tryz.prog 41 #[e,vI (d)] [Sl bP e b] (λx:Unit=>vI (r)) (λx l=>l) (λ_ l=>l):=by
 refine aY.of Tryz.func41 Z Tryz.ntmps41 Z λc=>?_;refine aP<|aC Z<|aJ<|aK<|aP<|aA Z<|aA Z<|gS (aE.fact 0 Z) Z<|cO Z<|aJ ?_;refine dK h Z (λh=>?_) λh=>?_
 ·refine aP<|aA Z<|aA Z<|dQ h λa h=>aD (aZ Z Z (aE.fact 0 Z) Z Z a) Z<|aD (bV Z (aE.fact 0 Z) Z Z Z cT a) Z<|aC Z<|aJ<|aU<|aH ?_;cases h;exact kY Z
 refine cG<|aP<|aC Z<|aJ<|aU ?_;cases h;exact kY Z
def yC  (a:Unit):Option Bool:=
 some (false)
def Bn (c:b_) (a:Int) (e:Int) (b:Int) (d:(Int)->Option Bool):Option Bool:=
 ck (0<=a∧a<(c.2.length:Int)) (if b<((at' c.2 a).length:Int)then(ck (0<=a∧a<(c.2.length:Int)) (ck (0<=b∧b<((at' c.2 a).length:Int)) (if((at' (at' c.2 a) b).1)=e then(some (true))else(d (wI .i64 (b+(1:Int)))))))else(yC  (())))
def pA (U:Nat) (a:b_) (b:Int) (c:Int):Option Bool:=
 bH (Bn a b c) U (0:Int)
theorem abL:aS Tryz.prog 179:=Tryz.call179
theorem MZ (U:Nat) {g:b_} {i:Int} {j:Int} (k:Value)  (m:Value)  (q:jO) (r:Bool) (h:pA U g i j=some r):
  aY Tryz.prog 179 #[Value.agg #[k,m],vI (i),vI (j)] [Sl bP k g.1,S2 aV m q g.2] (λx:Unit=>vB (r)) (λx l=>l) (λ_ l=>l):=by
 refine aY.of Tryz.func179 Z Tryz.ntmps179 Z λc=>?_;unfold pA at h;refine aP<|aG (aI.box (cs:=[k,m]) Z Z) Z λn=>aC Z<|aJ<|aK<|eJ (λd=>yC  d=some r) (λd o=>[]) (λd o=>[]) ?_ ?_
 ·refine aP<|aC Z<|aJ<|aR<|eO (Bn g i j) (λe p=>[(1,vI (i)),(2,vI (j)),(3,vP n),(7,vI (e))]) (λe p=>[bM n [k,m] 29]) (0:Int) () h SF (a_.refl _) ?_;intro s e p h;refine aK<|aP<|aA Z<|bY Z<|cR 0 Z<|aA Z<|dQ h λf h=>aD (cV Z Z (aE.fact 1 Z) Z Z f) Z<|aD (cP Z (aE.fact 1 Z) Z Z f) Z<|aD (fF Z (zBd (aE.fact 1 Z) f.1 f.2) Z) Z<|cO Z<|aJ ?_;refine dK h Z (λh=>?_) λh=>?_
  ·refine cG<|aK<|aR<|aP<|bY Z<|cR 0 Z<|aA Z<|dQ h λa h=>aD (cV Z Z (aE.fact 1 Z) Z Z a) Z<|aD (cP Z (aE.fact 1 Z) Z Z a) Z<|aA Z<|dQ h λb h=>aD (aZ Z Z (zBd (aE.fact 1 Z) a.1 a.2) Z Z b) Z<|aD (n_ Z Z Z Z Z) Z<|aD (mA Z (zBd (aE.fact 1 Z) a.1 a.2) Z Z Z sF b) Z<|aA Z<|bS Z<|aJ ?_;refine dK h Z (λh=>?_) λh=>?_
   ·refine aP<|aC Z<|aJ<|aU<|bN<|aH<|aH<|bN<|aH ?_;cases h;exact sB Z
   refine dD<|lU<|aQ<|aA Z<|cH Z<|aC Z<|aJ ?_;exact AS (wI .i64 (e+(1:Int))) () h SF Z
  refine fL ?_;exact bW () (()) h SF .nil (aB.refl _ _)
 intro d o h;unfold yC at h;refine aP<|aC Z<|aJ<|aU ?_;cases h;exact kY Z
def qV (f:EU) (c:b_) (a:Int) (b:Int) (d:Int) (e:Bool):Option (g_):=
 if e=true then(some (c.2))else(if f.2.2.2.2.2=true then(ck (0<=a∧a<(c.2.length:Int)) (ck ((List.length ([(b,d)]):Int)+((at' c.2 a).length:Int)<=1099511627) (ck (0<=a∧a<(c.2.length:Int)) (ck (0<=b∧b<((List.set c.2 (Int.toNat a) (([(b,d)])++(at' c.2 a))).length:Int)) (ck ((List.length ([(a,d)]):Int)+((at' (List.set c.2 (Int.toNat a) (([(b,d)])++(at' c.2 a))) b).length:Int)<=1099511627) (ck (0<=b∧b<((List.set c.2 (Int.toNat a) (([(b,d)])++(at' c.2 a))).length:Int)) (some (List.set (List.set c.2 (Int.toNat a) (([(b,d)])++(at' c.2 a))) (Int.toNat b) (([(a,d)])++(at' (List.set c.2 (Int.toNat a) (([(b,d)])++(at' c.2 a))) b))))))))))else(ck (0<=a∧a<(c.2.length:Int)) (ck (0<=b∧b<(c.2.length:Int)) (ck (((at' c.2 a).length:Int)+(List.length ([(b,d)]):Int)<=1099511627) (ck (((at' c.2 b).length:Int)+(List.length ([(a,d)]):Int)<=1099511627) (ck (Int.toNat a≠Int.toNat b) (ck (0<=a∧a<((List.set (List.set c.2 (Int.toNat a) ((at' c.2 a)++([(b,d)]))) (Int.toNat b) ((at' c.2 b)++([(a,d)]))).length:Int)) (ck (0<=b∧b<((List.set (List.set c.2 (Int.toNat a) ((at' c.2 a)++([(b,d)]))) (Int.toNat b) ((at' c.2 b)++([(a,d)]))).length:Int)) (some (List.set (List.set c.2 (Int.toNat a) ((at' c.2 a)++([(b,d)]))) (Int.toNat b) ((at' c.2 b)++([(a,d)]))))))))))))
def oW (U:Nat) (e:EU) (a:b_) (b:Int) (c:Int) (f:Int):Option (g_):=
 if b=c then(qV e a b c f (true))else(Option.bind (pA U ((a.1,a.2)) b c) λd=>(qV e a b c f (d)))
theorem Yv:aS Tryz.prog 96:=Tryz.call96
theorem Ci (U:Nat) {s:EU} {G:b_} {f:Int} {g:Int} {d:Int} (J:Value)  (K:Value)  (L:Value)  (H:Value)  (C:Value)  (A:jB) (r:g_) (h:oW U s G f g d=some r):
  Hj Tryz.prog 96 #[Value.agg #[vI (s.1),J,K,L,vB (s.2.2.2.2.1),vB (s.2.2.2.2.2)],Value.agg #[H,C],vI (f),vI (g),vI (d)] [Ar fQ.raw C A,nH bT A G.2] [Sl bP J s.2.1,Sl bP K s.2.2.1,Sl bP L s.2.2.2.1,Sl bP H G.1] (λx:jB=>Value.tuple #[]) (λx l=>Ar fQ.raw C x::nH bT x r::l):=by
 refine Hj.of (vs:=[Value.agg #[vI (s.1),J,K,L,vB (s.2.2.2.2.1),vB (s.2.2.2.2.2)],Value.agg #[H,C],vI (f),vI (g),vI (d)]) Tryz.func96 Z Tryz.ntmps96 Z λc=>?_;refine aP<|aG (aI.box (cs:=[vI (s.1),J,K,L,vB (s.2.2.2.2.1),vB (s.2.2.2.2.2)]) Z Z) Z λb1=>aG (aI.box (cs:=[H,C]) Z Z) Z λb2=>aJ<|aK<|aK<|Hh (B:=Unit) (λI=>qV s G f g d I=some r) (λI b5=>[(2,vI (f)),(3,vI (g)),(4,vI (d)),(5,vP b1),(6,vP b2),(20,vB (I))]) (λI b5=>[bM b2 [H,C] 29,bM b1 [vI (s.1),J,K,L,vB (s.2.2.2.2.1),vB (s.2.2.2.2.2)] 24,Ar fQ.raw C A,nH bT A G.2]) (λI b5=>[Sl bP J s.2.1,Sl bP K s.2.2.1,Sl bP L s.2.2.2.1,Sl bP H G.1]) ?_ ?_
 ·refine aQ<|aA Z<|aA Z<|bS Z<|aA Z ?_;refine Eb h Z (λ_ h=>?_) λ_ h=>?_
  ·refine aL Z<|aL Z<|aL Z<|aL Z<|eK Z<|aJ ?_;exact iH (true) () h SF Z
  refine aW Z (jX 0 Z Z Z Z) Z<|eG Z<|eG Z<|dV h λav au h=>nN Z (zBb abL (MZ U H C (List.zip A G.2) av au) Z (aB.cons (aE.fact 3 Z) (aB.cons (bE (i:=2) (j:=3) Z Z bD) .nil))) Z λa9=>fY Z<|aJ ?_;exact iH (av) () h SF Z
 intro I b5 h;refine yW h Z (λ_ h=>?_) λ_ h=>?_
 ·refine aU<|aH ?_;cases h;exact FW (A) Z Z .ret (.inl Z) (a_.ix [2,3] Z Z) aB.nil
 refine cG<|aP<|aA Z<|aA Z ?_;refine aD (DU (r:=Value.agg #[vI (g),vI (d)]) Z Z (by intro w;simp[Instr.build,Instr.fill,dX,dA,cM,dY,dZ,dB,eQ])) Z ?_;refine aA Z<|aA Z ?_;refine aD (DU (r:=Value.agg #[vI (f),vI (d)]) Z Z (by intro w;simp[Instr.build,Instr.fill,dX,dA,cM,dY,dZ,dB,eQ])) Z ?_;refine aG (aI.alloc (cs:=Ni) Z Z) Z λb7=>aG (aI.alloc (cs:=Ni) Z Z) Z λb8=>bK 1 (vs:=[vI (g),vI (d)]) Z Z Z Z Z Z<|bK 0 (vs:=[vI (f),vI (d)]) Z Z Z Z Z Z<|aJ<|aK<|aP<|bY Z<|cR 3 Z<|aJ ?_;refine yW h Z (λ_ h=>?_) λ_ h=>?_
 ·refine aK ?_;refine JR.start [0,1,0,0,8,0,32,0,224,480,1016,2047,4095] 11 mixedOrders (by decide +kernel) ?_;refine zBe (by exact rfl) ?_;refine dJ Z<|fG 2 Z<|bA Z<|fX 1 Z<|zBc Z Z Z (cQ (e:=bT) ([((g,d))]) [(0,Value.agg #[vI (g),vI (d)])] Z Z Z Z (AU (vI (g)) (vI (d))) Z Z Z) Z (λaV=>(jD [([3],[])] Z)) λaV=>gO Z (eI Z Z Z Z Z)<|bG Z (a_.cons 3 Z .nil) .nil (d_ 0 Z Z Z Z Z) (aN.h (a_.ix [2] Z Z) .nil aN.z)<|gO Z (gN Z)<|dQ h λu h=>cL (eH 6 Z) λM=>?_;refine bG Z (a_.cons 5 Z .nil) .nil (kP 0 Z Z Z Z Z u.1 (by have m:=u.2;have n:=M;(try simp only[zA3]at m);(try simp only[zA3]at n);(try simp only[zA3]);omega)) (aN.h (a_.ix [4] Z Z) .nil aN.z) ?_;refine cL (eH 6 Z) λN=>bG Z (a_.cons 5 Z .nil) .nil (pN 0 Z Z N Z Z u) (aN.h (a_.ix [4] Z Z) .nil aN.z)<|dQ h λaR h=>zBc Z Z Z (iV 0 bD Z Z Z (aE.row (j:=6) Z bD u.1 u.2) Z Z Z Z aR Z) Z (λaw=>(jD [([3],[])] Z)) λaw=>bR 11 Z Z<|dQ h λv h=>aD (cV Z Z (bE (i:=5) (j:=6) Z Z bD) Z Z v) Z<|dH (Know.one ((aT (aE.res 0 Z) bD))) λak=>jT (As (k:=f) 6 0 Z Z Z v) ?_;refine sE 4 5 ⟨v.1,by first|exact v.2|simpa using v.2⟩ Z Z Z Z Z (by simp) ak Z ?_;refine aJ<|aK ?_;refine JR.start [0,1,0,0,8,0,32,0,224,480,1016,2047,4095] 11 mixedOrders (by decide +kernel) ?_;refine zBe (by exact rfl) ?_;refine dJ Z<|fG 2 Z<|bA Z<|fX 0 Z<|zBc Z Z Z (cQ (e:=bT) ([((f,d))]) [(0,Value.agg #[vI (f),vI (d)])] Z Z Z Z (AU (vI (f)) (vI (d))) Z Z Z) Z (λaX=>(jD [([3],[])] Z)) λaX=>gO Z (eI Z Z Z Z Z)<|bG Z (a_.cons 3 Z .nil) .nil (d_ 0 Z Z Z Z Z) (aN.h (a_.ix [2] Z Z) .nil aN.z)<|gO Z (gN Z)<|dQ h λt h=>cL (eH 6 Z) λO=>?_;refine bG Z (a_.cons 5 Z .nil) .nil (kP 0 Z Z Z Z Z t.1 (by have m:=t.2;have n:=O;(try simp only[zA3]at m);(try simp only[zA3]at n);(try simp only[zA3]);omega)) (aN.h (a_.ix [4] Z Z) .nil aN.z) ?_;refine cL (eH 6 Z) λP=>bG Z (a_.cons 5 Z .nil) .nil (pN 0 Z Z P Z Z t) (aN.h (a_.ix [4] Z Z) .nil aN.z)<|dQ h λaS h=>zBc Z Z Z (iV 0 bD Z Z Z (aE.row (j:=6) Z bD t.1 (by first|exact t.2|simpa using t.2)) Z Z Z Z aS Z) Z (λax=>(jD [([3],[])] Z)) λax=>?_;refine bR 11 Z Z<|dQ h λy h=>aD (cV Z Z (bE (i:=5) (j:=6) Z Z bD) Z Z y) Z<|dH (Know.one ((aT (aE.res 0 Z) bD))) λal=>jT (As (k:=g) 6 0 Z Z Z y) ?_;refine sE 4 5 ⟨y.1,by first|exact y.2|simpa using y.2⟩ Z Z Z Z Z (by simp) al Z ?_;refine aJ<|aU<|aH ?_;cases h;exact FW (List.set (List.set A (Int.toNat f) aw) (Int.toNat g) ax) Z Z .ret (.inl Z) (a_.ix [4,5] Z Z) aB.nil
 refine cG<|dQ h λp h=>dQ h λq h=>dQ h λD h=>dQ h λE h=>dQ h λF h=>dQ h λa h=>dQ h λb h=>Jc [0,1,0,0,8,0,0,64,0,448,960,0,2048,8128,0,16384,0,114688,245760,0,524288,2097088,4194247,8388551,16777215,33554431] 24 [[0,1,2,3,4,5,6,7,8,9,10,11,14,15,16,17,18,19,12,13,20,21,22,23,24,25],[0,1,2,3,4,5,6,7,8,9,10,11,14,15,16,17,18,19,12,20,13,21,22,23,24,25],[0,1,2,3,4,5,6,7,8,9,10,11,14,15,16,17,18,19,20,12,13,21,22,23,24,25]] mixedOrders (by decide +kernel) (by decide +kernel) ?_;intro o ho;simp only[zAk,zB3,or_false]at ho;rcases ho with rfl|rfl|rfl
 ·refine dJ Z<|fG 2 Z<|bA Z<|dJ Z<|fG 2 Z<|bA Z<|dJ Z<|fG 2 Z<|bA Z<|cL (eH 5 Z) λQ=>?_;refine bG Z (a_.cons 4 Z .nil) .nil (kP 0 Z Z Z Z Z p.1 (by have m:=p.2;have n:=Q;(try simp only[zA3]at m);(try simp only[zA3]at n);(try simp only[zA3]);omega)) aN.z ?_;refine cL (eH 5 Z) λR=>bG Z (a_.cons 4 Z .nil) .nil (pN 0 Z Z R Z Z p) aN.z<|fX 1 Z<|dJ Z<|fG 2 Z<|bA Z<|cL (eH 5 Z) λS=>?_;refine bG Z (a_.cons 4 Z .nil) .nil (kP 0 Z Z Z Z Z q.1 (by have m:=q.2;have n:=S;(try simp only[zA3]at m);(try simp only[zA3]at n);(try simp only[zA3]);omega)) aN.z ?_;refine cL (eH 5 Z) λT=>bG Z (a_.cons 4 Z .nil) .nil (pN 0 Z Z T Z Z q) aN.z<|fX 0 Z<|zBc Z Z Z (cQ (e:=bT) ([((g,d))]) [(0,Value.agg #[vI (g),vI (d)])] Z Z Z Z (AU (vI (g)) (vI (d))) Z Z Z) Z (λaY=>(jD [([1],[]),([5],[]),([5],[]),([3],[]),([5],[]),([5],[]),([3],[]),([3],[]),([3],[])] Z)) λaY=>zBc Z Z Z (sN 6 bD Z Z Z (aT (aE.res 0 Z) bD) Z Z Z Z p D Z) Z (λay=>(jD [([1],[]),([5],[]),([5],[]),([3],[]),([3],[]),([3],[])] Z)) λay=>zBc Z Z Z (cQ (e:=bT) ([((f,d))]) [(0,Value.agg #[vI (f),vI (d)])] Z Z Z Z (AU (vI (f)) (vI (d))) Z Z Z) Z (λa0=>(jD [([6],[]),([6],[]),([4],[]),([3],[]),([6],[]),([6],[]),([4],[]),([4],[]),([4],[])] Z)) λa0=>zBc Z Z Z (Be (j:=f) 7 bD Z Z Z (aT (aE.res 0 Z) bD) Z Z Z Z q E Z F) Z (λaz=>(jD [([4],[]),([4],[])] Z)) λaz=>cL (eH 7 Z) λV=>?_;refine bG Z (a_.cons 6 Z .nil) .nil (kP 0 Z Z Z Z Z a.1 (by have m:=a.2;have n:=V;(try simp only[zA3]at m);(try simp only[zA3]at n);(try simp only[zA3]);omega)) (Jt Z) ?_;refine cL (DN (k:=f) (j:=g) 7 Z (by omega) ⟨a.1,by first|exact a.2|simpa using a.2⟩) λam=>?_;refine oG Z Z Z (CV 6 7 ⟨a.1,by first|exact a.2|simpa using a.2⟩ Z Z Z Z (by simp) am Z) (λa6=>(jD [([4],[])] Z)) λa6=>?_;refine bR 24 Z Z<|dH (eH 7 Z) λW=>?_;refine aD (kP 6 Z Z Z Z Z b.1 (by have m:=b.2;have n:=W;(try simp only[zA3]at m);(try simp only[zA3]at n);(try simp only[zA3]);omega)) Z ?_;refine dH (CF 7 (k:=g) Z ⟨b.1,by first|exact b.2|simpa using b.2⟩) λan=>?_;refine sE 6 7 ⟨b.1,by first|exact b.2|simpa using b.2⟩ Z Z Z Z Z (by simp) an Z ?_;refine eV ?_;cases h;exact FW (List.set (List.set A (Int.toNat f) ay) (Int.toNat g) az) Z Z .normal (.inr Z) (a_.ix [6,7] Z Z) aB.nil
 ·refine dJ Z<|fG 2 Z<|bA Z<|dJ Z<|fG 2 Z<|bA Z<|dJ Z<|fG 2 Z<|bA Z<|cL (eH 5 Z) λX=>?_;refine bG Z (a_.cons 4 Z .nil) .nil (kP 0 Z Z Z Z Z p.1 (by have m:=p.2;have n:=X;(try simp only[zA3]at m);(try simp only[zA3]at n);(try simp only[zA3]);omega)) aN.z ?_;refine cL (eH 5 Z) λY=>bG Z (a_.cons 4 Z .nil) .nil (pN 0 Z Z Y Z Z p) aN.z<|fX 1 Z<|dJ Z<|fG 2 Z<|bA Z<|cL (eH 5 Z) λaa=>?_;refine bG Z (a_.cons 4 Z .nil) .nil (kP 0 Z Z Z Z Z q.1 (by have m:=q.2;have n:=aa;(try simp only[zA3]at m);(try simp only[zA3]at n);(try simp only[zA3]);omega)) aN.z ?_;refine cL (eH 5 Z) λab=>bG Z (a_.cons 4 Z .nil) .nil (pN 0 Z Z ab Z Z q) aN.z<|fX 0 Z<|zBc Z Z Z (cQ (e:=bT) ([((g,d))]) [(0,Value.agg #[vI (g),vI (d)])] Z Z Z Z (AU (vI (g)) (vI (d))) Z Z Z) Z (λa1=>(jD [([1],[]),([5],[]),([5],[]),([3],[]),([5],[]),([5],[]),([3],[]),([3],[]),([3],[])] Z)) λa1=>zBc Z Z Z (cQ (e:=bT) ([((f,d))]) [(0,Value.agg #[vI (f),vI (d)])] Z Z Z Z (AU (vI (f)) (vI (d))) Z Z Z) Z (λa2=>(jD [([6],[]),([6],[]),([4],[]),([3],[]),([6],[]),([6],[]),([4],[]),([4],[]),([4],[])] Z)) λa2=>zBc Z Z Z (sN 7 bD Z Z Z (aT (aE.res 1 Z) bD) Z Z Z Z p D Z) Z (λaC=>(jD [([2],[]),([6],[]),([6],[]),([4],[]),([4],[]),([4],[])] Z)) λaC=>zBc Z Z Z (Be (j:=f) 7 bD Z Z Z (aT (aE.res 0 Z) bD) Z Z Z Z q E Z F) Z (λaF=>(jD [([4],[]),([4],[])] Z)) λaF=>cL (eH 7 Z) λac=>?_;refine bG Z (a_.cons 6 Z .nil) .nil (kP 0 Z Z Z Z Z a.1 (by have m:=a.2;have n:=ac;(try simp only[zA3]at m);(try simp only[zA3]at n);(try simp only[zA3]);omega)) (Jt Z) ?_;refine cL (DN (k:=f) (j:=g) 7 Z (by omega) ⟨a.1,by first|exact a.2|simpa using a.2⟩) λao=>?_;refine oG Z Z Z (CV 6 7 ⟨a.1,by first|exact a.2|simpa using a.2⟩ Z Z Z Z (by simp) ao Z) (λa7=>(jD [([4],[])] Z)) λa7=>?_;refine bR 24 Z Z<|dH (eH 7 Z) λad=>?_;refine aD (kP 6 Z Z Z Z Z b.1 (by have m:=b.2;have n:=ad;(try simp only[zA3]at m);(try simp only[zA3]at n);(try simp only[zA3]);omega)) Z ?_;refine dH (CF 7 (k:=g) Z ⟨b.1,by first|exact b.2|simpa using b.2⟩) λap=>?_;refine sE 6 7 ⟨b.1,by first|exact b.2|simpa using b.2⟩ Z Z Z Z Z (by simp) ap Z ?_;refine eV ?_;cases h;exact FW (List.set (List.set A (Int.toNat f) aC) (Int.toNat g) aF) Z Z .normal (.inr Z) (a_.ix [6,7] Z Z) aB.nil
 refine dJ Z<|fG 2 Z<|bA Z<|dJ Z<|fG 2 Z<|bA Z<|dJ Z<|fG 2 Z<|bA Z<|cL (eH 5 Z) λae=>?_;refine bG Z (a_.cons 4 Z .nil) .nil (kP 0 Z Z Z Z Z p.1 (by have m:=p.2;have n:=ae;(try simp only[zA3]at m);(try simp only[zA3]at n);(try simp only[zA3]);omega)) aN.z ?_;refine cL (eH 5 Z) λaf=>bG Z (a_.cons 4 Z .nil) .nil (pN 0 Z Z af Z Z p) aN.z<|fX 1 Z<|dJ Z<|fG 2 Z<|bA Z<|cL (eH 5 Z) λag=>?_;refine bG Z (a_.cons 4 Z .nil) .nil (kP 0 Z Z Z Z Z q.1 (by have m:=q.2;have n:=ag;(try simp only[zA3]at m);(try simp only[zA3]at n);(try simp only[zA3]);omega)) aN.z ?_;refine cL (eH 5 Z) λah=>bG Z (a_.cons 4 Z .nil) .nil (pN 0 Z Z ah Z Z q) aN.z<|fX 0 Z<|zBc Z Z Z (cQ (e:=bT) ([((f,d))]) [(0,Value.agg #[vI (f),vI (d)])] Z Z Z Z (AU (vI (f)) (vI (d))) Z Z Z) Z (λa3=>(jD [([5],[]),([5],[]),([3],[]),([2],[]),([5],[]),([5],[]),([3],[]),([3],[]),([3],[])] Z)) λa3=>zBc Z Z Z (cQ (e:=bT) ([((g,d))]) [(0,Value.agg #[vI (g),vI (d)])] Z Z Z Z (AU (vI (g)) (vI (d))) Z Z Z) Z (λa5=>(jD [([2],[]),([6],[]),([6],[]),([4],[]),([6],[]),([6],[]),([4],[]),([4],[]),([4],[])] Z)) λa5=>zBc Z Z Z (sN 7 bD Z Z Z (aT (aE.res 0 Z) bD) Z Z Z Z p D Z) Z (λaM=>(jD [([2],[]),([6],[]),([6],[]),([4],[]),([4],[]),([4],[])] Z)) λaM=>zBc Z Z Z (Be (j:=f) 7 bD Z Z Z (aT (aE.res 1 Z) bD) Z Z Z Z q E Z F) Z (λaO=>(jD [([4],[]),([4],[])] Z)) λaO=>cL (eH 7 Z) λai=>?_;refine bG Z (a_.cons 6 Z .nil) .nil (kP 0 Z Z Z Z Z a.1 (by have m:=a.2;have n:=ai;(try simp only[zA3]at m);(try simp only[zA3]at n);(try simp only[zA3]);omega)) (Jt Z) ?_;refine cL (DN (k:=f) (j:=g) 7 Z (by omega) ⟨a.1,by first|exact a.2|simpa using a.2⟩) λaq=>?_;refine oG Z Z Z (CV 6 7 ⟨a.1,by first|exact a.2|simpa using a.2⟩ Z Z Z Z (by simp) aq Z) (λa8=>(jD [([4],[])] Z)) λa8=>?_;refine bR 24 Z Z<|dH (eH 7 Z) λaj=>?_;refine aD (kP 6 Z Z Z Z Z b.1 (by have m:=b.2;have n:=aj;(try simp only[zA3]at m);(try simp only[zA3]at n);(try simp only[zA3]);omega)) Z ?_;refine dH (CF 7 (k:=g) Z ⟨b.1,by first|exact b.2|simpa using b.2⟩) λar=>?_;refine sE 6 7 ⟨b.1,by first|exact b.2|simpa using b.2⟩ Z Z Z Z Z (by simp) ar Z ?_;refine eV ?_;cases h;exact FW (List.set (List.set A (Int.toNat f) aM) (Int.toNat g) aO) Z Z .normal (.inr Z) (a_.ix [6,7] Z Z) aB.nil
def pY (b:Int) (a:aO):Option wB:=
 some ((a,(List.replicate (Int.toNat (wI .i64 ((1:Int)+b))) ([]:cC))))
def uC (a:lZ) (c:rZ->Option wB) (b:Int):Option wB:=
 ck ((a.2.length:Int)+(List.length ([b]):Int)<=1099511627) (c ((wI .i64 (a.1+(1:Int))),(a.2++[b])))
def mH (b:gW->Option wB) (a:eC):Option wB:=
 b (a.1,(wI .i64 (a.2+(1:Int))))
def mI (b:lZ) (d:rZ->Option wB) (a:eC) (c:gW->Option wB):Option wB:=
 if a.2<b.1 then(ck (0<=a.2∧a.2<(b.2.length:Int)) (if(at' b.2 a.2)=a.1 then(ck ((256:Int)≠0) (mH c ((Int.tmod (wI .i64 (a.1+(1:Int))) (256:Int)),(-1:Int))))else(mH c (a.1,a.2))))else(uC b d (a.1))
def kD (U:Nat) (f:EU) (e:Int) (a:lZ) (b:rZ->Option wB):Option wB:=
 if a.1<(wI .i64 ((1:Int)+e))then(Option.bind (uQ U f.2.2.2.1 a.1) λc=>(Option.bind (gA U c (256:Int)) λd=>(bH (mI a b) U (d,(0:Int)))))else(pY e (a.2))
def qZ (U:Nat) (b:EU) (c:Int):Option wB:=
 Option.bind (gA U (wI .i64 (b.1 - (1:Int))) c) λa=>(ck (0<=(wI .i64 ((1:Int)+a))∧(wI .i64 ((1:Int)+a))<=1099511627) (bH (kD U b a) U ((0:Int),([]:aO))))
theorem ae_:aS Tryz.prog 97:=Tryz.call97
theorem GD (U:Nat) {d:EU} {S:Int} (y:Value)  (z:Value)  (u:Value) (r:EK) (h:qZ U d S=some r):
  aY Tryz.prog 97 #[Value.agg #[vI (d.1),y,z,u,vB (d.2.2.2.2.1),vB (d.2.2.2.2.2)],vI (S)] [Sl bP y d.2.1,Sl bP z d.2.2.1,Sl bP u d.2.2.2.1] (λx:Value×Value×List Value=>Value.agg #[x.1,x.2.1]) (λx l=>Ar cB x.1 r.1::Ar fQ.raw x.2.1 x.2.2::nH bT x.2.2 r.2::l) (λ_ l=>l):=by
 refine aY.of Tryz.func97 Z Tryz.ntmps97 Z λc=>?_;refine aP<|aG (aI.box (cs:=[vI (d.1),y,z,u,vB (d.2.2.2.2.1),vB (d.2.2.2.2.2)]) Z Z) Z λt=>aG (aI.alloc (cs:=[lE,lE]) Z Z) Z λq=>aJ<|aP<|bY Z<|cR 1 Z<|aD (qP Z Z) Z<|aA Z<|dV h λb W h=>aG (zBb GQ (jJ U  b W) Z .nil) Z λx5=>cH Z<|aC Z<|aJ<|aP<|aA Z<|dQ h λT h=>jT (AQ bT (Int.toNat (wI .i64 ((1:Int)+b))))<|aG (qO (e:=fQ.raw) (lE) Z Z Z Z T Z Z Z) Z λn=>dH (Know.one (aE.sl (bE (i:=0) (j:=1) Z Z bD))) λK=>?_;refine aD (Yd (r:=Value.agg #[lE,n]) Z (by intro w;simp[Instr.build,Instr.fill,dX,dA,cM,dY,dZ,dB,eQ,kX K])) Z ?_;refine aG (aI.alloc (cs:=[lE,lE]) Z Z) Z λs=>dH (Know.one (aE.sl (bE (i:=1) (j:=2) Z Z bD))) λE=>bK 0 (vs:=[lE,n]) Z Z (eB Z (eB E Z)) Z Z Z<|aJ<|aK<|El (B:=Value) (λp=>pY b p=some r) (λp o=>[(4,vP q),(6,vP s)]) (λp o=>[bM s [o,n] 29,Ar fQ.raw n (List.replicate (Int.toNat (wI .i64 ((1:Int)+b))) (lE)),nH bT (List.replicate (Int.toNat (wI .i64 ((1:Int)+b))) (lE)) (List.replicate (Int.toNat (wI .i64 ((1:Int)+b))) ([]:cC)),bM q [lE,lE] 29,Ar cB o p]) ?_ ?_
 ·refine aP<|aC Z<|aJ<|aR<|jT (gK cB)<|eO (B:=Value) (kD U d b) (λa f=>[(2,vP t),(4,vP q),(5,vI (wI .i64 ((1:Int)+b))),(6,vP s),(7,vI (a.1))]) (λa f=>[bM s [f,n] 29,Ar fQ.raw n (List.replicate (Int.toNat (wI .i64 ((1:Int)+b))) (lE)),nH bT (List.replicate (Int.toNat (wI .i64 ((1:Int)+b))) (lE)) (List.replicate (Int.toNat (wI .i64 ((1:Int)+b))) ([]:cC)),bM q [lE,lE] 29,bM t [vI (d.1),y,z,u,vB (d.2.2.2.2.1),vB (d.2.2.2.2.2)] 24,Ar cB f a.2]) ((0:Int),([]:aO)) (lE) h SF (a_.ix [1,2,3,4,5,0] Z Z) ?_;intro v a f h;refine aK<|aP<|aA Z<|aA Z<|cO Z<|aJ ?_;refine dK h Z (λh=>?_) λh=>?_
  ·refine cG<|aK<|aR<|aP<|bY Z<|cR 4 Z<|aA Z<|dV h λO Q h=>aG (zBb LJ (Cq U u O Q) Z (kA [2] Z)) Z λX=>dV h λJ R h=>aG (zBb GQ (jJ U  J R) Z .nil) Z λY=>aC Z<|aJ<|aK<|eJ (λg=>uC a (bH (kD U d b) v) g=some r) (λg A=>[(2,vP t),(4,vP q),(5,vI (wI .i64 ((1:Int)+b))),(6,vP s),(7,vI (a.1)),(8,vI (g))]) (λg A=>[bM s [f,n] 29,Ar fQ.raw n (List.replicate (Int.toNat (wI .i64 ((1:Int)+b))) (lE)),nH bT (List.replicate (Int.toNat (wI .i64 ((1:Int)+b))) (lE)) (List.replicate (Int.toNat (wI .i64 ((1:Int)+b))) ([]:cC)),bM q [lE,lE] 29,bM t [vI (d.1),y,z,u,vB (d.2.2.2.2.1),vB (d.2.2.2.2.2)] 24,Ar cB f a.2]) ?_ ?_
   ·refine aP<|aC Z<|aJ<|aR<|eO (mI a (bH (kD U d b) v)) (λk C=>[(2,vP t),(4,vP q),(5,vI (wI .i64 ((1:Int)+b))),(6,vP s),(7,vI (a.1)),(8,vI (k.1)),(9,vI (k.2))]) (λk C=>[bM s [f,n] 29,Ar fQ.raw n (List.replicate (Int.toNat (wI .i64 ((1:Int)+b))) (lE)),nH bT (List.replicate (Int.toNat (wI .i64 ((1:Int)+b))) (lE)) (List.replicate (Int.toNat (wI .i64 ((1:Int)+b))) ([]:cC)),bM q [lE,lE] 29,bM t [vI (d.1),y,z,u,vB (d.2.2.2.2.1),vB (d.2.2.2.2.2)] 24,Ar cB f a.2]) (J,(0:Int)) () h SF (a_.refl _) ?_;intro N k C h;refine aK<|aP<|aA Z<|aA Z<|cO Z<|aJ ?_;refine dK h Z (λh=>?_) λh=>?_
    ·refine cG<|aK<|eJ (λm=>mH (bH (mI a (bH (kD U d b) v)) N) m=some r) (λm D=>[(2,vP t),(4,vP q),(5,vI (wI .i64 ((1:Int)+b))),(6,vP s),(7,vI (a.1)),(8,vI (m.1)),(9,vI (m.2))]) (λm D=>[bM s [f,n] 29,Ar fQ.raw n (List.replicate (Int.toNat (wI .i64 ((1:Int)+b))) (lE)),nH bT (List.replicate (Int.toNat (wI .i64 ((1:Int)+b))) (lE)) (List.replicate (Int.toNat (wI .i64 ((1:Int)+b))) ([]:cC)),bM q [lE,lE] 29,bM t [vI (d.1),y,z,u,vB (d.2.2.2.2.1),vB (d.2.2.2.2.2)] 24,Ar cB f a.2]) ?_ ?_
     ·refine aR<|aP<|bY Z<|cR 0 Z<|aA Z<|dQ h λI h=>aD (aZ Z Z (aT (aE.res 5 Z) cD) Z Z I) Z<|aD (bV Z (aT (aE.res 5 Z) cD) Z Z Z cT I) Z<|aA Z<|bS Z<|aJ ?_;refine dK h Z (λh=>?_) λh=>?_
      ·refine aQ<|aA Z<|cH Z<|dQ h λM h=>aD (QQ Z Z M) Z<|aC Z<|aC Z<|eV<|lU ?_;exact iH ((Int.tmod (wI .i64 (k.1+(1:Int))) (256:Int)),(-1:Int)) () h SF Z
      refine dD<|lU ?_;exact iH (k.1,k.2) () h SF Z
     intro m D h;unfold mH at h;refine aQ<|aA Z<|cH Z<|aC Z<|aJ ?_;exact AS (m.1,(wI .i64 (m.2+(1:Int)))) () h SF Z
    refine fL ?_;exact iH (k.1) () h SF Z
   intro g A h;refine aQ<|bY Z<|cR 0 Z<|aA Z<|aG (cQ (e:=cB) ([g]) [(0,vI (g))] Z Z Z Z (rK (vI (g)) Z) Z Z Z) Z λV=>dQ h λL h=>aG (iV 6 cD Z Z Z (aT (aE.res 0 Z) cD) Z Z Z Z L Z) Z λP=>bY Z<|dH (Know.one ((aT (aE.res 6 Z) cD))) λH=>fK 1 Z Z H Z Z Z<|eV<|lU<|aQ<|aA Z<|cH Z<|aC Z<|aJ ?_;exact kO ((wI .i64 (a.1+(1:Int))),(a.2++[g])) (P) h SF (a_.ix [1,2,3,4,5,6] Z Z) (aB.refl _ _)
  refine fL ?_;exact bW (a.2) (f) h SF (a_.ix [0,1,2,3,5] Z Z) (aB.refl _ _)
 intro p o h;unfold pY at h;refine aP<|cA 0 Z<|dH (Know.one ((aT (aE.res 4 Z) cD))) λF=>dH (Know.one (aE.sl (bE (i:=1) (j:=2) Z Z bD))) λG=>bK 3 (vs:=[o,n]) Z Z (eB F (eB G Z)) Z Z Z<|aJ<|aU ?_;cases h;exact eR (o,n,(List.replicate (Int.toNat (wI .i64 ((1:Int)+b))) (lE))) Z Z (RV.cell 3 Z Z Z Z) (a_.ix [4,1,2] Z Z) aB.nil
def qU (b:EK) (a:g_):Option wB:=
 some ((b.1,a))
def wD (U:Nat) (b:EU) (i:EK) (a:Int×g_) (c:(Int×g_)->Option wB):Option wB:=
 if a.1<(a.2.length:Int)then(Option.bind (uQ U b.2.1 (wI .i64 (a.1 - (1:Int)))) λd=>(Option.bind (gA U d a.1) λe=>(Option.bind (uQ U b.2.2.1 (wI .i64 (a.1 - (1:Int)))) λf=>(Option.bind (gA U f (15:Int)) λg=>(Option.bind (oW U ((b.1,b.2.1,b.2.2.1,b.2.2.2.1,b.2.2.2.2.1,b.2.2.2.2.2)) ((i.1,a.2)) e a.1 (wI .i64 ((1:Int)+g))) λh=>(c ((wI .i64 (a.1+(1:Int))),h)))))))else(qU i (a.2))
def oV (U:Nat) (a:EU) (c:Int):Option wB:=
 Option.bind (qZ U ((a.1,a.2.1,a.2.2.1,a.2.2.2.1,a.2.2.2.2.1,a.2.2.2.2.2)) c) λb=>(bH (wD U a b) U ((1:Int),b.2))
theorem Ys:aS Tryz.prog 20:=Tryz.call20
theorem Ch (U:Nat) {p0:EU} {p1:Int} (g:Value)  (k:Value)  (n:Value) (r:EK) (h:oV U p0 p1=some r):
  aY Tryz.prog 20 #[Value.agg #[vI (p0.1),g,k,n,vB (p0.2.2.2.2.1),vB (p0.2.2.2.2.2)],vI (p1)] [Sl bP g p0.2.1,Sl bP k p0.2.2.1,Sl bP n p0.2.2.2.1] (λx:Value×Value×List Value=>Value.agg #[x.1,x.2.1]) (λx l=>Ar cB x.1 r.1::Ar fQ.raw x.2.1 x.2.2::nH bT x.2.2 r.2::l) (λ_ l=>l):=by
 refine aY.of Tryz.func20 Z Tryz.ntmps20 Z λc=>?_;refine aP<|aG (aI.box (cs:=[vI (p0.1),g,k,n,vB (p0.2.2.2.2.1),vB (p0.2.2.2.2.2)]) Z Z) Z λu=>aG (aI.alloc (cs:=[lE,lE]) Z Z) Z λo=>aJ<|aP<|cA 1 Z<|aA Z<|dV h λm P h=>aG (zBb ae_ (GD U g k n m P) Z (kA [0,1,2] Z)) Z λa=>aG (aI.alloc (cs:=[lE,lE]) Z Z) Z λp=>dH (Know.one ((aT (aE.res 1 Z) cD))) λv=>dH (Know.one (aE.sl (bE (i:=2) (j:=3) Z Z bD))) λw=>bK 0 (vs:=[a.1,a.2.1]) Z Z (eB v (eB w Z)) Z Z Z<|aJ<|aK<|El (B:=jB) (λe=>qU m e=some r) (λe f=>[(4,vP o),(5,vP p)]) (λe f=>[bM p [a.1,a.2.1] 29,Ar cB a.1 m.1,Ar fQ.raw a.2.1 f,nH bT f e,bM o [lE,lE] 29]) ?_ ?_
 ·refine aP<|aC Z<|aJ<|aR<|eO (B:=jB) (wD U p0 m) (λd b=>[(2,vP u),(4,vP o),(5,vP p),(6,vI (d.1))]) (λd b=>[bM p [a.1,a.2.1] 29,Ar cB a.1 m.1,Ar fQ.raw a.2.1 b,nH bT b d.2,bM o [lE,lE] 29,bM u [vI (p0.1),g,k,n,vB (p0.2.2.2.2.1),vB (p0.2.2.2.2.2)] 24]) ((1:Int),m.2) (a.2.2) h SF (a_.refl _) ?_;intro O d b h;refine aK<|aP<|aA Z<|bY Z<|cR 0 Z<|aD (jW Z (bE (i:=2) (j:=3) Z Z bD) Z) Z<|cO Z<|aJ ?_;refine dK h Z (λh=>?_) λh=>?_
  ·refine cG<|aK<|aR ?_;refine JR.start [0,0,0,4,0,16,60,0,252,0,0,1024,0,4096,15868,32252,65020,131071] 17 mixedOrders (by decide +kernel) ?_;refine zBe (by exact rfl) ?_;refine fX 5 Z<|fX 0 Z<|dJ Z<|fG 5 Z<|bA Z<|gO Z (qP Z Z)<|dV h λy E h=>zBc Z Z Z (zBb LJ (Cq U g y E) Z (kA [0] Z)) Z (λJ=>(jD [([0],[]),([5],[])] Z)) λJ=>gO Z (gN Z)<|dV h λA F h=>zBc Z Z Z (zBb GQ (jJ U  A F) Z .nil) Z (λK=>(jD [([0],[]),([5],[])] Z)) λK=>gO Z (gN Z)<|gO Z (eI Z Z Z Z Z)<|bG Z (a_.cons 5 Z .nil) .nil (d_ 0 Z Z Z Z Z) (aN.h (a_.ix [5] Z Z) .nil (aN.h (a_.ix [5] Z Z) .nil aN.z))<|gO Z (gN Z)<|gO Z (qP Z Z)<|dV h λC G h=>zBc Z Z Z (zBb LJ (Cq U k C G) Z (kA [1] Z)) Z (λL=>(jD [([0],[]),([5],[])] Z)) λL=>dV h λD H h=>zBc Z Z Z (zBb GQ (jJ U  D H) Z .nil) Z (λM=>(jD [([0],[]),([5],[])] Z)) λM=>gO Z (yE Z Z)<|bR 17 Z Z<|dV h λt I h=>aG (Hi (Min:=[Ar fQ.raw a.2.1 b,nH bT b d.2]) (Mr:=[bM p [a.1,a.2.1] 29,Ar cB a.1 m.1,bM o [lE,lE] 29,bM u [vI (p0.1),g,k,n,vB (p0.2.2.2.2.1),vB (p0.2.2.2.2.2)] 24]) Yv (Ci U g k n a.1 a.2.1 b t I) Z (a_.ix [2,3,0,1,4,5] Z Z) (aB.cons (aE.fact 0 Z) (aB.cons (aE.fact 1 Z) (aB.cons (aE.fact 2 Z) (aB.cons (aT (aE.res 1 Z) cD) .nil)))) (λ_ _=>rfl)) Z λN=>eV<|lU<|aQ<|aA Z<|cH Z<|aC Z<|aJ ?_;exact kO ((wI .i64 (d.1+(1:Int))),t) (N) h SF (a_.ix [2,3,0,1,4,5] Z Z) (aB.refl _ _)
  refine fL ?_;exact bW (d.2) (b) h SF (a_.ix [0,1,2,3,4] Z Z) (aB.refl _ _)
 intro e f h;unfold qU at h;refine aP<|cA 0 Z<|dH (Know.one ((aT (aE.res 1 Z) cD))) λq=>dH (Know.one (aE.sl (bE (i:=2) (j:=3) Z Z bD))) λs=>bK 4 (vs:=[a.1,a.2.1]) Z Z (eB q (eB s Z)) Z Z Z<|aJ<|aU ?_;cases h;exact eR (a.1,a.2.1,f) Z Z (RV.cell 4 Z Z Z Z) (a_.ix [1,2,3] Z Z) aB.nil
def kQ (U:Nat) (a:Int):Option (Int):=
 if a=(0:Int)then(some (32:Int))else(ck (0<=(27:Int)) (ck ((0<=(sG .u32 (wI .u32 ((eW .u32 a (wI .u32 (0 - a)))*(125613361:Int))) (27:Int))∧(sG .u32 (wI .u32 ((eW .u32 a (wI .u32 (0 - a)))*(125613361:Int))) (27:Int))<((32:Nat):Int))∧AA.length=32) (some (wI .i64 (at' AA (sG .u32 (wI .u32 ((eW .u32 a (wI .u32 (0 - a)))*(125613361:Int))) (27:Int)))))))
theorem UX:aS Tryz.prog 236:=Tryz.call236
theorem Ag (U:Nat) {b:Int} (r:Int) (h:kQ U b=some r):
  aY Tryz.prog 236 #[vU (b)] [Gb 0 (cellsOf KJ AA)] (λx:Unit=>vI (r)) (λx l=>l) (λ_ l=>l):=by
 refine aY.of Tryz.func236 Z Tryz.ntmps236 Z λc=>?_;refine aP<|aC Z<|aJ<|aK<|aP<|aA Z<|bS Z<|aJ ?_;refine dK h Z (λh=>?_) λh=>?_
 ·refine aP<|aC Z<|aJ<|aU<|aH ?_;cases h;exact kY Z
 refine cG<|aP<|aA Z<|aA Z<|aD (UC Z) Z<|Bt Z<|aD (zA Z Z) Z<|dQ h λd h=>aD (NM Z Z d) Z<|dQ h λa h=>aD (QN Z Z Z Z Z a.1) Z<|aD (Wq (e:=KJ) Z (aE.fact 0 Z) Z Z Z Z a) Z<|aD (Tn Z Z Z) Z<|aC Z<|aJ<|aU ?_;cases h;exact kY Z
def kL  (a:Unit):Option Bool:=
 some (true)
def iA (U:Nat) (d:aO) (e:Int) (a:Int) (c:(Int)->Option Bool):Option Bool:=
 if a≠(0:Int)then(Option.bind (kQ U a) λb=>(ck (0<=b∧b<(d.length:Int)) (if(eW .u32 (at' d b) e)≠(0:Int)then(some (false))else(c (eW .u32 a (wI .u32 (a - (1:Int))))))))else(kL  (()))
def nO (U:Nat) (c:aO) (a:Int) (b:Unit):Option Bool:=
 bH (iA U c a) U (a)
def iN (U:Nat) (a:aO) (b:Int):Option Bool:=
 nO U a b (())
theorem abZ:aS Tryz.prog 231:=Tryz.call231
theorem Cg (U:Nat) {m:aO} {e:Int} (j:Value) (r:Bool) (h:iN U m e=some r):
  aY Tryz.prog 231 #[j,vU (e)] [Sl DO j m,Gb 0 (cellsOf KJ AA)] (λx:Unit=>vB (r)) (λx l=>l) (λ_ l=>l):=by
 refine aY.of Tryz.func231 Z Tryz.ntmps231 Z λc=>?_;unfold iN at h;refine jT Fb<|aP<|dH (Know.one ((aE.fact 0 Z))) λw=>?_;refine aG (aI.box (cs:=[j]) Z (by rw[kX w])) Z λC=>?_;refine aG (aI.box (cs:=[vU (e)]) Z Z) Z λD=>aG (aI.alloc (cs:=[vB (false)]) Z Z) Z λu=>aJ<|aK<|CU (A:=Unit) (B:=eT) (λk g=>⟨16,Al g⟩) (λk=>kL  k=some r) (λk g=>[(4,vP u)]) (λk g=>[bM u [vB (false)] 4,Cz g]) (λk g=>[Sl DO j m,Gb 0 (cellsOf KJ AA)]) ?_ ?_
 ·refine aP<|cR 1 Z<|qN (A:=Unit) (B:=Nat) (vs:=[vU (e)]) (λb=>nO U m e b=some r) (λb a=>Value.func (.func 235) #[] #[vP a]) (λb a=>[bM a [vU (e)] 33,bM u [vB (false)] 4,bM D [vU (e)] 33,bM C [j] 66,Cz ([]:eT)]) (λb a=>[Sl DO j m,Gb 0 (cellsOf KJ AA)]) (nT.fn (show aS Tryz.prog 190 from Tryz.call190) Z) Tryz.func190 Z Tryz.ntmps190 Z Z ?_ ?_
  ·refine aP<|aG (aI.box (cs:=[vU (e)]) Z Z) Z λo=>aC Z<|aJ<|aP<|aD (gX (cs:=[.tmp 1]) (vs:=[vP o]) Z) Z<|aC Z<|aJ<|aU ?_;exact jV () (o) h (.inl Z) (Cu.r1 Z (RV.tmp Z)) Z (a_.refl _) (aB.refl _ _)
  intro b a h;unfold nO at h;refine aJ<|aR<|y_ (i:=4) (cs:=[vP a]) ([]:eT) Z (show aS Tryz.prog 235 from Tryz.call235) Z Tryz.func235 Z Tryz.ntmps235 Z λs f v p=>aR<|eO (iA U m e) (λd n=>[(0,nS s),(1,vP a)]) (λd n=>[Lp s v LoopState.ready none,bM a [vU (d)] 33,bM u [vB (false)] 4,bM D [vU (e)] 33,bM C [j] 66,Cz (List.cons f ([]:eT))]) (e) () h SF (a_.refl _) ?_;intro E d n h;refine aK<|aP<|cR 1 Z<|pC Z<|aJ ?_;refine dK h Z (λh=>?_) λh=>?_
  ·refine cG<|aK<|aR<|aP<|aA Z<|cR 1 Z<|dV h λt y h=>aG (zBb UX (Ag U  t y) Z (kA [1] Z)) Z λF=>EW (us:=[vI (t)]) (i:=0) p Z Z Z Z Z Z<|aQ<|aC Z<|aJ<|HS (i:=0) Z<|aR<|aK ?_;refine JR.start [0,0,3,7,0,31,63] 5 mixedOrders (by decide +kernel) ?_;refine zBe (by exact rfl) ?_;refine fG 4 Z<|bA Z<|dQ h λq h=>bG Z .nil (hZ 0 Z) (aZ Z Z (aE.fact 0 Z) Z Z q) aN.z<|bG Z .nil (hZ 0 Z) (bV Z (aE.fact 0 Z) Z Z Z Je q) aN.z<|fG 3 Z<|bR 5 Z Z<|Bt Z<|pC Z<|aJ ?_;refine dK h Z (λh=>?_) λh=>?_
   ·refine aP<|fK 2 Z Z Z Z Z Z<|aJ<|aU<|bN<|XP (i:=0) Z<|aD (kB Z) Z<|aJ<|Uy Z<|aU<|bN<|aH<|aH<|bN<|aa_ (i:=0) (.inl Z) Z (Cu.r0 Z)<|bN<|aH<|mG (i:=5) (Ds:=(List.cons f ([]:eT))) (.inl Z) Z ?_;cases h;exact eR () Z Z (QB 2 Z Z Z Z) .nil aB.nil
   refine dD<|HT<|BL (i:=0) Z<|aD (kB Z) Z<|aJ<|CC Z<|dD<|lU<|aQ<|cR 1 Z<|cR 1 Z<|aD (qP Z Z) Z<|Bt Z<|fK 1 Z Z Z Z Z Z<|aJ ?_;exact AS (eW .u32 d (wI .u32 (d - (1:Int)))) () h SF Z
  refine sD<|fD<|fD<|yY<|Lr (i:=0) (.inr Z) Z (Cu.r0 Z)<|lU ?_;exact yZ () (List.cons f ([]:eT)) Z h SF (a_.ix [2,5] Z Z) (aB.refl _ _)
 intro k g h;unfold kL at h;refine aP<|fK 0 Z Z Z Z Z Z<|aJ<|aU<|mG (i:=1) (Ds:=(g)) (.inl Z) Z ?_;cases h;exact eR () Z Z (QB 0 Z Z Z Z) .nil aB.nil
def mW (U:Nat) (d:aO) (b:Int) (e:Int) (a:Int) (c:Bool):Option Bool:=
 if c=true then(some (false))else(if b=(1:Int)then(some (decide ((eW .u32 a (wI .u32 (a - (1:Int))))=(0:Int))))else(if b=(2:Int)then(Option.bind (iN U d a) λf=>(some (f)))else(if b=(4:Int)then(some (decide (a=e)))else(some (true)))))
def gQ (U:Nat) (c:aO) (d:Int) (b:Int) (a:Int):Option Bool:=
 if a=(0:Int)then(mW U c d b a (true))else(mW U c d b a (decide ((xF .u32 a b)≠(0:Int))))
theorem US:aS Tryz.prog 187:=Tryz.call187
theorem Ae (U:Nat) {p0:aO} {p1:Int} {p2:Int} {p3:Int} (b:Value) (r:Bool) (h:gQ U p0 p1 p2 p3=some r):
  aY Tryz.prog 187 #[b,vI (p1),vU (p2),vU (p3)] [Sl DO b p0,Gb 0 (cellsOf KJ AA)] (λx:Unit=>vB (r)) (λx l=>l) (λ_ l=>l):=by
 refine aY.of Tryz.func187 Z Tryz.ntmps187 Z λc=>?_;refine aP<|aC Z<|aJ<|aK<|aK<|eJ (λa=>mW U p0 p1 p2 p3 a=some r) (λa d=>[(0,b),(1,vI (p1)),(2,vU (p2)),(3,vU (p3)),(16,vB (a))]) (λa d=>[]) ?_ ?_
 ·refine aQ<|aA Z<|bS Z<|aA Z ?_;refine Eb h Z (λ_ h=>?_) λ_ h=>?_
  ·refine aL Z<|aL Z<|aL Z<|aL Z<|eK Z<|aJ ?_;exact iH (true) () h SF Z
  refine eG Z<|eG Z<|aW Z (LA Z Z) Z<|aW Z (Bq Z Z) Z<|fY Z<|aJ ?_;exact iH (decide ((xF .u32 p3 p2)≠(0:Int))) () h SF Z
 intro a d h;refine yW h Z (λ_ h=>?_) λ_ h=>?_
 ·refine aP<|aC Z<|aJ<|aU<|aH ?_;cases h;exact kY Z
 refine cG<|aK<|aP<|aA Z<|aJ<|aR<|aP<|bS Z<|aC Z<|aJ ?_;refine dK h Z (λh=>?_) λh=>?_
 ·refine aP<|aA Z<|aA Z<|aD (qP Z Z) Z<|Bt Z<|bS Z<|aC Z<|aJ<|aU<|bN<|aH ?_;cases h;exact kY Z
 refine aP<|bS Z<|aC Z<|aJ ?_;refine dK h Z (λh=>?_) λh=>?_
 ·refine aP<|aA Z<|aA Z<|dV h λe f h=>aG (zBb abZ (Cg U b e f) Z (kA [0,1] Z)) Z λg=>aC Z<|aJ<|aU<|bN<|aH ?_;cases h;exact kY Z
 refine aP<|bS Z<|aC Z<|aJ ?_;refine dK h Z (λh=>?_) λh=>?_
 ·refine aP<|aA Z<|aA Z<|bS Z<|aC Z<|aJ<|aU<|bN<|aH ?_;cases h;exact kY Z
 refine dD<|lU<|aP<|aC Z<|aJ<|aU ?_;cases h;exact kY Z
def kC  (a:Int):Option (Int):=
 some (a)
def iD (a:eC) (b:gW->Option (Int)) (c:Int):Option (Int):=
 b ((eW .u32 a.1 (wI .u32 (a.1 - (1:Int)))),c)
def cI (U:Nat) (d:aO) (a:eC) (c:gW->Option (Int)):Option (Int):=
 if a.1≠(0:Int)then(Option.bind (kQ U a.1) λb=>(ck (0<=b∧b<(d.length:Int)) (if(eW .u32 (at' d b) a.2)=(0:Int)then(ck (0<=b) (iD a c (Nk .u32 a.2 (CZ .u32 (1:Int) b))))else(iD a c (a.2)))))else(kC  (a.2))
def mX (U:Nat) (c:aO) (b:Int) (a:Unit):Option (Int):=
 bH (cI U c) U (b,(0:Int))
def f_ (U:Nat) (c:aO) (b:Int) (d:Int) (a:Int):Option (Int):=
 if b=(1:Int)then(some (eW .u32 a (wI .u32 (0 - a))))else(if b=(2:Int)then(mX U c a (()))else(if b=(4:Int)then(some (d))else(some (a))))
def dO (U:Nat) (b:aO) (c:Int) (a:Int) (d:Int):Option (Int):=
 if(eW .u32 d a)=(0:Int)then(f_ U b c a (eW .u32 a (wI .u32 (0 - a))))else(f_ U b c a (eW .u32 d a))
theorem UH:aS Tryz.prog 105:=Tryz.call105
theorem Af (U:Nat) {p0:aO} {p1:Int} {p2:Int} {p3:Int} (k:Value) (r:Int) (h:dO U p0 p1 p2 p3=some r):
  aY Tryz.prog 105 #[k,vI (p1),vU (p2),vU (p3)] [Sl DO k p0,Gb 0 (cellsOf KJ AA)] (λx:Unit=>vU (r)) (λx l=>l) (λ_ l=>l):=by
 refine aY.of Tryz.func105 Z Tryz.ntmps105 Z λc=>?_;refine jT Fb<|aP<|dH (Know.one ((aE.fact 0 Z))) λD=>?_;refine aG (aI.box (cs:=[k]) Z (by rw[kX D])) Z λq=>?_;refine aC Z<|aJ<|aP<|aA Z<|aA Z<|Bt Z<|aC Z<|aJ<|aK<|CU (A:=Int) (B:=Unit) (λg C=>⟨48,Al ([]:eT)⟩) (λg=>f_ U p0 p1 p2 g=some r) (λg C=>[(1,vI (p1)),(2,vU (p2)),(3,vU (g)),(4,vP q),(8,vU (0:Int))]) (λg C=>[bM q [k] 66,Cz ([]:eT)]) (λg C=>[Sl DO k p0,Gb 0 (cellsOf KJ AA)]) ?_ ?_
 ·refine aP<|aA Z<|bS Z<|aJ ?_;refine dK h Z (λh=>?_) λh=>?_
  ·refine aQ<|aA Z<|aA Z<|aD (UC Z) Z<|Bt Z<|aC Z<|aJ ?_;exact yZ (eW .u32 p2 (wI .u32 (0 - p2))) () Z h SF (a_.refl _) (aB.refl _ _)
  refine cG ?_;exact yZ (eW .u32 p3 p2) () Z h SF (a_.refl _) (aB.refl _ _)
 intro g C h;refine aK<|aP<|aA Z<|aJ<|aR<|aP<|bS Z<|aC Z<|aJ ?_;refine dK h Z (λh=>?_) λh=>?_
 ·refine aP<|aA Z<|aA Z<|aD (UC Z) Z<|Bt Z<|aC Z<|aJ<|aU<|bN<|aH<|mG (i:=1) (Ds:=([]:eT)) (.inl Z) Z ?_;cases h;exact sB Z
 refine aP<|bS Z<|aC Z<|aJ ?_;refine dK h Z (λh=>?_) λh=>?_
 ·refine aP<|aG (aI.alloc (cs:=[vU (0:Int)]) Z Z) Z λv=>fK 0 Z Z Z Z Z Z<|aJ<|aK<|CU (A:=Int) (B:=eT) (λd e=>⟨48,Al e⟩) (λd=>kC  d=some r) (λd e=>[(9,vP v)]) (λd e=>[bM v [vU (d)] 33,Cz e]) (λd e=>[Sl DO k p0,Gb 0 (cellsOf KJ AA)]) ?_ ?_
  ·refine aP<|aA Z<|qN (A:=Unit) (B:=Nat) (vs:=[vU (g)]) (λj=>mX U p0 g j=some r) (λj b=>Value.func (.func 235) #[] #[vP b]) (λj b=>[bM b [vU (g)] 33,bM v [vU (0:Int)] 33,bM q [k] 66,Cz ([]:eT)]) (λj b=>[Sl DO k p0,Gb 0 (cellsOf KJ AA)]) (nT.fn (show aS Tryz.prog 190 from Tryz.call190) Z) Tryz.func190 Z Tryz.ntmps190 Z Z ?_ ?_
   ·refine aP<|aG (aI.box (cs:=[vU (g)]) Z Z) Z λu=>aC Z<|aJ<|aP<|aD (gX (cs:=[.tmp 1]) (vs:=[vP u]) Z) Z<|aC Z<|aJ<|aU ?_;exact jV () (u) h (.inl Z) (Cu.r1 Z (RV.tmp Z)) Z (a_.refl _) (aB.refl _ _)
   intro j b h;unfold mX at h;refine aJ<|aR<|y_ (i:=3) (cs:=[vP b]) ([]:eT) Z (show aS Tryz.prog 235 from Tryz.call235) Z Tryz.func235 Z Tryz.ntmps235 Z λm n p w=>aR<|eO (cI U p0) (λa s=>[(0,nS m),(1,vP b)]) (λa s=>[Lp m p LoopState.ready none,bM b [vU (a.1)] 33,bM v [vU (a.2)] 33,bM q [k] 66,Cz (List.cons n ([]:eT))]) (g,(0:Int)) () h SF (a_.refl _) ?_;intro F a s h;refine aK<|aP<|cR 1 Z<|pC Z<|aJ ?_;refine dK h Z (λh=>?_) λh=>?_
   ·refine cG<|aK<|eJ (λf=>iD a (bH (cI U p0) F) f=some r) (λf t=>[(0,nS m),(1,vP b)]) (λf t=>[Lp m p LoopState.ready none,bM b [vU (a.1)] 33,bM v [vU (f)] 33,bM q [k] 66,Cz (List.cons n ([]:eT))]) ?_ ?_
    ·refine aR<|aP<|aA Z<|cR 1 Z<|dV h λo G h=>aG (zBb UX (Ag U  o G) Z (kA [1] Z)) Z λH=>EW (us:=[vI (o)]) (i:=0) w Z Z Z Z Z Z<|aQ<|aC Z<|aJ<|HS (i:=0) Z<|aR<|aK ?_;refine JR.start [0,0,3,7,0,31,63] 5 mixedOrders (by decide +kernel) ?_;refine zBe (by exact rfl) ?_;refine fG 3 Z<|bA Z<|dQ h λy h=>bG Z .nil (hZ 0 Z) (aZ Z Z (aE.fact 0 Z) Z Z y) aN.z<|bG Z .nil (hZ 0 Z) (bV Z (aE.fact 0 Z) Z Z Z Je y) aN.z<|fG 2 Z<|bR 5 Z Z<|Bt Z<|bS Z<|aJ ?_;refine dK h Z (λh=>?_) λh=>?_
     ·refine JR.start [0,0,2,7,15] 3 mixedOrders (by decide +kernel) ?_;refine zBe (by exact rfl) ?_;refine fG 2 Z<|bA Z<|dQ h λE h=>gO Z (NL Z Z E)<|bR 3 Z Z<|aD (Yg Z Z) Z<|fK 2 Z Z Z Z Z Z<|eV<|HT<|BL (i:=0) Z<|aD (kB Z) Z<|aJ<|CC Z<|dD<|lU ?_;exact iH (Nk .u32 a.2 (CZ .u32 (1:Int) o)) () h SF Z
     refine dD<|HT<|BL (i:=0) Z<|aD (kB Z) Z<|aJ<|CC Z<|dD<|lU ?_;exact iH (a.2) () h SF Z
    intro f t h;unfold iD at h;refine aQ<|cR 1 Z<|cR 1 Z<|aD (qP Z Z) Z<|Bt Z<|fK 1 Z Z Z Z Z Z<|aJ ?_;exact AS ((eW .u32 a.1 (wI .u32 (a.1 - (1:Int)))),f) () h SF Z
   refine sD<|fD<|fD<|yY<|Lr (i:=0) (.inr Z) Z (Cu.r0 Z)<|lU ?_;exact yZ (a.2) (List.cons n ([]:eT)) Z h SF (a_.ix [2,4] Z Z) (aB.refl _ _)
  intro d e h;unfold kC at h;refine aP<|cR 0 Z<|aC Z<|aJ<|aU<|bN<|aH<|mG (i:=1) (Ds:=(e)) (.inl Z) Z ?_;cases h;exact sB Z
 refine aP<|bS Z<|aC Z<|aJ ?_;refine dK h Z (λh=>?_) λh=>?_
 ·refine aP<|aA Z<|aC Z<|aJ<|aU<|bN<|aH<|mG (i:=1) (Ds:=([]:eT)) (.inl Z) Z ?_;cases h;exact sB Z
 refine dD<|lU<|aP<|aA Z<|aC Z<|aJ<|aU<|mG (i:=1) (Ds:=([]:eT)) (.inl Z) Z ?_;cases h;exact sB Z
end Go.Proofs.YtcnnfkapmjhnaaaGreatDoor
section
set_option maxRecDepth 100000
namespace Go.Gx
open Go Go.Sx Go.Proofs Go.Proofs.YtcnnfkapmjhnaaaGreatDoor
noncomputable section
def ahk (a:List GV) (H:GH):OR:=a1 a λb=>ob (YG H b) λp0=>ob (fJ 1000 p0) λr=>ZL r H
def ahj (a:List GV) (H:GH):OR:=a2 a λb c=>ob (agX H b) λp0=>ob (dSc .i64 c) λp1=>ob (oV 1000 p0 p1) λr=>TZ r H
def aea (a:List GV) (H:GH):OR:=a4 a λb c d e=>ob (YI H b) λp0=>ob (dSc .i64 c) λp1=>ob (dSc .u32 d) λp2=>ob (dSc .u32 e) λp3=>ob (gQ 1000 p0 p1 p2 p3) λr=>ZL r H
def ad_ (a:List GV) (H:GH):OR:=a4 a λb c d e=>ob (YI H b) λp0=>ob (dSc .i64 c) λp1=>ob (dSc .u32 d) λp2=>ob (dSc .u32 e) λp3=>ob (dO 1000 p0 p1 p2 p3) λr=>some (.int .u32 r,H)
def Zc (f:Nat) (a:List GV) (H:GH):Option (GV×GH):=bif Nat.beq f 94 then ahk a H else bif Nat.beq f 20 then ahj a H else bif Nat.beq f 187 then aea a H else bif Nat.beq f 105 then ad_ a H else none
abbrev gl:Nat->AP:=glb 0 (cellsOf KJ AA)
def gp:GP:=⟨wC,107,Zc,Zb 295⟩
section
variable {T:Nat} {w0:fC (gl T)} {w:World} {ρ:eP} {H H':GH} {g:GV} {us:List GV} {vs:List Value}
theorem acQ (h:ahk us H=some (g,H')) (R:gF w0 ρ H w) (m:qL ρ us vs):kN Tryz.prog w0 ρ 94 vs w g H':=by
 obtain⟨p,rfl,h⟩:=UD h;obtain⟨j,c,h⟩:=aF.1 h;obtain⟨r,l,h⟩:=aF.1 h;obtain⟨o,rfl,d⟩:=m.one;obtain⟨e,i,n,rfl,a,b⟩:=WG R d c;obtain⟨rfl,rfl⟩:=Mz h;exact Hu Jg (tI 1000 (p0:=j) e i n r l) R (zAl.2 ⟨a,zAl.2 ⟨b,λf k=>absurd k zB3⟩⟩) λρ=> .bool _
theorem acP (h:ahj us H=some (g,H')) (R:gF w0 ρ H w) (i:qL ρ us vs):kN Tryz.prog w0 ρ 20 vs w g H':=by
 obtain⟨z,A,rfl,h⟩:=UE h;obtain⟨o,d,h⟩:=aF.1 h;obtain⟨p,e,h⟩:=aF.1 h;obtain⟨r,v,h⟩:=aF.1 h;obtain⟨x,vs,rfl,j,i⟩:=i.of_cons;obtain⟨y,rfl,k⟩:=i.one;obtain⟨l,m,n,rfl,a,b,c⟩:=acw R j d;obtain rfl:=Fq k e;obtain⟨q,s,t,rfl,rfl⟩:=RB h;exact TO ahb ahc q s t Ys (Ch 1000 (p0:=o) (p1:=p) l m n r v) R (zAl.2 ⟨a,zAl.2 ⟨b,zAl.2 ⟨c,λf u=>absurd u zB3⟩⟩⟩)
theorem Zh (h:aea us H=some (g,H')) (R:gF w0 ρ H w) (a:qL ρ us vs):kN Tryz.prog w0 ρ 187 vs w g H':=by
 obtain⟨z,A,B,C,rfl,h⟩:=OM h;obtain⟨m,b,h⟩:=aF.1 h;obtain⟨n,c,h⟩:=aF.1 h;obtain⟨o,d,h⟩:=aF.1 h;obtain⟨p,e,h⟩:=aF.1 h;obtain⟨r,u,h⟩:=aF.1 h;obtain⟨q,vs,rfl,i,a⟩:=a.of_cons;obtain⟨v,vs,rfl,j,a⟩:=a.of_cons;obtain⟨x,vs,rfl,k,a⟩:=a.of_cons;obtain⟨y,rfl,l⟩:=a.one;have s:=Ra R i b;obtain rfl:=Fq j c;obtain rfl:=Fq k d;obtain rfl:=Fq l e;obtain⟨rfl,rfl⟩:=Mz h;exact Hu US (Ae 1000 (p0:=m) (p1:=n) (p2:=o) (p3:=p) q r u) R (zAl.2 ⟨s,zAl.2 ⟨R.glb,λf t=>absurd t zB3⟩⟩) λρ=> .bool _
theorem Zg (h:ad_ us H=some (g,H')) (R:gF w0 ρ H w) (a:qL ρ us vs):kN Tryz.prog w0 ρ 105 vs w g H':=by
 obtain⟨z,A,B,C,rfl,h⟩:=OM h;obtain⟨m,b,h⟩:=aF.1 h;obtain⟨n,c,h⟩:=aF.1 h;obtain⟨o,d,h⟩:=aF.1 h;obtain⟨p,e,h⟩:=aF.1 h;obtain⟨r,u,h⟩:=aF.1 h;obtain⟨q,vs,rfl,i,a⟩:=a.of_cons;obtain⟨v,vs,rfl,j,a⟩:=a.of_cons;obtain⟨x,vs,rfl,k,a⟩:=a.of_cons;obtain⟨y,rfl,l⟩:=a.one;have s:=Ra R i b;obtain rfl:=Fq j c;obtain rfl:=Fq k d;obtain rfl:=Fq l e;cases h;exact Hu UH (Af 1000 (p0:=m) (p1:=n) (p2:=o) (p3:=p) q r u) R (zAl.2 ⟨s,zAl.2 ⟨R.glb,λf t=>absurd t zB3⟩⟩) λρ=> .int _ _
theorem Pt {f:Nat} (h:Zc f us H=some (g,H')) (R:gF w0 ρ H w) (a:qL ρ us vs):kN Tryz.prog w0 ρ f vs w g H':=by
 unfold Zc at h;cases b:Nat.beq f 94 with
 |true=>rw[b]at h;rw[zA2 b];exact acQ h R a
 |false=>
 rw[b]at h;cases c:Nat.beq f 20 with
 |true=>rw[c]at h;rw[zA2 c];exact acP h R a
 |false=>
 rw[c]at h;cases d:Nat.beq f 187 with
 |true=>rw[d]at h;rw[zA2 d];exact Zh h R a
 |false=>
 rw[d]at h;cases e:Nat.beq f 105 with
 |true=>rw[e]at h;rw[zA2 e];exact Zg h R a
 |false=>
 rw[e]at h;cases h
end
theorem afx:aha Tryz.prog wC=true:=by kernel_rfl
theorem Lj:fV Tryz.prog wC:=⟨Sy,afw afx⟩
theorem afY {a:AP} (b:fC a):tW Tryz.prog b (NQ wC 194 Tryz.f194):=Yz Lj mixedOrders Tryz.func194 Tryz.call194 (by kernel_rfl)
theorem afp (a:Array Value) (w:World) (c:a.size=2):CallsDIn (FR none) 0 Tryz.prog 193 a .returning w λe f g=>∃v,e = .returned v∧f = .returning∧OE w g:=by
 obtain⟨d,h,b⟩:=ZM (r:=GT wC (NQ wC 194 Tryz.f194) (O_ Tryz.f193) (evC wC (NQ wC 194 Tryz.f194) (λ_ _ _ _=>none) (Yw Tryz.f193) 0 ⟨[],0,[]⟩ (ID [])) (O_ Tryz.f193).tail ⟨[(acu Tryz.f193,.inil)],H0⟩) (by kernel_rfl);exact Wz (ch:=NQ wC 194 Tryz.f194) (lp:=λ_ _ _ _=>none) Lj mixedOrders afY Kn Tryz.func193 Z Z Z (by decide +kernel) (λi w=>by simp[execOp,resolve,invoke,builtin]) (by kernel_rfl) (by kernel_rfl) Z (by rw[c];decide +kernel) h b
theorem ahd {i:AP} {a:FuncId->List GV->GH->Option (GV×GH)} (o:∀(b:fC i) {f us H g H'},a f us H=some (g,H')->∀c w d,gF b c H w->qL c us d->kN Tryz.prog b c f d w g H') (b:fC i):Tb Tryz.prog ⟨wC,107,a,Zb 295⟩ Eo.fns b:=by
 refine⟨Lj,mixedOrders,λh=> ?_,o b,λh c w d H R n=>acH Tryz.func295 Z Z Z Z h c w d H R n,λR l j k=> ?_⟩
 ·obtain⟨e,m,h⟩:=aF.1 (show ob (VK _) _=some _ from h);cases h;obtain⟨p,q,r⟩:=aaj m;exact⟨p,q,RD r⟩
 ·exact afg (tb:=wC) (T1:=3) (T2:=38) (cc:=193) Lj Tryz.func107 Tryz.call107 Tryz.call193 Z Z Z (UF (by kernel_rfl)) (UF (by kernel_rfl)) (VQ Z Z) (VQ Z Z) (Zs Z Z) (Zs Z Z) afp R l j k
theorem Nl {T:Nat} (a:fC (gl T)):Tb Tryz.prog gp Eo.fns a:=ahd (λa f d H g c h i w e R b=>Pt h R b) a
def gp0:GP:=⟨wC,107,λ_ _ _=>none,Zb 295⟩
theorem afC (a:fC noG):Tb Tryz.prog gp0 Eo.fns a:=ahd (λa f c H g b h=>by cases h) a
end
end Go.Gx
end
namespace Go.Gx
open Go Go.Sx Go.RowKit
mutual
def IG (k:Nat):GV->GV
 | .ptr h o=> .ptr (k+h) o
 | .sl h o l s=> .sl (k+h) o l s
 | .map h=> .map (k+h)
 | .fn f a b=> .fn f (XA k a) (XA k b)
 | .agg cs=> .agg (XA k cs)
 | .tup vs=> .tup (XA k vs)
 | .int a b=> .int a b
 | .bool b=> .bool b
 | .str a b=> .str a b
 | .pnil=> .pnil
 | .snil=> .snil
 | .fnil=> .fnil
 | .inil=> .inil
 | .un=> .un
 | .bad=> .bad
 | .opn h=> .opn (k+h)
def XA (k:Nat):List GV->List GV
 | []=>[]
 |v::r=>IG k v::XA k r
end
theorem PX (k:Nat):∀(l:List GV) (i:Nat),(XA k l)[i]? = (l[i]?).map (IG k)
 | [],i=>rfl
 |v::r,0=>rfl
 |v::r,i+1=>by simpa [XA]using PX k r i
theorem Gn (k:Nat):∀(l:List GV),(XA k l).length=l.length
 | []=>rfl
 |v::r=>by simp[XA,Gn k r]
def shO (k:Nat):GO->GO
 | .cells cs=> .cells (XA k cs)
 | .mp es=> .mp (es.map λe=>(IG k e.1,IG k e.2))
def Ce (k:Nat) (l:NG):NG:={l with o:=shO k l.o}
theorem Rl.shift {y d:eP} {k:Nat} (c:∀h l,y h=some l->d (k+h)=some (Ce k l)) {g:GV} {v:Value} (h:Rl y g v):Rl d (IG k g) v:=by
 have m:∀{u:List GV} {e:jB},(∀(i:Nat) g v,u[i]? = some g->e[i]? = some v->Rl d (IG k g) v)->∀(i:Nat) g v,(XA k u)[i]? = some g->e[i]? = some v->Rl d g v:=by
  intro u e D i g v x E;rw[PX]at x;obtain⟨z,A,rfl⟩:=Option.map_eq_some_iff.1 x;exact D i z v A E
 induction h with
 |int a n=>simp only[IG];exact .int a n
 |bool b=>simp only[IG];exact .bool b
 |str s=>simp only[IG];exact .str s
 |ptr t h=>simp only[IG];exact .ptr (l:=Ce k _) t (c _ _ h)
 |pnil=>simp only[IG];exact .pnil
 |sl h C B=>simp only[IG];exact .sl (l:=Ce k _) (c _ _ h) C B
 |snil=>simp only[IG];exact .snil
 |map h=>simp only[IG];exact .map (l:=Ce k _) (c _ _ h)
 |fn f j w o G q r=>simp only[IG];exact .fn f (by rw[Gn];exact j) (m q) (by rw[Gn];exact o) (m r)
 |fnil=>simp only[IG];exact .fnil
 |inil=>simp only[IG];exact .inil
 |agg j w o p=>simp only[IG];exact .agg (by rw[Gn];exact j) (m p) o
 |tup j w p=>simp only[IG];exact .tup (by rw[Gn];exact j) (m p)
 |un=>simp only[IG];exact .un
 |bad v=>simp only[IG];exact .bad v
 |opn v h F=>simp only[IG];exact .opn (l:=Ce k _) v (c _ _ h) F
abbrev OL:=List (Nat×Nat×GO)
def Xz:OL->Nat->Option (Nat×GO)
 | [],_=>none
 |x::r,h=>if h=x.1 then some x.2 else Xz r h
theorem PD {b:OL} {h:Nat} {p:Nat×GO} (a:Xz b h=some p):(h,p)∈b:=by
 induction b with
 |nil=>cases a
 |cons x r c=>
  simp only[Xz]at a;split at a
  ·rename_i e;cases a;subst e;exact zA7
  ·exact zAh _ (c a)
noncomputable def RU (k:Nat) (t:Tr (Nat×GO)):OL->Tr (Nat×GO)
 | []=>t
 |x::r=>(RU k t r).set (some (k+x.2.1,shO k x.2.2)) (k+x.1)
noncomputable def adr:OL->Tr (Nat×GO)
 | []=> .lf
 |x::r=>(adr r).set (some x.2) x.1
theorem FA:∀(a:OL) (h:Nat),(adr a).get h=Xz a h
 | [],h=>rfl
 |x::r,h=>by
  show((adr r).set (some x.2) x.1).get h=_;rw[uA];simp only[Xz];split
  ·rfl
  ·exact FA r h
theorem MD (k:Nat) (t:Tr (Nat×GO)):∀(b:OL) (h:Nat),(RU k t b).get h=if k<=h then(match Xz b (h - k)with|some p=>some (k+p.1,shO k p.2)|none=>t.get h)else t.get h
 | [],h=>by simp[RU,Xz]
 | x :: r, h => by
  show((RU k t r).set (some (k+x.2.1,shO k x.2.2)) (k+x.1)).get h=_;rw[uA,MD k t r h];by_cases e:h=k+x.1
  ·subst e;rw[if_pos Z,if_pos (by omega)];simp[Xz]
  ·rw[if_neg e];by_cases a:k<=h
   ·rw[if_pos a,if_pos a];simp only[Xz];rw[if_neg (show¬h - k=x.1 by omega)]
   ·rw[if_neg a,if_neg a]
noncomputable def EV (n:Nat) (a:OL):GH:=⟨n,adr a⟩
noncomputable def GH.load (H:GH) (n:Nat) (a:OL):GH:=⟨H.n+n,RU H.n H.t a⟩
section
variable {gs:AP} {w0:fC gs} {w w':World} {ρ ρ2:eP} {H:GH} {n:Nat} {os:OL}
theorem iI {H:GH} {h:Nat} {o:GO}:H.get h=some o↔∃v,H.t.get h=some (v,o):=by
 unfold GH.get;cases c:H.t.get h with
 |none=>simp[ob]
 |some p=>obtain⟨a,b⟩:=p;simp[ob]
theorem tZ {H:GH} {h v:Nat}:H.ver h=some v↔∃o,H.t.get h=some (v,o):=by
 unfold GH.ver;cases c:H.t.get h with
 |none=>simp[ob]
 |some p=>obtain⟨a,b⟩:=p;simp[ob]
theorem gF.sub {d:GH} (R:gF w0 ρ H w) (z:d.n=H.n) (m:∀h p,d.t.get h=some p->H.t.get h=some p):gF w0 ρ d w:=by
 have g:∀h o,d.get h=some o->H.get h=some o:=λh o i=>by
  obtain⟨v,j⟩:=iI.1 i;exact iI.2 ⟨v,m _ _ j⟩
 refine⟨R.ext,λh o i=>R.live h o (g h o i),λh q o y l u e f=>R.inj h q o y l u (g _ _ e) (g _ _ f),λh r=>R.fresh h (by omega),λh r=>R.dense h (by omega),λh v l j s=> ?_,R.env⟩
 obtain⟨o,k⟩:=tZ.1 j;obtain⟨x,a,b,c⟩:=R.vers h v l (tZ.2 ⟨o,m _ _ k⟩) s;refine⟨x,a,b,?_⟩
 have e:=iI.2 ⟨v,k⟩;have f:=g _ _ e;rw[c]at f;cases f;exact e
theorem Aj.shift {l:NG} {o:GO} {f:eP} {k:Nat} (d:∀h l,ρ2 h=some l->f (k+h)=some (Ce k l)) (h:Aj ρ2 w l o):Aj f w (Ce k l) (shO k o):=by
 cases o with
 |cells z=>
  obtain⟨j,T,r,s,t,y⟩:=h;refine⟨j,T,r,s,by rw[Gn];exact t,λi g e=> ?_⟩
  rw[PX]at e;obtain⟨p,q,rfl⟩:=Option.map_eq_some_iff.1 e;obtain⟨v,a,b,c⟩:=y i p q;exact⟨v,a,b.shift d,c⟩
 |mp A=>
  obtain⟨x,u,r,s,t⟩:=h;refine⟨x,u,r,by simpa [shO]using s,λi g e=> ?_⟩
  rw[List.getElem?_map]at e;obtain⟨p,q,rfl⟩:=Option.map_eq_some_iff.1 e;obtain⟨m,a,b,c⟩:=t i p q;exact⟨m,a,b.shift d,c.shift d⟩
theorem gF.join {Y:AP} {hb:JZ Y w λ_=>False} (R:gF w0 ρ H w) (M:gF (fC.of w hb) ρ2 (EV n os) w'):
  ∃s:eP,ρ.le s∧gF w0 s (H.load n os) w'∧∀g v,Rl ρ2 g v->Rl s (IG H.n g) v:=by
 let s:eP:=λh=>if h<H.n then ρ h else(ρ2 (h - H.n)).map (Ce H.n);have G:ρ.le s:=λh l f=>by
  have ac:h<H.n:=by
   rcases zAp h H.n with q|q
   ·exact q
   ·rw[R.fresh h q]at f;cases f
  show(if h<H.n then ρ h else _)=_;rw[if_pos ac];exact f
 have K:∀h l,ρ2 h=some l->s (H.n+h)=some (Ce H.n l):=λh l f=>by
  show(if H.n+h<H.n then _ else _)=_;rw[if_neg (by omega),show H.n+h - H.n=h by omega,f];rfl
 have k:∀h,h<H.n->s h=ρ h:=λh u=>by show(if h<H.n then ρ h else _)=_;rw[if_pos u]
 have d:∀h,H.n<=h->s h=(ρ2 (h - H.n)).map (Ce H.n):=λh u=>by show(if h<H.n then ρ h else _)=_;rw[if_neg (by omega)]
 have J:∀h,H.n<=h->H.t.get h=none:=λh u=>by
  cases y:H.t.get h with
  |none=>rfl
  |some p=>exact absurd (R.lt (iI.2 ⟨p.1,y⟩)) (by omega)
 have X:∀h,h<H.n->(H.load n os).t.get h=H.t.get h:=λh u=>by
  show(RU H.n H.t os).get h=_;rw[MD,if_neg (by omega)]
 have gh:∀h p,H.n<=h->(H.load n os).t.get h=some p->∃x,(EV n os).t.get (h - H.n)=some x∧p=(H.n+x.1,shO H.n x.2):=λh p u hp=>by
  have A:(RU H.n H.t os).get h=some p:=hp;rw[MD,if_pos u,J h u]at A;cases hk:Xz os (h - H.n)with
  |none=>rw[hk]at A;cases A
  |some x=>rw[hk]at A;cases A;exact⟨x,(FA os _).trans hk,rfl⟩
 have W:OE w w':=M.ext.ext;have L:∀l:NG,(fC.of w hb).mine l.b->w.heap.size<=l.b:=λl h=>by
  rcases h with h|h
  ·exact h
  ·exact h.elim
 have r:∀h o,h<H.n->(H.load n os).get h=some o->∃l,ρ h=some l∧w0.mine l.b∧Aj ρ w l o∧H.get h=some o:=λh o u y=>by
  obtain⟨v,N⟩:=iI.1 y;rw[X h u]at N;have z:=iI.2 ⟨v,N⟩;obtain⟨l,a,b,c⟩:=R.live h o z;exact⟨l,a,b,c,z⟩
 have m:∀h o,H.n<=h->(H.load n os).get h=some o->∃l O,ρ2 (h - H.n)=some l∧w.heap.size<=l.b∧Aj ρ2 w' l O∧o=shO H.n O∧(EV n os).get (h - H.n)=some O:=λh o u y=>by
  obtain⟨v,N⟩:=iI.1 y;obtain⟨x,E,e⟩:=gh h _ u N;cases e;have z:(EV n os).get (h - H.n)=some x.2:=iI.2 ⟨x.1,E⟩;obtain⟨l,a,b,c⟩:=M.live _ _ z;exact⟨l,x.2,a,L l b,c,rfl,z⟩
 refine⟨s,G,⟨R.ext.trans W,λh o y=> ?_,λh B o U l l' V E f j F=> ?_,λh u=> ?_,λh u=> ?_,λh v l N f=> ?_,λi v e=>let ⟨l,a,b⟩:=R.env i v e;⟨l,G _ _ a,b⟩⟩,λg v y=>y.shift K⟩
 ·rcases zAp h H.n with q|q
  ·obtain⟨l,a,b,c,_⟩:=r h o q y;exact⟨l,by rw[k h q];exact a,b,c.move G (W.block _ c.lt)⟩
  ·obtain⟨l,O,a,b,c,rfl,_⟩:=m h o q y;exact⟨Ce H.n l,by rw[d h q,a];rfl,.inl (zB4 R.ext.size b),c.shift K⟩
 ·rcases zAp h H.n with q|q<;>rcases zAp B H.n with I|I
  ·obtain⟨l1,C,_,_,P⟩:=r h o q V;obtain⟨T,D,_,_,Q⟩:=r B U I E;rw[k h q,C]at f;rw[k B I,D]at j;cases f;cases j;exact R.inj h B o U _ _ P Q C D F
  ·obtain⟨l1,C,_,c1,P⟩:=r h o q V;obtain⟨T,O,D,b2,_,rfl,Q⟩:=m B U I E;rw[k h q,C]at f;rw[d B I,D]at j;cases f;cases j;have:=c1.lt;simp only[Ce]at F;omega
  ·obtain⟨l1,o1,C,b1,_,rfl,P⟩:=m h o q V;obtain⟨T,D,_,c2,Q⟩:=r B U I E;rw[d h q,C]at f;rw[k B I,D]at j;cases f;cases j;have:=c2.lt;simp only[Ce]at F;omega
  ·obtain⟨l1,o1,C,b1,_,rfl,P⟩:=m h o q V;obtain⟨T,O,D,b2,_,rfl,Q⟩:=m B U I E;rw[d h q,C]at f;rw[d B I,D]at j;cases f;cases j;have:=M.inj _ _ _ _ _ _ P Q C D F;omega
 ·have aa:H.n+n<=h:=u;rw[d h (by omega),M.fresh (h - H.n) (by show n<=_;omega)];rfl
 ·have aa:h<H.n+n:=u;rcases zAp h H.n with q|q
  ·obtain⟨l,f⟩:=R.dense h q;exact⟨l,by rw[k h q];exact f⟩
  ·obtain⟨l,f⟩:=M.dense (h - H.n) (by show _<n;omega);exact⟨Ce H.n l,by rw[d h q,f];rfl⟩
 ·obtain⟨o,S⟩:=tZ.1 N;rcases zAp h H.n with q|q
  ·rw[X h q]at S;rw[k h q]at f;obtain⟨lv,a,b,c⟩:=R.vers h v l (tZ.2 ⟨o,S⟩) f;have y:=iI.2 ⟨v,S⟩;obtain⟨l',j,_,ck⟩:=R.live h o y;rw[f]at j;cases j;refine⟨lv,G _ _ a,by rw[W.block _ ck.lt];exact b,?_⟩
   obtain⟨v2,ad⟩:=iI.1 c;exact iI.2 ⟨v2,by rw[X h q];exact ad⟩
  ·obtain⟨x,E,e⟩:=gh h _ q S;cases e;rw[d h q]at f;obtain⟨T,ab,rfl⟩:=Option.map_eq_some_iff.1 f;obtain⟨lv,a,b,c⟩:=M.vers (h - H.n) x.1 T (tZ.2 ⟨x.2,E⟩) ab;refine⟨Ce H.n lv,K _ _ a,b,?_⟩
   have h3:(EV n os).get (h - H.n)=some x.2:=iI.2 ⟨x.1,E⟩;rw[c]at h3;have h4:=Option.some.inj h3;exact iI.2 ⟨_,by rw[S,<-h4];rfl⟩
end
theorem YP {a b:Nat×Nat} (h:SQ a b=true):a=b:=by
 obtain⟨f,d⟩:=a;obtain⟨g,e⟩:=b;unfold SQ at h;cases c:Nat.beq d e with
 |false=>simp[c]at h
 |true=>
  simp only[c,cond_true]at h;rw[zA2 h,zA2 c]
theorem HC {c:eP} {n l:Nat} {x:ByteArray} (a:n=mV (bQ x)) (b:l=(bQ x).length):Rl c (.str n l) (.string x):=by
 rw[a,b];exact .str x
def Zj (a:List GV) (p:Nat×Nat):Bool:=List.casesOn (motive:=λ_=>Bool) a false λu r=>List.casesOn (motive:=λ_=>Bool) r (Option.casesOn (motive:=λ_=>Bool) (GV.asStr u) false λs=>SQ s p) λ_ _=>false
theorem Px {b:List GV} {p:Nat×Nat} (h:Zj b p=true):b=[.str p.1 p.2]:=by
 cases b with
 |nil=>cases h
 | cons u r =>
  cases r with
  |cons _ _=>cases h
  | nil =>
   cases a:GV.asStr u with
   |none=>simp[Zj,a]at h
   |some s=>
    have:SQ s p=true:=by simpa [Zj,a]using h
    rw[rC a,YP this]
noncomputable section
def ZQ (H:GH) (a:List Nat):Option OL:=List.rec (motive:=λ_=>Option OL) (some []) (λh _ b=>ob (H.t.get h) λp=>ob b λr=>some ((h,p.1,p.2)::r)) a
theorem JC {H:GH}:∀{c:List Nat} {b:OL},ZQ H c=some b->∀x∈b,H.t.get x.1=some x.2
 | [],b,h,x,a=>by cases h;cases a
 |h0::c,b,h,x,a=>by
  obtain⟨p,d,h⟩:=aF.1 (show ob (H.t.get h0) (λp=>ob (ZQ H c) λr=>some ((h0,p.1,p.2)::r))=some b from h);obtain⟨r,e,h⟩:=aF.1 h;cases h;rcases zAk.1 a with rfl|a
  ·exact d
  ·exact JC e x a
def Oe (T:HY) (G:GP) (a f:Nat) (d:List GV) (b:List Nat):Option (GV×Nat×OL):=ob (If T G a f d H0) λr=>ob (ZQ r.2 b) λc=>some (r.1,r.2.n,c)
def shK {R:Type} (k:Nat) (v:GV) (f:GV->R):R:=GV.casesOn (motive_1:=λ_=>R) v (λa b=>f (.int a b)) (λb=>f (.bool b)) (λa b=>f (.str a b)) (λh o=>sn (Nat.add k h) λh=>f (.ptr h o)) (f .pnil) (λh o l s=>sn (Nat.add k h) λh=>f (.sl h o l s)) (f .snil) (λh=>sn (Nat.add k h) λh=>f (.map h)) (λa b c=>f (IG k (.fn a b c))) (f .fnil) (f .inil) (λd=>f (IG k (.agg d))) (λe=>f (IG k (.tup e))) (f .un) (f .bad) (λh=>sn (Nat.add k h) λh=>f (.opn h))
theorem aao {R:Type} (k:Nat) (v:GV) (f:GV->R):shK k v f=f (IG k v):=by
 cases v<;>simp[shK,yS,IG]
def agh {R:Type} (k:Nat) (l:List GV):(List GV->R)->R:=List.rec (motive:=λ_=>(List GV->R)->R) (λf=>f []) (λx _ a f=>shK k x λy=>a λr=>f (y::r)) l
theorem VP {R:Type} (k:Nat):∀(l:List GV) (f:List GV->R),agh k l f=f (XA k l)
 | [],f=>rfl
 |x::l,f=>by
  show shK k x (λy=>agh k l λr=>f (y::r))=_;rw[aao,VP k l];rfl
def agi {R:Type} (k:Nat) (o:GO) (f:GO->R):R:=GO.casesOn (motive:=λ_=>R) o (λa=>agh k a λa=>f (.cells a)) (λb=>f (shO k (.mp b)))
theorem adC {R:Type} (k:Nat) (o:GO) (f:GO->R):agi k o f=f (shO k o):=by
 cases o with
 |cells a=>exact VP k a _
 |mp b=>rfl
def afX {R:Type} (k:Nat) (t:Tr (Nat×GO)) (b:OL):(Tr (Nat×GO)->R)->R:=List.rec (motive:=λ_=>(Tr (Nat×GO)->R)->R) (λf=>f t) (λx _ a f=>a λt=>sn (Nat.add k x.2.1) λv=>sn (Nat.add k x.1) λh=>agi k x.2.2 λo=>t.setK (some (v,o)) h f) b
theorem VD {R:Type} (k:Nat) (t:Tr (Nat×GO)):∀(a:OL) (f:Tr (Nat×GO)->R),afX k t a f=f (RU k t a)
 | [],f=>rfl
 |x::a,f=>by
  show afX k t a (λt=>sn (Nat.add k x.2.1) λv=>sn (Nat.add k x.1) λh=>agi k x.2.2 λo=>t.setK (some (v,o)) h f)=_;rw[VD k t a];simp only[yS,adC,DR];rfl
def Mt (g:GV) (n:Nat) (a:OL) (H:GH):Option (GV×GH):=sn H.n λk=>shK k g λg=>afX k H.t a λt=>sn (Nat.add k n) λm=>some (g,⟨m,t⟩)
theorem Zy (g:GV) (n:Nat) (a:OL) (H:GH):Mt g n a H=some (IG H.n g,H.load n a):=by
 unfold Mt;simp only[yS,aao,VD];rfl
theorem Ld {P:Program} {T:HY} {G:GP} {gs gs2:AP} (j:gs2.obs=gs.obs) (d:gs2.env=[]) (M:Lz T G.tab) (L:∀m:fC gs2,Tb P G T.fns m) {a f n:Nat} {y:List GV} {z:List Value} {O:List Nat} {g:GV} {c:OL} (i:Oe T G a f y O=some (g,n,c)) (C:aS P f)
  {m:fC gs} {w:World} {F:eP} {H o:GH} {B:GV} (Q:qL (λ_=>none) y z) (h:Mt g n c H=some (B,o)) (R:gF m F H w):kN P m F f z w B o:=by
 rw[Zy]at h;cases h;obtain⟨r,D,i⟩:=aF.1 (show ob (If T G a f y H0) _=some (g,n,c)from i);obtain⟨S,s,i⟩:=aF.1 i;cases i;rw[Do M]at D;have b:JZ gs2 w λ_=>False:=λp t=>⟨(R.glo p (j▸t)).1,id⟩
 rcases Ie L (H':=r.2) (g:=r.1) D (gF.start (fC.of w b) d) Q with⟨v,E,l,k,_⟩|⟨_,N⟩
 ·have:=C z.toArray w;rw[show(fC.of w b).w=w from rfl,this]at k;cases k
 ·refine .inr ⟨C _ w,N.mono ?_⟩;rintro e E ⟨v,A,rfl,_,I,u⟩;have J:gF (fC.of w b) A (EV r.2.n c) E:=I.sub Z λh p t=>by
   have:Xz c h=some p:=(FA c h).symm.trans t;exact JC s _ (PD this)
  obtain⟨l,q,K,x⟩:=R.join J;exact⟨v,l,rfl,q,K,x _ _ u⟩
theorem Jy {P:Program} {T:HY} {G:GP} {gs:AP} (y:Lz T G.tab) (x:∀H:fC gs,Tb P G T.fns H) {a f n:Nat} {m:List GV} {o:List Value} {D:List Nat} {g:GV} {j:OL} (d:Oe T G a f m D=some (g,n,j)) (z:aS P f)
  (E:qL (λ_=>none) m o) (B:gs.env=[]) (b:fC gs):Calls P f o.toArray b.w λe q=>∃v c,e = .returned v∧gF b c (EV n j) q∧Rl c g v:=by
 obtain⟨r,t,d⟩:=aF.1 (show ob (If T G a f m H0) _=some (g,n,j)from d);obtain⟨F,k,d⟩:=aF.1 d;cases d;rw[Do y]at t;rcases Ie x (H':=r.2) (g:=r.1) t (gF.start b B) E with⟨v,q,c,i,_⟩|⟨_,A⟩
 ·have:=z o.toArray b.w;rw[this]at i;cases i
 ·refine A.mono ?_;rintro e q ⟨v,s,rfl,_,u,l⟩;exact⟨v,s,rfl,u.sub Z λh p C=>by
   have:Xz j h=some p:=(FA j h).symm.trans C;exact JC k _ (PD this),l⟩
end
theorem Hw {P:Program} {gs:Nat->AP} {L:List bF} (D:∀w S,(∀h∈L,h.p w S)->∃T,JZ (gs T) w λ_=>False) {f n:Nat} {z:List Value} {g:GV} {y:OL}
  (h:∀T (b:fC (gs T)),Calls P f z.toArray b.w λe s=>∃v c,e = .returned v∧gF b c (EV n y) s∧Rl c g v) {A:Type} {o:A->Value} {LO:A->List bF}
  (d:∀T (b:fC (gs T)) (B:eP) (w:World) (V:Value),(∀k,b.mine k->b.w.heap.size<=k)->gF b B (EV n y) w->Rl B g V->∃x:A,V=o x∧∀q∈LO x,q.p w (λk=>b.w.heap.size<=k)):
  aY P f z.toArray L o (λ_ l=>l) (λx l=>LO x++l):=by
 intro t C H;obtain⟨T,u⟩:=D t C H;refine(h T (.of t u)).mono ?_;rintro e s ⟨v,c,rfl,R,G⟩;obtain⟨x,rfl,F⟩:=d T (.of t u) c s v (λk r=>r.elim id False.elim) R G;refine⟨x,rfl,R.ext,λ_ _=>False,⟨λi m E=>by simp at E,λi k h=>h.elim,λi j k h=>h.elim⟩,λq a=> ?_⟩
 have a:q∈LO x++[]:=a;rw[List.append_nil]at a;exact bF.wide (F q a) (λk r=>⟨.inr (.inl r),λi h=>h.elim⟩)
noncomputable def EP (s:ByteArray):Nat×Nat:=(mV (bQ s),(bQ s).length)
theorem Ij {a b:ByteArray} (h:EP a=EP b):a=b:=by
 have c:=YO a b;unfold EP at h;rw[h]at c;have e:SQ (mV (bQ b),(bQ b).length) (mV (bQ b),(bQ b).length)=true:=by simp[SQ]
 rw[e]at c;have d:a.toList=b.toList:=eq_of_beq c.symm;rw[Lib.toList_data,Lib.toList_data]at d;obtain⟨⟨x⟩⟩:=a;obtain⟨⟨y⟩⟩:=b;simp only at d;rw[d]
noncomputable def Tz (a:List GV):Option (Nat×Nat):=List.casesOn (motive:=λ_=>Option (Nat×Nat)) a none λc r=>List.casesOn (motive:=λ_=>Option (Nat×Nat)) r c.asStr λ_ _=>none
abbrev afZ:fT ByteArray:=⟨1,Nat.one_pos,λ_ _ a x=>a=[.string x],λh=>by simp[h],λh _=>h⟩
theorem cN.str {S:Nat->Prop} {g:eP} {w:World}:cN S g w Tz afZ EP:=λgs f y a h _=>by
 cases gs with
 |nil=>cases h
 |cons c gs=>
 cases gs with
 |cons _ _=>cases h
 |nil=>
 have h:c.asStr=some y:=h;obtain⟨v,f,rfl,b,a⟩:=a.of_cons;rw[a.of_nil];rw[rC h]at b;obtain⟨x,rfl,d,e⟩:=b.str_inv;exact⟨x,by unfold EP;rw[<-d,<-e],rfl⟩
theorem Qa {c:eP} {V:Value} {n l:Nat} {s:ByteArray} (h:Rl c (.str n l) V) (e:EP s=(n,l)):V = .string s:=by
 obtain⟨x,rfl,a,b⟩:=h.str_inv;have:EP x=EP s:=by rw[e];unfold EP;rw[<-a,<-b]
 rw[Ij this]
theorem yG {c:Type}:∀a b:c,id a=id b->a=b:=λ_ _ h=>h
theorem oP {c d e i:Type} {f:c->e} {g:d->i} (j:∀a b,f a=f b->a=b) (k:∀a b,g a=g b->a=b):∀a b:c×d,(λz:c×d=>(f z.1,g z.2)) a=(λz:c×d=>(f z.1,g z.2)) b->a=b:=λa b h=>by
 obtain⟨l,m⟩:=a;obtain⟨n,o⟩:=b;simp only[Prod.mk.injEq]at h;rw[j _ _ h.1,k _ _ h.2]
theorem Ek {g i:Type} {f:g->i} (e:∀a b,f a=f b->a=b):∀{c d:List g},c.map f=d.map f->c=d
 | [],[],_=>rfl
 | [],_::_,h=>by simp at h
 |_::_,[],h=>by simp at h
 |a::c,b::d,h=>by
  simp only[zB8,List.cons.injEq]at h;rw[e _ _ h.1,Ek e h.2]
end Go.Gx
section
set_option maxRecDepth 100000
namespace Go.Gx
open Go Go.Sx Go.Proofs Go.Proofs.YtcnnfkapmjhnaaaGreatDoor
def Ax (l:eT):List GV:=l.map λn=> .int .i64 (.ofNat n)
abbrev WR:Nat:=2112028727472678671875394588253261716637598376284166205084665149659546415506205110427976155199292915031854375983970186441127628472396085504860052462678833835041004277310738364420351843311222331639164905013073586006552867104006437211296562945032770362420017031925239251251764513194096069373018704461359855439716639312768657529568141771188416469545601943510261772884239757181674058403364159791618756340212599836502067696923968062014780960472289026185138884677002673404981476439085960868366958181102248952216628756272249948081979597156805921852865363224391524861833515953881014479812814684034755119479886800587762445723908253153744840001701717080903187835102757323120056719835696673107386094094700847148129470491191865410375865239766470788412391872250549348340176813969448111690452462152215568090503184178252689646919195527592395048329263428298823138516319578807045171076012266681187872681089261869590069578539355003736436573011785917093067041655944717612971425325854469328567357178393832492526793845634639492216993131921857778872429573410590871714346729340385274921455895636437057251507558636261207478934169176071598094169791372992697924002483577535009978787490801333001811833356955665237999923386164787467386031648279055967610069550664573682522609480576770921228056713127079072643381651436439817482657630012964573154116116617963256691910326800544291166051269103400336324234823057439693507463736260823484689142506508584557173199163677761701310393575769950478625150380585713276180987333856047054466913087267726229875701261001106214582300616028345720164545136
def mu0:List GV:=[.str WR 646]
def mg0:GV:=(.tup [(.sl 2523 0 296 4),(.int .i64 (.ofNat 0)),(.int .i64 (.ofNat 0))])
def mo0:OL:=[(2523,2523,.cells (Ax [1,0,7,0,1,8,14,0,3,14,15,0,1,16,19,0,1,20,21,0,3,22,23,0,2,24,25,0,3,26,28,0,2,29,31,16,3,32,33,0,1,34,35,0,3,35,36,0,1,37,40,0,1,41,42,0,3,43,44,0,1,45,49,0,3,49,50,0,1,51,55,0,1,56,59,0,3,59,60,0,1,61,65,0,3,66,68,0,3,69,70,0,1,70,71,0,3,72,74,0,2,75,76,0,3,77,79,0,1,80,81,0,3,82,84,0,1,85,89,0,3,89,90,0,3,91,93,0,1,94,95,0,3,96,98,0,2,99,100,0,3,100,101,0,1,102,103,0,3,104,106,0,1,107,111,0,3,111,112,0,1,113,117,0,1,118,121,0,3,121,122,0,3,123,124,0,1,124,128,0,3,129,131,0,3,132,133,0,1,133,134,0,3,135,137,0,3,138,139,0,1,139,142,0,3,142,143,0,1,143,144,0,3,144,145,0,1,145,146,0,3,147,148,0,2,149,150,1,3,151,152,0,1,153,154,0,3,154,155,0,1,155,161,0,3,162,163,0,1,164,165,0,3,166,167,0,1,168,169,0,3,169,170,0,1,170,171,0,3,172,173,0,2,174,175,1,3,176,177,0,1,178,179,0,3,179,180,0,1,180,186,0,3,187,188,0,1,189,190,0,3,190,191,0,3,192,193,0,2,194,196,16,3,197,198,0,1,199,200,0,3,201,202,0,1,203,206,0,3,206,207,0,1,207,208,0,3,208,209,0,1,209,210,0,3,211,212,0,2,213,214,1,3,215,216,0,1,217,218,0,3,218,219,0,1,219,225,0,3,226,227,0,1,228,229,0,3,230,231,0,1,232,233,0,3,233,234,0,1,234,235,0,3,236,237,0,2,238,239,1,3,240,241,0,1,242,243,0,3,243,244,0,1,244,250,0,3,251,252,0,1,253,254,0,3,254,255,0,3,256,257,0,2,258,260,16,3,261,262,0,1,263,264,0,3,264,265,0,3,266,268,0,1,269,270,0,3,271,273,0,1,274,279,0,3,279,280,0,3,280,281,0,1,281,282,0,3,282,283,0,1,283,284,0,3,285,286,0,2,287,288,1,3,289,290,0,1,291,292,0,3,292,293,0,1,293,299,0,3,300,301,0,1,302,303,0,3,304,305,0,1,306,307,0,3,307,308,0,1,308,309,0,3,310,311,0,2,312,313,1,3,314,315,0,1,316,317,0,3,317,318,0,1,318,324,0,3,325,326,0,1,327,328,0,3,328,329,0,3,330,332,0,1,333,336,0,3,336,337,0,1,337,338,0,3,338,339,0,1,339,340,0,3,341,342,0,2,343,344,1,3,345,346,0,1,347,348,0,3,348,349,0,1,349,355,0,3,356,357,0,1,358,359,0,3,360,361,0,1,362,363,0,3,363,364,0,1,364,365,0,3,366,367,0,2,368,369,1,3,370,371,0,1,372,373,0,3,373,374,0,1,374,380,0,3,381,382,0,1,383,384,0,3,384,385,0,3,385,386,0,3,386,387,0,3,390,392,0,1,393,394,0,3,395,397,0,3,398,399,0,1,399,402,0,3,402,403,0,1,403,404,0,3,404,405,0,1,405,406,0,3,407,408,0,2,409,410,1,3,411,412,0,1,413,414,0,3,414,415,0,1,415,421,0,3,422,423,0,1,424,425,0,3,426,427,0,1,428,429,0,3,429,430,0,1,430,431,0,3,432,433,0,2,434,435,1,3,436,437,0,1,438,439,0,3,439,440,0,1,440,446,0,3,447,448,0,1,449,450,0,3,450,451,0,3,452,453,0,2,454,456,16,3,457,458,0,1,459,460,0,3,461,462,0,1,463,466,0,3,466,467,0,1,467,468,0,3,468,469,0,1,469,470,0,3,471,472,0,2,473,474,1,3,475,476,0,1,477,478,0,3,478,479,0,1,479,485,0,3,486,487,0,1,488,489,0,3,490,491,0,1,492,493,0,3,493,494,0,1,494,495,0,3,496,497,0,2,498,499,1,3,500,501,0,1,502,503,0,3,503,504,0,1,504,510,0,3,511,512,0,1,513,514,0,3,514,515,0,3,516,517,0,2,518,520,16,3,521,522,0,1,523,524,0,3,524,525,0,3,525,526,0,1,527,528,0,3,529,531,0,1,532,537,0,3,537,538,0,3,538,539,0,1,539,540,0,3,540,541,0,1,541,542,0,3,543,544,0,2,545,546,1,3,547,548,0,1,549,550,0,3,550,551,0,1,551,557,0,3,558,559,0,1,560,561,0,3,562,563,0,1,564,565,0,3,565,566,0,1,566,567,0,3,568,569,0,2,570,571,1,3,572,573,0,1,574,575,0,3,575,576,0,1,576,582,0,3,583,584,0,1,585,586,0,3,586,587,0,3,588,590,0,1,591,594,0,3,594,595,0,1,595,596,0,3,596,597,0,1,597,598,0,3,599,600,0,2,601,602,1,3,603,604,0,1,605,606,0,3,606,607,0,1,607,613,0,3,614,615,0,1,616,617,0,3,618,619,0,1,620,621,0,3,621,622,0,1,622,623,0,3,624,625,0,2,626,627,1,3,628,629,0,1,630,631,0,3,631,632,0,1,632,638,0,3,639,640,0,1,641,642,0,3,642,643,0,3,643,644,0,3,644,645,0]))]
set_option maxHeartbeats 4000000 in
theorem me0:Oe Eo gp 4000 106 mu0 [2523]=some (mg0,2524,mo0):=by kernel_rfl
noncomputable def Mi (f:Nat) (a:List GV) (H:GH):Option (GV×GH):=bif Nat.beq f 106 then(bif Zj a (WR,646)then Mt mg0 2524 mo0 H else Zc f a H)else Zc f a H
noncomputable def ahf:GP:=⟨wC,gp.cat,Mi,gp.exn⟩
theorem Jo {T:Nat} {k:fC (gl T)} {w:World} {e:eP} {H i:GH} {g:GV} {d:List GV} {j:jB} {f:Nat} (h:Mi f d H=some (g,i)) (R:gF k e H w) (a:qL e d j):kN Tryz.prog k e f j w g i:=by
 unfold Mi at h;cases b:Nat.beq f 106 with
 |false=>rw[b]at h;exact Pt h R a
 | true =>
  rw[b]at h;cases c:Zj d (WR,646)with
  |false=>rw[c]at h;exact Pt h R a
  |true=>
   rw[c]at h;rw[zA2 b];rw[Px c]at a;obtain⟨V,rfl,n⟩:=a.one;obtain⟨x,rfl,l,m⟩:=n.str_inv;exact Ld (gs:=gl T) (gs2:=gl T) Z Z Ad Nl me0 Tryz.call106 (qL.cons (HC l m) .nil) h R
theorem adX {T:Nat} (a:fC (gl T)):Tb Tryz.prog ahf Eo.fns a:=⟨(Nl a).tab,(Nl a).mixed,(Nl a).fns,λh d w c R b=>Jo h R b,(Nl a).exn,(Nl a).cat⟩
abbrev afE:Nat:=6706143830449764899556809608818904919804074884937111603718476495539622089622860971527792587791047894922729163212717263328395231852300855536488424978955807703755604513825873373095632290149847090083112304426652546340939400726262280257803792487332445892473582856512649637013408585975292850644760247287299230258062944610265801223788397479914840704983105145953743025358843726328641031619437354017789814719882883570583131354112070717477863523377784965938515931160728579383844655360852857429048595849656685311997067516701048769715945338084683118784715135226216982869351630641616464718832441949492048937096570154901286325463543707328254906190863546417377904
def mu1:List GV:=[.str afE 270]
def mg1:GV:=(.agg [(.str 7562850 3),(.sl 1176 0 2 6),(.sl 2078 0 2 3)])
def ZA:OL:=[(1176,1176,.cells [(.str 100 1),(.int .i64 (.ofNat 1)),(.int .i64 (.ofNat 0)),(.int .i64 (.ofNat 0)),(.int .i64 (.ofNat 1)),(.int .i64 (.ofNat 0)),(.str 112 1),(.int .i64 (.ofNat 3)),(.int .i64 (.ofNat 0)),(.int .i64 (.ofNat 0)),(.int .i64 (.ofNat 0)),(.int .i64 (.ofNat 0))]),
 (1300,1300,.cells (Ax [41,0,10,0,42,0,36,0,5,0,1,0,36,0,5,1,4,0])),
 (1326,1326,.cells [(.int .i64 (.ofNat 1)),(.int .i64 (.ofNat 0))]),
 (1359,1359,.cells [(.int .i64 (.ofNat 4)),(.int .i64 (.ofNat 0))]),
 (1367,1367,.cells [(.int .i64 (.ofNat 0)),(.sl 1326 0 1 2),(.int .i64 (.ofNat 1)),(.sl 1359 0 1 2)]),
 (1755,1755,.cells (Ax [41,0,19,0,10,0,42,0,36,0,5,0,43,0,37,0,24,0,12,0,6,0,33,0,24,0,12,0,1,1,6,0,36,0,5,1,23,0,35,0,12,0,24,0,12,0])),
 (1936,1936,.cells (Ax [43,0,37,0,24,0,12,0,6,0,33,0,24,0,12,0,1,1,6,0])),
 (2062,2062,.cells (Ax [23,0,35,0,12,0,24,0,12,0])),
 (2070,2070,.cells [(.int .i64 (.ofNat 0)),(.sl 1936 0 10 2),(.int .i64 (.ofNat 1)),(.sl 2062 0 5 2)]),
 (2078,2078,.cells [(.str 7368564 3),(.sl 1300 0 9 2),(.sl 1367 0 2 2),(.str 7827308 3),(.sl 1755 0 23 2),(.sl 2070 0 2 2)])]
set_option maxHeartbeats 4000000 in
theorem me1:Oe Eo ahf 4000 7 mu1 [1176,1300,1326,1359,1367,1755,1936,2062,2070,2078]=some (mg1,3136,ZA):=by kernel_rfl
noncomputable def Mj (f:Nat) (a:List GV) (H:GH):Option (GV×GH):=bif Nat.beq f 7 then(bif Zj a (afE,270)then Mt mg1 3136 ZA H else Mi f a H)else Mi f a H
noncomputable def ahg:GP:=⟨wC,gp.cat,Mj,gp.exn⟩
theorem Jp {T:Nat} {k:fC (gl T)} {w:World} {e:eP} {H i:GH} {g:GV} {d:List GV} {j:jB} {f:Nat} (h:Mj f d H=some (g,i)) (R:gF k e H w) (a:qL e d j):kN Tryz.prog k e f j w g i:=by
 unfold Mj at h;cases b:Nat.beq f 7 with
 |false=>rw[b]at h;exact Jo h R a
 | true =>
  rw[b]at h;cases c:Zj d (afE,270)with
  |false=>rw[c]at h;exact Jo h R a
  |true=>
   rw[c]at h;rw[zA2 b];rw[Px c]at a;obtain⟨V,rfl,n⟩:=a.one;obtain⟨x,rfl,l,m⟩:=n.str_inv;exact Ld (gs:=gl T) (gs2:=gl T) Z Z Ad adX me1 Tryz.call7 (qL.cons (HC l m) .nil) h R
theorem adY {T:Nat} (a:fC (gl T)):Tb Tryz.prog ahg Eo.fns a:=⟨(Nl a).tab,(Nl a).mixed,(Nl a).fns,λh d w c R b=>Jp h R b,(Nl a).exn,(Nl a).cat⟩
end Go.Gx
end
