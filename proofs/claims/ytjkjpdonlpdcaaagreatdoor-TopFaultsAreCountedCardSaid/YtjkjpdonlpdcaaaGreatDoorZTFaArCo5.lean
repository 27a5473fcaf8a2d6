/- Models and proofs. Conditions: none. -/
import Derived.Test.YtjkjpdonlpdcaaaGreatDoorZTFaArCo2
import Derived.Test.YtjkjpdonlpdcaaaGreatDoorZTFaArCo4
set_option linter.unusedVariables false
set_option linter.unusedSimpArgs false
set_option maxHeartbeats 4000000
set_option maxRecDepth 20000
namespace Go.Proofs.YtjkjpdonlpdcaaaGreatDoor
open Go.Sx
def nV  (a:Unit):Option (Bool):=
 some (true)
def iG (d:aS) (a:Int×List (Bool)) (c:(Int×List (Bool))->Option (Bool)) (b:Bool):Option (Bool):=
 if b=true then(some (false))else(ck ((0<=(at' d a.1)∧(at' d a.1)<((256:Nat):Int))∧List.length a.2=256) (c ((wI .i64 (a.1+(1:Int))),(List.set a.2 (Int.toNat (at' d a.1)) true))))
def fS (b:aS) (a:Int×List (Bool)) (c:(Int×List (Bool))->Option (Bool)):Option (Bool):=
 if a.1<(List.length b:Int)then(ck (0<=a.1∧a.1<(List.length b:Int)) (if(at' b a.1)<(0:Int)then(iG b a c (true))else(if(255:Int)<(at' b a.1)then(iG b a c (true))else(ck ((0<=(at' b a.1)∧(at' b a.1)<((256:Nat):Int))∧List.length a.2=256) (iG b a c ((at' a.2 (at' b a.1))))))))else(nV  (()))
def jD (U:Nat) (a:aS):Option (Bool):=
 bP (fS a) U ((0:Int),(List.replicate 256 false))
theorem WX:aR Tryz.prog 120:=Tryz.call120
theorem Dd (U:Nat) {d:aS} (n:Value) (r:Bool) (h:jD U d=some r):
  aW Tryz.prog 120 #[n] [Sl bJ n d] (λx:Unit=>vB (r)) (λx l=>l) (λ_ l=>l):=by
 refine aW.of Tryz.func120 Z Tryz.ntmps120 Z λc=>?_;unfold jD at h;refine aP<|aC Z<|aN<|aP ?_;refine aH (aL.alloc (cs:=cellsOf EBo (List.replicate 256 false)) Z (by kernel_rfl)) Z λm=>?_;refine aN<|aM<|fF (λk=>nV  k=some r) (λk o=>[]) (λk o=>[]) ?_ ?_
 ·refine aP<|aA Z<|jS (aF.fact 0 Z) Z<|aA Z<|aN<|aT<|fJ (fS d) (λa p=>[(3,vP m),(6,n),(7,vI (List.length d:Int)),(8,vI (a.1))]) (λa p=>[bX m (cellsOf EBo a.2) 200]) ((0:Int),(List.replicate 256 false)) () h SF (bA.refl _) ?_;intro q a p h;refine aP<|cW Z<|aN<|aM ?_;refine dK h Z (λh=>?_) λh=>?_
  ·refine cT<|aM<|aT<|aP<|eH h λg h=>aD (bK Z Z (aF.fact 0 Z) Z Z g) Z<|aD (cQ Z (aF.fact 0 Z) Z Z Z fG g) Z<|aC Z<|aN<|aM<|aM<|fF (λb=>iG d a (bP (fS d) q) b=some r) (λb f=>[(3,vP m),(5,vI (at' d a.1)),(6,n),(7,vI (List.length d:Int)),(8,vI (a.1)),(22,vB (b))]) (λb f=>[bX m (cellsOf EBo a.2) 200]) ?_ ?_
   ·refine aQ<|aA Z<|cW Z<|aA Z ?_;refine CP h Z (λ_ h=>?_) λ_ h=>?_
    ·refine aI Z<|aI Z<|eR Z<|aA Z<|aI Z<|aI Z<|aI Z<|eR Z<|aN ?_;exact iP (true) () h SF Z
    refine eP Z<|aU Z (zO Z Z) Z<|eY Z<|aA Z ?_;refine CP h Z (λ_ h=>?_) λ_ h=>?_
    ·refine aI Z<|aI Z<|aI Z<|eR Z<|aN ?_;exact iP (true) () h SF Z
    refine eP Z<|eH h λj h=>aU Z (kQ Z Z Z Z Z j.1) Z<|aU Z (Gh (e:=EBo) Z (aF.res 0 Z) Z Z Z Z j) Z<|eY Z<|aN ?_;exact iP ((at' a.2 (at' d a.1))) () h SF Z
   intro b f h;refine BF h Z (λ_ h=>?_) λ_ h=>?_
   ·refine aP<|aC Z<|aN<|aV<|aK<|bS<|aK<|aK<|bS<|aK ?_;cases h;exact wD Z
   refine cT<|aQ<|aA Z<|eH h λi h=>aD (kQ Z Z Z Z Z i.1) Z<|Ep 0 (e:=EBo) true i Z Z Z Z Z Z Z<|eN<|oP<|aQ<|cJ Z<|aA Z<|aN ?_;exact AX ((wI .i64 (a.1+(1:Int))),(List.set a.2 (Int.toNat (at' d a.1)) true)) () h SF Z
  refine gX ?_;exact b_ () (()) h SF .nil (aE.refl _ _)
 intro k o h;unfold nV at h;refine aP<|aC Z<|aN<|aV ?_;cases h;exact lL Z
def uP (c:(List ((Int×Int)×Int))) (a:(Int×Int)×Int) (b:Option (Bool)):Option (Bool):=
 if(Option.getD (mT (a.1.2,a.1.1) c) (0:Int))≠a.2 then(some (false))else(b)
def iS  (a:(List ((Int×Int)×Int))):Option (Bool):=
 JM (uP a) (some (true)) a
def nD (b:Hw) (a:KI->Option (Bool)) (c:(List ((Int×Int)×Int))):Option (Bool):=
 a ((wI .i64 (b.1+(1:Int))),c)
def iU (e:fL) (b:Hw) (a:Hw) (c:KI->Option (Bool)) (d:Bool):Option (Bool):=
 if d=true then(some (false))else(if(Option.isSome (mT (b.1,((at' (at' e b.1) a.1).1)) a.2))=true then(some (false))else(c ((wI .i64 (a.1+(1:Int))),(BU (b.1,((at' (at' e b.1) a.1).1)) ((at' (at' e b.1) a.1).2) a.2))))
def gG (d:fL) (a:Hw) (b:Hw) (c:KI->Option (Bool)) (e:Bool):Option (Bool):=
 if e=true then(some (false))else(if((at' (at' d a.1) b.1).2)<(1:Int)then(iU d a b c (true))else(iU d a b c (decide ((15:Int)<((at' (at' d a.1) b.1).2)))))
def cB (d:fL) (a:Hw) (e:KI->Option (Bool)) (b:Hw) (c:KI->Option (Bool)):Option (Bool):=
 if b.1<(List.length (at' d a.1):Int)then(ck (0<=b.1∧b.1<(List.length (at' d a.1):Int)) (if((at' (at' d a.1) b.1).1)<(0:Int)then(gG d a b c (true))else(if(List.length d:Int)<=((at' (at' d a.1) b.1).1)then(gG d a b c (true))else(gG d a b c (decide (((at' (at' d a.1) b.1).1)=a.1))))))else(nD a e (b.2))
def cN (U:Nat) (c:fL) (a:Hw) (b:KI->Option (Bool)):Option (Bool):=
 if a.1<(List.length c:Int)then(ck (0<=a.1∧a.1<(List.length c:Int)) (bP (cB c a b) U ((0:Int),a.2)))else(iS  (a.2))
def fW (U:Nat) (a:fL):Option (Bool):=
 bP (cN U a) U ((0:Int),([]:List ((Int×Int)×Int)))
theorem WY:aR Tryz.prog 121:=Tryz.call121
theorem FP (U:Nat) {f:fL} (n:Value)  (F:mV) (r:Bool) (h:fW U f=some r):
  aW Tryz.prog 121 #[n] [S2 bG n F f] (λx:Unit=>vB (r)) (λx l=>l) (λ_ l=>l):=by
 refine aW.of Tryz.func121 Z Tryz.ntmps121 Z λc=>?_;unfold fW at h;refine aP<|aC Z<|aN<|aP<|aH (aL.makeMap nQ Oe) Z λk=>aC Z<|aN<|aM<|fF (λq=>iS  q=some r) (λq H=>[(3,Value.map (some k))]) (λq H=>[Mp nQ Oe k q]) ?_ ?_
 ·refine aP<|aA Z<|aD (kE Z (aF.fact 0 Z) Z) Z<|aA Z<|aN<|aT<|fJ (cN U f) (λd y=>[(0,n),(3,Value.map (some k)),(14,n),(15,vI (List.length f:Int)),(16,vI (d.1))]) (λd y=>[Mp nQ Oe k d.2]) ((0:Int),([]:List ((Int×Int)×Int))) () h SF (bA.refl _) ?_;intro t d y h;refine aP<|cW Z<|aN<|aM ?_;refine dK h Z (λh=>?_) λh=>?_
  ·refine cT<|aM<|fF (λm=>nD d (bP (cN U f) t) m=some r) (λm z=>[(0,n),(3,Value.map (some k)),(14,n),(15,vI (List.length f:Int)),(16,vI (d.1))]) (λm z=>[Mp nQ Oe k m]) ?_ ?_
   ·refine aT<|aP<|aA Z<|eH h λj h=>aD (cV Z Z (aF.fact 0 Z) Z Z j) Z<|aD (cX Z (aF.fact 0 Z) Z Z j) Z<|aC Z<|aC Z<|aN<|aP<|aA Z<|aD (kR Z (aF.el (aF.fact 0 Z) j.1 j.2) Z) Z<|aA Z<|aN<|aT<|fJ (cB f d (bP (cN U f) t)) (λe A=>[(0,n),(3,Value.map (some k)),(4,vI (d.1)),(14,n),(15,vI (List.length f:Int)),(16,vI (d.1)),(21,(at' F d.1).1),(22,vI (List.length (at' f d.1):Int)),(23,vI (e.1))]) (λe A=>[Mp nQ Oe k e.2]) ((0:Int),d.2) () h SF (bA.refl _) ?_;intro E e A h;refine aP<|cW Z<|aN<|aM ?_;refine dK h Z (λh=>?_) λh=>?_
    ·refine cT<|aM<|aT<|aP<|eH h λD h=>aD (bK Z Z (aF.el (aF.fact 0 Z) j.1 j.2) Z Z D) Z<|aD (g_ (cs:=[vI ((at' (at' f d.1) e.1).1),vI ((at' (at' f d.1) e.1).2)]) Z (aF.el (aF.fact 0 Z) j.1 j.2) bI Z Z Z Z D) Z<|aH (aL.alloc (cs:=Ti) Z Z) Z λs=>bO 0 (vs:=[vI ((at' (at' f d.1) e.1).1),vI ((at' (at' f d.1) e.1).2)]) Z Z Z Z Z Z<|aN<|aM<|aM<|fF (λo=>gG f d e (bP (cB f d (bP (cN U f) t)) E) o=some r) (λo B=>[(0,n),(3,Value.map (some k)),(4,vI (d.1)),(7,vP s),(14,n),(15,vI (List.length f:Int)),(16,vI (d.1)),(21,(at' F d.1).1),(22,vI (List.length (at' f d.1):Int)),(23,vI (e.1)),(42,vB (o))]) (λo B=>[bX s [vI ((at' (at' f d.1) e.1).1),vI ((at' (at' f d.1) e.1).2)] 97,Mp nQ Oe k e.2]) ?_ ?_
     ·refine aQ<|bV Z<|dO 0 Z<|cW Z<|aA Z ?_;refine CP h Z (λ_ h=>?_) λ_ h=>?_
      ·refine aI Z<|aI Z<|aI Z<|aI Z<|aI Z<|eR Z<|aA Z<|aI Z<|aI Z<|aI Z<|aI Z<|eR Z<|aN ?_;exact iP (true) () h SF Z
      refine aU Z (dM Z Z Z Z Z) Z<|aU Z (eS 0 Z Z Z Z Z) Z<|eP Z<|aU Z (kE Z (aF.fact 0 Z) Z) Z<|aU Z (Eb Z Z) Z<|eY Z<|aA Z ?_;refine CP h Z (λ_ h=>?_) λ_ h=>?_
      ·refine aI Z<|aI Z<|aI Z<|aI Z<|eR Z<|aN ?_;exact iP (true) () h SF Z
      refine aU Z (dM Z Z Z Z Z) Z<|aU Z (eS 0 Z Z Z Z Z) Z<|eP Z<|aU Z (Kc Z Z) Z<|eY Z<|aN ?_;exact iP (decide (((at' (at' f d.1) e.1).1)=d.1)) () h SF Z
     intro o B h;refine BF h Z (λ_ h=>?_) λ_ h=>?_
     ·refine aP<|aC Z<|aN<|aV<|aK<|bS<|aK<|aK<|bS<|bS<|aK<|aK<|bS<|aK ?_;cases h;exact wD Z
     refine cT<|aM<|aM<|fF (λp=>iU f d e (bP (cB f d (bP (cN U f) t)) E) p=some r) (λp C=>[(0,n),(3,Value.map (some k)),(4,vI (d.1)),(7,vP s),(14,n),(15,vI (List.length f:Int)),(16,vI (d.1)),(21,(at' F d.1).1),(22,vI (List.length (at' f d.1):Int)),(23,vI (e.1)),(50,vB (p))]) (λp C=>[bX s [vI ((at' (at' f d.1) e.1).1),vI ((at' (at' f d.1) e.1).2)] 97,Mp nQ Oe k e.2]) ?_ ?_
     ·refine aQ<|bV Z<|dO 0 Z<|cW Z<|aA Z ?_;refine CP h Z (λ_ h=>?_) λ_ h=>?_
      ·refine aI Z<|aI Z<|aI Z<|eR Z<|aN ?_;exact iP (true) () h SF Z
      refine aU Z (dM Z Z Z Z Z) Z<|aU Z (eS 0 Z Z Z Z Z) Z<|aU Z (zO Z Z) Z<|eY Z<|aN ?_;exact iP (decide ((15:Int)<((at' (at' f d.1) e.1).2))) () h SF Z
     intro p C h;refine BF h Z (λ_ h=>?_) λ_ h=>?_
     ·refine aP<|aC Z<|aN<|aV<|aK<|bS<|aK<|aK<|bS<|bS<|aK<|aK<|bS<|aK ?_;cases h;exact wD Z
     refine cT<|aP<|aA Z<|bV Z<|dO 0 Z ?_;refine aD (BC (r:=Value.agg #[vI (d.1),vI ((at' (at' f d.1) e.1).1)]) Z Z (by intro w;simp[Instr.build,Instr.fill,dV,cY,cM,dW,dX,cZ,eT])) Z ?_;refine aH (aL.alloc (cs:=Ti) Z Z) Z λK=>bO 0 (vs:=[vI (d.1),vI ((at' (at' f d.1) e.1).1)]) Z Z Z Z Z Z<|aN<|aM<|aP<|aA Z<|dC 0 Z ?_;refine aD (MU 2 ((d.1,((at' (at' f d.1) e.1).1))) (u:=vI (Option.getD (mT (d.1,((at' (at' f d.1) e.1).1)) e.2) (0:Int))) PC Z Z Z Z Z (by cases mT ((d.1,((at' (at' f d.1) e.1).1))) e.2<;>rfl)) Z ?_;refine aA Z<|gA Z<|gA Z<|aC Z<|aC Z<|aN<|aP<|aA Z<|aN ?_;refine BF h Z (λ_ h=>?_) λ_ h=>?_
     ·refine aP<|aC Z<|aN<|aV<|aK<|bS<|aK<|aK<|bS<|bS<|aK<|aK<|bS<|aK ?_;cases h;exact wD Z
     refine cT<|aQ<|aA Z<|dC 0 Z<|bV Z<|dO 1 Z<|Mt 2 ((d.1,((at' (at' f d.1) e.1).1))) ((at' (at' f d.1) e.1).2) PC Z Z Z Z Z<|eN<|oP<|aQ<|cJ Z<|aA Z<|aN ?_;exact mW ((wI .i64 (e.1+(1:Int))),(BU (d.1,((at' (at' f d.1) e.1).1)) ((at' (at' f d.1) e.1).2) e.2)) () h SF (bA.ix [2] Z Z) (aE.refl _ _)
    refine sW<|eZ<|eZ<|yR<|oP ?_;exact iP (e.2) () h SF Z
   intro m z h;unfold nD at h;refine aQ<|cJ Z<|aA Z<|aN ?_;exact AX ((wI .i64 (d.1+(1:Int))),m) () h SF Z
  refine gX ?_;exact iP (d.2) () h SF Z
 intro q H h;unfold iS at h;refine aM<|aP<|aA Z<|aH (aL.range 0 Z Z Z) Z λI=>aN<|aT<|WA [(3,Value.map (some k)),(69,vP I)] [It I k (List.length q) ([]),Mp nQ Oe k q] [S2 bG n F f] SF (bA.refl _) (aE.refl _ _) ?_;refine RX (uP q) 1 0 (by intro a b x;unfold uP;repeat' split;all_goals first|rfl|contradiction|simp_all) h Z Z Z Z Z Z ?_ ?_
 ·skip
  intro g N G M v h;refine aT<|aP<|aH (aL.entry 1 0 v Z Z Z) Z λL=>gA Z<|gA Z<|aH (aL.alloc (cs:=Ti) Z Z) Z λJ=>bO 0 (vs:=[vI (g.1.1),vI (g.1.2)]) Z Z Z Z Z Z<|aC Z<|aN<|aP<|aA Z ?_;refine aD (kQ (i:=1) Z Z Z Z Z (by decide)) Z ?_;refine dO 0 Z ?_;refine aD (kQ (i:=0) Z Z Z Z Z (by decide)) Z ?_;refine dO 0 Z ?_;refine aD (BC (r:=Value.agg #[vI (g.1.2),vI (g.1.1)]) Z Z (by intro w;simp[Instr.build,Instr.fill,dV,cY,cM,dW,dX,cZ,eT])) Z ?_;refine aD (MU 2 ((g.1.2,g.1.1)) (u:=vI (Option.getD (mT (g.1.2,g.1.1) q) (0:Int))) PC Z Z Z Z Z (by cases mT ((g.1.2,g.1.1)) q<;>rfl)) Z ?_;refine aA Z<|p_ Z<|aN ?_;refine dK h Z (λh=>?_) λh=>?_
  ·refine aP<|aC Z<|aN<|aV<|bS<|aK<|bS<|aK ?_;cases h;exact wD Z
  refine dR<|oP ?_;exact OC h SF (bA.ix [1,2] Z Z) (aE.refl _ _)
 intro G h;refine yR<|Aq<|aP<|aC Z<|aN<|aV ?_;cases h;exact wD Z
def pU  (a:Bool):Option (Bool):=
 some (a)
def pT (U:Nat) (b:dJ) (c:Bool):Option (Bool):=
 if c=true then(some (false))else(Option.bind (jD U b.1) λd=>(if d=true then(Option.bind (fW U b.2) λa=>(pU  (a)))else(pU  (false))))
def eC (U:Nat) (a:dJ):Option (Bool):=
 if(List.length a.1:Int)<(1:Int)then(pT U a (true))else(if(24:Int)<(List.length a.1:Int)then(pT U a (true))else(pT U a (decide ((List.length a.2:Int)≠(List.length a.1:Int)))))
theorem Iy:aR Tryz.prog 50:=Tryz.call50
theorem tP (U:Nat) {p0:dJ} (f:Value)  (g:Value)  (o:mV) (r:Bool) (h:eC U p0=some r):
  aW Tryz.prog 50 #[Value.agg #[f,g]] [Sl bJ f p0.1,S2 bG g o p0.2] (λx:Unit=>vB (r)) (λx l=>l) (λ_ l=>l):=by
 refine aW.of Tryz.func50 Z Tryz.ntmps50 Z λc=>?_;refine aP<|aH (aL.box (cs:=[f,g]) Z Z) Z λk=>aC Z<|aN<|aP<|bV Z<|dO 0 Z<|jS (aF.fact 0 Z) Z<|aC Z<|aN<|aM<|aM<|fF (λb=>pT U p0 b=some r) (λb m=>[(1,vP k),(19,vB (b))]) (λb m=>[bX k [f,g] 27]) ?_ ?_
 ·refine aQ<|aA Z<|cW Z<|aA Z ?_;refine CP h Z (λ_ h=>?_) λ_ h=>?_
  ·refine aI Z<|aI Z<|eR Z<|aA Z<|aI Z<|aI Z<|aI Z<|aI Z<|aI Z<|eR Z<|aN ?_;exact iP (true) () h SF Z
  refine eP Z<|aU Z (zO Z Z) Z<|eY Z<|aA Z ?_;refine CP h Z (λ_ h=>?_) λ_ h=>?_
  ·refine aI Z<|aI Z<|aI Z<|aI Z<|aI Z<|eR Z<|aN ?_;exact iP (true) () h SF Z
  refine aU Z (dM Z Z Z Z Z) Z<|aU Z (eS 0 Z Z Z Z Z) Z<|aU Z (kE Z (aF.fact 1 Z) Z) Z<|eP Z<|aU Z (Kd Z Z) Z<|eY Z<|aN ?_;exact iP (decide ((List.length p0.2:Int)≠(List.length p0.1:Int))) () h SF Z
 intro b m h;refine BF h Z (λ_ h=>?_) λ_ h=>?_
 ·refine aP<|aC Z<|aN<|aV<|aK ?_;cases h;exact wD Z
 refine cT<|aM<|fF (λd=>pU  d=some r) (λd n=>[(2,vB (d))]) (λd n=>[]) ?_ ?_
 ·refine aQ<|bV Z<|dO 0 Z<|fE h λp i h=>aH (aL.callQ WX (Dd U f p i) Z (mK [0] Z)) Z λq=>aA Z ?_;refine Ap (by exact rfl) (by exact rfl) (λa=>?_) (λa=>?_)
  ·have h:=Pu a h;refine aU Z (dM Z Z Z Z Z) Z<|aU Z (eS 0 Z Z Z Z Z) Z<|fE h λe j h=>rE Z (aL.callQ WY (FP U g o e j) Z (mK [1] Z)) Z λs=>eR Z<|aC Z<|aN ?_;exact b_ (e) () h SF .nil (aE.refl _ _)
  have h:=JJ a h;refine aI Z<|aI Z<|aI Z<|eY Z<|aC Z<|aN ?_;exact b_ (false) () h SF .nil (aE.refl _ _)
 intro d n h;unfold pU at h;refine aV ?_;cases h;exact lL Z
def qS  (a:Int):Option (Int):=
 some (a)
def fK (U:Nat) (b:Int) (a:Int):Option (Int):=
 if a<(1:Int)then(some (0:Int))else(ck (a≠0) (if(Int.tmod b a)<(0:Int)then(qS  (wI .i64 ((Int.tmod b a)+a)))else(qS  (Int.tmod b a))))
theorem BE:aR Tryz.prog 15:=Tryz.call15
theorem jT (U:Nat) {d:Int} {b:Int} (r:Int) (h:fK U d b=some r):
  aW Tryz.prog 15 #[vI (d),vI (b)] [] (λx:Unit=>vI (r)) (λx l=>l) (λ_ l=>l):=by
 refine aW.of Tryz.func15 Z Tryz.ntmps15 Z λc=>?_;refine aP<|aC Z<|aN<|aM<|aP<|aA Z<|cW Z<|aN ?_;refine dK h Z (λh=>?_) λh=>?_
 ·refine aP<|aC Z<|aN<|aV<|aK ?_;cases h;exact lL Z
 refine cT<|aP<|aA Z<|aA Z<|eH h λf h=>aD (MV Z Z f) Z<|aC Z<|aN<|aM<|fF (λa=>qS  a=some r) (λa e=>[(0,vI (a))]) (λa e=>[]) ?_ ?_
 ·refine aP<|aA Z<|cW Z<|aN ?_;refine dK h Z (λh=>?_) λh=>?_
  ·refine aQ<|aA Z<|aA Z<|cJ Z<|aC Z<|aN ?_;exact iP (wI .i64 ((Int.tmod d b)+b)) () h SF Z
  refine cT ?_;exact iP (Int.tmod d b) () h SF Z
 intro a e h;unfold qS at h;refine aP<|aA Z<|aC Z<|aN<|aV ?_;cases h;exact lL Z
def rZ (U:Nat) (b:aS) (a:Int):Option (Int):=
 if a<(List.length b:Int)then(ck (0<=a∧a<(List.length b:Int)) (some (at' b a)))else(some (0:Int))
theorem Ix:aR Tryz.prog 32:=Tryz.call32
theorem Af (U:Nat) {b:aS} {d:Int} (e:Value) (r:Int) (h:rZ U b d=some r):
  aW Tryz.prog 32 #[e,vI (d)] [Sl bJ e b] (λx:Unit=>vI (r)) (λx l=>l) (λ_ l=>l):=by
 refine aW.of Tryz.func32 Z Tryz.ntmps32 Z λc=>?_;refine aP<|aC Z<|aN<|aM<|aP<|aA Z<|aA Z<|jS (aF.fact 0 Z) Z<|cW Z<|aN ?_;refine dK h Z (λh=>?_) λh=>?_
 ·refine aP<|aA Z<|aA Z<|eH h λa h=>aD (bK Z Z (aF.fact 0 Z) Z Z a) Z<|aD (cQ Z (aF.fact 0 Z) Z Z Z fG a) Z<|aC Z<|aN<|aV<|aK ?_;cases h;exact lL Z
 refine cT<|aP<|aC Z<|aN<|aV ?_;cases h;exact lL Z
def oI (b:Int) (a:aS):Option sB:=
 some ((a,(List.replicate (Int.toNat (wI .i64 ((1:Int)+b))) ([]:fD))))
def rU (a:Aj) (c:(Int×aS)->Option sB) (b:Int):Option sB:=
 ck ((List.length a.2:Int)+(List.length ([b]):Int)<=1099511627) (c ((wI .i64 (a.1+(1:Int))),(a.2++[b])))
def k_ (b:dY->Option sB) (a:dQ):Option sB:=
 b (a.1,(wI .i64 (a.2+(1:Int))))
def lA (b:Aj) (d:(Int×aS)->Option sB) (a:dQ) (c:dY->Option sB):Option sB:=
 if a.2<b.1 then(ck (0<=a.2∧a.2<(List.length b.2:Int)) (if(at' b.2 a.2)=a.1 then(ck ((256:Int)≠0) (k_ c ((Int.tmod (wI .i64 (a.1+(1:Int))) (256:Int)),(-1:Int))))else(k_ c (a.1,a.2))))else(rU b d (a.1))
def iZ (U:Nat) (f:AU) (e:Int) (a:Aj) (b:(Int×aS)->Option sB):Option sB:=
 if a.1<(wI .i64 ((1:Int)+e))then(Option.bind (rZ U f.2.2.2.1 a.1) λc=>(Option.bind (fK U c (256:Int)) λd=>(bP (lA a b) U (d,(0:Int)))))else(oI e (a.2))
def mE (U:Nat) (b:AU) (c:Int):Option sB:=
 Option.bind (fK U (wI .i64 (b.1 - (1:Int))) c) λa=>(ck (0<=(wI .i64 ((1:Int)+a))∧(wI .i64 ((1:Int)+a))<=1099511627) (bP (iZ U b a) U ((0:Int),([]:aS))))
theorem Ul:aR Tryz.prog 55:=Tryz.call55
theorem yS (U:Nat) {d:AU} {S:Int} (y:Value)  (z:Value)  (u:Value) (r:yD) (h:mE U d S=some r):
  aW Tryz.prog 55 #[Value.agg #[vI (d.1),y,z,u,vB (d.2.2.2.2.1),vB (d.2.2.2.2.2)],vI (S)] [Sl bJ y d.2.1,Sl bJ z d.2.2.1,Sl bJ u d.2.2.2.1] (λx:Oa=>Value.agg #[x.1,x.2.1]) (λx l=>Ar cI x.1 r.1::Ar dD.raw x.2.1 x.2.2::jH bU x.2.2 r.2::l) (λ_ l=>l):=by
 refine aW.of Tryz.func55 Z Tryz.ntmps55 Z λc=>?_;refine aP<|aH (aL.box (cs:=[vI (d.1),y,z,u,vB (d.2.2.2.2.1),vB (d.2.2.2.2.2)]) Z Z) Z λt=>aH (aL.alloc (cs:=[lX,lX]) Z Z) Z λq=>aN<|aP<|bV Z<|dO 1 Z<|aD (q_ Z Z) Z<|aA Z<|fE h λb W h=>aH (aL.callQ BE (jT U  b W) Z .nil) Z λx5=>cJ Z<|aC Z<|aN<|aP<|aA Z<|eH h λT h=>jK (xT bU (Int.toNat (wI .i64 ((1:Int)+b))))<|aH (wP (e:=dD.raw) (lX) Z Z Z Z T Z Z Z) Z λn=>bZ (Know.one (aF.sl (aX (i:=0) (j:=1) Z Z bI))) λK=>?_;refine aD (TQ (r:=Value.agg #[lX,n]) Z (by intro w;simp[Instr.build,Instr.fill,dV,cY,cM,dW,dX,cZ,eT,kA K])) Z ?_;refine aH (aL.alloc (cs:=[lX,lX]) Z Z) Z λs=>bZ (Know.one (aF.sl (aX (i:=1) (j:=2) Z Z bI))) λE=>bO 0 (vs:=[lX,n]) Z Z (cG Z (cG E Z)) Z Z Z<|aN<|aM<|EF (B:=Value) (λp=>oI b p=some r) (λp o=>[(4,vP q),(6,vP s)]) (λp o=>[bX s [o,n] 27,Ar dD.raw n (List.replicate (Int.toNat (wI .i64 ((1:Int)+b))) (lX)),jH bU (List.replicate (Int.toNat (wI .i64 ((1:Int)+b))) (lX)) (List.replicate (Int.toNat (wI .i64 ((1:Int)+b))) ([]:fD)),bX q [lX,lX] 27,Ar cI o p]) ?_ ?_
 ·refine aP<|aC Z<|aN<|aT<|jK (iD cI)<|fJ (B:=Value) (iZ U d b) (λa f=>[(2,vP t),(4,vP q),(5,vI (wI .i64 ((1:Int)+b))),(6,vP s),(7,vI (a.1))]) (λa f=>[bX s [f,n] 27,Ar dD.raw n (List.replicate (Int.toNat (wI .i64 ((1:Int)+b))) (lX)),jH bU (List.replicate (Int.toNat (wI .i64 ((1:Int)+b))) (lX)) (List.replicate (Int.toNat (wI .i64 ((1:Int)+b))) ([]:fD)),bX q [lX,lX] 27,bX t [vI (d.1),y,z,u,vB (d.2.2.2.2.1),vB (d.2.2.2.2.2)] 24,Ar cI f a.2]) ((0:Int),([]:aS)) (lX) h SF (bA.ix [1,2,3,4,5,0] Z Z) ?_;intro v a f h;refine aM<|aP<|aA Z<|aA Z<|cW Z<|aN ?_;refine dK h Z (λh=>?_) λh=>?_
  ·refine cT<|aM<|aT<|aP<|bV Z<|dO 4 Z<|aA Z<|fE h λO Q h=>aH (aL.callQ Ix (Af U u O Q) Z (mK [2] Z)) Z λX=>fE h λJ R h=>aH (aL.callQ BE (jT U  J R) Z .nil) Z λY=>aC Z<|aN<|aM<|fF (λg=>rU a (bP (iZ U d b) v) g=some r) (λg A=>[(2,vP t),(4,vP q),(5,vI (wI .i64 ((1:Int)+b))),(6,vP s),(7,vI (a.1)),(8,vI (g))]) (λg A=>[bX s [f,n] 27,Ar dD.raw n (List.replicate (Int.toNat (wI .i64 ((1:Int)+b))) (lX)),jH bU (List.replicate (Int.toNat (wI .i64 ((1:Int)+b))) (lX)) (List.replicate (Int.toNat (wI .i64 ((1:Int)+b))) ([]:fD)),bX q [lX,lX] 27,bX t [vI (d.1),y,z,u,vB (d.2.2.2.2.1),vB (d.2.2.2.2.2)] 24,Ar cI f a.2]) ?_ ?_
   ·refine aP<|aC Z<|aN<|aT<|fJ (lA a (bP (iZ U d b) v)) (λk C=>[(2,vP t),(4,vP q),(5,vI (wI .i64 ((1:Int)+b))),(6,vP s),(7,vI (a.1)),(8,vI (k.1)),(9,vI (k.2))]) (λk C=>[bX s [f,n] 27,Ar dD.raw n (List.replicate (Int.toNat (wI .i64 ((1:Int)+b))) (lX)),jH bU (List.replicate (Int.toNat (wI .i64 ((1:Int)+b))) (lX)) (List.replicate (Int.toNat (wI .i64 ((1:Int)+b))) ([]:fD)),bX q [lX,lX] 27,bX t [vI (d.1),y,z,u,vB (d.2.2.2.2.1),vB (d.2.2.2.2.2)] 24,Ar cI f a.2]) (J,(0:Int)) () h SF (bA.refl _) ?_;intro N k C h;refine aM<|aP<|aA Z<|aA Z<|cW Z<|aN ?_;refine dK h Z (λh=>?_) λh=>?_
    ·refine cT<|aM<|fF (λm=>k_ (bP (lA a (bP (iZ U d b) v)) N) m=some r) (λm D=>[(2,vP t),(4,vP q),(5,vI (wI .i64 ((1:Int)+b))),(6,vP s),(7,vI (a.1)),(8,vI (m.1)),(9,vI (m.2))]) (λm D=>[bX s [f,n] 27,Ar dD.raw n (List.replicate (Int.toNat (wI .i64 ((1:Int)+b))) (lX)),jH bU (List.replicate (Int.toNat (wI .i64 ((1:Int)+b))) (lX)) (List.replicate (Int.toNat (wI .i64 ((1:Int)+b))) ([]:fD)),bX q [lX,lX] 27,bX t [vI (d.1),y,z,u,vB (d.2.2.2.2.1),vB (d.2.2.2.2.2)] 24,Ar cI f a.2]) ?_ ?_
     ·refine aT<|aP<|bV Z<|dO 0 Z<|aA Z<|eH h λI h=>aD (bK Z Z (a_ (aF.res 5 Z) dL) Z Z I) Z<|aD (cQ Z (a_ (aF.res 5 Z) dL) Z Z Z fG I) Z<|aA Z<|bR Z<|aN ?_;refine dK h Z (λh=>?_) λh=>?_
      ·refine aQ<|aA Z<|cJ Z<|eH h λM h=>aD (MV Z Z M) Z<|aC Z<|aC Z<|eN<|oP ?_;exact iP ((Int.tmod (wI .i64 (k.1+(1:Int))) (256:Int)),(-1:Int)) () h SF Z
      refine dR<|oP ?_;exact iP (k.1,k.2) () h SF Z
     intro m D h;unfold k_ at h;refine aQ<|aA Z<|cJ Z<|aC Z<|aN ?_;exact AX (m.1,(wI .i64 (m.2+(1:Int)))) () h SF Z
    refine gX ?_;exact iP (k.1) () h SF Z
   intro g A h;refine aQ<|bV Z<|dO 0 Z<|aA Z<|aH (cP (e:=cI) ([g]) [(0,vI (g))] Z Z Z Z (qL (vI (g)) Z) Z Z Z) Z λV=>eH h λL h=>aH (iL 6 dL Z Z Z (a_ (aF.res 0 Z) dL) Z Z Z Z L Z) Z λP=>bV Z<|bZ (Know.one ((a_ (aF.res 6 Z) dL))) λH=>iV 1 Z Z H Z Z Z<|eN<|oP<|aQ<|aA Z<|cJ Z<|aC Z<|aN ?_;exact mW ((wI .i64 (a.1+(1:Int))),(a.2++[g])) (P) h SF (bA.ix [1,2,3,4,5,6] Z Z) (aE.refl _ _)
  refine gX ?_;exact b_ (a.2) (f) h SF (bA.ix [0,1,2,3,5] Z Z) (aE.refl _ _)
 intro p o h;unfold oI at h;refine aP<|dC 0 Z<|bZ (Know.one ((a_ (aF.res 4 Z) dL))) λF=>bZ (Know.one (aF.sl (aX (i:=1) (j:=2) Z Z bI))) λG=>bO 3 (vs:=[o,n]) Z Z (cG F (cG G Z)) Z Z Z<|aN<|aV ?_;cases h;exact jE (o,n,(List.replicate (Int.toNat (wI .i64 ((1:Int)+b))) (lX))) Z Z (RV.cell 3 Z Z Z Z) (bA.ix [4,1,2] Z Z) aE.nil
def uL  (a:Unit):Option (Bool):=
 some (false)
def yQ (c:dJ) (a:Int) (e:Int) (b:Int) (d:(Int)->Option (Bool)):Option (Bool):=
 ck (0<=a∧a<(List.length c.2:Int)) (if b<(List.length (at' c.2 a):Int)then(ck (0<=a∧a<(List.length c.2:Int)) (ck (0<=b∧b<(List.length (at' c.2 a):Int)) (if((at' (at' c.2 a) b).1)=e then(some (true))else(d (wI .i64 (b+(1:Int)))))))else(uL  (())))
def nM (U:Nat) (a:dJ) (b:Int) (c:Int):Option (Bool):=
 bP (yQ a b c) U (0:Int)
theorem Xh:aR Tryz.prog 163:=Tryz.call163
theorem Jt (U:Nat) {g:dJ} {i:Int} {j:Int} (k:Value)  (m:Value)  (q:mV) (r:Bool) (h:nM U g i j=some r):
  aW Tryz.prog 163 #[Value.agg #[k,m],vI (i),vI (j)] [Sl bJ k g.1,S2 bG m q g.2] (λx:Unit=>vB (r)) (λx l=>l) (λ_ l=>l):=by
 refine aW.of Tryz.func163 Z Tryz.ntmps163 Z λc=>?_;unfold nM at h;refine aP<|aH (aL.box (cs:=[k,m]) Z Z) Z λn=>aC Z<|aN<|aM<|fF (λd=>uL  d=some r) (λd o=>[]) (λd o=>[]) ?_ ?_
 ·refine aP<|aC Z<|aN<|aT<|fJ (yQ g i j) (λe p=>[(1,vI (i)),(2,vI (j)),(3,vP n),(7,vI (e))]) (λe p=>[bX n [k,m] 27]) (0:Int) () h SF (bA.refl _) ?_;intro s e p h;refine aM<|aP<|aA Z<|bV Z<|dO 0 Z<|aA Z<|eH h λf h=>aD (cV Z Z (aF.fact 1 Z) Z Z f) Z<|aD (cX Z (aF.fact 1 Z) Z Z f) Z<|aD (kR Z (aF.el (aF.fact 1 Z) f.1 f.2) Z) Z<|cW Z<|aN ?_;refine dK h Z (λh=>?_) λh=>?_
  ·refine cT<|aM<|aT<|aP<|bV Z<|dO 0 Z<|aA Z<|eH h λa h=>aD (cV Z Z (aF.fact 1 Z) Z Z a) Z<|aD (cX Z (aF.fact 1 Z) Z Z a) Z<|aA Z<|eH h λb h=>aD (bK Z Z (aF.el (aF.fact 1 Z) a.1 a.2) Z Z b) Z<|aD (lO Z Z Z Z Z) Z<|aD (oH Z (aF.el (aF.fact 1 Z) a.1 a.2) Z Z Z Bz b) Z<|aA Z<|bR Z<|aN ?_;refine dK h Z (λh=>?_) λh=>?_
   ·refine aP<|aC Z<|aN<|aV<|bS<|aK<|aK<|bS<|aK ?_;cases h;exact wD Z
   refine dR<|oP<|aQ<|aA Z<|cJ Z<|aC Z<|aN ?_;exact AX (wI .i64 (e+(1:Int))) () h SF Z
  refine gX ?_;exact b_ () (()) h SF .nil (aE.refl _ _)
 intro d o h;unfold uL at h;refine aP<|aC Z<|aN<|aV ?_;cases h;exact lL Z
def pD (f:AU) (c:dJ) (a:Int) (b:Int) (d:Int) (e:Bool):Option (fL):=
 if e=true then(some (c.2))else(if f.2.2.2.2.2=true then(ck (0<=a∧a<(List.length c.2:Int)) (ck ((List.length ([(b,d)]):Int)+(List.length (at' c.2 a):Int)<=1099511627) (ck (0<=a∧a<(List.length c.2:Int)) (ck (0<=b∧b<(List.length (List.set c.2 (Int.toNat a) (([(b,d)])++(at' c.2 a))):Int)) (ck ((List.length ([(a,d)]):Int)+(List.length (at' (List.set c.2 (Int.toNat a) (([(b,d)])++(at' c.2 a))) b):Int)<=1099511627) (ck (0<=b∧b<(List.length (List.set c.2 (Int.toNat a) (([(b,d)])++(at' c.2 a))):Int)) (some (List.set (List.set c.2 (Int.toNat a) (([(b,d)])++(at' c.2 a))) (Int.toNat b) (([(a,d)])++(at' (List.set c.2 (Int.toNat a) (([(b,d)])++(at' c.2 a))) b))))))))))else(ck (0<=a∧a<(List.length c.2:Int)) (ck (0<=b∧b<(List.length c.2:Int)) (ck ((List.length (at' c.2 a):Int)+(List.length ([(b,d)]):Int)<=1099511627) (ck ((List.length (at' c.2 b):Int)+(List.length ([(a,d)]):Int)<=1099511627) (ck (Int.toNat a≠Int.toNat b) (ck (0<=a∧a<(List.length (List.set (List.set c.2 (Int.toNat a) ((at' c.2 a)++([(b,d)]))) (Int.toNat b) ((at' c.2 b)++([(a,d)]))):Int)) (ck (0<=b∧b<(List.length (List.set (List.set c.2 (Int.toNat a) ((at' c.2 a)++([(b,d)]))) (Int.toNat b) ((at' c.2 b)++([(a,d)]))):Int)) (some (List.set (List.set c.2 (Int.toNat a) ((at' c.2 a)++([(b,d)]))) (Int.toNat b) ((at' c.2 b)++([(a,d)]))))))))))))
def nH (U:Nat) (e:AU) (a:dJ) (b:Int) (c:Int) (f:Int):Option (fL):=
 if b=c then(pD e a b c f (true))else(Option.bind (nM U ((a.1,a.2)) b c) λd=>(pD e a b c f (d)))
theorem Qn:aR Tryz.prog 101:=Tryz.call101
theorem Aa (U:Nat) {s:AU} {G:dJ} {f:Int} {g:Int} {d:Int} (J:Value)  (K:Value)  (L:Value)  (H:Value)  (C:Value)  (A:gQ) (r:fL) (h:nH U s G f g d=some r):
  Er Tryz.prog 101 #[Value.agg #[vI (s.1),J,K,L,vB (s.2.2.2.2.1),vB (s.2.2.2.2.2)],Value.agg #[H,C],vI (f),vI (g),vI (d)] [Ar dD.raw C A,jH bU A G.2] [Sl bJ J s.2.1,Sl bJ K s.2.2.1,Sl bJ L s.2.2.2.1,Sl bJ H G.1] (λx:gQ=>Value.tuple #[]) (λx l=>Ar dD.raw C x::jH bU x r::l):=by
 refine Er.of (vs:=[Value.agg #[vI (s.1),J,K,L,vB (s.2.2.2.2.1),vB (s.2.2.2.2.2)],Value.agg #[H,C],vI (f),vI (g),vI (d)]) Tryz.func101 Z Tryz.ntmps101 Z λc=>?_;refine aP<|aH (aL.box (cs:=[vI (s.1),J,K,L,vB (s.2.2.2.2.1),vB (s.2.2.2.2.2)]) Z Z) Z λb1=>aH (aL.box (cs:=[H,C]) Z Z) Z λb2=>aN<|aM<|aM<|sX (B:=Unit) (λI=>pD s G f g d I=some r) (λI b5=>[(2,vI (f)),(3,vI (g)),(4,vI (d)),(5,vP b1),(6,vP b2),(20,vB (I))]) (λI b5=>[bX b2 [H,C] 27,bX b1 [vI (s.1),J,K,L,vB (s.2.2.2.2.1),vB (s.2.2.2.2.2)] 24,Ar dD.raw C A,jH bU A G.2]) (λI b5=>[Sl bJ J s.2.1,Sl bJ K s.2.2.1,Sl bJ L s.2.2.2.1,Sl bJ H G.1]) ?_ ?_
 ·refine aQ<|aA Z<|aA Z<|bR Z<|aA Z ?_;refine CP h Z (λ_ h=>?_) λ_ h=>?_
  ·refine aI Z<|aI Z<|aI Z<|aI Z<|eR Z<|aN ?_;exact iP (true) () h SF Z
  refine aU Z (jL 0 Z Z Z Z) Z<|eP Z<|eP Z<|fE h λav au h=>rE Z (aL.callQ Xh (Jt U H C (List.zip A G.2) av au) Z (aE.cons (aF.fact 3 Z) (aE.cons (aX (i:=2) (j:=3) Z Z bI) .nil))) Z λa9=>eY Z<|aN ?_;exact iP (av) () h SF Z
 intro I b5 h;refine BF h Z (λ_ h=>?_) λ_ h=>?_
 ·refine aV<|aK ?_;cases h;exact Do (A) Z Z .ret (.inl Z) (bA.ix [2,3] Z Z) aE.nil
 refine cT<|aP<|aA Z<|aA Z ?_;refine aD (BC (r:=Value.agg #[vI (g),vI (d)]) Z Z (by intro w;simp[Instr.build,Instr.fill,dV,cY,cM,dW,dX,cZ,eT])) Z ?_;refine aA Z<|aA Z ?_;refine aD (BC (r:=Value.agg #[vI (f),vI (d)]) Z Z (by intro w;simp[Instr.build,Instr.fill,dV,cY,cM,dW,dX,cZ,eT])) Z ?_;refine aH (aL.alloc (cs:=Ti) Z Z) Z λb7=>aH (aL.alloc (cs:=Ti) Z Z) Z λb8=>bO 1 (vs:=[vI (g),vI (d)]) Z Z Z Z Z Z<|bO 0 (vs:=[vI (f),vI (d)]) Z Z Z Z Z Z<|aN<|aM<|aP<|bV Z<|dO 3 Z<|aN ?_;refine BF h Z (λ_ h=>?_) λ_ h=>?_
 ·refine aM ?_;refine JR.start [0,1,0,0,8,0,32,0,224,480,1016,2047,4095] 11 mixedOrders (by decide +kernel) ?_;refine JR.open (by exact rfl) ?_;refine cH Z<|gU 2 Z<|bD Z<|fP 1 Z<|JR.loud Z Z Z (cP (e:=bU) ([((g,d))]) [(0,Value.agg #[vI (g),vI (d)])] Z Z Z Z (xW (vI (g)) (vI (d))) Z Z Z) Z (λaT=>(mP [([3],[])] Z)) λaT=>iB Z (dM Z Z Z Z Z)<|bL Z (bA.cons 3 Z .nil) .nil (eS 0 Z Z Z Z Z) (aO.h (bA.ix [2] Z Z) .nil aO.z)<|iB Z (gR Z)<|eH h λu h=>cA (cO 6 Z) λM=>?_;refine bL Z (bA.cons 5 Z .nil) .nil (iW 0 Z Z Z Z Z u.1 (by have m:=u.2;have n:=M;(try simp only[List.length_set]at m);(try simp only[List.length_set]at n);(try simp only[List.length_set]);omega)) (aO.h (bA.ix [4] Z Z) .nil aO.z) ?_;refine cA (cO 6 Z) λN=>bL Z (bA.cons 5 Z .nil) .nil (lP 0 Z Z N Z Z u) (aO.h (bA.ix [4] Z Z) .nil aO.z)<|eH h λaR h=>JR.loud Z Z Z (iL 0 bI Z Z Z (aF.row (j:=6) Z bI u.1 u.2) Z Z Z Z aR Z) Z (λaw=>(mP [([3],[])] Z)) λaw=>bQ 11 Z Z<|eH h λv h=>aD (cV Z Z (aX (i:=5) (j:=6) Z Z bI) Z Z v) Z<|bZ (Know.one ((a_ (aF.res 0 Z) bI))) λak=>jK (wR (k:=f) 6 0 Z Z Z v) ?_;refine qE 4 5 ⟨v.1,by first|exact v.2|simpa using v.2⟩ Z Z Z Z Z (by simp) ak Z ?_;refine aN<|aM ?_;refine JR.start [0,1,0,0,8,0,32,0,224,480,1016,2047,4095] 11 mixedOrders (by decide +kernel) ?_;refine JR.open (by exact rfl) ?_;refine cH Z<|gU 2 Z<|bD Z<|fP 0 Z<|JR.loud Z Z Z (cP (e:=bU) ([((f,d))]) [(0,Value.agg #[vI (f),vI (d)])] Z Z Z Z (xW (vI (f)) (vI (d))) Z Z Z) Z (λaW=>(mP [([3],[])] Z)) λaW=>iB Z (dM Z Z Z Z Z)<|bL Z (bA.cons 3 Z .nil) .nil (eS 0 Z Z Z Z Z) (aO.h (bA.ix [2] Z Z) .nil aO.z)<|iB Z (gR Z)<|eH h λt h=>cA (cO 6 Z) λO=>?_;refine bL Z (bA.cons 5 Z .nil) .nil (iW 0 Z Z Z Z Z t.1 (by have m:=t.2;have n:=O;(try simp only[List.length_set]at m);(try simp only[List.length_set]at n);(try simp only[List.length_set]);omega)) (aO.h (bA.ix [4] Z Z) .nil aO.z) ?_;refine cA (cO 6 Z) λP=>bL Z (bA.cons 5 Z .nil) .nil (lP 0 Z Z P Z Z t) (aO.h (bA.ix [4] Z Z) .nil aO.z)<|eH h λaS h=>JR.loud Z Z Z (iL 0 bI Z Z Z (aF.row (j:=6) Z bI t.1 (by first|exact t.2|simpa using t.2)) Z Z Z Z aS Z) Z (λax=>(mP [([3],[])] Z)) λax=>?_;refine bQ 11 Z Z<|eH h λy h=>aD (cV Z Z (aX (i:=5) (j:=6) Z Z bI) Z Z y) Z<|bZ (Know.one ((a_ (aF.res 0 Z) bI))) λal=>jK (wR (k:=g) 6 0 Z Z Z y) ?_;refine qE 4 5 ⟨y.1,by first|exact y.2|simpa using y.2⟩ Z Z Z Z Z (by simp) al Z ?_;refine aN<|aV<|aK ?_;cases h;exact Do (List.set (List.set A (Int.toNat f) aw) (Int.toNat g) ax) Z Z .ret (.inl Z) (bA.ix [4,5] Z Z) aE.nil
 refine cT<|eH h λp h=>eH h λq h=>eH h λD h=>eH h λE h=>eH h λF h=>eH h λa h=>eH h λb h=>Gd [0,1,0,0,8,0,0,64,0,448,960,0,2048,8128,0,16384,0,114688,245760,0,524288,2097088,4194247,8388551,16777215,33554431] 24 [[0,1,2,3,4,5,6,7,8,9,10,11,14,15,16,17,18,19,12,13,20,21,22,23,24,25],[0,1,2,3,4,5,6,7,8,9,10,11,14,15,16,17,18,19,12,20,13,21,22,23,24,25],[0,1,2,3,4,5,6,7,8,9,10,11,14,15,16,17,18,19,20,12,13,21,22,23,24,25]] mixedOrders (by decide +kernel) (by decide +kernel) ?_;intro o ho;simp only[List.mem_cons,List.not_mem_nil,or_false]at ho;rcases ho with rfl|rfl|rfl
 ·refine cH Z<|gU 2 Z<|bD Z<|cH Z<|gU 2 Z<|bD Z<|cH Z<|gU 2 Z<|bD Z<|cA (cO 5 Z) λQ=>?_;refine bL Z (bA.cons 4 Z .nil) .nil (iW 0 Z Z Z Z Z p.1 (by have m:=p.2;have n:=Q;(try simp only[List.length_set]at m);(try simp only[List.length_set]at n);(try simp only[List.length_set]);omega)) aO.z ?_;refine cA (cO 5 Z) λR=>bL Z (bA.cons 4 Z .nil) .nil (lP 0 Z Z R Z Z p) aO.z<|fP 1 Z<|cH Z<|gU 2 Z<|bD Z<|cA (cO 5 Z) λS=>?_;refine bL Z (bA.cons 4 Z .nil) .nil (iW 0 Z Z Z Z Z q.1 (by have m:=q.2;have n:=S;(try simp only[List.length_set]at m);(try simp only[List.length_set]at n);(try simp only[List.length_set]);omega)) aO.z ?_;refine cA (cO 5 Z) λT=>bL Z (bA.cons 4 Z .nil) .nil (lP 0 Z Z T Z Z q) aO.z<|fP 0 Z<|JR.loud Z Z Z (cP (e:=bU) ([((g,d))]) [(0,Value.agg #[vI (g),vI (d)])] Z Z Z Z (xW (vI (g)) (vI (d))) Z Z Z) Z (λaY=>(mP [([1],[]),([5],[]),([5],[]),([3],[]),([5],[]),([5],[]),([3],[]),([3],[]),([3],[])] Z)) λaY=>JR.loud Z Z Z (qI 6 bI Z Z Z (a_ (aF.res 0 Z) bI) Z Z Z Z p D Z) Z (λay=>(mP [([1],[]),([5],[]),([5],[]),([3],[]),([3],[]),([3],[])] Z)) λay=>JR.loud Z Z Z (cP (e:=bU) ([((f,d))]) [(0,Value.agg #[vI (f),vI (d)])] Z Z Z Z (xW (vI (f)) (vI (d))) Z Z Z) Z (λa0=>(mP [([6],[]),([6],[]),([4],[]),([3],[]),([6],[]),([6],[]),([4],[]),([4],[]),([4],[])] Z)) λa0=>JR.loud Z Z Z (yF (j:=f) 7 bI Z Z Z (a_ (aF.res 0 Z) bI) Z Z Z Z q E Z F) Z (λaz=>(mP [([4],[]),([4],[])] Z)) λaz=>cA (cO 7 Z) λV=>?_;refine bL Z (bA.cons 6 Z .nil) .nil (iW 0 Z Z Z Z Z a.1 (by have m:=a.2;have n:=V;(try simp only[List.length_set]at m);(try simp only[List.length_set]at n);(try simp only[List.length_set]);omega)) (hkI Z) ?_;refine cA (Bw (k:=f) (j:=g) 7 Z (by omega) ⟨a.1,by first|exact a.2|simpa using a.2⟩) λam=>?_;refine pJ Z Z Z (AG 6 7 ⟨a.1,by first|exact a.2|simpa using a.2⟩ Z Z Z Z (by simp) am Z) (λa6=>(mP [([4],[])] Z)) λa6=>?_;refine bQ 24 Z Z<|bZ (cO 7 Z) λW=>?_;refine aD (iW 6 Z Z Z Z Z b.1 (by have m:=b.2;have n:=W;(try simp only[List.length_set]at m);(try simp only[List.length_set]at n);(try simp only[List.length_set]);omega)) Z ?_;refine bZ (As 7 (k:=g) Z ⟨b.1,by first|exact b.2|simpa using b.2⟩) λan=>?_;refine qE 6 7 ⟨b.1,by first|exact b.2|simpa using b.2⟩ Z Z Z Z Z (by simp) an Z ?_;refine eN ?_;cases h;exact Do (List.set (List.set A (Int.toNat f) ay) (Int.toNat g) az) Z Z .normal (.inr Z) (bA.ix [6,7] Z Z) aE.nil
 ·refine cH Z<|gU 2 Z<|bD Z<|cH Z<|gU 2 Z<|bD Z<|cH Z<|gU 2 Z<|bD Z<|cA (cO 5 Z) λX=>?_;refine bL Z (bA.cons 4 Z .nil) .nil (iW 0 Z Z Z Z Z p.1 (by have m:=p.2;have n:=X;(try simp only[List.length_set]at m);(try simp only[List.length_set]at n);(try simp only[List.length_set]);omega)) aO.z ?_;refine cA (cO 5 Z) λY=>bL Z (bA.cons 4 Z .nil) .nil (lP 0 Z Z Y Z Z p) aO.z<|fP 1 Z<|cH Z<|gU 2 Z<|bD Z<|cA (cO 5 Z) λaa=>?_;refine bL Z (bA.cons 4 Z .nil) .nil (iW 0 Z Z Z Z Z q.1 (by have m:=q.2;have n:=aa;(try simp only[List.length_set]at m);(try simp only[List.length_set]at n);(try simp only[List.length_set]);omega)) aO.z ?_;refine cA (cO 5 Z) λab=>bL Z (bA.cons 4 Z .nil) .nil (lP 0 Z Z ab Z Z q) aO.z<|fP 0 Z<|JR.loud Z Z Z (cP (e:=bU) ([((g,d))]) [(0,Value.agg #[vI (g),vI (d)])] Z Z Z Z (xW (vI (g)) (vI (d))) Z Z Z) Z (λa1=>(mP [([1],[]),([5],[]),([5],[]),([3],[]),([5],[]),([5],[]),([3],[]),([3],[]),([3],[])] Z)) λa1=>JR.loud Z Z Z (cP (e:=bU) ([((f,d))]) [(0,Value.agg #[vI (f),vI (d)])] Z Z Z Z (xW (vI (f)) (vI (d))) Z Z Z) Z (λa2=>(mP [([6],[]),([6],[]),([4],[]),([3],[]),([6],[]),([6],[]),([4],[]),([4],[]),([4],[])] Z)) λa2=>JR.loud Z Z Z (qI 7 bI Z Z Z (a_ (aF.res 1 Z) bI) Z Z Z Z p D Z) Z (λaB=>(mP [([2],[]),([6],[]),([6],[]),([4],[]),([4],[]),([4],[])] Z)) λaB=>JR.loud Z Z Z (yF (j:=f) 7 bI Z Z Z (a_ (aF.res 0 Z) bI) Z Z Z Z q E Z F) Z (λaC=>(mP [([4],[]),([4],[])] Z)) λaC=>cA (cO 7 Z) λac=>?_;refine bL Z (bA.cons 6 Z .nil) .nil (iW 0 Z Z Z Z Z a.1 (by have m:=a.2;have n:=ac;(try simp only[List.length_set]at m);(try simp only[List.length_set]at n);(try simp only[List.length_set]);omega)) (hkI Z) ?_;refine cA (Bw (k:=f) (j:=g) 7 Z (by omega) ⟨a.1,by first|exact a.2|simpa using a.2⟩) λao=>?_;refine pJ Z Z Z (AG 6 7 ⟨a.1,by first|exact a.2|simpa using a.2⟩ Z Z Z Z (by simp) ao Z) (λa7=>(mP [([4],[])] Z)) λa7=>?_;refine bQ 24 Z Z<|bZ (cO 7 Z) λad=>?_;refine aD (iW 6 Z Z Z Z Z b.1 (by have m:=b.2;have n:=ad;(try simp only[List.length_set]at m);(try simp only[List.length_set]at n);(try simp only[List.length_set]);omega)) Z ?_;refine bZ (As 7 (k:=g) Z ⟨b.1,by first|exact b.2|simpa using b.2⟩) λap=>?_;refine qE 6 7 ⟨b.1,by first|exact b.2|simpa using b.2⟩ Z Z Z Z Z (by simp) ap Z ?_;refine eN ?_;cases h;exact Do (List.set (List.set A (Int.toNat f) aB) (Int.toNat g) aC) Z Z .normal (.inr Z) (bA.ix [6,7] Z Z) aE.nil
 refine cH Z<|gU 2 Z<|bD Z<|cH Z<|gU 2 Z<|bD Z<|cH Z<|gU 2 Z<|bD Z<|cA (cO 5 Z) λae=>?_;refine bL Z (bA.cons 4 Z .nil) .nil (iW 0 Z Z Z Z Z p.1 (by have m:=p.2;have n:=ae;(try simp only[List.length_set]at m);(try simp only[List.length_set]at n);(try simp only[List.length_set]);omega)) aO.z ?_;refine cA (cO 5 Z) λaf=>bL Z (bA.cons 4 Z .nil) .nil (lP 0 Z Z af Z Z p) aO.z<|fP 1 Z<|cH Z<|gU 2 Z<|bD Z<|cA (cO 5 Z) λag=>?_;refine bL Z (bA.cons 4 Z .nil) .nil (iW 0 Z Z Z Z Z q.1 (by have m:=q.2;have n:=ag;(try simp only[List.length_set]at m);(try simp only[List.length_set]at n);(try simp only[List.length_set]);omega)) aO.z ?_;refine cA (cO 5 Z) λah=>bL Z (bA.cons 4 Z .nil) .nil (lP 0 Z Z ah Z Z q) aO.z<|fP 0 Z<|JR.loud Z Z Z (cP (e:=bU) ([((f,d))]) [(0,Value.agg #[vI (f),vI (d)])] Z Z Z Z (xW (vI (f)) (vI (d))) Z Z Z) Z (λa3=>(mP [([5],[]),([5],[]),([3],[]),([2],[]),([5],[]),([5],[]),([3],[]),([3],[]),([3],[])] Z)) λa3=>JR.loud Z Z Z (cP (e:=bU) ([((g,d))]) [(0,Value.agg #[vI (g),vI (d)])] Z Z Z Z (xW (vI (g)) (vI (d))) Z Z Z) Z (λa5=>(mP [([2],[]),([6],[]),([6],[]),([4],[]),([6],[]),([6],[]),([4],[]),([4],[]),([4],[])] Z)) λa5=>JR.loud Z Z Z (qI 7 bI Z Z Z (a_ (aF.res 0 Z) bI) Z Z Z Z p D Z) Z (λaG=>(mP [([2],[]),([6],[]),([6],[]),([4],[]),([4],[]),([4],[])] Z)) λaG=>JR.loud Z Z Z (yF (j:=f) 7 bI Z Z Z (a_ (aF.res 1 Z) bI) Z Z Z Z q E Z F) Z (λaJ=>(mP [([4],[]),([4],[])] Z)) λaJ=>cA (cO 7 Z) λai=>?_;refine bL Z (bA.cons 6 Z .nil) .nil (iW 0 Z Z Z Z Z a.1 (by have m:=a.2;have n:=ai;(try simp only[List.length_set]at m);(try simp only[List.length_set]at n);(try simp only[List.length_set]);omega)) (hkI Z) ?_;refine cA (Bw (k:=f) (j:=g) 7 Z (by omega) ⟨a.1,by first|exact a.2|simpa using a.2⟩) λaq=>?_;refine pJ Z Z Z (AG 6 7 ⟨a.1,by first|exact a.2|simpa using a.2⟩ Z Z Z Z (by simp) aq Z) (λa8=>(mP [([4],[])] Z)) λa8=>?_;refine bQ 24 Z Z<|bZ (cO 7 Z) λaj=>?_;refine aD (iW 6 Z Z Z Z Z b.1 (by have m:=b.2;have n:=aj;(try simp only[List.length_set]at m);(try simp only[List.length_set]at n);(try simp only[List.length_set]);omega)) Z ?_;refine bZ (As 7 (k:=g) Z ⟨b.1,by first|exact b.2|simpa using b.2⟩) λar=>?_;refine qE 6 7 ⟨b.1,by first|exact b.2|simpa using b.2⟩ Z Z Z Z Z (by simp) ar Z ?_;refine eN ?_;cases h;exact Do (List.set (List.set A (Int.toNat f) aG) (Int.toNat g) aJ) Z Z .normal (.inr Z) (bA.ix [6,7] Z Z) aE.nil
def pB (b:yD) (a:fL):Option sB:=
 some ((b.1,a))
def sY (U:Nat) (b:AU) (i:yD) (a:Int×fL) (c:(Int×fL)->Option sB):Option sB:=
 if a.1<(List.length a.2:Int)then(Option.bind (rZ U b.2.1 (wI .i64 (a.1 - (1:Int)))) λd=>(Option.bind (fK U d a.1) λe=>(Option.bind (rZ U b.2.2.1 (wI .i64 (a.1 - (1:Int)))) λf=>(Option.bind (fK U f (15:Int)) λg=>(Option.bind (nH U ((b.1,b.2.1,b.2.2.1,b.2.2.2.1,b.2.2.2.2.1,b.2.2.2.2.2)) ((i.1,a.2)) e a.1 (wI .i64 ((1:Int)+g))) λh=>(c ((wI .i64 (a.1+(1:Int))),h)))))))else(pB i (a.2))
def nG (U:Nat) (a:AU) (c:Int):Option sB:=
 Option.bind (mE U ((a.1,a.2.1,a.2.2.1,a.2.2.2.1,a.2.2.2.2.1,a.2.2.2.2.2)) c) λb=>(bP (sY U a b) U ((1:Int),b.2))
theorem Ui:aR Tryz.prog 26:=Tryz.call26
theorem z_ (U:Nat) {p0:AU} {p1:Int} (g:Value)  (k:Value)  (n:Value) (r:yD) (h:nG U p0 p1=some r):
  aW Tryz.prog 26 #[Value.agg #[vI (p0.1),g,k,n,vB (p0.2.2.2.2.1),vB (p0.2.2.2.2.2)],vI (p1)] [Sl bJ g p0.2.1,Sl bJ k p0.2.2.1,Sl bJ n p0.2.2.2.1] (λx:Oa=>Value.agg #[x.1,x.2.1]) (λx l=>Ar cI x.1 r.1::Ar dD.raw x.2.1 x.2.2::jH bU x.2.2 r.2::l) (λ_ l=>l):=by
 refine aW.of Tryz.func26 Z Tryz.ntmps26 Z λc=>?_;refine aP<|aH (aL.box (cs:=[vI (p0.1),g,k,n,vB (p0.2.2.2.2.1),vB (p0.2.2.2.2.2)]) Z Z) Z λu=>aH (aL.alloc (cs:=[lX,lX]) Z Z) Z λo=>aN<|aP<|dC 1 Z<|aA Z<|fE h λm P h=>aH (aL.callQ Ul (yS U g k n m P) Z (mK [0,1,2] Z)) Z λa=>aH (aL.alloc (cs:=[lX,lX]) Z Z) Z λp=>bZ (Know.one ((a_ (aF.res 1 Z) dL))) λv=>bZ (Know.one (aF.sl (aX (i:=2) (j:=3) Z Z bI))) λw=>bO 0 (vs:=[a.1,a.2.1]) Z Z (cG v (cG w Z)) Z Z Z<|aN<|aM<|EF (B:=gQ) (λe=>pB m e=some r) (λe f=>[(4,vP o),(5,vP p)]) (λe f=>[bX p [a.1,a.2.1] 27,Ar cI a.1 m.1,Ar dD.raw a.2.1 f,jH bU f e,bX o [lX,lX] 27]) ?_ ?_
 ·refine aP<|aC Z<|aN<|aT<|fJ (B:=gQ) (sY U p0 m) (λd b=>[(2,vP u),(4,vP o),(5,vP p),(6,vI (d.1))]) (λd b=>[bX p [a.1,a.2.1] 27,Ar cI a.1 m.1,Ar dD.raw a.2.1 b,jH bU b d.2,bX o [lX,lX] 27,bX u [vI (p0.1),g,k,n,vB (p0.2.2.2.2.1),vB (p0.2.2.2.2.2)] 24]) ((1:Int),m.2) (a.2.2) h SF (bA.refl _) ?_;intro O d b h;refine aM<|aP<|aA Z<|bV Z<|dO 0 Z<|aD (kE Z (aX (i:=2) (j:=3) Z Z bI) Z) Z<|cW Z<|aN ?_;refine dK h Z (λh=>?_) λh=>?_
  ·refine cT<|aM<|aT ?_;refine JR.start [0,0,0,4,0,16,60,0,252,0,0,1024,0,4096,15868,32252,65020,131071] 17 mixedOrders (by decide +kernel) ?_;refine JR.open (by exact rfl) ?_;refine fP 5 Z<|fP 0 Z<|cH Z<|gU 5 Z<|bD Z<|iB Z (q_ Z Z)<|fE h λy E h=>JR.loud Z Z Z (aL.callQ Ix (Af U g y E) Z (mK [0] Z)) Z (λJ=>(mP [([0],[]),([5],[])] Z)) λJ=>iB Z (gR Z)<|fE h λA F h=>JR.loud Z Z Z (aL.callQ BE (jT U  A F) Z .nil) Z (λK=>(mP [([0],[]),([5],[])] Z)) λK=>iB Z (gR Z)<|iB Z (dM Z Z Z Z Z)<|bL Z (bA.cons 5 Z .nil) .nil (eS 0 Z Z Z Z Z) (aO.h (bA.ix [5] Z Z) .nil (aO.h (bA.ix [5] Z Z) .nil aO.z))<|iB Z (gR Z)<|iB Z (q_ Z Z)<|fE h λC G h=>JR.loud Z Z Z (aL.callQ Ix (Af U k C G) Z (mK [1] Z)) Z (λL=>(mP [([0],[]),([5],[])] Z)) λL=>fE h λD H h=>JR.loud Z Z Z (aL.callQ BE (jT U  D H) Z .nil) Z (λM=>(mP [([0],[]),([5],[])] Z)) λM=>iB Z (zN Z Z)<|bQ 17 Z Z<|fE h λt I h=>aH (By (Min:=[Ar dD.raw a.2.1 b,jH bU b d.2]) (Mr:=[bX p [a.1,a.2.1] 27,Ar cI a.1 m.1,bX o [lX,lX] 27,bX u [vI (p0.1),g,k,n,vB (p0.2.2.2.2.1),vB (p0.2.2.2.2.2)] 24]) Qn (Aa U g k n a.1 a.2.1 b t I) Z (bA.ix [2,3,0,1,4,5] Z Z) (aE.cons (aF.fact 0 Z) (aE.cons (aF.fact 1 Z) (aE.cons (aF.fact 2 Z) (aE.cons (a_ (aF.res 1 Z) dL) .nil)))) (λ_ _=>rfl)) Z λN=>eN<|oP<|aQ<|aA Z<|cJ Z<|aC Z<|aN ?_;exact mW ((wI .i64 (d.1+(1:Int))),t) (N) h SF (bA.ix [2,3,0,1,4,5] Z Z) (aE.refl _ _)
  refine gX ?_;exact b_ (d.2) (b) h SF (bA.ix [0,1,2,3,4] Z Z) (aE.refl _ _)
 intro e f h;unfold pB at h;refine aP<|dC 0 Z<|bZ (Know.one ((a_ (aF.res 1 Z) dL))) λq=>bZ (Know.one (aF.sl (aX (i:=2) (j:=3) Z Z bI))) λs=>bO 4 (vs:=[a.1,a.2.1]) Z Z (cG q (cG s Z)) Z Z Z<|aN<|aV ?_;cases h;exact jE (a.1,a.2.1,f) Z Z (RV.cell 4 Z Z Z Z) (bA.ix [1,2,3] Z Z) aE.nil
def jO (U:Nat) (a:Int):Option (Int):=
 if a=(0:Int)then(some (32:Int))else(ck (0<=(27:Int)) (ck ((0<=(lY .u32 (wI .u32 ((dA .u32 a (wI .u32 (0 - a)))*(125613361:Int))) (27:Int))∧(lY .u32 (wI .u32 ((dA .u32 a (wI .u32 (0 - a)))*(125613361:Int))) (27:Int))<((32:Nat):Int))∧List.length qP=32) (some (wI .i64 (at' qP (lY .u32 (wI .u32 ((dA .u32 a (wI .u32 (0 - a)))*(125613361:Int))) (27:Int)))))))
theorem Qw:aR Tryz.prog 228:=Tryz.call228
theorem wA (U:Nat) {b:Int} (r:Int) (h:jO U b=some r):
  aW Tryz.prog 228 #[vU (b)] [Gb 0 (cellsOf Cy qP)] (λx:Unit=>vI (r)) (λx l=>l) (λ_ l=>l):=by
 refine aW.of Tryz.func228 Z Tryz.ntmps228 Z λc=>?_;refine aP<|aC Z<|aN<|aM<|aP<|aA Z<|bR Z<|aN ?_;refine dK h Z (λh=>?_) λh=>?_
 ·refine aP<|aC Z<|aN<|aV<|aK ?_;cases h;exact lL Z
 refine cT<|aP<|aA Z<|aA Z<|aD (Qf Z) Z<|xZ Z<|aD (yG Z Z) Z<|eH h λd h=>aD (Fg Z Z d) Z<|eH h λa h=>aD (MS Z Z Z Z Z a.1) Z<|aD (Se (e:=Cy) Z (aF.fact 0 Z) Z Z Z Z a) Z<|aD (Gg Z Z Z) Z<|aC Z<|aN<|aV ?_;cases h;exact lL Z
def jF  (a:Unit):Option (Bool):=
 some (true)
def fV (U:Nat) (d:aS) (e:Int) (a:Int) (c:(Int)->Option (Bool)):Option (Bool):=
 if a≠(0:Int)then(Option.bind (jO U a) λb=>(ck (0<=b∧b<(List.length d:Int)) (if(dA .u32 (at' d b) e)≠(0:Int)then(some (false))else(c (dA .u32 a (wI .u32 (a - (1:Int))))))))else(jF  (()))
def mF (U:Nat) (c:aS) (a:Int) (b:Unit):Option (Bool):=
 bP (fV U c a) U (a)
def gH (U:Nat) (a:aS) (b:Int):Option (Bool):=
 mF U a b (())
theorem Xv:aR Tryz.prog 223:=Tryz.call223
theorem zZ (U:Nat) {m:aS} {e:Int} (j:Value) (r:Bool) (h:gH U m e=some r):
  aW Tryz.prog 223 #[j,vU (e)] [Sl sE j m,Gb 0 (cellsOf Cy qP)] (λx:Unit=>vB (r)) (λx l=>l) (λ_ l=>l):=by
 refine aW.of Tryz.func223 Z Tryz.ntmps223 Z λc=>?_;unfold gH at h;refine jK Io<|aP<|bZ (Know.one ((aF.fact 0 Z))) λw=>?_;refine aH (aL.box (cs:=[j]) Z (by rw[kA w])) Z λC=>?_;refine aH (aL.box (cs:=[vU (e)]) Z Z) Z λD=>aH (aL.alloc (cs:=[vB (false)]) Z Z) Z λu=>aN<|aM<|K_ (A:=Unit) (B:=f_) (λk g=>⟨16,Hr g⟩) (λk=>jF  k=some r) (λk g=>[(4,vP u)]) (λk g=>[bX u [vB (false)] 4,Hy g]) (λk g=>[Sl sE j m,Gb 0 (cellsOf Cy qP)]) ?_ ?_
 ·refine aP<|dO 1 Z<|Cz (A:=Unit) (B:=Nat) (vs:=[vU (e)]) (λb=>mF U m e b=some r) (λb a=>Value.func (.func 227) #[] #[vP a]) (λb a=>[bX a [vU (e)] 31,bX u [vB (false)] 4,bX D [vU (e)] 31,bX C [j] 76,Hy ([]:f_)]) (λb a=>[Sl sE j m,Gb 0 (cellsOf Cy qP)]) (xR.fn (show aR Tryz.prog 170 from Tryz.call170) Z) Tryz.func170 Z Tryz.ntmps170 Z Z ?_ ?_
  ·refine aP<|aH (aL.box (cs:=[vU (e)]) Z Z) Z λo=>aC Z<|aN<|aP<|aD (zP (cs:=[.tmp 1]) (vs:=[vP o]) Z) Z<|aC Z<|aN<|aV ?_;exact zJ () (o) h (.inl Z) (HM.r1 Z (RV.tmp Z)) Z (bA.refl _) (aE.refl _ _)
  intro b a h;unfold mF at h;refine aN<|aT<|Bv (i:=4) (cs:=[vP a]) ([]:f_) Z (show aR Tryz.prog 227 from Tryz.call227) Z Tryz.func227 Z Tryz.ntmps227 Z λs f v p=>aT<|fJ (fV U m e) (λd n=>[(0,rD s),(1,vP a)]) (λd n=>[Lp s v LoopState.ready none,bX a [vU (d)] 31,bX u [vB (false)] 4,bX D [vU (e)] 31,bX C [j] 76,Hy (List.cons f ([]:f_))]) (e) () h SF (bA.refl _) ?_;intro E d n h;refine aM<|aP<|dO 1 Z<|p_ Z<|aN ?_;refine dK h Z (λh=>?_) λh=>?_
  ·refine cT<|aM<|aT<|aP<|aA Z<|dO 1 Z<|fE h λt y h=>aH (aL.callQ Qw (wA U  t y) Z (mK [1] Z)) Z λF=>Ii (us:=[vI (t)]) (i:=0) p Z Z Z Z Z Z<|aQ<|aC Z<|aN<|KX (i:=0) Z<|aT<|aM ?_;refine JR.start [0,0,3,7,0,31,63] 5 mixedOrders (by decide +kernel) ?_;refine JR.open (by exact rfl) ?_;refine gU 4 Z<|bD Z<|eH h λq h=>bL Z .nil (nW 0 Z) (bK Z Z (aF.fact 0 Z) Z Z q) aO.z<|bL Z .nil (nW 0 Z) (cQ Z (aF.fact 0 Z) Z Z Z CE q) aO.z<|gU 3 Z<|bQ 5 Z Z<|xZ Z<|p_ Z<|aN ?_;refine dK h Z (λh=>?_) λh=>?_
   ·refine aP<|iV 2 Z Z Z Z Z Z<|aN<|aV<|bS<|TA (i:=0) Z<|aD (wG Z) Z<|aN<|Qd Z<|aV<|bS<|aK<|aK<|bS<|Wz (i:=0) (.inl Z) Z (HM.r0 Z)<|bS<|aK<|qA (i:=5) (Ds:=(List.cons f ([]:f_))) (.inl Z) Z ?_;cases h;exact jE () Z Z (MG 2 Z Z Z Z) .nil aE.nil
   refine dR<|Ms<|CB (i:=0) Z<|aD (wG Z) Z<|aN<|Dm Z<|dR<|oP<|aQ<|dO 1 Z<|dO 1 Z<|aD (q_ Z Z) Z<|xZ Z<|iV 1 Z Z Z Z Z Z<|aN ?_;exact AX (dA .u32 d (wI .u32 (d - (1:Int)))) () h SF Z
  refine sW<|eZ<|eZ<|yR<|OD (i:=0) (.inr Z) Z (HM.r0 Z)<|oP ?_;exact EY () (List.cons f ([]:f_)) Z h SF (bA.ix [2,5] Z Z) (aE.refl _ _)
 intro k g h;unfold jF at h;refine aP<|iV 0 Z Z Z Z Z Z<|aN<|aV<|qA (i:=1) (Ds:=(g)) (.inl Z) Z ?_;cases h;exact jE () Z Z (MG 0 Z Z Z Z) .nil aE.nil
def lQ (U:Nat) (d:aS) (b:Int) (e:Int) (a:Int) (c:Bool):Option (Bool):=
 if c=true then(some (false))else(if b=(1:Int)then(some (decide ((dA .u32 a (wI .u32 (a - (1:Int))))=(0:Int))))else(if b=(2:Int)then(Option.bind (gH U d a) λf=>(some (f)))else(if b=(4:Int)then(some (decide (a=e)))else(some (true)))))
def fC (U:Nat) (c:aS) (d:Int) (b:Int) (a:Int):Option (Bool):=
 if a=(0:Int)then(lQ U c d b a (true))else(lQ U c d b a (decide ((sF .u32 a b)≠(0:Int))))
theorem Qs:aR Tryz.prog 167:=Tryz.call167
theorem vZ (U:Nat) {p0:aS} {p1:Int} {p2:Int} {p3:Int} (b:Value) (r:Bool) (h:fC U p0 p1 p2 p3=some r):
  aW Tryz.prog 167 #[b,vI (p1),vU (p2),vU (p3)] [Sl sE b p0,Gb 0 (cellsOf Cy qP)] (λx:Unit=>vB (r)) (λx l=>l) (λ_ l=>l):=by
 refine aW.of Tryz.func167 Z Tryz.ntmps167 Z λc=>?_;refine aP<|aC Z<|aN<|aM<|aM<|fF (λa=>lQ U p0 p1 p2 p3 a=some r) (λa d=>[(0,b),(1,vI (p1)),(2,vU (p2)),(3,vU (p3)),(16,vB (a))]) (λa d=>[]) ?_ ?_
 ·refine aQ<|aA Z<|bR Z<|aA Z ?_;refine CP h Z (λ_ h=>?_) λ_ h=>?_
  ·refine aI Z<|aI Z<|aI Z<|aI Z<|eR Z<|aN ?_;exact iP (true) () h SF Z
  refine eP Z<|eP Z<|aU Z (Fe Z Z) Z<|aU Z (Kd Z Z) Z<|eY Z<|aN ?_;exact iP (decide ((sF .u32 p3 p2)≠(0:Int))) () h SF Z
 intro a d h;refine BF h Z (λ_ h=>?_) λ_ h=>?_
 ·refine aP<|aC Z<|aN<|aV<|aK ?_;cases h;exact lL Z
 refine cT<|aM<|aP<|aA Z<|aN<|aT<|aP<|bR Z<|aC Z<|aN ?_;refine dK h Z (λh=>?_) λh=>?_
 ·refine aP<|aA Z<|aA Z<|aD (q_ Z Z) Z<|xZ Z<|bR Z<|aC Z<|aN<|aV<|bS<|aK ?_;cases h;exact lL Z
 refine aP<|bR Z<|aC Z<|aN ?_;refine dK h Z (λh=>?_) λh=>?_
 ·refine aP<|aA Z<|aA Z<|fE h λe f h=>aH (aL.callQ Xv (zZ U b e f) Z (mK [0,1] Z)) Z λg=>aC Z<|aN<|aV<|bS<|aK ?_;cases h;exact lL Z
 refine aP<|bR Z<|aC Z<|aN ?_;refine dK h Z (λh=>?_) λh=>?_
 ·refine aP<|aA Z<|aA Z<|bR Z<|aC Z<|aN<|aV<|bS<|aK ?_;cases h;exact lL Z
 refine dR<|oP<|aP<|aC Z<|aN<|aV ?_;cases h;exact lL Z
def lR  (a:Int):Option (Int):=
 some (a)
def iY (a:dQ) (b:dY->Option (Int)) (c:Int):Option (Int):=
 b ((dA .u32 a.1 (wI .u32 (a.1 - (1:Int)))),c)
def dZ (U:Nat) (d:aS) (a:dQ) (c:dY->Option (Int)):Option (Int):=
 if a.1≠(0:Int)then(Option.bind (jO U a.1) λb=>(ck (0<=b∧b<(List.length d:Int)) (if(dA .u32 (at' d b) a.2)=(0:Int)then(ck (0<=b) (iY a c (Ec .u32 a.2 (wC .u32 (1:Int) b))))else(iY a c (a.2)))))else(lR  (a.2))
def pK (U:Nat) (c:aS) (b:Int) (a:Unit):Option (Int):=
 bP (dZ U c) U (b,(0:Int))
def iX (U:Nat) (c:aS) (b:Int) (d:Int) (a:Int):Option (Int):=
 if b=(1:Int)then(some (dA .u32 a (wI .u32 (0 - a))))else(if b=(2:Int)then(pK U c a (()))else(if b=(4:Int)then(some (d))else(some (a))))
def eM (U:Nat) (b:aS) (c:Int) (a:Int) (d:Int):Option (Int):=
 if(dA .u32 d a)=(0:Int)then(iX U b c a (dA .u32 a (wI .u32 (0 - a))))else(iX U b c a (dA .u32 d a))
theorem Qp:aR Tryz.prog 108:=Tryz.call108
theorem v_ (U:Nat) {p0:aS} {p1:Int} {p2:Int} {p3:Int} (k:Value) (r:Int) (h:eM U p0 p1 p2 p3=some r):
  aW Tryz.prog 108 #[k,vI (p1),vU (p2),vU (p3)] [Sl sE k p0,Gb 0 (cellsOf Cy qP)] (λx:Unit=>vU (r)) (λx l=>l) (λ_ l=>l):=by
 refine aW.of Tryz.func108 Z Tryz.ntmps108 Z λc=>?_;refine jK Io<|aP<|bZ (Know.one ((aF.fact 0 Z))) λD=>?_;refine aH (aL.box (cs:=[k]) Z (by rw[kA D])) Z λq=>?_;refine aC Z<|aN<|aP<|aA Z<|aA Z<|xZ Z<|aC Z<|aN<|aM<|K_ (A:=Int) (B:=Unit) (λg C=>⟨48,Hr ([]:f_)⟩) (λg=>iX U p0 p1 p2 g=some r) (λg C=>[(1,vI (p1)),(2,vU (p2)),(3,vU (g)),(4,vP q),(8,vU (0:Int))]) (λg C=>[bX q [k] 76,Hy ([]:f_)]) (λg C=>[Sl sE k p0,Gb 0 (cellsOf Cy qP)]) ?_ ?_
 ·refine aP<|aA Z<|bR Z<|aN ?_;refine dK h Z (λh=>?_) λh=>?_
  ·refine aQ<|aA Z<|aA Z<|aD (Qf Z) Z<|xZ Z<|aC Z<|aN ?_;exact EY (dA .u32 p2 (wI .u32 (0 - p2))) () Z h SF (bA.refl _) (aE.refl _ _)
  refine cT ?_;exact EY (dA .u32 p3 p2) () Z h SF (bA.refl _) (aE.refl _ _)
 intro g C h;refine aM<|aP<|aA Z<|aN<|aT<|aP<|bR Z<|aC Z<|aN ?_;refine dK h Z (λh=>?_) λh=>?_
 ·refine aP<|aA Z<|aA Z<|aD (Qf Z) Z<|xZ Z<|aC Z<|aN<|aV<|bS<|aK<|qA (i:=1) (Ds:=([]:f_)) (.inl Z) Z ?_;cases h;exact wD Z
 refine aP<|bR Z<|aC Z<|aN ?_;refine dK h Z (λh=>?_) λh=>?_
 ·refine aP<|aH (aL.alloc (cs:=[vU (0:Int)]) Z Z) Z λv=>iV 0 Z Z Z Z Z Z<|aN<|aM<|K_ (A:=Int) (B:=f_) (λd e=>⟨48,Hr e⟩) (λd=>lR  d=some r) (λd e=>[(9,vP v)]) (λd e=>[bX v [vU (d)] 31,Hy e]) (λd e=>[Sl sE k p0,Gb 0 (cellsOf Cy qP)]) ?_ ?_
  ·refine aP<|aA Z<|Cz (A:=Unit) (B:=Nat) (vs:=[vU (g)]) (λj=>pK U p0 g j=some r) (λj b=>Value.func (.func 227) #[] #[vP b]) (λj b=>[bX b [vU (g)] 31,bX v [vU (0:Int)] 31,bX q [k] 76,Hy ([]:f_)]) (λj b=>[Sl sE k p0,Gb 0 (cellsOf Cy qP)]) (xR.fn (show aR Tryz.prog 170 from Tryz.call170) Z) Tryz.func170 Z Tryz.ntmps170 Z Z ?_ ?_
   ·refine aP<|aH (aL.box (cs:=[vU (g)]) Z Z) Z λu=>aC Z<|aN<|aP<|aD (zP (cs:=[.tmp 1]) (vs:=[vP u]) Z) Z<|aC Z<|aN<|aV ?_;exact zJ () (u) h (.inl Z) (HM.r1 Z (RV.tmp Z)) Z (bA.refl _) (aE.refl _ _)
   intro j b h;unfold pK at h;refine aN<|aT<|Bv (i:=3) (cs:=[vP b]) ([]:f_) Z (show aR Tryz.prog 227 from Tryz.call227) Z Tryz.func227 Z Tryz.ntmps227 Z λm n p w=>aT<|fJ (dZ U p0) (λa s=>[(0,rD m),(1,vP b)]) (λa s=>[Lp m p LoopState.ready none,bX b [vU (a.1)] 31,bX v [vU (a.2)] 31,bX q [k] 76,Hy (List.cons n ([]:f_))]) (g,(0:Int)) () h SF (bA.refl _) ?_;intro F a s h;refine aM<|aP<|dO 1 Z<|p_ Z<|aN ?_;refine dK h Z (λh=>?_) λh=>?_
   ·refine cT<|aM<|fF (λf=>iY a (bP (dZ U p0) F) f=some r) (λf t=>[(0,rD m),(1,vP b)]) (λf t=>[Lp m p LoopState.ready none,bX b [vU (a.1)] 31,bX v [vU (f)] 31,bX q [k] 76,Hy (List.cons n ([]:f_))]) ?_ ?_
    ·refine aT<|aP<|aA Z<|dO 1 Z<|fE h λo G h=>aH (aL.callQ Qw (wA U  o G) Z (mK [1] Z)) Z λH=>Ii (us:=[vI (o)]) (i:=0) w Z Z Z Z Z Z<|aQ<|aC Z<|aN<|KX (i:=0) Z<|aT<|aM ?_;refine JR.start [0,0,3,7,0,31,63] 5 mixedOrders (by decide +kernel) ?_;refine JR.open (by exact rfl) ?_;refine gU 3 Z<|bD Z<|eH h λy h=>bL Z .nil (nW 0 Z) (bK Z Z (aF.fact 0 Z) Z Z y) aO.z<|bL Z .nil (nW 0 Z) (cQ Z (aF.fact 0 Z) Z Z Z CE y) aO.z<|gU 2 Z<|bQ 5 Z Z<|xZ Z<|bR Z<|aN ?_;refine dK h Z (λh=>?_) λh=>?_
     ·refine JR.start [0,0,2,7,15] 3 mixedOrders (by decide +kernel) ?_;refine JR.open (by exact rfl) ?_;refine gU 2 Z<|bD Z<|eH h λE h=>iB Z (Ff Z Z E)<|bQ 3 Z Z<|aD (Le Z Z) Z<|iV 2 Z Z Z Z Z Z<|eN<|Ms<|CB (i:=0) Z<|aD (wG Z) Z<|aN<|Dm Z<|dR<|oP ?_;exact iP (Ec .u32 a.2 (wC .u32 (1:Int) o)) () h SF Z
     refine dR<|Ms<|CB (i:=0) Z<|aD (wG Z) Z<|aN<|Dm Z<|dR<|oP ?_;exact iP (a.2) () h SF Z
    intro f t h;unfold iY at h;refine aQ<|dO 1 Z<|dO 1 Z<|aD (q_ Z Z) Z<|xZ Z<|iV 1 Z Z Z Z Z Z<|aN ?_;exact AX ((dA .u32 a.1 (wI .u32 (a.1 - (1:Int)))),f) () h SF Z
   refine sW<|eZ<|eZ<|yR<|OD (i:=0) (.inr Z) Z (HM.r0 Z)<|oP ?_;exact EY (a.2) (List.cons n ([]:f_)) Z h SF (bA.ix [2,4] Z Z) (aE.refl _ _)
  intro d e h;unfold lR at h;refine aP<|dO 0 Z<|aC Z<|aN<|aV<|bS<|aK<|qA (i:=1) (Ds:=(e)) (.inl Z) Z ?_;cases h;exact wD Z
 refine aP<|bR Z<|aC Z<|aN ?_;refine dK h Z (λh=>?_) λh=>?_
 ·refine aP<|aA Z<|aC Z<|aN<|aV<|bS<|aK<|qA (i:=1) (Ds:=([]:f_)) (.inl Z) Z ?_;cases h;exact wD Z
 refine dR<|oP<|aP<|aA Z<|aC Z<|aN<|aV<|qA (i:=1) (Ds:=([]:f_)) (.inl Z) Z ?_;cases h;exact wD Z
end Go.Proofs.YtjkjpdonlpdcaaaGreatDoor
section
set_option maxRecDepth 100000
namespace Go.Gx
open Go Go.Sx Go.Proofs Go.Proofs.YtjkjpdonlpdcaaaGreatDoor
noncomputable section
def acN (a:List GV) (H:GH):OR:=a1 a λb=>ob (Uw H b) λp0=>ob (eC 1000 p0) λr=>Vt r H
def acM (a:List GV) (H:GH):OR:=a2 a λb c=>ob (acA H b) λp0=>ob (XQ .i64 c) λp1=>ob (nG 1000 p0 p1) λr=>PG r H
def Zg (a:List GV) (H:GH):OR:=a4 a λb c d e=>ob (Uz H b) λp0=>ob (XQ .i64 c) λp1=>ob (XQ .u32 d) λp2=>ob (XQ .u32 e) λp3=>ob (fC 1000 p0 p1 p2 p3) λr=>Vt r H
def Zf (a:List GV) (H:GH):OR:=a4 a λb c d e=>ob (Uz H b) λp0=>ob (XQ .i64 c) λp1=>ob (XQ .u32 d) λp2=>ob (XQ .u32 e) λp3=>ob (eM 1000 p0 p1 p2 p3) λr=>some (.int .u32 r,H)
def UV (f:Nat) (a:List GV) (H:GH):Option (GV×GH):=bif Nat.beq f 50 then acN a H else bif Nat.beq f 26 then acM a H else bif Nat.beq f 167 then Zg a H else bif Nat.beq f 108 then Zf a H else none
abbrev gl:Nat->xS:=glb 0 (cellsOf Cy qP)
def gp:GP:=⟨tR,110,UV,UU 284⟩
section
variable {T:Nat} {w0:eD (gl T)} {w:World} {ρ:dH} {H H':GH} {g:GV} {us:List GV} {vs:List Value}
theorem Yh (h:acN us H=some (g,H')) (R:eX w0 ρ H w) (m:oY ρ us vs):kF Tryz.prog w0 ρ 50 vs w g H':=by
 obtain⟨p,rfl,h⟩:=Qi h;obtain⟨j,c,h⟩:=aB.1 h;obtain⟨r,l,h⟩:=aB.1 h;obtain⟨o,rfl,d⟩:=m.one;obtain⟨e,i,n,rfl,a,b⟩:=Sy R d c;obtain⟨rfl,rfl⟩:=Je h;exact EC Iy (tP 1000 (p0:=j) e i n r l) R (List.forall_mem_cons.2 ⟨a,List.forall_mem_cons.2 ⟨b,λf k=>absurd k List.not_mem_nil⟩⟩) λρ=> .bool _
theorem Yg (h:acM us H=some (g,H')) (R:eX w0 ρ H w) (i:oY ρ us vs):kF Tryz.prog w0 ρ 26 vs w g H':=by
 obtain⟨z,A,rfl,h⟩:=Qj h;obtain⟨o,d,h⟩:=aB.1 h;obtain⟨p,e,h⟩:=aB.1 h;obtain⟨r,v,h⟩:=aB.1 h;obtain⟨x,vs,rfl,j,i⟩:=i.of_cons;obtain⟨y,rfl,k⟩:=i.one;obtain⟨l,m,n,rfl,a,b,c⟩:=XP R j d;obtain rfl:=CN k e;obtain⟨q,s,t,rfl,rfl⟩:=Nz h;exact Ps acD acE q s t Ui (z_ 1000 (p0:=o) (p1:=p) l m n r v) R (List.forall_mem_cons.2 ⟨a,List.forall_mem_cons.2 ⟨b,List.forall_mem_cons.2 ⟨c,λf u=>absurd u List.not_mem_nil⟩⟩⟩)
theorem UZ (h:Zg us H=some (g,H')) (R:eX w0 ρ H w) (a:oY ρ us vs):kF Tryz.prog w0 ρ 167 vs w g H':=by
 obtain⟨z,A,B,C,rfl,h⟩:=Lg h;obtain⟨m,b,h⟩:=aB.1 h;obtain⟨n,c,h⟩:=aB.1 h;obtain⟨o,d,h⟩:=aB.1 h;obtain⟨p,e,h⟩:=aB.1 h;obtain⟨r,u,h⟩:=aB.1 h;obtain⟨q,vs,rfl,i,a⟩:=a.of_cons;obtain⟨v,vs,rfl,j,a⟩:=a.of_cons;obtain⟨x,vs,rfl,k,a⟩:=a.of_cons;obtain⟨y,rfl,l⟩:=a.one;have s:=Ni R i b;obtain rfl:=CN j c;obtain rfl:=CN k d;obtain rfl:=CN l e;obtain⟨rfl,rfl⟩:=Je h;exact EC Qs (vZ 1000 (p0:=m) (p1:=n) (p2:=o) (p3:=p) q r u) R (List.forall_mem_cons.2 ⟨s,List.forall_mem_cons.2 ⟨R.glb,λf t=>absurd t List.not_mem_nil⟩⟩) λρ=> .bool _
theorem UY (h:Zf us H=some (g,H')) (R:eX w0 ρ H w) (a:oY ρ us vs):kF Tryz.prog w0 ρ 108 vs w g H':=by
 obtain⟨z,A,B,C,rfl,h⟩:=Lg h;obtain⟨m,b,h⟩:=aB.1 h;obtain⟨n,c,h⟩:=aB.1 h;obtain⟨o,d,h⟩:=aB.1 h;obtain⟨p,e,h⟩:=aB.1 h;obtain⟨r,u,h⟩:=aB.1 h;obtain⟨q,vs,rfl,i,a⟩:=a.of_cons;obtain⟨v,vs,rfl,j,a⟩:=a.of_cons;obtain⟨x,vs,rfl,k,a⟩:=a.of_cons;obtain⟨y,rfl,l⟩:=a.one;have s:=Ni R i b;obtain rfl:=CN j c;obtain rfl:=CN k d;obtain rfl:=CN l e;cases h;exact EC Qp (v_ 1000 (p0:=m) (p1:=n) (p2:=o) (p3:=p) q r u) R (List.forall_mem_cons.2 ⟨s,List.forall_mem_cons.2 ⟨R.glb,λf t=>absurd t List.not_mem_nil⟩⟩) λρ=> .int _ _
theorem Ly {f:Nat} (h:UV f us H=some (g,H')) (R:eX w0 ρ H w) (a:oY ρ us vs):kF Tryz.prog w0 ρ f vs w g H':=by
 unfold UV at h;cases b:Nat.beq f 50 with
 |true=>rw[b]at h;rw[Nat.eq_of_beq_eq_true b];exact Yh h R a
 |false=>
 rw[b]at h;cases c:Nat.beq f 26 with
 |true=>rw[c]at h;rw[Nat.eq_of_beq_eq_true c];exact Yg h R a
 |false=>
 rw[c]at h;cases d:Nat.beq f 167 with
 |true=>rw[d]at h;rw[Nat.eq_of_beq_eq_true d];exact UZ h R a
 |false=>
 rw[d]at h;cases e:Nat.beq f 108 with
 |true=>rw[e]at h;rw[Nat.eq_of_beq_eq_true e];exact UY h R a
 |false=>
 rw[e]at h;cases h
end
theorem aaA:acC Tryz.prog tR=true:=by kernel_rfl
theorem Ia:eQ Tryz.prog tR:=⟨Ob,aaz aaA⟩
theorem aa_ {a:xS} (b:eD a):rK Tryz.prog b (Kh tR 174 Tryz.f174):=Uq Ia mixedOrders Tryz.func174 Tryz.call174 (by kernel_rfl)
theorem aat (a:Array Value) (w:World) (c:a.size=2):CallsDIn (FR none) 0 Tryz.prog 173 a .returning w λe f g=>∃v,e = .returned v∧f = .returning∧KW w g:=by
 obtain⟨d,h,b⟩:=Vu (r:=Ed tR (Kh tR 174 Tryz.f174) (Ln Tryz.f173) (XW tR (Kh tR 174 Tryz.f174) (λ_ _ _ _=>none) (Up Tryz.f173) 0 ⟨[],0,[]⟩ (FD [])) (Ln Tryz.f173).tail ⟨[(XM Tryz.f173,.inil)],H0⟩) (by kernel_rfl);exact Sq (ch:=Kh tR 174 Tryz.f174) (lp:=λ_ _ _ _=>none) Ia mixedOrders aa_ Ho Tryz.func173 Z Z Z (by decide +kernel) (λi w=>by simp[execOp,resolve,invoke,builtin]) (by kernel_rfl) (by kernel_rfl) Z (by rw[c];decide +kernel) h b
theorem acG {i:xS} {a:FuncId->List GV->GH->Option (GV×GH)} (o:∀(b:eD i) {f us H g H'},a f us H=some (g,H')->∀c w d,eX b c H w->oY c us d->kF Tryz.prog b c f d w g H') (b:eD i):Qc Tryz.prog ⟨tR,110,a,UU 284⟩ DU.fns b:=by
 refine⟨Ia,mixedOrders,λh=> ?_,o b,λh c w d H R n=>Yc Tryz.func284 Z Z Z Z h c w d H R n,λR l j k=> ?_⟩
 ·obtain⟨e,m,h⟩:=aB.1 (show ob (Rm _) _=some _ from h);cases h;obtain⟨p,q,r⟩:=VL m;exact⟨p,q,NA r⟩
 ·exact aam (tb:=tR) (T1:=3) (T2:=36) (cc:=173) Ia Tryz.func110 Tryz.call110 Tryz.call173 Z Z Z (Ql (by kernel_rfl)) (Ql (by kernel_rfl)) (Ru Z Z) (Ru Z Z) (Vh Z Z) (Vh Z Z) aat R l j k
theorem Ou {T:Nat} (a:eD (gl T)):Qc Tryz.prog gp DU.fns a:=acG (λa f d H g c h i w e R b=>Ly h R b) a
def gp0:GP:=⟨tR,110,λ_ _ _=>none,UU 284⟩
theorem acF (a:eD noG):Qc Tryz.prog gp0 DU.fns a:=acG (λa f c H g b h=>by cases h) a
end
end Go.Gx
end
namespace Go.Gx
open Go Go.Sx Go.RowKit
mutual
def FH (k:Nat):GV->GV
 | .ptr h o=> .ptr (k+h) o
 | .sl h o l s=> .sl (k+h) o l s
 | .map h=> .map (k+h)
 | .fn f a b=> .fn f (Tn k a) (Tn k b)
 | .agg cs=> .agg (Tn k cs)
 | .tup vs=> .tup (Tn k vs)
 | .int a b=> .int a b
 | .bool b=> .bool b
 | .str a b=> .str a b
 | .pnil=> .pnil
 | .snil=> .snil
 | .fnil=> .fnil
 | .inil=> .inil
 | .un=> .un
 | .bad=> .bad
 | .opn h=> .opn (k+h)
def Tn (k:Nat):List GV->List GV
 | []=>[]
 |v::r=>FH k v::Tn k r
end
theorem LX (k:Nat):∀(l:List GV) (i:Nat),(Tn k l)[i]? = (l[i]?).map (FH k)
 | [],i=>rfl
 |v::r,0=>rfl
 |v::r,i+1=>by simpa [Tn]using LX k r i
theorem DI (k:Nat):∀(l:List GV),(Tn k l).length=l.length
 | []=>rfl
 |v::r=>by simp[Tn,DI k r]
def Wr (k:Nat):GO->GO
 | .cells cs=> .cells (Tn k cs)
 | .mp es=> .mp (es.map λe=>(FH k e.1,FH k e.2))
def zY (k:Nat) (l:JY):JY:={l with o:=Wr k l.o}
theorem Rl.shift {y e:dH} {k:Nat} (c:∀h l,y h=some l->e (k+h)=some (zY k l)) {g:GV} {v:Value} (h:Rl y g v):Rl e (FH k g) v:=by
 have d:∀{u:List GV} {j:gQ},(∀(i:Nat) g v,u[i]? = some g->j[i]? = some v->Rl e (FH k g) v)->∀(i:Nat) g v,(Tn k u)[i]? = some g->j[i]? = some v->Rl e g v:=by
  intro u j D i g v x E;rw[LX]at x;obtain⟨z,A,rfl⟩:=Option.map_eq_some_iff.1 x;exact D i z v A E
 induction h with
 |int a n=>simp only[FH];exact .int a n
 |bool b=>simp only[FH];exact .bool b
 |str s=>simp only[FH];exact .str s
 |ptr t h=>simp only[FH];exact .ptr (l:=zY k _) t (c _ _ h)
 |pnil=>simp only[FH];exact .pnil
 |sl h C B=>simp only[FH];exact .sl (l:=zY k _) (c _ _ h) C B
 |snil=>simp only[FH];exact .snil
 |map h=>simp only[FH];exact .map (l:=zY k _) (c _ _ h)
 |fn f m w o G q r=>simp only[FH];exact .fn f (by rw[DI];exact m) (d q) (by rw[DI];exact o) (d r)
 |fnil=>simp only[FH];exact .fnil
 |inil=>simp only[FH];exact .inil
 |agg m w o p=>simp only[FH];exact .agg (by rw[DI];exact m) (d p) o
 |tup m w p=>simp only[FH];exact .tup (by rw[DI];exact m) (d p)
 |un=>simp only[FH];exact .un
 |bad v=>simp only[FH];exact .bad v
 |opn v h F=>simp only[FH];exact .opn (l:=zY k _) v (c _ _ h) F
abbrev OL:=List (Nat×Nat×GO)
def Tm:OL->Nat->Option (Nat×GO)
 | [],_=>none
 |x::r,h=>if h=x.1 then some x.2 else Tm r h
theorem LD {b:OL} {h:Nat} {p:Nat×GO} (a:Tm b h=some p):(h,p)∈b:=by
 induction b with
 |nil=>cases a
 |cons x r c=>
  simp only[Tm]at a;split at a
  ·rename_i e;cases a;subst e;exact List.mem_cons_self
  ·exact List.mem_cons_of_mem _ (c a)
noncomputable def NI (k:Nat) (t:Tr (Nat×GO)):OL->Tr (Nat×GO)
 | []=>t
 |x::r=>(NI k t r).set (some (k+x.2.1,Wr k x.2.2)) (k+x.1)
noncomputable def YD:OL->Tr (Nat×GO)
 | []=> .lf
 |x::r=>(YD r).set (some x.2) x.1
theorem CW:∀(a:OL) (h:Nat),(YD a).get h=Tm a h
 | [],h=>rfl
 |x::r,h=>by
  show((YD r).set (some x.2) x.1).get h=_;rw[rS];simp only[Tm];split
  ·rfl
  ·exact CW r h
theorem Jg (k:Nat) (t:Tr (Nat×GO)):∀(b:OL) (h:Nat),(NI k t b).get h=if k<=h then(match Tm b (h - k)with|some p=>some (k+p.1,Wr k p.2)|none=>t.get h)else t.get h
 | [],h=>by simp[NI,Tm]
 | x :: r, h => by
  show((NI k t r).set (some (k+x.2.1,Wr k x.2.2)) (k+x.1)).get h=_;rw[rS,Jg k t r h];by_cases e:h=k+x.1
  ·subst e;rw[if_pos Z,if_pos (by omega)];simp[Tm]
  ·rw[if_neg e];by_cases a:k<=h
   ·rw[if_pos a,if_pos a];simp only[Tm];rw[if_neg (show¬h - k=x.1 by omega)]
   ·rw[if_neg a,if_neg a]
noncomputable def EW (n:Nat) (a:OL):GH:=⟨n,YD a⟩
noncomputable def GH.load (H:GH) (n:Nat) (a:OL):GH:=⟨H.n+n,NI H.n H.t a⟩
section
variable {gs:xS} {w0:eD gs} {w w':World} {ρ ρ2:dH} {H:GH} {n:Nat} {os:OL}
theorem gC {H:GH} {h:Nat} {o:GO}:H.get h=some o↔∃v,H.t.get h=some (v,o):=by
 unfold GH.get;cases c:H.t.get h with
 |none=>simp[ob]
 |some p=>obtain⟨a,b⟩:=p;simp[ob]
theorem rO {H:GH} {h v:Nat}:H.ver h=some v↔∃o,H.t.get h=some (v,o):=by
 unfold GH.ver;cases c:H.t.get h with
 |none=>simp[ob]
 |some p=>obtain⟨a,b⟩:=p;simp[ob]
theorem eX.sub {d:GH} (R:eX w0 ρ H w) (z:d.n=H.n) (m:∀h p,d.t.get h=some p->H.t.get h=some p):eX w0 ρ d w:=by
 have g:∀h o,d.get h=some o->H.get h=some o:=λh o i=>by
  obtain⟨v,j⟩:=gC.1 i;exact gC.2 ⟨v,m _ _ j⟩
 refine⟨R.ext,λh o i=>R.live h o (g h o i),λh q o y l u e f=>R.inj h q o y l u (g _ _ e) (g _ _ f),λh r=>R.fresh h (by omega),λh r=>R.dense h (by omega),λh v l j s=> ?_,R.env⟩
 obtain⟨o,k⟩:=rO.1 j;obtain⟨x,a,b,c⟩:=R.vers h v l (rO.2 ⟨o,m _ _ k⟩) s;refine⟨x,a,b,?_⟩
 have e:=gC.2 ⟨v,k⟩;have f:=g _ _ e;rw[c]at f;cases f;exact e
theorem wF.shift {l:JY} {o:GO} {f:dH} {k:Nat} (d:∀h l,ρ2 h=some l->f (k+h)=some (zY k l)) (h:wF ρ2 w l o):wF f w (zY k l) (Wr k o):=by
 cases o with
 |cells z=>
  obtain⟨j,T,r,s,t,y⟩:=h;refine⟨j,T,r,s,by rw[DI];exact t,λi g e=> ?_⟩
  rw[LX]at e;obtain⟨p,q,rfl⟩:=Option.map_eq_some_iff.1 e;obtain⟨v,a,b,c⟩:=y i p q;exact⟨v,a,b.shift d,c⟩
 |mp A=>
  obtain⟨x,u,r,s,t⟩:=h;refine⟨x,u,r,by simpa [Wr]using s,λi g e=> ?_⟩
  rw[List.getElem?_map]at e;obtain⟨p,q,rfl⟩:=Option.map_eq_some_iff.1 e;obtain⟨m,a,b,c⟩:=t i p q;exact⟨m,a,b.shift d,c.shift d⟩
theorem eX.join {Y:xS} {hb:He Y w λ_=>False} (R:eX w0 ρ H w) (M:eX (eD.of w hb) ρ2 (EW n os) w'):
  ∃s:dH,ρ.le s∧eX w0 s (H.load n os) w'∧∀g v,Rl ρ2 g v->Rl s (FH H.n g) v:=by
 let s:dH:=λh=>if h<H.n then ρ h else(ρ2 (h - H.n)).map (zY H.n);have G:ρ.le s:=λh l f=>by
  have ac:h<H.n:=by
   rcases Nat.lt_or_ge h H.n with q|q
   ·exact q
   ·rw[R.fresh h q]at f;cases f
  show(if h<H.n then ρ h else _)=_;rw[if_pos ac];exact f
 have K:∀h l,ρ2 h=some l->s (H.n+h)=some (zY H.n l):=λh l f=>by
  show(if H.n+h<H.n then _ else _)=_;rw[if_neg (by omega),show H.n+h - H.n=h by omega,f];rfl
 have k:∀h,h<H.n->s h=ρ h:=λh u=>by show(if h<H.n then ρ h else _)=_;rw[if_pos u]
 have d:∀h,H.n<=h->s h=(ρ2 (h - H.n)).map (zY H.n):=λh u=>by show(if h<H.n then ρ h else _)=_;rw[if_neg (by omega)]
 have J:∀h,H.n<=h->H.t.get h=none:=λh u=>by
  cases y:H.t.get h with
  |none=>rfl
  |some p=>exact absurd (R.lt (gC.2 ⟨p.1,y⟩)) (by omega)
 have X:∀h,h<H.n->(H.load n os).t.get h=H.t.get h:=λh u=>by
  show(NI H.n H.t os).get h=_;rw[Jg,if_neg (by omega)]
 have gh:∀h p,H.n<=h->(H.load n os).t.get h=some p->∃x,(EW n os).t.get (h - H.n)=some x∧p=(H.n+x.1,Wr H.n x.2):=λh p u hp=>by
  have A:(NI H.n H.t os).get h=some p:=hp;rw[Jg,if_pos u,J h u]at A;cases hk:Tm os (h - H.n)with
  |none=>rw[hk]at A;cases A
  |some x=>rw[hk]at A;cases A;exact⟨x,(CW os _).trans hk,rfl⟩
 have W:KW w w':=M.ext.ext;have L:∀l:JY,(eD.of w hb).mine l.b->w.heap.size<=l.b:=λl h=>by
  rcases h with h|h
  ·exact h
  ·exact h.elim
 have r:∀h o,h<H.n->(H.load n os).get h=some o->∃l,ρ h=some l∧w0.mine l.b∧wF ρ w l o∧H.get h=some o:=λh o u y=>by
  obtain⟨v,N⟩:=gC.1 y;rw[X h u]at N;have z:=gC.2 ⟨v,N⟩;obtain⟨l,a,b,c⟩:=R.live h o z;exact⟨l,a,b,c,z⟩
 have m:∀h o,H.n<=h->(H.load n os).get h=some o->∃l O,ρ2 (h - H.n)=some l∧w.heap.size<=l.b∧wF ρ2 w' l O∧o=Wr H.n O∧(EW n os).get (h - H.n)=some O:=λh o u y=>by
  obtain⟨v,N⟩:=gC.1 y;obtain⟨x,E,e⟩:=gh h _ u N;cases e;have z:(EW n os).get (h - H.n)=some x.2:=gC.2 ⟨x.1,E⟩;obtain⟨l,a,b,c⟩:=M.live _ _ z;exact⟨l,x.2,a,L l b,c,rfl,z⟩
 refine⟨s,G,⟨R.ext.trans W,λh o y=> ?_,λh B o U l l' V E f j F=> ?_,λh u=> ?_,λh u=> ?_,λh v l N f=> ?_,λi v e=>let ⟨l,a,b⟩:=R.env i v e;⟨l,G _ _ a,b⟩⟩,λg v y=>y.shift K⟩
 ·rcases Nat.lt_or_ge h H.n with q|q
  ·obtain⟨l,a,b,c,_⟩:=r h o q y;exact⟨l,by rw[k h q];exact a,b,c.move G (W.block _ c.lt)⟩
  ·obtain⟨l,O,a,b,c,rfl,_⟩:=m h o q y;exact⟨zY H.n l,by rw[d h q,a];rfl,.inl (Nat.le_trans R.ext.size b),c.shift K⟩
 ·rcases Nat.lt_or_ge h H.n with q|q<;>rcases Nat.lt_or_ge B H.n with I|I
  ·obtain⟨l1,C,_,_,P⟩:=r h o q V;obtain⟨T,D,_,_,Q⟩:=r B U I E;rw[k h q,C]at f;rw[k B I,D]at j;cases f;cases j;exact R.inj h B o U _ _ P Q C D F
  ·obtain⟨l1,C,_,c1,P⟩:=r h o q V;obtain⟨T,O,D,b2,_,rfl,Q⟩:=m B U I E;rw[k h q,C]at f;rw[d B I,D]at j;cases f;cases j;have:=c1.lt;simp only[zY]at F;omega
  ·obtain⟨l1,o1,C,b1,_,rfl,P⟩:=m h o q V;obtain⟨T,D,_,c2,Q⟩:=r B U I E;rw[d h q,C]at f;rw[k B I,D]at j;cases f;cases j;have:=c2.lt;simp only[zY]at F;omega
  ·obtain⟨l1,o1,C,b1,_,rfl,P⟩:=m h o q V;obtain⟨T,O,D,b2,_,rfl,Q⟩:=m B U I E;rw[d h q,C]at f;rw[d B I,D]at j;cases f;cases j;have:=M.inj _ _ _ _ _ _ P Q C D F;omega
 ·have aa:H.n+n<=h:=u;rw[d h (by omega),M.fresh (h - H.n) (by show n<=_;omega)];rfl
 ·have aa:h<H.n+n:=u;rcases Nat.lt_or_ge h H.n with q|q
  ·obtain⟨l,f⟩:=R.dense h q;exact⟨l,by rw[k h q];exact f⟩
  ·obtain⟨l,f⟩:=M.dense (h - H.n) (by show _<n;omega);exact⟨zY H.n l,by rw[d h q,f];rfl⟩
 ·obtain⟨o,S⟩:=rO.1 N;rcases Nat.lt_or_ge h H.n with q|q
  ·rw[X h q]at S;rw[k h q]at f;obtain⟨lv,a,b,c⟩:=R.vers h v l (rO.2 ⟨o,S⟩) f;have y:=gC.2 ⟨v,S⟩;obtain⟨l',j,_,ck⟩:=R.live h o y;rw[f]at j;cases j;refine⟨lv,G _ _ a,by rw[W.block _ ck.lt];exact b,?_⟩
   obtain⟨v2,ad⟩:=gC.1 c;exact gC.2 ⟨v2,by rw[X h q];exact ad⟩
  ·obtain⟨x,E,e⟩:=gh h _ q S;cases e;rw[d h q]at f;obtain⟨T,ab,rfl⟩:=Option.map_eq_some_iff.1 f;obtain⟨lv,a,b,c⟩:=M.vers (h - H.n) x.1 T (rO.2 ⟨x.2,E⟩) ab;refine⟨zY H.n lv,K _ _ a,b,?_⟩
   have h3:(EW n os).get (h - H.n)=some x.2:=gC.2 ⟨x.1,E⟩;rw[c]at h3;have h4:=Option.some.inj h3;exact gC.2 ⟨_,by rw[S,<-h4];rfl⟩
end
theorem UI {a b:Nat×Nat} (h:Ot a b=true):a=b:=by
 obtain⟨f,d⟩:=a;obtain⟨g,e⟩:=b;unfold Ot at h;cases c:Nat.beq d e with
 |false=>simp[c]at h
 |true=>
  simp only[c,cond_true]at h;rw[Nat.eq_of_beq_eq_true h,Nat.eq_of_beq_eq_true c]
theorem Ji {c:dH} {n l:Nat} {x:ByteArray} (a:n=lN (bH x)) (b:l=(bH x).length):Rl c (.str n l) (.string x):=by
 rw[a,b];exact .str x
def Yj (a:List GV) (p:Nat×Nat):Bool:=List.casesOn (motive:=λ_=>Bool) a false λu r=>List.casesOn (motive:=λ_=>Bool) r (Option.casesOn (motive:=λ_=>Bool) (GV.asStr u) false λs=>Ot s p) λ_ _=>false
theorem Pw {b:List GV} {p:Nat×Nat} (h:Yj b p=true):b=[.str p.1 p.2]:=by
 cases b with
 |nil=>cases h
 | cons u r =>
  cases r with
  |cons _ _=>cases h
  | nil =>
   cases a:GV.asStr u with
   |none=>simp[Yj,a]at h
   |some s=>
    have:Ot s p=true:=by simpa [Yj,a]using h
    rw[pL a,UI this]
noncomputable section
def Vz (H:GH) (a:List Nat):Option OL:=List.rec (motive:=λ_=>Option OL) (some []) (λh _ b=>ob (H.t.get h) λp=>ob b λr=>some ((h,p.1,p.2)::r)) a
theorem GK {H:GH}:∀{c:List Nat} {b:OL},Vz H c=some b->∀x∈b,H.t.get x.1=some x.2
 | [],b,h,x,a=>by cases h;cases a
 |h0::c,b,h,x,a=>by
  obtain⟨p,d,h⟩:=aB.1 (show ob (H.t.get h0) (λp=>ob (Vz H c) λr=>some ((h0,p.1,p.2)::r))=some b from h);obtain⟨r,e,h⟩:=aB.1 h;cases h;rcases List.mem_cons.1 a with rfl|a
  ·exact d
  ·exact GK e x a
def Nr (T:Fb) (G:GP) (a f:Nat) (d:List GV) (b:List Nat):Option (GV×Nat×OL):=ob (Hh T G a f d H0) λr=>ob (Vz r.2 b) λc=>some (r.1,r.2.n,c)
def shK {R:Type} (k:Nat) (v:GV) (f:GV->R):R:=GV.casesOn (motive_1:=λ_=>R) v (λa b=>f (.int a b)) (λb=>f (.bool b)) (λa b=>f (.str a b)) (λh o=>sn (Nat.add k h) λh=>f (.ptr h o)) (f .pnil) (λh o l s=>sn (Nat.add k h) λh=>f (.sl h o l s)) (f .snil) (λh=>sn (Nat.add k h) λh=>f (.map h)) (λa b c=>f (FH k (.fn a b c))) (f .fnil) (f .inil) (λd=>f (FH k (.agg d))) (λe=>f (FH k (.tup e))) (f .un) (f .bad) (λh=>sn (Nat.add k h) λh=>f (.opn h))
theorem VQ {R:Type} (k:Nat) (v:GV) (f:GV->R):shK k v f=f (FH k v):=by
 cases v<;>simp[shK,uZ,FH]
def abe {R:Type} (k:Nat) (l:List GV):(List GV->R)->R:=List.rec (motive:=λ_=>(List GV->R)->R) (λf=>f []) (λx _ a f=>shK k x λy=>a λr=>f (y::r)) l
theorem Rq {R:Type} (k:Nat):∀(l:List GV) (f:List GV->R),abe k l f=f (Tn k l)
 | [],f=>rfl
 |x::l,f=>by
  show shK k x (λy=>abe k l λr=>f (y::r))=_;rw[VQ,Rq k l];rfl
def abf {R:Type} (k:Nat) (o:GO) (f:GO->R):R:=GO.casesOn (motive:=λ_=>R) o (λa=>abe k a λa=>f (.cells a)) (λb=>f (Wr k (.mp b)))
theorem YM {R:Type} (k:Nat) (o:GO) (f:GO->R):abf k o f=f (Wr k o):=by
 cases o with
 |cells a=>exact Rq k a _
 |mp b=>rfl
def aaZ {R:Type} (k:Nat) (t:Tr (Nat×GO)) (b:OL):(Tr (Nat×GO)->R)->R:=List.rec (motive:=λ_=>(Tr (Nat×GO)->R)->R) (λf=>f t) (λx _ a f=>a λt=>sn (Nat.add k x.2.1) λv=>sn (Nat.add k x.1) λh=>abf k x.2.2 λo=>t.setK (some (v,o)) h f) b
theorem Rh {R:Type} (k:Nat) (t:Tr (Nat×GO)):∀(a:OL) (f:Tr (Nat×GO)->R),aaZ k t a f=f (NI k t a)
 | [],f=>rfl
 |x::a,f=>by
  show aaZ k t a (λt=>sn (Nat.add k x.2.1) λv=>sn (Nat.add k x.1) λh=>abf k x.2.2 λo=>t.setK (some (v,o)) h f)=_;rw[Rh k t a];simp only[uZ,YM,BA];rfl
def KA (g:GV) (n:Nat) (a:OL) (H:GH):Option (GV×GH):=sn H.n λk=>shK k g λg=>aaZ k H.t a λt=>sn (Nat.add k n) λm=>some (g,⟨m,t⟩)
theorem Vl (g:GV) (n:Nat) (a:OL) (H:GH):KA g n a H=some (FH H.n g,H.load n a):=by
 unfold KA;simp only[uZ,VQ,Rh];rfl
theorem LG {P:Program} {T:Fb} {G:GP} {gs gs2:xS} (j:gs2.obs=gs.obs) (d:gs2.env=[]) (M:Ip T G.tab) (L:∀m:eD gs2,Qc P G T.fns m) {a f n:Nat} {y:List GV} {z:List Value} {O:List Nat} {g:GV} {c:OL} (i:Nr T G a f y O=some (g,n,c)) (C:aR P f)
  {m:eD gs} {w:World} {F:dH} {H o:GH} {B:GV} (Q:oY (λ_=>none) y z) (h:KA g n c H=some (B,o)) (R:eX m F H w):kF P m F f z w B o:=by
 rw[Vl]at h;cases h;obtain⟨r,D,i⟩:=aB.1 (show ob (Hh T G a f y H0) _=some (g,n,c)from i);obtain⟨S,s,i⟩:=aB.1 i;cases i;rw[CK M]at D;have b:He gs2 w λ_=>False:=λp t=>⟨(R.glo p (j▸t)).1,id⟩
 rcases Fl L (H':=r.2) (g:=r.1) D (eX.start (eD.of w b) d) Q with⟨v,E,l,k,_⟩|⟨_,N⟩
 ·have:=C z.toArray w;rw[show(eD.of w b).w=w from rfl,this]at k;cases k
 ·refine .inr ⟨C _ w,N.mono ?_⟩;rintro e E ⟨v,A,rfl,_,I,u⟩;have J:eX (eD.of w b) A (EW r.2.n c) E:=I.sub Z λh p t=>by
   have:Tm c h=some p:=(CW c h).symm.trans t;exact GK s _ (LD this)
  obtain⟨l,q,K,x⟩:=R.join J;exact⟨v,l,rfl,q,K,x _ _ u⟩
theorem KB {P:Program} {T:Fb} {G:GP} {gs:xS} (y:Ip T G.tab) (x:∀H:eD gs,Qc P G T.fns H) {a f n:Nat} {m:List GV} {o:List Value} {D:List Nat} {g:GV} {j:OL} (d:Nr T G a f m D=some (g,n,j)) (z:aR P f)
  (E:oY (λ_=>none) m o) (B:gs.env=[]) (b:eD gs):Calls P f o.toArray b.w λe q=>∃v c,e = .returned v∧eX b c (EW n j) q∧Rl c g v:=by
 obtain⟨r,t,d⟩:=aB.1 (show ob (Hh T G a f m H0) _=some (g,n,j)from d);obtain⟨F,k,d⟩:=aB.1 d;cases d;rw[CK y]at t;rcases Fl x (H':=r.2) (g:=r.1) t (eX.start b B) E with⟨v,q,c,i,_⟩|⟨_,A⟩
 ·have:=z o.toArray b.w;rw[this]at i;cases i
 ·refine A.mono ?_;rintro e q ⟨v,s,rfl,_,u,l⟩;exact⟨v,s,rfl,u.sub Z λh p C=>by
   have:Tm j h=some p:=(CW j h).symm.trans C;exact GK k _ (LD this),l⟩
end
theorem IZ {P:Program} {gs:Nat->xS} {L:List aY} (D:∀w S,(∀h∈L,h.p w S)->∃T,He (gs T) w λ_=>False) {f n:Nat} {z:List Value} {g:GV} {y:OL}
  (h:∀T (b:eD (gs T)),Calls P f z.toArray b.w λe s=>∃v c,e = .returned v∧eX b c (EW n y) s∧Rl c g v) {A:Type} {o:A->Value} {LO:A->List aY}
  (d:∀T (b:eD (gs T)) (B:dH) (w:World) (V:Value),(∀k,b.mine k->b.w.heap.size<=k)->eX b B (EW n y) w->Rl B g V->∃x:A,V=o x∧∀q∈LO x,q.p w (λk=>b.w.heap.size<=k)):
  aW P f z.toArray L o (λ_ l=>l) (λx l=>LO x++l):=by
 intro t C H;obtain⟨T,u⟩:=D t C H;refine(h T (.of t u)).mono ?_;rintro e s ⟨v,c,rfl,R,G⟩;obtain⟨x,rfl,F⟩:=d T (.of t u) c s v (λk r=>r.elim id False.elim) R G;refine⟨x,rfl,R.ext,λ_ _=>False,⟨λi m E=>by simp at E,λi k h=>h.elim,λi j k h=>h.elim⟩,λq a=> ?_⟩
 have a:q∈LO x++[]:=a;rw[List.append_nil]at a;exact aY.wide (F q a) (λk r=>⟨.inr (.inl r),λi h=>h.elim⟩)
noncomputable def Ev (s:ByteArray):Nat×Nat:=(lN (bH s),(bH s).length)
theorem II {a b:ByteArray} (h:Ev a=Ev b):a=b:=by
 have c:=UH a b;unfold Ev at h;rw[h]at c;have e:Ot (lN (bH b),(bH b).length) (lN (bH b),(bH b).length)=true:=by simp[Ot]
 rw[e]at c;have d:a.toList=b.toList:=eq_of_beq c.symm;rw[Lib.toList_data,Lib.toList_data]at d;obtain⟨⟨x⟩⟩:=a;obtain⟨⟨y⟩⟩:=b;simp only at d;rw[d]
noncomputable def Uy (a:List GV):Option (Nat×Nat):=List.casesOn (motive:=λ_=>Option (Nat×Nat)) a none λc r=>List.casesOn (motive:=λ_=>Option (Nat×Nat)) r c.asStr λ_ _=>none
abbrev aba:eG ByteArray:=⟨1,Nat.one_pos,λ_ _ a x=>a=[.string x],λh=>by simp[h],λh _=>h⟩
theorem dB.str {S:Nat->Prop} {g:dH} {w:World}:dB S g w Uy aba Ev:=λgs f y a h _=>by
 cases gs with
 |nil=>cases h
 |cons c gs=>
 cases gs with
 |cons _ _=>cases h
 |nil=>
 have h:c.asStr=some y:=h;obtain⟨v,f,rfl,b,a⟩:=a.of_cons;rw[a.of_nil];rw[pL h]at b;obtain⟨x,rfl,d,e⟩:=b.str_inv;exact⟨x,by unfold Ev;rw[<-d,<-e],rfl⟩
theorem Rv {c:dH} {V:Value} {n l:Nat} {s:ByteArray} (h:Rl c (.str n l) V) (e:Ev s=(n,l)):V = .string s:=by
 obtain⟨x,rfl,a,b⟩:=h.str_inv;have:Ev x=Ev s:=by rw[e];unfold Ev;rw[<-a,<-b]
 rw[II this]
theorem AM {c:Type}:∀a b:c,id a=id b->a=b:=λ_ _ h=>h
theorem tF {c d e i:Type} {f:c->e} {g:d->i} (j:∀a b,f a=f b->a=b) (k:∀a b,g a=g b->a=b):∀a b:c×d,(λz:c×d=>(f z.1,g z.2)) a=(λz:c×d=>(f z.1,g z.2)) b->a=b:=λa b h=>by
 obtain⟨l,m⟩:=a;obtain⟨n,o⟩:=b;simp only[Prod.mk.injEq]at h;rw[j _ _ h.1,k _ _ h.2]
theorem ED {g i:Type} {f:g->i} (e:∀a b,f a=f b->a=b):∀{c d:List g},c.map f=d.map f->c=d
 | [],[],_=>rfl
 | [],_::_,h=>by simp at h
 |_::_,[],h=>by simp at h
 |a::c,b::d,h=>by
  simp only[List.map_cons,List.cons.injEq]at h;rw[e _ _ h.1,ED e h.2]
end Go.Gx
section
set_option maxRecDepth 100000
namespace Go.Gx
open Go Go.Sx Go.Proofs Go.Proofs.YtjkjpdonlpdcaaaGreatDoor
def CQ (l:f_):List GV:=l.map λn=> .int .i64 (.ofNat n)
abbrev aaD:Nat:=6706143830449764899556809608818904919804074884937111603718476495539622089622860971527792587791047894922729163212717263328395231852300855536488424978955807703755604513825873373095632290149847090083112304426652546340939400726262280257803792487332445892473582856512649637013408585975292850644760247287299230258062944610265801223788397479914840704983105145953743025358843726328641031619437354017789814719882883570583131354112070717477863523377784965938515931160728579383844655360852857429048595849656685311997067516701048769715945338084683118784715135226216982869351630641616464718832441949492048937096570154901286325463543707328254906190863546417377904
def mu0:List GV:=[.str aaD 270]
def mg0:GV:=(.agg [(.str 7562850 3),(.sl 1176 0 2 6),(.sl 2078 0 2 3)])
def mo0:OL:=[(1176,1176,.cells [(.str 100 1),(.int .i64 (.ofNat 1)),(.int .i64 (.ofNat 0)),(.int .i64 (.ofNat 0)),(.int .i64 (.ofNat 1)),(.int .i64 (.ofNat 0)),(.str 112 1),(.int .i64 (.ofNat 3)),(.int .i64 (.ofNat 0)),(.int .i64 (.ofNat 0)),(.int .i64 (.ofNat 0)),(.int .i64 (.ofNat 0))]),
 (1300,1300,.cells (CQ [41,0,10,0,42,0,36,0,5,0,1,0,36,0,5,1,4,0])),
 (1326,1326,.cells [(.int .i64 (.ofNat 1)),(.int .i64 (.ofNat 0))]),
 (1359,1359,.cells [(.int .i64 (.ofNat 4)),(.int .i64 (.ofNat 0))]),
 (1367,1367,.cells [(.int .i64 (.ofNat 0)),(.sl 1326 0 1 2),(.int .i64 (.ofNat 1)),(.sl 1359 0 1 2)]),
 (1755,1755,.cells (CQ [41,0,19,0,10,0,42,0,36,0,5,0,43,0,37,0,24,0,12,0,6,0,33,0,24,0,12,0,1,1,6,0,36,0,5,1,23,0,35,0,12,0,24,0,12,0])),
 (1936,1936,.cells (CQ [43,0,37,0,24,0,12,0,6,0,33,0,24,0,12,0,1,1,6,0])),
 (2062,2062,.cells (CQ [23,0,35,0,12,0,24,0,12,0])),
 (2070,2070,.cells [(.int .i64 (.ofNat 0)),(.sl 1936 0 10 2),(.int .i64 (.ofNat 1)),(.sl 2062 0 5 2)]),
 (2078,2078,.cells [(.str 7368564 3),(.sl 1300 0 9 2),(.sl 1367 0 2 2),(.str 7827308 3),(.sl 1755 0 23 2),(.sl 2070 0 2 2)])]
set_option maxHeartbeats 4000000 in
theorem me0:Nr DU gp 4000 7 mu0 [1176,1300,1326,1359,1367,1755,1936,2062,2070,2078]=some (mg0,3136,mo0):=by kernel_rfl
noncomputable def IS (f:Nat) (a:List GV) (H:GH):Option (GV×GH):=bif Nat.beq f 7 then(bif Yj a (aaD,270)then KA mg0 3136 mo0 H else UV f a H)else UV f a H
noncomputable def acJ:GP:=⟨tR,gp.cat,IS,gp.exn⟩
theorem Gu {T:Nat} {k:eD (gl T)} {w:World} {e:dH} {H i:GH} {g:GV} {d:List GV} {j:gQ} {f:Nat} (h:IS f d H=some (g,i)) (R:eX k e H w) (a:oY e d j):kF Tryz.prog k e f j w g i:=by
 unfold IS at h;cases b:Nat.beq f 7 with
 |false=>rw[b]at h;exact Ly h R a
 | true =>
  rw[b]at h;cases c:Yj d (aaD,270)with
  |false=>rw[c]at h;exact Ly h R a
  |true=>
   rw[c]at h;rw[Nat.eq_of_beq_eq_true b];rw[Pw c]at a;obtain⟨V,rfl,n⟩:=a.one;obtain⟨x,rfl,l,m⟩:=n.str_inv;exact LG (gs:=gl T) (gs2:=gl T) Z Z AC Ou me0 Tryz.call7 (oY.cons (Ji l m) .nil) h R
theorem Zd {T:Nat} (a:eD (gl T)):Qc Tryz.prog acJ DU.fns a:=⟨(Ou a).tab,(Ou a).mixed,(Ou a).fns,λh d w c R b=>Gu h R b,(Ou a).exn,(Ou a).cat⟩
abbrev aaE:Nat:=2782272544148574329703548915484139416562471587372346629090892429547018860149309682118537811771073185556707760590527461846276004869770941806974104689717583530206048895217444112283498148464
def mu1:List GV:=[.str aaE 78]
def mg1:GV:=(.agg [(.str 1907970655657516625763 9),(.sl 328 0 1 6),(.sl 491 0 1 3)])
def Vm:OL:=[(328,328,.cells [(.str 99 1),(.int .i64 (.ofNat 1)),(.int .i64 (.ofNat 0)),(.int .i64 (.ofNat 0)),(.int .i64 (.ofNat 1)),(.int .i64 (.ofNat 0))]),
 (410,410,.cells (CQ [21,0,35,0,12,0,5,0])),
 (475,475,.cells (CQ [27,0,12,0])),
 (483,483,.cells [(.int .i64 (.ofNat 0)),(.sl 475 0 2 2)]),
 (491,491,.cells [(.str 7891302 3),(.sl 410 0 4 2),(.sl 483 0 1 2)])]
set_option maxHeartbeats 4000000 in
theorem me1:Nr DU acJ 4000 7 mu1 [328,410,475,483,491]=some (mg1,651,Vm):=by kernel_rfl
noncomputable def IT (f:Nat) (a:List GV) (H:GH):Option (GV×GH):=bif Nat.beq f 7 then(bif Yj a (aaE,78)then KA mg1 651 Vm H else IS f a H)else IS f a H
noncomputable def acK:GP:=⟨tR,gp.cat,IT,gp.exn⟩
theorem Gv {T:Nat} {k:eD (gl T)} {w:World} {e:dH} {H i:GH} {g:GV} {d:List GV} {j:gQ} {f:Nat} (h:IT f d H=some (g,i)) (R:eX k e H w) (a:oY e d j):kF Tryz.prog k e f j w g i:=by
 unfold IT at h;cases b:Nat.beq f 7 with
 |false=>rw[b]at h;exact Gu h R a
 | true =>
  rw[b]at h;cases c:Yj d (aaE,78)with
  |false=>rw[c]at h;exact Gu h R a
  |true=>
   rw[c]at h;rw[Nat.eq_of_beq_eq_true b];rw[Pw c]at a;obtain⟨V,rfl,n⟩:=a.one;obtain⟨x,rfl,l,m⟩:=n.str_inv;exact LG (gs:=gl T) (gs2:=gl T) Z Z AC Zd me1 Tryz.call7 (oY.cons (Ji l m) .nil) h R
theorem Ze {T:Nat} (a:eD (gl T)):Qc Tryz.prog acK DU.fns a:=⟨(Ou a).tab,(Ou a).mixed,(Ou a).fns,λh d w c R b=>Gv h R b,(Ou a).exn,(Ou a).cat⟩
abbrev aaF:Nat:=389508662282641590667193222818340124320258541324365428891725188086024207717159085315988594649689196209224937564443540662539472250600169891651064703471849739348391035222282332234873775082367041688393518087397133674180373991176283487897321372674739070210027174703280392956383328243748401776
def mu2:List GV:=[.str aaF 120]
def mg2:GV:=(.agg [(.str 140756725746397274546925161 11),(.sl 410 0 1 6),(.sl 686 0 2 3)])
def Vn:OL:=[(410,410,.cells [(.str 109 1),(.int .i64 (.ofNat 2)),(.int .i64 (.ofNat 0)),(.int .i64 (.ofNat 0)),(.int .i64 (.ofNat 0)),(.int .i64 (.ofNat 0))]),
 (497,497,.cells (CQ [41,0,5,0,21,0,12,0])),
 (524,524,.cells [(.int .i64 (.ofNat 3)),(.int .i64 (.ofNat 0))]),
 (532,532,.cells [(.int .i64 (.ofNat 0)),(.sl 524 0 1 2)]),
 (643,643,.cells (CQ [41,0,19,0,5,0,19,0,21,0,12,0])),
 (670,670,.cells [(.int .i64 (.ofNat 2)),(.int .i64 (.ofNat 0))]),
 (678,678,.cells [(.int .i64 (.ofNat 0)),(.sl 670 0 1 2)]),
 (686,686,.cells [(.str 435777791340 5),(.sl 497 0 4 2),(.sl 532 0 1 2),(.str 491328400997 5),(.sl 643 0 6 2),(.sl 678 0 1 2)])]
set_option maxHeartbeats 4000000 in
theorem me2:Nr DU acK 4000 7 mu2 [410,497,524,532,643,670,678,686]=some (mg2,983,Vn):=by kernel_rfl
noncomputable def Po (f:Nat) (a:List GV) (H:GH):Option (GV×GH):=bif Nat.beq f 7 then(bif Yj a (aaF,120)then KA mg2 983 Vn H else IT f a H)else IT f a H
noncomputable def acL:GP:=⟨tR,gp.cat,Po,gp.exn⟩
theorem SI {T:Nat} {k:eD (gl T)} {w:World} {e:dH} {H i:GH} {g:GV} {d:List GV} {j:gQ} {f:Nat} (h:Po f d H=some (g,i)) (R:eX k e H w) (a:oY e d j):kF Tryz.prog k e f j w g i:=by
 unfold Po at h;cases b:Nat.beq f 7 with
 |false=>rw[b]at h;exact Gv h R a
 | true =>
  rw[b]at h;cases c:Yj d (aaF,120)with
  |false=>rw[c]at h;exact Gv h R a
  |true=>
   rw[c]at h;rw[Nat.eq_of_beq_eq_true b];rw[Pw c]at a;obtain⟨V,rfl,n⟩:=a.one;obtain⟨x,rfl,l,m⟩:=n.str_inv;exact LG (gs:=gl T) (gs2:=gl T) Z Z AC Ze me2 Tryz.call7 (oY.cons (Ji l m) .nil) h R
theorem acH {T:Nat} (a:eD (gl T)):Qc Tryz.prog acL DU.fns a:=⟨(Ou a).tab,(Ou a).mixed,(Ou a).fns,λh d w c R b=>SI h R b,(Ou a).exn,(Ou a).cat⟩
noncomputable abbrev gp2:GP:=acL
theorem agr {T:Nat} (a:eD (gl T)):Qc Tryz.prog gp2 DU.fns a:=acH a
end Go.Gx
end
namespace Go.Gx
open Go Go.Sx Go.RowKit
structure Hd (n:Nat) (os:OL) (ρ:dH) (w:World) (S:Nat->Prop):Prop where
 live:∀h o,(EW n os).get h=some o->∃l,ρ h=some l∧S l.b∧wF ρ w l o
 inj:∀h h' o o' l l',(EW n os).get h=some o->(EW n os).get h'=some o'->ρ h=some l->ρ h'=some l'->l.b=l'.b->h=h'
 fresh:∀h,n<=h->ρ h=none
 dense:∀h,h<n->∃l,ρ h=some l
 vers:∀h v l,(EW n os).ver h=some v->ρ h=some l->∃lv,ρ v=some lv∧w.heap[l.b]? = some lv.x∧(EW n os).get h=some lv.o
theorem Hd.mono {n:Nat} {p:OL} {f:dH} {w w':World} {S g:Nat->Prop} (H:Hd n p f w S) (h:∀k,S k->k<w.heap.size->g k∧w'.heap[k]? = w.heap[k]?):Hd n p f w' g:=by
 refine⟨λk o s=> ?_,H.inj,H.fresh,H.dense,λk v l m j=> ?_⟩
 ·obtain⟨l,a,b,c⟩:=H.live k o s;obtain⟨d,e⟩:=h _ b c.lt;exact⟨l,a,d,c.move (dH.le_refl f) e⟩
 ·obtain⟨u,a,b,c⟩:=H.vers k v l m j;obtain⟨o,t⟩:=rO.1 m;obtain⟨x,i,q,r⟩:=H.live k o (gC.2 ⟨v,t⟩);rw[j]at i;cases i;exact⟨u,a,by rw[(h _ q r.lt).2];exact b,c⟩
theorem eX.hd {gs:xS} {b:eD gs} {n:Nat} {d:OL} {ρ:dH} {w:World} {S:Nat->Prop} (R:eX b ρ (EW n d) w) (e:∀k,b.mine k->S k):Hd n d ρ w S:=
 ⟨λh o f=>let ⟨l,a,b,c⟩:=R.live h o f;⟨l,a,e _ b,c⟩,R.inj,R.fresh,R.dense,R.vers⟩
def Mq (n:Nat) (b:OL) (g:GV) (V:Value):aY where
 p w S:=∃a,Hd n b a w S∧Rl a g V
 mono:=fun⟨a,h,r⟩ k=>⟨a,h.mono k,r⟩
def Hd.O (n:Nat) (a:OL) (c:dH) (k:Nat):Prop:=∃h o l,(EW n a).get h=some o∧c h=some l∧l.b=k
def Hd.base (n:Nat) (os:OL) (ρ:dH) (w:World):eD noG:=⟨w,Hd.O n os ρ,λ_ h=>absurd h List.not_mem_nil⟩
theorem Hd.rel {n:Nat} {b:OL} {ρ:dH} {w:World} {S:Nat->Prop} (H:Hd n b ρ w S):eX (Hd.base n b ρ w) ρ (EW n b) w:=
 ⟨AY.refl w,λh o d=>let ⟨l,a,_,c⟩:=H.live h o d;⟨l,a,.inr ⟨h,o,l,d,a,rfl⟩,c⟩,H.inj,H.fresh,H.dense,H.vers,λi v e=>by simp[Hd.base,noG]at e⟩
noncomputable def Ei (H:GH) (b:OL):Bool:=List.rec (motive:=λ_=>Bool) true (λx _ a=>Option.casesOn (motive:=λ_=>Bool) (H.ver x.1) false λv=>bif Nat.beq v x.2.1 then a else false) b
theorem NS {H:GH}:∀{a:OL},Ei H a=true->∀x∈a,H.ver x.1=some x.2.1
 | [],_,x,b=>by cases b
 | y :: a, h, x, b => by
  have h:Option.casesOn (motive:=λ_=>Bool) (H.ver y.1) false (λv=>bif Nat.beq v y.2.1 then Ei H a else false)=true:=h;cases c:H.ver y.1 with
  |none=>rw[c]at h;cases h
  | some v =>
   rw[c]at h;obtain⟨d,f⟩:=bN.1 (show(bif Nat.beq v y.2.1 then(some (Ei H a))else none)=some true by
    have h:(bif Nat.beq v y.2.1 then Ei H a else false)=true:=h;cases e:Nat.beq v y.2.1<;>rw[e]at h<;>first|cases h|(show some (Ei H a)=some true;rw[show Ei H a=true from h]))
   rcases List.mem_cons.1 b with rfl|b
   ·rw[c,Nat.eq_of_beq_eq_true d]
   ·exact NS (Option.some.inj f) x b
noncomputable def okV (a:OL) (r:OR):Bool:=Option.casesOn (motive:=λ_=>Bool) r false λr=>Option.casesOn (motive:=λ_=>Bool) r.1.asB false λb=>bif b then Ei r.2 a else false
theorem NB {d:OL} {r:OR} (h:okV d r=true):∃a,r=some (.bool true,a)∧Ei a d=true:=by
 cases r with
 |none=>cases h
 | some r =>
  obtain⟨g,a⟩:=r;have h:Option.casesOn (motive:=λ_=>Bool) g.asB false (λb=>bif b then Ei a d else false)=true:=h;cases c:g.asB with
  |none=>rw[c]at h;cases h
  |some b=>
   rw[c]at h;cases b with
   |false=>cases h
   |true=>exact⟨a,by rw[AJ c],h⟩
theorem Ks {P:Program} {G:GP} {x:FT} (F:∀T:eD noG,Qc P G x T) {fuel f n:Nat} {d:OL} {g:GV} {V:Value} (H:aR P f) (h:∃r,QA G x fuel f [g] (EW n d)=some (.bool true,r)∧Ei r d=true) {w:World} {S:Nat->Prop} (Q:(Mq n d g V).p w S):
  Calls P f #[V] w λe u=>e = .returned (.bool true)∧KW w u:=by
 obtain⟨U,y,M⟩:=Q;obtain⟨r,D,E⟩:=h;rcases Fl F D y.rel (.cons M .nil)with⟨v,u,W,m,_⟩|⟨_,I⟩
 ·have:=H #[V] w;rw[this]at m;cases m
 ·refine I.mono ?_;rintro e u ⟨v,X,rfl,j,c,N⟩;refine⟨by rw[N.bool_inv],c.ext.os,c.ext.tape,c.ext.output,c.ext.size,λk K=> ?_⟩
  by_cases A:Hd.O n d U k
  ·obtain⟨i,o,l,J,z,rfl⟩:=A;obtain⟨t,q⟩:=gC.1 J;have L:(i,t,o)∈d:=LD ((CW d i).symm.trans q);obtain⟨R,a,b,_⟩:=y.vers i t l (rO.2 ⟨o,q⟩) z;obtain⟨s,B,C,_⟩:=c.vers i t l (NS E _ L) (j _ _ z);have:R=s:=by have:=j _ _ a;rw[B]at this;exact(Option.some.inj this).symm
   subst this;exact C.trans b.symm
  ·exact c.ext.block k K A
end Go.Gx
namespace Go.Proofs.YtjkjpdonlpdcaaaGreatDoor
open Go Go.Sx Go.Gx
set_option maxRecDepth 100000
abbrev oG:=ByteArray×(Value×fD)×(Value×List (Int×(Value×fD)))
def vE (z:oG):fD×List (Int×fD):=(z.2.1.2,z.2.2.2.map λs=>(s.1,s.2.2))
def EG:ByteArray:=(ByteArray.mk #[112,114,111,103,114,97,109,32,99,111,108,111,117,114,105,110,103,59,10,118,97,114,32,99,32,58,32,48,32,46,46,32,110,59,10,114,117,108,101,32,102,105,120,58,32,115,111,109,101,40,113,46,99,32,61,61,32,99,41,32,45,62,32,99,32,58,61,32,109,101,120,40,113,46,99,41,59,10])
def GL:FW:=[((ByteArray.mk #[99]),(1:Int),(0:Int),(0:Int),(1:Int),(0:Int))]
def Dz:Jx:=[([(21,0),(35,0),(12,0),(5,0)],[(0,[(27,0),(12,0)])])]
def Zp:List ((Nat×Nat)×fD×List (Int×fD)):=[((7891302,3),[(21,0),(35,0),(12,0),(5,0)],[(0,[(27,0),(12,0)])])]
def EH:ByteArray:=(ByteArray.mk #[112,114,111,103,114,97,109,32,105,110,100,101,112,101,110,100,101,110,116,59,10,118,97,114,32,109,32,58,32,98,111,111,108,59,10,114,117,108,101,32,108,101,97,118,101,58,32,109,32,38,38,32,115,111,109,101,40,113,46,109,41,32,45,62,32,109,32,58,61,32,102,97,108,115,101,59,10,114,117,108,101,32,101,110,116,101,114,58,32,33,109,32,38,38,32,33,115,111,109,101,40,113,46,109,41,32,45,62,32,109,32,58,61,32,116,114,117,101,59,10])
def GM:FW:=[((ByteArray.mk #[109]),(2:Int),(0:Int),(0:Int),(0:Int),(0:Int))]
def DC:Jx:=[([(41,0),(5,0),(21,0),(12,0)],[(0,[(3,0)])]),([(41,0),(19,0),(5,0),(19,0),(21,0),(12,0)],[(0,[(2,0)])])]
def Zq:List ((Nat×Nat)×fD×List (Int×fD)):=[((435777791340,5),[(41,0),(5,0),(21,0),(12,0)],[(0,[(3,0)])]),((491328400997,5),[(41,0),(19,0),(5,0),(19,0),(21,0),(12,0)],[(0,[(2,0)])])]
def PF (V:Value):aY:=⟨λw S=>(Mq 651 Vm mg1 V).p w S∨(Mq 983 Vn mg2 V).p w S,λ{w w' S S'} h k=>by
 rcases h with h|h
 ·exact .inl ((Mq 651 Vm mg1 V).mono h k)
 exact .inr (((Mq 983 Vn mg2 V).mono h k))⟩
noncomputable def TW {R:Type} (D:Jx) (k:List oG->Option R):Option R:=open Classical in if h:∃r,∀z:List oG,z.map vE=D->k z=some r then some (Classical.choose h)else none
theorem Sf {R:Type} {D:Jx} {k:List oG->Option R} {r:R} (h:TW D k=some r) (z:List oG) (a:z.map vE=D):k z=some r:=by
 unfold TW at h;split at h
 ·rename_i e;rw[<-Option.some.inj h];exact Classical.choose_spec e z a
 cases h
theorem Qk {R:Type} {D:Jx} {k:List oG->Option R} {r:R} (h:∀z:List oG,z.map vE=D->k z=some r):TW D k=some r:=by
 have e:∃r,∀z:List oG,z.map vE=D->k z=some r:=⟨r,h⟩
 unfold TW;rw[dif_pos e];let z:List oG:=D.map λx=>(ByteArray.empty,(undef,x.1),(undef,x.2.map λs=>(s.1,(undef,s.2))))
 have c:z.map vE=D:=by
  show(D.map _).map vE=D;rw[List.map_map]
  conv=>rhs;rw[<-List.map_id D]
  refine List.map_congr_left λx _=>?_;obtain⟨a,b⟩:=x;simp[vE,Function.comp_def]
 rw[<-Classical.choose_spec e z c,h z c]
def l_ (a:Nat) (b:ByteArray):Option Ry:=if b=EG then some ((ByteArray.mk #[99,111,108,111,117,114,105,110,103]),GL,Dz)else if b=EH then some ((ByteArray.mk #[105,110,100,101,112,101,110,100,101,110,116]),GM,DC)else none
theorem Um:aR Tryz.prog 7:=Tryz.call7
theorem Ll:aR Tryz.prog 215:=Tryz.call215
theorem NG:Ev EG=(2782272544148574329703548915484139416562471587372346629090892429547018860149309682118537811771073185556707760590527461846276004869770941806974104689717583530206048895217444112283498148464,78):=by kernel_rfl
theorem VA:Ev (ByteArray.mk #[99,111,108,111,117,114,105,110,103])=(1907970655657516625763,9):=by kernel_rfl
theorem VH:JI (EW 651 Vm) 6 (dP 1 Uy (dP 1 (dI .i64) (dP 1 (dI .i64) (dP 1 (dI .i64) (dP 1 (dI .i64) (dI .i64)))))) (.sl 328 0 1 6)=some (GL.map λz=>(Ev z.1,z.2.1,z.2.2.1,z.2.2.2.1,z.2.2.2.2.1,z.2.2.2.2.2)):=by kernel_rfl
theorem SZ:JI (EW 651 Vm) 3 (dP 1 Uy (dP 1 (dS (EW 651 Vm) 2 (dP 1 (dI .i64) (dI .i64))) (dS (EW 651 Vm) 2 (dP 1 (dI .i64) (dS (EW 651 Vm) 2 (dP 1 (dI .i64) (dI .i64))))))) (.sl 491 0 1 3)=some Zp:=by kernel_rfl
theorem YA:Zp.map (λy=>(y.2.1,y.2.2))=Dz:=by kernel_rfl
theorem VC (r:Ry) (h:some ((ByteArray.mk #[99,111,108,111,117,114,105,110,103]),GL,Dz)=some r):aW Tryz.prog 7 #[vS EG] [Gb 0 (cellsOf Cy qP)] (λx:Value×Value×{z:List oG // z.map vE=r.2.2}=>Value.agg #[vS r.1,x.1,x.2.1]) (λx l=>l) (λx l=>Sl aJ x.1 r.2.1::Sl aG x.2.1 x.2.2.1::PF (Value.agg #[vS r.1,x.1,x.2.1])::l):=by
 cases h;refine IZ (gs:=gl) (LO:=λx:Value×Value×{z:List oG // z.map vE=Dz}=>[Sl aJ x.1 GL,Sl aG x.2.1 x.2.2.1,PF (Value.agg #[vS (ByteArray.mk #[99,111,108,111,117,114,105,110,103]),x.1,x.2.1])]) Pq (λT b=>KB AC Zd me1 Um (.cons (Ji (x:=EG) (congrArg Prod.fst NG).symm (congrArg Prod.snd NG).symm) .nil) Z b) ?_;intro T b B w V a R g;have y:=g;obtain⟨f,rfl,c,_⟩:=g.agg_inv;obtain⟨C,f,rfl,m,c⟩:=c.of_cons;obtain⟨j,f,rfl,n,c⟩:=c.of_cons;obtain⟨k,rfl,o⟩:=c.one;obtain rfl:=Rv m VA;obtain⟨A,v,s⟩:=Av R a (dB.pair dB.str (dB.pair (dB.int .i64) (dB.pair (dB.int .i64) (dB.pair (dB.int .i64) (dB.pair (dB.int .i64) (dB.int .i64)))))) n VH;have e:A=GL:=ED (tF (λ_ _=>II) (tF AM (tF AM (tF AM (tF AM AM))))) v;subst e;obtain⟨i,u,t⟩:=Av (r:=aG) R a (dB.pair dB.str (dB.pair (dB.sl R a (dB.pair (dB.int .i64) (dB.int .i64))) (dB.sl R a (dB.pair (dB.int .i64) (dB.sl R a (dB.pair (dB.int .i64) (dB.int .i64))))))) o SZ;have d:i.map vE=Dz:=by
  rw[<-YA,<-u,List.map_map];refine List.map_congr_left λx _=>?_;simp[vE,Function.comp_def]
 exact⟨(j,k,⟨i,d⟩),rfl,List.forall_mem_cons.2 ⟨s,List.forall_mem_cons.2 ⟨t,List.forall_mem_cons.2 ⟨.inl (⟨B,eX.hd R a,y⟩),λq p=>absurd p List.not_mem_nil⟩⟩⟩⟩
theorem Wm:okV Vm (Hh DU gp0 4000 215 [mg1] (EW 651 Vm))=true:=by kernel_rfl
theorem NH:Ev EH=(389508662282641590667193222818340124320258541324365428891725188086024207717159085315988594649689196209224937564443540662539472250600169891651064703471849739348391035222282332234873775082367041688393518087397133674180373991176283487897321372674739070210027174703280392956383328243748401776,120):=by kernel_rfl
theorem VB:Ev (ByteArray.mk #[105,110,100,101,112,101,110,100,101,110,116])=(140756725746397274546925161,11):=by kernel_rfl
theorem VI:JI (EW 983 Vn) 6 (dP 1 Uy (dP 1 (dI .i64) (dP 1 (dI .i64) (dP 1 (dI .i64) (dP 1 (dI .i64) (dI .i64)))))) (.sl 410 0 1 6)=some (GM.map λz=>(Ev z.1,z.2.1,z.2.2.1,z.2.2.2.1,z.2.2.2.2.1,z.2.2.2.2.2)):=by kernel_rfl
theorem S_:JI (EW 983 Vn) 3 (dP 1 Uy (dP 1 (dS (EW 983 Vn) 2 (dP 1 (dI .i64) (dI .i64))) (dS (EW 983 Vn) 2 (dP 1 (dI .i64) (dS (EW 983 Vn) 2 (dP 1 (dI .i64) (dI .i64))))))) (.sl 686 0 2 3)=some Zq:=by kernel_rfl
theorem YB:Zq.map (λy=>(y.2.1,y.2.2))=DC:=by kernel_rfl
theorem VD (r:Ry) (h:some ((ByteArray.mk #[105,110,100,101,112,101,110,100,101,110,116]),GM,DC)=some r):aW Tryz.prog 7 #[vS EH] [Gb 0 (cellsOf Cy qP)] (λx:Value×Value×{z:List oG // z.map vE=r.2.2}=>Value.agg #[vS r.1,x.1,x.2.1]) (λx l=>l) (λx l=>Sl aJ x.1 r.2.1::Sl aG x.2.1 x.2.2.1::PF (Value.agg #[vS r.1,x.1,x.2.1])::l):=by
 cases h;refine IZ (gs:=gl) (LO:=λx:Value×Value×{z:List oG // z.map vE=DC}=>[Sl aJ x.1 GM,Sl aG x.2.1 x.2.2.1,PF (Value.agg #[vS (ByteArray.mk #[105,110,100,101,112,101,110,100,101,110,116]),x.1,x.2.1])]) Pq (λT b=>KB AC Ze me2 Um (.cons (Ji (x:=EH) (congrArg Prod.fst NH).symm (congrArg Prod.snd NH).symm) .nil) Z b) ?_;intro T b B w V a R g;have y:=g;obtain⟨f,rfl,c,_⟩:=g.agg_inv;obtain⟨C,f,rfl,m,c⟩:=c.of_cons;obtain⟨j,f,rfl,n,c⟩:=c.of_cons;obtain⟨k,rfl,o⟩:=c.one;obtain rfl:=Rv m VB;obtain⟨A,v,s⟩:=Av R a (dB.pair dB.str (dB.pair (dB.int .i64) (dB.pair (dB.int .i64) (dB.pair (dB.int .i64) (dB.pair (dB.int .i64) (dB.int .i64)))))) n VI;have e:A=GM:=ED (tF (λ_ _=>II) (tF AM (tF AM (tF AM (tF AM AM))))) v;subst e;obtain⟨i,u,t⟩:=Av (r:=aG) R a (dB.pair dB.str (dB.pair (dB.sl R a (dB.pair (dB.int .i64) (dB.int .i64))) (dB.sl R a (dB.pair (dB.int .i64) (dB.sl R a (dB.pair (dB.int .i64) (dB.int .i64))))))) o S_;have d:i.map vE=DC:=by
  rw[<-YB,<-u,List.map_map];refine List.map_congr_left λx _=>?_;simp[vE,Function.comp_def]
 exact⟨(j,k,⟨i,d⟩),rfl,List.forall_mem_cons.2 ⟨s,List.forall_mem_cons.2 ⟨t,List.forall_mem_cons.2 ⟨.inr ((⟨B,eX.hd R a,y⟩)),λq p=>absurd p List.not_mem_nil⟩⟩⟩⟩
theorem Wn:okV Vn (Hh DU gp0 4000 215 [mg2] (EW 983 Vn))=true:=by kernel_rfl
theorem HJ (a:Nat) {b:ByteArray} (r:Ry) (h:l_ a b=some r):aW Tryz.prog 7 #[vS b] [Gb 0 (cellsOf Cy qP)] (λx:Value×Value×{z:List oG // z.map vE=r.2.2}=>Value.agg #[vS r.1,x.1,x.2.1]) (λx l=>l) (λx l=>Sl aJ x.1 r.2.1::Sl aG x.2.1 x.2.2.1::PF (Value.agg #[vS r.1,x.1,x.2.1])::l):=by
 unfold l_ at h;by_cases c:b=EG
 ·subst c;exact VC r ((if_pos Z).symm.trans h)
 rw[if_neg c]at h;by_cases d:b=EH
 ·subst d;exact VD r ((if_pos Z).symm.trans h)
 rw[if_neg d]at h;cases h
theorem VE (f:Nat):l_ f EG=some ((ByteArray.mk #[99,111,108,111,117,114,105,110,103]),GL,Dz):=by
 unfold l_;exact if_pos Z
theorem VF (f:Nat):l_ f EH=some ((ByteArray.mk #[105,110,100,101,112,101,110,100,101,110,116]),GM,DC):=by
 unfold l_;rw[if_neg (by decide +kernel)];exact if_pos Z
def AP (fuel:Nat) (a:ByteArray×List (ByteArray×Int×Int×Int×Int×Int)×List (oG)):Option Bool:=some true
theorem JU (a:Nat) {b:ByteArray×List (ByteArray×Int×Int×Int×Int×Int)×List (oG)} (f g:Value) (r:Bool) (h:AP a b=some r):
  aW Tryz.prog 215 #[Value.agg #[vS b.1,f,g]] [Sl aJ f b.2.1,Sl aG g b.2.2,PF (Value.agg #[vS b.1,f,g])] (λx:Unit=>vB (r)) (λx l=>l) (λ_ l=>l):=by
 cases h;intro w S z;have s:Calls Tryz.prog 215 #[Value.agg #[vS b.1,f,g]] w λe t=>e = .returned (.bool true)∧KW w t:=by
  rcases z _ (List.mem_of_getElem? (i:=2) rfl)with p|p
  ·refine Ks (fuel:=4000) acF Ll ?_ p;obtain⟨n,c,o⟩:=NB Wm;rw[CK (G:=gp0) AC]at c;exact⟨n,c,o⟩
  refine Ks (fuel:=4000) acF Ll ?_ p;obtain⟨n,c,o⟩:=NB Wn;rw[CK (G:=gp0) AC]at c;exact⟨n,c,o⟩
 refine s.mono ?_;rintro e t ⟨rfl,d⟩;exact⟨(),rfl,⟨d.os,d.tape,d.output,d.size,λk u _=>d.block k u⟩,λ_ _=>False,⟨λi m v=>by simp at v,λi k h=>h.elim,λi j k h=>h.elim⟩,λq y=>by simp at y⟩
end Go.Proofs.YtjkjpdonlpdcaaaGreatDoor
namespace Go.Proofs.YtjkjpdonlpdcaaaGreatDoor
open Go Go.Sx
abbrev adK:=Dh
abbrev PRG:=ByteArray×(List adK)×(List oG)
abbrev GRF:=List Int×fL
abbrev SCN:=PRG×GRF×Int×bE
abbrev WLK:=SCN×bE×Int×fD
inductive E where
 |lf (o a:Int)
 |un (o:Int) (x:E)
 |ag (o:Int) (x:E)
 |bi (o:Int) (x y:E)
 |ite (x y z:E)
def E.ts:E->fD
 |lf o a=>[(o,a)]
 |un o x=>(o,0)::x.ts
 |ag o x=>(o,0)::x.ts
 |bi o x y=>(o,0)::(x.ts++y.ts)
 |ite x y z=>(43,0)::(x.ts++(y.ts++z.ts))
def E.depth:E->Nat
 |lf _ _=>1
 |un _ x=>x.depth+1
 |ag _ x=>x.depth+1
 |bi _ x y=>max x.depth y.depth+1
 |ite x y z=>max x.depth (max y.depth z.depth)+1
def E.arOk:E->Bool
 |lf o _=>decide (1<=o)&&decide (o<=17)
 |un o x=>decide (18<=o)&&decide (o<=19)&&x.arOk
 |ag o x=>decide (20<=o)&&decide (o<=29)&&x.arOk
 |bi o x y=>decide (30<=o)&&decide (o<=42)&&x.arOk&&y.arOk
 |ite x y z=>x.arOk&&y.arOk&&z.arOk
theorem Lk {a:Type} [Inhabited a] {T pre rest:List a} {x:a} {k:Nat} (b:T=pre++x::rest) (c:pre.length=k):at' T (k:Int)=x:=by
 subst b;exact Sj pre rest x k c
theorem dG {k:Nat} (h:k<1000000):wI .i64 ((k:Int)+1)=((k+1:Nat):Int):=by rw[wr (by omega) (by omega)];rfl
theorem TZ (f:Nat) {o:Int} (a:1<=o) (b:o<=43):vX f o=some (if o<=17 then 0 else if o<=29 then 1 else if o<=42 then 2 else 3):=by
 unfold vX xQ;rw[if_neg (by omega)];simp only[decide_eq_true_eq];rw[if_neg (by omega)];split
 ·rfl
 ·split
  ·rfl
  ·split<;>rfl
theorem UG {F:Nat} {T c rest:fD} {t:dQ} {k m a:Nat} {b:Nat} (d:T=c++t::rest) (g:c.length=k) (i:k<1000) (n:m<3000) (e:vX F t.1=some ((a:Nat):Int)) (f:a<=3) (j:m+a≠0):
  bP (lK F T) (b+1) ((k:Int),(m:Int))=if m+a=1 then some (((k+1:Nat):Int))else bP (lK F T) b (((k+1:Nat):Int),((m+a - 1:Nat):Int)):=by
 have l:k<T.length:=by rw[d];simp;omega
 show lK F T ((k:Int),(m:Int)) (bP (lK F T) b)=_;unfold lK;dsimp only;rw[if_pos (by omega),cS (by omega),Lk d g,bF e,if_neg (by omega),wr (x:=((a:Nat):Int) - 1) (by omega) (by omega),wr (by omega) (by omega),dG (by omega)];by_cases h:m+a=1
 ·rw[if_pos h,if_pos (by omega)]
 ·rw[if_neg h,if_neg (by omega)];have:(m:Int)+((a:Int) - 1)=((m+a - 1:Nat):Int):=by omega
  rw[this]
theorem XU (F:Nat) (T:fD) (H:T.length<=900):∀(e:E),e.arOk=true->∀(c k m:Nat) (d b:fD),T=d++(e.ts++b)->d.length=k->1<=m->m+2*(e.ts++b).length<=1900->e.ts.length<=c->
  bP (lK F T) c ((k:Int),(m:Int))=if m=1 then some (((k+e.ts.length:Nat):Int))else bP (lK F T) (c - e.ts.length) (((k+e.ts.length:Nat):Int),((m - 1:Nat):Int)):=by
 have r:∀{t:dQ} {l b d:fD} {c k m:Nat},T=d++((t::l)++b)->d.length=k->(t::l).length<=c->1<=t.1->t.1<=43->1<=m->m+2*((t::l)++b).length<=1900->∀a:Nat,(if t.1<=17 then 0 else if t.1<=29 then 1 else if t.1<=42 then 2 else 3:Int)=a->a<=3->∃f,c=f+1∧
   bP (lK F T) c ((k:Int),(m:Int))=if m+a=1 then some (((k+1:Nat):Int))else bP (lK F T) f (((k+1:Nat):Int),((m+a - 1:Nat):Int)):=by
  intro t l b d c k m n p q v w i j a I B;have A:=congrArg List.length n;simp only[List.length_append,List.length_cons]at A j q;obtain⟨f,rfl⟩:∃f,c=f+1:=⟨c - 1,by omega⟩
  exact⟨f,rfl,UG (rest:=l++b) (by simpa using n) p (by omega) (by omega) (by rw[TZ F v w,I]) B (by omega)⟩
 intro e
 induction e with
 |lf o a=>
  intro g c k m d b n p i j q;simp only[E.arOk,Bool.and_eq_true,decide_eq_true_eq]at g;obtain⟨f,rfl,h⟩:=r (t:=(o,a)) (l:=[]) n p q (by dsimp only;omega) (by dsimp only;omega) i j 0 (by rw[if_pos (by dsimp only;omega)];rfl) (by omega);rw[h];rfl
 |un o x C=>
  intro g c k m d b n p i j q;simp only[E.arOk,Bool.and_eq_true,decide_eq_true_eq]at g;obtain⟨f,rfl,h⟩:=r (t:=(o,0)) (l:=x.ts) n p q (by dsimp only;omega) (by dsimp only;omega) i j 1 (by rw[if_neg (by dsimp only;omega),if_pos (by dsimp only;omega)];rfl) (by omega);simp only[E.ts,List.length_cons]at q j ⊢;rw[h,if_neg (by omega)];have:=C g.2 f (k+1) m (d++[(o,0)]) b (by rw[n];simp[E.ts]) (by simp[p]) i (by simp at j ⊢;omega) (by omega);rw[show m+1 - 1=m by omega,this,show k+1+x.ts.length=k+(x.ts.length+1) by omega,show f+1 - (x.ts.length+1)=f - x.ts.length by omega]
 |ag o x C=>
  intro g c k m d b n p i j q;simp only[E.arOk,Bool.and_eq_true,decide_eq_true_eq]at g;obtain⟨f,rfl,h⟩:=r (t:=(o,0)) (l:=x.ts) n p q (by dsimp only;omega) (by dsimp only;omega) i j 1 (by rw[if_neg (by dsimp only;omega),if_pos (by dsimp only;omega)];rfl) (by omega);simp only[E.ts,List.length_cons]at q j ⊢;rw[h,if_neg (by omega)];have:=C g.2 f (k+1) m (d++[(o,0)]) b (by rw[n];simp[E.ts]) (by simp[p]) i (by simp at j ⊢;omega) (by omega);rw[show m+1 - 1=m by omega,this,show k+1+x.ts.length=k+(x.ts.length+1) by omega,show f+1 - (x.ts.length+1)=f - x.ts.length by omega]
 |bi o x y s u=>
  intro g c k m d b n p i j q;simp only[E.arOk,Bool.and_eq_true,decide_eq_true_eq]at g;obtain⟨f,rfl,h⟩:=r (t:=(o,0)) (l:=x.ts++y.ts) n p q (by dsimp only;omega) (by dsimp only;omega) i j 2 (by rw[if_neg (by dsimp only;omega),if_neg (by dsimp only;omega),if_pos (by dsimp only;omega)];rfl) (by omega);simp only[E.ts,List.length_cons,List.length_append]at q j ⊢;rw[h,if_neg (by omega)];have v:=s g.1.2 f (k+1) (m+1) (d++[(o,0)]) (y.ts++b) (by rw[n];simp[E.ts]) (by simp[p]) (by omega) (by simp at j ⊢;omega) (by omega);have w:=u g.2 (f - x.ts.length) (k+1+x.ts.length) m (d++((o,0)::x.ts)) b (by rw[n];simp[E.ts]) (by simp[p];omega) (by omega) (by simp at j ⊢;omega) (by omega);rw[show m+2 - 1=m+1 by omega,v,if_neg (by omega),show m+1 - 1=m by omega,w,show k+1+x.ts.length+y.ts.length=k+(x.ts.length+y.ts.length+1) by omega,show f+1 - (x.ts.length+y.ts.length+1)=f - x.ts.length - y.ts.length by omega]
 |ite x y z s u D=>
  intro g c k m d b n p i j q;simp only[E.arOk,Bool.and_eq_true,decide_eq_true_eq]at g;obtain⟨f,rfl,h⟩:=r (t:=(43,0)) (l:=x.ts++(y.ts++z.ts)) n p q (by decide) (by decide) i j 3 Z (by omega);simp only[E.ts,List.length_cons,List.length_append]at q j ⊢;rw[h,if_neg (by omega)];have v:=s g.1.1 f (k+1) (m+2) (d++[(43,0)]) (y.ts++z.ts++b) (by rw[n];simp[E.ts]) (by simp[p]) (by omega) (by simp at j ⊢;omega) (by omega);have w:=u g.1.2 (f - x.ts.length) (k+1+x.ts.length) (m+1) (d++((43,0)::x.ts)) (z.ts++b) (by rw[n];simp[E.ts]) (by simp[p];omega) (by omega) (by simp at j ⊢;omega) (by omega);have G:=D g.2 (f - x.ts.length - y.ts.length) (k+1+x.ts.length+y.ts.length) m (d++((43,0)::(x.ts++y.ts))) b (by rw[n];simp[E.ts]) (by simp[p];omega) (by omega) (by simp at j ⊢;omega) (by omega);rw[show m+3 - 1=m+2 by omega,v,if_neg (by omega),show m+2 - 1=m+1 by omega,w,if_neg (by omega),show m+1 - 1=m by omega,G,show k+1+x.ts.length+y.ts.length+z.ts.length=k+(x.ts.length+(y.ts.length+z.ts.length)+1) by omega,show f+1 - (x.ts.length+(y.ts.length+z.ts.length)+1)=f - x.ts.length - y.ts.length - z.ts.length by omega]
theorem aaw (F:Nat) (e:E) (d:e.arOk=true) {T b a:fD} {k:Nat} (f:T=b++(e.ts++a)) (i:b.length=k) (j:T.length<=800) (h:e.ts.length<=F):BR F T (k:Int)=some (((k+e.ts.length:Nat):Int)):=by
 have g:1<=e.ts.length:=by cases e<;>simp[E.ts]
 have c:=congrArg List.length f;simp only[List.length_append]at c;unfold BR AE;rw[if_neg (by omega)];simp only[decide_eq_true_eq];rw[if_neg (by omega)];have:=XU F T (by omega) e d F k 1 b a f i (by omega) (by simp;omega) h;rw[if_pos Z]at this;exact this
def Gk (b:Bool):Int:=if b then 1 else 0
theorem tQ (f:Nat) (b:Bool):iO f b=some (Gk b):=by cases b<;>rfl
theorem Bo {a:Type} [Inhabited a] {l:List a} {k:Nat} (h:k<l.length):l.take (k+1)=l.take k++[at' l (k:Int)]:=by
 rw[List.take_add_one,List.getElem?_eq_getElem h,jM,List.getD_eq_getElem?_getD,List.getElem?_eq_getElem h];rfl
theorem lC {a:Type} [Inhabited a] {l:List a} {k:Nat} (h:k<l.length):at' l (k:Int)=l[k]:=by
 rw[jM,List.getD_eq_getElem?_getD,List.getElem?_eq_getElem h];rfl
theorem Kv {p:Nat->Prop}:∀(n:Nat),p n->∃m,m<=n∧p m∧∀j,j<m->¬p j:=by
 intro n
 induction n using Nat.strongRecOn with
 | _ n ih =>
  intro h;by_cases d:∃m,m<n∧p m
  ·obtain⟨m,e,f⟩:=d;obtain⟨k,a,b,c⟩:=ih m e f;exact⟨k,by omega,b,c⟩
  ·exact⟨n,Nat.le_refl n,h,λj g i=>d ⟨j,g,i⟩⟩
theorem Q_ {g:Type} [DecidableEq g]:∀(c b:List g),c.Nodup->(∀x∈c,x∈b)->c.length<=b.length
 | [],b,_,_=>Nat.zero_le _
 |a::c,b,h,hs=>by
  have d:=hs a List.mem_cons_self;have h:=List.nodup_cons.1 h;have:=Q_ c (b.erase a) h.2 (λx f=>(List.mem_erase_of_ne (fun(e:x=a)=>h.1 (by rw[<-e];exact f))).2 (hs x (List.mem_cons_of_mem _ f)));rw[List.length_erase_of_mem d]at this;have i:0<b.length:=List.length_pos_of_mem d;simp only[List.length_cons];omega
def nz (x:Int):Bool:=decide (x≠0)
theorem Uu (f:Nat) (l:aS) (h:l.length<f) (e:l.length<=1000):qF f l=some ((l.countP nz:Nat):Int):=by
 unfold qF;have:=eF (step:=qV l) (K:=some ((l.countP nz:Nat):Int)) l.length (λk=>(((l.take k).countP nz:Nat),(k:Int))) (λk b c=>by
  have d:(l.take k).countP nz<=k:=Nat.le_trans List.countP_le_length (by simp;omega);unfold qV tE;dsimp only;rw[if_pos (by omega),cS (by omega),Bo c,List.countP_append,dG (by omega),dG (by omega)];by_cases a:at' l (k:Int)=0
  ·rw[if_neg (by simpa using a)];simp[nz,a]
  ·rw[if_pos a];simp[nz,a]) (λb=>by
  unfold qV xG;dsimp only;rw[if_neg (by omega),List.take_length]) f h
 exact this
theorem Hj (f:Nat) (l:aS) (x:Int) (h:l.length<f) (t:l.length<=1000):rI f l x=some (decide (x∈l)):=by
 have q:∃i:Int,pX f l x=some i∧(0<=i↔x∈l):=by
  by_cases b:x∈l
  ·obtain⟨i,r,o⟩:=List.mem_iff_getElem.1 b;have a:∃i,i<l.length∧at' l (i:Int)=x∧∀j,j<i->at' l (j:Int)≠x:=by
    obtain⟨m,d,c,s⟩:=Kv (p:=λi=>at' l (i:Int)=x) i (by rw[lC r,o]);exact⟨m,by omega,c,s⟩
   obtain⟨i,r,d,c⟩:=a;refine⟨i,?_,iff_of_true (by omega) b⟩
   unfold pX;exact eF (step:=kC l x) (K:=some (i:Int)) i (λk=>(k:Int)) (λk n g=>by
    unfold kC;rw[if_pos (by omega),cS (by omega),if_neg (λe=>c k g e.symm),dG (by omega)]) (λn=>by
    unfold kC;rw[if_pos (by omega),cS (by omega),if_pos d.symm]) f (by omega)
  ·refine⟨-1,?_,iff_of_false (by omega) b⟩
   unfold pX;exact eF (step:=kC l x) (K:=some (-1)) l.length (λk=>(k:Int)) (λk n g=>by
    unfold kC;rw[if_pos (by omega),cS (by omega),if_neg (λe=>b (by rw[e,lC g];exact List.getElem_mem g)),dG (by omega)]) (λn=>by
    unfold kC uH;rw[if_neg (by omega)]) f h
 obtain⟨i,d,c⟩:=q;unfold rI;rw[bF d];by_cases b:x∈l
 ·rw[decide_eq_true b,decide_eq_true (c.2 b)]
 ·rw[decide_eq_false b,decide_eq_false (λe=>b (c.1 e))]
def BK (l:aS):Int:=match l.findIdx? nz with
 |some i=>(i:Int)
 |none=> -1
theorem Ay {l:aS} {i:Nat} (a:i<l.length) (b:at' l (i:Int)≠0) (c:∀j,j<i->at' l (j:Int)=0):BK l=i:=by
 have:l.findIdx? nz=some i:=by
  rw[List.findIdx?_eq_some_iff_getElem];refine⟨a,by rw[<-lC a];simpa [nz]using b,λj d=> ?_⟩
  have:=c j d;rw[lC (by omega)]at this;simp[nz,this]
 unfold BK;rw[this]
theorem Ax {l:aS} (h:∀j,j<l.length->at' l (j:Int)=0):BK l = -1:=by
 have:l.findIdx? nz=none:=by
  rw[List.findIdx?_eq_none_iff];intro x b;obtain⟨i,a,rfl⟩:=List.mem_iff_getElem.1 b;have:=h i a;rw[lC a]at this;simp[nz,this]
 unfold BK;rw[this]
theorem US (f:Nat) (l:aS) (h:l.length<f) (t:l.length<=1000):nL f l (λq=>oW f q)=some (BK l):=by
 unfold nL;by_cases a:∃i,i<l.length∧at' l (i:Int)≠0
 ·obtain⟨i,s,o⟩:=a;obtain⟨m,r,n,b⟩:=Kv (p:=λi=>at' l (i:Int)≠0) i o;have b:∀j,j<m->at' l (j:Int)=0:=λj d=>Decidable.not_not.1 (b j d);rw[Ay (by omega) n b];exact eF (step:=fR l _) (K:=some (m:Int)) m (λk=>(k:Int)) (λk c g=>by
   unfold fR oW;rw[if_pos (by omega),cS (by omega),bF Z,if_neg (by simp[b k g]),dG (by omega)]) (λc=>by
   unfold fR oW;rw[if_pos (by omega),cS (by omega),bF Z,if_pos (by simpa using n)]) f (by omega)
 ·have a:∀j,j<l.length->at' l (j:Int)=0:=λj d=>Decidable.not_not.1 λe=>a ⟨j,d,e⟩;rw[Ax a];exact eF (step:=fR l _) (K:=some (-1)) l.length (λk=>(k:Int)) (λk c g=>by
   unfold fR oW;rw[if_pos (by omega),cS (by omega),bF Z,if_neg (by simp[a k g]),dG (by omega)]) (λc=>by
   unfold fR pI;rw[if_neg (by omega)]) f h
def aaT (l:aS):Int:=l.foldl min 1073741824
theorem aaU (f:Nat) (l:aS) (h:l.length<f) (c:l.length<=1000):bP (sK l) f ((1073741824:Int),(0:Int))=some (aaT l):=by
 exact eF (step:=sK l) (K:=some (aaT l)) l.length (λk=>((l.take k).foldl min 1073741824,(k:Int))) (λk a b=>by
  unfold sK;dsimp only;rw[if_pos (by omega),cS (by omega),Bo b,List.foldl_append,dG (by omega)];rfl) (λa=>by
  unfold sK y_;dsimp only;rw[if_neg (by omega),List.take_length];rfl) f h
def Ns (l:aS):Nat->Nat->Nat
 |0,k=>k
 |f+1,k=>if((k:Nat):Int)∈l then Ns l f (k+1)else k
def EE (l:aS):Nat:=Ns l (l.length+1) 0
theorem Bh (l:aS):((EE l:Nat):Int)∉l∧(∀j,j<EE l->((j:Nat):Int)∈l)∧EE l<=l.length:=by
 have key:∀(f k:Nat),(∀j,j<k->((j:Nat):Int)∈l)->(∀j,j<Ns l f k->((j:Nat):Int)∈l)∧(Ns l f k=k+f∨((Ns l f k:Nat):Int)∉l):=by
  intro f
  induction f with
  |zero=>intro k h;exact⟨h,.inl Z⟩
  | succ f ih =>
   intro k h;by_cases hk:((k:Nat):Int)∈l
   ·have:=ih (k+1) (λj hj=>by
     rcases Nat.lt_or_ge j k with q|q
     ·exact h j q
     ·rw[show j=k by omega];exact hk)
    simp only[Ns,if_pos hk];exact⟨this.1,this.2.imp (λe=>by omega) id⟩
   ·simp only[Ns,if_neg hk];exact⟨h,.inr hk⟩
 have hle:∀m,(∀j,j<m->((j:Nat):Int)∈l)->m<=l.length:=λm h=>by
  have:=Q_ ((List.range m).map λj=>((j:Nat):Int)) l (by
   rw[List.nodup_iff_pairwise_ne,List.pairwise_map];exact(List.nodup_iff_pairwise_ne.1 List.nodup_range).imp (λh e=>h (by omega))) (λx hx=>by
   obtain⟨j,hj,rfl⟩:=List.mem_map.1 hx;exact h j (List.mem_range.1 hj))
  simpa using this
 obtain⟨h1,h2⟩:=key (l.length+1) 0 (λj hj=>by omega);have h3:=hle _ h1;refine⟨?_,h1,h3⟩
 rcases h2 with h2|h2
 ·have:Ns l (l.length+1) 0<=l.length:=h3;omega
 ·exact h2
theorem aaS (f:Nat) (l:aS) (h:l.length+2<f) (hl:l.length<=900):zV f l=some ((EE l:Nat):Int):=by
 obtain⟨h1,h2,h3⟩:=Bh l;unfold zV;exact eF (step:=xV f l) (K:=some ((EE l:Nat):Int)) (EE l) (λk=>(k:Int)) (λk ag hk=>by
  unfold xV;rw[bF (Hj f l (k:Int) (by omega) (by omega)),if_pos (by simpa using h2 k hk),dG (by omega)]) (λag=>by
  unfold xV Aw;rw[bF (Hj f l _ (by omega) (by omega)),if_neg (by simpa using h1)]) f (by omega)
def YO (l:aS):Int:=l.foldl (λa x=>wI .i64 (a+x)) 0
theorem abi (f:Nat) (l:aS) (h:l.length<f) (c:l.length<=1000):bP (sL f l) f ((0:Int),(0:Int))=BJ f (YO l):=by
 refine(eF (step:=sL f l) l.length (λk=>(YO (l.take k),(k:Int))) (λk a b=> ?_) (λa=> ?_) f h).trans Z
 ·unfold sL;dsimp only;rw[if_pos (by omega),cS (by omega),dG (by omega),Bo b];unfold YO;rw[List.foldl_append];rfl
 ·unfold sL;dsimp only;rw[if_neg (by omega),List.take_length]
def QK (o:Int) (l:aS):Int:=
 if o=20 then Gk (l.all nz)else if o=21 then Gk (l.any nz)else if o=22 then((l.countP nz:Nat):Int)else if o=23 then BK l else if o=24 then aaT l else if o=26 then max (-1073741824) (min (YO l) 1073741824)else((EE l:Nat):Int)
theorem Yb (f:Nat) (o:Int) (l:aS) (hf:40<=f) (hl:l.length<=24) (ho:o=20∨o=21∨o=22∨o=23∨o=24∨o=26∨o=27):Az f o l=some (QK o l):=by
 have hc:=Uu f l (by omega) (by omega);unfold Az;rcases ho with rfl|rfl|rfl|rfl|rfl|rfl|rfl
 ·rw[if_pos Z,bF hc,bF (tQ f _),QK,if_pos Z];have:(decide (((l.countP nz:Nat):Int)=(l.length:Int)))=l.all nz:=by
   rw[Bool.eq_iff_iff];simp[List.countP_eq_length,Int.ofNat_inj]
  rw[this]
 ·rw[if_neg (by decide),if_pos Z,bF hc,bF (tQ f _),QK,if_neg (by decide),if_pos Z];have:(decide ((0:Int)<((l.countP nz:Nat):Int)))=l.any nz:=by
   rw[Bool.eq_iff_iff,decide_eq_true_eq,List.any_eq_true,show((0:Int)<((l.countP nz:Nat):Int))↔0<l.countP nz by omega,List.countP_pos_iff]
  rw[this]
 ·rw[if_neg (by decide),if_neg (by decide),if_pos Z,bF hc];rfl
 ·rw[if_neg (by decide),if_neg (by decide),if_neg (by decide),if_pos Z,bF (US f l (by omega) (by omega))];rfl
 ·rw[if_neg (by decide),if_neg (by decide),if_neg (by decide),if_neg (by decide),if_pos Z,aaU f l (by omega) (by omega)];rfl
 ·rw[if_neg (by decide),if_neg (by decide),if_neg (by decide),if_neg (by decide),if_neg (by decide),if_neg (by decide),if_pos Z,abi f l (by omega) (by omega)];rfl
 ·rw[if_neg (by decide),if_neg (by decide),if_neg (by decide),if_neg (by decide),if_neg (by decide),if_neg (by decide),if_neg (by decide),if_pos Z,bF (aaS f l (by omega) (by omega))];rfl
end Go.Proofs.YtjkjpdonlpdcaaaGreatDoor
namespace Go.Proofs.YtjkjpdonlpdcaaaGreatDoor
open Go.Sx
def rX (U:Nat) (a:dJ):Option (Int):=
 ck (0<=(List.length a.1:Int)) (some (wI .u32 ((wC .u32 (1:Int) (List.length a.1:Int)) - (1:Int))))
theorem Qo:aR Tryz.prog 105:=Tryz.call105
theorem Ht (U:Nat) {a:dJ} (b:Value)  (d:Value)  (f:mV) (r:Int) (h:rX U a=some r):
  aW Tryz.prog 105 #[Value.agg #[b,d]] [Sl bJ b a.1,S2 bG d f a.2] (λx:Unit=>vU (r)) (λx l=>l) (λ_ l=>l):=by
 refine aW.of Tryz.func105 Z Tryz.ntmps105 Z λc=>?_;refine aP<|aH (aL.box (cs:=[b,d]) Z Z) Z λg=>aC Z<|aN<|aP<|bV Z<|dO 0 Z<|jS (aF.fact 0 Z) Z<|eH h λe h=>aD (Ff Z Z e) Z<|aD (q_ Z Z) Z<|aC Z<|aN<|aV ?_;cases h;exact wD Z
def Ci  (a:aS):Option aS:=
 some (a)
def yI (c:Int×aS×aS) (b:(Int×aS×aS)->Option aS) (a:aS×aS):Option aS:=
 b ((wI .i64 (c.1+(1:Int))),a.1,a.2)
def yK (c:dJ) (b:aS×aS) (e:(aS×aS)->Option aS) (a:Int×aS×aS) (d:(Int×aS×aS)->Option aS):Option aS:=
 if a.1<(List.length (at' c.2 (at' b.1 (0:Int))):Int)then(ck (0<=a.1∧a.1<(List.length (at' c.2 (at' b.1 (0:Int))):Int)) (ck (0<=((at' (at' c.2 (at' b.1 (0:Int))) a.1).1)∧((at' (at' c.2 (at' b.1 (0:Int))) a.1).1)<(List.length a.2.2:Int)) (if(at' a.2.2 ((at' (at' c.2 (at' b.1 (0:Int))) a.1).1))<(0:Int)then(ck (0<=(at' b.1 (0:Int))∧(at' b.1 (0:Int))<(List.length a.2.2:Int)) (ck (0<=((at' (at' c.2 (at' b.1 (0:Int))) a.1).1)∧((at' (at' c.2 (at' b.1 (0:Int))) a.1).1)<(List.length a.2.2:Int)) (ck ((List.length a.2.1:Int)+(List.length ([((at' (at' c.2 (at' b.1 (0:Int))) a.1).1)]):Int)<=1099511627) (yI a d ((a.2.1++([((at' (at' c.2 (at' b.1 (0:Int))) a.1).1)])),(List.set a.2.2 (Int.toNat ((at' (at' c.2 (at' b.1 (0:Int))) a.1).1)) (wI .i64 ((at' a.2.2 (at' b.1 (0:Int)))+(1:Int)))))))))else(yI a d (a.2.1,a.2.2)))))else(e (a.2.1,a.2.2))
def yJ (c:Nat) (d:dJ) (a:aS×aS) (b:(aS×aS)->Option aS):Option aS:=
 if(0:Int)<(List.length a.1:Int)then(ck (0<=(0:Int)∧(0:Int)<(List.length a.1:Int)) (ck (0<=(1:Int)∧(1:Int)<=(List.length a.1:Int)) (ck (0<=(at' a.1 (0:Int))∧(at' a.1 (0:Int))<(List.length d.2:Int)) (bP (yK d a b) c ((0:Int),(List.drop (Int.toNat (1:Int)) a.1),a.2)))))else(Ci  (a.2))
def Ch (a:Nat) (d:dJ) (b:Int) (c:aS):Option aS:=
 ck (0<=b∧b<(List.length c:Int)) (bP (yJ a d) a (([b]),(List.set c (Int.toNat b) (0:Int))))
def Cj (c:Nat) (d:dJ) (e:Int) (a:Aj) (b:(Int×aS)->Option aS):Option aS:=
 if a.1<(List.length (List.replicate (Int.toNat (List.length d.2:Int)) (0:Int)):Int)then(ck (0<=a.1∧a.1<(List.length a.2:Int)) (b ((wI .i64 (a.1+(1:Int))),(List.set a.2 (Int.toNat a.1) (-1:Int)))))else(Ch c d e (a.2))
def CS (a:Nat) (b:dJ) (c:Int):Option aS:=
 ck (0<=(List.length b.2:Int)∧(List.length b.2:Int)<=1099511627) (bP (Cj a b c) a ((0:Int),(List.replicate (Int.toNat (List.length b.2:Int)) (0:Int))))
def pG  (a:Int):Option (Int):=
 some (a)
def pH (b:bE) (d:Int) (a:dQ) (c:dY->Option (Int)):Option (Int):=
 if a.2<(List.length b:Int)then(ck (0<=a.2∧a.2<(List.length b:Int)) (ck (0<=d∧d<(List.length (at' b a.2):Int)) (ck (0<=a.2) (c ((Ec .u32 a.1 (wC .u32 (wI .u32 (at' (at' b a.2) d)) a.2)),(wI .i64 (a.2+(1:Int))))))))else(pG  (a.1))
def nJ (U:Nat) (a:bE) (b:Int):Option (Int):=
 bP (pH a b) U ((0:Int),(0:Int))
theorem Xc:aR Tryz.prog 146:=Tryz.call146
theorem EN (U:Nat) {f:bE} {g:Int} (j:Value)  (n:pA) (r:Int) (h:nJ U f g=some r):
  aW Tryz.prog 146 #[j,vI (g)] [S2 bJ j n f] (λx:Unit=>vU (r)) (λx l=>l) (λ_ l=>l):=by
 refine aW.of Tryz.func146 Z Tryz.ntmps146 Z λc=>?_;unfold nJ at h;refine aP<|aC Z<|aN<|aP<|aC Z<|aN<|aM<|fF (λd=>pG  d=some r) (λd k=>[(5,vU (d))]) (λd k=>[]) ?_ ?_
 ·refine aP<|aA Z<|aD (kE Z (aF.fact 0 Z) Z) Z<|aA Z<|aN<|aT<|fJ (pH f g) (λb m=>[(1,vI (g)),(5,vU (b.1)),(8,j),(9,vI (List.length f:Int)),(10,vI (b.2))]) (λb m=>[]) ((0:Int),(0:Int)) () h SF (bA.refl _) ?_;intro o b m h;refine aP<|cW Z<|aN<|aM ?_;refine dK h Z (λh=>?_) λh=>?_
  ·refine cT<|aM<|aT<|aP<|aA Z<|eH h λa h=>aD (cV Z Z (aF.fact 0 Z) Z Z a) Z<|aD (cX Z (aF.fact 0 Z) Z Z a) Z<|aC Z<|aC Z<|aN<|aQ<|aA Z<|aA Z<|aA Z<|eH h λe h=>aD (bK Z Z (aF.el (aF.fact 0 Z) a.1 a.2) Z Z e) Z<|aD (cQ Z (aF.el (aF.fact 0 Z) a.1 a.2) Z Z Z fG e) Z<|aD (Gg Z Z Z) Z<|aA Z<|eH h λi h=>aD (Ff Z Z i) Z<|aD (Le Z Z) Z<|aC Z<|eN<|oP<|aQ<|cJ Z<|aA Z<|aN ?_;exact AX ((Ec .u32 b.1 (wC .u32 (wI .u32 (at' (at' f b.2) g)) b.2)),(wI .i64 (b.2+(1:Int)))) () h SF Z
  refine gX ?_;exact iP (b.1) () h SF Z
 intro d k h;unfold pG at h;refine aP<|aA Z<|aC Z<|aN<|aV ?_;cases h;exact lL Z
def sZ (b:dJ) (a:fL):Option sB:=
 some ((b.1,a))
def mB (U:Nat) (b:AU) (d:dJ) (a:Int×fL) (c:(Int×fL)->Option sB) (e:Bool):Option sB:=
 if e=true then(ck (0<=a.1∧a.1<(List.length b.2.1:Int)) (Option.bind (fK U (at' b.2.1 a.1) (List.length d.2:Int)) λf=>(ck (0<=(wI .i64 (a.1+(1:Int)))∧(wI .i64 (a.1+(1:Int)))<(List.length b.2.1:Int)) (Option.bind (fK U (at' b.2.1 (wI .i64 (a.1+(1:Int)))) (List.length d.2:Int)) λg=>(Option.bind (rZ U b.2.2.1 a.1) λh=>(Option.bind (fK U h (15:Int)) λi=>(Option.bind (nH U ((b.1,b.2.1,b.2.2.1,b.2.2.2.1,b.2.2.2.2.1,b.2.2.2.2.2)) ((d.1,a.2)) f g (wI .i64 ((1:Int)+i))) λj=>(c ((wI .i64 (a.1+(2:Int))),j)))))))))else(sZ d (a.2))
def pE (U:Nat) (c:AU) (d:dJ) (a:Int×fL) (b:(Int×fL)->Option sB):Option sB:=
 if(wI .i64 (a.1+(1:Int)))<(List.length c.2.1:Int)then(mB U c d a b (decide (a.1<(60:Int))))else(mB U c d a b (false))
def kV (U:Nat) (b:AU) (a:dJ):Option sB:=
 bP (pE U b a) U ((List.length a.2:Int),a.2)
theorem Uh:aR Tryz.prog 25:=Tryz.call25
theorem Ab (U:Nat) {a:AU} {e:dJ} (n:Value)  (m:Value)  (o:Value)  (f:Value)  (g:Value)  (O:gQ) (r:yD) (h:kV U a e=some r):
  Er Tryz.prog 25 #[Value.agg #[vI (a.1),n,m,o,vB (a.2.2.2.2.1),vB (a.2.2.2.2.2)],Value.agg #[f,g]] [Ar cI f e.1,Ar dD.raw g O,jH bU O e.2] [Sl bJ n a.2.1,Sl bJ m a.2.2.1,Sl bJ o a.2.2.2.1] (λx:Oa=>Value.agg #[x.1,x.2.1]) (λx l=>Ar cI x.1 r.1::Ar dD.raw x.2.1 x.2.2::jH bU x.2.2 r.2::l):=by
 refine Er.of (vs:=[Value.agg #[vI (a.1),n,m,o,vB (a.2.2.2.2.1),vB (a.2.2.2.2.2)],Value.agg #[f,g]]) Tryz.func25 Z Tryz.ntmps25 Z λc=>?_;unfold kV at h;refine aP<|aH (aL.box (cs:=[vI (a.1),n,m,o,vB (a.2.2.2.2.1),vB (a.2.2.2.2.2)]) Z Z) Z λv=>aH (aL.box (cs:=[f,g]) Z Z) Z λq=>aH (aL.alloc (cs:=[lX,lX]) Z Z) Z λs=>aN<|aP<|bV Z<|dO 1 Z<|aD (kE Z (aX (i:=4) (j:=5) Z Z bI) Z) Z<|aC Z<|aN<|aM<|sX (B:=gQ) (λt=>sZ e t=some r) (λt u=>[(3,vP q),(4,vP s)]) (λt u=>[bX s [lX,lX] 27,bX q [f,g] 27,Ar cI f e.1,Ar dD.raw g u,jH bU u t]) (λt u=>[Sl bJ n a.2.1,Sl bJ m a.2.2.1,Sl bJ o a.2.2.2.1]) ?_ ?_
 ·refine aP<|aA Z<|aC Z<|aN<|aT<|Dn (B:=gQ) (pE U a e) (λb d=>[(2,vP v),(3,vP q),(4,vP s),(5,vI (List.length e.2:Int)),(6,vI (b.1))]) (λb d=>[bX s [lX,lX] 27,bX q [f,g] 27,bX v [vI (a.1),n,m,o,vB (a.2.2.2.2.1),vB (a.2.2.2.2.2)] 24,Ar cI f e.1,Ar dD.raw g d,jH bU d b.2]) (λb d=>[Sl bJ n a.2.1,Sl bJ m a.2.2.1,Sl bJ o a.2.2.2.1]) ((List.length e.2:Int),e.2) (O) h SF (bA.refl _) (aE.refl _ _) ?_;intro J b d h;refine aM<|aM<|sX (B:=Unit) (λk=>mB U a e b (bP (pE U a e) J) k=some r) (λk p=>[(2,vP v),(3,vP q),(4,vP s),(5,vI (List.length e.2:Int)),(6,vI (b.1)),(20,vB (k))]) (λk p=>[bX s [lX,lX] 27,bX q [f,g] 27,bX v [vI (a.1),n,m,o,vB (a.2.2.2.2.1),vB (a.2.2.2.2.2)] 24,Ar cI f e.1,Ar dD.raw g d,jH bU d b.2]) (λk p=>[Sl bJ n a.2.1,Sl bJ m a.2.2.1,Sl bJ o a.2.2.2.1]) ?_ ?_
  ·refine aQ<|aA Z<|cJ Z<|bV Z<|dO 2 Z<|jS (aF.fact 0 Z) Z<|cW Z<|aA Z ?_;refine CP h Z (λ_ h=>?_) λ_ h=>?_
   ·refine eP Z<|aU Z (Hg Z Z) Z<|eR Z<|aN ?_;exact iP (decide (b.1<(60:Int))) () h SF Z
   refine aI Z<|aI Z<|eY Z<|aN ?_;exact iP (false) () h SF Z
  intro k p h;refine BF h Z (λ_ h=>?_) λ_ h=>?_
  ·refine cT<|aM<|aT ?_;refine JR.start [0,0,0,4,0,28,60,0,252,0,512,0,2048,7680,15872,0,65532,0,131072,0,1048572,2097148,4194300,8388607] 23 mixedOrders (by decide +kernel) ?_;refine JR.open (by exact rfl) ?_;refine fP 2 Z<|fP 1 Z<|cH Z<|gU 2 Z<|bD Z<|eH h λE h=>bL Z .nil (nW 0 Z) (bK Z Z (aF.fact 0 Z) Z Z E) aO.z<|bL Z .nil (nW 0 Z) (cQ Z (aF.fact 0 Z) Z Z Z fG E) aO.z<|bD Z<|fE h λK w h=>JR.loud Z Z Z (aL.callQ BE (jT U  K w) Z .nil) Z (λP=>(mP [([1],[]),([2],[])] Z)) λP=>iB Z (dM Z Z Z Z Z)<|bL Z (bA.cons 2 Z .nil) .nil (eS 0 Z Z Z Z Z) (aO.h (bA.ix [2] Z Z) .nil aO.z)<|iB Z (gR Z)<|iB Z (zN Z Z)<|eH h λF h=>bL Z .nil (nW 0 Z) (bK Z Z (aF.fact 0 Z) Z Z F) (aO.h .nil (nW 0 Z) aO.z)<|bL Z .nil (nW 0 Z) (cQ Z (aF.fact 0 Z) Z Z Z fG F) (aO.h .nil (nW 0 Z) aO.z)<|iB Z (gR Z)<|fE h λL y h=>JR.loud Z Z Z (aL.callQ BE (jT U  L y) Z .nil) Z (λQ=>(mP [([1],[]),([2],[])] Z)) λQ=>iB Z (dM Z Z Z Z Z)<|bL Z (bA.cons 2 Z .nil) .nil (eS 0 Z Z Z Z Z) (aO.h (bA.ix [2] Z Z) .nil (aO.h (bA.ix [2] Z Z) .nil aO.z))<|iB Z (gR Z)<|fE h λM A h=>JR.loud Z Z Z (aL.callQ Ix (Af U m M A) Z (mK [1] Z)) Z (λR=>(mP [([1],[]),([2],[])] Z)) λR=>fE h λN C h=>JR.loud Z Z Z (aL.callQ BE (jT U  N C) Z .nil) Z (λS=>(mP [([1],[]),([2],[])] Z)) λS=>iB Z (zN Z Z)<|bQ 23 Z Z<|fE h λG D h=>aH (By (Min:=[Ar dD.raw g d,jH bU d b.2]) (Mr:=[bX s [lX,lX] 27,bX q [f,g] 27,bX v [vI (a.1),n,m,o,vB (a.2.2.2.2.1),vB (a.2.2.2.2.2)] 24,Ar cI f e.1]) Qn (Aa U n m o f g d G D) Z (bA.ix [4,5,0,1,2,3] Z Z) (aE.cons (aF.fact 0 Z) (aE.cons (aF.fact 1 Z) (aE.cons (aF.fact 2 Z) (aE.cons (a_ (aF.res 3 Z) dL) .nil)))) (λ_ _=>rfl)) Z λT=>eN<|oP<|aQ<|aA Z<|cJ Z<|aC Z<|aN ?_;exact mW ((wI .i64 (b.1+(2:Int))),G) (T) h SF (bA.ix [2,3,4,5,0,1] Z Z) (aE.refl _ _)
  refine gX ?_;exact b_ (b.2) (d) h SF (bA.ix [0,1,3,4,5] Z Z) (aE.refl _ _)
 intro t u h;unfold sZ at h;refine aP<|dC 1 Z<|bZ (Know.one ((a_ (aF.res 2 Z) dL))) λH=>bZ (Know.one (aF.sl (aX (i:=3) (j:=4) Z Z bI))) λI=>bO 0 (vs:=[f,g]) Z Z (cG H (cG I Z)) Z Z Z<|aN<|aV ?_;cases h;exact jE (f,g,u) Z Z (RV.cell 0 Z Z Z Z) (bA.ix [2,3,4] Z Z) aE.nil
def lS (U:Nat) (a:AU) (d:Int):Option sB:=
 Option.bind (nG U ((a.1,a.2.1,a.2.2.1,a.2.2.2.1,a.2.2.2.2.1,a.2.2.2.2.2)) d) λb=>(Option.bind (kV U ((a.1,a.2.1,a.2.2.1,a.2.2.2.1,a.2.2.2.2.1,a.2.2.2.2.2)) ((b.1,b.2))) λc=>(some ((c.1,c.2))))
theorem acw:aR Tryz.prog 5:=Tryz.call5
theorem Bn (U:Nat) {a:AU} {o:Int} (d:Value)  (e:Value)  (f:Value) (r:yD) (h:lS U a o=some r):
  aW Tryz.prog 5 #[Value.agg #[vI (a.1),d,e,f,vB (a.2.2.2.2.1),vB (a.2.2.2.2.2)],vI (o)] [Sl bJ d a.2.1,Sl bJ e a.2.2.1,Sl bJ f a.2.2.2.1] (λx:Oa=>Value.agg #[x.1,x.2.1]) (λx l=>Ar cI x.1 r.1::Ar dD.raw x.2.1 x.2.2::jH bU x.2.2 r.2::l) (λ_ l=>l):=by
 refine aW.of Tryz.func5 Z Tryz.ntmps5 Z λc=>?_;refine aP<|aH (aL.box (cs:=[vI (a.1),d,e,f,vB (a.2.2.2.2.1),vB (a.2.2.2.2.2)]) Z Z) Z λp=>aH (aL.alloc (cs:=[lX,lX]) Z Z) Z λq=>aN<|aM ?_;refine JR.start [0,0,0,6,15,31] 4 mixedOrders (by decide +kernel) ?_;refine JR.open (by exact rfl) ?_;refine fP 1 Z<|fP 1 Z<|bD Z<|fE h λn t h=>JR.loud Z Z Z (aL.callQ Ui (z_ U d e f n t) Z (mK [0,1,2] Z)) Z (λb=>(mP [([4],[])] Z)) λb=>bQ 4 Z Z<|fE h λs u h=>aH (By (Min:=[Ar cI b.1 n.1,Ar dD.raw b.2.1 b.2.2,jH bU b.2.2 n.2]) (Mr:=[bX q [lX,lX] 27,bX p [vI (a.1),d,e,f,vB (a.2.2.2.2.1),vB (a.2.2.2.2.2)] 24]) Uh (Ab U d e f b.1 b.2.1 b.2.2 s u) Z (bA.refl _) (mK [0,1,2] Z) (λ_ _=>rfl)) Z λk=>bZ (Know.one ((a_ (aF.res 0 Z) dL))) λm=>bZ (Know.one (aF.sl (aX (i:=1) (j:=2) Z Z bI))) λg=>bO 3 (vs:=[k.1,k.2.1]) Z Z (cG m (cG g Z)) Z Z Z<|aN<|aV ?_;cases h;exact jE (k.1,k.2.1,k.2.2) Z Z (RV.cell 3 Z Z Z Z) (bA.ix [0,1,2] Z Z) aE.nil
def oQ (U:Nat) (a:AU) (c:Int):Option sB:=
 if(!a.2.2.2.2.1)=true then(Option.bind (lS U ((a.1,a.2.1,a.2.2.1,a.2.2.2.1,a.2.2.2.2.1,a.2.2.2.2.2)) c) λd=>(some ((d.1,d.2))))else(Option.bind (mE U ((a.1,a.2.1,a.2.2.1,a.2.2.2.1,a.2.2.2.2.1,a.2.2.2.2.2)) c) λe=>(Option.bind (kV U ((a.1,a.2.1,a.2.2.1,a.2.2.2.1,a.2.2.2.2.1,a.2.2.2.2.2)) ((e.1,e.2))) λb=>(some ((b.1,b.2)))))
theorem ZU:aR Tryz.prog 17:=Tryz.call17
theorem FJ (U:Nat) {b:AU} {v:Int} (e:Value)  (f:Value)  (g:Value) (r:yD) (h:oQ U b v=some r):
  aW Tryz.prog 17 #[Value.agg #[vI (b.1),e,f,g,vB (b.2.2.2.2.1),vB (b.2.2.2.2.2)],vI (v)] [Sl bJ e b.2.1,Sl bJ f b.2.2.1,Sl bJ g b.2.2.2.1] (λx:Oa=>Value.agg #[x.1,x.2.1]) (λx l=>Ar cI x.1 r.1::Ar dD.raw x.2.1 x.2.2::jH bU x.2.2 r.2::l) (λ_ l=>l):=by
 refine aW.of Tryz.func17 Z Tryz.ntmps17 Z λc=>?_;refine aP<|aH (aL.box (cs:=[vI (b.1),e,f,g,vB (b.2.2.2.2.1),vB (b.2.2.2.2.2)]) Z Z) Z λw=>aH (aL.alloc (cs:=[lX,lX]) Z Z) Z λy=>aN<|aM<|aP<|bV Z<|dO 1 Z<|aD (wG Z) Z<|aN ?_;refine BF h Z (λ_ h=>?_) λ_ h=>?_
 ·refine aP<|dC 1 Z<|aA Z<|fE h λz A h=>aH (aL.callQ acw (Bn U e f g z A) Z (mK [0,1,2] Z)) Z λn=>bZ (Know.one ((a_ (aF.res 0 Z) dL))) λo=>bZ (Know.one (aF.sl (aX (i:=1) (j:=2) Z Z bI))) λp=>bO 3 (vs:=[n.1,n.2.1]) Z Z (cG o (cG p Z)) Z Z Z<|aN<|aV<|aK ?_;cases h;exact jE (n.1,n.2.1,n.2.2) Z Z (RV.cell 3 Z Z Z Z) (bA.ix [0,1,2] Z Z) aE.nil
 refine cT<|aM ?_;refine JR.start [0,0,0,6,15,31] 4 mixedOrders (by decide +kernel) ?_;refine JR.open (by exact rfl) ?_;refine fP 1 Z<|fP 1 Z<|bD Z<|fE h λs t h=>JR.loud Z Z Z (aL.callQ Ul (yS U e f g s t) Z (mK [0,1,2] Z)) Z (λa=>(mP [([4],[])] Z)) λa=>bQ 4 Z Z<|fE h λq u h=>aH (By (Min:=[Ar cI a.1 s.1,Ar dD.raw a.2.1 a.2.2,jH bU a.2.2 s.2]) (Mr:=[bX y [lX,lX] 27,bX w [vI (b.1),e,f,g,vB (b.2.2.2.2.1),vB (b.2.2.2.2.2)] 24]) Uh (Ab U e f g a.1 a.2.1 a.2.2 q u) Z (bA.refl _) (mK [0,1,2] Z) (λ_ _=>rfl)) Z λd=>bZ (Know.one ((a_ (aF.res 0 Z) dL))) λk=>bZ (Know.one (aF.sl (aX (i:=1) (j:=2) Z Z bI))) λm=>bO 3 (vs:=[d.1,d.2.1]) Z Z (cG k (cG m Z)) Z Z Z<|aN<|aV ?_;cases h;exact jE (d.1,d.2.1,d.2.2) Z Z (RV.cell 3 Z Z Z Z) (bA.ix [0,1,2] Z Z) aE.nil
def yH  (a:Unit):Option (Int):=
 some (-1:Int)
def tX (c:dJ) (d:Int) (e:Int) (a:Int) (b:(Int)->Option (Int)):Option (Int):=
 if a<(List.length (at' c.2 d):Int)then(ck (0<=a∧a<(List.length (at' c.2 d):Int)) (if((at' (at' c.2 d) a).1)=e then(some (a))else(b (wI .i64 (a+(1:Int))))))else(yH  (()))
def rY (U:Nat) (b:dJ) (a:Int) (c:Int):Option (Int):=
 ck (0<=a∧a<(List.length b.2:Int)) (bP (tX b a c) U (0:Int))
theorem Xl:aR Tryz.prog 197:=Tryz.call197
theorem Jn (U:Nat) {a:dJ} {b:Int} {i:Int} (j:Value)  (k:Value)  (o:mV) (r:Int) (h:rY U a b i=some r):
  aW Tryz.prog 197 #[Value.agg #[j,k],vI (b),vI (i)] [Sl bJ j a.1,S2 bG k o a.2] (λx:Unit=>vI (r)) (λx l=>l) (λ_ l=>l):=by
 refine aW.of Tryz.func197 Z Tryz.ntmps197 Z λc=>?_;refine aP<|aH (aL.box (cs:=[j,k]) Z Z) Z λq=>aC Z<|aN<|aM<|fF (λg=>yH  g=some r) (λg m=>[]) (λg m=>[]) ?_ ?_
 ·refine aP<|bV Z<|dO 0 Z<|aA Z<|eH h λe h=>aD (cV Z Z (aF.fact 1 Z) Z Z e) Z<|aD (cX Z (aF.fact 1 Z) Z Z e) Z<|aD (kR Z (aF.el (aF.fact 1 Z) e.1 e.2) Z) Z<|aA Z<|aN<|aT<|fJ (tX a b i) (λd n=>[(2,vI (i)),(13,(at' o b).1),(14,vI (List.length (at' a.2 b):Int)),(15,vI (d))]) (λd n=>[]) (0:Int) () h SF .nil ?_;intro s d n h;refine aP<|cW Z<|aN<|aM ?_;refine dK h Z (λh=>?_) λh=>?_
  ·refine cT<|aM<|aT<|aP<|aA Z<|eH h λf h=>aD (bK Z Z (aF.el (aF.fact 1 Z) e.1 e.2) Z Z f) Z<|aD (g_ (cs:=[vI ((at' (at' a.2 b) d).1),vI ((at' (at' a.2 b) d).2)]) Z (aF.el (aF.fact 1 Z) e.1 e.2) bI Z Z Z Z f) Z<|aH (aL.alloc (cs:=Ti) Z Z) Z λp=>aC Z<|bO 0 (vs:=[vI ((at' (at' a.2 b) d).1),vI ((at' (at' a.2 b) d).2)]) Z Z Z Z Z Z<|aN<|aP<|bV Z<|dO 0 Z<|aA Z<|bR Z<|aN ?_;refine dK h Z (λh=>?_) λh=>?_
   ·refine aP<|aA Z<|aC Z<|aN<|aV<|bS<|aK<|aK<|bS<|aK ?_;cases h;exact wD Z
   refine dR<|oP<|aQ<|cJ Z<|aA Z<|aN ?_;exact mW (wI .i64 (d+(1:Int))) () h SF .nil (aE.refl _ _)
  refine gX ?_;exact iP () (()) h SF Z
 intro g m h;unfold yH at h;refine aP<|aC Z<|aN<|aV ?_;cases h;exact lL Z
def tY  (a:Int):Option (Int):=
 some (a)
def tZ (c:dQ) (b:dY->Option (Int)) (a:Int):Option (Int):=
 b (a,(wI .i64 (c.2+(1:Int))))
def qM (b:dQ) (a:dY->Option (Int)) (c:Int):Option (Int):=
 a (c,(wI .i64 (b.2+(1:Int))))
def t_ (d:dJ) (f:Int) (c:dQ) (e:dY->Option (Int)) (a:dQ) (b:dY->Option (Int)):Option (Int):=
 if a.2<(List.length (at' d.2 c.2):Int)then(ck (0<=a.2∧a.2<(List.length (at' d.2 c.2):Int)) (ck (0<=((at' (at' d.2 c.2) a.2).1)) (if(dA .u32 (lY .u32 f ((at' (at' d.2 c.2) a.2).1)) (1:Int))=(1:Int)then(ck (0<=c.2) (qM a b (Ec .u32 a.1 (wC .u32 (1:Int) c.2))))else(qM a b (a.1)))))else(tZ c e (a.1))
def oA (U:Nat) (c:dJ) (d:Int) (a:dQ) (b:dY->Option (Int)):Option (Int):=
 if a.2<(List.length c.2:Int)then(ck (0<=a.2∧a.2<(List.length c.2:Int)) (bP (t_ c d a b) U (a.1,(0:Int))))else(tY  (a.1))
def pV (U:Nat) (a:dJ) (b:Int):Option (Int):=
 bP (oA U a b) U ((0:Int),(0:Int))
theorem Xy:aR Tryz.prog 249:=Tryz.call249
theorem Jo (U:Nat) {d:dJ} {i:Int} (v:Value)  (k:Value)  (w:mV) (r:Int) (h:pV U d i=some r):
  aW Tryz.prog 249 #[Value.agg #[v,k],vU (i)] [Sl bJ v d.1,S2 bG k w d.2] (λx:Unit=>vU (r)) (λx l=>l) (λ_ l=>l):=by
 refine aW.of Tryz.func249 Z Tryz.ntmps249 Z λc=>?_;unfold pV at h;refine aP<|aH (aL.box (cs:=[v,k]) Z Z) Z λB=>aC Z<|aN<|aP<|aC Z<|aN<|aM<|fF (λm=>tY  m=some r) (λm y=>[(5,vU (m))]) (λm y=>[]) ?_ ?_
 ·refine aP<|bV Z<|dO 0 Z<|aD (kE Z (aF.fact 1 Z) Z) Z<|aA Z<|aN<|aT<|fJ (oA U d i) (λb z=>[(1,vU (i)),(5,vU (b.1)),(11,k),(12,vI (List.length d.2:Int)),(13,vI (b.2))]) (λb z=>[]) ((0:Int),(0:Int)) () h SF .nil ?_;intro j b z h;refine aP<|cW Z<|aN<|aM ?_;refine dK h Z (λh=>?_) λh=>?_
  ·refine cT<|aM<|fF (λf=>tZ b (bP (oA U d i) j) f=some r) (λf n=>[(1,vU (i)),(5,vU (f)),(11,k),(12,vI (List.length d.2:Int)),(13,vI (b.2))]) (λf n=>[]) ?_ ?_
   ·refine aT<|aP<|aA Z<|eH h λe h=>aD (cV Z Z (aF.fact 1 Z) Z Z e) Z<|aD (cX Z (aF.fact 1 Z) Z Z e) Z<|aC Z<|aC Z<|aN<|aP<|aA Z<|aD (kR Z (aF.el (aF.fact 1 Z) e.1 e.2) Z) Z<|aA Z<|aN<|aT<|fJ (t_ d i b (bP (oA U d i) j)) (λa o=>[(1,vU (i)),(5,vU (a.1)),(6,vI (b.2)),(11,k),(12,vI (List.length d.2:Int)),(13,vI (b.2)),(18,(at' w b.2).1),(19,vI (List.length (at' d.2 b.2):Int)),(20,vI (a.2))]) (λa o=>[]) (b.1,(0:Int)) () h SF (bA.refl _) ?_;intro u a o h;refine aP<|cW Z<|aN<|aM ?_;refine dK h Z (λh=>?_) λh=>?_
    ·refine cT<|aM<|fF (λg=>qM a (bP (t_ d i b (bP (oA U d i) j)) u) g=some r) (λg p=>[(1,vU (i)),(5,vU (g)),(6,vI (b.2)),(11,k),(12,vI (List.length d.2:Int)),(13,vI (b.2)),(18,(at' w b.2).1),(19,vI (List.length (at' d.2 b.2):Int)),(20,vI (a.2))]) (λg p=>[]) ?_ ?_
     ·refine aT<|aP<|eH h λq h=>aD (bK Z Z (aF.el (aF.fact 1 Z) e.1 e.2) Z Z q) Z<|aD (g_ (cs:=[vI ((at' (at' d.2 b.2) a.2).1),vI ((at' (at' d.2 b.2) a.2).2)]) Z (aF.el (aF.fact 1 Z) e.1 e.2) bI Z Z Z Z q) Z<|aH (aL.alloc (cs:=Ti) Z Z) Z λA=>bO 0 (vs:=[vI ((at' (at' d.2 b.2) a.2).1),vI ((at' (at' d.2 b.2) a.2).2)]) Z Z Z Z Z Z<|aN<|aP<|aA Z<|bV Z<|dO 0 Z<|eH h λs h=>aD (Fg Z Z s) Z<|xZ Z<|bR Z<|aN ?_;refine dK h Z (λh=>?_) λh=>?_
      ·refine aQ<|aA Z<|aA Z<|eH h λt h=>aD (Ff Z Z t) Z<|aD (Le Z Z) Z<|aC Z<|eN<|oP ?_;exact b_ (Ec .u32 a.1 (wC .u32 (1:Int) b.2)) () h SF .nil (aE.refl _ _)
      refine dR<|oP ?_;exact b_ (a.1) () h SF .nil (aE.refl _ _)
     intro g p h;unfold qM at h;refine aQ<|cJ Z<|aA Z<|aN ?_;exact AX (g,(wI .i64 (a.2+(1:Int)))) () h SF Z
    refine sW<|eZ<|eZ<|yR<|oP ?_;exact iP (a.1) () h SF Z
   intro f n h;unfold tZ at h;refine aQ<|cJ Z<|aA Z<|aN ?_;exact AX (f,(wI .i64 (b.2+(1:Int)))) () h SF Z
  refine gX ?_;exact iP (b.1) () h SF Z
 intro m y h;unfold tY at h;refine aP<|aA Z<|aC Z<|aN<|aV ?_;cases h;exact lL Z
end Go.Proofs.YtjkjpdonlpdcaaaGreatDoor