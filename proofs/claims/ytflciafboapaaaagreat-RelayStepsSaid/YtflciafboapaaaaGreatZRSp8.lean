/- Models and proofs. Conditions: none. -/
import Derived.Test.YtflciafboapaaaaGreatZRSp5
import Derived.Test.YtflciafboapaaaaGreatZRSp7
import Derived.Test.YtflciafboapaaaaGreatZRSp6
import Derived.Test.YtflciafboapaaaaGreatZRSp2
set_option linter.unusedVariables false
set_option linter.unusedSimpArgs false
set_option maxHeartbeats 4000000
set_option maxRecDepth 20000
namespace Go.Proofs.YtflciafboapaaaaGreat
open Go.Sx
def AO (a:Unit):Option Bool:=
 some (true)
def AP (b:Int) (a:(Int)->Option Bool) (c:Unit):Option Bool:=
 a (wI .i64 (b+(1:Int)))
def AS (b:Int) (a:(Int)->Option Bool) (c:Bool):Option Bool:=
 if c=true then(some (false))else(a (wI .i64 (b+(1:Int))))
def rM (b:Int) (a:(Int)->Option Bool) (c:Int):Option Bool:=
 AS b a (decide ((0:Int)<=c))
def vN (b:Int) (a:(Int)->Option Bool) (c:Unit):Option Bool:=
 rM b a (-1:Int)
def CN (d:Int) (b:(Int)->Option Bool) (a:Int) (c:(Int)->Option Bool) (e:Bool):Option Bool:=
 if e=true then(rM d b (a))else(c (wI .i64 (a+(1:Int))))
def rO (U:Nat) (f:gX) (g:iI) (c a:Int) (d:(Int)->Option Bool) (b:Int) (e:(Int)->Option Bool):Option Bool:=
 if b<((at' (at' f.2.2 c) a).length:Int)then(ck (0<=b/\b<((at' (at' f.2.2 c) a).length:Int)) (Option.bind (pE U c (at' (at' (at' f.2.2 c) a) b) g) λh=>(CN a d b e ((!h)))))else(vN a d (()))
def AR (U:Nat) (f:gX) (e:iI) (b c:Int) (a:(Int)->Option Bool) (d:Bool):Option Bool:=
 if d=true then(some (false))else(bL (rO U f e b c a) U (0:Int))
def jK (U:Nat) (g:cJ) (i:Int) (d:gX) (e:iI) (a:Int) (f:(Int)->Option Bool) (b:Int) (c:(Int)->Option Bool):Option Bool:=
 if b<((at' g.2 a).length:Int)then(ck (0<=b/\b<((at' g.2 a).length:Int)) (ck (0<=a/\a<(d.2.2.length:Int)) (ck (0<=b/\b<((at' d.2.2 a).length:Int)) (ck (0<=a/\a<(d.2.1.length:Int)) (ck (0<=b/\b<((at' d.2.1 a).length:Int)) (Option.bind (pE U ((at' (at' g.2 a) b).1) (at' (at' d.2.1 a) b) e) λh=>(if(!h)=true then(AR U d e a b c (true))else(AR U d e a b c (decide (i<((at' (at' d.2.2 a) b).length:Int)))))))))))else(AP a f (()))
def AQ (U:Nat) (e:cJ) (f:Int) (g:gX) (d:iI) (b:Int) (a:(Int)->Option Bool) (c:Bool):Option Bool:=
 if c=true then(some (false))else(bL (jK U e f g d b a) U (0:Int))
def gM (U:Nat) (c:cJ) (f:Int) (d:gX) (e:iI) (a:Int) (b:(Int)->Option Bool):Option Bool:=
 if a<(c.2.length:Int)then(ck (0<=a/\a<(c.2.length:Int)) (ck (0<=a/\a<(d.2.1.length:Int)) (if((at' d.2.1 a).length:Int)≠((at' c.2 a).length:Int)then(AQ U c f d e a b (true))else(ck (0<=a/\a<(d.2.2.length:Int)) (AQ U c f d e a b (decide (((at' d.2.2 a).length:Int)≠((at' c.2 a).length:Int))))))))else(AO (()))
def AN (U:Nat) (a:fE) (b:cJ) (e:Int) (f:gX) (d:Bool):Option Bool:=
 if d=true then(some (false))else(Option.bind (lJ U ((a.1,a.2.1,a.2.2)) ((b.1,b.2))) λc=>(bL (gM U b e f c) U (0:Int)))
def vM (U:Nat) (c:fE) (a:cJ) (d:Int) (b:gX) (e:Bool):Option Bool:=
 if e=true then(some (false))else(if(b.2.1.length:Int)≠(a.2.length:Int)then(AN U c a d b (true))else(AN U c a d b (decide ((b.2.2.length:Int)≠(a.2.length:Int)))))
def kG (U:Nat) (a:fE) (b:cJ) (c:Int) (d:gX):Option Bool:=
 Option.bind (uV U ((a.1,a.2.1,a.2.2)) ((b.1,b.2)) d.1) λe=>(if(!e)=true then(vM U a b c d (true))else(if c<(1:Int)then(vM U a b c d (true))else(vM U a b c d (decide ((8:Int)<c)))))
theorem OG:bB Tryz.prog 18:=Tryz.call18
theorem Co (U:Nat) {p0:fE} {p:cJ} {w:Int} {v:gX} (M N v2 L:V0) (z4:kX) (v5:V0) (z6:nG) (v7:V0) (z8:CV) (v9:V0) (G:CU) (r:Bool) (h:kG U p0 p w v=some r):
  bE Tryz.prog 18 #[Value.agg #[vS (p0.1),M,N],Value.agg #[v2,L],vI (w),Value.agg #[v5,v7,v9]] [Sl aE M p0.2.1,Sl aD N p0.2.2,PF (Value.agg #[vS p0.1,M,N]),Sl aM v2 p.1,S2 aY L z4 p.2,S2 aM v5 z6 v.1,S3 aM v7 z8 v.2.1,S4 aM v9 G v.2.2] (λx:Unit=>vB (r)) (λx l=>l) (λ_ l=>l):=by
 let Y:=S2 aM v5 z6 v.1;let X:=S2 aY L z4 p.2;let W:=S3 aM v7 z8 v.2.1;let V:=S4 aM v9 G v.2.2;let S:=PF (Value.agg #[vS p0.1,M,N]);let K:=(p.2.length:Int)
 refine bE.of Tryz.func18 Z Tryz.ntmps18 Z λc=>?_;refine aU<|aJ (aQ.box (cs:=[vS (p0.1),M,N]) Z Z) Z λb1=>aJ (aQ.box (cs:=[v2,L]) Z Z) Z λb2=>aJ (aQ.box (cs:=[v5,v7,v9]) Z Z) Z λb3=>let k:=bM b3 [v5,v7,v9] 43;aC Z<|aP<|aN<|aN<|eB (λa5=>vM U p0 p w v a5=some r) (λa5 b6=>[(2,vI (w)),(4,vP b1),(5,vP b2),(7,vP b3),(29,vB (a5))]) (λa5 b6=>[k,bM b2 [v2,L] 31,bM b1 [vS (p0.1),M,N] 36]) ?_ ?_
 ·refine aR<|cM 2 Z<|cM 1 Z<|bV Z<|dK 0 Z<|eI h λa7 bc h=>aJ (zBb adc (Mn U M N v2 L z4 v5 z6 a7 bc) Z (iB [0,1,2,3,4,5] Z)) Z λbg=>aB (jG Z) Z<|aA Z ?_;refine vW (by exact rfl) (by exact rfl) (λR=>?_) (λR=>?_)
  ·have h:=Hh R h;refine aO Z<|aO Z<|d_ Z<|aA Z<|aO Z<|aO Z<|d_ Z<|aP ?_;exact f_ (true) () h SF Z
  have h:=En R h;refine dD Z<|aW Z (EF Z Z) Z<|eR Z<|aA Z ?_;refine Ds h Z (λ_ h=>?_) λ_ h=>?_
  ·refine aO Z<|aO Z<|d_ Z<|aP ?_;exact f_ (true) () h SF Z
  refine dD Z<|aW Z (wY Z Z) Z<|eR Z<|aP ?_;exact f_ (decide ((8:Int)<w)) () h SF Z
 intro a5 b6 h;refine rR h Z (λ_ h=>?_) λ_ h=>?_
 ·refine aU<|aC Z<|aP<|aS<|aG ?_;cases h;exact mO Z
 refine cL<|aN<|aN<|eB (λa9=>AN U p0 p w v a9=some r) (λa9 ao=>[(2,vI (w)),(4,vP b1),(5,vP b2),(7,vP b3),(45,vB (a9))]) (λa9 ao=>[k,bM b2 [v2,L] 31,bM b1 [vS (p0.1),M,N] 36]) ?_ ?_
 ·refine aR<|bV Z<|dK 0 Z<|aB (dM Z (Fy Z) Z) Z<|bV Z<|dK 1 Z<|aB (dM Z (CL Z) Z) Z<|lB Z<|aA Z ?_;refine Ds h Z (λ_ h=>?_) λ_ h=>?_
  ·refine aO Z<|aO Z<|aO Z<|aO Z<|aO Z<|aO Z<|aO Z<|d_ Z<|aP ?_;exact f_ (true) () h SF Z
  refine aW Z (cT Z Z Z Z Z) Z<|aW Z (dL 0 Z Z Z Z Z) Z<|aW Z (dM Z (z_ Z) Z) Z<|aW Z (cT Z Z Z Z Z) Z<|aW Z (dL 1 Z Z Z Z Z) Z<|aW Z (dM Z (CL Z) Z) Z<|aW Z (Bg Z Z) Z<|eR Z<|aP ?_;exact f_ (decide ((v.2.2.length:Int)≠K)) () h SF Z
 intro a9 ao h;refine rR h Z (λ_ h=>?_) λ_ h=>?_
 ·refine aU<|aC Z<|aP<|aS<|aG ?_;cases h;exact mO Z
 refine cL<|aU<|cM 2 Z<|cM 1 Z<|eI h λm a8 h=>aJ (zBb SA (DG U M N v2 L z4 m a8) Z (iB [0,1,2,3,4] Z)) Z λD=>let u:=fQ bX D.2 m;let s:=Ar bJ.raw D.1 D.2;aJ (aQ.alloc (cs:=[cW]) Z Z) Z λJ=>let ak:=Value.pointer (some ⟨J,0,none⟩);let t:=bM J [D.1] 86;bD (tM (fG (i:=1) (j:=2) Z Z cR)) λaX=>qN 0 Z Z aX Z Z Z<|aP<|aU<|aB (HV (cs:=[.tmp 9]) (vs:=[vP J]) Z) Z<|aJ (aQ.alloc (cs:=[Value.nilFunc]) Z Z) Z λe=>let q:=bM e [Value.func (.func 49) #[] #[vP J]] 90;qN 0 Z Z Z Z Z Z<|aP<|aN<|eB (λaa=>AO aa=some r) (λaa ap=>[]) (λaa ap=>[]) ?_ ?_
 ·refine aU<|bV Z<|dK 5 Z<|aB (dM Z (CL Z) Z) Z<|aA Z<|aP<|aT<|eW (gM U p w v m) (λa aq=>[(2,vI (w)),(7,vP b3),(10,vP e),(51,L),(52,vI K),(53,vI (a))]) (λa aq=>[q,t,s,u,k]) (0:Int) () h SF (a_.ix [0,1,2,3,4] Z Z) ?_;intro a2 a aq h;let T:=((at' p.2 a).length:Int)
  let ah:=(bL (gM U p w v m) a2)
  refine aU<|cU Z<|aP<|aN ?_;refine eG h Z (λh=>?_) λh=>?_
  ·refine cL<|aN<|eB (λab=>AP a ah ab=some r) (λab ar=>[(2,vI (w)),(7,vP b3),(10,vP e),(51,L),(52,vI K),(53,vI (a))]) (λab ar=>[q,t,s,u,k]) ?_ ?_
   ·refine aT<|aU<|aA Z<|cQ h λf h=>aB (bK Z Z (CL Z) Z Z f) Z<|aB (bS Z (CL Z) Z Z f) Z<|aJ (aQ.alloc (cs:=[vI (0:Int)]) Z Z) Z λo=>let C:=bM o [vI (a)] 3;qN 0 Z Z Z Z Z Z<|aC Z<|aP<|aN<|aN<|eB (λO=>AQ U p w v m a ah O=some r) (λO au=>[(2,vI (w)),(7,vP b3),(10,vP e),(11,vP o),(12,(at' z4 a).1),(51,L),(52,vI K),(53,vI (a)),(77,vB (O))]) (λO au=>[C,q,t,s,u,k]) ?_ ?_
    ·refine aR<|bV Z<|dK 5 Z<|dK 0 Z<|cQ h λaf h=>aB (bK Z Z (Fy Z) Z Z af) Z<|aB (c_ Z (Fy Z) Z Z af) Z ?_;refine aB (dM Z (bR (Fy Z) af.1 af.2) Z) Z ?_;refine aA Z<|aB (fH Z (zBc (CL Z) f.1 f.2) Z) Z<|lB Z<|aA Z ?_;refine Ds h Z (λ_ h=>?_) λ_ h=>?_
     ·refine aO Z<|aO Z<|aO Z<|aO Z<|aO Z<|aO Z<|aO Z<|aO Z<|aO Z<|d_ Z<|aP ?_;exact f_ (true) () h SF Z
     refine aW Z (cT Z Z Z Z Z) Z<|aW Z (dL 5 Z Z Z Z Z) Z<|aW Z (dL 0 Z Z Z Z Z) Z<|cQ h λag h=>aW Z (bK Z Z (z_ Z) Z Z ag) Z<|aW Z (c_ Z (z_ Z) Z Z ag) Z ?_;refine aW Z (dM Z (bR (z_ Z) ag.1 ag.2) Z) Z ?_;refine dD Z<|aW Z (fH Z (zBc (CL Z) f.1 f.2) Z) Z<|aW Z (Bg Z Z) Z<|eR Z<|aP ?_;exact f_ (decide (((at' v.2.2 a).length:Int)≠T)) () h SF Z
    intro O au h;refine rR h Z (λ_ h=>?_) λ_ h=>?_
    ·refine aU<|aC Z<|aP<|aS<|aG<|bF<|aG<|aG<|bF<|aG ?_;cases h;exact mO Z
    refine cL<|aU<|aA Z<|aB (fH Z (zBc (CL Z) f.1 f.2) Z) Z<|aA Z<|aP<|aT<|eW (jK U p w v m a ah) (λb av=>[(2,vI (w)),(7,vP b3),(10,vP e),(11,vP o),(51,L),(52,vI K),(53,vI (a)),(78,(at' z4 a).1),(79,vI T),(80,vI (b))]) (λb av=>[C,q,t,s,u,k]) (0:Int) () h SF (a_.refl _) ?_;intro a3 b av h;let aj:=((at' (at' v.2.2 a) b).length:Int)
    let ai:=(at' ((at' G a).2) b)
    let F:=(bL (jK U p w v m a ah) a3)
    refine aU<|cU Z<|aP<|aN ?_;refine eG h Z (λh=>?_) λh=>?_
    ·refine cL<|aN<|aT<|aU<|aA Z<|cQ h λa0 h=>aB (bG Z Z (zBc (CL Z) f.1 f.2) Z Z a0) Z<|aB (gS (cs:=[vI ((at' (at' p.2 a) b).1),vI ((at' (at' p.2 a) b).2)]) Z (zBc (CL Z) f.1 f.2) cR Z Z Z Z a0) Z<|aJ (aQ.alloc (cs:=TF) Z Z) Z λbe=>aC Z<|cD 0 (vs:=[vI ((at' (at' p.2 a) b).1),vI ((at' (at' p.2 a) b).2)]) Z Z Z Z Z Z<|aP<|aU<|bV Z<|dK 6 Z<|dK 1 Z<|cQ h λd h=>aB (bK Z Z (z_ Z) Z Z d) Z<|aB (c_ Z (z_ Z) Z Z d) Z<|aA Z<|cQ h λg h=>aB (bK Z Z (bR (z_ Z) d.1 d.2) Z Z g) Z ?_;refine aB (c_ Z (bR (z_ Z) d.1 d.2) Z Z g) Z ?_;refine aC Z<|aP<|aN<|aN<|eB (λP=>AR U v m a b F P=some r) (λP aw=>[(2,vI (w)),(7,vP b3),(10,vP e),(11,vP o),(15,ai.1),(51,L),(52,vI K),(53,vI (a)),(78,(at' z4 a).1),(79,vI T),(80,vI (b)),(111,vB (P))]) (λP aw=>[C,q,t,s,u,k]) ?_ ?_
     ·refine rP [0,0,2,0,8,0,56,120,0,504,1016,2047,4095,8191,16383,32767,16383,131071,262143] 17 mixedOrders ?_;refine eQ 2 Z<|cC Z<|eQ 0 Z<|cC Z<|eQ 6 Z<|eQ 1 Z<|cQ h λy h=>aZ (cE (Fy Z)) λaz=>eN Z (cO Z Z az Z Z y)<|bA Z .nil (eV 6 Z) (c_ Z (b_ Z) Z Z y) aL.z<|aV Z<|cQ h λae h=>aZ (cE (bR (Fy Z) y.1 y.2)) λaF=>?_;refine eN Z (cO Z Z aF Z Z ae) ?_;refine bA Z .nil (eV 6 Z) (bS Z (bR (b_ Z) y.1 y.2) Z Z ae) aL.z<|eI h λa6 bb h=>zBd Z Z Z (uF (vs:=[vI ((at' (at' p.2 a) b).1),(at' ((at' z8 a).2) b).1]) (cs:=[ak]) Xk Z (Ga U ((at' ((at' z8 a).2) b).1) J D.1 (List.zip D.2 m) a6 bb) Z (aH.cons (zBc (bR (Fy Z) y.1 y.2) ae.1 ae.2) (aH.cons (aI.res 3 Z) (aH.cons (fG (i:=4) (j:=5) Z Z cR) .nil))) (λ_ _=>rfl)) Z (λbd=>(nK [] Z)) λbd=>?_;refine eN Z (jG Z)<|eN Z (dG Z) ?_;refine JR.guard (by exact rfl) (by exact rfl) (by exact rfl) (λQ=>?_) (λQ=>?_)
      ·have h:=Hh Q h;refine aK Z Z Z Z<|aK Z Z Z Z<|aK Z Z Z Z<|bN 17 Z Z<|aO Z<|d_ Z<|aP ?_;exact cB (true) () h SF (a_.ix [1,2,3,4,5,6] Z Z) (aH.refl _ _)
      have h:=En Q h;refine bW Z .nil .nil (dG Z) (uR Z) ?_;refine bW Z .nil (eV 7 Z) (dM Z (bR (bR (b_ Z) d.1 d.2) g.1 g.2) Z) (uR Z) ?_;refine bW Z .nil .nil (dG Z) (uR Z)<|bN 17 Z Z<|aW Z (wY Z Z) Z<|eR Z<|aP ?_;exact cB (decide (w<aj)) () h SF (a_.ix [1,2,3,4,5,6] Z Z) (aH.refl _ _)
     intro P aw h;refine rR h Z (λ_ h=>?_) λ_ h=>?_
     ·refine aU<|aC Z<|aP<|aS<|aG<|bF<|aG<|aG<|bF<|bF<|aG<|aG<|bF<|aG ?_;cases h;exact mO Z
     refine cL<|aU<|aA Z<|aB (HV (cs:=[.tmp 10,.tmp 11]) (vs:=[vP e,vP o]) Z) Z<|Bu (A:=Bool) (B:=Unit) (vs:=[(at' ((at' G a).2) b).1,Value.func (.func 52) #[] #[vP e,vP o]]) (λH=>AS b F H=some r) (λH al=>vB (H)) (λH al=>[C,q,t,s,u,k]) (λH al=>[Sl aE M p0.2.1,Sl aD N p0.2.2,S,Sl aM v2 p.1,X,Y,W,V]) (pJ.fn (show bB Tryz.prog 51 from Tryz.call51) Z) Tryz.func51 Z Tryz.ntmps51 Z Z ?_ ?_
     ·refine aU<|aC Z<|aP<|aU<|aA Z<|aA Z<|Bu (A:=Int) (B:=Unit) (vs:=[(at' ((at' G a).2) b).1,Value.func (.func 52) #[] #[vP e,vP o]]) (λE=>rM b F E=some r) (λE am=>vI (E)) (λE am=>[C,q,t,s,u,k]) (λE am=>[Sl aE M p0.2.1,Sl aD N p0.2.2,S,Sl aM v2 p.1,X,Y,W,V]) (pJ.fn (show bB Tryz.prog 98 from Tryz.call98) Z) Tryz.func98 Z Tryz.ntmps98 Z Z ?_ ?_
      ·refine aU<|aC Z<|aP<|aN<|eB (λac=>vN b F ac=some r) (λac ax=>[]) (λac ax=>[C,q,t,s,u,k]) ?_ ?_
       ·refine aU<|aA Z ?_;refine aB (dM Z (bR (bR (z_ Z) d.1 d.2) g.1 g.2) Z) Z ?_;refine aA Z<|aP<|aT<|eW (rO U v m a b F) (λn ay=>[(0,ai.1),(1,Value.func (.func 52) #[] #[vP e,vP o]),(7,vI aj),(8,vI (n))]) (λn ay=>[C,q,t,s,u,k]) (0:Int) () h SF (a_.refl _) ?_;intro a4 n ay h;refine aU<|cU Z<|aP<|aN ?_;refine eG h Z (λh=>?_) λh=>?_
        ·refine cL<|aN<|aT<|aU<|aA Z<|aC Z<|aP<|aU<|aA Z<|aA Z<|aA Z<|cQ h λad h=>aB (bK Z Z (bR (bR (z_ Z) d.1 d.2) g.1 g.2) Z Z ad) Z ?_;refine aB (bS Z (bR (bR (z_ Z) d.1 d.2) g.1 g.2) Z Z ad) Z ?_;refine Bu (A:=Bool) (B:=Unit) (vs:=[(at' ((at' ((at' G a).2) b).2) n).1,vP e,vP o]) (λI=>CN b F n (bL (rO U v m a b F) a4) I=some r) (λI an=>vB (I)) (λI an=>[C,q,t,s,u,k]) (λI an=>[Sl aE M p0.2.1,Sl aD N p0.2.2,S,Sl aM v2 p.1,X,Y,W,V]) (Vg (us:=[(at' (ai.2) n).1]) (cs:=[vP e,vP o]) (show bB Tryz.prog 52 from Tryz.call52) Z Z Z) Tryz.func52 Z Tryz.ntmps52 Z Z ?_ ?_
         ·refine aU<|aC Z<|aP<|aU<|dK 1 Z<|dK 0 Z<|aA Z<|eI h λa1 ba h=>aJ (uF (vs:=[vI (a),(at' ((at' ((at' G a).2) b).2) n).1]) (cs:=[ak]) Xk Z (Ga U ((at' (ai.2) n).1) J D.1 (List.zip D.2 m) a1 ba) Z (aH.cons (zBc (bR (bR (z_ Z) d.1 d.2) g.1 g.2) ad.1 ad.2) (aH.cons (aI.res 2 Z) (aH.cons (fG (i:=3) (j:=4) Z Z cR) .nil))) (λ_ _=>rfl)) Z λbf=>?_;refine aB (jG Z) Z<|aC Z<|aP<|aS ?_;exact jX ((!a1)) () h (.inl Z) (Fa.r1 Z (RV.tmp Z)) Z (a_.refl _) (aH.refl _ _)
         intro I an h;refine aP ?_;refine rR h Z (λ_ h=>?_) λ_ h=>?_
         ·refine aU<|aA Z<|aC Z<|aP<|aS<|bF<|aG<|aG<|bF<|aG ?_;exact jX (n) () h (.inl Z) (Fa.r1 Z (RV.tmp Z)) Z (a_.refl _) (aH.refl _ _)
         refine dW<|lA<|aR<|cN Z<|aA Z<|aP ?_;exact xD (wI .i64 (n+(1:Int))) () h SF Z
        refine eP ?_;exact f_ () (()) h SF Z
       intro ac ax h;unfold vN at h;refine aU<|aC Z<|aP<|aS ?_;exact jX (-1:Int) () h (.inl Z) (Fa.r1 Z (RV.tmp Z)) Z (a_.refl _) (aH.refl _ _)
      intro E am h;unfold rM at h;refine aB (uI Z Z) Z<|aC Z<|aP<|aS ?_;exact jX (decide ((0:Int)<=E)) () h (.inl Z) (Fa.r1 Z (RV.tmp Z)) Z (a_.refl _) (aH.refl _ _)
     intro H al h;refine aP ?_;refine rR h Z (λ_ h=>?_) λ_ h=>?_
     ·refine aU<|aC Z<|aP<|aS<|bF<|aG<|aG<|bF<|bF<|aG<|aG<|bF<|aG ?_;cases h;exact mO Z
     refine dW<|lA<|aR<|cN Z<|aA Z<|aP ?_;exact xD (wI .i64 (b+(1:Int))) () h SF Z
    refine uE<|g_<|g_<|Cr<|lA ?_;exact cB () (()) h SF (a_.ix [1,2,3,4,5] Z Z) (aH.refl _ _)
   intro ab ar h;unfold AP at h;refine aR<|cN Z<|aA Z<|aP ?_;exact xD (wI .i64 (a+(1:Int))) () h SF Z
  refine eP ?_;exact cB () (()) h SF .nil (aH.refl _ _)
 intro aa ap h;unfold AO at h;refine aU<|aC Z<|aP<|aS ?_;cases h;exact iR Z
def AH (a:Unit):Option Bool:=
 some (true)
def AI (U:Nat) (d:fE) (g:cJ) (h:Int) (e:bT) (a:Int) (c:(Int)->Option Bool):Option Bool:=
 if a<(e.length:Int)then(Option.bind (jO U ((d.1,d.2.1,d.2.2)) ((g.1,g.2)) h a) λb=>(ck (0<=a/\a<(e.length:Int)) (Option.bind (iC U (at' e a) b.1 b.2) λf=>(if(!f)=true then(some (false))else(c (wI .i64 (a+(1:Int))))))))else(AH (()))
def pZ (U:Nat) (a:fE) (c:cJ) (d:Int) (b:bT):Option Bool:=
 if(b.length:Int)≠(a.2.1.length:Int)then(some (false))else(bL (AI U a c d b) U (0:Int))
theorem Xn:bB Tryz.prog 55:=Tryz.call55
theorem HQ (U:Nat) {a:fE} {k:cJ} {m:Int} {n:bT} (b d f g:V0) (z:kX) (q:V0) (r:Bool) (h:pZ U a k m n=some r):
  bE Tryz.prog 55 #[Value.agg #[vS (a.1),b,d],Value.agg #[f,g],vI (m),q] [Sl aE b a.2.1,Sl aD d a.2.2,PF (Value.agg #[vS a.1,b,d]),Sl aM f k.1,S2 aY g z k.2,Sl aM q n] (λx:Unit=>vB (r)) (λx l=>l) (λ_ l=>l):=by
 refine bE.of Tryz.func55 Z Tryz.ntmps55 Z λc=>?_;refine aU<|aJ (aQ.box (cs:=[vS (a.1),b,d]) Z Z) Z λu=>aJ (aQ.box (cs:=[f,g]) Z Z) Z λv=>aC Z<|aP<|aN<|aU<|aA Z<|iL (zJ Z) Z<|bV Z<|dK 1 Z<|iL (b_ Z) Z<|lB Z<|aP ?_;refine eG h Z (λh=>?_) λh=>?_
 ·refine aU<|aC Z<|aP<|aS<|aG ?_;cases h;exact mO Z
 refine cL<|aN<|eB (λi=>AH i=some r) (λi w=>[]) (λi w=>[]) ?_ ?_
 ·refine aU<|aC Z<|aP<|aT<|eW (AI U a k m n) (λj y=>[(2,vI (m)),(3,q),(4,vP u),(5,vP v),(9,vI (j))]) (λj y=>[bM v [f,g] 31,bM u [vS (a.1),b,d] 36]) (0:Int) () h SF (a_.refl _) ?_;intro A j y h;refine aN<|aU<|aA Z<|aA Z<|iL (zJ Z) Z<|cU Z<|aP ?_;refine eG h Z (λh=>?_) λh=>?_
  ·refine cL<|aN<|aT<|aU<|cM 1 Z<|cM 0 Z<|aA Z<|aA Z<|eI h λo s h=>aJ (zBb KS (Di U b d f g z o s) Z (iB [0,1,2,3,4] Z)) Z λB=>aA Z<|iN Z<|iN Z<|aC Z<|aC Z<|aP<|aU<|aA Z<|aA Z<|cQ h λe h=>aB (bG Z Z (zJ Z) Z Z e) Z<|aB (cI Z (zJ Z) Z Z Z eZ e) Z<|aA Z<|aA Z<|eI h λp t h=>aJ (zBb uQ (jL U p t) Z .nil) Z λC=>aB (jG Z) Z<|aP ?_;refine rR h Z (λ_ h=>?_) λ_ h=>?_
   ·refine aU<|aC Z<|aP<|aS<|bF<|aG<|aG<|bF<|aG ?_;cases h;exact mO Z
   refine dW<|lA<|aR<|aA Z<|cN Z<|aC Z<|aP ?_;exact xD (wI .i64 (j+(1:Int))) () h SF Z
  refine eP ?_;exact cB () (()) h SF .nil (aH.refl _ _)
 intro i w h;unfold AH at h;refine aU<|aC Z<|aP<|aS ?_;cases h;exact iR Z
def AB (a:Unit):Option Bool:=
 some (true)
def AC (b:Int) (a:(Int)->Option Bool) (c:Unit):Option Bool:=
 a (wI .i64 (b+(1:Int)))
def vL (b:Int) (a:(Int)->Option Bool) (c:Unit):Option Bool:=
 a (wI .i64 (b+(1:Int)))
def AG (U:Nat) (g:fE) (i:cJ) (d:gX) (a b:Int) (e:(Int)->Option Bool) (c:Int) (f:(Int)->Option Bool):Option Bool:=
 ck (0<=a/\a<(d.2.2.length:Int)) (ck (0<=b/\b<((at' d.2.2 a).length:Int)) (if c<((at' (at' d.2.2 a) b).length:Int)then(ck (0<=a/\a<(d.2.2.length:Int)) (ck (0<=b/\b<((at' d.2.2 a).length:Int)) (ck (0<=c/\c<((at' (at' d.2.2 a) b).length:Int)) (Option.bind (pZ U ((g.1,g.2.1,g.2.2)) ((i.1,i.2)) a (at' (at' (at' d.2.2 a) b) c)) λh=>(if(!h)=true then(some (false))else(f (wI .i64 (c+(1:Int)))))))))else(vL b e (()))))
def AE (U:Nat) (e:fE) (f:cJ) (g:gX) (b c:Int) (a:(Int)->Option Bool) (d:Bool):Option Bool:=
 if d=true then(some (false))else(bL (AG U e f g b c a) U (0:Int))
def oM (U:Nat) (g:fE) (c:cJ) (i:Int) (e:gX) (a:Int) (f:(Int)->Option Bool) (b:Int) (d:(Int)->Option Bool):Option Bool:=
 ck (0<=a/\a<(c.2.length:Int)) (if b<((at' c.2 a).length:Int)then(ck (0<=a/\a<(c.2.length:Int)) (ck (0<=b/\b<((at' c.2 a).length:Int)) (ck (0<=a/\a<(e.2.1.length:Int)) (ck (0<=b/\b<((at' e.2.1 a).length:Int)) (Option.bind (pZ U ((g.1,g.2.1,g.2.2)) ((c.1,c.2)) ((at' (at' c.2 a) b).1) (at' (at' e.2.1 a) b)) λh=>(if(!h)=true then(AE U g c e a b d (true))else(ck (0<=a/\a<(e.2.2.length:Int)) (ck (0<=b/\b<((at' e.2.2 a).length:Int)) (AE U g c e a b d (decide (i<((at' (at' e.2.2 a) b).length:Int))))))))))))else(AC a f (())))
def AD (U:Nat) (d:fE) (e:cJ) (f:Int) (g:gX) (b:Int) (a:(Int)->Option Bool) (c:Bool):Option Bool:=
 if c=true then(some (false))else(bL (oM U d e f g b a) U (0:Int))
def kI (U:Nat) (e:fE) (c:cJ) (f:Int) (d:gX) (a:Int) (b:(Int)->Option Bool):Option Bool:=
 if a<(c.2.length:Int)then(ck (0<=a/\a<(d.2.1.length:Int)) (ck (0<=a/\a<(c.2.length:Int)) (if((at' d.2.1 a).length:Int)≠((at' c.2 a).length:Int)then(AD U e c f d a b (true))else(ck (0<=a/\a<(d.2.2.length:Int)) (ck (0<=a/\a<(c.2.length:Int)) (AD U e c f d a b (decide (((at' d.2.2 a).length:Int)≠((at' c.2 a).length:Int)))))))))else(AB (()))
def rA (U:Nat) (b:fE) (c:cJ) (d:Int) (e:gX) (a:Bool):Option Bool:=
 if a=true then(some (false))else(bL (kI U b c d e) U (0:Int))
def kF (U:Nat) (b:fE) (a:cJ) (d:Int) (c:gX):Option Bool:=
 Option.bind (mF U ((b.1,b.2.1,b.2.2)) ((a.1,a.2)) c.1) λe=>(if(!e)=true then(rA U b a d c (true))else(Option.bind (iC U d (1:Int) (8:Int)) λf=>(if(!f)=true then(rA U b a d c (true))else(if(c.2.1.length:Int)≠(a.2.length:Int)then(rA U b a d c (true))else(rA U b a d c (decide ((c.2.2.length:Int)≠(a.2.length:Int))))))))
theorem OH:bB Tryz.prog 19:=Tryz.call19
theorem Cn (U:Nat) {p:fE} {t:cJ} {o:Int} {q:gX} (S T X Y:V0) (z4:kX) (v5:V0) (z6:nG) (v7:V0) (z8:CV) (v9:V0) (ar:CU) (r:Bool) (h:kF U p t o q=some r):
  bE Tryz.prog 19 #[Value.agg #[vS (p.1),S,T],Value.agg #[X,Y],vI (o),Value.agg #[v5,v7,v9]] [Sl aE S p.2.1,Sl aD T p.2.2,PF (Value.agg #[vS p.1,S,T]),Sl aM X t.1,S2 aY Y z4 t.2,S2 aM v5 z6 q.1,S3 aM v7 z8 q.2.1,S4 aM v9 ar q.2.2] (λx:Unit=>vB (r)) (λx l=>l) (λ_ l=>l):=by
 let k:=vI (t.2.length:Int);refine bE.of Tryz.func19 Z Tryz.ntmps19 Z λc=>?_;refine aU<|aJ (aQ.box (cs:=[vS (p.1),S,T]) Z Z) Z λF=>let j:=bM F [vS (p.1),S,T] 36;aJ (aQ.box (cs:=[X,Y]) Z Z) Z λG=>let n:=bM G [X,Y] 31;aJ (aQ.box (cs:=[v5,v7,v9]) Z Z) Z λH=>let m:=bM H [v5,v7,v9] 43;aC Z<|aP<|aU<|bV Z<|dK 1 Z<|aB (dM Z (CL Z) Z) Z<|aC Z<|aP<|aN<|aN<|eB (λa5=>rA U p t o q a5=some r) (λa5 b6=>[(2,vI (o)),(4,vP F),(5,vP G),(7,vP H),(9,k),(40,vB (a5))]) (λa5 b6=>[m,n,j]) ?_ ?_
 ·refine aR<|cM 2 Z<|cM 1 Z<|bV Z<|dK 0 Z<|eI h λax aI h=>aJ (zBb Xm (HP U S T X Y z4 v5 z6 ax aI) Z (iB [0,1,2,3,4,5] Z)) Z λa3=>aB (jG Z) Z<|aA Z ?_;refine vW (by exact rfl) (by exact rfl) (λB=>?_) (λB=>?_)
  ·have h:=Hh B h;refine aO Z<|aO Z<|aO Z<|d_ Z<|aA Z<|aO Z<|aO Z<|aO Z<|aO Z<|aO Z<|d_ Z<|aA Z<|aO Z<|aO Z<|aO Z<|aO Z<|aO Z<|d_ Z<|aP ?_;exact f_ (true) () h SF Z
  have h:=En B h;refine dD Z<|eI h λay aX h=>oU Z (zBb uQ (jL U ay aX) Z .nil) Z λa4=>aW Z (jG Z) Z<|eR Z<|aA Z ?_;refine vW (by exact rfl) (by exact rfl) (λC=>?_) (λC=>?_)
  ·have h:=Hh C h;refine aO Z<|aO Z<|aO Z<|aO Z<|aO Z<|d_ Z<|aA Z<|aO Z<|aO Z<|aO Z<|aO Z<|aO Z<|d_ Z<|aP ?_;exact f_ (true) () h SF Z
  have h:=En C h;refine aW Z (cT Z Z Z Z Z) Z<|aW Z (dL 0 Z Z Z Z Z) Z<|aW Z (dM Z (Fy Z) Z) Z<|dD Z<|aW Z (Bg Z Z) Z<|eR Z<|aA Z ?_;refine Ds h Z (λ_ h=>?_) λ_ h=>?_
  ·refine aO Z<|aO Z<|aO Z<|aO Z<|aO Z<|d_ Z<|aP ?_;exact f_ (true) () h SF Z
  refine aW Z (cT Z Z Z Z Z) Z<|aW Z (dL 0 Z Z Z Z Z) Z<|aW Z (dM Z (z_ Z) Z) Z<|dD Z<|aW Z (Bg Z Z) Z<|eR Z<|aP ?_;exact f_ (decide ((q.2.2.length:Int)≠(t.2.length:Int))) () h SF Z
 intro a5 b6 h;refine rR h Z (λ_ h=>?_) λ_ h=>?_
 ·refine aU<|aC Z<|aP<|aS<|aG ?_;cases h;exact mO Z
 refine cL<|aN<|eB (λa8=>AB a8=some r) (λa8 b9=>[]) (λa8 b9=>[]) ?_ ?_
 ·refine aU<|aC Z<|aP<|aT<|eW (kI U p t o q) (λa aa=>[(2,vI (o)),(4,vP F),(5,vP G),(7,vP H),(9,k),(10,vI (a))]) (λa aa=>[m,n,j]) (0:Int) () h SF (a_.refl _) ?_;intro au a aa h;let W:=(bL (kI U p t o q) au)
  let R:=(oM U p t o q a W)
  refine aN<|aU<|aA Z<|aA Z<|cU Z<|aP ?_;refine eG h Z (λh=>?_) λh=>?_
  ·refine cL<|aN<|eB (λD=>AC a W D=some r) (λD ab=>[(2,vI (o)),(4,vP F),(5,vP G),(7,vP H),(9,k),(10,vI (a))]) (λD ab=>[m,n,j]) ?_ ?_
   ·refine aT<|aN<|aN<|eB (λu=>AD U p t o q a W u=some r) (λu ac=>[(2,vI (o)),(4,vP F),(5,vP G),(7,vP H),(9,k),(10,vI (a)),(73,vB (u))]) (λu ac=>[m,n,j]) ?_ ?_
    ·refine rP [0,1,0,7,15,31,0,64,0,448,960,1984,4095,8191,16383,32767,16383,131071,262143,524287,16383,1064959,16383,7356415,15745023,32522239,67108863,134217727] 26 mixedOrders ?_;refine cC Z<|eQ 0 Z<|aV Z<|cQ h λN h=>aZ (cE (Fy Z)) λao=>eN Z (cO Z Z ao Z Z N)<|bA Z .nil (eV 6 Z) (c_ Z (b_ Z) Z Z N) aL.z ?_;refine bA Z .nil (eV 6 Z) (dM Z (bR (b_ Z) N.1 N.2) Z) aL.z ?_;refine cC Z<|eQ 1 Z<|aV Z<|cQ h λO h=>bA Z .nil (eV 4 Z) (bK Z Z (b_ Z) Z Z O) aL.z<|bA Z .nil (eV 4 Z) (bS Z (b_ Z) Z Z O) aL.z<|bA Z .nil (eV 4 Z) (fH Z (zBc (b_ Z) O.1 O.2) Z) aL.z<|eN Z (Bg Z Z)<|aV Z ?_;refine vX (by exact rfl) (by exact rfl) (by exact rfl) (λA=>?_) (λA=>?_)
     ·have h:=Hh A h;refine aK Z Z Z Z<|aK Z Z Z Z<|aK Z Z Z Z<|aK Z Z Z Z<|aK Z Z Z Z<|aK Z Z Z Z<|aK Z Z Z Z<|aK Z Z Z Z<|aK Z Z Z Z<|aK Z Z Z Z<|aK Z Z Z Z<|aK Z Z Z Z<|bN 26 Z Z<|aO Z<|d_ Z<|aP ?_;exact f_ (true) () h SF Z
     have h:=VK A h;refine bW Z .nil .nil (cT Z Z Z Z Z) aL.z<|bW Z (a_.cons 0 Z .nil) .nil (dL 0 Z Z Z Z Z) aL.z<|bW Z .nil .nil (dG Z) aL.z<|cQ h λP h=>aZ (cE (z_ Z)) λap=>bW Z .nil .nil (cO Z Z ap Z Z P) aL.z<|bW Z .nil (eV 7 Z) (c_ Z (b_ Z) Z Z P) aL.z ?_;refine bW Z .nil (eV 7 Z) (dM Z (bR (b_ Z) P.1 P.2) Z) aL.z ?_;refine bW Z .nil .nil (cT Z Z Z Z Z) aL.z<|bW Z (a_.cons 1 Z .nil) .nil (dL 0 Z Z Z Z Z) aL.z<|bW Z .nil .nil (dG Z) aL.z<|cQ h λQ h=>bW Z .nil (eV 4 Z) (bK Z Z (b_ Z) Z Z Q) aL.z<|bW Z .nil (eV 4 Z) (bS Z (b_ Z) Z Z Q) aL.z<|bW Z .nil (eV 4 Z) (fH Z (zBc (b_ Z) Q.1 Q.2) Z) aL.z<|bN 26 Z Z<|aW Z (Bg Z Z) Z<|eR Z<|aP ?_;exact f_ (decide (((at' q.2.2 a).length:Int)≠((at' t.2 a).length:Int))) () h SF Z
    intro u ac h;refine rR h Z (λ_ h=>?_) λ_ h=>?_
    ·refine aU<|aC Z<|aP<|aS<|aG<|bF<|aG<|aG<|bF<|aG ?_;cases h;exact mO Z
    refine cL<|aU<|aC Z<|aP<|aT<|eW R (λb ad=>[(2,vI (o)),(4,vP F),(5,vP G),(7,vP H),(9,k),(10,vI (a)),(11,vI (b))]) (λb ad=>[m,n,j]) (0:Int) () h SF (a_.refl _) ?_;intro V b ad h;refine aN<|aU<|aA Z<|bV Z<|dK 1 Z<|aA Z<|cQ h λI h=>aB (bK Z Z (CL Z) Z Z I) Z<|aB (bS Z (CL Z) Z Z I) Z<|aB (fH Z (zBc (CL Z) I.1 I.2) Z) Z<|cU Z<|aP ?_;refine eG h Z (λh=>?_) λh=>?_
    ·refine cL<|aN<|eB (λE=>vL b (bL R V) E=some r) (λE ae=>[(2,vI (o)),(4,vP F),(5,vP G),(7,vP H),(9,k),(10,vI (a)),(11,vI (b))]) (λE ae=>[m,n,j]) ?_ ?_
     ·refine aT<|aN<|aN<|eB (λv=>AE U p t q a b (bL R V) v=some r) (λv af=>[(2,vI (o)),(4,vP F),(5,vP G),(7,vP H),(9,k),(10,vI (a)),(11,vI (b)),(117,vB (v))]) (λv af=>[m,n,j]) ?_ ?_
      ·refine rP [0,0,0,4,0,28,60,0,252,508,1020,0,2048,0,14336,30720,0,129024,260096,524287,1048575,2097151,4194303,8388607,4194303,33554431,67108863,4194303,268435455,536870911,1073741823,4194303,4294967295,8589934591] 32 mixedOrders ?_;refine jA 2 Z<|jA 1 Z<|cC Z<|eQ 1 Z<|aV Z<|cQ h λs h=>bA Z .nil (eV 4 Z) (bK Z Z (b_ Z) Z Z s) aL.z<|bA Z .nil (eV 4 Z) (bS Z (b_ Z) Z Z s) aL.z<|aV Z<|cQ h λaq h=>bA Z .nil (eV 4 Z) (bG Z Z (zBc (b_ Z) s.1 s.2) Z Z aq) aL.z<|eN Z (dC Z Z Z Z Z)<|bA Z .nil (eV 4 Z) (eL Z (zBc (b_ Z) s.1 s.2) Z Z Z gA aq) aL.z<|cC Z<|eQ 0 Z<|aV Z<|cQ h λg h=>aZ (cE (Fy Z)) λak=>eN Z (cO Z Z ak Z Z g)<|bA Z .nil (eV 6 Z) (c_ Z (b_ Z) Z Z g) aL.z<|aV Z<|cQ h λL h=>aZ (cE (bR (Fy Z) g.1 g.2)) λal=>?_;refine eN Z (cO Z Z al Z Z L) ?_;refine bA Z .nil (eV 6 Z) (bS Z (bR (b_ Z) g.1 g.2) Z Z L) aL.z<|eI h λaw aF h=>zBd Z Z Z (zBb Xn (HQ U S T X Y z4 ((at' ((at' z8 a).2) b).1) aw aF) Z (aH.cons (b_ Z) (aH.cons (mR Z) (aH.cons (zI Z) (aH.cons (Bh Z) (aH.cons (CL Z) (aH.cons (zBc (bR (Fy Z) g.1 g.2) L.1 L.2) .nil))))))) Z (λa0=>(nK [] Z)) λa0=>?_;refine eN Z (jG Z)<|eN Z (dG Z) ?_;refine JR.guard (by exact rfl) (by exact rfl) (by exact rfl) (λy=>?_) (λy=>?_)
       ·have h:=Hh y h;refine aK Z Z Z Z<|aK Z Z Z Z<|aK Z Z Z Z<|aK Z Z Z Z<|aK Z Z Z Z<|aK Z Z Z Z<|aK Z Z Z Z<|aK Z Z Z Z<|aK Z Z Z Z<|aK Z Z Z Z<|bN 32 Z Z<|aO Z<|d_ Z<|aP ?_;exact f_ (true) () h SF Z
       have h:=En y h;refine bW Z .nil .nil (cT Z Z Z Z Z) (uR Z)<|bW Z (a_.cons 0 Z .nil) .nil (dL 0 Z Z Z Z Z) (uR Z)<|bW Z .nil .nil (dG Z) (uR Z)<|cQ h λi h=>aZ (cE (z_ Z)) λam=>bW Z .nil .nil (cO Z Z am Z Z i) (uR Z)<|bW Z .nil (eV 7 Z) (c_ Z (b_ Z) Z Z i) (uR Z)<|bW Z .nil .nil (dG Z) (uR Z)<|cQ h λM h=>aZ (cE (bR (z_ Z) i.1 i.2)) λan=>?_;refine bW Z .nil .nil (cO Z Z an Z Z M) (uR Z) ?_;refine bW Z .nil (eV 7 Z) (c_ Z (bR (b_ Z) i.1 i.2) Z Z M) (uR Z) ?_;refine bW Z .nil (eV 7 Z) (dM Z (bR (bR (b_ Z) i.1 i.2) M.1 M.2) Z) (uR Z) ?_;refine bW Z .nil .nil (dG Z) (uR Z)<|bN 32 Z Z<|aW Z (wY Z Z) Z<|eR Z<|aP ?_;exact f_ (decide (o<((at' (at' q.2.2 a) b).length:Int))) () h SF Z
      intro v af h;refine rR h Z (λ_ h=>?_) λ_ h=>?_
      ·refine aU<|aC Z<|aP<|aS<|aG<|bF<|aG<|aG<|bF<|bF<|aG<|aG<|bF<|aG ?_;cases h;exact mO Z
      refine cL<|aU<|aC Z<|aP<|aT<|eW (AG U p t q a b (bL R V)) (λw ag=>[(2,vI (o)),(4,vP F),(5,vP G),(7,vP H),(9,k),(10,vI (a)),(11,vI (b)),(12,vI (w))]) (λw ag=>[m,n,j]) (0:Int) () h SF (a_.refl _) ?_;intro a1 w ag h;refine aN<|aU<|aA Z<|bV Z<|dK 0 Z<|aA Z<|cQ h λe h=>aB (bK Z Z (z_ Z) Z Z e) Z<|aB (c_ Z (z_ Z) Z Z e) Z<|aA Z<|cQ h λJ h=>aB (bK Z Z (bR (z_ Z) e.1 e.2) Z Z J) Z ?_;refine aB (c_ Z (bR (z_ Z) e.1 e.2) Z Z J) Z ?_;refine aB (dM Z (bR (bR (z_ Z) e.1 e.2) J.1 J.2) Z) Z ?_;refine cU Z<|aP ?_;refine eG h Z (λh=>?_) λh=>?_
      ·refine cL<|aN<|aT<|aN ?_;refine rP [0,0,0,0,8,0,56,120,0,504,1016,0,4088,8184,16383,32767] 14 mixedOrders ?_;refine jA 2 Z<|jA 1 Z<|aV Z<|cC Z<|eQ 0 Z<|aV Z<|cQ h λd h=>aZ (cE (z_ Z)) λah=>eN Z (cO Z Z ah Z Z d)<|bA Z .nil (eV 7 Z) (c_ Z (b_ Z) Z Z d) aL.z<|aV Z<|cQ h λf h=>aZ (cE (bR (z_ Z) d.1 d.2)) λai=>?_;refine eN Z (cO Z Z ai Z Z f) ?_;refine bA Z .nil (eV 7 Z) (c_ Z (bR (b_ Z) d.1 d.2) Z Z f) aL.z ?_;refine aV Z<|cQ h λK h=>aZ (cE (bR (bR (z_ Z) d.1 d.2) f.1 f.2)) λaj=>?_;refine eN Z (cO Z Z aj Z Z K) ?_;refine bA Z .nil (eV 7 Z) (bS Z (bR (bR (b_ Z) d.1 d.2) f.1 f.2) Z Z K) aL.z ?_;refine bN 14 Z Z<|eI h λav az h=>aJ (zBb Xn (HQ U S T X Y z4 ((at' ((at' ((at' ar a).2) b).2) w).1) av az) Z (aH.cons (b_ Z) (aH.cons (mR Z) (aH.cons (zI Z) (aH.cons (Bh Z) (aH.cons (CL Z) (aH.cons (zBc (bR (bR (z_ Z) d.1 d.2) f.1 f.2) K.1 K.2) .nil))))))) Z λa2=>?_;refine aB (jG Z) Z<|aP ?_;refine rR h Z (λ_ h=>?_) λ_ h=>?_
       ·refine aU<|aC Z<|aP<|aS<|bF<|aG<|aG<|bF<|bF<|aG<|aG<|bF<|bF<|aG<|aG<|bF<|aG ?_;cases h;exact mO Z
       refine dW<|lA<|aR<|aA Z<|cN Z<|aC Z<|aP ?_;exact xD (wI .i64 (w+(1:Int))) () h SF Z
      refine uE<|g_<|g_<|Cr<|lA ?_;exact f_ () (()) h SF Z
     intro E ae h;unfold vL at h;refine aR<|aA Z<|cN Z<|aC Z<|aP ?_;exact xD (wI .i64 (b+(1:Int))) () h SF Z
    refine uE<|g_<|g_<|Cr<|lA ?_;exact f_ () (()) h SF Z
   intro D ab h;unfold AC at h;refine aR<|aA Z<|cN Z<|aC Z<|aP ?_;exact xD (wI .i64 (a+(1:Int))) () h SF Z
  refine eP ?_;exact cB () (()) h SF .nil (aH.refl _ _)
 intro a8 b9 h;unfold AB at h;refine aU<|aC Z<|aP<|aS ?_;cases h;exact iR Z
end Go.Proofs.YtflciafboapaaaaGreat
namespace Go.Proofs.YtflciafboapaaaaGreat
open Go Go.Sx
def BC (n:Nat) (b:Nat->Bool):Bool:=(List.range n).all b
theorem pN {n:Nat} {b:Nat->Bool}:BC n b=true↔∀k,k<n->b k=true:=by simp[BC]
theorem Lw {n:Nat} {b:Nat->Bool} (h:¬BC n b=true):∃m,m<n/\b m=false/\∀j,j<m->b j=true:=by
 have g:∃k,k<n/\b k=false:=Classical.byContradiction λq=>h (pN.2 λk a=>by
  cases e:b k
  ·exact absurd ⟨k,a,e⟩ q
  ·rfl)
 obtain⟨k,a,e⟩:=g;obtain⟨m,i,c,d⟩:=NK (p:=λk=>b k=false) k e;exact⟨m,by omega,c,λj f=>by
  cases e:b j
  ·exact absurd e (d j f)
  ·rfl⟩
theorem lI {B:Type} {n:Nat} {b:Nat->Bool} {a:Int->(Int->Option B)->Option B} {z:B} {K:Option B}
  (e:∀(k:Nat) c,k<n->a (k:Int) c=if b k=true then c ((k+1:Nat):Int)else some z) (l:∀c,a (n:Int) c=K) (o:n<1000):bL a 1000 0=if BC n b=true then K else some z:=by
 by_cases h:BC n b=true
 ·rw[if_pos h];have f:=pN.1 h;exact dJ n (λk=>(k:Int)) (λk c d=>by rw[e k c d,if_pos (f k d)]) l 1000 o
 ·rw[if_neg h];obtain⟨m,g,i,j⟩:=Lw h;exact dJ m (λk=>(k:Int)) (λk c d=>by rw[e k c (by omega),if_pos (j k d)]) (λc=>by rw[e m c g,if_neg (by rw[i];decide)]) 1000 (by omega)
theorem ifB (b:Bool):(if b=true then some true else some false)=some b:=by cases b<;>rfl
def FK (g:GR) (a:List EC) (v:Nat) (l:bT):Bool:=decide (l.length=a.length)&&BC a.length λx=>decide ((qB g a v x).1<=at' l (x:Int)/\at' l (x:Int)<=(qB g a v x).2)
def Ug (g:GR) (a:List EC) (c:bQ):Bool:=decide (c.length=g.2.length)&&BC g.2.length λv=>FK g a v (at' c (v:Int))
section
variable {g:GR} {vars:List EC} {p:Fh}
theorem Zb (i:vars.length<=20) (v:Nat) (l:List Int):uU 1000 (Hu g vars v) l=some (FK g vars v l):=by
 have c:(Hu g vars v).length=vars.length:=by simp[Hu]
 unfold uU FK;by_cases h:l.length=vars.length
 ·rw[if_neg (by rw[c,h];simp),zA4 h,zAs,<-ifB];refine lI (λk d f=> ?_) (λd=> ?_) (by omega)
  ·have e:at' (Hu g vars v) (k:Int)=qB g vars v k:=ES _ f;unfold sY yI;rw[if_pos (by omega),cF (by omega),cF (by omega),e];by_cases a:at' l (k:Int)<(qB g vars v k).1
   ·rw[if_pos a,if_pos Z,if_neg (by rw[zAa];omega)]
   ·rw[if_neg a,cF (by omega)];by_cases b:(qB g vars v k).2<at' l (k:Int)
    ·rw[zA4 b,if_pos Z,if_neg (by rw[zAa];omega)]
    ·rw[zA3 b,if_neg (by decide),if_pos (by rw[zAa];omega),cV (by omega)]
  ·unfold sY yH;rw[if_neg (by omega)]
 ·rw[if_pos (by rw[c];omega),zA3 h,Bool.false_and]
theorem Zc (d:VG g) (b:gR g p.2.1) {v:Nat} (f:v<g.2.length) (l:List Int):pZ 1000 p g (v:Int) l=some (FK g p.2.1 v l):=by
 have i:=b.len;unfold pZ FK;by_cases h:l.length=p.2.1.length
 ·rw[if_neg (by rw[h];simp),zA4 h,zAs,<-ifB];refine lI (λk c e=> ?_) (λc=> ?_) (by omega)
  ·unfold AI;rw[if_pos (by omega),bH (show jO 1000 _ _ (v:Int) (k:Int)=_ from QB d b e f),cF (by omega),bH (jF 1000 _ _ _),cV (by omega)];by_cases a:(qB g p.2.1 v k).1<=at' l (k:Int)/\at' l (k:Int)<=(qB g p.2.1 v k).2
   ·rw[zA4 a,if_neg (by decide),if_pos Z]
   ·rw[zA3 a,if_pos (by decide),if_neg (by decide)]
  ·unfold AI AH;rw[if_neg (by omega)]
 ·rw[if_pos (by omega),zA3 h,Bool.false_and]
theorem adq (a:VG g) (b:gR g p.2.1) (c:List (List Int)):uT 1000 p g c=some (if Ug g p.2.1 c=true then 0 else 10):=by
 have f:=a.n24;have d:(BO g p.2.1).length=g.2.length:=by simp[BO]
 unfold uT;rw[bH (show pV 1000 _ _=some 0 from Un a b),if_neg (by decide),bH (show lJ 1000 _ _=_ from Mz a b)];have:yG 1000 (BO g p.2.1) c=some (Ug g p.2.1 c):=by
  unfold yG Ug;by_cases h:c.length=g.2.length
  ·rw[if_neg (by rw[d,h];simp),zA4 h,zAs,<-ifB];refine lI (λk e i=> ?_) (λe=> ?_) (by omega)
   ·have j:at' (BO g p.2.1) (k:Int)=Hu g p.2.1 k:=ES _ i;unfold wE;rw[if_pos (by omega),cF (by omega),cF (by omega),j,bH (Zb b.len k _),cV (by omega)];cases FK g p.2.1 k (at' c (k:Int))<;>rfl
   ·unfold wE wD;rw[if_neg (by omega)]
  ·rw[if_pos (by rw[d];omega),zA3 h,Bool.false_and]
 rw[bH this];cases Ug g p.2.1 c<;>rfl
theorem aaN (d:VG g) (e:gR g p.2.1) (c:List (List Int)):lF 1000 p g c=some (if Ug g p.2.1 c=true then 0 else 10):=by
 have l:=d.n24;have o:=e.len;unfold lF Ug;rw[bH (show pQ 1000 _ _=some 0 from XW d e),if_neg (by decide)];by_cases h:c.length=g.2.length
 ·rw[if_neg (by omega),zA4 h,zAs];rw[lI (n:=g.2.length) (b:=λv=>FK g p.2.1 v (at' c (v:Int))) (z:=10) (K:=some 0) (λk j m=> ?_) (λj=> ?_) (by omega)]
  ·cases BC g.2.length λv=>FK g p.2.1 v (at' c (v:Int))<;>rfl
  ·unfold lK FK;rw[if_pos (by omega),cF (by omega)];by_cases f:(at' c (k:Int)).length=p.2.1.length
   ·rw[if_neg (by omega),zA4 f,zAs];refine lI (λx a q=> ?_) (λa=> ?_) (by omega)
    ·unfold oL;rw[cF (by omega),if_pos (by omega),bH (show jO 1000 _ _ (k:Int) (x:Int)=_ from QB d e q m),cF (by omega),cF (by omega),bH (jF 1000 _ _ _),cV (by omega)];by_cases i:(qB g p.2.1 k x).1<=at' (at' c (k:Int)) (x:Int)/\at' (at' c (k:Int)) (x:Int)<=(qB g p.2.1 k x).2
     ·rw[zA4 i,if_neg (by decide),if_pos Z]
     ·rw[zA3 i,if_pos (by decide),if_neg (by decide)]
    ·unfold oL vH;rw[cF (by omega),if_neg (by omega),cV (by omega)]
   ·rw[if_pos (by omega),zA3 f,Bool.false_and,if_neg (by decide)]
  ·unfold lK vG;rw[if_neg (by omega)]
 ·rw[if_pos (by omega),zA3 h,Bool.false_and,if_neg (by decide)]
theorem Yq (a:VG g) (b:gR g p.2.1) (c:List (List Int)):uV 1000 p g c=some (Ug g p.2.1 c):=by
 unfold uV;rw[bH (show uT 1000 _ _ _=_ from adq a b c)];cases Ug g p.2.1 c<;>rfl
theorem Tm (a:VG g) (b:gR g p.2.1) (c:List (List Int)):mF 1000 p g c=some (Ug g p.2.1 c):=by
 unfold mF;rw[bH (show lF 1000 _ _ _=_ from aaN a b c)];cases Ug g p.2.1 c<;>rfl
end
def wiB (g:GR) (a:List EC) (b:Int) (y:AZ) (v i:Nat):Bool:=FK g a (zF g v i) (nS y.2.1 v i)&&(decide (((nS y.2.2 v i).length:Int)<=b)&&BC (nS y.2.2 v i).length λk=>FK g a v (at' (nS y.2.2 v i) (k:Int)))
def rvB (g:GR) (a:List EC) (b:Int) (y:AZ) (v:Nat):Bool:=decide ((at' y.2.1 (v:Int)).length=(row g v).length)&&(decide ((at' y.2.2 (v:Int)).length=(row g v).length)&&BC (row g v).length (wiB g a b y v))
def MM (g:GR) (a:List EC) (b:Int) (y:AZ):Bool:=Ug g a y.1&&(decide (1<=b/\b<=8)&&(decide (y.2.1.length=g.2.length)&&(decide (y.2.2.length=g.2.length)&&BC g.2.length (rvB g a b y))))
section
variable {g:GR} {p:Fh}
theorem Jn (c:VG g) (m:gR g p.2.1) (cap:Int) (y:AZ):kG 1000 p g cap y=some (MM g p.2.1 cap y):=by
 have E:=c.n24;have I:(BO g p.2.1).length=g.2.length:=by simp[BO]
 have e:∀(v:Nat) (l:List Int),v<g.2.length->pE 1000 (v:Int) l (BO g p.2.1)=some (FK g p.2.1 v l):=λv l d=>by
  have F:at' (BO g p.2.1) (v:Int)=Hu g p.2.1 v:=ES _ d;unfold pE;rw[cF (by omega),F,bH (Zb m.len v l)]
 unfold kG MM;rw[bH (show uV 1000 _ _ _=_ from Yq c m y.1)];cases G:Ug g p.2.1 y.1
 ·rfl
 rw[if_neg (by decide),zAs];by_cases r:cap<1
 ·rw[if_pos r,zA3 (p:=1<=cap/\cap<=8) (by omega)];rfl
 rw[if_neg r];by_cases s:8<cap
 ·rw[zA4 s,zA3 (p:=1<=cap/\cap<=8) (by omega)];rfl
 rw[zA3 s,zA4 (p:=1<=cap/\cap<=8) (by omega),zAs];unfold vM;rw[if_neg (by decide)];by_cases t:y.2.1.length=g.2.length
 rotate_left
 ·rw[if_pos (by omega),zA3 t];rfl
 rw[if_neg (by omega),zA4 t,zAs];by_cases u:y.2.2.length=g.2.length
 rotate_left
 ·rw[zA3 u,show decide ((y.2.2.length:Int)≠(g.2.length:Int))=true from zA4 (by omega)];rfl
 rw[zA4 u,zAs,show decide ((y.2.2.length:Int)≠(g.2.length:Int))=false from zA3 (by omega)];unfold AN;rw[if_neg (by decide),bH (show lJ 1000 _ _=_ from Mz c m),<-ifB];refine lI (λv C d=> ?_) (λC=> ?_) (by omega)
 rotate_left
 ·unfold gM AO;rw[if_neg (by omega)]
 have A:=(c.node v d).deg;have a:at' g.2 (v:Int)=row g v:=rfl;unfold gM rvB;rw[if_pos (by omega),cF (by omega),cF (by omega),a];by_cases w:(at' y.2.1 (v:Int)).length=(row g v).length
 rotate_left
 ·rw[if_pos (by omega),zA3 w,Bool.false_and,if_neg (by decide)];rfl
 rw[if_neg (by omega),cF (by omega),zA4 w,zAs];by_cases x:(at' y.2.2 (v:Int)).length=(row g v).length
 rotate_left
 ·rw[zA3 x,Bool.false_and,if_neg (by decide),show decide (((at' y.2.2 (v:Int)).length:Int)≠((row g v).length:Int))=true from zA4 (by omega)];rfl
 rw[zA4 x,zAs,show decide (((at' y.2.2 (v:Int)).length:Int)≠((row g v).length:Int))=false from zA3 (by omega)];unfold AQ;rw[if_neg (by decide)];refine lI (λi b B=> ?_) (λb=> ?_) (by omega)
 rotate_left
 ·unfold jK AP;rw[a,if_neg (by omega),cV (by omega)]
 have n:=tO c d B;have o:=(Bi c d B).ul;have j:at' (row g v) (i:Int)=jM (row g v) i:=rfl;unfold jK wiB;rw[a,if_pos (by omega),cF (by omega),cF (by omega),cF (by omega),cF (by omega),cF (by omega),j,n,bH (e _ _ o)];have D:at' (at' y.2.1 (v:Int)) (i:Int)=nS y.2.1 v i:=rfl;have h:at' (at' y.2.2 (v:Int)) (i:Int)=nS y.2.2 v i:=rfl;rw[D,h];cases FK g p.2.1 (zF g v i) (nS y.2.1 v i)
 ·rfl
 rw[if_neg (by decide),zAs];unfold AR;by_cases z:((nS y.2.2 v i).length:Int)<=cap
 rotate_left
 ·rw[zA3 z,Bool.false_and,if_pos (by rw[zAa];omega),if_neg (by decide)]
 rw[zA4 z,zAs,if_neg (by rw[zAa];omega)];have q:bL (rO 1000 y (BO g p.2.1) (v:Int) (i:Int) b) 1000 0=if BC (nS y.2.2 v i).length (λk=>FK g p.2.1 v (at' (nS y.2.2 v i) (k:Int)))=true then vN (i:Int) b ()else some false:=by
  refine lI (λk f H=> ?_) (λf=> ?_) (by omega)
  ·unfold rO;rw[h,if_pos (by omega),cF (by omega),bH (show pE 1000 _ _ _=_ from e v _ d)];unfold CN;cases FK g p.2.1 v (at' (nS y.2.2 v i) (k:Int))
   ·rw[if_pos (by decide),if_neg (by decide)];unfold rM AS;rw[if_pos (by rw[zAa];omega)]
   ·rw[if_neg (by decide),if_pos (by decide),cV (by omega)]
  ·unfold rO;rw[h,if_neg (by omega)]
 refine q.trans ?_;unfold vN rM AS;rw[if_neg (show¬decide ((0:Int) <= -1)=true by decide),cV (by omega)]
theorem Jm (c:VG g) (l:gR g p.2.1) (cap:Int) (y:AZ):kF 1000 p g cap y=some (MM g p.2.1 cap y):=by
 have B:=c.n24;unfold kF MM;rw[bH (show mF 1000 _ _ _=_ from Tm c l y.1)];cases C:Ug g p.2.1 y.1
 ·rfl
 rw[if_neg (by decide),zAs,bH (jF 1000 _ _ _)];by_cases o:1<=cap/\cap<=8
 rotate_left
 ·rw[zA3 o];rfl
 rw[zA4 o,if_neg (by decide),zAs];by_cases q:y.2.1.length=g.2.length
 rotate_left
 ·rw[if_pos (by omega),zA3 q];rfl
 rw[if_neg (by omega),zA4 q,zAs];by_cases r:y.2.2.length=g.2.length
 rotate_left
 ·rw[zA3 r,show decide ((y.2.2.length:Int)≠(g.2.length:Int))=true from zA4 (by omega)];rfl
 rw[zA4 r,zAs,show decide ((y.2.2.length:Int)≠(g.2.length:Int))=false from zA3 (by omega)];unfold rA;rw[if_neg (by decide),<-ifB];refine lI (λv z e=> ?_) (λz=> ?_) (by omega)
 rotate_left
 ·unfold kI AB;rw[if_neg (by omega)]
 have w:=(c.node v e).deg;have a:at' g.2 (v:Int)=row g v:=rfl;unfold kI rvB;rw[if_pos (by omega),cF (by omega),cF (by omega),a];by_cases s:(at' y.2.1 (v:Int)).length=(row g v).length
 rotate_left
 ·rw[if_pos (by omega),zA3 s,Bool.false_and,if_neg (by decide)];rfl
 rw[if_neg (by omega),cF (by omega),cF (by omega),zA4 s,zAs];by_cases t:(at' y.2.2 (v:Int)).length=(row g v).length
 rotate_left
 ·rw[zA3 t,Bool.false_and,if_neg (by decide),show decide (((at' y.2.2 (v:Int)).length:Int)≠((row g v).length:Int))=true from zA4 (by omega)];rfl
 rw[zA4 t,zAs,show decide (((at' y.2.2 (v:Int)).length:Int)≠((row g v).length:Int))=false from zA3 (by omega)];unfold AD;rw[if_neg (by decide)];refine lI (λi d x=> ?_) (λd=> ?_) (by omega)
 rotate_left
 ·unfold oM AC;rw[cF (by omega),a,if_neg (by omega),cV (by omega)]
 have m:=tO c e x;have n:=(Bi c e x).ul;have j:at' (row g v) (i:Int)=jM (row g v) i:=rfl;have A:at' (at' y.2.1 (v:Int)) (i:Int)=nS y.2.1 v i:=rfl;have h:at' (at' y.2.2 (v:Int)) (i:Int)=nS y.2.2 v i:=rfl;unfold oM wiB;rw[cF (by omega),a,if_pos (by omega),cF (by omega),cF (by omega),cF (by omega),cF (by omega),j,m,A,h,bH (show pZ 1000 _ _ _ _=_ from Zc c l n _)];cases FK g p.2.1 (zF g v i) (nS y.2.1 v i)
 ·rfl
 rw[if_neg (by decide),zAs,cF (by omega),cF (by omega)];unfold AE;by_cases u:((nS y.2.2 v i).length:Int)<=cap
 rotate_left
 ·rw[zA3 u,Bool.false_and,if_pos (by rw[zAa];omega),if_neg (by decide)]
 rw[zA4 u,zAs,if_neg (by rw[zAa];omega)];refine Eq.trans (b:=if BC (nS y.2.2 v i).length (λk=>FK g p.2.1 v (at' (nS y.2.2 v i) (k:Int)))=true then vL (i:Int) d ()else some false) (lI (λk f D=> ?_) (λf=> ?_) (by omega)) ?_
 ·unfold AG;rw[cF (by omega),cF (by omega),h,if_pos (by omega),cF (by omega),cF (by omega),cF (by omega),bH (show pZ 1000 _ _ _ _=_ from Zc c l e _),cV (by omega)];cases FK g p.2.1 v (at' (nS y.2.2 v i) (k:Int))<;>rfl
 ·unfold AG;rw[cF (by omega),cF (by omega),h,if_neg (by omega)]
 ·unfold vL;rw[cV (by omega)]
end
end Go.Proofs.YtflciafboapaaaaGreat
namespace Go.Proofs.YtflciafboapaaaaGreat
open Go.Sx
def yV (a:iI×Int×bQ) (b:gX):Option EZ:=
 some (a.1,a.2.1,b.1,a.2.2,b.2.1,b.2.2)
def sJ (b:iI×Int×bQ) (c:bQ) (a:List bQ×List (List bQ)):Option EZ:=
 yV b (c,a.1,a.2)
def yW (a:NY) (c:NX->Option EZ) (d:bQ) (b:rV):Option EZ:=
 ck ((a.2.2.length:Int)+(List.length ([b]):Int)<=1099511627) (c ((wI .i64 (a.1+(1:Int))),(a.2.1++[d]),(a.2.2++[b])))
def oP (U:Nat) (f:gX) (b:NY) (e:NX->Option EZ) (g:bQ) (a:List bQ×Int) (d:(List bQ×Int)->Option EZ):Option EZ:=
 if a.2<((at' f.2.2 b.1).length:Int)then(ck (0<=a.2/\a.2<((at' f.2.2 b.1).length:Int)) (Option.bind (pY U (at' (at' f.2.2 b.1) a.2)) λc=>(ck ((a.1.length:Int)+(List.length ([c]):Int)<=1099511627) (d ((a.1++[c]),(wI .i64 (a.2+(1:Int))))))))else(yW b e g (a.1))
def kP (U:Nat) (c:gX) (e:iI×Int×bQ) (f:bQ) (a:NY) (b:NX->Option EZ):Option EZ:=
 if a.1<(c.2.1.length:Int)then(ck (0<=a.1/\a.1<(c.2.1.length:Int)) (Option.bind (pY U (at' c.2.1 a.1)) λd=>(ck ((a.2.1.length:Int)+(List.length ([d]):Int)<=1099511627) (ck (0<=a.1/\a.1<(c.2.2.length:Int)) (bL (oP U c a b d) U (([]:rV),(0:Int)))))))else(sJ e f (a.2.1,a.2.2))
def sI (U:Nat) (c:gX) (a:iI×Int×bQ):Option EZ:=
 Option.bind (pY U c.1) λb=>(bL (kP U c a b) U ((0:Int),([]:rV),([]:CW)))
def sK (U:Nat) (c:fE) (d:cJ) (e:gX) (a:Int×bQ):Option EZ:=
 Option.bind (lJ U ((c.1,c.2.1,c.2.2)) ((d.1,d.2))) λb=>(sI U e (b,a.1,a.2))
def oO (U:Nat) (b:fE) (c:cJ) (d:gX) (a:Int×bQ):Option EZ:=
 sK U b c d (a.1,a.2)
def yX (d:cJ) (a:Int×Int×bQ) (b:MC->Option EZ) (c:bQ):Option EZ:=
 b ((wI .i64 (a.1+(1:Int))),(max a.2.1 (at' d.1 a.1)),c)
def yY (U:Nat) (f:cJ) (a:Int×Int×bQ) (d:MC->Option EZ) (b:Int×bQ) (e:(Int×bQ)->Option EZ):Option EZ:=
 if b.1<((at' f.2 a.1).length:Int)then(ck (0<=b.1/\b.1<((at' f.2 a.1).length:Int)) (ck (0<=a.1/\a.1<(b.2.length:Int)) (Option.bind (mM U ((f.1,f.2)) ((at' (at' f.2 a.1) b.1).1) a.1) λc=>(ck (((at' b.2 a.1).length:Int)+(List.length ([c]):Int)<=1099511627) (ck (0<=a.1/\a.1<((List.set b.2 (Int.toNat a.1) ((at' b.2 a.1)++[c])).length:Int)) (e ((wI .i64 (b.1+(1:Int))),(List.set b.2 (Int.toNat a.1) ((at' b.2 a.1)++[c])))))))))else(yX f a d (b.2))
def oQ (U:Nat) (d:fE) (c:cJ) (e:gX) (a:Int×Int×bQ) (b:MC->Option EZ):Option EZ:=
 if a.1<(c.2.length:Int)then(ck (0<=a.1/\a.1<(c.2.length:Int)) (ck (0<=a.1/\a.1<(c.1.length:Int)) (bL (yY U c a b) U ((0:Int),a.2.2))))else(oO U d c e (a.2.1,a.2.2))
def jC (U:Nat) (b:fE) (a:cJ) (d:Int) (c:gX):Option EZ:=
 ck (0<=(a.2.length:Int)/\(a.2.length:Int)<=1099511627) (bL (oQ U b a c) U ((0:Int),(0:Int),(List.replicate (Int.toNat (a.2.length:Int)) ([]:bT))))
theorem SB:bB Tryz.prog 56:=Tryz.call56
theorem AW (U:Nat) {p0:fE} {p1:cJ} {p2:Int} {E:gX} (m n s p:V0) (z4:kX) (L:V0) (z6:nG) (P:V0) (z8:CV) (Q:V0) (W:CU) (r:DL) (h:jC U p0 p1 p2 E=some r):
  bE Tryz.prog 56 #[Value.agg #[vS (p0.1),m,n],Value.agg #[s,p],vI (p2),Value.agg #[L,P,Q]] [Sl aE m p0.2.1,Sl aD n p0.2.2,PF (Value.agg #[vS p0.1,m,n]),Sl aM s p1.1,S2 aY p z4 p1.2,S2 aM L z6 E.1,S3 aM P z8 E.2.1,S4 aM Q W E.2.2] (λg:Nat×Nat×V0×V0×V0×List V0×Nat×V0×List V0×V0×List V0×List V0×List (List V0)×List V0×List (List V0)×List (List (List V0))=>vP g.1) (λg l=>bM g.1 [s,p,vI (p2),vP g.2.1,g.2.2.1,g.2.2.2.1,g.2.2.2.2.1] 108::Ar bJ.raw g.2.2.1 g.2.2.2.2.2.1::bM g.2.1 [vS (p0.1),m,n,vP g.2.2.2.2.2.2.1,g.2.2.2.2.2.2.2.1] 157::Ar bJ.raw g.2.2.2.2.2.2.2.1 g.2.2.2.2.2.2.2.2.1::fQ bX g.2.2.2.2.2.2.2.2.1 r.1::bM g.2.2.2.2.2.2.1 [vS (p0.1),m,n,s,p,vI (r.2.1),g.2.2.2.2.2.2.2.2.2.1] 206::Ar bJ.raw g.2.2.2.2.2.2.2.2.2.1 g.2.2.2.2.2.2.2.2.2.2.1::Ar bJ.raw g.2.2.2.1 g.2.2.2.2.2.2.2.2.2.2.2.1::fQ bJ.raw g.2.2.2.2.2.2.2.2.2.2.2.1 g.2.2.2.2.2.2.2.2.2.2.2.2.1::Ar bJ.raw g.2.2.2.2.1 g.2.2.2.2.2.2.2.2.2.2.2.2.2.1::tC bJ.raw g.2.2.2.2.2.2.2.2.2.2.2.2.2.1 g.2.2.2.2.2.2.2.2.2.2.2.2.2.2.1 g.2.2.2.2.2.2.2.2.2.2.2.2.2.2.2::l) (λg l=>mT aM g.2.2.2.2.2.1 r.2.2.1::mT aM g.2.2.2.2.2.2.2.2.2.2.1 r.2.2.2.1::wX aM g.2.2.2.2.2.2.2.2.2.2.2.2.1 r.2.2.2.2.1::Bz aM g.2.2.2.2.2.2.2.2.2.2.2.2.2.2.2 r.2.2.2.2.2::l):=by
 refine bE.of Tryz.func56 Z Tryz.ntmps56 Z λc=>?_;refine aU<|aJ (aQ.box (cs:=[vS (p0.1),m,n]) Z Z) Z λS=>aJ (aQ.box (cs:=[s,p]) Z Z) Z λT=>aJ (aQ.box (cs:=[L,P,Q]) Z Z) Z λV=>aC Z<|aP<|aN ?_;refine rP [0,0,0,0,12,0,60,127,255,511] 7 mixedOrders ?_;refine jA 1 Z<|aV Z<|jA 2 Z<|jA 1 Z<|Fe (A:=iI×Int×bQ) (B:=Nat×Nat×V0×List V0×V0×List V0) (vs:=[Value.agg #[vS (p0.1),m,n],Value.agg #[s,p]]) (λo=>sI U E o=some r) (λo a=>vP a.1) (λo a=>[bM a.1 [vS (p0.1),m,n,vP a.2.1,a.2.2.1] 157,Ar bJ.raw a.2.2.1 a.2.2.2.1,fQ bX a.2.2.2.1 o.1,bM a.2.1 [vS (p0.1),m,n,s,p,vI (o.2.1),a.2.2.2.2.1] 206,Ar bJ.raw a.2.2.2.2.1 a.2.2.2.2.2,fQ fT a.2.2.2.2.2 o.2.2,bM V [L,P,Q] 43,bM T [s,p] 31,bM S [vS (p0.1),m,n] 36]) (λo a=>[Sl aE m p0.2.1,Sl aD n p0.2.2,PF (Value.agg #[vS p0.1,m,n]),Sl aM s p1.1,S2 aY p z4 p1.2,S2 aM L z6 E.1,S3 aM P z8 E.2.1,S4 aM Q W E.2.2]) Z Z Z (pJ.fn (show bB Tryz.prog 78 from Tryz.call78) Z) Tryz.func78 Z Tryz.ntmps78 Z Z (λ_ _=>(nK [([7],[])] Z)) ?_ ?_
 ·refine aU<|aJ (aQ.box (cs:=[vS (p0.1),m,n]) Z Z) Z λaf=>aJ (aQ.box (cs:=[s,p]) Z Z) Z λag=>aC Z<|aP<|aN ?_;refine rP [0,0,0,6,0,0,62,127,255,511] 7 mixedOrders ?_;refine jA 1 Z<|jA 1 Z<|jA 0 Z<|Fe (A:=Int×bQ) (B:=Nat×V0×List V0) (vs:=[Value.agg #[vS (p0.1),m,n],Value.agg #[s,p]]) (λI=>sK U p0 p1 E I=some r) (λI y=>vP y.1) (λI y=>[bM y.1 [vS (p0.1),m,n,s,p,vI (I.1),y.2.1] 206,Ar bJ.raw y.2.1 y.2.2,fQ fT y.2.2 I.2,bM ag [s,p] 31,bM af [vS (p0.1),m,n] 36,bM V [L,P,Q] 43,bM T [s,p] 31,bM S [vS (p0.1),m,n] 36]) (λI y=>[Sl aE m p0.2.1,Sl aD n p0.2.2,PF (Value.agg #[vS p0.1,m,n]),Sl aM s p1.1,S2 aY p z4 p1.2,S2 aM L z6 E.1,S3 aM P z8 E.2.1,S4 aM Q W E.2.2]) Z Z Z (pJ.fn (show bB Tryz.prog 120 from Tryz.call120) Z) Tryz.func120 Z Tryz.ntmps120 Z Z (λ_ _=>(nK [([4],[])] Z)) ?_ ?_
  ·refine aU<|aJ (aQ.box (cs:=[vS (p0.1),m,n]) Z Z) Z λb2=>aJ (aQ.box (cs:=[s,p]) Z Z) Z λaa=>aC Z<|aP<|aN ?_;refine rP [0,0,0,4,12,28,63,127,255] 6 mixedOrders ?_;refine jA 1 Z<|jA 0 Z<|cC Z<|eQ 0 Z<|bA Z .nil (eV 4 Z) (dM Z (b_ Z) Z) aL.z<|cQ h λbu h=>zBe (Ct fT (Int.toNat (p1.2.length:Int)))<|zBd Z Z Z (By (e:=bJ.raw) (cW) Z Z Z Z bu Z Z Z) Z (λG=>(nK [([2],[]),([3],[])] Z)) λG=>bN 6 Z Z<|bD (tM (fG (i:=0) (j:=1) Z Z iY)) λbl=>?_;refine aB (WQ (r:=Value.agg #[vS (p0.1),m,n,s,p,vI (0:Int),G]) Z Z Z (by intro w;simp[Instr.build,Instr.fill,gT,fN,e_,gU,gV,fO,iS,iF bl])) Z ?_;refine aJ (aQ.box (cs:=[vS (p0.1),m,n,s,p,vI (0:Int),G]) Z Z) Z λJ=>aC Z<|aP<|aN<|KC (B:=fL) (λM=>oO U p0 p1 E M=some r) (λM ah=>[(5,vP J)]) (λM ah=>[bM J [vS (p0.1),m,n,s,p,vI (M.1),G] 206,Ar bJ.raw G ah,fQ fT ah M.2,bM ag [s,p] 31,bM af [vS (p0.1),m,n] 36,bM V [L,P,Q] 43,bM T [s,p] 31,bM S [vS (p0.1),m,n] 36]) ?_ ?_
   ·refine aU<|bV Z<|dK 3 Z<|aB (dM Z (CL Z) Z) Z<|aA Z<|aP<|aT<|eW (B:=fL) (oQ U p0 p1 E) (λd ab=>[(3,vP aa),(5,vP J),(19,p),(20,vI (p1.2.length:Int)),(21,vI (d.1))]) (λd ab=>[bM J [vS (p0.1),m,n,s,p,vI (d.2.1),G] 206,Ar bJ.raw G ab,fQ fT ab d.2.2,bM aa [s,p] 31,bM ag [s,p] 31,bM af [vS (p0.1),m,n] 36,bM V [L,P,Q] 43,bM T [s,p] 31,bM S [vS (p0.1),m,n] 36]) ((0:Int),(0:Int),(List.replicate (Int.toNat (p1.2.length:Int)) ([]:bT))) (List.replicate (Int.toNat (p1.2.length:Int)) (cW)) h SF (a_.ix [0,1,2,3,5,6,7,8,9] Z Z) ?_;intro bb d ab h;refine aU<|cU Z<|aP<|aN ?_;refine eG h Z (λh=>?_) λh=>?_
    ·refine cL<|aN<|KC (B:=fL) (λY=>yX p1 d (bL (oQ U p0 p1 E) bb) Y=some r) (λY ai=>[(3,vP aa),(5,vP J),(19,p),(20,vI (p1.2.length:Int)),(21,vI (d.1))]) (λY ai=>[bM J [vS (p0.1),m,n,s,p,vI (max d.2.1 (at' p1.1 d.1)),G] 206,Ar bJ.raw G ai,fQ fT ai Y,bM aa [s,p] 31,bM ag [s,p] 31,bM af [vS (p0.1),m,n] 36,bM V [L,P,Q] 43,bM T [s,p] 31,bM S [vS (p0.1),m,n] 36]) ?_ ?_
     ·refine aT<|aU<|aA Z<|cQ h λN h=>aB (bK Z Z (CL Z) Z Z N) Z<|aB (bS Z (CL Z) Z Z N) Z<|aC Z<|aC Z<|aP<|aN ?_;refine rP [0,0,2,6,14,0,32,0,224,480,1022,2047,4095,8191] 11 mixedOrders ?_;refine aV Z<|aV Z<|eN Z (bU Z)<|cC Z<|eQ 0 Z<|cC Z<|eQ 3 Z<|aV Z<|cQ h λa9 h=>bA Z .nil (eV 3 Z) (bG Z Z (b_ Z) Z Z a9) aL.z<|bA Z .nil (eV 3 Z) (cI Z (b_ Z) Z Z Z eZ a9) aL.z<|eN Z (HB Z Z)<|bN 11 Z Z<|aB (bU Z) Z<|bV Z<|qN 0 Z Z Z Z Z Z<|aP<|aU<|aA Z<|aB (fH Z (zBc (CL Z) N.1 N.2) Z) Z<|aA Z<|aP<|aT<|eW (B:=fL) (yY U p1 d (bL (oQ U p0 p1 E) bb)) (λF ac=>[(3,vP aa),(5,vP J),(6,vI (d.1)),(19,p),(20,vI (p1.2.length:Int)),(21,vI (d.1)),(39,(at' z4 d.1).1),(40,vI ((at' p1.2 d.1).length:Int)),(41,vI (F.1))]) (λF ac=>[bM J [vS (p0.1),m,n,s,p,vI (max d.2.1 (at' p1.1 d.1)),G] 206,Ar bJ.raw G ac,fQ fT ac F.2,bM aa [s,p] 31,bM ag [s,p] 31,bM af [vS (p0.1),m,n] 36,bM V [L,P,Q] 43,bM T [s,p] 31,bM S [vS (p0.1),m,n] 36]) ((0:Int),d.2.2) (ab) h SF (a_.refl _) ?_;intro b5 F ac h;refine aU<|cU Z<|aP<|aN ?_;refine eG h Z (λh=>?_) λh=>?_
      ·refine cL<|aN<|aT<|aU<|cQ h λba h=>aB (bG Z Z (zBc (CL Z) N.1 N.2) Z Z ba) Z<|aB (gS (cs:=[vI ((at' (at' p1.2 d.1) F.1).1),vI ((at' (at' p1.2 d.1) F.1).2)]) Z (zBc (CL Z) N.1 N.2) cR Z Z Z Z ba) Z<|aJ (aQ.alloc (cs:=TF) Z Z) Z λb3=>cD 0 (vs:=[vI ((at' (at' p1.2 d.1) F.1).1),vI ((at' (at' p1.2 d.1) F.1).2)]) Z Z Z Z Z Z<|aP ?_;refine rP [0,1,3,7,0,0,32,96,224,0,992,2016,0,0,8192,0,61440,126976,262112,524287,1048575] 19 mixedOrders ?_;refine aV Z<|eN Z (bU Z)<|cC Z<|eQ 1 Z<|aV Z<|aV Z<|eN Z (bU Z)<|cC Z<|eQ 1 Z<|aV Z<|cQ h λaq h=>aZ (dQ 3 Z) λbf=>?_;refine bA Z (a_.cons 2 Z .nil) .nil (uJ 0 Z Z Z Z Z aq.1 (by have q1:=aq.2;have q2:=bf;(try simp only[zA1]at q1);(try simp only[zA1]at q2);(try simp only[zA1]);omega)) aL.z ?_;refine aZ (dQ 3 Z) λbg=>bA Z (a_.cons 2 Z .nil) .nil (gE 0 Z Z bg Z Z aq) aL.z<|jA 4 Z<|cC Z<|eQ 0 Z<|aV Z<|eI h λam bO h=>zBd Z Z Z (zBb TU (GK U s p z4 am bO) Z (iB [3,4] Z)) Z (λbP=>(nK [([2],[]),([2],[]),([1],[]),([1],[])] Z)) λbP=>zBd Z Z Z (cX (e:=fT) ([am]) [(0,vI (am))] Z Z Z Z (jU (vI (am)) Z) Z Z Z) Z (λbF=>(nK [([3],[]),([3],[]),([2],[]),([2],[])] Z)) λbF=>cQ h λbw h=>zBd Z Z Z (sN 4 iY Z Z Z (dR (aI.res 0 Z) iY) Z Z Z Z aq bw Z) Z (λbe=>(nK [([2],[])] Z)) λbe=>bN 19 Z Z<|cQ h λO h=>bD (dQ 4 Z) λbh=>?_;refine aB (uJ 3 Z Z Z Z Z O.1 (by have q1:=O.2;have q2:=bh;(try simp only[zA1]at q1);(try simp only[zA1]at q2);(try simp only[zA1]);omega)) Z ?_;refine bD (Kc 4 (k:=d.1) Z ⟨O.1,by first|exact O.2|simpa using O.2⟩) λbm=>?_;refine Bv 3 4 ⟨O.1,by first|exact O.2|simpa using O.2⟩ Z Z Z Z Z (by simp) bm Z ?_;refine eS<|lA<|aR<|cN Z<|aA Z<|aP ?_;exact iP ((wI .i64 (F.1+(1:Int))),(List.set F.2 (Int.toNat d.1) ((at' F.2 d.1)++[am]))) (List.set ac (Int.toNat d.1) be) h SF (a_.ix [2,3,4,5,6,7,8,9,10] Z Z) (aH.refl _ _)
      refine uE<|g_<|g_<|Cr<|lA ?_;exact f_ (F.2) (ac) h SF Z
     intro Y ai h;unfold yX at h;refine aR<|cN Z<|aA Z<|aP ?_;exact xD ((wI .i64 (d.1+(1:Int))),(max d.2.1 (at' p1.1 d.1)),Y) (ai) h SF Z
    refine eP ?_;exact cB (d.2.1,d.2.2) (ab) h SF (a_.ix [0,1,2,4,5,6,7,8] Z Z) (aH.refl _ _)
   intro M ah h;unfold oO at h;refine aU<|aA Z<|aC Z<|aP<|aS ?_;exact jX (M.1,M.2) (J,G,ah) h (.inl Z) (Fa.r1 Z (RV.tmp Z)) Z (a_.refl _) (aH.refl _ _)
  intro I y h;unfold sK at h;refine bA Z (a_.cons 4 Z .nil) .nil (dN 0 Z Z Z Z) (aL.h (a_.ix [1] Z Z) .nil aL.z)<|bA Z (a_.cons 3 Z .nil) .nil (dN 0 Z Z Z Z) (aL.h (a_.ix [0] Z Z) .nil aL.z)<|eI h λbd bI h=>zBd Z Z Z (zBb SA (DG U m n s p z4 bd bI) Z (iB [0,1,2,3,4] Z)) Z (λap=>(nK [([6],[])] Z)) λap=>bN 7 Z Z<|bD (tM (fG (i:=0) (j:=1) Z Z cR)) λbk=>?_;refine aB (WQ (r:=Value.agg #[vS (p0.1),m,n,Value.pointer (some ⟨y.1,0,none⟩),ap.1]) Z Z Z (by intro w;simp[Instr.build,Instr.fill,gT,fN,e_,gU,gV,fO,iS,iF bk])) Z ?_;refine aJ (aQ.box (cs:=[vS (p0.1),m,n,vP y.1,ap.1]) Z Z) Z λbn=>aC Z<|aP<|aS ?_;exact jX (bd,I.1,I.2) (bn,y.1,ap.1,ap.2,y.2.1,y.2.2) h (.inl Z) (Fa.r1 Z (RV.tmp Z)) Z (a_.ix [0,1,2,3,4,5,8,9,10] Z Z) (aH.refl _ _)
 intro o a h;unfold sI at h;refine bA Z (a_.cons 6 Z .nil) .nil (dN 0 Z Z Z Z) (aL.h (a_.ix [0] Z Z) .nil aL.z)<|Fe (A:=gX) (B:=ack) (vs:=[Value.agg #[L,P,Q]]) (λae=>yV o ae=some r) (λae f=>Value.agg #[f.1,f.2.1,f.2.2.1]) (λae f=>[Ar bJ.raw f.1 f.2.2.2.1,bM a.1 [vS (p0.1),m,n,vP a.2.1,a.2.2.1] 157,Ar bJ.raw a.2.2.1 a.2.2.2.1,fQ bX a.2.2.2.1 o.1,bM a.2.1 [vS (p0.1),m,n,s,p,vI (o.2.1),a.2.2.2.2.1] 206,Ar bJ.raw a.2.2.2.2.1 a.2.2.2.2.2,bM V [L,P,Q] 43,bM T [s,p] 31,bM S [vS (p0.1),m,n] 36,Ar bJ.raw f.2.1 f.2.2.2.2.1,fQ bJ.raw f.2.2.2.2.1 f.2.2.2.2.2.1,Ar bJ.raw f.2.2.1 f.2.2.2.2.2.2.1,tC bJ.raw f.2.2.2.2.2.2.1 f.2.2.2.2.2.2.2.1 f.2.2.2.2.2.2.2.2]) (λae f=>[mT aM f.2.2.2.1 ae.1,mT aM a.2.2.2.2.2 o.2.2,Sl aE m p0.2.1,Sl aD n p0.2.2,PF (Value.agg #[vS p0.1,m,n]),Sl aM s p1.1,S2 aY p z4 p1.2,S2 aM L z6 E.1,S3 aM P z8 E.2.1,S4 aM Q W E.2.2,wX aM f.2.2.2.2.2.1 ae.2.1,Bz aM f.2.2.2.2.2.2.2.2 ae.2.2]) Z Z Z (pJ.fn (show bB Tryz.prog 101 from Tryz.call101) Z) Tryz.func101 Z Tryz.ntmps101 Z Z (λ_ _=>(nK [([7],[])] Z)) ?_ ?_
 ·refine aU<|aJ (aQ.box (cs:=[L,P,Q]) Z Z) Z λar=>bZ (fZ 6 Z (lH (j:=0) Z iY))<|aJ (aQ.alloc (cs:=[cW,cW,cW]) Z Z) Z λaj=>aP<|aU<|bV Z<|dK 1 Z<|eI h λX b0 h=>aJ (zBb SD (Ew U L z6 X b0) Z (iB [6] Z)) Z λD=>bZ (fZ 1 Z (lH (j:=0) Z iY))<|bD (tM (cK (i:=0) (j:=0) Z Z)) λbp=>?_;refine aB (Oy (r:=Value.agg #[D.1,cW,cW]) Z (by intro w;simp[Instr.build,Instr.fill,gT,fN,e_,gU,gV,fO,iS,iF bp])) Z ?_;refine aJ (aQ.alloc (cs:=[cW,cW,cW]) Z Z) Z λak=>bD (tM (cK (i:=1) (j:=0) Z Z)) λbq=>cD 0 (vs:=[D.1,cW,cW]) Z Z (fY bq (fY Z (fY Z Z))) Z Z Z<|aP<|aN<|jW (B:=NV) (λad=>sJ o X ad=some r) (λad u=>[(2,vP aj),(3,vP ak)]) (λad u=>[bM ak [D.1,u.1,u.2.2.2.1] 43,Ar bJ.raw D.1 D.2,bM aj [cW,cW,cW] 43,bM a.1 [vS (p0.1),m,n,vP a.2.1,a.2.2.1] 157,Ar bJ.raw a.2.2.1 a.2.2.2.1,fQ bX a.2.2.2.1 o.1,bM a.2.1 [vS (p0.1),m,n,s,p,vI (o.2.1),a.2.2.2.2.1] 206,Ar bJ.raw a.2.2.2.2.1 a.2.2.2.2.2,bM V [L,P,Q] 43,bM T [s,p] 31,bM S [vS (p0.1),m,n] 36,Ar bJ.raw u.1 u.2.1,fQ bJ.raw u.2.1 u.2.2.1,Ar bJ.raw u.2.2.2.1 u.2.2.2.2.1,tC bJ.raw u.2.2.2.2.1 u.2.2.2.2.2.1 u.2.2.2.2.2.2]) (λad u=>[mT aM D.2 X,mT aM a.2.2.2.2.2 o.2.2,Sl aE m p0.2.1,Sl aD n p0.2.2,PF (Value.agg #[vS p0.1,m,n]),Sl aM s p1.1,S2 aY p z4 p1.2,S2 aM L z6 E.1,S3 aM P z8 E.2.1,S4 aM Q W E.2.2,wX aM u.2.2.1 ad.1,Bz aM u.2.2.2.2.2.2 ad.2]) ?_ ?_
  ·refine aU<|bV Z<|dK 3 Z<|aB (dM Z (QI Z) Z) Z<|aA Z<|aP<|aT<|bZ (gC bJ.raw)<|bZ (iJ bJ.raw)<|bZ (cG (eC:aI _ _ (wX aM (tg 1 ([]:Bp)) ([]:rV))))<|bZ (gC bJ.raw)<|bZ (uG bJ.raw)<|bZ (cG (eC:aI _ _ (Bz aM (tg 2 ([]:MB)) ([]:CW))))<|nH (B:=NV) (kP U E o X) (λt b=>[(1,vP ar),(2,vP aj),(3,vP ak),(14,vI (E.2.1.length:Int)),(15,vI (t.1))]) (λt b=>[bM ak [D.1,b.1,b.2.2.2.1] 43,Ar bJ.raw D.1 D.2,bM aj [cW,cW,cW] 43,bM ar [L,P,Q] 43,bM a.1 [vS (p0.1),m,n,vP a.2.1,a.2.2.1] 157,Ar bJ.raw a.2.2.1 a.2.2.2.1,fQ bX a.2.2.2.1 o.1,bM a.2.1 [vS (p0.1),m,n,s,p,vI (o.2.1),a.2.2.2.2.1] 206,Ar bJ.raw a.2.2.2.2.1 a.2.2.2.2.2,bM V [L,P,Q] 43,bM T [s,p] 31,bM S [vS (p0.1),m,n] 36,Ar bJ.raw b.1 b.2.1,fQ bJ.raw b.2.1 b.2.2.1,Ar bJ.raw b.2.2.2.1 b.2.2.2.2.1,tC bJ.raw b.2.2.2.2.1 b.2.2.2.2.2.1 b.2.2.2.2.2.2]) (λt b=>[mT aM D.2 X,mT aM a.2.2.2.2.2 o.2.2,Sl aE m p0.2.1,Sl aD n p0.2.2,PF (Value.agg #[vS p0.1,m,n]),Sl aM s p1.1,S2 aY p z4 p1.2,S2 aM L z6 E.1,S3 aM P z8 E.2.1,S4 aM Q W E.2.2,wX aM b.2.2.1 t.2.1,Bz aM b.2.2.2.2.2.2 t.2.2]) ((0:Int),([]:rV),([]:CW)) ((tg 1 (cW)),(tg 1 ([]:fL)),(tg 1 ([]:Bp)),(tg 2 (cW)),(tg 2 ([]:fL)),(tg 2 ([]:Bp)),(tg 2 ([]:MB))) h SF (a_.ix [4,5,6,7,8,9,10,11,12,13,14,15,3,2,1,0] Z Z) (iB [2,3,4,5,6,7,8,9,10,11,1,0] Z) ?_;intro bx t b h;refine aU<|cU Z<|aP<|aN ?_;refine eG h Z (λh=>?_) λh=>?_
   ·refine cL<|aN<|aT<|aU<|aA Z<|aC Z<|aP<|aN ?_;refine rP [0,1,0,4,0,28,60,124,252,511,1023,2047] 9 mixedOrders ?_;refine cC Z<|eQ 0 Z<|cC Z<|eQ 3 Z<|aV Z<|cQ h λa2 h=>aZ (cE (QI Z)) λbo=>eN Z (cO Z Z bo Z Z a2)<|bA Z .nil (eV 8 Z) (c_ Z (b_ Z) Z Z a2) aL.z<|eI h λau b1 h=>zBd Z Z Z (zBb SD (Ew U ((at' z8 t.1).1) ((at' z8 t.1).2) au b1) Z (aH.cons (bR (QI Z) a2.1 (by first|exact a2.2|simpa using a2.2)) .nil)) Z (λK=>(nK [([2],[])] Z)) λK=>?_;refine zBe (fZ 1 Z (lH (j:=0) Z iY))<|aZ (tM (cK (i:=0) (j:=0) Z Z)) λa5=>zBe (iJ bJ.raw)<|zBe (rX 0 1 Z Z Z)<|zBe (cG (hJ (b_ Z) eC))<|zBd Z Z Z (cX (e:=bJ.raw) ([K.1]) [(0,K.1)] Z Z Z Z (jU (K.1) a5) Z Z (fY a5 Z)) Z (λbY=>(nK [([2],[])] Z)) λbY=>bN 9 Z Z<|bD (aX (Da Z)) λa3=>bD (aX (b_ Z)) λa4=>bD (dQ 15 Z) λav=>bD (dQ 1 Z) λaw=>cQ h λa6 h=>bZ (cG (gH (Da Z) (b_ Z)))<|bZ (nP 15 1 Z Z Z) ?_;refine aJ (aQ.append 13 0 Z Z Z Z Z Z Z (by have q:=a6;have q0:=a3;have q1:=a4;have q2:=av;have q3:=aw;(try simp only[zA8,zAg,zA5]at *);omega) (by have q:=a6;have q0:=a3;have q1:=a4;have q2:=av;have q3:=aw;(try simp only[zA8,zAg,zA5]at *);omega) Z) Z λan=>?_;refine bV Z<|bD (tM (fM (i:=13) (q:=14) (j:=0) Z Z Z)) λbi=>qN 1 Z Z bi Z Z Z<|aP<|aU<|aC Z<|aP<|aN<|jW (B:=US) (λR=>yW t (bL (kP U E o X) bx) au R=some r) (λR v=>[(1,vP ar),(2,vP aj),(3,vP ak),(5,v.1),(14,vI (E.2.1.length:Int)),(15,vI (t.1))]) (λR v=>[bM ak [D.1,an,b.2.2.2.1] 43,Ar bJ.raw D.1 D.2,bM aj [cW,cW,cW] 43,bM ar [L,P,Q] 43,bM a.1 [vS (p0.1),m,n,vP a.2.1,a.2.2.1] 157,Ar bJ.raw a.2.2.1 a.2.2.2.1,fQ bX a.2.2.2.1 o.1,bM a.2.1 [vS (p0.1),m,n,s,p,vI (o.2.1),a.2.2.2.2.1] 206,Ar bJ.raw a.2.2.2.2.1 a.2.2.2.2.2,bM V [L,P,Q] 43,bM T [s,p] 31,bM S [vS (p0.1),m,n] 36,Ar bJ.raw an (b.2.1++[K.1]),fQ bJ.raw (b.2.1++[K.1]) (b.2.2.1++[K.2]),Ar bJ.raw b.2.2.2.1 b.2.2.2.2.1,tC bJ.raw b.2.2.2.2.1 b.2.2.2.2.2.1 b.2.2.2.2.2.2,Ar bJ.raw v.1 v.2.1,fQ bJ.raw v.2.1 v.2.2]) (λR v=>[wX aM (b.2.2.1++[K.2]) (t.2.1++[au]),mT aM D.2 X,mT aM a.2.2.2.2.2 o.2.2,Sl aE m p0.2.1,Sl aD n p0.2.2,PF (Value.agg #[vS p0.1,m,n]),Sl aM s p1.1,S2 aY p z4 p1.2,S2 aM L z6 E.1,S3 aM P z8 E.2.1,S4 aM Q W E.2.2,Bz aM b.2.2.2.2.2.2 t.2.2,wX aM v.2.2 R]) ?_ ?_
    ·refine aU<|bV Z<|dK 4 Z<|aA Z<|cQ h λC h=>aB (bK Z Z (Da Z) Z Z C) Z<|aB (c_ Z (Da Z) Z Z C) Z ?_;refine aB (dM Z (bR (Da Z) C.1 (by first|exact C.2|simpa using C.2)) Z) Z ?_;refine aA Z<|aP<|aT<|bZ (gC bJ.raw)<|bZ (iJ bJ.raw)<|bZ (cG (eC:aI _ _ (wX aM (tg 1 ([]:Bp)) ([]:rV))))<|nH (B:=US) (oP U E t (bL (kP U E o X) bx) au) (λH x=>[(1,vP ar),(2,vP aj),(3,vP ak),(5,x.1),(14,vI (E.2.1.length:Int)),(15,vI (t.1)),(33,(at' W t.1).1),(34,vI ((at' E.2.2 t.1).length:Int)),(35,vI (H.2))]) (λH x=>[bM ak [D.1,an,b.2.2.2.1] 43,Ar bJ.raw D.1 D.2,bM aj [cW,cW,cW] 43,bM ar [L,P,Q] 43,bM a.1 [vS (p0.1),m,n,vP a.2.1,a.2.2.1] 157,Ar bJ.raw a.2.2.1 a.2.2.2.1,fQ bX a.2.2.2.1 o.1,bM a.2.1 [vS (p0.1),m,n,s,p,vI (o.2.1),a.2.2.2.2.1] 206,Ar bJ.raw a.2.2.2.2.1 a.2.2.2.2.2,bM V [L,P,Q] 43,bM T [s,p] 31,bM S [vS (p0.1),m,n] 36,Ar bJ.raw an (b.2.1++[K.1]),fQ bJ.raw (b.2.1++[K.1]) (b.2.2.1++[K.2]),Ar bJ.raw b.2.2.2.1 b.2.2.2.2.1,tC bJ.raw b.2.2.2.2.1 b.2.2.2.2.2.1 b.2.2.2.2.2.2,Ar bJ.raw x.1 x.2.1,fQ bJ.raw x.2.1 x.2.2]) (λH x=>[wX aM (b.2.2.1++[K.2]) (t.2.1++[au]),mT aM D.2 X,mT aM a.2.2.2.2.2 o.2.2,Sl aE m p0.2.1,Sl aD n p0.2.2,PF (Value.agg #[vS p0.1,m,n]),Sl aM s p1.1,S2 aY p z4 p1.2,S2 aM L z6 E.1,S3 aM P z8 E.2.1,S4 aM Q W E.2.2,Bz aM b.2.2.2.2.2.2 t.2.2,wX aM x.2.2 H.1]) (([]:rV),(0:Int)) ((tg 1 (cW)),(tg 1 ([]:fL)),(tg 1 ([]:Bp))) h SF (a_.ix [3,4,5,6,7,8,9,10,11,12,13,14,15,16,17,18,1,0] Z Z) (iB [1,4,5,6,7,8,9,10,11,12,13,15,0] Z) ?_;intro b4 H x h;refine aU<|cU Z<|aP<|aN ?_;refine eG h Z (λh=>?_) λh=>?_
     ·refine cL<|aN<|aT<|aU<|cQ h λal h=>aB (bK Z Z (bR (Gw Z) C.1 (by first|exact C.2|simpa using C.2)) Z Z al) Z ?_;refine aB (c_ Z (bR (Gw Z) C.1 (by first|exact C.2|simpa using C.2)) Z Z al) Z ?_;refine aC Z<|aP<|aR<|aA Z<|aA Z<|eI h λbc bH h=>aJ (zBb SD (Ew U ((at' ((at' W t.1).2) H.2).1) ((at' ((at' W t.1).2) H.2).2) bc bH) Z (aH.cons (bR (bR (Gw Z) C.1 (by first|exact C.2|simpa using C.2)) al.1 (by first|exact al.2|simpa using al.2)) .nil)) Z λao=>?_;refine bZ (fZ 1 Z (lH (j:=0) Z iY))<|bD (tM (cK (i:=0) (j:=0) Z Z)) λa1=>bZ (iJ bJ.raw)<|bZ (rX 0 1 Z Z Z)<|bZ (cG (hJ (b_ Z) eC))<|aJ (cX (e:=bJ.raw) ([ao.1]) [(0,ao.1)] Z Z Z Z (jU (ao.1) a1) Z Z (fY a1 Z)) Z λb7=>bD (aX (aI.fact 14 Z)) λaG=>bD (aX (b_ Z)) λaK=>bD (dQ 19 Z) λaO=>bD (dQ 1 Z) λaW=>cQ h λa8 h=>bZ (cG (gH (aI.fact 14 Z) (b_ Z)))<|bZ (nP 19 1 Z Z Z) ?_;refine aJ (aQ.append 17 0 Z Z Z Z Z Z Z (by have q:=a8;have q0:=aG;have q1:=aK;have q2:=aO;have q3:=aW;(try simp only[zA8,zAg,zA5]at *);omega) (by have q:=a8;have q0:=aG;have q1:=aK;have q2:=aO;have q3:=aW;(try simp only[zA8,zAg,zA5]at *);omega) Z) Z λbC=>?_;refine aC Z<|eS<|lA<|aR<|cN Z<|aA Z<|aP ?_;exact iP ((H.1++[bc]),(wI .i64 (H.2+(1:Int)))) (bC,(x.2.1++[ao.1]),(x.2.2++[ao.2])) h SF (a_.ix [1,2,3,4,5,6,7,8,9,10,11,12,13,14,15,16,17,18] Z Z) (iB [3,4,5,6,7,8,9,10,11,12,13,14,0] Z)
     refine eP ?_;exact f_ (H.1) (x.1,x.2.1,x.2.2) h SF Z
    intro R v h;refine aR<|bV Z<|dK 0 Z<|aA Z<|bD (tM (fM (i:=16) (q:=17) (j:=12) Z Z Z)) λa0=>bZ (uG bJ.raw)<|bZ (G_ 17 18 Z Z Z)<|bZ (Do 0 17 Z Z Z)<|bZ (cG (hJ (Da Z) eC))<|aJ (cX (e:=bJ.raw) ([v.1]) [(0,v.1)] Z Z Z Z (jU (v.1) a0) Z Z (fY a0 Z)) Z λb6=>bD (aX (Da Z)) λax=>bD (aX (b_ Z)) λay=>bD (kC 17 Z) λaz=>bD (kC 1 Z) λaF=>cQ h λa7 h=>bZ (cG (gH (Da Z) (b_ Z)))<|bZ (Fj 17 1 Z Z Z) ?_;refine aJ (aQ.append 15 0 Z Z Z Z Z Z Z (by have q:=a7;have q0:=ax;have q1:=ay;have q2:=az;have q3:=aF;(try simp only[zA8,zAg,zA5]at *);omega) (by have q:=a7;have q0:=ax;have q1:=ay;have q2:=az;have q3:=aF;(try simp only[zA8,zAg,zA5]at *);omega) Z) Z λbz=>?_;refine bV Z<|bD (tM (gO (i:=15) (q:=16) (j:=0) Z Z Z)) λbj=>qN 1 Z Z bj Z Z Z<|eS<|lA<|aR<|cN Z<|aA Z<|aP ?_;exact iP ((wI .i64 (t.1+(1:Int))),(t.2.1++[au]),(t.2.2++[R])) (an,(b.2.1++[K.1]),(b.2.2.1++[K.2]),bz,(b.2.2.2.2.1++[v.1]),(b.2.2.2.2.2.1++[v.2.1]),(b.2.2.2.2.2.2++[v.2.2])) h SF (a_.ix [1,2,3,4,5,6,7,8,9,10,11,12,13,14,15,16] Z Z) (iB [3,4,5,6,7,8,9,10,11,12,2,0] Z)
   refine eP ?_;exact cB (t.2.1,t.2.2) (b.1,b.2.1,b.2.2.1,b.2.2.2.1,b.2.2.2.2.1,b.2.2.2.2.2.1,b.2.2.2.2.2.2) h SF (a_.ix [0,1,2,4,5,6,7,8,9,10,11,12,13,14,15] Z Z) (aH.refl _ _)
  intro ad u h;unfold sJ at h;refine aU<|cM 0 Z<|bD (tM (cK (i:=1) (j:=0) Z Z)) λbr=>bD (tM (fM (i:=11) (q:=12) (j:=10) Z Z Z)) λbs=>bD (tM (gO (i:=13) (q:=14) (j:=11) Z Z Z)) λbt=>cD 2 (vs:=[D.1,u.1,u.2.2.2.1]) Z Z (fY br (fY bs (fY bt Z))) Z Z Z<|aP<|aS ?_;exact jX (X,ad.1,ad.2) (D.1,u.1,u.2.2.2.1,D.2,u.2.1,u.2.2.1,u.2.2.2.2.1,u.2.2.2.2.2.1,u.2.2.2.2.2.2) h (.inl Z) (Fa.r1 Z (RV.cell 2 Z Z Z Z)) Z (a_.ix [1,3,4,5,6,7,8,9,10,11,12,13,14] Z Z) (aH.refl _ _)
 intro ae f h;unfold yV at h;refine bN 7 Z Z ?_;refine aB (WR (r:=Value.agg #[s,p,vI (p2),Value.pointer (some ⟨a.1,0,none⟩),f.1,f.2.1,f.2.2.1]) Z Z Z Z (by intro w;simp[Instr.build,Instr.fill,gT,fN,e_,gU,gV,fO,iS])) Z ?_;refine aJ (aQ.box (cs:=[s,p,vI (p2),vP a.1,f.1,f.2.1,f.2.2.1]) Z Z) Z λbW=>aC Z<|aP<|aS ?_;cases h;exact kY (bW,a.1,f.1,f.2.1,f.2.2.1,f.2.2.2.1,a.2.1,a.2.2.1,a.2.2.2.1,a.2.2.2.2.1,a.2.2.2.2.2,f.2.2.2.2.1,f.2.2.2.2.2.1,f.2.2.2.2.2.2.1,f.2.2.2.2.2.2.2.1,f.2.2.2.2.2.2.2.2) Z Z (RV.tmp Z) (a_.ix [0,1,2,3,4,5,6,10,11,12,13] Z Z) (iB [0,1,10,11] Z)
def vO (U:Nat) (a:fE) (d:cJ) (f:Int) (b:gX) (e:Bool):Option (Int):=
 if e=true then(some (2:Int))else(Option.bind (kG U ((a.1,a.2.1,a.2.2)) ((d.1,d.2)) f ((b.1,b.2.1,b.2.2))) λc=>(if(!c)=true then(some (7:Int))else(some (0:Int))))
def xM (U:Nat) (a:fE) (b:cJ) (c:Int) (d:gX):Option (Int):=
 Option.bind (pV U ((a.1,a.2.1,a.2.2)) ((b.1,b.2))) λe=>(if e≠(0:Int)then(some (e))else(if c<(1:Int)then(vO U a b c d (true))else(vO U a b c d (decide ((8:Int)<c)))))
theorem adh:bB Tryz.prog 66:=Tryz.call66
theorem Nf (U:Nat) {p0:fE} {p1:cJ} {p2:Int} {i:gX} (a b d e:V0) (q:kX) (j:V0) (v:nG) (k:V0) (w:CV) (m:V0) (n:CU) (r:Int) (h:xM U p0 p1 p2 i=some r):
  bE Tryz.prog 66 #[Value.agg #[vS (p0.1),a,b],Value.agg #[d,e],vI (p2),Value.agg #[j,k,m]] [Sl aE a p0.2.1,Sl aD b p0.2.2,PF (Value.agg #[vS p0.1,a,b]),Sl aM d p1.1,S2 aY e q p1.2,S2 aM j v i.1,S3 aM k w i.2.1,S4 aM m n i.2.2] (λx:Unit=>vI (r)) (λx l=>l) (λ_ l=>l):=by
 refine bE.of Tryz.func66 Z Tryz.ntmps66 Z λc=>?_;refine aU<|aJ (aQ.box (cs:=[vS (p0.1),a,b]) Z Z) Z λs=>aJ (aQ.box (cs:=[d,e]) Z Z) Z λt=>aJ (aQ.box (cs:=[j,k,m]) Z Z) Z λu=>aC Z<|aP<|aN<|aU<|cM 2 Z<|cM 1 Z<|eI h λy z h=>aJ (zBb TT (HK U a b d e q y z) Z (iB [0,1,2,3,4] Z)) Z λB=>aC Z<|aP<|aU<|aA Z<|lB Z<|aP ?_;refine eG h Z (λh=>?_) λh=>?_
 ·refine aU<|aA Z<|aC Z<|aP<|aS<|aG ?_;cases h;exact mO Z
 refine cL<|aN<|aN<|eB (λf=>vO U p0 p1 p2 i f=some r) (λf g=>[(2,vI (p2)),(4,vP s),(5,vP t),(7,vP u),(21,vB (f))]) (λf g=>[bM u [j,k,m] 43,bM t [d,e] 31,bM s [vS (p0.1),a,b] 36]) ?_ ?_
 ·refine aR<|aA Z<|cU Z<|aA Z ?_;refine Ds h Z (λ_ h=>?_) λ_ h=>?_
  ·refine aO Z<|aO Z<|d_ Z<|aP ?_;exact f_ (true) () h SF Z
  refine dD Z<|aW Z (wY Z Z) Z<|eR Z<|aP ?_;exact f_ (decide ((8:Int)<p2)) () h SF Z
 intro f g h;refine rR h Z (λ_ h=>?_) λ_ h=>?_
 ·refine aU<|aC Z<|aP<|aS<|aG ?_;cases h;exact mO Z
 refine cL<|aN<|aU<|cM 2 Z<|cM 1 Z<|aA Z<|cM 0 Z<|eI h λo p h=>aJ (zBb OG (Co U a b d e q j v k w m n o p) Z (iB [0,1,2,3,4,5,6,7] Z)) Z λA=>aB (jG Z) Z<|aP ?_;refine rR h Z (λ_ h=>?_) λ_ h=>?_
 ·refine aU<|aC Z<|aP<|aS<|aG ?_;cases h;exact mO Z
 refine cL<|aU<|aC Z<|aP<|aS ?_;cases h;exact mO Z
def uX (U:Nat) (a:bT):Option bT:=
 ck ((List.length ([]:bT):Int)+(a.length:Int)<=1099511627) (some (([]:bT)++a))
theorem adl:bB Tryz.prog 77:=Tryz.call77
theorem Mv (U:Nat) {p0:bT} (d:V0) (r:bT) (h:uX U p0=some r):
  bE Tryz.prog 77 #[d] [Sl aM d p0] (λx:V0=>x) (λx l=>Ar fT x r::l) (λ_ l=>l):=by
 refine bE.of Tryz.func77 Z Tryz.ntmps77 Z λc=>?_;unfold uX at h;refine aU<|aC Z<|aP<|aN<|aU<|aA Z<|Nm (b_ Z) (λa b=>?_) (λa=>?_)
 ·replace h:(some ([]:bT))=some r:=by simpa [ck,b]using h
  refine aB (KR Z (b_ Z) a Z) Z<|aP<|Om Z<|aU<|aC Z<|aP<|aS<|aG<|bZ (gC fT) ?_;cases h;exact kY (cW) Z Z (RV.tmp Z) (a_.refl _) aH.nil
 refine aB (KR Z (b_ Z) a Z) Z<|aP<|Ol Z<|cL<|aU<|aJ (cX (e:=fT) ([]:bT) [] Z Z Z Z ((λi h=>by simp at h;subst h;rfl)) Z Z Z) Z λj=>aA Z<|cQ h λf h=>aJ (jN 0 iY Z Z Z (b_ Z) Z Z Z Z f Z) Z λg=>aC Z<|aP<|aS ?_;cases h;exact kY (g) Z Z (RV.tmp Z) (a_.refl _) aH.nil
def EL (U:Nat) (p0:List (V0)) (p1 p2:Int):Option (List (V0)):=
 ck (0<=p1/\p1<=p2/\p2<=(p0.length:Int)/\(p0.length:Int)<=(p0.length:Int)) (if p1=p2 then(some (p0))else(ck (0<=(0:Int)/\(0:Int)<=p1/\p1<=(p0.length:Int)) (ck (0<=p2/\p2<=((p0.length:Int))/\((p0.length:Int))<=(p0.length:Int)) (ck (0<=p1/\p1<p2/\p2<=(p0.length:Int)) (some ((List.take (Int.toNat p1) p0)++(List.drop (Int.toNat p2) p0)))))))
theorem Z_:bB Tryz.prog 111:=Tryz.call111
theorem JV (U:Nat) {p0:List (V0)} {p1 p2:Int} (b:V0) (r:List (V0)) (h:EL U p0 p1 p2=some r):
  Fg Tryz.prog 111 #[b,vI (p1),vI (p2)] [Ar bJ.raw b p0] [] (λx:V0=>x) (λx l=>Ar bJ.raw x r::l):=by
 refine Fg.of (vs:=[b,vI (p1),vI (p2)]) Tryz.func111 Z Tryz.ntmps111 Z λc=>?_;refine aU<|aC Z<|aP<|aU<|aA Z<|aA Z<|aA Z<|aA Z<|aB (fH Z (pK (i:=0) Z) Z) Z<|cQ h λe h=>aB (WY Z Z Z Z (pK (i:=0) Z) Z Z e) Z<|aP<|aN<|aU<|aA Z<|aA Z<|cH Z<|aP ?_;refine eG h Z (λh=>?_) λh=>?_
 ·refine aU<|aA Z<|aC Z<|aP<|aS<|aG ?_;cases h;exact kY (b) Z Z (RV.tmp Z) (a_.refl _) aH.nil
 refine cL<|aU<|aA Z<|aB (fH Z (pK (i:=0) Z) Z) Z<|aC Z<|aP<|aN ?_;refine rP [0,0,3,0,0,24,63,127] 6 mixedOrders ?_;refine aV Z<|aV Z<|cQ h λf h=>bA Z (a_.cons 0 Z .nil) .nil (WZ Z Z (pK (i:=0) Z) Z Z f) aL.z<|aV Z<|aV Z<|cQ h λg h=>bA Z (a_.cons 0 Z .nil) .nil (Qs Z Z (pK (i:=0) Z) Z Z g) aL.z<|bN 6 Z Z<|cQ h λd h=>bD (Know.cap 0 Z) λa=>aJ (Lq (i:=p1) (j:=p2) 0 Z Z Z Z Z Z d) Z λk=>aC Z<|aP<|aU<|aA Z<|aA Z<|aB (fH Z (pK (i:=0) Z) Z) Z<|aA Z ?_;refine aB (Qt 0 Z Z Z Z Z Z (IB.slq a) (by have q:=d;simp;omega)) Z ?_;refine Qa 0 Z Z (zAf _) (IB.slq a) (by have q:=d;simp;omega) Z Z Z Z Z ?_;refine aP<|aU<|aA Z<|aC Z<|aP<|aS ?_;cases h;exact kY (slq b 0 (Int.toNat (p1+((p0.length:Int) - p2))) 1) Z Z (RV.tmp Z) (a_.refl _) aH.nil
def sV (U:Nat) (p0:List (V0)):Option (List (V0)):=
 ck ((List.length ([]:fL):Int)+(p0.length:Int)<=1099511627) (some (([]:fL)++p0))
theorem OF:bB Tryz.prog 166:=Tryz.call166
theorem CP (U:Nat) {p0:List (V0)} (d:V0) (r:List (V0)) (h:sV U p0=some r):
  bE Tryz.prog 166 #[d] [Sl Gg d p0] (λx:V0=>x) (λx l=>Ar bJ.raw x r::l) (λ_ l=>l):=by
 refine bE.of Tryz.func166 Z Tryz.ntmps166 Z λc=>?_;unfold sV at h;refine aU<|aC Z<|aP<|aN<|aU<|aA Z<|Nm (b_ Z) (λa b=>?_) (λa=>?_)
 ·replace h:(some ([]:fL))=some r:=by simpa [ck,b]using h
  refine aB (KR Z (b_ Z) a Z) Z<|aP<|Om Z<|aU<|aC Z<|aP<|aS<|aG<|bZ (gC bJ.raw) ?_;cases h;exact kY (cW) Z Z (RV.tmp Z) (a_.refl _) aH.nil
 refine aB (KR Z (b_ Z) a Z) Z<|aP<|Ol Z<|cL<|aU<|aJ (cX (e:=bJ.raw) ([]:fL) [] Z Z Z Z ((λi h=>by simp at h;subst h;rfl)) Z Z Z) Z λj=>aA Z<|cQ h λf h=>aJ (MQ 0 HA Z Z Z (b_ Z) Z Z Z Z f Z) Z λg=>aC Z<|aP<|aS ?_;cases h;exact kY (g) Z Z (RV.tmp Z) (a_.refl _) aH.nil
end Go.Proofs.YtflciafboapaaaaGreat