/- Models and proofs. Conditions: none. -/
import Derived.Test.YtflciafboapaaaaGreatZRSa5
import Derived.Test.YtflciafboapaaaaGreatZRSa8
import Derived.Test.YtflciafboapaaaaGreatZRSa6
import Derived.Test.YtflciafboapaaaaGreatZRSa7
import Derived.Test.YtflciafboapaaaaGreatZRSa2
set_option linter.unusedVariables false
set_option linter.unusedSimpArgs false
set_option maxHeartbeats 4000000
set_option maxRecDepth 20000
namespace Go.Proofs.YtflciafboapaaaaGreat
open Go.Sx
noncomputable def lJ  (a:Bool):Option Bool:=
 some (a)
noncomputable def pP (U:Nat) (e:tV) (c:Ka) (d:List mE) (a:xO) (f:Bool):Option Bool:=
 if f=true then(some (false))else(ck (0<=(1:Int)∧(1:Int)<(a.2.2.1.length:Int)) (ck (0<=(0:Int)∧(0:Int)<((at' a.2.2.1 (1:Int)).length:Int)) (Option.bind (tD U ((c.1,c.2.1,d)) ((e.1,e.2)) (1:Int) ((a.2.1,(List.set a.2.2.1 (Int.toNat (1:Int)) (List.set (at' a.2.2.1 (1:Int)) (Int.toNat (0:Int)) ([(2:Int),(-1:Int)]))),a.2.2.2)) (((1:Int),(1:Int),(0:Int)))) λb=>(if b.2=(0:Int)then(Option.bind (dW U ((c.1,c.2.1,d)) ((e.1,e.2)) ((a.2.1,(List.set a.2.2.1 (Int.toNat (1:Int)) (List.set (at' a.2.2.1 (1:Int)) (Int.toNat (0:Int)) ([(2:Int),(-1:Int)]))),a.2.2.2))) λg=>(if(!g)=true then(Option.bind (jB U ((c.1,c.2.1,d)) ((e.1,e.2)) ((a.2.1,(List.set a.2.2.1 (Int.toNat (1:Int)) (List.set (at' a.2.2.1 (1:Int)) (Int.toNat (0:Int)) ([(2:Int),(-1:Int)]))),a.2.2.2))) λh=>(if h=(2:Int)then(if(b.1.1.length:Int)=(2:Int)then(ck (0<=(1:Int)∧(1:Int)<(b.1.1.length:Int)) (if((at' b.1.1 (1:Int)).length:Int)=(2:Int)then(ck (0<=(1:Int)∧(1:Int)<(b.1.1.length:Int)) (ck (0<=(0:Int)∧(0:Int)<((at' b.1.1 (1:Int)).length:Int)) (lJ  (decide ((at' (at' b.1.1 (1:Int)) (0:Int))=(2:Int))))))else(lJ  (false))))else(lJ  (false)))else(lJ  (false))))else(lJ  (false))))else(lJ  (false))))))
noncomputable def sF (U:Nat) (d:tV) (b:Ka) (c:List mE) (a:xO):Option Bool:=
 if a.1≠(0:Int)then(pP U d b c a (true))else(Option.bind (dW U ((b.1,b.2.1,c)) ((d.1,d.2)) ((a.2.1,a.2.2.1,a.2.2.2))) λe=>(if(!e)=true then(pP U d b c a (true))else(if(a.2.2.1.length:Int)≠(2:Int)then(pP U d b c a (true))else(ck (0<=(1:Int)∧(1:Int)<(a.2.2.1.length:Int)) (pP U d b c a (decide (((at' a.2.2.1 (1:Int)).length:Int)≠(1:Int))))))))
noncomputable def AC (U:Nat) (e:tV) (c:Ka) (d:List mE) (b:bM) (a:List (List bM)×List bM):Option Bool:=
 sF U e c d ((0:Int),b,a.2,a.1)
noncomputable def AD (d:tV) (a:Ll) (b:Lj->Option Bool) (c:oP):Option Bool:=
 b ((wI .i64 (a.1+(1:Int))),(List.set a.2.1 (Int.toNat a.1) (List.replicate (Int.toNat ((at' d.2 a.1).length:Int)) ([]:bM))),c)
noncomputable def DL (U:Nat) (e:tV) (b:Ll) (c:Lj->Option Bool) (a:Int×List bM) (d:(Int×List bM)->Option Bool):Option Bool:=
 if a.1<((at' e.2 b.1).length:Int)then(ck (0<=a.1∧a.1<((at' e.2 b.1).length:Int)) (ck (0<=b.1∧b.1<(a.2.length:Int)) (ck (0<=((at' (at' e.2 b.1) a.1).1)∧((at' (at' e.2 b.1) a.1).1)<(List.length ([([(0:Int),(-1:Int)]),([(1:Int),(0:Int)])]):Int)) (Option.bind (mY U (at' ([([(0:Int),(-1:Int)]),([(1:Int),(0:Int)])]) ((at' (at' e.2 b.1) a.1).1))) λf=>(ck (0<=a.1∧a.1<((at' a.2 b.1).length:Int)) (d ((wI .i64 (a.1+(1:Int))),(List.set a.2 (Int.toNat b.1) (List.set (at' a.2 b.1) (Int.toNat a.1) f)))))))))else(AD e b c (a.2))
noncomputable def wT (U:Nat) (b:tV) (e:Ka) (f:List mE) (d:bM) (a:Ll) (c:Lj->Option Bool):Option Bool:=
 if a.1<(b.2.length:Int)then(ck (0<=a.1∧a.1<(b.2.length:Int)) (ck (0<=((at' b.2 a.1).length:Int)∧((at' b.2 a.1).length:Int)<=1099511627) (ck (0<=a.1∧a.1<(a.2.2.length:Int)) (ck (0<=((at' b.2 a.1).length:Int)∧((at' b.2 a.1).length:Int)<=1099511627) (ck (0<=a.1∧a.1<(a.2.1.length:Int)) (bP (DL U b a c) U ((0:Int),(List.set a.2.2 (Int.toNat a.1) (List.replicate (Int.toNat ((at' b.2 a.1).length:Int)) ([]:bT))))))))))else(AC U b e f d (a.2.1,a.2.2))
noncomputable def AB (U:Nat) (b:tV) (c:Ka) (d:List mE) (a:bM):Option Bool:=
 bP (wT U b c d a) U ((0:Int),(List.replicate (Int.toNat (b.2.length:Int)) ([]:oP)),(List.replicate (Int.toNat (b.2.length:Int)) ([]:bM)))
noncomputable def uI (U:Nat)  : Option Bool:=
 Option.bind (jG U (((2:Int),([]:bT),([]:bT),([]:bT),false,false)) (2:Int)) λb=>(Option.bind (CB U) λf=>(Option.bind (kB U f) λa=>SA a.2.2 λc=>(Option.bind (fC U ((a.1,a.2.1,c)) ((b.1,b.2)) ([([(0:Int),(-1:Int)]),([(1:Int),(0:Int)])])) λe=>(if e≠(0:Int)then(sF U b a c (e,([]:bM),([]:oP),([]:Br)))else(Option.bind (jU U ([([(0:Int),(-1:Int)]),([(1:Int),(0:Int)])])) λd=>(ck (0<=(b.2.length:Int)∧(b.2.length:Int)<=1099511627) (ck (0<=(b.2.length:Int)∧(b.2.length:Int)<=1099511627) (AB U b a c (d)))))))))
theorem Ur:bB Tryz.prog 16:=Tryz.call16
theorem EY (U:Nat)  (r:Bool) (h:uI U  = some r):
  bO Tryz.prog 16 #[] [] (λx:Unit=>vB (r)) (λx l=>l) (λ_ l=>l):=by
 let bC:=(Int.toNat (0:Int))
 let bA:=(Int.toNat (1:Int))
 refine bO.of Tryz.func16 Z Tryz.ntmps16 Z λc=>?_;refine aX<|aH Z<|aP<|aX ?_;refine aD (Pm (r:=Value.agg #[vI (2:Int),cJ,cJ,cJ,vB (false),vB (false)]) Z (by intro w;simp[Instr.build,Instr.fill,dO,cV,cL,dQ,dR,cW,eN])) Z<|fZ h λr1 w2 h=>let a9:=(r1.2.length:Int);let ag:=(Int.toNat a9);let b8:=(tg 2 (List.replicate ag ([]:xP)));let bt:=(List.replicate ag ([]:cR));let bs:=(List.replicate ag ([]:bM));let br:=(List.replicate ag ([]:oP));aI (zBc Ps (vQ U (cJ) (cJ) (cJ) r1 w2) Z (aE.cons aA.nil (aE.cons aA.nil (aE.cons aA.nil .nil)))) Z λL=>let ad:=Ar eC L.1 r1.1;let ai:=(List.zip L.2.2 r1.2);let W:=eH bD L.2.2 r1.2;let T:=Ar aZ.raw L.2.1 L.2.2;aI (aN.alloc (cs:=[cJ,cJ]) Z Z) Z λb4=>let I:=bI b4 [L.1,L.2.1] 31;aQ (Know.one ((cB (aA.res 1 Z) fO))) λc9=>aQ (Know.one (aA.sl (bZ (i:=2) (j:=3) Z Z bG))) λda=>bL 0 (vs:=[L.1,L.2.1]) Z Z (dH c9 (dH da Z)) Z Z Z<|aP<|aX<|fZ h λr7 w8 h=>aI (zBc aag (Qp U  r7 w8) Z .nil) Z λx9=>fZ h λaa de h=>aI (aN.call QU (Dc U aa de) Z .nil (λ_ _=>rfl) (λ_ _=>rfl)) Z fun⟨E,F,a0,c1⟩=>let X:=Sl aC F a0;let V:=Sl aG E aa.2.1;let aw:=PF (Value.agg #[vS aa.1,E,F]);?_
 have h:=KD h a0 c1;refine aI (aN.alloc (cs:=[vS (ByteArray.mk #[]),cJ,cJ]) Z Z) Z λct=>let ah:=bI ct [vS (aa.1),E,F] 36;aQ (Know.one ((aA.fact 0 Z))) λcI=>aQ (Know.one ((aA.fact 1 Z))) λcN=>bL 0 (vs:=[vS (aa.1),E,F]) Z Z (dH Z (dH cI (dH cN Z))) Z Z Z<|aP<|aX<|cY 0 Z<|cY 1 Z<|aI (cU (e:=eC) ([(0:Int),(-1:Int)]) [(0,vI (0:Int)),(1,vI (-1:Int))] Z Z Z Z (F_ (vI (0:Int)) (vI (-1:Int)) Z Z) Z Z Z) Z λay=>let ax:=Sl aJ ay ([(0:Int),(-1:Int)]);aI (cU (e:=eC) ([(1:Int),(0:Int)]) [(0,vI (1:Int)),(1,vI (0:Int))] Z Z Z Z (F_ (vI (1:Int)) (vI (0:Int)) Z Z) Z Z Z) Z λaz=>let b7:=(List.zip ([ay,az]) ([([(0:Int),(-1:Int)]),([(1:Int),(0:Int)])]));let a2:=mM aJ ([ay,az]) ([([(0:Int),(-1:Int)]),([(1:Int),(0:Int)])]);let S:=Sl aJ az ([(1:Int),(0:Int)]);aQ (Know.one ((cB (aA.res 1 Z) fO))) λb0=>aQ (Know.one ((cB (aA.res 0 Z) fO))) λb1=>cG (eQ 1 Z (cB (aA.res 0 Z) fO))<|cG (eQ 0 Z (cB (aA.res 0 Z) fO))<|cG (cP (sX (aA.fact 1 Z) (sX (aA.fact 0 Z) fD)))<|aI (cU (e:=aZ.raw) ([ay,az]) [(0,ay),(1,az)] Z Z Z Z (F_ (ay) (az) b0 b1) Z Z (dH b0 (dH b1 Z))) Z λaF=>let a7:=Ar aZ.raw aF ([ay,az]);vJ (A:=xO) (B:=ZD) (vs:=[Value.agg #[vS (aa.1),E,F],Value.agg #[L.1,L.2.1],aF]) (λv=>sF U r1 aa a0 v=some r) (λv f=>Value.tuple #[Value.agg #[f.1,f.2.2.1,f.2.2.2.2.2.1],vI (v.1)]) (λv f=>[ah,I,ad,T,W,Ar aZ.raw f.1 f.2.1,Ar aZ.raw f.2.2.1 f.2.2.2.1,eH aZ.raw f.2.2.2.1 f.2.2.2.2.1,Ar aZ.raw f.2.2.2.2.2.1 f.2.2.2.2.2.2.1,rJ aZ.raw f.2.2.2.2.2.2.1 f.2.2.2.2.2.2.2.1 f.2.2.2.2.2.2.2.2]) (λv f=>[S,ax,V,X,aw,mM aJ f.2.1 v.2.1,yH aJ f.2.2.2.2.1 v.2.2.1,Ai aJ f.2.2.2.2.2.2.2.2 v.2.2.2]) (mO.fn (show bB Tryz.prog 36 from Tryz.call36) Z) Tryz.func36 Z Tryz.ntmps36 Z Z ?_ ?_
 ·refine aX<|aI (aN.box (cs:=[vS (aa.1),E,F]) Z Z) Z λdr=>aI (aN.box (cs:=[L.1,L.2.1]) Z Z) Z λcv=>aI (aN.alloc (cs:=[cJ,cJ,cJ]) Z Z) Z λbe=>let au:=bI be [cJ,cJ,cJ] 43;aH Z<|aP<|aM<|aX<|cY 2 Z<|cY 1 Z<|aB Z<|fZ h λc7 dj h=>aI (zBc LV (xM U E F L.1 L.2.1 ai aF (b7) c7 dj) Z (aE.cons (aA.fact 3 Z) (aE.cons (aA.fact 4 Z) (aE.cons (aA.fact 5 Z) (aE.cons (cB (aA.res 6 Z) fO) (aE.cons (bZ (i:=7) (j:=8) Z Z bG) (aE.cons (bF (i:=3) (j:=0) Z Z) .nil))))))) Z λdw=>aH Z<|aP<|aX<|aB Z<|oM Z<|aP ?_
  refine f_ h Z (λh=>?_) λh=>?_
  ·refine aX ?_;refine aD (IX (r:=Value.agg #[cJ,cJ,cJ]) (by intro w;simp[Instr.build,Instr.fill,dO,cV,cL,dQ,dR,cW,eN])) Z ?_;refine aB Z<|bL 0 (vs:=[cJ,cJ,cJ]) Z Z Z Z Z Z<|aH Z<|aP<|aY<|aL<|cG (gZ aZ.raw)<|cG (cP (fD:aA _ _ (mM aJ (tg 1 ([]:cR)) ([]:bM))))<|cG (gZ aZ.raw)<|cG (mF aZ.raw)<|cG (cP (fD:aA _ _ (yH aJ (tg 2 ([]:xP)) ([]:oP))))<|cG (gZ aZ.raw)<|cG (Ck aZ.raw)<|cG (cP (fD:aA _ _ (Ai aJ (tg 3 ([]:J_)) ([]:Br)))) ?_;exact iK (c7,([]:bM),([]:oP),([]:Br)) ((tg 1 (cJ)),(tg 1 ([]:cR)),(tg 2 (cJ)),(tg 2 ([]:cR)),(tg 2 ([]:xP)),(tg 3 (cJ)),(tg 3 ([]:cR)),(tg 3 ([]:xP)),(tg 3 ([]:J_))) h (.inl Z) (BR.r2 Z (RV.cell 5 Z Z Z Z) (RV.tmp Z)) Z (aR.ix [9,10,11,12,13,4,3,2,1,0] Z Z) (g_ [4,5,6,7,8,2,1,0] Z)
  refine dC<|aX<|cA Z<|eW 1 Z<|aD (eP Z (bZ (i:=7) (j:=8) Z Z bG) Z) Z<|aH Z<|aP<|aM<|iV (B:=ZC) (λG=>AB U r1 aa a0 G=some r) (λG a=>[(2,aF),(4,vP cv),(6,vP be),(10,vP a.1)]) (λG a=>[bI a.1 [a.2.1,a.2.2.1,a.2.2.2.1] 43,Ar aZ.raw a.2.2.2.1 a.2.2.2.2.2.1,rJ aZ.raw a.2.2.2.2.2.1 a.2.2.2.2.2.2.1 a.2.2.2.2.2.2.2.1,Ar aZ.raw a.2.2.1 a.2.2.2.2.2.2.2.2.1,eH aZ.raw a.2.2.2.2.2.2.2.2.1 a.2.2.2.2.2.2.2.2.2,Ar aZ.raw a.2.1 a.2.2.2.2.1,au,bI cv [L.1,L.2.1] 31,a7,ah,I,ad,T,W]) (λG a=>[Ai aJ a.2.2.2.2.2.2.2.1 br,yH aJ a.2.2.2.2.2.2.2.2.2 bs,mM aJ a.2.2.2.2.1 G,a2,S,ax,V,X,aw]) ?_ ?_
  ·have⟨r180,w181,h⟩:=bnd h;refine eB h λc4 h=>eB h λc5 h=>Ep [0,1,0,4,0,16,63,0,255] 8 [[0,2,4,1,3,5,6,7,8],[0,2,4,1,3,7,5,6,8],[0,2,4,1,5,3,6,7,8],[0,2,4,1,5,7,3,6,8],[0,2,4,1,7,3,5,6,8],[0,2,4,1,7,5,3,6,8],[0,2,4,3,1,5,6,7,8],[0,2,4,3,1,7,5,6,8],[0,2,4,3,5,1,6,7,8],[0,2,4,3,5,7,1,6,8],[0,2,4,3,7,1,5,6,8],[0,2,4,3,7,5,1,6,8],[0,2,4,5,1,3,6,7,8],[0,2,4,5,1,7,3,6,8],[0,2,4,5,3,1,6,7,8],[0,2,4,5,3,7,1,6,8],[0,2,4,5,7,1,3,6,8],[0,2,4,5,7,3,1,6,8],[0,2,4,7,1,3,5,6,8],[0,2,4,7,1,5,3,6,8],[0,2,4,7,3,1,5,6,8],[0,2,4,7,3,5,1,6,8],[0,2,4,7,5,1,3,6,8],[0,2,4,7,5,3,1,6,8]] mixedOrders (by decide +kernel) (by decide +kernel) ?_;intro o ho;simp only[zAm,zB1,or_false]at ho;rcases ho with rfl|rfl|rfl|rfl|rfl|rfl|rfl|rfl|rfl|rfl|rfl|rfl|rfl|rfl|rfl|rfl|rfl|rfl|rfl|rfl|rfl|rfl|rfl|rfl
   all_goals
    iterate 8 first
     |refine bQ (i:=0) Z .nil .nil (iW Z) aO.z ?_
     |refine zBd (i:=1) Z Z Z (zBc He (rO U aF (b7) r180 w181) Z (by first|exact aE.cons (bF (i:=3) (j:=0) Z Z) .nil|exact aE.cons (bF (i:=5) (j:=1) Z Z) .nil|exact aE.cons (bF (i:=7) (j:=2) Z Z) .nil|exact aE.cons (bF (i:=8) (j:=2) Z Z) .nil|exact aE.cons (bF (i:=6) (j:=1) Z Z) .nil|exact aE.cons (bF (i:=4) (j:=0) Z Z) .nil)) Z (λJ=>(nL [] Z)) λJ=>?_
      refine zBg (eQ 1 Z (oC (j:=0) Z fO)) ?_
     |refine bQ (i:=2) Z .nil .nil (iW Z) aO.z ?_
     |refine zBg (lC aZ.raw ag) ?_
      refine zBg (cP ((oB ag (b:=([]:bM)) fD):aA _ _ (yH aJ (tg 1 bt) bs)))<|zBd (i:=3) Z Z Z (jD (e:=aZ.raw) (cJ) Z Z Z Z c4 Z Z Z) Z (λN=>(nL [] Z)) λN=>?_
     |refine bQ (i:=4) Z .nil .nil (iW Z) aO.z ?_
     |refine zBg (IV aZ.raw ag) ?_
      refine zBg (cP ((oB ag (b:=([]:oP)) fD):aA _ _ (Ai aJ b8 br)))<|zBd (i:=5) Z Z Z (jD (e:=aZ.raw) (cJ) Z Z Z Z c5 Z Z Z) Z (λO=>(nL [] Z)) λO=>?_
     |first
       |refine aU (Know.one (aA.sl (bF (i:=4) (j:=2) Z Z))) λac=>?_
       |refine aU (Know.one (aA.sl (bF (i:=5) (j:=2) Z Z))) λac=>?_
       |refine aU (Know.one (aA.sl (bF (i:=2) (j:=1) Z Z))) λac=>?_
       |refine aU (Know.one (aA.sl (bF (i:=3) (j:=1) Z Z))) λac=>?_
       |refine aU (Know.one (aA.sl (bF (i:=0) (j:=0) Z Z))) λac=>?_
      first
       |refine aU (Know.one (aA.sl (bU (i:=2) (q:=3) (j:=1) Z Z Z))) λP=>?_
       |refine aU (Know.one (aA.sl (bU (i:=3) (q:=4) (j:=1) Z Z Z))) λP=>?_
       |refine aU (Know.one (aA.sl (bU (i:=0) (q:=1) (j:=0) Z Z Z))) λP=>?_
       |refine aU (Know.one (aA.sl (bU (i:=3) (q:=4) (j:=2) Z Z Z))) λP=>?_
       |refine aU (Know.one (aA.sl (bU (i:=4) (q:=5) (j:=2) Z Z Z))) λP=>?_
       |refine aU (Know.one (aA.sl (bU (i:=1) (q:=2) (j:=1) Z Z Z))) λP=>?_
      first
       |refine aU (Know.one (aA.sl (cF (i:=0) (q:=1) (j:=0) Z Z Z))) λQ=>?_
       |refine aU (Know.one (aA.sl (cF (i:=2) (q:=3) (j:=1) Z Z Z))) λQ=>?_
       |refine aU (Know.one (aA.sl (cF (i:=3) (q:=4) (j:=1) Z Z Z))) λQ=>?_
       |refine aU (Know.one (aA.sl (cF (i:=1) (q:=2) (j:=1) Z Z Z))) λQ=>?_
       |refine aU (Know.one (aA.sl (cF (i:=3) (q:=4) (j:=2) Z Z Z))) λQ=>?_
       |refine aU (Know.one (aA.sl (cF (i:=4) (q:=5) (j:=2) Z Z Z))) λQ=>?_
      refine bQ (i:=6) Z .nil .nil (Cq (r:=Value.agg #[J.1,N,O]) Z Z Z (by intro w;simp[Instr.build,Instr.fill,dO,cV,cL,dQ,dR,cW,eN,dG ac,dG P,dG Q])) (by first|exact aO.b Z (NG Z)|exact aO.b Z hkN|exact aO.b Z hkN|exact aO.b Z hkN) ?_
     |refine zBd (i:=7) Z Z Z (aN.alloc (cs:=[cJ,cJ,cJ]) Z Z) Z (λbY=>(by first|exact zU.h .nil .nil (nL [] Z)|exact zU.h .nil .nil (nL [] Z))) λbY=>?_
    refine bS 8 Z Z ?_
    first
     |refine aQ (Know.one (aA.sl (bF (i:=5) (j:=2) Z Z))) λt=>?_
     |refine aQ (Know.one (aA.sl (bF (i:=3) (j:=1) Z Z))) λt=>?_
     |refine aQ (Know.one (aA.sl (bF (i:=1) (j:=0) Z Z))) λt=>?_
     |refine aQ (Know.one (aA.sl (bF (i:=0) (j:=0) Z Z))) λt=>?_
     |refine aQ (Know.one (aA.sl (bF (i:=2) (j:=1) Z Z))) λt=>?_
     |refine aQ (Know.one (aA.sl (bF (i:=4) (j:=2) Z Z))) λt=>?_
    first
     |refine aQ (Know.one (aA.sl (bU (i:=3) (q:=4) (j:=1) Z Z Z))) λp=>?_
     |refine aQ (Know.one (aA.sl (bU (i:=1) (q:=2) (j:=0) Z Z Z))) λp=>?_
     |refine aQ (Know.one (aA.sl (bU (i:=0) (q:=1) (j:=0) Z Z Z))) λp=>?_
     |refine aQ (Know.one (aA.sl (bU (i:=2) (q:=3) (j:=1) Z Z Z))) λp=>?_
     |refine aQ (Know.one (aA.sl (bU (i:=4) (q:=5) (j:=2) Z Z Z))) λp=>?_
     |refine aQ (Know.one (aA.sl (bU (i:=1) (q:=2) (j:=1) Z Z Z))) λp=>?_
     |refine aQ (Know.one (aA.sl (bU (i:=3) (q:=4) (j:=2) Z Z Z))) λp=>?_
    first
     |refine aQ (Know.one (aA.sl (cF (i:=1) (q:=2) (j:=0) Z Z Z))) λs=>?_
     |refine aQ (Know.one (aA.sl (cF (i:=0) (q:=1) (j:=0) Z Z Z))) λs=>?_
     |refine aQ (Know.one (aA.sl (cF (i:=3) (q:=4) (j:=1) Z Z Z))) λs=>?_
     |refine aQ (Know.one (aA.sl (cF (i:=2) (q:=3) (j:=1) Z Z Z))) λs=>?_
     |refine aQ (Know.one (aA.sl (cF (i:=1) (q:=2) (j:=1) Z Z Z))) λs=>?_
     |refine aQ (Know.one (aA.sl (cF (i:=4) (q:=5) (j:=2) Z Z Z))) λs=>?_
     |refine aQ (Know.one (aA.sl (cF (i:=3) (q:=4) (j:=2) Z Z Z))) λs=>?_
    first
     |refine bL 0 (vs:=[J.1,N,O]) Z Z (dH t (dH p (dH s Z))) Z Z Z ?_
     |refine bL 2 (vs:=[J.1,N,O]) Z Z (dH t (dH p (dH s Z))) Z Z Z ?_
     |refine bL 4 (vs:=[J.1,N,O]) Z Z (dH t (dH p (dH s Z))) Z Z Z ?_
     |refine bL 1 (vs:=[J.1,N,O]) Z Z (dH t (dH p (dH s Z))) Z Z Z ?_
     |refine bL 3 (vs:=[J.1,N,O]) Z Z (dH t (dH p (dH s Z))) Z Z Z ?_
     |refine bL 5 (vs:=[J.1,N,O]) Z Z (dH t (dH p (dH s Z))) Z Z Z ?_
    refine aP ?_;exact cK (r180) (bY,J.1,N,O,J.2,(tg 2 (List.replicate ag (cJ))),(tg 2 bt),b8,(tg 1 (List.replicate ag (cJ))),(tg 1 bt)) h SF (by first|exact aR.ix [0,1,2,3,4,5,6,7,9,10,11,12,13,14] Z Z|exact aR.ix [2,0,1,3,4,5,6,7,9,10,11,12,13,14] Z Z|exact aR.ix [0,3,4,1,2,5,6,7,9,10,11,12,13,14] Z Z|exact aR.ix [2,3,4,0,1,5,6,7,9,10,11,12,13,14] Z Z|exact aR.ix [4,0,1,2,3,5,6,7,9,10,11,12,13,14] Z Z|exact aR.ix [4,2,3,0,1,5,6,7,9,10,11,12,13,14] Z Z|exact aR.ix [0,1,2,4,5,3,6,7,9,10,11,12,13,14] Z Z|exact aR.ix [2,0,1,4,5,3,6,7,9,10,11,12,13,14] Z Z|exact aR.ix [0,2,3,4,5,1,6,7,9,10,11,12,13,14] Z Z|exact aR.ix [1,2,3,4,5,0,6,7,9,10,11,12,13,14] Z Z|exact aR.ix [3,0,1,4,5,2,6,7,9,10,11,12,13,14] Z Z|exact aR.ix [3,1,2,4,5,0,6,7,9,10,11,12,13,14] Z Z|exact aR.ix [0,4,5,1,2,3,6,7,9,10,11,12,13,14] Z Z|exact aR.ix [2,4,5,0,1,3,6,7,9,10,11,12,13,14] Z Z|exact aR.ix [0,4,5,2,3,1,6,7,9,10,11,12,13,14] Z Z|exact aR.ix [1,4,5,2,3,0,6,7,9,10,11,12,13,14] Z Z|exact aR.ix [3,4,5,0,1,2,6,7,9,10,11,12,13,14] Z Z|exact aR.ix [3,4,5,1,2,0,6,7,9,10,11,12,13,14] Z Z|exact aR.ix [5,0,1,2,3,4,6,7,9,10,11,12,13,14] Z Z|exact aR.ix [5,2,3,0,1,4,6,7,9,10,11,12,13,14] Z Z|exact aR.ix [5,0,1,3,4,2,6,7,9,10,11,12,13,14] Z Z|exact aR.ix [5,1,2,3,4,0,6,7,9,10,11,12,13,14] Z Z|exact aR.ix [5,3,4,0,1,2,6,7,9,10,11,12,13,14] Z Z|exact aR.ix [5,3,4,1,2,0,6,7,9,10,11,12,13,14] Z Z) (by first|exact aE.refl _ _|exact aE.cons (aA.fact 1 Z) (g_ [0,2,3,4,5,6,7,8] Z)|exact aE.cons (aA.fact 0 Z) (g_ [2,1,3,4,5,6,7,8] Z)|exact aE.cons (aA.fact 1 Z) (g_ [2,0,3,4,5,6,7,8] Z)|exact aE.cons (aA.fact 2 Z) (g_ [0,1,3,4,5,6,7,8] Z)|exact aE.cons (aA.fact 2 Z) (g_ [1,0,3,4,5,6,7,8] Z))
  intro G a h;let aj:=a.2.2.1;let bz:=(wT U r1 aa a0 G)
  let u:=a.2.2.2;let ba:=mM aJ u.2.1 G;let a6:=Ar aZ.raw a.2.1 u.2.1;let a3:=bI a.1 [a.2.1,aj,u.1] 43;unfold AB at h;refine aM<|iV (B:=RZ) (λM=>AC U r1 aa a0 G M=some r) (λM n=>[(6,vP be),(10,vP a.1)]) (λM n=>[a3,Ar aZ.raw u.1 n.1,rJ aZ.raw n.1 n.2.1 n.2.2.1,Ar aZ.raw aj n.2.2.2.1,eH aZ.raw n.2.2.2.1 n.2.2.2.2,a6,au,ah,I,ad,T,W]) (λM n=>[Ai aJ n.2.2.1 M.1,yH aJ n.2.2.2.2 M.2,ba,S,ax,V,X,aw]) ?_ ?_
  ·refine aX<|cA Z<|eW 7 Z<|aD (eP Z (bZ (i:=12) (j:=13) Z Z bG) Z) Z<|aB Z<|aP<|aV<|mA (B:=RZ) bz (λd g=>[(2,aF),(6,vP be),(10,vP a.1),(34,L.2.1),(35,vI a9),(36,vI (d.1))]) (λd g=>[a3,Ar aZ.raw u.1 g.1,rJ aZ.raw g.1 g.2.1 g.2.2.1,Ar aZ.raw aj g.2.2.2.1,eH aZ.raw g.2.2.2.1 g.2.2.2.2,a6,au,a7,ah,I,ad,T,W]) (λd g=>[Ai aJ g.2.2.1 d.2.1,yH aJ g.2.2.2.2 d.2.2,ba,a2,S,ax,V,X,aw]) ((0:Int),br,bs) (u.2.2.1,u.2.2.2.1,u.2.2.2.2.1,u.2.2.2.2.2.1,u.2.2.2.2.2.2) h SF (aR.ix [0,1,2,3,4,5,6,8,9,10,11,12,13] Z Z) (aE.refl _ _) ?_;intro b5 d g h;let av:=(at' r1.2 d.1)
   let Y:=(Int.toNat d.1)
   let am:=(Int.toNat (av.length:Int))
   let b9:=(tg 2 (List.replicate am ([]:cR)))
   let bx:=(List.replicate am (cJ))
   let bp:=(List.set d.2.1 Y (List.replicate am ([]:bM)))
   let bo:=(List.set g.2.1 Y (tg 2 bx))
   let bE:=(List.set g.2.2.1 Y b9)
   refine aX<|dM Z<|aP<|aM ?_;refine f_ h Z (λh=>?_) λh=>?_
   ·refine dC<|aM<|iV (B:=List Value×List Value×List (List Value)) (λab=>AD r1 d (bP bz b5) ab=some r) (λab y=>[(2,aF),(6,vP be),(10,vP a.1),(34,L.2.1),(35,vI a9),(36,vI (d.1))]) (λab y=>[a3,Ar aZ.raw u.1 y.1,rJ aZ.raw y.1 bo bE,Ar aZ.raw aj y.2.1,eH aZ.raw y.2.1 y.2.2,a6,au,a7,ah,I,ad,T,W]) (λab y=>[Ai aJ bE bp,yH aJ y.2.2 ab,ba,a2,S,ax,V,X,aw]) ?_ ?_
    ·refine aV<|aX<|aB Z<|eB h λC h=>aD (bV Z Z (bZ (i:=11) (j:=12) Z Z bG) Z Z C) Z<|aQ (cH 12 Z) λcd=>aD (eR 11 Z Z cd Z Z C) Z<|aH Z<|aH Z<|aP<|aM ?_;refine JR.start [0,1,0,0,8,24,63,127] 6 mixedOrders (by decide +kernel) ?_;refine zBf (by exact rfl) ?_;refine cD Z<|fI 0 Z<|a_ Z<|a_ Z<|bQ Z (aR.cons 12 Z .nil) .nil (gY Z (aA.row (j:=0) Z bG C.1 C.2) Z) aO.z<|eB h λc2 h=>zBg (cP ((oB am (b:=([]:bT)) aA.nil):aA _ _ (mM aJ (tg 1 bx) (List.replicate am ([]:bT)))))<|zBd Z Z Z (jD (e:=aZ.raw) (cJ) Z Z Z Z c2 Z Z Z) Z (λak=>(nL [([1],[])] Z)) λak=>let bq:=(List.set g.2.2.2.1 Y ak);bS 6 Z Z<|eB h λao h=>aD (bV Z Z (bU (i:=4) (q:=5) (j:=2) Z Z Z) Z Z ao) Z<|aQ (Know.one (aA.sl (bF (i:=0) (j:=0) Z Z))) λbi=>aQ (bJ (aA.fact 2 Z)) λbg=>aQ (cH 5 Z) λce=>cG (cP (fE Y (aA.fact 2 Z) (aA.fact 0 Z))) ?_
     refine cG (sA (k:=d.1) 5 0 Z Z Z ⟨ao.1,(by have q0:=ao.2;have q1:=bg;(try simp only[zA1]at q0 q1⊢);omega)⟩) ?_;refine qI (lB (us:=[ak]) (o:=0) (q:=1) 3 ak ⟨ao.1,(by have q0:=ao.2;have q1:=ce;have q2:=bg;(try simp only[zA1]at q0 q1 q2⊢);omega)⟩ Z Z Z Z (by rw[show(ak).cells = #[ak]from dG bi]) Z Z Z (dH bi Z) Z) λdm=>?_;refine aP<|aM ?_;refine JR.start [0,1,0,0,8,24,63,127] 6 mixedOrders (by decide +kernel) ?_;refine zBf (by exact rfl) ?_;refine cD Z<|fI 0 Z<|a_ Z<|a_ Z<|bQ Z (aR.cons 12 Z .nil) .nil (gY Z (aA.row (j:=0) Z bG C.1 C.2) Z) aO.z<|eB h λc3 h=>zBg (lC aZ.raw am)<|zBg (cP ((oB am (b:=([]:bM)) fD):aA _ _ (yH aJ b9 (List.replicate am ([]:bM)))))<|zBd Z Z Z (jD (e:=aZ.raw) (cJ) Z Z Z Z c3 Z Z Z) Z (λal=>(nL [([2],[])] Z)) λal=>let bu:=(List.set g.1 Y al);bS 6 Z Z<|eB h λap h=>aD (bV Z Z (cF (i:=3) (q:=4) (j:=3) Z Z Z) Z Z ap) Z<|aQ (Know.one (aA.sl (bU (i:=0) (q:=1) (j:=0) Z Z Z))) λbj=>aQ (bJ (aA.fact 3 Z)) λbh=>aQ (yT 4 Z) λcf=>cG (cP (fE Y (aA.fact 3 Z) (aA.fact 0 Z)))<|cG (Iq 0 1 Z Z Z) ?_
     refine cG (Fg (k:=d.1) 3 0 Z Z Z ⟨ap.1,(by have q0:=ap.2;have q1:=bh;(try simp only[zA1]at q0 q1⊢);omega)⟩) ?_;refine qI (lB (us:=[al]) (o:=0) (q:=1) 1 al ⟨ap.1,(by have q0:=ap.2;have q1:=cf;have q2:=bh;(try simp only[zA1]at q0 q1 q2⊢);omega)⟩ Z Z Z Z (by rw[show(al).cells = #[al]from dG bj]) Z Z Z (dH bj Z) Z) λdn=>?_;refine aP<|aX<|aB Z<|aD (gY Z (aA.row (j:=12) Z bG C.1 C.2) Z) Z<|aB Z<|aP<|aV<|mA (B:=xP) (DL U r1 d (bP bz b5)) (λm R=>[(2,aF),(6,vP be),(10,vP a.1),(11,vI (d.1)),(34,L.2.1),(35,vI a9),(36,vI (d.1)),(55,at' L.2.2 d.1),(56,vI (av.length:Int)),(57,vI (m.1))]) (λm R=>[a3,Ar aZ.raw u.1 bu,rJ aZ.raw bu bo bE,Ar aZ.raw aj bq,eH aZ.raw bq R,a6,au,a7,ah,I,ad,T,W]) (λm R=>[Ai aJ bE bp,yH aJ R m.2,ba,a2,S,ax,V,X,aw]) ((0:Int),(List.set d.2.2 Y (List.replicate am ([]:bT)))) (List.set g.2.2.2.2 Y (tg 1 bx)) h SF (aR.refl _) (g_ [0,2,6,7,8,9,10,11,12] Z) ?_;intro dl m R h;refine aX<|dM Z<|aP<|aM ?_;refine f_ h Z (λh=>?_) λh=>?_
     ·refine dC<|aM<|aV<|aX<|aB Z<|eB h λb3 h=>aD (b_ Z Z (aA.row (j:=12) Z bG C.1 C.2) Z Z b3) Z<|aD (fN (cs:=[vI ((at' av m.1).1),vI ((at' av m.1).2)]) Z (aA.row (j:=12) Z bG C.1 C.2) bG Z Z Z Z b3) Z<|aI (aN.alloc (cs:=MV) Z Z) Z λdk=>aH Z<|bL 0 (vs:=[vI ((at' (at' r1.2 d.1) m.1).1),vI ((at' (at' r1.2 d.1) m.1).2)]) Z Z Z Z Z Z<|aP ?_;refine JR.start [0,1,0,7,15,0,0,0,128,448,960,1984,4095,8191] 12 mixedOrders (by decide +kernel) ?_;refine zBf (by exact rfl) ?_;refine cD Z<|fI 1 Z<|a_ Z<|eB h λH h=>aU (gH (bU (i:=4) (q:=5) (j:=1) Z Z Z)) λcg=>i_ Z (hZ Z Z cg Z Z H)<|aU (cH 5 Z) λch=>aU (bJ (aA.fact 1 Z)) λci=>bQ Z (aR.cons 4 Z .nil) .nil (eR 0 Z Z (ch.trans ci) Z Z H) aO.z<|a_ Z<|a_ Z<|cD Z<|fI 0 Z<|eB h λa1 h=>aU (gH (bF (i:=8) (j:=3) Z Z)) λcj=>i_ Z (hZ Z Z cj Z Z a1)<|aU (bJ (aA.fact 3 Z)) λck=>bQ Z (aR.cons 8 Z .nil) .nil (eR 0 Z Z ck Z Z a1) aO.z<|fZ h λca c8 h=>zBd Z Z Z (zBc Py (AR U (at' ([ay,az]) ((at' av m.1).1)) ca c8) Z (aE.cons (bX (aA.fact 3 Z) a1.1 a1.2) .nil)) Z (λbb=>(nL [([5],[]),([2],[])] Z)) λbb=>?_;refine bS 12 Z Z<|eB h λbn h=>aD (bV Z Z (vW (q:=6) (j:=1) Z Z H.1 H.2) Z Z bn) Z ?_;refine aQ (Know.one ((cB (aA.res 0 Z) fO))) λbk=>cG (eQ 0 Z (cB (aA.res 0 Z) fO))<|aQ (bJ (aA.fact 2 Z)) λcl=>?_;refine aQ (bJ (bX (aA.fact 2 Z) H.1 H.2)) λcm=>?_;refine cG (cP (fE Y (aA.fact 2 Z) (fE (Int.toNat m.1) (bX (aA.fact 2 Z) H.1 H.2) (aA.fact 0 Z)))) ?_;refine qI (pF (us:=[bb]) (o:=0) (q:=1) (k:=d.1) 5 bb ⟨H.1,(by have q0:=H.2;have q1:=cl;(try simp only[zA1]at q0 q1⊢);omega)⟩ ⟨bn.1,(by have q0:=bn.2;have q1:=cm;(try simp only[zA1]at q0 q1⊢);omega)⟩ Z Z Z Z (by rw[dG bk]) Z Z Z (dH bk Z) Z) λdp=>?_;refine fH<|oV<|aT<|dK Z<|aB Z<|aP ?_;exact iN ((wI .i64 (m.1+(1:Int))),(List.set m.2 Y (List.set (at' m.2 d.1) (Int.toNat m.1) ca))) (List.set R Y (List.set (at' R d.1) (Int.toNat m.1) bb)) h SF (aR.ix [1,2,3,4,5,6,7,8,9,10,11,12,13] Z Z) (g_ [2,0,4,5,6,7,8,9,10] Z)
     refine vH<|gR<|gR<|Am<|oV ?_;exact kC (m.2) (bu,bq,R) h SF Z
    intro ab y h;unfold AD at h;refine aT<|dK Z<|aB Z<|aP ?_;exact Bw ((wI .i64 (d.1+(1:Int))),bp,ab) (y.1,bo,bE,y.2.1,y.2.2) h SF Z
   refine gC ?_;exact cK (d.2.1,d.2.2) (g.1,g.2.1,g.2.2.1,g.2.2.2.1,g.2.2.2.2) h SF (aR.ix [0,1,2,3,4,5,6,8,9,10,11,12] Z Z) (g_ [0,1,2,4,5,6,7,8] Z)
  intro M n h;unfold AC at h;refine aX<|cY 0 Z<|aQ (Know.one (aA.sl (bF (i:=5) (j:=2) Z Z))) λcn=>aQ (Know.one (aA.sl (bU (i:=3) (q:=4) (j:=1) Z Z Z))) λco=>aQ (Know.one (aA.sl (cF (i:=1) (q:=2) (j:=0) Z Z Z))) λcp=>bL 6 (vs:=[a.2.1,a.2.2.1,a.2.2.2.1]) Z Z (dH cn (dH co (dH cp Z))) Z Z Z<|aH Z<|aP<|aY ?_;exact iK ((0:Int),G,M.2,M.1) (a.2.1,u.2.1,aj,n.2.2.2.1,n.2.2.2.2,u.1,n.1,n.2.1,n.2.2.1) h (.inl Z) (BR.r2 Z (RV.cell 6 Z Z Z Z) (RV.tmp Z)) Z (aR.ix [7,8,9,10,11,5,3,4,1,2] Z Z) (g_ [3,4,5,6,7,2,1,0] Z)
 intro v f h;let ae:=f.2.2.1;let D:=f.2.2.2;let bw:=Ar aZ.raw ae D.1;let ar:=(List.zip f.2.1 v.2.1)
 let b6:=(List.set v.2.2.1 bA (List.set (at' v.2.2.1 (1:Int)) bC ([(2:Int),(-1:Int)])))
 let K:=D.2.2;let a8:=Ar aZ.raw K.1 K.2.1;let a4:=rJ aZ.raw K.2.1 K.2.2.1 K.2.2.2;let aq:=(Z4 K.2.1 K.2.2.1 K.2.2.2 v.2.2.2)
 refine aB Z<|iR Z<|iR Z<|aI (aN.alloc (cs:=[cJ,cJ,cJ]) Z Z) Z λcu=>let a5:=bI cu [f.1,ae,K.1] 43;aQ (Know.one (aA.sl (bF (i:=6) (j:=5) Z Z))) λcO=>aQ (Know.one (aA.sl (bU (i:=7) (q:=8) (j:=6) Z Z Z))) λcQ=>aQ (Know.one (aA.sl (cF (i:=9) (q:=10) (j:=7) Z Z Z))) λcS=>bL 0 (vs:=[f.1,f.2.2.1,f.2.2.2.2.2.1]) Z Z (dH cO (dH cQ (dH cS Z))) Z Z Z<|aH Z<|aP<|aM<|aM<|iV (B:=Unit) (λbc=>pP U r1 aa a0 v bc=some r) (λbc cb=>[(1,vP b4),(2,vP ct),(3,vP cu),(42,vB (bc))]) (λbc cb=>[a5,ah,I,ad,T,W,Ar aZ.raw f.1 f.2.1,bw,eH aZ.raw D.1 D.2.1,a8,a4]) (λbc cb=>[S,ax,V,X,aw,mM aJ f.2.1 v.2.1,yH aJ D.2.1 v.2.2.1,Ai aJ K.2.2.2 v.2.2.2]) ?_ ?_
 ·refine aT<|aB Z<|oM Z<|aB Z ?_;refine Fq h Z (λ_ h=>?_) λ_ h=>?_
  ·refine aK Z<|aK Z<|aK Z<|aK Z<|aK Z<|fX Z<|aB Z<|aK Z<|aK Z<|aK Z<|aK Z<|fX Z<|aB Z<|aK Z<|aK Z<|aK Z<|aK Z<|aK Z<|aK Z<|fX Z<|aP ?_;exact kC (true) () h SF Z
  refine aS Z (dX 1 Z Z Z Z) Z<|aS Z (dX 2 Z Z Z Z) Z<|aS Z (dX 0 Z Z Z Z) Z<|fZ h λdd di h=>uQ Z (zBc Jd (rC U E F L.1 L.2.1 ai f.1 (ar) ae ((Z3 D.1 D.2.1 v.2.2.1)) K.1 (aq) dd di) Z (aE.cons (aA.fact 2 Z) (aE.cons (aA.fact 3 Z) (aE.cons (aA.fact 4 Z) (aE.cons (cB (aA.res 3 Z) fO) (aE.cons (bZ (i:=4) (j:=5) Z Z bG) (aE.cons (bF (i:=6) (j:=5) Z Z) (aE.cons (bU (i:=7) (q:=8) (j:=6) Z Z Z) (aE.cons (cF (i:=9) (q:=10) (j:=7) Z Z Z) .nil))))))))) Z λdv=>aS Z (wL Z) Z<|fG Z<|aB Z ?_;refine wJ (by exact rfl) (by exact rfl) (λbm=>?_) (λbm=>?_)
  ·have h:=Km bm h;refine aK Z<|aK Z<|aK Z<|aK Z<|fX Z<|aB Z<|aK Z<|aK Z<|aK Z<|aK Z<|aK Z<|aK Z<|fX Z<|aP ?_;exact kC (true) () h SF Z
  have h:=Hm bm h;refine aS Z (eT Z Z Z Z Z) Z<|aS Z (fS 0 Z Z Z Z Z) Z<|aS Z (eP Z (bU (i:=7) (q:=8) (j:=6) Z Z Z) Z) Z<|aS Z (EQ Z Z) Z<|fG Z<|aB Z ?_;refine Fq h Z (λ_ h=>?_) λ_ h=>?_
  ·refine aK Z<|aK Z<|aK Z<|aK Z<|aK Z<|aK Z<|fX Z<|aP ?_;exact kC (true) () h SF Z
  refine aS Z (eT Z Z Z Z Z) Z<|aS Z (fS 0 Z Z Z Z Z) Z<|eB h λbN h=>aS Z (bV Z Z (bU (i:=7) (q:=8) (j:=6) Z Z Z) Z Z bN) Z<|aQ (cH 8 Z) λcC=>aQ (bJ (aA.fact 6 Z)) λcE=>aS Z (eR 7 Z Z (cC.trans cE) Z Z bN) Z ?_;refine aS Z (eP Z (vW (q:=8) (j:=6) Z Z bN.1 bN.2) Z) Z ?_;refine aS Z (EQ Z Z) Z<|fG Z<|aP ?_;exact kC (decide (((at' v.2.2.1 (1:Int)).length:Int)≠(1:Int))) () h SF Z
 intro bc cb h;refine Bf h Z (λ_ h=>?_) λ_ h=>?_
 ·refine aX<|aH Z<|aP<|aY<|aL ?_;cases h;exact zJ Z
 refine dC<|aX<|cA Z<|eW 0 Z<|eB h λaf h=>aD (bV Z Z (bU (i:=7) (q:=8) (j:=6) Z Z Z) Z Z af) Z<|aQ (cH 8 Z) λcw=>aQ (bJ (aA.fact 6 Z)) λcx=>aD (eR 7 Z Z (cw.trans cx) Z Z af) Z<|aI (cU (e:=eC) ([(2:Int),(-1:Int)]) [(0,vI (2:Int)),(1,vI (-1:Int))] Z Z Z Z (F_ (vI (2:Int)) (vI (-1:Int)) Z Z) Z Z Z) Z λbW=>let cr:=(List.set D.2.1 bA (List.set (at' D.2.1 (1:Int)) bC bW));let bR:=(Z3 D.1 cr b6);eB h λcq h=>aD (bV Z Z (vW (q:=9) (j:=6) Z Z af.1 af.2) Z Z cq) Z ?_
 refine aQ (Know.one ((cB (aA.res 0 Z) fO))) λb2=>cG (eQ 0 Z (cB (aA.res 0 Z) fO))<|aQ (bJ (aA.fact 7 Z)) λcy=>?_;refine aQ (bJ (bX (aA.fact 7 Z) af.1 af.2)) λcz=>?_;refine cG (cP (fE bA (aA.fact 7 Z) (fE bC (bX (aA.fact 7 Z) af.1 af.2) (aA.fact 0 Z)))) ?_;refine qI (pF (us:=[bW]) (o:=0) (q:=1) (k:=(1:Int)) 8 bW ⟨af.1,(by have q0:=af.2;have q1:=cy;(try simp only[zA1]at q0 q1⊢);omega)⟩ ⟨cq.1,(by have q0:=cq.2;have q1:=cz;(try simp only[zA1]at q0 q1⊢);omega)⟩ Z Z Z Z (by rw[dG b2]) Z Z Z (dH b2 Z) Z) λds=>?_;refine aP<|aX<|cY 1 Z<|cY 2 Z<|cY 0 Z ?_;refine aD (Cp (r:=Value.agg #[vI (1:Int),vI (1:Int),vI (0:Int)]) Z Z (by intro w;simp[Instr.build,Instr.fill,dO,cV,cL,dQ,dR,cW,eN])) Z ?_;refine cG (eQ 3 Z (cB (aA.res 0 Z) fO))<|cG (kQ [T,W] [a5,ah,I,Ar aZ.raw f.1 f.2.1,bw,eH aZ.raw D.1 cr,a8,a4] (aR.ix [3,4,0,1,2,5,6,7,8,9] Z Z) (bZ (i:=0) (j:=1) Z Z bG))<|cG (eQ 3 Z (bF (i:=0) (j:=9) Z Z))<|cG (kQ [bw,eH aZ.raw D.1 cr] [a5,ah,I,a8,a4] (aR.ix [3,4,0,1,2,5,6] Z Z) (bU (i:=0) (q:=1) (j:=3) Z Z Z))<|cG (kQ [a8,a4] [a5,ah,I] (aR.ix [3,4,0,1,2] Z Z) (cF (i:=0) (q:=1) (j:=13) Z Z Z))<|fZ h λbH df h=>aI (aN.call aah (MG U E F L.1 L.2.1 ai f.1 ar ae bR K.1 aq bH df) Z (fR.cons (zA0 (i:=9) Z) (fR.cons (zA0 (i:=10) Z) (fR.cons (zA0 (i:=11) Z) (fR.cons (zA0 (i:=4) Z) (fR.cons (zA0 (i:=3) Z) (fR.cons (zA0 (i:=2) Z) (fR.cons (zA0 (i:=1) Z) (mK 0 Z)))))))) (λ_ _=>rfl) (λ_ _=>rfl)) Z λan=>aB Z<|iR Z<|iR Z<|aI (aN.alloc (cs:=[cJ,cJ,cJ]) Z Z) Z λdq=>aQ (Know.one (aA.sl (aA.fact 0 Z))) λcT=>aQ (Know.one (aA.sl (aA.fact 1 Z))) λcX=>aQ (Know.one (aA.sl (aA.fact 2 Z))) λc0=>bL 0 (vs:=[an.1,an.2.2.1,an.2.2.2.2.1]) Z Z (dH cT (dH cX (dH c0 Z))) Z Z Z<|aH Z<|aP<|aM<|iV (B:=Unit) (λbd=>lJ  bd=some r) (λbd cc=>[(0,vB (bd))]) (λbd cc=>[]) (λbd cc=>[S2 aJ an.1 an.2.1 bH.1.1,S3 aJ an.2.2.1 an.2.2.2.1 bH.1.2.1,S4 aJ an.2.2.2.2.1 an.2.2.2.2.2 bH.1.2.2,S4 aJ K.1 aq v.2.2.2,S3 aJ ae bR b6,S2 aJ f.1 ar v.2.1,S2 aW L.2.1 ai r1.2,Sl aJ L.1 r1.1,Sl aJ bW ([(2:Int),(-1:Int)]),S,ax,V,X,aw]) ?_ ?_
 ·refine aT<|aB Z<|eL Z<|aB Z ?_;refine Fq h Z (λ_ h=>?_) λ_ h=>?_
  ·refine aS Z (dX 2 Z Z Z Z) Z<|aS Z (dX 3 Z Z Z Z) Z<|aS Z (dX 1 Z Z Z Z) Z<|fZ h λdb dg h=>uQ Z (zBc Jd (rC U E F L.1 L.2.1 ai f.1 ar ae bR K.1 aq db dg) Z (g_ [12,13,14,7,6,5,4,3] Z)) Z λdt=>aS Z (wL Z) Z<|fX Z<|aB Z ?_;refine wJ (by exact rfl) (by exact rfl) (λbl=>?_) (λbl=>?_)
   ·have h:=Km bl h;refine aS Z (dX 2 Z Z Z Z) Z<|aS Z (dX 3 Z Z Z Z) Z<|aS Z (dX 1 Z Z Z Z) Z<|fZ h λdc dh h=>uQ Z (zBc Us (Da U E F L.1 L.2.1 ai f.1 ar ae bR K.1 aq dc dh) Z (g_ [12,13,14,7,6,5,4,3] Z)) Z λdu=>aS Z (IY Z Z) Z<|fX Z<|aB Z ?_;refine Fq h Z (λ_ h=>?_) λ_ h=>?_
    ·refine aS Z (eT Z Z Z Z Z) Z<|aS Z (fS 0 Z Z Z Z Z) Z<|aS Z (eP Z (aA.fact 0 Z) Z) Z<|aS Z (IY Z Z) Z<|fX Z<|aB Z ?_;refine Fq h Z (λ_ h=>?_) λ_ h=>?_
     ·refine aS Z (eT Z Z Z Z Z) Z<|aS Z (fS 0 Z Z Z Z Z) Z<|eB h λbK h=>aS Z (bV Z Z (aA.fact 0 Z) Z Z bK) Z<|aS Z (cM Z (aA.fact 0 Z) Z Z bK) Z<|aS Z (gY Z (zBe (aA.fact 0 Z) bK.1 bK.2) Z) Z<|aS Z (IY Z Z) Z<|fX Z<|aB Z ?_;refine Fq h Z (λ_ h=>?_) λ_ h=>?_
      ·refine aS Z (eT Z Z Z Z Z) Z<|aS Z (fS 0 Z Z Z Z Z) Z<|eB h λbf h=>aS Z (bV Z Z (aA.fact 0 Z) Z Z bf) Z<|aS Z (cM Z (aA.fact 0 Z) Z Z bf) Z<|eB h λc6 h=>aS Z (b_ Z Z (zBe (aA.fact 0 Z) bf.1 bf.2) Z Z c6) Z<|aS Z (dJ Z (zBe (aA.fact 0 Z) bf.1 bf.2) Z Z Z gX c6) Z<|aS Z (IY Z Z) Z<|fX Z<|aH Z<|aP ?_;exact cK (decide ((at' (at' bH.1.1 (1:Int)) (0:Int))=(2:Int))) () h SF .nil (g_ [0,1,2,3,4,5,6,7,9,10,11,12,13,14] Z)
      refine aK Z<|aK Z<|aK Z<|aK Z<|aK Z<|aK Z<|aK Z<|fG Z<|aH Z<|aP ?_;exact cK (false) () h SF .nil (g_ [0,1,2,3,4,5,6,7,9,10,11,12,13,14] Z)
     refine aK Z<|aK Z<|aK Z<|aK Z<|aK Z<|aK Z<|fG Z<|aB Z<|aK Z<|aK Z<|aK Z<|aK Z<|aK Z<|aK Z<|aK Z<|fG Z<|aH Z<|aP ?_;exact cK (false) () h SF .nil (g_ [0,1,2,3,4,5,6,7,9,10,11,12,13,14] Z)
    refine aK Z<|aK Z<|aK Z<|aK Z<|fG Z<|aB Z<|aK Z<|aK Z<|aK Z<|aK Z<|aK Z<|aK Z<|fG Z<|aB Z<|aK Z<|aK Z<|aK Z<|aK Z<|aK Z<|aK Z<|aK Z<|fG Z<|aH Z<|aP ?_;exact cK (false) () h SF .nil (g_ [0,1,2,3,4,5,6,7,9,10,11,12,13,14] Z)
   have h:=Hm bl h;refine aK Z<|aK Z<|aK Z<|aK Z<|aK Z<|fG Z<|aB Z<|aK Z<|aK Z<|aK Z<|aK Z<|fG Z<|aB Z<|aK Z<|aK Z<|aK Z<|aK Z<|aK Z<|aK Z<|fG Z<|aB Z<|aK Z<|aK Z<|aK Z<|aK Z<|aK Z<|aK Z<|aK Z<|fG Z<|aH Z<|aP ?_;exact cK (false) () h SF .nil (g_ [0,1,2,3,4,5,6,7,9,10,11,12,13,14] Z)
  refine aK Z<|aK Z<|aK Z<|aK Z<|aK Z<|fG Z<|aB Z<|aK Z<|aK Z<|aK Z<|aK Z<|aK Z<|fG Z<|aB Z<|aK Z<|aK Z<|aK Z<|aK Z<|fG Z<|aB Z<|aK Z<|aK Z<|aK Z<|aK Z<|aK Z<|aK Z<|fG Z<|aB Z<|aK Z<|aK Z<|aK Z<|aK Z<|aK Z<|aK Z<|aK Z<|fG Z<|aH Z<|aP ?_;exact cK (false) () h SF .nil (g_ [0,1,2,3,4,5,6,7,9,10,11,12,13,14] Z)
 intro bd cc h;unfold lJ at h;refine aY ?_;cases h;exact mN Z
def yP  (a:Unit):Option Bool:=
 some (true)
def uM (U:Nat) (c:bM) (e:bM) (a:Int) (b:(Int)->Option Bool):Option Bool:=
 if a<(c.length:Int)then(ck (0<=a∧a<(c.length:Int)) (ck (0<=a∧a<(e.length:Int)) (Option.bind (tC U (at' c a) (at' e a)) λd=>(if(!d)=true then(some (false))else(b (wI .i64 (a+(1:Int))))))))else(yP  (()))
def qP (U:Nat) (a:bM) (b:bM):Option Bool:=
 if(a.length:Int)≠(b.length:Int)then(some (false))else(bP (uM U a b) U (0:Int))
theorem Ut:bB Tryz.prog 38:=Tryz.call38
theorem GC (U:Nat) {f:bM} {g:bM} (j:Value)  (p:jY)  (k:Value)  (q:jY) (r:Bool) (h:qP U f g=some r):
  bO Tryz.prog 38 #[j,k] [S2 aJ j p f,S2 aJ k q g] (λx:Unit=>vB (r)) (λx l=>l) (λ_ l=>l):=by
 refine bO.of Tryz.func38 Z Tryz.ntmps38 Z λc=>?_;refine aX<|aH Z<|aP<|aM<|aX<|aB Z<|aD (eP Z (aA.fact 0 Z) Z) Z<|aB Z<|aD (eP Z (aA.fact 1 Z) Z) Z<|oM Z<|aP ?_;refine f_ h Z (λh=>?_) λh=>?_
 ·refine aX<|aH Z<|aP<|aY<|aL ?_;cases h;exact mN Z
 refine dC<|aM<|jH (λe=>yP  e=some r) (λe n=>[]) (λe n=>[]) ?_ ?_
 ·refine aX<|aH Z<|aP<|aV<|iI (uM U f g) (λd o=>[(0,j),(1,k),(5,vI (d))]) (λd o=>[]) (0:Int) () h SF (aR.refl _) ?_;intro t d o h;refine aM<|aX<|aB Z<|aB Z<|aD (eP Z (aA.fact 0 Z) Z) Z<|dM Z<|aP ?_;refine f_ h Z (λh=>?_) λh=>?_
  ·refine dC<|aM<|aV<|aM ?_;refine JR.start [0,0,3,7,0,0,48,112,255,511] 8 mixedOrders (by decide +kernel) ?_;refine zBf (by exact rfl) ?_;refine a_ Z<|a_ Z<|eB h λa h=>bQ Z .nil (mK 0 Z) (bV Z Z (aA.fact 0 Z) Z Z a) aO.z<|bQ Z .nil (mK 0 Z) (cM Z (aA.fact 0 Z) Z Z a) aO.z<|a_ Z<|a_ Z<|eB h λb h=>bQ Z .nil (mK 1 Z) (bV Z Z (aA.fact 0 Z) Z Z b) aO.z<|bQ Z .nil (mK 1 Z) (cM Z (aA.fact 0 Z) Z Z b) aO.z<|bS 8 Z Z<|fZ h λi m h=>aI (zBc aaq (HF U ((at' p d).1) ((at' q d).1) i m) Z (aE.cons (zBe (aA.fact 0 Z) a.1 a.2) (aE.cons (zBe (aA.fact 1 Z) b.1 b.2) .nil))) Z λs=>aD (wL Z) Z<|aP ?_;refine Bf h Z (λ_ h=>?_) λ_ h=>?_
   ·refine aX<|aH Z<|aP<|aY<|cE<|aL<|aL<|cE<|aL ?_;cases h;exact mN Z
   refine fV<|oV<|aT<|aB Z<|dK Z<|aH Z<|aP ?_;exact Bw (wI .i64 (d+(1:Int))) () h SF Z
  refine gC ?_;exact kC () (()) h SF Z
 intro e n h;unfold yP at h;refine aX<|aH Z<|aP<|aY ?_;cases h;exact mN Z
end Go.Proofs.YtflciafboapaaaaGreat
namespace Go.Proofs.YtflciafboapaaaaGreat
open Go Go.Sx
theorem acI {g:GR} (a:Rq g) (h:yO 1000 g=some true):VG g:=Classical.byContradiction λq=>by
 have:=(Od g a).2 q;rw[h]at this;cases this
def gK:GR:=([0,1],[[(1,1)],[(0,1)]])
theorem Yr:jG 1000 (2,([]:bT),([]:bT),([]:bT),false,false) 2=some gK:=by kernel_rfl
theorem abV:VG gK:=acI (by first|decide|(unfold Rq gK;decide)) (by kernel_rfl)
def adO:List zY:=acF (ByteArray.mk #[100]) (ByteArray.mk #[112]) 1
def Nw (z:List mE):BQ:=(ByteArray.mk #[98,102,115],adO,z)
def yK:wK:=([[0,-1],[1,0]],[[[1,0]],[[0,-1]]],[[[]],[[]]])
def yL:wK:=([[0,-1],[1,0]],[[[1,0]],[[2,-1]]],[[[]],[[]]])
theorem NK:uI 1000=some true:=by
 have c:=abV;have a:=acH c (ByteArray.mk #[100]) (ByteArray.mk #[112]) (k:=1) (by decide) (by decide);unfold uI;rw[bN Yr,bN (show CB 1000=some Fw from rfl),bN (Wb 1000)];refine QK λz d=> ?_;have d:(Nw z).2.2.map rR=A_ RBf:=d;have a:jV gK (Nw z).2.1:=a;have e:kG (Nw z).2.1.length RBf=true:=YU;have f:fC 1000 (Nw z) gK [[0,-1],[1,0]]=some 0:=by
  rw[UG c a [[0,-1],[1,0]]];kernel_rfl
 refine(bN (show fC 1000 _ _ [[0,-1],[1,0]]=some 0 from f)).trans ?_
 try dsimp only
 rw[if_neg (by decide)];refine(bN (FW [[0,-1],[1,0]] (by decide) (by decide))).trans ?_
 try dsimp only
 rw[dD (by decide),dD (by decide)];refine Eq.trans (b:=sF 1000 gK (ByteArray.mk #[98,102,115],Fy,CI) z (0,yK)) (by kernel_rfl) ?_;unfold sF;have g:dW 1000 (Nw z) gK yK=some true:=by
  rw[CM c a d e yK];kernel_rfl
 have h:dW 1000 (Nw z) gK yL=some false:=by
  rw[CM c a d e yL];kernel_rfl
 have i:jB 1000 (Nw z) gK yL=some 2:=by
  rw[Jn c a d e yL];kernel_rfl
 have j:tD 1000 (Nw z) gK 1 yL (1,1,0)=some (([[0,-1],[2,0]],[[[1,0]],[[2,-1]]],[[[]],[[]]]),0):=by
  rw[Zb c a d e 1 yL (1,1,0)];kernel_rfl
 rw[if_neg (by decide)];refine(bN (show dW 1000 _ _ _=some true from g)).trans ?_
 try dsimp only
 rw[if_neg (by decide),if_neg (by decide),dD (by decide)];unfold pP;rw[if_neg (by decide),dD (by decide),dD (by decide)];refine(bN (show tD 1000 _ _ 1 _ _=_ from j)).trans ?_
 try dsimp only
 rw[if_pos Z];refine(bN (show dW 1000 _ _ _=some false from h)).trans ?_
 try dsimp only
 rw[if_pos (by decide)];refine(bN (show jB 1000 _ _ _=some 2 from i)).trans ?_;rfl
theorem YZ (c:bM) (h:c.length<900) (d:∀v:Nat,v<c.length->(at' c (v:Int)).length<900):qP 1000 c c=some true:=by
 unfold qP;rw[if_neg (by simp)];refine dY (step:=uM 1000 c c) (K:=some true) c.length (λk=>(k:Int)) (λk a b=> ?_) (λa=> ?_) 1000 (by omega)
 ·unfold uM;rw[if_pos (by omega),dD (by omega),dD (by omega),bN (acv _ _ (d k b)),zAd Z,if_neg (by decide),eI (by omega)]
 ·unfold uM yP;rw[if_neg (by omega)]
def rQ (z:List mE):BQ:=(ByteArray.mk #[99,111,108,111,117,114,105,110,103],wG,z)
theorem VR {S:Dh} {a:List zY} {R:List RL} {c:bM} {v:Nat} (b:v<S.2.1.2.length) (d:c.length=S.2.1.2.length):at' (DY S a R c (NE S R c)) (v:Int)=ID S a R c v:=by
 rw[Om (by omega),QZ,zAd b,zBb];unfold ID;by_cases h:0<=qD S R c v
 ·rw[if_pos (zAd h),if_pos h]
 ·rw[if_neg (by simpa using h),if_neg h]
structure ahF (g:GR) (vars:List zY) (nx:bM->Nat->bT) (P:Nat->Nat->bT->Prop):Prop where
 start:∀v s,v<g.2.length->GU g vars v s=true->P 0 v s
 ok:∀k v s,v<g.2.length->P k v s->GU g vars v s=true
 down:∀k v s,v<g.2.length->P (k+1) v s->P k v s
 next:∀k c,c.length=g.2.length->(∀x,x<g.2.length->P k x (at' c (x:Int)))->∀v,v<g.2.length->P (k+1) v (nx c v)
def evZ (e:Nat×Nat×Nat):Int×Int×Int:=((e.1:Int),(e.2.1:Int),(e.2.2:Int))
def sT (g:GR) (cap:Nat):wC:=(Qm g cap).map evZ
theorem YM (g:GR) (nx:bM->Nat->bT) (cap:Nat) (y:wK) (l:List (Nat×Nat×Nat)):perfs g nx cap y (l.map evZ)=l.foldl (lM g nx cap) y:=by unfold perfs;rw[List.foldl_map];rfl
theorem VY.up {g:GR} {c:List zY} {a b:Nat} {y:wK} (h:VY g c a y) (d:a<=b):VY g c b y:=⟨h.sh,h.all,λv i f e=>zAx (h.cp v i f e) d⟩
theorem YW {g:GR} {a:List zY} {nx:bM->Nat->bT} {cap:Nat} {y:wK} {l:wC} (d:1<=cap) (f:cap<=8) (h:VY g a cap y) (c:∀e∈l,ON g e=true):Wl g a nx (cap:Int) y l=(perfs g nx cap y l,0):=by
 unfold Wl;rw[if_pos (by omega),if_pos (GM.2 ⟨by omega,by rw[zAf];exact h⟩),if_pos (oE.2 λk b=>c _ (by rw[iX b];exact List.getElem_mem b)),zAf]
theorem NF {g:GR} {p:BQ} {R:List RL} {y:wK} (c:VG g) (h:SH g y) (d:OQ g y):Yj (cX p g) g R y=NE (cX p g) R y.1:=by
 unfold Yj NE;refine HZ λv b=> ?_;have:vw g y v=y.1:=OD c h b (λj e=>d.a v j b e) _ (zAe _);rw[this]
theorem NJ {g:GR} {y:wK} (b:OQ g y):knB g y=true:=by
 unfold knB;refine oE.2 λv d=>oE.2 λi c=> ?_;unfold kwB;rw[b.a v i d c,b.w v i d c,zAd Z];rfl
end Go.Proofs.YtflciafboapaaaaGreat
namespace Go.Proofs.YtflciafboapaaaaGreat
open Go.Sx
def tO (c:GI) (b:Ih->Option xW) (a:(List (Int×Int×Int))):Option xW:=
 b ((wI .i64 (c.1+(1:Int))),a)
def tP (b:GI) (a:Ih->Option xW) (c:(List (Int×Int×Int))):Option xW:=
 a ((wI .i64 (b.1+(1:Int))),c)
def qA (f:Int) (g:Int) (e:GI) (b:GI) (c:Ih->Option xW) (a:GI) (d:Ih->Option xW):Option xW:=
 if a.1<g then(ck ((a.2.length:Int)+(List.length ([(f,e.1,b.1)]):Int)<=1099511627) (d ((wI .i64 (a.1+(1:Int))),(a.2++([(f,e.1,b.1)])))))else(tP b c (a.2))
def kU (U:Nat) (e:Int) (f:Int) (g:dL) (c:GI) (d:Ih->Option xW) (a:GI) (b:Ih->Option xW):Option xW:=
 if a.1<((at' g.2 c.1).length:Int)then(bP (qA e f c a b) U ((0:Int),a.2))else(tO c d (a.2))
def iM (U:Nat) (d:Int) (e:Int) (c:dL) (a:GI) (b:Ih->Option xW):Option xW:=
 if a.1<(c.2.length:Int)then(ck (0<=a.1∧a.1<(c.2.length:Int)) (bP (kU U d e c a b) U ((0:Int),a.2)))else(some (a.2))
def iH (U:Nat) (a:Int) (b:Int) (c:dL) (d:wC):Option xW:=
 bP (iM U a b c) U ((0:Int),d)
theorem Px:bB Tryz.prog 73:=Tryz.call73
theorem zN (U:Nat) {g:Int} {q:Int} {p:dL} {J:wC} (v:Nat)  (A:Value)  (z:Value)  (N:iZ)  (b:Nat)  (L:Value) (r:(List (Int×Int×Int))) (h:iH U g q p J=some r):
  zE Tryz.prog 73 #[vI (g),vI (q),vP v,vP b] [bI b [L] 57,Ar cZ L J] [bI v [A,z] 31,Sl aJ A p.1,S2 aW z N p.2] (λx:Value=>Value.tuple #[]) (λx l=>bI b [x] 57::Ar cZ x r::l):=by
 let F:=(iM U g q p)
 let u:=S2 aW z N p.2;let t:=bI v [A,z] 31;let s:=vI (p.2.length:Int);refine zE.of (vs:=[vI (g),vI (q),vP v,vP b]) Tryz.func73 Z Tryz.ntmps73 Z λc=>?_;unfold iH at h;refine aX<|cA Z<|aD (eK Z (aA.fact 0 Z) Z Z Z) Z<|aD (eP Z (aA.fact 2 Z) Z) Z<|aB Z<|aP<|aV<|mA (B:=Value) F (λd C=>[(0,vI (g)),(1,vI (q)),(3,vP b),(10,z),(11,s),(12,vI (d.1))]) (λd C=>[bI b [C] 57,Ar cZ C d.2]) (λd C=>[t,Sl aJ A p.1,u]) ((0:Int),J) (L) h SF (aR.refl _) (aE.refl _ _) ?_;intro M d C h;let E:=vI ((at' p.2 d.1).length:Int);let D:=(kU U g q p d (bP F M))
 refine aX<|dM Z<|aP<|aM ?_;refine f_ h Z (λh=>?_) λh=>?_
 ·refine dC<|aM<|iV (B:=Value) (λi=>tO d (bP F M) i=some r) (λi m=>[(0,vI (g)),(1,vI (q)),(3,vP b),(10,z),(11,s),(12,vI (d.1))]) (λi m=>[bI b [m] 57,Ar cZ m i]) (λi m=>[t,Sl aJ A p.1,u]) ?_ ?_
  ·refine aV<|aX<|aB Z<|eB h λy h=>aD (bV Z Z (aA.fact 2 Z) Z Z y) Z<|aD (cM Z (aA.fact 2 Z) Z Z y) Z<|aH Z<|aH Z<|aP<|aX<|aB Z<|aD (gY Z (zBe (aA.fact 2 Z) y.1 y.2) Z) Z<|aB Z<|aP<|aV<|mA (B:=Value) D (λa k=>[(0,vI (g)),(1,vI (q)),(3,vP b),(6,vI (d.1)),(10,z),(11,s),(12,vI (d.1)),(18,E),(19,vI (a.1))]) (λa k=>[bI b [k] 57,Ar cZ k a.2]) (λa k=>[t,Sl aJ A p.1,u]) ((0:Int),d.2) (C) h SF (aR.refl _) (aE.refl _ _) ?_;intro H a k h;refine aX<|dM Z<|aP<|aM ?_;refine f_ h Z (λh=>?_) λh=>?_
   ·refine dC<|aM<|iV (B:=Value) (λj=>tP a (bP D H) j=some r) (λj n=>[(0,vI (g)),(1,vI (q)),(3,vP b),(6,vI (d.1)),(10,z),(11,s),(12,vI (d.1)),(18,E),(19,vI (a.1))]) (λj n=>[bI b [n] 57,Ar cZ n j]) (λj n=>[t,Sl aJ A p.1,u]) ?_ ?_
    ·refine aV<|aX<|aB Z<|aH Z<|aP<|aX<|aB Z<|aB Z<|aP<|aV<|mA (B:=Value) (qA g q d a (bP D H)) (λf o=>[(0,vI (g)),(1,vI (q)),(3,vP b),(6,vI (d.1)),(8,vI (a.1)),(10,z),(11,s),(12,vI (d.1)),(18,E),(19,vI (a.1)),(22,vI (q)),(23,vI (f.1))]) (λf o=>[bI b [o] 57,Ar cZ o f.2]) (λf o=>[t,Sl aJ A p.1,u]) ((0:Int),a.2) (k) h SF (aR.refl _) (aE.refl _ _) ?_;intro O f o h;refine aX<|dM Z<|aP<|aM ?_;refine f_ h Z (λh=>?_) λh=>?_
     ·refine dC<|aM<|aV<|aT<|eW 0 Z<|aB Z<|aB Z<|aB Z ?_;refine aD (Cq (r:=Value.agg #[vI (g),vI (d.1),vI (a.1)]) Z Z Z (by intro w;simp[Instr.build,Instr.fill,dO,cV,cL,dQ,dR,cW,eN])) Z ?_;refine aI (cU (e:=cZ) ([((g,d.1,a.1))]) [(0,Value.agg #[vI (g),vI (d.1),vI (a.1)])] Z Z Z Z (Ju (vI (g)) (vI (d.1)) (vI (a.1))) Z Z Z) Z λP=>eB h λI h=>aI (mB 2 lA Z Z Z (cB (aA.res 0 Z) lA) Z Z Z Z I Z) Z λK=>aQ (Know.one ((cB (aA.res 2 Z) lA))) λG=>pE 1 Z Z G Z Z Z<|fH<|oV<|aT<|dK Z<|aB Z<|aP ?_;exact iN ((wI .i64 (f.1+(1:Int))),(f.2++([(g,d.1,a.1)]))) (K) h SF (aR.ix [1,2] Z Z) (aE.refl _ _)
     refine vH<|gR<|gR<|Am<|oV ?_;exact kC (f.2) (o) h SF Z
    intro j n h;unfold tP at h;refine aT<|dK Z<|aB Z<|aP ?_;exact Bw ((wI .i64 (a.1+(1:Int))),j) (n) h SF Z
   refine vH<|gR<|gR<|Am<|oV ?_;exact kC (a.2) (k) h SF Z
  intro i m h;unfold tO at h;refine aT<|dK Z<|aB Z<|aP ?_;exact Bw ((wI .i64 (d.1+(1:Int))),i) (m) h SF Z
 refine vH<|gR<|gR<|Am ?_;cases h;exact Em (C) Z Z .normal (.inr Z) (aR.refl _) aE.nil
def xD (U:Nat) (a:dL) (e:Int) (b:(List (Int×Int×Int))):Option xW:=
 Option.bind (iH U (2:Int) (1:Int) ((a.1,a.2)) b) λc=>(Option.bind (iH U (3:Int) e ((a.1,a.2)) c) λd=>(some (d)))
def sP (U:Nat) (c:dL) (d:Int) (a:GI) (b:Ih->Option xW):Option xW:=
 if a.1<(c.2.length:Int)then(ck ((a.2.length:Int)+(List.length ([((1:Int),a.1,(0:Int))]):Int)<=1099511627) (b ((wI .i64 (a.1+(1:Int))),(a.2++([((1:Int),a.1,(0:Int))])))))else(xD U c d (a.2))
def sO (U:Nat) (a:dL) (b:Int) (c:Bool):Option xW:=
 if c=true then(some ([]:wC))else(Option.bind (iH U (3:Int) b ((a.1,a.2)) ([]:wC)) λd=>(bP (sP U a b) U ((0:Int),d)))
def uJ (U:Nat) (a:dL) (b:Int):Option xW:=
 Option.bind (iG U ((a.1,a.2))) λc=>(if(!c)=true then(sO U a b (true))else(if b<(1:Int)then(sO U a b (true))else(sO U a b (decide ((8:Int)<b)))))
theorem Pt:bB Tryz.prog 31:=Tryz.call31
theorem BK (U:Nat) {o:dL} {n:Int} (i:Value)  (j:Value)  (u:iZ) (r:(List (Int×Int×Int))) (h:uJ U o n=some r):
  bO Tryz.prog 31 #[Value.agg #[i,j],vI (n)] [Sl aJ i o.1,S2 aW j u o.2] (λx:Value=>x) (λx l=>Ar cZ x r::l) (λ_ l=>l):=by
 refine bO.of Tryz.func31 Z Tryz.ntmps31 Z λc=>?_;refine aX<|aI (aN.box (cs:=[i,j]) Z Z) Z λb=>aH Z<|aP<|aM<|aM<|jH (λq=>sO U o n q=some r) (λq G=>[(1,vI (n)),(2,vP b),(18,vB (q))]) (λq G=>[bI b [i,j] 31]) ?_ ?_
 ·refine aT<|cY 0 Z<|fZ h λz E h=>aI (zBc Pv (BJ U i j u z E) Z (g_ [0,1] Z)) Z λL=>aD (wL Z) Z<|aB Z ?_;refine wJ (by exact rfl) (by exact rfl) (λm=>?_) (λm=>?_)
  ·have h:=Km m h;refine aK Z<|aK Z<|fX Z<|aB Z<|aK Z<|aK Z<|fX Z<|aP ?_;exact kC (true) () h SF Z
  have h:=Hm m h;refine iA Z<|aS Z (FP Z Z) Z<|fG Z<|aB Z ?_;refine Fq h Z (λ_ h=>?_) λ_ h=>?_
  ·refine aK Z<|aK Z<|fX Z<|aP ?_;exact kC (true) () h SF Z
  refine iA Z<|aS Z (Aq Z Z) Z<|fG Z<|aP ?_;exact kC (decide ((8:Int)<n)) () h SF Z
 intro q G h;refine Bf h Z (λ_ h=>?_) λ_ h=>?_
 ·refine aX<|aH Z<|aP<|aY<|aL<|cG (gZ cZ) ?_;cases h;exact jR (cJ) Z Z (RV.tmp Z) (aR.ix [0] Z Z) aE.nil
 refine dC<|aX<|aI (aN.alloc (cs:=[cJ]) Z Z) Z λd=>aP<|aX<|aD (As (cs:=[.tmp 2,.tmp 5]) (vs:=[vP b,vP d]) Z) Z<|aH Z<|aP<|aX<|aB Z<|aB Z<|cG (gZ cZ)<|fZ h λH K h=>aI (Dn (vs:=[vI (3:Int),vI (n)]) (cs:=[vP b,vP d]) (Min:=[bI d [cJ] 57,Ar cZ (cJ) ([]:wC)]) (Mr:=[bI b [i,j] 31]) Px Z (zN U b i j u d (cJ) H K) Z (aR.ix [1,0,2] Z Z) (aE.cons (aA.res 0 Z) (g_ [0,1] Z)) (λ_ _=>rfl)) Z λM=>aP<|aM<|DN (B:=Value) (λg=>xD U o n g=some r) (λg f=>[(1,vI (n)),(5,vP d),(6,Value.func (.func 73) #[] #[vP b,vP d])]) (λg f=>[bI d [f] 57,Ar cZ f g,bI b [i,j] 31]) ?_ ?_
 ·refine aX<|cA Z<|eW 2 Z<|aD (eP Z (aA.fact 1 Z) Z) Z<|aB Z<|aP<|aV<|iI (B:=Value) (sP U o n) (λa k=>[(1,vI (n)),(5,vP d),(6,Value.func (.func 73) #[] #[vP b,vP d]),(25,vI (o.2.length:Int)),(26,vI (a.1))]) (λa k=>[bI d [k] 57,Ar cZ k a.2,bI b [i,j] 31]) ((0:Int),H) (M) h SF (aR.refl _) ?_;intro I a k h;refine aX<|dM Z<|aP<|aM ?_;refine f_ h Z (λh=>?_) λh=>?_
  ·refine dC<|aM<|aV<|aX<|aB Z<|aH Z<|aP<|aT<|eW 0 Z<|aB Z ?_;refine aD (Cp (r:=Value.agg #[vI (1:Int),vI (a.1),vI (0:Int)]) Z Z (by intro w;simp[Instr.build,Instr.fill,dO,cV,cL,dQ,dR,cW,eN])) Z ?_;refine aI (cU (e:=cZ) ([(((1:Int),a.1,(0:Int)))]) [(0,Value.agg #[vI (1:Int),vI (a.1),vI (0:Int)])] Z Z Z Z (Ju (vI (1:Int)) (vI (a.1)) (vI (0:Int))) Z Z Z) Z λJ=>eB h λv h=>aI (mB 2 lA Z Z Z (cB (aA.res 0 Z) lA) Z Z Z Z v Z) Z λA=>aQ (Know.one ((cB (aA.res 2 Z) lA))) λs=>pE 1 Z Z s Z Z Z<|fH<|oV<|aT<|dK Z<|aB Z<|aP ?_;exact iN ((wI .i64 (a.1+(1:Int))),(a.2++([((1:Int),a.1,(0:Int))]))) (A) h SF (aR.ix [1,2,3] Z Z) (aE.refl _ _)
  refine gC ?_;exact kC (a.2) (k) h SF Z
 intro g f h;refine aX<|aB Z<|fZ h λt C h=>aI (Dn (vs:=[vI (2:Int),vI (1:Int)]) (cs:=[vP b,vP d]) (Min:=[bI d [f] 57,Ar cZ f g]) (Mr:=[bI b [i,j] 31]) Px Z (zN U b i j u d f t C) Z (aR.refl _) (aE.cons (aA.res 0 Z) (g_ [0,1] Z)) (λ_ _=>rfl)) Z λp=>aP<|aX<|aB Z<|aB Z<|fZ h λy D h=>aI (Dn (vs:=[vI (3:Int),vI (n)]) (cs:=[vP b,vP d]) (Min:=[bI d [p] 57,Ar cZ p t]) (Mr:=[bI b [i,j] 31]) Px Z (zN U b i j u d p y D) Z (aR.refl _) (aE.cons (aA.res 0 Z) (g_ [0,1] Z)) (λ_ _=>rfl)) Z λF=>aP<|aX<|eW 0 Z<|aH Z<|aP<|aY ?_;cases h;exact jR (F) Z Z (RV.tmp Z) (aR.ix [1] Z Z) aE.nil
end Go.Proofs.YtflciafboapaaaaGreat
namespace Go.Proofs.YtflciafboapaaaaGreat
open Go Go.Sx
theorem Wz {g:GR} {a:List zY} {c:bM} (h:Xc g c a) {v:Nat} (b:v<g.2.length):GU g a v (at' c (v:Int))=true:=Bo.2 ⟨h.row v b,λx d=>h.ok v b x d⟩
def W_ (g:GR) (a:List zY):Prop:=∀b,OK (λc=>Xc g c a) (lL 1000 g a b)
def Xd (g:GR) (a:Int) (t:Nat):wC:=(List.range g.2.length).flatMap fun(v:Nat)=>(List.range (row g v).length).flatMap fun(i:Nat)=>(List.range t).flatMap λ_=>[(a,(v:Int),(i:Int))]
def acZ (g:GR):wC:=(List.range g.2.length).flatMap fun(v:Nat)=>[((1:Int),(v:Int),(0:Int))]
theorem HD (g:GR) (a:Nat):sT g a=Xd g 3 a++(acZ g++(Xd g 2 1++Xd g 3 a)):=by
 unfold sT Qm BD Ja Ef Xd acZ;simp only[List.map_append,List.map_flatMap,zBa,List.map_nil,List.range_one,List.flatMap_cons,List.flatMap_nil,List.append_nil];rfl
theorem yY {c:Type} {f:Nat->List c} {M:Nat}:∀{n:Nat},(∀k,k<n->(f k).length<=M)->((List.range n).flatMap f).length<=n*M
 |0,_=>by simp
 |n+1,h=>by
  have a:=yY (n:=n) (f:=f) (M:=M) λk d=>h k (by omega);have b:=h n (by omega);rw[List.range_succ,List.flatMap_append,List.flatMap_singleton,zAc,Nat.succ_mul];omega
theorem SV {a:Type} (f:Nat->List a) (n:Nat):(List.range (n+1)).flatMap f=(List.range n).flatMap f++f n:=by rw[List.range_succ,List.flatMap_append,List.flatMap_singleton]
theorem EB {g B:Type} {f:Nat->List g} {n M:Nat} (c:List g) {step:Int×List g->(Int×List g->Option B)->Option B} {K:List g->Option B} (l:∀k,k<n->(f k).length<=M) (p:∀(k:Nat) d e,k<n->d.length<=c.length+n*M->step ((k:Int),d) e=e (((k+1:Nat):Int),d++f k)) (m:∀d e,d.length<=c.length+n*M->step ((n:Int),d) e=K d) (o:n<1000):bP step 1000 ((0:Int),c)=K (c++(List.range n).flatMap f):=by
 have i:∀k,k<=n->(c++(List.range k).flatMap f).length<=c.length+n*M:=λk h=>by
  have a:=yY (n:=k) (f:=f) (M:=M) λj q=>l j (by omega);have b:=zAt M h;rw[zAc];omega
 have:=dY (step:=step) (K:=K (c++(List.range n).flatMap f)) n (λk=>((k:Int),c++(List.range k).flatMap f)) (λk e h=>by rw[p k _ e h (i k (by omega)),SV,zAy]) (λe=>m _ e (i n (zAe _))) 1000 o;simpa using this
theorem Tt {g:GR} (l:VG g) (cap:Nat):∀e∈sT g cap,ON g e=true:=by
 have d:∀(b:Int) (t:Nat),1<=b->b<=4->∀e∈Xd g b t,ON g e=true:=λb t h j e a=>by
  obtain⟨v,c,a⟩:=List.mem_flatMap.1 a;obtain⟨i,f,a⟩:=List.mem_flatMap.1 a;obtain⟨k,m,a⟩:=List.mem_flatMap.1 a;have c:=zAo.1 c;have f:(i:Nat)<(at' g.2 (v:Int)).length:=zAo.1 f;rw[List.mem_singleton.1 a];exact Ma ⟨h,j⟩ (by omega) (.inr (by omega))
 intro e a;rw[HD]at a;rcases zB4.1 a with a|a
 ·exact d 3 cap (by omega) (by omega) e a
 rcases zB4.1 a with a|a
 ·obtain⟨v,c,a⟩:=List.mem_flatMap.1 a;have c:=zAo.1 c;rw[List.mem_singleton.1 a];exact Ma ⟨by decide,by decide⟩ (by omega) (.inl Z)
 rcases zB4.1 a with a|a
 ·exact d 2 1 (by omega) (by omega) e a
 ·exact d 3 cap (by omega) (by omega) e a
section
variable {g:GR} {cap:Nat}
theorem Mb (b:VG g) (a:Int) (t:Nat):(Xd g a t).length<=g.2.length*((g.2.length - 1)*t):=by
 unfold Xd;refine yY λv c=> ?_;have d:=(b.node v c).deg;refine zAx (yY (M:=t) λi e=> ?_) (zAt _ (by omega));have:=yY (f:=λ_=>[(a,(v:Int),(i:Int))]) (n:=t) (M:=1) λk h=>zAe _;omega
theorem QI (g:GR):(acZ g).length<=g.2.length:=by
 have:=yY (f:=fun(v:Nat)=>[((1:Int),(v:Int),(0:Int))]) (n:=g.2.length) (M:=1) λk a=>zAe _;unfold acZ;omega
theorem Qn (d:VG g) (cap:Nat):(sT g cap).length<=g.2.length*((g.2.length - 1)*(2*cap+1))+g.2.length:=by
 have a:=Mb d 3 cap;have b:=Mb d 2 1;have c:=QI g;rw[HD];simp only[zAc];have:g.2.length*((g.2.length - 1)*(2*cap+1))=2*(g.2.length*((g.2.length - 1)*cap))+g.2.length*((g.2.length - 1)*1):=by
  rw[Nat.mul_add,Nat.mul_add,Nat.mul_left_comm (g.2.length - 1) 2 cap,Nat.mul_left_comm g.2.length 2]
 omega
theorem HC (p:VG g) (a:Int) {t:Nat} (D:t<=8) (d:List (Int×Int×Int)) (x:d.length<=100000):iH 1000 a (t:Int) g d=some (d++Xd g a t):=by
 have z:=p.n24;have y:∀v i:Nat,((List.range t).flatMap λ_=>[(a,(v:Int),(i:Int))]).length<=8:=λv i=>by
  have:=yY (f:=λ_=>[(a,(v:Int),(i:Int))]) (n:=t) (M:=1) λk w=>zAe _;omega
 have B:∀v:Nat,v<g.2.length->((List.range (row g v).length).flatMap fun(i:Nat)=>(List.range t).flatMap λ_=>[(a,(v:Int),(i:Int))]).length<=192:=λv s=>by
  have A:=(p.node v s).deg;have:=yY (f:=fun(i:Nat)=>(List.range t).flatMap λ_=>[(a,(v:Int),((i:Nat):Int))]) (n:=(row g v).length) (M:=8) λk w=>y v k;omega
 unfold iH;refine EB (M:=192) (step:=iM 1000 a (t:Int) g) (K:=λl=>some l) (f:=fun(v:Nat)=>(List.range (row g v).length).flatMap fun(i:Nat)=>(List.range t).flatMap λ_=>[(a,(v:Int),(i:Int))]) d B (λv c m s u=> ?_) (λc m _=> ?_) (by omega)
 ·have A:=(p.node v s).deg;have e:at' g.2 (v:Int)=row g v:=rfl;unfold iM;dsimp only;rw[if_pos (by omega),dD (by omega)];refine EB (M:=8) (step:=kU 1000 a (t:Int) g ((v:Int),c) m) (K:=λl=>m (((v+1:Nat):Int),l)) (f:=fun(i:Nat)=>(List.range t).flatMap λ_=>[(a,(v:Int),(i:Int))]) c (λi _=>y v i) (λi b h C q=> ?_) (λb h _=> ?_) (by omega)
  ·unfold kU;dsimp only;rw[e,if_pos (by omega)];refine EB (M:=1) (step:=qA a (t:Int) ((v:Int),c) ((i:Int),b) h) (K:=λl=>h (((i+1:Nat):Int),l)) (f:=λ_=>[(a,(v:Int),(i:Int))]) b (λ_ _=>zAe _) (λk j o w r=> ?_) (λj o _=> ?_) (by omega)
   ·unfold qA;dsimp only;rw[if_pos (by omega),dD (by simp;omega),eI (by omega)]
   ·unfold qA tP;dsimp only;rw[if_neg (by omega),eI (by omega)]
  ·unfold kU tO;dsimp only;rw[e,if_neg (by omega),eI (by omega)]
 ·unfold iM;dsimp only;rw[if_neg (by omega)]
theorem KO (f:VG g) (c:Int) {t:Nat} (h:t<=8):(Xd g c t).length<=4608:=by
 have e:=f.n24;have a:=Mb f c t;have b:(g.2.length - 1)*t<=24*8:=Nat.mul_le_mul (by omega) h;have d:g.2.length*((g.2.length - 1)*t)<=24*(24*8):=Nat.mul_le_mul e b;omega
theorem WE (a:VG g) (o:1<=cap) (d:cap<=8):uJ 1000 g (cap:Int)=some (sT g cap):=by
 have j:=a.n24;have l:=KO a 3 d;have k:=KO a 2 (t:=1) (by omega);have m:=QI g;have h:iG 1000 (g.1,g.2)=some true:=(Ls g).1 a;unfold uJ;rw[bN h,if_neg (by decide),if_neg (by omega),zA6 (by omega)];unfold sO;rw[if_neg (by decide),bN (show iH 1000 3 (cap:Int) (g.1,g.2) []=_ from HC a 3 d [] (by simp)),List.nil_append,HD];refine(EB (M:=1) (n:=g.2.length) (step:=sP 1000 g (cap:Int)) (K:=xD 1000 g (cap:Int)) (f:=fun(v:Nat)=>[((1:Int),(v:Int),(0:Int))]) (Xd g 3 cap) (λ_ _=>zAe _) (λv b i h e=> ?_) (λb i _=> ?_) (by omega)).trans ?_
 ·unfold sP;dsimp only;rw[if_pos (by omega),dD (by simp;omega),eI (by omega)]
 ·unfold sP;dsimp only;rw[if_neg (by omega)]
 ·have c:((List.range g.2.length).flatMap fun(v:Nat)=>[((1:Int),(v:Int),(0:Int))])=acZ g:=rfl;rw[c];unfold xD;rw[bN (show iH 1000 2 1 (g.1,g.2) _=_ from HC a 2 (t:=1) (by omega) _ (by simp;omega)),bN (show iH 1000 3 (cap:Int) (g.1,g.2) _=_ from HC a 3 d _ (by simp;omega))];simp only[zAy]
end
def Ss (g:GR) (v:Nat) (c d:bM):Prop:=at' c (v:Int)=at' d (v:Int)∧∀i:Nat,i<(row g v).length->at' c (iP (row g v) i).1=at' d (iP (row g v) i).1
section
variable {p:BQ} {g:GR} {c d:List (List Int)} {v nv:Nat}
theorem Bh (h:Ss g v c d):∀(e:E) (b:Bool) (f:Int),e.wf nv b=true->Pb b (row g v).length f->e.den (VC (cX p g,c,(v:Int),[])) (row g v).length f=e.den (VC (cX p g,d,(v:Int),[])) (row g v).length f
 | .lf o a, b, f, hw, hp => by
  simp only[E.wf,zA3,zB2,zA7]at hw;obtain⟨⟨⟨n,q⟩,m⟩,r⟩:=hw;simp only[E.den];by_cases l:o=5
  ·subst l;show at' (at' c (v:Int)) a=at' (at' d (v:Int)) a;rw[h.1]
  ·by_cases j:o=12
   ·subst j;obtain⟨i,rfl,k⟩:=hp (m.resolve_right (by decide));show at' (at' c (iP (row g v) i).1) a=at' (at' d (iP (row g v) i).1) a;rw[h.2 i k]
   ·unfold VC;simp only[if_neg l,if_neg j];rfl
 | .un o x,b,f,hw,hp=>by
  simp only[E.wf,zA3]at hw;simp only[E.den];rw[Bh h x b f hw.2 hp]
 | .ag o x,b,f,hw,hp=>by
  simp only[E.wf,zA3]at hw;simp only[E.den];congr 1;refine List.map_congr_left λi k=> ?_;exact Bh h x true i hw.2 λ_=>⟨i,rfl,zAo.1 k⟩
 | .bi o x y,b,f,hw,hp=>by
  simp only[E.wf,zA3]at hw;simp only[E.den];rw[Bh h x b f hw.1.2 hp,Bh h y b f hw.2 hp]
 | .ite x y z,b,f,hw,hp=>by
  simp only[E.wf,zA3]at hw;simp only[E.den];rw[Bh h x b f hw.1.1 hp,Bh h y b f hw.1.2 hp,Bh h z b f hw.2 hp]
theorem KN (h:Ss g v c d) {e:E} (a:DD nv e=true):DC (cX p g) c v e=DC (cX p g) d v e:=by
 simp only[DD,zA3]at a;exact Bh h e false (-1) a.1.1 λb=>by cases b
theorem Wk {R:List RL} (a:kG nv R=true) {r:RL} (b:r∈R):DD nv r.1=true∧∀s∈r.2,DD nv s.2=true:=by
 simp only[kG,zA3,zA5,zA7]at a;have:=a.2 r b;exact⟨this.1.1,λs e=>(this.2 s e).2⟩
theorem YI {R:List RL} {a:List zY} (n:kG nv R=true) (h:Ss g v c d):ID (cX p g) a R c v=ID (cX p g) a R d v:=by
 have e:qD (cX p g) R c v=qD (cX p g) R d v:=by
  unfold qD;exact congrArg BC (List.map_congr_left λr t=>KN h (Wk n t).1)
 unfold ID;rw[e,h.1];by_cases b:0<=qD (cX p g) R d v
 ·rw[if_pos b,if_pos b];obtain⟨i,q,f,_⟩:=(Gn (cX p g) R d v).resolve_left (λe=>by omega);unfold H_;rw[q,h.1];have k:∀(l:List (Nat×E)) (m:List Int),(∀s∈l,DD nv s.2=true)->l.foldl (Ij (cX p g) a c v) m=l.foldl (Ij (cX p g) a d v) m:=by
   intro l
   induction l with
   |nil=>intros;rfl
   |cons s l u=>
    intro m o;rw[List.foldl_cons,List.foldl_cons,u _ λs j=>o s (zAj _ j)];unfold Ij;rw[KN h (o s (zAb ..))]
  exact k _ _ λs j=>((II n f).2.2 s j).2
 ·rw[if_neg b,if_neg b]
end
section
variable {g:GR} {nx:List (List Int)->Nat->List Int} {cap:Nat} {y:wK} {v:Nat}
theorem WZ (hV:VG g) (h:SH g y) (hv:v<g.2.length) {j:Nat}:∀i,i<=(row g v).length->j<i->at' (Tz g y v i) (oY g v j:Int)=mG y.2.1 v j
 |0,_,hj=>absurd hj (Nat.not_lt_zero _)
 | i + 1, hi, hj => by
  have hu:=tU hV hv (show i<(row g v).length by omega);show at' ((Tz g y v i).set (oY g v i) _) (oY g v j:Int)=_;rw[wM _ _ _ _ (by rw[CV,h.c];exact hu.ul)];by_cases e:oY g v j=oY g v i
  ·rw[if_pos e,RI hV hv (by omega) (by omega) e]
  ·rw[if_neg e];have:j≠i:=λq=>e (by rw[q]);exact WZ hV h hv i (by omega) (by omega)
theorem Vt (c:VG g) (d:∀v i,v<g.2.length->i<(row g v).length->mG y.2.2 v i=[]):(BD g cap).foldl (lM g nx cap) y=y:=by
 refine oS (lM g nx cap) (λv=>(List.range (row g v).length).flatMap λi=>(List.range cap).flatMap λ_=>[(3,v,i)]) (λ_ z=>z=y) g.2.length (λv z f a=> ?_) y Z;refine oS (lM g nx cap) (λi=>(List.range cap).flatMap λ_=>[(3,v,i)]) (λ_ z=>z=y) (row g v).length (λi z e a=> ?_) z a;refine oS (lM g nx cap) (λ_=>[(3,v,i)]) (λ_ z=>z=y) cap (λt z h a=> ?_) z a;subst a;have b:=tU c f e;rw[List.foldl_cons,List.foldl_nil];show vY g true z v i=z;unfold vY;rw[d _ _ b.ul b.bl]
theorem Sy (hV:VG g) (h:SH g y) (hc:OQ g y) (hn:∀c d v,v<g.2.length->Ss g v c d->nx c v=nx d v):SH g ((Ja g).foldl (lM g nx cap) y)∧((Ja g).foldl (lM g nx cap) y).2=y.2∧∀x,x<g.2.length->at' ((Ja g).foldl (lM g nx cap) y).1 (x:Int)=nx y.1 x:=by
 obtain⟨a,b,d⟩:=oS (lM g nx cap) (λv=>[(1,v,0)]) (λv z=>SH g z∧z.2=y.2∧∀x,x<g.2.length->at' z.1 (x:Int)=if x<v then nx y.1 x else at' y.1 (x:Int)) g.2.length (λv z hv ⟨hz,he,hx⟩=>by
  have e:lM g nx cap z (1,v,0)=Nt g nx z v:=rfl;rw[List.foldl_cons,List.foldl_nil,e];refine⟨Uj hz,he,λx hxn=> ?_⟩
  rw[Zr hz hv];by_cases q:x=v
  ·rw[if_pos q,if_pos (by omega),q];refine hn _ _ v hv ⟨?_,λi hi=> ?_⟩
   ·unfold vw;rw[MR hV hz hv _ (zAe _),hx v hv,if_neg (by omega)]
   ·unfold vw;rw[yG hV hv hi,WZ hV hz hv _ (zAe _) hi,he];exact hc.a v i hv hi
  ·rw[if_neg q,hx x hxn];by_cases z:x<v
   ·rw[if_pos z,if_pos (by omega)]
   ·rw[if_neg z,if_neg (by omega)]) y ⟨h,rfl,λx hx=>by rw[if_neg (by omega)]⟩
 exact⟨a,b,λx hx=>by rw[show at' ((Ja g).foldl (lM g nx cap) y).1 (x:Int)=_ from d x hx,if_pos hx]⟩
theorem Qo (f:VG g) (h:SH g y) (j:OQ g y) (e:1<=cap) (o:∀c d v,v<g.2.length->Ss g v c d->nx c v=nx d v):SH g (perfs g nx cap y (sT g cap))∧OQ g (perfs g nx cap y (sT g cap))∧∀x,x<g.2.length->at' (perfs g nx cap y (sT g cap)).1 (x:Int)=nx y.1 x:=by
 unfold sT Qm;rw[YM,List.foldl_append,List.foldl_append,Vt f j.w];obtain⟨k,l,m⟩:=Sy (cap:=cap) f h j o;generalize (Ja g).foldl (lM g nx cap) y=y2 at k l m;obtain⟨a,b,_,d⟩:=YQ (nx:=nx) (cap:=cap) (P':=λ_ _=>True) f k (λv i p n=>by rw[l];exact j.w v i p n) (λ_ _=>trivial) e;exact⟨a,d,λx q=>by rw[b];exact m x q⟩
end
end Go.Proofs.YtflciafboapaaaaGreat
namespace Go.Proofs.YtflciafboapaaaaGreat
open Go.Sx
def tB (U:Nat)  : Option (ByteArray):=
 some (ByteArray.mk #[112,114,111,103,114,97,109,32,99,111,108,111,117,114,105,110,103,59,10,118,97,114,32,99,32,58,32,48,32,46,46,32,110,59,10,114,117,108,101,32,102,105,120,58,32,115,111,109,101,40,113,46,99,32,61,61,32,99,41,32,45,62,32,99,32,58,61,32,109,101,120,40,113,46,99,41,59,10])
theorem aai:bB Tryz.prog 25:=Tryz.call25
theorem HE (U:Nat)  (r:ByteArray) (h:tB U  = some r):
  bO Tryz.prog 25 #[] [] (λx:Unit=>vS (r)) (λx l=>l) (λ_ l=>l):=by
 refine bO.of Tryz.func25 Z Tryz.ntmps25 Z λc=>?_;unfold tB at h;refine aX<|aH Z<|aP<|aX<|aH Z<|aP<|aY ?_;cases h;exact mN Z
def zK (U:Nat) (b:jX) (d:dL) (e:bM) (a:Fb):Option (Int):=
 Option.bind (fW U ((((b.1,b.2.1,b.2.2)),((((b.1,b.2.1,b.2.2)),((d.1,d.2)),a.2.1,a.2.2)),a.1)) e) λc=>(some (c))
def vA (U:Nat) (b:jX) (c:dL) (e:bM) (a:xQ):Option (Int):=
 Option.bind (fL U ((b.1,b.2.1,b.2.2)) ((c.1,c.2))) λd=>(zK U b c e (d,a.1,a.2))
def nW (U:Nat) (b:jX) (c:dL) (d:bM) (a:xQ):Option (Int):=
 vA U b c d (a.1,a.2)
def zL (d:dL) (a:GK) (b:Cf->Option (Int)) (c:bM):Option (Int):=
 b ((wI .i64 (a.1+(1:Int))),(max a.2.1 (at' d.1 a.1)),c)
def zM (U:Nat) (d:dL) (a:GK) (e:Cf->Option (Int)) (b:xQ) (f:Ei->Option (Int)):Option (Int):=
 if b.1<((at' d.2 a.1).length:Int)then(ck (0<=b.1∧b.1<((at' d.2 a.1).length:Int)) (ck (0<=a.1∧a.1<(b.2.length:Int)) (Option.bind (iY U ((d.1,d.2)) ((at' (at' d.2 a.1) b.1).1) a.1) λc=>(ck (((at' b.2 a.1).length:Int)+(List.length ([c]):Int)<=1099511627) (ck (0<=a.1∧a.1<((List.set b.2 (Int.toNat a.1) ((at' b.2 a.1)++[c])).length:Int)) (f ((wI .i64 (b.1+(1:Int))),(List.set b.2 (Int.toNat a.1) ((at' b.2 a.1)++[c])))))))))else(zL d a e (b.2))
def nX (U:Nat) (d:jX) (c:dL) (e:bM) (a:GK) (b:Cf->Option (Int)):Option (Int):=
 if a.1<(c.2.length:Int)then(ck (0<=a.1∧a.1<(c.2.length:Int)) (ck (0<=a.1∧a.1<(c.1.length:Int)) (bP (zM U c a b) U ((0:Int),a.2.2))))else(nW U d c e (a.2.1,a.2.2))
def sI (U:Nat) (b:jX) (a:dL) (c:bM):Option (Int):=
 Option.bind (jW U ((b.1,b.2.1,b.2.2)) ((a.1,a.2)) c) λd=>(if(!d)=true then(some (0:Int))else(ck (0<=(a.2.length:Int)∧(a.2.length:Int)<=1099511627) (bP (nX U b a c) U ((0:Int),(0:Int),(List.replicate (Int.toNat (a.2.length:Int)) ([]:bT))))))
theorem aam:bB Tryz.prog 37:=Tryz.call37
theorem JW (U:Nat) {d:jX} {u:dL} {Q:bM} (g:Value)  (m:Value)  (q:Value)  (o:Value)  (R:iZ)  (X:Value)  (z6:jY) (r:Int) (h:sI U d u Q=some r):
  bO Tryz.prog 37 #[Value.agg #[vS (d.1),g,m],Value.agg #[q,o],X] [Sl aG g d.2.1,Sl aC m d.2.2,PF (Value.agg #[vS d.1,g,m]),Sl aJ q u.1,S2 aW o R u.2,S2 aJ X z6 Q] (λx:Unit=>vU (r)) (λx l=>l) (λ_ l=>l):=by
 let T:=(nX U d u Q)
 let aj:=PF (Value.agg #[vS d.1,g,m]);let P:=(u.2.length:Int)
 let V:=(Int.toNat P)
 refine bO.of Tryz.func37 Z Tryz.ntmps37 Z λc=>?_;refine aX<|aI (aN.box (cs:=[vS (d.1),g,m]) Z Z) Z λb1=>aI (aN.box (cs:=[q,o]) Z Z) Z λb2=>aH Z<|aP<|aM<|aX<|cY 1 Z<|cY 0 Z<|aB Z<|fZ h λr3 w4 h=>aI (zBc Uv (Ed U g m q o R X z6 r3 w4) Z (g_ [0,1,2,3,4,5] Z)) Z λx5=>aD (wL Z) Z<|aP ?_;refine Bf h Z (λ_ h=>?_) λ_ h=>?_
 ·refine aX<|aH Z<|aP<|aY<|aL ?_;cases h;exact zJ Z
 refine dC<|aX<|cY 1 Z<|cY 0 Z<|vJ (A:=Fb) (B:=WI) (vs:=[Value.agg #[vS (d.1),g,m],Value.agg #[q,o]]) (λs=>zK U d u Q s=some r) (λs b=>vP b.1) (λs b=>[bI b.1 [vS (d.1),g,m,vP b.2.1,b.2.2.1] 157,Ar aZ.raw b.2.2.1 b.2.2.2.1,eH bD b.2.2.2.1 s.1,bI b.2.1 [vS (d.1),g,m,q,o,vI (s.2.1),b.2.2.2.2.1] 206,Ar aZ.raw b.2.2.2.2.1 b.2.2.2.2.2,eH eC b.2.2.2.2.2 s.2.2]) (λs b=>[Sl aG g d.2.1,Sl aC m d.2.2,aj,Sl aJ q u.1,S2 aW o R u.2,S2 aJ X z6 Q]) (mO.fn (show bB Tryz.prog 78 from Tryz.call78) Z) Tryz.func78 Z Tryz.ntmps78 Z Z ?_ ?_
 ·refine aX<|aI (aN.box (cs:=[vS (d.1),g,m]) Z Z) Z λan=>let I:=bI an [vS (d.1),g,m] 36;aI (aN.box (cs:=[q,o]) Z Z) Z λao=>let J:=bI ao [q,o] 31;aH Z<|aP<|aM ?_
  refine JR.start [0,0,0,6,0,0,62,127,255,511] 7 mixedOrders (by decide +kernel) ?_;refine zBf (by exact rfl) ?_;refine gE 1 Z<|gE 1 Z<|gE 0 Z<|Ci (A:=xQ) (B:=Nat×Value×List Value) (vs:=[Value.agg #[vS (d.1),g,m],Value.agg #[q,o]]) (λt=>vA U d u Q t=some r) (λt f=>vP f.1) (λt f=>[bI f.1 [vS (d.1),g,m,q,o,vI (t.1),f.2.1] 206,Ar aZ.raw f.2.1 f.2.2,eH eC f.2.2 t.2,J,I]) (λt f=>[Sl aG g d.2.1,Sl aC m d.2.2,aj,Sl aJ q u.1,S2 aW o R u.2,S2 aJ X z6 Q]) Z Z Z (mO.fn (show bB Tryz.prog 120 from Tryz.call120) Z) Tryz.func120 Z Tryz.ntmps120 Z Z (λ_ _=>(nL [([4],[])] Z)) ?_ ?_
  ·refine aX<|aI (aN.box (cs:=[vS (d.1),g,m]) Z Z) Z λaF=>aI (aN.box (cs:=[q,o]) Z Z) Z λM=>let S:=bI M [q,o] 31;aH Z<|aP<|aM ?_
   refine JR.start [0,0,0,4,12,28,63,127,255] 6 mixedOrders (by decide +kernel) ?_;refine zBf (by exact rfl) ?_;refine gE 1 Z<|gE 0 Z<|cD Z<|fI 0 Z<|bQ Z .nil (mK 4 Z) (eP Z (aA.fact 0 Z) Z) aO.z<|eB h λaq h=>zBg (lC eC V)<|zBd Z Z Z (jD (e:=aZ.raw) (cJ) Z Z Z Z aq Z Z Z) Z (λp=>(nL [([2],[]),([3],[])] Z)) λp=>bS 6 Z Z<|aQ (Know.one (aA.sl (bZ (i:=0) (j:=1) Z Z fO))) λad=>?_;refine aD (Cq (r:=Value.agg #[vS (d.1),g,m,q,o,vI (0:Int),p]) Z Z Z (by intro w;simp[Instr.build,Instr.fill,dO,cV,cL,dQ,dR,cW,eN,dG ad])) Z ?_;refine aI (aN.box (cs:=[vS (d.1),g,m,q,o,vI (0:Int),p]) Z Z) Z λy=>aH Z<|aP<|aM<|DN (B:=cR) (λv=>nW U d u Q v=some r) (λv G=>[(5,vP y)]) (λv G=>[bI y [vS (d.1),g,m,q,o,vI (v.1),p] 206,Ar aZ.raw p G,eH eC G v.2,J,I]) ?_ ?_
   ·refine aX<|cA Z<|eW 3 Z<|aD (eP Z (aA.fact 4 Z) Z) Z<|aB Z<|aP<|aV<|iI (B:=cR) T (λa E=>[(3,vP M),(5,vP y),(19,o),(20,vI P),(21,vI (a.1))]) (λa E=>[bI y [vS (d.1),g,m,q,o,vI (a.2.1),p] 206,Ar aZ.raw p E,eH eC E a.2.2,S,J,I]) ((0:Int),(0:Int),(List.replicate V ([]:bT))) (List.replicate V (cJ)) h SF (aR.ix [0,1,2,3,5,6] Z Z) ?_;intro ah a E h;let W:=(at' u.2 a.1)
    let ak:=(max a.2.1 (at' u.1 a.1))
    let ai:=bI y [vS (d.1),g,m,q,o,vI ak,p] 206;refine aX<|dM Z<|aP<|aM ?_;refine f_ h Z (λh=>?_) λh=>?_
    ·refine dC<|aM<|DN (B:=cR) (λD=>zL u a (bP T ah) D=some r) (λD H=>[(3,vP M),(5,vP y),(19,o),(20,vI P),(21,vI (a.1))]) (λD H=>[ai,Ar aZ.raw p H,eH eC H D,S,J,I]) ?_ ?_
     ·refine aV<|aX<|aB Z<|eB h λC h=>aD (bV Z Z (aA.fact 4 Z) Z Z C) Z<|aD (cM Z (aA.fact 4 Z) Z Z C) Z<|aH Z<|aH Z<|aP<|aM ?_;refine JR.start [0,0,2,6,14,0,32,0,224,480,1022,2047,4095,8191] 11 mixedOrders (by decide +kernel) ?_;refine zBf (by exact rfl) ?_;refine a_ Z<|a_ Z<|i_ Z (bE Z)<|cD Z<|fI 0 Z<|cD Z<|fI 3 Z<|a_ Z<|eB h λaf h=>bQ Z .nil (mK 3 Z) (b_ Z Z (aA.fact 0 Z) Z Z af) aO.z<|bQ Z .nil (mK 3 Z) (dJ Z (aA.fact 0 Z) Z Z Z gX af) aO.z<|i_ Z (I_ Z Z)<|bS 11 Z Z<|aD (bE Z) Z<|cA Z<|pE 0 Z Z Z Z Z Z<|aP<|aX<|aB Z<|aD (gY Z (zBe (aA.fact 4 Z) C.1 C.2) Z) Z<|aB Z<|aP<|aV<|iI (B:=cR) (zM U u a (bP T ah)) (λn F=>[(3,vP M),(5,vP y),(6,vI (a.1)),(19,o),(20,vI P),(21,vI (a.1)),(39,(at' R a.1).1),(40,vI (W.length:Int)),(41,vI (n.1))]) (λn F=>[ai,Ar aZ.raw p F,eH eC F n.2,S,J,I]) ((0:Int),a.2.2) (E) h SF (aR.refl _) ?_;intro aS n F h;refine aX<|dM Z<|aP<|aM ?_;refine f_ h Z (λh=>?_) λh=>?_
      ·refine dC<|aM<|aV<|aX<|eB h λag h=>aD (b_ Z Z (zBe (aA.fact 4 Z) C.1 C.2) Z Z ag) Z<|aD (fN (cs:=[vI ((at' W n.1).1),vI ((at' W n.1).2)]) Z (zBe (aA.fact 4 Z) C.1 C.2) bG Z Z Z Z ag) Z<|aI (aN.alloc (cs:=MV) Z Z) Z λaK=>bL 0 (vs:=[vI ((at' (at' u.2 a.1) n.1).1),vI ((at' (at' u.2 a.1) n.1).2)]) Z Z Z Z Z Z<|aP ?_;refine JR.start [0,1,3,7,0,0,32,96,224,0,992,2016,0,0,8192,0,61440,126976,262112,524287,1048575] 19 mixedOrders (by decide +kernel) ?_;refine zBf (by exact rfl) ?_;refine a_ Z<|i_ Z (bE Z)<|cD Z<|fI 1 Z<|a_ Z<|a_ Z<|i_ Z (bE Z)<|cD Z<|fI 1 Z<|a_ Z<|eB h λN h=>aU (cH 3 Z) λY=>?_;refine bQ Z (aR.cons 2 Z .nil) .nil (iO 0 Z Z Z Z Z N.1 (by have q1:=N.2;have q2:=Y;(try simp only[zA1]at q1);(try simp only[zA1]at q2⊢);omega)) aO.z ?_;refine aU (cH 3 Z) λaa=>bQ Z (aR.cons 2 Z .nil) .nil (eR 0 Z Z aa Z Z N) aO.z<|gE 4 Z<|cD Z<|fI 0 Z<|a_ Z<|fZ h λK ay h=>zBd Z Z Z (zBc Iu (xL U q o R K ay) Z (g_ [3,4] Z)) Z (λaz=>(nL [([2],[]),([2],[]),([1],[]),([1],[])] Z)) λaz=>zBd Z Z Z (cU (e:=eC) ([K]) [(0,vI (K))] Z Z Z Z (uF (vI (K)) Z) Z Z Z) Z (λav=>(nL [([3],[]),([3],[]),([2],[]),([2],[])] Z)) λav=>eB h λar h=>zBd Z Z Z (lV 4 fO Z Z Z (cB (aA.res 0 Z) fO) Z Z Z Z N ar Z) Z (λam=>(nL [([2],[])] Z)) λam=>bS 19 Z Z<|eB h λO h=>aQ (cH 4 Z) λab=>?_;refine aD (iO 3 Z Z Z Z Z O.1 (by have q1:=O.2;have q2:=ab;(try simp only[zA1]at q1);(try simp only[zA1]at q2⊢);omega)) Z ?_;refine aQ (vR 4 (k:=a.1) Z O) λae=>?_;refine mP 3 4 O Z Z Z Z Z (by simp) ae Z ?_;refine fH<|oV<|aT<|dK Z<|aB Z<|aP ?_;exact iN ((wI .i64 (n.1+(1:Int))),(List.set n.2 (Int.toNat a.1) ((at' n.2 a.1)++[K]))) (List.set F (Int.toNat a.1) am) h SF (aR.ix [2,3,4,5,6,7] Z Z) (aE.refl _ _)
      refine vH<|gR<|gR<|Am<|oV ?_;exact kC (n.2) (F) h SF Z
     intro D H h;unfold zL at h;refine aT<|dK Z<|aB Z<|aP ?_;exact Bw ((wI .i64 (a.1+(1:Int))),ak,D) (H) h SF Z
    refine gC ?_;exact cK (a.2.1,a.2.2) (E) h SF (aR.ix [0,1,2,4,5] Z Z) (aE.refl _ _)
   intro v G h;unfold nW at h;refine aX<|aB Z<|aH Z<|aP<|aY ?_;exact iK (v.1,v.2) (y,p,G) h (.inl Z) (BR.r1 Z (RV.tmp Z)) Z (aR.refl _) (aE.refl _ _)
  intro t f h;unfold vA at h;refine bQ Z (aR.cons 4 Z .nil) .nil (dX 0 Z Z Z Z) (aO.h (aR.ix [1] Z Z) .nil aO.z)<|bQ Z (aR.cons 3 Z .nil) .nil (dX 0 Z Z Z Z) (aO.h (aR.ix [0] Z Z) .nil aO.z)<|fZ h λal ax h=>zBd Z Z Z (zBc Je (sU U g m q o R al ax) Z (g_ [0,1,2,3,4] Z)) Z (λL=>(nL [([6],[])] Z)) λL=>bS 7 Z Z<|aQ (Know.one (aA.sl (bZ (i:=0) (j:=1) Z Z bG))) λac=>?_;refine aD (Cq (r:=Value.agg #[vS (d.1),g,m,Value.pointer (some ⟨f.1,0,none⟩),L.1]) Z Z Z (by intro w;simp[Instr.build,Instr.fill,dO,cV,cL,dQ,dR,cW,eN,dG ac])) Z ?_;refine aI (aN.box (cs:=[vS (d.1),g,m,vP f.1,L.1]) Z Z) Z λap=>aH Z<|aP<|aY ?_;exact iK (al,t.1,t.2) (ap,f.1,L.1,L.2,f.2.1,f.2.2) h (.inl Z) (BR.r1 Z (RV.tmp Z)) Z (aR.ix [0,1,2,3,4,5] Z Z) (aE.refl _ _)
 intro s b h;refine aB Z<|fZ h λau aw h=>aI (zBc UB (wA U b.1 g m b.2.1 g m q o R b.2.2.2.2.1 (List.zip b.2.2.2.2.2 s.2.2) b.2.2.1 (List.zip b.2.2.2.1 s.1) X z6 au aw) Z (aE.cons (aA.res 0 Z) (aE.cons (aA.fact 0 Z) (aE.cons (aA.fact 1 Z) (aE.cons (aA.res 3 Z) (aE.cons (aA.fact 0 Z) (aE.cons (aA.fact 1 Z) (aE.cons (aA.fact 3 Z) (aE.cons (aA.fact 4 Z) (aE.cons (bZ (i:=4) (j:=5) Z Z fO) (aE.cons (bZ (i:=1) (j:=2) Z Z bG) (g_ [5] Z)))))))))))) Z λa0=>aH Z<|aP<|aY ?_;cases h;exact zJ Z
def Af (U:Nat) (b:jX) (e:dL) (f:bM) (g:Int) (a:Fb) (c:Bool):Option AU:=
 if c=true then(some (([]:bM),(11:Int)))else(Option.bind (lK U ((((b.1,b.2.1,b.2.2)),((((b.1,b.2.1,b.2.2)),((e.1,e.2)),a.2.1,a.2.2)),a.1)) f g) λd=>(some (d,(0:Int))))
def CO (U:Nat) (b:jX) (c:dL) (e:bM) (d:Int) (a:Fb):Option AU:=
 if d=(0:Int)then(Af U b c e d a (true))else(Option.bind (fW U ((((b.1,b.2.1,b.2.2)),((((b.1,b.2.1,b.2.2)),((c.1,c.2)),a.2.1,a.2.2)),a.1)) e) λf=>(Af U b c e d a (decide ((FQ .u32 d f)≠(0:Int)))))
def Ag (U:Nat) (b:jX) (c:dL) (e:bM) (f:Int) (a:xQ):Option AU:=
 Option.bind (fL U ((b.1,b.2.1,b.2.2)) ((c.1,c.2))) λd=>(CO U b c e f (d,a.1,a.2))
def tQ (U:Nat) (b:jX) (c:dL) (d:bM) (e:Int) (a:xQ):Option AU:=
 Ag U b c d e (a.1,a.2)
def CP (d:dL) (a:GK) (b:Cf->Option AU) (c:bM):Option AU:=
 b ((wI .i64 (a.1+(1:Int))),(max a.2.1 (at' d.1 a.1)),c)
def CQ (U:Nat) (d:dL) (a:GK) (e:Cf->Option AU) (b:xQ) (f:Ei->Option AU):Option AU:=
 if b.1<((at' d.2 a.1).length:Int)then(ck (0<=b.1∧b.1<((at' d.2 a.1).length:Int)) (ck (0<=a.1∧a.1<(b.2.length:Int)) (Option.bind (iY U ((d.1,d.2)) ((at' (at' d.2 a.1) b.1).1) a.1) λc=>(ck (((at' b.2 a.1).length:Int)+(List.length ([c]):Int)<=1099511627) (ck (0<=a.1∧a.1<((List.set b.2 (Int.toNat a.1) ((at' b.2 a.1)++[c])).length:Int)) (f ((wI .i64 (b.1+(1:Int))),(List.set b.2 (Int.toNat a.1) ((at' b.2 a.1)++[c])))))))))else(CP d a e (b.2))
def tR (U:Nat) (d:jX) (c:dL) (e:bM) (f:Int) (a:GK) (b:Cf->Option AU):Option AU:=
 if a.1<(c.2.length:Int)then(ck (0<=a.1∧a.1<(c.2.length:Int)) (ck (0<=a.1∧a.1<(c.1.length:Int)) (bP (CQ U c a b) U ((0:Int),a.2.2))))else(tQ U d c e f (a.2.1,a.2.2))
def yZ (U:Nat) (b:jX) (a:dL) (c:bM) (e:Int):Option AU:=
 Option.bind (fC U ((b.1,b.2.1,b.2.2)) ((a.1,a.2)) c) λd=>(if d≠(0:Int)then(some (([]:bM),d))else(ck (0<=(a.2.length:Int)∧(a.2.length:Int)<=1099511627) (bP (tR U b a c e) U ((0:Int),(0:Int),(List.replicate (Int.toNat (a.2.length:Int)) ([]:bT))))))
theorem aan:bB Tryz.prog 39:=Tryz.call39
theorem Oq (U:Nat) {f:jX} {u:dL} {R:bM} {S:Int} (g:Value)  (m:Value)  (s:Value)  (o:Value)  (V:iZ)  (W:Value)  (z6:jY) (r:bM×Int) (h:yZ U f u R S=some r):
  bO Tryz.prog 39 #[Value.agg #[vS (f.1),g,m],Value.agg #[s,o],W,vU (S)] [Sl aG g f.2.1,Sl aC m f.2.2,PF (Value.agg #[vS f.1,g,m]),Sl aJ s u.1,S2 aW o V u.2,S2 aJ W z6 R] (λx:Fa=>Value.tuple #[x.1,vI (r.2)]) (λx l=>Ar aZ.raw x.1 x.2::eH eC x.2 r.1::l) (λ_ l=>l):=by
 let am:=PF (Value.agg #[vS f.1,g,m]);let X:=(tR U f u R S)
 let T:=(u.2.length:Int)
 let aa:=(Int.toNat T)
 refine bO.of Tryz.func39 Z Tryz.ntmps39 Z λc=>?_;refine aX<|aI (aN.box (cs:=[vS (f.1),g,m]) Z Z) Z λb1=>aI (aN.box (cs:=[s,o]) Z Z) Z λb2=>aH Z<|aH Z<|aP<|aM<|aX<|cY 1 Z<|cY 0 Z<|aB Z<|fZ h λr3 w4 h=>aI (zBc LV (xM U g m s o V W z6 r3 w4) Z (g_ [0,1,2,3,4,5] Z)) Z λx5=>aH Z<|aP<|aX<|aB Z<|oM Z<|aP ?_;refine f_ h Z (λh=>?_) λh=>?_
 ·refine aX<|aB Z<|aH Z<|aH Z<|aP<|aY<|aL<|cG (gZ aZ.raw) (cG (mF eC) ?_);cases h;exact kH ((cJ),([]:cR)) Z Z (RV.tmp Z) (RV.tmp Z) (aR.ix [1,0] Z Z) aE.nil
 refine dC<|aX<|cY 1 Z<|cY 0 Z<|vJ (A:=Fb) (B:=WI) (vs:=[Value.agg #[vS (f.1),g,m],Value.agg #[s,o]]) (λd=>CO U f u R S d=some r) (λd a=>vP a.1) (λd a=>[bI a.1 [vS (f.1),g,m,vP a.2.1,a.2.2.1] 157,Ar aZ.raw a.2.2.1 a.2.2.2.1,eH bD a.2.2.2.1 d.1,bI a.2.1 [vS (f.1),g,m,s,o,vI (d.2.1),a.2.2.2.2.1] 206,Ar aZ.raw a.2.2.2.2.1 a.2.2.2.2.2,eH eC a.2.2.2.2.2 d.2.2]) (λd a=>[Sl aG g f.2.1,Sl aC m f.2.2,am,Sl aJ s u.1,S2 aW o V u.2,S2 aJ W z6 R]) (mO.fn (show bB Tryz.prog 78 from Tryz.call78) Z) Tryz.func78 Z Tryz.ntmps78 Z Z ?_ ?_
 ·refine aX<|aI (aN.box (cs:=[vS (f.1),g,m]) Z Z) Z λau=>let K:=bI au [vS (f.1),g,m] 36;aI (aN.box (cs:=[s,o]) Z Z) Z λav=>let L:=bI av [s,o] 31;aH Z<|aP<|aM ?_
  refine JR.start [0,0,0,6,0,0,62,127,255,511] 7 mixedOrders (by decide +kernel) ?_;refine zBf (by exact rfl) ?_;refine gE 1 Z<|gE 1 Z<|gE 0 Z<|Ci (A:=xQ) (B:=Nat×Value×List Value) (vs:=[Value.agg #[vS (f.1),g,m],Value.agg #[s,o]]) (λv=>Ag U f u R S v=some r) (λv n=>vP n.1) (λv n=>[bI n.1 [vS (f.1),g,m,s,o,vI (v.1),n.2.1] 206,Ar aZ.raw n.2.1 n.2.2,eH eC n.2.2 v.2,L,K]) (λv n=>[Sl aG g f.2.1,Sl aC m f.2.2,am,Sl aJ s u.1,S2 aW o V u.2,S2 aJ W z6 R]) Z Z Z (mO.fn (show bB Tryz.prog 120 from Tryz.call120) Z) Tryz.func120 Z Tryz.ntmps120 Z Z (λ_ _=>(nL [([4],[])] Z)) ?_ ?_
  ·refine aX<|aI (aN.box (cs:=[vS (f.1),g,m]) Z Z) Z λa5=>aI (aN.box (cs:=[s,o]) Z Z) Z λO=>let Y:=bI O [s,o] 31;aH Z<|aP<|aM ?_
   refine JR.start [0,0,0,4,12,28,63,127,255] 6 mixedOrders (by decide +kernel) ?_;refine zBf (by exact rfl) ?_;refine gE 1 Z<|gE 0 Z<|cD Z<|fI 0 Z<|bQ Z .nil (mK 4 Z) (eP Z (aA.fact 0 Z) Z) aO.z<|eB h λax h=>zBg (lC eC aa)<|zBd Z Z Z (jD (e:=aZ.raw) (cJ) Z Z Z Z ax Z Z Z) Z (λt=>(nL [([2],[]),([3],[])] Z)) λt=>bS 6 Z Z<|aQ (Know.one (aA.sl (bZ (i:=0) (j:=1) Z Z fO))) λag=>?_;refine aD (Cq (r:=Value.agg #[vS (f.1),g,m,s,o,vI (0:Int),t]) Z Z Z (by intro w;simp[Instr.build,Instr.fill,dO,cV,cL,dQ,dR,cW,eN,dG ag])) Z ?_;refine aI (aN.box (cs:=[vS (f.1),g,m,s,o,vI (0:Int),t]) Z Z) Z λC=>aH Z<|aP<|aM<|DN (B:=cR) (λy=>tQ U f u R S y=some r) (λy I=>[(5,vP C)]) (λy I=>[bI C [vS (f.1),g,m,s,o,vI (y.1),t] 206,Ar aZ.raw t I,eH eC I y.2,L,K]) ?_ ?_
   ·refine aX<|cA Z<|eW 3 Z<|aD (eP Z (aA.fact 4 Z) Z) Z<|aB Z<|aP<|aV<|iI (B:=cR) X (λb F=>[(3,vP O),(5,vP C),(19,o),(20,vI T),(21,vI (b.1))]) (λb F=>[bI C [vS (f.1),g,m,s,o,vI (b.2.1),t] 206,Ar aZ.raw t F,eH eC F b.2.2,Y,L,K]) ((0:Int),(0:Int),(List.replicate aa ([]:bT))) (List.replicate aa (cJ)) h SF (aR.ix [0,1,2,3,5,6] Z Z) ?_;intro ak b F h;let an:=(max b.2.1 (at' u.1 b.1))
    let al:=bI C [vS (f.1),g,m,s,o,vI an,t] 206;refine aX<|dM Z<|aP<|aM ?_;refine f_ h Z (λh=>?_) λh=>?_
    ·refine dC<|aM<|DN (B:=cR) (λE=>CP u b (bP X ak) E=some r) (λE J=>[(3,vP O),(5,vP C),(19,o),(20,vI T),(21,vI (b.1))]) (λE J=>[al,Ar aZ.raw t J,eH eC J E,Y,L,K]) ?_ ?_
     ·refine aV<|aX<|aB Z<|eB h λD h=>aD (bV Z Z (aA.fact 4 Z) Z Z D) Z<|aD (cM Z (aA.fact 4 Z) Z Z D) Z<|aH Z<|aH Z<|aP<|aM ?_;refine JR.start [0,0,2,6,14,0,32,0,224,480,1022,2047,4095,8191] 11 mixedOrders (by decide +kernel) ?_;refine zBf (by exact rfl) ?_;refine a_ Z<|a_ Z<|i_ Z (bE Z)<|cD Z<|fI 0 Z<|cD Z<|fI 3 Z<|a_ Z<|eB h λai h=>bQ Z .nil (mK 3 Z) (b_ Z Z (aA.fact 0 Z) Z Z ai) aO.z<|bQ Z .nil (mK 3 Z) (dJ Z (aA.fact 0 Z) Z Z Z gX ai) aO.z<|i_ Z (I_ Z Z)<|bS 11 Z Z<|aD (bE Z) Z<|cA Z<|pE 0 Z Z Z Z Z Z<|aP<|aX<|aB Z<|aD (gY Z (zBe (aA.fact 4 Z) D.1 D.2) Z) Z<|aB Z<|aP<|aV<|iI (B:=cR) (CQ U u b (bP X ak)) (λp G=>[(3,vP O),(5,vP C),(6,vI (b.1)),(19,o),(20,vI T),(21,vI (b.1)),(39,(at' V b.1).1),(40,vI ((at' u.2 b.1).length:Int)),(41,vI (p.1))]) (λp G=>[al,Ar aZ.raw t G,eH eC G p.2,Y,L,K]) ((0:Int),b.2.2) (F) h SF (aR.refl _) ?_;intro a7 p G h;refine aX<|dM Z<|aP<|aM ?_;refine f_ h Z (λh=>?_) λh=>?_
      ·refine dC<|aM<|aV<|aX<|eB h λaj h=>aD (b_ Z Z (zBe (aA.fact 4 Z) D.1 D.2) Z Z aj) Z<|aD (fN (cs:=[vI ((at' (at' u.2 b.1) p.1).1),vI ((at' (at' u.2 b.1) p.1).2)]) Z (zBe (aA.fact 4 Z) D.1 D.2) bG Z Z Z Z aj) Z<|aI (aN.alloc (cs:=MV) Z Z) Z λa6=>bL 0 (vs:=[vI ((at' (at' u.2 b.1) p.1).1),vI ((at' (at' u.2 b.1) p.1).2)]) Z Z Z Z Z Z<|aP ?_;refine JR.start [0,1,3,7,0,0,32,96,224,0,992,2016,0,0,8192,0,61440,126976,262112,524287,1048575] 19 mixedOrders (by decide +kernel) ?_;refine zBf (by exact rfl) ?_;refine a_ Z<|i_ Z (bE Z)<|cD Z<|fI 1 Z<|a_ Z<|a_ Z<|i_ Z (bE Z)<|cD Z<|fI 1 Z<|a_ Z<|eB h λP h=>aU (cH 3 Z) λac=>?_;refine bQ Z (aR.cons 2 Z .nil) .nil (iO 0 Z Z Z Z Z P.1 (by have q1:=P.2;have q2:=ac;(try simp only[zA1]at q1);(try simp only[zA1]at q2⊢);omega)) aO.z ?_;refine aU (cH 3 Z) λad=>bQ Z (aR.cons 2 Z .nil) .nil (eR 0 Z Z ad Z Z P) aO.z<|gE 4 Z<|cD Z<|fI 0 Z<|a_ Z<|fZ h λM a3 h=>zBd Z Z Z (zBc Iu (xL U s o V M a3) Z (g_ [3,4] Z)) Z (λa4=>(nL [([2],[]),([2],[]),([1],[]),([1],[])] Z)) λa4=>zBd Z Z Z (cU (e:=eC) ([M]) [(0,vI (M))] Z Z Z Z (uF (vI (M)) Z) Z Z Z) Z (λaF=>(nL [([3],[]),([3],[]),([2],[]),([2],[])] Z)) λaF=>eB h λay h=>zBd Z Z Z (lV 4 fO Z Z Z (cB (aA.res 0 Z) fO) Z Z Z Z P ay Z) Z (λaq=>(nL [([2],[])] Z)) λaq=>bS 19 Z Z<|eB h λQ h=>aQ (cH 4 Z) λae=>?_;refine aD (iO 3 Z Z Z Z Z Q.1 (by have q1:=Q.2;have q2:=ae;(try simp only[zA1]at q1);(try simp only[zA1]at q2⊢);omega)) Z ?_;refine aQ (vR 4 (k:=b.1) Z Q) λah=>?_;refine mP 3 4 Q Z Z Z Z Z (by simp) ah Z ?_;refine fH<|oV<|aT<|dK Z<|aB Z<|aP ?_;exact iN ((wI .i64 (p.1+(1:Int))),(List.set p.2 (Int.toNat b.1) ((at' p.2 b.1)++[M]))) (List.set G (Int.toNat b.1) aq) h SF (aR.ix [2,3,4,5,6,7] Z Z) (aE.refl _ _)
      refine vH<|gR<|gR<|Am<|oV ?_;exact kC (p.2) (G) h SF Z
     intro E J h;unfold CP at h;refine aT<|dK Z<|aB Z<|aP ?_;exact Bw ((wI .i64 (b.1+(1:Int))),an,E) (J) h SF Z
    refine gC ?_;exact cK (b.2.1,b.2.2) (F) h SF (aR.ix [0,1,2,4,5] Z Z) (aE.refl _ _)
   intro y I h;unfold tQ at h;refine aX<|aB Z<|aH Z<|aP<|aY ?_;exact iK (y.1,y.2) (C,t,I) h (.inl Z) (BR.r1 Z (RV.tmp Z)) Z (aR.refl _) (aE.refl _ _)
  intro v n h;unfold Ag at h;refine bQ Z (aR.cons 4 Z .nil) .nil (dX 0 Z Z Z Z) (aO.h (aR.ix [1] Z Z) .nil aO.z)<|bQ Z (aR.cons 3 Z .nil) .nil (dX 0 Z Z Z Z) (aO.h (aR.ix [0] Z Z) .nil aO.z)<|fZ h λap a2 h=>zBd Z Z Z (zBc Je (sU U g m s o V ap a2) Z (g_ [0,1,2,3,4] Z)) Z (λN=>(nL [([6],[])] Z)) λN=>bS 7 Z Z<|aQ (Know.one (aA.sl (bZ (i:=0) (j:=1) Z Z bG))) λaf=>?_;refine aD (Cq (r:=Value.agg #[vS (f.1),g,m,Value.pointer (some ⟨n.1,0,none⟩),N.1]) Z Z Z (by intro w;simp[Instr.build,Instr.fill,dO,cV,cL,dQ,dR,cW,eN,dG af])) Z ?_;refine aI (aN.box (cs:=[vS (f.1),g,m,vP n.1,N.1]) Z Z) Z λaw=>aH Z<|aP<|aY ?_;exact iK (ap,v.1,v.2) (aw,n.1,N.1,N.2,n.2.1,n.2.2) h (.inl Z) (BR.r1 Z (RV.tmp Z)) Z (aR.ix [0,1,2,3,4,5] Z Z) (aE.refl _ _)
 intro d a h;let q:=a.2.2.2;refine aH Z<|aP<|aM<|aM<|jH (λH=>Af U f u R S d H=some r) (λH ab=>[(2,W),(3,vU (S)),(11,vP a.1),(31,vB (H))]) (λH ab=>[bI a.1 [vS (f.1),g,m,vP a.2.1,a.2.2.1] 157,Ar aZ.raw a.2.2.1 q.1,eH bD q.1 d.1,bI a.2.1 [vS (f.1),g,m,s,o,vI (d.2.1),q.2.1] 206,Ar aZ.raw q.2.1 q.2.2,eH eC q.2.2 d.2.2]) ?_ ?_
 ·refine aT<|aB Z<|eL Z<|aB Z ?_;refine Fq h Z (λ_ h=>?_) λ_ h=>?_
  ·refine aK Z<|aK Z<|aK Z<|aK Z<|aK Z<|aK Z<|fX Z<|aP ?_;exact kC (true) () h SF Z
  refine iA Z<|iA Z<|iA Z<|fZ h λao a1 h=>uQ Z (zBc UB (wA U a.1 g m a.2.1 g m s o V q.2.1 (List.zip q.2.2 d.2.2) a.2.2.1 (List.zip q.1 d.1) W z6 ao a1) Z (aE.cons (aA.res 0 Z) (aE.cons (aA.fact 0 Z) (aE.cons (aA.fact 1 Z) (aE.cons (aA.res 3 Z) (aE.cons (aA.fact 0 Z) (aE.cons (aA.fact 1 Z) (aE.cons (aA.fact 3 Z) (aE.cons (aA.fact 4 Z) (aE.cons (bZ (i:=4) (j:=5) Z Z fO) (aE.cons (bZ (i:=1) (j:=2) Z Z bG) (g_ [5] Z)))))))))))) Z λa8=>aS Z (Ub Z Z) Z<|aS Z (EQ Z Z) Z<|fG Z<|aP ?_;exact kC (decide ((FQ .u32 S ao)≠(0:Int))) () h SF Z
 intro H ab h;refine Bf h Z (λ_ h=>?_) λ_ h=>?_
 ·refine aX<|aH Z<|aH Z<|aP<|aY<|aL<|cG (gZ aZ.raw) (cG (mF eC) ?_);cases h;exact kH ((cJ),([]:cR)) Z Z (RV.tmp Z) (RV.tmp Z) (aR.ix [1,0] Z Z) aE.nil
 refine dC<|aX<|aB Z<|aB Z<|aB Z<|fZ h λaz a0 h=>aI (zBc aas (Ea U a.1 g m a.2.1 g m s o V q.2.1 (List.zip q.2.2 d.2.2) a.2.2.1 (List.zip q.1 d.1) W z6 az a0) Z (aE.cons (aA.res 0 Z) (aE.cons (aA.fact 0 Z) (aE.cons (aA.fact 1 Z) (aE.cons (aA.res 3 Z) (aE.cons (aA.fact 0 Z) (aE.cons (aA.fact 1 Z) (aE.cons (aA.fact 3 Z) (aE.cons (aA.fact 4 Z) (aE.cons (bZ (i:=4) (j:=5) Z Z fO) (aE.cons (bZ (i:=1) (j:=2) Z Z bG) (g_ [5] Z)))))))))))) Z λar=>aH Z<|aH Z<|aP<|aY ?_;cases h;exact kH (ar.1,ar.2) Z Z (RV.tmp Z) (RV.tmp Z) (aR.ix [0,1] Z Z) aE.nil
end Go.Proofs.YtflciafboapaaaaGreat