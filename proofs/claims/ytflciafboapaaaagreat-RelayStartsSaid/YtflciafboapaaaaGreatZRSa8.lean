/- Models and proofs. Conditions: none. -/
import Derived.Test.YtflciafboapaaaaGreatZRSa5
import Derived.Test.YtflciafboapaaaaGreatZRSa7
import Derived.Test.YtflciafboapaaaaGreatZRSa6
import Derived.Test.YtflciafboapaaaaGreatZRSa2
set_option linter.unusedVariables false
set_option linter.unusedSimpArgs false
set_option maxHeartbeats 4000000
set_option maxRecDepth 20000
namespace Go.Proofs.YtflciafboapaaaaGreat
open Go.Sx
def Ac  (a:rD):Option Ah:=
 some (((a.1,a.2.1,a.2.2)),(0:Int))
def mD (c:xO) (b:E_->Option Ah) (a:Int×bM×List (List bM)×List bM):Option Ah:=
 if a.1≠(0:Int)then(some (((([]:bM),(([]:oP)),(([]:Br)))),a.1))else(b ((wI .i64 (c.1+(1:Int))),a.2.1,a.2.2.2,a.2.2.1))
def Ad (a:xO) (b:E_->Option Ah) (c:bM):Option Ah:=
 mD a b ((0:Int),c,a.2.2.2,a.2.2.1)
def CJ (U:Nat) (p0:jX) (p1:dL) (e:wC) (b:FE) (a:xO) (c:E_->Option Ah) (d:bM):Option Ah:=
 Option.bind (cO U ((((p0.1,p0.2.1,p0.2.2)),((((p0.1,p0.2.1,p0.2.2)),((p1.1,p1.2)),b.2.1,b.2.2.2.1)),b.1)) d ((at' e a.1).2.1)) λf=>(if(0:Int)<=f then(Option.bind (iC U ((((p0.1,p0.2.1,p0.2.2)),((((p0.1,p0.2.1,p0.2.2)),((p1.1,p1.2)),b.2.1,b.2.2.2.1)),b.1)) d ((at' e a.1).2.1) f) λg=>(ck (0<=((at' e a.1).2.1)∧((at' e a.1).2.1)<(a.2.1.length:Int)) (Ad a c (List.set a.2.1 (Int.toNat ((at' e a.1).2.1)) g))))else(Ad a c (a.2.1)))
def w_ (U:Nat) (p0:jX) (p1:dL) (e:wC) (d:FE) (b:xO) (a:E_->Option Ah) (c:bM):Option Ah:=
 CJ U p0 p1 e d b a (c)
def xC (U:Nat) (p0:jX) (p1:dL) (c:wC) (f:FE) (a:xO) (d:E_->Option Ah) (b:xQ) (e:Ei->Option Ah):Option Ah:=
 if b.1<((at' p1.2 ((at' c a.1).2.1)).length:Int)then(ck (0<=b.1∧b.1<((at' p1.2 ((at' c a.1).2.1)).length:Int)) (ck (0<=((at' c a.1).2.1)∧((at' c a.1).2.1)<(a.2.2.1.length:Int)) (ck (0<=b.1∧b.1<((at' a.2.2.1 ((at' c a.1).2.1)).length:Int)) (ck (0<=((at' (at' p1.2 ((at' c a.1).2.1)) b.1).1)∧((at' (at' p1.2 ((at' c a.1).2.1)) b.1).1)<(b.2.length:Int)) (e ((wI .i64 (b.1+(1:Int))),(List.set b.2 (Int.toNat ((at' (at' p1.2 ((at' c a.1).2.1)) b.1).1)) (at' (at' a.2.2.1 ((at' c a.1).2.1)) b.1))))))))else(w_ U p0 p1 c f a d (b.2))
def Ae (a:xO) (c:E_->Option Ah) (b:Br):Option Ah:=
 mD a c ((0:Int),a.2.1,b,a.2.2.1)
def xB (p1:dL) (c:wC) (a:xO) (e:E_->Option Ah) (b:Int) (d:oP):Option Ah:=
 ck (0<=(0:Int)∧(0:Int)<(1:Int)∧(1:Int)<=((at' (at' a.2.2.2 ((at' (at' p1.2 ((at' c a.1).2.1)) ((at' c a.1).2.2)).1)) b).length:Int)) (mD a e ((0:Int),a.2.1,(List.set a.2.2.2 (Int.toNat ((at' (at' p1.2 ((at' c a.1).2.1)) ((at' c a.1).2.2)).1)) (List.set (at' a.2.2.2 ((at' (at' p1.2 ((at' c a.1).2.1)) ((at' c a.1).2.2)).1)) (Int.toNat b) (List.take (Int.toNat (0:Int)) (at' (at' a.2.2.2 ((at' (at' p1.2 ((at' c a.1).2.1)) ((at' c a.1).2.2)).1)) b)++List.drop (Int.toNat (1:Int)) (at' (at' a.2.2.2 ((at' (at' p1.2 ((at' c a.1).2.1)) ((at' c a.1).2.2)).1)) b)))),d))
def xA (U:Nat) (p1:dL) (p2:Int) (b:wC) (a:xO) (d:E_->Option Ah) (f:Bool):Option Ah:=
 if f=true then(mD a d ((2:Int),a.2.1,a.2.2.2,a.2.2.1))else(if((at' b a.1).1)=(2:Int)then(ck (0<=((at' b a.1).2.1)∧((at' b a.1).2.1)<(a.2.2.2.length:Int)) (ck (0<=((at' b a.1).2.2)∧((at' b a.1).2.2)<((at' a.2.2.2 ((at' b a.1).2.1)).length:Int)) (if((at' (at' a.2.2.2 ((at' b a.1).2.1)) ((at' b a.1).2.2)).length:Int)<p2 then(ck (0<=((at' b a.1).2.1)∧((at' b a.1).2.1)<(a.2.1.length:Int)) (Option.bind (mY U (at' a.2.1 ((at' b a.1).2.1))) λe=>(ck (((at' (at' a.2.2.2 ((at' b a.1).2.1)) ((at' b a.1).2.2)).length:Int)+(List.length ([e]):Int)<=1099511627) (Ae a d (List.set a.2.2.2 (Int.toNat ((at' b a.1).2.1)) (List.set (at' a.2.2.2 ((at' b a.1).2.1)) (Int.toNat ((at' b a.1).2.2)) ((at' (at' a.2.2.2 ((at' b a.1).2.1)) ((at' b a.1).2.2))++[e])))))))else(Ae a d (a.2.2.2)))))else(ck (0<=((at' b a.1).2.1)∧((at' b a.1).2.1)<(p1.2.length:Int)) (ck (0<=((at' b a.1).2.2)∧((at' b a.1).2.2)<((at' p1.2 ((at' b a.1).2.1)).length:Int)) (ck (0<=((at' (at' p1.2 ((at' b a.1).2.1)) ((at' b a.1).2.2)).1)∧((at' (at' p1.2 ((at' b a.1).2.1)) ((at' b a.1).2.2)).1)<(a.2.2.2.length:Int)) (Option.bind (iY U ((p1.1,p1.2)) ((at' (at' p1.2 ((at' b a.1).2.1)) ((at' b a.1).2.2)).1) ((at' b a.1).2.1)) λc=>(ck (0<=c∧c<((at' a.2.2.2 ((at' (at' p1.2 ((at' b a.1).2.1)) ((at' b a.1).2.2)).1)).length:Int)) (if((at' (at' a.2.2.2 ((at' (at' p1.2 ((at' b a.1).2.1)) ((at' b a.1).2.2)).1)) c).length:Int)=(0:Int)then(mD a d ((0:Int),a.2.1,a.2.2.2,a.2.2.1))else(if((at' b a.1).1)=(3:Int)then(ck (0<=((at' b a.1).2.1)∧((at' b a.1).2.1)<(a.2.2.1.length:Int)) (ck (0<=(0:Int)∧(0:Int)<((at' (at' a.2.2.2 ((at' (at' p1.2 ((at' b a.1).2.1)) ((at' b a.1).2.2)).1)) c).length:Int)) (ck (0<=((at' b a.1).2.2)∧((at' b a.1).2.2)<((at' a.2.2.1 ((at' b a.1).2.1)).length:Int)) (xB p1 b a d c (List.set a.2.2.1 (Int.toNat ((at' b a.1).2.1)) (List.set (at' a.2.2.1 ((at' b a.1).2.1)) (Int.toNat ((at' b a.1).2.2)) (at' (at' (at' a.2.2.2 ((at' (at' p1.2 ((at' b a.1).2.1)) ((at' b a.1).2.2)).1)) c) (0:Int))))))))else(xB p1 b a d c (a.2.2.1))))))))))
def qQ (U:Nat) (p0:jX) (p1:dL) (p2:Int) (c:wC) (e:FE) (a:xO) (b:E_->Option Ah) (d:Bool):Option Ah:=
 if d=true then(mD a b ((2:Int),a.2.1,a.2.2.2,a.2.2.1))else(if((at' c a.1).1)=(1:Int)then(ck ((a.2.1.length:Int)<=1099511627) (ck (0<=((at' c a.1).2.1)∧((at' c a.1).2.1)<(p1.2.length:Int)) (bP (xC U p0 p1 c e a b) U ((0:Int),a.2.1))))else(if((at' c a.1).2.2)<(0:Int)then(xA U p1 p2 c a b (true))else(ck (0<=((at' c a.1).2.1)∧((at' c a.1).2.1)<(p1.2.length:Int)) (xA U p1 p2 c a b (decide (((at' p1.2 ((at' c a.1).2.1)).length:Int)<=((at' c a.1).2.2)))))))
def fT (U:Nat) (p0:jX) (p1:dL) (p2:Int) (c:wC) (d:FE) (a:xO) (b:E_->Option Ah):Option Ah:=
 if a.1<(c.length:Int)then(ck (0<=a.1∧a.1<(c.length:Int)) (if((at' c a.1).1)<(1:Int)then(qQ U p0 p1 p2 c d a b (true))else(if(4:Int)<((at' c a.1).1)then(qQ U p0 p1 p2 c d a b (true))else(if((at' c a.1).2.1)<(0:Int)then(qQ U p0 p1 p2 c d a b (true))else(qQ U p0 p1 p2 c d a b (decide ((p1.2.length:Int)<=((at' c a.1).2.1))))))))else(Ac  (a.2.1,a.2.2.1,a.2.2.2))
def qG (U:Nat) (p0:jX) (p1:dL) (p2:Int) (b:rD) (c:wC):Option Ah:=
 Option.bind (uK U ((p0.1,p0.2.1,p0.2.2)) ((p1.1,p1.2)) p2 ((b.1,b.2.1,b.2.2))) λd=>(if d≠(0:Int)then(some (((([]:bM),(([]:oP)),(([]:Br)))),d))else(if(65536:Int)<(c.length:Int)then(some (((([]:bM),(([]:oP)),(([]:Br)))),(3:Int)))else(Option.bind (gU U ((p0.1,p0.2.1,p0.2.2)) ((p1.1,p1.2)) p2 ((b.1,b.2.1,b.2.2))) λa=>(bP (fT U p0 p1 p2 c a) U ((0:Int),a.2.2.1,a.2.2.2.2.1,a.2.2.2.2.2)))))
theorem LS:bB Tryz.prog 26:=Tryz.call26
theorem Bp (U:Nat) {t:jX} {s:dL} {N:Int} {K:rD} {g:wC} (D:Value)  (E:Value)  (F:Value)  (G:Value)  (z4:iZ)  (v5:Value)  (z6:jY)  (v7:Value)  (z8:If)  (v9:Value)  (P:Ie)  (O:Value) (r:(bM×List bM×List (List bM))×Int) (h:qG U t s N K g=some r):
  bO Tryz.prog 26 #[Value.agg #[vS (t.1),D,E],Value.agg #[F,G],vI (N),Value.agg #[v5,v7,v9],O] [Sl aG D t.2.1,Sl aC E t.2.2,PF (Value.agg #[vS t.1,D,E]),Sl aJ F s.1,S2 aW G z4 s.2,S2 aJ v5 z6 K.1,S3 aJ v7 z8 K.2.1,S4 aJ v9 P K.2.2,Sl jJ O g] (λx:ZB=>Value.tuple #[Value.agg #[x.1,x.2.2.1,x.2.2.2.2.1],vI (r.2)]) (λx l=>l) (λx l=>S2 aJ x.1 x.2.1 r.1.1::S3 aJ x.2.2.1 x.2.2.2.1 r.1.2.1::S4 aJ x.2.2.2.2.1 x.2.2.2.2.2 r.1.2.2::l):=by
 refine bO.of Tryz.func26 Z Tryz.ntmps26 Z λc=>?_;refine aX<|aI (aN.box (cs:=[vS (t.1),D,E]) Z Z) Z λb1=>aI (aN.box (cs:=[F,G]) Z Z) Z λb2=>aI (aN.box (cs:=[v5,v7,v9]) Z Z) Z λb3=>aI (aN.alloc (cs:=[cJ,cJ,cJ]) Z Z) Z λb4=>aH Z<|aP<|aM<|aX<|cY 3 Z<|cY 2 Z<|aB Z<|cY 1 Z<|fZ h λr5 w6 h=>aI (zBc aar (Ks U D E F G z4 v5 z6 v7 z8 v9 P r5 w6) Z (g_ [0,1,2,3,4,5,6,7] Z)) Z λx7=>aH Z<|aP<|aX<|aB Z<|oM Z<|aP ?_;refine f_ h Z (λh=>?_) λh=>?_
 ·refine aX ?_;refine aD (IX (r:=Value.agg #[cJ,cJ,cJ]) (by intro w;simp[Instr.build,Instr.fill,dO,cV,cL,dQ,dR,cW,eN])) Z ?_;refine aB Z<|bL 0 (vs:=[cJ,cJ,cJ]) Z Z Z Z Z Z<|aH Z<|aP<|aY<|aL ?_;cases h;exact kH ((cJ),([]),(cJ),([]),(cJ),([])) Z Z (RV.cell 0 Z Z Z Z) (RV.tmp Z) .nil (aE.cons qJ (aE.cons qJ (aE.cons qJ aE.nil)))
 refine dC<|aM<|aX<|aB Z<|lT (aA.fact 8 Z) Z<|aD (Aq Z Z) Z<|aP ?_;refine f_ h Z (λh=>?_) λh=>?_
 ·refine aX ?_;refine aD (IX (r:=Value.agg #[cJ,cJ,cJ]) (by intro w;simp[Instr.build,Instr.fill,dO,cV,cL,dQ,dR,cW,eN])) Z ?_;refine bL 0 (vs:=[cJ,cJ,cJ]) Z Z Z Z Z Z<|aH Z<|aP<|aY<|aL ?_;cases h;exact kH ((cJ),([]),(cJ),([]),(cJ),([])) Z Z (RV.cell 0 Z Z Z Z) (RV.tmp Z) .nil (aE.cons qJ (aE.cons qJ (aE.cons qJ aE.nil)))
 refine dC<|aX<|cY 3 Z<|cY 2 Z<|aB Z<|cY 1 Z<|fZ h λn c0 h=>aI (aN.call Pu (xN U D E F G z4 v5 z6 v7 z8 v9 P n c0) Z (fR.cons (zA0 (i:=0) Z) (fR.cons (zA0 (i:=1) Z) (fR.cons (zA0 (i:=2) Z) (fR.cons (zA0 (i:=3) Z) (fR.cons (zA0 (i:=4) Z) (fR.cons (zA0 (i:=5) Z) (fR.cons (zA0 (i:=6) Z) (mK 7 Z)))))))) (λ_ _=>rfl) (λ_ _=>rfl)) Z λa=>aH Z<|aP<|aM<|iV (B:=List Value×List (List Value)×List (List Value)×List (List (List Value))) (λW=>Ac  W=some r) (λW J=>[(10,vP b4),(13,vP a.1)]) (λW J=>[bI a.1 [F,G,vI (N),vP a.2.1,a.2.2.1,a.2.2.2.1,a.2.2.2.2.1] 108,Ar aZ.raw a.2.2.1 J.1,bI a.2.1 [vS (t.1),D,E,vP a.2.2.2.2.2.2.1,a.2.2.2.2.2.2.2.1] 157,Ar aZ.raw a.2.2.2.2.2.2.2.1 a.2.2.2.2.2.2.2.2.1,eH bD a.2.2.2.2.2.2.2.2.1 n.1,bI a.2.2.2.2.2.2.1 [vS (t.1),D,E,F,G,vI (n.2.1),a.2.2.2.2.2.2.2.2.2.1] 206,Ar aZ.raw a.2.2.2.2.2.2.2.2.2.1 a.2.2.2.2.2.2.2.2.2.2.1,Ar aZ.raw a.2.2.2.1 a.2.2.2.2.2.2.2.2.2.2.2.1,eH aZ.raw a.2.2.2.2.2.2.2.2.2.2.2.1 J.2.1,Ar aZ.raw a.2.2.2.2.1 a.2.2.2.2.2.2.2.2.2.2.2.2.2.1,rJ aZ.raw a.2.2.2.2.2.2.2.2.2.2.2.2.2.1 J.2.2.1 J.2.2.2,bI b4 [cJ,cJ,cJ] 43]) (λW J=>[mM aJ J.1 W.1,mM aJ a.2.2.2.2.2.2.2.2.2.2.1 n.2.2.2.1,yH aJ J.2.1 W.2.1,Ai aJ J.2.2.2 W.2.2,Sl aG D t.2.1,Sl aC E t.2.2,PF (Value.agg #[vS t.1,D,E]),Sl aJ F s.1,S2 aW G z4 s.2,S2 aJ v5 z6 K.1,S3 aJ v7 z8 K.2.1,S4 aJ v9 P K.2.2,Sl jJ O g]) ?_ ?_
 ·refine aX<|aB Z<|lT (aA.fact 12 Z) Z<|aB Z<|aP<|aV<|mA (B:=List Value×List (List Value)×List (List Value)×List (List (List Value))) (fT U t s N g n) (λb d=>[(10,vP b4),(13,vP a.1),(35,O),(36,vI (g.length:Int)),(37,vI (b.1))]) (λb d=>[bI a.1 [F,G,vI (N),vP a.2.1,a.2.2.1,a.2.2.2.1,a.2.2.2.2.1] 108,Ar aZ.raw a.2.2.1 d.1,bI a.2.1 [vS (t.1),D,E,vP a.2.2.2.2.2.2.1,a.2.2.2.2.2.2.2.1] 157,Ar aZ.raw a.2.2.2.2.2.2.2.1 a.2.2.2.2.2.2.2.2.1,eH bD a.2.2.2.2.2.2.2.2.1 n.1,bI a.2.2.2.2.2.2.1 [vS (t.1),D,E,F,G,vI (n.2.1),a.2.2.2.2.2.2.2.2.2.1] 206,Ar aZ.raw a.2.2.2.2.2.2.2.2.2.1 a.2.2.2.2.2.2.2.2.2.2.1,Ar aZ.raw a.2.2.2.1 a.2.2.2.2.2.2.2.2.2.2.2.1,eH aZ.raw a.2.2.2.2.2.2.2.2.2.2.2.1 d.2.1,Ar aZ.raw a.2.2.2.2.1 a.2.2.2.2.2.2.2.2.2.2.2.2.2.1,rJ aZ.raw a.2.2.2.2.2.2.2.2.2.2.2.2.2.1 d.2.2.1 d.2.2.2,bI b4 [cJ,cJ,cJ] 43]) (λb d=>[mM aJ d.1 b.2.1,mM aJ a.2.2.2.2.2.2.2.2.2.2.1 n.2.2.2.1,yH aJ d.2.1 b.2.2.1,Ai aJ d.2.2.2 b.2.2.2,Sl aG D t.2.1,Sl aC E t.2.2,PF (Value.agg #[vS t.1,D,E]),Sl aJ F s.1,S2 aW G z4 s.2,S2 aJ v5 z6 K.1,S3 aJ v7 z8 K.2.1,S4 aJ v9 P K.2.2,Sl jJ O g]) ((0:Int),n.2.2.1,n.2.2.2.2.1,n.2.2.2.2.2) (a.2.2.2.2.2.1,a.2.2.2.2.2.2.2.2.2.2.2.2.1,a.2.2.2.2.2.2.2.2.2.2.2.2.2.2.1,a.2.2.2.2.2.2.2.2.2.2.2.2.2.2.2) h SF (aR.ix [0,1,2,3,4,5,6,7,8,9,10,11] Z Z) (aE.refl _ _) ?_;intro ae b d h;refine aX<|dM Z<|aP<|aM ?_;refine f_ h Z (λh=>?_) λh=>?_
  ·refine dC<|aM<|aV<|aX<|eB h λcy h=>aD (b_ Z Z (aA.fact 12 Z) Z Z cy) Z<|aD (fN (cs:=[vI ((at' g b.1).1),vI ((at' g b.1).2.1),vI ((at' g b.1).2.2)]) Z (aA.fact 12 Z) lA Z Z Z Z cy) Z<|aI (aN.alloc (cs:=[vI (0:Int),vI (0:Int),vI (0:Int)]) Z Z) Z λc8=>bL 0 (vs:=[vI ((at' g b.1).1),vI ((at' g b.1).2.1),vI ((at' g b.1).2.2)]) Z Z Z Z Z Z<|aP<|aX<|aB Z<|cY 0 Z<|vJ (A:=Int×bM×List (List bM)×List bM) (B:=List Value×List (List Value)×List (List (List Value))×List (List Value)) (vs:=[vP a.1,Value.agg #[vI ((at' g b.1).1),vI ((at' g b.1).2.1),vI ((at' g b.1).2.2)]]) (λR=>mD b (bP (fT U t s N g n) ae) R=some r) (λR M=>vI (R.1)) (λR M=>[bI a.1 [F,G,vI (N),vP a.2.1,a.2.2.1,a.2.2.2.1,a.2.2.2.2.1] 108,Ar aZ.raw a.2.2.1 M.1,bI a.2.1 [vS (t.1),D,E,vP a.2.2.2.2.2.2.1,a.2.2.2.2.2.2.2.1] 157,Ar aZ.raw a.2.2.2.2.2.2.2.1 a.2.2.2.2.2.2.2.2.1,eH bD a.2.2.2.2.2.2.2.2.1 n.1,bI a.2.2.2.2.2.2.1 [vS (t.1),D,E,F,G,vI (n.2.1),a.2.2.2.2.2.2.2.2.2.1] 206,Ar aZ.raw a.2.2.2.2.2.2.2.2.2.1 a.2.2.2.2.2.2.2.2.2.2.1,Ar aZ.raw a.2.2.2.1 a.2.2.2.2.2.2.2.2.2.2.2.1,eH aZ.raw a.2.2.2.2.2.2.2.2.2.2.2.1 M.2.2.2,Ar aZ.raw a.2.2.2.2.1 a.2.2.2.2.2.2.2.2.2.2.2.2.2.1,rJ aZ.raw a.2.2.2.2.2.2.2.2.2.2.2.2.2.1 M.2.1 M.2.2.1,bI b4 [cJ,cJ,cJ] 43]) (λR M=>[mM aJ M.1 R.2.1,mM aJ a.2.2.2.2.2.2.2.2.2.2.1 n.2.2.2.1,yH aJ M.2.2.2 R.2.2.2,Ai aJ M.2.2.1 R.2.2.1,Sl aG D t.2.1,Sl aC E t.2.2,PF (Value.agg #[vS t.1,D,E]),Sl aJ F s.1,S2 aW G z4 s.2,S2 aJ v5 z6 K.1,S3 aJ v7 z8 K.2.1,S4 aJ v9 P K.2.2,Sl jJ O g]) (mO.fn (show bB Tryz.prog 67 from Tryz.call67) Z) Tryz.func67 Z Tryz.ntmps67 Z Z ?_ ?_
   ·refine aX<|aI (aN.box (cs:=[vI ((at' g b.1).1),vI ((at' g b.1).2.1),vI ((at' g b.1).2.2)]) Z Z) Z λbk=>aH Z<|aP<|aM<|aM<|iV (B:=Unit) (λax=>qQ U t s N g n b (bP (fT U t s N g n) ae) ax=some r) (λax bp=>[(0,vP a.1),(3,vP bk),(30,vB (ax))]) (λax bp=>[bI bk [vI ((at' g b.1).1),vI ((at' g b.1).2.1),vI ((at' g b.1).2.2)] 28,bI a.1 [F,G,vI (N),vP a.2.1,a.2.2.1,a.2.2.2.1,a.2.2.2.2.1] 108,Ar aZ.raw a.2.2.1 d.1,bI a.2.1 [vS (t.1),D,E,vP a.2.2.2.2.2.2.1,a.2.2.2.2.2.2.2.1] 157,Ar aZ.raw a.2.2.2.2.2.2.2.1 a.2.2.2.2.2.2.2.2.1,eH bD a.2.2.2.2.2.2.2.2.1 n.1,bI a.2.2.2.2.2.2.1 [vS (t.1),D,E,F,G,vI (n.2.1),a.2.2.2.2.2.2.2.2.2.1] 206,Ar aZ.raw a.2.2.2.2.2.2.2.2.2.1 a.2.2.2.2.2.2.2.2.2.2.1,Ar aZ.raw a.2.2.2.1 a.2.2.2.2.2.2.2.2.2.2.2.1,eH aZ.raw a.2.2.2.2.2.2.2.2.2.2.2.1 d.2.1,Ar aZ.raw a.2.2.2.2.1 a.2.2.2.2.2.2.2.2.2.2.2.2.2.1,rJ aZ.raw a.2.2.2.2.2.2.2.2.2.2.2.2.2.1 d.2.2.1 d.2.2.2,bI b4 [cJ,cJ,cJ] 43]) (λax bp=>[mM aJ d.1 b.2.1,mM aJ a.2.2.2.2.2.2.2.2.2.2.1 n.2.2.2.1,yH aJ d.2.1 b.2.2.1,Ai aJ d.2.2.2 b.2.2.2,Sl aG D t.2.1,Sl aC E t.2.2,PF (Value.agg #[vS t.1,D,E]),Sl aJ F s.1,S2 aW G z4 s.2,S2 aJ v5 z6 K.1,S3 aJ v7 z8 K.2.1,S4 aJ v9 P K.2.2,Sl jJ O g]) ?_ ?_
    ·refine JR.start [0,1,3,7,15,31,63,127,255,511,1023,2047,4095,8191,16383,32767,16383,81919,212991,475135,999423,2047999,4194303,8388607] 22 mixedOrders (by decide +kernel) ?_;refine zBf (by exact rfl) ?_;refine cD Z<|fI 0 Z<|i_ Z (FP Z Z)<|a_ Z ?_;refine Eo (by exact rfl) (by exact rfl) (by exact rfl) (λap=>?_) (λap=>?_)
     ·have h:=Km ap h;refine bY Z Z Z Z<|bY Z Z Z Z<|bY Z Z Z Z<|i_ Z (Is Z Z)<|a_ Z<|bY Z Z Z Z<|bY Z Z Z Z<|bY Z Z Z Z<|i_ Z (Is Z Z)<|a_ Z<|bY Z Z Z Z<|bY Z Z Z Z<|bY Z Z Z Z<|bY Z Z Z Z<|bY Z Z Z Z<|bY Z Z Z Z<|bY Z Z Z Z<|bY Z Z Z Z<|bS 22 Z Z<|aK Z<|fX Z<|aP ?_;exact cK (true) () h SF (aR.ix [0,2,3,4,5,6,7,8,9,10,11,12,13] Z Z) (aE.refl _ _)
     have h:=Zt ap h;refine gG Z .nil .nil (eT Z Z Z Z Z) aO.z<|gG Z (aR.cons 0 Z .nil) .nil (fS 0 Z Z Z Z Z) aO.z<|gG Z .nil .nil (Aq Z Z) aO.z<|i_ Z (LN Z Z)<|a_ Z ?_;refine Eo (by exact rfl) (by exact rfl) (by exact rfl) (λaq=>?_) (λaq=>?_)
     ·have h:=Km aq h;refine bY Z Z Z Z<|bY Z Z Z Z<|bY Z Z Z Z<|i_ Z (Is Z Z)<|a_ Z<|bY Z Z Z Z<|bY Z Z Z Z<|bY Z Z Z Z<|bY Z Z Z Z<|bY Z Z Z Z<|bY Z Z Z Z<|bY Z Z Z Z<|bY Z Z Z Z<|bS 22 Z Z<|aK Z<|fX Z<|aP ?_;exact cK (true) () h SF (aR.ix [0,2,3,4,5,6,7,8,9,10,11,12,13] Z Z) (aE.refl _ _)
     have h:=Zt aq h;refine gG Z .nil .nil (eT Z Z Z Z Z) aO.z<|gG Z (aR.cons 0 Z .nil) .nil (fS 0 Z Z Z Z Z) aO.z<|gG Z .nil .nil (FP Z Z) aO.z<|i_ Z (LN Z Z)<|a_ Z ?_;refine Eo (by exact rfl) (by exact rfl) (by exact rfl) (λar=>?_) (λar=>?_)
     ·have h:=Km ar h;refine bY Z Z Z Z<|bY Z Z Z Z<|bY Z Z Z Z<|bY Z Z Z Z<|bY Z Z Z Z<|bY Z Z Z Z<|bY Z Z Z Z<|bY Z Z Z Z<|bS 22 Z Z<|aK Z<|fX Z<|aP ?_;exact cK (true) () h SF (aR.ix [0,2,3,4,5,6,7,8,9,10,11,12,13] Z Z) (aE.refl _ _)
     have h:=Zt ar h;refine gG Z .nil .nil (eT Z Z Z Z Z) aO.z<|gG Z (aR.cons 0 Z .nil) .nil (fS 0 Z Z Z Z Z) aO.z<|gG Z .nil .nil (iW Z) aO.z<|gG Z .nil .nil (bE Z) aO.z<|gG Z .nil .nil (eT Z Z Z Z Z) aO.z<|gG Z .nil .nil (eT Z Z Z Z Z) aO.z<|gG Z (aR.cons 2 Z .nil) .nil (fS 0 Z Z Z Z Z) aO.z<|gG Z .nil (mK 8 Z) (eP Z (aA.fact 0 Z) Z) aO.z<|bS 22 Z Z<|aS Z (BS Z Z) Z<|fG Z<|aP ?_;exact cK (decide ((s.2.length:Int)<=((at' g b.1).2.1))) () h SF (aR.ix [0,2,3,4,5,6,7,8,9,10,11,12,13] Z Z) (aE.refl _ _)
    intro ax bp h;refine Bf h Z (λ_ h=>?_) λ_ h=>?_
    ·refine aX<|aH Z<|aP<|aY<|aL ?_;exact iK ((2:Int),b.2.1,b.2.2.2,b.2.2.1) (d.1,d.2.2.1,d.2.2.2,d.2.1) h (.inl Z) (BR.r1 Z (RV.tmp Z)) Z (aR.ix [1,2,3,4,5,6,7,8,9,10,11,12] Z Z) (aE.refl _ _)
    refine dC<|aM<|aX<|cA Z<|eW 0 Z<|eL Z<|aP ?_;refine f_ h Z (λh=>?_) λh=>?_
    ·refine aX<|aB Z<|cA Z<|eW 0 Z<|vJ (A:=bM) (B:=cR) (vs:=[vP a.1,vI ((at' g b.1).2.1)]) (λaj=>Ad b (bP (fT U t s N g n) ae) aj=some r) (λaj ay=>Value.tuple #[]) (λaj ay=>[bI a.1 [F,G,vI (N),vP a.2.1,a.2.2.1,a.2.2.2.1,a.2.2.2.2.1] 108,Ar aZ.raw a.2.2.1 ay,bI a.2.1 [vS (t.1),D,E,vP a.2.2.2.2.2.2.1,a.2.2.2.2.2.2.2.1] 157,Ar aZ.raw a.2.2.2.2.2.2.2.1 a.2.2.2.2.2.2.2.2.1,eH bD a.2.2.2.2.2.2.2.2.1 n.1,bI a.2.2.2.2.2.2.1 [vS (t.1),D,E,F,G,vI (n.2.1),a.2.2.2.2.2.2.2.2.2.1] 206,Ar aZ.raw a.2.2.2.2.2.2.2.2.2.1 a.2.2.2.2.2.2.2.2.2.2.1,Ar aZ.raw a.2.2.2.1 a.2.2.2.2.2.2.2.2.2.2.2.1,eH aZ.raw a.2.2.2.2.2.2.2.2.2.2.2.1 d.2.1,Ar aZ.raw a.2.2.2.2.1 a.2.2.2.2.2.2.2.2.2.2.2.2.2.1,rJ aZ.raw a.2.2.2.2.2.2.2.2.2.2.2.2.2.1 d.2.2.1 d.2.2.2,bI b4 [cJ,cJ,cJ] 43]) (λaj ay=>[mM aJ ay aj,mM aJ a.2.2.2.2.2.2.2.2.2.2.1 n.2.2.2.1,yH aJ d.2.1 b.2.2.1,Ai aJ d.2.2.2 b.2.2.2,Sl aG D t.2.1,Sl aC E t.2.2,PF (Value.agg #[vS t.1,D,E]),Sl aJ F s.1,S2 aW G z4 s.2,S2 aJ v5 z6 K.1,S3 aJ v7 z8 K.2.1,S4 aJ v9 P K.2.2,Sl jJ O g]) (mO.fn (show bB Tryz.prog 108 from Tryz.call108) Z) Tryz.func108 Z Tryz.ntmps108 Z Z ?_ ?_
     ·refine aX<|aB Z<|aB Z<|vJ (A:=bM) (B:=Fa) (vs:=[vP a.1,vI ((at' g b.1).2.1)]) (λaf=>CJ U t s g n b (bP (fT U t s N g n) ae) af=some r) (λaf Y=>Y.1) (λaf Y=>[Ar aZ.raw Y.1 Y.2,bI a.1 [F,G,vI (N),vP a.2.1,a.2.2.1,a.2.2.2.1,a.2.2.2.2.1] 108,Ar aZ.raw a.2.2.1 d.1,bI a.2.1 [vS (t.1),D,E,vP a.2.2.2.2.2.2.1,a.2.2.2.2.2.2.2.1] 157,Ar aZ.raw a.2.2.2.2.2.2.2.1 a.2.2.2.2.2.2.2.2.1,eH bD a.2.2.2.2.2.2.2.2.1 n.1,bI a.2.2.2.2.2.2.1 [vS (t.1),D,E,F,G,vI (n.2.1),a.2.2.2.2.2.2.2.2.2.1] 206,Ar aZ.raw a.2.2.2.2.2.2.2.2.2.1 a.2.2.2.2.2.2.2.2.2.2.1,Ar aZ.raw a.2.2.2.1 a.2.2.2.2.2.2.2.2.2.2.2.1,eH aZ.raw a.2.2.2.2.2.2.2.2.2.2.2.1 d.2.1,Ar aZ.raw a.2.2.2.2.1 a.2.2.2.2.2.2.2.2.2.2.2.2.2.1,rJ aZ.raw a.2.2.2.2.2.2.2.2.2.2.2.2.2.1 d.2.2.1 d.2.2.2,bI b4 [cJ,cJ,cJ] 43]) (λaf Y=>[mM aJ Y.2 af,mM aJ d.1 b.2.1,mM aJ a.2.2.2.2.2.2.2.2.2.2.1 n.2.2.2.1,yH aJ d.2.1 b.2.2.1,Ai aJ d.2.2.2 b.2.2.2,Sl aG D t.2.1,Sl aC E t.2.2,PF (Value.agg #[vS t.1,D,E]),Sl aJ F s.1,S2 aW G z4 s.2,S2 aJ v5 z6 K.1,S3 aJ v7 z8 K.2.1,S4 aJ v9 P K.2.2,Sl jJ O g]) (mO.fn (show bB Tryz.prog 103 from Tryz.call103) Z) Tryz.func103 Z Tryz.ntmps103 Z Z ?_ ?_
      ·refine aX<|aH Z<|aP<|aX<|aB Z<|aD (bE Z) Z<|cA Z<|cA Z<|eW 1 Z<|eB h λda h=>aQ (bJ (aA.fact 0 Z)) λc3=>cG (cP (aA.fact 0 Z)) ?_;refine aI (zBc LQ (zO U (p0:=d.1) a.2.2.1 d.1 (by simp[qZ,ck];omega)) Z (aE.cons (oA (i:=2) Z) aE.nil)) Z λbj=>?_;refine aH Z<|aP<|aM<|iV (B:=cR) (λak=>w_ U t s g n b (bP (fT U t s N g n) ae) ak=some r) (λak az=>[(5,bj)]) (λak az=>[Ar aZ.raw bj az,bI a.1 [F,G,vI (N),vP a.2.1,a.2.2.1,a.2.2.2.1,a.2.2.2.2.1] 108,Ar aZ.raw a.2.2.1 d.1,bI a.2.1 [vS (t.1),D,E,vP a.2.2.2.2.2.2.1,a.2.2.2.2.2.2.2.1] 157,Ar aZ.raw a.2.2.2.2.2.2.2.1 a.2.2.2.2.2.2.2.2.1,eH bD a.2.2.2.2.2.2.2.2.1 n.1,bI a.2.2.2.2.2.2.1 [vS (t.1),D,E,F,G,vI (n.2.1),a.2.2.2.2.2.2.2.2.2.1] 206,Ar aZ.raw a.2.2.2.2.2.2.2.2.2.1 a.2.2.2.2.2.2.2.2.2.2.1,Ar aZ.raw a.2.2.2.1 a.2.2.2.2.2.2.2.2.2.2.2.1,eH aZ.raw a.2.2.2.2.2.2.2.2.2.2.2.1 d.2.1,Ar aZ.raw a.2.2.2.2.1 a.2.2.2.2.2.2.2.2.2.2.2.2.2.1,rJ aZ.raw a.2.2.2.2.2.2.2.2.2.2.2.2.2.1 d.2.2.1 d.2.2.2,bI b4 [cJ,cJ,cJ] 43]) (λak az=>[mM aJ az ak,mM aJ d.1 b.2.1,mM aJ a.2.2.2.2.2.2.2.2.2.2.1 n.2.2.2.1,yH aJ d.2.1 b.2.2.1,Ai aJ d.2.2.2 b.2.2.2,Sl aG D t.2.1,Sl aC E t.2.2,PF (Value.agg #[vS t.1,D,E]),Sl aJ F s.1,S2 aW G z4 s.2,S2 aJ v5 z6 K.1,S3 aJ v7 z8 K.2.1,S4 aJ v9 P K.2.2,Sl jJ O g]) ?_ ?_
       ·refine aX<|aB Z<|aD (bE Z) Z<|cA Z<|cA Z<|eW 2 Z<|aB Z<|eB h λag h=>aD (bV Z Z (aA.fact 9 Z) Z Z ag) Z<|aD (cM Z (aA.fact 9 Z) Z Z ag) Z<|aD (gY Z (zBe (aA.fact 9 Z) ag.1 ag.2) Z) Z<|aB Z<|aP<|aV<|mA (B:=cR) (xC U t s g n b (bP (fT U t s N g n) ae)) (λI al=>[(0,vP a.1),(1,vI ((at' g b.1).2.1)),(5,bj),(21,(at' z4 ((at' g b.1).2.1)).1),(22,vI ((at' s.2 ((at' g b.1).2.1)).length:Int)),(23,vI (I.1))]) (λI al=>[Ar aZ.raw bj al,bI a.1 [F,G,vI (N),vP a.2.1,a.2.2.1,a.2.2.2.1,a.2.2.2.2.1] 108,Ar aZ.raw a.2.2.1 d.1,bI a.2.1 [vS (t.1),D,E,vP a.2.2.2.2.2.2.1,a.2.2.2.2.2.2.2.1] 157,Ar aZ.raw a.2.2.2.2.2.2.2.1 a.2.2.2.2.2.2.2.2.1,eH bD a.2.2.2.2.2.2.2.2.1 n.1,bI a.2.2.2.2.2.2.1 [vS (t.1),D,E,F,G,vI (n.2.1),a.2.2.2.2.2.2.2.2.2.1] 206,Ar aZ.raw a.2.2.2.2.2.2.2.2.2.1 a.2.2.2.2.2.2.2.2.2.2.1,Ar aZ.raw a.2.2.2.1 a.2.2.2.2.2.2.2.2.2.2.2.1,eH aZ.raw a.2.2.2.2.2.2.2.2.2.2.2.1 d.2.1,Ar aZ.raw a.2.2.2.2.1 a.2.2.2.2.2.2.2.2.2.2.2.2.2.1,rJ aZ.raw a.2.2.2.2.2.2.2.2.2.2.2.2.2.1 d.2.2.1 d.2.2.2,bI b4 [cJ,cJ,cJ] 43]) (λI al=>[mM aJ al I.2,mM aJ d.1 b.2.1,mM aJ a.2.2.2.2.2.2.2.2.2.2.1 n.2.2.2.1,yH aJ d.2.1 b.2.2.1,Ai aJ d.2.2.2 b.2.2.2,Sl aG D t.2.1,Sl aC E t.2.2,PF (Value.agg #[vS t.1,D,E]),Sl aJ F s.1,S2 aW G z4 s.2,S2 aJ v5 z6 K.1,S3 aJ v7 z8 K.2.1,S4 aJ v9 P K.2.2,Sl jJ O g]) ((0:Int),b.2.1) (tg 1 d.1) h SF (aR.ix [0,2,3,4,5,6,7,8,9,10,11,12,13] Z Z) (aE.refl _ _) ?_;intro db I al h;refine aX<|dM Z<|aP<|aM ?_;refine f_ h Z (λh=>?_) λh=>?_
        ·refine dC<|aM<|aV<|aX<|aB Z<|eB h λcz h=>aD (b_ Z Z (zBe (aA.fact 9 Z) ag.1 ag.2) Z Z cz) Z<|aD (fN (cs:=[vI ((at' (at' s.2 ((at' g b.1).2.1)) I.1).1),vI ((at' (at' s.2 ((at' g b.1).2.1)) I.1).2)]) Z (zBe (aA.fact 9 Z) ag.1 ag.2) bG Z Z Z Z cz) Z<|aI (aN.alloc (cs:=MV) Z Z) Z λc9=>aH Z<|bL 0 (vs:=[vI ((at' (at' s.2 ((at' g b.1).2.1)) I.1).1),vI ((at' (at' s.2 ((at' g b.1).2.1)) I.1).2)]) Z Z Z Z Z Z<|aP ?_;refine JR.start [0,0,2,0,8,24,56,120,0,504,1016,0,4088,8184,16383,32767] 14 mixedOrders (by decide +kernel) ?_;refine zBf (by exact rfl) ?_;refine a_ Z<|cD Z<|fI 0 Z<|a_ Z<|i_ Z (bE Z)<|cD Z<|cD Z<|fI 2 Z<|a_ Z<|eB h λS h=>aU (gH (bU (i:=9) (q:=10) (j:=3) Z Z Z)) λcq=>i_ Z (hZ Z Z cq Z Z S)<|aU (cH 10 Z) λcr=>aU (bJ (aA.fact 3 Z)) λct=>bQ Z (aR.cons 9 Z .nil) .nil (eR 0 Z Z (cr.trans ct) Z Z S) aO.z<|a_ Z<|eB h λau h=>aU (gH (vW (q:=10) (j:=3) Z Z S.1 S.2)) λbq=>?_;refine i_ Z (hZ Z Z bq Z Z au)<|aU (bJ (aA.fact 3 Z)) λbr=>?_;refine aU (bJ (bX (aA.fact 3 Z) S.1 S.2)) λbs=>?_;refine bQ Z (aR.cons 10 Z .nil) .nil (dJ (f:=λx=>x) Z (Dl (q:=0) Z S.1 (by have y:=S.2;have C:=br;(try simp only[zA1]at y C⊢);omega)) Z Z Z mC ⟨au.1,(by have y:=au.2;have C:=bs;(try simp only[zA1]at y C⊢);omega)⟩) aO.z ?_;refine bS 14 Z Z<|eB h λbh h=>aD (bV Z Z (bF (i:=1) (j:=0) Z Z) Z Z bh) Z ?_;refine aQ (Know.one ((bX (bX (aA.fact 3 Z) S.1 S.2) au.1 au.2))) λbc=>?_;refine aQ (bJ (aA.fact 0 Z)) λbt=>?_;refine cG (cP (fE (Int.toNat ((at' (at' s.2 ((at' g b.1).2.1)) I.1).1)) (aA.fact 0 Z) (bX (bX (aA.fact 3 Z) S.1 S.2) au.1 au.2))) ?_;refine qI (lB (us:=[at' (at' d.2.1 ((at' g b.1).2.1)) I.1]) (o:=0) (q:=1) 1 (at' (at' d.2.1 ((at' g b.1).2.1)) I.1) ⟨bh.1,(by have y:=bh.2;have C:=bt;(try simp only[zA1]at y C⊢);omega)⟩ Z Z Z Z (by rw[show(at' (at' d.2.1 ((at' g b.1).2.1)) I.1).cells = #[at' (at' d.2.1 ((at' g b.1).2.1)) I.1]from dG bc]) Z Z Z (dH bc Z) Z) λc4=>?_;refine fH<|oV<|aT<|dK Z<|aB Z<|aP ?_;exact iN ((wI .i64 (I.1+(1:Int))),(List.set I.2 (Int.toNat ((at' (at' s.2 ((at' g b.1).2.1)) I.1).1)) (at' (at' b.2.2.1 ((at' g b.1).2.1)) I.1))) (List.set al (Int.toNat ((at' (at' s.2 ((at' g b.1).2.1)) I.1).1)) (at' (at' d.2.1 ((at' g b.1).2.1)) I.1)) h SF (aR.ix [1,2,3,4,5,6,7,8,9,10,11,12,13] Z Z) (g_ [0,2,3,4,5,6,7,8,9,10,11,12,13,14] Z)
        refine gC ?_;exact kC (I.2) (al) h SF Z
       intro ak az h;unfold w_ at h;refine aX<|aB Z<|aH Z<|aP<|aY ?_;exact iK (ak) (bj,az) h (.inl Z) (BR.r1 Z (RV.tmp Z)) Z (aR.refl _) (aE.refl _ _)
      intro af Y h;refine aH Z<|aP<|aX<|aB Z<|aD (bE Z) Z<|cA Z<|eW 1 Z<|aB Z<|aB Z<|fZ h λcX c1 h=>aI (zBc FS (lN U a.2.1 D E a.2.2.2.2.2.2.1 D E F G z4 a.2.2.2.2.2.2.2.2.2.1 ((List.zip a.2.2.2.2.2.2.2.2.2.2.1 n.2.2.2.1)) a.2.2.2.2.2.2.2.1 (List.zip a.2.2.2.2.2.2.2.2.1 n.1) Y.1 ((List.zip Y.2 af)) cX c1) Z (aE.cons (aA.res 3 Z) (aE.cons (aA.fact 5 Z) (aE.cons (aA.fact 6 Z) (aE.cons (aA.res 6 Z) (aE.cons (aA.fact 5 Z) (aE.cons (aA.fact 6 Z) (aE.cons (aA.fact 8 Z) (aE.cons (aA.fact 9 Z) (aE.cons (bF (i:=7) (j:=2) Z Z) (aE.cons (bZ (i:=4) (j:=5) Z Z bG) (aE.cons (bF (i:=0) (j:=0) Z Z) .nil)))))))))))) Z λdc=>aH Z<|aP<|aX<|aB Z<|aD (BS Z Z) Z<|aP ?_;refine f_ h Z (λh=>?_) λh=>?_
      ·refine JR.start [0,1,3,7,15,0,0,64,192,448,0,0,0,8128,16383,32767] 14 mixedOrders (by decide +kernel) ?_;refine zBf (by exact rfl) ?_;refine a_ Z<|i_ Z (bE Z)<|cD Z<|cD Z<|fI 1 Z<|a_ Z<|a_ Z<|i_ Z (bE Z)<|cD Z<|fI 1 Z<|a_ Z<|a_ Z<|a_ Z<|fZ h λcC c2 h=>zBd Z Z Z (zBc QQ (zA U a.2.1 D E a.2.2.2.2.2.2.1 D E F G z4 a.2.2.2.2.2.2.2.2.2.1 ((List.zip a.2.2.2.2.2.2.2.2.2.2.1 n.2.2.2.1)) a.2.2.2.2.2.2.2.1 (List.zip a.2.2.2.2.2.2.2.2.1 n.1) Y.1 ((List.zip Y.2 af)) cC c2) Z (aE.cons (aA.res 3 Z) (aE.cons (aA.fact 5 Z) (aE.cons (aA.fact 6 Z) (aE.cons (aA.res 6 Z) (aE.cons (aA.fact 5 Z) (aE.cons (aA.fact 6 Z) (aE.cons (aA.fact 8 Z) (aE.cons (aA.fact 9 Z) (aE.cons (bF (i:=7) (j:=2) Z Z) (aE.cons (bZ (i:=4) (j:=5) Z Z bG) (aE.cons (bF (i:=0) (j:=0) Z Z) .nil)))))))))))) Z (λaF=>(nL [([2],[])] Z)) λaF=>bS 14 Z Z<|eB h λco h=>aD (bV Z Z (bF (i:=3) (j:=1) Z Z) Z Z co) Z<|aQ (Know.one ((cB (aA.res 0 Z) fO))) λbl=>cG (eQ 0 Z (cB (aA.res 0 Z) fO))<|aQ (bJ (aA.fact 2 Z)) λcp=>cG (cP (fE (Int.toNat ((at' g b.1).2.1)) (aA.fact 2 Z) (aA.fact 0 Z))) ?_;refine qI (lB (us:=[aF]) (o:=0) (q:=1) 2 aF ⟨co.1,(by have y:=co.2;have C:=cp;(try simp only[zA1]at y C⊢);omega)⟩ Z Z Z Z (by rw[show(aF).cells = #[aF]from dG bl]) Z Z Z (dH bl Z) Z) λdd=>?_;refine fH ?_;exact iK (List.set b.2.1 (Int.toNat ((at' g b.1).2.1)) cC) (List.set d.1 (Int.toNat ((at' g b.1).2.1)) aF) h (.inr Z) (BR.r0 Z) Z (aR.ix [1,2,3,4,5,6,7,8,9,10,11,12] Z Z) (g_ [0,4,5,6,7,8,9,10,11,12,13,14,15] Z)
      refine fV ?_;exact iK (b.2.1) (d.1) h (.inr Z) (BR.r0 Z) Z (aR.ix [1,2,3,4,5,6,7,8,9,10,11,12] Z Z) (g_ [1,2,3,4,5,6,7,8,9,10,11,12,13] Z)
     intro aj ay h;unfold Ad at h;refine aP<|aX<|aH Z<|aP<|aY<|aL ?_;exact iK ((0:Int),aj,b.2.2.2,b.2.2.1) (ay,d.2.2.1,d.2.2.2,d.2.1) h (.inl Z) (BR.r1 Z (RV.tmp Z)) Z (aR.refl _) (aE.refl _ _)
    refine dC<|aM<|aM<|iV (B:=Unit) (λab=>xA U s N g b (bP (fT U t s N g n) ae) ab=some r) (λab a0=>[(0,vP a.1),(3,vP bk),(55,vB (ab))]) (λab a0=>[bI bk [vI ((at' g b.1).1),vI ((at' g b.1).2.1),vI ((at' g b.1).2.2)] 28,bI a.1 [F,G,vI (N),vP a.2.1,a.2.2.1,a.2.2.2.1,a.2.2.2.2.1] 108,Ar aZ.raw a.2.2.1 d.1,bI a.2.1 [vS (t.1),D,E,vP a.2.2.2.2.2.2.1,a.2.2.2.2.2.2.2.1] 157,Ar aZ.raw a.2.2.2.2.2.2.2.1 a.2.2.2.2.2.2.2.2.1,eH bD a.2.2.2.2.2.2.2.2.1 n.1,bI a.2.2.2.2.2.2.1 [vS (t.1),D,E,F,G,vI (n.2.1),a.2.2.2.2.2.2.2.2.2.1] 206,Ar aZ.raw a.2.2.2.2.2.2.2.2.2.1 a.2.2.2.2.2.2.2.2.2.2.1,Ar aZ.raw a.2.2.2.1 a.2.2.2.2.2.2.2.2.2.2.2.1,eH aZ.raw a.2.2.2.2.2.2.2.2.2.2.2.1 d.2.1,Ar aZ.raw a.2.2.2.2.1 a.2.2.2.2.2.2.2.2.2.2.2.2.2.1,rJ aZ.raw a.2.2.2.2.2.2.2.2.2.2.2.2.2.1 d.2.2.1 d.2.2.2,bI b4 [cJ,cJ,cJ] 43]) (λab a0=>[mM aJ d.1 b.2.1,mM aJ a.2.2.2.2.2.2.2.2.2.2.1 n.2.2.2.1,yH aJ d.2.1 b.2.2.1,Ai aJ d.2.2.2 b.2.2.2,Sl aG D t.2.1,Sl aC E t.2.2,PF (Value.agg #[vS t.1,D,E]),Sl aJ F s.1,S2 aW G z4 s.2,S2 aJ v5 z6 K.1,S3 aJ v7 z8 K.2.1,S4 aJ v9 P K.2.2,Sl jJ O g]) ?_ ?_
    ·refine JR.start [0,1,3,7,15,31,15,79,207,463,975,15,2063,8143,16335,32719,65535,131071] 16 mixedOrders (by decide +kernel) ?_;refine zBf (by exact rfl) ?_;refine cD Z<|fI 0 Z<|i_ Z (FP Z Z)<|a_ Z ?_;refine Eo (by exact rfl) (by exact rfl) (by exact rfl) (λao=>?_) (λao=>?_)
     ·have h:=Km ao h;refine bY Z Z Z Z<|bY Z Z Z Z<|bY Z Z Z Z<|bY Z Z Z Z<|bY Z Z Z Z<|bY Z Z Z Z<|bY Z Z Z Z<|bY Z Z Z Z<|bY Z Z Z Z<|bY Z Z Z Z<|bY Z Z Z Z<|bY Z Z Z Z<|bS 16 Z Z<|aK Z<|fX Z<|aP ?_;exact kC (true) () h SF Z
     have h:=Zt ao h;refine gG Z .nil .nil (eT Z Z Z Z Z) aO.z<|gG Z (aR.cons 0 Z .nil) .nil (fS 0 Z Z Z Z Z) aO.z<|gG Z .nil .nil (iW Z) aO.z<|gG Z .nil .nil (bE Z) aO.z<|gG Z .nil .nil (eT Z Z Z Z Z) aO.z<|gG Z .nil .nil (eT Z Z Z Z Z) aO.z<|gG Z (aR.cons 1 Z .nil) .nil (fS 0 Z Z Z Z Z) aO.z<|gG Z .nil .nil (eT Z Z Z Z Z) aO.z<|gG Z (aR.cons 0 Z .nil) .nil (fS 0 Z Z Z Z Z) aO.z<|eB h λaw h=>gG Z .nil (mK 8 Z) (bV Z Z (aA.fact 0 Z) Z Z aw) aO.z<|gG Z .nil (mK 8 Z) (cM Z (aA.fact 0 Z) Z Z aw) aO.z<|gG Z .nil (mK 8 Z) (gY Z (zBe (aA.fact 0 Z) aw.1 aw.2) Z) aO.z<|bS 16 Z Z<|aS Z (BS Z Z) Z<|fG Z<|aP ?_;exact kC (decide (((at' s.2 ((at' g b.1).2.1)).length:Int)<=((at' g b.1).2.2))) () h SF Z
    intro ab a0 h;refine Bf h Z (λ_ h=>?_) λ_ h=>?_
    ·refine aX<|aH Z<|aP<|aY<|aL ?_;exact iK ((2:Int),b.2.1,b.2.2.2,b.2.2.1) (d.1,d.2.2.1,d.2.2.2,d.2.1) h (.inl Z) (BR.r1 Z (RV.tmp Z)) Z (aR.ix [1,2,3,4,5,6,7,8,9,10,11,12] Z Z) (aE.refl _ _)
    refine dC<|aM<|aX<|cA Z<|eW 0 Z<|eL Z<|aP ?_;refine f_ h Z (λh=>?_) λh=>?_
    ·refine aX<|aB Z<|cA Z<|eW 0 Z<|cA Z<|eW 0 Z<|vJ (A:=Br) (B:=List (List Value)×List (List (List Value))) (vs:=[vP a.1,vI ((at' g b.1).2.1),vI ((at' g b.1).2.2)]) (λT=>Ae b (bP (fT U t s N g n) ae) T=some r) (λT Q=>Value.tuple #[]) (λT Q=>[bI a.1 [F,G,vI (N),vP a.2.1,a.2.2.1,a.2.2.2.1,a.2.2.2.2.1] 108,Ar aZ.raw a.2.2.1 d.1,bI a.2.1 [vS (t.1),D,E,vP a.2.2.2.2.2.2.1,a.2.2.2.2.2.2.2.1] 157,Ar aZ.raw a.2.2.2.2.2.2.2.1 a.2.2.2.2.2.2.2.2.1,eH bD a.2.2.2.2.2.2.2.2.1 n.1,bI a.2.2.2.2.2.2.1 [vS (t.1),D,E,F,G,vI (n.2.1),a.2.2.2.2.2.2.2.2.2.1] 206,Ar aZ.raw a.2.2.2.2.2.2.2.2.2.1 a.2.2.2.2.2.2.2.2.2.2.1,Ar aZ.raw a.2.2.2.1 a.2.2.2.2.2.2.2.2.2.2.2.1,eH aZ.raw a.2.2.2.2.2.2.2.2.2.2.2.1 d.2.1,Ar aZ.raw a.2.2.2.2.1 a.2.2.2.2.2.2.2.2.2.2.2.2.2.1,rJ aZ.raw a.2.2.2.2.2.2.2.2.2.2.2.2.2.1 Q.1 Q.2,bI b4 [cJ,cJ,cJ] 43]) (λT Q=>[Ai aJ Q.2 T,mM aJ d.1 b.2.1,mM aJ a.2.2.2.2.2.2.2.2.2.2.1 n.2.2.2.1,yH aJ d.2.1 b.2.2.1,Sl aG D t.2.1,Sl aC E t.2.2,PF (Value.agg #[vS t.1,D,E]),Sl aJ F s.1,S2 aW G z4 s.2,S2 aJ v5 z6 K.1,S3 aJ v7 z8 K.2.1,S4 aJ v9 P K.2.2,Sl jJ O g]) (mO.fn (show bB Tryz.prog 109 from Tryz.call109) Z) Tryz.func109 Z Tryz.ntmps109 Z Z ?_ ?_
     ·refine aX<|aB Z<|aD (bE Z) Z<|cA Z<|cA Z<|eW 1 Z<|aB Z<|eB h λp h=>aD (bV Z Z (cF (i:=10) (q:=11) (j:=3) Z Z Z) Z Z p) Z<|aQ (yT 11 Z) λbu=>aQ (bJ (aA.fact 3 Z)) λbw=>aD (eR 10 Z Z (bu.trans bw) Z Z p) Z<|aB Z<|eB h λH h=>aD (bV Z Z (Ky (q:=11) (j:=3) Z Z p.1 p.2) Z Z H) Z ?_;refine aH Z<|aP<|aM ?_;refine JR.start [0,1,3,7,0,16,48,112,255] 8 mixedOrders (by decide +kernel) ?_;refine zBf (by exact rfl) ?_;refine a_ Z<|i_ Z (sC Z)<|aU (bJ (aA.fact 3 Z)) λa1=>?_;refine aU (r_ (k:=((at' g b.1).2.1)) 11 Z ⟨p.1,(by have y:=p.2;have C:=a1;(try simp only[zA1]at y C⊢);omega)⟩) λbx=>?_;refine aU (bJ (bX (aA.fact 3 Z) p.1 p.2)) λbz=>?_;refine bQ Z (aR.cons 11 Z .nil) .nil (dJ (f:=λx=>x) Z (yU (q:=0) Z p.1 (by have y:=p.2;have C:=a1;(try simp only[zA1]at y C⊢);omega)) Z Z Z mC ⟨H.1,(by have y:=H.2;have C:=bx;have q2:=bz;(try simp only[zA1]at y C q2⊢);omega)⟩) aO.z ?_;refine bQ Z (aR.cons 11 Z .nil) (mK 3 Z) (eP Z (GY (q:=0) (j:=0) Z Z p H) Z) aO.z<|a_ Z<|i_ Z (bE Z)<|cD Z<|fI 1 Z<|bS 8 Z Z<|dM Z<|aP ?_;refine f_ h Z (λh=>?_) λh=>?_
      ·refine JR.start [0,0,2,6,0,16,48,112,240,0,1008,2032,4080,8176,16382,32767,65535] 15 mixedOrders (by decide +kernel) ?_;refine zBf (by exact rfl) ?_;refine a_ Z<|a_ Z<|i_ Z (sC Z)<|aU (bJ (aA.fact 3 Z)) λa2=>?_;refine aU (r_ (k:=((at' g b.1).2.1)) 11 Z ⟨p.1,(by have y:=p.2;have C:=a2;(try simp only[zA1]at y C⊢);omega)⟩) λbA=>?_;refine aU (bJ (bX (aA.fact 3 Z) p.1 p.2)) λbC=>?_;refine bQ Z (aR.cons 11 Z .nil) .nil (dJ (f:=λx=>x) Z (yU (q:=0) Z p.1 (by have y:=p.2;have C:=a2;(try simp only[zA1]at y C⊢);omega)) Z Z Z mC ⟨H.1,(by have y:=H.2;have C:=bA;have q2:=bC;(try simp only[zA1]at y C q2⊢);omega)⟩) aO.z ?_;refine a_ Z<|i_ Z (bE Z)<|cD Z<|cD Z<|fI 1 Z<|a_ Z<|eB h λav h=>aU (gH (bF (i:=2) (j:=0) Z Z)) λbH=>i_ Z (hZ Z Z bH Z Z av)<|aU (bJ (aA.fact 0 Z)) λbK=>bQ Z (aR.cons 2 Z .nil) .nil (eR 0 Z Z bK Z Z av) aO.z<|fZ h λbo cN h=>zBd Z Z Z (zBc Py (AR U (at' d.1 ((at' g b.1).2.1)) bo cN) Z (aE.cons (bX (aA.fact 0 Z) av.1 av.2) .nil)) Z (λah=>(nL [([12],[])] Z)) λah=>?_;refine aU (Know.one ((cB (aA.res 0 Z) fO))) λbd=>zBg (eQ 0 Z (cB (aA.res 0 Z) fO))<|zBg (cP (sX (aA.fact 0 Z) fD))<|zBd Z Z Z (cU (e:=aZ.raw) ([ah]) [(0,ah)] Z Z Z Z (uF (ah) bd) Z Z (dH bd Z)) Z (λcI=>(nL [([12],[])] Z)) λcI=>aU (yT 12 Z) λcS=>aU (bJ (aA.fact 5 Z)) λa3=>?_;refine aU (r_ (k:=((at' g b.1).2.1)) 12 Z ⟨p.1,(by have y:=p.2;have C:=a3;(try simp only[zA1]at y C⊢);omega)⟩) λbN=>?_;refine zBg (FK (k:=((at' g b.1).2.1)) 12 Z ⟨p.1,(by have y:=p.2;have C:=a3;(try simp only[zA1]at y C⊢);omega)⟩) ?_;refine aU (bJ (bX (aA.fact 5 Z) p.1 p.2)) λbR=>?_;refine zBg (cP (bX (bX (aA.fact 5 Z) p.1 p.2) H.1 H.2)) ?_;refine zBg (Ds (k:=((at' g b.1).2.2)) 1 Z ⟨H.1,(by have y:=H.2;have C:=bR;(try simp only[zA1]at y C⊢);omega)⟩) ?_;refine aU (bJ (aA.fact 0 Z)) λa4=>aU (bJ (aA.fact 1 Z)) λa5=>eB h λbm h=>zBg (cP (vV (aA.fact 0 Z) (aA.fact 1 Z))) ?_;refine zBd Z Z Z (aN.append 0 3 Z Z Z Z Z Z Z (by have q:=bm;have y:=a4;have C:=a5;(try simp only[zAk,zB5,zAc]at *);omega) (by have q:=bm;have y:=a4;have C:=a5;(try simp only[zAk,zB5,zAc]at *);omega) Z) Z (λad=>(nL [] Z)) λad=>?_;refine bS 15 Z Z<|aD (sC Z) Z<|aQ (Know.one (aA.sl (bF (i:=0) (j:=0) Z Z))) λbe=>aQ (bJ (aA.fact 7 Z)) λam=>?_;refine aQ (bJ (bX (aA.fact 7 Z) p.1 p.2)) λa6=>?_;refine cG (cP (fE (Int.toNat ((at' g b.1).2.1)) (aA.fact 7 Z) (fE (Int.toNat ((at' g b.1).2.2)) (bX (aA.fact 7 Z) p.1 p.2) (aA.fact 0 Z)))) ?_;refine cG (Dq (k:=((at' g b.1).2.2)) 2 0 Z Z Z ⟨H.1,(by have y:=H.2;have C:=am;have q2:=a6;(try simp only[zA1]at y C q2⊢);omega)⟩) ?_;refine qI (lB (us:=[ad]) (o:=0) (q:=1) 0 ad ⟨H.1,(by have y:=H.2;have C:=am;have q2:=a6;have q3:=bN;(try simp only[zA1]at y C q2 q3⊢);omega)⟩ Z Z Z Z (by rw[show(ad).cells = #[ad]from dG be]) Z Z Z (dH be Z) Z) λc5=>?_;refine cG (HQ (k:=((at' g b.1).2.1)) (vs:=a.2.2.2.2.2.2.2.2.2.2.2.2.2.1) (wss:=d.2.2.1) (xsss:=d.2.2.2) (i':=13) (j':=0) 14 0 1 Z Z Z Z Z Z Z ⟨p.1,(by have y:=p.2;have C:=am;(try simp only[zA1]at y C⊢);omega)⟩) ?_;refine fH ?_;exact iK (List.set b.2.2.2 (Int.toNat ((at' g b.1).2.1)) (List.set (at' b.2.2.2 ((at' g b.1).2.1)) (Int.toNat ((at' g b.1).2.2)) ((at' (at' b.2.2.2 ((at' g b.1).2.1)) ((at' g b.1).2.2))++[bo]))) ((List.set d.2.2.1 (Int.toNat ((at' g b.1).2.1)) (List.set (at' d.2.2.1 ((at' g b.1).2.1)) (Int.toNat ((at' g b.1).2.2)) ad)),(List.set d.2.2.2 (Int.toNat ((at' g b.1).2.1)) (List.set (at' d.2.2.2 ((at' g b.1).2.1)) (Int.toNat ((at' g b.1).2.2)) ((at' (at' d.2.2.2 ((at' g b.1).2.1)) ((at' g b.1).2.2))++[ah])))) h (.inr Z) (BR.r0 Z) Z (aR.ix [2,3,4,5,6,7,8,9,10,11,12,13] Z Z) (g_ [0,5,6,7,9,10,11,12,13,14,15,16,17] Z)
      refine fV ?_;exact iK (b.2.2.2) (d.2.2.1,d.2.2.2) h (.inr Z) (BR.r0 Z) Z (aR.ix [1,2,3,4,5,6,7,8,9,10,11,12] Z Z) (g_ [3,0,1,2,4,5,6,7,8,9,10,11,12] Z)
     intro T Q h;unfold Ae at h;refine aP<|aX<|aH Z<|aP<|aY<|aL ?_;exact iK ((0:Int),b.2.1,T,b.2.2.1) (d.1,Q.1,Q.2,d.2.1) h (.inl Z) (BR.r1 Z (RV.tmp Z)) Z (aR.refl _) (g_ [1,2,3,0,4,5,6,7,8,9,10,11,12] Z)
    refine dC<|aM ?_;refine JR.start [0,1,3,7,15,0,32,127,255,0,512,2047,4095,8191,16383] 11 mixedOrders (by decide +kernel) ?_;refine zBf (by exact rfl) ?_;refine a_ Z<|i_ Z (bE Z)<|cD Z<|cD Z<|fI 1 Z<|cD Z<|fI 0 Z<|eB h λac h=>bQ Z .nil (mK 8 Z) (bV Z Z (aA.fact 0 Z) Z Z ac) aO.z<|bQ Z .nil (mK 8 Z) (cM Z (aA.fact 0 Z) Z Z ac) aO.z<|cD Z<|fI 0 Z<|bS 11 Z Z<|eB h λbn h=>aD (b_ Z Z (zBe (aA.fact 8 Z) ac.1 ac.2) Z Z bn) Z<|aD (nS Z Z Z Z Z) Z<|aD (qL Z (zBe (aA.fact 8 Z) ac.1 ac.2) Z Z Z Ap bn) Z<|aH Z<|aP<|aM ?_;refine JR.start [0,1,3,7,15,0,63,127,0,256,768,1792,0,0,8192,32512,65535,131071] 16 mixedOrders (by decide +kernel) ?_;refine zBf (by exact rfl) ?_;refine a_ Z<|i_ Z (bE Z)<|cD Z<|cD Z<|fI 1 Z<|a_ Z<|eB h λm h=>aU (gH (cF (i:=10) (q:=11) (j:=3) Z Z Z)) λbT=>i_ Z (hZ Z Z bT Z Z m)<|aU (yT 11 Z) λbW=>aU (bJ (aA.fact 3 Z)) λb0=>bQ Z (aR.cons 10 Z .nil) .nil (eR 0 Z Z (bW.trans b0) Z Z m) aO.z<|a_ Z<|i_ Z (bE Z)<|cD Z<|bQ Z (aR.cons 1 Z .nil) .nil (IZ 0 (us:=[F,G]) Z Z Z Z Z Z) aO.z<|a_ Z<|cD Z<|fI 0 Z<|fZ h λv cO h=>zBd Z Z Z (zBc Iu (xL U F G z4 v cO) Z (g_ [7,8] Z)) Z (λcQ=>(nL [([10],[]),([1],[])] Z)) λcQ=>bS 16 Z Z<|eB h λu h=>aD (bV Z Z (Ky (q:=11) (j:=3) Z Z m.1 m.2) Z Z u) Z ?_;refine aH Z<|aP<|aM<|aX<|aB Z<|aD (sC Z) Z<|aQ (bJ (aA.fact 3 Z)) λa7=>?_;refine aQ (r_ (k:=((at' (at' s.2 ((at' g b.1).2.1)) ((at' g b.1).2.2)).1)) 11 Z ⟨m.1,(by have y:=m.2;have C:=a7;(try simp only[zA1]at y C⊢);omega)⟩) λb5=>?_;refine aQ (bJ (bX (aA.fact 3 Z) m.1 m.2)) λb6=>?_;refine aD (dJ (f:=λx=>x) Z (yU (q:=11) Z m.1 (by have y:=m.2;have C:=a7;(try simp only[zA1]at y C⊢);omega)) Z Z Z mC ⟨u.1,(by have y:=u.2;have C:=b5;have q2:=b6;(try simp only[zA1]at y C q2⊢);omega)⟩) Z ?_;refine aD (eP Z (GY (q:=11) (j:=3) Z Z m u) Z) Z<|eL Z<|aP ?_;refine f_ h Z (λh=>?_) λh=>?_
    ·refine aX<|aH Z<|aP<|aY<|aL ?_;exact iK ((0:Int),b.2.1,b.2.2.2,b.2.2.1) (d.1,d.2.2.1,d.2.2.2,d.2.1) h (.inl Z) (BR.r1 Z (RV.tmp Z)) Z (aR.ix [1,2,3,4,5,6,7,8,9,10,11,12] Z Z) (aE.refl _ _)
    refine dC<|aM<|iV (B:=xP) (λV=>xB s g b (bP (fT U t s N g n) ae) v V=some r) (λV X=>[(6,Ct (at' a.2.2.2.2.2.2.2.2.2.2.2.2.2.1 ((at' (at' s.2 ((at' g b.1).2.1)) ((at' g b.1).2.2)).1)) (Int.toNat (v)*1))]) (λV X=>[bI a.1 [F,G,vI (N),vP a.2.1,a.2.2.1,a.2.2.2.1,a.2.2.2.2.1] 108,Ar aZ.raw a.2.2.1 d.1,bI a.2.1 [vS (t.1),D,E,vP a.2.2.2.2.2.2.1,a.2.2.2.2.2.2.2.1] 157,Ar aZ.raw a.2.2.2.2.2.2.2.1 a.2.2.2.2.2.2.2.2.1,eH bD a.2.2.2.2.2.2.2.2.1 n.1,bI a.2.2.2.2.2.2.1 [vS (t.1),D,E,F,G,vI (n.2.1),a.2.2.2.2.2.2.2.2.2.1] 206,Ar aZ.raw a.2.2.2.2.2.2.2.2.2.1 a.2.2.2.2.2.2.2.2.2.2.1,Ar aZ.raw a.2.2.2.1 a.2.2.2.2.2.2.2.2.2.2.2.1,eH aZ.raw a.2.2.2.2.2.2.2.2.2.2.2.1 X,Ar aZ.raw a.2.2.2.2.1 a.2.2.2.2.2.2.2.2.2.2.2.2.2.1,rJ aZ.raw a.2.2.2.2.2.2.2.2.2.2.2.2.2.1 d.2.2.1 d.2.2.2,bI b4 [cJ,cJ,cJ] 43]) (λV X=>[yH aJ X V,mM aJ d.1 b.2.1,mM aJ a.2.2.2.2.2.2.2.2.2.2.1 n.2.2.2.1,Ai aJ d.2.2.2 b.2.2.2,Sl aG D t.2.1,Sl aC E t.2.2,PF (Value.agg #[vS t.1,D,E]),Sl aJ F s.1,S2 aW G z4 s.2,S2 aJ v5 z6 K.1,S3 aJ v7 z8 K.2.1,S4 aJ v9 P K.2.2,Sl jJ O g]) ?_ ?_
    ·refine aX<|cA Z<|eW 0 Z<|eL Z<|aP ?_;refine f_ h Z (λh=>?_) λh=>?_
     ·refine JR.start [0,1,3,7,15,0,32,127,255,0,512,0,2048,6144,14336,30720,65535,131071] 16 mixedOrders (by decide +kernel) ?_;refine zBf (by exact rfl) ?_;refine a_ Z<|i_ Z (bE Z)<|cD Z<|cD Z<|fI 1 Z<|cD Z<|fI 0 Z<|eB h λL h=>aU (gH (bU (i:=8) (q:=9) (j:=2) Z Z Z)) λcc=>i_ Z (hZ Z Z cc Z Z L)<|aU (cH 9 Z) λcd=>aU (bJ (aA.fact 2 Z)) λce=>bQ Z (aR.cons 8 Z .nil) .nil (eR 0 Z Z (cd.trans ce) Z Z L) aO.z<|cD Z<|fI 0 Z<|a_ Z<|i_ Z (sC Z)<|aU (bJ (aA.fact 3 Z)) λbb=>?_;refine aU (r_ (k:=((at' (at' s.2 ((at' g b.1).2.1)) ((at' g b.1).2.2)).1)) 11 Z ⟨m.1,(by have y:=m.2;have C:=bb;(try simp only[zA1]at y C⊢);omega)⟩) λcf=>?_;refine aU (bJ (bX (aA.fact 3 Z) m.1 m.2)) λcg=>?_;refine bQ Z (aR.cons 11 Z .nil) .nil (dJ (f:=λx=>x) Z (yU (q:=0) Z m.1 (by have y:=m.2;have C:=bb;(try simp only[zA1]at y C⊢);omega)) Z Z Z mC ⟨u.1,(by have y:=u.2;have C:=cf;have q2:=cg;(try simp only[zA1]at y C q2⊢);omega)⟩) aO.z<|eB h λaa h=>aU (gH (GY (q:=11) (j:=3) Z Z m u)) λch=>i_ Z (hZ Z Z ch Z Z aa)<|aU (bJ (aA.fact 3 Z)) λci=>?_;refine aU (bJ (bX (aA.fact 3 Z) m.1 m.2)) λcj=>?_;refine aU (bJ (bX (bX (aA.fact 3 Z) m.1 m.2) u.1 u.2)) λcl=>?_;refine bQ Z (aR.cons 11 Z .nil) .nil (dJ (f:=λx=>x) Z (Nb (q:=0) Z ⟨m.1,(by have y:=m.2;have C:=ci;(try simp only[zA1]at y C⊢);omega)⟩ ⟨u.1,(by have y:=u.2;have C:=cj;(try simp only[zA1]at y C⊢);omega)⟩) Z Z Z mC ⟨aa.1,(by have y:=aa.2;have C:=cl;(try simp only[zA1]at y C⊢);omega)⟩) aO.z ?_;refine bS 16 Z Z<|eB h λbi h=>aD (bV Z Z (vW (q:=9) (j:=2) Z Z L.1 L.2) Z Z bi) Z ?_;refine aQ (Know.one ((bX (bX (bX (aA.fact 3 Z) m.1 m.2) u.1 u.2) aa.1 aa.2))) λbg=>?_;refine aQ (bJ (aA.fact 2 Z)) λcm=>?_;refine aQ (bJ (bX (aA.fact 2 Z) L.1 L.2)) λcn=>?_;refine cG (cP (fE (Int.toNat ((at' g b.1).2.1)) (aA.fact 2 Z) (fE (Int.toNat ((at' g b.1).2.2)) (bX (aA.fact 2 Z) L.1 L.2) (bX (bX (bX (aA.fact 3 Z) m.1 m.2) u.1 u.2) aa.1 aa.2)))) ?_;refine qI (pF (us:=[at' (at' (at' d.2.2.2 ((at' (at' s.2 ((at' g b.1).2.1)) ((at' g b.1).2.2)).1)) v) (0:Int)]) (o:=0) (q:=1) (k:=((at' g b.1).2.1)) 9 (at' (at' (at' d.2.2.2 ((at' (at' s.2 ((at' g b.1).2.1)) ((at' g b.1).2.2)).1)) v) (0:Int)) ⟨L.1,(by have y:=L.2;have C:=cm;(try simp only[zA1]at y C⊢);omega)⟩ ⟨bi.1,(by have y:=bi.2;have C:=cn;(try simp only[zA1]at y C⊢);omega)⟩ Z Z Z Z (by rw[dG bg]) Z Z Z (dH bg Z) Z) λc7=>?_;refine aP ?_;exact cK (List.set b.2.2.1 (Int.toNat ((at' g b.1).2.1)) (List.set (at' b.2.2.1 ((at' g b.1).2.1)) (Int.toNat ((at' g b.1).2.2)) (at' (at' (at' b.2.2.2 ((at' (at' s.2 ((at' g b.1).2.1)) ((at' g b.1).2.2)).1)) v) (0:Int)))) (List.set d.2.1 (Int.toNat ((at' g b.1).2.1)) (List.set (at' d.2.1 ((at' g b.1).2.1)) (Int.toNat ((at' g b.1).2.2)) (at' (at' (at' d.2.2.2 ((at' (at' s.2 ((at' g b.1).2.1)) ((at' g b.1).2.2)).1)) v) (0:Int)))) h SF (aR.ix [1,2,3,4,5,6,7,8,9,10,11,12] Z Z) (g_ [0,1,2,4,5,6,7,8,9,10,11,12,13] Z)
     refine dC ?_;exact cK (b.2.2.1) (d.2.1) h SF (aR.ix [1,2,3,4,5,6,7,8,9,10,11,12] Z Z) (g_ [2,0,1,3,4,5,6,7,8,9,10,11,12] Z)
    intro V X h;refine aX<|aB Z<|aB Z<|aD (sC Z) Z<|aQ (bJ (aA.fact 3 Z)) λa8=>?_;refine aQ (r_ (k:=((at' (at' s.2 ((at' g b.1).2.1)) ((at' g b.1).2.2)).1)) 10 Z ⟨m.1,(by have y:=m.2;have C:=a8;(try simp only[zA1]at y C⊢);omega)⟩) λb7=>?_;refine aQ (bJ (bX (aA.fact 3 Z) m.1 m.2)) λb8=>?_;refine aD (dJ (f:=λx=>x) Z (yU (q:=10) Z m.1 (by have y:=m.2;have C:=a8;(try simp only[zA1]at y C⊢);omega)) Z Z Z mC ⟨u.1,(by have y:=u.2;have C:=b7;have q2:=b8;(try simp only[zA1]at y C q2⊢);omega)⟩) Z ?_;refine aQ (yT 10 Z) λcT=>aQ (bJ (aA.fact 3 Z)) λa9=>?_;refine aQ (r_ (k:=((at' (at' s.2 ((at' g b.1).2.1)) ((at' g b.1).2.2)).1)) 10 Z ⟨m.1,(by have y:=m.2;have C:=a9;(try simp only[zA1]at y C⊢);omega)⟩) λb9=>?_;refine cG (FK (k:=((at' (at' s.2 ((at' g b.1).2.1)) ((at' g b.1).2.2)).1)) 10 Z ⟨m.1,(by have y:=m.2;have C:=a9;(try simp only[zA1]at y C⊢);omega)⟩) ?_;refine aQ (bJ (bX (aA.fact 3 Z) m.1 m.2)) λca=>?_;refine cG (cP (bX (bX (aA.fact 3 Z) m.1 m.2) u.1 u.2)) ?_;refine cG (Ds (k:=v) 1 Z ⟨u.1,(by have y:=u.2;have C:=ca;(try simp only[zA1]at y C⊢);omega)⟩)<|eB h λcx h=>aQ (bJ (aA.fact 0 Z)) λcb=>cG (cP (vV (LJ (Int.toNat (0:Int)) (aA.fact 0 Z)) (LG (Int.toNat (1:Int)) (aA.fact 0 Z)))) ?_;refine aI (Ao (Min:=[Ar aZ.raw (at' (at' d.2.2.1 ((at' (at' s.2 ((at' g b.1).2.1)) ((at' g b.1).2.2)).1)) v) (at' (at' d.2.2.2 ((at' (at' s.2 ((at' g b.1).2.1)) ((at' g b.1).2.2)).1)) v)]) (Mr:=[Ar aZ.raw (at' a.2.2.2.2.2.2.2.2.2.2.2.2.2.1 ((at' (at' s.2 ((at' g b.1).2.1)) ((at' g b.1).2.2)).1)) (at' d.2.2.1 ((at' (at' s.2 ((at' g b.1).2.1)) ((at' g b.1).2.2)).1)),eH aZ.raw (List.set (at' d.2.2.1 ((at' (at' s.2 ((at' g b.1).2.1)) ((at' g b.1).2.2)).1)) (Int.toNat v) (cJ)) (List.set (at' d.2.2.2 ((at' (at' s.2 ((at' g b.1).2.1)) ((at' g b.1).2.2)).1)) (Int.toNat v) []),bI a.1 [F,G,vI (N),vP a.2.1,a.2.2.1,a.2.2.2.1,a.2.2.2.2.1] 108,Ar aZ.raw a.2.2.1 d.1,bI a.2.1 [vS (t.1),D,E,vP a.2.2.2.2.2.2.1,a.2.2.2.2.2.2.2.1] 157,Ar aZ.raw a.2.2.2.2.2.2.2.1 a.2.2.2.2.2.2.2.2.1,eH bD a.2.2.2.2.2.2.2.2.1 n.1,bI a.2.2.2.2.2.2.1 [vS (t.1),D,E,F,G,vI (n.2.1),a.2.2.2.2.2.2.2.2.2.1] 206,Ar aZ.raw a.2.2.2.2.2.2.2.2.2.1 a.2.2.2.2.2.2.2.2.2.2.1,Ar aZ.raw a.2.2.2.1 a.2.2.2.2.2.2.2.2.2.2.2.1,eH aZ.raw a.2.2.2.2.2.2.2.2.2.2.2.1 X,Ar aZ.raw a.2.2.2.2.1 a.2.2.2.2.2.2.2.2.2.2.2.2.2.1,rJ aZ.raw (List.set a.2.2.2.2.2.2.2.2.2.2.2.2.2.1 (Int.toNat ((at' (at' s.2 ((at' g b.1).2.1)) ((at' g b.1).2.2)).1)) (cJ)) (List.set d.2.2.1 (Int.toNat ((at' (at' s.2 ((at' g b.1).2.1)) ((at' g b.1).2.2)).1)) []) (List.set d.2.2.2 (Int.toNat ((at' (at' s.2 ((at' g b.1).2.1)) ((at' g b.1).2.2)).1)) []),bI b4 [cJ,cJ,cJ] 43]) XG (HG U (at' (at' d.2.2.1 ((at' (at' s.2 ((at' g b.1).2.1)) ((at' g b.1).2.2)).1)) v) (p0:=at' (at' d.2.2.2 ((at' (at' s.2 ((at' g b.1).2.1)) ((at' g b.1).2.2)).1)) v) (p1:=(0:Int)) (p2:=(1:Int)) (List.take (Int.toNat (0:Int)) (at' (at' d.2.2.2 ((at' (at' s.2 ((at' g b.1).2.1)) ((at' g b.1).2.2)).1)) v)++List.drop (Int.toNat (1:Int)) (at' (at' d.2.2.2 ((at' (at' s.2 ((at' g b.1).2.1)) ((at' g b.1).2.2)).1)) v)) (by have y:=cx;have C:=cb;unfold BZ ck;rw[if_pos (by omega),if_neg (by omega),if_pos (by omega),if_pos (by omega),if_pos (by omega)])) Z (aR.refl _) aE.nil (λ_ _=>rfl)) Z λai=>?_;refine aD (sC Z) Z<|aQ (Know.one (aA.sl (bF (i:=0) (j:=0) Z Z))) λbf=>aQ (bJ (aA.fact 5 Z)) λan=>?_;refine aQ (bJ (bX (aA.fact 5 Z) m.1 m.2)) λba=>?_;refine cG (cP (fE (Int.toNat ((at' (at' s.2 ((at' g b.1).2.1)) ((at' g b.1).2.2)).1)) (aA.fact 5 Z) (fE (Int.toNat v) (bX (aA.fact 5 Z) m.1 m.2) (aA.fact 0 Z)))) ?_;refine cG (Dq (k:=v) 2 0 Z Z Z ⟨u.1,(by have y:=u.2;have C:=an;have q2:=ba;(try simp only[zA1]at y C q2⊢);omega)⟩) ?_;refine qI (lB (us:=[ai]) (o:=0) (q:=1) 0 ai ⟨u.1,(by have y:=u.2;have C:=an;have q2:=ba;have q3:=b9;(try simp only[zA1]at y C q2 q3⊢);omega)⟩ Z Z Z Z (by rw[show(ai).cells = #[ai]from dG bf]) Z Z Z (dH bf Z) Z) λc6=>?_;refine cG (HQ (k:=((at' (at' s.2 ((at' g b.1).2.1)) ((at' g b.1).2.2)).1)) (vs:=a.2.2.2.2.2.2.2.2.2.2.2.2.2.1) (wss:=d.2.2.1) (xsss:=d.2.2.2) (i':=11) (j':=0) 12 0 1 Z Z Z Z Z Z Z ⟨m.1,(by have y:=m.2;have C:=an;(try simp only[zA1]at y C⊢);omega)⟩) ?_;refine aP<|aX<|aH Z<|aP<|aY ?_;exact iK ((0:Int),b.2.1,(List.set b.2.2.2 (Int.toNat ((at' (at' s.2 ((at' g b.1).2.1)) ((at' g b.1).2.2)).1)) (List.set (at' b.2.2.2 ((at' (at' s.2 ((at' g b.1).2.1)) ((at' g b.1).2.2)).1)) (Int.toNat v) (List.take (Int.toNat (0:Int)) (at' (at' b.2.2.2 ((at' (at' s.2 ((at' g b.1).2.1)) ((at' g b.1).2.2)).1)) v)++List.drop (Int.toNat (1:Int)) (at' (at' b.2.2.2 ((at' (at' s.2 ((at' g b.1).2.1)) ((at' g b.1).2.2)).1)) v)))),V) (d.1,(List.set d.2.2.1 (Int.toNat ((at' (at' s.2 ((at' g b.1).2.1)) ((at' g b.1).2.2)).1)) (List.set (at' d.2.2.1 ((at' (at' s.2 ((at' g b.1).2.1)) ((at' g b.1).2.2)).1)) (Int.toNat v) ai)),(List.set d.2.2.2 (Int.toNat ((at' (at' s.2 ((at' g b.1).2.1)) ((at' g b.1).2.2)).1)) (List.set (at' d.2.2.2 ((at' (at' s.2 ((at' g b.1).2.1)) ((at' g b.1).2.2)).1)) (Int.toNat v) (List.take (Int.toNat (0:Int)) (at' (at' d.2.2.2 ((at' (at' s.2 ((at' g b.1).2.1)) ((at' g b.1).2.2)).1)) v)++List.drop (Int.toNat (1:Int)) (at' (at' d.2.2.2 ((at' (at' s.2 ((at' g b.1).2.1)) ((at' g b.1).2.2)).1)) v)))),X) h (.inl Z) (BR.r1 Z (RV.tmp Z)) Z (aR.refl _) (g_ [4,5,3,0,7,8,9,10,11,12,13,14,15] Z)
   intro R M h;refine aH Z<|aP<|aX<|aB Z<|oM Z<|aP ?_;refine f_ h Z (λh=>?_) λh=>?_
   ·refine aX ?_;refine aD (IX (r:=Value.agg #[cJ,cJ,cJ]) (by intro w;simp[Instr.build,Instr.fill,dO,cV,cL,dQ,dR,cW,eN])) Z ?_;refine aB Z<|bL 11 (vs:=[cJ,cJ,cJ]) Z Z Z Z Z Z<|aH Z<|aP<|aY<|cE<|aL<|aL<|cE<|aL ?_;cases h;exact kH ((cJ),([]),(cJ),([]),(cJ),([])) Z Z (RV.cell 11 Z Z Z Z) (RV.tmp Z) .nil (aE.cons qJ (aE.cons qJ (aE.cons qJ aE.nil)))
   refine fV<|oV<|aT<|dK Z<|aB Z<|aP ?_;exact Bw ((wI .i64 (b.1+(1:Int))),R.2.1,R.2.2.2,R.2.2.1) (M.1,M.2.2.2,M.2.1,M.2.2.1) h SF Z
  refine gC ?_;exact kC (b.2.1,b.2.2.1,b.2.2.2) (d.1,d.2.1,d.2.2.1,d.2.2.2) h SF Z
 intro W J h;unfold Ac at h;refine aX<|aB Z<|aD (bE Z) Z<|cA Z<|aD (IZ 0 (us:=[a.2.2.1,a.2.2.2.1,a.2.2.2.2.1]) Z Z Z Z Z Z) Z<|aQ (Know.one (aA.sl (bF (i:=1) (j:=0) Z Z))) λcu=>aQ (Know.one (aA.sl (bU (i:=7) (q:=8) (j:=2) Z Z Z))) λcv=>aQ (Know.one (aA.sl (cF (i:=9) (q:=10) (j:=3) Z Z Z))) λcw=>bL 11 (vs:=[a.2.2.1,a.2.2.2.1,a.2.2.2.2.1]) Z Z (dH cu (dH cv (dH cw Z))) Z Z Z<|aH Z<|aP<|aY<|cG (eQ 1 Z (bF (i:=0) (j:=0) Z Z))<|cG (kQ [Ar aZ.raw a.2.2.2.1 a.2.2.2.2.2.2.2.2.2.2.2.1,eH aZ.raw a.2.2.2.2.2.2.2.2.2.2.2.1 J.2.1] [bI a.1 [F,G,vI (N),vP a.2.1,a.2.2.1,a.2.2.2.1,a.2.2.2.2.1] 108,bI a.2.1 [vS (t.1),D,E,vP a.2.2.2.2.2.2.1,a.2.2.2.2.2.2.2.1] 157,Ar aZ.raw a.2.2.2.2.2.2.2.1 a.2.2.2.2.2.2.2.2.1,eH bD a.2.2.2.2.2.2.2.2.1 n.1,bI a.2.2.2.2.2.2.1 [vS (t.1),D,E,F,G,vI (n.2.1),a.2.2.2.2.2.2.2.2.2.1] 206,Ar aZ.raw a.2.2.2.2.2.2.2.2.2.1 a.2.2.2.2.2.2.2.2.2.2.1,Ar aZ.raw a.2.2.2.2.1 a.2.2.2.2.2.2.2.2.2.2.2.2.2.1,rJ aZ.raw a.2.2.2.2.2.2.2.2.2.2.2.2.2.1 J.2.2.1 J.2.2.2,bI b4 [a.2.2.1,a.2.2.2.1,a.2.2.2.2.1] 43] (aR.ix [6,7,0,1,2,3,4,5,8,9,10] Z Z) (bU (i:=0) (q:=1) (j:=3) Z Z Z))<|cG (kQ [Ar aZ.raw a.2.2.2.2.1 a.2.2.2.2.2.2.2.2.2.2.2.2.2.1,rJ aZ.raw a.2.2.2.2.2.2.2.2.2.2.2.2.2.1 J.2.2.1 J.2.2.2] [bI a.1 [F,G,vI (N),vP a.2.1,a.2.2.1,a.2.2.2.1,a.2.2.2.2.1] 108,bI a.2.1 [vS (t.1),D,E,vP a.2.2.2.2.2.2.1,a.2.2.2.2.2.2.2.1] 157,Ar aZ.raw a.2.2.2.2.2.2.2.1 a.2.2.2.2.2.2.2.2.1,eH bD a.2.2.2.2.2.2.2.2.1 n.1,bI a.2.2.2.2.2.2.1 [vS (t.1),D,E,F,G,vI (n.2.1),a.2.2.2.2.2.2.2.2.2.1] 206,Ar aZ.raw a.2.2.2.2.2.2.2.2.2.1 a.2.2.2.2.2.2.2.2.2.2.1,bI b4 [a.2.2.1,a.2.2.2.1,a.2.2.2.2.1] 43] (aR.ix [6,7,0,1,2,3,4,5,8] Z Z) (cF (i:=0) (q:=1) (j:=5) Z Z Z)) ?_;cases h;exact kH (a.2.2.1,(List.zip J.1 W.1),a.2.2.2.1,(Z3 a.2.2.2.2.2.2.2.2.2.2.2.1 J.2.1 W.2.1),a.2.2.2.2.1,(Z4 a.2.2.2.2.2.2.2.2.2.2.2.2.2.1 J.2.2.1 J.2.2.2 W.2.2)) Z Z (RV.cell 6 Z Z Z Z) (RV.tmp Z) .nil (g_ [2,1,0] Z)
def tF  (a:Int):Option (Int):=
 some (a)
def tG  (a:Int):Option (Int):=
 tF  (a)
def pT (b:fY) (a:gW->Option (Int)) (c:Int):Option (Int):=
 a (c,(wI .i64 (b.2+(1:Int))))
def yE (U:Nat) (p0:jX) (f:dL) (e:FE) (a:fY) (b:gW->Option (Int)) (c:bM):Option (Int):=
 Option.bind (cO U ((((p0.1,p0.2.1,p0.2.2)),((((p0.1,p0.2.1,p0.2.2)),((f.1,f.2)),e.2.1,e.2.2.2.1)),e.1)) c a.2) λd=>(if(0:Int)<=d then(ck (0<=a.2) (pT a b (Up .u32 a.1 (Kj .u32 (1:Int) a.2))))else(pT a b (a.1)))
def pU (U:Nat) (p0:jX) (d:dL) (e:FE) (b:fY) (a:gW->Option (Int)) (c:bM):Option (Int):=
 yE U p0 d e b a (c)
def pV (U:Nat) (p0:jX) (c:dL) (f:FE) (b:fY) (d:gW->Option (Int)) (a:xQ) (e:Ei->Option (Int)):Option (Int):=
 if a.1<((at' c.2 b.2).length:Int)then(ck (0<=a.1∧a.1<((at' c.2 b.2).length:Int)) (ck (0<=b.2∧b.2<(f.2.2.2.2.1.length:Int)) (ck (0<=a.1∧a.1<((at' f.2.2.2.2.1 b.2).length:Int)) (ck (0<=((at' (at' c.2 b.2) a.1).1)∧((at' (at' c.2 b.2) a.1).1)<(a.2.length:Int)) (e ((wI .i64 (a.1+(1:Int))),(List.set a.2 (Int.toNat ((at' (at' c.2 b.2) a.1).1)) (at' (at' f.2.2.2.2.1 b.2) a.1))))))))else(pU U p0 c f b d (a.2))
def gJ (U:Nat) (p0:jX) (c:dL) (d:FE) (a:fY) (b:gW->Option (Int)):Option (Int):=
 if a.2<(c.2.length:Int)then(ck ((d.2.2.1.length:Int)<=1099511627) (ck (0<=a.2∧a.2<(c.2.length:Int)) (bP (pV U p0 c d a b) U ((0:Int),d.2.2.1))))else(tG  (a.1))
def jB (U:Nat) (p0:jX) (b:dL) (a:rD):Option (Int):=
 Option.bind (kZ U ((p0.1,p0.2.1,p0.2.2)) ((b.1,b.2)) (8:Int) ((a.1,a.2.1,a.2.2))) λc=>(if(!c)=true then(some (0:Int))else(Option.bind (gU U ((p0.1,p0.2.1,p0.2.2)) ((b.1,b.2)) (8:Int) ((a.1,a.2.1,a.2.2))) λd=>(bP (gJ U p0 b d) U ((0:Int),(0:Int)))))
theorem Us:bB Tryz.prog 20:=Tryz.call20
theorem Da (U:Nat) {n:jX} {m:dL} {p2:rD} (W:Value)  (X:Value)  (T:Value)  (v3:Value)  (z4:iZ)  (v5:Value)  (z6:jY)  (v7:Value)  (z8:If)  (v9:Value)  (an:Ie) (r:Int) (h:jB U n m p2=some r):
  bO Tryz.prog 20 #[Value.agg #[vS (n.1),W,X],Value.agg #[T,v3],Value.agg #[v5,v7,v9]] [Sl aG W n.2.1,Sl aC X n.2.2,PF (Value.agg #[vS n.1,W,X]),Sl aJ T m.1,S2 aW v3 z4 m.2,S2 aJ v5 z6 p2.1,S3 aJ v7 z8 p2.2.1,S4 aJ v9 an p2.2.2] (λx:Unit=>vU (r)) (λx l=>l) (λ_ l=>l):=by
 let w:=Sl aC X n.2.2;let v:=Sl aG W n.2.1;let u:=S2 aJ v5 z6 p2.1;let t:=S2 aW v3 z4 m.2;let s:=S3 aJ v7 z8 p2.2.1;let p:=S4 aJ v9 an p2.2.2;let ac:=PF (Value.agg #[vS n.1,W,X]);refine bO.of Tryz.func20 Z Tryz.ntmps20 Z λc=>?_;refine aX<|aI (aN.box (cs:=[vS (n.1),W,X]) Z Z) Z λb1=>aI (aN.box (cs:=[T,v3]) Z Z) Z λb2=>aI (aN.box (cs:=[v5,v7,v9]) Z Z) Z λb3=>aH Z<|aP<|aM<|aX<|cY 2 Z<|cY 1 Z<|cY 0 Z<|fZ h λr4 w5 h=>aI (zBc Pr (BL U W X T v3 z4 v5 z6 v7 z8 v9 an r4 w5) Z (g_ [0,1,2,3,4,5,6,7] Z)) Z λx6=>aD (wL Z) Z<|aP ?_;refine Bf h Z (λ_ h=>?_) λ_ h=>?_
 ·refine aX<|aH Z<|aP<|aY<|aL ?_;cases h;exact zJ Z
 refine dC<|aX<|cY 2 Z<|cY 1 Z<|cY 0 Z<|fZ h λN w9 h=>aI (aN.call Pu (xN U W X T v3 z4 v5 z6 v7 z8 v9 an N w9) Z (fR.cons (zA0 (i:=0) Z) (fR.cons (zA0 (i:=1) Z) (fR.cons (zA0 (i:=2) Z) (fR.cons (zA0 (i:=3) Z) (fR.cons (zA0 (i:=4) Z) (fR.cons (zA0 (i:=5) Z) (fR.cons (zA0 (i:=6) Z) (mK 7 Z)))))))) (λ_ _=>rfl) (λ_ _=>rfl)) Z λb=>let e:=b.2.2.2.2;let K:=mM aJ e.2.1 N.2.2.1;let D:=Ar aZ.raw b.2.2.1 e.2.1;let ai:=bI b.2.1 [vS (n.1),W,X,vP e.2.2.1,e.2.2.2.1] 157;let ag:=bI b.1 [T,v3,vI (8:Int),vP b.2.1,b.2.2.1,b.2.2.2.1,e.1] 108;let k:=e.2.2.2.2;let L:=eH bD k.1 N.1;let H:=mM aJ k.2.2.1 N.2.2.2.1;let F:=Ar aZ.raw k.2.1 k.2.2.1;let E:=Ar aZ.raw e.2.2.2.1 k.1;let ak:=Ar aZ.raw b.2.2.2.1 k.2.2.2.1;let ah:=bI e.2.2.1 [vS (n.1),W,X,T,v3,vI (N.2.1),k.2.1] 206;let M:=k.2.2.2.2;let J:=Ar aZ.raw e.1 M.2.1;let I:=yH aJ M.1 N.2.2.2.2.1;let G:=eH aZ.raw k.2.2.2.1 M.1;let al:=Ai aJ M.2.2.2 N.2.2.2.2.2;let aj:=rJ aZ.raw M.2.1 M.2.2.1 M.2.2.2;vJ (A:=Int) (B:=Unit) (vs:=[vP b.1]) (λY=>tF  Y=some r) (λY ap=>vU (Y)) (λY ap=>[]) (λY ap=>[v,w,ac,Sl aJ T m.1,t,u,s,p]) (mO.fn (show bB Tryz.prog 57 from Tryz.call57) Z) Tryz.func57 Z Tryz.ntmps57 Z Z ?_ ?_
 ·refine aX<|aH Z<|aP<|aX<|aH Z<|aP<|aM<|iV (B:=Unit) (λaa=>tG  aa=some r) (λaa av=>[(3,vU (aa))]) (λaa av=>[]) (λ_ _=>[Sl aG W n.2.1,Sl aC X n.2.2,PF (Value.agg #[vS n.1,W,X]),Sl aJ T m.1,S2 aW v3 z4 m.2,S2 aJ v5 z6 p2.1,S3 aJ v7 z8 p2.2.1,S4 aJ v9 an p2.2.2]) ?_ ?_
  ·refine aX<|aB Z<|aD (bE Z) Z<|cA Z<|cA Z<|eW 0 Z<|aD (eP Z (aA.fact 8 Z) Z) Z<|aB Z<|aP<|aV<|mA (B:=Unit) (gJ U n m N) (λa aq=>[(0,vP b.1),(3,vU (a.1)),(10,vI (m.2.length:Int)),(11,vI (a.2))]) (λa aq=>[ag,D,ai,E,L,ah,F,ak,G,J,aj]) (λa aq=>[K,H,I,al,v,w,ac,Sl aJ T m.1,t,u,s,p]) ((0:Int),(0:Int)) () h SF (aR.ix [0,1,2,3,4,5,6,7,8,9,10] Z Z) (aE.refl _ _) ?_;intro a2 a aq h;let V:=(bP (gJ U n m N) a2)
   refine aX<|dM Z<|aP<|aM ?_;refine f_ h Z (λh=>?_) λh=>?_
   ·refine dC<|aM<|iV (B:=Unit) (λO=>pT a V O=some r) (λO ar=>[(0,vP b.1),(3,vU (O)),(10,vI (m.2.length:Int)),(11,vI (a.2))]) (λO ar=>[ag,D,ai,E,L,ah,F,ak,G,J,aj]) (λO ar=>[K,H,I,al,v,w,ac,Sl aJ T m.1,t,u,s,p]) ?_ ?_
    ·refine aV<|aX<|aB Z<|aH Z<|aP<|aM ?_;refine JR.start [0,1,3,7,0,0,48,0,255,511] 8 mixedOrders (by decide +kernel) ?_;refine zBf (by exact rfl) ?_;refine a_ Z<|i_ Z (bE Z)<|cD Z<|fI 0 Z<|a_ Z<|a_ Z<|Ci (A:=bM) (B:=Fa) (vs:=[vP b.1,vI (a.2)]) (λP=>yE U n m N a V P=some r) (λP y=>y.1) (λP y=>[Ar aZ.raw y.1 y.2,ag,D,ai,E,L,ah,F,ak,G,J,aj]) (λP y=>[mM aJ y.2 P,K,H,I,al,v,w,ac,Sl aJ T m.1,t,u,s,p]) Z Z Z (mO.fn (show bB Tryz.prog 103 from Tryz.call103) Z) Tryz.func103 Z Tryz.ntmps103 Z Z (λ_ _=>(nL [([1],[])] Z)) ?_ ?_
     ·refine aX<|aH Z<|aP<|aX<|aB Z<|aD (bE Z) Z<|cA Z<|cA Z<|eW 0 Z<|eB h λa7 h=>aQ (bJ (aA.fact 0 Z)) λa5=>cG (cP (aA.fact 0 Z)) ?_;refine aI (zBc LQ (zO U (p0:=e.2.1) b.2.2.1 e.2.1 (by simp[qZ,ck];omega)) Z (aE.cons (oA (i:=1) Z) aE.nil)) Z λam=>?_;refine aH Z<|aP<|aM<|iV (B:=cR) (λQ=>pU U n m N a V Q=some r) (λQ ab=>[(5,am)]) (λQ ab=>[Ar aZ.raw am ab,ag,D,ai,E,L,ah,F,ak,G,J,aj]) (λQ ab=>[mM aJ ab Q,K,H,I,al,v,w,ac,Sl aJ T m.1,t,u,s,p]) ?_ ?_
      ·refine aX<|aB Z<|aD (bE Z) Z<|cA Z<|cA Z<|eW 1 Z<|aB Z<|eB h λC h=>aD (bV Z Z (aA.fact 9 Z) Z Z C) Z<|aD (cM Z (aA.fact 9 Z) Z Z C) Z<|aD (gY Z (zBe (aA.fact 9 Z) C.1 C.2) Z) Z<|aB Z<|aP<|aV<|mA (B:=cR) (pV U n m N a V) (λd R=>[(0,vP b.1),(1,vI (a.2)),(5,am),(21,(at' z4 a.2).1),(22,vI ((at' m.2 a.2).length:Int)),(23,vI (d.1))]) (λd R=>[Ar aZ.raw am R,ag,D,ai,E,L,ah,F,ak,G,J,aj]) (λd R=>[mM aJ R d.2,K,H,I,al,v,w,ac,Sl aJ T m.1,t,u,s,p]) ((0:Int),N.2.2.1) (tg 1 e.2.1) h SF (aR.refl _) (aE.refl _ _) ?_;intro a8 d R h;let ae:=at' (at' M.1 a.2) d.1;let ad:=(at' (at' m.2 a.2) d.1)
       let af:=(Int.toNat (ad.1))
       refine aX<|dM Z<|aP<|aM ?_;refine f_ h Z (λh=>?_) λh=>?_
       ·refine dC<|aM<|aV<|aX<|aB Z<|eB h λa0 h=>aD (b_ Z Z (zBe (aA.fact 9 Z) C.1 C.2) Z Z a0) Z<|aD (fN (cs:=[vI (ad.1),vI (ad.2)]) Z (zBe (aA.fact 9 Z) C.1 C.2) bG Z Z Z Z a0) Z<|aI (aN.alloc (cs:=MV) Z Z) Z λa6=>aH Z<|bL 0 (vs:=[vI ((at' (at' m.2 a.2) d.1).1),vI ((at' (at' m.2 a.2) d.1).2)]) Z Z Z Z Z Z<|aP ?_;refine JR.start [0,0,2,0,8,24,56,120,0,504,1016,0,4088,8184,16383,32767] 14 mixedOrders (by decide +kernel) ?_;refine zBf (by exact rfl) ?_;refine a_ Z<|cD Z<|fI 0 Z<|a_ Z<|i_ Z (bE Z)<|cD Z<|cD Z<|fI 2 Z<|a_ Z<|eB h λg h=>aU (gH (bU (i:=9) (q:=10) (j:=3) Z Z Z)) λaw=>i_ Z (hZ Z Z aw Z Z g)<|aU (cH 10 Z) λax=>aU (bJ (aA.fact 3 Z)) λay=>bQ Z (aR.cons 9 Z .nil) .nil (eR 0 Z Z (ax.trans ay) Z Z g) aO.z<|a_ Z<|eB h λS h=>aU (gH (vW (q:=10) (j:=3) Z Z g.1 g.2)) λaz=>?_;refine i_ Z (hZ Z Z az Z Z S)<|aU (bJ (aA.fact 3 Z)) λaF=>?_;refine aU (bJ (bX (aA.fact 3 Z) g.1 g.2)) λaK=>?_;refine bQ Z (aR.cons 10 Z .nil) .nil (dJ (f:=λx=>x) Z (Dl (q:=0) Z g.1 (by have q0:=g.2;have q1:=aF;(try simp only[zA1]at q0 q1⊢);omega)) Z Z Z mC ⟨S.1,(by have q0:=S.2;have q1:=aK;(try simp only[zA1]at q0 q1⊢);omega)⟩) aO.z ?_;refine bS 14 Z Z<|eB h λau h=>aD (bV Z Z (bF (i:=1) (j:=0) Z Z) Z Z au) Z ?_;refine aQ (Know.one ((bX (bX (aA.fact 3 Z) g.1 g.2) S.1 S.2))) λao=>?_;refine aQ (bJ (aA.fact 0 Z)) λaS=>?_;refine cG (cP (fE af (aA.fact 0 Z) (bX (bX (aA.fact 3 Z) g.1 g.2) S.1 S.2))) ?_;refine qI (lB (us:=[ae]) (o:=0) (q:=1) 1 (ae) ⟨au.1,(by have q0:=au.2;have q1:=aS;(try simp only[zA1]at q0 q1⊢);omega)⟩ Z Z Z Z (by rw[show(at' (at' b.2.2.2.2.2.2.2.2.2.2.2.2.1 a.2) d.1).cells = #[at' (at' b.2.2.2.2.2.2.2.2.2.2.2.2.1 a.2) d.1]from dG ao]) Z Z Z (dH ao Z) Z) λba=>?_;refine fH<|oV<|aT<|dK Z<|aB Z<|aP ?_;exact iN ((wI .i64 (d.1+(1:Int))),(List.set d.2 af (at' (at' N.2.2.2.2.1 a.2) d.1))) (List.set R af (ae)) h SF (aR.ix [1,2,3,4,5,6,7,8,9,10,11,12] Z Z) (g_ [0,2,3,4,5,6,7,8,9,10,11,12,13] Z)
       refine gC ?_;exact kC (d.2) (R) h SF Z
      intro Q ab h;unfold pU at h;refine aX<|aB Z<|aH Z<|aP<|aY ?_;exact iK (Q) (am,ab) h (.inl Z) (BR.r1 Z (RV.tmp Z)) Z (aR.refl _) (aE.refl _ _)
     intro P y h;refine i_ Z (iW Z)<|bS 8 Z Z<|fZ h λa3 a4 h=>aI (zBc FS (lN U b.2.1 W X e.2.2.1 W X T v3 z4 k.2.1 ((List.zip k.2.2.1 N.2.2.2.1)) e.2.2.2.1 (List.zip k.1 N.1) y.1 ((List.zip y.2 P)) a3 a4) Z (aE.cons (aA.res 3 Z) (aE.cons (aA.fact 5 Z) (aE.cons (aA.fact 6 Z) (aE.cons (aA.res 6 Z) (aE.cons (aA.fact 5 Z) (aE.cons (aA.fact 6 Z) (aE.cons (aA.fact 8 Z) (aE.cons (aA.fact 9 Z) (aE.cons (bF (i:=7) (j:=2) Z Z) (aE.cons (bZ (i:=4) (j:=5) Z Z bG) (aE.cons (bF (i:=0) (j:=0) Z Z) .nil)))))))))))) Z λa9=>aD (BS Z Z) Z<|aP ?_;refine f_ h Z (λh=>?_) λh=>?_
     ·refine aT<|aB Z<|aB Z<|eB h λa1 h=>aD (Uf Z Z a1) Z<|aD (ZZ Z Z) Z<|aH Z<|fH<|oV ?_;exact cK (Up .u32 a.1 (Kj .u32 (1:Int) a.2)) () h SF (aR.ix [1,2,3,4,5,6,7,8,9,10,11] Z Z) (g_ [1,2,3,4,5,6,7,8,9,10,11,12] Z)
     refine fV<|oV ?_;exact cK (a.1) () h SF (aR.ix [1,2,3,4,5,6,7,8,9,10,11] Z Z) (g_ [1,2,3,4,5,6,7,8,9,10,11,12] Z)
    intro O ar h;unfold pT at h;refine aT<|dK Z<|aB Z<|aP ?_;exact Bw (O,(wI .i64 (a.2+(1:Int)))) () h SF Z
   refine gC ?_;exact cK (a.1) () h SF .nil (g_ [4,5,6,7,8,9,10,11] Z)
  intro aa av h;unfold tG at h;refine aX<|aB Z<|aH Z<|aP<|aY ?_;exact iK (aa) () h (.inl Z) (BR.r1 Z (RV.tmp Z)) Z (aR.refl _) (aE.refl _ _)
 intro Y ap h;unfold tF at h;refine aH Z<|aP<|aY ?_;cases h;exact mN Z
def uY  (a:Unit):Option Bool:=
 some (true)
def uZ (c:bT) (d:bT) (a:Int) (b:(Int)->Option Bool):Option Bool:=
 if a<(c.length:Int)then(ck (0<=a∧a<(c.length:Int)) (ck (0<=a∧a<(d.length:Int)) (if(at' c a)≠(at' d a)then(some (false))else(b (wI .i64 (a+(1:Int)))))))else(uY  (()))
def sH (U:Nat) (a:bT) (b:bT):Option Bool:=
 if(a.length:Int)≠(b.length:Int)then(some (false))else(bP (uZ a b) U (0:Int))
theorem Uy:bB Tryz.prog 61:=Tryz.call61
theorem Ee (U:Nat) {p0:bT} {f:bT} (g:Value)  (i:Value) (r:Bool) (h:sH U p0 f=some r):
  bO Tryz.prog 61 #[g,i] [Sl aJ g p0,Sl aJ i f] (λx:Unit=>vB (r)) (λx l=>l) (λ_ l=>l):=by
 refine bO.of Tryz.func61 Z Tryz.ntmps61 Z λc=>?_;refine aX<|aH Z<|aP<|aM<|aX<|aB Z<|lT (aA.fact 0 Z) Z<|aB Z<|lT (aA.fact 1 Z) Z<|oM Z<|aP ?_;refine f_ h Z (λh=>?_) λh=>?_
 ·refine aX<|aH Z<|aP<|aY<|aL ?_;cases h;exact mN Z
 refine dC<|aM<|jH (λd=>uY  d=some r) (λd j=>[]) (λd j=>[]) ?_ ?_
 ·refine aX<|aB Z<|lT (aA.fact 0 Z) Z<|aB Z<|aP<|aV<|iI (uZ p0 f) (λe k=>[(0,g),(1,i),(12,vI (p0.length:Int)),(13,vI (e))]) (λe k=>[]) (0:Int) () h SF (aR.refl _) ?_;intro m e k h;refine aX<|dM Z<|aP<|aM ?_;refine f_ h Z (λh=>?_) λh=>?_
  ·refine dC<|aM<|aV<|aX<|aB Z<|aH Z<|aP<|aM ?_;refine JR.start [0,0,3,7,0,0,48,112,255] 8 mixedOrders (by decide +kernel) ?_;refine zBf (by exact rfl) ?_;refine a_ Z<|a_ Z<|eB h λa h=>bQ Z .nil (mK 0 Z) (b_ Z Z (aA.fact 0 Z) Z Z a) aO.z<|bQ Z .nil (mK 0 Z) (dJ Z (aA.fact 0 Z) Z Z Z gX a) aO.z<|a_ Z<|a_ Z<|eB h λb h=>bQ Z .nil (mK 1 Z) (b_ Z Z (aA.fact 0 Z) Z Z b) aO.z<|bQ Z .nil (mK 1 Z) (dJ Z (aA.fact 0 Z) Z Z Z gX b) aO.z<|bS 8 Z Z<|oM Z<|aP ?_;refine f_ h Z (λh=>?_) λh=>?_
   ·refine aX<|aH Z<|aP<|aY<|cE<|aL<|aL<|cE<|aL ?_;cases h;exact mN Z
   refine fV<|oV<|aT<|dK Z<|aB Z<|aP ?_;exact Bw (wI .i64 (e+(1:Int))) () h SF Z
  refine gC ?_;exact kC () (()) h SF Z
 intro d j h;unfold uY at h;refine aX<|aH Z<|aP<|aY ?_;cases h;exact mN Z
def wW (U:Nat) (c:bT) (b:rD) (a:Int):Option Bool:=
 ck (0<=a∧a<(b.1.length:Int)) (Option.bind (sH U c (at' b.1 a)) λd=>(some ((!d))))
theorem aap:bB Tryz.prog 60:=Tryz.call60
theorem GD (U:Nat) {p0:bT} {e:rD} {f:Int} (g:Value)  (a:Nat)  (i:Value)  (m:jY)  (j:Value)  (p:If)  (k:Value)  (q:Ie)  (b:Nat) (r:Bool) (h:wW U p0 e f=some r):
  bO Tryz.prog 60 #[g,vP a,vP b] [Sl aJ g p0,bI a [i,j,k] 43,S2 aJ i m e.1,S3 aJ j p e.2.1,S4 aJ k q e.2.2,bI b [vI (f)] 3] (λx:Unit=>vB (r)) (λx l=>l) (λ_ l=>l):=by
 refine bO.of Tryz.func60 Z Tryz.ntmps60 Z λc=>?_;refine aX<|aH Z<|aP<|aX<|aB Z<|cA Z<|aD (eK Z (aA.fact 1 Z) Z Z Z) Z<|aD (eK Z (aA.fact 5 Z) Z Z Z) Z<|eB h λd h=>aD (bV Z Z (aA.fact 2 Z) Z Z d) Z<|aD (cM Z (aA.fact 2 Z) Z Z d) Z<|fZ h λn o h=>aI (zBc Uy (Ee U g ((at' m f).1) n o) Z (aE.cons (aA.fact 0 Z) (aE.cons (zBe (aA.fact 2 Z) d.1 d.2) .nil))) Z λs=>aD (wL Z) Z<|aH Z<|aP<|aY ?_;cases h;exact mN Z
def tI  (a:Int):Option Bool:=
 some (decide (a=(0:Int)))
def tJ  (a:Int):Option Bool:=
 tI  (a)
def pW (b:fY) (a:gW->Option Bool) (c:Int):Option Bool:=
 a (c,(wI .i64 (b.2+(1:Int))))
def yF (U:Nat) (p0:jX) (f:dL) (c:FE) (a:fY) (b:gW->Option Bool) (d:bM):Option Bool:=
 Option.bind (cO U ((((p0.1,p0.2.1,p0.2.2)),((((p0.1,p0.2.1,p0.2.2)),((f.1,f.2)),c.2.1,c.2.2.2.1)),c.1)) d a.2) λe=>(if(0:Int)<=e then(ck (0<=a.2) (pW a b (Up .u32 a.1 (Kj .u32 (1:Int) a.2))))else(pW a b (a.1)))
def pX (U:Nat) (p0:jX) (e:dL) (d:FE) (b:fY) (a:gW->Option Bool) (c:bM):Option Bool:=
 yF U p0 e d b a (c)
def p_ (U:Nat) (p0:jX) (d:dL) (c:FE) (b:fY) (e:gW->Option Bool) (a:xQ) (f:Ei->Option Bool):Option Bool:=
 if a.1<((at' d.2 b.2).length:Int)then(ck (0<=a.1∧a.1<((at' d.2 b.2).length:Int)) (ck (0<=b.2∧b.2<(c.2.2.2.2.1.length:Int)) (ck (0<=a.1∧a.1<((at' c.2.2.2.2.1 b.2).length:Int)) (ck (0<=((at' (at' d.2 b.2) a.1).1)∧((at' (at' d.2 b.2) a.1).1)<(a.2.length:Int)) (f ((wI .i64 (a.1+(1:Int))),(List.set a.2 (Int.toNat ((at' (at' d.2 b.2) a.1).1)) (at' (at' c.2.2.2.2.1 b.2) a.1))))))))else(pX U p0 d c b e (a.2))
def gM (U:Nat) (p0:jX) (d:dL) (b:FE) (a:fY) (c:gW->Option Bool):Option Bool:=
 if a.2<(d.2.length:Int)then(ck ((b.2.2.1.length:Int)<=1099511627) (ck (0<=a.2∧a.2<(d.2.length:Int)) (bP (p_ U p0 d b a c) U ((0:Int),b.2.2.1))))else(tJ  (a.1))
def tH (U:Nat) (p0:jX) (a:dL) (b:rD) (d:Unit):Option Bool:=
 Option.bind (gU U ((p0.1,p0.2.1,p0.2.2)) ((a.1,a.2)) (8:Int) ((b.1,b.2.1,b.2.2))) λc=>(bP (gM U p0 a c) U ((0:Int),(0:Int)))
def tK (b:Int) (a:(Int)->Option Bool) (c:Unit):Option Bool:=
 a (wI .i64 (b+(1:Int)))
def pY (b:Int) (a:(Int)->Option Bool) (c:Bool):Option Bool:=
 if c=true then(some (false))else(a (wI .i64 (b+(1:Int))))
def pZ (c:Int) (b:(Int)->Option Bool) (a:Bool):Option Bool:=
 pY c b (a)
def lU (c:Int) (b:(Int)->Option Bool) (a:Int):Option Bool:=
 pZ c b (decide ((0:Int)<=a))
def oO (b:Int) (a:(Int)->Option Bool) (c:Unit):Option Bool:=
 lU b a (-1:Int)
def tM (U:Nat) (f:rD) (c:Int) (b:Int) (d:(Int)->Option Bool) (a:Int) (e:(Int)->Option Bool):Option Bool:=
 if a<((at' (at' f.2.2 c) b).length:Int)then(ck (0<=a∧a<((at' (at' f.2.2 c) b).length:Int)) (Option.bind (wW U (at' (at' (at' f.2.2 c) b) a) ((f.1,f.2.1,f.2.2)) c) λg=>(if g=true then(lU b d (a))else(e (wI .i64 (a+(1:Int)))))))else(oO b d (()))
def iL (U:Nat) (f:dL) (d:rD) (a:Int) (e:(Int)->Option Bool) (b:Int) (c:(Int)->Option Bool):Option Bool:=
 if b<((at' f.2 a).length:Int)then(ck (0<=b∧b<((at' f.2 a).length:Int)) (ck (0<=a∧a<(d.2.1.length:Int)) (ck (0<=b∧b<((at' d.2.1 a).length:Int)) (ck (0<=((at' (at' f.2 a) b).1)∧((at' (at' f.2 a) b).1)<(d.1.length:Int)) (Option.bind (sH U (at' (at' d.2.1 a) b) (at' d.1 ((at' (at' f.2 a) b).1))) λg=>(if(!g)=true then(pY b c (true))else(ck (0<=a∧a<(d.2.2.length:Int)) (ck (0<=b∧b<((at' d.2.2 a).length:Int)) (bP (tM U d a b c) U (0:Int))))))))))else(tK a e (()))
def fK (U:Nat) (p0:jX) (c:dL) (d:rD) (a:Int) (b:(Int)->Option Bool):Option Bool:=
 if a<(c.2.length:Int)then(ck (0<=a∧a<(c.2.length:Int)) (bP (iL U c d a b) U (0:Int)))else(tH U p0 c d (()))
def dW (U:Nat) (p0:jX) (b:dL) (a:rD):Option Bool:=
 Option.bind (kZ U ((p0.1,p0.2.1,p0.2.2)) ((b.1,b.2)) (8:Int) ((a.1,a.2.1,a.2.2))) λc=>(if(!c)=true then(some (false))else(bP (fK U p0 b a) U (0:Int)))
theorem Jd:bB Tryz.prog 22:=Tryz.call22
theorem rC (U:Nat) {v:jX} {k:dL} {M:rD} (v0:Value)  (v1:Value)  (S:Value)  (v3:Value)  (z4:iZ)  (v5:Value)  (z6:jY)  (v7:Value)  (z8:If)  (v9:Value)  (I:Ie) (r:Bool) (h:dW U v k M=some r):
  bO Tryz.prog 22 #[Value.agg #[vS (v.1),v0,v1],Value.agg #[S,v3],Value.agg #[v5,v7,v9]] [Sl aG v0 v.2.1,Sl aC v1 v.2.2,PF (Value.agg #[vS v.1,v0,v1]),Sl aJ S k.1,S2 aW v3 z4 k.2,S2 aJ v5 z6 M.1,S3 aJ v7 z8 M.2.1,S4 aJ v9 I M.2.2] (λx:Unit=>vB (r)) (λx l=>l) (λ_ l=>l):=by
 let F:=Sl aC v1 v.2.2;let E:=Sl aG v0 v.2.1;let D:=S2 aJ v5 z6 M.1;let C:=S2 aW v3 z4 k.2;let y:=S3 aJ v7 z8 M.2.1;let w:=S4 aJ v9 I M.2.2;let N:=vI (k.2.length:Int);let al:=PF (Value.agg #[vS v.1,v0,v1]);refine bO.of Tryz.func22 Z Tryz.ntmps22 Z λc=>?_;refine aX<|aI (aN.box (cs:=[vS (v.1),v0,v1]) Z Z) Z λb1=>let R:=bI b1 [vS (v.1),v0,v1] 36;aI (aN.box (cs:=[S,v3]) Z Z) Z λb2=>let t:=bI b2 [S,v3] 31;aI (aN.box (cs:=[v5,v7,v9]) Z Z) Z λb3=>let s:=bI b3 [v5,v7,v9] 43;aH Z<|aP<|aM<|aX<|cY 2 Z<|cY 1 Z<|cY 0 Z<|fZ h λr4 w5 h=>aI (zBc Pr (BL U v0 v1 S v3 z4 v5 z6 v7 z8 v9 I r4 w5) Z (g_ [0,1,2,3,4,5,6,7] Z)) Z λx6=>aD (wL Z) Z<|aP ?_
 refine Bf h Z (λ_ h=>?_) λ_ h=>?_
 ·refine aX<|aH Z<|aP<|aY<|aL ?_;cases h;exact zJ Z
 refine dC<|aM<|iV (B:=Unit) (λa8=>tH U v k M a8=some r) (λa8 b9=>[(3,vP b1),(4,vP b2),(5,vP b3)]) (λa8 b9=>[s,t,R]) (λ_ _=>[Sl aG v0 v.2.1,Sl aC v1 v.2.2,PF (Value.agg #[vS v.1,v0,v1]),Sl aJ S k.1,S2 aW v3 z4 k.2,S2 aJ v5 z6 M.1,S3 aJ v7 z8 M.2.1,S4 aJ v9 I M.2.2]) ?_ ?_
 ·refine aX<|cA Z<|eW 1 Z<|aD (eP Z (aA.fact 4 Z) Z) Z<|aB Z<|aP<|aV<|iI (fK U v k M) (λb bq=>[(3,vP b1),(4,vP b2),(5,vP b3),(18,v3),(19,N),(20,vI (b))]) (λb bq=>[s,t,R]) (0:Int) () h SF (aR.refl _) ?_;intro bW b bq h;let ak:=(at' k.2 b)
  let az:=(iL U k M b (bP (fK U v k M) bW))
  refine aX<|dM Z<|aP<|aM ?_;refine f_ h Z (λh=>?_) λh=>?_
  ·refine dC<|aM<|jH (λbd=>tK b (bP (fK U v k M) bW) bd=some r) (λbd br=>[(3,vP b1),(4,vP b2),(5,vP b3),(18,v3),(19,N),(20,vI (b))]) (λbd br=>[s,t,R]) ?_ ?_
   ·refine aV<|aX<|aB Z<|eB h λV h=>aD (bV Z Z (aA.fact 4 Z) Z Z V) Z<|aD (cM Z (aA.fact 4 Z) Z Z V) Z<|aI (aN.alloc (cs:=[vI (0:Int)]) Z Z) Z λQ=>let a4:=Value.func (.func 60) #[] #[vP b3,vP Q];let O:=bI Q [vI (b)] 3;pE 0 Z Z Z Z Z Z<|aH Z<|aP<|aX<|aD (As (cs:=[.tmp 5,.tmp 7]) (vs:=[vP b3,vP Q]) Z) Z<|aH Z<|aP<|aX<|aB Z<|aD (gY Z (zBe (aA.fact 4 Z) V.1 V.2) Z) Z<|aB Z<|aP<|aV<|iI az (λd bs=>[(3,vP b1),(4,vP b2),(5,vP b3),(7,vP Q),(9,a4),(18,v3),(19,N),(20,vI (b)),(26,(at' z4 b).1),(27,vI (ak.length:Int)),(28,vI (d))]) (λd bs=>[O,s,t,R]) (0:Int) () h SF (aR.refl _) ?_
    intro a2 d bs h;refine aX<|dM Z<|aP<|aM ?_;refine f_ h Z (λh=>?_) λh=>?_
    ·refine dC<|aM<|aV<|aX<|aB Z<|eB h λbT h=>aD (b_ Z Z (zBe (aA.fact 4 Z) V.1 V.2) Z Z bT) Z<|aD (fN (cs:=[vI ((at' ak d).1),vI ((at' ak d).2)]) Z (zBe (aA.fact 4 Z) V.1 V.2) bG Z Z Z Z bT) Z<|aI (aN.alloc (cs:=MV) Z Z) Z λci=>aH Z<|bL 0 (vs:=[vI ((at' (at' k.2 b) d).1),vI ((at' (at' k.2 b) d).2)]) Z Z Z Z Z Z<|aP<|aM<|jH (λaF=>pY d (bP az a2) aF=some r) (λaF bt=>[(3,vP b1),(4,vP b2),(5,vP b3),(7,vP Q),(9,a4),(18,v3),(19,N),(20,vI (b)),(26,(at' z4 b).1),(27,vI (ak.length:Int)),(28,vI (d)),(60,vB (aF))]) (λaF bt=>[O,s,t,R]) ?_ ?_
     ·refine JR.start [0,1,0,7,15,0,63,127,0,256,0,1024,3840,7936,16383,32767,65535,131071,262143,131071,1048575,2097151,131071,8388607,16777215,131071,67108863,134217727] 26 mixedOrders (by decide +kernel) ?_;refine zBf (by exact rfl) ?_;refine cD Z<|fI 2 Z<|fI 1 Z<|eB h λW h=>aU (gH (aA.fact 6 Z)) λbK=>i_ Z (hZ Z Z bK Z Z W)<|bQ Z .nil (mK 6 Z) (mQ Z (aA.fact 0 Z) Z Z W) aO.z<|a_ Z<|eB h λbe h=>aU (gH (eG (aA.fact 6 Z) W.1 W.2)) λbN=>?_;refine i_ Z (hZ Z Z bN Z Z be) ?_;refine bQ Z .nil (mK 6 Z) (cM Z (eG (aA.fact 0 Z) W.1 W.2) Z Z be) aO.z ?_;refine cD Z<|fI 2 Z<|cD Z<|fI 0 Z<|eB h λbf h=>bQ Z .nil (mK 5 Z) (bV Z Z (aA.fact 0 Z) Z Z bf) aO.z<|bQ Z .nil (mK 5 Z) (cM Z (aA.fact 0 Z) Z Z bf) aO.z<|fZ h λb8 cc h=>zBd Z Z Z (zBc Uy (Ee U ((at' ((at' z8 b).2) d).1) ((at' z6 ((at' ak d).1)).1) b8 cc) Z (aE.cons (zBe (eG (aA.fact 6 Z) W.1 W.2) be.1 be.2) (aE.cons (zBe (aA.fact 5 Z) bf.1 bf.2) .nil))) Z (λcd=>(nL [] Z)) λcd=>?_;refine i_ Z (wL Z)<|i_ Z (iW Z) ?_;refine JR.guard (by exact rfl) (by exact rfl) (by exact rfl) (λa1=>?_) (λa1=>?_)
      ·have h:=Km a1 h;refine bY Z Z Z Z<|bY Z Z Z Z<|bY Z Z Z Z<|bY Z Z Z Z<|bY Z Z Z Z<|bY Z Z Z Z<|bY Z Z Z Z<|bY Z Z Z Z<|bY Z Z Z Z<|bS 26 Z Z<|aK Z<|fX Z<|aP ?_;exact cK (true) () h SF (aR.ix [1,2,3,4] Z Z) (aE.refl _ _)
      have h:=Hm a1 h;refine gG Z .nil .nil (eT Z Z Z Z Z) (NG Z)<|gG Z (aR.cons 2 Z .nil) .nil (fS 0 Z Z Z Z Z) (NG Z)<|gG Z (aR.cons 1 Z .nil) .nil (fS 0 Z Z Z Z Z) (NG Z)<|eB h λe h=>aU (gH (aA.fact 7 Z)) λbm=>gG Z .nil .nil (hZ Z Z bm Z Z e) (NG Z)<|gG Z .nil (mK 7 Z) (mQ Z (aA.fact 0 Z) Z Z e) (NG Z)<|gG Z .nil .nil (iW Z) (NG Z)<|eB h λn h=>aU (gH (eG (aA.fact 7 Z) e.1 e.2)) λbn=>?_;refine gG Z .nil .nil (hZ Z Z bn Z Z n) (NG Z) ?_;refine gG Z .nil (mK 7 Z) (mQ Z (eG (aA.fact 0 Z) e.1 e.2) Z Z n) (NG Z) ?_;refine gG Z .nil .nil (iW Z) (NG Z)<|bS 26 Z Z<|Xm (A:=Bool) (B:=Unit) (vs:=[(at' ((at' I b).2) d).1,Value.func (.func 60) #[] #[vP b3,vP Q]]) (λJ=>pZ d (bP az a2) J=some r) (λJ aS=>vB (J)) (λJ aS=>[O,s,t,R]) (λJ aS=>[E,F,al,Sl aJ S k.1,C,D,y,w]) Z (mO.fn (show bB Tryz.prog 51 from Tryz.call51) Z) Tryz.func51 Z Tryz.ntmps51 Z Z ?_ ?_
      ·refine aX<|aH Z<|aP<|aX<|aB Z<|aB Z<|vJ (A:=Int) (B:=Unit) (vs:=[(at' ((at' I b).2) d).1,Value.func (.func 60) #[] #[vP b3,vP Q]]) (λK=>lU d (bP az a2) K=some r) (λK a0=>vI (K)) (λK a0=>[O,s,t,R]) (λK a0=>[E,F,al,Sl aJ S k.1,C,D,y,w]) (mO.fn (show bB Tryz.prog 98 from Tryz.call98) Z) Tryz.func98 Z Tryz.ntmps98 Z Z ?_ ?_
       ·refine aX<|aH Z<|aP<|aM<|jH (λar=>oO d (bP az a2) ar=some r) (λar bg=>[]) (λar bg=>[O,s,t,R]) ?_ ?_
        ·refine aX<|aB Z ?_;refine aD (eP Z (eG (eG (aA.fact 7 Z) e.1 e.2) n.1 n.2) Z) Z ?_;refine aB Z<|aP<|aV<|iI (tM U M b d (bP az a2)) (λL bh=>[(0,(at' ((at' I b).2) d).1),(1,a4),(7,vI ((at' (at' M.2.2 b) d).length:Int)),(8,vI (L))]) (λL bh=>[O,s,t,R]) (0:Int) () h SF (aR.ix [1,2,3,4] Z Z) ?_;intro cf L bh h;refine aX<|dM Z<|aP<|aM ?_;refine f_ h Z (λh=>?_) λh=>?_
         ·refine dC<|aM<|aV<|aX<|aB Z<|aH Z<|aP<|aX<|aB Z<|aB Z<|aB Z<|eB h λau h=>aD (bV Z Z (eG (eG (aA.fact 7 Z) e.1 e.2) n.1 n.2) Z Z au) Z ?_;refine aD (cM Z (eG (eG (aA.fact 7 Z) e.1 e.2) n.1 n.2) Z Z au) Z<|fZ h λb0 b4 h=>aI (qE (vs:=[(at' ((at' ((at' I b).2) d).2) L).1]) (cs:=[Value.pointer (some ⟨b3,0,none⟩),Value.pointer (some ⟨Q,0,none⟩)]) aap Z (GD U ((at' ((at' ((at' I b).2) d).2) L).1) b3 v5 z6 v7 z8 v9 I Q b0 b4) Z (aE.cons (zBe (eG (eG (aA.fact 7 Z) e.1 e.2) n.1 n.2) au.1 au.2) (aE.cons (aA.res 1 Z) (aE.cons (aA.fact 5 Z) (aE.cons (aA.fact 6 Z) (aE.cons (aA.fact 7 Z) (aE.cons (aA.res 0 Z) .nil)))))) (λ_ _=>rfl)) Z λcg=>?_;refine aP ?_;refine Bf h Z (λ_ h=>?_) λ_ h=>?_
          ·refine aX<|aB Z<|aH Z<|aP<|aY<|cE<|aL<|aL<|cE<|aL ?_;exact iK (L) () h (.inl Z) (BR.r1 Z (RV.tmp Z)) Z (aR.refl _) (aE.refl _ _)
          refine fV<|oV<|aT<|dK Z<|aB Z<|aP ?_;exact Bw (wI .i64 (L+(1:Int))) () h SF Z
         refine gC ?_;exact kC () (()) h SF Z
        intro ar bg h;unfold oO at h;refine aX<|aH Z<|aP<|aY ?_;exact iK (-1:Int) () h (.inl Z) (BR.r1 Z (RV.tmp Z)) Z (aR.refl _) (aE.refl _ _)
       intro K a0 h;unfold lU at h;refine aD (BS Z Z) Z<|aH Z<|aP<|aY ?_;exact iK (decide ((0:Int)<=K)) () h (.inl Z) (BR.r1 Z (RV.tmp Z)) Z (aR.refl _) (aE.refl _ _)
      intro J aS h;unfold pZ at h;refine fG Z<|aP ?_;exact kC (J) () h SF Z
     intro aF bt h;refine Bf h Z (λ_ h=>?_) λ_ h=>?_
     ·refine aX<|aH Z<|aP<|aY<|cE<|aL<|aL<|cE<|cE<|aL<|aL<|cE<|aL ?_;cases h;exact zJ Z
     refine fV<|oV<|aT<|dK Z<|aB Z<|aP ?_;exact Bw (wI .i64 (d+(1:Int))) () h SF Z
    refine vH<|gR<|gR<|Am<|oV ?_;exact cK () (()) h SF (aR.ix [1,2,3] Z Z) (aE.refl _ _)
   intro bd br h;unfold tK at h;refine aT<|dK Z<|aB Z<|aP ?_;exact Bw (wI .i64 (b+(1:Int))) () h SF Z
  refine gC ?_;exact kC () (()) h SF Z
 intro a8 b9 h;refine aX<|cY 2 Z<|cY 1 Z<|cY 0 Z<|fZ h λm ca h=>aI (aN.call Pu (xN U v0 v1 S v3 z4 v5 z6 v7 z8 v9 I m ca) Z (fR.cons (zA0 (i:=0) Z) (fR.cons (zA0 (i:=1) Z) (fR.cons (zA0 (i:=2) Z) (fR.cons (zA0 (i:=3) Z) (fR.cons (zA0 (i:=4) Z) (fR.cons (zA0 (i:=5) Z) (fR.cons (zA0 (i:=6) Z) (mK 7 Z)))))))) (λ_ _=>rfl) (λ_ _=>rfl)) Z λg=>let u:=g.2.2.2.2;let ah:=mM aJ u.2.1 m.2.2.1;let aa:=Ar aZ.raw g.2.2.1 u.2.1;let ba:=bI g.2.1 [vS (v.1),v0,v1,vP u.2.2.1,u.2.2.2.1] 157;let a7:=bI g.1 [S,v3,vI (8:Int),vP g.2.1,g.2.2.1,g.2.2.2.1,u.1] 108;let H:=u.2.2.2.2;let aj:=eH bD H.1 m.1;let ae:=mM aJ H.2.2.1 m.2.2.2.1;let ac:=Ar aZ.raw H.2.1 H.2.2.1;let ab:=Ar aZ.raw u.2.2.2.1 H.1;let X:=Ar aZ.raw g.2.2.2.1 H.2.2.2.1;let a9:=bI u.2.2.1 [vS (v.1),v0,v1,S,v3,vI (m.2.1),H.2.1] 206;let ai:=H.2.2.2.2;let ag:=Ar aZ.raw u.1 ai.2.1;let af:=yH aJ ai.1 m.2.2.2.2.1;let ad:=eH aZ.raw H.2.2.2.1 ai.1;let Y:=Ai aJ ai.2.2.2 m.2.2.2.2.2;let bb:=rJ aZ.raw ai.2.1 ai.2.2.1 ai.2.2.2;vJ (A:=Int) (B:=Unit) (vs:=[vP g.1]) (λaw=>tI  aw=some r) (λaw bj=>vU (aw)) (λaw bj=>[]) (λaw bj=>[E,F,al,Sl aJ S k.1,C,D,y,w]) (mO.fn (show bB Tryz.prog 57 from Tryz.call57) Z) Tryz.func57 Z Tryz.ntmps57 Z Z ?_ ?_
 ·refine aX<|aH Z<|aP<|aX<|aH Z<|aP<|aM<|iV (B:=Unit) (λax=>tJ  ax=some r) (λax bp=>[(3,vU (ax))]) (λax bp=>[]) (λ_ _=>[Sl aG v0 v.2.1,Sl aC v1 v.2.2,PF (Value.agg #[vS v.1,v0,v1]),Sl aJ S k.1,S2 aW v3 z4 k.2,S2 aJ v5 z6 M.1,S3 aJ v7 z8 M.2.1,S4 aJ v9 I M.2.2]) ?_ ?_
  ·refine aX<|aB Z<|aD (bE Z) Z<|cA Z<|cA Z<|eW 0 Z<|aD (eP Z (aA.fact 8 Z) Z) Z<|aB Z<|aP<|aV<|mA (B:=Unit) (gM U v k m) (λa bk=>[(0,vP g.1),(3,vU (a.1)),(10,N),(11,vI (a.2))]) (λa bk=>[a7,aa,ba,ab,aj,a9,ac,X,ad,ag,bb]) (λa bk=>[ah,ae,af,Y,E,F,al,Sl aJ S k.1,C,D,y,w]) ((0:Int),(0:Int)) () h SF (aR.ix [0,1,2,3,4,5,6,7,8,9,10] Z Z) (aE.refl _ _) ?_;intro b6 a bk h;let av:=(bP (gM U v k m) b6)
   refine aX<|dM Z<|aP<|aM ?_;refine f_ h Z (λh=>?_) λh=>?_
   ·refine dC<|aM<|iV (B:=Unit) (λam=>pW a av am=some r) (λam bl=>[(0,vP g.1),(3,vU (am)),(10,N),(11,vI (a.2))]) (λam bl=>[a7,aa,ba,ab,aj,a9,ac,X,ad,ag,bb]) (λam bl=>[ah,ae,af,Y,E,F,al,Sl aJ S k.1,C,D,y,w]) ?_ ?_
    ·refine aV<|aX<|aB Z<|aH Z<|aP<|aM ?_;refine JR.start [0,1,3,7,0,0,48,0,255,511] 8 mixedOrders (by decide +kernel) ?_;refine zBf (by exact rfl) ?_;refine a_ Z<|i_ Z (bE Z)<|cD Z<|fI 0 Z<|a_ Z<|a_ Z<|Ci (A:=bM) (B:=Fa) (vs:=[vP g.1,vI (a.2)]) (λan=>yF U v k m a av an=some r) (λan P=>P.1) (λan P=>[Ar aZ.raw P.1 P.2,a7,aa,ba,ab,aj,a9,ac,X,ad,ag,bb]) (λan P=>[mM aJ P.2 an,ah,ae,af,Y,E,F,al,Sl aJ S k.1,C,D,y,w]) Z Z Z (mO.fn (show bB Tryz.prog 103 from Tryz.call103) Z) Tryz.func103 Z Tryz.ntmps103 Z Z (λ_ _=>(nL [([1],[])] Z)) ?_ ?_
     ·refine aX<|aH Z<|aP<|aX<|aB Z<|aD (bE Z) Z<|cA Z<|cA Z<|eW 0 Z<|eB h λcj h=>aQ (bJ (aA.fact 0 Z)) λce=>cG (cP (aA.fact 0 Z)) ?_;refine aI (zBc LQ (zO U (p0:=u.2.1) g.2.2.1 u.2.1 (by simp[qZ,ck];omega)) Z (aE.cons (oA (i:=1) Z) aE.nil)) Z λbc=>?_;refine aH Z<|aP<|aM<|iV (B:=cR) (λao=>pX U v k m a av ao=some r) (λao ay=>[(5,bc)]) (λao ay=>[Ar aZ.raw bc ay,a7,aa,ba,ab,aj,a9,ac,X,ad,ag,bb]) (λao ay=>[mM aJ ay ao,ah,ae,af,Y,E,F,al,Sl aJ S k.1,C,D,y,w]) ?_ ?_
      ·refine aX<|aB Z<|aD (bE Z) Z<|cA Z<|cA Z<|eW 1 Z<|aB Z<|eB h λT h=>aD (bV Z Z (aA.fact 9 Z) Z Z T) Z<|aD (cM Z (aA.fact 9 Z) Z Z T) Z<|aD (gY Z (zBe (aA.fact 9 Z) T.1 T.2) Z) Z<|aB Z<|aP<|aV<|mA (B:=cR) (p_ U v k m a av) (λp ap=>[(0,vP g.1),(1,vI (a.2)),(5,bc),(21,(at' z4 a.2).1),(22,vI ((at' k.2 a.2).length:Int)),(23,vI (p.1))]) (λp ap=>[Ar aZ.raw bc ap,a7,aa,ba,ab,aj,a9,ac,X,ad,ag,bb]) (λp ap=>[mM aJ ap p.2,ah,ae,af,Y,E,F,al,Sl aJ S k.1,C,D,y,w]) ((0:Int),m.2.2.1) (tg 1 u.2.1) h SF (aR.refl _) (aE.refl _ _) ?_;intro cl p ap h;let a5:=at' (at' ai.1 a.2) p.1;let a3:=(at' (at' k.2 a.2) p.1)
       let a6:=(Int.toNat (a3.1))
       refine aX<|dM Z<|aP<|aM ?_;refine f_ h Z (λh=>?_) λh=>?_
       ·refine dC<|aM<|aV<|aX<|aB Z<|eB h λbR h=>aD (b_ Z Z (zBe (aA.fact 9 Z) T.1 T.2) Z Z bR) Z<|aD (fN (cs:=[vI (a3.1),vI (a3.2)]) Z (zBe (aA.fact 9 Z) T.1 T.2) bG Z Z Z Z bR) Z<|aI (aN.alloc (cs:=MV) Z Z) Z λch=>aH Z<|bL 0 (vs:=[vI ((at' (at' k.2 a.2) p.1).1),vI ((at' (at' k.2 a.2) p.1).2)]) Z Z Z Z Z Z<|aP ?_;refine JR.start [0,0,2,0,8,24,56,120,0,504,1016,0,4088,8184,16383,32767] 14 mixedOrders (by decide +kernel) ?_;refine zBf (by exact rfl) ?_;refine a_ Z<|cD Z<|fI 0 Z<|a_ Z<|i_ Z (bE Z)<|cD Z<|cD Z<|fI 2 Z<|a_ Z<|eB h λG h=>aU (gH (bU (i:=9) (q:=10) (j:=3) Z Z Z)) λbu=>i_ Z (hZ Z Z bu Z Z G)<|aU (cH 10 Z) λbw=>aU (bJ (aA.fact 3 Z)) λbx=>bQ Z (aR.cons 9 Z .nil) .nil (eR 0 Z Z (bw.trans bx) Z Z G) aO.z<|a_ Z<|eB h λaq h=>aU (gH (vW (q:=10) (j:=3) Z Z G.1 G.2)) λbz=>?_;refine i_ Z (hZ Z Z bz Z Z aq)<|aU (bJ (aA.fact 3 Z)) λbA=>?_;refine aU (bJ (bX (aA.fact 3 Z) G.1 G.2)) λbC=>?_;refine bQ Z (aR.cons 10 Z .nil) .nil (dJ (f:=λx=>x) Z (Dl (q:=0) Z G.1 (by have q0:=G.2;have q1:=bA;(try simp only[zA1]at q0 q1⊢);omega)) Z Z Z mC ⟨aq.1,(by have q0:=aq.2;have q1:=bC;(try simp only[zA1]at q0 q1⊢);omega)⟩) aO.z ?_;refine bS 14 Z Z<|eB h λbo h=>aD (bV Z Z (bF (i:=1) (j:=0) Z Z) Z Z bo) Z ?_;refine aQ (Know.one ((bX (bX (aA.fact 3 Z) G.1 G.2) aq.1 aq.2))) λbi=>?_;refine aQ (bJ (aA.fact 0 Z)) λbH=>?_;refine cG (cP (fE a6 (aA.fact 0 Z) (bX (bX (aA.fact 3 Z) G.1 G.2) aq.1 aq.2))) ?_;refine qI (lB (us:=[a5]) (o:=0) (q:=1) 1 (a5) ⟨bo.1,(by have q0:=bo.2;have q1:=bH;(try simp only[zA1]at q0 q1⊢);omega)⟩ Z Z Z Z (by rw[show(at' (at' g.2.2.2.2.2.2.2.2.2.2.2.2.1 a.2) p.1).cells = #[at' (at' g.2.2.2.2.2.2.2.2.2.2.2.2.1 a.2) p.1]from dG bi]) Z Z Z (dH bi Z) Z) λcn=>?_;refine fH<|oV<|aT<|dK Z<|aB Z<|aP ?_;exact iN ((wI .i64 (p.1+(1:Int))),(List.set p.2 a6 (at' (at' m.2.2.2.2.1 a.2) p.1))) (List.set ap a6 (a5)) h SF (aR.ix [1,2,3,4,5,6,7,8,9,10,11,12] Z Z) (g_ [0,2,3,4,5,6,7,8,9,10,11,12,13] Z)
       refine gC ?_;exact kC (p.2) (ap) h SF Z
      intro ao ay h;unfold pX at h;refine aX<|aB Z<|aH Z<|aP<|aY ?_;exact iK (ao) (bc,ay) h (.inl Z) (BR.r1 Z (RV.tmp Z)) Z (aR.refl _) (aE.refl _ _)
     intro an P h;refine i_ Z (iW Z)<|bS 8 Z Z<|fZ h λb7 cb h=>aI (zBc FS (lN U g.2.1 v0 v1 u.2.2.1 v0 v1 S v3 z4 H.2.1 ((List.zip H.2.2.1 m.2.2.2.1)) u.2.2.2.1 (List.zip H.1 m.1) P.1 ((List.zip P.2 an)) b7 cb) Z (aE.cons (aA.res 3 Z) (aE.cons (aA.fact 5 Z) (aE.cons (aA.fact 6 Z) (aE.cons (aA.res 6 Z) (aE.cons (aA.fact 5 Z) (aE.cons (aA.fact 6 Z) (aE.cons (aA.fact 8 Z) (aE.cons (aA.fact 9 Z) (aE.cons (bF (i:=7) (j:=2) Z Z) (aE.cons (bZ (i:=4) (j:=5) Z Z bG) (aE.cons (bF (i:=0) (j:=0) Z Z) .nil)))))))))))) Z λcm=>aD (BS Z Z) Z<|aP ?_;refine f_ h Z (λh=>?_) λh=>?_
     ·refine aT<|aB Z<|aB Z<|eB h λb5 h=>aD (Uf Z Z b5) Z<|aD (ZZ Z Z) Z<|aH Z<|fH<|oV ?_;exact cK (Up .u32 a.1 (Kj .u32 (1:Int) a.2)) () h SF (aR.ix [1,2,3,4,5,6,7,8,9,10,11] Z Z) (g_ [1,2,3,4,5,6,7,8,9,10,11,12] Z)
     refine fV<|oV ?_;exact cK (a.1) () h SF (aR.ix [1,2,3,4,5,6,7,8,9,10,11] Z Z) (g_ [1,2,3,4,5,6,7,8,9,10,11,12] Z)
    intro am bl h;unfold pW at h;refine aT<|dK Z<|aB Z<|aP ?_;exact Bw (am,(wI .i64 (a.2+(1:Int)))) () h SF Z
   refine gC ?_;exact cK (a.1) () h SF .nil (g_ [4,5,6,7,8,9,10,11] Z)
  intro ax bp h;unfold tJ at h;refine aX<|aB Z<|aH Z<|aP<|aY ?_;exact iK (ax) () h (.inl Z) (BR.r1 Z (RV.tmp Z)) Z (aR.refl _) (aE.refl _ _)
 intro aw bj h;unfold tI at h;refine eL Z<|aH Z<|aP<|aY ?_;cases h;exact mN Z
end Go.Proofs.YtflciafboapaaaaGreat
namespace Go.Proofs.YtflciafboapaaaaGreat
open Go Go.Sx
theorem abb {g:GR} (hV:VG g) {v i:Nat} (hv:v<g.2.length) (hi:i<(row g v).length):yD (row g (oY g v i)) (v:Int)=(Dk g v i:Int):=by
 have e:=yG hV hv hi;obtain⟨j,hj,hjv,_⟩:=hV.sym v hv i hi;have hr:at' g.2 (iP (row g v) i).1=row g (oY g v i):=by rw[e]
 rw[hr]at hj hjv;rcases wZ (row g (oY g v i)) (v:Int)with⟨k,hk,hkv,hkf,hke⟩|⟨hf,_⟩
 ·unfold Dk;omega
 ·exact absurd hjv (hf j hj)
def ID (S:Dh) (a:List zY) (R:List RL) (c:bM) (v:Nat):bT:=if 0<=qD S R c v then H_ S a R c v (qD S R c v)else at' c (v:Int)
def ON (g:GR) (e:Int×Int×Int):Bool:=decide ((1<=e.1∧e.1<=4)∧(0<=e.2.1∧e.2.1<(g.2.length:Int))∧(e.1=1∨(0<=e.2.2∧e.2.2<((at' g.2 e.2.1).length:Int))))
def evN (e:Int×Int×Int):Nat×Nat×Nat:=(e.1.toNat,e.2.1.toNat,e.2.2.toNat)
def perfs (g:GR) (nx:bM->Nat->bT) (cap:Nat) (y:wK) (l:wC):wK:=l.foldl (λy e=>lM g nx cap y (evN e)) y
theorem aaG {g:GR} {e:Int×Int×Int} (h:ON g e=true):ZN g (evN e):=by
 obtain⟨k,v,i⟩:=e;obtain⟨⟨d,f⟩,⟨a,j⟩,b⟩:=zB6 h;refine⟨⟨?_,?_⟩,?_,?_⟩<;>simp only[evN]at * 
 ·omega
 ·omega
 ·omega
 ·rcases b with h|⟨l,c⟩
  ·left;omega
  ·right;have:at' g.2 v=row g v.toNat:=by
    show at' g.2 v=at' g.2 ((v.toNat:Nat):Int);rw[Int.toNat_of_nonneg a]
   rw[this]at c;omega
structure VY (g:GR) (vars:List zY) (cap:Nat) (y:wK):Prop where
 sh:SH g y
 all:IM g (λv l=>GU g vars v l=true) y
 cp:ZM g cap y
theorem aad {a:Type} [Inhabited a] {l:List a} {s:a} (h:s∈l):∃k,k<l.length∧at' l (k:Int)=s:=by
 obtain⟨k,b,e⟩:=List.getElem_of_mem h;exact⟨k,b,by rw[iX b];exact e⟩
theorem GM {g:GR} {d:List zY} {cap:Int} {y:wK}:OE g d cap y=true↔(1<=cap∧cap<=8)∧VY g d cap.toNat y:=by
 unfold OE Yg;simp only[zA3,zA7,oE];constructor
 ·rintro⟨⟨m,n⟩,l,o,p,q⟩;have f:∀v,v<g.2.length->((at' y.2.1 (v:Int)).length=(row g v).length∧(at' y.2.2 (v:Int)).length=(row g v).length)∧∀i,i<(row g v).length->GU g d (oY g v i) (mG y.2.1 v i)=true∧((mG y.2.2 v i).length:Int)<=cap∧∀k,k<(mG y.2.2 v i).length->GU g d v (at' (mG y.2.2 v i) (k:Int))=true:=λv b=>by
   have:=q v b;unfold rvB at this;simp only[zA3,zA7,oE]at this;refine⟨⟨this.1,this.2.1⟩,λi e=> ?_⟩
   have:=this.2.2 i e;unfold wiB at this;simp only[zA3,zA7,oE]at this;exact this
  refine⟨l,⟨m,⟨o,λv b=>(f v b).1.1⟩,⟨p,λv b=>(f v b).1.2⟩⟩,⟨n,λv i b e=>((f v b).2 i e).1,λv i b e s r=> ?_⟩,λv i b e=> ?_⟩
  ·obtain⟨k,j,rfl⟩:=aad r;exact((f v b).2 i e).2.2 k j
  ·have:=((f v b).2 i e).2.1;omega
 ·rintro⟨l,h⟩;refine⟨⟨h.sh.c,h.all.c⟩,l,h.sh.a.len,h.sh.w.len,λv b=> ?_⟩
  unfold rvB;simp only[zA3,zA7,oE];refine⟨h.sh.a.row v b,h.sh.w.row v b,λi e=> ?_⟩
  unfold wiB;simp only[zA3,zA7,oE];refine⟨h.all.a v i b e,by have:=h.cp v i b e;omega,λk j=>h.all.w v i b e _ ?_⟩
  rw[iX j];exact List.getElem_mem j
theorem Bo {g:GR} {a:List zY} {v:Nat} {l:bT}:GU g a v l=true↔l.length=a.length∧∀x,x<a.length->(yV g a v x).1<=at' l (x:Int)∧at' l (x:Int)<=(yV g a v x).2:=by
 unfold GU;simp only[zA3,zA7,oE]
theorem Qb {g:GR} {a:List zY} {c:bM} (e:c.length=g.2.length) (d:∀x,x<g.2.length->GU g a x (at' c (x:Int))=true):Xc g c a:=
 ⟨e,λv b=>(Bo.1 (d v b)).1,λv b x f=>(Bo.1 (d v b)).2 x f⟩
theorem Fi {B:Type} {g:GR} (h:VG g) {s2:Cf->(Cf->Option B)->Ei->(Ei->Option B)->Option B}
  {s1:Cf->(Cf->Option B)->Option B} {K:xQ->Option B}
  (o:∀a d,s1 a d=if a.1<(g.2.length:Int)then ck (0<=a.1∧a.1<(g.2.length:Int)) (ck (0<=a.1∧a.1<(g.1.length:Int)) (bP (s2 a d) 1000 ((0:Int),a.2.2)))else K (a.2.1,a.2.2))
  (p:∀a d b e,s2 a d b e=if b.1<((at' g.2 a.1).length:Int)then ck (0<=b.1∧b.1<((at' g.2 a.1).length:Int)) (ck (0<=a.1∧a.1<(b.2.length:Int)) (Option.bind (iY 1000 g ((at' (at' g.2 a.1) b.1).1) a.1) λr=>ck (((at' b.2 a.1).length:Int)+(List.length [r]:Int)<=1099511627) (ck (0<=a.1∧a.1<((List.set b.2 (Int.toNat a.1) (at' b.2 a.1++[r])).length:Int)) (e (wI .i64 (b.1+1),List.set b.2 (Int.toNat a.1) (at' b.2 a.1++[r]))))))else d (wI .i64 (a.1+1),max a.2.1 (at' g.1 a.1),b.2)):
  bP s1 1000 ((0:Int),(0:Int),(List.replicate (Int.toNat (g.2.length:Int)) ([]:bT)))=K (iJ g g.2.length,eV g):=by
 have C:=h.n24;have t:=h.len;let f:Nat->bT:=λv=>(List.range (row g v).length).map (QO g v);let Q:Nat->bM:=λk=>(List.range k).map f++List.replicate (g.2.length - k) [];have q:∀k,k<=g.2.length->(Q k).length=g.2.length:=λk l=>by simp[Q];omega
 rw[show List.replicate (Int.toNat (g.2.length:Int)) ([]:bT)=Q 0 by simp[Q]];refine dY (step:=s1) g.2.length (λk=>((k:Int),iJ g k,Q k)) (λk d l=> ?_) (λd=> ?_) 1000 (by omega)
 ·have s:=(h.node k l).deg;have w:k<(Q k).length:=by rw[q k (by omega)];exact l
  rw[o];dsimp only;rw[if_pos (by omega),dD (by omega),dD (by omega)];let c:Nat->bT:=λj=>(List.range j).map (QO g k);have z:Q k=(Q k).set k (c 0):=by
   have:at' (Q k) (k:Int)=c 0:=by
    rw[iX w];simp[Q,c]
   rw[<-this];exact(CL (Q k) (k:Int) (by simpa using w) (by omega)).symm
  have i:∀A:bM,A.length=g.2.length->bP (s2 ((k:Int),iJ g k,Q k) d) 1000 ((0:Int),A.set k (c 0))=d (((k+1:Nat):Int),iJ g (k+1),A.set k (f k)):=by
   intro A F;refine dY (step:=s2 ((k:Int),iJ g k,Q k) d) (K:=d (((k+1:Nat):Int),iJ g (k+1),A.set k (f k))) (row g k).length (λj=>((j:Int),A.set k (c j))) (λj e E=> ?_) (λe=> ?_) 1000 (by omega)
   ·obtain⟨u,x,m⟩:=h.to l E;have D:=(h.node u x).deg;have y:at' (A.set k (c j)) (k:Int)=c j:=by rw[wM _ _ _ _ (by omega),if_pos Z]
    have n:(c j).length=j:=by simp[c]
    rw[p];dsimp only;rw[if_pos (show(j:Int)<((row g k).length:Int) by omega),dD (show 0<=(j:Int)∧(j:Int)<((row g k).length:Int) by omega),dD (by simp only[zA1];omega),show at' (at' g.2 (k:Int)) (j:Int)=iP (row g k) j from rfl,m,bN (show iY 1000 _ (u:Int) (k:Int)=_ from Lb g u (k:Int) x (by omega)),y,dD (by rw[n];simp;omega),dD (by simp only[zA1];omega),eI (by omega),zAf,List.set_set];have:c j++[yD (row g u) (k:Int)]=c (j+1):=by
     simp only[c];rw[List.range_succ,List.map_append,List.map_singleton,QO,m,zAf]
    rw[this]
   ·rw[p];dsimp only;rw[if_neg (show¬((row g k).length:Int)<((row g k).length:Int)from Int.lt_irrefl _),eI (by omega)];rfl
  have:=i (Q k) (q k (by omega));rw[oU f [] g.2.length k l,<-z]at this;exact this
 ·rw[o];dsimp only;rw[if_neg (by omega)];simp[Q,eV,f]
section
variable {g:GR} {vars:List zY} {cap:Nat} {y:wK}
theorem VY.rowc (h:VY g vars cap y) {v:Nat} (a:v<g.2.length):(at' y.1 (v:Int)).length=vars.length:=(Bo.1 (h.all.c v a)).1
theorem VY.rowa (h:VY g vars cap y) (d:VG g) {v i:Nat} (c:v<g.2.length) (b:i<(row g v).length):(mG y.2.1 v i).length=vars.length:=(Bo.1 (h.all.a v i c b)).1
theorem VY.roww (h:VY g vars cap y) {v i k:Nat} (c:v<g.2.length) (b:i<(row g v).length) (a:k<(mG y.2.2 v i).length):(at' (mG y.2.2 v i) (k:Int)).length=vars.length:=(Bo.1 (h.all.w v i c b _ (by rw[iX a];exact List.getElem_mem a))).1
theorem NC {B:Type} (u:VG g) (h:VY g vars cap y) (M:cap<=8) (N:vars.length<=20) {cp:List (List Int)->Option (List (List Int))} (o:∀c:List (List Int),c.length<=900->(∀v,v<c.length->(at' c (v:Int)).length<=1000)->cp c=some c)
  {s4:(Int×List (List (List Int))×List (List (List (List Int))))->((Int×List (List (List Int))×List (List (List (List Int))))->Option B)->List (List Int)->(List (List (List Int))×Int)->((List (List (List Int))×Int)->Option B)->Option B}
  {s3:(Int×List (List (List Int))×List (List (List (List Int))))->((Int×List (List (List Int))×List (List (List (List Int))))->Option B)->Option B} {K:List (List (List Int))×List (List (List (List Int)))->Option B}
  (F:∀(k:Nat) l m f,k<y.2.1.length->k<y.2.2.length->l.length<=900->s3 ((k:Int),l,m) f=Option.bind (cp (at' y.2.1 (k:Int))) λr=>bP (s4 ((k:Int),l,m) f r) 1000 (([]:List (List (List Int))),(0:Int)))
  (s:∀l m f,s3 ((y.2.1.length:Int),l,m) f=K (l,m))
  (G:∀(k j:Nat) l m f r b d,k<y.2.1.length->k<y.2.2.length->j<(at' y.2.2 (k:Int)).length->b.length<=900->s4 ((k:Int),l,m) f r (b,(j:Int)) d=Option.bind (cp (at' (at' y.2.2 (k:Int)) (j:Int))) λq=>d (b++[q],((j+1:Nat):Int)))
  (t:∀(k:Nat) l m f r b d,k<y.2.1.length->k<y.2.2.length->m.length<=900->s4 ((k:Int),l,m) f r (b,((at' y.2.2 (k:Int)).length:Int)) d=f (((k+1:Nat):Int),l++[r],m++[b])):
  bP s3 1000 ((0:Int),([]:List (List (List Int))),([]:List (List (List (List Int)))))=K y.2:=by
 have E:=u.n24;have I:=h.sh.a.len;have J:=h.sh.w.len;have e:K y.2=K (y.2.1.take y.2.1.length,y.2.2.take y.2.1.length):=by rw[List.take_length,I,<-J,List.take_length]
 rw[e];refine dY (step:=s3) y.2.1.length (λk=>((k:Int),y.2.1.take k,y.2.2.take k)) (λk f p=> ?_) (λf=>s _ _ f) 1000 (by omega);have n:k<g.2.length:=by omega
 have z:=(u.node k n).deg;have O:=h.sh.a.row k n;have L:=h.sh.w.row k n;rw[F k _ _ f p (by omega) (by simp;omega),bN (o (at' y.2.1 (k:Int)) (by omega) λi A=>by have:=h.rowa u n (i:=i) (by omega);show(mG y.2.1 k i).length<=1000;omega)];have x:bP (s4 ((k:Int),y.2.1.take k,y.2.2.take k) f (at' y.2.1 (k:Int))) 1000 (([]:List (List (List Int))),(0:Int))=f (((k+1:Nat):Int),y.2.1.take k++[at' y.2.1 (k:Int)],y.2.2.take k++[at' y.2.2 (k:Int)]):=by
  have D:∀d,s4 ((k:Int),y.2.1.take k,y.2.2.take k) f (at' y.2.1 (k:Int)) ((at' y.2.2 (k:Int)).take (at' y.2.2 (k:Int)).length,((at' y.2.2 (k:Int)).length:Int)) d=f (((k+1:Nat):Int),y.2.1.take k++[at' y.2.1 (k:Int)],y.2.2.take k++[at' y.2.2 (k:Int)]):=λd=>by
   rw[t k _ _ f _ _ d p (by omega) (by simp;omega),List.take_length]
  refine dY (step:=s4 ((k:Int),y.2.1.take k,y.2.2.take k) f (at' y.2.1 (k:Int))) (at' y.2.2 (k:Int)).length (λj=>((at' y.2.2 (k:Int)).take j,(j:Int))) (λj d C=> ?_) D 1000 (by omega);have H:=h.cp k j n (by omega);rw[G k j _ _ f _ _ d p (by omega) C (by simp;omega),bN (o (at' (at' y.2.2 (k:Int)) (j:Int)) (by show(mG y.2.2 k j).length<=900;omega) λi A=>by have:=h.roww n (i:=j) (k:=i) (by omega) A;show(at' (mG y.2.2 k j) (i:Int)).length<=1000;omega),tS C]
 rw[x,tS p,tS (show k<y.2.2.length by omega)]
theorem HM {B:Type} (b:VG g) (h:SH g y) {v:Nat} (l:v<g.2.length) {s:(Int×List (List Int))->((Int×List (List Int))->Option B)->Option B} {K:List (List Int)->Option B}
  (k:∀(i:Nat) c a,i<(row g v).length->c.length=y.1.length->s ((i:Int),c) a=a (((i+1:Nat):Int),c.set (oY g v i) (mG y.2.1 v i))) (f:∀c a,c.length=y.1.length->s (((row g v).length:Int),c) a=K c):bP s 1000 ((0:Int),y.1)=K (vw g y v):=by
 have d:=(b.node v l).deg;have e:=b.n24;exact dY (step:=s) (row g v).length (λi=>((i:Int),Tz g y v i)) (λi a j=>k i _ a j (CV g y v i)) (λa=>f _ a (CV g y v _)) 1000 (by omega)
end
theorem Tc {X B:Type} {n:Nat} {b:Nat->Bool} (F:Nat->X) {step:X->(X->Option B)->Option B} {Z:Option B} {K:Option B}
  (f:∀(k:Nat) a,k<n->(∀j,j<k->b j=true)->step (F k) a=if b k=true then a (F (k+1))else Z) (l:(∀j,j<n->b j=true)->∀a,step (F n) a=K) (p:n<1000):bP step 1000 (F 0)=if By n b=true then K else Z:=by
 by_cases h:By n b=true
 ·rw[if_pos h];have d:=oE.1 h;exact dY n F (λk a c=>by rw[f k a c (λj o=>d j (by omega)),if_pos (d k c)]) (l d) 1000 p
 ·rw[if_neg h];obtain⟨m,g,i,e⟩:=Nu h;exact dY m F (λk a c=>by rw[f k a (by omega) (λj o=>e j (by omega)),if_pos (e k c)]) (λa=>by rw[f m a g e,if_neg (by rw[i];decide)]) 1000 (by omega)
theorem JK {g:GR} {b:List (List Int)->Nat->List Int} {a:Nat} {y:wK} {l:List (Int×Int×Int)} {k:Nat} (c:k<l.length):perfs g b a y (l.take (k+1))=lM g b a (perfs g b a y (l.take k)) (evN (at' l (k:Int))):=by
 rw[show l.take (k+1)=l.take k++[at' l (k:Int)]from by first|exact(tS c).symm|exact tS c];unfold perfs;rw[List.foldl_append];rfl
section
variable {g:GR} {p:BQ} {R:List RL} {cap:Nat} {y:wK}
theorem Ww {S:Dh} {a:List zY} {c:List (List Int)} {v:Nat} (k:jV S.2.1 a) (l:List (Nat×E)):(∀s∈l,s.1<a.length)->∀b,GU S.2.1 a v b=true->GU S.2.1 a v (l.foldl (Ij S a c v) b)=true:=by
 induction l with
 |nil=>exact λ_ b h=>h
 | cons s l ih =>
  intro f b h;rw[List.foldl_cons];refine ih (λx d=>f x (zAj _ d)) _ ?_;have m:=f s (zAb ..);obtain⟨i,j⟩:=Bo.1 h;refine Bo.2 ⟨by simp[Ij,i],λx d=> ?_⟩;unfold Ij;rw[wM _ _ _ _ (by omega)];by_cases e:x=s.1
  ·subst e;rw[if_pos Z];exact SG k m v _
  ·rw[if_neg e];exact j x d
theorem VQ (k:jV g p.2.1) (h:kG p.2.1.length R=true):
  ∀c:List (List Int),c.length=g.2.length->(∀x,x<g.2.length->GU g p.2.1 x (at' c (x:Int))=true)->∀v,v<g.2.length->GU g p.2.1 v (ID (cX p g) p.2.1 R c v)=true:=λc m d v f=>by
 unfold ID;by_cases b:0<=qD (cX p g) R c v
 ·rw[if_pos b];obtain⟨i,j,a,_⟩:=(Gn (cX p g) R c v).resolve_left (λe=>by omega);rw[j];exact Ww (S:=cX p g) k _ (λs l=>((II h a).2.2 s l).1) _ (d v f)
 ·rw[if_neg b];exact d v f
theorem VY.perf {f:List (List Int)->Nat->List Int} {d:List zY} (i:VG g) (h:VY g d cap y) {e:Nat×Nat×Nat} (j:ZN g e) (k:∀c:List (List Int),c.length=g.2.length->(∀x,x<g.2.length->GU g d x (at' c (x:Int))=true)->∀v,v<g.2.length->GU g d v (f c v)=true):VY g d cap (lM g f cap y e):=by
 obtain⟨a,b,c⟩:=VV i h.sh h.all h.cp j k;exact⟨a,b,c⟩
theorem VY.perfs {nx:List (List Int)->Nat->List Int} {a:List zY} (b:VG g) (h:VY g a cap y) (d:∀c:List (List Int),c.length=g.2.length->(∀x,x<g.2.length->GU g a x (at' c (x:Int))=true)->∀v,v<g.2.length->GU g a v (nx c v)=true) (l:List (Int×Int×Int)):∀k,k<=l.length->(∀j,j<k->ON g (at' l (j:Int))=true)->VY g a cap (Go.Proofs.YtflciafboapaaaaGreat.perfs g nx cap y (l.take k))
 |0,_,_=>h
 |k+1,hk,hb=>by
  rw[JK (by omega)];exact(VY.perfs b h d l k (by omega) λj e=>hb j (by omega)).perf b (aaG (hb k (by omega))) d
end
theorem Ma {g:GR} {k v i:Int} (a:1<=k∧k<=4) (b:0<=v∧v<(g.2.length:Int)) (c:k=1∨(0<=i∧i<((at' g.2 v).length:Int))):ON g (k,v,i)=true:=zAd ⟨a,b,c⟩
theorem Vs {g:GR} {k:Bool} {y:wK} {v i:Nat} (h:[]=mG y.2.2 (oY g v i) (Dk g v i)):vY g k y v i=y:=by unfold vY;rw[<-h]
theorem Tb {g:GR} {k:Bool} {y:wK} {v i:Nat} {s:bT} {r:bM} (h:s::r=mG y.2.2 (oY g v i) (Dk g v i)):vY g k y v i=(y.1,if k=true then Gs y.2.1 v i s else y.2.1,Gs y.2.2 (oY g v i) (Dk g v i) r):=by unfold vY;rw[<-h]
theorem UK (l:bT) (h:l.length<=900):mY 1000 l=some l:=by
 unfold mY;rw[dD (by simp;omega),List.nil_append]
abbrev Xp:=FE
abbrev HO:wK:=([],[],[])
section
variable {g:GR} {p:BQ} {R:List RL} {cap:Int} {y:wK} {l:List (Int×Int×Int)}
theorem Wp (hV:VG g) (hp:jV g p.2.1) (hz:p.2.2.map rR=A_ R) (hR:kG p.2.1.length R=true) (hcap:1<=cap∧cap<=8) {A:Xp} (hA1:A.1=qU g p.2.1) (hA2:A.2.1=iJ g g.2.length) (hA3:A.2.2.2.1=eV g) (h:VY g p.2.1 cap.toNat y) {k:Nat} (hk:k<l.length) (hl:l.length<=900) (ag:Int×wK->Option (wK×Int)):
  fT 1000 p g cap l A ((k:Int),y) ag=if ON g (at' l (k:Int))=true then ag (((k+1:Nat):Int),lM g (ID (cX p g) p.2.1 R) cap.toNat y (evN (at' l (k:Int))))else some (HO,2):=by
 have h24:=hV.n24;have hvl:=hp.len;have lc:=h.sh.c;have la:=h.sh.a.len;have lw:=h.sh.w.len;obtain⟨e,he⟩:∃e,at' l (k:Int)=e:=⟨_,rfl⟩
 obtain⟨ek,ev,ei⟩:=e;have bad:qQ 1000 p g cap l A ((k:Int),y) ag true=some (HO,2):=rfl;have bad8:xA 1000 g cap l ((k:Int),y) ag true=some (HO,2):=rfl;unfold fT;simp only[he];rw[if_pos (by omega),dD (by omega),bad];by_cases k1:ek<1
 ·rw[if_pos k1,if_neg (by unfold ON;rw[zA7];rintro⟨h,-,-⟩;simp only at h;omega)]
 rw[if_neg k1];by_cases k2:4<ek
 ·rw[if_pos k2,if_neg (by unfold ON;rw[zA7];rintro⟨h,-,-⟩;simp only at h;omega)]
 rw[if_neg k2];by_cases k3:ev<0
 ·rw[if_pos k3,if_neg (by unfold ON;rw[zA7];rintro⟨-,h,-⟩;simp only at h;omega)]
 rw[if_neg k3];by_cases k4:(g.2.length:Int)<=ev
 ·rw[zAd k4,bad,if_neg (by unfold ON;rw[zA7];rintro⟨-,h,-⟩;simp only at h;omega)]
 rw[zA6 k4];obtain⟨v,rfl⟩:∃v:Nat,ev=(v:Int):=⟨ev.toNat,by omega⟩
 have hv:v<g.2.length:=by omega
 have hdeg:=(hV.node v hv).deg;have hrow:at' g.2 (v:Int)=row g v:=rfl;have rc:=h.rowc hv;have ra:=h.sh.a.row v hv;have rw':=h.sh.w.row v hv;have fin:∀c ca wi,mD ((k:Int),y) ag ((0:Int),c,wi,ca)=ag (((k+1:Nat):Int),c,ca,wi):=λc ca wi=>by
  unfold mD;rw[if_neg (by simp)];show ag (wI .i64 ((k:Int)+1),c,ca,wi)=_;rw[eI (by omega)]
 unfold qQ;rw[if_neg (by decide)];simp only[he];by_cases hk1:ek=1
 ·subst hk1;rw[if_pos Z,dD (by omega),dD (by omega),if_pos (Ma ⟨by decide,by decide⟩ ⟨by omega,by omega⟩ (.inl Z))];have hev:evN ((1:Int),(v:Int),ei)=(1,v,ei.toNat):=rfl;rw[hev];have hvw:=MS hV h.sh hv h.all;have hcw:=Qb hvw.1 hvw.2;refine(HM (s:=xC 1000 p g l A ((k:Int),y) ag) (K:=w_ 1000 p g l A ((k:Int),y) ag) hV h.sh hv (λi c ag2 hi hcl=> ?_) (λc ag2 hcl=> ?_)).trans ?_
  ·have hto:=yG hV hv hi;have hul:=(tU hV hv hi).ul;have hl1:at' (row g v) (i:Int)=iP (row g v) i:=rfl;unfold xC;simp only[he,hrow,hl1,hto];rw[if_pos (by omega),dD (by omega),dD (by omega),dD (by omega),dD (by omega),eI (by omega),zAf]
  ·unfold xC;simp only[he,hrow];rw[if_neg (by omega)]
  ·unfold w_ CJ;simp only[he,hA2,hA3,hA1];rw[bN (show cO 1000 _ (vw g y v) (v:Int)=_ from Gp hV hcw.shape hv hz hR (qU g p.2.1))];show(if 0<=qD (cX p g) R (vw g y v) v then _ else _)=ag (_,Nt g (ID (cX p g) p.2.1 R) y v);unfold Nt ID;by_cases h0:0<=qD (cX p g) R (vw g y v) v
   ·obtain⟨i,hi,hil,_⟩:=(Gn (cX p g) R (vw g y v) v).resolve_left (λe=>by omega);have hi':qD (p,g,iJ g g.2.length,eV g) R (vw g y v) v=(i:Int):=hi;rw[if_pos h0,if_pos h0,hi,hi',bN (show iC 1000 _ (vw g y v) (v:Int) (i:Int)=_ from Rx (gr:=iJ g g.2.length) hV hp hcw.shape hv hz hR hil),dD (by omega),zAf];exact fin _ _ _
   ·rw[if_neg h0,if_neg h0];refine(fin _ _ _).trans ?_;have e1:at' (vw g y v) (v:Int)=at' y.1 (v:Int):=MR hV h.sh hv _ (zAe _);rw[e1,Ol y.1 (by omega)]
 rw[if_neg hk1];by_cases i1:ei<0
 ·rw[if_pos i1,bad8,if_neg (by unfold ON;rw[zA7];rintro⟨-,-,h⟩;simp only at h;omega)]
 rw[if_neg i1,dD (by omega),hrow];by_cases i2:((row g v).length:Int)<=ei
 ·rw[zAd i2,bad8,if_neg (by unfold ON;rw[zA7];rintro⟨-,-,h⟩;simp only[hrow]at h;omega)]
 rw[zA6 i2];obtain⟨i,rfl⟩:∃i:Nat,ei=(i:Int):=⟨ei.toNat,by omega⟩
 have hi:i<(row g v).length:=by omega
 rw[if_pos (Ma (by omega) (by omega) (.inr (by rw[hrow];omega)))];have hev:evN (ek,(v:Int),(i:Int))=(ek.toNat,v,i):=rfl;rw[hev];have hwl:=h.cp v i hv hi;have e2:at' (at' y.2.2 (v:Int)) (i:Int)=mG y.2.2 v i:=rfl;unfold xA;rw[if_neg (by decide)];simp only[he,e2];by_cases hk2:ek=2
 ·subst hk2;rw[if_pos Z,dD (by omega),dD (by omega)];show _=ag (_,Ce cap.toNat y v i);unfold Ce;by_cases hc:(mG y.2.2 v i).length<cap.toNat
  ·rw[if_pos (show((mG y.2.2 v i).length:Int)<cap by omega),if_pos hc,dD (by omega),bN (UK _ (by omega)),dD (by simp;omega),zAf,zAf];exact fin _ _ _
  ·rw[if_neg (show¬((mG y.2.2 v i).length:Int)<cap by omega),if_neg hc];exact fin _ _ _
 rw[if_neg hk2];have hto:=yG hV hv hi;have hpb:=tU hV hv hi;have hul:=hpb.ul;have hbl:=hpb.bl;have hdu:=(hV.node (oY g v i) hul).deg;have hwu:=h.sh.w.row (oY g v i) hul;have hl1:at' (row g v) (i:Int)=iP (row g v) i:=rfl;have e3:at' (at' y.2.2 ((oY g v i:Nat):Int)) ((Dk g v i:Nat):Int)=mG y.2.2 (oY g v i) (Dk g v i):=rfl;simp only[hrow,hl1,hto];rw[dD (by omega),dD (by omega),dD (by omega),bN (show iY 1000 _ ((oY g v i:Nat):Int) (v:Int)=_ from Lb g _ _ hul (by omega)),abb hV hv hi,dD (by omega)];simp only[e3];have hpf:lM g (ID (cX p g) p.2.1 R) cap.toNat y (ek.toNat,v,i)=vY g (decide (ek=3)) y v i:=by
  unfold lM;rw[if_neg (show¬ek.toNat=1 by omega),if_neg (show¬ek.toNat=2 by omega)];show vY g (decide (ek.toNat=3)) y v i=_;by_cases q:ek=3
  ·subst q;rfl
  ·rw[zA6 q,zA6 (by omega)]
 rw[hpf];obtain⟨wl,hw⟩:∃wl,wl=mG y.2.2 (oY g v i) (Dk g v i):=⟨_,rfl⟩
 cases wl with
 |nil=>
  rw[if_pos (by rw[<-hw];rfl),Vs hw];exact fin _ _ _
 | cons s r =>
  have hl:(mG y.2.2 (oY g v i) (Dk g v i)).length=r.length+1:=by rw[<-hw];rfl
  rw[if_neg (by omega),Tb hw];have k10:∀ca,xB g l ((k:Int),y) ag (Dk g v i:Int) ca=ag (((k+1:Nat):Int),y.1,ca,Gs y.2.2 (oY g v i) (Dk g v i) r):=λca=>by
   unfold xB;simp only[he,hrow,hl1,hto,e3,<-hw];rw[dD (by simp;omega),zAf,zAf];exact fin _ _ _
  have hs:at' (mG y.2.2 (oY g v i) (Dk g v i)) 0=s:=by rw[<-hw];rfl
  by_cases q:ek=3
  ·subst q;rw[if_pos Z,dD (by omega),dD (by omega),dD (by omega),k10,zAf,zAf,hs];rfl
  ·rw[if_neg q,k10,zA6 q];rfl
end
end Go.Proofs.YtflciafboapaaaaGreat
namespace Go.Proofs.YtflciafboapaaaaGreat
open Go.Sx
def tD (U:Nat) (b:jX) (e:dL) (f:Int) (c:rD) (d:Int×Int×Int):Option Ah:=
 Option.bind (qG U ((b.1,b.2.1,b.2.2)) ((e.1,e.2)) f ((c.1,c.2.1,c.2.2)) ([(d.1,d.2.1,d.2.2)])) λa=>(some (((a.1.1,a.1.2.1,a.1.2.2)),a.2))
theorem aah:bB Tryz.prog 14:=Tryz.call14
theorem MG (U:Nat) {d:jX} {v:dL} {w:Int} {o:rD} {a:Int×Int×Int} (k:Value)  (m:Value)  (p:Value)  (q:Value)  (y:iZ)  (s:Value)  (z:jY)  (t:Value)  (A:If)  (u:Value)  (n:Ie) (r:(bM×List bM×List (List bM))×Int) (h:tD U d v w o a=some r):
  bO Tryz.prog 14 #[Value.agg #[vS (d.1),k,m],Value.agg #[p,q],vI (w),Value.agg #[s,t,u],Value.agg #[vI (a.1),vI (a.2.1),vI (a.2.2)]] [Sl aG k d.2.1,Sl aC m d.2.2,PF (Value.agg #[vS d.1,k,m]),Sl aJ p v.1,S2 aW q y v.2,S2 aJ s z o.1,S3 aJ t A o.2.1,S4 aJ u n o.2.2] (λx:ZB=>Value.tuple #[Value.agg #[x.1,x.2.2.1,x.2.2.2.2.1],vI (r.2)]) (λx l=>l) (λx l=>S2 aJ x.1 x.2.1 r.1.1::S3 aJ x.2.2.1 x.2.2.2.1 r.1.2.1::S4 aJ x.2.2.2.2.1 x.2.2.2.2.2 r.1.2.2::l):=by
 refine bO.of Tryz.func14 Z Tryz.ntmps14 Z λc=>?_;refine aX<|aI (aN.box (cs:=[vS (d.1),k,m]) Z Z) Z λE=>aI (aN.box (cs:=[p,q]) Z Z) Z λF=>aI (aN.box (cs:=[s,t,u]) Z Z) Z λG=>aI (aN.box (cs:=[vI (a.1),vI (a.2.1),vI (a.2.2)]) Z Z) Z λH=>aI (aN.alloc (cs:=[cJ,cJ,cJ]) Z Z) Z λI=>aH Z<|aP<|aX<|cY 4 Z<|cY 3 Z<|aB Z<|cY 2 Z<|cY 1 Z<|aI (cU (e:=cZ) ([((a.1,a.2.1,a.2.2))]) [(0,Value.agg #[vI (a.1),vI (a.2.1),vI (a.2.2)])] Z Z Z Z (Ju (vI (a.1)) (vI (a.2.1)) (vI (a.2.2))) Z Z Z) Z λC=>cG (eQ 0 Z (cB (aA.res 0 Z) lA))<|fZ h λB D h=>aI (aN.call LS (Bp U k m p q y s z t A u n C B D) Z (fR.cons (zA0 (i:=1) Z) (fR.cons (zA0 (i:=2) Z) (fR.cons (zA0 (i:=3) Z) (fR.cons (zA0 (i:=4) Z) (fR.cons (zA0 (i:=5) Z) (fR.cons (zA0 (i:=6) Z) (fR.cons (zA0 (i:=7) Z) (fR.cons (zA0 (i:=8) Z) (mK 0 Z))))))))) (λ_ _=>rfl) (λ_ _=>rfl)) Z λb=>iR Z<|iR Z<|aQ (Know.one (aA.sl (aA.fact 0 Z))) λf=>aQ (Know.one (aA.sl (aA.fact 1 Z))) λg=>aQ (Know.one (aA.sl (aA.fact 2 Z))) λj=>bL 0 (vs:=[b.1,b.2.2.1,b.2.2.2.2.1]) Z Z (dH f (dH g (dH j Z))) Z Z Z<|aH Z<|aP<|aY ?_;cases h;exact kH (b.1,b.2.1,b.2.2.1,b.2.2.2.1,b.2.2.2.2.1,b.2.2.2.2.2) Z Z (RV.cell 0 Z Z Z Z) (RV.tmp Z) .nil (g_ [0,1,2] Z)
end Go.Proofs.YtflciafboapaaaaGreat
namespace Go.Proofs.YtflciafboapaaaaGreat
open Go Go.Sx
def Wl (g:GR) (b:List zY) (c:bM->Nat->bT) (a:Int) (y:wK) (l:wC):wK×Int:=
 if 1<=a∧a<=8 then(if OE g b a y=true then(if By l.length (λk=>ON g (at' l (k:Int)))=true then(perfs g c a.toNat y l,0)else(HO,2))else(HO,7))else(HO,2)
section
variable {g:GR} {p:BQ} {R:List RL} {cap:Int} {y:wK} {l:List (Int×Int×Int)}
theorem UH (c:VG g) (d:jV g p.2.1) (cap:Int) (y:wK):uK 1000 p g cap y=some (if 1<=cap∧cap<=8 then(if OE g p.2.1 cap y=true then 0 else 7)else 2):=by
 have e:sS 1000 p g cap y false=some (if OE g p.2.1 cap y=true then 0 else 7):=by
  unfold sS;rw[if_neg (by decide),bN (show kZ 1000 _ _ _ _=_ from Kc c d cap y)];cases OE g p.2.1 cap y<;>rfl
 unfold uK;rw[bN (show mH 1000 _ _=some 0 from Mc c d),if_neg (by decide)];by_cases a:cap<1
 ·rw[if_pos a,if_neg (by omega)];rfl
 rw[if_neg a];by_cases b:8<cap
 ·rw[zAd b,if_neg (by omega)];rfl
 rw[zA6 b,e,if_pos (show 1<=cap∧cap<=8 from by omega)]
theorem Wo (j:VG g) (q:jV g p.2.1) (t:p.2.2.map rR=A_ R) (i:kG p.2.1.length R=true) (a:1<=cap∧cap<=8) {A:Xp} (c:A.1=qU g p.2.1) (d:A.2.1=iJ g g.2.length) (e:A.2.2.2.1=eV g) (h:VY g p.2.1 cap.toNat y) (r:l.length<=900):
  bP (fT 1000 p g cap l A) 1000 ((0:Int),y)=some (if By l.length (λk=>ON g (at' l (k:Int)))=true then(perfs g (ID (cX p g) p.2.1 R) cap.toNat y l,0)else(HO,2)):=by
 have:=Tc (step:=fT 1000 p g cap l A) (n:=l.length) (b:=λk=>ON g (at' l (k:Int))) (λk=>((k:Int),perfs g (ID (cX p g) p.2.1 R) cap.toNat y (l.take k))) (Z:=some (HO,2)) (K:=some (perfs g (ID (cX p g) p.2.1 R) cap.toNat y l,0)) (λk f o m=>by
  have s:=VY.perfs j h (VQ (R:=R) q i) l k (by omega) m;rw[Wp j q t i a c d e s o r f,JK o]) (λm f=>by
  unfold fT Ac;dsimp only;rw[if_neg (by omega),List.take_length]) (by omega)
 refine Eq.trans this ?_;split<;>rfl
theorem Hw (e:VG g) (x:jV g p.2.1) {o:Nat} (A:o<=8) (h:VY g p.2.1 o y) (cap:Int):gU 1000 p g cap y=some (qU g p.2.1,iJ g g.2.length,y.1,eV g,y.2.1,y.2.2):=by
 have z:=e.n24;have s:=x.len;have F:=h.sh.a.len;have G:=h.sh.w.len;unfold gU;rw[dD (by omega)];refine(Fi (s1:=nE 1000 p g y) (s2:=vO 1000 g) (K:=nC 1000 p g y) e (λ_ _=>rfl) (λ_ _ _ _=>rfl)).trans ?_;unfold nC qT;rw[bN (show fL 1000 _ _=_ from Cd e x)];unfold qR;rw[bN (FW y.1 (by rw[h.sh.c];omega) λv i=>by rw[h.rowc (by rw[<-h.sh.c];exact i)];omega)];refine(NC (cp:=jU 1000) (s3:=jI 1000 y (qU g p.2.1,iJ g g.2.length,eV g) y.1) (s4:=λa d r=>nD 1000 y a d r) (K:=qS (qU g p.2.1,iJ g g.2.length,eV g) y.1) e h A s (λc a b=>FW c a b) (λk n t d u f B=> ?_) (λn t d=> ?_) (λk j n t d r b m u f E D=> ?_) (λk n t d r b m u f C=> ?_)).trans ?_
 ·unfold jI;dsimp only;rw[if_pos (by omega),dD (by omega)];refine congrArg (Option.bind _) (funext λr=> ?_);rw[dD (by simp;omega),dD (by omega)]
 ·unfold jI;dsimp only;rw[if_neg (by omega)]
 ·unfold nD;dsimp only;rw[if_pos (by omega),dD (by omega)];refine congrArg (Option.bind _) (funext λq=> ?_);have:j<1000000:=by
   have i:k<g.2.length:=by omega
   have:=h.sh.w.row k i;have:=(e.node k i).deg;omega
  rw[dD (by simp;omega),eI this]
 ·unfold nD vM;dsimp only;rw[if_neg (by omega),dD (by simp;omega),eI (by omega)]
 ·rfl
theorem Wm (b:VG g) (c:jV g p.2.1) (i:p.2.2.map rR=A_ R) (d:kG p.2.1.length R=true) (cap:Int) (y:wK) (e:l.length<=900):qG 1000 p g cap y l=some (Wl g p.2.1 (ID (cX p g) p.2.1 R) cap y l):=by
 unfold qG Wl;rw[bN (show uK 1000 _ _ _ _=_ from UH b c cap y)];by_cases a:1<=cap∧cap<=8
 rotate_left
 ·rw[if_neg a,if_neg a];rfl
 rw[if_pos a,if_pos a];cases f:OE g p.2.1 cap y
 ·rfl
 obtain⟨_,h⟩:=GM.1 f;rw[if_pos Z,if_neg (by decide),if_neg (by omega),if_pos Z,bN (show gU 1000 _ _ _ _=_ from Hw b c (by omega) h cap)];exact Wo b c i d a Z Z Z h e
theorem Zb (b:VG g) (c:jV g p.2.1) (d:p.2.2.map rR=A_ R) (a:kG p.2.1.length R=true) (cap:Int) (y:wK) (e:Int×Int×Int):tD 1000 p g cap y e=some (Wl g p.2.1 (ID (cX p g) p.2.1 R) cap y [e]):=by
 unfold tD;rw[bN (show qG 1000 _ _ _ _ [e]=_ from Wm b c d a cap y (by simp))]
def Yj (S:Dh) (g:GR) (R:List RL) (y:wK):Nat:=nN (λv=>decide (0<=qD S R (vw g y v) v)) g.2.length
theorem L_ (hV:VG g) (hp:jV g p.2.1) (hz:p.2.2.map rR=A_ R) (hR:kG p.2.1.length R=true) {A:Xp} (hA1:A.1=qU g p.2.1) (hA2:A.2.1=iJ g g.2.length) (hA3:A.2.2.2.1=eV g) (hA4:A.2.2.1=y.1) (hA5:A.2.2.2.2.1=y.2.1) {cp:Nat} (h:VY g p.2.1 cp y):
  bP (gJ 1000 p g A) 1000 ((0:Int),(0:Int))=some ((Yj (cX p g) g R y:Nat):Int):=by
 have h24:=hV.n24;have hvl:=hp.len;have lc:=h.sh.c;have la:=h.sh.a.len;let q:Nat->Bool:=λv=>decide (0<=qD (cX p g) R (vw g y v) v);refine dY (step:=gJ 1000 p g A) (K:=some ((nN q g.2.length:Nat):Int)) g.2.length (λk=>(((nN q k:Nat):Int),(k:Int))) (λv ag hv=> ?_) (λag=> ?_) 1000 (by omega)
 rotate_left
 ·unfold gJ tG tF;dsimp only;rw[if_neg (by omega)]
 have hdeg:=(hV.node v hv).deg;have hrow:at' g.2 (v:Int)=row g v:=rfl;have ra:=h.sh.a.row v hv;have hm:=IC q (k:=v) (by omega);have hvw:=MS hV h.sh hv h.all;have hcw:=Qb hvw.1 hvw.2;unfold gJ;simp only[hA4];rw[if_pos (by omega),dD (by omega),dD (by omega)];refine(HM (s:=pV 1000 p g A (((nN q v:Nat):Int),(v:Int)) ag) (K:=pU 1000 p g A (((nN q v:Nat):Int),(v:Int)) ag) hV h.sh hv (λi c ag2 hi hcl=> ?_) (λc ag2 hcl=> ?_)).trans ?_
 ·have hto:=yG hV hv hi;have hul:=(tU hV hv hi).ul;have hl1:at' (row g v) (i:Int)=iP (row g v) i:=rfl;unfold pV;simp only[hrow,hl1,hto,hA5];rw[if_pos (by omega),dD (by omega),dD (by omega),dD (by omega),dD (by omega),eI (by omega),zAf]
 ·unfold pV;simp only[hrow];rw[if_neg (by omega)]
 ·unfold pU yE pT;simp only[hA2,hA3,hA1];rw[bN (show cO 1000 _ (vw g y v) (v:Int)=_ from Gp hV hcw.shape hv hz hR (qU g p.2.1)),eI (by omega)];show(if 0<=qD (cX p g) R (vw g y v) v then _ else _)=_;cases hq:q v with
  |true=>
   rw[if_pos (zB6 hq),dD (by omega),Pq hm (by omega)];simp only[nN,hq,if_true]
  |false=>
   rw[if_neg (of_decide_eq_false hq)];simp only[nN,hq];rfl
end
theorem QJ (p q:bT) (h:p.length=q.length):By p.length (λk=>decide (at' p (k:Int)=at' q (k:Int)))=decide (p=q):=by
 by_cases e:p=q
 ·subst e;rw[zAd Z];exact oE.2 λk _=>zAd Z
 ·rw[zA6 e];cases c:By p.length (λk=>decide (at' p (k:Int)=at' q (k:Int)))
  ·rfl
  ·refine absurd (List.ext_getElem h λk a b=> ?_) e;have:=zB6 (oE.1 c k a);rwa[iX a,iX b]at this
theorem eqL (p q:bT) (h:q.length<900):sH 1000 p q=some (decide (p=q)):=by
 unfold sH;by_cases a:p.length=q.length
 ·rw[if_neg (by omega),<-QJ p q a,<-ifB];refine uH (λk b c=> ?_) (λb=> ?_) (by omega)
  ·unfold uZ;rw[if_pos (by omega),dD (by omega),dD (by omega),eI (by omega)];by_cases e:at' p (k:Int)=at' q (k:Int)
   ·rw[if_neg (λh=>h e),zAd e,if_pos Z]
   ·rw[if_pos e,zA6 e,if_neg (by decide)]
  ·unfold uZ uY;rw[if_neg (by omega)]
 ·rw[if_pos (by omega),zA6 (λe=>a (by rw[e]))]
def kwB (g:GR) (y:wK) (v i:Nat):Bool:=decide (mG y.2.1 v i=at' y.1 (oY g v i:Int))&&By (mG y.2.2 v i).length λk=>decide (at' (mG y.2.2 v i) (k:Int)=at' y.1 (v:Int))
def knB (g:GR) (y:wK):Bool:=By g.2.length λv=>By (row g v).length (kwB g y v)
section
variable {g:GR} {p:BQ} {R:List RL} {y:wK}
theorem Jn (hV:VG g) (hp:jV g p.2.1) (hz:p.2.2.map rR=A_ R) (hR:kG p.2.1.length R=true) (y:wK):jB 1000 p g y=some (if OE g p.2.1 8 y=true then((Yj (cX p g) g R y:Nat):Int)else 0):=by
 have h24:=hV.n24;unfold jB;rw[bN (show kZ 1000 _ _ _ _=_ from Kc hV hp 8 y)];cases hy:OE g p.2.1 8 y
 ·rfl
 obtain⟨_,h⟩:=GM.1 hy;rw[if_neg (by decide),if_pos Z];rw[bN (show gU 1000 _ _ _ _=_ from Hw hV hp (by omega) h 8)];exact L_ hV hp hz hR Z Z Z Z Z h
theorem MA (hV:VG g) (hp:jV g p.2.1) (hz:p.2.2.map rR=A_ R) (hR:kG p.2.1.length R=true) {A:Xp} (hA1:A.1=qU g p.2.1) (hA2:A.2.1=iJ g g.2.length) (hA3:A.2.2.2.1=eV g) (hA4:A.2.2.1=y.1) (hA5:A.2.2.2.2.1=y.2.1) {cp:Nat} (h:VY g p.2.1 cp y):
  bP (gM 1000 p g A) 1000 ((0:Int),(0:Int))=some (decide (((Yj (cX p g) g R y:Nat):Int)=0)):=by
 have h24:=hV.n24;have hvl:=hp.len;have lc:=h.sh.c;have la:=h.sh.a.len;let q:Nat->Bool:=λv=>decide (0<=qD (cX p g) R (vw g y v) v);refine dY (step:=gM 1000 p g A) (K:=some (decide (((nN q g.2.length:Nat):Int)=0))) g.2.length (λk=>(((nN q k:Nat):Int),(k:Int))) (λv ag hv=> ?_) (λag=> ?_) 1000 (by omega)
 rotate_left
 ·unfold gM tJ tI;dsimp only;rw[if_neg (by omega)]
 have hdeg:=(hV.node v hv).deg;have hrow:at' g.2 (v:Int)=row g v:=rfl;have ra:=h.sh.a.row v hv;have hm:=IC q (k:=v) (by omega);have hvw:=MS hV h.sh hv h.all;have hcw:=Qb hvw.1 hvw.2;unfold gM;simp only[hA4];rw[if_pos (by omega),dD (by omega),dD (by omega)];refine(HM (s:=p_ 1000 p g A (((nN q v:Nat):Int),(v:Int)) ag) (K:=pX 1000 p g A (((nN q v:Nat):Int),(v:Int)) ag) hV h.sh hv (λi c ag2 hi hcl=> ?_) (λc ag2 hcl=> ?_)).trans ?_
 ·have hto:=yG hV hv hi;have hul:=(tU hV hv hi).ul;have hl1:at' (row g v) (i:Int)=iP (row g v) i:=rfl;unfold p_;simp only[hrow,hl1,hto,hA5];rw[if_pos (by omega),dD (by omega),dD (by omega),dD (by omega),dD (by omega),eI (by omega),zAf]
 ·unfold p_;simp only[hrow];rw[if_neg (by omega)]
 ·unfold pX yF pW;simp only[hA2,hA3,hA1];rw[bN (show cO 1000 _ (vw g y v) (v:Int)=_ from Gp hV hcw.shape hv hz hR (qU g p.2.1)),eI (by omega)];show(if 0<=qD (cX p g) R (vw g y v) v then _ else _)=_;cases hq:q v with
  |true=>
   rw[if_pos (zB6 hq),dD (by omega),Pq hm (by omega)];simp only[nN,hq,if_true]
  |false=>
   rw[if_neg (of_decide_eq_false hq)];simp only[nN,hq];rfl
theorem Qi (hV:VG g) (hp:jV g p.2.1) (hz:p.2.2.map rR=A_ R) (hR:kG p.2.1.length R=true) (h:VY g p.2.1 8 y):tH 1000 p g y ()=some (decide (((Yj (cX p g) g R y:Nat):Int)=0)):=by
 unfold tH;rw[bN (show gU 1000 _ _ _ _=_ from Hw hV hp (by omega) h 8)];exact MA hV hp hz hR Z Z Z Z Z h
theorem CM (hV:VG g) (hp:jV g p.2.1) (hz:p.2.2.map rR=A_ R) (hR:kG p.2.1.length R=true) (y:wK):dW 1000 p g y=some (OE g p.2.1 8 y&&(knB g y&&decide (((Yj (cX p g) g R y:Nat):Int)=0))):=by
 have h24:=hV.n24;have hvl:=hp.len;unfold dW;rw[bN (show kZ 1000 _ _ _ _=_ from Kc hV hp 8 y)];cases hy:OE g p.2.1 8 y
 ·rfl
 obtain⟨_,h⟩:=GM.1 hy;have lc:=h.sh.c;have la:=h.sh.a.len;have lw:=h.sh.w.len;rw[if_neg (by decide),zBb];have key:bP (fK 1000 p g y) 1000 0=if knB g y=true then some (decide (((Yj (cX p g) g R y:Nat):Int)=0))else some false:=by
  refine uH (λv ag hv=> ?_) (λag=> ?_) (by omega)
  rotate_left
  ·unfold fK;rw[if_neg (by omega)];exact Qi hV hp hz hR h
  have hdeg:=(hV.node v hv).deg;have hrow:at' g.2 (v:Int)=row g v:=rfl;have rc:=h.rowc hv;have ra:=h.sh.a.row v hv;have rw':=h.sh.w.row v hv;unfold fK;rw[if_pos (by omega),dD (by omega)];refine uH (λi ag2 hi=> ?_) (λag2=> ?_) (by omega)
  rotate_left
  ·unfold iL tK;rw[hrow,if_neg (by omega),eI (by omega)]
  have hto:=yG hV hv hi;have hul:=(tU hV hv hi).ul;have rcu:=h.rowc hul;have hwl:=h.cp v i hv hi;have hl1:at' (row g v) (i:Int)=iP (row g v) i:=rfl;have e1:at' (at' y.2.1 (v:Int)) (i:Int)=mG y.2.1 v i:=rfl;have e2:at' (at' y.2.2 (v:Int)) (i:Int)=mG y.2.2 v i:=rfl;unfold iL kwB;rw[hrow,if_pos (by omega),dD (by omega),dD (by omega),dD (by omega),hl1,hto,dD (by omega),e1,bN (eqL _ _ (by omega))];cases decide (mG y.2.1 v i=at' y.1 (oY g v i:Int))
  ·rfl
  rw[if_neg (by decide),dD (by omega),dD (by omega),zBb];refine Eq.trans (b:=if By (mG y.2.2 v i).length (λk=>decide (at' (mG y.2.2 v i) (k:Int)=at' y.1 (v:Int)))=true then oO (i:Int) ag2 ()else some false) (uH (λk ag3 hk=> ?_) (λag3=> ?_) (by omega)) ?_
  ·unfold tM wW;rw[e2,if_pos (by omega),dD (by omega)];dsimp only;rw[dD (by omega),bN (eqL _ _ (by omega)),bN Z];cases decide (at' (mG y.2.2 v i) (k:Int)=at' y.1 (v:Int))
   ·rw[if_pos (by decide),if_neg (by decide)];unfold lU pZ pY;rw[if_pos (by rw[zA7];omega)]
   ·rw[if_neg (by decide),if_pos (by decide),eI (by omega)]
  ·unfold tM;rw[e2,if_neg (by omega)]
  ·unfold oO lU pZ pY;rw[if_neg (show¬decide ((0:Int) <= -1)=true by decide),eI (by omega)]
 rw[key];cases knB g y<;>rfl
end
theorem acv (p q:bT) (h:q.length<900):tC 1000 p q=some (decide (p=q)):=by
 unfold tC;by_cases a:p.length=q.length
 ·rw[if_neg (by omega),<-QJ p q a,<-ifB];refine uH (λk b c=> ?_) (λb=> ?_) (by omega)
  ·unfold rV;rw[if_pos (by omega),dD (by omega),dD (by omega),eI (by omega)];by_cases e:at' p (k:Int)=at' q (k:Int)
   ·rw[if_neg (λh=>h e),zAd e,if_pos Z]
   ·rw[if_pos e,zA6 e,if_neg (by decide)]
  ·unfold rV rU;rw[if_neg (by omega)]
 ·rw[if_pos (by omega),zA6 (λe=>a (by rw[e]))]
def Lk (g:GR) (v i u:Nat) (w:Int):Prop:=i<(row g v).length∧u<g.2.length∧(iP (row g v) i).1=(u:Int)∧(iP (row g v) i).2=w
inductive Wv (g:GR) (F:Int->Int->Int):Nat->Int->Prop
 |zero:Wv g F 0 0
 |link {u v i:Nat} {y w:Int} (h:Wv g F u y) (hv:v<g.2.length) (hl:Lk g v i u w):Wv g F v (F y w)
noncomputable def lst (g:GR) (F:Int->Int->Int) (v:Nat):Int:=open Classical in if h:∃y,Wv g F v y∧∀z,Wv g F v z->y<=z then Classical.choose h else 0
def adX:E:= .bi 41 (.lf 10 0) (.bi 42 (.bi 36 (.lf 5 0) (.lf 1 0)) (.bi 36 (.lf 5 1) (.lf 4 0)))
def adW (a b:E):E:= .bi 41 (.un 19 (.lf 10 0)) (.bi 42 (.bi 36 (.lf 5 0) a) (.bi 36 (.lf 5 1) b))
def RY (a b:E):List RL:=[(adX,[(0,.lf 1 0),(1,.lf 4 0)]),(adW a b,[(0,a),(1,b)])]
noncomputable def LL (g:GR) (F:Int->Int->Int) (v:Nat):bT:=(List.range (row g v).length).map λi=>F (lst g F (iP (row g v) i).1.toNat) (iP (row g v) i).2
def adT (a:E):E:= .ag 23 (.bi 35 a (.ag 24 a))
def eBX:E:= .ite (.bi 37 (.ag 24 (.lf 12 0)) (.lf 6 0)) (.bi 33 (.ag 24 (.lf 12 0)) (.lf 1 1)) (.lf 6 0)
def eBY:E:=adT (.lf 12 0)
def fB (y _w:Int):Int:=y+1
def RBf:List RL:=RY eBX eBY
theorem YU:kG 2 RBf=true:=by decide +kernel
def acF (a:ByteArray) (b:ByteArray) (k:Int):List zY:=[(a,1,0,0,k,0),(b,3,0,0,0,0)]
theorem acH {g:GR} (e:VG g) (a b:ByteArray) {k:Int} (f:0<=k) (h:k<=16):jV g (acF a b k):=by
 have i:=e.n24;have l:=e.n1;have m:k*(g.2.length:Int)<=16*24:=Int.mul_le_mul h (by omega) (by omega) (by omega);have j:0<=k*(g.2.length:Int):=Int.mul_nonneg f (by omega);refine⟨by show 2<=20;omega,λx c=> ?_,λx c=> ?_,λx c d=> ?_⟩
 ·have c:x<2:=c;rcases(show x=0∨x=1 by omega)with rfl|rfl
  ·show(-100000<=(0:Int)∧(0:Int)<=100000)∧(0<=k∧k<=100000)∧(0<=(0:Int)∧(0:Int)<=100000)
   omega
  ·show(-100000<=(0:Int)∧(0:Int)<=100000)∧(0<=(0:Int)∧(0:Int)<=100000)∧(0<=(0:Int)∧(0:Int)<=100000)
   omega
 ·have c:x<2:=c;rcases(show x=0∨x=1 by omega)with rfl|rfl
  ·exact .inl Z
  ·exact .inr (.inr Z)
 ·have c:x<2:=c;rcases(show x=0∨x=1 by omega)with rfl|rfl
  ·show -100000<=(0:Int)∧(0:Int)<=(0:Int)+k*(g.2.length:Int)+0*iJ g g.1.length∧(0:Int)+k*(g.2.length:Int)+0*iJ g g.1.length - 0+1<=4096;rw[Int.zero_mul];omega
  ·exact absurd d (by show¬(3:Int)=1;decide)
def guC:E:= .ag 21 (.bi 35 (.lf 12 0) (.lf 5 0))
def vaC:E:= .ag 27 (.lf 12 0)
def RC:List RL:=[(guC,[(0,vaC)])]
theorem YV:kG 1 RC=true:=by decide +kernel
theorem loC (g:GR) (v:Nat):lo g (at' wG ((0:Nat):Int)) v=0:=rfl
theorem hiC (g:GR) (v:Nat):hi g (at' wG ((0:Nat):Int)) v=(g.2.length:Int):=by
 show(0:Int)+1*(g.2.length:Int)+0*iJ g g.1.length=_;omega
theorem acG {g:GR} (c:VG g):jV g wG:=by
 have b:=c.n24;refine⟨by decide,RO,λx a=> ?_,λx a _=> ?_⟩
 ·obtain rfl:x=0:=by simp[wG]at a;exact a
  exact .inl Z
 ·obtain rfl:x=0:=by simp[wG]at a;exact a
  rw[loC,hiC];omega
end Go.Proofs.YtflciafboapaaaaGreat
namespace Go.Proofs.YtflciafboapaaaaGreat
open Go.Sx
def CB (U:Nat)  : Option (ByteArray):=
 some (ByteArray.mk #[112,114,111,103,114,97,109,32,98,102,115,59,10,118,97,114,32,100,32,58,32,48,32,46,46,32,110,59,10,118,97,114,32,112,32,58,32,112,111,114,116,59,10,114,117,108,101,32,116,111,112,58,32,114,111,111,116,32,38,38,32,40,100,32,33,61,32,48,32,124,124,32,112,32,33,61,32,110,111,110,101,41,32,45,62,32,100,32,58,61,32,48,44,32,112,32,58,61,32,110,111,110,101,59,10,114,117,108,101,32,108,111,119,58,32,33,114,111,111,116,32,38,38,32,40,100,32,33,61,32,40,109,105,110,40,113,46,100,41,32,60,32,110,32,63,32,109,105,110,40,113,46,100,41,32,43,32,49,32,58,32,110,41,32,124,124,32,112,32,33,61,32,102,105,114,115,116,40,113,46,100,32,61,61,32,109,105,110,40,113,46,100,41,41,41,10,32,32,45,62,32,100,32,58,61,32,40,109,105,110,40,113,46,100,41,32,60,32,110,32,63,32,109,105,110,40,113,46,100,41,32,43,32,49,32,58,32,110,41,44,32,112,32,58,61,32,102,105,114,115,116,40,113,46,100,32,61,61,32,109,105,110,40,113,46,100,41,41,59,10])
theorem aag:bB Tryz.prog 10:=Tryz.call10
theorem Qp (U:Nat)  (r:ByteArray) (h:CB U  = some r):
  bO Tryz.prog 10 #[] [] (λx:Unit=>vS (r)) (λx l=>l) (λ_ l=>l):=by
 refine bO.of Tryz.func10 Z Tryz.ntmps10 Z λc=>?_;unfold CB at h;refine aX<|aH Z<|aP<|aX<|aH Z<|aP<|aY ?_;cases h;exact mN Z
end Go.Proofs.YtflciafboapaaaaGreat