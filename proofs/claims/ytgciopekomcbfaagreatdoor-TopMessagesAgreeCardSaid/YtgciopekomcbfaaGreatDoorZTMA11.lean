/- Models and proofs. Conditions: none. -/
import Derived.Test.YtgciopekomcbfaaGreatDoorZTMA8
import Derived.Test.YtgciopekomcbfaaGreatDoorZTMA10
import Derived.Test.YtgciopekomcbfaaGreatDoorZTMA9
import Derived.Test.YtgciopekomcbfaaGreatDoorZTMA2
set_option linter.unusedVariables false
set_option linter.unusedSimpArgs false
set_option maxHeartbeats 4000000
set_option maxRecDepth 20000
open Go.Proofs.Tryz
variable (U:Nat)
namespace Go.Proofs.YtgciopekomcbfaaGreatDoor
open Go.Sx
def BV (a:tQ):V1 CK:=
 some (((a.1,a.2.1,a.2.2)),(0:Int))
def nL (c:Ec) (b:EV->V1 CK) (a:Int×bE×V6 (V6 bE)×V6 bE):V1 CK:=
 if a.1≠(0:Int)then(some (((([]:bE),(([]:Bm)),(([]:Gf)))),a.1))else(b ((wI .i64 (c.1+(1:Int))),a.2.1,a.2.2.2,a.2.2.1))
def BW (a:Ec) (b:EV->V1 CK) (c:bE):V1 CK:=
 nL a b ((0:Int),c,a.2.2.2,a.2.2.1)
def EC (p0:nM) (p1:dM) (e:Af) (b:Gd) (a:Ec) (c:EV->V1 CK) (d:bE):V1 CK:=
 Option.bind (dR U ((((p0.1,p0.2.1,p0.2.2)),((((p0.1,p0.2.1,p0.2.2)),((p1.1,p1.2)),b.2.1,b.2.2.2.1)),b.1)) d ((at' e a.1).2.1)) λf=>(if(0:Int)<=f then(Option.bind (iZ U ((((p0.1,p0.2.1,p0.2.2)),((((p0.1,p0.2.1,p0.2.2)),((p1.1,p1.2)),b.2.1,b.2.2.2.1)),b.1)) d ((at' e a.1).2.1) f) λg=>(ck (0<=((at' e a.1).2.1)/\((at' e a.1).2.1)<(a.2.1.length:Int)) (BW a c (List.set a.2.1 (Int.toNat ((at' e a.1).2.1)) g))))else(BW a c (a.2.1)))
def zO (p0:nM) (p1:dM) (e:Af) (d:Gd) (b:Ec) (a:EV->V1 CK) (c:bE):V1 CK:=
 EC U p0 p1 e d b a (c)
def zR (p0:nM) (p1:dM) (c:Af) (f:Gd) (a:Ec) (d:EV->V1 CK) (b:Dj) (e:(Int×bE)->V1 CK):V1 CK:=
 if b.1<((at' p1.2 ((at' c a.1).2.1)).length:Int)then(ck (0<=b.1/\b.1<((at' p1.2 ((at' c a.1).2.1)).length:Int)) (ck (0<=((at' c a.1).2.1)/\((at' c a.1).2.1)<(a.2.2.1.length:Int)) (ck (0<=b.1/\b.1<((at' a.2.2.1 ((at' c a.1).2.1)).length:Int)) (ck (0<=((at' (at' p1.2 ((at' c a.1).2.1)) b.1).1)/\((at' (at' p1.2 ((at' c a.1).2.1)) b.1).1)<(b.2.length:Int)) (e ((wI .i64 (b.1+(1:Int))),(List.set b.2 (Int.toNat ((at' (at' p1.2 ((at' c a.1).2.1)) b.1).1)) (at' (at' a.2.2.1 ((at' c a.1).2.1)) b.1))))))))else(zO U p0 p1 c f a d (b.2))
def BX (a:Ec) (c:EV->V1 CK) (b:Gf):V1 CK:=
 nL a c ((0:Int),a.2.1,b,a.2.2.1)
def zQ (p1:dM) (c:Af) (a:Ec) (e:EV->V1 CK) (b:Int) (d:Bm):V1 CK:=
 ck (0<=(0:Int)/\(0:Int)<(1:Int)/\(1:Int)<=((at' (at' a.2.2.2 ((at' (at' p1.2 ((at' c a.1).2.1)) ((at' c a.1).2.2)).1)) b).length:Int)) (nL a e ((0:Int),a.2.1,(List.set a.2.2.2 (Int.toNat ((at' (at' p1.2 ((at' c a.1).2.1)) ((at' c a.1).2.2)).1)) (List.set (at' a.2.2.2 ((at' (at' p1.2 ((at' c a.1).2.1)) ((at' c a.1).2.2)).1)) (Int.toNat b) (List.take (Int.toNat (0:Int)) (at' (at' a.2.2.2 ((at' (at' p1.2 ((at' c a.1).2.1)) ((at' c a.1).2.2)).1)) b)++List.drop (Int.toNat (1:Int)) (at' (at' a.2.2.2 ((at' (at' p1.2 ((at' c a.1).2.1)) ((at' c a.1).2.2)).1)) b)))),d))
def zP (p1:dM) (p2:Int) (b:Af) (a:Ec) (d:EV->V1 CK) (f:V4):V1 CK:=
 if f=true then(nL a d ((2:Int),a.2.1,a.2.2.2,a.2.2.1))else(if((at' b a.1).1)=(2:Int)then(ck (0<=((at' b a.1).2.1)/\((at' b a.1).2.1)<(a.2.2.2.length:Int)) (ck (0<=((at' b a.1).2.2)/\((at' b a.1).2.2)<((at' a.2.2.2 ((at' b a.1).2.1)).length:Int)) (if((at' (at' a.2.2.2 ((at' b a.1).2.1)) ((at' b a.1).2.2)).length:Int)<p2 then(ck (0<=((at' b a.1).2.1)/\((at' b a.1).2.1)<(a.2.1.length:Int)) (Option.bind (uI U (at' a.2.1 ((at' b a.1).2.1))) λe=>(ck (((at' (at' a.2.2.2 ((at' b a.1).2.1)) ((at' b a.1).2.2)).length:Int)+(List.length ([e]):Int)<=1099511627) (BX a d (List.set a.2.2.2 (Int.toNat ((at' b a.1).2.1)) (List.set (at' a.2.2.2 ((at' b a.1).2.1)) (Int.toNat ((at' b a.1).2.2)) ((at' (at' a.2.2.2 ((at' b a.1).2.1)) ((at' b a.1).2.2))++[e])))))))else(BX a d (a.2.2.2)))))else(ck (0<=((at' b a.1).2.1)/\((at' b a.1).2.1)<(p1.2.length:Int)) (ck (0<=((at' b a.1).2.2)/\((at' b a.1).2.2)<((at' p1.2 ((at' b a.1).2.1)).length:Int)) (ck (0<=((at' (at' p1.2 ((at' b a.1).2.1)) ((at' b a.1).2.2)).1)/\((at' (at' p1.2 ((at' b a.1).2.1)) ((at' b a.1).2.2)).1)<(a.2.2.2.length:Int)) (Option.bind (jY U ((p1.1,p1.2)) ((at' (at' p1.2 ((at' b a.1).2.1)) ((at' b a.1).2.2)).1) ((at' b a.1).2.1)) λc=>(ck (0<=c/\c<((at' a.2.2.2 ((at' (at' p1.2 ((at' b a.1).2.1)) ((at' b a.1).2.2)).1)).length:Int)) (if((at' (at' a.2.2.2 ((at' (at' p1.2 ((at' b a.1).2.1)) ((at' b a.1).2.2)).1)) c).length:Int)=(0:Int)then(nL a d ((0:Int),a.2.1,a.2.2.2,a.2.2.1))else(if((at' b a.1).1)=(3:Int)then(ck (0<=((at' b a.1).2.1)/\((at' b a.1).2.1)<(a.2.2.1.length:Int)) (ck (0<=(0:Int)/\(0:Int)<((at' (at' a.2.2.2 ((at' (at' p1.2 ((at' b a.1).2.1)) ((at' b a.1).2.2)).1)) c).length:Int)) (ck (0<=((at' b a.1).2.2)/\((at' b a.1).2.2)<((at' a.2.2.1 ((at' b a.1).2.1)).length:Int)) (zQ p1 b a d c (List.set a.2.2.1 (Int.toNat ((at' b a.1).2.1)) (List.set (at' a.2.2.1 ((at' b a.1).2.1)) (Int.toNat ((at' b a.1).2.2)) (at' (at' (at' a.2.2.2 ((at' (at' p1.2 ((at' b a.1).2.1)) ((at' b a.1).2.2)).1)) c) (0:Int))))))))else(zQ p1 b a d c (a.2.2.1))))))))))
def sB (p0:nM) (p1:dM) (p2:Int) (c:Af) (e:Gd) (a:Ec) (b:EV->V1 CK) (d:V4):V1 CK:=
 if d=true then(nL a b ((2:Int),a.2.1,a.2.2.2,a.2.2.1))else(if((at' c a.1).1)=(1:Int)then(ck ((a.2.1.length:Int)<=1099511627) (ck (0<=((at' c a.1).2.1)/\((at' c a.1).2.1)<(p1.2.length:Int)) (bN (zR U p0 p1 c e a b) U ((0:Int),a.2.1))))else(if((at' c a.1).2.2)<(0:Int)then(zP U p1 p2 c a b (true))else(ck (0<=((at' c a.1).2.1)/\((at' c a.1).2.1)<(p1.2.length:Int)) (zP U p1 p2 c a b (decide (((at' p1.2 ((at' c a.1).2.1)).length:Int)<=((at' c a.1).2.2)))))))
def gH (p0:nM) (p1:dM) (p2:Int) (c:Af) (d:Gd) (a:Ec) (b:EV->V1 CK):V1 CK:=
 if a.1<(c.length:Int)then(ck (0<=a.1/\a.1<(c.length:Int)) (if((at' c a.1).1)<(1:Int)then(sB U p0 p1 p2 c d a b (true))else(if(4:Int)<((at' c a.1).1)then(sB U p0 p1 p2 c d a b (true))else(if((at' c a.1).2.1)<(0:Int)then(sB U p0 p1 p2 c d a b (true))else(sB U p0 p1 p2 c d a b (decide ((p1.2.length:Int)<=((at' c a.1).2.1))))))))else(BV (a.2.1,a.2.2.1,a.2.2.2))
def yR (p0:nM) (p1:dM) (p2:Int) (b:tQ) (c:Af):V1 CK:=
 Option.bind (wQ U ((p0.1,p0.2.1,p0.2.2)) ((p1.1,p1.2)) p2 ((b.1,b.2.1,b.2.2))) λd=>(if d≠(0:Int)then(some (((([]:bE),(([]:Bm)),(([]:Gf)))),d))else(if(65536:Int)<(c.length:Int)then(some (((([]:bE),(([]:Bm)),(([]:Gf)))),(3:Int)))else(Option.bind (kZ U ((p0.1,p0.2.1,p0.2.2)) ((p1.1,p1.2)) p2 ((b.1,b.2.1,b.2.2))) λa=>(bN (gH U p0 p1 p2 c a) U ((0:Int),a.2.2.1,a.2.2.2.2.1,a.2.2.2.2.2)))))
theorem aad:aU prog 11:=call11
theorem Kz (U:Nat) {u:nM} {t:dM} {P:Int} {L:tQ} {m:Af} (D E G H:V0) (z4:mS) (v5:V0) (z6:lI) (v7:V0) (z8:OQ) (v9:V0) (R:OP) (Q:V0) (r:(bE×List bE×List (List bE))×Int) (h:yR U u t P L m=some r):
  a_ prog 11 #[Value.agg #[vS (u.1),D,E],Value.agg #[G,H],vI (P),Value.agg #[v5,v7,v9],Q] [Sl aH D u.2.1,Sl aD E u.2.2,PF (Value.agg #[vS u.1,D,E]),Sl aL G t.1,S2 aY H z4 t.2,S2 aL v5 z6 L.1,S3 aL v7 z8 L.2.1,S4 aL v9 R L.2.2,Sl kK Q m] (λx:acG=>Value.tuple #[Value.agg #[x.1,x.2.2.1,x.2.2.2.2.1],vI (r.2)]) (λx l=>l) (λx l=>S2 aL x.1 x.2.1 r.1.1::S3 aL x.2.2.1 x.2.2.2.1 r.1.2.1::S4 aL x.2.2.2.2.1 x.2.2.2.2.2 r.1.2.2::l):=by
 refine a_.of func11 Z ntmps11 Z λc=>?_;refine aP<|aI (aN.box (cs:=[vS (u.1),D,E]) Z Z) Z λb1=>aI (aN.box (cs:=[G,H]) Z Z) Z λb2=>aI (aN.box (cs:=[v5,v7,v9]) Z Z) Z λb3=>aI (aN.alloc (cs:=[eV,eV,eV]) Z Z) Z λb4=>aC Z<|aM<|aK<|aP<|dL 3 Z<|dL 2 Z<|aA Z<|dL 1 Z<|fP h λr5 w6 h=>aI (zBk ahm (NK U D E G H z4 v5 z6 v7 z8 v9 R r5 w6) Z (jS [0,1,2,3,4,5,6,7] Z)) Z λx7=>aC Z<|aM<|aP<|aA Z<|oZ Z<|aM ?_;refine eI h Z (λh=>?_) λh=>?_
 .refine aP ?_;refine aB (Dm (r:=Value.agg #[eV,eV,eV]) (by intro w;simp[Instr.build,Instr.fill,cY,cI,cD,cZ,c_,cJ,dU])) Z ?_;refine aA Z<|bQ 0 (vs:=[eV,eV,eV]) Z Z Z Z Z Z<|aC Z<|aM<|aT<|aJ ?_;cases h;exact kU ((eV),([]),(eV),([]),(eV),([])) Z Z (RV.cell 0 Z Z Z Z) (RV.tmp Z) .nil (aF.cons rU (aF.cons rU (aF.cons rU aF.nil)))
 refine cQ<|aK<|aP<|aA Z<|kG (WY Z) Z<|aB (wM Z Z) Z<|aM ?_;refine eI h Z (λh=>?_) λh=>?_
 .refine aP ?_;refine aB (Dm (r:=Value.agg #[eV,eV,eV]) (by intro w;simp[Instr.build,Instr.fill,cY,cI,cD,cZ,c_,cJ,dU])) Z ?_;refine bQ 0 (vs:=[eV,eV,eV]) Z Z Z Z Z Z<|aC Z<|aM<|aT<|aJ ?_;cases h;exact kU ((eV),([]),(eV),([]),(eV),([])) Z Z (RV.cell 0 Z Z Z Z) (RV.tmp Z) .nil (aF.cons rU (aF.cons rU (aF.cons rU aF.nil)))
 refine cQ<|aP<|dL 3 Z<|dL 2 Z<|aA Z<|dL 1 Z<|fP h λn cX h=>aI (aN.call aah (Df U D E G H z4 v5 z6 v7 z8 v9 R n cX) Z (mD.cons (zA3 (i:=0) Z) (mD.cons (zA3 (i:=1) Z) (mD.cons (zA3 (i:=2) Z) (mD.cons (zA3 (i:=3) Z) (mD.cons (zA3 (i:=4) Z) (mD.cons (zA3 (i:=5) Z) (mD.cons (zA3 (i:=6) Z) (nD 7 Z)))))))) (λ_ _=>rfl) (λ_ _=>rfl)) Z λa=>aC Z<|aM<|aK<|lT (B:=List V0×List (List V0)×List (List V0)×List (List (List V0))) (λX=>BV X=some r) (λX K=>[(10,vP b4),(13,vP a.1)]) (λX K=>[bH a.1 [G,H,vI (P),vP a.2.1,a.2.2.1,a.2.2.2.1,a.2.2.2.2.1] 84,Ar bI.raw a.2.2.1 K.1,bH a.2.1 [vS (u.1),D,E,vP a.2.2.2.2.2.2.1,a.2.2.2.2.2.2.2.1] 180,Ar bI.raw a.2.2.2.2.2.2.2.1 a.2.2.2.2.2.2.2.2.1,fE bO a.2.2.2.2.2.2.2.2.1 n.1,bH a.2.2.2.2.2.2.1 [vS (u.1),D,E,G,H,vI (n.2.1),a.2.2.2.2.2.2.2.2.2.1] 225,Ar bI.raw a.2.2.2.2.2.2.2.2.2.1 a.2.2.2.2.2.2.2.2.2.2.1,Ar bI.raw a.2.2.2.1 a.2.2.2.2.2.2.2.2.2.2.2.1,fE bI.raw a.2.2.2.2.2.2.2.2.2.2.2.1 K.2.1,Ar bI.raw a.2.2.2.2.1 a.2.2.2.2.2.2.2.2.2.2.2.2.2.1,AJ bI.raw a.2.2.2.2.2.2.2.2.2.2.2.2.2.1 K.2.2.1 K.2.2.2,bH b4 [eV,eV,eV] 42]) (λX K=>[sW aL K.1 X.1,sW aL a.2.2.2.2.2.2.2.2.2.2.1 n.2.2.2.1,Dl aL K.2.1 X.2.1,Gm aL K.2.2.2 X.2.2,Sl aH D u.2.1,Sl aD E u.2.2,PF (Value.agg #[vS u.1,D,E]),Sl aL G t.1,S2 aY H z4 t.2,S2 aL v5 z6 L.1,S3 aL v7 z8 L.2.1,S4 aL v9 R L.2.2,Sl kK Q m]) ?_ ?_
 .refine aP<|aA Z<|kG (aG.fact 12 Z) Z<|aA Z<|aM<|aS<|pN (B:=List V0×List (List V0)×List (List V0)×List (List (List V0))) (gH U u t P m n) (λb d=>[(10,vP b4),(13,vP a.1),(35,Q),(36,vI (m.length:Int)),(37,vI (b.1))]) (λb d=>[bH a.1 [G,H,vI (P),vP a.2.1,a.2.2.1,a.2.2.2.1,a.2.2.2.2.1] 84,Ar bI.raw a.2.2.1 d.1,bH a.2.1 [vS (u.1),D,E,vP a.2.2.2.2.2.2.1,a.2.2.2.2.2.2.2.1] 180,Ar bI.raw a.2.2.2.2.2.2.2.1 a.2.2.2.2.2.2.2.2.1,fE bO a.2.2.2.2.2.2.2.2.1 n.1,bH a.2.2.2.2.2.2.1 [vS (u.1),D,E,G,H,vI (n.2.1),a.2.2.2.2.2.2.2.2.2.1] 225,Ar bI.raw a.2.2.2.2.2.2.2.2.2.1 a.2.2.2.2.2.2.2.2.2.2.1,Ar bI.raw a.2.2.2.1 a.2.2.2.2.2.2.2.2.2.2.2.1,fE bI.raw a.2.2.2.2.2.2.2.2.2.2.2.1 d.2.1,Ar bI.raw a.2.2.2.2.1 a.2.2.2.2.2.2.2.2.2.2.2.2.2.1,AJ bI.raw a.2.2.2.2.2.2.2.2.2.2.2.2.2.1 d.2.2.1 d.2.2.2,bH b4 [eV,eV,eV] 42]) (λb d=>[sW aL d.1 b.2.1,sW aL a.2.2.2.2.2.2.2.2.2.2.1 n.2.2.2.1,Dl aL d.2.1 b.2.2.1,Gm aL d.2.2.2 b.2.2.2,Sl aH D u.2.1,Sl aD E u.2.2,PF (Value.agg #[vS u.1,D,E]),Sl aL G t.1,S2 aY H z4 t.2,S2 aL v5 z6 L.1,S3 aL v7 z8 L.2.1,S4 aL v9 R L.2.2,Sl kK Q m]) ((0:Int),n.2.2.1,n.2.2.2.2.1,n.2.2.2.2.2) (a.2.2.2.2.2.1,a.2.2.2.2.2.2.2.2.2.2.2.2.1,a.2.2.2.2.2.2.2.2.2.2.2.2.2.2.1,a.2.2.2.2.2.2.2.2.2.2.2.2.2.2.2) h SF (aX.ix [0,1,2,3,4,5,6,7,8,9,10,11] Z Z) (aF.refl _ _) ?_;intro af b d h;refine aP<|dD Z<|aM<|aK ?_;refine eI h Z (λh=>?_) λh=>?_
  .refine cQ<|aK<|aS<|aP<|dV h λcz h=>aB (bR Z Z (aG.fact 12 Z) Z Z cz) Z<|aB (gT (cs:=[vI ((at' m b.1).1),vI ((at' m b.1).2.1),vI ((at' m b.1).2.2)]) Z (aG.fact 12 Z) pM Z Z Z Z cz) Z<|aI (aN.alloc (cs:=[vI (0:Int),vI (0:Int),vI (0:Int)]) Z Z) Z λc7=>bQ 0 (vs:=[vI ((at' m b.1).1),vI ((at' m b.1).2.1),vI ((at' m b.1).2.2)]) Z Z Z Z Z Z<|aM<|aP<|aA Z<|dL 0 Z<|vY (A:=Int×bE×List (List bE)×List bE) (B:=List V0×List (List V0)×List (List (List V0))×List (List V0)) (vs:=[vP a.1,Value.agg #[vI ((at' m b.1).1),vI ((at' m b.1).2.1),vI ((at' m b.1).2.2)]]) (λT=>nL b (bN (gH U u t P m n) af) T=some r) (λT N=>vI (T.1)) (λT N=>[bH a.1 [G,H,vI (P),vP a.2.1,a.2.2.1,a.2.2.2.1,a.2.2.2.2.1] 84,Ar bI.raw a.2.2.1 N.1,bH a.2.1 [vS (u.1),D,E,vP a.2.2.2.2.2.2.1,a.2.2.2.2.2.2.2.1] 180,Ar bI.raw a.2.2.2.2.2.2.2.1 a.2.2.2.2.2.2.2.2.1,fE bO a.2.2.2.2.2.2.2.2.1 n.1,bH a.2.2.2.2.2.2.1 [vS (u.1),D,E,G,H,vI (n.2.1),a.2.2.2.2.2.2.2.2.2.1] 225,Ar bI.raw a.2.2.2.2.2.2.2.2.2.1 a.2.2.2.2.2.2.2.2.2.2.1,Ar bI.raw a.2.2.2.1 a.2.2.2.2.2.2.2.2.2.2.2.1,fE bI.raw a.2.2.2.2.2.2.2.2.2.2.2.1 N.2.2.2,Ar bI.raw a.2.2.2.2.1 a.2.2.2.2.2.2.2.2.2.2.2.2.2.1,AJ bI.raw a.2.2.2.2.2.2.2.2.2.2.2.2.2.1 N.2.1 N.2.2.1,bH b4 [eV,eV,eV] 42]) (λT N=>[sW aL N.1 T.2.1,sW aL a.2.2.2.2.2.2.2.2.2.2.1 n.2.2.2.1,Dl aL N.2.2.2 T.2.2.2,Gm aL N.2.2.1 T.2.2.1,Sl aH D u.2.1,Sl aD E u.2.2,PF (Value.agg #[vS u.1,D,E]),Sl aL G t.1,S2 aY H z4 t.2,S2 aL v5 z6 L.1,S3 aL v7 z8 L.2.1,S4 aL v9 R L.2.2,Sl kK Q m]) (nY.fn (show aU prog 69 from call69) Z) func69 Z ntmps69 Z Z ?_ ?_
   .refine aP<|aI (aN.box (cs:=[vI ((at' m b.1).1),vI ((at' m b.1).2.1),vI ((at' m b.1).2.2)]) Z Z) Z λbi=>aC Z<|aM<|aK<|aK<|lT (B:=Unit) (λax=>sB U u t P m n b (bN (gH U u t P m n) af) ax=some r) (λax bn=>[(0,vP a.1),(3,vP bi),(30,vB (ax))]) (λax bn=>[bH bi [vI ((at' m b.1).1),vI ((at' m b.1).2.1),vI ((at' m b.1).2.2)] 80,bH a.1 [G,H,vI (P),vP a.2.1,a.2.2.1,a.2.2.2.1,a.2.2.2.2.1] 84,Ar bI.raw a.2.2.1 d.1,bH a.2.1 [vS (u.1),D,E,vP a.2.2.2.2.2.2.1,a.2.2.2.2.2.2.2.1] 180,Ar bI.raw a.2.2.2.2.2.2.2.1 a.2.2.2.2.2.2.2.2.1,fE bO a.2.2.2.2.2.2.2.2.1 n.1,bH a.2.2.2.2.2.2.1 [vS (u.1),D,E,G,H,vI (n.2.1),a.2.2.2.2.2.2.2.2.2.1] 225,Ar bI.raw a.2.2.2.2.2.2.2.2.2.1 a.2.2.2.2.2.2.2.2.2.2.1,Ar bI.raw a.2.2.2.1 a.2.2.2.2.2.2.2.2.2.2.2.1,fE bI.raw a.2.2.2.2.2.2.2.2.2.2.2.1 d.2.1,Ar bI.raw a.2.2.2.2.1 a.2.2.2.2.2.2.2.2.2.2.2.2.2.1,AJ bI.raw a.2.2.2.2.2.2.2.2.2.2.2.2.2.1 d.2.2.1 d.2.2.2,bH b4 [eV,eV,eV] 42]) (λax bn=>[sW aL d.1 b.2.1,sW aL a.2.2.2.2.2.2.2.2.2.2.1 n.2.2.2.1,Dl aL d.2.1 b.2.2.1,Gm aL d.2.2.2 b.2.2.2,Sl aH D u.2.1,Sl aD E u.2.2,PF (Value.agg #[vS u.1,D,E]),Sl aL G t.1,S2 aY H z4 t.2,S2 aL v5 z6 L.1,S3 aL v7 z8 L.2.1,S4 aL v9 R L.2.2,Sl kK Q m]) ?_ ?_
    .refine yP [0,1,3,7,15,31,63,127,255,511,1023,2047,4095,8191,16383,32767,16383,81919,212991,475135,999423,2047999,4194303,8388607] 22 mixedOrders ?_;refine cN Z<|gW 0 Z<|jL Z (Ft Z Z)<|bD Z ?_;refine Gj (by exact rfl) (by exact rfl) (by exact rfl) (λar=>?_) (λar=>?_)
     .have h:=SE ar h;refine bY Z Z Z Z<|bY Z Z Z Z<|bY Z Z Z Z<|jL Z (La Z Z)<|bD Z<|bY Z Z Z Z<|bY Z Z Z Z<|bY Z Z Z Z<|jL Z (La Z Z)<|bD Z<|bY Z Z Z Z<|bY Z Z Z Z<|bY Z Z Z Z<|bY Z Z Z Z<|bY Z Z Z Z<|bY Z Z Z Z<|bY Z Z Z Z<|bY Z Z Z Z<|bU 22 Z Z<|aQ Z<|gE Z<|aM ?_;exact cT (true) () h SF (aX.ix [0,2,3,4,5,6,7,8,9,10,11,12,13] Z Z) (aF.refl _ _)
     have h:=ifN ar h;refine gX Z .nil .nil (cV Z Z Z Z Z) aO.z<|gX Z (aX.cons 0 Z .nil) .nil (eB 0 Z Z Z Z Z) aO.z<|gX Z .nil .nil (wM Z Z) aO.z<|jL Z (Pu Z Z)<|bD Z ?_;refine Gj (by exact rfl) (by exact rfl) (by exact rfl) (λau=>?_) (λau=>?_)
     .have h:=SE au h;refine bY Z Z Z Z<|bY Z Z Z Z<|bY Z Z Z Z<|jL Z (La Z Z)<|bD Z<|bY Z Z Z Z<|bY Z Z Z Z<|bY Z Z Z Z<|bY Z Z Z Z<|bY Z Z Z Z<|bY Z Z Z Z<|bY Z Z Z Z<|bY Z Z Z Z<|bU 22 Z Z<|aQ Z<|gE Z<|aM ?_;exact cT (true) () h SF (aX.ix [0,2,3,4,5,6,7,8,9,10,11,12,13] Z Z) (aF.refl _ _)
     have h:=ifN au h;refine gX Z .nil .nil (cV Z Z Z Z Z) aO.z<|gX Z (aX.cons 0 Z .nil) .nil (eB 0 Z Z Z Z Z) aO.z<|gX Z .nil .nil (Ft Z Z) aO.z<|jL Z (Pu Z Z)<|bD Z ?_;refine Gj (by exact rfl) (by exact rfl) (by exact rfl) (λav=>?_) (λav=>?_)
     .have h:=SE av h;refine bY Z Z Z Z<|bY Z Z Z Z<|bY Z Z Z Z<|bY Z Z Z Z<|bY Z Z Z Z<|bY Z Z Z Z<|bY Z Z Z Z<|bY Z Z Z Z<|bU 22 Z Z<|aQ Z<|gE Z<|aM ?_;exact cT (true) () h SF (aX.ix [0,2,3,4,5,6,7,8,9,10,11,12,13] Z Z) (aF.refl _ _)
     have h:=ifN av h;refine gX Z .nil .nil (cV Z Z Z Z Z) aO.z<|gX Z (aX.cons 0 Z .nil) .nil (eB 0 Z Z Z Z Z) aO.z<|gX Z .nil .nil (iO Z) aO.z<|gX Z .nil .nil (bL Z) aO.z<|gX Z .nil .nil (cV Z Z Z Z Z) aO.z<|gX Z .nil .nil (cV Z Z Z Z Z) aO.z<|gX Z (aX.cons 2 Z .nil) .nil (eB 0 Z Z Z Z Z) aO.z<|gX Z .nil (nD 8 Z) (fN Z (dH Z) Z) aO.z<|bU 22 Z Z<|bA Z (CV Z Z) Z<|jD Z<|aM ?_;exact cT (decide ((t.2.length:Int)<=((at' m b.1).2.1))) () h SF (aX.ix [0,2,3,4,5,6,7,8,9,10,11,12,13] Z Z) (aF.refl _ _)
    intro ax bn h;refine Ca h Z (λ_ h=>?_) λ_ h=>?_
    .refine aP<|aC Z<|aM<|aT<|aJ ?_;exact jN ((2:Int),b.2.1,b.2.2.2,b.2.2.1) (d.1,d.2.2.1,d.2.2.2,d.2.1) h (.inl Z) (CO.r1 Z (RV.tmp Z)) Z (aX.ix [1,2,3,4,5,6,7,8,9,10,11,12] Z Z) (aF.refl _ _)
    refine cQ<|aK<|aP<|bT Z<|dO 0 Z<|bZ Z<|aM ?_;refine eI h Z (λh=>?_) λh=>?_
    .refine aP<|aA Z<|bT Z<|dO 0 Z<|vY (A:=bE) (B:=e_) (vs:=[vP a.1,vI ((at' m b.1).2.1)]) (λal=>BW b (bN (gH U u t P m n) af) al=some r) (λal ay=>Value.tuple #[]) (λal ay=>[bH a.1 [G,H,vI (P),vP a.2.1,a.2.2.1,a.2.2.2.1,a.2.2.2.2.1] 84,Ar bI.raw a.2.2.1 ay,bH a.2.1 [vS (u.1),D,E,vP a.2.2.2.2.2.2.1,a.2.2.2.2.2.2.2.1] 180,Ar bI.raw a.2.2.2.2.2.2.2.1 a.2.2.2.2.2.2.2.2.1,fE bO a.2.2.2.2.2.2.2.2.1 n.1,bH a.2.2.2.2.2.2.1 [vS (u.1),D,E,G,H,vI (n.2.1),a.2.2.2.2.2.2.2.2.2.1] 225,Ar bI.raw a.2.2.2.2.2.2.2.2.2.1 a.2.2.2.2.2.2.2.2.2.2.1,Ar bI.raw a.2.2.2.1 a.2.2.2.2.2.2.2.2.2.2.2.1,fE bI.raw a.2.2.2.2.2.2.2.2.2.2.2.1 d.2.1,Ar bI.raw a.2.2.2.2.1 a.2.2.2.2.2.2.2.2.2.2.2.2.2.1,AJ bI.raw a.2.2.2.2.2.2.2.2.2.2.2.2.2.1 d.2.2.1 d.2.2.2,bH b4 [eV,eV,eV] 42]) (λal ay=>[sW aL ay al,sW aL a.2.2.2.2.2.2.2.2.2.2.1 n.2.2.2.1,Dl aL d.2.1 b.2.2.1,Gm aL d.2.2.2 b.2.2.2,Sl aH D u.2.1,Sl aD E u.2.2,PF (Value.agg #[vS u.1,D,E]),Sl aL G t.1,S2 aY H z4 t.2,S2 aL v5 z6 L.1,S3 aL v7 z8 L.2.1,S4 aL v9 R L.2.2,Sl kK Q m]) (nY.fn (show aU prog 118 from call118) Z) func118 Z ntmps118 Z Z ?_ ?_
     .refine aP<|aA Z<|aA Z<|vY (A:=bE) (B:=Hp) (vs:=[vP a.1,vI ((at' m b.1).2.1)]) (λag=>EC U u t m n b (bN (gH U u t P m n) af) ag=some r) (λag aa=>aa.1) (λag aa=>[Ar bI.raw aa.1 aa.2,bH a.1 [G,H,vI (P),vP a.2.1,a.2.2.1,a.2.2.2.1,a.2.2.2.2.1] 84,Ar bI.raw a.2.2.1 d.1,bH a.2.1 [vS (u.1),D,E,vP a.2.2.2.2.2.2.1,a.2.2.2.2.2.2.2.1] 180,Ar bI.raw a.2.2.2.2.2.2.2.1 a.2.2.2.2.2.2.2.2.1,fE bO a.2.2.2.2.2.2.2.2.1 n.1,bH a.2.2.2.2.2.2.1 [vS (u.1),D,E,G,H,vI (n.2.1),a.2.2.2.2.2.2.2.2.2.1] 225,Ar bI.raw a.2.2.2.2.2.2.2.2.2.1 a.2.2.2.2.2.2.2.2.2.2.1,Ar bI.raw a.2.2.2.1 a.2.2.2.2.2.2.2.2.2.2.2.1,fE bI.raw a.2.2.2.2.2.2.2.2.2.2.2.1 d.2.1,Ar bI.raw a.2.2.2.2.1 a.2.2.2.2.2.2.2.2.2.2.2.2.2.1,AJ bI.raw a.2.2.2.2.2.2.2.2.2.2.2.2.2.1 d.2.2.1 d.2.2.2,bH b4 [eV,eV,eV] 42]) (λag aa=>[sW aL aa.2 ag,sW aL d.1 b.2.1,sW aL a.2.2.2.2.2.2.2.2.2.2.1 n.2.2.2.1,Dl aL d.2.1 b.2.2.1,Gm aL d.2.2.2 b.2.2.2,Sl aH D u.2.1,Sl aD E u.2.2,PF (Value.agg #[vS u.1,D,E]),Sl aL G t.1,S2 aY H z4 t.2,S2 aL v5 z6 L.1,S3 aL v7 z8 L.2.1,S4 aL v9 R L.2.2,Sl kK Q m]) (nY.fn (show aU prog 141 from call141) Z) func141 Z ntmps141 Z Z ?_ ?_
      .refine aP<|aC Z<|aM<|aP<|aA Z<|aB (bL Z) Z<|bT Z<|bT Z<|dO 1 Z<|dV h λc9 h=>bG (bM (dH Z)) λc2=>cF (dJ (dH Z)) ?_;refine aI (zBk Wt (EU U (p0:=d.1) a.2.2.1 d.1 (by simp[xS,ck];omega)) Z (aF.cons (rS (i:=2) Z) aF.nil)) Z λbh=>?_;refine aC Z<|aM<|aK<|lT (B:=e_) (λam=>zO U u t m n b (bN (gH U u t P m n) af) am=some r) (λam az=>[(5,bh)]) (λam az=>[Ar bI.raw bh az,bH a.1 [G,H,vI (P),vP a.2.1,a.2.2.1,a.2.2.2.1,a.2.2.2.2.1] 84,Ar bI.raw a.2.2.1 d.1,bH a.2.1 [vS (u.1),D,E,vP a.2.2.2.2.2.2.1,a.2.2.2.2.2.2.2.1] 180,Ar bI.raw a.2.2.2.2.2.2.2.1 a.2.2.2.2.2.2.2.2.1,fE bO a.2.2.2.2.2.2.2.2.1 n.1,bH a.2.2.2.2.2.2.1 [vS (u.1),D,E,G,H,vI (n.2.1),a.2.2.2.2.2.2.2.2.2.1] 225,Ar bI.raw a.2.2.2.2.2.2.2.2.2.1 a.2.2.2.2.2.2.2.2.2.2.1,Ar bI.raw a.2.2.2.1 a.2.2.2.2.2.2.2.2.2.2.2.1,fE bI.raw a.2.2.2.2.2.2.2.2.2.2.2.1 d.2.1,Ar bI.raw a.2.2.2.2.1 a.2.2.2.2.2.2.2.2.2.2.2.2.2.1,AJ bI.raw a.2.2.2.2.2.2.2.2.2.2.2.2.2.1 d.2.2.1 d.2.2.2,bH b4 [eV,eV,eV] 42]) (λam az=>[sW aL az am,sW aL d.1 b.2.1,sW aL a.2.2.2.2.2.2.2.2.2.2.1 n.2.2.2.1,Dl aL d.2.1 b.2.2.1,Gm aL d.2.2.2 b.2.2.2,Sl aH D u.2.1,Sl aD E u.2.2,PF (Value.agg #[vS u.1,D,E]),Sl aL G t.1,S2 aY H z4 t.2,S2 aL v5 z6 L.1,S3 aL v7 z8 L.2.1,S4 aL v9 R L.2.2,Sl kK Q m]) ?_ ?_
       .refine aP<|aA Z<|aB (bL Z) Z<|bT Z<|bT Z<|dO 2 Z<|aA Z<|dV h λai h=>aB (cA Z Z (Vk Z) Z Z ai) Z<|aB (cW Z (Vk Z) Z Z ai) Z<|aB (iN Z (zBm (Vk Z) ai.1 ai.2) Z) Z<|aA Z<|aM<|aS<|pN (B:=e_) (zR U u t m n b (bN (gH U u t P m n) af)) (λI an=>[(0,vP a.1),(1,vI ((at' m b.1).2.1)),(5,bh),(21,(at' z4 ((at' m b.1).2.1)).1),(22,vI ((at' t.2 ((at' m b.1).2.1)).length:Int)),(23,vI (I.1))]) (λI an=>[Ar bI.raw bh an,bH a.1 [G,H,vI (P),vP a.2.1,a.2.2.1,a.2.2.2.1,a.2.2.2.2.1] 84,Ar bI.raw a.2.2.1 d.1,bH a.2.1 [vS (u.1),D,E,vP a.2.2.2.2.2.2.1,a.2.2.2.2.2.2.2.1] 180,Ar bI.raw a.2.2.2.2.2.2.2.1 a.2.2.2.2.2.2.2.2.1,fE bO a.2.2.2.2.2.2.2.2.1 n.1,bH a.2.2.2.2.2.2.1 [vS (u.1),D,E,G,H,vI (n.2.1),a.2.2.2.2.2.2.2.2.2.1] 225,Ar bI.raw a.2.2.2.2.2.2.2.2.2.1 a.2.2.2.2.2.2.2.2.2.2.1,Ar bI.raw a.2.2.2.1 a.2.2.2.2.2.2.2.2.2.2.2.1,fE bI.raw a.2.2.2.2.2.2.2.2.2.2.2.1 d.2.1,Ar bI.raw a.2.2.2.2.1 a.2.2.2.2.2.2.2.2.2.2.2.2.2.1,AJ bI.raw a.2.2.2.2.2.2.2.2.2.2.2.2.2.1 d.2.2.1 d.2.2.2,bH b4 [eV,eV,eV] 42]) (λI an=>[sW aL an I.2,sW aL d.1 b.2.1,sW aL a.2.2.2.2.2.2.2.2.2.2.1 n.2.2.2.1,Dl aL d.2.1 b.2.2.1,Gm aL d.2.2.2 b.2.2.2,Sl aH D u.2.1,Sl aD E u.2.2,PF (Value.agg #[vS u.1,D,E]),Sl aL G t.1,S2 aY H z4 t.2,S2 aL v5 z6 L.1,S3 aL v7 z8 L.2.1,S4 aL v9 R L.2.2,Sl kK Q m]) ((0:Int),b.2.1) (tg 1 d.1) h SF (aX.ix [0,2,3,4,5,6,7,8,9,10,11,12,13] Z Z) (aF.refl _ _) ?_;intro da I an h;refine aP<|dD Z<|aM<|aK ?_;refine eI h Z (λh=>?_) λh=>?_
        .refine cQ<|aK<|aS<|aP<|aA Z<|dV h λcB h=>aB (bR Z Z (zBm (Vk Z) ai.1 ai.2) Z Z cB) Z<|aB (gT (cs:=[vI ((at' (at' t.2 ((at' m b.1).2.1)) I.1).1),vI ((at' (at' t.2 ((at' m b.1).2.1)) I.1).2)]) Z (zBm (Vk Z) ai.1 ai.2) bX Z Z Z Z cB) Z<|aI (aN.alloc (cs:=Uj) Z Z) Z λc8=>aC Z<|bQ 0 (vs:=[vI ((at' (at' t.2 ((at' m b.1).2.1)) I.1).1),vI ((at' (at' t.2 ((at' m b.1).2.1)) I.1).2)]) Z Z Z Z Z Z<|aM ?_;refine yP [0,0,2,0,8,24,56,120,0,504,1016,0,4088,8184,16383,32767] 14 mixedOrders ?_;refine bD Z<|cN Z<|gW 0 Z<|bD Z<|jL Z (bL Z)<|cN Z<|cN Z<|gW 2 Z<|bD Z<|dV h λM h=>bJ (lU (kW (i:=9) (q:=10) (j:=3) Z Z Z)) λcr=>jL Z (mI Z Z cr Z Z M)<|bJ (dQ 10 Z) λct=>bJ (bM (Dw Z)) λcu=>bK Z (aX.cons 9 Z .nil) .nil (jT 0 Z Z (ct.trans cu) Z Z M) aO.z<|bD Z<|dV h λae h=>bJ (lU (Jl (q:=10) (j:=3) Z Z M.1 (by first|exact M.2|simpa using M.2))) λbo=>?_;refine jL Z (mI Z Z bo Z Z ae)<|bJ (bM (Dw Z)) λbp=>?_;refine bJ (bM (cH (Dw Z) M.1 (by first|exact M.2|simpa using M.2))) λbq=>?_;refine bK Z (aX.cons 10 Z .nil) .nil (cK (f:=λx=>x) Z (Ki (q:=0) Z M.1 (by have y:=M.2;have C:=bp;(try simp only[zA2]at y C);(try simp only[zA2]);omega)) Z Z Z pQ ⟨ae.1,(by have y:=ae.2;have C:=bq;(try simp only[zA2]at y C);(try simp only[zA2]);omega)⟩) aO.z ?_;refine bU 14 Z Z<|dV h λbf h=>aB (cA Z Z (dN (i:=1) (j:=0) Z Z) Z Z bf) Z ?_;refine bG (Know.one ((cH (cH (Dw Z) M.1 (by first|exact M.2|simpa using M.2)) ae.1 (by first|exact ae.2|simpa using ae.2)))) λba=>?_;refine bG (bM (dH Z)) λbr=>?_;refine cF (dJ (pO (Int.toNat ((at' (at' t.2 ((at' m b.1).2.1)) I.1).1)) (dH Z) (cH (cH (Dw Z) M.1 (by first|exact M.2|simpa using M.2)) ae.1 (by first|exact ae.2|simpa using ae.2)))) ?_;refine CS (yH (us:=[at' (at' d.2.1 ((at' m b.1).2.1)) I.1]) (o:=0) (q:=1) 1 (at' (at' d.2.1 ((at' m b.1).2.1)) I.1) ⟨bf.1,(by have y:=bf.2;have C:=br;(try simp only[zA2]at y C);(try simp only[zA2]);omega)⟩ Z Z Z Z (by rw[show(at' (at' d.2.1 ((at' m b.1).2.1)) I.1).cells = #[at' (at' d.2.1 ((at' m b.1).2.1)) I.1]from f_ ba]) Z Z Z (eJ ba Z) Z) λc3=>?_;refine eW<|m_<|aR<|cU Z<|aA Z<|aM ?_;exact iH ((wI .i64 (I.1+(1:Int))),(List.set I.2 (Int.toNat ((at' (at' t.2 ((at' m b.1).2.1)) I.1).1)) (at' (at' b.2.2.1 ((at' m b.1).2.1)) I.1))) (List.set an (Int.toNat ((at' (at' t.2 ((at' m b.1).2.1)) I.1).1)) (at' (at' d.2.1 ((at' m b.1).2.1)) I.1)) h SF (aX.ix [1,2,3,4,5,6,7,8,9,10,11,12,13] Z Z) (jS [0,2,3,4,5,6,7,8,9,10,11,12,13,14] Z)
        refine fO ?_;exact j_ (I.2) (an) h SF Z
       intro am az h;unfold zO at h;refine aP<|aA Z<|aC Z<|aM<|aT ?_;exact jN (am) (bh,az) h (.inl Z) (CO.r1 Z (RV.tmp Z)) Z (aX.refl _) (aF.refl _ _)
      intro ag aa h;refine aC Z<|aM<|aP<|aA Z<|aB (bL Z) Z<|bT Z<|dO 1 Z<|aA Z<|aA Z<|fP h λcS c0 h=>aI (zBk Ld (pY U a.2.1 D E a.2.2.2.2.2.2.1 D E G H z4 a.2.2.2.2.2.2.2.2.2.1 ((List.zip a.2.2.2.2.2.2.2.2.2.2.1 n.2.2.2.1)) a.2.2.2.2.2.2.2.1 (List.zip a.2.2.2.2.2.2.2.2.1 n.1) aa.1 ((List.zip aa.2 ag)) cS c0) Z (aF.cons (aG.res 3 Z) (aF.cons (Jf Z) (aF.cons (JB Z) (aF.cons (aG.res 6 Z) (aF.cons (Jf Z) (aF.cons (JB Z) (aF.cons (WY Z) (aF.cons (Vk Z) (aF.cons (dN (i:=7) (j:=2) Z Z) (aF.cons (cC (i:=4) (j:=5) Z Z bX) (aF.cons (dN (i:=0) (j:=0) Z Z) .nil)))))))))))) Z λdb=>aC Z<|aM<|aP<|aA Z<|aB (CV Z Z) Z<|aM ?_;refine eI h Z (λh=>?_) λh=>?_
      .refine yP [0,1,3,7,15,0,0,64,192,448,0,0,0,8128,16383,32767] 14 mixedOrders ?_;refine bD Z<|jL Z (bL Z)<|cN Z<|cN Z<|gW 1 Z<|bD Z<|bD Z<|jL Z (bL Z)<|cN Z<|gW 1 Z<|bD Z<|bD Z<|bD Z<|fP h λcE c1 h=>zBl Z Z Z (zBk Wq (Bj U a.2.1 D E a.2.2.2.2.2.2.1 D E G H z4 a.2.2.2.2.2.2.2.2.2.1 ((List.zip a.2.2.2.2.2.2.2.2.2.2.1 n.2.2.2.1)) a.2.2.2.2.2.2.2.1 (List.zip a.2.2.2.2.2.2.2.2.1 n.1) aa.1 ((List.zip aa.2 ag)) cE c1) Z (aF.cons (aG.res 3 Z) (aF.cons (Jf Z) (aF.cons (JB Z) (aF.cons (aG.res 6 Z) (aF.cons (Jf Z) (aF.cons (JB Z) (aF.cons (WY Z) (aF.cons (Vk Z) (aF.cons (dN (i:=7) (j:=2) Z Z) (aF.cons (cC (i:=4) (j:=5) Z Z bX) (aF.cons (dN (i:=0) (j:=0) Z Z) .nil)))))))))))) Z (λaE=>(pB [([2],[])] Z)) λaE=>bU 14 Z Z<|dV h λcp h=>aB (cA Z Z (dN (i:=3) (j:=1) Z Z) Z Z cp) Z<|bG (Know.one ((bP (aG.res 0 Z) fG))) λbj=>cF (lD 0 Z (bP (aG.res 0 Z) fG))<|bG (bM (DU Z)) λcq=>cF (dJ (pO (Int.toNat ((at' m b.1).2.1)) (DU Z) (dH Z))) ?_;refine CS (yH (us:=[aE]) (o:=0) (q:=1) 2 aE ⟨cp.1,(by have y:=cp.2;have C:=cq;(try simp only[zA2]at y C);(try simp only[zA2]);omega)⟩ Z Z Z Z (by rw[show(aE).cells = #[aE]from f_ bj]) Z Z Z (eJ bj Z) Z) λdc=>?_;refine eW ?_;exact jN (List.set b.2.1 (Int.toNat ((at' m b.1).2.1)) cE) (List.set d.1 (Int.toNat ((at' m b.1).2.1)) aE) h (.inr Z) (CO.r0 Z) Z (aX.ix [1,2,3,4,5,6,7,8,9,10,11,12] Z Z) (jS [0,4,5,6,7,8,9,10,11,12,13,14,15] Z)
      refine eP ?_;exact jN (b.2.1) (d.1) h (.inr Z) (CO.r0 Z) Z (aX.ix [1,2,3,4,5,6,7,8,9,10,11,12] Z Z) (jS [1,2,3,4,5,6,7,8,9,10,11,12,13] Z)
     intro al ay h;unfold BW at h;refine aM<|aP<|aC Z<|aM<|aT<|aJ ?_;exact jN ((0:Int),al,b.2.2.2,b.2.2.1) (ay,d.2.2.1,d.2.2.2,d.2.1) h (.inl Z) (CO.r1 Z (RV.tmp Z)) Z (aX.refl _) (aF.refl _ _)
    refine cQ<|aK<|aK<|lT (B:=Unit) (λab=>zP U t P m b (bN (gH U u t P m n) af) ab=some r) (λab aV=>[(0,vP a.1),(3,vP bi),(55,vB (ab))]) (λab aV=>[bH bi [vI ((at' m b.1).1),vI ((at' m b.1).2.1),vI ((at' m b.1).2.2)] 80,bH a.1 [G,H,vI (P),vP a.2.1,a.2.2.1,a.2.2.2.1,a.2.2.2.2.1] 84,Ar bI.raw a.2.2.1 d.1,bH a.2.1 [vS (u.1),D,E,vP a.2.2.2.2.2.2.1,a.2.2.2.2.2.2.2.1] 180,Ar bI.raw a.2.2.2.2.2.2.2.1 a.2.2.2.2.2.2.2.2.1,fE bO a.2.2.2.2.2.2.2.2.1 n.1,bH a.2.2.2.2.2.2.1 [vS (u.1),D,E,G,H,vI (n.2.1),a.2.2.2.2.2.2.2.2.2.1] 225,Ar bI.raw a.2.2.2.2.2.2.2.2.2.1 a.2.2.2.2.2.2.2.2.2.2.1,Ar bI.raw a.2.2.2.1 a.2.2.2.2.2.2.2.2.2.2.2.1,fE bI.raw a.2.2.2.2.2.2.2.2.2.2.2.1 d.2.1,Ar bI.raw a.2.2.2.2.1 a.2.2.2.2.2.2.2.2.2.2.2.2.2.1,AJ bI.raw a.2.2.2.2.2.2.2.2.2.2.2.2.2.1 d.2.2.1 d.2.2.2,bH b4 [eV,eV,eV] 42]) (λab aV=>[sW aL d.1 b.2.1,sW aL a.2.2.2.2.2.2.2.2.2.2.1 n.2.2.2.1,Dl aL d.2.1 b.2.2.1,Gm aL d.2.2.2 b.2.2.2,Sl aH D u.2.1,Sl aD E u.2.2,PF (Value.agg #[vS u.1,D,E]),Sl aL G t.1,S2 aY H z4 t.2,S2 aL v5 z6 L.1,S3 aL v7 z8 L.2.1,S4 aL v9 R L.2.2,Sl kK Q m]) ?_ ?_
    .refine yP [0,1,3,7,15,31,15,79,207,463,975,15,2063,8143,16335,32719,65535,131071] 16 mixedOrders ?_;refine cN Z<|gW 0 Z<|jL Z (Ft Z Z)<|bD Z ?_;refine Gj (by exact rfl) (by exact rfl) (by exact rfl) (λaq=>?_) (λaq=>?_)
     .have h:=SE aq h;refine bY Z Z Z Z<|bY Z Z Z Z<|bY Z Z Z Z<|bY Z Z Z Z<|bY Z Z Z Z<|bY Z Z Z Z<|bY Z Z Z Z<|bY Z Z Z Z<|bY Z Z Z Z<|bY Z Z Z Z<|bY Z Z Z Z<|bY Z Z Z Z<|bU 16 Z Z<|aQ Z<|gE Z<|aM ?_;exact j_ (true) () h SF Z
     have h:=ifN aq h;refine gX Z .nil .nil (cV Z Z Z Z Z) aO.z<|gX Z (aX.cons 0 Z .nil) .nil (eB 0 Z Z Z Z Z) aO.z<|gX Z .nil .nil (iO Z) aO.z<|gX Z .nil .nil (bL Z) aO.z<|gX Z .nil .nil (cV Z Z Z Z Z) aO.z<|gX Z .nil .nil (cV Z Z Z Z Z) aO.z<|gX Z (aX.cons 1 Z .nil) .nil (eB 0 Z Z Z Z Z) aO.z<|gX Z .nil .nil (cV Z Z Z Z Z) aO.z<|gX Z (aX.cons 0 Z .nil) .nil (eB 0 Z Z Z Z Z) aO.z<|dV h λaw h=>gX Z .nil (nD 8 Z) (cA Z Z (dH Z) Z Z aw) aO.z<|gX Z .nil (nD 8 Z) (cW Z (dH Z) Z Z aw) aO.z<|gX Z .nil (nD 8 Z) (iN Z (zBm (dH Z) aw.1 aw.2) Z) aO.z<|bU 16 Z Z<|bA Z (CV Z Z) Z<|jD Z<|aM ?_;exact j_ (decide (((at' t.2 ((at' m b.1).2.1)).length:Int)<=((at' m b.1).2.2))) () h SF Z
    intro ab aV h;refine Ca h Z (λ_ h=>?_) λ_ h=>?_
    .refine aP<|aC Z<|aM<|aT<|aJ ?_;exact jN ((2:Int),b.2.1,b.2.2.2,b.2.2.1) (d.1,d.2.2.1,d.2.2.2,d.2.1) h (.inl Z) (CO.r1 Z (RV.tmp Z)) Z (aX.ix [1,2,3,4,5,6,7,8,9,10,11,12] Z Z) (aF.refl _ _)
    refine cQ<|aK<|aP<|bT Z<|dO 0 Z<|bZ Z<|aM ?_;refine eI h Z (λh=>?_) λh=>?_
    .refine aP<|aA Z<|bT Z<|dO 0 Z<|bT Z<|dO 0 Z<|vY (A:=Gf) (B:=List (List V0)×List (List (List V0))) (vs:=[vP a.1,vI ((at' m b.1).2.1),vI ((at' m b.1).2.2)]) (λV=>BX b (bN (gH U u t P m n) af) V=some r) (λV S=>Value.tuple #[]) (λV S=>[bH a.1 [G,H,vI (P),vP a.2.1,a.2.2.1,a.2.2.2.1,a.2.2.2.2.1] 84,Ar bI.raw a.2.2.1 d.1,bH a.2.1 [vS (u.1),D,E,vP a.2.2.2.2.2.2.1,a.2.2.2.2.2.2.2.1] 180,Ar bI.raw a.2.2.2.2.2.2.2.1 a.2.2.2.2.2.2.2.2.1,fE bO a.2.2.2.2.2.2.2.2.1 n.1,bH a.2.2.2.2.2.2.1 [vS (u.1),D,E,G,H,vI (n.2.1),a.2.2.2.2.2.2.2.2.2.1] 225,Ar bI.raw a.2.2.2.2.2.2.2.2.2.1 a.2.2.2.2.2.2.2.2.2.2.1,Ar bI.raw a.2.2.2.1 a.2.2.2.2.2.2.2.2.2.2.2.1,fE bI.raw a.2.2.2.2.2.2.2.2.2.2.2.1 d.2.1,Ar bI.raw a.2.2.2.2.1 a.2.2.2.2.2.2.2.2.2.2.2.2.2.1,AJ bI.raw a.2.2.2.2.2.2.2.2.2.2.2.2.2.1 S.1 S.2,bH b4 [eV,eV,eV] 42]) (λV S=>[Gm aL S.2 V,sW aL d.1 b.2.1,sW aL a.2.2.2.2.2.2.2.2.2.2.1 n.2.2.2.1,Dl aL d.2.1 b.2.2.1,Sl aH D u.2.1,Sl aD E u.2.2,PF (Value.agg #[vS u.1,D,E]),Sl aL G t.1,S2 aY H z4 t.2,S2 aL v5 z6 L.1,S3 aL v7 z8 L.2.1,S4 aL v9 R L.2.2,Sl kK Q m]) (nY.fn (show aU prog 119 from call119) Z) func119 Z ntmps119 Z Z ?_ ?_
     .refine aP<|aA Z<|aB (bL Z) Z<|bT Z<|bT Z<|dO 1 Z<|aA Z<|dV h λp h=>aB (cA Z Z (tY (i:=10) (q:=11) (j:=3) Z Z Z) Z Z p) Z<|bG (wK 11 Z) λbs=>bG (bM (Dw Z)) λbt=>aB (jT 10 Z Z (bs.trans bt) Z Z p) Z<|aA Z<|dV h λF h=>aB (cA Z Z (NT (q:=11) (j:=3) Z Z p.1 (by first|exact p.2|simpa using p.2)) Z Z F) Z ?_;refine aC Z<|aM<|aK ?_;refine yP [0,1,3,7,0,16,48,112,255] 8 mixedOrders ?_;refine bD Z<|jL Z (uC Z)<|bJ (bM (Dw Z)) λaW=>?_;refine bJ (tW (k:=((at' m b.1).2.1)) 11 Z ⟨p.1,(by have y:=p.2;have C:=aW;(try simp only[zA2]at y C);(try simp only[zA2]);omega)⟩) λbu=>?_;refine bJ (bM (cH (Dw Z) p.1 (by first|exact p.2|simpa using p.2))) λbw=>?_;refine bK Z (aX.cons 11 Z .nil) .nil (cK (f:=λx=>x) Z (A_ (q:=0) Z p.1 (by have y:=p.2;have C:=aW;(try simp only[zA2]at y C);(try simp only[zA2]);omega)) Z Z Z pQ ⟨F.1,(by have y:=F.2;have C:=bu;have q2:=bw;(try simp only[zA2]at y C q2);(try simp only[zA2]);omega)⟩) aO.z ?_;refine bK Z (aX.cons 11 Z .nil) (nD 3 Z) (fN Z (Jk (q:=0) (j:=0) Z Z ⟨p.1,by first|exact p.2|simpa using p.2⟩ ⟨F.1,by first|exact F.2|simpa using F.2⟩) Z) aO.z<|bD Z<|jL Z (bL Z)<|cN Z<|gW 1 Z<|bU 8 Z Z<|dD Z<|aM ?_;refine eI h Z (λh=>?_) λh=>?_
      .refine yP [0,0,2,6,0,16,48,112,240,0,1008,2032,4080,8176,16382,32767,65535] 15 mixedOrders ?_;refine bD Z<|bD Z<|jL Z (uC Z)<|bJ (bM (Dw Z)) λa0=>?_;refine bJ (tW (k:=((at' m b.1).2.1)) 11 Z ⟨p.1,(by have y:=p.2;have C:=a0;(try simp only[zA2]at y C);(try simp only[zA2]);omega)⟩) λbx=>?_;refine bJ (bM (cH (Dw Z) p.1 (by first|exact p.2|simpa using p.2))) λbz=>?_;refine bK Z (aX.cons 11 Z .nil) .nil (cK (f:=λx=>x) Z (A_ (q:=0) Z p.1 (by have y:=p.2;have C:=a0;(try simp only[zA2]at y C);(try simp only[zA2]);omega)) Z Z Z pQ ⟨F.1,(by have y:=F.2;have C:=bx;have q2:=bz;(try simp only[zA2]at y C q2);(try simp only[zA2]);omega)⟩) aO.z ?_;refine bD Z<|jL Z (bL Z)<|cN Z<|cN Z<|gW 1 Z<|bD Z<|dV h λah h=>bJ (lU (dN (i:=2) (j:=0) Z Z)) λbB=>jL Z (mI Z Z bB Z Z ah)<|bJ (bM (dH Z)) λbC=>bK Z (aX.cons 2 Z .nil) .nil (jT 0 Z Z bC Z Z ah) aO.z<|fP h λbm cL h=>zBl Z Z Z (zBk ad_ (Nm U (at' d.1 ((at' m b.1).2.1)) bm cL) Z (aF.cons (cH (dH Z) ah.1 (by first|exact ah.2|simpa using ah.2)) .nil)) Z (λaj=>(pB [([12],[])] Z)) λaj=>?_;refine bJ (Know.one ((bP (aG.res 0 Z) fG))) λbb=>zBn (lD 0 Z (bP (aG.res 0 Z) fG))<|zBn (dJ (kA (dH Z) fJ))<|zBl Z Z Z (b_ (e:=bI.raw) ([aj]) [(0,aj)] Z Z Z Z (gY (aj) bb) Z Z (eJ bb Z)) Z (λcG=>(pB [([12],[])] Z)) λcG=>bJ (wK 12 Z) λcP=>bJ (bM (Jf Z)) λa1=>?_;refine bJ (tW (k:=((at' m b.1).2.1)) 12 Z ⟨p.1,(by have y:=p.2;have C:=a1;(try simp only[zA2]at y C);(try simp only[zA2]);omega)⟩) λbF=>?_;refine zBn (Ie (k:=((at' m b.1).2.1)) 12 Z ⟨p.1,(by have y:=p.2;have C:=a1;(try simp only[zA2]at y C);(try simp only[zA2]);omega)⟩) ?_;refine bJ (bM (cH (Jf Z) p.1 (by first|exact p.2|simpa using p.2))) λbS=>?_;refine zBn (dJ (cH (cH (Jf Z) p.1 (by first|exact p.2|simpa using p.2)) F.1 (by first|exact F.2|simpa using F.2))) ?_;refine zBn (Fq (k:=((at' m b.1).2.2)) 1 Z ⟨F.1,(by have y:=F.2;have C:=bS;(try simp only[zA2]at y C);(try simp only[zA2]);omega)⟩) ?_;refine bJ (bM (dH Z)) λa2=>bJ (bM (yQ Z)) λa3=>dV h λbk h=>zBn (dJ (iW (dH Z) (yQ Z))) ?_;refine zBl Z Z Z (aN.append 0 3 Z Z Z Z Z Z Z (by have q:=bk;have y:=a2;have C:=a3;(try simp only[zA9,zAm,zA5]at *);omega) (by have q:=bk;have y:=a2;have C:=a3;(try simp only[zA9,zAm,zA5]at *);omega) Z) Z (λad=>(pB [] Z)) λad=>?_;refine bU 15 Z Z<|aB (uC Z) Z<|bG (AA (dN (i:=0) (j:=0) Z Z)) λbc=>bG (bM (GT Z)) λao=>?_;refine bG (bM (cH (GT Z) p.1 (by first|exact p.2|simpa using p.2))) λa4=>?_;refine cF (dJ (pO (Int.toNat ((at' m b.1).2.1)) (GT Z) (pO (Int.toNat ((at' m b.1).2.2)) (cH (GT Z) p.1 (by first|exact p.2|simpa using p.2)) (dH Z)))) ?_;refine cF (Fp (k:=((at' m b.1).2.2)) 2 0 Z Z Z ⟨F.1,(by have y:=F.2;have C:=ao;have q2:=a4;(try simp only[zA2]at y C q2);(try simp only[zA2]);omega)⟩) ?_;refine CS (yH (us:=[ad]) (o:=0) (q:=1) 0 ad ⟨F.1,(by have y:=F.2;have C:=ao;have q2:=a4;have q3:=bF;(try simp only[zA2]at y C q2 q3);(try simp only[zA2]);omega)⟩ Z Z Z Z (by rw[show(ad).cells = #[ad]from f_ bc]) Z Z Z (eJ bc Z) Z) λc4=>?_;refine cF (Kk (k:=((at' m b.1).2.1)) (vs:=a.2.2.2.2.2.2.2.2.2.2.2.2.2.1) (wss:=d.2.2.1) (xsss:=d.2.2.2) (i':=13) (j':=0) 14 0 1 Z Z Z Z Z Z Z ⟨p.1,(by have y:=p.2;have C:=ao;(try simp only[zA2]at y C);(try simp only[zA2]);omega)⟩) ?_;refine eW ?_;exact jN (List.set b.2.2.2 (Int.toNat ((at' m b.1).2.1)) (List.set (at' b.2.2.2 ((at' m b.1).2.1)) (Int.toNat ((at' m b.1).2.2)) ((at' (at' b.2.2.2 ((at' m b.1).2.1)) ((at' m b.1).2.2))++[bm]))) ((List.set d.2.2.1 (Int.toNat ((at' m b.1).2.1)) (List.set (at' d.2.2.1 ((at' m b.1).2.1)) (Int.toNat ((at' m b.1).2.2)) ad)),(List.set d.2.2.2 (Int.toNat ((at' m b.1).2.1)) (List.set (at' d.2.2.2 ((at' m b.1).2.1)) (Int.toNat ((at' m b.1).2.2)) ((at' (at' d.2.2.2 ((at' m b.1).2.1)) ((at' m b.1).2.2))++[aj])))) h (.inr Z) (CO.r0 Z) Z (aX.ix [2,3,4,5,6,7,8,9,10,11,12,13] Z Z) (jS [0,5,6,7,9,10,11,12,13,14,15,16,17] Z)
      refine eP ?_;exact jN (b.2.2.2) (d.2.2.1,d.2.2.2) h (.inr Z) (CO.r0 Z) Z (aX.ix [1,2,3,4,5,6,7,8,9,10,11,12] Z Z) (jS [3,0,1,2,4,5,6,7,8,9,10,11,12] Z)
     intro V S h;unfold BX at h;refine aM<|aP<|aC Z<|aM<|aT<|aJ ?_;exact jN ((0:Int),b.2.1,V,b.2.2.1) (d.1,S.1,S.2,d.2.1) h (.inl Z) (CO.r1 Z (RV.tmp Z)) Z (aX.refl _) (jS [1,2,3,0,4,5,6,7,8,9,10,11,12] Z)
    refine cQ<|aK ?_;refine yP [0,1,3,7,15,0,32,127,255,0,512,2047,4095,8191,16383] 11 mixedOrders ?_;refine bD Z<|jL Z (bL Z)<|cN Z<|cN Z<|gW 1 Z<|cN Z<|gW 0 Z<|dV h λac h=>bK Z .nil (nD 8 Z) (cA Z Z (dH Z) Z Z ac) aO.z<|bK Z .nil (nD 8 Z) (cW Z (dH Z) Z Z ac) aO.z<|cN Z<|gW 0 Z<|bU 11 Z Z<|dV h λbl h=>aB (bR Z Z (zBm (WY Z) ac.1 ac.2) Z Z bl) Z<|aB (nT Z Z Z Z Z) Z<|aB (qI Z (zBm (WY Z) ac.1 ac.2) Z Z Z Aq bl) Z<|aC Z<|aM<|aK ?_;refine yP [0,1,3,7,15,0,63,127,0,256,768,1792,0,0,8192,32512,65535,131071] 16 mixedOrders ?_;refine bD Z<|jL Z (bL Z)<|cN Z<|cN Z<|gW 1 Z<|bD Z<|dV h λg h=>bJ (lU (tY (i:=10) (q:=11) (j:=3) Z Z Z)) λbV=>jL Z (mI Z Z bV Z Z g)<|bJ (wK 11 Z) λb0=>bJ (bM (Dw Z)) λb5=>bK Z (aX.cons 10 Z .nil) .nil (jT 0 Z Z (b0.trans b5) Z Z g) aO.z<|bD Z<|jL Z (bL Z)<|cN Z<|bK Z (aX.cons 1 Z .nil) .nil (LS 0 (us:=[G,H]) Z Z Z Z Z Z) aO.z<|bD Z<|cN Z<|gW 0 Z<|fP h λv cM h=>zBl Z Z Z (zBk PG (CF U G H z4 v cM) Z (jS [7,8] Z)) Z (λcO=>(pB [([10],[]),([1],[])] Z)) λcO=>bU 16 Z Z<|dV h λs h=>aB (cA Z Z (NT (q:=11) (j:=3) Z Z g.1 (by first|exact g.2|simpa using g.2)) Z Z s) Z ?_;refine aC Z<|aM<|aK<|aP<|aA Z<|aB (uC Z) Z<|bG (bM (Dw Z)) λa5=>?_;refine bG (tW (k:=((at' (at' t.2 ((at' m b.1).2.1)) ((at' m b.1).2.2)).1)) 11 Z ⟨g.1,(by have y:=g.2;have C:=a5;(try simp only[zA2]at y C);(try simp only[zA2]);omega)⟩) λb6=>?_;refine bG (bM (cH (Dw Z) g.1 (by first|exact g.2|simpa using g.2))) λb7=>?_;refine aB (cK (f:=λx=>x) Z (A_ (q:=11) Z g.1 (by have y:=g.2;have C:=a5;(try simp only[zA2]at y C);(try simp only[zA2]);omega)) Z Z Z pQ ⟨s.1,(by have y:=s.2;have C:=b6;have q2:=b7;(try simp only[zA2]at y C q2);(try simp only[zA2]);omega)⟩) Z ?_;refine aB (fN Z (Jk (q:=11) (j:=3) Z Z ⟨g.1,by first|exact g.2|simpa using g.2⟩ ⟨s.1,by first|exact s.2|simpa using s.2⟩) Z) Z<|bZ Z<|aM ?_;refine eI h Z (λh=>?_) λh=>?_
    .refine aP<|aC Z<|aM<|aT<|aJ ?_;exact jN ((0:Int),b.2.1,b.2.2.2,b.2.2.1) (d.1,d.2.2.1,d.2.2.2,d.2.1) h (.inl Z) (CO.r1 Z (RV.tmp Z)) Z (aX.ix [1,2,3,4,5,6,7,8,9,10,11,12] Z Z) (aF.refl _ _)
    refine cQ<|aK<|lT (B:=EW) (λW=>zQ t m b (bN (gH U u t P m n) af) v W=some r) (λW Y=>[(6,Er (at' a.2.2.2.2.2.2.2.2.2.2.2.2.2.1 ((at' (at' t.2 ((at' m b.1).2.1)) ((at' m b.1).2.2)).1)) (Int.toNat (v)*1))]) (λW Y=>[bH a.1 [G,H,vI (P),vP a.2.1,a.2.2.1,a.2.2.2.1,a.2.2.2.2.1] 84,Ar bI.raw a.2.2.1 d.1,bH a.2.1 [vS (u.1),D,E,vP a.2.2.2.2.2.2.1,a.2.2.2.2.2.2.2.1] 180,Ar bI.raw a.2.2.2.2.2.2.2.1 a.2.2.2.2.2.2.2.2.1,fE bO a.2.2.2.2.2.2.2.2.1 n.1,bH a.2.2.2.2.2.2.1 [vS (u.1),D,E,G,H,vI (n.2.1),a.2.2.2.2.2.2.2.2.2.1] 225,Ar bI.raw a.2.2.2.2.2.2.2.2.2.1 a.2.2.2.2.2.2.2.2.2.2.1,Ar bI.raw a.2.2.2.1 a.2.2.2.2.2.2.2.2.2.2.2.1,fE bI.raw a.2.2.2.2.2.2.2.2.2.2.2.1 Y,Ar bI.raw a.2.2.2.2.1 a.2.2.2.2.2.2.2.2.2.2.2.2.2.1,AJ bI.raw a.2.2.2.2.2.2.2.2.2.2.2.2.2.1 d.2.2.1 d.2.2.2,bH b4 [eV,eV,eV] 42]) (λW Y=>[Dl aL Y W,sW aL d.1 b.2.1,sW aL a.2.2.2.2.2.2.2.2.2.2.1 n.2.2.2.1,Gm aL d.2.2.2 b.2.2.2,Sl aH D u.2.1,Sl aD E u.2.2,PF (Value.agg #[vS u.1,D,E]),Sl aL G t.1,S2 aY H z4 t.2,S2 aL v5 z6 L.1,S3 aL v7 z8 L.2.1,S4 aL v9 R L.2.2,Sl kK Q m]) ?_ ?_
    .refine aP<|bT Z<|dO 0 Z<|bZ Z<|aM ?_;refine eI h Z (λh=>?_) λh=>?_
     .refine yP [0,1,3,7,15,0,32,127,255,0,512,0,2048,6144,14336,30720,65535,131071] 16 mixedOrders ?_;refine bD Z<|jL Z (bL Z)<|cN Z<|cN Z<|gW 1 Z<|cN Z<|gW 0 Z<|dV h λJ h=>bJ (lU (kW (i:=8) (q:=9) (j:=2) Z Z Z)) λcd=>jL Z (mI Z Z cd Z Z J)<|bJ (dQ 9 Z) λce=>bJ (bM (DU Z)) λcf=>bK Z (aX.cons 8 Z .nil) .nil (jT 0 Z Z (ce.trans cf) Z Z J) aO.z<|cN Z<|gW 0 Z<|bD Z<|jL Z (uC Z)<|bJ (bM (Dw Z)) λa9=>?_;refine bJ (tW (k:=((at' (at' t.2 ((at' m b.1).2.1)) ((at' m b.1).2.2)).1)) 11 Z ⟨g.1,(by have y:=g.2;have C:=a9;(try simp only[zA2]at y C);(try simp only[zA2]);omega)⟩) λcg=>?_;refine bJ (bM (cH (Dw Z) g.1 (by first|exact g.2|simpa using g.2))) λch=>?_;refine bK Z (aX.cons 11 Z .nil) .nil (cK (f:=λx=>x) Z (A_ (q:=0) Z g.1 (by have y:=g.2;have C:=a9;(try simp only[zA2]at y C);(try simp only[zA2]);omega)) Z Z Z pQ ⟨s.1,(by have y:=s.2;have C:=cg;have q2:=ch;(try simp only[zA2]at y C q2);(try simp only[zA2]);omega)⟩) aO.z<|dV h λO h=>bJ (lU (Jk (q:=11) (j:=3) Z Z ⟨g.1,by first|exact g.2|simpa using g.2⟩ ⟨s.1,by first|exact s.2|simpa using s.2⟩)) λci=>jL Z (mI Z Z ci Z Z O)<|bJ (bM (Dw Z)) λcj=>?_;refine bJ (bM (cH (Dw Z) g.1 (by first|exact g.2|simpa using g.2))) λcl=>?_;refine bJ (bM (cH (cH (Dw Z) g.1 (by first|exact g.2|simpa using g.2)) s.1 (by first|exact s.2|simpa using s.2))) λcm=>?_;refine bK Z (aX.cons 11 Z .nil) .nil (cK (f:=λx=>x) Z (Rs (q:=0) Z ⟨g.1,(by have y:=g.2;have C:=cj;(try simp only[zA2]at y C);(try simp only[zA2]);omega)⟩ ⟨s.1,(by have y:=s.2;have C:=cl;(try simp only[zA2]at y C);(try simp only[zA2]);omega)⟩) Z Z Z pQ ⟨O.1,(by have y:=O.2;have C:=cm;(try simp only[zA2]at y C);(try simp only[zA2]);omega)⟩) aO.z ?_;refine bU 16 Z Z<|dV h λbg h=>aB (cA Z Z (Jl (q:=9) (j:=2) Z Z J.1 (by first|exact J.2|simpa using J.2)) Z Z bg) Z ?_;refine bG (Know.one ((cH (cH (cH (Dw Z) g.1 (by first|exact g.2|simpa using g.2)) s.1 (by first|exact s.2|simpa using s.2)) O.1 (by first|exact O.2|simpa using O.2)))) λbe=>?_;refine bG (bM (DU Z)) λcn=>?_;refine bG (bM (cH (DU Z) J.1 (by first|exact J.2|simpa using J.2))) λco=>?_;refine cF (dJ (pO (Int.toNat ((at' m b.1).2.1)) (DU Z) (pO (Int.toNat ((at' m b.1).2.2)) (cH (DU Z) J.1 (by first|exact J.2|simpa using J.2)) (cH (cH (cH (Dw Z) g.1 (by first|exact g.2|simpa using g.2)) s.1 (by first|exact s.2|simpa using s.2)) O.1 (by first|exact O.2|simpa using O.2))))) ?_;refine CS (Cf (us:=[at' (at' (at' d.2.2.2 ((at' (at' t.2 ((at' m b.1).2.1)) ((at' m b.1).2.2)).1)) v) (0:Int)]) (o:=0) (q:=1) (k:=((at' m b.1).2.1)) 9 (at' (at' (at' d.2.2.2 ((at' (at' t.2 ((at' m b.1).2.1)) ((at' m b.1).2.2)).1)) v) (0:Int)) ⟨J.1,(by have y:=J.2;have C:=cn;(try simp only[zA2]at y C);(try simp only[zA2]);omega)⟩ ⟨bg.1,(by have y:=bg.2;have C:=co;(try simp only[zA2]at y C);(try simp only[zA2]);omega)⟩ Z Z Z Z (by rw[f_ be]) Z Z Z (eJ be Z) Z) λc6=>?_;refine aM ?_;exact cT (List.set b.2.2.1 (Int.toNat ((at' m b.1).2.1)) (List.set (at' b.2.2.1 ((at' m b.1).2.1)) (Int.toNat ((at' m b.1).2.2)) (at' (at' (at' b.2.2.2 ((at' (at' t.2 ((at' m b.1).2.1)) ((at' m b.1).2.2)).1)) v) (0:Int)))) (List.set d.2.1 (Int.toNat ((at' m b.1).2.1)) (List.set (at' d.2.1 ((at' m b.1).2.1)) (Int.toNat ((at' m b.1).2.2)) (at' (at' (at' d.2.2.2 ((at' (at' t.2 ((at' m b.1).2.1)) ((at' m b.1).2.2)).1)) v) (0:Int)))) h SF (aX.ix [1,2,3,4,5,6,7,8,9,10,11,12] Z Z) (jS [0,1,2,4,5,6,7,8,9,10,11,12,13] Z)
     refine cQ ?_;exact cT (b.2.2.1) (d.2.1) h SF (aX.ix [1,2,3,4,5,6,7,8,9,10,11,12] Z Z) (jS [2,0,1,3,4,5,6,7,8,9,10,11,12] Z)
    intro W Y h;refine aP<|aA Z<|aA Z<|aB (uC Z) Z<|bG (bM (Dw Z)) λa6=>?_;refine bG (tW (k:=((at' (at' t.2 ((at' m b.1).2.1)) ((at' m b.1).2.2)).1)) 10 Z ⟨g.1,(by have y:=g.2;have C:=a6;(try simp only[zA2]at y C);(try simp only[zA2]);omega)⟩) λb8=>?_;refine bG (bM (cH (Dw Z) g.1 (by first|exact g.2|simpa using g.2))) λb9=>?_;refine aB (cK (f:=λx=>x) Z (A_ (q:=10) Z g.1 (by have y:=g.2;have C:=a6;(try simp only[zA2]at y C);(try simp only[zA2]);omega)) Z Z Z pQ ⟨s.1,(by have y:=s.2;have C:=b8;have q2:=b9;(try simp only[zA2]at y C q2);(try simp only[zA2]);omega)⟩) Z ?_;refine bG (wK 10 Z) λcR=>bG (bM (Dw Z)) λa7=>?_;refine bG (tW (k:=((at' (at' t.2 ((at' m b.1).2.1)) ((at' m b.1).2.2)).1)) 10 Z ⟨g.1,(by have y:=g.2;have C:=a7;(try simp only[zA2]at y C);(try simp only[zA2]);omega)⟩) λca=>?_;refine cF (Ie (k:=((at' (at' t.2 ((at' m b.1).2.1)) ((at' m b.1).2.2)).1)) 10 Z ⟨g.1,(by have y:=g.2;have C:=a7;(try simp only[zA2]at y C);(try simp only[zA2]);omega)⟩) ?_;refine bG (bM (cH (Dw Z) g.1 (by first|exact g.2|simpa using g.2))) λcb=>?_;refine cF (dJ (cH (cH (Dw Z) g.1 (by first|exact g.2|simpa using g.2)) s.1 (by first|exact s.2|simpa using s.2))) ?_;refine cF (Fq (k:=v) 1 Z ⟨s.1,(by have y:=s.2;have C:=cb;(try simp only[zA2]at y C);(try simp only[zA2]);omega)⟩)<|dV h λcy h=>bG (bM (dH Z)) λcc=>cF (dJ (iW (Pq (Int.toNat (0:Int)) (dH Z)) (Pp (Int.toNat (1:Int)) (dH Z)))) ?_;refine aI (Eg (Min:=[Ar bI.raw (at' (at' d.2.2.1 ((at' (at' t.2 ((at' m b.1).2.1)) ((at' m b.1).2.2)).1)) v) (at' (at' d.2.2.2 ((at' (at' t.2 ((at' m b.1).2.1)) ((at' m b.1).2.2)).1)) v)]) (Mr:=[Ar bI.raw (at' a.2.2.2.2.2.2.2.2.2.2.2.2.2.1 ((at' (at' t.2 ((at' m b.1).2.1)) ((at' m b.1).2.2)).1)) (at' d.2.2.1 ((at' (at' t.2 ((at' m b.1).2.1)) ((at' m b.1).2.2)).1)),fE bI.raw (List.set (at' d.2.2.1 ((at' (at' t.2 ((at' m b.1).2.1)) ((at' m b.1).2.2)).1)) (Int.toNat v) (eV)) (List.set (at' d.2.2.2 ((at' (at' t.2 ((at' m b.1).2.1)) ((at' m b.1).2.2)).1)) (Int.toNat v) []),bH a.1 [G,H,vI (P),vP a.2.1,a.2.2.1,a.2.2.2.1,a.2.2.2.2.1] 84,Ar bI.raw a.2.2.1 d.1,bH a.2.1 [vS (u.1),D,E,vP a.2.2.2.2.2.2.1,a.2.2.2.2.2.2.2.1] 180,Ar bI.raw a.2.2.2.2.2.2.2.1 a.2.2.2.2.2.2.2.2.1,fE bO a.2.2.2.2.2.2.2.2.1 n.1,bH a.2.2.2.2.2.2.1 [vS (u.1),D,E,G,H,vI (n.2.1),a.2.2.2.2.2.2.2.2.2.1] 225,Ar bI.raw a.2.2.2.2.2.2.2.2.2.1 a.2.2.2.2.2.2.2.2.2.2.1,Ar bI.raw a.2.2.2.1 a.2.2.2.2.2.2.2.2.2.2.2.1,fE bI.raw a.2.2.2.2.2.2.2.2.2.2.2.1 Y,Ar bI.raw a.2.2.2.2.1 a.2.2.2.2.2.2.2.2.2.2.2.2.2.1,AJ bI.raw (List.set a.2.2.2.2.2.2.2.2.2.2.2.2.2.1 (Int.toNat ((at' (at' t.2 ((at' m b.1).2.1)) ((at' m b.1).2.2)).1)) (eV)) (List.set d.2.2.1 (Int.toNat ((at' (at' t.2 ((at' m b.1).2.1)) ((at' m b.1).2.2)).1)) []) (List.set d.2.2.2 (Int.toNat ((at' (at' t.2 ((at' m b.1).2.1)) ((at' m b.1).2.2)).1)) []),bH b4 [eV,eV,eV] 42]) adQ (J_ U (at' (at' d.2.2.1 ((at' (at' t.2 ((at' m b.1).2.1)) ((at' m b.1).2.2)).1)) v) (p0:=at' (at' d.2.2.2 ((at' (at' t.2 ((at' m b.1).2.1)) ((at' m b.1).2.2)).1)) v) (p1:=(0:Int)) (p2:=(1:Int)) (List.take (Int.toNat (0:Int)) (at' (at' d.2.2.2 ((at' (at' t.2 ((at' m b.1).2.1)) ((at' m b.1).2.2)).1)) v)++List.drop (Int.toNat (1:Int)) (at' (at' d.2.2.2 ((at' (at' t.2 ((at' m b.1).2.1)) ((at' m b.1).2.2)).1)) v)) (by have y:=cy;have C:=cc;unfold DV ck;rw[if_pos (by omega),if_neg (by omega),if_pos (by omega),if_pos (by omega),if_pos (by omega)])) Z (aX.refl _) aF.nil (λ_ _=>rfl)) Z λak=>?_;refine aB (uC Z) Z<|bG (AA (dN (i:=0) (j:=0) Z Z)) λbd=>bG (bM (Jf Z)) λap=>?_;refine bG (bM (cH (Jf Z) g.1 (by first|exact g.2|simpa using g.2))) λa8=>?_;refine cF (dJ (pO (Int.toNat ((at' (at' t.2 ((at' m b.1).2.1)) ((at' m b.1).2.2)).1)) (Jf Z) (pO (Int.toNat v) (cH (Jf Z) g.1 (by first|exact g.2|simpa using g.2)) (dH Z)))) ?_;refine cF (Fp (k:=v) 2 0 Z Z Z ⟨s.1,(by have y:=s.2;have C:=ap;have q2:=a8;(try simp only[zA2]at y C q2);(try simp only[zA2]);omega)⟩) ?_;refine CS (yH (us:=[ak]) (o:=0) (q:=1) 0 ak ⟨s.1,(by have y:=s.2;have C:=ap;have q2:=a8;have q3:=ca;(try simp only[zA2]at y C q2 q3);(try simp only[zA2]);omega)⟩ Z Z Z Z (by rw[show(ak).cells = #[ak]from f_ bd]) Z Z Z (eJ bd Z) Z) λc5=>?_;refine cF (Kk (k:=((at' (at' t.2 ((at' m b.1).2.1)) ((at' m b.1).2.2)).1)) (vs:=a.2.2.2.2.2.2.2.2.2.2.2.2.2.1) (wss:=d.2.2.1) (xsss:=d.2.2.2) (i':=11) (j':=0) 12 0 1 Z Z Z Z Z Z Z ⟨g.1,(by have y:=g.2;have C:=ap;(try simp only[zA2]at y C);(try simp only[zA2]);omega)⟩) ?_;refine aM<|aP<|aC Z<|aM<|aT ?_;exact jN ((0:Int),b.2.1,(List.set b.2.2.2 (Int.toNat ((at' (at' t.2 ((at' m b.1).2.1)) ((at' m b.1).2.2)).1)) (List.set (at' b.2.2.2 ((at' (at' t.2 ((at' m b.1).2.1)) ((at' m b.1).2.2)).1)) (Int.toNat v) (List.take (Int.toNat (0:Int)) (at' (at' b.2.2.2 ((at' (at' t.2 ((at' m b.1).2.1)) ((at' m b.1).2.2)).1)) v)++List.drop (Int.toNat (1:Int)) (at' (at' b.2.2.2 ((at' (at' t.2 ((at' m b.1).2.1)) ((at' m b.1).2.2)).1)) v)))),W) (d.1,(List.set d.2.2.1 (Int.toNat ((at' (at' t.2 ((at' m b.1).2.1)) ((at' m b.1).2.2)).1)) (List.set (at' d.2.2.1 ((at' (at' t.2 ((at' m b.1).2.1)) ((at' m b.1).2.2)).1)) (Int.toNat v) ak)),(List.set d.2.2.2 (Int.toNat ((at' (at' t.2 ((at' m b.1).2.1)) ((at' m b.1).2.2)).1)) (List.set (at' d.2.2.2 ((at' (at' t.2 ((at' m b.1).2.1)) ((at' m b.1).2.2)).1)) (Int.toNat v) (List.take (Int.toNat (0:Int)) (at' (at' d.2.2.2 ((at' (at' t.2 ((at' m b.1).2.1)) ((at' m b.1).2.2)).1)) v)++List.drop (Int.toNat (1:Int)) (at' (at' d.2.2.2 ((at' (at' t.2 ((at' m b.1).2.1)) ((at' m b.1).2.2)).1)) v)))),Y) h (.inl Z) (CO.r1 Z (RV.tmp Z)) Z (aX.refl _) (jS [4,5,3,0,7,8,9,10,11,12,13,14,15] Z)
   intro T N h;refine aC Z<|aM<|aP<|aA Z<|oZ Z<|aM ?_;refine eI h Z (λh=>?_) λh=>?_
   .refine aP ?_;refine aB (Dm (r:=Value.agg #[eV,eV,eV]) (by intro w;simp[Instr.build,Instr.fill,cY,cI,cD,cZ,c_,cJ,dU])) Z ?_;refine aA Z<|bQ 11 (vs:=[eV,eV,eV]) Z Z Z Z Z Z<|aC Z<|aM<|aT<|bW<|aJ<|aJ<|bW<|aJ ?_;cases h;exact kU ((eV),([]),(eV),([]),(eV),([])) Z Z (RV.cell 11 Z Z Z Z) (RV.tmp Z) .nil (aF.cons rU (aF.cons rU (aF.cons rU aF.nil)))
   refine eP<|m_<|aR<|cU Z<|aA Z<|aM ?_;exact BD ((wI .i64 (b.1+(1:Int))),T.2.1,T.2.2.2,T.2.2.1) (N.1,N.2.2.2,N.2.1,N.2.2.1) h SF Z
  refine fO ?_;exact j_ (b.2.1,b.2.2.1,b.2.2.2) (d.1,d.2.1,d.2.2.1,d.2.2.2) h SF Z
 intro X K h;unfold BV at h;refine aP<|aA Z<|aB (bL Z) Z<|bT Z<|aB (LS 0 (us:=[a.2.2.1,a.2.2.2.1,a.2.2.2.2.1]) Z Z Z Z Z Z) Z<|bG (AA (dN (i:=1) (j:=0) Z Z)) λcv=>bG (AA (kW (i:=7) (q:=8) (j:=2) Z Z Z)) λcw=>bG (AA (tY (i:=9) (q:=10) (j:=3) Z Z Z)) λcx=>bQ 11 (vs:=[a.2.2.1,a.2.2.2.1,a.2.2.2.2.1]) Z Z (eJ cv (eJ cw (eJ cx Z))) Z Z Z<|aC Z<|aM<|aT<|cF (lD 1 Z (dN (i:=0) (j:=0) Z Z))<|cF (BZ [Ar bI.raw a.2.2.2.1 a.2.2.2.2.2.2.2.2.2.2.2.1,fE bI.raw a.2.2.2.2.2.2.2.2.2.2.2.1 K.2.1] [bH a.1 [G,H,vI (P),vP a.2.1,a.2.2.1,a.2.2.2.1,a.2.2.2.2.1] 84,bH a.2.1 [vS (u.1),D,E,vP a.2.2.2.2.2.2.1,a.2.2.2.2.2.2.2.1] 180,Ar bI.raw a.2.2.2.2.2.2.2.1 a.2.2.2.2.2.2.2.2.1,fE bO a.2.2.2.2.2.2.2.2.1 n.1,bH a.2.2.2.2.2.2.1 [vS (u.1),D,E,G,H,vI (n.2.1),a.2.2.2.2.2.2.2.2.2.1] 225,Ar bI.raw a.2.2.2.2.2.2.2.2.2.1 a.2.2.2.2.2.2.2.2.2.2.1,Ar bI.raw a.2.2.2.2.1 a.2.2.2.2.2.2.2.2.2.2.2.2.2.1,AJ bI.raw a.2.2.2.2.2.2.2.2.2.2.2.2.2.1 K.2.2.1 K.2.2.2,bH b4 [a.2.2.1,a.2.2.2.1,a.2.2.2.2.1] 42] (aX.ix [6,7,0,1,2,3,4,5,8,9,10] Z Z) (kW (i:=0) (q:=1) (j:=3) Z Z Z))<|cF (BZ [Ar bI.raw a.2.2.2.2.1 a.2.2.2.2.2.2.2.2.2.2.2.2.2.1,AJ bI.raw a.2.2.2.2.2.2.2.2.2.2.2.2.2.1 K.2.2.1 K.2.2.2] [bH a.1 [G,H,vI (P),vP a.2.1,a.2.2.1,a.2.2.2.1,a.2.2.2.2.1] 84,bH a.2.1 [vS (u.1),D,E,vP a.2.2.2.2.2.2.1,a.2.2.2.2.2.2.2.1] 180,Ar bI.raw a.2.2.2.2.2.2.2.1 a.2.2.2.2.2.2.2.2.1,fE bO a.2.2.2.2.2.2.2.2.1 n.1,bH a.2.2.2.2.2.2.1 [vS (u.1),D,E,G,H,vI (n.2.1),a.2.2.2.2.2.2.2.2.2.1] 225,Ar bI.raw a.2.2.2.2.2.2.2.2.2.1 a.2.2.2.2.2.2.2.2.2.2.1,bH b4 [a.2.2.1,a.2.2.2.1,a.2.2.2.2.1] 42] (aX.ix [6,7,0,1,2,3,4,5,8] Z Z) (tY (i:=0) (q:=1) (j:=5) Z Z Z)) ?_;cases h;exact kU (a.2.2.1,(List.zip K.1 X.1),a.2.2.2.1,(Z3 a.2.2.2.2.2.2.2.2.2.2.2.1 K.2.1 X.2.1),a.2.2.2.2.1,(Z4 a.2.2.2.2.2.2.2.2.2.2.2.2.2.1 K.2.2.1 K.2.2.2 X.2.2)) Z Z (RV.cell 6 Z Z Z Z) (RV.tmp Z) .nil (jS [2,1,0] Z)
def xU (a:Unit):V1 V4:=
 some (true)
def xV (c d:aW) (a:Int) (b:(Int)->V1 V4):V1 V4:=
 if a<(c.length:Int)then(ck (0<=a/\a<(c.length:Int)) (ck (0<=a/\a<(d.length:Int)) (if(at' c a)≠(at' d a)then(some (false))else(b (wI .i64 (a+(1:Int)))))))else(xU (()))
def uJ (a b:aW):V1 V4:=
 if(a.length:Int)≠(b.length:Int)then(some (false))else(bN (xV a b) U (0:Int))
theorem aak:aU prog 79:=call79
theorem FW (U:Nat) {p0 f:aW} (g i:V0) (r:Bool) (h:uJ U p0 f=some r):
  a_ prog 79 #[g,i] [Sl aL g p0,Sl aL i f] (λx:Unit=>vB (r)) (λx l=>l) (λ_ l=>l):=by
 refine a_.of func79 Z ntmps79 Z λc=>?_;refine aP<|aC Z<|aM<|aK<|aP<|aA Z<|kG (dH Z) Z<|aA Z<|kG (yQ Z) Z<|oZ Z<|aM ?_;refine eI h Z (λh=>?_) λh=>?_
 .refine aP<|aC Z<|aM<|aT<|aJ ?_;cases h;exact mA Z
 refine cQ<|aK<|iA (λd=>xU d=some r) (λd j=>[]) (λd j=>[]) ?_ ?_
 .refine aP<|aA Z<|kG (dH Z) Z<|aA Z<|aM<|aS<|gC (xV p0 f) (λe k=>[(0,g),(1,i),(12,vI (p0.length:Int)),(13,vI (e))]) (λe k=>[]) (0:Int) () h SF (aX.refl _) ?_;intro m e k h;refine aP<|dD Z<|aM<|aK ?_;refine eI h Z (λh=>?_) λh=>?_
  .refine cQ<|aK<|aS<|aP<|aA Z<|aC Z<|aM<|aK ?_;refine yP [0,0,3,7,0,0,48,112,255] 8 mixedOrders ?_;refine bD Z<|bD Z<|dV h λa h=>bK Z .nil (nD 0 Z) (bR Z Z (dH Z) Z Z a) aO.z<|bK Z .nil (nD 0 Z) (cK Z (dH Z) Z Z Z gF a) aO.z<|bD Z<|bD Z<|dV h λb h=>bK Z .nil (nD 1 Z) (bR Z Z (dH Z) Z Z b) aO.z<|bK Z .nil (nD 1 Z) (cK Z (dH Z) Z Z Z gF b) aO.z<|bU 8 Z Z<|oZ Z<|aM ?_;refine eI h Z (λh=>?_) λh=>?_
   .refine aP<|aC Z<|aM<|aT<|bW<|aJ<|aJ<|bW<|aJ ?_;cases h;exact mA Z
   refine eP<|m_<|aR<|cU Z<|aA Z<|aM ?_;exact BD (wI .i64 (e+(1:Int))) () h SF Z
  refine fO ?_;exact j_ () (()) h SF Z
 intro d j h;unfold xU at h;refine aP<|aC Z<|aM<|aT ?_;cases h;exact mA Z
def zI (c:aW) (b:tQ) (a:Int):V1 V4:=
 ck (0<=a/\a<(b.1.length:Int)) (Option.bind (uJ U c (at' b.1 a)) λd=>(some ((!d))))
theorem aho:aU prog 78:=call78
theorem IT {p0:aW} {e:tQ} {f:Int} (g:V0) (a:Nat) (i:V0) (m:lI) (j:V0) (p:OQ) (k:V0) (q:OP) (b:Nat) (r:V4) (h:zI U p0 e f=some r):
  a_ prog 78 #[g,vP a,vP b] [Sl aL g p0,bH a [i,j,k] 42,S2 aL i m e.1,S3 aL j p e.2.1,S4 aL k q e.2.2,bH b [vI (f)] 3] (λx:Unit=>vB (r)) (λx l=>l) (λ_ l=>l):=by
 refine a_.of func78 Z ntmps78 Z λc=>Q4 Z<|Q6 Z<|bT Z<|aB (eQ Z (yQ Z) Z Z Z) Z<|aB (eQ Z (Jf Z) Z Z Z) Z<|dV h λd h=>aB (cA Z Z (DU Z) Z Z d) Z<|aB (cW Z (DU Z) Z Z d) Z<|fP h λn o h=>aI (zBk aak (FW U g ((at' m f).1) n o) Z (aF.cons (dH Z) (aF.cons (zBm (DU Z) d.1 d.2) .nil))) Z λs=>aB (sI Z) Z<|Q5 Z<|aT ?_;cases h;exact mA Z
def vH (a:Int):V1 V4:=
 some (decide (a=(0:Int)))
def vJ (a:Int):V1 V4:=
 vH (a)
def rB (b:gO) (a:jF->V1 V4) (c:Int):V1 V4:=
 a (c,(wI .i64 (b.2+(1:Int))))
def AD (p0:nM) (f:dM) (c:Gd) (a:gO) (b:jF->V1 V4) (d:bE):V1 V4:=
 Option.bind (dR U ((((p0.1,p0.2.1,p0.2.2)),((((p0.1,p0.2.1,p0.2.2)),((f.1,f.2)),c.2.1,c.2.2.2.1)),c.1)) d a.2) λe=>(if(0:Int)<=e then(ck (0<=a.2) (rB a b (Nz .u32 a.1 (Dq .u32 (1:Int) a.2))))else(rB a b (a.1)))
def rC (p0:nM) (e:dM) (d:Gd) (b:gO) (a:jF->V1 V4) (c:bE):V1 V4:=
 AD U p0 e d b a (c)
def rH (p0:nM) (d:dM) (c:Gd) (b:gO) (e:jF->V1 V4) (a:Dj) (f:(Int×bE)->V1 V4):V1 V4:=
 if a.1<((at' d.2 b.2).length:Int)then(ck (0<=a.1/\a.1<((at' d.2 b.2).length:Int)) (ck (0<=b.2/\b.2<(c.2.2.2.2.1.length:Int)) (ck (0<=a.1/\a.1<((at' c.2.2.2.2.1 b.2).length:Int)) (ck (0<=((at' (at' d.2 b.2) a.1).1)/\((at' (at' d.2 b.2) a.1).1)<(a.2.length:Int)) (f ((wI .i64 (a.1+(1:Int))),(List.set a.2 (Int.toNat ((at' (at' d.2 b.2) a.1).1)) (at' (at' c.2.2.2.2.1 b.2) a.1))))))))else(rC U p0 d c b e (a.2))
def iB (p0:nM) (d:dM) (b:Gd) (a:gO) (c:jF->V1 V4):V1 V4:=
 if a.2<(d.2.length:Int)then(ck ((b.2.2.1.length:Int)<=1099511627) (ck (0<=a.2/\a.2<(d.2.length:Int)) (bN (rH U p0 d b a c) U ((0:Int),b.2.2.1))))else(vJ (a.1))
def vG (p0:nM) (a:dM) (b:tQ) (d:Unit):V1 V4:=
 Option.bind (kZ U ((p0.1,p0.2.1,p0.2.2)) ((a.1,a.2)) (8:Int) ((b.1,b.2.1,b.2.2))) λc=>(bN (iB U p0 a c) U ((0:Int),(0:Int)))
def vK (b:Int) (a:(Int)->V1 V4) (c:Unit):V1 V4:=
 a (wI .i64 (b+(1:Int)))
def rD (b:Int) (a:(Int)->V1 V4) (c:V4):V1 V4:=
 if c=true then(some (false))else(a (wI .i64 (b+(1:Int))))
def rE (c:Int) (b:(Int)->V1 V4) (a:V4):V1 V4:=
 rD c b (a)
def mV (c:Int) (b:(Int)->V1 V4) (a:Int):V1 V4:=
 rE c b (decide ((0:Int)<=a))
def pX (b:Int) (a:(Int)->V1 V4) (c:Unit):V1 V4:=
 mV b a (-1:Int)
def vL (f:tQ) (c b:Int) (d:(Int)->V1 V4) (a:Int) (e:(Int)->V1 V4):V1 V4:=
 if a<((at' (at' f.2.2 c) b).length:Int)then(ck (0<=a/\a<((at' (at' f.2.2 c) b).length:Int)) (Option.bind (zI U (at' (at' (at' f.2.2 c) b) a) ((f.1,f.2.1,f.2.2)) c) λg=>(if g=true then(mV b d (a))else(e (wI .i64 (a+(1:Int)))))))else(pX b d (()))
def jJ (f:dM) (d:tQ) (a:Int) (e:(Int)->V1 V4) (b:Int) (c:(Int)->V1 V4):V1 V4:=
 if b<((at' f.2 a).length:Int)then(ck (0<=b/\b<((at' f.2 a).length:Int)) (ck (0<=a/\a<(d.2.1.length:Int)) (ck (0<=b/\b<((at' d.2.1 a).length:Int)) (ck (0<=((at' (at' f.2 a) b).1)/\((at' (at' f.2 a) b).1)<(d.1.length:Int)) (Option.bind (uJ U (at' (at' d.2.1 a) b) (at' d.1 ((at' (at' f.2 a) b).1))) λg=>(if(!g)=true then(rD b c (true))else(ck (0<=a/\a<(d.2.2.length:Int)) (ck (0<=b/\b<((at' d.2.2 a).length:Int)) (bN (vL U d a b c) U (0:Int))))))))))else(vK a e (()))
def fR (p0:nM) (c:dM) (d:tQ) (a:Int) (b:(Int)->V1 V4):V1 V4:=
 if a<(c.2.length:Int)then(ck (0<=a/\a<(c.2.length:Int)) (bN (jJ U c d a b) U (0:Int)))else(vG U p0 c d (()))
def pH (p0:nM) (b:dM) (a:tQ):V1 V4:=
 Option.bind (qC U ((p0.1,p0.2.1,p0.2.2)) ((b.1,b.2)) (8:Int) ((a.1,a.2.1,a.2.2))) λc=>(if(!c)=true then(some (false))else(bN (fR U p0 b a) U (0:Int)))
theorem ahd:aU prog 16:=call16
theorem KR (U:Nat) {K:nM} {p:dM} {p2:tQ} (v0 v1 S v3:V0) (z4:mS) (v5:V0) (z6:lI) (v7:V0) (z8:OQ) (v9:V0) (L:OP) (r:Bool) (h:pH U K p p2=some r):
  a_ prog 16 #[Value.agg #[vS (K.1),v0,v1],Value.agg #[S,v3],Value.agg #[v5,v7,v9]] [Sl aH v0 K.2.1,Sl aD v1 K.2.2,PF (Value.agg #[vS K.1,v0,v1]),Sl aL S p.1,S2 aY v3 z4 p.2,S2 aL v5 z6 p2.1,S3 aL v7 z8 p2.2.1,S4 aL v9 L p2.2.2] (λx:Unit=>vB (r)) (λx l=>l) (λ_ l=>l):=by
 let E:=Sl aD v1 K.2.2;let D:=Sl aH v0 K.2.1;let y:=S2 aL v5 z6 p2.1;let w:=S2 aY v3 z4 p.2;let M:=vI (p.2.length:Int);let u:=S3 aL v7 z8 p2.2.1;let t:=S4 aL v9 L p2.2.2;let Q:=PF (Value.agg #[vS K.1,v0,v1]);refine a_.of func16 Z ntmps16 Z λc=>?_;refine aP<|aI (aN.box (cs:=[vS (K.1),v0,v1]) Z Z) Z λb1=>let R:=bH b1 [vS (K.1),v0,v1] 33;aI (aN.box (cs:=[S,v3]) Z Z) Z λb2=>let v:=bH b2 [S,v3] 28;aI (aN.box (cs:=[v5,v7,v9]) Z Z) Z λb3=>let s:=bH b3 [v5,v7,v9] 42;aC Z<|aM<|aK<|aP<|dL 2 Z<|dL 1 Z<|dL 0 Z<|fP h λr4 w5 h=>aI (zBk aaj (Hm U v0 v1 S v3 z4 v5 z6 v7 z8 v9 L r4 w5) Z (jS [0,1,2,3,4,5,6,7] Z)) Z λx6=>aB (sI Z) Z<|aM ?_
 refine Ca h Z (λ_ h=>?_) λ_ h=>?_
 .refine aP<|aC Z<|aM<|aT<|aJ ?_;cases h;exact xT Z
 refine cQ<|aK<|iA (λa8=>vG U K p p2 a8=some r) (λa8 b9=>[(3,vP b1),(4,vP b2),(5,vP b3)]) (λa8 b9=>[s,v,R]) ?_ ?_
 .refine aP<|bT Z<|dO 1 Z<|aB (fN Z (CN Z) Z) Z<|aA Z<|aM<|aS<|gC (fR U K p p2) (λb bo=>[(3,vP b1),(4,vP b2),(5,vP b3),(18,v3),(19,M),(20,vI (b))]) (λb bo=>[s,v,R]) (0:Int) () h SF (aX.refl _) ?_;intro bS b bo h;let ak:=(at' p.2 b)
  let ay:=(jJ U p p2 b (bN (fR U K p p2) bS))
  refine aP<|dD Z<|aM<|aK ?_;refine eI h Z (λh=>?_) λh=>?_
  .refine cQ<|aK<|iA (λbb=>vK b (bN (fR U K p p2) bS) bb=some r) (λbb bp=>[(3,vP b1),(4,vP b2),(5,vP b3),(18,v3),(19,M),(20,vI (b))]) (λbb bp=>[s,v,R]) ?_ ?_
   .refine aS<|aP<|aA Z<|dV h λV h=>aB (cA Z Z (CN Z) Z Z V) Z<|aB (cW Z (CN Z) Z Z V) Z<|aI (aN.alloc (cs:=[vI (0:Int)]) Z Z) Z λP=>let a2:=Value.func (.func 78) #[] #[vP b3,vP P];let N:=bH P [vI (b)] 3;fS 0 Z Z Z Z Z Z<|aC Z<|aM<|aP<|aB (uB (cs:=[.tmp 5,.tmp 7]) (vs:=[vP b3,vP P]) Z) Z<|aC Z<|aM<|aP<|aA Z<|aB (iN Z (zBm (CN Z) V.1 V.2) Z) Z<|aA Z<|aM<|aS<|gC ay (λd bq=>[(3,vP b1),(4,vP b2),(5,vP b3),(7,vP P),(9,a2),(18,v3),(19,M),(20,vI (b)),(26,(at' z4 b).1),(27,vI (ak.length:Int)),(28,vI (d))]) (λd bq=>[N,s,v,R]) (0:Int) () h SF (aX.refl _) ?_
    intro a0 d bq h;refine aP<|dD Z<|aM<|aK ?_;refine eI h Z (λh=>?_) λh=>?_
    .refine cQ<|aK<|aS<|aP<|aA Z<|dV h λbP h=>aB (bR Z Z (zBm (CN Z) V.1 V.2) Z Z bP) Z<|aB (gT (cs:=[vI ((at' ak d).1),vI ((at' ak d).2)]) Z (zBm (CN Z) V.1 V.2) bX Z Z Z Z bP) Z<|aI (aN.alloc (cs:=Uj) Z Z) Z λch=>aC Z<|bQ 0 (vs:=[vI ((at' (at' p.2 b) d).1),vI ((at' (at' p.2 b) d).2)]) Z Z Z Z Z Z<|aM<|aK<|iA (λaz=>rD d (bN ay a0) az=some r) (λaz br=>[(3,vP b1),(4,vP b2),(5,vP b3),(7,vP P),(9,a2),(18,v3),(19,M),(20,vI (b)),(26,(at' z4 b).1),(27,vI (ak.length:Int)),(28,vI (d)),(60,vB (az))]) (λaz br=>[N,s,v,R]) ?_ ?_
     .refine yP [0,1,0,7,15,0,63,127,0,256,0,1024,3840,7936,16383,32767,65535,131071,262143,131071,1048575,2097151,131071,8388607,16777215,131071,67108863,134217727] 26 mixedOrders ?_;refine cN Z<|gW 2 Z<|gW 1 Z<|dV h λW h=>bJ (lU (JB Z)) λbB=>jL Z (mI Z Z bB Z Z W)<|bK Z .nil (nD 6 Z) (n_ Z (dH Z) Z Z W) aO.z<|bD Z<|dV h λbc h=>bJ (lU (eL (JB Z) W.1 W.2)) λbC=>?_;refine jL Z (mI Z Z bC Z Z bc) ?_;refine bK Z .nil (nD 6 Z) (cW Z (eL (dH Z) W.1 W.2) Z Z bc) aO.z ?_;refine cN Z<|gW 2 Z<|cN Z<|gW 0 Z<|dV h λbd h=>bK Z .nil (nD 5 Z) (cA Z Z (dH Z) Z Z bd) aO.z<|bK Z .nil (nD 5 Z) (cW Z (dH Z) Z Z bd) aO.z<|fP h λb7 cb h=>zBl Z Z Z (zBk aak (FW U ((at' ((at' z8 b).2) d).1) ((at' z6 ((at' ak d).1)).1) b7 cb) Z (aF.cons (zBm (eL (JB Z) W.1 W.2) bc.1 bc.2) (aF.cons (zBm (Jf Z) bd.1 bd.2) .nil))) Z (λcc=>(pB [] Z)) λcc=>?_;refine jL Z (sI Z)<|jL Z (iO Z) ?_;refine JR.guard (by exact rfl) (by exact rfl) (by exact rfl) (λaW=>?_) (λaW=>?_)
      .have h:=SE aW h;refine bY Z Z Z Z<|bY Z Z Z Z<|bY Z Z Z Z<|bY Z Z Z Z<|bY Z Z Z Z<|bY Z Z Z Z<|bY Z Z Z Z<|bY Z Z Z Z<|bY Z Z Z Z<|bU 26 Z Z<|aQ Z<|gE Z<|aM ?_;exact cT (true) () h SF (aX.ix [1,2,3,4] Z Z) (aF.refl _ _)
      have h:=Qh aW h;refine gX Z .nil .nil (cV Z Z Z Z Z) (Ow Z)<|gX Z (aX.cons 2 Z .nil) .nil (eB 0 Z Z Z Z Z) (Ow Z)<|gX Z (aX.cons 1 Z .nil) .nil (eB 0 Z Z Z Z Z) (Ow Z)<|dV h λe h=>bJ (lU (GT Z)) λbl=>gX Z .nil .nil (mI Z Z bl Z Z e) (Ow Z)<|gX Z .nil (nD 7 Z) (n_ Z (dH Z) Z Z e) (Ow Z)<|gX Z .nil .nil (iO Z) (Ow Z)<|dV h λm h=>bJ (lU (eL (GT Z) e.1 e.2)) λbm=>?_;refine gX Z .nil .nil (mI Z Z bm Z Z m) (Ow Z) ?_;refine gX Z .nil (nD 7 Z) (n_ Z (eL (dH Z) e.1 e.2) Z Z m) (Ow Z) ?_;refine gX Z .nil .nil (iO Z) (Ow Z)<|bU 26 Z Z<|adv (A:=Bool) (B:=Unit) (vs:=[(at' ((at' L b).2) d).1,Value.func (.func 78) #[] #[vP b3,vP P]]) (λH=>rE d (bN ay a0) H=some r) (λH aE=>vB (H)) (λH aE=>[N,s,v,R]) (λH aE=>[D,E,Q,Sl aL S p.1,w,y,u,t]) Z (nY.fn (show aU prog 80 from call80) Z) func80 Z ntmps80 Z Z ?_ ?_
      .refine aP<|aC Z<|aM<|aP<|aA Z<|aA Z<|vY (A:=Int) (B:=Unit) (vs:=[(at' ((at' L b).2) d).1,Value.func (.func 78) #[] #[vP b3,vP P]]) (λI=>mV d (bN ay a0) I=some r) (λI aV=>vI (I)) (λI aV=>[N,s,v,R]) (λI aV=>[D,E,Q,Sl aL S p.1,w,y,u,t]) (nY.fn (show aU prog 139 from call139) Z) func139 Z ntmps139 Z Z ?_ ?_
       .refine aP<|aC Z<|aM<|aK<|iA (λar=>pX d (bN ay a0) ar=some r) (λar be=>[]) (λar be=>[N,s,v,R]) ?_ ?_
        .refine aP<|aA Z ?_;refine aB (fN Z (eL (eL (GT Z) e.1 e.2) m.1 m.2) Z) Z ?_;refine aA Z<|aM<|aS<|gC (vL U p2 b d (bN ay a0)) (λJ bf=>[(0,(at' ((at' L b).2) d).1),(1,a2),(7,vI ((at' (at' p2.2.2 b) d).length:Int)),(8,vI (J))]) (λJ bf=>[N,s,v,R]) (0:Int) () h SF (aX.ix [1,2,3,4] Z Z) ?_;intro ce J bf h;refine aP<|dD Z<|aM<|aK ?_;refine eI h Z (λh=>?_) λh=>?_
         .refine cQ<|aK<|aS<|aP<|aA Z<|aC Z<|aM<|aP<|aA Z<|aA Z<|aA Z<|dV h λau h=>aB (cA Z Z (eL (eL (GT Z) e.1 e.2) m.1 m.2) Z Z au) Z ?_;refine aB (cW Z (eL (eL (GT Z) e.1 e.2) m.1 m.2) Z Z au) Z<|fP h λbV b0 h=>aI (nN (vs:=[(at' ((at' ((at' L b).2) d).2) J).1]) (cs:=[Value.pointer (some ⟨b3,0,none⟩),Value.pointer (some ⟨P,0,none⟩)]) aho Z (IT U ((at' ((at' ((at' L b).2) d).2) J).1) b3 v5 z6 v7 z8 v9 L P bV b0) Z (aF.cons (zBm (eL (eL (GT Z) e.1 e.2) m.1 m.2) au.1 au.2) (aF.cons (aG.res 1 Z) (aF.cons (Jf Z) (aF.cons (JB Z) (aF.cons (GT Z) (aF.cons (aG.res 0 Z) .nil)))))) (λ_ _=>rfl)) Z λcf=>?_;refine aM ?_;refine Ca h Z (λ_ h=>?_) λ_ h=>?_
          .refine aP<|aA Z<|aC Z<|aM<|aT<|bW<|aJ<|aJ<|bW<|aJ ?_;exact jN (J) () h (.inl Z) (CO.r1 Z (RV.tmp Z)) Z (aX.refl _) (aF.refl _ _)
          refine eP<|m_<|aR<|cU Z<|aA Z<|aM ?_;exact BD (wI .i64 (J+(1:Int))) () h SF Z
         refine fO ?_;exact j_ () (()) h SF Z
        intro ar be h;unfold pX at h;refine aP<|aC Z<|aM<|aT ?_;exact jN (-1:Int) () h (.inl Z) (CO.r1 Z (RV.tmp Z)) Z (aX.refl _) (aF.refl _ _)
       intro I aV h;unfold mV at h;refine aB (CV Z Z) Z<|aC Z<|aM<|aT ?_;exact jN (decide ((0:Int)<=I)) () h (.inl Z) (CO.r1 Z (RV.tmp Z)) Z (aX.refl _) (aF.refl _ _)
      intro H aE h;unfold rE at h;refine jD Z<|aM ?_;exact j_ (H) () h SF Z
     intro az br h;refine Ca h Z (λ_ h=>?_) λ_ h=>?_
     .refine aP<|aC Z<|aM<|aT<|bW<|aJ<|aJ<|bW<|bW<|aJ<|aJ<|bW<|aJ ?_;cases h;exact xT Z
     refine eP<|m_<|aR<|cU Z<|aA Z<|aM ?_;exact BD (wI .i64 (d+(1:Int))) () h SF Z
    refine tB<|fT<|fT<|Aj<|m_ ?_;exact cT () (()) h SF (aX.ix [1,2,3] Z Z) (aF.refl _ _)
   intro bb bp h;unfold vK at h;refine aR<|cU Z<|aA Z<|aM ?_;exact BD (wI .i64 (b+(1:Int))) () h SF Z
  refine fO ?_;exact j_ () (()) h SF Z
 intro a8 b9 h;refine aP<|dL 2 Z<|dL 1 Z<|dL 0 Z<|fP h λk b8 h=>aI (aN.call aah (Df U v0 v1 S v3 z4 v5 z6 v7 z8 v9 L k b8) Z (mD.cons (zA3 (i:=0) Z) (mD.cons (zA3 (i:=1) Z) (mD.cons (zA3 (i:=2) Z) (mD.cons (zA3 (i:=3) Z) (mD.cons (zA3 (i:=4) Z) (mD.cons (zA3 (i:=5) Z) (mD.cons (zA3 (i:=6) Z) (nD 7 Z)))))))) (λ_ _=>rfl) (λ_ _=>rfl)) Z λg=>let C:=g.2.2.2.2;let ah:=sW aL C.2.1 k.2.2.1;let aa:=Ar bI.raw g.2.2.1 C.2.1;let a7:=bH g.2.1 [vS (K.1),v0,v1,vP C.2.2.1,C.2.2.2.1] 180;let a5:=bH g.1 [S,v3,vI (8:Int),vP g.2.1,g.2.2.1,g.2.2.2.1,C.1] 84;let G:=C.2.2.2.2;let aj:=fE bO G.1 k.1;let ae:=sW aL G.2.2.1 k.2.2.2.1;let ac:=Ar bI.raw G.2.1 G.2.2.1;let ab:=Ar bI.raw C.2.2.2.1 G.1;let X:=Ar bI.raw g.2.2.2.1 G.2.2.2.1;let a6:=bH C.2.2.1 [vS (K.1),v0,v1,S,v3,vI (k.2.1),G.2.1] 225;let ai:=G.2.2.2.2;let ag:=Ar bI.raw C.1 ai.2.1;let af:=Dl aL ai.1 k.2.2.2.2.1;let ad:=fE bI.raw G.2.2.2.1 ai.1;let Y:=Gm aL ai.2.2.2 k.2.2.2.2.2;let a9:=AJ bI.raw ai.2.1 ai.2.2.1 ai.2.2.2;vY (A:=Int) (B:=Unit) (vs:=[vP g.1]) (λaw=>vH aw=some r) (λaw bh=>vU (aw)) (λaw bh=>[]) (λaw bh=>[D,E,Q,Sl aL S p.1,w,y,u,t]) (nY.fn (show aU prog 81 from call81) Z) func81 Z ntmps81 Z Z ?_ ?_
 .refine aP<|aC Z<|aM<|aP<|aC Z<|aM<|aK<|lT (B:=Unit) (λal=>vJ al=some r) (λal bi=>[(3,vU (al))]) (λal bi=>[]) (λal bi=>[D,E,Q,Sl aL S p.1,w,y,u,t]) ?_ ?_
  .refine aP<|aA Z<|aB (bL Z) Z<|bT Z<|bT Z<|dO 0 Z<|aB (fN Z (WY Z) Z) Z<|aA Z<|aM<|aS<|pN (B:=Unit) (iB U K p k) (λa bj=>[(0,vP g.1),(3,vU (a.1)),(10,M),(11,vI (a.2))]) (λa bj=>[a5,aa,a7,ab,aj,a6,ac,X,ad,ag,a9]) (λa bj=>[ah,ae,af,Y,D,E,Q,Sl aL S p.1,w,y,u,t]) ((0:Int),(0:Int)) () h SF (aX.ix [0,1,2,3,4,5,6,7,8,9,10] Z Z) (aF.refl _ _) ?_;intro b5 a bj h;let av:=(bN (iB U K p k) b5)
   refine aP<|dD Z<|aM<|aK ?_;refine eI h Z (λh=>?_) λh=>?_
   .refine cQ<|aK<|lT (B:=Unit) (λam=>rB a av am=some r) (λam bk=>[(0,vP g.1),(3,vU (am)),(10,M),(11,vI (a.2))]) (λam bk=>[a5,aa,a7,ab,aj,a6,ac,X,ad,ag,a9]) (λam bk=>[ah,ae,af,Y,D,E,Q,Sl aL S p.1,w,y,u,t]) ?_ ?_
    .refine aS<|aP<|aA Z<|aC Z<|aM<|aK ?_;refine yP [0,1,3,7,0,0,48,0,255,511] 8 mixedOrders ?_;refine bD Z<|jL Z (bL Z)<|cN Z<|gW 0 Z<|bD Z<|bD Z<|Gk (A:=bE) (B:=Hp) (vs:=[vP g.1,vI (a.2)]) (λan=>AD U K p k a av an=some r) (λan O=>O.1) (λan O=>[Ar bI.raw O.1 O.2,a5,aa,a7,ab,aj,a6,ac,X,ad,ag,a9]) (λan O=>[sW aL O.2 an,ah,ae,af,Y,D,E,Q,Sl aL S p.1,w,y,u,t]) Z Z Z (nY.fn (show aU prog 141 from call141) Z) func141 Z ntmps141 Z Z (λ_ _=>(pB [([1],[])] Z)) ?_ ?_
     .refine aP<|aC Z<|aM<|aP<|aA Z<|aB (bL Z) Z<|bT Z<|bT Z<|dO 0 Z<|dV h λci h=>bG (bM (dH Z)) λcd=>cF (dJ (dH Z)) ?_;refine aI (zBk Wt (EU U (p0:=C.2.1) g.2.2.1 C.2.1 (by simp[xS,ck];omega)) Z (aF.cons (rS (i:=1) Z) aF.nil)) Z λba=>?_;refine aC Z<|aM<|aK<|lT (B:=e_) (λao=>rC U K p k a av ao=some r) (λao ax=>[(5,ba)]) (λao ax=>[Ar bI.raw ba ax,a5,aa,a7,ab,aj,a6,ac,X,ad,ag,a9]) (λao ax=>[sW aL ax ao,ah,ae,af,Y,D,E,Q,Sl aL S p.1,w,y,u,t]) ?_ ?_
      .refine aP<|aA Z<|aB (bL Z) Z<|bT Z<|bT Z<|dO 1 Z<|aA Z<|dV h λT h=>aB (cA Z Z (Vk Z) Z Z T) Z<|aB (cW Z (Vk Z) Z Z T) Z<|aB (iN Z (zBm (Vk Z) T.1 T.2) Z) Z<|aA Z<|aM<|aS<|pN (B:=e_) (rH U K p k a av) (λn ap=>[(0,vP g.1),(1,vI (a.2)),(5,ba),(21,(at' z4 a.2).1),(22,vI ((at' p.2 a.2).length:Int)),(23,vI (n.1))]) (λn ap=>[Ar bI.raw ba ap,a5,aa,a7,ab,aj,a6,ac,X,ad,ag,a9]) (λn ap=>[sW aL ap n.2,ah,ae,af,Y,D,E,Q,Sl aL S p.1,w,y,u,t]) ((0:Int),k.2.2.1) (tg 1 C.2.1) h SF (aX.refl _) (aF.refl _ _) ?_;intro cj n ap h;let a3:=at' (at' ai.1 a.2) n.1;let a1:=(at' (at' p.2 a.2) n.1)
       let a4:=(Int.toNat (a1.1))
       refine aP<|dD Z<|aM<|aK ?_;refine eI h Z (λh=>?_) λh=>?_
       .refine cQ<|aK<|aS<|aP<|aA Z<|dV h λbF h=>aB (bR Z Z (zBm (Vk Z) T.1 T.2) Z Z bF) Z<|aB (gT (cs:=[vI (a1.1),vI (a1.2)]) Z (zBm (Vk Z) T.1 T.2) bX Z Z Z Z bF) Z<|aI (aN.alloc (cs:=Uj) Z Z) Z λcg=>aC Z<|bQ 0 (vs:=[vI ((at' (at' p.2 a.2) n.1).1),vI ((at' (at' p.2 a.2) n.1).2)]) Z Z Z Z Z Z<|aM ?_;refine yP [0,0,2,0,8,24,56,120,0,504,1016,0,4088,8184,16383,32767] 14 mixedOrders ?_;refine bD Z<|cN Z<|gW 0 Z<|bD Z<|jL Z (bL Z)<|cN Z<|cN Z<|gW 2 Z<|bD Z<|dV h λF h=>bJ (lU (kW (i:=9) (q:=10) (j:=3) Z Z Z)) λbs=>jL Z (mI Z Z bs Z Z F)<|bJ (dQ 10 Z) λbt=>bJ (bM (Dw Z)) λbu=>bK Z (aX.cons 9 Z .nil) .nil (jT 0 Z Z (bt.trans bu) Z Z F) aO.z<|bD Z<|dV h λaq h=>bJ (lU (Jl (q:=10) (j:=3) Z Z F.1 F.2)) λbw=>?_;refine jL Z (mI Z Z bw Z Z aq)<|bJ (bM (Dw Z)) λbx=>?_;refine bJ (bM (cH (Dw Z) F.1 F.2)) λbz=>?_;refine bK Z (aX.cons 10 Z .nil) .nil (cK (f:=λx=>x) Z (Ki (q:=0) Z F.1 (by have q0:=F.2;have q1:=bx;(try simp only[zA2]at q0 q1⊢);omega)) Z Z Z pQ ⟨aq.1,(by have q0:=aq.2;have q1:=bz;(try simp only[zA2]at q0 q1⊢);omega)⟩) aO.z ?_;refine bU 14 Z Z<|dV h λbn h=>aB (cA Z Z (dN (i:=1) (j:=0) Z Z) Z Z bn) Z ?_;refine bG (Know.one ((cH (cH (Dw Z) F.1 F.2) aq.1 aq.2))) λbg=>?_;refine bG (bM (dH Z)) λbA=>?_;refine cF (dJ (pO a4 (dH Z) (cH (cH (Dw Z) F.1 F.2) aq.1 aq.2))) ?_;refine CS (yH (us:=[a3]) (o:=0) (q:=1) 1 (a3) ⟨bn.1,(by have q0:=bn.2;have q1:=bA;(try simp only[zA2]at q0 q1⊢);omega)⟩ Z Z Z Z (by rw[show(at' (at' g.2.2.2.2.2.2.2.2.2.2.2.2.1 a.2) n.1).cells = #[at' (at' g.2.2.2.2.2.2.2.2.2.2.2.2.1 a.2) n.1]from f_ bg]) Z Z Z (eJ bg Z) Z) λcm=>?_;refine eW<|m_<|aR<|cU Z<|aA Z<|aM ?_;exact iH ((wI .i64 (n.1+(1:Int))),(List.set n.2 a4 (at' (at' k.2.2.2.2.1 a.2) n.1))) (List.set ap a4 (a3)) h SF (aX.ix [1,2,3,4,5,6,7,8,9,10,11,12] Z Z) (jS [0,2,3,4,5,6,7,8,9,10,11,12,13] Z)
       refine fO ?_;exact j_ (n.2) (ap) h SF Z
      intro ao ax h;unfold rC at h;refine aP<|aA Z<|aC Z<|aM<|aT ?_;exact jN (ao) (ba,ax) h (.inl Z) (CO.r1 Z (RV.tmp Z)) Z (aX.refl _) (aF.refl _ _)
     intro an O h;refine jL Z (iO Z)<|bU 8 Z Z<|fP h λb6 ca h=>aI (zBk Ld (pY U g.2.1 v0 v1 C.2.2.1 v0 v1 S v3 z4 G.2.1 ((List.zip G.2.2.1 k.2.2.2.1)) C.2.2.2.1 (List.zip G.1 k.1) O.1 ((List.zip O.2 an)) b6 ca) Z (aF.cons (aG.res 3 Z) (aF.cons (Jf Z) (aF.cons (JB Z) (aF.cons (aG.res 6 Z) (aF.cons (Jf Z) (aF.cons (JB Z) (aF.cons (WY Z) (aF.cons (Vk Z) (aF.cons (dN (i:=7) (j:=2) Z Z) (aF.cons (cC (i:=4) (j:=5) Z Z bX) (aF.cons (dN (i:=0) (j:=0) Z Z) .nil)))))))))))) Z λcl=>aB (CV Z Z) Z<|aM ?_;refine eI h Z (λh=>?_) λh=>?_
     .refine aR<|aA Z<|aA Z<|dV h λb4 h=>aB (NZ Z Z b4) Z<|aB (ZP Z Z) Z<|aC Z<|eW<|m_ ?_;exact cT (Nz .u32 a.1 (Dq .u32 (1:Int) a.2)) () h SF (aX.ix [1,2,3,4,5,6,7,8,9,10,11] Z Z) (jS [1,2,3,4,5,6,7,8,9,10,11,12] Z)
     refine eP<|m_ ?_;exact cT (a.1) () h SF (aX.ix [1,2,3,4,5,6,7,8,9,10,11] Z Z) (jS [1,2,3,4,5,6,7,8,9,10,11,12] Z)
    intro am bk h;unfold rB at h;refine aR<|cU Z<|aA Z<|aM ?_;exact BD (am,(wI .i64 (a.2+(1:Int)))) () h SF Z
   refine fO ?_;exact cT (a.1) () h SF .nil (jS [4,5,6,7,8,9,10,11] Z)
  intro al bi h;unfold vJ at h;refine aP<|aA Z<|aC Z<|aM<|aT ?_;exact jN (al) () h (.inl Z) (CO.r1 Z (RV.tmp Z)) Z (aX.refl _) (aF.refl _ _)
 intro aw bh h;unfold vH at h;refine bZ Z<|aC Z<|aM<|aT ?_;cases h;exact mA Z
end Go.Proofs.YtgciopekomcbfaaGreatDoor
namespace Go.Proofs.YtgciopekomcbfaaGreatDoor
open Go Go.Sx
theorem aiq {g:GR} (hV:VG g) {v i:Nat} (hv:v<g.2.length) (hi:i<(row g v).length):AC (row g (sF g v i)) (v:Int)=(DZ g v i:Int):=by
 have e:=Ct hV hv hi;obtain⟨j,hj,hjv,_⟩:=hV.sym v hv i hi;have hr:at' g.2 (iU (row g v) i).1=row g (sF g v i):=by rw[e]
 rw[hr]at hj hjv;rcases EB (row g (sF g v i)) (v:Int)with⟨k,hk,hkv,hkf,hke⟩|⟨hf,_⟩
 .unfold DZ;omega
 .exact absurd hjv (hf j hj)
def S_ (S:Bq) (vars:V6 xF) (R:V6 RL) (c:bE) (v:Nat):aW:=if 0<=jH S R c v then zM S vars R c v (jH S R c v)else at' c (v:Int)
def Ug (g:GR) (e:Int×Int×Int):V4:=decide ((1<=e.1/\e.1<=4)/\(0<=e.2.1/\e.2.1<(g.2.length:Int))/\(e.1=1\/(0<=e.2.2/\e.2.2<((at' g.2 e.2.1).length:Int))))
def evN (e:Int×Int×Int):Nat×Nat×Nat:=(e.1.toNat,e.2.1.toNat,e.2.2.toNat)
def perfs (g:GR) (nx:bE->Nat->aW) (cap:Nat) (y:yV) (l:Af):yV:=l.foldl (λy e=>lA g nx cap y (evN e)) y
theorem ahO {g:GR} {e:Int×Int×Int} (h:Ug g e=true):agC g (evN e):=by
 obtain⟨k,v,i⟩:=e;obtain⟨⟨d,f⟩,⟨a,j⟩,b⟩:=zB5 h;refine⟨⟨?_,?_⟩,?_,?_⟩<;>simp only[evN]at * 
 .omega
 .omega
 .omega
 .rcases b with h|⟨l,c⟩
  .left;omega
  .right;have:at' g.2 v=row g v.toNat:=by
    show at' g.2 v=at' g.2 ((v.toNat:Nat):Int);rw[Int.toNat_of_nonneg a]
   rw[this]at c;omega
structure VY (g:GR) (vars:List xF) (cap:Nat) (y:yV):Prop where
 sh:SH g y
 all:Cc g (λv l=>GW g vars v l=true) y
 cp:VS g cap y
theorem agW {a:Type} [Inhabited a] {l:V6 a} {s:a} (h:s∈l):∃k,k<l.length/\at' l (k:Int)=s:=by
 obtain⟨k,b,e⟩:=List.getElem_of_mem h;exact⟨k,b,by rw[gK b];exact e⟩
theorem Lw {g:GR} {d:V6 xF} {e:Int} {y:yV}:YZ g d e y=true↔(1<=e/\e<=8)/\VY g d e.toNat y:=by
 unfold YZ cfB;simp only[zA4,zA1,pS];constructor
 .rintro⟨⟨n,o⟩,m,p,q,r⟩;have j:∀v,v<g.2.length->((at' y.2.1 (v:Int)).length=(row g v).length/\(at' y.2.2 (v:Int)).length=(row g v).length)/\∀i,i<(row g v).length->GW g d (sF g v i) (nO y.2.1 v i)=true/\((nO y.2.2 v i).length:Int)<=e/\∀k,k<(nO y.2.2 v i).length->GW g d v (at' (nO y.2.2 v i) (k:Int))=true:=λv b=>by
   have:=r v b;unfold rvB at this;simp only[zA4,zA1,pS]at this;refine⟨⟨this.1,this.2.1⟩,λi f=>?_⟩
   have:=this.2.2 i f;unfold wiB at this;simp only[zA4,zA1,pS]at this;exact this
  refine⟨m,⟨n,⟨p,λv b=>(j v b).1.1⟩,⟨q,λv b=>(j v b).1.2⟩⟩,⟨o,λv i b f=>((j v b).2 i f).1,λv i b f s t=>?_⟩,λv i b f=>?_⟩
  .obtain⟨k,l,rfl⟩:=agW t;exact((j v b).2 i f).2.2 k l
  .have:=((j v b).2 i f).2.1;omega
 .rintro⟨m,h⟩;refine⟨⟨h.sh.c,h.all.c⟩,m,h.sh.a.len,h.sh.w.len,λv b=>?_⟩
  unfold rvB;simp only[zA4,zA1,pS];refine⟨h.sh.a.row v b,h.sh.w.row v b,λi f=>?_⟩
  unfold wiB;simp only[zA4,zA1,pS];refine⟨h.all.a v i b f,by have:=h.cp v i b f;omega,λk l=>h.all.w v i b f _ ?_⟩
  rw[gK l];exact List.getElem_mem l
theorem z_ {g:GR} {vars:V6 xF} {v:Nat} {l:aW}:GW g vars v l=true↔l.length=vars.length/\∀x,x<vars.length->(pT g vars v x).1<=at' l (x:Int)/\at' l (x:Int)<=(pT g vars v x).2:=by
 unfold GW;simp only[zA4,zA1,pS]
theorem MZ {g:GR} {a:V6 xF} {c:bE} (e:c.length=g.2.length) (d:∀x,x<g.2.length->GW g a x (at' c (x:Int))=true):CM g c a:=
 ⟨e,λv b=>(z_.1 (d v b)).1,λv b x f=>(z_.1 (d v b)).2 x f⟩
theorem UC {B:Type} {g:GR} (h:VG g) {s2:Hr->(Hr->V1 B)->(Int×bE)->((Int×bE)->V1 B)->V1 B}
  {s1:Hr->(Hr->V1 B)->V1 B} {K:Dj->V1 B}
  (o:∀a d,s1 a d=if a.1<(g.2.length:Int)then ck (0<=a.1/\a.1<(g.2.length:Int)) (ck (0<=a.1/\a.1<(g.1.length:Int)) (bN (s2 a d) 1000 ((0:Int),a.2.2)))else K (a.2.1,a.2.2))
  (p:∀a d b e,s2 a d b e=if b.1<((at' g.2 a.1).length:Int)then ck (0<=b.1/\b.1<((at' g.2 a.1).length:Int)) (ck (0<=a.1/\a.1<(b.2.length:Int)) (Option.bind (jY 1000 g ((at' (at' g.2 a.1) b.1).1) a.1) λr=>ck (((at' b.2 a.1).length:Int)+(List.length [r]:Int)<=1099511627) (ck (0<=a.1/\a.1<((List.set b.2 (Int.toNat a.1) (at' b.2 a.1++[r])).length:Int)) (e (wI .i64 (b.1+1),List.set b.2 (Int.toNat a.1) (at' b.2 a.1++[r]))))))else d (wI .i64 (a.1+1),max a.2.1 (at' g.1 a.1),b.2)):
  bN s1 1000 ((0:Int),(0:Int),(List.replicate (Int.toNat (g.2.length:Int)) ([]:aW)))=K (eO g g.2.length,fH g):=by
 have C:=h.n24;have t:=h.len;let f:Nat->aW:=λv=>(List.range (row g v).length).map (Ma g v);let Q:Nat->bE:=λk=>(List.range k).map f++List.replicate (g.2.length - k) [];have q:∀k,k<=g.2.length->(Q k).length=g.2.length:=λk l=>by simp[Q];omega
 rw[show List.replicate (Int.toNat (g.2.length:Int)) ([]:aW)=Q 0 by simp[Q]];refine dZ (step:=s1) g.2.length (λk=>((k:Int),eO g k,Q k)) (λk d l=>?_) (λd=>?_) 1000 V7
 .have s:=(h.node k l).deg;have w:k<(Q k).length:=by rw[q k V7];exact l
  rw[o];dsimp only;rw[Q3,Q7,Q7];let c:Nat->aW:=λj=>(List.range j).map (Ma g k);have z:Q k=(Q k).set k (c 0):=by
   have:at' (Q k) (k:Int)=c 0:=by
    rw[gK w];simp[Q,c]
   rw[<-this];exact(Cv (Q k) (k:Int) (by simpa using w) V7).symm
  have i:∀A:bE,A.length=g.2.length->bN (s2 ((k:Int),eO g k,Q k) d) 1000 ((0:Int),A.set k (c 0))=d (((k+1:Nat):Int),eO g (k+1),A.set k (f k)):=by
   intro A F;refine dZ (step:=s2 ((k:Int),eO g k,Q k) d) (K:=d (((k+1:Nat):Int),eO g (k+1),A.set k (f k))) (row g k).length (λj=>((j:Int),A.set k (c j))) (λj e E=>?_) (λe=>?_) 1000 V7
   .obtain⟨u,x,m⟩:=h.to l E;have D:=(h.node u x).deg;have y:at' (A.set k (c j)) (k:Int)=c j:=by rw[tE _ _ _ _ V7,if_pos Z]
    have n:(c j).length=j:=by simp[c]
    rw[p];dsimp only;rw[if_pos (show(j:Int)<((row g k).length:Int) by omega),cR (show 0<=(j:Int)/\(j:Int)<((row g k).length:Int) by omega),cR (by simp only[zA2];omega),show at' (at' g.2 (k:Int)) (j:Int)=iU (row g k) j from rfl,m,bF (show jY 1000 _ (u:Int) (k:Int)=_ from JK g u (k:Int) x V7),y,cR (by rw[n];simp;omega),cR (by simp only[zA2];omega),Q8,zAf,List.set_set];have:c j++[AC (row g u) (k:Int)]=c (j+1):=by
     simp only[c];rw[List.range_succ,List.map_append,List.map_singleton,Ma,m,zAf]
    rw[this]
   .rw[p];dsimp only;rw[if_neg (show¬((row g k).length:Int)<((row g k).length:Int)from Int.lt_irrefl _),Q8];rfl
  have:=i (Q k) (q k V7);rw[wR f [] g.2.length k l,<-z]at this;exact this
 .rw[o];dsimp only;rw[Q0];simp[Q,fH,f]
section
variable {g:GR} {vars:V6 xF} {cap:Nat} {y:yV}
theorem VY.rowc (h:VY g vars cap y) {v:Nat} (a:v<g.2.length):(at' y.1 (v:Int)).length=vars.length:=(z_.1 (h.all.c v a)).1
theorem VY.rowa (h:VY g vars cap y) (d:VG g) {v i:Nat} (c:v<g.2.length) (b:i<(row g v).length):(nO y.2.1 v i).length=vars.length:=(z_.1 (h.all.a v i c b)).1
theorem VY.roww (h:VY g vars cap y) {v i k:Nat} (c:v<g.2.length) (b:i<(row g v).length) (a:k<(nO y.2.2 v i).length):(at' (nO y.2.2 v i) (k:Int)).length=vars.length:=(z_.1 (h.all.w v i c b _ (by rw[gK a];exact List.getElem_mem a))).1
theorem Sp {B:Type} (u:VG g) (h:VY g vars cap y) (M:cap<=8) (N:vars.length<=20) {cp:V6 (V6 Int)->V1 (V6 (V6 Int))} (o:∀c:V6 (V6 Int),c.length<=900->(∀v,v<c.length->(at' c (v:Int)).length<=1000)->cp c=some c)
  {s4:(Int×V6 (V6 (V6 Int))×V6 (V6 (V6 (V6 Int))))->((Int×V6 (V6 (V6 Int))×V6 (V6 (V6 (V6 Int))))->V1 B)->V6 (V6 Int)->(V6 (V6 (V6 Int))×Int)->((V6 (V6 (V6 Int))×Int)->V1 B)->V1 B}
  {s3:(Int×V6 (V6 (V6 Int))×V6 (V6 (V6 (V6 Int))))->((Int×V6 (V6 (V6 Int))×V6 (V6 (V6 (V6 Int))))->V1 B)->V1 B} {K:V6 (V6 (V6 Int))×V6 (V6 (V6 (V6 Int)))->V1 B}
  (F:∀(k:Nat) l m f,k<y.2.1.length->k<y.2.2.length->l.length<=900->s3 ((k:Int),l,m) f=Option.bind (cp (at' y.2.1 (k:Int))) λr=>bN (s4 ((k:Int),l,m) f r) 1000 (([]:V6 (V6 (V6 Int))),(0:Int)))
  (s:∀l m f,s3 ((y.2.1.length:Int),l,m) f=K (l,m))
  (G:∀(k j:Nat) l m f r b d,k<y.2.1.length->k<y.2.2.length->j<(at' y.2.2 (k:Int)).length->b.length<=900->s4 ((k:Int),l,m) f r (b,(j:Int)) d=Option.bind (cp (at' (at' y.2.2 (k:Int)) (j:Int))) λq=>d (b++[q],((j+1:Nat):Int)))
  (t:∀(k:Nat) l m f r b d,k<y.2.1.length->k<y.2.2.length->m.length<=900->s4 ((k:Int),l,m) f r (b,((at' y.2.2 (k:Int)).length:Int)) d=f (((k+1:Nat):Int),l++[r],m++[b])):
  bN s3 1000 ((0:Int),([]:V6 (V6 (V6 Int))),([]:V6 (V6 (V6 (V6 Int)))))=K y.2:=by
 have E:=u.n24;have I:=h.sh.a.len;have J:=h.sh.w.len;have e:K y.2=K (y.2.1.take y.2.1.length,y.2.2.take y.2.1.length):=by rw[List.take_length,I,<-J,List.take_length]
 rw[e];refine dZ (step:=s3) y.2.1.length (λk=>((k:Int),y.2.1.take k,y.2.2.take k)) (λk f p=>?_) (λf=>s _ _ f) 1000 V7;have n:k<g.2.length:=V7
 have z:=(u.node k n).deg;have O:=h.sh.a.row k n;have L:=h.sh.w.row k n;rw[F k _ _ f p V7 Q1,bF (o (at' y.2.1 (k:Int)) V7 λi A=>by have:=h.rowa u n (i:=i) V7;show(nO y.2.1 k i).length<=1000;omega)];have x:bN (s4 ((k:Int),y.2.1.take k,y.2.2.take k) f (at' y.2.1 (k:Int))) 1000 (([]:V6 (V6 (V6 Int))),(0:Int))=f (((k+1:Nat):Int),y.2.1.take k++[at' y.2.1 (k:Int)],y.2.2.take k++[at' y.2.2 (k:Int)]):=by
  have D:∀d,s4 ((k:Int),y.2.1.take k,y.2.2.take k) f (at' y.2.1 (k:Int)) ((at' y.2.2 (k:Int)).take (at' y.2.2 (k:Int)).length,((at' y.2.2 (k:Int)).length:Int)) d=f (((k+1:Nat):Int),y.2.1.take k++[at' y.2.1 (k:Int)],y.2.2.take k++[at' y.2.2 (k:Int)]):=λd=>by
   rw[t k _ _ f _ _ d p V7 Q1,List.take_length]
  refine dZ (step:=s4 ((k:Int),y.2.1.take k,y.2.2.take k) f (at' y.2.1 (k:Int))) (at' y.2.2 (k:Int)).length (λj=>((at' y.2.2 (k:Int)).take j,(j:Int))) (λj d C=>?_) D 1000 V7;have H:=h.cp k j n V7;rw[G k j _ _ f _ _ d p V7 C Q1,bF (o (at' (at' y.2.2 (k:Int)) (j:Int)) (by show(nO y.2.2 k j).length<=900;omega) λi A=>by have:=h.roww n (i:=j) (k:=i) V7 A;show(at' (nO y.2.2 k j) (i:Int)).length<=1000;omega),vO C]
 rw[x,vO p,vO (show k<y.2.2.length by omega)]
theorem OZ {B:Type} (b:VG g) (h:SH g y) {v:Nat} (l:v<g.2.length) {s:(Int×V6 (V6 Int))->((Int×V6 (V6 Int))->V1 B)->V1 B} {K:V6 (V6 Int)->V1 B}
  (k:∀(i:Nat) c a,i<(row g v).length->c.length=y.1.length->s ((i:Int),c) a=a (((i+1:Nat):Int),c.set (sF g v i) (nO y.2.1 v i))) (f:∀c a,c.length=y.1.length->s (((row g v).length:Int),c) a=K c):bN s 1000 ((0:Int),y.1)=K (vw g y v):=by
 have d:=(b.node v l).deg;have e:=b.n24;exact dZ (step:=s) (row g v).length (λi=>((i:Int),vwN g y v i)) (λi a j=>k i _ a j (GK g y v i)) (λa=>f _ a (GK g y v _)) 1000 V7
end
theorem Yv {X B:Type} {n:Nat} {b:Nat->V4} (F:Nat->X) {step:X->(X->V1 B)->V1 B} {Z K:V1 B}
  (f:∀(k:Nat) a,k<n->(∀j,j<k->b j=true)->step (F k) a=if b k=true then a (F (k+1))else Z) (l:(∀j,j<n->b j=true)->∀a,step (F n) a=K) (p:n<1000):bN step 1000 (F 0)=if Dn n b=true then K else Z:=by
 by_cases h:Dn n b=true
 .rw[if_pos h];have d:=pS.1 h;exact dZ n F (λk a c=>by rw[f k a c (λj o=>d j V7),if_pos (d k c)]) (l d) 1000 p
 .rw[if_neg h];obtain⟨m,g,i,e⟩:=Sd h;exact dZ m F (λk a c=>by rw[f k a V7 (λj o=>e j V7),if_pos (e k c)]) (λa=>by rw[f m a g e,if_neg (by rw[i];decide)]) 1000 V7
theorem MU {g:GR} {b:V6 (V6 Int)->Nat->V6 Int} {a:Nat} {y:yV} {l:V6 (Int×Int×Int)} {k:Nat} (c:k<l.length):perfs g b a y (l.take (k+1))=lA g b a (perfs g b a y (l.take k)) (evN (at' l (k:Int))):=by
 rw[show l.take (k+1)=l.take k++[at' l (k:Int)]from by first|exact(vO c).symm|exact vO c];unfold perfs;rw[List.foldl_append];rfl
section
variable {g:GR} {p:tC} {R:V6 RL} {cap:Nat} {y:yV}
theorem acs {S:Bq} {a:V6 xF} {c:V6 (V6 Int)} {v:Nat} (k:lV S.2.1 a) (l:V6 (Nat×E)):(∀s∈l,s.1<a.length)->∀b,GW S.2.1 a v b=true->GW S.2.1 a v (l.foldl (QG S a c v) b)=true:=by
 induction l with
 |nil=>exact λ_ b h=>h
 | cons s l ih =>
  intro f b h;rw[List.foldl_cons];refine ih (λx d=>f x (zAk _ d)) _ ?_;have m:=f s (zAe ..);obtain⟨i,j⟩:=z_.1 h;refine z_.2 ⟨by simp[QG,i],λx d=>?_⟩;unfold QG;rw[tE _ _ _ _ V7];by_cases e:x=s.1
  .subst e;rw[if_pos Z];exact XY k m v _
  .rw[if_neg e];exact j x d
theorem Qx (k:lV g p.2.1) (h:oP p.2.1.length R=true):
  ∀c:V6 (V6 Int),c.length=g.2.length->(∀x,x<g.2.length->GW g p.2.1 x (at' c (x:Int))=true)->∀v,v<g.2.length->GW g p.2.1 v (S_ (aV p g) p.2.1 R c v)=true:=λc m d v f=>by
 unfold S_;by_cases b:0<=jH (aV p g) R c v
 .rw[if_pos b];obtain⟨i,j,a,_⟩:=(Cu (aV p g) R c v).resolve_left (λe=>V7);rw[j];exact acs (S:=aV p g) k _ (λs l=>((QC h a).2.2 s l).1) _ (d v f)
 .rw[if_neg b];exact d v f
theorem VY.perf {f:V6 (V6 Int)->Nat->V6 Int} {d:V6 xF} (i:VG g) (h:VY g d cap y) {e:Nat×Nat×Nat} (j:agC g e) (k:∀c:V6 (V6 Int),c.length=g.2.length->(∀x,x<g.2.length->GW g d x (at' c (x:Int))=true)->∀v,v<g.2.length->GW g d v (f c v)=true):VY g d cap (lA g f cap y e):=by
 obtain⟨a,b,c⟩:=abT i h.sh h.all h.cp j k;exact⟨a,b,c⟩
theorem VY.perfs {nx:V6 (V6 Int)->Nat->V6 Int} {a:V6 xF} (b:VG g) (h:VY g a cap y) (d:∀c:V6 (V6 Int),c.length=g.2.length->(∀x,x<g.2.length->GW g a x (at' c (x:Int))=true)->∀v,v<g.2.length->GW g a v (nx c v)=true) (l:V6 (Int×Int×Int)):∀k,k<=l.length->(∀j,j<k->Ug g (at' l (j:Int))=true)->VY g a cap (Go.Proofs.YtgciopekomcbfaaGreatDoor.perfs g nx cap y (l.take k))
 |0,_,_=>h
 |k+1,hk,hb=>by
  rw[MU V7];exact(VY.perfs b h d l k V7 λj e=>hb j V7).perf b (ahO (hb k V7)) d
end
theorem PV {g:GR} {k v i:Int} (a:1<=k/\k<=4) (b:0<=v/\v<(g.2.length:Int)) (c:k=1\/(0<=i/\i<((at' g.2 v).length:Int))):Ug g (k,v,i)=true:=zAd ⟨a,b,c⟩
theorem abd {g:GR} {k:V4} {y:yV} {v i:Nat} (h:[]=nO y.2.2 (sF g v i) (DZ g v i)):zA g k y v i=y:=by unfold zA;rw[<-h]
theorem Yu {g:GR} {k:V4} {y:yV} {v i:Nat} {s:aW} {r:bE} (h:s::r=nO y.2.2 (sF g v i) (DZ g v i)):zA g k y v i=(y.1,if k=true then IL y.2.1 v i s else y.2.1,IL y.2.2 (sF g v i) (DZ g v i) r):=by unfold zA;rw[<-h]
theorem ahC (l:aW) (h:l.length<=900):uI 1000 l=some l:=by
 unfold uI;rw[cR Q1,List.nil_append]
abbrev agL:=Gd
abbrev Kj:yV:=([],[],[])
section
variable {g:GR} {p:tC} {R:V6 RL} {cap:Int} {y:yV} {l:V6 (Int×Int×Int)}
theorem aco (hV:VG g) (hp:lV g p.2.1) (hz:p.2.2.map tO=Dr R) (hR:oP p.2.1.length R=true) (hcap:1<=cap/\cap<=8) {A:agL} (hA1:A.1=tP g p.2.1) (hA2:A.2.1=eO g g.2.length) (hA3:A.2.2.2.1=fH g) (h:VY g p.2.1 cap.toNat y) {k:Nat} (hk:k<l.length) (hl:l.length<=900) (ag:Int×yV->Option (yV×Int)):
  gH 1000 p g cap l A ((k:Int),y) ag=if Ug g (at' l (k:Int))=true then ag (((k+1:Nat):Int),lA g (S_ (aV p g) p.2.1 R) cap.toNat y (evN (at' l (k:Int))))else some (Kj,2):=by
 have h24:=hV.n24;have hvl:=hp.len;have lc:=h.sh.c;have la:=h.sh.a.len;have lw:=h.sh.w.len;obtain⟨e,he⟩:∃e,at' l (k:Int)=e:=⟨_,rfl⟩
 obtain⟨ek,ev,ei⟩:=e;have bad:sB 1000 p g cap l A ((k:Int),y) ag true=some (Kj,2):=rfl;have bad8:zP 1000 g cap l ((k:Int),y) ag true=some (Kj,2):=rfl;unfold gH;simp only[he];rw[if_pos (by omega),cR (by omega),bad];by_cases k1:ek<1
 .rw[if_pos k1,if_neg (by unfold Ug;rw[zA1];rintro⟨h,-,-⟩;simp only at h;omega)]
 rw[if_neg k1];by_cases k2:4<ek
 .rw[if_pos k2,if_neg (by unfold Ug;rw[zA1];rintro⟨h,-,-⟩;simp only at h;omega)]
 rw[if_neg k2];by_cases k3:ev<0
 .rw[if_pos k3,if_neg (by unfold Ug;rw[zA1];rintro⟨-,h,-⟩;simp only at h;omega)]
 rw[if_neg k3];by_cases k4:(g.2.length:Int)<=ev
 .rw[zAd k4,bad,if_neg (by unfold Ug;rw[zA1];rintro⟨-,h,-⟩;simp only at h;omega)]
 rw[zA8 k4];obtain⟨v,rfl⟩:∃v:Nat,ev=(v:Int):=⟨ev.toNat,by omega⟩
 have hv:v<g.2.length:=by omega
 have hdeg:=(hV.node v hv).deg;have hrow:at' g.2 (v:Int)=row g v:=rfl;have rc:=h.rowc hv;have ra:=h.sh.a.row v hv;have rw':=h.sh.w.row v hv;have fin:∀c ca wi,nL ((k:Int),y) ag ((0:Int),c,wi,ca)=ag (((k+1:Nat):Int),c,ca,wi):=λc ca wi=>by
  unfold nL;rw[if_neg (by simp)];show ag (wI .i64 ((k:Int)+1),c,ca,wi)=_;rw[dC (by omega)]
 unfold sB;rw[if_neg (by decide)];simp only[he];by_cases hk1:ek=1
 .subst hk1;rw[if_pos Z,cR (by omega),cR (by omega),if_pos (PV ⟨by decide,by decide⟩ ⟨by omega,by omega⟩ (.inl Z))];have hev:evN ((1:Int),(v:Int),ei)=(1,v,ei.toNat):=rfl;rw[hev];have hvw:=Ra hV h.sh hv h.all;have hcw:=MZ hvw.1 hvw.2;refine(OZ (s:=zR 1000 p g l A ((k:Int),y) ag) (K:=zO 1000 p g l A ((k:Int),y) ag) hV h.sh hv (λi c ag2 hi hcl=>?_) (λc ag2 hcl=>?_)).trans ?_
  .have hto:=Ct hV hv hi;have hul:=(wT hV hv hi).ul;have hl1:at' (row g v) (i:Int)=iU (row g v) i:=rfl;unfold zR;simp only[he,hrow,hl1,hto];rw[if_pos (by omega),cR (by omega),cR (by omega),cR (by omega),cR (by omega),dC (by omega),zAf]
  .unfold zR;simp only[he,hrow];rw[if_neg (by omega)]
  .unfold zO EC;simp only[he,hA2,hA3,hA1];rw[bF (show dR 1000 _ (vw g y v) (v:Int)=_ from Lt hV hcw.shape hv hz hR (tP g p.2.1))];show(if 0<=jH (aV p g) R (vw g y v) v then _ else _)=ag (_,Sc g (S_ (aV p g) p.2.1 R) y v);unfold Sc S_;by_cases h0:0<=jH (aV p g) R (vw g y v) v
   .obtain⟨i,hi,hil,_⟩:=(Cu (aV p g) R (vw g y v) v).resolve_left (λe=>by omega);have hi':jH (p,g,eO g g.2.length,fH g) R (vw g y v) v=(i:Int):=hi;rw[if_pos h0,if_pos h0,hi,hi',bF (show iZ 1000 _ (vw g y v) (v:Int) (i:Int)=_ from Xb (gr:=eO g g.2.length) hV hp hcw.shape hv hz hR hil),cR (by omega),zAf];exact fin _ _ _
   .rw[if_neg h0,if_neg h0];refine(fin _ _ _).trans ?_;have e1:at' (vw g y v) (v:Int)=at' y.1 (v:Int):=XG hV h.sh hv _ (zAg _);rw[e1,TA y.1 (by omega)]
 rw[if_neg hk1];by_cases i1:ei<0
 .rw[if_pos i1,bad8,if_neg (by unfold Ug;rw[zA1];rintro⟨-,-,h⟩;simp only at h;omega)]
 rw[if_neg i1,cR (by omega),hrow];by_cases i2:((row g v).length:Int)<=ei
 .rw[zAd i2,bad8,if_neg (by unfold Ug;rw[zA1];rintro⟨-,-,h⟩;simp only[hrow]at h;omega)]
 rw[zA8 i2];obtain⟨i,rfl⟩:∃i:Nat,ei=(i:Int):=⟨ei.toNat,by omega⟩
 have hi:i<(row g v).length:=by omega
 rw[if_pos (PV (by omega) (by omega) (.inr (by rw[hrow];omega)))];have hev:evN (ek,(v:Int),(i:Int))=(ek.toNat,v,i):=rfl;rw[hev];have hwl:=h.cp v i hv hi;have e2:at' (at' y.2.2 (v:Int)) (i:Int)=nO y.2.2 v i:=rfl;unfold zP;rw[if_neg (by decide)];simp only[he,e2];by_cases hk2:ek=2
 .subst hk2;rw[if_pos Z,cR (by omega),cR (by omega)];show _=ag (_,Ea cap.toNat y v i);unfold Ea;by_cases hc:(nO y.2.2 v i).length<cap.toNat
  .rw[if_pos (show((nO y.2.2 v i).length:Int)<cap by omega),if_pos hc,cR (by omega),bF (ahC _ (by omega)),cR (by simp;omega),zAf,zAf];exact fin _ _ _
  .rw[if_neg (show¬((nO y.2.2 v i).length:Int)<cap by omega),if_neg hc];exact fin _ _ _
 rw[if_neg hk2];have hto:=Ct hV hv hi;have hpb:=wT hV hv hi;have hul:=hpb.ul;have hbl:=hpb.bl;have hdu:=(hV.node (sF g v i) hul).deg;have hwu:=h.sh.w.row (sF g v i) hul;have hl1:at' (row g v) (i:Int)=iU (row g v) i:=rfl;have e3:at' (at' y.2.2 ((sF g v i:Nat):Int)) ((DZ g v i:Nat):Int)=nO y.2.2 (sF g v i) (DZ g v i):=rfl;simp only[hrow,hl1,hto];rw[cR (by omega),cR (by omega),cR (by omega),bF (show jY 1000 _ ((sF g v i:Nat):Int) (v:Int)=_ from JK g _ _ hul (by omega)),aiq hV hv hi,cR (by omega)];simp only[e3];have hpf:lA g (S_ (aV p g) p.2.1 R) cap.toNat y (ek.toNat,v,i)=zA g (decide (ek=3)) y v i:=by
  unfold lA;rw[if_neg (show¬ek.toNat=1 by omega),if_neg (show¬ek.toNat=2 by omega)];show zA g (decide (ek.toNat=3)) y v i=_;by_cases q:ek=3
  .subst q;rfl
  .rw[zA8 q,zA8 (by omega)]
 rw[hpf];obtain⟨wl,hw⟩:∃wl,wl=nO y.2.2 (sF g v i) (DZ g v i):=⟨_,rfl⟩
 cases wl with
 |nil=>
  rw[if_pos (by rw[<-hw];rfl),abd hw];exact fin _ _ _
 | cons s r =>
  have hl:(nO y.2.2 (sF g v i) (DZ g v i)).length=r.length+1:=by rw[<-hw];rfl
  rw[if_neg (by omega),Yu hw];have k10:∀ca,zQ g l ((k:Int),y) ag (DZ g v i:Int) ca=ag (((k+1:Nat):Int),y.1,ca,IL y.2.2 (sF g v i) (DZ g v i) r):=λca=>by
   unfold zQ;simp only[he,hrow,hl1,hto,e3,<-hw];rw[cR (by simp;omega),zAf,zAf];exact fin _ _ _
  have hs:at' (nO y.2.2 (sF g v i) (DZ g v i)) 0=s:=by rw[<-hw];rfl
  by_cases q:ek=3
  .subst q;rw[if_pos Z,cR (by omega),cR (by omega),cR (by omega),k10,zAf,zAf,hs];rfl
  .rw[if_neg q,k10,zA8 q];rfl
end
def afC (g:GR) (b:V6 xF) (c:bE->Nat->aW) (a:Int) (y:yV) (l:Af):yV×Int:=
 if 1<=a/\a<=8 then(if YZ g b a y=true then(if Dn l.length (λk=>Ug g (at' l (k:Int)))=true then(perfs g c a.toNat y l,0)else(Kj,2))else(Kj,7))else(Kj,2)
section
variable {g:GR} {p:tC} {R:V6 RL} {cap:Int} {y:yV} {l:V6 (Int×Int×Int)}
theorem aat (c:VG g) (d:lV g p.2.1) (cap:Int) (y:yV):wQ 1000 p g cap y=some (if 1<=cap/\cap<=8 then(if YZ g p.2.1 cap y=true then 0 else 7)else 2):=by
 have e:uQ 1000 p g cap y false=some (if YZ g p.2.1 cap y=true then 0 else 7):=by
  unfold uQ;rw[if_neg Q2,bF (show qC 1000 _ _ _ _=_ from TU c d cap y)];cases YZ g p.2.1 cap y<;>rfl
 unfold wQ;rw[bF (show nQ 1000 _ _=some 0 from PX c d),if_neg Q2];by_cases a:cap<1
 .rw[if_pos a,Q0];rfl
 rw[if_neg a];by_cases b:8<cap
 .rw[zAd b,Q0];rfl
 rw[zA8 b,e,if_pos (show 1<=cap/\cap<=8 from V7)]
theorem acn (j:VG g) (q:lV g p.2.1) (t:p.2.2.map tO=Dr R) (i:oP p.2.1.length R=true) (a:1<=cap/\cap<=8) {A:agL} (c:A.1=tP g p.2.1) (d:A.2.1=eO g g.2.length) (e:A.2.2.2.1=fH g) (h:VY g p.2.1 cap.toNat y) (r:l.length<=900):
  bN (gH 1000 p g cap l A) 1000 ((0:Int),y)=some (if Dn l.length (λk=>Ug g (at' l (k:Int)))=true then(perfs g (S_ (aV p g) p.2.1 R) cap.toNat y l,0)else(Kj,2)):=by
 have:=Yv (step:=gH 1000 p g cap l A) (n:=l.length) (b:=λk=>Ug g (at' l (k:Int))) (λk=>((k:Int),perfs g (S_ (aV p g) p.2.1 R) cap.toNat y (l.take k))) (Z:=some (Kj,2)) (K:=some (perfs g (S_ (aV p g) p.2.1 R) cap.toNat y l,0)) (λk f o m=>by
  have s:=VY.perfs j h (Qx (R:=R) q i) l k V7 m;rw[aco j q t i a c d e s o r f,MU o]) (λm f=>by
  unfold gH BV;dsimp only;rw[Q0,List.take_length]) V7
 refine Eq.trans this ?_;split<;>rfl
theorem OG (e:VG g) (x:lV g p.2.1) {o:Nat} (A:o<=8) (h:VY g p.2.1 o y) (cap:Int):kZ 1000 p g cap y=some (tP g p.2.1,eO g g.2.length,y.1,fH g,y.2.1,y.2.2):=by
 have z:=e.n24;have s:=x.len;have F:=h.sh.a.len;have G:=h.sh.w.len;unfold kZ;rw[Q7];refine(UC (s1:=oO 1000 p g y) (s2:=yF 1000 g) (K:=oL 1000 p g y) e (λ_ _=>rfl) (λ_ _ _ _=>rfl)).trans ?_;unfold oL sE;rw[bF (show gZ 1000 _ _=_ from FZ e x)];unfold sC;rw[bF (Le y.1 (by rw[h.sh.c];omega) λv i=>by rw[h.rowc (by rw[<-h.sh.c];exact i)];omega)];refine(Sp (cp:=mF 1000) (s3:=kJ 1000 y (tP g p.2.1,eO g g.2.length,fH g) y.1) (s4:=λa d r=>oM 1000 y a d r) (K:=sD (tP g p.2.1,eO g g.2.length,fH g) y.1) e h A s (λc a b=>Le c a b) (λk n t d u f B=>?_) (λn t d=>?_) (λk j n t d r b m u f E D=>?_) (λk n t d r b m u f C=>?_)).trans ?_
 .unfold kJ;dsimp only;rw[Q3,Q7];refine congrArg (Option.bind _) (funext λr=>?_);rw[cR Q1,Q7]
 .unfold kJ;dsimp only;rw[Q0]
 .unfold oM;dsimp only;rw[Q3,Q7];refine congrArg (Option.bind _) (funext λq=>?_);have:j<1000000:=by
   have i:k<g.2.length:=V7
   have:=h.sh.w.row k i;have:=(e.node k i).deg;omega
  rw[cR Q1,dC this]
 .unfold oM yD;dsimp only;rw[Q0,cR Q1,Q8]
 .rfl
theorem aix (b:VG g) (c:lV g p.2.1) (i:p.2.2.map tO=Dr R) (d:oP p.2.1.length R=true) (cap:Int) (y:yV) (e:l.length<=900):yR 1000 p g cap y l=some (afC g p.2.1 (S_ (aV p g) p.2.1 R) cap y l):=by
 unfold yR afC;rw[bF (show wQ 1000 _ _ _ _=_ from aat b c cap y)];by_cases a:1<=cap/\cap<=8
 rotate_left
 .rw[if_neg a,if_neg a];rfl
 rw[if_pos a,if_pos a];cases f:YZ g p.2.1 cap y
 .rfl
 obtain⟨_,h⟩:=Lw.1 f;rw[if_pos Z,if_neg Q2,Q0,if_pos Z,bF (show kZ 1000 _ _ _ _=_ from OG b c V7 h cap)];exact acn b c i d a Z Z Z h e
def enR (S:Bq) (g:GR) (R:V6 RL) (y:yV):Nat:=tI (λv=>decide (0<=jH S R (vw g y v) v)) g.2.length
end
theorem adH (p q:aW) (h:p.length=q.length):Dn p.length (λk=>decide (at' p (k:Int)=at' q (k:Int)))=decide (p=q):=by
 by_cases e:p=q
 .subst e;rw[zAd Z];exact pS.2 λk _=>zAd Z
 .rw[zA8 e];cases c:Dn p.length (λk=>decide (at' p (k:Int)=at' q (k:Int)))
  .rfl
  .refine absurd (List.ext_getElem h λk a b=>?_) e;have:=zB5 (pS.1 c k a);rwa[gK a,gK b]at this
theorem eqL (p q:aW) (h:q.length<900):uJ 1000 p q=some (decide (p=q)):=by
 unfold uJ;by_cases a:p.length=q.length
 .rw[Q0,<-adH p q a,<-ifB];refine zB (λk b c=>?_) (λb=>?_) V7
  .unfold xV;rw[Q3,Q7,Q7,Q8];by_cases e:at' p (k:Int)=at' q (k:Int)
   .rw[if_neg (λh=>h e),zAd e,if_pos Z]
   .rw[if_pos e,zA8 e,if_neg Q2]
  .unfold xV xU;rw[Q0]
 .rw[Q3,zA8 (λe=>a (by rw[e]))]
def kwB (g:GR) (y:yV) (v i:Nat):Bool:=decide (nO y.2.1 v i=at' y.1 (sF g v i:Int))&&Dn (nO y.2.2 v i).length λk=>decide (at' (nO y.2.2 v i) (k:Int)=at' y.1 (v:Int))
def knB (g:GR) (y:yV):V4:=Dn g.2.length λv=>Dn (row g v).length (kwB g y v)
section
variable {g:GR} {p:tC} {R:V6 RL} {y:yV}
theorem QI (hV:VG g) (hp:lV g p.2.1) (hz:p.2.2.map tO=Dr R) (hR:oP p.2.1.length R=true) {A:agL} (hA1:A.1=tP g p.2.1) (hA2:A.2.1=eO g g.2.length) (hA3:A.2.2.2.1=fH g) (hA4:A.2.2.1=y.1) (hA5:A.2.2.2.2.1=y.2.1) {cp:Nat} (h:VY g p.2.1 cp y):
  bN (iB 1000 p g A) 1000 ((0:Int),(0:Int))=some (decide (((enR (aV p g) g R y:Nat):Int)=0)):=by
 have h24:=hV.n24;have hvl:=hp.len;have lc:=h.sh.c;have la:=h.sh.a.len;let q:Nat->Bool:=λv=>decide (0<=jH (aV p g) R (vw g y v) v);refine dZ (step:=iB 1000 p g A) (K:=some (decide (((tI q g.2.length:Nat):Int)=0))) g.2.length (λk=>(((tI q k:Nat):Int),(k:Int))) (λv ag hv=>?_) (λag=>?_) 1000 (by omega)
 rotate_left
 .unfold iB vJ vH;dsimp only;rw[if_neg (by omega)]
 have hdeg:=(hV.node v hv).deg;have hrow:at' g.2 (v:Int)=row g v:=rfl;have ra:=h.sh.a.row v hv;have hm:=Qq q (k:=v) (by omega);have hvw:=Ra hV h.sh hv h.all;have hcw:=MZ hvw.1 hvw.2;unfold iB;simp only[hA4];rw[if_pos (by omega),cR (by omega),cR (by omega)];refine(OZ (s:=rH 1000 p g A (((tI q v:Nat):Int),(v:Int)) ag) (K:=rC 1000 p g A (((tI q v:Nat):Int),(v:Int)) ag) hV h.sh hv (λi c ag2 hi hcl=>?_) (λc ag2 hcl=>?_)).trans ?_
 .have hto:=Ct hV hv hi;have hul:=(wT hV hv hi).ul;have hl1:at' (row g v) (i:Int)=iU (row g v) i:=rfl;unfold rH;simp only[hrow,hl1,hto,hA5];rw[if_pos (by omega),cR (by omega),cR (by omega),cR (by omega),cR (by omega),dC (by omega),zAf]
 .unfold rH;simp only[hrow];rw[if_neg (by omega)]
 .unfold rC AD rB;simp only[hA2,hA3,hA1];rw[bF (show dR 1000 _ (vw g y v) (v:Int)=_ from Lt hV hcw.shape hv hz hR (tP g p.2.1)),dC (by omega)];show(if 0<=jH (aV p g) R (vw g y v) v then _ else _)=_;cases hq:q v with
  |true=>
   rw[if_pos (zB5 hq),cR (by omega),L_ hm (by omega)];simp only[tI,hq,if_true]
  |false=>
   rw[if_neg (of_decide_eq_false hq)];simp only[tI,hq];rfl
theorem Vy (hV:VG g) (hp:lV g p.2.1) (hz:p.2.2.map tO=Dr R) (hR:oP p.2.1.length R=true) (h:VY g p.2.1 8 y):vG 1000 p g y ()=some (decide (((enR (aV p g) g R y:Nat):Int)=0)):=by
 unfold vG;rw[bF (show kZ 1000 _ _ _ _=_ from OG hV hp (by omega) h 8)];exact QI hV hp hz hR Z Z Z Z Z h
theorem Vz (hV:VG g) (hp:lV g p.2.1) (hz:p.2.2.map tO=Dr R) (hR:oP p.2.1.length R=true) (y:yV):pH 1000 p g y=some (YZ g p.2.1 8 y&&(knB g y&&decide (((enR (aV p g) g R y:Nat):Int)=0))):=by
 have h24:=hV.n24;have hvl:=hp.len;unfold pH;rw[bF (show qC 1000 _ _ _ _=_ from TU hV hp 8 y)];cases hy:YZ g p.2.1 8 y
 .rfl
 obtain⟨_,h⟩:=Lw.1 hy;have lc:=h.sh.c;have la:=h.sh.a.len;have lw:=h.sh.w.len;rw[if_neg (by decide),zB9];have key:bN (fR 1000 p g y) 1000 0=if knB g y=true then some (decide (((enR (aV p g) g R y:Nat):Int)=0))else some false:=by
  refine zB (λv ag hv=>?_) (λag=>?_) (by omega)
  rotate_left
  .unfold fR;rw[if_neg (by omega)];exact Vy hV hp hz hR h
  have hdeg:=(hV.node v hv).deg;have hrow:at' g.2 (v:Int)=row g v:=rfl;have rc:=h.rowc hv;have ra:=h.sh.a.row v hv;have rw':=h.sh.w.row v hv;unfold fR;rw[if_pos (by omega),cR (by omega)];refine zB (λi ag2 hi=>?_) (λag2=>?_) (by omega)
  rotate_left
  .unfold jJ vK;rw[hrow,if_neg (by omega),dC (by omega)]
  have hto:=Ct hV hv hi;have hul:=(wT hV hv hi).ul;have rcu:=h.rowc hul;have hwl:=h.cp v i hv hi;have hl1:at' (row g v) (i:Int)=iU (row g v) i:=rfl;have e1:at' (at' y.2.1 (v:Int)) (i:Int)=nO y.2.1 v i:=rfl;have e2:at' (at' y.2.2 (v:Int)) (i:Int)=nO y.2.2 v i:=rfl;unfold jJ kwB;rw[hrow,if_pos (by omega),cR (by omega),cR (by omega),cR (by omega),hl1,hto,cR (by omega),e1,bF (eqL _ _ (by omega))];cases decide (nO y.2.1 v i=at' y.1 (sF g v i:Int))
  .rfl
  rw[if_neg (by decide),cR (by omega),cR (by omega),zB9];refine Eq.trans (b:=if Dn (nO y.2.2 v i).length (λk=>decide (at' (nO y.2.2 v i) (k:Int)=at' y.1 (v:Int)))=true then pX (i:Int) ag2 ()else some false) (zB (λk ag3 hk=>?_) (λag3=>?_) (by omega)) ?_
  .unfold vL zI;rw[e2,if_pos (by omega),cR (by omega)];dsimp only;rw[cR (by omega),bF (eqL _ _ (by omega)),bF Z];cases decide (at' (nO y.2.2 v i) (k:Int)=at' y.1 (v:Int))
   .rw[if_pos (by decide),if_neg (by decide)];unfold mV rE rD;rw[if_pos (by rw[zA1];omega)]
   .rw[if_neg (by decide),if_pos (by decide),dC (by omega)]
  .unfold vL;rw[e2,if_neg (by omega)]
  .unfold pX mV rE rD;rw[if_neg (show¬decide ((0:Int) <= -1)=true by decide),dC (by omega)]
 rw[key];cases knB g y<;>rfl
end
theorem MQ {S:Bq} {vars:V6 xF} {R:V6 RL} {c:bE} {v:Nat} (a:v<S.2.1.2.length) (b:c.length=S.2.1.2.length):at' (jR S vars R c (KI S R c)) (v:Int)=S_ S vars R c v:=by
 rw[FK V7,Gt,zAd a,zB9];unfold S_;by_cases h:0<=jH S R c v
 .rw[if_pos (zAd h),if_pos h]
 .rw[if_neg (by simpa using h),if_neg h]
structure HW (g:GR) (vars:List xF) (nx:bE->Nat->aW) (P:Nat->Nat->aW->Prop):Prop where
 start:∀v s,v<g.2.length->GW g vars v s=true->P 0 v s
 ok:∀k v s,v<g.2.length->P k v s->GW g vars v s=true
 down:∀k v s,v<g.2.length->P (k+1) v s->P k v s
 next:∀k c,c.length=g.2.length->(∀x,x<g.2.length->P k x (at' c (x:Int)))->∀v,v<g.2.length->P (k+1) v (nx c v)
structure RP (g:GR) (cap:Nat) (P:Nat->Nat->aW->Prop) (k:Nat) (y:yV):Prop where
 sh:SH g y
 all:Cc g (P k) y
 cp:VS g cap y
def evZ (e:Nat×Nat×Nat):Int×Int×Int:=((e.1:Int),(e.2.1:Int),(e.2.2:Int))
def AG (g:GR) (cap:Nat):Af:=(JW g cap).map evZ
theorem afr (g:GR) (nx:bE->Nat->aW) (a:Nat) (y:yV) (l:V6 (Nat×Nat×Nat)):perfs g nx a y (l.map evZ)=l.foldl (lA g nx a) y:=by unfold perfs;rw[List.foldl_map];rfl
theorem aar {g:GR} {a:Nat} {y:yV} (h:Rh g y):VS g a y:=λv i c b=>by rw[h.w v i c b];exact Nat.zero_le _
section
variable {g:GR} {vars:V6 xF} {nx:V6 (V6 Int)->Nat->V6 Int} {P:Nat->Nat->V6 Int->Prop} {cap k:Nat} {y:yV}
theorem HW.sweep (C:HW g vars nx P) (e:VG g) (h:RP g cap P k y) (d:1<=cap):RP g cap P (k+1) (perfs g nx cap y (AG g cap))/\Rh g (perfs g nx cap y (AG g cap)):=by
 unfold AG;rw[afr];obtain⟨a,b,c⟩:=acA (nx:=nx) (P':=P (k+1)) e h.sh h.all h.cp d (λv s f=>C.down k v s f) (C.next k);exact⟨⟨a,b,aar c⟩,c⟩
theorem HW.vy (C:HW g vars nx P) (a:VG g) (h:RP g cap P k y):VY g vars cap y:=⟨h.sh,h.all.mono (λv s b=>C.ok k v s b) a,h.cp⟩
theorem HW.begin (C:HW g vars nx P) (a:VG g) (h:VY g vars cap y):RP g cap P 0 y:=⟨h.sh,h.all.mono (λv s b=>C.start v s b) a,h.cp⟩
end
theorem VY.up {g:GR} {c:V6 xF} {a b:Nat} {y:yV} (h:VY g c a y) (d:a<=b):VY g c b y:=⟨h.sh,h.all,λv i f e=>zB4 (h.cp v i f e) d⟩
theorem afD {g:GR} {a:V6 xF} {c:V6 (V6 Int)->Nat->V6 Int} {cap:Nat} {y:yV} {l:V6 (Int×Int×Int)} (f:1<=cap) (i:cap<=8) (h:VY g a cap y) (d:∀e∈l,Ug g e=true):afC g a c (cap:Int) y l=(perfs g c cap y l,0):=by
 unfold afC;rw[Q3,if_pos (Lw.2 ⟨V7,by rw[zAf];exact h⟩),if_pos (pS.2 λk b=>d _ (by rw[gK b];exact List.getElem_mem b)),zAf]
theorem aaG {g:GR} {p:tC} {R:V6 RL} {y:yV} (c:VG g) (h:SH g y) (d:Rh g y):enR (aV p g) g R y=KI (aV p g) R y.1:=by
 unfold enR KI;refine Kw λv b=>?_;have:vw g y v=y.1:=TX c h b (λj e=>d.a v j b e) _ (zAg _);rw[this]
theorem abn {g:GR} {y:yV} (hc:Rh g y):knB g y=true:=by
 unfold knB;refine pS.2 λv hv=>pS.2 λi hi=>?_;unfold kwB;rw[hc.a v i hv hi,hc.w v i hv hi,zAd Z];rfl
theorem VA {g:GR} {a:V6 xF} {cap:Nat} {p:tC} {R:V6 RL} {y:yV} (f:VG g) (e:cap<=8) (h:VY g a cap y) (c:Rh g y) (k:∀v,v<g.2.length->¬0<=jH (aV p g) R y.1 v):(YZ g a 8 y&&(knB g y&&decide (((enR (aV p g) g R y:Nat):Int)=0)))=true:=by
 have b:YZ g a 8 y=true:=Lw.2 ⟨V7,h.up (by show cap<=8;exact e)⟩;have j:enR (aV p g) g R y=0:=by
  rw[aaG f h.sh c];refine zBj λi=>?_;rw[Gt,Nat.zero_testBit];by_cases d:i<g.2.length
  .rw[zA8 (k i d),Bool.and_false]
  .rw[zA8 (show¬i<(aV p g).2.1.2.length from d),Bool.false_and]
 rw[b,abn c,j];rfl
theorem Ks (x:Int) (l:aW):jP (x::l)=if nz x=true then 0 else if jP l<0 then -1 else jP l+1:=by
 unfold jP;rw[List.findIdx?_cons];cases h:nz x with
 |true=>simp
 |false=>
  cases a:l.findIdx? nz with
  |none=>simp
  |some i=>simp<;>omega
def Lk (g:GR) (v i u:Nat) (w:Int):Prop:=i<(row g v).length/\u<g.2.length/\(iU (row g v) i).1=(u:Int)/\(iU (row g v) i).2=w
theorem VG.lk {g:GR} (c:VG g) {v i:Nat} (e:v<g.2.length) (b:i<(row g v).length):∃u w,Lk g v i u w:=by
 obtain⟨u,d,a,_⟩:=c.port e b;exact⟨u,_,b,d,a,rfl⟩
inductive Wv (g:GR) (F:Int->Int->Int):Nat->Int->Prop
 |zero:Wv g F 0 0
 |link {u v i:Nat} {y w:Int} (h:Wv g F u y) (hv:v<g.2.length) (hl:Lk g v i u w):Wv g F v (F y w)
structure Cd (g:GR) (F:Int->Int->Int) (L:Int):Prop where
 L1:1<=L
 mono:∀y y' w,y<=y'->F y w<=F y' w
 up:∀v i u w y,v<g.2.length->Lk g v i u w->0<=y->y+L<=F y w
 reach:∀v,v<g.2.length->∃y,Wv g F v y
noncomputable def vV (g:GR) (F:Int->Int->Int) (v:Nat):Int:=open Classical in if h:∃y,Wv g F v y/\∀z,Wv g F v z->y<=z then Classical.choose h else 0
section
variable {g:GR} {F:Int->Int->Int} {L:Int}
theorem Wv.nonneg (a:Cd g F L) {v:Nat} {y:Int} (h:Wv g F v y):0<=y:=by
 induction h with
 |zero=>exact Int.le_refl 0
 |link h c b d=>
  have:=a.up _ _ _ _ _ c b d;have:=a.L1;omega
theorem Cp (d:Cd g F L) {v:Nat} (i:v<g.2.length):Wv g F v (vV g F v)/\∀z,Wv g F v z->vV g F v<=z:=by
 have e:∃y,Wv g F v y/\∀z,Wv g F v z->y<=z:=by
  obtain⟨y,b⟩:=d.reach v i;have c:∀n:Nat,∀y,y.toNat=n->Wv g F v y->∃y,Wv g F v y/\∀z,Wv g F v z->y<=z:=by
   intro n
   induction n using Nat.strongRecOn with
   | _ n ih =>
    intro y k b;by_cases h:∃z,Wv g F v z/\z<y
    .obtain⟨z,a,f⟩:=h;have j:=a.nonneg d;exact ih z.toNat V7 z Z a
    .exact⟨y,b,λz a=>Int.not_lt.1 λq=>h ⟨z,a,q⟩⟩
  exact c _ y Z b
 unfold vV;rw[dif_pos e];exact Classical.choose_spec e
theorem MG (c:Cd g F L) (d:0<g.2.length):vV g F 0=0:=by
 obtain⟨a,b⟩:=Cp c d;have:=b 0 .zero;have:=a.nonneg c;omega
theorem Co (a:Cd g F L) {v:Nat} (b:v<g.2.length):0<=vV g F v:=(Cp a b).1.nonneg a
theorem abx (a:Cd g F L) {v i u:Nat} {w:Int} (c:v<g.2.length) (b:Lk g v i u w):vV g F v<=F (vV g F u) w:=
 (Cp a c).2 _ (.link (Cp a b.2.1).1 c b)
theorem Lq (e:Cd g F L) {v:Nat} (f:v<g.2.length) (j:v≠0):∃i u w,Lk g v i u w/\vV g F v=F (vV g F u) w/\vV g F u+L<=vV g F v:=by
 have h:=(Cp e f).1;generalize k:vV g F v=y at h;cases h with
 |zero=>exact absurd Z j
 | @link u _ i y w hu hv' hl=>
  have a:=(Cp e hl.2.1).2 _ hu;have b:=e.mono _ _ w a;have c:=abx e f hl;have d:=e.up _ _ _ _ _ f hl (Co e hl.2.1);exact⟨i,u,w,hl,V7,V7⟩
def Dd (f:Nat->Int) (x:Int):Nat->Nat
 |0=>0
 |n+1=>Dd f x n+if f n<x then 1 else 0
theorem Tn {f:Nat->Int} {x:Int}:∀n,Dd f x n<=n
 |0=>zAg 0
 |n+1=>by
  have:=Tn (f:=f) (x:=x) n;unfold Dd;split<;>omega
theorem MX {f:Nat->Int} {x y:Int} (h:x<=y):∀n,Dd f x n<=Dd f y n
 |0=>zAg 0
 |n+1=>by
  have:=MX (f:=f) h n;unfold Dd;split<;>split<;>omega
theorem To {f:Nat->Int} {x y:Int} (h:x<=y) {u:Nat} (a:f u<y) (b:¬f u<x):∀{n},u<n->Dd f x n<Dd f y n
 | n + 1, hu =>by
  have c:=MX (f:=f) h n;unfold Dd;by_cases e:u=n
  .subst e;rw[if_pos a,if_neg b];omega
  .have:=To h a b (n:=n) V7;split<;>split<;>omega
theorem MY {f:Nat->Int} {v:Nat}:∀{n},v<n->Dd f (f v) n<n
 | n + 1, hv =>by
  have:=Tn (f:=f) (x:=f v) n;unfold Dd;by_cases e:v=n
  .subst e;rw[if_neg (Int.lt_irrefl _)];omega
  .have:=MY (f:=f) (v:=v) (n:=n) V7;split<;>omega
noncomputable def rk (g:GR) (F:Int->Int->Int) (v:Nat):Nat:=Dd (vV g F) (vV g F v) g.2.length
theorem akc {v:Nat} (a:v<g.2.length):rk g F v<g.2.length:=MY a
theorem ach (a:Cd g F L) {u v:Nat} (b:u<g.2.length) (h:vV g F u+L<=vV g F v):rk g F u<rk g F v:=by
 have:=a.L1;exact To V7 (u:=u) V7 V7 b
theorem afx (b:Cd g F L) {v:Nat} (e:v<g.2.length) (h:rk g F v=0):v=0:=by
 refine Decidable.byContradiction λc=>?_;obtain⟨i,u,w,d,_,a⟩:=Lq b e c;have:=ach b d.2.1 a;omega
theorem JD (a:Cd g F L) {b:Nat->Int} (c:0<=b 0) (d:∀v i u w k,v<g.2.length->Lk g v i u w->∀y,y<=b k->F y w<=b (k+1)) (j:∀k,b k<=b (k+1)):∀k v,v<g.2.length->rk g F v<=k->vV g F v<=b k
 |0,v,hv,h=>by
  obtain rfl:=afx a hv V7;rw[MG a hv];exact c
 | k + 1, v, hv, h =>by
  by_cases m:v=0
  .have:=JD a c d j k 0 V7 (by
    have:rk g F 0=0:=by
     refine Decidable.byContradiction λq=>?_;have p:=MG a (show 0<g.2.length by omega);have l:∀n,n<=g.2.length->Dd (vV g F) (vV g F 0) n=0:=by
      intro n
      induction n with
      |zero=>intro _;rfl
      |succ n r=>
       intro t;unfold Dd;rw[r V7,if_neg (by rw[p];have:=Co a (show n<g.2.length by omega);omega)]
     exact q (l _ (zAg _))
    omega)
   subst m;have:=j k;omega
  .obtain⟨i,u,w,e,o,f⟩:=Lq a hv m;have s:=ach a e.2.1 f;have:=JD a c d j k u e.2.1 V7;rw[o];exact d v i u w k hv e _ this
def Nv (g:GR) (F:Int->Int->Int) (d:Nat->Int) (x:Int):Prop:=∀v,v<g.2.length->min (d v) x=min (vV g F v) x
theorem Nv.eq {d:Nat->Int} {x:Int} (h:Nv g F d x) {v:Nat} (a:v<g.2.length) (b:d v<x\/vV g F v<x):d v=vV g F v:=by
 have:=h v a;omega
structure Zp (g:GR) (F:Int->Int->Int) (d:Nat->Int) (N:Int) (v:Nat) (X:Int):Prop where
 cap:X<=N
 le:∀i u w,Lk g v i u w->X<=F (d u) w
 eq:X=N\/∃i u w,Lk g v i u w/\X=F (d u) w
theorem Mb (j:Cd g F L) {d c:Nat->Int} {N:Int} {r:Nat} (k:Nv g F d ((r:Int)*L)) (p:∀v,v<g.2.length->0<=d v) (n:c 0=0) (o:∀v,v<g.2.length->vV g F v<=N) (s:∀v,v<g.2.length->v≠0->Zp g F d N v (c v)):Nv g F c (((r+1:Nat):Int)*L):=by
 intro v f;have C:=j.L1;have y:((r+1:Nat):Int)*L=(r:Int)*L+L:=by push_cast;rw[Int.add_mul,Int.one_mul]
 rw[y];generalize (r:Int)*L=x at k;by_cases b:v=0
 .subst b;rw[n,MG j f]
 .obtain⟨B,l,m⟩:=s v f b;obtain⟨i,u,w,a,D,q⟩:=Lq j f b;have z:vV g F v<x+L->c v<=vV g F v:=λh=>by
   have e:=k.eq a.2.1 (.inr V7);have:=l i u w a;rw[e]at this;omega
  have A:vV g F v<=c v\/x+L<=c v:=by
   rcases m with e|⟨i,u,w,a,e⟩
   .left;rw[e];exact o v f
   .by_cases t:d u<x
    .left;rw[e,k.eq a.2.1 (.inl t)];exact abx j f a
    .right;rw[e];have:=j.up v i u w (d u) f a (p u a.2.1);omega
  omega
theorem Tf (b:Cd g F L) {d:Nat->Int} {x:Int} (c:Nv g F d x) (f:∀v,v<g.2.length->0<=d v) {v i u:Nat} {w:Int} (e:v<g.2.length) (a:Lk g v i u w) (l:vV g F v<x+L):F (d u) w=vV g F v↔F (vV g F u) w=vV g F v:=by
 have j:=b.up v i u w (d u) e a (f u a.2.1);have k:=b.up v i u w (vV g F u) e a (Co b a.2.1);constructor
 .intro h;rw[<-c.eq a.2.1 (.inl V7)];exact h
 .intro h;rw[c.eq a.2.1 (.inr V7)];exact h
end
def Yp:E:= .bi 41 (.lf 10 0) (.bi 42 (.bi 36 (.lf 5 0) (.lf 1 0)) (.bi 36 (.lf 5 1) (.lf 4 0)))
def Yo (eX eY:E):E:= .bi 41 (.un 19 (.lf 10 0)) (.bi 42 (.bi 36 (.lf 5 0) eX) (.bi 36 (.lf 5 1) eY))
def RY (eX eY:E):V6 RL:=[(Yp,[(0,.lf 1 0),(1,.lf 4 0)]),(Yo eX eY,[(0,eX),(1,eY)])]
def Ti (c:bE) (v:Nat):Int:=at' (at' c (v:Int)) 1
theorem Ax (b:V4):xG b≠0↔b=true:=by cases b<;>simp[xG]
theorem agX (b:V4):xG b=0↔b=false:=by cases b<;>simp[xG]
section
variable {p:tC} {g:GR} {c:V6 (V6 Int)} {v:Nat} {eX eY:E} {vars:V6 xF}
def TY (p:tC) (g:GR) (c:V6 (V6 Int)) (v:Nat) (eX eY:E):Int×Int:=if v=0 then(0,-1)else(fV (aV p g) c v eX,fV (aV p g) c v eY)
theorem aaX:fV (aV p g) c v Yp≠0↔v=0/\(Bt c v≠0\/Ti c v ≠ -1):=by
 have e:fV (aV p g) c v Yp=xG (decide (xG (decide ((v:Int)=0))≠0)&&decide (xG (decide (xG (decide (Bt c v≠0))≠0)||decide (xG (decide (Ti c v ≠ -1))≠0))≠0)):=rfl;rw[e,Ax,zA4,zA1,zA1,Ax,Ax,zAx,zA1,zA1,zA1,Ax,Ax,zA1,zA1];constructor
 .rintro⟨a,b⟩;exact⟨V7,b⟩
 .rintro⟨a,b⟩;exact⟨V7,b⟩
theorem aaW:fV (aV p g) c v (Yo eX eY)≠0↔v≠0/\(Bt c v≠fV (aV p g) c v eX\/Ti c v≠fV (aV p g) c v eY):=by
 have e:fV (aV p g) c v (Yo eX eY)=xG (decide (xG (decide (xG (decide ((v:Int)=0))=0))≠0)&&decide (xG (decide (xG (decide (Bt c v≠fV (aV p g) c v eX))≠0)||decide (xG (decide (Ti c v≠fV (aV p g) c v eY))≠0))≠0)):=rfl;rw[e,Ax,zA4,zA1,zA1,Ax,Ax,zAx,zA1,zA1,zA1,agX,Ax,Ax,zA1,zA1,decide_eq_false_iff_not];constructor
 .rintro⟨a,b⟩;exact⟨V7,b⟩
 .rintro⟨a,b⟩;exact⟨V7,b⟩
theorem agw:jH (aV p g) (RY eX eY) c v=if Bt c v=(TY p g c v eX eY).1/\Ti c v=(TY p g c v eX eY).2 then -1 else if v=0 then 0 else 1:=by
 have f:=aaX (p:=p) (g:=g) (c:=c) (v:=v);have h:=aaW (p:=p) (g:=g) (c:=c) (v:=v) (eX:=eX) (eY:=eY);unfold jH RY;simp only[zBd,List.map_nil];rw[Ks,Ks,show jP [] = -1 from rfl];have z:∀x:Int,nz x=true↔x≠0:=λx=>by simp[nz]
 unfold TY;by_cases b:v=0
 .rw[if_pos b,if_pos b];by_cases a:Bt c v=0/\Ti c v = -1
  .have d:¬nz (fV (aV p g) c v Yp)=true:=by rw[z,f];rintro⟨_,q|q⟩;exact q a.1;exact q a.2
   have e:¬nz (fV (aV p g) c v (Yo eX eY))=true:=by rw[z,h];exact λq=>q.1 b
   rw[if_pos a,if_neg d,if_neg e];rfl
  .have d:nz (fV (aV p g) c v Yp)=true:=by
    rw[z,f];exact⟨b,Classical.byContradiction λq=>a ⟨Classical.not_not.1 λw=>q (.inl w),Classical.not_not.1 λw=>q (.inr w)⟩⟩
   rw[if_neg a,if_pos d]
 .rw[if_neg b,if_neg b];have d:¬nz (fV (aV p g) c v Yp)=true:=by rw[z,f];exact λq=>b q.1
  by_cases a:Bt c v=fV (aV p g) c v eX/\Ti c v=fV (aV p g) c v eY
  .have e:¬nz (fV (aV p g) c v (Yo eX eY))=true:=by rw[z,h];rintro⟨_,q|q⟩;exact q a.1;exact q a.2
   rw[if_pos a,if_neg d,if_neg e];rfl
  .have e:nz (fV (aV p g) c v (Yo eX eY))=true:=by
    rw[z,h];exact⟨b,Classical.byContradiction λq=>a ⟨Classical.not_not.1 λw=>q (.inl w),Classical.not_not.1 λw=>q (.inr w)⟩⟩
   rw[if_neg a,if_neg d,if_pos e];rfl
theorem aiv (l:V6 Int) (h:l.length=2):∃a b,l=[a,b]:=by
 match l,h with
 | [a,b],_=>exact⟨a,b,rfl⟩
theorem Ik {k a b x:Int} (d:a<=x) (e:x<=b):qR k (a,b) x=x:=by unfold qR;rw[if_pos ⟨d,e⟩]
theorem aki (k:yI g 2 c) (l:v<g.2.length) (d:lo g (at' vars ((0:Nat):Int)) v<=(TY p g c v eX eY).1/\(TY p g c v eX eY).1<=hi g (at' vars ((0:Nat):Int)) v) (f:lo g (at' vars ((1:Nat):Int)) v<=(TY p g c v eX eY).2/\(TY p g c v eX eY).2<=hi g (at' vars ((1:Nat):Int)) v):
  at' (jR (aV p g) vars (RY eX eY) c (KI (aV p g) (RY eX eY) c)) (v:Int)=[(TY p g c v eX eY).1,(TY p g c v eX eY).2]:=by
 have o:=k.len;obtain⟨a,b,h⟩:=aiv _ (k.row v l);rw[FK V7,Gt,zAd (show v<(aV p g).2.1.2.length from l),zB9,agw];have m:Bt c v=a:=by unfold Bt;rw[h];rfl
 have n:Ti c v=b:=by unfold Ti;rw[h];rfl
 by_cases j:Bt c v=(TY p g c v eX eY).1/\Ti c v=(TY p g c v eX eY).2
 .rw[if_pos j,if_neg Q2,h,<-j.1,<-j.2,m,n]
 .rw[if_neg j];by_cases i:v=0
  .rw[if_pos i,if_pos Q2];show((at' c (v:Int)).set 0 (qR (at' vars ((0:Nat):Int)).2.1 (lo g (at' vars ((0:Nat):Int)) v,hi g (at' vars ((0:Nat):Int)) v) 0)).set 1 (qR (at' vars ((1:Nat):Int)).2.1 (lo g (at' vars ((1:Nat):Int)) v,hi g (at' vars ((1:Nat):Int)) v) (-1))=_;have e:TY p g c v eX eY=(0,-1):=if_pos i;rw[e]at d f ⊢;rw[Ik d.1 d.2,Ik f.1 f.2,h];rfl
  .rw[if_neg i,if_pos Q2];show((at' c (v:Int)).set 0 (qR (at' vars ((0:Nat):Int)).2.1 (lo g (at' vars ((0:Nat):Int)) v,hi g (at' vars ((0:Nat):Int)) v) (fV (aV p g) c v eX))).set 1 (qR (at' vars ((1:Nat):Int)).2.1 (lo g (at' vars ((1:Nat):Int)) v,hi g (at' vars ((1:Nat):Int)) v) (fV (aV p g) c v eY))=_;have e:TY p g c v eX eY=(fV (aV p g) c v eX,fV (aV p g) c v eY):=if_neg i;rw[e]at d f ⊢;rw[Ik d.1 d.2,Ik f.1 f.2,h];rfl
end
def FL (g:GR) (F:Int->Int->Int) (c:bE) (v:Nat):aW:=(List.range (row g v).length).map λi=>F (wF g c v i) (iU (row g v) i).2
noncomputable def LL (g:GR) (F:Int->Int->Int) (v:Nat):aW:=(List.range (row g v).length).map λi=>F (vV g F (iU (row g v) i).1.toNat) (iU (row g v) i).2
structure Ue (g:GR) (vars:List xF) (eX eY:E) (F:Int->Int->Int) (L N:Int):Prop where
 grow:Cd g F L
 cap:∀v,v<g.2.length->vV g F v<=N
 N0:0<=N/\N<1073741824
 len:vars.length=2
 ok:lV g vars
 lo0:∀v,lo g (at' vars ((0:Nat):Int)) v=0
 hi0:∀v,hi g (at' vars ((0:Nat):Int)) v=N
 lo1:∀v,lo g (at' vars ((1:Nat):Int)) v = -1
 hi1:∀v,hi g (at' vars ((1:Nat):Int)) v=((row g v).length:Int) - 1
 X:∀(p:tC) c v,CM g c vars->v<g.2.length->v≠0->fV (aV p g) c v eX=min N (vE (FL g F c v))
 Y:∀(p:tC) c v,CM g c vars->v<g.2.length->v≠0->fV (aV p g) c v eY=jP ((FL g F c v).map λy=>xG (decide (y=vE (FL g F c v))))
section
variable {p:tC} {g:GR} {vars:V6 xF} {eX eY:E} {F:Int->Int->Int} {L N:Int} {c:V6 (V6 Int)} {v:Nat}
theorem W_ (h:VG g) {v i u:Nat} {w:Int} (d:Lk g v i u w) (c:V6 (V6 Int)):wF g c v i=Bt c u/\(iU (row g v) i).2=w/\(iU (row g v) i).1.toNat=u:=by
 obtain⟨e,f,a,b⟩:=d;refine⟨?_,b,by rw[a];rfl⟩
 unfold wF Bt;rw[a]
theorem Zk (e:VG g) {i u:Nat} {w:Int} (d:Lk g v i u w):F (Bt c u) w∈FL g F c v:=by
 obtain⟨a,b,_⟩:=W_ e d c;exact zAs.2 ⟨i,zAi.2 d.1,by rw[a,b]⟩
theorem afU (d:VG g) (j:v<g.2.length) {y:Int} (h:y∈FL g F c v):∃i u w,Lk g v i u w/\y=F (Bt c u) w:=by
 obtain⟨i,f,rfl⟩:=zAs.1 h;obtain⟨u,w,e⟩:=d.lk j (zAi.1 f);obtain⟨a,b,_⟩:=W_ d e c;exact⟨i,u,w,e,by rw[a,b]⟩
theorem UQ (l:V6 Int) : -1<=jP l/\jP l<=(l.length:Int) - 1:=by
 unfold jP;cases h:l.findIdx? nz with
 |none=>simp;omega
 |some i=>
  have:=(List.findIdx?_eq_some_iff_getElem.1 h).1;simp;omega
theorem Mi (S:Ue g vars eX eY F L N) (a:CM g c vars) (b:v<g.2.length):0<=Bt c v/\Bt c v<=N:=by
 have:=a.ok v b 0 (by rw[S.len];omega);rw[S.lo0,S.hi0]at this;exact this
theorem af_ (S:Ue g vars eX eY F L N) (j:VG g) (h:CM g c vars) (f:v<g.2.length):(0<=(TY p g c v eX eY).1/\(TY p g c v eX eY).1<=N)/\(-1<=(TY p g c v eX eY).2/\(TY p g c v eX eY).2<=((row g v).length:Int) - 1):=by
 have m:=S.N0;unfold TY;by_cases b:v=0
 .rw[if_pos b];dsimp only;omega
 .rw[if_neg b];dsimp only;rw[S.X p c v h f b,S.Y p c v h f b];have n:0<=vE (FL g F c v):=by
   rcases Cr (FL g F c v)with e|e
   .rw[e];decide
   .obtain⟨i,u,w,d,l⟩:=afU j f e;have a:=Mi S h d.2.1;have:=S.grow.up v i u w (Bt c u) f d a.1;have:=S.grow.L1;omega
  have k:=UQ ((FL g F c v).map λy=>xG (decide (y=vE (FL g F c v))));have d:((FL g F c v).map λy=>xG (decide (y=vE (FL g F c v)))).length=(row g v).length:=by simp[FL]
  rw[d]at k;omega
theorem Xe (S:Ue g vars eX eY F L N) (e:VG g) (a:CM g c vars) (d:v<g.2.length):at' (jR (aV p g) vars (RY eX eY) c (KI (aV p g) (RY eX eY) c)) (v:Int)=[(TY p g c v eX eY).1,(TY p g c v eX eY).2]:=by
 have h:=af_ (p:=p) S e a d;have b:=a.shape;rw[S.len]at b;exact aki b d (by rw[S.lo0,S.hi0];exact h.1) (by rw[S.lo1,S.hi1];exact h.2)
theorem abJ (S:Ue g vars eX eY F L N) (d:VG g) (a:CM g c vars):CM g (jR (aV p g) vars (RY eX eY) c (KI (aV p g) (RY eX eY) c)) vars:=by
 have f:=a.len;refine⟨by rw[JU];exact f,λv b=>?_,λv b x i=>?_⟩
 .rw[Xe S d a b,S.len];rfl
 .have h:=af_ (p:=p) S d a b;rw[S.len]at i;have e:val (jR (aV p g) vars (RY eX eY) c (KI (aV p g) (RY eX eY) c)) v x=at' [(TY p g c v eX eY).1,(TY p g c v eX eY).2] (x:Int):=by
   show at' (at' _ (v:Int)) (x:Int)=_;rw[Xe S d a b]
  rw[e];rcases(show x=0\/x=1 by omega)with rfl|rfl
  .rw[S.lo0,S.hi0];exact h.1
  .rw[S.lo1,S.hi1];exact h.2
theorem Mj (S:Ue g vars eX eY F L N) (a:VG g) (b:CM g c vars) (d:v<g.2.length):Bt (jR (aV p g) vars (RY eX eY) c (KI (aV p g) (RY eX eY) c)) v=(TY p g c v eX eY).1/\Ti (jR (aV p g) vars (RY eX eY) c (KI (aV p g) (RY eX eY) c)) v=(TY p g c v eX eY).2:=by
 unfold Bt Ti;rw[Xe S a b d];exact⟨rfl,rfl⟩
theorem agp (S:Ue g vars eX eY F L N) (d:VG g) (j:CM g c vars) (f:v<g.2.length) (b:v≠0):Zp g F (Bt c) N v (TY p g c v eX eY).1:=by
 have e:(TY p g c v eX eY).1=min N (vE (FL g F c v)):=by
  unfold TY;rw[if_neg b];exact S.X p c v j f b
 have l:=S.N0;rw[e];refine⟨V7,λi u w a=>?_,?_⟩
 .have:=BU (Zk (F:=F) (c:=c) d a);omega
 .by_cases h:N<=vE (FL g F c v)
  .left;omega
  .right;rcases Cr (FL g F c v)with q|q
   .omega
   .obtain⟨i,u,w,a,k⟩:=afU d f q;exact⟨i,u,w,a,V7⟩
noncomputable def cS (p:tC) (g:GR) (vars:V6 xF) (R:V6 RL) (a:V6 (V6 Int)):Nat->V6 (V6 Int)
 |0=>a
 |k+1=>jR (aV p g) vars R (cS p g vars R a k) (KI (aV p g) R (cS p g vars R a k))
theorem WA (S:Ue g vars eX eY F L N) (f:VG g) {d:V6 (V6 Int)} (i:CM g d vars):∀r,CM g (cS p g vars (RY eX eY) d r) vars/\Nv g F (Bt (cS p g vars (RY eX eY) d r)) ((r:Int)*L)
 |0=>⟨i,λv e=>by
  have a:=Mi S i e;have b:=Co S.grow e;show min (Bt d v) (((0:Nat):Int)*L)=min (vV g F v) (((0:Nat):Int)*L);rw[show((0:Nat):Int)=0 from rfl,Int.zero_mul];omega⟩
 | r + 1 =>by
  obtain⟨h,k⟩:=WA S f i r;have l:=f.n1;refine⟨abJ S f h,Mb S.grow k (N:=N) (λv e=>(Mi S h e).1) ?_ S.cap λv e j=>?_⟩
  .have:=(Mj (p:=p) S f h (v:=0) V7).1;exact this.trans (by unfold TY;rw[if_pos Z])
  .have:=(Mj (p:=p) S f h e).1;show Zp g F (Bt (cS p g vars (RY eX eY) d r)) N v (Bt (jR (aV p g) vars (RY eX eY) (cS p g vars (RY eX eY) d r) (KI (aV p g) (RY eX eY) (cS p g vars (RY eX eY) d r))) v);rw[this];exact agp S f h e j
theorem afd {a:Type} [Inhabited a] (f:Nat->a) {n i:Nat} (h:i<n):at' ((List.range n).map f) (i:Int)=f i:=by
 rw[gK (by simpa using h)];simp
theorem JL (S:Ue g vars eX eY F L N) (n:VG g) {k:Nat} (m:CM g c vars) (o:Nv g F (Bt c) ((k:Int)*L)) (j:v<g.2.length) (l:vV g F v<((k+1:Nat):Int)*L) (f:(TY p g c v eX eY).1=vV g F v):
  (TY p g c v eX eY).2=if v=0 then -1 else jP ((LL g F v).map λy=>xG (decide (y=vV g F v))):=by
 by_cases e:v=0
 .unfold TY;rw[if_pos e,if_pos e]
 .unfold TY at f ⊢;rw[if_neg e]at f;rw[if_neg e,if_neg e];dsimp only at f ⊢;rw[S.X p c v m j e]at f;rw[S.Y p c v m j e];have x:((k+1:Nat):Int)*L=(k:Int)*L+L:=by push_cast;rw[Int.add_mul,Int.one_mul]
  rw[x]at l;have q:∀v,v<g.2.length->0<=Bt c v:=λv j=>(Mi S m j).1;have r:vE (FL g F c v)=vV g F v:=by
   obtain⟨i,u,w,h,s,_⟩:=Lq S.grow j e;have:=(Tf S.grow o q j h l).2 s.symm;have:=BU (Zk (F:=F) (c:=c) n h);omega
  rw[r];congr 1;unfold FL LL;rw[List.map_map,List.map_map];refine zBg λi t=>?_;obtain⟨u,w,h⟩:=n.lk j (zAi.1 t);obtain⟨a,b,d⟩:=W_ n h c;show xG (decide (F (wF g c v i) (iU (row g v) i).2=vV g F v))=xG (decide (F (vV g F (iU (row g v) i).1.toNat) (iU (row g v) i).2=vV g F v));rw[a,b,d,decide_eq_decide.2 (Tf S.grow o q j h l)]
theorem ahu (S:Ue g vars eX eY F L N) (e:VG g) {b:V6 (V6 Int)} (f:CM g b vars) {K:Nat} (o:1<=K) (i:∀v,v<g.2.length->vV g F v<(K:Int)*L) (d:v<g.2.length):
  Bt (cS p g vars (RY eX eY) b K) v=vV g F v/\Ti (cS p g vars (RY eX eY) b K) v=if v=0 then -1 else jP ((LL g F v).map λy=>xG (decide (y=vV g F v))):=by
 obtain⟨k,rfl⟩:∃k,K=k+1:=⟨K - 1,V7⟩
 have a:=(WA (p:=p) S e f (k+1)).2.eq d (.inr (i v d));obtain⟨h,n⟩:=WA (p:=p) S e f k;have j:=Mj (p:=p) S e h d;have l:Bt (cS p g vars (RY eX eY) b (k+1)) v=(TY p g (cS p g vars (RY eX eY) b k) v eX eY).1:=j.1;have m:Ti (cS p g vars (RY eX eY) b (k+1)) v=(TY p g (cS p g vars (RY eX eY) b k) v eX eY).2:=j.2;exact⟨a,by rw[m,JL S e h n d (i v d) (l.symm.trans a)]⟩
end
def aeE (a:E):E:= .ag 23 (.bi 35 a (.ag 24 a))
section
variable {p:tC} {g:GR} {c:V6 (V6 Int)} {v:Nat} {F:Int->Int->Int} {eF eN:E} {N:Int}
def agM (p:tC) (g:GR) (c:V6 (V6 Int)) (v:Nat) (eF:E) (F:Int->Int->Int):Prop:=∀i:Nat,i<(row g v).length->eF.den (KL (aV p g,c,(v:Int),[])) (row g v).length (i:Int)=F (wF g c v i) (iU (row g v) i).2
theorem YP (h:agM p g c v eF F):((List.range (row g v).length).map λq=>eF.den (KL (aV p g,c,(v:Int),[])) (row g v).length ((q:Nat):Int))=FL g F c v:=zBg λi a=>h i (zAi.1 a)
theorem aeF (h:agM p g c v eF F):fV (aV p g) c v (aeE eF)=jP ((FL g F c v).map λy=>xG (decide (y=vE (FL g F c v)))):=by
 have e:fV (aV p g) c v (aeE eF)=jP ((List.range (row g v).length).map λi=>xG (decide (eF.den (KL (aV p g,c,(v:Int),[])) (row g v).length ((i:Nat):Int)=vE ((List.range (row g v).length).map λq=>eF.den (KL (aV p g,c,(v:Int),[])) (row g v).length ((q:Nat):Int))))):=rfl;rw[e,YP h];congr 1;have:FL g F c v=(List.range (row g v).length).map λi=>F (wF g c v i) (iU (row g v) i).2:=rfl
 conv=>rhs;rw[this,List.map_map]
 refine zBg λi a=>?_;show _=xG (decide (F (wF g c v i) (iU (row g v) i).2=_));rw[h i (zAi.1 a)];rfl
end
theorem YO {x:Int} (a : -1000000<=x) (b:x<=1000000):NE (wI .i64 x)=x:=by
 rw[Q9];unfold NE;omega
theorem ace {g:GR} (a:VG g) (j:LA g) (F:Int->Int->Int):∀v,v<g.2.length->∃y,Wv g F v y:=by
 have e:∀k v,wL g 0 k v->∃y,Wv g F v y:=by
  intro k
  induction k with
  |zero=>rintro v ⟨rfl,_⟩;exact⟨0,.zero⟩
  |succ k o=>
   rintro v ⟨u,f,h⟩;obtain⟨y,n⟩:=o u f;have c:=wL.lt a f;have d:=a.adj_lt c h;obtain⟨i,l,b⟩:=a.back c h;exact⟨_,.link (u:=u) (v:=v) (i:=i) (w:=(iU (row g v) i).2) n d ⟨l,c,b,rfl⟩⟩
 intro v d;obtain⟨k,m⟩:=j 0 v (by have:=a.n1;omega) d;exact e k v m
def eBX:E:= .ite (.bi 37 (.ag 24 (.lf 12 0)) (.lf 6 0)) (.bi 33 (.ag 24 (.lf 12 0)) (.lf 1 1)) (.lf 6 0)
def eBY:E:=aeE (.lf 12 0)
def fB (y _w:Int):Int:=y+1
def RBf:V6 RL:=RY eBX eBY
theorem Xo:oP 2 RBf=true:=by decide +kernel
def HS (a b:ByteArray) (k:Int):V6 xF:=[(a,1,0,0,k,0),(b,3,0,0,0,0)]
theorem akq {g:GR} (e:VG g) (a b:ByteArray) {k:Int} (f:0<=k) (h:k<=16):lV g (HS a b k):=by
 have i:=e.n24;have l:=e.n1;have m:k*(g.2.length:Int)<=16*24:=Int.mul_le_mul h V7 V7 V7;have j:0<=k*(g.2.length:Int):=Int.mul_nonneg f V7;refine⟨by show 2<=20;omega,λx c=>?_,λx c=>?_,λx c d=>?_⟩
 .have c:x<2:=c;rcases(show x=0\/x=1 by omega)with rfl|rfl
  .show(-100000<=(0:Int)/\(0:Int)<=100000)/\(0<=k/\k<=100000)/\(0<=(0:Int)/\(0:Int)<=100000)
   omega
  .show(-100000<=(0:Int)/\(0:Int)<=100000)/\(0<=(0:Int)/\(0:Int)<=100000)/\(0<=(0:Int)/\(0:Int)<=100000)
   omega
 .have c:x<2:=c;rcases(show x=0\/x=1 by omega)with rfl|rfl
  .exact .inl Z
  .exact .inr (.inr Z)
 .have c:x<2:=c;rcases(show x=0\/x=1 by omega)with rfl|rfl
  .show -100000<=(0:Int)/\(0:Int)<=(0:Int)+k*(g.2.length:Int)+0*eO g g.1.length/\(0:Int)+k*(g.2.length:Int)+0*eO g g.1.length - 0+1<=4096;rw[Int.zero_mul];omega
  .exact absurd d (by show¬(3:Int)=1;decide)
theorem Ns (a b:ByteArray) {k:Int} (d:0<=k) (e:k<=16):∀x,x<(HS a b k).length->DK (at' (HS a b k) (x:Int)) /\ -100000<=(at' (HS a b k) (x:Int)).2.2.1/\(at' (HS a b k) (x:Int)).2.2.1<=(at' (HS a b k) (x:Int)).2.2.2.1:=λx c=>by
 have c:x<2:=c;rcases(show x=0\/x=1 by omega)with rfl|rfl
 .show((-100000<=(0:Int)/\(0:Int)<=100000)/\(0<=k/\k<=100000)/\(0<=(0:Int)/\(0:Int)<=100000)) /\ -100000<=(0:Int)/\(0:Int)<=0;omega
 .show((-100000<=(0:Int)/\(0:Int)<=100000)/\(0<=(0:Int)/\(0:Int)<=100000)/\(0<=(0:Int)/\(0:Int)<=100000)) /\ -100000<=(0:Int)/\(0:Int)<=0;omega
theorem ajB (g:GR) (a b:ByteArray) (k:Int) (v:Nat):hi g (at' (HS a b k) ((0:Nat):Int)) v=k*(g.2.length:Int):=by
 show(0:Int)+k*(g.2.length:Int)+0*eO g g.1.length=_;rw[Int.zero_mul];omega
theorem SV {g:GR} (d:VG g) {a b:ByteArray} {k:Int} {c:V6 (V6 Int)} (h:CM g c (HS a b k)) {v i:Nat} (l:v<g.2.length) (j:i<(row g v).length):0<=wF g c v i/\wF g c v i<=k*(g.2.length:Int):=by
 obtain⟨u,w,f⟩:=d.lk l j;obtain⟨e,_⟩:=W_ d f c;have:=h.ok u f.2.1 0 (by show 0<2;omega);rw[ajB]at this;rw[e];exact this
theorem akj {g:GR} (j:VG g) (I:LA g) (a b:ByteArray):Ue g (HS a b 1) eBX eBY fB 1 (1*(g.2.length:Int)):=by
 have H:=j.n24;have K:=j.n1;have F:Cd g fB 1:=⟨V7,λy N w h=>by unfold fB;omega,λv i u w y _ _ h=>by unfold fB;omega,ace j I fB⟩
 refine⟨F,λv m=>?_,V7,rfl,akq j a b V7 V7,λv=>rfl,ajB g a b 1,λv=>rfl,λv=>rfl,λp c v D m t=>?_,λp c v D m t=>?_⟩
 .have:=JD F (b:=λk=>(k:Int)) V8 (λv i u w k _ _ y s=>by unfold fB;push_cast;omega) (λk=>by push_cast;omega) g.2.length v m (Nat.le_of_lt (akc m));omega
 .have C:((List.range (row g v).length).map λq=>wF g c v q).map (· + 1)=FL g fB c v:=by rw[List.map_map];rfl
  have e:fV (aV p g) c v eBX=if xG (decide (vE ((List.range (row g v).length).map λq=>wF g c v q)<(g.1.length:Int)))≠0 then NE (wI .i64 (vE ((List.range (row g v).length).map λq=>wF g c v q)+1))else(g.1.length:Int):=rfl;rw[e,j.len,<-C];have d:∀x∈(List.range (row g v).length).map λq=>wF g c v q,0<=x/\x<=(g.2.length:Int):=λx n=>by
   obtain⟨i,f,rfl⟩:=zAs.1 n;have:=SV j D m (zAi.1 f);omega
  generalize (List.range (row g v).length).map (λq=>wF g c v q)=l at d ⊢;rcases Cr l with q|q
  .have J:l=[]\/∃x,x∈l:=by cases l with|nil=>exact .inl Z|cons x r=>exact .inr ⟨x,zAe⟩
   rcases J with rfl|⟨x,n⟩
   .have t:vE []=1073741824:=rfl;have A:vE (([]:V6 Int).map (· + 1))=1073741824:=rfl;rw[t,A,if_neg (by rw[Ax,zA1];omega)];omega
   .have:=BU n;have:=d x n;omega
  .have A:=d _ q;have B:vE (l.map (· + 1))=vE l+1:=by
    have G:=BU (zAs.2 ⟨_,q,rfl⟩:vE l+1∈l.map (· + 1));rcases Cr (l.map (· + 1))with z|z
    .omega
    .obtain⟨y,s,e⟩:=zAs.1 z;have:=BU s;omega
   rw[B];by_cases o:vE l<(g.2.length:Int)
   .rw[if_pos (by rw[Ax];exact zAd o),YO V7 V7];omega
   .rw[if_neg (by rw[Ax];simpa using o)];omega
 .have L:agM p g c v (.lf 12 0) (λy _=>y):=λi f=>rfl;have e:=aeF L;show fV (aV p g) c v (aeE (.lf 12 0))=_;rw[e];congr 1;unfold FL;rw[List.map_map,List.map_map];refine zBg λi f=>?_;have f:=zAi.1 f;show xG (decide (wF g c v i=vE ((List.range (row g v).length).map λi=>wF g c v i)))=xG (decide (wF g c v i+1=vE ((List.range (row g v).length).map λi=>wF g c v i+1)));have C:((List.range (row g v).length).map λq=>wF g c v q).map (· + 1)=(List.range (row g v).length).map λi=>wF g c v i+1:=by rw[List.map_map];rfl
  rw[<-C];have E:wF g c v i∈(List.range (row g v).length).map λq=>wF g c v q:=zAs.2 ⟨i,zAi.2 f,rfl⟩;have d:∀x∈(List.range (row g v).length).map λq=>wF g c v q,0<=x/\x<=(g.2.length:Int):=λx n=>by
   obtain⟨i,f,rfl⟩:=zAs.1 n;have:=SV j D m (zAi.1 f);omega
  generalize (List.range (row g v).length).map (λq=>wF g c v q)=l at d E ⊢;have B:vE (l.map (· + 1))=vE l+1:=by
   have A:=BU E;have M:=d _ E;rcases Cr l with q|q
   .omega
   .have G:=BU (zAs.2 ⟨_,q,rfl⟩:vE l+1∈l.map (· + 1));rcases Cr (l.map (· + 1))with z|z
    .have:=d _ q;omega
    .obtain⟨y,s,e⟩:=zAs.1 z;have:=BU s;omega
  rw[B];congr 1;exact decide_eq_decide.2 V7
structure BF (g:GR) (F:Int->Int->Int) (r v j:Nat) (R:aW):Prop where
 len:R.length=g.2.length
 ge:∀x:Nat,x<g.2.length->vV g F x<=at' R (x:Int)
 done:∀x:Nat,x<g.2.length->rk g F x<=r->at' R (x:Int)=vV g F x
 now:∀x:Nat,x<v->x<g.2.length->rk g F x<=r+1->at' R (x:Int)=vV g F x
 here:∀i u w,i<j->Lk g v i u w->rk g F u<=r->at' R (v:Int)<=F (vV g F u) w
section
variable {g:GR} {F:Int->Int->Int} {L:Int}
theorem afk (c:Cd g F L) {v:Nat} (e:v<g.2.length) {y:Int} (h:Wv g F v y) (d:∀z,Wv g F v z->y<=z):vV g F v=y:=by
 obtain⟨a,b⟩:=Cp c e;have:=b y h;have:=d _ a;omega
theorem afT (c:VG g) {v:Nat} {y:Int} (h:Wv g fB v y):∃k:Nat,y=(k:Int)/\wL g 0 k v:=by
 induction h with
 |zero=>exact⟨0,rfl,rfl,by have:=c.n1;omega⟩
 | @link u v i y w h hv hl ih=>
  obtain⟨k,rfl,d⟩:=ih;obtain⟨e,b,a⟩:=c.back hv ⟨i,hl.1,hl.2.2.1⟩;exact⟨k+1,by unfold fB;push_cast;rfl,u,d,e,b,a⟩
theorem XH (a:VG g):∀{k v:Nat},wL g 0 k v->Wv g fB v (k:Int)
 |0,v,⟨h,_⟩=>by subst h;exact .zero
 |k+1,v,⟨u,hw,ha⟩=>by
  have c:=wL.lt a hw;have f:=a.adj_lt c ha;obtain⟨i,d,b⟩:=a.back c ha;have:=Wv.link (XH a hw) f (i:=i) (w:=(iU (row g v) i).2) ⟨d,c,b,rfl⟩;have e:fB (k:Int) (iU (row g v) i).2=((k+1:Nat):Int):=by unfold fB;push_cast;rfl
  rw[e]at this;exact this
theorem abw (a:VG g) (f:Cd g fB 1) {d:V6 Int} (e:BH g 0 d) (c:∀v,v<g.2.length->0<=D d v) {v:Nat} (b:v<g.2.length):vV g fB v=D d v:=by
 refine afk f b ?_ λz i=>?_
 .have:=XH a (e.pos a b (c v b));rwa[show(((D d v).toNat:Nat):Int)=D d v from by have:=c v b;omega]at this
 .obtain⟨k,rfl,h⟩:=afT a i;exact(BH.le a e h).2
end
theorem WB {p:tC} {g:GR} {a:V6 xF} {R:V6 RL} {b:V6 (V6 Int)} {k:Nat} (h:jR (aV p g) a R (cS p g a R b k) (KI (aV p g) R (cS p g a R b k))=cS p g a R b k):∀m,cS p g a R b (k+m)=cS p g a R b k
 |0=>rfl
 |m+1=>by
  show jR (aV p g) a R (cS p g a R b (k+m)) (KI (aV p g) R (cS p g a R b (k+m)))=_;rw[WB h m,h]
noncomputable def ptE (g:GR) (F:Int->Int->Int) (v:Nat):Int:=if v=0 then -1 else jP ((LL g F v).map λy=>xG (decide (y=vV g F v)))
noncomputable def cE (g:GR) (F:Int->Int->Int):bE:=(List.range g.2.length).map λv=>[vV g F v,ptE g F v]
section
variable {p:tC} {g:GR} {vars:V6 xF} {eX eY:E} {F:Int->Int->Int} {L N:Int}
theorem aaq {v:Nat} (a:v<g.2.length):at' (cE g F) (v:Int)=[vV g F v,ptE g F v]:=afd _ a
theorem PO:(cE g F).length=g.2.length:=by simp[cE]
theorem ahv (S:Ue g vars eX eY F L N) (j:VG g) {c:V6 (V6 Int)} (h:CM g c vars) {K:Nat} (q:1<=K) (r:∀v,v<g.2.length->vV g F v<(K:Int)*L):cS p g vars (RY eX eY) c K=cE g F:=by
 have k:=(WA (p:=p) S j h K).1;have d:=k.len;refine List.ext_getElem (by rw[d,PO]) λi n o=>?_;have f:i<g.2.length:=V7
 obtain⟨a,b⟩:=ahu (p:=p) S j h q r f;obtain⟨x,y,e⟩:=aiv (at' (cS p g vars (RY eX eY) c K) (i:Int)) (by rw[k.shape.row i f];exact S.len);rw[<-gK n,<-gK o,aaq f,e];have l:Bt (cS p g vars (RY eX eY) c K) i=x:=by unfold Bt;rw[e];rfl
 have m:Ti (cS p g vars (RY eX eY) c K) i=y:=by unfold Ti;rw[e];rfl
 rw[l]at a;rw[m]at b;rw[a,b];rfl
end
def exX:E:= .ite (.bi 37 (.ag 24 (.lf 12 0)) (.lf 6 0)) (.bi 33 (.ag 24 (.lf 12 0)) (.lf 1 1)) (.lf 6 0)
def exY:E:= .ag 23 (.bi 35 (.lf 12 0) (.ag 24 (.lf 12 0)))
def guT:E:= .bi 41 (.lf 10 0) (.bi 42 (.bi 36 (.lf 5 0) (.lf 1 0)) (.bi 36 (.lf 5 1) (.lf 4 0)))
def guB:E:= .bi 41 (.un 19 (.lf 10 0)) (.bi 42 (.bi 36 (.lf 5 0) exX) (.bi 36 (.lf 5 1) exY))
def lsB (g:GR) (c:bE) (v:Nat):aW:=(List.range (row g v).length).map λq=>wF g c v q
def XB (g:GR) (c:bE) (v:Nat):Int:=if vE (lsB g c v)<(g.1.length:Int)then NE (wI .i64 (vE (lsB g c v)+1))else(g.1.length:Int)
def YB (g:GR) (c:bE) (v:Nat):Int:=jP ((List.range (row g v).length).map λq=>xG (decide (wF g c v q=vE (lsB g c v))))
def TB (g:GR) (c:bE) (v:Nat):gO:=if v=0 then(0,-1)else(XB g c v,YB g c v)
theorem LX (b:V4):xG b≠0↔b=true:=by cases b<;>simp[xG]
section
variable {p:tC} {g:GR} {c:V6 (V6 Int)} {v:Nat}
theorem Yk (l:V6 Int) : -1<=jP l/\jP l<=(l.length:Int) - 1:=by
 unfold jP;cases h:l.findIdx? nz with
 |none=>dsimp only;omega
 |some i=>
  obtain⟨a,_⟩:=List.findIdx?_eq_some_iff_getElem.1 h;dsimp only;omega
theorem DN {k a b x:Int} (d:a<=x) (e:x<=b):qR k (a,b) x=x:=by unfold qR;rw[if_pos ⟨d,e⟩]
end
def Cl (k:Nat) (x y:Int):Prop:=(y<(k:Int)->x=y)/\((k:Int)<=y->(k:Int)<=x)
section
variable {L:Int->Int->Int->Int} {deg:Nat} {x y:E} {q:Int}
theorem WI:(E.bi 41 x y).den L deg q≠0↔x.den L deg q≠0/\y.den L deg q≠0:=by
 show xG (decide (x.den L deg q≠0)&&decide (y.den L deg q≠0))≠0↔_;rw[LX,zA4,zA1,zA1]
theorem PS:(E.bi 42 x y).den L deg q≠0↔x.den L deg q≠0\/y.den L deg q≠0:=by
 show xG (decide (x.den L deg q≠0)||decide (y.den L deg q≠0))≠0↔_;rw[LX,zAx,zA1,zA1]
theorem Jq:(E.bi 36 x y).den L deg q≠0↔x.den L deg q≠y.den L deg q:=by
 show xG (decide (x.den L deg q≠y.den L deg q))≠0↔_;rw[LX,zA1]
end
def Fe (c:V6 (V6 Int)) (v:Nat) (x:Int):Int:=at' (at' c (v:Int)) x
def Rc (g:GR) (c:V6 (V6 Int)) (v i:Nat) (x:Int):Int:=at' (at' c (iU (row g v) i).1) x
theorem abK {g:GR} {c:V6 (V6 Int)} {v i u:Nat} {x:Int} (h:(iU (row g v) i).1=(u:Int)):Rc g c v i x=Fe c u x:=by unfold Rc Fe;rw[h]
def inP:E:= .bi 35 (.lf 11 0) (.lf 5 1)
def amh:E:= .bi 41 (.bi 41 (.lf 10 0) (.un 19 (.lf 5 2))) (.lf 5 5)
def ami:E:= .bi 41 (.un 19 (.lf 10 0)) (.ag 21 (.bi 41 inP (.bi 42 (.bi 36 (.lf 12 3) (.lf 5 3)) (.bi 41 (.lf 5 2) (.un 19 (.lf 12 2))))))
def amj:E:= .bi 41 (.lf 5 2) (.ag 20 (.bi 42 (.bi 36 (.lf 12 1) (.lf 17 0)) (.bi 41 (.un 19 (.lf 12 2)) (.bi 35 (.lf 12 3) (.lf 5 3)))))
def amk:E:= .bi 41 (.bi 41 (.un 19 (.lf 5 2)) (.un 19 (.lf 5 5))) (.ag 21 (.bi 41 (.bi 41 (.bi 35 (.lf 12 1) (.lf 17 0)) (.lf 12 5)) (.un 19 (.lf 12 2))))
def RS:V6 RL:=[(guT,[(0,.lf 1 0),(1,.lf 4 0)]),(guB,[(0,exX),(1,exY)]),(amh,[(2,.lf 2 0),(3,.un 19 (.lf 5 3)),(4,.lf 1 0),(5,.lf 3 0)]),
 (ami,[(2,.ag 21 (.bi 41 inP (.lf 12 2))),(3,.ag 21 (.bi 41 inP (.lf 12 3))),(4,.lf 1 0),(5,.lf 3 0)]),(amj,[(2,.lf 3 0)]),(amk,[(5,.lf 2 0)])]
end Go.Proofs.YtgciopekomcbfaaGreatDoor