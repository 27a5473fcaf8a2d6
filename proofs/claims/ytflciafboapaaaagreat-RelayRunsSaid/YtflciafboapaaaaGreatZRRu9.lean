/- Models and proofs. Conditions: none. -/
import Derived.Test.YtflciafboapaaaaGreatZRRu5
import Derived.Test.YtflciafboapaaaaGreatZRRu8
import Derived.Test.YtflciafboapaaaaGreatZRRu7
import Derived.Test.YtflciafboapaaaaGreatZRRu2
import Derived.Test.YtflciafboapaaaaGreatZRRu6
set_option linter.unusedVariables false
set_option linter.unusedSimpArgs false
set_option maxHeartbeats 4000000
set_option maxRecDepth 20000
namespace Go.Proofs.YtflciafboapaaaaGreat
open Go.Sx
def CC (a:kJ):Option kV:=
 some (((a.1,a.2.1,a.2.2)),(0:Int))
def nL (c:xF) (b:AR->Option kV) (a:Int×bO×List (List bO)×List bO):Option kV:=
 if a.1≠(0:Int)then(some (((([]:bO),(([]:rM)),(([]:Cq)))),a.1))else(b ((wI .i64 (c.1+(1:Int))),a.2.1,a.2.2.2,a.2.2.1))
def CE (a:xF) (b:AR->Option kV) (c:bO):Option kV:=
 nL a b ((0:Int),c,a.2.2.2,a.2.2.1)
def Fa (U:Nat) (p0:iF) (p1:cO) (e:kC) (b:Mo) (a:xF) (c:AR->Option kV) (d:bO):Option kV:=
 Option.bind (kQ U ((((p0.1,p0.2.1,p0.2.2)),((((p0.1,p0.2.1,p0.2.2)),((p1.1,p1.2)),b.2.1,b.2.2.2.1)),b.1)) d ((at' e a.1).2.1)) λf=>(if(0:Int)<=f then(Option.bind (mN U ((((p0.1,p0.2.1,p0.2.2)),((((p0.1,p0.2.1,p0.2.2)),((p1.1,p1.2)),b.2.1,b.2.2.2.1)),b.1)) d ((at' e a.1).2.1) f) λg=>(ck (0<=((at' e a.1).2.1)/\((at' e a.1).2.1)<(a.2.1.length:Int)) (CE a c (List.set a.2.1 (Int.toNat ((at' e a.1).2.1)) g))))else(CE a c (a.2.1)))
def Am (U:Nat) (p0:iF) (p1:cO) (e:kC) (d:Mo) (b:xF) (a:AR->Option kV) (c:bO):Option kV:=
 Fa U p0 p1 e d b a (c)
def Ap (U:Nat) (p0:iF) (p1:cO) (c:kC) (f:Mo) (a:xF) (d:AR->Option kV) (b:Int×bO) (e:(Int×bO)->Option kV):Option kV:=
 if b.1<((at' p1.2 ((at' c a.1).2.1)).length:Int)then(ck (0<=b.1/\b.1<((at' p1.2 ((at' c a.1).2.1)).length:Int)) (ck (0<=((at' c a.1).2.1)/\((at' c a.1).2.1)<(a.2.2.1.length:Int)) (ck (0<=b.1/\b.1<((at' a.2.2.1 ((at' c a.1).2.1)).length:Int)) (ck (0<=((at' (at' p1.2 ((at' c a.1).2.1)) b.1).1)/\((at' (at' p1.2 ((at' c a.1).2.1)) b.1).1)<(b.2.length:Int)) (e ((wI .i64 (b.1+(1:Int))),(List.set b.2 (Int.toNat ((at' (at' p1.2 ((at' c a.1).2.1)) b.1).1)) (at' (at' a.2.2.1 ((at' c a.1).2.1)) b.1))))))))else(Am U p0 p1 c f a d (b.2))
def CF (a:xF) (c:AR->Option kV) (b:Cq):Option kV:=
 nL a c ((0:Int),a.2.1,b,a.2.2.1)
def Ao (p1:cO) (c:kC) (a:xF) (e:AR->Option kV) (b:Int) (d:rM):Option kV:=
 ck (0<=(0:Int)/\(0:Int)<(1:Int)/\(1:Int)<=((at' (at' a.2.2.2 ((at' (at' p1.2 ((at' c a.1).2.1)) ((at' c a.1).2.2)).1)) b).length:Int)) (nL a e ((0:Int),a.2.1,(List.set a.2.2.2 (Int.toNat ((at' (at' p1.2 ((at' c a.1).2.1)) ((at' c a.1).2.2)).1)) (List.set (at' a.2.2.2 ((at' (at' p1.2 ((at' c a.1).2.1)) ((at' c a.1).2.2)).1)) (Int.toNat b) (List.take (Int.toNat (0:Int)) (at' (at' a.2.2.2 ((at' (at' p1.2 ((at' c a.1).2.1)) ((at' c a.1).2.2)).1)) b)++List.drop (Int.toNat (1:Int)) (at' (at' a.2.2.2 ((at' (at' p1.2 ((at' c a.1).2.1)) ((at' c a.1).2.2)).1)) b)))),d))
def An (U:Nat) (p1:cO) (p2:Int) (b:kC) (a:xF) (d:AR->Option kV) (f:Bool):Option kV:=
 if f=true then(nL a d ((2:Int),a.2.1,a.2.2.2,a.2.2.1))else(if((at' b a.1).1)=(2:Int)then(ck (0<=((at' b a.1).2.1)/\((at' b a.1).2.1)<(a.2.2.2.length:Int)) (ck (0<=((at' b a.1).2.2)/\((at' b a.1).2.2)<((at' a.2.2.2 ((at' b a.1).2.1)).length:Int)) (if((at' (at' a.2.2.2 ((at' b a.1).2.1)) ((at' b a.1).2.2)).length:Int)<p2 then(ck (0<=((at' b a.1).2.1)/\((at' b a.1).2.1)<(a.2.1.length:Int)) (Option.bind (uL U (at' a.2.1 ((at' b a.1).2.1))) λe=>(ck (((at' (at' a.2.2.2 ((at' b a.1).2.1)) ((at' b a.1).2.2)).length:Int)+(List.length ([e]):Int)<=1099511627) (CF a d (List.set a.2.2.2 (Int.toNat ((at' b a.1).2.1)) (List.set (at' a.2.2.2 ((at' b a.1).2.1)) (Int.toNat ((at' b a.1).2.2)) ((at' (at' a.2.2.2 ((at' b a.1).2.1)) ((at' b a.1).2.2))++[e])))))))else(CF a d (a.2.2.2)))))else(ck (0<=((at' b a.1).2.1)/\((at' b a.1).2.1)<(p1.2.length:Int)) (ck (0<=((at' b a.1).2.2)/\((at' b a.1).2.2)<((at' p1.2 ((at' b a.1).2.1)).length:Int)) (ck (0<=((at' (at' p1.2 ((at' b a.1).2.1)) ((at' b a.1).2.2)).1)/\((at' (at' p1.2 ((at' b a.1).2.1)) ((at' b a.1).2.2)).1)<(a.2.2.2.length:Int)) (Option.bind (mO U ((p1.1,p1.2)) ((at' (at' p1.2 ((at' b a.1).2.1)) ((at' b a.1).2.2)).1) ((at' b a.1).2.1)) λc=>(ck (0<=c/\c<((at' a.2.2.2 ((at' (at' p1.2 ((at' b a.1).2.1)) ((at' b a.1).2.2)).1)).length:Int)) (if((at' (at' a.2.2.2 ((at' (at' p1.2 ((at' b a.1).2.1)) ((at' b a.1).2.2)).1)) c).length:Int)=(0:Int)then(nL a d ((0:Int),a.2.1,a.2.2.2,a.2.2.1))else(if((at' b a.1).1)=(3:Int)then(ck (0<=((at' b a.1).2.1)/\((at' b a.1).2.1)<(a.2.2.1.length:Int)) (ck (0<=(0:Int)/\(0:Int)<((at' (at' a.2.2.2 ((at' (at' p1.2 ((at' b a.1).2.1)) ((at' b a.1).2.2)).1)) c).length:Int)) (ck (0<=((at' b a.1).2.2)/\((at' b a.1).2.2)<((at' a.2.2.1 ((at' b a.1).2.1)).length:Int)) (Ao p1 b a d c (List.set a.2.2.1 (Int.toNat ((at' b a.1).2.1)) (List.set (at' a.2.2.1 ((at' b a.1).2.1)) (Int.toNat ((at' b a.1).2.2)) (at' (at' (at' a.2.2.2 ((at' (at' p1.2 ((at' b a.1).2.1)) ((at' b a.1).2.2)).1)) c) (0:Int))))))))else(Ao p1 b a d c (a.2.2.1))))))))))
def sB (U:Nat) (p0:iF) (p1:cO) (p2:Int) (c:kC) (e:Mo) (a:xF) (b:AR->Option kV) (d:Bool):Option kV:=
 if d=true then(nL a b ((2:Int),a.2.1,a.2.2.2,a.2.2.1))else(if((at' c a.1).1)=(1:Int)then(ck ((a.2.1.length:Int)<=1099511627) (ck (0<=((at' c a.1).2.1)/\((at' c a.1).2.1)<(p1.2.length:Int)) (bJ (Ap U p0 p1 c e a b) U ((0:Int),a.2.1))))else(if((at' c a.1).2.2)<(0:Int)then(An U p1 p2 c a b (true))else(ck (0<=((at' c a.1).2.1)/\((at' c a.1).2.1)<(p1.2.length:Int)) (An U p1 p2 c a b (decide (((at' p1.2 ((at' c a.1).2.1)).length:Int)<=((at' c a.1).2.2)))))))
def gS (U:Nat) (p0:iF) (p1:cO) (p2:Int) (c:kC) (d:Mo) (a:xF) (b:AR->Option kV):Option kV:=
 if a.1<(c.length:Int)then(ck (0<=a.1/\a.1<(c.length:Int)) (if((at' c a.1).1)<(1:Int)then(sB U p0 p1 p2 c d a b (true))else(if(4:Int)<((at' c a.1).1)then(sB U p0 p1 p2 c d a b (true))else(if((at' c a.1).2.1)<(0:Int)then(sB U p0 p1 p2 c d a b (true))else(sB U p0 p1 p2 c d a b (decide ((p1.2.length:Int)<=((at' c a.1).2.1))))))))else(CC (a.2.1,a.2.2.1,a.2.2.2))
def BS (U:Nat) (p0:iF) (p1:cO) (p2:Int) (b:kJ) (c:kC):Option kV:=
 Option.bind (wS U ((p0.1,p0.2.1,p0.2.2)) ((p1.1,p1.2)) p2 ((b.1,b.2.1,b.2.2))) λd=>(if d≠(0:Int)then(some (((([]:bO),(([]:rM)),(([]:Cq)))),d))else(if(65536:Int)<(c.length:Int)then(some (((([]:bO),(([]:rM)),(([]:Cq)))),(3:Int)))else(Option.bind (pS U ((p0.1,p0.2.1,p0.2.2)) ((p1.1,p1.2)) p2 ((b.1,b.2.1,b.2.2))) λa=>(bJ (gS U p0 p1 p2 c a) U ((0:Int),a.2.2.1,a.2.2.2.2.1,a.2.2.2.2.2)))))
theorem acO:bB Tryz.prog 26:=Tryz.call26
theorem Rm (U:Nat) {p0:iF} {v:cO} {p2:Int} {p3:kJ} {d:kC} (v0 v1 v2 v3:V0) (z4:lE) (v5:V0) (z6:kD) (v7:V0) (z8:IX) (v9:V0) (ca:IW) (ab:V0) (r:Rp) (h:BS U p0 v p2 p3 d=some r):
  bD Tryz.prog 26 #[Value.agg #[vS (p0.1),v0,v1],Value.agg #[v2,v3],vI (p2),Value.agg #[v5,v7,v9],ab] [Sl aH v0 p0.2.1,Sl aE v1 p0.2.2,PF (Value.agg #[vS p0.1,v0,v1]),Sl aN v2 v.1,S2 aX v3 z4 v.2,S2 aN v5 z6 p3.1,S3 aN v7 z8 p3.2.1,S4 aN v9 ca p3.2.2,Sl cD ab d] (λx:YZ=>Value.tuple #[Value.agg #[x.1,x.2.2.1,x.2.2.2.2.1],vI (r.2)]) (λx l=>l) (λx l=>S2 aN x.1 x.2.1 r.1.1::S3 aN x.2.2.1 x.2.2.2.1 r.1.2.1::S4 aN x.2.2.2.2.1 x.2.2.2.2.2 r.1.2.2::l):=by
 let bj:=(List (List V0))
 let M:=Sl aE v1 p0.2.2;let L:=Sl aH v0 p0.2.1;let K:=S2 aN v5 z6 p3.1;let J:=S2 aX v3 z4 v.2;let I:=S3 aN v7 z8 p3.2.1;let H:=S4 aN v9 ca p3.2.2;let G:=PF (Value.agg #[vS p0.1,v0,v1]);refine bD.of Tryz.func26 Z Tryz.ntmps26 Z λc=>?_;refine aU<|aK (aP.box (cs:=[vS (p0.1),v0,v1]) Z Z) Z λb1=>aK (aP.box (cs:=[v2,v3]) Z Z) Z λb2=>aK (aP.box (cs:=[v5,v7,v9]) Z Z) Z λb3=>aK (aP.alloc (cs:=[cT,cT,cT]) Z Z) Z λb4=>let E:=bL b4 [cT,cT,cT] 43;aC Z<|aO<|aL<|aU<|dM 3 Z<|dM 2 Z<|aA Z<|dM 1 Z<|eT h λr5 w6 h=>aK (zBg acY (MY U v0 v1 v2 v3 z4 v5 z6 v7 z8 v9 ca r5 w6) Z (iN [0,1,2,3,4,5,6,7] Z)) Z λx7=>aC Z<|aO<|aU<|aA Z<|k_ Z<|aO ?_
 refine eN h Z (λh=>?_) λh=>?_
 ·refine aU ?_;refine aB (Ov (r:=Value.agg #[cT,cT,cT]) (by intro w;simp[Instr.build,Instr.fill,eZ,eF,dO,e_,fC,eG,fR])) Z ?_;refine aA Z<|cG 0 (vs:=[cT,cT,cT]) Z Z Z Z Z Z<|aC Z<|aO<|aR<|aG ?_;cases h;exact hZ ((cT),([]),(cT),([]),(cT),([])) Z Z (RV.cell 0 Z Z Z Z) (RV.tmp Z) .nil (aI.cons mX (aI.cons mX (aI.cons mX aI.nil)))
 refine cL<|aL<|aU<|aA Z<|iH (aF.fact 8 Z) Z<|aB (tH Z Z) Z<|aO ?_;refine eN h Z (λh=>?_) λh=>?_
 ·refine aU ?_;refine aB (Ov (r:=Value.agg #[cT,cT,cT]) (by intro w;simp[Instr.build,Instr.fill,eZ,eF,dO,e_,fC,eG,fR])) Z ?_;refine cG 0 (vs:=[cT,cT,cT]) Z Z Z Z Z Z<|aC Z<|aO<|aR<|aG ?_;cases h;exact hZ ((cT),([]),(cT),([]),(cT),([])) Z Z (RV.cell 0 Z Z Z Z) (RV.tmp Z) .nil (aI.cons mX (aI.cons mX (aI.cons mX aI.nil)))
 refine cL<|aU<|dM 3 Z<|dM 2 Z<|aA Z<|dM 1 Z<|eT h λO dB h=>aK (aP.call acV (IU U v0 v1 v2 v3 z4 v5 z6 v7 z8 v9 ca O dB) Z (iC.cons (zA0 (i:=0) Z) (iC.cons (zA0 (i:=1) Z) (iC.cons (zA0 (i:=2) Z) (iC.cons (zA0 (i:=3) Z) (iC.cons (zA0 (i:=4) Z) (iC.cons (zA0 (i:=5) Z) (iC.cons (zA0 (i:=6) Z) (fN 7 Z)))))))) (λ_ _=>rfl) (λ_ _=>rfl)) Z λn=>let ch:=n.2.2.2.2.2.2.2.2.2.2.2.2.2.2;let aw:=n.2.2.2.1;let bl:=n.2.2.2.2.2.2.1;let av:=n.2.2.2.2.1;let bk:=n.2.2.2.2.2.2.2.1;let N:=n.2.2.1;let bi:=n.2.2.2.2.2.2.2.2.1;let bg:=n.2.2.2.2.2.2.2.2.2.1;let bf:=n.2.2.2.2.2.2.2.2.2.2.1;let aa:=gN b_ bi O.1;let aq:=tA aN bf O.2.2.2.1;let ay:=n.2.2.2.2.2.2.2.2.2.2.2.1;let D:=Ar bM.raw aw ay;let Y:=Ar bM.raw bk bi;let X:=Ar bM.raw av n.2.2.2.2.2.2.2.2.2.2.2.2.2.1;let W:=Ar bM.raw bg bf;let V:=bL n.2.1 [vS (p0.1),v0,v1,vP bl,bk] 157;let T:=bL n.1 [v2,v3,vI (p2),vP n.2.1,N,aw,av] 108;let R:=bL bl [vS (p0.1),v0,v1,v2,v3,vI (O.2.1),bg] 206;aC Z<|aO<|aL<|kU (B:=List V0×List (List V0)×List (List V0)×List bj) (λai=>CC ai=some r) (λai F=>[(10,vP b4),(13,vP n.1)]) (λai F=>[T,Ar bM.raw N F.1,V,Y,aa,R,W,D,gN bM.raw ay F.2.1,X,wK bM.raw n.2.2.2.2.2.2.2.2.2.2.2.2.2.1 F.2.2.1 F.2.2.2,E]) (λai F=>[tA aN F.1 ai.1,aq,AD aN F.2.1 ai.2.1,De aN F.2.2.2 ai.2.2,L,M,G,Sl aN v2 v.1,J,K,I,H,Sl cD ab d]) ?_ ?_
 ·refine aU<|aA Z<|iH (Cv Z) Z<|aA Z<|aO<|aS<|oS (B:=List V0×List (List V0)×List (List V0)×List bj) (gS U p0 v p2 d O) (λa b=>[(10,vP b4),(13,vP n.1),(35,ab),(36,vI (d.length:Int)),(37,vI (a.1))]) (λa b=>[T,Ar bM.raw N b.1,V,Y,aa,R,W,D,gN bM.raw ay b.2.1,X,wK bM.raw n.2.2.2.2.2.2.2.2.2.2.2.2.2.1 b.2.2.1 b.2.2.2,E]) (λa b=>[tA aN b.1 a.2.1,aq,AD aN b.2.1 a.2.2.1,De aN b.2.2.2 a.2.2.2,L,M,G,Sl aN v2 v.1,J,K,I,H,Sl cD ab d]) ((0:Int),O.2.2.1,O.2.2.2.2.1,O.2.2.2.2.2) (n.2.2.2.2.2.1,n.2.2.2.2.2.2.2.2.2.2.2.2.1,ch.1,ch.2) h SF (aZ.ix [0,1,2,3,4,5,6,7,8,9,10,11] Z Z) (aI.refl _ _) ?_;intro dz a b h;let b8:=vI ((at' d a.1).1);let b7:=vI ((at' d a.1).2.2);let cg:=((at' v.2 ((at' d a.1).2.1)).length:Int)
  let bh:=vI ((at' d a.1).2.1);let ap:=tA aN b.1 a.2.1;let ao:=gN bM.raw ay b.2.1;let an:=AD aN b.2.1 a.2.2.1;let am:=De aN b.2.2.2 a.2.2.2;let ad:=Ar bM.raw N b.1;let S:=(bJ (gS U p0 v p2 d O) dz)
  let bc:=wK bM.raw n.2.2.2.2.2.2.2.2.2.2.2.2.2.1 b.2.2.1 b.2.2.2;refine aU<|cV Z<|aO<|aL ?_;refine eN h Z (λh=>?_) λh=>?_
  ·refine cL<|aL<|aS<|aU<|cU h λdq h=>aB (bE Z Z (Cv Z) Z Z dq) Z<|aB (gU (cs:=[b8,bh,b7]) Z (Cv Z) bZ Z Z Z Z dq) Z<|aK (aP.alloc (cs:=[vI (0:Int),vI (0:Int),vI (0:Int)]) Z Z) Z λdK=>cG 0 (vs:=[vI ((at' d a.1).1),vI ((at' d a.1).2.1),vI ((at' d a.1).2.2)]) Z Z Z Z Z Z<|aO<|aU<|aA Z<|dM 0 Z<|Dz (A:=Int×bO×List (List bO)×List bO) (B:=List V0×List (List V0)×List bj×List (List V0)) (vs:=[vP n.1,Value.agg #[vI ((at' d a.1).1),vI ((at' d a.1).2.1),vI ((at' d a.1).2.2)]]) (λae=>nL a S ae=some r) (λae Q=>vI (ae.1)) (λae Q=>[T,Ar bM.raw N Q.1,V,Y,aa,R,W,D,gN bM.raw ay Q.2.2.2,X,wK bM.raw n.2.2.2.2.2.2.2.2.2.2.2.2.2.1 Q.2.1 Q.2.2.1,E]) (λae Q=>[tA aN Q.1 ae.2.1,aq,AD aN Q.2.2.2 ae.2.2.2,De aN Q.2.2.1 ae.2.2.1,L,M,G,Sl aN v2 v.1,J,K,I,H,Sl cD ab d]) (wL.fn (show bB Tryz.prog 67 from Tryz.call67) Z) Tryz.func67 Z Tryz.ntmps67 Z Z ?_ ?_
   ·refine aU<|aK (aP.box (cs:=[b8,bh,b7]) Z Z) Z λcj=>let ce:=bL cj [b8,bh,b7] 28;aC Z<|aO<|aL<|aL<|kU (B:=Unit) (λbm=>sB U p0 v p2 d O a S bm=some r) (λbm cl=>[(0,vP n.1),(3,vP cj),(30,vB (bm))]) (λbm cl=>[ce,T,ad,V,Y,aa,R,W,D,ao,X,bc,E]) (λbm cl=>[ap,aq,an,am,L,M,G,Sl aN v2 v.1,J,K,I,H,Sl cD ab d]) ?_ ?_
    ·refine sW [0,1,3,7,15,31,63,127,255,511,1023,2047,4095,8191,16383,32767,16383,81919,212991,475135,999423,2047999,4194303,8388607] 22 mixedOrders ?_;refine cH Z<|fO 0 Z<|gC Z (CO Z Z)<|aV Z ?_;refine AY (by exact rfl) (by exact rfl) (by exact rfl) (λa8=>?_) (λa8=>?_)
     ·have h:=Iv a8 h;refine bA Z Z Z Z<|bA Z Z Z Z<|bA Z Z Z Z<|gC Z (GA Z Z)<|aV Z<|bA Z Z Z Z<|bA Z Z Z Z<|bA Z Z Z Z<|gC Z (GA Z Z)<|aV Z<|bA Z Z Z Z<|bA Z Z Z Z<|bA Z Z Z Z<|bA Z Z Z Z<|bA Z Z Z Z<|bA Z Z Z Z<|bA Z Z Z Z<|bA Z Z Z Z<|bP 22 Z Z<|aM Z<|dR Z<|aO ?_;exact cI (true) () h SF (aZ.ix [0,2,3,4,5,6,7,8,9,10,11,12,13] Z Z) (aI.refl _ _)
     have h:=XT a8 h;refine cS Z .nil .nil (cR Z Z Z Z Z) aJ.z<|cS Z (aZ.cons 0 Z .nil) .nil (dL 0 Z Z Z Z Z) aJ.z<|cS Z .nil .nil (tH Z Z) aJ.z<|gC Z (Ii Z Z)<|aV Z ?_;refine AY (by exact rfl) (by exact rfl) (by exact rfl) (λa9=>?_) (λa9=>?_)
     ·have h:=Iv a9 h;refine bA Z Z Z Z<|bA Z Z Z Z<|bA Z Z Z Z<|gC Z (GA Z Z)<|aV Z<|bA Z Z Z Z<|bA Z Z Z Z<|bA Z Z Z Z<|bA Z Z Z Z<|bA Z Z Z Z<|bA Z Z Z Z<|bA Z Z Z Z<|bA Z Z Z Z<|bP 22 Z Z<|aM Z<|dR Z<|aO ?_;exact cI (true) () h SF (aZ.ix [0,2,3,4,5,6,7,8,9,10,11,12,13] Z Z) (aI.refl _ _)
     have h:=XT a9 h;refine cS Z .nil .nil (cR Z Z Z Z Z) aJ.z<|cS Z (aZ.cons 0 Z .nil) .nil (dL 0 Z Z Z Z Z) aJ.z<|cS Z .nil .nil (CO Z Z) aJ.z<|gC Z (Ii Z Z)<|aV Z ?_;refine AY (by exact rfl) (by exact rfl) (by exact rfl) (λba=>?_) (λba=>?_)
     ·have h:=Iv ba h;refine bA Z Z Z Z<|bA Z Z Z Z<|bA Z Z Z Z<|bA Z Z Z Z<|bA Z Z Z Z<|bA Z Z Z Z<|bA Z Z Z Z<|bA Z Z Z Z<|bP 22 Z Z<|aM Z<|dR Z<|aO ?_;exact cI (true) () h SF (aZ.ix [0,2,3,4,5,6,7,8,9,10,11,12,13] Z Z) (aI.refl _ _)
     have h:=XT ba h;refine cS Z .nil .nil (cR Z Z Z Z Z) aJ.z<|cS Z (aZ.cons 0 Z .nil) .nil (dL 0 Z Z Z Z Z) aJ.z<|cS Z .nil .nil (eO Z) aJ.z<|cS Z .nil .nil (bX Z) aJ.z<|cS Z .nil .nil (cR Z Z Z Z Z) aJ.z<|cS Z .nil .nil (cR Z Z Z Z Z) aJ.z<|cS Z (aZ.cons 2 Z .nil) .nil (dL 0 Z Z Z Z Z) aJ.z<|cS Z .nil (fN 8 Z) (dU Z (cA Z) Z) aJ.z<|bP 22 Z Z<|aT Z (yV Z Z) Z<|eV Z<|aO ?_;exact cI (decide ((v.2.length:Int)<=((at' d a.1).2.1))) () h SF (aZ.ix [0,2,3,4,5,6,7,8,9,10,11,12,13] Z Z) (aI.refl _ _)
    intro bm cl h;refine tC h Z (λ_ h=>?_) λ_ h=>?_
    ·refine aU<|aC Z<|aO<|aR<|aG ?_;exact mW ((2:Int),a.2.1,a.2.2.2,a.2.2.1) (b.1,b.2.2.1,b.2.2.2,b.2.1) h (.inl Z) (Hi.r1 Z (RV.tmp Z)) Z (aZ.ix [1,2,3,4,5,6,7,8,9,10,11,12] Z Z) (aI.refl _ _)
    refine cL<|aL<|aU<|bU Z<|dQ 0 Z<|cC Z<|aO ?_;refine eN h Z (λh=>?_) λh=>?_
    ·refine aU<|aA Z<|bU Z<|dQ 0 Z<|Dz (A:=bO) (B:=fY) (vs:=[vP n.1,vI ((at' d a.1).2.1)]) (λa2=>CE a S a2=some r) (λa2 bn=>Value.tuple #[]) (λa2 bn=>[T,Ar bM.raw N bn,V,Y,aa,R,W,D,ao,X,bc,E]) (λa2 bn=>[tA aN bn a2,aq,an,am,L,M,G,Sl aN v2 v.1,J,K,I,H,Sl cD ab d]) (wL.fn (show bB Tryz.prog 108 from Tryz.call108) Z) Tryz.func108 Z Tryz.ntmps108 Z Z ?_ ?_
     ·refine aU<|aA Z<|aA Z<|Dz (A:=bO) (B:=Fx) (vs:=[vP n.1,vI ((at' d a.1).2.1)]) (λaz=>Fa U p0 v d O a S az=some r) (λaz ak=>ak.1) (λaz ak=>[Ar bM.raw ak.1 ak.2,T,ad,V,Y,aa,R,W,D,ao,X,bc,E]) (λaz ak=>[tA aN ak.2 az,ap,aq,an,am,L,M,G,Sl aN v2 v.1,J,K,I,H,Sl cD ab d]) (wL.fn (show bB Tryz.prog 103 from Tryz.call103) Z) Tryz.func103 Z Tryz.ntmps103 Z Z ?_ ?_
      ·refine aU<|aC Z<|aO<|aU<|aA Z<|aB (bX Z) Z<|bU Z<|bU Z<|dQ 1 Z<|cU h λdP h=>bF (aW (cA Z)) λdE=>bW (cJ (cA Z)) ?_;refine aK (zBg aai (Kz U (p0:=b.1) N b.1 (by simp[Ci,ck];omega)) Z (aI.cons (tW (i:=2) Z) aI.nil)) Z λb9=>?_;refine aC Z<|aO<|aL<|kU (B:=fY) (λa3=>Am U p0 v d O a S a3=some r) (λa3 bo=>[(5,b9)]) (λa3 bo=>[Ar bM.raw b9 bo,T,ad,V,Y,aa,R,W,D,ao,X,bc,E]) (λa3 bo=>[tA aN bo a3,ap,aq,an,am,L,M,G,Sl aN v2 v.1,J,K,I,H,Sl cD ab d]) ?_ ?_
       ·refine aU<|aA Z<|aB (bX Z) Z<|bU Z<|bU Z<|dQ 2 Z<|aA Z<|cU h λaD h=>aB (bN Z Z (PQ Z) Z Z aD) Z<|aB (bT Z (PQ Z) Z Z aD) Z<|aB (fE Z (zBh (PQ Z) aD.1 aD.2) Z) Z<|aA Z<|aO<|aS<|oS (B:=fY) (Ap U p0 v d O a S) (λC a4=>[(0,vP n.1),(1,bh),(5,b9),(21,(at' z4 ((at' d a.1).2.1)).1),(22,vI cg),(23,vI (C.1))]) (λC a4=>[Ar bM.raw b9 a4,T,ad,V,Y,aa,R,W,D,ao,X,bc,E]) (λC a4=>[tA aN a4 C.2,ap,aq,an,am,L,M,G,Sl aN v2 v.1,J,K,I,H,Sl cD ab d]) ((0:Int),a.2.1) (tg 1 b.1) h SF (aZ.ix [0,2,3,4,5,6,7,8,9,10,11,12,13] Z Z) (aI.refl _ _) ?_;intro dS C a4 h;refine aU<|cV Z<|aO<|aL ?_;refine eN h Z (λh=>?_) λh=>?_
        ·refine cL<|aL<|aS<|aU<|aA Z<|cU h λdr h=>aB (bE Z Z (zBh (PQ Z) aD.1 aD.2) Z Z dr) Z<|aB (gU (cs:=[vI ((at' (at' v.2 ((at' d a.1).2.1)) C.1).1),vI ((at' (at' v.2 ((at' d a.1).2.1)) C.1).2)]) Z (zBh (PQ Z) aD.1 aD.2) cW Z Z Z Z dr) Z<|aK (aP.alloc (cs:=Wi) Z Z) Z λdN=>aC Z<|cG 0 (vs:=[vI ((at' (at' v.2 ((at' d a.1).2.1)) C.1).1),vI ((at' (at' v.2 ((at' d a.1).2.1)) C.1).2)]) Z Z Z Z Z Z<|aO ?_;refine sW [0,0,2,0,8,24,56,120,0,504,1016,0,4088,8184,16383,32767] 14 mixedOrders ?_;refine aV Z<|cH Z<|fO 0 Z<|aV Z<|gC Z (bX Z)<|cH Z<|cH Z<|fO 2 Z<|aV Z<|cU h λaf h=>a_ (dG (gA (i:=9) (q:=10) (j:=3) Z Z Z)) λdi=>gC Z (dW Z Z di Z Z af)<|a_ (dX 10 Z) λdj=>a_ (aW (Dh Z)) λdk=>aY Z (aZ.cons 9 Z .nil) .nil (gW 0 Z Z (dj.trans dk) Z Z af) aJ.z<|aV Z<|cU h λbb h=>a_ (dG (Gu (q:=10) (j:=3) Z Z af.1 af.2)) λcm=>?_;refine gC Z (dW Z Z cm Z Z bb)<|a_ (aW (Dh Z)) λcn=>?_;refine a_ (aW (bR (Dh Z) af.1 af.2)) λco=>?_;refine aY Z (aZ.cons 10 Z .nil) .nil (cK (f:=λx=>x) Z (JQ (q:=0) Z af.1 (by have t:=af.2;have u:=cn;(try simp only[zA1]at t u⊢);omega)) Z Z Z iU ⟨bb.1,(by have t:=bb.2;have u:=co;(try simp only[zA1]at t u⊢);omega)⟩) aJ.z ?_;refine bP 14 Z Z<|cU h λb5 h=>aB (bN Z Z (c_ (i:=1) (j:=0) Z Z) Z Z b5) Z ?_;refine bF (Know.one ((bR (bR (Dh Z) af.1 af.2) bb.1 bb.2))) λbQ=>?_;refine bF (aW (cA Z)) λcp=>?_;refine bW (cJ (iM (Int.toNat ((at' (at' v.2 ((at' d a.1).2.1)) C.1).1)) (cA Z) (bR (bR (Dh Z) af.1 af.2) bb.1 bb.2))) ?_;refine yR (pK (us:=[at' (at' b.2.1 ((at' d a.1).2.1)) C.1]) (o:=0) (q:=1) 1 (at' (at' b.2.1 ((at' d a.1).2.1)) C.1) ⟨b5.1,(by have t:=b5.2;have u:=cp;(try simp only[zA1]at t u⊢);omega)⟩ Z Z Z Z (by rw[show(at' (at' b.2.1 ((at' d a.1).2.1)) C.1).cells = #[at' (at' b.2.1 ((at' d a.1).2.1)) C.1]from iY bQ]) Z Z Z (gJ bQ Z) Z) λdF=>?_;refine fJ<|lL<|aQ<|cP Z<|aA Z<|aO ?_;exact iG ((wI .i64 (C.1+(1:Int))),(List.set C.2 (Int.toNat ((at' (at' v.2 ((at' d a.1).2.1)) C.1).1)) (at' (at' a.2.2.1 ((at' d a.1).2.1)) C.1))) (List.set a4 (Int.toNat ((at' (at' v.2 ((at' d a.1).2.1)) C.1).1)) (at' (at' b.2.1 ((at' d a.1).2.1)) C.1)) h SF (aZ.ix [1,2,3,4,5,6,7,8,9,10,11,12,13] Z Z) (iN [0,2,3,4,5,6,7,8,9,10,11,12,13,14] Z)
        refine fG ?_;exact fT (C.2) (a4) h SF Z
       intro a3 bo h;unfold Am at h;refine aU<|aA Z<|aC Z<|aO<|aR ?_;exact mW (a3) (b9,bo) h (.inl Z) (Hi.r1 Z (RV.tmp Z)) Z (aZ.refl _) (aI.refl _ _)
      intro az ak h;refine aC Z<|aO<|aU<|aA Z<|aB (bX Z) Z<|bU Z<|dQ 1 Z<|aA Z<|aA Z<|eT h λdA dC h=>aK (zBg ZU (Gh U n.2.1 v0 v1 bl v0 v1 v2 v3 z4 bg ((List.zip bf O.2.2.2.1)) bk (List.zip bi O.1) ak.1 ((List.zip ak.2 az)) dA dC) Z (aI.cons (aF.res 3 Z) (aI.cons (Di Z) (aI.cons (Ja Z) (aI.cons (aF.res 6 Z) (aI.cons (Di Z) (aI.cons (Ja Z) (aI.cons (aF.fact 8 Z) (aI.cons (PQ Z) (aI.cons (c_ (i:=7) (j:=2) Z Z) (aI.cons (fP (i:=4) (j:=5) Z Z cW) (aI.cons (c_ (i:=0) (j:=0) Z Z) .nil)))))))))))) Z λdT=>aC Z<|aO<|aU<|aA Z<|aB (yV Z Z) Z<|aO ?_;refine eN h Z (λh=>?_) λh=>?_
      ·refine sW [0,1,3,7,15,0,0,64,192,448,0,0,0,8128,16383,32767] 14 mixedOrders ?_;refine aV Z<|gC Z (bX Z)<|cH Z<|cH Z<|fO 1 Z<|aV Z<|aV Z<|gC Z (bX Z)<|cH Z<|fO 1 Z<|aV Z<|aV Z<|aV Z<|eT h λds dD h=>zBi Z Z Z (zBg aac (Gg U n.2.1 v0 v1 bl v0 v1 v2 v3 z4 bg ((List.zip bf O.2.2.2.1)) bk (List.zip bi O.1) ak.1 ((List.zip ak.2 az)) ds dD) Z (aI.cons (aF.res 3 Z) (aI.cons (Di Z) (aI.cons (Ja Z) (aI.cons (aF.res 6 Z) (aI.cons (Di Z) (aI.cons (Ja Z) (aI.cons (aF.fact 8 Z) (aI.cons (PQ Z) (aI.cons (c_ (i:=7) (j:=2) Z Z) (aI.cons (fP (i:=4) (j:=5) Z Z cW) (aI.cons (c_ (i:=0) (j:=0) Z Z) .nil)))))))))))) Z (λbp=>(mC [([2],[])] Z)) λbp=>bP 14 Z Z<|cU h λdg h=>aB (bN Z Z (c_ (i:=3) (j:=1) Z Z) Z Z dg) Z<|bF (Know.one ((cB (aF.res 0 Z) jA))) λcb=>bW (fQ 0 Z (cB (aF.res 0 Z) jA))<|bF (aW (yP Z)) λdh=>bW (cJ (iM (Int.toNat ((at' d a.1).2.1)) (yP Z) (cA Z))) ?_;refine yR (pK (us:=[bp]) (o:=0) (q:=1) 2 bp ⟨dg.1,(by have t:=dg.2;have u:=dh;(try simp only[zA1]at t u⊢);omega)⟩ Z Z Z Z (by rw[show(bp).cells = #[bp]from iY cb]) Z Z Z (gJ cb Z) Z) λdV=>?_;refine fJ ?_;exact mW (List.set a.2.1 (Int.toNat ((at' d a.1).2.1)) ds) (List.set b.1 (Int.toNat ((at' d a.1).2.1)) bp) h (.inr Z) (Hi.r0 Z) Z (aZ.ix [1,2,3,4,5,6,7,8,9,10,11,12] Z Z) (iN [0,4,5,6,7,8,9,10,11,12,13,14,15] Z)
      refine eM ?_;exact mW (a.2.1) (b.1) h (.inr Z) (Hi.r0 Z) Z (aZ.ix [1,2,3,4,5,6,7,8,9,10,11,12] Z Z) (iN [1,2,3,4,5,6,7,8,9,10,11,12,13] Z)
     intro a2 bn h;unfold CE at h;refine aO<|aU<|aC Z<|aO<|aR<|aG ?_;exact mW ((0:Int),a2,a.2.2.2,a.2.2.1) (bn,b.2.2.1,b.2.2.2,b.2.1) h (.inl Z) (Hi.r1 Z (RV.tmp Z)) Z (aZ.refl _) (aI.refl _ _)
    refine cL<|aL<|aL<|kU (B:=Unit) (λar=>An U v p2 d a S ar=some r) (λar bq=>[(0,vP n.1),(3,vP cj),(55,vB (ar))]) (λar bq=>[ce,T,ad,V,Y,aa,R,W,D,ao,X,bc,E]) (λar bq=>[ap,aq,an,am,L,M,G,Sl aN v2 v.1,J,K,I,H,Sl cD ab d]) ?_ ?_
    ·refine sW [0,1,3,7,15,31,15,79,207,463,975,15,2063,8143,16335,32719,65535,131071] 16 mixedOrders ?_;refine cH Z<|fO 0 Z<|gC Z (CO Z Z)<|aV Z ?_;refine AY (by exact rfl) (by exact rfl) (by exact rfl) (λa7=>?_) (λa7=>?_)
     ·have h:=Iv a7 h;refine bA Z Z Z Z<|bA Z Z Z Z<|bA Z Z Z Z<|bA Z Z Z Z<|bA Z Z Z Z<|bA Z Z Z Z<|bA Z Z Z Z<|bA Z Z Z Z<|bA Z Z Z Z<|bA Z Z Z Z<|bA Z Z Z Z<|bA Z Z Z Z<|bP 16 Z Z<|aM Z<|dR Z<|aO ?_;exact fT (true) () h SF Z
     have h:=XT a7 h;refine cS Z .nil .nil (cR Z Z Z Z Z) aJ.z<|cS Z (aZ.cons 0 Z .nil) .nil (dL 0 Z Z Z Z Z) aJ.z<|cS Z .nil .nil (eO Z) aJ.z<|cS Z .nil .nil (bX Z) aJ.z<|cS Z .nil .nil (cR Z Z Z Z Z) aJ.z<|cS Z .nil .nil (cR Z Z Z Z Z) aJ.z<|cS Z (aZ.cons 1 Z .nil) .nil (dL 0 Z Z Z Z Z) aJ.z<|cS Z .nil .nil (cR Z Z Z Z Z) aJ.z<|cS Z (aZ.cons 0 Z .nil) .nil (dL 0 Z Z Z Z Z) aJ.z<|cU h λbe h=>cS Z .nil (fN 8 Z) (bN Z Z (cA Z) Z Z be) aJ.z<|cS Z .nil (fN 8 Z) (bT Z (cA Z) Z Z be) aJ.z<|cS Z .nil (fN 8 Z) (fE Z (zBh (cA Z) be.1 be.2) Z) aJ.z<|bP 16 Z Z<|aT Z (yV Z Z) Z<|eV Z<|aO ?_;exact fT (decide (cg<=((at' d a.1).2.2))) () h SF Z
    intro ar bq h;refine tC h Z (λ_ h=>?_) λ_ h=>?_
    ·refine aU<|aC Z<|aO<|aR<|aG ?_;exact mW ((2:Int),a.2.1,a.2.2.2,a.2.2.1) (b.1,b.2.2.1,b.2.2.2,b.2.1) h (.inl Z) (Hi.r1 Z (RV.tmp Z)) Z (aZ.ix [1,2,3,4,5,6,7,8,9,10,11,12] Z Z) (aI.refl _ _)
    refine cL<|aL<|aU<|bU Z<|dQ 0 Z<|cC Z<|aO ?_;refine eN h Z (λh=>?_) λh=>?_
    ·refine aU<|aA Z<|bU Z<|dQ 0 Z<|bU Z<|dQ 0 Z<|Dz (A:=Cq) (B:=List (List V0)×List bj) (vs:=[vP n.1,vI ((at' d a.1).2.1),vI ((at' d a.1).2.2)]) (λag=>CF a S ag=some r) (λag ac=>Value.tuple #[]) (λag ac=>[T,ad,V,Y,aa,R,W,D,ao,X,wK bM.raw n.2.2.2.2.2.2.2.2.2.2.2.2.2.1 ac.1 ac.2,E]) (λag ac=>[De aN ac.2 ag,ap,aq,an,L,M,G,Sl aN v2 v.1,J,K,I,H,Sl cD ab d]) (wL.fn (show bB Tryz.prog 109 from Tryz.call109) Z) Tryz.func109 Z Tryz.ntmps109 Z Z ?_ ?_
     ·refine aU<|aA Z<|aB (bX Z) Z<|bU Z<|bU Z<|dQ 1 Z<|aA Z<|cU h λm h=>aB (bN Z Z (gM (i:=10) (q:=11) (j:=3) Z Z Z) Z Z m) Z<|bF (jY 11 Z) λcq=>bF (aW (Dh Z)) λcr=>aB (gW 10 Z Z (cq.trans cr) Z Z m) Z<|aA Z<|cU h λy h=>aB (bN Z Z (yG (q:=11) (j:=3) Z Z m.1 m.2) Z Z y) Z ?_;refine aC Z<|aO<|aL ?_;refine sW [0,1,3,7,0,16,48,112,255] 8 mixedOrders ?_;refine aV Z<|gC Z (t_ Z)<|a_ (aW (Dh Z)) λbr=>?_;refine a_ (jV (k:=((at' d a.1).2.1)) 11 Z ⟨m.1,(by have t:=m.2;have u:=br;(try simp only[zA1]at t u⊢);omega)⟩) λct=>?_;refine a_ (aW (bR (Dh Z) m.1 m.2)) λcu=>?_;refine aY Z (aZ.cons 11 Z .nil) .nil (cK (f:=λx=>x) Z (nM (q:=0) Z m.1 (by have t:=m.2;have u:=br;(try simp only[zA1]at t u⊢);omega)) Z Z Z iU ⟨y.1,(by have t:=y.2;have u:=ct;have q2:=cu;(try simp only[zA1]at t u q2⊢);omega)⟩) aJ.z ?_;refine aY Z (aZ.cons 11 Z .nil) (fN 3 Z) (dU Z (AZ (q:=0) (j:=0) Z Z m y) Z) aJ.z<|aV Z<|gC Z (bX Z)<|cH Z<|fO 1 Z<|bP 8 Z Z<|cV Z<|aO ?_;refine eN h Z (λh=>?_) λh=>?_
      ·refine sW [0,0,2,6,0,16,48,112,240,0,1008,2032,4080,8176,16382,32767,65535] 15 mixedOrders ?_;refine aV Z<|aV Z<|gC Z (t_ Z)<|a_ (aW (Dh Z)) λbs=>?_;refine a_ (jV (k:=((at' d a.1).2.1)) 11 Z ⟨m.1,(by have t:=m.2;have u:=bs;(try simp only[zA1]at t u⊢);omega)⟩) λcv=>?_;refine a_ (aW (bR (Dh Z) m.1 m.2)) λcw=>?_;refine aY Z (aZ.cons 11 Z .nil) .nil (cK (f:=λx=>x) Z (nM (q:=0) Z m.1 (by have t:=m.2;have u:=bs;(try simp only[zA1]at t u⊢);omega)) Z Z Z iU ⟨y.1,(by have t:=y.2;have u:=cv;have q2:=cw;(try simp only[zA1]at t u q2⊢);omega)⟩) aJ.z ?_;refine aV Z<|gC Z (bX Z)<|cH Z<|cH Z<|fO 1 Z<|aV Z<|cU h λbd h=>a_ (dG (c_ (i:=2) (j:=0) Z Z)) λcx=>gC Z (dW Z Z cx Z Z bd)<|a_ (aW (cA Z)) λcy=>aY Z (aZ.cons 2 Z .nil) .nil (gW 0 Z Z cy Z Z bd) aJ.z<|eT h λci du h=>zBi Z Z Z (zBg adc (Mj U (at' b.1 ((at' d a.1).2.1)) ci du) Z (aI.cons (bR (cA Z) bd.1 bd.2) .nil)) Z (λa0=>(mC [([12],[])] Z)) λa0=>?_;refine a_ (Know.one ((cB (aF.res 0 Z) jA))) λbS=>zBj (fQ 0 Z (cB (aF.res 0 Z) jA))<|zBj (cJ (gR (cA Z) eD))<|zBi Z Z Z (cM (e:=bM.raw) ([a0]) [(0,a0)] Z Z Z Z (jO (a0) bS) Z Z (gJ bS Z)) Z (λdt=>(mC [([12],[])] Z)) λdt=>a_ (jY 12 Z) λdx=>a_ (aW (Di Z)) λbt=>?_;refine a_ (jV (k:=((at' d a.1).2.1)) 12 Z ⟨m.1,(by have t:=m.2;have u:=bt;(try simp only[zA1]at t u⊢);omega)⟩) λcz=>?_;refine zBj (Cs (k:=((at' d a.1).2.1)) 12 Z ⟨m.1,(by have t:=m.2;have u:=bt;(try simp only[zA1]at t u⊢);omega)⟩) ?_;refine a_ (aW (bR (Di Z) m.1 m.2)) λcE=>?_;refine zBj (cJ (bR (bR (Di Z) m.1 m.2) y.1 y.2)) ?_;refine zBj (BO (k:=((at' d a.1).2.2)) 1 Z ⟨y.1,(by have t:=y.2;have u:=cE;(try simp only[zA1]at t u⊢);omega)⟩) ?_;refine a_ (aW (cA Z)) λbu=>a_ (aW (mM Z)) λbw=>cU h λcc h=>zBj (cJ (gF (cA Z) (mM Z))) ?_;refine zBi Z Z Z (aP.append 0 3 Z Z Z Z Z Z Z (by have q:=cc;have t:=bu;have u:=bw;(try simp only[zA9,zAg,zA4]at *);omega) (by have q:=cc;have t:=bu;have u:=bw;(try simp only[zA9,zAg,zA4]at *);omega) Z) Z (λax=>(mC [] Z)) λax=>?_;refine bP 15 Z Z<|aB (t_ Z) Z<|bF (vM (c_ (i:=0) (j:=0) Z Z)) λbV=>bF (aW (ED Z)) λa5=>?_;refine bF (aW (bR (ED Z) m.1 m.2)) λbx=>?_;refine bW (cJ (iM (Int.toNat ((at' d a.1).2.1)) (ED Z) (iM (Int.toNat ((at' d a.1).2.2)) (bR (ED Z) m.1 m.2) (cA Z)))) ?_;refine bW (BM (k:=((at' d a.1).2.2)) 2 0 Z Z Z ⟨y.1,(by have t:=y.2;have u:=a5;have q2:=bx;(try simp only[zA1]at t u q2⊢);omega)⟩) ?_;refine yR (pK (us:=[ax]) (o:=0) (q:=1) 0 ax ⟨y.1,(by have t:=y.2;have u:=a5;have q2:=bx;have q3:=cz;(try simp only[zA1]at t u q2 q3⊢);omega)⟩ Z Z Z Z (by rw[show(ax).cells = #[ax]from iY bV]) Z Z Z (gJ bV Z) Z) λdH=>?_;refine bW (Dk (k:=((at' d a.1).2.1)) (vs:=n.2.2.2.2.2.2.2.2.2.2.2.2.2.1) (wss:=b.2.2.1) (xsss:=b.2.2.2) (i':=13) (j':=0) 14 0 1 Z Z Z Z Z Z Z ⟨m.1,(by have t:=m.2;have u:=a5;(try simp only[zA1]at t u⊢);omega)⟩) ?_;refine fJ ?_;exact mW (List.set a.2.2.2 (Int.toNat ((at' d a.1).2.1)) (List.set (at' a.2.2.2 ((at' d a.1).2.1)) (Int.toNat ((at' d a.1).2.2)) ((at' (at' a.2.2.2 ((at' d a.1).2.1)) ((at' d a.1).2.2))++[ci]))) ((List.set b.2.2.1 (Int.toNat ((at' d a.1).2.1)) (List.set (at' b.2.2.1 ((at' d a.1).2.1)) (Int.toNat ((at' d a.1).2.2)) ax)),(List.set b.2.2.2 (Int.toNat ((at' d a.1).2.1)) (List.set (at' b.2.2.2 ((at' d a.1).2.1)) (Int.toNat ((at' d a.1).2.2)) ((at' (at' b.2.2.2 ((at' d a.1).2.1)) ((at' d a.1).2.2))++[a0])))) h (.inr Z) (Hi.r0 Z) Z (aZ.ix [2,3,4,5,6,7,8,9,10,11,12,13] Z Z) (iN [0,5,6,7,9,10,11,12,13,14,15,16,17] Z)
      refine eM ?_;exact mW (a.2.2.2) (b.2.2.1,b.2.2.2) h (.inr Z) (Hi.r0 Z) Z (aZ.ix [1,2,3,4,5,6,7,8,9,10,11,12] Z Z) (iN [3,0,1,2,4,5,6,7,8,9,10,11,12] Z)
     intro ag ac h;unfold CF at h;refine aO<|aU<|aC Z<|aO<|aR<|aG ?_;exact mW ((0:Int),a.2.1,ag,a.2.2.1) (b.1,ac.1,ac.2,b.2.1) h (.inl Z) (Hi.r1 Z (RV.tmp Z)) Z (aZ.refl _) (iN [1,2,3,0,4,5,6,7,8,9,10,11,12] Z)
    refine cL<|aL ?_;refine sW [0,1,3,7,15,0,32,127,255,0,512,2047,4095,8191,16383] 11 mixedOrders ?_;refine aV Z<|gC Z (bX Z)<|cH Z<|cH Z<|fO 1 Z<|cH Z<|fO 0 Z<|cU h λau h=>aY Z .nil (fN 8 Z) (bN Z Z (cA Z) Z Z au) aJ.z<|aY Z .nil (fN 8 Z) (bT Z (cA Z) Z Z au) aJ.z<|cH Z<|fO 0 Z<|bP 11 Z Z<|cU h λcd h=>aB (bE Z Z (zBh (aF.fact 8 Z) au.1 au.2) Z Z cd) Z<|aB (cZ Z Z Z Z Z) Z<|aB (eL Z (zBh (aF.fact 8 Z) au.1 au.2) Z Z Z gT cd) Z<|aC Z<|aO<|aL ?_;refine sW [0,1,3,7,15,0,63,127,0,256,768,1792,0,0,8192,32512,65535,131071] 16 mixedOrders ?_;refine aV Z<|gC Z (bX Z)<|cH Z<|cH Z<|fO 1 Z<|aV Z<|cU h λg h=>a_ (dG (gM (i:=10) (q:=11) (j:=3) Z Z Z)) λcF=>gC Z (dW Z Z cF Z Z g)<|a_ (jY 11 Z) λcN=>a_ (aW (Dh Z)) λcQ=>aY Z (aZ.cons 10 Z .nil) .nil (gW 0 Z Z (cN.trans cQ) Z Z g) aJ.z<|aV Z<|gC Z (bX Z)<|cH Z<|aY Z (aZ.cons 1 Z .nil) .nil (Ll 0 (us:=[v2,v3]) Z Z Z Z Z Z) aJ.z<|aV Z<|cH Z<|fO 0 Z<|eT h λs dv h=>zBi Z Z Z (zBg TO (Gj U v2 v3 z4 s dv) Z (iN [7,8] Z)) Z (λdw=>(mC [([10],[]),([1],[])] Z)) λdw=>bP 16 Z Z<|cU h λp h=>aB (bN Z Z (yG (q:=11) (j:=3) Z Z g.1 g.2) Z Z p) Z ?_;refine aC Z<|aO<|aL<|aU<|aA Z<|aB (t_ Z) Z<|bF (aW (Dh Z)) λbz=>?_;refine bF (jV (k:=((at' (at' v.2 ((at' d a.1).2.1)) ((at' d a.1).2.2)).1)) 11 Z ⟨g.1,(by have t:=g.2;have u:=bz;(try simp only[zA1]at t u⊢);omega)⟩) λcX=>?_;refine bF (aW (bR (Dh Z) g.1 g.2)) λcY=>?_;refine aB (cK (f:=λx=>x) Z (nM (q:=11) Z g.1 (by have t:=g.2;have u:=bz;(try simp only[zA1]at t u⊢);omega)) Z Z Z iU ⟨p.1,(by have t:=p.2;have u:=cX;have q2:=cY;(try simp only[zA1]at t u q2⊢);omega)⟩) Z ?_;refine aB (dU Z (AZ (q:=11) (j:=3) Z Z g p) Z) Z<|cC Z<|aO ?_;refine eN h Z (λh=>?_) λh=>?_
    ·refine aU<|aC Z<|aO<|aR<|aG ?_;exact mW ((0:Int),a.2.1,a.2.2.2,a.2.2.1) (b.1,b.2.2.1,b.2.2.2,b.2.1) h (.inl Z) (Hi.r1 Z (RV.tmp Z)) Z (aZ.ix [1,2,3,4,5,6,7,8,9,10,11,12] Z Z) (aI.refl _ _)
    refine cL<|aL<|kU (B:=AU) (λah=>Ao v d a S s ah=some r) (λah aj=>[(6,EL (at' n.2.2.2.2.2.2.2.2.2.2.2.2.2.1 ((at' (at' v.2 ((at' d a.1).2.1)) ((at' d a.1).2.2)).1)) (Int.toNat (s)*1))]) (λah aj=>[T,ad,V,Y,aa,R,W,D,gN bM.raw ay aj,X,bc,E]) (λah aj=>[AD aN aj ah,ap,aq,am,L,M,G,Sl aN v2 v.1,J,K,I,H,Sl cD ab d]) ?_ ?_
    ·refine aU<|bU Z<|dQ 0 Z<|cC Z<|aO ?_;refine eN h Z (λh=>?_) λh=>?_
     ·refine sW [0,1,3,7,15,0,32,127,255,0,512,0,2048,6144,14336,30720,65535,131071] 16 mixedOrders ?_;refine aV Z<|gC Z (bX Z)<|cH Z<|cH Z<|fO 1 Z<|cH Z<|fO 0 Z<|cU h λP h=>a_ (dG (gA (i:=8) (q:=9) (j:=2) Z Z Z)) λc5=>gC Z (dW Z Z c5 Z Z P)<|a_ (dX 9 Z) λc6=>a_ (aW (yP Z)) λc7=>aY Z (aZ.cons 8 Z .nil) .nil (gW 0 Z Z (c6.trans c7) Z Z P) aJ.z<|cH Z<|fO 0 Z<|aV Z<|gC Z (t_ Z)<|a_ (aW (Dh Z)) λbK=>?_;refine a_ (jV (k:=((at' (at' v.2 ((at' d a.1).2.1)) ((at' d a.1).2.2)).1)) 11 Z ⟨g.1,(by have t:=g.2;have u:=bK;(try simp only[zA1]at t u⊢);omega)⟩) λc8=>?_;refine a_ (aW (bR (Dh Z) g.1 g.2)) λc9=>?_;refine aY Z (aZ.cons 11 Z .nil) .nil (cK (f:=λx=>x) Z (nM (q:=0) Z g.1 (by have t:=g.2;have u:=bK;(try simp only[zA1]at t u⊢);omega)) Z Z Z iU ⟨p.1,(by have t:=p.2;have u:=c8;have q2:=c9;(try simp only[zA1]at t u q2⊢);omega)⟩) aJ.z<|cU h λal h=>a_ (dG (AZ (q:=11) (j:=3) Z Z g p)) λda=>gC Z (dW Z Z da Z Z al)<|a_ (aW (Dh Z)) λdb=>?_;refine a_ (aW (bR (Dh Z) g.1 g.2)) λdc=>?_;refine a_ (aW (bR (bR (Dh Z) g.1 g.2) p.1 p.2)) λdd=>?_;refine aY Z (aZ.cons 11 Z .nil) .nil (cK (f:=λx=>x) Z (JP (q:=0) Z ⟨g.1,(by have t:=g.2;have u:=db;(try simp only[zA1]at t u⊢);omega)⟩ ⟨p.1,(by have t:=p.2;have u:=dc;(try simp only[zA1]at t u⊢);omega)⟩) Z Z Z iU ⟨al.1,(by have t:=al.2;have u:=dd;(try simp only[zA1]at t u⊢);omega)⟩) aJ.z ?_;refine bP 16 Z Z<|cU h λb6 h=>aB (bN Z Z (Gu (q:=9) (j:=2) Z Z P.1 P.2) Z Z b6) Z ?_;refine bF (Know.one ((bR (bR (bR (Dh Z) g.1 g.2) p.1 p.2) al.1 al.2))) λb0=>?_;refine bF (aW (yP Z)) λde=>?_;refine bF (aW (bR (yP Z) P.1 P.2)) λdf=>?_;refine bW (cJ (iM (Int.toNat ((at' d a.1).2.1)) (yP Z) (iM (Int.toNat ((at' d a.1).2.2)) (bR (yP Z) P.1 P.2) (bR (bR (bR (Dh Z) g.1 g.2) p.1 p.2) al.1 al.2)))) ?_;refine yR (yS (us:=[at' (at' (at' b.2.2.2 ((at' (at' v.2 ((at' d a.1).2.1)) ((at' d a.1).2.2)).1)) s) (0:Int)]) (o:=0) (q:=1) (k:=((at' d a.1).2.1)) 9 (at' (at' (at' b.2.2.2 ((at' (at' v.2 ((at' d a.1).2.1)) ((at' d a.1).2.2)).1)) s) (0:Int)) ⟨P.1,(by have t:=P.2;have u:=de;(try simp only[zA1]at t u⊢);omega)⟩ ⟨b6.1,(by have t:=b6.2;have u:=df;(try simp only[zA1]at t u⊢);omega)⟩ Z Z Z Z (by rw[iY b0]) Z Z Z (gJ b0 Z) Z) λdJ=>?_;refine aO ?_;exact cI (List.set a.2.2.1 (Int.toNat ((at' d a.1).2.1)) (List.set (at' a.2.2.1 ((at' d a.1).2.1)) (Int.toNat ((at' d a.1).2.2)) (at' (at' (at' a.2.2.2 ((at' (at' v.2 ((at' d a.1).2.1)) ((at' d a.1).2.2)).1)) s) (0:Int)))) (List.set b.2.1 (Int.toNat ((at' d a.1).2.1)) (List.set (at' b.2.1 ((at' d a.1).2.1)) (Int.toNat ((at' d a.1).2.2)) (at' (at' (at' b.2.2.2 ((at' (at' v.2 ((at' d a.1).2.1)) ((at' d a.1).2.2)).1)) s) (0:Int)))) h SF (aZ.ix [1,2,3,4,5,6,7,8,9,10,11,12] Z Z) (iN [0,1,2,4,5,6,7,8,9,10,11,12,13] Z)
     refine cL ?_;exact cI (a.2.2.1) (b.2.1) h SF (aZ.ix [1,2,3,4,5,6,7,8,9,10,11,12] Z Z) (iN [2,0,1,3,4,5,6,7,8,9,10,11,12] Z)
    intro ah aj h;refine aU<|aA Z<|aA Z<|aB (t_ Z) Z<|bF (aW (Dh Z)) λbC=>?_;refine bF (jV (k:=((at' (at' v.2 ((at' d a.1).2.1)) ((at' d a.1).2.2)).1)) 10 Z ⟨g.1,(by have t:=g.2;have u:=bC;(try simp only[zA1]at t u⊢);omega)⟩) λc0=>?_;refine bF (aW (bR (Dh Z) g.1 g.2)) λc1=>?_;refine aB (cK (f:=λx=>x) Z (nM (q:=10) Z g.1 (by have t:=g.2;have u:=bC;(try simp only[zA1]at t u⊢);omega)) Z Z Z iU ⟨p.1,(by have t:=p.2;have u:=c0;have q2:=c1;(try simp only[zA1]at t u q2⊢);omega)⟩) Z ?_;refine bF (jY 10 Z) λdy=>bF (aW (Dh Z)) λbG=>?_;refine bF (jV (k:=((at' (at' v.2 ((at' d a.1).2.1)) ((at' d a.1).2.2)).1)) 10 Z ⟨g.1,(by have t:=g.2;have u:=bG;(try simp only[zA1]at t u⊢);omega)⟩) λc2=>?_;refine bW (Cs (k:=((at' (at' v.2 ((at' d a.1).2.1)) ((at' d a.1).2.2)).1)) 10 Z ⟨g.1,(by have t:=g.2;have u:=bG;(try simp only[zA1]at t u⊢);omega)⟩) ?_;refine bF (aW (bR (Dh Z) g.1 g.2)) λc3=>?_;refine bW (cJ (bR (bR (Dh Z) g.1 g.2) p.1 p.2)) ?_;refine bW (BO (k:=s) 1 Z ⟨p.1,(by have t:=p.2;have u:=c3;(try simp only[zA1]at t u⊢);omega)⟩)<|cU h λdp h=>bF (aW (cA Z)) λc4=>bW (cJ (gF (Oo (Int.toNat (0:Int)) (cA Z)) (Ib (Int.toNat (1:Int)) (cA Z)))) ?_;refine aK (EF (Min:=[Ar bM.raw (at' (at' b.2.2.1 ((at' (at' v.2 ((at' d a.1).2.1)) ((at' d a.1).2.2)).1)) s) (at' (at' b.2.2.2 ((at' (at' v.2 ((at' d a.1).2.1)) ((at' d a.1).2.2)).1)) s)]) (Mr:=[Ar bM.raw (at' n.2.2.2.2.2.2.2.2.2.2.2.2.2.1 ((at' (at' v.2 ((at' d a.1).2.1)) ((at' d a.1).2.2)).1)) (at' b.2.2.1 ((at' (at' v.2 ((at' d a.1).2.1)) ((at' d a.1).2.2)).1)),gN bM.raw (List.set (at' b.2.2.1 ((at' (at' v.2 ((at' d a.1).2.1)) ((at' d a.1).2.2)).1)) (Int.toNat s) (cT)) (List.set (at' b.2.2.2 ((at' (at' v.2 ((at' d a.1).2.1)) ((at' d a.1).2.2)).1)) (Int.toNat s) []),T,ad,V,Y,aa,R,W,D,gN bM.raw ay aj,X,wK bM.raw (List.set n.2.2.2.2.2.2.2.2.2.2.2.2.2.1 (Int.toNat ((at' (at' v.2 ((at' d a.1).2.1)) ((at' d a.1).2.2)).1)) (cT)) (List.set b.2.2.1 (Int.toNat ((at' (at' v.2 ((at' d a.1).2.1)) ((at' d a.1).2.2)).1)) []) (List.set b.2.2.2 (Int.toNat ((at' (at' v.2 ((at' d a.1).2.1)) ((at' d a.1).2.2)).1)) []),E]) ZW (JI U (at' (at' b.2.2.1 ((at' (at' v.2 ((at' d a.1).2.1)) ((at' d a.1).2.2)).1)) s) (p0:=at' (at' b.2.2.2 ((at' (at' v.2 ((at' d a.1).2.1)) ((at' d a.1).2.2)).1)) s) (p1:=(0:Int)) (p2:=(1:Int)) (List.take (Int.toNat (0:Int)) (at' (at' b.2.2.2 ((at' (at' v.2 ((at' d a.1).2.1)) ((at' d a.1).2.2)).1)) s)++List.drop (Int.toNat (1:Int)) (at' (at' b.2.2.2 ((at' (at' v.2 ((at' d a.1).2.1)) ((at' d a.1).2.2)).1)) s)) (by have t:=dp;have u:=c4;unfold Em ck;rw[if_pos (by omega),if_neg (by omega),if_pos (by omega),if_pos (by omega),if_pos (by omega)])) Z (aZ.refl _) aI.nil (λ_ _=>rfl)) Z λa1=>?_;refine aB (t_ Z) Z<|bF (vM (c_ (i:=0) (j:=0) Z Z)) λbY=>bF (aW (Di Z)) λa6=>?_;refine bF (aW (bR (Di Z) g.1 g.2)) λbH=>?_;refine bW (cJ (iM (Int.toNat ((at' (at' v.2 ((at' d a.1).2.1)) ((at' d a.1).2.2)).1)) (Di Z) (iM (Int.toNat s) (bR (Di Z) g.1 g.2) (cA Z)))) ?_;refine bW (BM (k:=s) 2 0 Z Z Z ⟨p.1,(by have t:=p.2;have u:=a6;have q2:=bH;(try simp only[zA1]at t u q2⊢);omega)⟩) ?_;refine yR (pK (us:=[a1]) (o:=0) (q:=1) 0 a1 ⟨p.1,(by have t:=p.2;have u:=a6;have q2:=bH;have q3:=c2;(try simp only[zA1]at t u q2 q3⊢);omega)⟩ Z Z Z Z (by rw[show(a1).cells = #[a1]from iY bY]) Z Z Z (gJ bY Z) Z) λdI=>?_;refine bW (Dk (k:=((at' (at' v.2 ((at' d a.1).2.1)) ((at' d a.1).2.2)).1)) (vs:=n.2.2.2.2.2.2.2.2.2.2.2.2.2.1) (wss:=b.2.2.1) (xsss:=b.2.2.2) (i':=11) (j':=0) 12 0 1 Z Z Z Z Z Z Z ⟨g.1,(by have t:=g.2;have u:=a6;(try simp only[zA1]at t u⊢);omega)⟩) ?_;refine aO<|aU<|aC Z<|aO<|aR ?_;exact mW ((0:Int),a.2.1,(List.set a.2.2.2 (Int.toNat ((at' (at' v.2 ((at' d a.1).2.1)) ((at' d a.1).2.2)).1)) (List.set (at' a.2.2.2 ((at' (at' v.2 ((at' d a.1).2.1)) ((at' d a.1).2.2)).1)) (Int.toNat s) (List.take (Int.toNat (0:Int)) (at' (at' a.2.2.2 ((at' (at' v.2 ((at' d a.1).2.1)) ((at' d a.1).2.2)).1)) s)++List.drop (Int.toNat (1:Int)) (at' (at' a.2.2.2 ((at' (at' v.2 ((at' d a.1).2.1)) ((at' d a.1).2.2)).1)) s)))),ah) (b.1,(List.set b.2.2.1 (Int.toNat ((at' (at' v.2 ((at' d a.1).2.1)) ((at' d a.1).2.2)).1)) (List.set (at' b.2.2.1 ((at' (at' v.2 ((at' d a.1).2.1)) ((at' d a.1).2.2)).1)) (Int.toNat s) a1)),(List.set b.2.2.2 (Int.toNat ((at' (at' v.2 ((at' d a.1).2.1)) ((at' d a.1).2.2)).1)) (List.set (at' b.2.2.2 ((at' (at' v.2 ((at' d a.1).2.1)) ((at' d a.1).2.2)).1)) (Int.toNat s) (List.take (Int.toNat (0:Int)) (at' (at' b.2.2.2 ((at' (at' v.2 ((at' d a.1).2.1)) ((at' d a.1).2.2)).1)) s)++List.drop (Int.toNat (1:Int)) (at' (at' b.2.2.2 ((at' (at' v.2 ((at' d a.1).2.1)) ((at' d a.1).2.2)).1)) s)))),aj) h (.inl Z) (Hi.r1 Z (RV.tmp Z)) Z (aZ.refl _) (iN [4,5,3,0,7,8,9,10,11,12,13,14,15] Z)
   intro ae Q h;refine aC Z<|aO<|aU<|aA Z<|k_ Z<|aO ?_;refine eN h Z (λh=>?_) λh=>?_
   ·refine aU ?_;refine aB (Ov (r:=Value.agg #[cT,cT,cT]) (by intro w;simp[Instr.build,Instr.fill,eZ,eF,dO,e_,fC,eG,fR])) Z ?_;refine aA Z<|cG 11 (vs:=[cT,cT,cT]) Z Z Z Z Z Z<|aC Z<|aO<|aR<|bI<|aG<|aG<|bI<|aG ?_;cases h;exact hZ ((cT),([]),(cT),([]),(cT),([])) Z Z (RV.cell 11 Z Z Z Z) (RV.tmp Z) .nil (aI.cons mX (aI.cons mX (aI.cons mX aI.nil)))
   refine eM<|lL<|aQ<|cP Z<|aA Z<|aO ?_;exact xY ((wI .i64 (a.1+(1:Int))),ae.2.1,ae.2.2.2,ae.2.2.1) (Q.1,Q.2.2.2,Q.2.1,Q.2.2.1) h SF Z
  refine fG ?_;exact fT (a.2.1,a.2.2.1,a.2.2.2) (b.1,b.2.1,b.2.2.1,b.2.2.2) h SF Z
 intro ai F h;let cf:=wK bM.raw n.2.2.2.2.2.2.2.2.2.2.2.2.2.1 F.2.2.1 F.2.2.2;unfold CC at h;refine aU<|aA Z<|aB (bX Z) Z<|bU Z<|aB (Ll 0 (us:=[N,aw,av]) Z Z Z Z Z Z) Z<|bF (vM (c_ (i:=1) (j:=0) Z Z)) λdl=>bF (vM (gA (i:=7) (q:=8) (j:=2) Z Z Z)) λdm=>bF (vM (gM (i:=9) (q:=10) (j:=3) Z Z Z)) λdn=>cG 11 (vs:=[n.2.2.1,n.2.2.2.1,n.2.2.2.2.1]) Z Z (gJ dl (gJ dm (gJ dn Z))) Z Z Z<|aC Z<|aO<|aR<|bW (fQ 1 Z (c_ (i:=0) (j:=0) Z Z))<|bW (sU [D,gN bM.raw ay F.2.1] [T,V,Y,aa,R,W,X,cf,bL b4 [N,aw,av] 43] (aZ.ix [6,7,0,1,2,3,4,5,8,9,10] Z Z) (gA (i:=0) (q:=1) (j:=3) Z Z Z))<|bW (sU [X,cf] [T,V,Y,aa,R,W,bL b4 [N,aw,av] 43] (aZ.ix [6,7,0,1,2,3,4,5,8] Z Z) (gM (i:=0) (q:=1) (j:=5) Z Z Z)) ?_;cases h;exact hZ (N,(List.zip F.1 ai.1),aw,(Z3 ay F.2.1 ai.2.1),av,(Z4 n.2.2.2.2.2.2.2.2.2.2.2.2.2.1 F.2.2.1 F.2.2.2 ai.2.2)) Z Z (RV.cell 6 Z Z Z Z) (RV.tmp Z) .nil (iN [2,1,0] Z)
end Go.Proofs.YtflciafboapaaaaGreat
namespace Go.Proofs.YtflciafboapaaaaGreat
open Go Go.Sx
theorem Yv {g:GR} (hV:VG g) {v i:Nat} (hv:v<g.2.length) (hi:i<(row g v).length):Bg (row g (Az g v i)) (v:Int)=(GZ g v i:Int):=by
 have e:=Bi hV hv hi;obtain⟨j,hj,hjv,_⟩:=hV.sym v hv i hi;have hr:at' g.2 (jP (row g v) i).1=row g (Az g v i):=by rw[e]
 rw[hr]at hj hjv;rcases vV (row g (Az g v i)) (v:Int)with⟨k,hk,hkv,hkf,hke⟩|⟨hf,_⟩
 ·unfold GZ;omega
 ·exact absurd hjv (hf j hj)
def Ho (S:MG) (vars:List D_) (R:List RL) (c:bO) (v:Nat):bQ:=if 0<=AP S R c v then NK S vars R c v (AP S R c v)else at' c (v:Int)
def HL (g:GR) (e:Int×Int×Int):Bool:=decide ((1<=e.1/\e.1<=4)/\(0<=e.2.1/\e.2.1<(g.2.length:Int))/\(e.1=1\/(0<=e.2.2/\e.2.2<((at' g.2 e.2.1).length:Int))))
def Zw (e:Int×Int×Int):Nat×Nat×Nat:=(e.1.toNat,e.2.1.toNat,e.2.2.toNat)
def perfs (g:GR) (a:bO->Nat->bQ) (cap:Nat) (y:Cr) (l:kC):Cr:=l.foldl (λy e=>Es g a cap y (Zw e)) y
theorem adw {g:GR} {e:Int×Int×Int} (h:HL g e=true):acs g (Zw e):=by
 obtain⟨k,v,i⟩:=e;obtain⟨⟨d,f⟩,⟨a,j⟩,b⟩:=zB2 h;refine⟨⟨?_,?_⟩,?_,?_⟩<;>simp only[Zw]at * 
 ·omega
 ·omega
 ·omega
 ·rcases b with h|⟨l,c⟩
  ·left;omega
  ·right;have:at' g.2 v=row g v.toNat:=by
    show at' g.2 v=at' g.2 ((v.toNat:Nat):Int);rw[Int.toNat_of_nonneg a]
   rw[this]at c;omega
structure VY (g:GR) (vars:List D_) (cap:Nat) (y:Cr):Prop where
 sh:SH g y
 all:Mz g (λv l=>Ff g vars v l=true) y
 cp:Cap g cap y
theorem acJ {a:Type} [Inhabited a] {l:List a} {s:a} (h:s∈l):∃k,k<l.length/\at' l (k:Int)=s:=by
 obtain⟨k,b,e⟩:=List.getElem_of_mem h;exact⟨k,b,by rw[jS b];exact e⟩
theorem KZ {g:GR} {d:List D_} {e:Int} {y:Cr}:US g d e y=true↔(1<=e/\e<=8)/\VY g d e.toNat y:=by
 unfold US Ua;simp only[zA6,zAa,nZ];constructor
 ·rintro⟨⟨n,o⟩,m,p,q,r⟩;have j:∀v,v<g.2.length->((at' y.2.1 (v:Int)).length=(row g v).length/\(at' y.2.2 (v:Int)).length=(row g v).length)/\∀i,i<(row g v).length->Ff g d (Az g v i) (rI y.2.1 v i)=true/\((rI y.2.2 v i).length:Int)<=e/\∀k,k<(rI y.2.2 v i).length->Ff g d v (at' (rI y.2.2 v i) (k:Int))=true:=λv b=>by
   have:=r v b;unfold rvB at this;simp only[zA6,zAa,nZ]at this;refine⟨⟨this.1,this.2.1⟩,λi f=> ?_⟩
   have:=this.2.2 i f;unfold wiB at this;simp only[zA6,zAa,nZ]at this;exact this
  refine⟨m,⟨n,⟨p,λv b=>(j v b).1.1⟩,⟨q,λv b=>(j v b).1.2⟩⟩,⟨o,λv i b f=>((j v b).2 i f).1,λv i b f s t=> ?_⟩,λv i b f=> ?_⟩
  ·obtain⟨k,l,rfl⟩:=acJ t;exact((j v b).2 i f).2.2 k l
  ·have:=((j v b).2 i f).2.1;omega
 ·rintro⟨m,h⟩;refine⟨⟨h.sh.c,h.all.c⟩,m,h.sh.a.len,h.sh.w.len,λv b=> ?_⟩
  unfold rvB;simp only[zA6,zAa,nZ];refine⟨h.sh.a.row v b,h.sh.w.row v b,λi f=> ?_⟩
  unfold wiB;simp only[zA6,zAa,nZ];refine⟨h.all.a v i b f,by have:=h.cp v i b f;omega,λk l=>h.all.w v i b f _ ?_⟩
  rw[jS l];exact zBe l
theorem Dv {g:GR} {a:List D_} {v:Nat} {l:bQ}:Ff g a v l=true↔l.length=a.length/\∀x,x<a.length->(qF g a v x).1<=at' l (x:Int)/\at' l (x:Int)<=(qF g a v x).2:=by
 unfold Ff;simp only[zA6,zAa,nZ]
theorem Yw {g:GR} {a:List D_} {c:bO} (e:c.length=g.2.length) (d:∀x,x<g.2.length->Ff g a x (at' c (x:Int))=true):Wc g c a:=
 ⟨e,λv b=>(Dv.1 (d v b)).1,λv b x f=>(Dv.1 (d v b)).2 x f⟩
theorem Sp {B:Type} {g:GR} (h:VG g) {s2:(Int×Int×bO)->((Int×Int×bO)->Option B)->(Int×bO)->((Int×bO)->Option B)->Option B}
  {s1:(Int×Int×bO)->((Int×Int×bO)->Option B)->Option B} {K:Int×bO->Option B}
  (o:∀a d,s1 a d=if a.1<(g.2.length:Int)then ck (0<=a.1/\a.1<(g.2.length:Int)) (ck (0<=a.1/\a.1<(g.1.length:Int)) (bJ (s2 a d) 1000 ((0:Int),a.2.2)))else K (a.2.1,a.2.2))
  (p:∀a d b e,s2 a d b e=if b.1<((at' g.2 a.1).length:Int)then ck (0<=b.1/\b.1<((at' g.2 a.1).length:Int)) (ck (0<=a.1/\a.1<(b.2.length:Int)) (Option.bind (mO 1000 g ((at' (at' g.2 a.1) b.1).1) a.1) λr=>ck (((at' b.2 a.1).length:Int)+(List.length [r]:Int)<=1099511627) (ck (0<=a.1/\a.1<((List.set b.2 (Int.toNat a.1) (at' b.2 a.1++[r])).length:Int)) (e (wI .i64 (b.1+1),List.set b.2 (Int.toNat a.1) (at' b.2 a.1++[r]))))))else d (wI .i64 (a.1+1),max a.2.1 (at' g.1 a.1),b.2)):
  bJ s1 1000 ((0:Int),(0:Int),(List.replicate (Int.toNat (g.2.length:Int)) ([]:bQ)))=K (jF g g.2.length,lP g):=by
 have C:=h.n24;have t:=h.len;let f:Nat->bQ:=λv=>(List.range (row g v).length).map (TL g v);let Q:Nat->bO:=λk=>(List.range k).map f++List.replicate (g.2.length - k) [];have q:∀k,k<=g.2.length->(Q k).length=g.2.length:=λk l=>by simp[Q];omega
 rw[show List.replicate (Int.toNat (g.2.length:Int)) ([]:bQ)=Q 0 by simp[Q]];refine dJ (step:=s1) g.2.length (λk=>((k:Int),jF g k,Q k)) (λk d l=> ?_) (λd=> ?_) 1000 (by omega)
 ·have s:=(h.node k l).deg;have w:k<(Q k).length:=by rw[q k (by omega)];exact l
  rw[o];dsimp only;rw[if_pos (by omega),cF (by omega),cF (by omega)];let c:Nat->bQ:=λj=>(List.range j).map (TL g k);have z:Q k=(Q k).set k (c 0):=by
   have:at' (Q k) (k:Int)=c 0:=by
    rw[jS w];simp[Q,c]
   rw[<-this];exact(Fe (Q k) (k:Int) (by simpa using w) (by omega)).symm
  have i:∀A:bO,A.length=g.2.length->bJ (s2 ((k:Int),jF g k,Q k) d) 1000 ((0:Int),A.set k (c 0))=d (((k+1:Nat):Int),jF g (k+1),A.set k (f k)):=by
   intro A F;refine dJ (step:=s2 ((k:Int),jF g k,Q k) d) (K:=d (((k+1:Nat):Int),jF g (k+1),A.set k (f k))) (row g k).length (λj=>((j:Int),A.set k (c j))) (λj e E=> ?_) (λe=> ?_) 1000 (by omega)
   ·obtain⟨u,x,m⟩:=h.to l E;have D:=(h.node u x).deg;have y:at' (A.set k (c j)) (k:Int)=c j:=by rw[CP _ _ _ _ (by omega),if_pos Z]
    have n:(c j).length=j:=by simp[c]
    rw[p];dsimp only;rw[if_pos (show(j:Int)<((row g k).length:Int) by omega),cF (show 0<=(j:Int)/\(j:Int)<((row g k).length:Int) by omega),cF (by simp only[zA1];omega),show at' (at' g.2 (k:Int)) (j:Int)=jP (row g k) j from rfl,m,bG (show mO 1000 _ (u:Int) (k:Int)=_ from NM g u (k:Int) x (by omega)),y,cF (by rw[n];simp;omega),cF (by simp only[zA1];omega),dD (by omega),zAi,List.set_set];have:c j++[Bg (row g u) (k:Int)]=c (j+1):=by
     simp only[c];rw[List.range_succ,List.map_append,List.map_singleton,TL,m,zAi]
    rw[this]
   ·rw[p];dsimp only;rw[if_neg (show¬((row g k).length:Int)<((row g k).length:Int)from Int.lt_irrefl _),dD (by omega)];rfl
  have:=i (Q k) (q k (by omega));rw[Bt f [] g.2.length k l,<-z]at this;exact this
 ·rw[o];dsimp only;rw[if_neg (by omega)];simp[Q,lP,f]
section
variable {g:GR} {vars:List D_} {cap:Nat} {y:Cr}
theorem VY.rowc (h:VY g vars cap y) {v:Nat} (a:v<g.2.length):(at' y.1 (v:Int)).length=vars.length:=(Dv.1 (h.all.c v a)).1
theorem VY.rowa (h:VY g vars cap y) (d:VG g) {v i:Nat} (c:v<g.2.length) (b:i<(row g v).length):(rI y.2.1 v i).length=vars.length:=(Dv.1 (h.all.a v i c b)).1
theorem VY.roww (h:VY g vars cap y) {v i k:Nat} (c:v<g.2.length) (b:i<(row g v).length) (a:k<(rI y.2.2 v i).length):(at' (rI y.2.2 v i) (k:Int)).length=vars.length:=(Dv.1 (h.all.w v i c b _ (by rw[jS a];exact zBe a))).1
theorem J_ {B:Type} (u:VG g) (h:VY g vars cap y) (M:cap<=8) (N:vars.length<=20) {cp:List (List Int)->Option (List (List Int))} (o:∀c:List (List Int),c.length<=900->(∀v,v<c.length->(at' c (v:Int)).length<=1000)->cp c=some c)
  {s4:(Int×List (List (List Int))×List (List (List (List Int))))->((Int×List (List (List Int))×List (List (List (List Int))))->Option B)->List (List Int)->(List (List (List Int))×Int)->((List (List (List Int))×Int)->Option B)->Option B}
  {s3:(Int×List (List (List Int))×List (List (List (List Int))))->((Int×List (List (List Int))×List (List (List (List Int))))->Option B)->Option B} {K:List (List (List Int))×List (List (List (List Int)))->Option B}
  (F:∀(k:Nat) l m f,k<y.2.1.length->k<y.2.2.length->l.length<=900->s3 ((k:Int),l,m) f=Option.bind (cp (at' y.2.1 (k:Int))) λr=>bJ (s4 ((k:Int),l,m) f r) 1000 (([]:List (List (List Int))),(0:Int)))
  (s:∀l m f,s3 ((y.2.1.length:Int),l,m) f=K (l,m))
  (G:∀(k j:Nat) l m f r b d,k<y.2.1.length->k<y.2.2.length->j<(at' y.2.2 (k:Int)).length->b.length<=900->s4 ((k:Int),l,m) f r (b,(j:Int)) d=Option.bind (cp (at' (at' y.2.2 (k:Int)) (j:Int))) λq=>d (b++[q],((j+1:Nat):Int)))
  (t:∀(k:Nat) l m f r b d,k<y.2.1.length->k<y.2.2.length->m.length<=900->s4 ((k:Int),l,m) f r (b,((at' y.2.2 (k:Int)).length:Int)) d=f (((k+1:Nat):Int),l++[r],m++[b])):
  bJ s3 1000 ((0:Int),([]:List (List (List Int))),([]:List (List (List (List Int)))))=K y.2:=by
 have E:=u.n24;have I:=h.sh.a.len;have J:=h.sh.w.len;have e:K y.2=K (y.2.1.take y.2.1.length,y.2.2.take y.2.1.length):=by rw[zB3,I,<-J,zB3]
 rw[e];refine dJ (step:=s3) y.2.1.length (λk=>((k:Int),y.2.1.take k,y.2.2.take k)) (λk f p=> ?_) (λf=>s _ _ f) 1000 (by omega);have n:k<g.2.length:=by omega
 have z:=(u.node k n).deg;have O:=h.sh.a.row k n;have L:=h.sh.w.row k n;rw[F k _ _ f p (by omega) (by simp;omega),bG (o (at' y.2.1 (k:Int)) (by omega) λi A=>by have:=h.rowa u n (i:=i) (by omega);show(rI y.2.1 k i).length<=1000;omega)];have x:bJ (s4 ((k:Int),y.2.1.take k,y.2.2.take k) f (at' y.2.1 (k:Int))) 1000 (([]:List (List (List Int))),(0:Int))=f (((k+1:Nat):Int),y.2.1.take k++[at' y.2.1 (k:Int)],y.2.2.take k++[at' y.2.2 (k:Int)]):=by
  have D:∀d,s4 ((k:Int),y.2.1.take k,y.2.2.take k) f (at' y.2.1 (k:Int)) ((at' y.2.2 (k:Int)).take (at' y.2.2 (k:Int)).length,((at' y.2.2 (k:Int)).length:Int)) d=f (((k+1:Nat):Int),y.2.1.take k++[at' y.2.1 (k:Int)],y.2.2.take k++[at' y.2.2 (k:Int)]):=λd=>by
   rw[t k _ _ f _ _ d p (by omega) (by simp;omega),zB3]
  refine dJ (step:=s4 ((k:Int),y.2.1.take k,y.2.2.take k) f (at' y.2.1 (k:Int))) (at' y.2.2 (k:Int)).length (λj=>((at' y.2.2 (k:Int)).take j,(j:Int))) (λj d C=> ?_) D 1000 (by omega);have H:=h.cp k j n (by omega);rw[G k j _ _ f _ _ d p (by omega) C (by simp;omega),bG (o (at' (at' y.2.2 (k:Int)) (j:Int)) (by show(rI y.2.2 k j).length<=900;omega) λi A=>by have:=h.roww n (i:=j) (k:=i) (by omega) A;show(at' (rI y.2.2 k j) (i:Int)).length<=1000;omega),nW C]
 rw[x,nW p,nW (show k<y.2.2.length by omega)]
theorem Ob {B:Type} (b:VG g) (h:SH g y) {v:Nat} (l:v<g.2.length) {s:(Int×List (List Int))->((Int×List (List Int))->Option B)->Option B} {K:List (List Int)->Option B}
  (k:∀(i:Nat) c a,i<(row g v).length->c.length=y.1.length->s ((i:Int),c) a=a (((i+1:Nat):Int),c.set (Az g v i) (rI y.2.1 v i))) (f:∀c a,c.length=y.1.length->s (((row g v).length:Int),c) a=K c):bJ s 1000 ((0:Int),y.1)=K (vw g y v):=by
 have d:=(b.node v l).deg;have e:=b.n24;exact dJ (step:=s) (row g v).length (λi=>((i:Int),vwN g y v i)) (λi a j=>k i _ a j (GW g y v i)) (λa=>f _ a (GW g y v _)) 1000 (by omega)
end
theorem VB {X B:Type} {n:Nat} {b:Nat->Bool} (F:Nat->X) {step:X->(X->Option B)->Option B} {Z K:Option B}
  (f:∀(k:Nat) a,k<n->(∀j,j<k->b j=true)->step (F k) a=if b k=true then a (F (k+1))else Z) (l:(∀j,j<n->b j=true)->∀a,step (F n) a=K) (p:n<1000):bJ step 1000 (F 0)=if Df n b=true then K else Z:=by
 by_cases h:Df n b=true
 ·rw[if_pos h];have d:=nZ.1 h;exact dJ n F (λk a c=>by rw[f k a c (λj o=>d j (by omega)),if_pos (d k c)]) (l d) 1000 p
 ·rw[if_neg h];obtain⟨m,g,i,e⟩:=Lm h;exact dJ m F (λk a c=>by rw[f k a (by omega) (λj o=>e j (by omega)),if_pos (e k c)]) (λa=>by rw[f m a g e,if_neg (by rw[i];decide)]) 1000 (by omega)
theorem HP {g:GR} {b:List (List Int)->Nat->List Int} {a:Nat} {y:Cr} {l:List (Int×Int×Int)} {k:Nat} (c:k<l.length):perfs g b a y (l.take (k+1))=Es g b a (perfs g b a y (l.take k)) (Zw (at' l (k:Int))):=by
 rw[show l.take (k+1)=l.take k++[at' l (k:Int)]from by first|exact(nW c).symm|exact nW c];unfold perfs;rw[List.foldl_append];rfl
section
variable {g:GR} {p:Fz} {R:List RL} {cap:Nat} {y:Cr}
theorem YM {S:MG} {a:List D_} {c:List (List Int)} {v:Nat} (k:jR S.2.1 a) (l:List (Nat×E)):(∀s∈l,s.1<a.length)->∀b,Ff S.2.1 a v b=true->Ff S.2.1 a v (l.foldl (Kv S a c v) b)=true:=by
 induction l with
 |nil=>exact λ_ b h=>h
 | cons s l ih =>
  intro f b h;rw[List.foldl_cons];refine ih (λx d=>f x (zAl _ d)) _ ?_;have m:=f s (zAf ..);obtain⟨i,j⟩:=Dv.1 h;refine Dv.2 ⟨by simp[Kv,i],λx d=> ?_⟩;unfold Kv;rw[CP _ _ _ _ (by omega)];by_cases e:x=s.1
  ·subst e;rw[if_pos Z];exact Vj k m v _
  ·rw[if_neg e];exact j x d
theorem Tb (k:jR g p.2.1) (h:pA p.2.1.length R=true):
  ∀c:List (List Int),c.length=g.2.length->(∀x,x<g.2.length->Ff g p.2.1 x (at' c (x:Int))=true)->∀v,v<g.2.length->Ff g p.2.1 v (Ho (eB p g) p.2.1 R c v)=true:=λc m d v f=>by
 unfold Ho;by_cases b:0<=AP (eB p g) R c v
 ·rw[if_pos b];obtain⟨i,j,a,_⟩:=(LY (eB p g) R c v).resolve_left (λe=>by omega);rw[j];exact YM (S:=eB p g) k _ (λs l=>((KW h a).2.2 s l).1) _ (d v f)
 ·rw[if_neg b];exact d v f
theorem VY.perf {f:List (List Int)->Nat->List Int} {d:List D_} (i:VG g) (h:VY g d cap y) {e:Nat×Nat×Nat} (j:acs g e) (k:∀c:List (List Int),c.length=g.2.length->(∀x,x<g.2.length->Ff g d x (at' c (x:Int))=true)->∀v,v<g.2.length->Ff g d v (f c v)=true):VY g d cap (Es g f cap y e):=by
 obtain⟨a,b,c⟩:=Yo i h.sh h.all h.cp j k;exact⟨a,b,c⟩
theorem VY.perfs {d:List (List Int)->Nat->List Int} {vars:List D_} (a:VG g) (h:VY g vars cap y) (b:∀c:List (List Int),c.length=g.2.length->(∀x,x<g.2.length->Ff g vars x (at' c (x:Int))=true)->∀v,v<g.2.length->Ff g vars v (d c v)=true) (l:List (Int×Int×Int)):∀k,k<=l.length->(∀j,j<k->HL g (at' l (j:Int))=true)->VY g vars cap (Go.Proofs.YtflciafboapaaaaGreat.perfs g d cap y (l.take k))
 |0,_,_=>h
 |k+1,hk,hb=>by
  rw[HP (by omega)];exact(VY.perfs a h b l k (by omega) λj e=>hb j (by omega)).perf a (adw (hb k (by omega))) b
end
theorem Lv {g:GR} {k v i:Int} (a:1<=k/\k<=4) (b:0<=v/\v<(g.2.length:Int)) (c:k=1\/(0<=i/\i<((at' g.2 v).length:Int))):HL g (k,v,i)=true:=zA5 ⟨a,b,c⟩
theorem Qw {g:GR} {k:Bool} {y:Cr} {v i:Nat} (h:[]=rI y.2.2 (Az g v i) (GZ g v i)):y_ g k y v i=y:=by unfold y_;rw[<-h]
theorem NC {g:GR} {k:Bool} {y:Cr} {v i:Nat} {s:bQ} {r:bO} (h:s::r=rI y.2.2 (Az g v i) (GZ g v i)):y_ g k y v i=(y.1,if k=true then HT y.2.1 v i s else y.2.1,HT y.2.2 (Az g v i) (GZ g v i) r):=by unfold y_;rw[<-h]
theorem adl (l:bQ) (h:l.length<=900):uL 1000 l=some l:=by
 unfold uL;rw[cF (by simp;omega),zBb]
abbrev aes:=Mo
abbrev Fo:Cr:=([],[],[])
section
variable {g:GR} {p:Fz} {R:List RL} {cap:Int} {y:Cr} {l:List (Int×Int×Int)}
theorem YF (hV:VG g) (hp:jR g p.2.1) (hz:p.2.2.map AE=FQ R) (hR:pA p.2.1.length R=true) (hcap:1<=cap/\cap<=8) {A:aes} (hA1:A.1=Dc g p.2.1) (hA2:A.2.1=jF g g.2.length) (hA3:A.2.2.2.1=lP g) (h:VY g p.2.1 cap.toNat y) {k:Nat} (hk:k<l.length) (hl:l.length<=900) (ag:Int×Cr->Option (Cr×Int)):
  gS 1000 p g cap l A ((k:Int),y) ag=if HL g (at' l (k:Int))=true then ag (((k+1:Nat):Int),Es g (Ho (eB p g) p.2.1 R) cap.toNat y (Zw (at' l (k:Int))))else some (Fo,2):=by
 have h24:=hV.n24;have hvl:=hp.len;have lc:=h.sh.c;have la:=h.sh.a.len;have lw:=h.sh.w.len;obtain⟨e,he⟩:∃e,at' l (k:Int)=e:=⟨_,rfl⟩
 obtain⟨ek,ev,ei⟩:=e;have bad:sB 1000 p g cap l A ((k:Int),y) ag true=some (Fo,2):=rfl;have bad8:An 1000 g cap l ((k:Int),y) ag true=some (Fo,2):=rfl;unfold gS;simp only[he];rw[if_pos (by omega),cF (by omega),bad];by_cases k1:ek<1
 ·rw[if_pos k1,if_neg (by unfold HL;rw[zAa];rintro⟨h,-,-⟩;simp only at h;omega)]
 rw[if_neg k1];by_cases k2:4<ek
 ·rw[if_pos k2,if_neg (by unfold HL;rw[zAa];rintro⟨h,-,-⟩;simp only at h;omega)]
 rw[if_neg k2];by_cases k3:ev<0
 ·rw[if_pos k3,if_neg (by unfold HL;rw[zAa];rintro⟨-,h,-⟩;simp only at h;omega)]
 rw[if_neg k3];by_cases k4:(g.2.length:Int)<=ev
 ·rw[zA5 k4,bad,if_neg (by unfold HL;rw[zAa];rintro⟨-,h,-⟩;simp only at h;omega)]
 rw[zA3 k4];obtain⟨v,rfl⟩:∃v:Nat,ev=(v:Int):=⟨ev.toNat,by omega⟩
 have hv:v<g.2.length:=by omega
 have hdeg:=(hV.node v hv).deg;have hrow:at' g.2 (v:Int)=row g v:=rfl;have rc:=h.rowc hv;have ra:=h.sh.a.row v hv;have rw':=h.sh.w.row v hv;have fin:∀c ca wi,nL ((k:Int),y) ag ((0:Int),c,wi,ca)=ag (((k+1:Nat):Int),c,ca,wi):=λc ca wi=>by
  unfold nL;rw[if_neg (by simp)];show ag (wI .i64 ((k:Int)+1),c,ca,wi)=_;rw[dD (by omega)]
 unfold sB;rw[if_neg (by decide)];simp only[he];by_cases hk1:ek=1
 ·subst hk1;rw[if_pos Z,cF (by omega),cF (by omega),if_pos (Lv ⟨by decide,by decide⟩ ⟨by omega,by omega⟩ (.inl Z))];have hev:Zw ((1:Int),(v:Int),ei)=(1,v,ei.toNat):=rfl;rw[hev];have hvw:=Tx hV h.sh hv h.all;have hcw:=Yw hvw.1 hvw.2;refine(Ob (s:=Ap 1000 p g l A ((k:Int),y) ag) (K:=Am 1000 p g l A ((k:Int),y) ag) hV h.sh hv (λi c ag2 hi hcl=> ?_) (λc ag2 hcl=> ?_)).trans ?_
  ·have hto:=Bi hV hv hi;have hul:=(Er hV hv hi).ul;have hl1:at' (row g v) (i:Int)=jP (row g v) i:=rfl;unfold Ap;simp only[he,hrow,hl1,hto];rw[if_pos (by omega),cF (by omega),cF (by omega),cF (by omega),cF (by omega),dD (by omega),zAi]
  ·unfold Ap;simp only[he,hrow];rw[if_neg (by omega)]
  ·unfold Am Fa;simp only[he,hA2,hA3,hA1];rw[bG (show kQ 1000 _ (vw g y v) (v:Int)=_ from abx hV hcw.shape hv hz hR (Dc g p.2.1))];show(if 0<=AP (eB p g) R (vw g y v) v then _ else _)=ag (_,Ox g (Ho (eB p g) p.2.1 R) y v);unfold Ox Ho;by_cases h0:0<=AP (eB p g) R (vw g y v) v
   ·obtain⟨i,hi,hil,_⟩:=(LY (eB p g) R (vw g y v) v).resolve_left (λe=>by omega);have hi':AP (p,g,jF g g.2.length,lP g) R (vw g y v) v=(i:Int):=hi;rw[if_pos h0,if_pos h0,hi,hi',bG (show mN 1000 _ (vw g y v) (v:Int) (i:Int)=_ from abm (gr:=jF g g.2.length) hV hp hcw.shape hv hz hR hil),cF (by omega),zAi];exact fin _ _ _
   ·rw[if_neg h0,if_neg h0];refine(fin _ _ _).trans ?_;have e1:at' (vw g y v) (v:Int)=at' y.1 (v:Int):=PN hV h.sh hv _ (zAe _);rw[e1,Ki y.1 (by omega)]
 rw[if_neg hk1];by_cases i1:ei<0
 ·rw[if_pos i1,bad8,if_neg (by unfold HL;rw[zAa];rintro⟨-,-,h⟩;simp only at h;omega)]
 rw[if_neg i1,cF (by omega),hrow];by_cases i2:((row g v).length:Int)<=ei
 ·rw[zA5 i2,bad8,if_neg (by unfold HL;rw[zAa];rintro⟨-,-,h⟩;simp only[hrow]at h;omega)]
 rw[zA3 i2];obtain⟨i,rfl⟩:∃i:Nat,ei=(i:Int):=⟨ei.toNat,by omega⟩
 have hi:i<(row g v).length:=by omega
 rw[if_pos (Lv (by omega) (by omega) (.inr (by rw[hrow];omega)))];have hev:Zw (ek,(v:Int),(i:Int))=(ek.toNat,v,i):=rfl;rw[hev];have hwl:=h.cp v i hv hi;have e2:at' (at' y.2.2 (v:Int)) (i:Int)=rI y.2.2 v i:=rfl;unfold An;rw[if_neg (by decide)];simp only[he,e2];by_cases hk2:ek=2
 ·subst hk2;rw[if_pos Z,cF (by omega),cF (by omega)];show _=ag (_,Dw cap.toNat y v i);unfold Dw;by_cases hc:(rI y.2.2 v i).length<cap.toNat
  ·rw[if_pos (show((rI y.2.2 v i).length:Int)<cap by omega),if_pos hc,cF (by omega),bG (adl _ (by omega)),cF (by simp;omega),zAi,zAi];exact fin _ _ _
  ·rw[if_neg (show¬((rI y.2.2 v i).length:Int)<cap by omega),if_neg hc];exact fin _ _ _
 rw[if_neg hk2];have hto:=Bi hV hv hi;have hpb:=Er hV hv hi;have hul:=hpb.ul;have hbl:=hpb.bl;have hdu:=(hV.node (Az g v i) hul).deg;have hwu:=h.sh.w.row (Az g v i) hul;have hl1:at' (row g v) (i:Int)=jP (row g v) i:=rfl;have e3:at' (at' y.2.2 ((Az g v i:Nat):Int)) ((GZ g v i:Nat):Int)=rI y.2.2 (Az g v i) (GZ g v i):=rfl;simp only[hrow,hl1,hto];rw[cF (by omega),cF (by omega),cF (by omega),bG (show mO 1000 _ ((Az g v i:Nat):Int) (v:Int)=_ from NM g _ _ hul (by omega)),Yv hV hv hi,cF (by omega)];simp only[e3];have hpf:Es g (Ho (eB p g) p.2.1 R) cap.toNat y (ek.toNat,v,i)=y_ g (decide (ek=3)) y v i:=by
  unfold Es;rw[if_neg (show¬ek.toNat=1 by omega),if_neg (show¬ek.toNat=2 by omega)];show y_ g (decide (ek.toNat=3)) y v i=_;by_cases q:ek=3
  ·subst q;rfl
  ·rw[zA3 q,zA3 (by omega)]
 rw[hpf];obtain⟨wl,hw⟩:∃wl,wl=rI y.2.2 (Az g v i) (GZ g v i):=⟨_,rfl⟩
 cases wl with
 |nil=>
  rw[if_pos (by rw[<-hw];rfl),Qw hw];exact fin _ _ _
 | cons s r =>
  have hl:(rI y.2.2 (Az g v i) (GZ g v i)).length=r.length+1:=by rw[<-hw];rfl
  rw[if_neg (by omega),NC hw];have k10:∀ca,Ao g l ((k:Int),y) ag (GZ g v i:Int) ca=ag (((k+1:Nat):Int),y.1,ca,HT y.2.2 (Az g v i) (GZ g v i) r):=λca=>by
   unfold Ao;simp only[he,hrow,hl1,hto,e3,<-hw];rw[cF (by simp;omega),zAi,zAi];exact fin _ _ _
  have hs:at' (rI y.2.2 (Az g v i) (GZ g v i)) 0=s:=by rw[<-hw];rfl
  by_cases q:ek=3
  ·subst q;rw[if_pos Z,cF (by omega),cF (by omega),cF (by omega),k10,zAi,zAi,hs];rfl
  ·rw[if_neg q,k10,zA3 q];rfl
end
def LZ (g:GR) (vars:List D_) (a:bO->Nat->bQ) (cap:Int) (y:Cr) (l:kC):Cr×Int:=
 if 1<=cap/\cap<=8 then(if US g vars cap y=true then(if Df l.length (λk=>HL g (at' l (k:Int)))=true then(perfs g a cap.toNat y l,0)else(Fo,2))else(Fo,7))else(Fo,2)
section
variable {g:GR} {p:Fz} {R:List RL} {cap:Int} {y:Cr} {l:List (Int×Int×Int)}
theorem Xh (c:VG g) (d:jR g p.2.1) (cap:Int) (y:Cr):wS 1000 p g cap y=some (if 1<=cap/\cap<=8 then(if US g p.2.1 cap y=true then 0 else 7)else 2):=by
 have e:vE 1000 p g cap y false=some (if US g p.2.1 cap y=true then 0 else 7):=by
  unfold vE;rw[if_neg (by decide),bG (show wR 1000 _ _ _ _=_ from Zs c d cap y)];cases US g p.2.1 cap y<;>rfl
 unfold wS;rw[bG (show pZ 1000 _ _=some 0 from Uf c d),if_neg (by decide)];by_cases a:cap<1
 ·rw[if_pos a,if_neg (by omega)];rfl
 rw[if_neg a];by_cases b:8<cap
 ·rw[zA5 b,if_neg (by omega)];rfl
 rw[zA3 b,e,if_pos (show 1<=cap/\cap<=8 from by omega)]
theorem YE (j:VG g) (q:jR g p.2.1) (t:p.2.2.map AE=FQ R) (i:pA p.2.1.length R=true) (a:1<=cap/\cap<=8) {A:aes} (c:A.1=Dc g p.2.1) (d:A.2.1=jF g g.2.length) (e:A.2.2.2.1=lP g) (h:VY g p.2.1 cap.toNat y) (r:l.length<=900):
  bJ (gS 1000 p g cap l A) 1000 ((0:Int),y)=some (if Df l.length (λk=>HL g (at' l (k:Int)))=true then(perfs g (Ho (eB p g) p.2.1 R) cap.toNat y l,0)else(Fo,2)):=by
 have:=VB (step:=gS 1000 p g cap l A) (n:=l.length) (b:=λk=>HL g (at' l (k:Int))) (λk=>((k:Int),perfs g (Ho (eB p g) p.2.1 R) cap.toNat y (l.take k))) (Z:=some (Fo,2)) (K:=some (perfs g (Ho (eB p g) p.2.1 R) cap.toNat y l,0)) (λk f o m=>by
  have s:=VY.perfs j h (Tb (R:=R) q i) l k (by omega) m;rw[YF j q t i a c d e s o r f,HP o]) (λm f=>by
  unfold gS CC;dsimp only;rw[if_neg (by omega),zB3]) (by omega)
 refine Eq.trans this ?_;split<;>rfl
theorem VO (e:VG g) (x:jR g p.2.1) {o:Nat} (A:o<=8) (h:VY g p.2.1 o y) (cap:Int):pS 1000 p g cap y=some (Dc g p.2.1,jF g g.2.length,y.1,lP g,y.2.1,y.2.2):=by
 have z:=e.n24;have s:=x.len;have F:=h.sh.a.len;have G:=h.sh.w.len;unfold pS;rw[cF (by omega)];refine(Sp (s1:=oP 1000 p g y) (s2:=yE 1000 g) (K:=oM 1000 p g y) e (λ_ _=>rfl) (λ_ _ _ _=>rfl)).trans ?_;unfold oM sE;rw[bG (show kZ 1000 _ _=_ from Mm e x)];unfold sC;rw[bG (Ub y.1 (by rw[h.sh.c];omega) λv i=>by rw[h.rowc (by rw[<-h.sh.c];exact i)];omega)];refine(J_ (cp:=qB 1000) (s3:=kI 1000 y (Dc g p.2.1,jF g g.2.length,lP g) y.1) (s4:=λa d r=>oO 1000 y a d r) (K:=sD (Dc g p.2.1,jF g g.2.length,lP g) y.1) e h A s (λc a b=>Ub c a b) (λk n t d u f B=> ?_) (λn t d=> ?_) (λk j n t d r b m u f E D=> ?_) (λk n t d r b m u f C=> ?_)).trans ?_
 ·unfold kI;dsimp only;rw[if_pos (by omega),cF (by omega)];refine congrArg (Option.bind _) (funext λr=> ?_);rw[cF (by simp;omega),cF (by omega)]
 ·unfold kI;dsimp only;rw[if_neg (by omega)]
 ·unfold oO;dsimp only;rw[if_pos (by omega),cF (by omega)];refine congrArg (Option.bind _) (funext λq=> ?_);have:j<1000000:=by
   have i:k<g.2.length:=by omega
   have:=h.sh.w.row k i;have:=(e.node k i).deg;omega
  rw[cF (by simp;omega),dD this]
 ·unfold oO yC;dsimp only;rw[if_neg (by omega),cF (by simp;omega),dD (by omega)]
 ·rfl
theorem adV (b:VG g) (c:jR g p.2.1) (i:p.2.2.map AE=FQ R) (d:pA p.2.1.length R=true) (cap:Int) (y:Cr) (e:l.length<=900):BS 1000 p g cap y l=some (LZ g p.2.1 (Ho (eB p g) p.2.1 R) cap y l):=by
 unfold BS LZ;rw[bG (show wS 1000 _ _ _ _=_ from Xh b c cap y)];by_cases a:1<=cap/\cap<=8
 rotate_left
 ·rw[if_neg a,if_neg a];rfl
 rw[if_pos a,if_pos a];cases f:US g p.2.1 cap y
 ·rfl
 obtain⟨_,h⟩:=KZ.1 f;rw[if_pos Z,if_neg (by decide),if_neg (by omega),if_pos Z,bG (show pS 1000 _ _ _ _=_ from VO b c (by omega) h cap)];exact YE b c i d a Z Z Z h e
end
theorem ZP (p q:bQ) (h:p.length=q.length):Df p.length (λk=>decide (at' p (k:Int)=at' q (k:Int)))=decide (p=q):=by
 by_cases e:p=q
 ·subst e;rw[zA5 Z];exact nZ.2 λk _=>zA5 Z
 ·rw[zA3 e];cases c:Df p.length (λk=>decide (at' p (k:Int)=at' q (k:Int)))
  ·rfl
  ·refine absurd (List.ext_getElem h λk a b=> ?_) e;have:=zB2 (nZ.1 c k a);rwa[jS a,jS b]at this
end Go.Proofs.YtflciafboapaaaaGreat
namespace Go.Proofs.YtflciafboapaaaaGreat
open Go.Sx
def wQ (U:Nat) (a:iF) (b:cO) (e:Int) (c:kJ):Option (Int):=
 Option.bind (pR U ((a.1,a.2.1,a.2.2)) ((b.1,b.2))) λf=>(if f≠(0:Int)then(some (f))else(Option.bind (gX U e (1:Int) (8:Int)) λg=>(if(!g)=true then(some (2:Int))else(Option.bind (wP U ((a.1,a.2.1,a.2.2)) ((b.1,b.2)) e ((c.1,c.2.1,c.2.2))) λd=>(if(!d)=true then(some (7:Int))else(some (0:Int)))))))
theorem ac_:bB Tryz.prog 68:=Tryz.call68
theorem MW (U:Nat) {a:iF} {n:cO} {s:Int} {i:kJ} (b d e f:V0) (q:lE) (j:V0) (t:kD) (k:V0) (u:IX) (m:V0) (g:IW) (r:Int) (h:wQ U a n s i=some r):
  bD Tryz.prog 68 #[Value.agg #[vS (a.1),b,d],Value.agg #[e,f],vI (s),Value.agg #[j,k,m]] [Sl aH b a.2.1,Sl aE d a.2.2,PF (Value.agg #[vS a.1,b,d]),Sl aN e n.1,S2 aX f q n.2,S2 aN j t i.1,S3 aN k u i.2.1,S4 aN m g i.2.2] (λx:Unit=>vI (r)) (λx l=>l) (λ_ l=>l):=by
 refine bD.of Tryz.func68 Z Tryz.ntmps68 Z λc=>?_;refine aU<|aK (aP.box (cs:=[vS (a.1),b,d]) Z Z) Z λC=>aK (aP.box (cs:=[e,f]) Z Z) Z λD=>aK (aP.box (cs:=[j,k,m]) Z Z) Z λE=>aC Z<|aO<|aU<|dM 2 Z<|dM 1 Z<|eT h λv y h=>aK (zBg TP (IT U b d e f q v y) Z (iN [0,1,2,3,4] Z)) Z λF=>aC Z<|aO<|aL<|aS<|aU<|aA Z<|k_ Z<|aC Z<|aO ?_;refine eN h Z (λh=>?_) λh=>?_
 ·refine aU<|aA Z<|aC Z<|aO<|aR<|bI<|aG ?_;cases h;exact nH Z
 refine aU<|aA Z<|eT h λw z h=>aK (zBg uF (jH U w z) Z .nil) Z λA=>aB (kM Z) Z<|aC Z<|aO ?_;refine tC h Z (λ_ h=>?_) λ_ h=>?_
 ·refine aU<|aC Z<|aO<|aR<|bI<|aG ?_;cases h;exact nH Z
 refine aU<|dM 2 Z<|dM 1 Z<|aA Z<|dM 0 Z<|eT h λo p h=>aK (zBg acN (MV U b d e f q j t k u m g o p) Z (iN [0,1,2,3,4,5,6,7] Z)) Z λB=>aB (kM Z) Z<|aC Z<|aO ?_;refine tC h Z (λ_ h=>?_) λ_ h=>?_
 ·refine aU<|aC Z<|aO<|aR<|bI<|aG ?_;cases h;exact nH Z
 refine eM<|lL<|aU<|aC Z<|aO<|aR ?_;cases h;exact nH Z
def lD (a:Bool):Option Bool:=
 some (a)
def q_ (U:Nat) (b:cO) (a:Int×Int×Int):Option Bool:=
 Option.bind (gX U a.1 (1:Int) (4:Int)) λe=>(if e=true then(Option.bind (gX U a.2.1 (0:Int) (wI .i64 ((b.2.length:Int) - (1:Int)))) λc=>(if c=true then(if a.1=(1:Int)then(lD (true))else(ck (0<=a.2.1/\a.2.1<(b.2.length:Int)) (Option.bind (gX U a.2.2 (0:Int) (wI .i64 (((at' b.2 a.2.1).length:Int) - (1:Int)))) λd=>(lD (d)))))else(lD (false))))else(lD (false)))
theorem ada:bB Tryz.prog 69:=Tryz.call69
theorem JH (U:Nat) {j:cO} {f:Int×Int×Int} (m n:V0) (y:lE) (r:Bool) (h:q_ U j f=some r):
  bD Tryz.prog 69 #[Value.agg #[m,n],Value.agg #[vI (f.1),vI (f.2.1),vI (f.2.2)]] [Sl aN m j.1,S2 aX n y j.2] (λx:Unit=>vB (r)) (λx l=>l) (λ_ l=>l):=by
 refine bD.of Tryz.func69 Z Tryz.ntmps69 Z λc=>?_;refine aU<|aK (aP.box (cs:=[m,n]) Z Z) Z λz=>aK (aP.box (cs:=[vI (f.1),vI (f.2.1),vI (f.2.2)]) Z Z) Z λA=>aC Z<|aO<|aL<|eR (λg=>lD g=some r) (λg s=>[(4,vB (g))]) (λg s=>[]) ?_ ?_
 ·refine sW [0,1,3,7,15,31,15,79,207,463,1023,2047,4095,8191,16383,32767,65535,131071,262143,131071,655359,131071,2228223,7995391,16383999,33161215,66715647,134217727,268435455,536870911,1073741823] 27 mixedOrders ?_;refine cH Z<|fO 0 Z<|eT h λt u h=>zBi Z Z Z (zBg uF (jH U t u) Z .nil) Z (λw=>(mC [] Z)) λw=>gC Z (eO Z) ?_;refine JR.guard (by exact rfl) (by exact rfl) (by exact rfl) (λe=>?_) (λe=>?_)
  ·have h:=Iv e h;refine cS Z .nil .nil (cR Z Z Z Z Z) (EQ Z)<|cS Z (aZ.cons 0 Z .nil) .nil (dL 0 Z Z Z Z Z) (EQ Z)<|cS Z .nil .nil (cR Z Z Z Z Z) (EQ Z)<|cS Z (aZ.cons 1 Z .nil) .nil (dL 0 Z Z Z Z Z) (EQ Z)<|cS Z .nil (fN 1 Z) (dU Z (cA Z) Z) (EQ Z)<|cS Z .nil .nil (nY Z Z) (EQ Z)<|eT h λk o h=>Wu Z Z Z Z (zBg uF (jH U k o) Z .nil) Z (λq=>(mC [] Z)) λq=>gC Z (GA Z Z)<|gC Z (eO Z) ?_;refine JR.guard (by exact rfl) (by exact rfl) (by exact rfl) (λa=>?_) (λa=>?_)
   ·have h:=Iv a h;refine cS Z .nil .nil (cR Z Z Z Z Z) (EQ Z)<|cS Z (aZ.cons 0 Z .nil) .nil (dL 0 Z Z Z Z Z) (EQ Z)<|cS Z .nil .nil (JV Z Z) (EQ Z)<|cS Z .nil .nil (eO Z) (EQ Z) ?_;refine AY (by exact rfl) (by exact rfl) (by exact rfl) (λb=>?_) (λb=>?_)
    ·have h:=Iv b h;refine bA Z Z Z Z<|bA Z Z Z Z<|bA Z Z Z Z<|bA Z Z Z Z<|bA Z Z Z Z<|bA Z Z Z Z<|bA Z Z Z Z<|bA Z Z Z Z<|bA Z Z Z Z<|bA Z Z Z Z<|bP 27 Z Z<|aM Z<|aT Z (GA Z Z) Z<|dR Z<|aC Z<|aO ?_;exact cI (true) () h SF .nil (aI.refl _ _)
    have h:=XT b h;refine cS Z .nil .nil (cR Z Z Z Z Z) (EQ Z)<|cS Z (aZ.cons 0 Z .nil) .nil (dL 0 Z Z Z Z Z) (EQ Z)<|cS Z .nil .nil (cR Z Z Z Z Z) (EQ Z)<|cS Z (aZ.cons 1 Z .nil) .nil (dL 0 Z Z Z Z Z) (EQ Z)<|cS Z .nil .nil (cR Z Z Z Z Z) (EQ Z)<|cS Z (aZ.cons 0 Z .nil) .nil (dL 0 Z Z Z Z Z) (EQ Z)<|cU h λd h=>cS Z .nil (fN 1 Z) (bN Z Z (cA Z) Z Z d) (EQ Z)<|cS Z .nil (fN 1 Z) (bT Z (cA Z) Z Z d) (EQ Z)<|cS Z .nil (fN 1 Z) (fE Z (zBh (cA Z) d.1 d.2) Z) (EQ Z)<|cS Z .nil .nil (nY Z Z) (EQ Z)<|bP 27 Z Z<|eT h λi p h=>qH Z (zBg uF (jH U i p) Z .nil) Z λv=>aT Z (Ii Z Z) Z<|dR Z<|aC Z<|aO ?_;exact cI (i) () h SF .nil (aI.refl _ _)
   have h:=FA a h;refine bA Z Z Z Z<|bA Z Z Z Z<|bA Z Z Z Z<|bA Z Z Z Z<|yF (h:= ?_);refine yF (h:= ?_);refine yF (h:= ?_);refine yF (h:= ?_);refine yF (h:= ?_);refine yF (h:= ?_);refine yF (h:= ?_);refine yF (h:= ?_);refine yF (h:= ?_);refine yF (h:= ?_);refine bP 27 Z Z<|aer (h:= ?_);refine aM Z<|eV Z<|aC Z<|aO ?_;exact cI (false) () h SF .nil (aI.refl _ _)
  have h:=FA e h;refine bA Z Z Z Z<|bA Z Z Z Z<|bA Z Z Z Z<|bA Z Z Z Z<|bA Z Z Z Z<|bA Z Z Z Z<|bA Z Z Z Z<|gC Z (Ii Z Z)<|gC Z (eO Z)<|bA Z Z Z Z<|bA Z Z Z Z<|bA Z Z Z Z<|bA Z Z Z Z<|yF (h:= ?_);refine yF (h:= ?_);refine yF (h:= ?_);refine yF (h:= ?_);refine yF (h:= ?_);refine yF (h:= ?_);refine yF (h:= ?_);refine yF (h:= ?_);refine yF (h:= ?_);refine yF (h:= ?_);refine bP 27 Z Z<|aer (h:= ?_);refine aM Z<|eV Z<|aC Z<|aO ?_;exact cI (false) () h SF .nil (aI.refl _ _)
 intro g s h;unfold lD at h;refine aR ?_;cases h;exact iZ Z
def xR (b:cO) (a:Int) (c:Bool):Option (Int):=
 if c=true then(some (0:Int))else(ck (0<=a/\a<(b.2.length:Int)) (some ((at' b.2 a).length:Int)))
def zJ (U:Nat) (a:cO) (b:Int):Option (Int):=
 Option.bind (iL U ((a.1,a.2))) λd=>(if(!d)=true then(xR a b (true))else(Option.bind (gX U b (0:Int) (wI .i64 ((a.2.length:Int) - (1:Int)))) λc=>(xR a b ((!c)))))
theorem aak:bB Tryz.prog 171:=Tryz.call171
theorem Mf (U:Nat) {i:cO} {j:Int} (e f:V0) (o:lE) (r:Int) (h:zJ U i j=some r):
  bD Tryz.prog 171 #[Value.agg #[e,f],vI (j)] [Sl aN e i.1,S2 aX f o i.2] (λx:Unit=>vI (r)) (λx l=>l) (λ_ l=>l):=by
 refine bD.of Tryz.func171 Z Tryz.ntmps171 Z λc=>?_;refine aU<|aK (aP.box (cs:=[e,f]) Z Z) Z λm=>aC Z<|aO<|aL<|aL<|eR (λb=>xR i j b=some r) (λb n=>[(1,vI (j)),(2,vP m),(16,vB (b))]) (λb n=>[bL m [e,f] 31]) ?_ ?_
 ·refine aQ<|dM 0 Z<|eT h λp q h=>aK (zBg Sw (DX U e f o p q) Z (iN [0,1] Z)) Z λt=>aB (kM Z) Z<|aA Z ?_;refine tD (by exact rfl) (by exact rfl) (λa=>?_) (λa=>?_)
  ·have h:=Iv a h;refine aM Z<|aM Z<|aM Z<|aM Z<|aM Z<|aM Z<|aM Z<|dR Z<|aO ?_;exact fT (true) () h SF Z
  have h:=FA a h;refine dC Z<|aT Z (cR Z Z Z Z Z) Z<|aT Z (dL 0 Z Z Z Z Z) Z<|aT Z (dU Z (mM Z) Z) Z<|aT Z (nY Z Z) Z<|eT h λd k h=>qH Z (zBg uF (jH U d k) Z .nil) Z λs=>aT Z (kM Z) Z<|eV Z<|aO ?_;exact fT ((!d)) () h SF Z
 intro b n h;refine tC h Z (λ_ h=>?_) λ_ h=>?_
 ·refine aU<|aC Z<|aO<|aR<|aG ?_;cases h;exact nH Z
 refine cL<|aU<|bU Z<|dQ 0 Z<|aA Z<|cU h λg h=>aB (bN Z Z (mM Z) Z Z g) Z<|aB (bT Z (mM Z) Z Z g) Z<|aB (fE Z (zBh (mM Z) g.1 g.2) Z) Z<|aC Z<|aO<|aR ?_;cases h;exact nH Z
def zI (U:Nat) (a:cO) (b c:Int):Option (Int):=
 Option.bind (zJ U ((a.1,a.2)) b) λe=>(Option.bind (gX U c (0:Int) (wI .i64 (e - (1:Int)))) λf=>(if(!f)=true then(some (-1:Int))else(ck (0<=b/\b<(a.2.length:Int)) (ck (0<=c/\c<((at' a.2 b).length:Int)) (Option.bind (rW U ((a.1,a.2)) ((at' (at' a.2 b) c).1) b) λd=>(some (d)))))))
theorem ZY:bB Tryz.prog 114:=Tryz.call114
theorem Ps (U:Nat) {f:cO} {k m:Int} (d e:V0) (j:lE) (r:Int) (h:zI U f k m=some r):
  bD Tryz.prog 114 #[Value.agg #[d,e],vI (k),vI (m)] [Sl aN d f.1,S2 aX e j f.2] (λx:Unit=>vI (r)) (λx l=>l) (λ_ l=>l):=by
 refine bD.of Tryz.func114 Z Tryz.ntmps114 Z λc=>?_;refine aU<|aK (aP.box (cs:=[d,e]) Z Z) Z λt=>aC Z<|aO<|aL<|aU<|aA Z<|dM 0 Z<|aA Z<|eT h λn p h=>aK (zBg aak (Mf U d e j n p) Z (iN [0,1] Z)) Z λu=>aB (nY Z Z) Z<|eT h λo q h=>aK (zBg uF (jH U o q) Z .nil) Z λv=>aB (kM Z) Z<|aO ?_;refine tC h Z (λ_ h=>?_) λ_ h=>?_
 ·refine aU<|aC Z<|aO<|aR<|aG ?_;cases h;exact nH Z
 refine cL<|aL ?_;refine sW [0,0,2,0,14,30,0,126,254,510,0,2047,4095] 11 mixedOrders ?_;refine jD 0 Z<|cH Z<|fO 0 Z<|aV Z<|cU h λa h=>aY Z .nil (fN 1 Z) (bN Z Z (cA Z) Z Z a) aJ.z<|aY Z .nil (fN 1 Z) (bT Z (cA Z) Z Z a) aJ.z<|aV Z<|cU h λb h=>aY Z .nil (fN 1 Z) (bE Z Z (zBh (cA Z) a.1 a.2) Z Z b) aJ.z<|gC Z (cZ Z Z Z Z Z)<|aY Z .nil (fN 1 Z) (eL Z (zBh (cA Z) a.1 a.2) Z Z Z gT b) aJ.z<|aV Z<|bP 11 Z Z<|eT h λg i h=>aK (zBg OA (Fi U d e j g i) Z (iN [0,1] Z)) Z λs=>aC Z<|aO<|aR ?_;cases h;exact nH Z
end Go.Proofs.YtflciafboapaaaaGreat