/- Models and proofs. Conditions: none. -/
import Derived.Test.YtflciafboapaaaaGreatZRSp5
import Derived.Test.YtflciafboapaaaaGreatZRSp8
import Derived.Test.YtflciafboapaaaaGreatZRSp6
import Derived.Test.YtflciafboapaaaaGreatZRSp2
import Derived.Test.YtflciafboapaaaaGreatZRSp7
set_option linter.unusedVariables false
set_option linter.unusedSimpArgs false
set_option maxHeartbeats 4000000
set_option maxRecDepth 20000
namespace Go.Proofs.YtflciafboapaaaaGreat
open Go.Sx
def Df (a:gX):Option kW:=
 some (((a.1,a.2.1,a.2.2)),(0:Int))
def nM (c:Bm) (b:Bl->Option kW) (a:Int×bQ×List (List bQ)×List bQ):Option kW:=
 if a.1≠(0:Int)then(some (((([]:bQ),(([]:rV)),(([]:CW)))),a.1))else(b ((wI .i64 (c.1+(1:Int))),a.2.1,a.2.2.2,a.2.2.1))
def Dg (a:Bm) (b:Bl->Option kW) (c:bQ):Option kW:=
 nM a b ((0:Int),c,a.2.2.2,a.2.2.1)
def FH (U:Nat) (p0:fE) (p1:cJ) (e:rU) (b:DL) (a:Bm) (c:Bl->Option kW) (d:bQ):Option kW:=
 Option.bind (fP U ((((p0.1,p0.2.1,p0.2.2)),((((p0.1,p0.2.1,p0.2.2)),((p1.1,p1.2)),b.2.1,b.2.2.2.1)),b.1)) d ((at' e a.1).2.1)) λf=>(if(0:Int)<=f then(Option.bind (mL U ((((p0.1,p0.2.1,p0.2.2)),((((p0.1,p0.2.1,p0.2.2)),((p1.1,p1.2)),b.2.1,b.2.2.2.1)),b.1)) d ((at' e a.1).2.1) f) λg=>(ck (0<=((at' e a.1).2.1)/\((at' e a.1).2.1)<(a.2.1.length:Int)) (Dg a c (List.set a.2.1 (Int.toNat ((at' e a.1).2.1)) g))))else(Dg a c (a.2.1)))
def AJ (U:Nat) (p0:fE) (p1:cJ) (e:rU) (d:DL) (b:Bm) (a:Bl->Option kW) (c:bQ):Option kW:=
 FH U p0 p1 e d b a (c)
def AM (U:Nat) (p0:fE) (p1:cJ) (c:rU) (f:DL) (a:Bm) (d:Bl->Option kW) (b:Int×bQ) (e:(Int×bQ)->Option kW):Option kW:=
 if b.1<((at' p1.2 ((at' c a.1).2.1)).length:Int)then(ck (0<=b.1/\b.1<((at' p1.2 ((at' c a.1).2.1)).length:Int)) (ck (0<=((at' c a.1).2.1)/\((at' c a.1).2.1)<(a.2.2.1.length:Int)) (ck (0<=b.1/\b.1<((at' a.2.2.1 ((at' c a.1).2.1)).length:Int)) (ck (0<=((at' (at' p1.2 ((at' c a.1).2.1)) b.1).1)/\((at' (at' p1.2 ((at' c a.1).2.1)) b.1).1)<(b.2.length:Int)) (e ((wI .i64 (b.1+(1:Int))),(List.set b.2 (Int.toNat ((at' (at' p1.2 ((at' c a.1).2.1)) b.1).1)) (at' (at' a.2.2.1 ((at' c a.1).2.1)) b.1))))))))else(AJ U p0 p1 c f a d (b.2))
def Dh (a:Bm) (c:Bl->Option kW) (b:CW):Option kW:=
 nM a c ((0:Int),a.2.1,b,a.2.2.1)
def AL (p1:cJ) (c:rU) (a:Bm) (e:Bl->Option kW) (b:Int) (d:rV):Option kW:=
 ck (0<=(0:Int)/\(0:Int)<(1:Int)/\(1:Int)<=((at' (at' a.2.2.2 ((at' (at' p1.2 ((at' c a.1).2.1)) ((at' c a.1).2.2)).1)) b).length:Int)) (nM a e ((0:Int),a.2.1,(List.set a.2.2.2 (Int.toNat ((at' (at' p1.2 ((at' c a.1).2.1)) ((at' c a.1).2.2)).1)) (List.set (at' a.2.2.2 ((at' (at' p1.2 ((at' c a.1).2.1)) ((at' c a.1).2.2)).1)) (Int.toNat b) (List.take (Int.toNat (0:Int)) (at' (at' a.2.2.2 ((at' (at' p1.2 ((at' c a.1).2.1)) ((at' c a.1).2.2)).1)) b)++List.drop (Int.toNat (1:Int)) (at' (at' a.2.2.2 ((at' (at' p1.2 ((at' c a.1).2.1)) ((at' c a.1).2.2)).1)) b)))),d))
def AK (U:Nat) (p1:cJ) (p2:Int) (b:rU) (a:Bm) (d:Bl->Option kW) (f:Bool):Option kW:=
 if f=true then(nM a d ((2:Int),a.2.1,a.2.2.2,a.2.2.1))else(if((at' b a.1).1)=(2:Int)then(ck (0<=((at' b a.1).2.1)/\((at' b a.1).2.1)<(a.2.2.2.length:Int)) (ck (0<=((at' b a.1).2.2)/\((at' b a.1).2.2)<((at' a.2.2.2 ((at' b a.1).2.1)).length:Int)) (if((at' (at' a.2.2.2 ((at' b a.1).2.1)) ((at' b a.1).2.2)).length:Int)<p2 then(ck (0<=((at' b a.1).2.1)/\((at' b a.1).2.1)<(a.2.1.length:Int)) (Option.bind (uX U (at' a.2.1 ((at' b a.1).2.1))) λe=>(ck (((at' (at' a.2.2.2 ((at' b a.1).2.1)) ((at' b a.1).2.2)).length:Int)+(List.length ([e]):Int)<=1099511627) (Dh a d (List.set a.2.2.2 (Int.toNat ((at' b a.1).2.1)) (List.set (at' a.2.2.2 ((at' b a.1).2.1)) (Int.toNat ((at' b a.1).2.2)) ((at' (at' a.2.2.2 ((at' b a.1).2.1)) ((at' b a.1).2.2))++[e])))))))else(Dh a d (a.2.2.2)))))else(ck (0<=((at' b a.1).2.1)/\((at' b a.1).2.1)<(p1.2.length:Int)) (ck (0<=((at' b a.1).2.2)/\((at' b a.1).2.2)<((at' p1.2 ((at' b a.1).2.1)).length:Int)) (ck (0<=((at' (at' p1.2 ((at' b a.1).2.1)) ((at' b a.1).2.2)).1)/\((at' (at' p1.2 ((at' b a.1).2.1)) ((at' b a.1).2.2)).1)<(a.2.2.2.length:Int)) (Option.bind (mM U ((p1.1,p1.2)) ((at' (at' p1.2 ((at' b a.1).2.1)) ((at' b a.1).2.2)).1) ((at' b a.1).2.1)) λc=>(ck (0<=c/\c<((at' a.2.2.2 ((at' (at' p1.2 ((at' b a.1).2.1)) ((at' b a.1).2.2)).1)).length:Int)) (if((at' (at' a.2.2.2 ((at' (at' p1.2 ((at' b a.1).2.1)) ((at' b a.1).2.2)).1)) c).length:Int)=(0:Int)then(nM a d ((0:Int),a.2.1,a.2.2.2,a.2.2.1))else(if((at' b a.1).1)=(3:Int)then(ck (0<=((at' b a.1).2.1)/\((at' b a.1).2.1)<(a.2.2.1.length:Int)) (ck (0<=(0:Int)/\(0:Int)<((at' (at' a.2.2.2 ((at' (at' p1.2 ((at' b a.1).2.1)) ((at' b a.1).2.2)).1)) c).length:Int)) (ck (0<=((at' b a.1).2.2)/\((at' b a.1).2.2)<((at' a.2.2.1 ((at' b a.1).2.1)).length:Int)) (AL p1 b a d c (List.set a.2.2.1 (Int.toNat ((at' b a.1).2.1)) (List.set (at' a.2.2.1 ((at' b a.1).2.1)) (Int.toNat ((at' b a.1).2.2)) (at' (at' (at' a.2.2.2 ((at' (at' p1.2 ((at' b a.1).2.1)) ((at' b a.1).2.2)).1)) c) (0:Int))))))))else(AL p1 b a d c (a.2.2.1))))))))))
def sH (U:Nat) (p0:fE) (p1:cJ) (p2:Int) (c:rU) (e:DL) (a:Bm) (b:Bl->Option kW) (d:Bool):Option kW:=
 if d=true then(nM a b ((2:Int),a.2.1,a.2.2.2,a.2.2.1))else(if((at' c a.1).1)=(1:Int)then(ck ((a.2.1.length:Int)<=1099511627) (ck (0<=((at' c a.1).2.1)/\((at' c a.1).2.1)<(p1.2.length:Int)) (bL (AM U p0 p1 c e a b) U ((0:Int),a.2.1))))else(if((at' c a.1).2.2)<(0:Int)then(AK U p1 p2 c a b (true))else(ck (0<=((at' c a.1).2.1)/\((at' c a.1).2.1)<(p1.2.length:Int)) (AK U p1 p2 c a b (decide (((at' p1.2 ((at' c a.1).2.1)).length:Int)<=((at' c a.1).2.2)))))))
def iA (U:Nat) (p0:fE) (p1:cJ) (p2:Int) (c:rU) (d:DL) (a:Bm) (b:Bl->Option kW):Option kW:=
 if a.1<(c.length:Int)then(ck (0<=a.1/\a.1<(c.length:Int)) (if((at' c a.1).1)<(1:Int)then(sH U p0 p1 p2 c d a b (true))else(if(4:Int)<((at' c a.1).1)then(sH U p0 p1 p2 c d a b (true))else(if((at' c a.1).2.1)<(0:Int)then(sH U p0 p1 p2 c d a b (true))else(sH U p0 p1 p2 c d a b (decide ((p1.2.length:Int)<=((at' c a.1).2.1))))))))else(Df (a.2.1,a.2.2.1,a.2.2.2))
def Cy (U:Nat) (p0:fE) (p1:cJ) (p2:Int) (b:gX) (c:rU):Option kW:=
 Option.bind (xM U ((p0.1,p0.2.1,p0.2.2)) ((p1.1,p1.2)) p2 ((b.1,b.2.1,b.2.2))) λd=>(if d≠(0:Int)then(some (((([]:bQ),(([]:rV)),(([]:CW)))),d))else(if(65536:Int)<(c.length:Int)then(some (((([]:bQ),(([]:rV)),(([]:CW)))),(3:Int)))else(Option.bind (jC U ((p0.1,p0.2.1,p0.2.2)) ((p1.1,p1.2)) p2 ((b.1,b.2.1,b.2.2))) λa=>(bL (iA U p0 p1 p2 c a) U ((0:Int),a.2.2.1,a.2.2.2.2.1,a.2.2.2.2.2)))))
theorem acY:bB Tryz.prog 26:=Tryz.call26
theorem Ru (U:Nat) {p0:fE} {v:cJ} {p2:Int} {p3:gX} {g:rU} (v0 v1 v2 v3:V0) (z4:kX) (v5:V0) (z6:nG) (v7:V0) (z8:CV) (v9:V0) (cb:CU) (ad:V0) (r:UP) (h:Cy U p0 v p2 p3 g=some r):
  bE Tryz.prog 26 #[Value.agg #[vS (p0.1),v0,v1],Value.agg #[v2,v3],vI (p2),Value.agg #[v5,v7,v9],ad] [Sl aE v0 p0.2.1,Sl aD v1 p0.2.2,PF (Value.agg #[vS p0.1,v0,v1]),Sl aM v2 v.1,S2 aY v3 z4 v.2,S2 aM v5 z6 p3.1,S3 aM v7 z8 p3.2.1,S4 aM v9 cb p3.2.2,Sl dY ad g] (λx:Rx=>Value.tuple #[Value.agg #[x.1,x.2.2.1,x.2.2.2.2.1],vI (r.2)]) (λx l=>l) (λx l=>S2 aM x.1 x.2.1 r.1.1::S3 aM x.2.2.1 x.2.2.2.1 r.1.2.1::S4 aM x.2.2.2.2.1 x.2.2.2.2.2 r.1.2.2::l):=by
 let bj:=(List (List V0))
 let N:=Sl aD v1 p0.2.2;let M:=Sl aE v0 p0.2.1;let L:=S2 aM v5 z6 p3.1;let K:=S2 aY v3 z4 v.2;let J:=S3 aM v7 z8 p3.2.1;let I:=S4 aM v9 cb p3.2.2;let H:=PF (Value.agg #[vS p0.1,v0,v1]);refine bE.of Tryz.func26 Z Tryz.ntmps26 Z λc=>?_;refine aU<|aJ (aQ.box (cs:=[vS (p0.1),v0,v1]) Z Z) Z λb1=>aJ (aQ.box (cs:=[v2,v3]) Z Z) Z λb2=>aJ (aQ.box (cs:=[v5,v7,v9]) Z Z) Z λb3=>aJ (aQ.alloc (cs:=[cW,cW,cW]) Z Z) Z λb4=>let F:=bM b4 [cW,cW,cW] 43;aC Z<|aP<|aN<|aU<|cM 3 Z<|cM 2 Z<|aA Z<|cM 1 Z<|eI h λr5 w6 h=>aJ (zBb adh (Nf U v0 v1 v2 v3 z4 v5 z6 v7 z8 v9 cb r5 w6) Z (iB [0,1,2,3,4,5,6,7] Z)) Z λx7=>aC Z<|aP<|aU<|aA Z<|lB Z<|aP ?_
 refine eG h Z (λh=>?_) λh=>?_
 ·refine aU ?_;refine aB (Ox (r:=Value.agg #[cW,cW,cW]) (by intro w;simp[Instr.build,Instr.fill,gT,fN,e_,gU,gV,fO,iS])) Z ?_;refine aA Z<|cD 0 (vs:=[cW,cW,cW]) Z Z Z Z Z Z<|aC Z<|aP<|aS<|aG ?_;cases h;exact gY ((cW),([]),(cW),([]),(cW),([])) Z Z (RV.cell 0 Z Z Z Z) (RV.tmp Z) .nil (aH.cons mX (aH.cons mX (aH.cons mX aH.nil)))
 refine cL<|aN<|aU<|aA Z<|iL (QI Z) Z<|aB (wY Z Z) Z<|aP ?_;refine eG h Z (λh=>?_) λh=>?_
 ·refine aU ?_;refine aB (Ox (r:=Value.agg #[cW,cW,cW]) (by intro w;simp[Instr.build,Instr.fill,gT,fN,e_,gU,gV,fO,iS])) Z ?_;refine cD 0 (vs:=[cW,cW,cW]) Z Z Z Z Z Z<|aC Z<|aP<|aS<|aG ?_;cases h;exact gY ((cW),([]),(cW),([]),(cW),([])) Z Z (RV.cell 0 Z Z Z Z) (RV.tmp Z) .nil (aH.cons mX (aH.cons mX (aH.cons mX aH.nil)))
 refine cL<|aU<|cM 3 Z<|cM 2 Z<|aA Z<|cM 1 Z<|eI h λP dD h=>aJ (aQ.call SB (AW U v0 v1 v2 v3 z4 v5 z6 v7 z8 v9 cb P dD) Z (gQ.cons (zA0 (i:=0) Z) (gQ.cons (zA0 (i:=1) Z) (gQ.cons (zA0 (i:=2) Z) (gQ.cons (zA0 (i:=3) Z) (gQ.cons (zA0 (i:=4) Z) (gQ.cons (zA0 (i:=5) Z) (gQ.cons (zA0 (i:=6) Z) (eV 7 Z)))))))) (λ_ _=>rfl) (λ_ _=>rfl)) Z λp=>let ci:=p.2.2.2.2.2.2.2.2.2.2.2.2.2.2;let aw:=p.2.2.2.1;let bl:=p.2.2.2.2.2.2.1;let av:=p.2.2.2.2.1;let bk:=p.2.2.2.2.2.2.2.1;let O:=p.2.2.1;let bi:=p.2.2.2.2.2.2.2.2.1;let bg:=p.2.2.2.2.2.2.2.2.2.1;let bf:=p.2.2.2.2.2.2.2.2.2.2.1;let ac:=fQ bX bi P.1;let aq:=mT aM bf P.2.2.2.1;let az:=p.2.2.2.2.2.2.2.2.2.2.2.1;let E:=Ar bJ.raw aw az;let ab:=Ar bJ.raw bk bi;let aa:=Ar bJ.raw av p.2.2.2.2.2.2.2.2.2.2.2.2.2.1;let Y:=Ar bJ.raw bg bf;let X:=bM p.2.1 [vS (p0.1),v0,v1,vP bl,bk] 157;let W:=bM p.1 [v2,v3,vI (p2),vP p.2.1,O,aw,av] 108;let T:=bM bl [vS (p0.1),v0,v1,v2,v3,vI (P.2.1),bg] 206;aC Z<|aP<|aN<|jW (B:=List V0×List (List V0)×List (List V0)×List bj) (λaj=>Df aj=some r) (λaj G=>[(10,vP b4),(13,vP p.1)]) (λaj G=>[W,Ar bJ.raw O G.1,X,ab,ac,T,Y,E,fQ bJ.raw az G.2.1,aa,tC bJ.raw p.2.2.2.2.2.2.2.2.2.2.2.2.2.1 G.2.2.1 G.2.2.2,F]) (λaj G=>[mT aM G.1 aj.1,aq,wX aM G.2.1 aj.2.1,Bz aM G.2.2.2 aj.2.2,M,N,H,Sl aM v2 v.1,K,L,J,I,Sl dY ad g]) ?_ ?_
 ·refine aU<|aA Z<|iL (Da Z) Z<|aA Z<|aP<|aT<|nH (B:=List V0×List (List V0)×List (List V0)×List bj) (iA U p0 v p2 g P) (λa d=>[(10,vP b4),(13,vP p.1),(35,ad),(36,vI (g.length:Int)),(37,vI (a.1))]) (λa d=>[W,Ar bJ.raw O d.1,X,ab,ac,T,Y,E,fQ bJ.raw az d.2.1,aa,tC bJ.raw p.2.2.2.2.2.2.2.2.2.2.2.2.2.1 d.2.2.1 d.2.2.2,F]) (λa d=>[mT aM d.1 a.2.1,aq,wX aM d.2.1 a.2.2.1,Bz aM d.2.2.2 a.2.2.2,M,N,H,Sl aM v2 v.1,K,L,J,I,Sl dY ad g]) ((0:Int),P.2.2.1,P.2.2.2.2.1,P.2.2.2.2.2) (p.2.2.2.2.2.1,p.2.2.2.2.2.2.2.2.2.2.2.2.1,ci.1,ci.2) h SF (a_.ix [0,1,2,3,4,5,6,7,8,9,10,11] Z Z) (aH.refl _ _) ?_;intro dA a d h;let b9:=vI ((at' g a.1).1);let b8:=vI ((at' g a.1).2.2);let ch:=((at' v.2 ((at' g a.1).2.1)).length:Int)
  let bh:=vI ((at' g a.1).2.1);let ap:=mT aM d.1 a.2.1;let ao:=fQ bJ.raw az d.2.1;let an:=wX aM d.2.1 a.2.2.1;let am:=Bz aM d.2.2.2 a.2.2.2;let af:=Ar bJ.raw O d.1;let V:=(bL (iA U p0 v p2 g P) dA)
  let bd:=tC bJ.raw p.2.2.2.2.2.2.2.2.2.2.2.2.2.1 d.2.2.1 d.2.2.2;refine aU<|cU Z<|aP<|aN ?_;refine eG h Z (λh=>?_) λh=>?_
  ·refine cL<|aN<|aT<|aU<|cQ h λdr h=>aB (bG Z Z (Da Z) Z Z dr) Z<|aB (gS (cs:=[b9,bh,b8]) Z (Da Z) Cq Z Z Z Z dr) Z<|aJ (aQ.alloc (cs:=[vI (0:Int),vI (0:Int),vI (0:Int)]) Z Z) Z λdP=>cD 0 (vs:=[vI ((at' g a.1).1),vI ((at' g a.1).2.1),vI ((at' g a.1).2.2)]) Z Z Z Z Z Z<|aP<|aU<|aA Z<|cM 0 Z<|Bu (A:=Int×bQ×List (List bQ)×List bQ) (B:=List V0×List (List V0)×List bj×List (List V0)) (vs:=[vP p.1,Value.agg #[vI ((at' g a.1).1),vI ((at' g a.1).2.1),vI ((at' g a.1).2.2)]]) (λag=>nM a V ag=some r) (λag R=>vI (ag.1)) (λag R=>[W,Ar bJ.raw O R.1,X,ab,ac,T,Y,E,fQ bJ.raw az R.2.2.2,aa,tC bJ.raw p.2.2.2.2.2.2.2.2.2.2.2.2.2.1 R.2.1 R.2.2.1,F]) (λag R=>[mT aM R.1 ag.2.1,aq,wX aM R.2.2.2 ag.2.2.2,Bz aM R.2.2.1 ag.2.2.1,M,N,H,Sl aM v2 v.1,K,L,J,I,Sl dY ad g]) (pJ.fn (show bB Tryz.prog 67 from Tryz.call67) Z) Tryz.func67 Z Tryz.ntmps67 Z Z ?_ ?_
   ·refine aU<|aJ (aQ.box (cs:=[b9,bh,b8]) Z Z) Z λcl=>let cf:=bM cl [b9,bh,b8] 28;aC Z<|aP<|aN<|aN<|jW (B:=Unit) (λbm=>sH U p0 v p2 g P a V bm=some r) (λbm cm=>[(0,vP p.1),(3,vP cl),(30,vB (bm))]) (λbm cm=>[cf,W,af,X,ab,ac,T,Y,E,ao,aa,bd,F]) (λbm cm=>[ap,aq,an,am,M,N,H,Sl aM v2 v.1,K,L,J,I,Sl dY ad g]) ?_ ?_
    ·refine rP [0,1,3,7,15,31,63,127,255,511,1023,2047,4095,8191,16383,32767,16383,81919,212991,475135,999423,2047999,4194303,8388607] 22 mixedOrders ?_;refine cC Z<|eQ 0 Z<|eN Z (EF Z Z)<|aV Z ?_;refine vX (by exact rfl) (by exact rfl) (by exact rfl) (λba=>?_) (λba=>?_)
     ·have h:=Hh ba h;refine aK Z Z Z Z<|aK Z Z Z Z<|aK Z Z Z Z<|eN Z (BP Z Z)<|aV Z<|aK Z Z Z Z<|aK Z Z Z Z<|aK Z Z Z Z<|eN Z (BP Z Z)<|aV Z<|aK Z Z Z Z<|aK Z Z Z Z<|aK Z Z Z Z<|aK Z Z Z Z<|aK Z Z Z Z<|aK Z Z Z Z<|aK Z Z Z Z<|aK Z Z Z Z<|bN 22 Z Z<|aO Z<|d_ Z<|aP ?_;exact cB (true) () h SF (a_.ix [0,2,3,4,5,6,7,8,9,10,11,12,13] Z Z) (aH.refl _ _)
     have h:=VK ba h;refine bW Z .nil .nil (cT Z Z Z Z Z) aL.z<|bW Z (a_.cons 0 Z .nil) .nil (dL 0 Z Z Z Z Z) aL.z<|bW Z .nil .nil (wY Z Z) aL.z<|eN Z (rY Z Z)<|aV Z ?_;refine vX (by exact rfl) (by exact rfl) (by exact rfl) (λbb=>?_) (λbb=>?_)
     ·have h:=Hh bb h;refine aK Z Z Z Z<|aK Z Z Z Z<|aK Z Z Z Z<|eN Z (BP Z Z)<|aV Z<|aK Z Z Z Z<|aK Z Z Z Z<|aK Z Z Z Z<|aK Z Z Z Z<|aK Z Z Z Z<|aK Z Z Z Z<|aK Z Z Z Z<|aK Z Z Z Z<|bN 22 Z Z<|aO Z<|d_ Z<|aP ?_;exact cB (true) () h SF (a_.ix [0,2,3,4,5,6,7,8,9,10,11,12,13] Z Z) (aH.refl _ _)
     have h:=VK bb h;refine bW Z .nil .nil (cT Z Z Z Z Z) aL.z<|bW Z (a_.cons 0 Z .nil) .nil (dL 0 Z Z Z Z Z) aL.z<|bW Z .nil .nil (EF Z Z) aL.z<|eN Z (rY Z Z)<|aV Z ?_;refine vX (by exact rfl) (by exact rfl) (by exact rfl) (λbc=>?_) (λbc=>?_)
     ·have h:=Hh bc h;refine aK Z Z Z Z<|aK Z Z Z Z<|aK Z Z Z Z<|aK Z Z Z Z<|aK Z Z Z Z<|aK Z Z Z Z<|aK Z Z Z Z<|aK Z Z Z Z<|bN 22 Z Z<|aO Z<|d_ Z<|aP ?_;exact cB (true) () h SF (a_.ix [0,2,3,4,5,6,7,8,9,10,11,12,13] Z Z) (aH.refl _ _)
     have h:=VK bc h;refine bW Z .nil .nil (cT Z Z Z Z Z) aL.z<|bW Z (a_.cons 0 Z .nil) .nil (dL 0 Z Z Z Z Z) aL.z<|bW Z .nil .nil (dG Z) aL.z<|bW Z .nil .nil (bU Z) aL.z<|bW Z .nil .nil (cT Z Z Z Z Z) aL.z<|bW Z .nil .nil (cT Z Z Z Z Z) aL.z<|bW Z (a_.cons 2 Z .nil) .nil (dL 0 Z Z Z Z Z) aL.z<|bW Z .nil (eV 8 Z) (dM Z (b_ Z) Z) aL.z<|bN 22 Z Z<|aW Z (uI Z Z) Z<|eR Z<|aP ?_;exact cB (decide ((v.2.length:Int)<=((at' g a.1).2.1))) () h SF (a_.ix [0,2,3,4,5,6,7,8,9,10,11,12,13] Z Z) (aH.refl _ _)
    intro bm cm h;refine rR h Z (λ_ h=>?_) λ_ h=>?_
    ·refine aU<|aC Z<|aP<|aS<|aG ?_;exact jX ((2:Int),a.2.1,a.2.2.2,a.2.2.1) (d.1,d.2.2.1,d.2.2.2,d.2.1) h (.inl Z) (Fa.r1 Z (RV.tmp Z)) Z (a_.ix [1,2,3,4,5,6,7,8,9,10,11,12] Z Z) (aH.refl _ _)
    refine cL<|aN<|aU<|bV Z<|dK 0 Z<|cH Z<|aP ?_;refine eG h Z (λh=>?_) λh=>?_
    ·refine aU<|aA Z<|bV Z<|dK 0 Z<|Bu (A:=bQ) (B:=fL) (vs:=[vP p.1,vI ((at' g a.1).2.1)]) (λa4=>Dg a V a4=some r) (λa4 bn=>Value.tuple #[]) (λa4 bn=>[W,Ar bJ.raw O bn,X,ab,ac,T,Y,E,ao,aa,bd,F]) (λa4 bn=>[mT aM bn a4,aq,an,am,M,N,H,Sl aM v2 v.1,K,L,J,I,Sl dY ad g]) (pJ.fn (show bB Tryz.prog 108 from Tryz.call108) Z) Tryz.func108 Z Tryz.ntmps108 Z Z ?_ ?_
     ·refine aU<|aA Z<|aA Z<|Bu (A:=bQ) (B:=DN) (vs:=[vP p.1,vI ((at' g a.1).2.1)]) (λaF=>FH U p0 v g P a V aF=some r) (λaF al=>al.1) (λaF al=>[Ar bJ.raw al.1 al.2,W,af,X,ab,ac,T,Y,E,ao,aa,bd,F]) (λaF al=>[mT aM al.2 aF,ap,aq,an,am,M,N,H,Sl aM v2 v.1,K,L,J,I,Sl dY ad g]) (pJ.fn (show bB Tryz.prog 103 from Tryz.call103) Z) Tryz.func103 Z Tryz.ntmps103 Z Z ?_ ?_
      ·refine aU<|aC Z<|aP<|aU<|aA Z<|aB (bU Z) Z<|bV Z<|bV Z<|dK 1 Z<|cQ h λdT h=>bD (aX (b_ Z)) λdH=>bZ (cG (b_ Z)) ?_;refine aJ (zBb OF (CP U (p0:=d.1) O d.1 (by simp[sV,ck];omega)) Z (aH.cons (pK (i:=2) Z) aH.nil)) Z λca=>?_;refine aC Z<|aP<|aN<|jW (B:=fL) (λa5=>AJ U p0 v g P a V a5=some r) (λa5 bo=>[(5,ca)]) (λa5 bo=>[Ar bJ.raw ca bo,W,af,X,ab,ac,T,Y,E,ao,aa,bd,F]) (λa5 bo=>[mT aM bo a5,ap,aq,an,am,M,N,H,Sl aM v2 v.1,K,L,J,I,Sl dY ad g]) ?_ ?_
       ·refine aU<|aA Z<|aB (bU Z) Z<|bV Z<|bV Z<|dK 2 Z<|aA Z<|cQ h λa1 h=>aB (bK Z Z (Ir Z) Z Z a1) Z<|aB (bS Z (Ir Z) Z Z a1) Z<|aB (fH Z (zBc (Ir Z) a1.1 a1.2) Z) Z<|aA Z<|aP<|aT<|nH (B:=fL) (AM U p0 v g P a V) (λC a6=>[(0,vP p.1),(1,bh),(5,ca),(21,(at' z4 ((at' g a.1).2.1)).1),(22,vI ch),(23,vI (C.1))]) (λC a6=>[Ar bJ.raw ca a6,W,af,X,ab,ac,T,Y,E,ao,aa,bd,F]) (λC a6=>[mT aM a6 C.2,ap,aq,an,am,M,N,H,Sl aM v2 v.1,K,L,J,I,Sl dY ad g]) ((0:Int),a.2.1) (tg 1 d.1) h SF (a_.ix [0,2,3,4,5,6,7,8,9,10,11,12,13] Z Z) (aH.refl _ _) ?_;intro dU C a6 h;refine aU<|cU Z<|aP<|aN ?_;refine eG h Z (λh=>?_) λh=>?_
        ·refine cL<|aN<|aT<|aU<|aA Z<|cQ h λds h=>aB (bG Z Z (zBc (Ir Z) a1.1 a1.2) Z Z ds) Z<|aB (gS (cs:=[vI ((at' (at' v.2 ((at' g a.1).2.1)) C.1).1),vI ((at' (at' v.2 ((at' g a.1).2.1)) C.1).2)]) Z (zBc (Ir Z) a1.1 a1.2) cR Z Z Z Z ds) Z<|aJ (aQ.alloc (cs:=TF) Z Z) Z λdS=>aC Z<|cD 0 (vs:=[vI ((at' (at' v.2 ((at' g a.1).2.1)) C.1).1),vI ((at' (at' v.2 ((at' g a.1).2.1)) C.1).2)]) Z Z Z Z Z Z<|aP ?_;refine rP [0,0,2,0,8,24,56,120,0,504,1016,0,4088,8184,16383,32767] 14 mixedOrders ?_;refine aV Z<|cC Z<|eQ 0 Z<|aV Z<|eN Z (bU Z)<|cC Z<|cC Z<|eQ 2 Z<|aV Z<|cQ h λQ h=>aZ (cE (fM (i:=9) (q:=10) (j:=3) Z Z Z)) λdj=>eN Z (cO Z Z dj Z Z Q)<|aZ (dQ 10 Z) λdk=>aZ (aX (Bh Z)) λdl=>bA Z (a_.cons 9 Z .nil) .nil (gE 0 Z Z (dk.trans dl) Z Z Q) aL.z<|aV Z<|cQ h λay h=>aZ (cE (Dj (q:=10) (j:=3) Z Z Q.1 (by first|exact Q.2|simpa using Q.2))) λcn=>?_;refine eN Z (cO Z Z cn Z Z ay)<|aZ (aX (Bh Z)) λco=>?_;refine aZ (aX (bO (Bh Z) Q.1 (by first|exact Q.2|simpa using Q.2))) λcp=>?_;refine bA Z (a_.cons 10 Z .nil) .nil (cI (f:=λx=>x) Z (DU (q:=0) Z Q.1 (by have t:=Q.2;have u:=co;(try simp only[zA1]at t u);(try simp only[zA1]);omega)) Z Z Z hZ ⟨ay.1,(by have t:=ay.2;have u:=cp;(try simp only[zA1]at t u);(try simp only[zA1]);omega)⟩) aL.z ?_;refine bN 14 Z Z<|cQ h λb6 h=>aB (bK Z Z (cK (i:=1) (j:=0) Z Z) Z Z b6) Z ?_;refine bD (Know.one ((bO (bO (Bh Z) Q.1 (by first|exact Q.2|simpa using Q.2)) ay.1 (by first|exact ay.2|simpa using ay.2)))) λbR=>?_;refine bD (aX (b_ Z)) λcq=>?_;refine bZ (cG (gJ (Int.toNat ((at' (at' v.2 ((at' g a.1).2.1)) C.1).1)) (b_ Z) (bO (bO (Bh Z) Q.1 (by first|exact Q.2|simpa using Q.2)) ay.1 (by first|exact ay.2|simpa using ay.2)))) ?_;refine tP (lQ (us:=[at' (at' d.2.1 ((at' g a.1).2.1)) C.1]) (o:=0) (q:=1) 1 (at' (at' d.2.1 ((at' g a.1).2.1)) C.1) ⟨b6.1,(by have t:=b6.2;have u:=cq;(try simp only[zA1]at t u);(try simp only[zA1]);omega)⟩ Z Z Z Z (by rw[show(at' (at' d.2.1 ((at' g a.1).2.1)) C.1).cells = #[at' (at' d.2.1 ((at' g a.1).2.1)) C.1]from iF bR]) Z Z Z (fY bR Z) Z) λdI=>?_;refine eS<|lA<|aR<|cN Z<|aA Z<|aP ?_;exact iP ((wI .i64 (C.1+(1:Int))),(List.set C.2 (Int.toNat ((at' (at' v.2 ((at' g a.1).2.1)) C.1).1)) (at' (at' a.2.2.1 ((at' g a.1).2.1)) C.1))) (List.set a6 (Int.toNat ((at' (at' v.2 ((at' g a.1).2.1)) C.1).1)) (at' (at' d.2.1 ((at' g a.1).2.1)) C.1)) h SF (a_.ix [1,2,3,4,5,6,7,8,9,10,11,12,13] Z Z) (iB [0,2,3,4,5,6,7,8,9,10,11,12,13,14] Z)
        refine eP ?_;exact f_ (C.2) (a6) h SF Z
       intro a5 bo h;unfold AJ at h;refine aU<|aA Z<|aC Z<|aP<|aS ?_;exact jX (a5) (ca,bo) h (.inl Z) (Fa.r1 Z (RV.tmp Z)) Z (a_.refl _) (aH.refl _ _)
      intro aF al h;refine aC Z<|aP<|aU<|aA Z<|aB (bU Z) Z<|bV Z<|dK 1 Z<|aA Z<|aA Z<|eI h λdB dE h=>aJ (zBb OC (vQ U p.2.1 v0 v1 bl v0 v1 v2 v3 z4 bg ((List.zip bf P.2.2.2.1)) bk (List.zip bi P.1) al.1 ((List.zip al.2 aF)) dB dE) Z (aH.cons (aI.res 3 Z) (aH.cons (zJ Z) (aH.cons (Fy Z) (aH.cons (aI.res 6 Z) (aH.cons (zJ Z) (aH.cons (Fy Z) (aH.cons (QI Z) (aH.cons (Ir Z) (aH.cons (cK (i:=7) (j:=2) Z Z) (aH.cons (fG (i:=4) (j:=5) Z Z cR) (aH.cons (cK (i:=0) (j:=0) Z Z) .nil)))))))))))) Z λdV=>aC Z<|aP<|aU<|aA Z<|aB (uI Z Z) Z<|aP ?_;refine eG h Z (λh=>?_) λh=>?_
      ·refine rP [0,1,3,7,15,0,0,64,192,448,0,0,0,8128,16383,32767] 14 mixedOrders ?_;refine aV Z<|eN Z (bU Z)<|cC Z<|cC Z<|eQ 1 Z<|aV Z<|aV Z<|eN Z (bU Z)<|cC Z<|eQ 1 Z<|aV Z<|aV Z<|aV Z<|eI h λdt dF h=>zBd Z Z Z (zBb aag (GI U p.2.1 v0 v1 bl v0 v1 v2 v3 z4 bg ((List.zip bf P.2.2.2.1)) bk (List.zip bi P.1) al.1 ((List.zip al.2 aF)) dt dF) Z (aH.cons (aI.res 3 Z) (aH.cons (zJ Z) (aH.cons (Fy Z) (aH.cons (aI.res 6 Z) (aH.cons (zJ Z) (aH.cons (Fy Z) (aH.cons (QI Z) (aH.cons (Ir Z) (aH.cons (cK (i:=7) (j:=2) Z Z) (aH.cons (fG (i:=4) (j:=5) Z Z cR) (aH.cons (cK (i:=0) (j:=0) Z Z) .nil)))))))))))) Z (λbp=>(nK [([2],[])] Z)) λbp=>bN 14 Z Z<|cQ h λdh h=>aB (bK Z Z (cK (i:=3) (j:=1) Z Z) Z Z dh) Z<|bD (Know.one ((dR (aI.res 0 Z) iY))) λcc=>bZ (fZ 0 Z (dR (aI.res 0 Z) iY))<|bD (aX (zI Z)) λdi=>bZ (cG (gJ (Int.toNat ((at' g a.1).2.1)) (zI Z) (b_ Z))) ?_;refine tP (lQ (us:=[bp]) (o:=0) (q:=1) 2 bp ⟨dh.1,(by have t:=dh.2;have u:=di;(try simp only[zA1]at t u);(try simp only[zA1]);omega)⟩ Z Z Z Z (by rw[show(bp).cells = #[bp]from iF cc]) Z Z Z (fY cc Z) Z) λdX=>?_;refine eS ?_;exact jX (List.set a.2.1 (Int.toNat ((at' g a.1).2.1)) dt) (List.set d.1 (Int.toNat ((at' g a.1).2.1)) bp) h (.inr Z) (Fa.r0 Z) Z (a_.ix [1,2,3,4,5,6,7,8,9,10,11,12] Z Z) (iB [0,4,5,6,7,8,9,10,11,12,13,14,15] Z)
      refine dW ?_;exact jX (a.2.1) (d.1) h (.inr Z) (Fa.r0 Z) Z (a_.ix [1,2,3,4,5,6,7,8,9,10,11,12] Z Z) (iB [1,2,3,4,5,6,7,8,9,10,11,12,13] Z)
     intro a4 bn h;unfold Dg at h;refine aP<|aU<|aC Z<|aP<|aS<|aG ?_;exact jX ((0:Int),a4,a.2.2.2,a.2.2.1) (bn,d.2.2.1,d.2.2.2,d.2.1) h (.inl Z) (Fa.r1 Z (RV.tmp Z)) Z (a_.refl _) (aH.refl _ _)
    refine cL<|aN<|aN<|jW (B:=Unit) (λar=>AK U v p2 g a V ar=some r) (λar bq=>[(0,vP p.1),(3,vP cl),(55,vB (ar))]) (λar bq=>[cf,W,af,X,ab,ac,T,Y,E,ao,aa,bd,F]) (λar bq=>[ap,aq,an,am,M,N,H,Sl aM v2 v.1,K,L,J,I,Sl dY ad g]) ?_ ?_
    ·refine rP [0,1,3,7,15,31,15,79,207,463,975,15,2063,8143,16335,32719,65535,131071] 16 mixedOrders ?_;refine cC Z<|eQ 0 Z<|eN Z (EF Z Z)<|aV Z ?_;refine vX (by exact rfl) (by exact rfl) (by exact rfl) (λa9=>?_) (λa9=>?_)
     ·have h:=Hh a9 h;refine aK Z Z Z Z<|aK Z Z Z Z<|aK Z Z Z Z<|aK Z Z Z Z<|aK Z Z Z Z<|aK Z Z Z Z<|aK Z Z Z Z<|aK Z Z Z Z<|aK Z Z Z Z<|aK Z Z Z Z<|aK Z Z Z Z<|aK Z Z Z Z<|bN 16 Z Z<|aO Z<|d_ Z<|aP ?_;exact f_ (true) () h SF Z
     have h:=VK a9 h;refine bW Z .nil .nil (cT Z Z Z Z Z) aL.z<|bW Z (a_.cons 0 Z .nil) .nil (dL 0 Z Z Z Z Z) aL.z<|bW Z .nil .nil (dG Z) aL.z<|bW Z .nil .nil (bU Z) aL.z<|bW Z .nil .nil (cT Z Z Z Z Z) aL.z<|bW Z .nil .nil (cT Z Z Z Z Z) aL.z<|bW Z (a_.cons 1 Z .nil) .nil (dL 0 Z Z Z Z Z) aL.z<|bW Z .nil .nil (cT Z Z Z Z Z) aL.z<|bW Z (a_.cons 0 Z .nil) .nil (dL 0 Z Z Z Z Z) aL.z<|cQ h λbe h=>bW Z .nil (eV 8 Z) (bK Z Z (b_ Z) Z Z be) aL.z<|bW Z .nil (eV 8 Z) (bS Z (b_ Z) Z Z be) aL.z<|bW Z .nil (eV 8 Z) (fH Z (zBc (b_ Z) be.1 be.2) Z) aL.z<|bN 16 Z Z<|aW Z (uI Z Z) Z<|eR Z<|aP ?_;exact f_ (decide (ch<=((at' g a.1).2.2))) () h SF Z
    intro ar bq h;refine rR h Z (λ_ h=>?_) λ_ h=>?_
    ·refine aU<|aC Z<|aP<|aS<|aG ?_;exact jX ((2:Int),a.2.1,a.2.2.2,a.2.2.1) (d.1,d.2.2.1,d.2.2.2,d.2.1) h (.inl Z) (Fa.r1 Z (RV.tmp Z)) Z (a_.ix [1,2,3,4,5,6,7,8,9,10,11,12] Z Z) (aH.refl _ _)
    refine cL<|aN<|aU<|bV Z<|dK 0 Z<|cH Z<|aP ?_;refine eG h Z (λh=>?_) λh=>?_
    ·refine aU<|aA Z<|bV Z<|dK 0 Z<|bV Z<|dK 0 Z<|Bu (A:=CW) (B:=List (List V0)×List bj) (vs:=[vP p.1,vI ((at' g a.1).2.1),vI ((at' g a.1).2.2)]) (λah=>Dh a V ah=some r) (λah ae=>Value.tuple #[]) (λah ae=>[W,af,X,ab,ac,T,Y,E,ao,aa,tC bJ.raw p.2.2.2.2.2.2.2.2.2.2.2.2.2.1 ae.1 ae.2,F]) (λah ae=>[Bz aM ae.2 ah,ap,aq,an,M,N,H,Sl aM v2 v.1,K,L,J,I,Sl dY ad g]) (pJ.fn (show bB Tryz.prog 109 from Tryz.call109) Z) Tryz.func109 Z Tryz.ntmps109 Z Z ?_ ?_
     ·refine aU<|aA Z<|aB (bU Z) Z<|bV Z<|bV Z<|dK 1 Z<|aA Z<|cQ h λm h=>aB (bK Z Z (gO (i:=10) (q:=11) (j:=3) Z Z Z) Z Z m) Z<|bD (kC 11 Z) λcr=>bD (aX (Bh Z)) λct=>aB (gE 10 Z Z (cr.trans ct) Z Z m) Z<|aA Z<|cQ h λy h=>aB (bK Z Z (zA (q:=11) (j:=3) Z Z m.1 (by first|exact m.2|simpa using m.2)) Z Z y) Z ?_;refine aC Z<|aP<|aN ?_;refine rP [0,1,3,7,0,16,48,112,255] 8 mixedOrders ?_;refine aV Z<|eN Z (uK Z)<|aZ (aX (Bh Z)) λbr=>?_;refine aZ (j_ (k:=((at' g a.1).2.1)) 11 Z ⟨m.1,(by have t:=m.2;have u:=br;(try simp only[zA1]at t u);(try simp only[zA1]);omega)⟩) λcu=>?_;refine aZ (aX (bO (Bh Z) m.1 (by first|exact m.2|simpa using m.2))) λcv=>?_;refine bA Z (a_.cons 11 Z .nil) .nil (cI (f:=λx=>x) Z (nN (q:=0) Z m.1 (by have t:=m.2;have u:=br;(try simp only[zA1]at t u);(try simp only[zA1]);omega)) Z Z Z hZ ⟨y.1,(by have t:=y.2;have u:=cu;have q2:=cv;(try simp only[zA1]at t u q2);(try simp only[zA1]);omega)⟩) aL.z ?_;refine bA Z (a_.cons 11 Z .nil) (eV 3 Z) (dM Z (Bw (q:=0) (j:=0) Z Z ⟨m.1,by first|exact m.2|simpa using m.2⟩ ⟨y.1,by first|exact y.2|simpa using y.2⟩) Z) aL.z<|aV Z<|eN Z (bU Z)<|cC Z<|eQ 1 Z<|bN 8 Z Z<|cU Z<|aP ?_;refine eG h Z (λh=>?_) λh=>?_
      ·refine rP [0,0,2,6,0,16,48,112,240,0,1008,2032,4080,8176,16382,32767,65535] 15 mixedOrders ?_;refine aV Z<|aV Z<|eN Z (uK Z)<|aZ (aX (Bh Z)) λbs=>?_;refine aZ (j_ (k:=((at' g a.1).2.1)) 11 Z ⟨m.1,(by have t:=m.2;have u:=bs;(try simp only[zA1]at t u);(try simp only[zA1]);omega)⟩) λcw=>?_;refine aZ (aX (bO (Bh Z) m.1 (by first|exact m.2|simpa using m.2))) λcx=>?_;refine bA Z (a_.cons 11 Z .nil) .nil (cI (f:=λx=>x) Z (nN (q:=0) Z m.1 (by have t:=m.2;have u:=bs;(try simp only[zA1]at t u);(try simp only[zA1]);omega)) Z Z Z hZ ⟨y.1,(by have t:=y.2;have u:=cw;have q2:=cx;(try simp only[zA1]at t u q2);(try simp only[zA1]);omega)⟩) aL.z ?_;refine aV Z<|eN Z (bU Z)<|cC Z<|cC Z<|eQ 1 Z<|aV Z<|cQ h λa0 h=>aZ (cE (cK (i:=2) (j:=0) Z Z)) λcy=>eN Z (cO Z Z cy Z Z a0)<|aZ (aX (b_ Z)) λcz=>bA Z (a_.cons 2 Z .nil) .nil (gE 0 Z Z cz Z Z a0) aL.z<|eI h λcj dv h=>zBd Z Z Z (zBb adl (Mv U (at' d.1 ((at' g a.1).2.1)) cj dv) Z (aH.cons (bO (b_ Z) a0.1 (by first|exact a0.2|simpa using a0.2)) .nil)) Z (λa2=>(nK [([12],[])] Z)) λa2=>?_;refine aZ (Know.one ((dR (aI.res 0 Z) iY))) λbT=>zBe (fZ 0 Z (dR (aI.res 0 Z) iY))<|zBe (cG (hJ (b_ Z) eC))<|zBd Z Z Z (cX (e:=bJ.raw) ([a2]) [(0,a2)] Z Z Z Z (jU (a2) bT) Z Z (fY bT Z)) Z (λdu=>(nK [([12],[])] Z)) λdu=>aZ (kC 12 Z) λdy=>aZ (aX (zJ Z)) λbt=>?_;refine aZ (j_ (k:=((at' g a.1).2.1)) 12 Z ⟨m.1,(by have t:=m.2;have u:=bt;(try simp only[zA1]at t u);(try simp only[zA1]);omega)⟩) λcA=>?_;refine zBe (CX (k:=((at' g a.1).2.1)) 12 Z ⟨m.1,(by have t:=m.2;have u:=bt;(try simp only[zA1]at t u);(try simp only[zA1]);omega)⟩) ?_;refine aZ (aX (bO (zJ Z) m.1 (by first|exact m.2|simpa using m.2))) λcF=>?_;refine zBe (cG (bO (bO (zJ Z) m.1 (by first|exact m.2|simpa using m.2)) y.1 (by first|exact y.2|simpa using y.2))) ?_;refine zBe (Cu (k:=((at' g a.1).2.2)) 1 Z ⟨y.1,(by have t:=y.2;have u:=cF;(try simp only[zA1]at t u);(try simp only[zA1]);omega)⟩) ?_;refine aZ (aX (b_ Z)) λbu=>aZ (aX (mR Z)) λbw=>cQ h λcd h=>zBe (cG (gH (b_ Z) (mR Z))) ?_;refine zBd Z Z Z (aQ.append 0 3 Z Z Z Z Z Z Z (by have q:=cd;have t:=bu;have u:=bw;(try simp only[zA8,zAg,zA5]at *);omega) (by have q:=cd;have t:=bu;have u:=bw;(try simp only[zA8,zAg,zA5]at *);omega) Z) Z (λax=>(nK [] Z)) λax=>?_;refine bN 15 Z Z<|aB (uK Z) Z<|bD (tM (cK (i:=0) (j:=0) Z Z)) λbY=>bD (aX (z_ Z)) λa7=>?_;refine bD (aX (bO (z_ Z) m.1 (by first|exact m.2|simpa using m.2))) λbx=>?_;refine bZ (cG (gJ (Int.toNat ((at' g a.1).2.1)) (z_ Z) (gJ (Int.toNat ((at' g a.1).2.2)) (bO (z_ Z) m.1 (by first|exact m.2|simpa using m.2)) (b_ Z)))) ?_;refine bZ (Cs (k:=((at' g a.1).2.2)) 2 0 Z Z Z ⟨y.1,(by have t:=y.2;have u:=a7;have q2:=bx;(try simp only[zA1]at t u q2);(try simp only[zA1]);omega)⟩) ?_;refine tP (lQ (us:=[ax]) (o:=0) (q:=1) 0 ax ⟨y.1,(by have t:=y.2;have u:=a7;have q2:=bx;have q3:=cA;(try simp only[zA1]at t u q2 q3);(try simp only[zA1]);omega)⟩ Z Z Z Z (by rw[show(ax).cells = #[ax]from iF bY]) Z Z Z (fY bY Z) Z) λdJ=>?_;refine bZ (DV (k:=((at' g a.1).2.1)) (vs:=p.2.2.2.2.2.2.2.2.2.2.2.2.2.1) (wss:=d.2.2.1) (xsss:=d.2.2.2) (i':=13) (j':=0) 14 0 1 Z Z Z Z Z Z Z ⟨m.1,(by have t:=m.2;have u:=a7;(try simp only[zA1]at t u);(try simp only[zA1]);omega)⟩) ?_;refine eS ?_;exact jX (List.set a.2.2.2 (Int.toNat ((at' g a.1).2.1)) (List.set (at' a.2.2.2 ((at' g a.1).2.1)) (Int.toNat ((at' g a.1).2.2)) ((at' (at' a.2.2.2 ((at' g a.1).2.1)) ((at' g a.1).2.2))++[cj]))) ((List.set d.2.2.1 (Int.toNat ((at' g a.1).2.1)) (List.set (at' d.2.2.1 ((at' g a.1).2.1)) (Int.toNat ((at' g a.1).2.2)) ax)),(List.set d.2.2.2 (Int.toNat ((at' g a.1).2.1)) (List.set (at' d.2.2.2 ((at' g a.1).2.1)) (Int.toNat ((at' g a.1).2.2)) ((at' (at' d.2.2.2 ((at' g a.1).2.1)) ((at' g a.1).2.2))++[a2])))) h (.inr Z) (Fa.r0 Z) Z (a_.ix [2,3,4,5,6,7,8,9,10,11,12,13] Z Z) (iB [0,5,6,7,9,10,11,12,13,14,15,16,17] Z)
      refine dW ?_;exact jX (a.2.2.2) (d.2.2.1,d.2.2.2) h (.inr Z) (Fa.r0 Z) Z (a_.ix [1,2,3,4,5,6,7,8,9,10,11,12] Z Z) (iB [3,0,1,2,4,5,6,7,8,9,10,11,12] Z)
     intro ah ae h;unfold Dh at h;refine aP<|aU<|aC Z<|aP<|aS<|aG ?_;exact jX ((0:Int),a.2.1,ah,a.2.2.1) (d.1,ae.1,ae.2,d.2.1) h (.inl Z) (Fa.r1 Z (RV.tmp Z)) Z (a_.refl _) (iB [1,2,3,0,4,5,6,7,8,9,10,11,12] Z)
    refine cL<|aN ?_;refine rP [0,1,3,7,15,0,32,127,255,0,512,2047,4095,8191,16383] 11 mixedOrders ?_;refine aV Z<|eN Z (bU Z)<|cC Z<|cC Z<|eQ 1 Z<|cC Z<|eQ 0 Z<|cQ h λau h=>bA Z .nil (eV 8 Z) (bK Z Z (b_ Z) Z Z au) aL.z<|bA Z .nil (eV 8 Z) (bS Z (b_ Z) Z Z au) aL.z<|cC Z<|eQ 0 Z<|bN 11 Z Z<|cQ h λce h=>aB (bG Z Z (zBc (QI Z) au.1 au.2) Z Z ce) Z<|aB (dC Z Z Z Z Z) Z<|aB (eL Z (zBc (QI Z) au.1 au.2) Z Z Z gA ce) Z<|aC Z<|aP<|aN ?_;refine rP [0,1,3,7,15,0,63,127,0,256,768,1792,0,0,8192,32512,65535,131071] 16 mixedOrders ?_;refine aV Z<|eN Z (bU Z)<|cC Z<|cC Z<|eQ 1 Z<|aV Z<|cQ h λb h=>aZ (cE (gO (i:=10) (q:=11) (j:=3) Z Z Z)) λcP=>eN Z (cO Z Z cP Z Z b)<|aZ (kC 11 Z) λcS=>aZ (aX (Bh Z)) λcV=>bA Z (a_.cons 10 Z .nil) .nil (gE 0 Z Z (cS.trans cV) Z Z b) aL.z<|aV Z<|eN Z (bU Z)<|cC Z<|bA Z (a_.cons 1 Z .nil) .nil (Lv 0 (us:=[v2,v3]) Z Z Z Z Z Z) aL.z<|aV Z<|cC Z<|eQ 0 Z<|eI h λs dw h=>zBd Z Z Z (zBb TU (GK U v2 v3 z4 s dw) Z (iB [7,8] Z)) Z (λdx=>(nK [([10],[]),([1],[])] Z)) λdx=>bN 16 Z Z<|cQ h λn h=>aB (bK Z Z (zA (q:=11) (j:=3) Z Z b.1 (by first|exact b.2|simpa using b.2)) Z Z n) Z ?_;refine aC Z<|aP<|aN<|aU<|aA Z<|aB (uK Z) Z<|bD (aX (Bh Z)) λbz=>?_;refine bD (j_ (k:=((at' (at' v.2 ((at' g a.1).2.1)) ((at' g a.1).2.2)).1)) 11 Z ⟨b.1,(by have t:=b.2;have u:=bz;(try simp only[zA1]at t u);(try simp only[zA1]);omega)⟩) λcY=>?_;refine bD (aX (bO (Bh Z) b.1 (by first|exact b.2|simpa using b.2))) λc0=>?_;refine aB (cI (f:=λx=>x) Z (nN (q:=11) Z b.1 (by have t:=b.2;have u:=bz;(try simp only[zA1]at t u);(try simp only[zA1]);omega)) Z Z Z hZ ⟨n.1,(by have t:=n.2;have u:=cY;have q2:=c0;(try simp only[zA1]at t u q2);(try simp only[zA1]);omega)⟩) Z ?_;refine aB (dM Z (Bw (q:=11) (j:=3) Z Z ⟨b.1,by first|exact b.2|simpa using b.2⟩ ⟨n.1,by first|exact n.2|simpa using n.2⟩) Z) Z<|cH Z<|aP ?_;refine eG h Z (λh=>?_) λh=>?_
    ·refine aU<|aC Z<|aP<|aS<|aG ?_;exact jX ((0:Int),a.2.1,a.2.2.2,a.2.2.1) (d.1,d.2.2.1,d.2.2.2,d.2.1) h (.inl Z) (Fa.r1 Z (RV.tmp Z)) Z (a_.ix [1,2,3,4,5,6,7,8,9,10,11,12] Z Z) (aH.refl _ _)
    refine cL<|aN<|jW (B:=Bp) (λai=>AL v g a V s ai=some r) (λai ak=>[(6,Fq (at' p.2.2.2.2.2.2.2.2.2.2.2.2.2.1 ((at' (at' v.2 ((at' g a.1).2.1)) ((at' g a.1).2.2)).1)) (Int.toNat (s)*1))]) (λai ak=>[W,af,X,ab,ac,T,Y,E,fQ bJ.raw az ak,aa,bd,F]) (λai ak=>[wX aM ak ai,ap,aq,am,M,N,H,Sl aM v2 v.1,K,L,J,I,Sl dY ad g]) ?_ ?_
    ·refine aU<|bV Z<|dK 0 Z<|cH Z<|aP ?_;refine eG h Z (λh=>?_) λh=>?_
     ·refine rP [0,1,3,7,15,0,32,127,255,0,512,0,2048,6144,14336,30720,65535,131071] 16 mixedOrders ?_;refine aV Z<|eN Z (bU Z)<|cC Z<|cC Z<|eQ 1 Z<|cC Z<|eQ 0 Z<|cQ h λD h=>aZ (cE (fM (i:=8) (q:=9) (j:=2) Z Z Z)) λc6=>eN Z (cO Z Z c6 Z Z D)<|aZ (dQ 9 Z) λc7=>aZ (aX (zI Z)) λc8=>bA Z (a_.cons 8 Z .nil) .nil (gE 0 Z Z (c7.trans c8) Z Z D) aL.z<|cC Z<|eQ 0 Z<|aV Z<|eN Z (uK Z)<|aZ (aX (Bh Z)) λbP=>?_;refine aZ (j_ (k:=((at' (at' v.2 ((at' g a.1).2.1)) ((at' g a.1).2.2)).1)) 11 Z ⟨b.1,(by have t:=b.2;have u:=bP;(try simp only[zA1]at t u);(try simp only[zA1]);omega)⟩) λc9=>?_;refine aZ (aX (bO (Bh Z) b.1 (by first|exact b.2|simpa using b.2))) λda=>?_;refine bA Z (a_.cons 11 Z .nil) .nil (cI (f:=λx=>x) Z (nN (q:=0) Z b.1 (by have t:=b.2;have u:=bP;(try simp only[zA1]at t u);(try simp only[zA1]);omega)) Z Z Z hZ ⟨n.1,(by have t:=n.2;have u:=c9;have q2:=da;(try simp only[zA1]at t u q2);(try simp only[zA1]);omega)⟩) aL.z<|cQ h λS h=>aZ (cE (Bw (q:=11) (j:=3) Z Z ⟨b.1,by first|exact b.2|simpa using b.2⟩ ⟨n.1,by first|exact n.2|simpa using n.2⟩)) λdb=>eN Z (cO Z Z db Z Z S)<|aZ (aX (Bh Z)) λdc=>?_;refine aZ (aX (bO (Bh Z) b.1 (by first|exact b.2|simpa using b.2))) λdd=>?_;refine aZ (aX (bO (bO (Bh Z) b.1 (by first|exact b.2|simpa using b.2)) n.1 (by first|exact n.2|simpa using n.2))) λde=>?_;refine bA Z (a_.cons 11 Z .nil) .nil (cI (f:=λx=>x) Z (Kd (q:=0) Z ⟨b.1,(by have t:=b.2;have u:=dc;(try simp only[zA1]at t u);(try simp only[zA1]);omega)⟩ ⟨n.1,(by have t:=n.2;have u:=dd;(try simp only[zA1]at t u);(try simp only[zA1]);omega)⟩) Z Z Z hZ ⟨S.1,(by have t:=S.2;have u:=de;(try simp only[zA1]at t u);(try simp only[zA1]);omega)⟩) aL.z ?_;refine bN 16 Z Z<|cQ h λb7 h=>aB (bK Z Z (Dj (q:=9) (j:=2) Z Z D.1 (by first|exact D.2|simpa using D.2)) Z Z b7) Z ?_;refine bD (Know.one ((bO (bO (bO (Bh Z) b.1 (by first|exact b.2|simpa using b.2)) n.1 (by first|exact n.2|simpa using n.2)) S.1 (by first|exact S.2|simpa using S.2)))) λb5=>?_;refine bD (aX (zI Z)) λdf=>?_;refine bD (aX (bO (zI Z) D.1 (by first|exact D.2|simpa using D.2))) λdg=>?_;refine bZ (cG (gJ (Int.toNat ((at' g a.1).2.1)) (zI Z) (gJ (Int.toNat ((at' g a.1).2.2)) (bO (zI Z) D.1 (by first|exact D.2|simpa using D.2)) (bO (bO (bO (Bh Z) b.1 (by first|exact b.2|simpa using b.2)) n.1 (by first|exact n.2|simpa using n.2)) S.1 (by first|exact S.2|simpa using S.2))))) ?_;refine tP (zM (us:=[at' (at' (at' d.2.2.2 ((at' (at' v.2 ((at' g a.1).2.1)) ((at' g a.1).2.2)).1)) s) (0:Int)]) (o:=0) (q:=1) (k:=((at' g a.1).2.1)) 9 (at' (at' (at' d.2.2.2 ((at' (at' v.2 ((at' g a.1).2.1)) ((at' g a.1).2.2)).1)) s) (0:Int)) ⟨D.1,(by have t:=D.2;have u:=df;(try simp only[zA1]at t u);(try simp only[zA1]);omega)⟩ ⟨b7.1,(by have t:=b7.2;have u:=dg;(try simp only[zA1]at t u);(try simp only[zA1]);omega)⟩ Z Z Z Z (by rw[iF b5]) Z Z Z (fY b5 Z) Z) λdO=>?_;refine aP ?_;exact cB (List.set a.2.2.1 (Int.toNat ((at' g a.1).2.1)) (List.set (at' a.2.2.1 ((at' g a.1).2.1)) (Int.toNat ((at' g a.1).2.2)) (at' (at' (at' a.2.2.2 ((at' (at' v.2 ((at' g a.1).2.1)) ((at' g a.1).2.2)).1)) s) (0:Int)))) (List.set d.2.1 (Int.toNat ((at' g a.1).2.1)) (List.set (at' d.2.1 ((at' g a.1).2.1)) (Int.toNat ((at' g a.1).2.2)) (at' (at' (at' d.2.2.2 ((at' (at' v.2 ((at' g a.1).2.1)) ((at' g a.1).2.2)).1)) s) (0:Int)))) h SF (a_.ix [1,2,3,4,5,6,7,8,9,10,11,12] Z Z) (iB [0,1,2,4,5,6,7,8,9,10,11,12,13] Z)
     refine cL ?_;exact cB (a.2.2.1) (d.2.1) h SF (a_.ix [1,2,3,4,5,6,7,8,9,10,11,12] Z Z) (iB [2,0,1,3,4,5,6,7,8,9,10,11,12] Z)
    intro ai ak h;refine aU<|aA Z<|aA Z<|aB (uK Z) Z<|bD (aX (Bh Z)) λbC=>?_;refine bD (j_ (k:=((at' (at' v.2 ((at' g a.1).2.1)) ((at' g a.1).2.2)).1)) 10 Z ⟨b.1,(by have t:=b.2;have u:=bC;(try simp only[zA1]at t u);(try simp only[zA1]);omega)⟩) λc1=>?_;refine bD (aX (bO (Bh Z) b.1 (by first|exact b.2|simpa using b.2))) λc2=>?_;refine aB (cI (f:=λx=>x) Z (nN (q:=10) Z b.1 (by have t:=b.2;have u:=bC;(try simp only[zA1]at t u);(try simp only[zA1]);omega)) Z Z Z hZ ⟨n.1,(by have t:=n.2;have u:=c1;have q2:=c2;(try simp only[zA1]at t u q2);(try simp only[zA1]);omega)⟩) Z ?_;refine bD (kC 10 Z) λdz=>bD (aX (Bh Z)) λbH=>?_;refine bD (j_ (k:=((at' (at' v.2 ((at' g a.1).2.1)) ((at' g a.1).2.2)).1)) 10 Z ⟨b.1,(by have t:=b.2;have u:=bH;(try simp only[zA1]at t u);(try simp only[zA1]);omega)⟩) λc3=>?_;refine bZ (CX (k:=((at' (at' v.2 ((at' g a.1).2.1)) ((at' g a.1).2.2)).1)) 10 Z ⟨b.1,(by have t:=b.2;have u:=bH;(try simp only[zA1]at t u);(try simp only[zA1]);omega)⟩) ?_;refine bD (aX (bO (Bh Z) b.1 (by first|exact b.2|simpa using b.2))) λc4=>?_;refine bZ (cG (bO (bO (Bh Z) b.1 (by first|exact b.2|simpa using b.2)) n.1 (by first|exact n.2|simpa using n.2))) ?_;refine bZ (Cu (k:=s) 1 Z ⟨n.1,(by have t:=n.2;have u:=c4;(try simp only[zA1]at t u);(try simp only[zA1]);omega)⟩)<|cQ h λdq h=>bD (aX (b_ Z)) λc5=>bZ (cG (gH (Ot (Int.toNat (0:Int)) (b_ Z)) (Is (Int.toNat (1:Int)) (b_ Z)))) ?_;refine aJ (Ff (Min:=[Ar bJ.raw (at' (at' d.2.2.1 ((at' (at' v.2 ((at' g a.1).2.1)) ((at' g a.1).2.2)).1)) s) (at' (at' d.2.2.2 ((at' (at' v.2 ((at' g a.1).2.1)) ((at' g a.1).2.2)).1)) s)]) (Mr:=[Ar bJ.raw (at' p.2.2.2.2.2.2.2.2.2.2.2.2.2.1 ((at' (at' v.2 ((at' g a.1).2.1)) ((at' g a.1).2.2)).1)) (at' d.2.2.1 ((at' (at' v.2 ((at' g a.1).2.1)) ((at' g a.1).2.2)).1)),fQ bJ.raw (List.set (at' d.2.2.1 ((at' (at' v.2 ((at' g a.1).2.1)) ((at' g a.1).2.2)).1)) (Int.toNat s) (cW)) (List.set (at' d.2.2.2 ((at' (at' v.2 ((at' g a.1).2.1)) ((at' g a.1).2.2)).1)) (Int.toNat s) []),W,af,X,ab,ac,T,Y,E,fQ bJ.raw az ak,aa,tC bJ.raw (List.set p.2.2.2.2.2.2.2.2.2.2.2.2.2.1 (Int.toNat ((at' (at' v.2 ((at' g a.1).2.1)) ((at' g a.1).2.2)).1)) (cW)) (List.set d.2.2.1 (Int.toNat ((at' (at' v.2 ((at' g a.1).2.1)) ((at' g a.1).2.2)).1)) []) (List.set d.2.2.2 (Int.toNat ((at' (at' v.2 ((at' g a.1).2.1)) ((at' g a.1).2.2)).1)) []),F]) Z_ (JV U (at' (at' d.2.2.1 ((at' (at' v.2 ((at' g a.1).2.1)) ((at' g a.1).2.2)).1)) s) (p0:=at' (at' d.2.2.2 ((at' (at' v.2 ((at' g a.1).2.1)) ((at' g a.1).2.2)).1)) s) (p1:=(0:Int)) (p2:=(1:Int)) (List.take (Int.toNat (0:Int)) (at' (at' d.2.2.2 ((at' (at' v.2 ((at' g a.1).2.1)) ((at' g a.1).2.2)).1)) s)++List.drop (Int.toNat (1:Int)) (at' (at' d.2.2.2 ((at' (at' v.2 ((at' g a.1).2.1)) ((at' g a.1).2.2)).1)) s)) (by have t:=dq;have u:=c5;unfold EL ck;rw[if_pos (by omega),if_neg (by omega),if_pos (by omega),if_pos (by omega),if_pos (by omega)])) Z (a_.refl _) aH.nil (λ_ _=>rfl)) Z λa3=>?_;refine aB (uK Z) Z<|bD (tM (cK (i:=0) (j:=0) Z Z)) λb0=>bD (aX (zJ Z)) λa8=>?_;refine bD (aX (bO (zJ Z) b.1 (by first|exact b.2|simpa using b.2))) λbI=>?_;refine bZ (cG (gJ (Int.toNat ((at' (at' v.2 ((at' g a.1).2.1)) ((at' g a.1).2.2)).1)) (zJ Z) (gJ (Int.toNat s) (bO (zJ Z) b.1 (by first|exact b.2|simpa using b.2)) (b_ Z)))) ?_;refine bZ (Cs (k:=s) 2 0 Z Z Z ⟨n.1,(by have t:=n.2;have u:=a8;have q2:=bI;(try simp only[zA1]at t u q2);(try simp only[zA1]);omega)⟩) ?_;refine tP (lQ (us:=[a3]) (o:=0) (q:=1) 0 a3 ⟨n.1,(by have t:=n.2;have u:=a8;have q2:=bI;have q3:=c3;(try simp only[zA1]at t u q2 q3);(try simp only[zA1]);omega)⟩ Z Z Z Z (by rw[show(a3).cells = #[a3]from iF b0]) Z Z Z (fY b0 Z) Z) λdN=>?_;refine bZ (DV (k:=((at' (at' v.2 ((at' g a.1).2.1)) ((at' g a.1).2.2)).1)) (vs:=p.2.2.2.2.2.2.2.2.2.2.2.2.2.1) (wss:=d.2.2.1) (xsss:=d.2.2.2) (i':=11) (j':=0) 12 0 1 Z Z Z Z Z Z Z ⟨b.1,(by have t:=b.2;have u:=a8;(try simp only[zA1]at t u);(try simp only[zA1]);omega)⟩) ?_;refine aP<|aU<|aC Z<|aP<|aS ?_;exact jX ((0:Int),a.2.1,(List.set a.2.2.2 (Int.toNat ((at' (at' v.2 ((at' g a.1).2.1)) ((at' g a.1).2.2)).1)) (List.set (at' a.2.2.2 ((at' (at' v.2 ((at' g a.1).2.1)) ((at' g a.1).2.2)).1)) (Int.toNat s) (List.take (Int.toNat (0:Int)) (at' (at' a.2.2.2 ((at' (at' v.2 ((at' g a.1).2.1)) ((at' g a.1).2.2)).1)) s)++List.drop (Int.toNat (1:Int)) (at' (at' a.2.2.2 ((at' (at' v.2 ((at' g a.1).2.1)) ((at' g a.1).2.2)).1)) s)))),ai) (d.1,(List.set d.2.2.1 (Int.toNat ((at' (at' v.2 ((at' g a.1).2.1)) ((at' g a.1).2.2)).1)) (List.set (at' d.2.2.1 ((at' (at' v.2 ((at' g a.1).2.1)) ((at' g a.1).2.2)).1)) (Int.toNat s) a3)),(List.set d.2.2.2 (Int.toNat ((at' (at' v.2 ((at' g a.1).2.1)) ((at' g a.1).2.2)).1)) (List.set (at' d.2.2.2 ((at' (at' v.2 ((at' g a.1).2.1)) ((at' g a.1).2.2)).1)) (Int.toNat s) (List.take (Int.toNat (0:Int)) (at' (at' d.2.2.2 ((at' (at' v.2 ((at' g a.1).2.1)) ((at' g a.1).2.2)).1)) s)++List.drop (Int.toNat (1:Int)) (at' (at' d.2.2.2 ((at' (at' v.2 ((at' g a.1).2.1)) ((at' g a.1).2.2)).1)) s)))),ak) h (.inl Z) (Fa.r1 Z (RV.tmp Z)) Z (a_.refl _) (iB [4,5,3,0,7,8,9,10,11,12,13,14,15] Z)
   intro ag R h;refine aC Z<|aP<|aU<|aA Z<|lB Z<|aP ?_;refine eG h Z (λh=>?_) λh=>?_
   ·refine aU ?_;refine aB (Ox (r:=Value.agg #[cW,cW,cW]) (by intro w;simp[Instr.build,Instr.fill,gT,fN,e_,gU,gV,fO,iS])) Z ?_;refine aA Z<|cD 11 (vs:=[cW,cW,cW]) Z Z Z Z Z Z<|aC Z<|aP<|aS<|bF<|aG<|aG<|bF<|aG ?_;cases h;exact gY ((cW),([]),(cW),([]),(cW),([])) Z Z (RV.cell 11 Z Z Z Z) (RV.tmp Z) .nil (aH.cons mX (aH.cons mX (aH.cons mX aH.nil)))
   refine dW<|lA<|aR<|cN Z<|aA Z<|aP ?_;exact xD ((wI .i64 (a.1+(1:Int))),ag.2.1,ag.2.2.2,ag.2.2.1) (R.1,R.2.2.2,R.2.1,R.2.2.1) h SF Z
  refine eP ?_;exact f_ (a.2.1,a.2.2.1,a.2.2.2) (d.1,d.2.1,d.2.2.1,d.2.2.2) h SF Z
 intro aj G h;let cg:=tC bJ.raw p.2.2.2.2.2.2.2.2.2.2.2.2.2.1 G.2.2.1 G.2.2.2;unfold Df at h;refine aU<|aA Z<|aB (bU Z) Z<|bV Z<|aB (Lv 0 (us:=[O,aw,av]) Z Z Z Z Z Z) Z<|bD (tM (cK (i:=1) (j:=0) Z Z)) λdm=>bD (tM (fM (i:=7) (q:=8) (j:=2) Z Z Z)) λdn=>bD (tM (gO (i:=9) (q:=10) (j:=3) Z Z Z)) λdp=>cD 11 (vs:=[p.2.2.1,p.2.2.2.1,p.2.2.2.2.1]) Z Z (fY dm (fY dn (fY dp Z))) Z Z Z<|aC Z<|aP<|aS<|bZ (fZ 1 Z (cK (i:=0) (j:=0) Z Z))<|bZ (tD [E,fQ bJ.raw az G.2.1] [W,X,ab,ac,T,Y,aa,cg,bM b4 [O,aw,av] 43] (a_.ix [6,7,0,1,2,3,4,5,8,9,10] Z Z) (fM (i:=0) (q:=1) (j:=3) Z Z Z))<|bZ (tD [aa,cg] [W,X,ab,ac,T,Y,bM b4 [O,aw,av] 43] (a_.ix [6,7,0,1,2,3,4,5,8] Z Z) (gO (i:=0) (q:=1) (j:=5) Z Z Z)) ?_;cases h;exact gY (O,(List.zip G.1 aj.1),aw,(Z3 az G.2.1 aj.2.1),av,(Z4 p.2.2.2.2.2.2.2.2.2.2.2.2.2.1 G.2.2.1 G.2.2.2 aj.2.2)) Z Z (RV.cell 6 Z Z Z Z) (RV.tmp Z) .nil (iB [2,1,0] Z)
def wO (a:Int):Option (Int):=
 some (a)
def wP (a:Int):Option (Int):=
 wO (a)
def rB (b:fF) (a:fW->Option (Int)) (c:Int):Option (Int):=
 a (c,(wI .i64 (b.2+(1:Int))))
def BL (U:Nat) (p0:fE) (f:cJ) (e:DL) (a:fF) (b:fW->Option (Int)) (c:bQ):Option (Int):=
 Option.bind (fP U ((((p0.1,p0.2.1,p0.2.2)),((((p0.1,p0.2.1,p0.2.2)),((f.1,f.2)),e.2.1,e.2.2.2.1)),e.1)) c a.2) λd=>(if(0:Int)<=d then(ck (0<=a.2) (rB a b (Xe .u32 a.1 (MS .u32 (1:Int) a.2))))else(rB a b (a.1)))
def rC (U:Nat) (p0:fE) (d:cJ) (e:DL) (b:fF) (a:fW->Option (Int)) (c:bQ):Option (Int):=
 BL U p0 d e b a (c)
def rD (U:Nat) (p0:fE) (c:cJ) (f:DL) (b:fF) (d:fW->Option (Int)) (a:Int×bQ) (e:(Int×bQ)->Option (Int)):Option (Int):=
 if a.1<((at' c.2 b.2).length:Int)then(ck (0<=a.1/\a.1<((at' c.2 b.2).length:Int)) (ck (0<=b.2/\b.2<(f.2.2.2.2.1.length:Int)) (ck (0<=a.1/\a.1<((at' f.2.2.2.2.1 b.2).length:Int)) (ck (0<=((at' (at' c.2 b.2) a.1).1)/\((at' (at' c.2 b.2) a.1).1)<(a.2.length:Int)) (e ((wI .i64 (a.1+(1:Int))),(List.set a.2 (Int.toNat ((at' (at' c.2 b.2) a.1).1)) (at' (at' f.2.2.2.2.1 b.2) a.1))))))))else(rC U p0 c f b d (a.2))
def iU (U:Nat) (p0:fE) (c:cJ) (d:DL) (a:fF) (b:fW->Option (Int)):Option (Int):=
 if a.2<(c.2.length:Int)then(ck ((d.2.2.1.length:Int)<=1099511627) (ck (0<=a.2/\a.2<(c.2.length:Int)) (bL (rD U p0 c d a b) U ((0:Int),d.2.2.1))))else(wP (a.1))
def sT (U:Nat) (p0:fE) (b:cJ) (a:gX):Option (Int):=
 Option.bind (kG U ((p0.1,p0.2.1,p0.2.2)) ((b.1,b.2)) (8:Int) ((a.1,a.2.1,a.2.2))) λc=>(if(!c)=true then(some (0:Int))else(Option.bind (jC U ((p0.1,p0.2.1,p0.2.2)) ((b.1,b.2)) (8:Int) ((a.1,a.2.1,a.2.2))) λd=>(bL (iU U p0 b d) U ((0:Int),(0:Int)))))
theorem acV:bB Tryz.prog 20:=Tryz.call20
theorem KL (U:Nat) {C:fE} {v:cJ} {p2:gX} (v0 v1 W v3:V0) (z4:kX) (v5:V0) (z6:nG) (v7:V0) (z8:CV) (v9:V0) (al:CU) (r:Int) (h:sT U C v p2=some r):
  bE Tryz.prog 20 #[Value.agg #[vS (C.1),v0,v1],Value.agg #[W,v3],Value.agg #[v5,v7,v9]] [Sl aE v0 C.2.1,Sl aD v1 C.2.2,PF (Value.agg #[vS C.1,v0,v1]),Sl aM W v.1,S2 aY v3 z4 v.2,S2 aM v5 z6 p2.1,S3 aM v7 z8 p2.2.1,S4 aM v9 al p2.2.2] (λx:Unit=>vU (r)) (λx l=>l) (λ_ l=>l):=by
 let u:=Sl aD v1 C.2.2;let t:=Sl aE v0 C.2.1;let s:=S2 aM v5 z6 p2.1;let p:=S2 aY v3 z4 v.2;let n:=S3 aM v7 z8 p2.2.1;let m:=S4 aM v9 al p2.2.2;let V:=PF (Value.agg #[vS C.1,v0,v1]);refine bE.of Tryz.func20 Z Tryz.ntmps20 Z λc=>?_;refine aU<|aJ (aQ.box (cs:=[vS (C.1),v0,v1]) Z Z) Z λb1=>aJ (aQ.box (cs:=[W,v3]) Z Z) Z λb2=>aJ (aQ.box (cs:=[v5,v7,v9]) Z Z) Z λb3=>aC Z<|aP<|aN<|aU<|cM 2 Z<|cM 1 Z<|cM 0 Z<|eI h λr4 w5 h=>aJ (zBb OG (Co U v0 v1 W v3 z4 v5 z6 v7 z8 v9 al r4 w5) Z (iB [0,1,2,3,4,5,6,7] Z)) Z λx6=>aB (jG Z) Z<|aP ?_;refine rR h Z (λ_ h=>?_) λ_ h=>?_
 ·refine aU<|aC Z<|aP<|aS<|aG ?_;cases h;exact mO Z
 refine cL<|aU<|cM 2 Z<|cM 1 Z<|cM 0 Z<|eI h λN w9 h=>aJ (aQ.call SB (AW U v0 v1 W v3 z4 v5 z6 v7 z8 v9 al N w9) Z (gQ.cons (zA0 (i:=0) Z) (gQ.cons (zA0 (i:=1) Z) (gQ.cons (zA0 (i:=2) Z) (gQ.cons (zA0 (i:=3) Z) (gQ.cons (zA0 (i:=4) Z) (gQ.cons (zA0 (i:=5) Z) (gQ.cons (zA0 (i:=6) Z) (eV 7 Z)))))))) (λ_ _=>rfl) (λ_ _=>rfl)) Z λb=>let e:=b.2.2.2.2;let K:=mT aM e.2.1 N.2.2.1;let D:=Ar bJ.raw b.2.2.1 e.2.1;let ag:=bM b.2.1 [vS (C.1),v0,v1,vP e.2.2.1,e.2.2.2.1] 157;let ae:=bM b.1 [W,v3,vI (8:Int),vP b.2.1,b.2.2.1,b.2.2.2.1,e.1] 108;let k:=e.2.2.2.2;let L:=fQ bX k.1 N.1;let H:=mT aM k.2.2.1 N.2.2.2.1;let F:=Ar bJ.raw k.2.1 k.2.2.1;let E:=Ar bJ.raw e.2.2.2.1 k.1;let ai:=Ar bJ.raw b.2.2.2.1 k.2.2.2.1;let af:=bM e.2.2.1 [vS (C.1),v0,v1,W,v3,vI (N.2.1),k.2.1] 206;let M:=k.2.2.2.2;let J:=Ar bJ.raw e.1 M.2.1;let I:=wX aM M.1 N.2.2.2.2.1;let G:=fQ bJ.raw k.2.2.2.1 M.1;let aj:=Bz aM M.2.2.2 N.2.2.2.2.2;let ah:=tC bJ.raw M.2.1 M.2.2.1 M.2.2.2;Bu (A:=Int) (B:=Unit) (vs:=[vP b.1]) (λY=>wO Y=some r) (λY an=>vU (Y)) (λY an=>[]) (λY an=>[t,u,V,Sl aM W v.1,p,s,n,m]) (pJ.fn (show bB Tryz.prog 57 from Tryz.call57) Z) Tryz.func57 Z Tryz.ntmps57 Z Z ?_ ?_
 ·refine aU<|aC Z<|aP<|aU<|aC Z<|aP<|aN<|jW (B:=Unit) (λO=>wP O=some r) (λO ao=>[(3,vU (O))]) (λO ao=>[]) (λO ao=>[t,u,V,Sl aM W v.1,p,s,n,m]) ?_ ?_
  ·refine aU<|aA Z<|aB (bU Z) Z<|bV Z<|bV Z<|dK 0 Z<|aB (dM Z (QI Z) Z) Z<|aA Z<|aP<|aT<|nH (B:=Unit) (iU U C v N) (λa ap=>[(0,vP b.1),(3,vU (a.1)),(10,vI (v.2.length:Int)),(11,vI (a.2))]) (λa ap=>[ae,D,ag,E,L,af,F,ai,G,J,ah]) (λa ap=>[K,H,I,aj,t,u,V,Sl aM W v.1,p,s,n,m]) ((0:Int),(0:Int)) () h SF (a_.ix [0,1,2,3,4,5,6,7,8,9,10] Z Z) (aH.refl _ _) ?_;intro aW a ap h;let X:=(bL (iU U C v N) aW)
   refine aU<|cU Z<|aP<|aN ?_;refine eG h Z (λh=>?_) λh=>?_
   ·refine cL<|aN<|jW (B:=Unit) (λP=>rB a X P=some r) (λP aq=>[(0,vP b.1),(3,vU (P)),(10,vI (v.2.length:Int)),(11,vI (a.2))]) (λP aq=>[ae,D,ag,E,L,af,F,ai,G,J,ah]) (λP aq=>[K,H,I,aj,t,u,V,Sl aM W v.1,p,s,n,m]) ?_ ?_
    ·refine aT<|aU<|aA Z<|aC Z<|aP<|aN ?_;refine rP [0,1,3,7,0,0,48,0,255,511] 8 mixedOrders ?_;refine aV Z<|eN Z (bU Z)<|cC Z<|eQ 0 Z<|aV Z<|aV Z<|Fe (A:=bQ) (B:=DN) (vs:=[vP b.1,vI (a.2)]) (λQ=>BL U C v N a X Q=some r) (λQ w=>w.1) (λQ w=>[Ar bJ.raw w.1 w.2,ae,D,ag,E,L,af,F,ai,G,J,ah]) (λQ w=>[mT aM w.2 Q,K,H,I,aj,t,u,V,Sl aM W v.1,p,s,n,m]) Z Z Z (pJ.fn (show bB Tryz.prog 103 from Tryz.call103) Z) Tryz.func103 Z Tryz.ntmps103 Z Z (λ_ _=>(nK [([1],[])] Z)) ?_ ?_
     ·refine aU<|aC Z<|aP<|aU<|aA Z<|aB (bU Z) Z<|bV Z<|bV Z<|dK 0 Z<|cQ h λa4 h=>bD (aX (b_ Z)) λa2=>bZ (cG (b_ Z)) ?_;refine aJ (zBb OF (CP U (p0:=e.2.1) b.2.2.1 e.2.1 (by simp[sV,ck];omega)) Z (aH.cons (pK (i:=1) Z) aH.nil)) Z λak=>?_;refine aC Z<|aP<|aN<|jW (B:=fL) (λR=>rC U C v N a X R=some r) (λR aa=>[(5,ak)]) (λR aa=>[Ar bJ.raw ak aa,ae,D,ag,E,L,af,F,ai,G,J,ah]) (λR aa=>[mT aM aa R,K,H,I,aj,t,u,V,Sl aM W v.1,p,s,n,m]) ?_ ?_
      ·refine aU<|aA Z<|aB (bU Z) Z<|bV Z<|bV Z<|dK 1 Z<|aA Z<|cQ h λy h=>aB (bK Z Z (Ir Z) Z Z y) Z<|aB (bS Z (Ir Z) Z Z y) Z<|aB (fH Z (zBc (Ir Z) y.1 y.2) Z) Z<|aA Z<|aP<|aT<|nH (B:=fL) (rD U C v N a X) (λd S=>[(0,vP b.1),(1,vI (a.2)),(5,ak),(21,(at' z4 a.2).1),(22,vI ((at' v.2 a.2).length:Int)),(23,vI (d.1))]) (λd S=>[Ar bJ.raw ak S,ae,D,ag,E,L,af,F,ai,G,J,ah]) (λd S=>[mT aM S d.2,K,H,I,aj,t,u,V,Sl aM W v.1,p,s,n,m]) ((0:Int),N.2.2.1) (tg 1 e.2.1) h SF (a_.refl _) (aH.refl _ _) ?_;intro a5 d S h;let ac:=at' (at' M.1 a.2) d.1;let ab:=(at' (at' v.2 a.2) d.1)
       let ad:=(Int.toNat (ab.1))
       refine aU<|cU Z<|aP<|aN ?_;refine eG h Z (λh=>?_) λh=>?_
       ·refine cL<|aN<|aT<|aU<|aA Z<|cQ h λaK h=>aB (bG Z Z (zBc (Ir Z) y.1 y.2) Z Z aK) Z<|aB (gS (cs:=[vI (ab.1),vI (ab.2)]) Z (zBc (Ir Z) y.1 y.2) cR Z Z Z Z aK) Z<|aJ (aQ.alloc (cs:=TF) Z Z) Z λa3=>aC Z<|cD 0 (vs:=[vI ((at' (at' v.2 a.2) d.1).1),vI ((at' (at' v.2 a.2) d.1).2)]) Z Z Z Z Z Z<|aP ?_;refine rP [0,0,2,0,8,24,56,120,0,504,1016,0,4088,8184,16383,32767] 14 mixedOrders ?_;refine aV Z<|cC Z<|eQ 0 Z<|aV Z<|eN Z (bU Z)<|cC Z<|cC Z<|eQ 2 Z<|aV Z<|cQ h λg h=>aZ (cE (fM (i:=9) (q:=10) (j:=3) Z Z Z)) λau=>eN Z (cO Z Z au Z Z g)<|aZ (dQ 10 Z) λav=>aZ (aX (Bh Z)) λaw=>bA Z (a_.cons 9 Z .nil) .nil (gE 0 Z Z (av.trans aw) Z Z g) aL.z<|aV Z<|cQ h λT h=>aZ (cE (Dj (q:=10) (j:=3) Z Z g.1 g.2)) λax=>?_;refine eN Z (cO Z Z ax Z Z T)<|aZ (aX (Bh Z)) λay=>?_;refine aZ (aX (bO (Bh Z) g.1 g.2)) λaz=>?_;refine bA Z (a_.cons 10 Z .nil) .nil (cI (f:=λx=>x) Z (DU (q:=0) Z g.1 (by have q0:=g.2;have q1:=ay;(try simp only[zA1]at q0 q1⊢);omega)) Z Z Z hZ ⟨T.1,(by have q0:=T.2;have q1:=az;(try simp only[zA1]at q0 q1⊢);omega)⟩) aL.z ?_;refine bN 14 Z Z<|cQ h λar h=>aB (bK Z Z (cK (i:=1) (j:=0) Z Z) Z Z ar) Z ?_;refine bD (Know.one ((bO (bO (Bh Z) g.1 g.2) T.1 T.2))) λam=>?_;refine bD (aX (b_ Z)) λaF=>?_;refine bZ (cG (gJ ad (b_ Z) (bO (bO (Bh Z) g.1 g.2) T.1 T.2))) ?_;refine tP (lQ (us:=[ac]) (o:=0) (q:=1) 1 (ac) ⟨ar.1,(by have q0:=ar.2;have q1:=aF;(try simp only[zA1]at q0 q1⊢);omega)⟩ Z Z Z Z (by rw[show(at' (at' b.2.2.2.2.2.2.2.2.2.2.2.2.1 a.2) d.1).cells = #[at' (at' b.2.2.2.2.2.2.2.2.2.2.2.2.1 a.2) d.1]from iF am]) Z Z Z (fY am Z) Z) λa7=>?_;refine eS<|lA<|aR<|cN Z<|aA Z<|aP ?_;exact iP ((wI .i64 (d.1+(1:Int))),(List.set d.2 ad (at' (at' N.2.2.2.2.1 a.2) d.1))) (List.set S ad (ac)) h SF (a_.ix [1,2,3,4,5,6,7,8,9,10,11,12] Z Z) (iB [0,2,3,4,5,6,7,8,9,10,11,12,13] Z)
       refine eP ?_;exact f_ (d.2) (S) h SF Z
      intro R aa h;unfold rC at h;refine aU<|aA Z<|aC Z<|aP<|aS ?_;exact jX (R) (ak,aa) h (.inl Z) (Fa.r1 Z (RV.tmp Z)) Z (a_.refl _) (aH.refl _ _)
     intro Q w h;refine eN Z (dG Z)<|bN 8 Z Z<|eI h λa0 a1 h=>aJ (zBb OC (vQ U b.2.1 v0 v1 e.2.2.1 v0 v1 W v3 z4 k.2.1 ((List.zip k.2.2.1 N.2.2.2.1)) e.2.2.2.1 (List.zip k.1 N.1) w.1 ((List.zip w.2 Q)) a0 a1) Z (aH.cons (aI.res 3 Z) (aH.cons (zJ Z) (aH.cons (Fy Z) (aH.cons (aI.res 6 Z) (aH.cons (zJ Z) (aH.cons (Fy Z) (aH.cons (QI Z) (aH.cons (Ir Z) (aH.cons (cK (i:=7) (j:=2) Z Z) (aH.cons (fG (i:=4) (j:=5) Z Z cR) (aH.cons (cK (i:=0) (j:=0) Z Z) .nil)))))))))))) Z λa6=>aB (uI Z Z) Z<|aP ?_;refine eG h Z (λh=>?_) λh=>?_
     ·refine aR<|aA Z<|aA Z<|cQ h λaO h=>aB (WX Z Z aO) Z<|aB (acH Z Z) Z<|aC Z<|eS<|lA ?_;exact cB (Xe .u32 a.1 (MS .u32 (1:Int) a.2)) () h SF (a_.ix [1,2,3,4,5,6,7,8,9,10,11] Z Z) (iB [1,2,3,4,5,6,7,8,9,10,11,12] Z)
     refine dW<|lA ?_;exact cB (a.1) () h SF (a_.ix [1,2,3,4,5,6,7,8,9,10,11] Z Z) (iB [1,2,3,4,5,6,7,8,9,10,11,12] Z)
    intro P aq h;unfold rB at h;refine aR<|cN Z<|aA Z<|aP ?_;exact xD (P,(wI .i64 (a.2+(1:Int)))) () h SF Z
   refine eP ?_;exact cB (a.1) () h SF .nil (iB [4,5,6,7,8,9,10,11] Z)
  intro O ao h;unfold wP at h;refine aU<|aA Z<|aC Z<|aP<|aS ?_;exact jX (O) () h (.inl Z) (Fa.r1 Z (RV.tmp Z)) Z (a_.refl _) (aH.refl _ _)
 intro Y an h;unfold wO at h;refine aC Z<|aP<|aS ?_;cases h;exact iR Z
def yL (a:Unit):Option Bool:=
 some (true)
def yM (c d:bT) (a:Int) (b:(Int)->Option Bool):Option Bool:=
 if a<(c.length:Int)then(ck (0<=a/\a<(c.length:Int)) (ck (0<=a/\a<(d.length:Int)) (if(at' c a)≠(at' d a)then(some (false))else(b (wI .i64 (a+(1:Int)))))))else(yL (()))
def uY (U:Nat) (a b:bT):Option Bool:=
 if(a.length:Int)≠(b.length:Int)then(some (false))else(bL (yM a b) U (0:Int))
theorem Xo:bB Tryz.prog 61:=Tryz.call61
theorem GM (U:Nat) {p0 f:bT} (g i:V0) (r:Bool) (h:uY U p0 f=some r):
  bE Tryz.prog 61 #[g,i] [Sl aM g p0,Sl aM i f] (λx:Unit=>vB (r)) (λx l=>l) (λ_ l=>l):=by
 refine bE.of Tryz.func61 Z Tryz.ntmps61 Z λc=>?_;refine aU<|aC Z<|aP<|aN<|aU<|aA Z<|iL (b_ Z) Z<|aA Z<|iL (mR Z) Z<|lB Z<|aP ?_;refine eG h Z (λh=>?_) λh=>?_
 ·refine aU<|aC Z<|aP<|aS<|aG ?_;cases h;exact iR Z
 refine cL<|aN<|eB (λd=>yL d=some r) (λd j=>[]) (λd j=>[]) ?_ ?_
 ·refine aU<|aA Z<|iL (b_ Z) Z<|aA Z<|aP<|aT<|eW (yM p0 f) (λe k=>[(0,g),(1,i),(12,vI (p0.length:Int)),(13,vI (e))]) (λe k=>[]) (0:Int) () h SF (a_.refl _) ?_;intro m e k h;refine aU<|cU Z<|aP<|aN ?_;refine eG h Z (λh=>?_) λh=>?_
  ·refine cL<|aN<|aT<|aU<|aA Z<|aC Z<|aP<|aN ?_;refine rP [0,0,3,7,0,0,48,112,255] 8 mixedOrders ?_;refine aV Z<|aV Z<|cQ h λa h=>bA Z .nil (eV 0 Z) (bG Z Z (b_ Z) Z Z a) aL.z<|bA Z .nil (eV 0 Z) (cI Z (b_ Z) Z Z Z eZ a) aL.z<|aV Z<|aV Z<|cQ h λb h=>bA Z .nil (eV 1 Z) (bG Z Z (b_ Z) Z Z b) aL.z<|bA Z .nil (eV 1 Z) (cI Z (b_ Z) Z Z Z eZ b) aL.z<|bN 8 Z Z<|lB Z<|aP ?_;refine eG h Z (λh=>?_) λh=>?_
   ·refine aU<|aC Z<|aP<|aS<|bF<|aG<|aG<|bF<|aG ?_;cases h;exact iR Z
   refine dW<|lA<|aR<|cN Z<|aA Z<|aP ?_;exact xD (wI .i64 (e+(1:Int))) () h SF Z
  refine eP ?_;exact f_ () (()) h SF Z
 intro d j h;unfold yL at h;refine aU<|aC Z<|aP<|aS ?_;cases h;exact iR Z
def Aj (U:Nat) (c:bT) (b:gX) (a:Int):Option Bool:=
 ck (0<=a/\a<(b.1.length:Int)) (Option.bind (uY U c (at' b.1 a)) λd=>(some ((!d))))
theorem adf:bB Tryz.prog 60:=Tryz.call60
theorem Jj (U:Nat) {p0:bT} {e:gX} {f:Int} (g:V0) (a:Nat) (i:V0) (m:nG) (j:V0) (p:CV) (k:V0) (q:CU) (b:Nat) (r:Bool) (h:Aj U p0 e f=some r):
  bE Tryz.prog 60 #[g,vP a,vP b] [Sl aM g p0,bM a [i,j,k] 43,S2 aM i m e.1,S3 aM j p e.2.1,S4 aM k q e.2.2,bM b [vI (f)] 3] (λx:Unit=>vB (r)) (λx l=>l) (λ_ l=>l):=by
 refine bE.of Tryz.func60 Z Tryz.ntmps60 Z λc=>?_;refine aU<|aC Z<|aP<|aU<|aA Z<|bV Z<|aB (fU Z (mR Z) Z Z Z) Z<|aB (fU Z (zJ Z) Z Z Z) Z<|cQ h λd h=>aB (bK Z Z (zI Z) Z Z d) Z<|aB (bS Z (zI Z) Z Z d) Z<|eI h λn o h=>aJ (zBb Xo (GM U g ((at' m f).1) n o) Z (aH.cons (b_ Z) (aH.cons (zBc (zI Z) d.1 d.2) .nil))) Z λs=>aB (jG Z) Z<|aC Z<|aP<|aS ?_;cases h;exact iR Z
def wR (a:Int):Option Bool:=
 some (decide (a=(0:Int)))
def wS (a:Int):Option Bool:=
 wR (a)
def rE (b:fF) (a:fW->Option Bool) (c:Int):Option Bool:=
 a (c,(wI .i64 (b.2+(1:Int))))
def BM (U:Nat) (p0:fE) (f:cJ) (c:DL) (a:fF) (b:fW->Option Bool) (d:bQ):Option Bool:=
 Option.bind (fP U ((((p0.1,p0.2.1,p0.2.2)),((((p0.1,p0.2.1,p0.2.2)),((f.1,f.2)),c.2.1,c.2.2.2.1)),c.1)) d a.2) λe=>(if(0:Int)<=e then(ck (0<=a.2) (rE a b (Xe .u32 a.1 (MS .u32 (1:Int) a.2))))else(rE a b (a.1)))
def rH (U:Nat) (p0:fE) (e:cJ) (d:DL) (b:fF) (a:fW->Option Bool) (c:bQ):Option Bool:=
 BM U p0 e d b a (c)
def rK (U:Nat) (p0:fE) (d:cJ) (c:DL) (b:fF) (e:fW->Option Bool) (a:Int×bQ) (f:(Int×bQ)->Option Bool):Option Bool:=
 if a.1<((at' d.2 b.2).length:Int)then(ck (0<=a.1/\a.1<((at' d.2 b.2).length:Int)) (ck (0<=b.2/\b.2<(c.2.2.2.2.1.length:Int)) (ck (0<=a.1/\a.1<((at' c.2.2.2.2.1 b.2).length:Int)) (ck (0<=((at' (at' d.2 b.2) a.1).1)/\((at' (at' d.2 b.2) a.1).1)<(a.2.length:Int)) (f ((wI .i64 (a.1+(1:Int))),(List.set a.2 (Int.toNat ((at' (at' d.2 b.2) a.1).1)) (at' (at' c.2.2.2.2.1 b.2) a.1))))))))else(rH U p0 d c b e (a.2))
def iV (U:Nat) (p0:fE) (d:cJ) (b:DL) (a:fF) (c:fW->Option Bool):Option Bool:=
 if a.2<(d.2.length:Int)then(ck ((b.2.2.1.length:Int)<=1099511627) (ck (0<=a.2/\a.2<(d.2.length:Int)) (bL (rK U p0 d b a c) U ((0:Int),b.2.2.1))))else(wS (a.1))
def wQ (U:Nat) (p0:fE) (a:cJ) (b:gX) (d:Unit):Option Bool:=
 Option.bind (jC U ((p0.1,p0.2.1,p0.2.2)) ((a.1,a.2)) (8:Int) ((b.1,b.2.1,b.2.2))) λc=>(bL (iV U p0 a c) U ((0:Int),(0:Int)))
def wT (b:Int) (a:(Int)->Option Bool) (c:Unit):Option Bool:=
 a (wI .i64 (b+(1:Int)))
def rI (b:Int) (a:(Int)->Option Bool) (c:Bool):Option Bool:=
 if c=true then(some (false))else(a (wI .i64 (b+(1:Int))))
def rJ (c:Int) (b:(Int)->Option Bool) (a:Bool):Option Bool:=
 rI c b (a)
def mW (c:Int) (b:(Int)->Option Bool) (a:Int):Option Bool:=
 rJ c b (decide ((0:Int)<=a))
def pT (b:Int) (a:(Int)->Option Bool) (c:Unit):Option Bool:=
 mW b a (-1:Int)
def wU (U:Nat) (f:gX) (c b:Int) (d:(Int)->Option Bool) (a:Int) (e:(Int)->Option Bool):Option Bool:=
 if a<((at' (at' f.2.2 c) b).length:Int)then(ck (0<=a/\a<((at' (at' f.2.2 c) b).length:Int)) (Option.bind (Aj U (at' (at' (at' f.2.2 c) b) a) ((f.1,f.2.1,f.2.2)) c) λg=>(if g=true then(mW b d (a))else(e (wI .i64 (a+(1:Int)))))))else(pT b d (()))
def jT (U:Nat) (f:cJ) (d:gX) (a:Int) (e:(Int)->Option Bool) (b:Int) (c:(Int)->Option Bool):Option Bool:=
 if b<((at' f.2 a).length:Int)then(ck (0<=b/\b<((at' f.2 a).length:Int)) (ck (0<=a/\a<(d.2.1.length:Int)) (ck (0<=b/\b<((at' d.2.1 a).length:Int)) (ck (0<=((at' (at' f.2 a) b).1)/\((at' (at' f.2 a) b).1)<(d.1.length:Int)) (Option.bind (uY U (at' (at' d.2.1 a) b) (at' d.1 ((at' (at' f.2 a) b).1))) λg=>(if(!g)=true then(rI b c (true))else(ck (0<=a/\a<(d.2.2.length:Int)) (ck (0<=b/\b<((at' d.2.2 a).length:Int)) (bL (wU U d a b c) U (0:Int))))))))))else(wT a e (()))
def gG (U:Nat) (p0:fE) (c:cJ) (d:gX) (a:Int) (b:(Int)->Option Bool):Option Bool:=
 if a<(c.2.length:Int)then(ck (0<=a/\a<(c.2.length:Int)) (bL (jT U c d a b) U (0:Int)))else(wQ U p0 c d (()))
def sU (U:Nat) (p0:fE) (b:cJ) (a:gX):Option Bool:=
 Option.bind (kG U ((p0.1,p0.2.1,p0.2.2)) ((b.1,b.2)) (8:Int) ((a.1,a.2.1,a.2.2))) λc=>(if(!c)=true then(some (false))else(bL (gG U p0 b a) U (0:Int)))
theorem acW:bB Tryz.prog 22:=Tryz.call22
theorem KM (U:Nat) {K:fE} {p:cJ} {p2:gX} (v0 v1 S v3:V0) (z4:kX) (v5:V0) (z6:nG) (v7:V0) (z8:CV) (v9:V0) (L:CU) (r:Bool) (h:sU U K p p2=some r):
  bE Tryz.prog 22 #[Value.agg #[vS (K.1),v0,v1],Value.agg #[S,v3],Value.agg #[v5,v7,v9]] [Sl aE v0 K.2.1,Sl aD v1 K.2.2,PF (Value.agg #[vS K.1,v0,v1]),Sl aM S p.1,S2 aY v3 z4 p.2,S2 aM v5 z6 p2.1,S3 aM v7 z8 p2.2.1,S4 aM v9 L p2.2.2] (λx:Unit=>vB (r)) (λx l=>l) (λ_ l=>l):=by
 let E:=Sl aD v1 K.2.2;let D:=Sl aE v0 K.2.1;let y:=S2 aM v5 z6 p2.1;let w:=S2 aY v3 z4 p.2;let M:=vI (p.2.length:Int);let u:=S3 aM v7 z8 p2.2.1;let t:=S4 aM v9 L p2.2.2;let Q:=PF (Value.agg #[vS K.1,v0,v1]);refine bE.of Tryz.func22 Z Tryz.ntmps22 Z λc=>?_;refine aU<|aJ (aQ.box (cs:=[vS (K.1),v0,v1]) Z Z) Z λb1=>let R:=bM b1 [vS (K.1),v0,v1] 36;aJ (aQ.box (cs:=[S,v3]) Z Z) Z λb2=>let v:=bM b2 [S,v3] 31;aJ (aQ.box (cs:=[v5,v7,v9]) Z Z) Z λb3=>let s:=bM b3 [v5,v7,v9] 43;aC Z<|aP<|aN<|aU<|cM 2 Z<|cM 1 Z<|cM 0 Z<|eI h λr4 w5 h=>aJ (zBb OG (Co U v0 v1 S v3 z4 v5 z6 v7 z8 v9 L r4 w5) Z (iB [0,1,2,3,4,5,6,7] Z)) Z λx6=>aB (jG Z) Z<|aP ?_
 refine rR h Z (λ_ h=>?_) λ_ h=>?_
 ·refine aU<|aC Z<|aP<|aS<|aG ?_;cases h;exact mO Z
 refine cL<|aN<|eB (λa8=>wQ U K p p2 a8=some r) (λa8 b9=>[(3,vP b1),(4,vP b2),(5,vP b3)]) (λa8 b9=>[s,v,R]) ?_ ?_
 ·refine aU<|bV Z<|dK 1 Z<|aB (dM Z (CL Z) Z) Z<|aA Z<|aP<|aT<|eW (gG U K p p2) (λb bp=>[(3,vP b1),(4,vP b2),(5,vP b3),(18,v3),(19,M),(20,vI (b))]) (λb bp=>[s,v,R]) (0:Int) () h SF (a_.refl _) ?_;intro b0 b bp h;let ak:=(at' p.2 b)
  let ay:=(jT U p p2 b (bL (gG U K p p2) b0))
  refine aU<|cU Z<|aP<|aN ?_;refine eG h Z (λh=>?_) λh=>?_
  ·refine cL<|aN<|eB (λbc=>wT b (bL (gG U K p p2) b0) bc=some r) (λbc bq=>[(3,vP b1),(4,vP b2),(5,vP b3),(18,v3),(19,M),(20,vI (b))]) (λbc bq=>[s,v,R]) ?_ ?_
   ·refine aT<|aU<|aA Z<|cQ h λV h=>aB (bK Z Z (CL Z) Z Z V) Z<|aB (bS Z (CL Z) Z Z V) Z<|aJ (aQ.alloc (cs:=[vI (0:Int)]) Z Z) Z λP=>let a3:=Value.func (.func 60) #[] #[vP b3,vP P];let N:=bM P [vI (b)] 3;qN 0 Z Z Z Z Z Z<|aC Z<|aP<|aU<|aB (HV (cs:=[.tmp 5,.tmp 7]) (vs:=[vP b3,vP P]) Z) Z<|aC Z<|aP<|aU<|aA Z<|aB (fH Z (zBc (CL Z) V.1 V.2) Z) Z<|aA Z<|aP<|aT<|eW ay (λd br=>[(3,vP b1),(4,vP b2),(5,vP b3),(7,vP P),(9,a3),(18,v3),(19,M),(20,vI (b)),(26,(at' z4 b).1),(27,vI (ak.length:Int)),(28,vI (d))]) (λd br=>[N,s,v,R]) (0:Int) () h SF (a_.refl _) ?_
    intro a1 d br h;refine aU<|cU Z<|aP<|aN ?_;refine eG h Z (λh=>?_) λh=>?_
    ·refine cL<|aN<|aT<|aU<|aA Z<|cQ h λbY h=>aB (bG Z Z (zBc (CL Z) V.1 V.2) Z Z bY) Z<|aB (gS (cs:=[vI ((at' ak d).1),vI ((at' ak d).2)]) Z (zBc (CL Z) V.1 V.2) cR Z Z Z Z bY) Z<|aJ (aQ.alloc (cs:=TF) Z Z) Z λcj=>aC Z<|cD 0 (vs:=[vI ((at' (at' p.2 b) d).1),vI ((at' (at' p.2 b) d).2)]) Z Z Z Z Z Z<|aP<|aN<|eB (λaz=>rI d (bL ay a1) az=some r) (λaz bs=>[(3,vP b1),(4,vP b2),(5,vP b3),(7,vP P),(9,a3),(18,v3),(19,M),(20,vI (b)),(26,(at' z4 b).1),(27,vI (ak.length:Int)),(28,vI (d)),(60,vB (az))]) (λaz bs=>[N,s,v,R]) ?_ ?_
     ·refine rP [0,1,0,7,15,0,63,127,0,256,0,1024,3840,7936,16383,32767,65535,131071,262143,131071,1048575,2097151,131071,8388607,16777215,131071,67108863,134217727] 26 mixedOrders ?_;refine cC Z<|eQ 2 Z<|eQ 1 Z<|cQ h λW h=>aZ (cE (Fy Z)) λbI=>eN Z (cO Z Z bI Z Z W)<|bA Z .nil (eV 6 Z) (c_ Z (b_ Z) Z Z W) aL.z<|aV Z<|cQ h λbd h=>aZ (cE (bR (Fy Z) W.1 W.2)) λbP=>?_;refine eN Z (cO Z Z bP Z Z bd) ?_;refine bA Z .nil (eV 6 Z) (bS Z (bR (b_ Z) W.1 W.2) Z Z bd) aL.z ?_;refine cC Z<|eQ 2 Z<|cC Z<|eQ 0 Z<|cQ h λbe h=>bA Z .nil (eV 5 Z) (bK Z Z (b_ Z) Z Z be) aL.z<|bA Z .nil (eV 5 Z) (bS Z (b_ Z) Z Z be) aL.z<|eI h λca cd h=>zBd Z Z Z (zBb Xo (GM U ((at' ((at' z8 b).2) d).1) ((at' z6 ((at' ak d).1)).1) ca cd) Z (aH.cons (zBc (bR (Fy Z) W.1 W.2) bd.1 bd.2) (aH.cons (zBc (zJ Z) be.1 be.2) .nil))) Z (λce=>(nK [] Z)) λce=>?_;refine eN Z (jG Z)<|eN Z (dG Z) ?_;refine JR.guard (by exact rfl) (by exact rfl) (by exact rfl) (λa0=>?_) (λa0=>?_)
      ·have h:=Hh a0 h;refine aK Z Z Z Z<|aK Z Z Z Z<|aK Z Z Z Z<|aK Z Z Z Z<|aK Z Z Z Z<|aK Z Z Z Z<|aK Z Z Z Z<|aK Z Z Z Z<|aK Z Z Z Z<|bN 26 Z Z<|aO Z<|d_ Z<|aP ?_;exact cB (true) () h SF (a_.ix [1,2,3,4] Z Z) (aH.refl _ _)
      have h:=En a0 h;refine bW Z .nil .nil (cT Z Z Z Z Z) (uR Z)<|bW Z (a_.cons 2 Z .nil) .nil (dL 0 Z Z Z Z Z) (uR Z)<|bW Z (a_.cons 1 Z .nil) .nil (dL 0 Z Z Z Z Z) (uR Z)<|cQ h λe h=>aZ (cE (z_ Z)) λbm=>bW Z .nil .nil (cO Z Z bm Z Z e) (uR Z)<|bW Z .nil (eV 7 Z) (c_ Z (b_ Z) Z Z e) (uR Z)<|bW Z .nil .nil (dG Z) (uR Z)<|cQ h λm h=>aZ (cE (bR (z_ Z) e.1 e.2)) λbn=>?_;refine bW Z .nil .nil (cO Z Z bn Z Z m) (uR Z) ?_;refine bW Z .nil (eV 7 Z) (c_ Z (bR (b_ Z) e.1 e.2) Z Z m) (uR Z) ?_;refine bW Z .nil .nil (dG Z) (uR Z)<|bN 26 Z Z<|ZG (A:=Bool) (B:=Unit) (vs:=[(at' ((at' L b).2) d).1,Value.func (.func 60) #[] #[vP b3,vP P]]) (λH=>rJ d (bL ay a1) H=some r) (λH aF=>vB (H)) (λH aF=>[N,s,v,R]) (λH aF=>[D,E,Q,Sl aM S p.1,w,y,u,t]) Z (pJ.fn (show bB Tryz.prog 51 from Tryz.call51) Z) Tryz.func51 Z Tryz.ntmps51 Z Z ?_ ?_
      ·refine aU<|aC Z<|aP<|aU<|aA Z<|aA Z<|Bu (A:=Int) (B:=Unit) (vs:=[(at' ((at' L b).2) d).1,Value.func (.func 60) #[] #[vP b3,vP P]]) (λI=>mW d (bL ay a1) I=some r) (λI aW=>vI (I)) (λI aW=>[N,s,v,R]) (λI aW=>[D,E,Q,Sl aM S p.1,w,y,u,t]) (pJ.fn (show bB Tryz.prog 98 from Tryz.call98) Z) Tryz.func98 Z Tryz.ntmps98 Z Z ?_ ?_
       ·refine aU<|aC Z<|aP<|aN<|eB (λar=>pT d (bL ay a1) ar=some r) (λar bf=>[]) (λar bf=>[N,s,v,R]) ?_ ?_
        ·refine aU<|aA Z ?_;refine aB (dM Z (bR (bR (z_ Z) e.1 e.2) m.1 m.2) Z) Z ?_;refine aA Z<|aP<|aT<|eW (wU U p2 b d (bL ay a1)) (λJ bg=>[(0,(at' ((at' L b).2) d).1),(1,a3),(7,vI ((at' (at' p2.2.2 b) d).length:Int)),(8,vI (J))]) (λJ bg=>[N,s,v,R]) (0:Int) () h SF (a_.ix [1,2,3,4] Z Z) ?_;intro cg J bg h;refine aU<|cU Z<|aP<|aN ?_;refine eG h Z (λh=>?_) λh=>?_
         ·refine cL<|aN<|aT<|aU<|aA Z<|aC Z<|aP<|aU<|aA Z<|aA Z<|aA Z<|cQ h λau h=>aB (bK Z Z (bR (bR (z_ Z) e.1 e.2) m.1 m.2) Z Z au) Z ?_;refine aB (bS Z (bR (bR (z_ Z) e.1 e.2) m.1 m.2) Z Z au) Z<|eI h λb4 b5 h=>aJ (uF (vs:=[(at' ((at' ((at' L b).2) d).2) J).1]) (cs:=[Value.pointer (some ⟨b3,0,none⟩),Value.pointer (some ⟨P,0,none⟩)]) adf Z (Jj U ((at' ((at' ((at' L b).2) d).2) J).1) b3 v5 z6 v7 z8 v9 L P b4 b5) Z (aH.cons (zBc (bR (bR (z_ Z) e.1 e.2) m.1 m.2) au.1 au.2) (aH.cons (aI.res 1 Z) (aH.cons (zJ Z) (aH.cons (Fy Z) (aH.cons (z_ Z) (aH.cons (aI.res 0 Z) .nil)))))) (λ_ _=>rfl)) Z λch=>?_;refine aP ?_;refine rR h Z (λ_ h=>?_) λ_ h=>?_
          ·refine aU<|aA Z<|aC Z<|aP<|aS<|bF<|aG<|aG<|bF<|aG ?_;exact jX (J) () h (.inl Z) (Fa.r1 Z (RV.tmp Z)) Z (a_.refl _) (aH.refl _ _)
          refine dW<|lA<|aR<|cN Z<|aA Z<|aP ?_;exact xD (wI .i64 (J+(1:Int))) () h SF Z
         refine eP ?_;exact f_ () (()) h SF Z
        intro ar bf h;unfold pT at h;refine aU<|aC Z<|aP<|aS ?_;exact jX (-1:Int) () h (.inl Z) (Fa.r1 Z (RV.tmp Z)) Z (a_.refl _) (aH.refl _ _)
       intro I aW h;unfold mW at h;refine aB (uI Z Z) Z<|aC Z<|aP<|aS ?_;exact jX (decide ((0:Int)<=I)) () h (.inl Z) (Fa.r1 Z (RV.tmp Z)) Z (a_.refl _) (aH.refl _ _)
      intro H aF h;unfold rJ at h;refine eR Z<|aP ?_;exact f_ (H) () h SF Z
     intro az bs h;refine rR h Z (λ_ h=>?_) λ_ h=>?_
     ·refine aU<|aC Z<|aP<|aS<|bF<|aG<|aG<|bF<|bF<|aG<|aG<|bF<|aG ?_;cases h;exact mO Z
     refine dW<|lA<|aR<|cN Z<|aA Z<|aP ?_;exact xD (wI .i64 (d+(1:Int))) () h SF Z
    refine uE<|g_<|g_<|Cr<|lA ?_;exact cB () (()) h SF (a_.ix [1,2,3] Z Z) (aH.refl _ _)
   intro bc bq h;unfold wT at h;refine aR<|cN Z<|aA Z<|aP ?_;exact xD (wI .i64 (b+(1:Int))) () h SF Z
  refine eP ?_;exact f_ () (()) h SF Z
 intro a8 b9 h;refine aU<|cM 2 Z<|cM 1 Z<|cM 0 Z<|eI h λk cb h=>aJ (aQ.call SB (AW U v0 v1 S v3 z4 v5 z6 v7 z8 v9 L k cb) Z (gQ.cons (zA0 (i:=0) Z) (gQ.cons (zA0 (i:=1) Z) (gQ.cons (zA0 (i:=2) Z) (gQ.cons (zA0 (i:=3) Z) (gQ.cons (zA0 (i:=4) Z) (gQ.cons (zA0 (i:=5) Z) (gQ.cons (zA0 (i:=6) Z) (eV 7 Z)))))))) (λ_ _=>rfl) (λ_ _=>rfl)) Z λg=>let C:=g.2.2.2.2;let ah:=mT aM C.2.1 k.2.2.1;let aa:=Ar bJ.raw g.2.2.1 C.2.1;let a9:=bM g.2.1 [vS (K.1),v0,v1,vP C.2.2.1,C.2.2.2.1] 157;let a6:=bM g.1 [S,v3,vI (8:Int),vP g.2.1,g.2.2.1,g.2.2.2.1,C.1] 108;let G:=C.2.2.2.2;let aj:=fQ bX G.1 k.1;let ae:=mT aM G.2.2.1 k.2.2.2.1;let ac:=Ar bJ.raw G.2.1 G.2.2.1;let ab:=Ar bJ.raw C.2.2.2.1 G.1;let X:=Ar bJ.raw g.2.2.2.1 G.2.2.2.1;let a7:=bM C.2.2.1 [vS (K.1),v0,v1,S,v3,vI (k.2.1),G.2.1] 206;let ai:=G.2.2.2.2;let ag:=Ar bJ.raw C.1 ai.2.1;let af:=wX aM ai.1 k.2.2.2.2.1;let ad:=fQ bJ.raw G.2.2.2.1 ai.1;let Y:=Bz aM ai.2.2.2 k.2.2.2.2.2;let ba:=tC bJ.raw ai.2.1 ai.2.2.1 ai.2.2.2;Bu (A:=Int) (B:=Unit) (vs:=[vP g.1]) (λaw=>wR aw=some r) (λaw bi=>vU (aw)) (λaw bi=>[]) (λaw bi=>[D,E,Q,Sl aM S p.1,w,y,u,t]) (pJ.fn (show bB Tryz.prog 57 from Tryz.call57) Z) Tryz.func57 Z Tryz.ntmps57 Z Z ?_ ?_
 ·refine aU<|aC Z<|aP<|aU<|aC Z<|aP<|aN<|jW (B:=Unit) (λal=>wS al=some r) (λal bj=>[(3,vU (al))]) (λal bj=>[]) (λal bj=>[D,E,Q,Sl aM S p.1,w,y,u,t]) ?_ ?_
  ·refine aU<|aA Z<|aB (bU Z) Z<|bV Z<|bV Z<|dK 0 Z<|aB (dM Z (QI Z) Z) Z<|aA Z<|aP<|aT<|nH (B:=Unit) (iV U K p k) (λa bk=>[(0,vP g.1),(3,vU (a.1)),(10,M),(11,vI (a.2))]) (λa bk=>[a6,aa,a9,ab,aj,a7,ac,X,ad,ag,ba]) (λa bk=>[ah,ae,af,Y,D,E,Q,Sl aM S p.1,w,y,u,t]) ((0:Int),(0:Int)) () h SF (a_.ix [0,1,2,3,4,5,6,7,8,9,10] Z Z) (aH.refl _ _) ?_;intro b7 a bk h;let av:=(bL (iV U K p k) b7)
   refine aU<|cU Z<|aP<|aN ?_;refine eG h Z (λh=>?_) λh=>?_
   ·refine cL<|aN<|jW (B:=Unit) (λam=>rE a av am=some r) (λam bl=>[(0,vP g.1),(3,vU (am)),(10,M),(11,vI (a.2))]) (λam bl=>[a6,aa,a9,ab,aj,a7,ac,X,ad,ag,ba]) (λam bl=>[ah,ae,af,Y,D,E,Q,Sl aM S p.1,w,y,u,t]) ?_ ?_
    ·refine aT<|aU<|aA Z<|aC Z<|aP<|aN ?_;refine rP [0,1,3,7,0,0,48,0,255,511] 8 mixedOrders ?_;refine aV Z<|eN Z (bU Z)<|cC Z<|eQ 0 Z<|aV Z<|aV Z<|Fe (A:=bQ) (B:=DN) (vs:=[vP g.1,vI (a.2)]) (λan=>BM U K p k a av an=some r) (λan O=>O.1) (λan O=>[Ar bJ.raw O.1 O.2,a6,aa,a9,ab,aj,a7,ac,X,ad,ag,ba]) (λan O=>[mT aM O.2 an,ah,ae,af,Y,D,E,Q,Sl aM S p.1,w,y,u,t]) Z Z Z (pJ.fn (show bB Tryz.prog 103 from Tryz.call103) Z) Tryz.func103 Z Tryz.ntmps103 Z Z (λ_ _=>(nK [([1],[])] Z)) ?_ ?_
     ·refine aU<|aC Z<|aP<|aU<|aA Z<|aB (bU Z) Z<|bV Z<|bV Z<|dK 0 Z<|cQ h λcl h=>bD (aX (b_ Z)) λcf=>bZ (cG (b_ Z)) ?_;refine aJ (zBb OF (CP U (p0:=C.2.1) g.2.2.1 C.2.1 (by simp[sV,ck];omega)) Z (aH.cons (pK (i:=1) Z) aH.nil)) Z λbb=>?_;refine aC Z<|aP<|aN<|jW (B:=fL) (λao=>rH U K p k a av ao=some r) (λao ax=>[(5,bb)]) (λao ax=>[Ar bJ.raw bb ax,a6,aa,a9,ab,aj,a7,ac,X,ad,ag,ba]) (λao ax=>[mT aM ax ao,ah,ae,af,Y,D,E,Q,Sl aM S p.1,w,y,u,t]) ?_ ?_
      ·refine aU<|aA Z<|aB (bU Z) Z<|bV Z<|bV Z<|dK 1 Z<|aA Z<|cQ h λT h=>aB (bK Z Z (Ir Z) Z Z T) Z<|aB (bS Z (Ir Z) Z Z T) Z<|aB (fH Z (zBc (Ir Z) T.1 T.2) Z) Z<|aA Z<|aP<|aT<|nH (B:=fL) (rK U K p k a av) (λn ap=>[(0,vP g.1),(1,vI (a.2)),(5,bb),(21,(at' z4 a.2).1),(22,vI ((at' p.2 a.2).length:Int)),(23,vI (n.1))]) (λn ap=>[Ar bJ.raw bb ap,a6,aa,a9,ab,aj,a7,ac,X,ad,ag,ba]) (λn ap=>[mT aM ap n.2,ah,ae,af,Y,D,E,Q,Sl aM S p.1,w,y,u,t]) ((0:Int),k.2.2.1) (tg 1 C.2.1) h SF (a_.refl _) (aH.refl _ _) ?_;intro cm n ap h;let a4:=at' (at' ai.1 a.2) n.1;let a2:=(at' (at' p.2 a.2) n.1)
       let a5:=(Int.toNat (a2.1))
       refine aU<|cU Z<|aP<|aN ?_;refine eG h Z (λh=>?_) λh=>?_
       ·refine cL<|aN<|aT<|aU<|aA Z<|cQ h λbT h=>aB (bG Z Z (zBc (Ir Z) T.1 T.2) Z Z bT) Z<|aB (gS (cs:=[vI (a2.1),vI (a2.2)]) Z (zBc (Ir Z) T.1 T.2) cR Z Z Z Z bT) Z<|aJ (aQ.alloc (cs:=TF) Z Z) Z λci=>aC Z<|cD 0 (vs:=[vI ((at' (at' p.2 a.2) n.1).1),vI ((at' (at' p.2 a.2) n.1).2)]) Z Z Z Z Z Z<|aP ?_;refine rP [0,0,2,0,8,24,56,120,0,504,1016,0,4088,8184,16383,32767] 14 mixedOrders ?_;refine aV Z<|cC Z<|eQ 0 Z<|aV Z<|eN Z (bU Z)<|cC Z<|cC Z<|eQ 2 Z<|aV Z<|cQ h λF h=>aZ (cE (fM (i:=9) (q:=10) (j:=3) Z Z Z)) λbt=>eN Z (cO Z Z bt Z Z F)<|aZ (dQ 10 Z) λbu=>aZ (aX (Bh Z)) λbw=>bA Z (a_.cons 9 Z .nil) .nil (gE 0 Z Z (bu.trans bw) Z Z F) aL.z<|aV Z<|cQ h λaq h=>aZ (cE (Dj (q:=10) (j:=3) Z Z F.1 F.2)) λbx=>?_;refine eN Z (cO Z Z bx Z Z aq)<|aZ (aX (Bh Z)) λbz=>?_;refine aZ (aX (bO (Bh Z) F.1 F.2)) λbC=>?_;refine bA Z (a_.cons 10 Z .nil) .nil (cI (f:=λx=>x) Z (DU (q:=0) Z F.1 (by have q0:=F.2;have q1:=bz;(try simp only[zA1]at q0 q1⊢);omega)) Z Z Z hZ ⟨aq.1,(by have q0:=aq.2;have q1:=bC;(try simp only[zA1]at q0 q1⊢);omega)⟩) aL.z ?_;refine bN 14 Z Z<|cQ h λbo h=>aB (bK Z Z (cK (i:=1) (j:=0) Z Z) Z Z bo) Z ?_;refine bD (Know.one ((bO (bO (Bh Z) F.1 F.2) aq.1 aq.2))) λbh=>?_;refine bD (aX (b_ Z)) λbH=>?_;refine bZ (cG (gJ a5 (b_ Z) (bO (bO (Bh Z) F.1 F.2) aq.1 aq.2))) ?_;refine tP (lQ (us:=[a4]) (o:=0) (q:=1) 1 (a4) ⟨bo.1,(by have q0:=bo.2;have q1:=bH;(try simp only[zA1]at q0 q1⊢);omega)⟩ Z Z Z Z (by rw[show(at' (at' g.2.2.2.2.2.2.2.2.2.2.2.2.1 a.2) n.1).cells = #[at' (at' g.2.2.2.2.2.2.2.2.2.2.2.2.1 a.2) n.1]from iF bh]) Z Z Z (fY bh Z) Z) λco=>?_;refine eS<|lA<|aR<|cN Z<|aA Z<|aP ?_;exact iP ((wI .i64 (n.1+(1:Int))),(List.set n.2 a5 (at' (at' k.2.2.2.2.1 a.2) n.1))) (List.set ap a5 (a4)) h SF (a_.ix [1,2,3,4,5,6,7,8,9,10,11,12] Z Z) (iB [0,2,3,4,5,6,7,8,9,10,11,12,13] Z)
       refine eP ?_;exact f_ (n.2) (ap) h SF Z
      intro ao ax h;unfold rH at h;refine aU<|aA Z<|aC Z<|aP<|aS ?_;exact jX (ao) (bb,ax) h (.inl Z) (Fa.r1 Z (RV.tmp Z)) Z (a_.refl _) (aH.refl _ _)
     intro an O h;refine eN Z (dG Z)<|bN 8 Z Z<|eI h λb8 cc h=>aJ (zBb OC (vQ U g.2.1 v0 v1 C.2.2.1 v0 v1 S v3 z4 G.2.1 ((List.zip G.2.2.1 k.2.2.2.1)) C.2.2.2.1 (List.zip G.1 k.1) O.1 ((List.zip O.2 an)) b8 cc) Z (aH.cons (aI.res 3 Z) (aH.cons (zJ Z) (aH.cons (Fy Z) (aH.cons (aI.res 6 Z) (aH.cons (zJ Z) (aH.cons (Fy Z) (aH.cons (QI Z) (aH.cons (Ir Z) (aH.cons (cK (i:=7) (j:=2) Z Z) (aH.cons (fG (i:=4) (j:=5) Z Z cR) (aH.cons (cK (i:=0) (j:=0) Z Z) .nil)))))))))))) Z λcn=>aB (uI Z Z) Z<|aP ?_;refine eG h Z (λh=>?_) λh=>?_
     ·refine aR<|aA Z<|aA Z<|cQ h λb6 h=>aB (WX Z Z b6) Z<|aB (acH Z Z) Z<|aC Z<|eS<|lA ?_;exact cB (Xe .u32 a.1 (MS .u32 (1:Int) a.2)) () h SF (a_.ix [1,2,3,4,5,6,7,8,9,10,11] Z Z) (iB [1,2,3,4,5,6,7,8,9,10,11,12] Z)
     refine dW<|lA ?_;exact cB (a.1) () h SF (a_.ix [1,2,3,4,5,6,7,8,9,10,11] Z Z) (iB [1,2,3,4,5,6,7,8,9,10,11,12] Z)
    intro am bl h;unfold rE at h;refine aR<|cN Z<|aA Z<|aP ?_;exact xD (am,(wI .i64 (a.2+(1:Int)))) () h SF Z
   refine eP ?_;exact cB (a.1) () h SF .nil (iB [4,5,6,7,8,9,10,11] Z)
  intro al bj h;unfold wS at h;refine aU<|aA Z<|aC Z<|aP<|aS ?_;exact jX (al) () h (.inl Z) (Fa.r1 Z (RV.tmp Z)) Z (a_.refl _) (aH.refl _ _)
 intro aw bi h;unfold wR at h;refine cH Z<|aC Z<|aP<|aS ?_;cases h;exact iR Z
end Go.Proofs.YtflciafboapaaaaGreat
namespace Go.Proofs.YtflciafboapaaaaGreat
open Go Go.Sx
theorem YI {g:GR} (hV:VG g) {v i:Nat} (hv:v<g.2.length) (hi:i<(row g v).length):BI (row g (zF g v i)) (v:Int)=(Ht g v i:Int):=by
 have e:=tO hV hv hi;obtain⟨j,hj,hjv,_⟩:=hV.sym v hv i hi;have hr:at' g.2 (jM (row g v) i).1=row g (zF g v i):=by rw[e]
 rw[hr]at hj hjv;rcases wG (row g (zF g v i)) (v:Int)with⟨k,hk,hkv,hkf,hke⟩|⟨hf,_⟩
 ·unfold Ht;omega
 ·exact absurd hjv (hf j hj)
def ML (S:Ls) (a:List EC) (R:List RL) (c:bQ) (v:Nat):bT:=if 0<=s_ S R c v then NN S a R c v (s_ S R c v)else at' c (v:Int)
def MK (g:GR) (e:DO):Bool:=decide ((1<=e.1/\e.1<=4)/\(0<=e.2.1/\e.2.1<(g.2.length:Int))/\(e.1=1\/(0<=e.2.2/\e.2.2<((at' g.2 e.2.1).length:Int))))
def Zy (e:DO):Nat×Nat×Nat:=(e.1.toNat,e.2.1.toNat,e.2.2.toNat)
def perfs (g:GR) (b:bQ->Nat->bT) (a:Nat) (y:AZ) (l:rU):AZ:=l.foldl (λy e=>EQ g b a y (Zy e)) y
theorem adD {g:GR} {e:DO} (h:MK g e=true):acv g (Zy e):=by
 obtain⟨k,v,i⟩:=e;obtain⟨⟨d,f⟩,⟨a,j⟩,b⟩:=zAx h;refine⟨⟨?_,?_⟩,?_,?_⟩<;>simp only[Zy]at * 
 ·omega
 ·omega
 ·omega
 ·rcases b with h|⟨l,c⟩
  ·left;omega
  ·right;have:at' g.2 v=row g v.toNat:=by
    show at' g.2 v=at' g.2 ((v.toNat:Nat):Int);rw[Int.toNat_of_nonneg a]
   rw[this]at c;omega
structure VY (g:GR) (vars:List EC) (cap:Nat) (y:AZ):Prop where
 sh:SH g y
 all:MN g (λv l=>FK g vars v l=true) y
 cp:Cap g cap y
theorem acM {a:Type} [Inhabited a] {l:List a} {s:a} (h:s∈l):∃k,k<l.length/\at' l (k:Int)=s:=by
 obtain⟨k,b,e⟩:=List.getElem_of_mem h;exact⟨k,b,by rw[kE b];exact e⟩
theorem FS {g:GR} {d:List EC} {e:Int} {y:AZ}:MM g d e y=true↔(1<=e/\e<=8)/\VY g d e.toNat y:=by
 unfold MM Ug;simp only[zA6,zAa,pN];constructor
 ·rintro⟨⟨n,o⟩,m,p,q,r⟩;have j:∀v,v<g.2.length->((at' y.2.1 (v:Int)).length=(row g v).length/\(at' y.2.2 (v:Int)).length=(row g v).length)/\∀i,i<(row g v).length->FK g d (zF g v i) (nS y.2.1 v i)=true/\((nS y.2.2 v i).length:Int)<=e/\∀k,k<(nS y.2.2 v i).length->FK g d v (at' (nS y.2.2 v i) (k:Int))=true:=λv b=>by
   have:=r v b;unfold rvB at this;simp only[zA6,zAa,pN]at this;refine⟨⟨this.1,this.2.1⟩,λi f=> ?_⟩
   have:=this.2.2 i f;unfold wiB at this;simp only[zA6,zAa,pN]at this;exact this
  refine⟨m,⟨n,⟨p,λv b=>(j v b).1.1⟩,⟨q,λv b=>(j v b).1.2⟩⟩,⟨o,λv i b f=>((j v b).2 i f).1,λv i b f s t=> ?_⟩,λv i b f=> ?_⟩
  ·obtain⟨k,l,rfl⟩:=acM t;exact((j v b).2 i f).2.2 k l
  ·have:=((j v b).2 i f).2.1;omega
 ·rintro⟨m,h⟩;refine⟨⟨h.sh.c,h.all.c⟩,m,h.sh.a.len,h.sh.w.len,λv b=> ?_⟩
  unfold rvB;simp only[zA6,zAa,pN];refine⟨h.sh.a.row v b,h.sh.w.row v b,λi f=> ?_⟩
  unfold wiB;simp only[zA6,zAa,pN];refine⟨h.all.a v i b f,by have:=h.cp v i b f;omega,λk l=>h.all.w v i b f _ ?_⟩
  rw[kE l];exact List.getElem_mem l
theorem Ef {g:GR} {a:List EC} {v:Nat} {l:bT}:FK g a v l=true↔l.length=a.length/\∀x,x<a.length->(qB g a v x).1<=at' l (x:Int)/\at' l (x:Int)<=(qB g a v x).2:=by
 unfold FK;simp only[zA6,zAa,pN]
theorem Mg {g:GR} {a:List EC} {c:bQ} (e:c.length=g.2.length) (d:∀x,x<g.2.length->FK g a x (at' c (x:Int))=true):Wo g c a:=
 ⟨e,λv b=>(Ef.1 (d v b)).1,λv b x f=>(Ef.1 (d v b)).2 x f⟩
theorem Sw {B:Type} {g:GR} (h:VG g) {s2:MC->(MC->Option B)->(Int×bQ)->((Int×bQ)->Option B)->Option B}
  {s1:MC->(MC->Option B)->Option B} {K:Int×bQ->Option B}
  (o:∀a d,s1 a d=if a.1<(g.2.length:Int)then ck (0<=a.1/\a.1<(g.2.length:Int)) (ck (0<=a.1/\a.1<(g.1.length:Int)) (bL (s2 a d) 1000 ((0:Int),a.2.2)))else K (a.2.1,a.2.2))
  (p:∀a d b e,s2 a d b e=if b.1<((at' g.2 a.1).length:Int)then ck (0<=b.1/\b.1<((at' g.2 a.1).length:Int)) (ck (0<=a.1/\a.1<(b.2.length:Int)) (Option.bind (mM 1000 g ((at' (at' g.2 a.1) b.1).1) a.1) λr=>ck (((at' b.2 a.1).length:Int)+(List.length [r]:Int)<=1099511627) (ck (0<=a.1/\a.1<((List.set b.2 (Int.toNat a.1) (at' b.2 a.1++[r])).length:Int)) (e (wI .i64 (b.1+1),List.set b.2 (Int.toNat a.1) (at' b.2 a.1++[r]))))))else d (wI .i64 (a.1+1),max a.2.1 (at' g.1 a.1),b.2)):
  bL s1 1000 ((0:Int),(0:Int),(List.replicate (Int.toNat (g.2.length:Int)) ([]:bT)))=K (jH g g.2.length,kZ g):=by
 have C:=h.n24;have t:=h.len;let f:Nat->bT:=λv=>(List.range (row g v).length).map (TS g v);let Q:Nat->bQ:=λk=>(List.range k).map f++List.replicate (g.2.length - k) [];have q:∀k,k<=g.2.length->(Q k).length=g.2.length:=λk l=>by simp[Q];omega
 rw[show List.replicate (Int.toNat (g.2.length:Int)) ([]:bT)=Q 0 by simp[Q]];refine dJ (step:=s1) g.2.length (λk=>((k:Int),jH g k,Q k)) (λk d l=> ?_) (λd=> ?_) 1000 (by omega)
 ·have s:=(h.node k l).deg;have w:k<(Q k).length:=by rw[q k (by omega)];exact l
  rw[o];dsimp only;rw[if_pos (by omega),cF (by omega),cF (by omega)];let c:Nat->bT:=λj=>(List.range j).map (TS g k);have z:Q k=(Q k).set k (c 0):=by
   have:at' (Q k) (k:Int)=c 0:=by
    rw[kE w];simp[Q,c]
   rw[<-this];exact(FJ (Q k) (k:Int) (by simpa using w) (by omega)).symm
  have i:∀A:bQ,A.length=g.2.length->bL (s2 ((k:Int),jH g k,Q k) d) 1000 ((0:Int),A.set k (c 0))=d (((k+1:Nat):Int),jH g (k+1),A.set k (f k)):=by
   intro A F;refine dJ (step:=s2 ((k:Int),jH g k,Q k) d) (K:=d (((k+1:Nat):Int),jH g (k+1),A.set k (f k))) (row g k).length (λj=>((j:Int),A.set k (c j))) (λj e E=> ?_) (λe=> ?_) 1000 (by omega)
   ·obtain⟨u,x,m⟩:=h.to l E;have D:=(h.node u x).deg;have y:at' (A.set k (c j)) (k:Int)=c j:=by rw[Dq _ _ _ _ (by omega),if_pos Z]
    have n:(c j).length=j:=by simp[c]
    rw[p];dsimp only;rw[if_pos (show(j:Int)<((row g k).length:Int) by omega),cF (show 0<=(j:Int)/\(j:Int)<((row g k).length:Int) by omega),cF (by simp only[zA1];omega),show at' (at' g.2 (k:Int)) (j:Int)=jM (row g k) j from rfl,m,bH (show mM 1000 _ (u:Int) (k:Int)=_ from NP g u (k:Int) x (by omega)),y,cF (by rw[n];simp;omega),cF (by simp only[zA1];omega),cV (by omega),zAf,List.set_set];have:c j++[BI (row g u) (k:Int)]=c (j+1):=by
     simp only[c];rw[List.range_succ,List.map_append,List.map_singleton,TS,m,zAf]
    rw[this]
   ·rw[p];dsimp only;rw[if_neg (show¬((row g k).length:Int)<((row g k).length:Int)from Int.lt_irrefl _),cV (by omega)];rfl
  have:=i (Q k) (q k (by omega));rw[BW f [] g.2.length k l,<-z]at this;exact this
 ·rw[o];dsimp only;rw[if_neg (by omega)];simp[Q,kZ,f]
section
variable {g:GR} {vars:List EC} {cap:Nat} {y:AZ}
theorem VY.rowc (h:VY g vars cap y) {v:Nat} (a:v<g.2.length):(at' y.1 (v:Int)).length=vars.length:=(Ef.1 (h.all.c v a)).1
theorem VY.rowa (h:VY g vars cap y) (d:VG g) {v i:Nat} (c:v<g.2.length) (b:i<(row g v).length):(nS y.2.1 v i).length=vars.length:=(Ef.1 (h.all.a v i c b)).1
theorem VY.roww (h:VY g vars cap y) {v i k:Nat} (c:v<g.2.length) (b:i<(row g v).length) (a:k<(nS y.2.2 v i).length):(at' (nS y.2.2 v i) (k:Int)).length=vars.length:=(Ef.1 (h.all.w v i c b _ (by rw[kE a];exact List.getElem_mem a))).1
theorem Kj {B:Type} (u:VG g) (h:VY g vars cap y) (M:cap<=8) (N:vars.length<=20) {cp:List (List Int)->Option (List (List Int))} (o:∀c:List (List Int),c.length<=900->(∀v,v<c.length->(at' c (v:Int)).length<=1000)->cp c=some c)
  {s4:(Int×List (List (List Int))×List (List (List (List Int))))->((Int×List (List (List Int))×List (List (List (List Int))))->Option B)->List (List Int)->(List (List (List Int))×Int)->((List (List (List Int))×Int)->Option B)->Option B}
  {s3:(Int×List (List (List Int))×List (List (List (List Int))))->((Int×List (List (List Int))×List (List (List (List Int))))->Option B)->Option B} {K:List (List (List Int))×List (List (List (List Int)))->Option B}
  (F:∀(k:Nat) l m f,k<y.2.1.length->k<y.2.2.length->l.length<=900->s3 ((k:Int),l,m) f=Option.bind (cp (at' y.2.1 (k:Int))) λr=>bL (s4 ((k:Int),l,m) f r) 1000 (([]:List (List (List Int))),(0:Int)))
  (s:∀l m f,s3 ((y.2.1.length:Int),l,m) f=K (l,m))
  (G:∀(k j:Nat) l m f r b d,k<y.2.1.length->k<y.2.2.length->j<(at' y.2.2 (k:Int)).length->b.length<=900->s4 ((k:Int),l,m) f r (b,(j:Int)) d=Option.bind (cp (at' (at' y.2.2 (k:Int)) (j:Int))) λq=>d (b++[q],((j+1:Nat):Int)))
  (t:∀(k:Nat) l m f r b d,k<y.2.1.length->k<y.2.2.length->m.length<=900->s4 ((k:Int),l,m) f r (b,((at' y.2.2 (k:Int)).length:Int)) d=f (((k+1:Nat):Int),l++[r],m++[b])):
  bL s3 1000 ((0:Int),([]:List (List (List Int))),([]:List (List (List (List Int)))))=K y.2:=by
 have E:=u.n24;have I:=h.sh.a.len;have J:=h.sh.w.len;have e:K y.2=K (y.2.1.take y.2.1.length,y.2.2.take y.2.1.length):=by rw[zB2,I,<-J,zB2]
 rw[e];refine dJ (step:=s3) y.2.1.length (λk=>((k:Int),y.2.1.take k,y.2.2.take k)) (λk f p=> ?_) (λf=>s _ _ f) 1000 (by omega);have n:k<g.2.length:=by omega
 have z:=(u.node k n).deg;have O:=h.sh.a.row k n;have L:=h.sh.w.row k n;rw[F k _ _ f p (by omega) (by simp;omega),bH (o (at' y.2.1 (k:Int)) (by omega) λi A=>by have:=h.rowa u n (i:=i) (by omega);show(nS y.2.1 k i).length<=1000;omega)];have x:bL (s4 ((k:Int),y.2.1.take k,y.2.2.take k) f (at' y.2.1 (k:Int))) 1000 (([]:List (List (List Int))),(0:Int))=f (((k+1:Nat):Int),y.2.1.take k++[at' y.2.1 (k:Int)],y.2.2.take k++[at' y.2.2 (k:Int)]):=by
  have D:∀d,s4 ((k:Int),y.2.1.take k,y.2.2.take k) f (at' y.2.1 (k:Int)) ((at' y.2.2 (k:Int)).take (at' y.2.2 (k:Int)).length,((at' y.2.2 (k:Int)).length:Int)) d=f (((k+1:Nat):Int),y.2.1.take k++[at' y.2.1 (k:Int)],y.2.2.take k++[at' y.2.2 (k:Int)]):=λd=>by
   rw[t k _ _ f _ _ d p (by omega) (by simp;omega),zB2]
  refine dJ (step:=s4 ((k:Int),y.2.1.take k,y.2.2.take k) f (at' y.2.1 (k:Int))) (at' y.2.2 (k:Int)).length (λj=>((at' y.2.2 (k:Int)).take j,(j:Int))) (λj d C=> ?_) D 1000 (by omega);have H:=h.cp k j n (by omega);rw[G k j _ _ f _ _ d p (by omega) C (by simp;omega),bH (o (at' (at' y.2.2 (k:Int)) (j:Int)) (by show(nS y.2.2 k j).length<=900;omega) λi A=>by have:=h.roww n (i:=j) (k:=i) (by omega) A;show(at' (nS y.2.2 k j) (i:Int)).length<=1000;omega),nZ C]
 rw[x,nZ p,nZ (show k<y.2.2.length by omega)]
theorem E_ {B:Type} (b:VG g) (h:SH g y) {v:Nat} (l:v<g.2.length) {s:(Int×List (List Int))->((Int×List (List Int))->Option B)->Option B} {K:List (List Int)->Option B}
  (k:∀(i:Nat) c a,i<(row g v).length->c.length=y.1.length->s ((i:Int),c) a=a (((i+1:Nat):Int),c.set (zF g v i) (nS y.2.1 v i))) (f:∀c a,c.length=y.1.length->s (((row g v).length:Int),c) a=K c):bL s 1000 ((0:Int),y.1)=K (vw g y v):=by
 have d:=(b.node v l).deg;have e:=b.n24;exact dJ (step:=s) (row g v).length (λi=>((i:Int),vwN g y v i)) (λi a j=>k i _ a j (Hp g y v i)) (λa=>f _ a (Hp g y v _)) 1000 (by omega)
end
theorem VL {X B:Type} {n:Nat} {b:Nat->Bool} (F:Nat->X) {step:X->(X->Option B)->Option B} {Z K:Option B}
  (f:∀(k:Nat) a,k<n->(∀j,j<k->b j=true)->step (F k) a=if b k=true then a (F (k+1))else Z) (l:(∀j,j<n->b j=true)->∀a,step (F n) a=K) (p:n<1000):bL step 1000 (F 0)=if BC n b=true then K else Z:=by
 by_cases h:BC n b=true
 ·rw[if_pos h];have d:=pN.1 h;exact dJ n F (λk a c=>by rw[f k a c (λj o=>d j (by omega)),if_pos (d k c)]) (l d) 1000 p
 ·rw[if_neg h];obtain⟨m,g,i,e⟩:=Lw h;exact dJ m F (λk a c=>by rw[f k a (by omega) (λj o=>e j (by omega)),if_pos (e k c)]) (λa=>by rw[f m a g e,if_neg (by rw[i];decide)]) 1000 (by omega)
theorem Ie {g:GR} {b:List (List Int)->Nat->List Int} {a:Nat} {y:AZ} {l:List (Int×Int×Int)} {k:Nat} (c:k<l.length):perfs g b a y (l.take (k+1))=EQ g b a (perfs g b a y (l.take k)) (Zy (at' l (k:Int))):=by
 rw[show l.take (k+1)=l.take k++[at' l (k:Int)]from by first|exact(nZ c).symm|exact nZ c];unfold perfs;rw[List.foldl_append];rfl
section
variable {g:GR} {p:Fh} {R:List RL} {cap:Nat} {y:AZ}
theorem YY {S:Ls} {a:List EC} {c:List (List Int)} {v:Nat} (k:gR S.2.1 a) (l:List (Nat×E)):(∀s∈l,s.1<a.length)->∀b,FK S.2.1 a v b=true->FK S.2.1 a v (l.foldl (KF S a c v) b)=true:=by
 induction l with
 |nil=>exact λ_ b h=>h
 | cons s l ih =>
  intro f b h;rw[List.foldl_cons];refine ih (λx d=>f x (zAl _ d)) _ ?_;have m:=f s (zAe ..);obtain⟨i,j⟩:=Ef.1 h;refine Ef.2 ⟨by simp[KF,i],λx d=> ?_⟩;unfold KF;rw[Dq _ _ _ _ (by omega)];by_cases e:x=s.1
  ·subst e;rw[if_pos Z];exact Vt k m v _
  ·rw[if_neg e];exact j x d
theorem Te (k:gR g p.2.1) (h:kJ p.2.1.length R=true):
  ∀c:List (List Int),c.length=g.2.length->(∀x,x<g.2.length->FK g p.2.1 x (at' c (x:Int))=true)->∀v,v<g.2.length->FK g p.2.1 v (ML (dO p g) p.2.1 R c v)=true:=λc m d v f=>by
 unfold ML;by_cases b:0<=s_ (dO p g) R c v
 ·rw[if_pos b];obtain⟨i,j,a,_⟩:=(Mh (dO p g) R c v).resolve_left (λe=>by omega);rw[j];exact YY (S:=dO p g) k _ (λs l=>((Le h a).2.2 s l).1) _ (d v f)
 ·rw[if_neg b];exact d v f
theorem VY.perf {f:List (List Int)->Nat->List Int} {d:List EC} (i:VG g) (h:VY g d cap y) {e:Nat×Nat×Nat} (j:acv g e) (k:∀c:List (List Int),c.length=g.2.length->(∀x,x<g.2.length->FK g d x (at' c (x:Int))=true)->∀v,v<g.2.length->FK g d v (f c v)=true):VY g d cap (EQ g f cap y e):=by
 obtain⟨a,b,c⟩:=YB i h.sh h.all h.cp j k;exact⟨a,b,c⟩
theorem VY.perfs {e:List (List Int)->Nat->List Int} {a:List EC} (b:VG g) (h:VY g a cap y) (d:∀c:List (List Int),c.length=g.2.length->(∀x,x<g.2.length->FK g a x (at' c (x:Int))=true)->∀v,v<g.2.length->FK g a v (e c v)=true) (l:List (Int×Int×Int)):∀k,k<=l.length->(∀j,j<k->MK g (at' l (j:Int))=true)->VY g a cap (Go.Proofs.YtflciafboapaaaaGreat.perfs g e cap y (l.take k))
 |0,_,_=>h
 |k+1,hk,hb=>by
  rw[Ie (by omega)];exact(VY.perfs b h d l k (by omega) λj f=>hb j (by omega)).perf b (adD (hb k (by omega))) d
end
theorem XN {g:GR} {k v i:Int} (a:1<=k/\k<=4) (b:0<=v/\v<(g.2.length:Int)) (c:k=1\/(0<=i/\i<((at' g.2 v).length:Int))):MK g (k,v,i)=true:=zA4 ⟨a,b,c⟩
theorem QE {g:GR} {k:Bool} {y:AZ} {v i:Nat} (h:[]=nS y.2.2 (zF g v i) (Ht g v i)):zT g k y v i=y:=by unfold zT;rw[<-h]
theorem NG {g:GR} {k:Bool} {y:AZ} {v i:Nat} {s:bT} {r:bQ} (h:s::r=nS y.2.2 (zF g v i) (Ht g v i)):zT g k y v i=(y.1,if k=true then Ii y.2.1 v i s else y.2.1,Ii y.2.2 (zF g v i) (Ht g v i) r):=by unfold zT;rw[<-h]
theorem ads (l:bT) (h:l.length<=900):uX 1000 l=some l:=by
 unfold uX;rw[cF (by simp;omega),zB8]
abbrev ZJ:=DL
abbrev FU:AZ:=([],[],[])
section
variable {g:GR} {p:Fh} {R:List RL} {cap:Int} {y:AZ} {l:List (Int×Int×Int)}
theorem YR (hV:VG g) (hp:gR g p.2.1) (hz:p.2.2.map sO=BE R) (hR:kJ p.2.1.length R=true) (hcap:1<=cap/\cap<=8) {A:ZJ} (hA1:A.1=BO g p.2.1) (hA2:A.2.1=jH g g.2.length) (hA3:A.2.2.2.1=kZ g) (h:VY g p.2.1 cap.toNat y) {k:Nat} (hk:k<l.length) (hl:l.length<=900) (ag:Int×AZ->Option (AZ×Int)):
  iA 1000 p g cap l A ((k:Int),y) ag=if MK g (at' l (k:Int))=true then ag (((k+1:Nat):Int),EQ g (ML (dO p g) p.2.1 R) cap.toNat y (Zy (at' l (k:Int))))else some (FU,2):=by
 have h24:=hV.n24;have hvl:=hp.len;have lc:=h.sh.c;have la:=h.sh.a.len;have lw:=h.sh.w.len;obtain⟨e,he⟩:∃e,at' l (k:Int)=e:=⟨_,rfl⟩
 obtain⟨ek,ev,ei⟩:=e;have bad:sH 1000 p g cap l A ((k:Int),y) ag true=some (FU,2):=rfl;have bad8:AK 1000 g cap l ((k:Int),y) ag true=some (FU,2):=rfl;unfold iA;simp only[he];rw[if_pos (by omega),cF (by omega),bad];by_cases k1:ek<1
 ·rw[if_pos k1,if_neg (by unfold MK;rw[zAa];rintro⟨h,-,-⟩;simp only at h;omega)]
 rw[if_neg k1];by_cases k2:4<ek
 ·rw[if_pos k2,if_neg (by unfold MK;rw[zAa];rintro⟨h,-,-⟩;simp only at h;omega)]
 rw[if_neg k2];by_cases k3:ev<0
 ·rw[if_pos k3,if_neg (by unfold MK;rw[zAa];rintro⟨-,h,-⟩;simp only at h;omega)]
 rw[if_neg k3];by_cases k4:(g.2.length:Int)<=ev
 ·rw[zA4 k4,bad,if_neg (by unfold MK;rw[zAa];rintro⟨-,h,-⟩;simp only at h;omega)]
 rw[zA3 k4];obtain⟨v,rfl⟩:∃v:Nat,ev=(v:Int):=⟨ev.toNat,by omega⟩
 have hv:v<g.2.length:=by omega
 have hdeg:=(hV.node v hv).deg;have hrow:at' g.2 (v:Int)=row g v:=rfl;have rc:=h.rowc hv;have ra:=h.sh.a.row v hv;have rw':=h.sh.w.row v hv;have fin:∀c ca wi,nM ((k:Int),y) ag ((0:Int),c,wi,ca)=ag (((k+1:Nat):Int),c,ca,wi):=λc ca wi=>by
  unfold nM;rw[if_neg (by simp)];show ag (wI .i64 ((k:Int)+1),c,ca,wi)=_;rw[cV (by omega)]
 unfold sH;rw[if_neg (by decide)];simp only[he];by_cases hk1:ek=1
 ·subst hk1;rw[if_pos Z,cF (by omega),cF (by omega),if_pos (XN ⟨by decide,by decide⟩ ⟨by omega,by omega⟩ (.inl Z))];have hev:Zy ((1:Int),(v:Int),ei)=(1,v,ei.toNat):=rfl;rw[hev];have hvw:=J_ hV h.sh hv h.all;have hcw:=Mg hvw.1 hvw.2;refine(E_ (s:=AM 1000 p g l A ((k:Int),y) ag) (K:=AJ 1000 p g l A ((k:Int),y) ag) hV h.sh hv (λi c ag2 hi hcl=> ?_) (λc ag2 hcl=> ?_)).trans ?_
  ·have hto:=tO hV hv hi;have hul:=(Bi hV hv hi).ul;have hl1:at' (row g v) (i:Int)=jM (row g v) i:=rfl;unfold AM;simp only[he,hrow,hl1,hto];rw[if_pos (by omega),cF (by omega),cF (by omega),cF (by omega),cF (by omega),cV (by omega),zAf]
  ·unfold AM;simp only[he,hrow];rw[if_neg (by omega)]
  ·unfold AJ FH;simp only[he,hA2,hA3,hA1];rw[bH (show fP 1000 _ (vw g y v) (v:Int)=_ from Pr hV hcw.shape hv hz hR (BO g p.2.1))];show(if 0<=s_ (dO p g) R (vw g y v) v then _ else _)=ag (_,Oz g (ML (dO p g) p.2.1 R) y v);unfold Oz ML;by_cases h0:0<=s_ (dO p g) R (vw g y v) v
   ·obtain⟨i,hi,hil,_⟩:=(Mh (dO p g) R (vw g y v) v).resolve_left (λe=>by omega);have hi':s_ (p,g,jH g g.2.length,kZ g) R (vw g y v) v=(i:Int):=hi;rw[if_pos h0,if_pos h0,hi,hi',bH (show mL 1000 _ (vw g y v) (v:Int) (i:Int)=_ from abo (gr:=jH g g.2.length) hV hp hcw.shape hv hz hR hil),cF (by omega),zAf];exact fin _ _ _
   ·rw[if_neg h0,if_neg h0];refine(fin _ _ _).trans ?_;have e1:at' (vw g y v) (v:Int)=at' y.1 (v:Int):=PX hV h.sh hv _ (zAh _);rw[e1,Kt y.1 (by omega)]
 rw[if_neg hk1];by_cases i1:ei<0
 ·rw[if_pos i1,bad8,if_neg (by unfold MK;rw[zAa];rintro⟨-,-,h⟩;simp only at h;omega)]
 rw[if_neg i1,cF (by omega),hrow];by_cases i2:((row g v).length:Int)<=ei
 ·rw[zA4 i2,bad8,if_neg (by unfold MK;rw[zAa];rintro⟨-,-,h⟩;simp only[hrow]at h;omega)]
 rw[zA3 i2];obtain⟨i,rfl⟩:∃i:Nat,ei=(i:Int):=⟨ei.toNat,by omega⟩
 have hi:i<(row g v).length:=by omega
 rw[if_pos (XN (by omega) (by omega) (.inr (by rw[hrow];omega)))];have hev:Zy (ek,(v:Int),(i:Int))=(ek.toNat,v,i):=rfl;rw[hev];have hwl:=h.cp v i hv hi;have e2:at' (at' y.2.2 (v:Int)) (i:Int)=nS y.2.2 v i:=rfl;unfold AK;rw[if_neg (by decide)];simp only[he,e2];by_cases hk2:ek=2
 ·subst hk2;rw[if_pos Z,cF (by omega),cF (by omega)];show _=ag (_,Eg cap.toNat y v i);unfold Eg;by_cases hc:(nS y.2.2 v i).length<cap.toNat
  ·rw[if_pos (show((nS y.2.2 v i).length:Int)<cap by omega),if_pos hc,cF (by omega),bH (ads _ (by omega)),cF (by simp;omega),zAf,zAf];exact fin _ _ _
  ·rw[if_neg (show¬((nS y.2.2 v i).length:Int)<cap by omega),if_neg hc];exact fin _ _ _
 rw[if_neg hk2];have hto:=tO hV hv hi;have hpb:=Bi hV hv hi;have hul:=hpb.ul;have hbl:=hpb.bl;have hdu:=(hV.node (zF g v i) hul).deg;have hwu:=h.sh.w.row (zF g v i) hul;have hl1:at' (row g v) (i:Int)=jM (row g v) i:=rfl;have e3:at' (at' y.2.2 ((zF g v i:Nat):Int)) ((Ht g v i:Nat):Int)=nS y.2.2 (zF g v i) (Ht g v i):=rfl;simp only[hrow,hl1,hto];rw[cF (by omega),cF (by omega),cF (by omega),bH (show mM 1000 _ ((zF g v i:Nat):Int) (v:Int)=_ from NP g _ _ hul (by omega)),YI hV hv hi,cF (by omega)];simp only[e3];have hpf:EQ g (ML (dO p g) p.2.1 R) cap.toNat y (ek.toNat,v,i)=zT g (decide (ek=3)) y v i:=by
  unfold EQ;rw[if_neg (show¬ek.toNat=1 by omega),if_neg (show¬ek.toNat=2 by omega)];show zT g (decide (ek.toNat=3)) y v i=_;by_cases q:ek=3
  ·subst q;rfl
  ·rw[zA3 q,zA3 (by omega)]
 rw[hpf];obtain⟨wl,hw⟩:∃wl,wl=nS y.2.2 (zF g v i) (Ht g v i):=⟨_,rfl⟩
 cases wl with
 |nil=>
  rw[if_pos (by rw[<-hw];rfl),QE hw];exact fin _ _ _
 | cons s r =>
  have hl:(nS y.2.2 (zF g v i) (Ht g v i)).length=r.length+1:=by rw[<-hw];rfl
  rw[if_neg (by omega),NG hw];have k10:∀ca,AL g l ((k:Int),y) ag (Ht g v i:Int) ca=ag (((k+1:Nat):Int),y.1,ca,Ii y.2.2 (zF g v i) (Ht g v i) r):=λca=>by
   unfold AL;simp only[he,hrow,hl1,hto,e3,<-hw];rw[cF (by simp;omega),zAf,zAf];exact fin _ _ _
  have hs:at' (nS y.2.2 (zF g v i) (Ht g v i)) 0=s:=by rw[<-hw];rfl
  by_cases q:ek=3
  ·subst q;rw[if_pos Z,cF (by omega),cF (by omega),cF (by omega),k10,zAf,zAf,hs];rfl
  ·rw[if_neg q,k10,zA3 q];rfl
end
end Go.Proofs.YtflciafboapaaaaGreat
namespace Go.Proofs.YtflciafboapaaaaGreat
open Go.Sx
def Ak (U:Nat) (b:fE) (e:cJ) (f:Int) (c:gX) (d:DO):Option kW:=
 Option.bind (Cy U ((b.1,b.2.1,b.2.2)) ((e.1,e.2)) f ((c.1,c.2.1,c.2.2)) ([(d.1,d.2.1,d.2.2)])) λa=>(some (((a.1.1,a.1.2.1,a.1.2.2)),a.2))
theorem acS:bB Tryz.prog 14:=Tryz.call14
theorem PR (U:Nat) {d:fE} {v:cJ} {w:Int} {o:gX} {a:DO} (k m p q:V0) (y:kX) (s:V0) (z:nG) (t:V0) (A:CV) (u:V0) (n:CU) (r:UP) (h:Ak U d v w o a=some r):
  bE Tryz.prog 14 #[Value.agg #[vS (d.1),k,m],Value.agg #[p,q],vI (w),Value.agg #[s,t,u],Value.agg #[vI (a.1),vI (a.2.1),vI (a.2.2)]] [Sl aE k d.2.1,Sl aD m d.2.2,PF (Value.agg #[vS d.1,k,m]),Sl aM p v.1,S2 aY q y v.2,S2 aM s z o.1,S3 aM t A o.2.1,S4 aM u n o.2.2] (λx:Rx=>Value.tuple #[Value.agg #[x.1,x.2.2.1,x.2.2.2.2.1],vI (r.2)]) (λx l=>l) (λx l=>S2 aM x.1 x.2.1 r.1.1::S3 aM x.2.2.1 x.2.2.2.1 r.1.2.1::S4 aM x.2.2.2.2.1 x.2.2.2.2.2 r.1.2.2::l):=by
 refine bE.of Tryz.func14 Z Tryz.ntmps14 Z λc=>?_;refine aU<|aJ (aQ.box (cs:=[vS (d.1),k,m]) Z Z) Z λE=>aJ (aQ.box (cs:=[p,q]) Z Z) Z λF=>aJ (aQ.box (cs:=[s,t,u]) Z Z) Z λG=>aJ (aQ.box (cs:=[vI (a.1),vI (a.2.1),vI (a.2.2)]) Z Z) Z λH=>aJ (aQ.alloc (cs:=[cW,cW,cW]) Z Z) Z λI=>aC Z<|aP<|aU<|cM 4 Z<|cM 3 Z<|aA Z<|cM 2 Z<|cM 1 Z<|aJ (cX (e:=Ge) ([((a.1,a.2.1,a.2.2))]) [(0,Value.agg #[vI (a.1),vI (a.2.1),vI (a.2.2)])] Z Z Z Z (QD (vI (a.1)) (vI (a.2.1)) (vI (a.2.2))) Z Z Z) Z λC=>bZ (fZ 0 Z (dR (aI.res 0 Z) Cq))<|eI h λB D h=>aJ (aQ.call acY (Ru U k m p q y s z t A u n C B D) Z (gQ.cons (zA0 (i:=1) Z) (gQ.cons (zA0 (i:=2) Z) (gQ.cons (zA0 (i:=3) Z) (gQ.cons (zA0 (i:=4) Z) (gQ.cons (zA0 (i:=5) Z) (gQ.cons (zA0 (i:=6) Z) (gQ.cons (zA0 (i:=7) Z) (gQ.cons (zA0 (i:=8) Z) (eV 0 Z))))))))) (λ_ _=>rfl) (λ_ _=>rfl)) Z λb=>iN Z<|iN Z<|bD (tM (b_ Z)) λf=>bD (tM (mR Z)) λg=>bD (tM (zI Z)) λj=>cD 0 (vs:=[b.1,b.2.2.1,b.2.2.2.2.1]) Z Z (fY f (fY g (fY j Z))) Z Z Z<|aC Z<|aP<|aS ?_;cases h;exact gY (b.1,b.2.1,b.2.2.1,b.2.2.2.1,b.2.2.2.2.1,b.2.2.2.2.2) Z Z (RV.cell 0 Z Z Z Z) (RV.tmp Z) .nil (iB [0,1,2] Z)
end Go.Proofs.YtflciafboapaaaaGreat
namespace Go.Proofs.YtflciafboapaaaaGreat
open Go Go.Sx
def Ps (g:GR) (b:List EC) (c:bQ->Nat->bT) (a:Int) (y:AZ) (l:rU):AZ×Int:=
 if 1<=a/\a<=8 then(if MM g b a y=true then(if BC l.length (λk=>MK g (at' l (k:Int)))=true then(perfs g c a.toNat y l,0)else(FU,2))else(FU,7))else(FU,2)
section
variable {g:GR} {p:Fh} {R:List RL} {cap:Int} {y:AZ} {l:List (Int×Int×Int)}
theorem Xy (c:VG g) (d:gR g p.2.1) (cap:Int) (y:AZ):xM 1000 p g cap y=some (if 1<=cap/\cap<=8 then(if MM g p.2.1 cap y=true then 0 else 7)else 2):=by
 have e:vO 1000 p g cap y false=some (if MM g p.2.1 cap y=true then 0 else 7):=by
  unfold vO;rw[if_neg (by decide),bH (show kG 1000 _ _ _ _=_ from Jn c d cap y)];cases MM g p.2.1 cap y<;>rfl
 unfold xM;rw[bH (show pV 1000 _ _=some 0 from Un c d),if_neg (by decide)];by_cases a:cap<1
 ·rw[if_pos a,if_neg (by omega)];rfl
 rw[if_neg a];by_cases b:8<cap
 ·rw[zA4 b,if_neg (by omega)];rfl
 rw[zA3 b,e,if_pos (show 1<=cap/\cap<=8 from by omega)]
theorem YQ (j:VG g) (q:gR g p.2.1) (t:p.2.2.map sO=BE R) (i:kJ p.2.1.length R=true) (a:1<=cap/\cap<=8) {A:ZJ} (c:A.1=BO g p.2.1) (d:A.2.1=jH g g.2.length) (e:A.2.2.2.1=kZ g) (h:VY g p.2.1 cap.toNat y) (r:l.length<=900):
  bL (iA 1000 p g cap l A) 1000 ((0:Int),y)=some (if BC l.length (λk=>MK g (at' l (k:Int)))=true then(perfs g (ML (dO p g) p.2.1 R) cap.toNat y l,0)else(FU,2)):=by
 have:=VL (step:=iA 1000 p g cap l A) (n:=l.length) (b:=λk=>MK g (at' l (k:Int))) (λk=>((k:Int),perfs g (ML (dO p g) p.2.1 R) cap.toNat y (l.take k))) (Z:=some (FU,2)) (K:=some (perfs g (ML (dO p g) p.2.1 R) cap.toNat y l,0)) (λk f o m=>by
  have s:=VY.perfs j h (Te (R:=R) q i) l k (by omega) m;rw[YR j q t i a c d e s o r f,Ie o]) (λm f=>by
  unfold iA Df;dsimp only;rw[if_neg (by omega),zB2]) (by omega)
 refine Eq.trans this ?_;split<;>rfl
theorem JM (e:VG g) (x:gR g p.2.1) {o:Nat} (A:o<=8) (h:VY g p.2.1 o y) (cap:Int):jC 1000 p g cap y=some (BO g p.2.1,jH g g.2.length,y.1,kZ g,y.2.1,y.2.2):=by
 have z:=e.n24;have s:=x.len;have F:=h.sh.a.len;have G:=h.sh.w.len;unfold jC;rw[cF (by omega)];refine(Sw (s1:=oQ 1000 p g y) (s2:=yY 1000 g) (K:=oO 1000 p g y) e (λ_ _=>rfl) (λ_ _ _ _=>rfl)).trans ?_;unfold oO sK;rw[bH (show lJ 1000 _ _=_ from Mz e x)];unfold sI;rw[bH (Uj y.1 (by rw[h.sh.c];omega) λv i=>by rw[h.rowc (by rw[<-h.sh.c];exact i)];omega)];refine(Kj (cp:=pY 1000) (s3:=kP 1000 y (BO g p.2.1,jH g g.2.length,kZ g) y.1) (s4:=λa d r=>oP 1000 y a d r) (K:=sJ (BO g p.2.1,jH g g.2.length,kZ g) y.1) e h A s (λc a b=>Uj c a b) (λk n t d u f B=> ?_) (λn t d=> ?_) (λk j n t d r b m u f E D=> ?_) (λk n t d r b m u f C=> ?_)).trans ?_
 ·unfold kP;dsimp only;rw[if_pos (by omega),cF (by omega)];refine congrArg (Option.bind _) (funext λr=> ?_);rw[cF (by simp;omega),cF (by omega)]
 ·unfold kP;dsimp only;rw[if_neg (by omega)]
 ·unfold oP;dsimp only;rw[if_pos (by omega),cF (by omega)];refine congrArg (Option.bind _) (funext λq=> ?_);have:j<1000000:=by
   have i:k<g.2.length:=by omega
   have:=h.sh.w.row k i;have:=(e.node k i).deg;omega
  rw[cF (by simp;omega),cV this]
 ·unfold oP yW;dsimp only;rw[if_neg (by omega),cF (by simp;omega),cV (by omega)]
 ·rfl
theorem aec (b:VG g) (c:gR g p.2.1) (i:p.2.2.map sO=BE R) (d:kJ p.2.1.length R=true) (cap:Int) (y:AZ) (e:l.length<=900):Cy 1000 p g cap y l=some (Ps g p.2.1 (ML (dO p g) p.2.1 R) cap y l):=by
 unfold Cy Ps;rw[bH (show xM 1000 _ _ _ _=_ from Xy b c cap y)];by_cases a:1<=cap/\cap<=8
 rotate_left
 ·rw[if_neg a,if_neg a];rfl
 rw[if_pos a,if_pos a];cases f:MM g p.2.1 cap y
 ·rfl
 obtain⟨_,h⟩:=FS.1 f;rw[if_pos Z,if_neg (by decide),if_neg (by omega),if_pos Z,bH (show jC 1000 _ _ _ _=_ from JM b c (by omega) h cap)];exact YQ b c i d a Z Z Z h e
theorem abF (b:VG g) (c:gR g p.2.1) (d:p.2.2.map sO=BE R) (a:kJ p.2.1.length R=true) (cap:Int) (y:AZ) (e:Int×Int×Int):Ak 1000 p g cap y e=some (Ps g p.2.1 (ML (dO p g) p.2.1 R) cap y [e]):=by
 unfold Ak;rw[bH (show Cy 1000 _ _ _ _ [e]=_ from aec b c d a cap y (by simp))]
def enR (S:Ls) (g:GR) (R:List RL) (y:AZ):Nat:=sX (λv=>decide (0<=s_ S R (vw g y v) v)) g.2.length
theorem OP (hV:VG g) (hp:gR g p.2.1) (hz:p.2.2.map sO=BE R) (hR:kJ p.2.1.length R=true) {A:ZJ} (hA1:A.1=BO g p.2.1) (hA2:A.2.1=jH g g.2.length) (hA3:A.2.2.2.1=kZ g) (hA4:A.2.2.1=y.1) (hA5:A.2.2.2.2.1=y.2.1) {cp:Nat} (h:VY g p.2.1 cp y):
  bL (iU 1000 p g A) 1000 ((0:Int),(0:Int))=some ((enR (dO p g) g R y:Nat):Int):=by
 have h24:=hV.n24;have hvl:=hp.len;have lc:=h.sh.c;have la:=h.sh.a.len;let q:Nat->Bool:=λv=>decide (0<=s_ (dO p g) R (vw g y v) v);refine dJ (step:=iU 1000 p g A) (K:=some ((sX q g.2.length:Nat):Int)) g.2.length (λk=>(((sX q k:Nat):Int),(k:Int))) (λv ag hv=> ?_) (λag=> ?_) 1000 (by omega)
 rotate_left
 ·unfold iU wP wO;dsimp only;rw[if_neg (by omega)]
 have hdeg:=(hV.node v hv).deg;have hrow:at' g.2 (v:Int)=row g v:=rfl;have ra:=h.sh.a.row v hv;have hm:=Pd q (k:=v) (by omega);have hvw:=J_ hV h.sh hv h.all;have hcw:=Mg hvw.1 hvw.2;unfold iU;simp only[hA4];rw[if_pos (by omega),cF (by omega),cF (by omega)];refine(E_ (s:=rD 1000 p g A (((sX q v:Nat):Int),(v:Int)) ag) (K:=rC 1000 p g A (((sX q v:Nat):Int),(v:Int)) ag) hV h.sh hv (λi c ag2 hi hcl=> ?_) (λc ag2 hcl=> ?_)).trans ?_
 ·have hto:=tO hV hv hi;have hul:=(Bi hV hv hi).ul;have hl1:at' (row g v) (i:Int)=jM (row g v) i:=rfl;unfold rD;simp only[hrow,hl1,hto,hA5];rw[if_pos (by omega),cF (by omega),cF (by omega),cF (by omega),cF (by omega),cV (by omega),zAf]
 ·unfold rD;simp only[hrow];rw[if_neg (by omega)]
 ·unfold rC BL rB;simp only[hA2,hA3,hA1];rw[bH (show fP 1000 _ (vw g y v) (v:Int)=_ from Pr hV hcw.shape hv hz hR (BO g p.2.1)),cV (by omega)];show(if 0<=s_ (dO p g) R (vw g y v) v then _ else _)=_;cases hq:q v with
  |true=>
   rw[if_pos (zAx hq),cF (by omega),Sv hm (by omega)];simp only[sX,hq,if_true]
  |false=>
   rw[if_neg (of_decide_eq_false hq)];simp only[sX,hq];rfl
end
theorem TO (p q:bT) (h:p.length=q.length):BC p.length (λk=>decide (at' p (k:Int)=at' q (k:Int)))=decide (p=q):=by
 by_cases e:p=q
 ·subst e;rw[zA4 Z];exact pN.2 λk _=>zA4 Z
 ·rw[zA3 e];cases c:BC p.length (λk=>decide (at' p (k:Int)=at' q (k:Int)))
  ·rfl
  ·refine absurd (List.ext_getElem h λk a b=> ?_) e;have:=zAx (pN.1 c k a);rwa[kE a,kE b]at this
theorem eqL (p q:bT) (h:q.length<900):uY 1000 p q=some (decide (p=q)):=by
 unfold uY;by_cases a:p.length=q.length
 ·rw[if_neg (by omega),<-TO p q a,<-ifB];refine lI (λk b c=> ?_) (λb=> ?_) (by omega)
  ·unfold yM;rw[if_pos (by omega),cF (by omega),cF (by omega),cV (by omega)];by_cases e:at' p (k:Int)=at' q (k:Int)
   ·rw[if_neg (λh=>h e),zA4 e,if_pos Z]
   ·rw[if_pos e,zA3 e,if_neg (by decide)]
  ·unfold yM yL;rw[if_neg (by omega)]
 ·rw[if_pos (by omega),zA3 (λe=>a (by rw[e]))]
def kwB (g:GR) (y:AZ) (v i:Nat):Bool:=decide (nS y.2.1 v i=at' y.1 (zF g v i:Int))&&BC (nS y.2.2 v i).length λk=>decide (at' (nS y.2.2 v i) (k:Int)=at' y.1 (v:Int))
def knB (g:GR) (y:AZ):Bool:=BC g.2.length λv=>BC (row g v).length (kwB g y v)
section
variable {g:GR} {p:Fh} {R:List RL} {y:AZ}
theorem SL (hV:VG g) (hp:gR g p.2.1) (hz:p.2.2.map sO=BE R) (hR:kJ p.2.1.length R=true) (y:AZ):sT 1000 p g y=some (if MM g p.2.1 8 y=true then((enR (dO p g) g R y:Nat):Int)else 0):=by
 have h24:=hV.n24;unfold sT;rw[bH (show kG 1000 _ _ _ _=_ from Jn hV hp 8 y)];cases hy:MM g p.2.1 8 y
 ·rfl
 obtain⟨_,h⟩:=FS.1 hy;rw[if_neg (by decide),if_pos Z];rw[bH (show jC 1000 _ _ _ _=_ from JM hV hp (by omega) h 8)];exact OP hV hp hz hR Z Z Z Z Z h
theorem Pv (hV:VG g) (hp:gR g p.2.1) (hz:p.2.2.map sO=BE R) (hR:kJ p.2.1.length R=true) {A:ZJ} (hA1:A.1=BO g p.2.1) (hA2:A.2.1=jH g g.2.length) (hA3:A.2.2.2.1=kZ g) (hA4:A.2.2.1=y.1) (hA5:A.2.2.2.2.1=y.2.1) {cp:Nat} (h:VY g p.2.1 cp y):
  bL (iV 1000 p g A) 1000 ((0:Int),(0:Int))=some (decide (((enR (dO p g) g R y:Nat):Int)=0)):=by
 have h24:=hV.n24;have hvl:=hp.len;have lc:=h.sh.c;have la:=h.sh.a.len;let q:Nat->Bool:=λv=>decide (0<=s_ (dO p g) R (vw g y v) v);refine dJ (step:=iV 1000 p g A) (K:=some (decide (((sX q g.2.length:Nat):Int)=0))) g.2.length (λk=>(((sX q k:Nat):Int),(k:Int))) (λv ag hv=> ?_) (λag=> ?_) 1000 (by omega)
 rotate_left
 ·unfold iV wS wR;dsimp only;rw[if_neg (by omega)]
 have hdeg:=(hV.node v hv).deg;have hrow:at' g.2 (v:Int)=row g v:=rfl;have ra:=h.sh.a.row v hv;have hm:=Pd q (k:=v) (by omega);have hvw:=J_ hV h.sh hv h.all;have hcw:=Mg hvw.1 hvw.2;unfold iV;simp only[hA4];rw[if_pos (by omega),cF (by omega),cF (by omega)];refine(E_ (s:=rK 1000 p g A (((sX q v:Nat):Int),(v:Int)) ag) (K:=rH 1000 p g A (((sX q v:Nat):Int),(v:Int)) ag) hV h.sh hv (λi c ag2 hi hcl=> ?_) (λc ag2 hcl=> ?_)).trans ?_
 ·have hto:=tO hV hv hi;have hul:=(Bi hV hv hi).ul;have hl1:at' (row g v) (i:Int)=jM (row g v) i:=rfl;unfold rK;simp only[hrow,hl1,hto,hA5];rw[if_pos (by omega),cF (by omega),cF (by omega),cF (by omega),cF (by omega),cV (by omega),zAf]
 ·unfold rK;simp only[hrow];rw[if_neg (by omega)]
 ·unfold rH BM rE;simp only[hA2,hA3,hA1];rw[bH (show fP 1000 _ (vw g y v) (v:Int)=_ from Pr hV hcw.shape hv hz hR (BO g p.2.1)),cV (by omega)];show(if 0<=s_ (dO p g) R (vw g y v) v then _ else _)=_;cases hq:q v with
  |true=>
   rw[if_pos (zAx hq),cF (by omega),Sv hm (by omega)];simp only[sX,hq,if_true]
  |false=>
   rw[if_neg (of_decide_eq_false hq)];simp only[sX,hq];rfl
theorem Ts (hV:VG g) (hp:gR g p.2.1) (hz:p.2.2.map sO=BE R) (hR:kJ p.2.1.length R=true) (h:VY g p.2.1 8 y):wQ 1000 p g y ()=some (decide (((enR (dO p g) g R y:Nat):Int)=0)):=by
 unfold wQ;rw[bH (show jC 1000 _ _ _ _=_ from JM hV hp (by omega) h 8)];exact Pv hV hp hz hR Z Z Z Z Z h
theorem Tu (hV:VG g) (hp:gR g p.2.1) (hz:p.2.2.map sO=BE R) (hR:kJ p.2.1.length R=true) (y:AZ):sU 1000 p g y=some (MM g p.2.1 8 y&&(knB g y&&decide (((enR (dO p g) g R y:Nat):Int)=0))):=by
 have h24:=hV.n24;have hvl:=hp.len;unfold sU;rw[bH (show kG 1000 _ _ _ _=_ from Jn hV hp 8 y)];cases hy:MM g p.2.1 8 y
 ·rfl
 obtain⟨_,h⟩:=FS.1 hy;have lc:=h.sh.c;have la:=h.sh.a.len;have lw:=h.sh.w.len;rw[if_neg (by decide),zAs];have key:bL (gG 1000 p g y) 1000 0=if knB g y=true then some (decide (((enR (dO p g) g R y:Nat):Int)=0))else some false:=by
  refine lI (λv ag hv=> ?_) (λag=> ?_) (by omega)
  rotate_left
  ·unfold gG;rw[if_neg (by omega)];exact Ts hV hp hz hR h
  have hdeg:=(hV.node v hv).deg;have hrow:at' g.2 (v:Int)=row g v:=rfl;have rc:=h.rowc hv;have ra:=h.sh.a.row v hv;have rw':=h.sh.w.row v hv;unfold gG;rw[if_pos (by omega),cF (by omega)];refine lI (λi ag2 hi=> ?_) (λag2=> ?_) (by omega)
  rotate_left
  ·unfold jT wT;rw[hrow,if_neg (by omega),cV (by omega)]
  have hto:=tO hV hv hi;have hul:=(Bi hV hv hi).ul;have rcu:=h.rowc hul;have hwl:=h.cp v i hv hi;have hl1:at' (row g v) (i:Int)=jM (row g v) i:=rfl;have e1:at' (at' y.2.1 (v:Int)) (i:Int)=nS y.2.1 v i:=rfl;have e2:at' (at' y.2.2 (v:Int)) (i:Int)=nS y.2.2 v i:=rfl;unfold jT kwB;rw[hrow,if_pos (by omega),cF (by omega),cF (by omega),cF (by omega),hl1,hto,cF (by omega),e1,bH (eqL _ _ (by omega))];cases decide (nS y.2.1 v i=at' y.1 (zF g v i:Int))
  ·rfl
  rw[if_neg (by decide),cF (by omega),cF (by omega),zAs];refine Eq.trans (b:=if BC (nS y.2.2 v i).length (λk=>decide (at' (nS y.2.2 v i) (k:Int)=at' y.1 (v:Int)))=true then pT (i:Int) ag2 ()else some false) (lI (λk ag3 hk=> ?_) (λag3=> ?_) (by omega)) ?_
  ·unfold wU Aj;rw[e2,if_pos (by omega),cF (by omega)];dsimp only;rw[cF (by omega),bH (eqL _ _ (by omega)),bH Z];cases decide (at' (nS y.2.2 v i) (k:Int)=at' y.1 (v:Int))
   ·rw[if_pos (by decide),if_neg (by decide)];unfold mW rJ rI;rw[if_pos (by rw[zAa];omega)]
   ·rw[if_neg (by decide),if_pos (by decide),cV (by omega)]
  ·unfold wU;rw[e2,if_neg (by omega)]
  ·unfold pT mW rJ rI;rw[if_neg (show¬decide ((0:Int) <= -1)=true by decide),cV (by omega)]
 rw[key];cases knB g y<;>rfl
end
end Go.Proofs.YtflciafboapaaaaGreat
namespace Go.Proofs.YtflciafboapaaaaGreat
open Go.Sx
def xL (U:Nat) (a:fE) (b:cJ) (e:Int) (c:gX):Option (Int):=
 Option.bind (pQ U ((a.1,a.2.1,a.2.2)) ((b.1,b.2))) λf=>(if f≠(0:Int)then(some (f))else(Option.bind (iC U e (1:Int) (8:Int)) λg=>(if(!g)=true then(some (2:Int))else(Option.bind (kF U ((a.1,a.2.1,a.2.2)) ((b.1,b.2)) e ((c.1,c.2.1,c.2.2))) λd=>(if(!d)=true then(some (7:Int))else(some (0:Int)))))))
theorem adi:bB Tryz.prog 68:=Tryz.call68
theorem Nc (U:Nat) {a:fE} {n:cJ} {s:Int} {i:gX} (b d e f:V0) (q:kX) (j:V0) (t:nG) (k:V0) (u:CV) (m:V0) (g:CU) (r:Int) (h:xL U a n s i=some r):
  bE Tryz.prog 68 #[Value.agg #[vS (a.1),b,d],Value.agg #[e,f],vI (s),Value.agg #[j,k,m]] [Sl aE b a.2.1,Sl aD d a.2.2,PF (Value.agg #[vS a.1,b,d]),Sl aM e n.1,S2 aY f q n.2,S2 aM j t i.1,S3 aM k u i.2.1,S4 aM m g i.2.2] (λx:Unit=>vI (r)) (λx l=>l) (λ_ l=>l):=by
 refine bE.of Tryz.func68 Z Tryz.ntmps68 Z λc=>?_;refine aU<|aJ (aQ.box (cs:=[vS (a.1),b,d]) Z Z) Z λC=>aJ (aQ.box (cs:=[e,f]) Z Z) Z λD=>aJ (aQ.box (cs:=[j,k,m]) Z Z) Z λE=>aC Z<|aP<|aU<|cM 2 Z<|cM 1 Z<|eI h λv y h=>aJ (zBb TV (Ji U b d e f q v y) Z (iB [0,1,2,3,4] Z)) Z λF=>aC Z<|aP<|aN<|aT<|aU<|aA Z<|lB Z<|aC Z<|aP ?_;refine eG h Z (λh=>?_) λh=>?_
 ·refine aU<|aA Z<|aC Z<|aP<|aS<|bF<|aG ?_;cases h;exact mO Z
 refine aU<|aA Z<|eI h λw z h=>aJ (zBb uQ (jL U w z) Z .nil) Z λA=>aB (jG Z) Z<|aC Z<|aP ?_;refine rR h Z (λ_ h=>?_) λ_ h=>?_
 ·refine aU<|aC Z<|aP<|aS<|bF<|aG ?_;cases h;exact mO Z
 refine aU<|cM 2 Z<|cM 1 Z<|aA Z<|cM 0 Z<|eI h λo p h=>aJ (zBb OH (Cn U b d e f q j t k u m g o p) Z (iB [0,1,2,3,4,5,6,7] Z)) Z λB=>aB (jG Z) Z<|aC Z<|aP ?_;refine rR h Z (λ_ h=>?_) λ_ h=>?_
 ·refine aU<|aC Z<|aP<|aS<|bF<|aG ?_;cases h;exact mO Z
 refine dW<|lA<|aU<|aC Z<|aP<|aS ?_;cases h;exact mO Z
end Go.Proofs.YtflciafboapaaaaGreat