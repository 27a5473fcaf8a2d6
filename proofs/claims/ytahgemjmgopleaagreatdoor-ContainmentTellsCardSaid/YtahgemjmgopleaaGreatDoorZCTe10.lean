/- Models and proofs. Conditions: none. -/
import Derived.Test.YtahgemjmgopleaaGreatDoorZCTe5
import Derived.Test.YtahgemjmgopleaaGreatDoorZCTe8
import Derived.Test.YtahgemjmgopleaaGreatDoorZCTe7
import Derived.Test.YtahgemjmgopleaaGreatDoorZCTe6
import Derived.Test.YtahgemjmgopleaaGreatDoorZCTe2
import Derived.Test.YtahgemjmgopleaaGreatDoorZCTe9
set_option linter.unusedVariables false
set_option linter.unusedSimpArgs false
set_option maxHeartbeats 4000000
set_option maxRecDepth 20000
namespace Go.Proofs.YtahgemjmgopleaaGreatDoor
open Go.Sx
def DL  (a:VR):Option BY:=
 some (((a.2.2.2.2.2.2.1,a.2.2.2.2.2.2.2.1,a.2.2.2.2.2.2.2.2,((a.1,a.2.1,a.2.2.1,a.2.2.2.1,a.2.2.2.2.1)))),a.2.2.2.2.2.1)
def Bq  (a:aX×aX×bO×Int×Int×Int×Int×Int×Int):Option BY:=
 DL  (a.2.2.2.1,a.2.2.2.2.1,a.2.2.2.2.2.1,a.2.2.2.2.2.2.1,a.2.2.2.2.2.2.2.1,a.2.2.2.2.2.2.2.2,a.1,a.2.1,a.2.2.1)
def xL  (a:aX×Int×Int×Int×Int×Int×bO×aX):Option BY:=
 Bq  (a.2.2.2.2.2.2.2,a.1,a.2.2.2.2.2.2.1,a.2.1,a.2.2.1,a.2.2.2.1,a.2.2.2.2.1,a.2.2.2.2.2.1,(0:Int))
def DN (U:Nat) (f:jC) (j:cW) (l:Int) (c:Int×aX×h_×Int×bO) (a:Int×aX×Int×Int×Int×Int×Int×Int×bO×aX) (h:(Int×aX×Int×Int×Int×Int×Int×Int×bO×aX)->Option BY) (d:Int):Option BY:=
 if¬(a.1≠(0:Int))then(xL  (a.2.1,a.2.2.2.1,a.2.2.2.2.1,a.2.2.2.2.2.1,a.2.2.2.2.2.2.1,a.2.2.2.2.2.2.2.1,a.2.2.2.2.2.2.2.2.1,a.2.2.2.2.2.2.2.2.2))else(Option.bind (gO U c.2.1 l a.1 d) λi=>(if(!i)=true then(Bq  (([]:aX),([]:aX),([]:bO),(0:Int),(0:Int),(0:Int),(0:Int),(0:Int),(11:Int)))else(Option.bind (j_ U ((((f.1,f.2.1,f.2.2)),((((f.1,f.2.1,f.2.2)),((j.1,j.2)),c.2.2.2.1,c.2.2.2.2)),c.2.2.1)) a.2.2.2.2.2.2.2.2.1 d) λg=>(Option.bind (fM U ((((f.1,f.2.1,f.2.2)),((((f.1,f.2.1,f.2.2)),((j.1,j.2)),c.2.2.2.1,c.2.2.2.2)),c.2.2.1)) g) λe=>(Option.bind (jI U ((a.2.2.2.1,a.2.2.2.2.1,a.2.2.2.2.2.1,a.2.2.2.2.2.2.1,a.2.2.2.2.2.2.2.1)) d (eG .u32 e c.1)) λb=>(Option.bind (vQ U g (eG .u32 e c.1) ((b.1.1,b.1.2.1,b.1.2.2.1,b.1.2.2.2.1,b.1.2.2.2.2))) λk=>(ck ((a.2.2.2.2.2.2.2.2.2.length:Int)+(List.length ([d]):Int)<=1099511627) (ck ((a.2.1.length:Int)+(List.length ([(eG .u32 e c.1)]):Int)<=1099511627) (h ((eG .u32 e c.1),(a.2.1++([(eG .u32 e c.1)])),(wI .i64 (a.2.2.1+(1:Int))),b.1.1,b.1.2.1,b.1.2.2.1,b.1.2.2.2.1,b.1.2.2.2.2,g,(a.2.2.2.2.2.2.2.2.2++[d])))))))))))
def xN (U:Nat) (g:jC) (h:cW) (f:Int) (e:aX) (c:Int×aX×h_×Int×bO) (a:Int×aX×Int×Int×Int×Int×Int×Int×bO×aX) (b:(Int×aX×Int×Int×Int×Int×Int×Int×bO×aX)->Option BY):Option BY:=
 if a.2.2.1<(e.length:Int)then(ck (0<=a.2.2.1∧a.2.2.1<(e.length:Int)) (Option.bind (eK U c.2.1 f a.1 (at' e a.2.2.1)) λd=>(DN U g h f c a b (d))))else(xL  (a.2.1,a.2.2.2.1,a.2.2.2.2.1,a.2.2.2.2.2.1,a.2.2.2.2.2.2.1,a.2.2.2.2.2.2.2.1,a.2.2.2.2.2.2.2.2.1,a.2.2.2.2.2.2.2.2.2))
def DK (U:Nat) (d:jC) (f:cW) (g:Int) (h:bO) (i:aX) (b:Int×aX×h_×Int×bO):Option BY:=
 Option.bind (wW U h) λe=>(Option.bind (fM U ((((d.1,d.2.1,d.2.2)),((((d.1,d.2.1,d.2.2)),((f.1,f.2)),b.2.2.2.1,b.2.2.2.2)),b.2.2.1)) e) λc=>(Option.bind (xY U (eG .u32 c b.1)) λa=>(Option.bind (vQ U e (eG .u32 c b.1) ((a.1,a.2.1,a.2.2.1,a.2.2.2.1,a.2.2.2.2))) λj=>(ck ((List.length ([]:aX):Int)+(List.length ([(eG .u32 c b.1)]):Int)<=1099511627) (bK (xN U d f g i b) U ((eG .u32 c b.1),(([]:aX)++([(eG .u32 c b.1)])),(0:Int),a.1,a.2.1,a.2.2.1,a.2.2.2.1,a.2.2.2.2,e,([]:aX)))))))
def Br (U:Nat) (e:jC) (b:cW) (f:Int) (g:bO) (h:aX) (a:h_×Int×bO):Option BY:=
 Option.bind (pL U ((b.1,b.2))) λc=>(Option.bind (BH U ((b.1,b.2))) λd=>(DK U e b f g h (d,c,a.1,a.2.1,a.2.2)))
def Bt (U:Nat) (c:jC) (d:cW) (e:Int) (f:bO) (g:aX) (a:Int×bO):Option BY:=
 Option.bind (oM U ((c.1,c.2.1,c.2.2)) ((d.1,d.2))) λb=>(Br U c d e f g (b,a.1,a.2))
def xM (U:Nat) (b:jC) (c:cW) (d:Int) (e:bO) (f:aX) (a:Int×bO):Option BY:=
 Bt U b c d e f (a.1,a.2)
def Bu (d:cW) (a:Int×Int×bO) (b:(Int×Int×bO)->Option BY) (c:bO):Option BY:=
 b ((wI .i64 (a.1+(1:Int))),(max a.2.1 (at' d.1 a.1)),c)
def tC (U:Nat) (f:cW) (a:Int×Int×bO) (d:(Int×Int×bO)->Option BY) (b:Int×bO) (e:(Int×bO)->Option BY):Option BY:=
 if b.1<((at' f.2 a.1).length:Int)then(ck (0<=b.1∧b.1<((at' f.2 a.1).length:Int)) (ck (0<=a.1∧a.1<(b.2.length:Int)) (Option.bind (uJ U ((f.1,f.2)) ((at' (at' f.2 a.1) b.1).1) a.1) λc=>(ck (((at' b.2 a.1).length:Int)+(List.length ([c]):Int)<=1099511627) (ck (0<=a.1∧a.1<((List.set b.2 (Int.toNat a.1) ((at' b.2 a.1)++[c])).length:Int)) (e ((wI .i64 (b.1+(1:Int))),(List.set b.2 (Int.toNat a.1) ((at' b.2 a.1)++[c])))))))))else(Bu f a d (b.2))
def nS (U:Nat) (d:jC) (c:cW) (e:Int) (f:bO) (g:aX) (a:Int×Int×bO) (b:(Int×Int×bO)->Option BY):Option BY:=
 if a.1<(c.2.length:Int)then(ck (0<=a.1∧a.1<(c.2.length:Int)) (ck (0<=a.1∧a.1<(c.1.length:Int)) (bK (tC U c a b) U ((0:Int),a.2.2))))else(xM U d c e f g (a.2.1,a.2.2))
def iC (U:Nat) (b:jC) (a:cW) (c:Int) (d:bO) (e:aX):Option BY:=
 Option.bind (rW U ((b.1,b.2.1,b.2.2)) ((a.1,a.2)) c d (e.length:Int)) λf=>(if f≠(0:Int)then(some (((([]:aX),([]:aX),([]:bO),(((0:Int),(0:Int),(0:Int),(0:Int),(0:Int))))),f))else(ck (0<=(a.2.length:Int)∧(a.2.length:Int)<=1099511627) (bK (nS U b a c d e) U ((0:Int),(0:Int),(List.replicate (Int.toNat (a.2.length:Int)) ([]:aX))))))
theorem Yo:aV Tryz.prog 22:=Tryz.call22
theorem Jb (U:Nat) {n:jC} {C:cW} {R:Int} {p3:bO} {p4:aX} (p:Value)  (q:Value)  (v:Value)  (t:Value)  (z4:iX)  (v5:Value)  (z6:lU)  (v7:Value) (r:VQ) (h:iC U n C R p3 p4=some r):
  aW Tryz.prog 22 #[Value.agg #[vS (n.1),p,q],Value.agg #[v,t],vI (R),v5,v7] [Sl aP p n.2.1,Sl aJ q n.2.2,PF (Value.agg #[vS n.1,p,q]),Sl bX v C.1,S2 bD t z4 C.2,S2 bX v5 z6 p3,Sl wR v7 p4,Gb 0 (cellsOf J_ Au)] (λx:Kn=>Value.tuple #[Value.agg #[x.1,x.2.1,x.2.2.1,vI (r.1.2.2.2.1),vI (r.1.2.2.2.2.1),vI (r.1.2.2.2.2.2.1),vI (r.1.2.2.2.2.2.2.1),vU (r.1.2.2.2.2.2.2.2)],vI (r.2)]) (λx l=>Ar fG x.1 r.1.1::Ar fG x.2.1 r.1.2.1::Ar fE.raw x.2.2.1 x.2.2.2::k_ cS x.2.2.2 r.1.2.2.1::l) (λ_ l=>l):=by
 refine aW.of Tryz.func22 Z Tryz.ntmps22 Z λc=>?_;refine aR<|aH (aN.box (cs:=[vS (n.1),p,q]) Z Z) Z λb1=>aH (aN.box (cs:=[v,t]) Z Z) Z λb2=>aH (aN.alloc (cs:=FC) Z Z) Z λb3=>aB Z<|aL<|aK<|aR<|cM 2 Z<|cM 1 Z<|aA Z<|aA Z<|aA Z<|iF (aD.fact 6 Z) Z<|dZ h λr4 w5 h=>aH (zBg aeA (Sk U p q v t z4 v5 z6 r4 w5) Z (jP [0,1,2,3,4,5] Z)) Z λx6=>aB Z<|aL<|aR<|aA Z<|jQ Z<|aL ?_;refine d_ h Z (λh=>?_) λh=>?_
 ·refine aR ?_;refine aC (Cv (r:=Value.agg #[lL,lL,lL,vI (0:Int),vI (0:Int),vI (0:Int),vI (0:Int),vU (0:Int)]) (by intro w;simp[Instr.build,Instr.fill,cT,b_,bW,cU,cV,cA,dJ])) Z ?_;refine aA Z<|bF 0 (vs:=FC) Z Z Z Z Z Z<|aB Z<|aL<|aQ<|aI<|gF (cK fG)<|gF (cK fG)<|gF (cK fE.raw) (gF (mD cS) ?_);cases h;exact eD ((lL),(lL),(lL),([]:gV)) Z Z (RV.cell 4 Z Z Z Z) (RV.tmp Z) (bA.ix [2,3,1,0] Z Z) aG.nil
 refine cE<|aR<|cM 2 Z<|cM 1 Z<|aA Z<|HE (A:=Int×aX×h_×Int×bO) (B:=Nat×Value×Nat×Value×List Value×Value×List Value) (vs:=[Value.agg #[vS (n.1),p,q],Value.agg #[v,t],vI (R),Value.func (.func 53) #[] #[]]) (λd=>DK U n C R p3 p4 d=some r) (λd a=>Value.agg #[vP a.1,a.2.1,vI (R),vU (d.1),Value.func (.func 53) #[] #[]]) (λd a=>[Ar fG a.2.1 d.2.1,cJ a.1 [vS (n.1),p,q,vP a.2.2.1,a.2.2.2.1] 183,Ar fE.raw a.2.2.2.1 a.2.2.2.2.1,k_ dO a.2.2.2.2.1 d.2.2.1,cJ a.2.2.1 [vS (n.1),p,q,v,t,vI (d.2.2.2.1),a.2.2.2.2.2.1] 224,Ar fE.raw a.2.2.2.2.2.1 a.2.2.2.2.2.2,k_ cS a.2.2.2.2.2.2 d.2.2.2.2,cJ b3 FC 55]) (λd a=>[Sl aP p n.2.1,Sl aJ q n.2.2,PF (Value.agg #[vS n.1,p,q]),Sl bX v C.1,S2 bD t z4 C.2,S2 bX v5 z6 p3,Sl wR v7 p4,Gb 0 (cellsOf J_ Au)]) (Ca.fn (show aV Tryz.prog 52 from Tryz.call52) Z) Tryz.func52 Z Tryz.ntmps52 Z Z ?_ ?_
 ·refine aR<|aH (aN.box (cs:=[vS (n.1),p,q]) Z Z) Z λW=>aH (aN.box (cs:=[v,t]) Z Z) Z λX=>aH (aN.alloc (cs:=vD3) Z Z) Z λaa=>aL<|aK ?_;refine JR.start [0,0,3,0,15,0,0,95,0,511,1023] 9 mixedOrders (by decide +kernel) ?_;refine zBj (by exact rfl) ?_;refine gK 2 Z<|gK 1 Z<|Uy (A:=h_×Int×bO) (B:=Nat×Nat×Value×List Value×Value×List Value) (vs:=[Value.agg #[vS (n.1),p,q],Value.agg #[v,t]]) (λI=>Br U n C R p3 p4 I=some r) (λI m=>vP m.1) (λI m=>[cJ m.1 [vS (n.1),p,q,vP m.2.1,m.2.2.1] 183,Ar fE.raw m.2.2.1 m.2.2.2.1,k_ dO m.2.2.2.1 I.1,cJ m.2.1 [vS (n.1),p,q,v,t,vI (I.2.1),m.2.2.2.2.1] 224,Ar fE.raw m.2.2.2.2.1 m.2.2.2.2.2,k_ cS m.2.2.2.2.2 I.2.2,cJ aa vD3 93,cJ X [v,t] 29,cJ W [vS (n.1),p,q] 36,cJ b3 FC 55]) (λI m=>[Sl aP p n.2.1,Sl aJ q n.2.2,PF (Value.agg #[vS n.1,p,q]),Sl bX v C.1,S2 bD t z4 C.2,S2 bX v5 z6 p3,Sl wR v7 p4,Gb 0 (cellsOf J_ Au)]) Z Z Z (Ca.fn (show aV Tryz.prog 88 from Tryz.call88) Z) Tryz.func88 Z Tryz.ntmps88 Z Z (λ_ _=>(kG [] Z)) ?_ ?_
  ·refine aR<|aH (aN.box (cs:=[vS (n.1),p,q]) Z Z) Z λae=>aH (aN.box (cs:=[v,t]) Z Z) Z λaf=>aB Z<|aL<|aK ?_;refine JR.start [0,0,0,6,0,0,62,127,255,511] 7 mixedOrders (by decide +kernel) ?_;refine zBj (by exact rfl) ?_;refine gK 1 Z<|gK 1 Z<|gK 0 Z<|Uy (A:=Int×bO) (B:=Nat×Value×List Value) (vs:=[Value.agg #[vS (n.1),p,q],Value.agg #[v,t]]) (λM=>Bt U n C R p3 p4 M=some r) (λM y=>vP y.1) (λM y=>[cJ y.1 [vS (n.1),p,q,v,t,vI (M.1),y.2.1] 224,Ar fE.raw y.2.1 y.2.2,k_ cS y.2.2 M.2,cJ af [v,t] 29,cJ ae [vS (n.1),p,q] 36,cJ aa vD3 93,cJ X [v,t] 29,cJ W [vS (n.1),p,q] 36,cJ b3 FC 55]) (λM y=>[Sl aP p n.2.1,Sl aJ q n.2.2,PF (Value.agg #[vS n.1,p,q]),Sl bX v C.1,S2 bD t z4 C.2,S2 bX v5 z6 p3,Sl wR v7 p4,Gb 0 (cellsOf J_ Au)]) Z Z Z (Ca.fn (show aV Tryz.prog 130 from Tryz.call130) Z) Tryz.func130 Z Tryz.ntmps130 Z Z (λ_ _=>(kG [([4],[])] Z)) ?_ ?_
   ·refine aR<|aH (aN.box (cs:=[vS (n.1),p,q]) Z Z) Z λco=>aH (aN.box (cs:=[v,t]) Z Z) Z λab=>aB Z<|aL<|aK ?_;refine JR.start [0,0,0,4,12,28,63,127,255] 6 mixedOrders (by decide +kernel) ?_;refine zBj (by exact rfl) ?_;refine gK 1 Z<|gK 0 Z<|cB Z<|fD 0 Z<|bM Z .nil (kH 4 Z) (gM Z (aD.fact 0 Z) Z) aU.z<|dW h λbw h=>JR.stp (BB cS (Int.toNat (C.2.length:Int)))<|zBh Z Z Z (r_ (e:=fE.raw) (lL) Z Z Z Z bw Z Z Z) Z (λF=>(kG [([2],[]),([3],[])] Z)) λF=>bP 6 Z Z<|bE (Know.one (aD.sl (bB (i:=0) (j:=1) Z Z dD))) λbg=>?_;refine aC (Tm (r:=Value.agg #[vS (n.1),p,q,v,t,vI (0:Int),F]) Z Z Z (by intro w;simp[Instr.build,Instr.fill,cT,b_,bW,cU,cV,cA,dJ,cI bg])) Z ?_;refine aH (aN.box (cs:=[vS (n.1),p,q,v,t,vI (0:Int),F]) Z Z) Z λN=>aB Z<|aL<|aK<|CM (B:=gV) (λO=>xM U n C R p3 p4 O=some r) (λO ag=>[(5,vP N)]) (λO ag=>[cJ N [vS (n.1),p,q,v,t,vI (O.1),F] 224,Ar fE.raw F ag,k_ cS ag O.2,cJ af [v,t] 29,cJ ae [vS (n.1),p,q] 36,cJ aa vD3 93,cJ X [v,t] 29,cJ W [vS (n.1),p,q] 36,cJ b3 FC 55]) ?_ ?_
    ·refine aR<|bN Z<|dL 3 Z<|aC (gM Z (aD.fact 4 Z) Z) Z<|aA Z<|aL<|aS<|eB (B:=gV) (nS U n C R p3 p4) (λf ac=>[(3,vP ab),(5,vP N),(19,t),(20,vI (C.2.length:Int)),(21,vI (f.1))]) (λf ac=>[cJ N [vS (n.1),p,q,v,t,vI (f.2.1),F] 224,Ar fE.raw F ac,k_ cS ac f.2.2,cJ ab [v,t] 29,cJ af [v,t] 29,cJ ae [vS (n.1),p,q] 36,cJ aa vD3 93,cJ X [v,t] 29,cJ W [vS (n.1),p,q] 36,cJ b3 FC 55]) ((0:Int),(0:Int),(List.replicate (Int.toNat (C.2.length:Int)) ([]:aX))) (List.replicate (Int.toNat (C.2.length:Int)) (lL)) h SF (bA.ix [0,1,2,3,5,6,7,8,9,10] Z Z) ?_;intro a0 f ac h;refine aR<|cZ Z<|aL<|aK ?_;refine d_ h Z (λh=>?_) λh=>?_
     ·refine cE<|aK<|CM (B:=gV) (λV=>Bu C f (bK (nS U n C R p3 p4) a0) V=some r) (λV ah=>[(3,vP ab),(5,vP N),(19,t),(20,vI (C.2.length:Int)),(21,vI (f.1))]) (λV ah=>[cJ N [vS (n.1),p,q,v,t,vI (max f.2.1 (at' C.1 f.1)),F] 224,Ar fE.raw F ah,k_ cS ah V,cJ ab [v,t] 29,cJ af [v,t] 29,cJ ae [vS (n.1),p,q] 36,cJ aa vD3 93,cJ X [v,t] 29,cJ W [vS (n.1),p,q] 36,cJ b3 FC 55]) ?_ ?_
      ·refine aS<|aR<|aA Z<|dW h λP h=>aC (cY Z Z (aD.fact 4 Z) Z Z P) Z<|aC (cL Z (aD.fact 4 Z) Z Z P) Z<|aB Z<|aB Z<|aL<|aK ?_;refine JR.start [0,0,2,6,14,0,32,0,224,480,1022,2047,4095,8191] 11 mixedOrders (by decide +kernel) ?_;refine zBj (by exact rfl) ?_;refine aY Z<|aY Z<|iY Z (dB Z)<|cB Z<|fD 0 Z<|cB Z<|fD 3 Z<|aY Z<|dW h λaF h=>bM Z .nil (kH 3 Z) (a_ Z Z (aD.fact 0 Z) Z Z aF) aU.z<|bM Z .nil (kH 3 Z) (bY Z (aD.fact 0 Z) Z Z Z eH aF) aU.z<|iY Z (DZ Z Z)<|bP 11 Z Z<|aC (dB Z) Z<|bN Z<|gJ 0 Z Z Z Z Z Z<|aL<|aR<|aA Z<|aC (fX Z (zBi (aD.fact 4 Z) P.1 P.2) Z) Z<|aA Z<|aL<|aS<|eB (B:=gV) (tC U C f (bK (nS U n C R p3 p4) a0)) (λE ad=>[(3,vP ab),(5,vP N),(6,vI (f.1)),(19,t),(20,vI (C.2.length:Int)),(21,vI (f.1)),(39,(at' z4 f.1).1),(40,vI ((at' C.2 f.1).length:Int)),(41,vI (E.1))]) (λE ad=>[cJ N [vS (n.1),p,q,v,t,vI (max f.2.1 (at' C.1 f.1)),F] 224,Ar fE.raw F ad,k_ cS ad E.2,cJ ab [v,t] 29,cJ af [v,t] 29,cJ ae [vS (n.1),p,q] 36,cJ aa vD3 93,cJ X [v,t] 29,cJ W [vS (n.1),p,q] 36,cJ b3 FC 55]) ((0:Int),f.2.2) (ac) h SF (bA.refl _) ?_;intro cq E ad h;refine aR<|cZ Z<|aL<|aK ?_;refine d_ h Z (λh=>?_) λh=>?_
       ·refine cE<|aK<|aS<|aR<|dW h λaM h=>aC (a_ Z Z (zBi (aD.fact 4 Z) P.1 P.2) Z Z aM) Z<|aC (jT (cs:=[vI ((at' (at' C.2 f.1) E.1).1),vI ((at' (at' C.2 f.1) E.1).2)]) Z (zBi (aD.fact 4 Z) P.1 P.2) cG Z Z Z Z aM) Z<|aH (aN.alloc (cs:=XA) Z Z) Z λcp=>bF 0 (vs:=[vI ((at' (at' C.2 f.1) E.1).1),vI ((at' (at' C.2 f.1) E.1).2)]) Z Z Z Z Z Z<|aL ?_;refine JR.start [0,1,3,7,0,0,32,96,224,0,992,2016,0,0,8192,0,61440,126976,262112,524287,1048575] 19 mixedOrders (by decide +kernel) ?_;refine zBj (by exact rfl) ?_;refine aY Z<|iY Z (dB Z)<|cB Z<|fD 1 Z<|aY Z<|aY Z<|iY Z (dB Z)<|cB Z<|fD 1 Z<|aY Z<|dW h λao h=>gG (eT 3 Z) λa6=>?_;refine bM Z (bA.cons 2 Z .nil) .nil (lD 0 Z Z Z Z Z ao.1 (by have q1:=ao.2;have q2:=a6;(try simp only[zA2]at q1);(try simp only[zA2]at q2);(try simp only[zA2]);omega)) aU.z ?_;refine gG (eT 3 Z) λa7=>bM Z (bA.cons 2 Z .nil) .nil (qV 0 Z Z a7 Z Z ao) aU.z<|gK 4 Z<|cB Z<|fD 0 Z<|aY Z<|dZ h λai ca h=>zBh Z Z Z (zBg abJ (Mv U v t z4 ai ca) Z (jP [3,4] Z)) Z (λce=>(kG [([2],[]),([2],[]),([1],[]),([1],[])] Z)) λce=>zBh Z Z Z (bT (e:=cS) ([ai]) [(0,vI (ai))] Z Z Z Z (eV (vI (ai)) Z) Z Z Z) Z (λbQ=>(kG [([3],[]),([3],[]),([2],[]),([2],[])] Z)) λbQ=>dW h λbx h=>zBh Z Z Z (sI 4 dD Z Z Z (aT (aD.res 0 Z) dD) Z Z Z Z ao bx Z) Z (λa4=>(kG [([2],[])] Z)) λa4=>bP 19 Z Z<|dW h λQ h=>bE (eT 4 Z) λa8=>?_;refine aC (lD 3 Z Z Z Z Z Q.1 (by have q1:=Q.2;have q2:=a8;(try simp only[zA2]at q1);(try simp only[zA2]at q2);(try simp only[zA2]);omega)) Z ?_;refine bE (Dc 4 (k:=f.1) Z ⟨Q.1,by first|exact Q.2|simpa using Q.2⟩) λbh=>?_;refine qD 3 4 ⟨Q.1,by first|exact Q.2|simpa using Q.2⟩ Z Z Z Z Z (by simp) bh Z ?_;refine eN<|jH<|aO<|cD Z<|aA Z<|aL ?_;exact nC ((wI .i64 (E.1+(1:Int))),(List.set E.2 (Int.toNat f.1) ((at' E.2 f.1)++[ai]))) (List.set ad (Int.toNat f.1) a4) h SF (bA.ix [2,3,4,5,6,7,8,9,10,11] Z Z) (aG.refl _ _)
       refine qC<|eZ<|eZ<|wQ<|jH ?_;exact eW (E.2) (ad) h SF Z
      intro V ah h;unfold Bu at h;refine aO<|cD Z<|aA Z<|aL ?_;exact tV ((wI .i64 (f.1+(1:Int))),(max f.2.1 (at' C.1 f.1)),V) (ah) h SF Z
     refine eS ?_;exact bU (f.2.1,f.2.2) (ac) h SF (bA.ix [0,1,2,4,5,6,7,8,9] Z Z) (aG.refl _ _)
    intro O ag h;unfold xM at h;refine aR<|aA Z<|aB Z<|aL<|aQ ?_;exact Dp (O.1,O.2) (N,F,ag) h (.inl Z) (MX.r1 Z (RV.tmp Z)) Z (bA.refl _) (aG.refl _ _)
   intro M y h;unfold Bt at h;refine bM Z (bA.cons 4 Z .nil) .nil (lN 0 Z Z Z Z) (aU.h (bA.ix [1] Z Z) .nil aU.z)<|bM Z (bA.cons 3 Z .nil) .nil (lN 0 Z Z Z Z) (aU.h (bA.ix [0] Z Z) .nil aU.z)<|dZ h λa3 b9 h=>zBh Z Z Z (zBg UK (Gk U p q v t z4 a3 b9) Z (jP [0,1,2,3,4] Z)) Z (λaj=>(kG [([6],[])] Z)) λaj=>bP 7 Z Z<|bE (Know.one (aD.sl (bB (i:=0) (j:=1) Z Z cG))) λbf=>?_;refine aC (Tm (r:=Value.agg #[vS (n.1),p,q,Value.pointer (some ⟨y.1,0,none⟩),aj.1]) Z Z Z (by intro w;simp[Instr.build,Instr.fill,cT,b_,bW,cU,cV,cA,dJ,cI bf])) Z ?_;refine aH (aN.box (cs:=[vS (n.1),p,q,vP y.1,aj.1]) Z Z) Z λbi=>aB Z<|aL<|aQ ?_;exact Dp (a3,M.1,M.2) (bi,y.1,aj.1,aj.2,y.2.1,y.2.2) h (.inl Z) (MX.r1 Z (RV.tmp Z)) Z (bA.ix [0,1,2,3,4,5,8,9,10,11] Z Z) (aG.refl _ _)
  intro I m h;unfold Br at h;refine bM Z (bA.cons 7 Z .nil) .nil (lN 0 Z Z Z Z) (aU.h (bA.ix [1] Z Z) .nil aU.z)<|dZ h λa2 b7 h=>zBh Z Z Z (zBg aeO (Kv U v t z4 a2 b7) Z (jP [3,4] Z)) Z (λar=>(kG [] Z)) λar=>iY Z (oC Z)<|bM Z (bA.cons 8 Z .nil) .nil (lN 0 Z Z Z Z) (aU.h (bA.ix [7] Z Z) .nil (aU.h (bA.ix [1] Z Z) .nil aU.z))<|dZ h λaq b8 h=>zBh Z Z Z (zBg aeP (Si U v t z4 aq b8) Z (jP [3,4] Z)) Z (λcd=>(kG [] Z)) λcd=>iY Z (oC Z)<|bP 9 Z Z<|bE (Know.one ((aT (aD.res 0 Z) cP))) λbd=>?_;refine aC (Y.bld5 (r:=Value.agg #[Value.pointer (some ⟨m.1,0,none⟩),ar,vI (R),vU (aq),Value.func (.func 53) #[] #[]]) Z Z Z Z Z (by intro w;simp[Instr.build,Instr.fill,cT,b_,bW,cU,cV,cA,dJ,cI bd])) Z ?_;refine bE (Know.one ((aT (aD.res 0 Z) cP))) λbe=>bF 7 (vs:=[vP m.1,ar,vI (R),vU (aq),Value.func (.func 53) #[] #[]]) Z Z (bR Z (bR be (bR Z (bR Z (bR Z Z))))) Z Z Z<|aL<|aQ ?_;exact Dp (aq,a2,I.1,I.2.1,I.2.2) (m.1,ar,m.2.1,m.2.2.1,m.2.2.2.1,m.2.2.2.2.1,m.2.2.2.2.2) h (.inl Z) (MX.r1 Z (RV.cell 7 Z Z Z Z)) Z (bA.ix [0,1,2,3,4,5,6,10] Z Z) (aG.refl _ _)
 intro d a h;refine aA Z<|aA Z<|HE (A:=VR) (B:=Kn) (vs:=[Value.agg #[vP a.1,a.2.1,vI (R),vU (d.1),Value.func (.func 53) #[] #[]],v5,v7]) (λD=>DL  D=some r) (λD G=>Value.tuple #[Value.agg #[G.1,G.2.1,G.2.2.1,vI (D.1),vI (D.2.1),vI (D.2.2.1),vI (D.2.2.2.1),vU (D.2.2.2.2.1)],vI (D.2.2.2.2.2.1)]) (λD G=>[cJ b3 FC 55,Ar fG G.1 D.2.2.2.2.2.2.1,Ar fG G.2.1 D.2.2.2.2.2.2.2.1,Ar fE.raw G.2.2.1 G.2.2.2,k_ cS G.2.2.2 D.2.2.2.2.2.2.2.2]) (λD G=>[Sl aP p n.2.1,Sl aJ q n.2.2,PF (Value.agg #[vS n.1,p,q]),Sl bX v C.1,S2 bD t z4 C.2,S2 bX v5 z6 p3,Sl wR v7 p4,Gb 0 (cellsOf J_ Au)]) (Ca.fn (show aV Tryz.prog 54 from Tryz.call54) Z) Tryz.func54 Z Tryz.ntmps54 Z Z ?_ ?_
 ·refine aR<|aH (aN.box (cs:=[vP a.1,a.2.1,vI (R),vU (d.1),Value.func (.func 53) #[] #[]]) Z Z) Z λak=>bE (Know.one ((aD.fact 6 Z))) λbm=>?_;refine aH (aN.box (cs:=[v7]) Z (by rw[cI bm])) Z λal=>?_;refine aH (aN.alloc (cs:=FC) Z Z) Z λay=>aB Z<|aL<|aR<|cM 2 Z<|aA Z<|dL 1 Z<|iF (aD.fact 6 Z) Z<|aC (EE (cs:=[.tmp 3,.tmp 5]) (vs:=[vP ak,vP al]) Z) Z<|HE (A:=aX×aX×bO×Int×Int×Int×Int×Int×Int) (B:=Kn) (vs:=[Value.agg #[vP a.1,a.2.1,vI (R),vU (d.1),Value.func (.func 53) #[] #[]],v5,vI (p4.length:Int),Value.func (.func 92) #[] #[vP ak,vP al]]) (λs=>Bq  s=some r) (λs H=>Value.tuple #[Value.agg #[H.1,H.2.1,H.2.2.1,vI (s.2.2.2.1),vI (s.2.2.2.2.1),vI (s.2.2.2.2.2.1),vI (s.2.2.2.2.2.2.1),vU (s.2.2.2.2.2.2.2.1)],vI (s.2.2.2.2.2.2.2.2)]) (λs H=>[cJ ay FC 55,cJ b3 FC 55,Ar fG H.1 s.1,Ar fG H.2.1 s.2.1,Ar fE.raw H.2.2.1 H.2.2.2,k_ cS H.2.2.2 s.2.2.1]) (λs H=>[Sl aP p n.2.1,Sl aJ q n.2.2,PF (Value.agg #[vS n.1,p,q]),Sl bX v C.1,S2 bD t z4 C.2,S2 bX v5 z6 p3,Sl wR v7 p4,Gb 0 (cellsOf J_ Au)]) (Ca.fn (show aV Tryz.prog 91 from Tryz.call91) Z) Tryz.func91 Z Tryz.ntmps91 Z Z ?_ ?_
  ·refine aR<|aH (aN.box (cs:=[vP a.1,a.2.1,vI (R),vU (d.1),Value.func (.func 53) #[] #[]]) Z Z) Z λa5=>aH (aN.alloc (cs:=FC) Z Z) Z λav=>aB Z<|aL<|aR<|aH (aN.alloc (cs:=FC) Z Z) Z λaw=>aL<|aR<|aA Z<|dZ h λaz ci h=>aH (zBg UL (Hx U v5 z6 az ci) Z (jP [5] Z)) Z λan=>aB Z<|aL<|aK ?_;refine JR.start [0,1,0,7,0,16,63,127] 6 mixedOrders (by decide +kernel) ?_;refine zBj (by exact rfl) ?_;refine cB Z<|fD 4 Z<|aY Z<|dZ h λam cj h=>zBh Z Z Z (zBg YC (y_ U a.1 p q a.2.2.1 p q v t z4 a.2.2.2.2.2.1 (List.zip a.2.2.2.2.2.2 d.2.2.2.2) a.2.2.2.1 (List.zip a.2.2.2.2.1 d.2.2.1) an.1 (List.zip an.2 az) am cj) Z (aG.cons (aD.res 9 Z) (aG.cons (aD.fact 0 Z) (aG.cons (aD.fact 1 Z) (aG.cons (aD.res 12 Z) (aG.cons (aD.fact 0 Z) (aG.cons (aD.fact 1 Z) (aG.cons (aD.fact 3 Z) (aG.cons (aD.fact 4 Z) (aG.cons (bB (i:=13) (j:=14) Z Z dD) (aG.cons (bB (i:=10) (j:=11) Z Z cG) (aG.cons (bB (i:=0) (j:=1) Z Z dD) .nil)))))))))))) Z (λcm=>(kG [] Z)) λcm=>iY Z (cQ Z Z Z Z Z)<|bM Z (bA.cons 4 Z .nil) .nil (dN 0 Z Z Z Z Z) (aU.h (bA.ix [4] Z Z) .nil aU.z)<|bP 6 Z Z<|wE Z<|aB Z<|aL<|aR<|aA Z<|dZ h λK ck h=>aH (zBg aby (Kt U  K ck) Z .nil) Z λcy=>aH (aN.alloc (cs:=SV) Z Z) Z λax=>bF 0 (vs:=[vI (K.1),vI (K.2.1),vI (K.2.2.1),vI (K.2.2.2.1),vU (K.2.2.2.2)]) Z Z Z Z Z Z<|aL<|aR<|bN Z<|dL 5 Z<|aA Z<|aA Z<|cM 0 Z<|dZ h λcg cl h=>aH (uA (vs:=[an.1,vU (eG .u32 am d.1),Value.agg #[vI (K.1),vI (K.2.1),vI (K.2.2.1),vI (K.2.2.2.1),vU (K.2.2.2.2)]]) (cs:=[]) Yv Z (Jc U an.1 (List.zip an.2 az) cg cl) Z (aG.cons (bB (i:=1) (j:=2) Z Z dD) .nil) (λ_ _=>rfl)) Z λcz=>aL<|aR<|bN Z<|dL 3 Z<|aA Z<|aH (bT (e:=fG) ([(eG .u32 am d.1)]) [(0,vU (eG .u32 am d.1))] Z Z Z Z (eV (vU (eG .u32 am d.1)) Z) Z Z Z) Z λcx=>gF (cK fG)<|dW h λcf h=>aH (bH 0 cP Z Z Z (aT (aD.res 1 Z) cP) Z Z Z Z cf Z) Z λch=>bN Z<|bE (Know.one ((aT (aD.res 0 Z) cP))) λbq=>gJ 5 Z Z bq Z Z Z<|aL<|aK<|CM (B:=Value×List Value×Value×Value) (λo=>xL  o=some r) (λo J=>[(1,J.1),(8,vP av),(10,vP aw),(12,vP ax)]) (λo J=>[Ar fG J.2.2.2 o.1,cJ ax [vI (o.2.1),vI (o.2.2.1),vI (o.2.2.2.1),vI (o.2.2.2.2.1),vU (o.2.2.2.2.2.1)] 53,Ar fE.raw J.1 J.2.1,k_ cS J.2.1 o.2.2.2.2.2.2.1,cJ aw [J.2.2.1,J.2.2.2,lL,vI (0:Int),vI (0:Int),vI (0:Int),vI (0:Int),vU (0:Int)] 55,cJ av FC 55,cJ ay FC 55,cJ b3 FC 55,Ar fG J.2.2.1 o.2.2.2.2.2.2.2]) ?_ ?_
   ·refine aR<|aA Z<|aA Z<|aL<|aS<|gF (cK fG)<|eB (B:=Value×List Value×Value×Value) (xN U n C R p4 d) (λb g=>[(1,g.1),(3,Value.func (.func 92) #[] #[vP ak,vP al]),(4,vP a5),(8,vP av),(10,vP aw),(11,vU (b.1)),(12,vP ax),(39,vI (p4.length:Int)),(40,vI (b.2.2.1))]) (λb g=>[Ar fG g.2.2.2 b.2.1,cJ ax [vI (b.2.2.2.1),vI (b.2.2.2.2.1),vI (b.2.2.2.2.2.1),vI (b.2.2.2.2.2.2.1),vU (b.2.2.2.2.2.2.2.1)] 53,Ar fE.raw g.1 g.2.1,k_ cS g.2.1 b.2.2.2.2.2.2.2.2.1,cJ aw [g.2.2.1,g.2.2.2,lL,vI (0:Int),vI (0:Int),vI (0:Int),vI (0:Int),vU (0:Int)] 55,cJ av FC 55,cJ a5 [vP a.1,a.2.1,vI (R),vU (d.1),Value.func (.func 53) #[] #[]] 93,cJ ay FC 55,cJ al [v7] 25,cJ ak [vP a.1,a.2.1,vI (R),vU (d.1),Value.func (.func 53) #[] #[]] 93,Ar fG a.2.1 d.2.1,cJ a.1 [vS (n.1),p,q,vP a.2.2.1,a.2.2.2.1] 183,Ar fE.raw a.2.2.2.1 a.2.2.2.2.1,k_ dO a.2.2.2.2.1 d.2.2.1,cJ a.2.2.1 [vS (n.1),p,q,v,t,vI (d.2.2.2.1),a.2.2.2.2.2.1] 224,Ar fE.raw a.2.2.2.2.2.1 a.2.2.2.2.2.2,k_ cS a.2.2.2.2.2.2 d.2.2.2.2,cJ b3 FC 55,Ar fG g.2.2.1 b.2.2.2.2.2.2.2.2.2]) ((eG .u32 am d.1),(([]:aX)++([(eG .u32 am d.1)])),(0:Int),K.1,K.2.1,K.2.2.1,K.2.2.2.1,K.2.2.2.2,az,([]:aX)) (an.1,an.2,(lL),ch) h SF (bA.ix [1,3,4,5,6,7,8,9,10,11,12,13,14,15,16,17,18,19,0] Z Z) ?_;intro bz b g h;refine aR<|cZ Z<|aL<|aK ?_;refine d_ h Z (λh=>?_) λh=>?_
    ·refine cE<|aK<|aS<|aR<|aA Z<|aB Z<|aL<|aR<|aA Z<|aA Z<|aA Z<|HE (A:=Int) (B:=Unit) (vs:=[vI (b.2.2.1),vU (b.1),vP ak,vP al]) (λL=>DN U n C R d b (bK (xN U n C R p4 d) bz) L=some r) (λL au=>Value.tuple #[vU (L),vB (decide (b.1≠(0:Int)))]) (λL au=>[Ar fG g.2.2.2 b.2.1,cJ ax [vI (b.2.2.2.1),vI (b.2.2.2.2.1),vI (b.2.2.2.2.2.1),vI (b.2.2.2.2.2.2.1),vU (b.2.2.2.2.2.2.2.1)] 53,Ar fE.raw g.1 g.2.1,k_ cS g.2.1 b.2.2.2.2.2.2.2.2.1,cJ aw [g.2.2.1,g.2.2.2,lL,vI (0:Int),vI (0:Int),vI (0:Int),vI (0:Int),vU (0:Int)] 55,cJ av FC 55,cJ a5 [vP a.1,a.2.1,vI (R),vU (d.1),Value.func (.func 53) #[] #[]] 93,cJ ay FC 55,cJ al [v7] 25,cJ ak [vP a.1,a.2.1,vI (R),vU (d.1),Value.func (.func 53) #[] #[]] 93,Ar fG a.2.1 d.2.1,cJ a.1 [vS (n.1),p,q,vP a.2.2.1,a.2.2.2.1] 183,Ar fE.raw a.2.2.2.1 a.2.2.2.2.1,k_ dO a.2.2.2.2.1 d.2.2.1,cJ a.2.2.1 [vS (n.1),p,q,v,t,vI (d.2.2.2.1),a.2.2.2.2.2.1] 224,Ar fE.raw a.2.2.2.2.2.1 a.2.2.2.2.2.2,k_ cS a.2.2.2.2.2.2 d.2.2.2.2,cJ b3 FC 55,Ar fG g.2.2.1 b.2.2.2.2.2.2.2.2.2]) (λL au=>[Sl aP p n.2.1,Sl aJ q n.2.2,PF (Value.agg #[vS n.1,p,q]),Sl bX v C.1,S2 bD t z4 C.2,S2 bX v5 z6 p3,Sl wR v7 p4,Gb 0 (cellsOf J_ Au)]) (Wg (us:=[vI (b.2.2.1),vU (b.1)]) (cs:=[vP ak,vP al]) (show aV Tryz.prog 92 from Tryz.call92) Z Z Z) Tryz.func92 Z Tryz.ntmps92 Z Z ?_ ?_
     ·refine aR<|aB Z<|aB Z<|aL<|aK ?_;refine JR.start [0,1,0,4,0,0,0,96,224,511,0,1024,1023,8191] 13 mixedOrders (by decide +kernel) ?_;refine zBj (by exact rfl) ?_;refine cB Z<|fD 9 Z<|cB Z<|fD 9 Z<|aY Z<|fD 8 Z<|aY Z<|dW h λaE h=>bM Z .nil (kH 6 Z) (a_ Z Z (aD.fact 0 Z) Z Z aE) aU.z<|bM Z .nil (kH 6 Z) (bY Z (aD.fact 0 Z) Z Z Z AI aE) aU.z<|dZ h λa1 b6 h=>zBh Z Z Z (zBg YB (Aq U a.2.1 a1 b6) Z (aG.cons (aT (aD.res 10 Z) cP) (jP [7] Z))) Z (λcc=>(kG [] Z)) λcc=>iY Z (oC Z)<|iY Z (Dd Z Z)<|iY Z (wS Z)<|bP 13 Z Z<|aB Z<|aL<|aQ ?_;exact Dp (a1) () h (.inl Z) (MX.r2 Z (RV.tmp Z) (RV.tmp Z)) Z (bA.refl _) (aG.refl _ _)
     intro L au h;refine aA Z<|eQ Z<|eQ Z<|aB Z<|aB Z<|aL<|aK<|aR<|aA Z<|aC (aec Z) Z<|aL ?_;refine d_ h Z (λh=>?_) λh=>?_
     ·refine qC<|eZ<|aaV Z<|eZ<|eZ<|wQ<|Cd ?_;exact bU (b.2.1,b.2.2.2.1,b.2.2.2.2.1,b.2.2.2.2.2.1,b.2.2.2.2.2.2.1,b.2.2.2.2.2.2.2.1,b.2.2.2.2.2.2.2.2.1,b.2.2.2.2.2.2.2.2.2) (g.1,g.2.1,g.2.2.1,g.2.2.2) h SF (bA.ix [0,1,2,3,4,5,7,17,18] Z Z) (aG.refl _ _)
     refine cE<|aK<|aR<|bN Z<|dL 6 Z<|bN Z<|dL 6 Z<|aA Z<|aA Z<|dZ h λbC bS h=>aH (zBg UM (Ap U a.2.1 bC bS) Z (aG.cons (aT (aD.res 10 Z) cP) (jP [7] Z))) Z λcu=>aC (lV Z) Z<|aL ?_;refine tT h Z (λ_ h=>?_) λ_ h=>?_
     ·refine aR ?_;refine aC (Cv (r:=Value.agg #[lL,lL,lL,vI (0:Int),vI (0:Int),vI (0:Int),vI (0:Int),vU (0:Int)]) (by intro w;simp[Instr.build,Instr.fill,cT,b_,bW,cU,cV,cA,dJ])) Z ?_;refine bF 5 (vs:=FC) Z Z Z Z Z Z<|aB Z<|aL<|aQ<|aI<|bG<|aI<|aI<|bG<|aI<|gF (cK fG)<|gF (cK fG)<|gF (cK fE.raw) (gF (mD cS) ?_);exact Dp (([]:aX),([]:aX),([]:bO),(0:Int),(0:Int),(0:Int),(0:Int),(0:Int),(11:Int)) ((lL),(lL),(lL),([]:gV)) h (.inl Z) (MX.r2 Z (RV.cell 9 Z Z Z Z) (RV.tmp Z)) Z (bA.ix [11,21,2,3,1,0] Z Z) (aG.refl _ _)
     refine cE<|aR<|bN Z<|dL 6 Z<|aA Z<|aA Z<|dZ h λap bV h=>aH (zBg abz (Gi U a.1 p q a.2.2.1 p q v t z4 a.2.2.2.2.2.1 (List.zip a.2.2.2.2.2.2 d.2.2.2.2) a.2.2.2.1 (List.zip a.2.2.2.2.1 d.2.2.1) g.1 (List.zip g.2.1 b.2.2.2.2.2.2.2.2.1) ap bV) Z (aG.cons (aD.res 11 Z) (aG.cons (aD.fact 0 Z) (aG.cons (aD.fact 1 Z) (aG.cons (aD.res 14 Z) (aG.cons (aD.fact 0 Z) (aG.cons (aD.fact 1 Z) (aG.cons (aD.fact 3 Z) (aG.cons (aD.fact 4 Z) (aG.cons (bB (i:=15) (j:=16) Z Z dD) (aG.cons (bB (i:=12) (j:=13) Z Z cG) (aG.cons (bB (i:=2) (j:=3) Z Z dD) .nil)))))))))))) Z λT=>aB Z<|aL<|aK ?_;refine JR.start [0,1,0,7,0,16,63,127] 6 mixedOrders (by decide +kernel) ?_;refine zBj (by exact rfl) ?_;refine cB Z<|fD 8 Z<|aY Z<|dZ h λS b0 h=>zBh Z Z Z (zBg YC (y_ U a.1 p q a.2.2.1 p q v t z4 a.2.2.2.2.2.1 (List.zip a.2.2.2.2.2.2 d.2.2.2.2) a.2.2.2.1 (List.zip a.2.2.2.2.1 d.2.2.1) T.1 (List.zip T.2 ap) S b0) Z (aG.cons (aD.res 13 Z) (aG.cons (aD.fact 0 Z) (aG.cons (aD.fact 1 Z) (aG.cons (aD.res 16 Z) (aG.cons (aD.fact 0 Z) (aG.cons (aD.fact 1 Z) (aG.cons (aD.fact 3 Z) (aG.cons (aD.fact 4 Z) (aG.cons (bB (i:=17) (j:=18) Z Z dD) (aG.cons (bB (i:=14) (j:=15) Z Z cG) (aG.cons (bB (i:=0) (j:=1) Z Z dD) .nil)))))))))))) Z (λcb=>(kG [] Z)) λcb=>iY Z (cQ Z Z Z Z Z)<|bM Z (bA.cons 8 Z .nil) .nil (dN 0 Z Z Z Z Z) (aU.h (bA.ix [8] Z Z) .nil aU.z)<|bP 6 Z Z<|wE Z<|aB Z<|aL<|aR<|cM 3 Z<|aA Z<|aA Z<|dZ h λu b4 h=>aH (zBg abA (Nj U  u b4) Z .nil) Z λcv=>aA Z<|eQ Z<|eQ Z<|bF 3 (vs:=[vI (u.1.1),vI (u.1.2.1),vI (u.1.2.2.1),vI (u.1.2.2.2.1),vU (u.1.2.2.2.2)]) Z Z Z Z Z Z<|aL<|aR<|bN Z<|dL 8 Z<|aA Z<|aA Z<|cM 3 Z<|dZ h λbI b5 h=>aH (uA (vs:=[T.1,vU (eG .u32 S d.1),Value.agg #[vI (u.1.1),vI (u.1.2.1),vI (u.1.2.2.1),vI (u.1.2.2.2.1),vU (u.1.2.2.2.2)]]) (cs:=[]) Yv Z (Jc U T.1 (List.zip T.2 ap) bI b5) Z (aG.cons (bB (i:=0) (j:=1) Z Z dD) .nil) (λ_ _=>rfl)) Z λcw=>aL<|aR<|bN Z<|dL 6 Z<|aA Z<|aH (bT (e:=fG) ([L]) [(0,vU (L))] Z Z Z Z (eV (vU (L)) Z) Z Z Z) Z λcr=>dW h λbt h=>aH (bH 21 cP Z Z Z (aT (aD.res 0 Z) cP) Z Z Z Z bt Z) Z λbJ=>bN Z<|bE (Know.one ((aT (aD.res 21 Z) cP))) λbb=>gJ 7 Z Z bb Z Z Z<|aL<|aO<|bN Z<|dL 7 Z<|aA Z<|aH (bT (e:=fG) ([(eG .u32 S d.1)]) [(0,vU (eG .u32 S d.1))] Z Z Z Z (eV (vU (eG .u32 S d.1)) Z) Z Z Z) Z λct=>dW h λbu h=>aH (bH 4 cP Z Z Z (aT (aD.res 0 Z) cP) Z Z Z Z bu Z) Z λbL=>bN Z<|bE (Know.one ((aT (aD.res 4 Z) cP))) λbc=>gJ 8 Z Z bc Z Z Z<|eN<|jH<|aO<|cD Z<|aA Z<|aL ?_;exact nC ((eG .u32 S d.1),(b.2.1++([(eG .u32 S d.1)])),(wI .i64 (b.2.2.1+(1:Int))),u.1.1,u.1.2.1,u.1.2.2.1,u.1.2.2.2.1,u.1.2.2.2.2,ap,(b.2.2.2.2.2.2.2.2.2++[L])) (T.1,T.2,bJ,bL) h SF (bA.ix [4,5,2,3,8,9,10,11,12,13,14,15,16,17,18,19,20,21,22] Z Z) (aG.refl _ _)
    refine eS ?_;exact bU (b.2.1,b.2.2.2.1,b.2.2.2.2.1,b.2.2.2.2.2.1,b.2.2.2.2.2.2.1,b.2.2.2.2.2.2.2.1,b.2.2.2.2.2.2.2.2.1,b.2.2.2.2.2.2.2.2.2) (g.1,g.2.1,g.2.2.1,g.2.2.2) h SF (bA.ix [0,1,2,3,4,5,7,17,18] Z Z) (aG.refl _ _)
   intro o J h;unfold xL at h;refine aK ?_;refine JR.start [0,0,1,5,15,31] 4 mixedOrders (by decide +kernel) ?_;refine zBj (by exact rfl) ?_;refine aY Z<|gK 1 Z<|cB Z<|gG (Know.one (aD.sl (bB (i:=2) (j:=3) Z Z dD))) λbr=>FG Z Z Z (QD 4 Z Z br Z Z Z) (λcn=>(kG [([1],[])] Z)) λcn=>bP 4 Z Z<|bN Z<|Ux (Li 4 (us:=[vI (o.2.1),vI (o.2.2.1),vI (o.2.2.2.1),vI (o.2.2.2.2.1),vU (o.2.2.2.2.2.1)]) Z Z Z Z Z Z Z Z Z) λcC=>aL<|aR<|cM 4 Z<|bE (Know.one ((aT (aD.res 8 Z) cP))) λbs=>bE (Know.one ((aT (aD.res 0 Z) cP))) λa9=>bE (Know.one (aD.sl (bB (i:=2) (j:=3) Z Z dD))) λba=>bF 5 (vs:=[J.2.2.1,J.2.2.2,J.1,vI (o.2.1),vI (o.2.2.1),vI (o.2.2.2.1),vI (o.2.2.2.2.1),vU (o.2.2.2.2.2.1)]) Z Z (bR bs (bR a9 (bR ba (bR Z (bR Z (bR Z (bR Z (bR Z Z)))))))) Z Z Z<|aB Z<|aL<|aQ ?_;exact Dp (o.2.2.2.2.2.2.2,o.1,o.2.2.2.2.2.2.1,o.2.1,o.2.2.1,o.2.2.2.1,o.2.2.2.2.1,o.2.2.2.2.2.1,(0:Int)) (J.2.2.1,J.2.2.2,J.1,J.2.1) h (.inl Z) (MX.r2 Z (RV.cell 5 Z Z Z Z) (RV.tmp Z)) Z (bA.ix [6,7,8,0,2,3] Z Z) (aG.refl _ _)
  intro s H h;unfold Bq at h;refine eQ Z<|eQ Z<|bE (Know.one ((aT (aD.res 2 Z) cP))) λbn=>bE (Know.one ((aT (aD.res 3 Z) cP))) λbo=>bE (Know.one (aD.sl (bB (i:=4) (j:=5) Z Z dD))) λbp=>bF 0 (vs:=[H.1,H.2.1,H.2.2.1,vI (s.2.2.2.1),vI (s.2.2.2.2.1),vI (s.2.2.2.2.2.1),vI (s.2.2.2.2.2.2.1),vU (s.2.2.2.2.2.2.2.1)]) Z Z (bR bn (bR bo (bR bp (bR Z (bR Z (bR Z (bR Z (bR Z Z)))))))) Z Z Z<|aB Z<|aL<|aQ ?_;exact Dp (s.2.2.2.1,s.2.2.2.2.1,s.2.2.2.2.2.1,s.2.2.2.2.2.2.1,s.2.2.2.2.2.2.2.1,s.2.2.2.2.2.2.2.2,s.1,s.2.1,s.2.2.1) (H.1,H.2.1,H.2.2.1,H.2.2.2) h (.inl Z) (MX.r2 Z (RV.cell 0 Z Z Z Z) (RV.tmp Z)) Z (bA.ix [1,2,3,4,5] Z Z) (aG.refl _ _)
 intro D G h;unfold DL at h;refine eQ Z<|eQ Z<|bE (Know.one ((aT (aD.res 1 Z) cP))) λbj=>bE (Know.one ((aT (aD.res 2 Z) cP))) λbk=>bE (Know.one (aD.sl (bB (i:=3) (j:=4) Z Z dD))) λbl=>bF 0 (vs:=[G.1,G.2.1,G.2.2.1,vI (D.1),vI (D.2.1),vI (D.2.2.1),vI (D.2.2.2.1),vU (D.2.2.2.2.1)]) Z Z (bR bj (bR bk (bR bl (bR Z (bR Z (bR Z (bR Z (bR Z Z)))))))) Z Z Z<|aB Z<|aL<|aQ ?_;cases h;exact eD (G.1,G.2.1,G.2.2.1,G.2.2.2) Z Z (RV.cell 0 Z Z Z Z) (RV.tmp Z) (bA.ix [1,2,3,4] Z Z) aG.nil
end Go.Proofs.YtahgemjmgopleaaGreatDoor
namespace Go.Proofs.YtahgemjmgopleaaGreatDoor
open Go Go.Sx
theorem Xn {g:GR} (e:VG g) (p:Dr) (b:Int) (c:bO) (o:aX):
  bK (nS 1000 p g b c o) 1000 ((0:Int),(0:Int),(List.replicate (Int.toNat (g.2.length:Int)) ([]:aX)))=xM 1000 p g b c o (kW g g.2.length,gQ g):=by
 have z:=e.n24;have s:=e.len;let f:Nat->aX:=λv=>(List.range (row g v).length).map (UG g v);let Q:Nat->bO:=λk=>(List.range k).map f++List.replicate (g.2.length - k) [];have q:∀k,k<=g.2.length->(Q k).length=g.2.length:=λk i=>by simp[Q];omega
 rw[show List.replicate (Int.toNat (g.2.length:Int)) ([]:aX)=Q 0 by simp[Q]];refine cR (step:=nS 1000 p g b c o) g.2.length (λk=>((k:Int),kW g k,Q k)) (λk d i=> ?_) (λd=> ?_) 1000 (by omega)
 ·have r:=(e.node k i).deg;have t:k<(Q k).length:=by rw[q k (by omega)];exact i
  unfold nS;dsimp only;rw[if_pos (by omega),cO (by omega),cO (by omega)];let a:Nat->aX:=λj=>(List.range j).map (UG g k);have y:Q k=(Q k).set k (a 0):=by
   have:at' (Q k) (k:Int)=a 0:=by
    rw[gN t];simp[Q,a]
   rw[<-this];exact(Mn (Q k) (k:Int) (by simpa using t) (by omega)).symm
  rw[show(Q k)=(Q k).set k (a 0)from y];have h:∀A:bO,A.length=g.2.length->bK (tC 1000 g ((k:Int),kW g k,(Q k).set k (a 0)) d) 1000 ((0:Int),A.set k (a 0))=d (((k+1:Nat):Int),kW g (k+1),A.set k (f k)):=by
   intro A D;refine cR (step:=tC 1000 g ((k:Int),kW g k,(Q k).set k (a 0)) d) (K:=d (((k+1:Nat):Int),kW g (k+1),A.set k (f k))) (row g k).length (λj=>((j:Int),A.set k (a j))) (λj m C=> ?_) (λm=> ?_) 1000 (by omega)
   ·obtain⟨u,w,l⟩:=e.to i C;have B:=(e.node u w).deg;have x:at' (A.set k (a j)) (k:Int)=a j:=by rw[AN _ _ _ _ (by omega),if_pos Z]
    have n:(a j).length=j:=by simp[a]
    unfold tC;dsimp only;rw[if_pos (show(j:Int)<((row g k).length:Int) by omega),cO (show 0<=(j:Int)∧(j:Int)<((row g k).length:Int) by omega),cO (by simp only[zA2];omega),show at' (at' g.2 (k:Int)) (j:Int)=jL (row g k) j from rfl,l,aZ (show uJ 1000 _ (u:Int) (k:Int)=_ from Xg g u (k:Int) w (by omega)),x,cO (by rw[n];simp;omega),cO (by simp only[zA2];omega),dH (by omega),zAe,List.set_set];have:a j++[DG (row g u) (k:Int)]=a (j+1):=by
     simp only[a];rw[zB8,List.map_append,zB4,UG,l,zAe]
    rw[this]
   ·unfold tC Bu;dsimp only;rw[if_neg (show¬((row g k).length:Int)<((row g k).length:Int)from Int.lt_irrefl _),dH (by omega)];rfl
  have:=h (Q k) (q k (by omega));rw[Bc f [] g.2.length k i]at this;exact this
 ·unfold nS;dsimp only;rw[if_neg (by omega)];simp[Q,gQ,f]
def kS (g:GR):Nat:=2^g.2.length - 1
theorem UC {g:GR} (b:VG g):kS g<4294967296:=by
 have a:=b.n24;have:(2:Nat)^g.2.length<=2^24:=Nat.pow_le_pow_right (by omega) a;unfold kS;omega
noncomputable def Nc (m:Nat):Nat:=open Classical in if h:∃k,Kp m k then 2^Classical.choose h else 0
theorem Kp.det {m k j:Nat} (h:Kp m k) (a:Kp m j):k=j:=by
 rcases zB1 k j with q|q|q
 ·have:=a.low k q;rw[h.bit]at this;cases this
 ·exact q
 ·have:=h.low j q;rw[a.bit]at this;cases this
theorem KS {m k:Nat} (h:Kp m k):Nc m=2^k:=by
 unfold Nc;have e:∃k,Kp m k:=⟨k,h⟩
 rw[dif_pos e,(Classical.choose_spec e).det h]
theorem GN:Nc 0=0:=by
 unfold Nc;rw[dif_neg];rintro⟨k,h⟩;have:=h.bit;simp at this
noncomputable def Fy (g:GR) (W:Nat):Nat->Nat
 |0=>0
 |v+1=>open Classical in if W.testBit v=true∧∀u,(Fy g W v).testBit u=true->¬JZ g v u then Fy g W v ||| 2^v else Fy g W v
theorem Iz {g:GR} {W s:Nat}:∀{k:Nat},s<=k->(∀i,s<=i->i<k->W.testBit i=false)->Fy g W k=Fy g W s
 |0,h,_=>by rw[show s=0 by omega]
 |k+1,h,hb=>by
  by_cases e:s=k+1
  ·rw[e]
  ·rw[Fy,if_neg (λq=>by have:=hb k (by omega) (by omega);rw[this]at q;exact absurd q.1 (by decide)),Iz (by omega) λi a b=>hb i a (by omega)]
theorem Pp {g:GR} {W:Nat}:∀{k i:Nat},(Fy g W k).testBit i=true->W.testBit i=true∧i<k
 |0,i,h=>by simp[Fy]at h
 | k + 1, i, h => by
  rw[Fy]at h;split at h
  ·rename_i q;rw[Nat.testBit_or,zAp,zAu,zA8]at h;rcases h with h|rfl
   ·obtain⟨a,b⟩:=Pp h;exact⟨a,by omega⟩
   ·exact⟨q.1,by omega⟩
  ·obtain⟨a,b⟩:=Pp h;exact⟨a,by omega⟩
theorem Zl {g:GR} {W k:Nat} (c:k<=32):Fy g W k<4294967296:=by
 refine zAj (Nat.lt_pow_two_of_testBit (n:=32) _ λi b=> ?_) (zAd _);cases a:(Fy g W k).testBit i with
 |false=>rfl
 |true=>have:=(Pp a).2;omega
theorem acF {g:GR} (hV:VG g) {r:aX} (hN:Lk g r) {W:Nat} (hW:Hj g W) (F:Nat):∀(d s fuel rest:Nat),s+d=32->rest<4294967296->(∀i,rest.testBit i=(decide (s<=i)&&W.testBit i))->d<fuel->
  bK (dC F r) fuel ((rest:Int),((Fy g W s:Nat):Int))=some ((Fy g W 32:Nat):Int):=by
 have h24:=hV.n24;intro d
 induction d using Nat.strongRecOn with
 | _ d ih =>
  intro s fuel rest hs hr hb hf;obtain⟨fuel,rfl⟩:∃f,fuel=f+1:=⟨fuel - 1,by omega⟩
  have hun:bK (dC F r) (fuel+1) ((rest:Int),((Fy g W s:Nat):Int))=dC F r ((rest:Int),((Fy g W s:Nat):Int)) (bK (dC F r) fuel):=rfl;rw[hun];unfold dC jX iG;dsimp only;by_cases h0:rest=0
  ·rw[if_neg (by omega),Iz (s:=s) (k:=32) (by omega) λi h1 _=>by
    have:=hb i;rw[h0,zBe,zA6 h1,Bool.true_and]at this;exact this.symm]
  obtain⟨k,hk⟩:=BW h0;have hkb:=hb k;rw[hk.bit]at hkb;have hks:s<=k:=by
   rcases zAm k s with q|q
   ·rw[zA5 (by omega)]at hkb;cases hkb
   ·exact q
  have hkW:W.testBit k=true:=by
   rw[zA6 hks,Bool.true_and]at hkb;exact hkb.symm
  have hkn:=hW k hkW;have hk32:k<32:=by omega
  have hgk:Fy g W k=Fy g W s:=Iz hks λi h1 h2=>by
   have h3:=hk.low i h2;rw[hb i,zA6 h1,Bool.true_and]at h3;exact h3
  have ht32:=Zl (g:=g) (W:=W) (k:=s) (by omega);obtain⟨m,hm,hm32,hbits⟩:=hN.at' k hkn;obtain⟨m',e1,e2,e3⟩:=Jt hr hk;have hb':∀i,m'.testBit i=(decide (k+1<=i)&&W.testBit i):=λi=>by
   rw[e3,hb];rcases zB1 i k with q|q|q
   ·have h3:=hk.low i q;rw[hb]at h3;rw[h3,zA5 (show¬k+1<=i by omega)];simp
   ·rw[q,zA5 (show¬k+1<=k by omega)];simp
   ·rw[zA6 (show s<=i by omega),zA6 (show k+1<=i by omega),zA6 (show i≠k by omega)];simp
  have hcond:m &&& Fy g W s=0↔∀u,(Fy g W k).testBit u=true->¬JZ g k u:=by
   rw[hgk];constructor
   ·intro hz u hu ha;have:=congrArg (λq=>q.testBit u) hz;simp only[zBc,zBe,(hbits u).2 ha,hu]at this;cases this
   ·intro h;refine Nat.eq_of_testBit_eq λi=> ?_;rw[zBc,zBe];cases h1:m.testBit i with
    |false=>rfl
    |true=>
     cases h2:(Fy g W s).testBit i with
     |false=>rfl
     |true=>exact absurd ((hbits i).1 h1) (h i h2)
  rw[if_pos (by omega),aZ (Sv F hr hk),cO (by have:=hN.len;omega),hm,AF hm32 ht32,e1];by_cases hz:m &&& Fy g W s=0
  ·have hn:Fy g W (k+1)=Fy g W s ||| 2^k:=by rw[Fy,if_pos ⟨hkW,hcond.1 hz⟩,hgk]
   rw[hz,if_pos (by rfl),cO (by omega),EF ht32 hk32,<-hn];exact ih (32 - (k+1)) (by omega) (k+1) fuel m' (by omega) e2 hb' (by omega)
  ·have hn:Fy g W (k+1)=Fy g W s:=by rw[Fy,if_neg (λq=>hz (hcond.2 q.2)),hgk]
   rw[if_neg (by omega),<-hn];exact ih (32 - (k+1)) (by omega) (k+1) fuel m' (by omega) e2 hb' (by omega)
noncomputable def Eu (e w:Nat):Nat:=if w &&& e=0 then Nc e else w &&& e
noncomputable def afJ (g:GR) (a:Int) (e W:Nat):Nat:=if a=1 then Nc W else if a=2 then Fy g W 32 else if a=4 then e else W
noncomputable def xK (g:GR) (a:Int) (e w:Nat):Nat:=afJ g a e (Eu e w)
theorem ahf {m:Nat} (hm:m<4294967296):eG .u32 (m:Int) (wI .u32 (0 - (m:Int)))=((Nc m:Nat):Int):=by
 by_cases h0:m=0
 ·rw[h0,GN];rfl
 ·obtain⟨k,hk⟩:=BW h0;rw[acQ hm hk,KS hk]
theorem ZC {m i:Nat} (h:(Nc m).testBit i=true):m.testBit i=true:=by
 by_cases a:m=0
 ·rw[a,GN]at h;simp at h
 ·obtain⟨k,b⟩:=BW a;rw[KS b,zAp,zA8]at h;rw[<-h];exact b.bit
theorem OD {e w i:Nat} (h:(Eu e w).testBit i=true):e.testBit i=true:=by
 unfold Eu at h;split at h
 ·exact ZC h
 ·rw[zBc,zA1]at h;exact h.2
theorem acP {m:Nat} (c:m<4294967296):Nc m<4294967296:=by
 by_cases a:m=0
 ·rw[a,GN];omega
 ·obtain⟨k,b⟩:=BW a;rw[KS b];exact Fh (Dv c b.bit)
theorem SJ {e w:Nat} (a:e<4294967296) (b:w<4294967296):Eu e w<4294967296:=by
 unfold Eu;split
 ·exact acP a
 ·exact Lo b
theorem RX {g:GR} (hV:VG g) {r:aX} (hN:Lk g r) (kind:Int) {e w:Nat} (he:Hj g e) (hw:w<4294967296):eK 1000 r kind (e:Int) (w:Int)=some ((xK g kind e w:Nat):Int):=by
 have he24:=he.lt hV;have hW32:=SJ (e:=e) (w:=w) (by omega) hw;have hWG:Hj g (Eu e w):=λi hi=>he i (OD hi);have e1:eK 1000 r kind (e:Int) (w:Int)=fY 1000 r kind (e:Int) ((Eu e w:Nat):Int):=by
  unfold eK Eu;rw[AF hw (by omega)];by_cases h0:w &&& e=0
  ·rw[h0,if_pos (show((0:Nat):Int)=0 from rfl),if_pos rfl,ahf (by omega)]
  ·rw[if_neg (by omega),if_neg h0]
 rw[e1];unfold xK;generalize Eu e w=W at hW32 hWG ⊢;unfold afJ;unfold fY mU;by_cases k1:kind=1
 ·rw[if_pos k1,if_pos k1,ahf hW32]
 rw[if_neg k1,if_neg k1];by_cases k2:kind=2
 ·rw[if_pos k2,if_pos k2];exact acF hV hN hWG 1000 32 0 1000 W (by omega) hW32 (λi=>by simp) (by omega)
 rw[if_neg k2,if_neg k2];by_cases k4:kind=4
 ·rw[if_pos k4,if_pos k4]
 ·rw[if_neg k4,if_neg k4]
section
variable {p:Dr} {g:GR} {R:List RL}
theorem TK (hV:VG g) (hp:kK g p.2.1) (hz:p.2.2.map wK=EI R) (hR:qI p.2.1.length R=true) {kind:Int} (hk1:1<=kind) (hk4:kind<=4) {c0:List (List Int)} (hc0:Jo g c0 p.2.1) {ws:List Int} (hws:ws.length<=900) (hw:∀k:Nat,k<ws.length->∃m:Nat,at' ws (k:Int)=(m:Int)∧m<4294967296)
  (P:Nat->List (List Int)->List Nat->CT->List Int->Prop) (h0:P 0 c0 [] (0,0,0,0,eG .u32 ((BE (cC p g) R (kS g) c0:Nat):Int) 16777215) [((BE (cC p g) R (kS g) c0:Nat):Int)])
  (hstep:∀k c ch cnt ens t cnt' err,k<ws.length->uB g p.2.1.length c->P k c ch cnt ens->BE (cC p g) R (kS g) c≠0->t≠0->(∀i,t.testBit i=true->(BE (cC p g) R (kS g) c).testBit i=true)->(kind<=2->∀v u,t.testBit v=true->t.testBit u=true->¬JZ g v u)->(kind=4->t=BE (cC p g) R (kS g) c)->(∃net,pL 1000 g=some net∧eK 1000 net kind ((BE (cC p g) R (kS g) c:Nat):Int) (at' ws (k:Int))=some (t:Int))->
   jI 1000 cnt (t:Int) ((BE (cC p g) R (kS g) (kY (cC p g) p.2.1 R c t):Nat):Int)=some (cnt',err)->P (k+1) (kY (cC p g) p.2.1 R c t) (ch++[t]) cnt' (ens++[((BE (cC p g) R (kS g) (kY (cC p g) p.2.1 R c t):Nat):Int)])):
  ∃k c ch cnt ens,iC 1000 p g kind c0 ws=some ((tU ch,ens,c,cnt),0)∧P k c ch cnt ens∧uB g p.2.1.length c∧k<=ws.length∧ch.length=k∧ens.length=k+1∧at' ens (k:Int)=((BE (cC p g) R (kS g) c:Nat):Int)∧(k=ws.length∨BE (cC p g) R (kS g) c=0):=by
 have h24:=hV.n24;have hvl:=hp.len;let S:=cC p g;have hVS:VG S.2.1:=hV;obtain⟨net,hnet,hN⟩:=T_ hV;have hcheck:rW 1000 p g kind c0 (ws.length:Int)=some 0:=by
  unfold rW;rw[aZ (show rE 1000 _ _ c0=_ from Rh hV hp hc0),if_neg (by decide)];have:rD 1000 kind=some true:=by
   unfold rD pI;rw[if_pos hk1,zA6 hk4]
  rw[aZ this,if_neg (by decide),if_neg (by omega)]
 unfold iC;rw[aZ (show rW 1000 _ _ kind c0 _=_ from hcheck),if_neg (by decide),cO (by omega),Xn hV p kind c0 ws];unfold xM Bt;rw[aZ (show oM 1000 _ _=_ from Sm hV hp)];unfold Br;rw[aZ (show pL 1000 _=_ from hnet),aZ (show BH 1000 _=some ((kS g:Nat):Int)from aee hV)];have hen:∀c,uB g p.2.1.length c->fM 1000 (p,(p,g,kW g g.2.length,gQ g),Fc g p.2.1) c=some ((Xw S R c:Nat):Int):=λc hc=>TI hV hc hz hR (by simp[Fc]);have hand:∀c,eG .u32 ((Xw S R c:Nat):Int) ((kS g:Nat):Int)=((BE S R (kS g) c:Nat):Int):=λc=>AF (YT hVS R c) (UC hV);unfold DK;dsimp only;rw[aZ (UZ c0 (by rw[hc0.len];omega) (λv hv=>by rw[hc0.row v (by rw[<-hc0.len];exact hv)];omega)),aZ (show fM 1000 _ c0=_ from hen c0 hc0.shape),hand,aZ (show xY 1000 _=some (0,0,0,0,eG .u32 ((BE S R (kS g) c0:Nat):Int) 16777215)from rfl),aZ (show vQ 1000 _ _ _=some ()from rfl),cO (by simp),List.nil_append];let A20:Int×List Int×(List (List (Int×Int)))×Int×List (List Int):=(((kS g:Nat):Int),net,Fc g p.2.1,kW g g.2.length,gQ g)
 have fin:∀k c ch cnt ens,P k c ch cnt ens->uB g p.2.1.length c->k<=ws.length->ch.length=k->ens.length=k+1->at' ens (k:Int)=((BE S R (kS g) c:Nat):Int)->(k=ws.length∨BE S R (kS g) c=0)->
   OK (λr:(List Int×List Int×List (List Int)×CT)×Int=>∃k c ch cnt ens,r=((tU ch,ens,c,cnt),0)∧P k c ch cnt ens∧uB g p.2.1.length c∧k<=ws.length∧ch.length=k∧ens.length=k+1∧at' ens (k:Int)=((BE S R (kS g) c:Nat):Int)∧(k=ws.length∨BE S R (kS g) c=0)) (xL (ens,cnt.1,cnt.2.1,cnt.2.2.1,cnt.2.2.2.1,cnt.2.2.2.2,c,tU ch)):=
  λk c ch cnt ens a1 a2 a3 a4 a5 a6 a7=>⟨_,rfl,k,c,ch,cnt,ens,rfl,a1,a2,a3,a4,a5,a6,a7⟩
 have key:=A_ (step:=xN 1000 p g kind ws A20) (Q:=λr:(List Int×List Int×List (List Int)×CT)×Int=>∃k c ch cnt ens,r=((tU ch,ens,c,cnt),0)∧P k c ch cnt ens∧uB g p.2.1.length c∧k<=ws.length∧ch.length=k∧ens.length=k+1∧at' ens (k:Int)=((BE S R (kS g) c:Nat):Int)∧(k=ws.length∨BE S R (kS g) c=0))
  (λx=>∃(k:Nat) (c:List (List Int)) (ch:List Nat) (cnt:CT) (ens:List Int),x=(((BE S R (kS g) c:Nat):Int),ens,(k:Int),cnt.1,cnt.2.1,cnt.2.2.1,cnt.2.2.2.1,cnt.2.2.2.2,c,tU ch)∧P k c ch cnt ens∧uB g p.2.1.length c∧k<=ws.length∧ch.length=k∧ens.length=k+1∧at' ens (k:Int)=((BE S R (kS g) c:Nat):Int)) (λx=>ws.length - x.2.2.1.toNat) (λx ag hI hrec=>by
  obtain⟨k,c,ch,cnt,ens,rfl,b1,b2,b3,b4,b5,b6⟩:=hI;unfold xN;dsimp only;by_cases hlt:k<ws.length
  rotate_left
  ·rw[if_neg (by omega)];exact fin k c ch cnt ens b1 b2 b3 b4 b5 b6 (.inl (by omega))
  obtain⟨w,hwe,hw32⟩:=hw k hlt;have hin:Hj g (BE S R (kS g) c):=FW S R (kS g) c;obtain⟨t,ht,hsub,hne⟩:=Ml hV hN hk1 hk4 hin hw32;rw[if_pos (by omega),cO (by omega),hwe,aZ (show eK 1000 net kind _ _=_ from ht)];unfold DN;dsimp only;by_cases he0:BE S R (kS g) c=0
  ·rw[if_pos (by omega)];exact fin k c ch cnt ens b1 b2 b3 b4 b5 b6 (.inr he0)
  obtain⟨ht0,hperm,hk2,hk4'⟩:=hne he0;have ht32:t<4294967296:=by have:=Hj.lt hV (λi hi=>hin i (hsub i hi));omega
  rw[if_neg (by omega),aZ (show gO 1000 net kind _ _=_ from hperm),if_neg (by decide)];have hst:j_ 1000 (p,(p,g,kW g g.2.length,gQ g),Fc g p.2.1) c (t:Int)=some (kY S p.2.1 R c t):=adl (gr:=kW g g.2.length) hV hp b2 hz hR ht32 (λv hv=>((Va S R (kS g) c v).1 (hsub v hv)).2.1);have hsh:uB g p.2.1.length (kY S p.2.1 R c t):=b2.step;obtain⟨⟨cnt',err⟩,hadd⟩:=Ye cnt ht32 ((BE S R (kS g) (kY S p.2.1 R c t):Nat):Int);rw[aZ (show j_ 1000 _ c (t:Int)=_ from hst),aZ (show fM 1000 _ _=_ from hen _ hsh),hand,aZ (show jI 1000 _ (t:Int) _=_ from hadd),aZ (show vQ 1000 _ _ _=some ()from rfl),cO (by simp[tU];omega),cO (by simp;omega),dH (by omega)];refine hrec _ ⟨k+1,kY S p.2.1 R c t,ch++[t],cnt',ens++[((BE S R (kS g) (kY S p.2.1 R c t):Nat):Int)],by simp[tU],hstep k c ch cnt ens t cnt' err hlt b2 b1 he0 ht0 hsub hk2 hk4' ⟨net,hnet,by rw[hwe];exact ht⟩ hadd,hsh,by omega,by simp[b4],by simp[b5],?_⟩ (by dsimp only;omega);exact OV (pre:=ens) (rest:=[]) (by simp) b5) 1000 (((BE S R (kS g) c0:Nat):Int),[((BE S R (kS g) c0:Nat):Int)],(0:Int),0,0,0,0,eG .u32 ((BE S R (kS g) c0:Nat):Int) 16777215,c0,[])
  ⟨0,c0,[],(0,0,0,0,eG .u32 ((BE S R (kS g) c0:Nat):Int) 16777215),[((BE S R (kS g) c0:Nat):Int)],rfl,h0,hc0.shape,by omega,rfl,rfl,rfl⟩ (by dsimp only;omega)
 obtain⟨r,hr,k,c,ch,cnt,ens,rfl,hrest⟩:=key;exact⟨k,c,ch,cnt,ens,hr,hrest⟩
end
end Go.Proofs.YtahgemjmgopleaaGreatDoor
namespace Go.Proofs.YtahgemjmgopleaaGreatDoor
open Go.Sx
def yM  (a:aX):Option aX:=
 some (a)
def sW (c:aX×Int) (b:(aX×Int)->Option aX) (a:aX):Option aX:=
 b (a,(wI .i64 (c.2+(1:Int))))
def pT (b:aX) (d:Int) (a:aX×Int) (c:(aX×Int)->Option aX):Option aX:=
 if a.2<d then(if(b.length:Int)=(0:Int)then(ck ((a.1.length:Int)+(List.length ([(4294967295:Int)]):Int)<=1099511627) (sW a c (a.1++([(4294967295:Int)]))))else(ck ((b.length:Int)≠0) (ck (0<=(Int.tmod a.2 (b.length:Int))∧(Int.tmod a.2 (b.length:Int))<(b.length:Int)) (ck ((b.length:Int)≠0) (ck ((24:Int)≠0) (ck (0<=(wI .u64 (Int.tmod (wI .i64 (Int.tdiv a.2 (b.length:Int))) (24:Int)))) (ck (0<=(wI .u64 ((24:Int) - (wI .u64 (Int.tmod (wI .i64 (Int.tdiv a.2 (b.length:Int))) (24:Int)))))) (ck ((a.1.length:Int)+(List.length ([(eG .u32 (Fx .u32 (zE .u32 (eG .u32 (at' b (Int.tmod a.2 (b.length:Int))) (16777215:Int)) (wI .u64 (Int.tmod (wI .i64 (Int.tdiv a.2 (b.length:Int))) (24:Int)))) (mZ .u32 (eG .u32 (at' b (Int.tmod a.2 (b.length:Int))) (16777215:Int)) (wI .u64 ((24:Int) - (wI .u64 (Int.tmod (wI .i64 (Int.tdiv a.2 (b.length:Int))) (24:Int))))))) (16777215:Int))]):Int)<=1099511627) (sW a c (a.1++([(eG .u32 (Fx .u32 (zE .u32 (eG .u32 (at' b (Int.tmod a.2 (b.length:Int))) (16777215:Int)) (wI .u64 (Int.tmod (wI .i64 (Int.tdiv a.2 (b.length:Int))) (24:Int)))) (mZ .u32 (eG .u32 (at' b (Int.tmod a.2 (b.length:Int))) (16777215:Int)) (wI .u64 ((24:Int) - (wI .u64 (Int.tmod (wI .i64 (Int.tdiv a.2 (b.length:Int))) (24:Int))))))) (16777215:Int))])))))))))))else(yM  (a.1))
def rJ (U:Nat) (a:aX) (b:Int):Option aX:=
 bK (pT a b) U (([]:aX),(0:Int))
theorem aej:aV Tryz.prog 13:=Tryz.call13
theorem ML (U:Nat) {a:aX} {i:Int} (n:Value) (r:aX) (h:rJ U a i=some r):
  aW Tryz.prog 13 #[n,vI (i)] [Sl wR n a] (λx:Value=>x) (λx l=>Ar fG x r::l) (λ_ l=>l):=by
 refine aW.of Tryz.func13 Z Tryz.ntmps13 Z λc=>?_;unfold rJ at h;refine aR<|aB Z<|aL<|aR<|aB Z<|aL<|aK<|CM (B:=Value) (λj=>yM  j=some r) (λj k=>[(5,k)]) (λj k=>[Ar fG k j]) ?_ ?_
 ·refine aR<|aB Z<|aL<|aS<|gF (cK fG)<|eB (B:=Value) (pT a i) (λb f=>[(0,n),(1,vI (i)),(5,f),(6,vI (b.2))]) (λb f=>[Ar fG f b.1]) (([]:aX),(0:Int)) (lL) h SF (bA.refl _) ?_;intro w b f h;refine aK<|aR<|aA Z<|aA Z<|cZ Z<|aL ?_;refine d_ h Z (λh=>?_) λh=>?_
  ·refine cE<|aK<|CM (B:=Value) (λd=>sW b (bK (pT a i) w) d=some r) (λd g=>[(0,n),(1,vI (i)),(5,g),(6,vI (b.2))]) (λd g=>[Ar fG g d]) ?_ ?_
   ·refine aS<|aK<|aR<|aA Z<|iF (aD.fact 0 Z) Z<|bS Z<|aL ?_;refine d_ h Z (λh=>?_) λh=>?_
    ·refine aR<|aA Z<|aH (bT (e:=fG) ([(4294967295:Int)]) [(0,vU (4294967295:Int))] Z Z Z Z (eV (vU (4294967295:Int)) Z) Z Z Z) Z λC=>dW h λo h=>aH (bH 1 cP Z Z Z (aT (aD.res 0 Z) cP) Z Z Z Z o Z) Z λy=>aB Z<|aL<|qC<|eZ<|wQ<|Cd ?_;exact bU (b.1++([(4294967295:Int)])) (y) h SF (bA.ix [1] Z Z) (aG.refl _ _)
    refine cE<|aK ?_;refine JR.start [0,0,0,4,14,31,63,0,0,256,896,1920,3968,127,16383] 14 mixedOrders (by decide +kernel) ?_;refine zBj (by exact rfl) ?_;refine aY Z<|aY Z<|aY Z<|bM Z .nil (kH 0 Z) (fX Z (aD.fact 0 Z) Z) aU.z<|dW h λp h=>iY Z (NO Z Z p)<|dW h λm h=>bM Z .nil (kH 0 Z) (a_ Z Z (aD.fact 0 Z) Z Z m) aU.z<|bM Z .nil (kH 0 Z) (bY Z (aD.fact 0 Z) Z Z Z AI m) aU.z<|aY Z<|aY Z<|bM Z .nil (kH 0 Z) (fX Z (aD.fact 0 Z) Z) aU.z<|dW h λq h=>iY Z (Tp Z Z q)<|dW h λs h=>iY Z (NO Z Z s)<|iY Z (Cw Z Z Z)<|iY Z (wS Z)<|bP 14 Z Z<|aB Z<|aL<|aR<|aA Z<|wE Z<|aB Z<|aL<|aO<|aA Z<|aA Z<|aA Z<|dW h λt h=>aC (FL Z Z t) Z<|aA Z<|aA Z<|aC (lO Z Z) Z<|dW h λu h=>aC (Iq Z Z u) Z<|aC (Kr Z Z) Z<|wE Z<|aH (bT (e:=fG) ([(eG .u32 (Fx .u32 (zE .u32 (eG .u32 (at' a (Int.tmod b.2 (a.length:Int))) (16777215:Int)) (wI .u64 (Int.tmod (wI .i64 (Int.tdiv b.2 (a.length:Int))) (24:Int)))) (mZ .u32 (eG .u32 (at' a (Int.tmod b.2 (a.length:Int))) (16777215:Int)) (wI .u64 ((24:Int) - (wI .u64 (Int.tmod (wI .i64 (Int.tdiv b.2 (a.length:Int))) (24:Int))))))) (16777215:Int))]) [(0,vU (eG .u32 (Fx .u32 (zE .u32 (eG .u32 (at' a (Int.tmod b.2 (a.length:Int))) (16777215:Int)) (wI .u64 (Int.tmod (wI .i64 (Int.tdiv b.2 (a.length:Int))) (24:Int)))) (mZ .u32 (eG .u32 (at' a (Int.tmod b.2 (a.length:Int))) (16777215:Int)) (wI .u64 ((24:Int) - (wI .u64 (Int.tmod (wI .i64 (Int.tdiv b.2 (a.length:Int))) (24:Int))))))) (16777215:Int)))] Z Z Z Z (eV (vU (eG .u32 (Fx .u32 (zE .u32 (eG .u32 (at' a (Int.tmod b.2 (a.length:Int))) (16777215:Int)) (wI .u64 (Int.tmod (wI .i64 (Int.tdiv b.2 (a.length:Int))) (24:Int)))) (mZ .u32 (eG .u32 (at' a (Int.tmod b.2 (a.length:Int))) (16777215:Int)) (wI .u64 ((24:Int) - (wI .u64 (Int.tmod (wI .i64 (Int.tdiv b.2 (a.length:Int))) (24:Int))))))) (16777215:Int))) Z) Z Z Z) Z λD=>dW h λv h=>aH (bH 1 cP Z Z Z (aT (aD.res 0 Z) cP) Z Z Z Z v Z) Z λA=>aB Z<|eN<|jH ?_;exact bU (b.1++([(eG .u32 (Fx .u32 (zE .u32 (eG .u32 (at' a (Int.tmod b.2 (a.length:Int))) (16777215:Int)) (wI .u64 (Int.tmod (wI .i64 (Int.tdiv b.2 (a.length:Int))) (24:Int)))) (mZ .u32 (eG .u32 (at' a (Int.tmod b.2 (a.length:Int))) (16777215:Int)) (wI .u64 ((24:Int) - (wI .u64 (Int.tmod (wI .i64 (Int.tdiv b.2 (a.length:Int))) (24:Int))))))) (16777215:Int))])) (A) h SF (bA.ix [1] Z Z) (aG.refl _ _)
   intro d g h;unfold sW at h;refine aO<|aA Z<|cD Z<|aB Z<|aL ?_;exact tV (d,(wI .i64 (b.2+(1:Int)))) (g) h SF Z
  refine eS ?_;exact eW (b.1) (f) h SF Z
 intro j k h;unfold yM at h;refine aR<|aA Z<|aB Z<|aL<|aQ ?_;cases h;exact gE (k) Z Z (RV.tmp Z) (bA.refl _) aG.nil
end Go.Proofs.YtahgemjmgopleaaGreatDoor
namespace Go.Proofs.YtahgemjmgopleaaGreatDoor
open Go Go.Sx
theorem SI (x:Int):0<=wI .u64 x:=by
 rw[Fw];have:IntKind.u64.wrap x=x%18446744073709551616:=rfl;rw[this];omega
theorem Xt (l:aX) {n:Nat} (y:n<=900):∃ws,rJ 1000 l (n:Int)=some ws∧ws.length=n∧∀k:Nat,k<ws.length->∃m:Nat,at' ws (k:Int)=(m:Int)∧m<4294967296:=by
 unfold rJ;obtain⟨⟨ws,i⟩,⟨c,b,d⟩,t⟩:=zN (step:=pT l (n:Int)) (K:=λz=>some z.1) n
  (λk z=>z.2=(k:Int)∧z.1.length=k∧∀j:Nat,j<k->∃m:Nat,at' z.1 (j:Int)=(m:Int)∧m<4294967296) (λk z q v h=>by
  obtain⟨ws,i⟩:=z;obtain⟨c,b,d⟩:=h;dsimp only at c b d;subst c;have a:∀m:Nat,m<4294967296->∀j:Nat,j<k+1->∃p:Nat,at' (ws++[(m:Int)]) (j:Int)=(p:Int)∧p<4294967296:=λm o j u=>by
   rw[PW ws _ (by omega)];by_cases e:j<ws.length
   ·rw[if_pos e];exact d j (by omega)
   ·rw[if_neg e];exact⟨m,rfl,o⟩
  have f:∀m:Nat,(ws.length:Int)+(List.length [(m:Int)]:Int)<=1099511627:=λm=>by simp;omega
  unfold pT sW;dsimp only;rw[if_pos (by omega),dH (by omega)];by_cases x:l.length=0
  ·rw[if_pos (by omega),cO (show(ws.length:Int)+(List.length [(4294967295:Int)]:Int)<=1099511627 from f 4294967295)];exact⟨_,⟨rfl,by simp[b],a 4294967295 (by omega)⟩,rfl⟩
  ·have r:Int.tmod (k:Int) (l.length:Int)=((k%l.length:Nat):Int):=rfl;have w:k%l.length<l.length:=Nat.mod_lt _ (by omega);rw[if_neg (by omega),cO (by omega),cO (by rw[r];omega),cO (by omega),cO (by decide),cO (SI _),cO (SI _)];have s:∀X:Int,∃m:Nat,eG .u32 X (16777215:Int)=(m:Int)∧m<4294967296:=λX=>⟨_,KI _ _,Nat.lt_of_le_of_lt Nat.and_le_left (Lj _)⟩
   obtain⟨m,o,g⟩:=s (Fx .u32 (zE .u32 (eG .u32 (at' l (Int.tmod (k:Int) (l.length:Int))) (16777215:Int)) (wI .u64 (Int.tmod (wI .i64 (Int.tdiv (k:Int) (l.length:Int))) (24:Int)))) (mZ .u32 (eG .u32 (at' l (Int.tmod (k:Int) (l.length:Int))) (16777215:Int)) (wI .u64 ((24:Int) - (wI .u64 (Int.tmod (wI .i64 (Int.tdiv (k:Int) (l.length:Int))) (24:Int)))))));rw[o,cO (f m)];exact⟨_,⟨rfl,by simp[b],a m g⟩,rfl⟩) (λz q h=>by
  obtain⟨ws,i⟩:=z;obtain⟨c,b,d⟩:=h;dsimp only at c;subst c;unfold pT yM;dsimp only;rw[if_neg (by omega)]) 1000 (([]:aX),(0:Int)) ⟨rfl,rfl,λj u=>by omega⟩ (by omega)
 exact⟨ws,t,b,λk v=>d k (by dsimp only at b;omega)⟩
def l_ (a:lW) (v:Nat):Nat:=a.countP λt=>t.testBit v
theorem NS (a:lW) (t v:Nat):l_ (a++[t]) v=l_ a v+if t.testBit v=true then 1 else 0:=by
 unfold l_;rw[List.countP_append];cases h:t.testBit v<;>simp[h]
def SU (f:Nat->Nat):Nat->Nat
 |0=>0
 |n+1=>SU f n+f n
theorem aar {f:Nat->Nat}:∀{n:Nat},(∀v,v<n->f v<=1)->SU f n<=n
 |0,_=>zAd 0
 |n+1,h=>by
  have:=aar (n:=n) λv a=>h v (by omega);have:=h n (by omega);simp only[SU];omega
def WF (c:bO) (v:Nat):Int:=at' (at' c (v:Int)) 0
def PE (g:GR) (c:bO) (v i:Nat):Int:=at' (at' c (jL (row g v) i).1) 0
theorem acV {g:GR} {c:bO} {v i u:Nat} (h:(jL (row g v) i).1=(u:Int)):PE g c v i=WF c u:=by unfold PE WF;rw[h]
theorem TC:∀i,i<256->0<=at' Ji ((i:Nat):Int)∧at' Ji ((i:Nat):Int)<=8∧(i≠0->1<=at' Ji ((i:Nat):Int)):=by
 have h:((List.range 256).all λi=>decide (0<=at' Ji ((i:Nat):Int)∧at' Ji ((i:Nat):Int)<=8∧(i≠0->1<=at' Ji ((i:Nat):Int))))=true:=by decide +kernel
 intro i a;exact zBf (zA4.1 h i (zAn.2 a))
theorem acZ {t:Nat} (I:t<16777216) (F:t≠0):∃n:Nat,iM 1000 (t:Int)=some (n:Int)∧1<=n∧n<=24:=by
 have q:(Ji.length:Int)=256:=by decide +kernel
 have b:∀a:Nat,a<4294967296->eG .u32 (a:Int) 255=((a%256:Nat):Int):=λa p=>by
  rw[show(255:Int)=((255:Nat):Int)from rfl,AF p (by omega),show(255:Nat)=2^8 - 1 from rfl,Nat.and_two_pow_sub_one_eq_mod]
 have c:∀k:Nat,k<32->mZ .u32 (t:Int) (k:Int)=((t / 2^k:Nat):Int):=λk r=>Ir r;have e:mZ .u32 (t:Int) 24=((t / 2^24:Nat):Int):=c 24 (by omega);have d:mZ .u32 (t:Int) 16=((t / 2^16:Nat):Int):=c 16 (by omega);have s:mZ .u32 (t:Int) 8=((t / 2^8:Nat):Int):=c 8 (by omega);have g:t / 2^24=0:=Nat.div_eq_of_lt (by omega);unfold iM;rw[q,e,d,s,b _ (by omega),b _ (by omega),b _ (by omega),g,cO (by decide),cO (by omega),cO (by decide),cO (by omega),cO (by decide),cO (by omega),cO (by omega)];obtain⟨v,w,i⟩:=TC (t / 2^16%256) (by omega);obtain⟨y,z,j⟩:=TC (t / 2^8%256) (by omega);obtain⟨D,E,l⟩:=TC (t%256) (by omega);have u:at' Ji ((0:Nat):Int)=0:=rfl;have h:1<=at' Ji ((t / 2^16%256:Nat):Int)+at' Ji ((t / 2^8%256:Nat):Int)+at' Ji ((t%256:Nat):Int):=by
  by_cases m:t / 2^16%256=0
  ·by_cases o:t / 2^8%256=0
   ·have:=l (by omega);omega
   ·have:=j o;omega
  ·have:=i m;omega
 have f:∀x:Int,0<=x->x<=100->wI .u8 x=x:=λx G H=>by
  rw[Fw];have:IntKind.u8.wrap x=x%256:=rfl;rw[this];omega
 generalize at' Ji ((t / 2^16%256:Nat):Int)=A at *
 generalize at' Ji ((t / 2^8%256:Nat):Int)=B at *
 generalize at' Ji ((t%256:Nat):Int)=C at *
 rw[u,f (0+A) (by omega) (by omega),f (0+A+B) (by omega) (by omega),f (0+A+B+C) (by omega) (by omega),wr (by omega) (by omega)];exact⟨(0+A+B+C).toNat,by congr 1;omega,by omega,by omega⟩
theorem Ga (l:aX) (j:l.length<=900) (h:∀x∈l,∃a:Nat,x=(a:Int)∧a<16777216):iL 1000 l=some true:=by
 unfold iL;refine cR (step:=iZ l) (K:=some true) l.length (λk=>(k:Int)) (λk f d=> ?_) (λf=> ?_) 1000 (by omega)
 ·obtain⟨a,g,b⟩:=h (at' l (k:Int)) (by rw[gN d];exact zB7 d);unfold iZ;rw[if_pos (by omega),cO (by omega),g,dH (by omega)];have:kE .u32 (a:Int) (16777215:Int)=0:=(Yj _ _).2 λi c=>by
   rw[tG (by omega)]at c;have e:Qr 16777215=2^24 - 1:=tG (a:=16777215) (by omega);rw[e,Nat.testBit_two_pow_sub_one,zA8];by_cases h:i<24
   ·exact h
   ·have:=Nat.testBit_lt_two_pow (x:=a) (i:=i) (zAj b (Nat.pow_le_pow_right (n:=2) (by omega) (show 24<=i by omega)));rw[this]at c;cases c
  rw[this,if_neg (by simp)]
 ·unfold iZ nE;rw[if_neg (by omega)]
structure FD (k:Nat) (cnt:CT) (R B pe:Nat):Prop where
 steps:cnt.1=(k:Int)
 moves:(k:Int)<=cnt.2.1∧cnt.2.1<=24*(k:Int)
 rounds:cnt.2.2.1=(R:Int)
 begun:cnt.2.2.2.1=(B:Int)
 pend:cnt.2.2.2.2=(pe:Int)
 le:R<=B∧B<=k∧B<=R+1
 p24:pe<16777216
theorem FD.valid {k:Nat} {i:CT} {R B j:Nat} (h:FD k i R B j) (n:k<=1000):jM 1000 i=some true:=by
 obtain⟨a,b,c,d,e,f,g⟩:=h;have m:=Ga [(j:Int)] (by simp) λx l=>by
  have l:x=(j:Int):=by simpa using l
  exact⟨j,l,g⟩
 unfold jM;rw[a,c,d,if_neg (by omega),if_neg (by omega),if_neg (by omega),if_neg (by omega),zA5 (by omega)];unfold iP lP;rw[a,c,d,e,if_neg (by decide),dH (by omega),if_neg (by omega),if_pos b.1,wr (by omega) (by omega),if_pos b.2,aZ m]
theorem FD.add {k:Nat} {r:CT} {R B o:Nat} (h:FD k r R B o) (I:k<900) {t l:Nat} (A:t<16777216) (C:t≠0) (q:l<16777216) {m:CT} {u:Int} (j:jI 1000 r (t:Int) (l:Int)=some (m,u)):
  ∃p:Nat,(∀i,p.testBit i=(o.testBit i && !t.testBit i&&l.testBit i))∧((p=0∧FD (k+1) m (R+1) (R+1) l)∨(p≠0∧FD (k+1) m R (R+1) p)):=by
 have H:=h.valid (by omega);obtain⟨a,b,c,d,e,f,g⟩:=h;obtain⟨n,D,E,F⟩:=acZ A C;have G:=Ga [(t:Int),(l:Int)] (by simp) λx y=>by
  have y:x=(t:Int)∨x=(l:Int):=by simpa using y
  rcases y with rfl|rfl
  ·exact⟨t,rfl,A⟩
  ·exact⟨l,rfl,q⟩
 have v:rV o t<4294967296:=Iw o t;have w:∀i,(rV o t &&& l).testBit i=(o.testBit i && !t.testBit i&&l.testBit i):=λi=>by
  rw[zBc,AO (by omega) (by omega)]
 have s:rV o t &&& l<16777216:=Nat.lt_of_le_of_lt Nat.and_le_right q;unfold jI at j;rw[aZ (show jM 1000 _=some true from H),if_neg (by decide),if_neg (by omega),aZ G]at j;unfold oD oE at j;dsimp only at j;rw[a,c,e,if_neg (by decide),if_neg (by omega),aZ D,uH,AF v (by omega),dH (by omega),dH (by omega),wr (by omega) (by omega)]at j;refine⟨rV o t &&& l,w,?_⟩
 by_cases z:rV o t &&& l=0
 ·rw[if_pos (by rw[z];rfl)]at j;have:=Option.some.inj j;obtain⟨rfl,_⟩:=Prod.mk.inj this;exact .inl ⟨z,rfl,⟨by dsimp only;omega,by dsimp only;omega⟩,rfl,rfl,rfl,by omega,q⟩
 ·rw[if_neg (by omega)]at j;have:=Option.some.inj j;obtain⟨rfl,_⟩:=Prod.mk.inj this;exact .inr ⟨z,rfl,⟨by dsimp only;omega,by dsimp only;omega⟩,rfl,rfl,rfl,by omega,s⟩
def guL:E:= .bi 41 (.lf 5 0) (.ag 21 (.lf 12 0))
def guE:E:= .bi 41 (.un 19 (.lf 5 0)) (.un 19 (.ag 21 (.lf 12 0)))
def RM:List RL:=[(guL,[(0,.lf 3 0)]),(guE,[(0,.lf 2 0)])]
theorem adj:qI 1 RM=true:=by decide +kernel
theorem loM (g:GR) (v:Nat):lo g (at' Gs ((0:Nat):Int)) v=0:=rfl
theorem hiM (g:GR) (v:Nat):hi g (at' Gs ((0:Nat):Int)) v=1:=rfl
theorem ahx {g:GR} (c:VG g):kK g Gs:=by
 have b:=c.n24;refine⟨by decide,VI,λx a=> ?_,λx a _=> ?_⟩
 ·obtain rfl:x=0:=by simp[Gs]at a;exact a
  exact .inr (.inl Z)
 ·obtain rfl:x=0:=by simp[Gs]at a;exact a
  rw[loM,hiM];omega
theorem JQ {f h:Nat->Nat}:∀{n:Nat},(∀v,v<n->f v=h v)->SU f n=SU h n
 |0,_=>rfl
 |n+1,k=>by simp only[SU];rw[JQ λv a=>k v (by omega),k n (by omega)]
theorem JS (f:Nat->Nat) (a:Nat):∀b,SU f (a+b)=SU f a+SU (λv=>f (a+v)) b
 |0=>rfl
 |b+1=>by show SU f (a+b)+f (a+b)=_;rw[JS f a b];simp only[SU];omega
def sJ (t n:Nat):Nat:=SU (λv=>if t.testBit v=true then 1 else 0) n
theorem Ea (t:Nat) (n:Nat):sJ t n<=n:=aar λv _=>by split<;>omega
theorem TD:∀i,i<256->at' Ji ((i:Nat):Int)=((sJ i 8:Nat):Int):=by
 have h:((List.range 256).all λi=>decide (at' Ji ((i:Nat):Int)=((sJ i 8:Nat):Int)))=true:=by decide +kernel
 intro i hi;exact zBf (zA4.1 h i (zAn.2 hi))
theorem Tu (t:Nat):sJ t 24=sJ (t / 2^16%256) 8+sJ (t / 2^8%256) 8+sJ (t%256) 8:=by
 have c:∀x,sJ (x%256) 8=sJ x 8:=λx=>JQ λv e=>by
  rw[show(256:Nat)=2^8 from rfl,Nat.testBit_mod_two_pow,zA6 e,Bool.true_and]
 have d:∀k,sJ (t / 2^k) 8=SU (λv=>if t.testBit (k+v)=true then 1 else 0) 8:=λk=>JQ λv _=>by
  rw[Nat.testBit_div_two_pow,Nat.add_comm]
 rw[c,c,c,d,d];have a:=JS (λv=>if t.testBit v=true then 1 else 0) 16 8;have b:=JS (λv=>if t.testBit v=true then 1 else 0) 8 8;unfold sJ;rw[show(24:Nat)=16+8 from rfl,a,show(16:Nat)=8+8 from rfl,b];omega
theorem acY {t:Nat} (ht:t<16777216):iM 1000 (t:Int)=some ((sJ t 24:Nat):Int):=by
 have hb:(Ji.length:Int)=256:=by decide +kernel
 have h255:∀a:Nat,a<4294967296->eG .u32 (a:Int) 255=((a%256:Nat):Int):=λa ha=>by
  rw[show(255:Int)=((255:Nat):Int)from rfl,AF ha (by omega),show(255:Nat)=2^8 - 1 from rfl,Nat.and_two_pow_sub_one_eq_mod]
 have hs:∀k:Nat,k<32->mZ .u32 (t:Int) (k:Int)=((t / 2^k:Nat):Int):=λk hk=>Ir hk;have s24:mZ .u32 (t:Int) 24=((t / 2^24:Nat):Int):=hs 24 (by omega);have s16:mZ .u32 (t:Int) 16=((t / 2^16:Nat):Int):=hs 16 (by omega);have s8:mZ .u32 (t:Int) 8=((t / 2^8:Nat):Int):=hs 8 (by omega);have z24:t / 2^24=0:=Nat.div_eq_of_lt (by omega);unfold iM;rw[hb,s24,s16,s8,h255 _ (by omega),h255 _ (by omega),h255 _ (by omega),z24,cO (by decide),cO (by omega),cO (by decide),cO (by omega),cO (by decide),cO (by omega),cO (by omega)];have z0:at' Ji ((0:Nat):Int)=0:=rfl;have w8:∀x:Int,0<=x->x<=100->wI .u8 x=x:=λx h1 h2=>by
  rw[Fw];have:IntKind.u8.wrap x=x%256:=rfl;rw[this];omega
 have la:=Ea (t / 2^16%256) 8;have lb:=Ea (t / 2^8%256) 8;have lc:=Ea (t%256) 8;rw[Tu,TD _ (show t / 2^16%256<256 by omega),TD _ (show t / 2^8%256<256 by omega),TD _ (show t%256<256 by omega),z0];generalize sJ (t / 2^16%256) 8=A at *
 generalize sJ (t / 2^8%256) 8=B at *
 generalize sJ (t%256) 8=C at *
 rw[w8 (0+(A:Int)) (by omega) (by omega),w8 (0+(A:Int)+B) (by omega) (by omega),w8 (0+(A:Int)+B+C) (by omega) (by omega),wr (by omega) (by omega)];congr 1;omega
def QZ (cnt:CT) (t en:Nat):CT:=
 (cnt.1+1,cnt.2.1+((sJ t 24:Nat):Int),(if rV cnt.2.2.2.2.toNat t &&& en=0 then cnt.2.2.1+1 else cnt.2.2.1),cnt.2.2.1+1,(if rV cnt.2.2.2.2.toNat t &&& en=0 then(en:Int)else((rV cnt.2.2.2.2.toNat t &&& en:Nat):Int)))
theorem UB {k:Nat} {cnt:CT} {R B pe:Nat} (h:FD k cnt R B pe) (hk:k<900) {t en:Nat} (ht:t<16777216) (h0:t≠0) (hen:en<16777216):jI 1000 cnt (t:Int) (en:Int)=some (QZ cnt t en,0)∧∃R' B' pe',FD (k+1) (QZ cnt t en) R' B' pe':=by
 have hv:=h.valid (by omega);have key:jI 1000 cnt (t:Int) (en:Int)=some (QZ cnt t en,0):=by
  obtain⟨a,b,c,d,e,f,g⟩:=h;have hn:=acY ht;have hn2:=Ea t 24;have hp:=Ga [(t:Int),(en:Int)] (by simp) λx hx=>by
   have hx:x=(t:Int)∨x=(en:Int):=by simpa using hx
   rcases hx with rfl|rfl
   ·exact⟨t,rfl,ht⟩
   ·exact⟨en,rfl,hen⟩
  have hdl:rV pe t<4294967296:=Iw pe t;unfold jI;rw[aZ (show jM 1000 _=some true from hv),if_neg (by decide),if_neg (by omega),aZ hp];unfold oD oE QZ;dsimp only;rw[a,c,e,zAe,if_neg (by decide),if_neg (by omega),aZ hn,uH,AF hdl (by omega),dH (by omega),dH (by omega),wr (by omega) (by omega)];by_cases hz:rV pe t &&& en=0
  ·rw[if_pos (by rw[hz];rfl),if_pos hz,if_pos hz];rfl
  ·rw[if_neg (by omega),if_neg hz,if_neg hz];rfl
 refine⟨key,?_⟩
 obtain⟨pe',_,q|q⟩:=h.add hk ht h0 hen key
 ·exact⟨_,_,_,q.2⟩
 ·exact⟨_,_,_,q.2⟩
section
variable {C:Type} (en:C->Nat) (st:C->Nat->C) (rs:Nat->Int->Nat) (ws:List Int) (c0:C)
def cX:Nat->C
 |0=>c0
 |k+1=>st (cX k) (rs (en (cX k)) (at' ws (k:Int)))
def GE (k:Nat):Nat:=en (cX en st rs ws c0 k)
def tX (k:Nat):Nat:=rs (GE en st rs ws c0 k) (at' ws (k:Int))
def HN:Nat->CT
 |0=>(0,0,0,0,((en c0:Nat):Int))
 |k+1=>QZ (HN k) (tX en st rs ws c0 k) (GE en st rs ws c0 (k+1))
def ady (k:Nat):Prop:=k<=ws.length∧(k=ws.length∨GE en st rs ws c0 k=0)∧∀j,j<k->GE en st rs ws c0 j≠0
def aas (k:Nat):List Int×List Int×C×CT:=(tU ((List.range k).map (tX en st rs ws c0)),(List.range (k+1)).map (λj=>((GE en st rs ws c0 j:Nat):Int)),cX en st rs ws c0 k,HN en st rs ws c0 k)
end
section
variable {p:Dr} {g:GR} {R:List RL}
theorem TL (hV:VG g) (hp:kK g p.2.1) (hz:p.2.2.map wK=EI R) (hR:qI p.2.1.length R=true) {kind:Int} (hk1:1<=kind) (hk4:kind<=4) {c0:List (List Int)} (hc0:Jo g c0 p.2.1) {ws:List Int} (hws:ws.length<=800) (hw:∀k:Nat,k<ws.length->∃m:Nat,at' ws (k:Int)=(m:Int)∧m<4294967296):
  ∃k,ady (BE (cC p g) R (kS g)) (kY (cC p g) p.2.1 R) (λe w=>xK g kind e w.toNat) ws c0 k∧
   iC 1000 p g kind c0 ws=some (aas (BE (cC p g) R (kS g)) (kY (cC p g) p.2.1 R) (λe w=>xK g kind e w.toNat) ws c0 k,0):=by
 let en:=BE (cC p g) R (kS g);let st:=kY (cC p g) p.2.1 R;let rs:Nat->Int->Nat:=λe w=>xK g kind e w.toNat;have en24:∀c,en c<16777216:=λc=>Hj.lt (g:=g) hV (FW (cC p g) R (kS g) c);obtain⟨net,hnet,hN⟩:=T_ hV;obtain⟨k,c,ch,cnt,ens,h1,⟨h2,h3,h4,h5,h6,_⟩,h7,h8,h9,h10,h11,h12⟩:=TK hV hp hz hR hk1 hk4 hc0 (ws:=ws) (by omega) hw
  (λk c ch cnt ens=>c=cX en st rs ws c0 k∧ch=(List.range k).map (tX en st rs ws c0)∧cnt=HN en st rs ws c0 k∧ens=(List.range (k+1)).map (λj=>((GE en st rs ws c0 j:Nat):Int))∧(∀j,j<k->GE en st rs ws c0 j≠0)∧∃R' B pe,FD k cnt R' B pe)
  (by
   have hpe:eG .u32 ((en c0:Nat):Int) 16777215=((en c0:Nat):Int):=by
    have:=en24 c0;rw[show(16777215:Int)=((16777215:Nat):Int)from rfl,AF (by omega) (by omega),show(16777215:Nat)=2^24 - 1 from rfl,Nat.and_two_pow_sub_one_eq_mod,Nat.mod_eq_of_lt (by omega)]
   refine⟨rfl,rfl,?_,rfl,λj hj=>by omega,0,0,en c0,?_⟩
   ·show((0,0,0,0,eG .u32 ((en c0:Nat):Int) 16777215):CT)=_;rw[hpe];rfl
   ·refine⟨rfl,by dsimp only;omega,rfl,rfl,hpe,by omega,en24 c0⟩)
  (λk c ch cnt ens t cnt' err hk hsh hI hne ht0 hsub hind _ hres hadd=>by
   obtain⟨rfl,rfl,rfl,rfl,a5,R',B,pe,hc⟩:=hI;obtain⟨net',hn',hr'⟩:=hres;obtain rfl:net=net':=Option.some.inj (hnet.symm.trans hn');obtain⟨w,hwe,hw32⟩:=hw k hk;have heG:Hj g (en (cX en st rs ws c0 k)):=FW (cC p g) R (kS g) _;have ht:t=tX en st rs ws c0 k:=by
    have hX:=RX hV hN kind heG hw32;rw[hwe]at hr';have:=Option.some.inj (hr'.symm.trans hX);have e2:tX en st rs ws c0 k=xK g kind (en (cX en st rs ws c0 k)) w:=by
     show xK g kind _ (at' ws (k:Int)).toNat=_;rw[hwe];rfl
    rw[e2];omega
   have htG:Hj g t:=λi hi=>heG i (hsub i hi);have ht24:=Hj.lt hV htG;have hc1:kY (cC p g) p.2.1 R (cX en st rs ws c0 k) t=cX en st rs ws c0 (k+1):=by rw[ht];rfl
   rw[hc1]at hadd ⊢;have hen1:BE (cC p g) R (kS g) (cX en st rs ws c0 (k+1))=GE en st rs ws c0 (k+1):=rfl;rw[hen1]at hadd ⊢;obtain⟨q1,q2⟩:=UB hc (by omega) ht24 ht0 (en24 _) (en:=GE en st rs ws c0 (k+1));have hcc:cnt'=HN en st rs ws c0 (k+1):=by
    have:=Option.some.inj (hadd.symm.trans q1);rw[(Prod.mk.inj this).1,ht];rfl
   refine⟨rfl,?_,hcc,?_,λj hj=> ?_,?_⟩
   ·rw[ht,zB8,List.map_append,zB4]
   ·rw[zB8 (n:=k+1),List.map_append,zB4]
   ·by_cases e:j<k
    ·exact a5 j e
    ·obtain rfl:j=k:=by omega
     exact hne
   ·rw[hcc,show HN en st rs ws c0 (k+1)=QZ (HN en st rs ws c0 k) t (GE en st rs ws c0 (k+1)) by rw[ht];rfl];exact q2)
 subst h2 h3 h4 h5;exact⟨k,⟨h8,h12,h6⟩,h1⟩
end
theorem aed {n:Nat} (c:n<=24):kC 1000 (n:Int)=some ((2^n - 1:Nat):Int):=by
 have e:∀k,mM (λ_=>true) k=2^k - 1:=λk=>EU λi=>by rw[Cs,Nat.testBit_two_pow_sub_one,Bool.and_true]
 rw[<-e];unfold kC;refine cR (F:=λv:Nat=>(((mM (λ_=>true) v:Nat):Int),(v:Int))) n (λv a d=> ?_) (λa=> ?_) 1000 (by omega)
 ·have b:=Dk (λ_=>true) (k:=v) (by omega);unfold vW vV;dsimp only;rw[if_pos (by omega),zA6 (by omega),if_pos Z,SH (by omega),cO (by omega),EF b (by omega),dH (by omega)];rfl
 ·unfold vW vV z_;dsimp only;rw[if_neg (by omega),if_neg (by decide)]
theorem YS {g:GR} (a:VG g) {e:Nat} (b:Hj g e):rV e (2^g.2.length - 1)=0:=by
 have f:=a.n24;have c:=b.lt a;have d:2^g.2.length - 1<4294967296:=UC a;refine EU λv=> ?_;rw[AO (by omega) d,Nat.testBit_two_pow_sub_one,zBe];cases h:e.testBit v with
 |false=>rfl
 |true=>rw[zA6 (b v h)];rfl
theorem Zz {m:Nat} (hm:m<4294967296):s_ 1000 (m:Int)=some ((Nc m:Nat):Int):=by
 unfold s_;by_cases h0:m=0
 ·rw[h0,GN];refine cR (step:=oW 1000 ((0:Nat):Int)) 32 (λk=>(k:Int)) (λk ag hk=> ?_) (λag=> ?_) 1000 (by omega)
  ·unfold oW;rw[if_pos (by omega),aZ (EN (by omega) hk),if_neg (by simp),dH (by omega)]
  ·rfl
 ·obtain⟨k,hk⟩:=BW h0;have hk32:k<32:=Dv hm hk.bit;rw[KS hk];refine cR (step:=oW 1000 (m:Int)) k (λj=>(j:Int)) (λj ag hj=> ?_) (λag=> ?_) 1000 (by omega)
  ·unfold oW;rw[if_pos (by omega),aZ (EN hm (by omega)),hk.low j hj,if_neg (by decide),dH (by omega)]
  ·unfold oW;rw[if_pos (by omega),aZ (EN hm hk32),hk.bit,if_pos Z,SH hk32,cO (by omega),UF hk32]
theorem acE {g:GR} (hV:VG g) {W:Nat} (hW:Hj g W):rF 1000 g (W:Int)=some ((Fy g W 32:Nat):Int):=by
 have h24:=hV.n24;have hW24:=hW.lt hV;rw[Iz (s:=g.2.length) (k:=32) (by omega) λi h1 _=>by
  cases hx:W.testBit i with
  |false=>rfl
  |true=>have:=hW i hx;omega]
 unfold rF;refine cR (step:=nA 1000 g (W:Int)) g.2.length (λk=>(((Fy g W k:Nat):Int),(k:Int))) (λk ag hk=> ?_) (λag=> ?_) 1000 (by omega)
 ·have h32:=Zl (g:=g) (W:=W) (k:=k) (by omega);unfold nA yE sS;dsimp only;rw[if_pos (by omega),aZ (EN (by omega) (by omega)),SH (by omega),dH (by omega)];cases hb:W.testBit k with
  |false=>
   rw[if_neg (by decide),if_neg (by decide),Fy,if_neg (λq=>by rw[hb]at q;exact absurd q.1 (by decide))]
  | true =>
   have hm32:=Dk (λv=>AM (JE g (Fy g W k) v) (row g v).length) (k:=g.2.length) (by omega);rw[if_pos Z,aZ (show jW 1000 _ _=_ from Hs hV h32),aZ (EN hm32 (by omega))];have hnb:(mM (λv=>AM (JE g (Fy g W k) v) (row g v).length) g.2.length).testBit k=true↔∃u,JZ g k u∧(Fy g W k).testBit u=true:=by
    rw[Cs,zA1,zA8,Lq];constructor
    ·rintro⟨_,i,hi,h⟩;obtain⟨u,hu,he⟩:=hV.to hk hi;refine⟨u,⟨i,hi,he⟩,?_⟩
     unfold JE at h;rw[he]at h;exact h
    ·rintro⟨u,⟨i,hi,he⟩,h⟩;refine⟨hk,i,hi,?_⟩
     unfold JE;rw[he];exact h
   cases hx:(mM (λv=>AM (JE g (Fy g W k) v) (row g v).length) g.2.length).testBit k with
   |true=>
    obtain⟨u,h1,h2⟩:=hnb.1 hx;rw[Bool.not_true,if_neg (by decide),Fy,if_neg (λq=>q.2 u h2 h1)]
   |false=>
    rw[Bool.not_false,if_pos Z,cO (by omega),EF h32 (by omega),Fy,if_pos ⟨hb,λu h2 h1=>by rw[hnb.2 ⟨u,h1,h2⟩]at hx;cases hx⟩]
 ·unfold nA yD;dsimp only;rw[if_neg (by omega)]
theorem aag {g:GR} (hV:VG g) {kind:Int} (hk1:1<=kind) (hk4:kind<=4) {e w:Nat} (he:Hj g e) (h0:e≠0) (hw:w<4294967296):sQ 1000 g kind (e:Int) (w:Int)=some ((xK g kind e w:Nat):Int):=by
 have h24:=hV.n24;have he24:=he.lt hV;have hv:mB 1000 kind=some true:=by
  unfold mB oY;rw[if_pos hk1,zA6 hk4]
 have hpos:rH 1000 g kind (e:Int)=some true:=by
  unfold rH mX;rw[aZ (show gW 1000 _=some true from(Cp g).1 hV),if_pos Z,aZ hv,if_pos Z,aZ (aed h24),uH,YS hV he];rfl
 unfold sQ;rw[aZ (show rH 1000 _ kind _=_ from hpos),if_neg (by decide),zA5 (by omega)];have hWG:Hj g (Eu e w):=λi hi=>he i (OD hi);have hW32:=SJ (e:=e) (w:=w) (by omega) hw;have e1:rP 1000 g kind (e:Int) (w:Int) false=rQ 1000 g kind (e:Int) ((Eu e w:Nat):Int):=by
  unfold rP Eu;rw[if_neg (by decide),AF hw (by omega)];by_cases hz:w &&& e=0
  ·rw[hz,if_pos (show((0:Nat):Int)=0 from rfl),if_pos Z,aZ (Zz (by omega))]
  ·rw[if_neg (by omega),if_neg hz]
 rw[e1];unfold xK;generalize Eu e w=W at hW32 hWG ⊢;unfold afJ rQ;by_cases k1:kind=1
 ·rw[if_pos k1,if_pos k1,aZ (Zz hW32)]
 rw[if_neg k1,if_neg k1];by_cases k2:kind=2
 ·rw[if_pos k2,if_pos k2,aZ (show rF 1000 _ _=_ from acE hV hWG)]
 rw[if_neg k2,if_neg k2];by_cases k4:kind=4
 ·rw[if_pos k4,if_pos k4]
 ·rw[if_neg k4,if_neg k4]
theorem PM {g:GR} (c:VG g) {a:Int} (d:1<=a) (f:a<=4) {e w:Nat} (k:Hj g e) (n:e≠0) (m:w<4294967296):xK g a e w≠0∧∀i,(xK g a e w).testBit i=true->e.testBit i=true:=by
 obtain⟨p,l,j⟩:=T_ c;obtain⟨t,o,b,h⟩:=Ml c j d f k m;have:=Option.some.inj (o.symm.trans (RX c j a k m));obtain rfl:t=xK g a e w:=by omega
 exact⟨(h n).1,b⟩
theorem aeY {t:Nat} (ht:t<16777216):wZ 1000 (t:Int)=some ((sJ t 24:Nat):Int):=by
 have e32:sJ t 32=sJ t 24:=by
  have z:∀d,sJ t (24+d)=sJ t 24:=λd=>by
   induction d with
   |zero=>rfl
   |succ d ih=>
    have hb:t.testBit (24+d)=false:=Nat.testBit_lt_two_pow (zAj (show t<2^24 by omega) (Nat.pow_le_pow_right (by omega) (by omega)));show SU _ (24+d+1)=_;rw[SU,hb,if_neg (by decide)];exact ih
  exact z 8
 rw[<-e32];unfold wZ;refine cR (step:=rO 1000 (t:Int)) 32 (λk=>(((sJ t k:Nat):Int),(k:Int))) (λk ag hk=> ?_) (λag=> ?_) 1000 (by omega)
 ·have hl:=Ea t k;unfold rO uW;dsimp only;rw[if_pos (by omega),aZ (EN (by omega) hk),dH (by omega),dH (by omega)];have e:sJ t (k+1)=sJ t k+if t.testBit k=true then 1 else 0:=by unfold sJ;rw[SU]
  rw[e];cases hb:t.testBit k with
  |true=>rw[if_pos Z,if_pos Z]
  |false=>rw[if_neg (by decide),if_neg (by decide)];rfl
 ·unfold rO Al;dsimp only;rw[if_neg (by decide)]
theorem YR {a:Nat} (c:a<16777216):rV a (2^24 - 1)=0:=by
 refine EU λv=> ?_;rw[AO (by omega) (by decide),Nat.testBit_two_pow_sub_one,zBe];cases b:a.testBit v with
 |false=>rfl
 | true =>
  have:v<24:=Nat.lt_of_not_le λh=>by
   rw[Nat.testBit_lt_two_pow (zAj (show a<2^24 by omega) (Nat.pow_le_pow_right (by omega) h))]at b;cases b
  rw[zA6 this];rfl
theorem ahM {k:Nat} {cnt:CT} {R B pe:Nat} (h:FD k cnt R B pe) (hk:k<900) {t en:Nat} (ht:t<16777216) (h0:t≠0) (hen:en<16777216):uL 1000 cnt (t:Int) (en:Int)=some (QZ cnt t en,0):=by
 obtain⟨a,b,c,d,e,f,g⟩:=h;have hn2:=Ea t 24;have hall:kC 1000 24=some ((2^24 - 1:Nat):Int):=aed (n:=24) (by omega);have hv:xA 1000 cnt=some true:=by
  unfold xA;rw[a,c,d,if_neg (by omega),if_neg (by omega),wr (by omega) (by omega),if_neg (by omega),zA5 (by omega)];unfold rR oZ;rw[a,if_neg (by decide),if_pos (by omega),if_pos b.1,wr (by omega) (by omega),if_pos b.2,aZ hall,e,uH,YR g];rfl
 have hor:t ||| en<16777216:=Nat.or_lt_two_pow (n:=24) ht hen;unfold uL;rw[aZ (show xA 1000 _=some true from hv),if_neg (by decide),if_neg (by omega),aZ hall,abl (by omega) (by omega),uH,YR hor,zA5 (by decide)];unfold Co Am QZ;have hdl:rV pe t<4294967296:=Iw pe t;dsimp only;rw[a,c,e,zAe,if_neg (by decide),if_neg (by omega),aZ (aeY ht),uH,AF hdl (by omega),dH (by omega),dH (by omega),wr (by omega) (by omega)];by_cases hz:rV pe t &&& en=0
 ·rw[if_pos (by rw[hz];rfl),if_pos hz,if_pos hz];rfl
 ·rw[if_neg (by omega),if_neg hz,if_neg hz];rfl
theorem agB {e:Nat} (a:e<16777216):eG .u32 (e:Int) ((2^24 - 1:Nat):Int)=(e:Int):=by
 rw[AF (by omega) (by decide),Nat.and_two_pow_sub_one_eq_mod,Nat.mod_eq_of_lt (by omega)]
section
variable {p:Dr} {g:GR} {R:List RL}
theorem PQ (d:VG g) (u:kK g p.2.1) {a:Int} (l:1<=a) (n:a<=4) {c:List (List Int)} (f:Jo g c p.2.1) {lv:Nat} {b:List Int} (r:b.length<=800) (v:∀k:Nat,k<b.length->∃m:Nat,at' b (k:Int)=(m:Int)∧m<4294967296):
  ∀j,j<=b.length->(∀i,i<j->GE (BE (cC p g) R lv) (kY (cC p g) p.2.1 R) (λe w=>xK g a e w.toNat) b c i≠0)->
   Jo g (cX (BE (cC p g) R lv) (kY (cC p g) p.2.1 R) (λe w=>xK g a e w.toNat) b c j) p.2.1∧∃s B x,FD j (HN (BE (cC p g) R lv) (kY (cC p g) p.2.1 R) (λe w=>xK g a e w.toNat) b c j) s B x
 |0,_,_=>⟨f,0,0,BE (cC p g) R lv c,rfl,by dsimp only[HN];omega,rfl,rfl,rfl,by omega,Hj.lt (g:=g) d (FW (cC p g) R lv c)⟩
 | j + 1, hj, hne => by
  obtain⟨A,s,B,x,C⟩:=PQ d u l n f r v j (by omega) (λi t=>hne i (by omega));refine⟨Ou (S:=cC p g) u A,?_⟩
  obtain⟨w,q,o⟩:=v j (by omega);have h:Hj g (GE (BE (cC p g) R lv) (kY (cC p g) p.2.1 R) (λe w=>xK g a e w.toNat) b c j):=FW (cC p g) R lv _;have D:tX (BE (cC p g) R lv) (kY (cC p g) p.2.1 R) (λe w=>xK g a e w.toNat) b c j=xK g a (GE (BE (cC p g) R lv) (kY (cC p g) p.2.1 R) (λe w=>xK g a e w.toNat) b c j) w:=by
   show xK g a _ (at' b (j:Int)).toNat=_;rw[q];rfl
  obtain⟨y,z⟩:=PM d l n h (hne j (by omega)) o;rw[<-D]at y z;exact(UB C (by omega) (Hj.lt d λi t=>h i (z i t)) y (Hj.lt (g:=g) d (FW (cC p g) R lv _))).2
end
end Go.Proofs.YtahgemjmgopleaaGreatDoor
namespace Go.Proofs.YtahgemjmgopleaaGreatDoor
open Go.Sx
def Bh  (a:Unit):Option Bool:=
 some (true)
def xF (U:Nat) (c:bO) (e:bO) (a:Int) (b:(Int)->Option Bool):Option Bool:=
 if a<(c.length:Int)then(ck (0<=a∧a<(c.length:Int)) (ck (0<=a∧a<(e.length:Int)) (Option.bind (vM U (at' c a) (at' e a)) λd=>(if(!d)=true then(some (false))else(b (wI .i64 (a+(1:Int))))))))else(Bh  (()))
def Ci (U:Nat) (a:bO) (b:bO):Option Bool:=
 if(a.length:Int)≠(b.length:Int)then(some (false))else(bK (xF U a b) U (0:Int))
theorem aev:aV Tryz.prog 42:=Tryz.call42
theorem P_ (U:Nat) {f:bO} {g:bO} (j:Value)  (p:lU)  (k:Value)  (q:lU) (r:Bool) (h:Ci U f g=some r):
  aW Tryz.prog 42 #[j,k] [S2 bX j p f,S2 bX k q g] (λx:Unit=>vB (r)) (λx l=>l) (λ_ l=>l):=by
 refine aW.of Tryz.func42 Z Tryz.ntmps42 Z λc=>?_;refine aR<|aB Z<|aL<|aK<|aR<|aA Z<|aC (gM Z (aD.fact 0 Z) Z) Z<|aA Z<|aC (gM Z (aD.fact 1 Z) Z) Z<|jQ Z<|aL ?_;refine d_ h Z (λh=>?_) λh=>?_
 ·refine aR<|aB Z<|aL<|aQ<|aI ?_;cases h;exact fW Z
 refine cE<|aK<|dK (λe=>Bh  e=some r) (λe n=>[]) (λe n=>[]) ?_ ?_
 ·refine aR<|aB Z<|aL<|aS<|eB (xF U f g) (λd o=>[(0,j),(1,k),(5,vI (d))]) (λd o=>[]) (0:Int) () h SF (bA.refl _) ?_;intro t d o h;refine aK<|aR<|aA Z<|aA Z<|aC (gM Z (aD.fact 0 Z) Z) Z<|cZ Z<|aL ?_;refine d_ h Z (λh=>?_) λh=>?_
  ·refine cE<|aK<|aS<|aK ?_;refine JR.start [0,0,3,7,0,0,48,112,255,511] 8 mixedOrders (by decide +kernel) ?_;refine zBj (by exact rfl) ?_;refine aY Z<|aY Z<|dW h λa h=>bM Z .nil (kH 0 Z) (cY Z Z (aD.fact 0 Z) Z Z a) aU.z<|bM Z .nil (kH 0 Z) (cL Z (aD.fact 0 Z) Z Z a) aU.z<|aY Z<|aY Z<|dW h λb h=>bM Z .nil (kH 1 Z) (cY Z Z (aD.fact 0 Z) Z Z b) aU.z<|bM Z .nil (kH 1 Z) (cL Z (aD.fact 0 Z) Z Z b) aU.z<|bP 8 Z Z<|dZ h λi m h=>aH (zBg aeB (JO U ((at' p d).1) ((at' q d).1) i m) Z (aG.cons (zBi (aD.fact 0 Z) a.1 a.2) (aG.cons (zBi (aD.fact 1 Z) b.1 b.2) .nil))) Z λs=>aC (lV Z) Z<|aL ?_;refine tT h Z (λ_ h=>?_) λ_ h=>?_
   ·refine aR<|aB Z<|aL<|aQ<|bG<|aI<|aI<|bG<|aI ?_;cases h;exact fW Z
   refine dM<|jH<|aO<|aA Z<|cD Z<|aB Z<|aL ?_;exact tV (wI .i64 (d+(1:Int))) () h SF Z
  refine eS ?_;exact eW () (()) h SF Z
 intro e n h;unfold Bh at h;refine aR<|aB Z<|aL<|aQ ?_;cases h;exact fW Z
end Go.Proofs.YtahgemjmgopleaaGreatDoor
namespace Go.Proofs.YtahgemjmgopleaaGreatDoor
open Go Go.Sx
theorem afN (c:bO) (h:c.length<=900) (d:∀v:Nat,v<c.length->(at' c (v:Int)).length<=30):Ci 1000 c c=some true:=by
 unfold Ci;rw[if_neg (by simp)];refine cR (step:=xF 1000 c c) c.length (λk=>(k:Int)) (λk a b=> ?_) (λa=> ?_) 1000 (by omega)
 ·unfold xF;rw[if_pos (by omega),cO (by omega),cO (by omega),aZ (Ni _ (d k b)),if_neg (by decide),dH (by omega)]
 ·unfold xF Bh;rw[if_neg (by omega)]
abbrev adI:(List Int×List Int×bO×CT)×Int:=(([],[],[],(0,0,0,0,0)),12)
section
variable {p:Dr} {g:GR}
theorem acl (d:VG g) (f:kK g p.2.1) {a:Int} (e:¬(1<=a∧a<=4)) {b:List (List Int)} (c:Jo g b p.2.1) (n:Int):rW 1000 p g a b n=some 12:=by
 have:rD 1000 a=some false:=by
  unfold rD pI;by_cases h:1<=a
  ·rw[if_pos h,zA5 (λq=>e ⟨h,q⟩)]
  ·rw[if_neg h]
 unfold rW;rw[aZ (show rE 1000 _ _ b=_ from Rh d f c),if_neg (by decide),aZ this,if_pos (by decide)]
theorem Zj (d:VG g) (f:kK g p.2.1) {a:Int} (e:¬(1<=a∧a<=4)) {b:List (List Int)} (c:Jo g b p.2.1) (h:List Int):iC 1000 p g a b h=some adI:=by
 unfold iC;rw[aZ (show rW 1000 _ _ a b _=_ from acl d f e c _),if_pos (by decide)]
theorem adv {a:Int} (b:¬(1<=a∧a<=4)):mB 1000 a=some false:=by
 unfold mB oY;by_cases h:1<=a
 ·rw[if_pos h,zA5 (λq=>b ⟨h,q⟩)]
 ·rw[if_neg h]
end
end Go.Proofs.YtahgemjmgopleaaGreatDoor
namespace Go.Proofs.YtahgemjmgopleaaGreatDoor
open Go.Sx
def pV  (a:eL):Option gC:=
 some (a.1,a.2)
def pW (d:Ft) (a:Int×Int×Int×aX) (c:(Int×Int×Int×aX)->Option gC) (b:qA):Option gC:=
 c ((Fx .u32 a.1 (at' d.1 a.2.2.1)),b.1,(wI .i64 (a.2.2.1+(1:Int))),b.2)
def mH (e:Ft) (b:Int×Int×Int×aX) (c:(Int×Int×Int×aX)->Option gC) (a:Int×Int×aX) (d:(Int×Int×aX)->Option gC):Option gC:=
 if a.2.1<(24:Int)then(ck ((0<=a.2.1∧a.2.1<((24:Nat):Int))∧a.2.2.length=24) (ck (0<=a.2.1) (ck ((0<=a.2.1∧a.2.1<((24:Nat):Int))∧a.2.2.length=24) (ck ((0<=a.2.1∧a.2.1<((24:Nat):Int))∧(List.set a.2.2 (Int.toNat a.2.1) (wI .i64 ((at' a.2.2 a.2.1)+(wI .i64 (eG .u32 (mZ .u32 (at' e.1 b.2.2.1) a.2.1) (1:Int)))))).length=24) (d ((max a.1 (at' (List.set a.2.2 (Int.toNat a.2.1) (wI .i64 ((at' a.2.2 a.2.1)+(wI .i64 (eG .u32 (mZ .u32 (at' e.1 b.2.2.1) a.2.1) (1:Int)))))) a.2.1)),(wI .i64 (a.2.1+(1:Int))),(List.set a.2.2 (Int.toNat a.2.1) (wI .i64 ((at' a.2.2 a.2.1)+(wI .i64 (eG .u32 (mZ .u32 (at' e.1 b.2.2.1) a.2.1) (1:Int))))))))))))else(pW e b c (a.1,a.2.2))
def iI (U:Nat) (c:Ft) (a:Int×Int×Int×aX) (b:(Int×Int×Int×aX)->Option gC):Option gC:=
 if a.2.2.1<(c.1.length:Int)then(ck (0<=a.2.2.1∧a.2.2.1<(c.1.length:Int)) (bK (mH c a b) U (a.2.1,(0:Int),a.2.2.2)))else(pV  (a.1,a.2.1))
def gX (U:Nat) (a:Ft):Option gC:=
 bK (iI U a) U ((0:Int),(0:Int),(0:Int),(List.replicate 24 (0:Int)))
theorem Yr:aV Tryz.prog 34:=Tryz.call34
theorem Cc (U:Nat) {d:Ft} (j:Value)  (v:Value)  (w:Value)  (B:lU) (r:eL) (h:gX U d=some r):
  aW Tryz.prog 34 #[Value.agg #[j,v,w,vI (d.2.2.2.1),vI (d.2.2.2.2.1),vI (d.2.2.2.2.2.1),vI (d.2.2.2.2.2.2.1),vU (d.2.2.2.2.2.2.2)]] [Sl wR j d.1,Sl wR v d.2.1,S2 bX w B d.2.2.1] (λx:Unit=>Value.tuple #[vU (r.1),vI (r.2)]) (λx l=>l) (λ_ l=>l):=by
 refine aW.of Tryz.func34 Z Tryz.ntmps34 Z λc=>?_;unfold gX at h;refine aR<|aH (aN.box (cs:=[j,v,w,vI (d.2.2.2.1),vI (d.2.2.2.2.1),vI (d.2.2.2.2.2.1),vI (d.2.2.2.2.2.2.1),vU (d.2.2.2.2.2.2.2)]) Z Z) Z λC=>aB Z<|aB Z<|aL<|aR ?_;refine aH (aN.alloc (cs:=cellsOf cS (List.replicate 24 (0:Int))) Z (by kernel_rfl)) Z λi=>?_;refine aL<|aK<|dK (λg=>pV  g=some r) (λg y=>[(2,vU (g.1)),(3,vI (g.2))]) (λg y=>[]) ?_ ?_
 ·refine aR<|bN Z<|dL 1 Z<|iF (aD.fact 0 Z) Z<|aA Z<|aL<|aS<|eB (iI U d) (λa k=>[(2,vU (a.1)),(3,vI (a.2.1)),(4,vP i),(9,j),(10,vI (d.1.length:Int)),(11,vI (a.2.2.1))]) (λa k=>[cJ i (cellsOf cS a.2.2.2) 113]) ((0:Int),(0:Int),(0:Int),(List.replicate 24 (0:Int))) () h SF (bA.ix [0] Z Z) ?_;intro t a k h;refine aR<|cZ Z<|aL<|aK ?_;refine d_ h Z (λh=>?_) λh=>?_
  ·refine cE<|aK<|dK (λf=>pW d a (bK (iI U d) t) f=some r) (λf m=>[(2,vU (Fx .u32 a.1 (at' d.1 a.2.2.1))),(3,vI (f.1)),(4,vP i),(9,j),(10,vI (d.1.length:Int)),(11,vI (a.2.2.1))]) (λf m=>[cJ i (cellsOf cS f.2) 113]) ?_ ?_
   ·refine aS<|aR<|dW h λo h=>aC (a_ Z Z (aD.fact 0 Z) Z Z o) Z<|aC (bY Z (aD.fact 0 Z) Z Z Z AI o) Z<|aB Z<|aL<|aR<|aA Z<|aA Z<|aC (Kr Z Z) Z<|aB Z<|aL<|aR<|aA Z<|aL<|aS<|eB (mH d a (bK (iI U d) t)) (λb n=>[(2,vU (Fx .u32 a.1 (at' d.1 a.2.2.1))),(3,vI (b.1)),(4,vP i),(6,vU (at' d.1 a.2.2.1)),(9,j),(10,vI (d.1.length:Int)),(11,vI (a.2.2.1)),(18,vI (b.2.1))]) (λb n=>[cJ i (cellsOf cS b.2.2) 113]) (a.2.1,(0:Int),a.2.2.2) () h SF (bA.refl _) ?_;intro A b n h;refine aR<|cZ Z<|aL<|aK ?_;refine d_ h Z (λh=>?_) λh=>?_
    ·refine cE<|aK<|aS<|aR<|aA Z<|aB Z<|aL<|aK ?_;refine JR.start [0,1,3,0,0,24,56,120,255,511,1023] 8 mixedOrders (by decide +kernel) ?_;refine zBj (by exact rfl) ?_;refine aY Z<|dW h λp h=>iY Z (lM Z Z Z Z Z p.1)<|bM Z (bA.cons 0 Z .nil) .nil (Jp (e:=cS) Z (aD.res 0 Z) Z Z Z Z p) aU.z<|aY Z<|aY Z<|dW h λu h=>iY Z (Iq Z Z u)<|iY Z (NM Z Z)<|iY Z (Cw Z Z Z)<|bP 8 Z Z<|cD Z<|dW h λq h=>aC (lM Z Z Z Z Z q.1) Z<|HF 0 (e:=cS) (wI .i64 ((at' b.2.2 b.2.1)+(wI .i64 (eG .u32 (mZ .u32 (at' d.1 a.2.2.1) b.2.1) (1:Int))))) q Z Z Z Z Z Z Z<|aL<|aO<|aA Z<|aA Z<|dW h λs h=>aC (lM Z Z Z Z Z s.1) Z<|aC (Jp (e:=cS) Z (aD.res 0 Z) Z Z Z Z s) Z<|aC (DZ Z Z) Z<|aB Z<|eN<|jH<|aO<|cD Z<|aA Z<|aL ?_;exact tV ((max b.1 (at' (List.set b.2.2 (Int.toNat b.2.1) (wI .i64 ((at' b.2.2 b.2.1)+(wI .i64 (eG .u32 (mZ .u32 (at' d.1 a.2.2.1) b.2.1) (1:Int)))))) b.2.1)),(wI .i64 (b.2.1+(1:Int))),(List.set b.2.2 (Int.toNat b.2.1) (wI .i64 ((at' b.2.2 b.2.1)+(wI .i64 (eG .u32 (mZ .u32 (at' d.1 a.2.2.1) b.2.1) (1:Int))))))) () h SF Z
    refine qC<|eZ<|eZ<|wQ<|jH ?_;exact eW (b.1,b.2.2) () h SF Z
   intro f m h;unfold pW at h;refine aO<|cD Z<|aA Z<|aL ?_;exact tV ((Fx .u32 a.1 (at' d.1 a.2.2.1)),f.1,(wI .i64 (a.2.2.1+(1:Int))),f.2) () h SF Z
  refine eS ?_;exact bU (a.1,a.2.1) () h SF .nil (aG.refl _ _)
 intro g y h;unfold pV at h;refine aR<|aA Z<|aA Z<|aB Z<|aB Z<|aL<|aQ ?_;cases h;exact eD () Z Z (RV.tmp Z) (RV.tmp Z) (bA.refl _) aG.nil
end Go.Proofs.YtahgemjmgopleaaGreatDoor
namespace Go.Proofs.YtahgemjmgopleaaGreatDoor
open Go Go.Sx
def IJ (a:lW):Nat:=a.foldl (· ||| ·) 0
theorem ZT (a:lW) (t:Nat):IJ (a++[t])=IJ a ||| t:=by unfold IJ;rw[List.foldl_append];rfl
theorem Vx (v:Nat):∀b:lW,(IJ b).testBit v=true↔0<l_ b v:=by
 have c:∀(b:lW) (a:Nat),(b.foldl (· ||| ·) a).testBit v=true↔a.testBit v=true∨0<l_ b v:=by
  intro b
  induction b with
  |nil=>intro a;simp[l_]
  | cons t b ih =>
   intro a;rw[List.foldl_cons,ih,Nat.testBit_or,zAu,or_assoc];have:l_ (t::b) v=l_ b v+if t.testBit v=true then 1 else 0:=by unfold l_;rw[List.countP_cons]
   rw[this];by_cases h:t.testBit v=true
   ·rw[if_pos h];exact⟨λ_=> .inr (by omega),λ_=> .inr (.inl h)⟩
   ·rw[if_neg h];exact⟨λq=>q.elim .inl λq=>q.elim (λq=>absurd q h) .inr,λq=>q.elim .inl λq=> .inr (.inr q)⟩
 intro b;have:=c b 0;unfold IJ;rw[this];simp
theorem ZS:∀{b:lW},(∀t∈b,t<4294967296)->IJ b<4294967296:=by
 have d:∀(b:lW) (a:Nat),a<4294967296->(∀t∈b,t<4294967296)->b.foldl (· ||| ·) a<4294967296:=by
  intro b
  induction b with
  |nil=>intro a c _;exact c
  |cons t b f=>intro a c h;exact f _ (RH c (h t (by simp))) λs e=>h s (by simp[e])
 intro b h;exact d b 0 (by omega) h
theorem ahQ {a k:Nat} (c:k<32) (b:a<4294967296):eG .u32 (mZ .u32 (a:Int) (k:Int)) 1=if a.testBit k=true then 1 else 0:=by
 split
 ·rename_i h;exact(LR c b).2 h
 ·rename_i h;exact(ZL c b).2 (by simpa using h)
end Go.Proofs.YtahgemjmgopleaaGreatDoor
namespace Go.Proofs.YtahgemjmgopleaaGreatDoor
open Go.Sx
def nP (U:Nat) (a:jC) (b:cW) (d:Int) (e:bO) (f:Int):Option (Int):=
 Option.bind (kI U ((a.1,a.2.1,a.2.2)) ((b.1,b.2)) e) λc=>(if c≠(0:Int)then(some (c))else(Option.bind (mB U d) λg=>(if(!g)=true then(some (12:Int))else(if(4096:Int)<f then(some (3:Int))else(some (0:Int))))))
theorem aeC:aV Tryz.prog 67:=Tryz.call67
theorem Nx (U:Nat) {a:jC} {g:cW} {j:Int} {k:bO} {m:Int} (b:Value)  (d:Value)  (e:Value)  (f:Value)  (n:iX)  (i:Value)  (o:lU) (r:Int) (h:nP U a g j k m=some r):
  aW Tryz.prog 67 #[Value.agg #[vS (a.1),b,d],Value.agg #[e,f],vI (j),i,vI (m)] [Sl aP b a.2.1,Sl aJ d a.2.2,PF (Value.agg #[vS a.1,b,d]),Sl bX e g.1,S2 bD f n g.2,S2 bX i o k] (λx:Unit=>vI (r)) (λx l=>l) (λ_ l=>l):=by
 refine aW.of Tryz.func67 Z Tryz.ntmps67 Z λc=>?_;refine aR<|aH (aN.box (cs:=[vS (a.1),b,d]) Z Z) Z λu=>aH (aN.box (cs:=[e,f]) Z Z) Z λv=>aB Z<|aL<|aK<|aR<|cM 1 Z<|cM 0 Z<|aA Z<|dZ h λp s h=>aH (zBg Tx (DU U b d e f n i o p s) Z (jP [0,1,2,3,4,5] Z)) Z λw=>aB Z<|aL<|aR<|aA Z<|jQ Z<|aL ?_;refine d_ h Z (λh=>?_) λh=>?_
 ·refine aR<|aA Z<|aB Z<|aL<|aQ<|aI ?_;cases h;exact oA Z
 refine cE<|aK<|aR<|aA Z<|dZ h λq t h=>aH (zBg Yt (HA U  q t) Z .nil) Z λy=>aC (lV Z) Z<|aL ?_;refine tT h Z (λ_ h=>?_) λ_ h=>?_
 ·refine aR<|aB Z<|aL<|aQ<|aI ?_;cases h;exact oA Z
 refine cE<|aK<|aR<|aA Z<|aC (uE Z Z) Z<|aL ?_;refine d_ h Z (λh=>?_) λh=>?_
 ·refine aR<|aB Z<|aL<|aQ<|aI ?_;cases h;exact oA Z
 refine cE<|aR<|aB Z<|aL<|aQ ?_;cases h;exact oA Z
def xB (U:Nat) (b:jC) (c:cW) (d:bO):Option aau:=
 Option.bind (gR U ((b.1,b.2.1,b.2.2)) ((c.1,c.2)) d) λe=>(Option.bind (vN U d) λf=>(Option.bind (w_ U e) λa=>(some ((([]:aX),([e]),f,((a.1,a.2.1,a.2.2.1,a.2.2.2.1,a.2.2.2.2)))))))
theorem aeD:aV Tryz.prog 68:=Tryz.call68
theorem Ny (U:Nat) {d:jC} {u:cW} {A:bO} (n:Value)  (o:Value)  (q:Value)  (s:Value)  (B:iX)  (t:Value)  (z:lU) (r:(aX×aX×bO×(Int×Int×Int×Int×Int))) (h:xB U d u A=some r):
  aW Tryz.prog 68 #[Value.agg #[vS (d.1),n,o],Value.agg #[q,s],t] [Sl aP n d.2.1,Sl aJ o d.2.2,PF (Value.agg #[vS d.1,n,o]),Sl bX q u.1,S2 bD s B u.2,S2 bX t z A] (λx:Kn=>Value.agg #[x.1,x.2.1,x.2.2.1,vI (r.2.2.2.1),vI (r.2.2.2.2.1),vI (r.2.2.2.2.2.1),vI (r.2.2.2.2.2.2.1),vU (r.2.2.2.2.2.2.2)]) (λx l=>Ar fG x.1 r.1::Ar fG x.2.1 r.2.1::Ar fE.raw x.2.2.1 x.2.2.2::k_ cS x.2.2.2 r.2.2.1::l) (λ_ l=>l):=by
 refine aW.of Tryz.func68 Z Tryz.ntmps68 Z λc=>?_;refine aR<|aH (aN.box (cs:=[vS (d.1),n,o]) Z Z) Z λG=>aH (aN.box (cs:=[q,s]) Z Z) Z λH=>aH (aN.alloc (cs:=FC) Z Z) Z λI=>aL<|aR<|cM 2 Z<|cM 1 Z<|aA Z<|dZ h λp D h=>aH (zBg Yw (Fo U n o q s B t z p D) Z (jP [0,1,2,3,4,5] Z)) Z λJ=>aB Z<|aL<|aR<|aA Z<|aH (bT (e:=fG) ([p]) [(0,vU (p))] Z Z Z Z (eV (vU (p)) Z) Z Z Z) Z λv=>aA Z<|dZ h λC E h=>aH (zBg Yu (Ja U t z C E) Z (jP [5] Z)) Z λb=>aA Z<|dZ h λa y h=>aH (zBg aew (Nv U  a y) Z .nil) Z λF=>bE (Know.one ((aT (aD.res 2 Z) cP))) λf=>bE (Know.one (aD.sl (bB (i:=0) (j:=1) Z Z dD))) λg=>?_;refine aC (Tm (r:=Value.agg #[lL,v,b.1,vI (a.1),vI (a.2.1),vI (a.2.2.1),vI (a.2.2.2.1),vU (a.2.2.2.2)]) Z Z Z (by intro w;simp[Instr.build,Instr.fill,cT,b_,bW,cU,cV,cA,dJ,cI f,cI g])) Z ?_;refine bE (Know.one ((aT (aD.res 2 Z) cP))) λk=>bE (Know.one (aD.sl (bB (i:=0) (j:=1) Z Z dD))) λm=>bF 3 (vs:=[lL,v,b.1,vI (a.1),vI (a.2.1),vI (a.2.2.1),vI (a.2.2.2.1),vU (a.2.2.2.2)]) Z Z (bR Z (bR k (bR m (bR Z (bR Z (bR Z (bR Z (bR Z Z)))))))) Z Z Z<|aL<|aQ<|gF (cK fG) ?_;cases h;exact gE ((lL),v,b.1,b.2) Z Z (RV.cell 4 Z Z Z Z) (bA.ix [0,3,1,2] Z Z) aG.nil
def DJ (b:Ft) (d:Int) (e:bO×Int) (f:Int) (a:(Int×Int×Int×Int×Int)×Int) (c:Unit):Option aau:=
 some ((((([]:aX)++b.1)++[d]),((([]:aX)++b.2.1)++[f]),e.1,((a.1.1,a.1.2.1,a.1.2.2.1,a.1.2.2.2.1,a.1.2.2.2.2))))
def zW (U:Nat) (b:jC) (c:cW) (a:Ft) (d:Int):Option aau:=
 Option.bind (vO U ((b.1,b.2.1,b.2.2)) ((c.1,c.2)) a.2.2.1 d) λg=>(Option.bind (gR U ((b.1,b.2.1,b.2.2)) ((c.1,c.2)) g.1) λf=>(Option.bind (uL U ((a.2.2.2.1,a.2.2.2.2.1,a.2.2.2.2.2.1,a.2.2.2.2.2.2.1,a.2.2.2.2.2.2.2)) d f) λe=>(ck ((List.length ([]:aX):Int)+(a.1.length:Int)<=1099511627) (ck (((([]:aX)++a.1).length:Int)+(List.length ([d]):Int)<=1099511627) (ck ((List.length ([]:aX):Int)+(a.2.1.length:Int)<=1099511627) (ck (((([]:aX)++a.2.1).length:Int)+(List.length ([f]):Int)<=1099511627) (DJ a d g f e (()))))))))
theorem aeE:aV Tryz.prog 69:=Tryz.call69
theorem Qg (U:Nat) {p0:jC} {p1:cW} {g:Ft} {b:Int} (v0:Value)  (v1:Value)  (v2:Value)  (v3:Value)  (z4:iX)  (v5:Value)  (v6:Value)  (v7:Value)  (z8:lU) (r:(aX×aX×bO×(Int×Int×Int×Int×Int))) (h:zW U p0 p1 g b=some r):
  aW Tryz.prog 69 #[Value.agg #[vS (p0.1),v0,v1],Value.agg #[v2,v3],Value.agg #[v5,v6,v7,vI (g.2.2.2.1),vI (g.2.2.2.2.1),vI (g.2.2.2.2.2.1),vI (g.2.2.2.2.2.2.1),vU (g.2.2.2.2.2.2.2)],vU (b)] [Sl aP v0 p0.2.1,Sl aJ v1 p0.2.2,PF (Value.agg #[vS p0.1,v0,v1]),Sl bX v2 p1.1,S2 bD v3 z4 p1.2,Sl wR v5 g.1,Sl wR v6 g.2.1,S2 bX v7 z8 g.2.2.1] (λx:Kn=>Value.agg #[x.1,x.2.1,x.2.2.1,vI (r.2.2.2.1),vI (r.2.2.2.2.1),vI (r.2.2.2.2.2.1),vI (r.2.2.2.2.2.2.1),vU (r.2.2.2.2.2.2.2)]) (λx l=>Ar fG x.1 r.1::Ar fG x.2.1 r.2.1::Ar fE.raw x.2.2.1 x.2.2.2::k_ cS x.2.2.2 r.2.2.1::l) (λ_ l=>l):=by
 refine aW.of Tryz.func69 Z Tryz.ntmps69 Z λc=>?_;refine aR<|aH (aN.box (cs:=[vS (p0.1),v0,v1]) Z Z) Z λb1=>aH (aN.box (cs:=[v2,v3]) Z Z) Z λb2=>aH (aN.box (cs:=[v5,v6,v7,vI (g.2.2.2.1),vI (g.2.2.2.2.1),vI (g.2.2.2.2.2.1),vI (g.2.2.2.2.2.2.1),vU (g.2.2.2.2.2.2.2)]) Z Z) Z λb3=>aH (aN.alloc (cs:=FC) Z Z) Z λb4=>aL<|aR<|cM 3 Z<|cM 2 Z<|bN Z<|dL 1 Z<|aA Z<|dZ h λr5 w6 h=>aH (zBg aey (Qe U v0 v1 v2 v3 z4 v7 z8 r5 w6) Z (jP [0,1,2,3,4,7] Z)) Z λf=>aA Z<|eQ Z<|eQ Z<|aB Z<|aB Z<|aL<|aR<|cM 5 Z<|cM 4 Z<|aA Z<|dZ h λd w9 h=>aH (zBg Yw (Fo U v0 v1 v2 v3 z4 f.1 (List.zip f.2 r5.1) d w9) Z (aG.cons (aD.fact 0 Z) (aG.cons (aD.fact 1 Z) (aG.cons (aD.fact 2 Z) (aG.cons (aD.fact 3 Z) (aG.cons (aD.fact 4 Z) (aG.cons (bB (i:=0) (j:=1) Z Z dD) .nil))))))) Z λck=>aB Z<|aL<|aR<|bN Z<|aC (To 3 (us:=[vI (g.2.2.2.1),vI (g.2.2.2.2.1),vI (g.2.2.2.2.2.1),vI (g.2.2.2.2.2.2.1),vU (g.2.2.2.2.2.2.2)]) Z Z Z Z Z Z) Z<|aA Z<|aA Z<|dZ h λa ci h=>aH (zBg aez (Sj U  a ci) Z .nil) Z λcl=>aA Z<|eQ Z<|eQ Z<|aH (aN.alloc (cs:=SV) Z Z) Z λcj=>bF 0 (vs:=[vI (a.1.1),vI (a.1.2.1),vI (a.1.2.2.1),vI (a.1.2.2.2.1),vU (a.1.2.2.2.2)]) Z Z Z Z Z Z<|aB Z<|aL<|aK<|CM (B:=Value×Value) (λD=>DJ g b r5 d a D=some r) (λD p=>[(8,vP b4)]) (λD p=>[Ar fG p.2 ((([]:aX)++g.2.1)++[d]),Ar fG p.1 ((([]:aX)++g.1)++[b]),Ar fE.raw f.1 f.2,k_ cS f.2 r5.1,cJ b4 [p.1,p.2,f.1,vI (a.1.1),vI (a.1.2.1),vI (a.1.2.2.1),vI (a.1.2.2.2.1),vU (a.1.2.2.2.2)] 55]) ?_ ?_
 ·have⟨j20,h⟩:=Pg h;refine dW h λk h=>dW h λm h=>dW h λn h=>NH [0,1,3,0,8,31,0,64,255,0,512,2047,0,0,16383,32767] 14 [[0,1,3,6,7,9,12,13,2,4,5,8,10,11,14,15],[0,1,3,6,7,9,12,13,2,4,5,10,8,11,14,15],[0,1,3,6,7,9,12,13,2,4,10,5,8,11,14,15],[0,1,3,6,7,9,12,13,2,10,4,5,8,11,14,15],[0,1,3,6,7,9,12,13,4,2,5,8,10,11,14,15],[0,1,3,6,7,9,12,13,4,2,5,10,8,11,14,15],[0,1,3,6,7,9,12,13,4,2,10,5,8,11,14,15],[0,1,3,6,7,9,12,13,4,10,2,5,8,11,14,15],[0,1,3,6,7,9,12,13,10,2,4,5,8,11,14,15],[0,1,3,6,7,9,12,13,10,4,2,5,8,11,14,15]] mixedOrders (by decide +kernel) (by decide +kernel) ?_;intro o ho;simp only[zAl,List.not_mem_nil,or_false]at ho;rcases ho with rfl|rfl|rfl|rfl|rfl|rfl|rfl|rfl|rfl|rfl
  ·refine cB Z<|fD 4 Z<|aY Z<|cB Z<|fD 4 Z<|aY Z<|aY Z<|gK 0 Z<|JR.stp (cK fG)<|zBh Z Z Z (bH 0 cP Z Z Z (aD.fact 5 Z) Z Z Z Z j20 Z) Z (λbG=>(kG [([1],[]),([5],[])] Z)) λbG=>zBh Z Z Z (bT (e:=fG) ([b]) [(0,vU (b))] Z Z Z Z (eV (vU (b)) Z) Z Z Z) Z (λbI=>(kG [([2],[]),([6],[]),([6],[])] Z)) λbI=>zBh Z Z Z (bH 1 cP Z Z Z (aT (aD.res 0 Z) cP) Z Z Z Z k Z) Z (λE=>(kG [([2],[]),([6],[])] Z)) λE=>JR.stp (cK fG)<|zBh Z Z Z (bH 0 cP Z Z Z (aD.fact 6 Z) Z Z Z Z m Z) Z (λbJ=>(kG [([3],[])] Z)) λbJ=>zBh Z Z Z (bT (e:=fG) ([d]) [(0,vU (d))] Z Z Z Z (eV (vU (d)) Z) Z Z Z) Z (λbK=>(kG [([4],[]),([8],[]),([8],[])] Z)) λbK=>zBh Z Z Z (bH 1 cP Z Z Z (aT (aD.res 0 Z) cP) Z Z Z Z n Z) Z (λF=>(kG [([4],[])] Z)) λF=>bP 14 Z Z<|bE (Know.one ((aT (aD.res 3 Z) cP))) λax=>bE (Know.one ((aT (aD.res 1 Z) cP))) λay=>bE (Know.one (aD.sl (bB (i:=5) (j:=6) Z Z dD))) λaz=>?_;refine aC (BQ (r:=Value.agg #[E,F,f.1,vI (a.1.1),vI (a.1.2.1),vI (a.1.2.2.1),vI (a.1.2.2.2.1),vU (a.1.2.2.2.2)]) Z Z Z Z (by intro w;simp[Instr.build,Instr.fill,cT,b_,bW,cU,cV,cA,dJ,cI ax,cI ay,cI az])) Z ?_;refine bE (Know.one ((aT (aD.res 3 Z) cP))) λaE=>bE (Know.one ((aT (aD.res 1 Z) cP))) λaF=>bE (Know.one (aD.sl (bB (i:=5) (j:=6) Z Z dD))) λaI=>bF 7 (vs:=[E,F,f.1,vI (a.1.1),vI (a.1.2.1),vI (a.1.2.2.1),vI (a.1.2.2.2.1),vU (a.1.2.2.2.2)]) Z Z (bR aE (bR aF (bR aI (bR Z (bR Z (bR Z (bR Z (bR Z Z)))))))) Z Z Z<|aL ?_;exact bU () (E,F) h SF (bA.ix [1,3,5,6,7] Z Z) (aG.refl _ _)
  ·refine cB Z<|fD 4 Z<|aY Z<|cB Z<|fD 4 Z<|aY Z<|aY Z<|gK 0 Z<|JR.stp (cK fG)<|zBh Z Z Z (bH 0 cP Z Z Z (aD.fact 5 Z) Z Z Z Z j20 Z) Z (λbL=>(kG [([1],[]),([5],[])] Z)) λbL=>zBh Z Z Z (bT (e:=fG) ([b]) [(0,vU (b))] Z Z Z Z (eV (vU (b)) Z) Z Z Z) Z (λbM=>(kG [([2],[]),([6],[]),([6],[])] Z)) λbM=>zBh Z Z Z (bH 1 cP Z Z Z (aT (aD.res 0 Z) cP) Z Z Z Z k Z) Z (λG=>(kG [([2],[]),([6],[])] Z)) λG=>zBh Z Z Z (bT (e:=fG) ([d]) [(0,vU (d))] Z Z Z Z (eV (vU (d)) Z) Z Z Z) Z (λbQ=>(kG [([3],[]),([7],[]),([7],[])] Z)) λbQ=>JR.stp (cK fG)<|zBh Z Z Z (bH 0 cP Z Z Z (aD.fact 6 Z) Z Z Z Z m Z) Z (λbS=>(kG [([4],[])] Z)) λbS=>zBh Z Z Z (bH 0 cP Z Z Z (aT (aD.res 1 Z) cP) Z Z Z Z n Z) Z (λH=>(kG [([4],[])] Z)) λH=>bP 14 Z Z<|bE (Know.one ((aT (aD.res 3 Z) cP))) λaM=>bE (Know.one ((aT (aD.res 0 Z) cP))) λaO=>bE (Know.one (aD.sl (bB (i:=5) (j:=6) Z Z dD))) λaS=>?_;refine aC (BQ (r:=Value.agg #[G,H,f.1,vI (a.1.1),vI (a.1.2.1),vI (a.1.2.2.1),vI (a.1.2.2.2.1),vU (a.1.2.2.2.2)]) Z Z Z Z (by intro w;simp[Instr.build,Instr.fill,cT,b_,bW,cU,cV,cA,dJ,cI aM,cI aO,cI aS])) Z ?_;refine bE (Know.one ((aT (aD.res 3 Z) cP))) λaU=>bE (Know.one ((aT (aD.res 0 Z) cP))) λaV=>bE (Know.one (aD.sl (bB (i:=5) (j:=6) Z Z dD))) λa0=>bF 7 (vs:=[G,H,f.1,vI (a.1.1),vI (a.1.2.1),vI (a.1.2.2.1),vI (a.1.2.2.2.1),vU (a.1.2.2.2.2)]) Z Z (bR aU (bR aV (bR a0 (bR Z (bR Z (bR Z (bR Z (bR Z Z)))))))) Z Z Z<|aL ?_;exact bU () (G,H) h SF (bA.ix [0,3,5,6,7] Z Z) (aG.refl _ _)
  ·refine cB Z<|fD 4 Z<|aY Z<|cB Z<|fD 4 Z<|aY Z<|aY Z<|gK 0 Z<|JR.stp (cK fG)<|zBh Z Z Z (bH 0 cP Z Z Z (aD.fact 5 Z) Z Z Z Z j20 Z) Z (λbV=>(kG [([1],[]),([5],[])] Z)) λbV=>zBh Z Z Z (bT (e:=fG) ([b]) [(0,vU (b))] Z Z Z Z (eV (vU (b)) Z) Z Z Z) Z (λbY=>(kG [([2],[]),([6],[]),([6],[])] Z)) λbY=>zBh Z Z Z (bT (e:=fG) ([d]) [(0,vU (d))] Z Z Z Z (eV (vU (d)) Z) Z Z Z) Z (λb0=>(kG [([3],[]),([7],[]),([7],[])] Z)) λb0=>zBh Z Z Z (bH 2 cP Z Z Z (aT (aD.res 1 Z) cP) Z Z Z Z k Z) Z (λI=>(kG [([3],[]),([7],[])] Z)) λI=>JR.stp (cK fG)<|zBh Z Z Z (bH 0 cP Z Z Z (aD.fact 6 Z) Z Z Z Z m Z) Z (λb5=>(kG [([4],[])] Z)) λb5=>zBh Z Z Z (bH 0 cP Z Z Z (aT (aD.res 1 Z) cP) Z Z Z Z n Z) Z (λJ=>(kG [([4],[])] Z)) λJ=>bP 14 Z Z<|bE (Know.one ((aT (aD.res 3 Z) cP))) λa1=>bE (Know.one ((aT (aD.res 0 Z) cP))) λa2=>bE (Know.one (aD.sl (bB (i:=5) (j:=6) Z Z dD))) λa3=>?_;refine aC (BQ (r:=Value.agg #[I,J,f.1,vI (a.1.1),vI (a.1.2.1),vI (a.1.2.2.1),vI (a.1.2.2.2.1),vU (a.1.2.2.2.2)]) Z Z Z Z (by intro w;simp[Instr.build,Instr.fill,cT,b_,bW,cU,cV,cA,dJ,cI a1,cI a2,cI a3])) Z ?_;refine bE (Know.one ((aT (aD.res 3 Z) cP))) λa4=>bE (Know.one ((aT (aD.res 0 Z) cP))) λa5=>bE (Know.one (aD.sl (bB (i:=5) (j:=6) Z Z dD))) λa6=>bF 7 (vs:=[I,J,f.1,vI (a.1.1),vI (a.1.2.1),vI (a.1.2.2.1),vI (a.1.2.2.2.1),vU (a.1.2.2.2.2)]) Z Z (bR a4 (bR a5 (bR a6 (bR Z (bR Z (bR Z (bR Z (bR Z Z)))))))) Z Z Z<|aL ?_;exact bU () (I,J) h SF (bA.ix [0,3,5,6,7] Z Z) (aG.refl _ _)
  ·refine cB Z<|fD 4 Z<|aY Z<|cB Z<|fD 4 Z<|aY Z<|aY Z<|gK 0 Z<|JR.stp (cK fG)<|zBh Z Z Z (bH 0 cP Z Z Z (aD.fact 5 Z) Z Z Z Z j20 Z) Z (λb6=>(kG [([1],[]),([5],[])] Z)) λb6=>zBh Z Z Z (bT (e:=fG) ([d]) [(0,vU (d))] Z Z Z Z (eV (vU (d)) Z) Z Z Z) Z (λb7=>(kG [([2],[]),([6],[]),([6],[])] Z)) λb7=>zBh Z Z Z (bT (e:=fG) ([b]) [(0,vU (b))] Z Z Z Z (eV (vU (b)) Z) Z Z Z) Z (λb8=>(kG [([3],[]),([7],[]),([7],[])] Z)) λb8=>zBh Z Z Z (bH 2 cP Z Z Z (aT (aD.res 0 Z) cP) Z Z Z Z k Z) Z (λK=>(kG [([3],[]),([7],[])] Z)) λK=>JR.stp (cK fG)<|zBh Z Z Z (bH 0 cP Z Z Z (aD.fact 6 Z) Z Z Z Z m Z) Z (λb9=>(kG [([4],[])] Z)) λb9=>zBh Z Z Z (bH 0 cP Z Z Z (aT (aD.res 2 Z) cP) Z Z Z Z n Z) Z (λL=>(kG [([4],[])] Z)) λL=>bP 14 Z Z<|bE (Know.one ((aT (aD.res 3 Z) cP))) λa7=>bE (Know.one ((aT (aD.res 0 Z) cP))) λa8=>bE (Know.one (aD.sl (bB (i:=5) (j:=6) Z Z dD))) λa9=>?_;refine aC (BQ (r:=Value.agg #[K,L,f.1,vI (a.1.1),vI (a.1.2.1),vI (a.1.2.2.1),vI (a.1.2.2.2.1),vU (a.1.2.2.2.2)]) Z Z Z Z (by intro w;simp[Instr.build,Instr.fill,cT,b_,bW,cU,cV,cA,dJ,cI a7,cI a8,cI a9])) Z ?_;refine bE (Know.one ((aT (aD.res 3 Z) cP))) λba=>bE (Know.one ((aT (aD.res 0 Z) cP))) λbb=>bE (Know.one (aD.sl (bB (i:=5) (j:=6) Z Z dD))) λbc=>bF 7 (vs:=[K,L,f.1,vI (a.1.1),vI (a.1.2.1),vI (a.1.2.2.1),vI (a.1.2.2.2.1),vU (a.1.2.2.2.2)]) Z Z (bR ba (bR bb (bR bc (bR Z (bR Z (bR Z (bR Z (bR Z Z)))))))) Z Z Z<|aL ?_;exact bU () (K,L) h SF (bA.ix [0,3,5,6,7] Z Z) (aG.refl _ _)
  ·refine cB Z<|fD 4 Z<|aY Z<|cB Z<|fD 4 Z<|aY Z<|aY Z<|gK 0 Z<|zBh Z Z Z (bT (e:=fG) ([b]) [(0,vU (b))] Z Z Z Z (eV (vU (b)) Z) Z Z Z) Z (λca=>(kG [([1],[]),([5],[]),([5],[])] Z)) λca=>JR.stp (cK fG)<|zBh Z Z Z (bH 0 cP Z Z Z (aD.fact 5 Z) Z Z Z Z j20 Z) Z (λcb=>(kG [([2],[]),([6],[])] Z)) λcb=>zBh Z Z Z (bH 0 cP Z Z Z (aT (aD.res 1 Z) cP) Z Z Z Z k Z) Z (λM=>(kG [([2],[]),([6],[])] Z)) λM=>JR.stp (cK fG)<|zBh Z Z Z (bH 0 cP Z Z Z (aD.fact 6 Z) Z Z Z Z m Z) Z (λcc=>(kG [([3],[])] Z)) λcc=>zBh Z Z Z (bT (e:=fG) ([d]) [(0,vU (d))] Z Z Z Z (eV (vU (d)) Z) Z Z Z) Z (λcd=>(kG [([4],[]),([8],[]),([8],[])] Z)) λcd=>zBh Z Z Z (bH 1 cP Z Z Z (aT (aD.res 0 Z) cP) Z Z Z Z n Z) Z (λN=>(kG [([4],[])] Z)) λN=>bP 14 Z Z<|bE (Know.one ((aT (aD.res 2 Z) cP))) λbd=>bE (Know.one ((aT (aD.res 1 Z) cP))) λbe=>bE (Know.one (aD.sl (bB (i:=5) (j:=6) Z Z dD))) λbf=>?_;refine aC (BQ (r:=Value.agg #[M,N,f.1,vI (a.1.1),vI (a.1.2.1),vI (a.1.2.2.1),vI (a.1.2.2.2.1),vU (a.1.2.2.2.2)]) Z Z Z Z (by intro w;simp[Instr.build,Instr.fill,cT,b_,bW,cU,cV,cA,dJ,cI bd,cI be,cI bf])) Z ?_;refine bE (Know.one ((aT (aD.res 2 Z) cP))) λbg=>bE (Know.one ((aT (aD.res 1 Z) cP))) λbh=>bE (Know.one (aD.sl (bB (i:=5) (j:=6) Z Z dD))) λbi=>bF 7 (vs:=[M,N,f.1,vI (a.1.1),vI (a.1.2.1),vI (a.1.2.2.1),vI (a.1.2.2.2.1),vU (a.1.2.2.2.2)]) Z Z (bR bg (bR bh (bR bi (bR Z (bR Z (bR Z (bR Z (bR Z Z)))))))) Z Z Z<|aL ?_;exact bU () (M,N) h SF (bA.ix [1,2,5,6,7] Z Z) (aG.refl _ _)
  ·refine cB Z<|fD 4 Z<|aY Z<|cB Z<|fD 4 Z<|aY Z<|aY Z<|gK 0 Z<|zBh Z Z Z (bT (e:=fG) ([b]) [(0,vU (b))] Z Z Z Z (eV (vU (b)) Z) Z Z Z) Z (λce=>(kG [([1],[]),([5],[]),([5],[])] Z)) λce=>JR.stp (cK fG)<|zBh Z Z Z (bH 0 cP Z Z Z (aD.fact 5 Z) Z Z Z Z j20 Z) Z (λcf=>(kG [([2],[]),([6],[])] Z)) λcf=>zBh Z Z Z (bH 0 cP Z Z Z (aT (aD.res 1 Z) cP) Z Z Z Z k Z) Z (λO=>(kG [([2],[]),([6],[])] Z)) λO=>zBh Z Z Z (bT (e:=fG) ([d]) [(0,vU (d))] Z Z Z Z (eV (vU (d)) Z) Z Z Z) Z (λcg=>(kG [([3],[]),([7],[]),([7],[])] Z)) λcg=>JR.stp (cK fG)<|zBh Z Z Z (bH 0 cP Z Z Z (aD.fact 6 Z) Z Z Z Z m Z) Z (λch=>(kG [([4],[])] Z)) λch=>zBh Z Z Z (bH 0 cP Z Z Z (aT (aD.res 1 Z) cP) Z Z Z Z n Z) Z (λq=>(kG [([4],[])] Z)) λq=>bP 14 Z Z<|bE (Know.one ((aT (aD.res 2 Z) cP))) λP=>bE (Know.one ((aT (aD.res 0 Z) cP))) λQ=>bE (Know.one (aD.sl (bB (i:=5) (j:=6) Z Z dD))) λR=>?_;refine aC (BQ (r:=Value.agg #[O,q,f.1,vI (a.1.1),vI (a.1.2.1),vI (a.1.2.2.1),vI (a.1.2.2.2.1),vU (a.1.2.2.2.2)]) Z Z Z Z (by intro w;simp[Instr.build,Instr.fill,cT,b_,bW,cU,cV,cA,dJ,cI P,cI Q,cI R])) Z ?_;refine bE (Know.one ((aT (aD.res 2 Z) cP))) λS=>bE (Know.one ((aT (aD.res 0 Z) cP))) λT=>bE (Know.one (aD.sl (bB (i:=5) (j:=6) Z Z dD))) λV=>bF 7 (vs:=[O,q,f.1,vI (a.1.1),vI (a.1.2.1),vI (a.1.2.2.1),vI (a.1.2.2.2.1),vU (a.1.2.2.2.2)]) Z Z (bR S (bR T (bR V (bR Z (bR Z (bR Z (bR Z (bR Z Z)))))))) Z Z Z<|aL ?_;exact bU () (O,q) h SF (bA.ix [0,2,5,6,7] Z Z) (aG.refl _ _)
  ·refine cB Z<|fD 4 Z<|aY Z<|cB Z<|fD 4 Z<|aY Z<|aY Z<|gK 0 Z<|zBh Z Z Z (bT (e:=fG) ([b]) [(0,vU (b))] Z Z Z Z (eV (vU (b)) Z) Z Z Z) Z (λbj=>(kG [([1],[]),([5],[]),([5],[])] Z)) λbj=>JR.stp (cK fG)<|zBh Z Z Z (bH 0 cP Z Z Z (aD.fact 5 Z) Z Z Z Z j20 Z) Z (λbk=>(kG [([2],[]),([6],[])] Z)) λbk=>zBh Z Z Z (bT (e:=fG) ([d]) [(0,vU (d))] Z Z Z Z (eV (vU (d)) Z) Z Z Z) Z (λbl=>(kG [([3],[]),([7],[]),([7],[])] Z)) λbl=>zBh Z Z Z (bH 1 cP Z Z Z (aT (aD.res 2 Z) cP) Z Z Z Z k Z) Z (λs=>(kG [([3],[]),([7],[])] Z)) λs=>JR.stp (cK fG)<|zBh Z Z Z (bH 0 cP Z Z Z (aD.fact 6 Z) Z Z Z Z m Z) Z (λbm=>(kG [([4],[])] Z)) λbm=>zBh Z Z Z (bH 0 cP Z Z Z (aT (aD.res 1 Z) cP) Z Z Z Z n Z) Z (λt=>(kG [([4],[])] Z)) λt=>bP 14 Z Z<|bE (Know.one ((aT (aD.res 2 Z) cP))) λW=>bE (Know.one ((aT (aD.res 0 Z) cP))) λX=>bE (Know.one (aD.sl (bB (i:=5) (j:=6) Z Z dD))) λY=>?_;refine aC (BQ (r:=Value.agg #[s,t,f.1,vI (a.1.1),vI (a.1.2.1),vI (a.1.2.2.1),vI (a.1.2.2.2.1),vU (a.1.2.2.2.2)]) Z Z Z Z (by intro w;simp[Instr.build,Instr.fill,cT,b_,bW,cU,cV,cA,dJ,cI W,cI X,cI Y])) Z ?_;refine bE (Know.one ((aT (aD.res 2 Z) cP))) λaa=>bE (Know.one ((aT (aD.res 0 Z) cP))) λab=>bE (Know.one (aD.sl (bB (i:=5) (j:=6) Z Z dD))) λac=>bF 7 (vs:=[s,t,f.1,vI (a.1.1),vI (a.1.2.1),vI (a.1.2.2.1),vI (a.1.2.2.2.1),vU (a.1.2.2.2.2)]) Z Z (bR aa (bR ab (bR ac (bR Z (bR Z (bR Z (bR Z (bR Z Z)))))))) Z Z Z<|aL ?_;exact bU () (s,t) h SF (bA.ix [0,2,5,6,7] Z Z) (aG.refl _ _)
  ·refine cB Z<|fD 4 Z<|aY Z<|cB Z<|fD 4 Z<|aY Z<|aY Z<|gK 0 Z<|zBh Z Z Z (bT (e:=fG) ([b]) [(0,vU (b))] Z Z Z Z (eV (vU (b)) Z) Z Z Z) Z (λbn=>(kG [([1],[]),([5],[]),([5],[])] Z)) λbn=>zBh Z Z Z (bT (e:=fG) ([d]) [(0,vU (d))] Z Z Z Z (eV (vU (d)) Z) Z Z Z) Z (λbo=>(kG [([2],[]),([6],[]),([6],[])] Z)) λbo=>JR.stp (cK fG)<|zBh Z Z Z (bH 0 cP Z Z Z (aD.fact 5 Z) Z Z Z Z j20 Z) Z (λbp=>(kG [([3],[]),([7],[])] Z)) λbp=>zBh Z Z Z (bH 0 cP Z Z Z (aT (aD.res 2 Z) cP) Z Z Z Z k Z) Z (λu=>(kG [([3],[]),([7],[])] Z)) λu=>JR.stp (cK fG)<|zBh Z Z Z (bH 0 cP Z Z Z (aD.fact 6 Z) Z Z Z Z m Z) Z (λbq=>(kG [([4],[])] Z)) λbq=>zBh Z Z Z (bH 0 cP Z Z Z (aT (aD.res 2 Z) cP) Z Z Z Z n Z) Z (λv=>(kG [([4],[])] Z)) λv=>bP 14 Z Z<|bE (Know.one ((aT (aD.res 1 Z) cP))) λad=>bE (Know.one ((aT (aD.res 0 Z) cP))) λae=>bE (Know.one (aD.sl (bB (i:=5) (j:=6) Z Z dD))) λaf=>?_;refine aC (BQ (r:=Value.agg #[u,v,f.1,vI (a.1.1),vI (a.1.2.1),vI (a.1.2.2.1),vI (a.1.2.2.2.1),vU (a.1.2.2.2.2)]) Z Z Z Z (by intro w;simp[Instr.build,Instr.fill,cT,b_,bW,cU,cV,cA,dJ,cI ad,cI ae,cI af])) Z ?_;refine bE (Know.one ((aT (aD.res 1 Z) cP))) λag=>bE (Know.one ((aT (aD.res 0 Z) cP))) λah=>bE (Know.one (aD.sl (bB (i:=5) (j:=6) Z Z dD))) λai=>bF 7 (vs:=[u,v,f.1,vI (a.1.1),vI (a.1.2.1),vI (a.1.2.2.1),vI (a.1.2.2.2.1),vU (a.1.2.2.2.2)]) Z Z (bR ag (bR ah (bR ai (bR Z (bR Z (bR Z (bR Z (bR Z Z)))))))) Z Z Z<|aL ?_;exact bU () (u,v) h SF (bA.ix [0,1,5,6,7] Z Z) (aG.refl _ _)
  ·refine cB Z<|fD 4 Z<|aY Z<|cB Z<|fD 4 Z<|aY Z<|aY Z<|gK 0 Z<|zBh Z Z Z (bT (e:=fG) ([d]) [(0,vU (d))] Z Z Z Z (eV (vU (d)) Z) Z Z Z) Z (λbr=>(kG [([1],[]),([5],[]),([5],[])] Z)) λbr=>JR.stp (cK fG)<|zBh Z Z Z (bH 0 cP Z Z Z (aD.fact 5 Z) Z Z Z Z j20 Z) Z (λbs=>(kG [([2],[]),([6],[])] Z)) λbs=>zBh Z Z Z (bT (e:=fG) ([b]) [(0,vU (b))] Z Z Z Z (eV (vU (b)) Z) Z Z Z) Z (λbt=>(kG [([3],[]),([7],[]),([7],[])] Z)) λbt=>zBh Z Z Z (bH 1 cP Z Z Z (aT (aD.res 0 Z) cP) Z Z Z Z k Z) Z (λy=>(kG [([3],[]),([7],[])] Z)) λy=>JR.stp (cK fG)<|zBh Z Z Z (bH 0 cP Z Z Z (aD.fact 6 Z) Z Z Z Z m Z) Z (λbu=>(kG [([4],[])] Z)) λbu=>zBh Z Z Z (bH 0 cP Z Z Z (aT (aD.res 3 Z) cP) Z Z Z Z n Z) Z (λz=>(kG [([4],[])] Z)) λz=>bP 14 Z Z<|bE (Know.one ((aT (aD.res 2 Z) cP))) λaj=>bE (Know.one ((aT (aD.res 0 Z) cP))) λak=>bE (Know.one (aD.sl (bB (i:=5) (j:=6) Z Z dD))) λal=>?_;refine aC (BQ (r:=Value.agg #[y,z,f.1,vI (a.1.1),vI (a.1.2.1),vI (a.1.2.2.1),vI (a.1.2.2.2.1),vU (a.1.2.2.2.2)]) Z Z Z Z (by intro w;simp[Instr.build,Instr.fill,cT,b_,bW,cU,cV,cA,dJ,cI aj,cI ak,cI al])) Z ?_;refine bE (Know.one ((aT (aD.res 2 Z) cP))) λam=>bE (Know.one ((aT (aD.res 0 Z) cP))) λan=>bE (Know.one (aD.sl (bB (i:=5) (j:=6) Z Z dD))) λao=>bF 7 (vs:=[y,z,f.1,vI (a.1.1),vI (a.1.2.1),vI (a.1.2.2.1),vI (a.1.2.2.2.1),vU (a.1.2.2.2.2)]) Z Z (bR am (bR an (bR ao (bR Z (bR Z (bR Z (bR Z (bR Z Z)))))))) Z Z Z<|aL ?_;exact bU () (y,z) h SF (bA.ix [0,2,5,6,7] Z Z) (aG.refl _ _)
  refine cB Z<|fD 4 Z<|aY Z<|cB Z<|fD 4 Z<|aY Z<|aY Z<|gK 0 Z<|zBh Z Z Z (bT (e:=fG) ([d]) [(0,vU (d))] Z Z Z Z (eV (vU (d)) Z) Z Z Z) Z (λbw=>(kG [([1],[]),([5],[]),([5],[])] Z)) λbw=>zBh Z Z Z (bT (e:=fG) ([b]) [(0,vU (b))] Z Z Z Z (eV (vU (b)) Z) Z Z Z) Z (λbx=>(kG [([2],[]),([6],[]),([6],[])] Z)) λbx=>JR.stp (cK fG)<|zBh Z Z Z (bH 0 cP Z Z Z (aD.fact 5 Z) Z Z Z Z j20 Z) Z (λbz=>(kG [([3],[]),([7],[])] Z)) λbz=>zBh Z Z Z (bH 0 cP Z Z Z (aT (aD.res 1 Z) cP) Z Z Z Z k Z) Z (λA=>(kG [([3],[]),([7],[])] Z)) λA=>JR.stp (cK fG)<|zBh Z Z Z (bH 0 cP Z Z Z (aD.fact 6 Z) Z Z Z Z m Z) Z (λbC=>(kG [([4],[])] Z)) λbC=>zBh Z Z Z (bH 0 cP Z Z Z (aT (aD.res 3 Z) cP) Z Z Z Z n Z) Z (λC=>(kG [([4],[])] Z)) λC=>bP 14 Z Z<|bE (Know.one ((aT (aD.res 1 Z) cP))) λap=>bE (Know.one ((aT (aD.res 0 Z) cP))) λaq=>bE (Know.one (aD.sl (bB (i:=5) (j:=6) Z Z dD))) λar=>?_;refine aC (BQ (r:=Value.agg #[A,C,f.1,vI (a.1.1),vI (a.1.2.1),vI (a.1.2.2.1),vI (a.1.2.2.2.1),vU (a.1.2.2.2.2)]) Z Z Z Z (by intro w;simp[Instr.build,Instr.fill,cT,b_,bW,cU,cV,cA,dJ,cI ap,cI aq,cI ar])) Z ?_;refine bE (Know.one ((aT (aD.res 1 Z) cP))) λau=>bE (Know.one ((aT (aD.res 0 Z) cP))) λav=>bE (Know.one (aD.sl (bB (i:=5) (j:=6) Z Z dD))) λaw=>bF 7 (vs:=[A,C,f.1,vI (a.1.1),vI (a.1.2.1),vI (a.1.2.2.1),vI (a.1.2.2.2.1),vU (a.1.2.2.2.2)]) Z Z (bR au (bR av (bR aw (bR Z (bR Z (bR Z (bR Z (bR Z Z)))))))) Z Z Z<|aL ?_;exact bU () (A,C) h SF (bA.ix [0,1,5,6,7] Z Z) (aG.refl _ _)
 intro D p h;unfold DJ at h;refine aQ ?_;cases h;exact gE (p.1,p.2,f.1,f.2) Z Z (RV.cell 4 Z Z Z Z) (bA.ix [1,0,2,3] Z Z) aG.nil
def yF  (a:Int×Int×Int×Int×Int×aX×aX×bO):Option BY:=
 some (((a.2.2.2.2.2.1,a.2.2.2.2.2.2.1,a.2.2.2.2.2.2.2,((a.1,a.2.1,a.2.2.1,a.2.2.2.1,a.2.2.2.2.1)))),(0:Int))
def sT (U:Nat) (f:jC) (d:cW) (i:Int) (h:aX) (a:VR) (c:(Int×Int×Int×Int×Int×Int×aX×aX×bO)->Option BY) (e:Bool):Option BY:=
 if e=true then(ck (0<=a.1∧a.1<(a.2.2.2.2.2.2.2.1.length:Int)) (ck (0<=a.1∧a.1<(h.length:Int)) (Option.bind (sQ U ((d.1,d.2)) i (at' a.2.2.2.2.2.2.2.1 a.1) (at' h a.1)) λg=>(Option.bind (zW U ((f.1,f.2.1,f.2.2)) ((d.1,d.2)) ((a.2.2.2.2.2.2.1,a.2.2.2.2.2.2.2.1,a.2.2.2.2.2.2.2.2,((a.2.1,a.2.2.1,a.2.2.2.1,a.2.2.2.2.1,a.2.2.2.2.2.1)))) g) λb=>(c ((wI .i64 (a.1+(1:Int))),b.2.2.2.1,b.2.2.2.2.1,b.2.2.2.2.2.1,b.2.2.2.2.2.2.1,b.2.2.2.2.2.2.2,b.1,b.2.1,b.2.2.1))))))else(yF  (a.2.1,a.2.2.1,a.2.2.2.1,a.2.2.2.2.1,a.2.2.2.2.2.1,a.2.2.2.2.2.2.1,a.2.2.2.2.2.2.2.1,a.2.2.2.2.2.2.2.2))
def pP (U:Nat) (d:jC) (e:cW) (f:Int) (c:aX) (a:VR) (b:(Int×Int×Int×Int×Int×Int×aX×aX×bO)->Option BY):Option BY:=
 if a.1<(c.length:Int)then(ck (0<=a.1∧a.1<(a.2.2.2.2.2.2.2.1.length:Int)) (sT U d e f c a b (decide ((at' a.2.2.2.2.2.2.2.1 a.1)≠(0:Int)))))else(sT U d e f c a b (false))
def iO (U:Nat) (b:jC) (c:cW) (d:Int) (e:bO) (f:aX):Option BY:=
 Option.bind (nP U ((b.1,b.2.1,b.2.2)) ((c.1,c.2)) d e (f.length:Int)) λg=>(if g≠(0:Int)then(some (((([]:aX),([]:aX),([]:bO),(((0:Int),(0:Int),(0:Int),(0:Int),(0:Int))))),g))else(Option.bind (xB U ((b.1,b.2.1,b.2.2)) ((c.1,c.2)) e) λa=>(bK (pP U b c d f) U ((0:Int),a.2.2.2.1,a.2.2.2.2.1,a.2.2.2.2.2.1,a.2.2.2.2.2.2.1,a.2.2.2.2.2.2.2,a.1,a.2.1,a.2.2.1))))
theorem aer:aV Tryz.prog 35:=Tryz.call35
theorem ME (U:Nat) {p:jC} {A:cW} {v:Int} {p3:bO} {P:aX} (q:Value)  (s:Value)  (t:Value)  (u:Value)  (Q:iX)  (T:Value)  (z6:lU)  (V:Value) (r:VQ) (h:iO U p A v p3 P=some r):
  aW Tryz.prog 35 #[Value.agg #[vS (p.1),q,s],Value.agg #[t,u],vI (v),T,V] [Sl aP q p.2.1,Sl aJ s p.2.2,PF (Value.agg #[vS p.1,q,s]),Sl bX t A.1,S2 bD u Q A.2,S2 bX T z6 p3,Sl wR V P] (λx:Kn=>Value.tuple #[Value.agg #[x.1,x.2.1,x.2.2.1,vI (r.1.2.2.2.1),vI (r.1.2.2.2.2.1),vI (r.1.2.2.2.2.2.1),vI (r.1.2.2.2.2.2.2.1),vU (r.1.2.2.2.2.2.2.2)],vI (r.2)]) (λx l=>Ar fG x.1 r.1.1::Ar fG x.2.1 r.1.2.1::Ar fE.raw x.2.2.1 x.2.2.2::k_ cS x.2.2.2 r.1.2.2.1::l) (λ_ l=>l):=by
 refine aW.of Tryz.func35 Z Tryz.ntmps35 Z λc=>?_;refine aR<|aH (aN.box (cs:=[vS (p.1),q,s]) Z Z) Z λR=>aH (aN.box (cs:=[t,u]) Z Z) Z λS=>aH (aN.alloc (cs:=FC) Z Z) Z λy=>aB Z<|aL<|aK<|aR<|cM 2 Z<|cM 1 Z<|aA Z<|aA Z<|aA Z<|iF (aD.fact 6 Z) Z<|dZ h λr4 w5 h=>aH (zBg aeC (Nx U q s t u Q T z6 r4 w5) Z (jP [0,1,2,3,4,5] Z)) Z λx6=>aB Z<|aL<|aR<|aA Z<|jQ Z<|aL ?_;refine d_ h Z (λh=>?_) λh=>?_
 ·refine aR ?_;refine aC (Cv (r:=Value.agg #[lL,lL,lL,vI (0:Int),vI (0:Int),vI (0:Int),vI (0:Int),vU (0:Int)]) (by intro w;simp[Instr.build,Instr.fill,cT,b_,bW,cU,cV,cA,dJ])) Z ?_;refine aA Z<|bF 0 (vs:=FC) Z Z Z Z Z Z<|aB Z<|aL<|aQ<|aI<|gF (cK fG)<|gF (cK fG)<|gF (cK fE.raw) (gF (mD cS) ?_);cases h;exact eD ((lL),(lL),(lL),([]:gV)) Z Z (RV.cell 4 Z Z Z Z) (RV.tmp Z) (bA.ix [2,3,1,0] Z Z) aG.nil
 refine cE<|aR<|cM 2 Z<|cM 1 Z<|aA Z<|dZ h λm w9 h=>aH (zBg aeD (Ny U q s t u Q T z6 m w9) Z (jP [0,1,2,3,4,5] Z)) Z λg=>aH (aN.alloc (cs:=FC) Z Z) Z λn=>bE (Know.one ((aT (aD.res 1 Z) cP))) λD=>bE (Know.one ((aT (aD.res 2 Z) cP))) λE=>bE (Know.one (aD.sl (bB (i:=3) (j:=4) Z Z dD))) λF=>bF 0 (vs:=[g.1,g.2.1,g.2.2.1,vI (m.2.2.2.1),vI (m.2.2.2.2.1),vI (m.2.2.2.2.2.1),vI (m.2.2.2.2.2.2.1),vU (m.2.2.2.2.2.2.2)]) Z Z (bR D (bR E (bR F (bR Z (bR Z (bR Z (bR Z (bR Z Z)))))))) Z Z Z<|aL<|aK<|CM (B:=Kn) (λd=>yF  d=some r) (λd e=>[(10,vP y),(13,vP n)]) (λd e=>[cJ n [e.1,e.2.1,e.2.2.1,vI (d.1),vI (d.2.1),vI (d.2.2.1),vI (d.2.2.2.1),vU (d.2.2.2.2.1)] 55,Ar fG e.1 d.2.2.2.2.2.1,Ar fG e.2.1 d.2.2.2.2.2.2.1,Ar fE.raw e.2.2.1 e.2.2.2,k_ cS e.2.2.2 d.2.2.2.2.2.2.2,cJ y FC 55]) ?_ ?_
 ·refine aR<|aB Z<|aL<|aS<|eB (B:=Kn) (pP U p A v P) (λa b=>[(2,vI (v)),(4,V),(5,vP R),(6,vP S),(10,vP y),(13,vP n),(14,vI (a.1))]) (λa b=>[cJ n [b.1,b.2.1,b.2.2.1,vI (a.2.1),vI (a.2.2.1),vI (a.2.2.2.1),vI (a.2.2.2.2.1),vU (a.2.2.2.2.2.1)] 55,Ar fG b.1 a.2.2.2.2.2.2.1,Ar fG b.2.1 a.2.2.2.2.2.2.2.1,Ar fE.raw b.2.2.1 b.2.2.2,k_ cS b.2.2.2 a.2.2.2.2.2.2.2.2,cJ y FC 55,cJ S [t,u] 29,cJ R [vS (p.1),q,s] 36]) ((0:Int),m.2.2.2.1,m.2.2.2.2.1,m.2.2.2.2.2.1,m.2.2.2.2.2.2.1,m.2.2.2.2.2.2.2,m.1,m.2.1,m.2.2.1) (g.1,g.2.1,g.2.2.1,g.2.2.2) h SF (bA.refl _) ?_;intro W a b h;refine aK<|aK<|dK (λo=>sT U p A v P a (bK (pP U p A v P) W) o=some r) (λo C=>[(2,vI (v)),(4,V),(5,vP R),(6,vP S),(10,vP y),(13,vP n),(14,vI (a.1)),(41,vB (o))]) (λo C=>[cJ n [b.1,b.2.1,b.2.2.1,vI (a.2.1),vI (a.2.2.1),vI (a.2.2.2.1),vI (a.2.2.2.2.1),vU (a.2.2.2.2.2.1)] 55,Ar fG b.1 a.2.2.2.2.2.2.1,Ar fG b.2.1 a.2.2.2.2.2.2.2.1,Ar fE.raw b.2.2.1 b.2.2.2,k_ cS b.2.2.2 a.2.2.2.2.2.2.2.2,cJ y FC 55,cJ S [t,u] 29,cJ R [vS (p.1),q,s] 36]) ?_ ?_
  ·refine aO<|aA Z<|aA Z<|iF (aD.fact 6 Z) Z<|cZ Z<|aA Z ?_;refine wN h Z (λ_ h=>?_) λ_ h=>?_
   ·refine aM Z (cQ Z Z Z Z Z) Z<|aM Z (dN 0 Z Z Z Z Z) Z<|bZ Z<|dW h λO h=>aM Z (a_ Z Z (aT (aD.res 2 Z) cP) Z Z O) Z<|aM Z (bY Z (aT (aD.res 2 Z) cP) Z Z Z AI O) Z<|aM Z (Dd Z Z) Z<|dA Z<|aL ?_;exact eW (decide ((at' a.2.2.2.2.2.2.2.1 a.1)≠(0:Int))) () h SF Z
   refine aE Z<|aE Z<|aE Z<|aE Z<|aE Z<|aE Z<|c_ Z<|aL ?_;exact eW (false) () h SF Z
  intro o C h;refine tT h Z (λ_ h=>?_) λ_ h=>?_
  ·refine cE<|aK<|aS ?_;refine JR.start [0,0,0,0,0,0,32,0,224,480,0,0,3072,7168,16376,32767,65535] 15 mixedOrders (by decide +kernel) ?_;refine zBj (by exact rfl) ?_;refine gK 7 Z<|gK 6 Z<|gK 0 Z<|gK 6 Z<|aY Z<|cB Z<|fD 0 Z<|aY Z<|dW h λM h=>bM Z (bA.cons 2 Z .nil) .nil (a_ Z Z (aT (aD.res 0 Z) cP) Z Z M) aU.z<|bM Z (bA.cons 2 Z .nil) .nil (bY Z (aT (aD.res 0 Z) cP) Z Z Z AI M) aU.z<|aY Z<|aY Z<|dW h λN h=>bM Z .nil (kH 6 Z) (a_ Z Z (aD.fact 0 Z) Z Z N) aU.z<|bM Z .nil (kH 6 Z) (bY Z (aD.fact 0 Z) Z Z Z AI N) aU.z<|dZ h λX Y h=>zBh Z Z Z (zBg aex (Ky U t u Q X Y) Z (jP [3,4] Z)) Z (λab=>(kG [([0],[]),([6],[]),([7],[])] Z)) λab=>bP 15 Z Z<|dZ h λf aa h=>aH (zBg aeE (Qg U q s t u Q b.1 b.2.1 b.2.2.1 (List.zip b.2.2.2 a.2.2.2.2.2.2.2.2) f aa) Z (aG.cons (aD.fact 0 Z) (aG.cons (aD.fact 1 Z) (aG.cons (aD.fact 2 Z) (aG.cons (aD.fact 3 Z) (aG.cons (aD.fact 4 Z) (aG.cons (aT (aD.res 1 Z) cP) (aG.cons (aT (aD.res 2 Z) cP) (aG.cons (bB (i:=3) (j:=4) Z Z dD) .nil))))))))) Z λk=>bE (Know.one ((aT (aD.res 0 Z) cP))) λJ=>bE (Know.one ((aT (aD.res 1 Z) cP))) λK=>bE (Know.one (aD.sl (bB (i:=2) (j:=3) Z Z dD))) λL=>bF 4 (vs:=[k.1,k.2.1,k.2.2.1,vI (f.2.2.2.1),vI (f.2.2.2.2.1),vI (f.2.2.2.2.2.1),vI (f.2.2.2.2.2.2.1),vU (f.2.2.2.2.2.2.2)]) Z Z (bR J (bR K (bR L (bR Z (bR Z (bR Z (bR Z (bR Z Z)))))))) Z Z Z<|eN<|jH<|aO<|aA Z<|cD Z<|aB Z<|aL ?_;exact nC ((wI .i64 (a.1+(1:Int))),f.2.2.2.1,f.2.2.2.2.1,f.2.2.2.2.2.1,f.2.2.2.2.2.2.1,f.2.2.2.2.2.2.2,f.1,f.2.1,f.2.2.1) (k.1,k.2.1,k.2.2.1,k.2.2.2) h SF (bA.ix [4,0,1,2,3,9,10,11] Z Z) (aG.refl _ _)
  refine eS ?_;exact bU (a.2.1,a.2.2.1,a.2.2.2.1,a.2.2.2.2.1,a.2.2.2.2.2.1,a.2.2.2.2.2.2.1,a.2.2.2.2.2.2.2.1,a.2.2.2.2.2.2.2.2) (b.1,b.2.1,b.2.2.1,b.2.2.2) h SF (bA.ix [0,1,2,3,4,5] Z Z) (aG.refl _ _)
 intro d e h;unfold yF at h;refine aR<|cM 0 Z<|bE (Know.one ((aT (aD.res 1 Z) cP))) λG=>bE (Know.one ((aT (aD.res 2 Z) cP))) λH=>bE (Know.one (aD.sl (bB (i:=3) (j:=4) Z Z dD))) λI=>bF 5 (vs:=[e.1,e.2.1,e.2.2.1,vI (d.1),vI (d.2.1),vI (d.2.2.1),vI (d.2.2.2.1),vU (d.2.2.2.2.1)]) Z Z (bR G (bR H (bR I (bR Z (bR Z (bR Z (bR Z (bR Z Z)))))))) Z Z Z<|aB Z<|aL<|aQ ?_;cases h;exact eD (e.1,e.2.1,e.2.2.1,e.2.2.2) Z Z (RV.cell 5 Z Z Z Z) (RV.tmp Z) (bA.ix [1,2,3,4] Z Z) aG.nil
def An  (a:aX):Option aX:=
 some (a)
def Ao (a:qA) (c:wF->Option aX) (b:aX):Option aX:=
 c ((wI .i64 (a.1+(1:Int))),b)
def uX (b:qA) (a:wF->Option aX) (c:aX):Option aX:=
 a ((wI .i64 (b.1+(1:Int))),c)
def rS (U:Nat) (f:Ft) (b:qA) (d:wF->Option aX) (a:qA) (c:wF->Option aX):Option aX:=
 if a.1<(a.2.length:Int)then(ck (0<=b.1∧b.1<(f.1.length:Int)) (Option.bind (nN U (at' f.1 b.1) a.1) λe=>(if e=true then(ck (0<=a.1∧a.1<(a.2.length:Int)) (ck (0<=a.1∧a.1<(a.2.length:Int)) (uX a c (List.set a.2 (Int.toNat a.1) (wI .i64 ((at' a.2 a.1)+(1:Int)))))))else(uX a c (a.2)))))else(Ao b d (a.2))
def mO (U:Nat) (c:Ft) (a:qA) (b:wF->Option aX):Option aX:=
 if a.1<(c.1.length:Int)then(bK (rS U c a b) U ((0:Int),a.2))else(An  (a.2))
def xC (U:Nat) (a:Ft):Option aX:=
 ck (0<=(a.2.2.1.length:Int)∧(a.2.2.1.length:Int)<=1099511627) (bK (mO U a) U ((0:Int),(List.replicate (Int.toNat (a.2.2.1.length:Int)) (0:Int))))
theorem aes:aV Tryz.prog 36:=Tryz.call36
theorem NA (U:Nat) {a:Ft} (m:Value)  (n:Value)  (o:Value)  (F:lU) (r:aX) (h:xC U a=some r):
  aW Tryz.prog 36 #[Value.agg #[m,n,o,vI (a.2.2.2.1),vI (a.2.2.2.2.1),vI (a.2.2.2.2.2.1),vI (a.2.2.2.2.2.2.1),vU (a.2.2.2.2.2.2.2)]] [Sl wR m a.1,Sl wR n a.2.1,S2 bX o F a.2.2.1] (λx:Value=>x) (λx l=>Ar cS x r::l) (λ_ l=>l):=by
 refine aW.of Tryz.func36 Z Tryz.ntmps36 Z λc=>?_;refine aR<|aH (aN.box (cs:=[m,n,o,vI (a.2.2.2.1),vI (a.2.2.2.2.1),vI (a.2.2.2.2.2.1),vI (a.2.2.2.2.2.2.1),vU (a.2.2.2.2.2.2.2)]) Z Z) Z λj=>aB Z<|aL<|aR<|bN Z<|dL 0 Z<|aC (gM Z (aD.fact 2 Z) Z) Z<|dW h λD h=>aH (r_ (e:=cS) (0:Int) Z Z Z Z D Z Z Z) Z λi=>aB Z<|aL<|aK<|dK (λp=>An  p=some r) (λp C=>[(3,i)]) (λp C=>[Ar cS i p]) ?_ ?_
 ·refine aR<|aB Z<|aL<|aS<|eB (mO U a) (λd q=>[(1,vP j),(3,i),(4,vI (d.1))]) (λd q=>[Ar cS i d.2,cJ j [m,n,o,vI (a.2.2.2.1),vI (a.2.2.2.2.1),vI (a.2.2.2.2.2.1),vI (a.2.2.2.2.2.2.1),vU (a.2.2.2.2.2.2.2)] 55]) ((0:Int),(List.replicate (Int.toNat (a.2.2.1.length:Int)) (0:Int))) () h SF (bA.refl _) ?_;intro k d q h;refine aK<|aR<|aA Z<|bN Z<|dL 1 Z<|iF (aD.fact 0 Z) Z<|cZ Z<|aL ?_;refine d_ h Z (λh=>?_) λh=>?_
  ·refine cE<|aK<|dK (λf=>Ao d (bK (mO U a) k) f=some r) (λf s=>[(1,vP j),(3,i),(4,vI (d.1))]) (λf s=>[Ar cS i f,cJ j [m,n,o,vI (a.2.2.2.1),vI (a.2.2.2.2.1),vI (a.2.2.2.2.2.1),vI (a.2.2.2.2.2.2.1),vU (a.2.2.2.2.2.2.2)] 55]) ?_ ?_
   ·refine aS<|aR<|aB Z<|aL<|aS<|eB (rS U a d (bK (mO U a) k)) (λb t=>[(1,vP j),(3,i),(4,vI (d.1)),(5,vI (b.1))]) (λb t=>[Ar cS i b.2,cJ j [m,n,o,vI (a.2.2.2.1),vI (a.2.2.2.2.1),vI (a.2.2.2.2.2.1),vI (a.2.2.2.2.2.2.1),vU (a.2.2.2.2.2.2.2)] 55]) ((0:Int),d.2) () h SF (bA.refl _) ?_;intro z b t h;refine aK<|aR<|aA Z<|aA Z<|aC (fX Z (aT (aD.res 0 Z) dD) Z) Z<|cZ Z<|aL ?_;refine d_ h Z (λh=>?_) λh=>?_
    ·refine cE<|aK<|dK (λg=>uX b (bK (rS U a d (bK (mO U a) k)) z) g=some r) (λg u=>[(1,vP j),(3,i),(4,vI (d.1)),(5,vI (b.1))]) (λg u=>[Ar cS i g,cJ j [m,n,o,vI (a.2.2.2.1),vI (a.2.2.2.2.1),vI (a.2.2.2.2.2.1),vI (a.2.2.2.2.2.2.1),vU (a.2.2.2.2.2.2.2)] 55]) ?_ ?_
     ·refine aS<|aR<|bN Z<|dL 1 Z<|aA Z<|dW h λv h=>aC (a_ Z Z (aD.fact 0 Z) Z Z v) Z<|aC (bY Z (aD.fact 0 Z) Z Z Z AI v) Z<|aA Z<|dZ h λA B h=>aH (zBg HL (uY U  A B) Z .nil) Z λE=>aL ?_;refine tT h Z (λ_ h=>?_) λ_ h=>?_
      ·refine aO<|aA Z<|aA Z<|dW h λw h=>aC (a_ Z Z (aT (aD.res 0 Z) dD) Z Z w) Z<|aC (bY Z (aT (aD.res 0 Z) dD) Z Z Z eH w) Z<|cD Z<|dW h λy h=>aC (a_ Z Z (aT (aD.res 0 Z) dD) Z Z y) Z<|zF 0 (wI .i64 ((at' b.2 b.1)+(1:Int))) y Z Z Z Z Z Z Z<|eN<|jH ?_;exact eW (List.set b.2 (Int.toNat b.1) (wI .i64 ((at' b.2 b.1)+(1:Int)))) () h SF Z
      refine dM<|jH ?_;exact eW (b.2) () h SF Z
     intro g u h;unfold uX at h;refine aO<|aA Z<|cD Z<|aB Z<|aL ?_;exact tV ((wI .i64 (b.1+(1:Int))),g) () h SF Z
    refine qC<|eZ<|eZ<|wQ<|jH ?_;exact eW (b.2) () h SF Z
   intro f s h;unfold Ao at h;refine aO<|aA Z<|cD Z<|aB Z<|aL ?_;exact tV ((wI .i64 (d.1+(1:Int))),f) () h SF Z
  refine eS ?_;exact bU (d.2) () h SF (bA.ix [0] Z Z) (aG.refl _ _)
 intro p C h;unfold An at h;refine aR<|aA Z<|aB Z<|aL<|aQ ?_;cases h;exact gE (i) Z Z (RV.tmp Z) (bA.refl _) aG.nil
end Go.Proofs.YtahgemjmgopleaaGreatDoor