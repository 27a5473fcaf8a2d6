/- Models and proofs. Conditions: none. -/
import Derived.Test.YtflciafboapaaaaGreatZRSt5
import Derived.Test.YtflciafboapaaaaGreatZRSt7
import Derived.Test.YtflciafboapaaaaGreatZRSt8
import Derived.Test.YtflciafboapaaaaGreatZRSt6
import Derived.Test.YtflciafboapaaaaGreatZRSt2
set_option linter.unusedVariables false
set_option linter.unusedSimpArgs false
set_option maxHeartbeats 4000000
set_option maxRecDepth 20000
namespace Go.Proofs.YtflciafboapaaaaGreat
open Go.Sx
def vC  (a:Int):Option (Int):=
 some (a)
def vD  (a:Int):Option (Int):=
 vC  (a)
def qH (b:gC) (a:gH->Option (Int)) (c:Int):Option (Int):=
 a (c,(wI .i64 (b.2+(1:Int))))
def AD (U:Nat) (p0:fH) (f:cS) (e:CM) (a:gC) (b:gH->Option (Int)) (c:bV):Option (Int):=
 Option.bind (fS U ((((p0.1,p0.2.1,p0.2.2)),((((p0.1,p0.2.1,p0.2.2)),((f.1,f.2)),e.2.1,e.2.2.2.1)),e.1)) c a.2) λd=>(if(0:Int)<=d then(ck (0<=a.2) (qH a b (VK .u32 a.1 (LP .u32 (1:Int) a.2))))else(qH a b (a.1)))
def qI (U:Nat) (p0:fH) (d:cS) (e:CM) (b:gC) (a:gH->Option (Int)) (c:bV):Option (Int):=
 AD U p0 d e b a (c)
def qJ (U:Nat) (p0:fH) (c:cS) (f:CM) (b:gC) (d:gH->Option (Int)) (a:Int×bV) (e:(Int×bV)->Option (Int)):Option (Int):=
 if a.1<((at' c.2 b.2).length:Int)then(ck (0<=a.1∧a.1<((at' c.2 b.2).length:Int)) (ck (0<=b.2∧b.2<(f.2.2.2.2.1.length:Int)) (ck (0<=a.1∧a.1<((at' f.2.2.2.2.1 b.2).length:Int)) (ck (0<=((at' (at' c.2 b.2) a.1).1)∧((at' (at' c.2 b.2) a.1).1)<(a.2.length:Int)) (e ((wI .i64 (a.1+(1:Int))),(List.set a.2 (Int.toNat ((at' (at' c.2 b.2) a.1).1)) (at' (at' f.2.2.2.2.1 b.2) a.1))))))))else(qI U p0 c f b d (a.2))
def iO (U:Nat) (p0:fH) (c:cS) (d:CM) (a:gC) (b:gH->Option (Int)):Option (Int):=
 if a.2<(c.2.length:Int)then(ck ((d.2.2.1.length:Int)<=1099511627) (ck (0<=a.2∧a.2<(c.2.length:Int)) (bP (qJ U p0 c d a b) U ((0:Int),d.2.2.1))))else(vD  (a.1))
def k_ (U:Nat) (p0:fH) (b:cS) (a:gX):Option (Int):=
 Option.bind (jX U ((p0.1,p0.2.1,p0.2.2)) ((b.1,b.2)) (8:Int) ((a.1,a.2.1,a.2.2))) λc=>(if(!c)=true then(some (0:Int))else(Option.bind (iY U ((p0.1,p0.2.1,p0.2.2)) ((b.1,b.2)) (8:Int) ((a.1,a.2.1,a.2.2))) λd=>(bP (iO U p0 b d) U ((0:Int),(0:Int)))))
theorem VM:bD Tryz.prog 20:=Tryz.call20
theorem EU (U:Nat) {n:fH} {m:cS} {p2:gX} (W:Value)  (X:Value)  (T:Value)  (v3:Value)  (z4:kY)  (v5:Value)  (z6:mR)  (v7:Value)  (z8:BQ)  (v9:Value)  (an:BP) (r:Int) (h:k_ U n m p2=some r):
  bG Tryz.prog 20 #[Value.agg #[vS (n.1),W,X],Value.agg #[T,v3],Value.agg #[v5,v7,v9]] [Sl aG W n.2.1,Sl aF X n.2.2,PF (Value.agg #[vS n.1,W,X]),Sl aP T m.1,S2 bA v3 z4 m.2,S2 aP v5 z6 p2.1,S3 aP v7 z8 p2.2.1,S4 aP v9 an p2.2.2] (λx:Unit=>vU (r)) (λx l=>l) (λ_ l=>l):=by
 let w:=Sl aF X n.2.2;let v:=Sl aG W n.2.1;let u:=S2 aP v5 z6 p2.1;let t:=S2 bA v3 z4 m.2;let s:=S3 aP v7 z8 p2.2.1;let p:=S4 aP v9 an p2.2.2;let ac:=PF (Value.agg #[vS n.1,W,X]);refine bG.of Tryz.func20 Z Tryz.ntmps20 Z λc=>?_;refine aX<|aM (aS.box (cs:=[vS (n.1),W,X]) Z Z) Z λb1=>aM (aS.box (cs:=[T,v3]) Z Z) Z λb2=>aM (aS.box (cs:=[v5,v7,v9]) Z Z) Z λb3=>aD Z<|aQ<|aN<|aX<|cM 2 Z<|cM 1 Z<|cM 0 Z<|eO h λr4 w5 h=>aM (zBa ND (Bh U W X T v3 z4 v5 z6 v7 z8 v9 an r4 w5) Z (iD [0,1,2,3,4,5,6,7] Z)) Z λx6=>aC (iQ Z) Z<|aQ ?_;refine qS h Z (λ_ h=>?_) λ_ h=>?_
 ·refine aX<|aD Z<|aQ<|aT<|aJ ?_;cases h;exact lY Z
 refine cK<|aX<|cM 2 Z<|cM 1 Z<|cM 0 Z<|eO h λN w9 h=>aM (aS.call QT (Aa U W X T v3 z4 v5 z6 v7 z8 v9 an N w9) Z (iN.cons (zA1 (i:=0) Z) (iN.cons (zA1 (i:=1) Z) (iN.cons (zA1 (i:=2) Z) (iN.cons (zA1 (i:=3) Z) (iN.cons (zA1 (i:=4) Z) (iN.cons (zA1 (i:=5) Z) (iN.cons (zA1 (i:=6) Z) (fW 7 Z)))))))) (λ_ _=>rfl) (λ_ _=>rfl)) Z λb=>let e:=b.2.2.2.2;let J:=mS aP e.2.1 N.2.2.1;let F:=Ar aE b.2.2.1 e.2.1;let ai:=bO b.2.1 [vS (n.1),W,X,vP e.2.2.1,e.2.2.2.1] 157;let ag:=bO b.1 [T,v3,vI (8:Int),vP b.2.1,b.2.2.1,b.2.2.2.1,e.1] 108;let k:=e.2.2.2.2;let L:=gN bY k.1 N.1;let H:=Ar aE k.2.1 k.2.2.1;let G:=Ar aE e.2.2.2.1 k.1;let D:=mS aP k.2.2.1 N.2.2.2.1;let ak:=Ar aE b.2.2.2.1 k.2.2.2.1;let ah:=bO e.2.2.1 [vS (n.1),W,X,T,v3,vI (N.2.1),k.2.1] 206;let M:=k.2.2.2.2;let K:=Ar aE e.1 M.2.1;let I:=gN aE k.2.2.2.1 M.1;let E:=xH aP M.1 N.2.2.2.2.1;let al:=An aP M.2.2.2 N.2.2.2.2.2;let aj:=rR aE M.2.1 M.2.2.1 M.2.2.2;xZ (A:=Int) (B:=Unit) (vs:=[vP b.1]) (λY=>vC  Y=some r) (λY ap=>vU (Y)) (λY ap=>[]) (λY ap=>[v,w,ac,Sl aP T m.1,t,u,s,p]) (oB.fn (show bD Tryz.prog 57 from Tryz.call57) Z) Tryz.func57 Z Tryz.ntmps57 Z Z ?_ ?_
 ·refine aX<|aD Z<|aQ<|aX<|aD Z<|aQ<|aN<|lC (B:=Unit) (λaa=>vD  aa=some r) (λaa av=>[(3,vU (aa))]) (λaa av=>[]) (λ_ _=>[Sl aG W n.2.1,Sl aF X n.2.2,PF (Value.agg #[vS n.1,W,X]),Sl aP T m.1,S2 bA v3 z4 m.2,S2 aP v5 z6 p2.1,S3 aP v7 z8 p2.2.1,S4 aP v9 an p2.2.2]) ?_ ?_
  ·refine aX<|aB Z<|aC (bU Z) Z<|bX Z<|bX Z<|dU 0 Z<|aC (dD Z (aA.fact 8 Z) Z) Z<|aB Z<|aQ<|aW<|oO (B:=Unit) (iO U n m N) (λa aq=>[(0,vP b.1),(3,vU (a.1)),(10,vI (m.2.length:Int)),(11,vI (a.2))]) (λa aq=>[ag,F,ai,G,L,ah,H,ak,I,K,aj]) (λa aq=>[J,D,E,al,v,w,ac,Sl aP T m.1,t,u,s,p]) ((0:Int),(0:Int)) () h SF (a_.ix [0,1,2,3,4,5,6,7,8,9,10] Z Z) (aI.refl _ _) ?_;intro a1 a aq h;let V:=(bP (iO U n m N) a1)
   refine aX<|cX Z<|aQ<|aN ?_;refine eJ h Z (λh=>?_) λh=>?_
   ·refine cK<|aN<|lC (B:=Unit) (λO=>qH a V O=some r) (λO ar=>[(0,vP b.1),(3,vU (O)),(10,vI (m.2.length:Int)),(11,vI (a.2))]) (λO ar=>[ag,F,ai,G,L,ah,H,ak,I,K,aj]) (λO ar=>[J,D,E,al,v,w,ac,Sl aP T m.1,t,u,s,p]) ?_ ?_
    ·refine aW<|aX<|aB Z<|aD Z<|aQ<|aN ?_;refine JR.start [0,1,3,7,0,0,48,0,255,511] 8 mixedOrders (by decide +kernel) ?_;refine zBc (by exact rfl) ?_;refine aV Z<|e_ Z (bU Z)<|cB Z<|eI 0 Z<|aV Z<|aV Z<|Ec (A:=bV) (B:=Ha) (vs:=[vP b.1,vI (a.2)]) (λP=>AD U n m N a V P=some r) (λP y=>y.1) (λP y=>[Ar aE y.1 y.2,ag,F,ai,G,L,ah,H,ak,I,K,aj]) (λP y=>[mS aP y.2 P,J,D,E,al,v,w,ac,Sl aP T m.1,t,u,s,p]) Z Z Z (oB.fn (show bD Tryz.prog 103 from Tryz.call103) Z) Tryz.func103 Z Tryz.ntmps103 Z Z (λ_ _=>(pB [([1],[])] Z)) ?_ ?_
     ·refine aX<|aD Z<|aQ<|aX<|aB Z<|aC (bU Z) Z<|bX Z<|bX Z<|dU 0 Z<|cQ h λa6 h=>bB (aZ (aA.fact 0 Z)) λa4=>cD (cR (aA.fact 0 Z)) ?_;refine aM (zBa NA (BJ U (p0:=e.2.1) b.2.2.1 e.2.1 (by simp[rY,ck];omega)) Z (aI.cons (oP (i:=1) Z) aI.nil)) Z λam=>?_;refine aD Z<|aQ<|aN<|lC (B:=fM) (λQ=>qI U n m N a V Q=some r) (λQ ab=>[(5,am)]) (λQ ab=>[Ar aE am ab,ag,F,ai,G,L,ah,H,ak,I,K,aj]) (λQ ab=>[mS aP ab Q,J,D,E,al,v,w,ac,Sl aP T m.1,t,u,s,p]) ?_ ?_
      ·refine aX<|aB Z<|aC (bU Z) Z<|bX Z<|bX Z<|dU 1 Z<|aB Z<|cQ h λC h=>aC (bH Z Z (aA.fact 9 Z) Z Z C) Z<|aC (bS Z (aA.fact 9 Z) Z Z C) Z<|aC (fG Z (zBb (aA.fact 9 Z) C.1 C.2) Z) Z<|aB Z<|aQ<|aW<|oO (B:=fM) (qJ U n m N a V) (λd R=>[(0,vP b.1),(1,vI (a.2)),(5,am),(21,(at' z4 a.2).1),(22,vI ((at' m.2 a.2).length:Int)),(23,vI (d.1))]) (λd R=>[Ar aE am R,ag,F,ai,G,L,ah,H,ak,I,K,aj]) (λd R=>[mS aP R d.2,J,D,E,al,v,w,ac,Sl aP T m.1,t,u,s,p]) ((0:Int),N.2.2.1) (tg 1 e.2.1) h SF (a_.refl _) (aI.refl _ _) ?_;intro a7 d R h;let ae:=at' (at' M.1 a.2) d.1;let ad:=(at' (at' m.2 a.2) d.1)
       let af:=(Int.toNat (ad.1))
       refine aX<|cX Z<|aQ<|aN ?_;refine eJ h Z (λh=>?_) λh=>?_
       ·refine cK<|aN<|aW<|aX<|aB Z<|cQ h λaR h=>aC (bI Z Z (zBb (aA.fact 9 Z) C.1 C.2) Z Z aR) Z<|aC (gM (cs:=[vI (ad.1),vI (ad.2)]) Z (zBb (aA.fact 9 Z) C.1 C.2) cF Z Z Z Z aR) Z<|aM (aS.alloc (cs:=Qs) Z Z) Z λa5=>aD Z<|cA 0 (vs:=[vI ((at' (at' m.2 a.2) d.1).1),vI ((at' (at' m.2 a.2) d.1).2)]) Z Z Z Z Z Z<|aQ ?_;refine JR.start [0,0,2,0,8,24,56,120,0,504,1016,0,4088,8184,16383,32767] 14 mixedOrders (by decide +kernel) ?_;refine zBc (by exact rfl) ?_;refine aV Z<|cB Z<|eI 0 Z<|aV Z<|e_ Z (bU Z)<|cB Z<|cB Z<|eI 2 Z<|aV Z<|cQ h λg h=>aY (cG (cU (i:=9) (q:=10) (j:=3) Z Z Z)) λaw=>e_ Z (cJ Z Z aw Z Z g)<|aY (dC 10 Z) λax=>aY (aZ (aA.fact 3 Z)) λay=>bE Z (a_.cons 9 Z .nil) .nil (eN 0 Z Z (ax.trans ay) Z Z g) aO.z<|aV Z<|cQ h λS h=>aY (cG (uI (q:=10) (j:=3) Z Z g.1 g.2)) λaz=>?_;refine e_ Z (cJ Z Z az Z Z S)<|aY (aZ (aA.fact 3 Z)) λaH=>?_;refine aY (aZ (bK (aA.fact 3 Z) g.1 g.2)) λaK=>?_;refine bE Z (a_.cons 10 Z .nil) .nil (cL (f:=λx=>x) Z (CY (q:=0) Z g.1 (by have q0:=g.2;have q1:=aH;(try simp only[zA0]at q0 q1⊢);omega)) Z Z Z hN ⟨S.1,(by have q0:=S.2;have q1:=aK;(try simp only[zA0]at q0 q1⊢);omega)⟩) aO.z ?_;refine bM 14 Z Z<|cQ h λau h=>aC (bH Z Z (bW (i:=1) (j:=0) Z Z) Z Z au) Z ?_;refine bB (Know.one ((bK (bK (aA.fact 3 Z) g.1 g.2) S.1 S.2))) λao=>?_;refine bB (aZ (aA.fact 0 Z)) λaL=>?_;refine cD (cR (eP af (aA.fact 0 Z) (bK (bK (aA.fact 3 Z) g.1 g.2) S.1 S.2))) ?_;refine nU (jQ (us:=[ae]) (o:=0) (q:=1) 1 (ae) ⟨au.1,(by have q0:=au.2;have q1:=aL;(try simp only[zA0]at q0 q1⊢);omega)⟩ Z Z Z Z (by rw[show(at' (at' b.2.2.2.2.2.2.2.2.2.2.2.2.1 a.2) d.1).cells = #[at' (at' b.2.2.2.2.2.2.2.2.2.2.2.2.1 a.2) d.1]from eR ao]) Z Z Z (eZ ao Z) Z) λa9=>?_;refine fU<|lJ<|aU<|cW Z<|aB Z<|aQ ?_;exact kG ((wI .i64 (d.1+(1:Int))),(List.set d.2 af (at' (at' N.2.2.2.2.1 a.2) d.1))) (List.set R af (ae)) h SF (a_.ix [1,2,3,4,5,6,7,8,9,10,11,12] Z Z) (iD [0,2,3,4,5,6,7,8,9,10,11,12,13] Z)
       refine fF ?_;exact gJ (d.2) (R) h SF Z
      intro Q ab h;unfold qI at h;refine aX<|aB Z<|aD Z<|aQ<|aT ?_;exact jC (Q) (am,ab) h (.inl Z) (Dx.r1 Z (RV.tmp Z)) Z (a_.refl _) (aI.refl _ _)
     intro P y h;refine e_ Z (dZ Z)<|bM 8 Z Z<|eO h λa2 a3 h=>aM (zBa Nw (uF U b.2.1 W X e.2.2.1 W X T v3 z4 k.2.1 ((List.zip k.2.2.1 N.2.2.2.1)) e.2.2.2.1 (List.zip k.1 N.1) y.1 ((List.zip y.2 P)) a2 a3) Z (aI.cons (aA.res 3 Z) (aI.cons (aA.fact 5 Z) (aI.cons (aA.fact 6 Z) (aI.cons (aA.res 6 Z) (aI.cons (aA.fact 5 Z) (aI.cons (aA.fact 6 Z) (aI.cons (aA.fact 8 Z) (aI.cons (aA.fact 9 Z) (aI.cons (bW (i:=7) (j:=2) Z Z) (aI.cons (eV (i:=4) (j:=5) Z Z cF) (aI.cons (bW (i:=0) (j:=0) Z Z) .nil)))))))))))) Z λa8=>aC (tC Z Z) Z<|aQ ?_;refine eJ h Z (λh=>?_) λh=>?_
     ·refine aU<|aB Z<|aB Z<|cQ h λa0 h=>aC (VC Z Z a0) Z<|aC (aby Z Z) Z<|aD Z<|fU<|lJ ?_;exact cE (VK .u32 a.1 (LP .u32 (1:Int) a.2)) () h SF (a_.ix [1,2,3,4,5,6,7,8,9,10,11] Z Z) (iD [1,2,3,4,5,6,7,8,9,10,11,12] Z)
     refine eC<|lJ ?_;exact cE (a.1) () h SF (a_.ix [1,2,3,4,5,6,7,8,9,10,11] Z Z) (iD [1,2,3,4,5,6,7,8,9,10,11,12] Z)
    intro O ar h;unfold qH at h;refine aU<|cW Z<|aB Z<|aQ ?_;exact vT (O,(wI .i64 (a.2+(1:Int)))) () h SF Z
   refine fF ?_;exact cE (a.1) () h SF .nil (iD [4,5,6,7,8,9,10,11] Z)
  intro aa av h;unfold vD at h;refine aX<|aB Z<|aD Z<|aQ<|aT ?_;exact jC (aa) () h (.inl Z) (Dx.r1 Z (RV.tmp Z)) Z (a_.refl _) (aI.refl _ _)
 intro Y ap h;unfold vC at h;refine aD Z<|aQ<|aT ?_;cases h;exact iJ Z
def xB  (a:Unit):Option Bool:=
 some (true)
def xC (c:cC) (d:cC) (a:Int) (b:(Int)->Option Bool):Option Bool:=
 if a<(c.length:Int)then(ck (0<=a∧a<(c.length:Int)) (ck (0<=a∧a<(d.length:Int)) (if(at' c a)≠(at' d a)then(some (false))else(b (wI .i64 (a+(1:Int)))))))else(xB  (()))
def tQ (U:Nat) (a:cC) (b:cC):Option Bool:=
 if(a.length:Int)≠(b.length:Int)then(some (false))else(bP (xC a b) U (0:Int))
theorem VT:bD Tryz.prog 61:=Tryz.call61
theorem FU (U:Nat) {p0:cC} {f:cC} (g:Value)  (i:Value) (r:Bool) (h:tQ U p0 f=some r):
  bG Tryz.prog 61 #[g,i] [Sl aP g p0,Sl aP i f] (λx:Unit=>vB (r)) (λx l=>l) (λ_ l=>l):=by
 refine bG.of Tryz.func61 Z Tryz.ntmps61 Z λc=>?_;refine aX<|aD Z<|aQ<|aN<|aX<|aB Z<|jM (aA.fact 0 Z) Z<|aB Z<|jM (aA.fact 1 Z) Z<|kA Z<|aQ ?_;refine eJ h Z (λh=>?_) λh=>?_
 ·refine aX<|aD Z<|aQ<|aT<|aJ ?_;cases h;exact iJ Z
 refine cK<|aN<|eG (λd=>xB  d=some r) (λd j=>[]) (λd j=>[]) ?_ ?_
 ·refine aX<|aB Z<|jM (aA.fact 0 Z) Z<|aB Z<|aQ<|aW<|fJ (xC p0 f) (λe k=>[(0,g),(1,i),(12,vI (p0.length:Int)),(13,vI (e))]) (λe k=>[]) (0:Int) () h SF (a_.refl _) ?_;intro m e k h;refine aX<|cX Z<|aQ<|aN ?_;refine eJ h Z (λh=>?_) λh=>?_
  ·refine cK<|aN<|aW<|aX<|aB Z<|aD Z<|aQ<|aN ?_;refine JR.start [0,0,3,7,0,0,48,112,255] 8 mixedOrders (by decide +kernel) ?_;refine zBc (by exact rfl) ?_;refine aV Z<|aV Z<|cQ h λa h=>bE Z .nil (fW 0 Z) (bI Z Z (aA.fact 0 Z) Z Z a) aO.z<|bE Z .nil (fW 0 Z) (cL Z (aA.fact 0 Z) Z Z Z fN a) aO.z<|aV Z<|aV Z<|cQ h λb h=>bE Z .nil (fW 1 Z) (bI Z Z (aA.fact 0 Z) Z Z b) aO.z<|bE Z .nil (fW 1 Z) (cL Z (aA.fact 0 Z) Z Z Z fN b) aO.z<|bM 8 Z Z<|kA Z<|aQ ?_;refine eJ h Z (λh=>?_) λh=>?_
   ·refine aX<|aD Z<|aQ<|aT<|bF<|aJ<|aJ<|bF<|aJ ?_;cases h;exact iJ Z
   refine eC<|lJ<|aU<|cW Z<|aB Z<|aQ ?_;exact vT (wI .i64 (e+(1:Int))) () h SF Z
  refine fF ?_;exact gJ () (()) h SF Z
 intro d j h;unfold xB at h;refine aX<|aD Z<|aQ<|aT ?_;cases h;exact iJ Z
def yR (U:Nat) (c:cC) (b:gX) (a:Int):Option Bool:=
 ck (0<=a∧a<(b.1.length:Int)) (Option.bind (tQ U c (at' b.1 a)) λd=>(some ((!d))))
theorem abM:bD Tryz.prog 60:=Tryz.call60
theorem Is (U:Nat) {p0:cC} {e:gX} {f:Int} (g:Value)  (a:Nat)  (i:Value)  (m:mR)  (j:Value)  (p:BQ)  (k:Value)  (q:BP)  (b:Nat) (r:Bool) (h:yR U p0 e f=some r):
  bG Tryz.prog 60 #[g,vP a,vP b] [Sl aP g p0,bO a [i,j,k] 43,S2 aP i m e.1,S3 aP j p e.2.1,S4 aP k q e.2.2,bO b [vI (f)] 3] (λx:Unit=>vB (r)) (λx l=>l) (λ_ l=>l):=by
 refine bG.of Tryz.func60 Z Tryz.ntmps60 Z λc=>?_;refine aX<|aD Z<|aQ<|aX<|aB Z<|bX Z<|aC (fX Z (aA.fact 1 Z) Z Z Z) Z<|aC (fX Z (aA.fact 5 Z) Z Z Z) Z<|cQ h λd h=>aC (bH Z Z (aA.fact 2 Z) Z Z d) Z<|aC (bS Z (aA.fact 2 Z) Z Z d) Z<|eO h λn o h=>aM (zBa VT (FU U g ((at' m f).1) n o) Z (aI.cons (aA.fact 0 Z) (aI.cons (zBb (aA.fact 2 Z) d.1 d.2) .nil))) Z λs=>aC (iQ Z) Z<|aD Z<|aQ<|aT ?_;cases h;exact iJ Z
def vF  (a:Int):Option Bool:=
 some (decide (a=(0:Int)))
def vG  (a:Int):Option Bool:=
 vF  (a)
def qK (b:gC) (a:gH->Option Bool) (c:Int):Option Bool:=
 a (c,(wI .i64 (b.2+(1:Int))))
def AE (U:Nat) (p0:fH) (f:cS) (c:CM) (a:gC) (b:gH->Option Bool) (d:bV):Option Bool:=
 Option.bind (fS U ((((p0.1,p0.2.1,p0.2.2)),((((p0.1,p0.2.1,p0.2.2)),((f.1,f.2)),c.2.1,c.2.2.2.1)),c.1)) d a.2) λe=>(if(0:Int)<=e then(ck (0<=a.2) (qK a b (VK .u32 a.1 (LP .u32 (1:Int) a.2))))else(qK a b (a.1)))
def qL (U:Nat) (p0:fH) (e:cS) (d:CM) (b:gC) (a:gH->Option Bool) (c:bV):Option Bool:=
 AE U p0 e d b a (c)
def qO (U:Nat) (p0:fH) (d:cS) (c:CM) (b:gC) (e:gH->Option Bool) (a:Int×bV) (f:(Int×bV)->Option Bool):Option Bool:=
 if a.1<((at' d.2 b.2).length:Int)then(ck (0<=a.1∧a.1<((at' d.2 b.2).length:Int)) (ck (0<=b.2∧b.2<(c.2.2.2.2.1.length:Int)) (ck (0<=a.1∧a.1<((at' c.2.2.2.2.1 b.2).length:Int)) (ck (0<=((at' (at' d.2 b.2) a.1).1)∧((at' (at' d.2 b.2) a.1).1)<(a.2.length:Int)) (f ((wI .i64 (a.1+(1:Int))),(List.set a.2 (Int.toNat ((at' (at' d.2 b.2) a.1).1)) (at' (at' c.2.2.2.2.1 b.2) a.1))))))))else(qL U p0 d c b e (a.2))
def iP (U:Nat) (p0:fH) (d:cS) (b:CM) (a:gC) (c:gH->Option Bool):Option Bool:=
 if a.2<(d.2.length:Int)then(ck ((b.2.2.1.length:Int)<=1099511627) (ck (0<=a.2∧a.2<(d.2.length:Int)) (bP (qO U p0 d b a c) U ((0:Int),b.2.2.1))))else(vG  (a.1))
def vE (U:Nat) (p0:fH) (a:cS) (b:gX) (d:Unit):Option Bool:=
 Option.bind (iY U ((p0.1,p0.2.1,p0.2.2)) ((a.1,a.2)) (8:Int) ((b.1,b.2.1,b.2.2))) λc=>(bP (iP U p0 a c) U ((0:Int),(0:Int)))
def vH (b:Int) (a:(Int)->Option Bool) (c:Unit):Option Bool:=
 a (wI .i64 (b+(1:Int)))
def qM (b:Int) (a:(Int)->Option Bool) (c:Bool):Option Bool:=
 if c=true then(some (false))else(a (wI .i64 (b+(1:Int))))
def qN (c:Int) (b:(Int)->Option Bool) (a:Bool):Option Bool:=
 qM c b (a)
def mM (c:Int) (b:(Int)->Option Bool) (a:Int):Option Bool:=
 qN c b (decide ((0:Int)<=a))
def oZ (b:Int) (a:(Int)->Option Bool) (c:Unit):Option Bool:=
 mM b a (-1:Int)
def vJ (U:Nat) (f:gX) (c:Int) (b:Int) (d:(Int)->Option Bool) (a:Int) (e:(Int)->Option Bool):Option Bool:=
 if a<((at' (at' f.2.2 c) b).length:Int)then(ck (0<=a∧a<((at' (at' f.2.2 c) b).length:Int)) (Option.bind (yR U (at' (at' (at' f.2.2 c) b) a) ((f.1,f.2.1,f.2.2)) c) λg=>(if g=true then(mM b d (a))else(e (wI .i64 (a+(1:Int)))))))else(oZ b d (()))
def jK (U:Nat) (f:cS) (d:gX) (a:Int) (e:(Int)->Option Bool) (b:Int) (c:(Int)->Option Bool):Option Bool:=
 if b<((at' f.2 a).length:Int)then(ck (0<=b∧b<((at' f.2 a).length:Int)) (ck (0<=a∧a<(d.2.1.length:Int)) (ck (0<=b∧b<((at' d.2.1 a).length:Int)) (ck (0<=((at' (at' f.2 a) b).1)∧((at' (at' f.2 a) b).1)<(d.1.length:Int)) (Option.bind (tQ U (at' (at' d.2.1 a) b) (at' d.1 ((at' (at' f.2 a) b).1))) λg=>(if(!g)=true then(qM b c (true))else(ck (0<=a∧a<(d.2.2.length:Int)) (ck (0<=b∧b<((at' d.2.2 a).length:Int)) (bP (vJ U d a b c) U (0:Int))))))))))else(vH a e (()))
def gQ (U:Nat) (p0:fH) (c:cS) (d:gX) (a:Int) (b:(Int)->Option Bool):Option Bool:=
 if a<(c.2.length:Int)then(ck (0<=a∧a<(c.2.length:Int)) (bP (jK U c d a b) U (0:Int)))else(vE U p0 c d (()))
def iK (U:Nat) (p0:fH) (b:cS) (a:gX):Option Bool:=
 Option.bind (jX U ((p0.1,p0.2.1,p0.2.2)) ((b.1,b.2)) (8:Int) ((a.1,a.2.1,a.2.2))) λc=>(if(!c)=true then(some (false))else(bP (gQ U p0 b a) U (0:Int)))
theorem QP:bD Tryz.prog 22:=Tryz.call22
theorem BI (U:Nat) {u:fH} {k:cS} {L:gX} (v0:Value)  (v1:Value)  (S:Value)  (v3:Value)  (z4:kY)  (v5:Value)  (z6:mR)  (v7:Value)  (z8:BQ)  (v9:Value)  (H:BP) (r:Bool) (h:iK U u k L=some r):
  bG Tryz.prog 22 #[Value.agg #[vS (u.1),v0,v1],Value.agg #[S,v3],Value.agg #[v5,v7,v9]] [Sl aG v0 u.2.1,Sl aF v1 u.2.2,PF (Value.agg #[vS u.1,v0,v1]),Sl aP S k.1,S2 bA v3 z4 k.2,S2 aP v5 z6 L.1,S3 aP v7 z8 L.2.1,S4 aP v9 H L.2.2] (λx:Unit=>vB (r)) (λx l=>l) (λ_ l=>l):=by
 let E:=Sl aF v1 u.2.2;let D:=Sl aG v0 u.2.1;let C:=S2 aP v5 z6 L.1;let y:=S2 bA v3 z4 k.2;let w:=S3 aP v7 z8 L.2.1;let v:=S4 aP v9 H L.2.2;let M:=vI (k.2.length:Int);let am:=PF (Value.agg #[vS u.1,v0,v1]);refine bG.of Tryz.func22 Z Tryz.ntmps22 Z λc=>?_;refine aX<|aM (aS.box (cs:=[vS (u.1),v0,v1]) Z Z) Z λb1=>let Q:=bO b1 [vS (u.1),v0,v1] 36;aM (aS.box (cs:=[S,v3]) Z Z) Z λb2=>let s:=bO b2 [S,v3] 31;aM (aS.box (cs:=[v5,v7,v9]) Z Z) Z λb3=>let R:=bO b3 [v5,v7,v9] 43;aD Z<|aQ<|aN<|aX<|cM 2 Z<|cM 1 Z<|cM 0 Z<|eO h λr4 w5 h=>aM (zBa ND (Bh U v0 v1 S v3 z4 v5 z6 v7 z8 v9 H r4 w5) Z (iD [0,1,2,3,4,5,6,7] Z)) Z λx6=>aC (iQ Z) Z<|aQ ?_
 refine qS h Z (λ_ h=>?_) λ_ h=>?_
 ·refine aX<|aD Z<|aQ<|aT<|aJ ?_;cases h;exact lY Z
 refine cK<|aN<|lC (B:=Unit) (λa8=>vE U u k L a8=some r) (λa8 b9=>[(3,vP b1),(4,vP b2),(5,vP b3)]) (λa8 b9=>[R,s,Q]) (λ_ _=>[Sl aG v0 u.2.1,Sl aF v1 u.2.2,PF (Value.agg #[vS u.1,v0,v1]),Sl aP S k.1,S2 bA v3 z4 k.2,S2 aP v5 z6 L.1,S3 aP v7 z8 L.2.1,S4 aP v9 H L.2.2]) ?_ ?_
 ·refine aX<|bX Z<|dU 1 Z<|aC (dD Z (aA.fact 4 Z) Z) Z<|aB Z<|aQ<|aW<|fJ (gQ U u k L) (λb bq=>[(3,vP b1),(4,vP b2),(5,vP b3),(18,v3),(19,M),(20,vI (b))]) (λb bq=>[R,s,Q]) (0:Int) () h SF (a_.refl _) ?_;intro b4 b bq h;let al:=(at' k.2 b)
  let aH:=(jK U k L b (bP (gQ U u k L) b4))
  refine aX<|cX Z<|aQ<|aN ?_;refine eJ h Z (λh=>?_) λh=>?_
  ·refine cK<|aN<|eG (λbd=>vH b (bP (gQ U u k L) b4) bd=some r) (λbd br=>[(3,vP b1),(4,vP b2),(5,vP b3),(18,v3),(19,M),(20,vI (b))]) (λbd br=>[R,s,Q]) ?_ ?_
   ·refine aW<|aX<|aB Z<|cQ h λV h=>aC (bH Z Z (aA.fact 4 Z) Z Z V) Z<|aC (bS Z (aA.fact 4 Z) Z Z V) Z<|aM (aS.alloc (cs:=[vI (0:Int)]) Z Z) Z λP=>let a5:=Value.func (.func 60) #[] #[vP b3,vP P];let N:=bO P [vI (b)] 3;sY 0 Z Z Z Z Z Z<|aD Z<|aQ<|aX<|aC (Hf (cs:=[.tmp 5,.tmp 7]) (vs:=[vP b3,vP P]) Z) Z<|aD Z<|aQ<|aX<|aB Z<|aC (fG Z (zBb (aA.fact 4 Z) V.1 V.2) Z) Z<|aB Z<|aQ<|aW<|fJ aH (λd bs=>[(3,vP b1),(4,vP b2),(5,vP b3),(7,vP P),(9,a5),(18,v3),(19,M),(20,vI (b)),(26,(at' z4 b).1),(27,vI (al.length:Int)),(28,vI (d))]) (λd bs=>[N,R,s,Q]) (0:Int) () h SF (a_.refl _) ?_
    intro a3 d bs h;refine aX<|cX Z<|aQ<|aN ?_;refine eJ h Z (λh=>?_) λh=>?_
    ·refine cK<|aN<|aW<|aX<|aB Z<|cQ h λb0 h=>aC (bI Z Z (zBb (aA.fact 4 Z) V.1 V.2) Z Z b0) Z<|aC (gM (cs:=[vI ((at' al d).1),vI ((at' al d).2)]) Z (zBb (aA.fact 4 Z) V.1 V.2) cF Z Z Z Z b0) Z<|aM (aS.alloc (cs:=Qs) Z Z) Z λcl=>aD Z<|cA 0 (vs:=[vI ((at' (at' k.2 b) d).1),vI ((at' (at' k.2 b) d).2)]) Z Z Z Z Z Z<|aQ<|aN<|eG (λaR=>qM d (bP aH a3) aR=some r) (λaR bt=>[(3,vP b1),(4,vP b2),(5,vP b3),(7,vP P),(9,a5),(18,v3),(19,M),(20,vI (b)),(26,(at' z4 b).1),(27,vI (al.length:Int)),(28,vI (d)),(60,vB (aR))]) (λaR bt=>[N,R,s,Q]) ?_ ?_
     ·refine JR.start [0,1,0,7,15,0,63,127,0,256,0,1024,3840,7936,16383,32767,65535,131071,262143,131071,1048575,2097151,131071,8388607,16777215,131071,67108863,134217727] 26 mixedOrders (by decide +kernel) ?_;refine zBc (by exact rfl) ?_;refine cB Z<|eI 2 Z<|eI 1 Z<|cQ h λW h=>aY (cG (aA.fact 6 Z)) λbN=>e_ Z (cJ Z Z bN Z Z W)<|bE Z .nil (fW 6 Z) (c_ Z (aA.fact 0 Z) Z Z W) aO.z<|aV Z<|cQ h λbe h=>aY (cG (bR (aA.fact 6 Z) W.1 W.2)) λbQ=>?_;refine e_ Z (cJ Z Z bQ Z Z be) ?_;refine bE Z .nil (fW 6 Z) (bS Z (bR (aA.fact 0 Z) W.1 W.2) Z Z be) aO.z ?_;refine cB Z<|eI 2 Z<|cB Z<|eI 0 Z<|cQ h λbf h=>bE Z .nil (fW 5 Z) (bH Z Z (aA.fact 0 Z) Z Z bf) aO.z<|bE Z .nil (fW 5 Z) (bS Z (aA.fact 0 Z) Z Z bf) aO.z<|eO h λcb ce h=>zBd Z Z Z (zBa VT (FU U ((at' ((at' z8 b).2) d).1) ((at' z6 ((at' al d).1)).1) cb ce) Z (aI.cons (zBb (bR (aA.fact 6 Z) W.1 W.2) be.1 be.2) (aI.cons (zBb (aA.fact 5 Z) bf.1 bf.2) .nil))) Z (λcf=>(pB [] Z)) λcf=>?_;refine e_ Z (iQ Z)<|e_ Z (dZ Z) ?_;refine JR.guard (by exact rfl) (by exact rfl) (by exact rfl) (λa2=>?_) (λa2=>?_)
      ·have h:=Ff a2 h;refine aL Z Z Z Z<|aL Z Z Z Z<|aL Z Z Z Z<|aL Z Z Z Z<|aL Z Z Z Z<|aL Z Z Z Z<|aL Z Z Z Z<|aL Z Z Z Z<|aL Z Z Z Z<|bM 26 Z Z<|aK Z<|dG Z<|aQ ?_;exact cE (true) () h SF (a_.ix [1,2,3,4] Z Z) (aI.refl _ _)
      have h:=Cr a2 h;refine bZ Z .nil .nil (cT Z Z Z Z Z) (sU Z)<|bZ Z (a_.cons 2 Z .nil) .nil (dQ 0 Z Z Z Z Z) (sU Z)<|bZ Z (a_.cons 1 Z .nil) .nil (dQ 0 Z Z Z Z Z) (sU Z)<|cQ h λe h=>aY (cG (aA.fact 7 Z)) λbm=>bZ Z .nil .nil (cJ Z Z bm Z Z e) (sU Z)<|bZ Z .nil (fW 7 Z) (c_ Z (aA.fact 0 Z) Z Z e) (sU Z)<|bZ Z .nil .nil (dZ Z) (sU Z)<|cQ h λn h=>aY (cG (bR (aA.fact 7 Z) e.1 e.2)) λbn=>?_;refine bZ Z .nil .nil (cJ Z Z bn Z Z n) (sU Z) ?_;refine bZ Z .nil (fW 7 Z) (c_ Z (bR (aA.fact 0 Z) e.1 e.2) Z Z n) (sU Z) ?_;refine bZ Z .nil .nil (dZ Z) (sU Z)<|bM 26 Z Z<|Ys (A:=Bool) (B:=Unit) (vs:=[(at' ((at' H b).2) d).1,Value.func (.func 60) #[] #[vP b3,vP P]]) (λI=>qN d (bP aH a3) I=some r) (λI a0=>vB (I)) (λI a0=>[N,R,s,Q]) (λI a0=>[D,E,am,Sl aP S k.1,y,C,w,v]) Z (oB.fn (show bD Tryz.prog 51 from Tryz.call51) Z) Tryz.func51 Z Tryz.ntmps51 Z Z ?_ ?_
      ·refine aX<|aD Z<|aQ<|aX<|aB Z<|aB Z<|xZ (A:=Int) (B:=Unit) (vs:=[(at' ((at' H b).2) d).1,Value.func (.func 60) #[] #[vP b3,vP P]]) (λJ=>mM d (bP aH a3) J=some r) (λJ a1=>vI (J)) (λJ a1=>[N,R,s,Q]) (λJ a1=>[D,E,am,Sl aP S k.1,y,C,w,v]) (oB.fn (show bD Tryz.prog 98 from Tryz.call98) Z) Tryz.func98 Z Tryz.ntmps98 Z Z ?_ ?_
       ·refine aX<|aD Z<|aQ<|aN<|eG (λau=>oZ d (bP aH a3) au=some r) (λau bg=>[]) (λau bg=>[N,R,s,Q]) ?_ ?_
        ·refine aX<|aB Z ?_;refine aC (dD Z (bR (bR (aA.fact 7 Z) e.1 e.2) n.1 n.2) Z) Z ?_;refine aB Z<|aQ<|aW<|fJ (vJ U L b d (bP aH a3)) (λK bh=>[(0,(at' ((at' H b).2) d).1),(1,a5),(7,vI ((at' (at' L.2.2 b) d).length:Int)),(8,vI (K))]) (λK bh=>[N,R,s,Q]) (0:Int) () h SF (a_.ix [1,2,3,4] Z Z) ?_;intro ch K bh h;refine aX<|cX Z<|aQ<|aN ?_;refine eJ h Z (λh=>?_) λh=>?_
         ·refine cK<|aN<|aW<|aX<|aB Z<|aD Z<|aQ<|aX<|aB Z<|aB Z<|aB Z<|cQ h λav h=>aC (bH Z Z (bR (bR (aA.fact 7 Z) e.1 e.2) n.1 n.2) Z Z av) Z ?_;refine aC (bS Z (bR (bR (aA.fact 7 Z) e.1 e.2) n.1 n.2) Z Z av) Z<|eO h λb5 b6 h=>aM (s_ (vs:=[(at' ((at' ((at' H b).2) d).2) K).1]) (cs:=[Value.pointer (some ⟨b3,0,none⟩),Value.pointer (some ⟨P,0,none⟩)]) abM Z (Is U ((at' ((at' ((at' H b).2) d).2) K).1) b3 v5 z6 v7 z8 v9 H P b5 b6) Z (aI.cons (zBb (bR (bR (aA.fact 7 Z) e.1 e.2) n.1 n.2) av.1 av.2) (aI.cons (aA.res 1 Z) (aI.cons (aA.fact 5 Z) (aI.cons (aA.fact 6 Z) (aI.cons (aA.fact 7 Z) (aI.cons (aA.res 0 Z) .nil)))))) (λ_ _=>rfl)) Z λci=>?_;refine aQ ?_;refine qS h Z (λ_ h=>?_) λ_ h=>?_
          ·refine aX<|aB Z<|aD Z<|aQ<|aT<|bF<|aJ<|aJ<|bF<|aJ ?_;exact jC (K) () h (.inl Z) (Dx.r1 Z (RV.tmp Z)) Z (a_.refl _) (aI.refl _ _)
          refine eC<|lJ<|aU<|cW Z<|aB Z<|aQ ?_;exact vT (wI .i64 (K+(1:Int))) () h SF Z
         refine fF ?_;exact gJ () (()) h SF Z
        intro au bg h;unfold oZ at h;refine aX<|aD Z<|aQ<|aT ?_;exact jC (-1:Int) () h (.inl Z) (Dx.r1 Z (RV.tmp Z)) Z (a_.refl _) (aI.refl _ _)
       intro J a1 h;unfold mM at h;refine aC (tC Z Z) Z<|aD Z<|aQ<|aT ?_;exact jC (decide ((0:Int)<=J)) () h (.inl Z) (Dx.r1 Z (RV.tmp Z)) Z (a_.refl _) (aI.refl _ _)
      intro I a0 h;unfold qN at h;refine dR Z<|aQ ?_;exact gJ (I) () h SF Z
     intro aR bt h;refine qS h Z (λ_ h=>?_) λ_ h=>?_
     ·refine aX<|aD Z<|aQ<|aT<|bF<|aJ<|aJ<|bF<|bF<|aJ<|aJ<|bF<|aJ ?_;cases h;exact lY Z
     refine eC<|lJ<|aU<|cW Z<|aB Z<|aQ ?_;exact vT (wI .i64 (d+(1:Int))) () h SF Z
    refine sG<|gR<|gR<|Af<|lJ ?_;exact cE () (()) h SF (a_.ix [1,2,3] Z Z) (aI.refl _ _)
   intro bd br h;unfold vH at h;refine aU<|cW Z<|aB Z<|aQ ?_;exact vT (wI .i64 (b+(1:Int))) () h SF Z
  refine fF ?_;exact gJ () (()) h SF Z
 intro a8 b9 h;refine aX<|cM 2 Z<|cM 1 Z<|cM 0 Z<|eO h λm cc h=>aM (aS.call QT (Aa U v0 v1 S v3 z4 v5 z6 v7 z8 v9 H m cc) Z (iN.cons (zA1 (i:=0) Z) (iN.cons (zA1 (i:=1) Z) (iN.cons (zA1 (i:=2) Z) (iN.cons (zA1 (i:=3) Z) (iN.cons (zA1 (i:=4) Z) (iN.cons (zA1 (i:=5) Z) (iN.cons (zA1 (i:=6) Z) (fW 7 Z)))))))) (λ_ _=>rfl) (λ_ _=>rfl)) Z λg=>let t:=g.2.2.2.2;let ah:=mS aP t.2.1 m.2.2.1;let ad:=Ar aE g.2.2.1 t.2.1;let bb:=bO g.2.1 [vS (u.1),v0,v1,vP t.2.2.1,t.2.2.2.1] 157;let a9:=bO g.1 [S,v3,vI (8:Int),vP g.2.1,g.2.2.1,g.2.2.2.1,t.1] 108;let G:=t.2.2.2.2;let ak:=gN bY G.1 m.1;let af:=Ar aE G.2.1 G.2.2.1;let ae:=Ar aE t.2.2.2.1 G.1;let ab:=mS aP G.2.2.1 m.2.2.2.1;let Y:=Ar aE g.2.2.2.1 G.2.2.2.1;let ba:=bO t.2.2.1 [vS (u.1),v0,v1,S,v3,vI (m.2.1),G.2.1] 206;let ai:=G.2.2.2.2;let aj:=Ar aE t.1 ai.2.1;let ag:=gN aE G.2.2.2.1 ai.1;let ac:=xH aP ai.1 m.2.2.2.2.1;let aa:=An aP ai.2.2.2 m.2.2.2.2.2;let X:=rR aE ai.2.1 ai.2.2.1 ai.2.2.2;xZ (A:=Int) (B:=Unit) (vs:=[vP g.1]) (λax=>vF  ax=some r) (λax bj=>vU (ax)) (λax bj=>[]) (λax bj=>[D,E,am,Sl aP S k.1,y,C,w,v]) (oB.fn (show bD Tryz.prog 57 from Tryz.call57) Z) Tryz.func57 Z Tryz.ntmps57 Z Z ?_ ?_
 ·refine aX<|aD Z<|aQ<|aX<|aD Z<|aQ<|aN<|lC (B:=Unit) (λay=>vG  ay=some r) (λay bp=>[(3,vU (ay))]) (λay bp=>[]) (λ_ _=>[Sl aG v0 u.2.1,Sl aF v1 u.2.2,PF (Value.agg #[vS u.1,v0,v1]),Sl aP S k.1,S2 bA v3 z4 k.2,S2 aP v5 z6 L.1,S3 aP v7 z8 L.2.1,S4 aP v9 H L.2.2]) ?_ ?_
  ·refine aX<|aB Z<|aC (bU Z) Z<|bX Z<|bX Z<|dU 0 Z<|aC (dD Z (aA.fact 8 Z) Z) Z<|aB Z<|aQ<|aW<|oO (B:=Unit) (iP U u k m) (λa bk=>[(0,vP g.1),(3,vU (a.1)),(10,M),(11,vI (a.2))]) (λa bk=>[a9,ad,bb,ae,ak,ba,af,Y,ag,aj,X]) (λa bk=>[ah,ab,ac,aa,D,E,am,Sl aP S k.1,y,C,w,v]) ((0:Int),(0:Int)) () h SF (a_.ix [0,1,2,3,4,5,6,7,8,9,10] Z Z) (aI.refl _ _) ?_;intro b8 a bk h;let aw:=(bP (iP U u k m) b8)
   refine aX<|cX Z<|aQ<|aN ?_;refine eJ h Z (λh=>?_) λh=>?_
   ·refine cK<|aN<|lC (B:=Unit) (λan=>qK a aw an=some r) (λan bl=>[(0,vP g.1),(3,vU (an)),(10,M),(11,vI (a.2))]) (λan bl=>[a9,ad,bb,ae,ak,ba,af,Y,ag,aj,X]) (λan bl=>[ah,ab,ac,aa,D,E,am,Sl aP S k.1,y,C,w,v]) ?_ ?_
    ·refine aW<|aX<|aB Z<|aD Z<|aQ<|aN ?_;refine JR.start [0,1,3,7,0,0,48,0,255,511] 8 mixedOrders (by decide +kernel) ?_;refine zBc (by exact rfl) ?_;refine aV Z<|e_ Z (bU Z)<|cB Z<|eI 0 Z<|aV Z<|aV Z<|Ec (A:=bV) (B:=Ha) (vs:=[vP g.1,vI (a.2)]) (λao=>AE U u k m a aw ao=some r) (λao O=>O.1) (λao O=>[Ar aE O.1 O.2,a9,ad,bb,ae,ak,ba,af,Y,ag,aj,X]) (λao O=>[mS aP O.2 ao,ah,ab,ac,aa,D,E,am,Sl aP S k.1,y,C,w,v]) Z Z Z (oB.fn (show bD Tryz.prog 103 from Tryz.call103) Z) Tryz.func103 Z Tryz.ntmps103 Z Z (λ_ _=>(pB [([1],[])] Z)) ?_ ?_
     ·refine aX<|aD Z<|aQ<|aX<|aB Z<|aC (bU Z) Z<|bX Z<|bX Z<|dU 0 Z<|cQ h λcm h=>bB (aZ (aA.fact 0 Z)) λcg=>cD (cR (aA.fact 0 Z)) ?_;refine aM (zBa NA (BJ U (p0:=t.2.1) g.2.2.1 t.2.1 (by simp[rY,ck];omega)) Z (aI.cons (oP (i:=1) Z) aI.nil)) Z λbc=>?_;refine aD Z<|aQ<|aN<|lC (B:=fM) (λap=>qL U u k m a aw ap=some r) (λap az=>[(5,bc)]) (λap az=>[Ar aE bc az,a9,ad,bb,ae,ak,ba,af,Y,ag,aj,X]) (λap az=>[mS aP az ap,ah,ab,ac,aa,D,E,am,Sl aP S k.1,y,C,w,v]) ?_ ?_
      ·refine aX<|aB Z<|aC (bU Z) Z<|bX Z<|bX Z<|dU 1 Z<|aB Z<|cQ h λT h=>aC (bH Z Z (aA.fact 9 Z) Z Z T) Z<|aC (bS Z (aA.fact 9 Z) Z Z T) Z<|aC (fG Z (zBb (aA.fact 9 Z) T.1 T.2) Z) Z<|aB Z<|aQ<|aW<|oO (B:=fM) (qO U u k m a aw) (λp aq=>[(0,vP g.1),(1,vI (a.2)),(5,bc),(21,(at' z4 a.2).1),(22,vI ((at' k.2 a.2).length:Int)),(23,vI (p.1))]) (λp aq=>[Ar aE bc aq,a9,ad,bb,ae,ak,ba,af,Y,ag,aj,X]) (λp aq=>[mS aP aq p.2,ah,ab,ac,aa,D,E,am,Sl aP S k.1,y,C,w,v]) ((0:Int),m.2.2.1) (tg 1 t.2.1) h SF (a_.refl _) (aI.refl _ _) ?_;intro cn p aq h;let a6:=at' (at' ai.1 a.2) p.1;let a4:=(at' (at' k.2 a.2) p.1)
       let a7:=(Int.toNat (a4.1))
       refine aX<|cX Z<|aQ<|aN ?_;refine eJ h Z (λh=>?_) λh=>?_
       ·refine cK<|aN<|aW<|aX<|aB Z<|cQ h λbT h=>aC (bI Z Z (zBb (aA.fact 9 Z) T.1 T.2) Z Z bT) Z<|aC (gM (cs:=[vI (a4.1),vI (a4.2)]) Z (zBb (aA.fact 9 Z) T.1 T.2) cF Z Z Z Z bT) Z<|aM (aS.alloc (cs:=Qs) Z Z) Z λcj=>aD Z<|cA 0 (vs:=[vI ((at' (at' k.2 a.2) p.1).1),vI ((at' (at' k.2 a.2) p.1).2)]) Z Z Z Z Z Z<|aQ ?_;refine JR.start [0,0,2,0,8,24,56,120,0,504,1016,0,4088,8184,16383,32767] 14 mixedOrders (by decide +kernel) ?_;refine zBc (by exact rfl) ?_;refine aV Z<|cB Z<|eI 0 Z<|aV Z<|e_ Z (bU Z)<|cB Z<|cB Z<|eI 2 Z<|aV Z<|cQ h λF h=>aY (cG (cU (i:=9) (q:=10) (j:=3) Z Z Z)) λbu=>e_ Z (cJ Z Z bu Z Z F)<|aY (dC 10 Z) λbw=>aY (aZ (aA.fact 3 Z)) λbx=>bE Z (a_.cons 9 Z .nil) .nil (eN 0 Z Z (bw.trans bx) Z Z F) aO.z<|aV Z<|cQ h λar h=>aY (cG (uI (q:=10) (j:=3) Z Z F.1 F.2)) λbz=>?_;refine e_ Z (cJ Z Z bz Z Z ar)<|aY (aZ (aA.fact 3 Z)) λbC=>?_;refine aY (aZ (bK (aA.fact 3 Z) F.1 F.2)) λbJ=>?_;refine bE Z (a_.cons 10 Z .nil) .nil (cL (f:=λx=>x) Z (CY (q:=0) Z F.1 (by have q0:=F.2;have q1:=bC;(try simp only[zA0]at q0 q1⊢);omega)) Z Z Z hN ⟨ar.1,(by have q0:=ar.2;have q1:=bJ;(try simp only[zA0]at q0 q1⊢);omega)⟩) aO.z ?_;refine bM 14 Z Z<|cQ h λbo h=>aC (bH Z Z (bW (i:=1) (j:=0) Z Z) Z Z bo) Z ?_;refine bB (Know.one ((bK (bK (aA.fact 3 Z) F.1 F.2) ar.1 ar.2))) λbi=>?_;refine bB (aZ (aA.fact 0 Z)) λbL=>?_;refine cD (cR (eP a7 (aA.fact 0 Z) (bK (bK (aA.fact 3 Z) F.1 F.2) ar.1 ar.2))) ?_;refine nU (jQ (us:=[a6]) (o:=0) (q:=1) 1 (a6) ⟨bo.1,(by have q0:=bo.2;have q1:=bL;(try simp only[zA0]at q0 q1⊢);omega)⟩ Z Z Z Z (by rw[show(at' (at' g.2.2.2.2.2.2.2.2.2.2.2.2.1 a.2) p.1).cells = #[at' (at' g.2.2.2.2.2.2.2.2.2.2.2.2.1 a.2) p.1]from eR bi]) Z Z Z (eZ bi Z) Z) λcp=>?_;refine fU<|lJ<|aU<|cW Z<|aB Z<|aQ ?_;exact kG ((wI .i64 (p.1+(1:Int))),(List.set p.2 a7 (at' (at' m.2.2.2.2.1 a.2) p.1))) (List.set aq a7 (a6)) h SF (a_.ix [1,2,3,4,5,6,7,8,9,10,11,12] Z Z) (iD [0,2,3,4,5,6,7,8,9,10,11,12,13] Z)
       refine fF ?_;exact gJ (p.2) (aq) h SF Z
      intro ap az h;unfold qL at h;refine aX<|aB Z<|aD Z<|aQ<|aT ?_;exact jC (ap) (bc,az) h (.inl Z) (Dx.r1 Z (RV.tmp Z)) Z (a_.refl _) (aI.refl _ _)
     intro ao O h;refine e_ Z (dZ Z)<|bM 8 Z Z<|eO h λca cd h=>aM (zBa Nw (uF U g.2.1 v0 v1 t.2.2.1 v0 v1 S v3 z4 G.2.1 ((List.zip G.2.2.1 m.2.2.2.1)) t.2.2.2.1 (List.zip G.1 m.1) O.1 ((List.zip O.2 ao)) ca cd) Z (aI.cons (aA.res 3 Z) (aI.cons (aA.fact 5 Z) (aI.cons (aA.fact 6 Z) (aI.cons (aA.res 6 Z) (aI.cons (aA.fact 5 Z) (aI.cons (aA.fact 6 Z) (aI.cons (aA.fact 8 Z) (aI.cons (aA.fact 9 Z) (aI.cons (bW (i:=7) (j:=2) Z Z) (aI.cons (eV (i:=4) (j:=5) Z Z cF) (aI.cons (bW (i:=0) (j:=0) Z Z) .nil)))))))))))) Z λco=>aC (tC Z Z) Z<|aQ ?_;refine eJ h Z (λh=>?_) λh=>?_
     ·refine aU<|aB Z<|aB Z<|cQ h λb7 h=>aC (VC Z Z b7) Z<|aC (aby Z Z) Z<|aD Z<|fU<|lJ ?_;exact cE (VK .u32 a.1 (LP .u32 (1:Int) a.2)) () h SF (a_.ix [1,2,3,4,5,6,7,8,9,10,11] Z Z) (iD [1,2,3,4,5,6,7,8,9,10,11,12] Z)
     refine eC<|lJ ?_;exact cE (a.1) () h SF (a_.ix [1,2,3,4,5,6,7,8,9,10,11] Z Z) (iD [1,2,3,4,5,6,7,8,9,10,11,12] Z)
    intro an bl h;unfold qK at h;refine aU<|cW Z<|aB Z<|aQ ?_;exact vT (an,(wI .i64 (a.2+(1:Int)))) () h SF Z
   refine fF ?_;exact cE (a.1) () h SF .nil (iD [4,5,6,7,8,9,10,11] Z)
  intro ay bp h;unfold vG at h;refine aX<|aB Z<|aD Z<|aQ<|aT ?_;exact jC (ay) () h (.inl Z) (Dx.r1 Z (RV.tmp Z)) Z (a_.refl _) (aI.refl _ _)
 intro ax bj h;unfold vF at h;refine cI Z<|aD Z<|aQ<|aT ?_;cases h;exact iJ Z
end Go.Proofs.YtflciafboapaaaaGreat
namespace Go.Proofs.YtflciafboapaaaaGreat
open Go Go.Sx
theorem Xv {g:GR} (hV:VG g) {v i:Nat} (hv:v<g.2.length) (hi:i<(row g v).length):AA (row g (xW g v i)) (v:Int)=(Gu g v i:Int):=by
 have e:=uE hV hv hi;obtain⟨j,hj,hjv,_⟩:=hV.sym v hv i hi;have hr:at' g.2 (jL (row g v) i).1=row g (xW g v i):=by rw[e]
 rw[hr]at hj hjv;rcases uV (row g (xW g v i)) (v:Int)with⟨k,hk,hkv,hkf,hke⟩|⟨hf,_⟩
 ·unfold Gu;omega
 ·exact absurd hjv (hf j hj)
def LV (S:Ks) (a:List Fe) (R:List RL) (c:bV) (v:Nat):cC:=if 0<=sB S R c v then MP S a R c v (sB S R c v)else at' c (v:Int)
def LG (g:GR) (e:Ix):Bool:=decide ((1<=e.1∧e.1<=4)∧(0<=e.2.1∧e.2.1<(g.2.length:Int))∧(e.1=1∨(0<=e.2.2∧e.2.2<((at' g.2 e.2.1).length:Int))))
def Yj (e:Ix):Nat×Nat×Nat:=(e.1.toNat,e.2.1.toNat,e.2.2.toNat)
def perfs (g:GR) (b:bV->Nat->cC) (a:Nat) (y:xX) (l:oC):xX:=l.foldl (λy e=>DR g b a y (Yj e)) y
theorem ach {g:GR} {e:Ix} (h:LG g e=true):abl g (Yj e):=by
 obtain⟨k,v,i⟩:=e;obtain⟨⟨d,f⟩,⟨a,j⟩,b⟩:=zB0 h;refine⟨⟨?_,?_⟩,?_,?_⟩<;>simp only[Yj]at * 
 ·omega
 ·omega
 ·omega
 ·rcases b with h|⟨l,c⟩
  ·left;omega
  ·right;have:at' g.2 v=row g v.toNat:=by
    show at' g.2 v=at' g.2 ((v.toNat:Nat):Int);rw[Int.toNat_of_nonneg a]
   rw[this]at c;omega
structure VY (g:GR) (vars:List Fe) (cap:Nat) (y:xX):Prop where
 sh:SH g y
 all:LK g (λv l=>GM g vars v l=true) y
 cp:Cap g cap y
theorem abC {a:Type} [Inhabited a] {l:List a} {s:a} (h:s∈l):∃k,k<l.length∧at' l (k:Int)=s:=by
 obtain⟨k,b,e⟩:=List.getElem_of_mem h;exact⟨k,b,by rw[jU b];exact e⟩
theorem EL {g:GR} {d:List Fe} {e:Int} {y:xX}:LJ g d e y=true↔(1<=e∧e<=8)∧VY g d e.toNat y:=by
 unfold LJ SK;simp only[zA7,zAb,oS];constructor
 ·rintro⟨⟨n,o⟩,m,p,q,r⟩;have j:∀v,v<g.2.length->((at' y.2.1 (v:Int)).length=(row g v).length∧(at' y.2.2 (v:Int)).length=(row g v).length)∧∀i,i<(row g v).length->GM g d (xW g v i) (nZ y.2.1 v i)=true∧((nZ y.2.2 v i).length:Int)<=e∧∀k,k<(nZ y.2.2 v i).length->GM g d v (at' (nZ y.2.2 v i) (k:Int))=true:=λv b=>by
   have:=r v b;unfold rvB at this;simp only[zA7,zAb,oS]at this;refine⟨⟨this.1,this.2.1⟩,λi f=> ?_⟩
   have:=this.2.2 i f;unfold wiB at this;simp only[zA7,zAb,oS]at this;exact this
  refine⟨m,⟨n,⟨p,λv b=>(j v b).1.1⟩,⟨q,λv b=>(j v b).1.2⟩⟩,⟨o,λv i b f=>((j v b).2 i f).1,λv i b f s t=> ?_⟩,λv i b f=> ?_⟩
  ·obtain⟨k,l,rfl⟩:=abC t;exact((j v b).2 i f).2.2 k l
  ·have:=((j v b).2 i f).2.1;omega
 ·rintro⟨m,h⟩;refine⟨⟨h.sh.c,h.all.c⟩,m,h.sh.a.len,h.sh.w.len,λv b=> ?_⟩
  unfold rvB;simp only[zA7,zAb,oS];refine⟨h.sh.a.row v b,h.sh.w.row v b,λi f=> ?_⟩
  unfold wiB;simp only[zA7,zAb,oS];refine⟨h.all.a v i b f,by have:=h.cp v i b f;omega,λk l=>h.all.w v i b f _ ?_⟩
  rw[jU l];exact List.getElem_mem l
theorem EF {g:GR} {a:List Fe} {v:Nat} {l:cC}:GM g a v l=true↔l.length=a.length∧∀x,x<a.length->(pI g a v x).1<=at' l (x:Int)∧at' l (x:Int)<=(pI g a v x).2:=by
 unfold GM;simp only[zA7,zAb,oS]
theorem Li {g:GR} {a:List Fe} {c:bV} (e:c.length=g.2.length) (d:∀x,x<g.2.length->GM g a x (at' c (x:Int))=true):Yu g c a:=
 ⟨e,λv b=>(EF.1 (d v b)).1,λv b x f=>(EF.1 (d v b)).2 x f⟩
theorem QO {B:Type} {g:GR} (h:VG g) {s2:LA->(LA->Option B)->(Int×bV)->((Int×bV)->Option B)->Option B}
  {s1:LA->(LA->Option B)->Option B} {K:Int×bV->Option B}
  (o:∀a d,s1 a d=if a.1<(g.2.length:Int)then ck (0<=a.1∧a.1<(g.2.length:Int)) (ck (0<=a.1∧a.1<(g.1.length:Int)) (bP (s2 a d) 1000 ((0:Int),a.2.2)))else K (a.2.1,a.2.2))
  (p:∀a d b e,s2 a d b e=if b.1<((at' g.2 a.1).length:Int)then ck (0<=b.1∧b.1<((at' g.2 a.1).length:Int)) (ck (0<=a.1∧a.1<(b.2.length:Int)) (Option.bind (mF 1000 g ((at' (at' g.2 a.1) b.1).1) a.1) λr=>ck (((at' b.2 a.1).length:Int)+(List.length [r]:Int)<=1099511627) (ck (0<=a.1∧a.1<((List.set b.2 (Int.toNat a.1) (at' b.2 a.1++[r])).length:Int)) (e (wI .i64 (b.1+1),List.set b.2 (Int.toNat a.1) (at' b.2 a.1++[r]))))))else d (wI .i64 (a.1+1),max a.2.1 (at' g.1 a.1),b.2)):
  bP s1 1000 ((0:Int),(0:Int),(List.replicate (Int.toNat (g.2.length:Int)) ([]:cC)))=K (kT g g.2.length,kK g):=by
 have C:=h.n24;have t:=h.len;let f:Nat->cC:=λv=>(List.range (row g v).length).map (Sr g v);let Q:Nat->bV:=λk=>(List.range k).map f++List.replicate (g.2.length - k) [];have q:∀k,k<=g.2.length->(Q k).length=g.2.length:=λk l=>by simp[Q];omega
 rw[show List.replicate (Int.toNat (g.2.length:Int)) ([]:cC)=Q 0 by simp[Q]];refine dO (step:=s1) g.2.length (λk=>((k:Int),kT g k,Q k)) (λk d l=> ?_) (λd=> ?_) 1000 (by omega)
 ·have s:=(h.node k l).deg;have w:k<(Q k).length:=by rw[q k (by omega)];exact l
  rw[o];dsimp only;rw[if_pos (by omega),cO (by omega),cO (by omega)];let c:Nat->cC:=λj=>(List.range j).map (Sr g k);have z:Q k=(Q k).set k (c 0):=by
   have:at' (Q k) (k:Int)=c 0:=by
    rw[jU w];simp[Q,c]
   rw[<-this];exact(EE (Q k) (k:Int) (by simpa using w) (by omega)).symm
  have i:∀A:bV,A.length=g.2.length->bP (s2 ((k:Int),kT g k,Q k) d) 1000 ((0:Int),A.set k (c 0))=d (((k+1:Nat):Int),kT g (k+1),A.set k (f k)):=by
   intro A F;refine dO (step:=s2 ((k:Int),kT g k,Q k) d) (K:=d (((k+1:Nat):Int),kT g (k+1),A.set k (f k))) (row g k).length (λj=>((j:Int),A.set k (c j))) (λj e E=> ?_) (λe=> ?_) 1000 (by omega)
   ·obtain⟨u,x,m⟩:=h.to l E;have D:=(h.node u x).deg;have y:at' (A.set k (c j)) (k:Int)=c j:=by rw[BC _ _ _ _ (by omega),if_pos Z]
    have n:(c j).length=j:=by simp[c]
    rw[p];dsimp only;rw[if_pos (show(j:Int)<((row g k).length:Int) by omega),cO (show 0<=(j:Int)∧(j:Int)<((row g k).length:Int) by omega),cO (by simp only[zA0];omega),show at' (at' g.2 (k:Int)) (j:Int)=jL (row g k) j from rfl,m,bN (show mF 1000 _ (u:Int) (k:Int)=_ from MR g u (k:Int) x (by omega)),y,cO (by rw[n];simp;omega),cO (by simp only[zA0];omega),dJ (by omega),zAe,List.set_set];have:c j++[AA (row g u) (k:Int)]=c (j+1):=by
     simp only[c];rw[List.range_succ,List.map_append,List.map_singleton,Sr,m,zAe]
    rw[this]
   ·rw[p];dsimp only;rw[if_neg (show¬((row g k).length:Int)<((row g k).length:Int)from Int.lt_irrefl _),dJ (by omega)];rfl
  have:=i (Q k) (q k (by omega));rw[AP f [] g.2.length k l,<-z]at this;exact this
 ·rw[o];dsimp only;rw[if_neg (by omega)];simp[Q,kK,f]
section
variable {g:GR} {vars:List Fe} {cap:Nat} {y:xX}
theorem VY.rowc (h:VY g vars cap y) {v:Nat} (a:v<g.2.length):(at' y.1 (v:Int)).length=vars.length:=(EF.1 (h.all.c v a)).1
theorem VY.rowa (h:VY g vars cap y) (d:VG g) {v i:Nat} (c:v<g.2.length) (b:i<(row g v).length):(nZ y.2.1 v i).length=vars.length:=(EF.1 (h.all.a v i c b)).1
theorem VY.roww (h:VY g vars cap y) {v i k:Nat} (c:v<g.2.length) (b:i<(row g v).length) (a:k<(nZ y.2.2 v i).length):(at' (nZ y.2.2 v i) (k:Int)).length=vars.length:=(EF.1 (h.all.w v i c b _ (by rw[jU a];exact List.getElem_mem a))).1
theorem Js {B:Type} (u:VG g) (h:VY g vars cap y) (M:cap<=8) (N:vars.length<=20) {cp:List (List Int)->Option (List (List Int))} (o:∀c:List (List Int),c.length<=900->(∀v,v<c.length->(at' c (v:Int)).length<=1000)->cp c=some c)
  {s4:(Int×List (List (List Int))×List (List (List (List Int))))->((Int×List (List (List Int))×List (List (List (List Int))))->Option B)->List (List Int)->(List (List (List Int))×Int)->((List (List (List Int))×Int)->Option B)->Option B}
  {s3:(Int×List (List (List Int))×List (List (List (List Int))))->((Int×List (List (List Int))×List (List (List (List Int))))->Option B)->Option B} {K:List (List (List Int))×List (List (List (List Int)))->Option B}
  (F:∀(k:Nat) l m f,k<y.2.1.length->k<y.2.2.length->l.length<=900->s3 ((k:Int),l,m) f=Option.bind (cp (at' y.2.1 (k:Int))) λr=>bP (s4 ((k:Int),l,m) f r) 1000 (([]:List (List (List Int))),(0:Int)))
  (s:∀l m f,s3 ((y.2.1.length:Int),l,m) f=K (l,m))
  (G:∀(k j:Nat) l m f r b d,k<y.2.1.length->k<y.2.2.length->j<(at' y.2.2 (k:Int)).length->b.length<=900->s4 ((k:Int),l,m) f r (b,(j:Int)) d=Option.bind (cp (at' (at' y.2.2 (k:Int)) (j:Int))) λq=>d (b++[q],((j+1:Nat):Int)))
  (t:∀(k:Nat) l m f r b d,k<y.2.1.length->k<y.2.2.length->m.length<=900->s4 ((k:Int),l,m) f r (b,((at' y.2.2 (k:Int)).length:Int)) d=f (((k+1:Nat):Int),l++[r],m++[b])):
  bP s3 1000 ((0:Int),([]:List (List (List Int))),([]:List (List (List (List Int)))))=K y.2:=by
 have E:=u.n24;have I:=h.sh.a.len;have J:=h.sh.w.len;have e:K y.2=K (y.2.1.take y.2.1.length,y.2.2.take y.2.1.length):=by rw[zB4,I,<-J,zB4]
 rw[e];refine dO (step:=s3) y.2.1.length (λk=>((k:Int),y.2.1.take k,y.2.2.take k)) (λk f p=> ?_) (λf=>s _ _ f) 1000 (by omega);have n:k<g.2.length:=by omega
 have z:=(u.node k n).deg;have O:=h.sh.a.row k n;have L:=h.sh.w.row k n;rw[F k _ _ f p (by omega) (by simp;omega),bN (o (at' y.2.1 (k:Int)) (by omega) λi A=>by have:=h.rowa u n (i:=i) (by omega);show(nZ y.2.1 k i).length<=1000;omega)];have x:bP (s4 ((k:Int),y.2.1.take k,y.2.2.take k) f (at' y.2.1 (k:Int))) 1000 (([]:List (List (List Int))),(0:Int))=f (((k+1:Nat):Int),y.2.1.take k++[at' y.2.1 (k:Int)],y.2.2.take k++[at' y.2.2 (k:Int)]):=by
  have D:∀d,s4 ((k:Int),y.2.1.take k,y.2.2.take k) f (at' y.2.1 (k:Int)) ((at' y.2.2 (k:Int)).take (at' y.2.2 (k:Int)).length,((at' y.2.2 (k:Int)).length:Int)) d=f (((k+1:Nat):Int),y.2.1.take k++[at' y.2.1 (k:Int)],y.2.2.take k++[at' y.2.2 (k:Int)]):=λd=>by
   rw[t k _ _ f _ _ d p (by omega) (by simp;omega),zB4]
  refine dO (step:=s4 ((k:Int),y.2.1.take k,y.2.2.take k) f (at' y.2.1 (k:Int))) (at' y.2.2 (k:Int)).length (λj=>((at' y.2.2 (k:Int)).take j,(j:Int))) (λj d C=> ?_) D 1000 (by omega);have H:=h.cp k j n (by omega);rw[G k j _ _ f _ _ d p (by omega) C (by simp;omega),bN (o (at' (at' y.2.2 (k:Int)) (j:Int)) (by show(nZ y.2.2 k j).length<=900;omega) λi A=>by have:=h.roww n (i:=j) (k:=i) (by omega) A;show(at' (nZ y.2.2 k j) (i:Int)).length<=1000;omega),oL C]
 rw[x,oL p,oL (show k<y.2.2.length by omega)]
theorem D_ {B:Type} (b:VG g) (h:SH g y) {v:Nat} (l:v<g.2.length) {s:(Int×List (List Int))->((Int×List (List Int))->Option B)->Option B} {K:List (List Int)->Option B}
  (k:∀(i:Nat) c a,i<(row g v).length->c.length=y.1.length->s ((i:Int),c) a=a (((i+1:Nat):Int),c.set (xW g v i) (nZ y.2.1 v i))) (f:∀c a,c.length=y.1.length->s (((row g v).length:Int),c) a=K c):bP s 1000 ((0:Int),y.1)=K (vw g y v):=by
 have d:=(b.node v l).deg;have e:=b.n24;exact dO (step:=s) (row g v).length (λi=>((i:Int),vwN g y v i)) (λi a j=>k i _ a j (Gp g y v i)) (λa=>f _ a (Gp g y v _)) 1000 (by omega)
end
theorem Uw {X B:Type} {n:Nat} {b:Nat->Bool} (F:Nat->X) {step:X->(X->Option B)->Option B} {Z:Option B} {K:Option B}
  (f:∀(k:Nat) a,k<n->(∀j,j<k->b j=true)->step (F k) a=if b k=true then a (F (k+1))else Z) (l:(∀j,j<n->b j=true)->∀a,step (F n) a=K) (p:n<1000):bP step 1000 (F 0)=if As n b=true then K else Z:=by
 by_cases h:As n b=true
 ·rw[if_pos h];have d:=oS.1 h;exact dO n F (λk a c=>by rw[f k a c (λj o=>d j (by omega)),if_pos (d k c)]) (l d) 1000 p
 ·rw[if_neg h];obtain⟨m,g,i,e⟩:=KA h;exact dO m F (λk a c=>by rw[f k a (by omega) (λj o=>e j (by omega)),if_pos (e k c)]) (λa=>by rw[f m a g e,if_neg (by rw[i];decide)]) 1000 (by omega)
theorem Hn {g:GR} {b:List (List Int)->Nat->List Int} {a:Nat} {y:xX} {l:List (Int×Int×Int)} {k:Nat} (c:k<l.length):perfs g b a y (l.take (k+1))=DR g b a (perfs g b a y (l.take k)) (Yj (at' l (k:Int))):=by
 rw[show l.take (k+1)=l.take k++[at' l (k:Int)]from by first|exact(oL c).symm|exact oL c];unfold perfs;rw[List.foldl_append];rfl
section
variable {g:GR} {p:Ee} {R:List RL} {cap:Nat} {y:xX}
theorem XK {S:Ks} {a:List Fe} {c:List (List Int)} {v:Nat} (k:gV S.2.1 a) (l:List (Nat×E)):(∀s∈l,s.1<a.length)->∀b,GM S.2.1 a v b=true->GM S.2.1 a v (l.foldl (JI S a c v) b)=true:=by
 induction l with
 |nil=>exact λ_ b h=>h
 | cons s l ih =>
  intro f b h;rw[List.foldl_cons];refine ih (λx d=>f x (zAj _ d)) _ ?_;have m:=f s (zAc ..);obtain⟨i,j⟩:=EF.1 h;refine EF.2 ⟨by simp[JI,i],λx d=> ?_⟩;unfold JI;rw[BC _ _ _ _ (by omega)];by_cases e:x=s.1
  ·subst e;rw[if_pos Z];exact Ue k m v _
  ·rw[if_neg e];exact j x d
theorem Rt (k:gV g p.2.1) (h:kF p.2.1.length R=true):
  ∀c:List (List Int),c.length=g.2.length->(∀x,x<g.2.length->GM g p.2.1 x (at' c (x:Int))=true)->∀v,v<g.2.length->GM g p.2.1 v (LV (eT p g) p.2.1 R c v)=true:=λc m d v f=>by
 unfold LV;by_cases b:0<=sB (eT p g) R c v
 ·rw[if_pos b];obtain⟨i,j,a,_⟩:=(Lj (eT p g) R c v).resolve_left (λe=>by omega);rw[j];exact XK (S:=eT p g) k _ (λs l=>((Kg h a).2.2 s l).1) _ (d v f)
 ·rw[if_neg b];exact d v f
theorem VY.perf {f:List (List Int)->Nat->List Int} {d:List Fe} (i:VG g) (h:VY g d cap y) {e:Nat×Nat×Nat} (j:abl g e) (k:∀c:List (List Int),c.length=g.2.length->(∀x,x<g.2.length->GM g d x (at' c (x:Int))=true)->∀v,v<g.2.length->GM g d v (f c v)=true):VY g d cap (DR g f cap y e):=by
 obtain⟨a,b,c⟩:=Xk i h.sh h.all h.cp j k;exact⟨a,b,c⟩
theorem VY.perfs {e:List (List Int)->Nat->List Int} {a:List Fe} (b:VG g) (h:VY g a cap y) (d:∀c:List (List Int),c.length=g.2.length->(∀x,x<g.2.length->GM g a x (at' c (x:Int))=true)->∀v,v<g.2.length->GM g a v (e c v)=true) (l:List (Int×Int×Int)):∀k,k<=l.length->(∀j,j<k->LG g (at' l (j:Int))=true)->VY g a cap (Go.Proofs.YtflciafboapaaaaGreat.perfs g e cap y (l.take k))
 |0,_,_=>h
 |k+1,hk,hb=>by
  rw[Hn (by omega)];exact(VY.perfs b h d l k (by omega) λj f=>hb j (by omega)).perf b (ach (hb k (by omega))) d
end
theorem Wz {g:GR} {k v i:Int} (a:1<=k∧k<=4) (b:0<=v∧v<(g.2.length:Int)) (c:k=1∨(0<=i∧i<((at' g.2 v).length:Int))):LG g (k,v,i)=true:=zA4 ⟨a,b,c⟩
theorem Pr {g:GR} {k:Bool} {y:xX} {v i:Nat} (h:[]=nZ y.2.2 (xW g v i) (Gu g v i)):yD g k y v i=y:=by unfold yD;rw[<-h]
theorem MJ {g:GR} {k:Bool} {y:xX} {v i:Nat} {s:cC} {r:bV} (h:s::r=nZ y.2.2 (xW g v i) (Gu g v i)):yD g k y v i=(y.1,if k=true then Hu y.2.1 v i s else y.2.1,Hu y.2.2 (xW g v i) (Gu g v i) r):=by unfold yD;rw[<-h]
theorem abX (l:cC) (h:l.length<=900):qA 1000 l=some l:=by
 unfold qA;rw[cO (by simp;omega),List.nil_append]
abbrev Yw:=CM
abbrev EM:xX:=([],[],[])
section
variable {g:GR} {p:Ee} {R:List RL} {cap:Int} {y:xX} {l:List (Int×Int×Int)}
theorem XD (hV:VG g) (hp:gV g p.2.1) (hz:p.2.2.map pK=Aw R) (hR:kF p.2.1.length R=true) (hcap:1<=cap∧cap<=8) {A:Yw} (hA1:A.1=AH g p.2.1) (hA2:A.2.1=kT g g.2.length) (hA3:A.2.2.2.1=kK g) (h:VY g p.2.1 cap.toNat y) {k:Nat} (hk:k<l.length) (hl:l.length<=900) (ag:Int×xX->Option (xX×Int)):
  hZ 1000 p g cap l A ((k:Int),y) ag=if LG g (at' l (k:Int))=true then ag (((k+1:Nat):Int),DR g (LV (eT p g) p.2.1 R) cap.toNat y (Yj (at' l (k:Int))))else some (EM,2):=by
 have h24:=hV.n24;have hvl:=hp.len;have lc:=h.sh.c;have la:=h.sh.a.len;have lw:=h.sh.w.len;obtain⟨e,he⟩:∃e,at' l (k:Int)=e:=⟨_,rfl⟩
 obtain⟨ek,ev,ei⟩:=e;have bad:rJ 1000 p g cap l A ((k:Int),y) ag true=some (EM,2):=rfl;have bad8:zP 1000 g cap l ((k:Int),y) ag true=some (EM,2):=rfl;unfold hZ;simp only[he];rw[if_pos (by omega),cO (by omega),bad];by_cases k1:ek<1
 ·rw[if_pos k1,if_neg (by unfold LG;rw[zAb];rintro⟨h,-,-⟩;simp only at h;omega)]
 rw[if_neg k1];by_cases k2:4<ek
 ·rw[if_pos k2,if_neg (by unfold LG;rw[zAb];rintro⟨h,-,-⟩;simp only at h;omega)]
 rw[if_neg k2];by_cases k3:ev<0
 ·rw[if_pos k3,if_neg (by unfold LG;rw[zAb];rintro⟨-,h,-⟩;simp only at h;omega)]
 rw[if_neg k3];by_cases k4:(g.2.length:Int)<=ev
 ·rw[zA4 k4,bad,if_neg (by unfold LG;rw[zAb];rintro⟨-,h,-⟩;simp only at h;omega)]
 rw[zA3 k4];obtain⟨v,rfl⟩:∃v:Nat,ev=(v:Int):=⟨ev.toNat,by omega⟩
 have hv:v<g.2.length:=by omega
 have hdeg:=(hV.node v hv).deg;have hrow:at' g.2 (v:Int)=row g v:=rfl;have rc:=h.rowc hv;have ra:=h.sh.a.row v hv;have rw':=h.sh.w.row v hv;have fin:∀c ca wi,mT ((k:Int),y) ag ((0:Int),c,wi,ca)=ag (((k+1:Nat):Int),c,ca,wi):=λc ca wi=>by
  unfold mT;rw[if_neg (by simp)];show ag (wI .i64 ((k:Int)+1),c,ca,wi)=_;rw[dJ (by omega)]
 unfold rJ;rw[if_neg (by decide)];simp only[he];by_cases hk1:ek=1
 ·subst hk1;rw[if_pos Z,cO (by omega),cO (by omega),if_pos (Wz ⟨by decide,by decide⟩ ⟨by omega,by omega⟩ (.inl Z))];have hev:Yj ((1:Int),(v:Int),ei)=(1,v,ei.toNat):=rfl;rw[hev];have hvw:=Jl hV h.sh hv h.all;have hcw:=Li hvw.1 hvw.2;refine(D_ (s:=zR 1000 p g l A ((k:Int),y) ag) (K:=zO 1000 p g l A ((k:Int),y) ag) hV h.sh hv (λi c ag2 hi hcl=> ?_) (λc ag2 hcl=> ?_)).trans ?_
  ·have hto:=uE hV hv hi;have hul:=(Bt hV hv hi).ul;have hl1:at' (row g v) (i:Int)=jL (row g v) i:=rfl;unfold zR;simp only[he,hrow,hl1,hto];rw[if_pos (by omega),cO (by omega),cO (by omega),cO (by omega),cO (by omega),dJ (by omega),zAe]
  ·unfold zR;simp only[he,hrow];rw[if_neg (by omega)]
  ·unfold zO EB;simp only[he,hA2,hA3,hA1];rw[bN (show fS 1000 _ (vw g y v) (v:Int)=_ from Og hV hcw.shape hv hz hR (AH g p.2.1))];show(if 0<=sB (eT p g) R (vw g y v) v then _ else _)=ag (_,Nu g (LV (eT p g) p.2.1 R) y v);unfold Nu LV;by_cases h0:0<=sB (eT p g) R (vw g y v) v
   ·obtain⟨i,hi,hil,_⟩:=(Lj (eT p g) R (vw g y v) v).resolve_left (λe=>by omega);have hi':sB (p,g,kT g g.2.length,kK g) R (vw g y v) v=(i:Int):=hi;rw[if_pos h0,if_pos h0,hi,hi',bN (show mE 1000 _ (vw g y v) (v:Int) (i:Int)=_ from aae (gr:=kT g g.2.length) hV hp hcw.shape hv hz hR hil),cO (by omega),zAe];exact fin _ _ _
   ·rw[if_neg h0,if_neg h0];refine(fin _ _ _).trans ?_;have e1:at' (vw g y v) (v:Int)=at' y.1 (v:Int):=OI hV h.sh hv _ (zAg _);rw[e1,JB y.1 (by omega)]
 rw[if_neg hk1];by_cases i1:ei<0
 ·rw[if_pos i1,bad8,if_neg (by unfold LG;rw[zAb];rintro⟨-,-,h⟩;simp only at h;omega)]
 rw[if_neg i1,cO (by omega),hrow];by_cases i2:((row g v).length:Int)<=ei
 ·rw[zA4 i2,bad8,if_neg (by unfold LG;rw[zAb];rintro⟨-,-,h⟩;simp only[hrow]at h;omega)]
 rw[zA3 i2];obtain⟨i,rfl⟩:∃i:Nat,ei=(i:Int):=⟨ei.toNat,by omega⟩
 have hi:i<(row g v).length:=by omega
 rw[if_pos (Wz (by omega) (by omega) (.inr (by rw[hrow];omega)))];have hev:Yj (ek,(v:Int),(i:Int))=(ek.toNat,v,i):=rfl;rw[hev];have hwl:=h.cp v i hv hi;have e2:at' (at' y.2.2 (v:Int)) (i:Int)=nZ y.2.2 v i:=rfl;unfold zP;rw[if_neg (by decide)];simp only[he,e2];by_cases hk2:ek=2
 ·subst hk2;rw[if_pos Z,cO (by omega),cO (by omega)];show _=ag (_,Dg cap.toNat y v i);unfold Dg;by_cases hc:(nZ y.2.2 v i).length<cap.toNat
  ·rw[if_pos (show((nZ y.2.2 v i).length:Int)<cap by omega),if_pos hc,cO (by omega),bN (abX _ (by omega)),cO (by simp;omega),zAe,zAe];exact fin _ _ _
  ·rw[if_neg (show¬((nZ y.2.2 v i).length:Int)<cap by omega),if_neg hc];exact fin _ _ _
 rw[if_neg hk2];have hto:=uE hV hv hi;have hpb:=Bt hV hv hi;have hul:=hpb.ul;have hbl:=hpb.bl;have hdu:=(hV.node (xW g v i) hul).deg;have hwu:=h.sh.w.row (xW g v i) hul;have hl1:at' (row g v) (i:Int)=jL (row g v) i:=rfl;have e3:at' (at' y.2.2 ((xW g v i:Nat):Int)) ((Gu g v i:Nat):Int)=nZ y.2.2 (xW g v i) (Gu g v i):=rfl;simp only[hrow,hl1,hto];rw[cO (by omega),cO (by omega),cO (by omega),bN (show mF 1000 _ ((xW g v i:Nat):Int) (v:Int)=_ from MR g _ _ hul (by omega)),Xv hV hv hi,cO (by omega)];simp only[e3];have hpf:DR g (LV (eT p g) p.2.1 R) cap.toNat y (ek.toNat,v,i)=yD g (decide (ek=3)) y v i:=by
  unfold DR;rw[if_neg (show¬ek.toNat=1 by omega),if_neg (show¬ek.toNat=2 by omega)];show yD g (decide (ek.toNat=3)) y v i=_;by_cases q:ek=3
  ·subst q;rfl
  ·rw[zA3 q,zA3 (by omega)]
 rw[hpf];obtain⟨wl,hw⟩:∃wl,wl=nZ y.2.2 (xW g v i) (Gu g v i):=⟨_,rfl⟩
 cases wl with
 |nil=>
  rw[if_pos (by rw[<-hw];rfl),Pr hw];exact fin _ _ _
 | cons s r =>
  have hl:(nZ y.2.2 (xW g v i) (Gu g v i)).length=r.length+1:=by rw[<-hw];rfl
  rw[if_neg (by omega),MJ hw];have k10:∀ca,zQ g l ((k:Int),y) ag (Gu g v i:Int) ca=ag (((k+1:Nat):Int),y.1,ca,Hu y.2.2 (xW g v i) (Gu g v i) r):=λca=>by
   unfold zQ;simp only[he,hrow,hl1,hto,e3,<-hw];rw[cO (by simp;omega),zAe,zAe];exact fin _ _ _
  have hs:at' (nZ y.2.2 (xW g v i) (Gu g v i)) 0=s:=by rw[<-hw];rfl
  by_cases q:ek=3
  ·subst q;rw[if_pos Z,cO (by omega),cO (by omega),cO (by omega),k10,zAe,zAe,hs];rfl
  ·rw[if_neg q,k10,zA3 q];rfl
end
end Go.Proofs.YtflciafboapaaaaGreat
namespace Go.Proofs.YtflciafboapaaaaGreat
open Go.Sx
def uR (U:Nat) (b:fH) (e:cS) (f:Int) (c:gX) (d:Ix):Option kL:=
 Option.bind (tP U ((b.1,b.2.1,b.2.2)) ((e.1,e.2)) f ((c.1,c.2.1,c.2.2)) ([(d.1,d.2.1,d.2.2)])) λa=>(some (((a.1.1,a.1.2.1,a.1.2.2)),a.2))
theorem abF:bD Tryz.prog 14:=Tryz.call14
theorem OB (U:Nat) {d:fH} {v:cS} {w:Int} {o:gX} {a:Ix} (k:Value)  (m:Value)  (p:Value)  (q:Value)  (y:kY)  (s:Value)  (z:mR)  (t:Value)  (A:BQ)  (u:Value)  (n:BP) (r:(bV×List bV×List (List bV))×Int) (h:uR U d v w o a=some r):
  bG Tryz.prog 14 #[Value.agg #[vS (d.1),k,m],Value.agg #[p,q],vI (w),Value.agg #[s,t,u],Value.agg #[vI (a.1),vI (a.2.1),vI (a.2.2)]] [Sl aG k d.2.1,Sl aF m d.2.2,PF (Value.agg #[vS d.1,k,m]),Sl aP p v.1,S2 bA q y v.2,S2 aP s z o.1,S3 aP t A o.2.1,S4 aP u n o.2.2] (λx:XT=>Value.tuple #[Value.agg #[x.1,x.2.2.1,x.2.2.2.2.1],vI (r.2)]) (λx l=>l) (λx l=>S2 aP x.1 x.2.1 r.1.1::S3 aP x.2.2.1 x.2.2.2.1 r.1.2.1::S4 aP x.2.2.2.2.1 x.2.2.2.2.2 r.1.2.2::l):=by
 refine bG.of Tryz.func14 Z Tryz.ntmps14 Z λc=>?_;refine aX<|aM (aS.box (cs:=[vS (d.1),k,m]) Z Z) Z λE=>aM (aS.box (cs:=[p,q]) Z Z) Z λF=>aM (aS.box (cs:=[s,t,u]) Z Z) Z λG=>aM (aS.box (cs:=[vI (a.1),vI (a.2.1),vI (a.2.2)]) Z Z) Z λH=>aM (aS.alloc (cs:=[cY,cY,cY]) Z Z) Z λI=>aD Z<|aQ<|aX<|cM 4 Z<|cM 3 Z<|aB Z<|cM 2 Z<|cM 1 Z<|aM (dK (e:=Jn) ([((a.1,a.2.1,a.2.2))]) [(0,Value.agg #[vI (a.1),vI (a.2.1),vI (a.2.2)])] Z Z Z Z (WG (vI (a.1)) (vI (a.2.1)) (vI (a.2.2))) Z Z Z) Z λC=>cD (gF 0 Z (dM (aA.res 0 Z) CW))<|eO h λB D h=>aM (aS.call VO (JD U k m p q y s z t A u n C B D) Z (iN.cons (zA1 (i:=1) Z) (iN.cons (zA1 (i:=2) Z) (iN.cons (zA1 (i:=3) Z) (iN.cons (zA1 (i:=4) Z) (iN.cons (zA1 (i:=5) Z) (iN.cons (zA1 (i:=6) Z) (iN.cons (zA1 (i:=7) Z) (iN.cons (zA1 (i:=8) Z) (fW 0 Z))))))))) (λ_ _=>rfl) (λ_ _=>rfl)) Z λb=>iG Z<|iG Z<|bB (Know.one (aA.sl (aA.fact 0 Z))) λf=>bB (Know.one (aA.sl (aA.fact 1 Z))) λg=>bB (Know.one (aA.sl (aA.fact 2 Z))) λj=>cA 0 (vs:=[b.1,b.2.2.1,b.2.2.2.2.1]) Z Z (eZ f (eZ g (eZ j Z))) Z Z Z<|aD Z<|aQ<|aT ?_;cases h;exact hJ (b.1,b.2.1,b.2.2.1,b.2.2.2.1,b.2.2.2.2.1,b.2.2.2.2.2) Z Z (RV.cell 0 Z Z Z Z) (RV.tmp Z) .nil (iD [0,1,2] Z)
end Go.Proofs.YtflciafboapaaaaGreat
namespace Go.Proofs.YtflciafboapaaaaGreat
open Go Go.Sx
def PS (g:GR) (b:List Fe) (c:bV->Nat->cC) (a:Int) (y:xX) (l:oC):xX×Int:=
 if 1<=a∧a<=8 then(if LJ g b a y=true then(if As l.length (λk=>LG g (at' l (k:Int)))=true then(perfs g c a.toNat y l,0)else(EM,2))else(EM,7))else(EM,2)
section
variable {g:GR} {p:Ee} {R:List RL} {cap:Int} {y:xX} {l:List (Int×Int×Int)}
theorem Wg (c:VG g) (d:gV g p.2.1) (cap:Int) (y:xX):wA 1000 p g cap y=some (if 1<=cap∧cap<=8 then(if LJ g p.2.1 cap y=true then 0 else 7)else 2):=by
 have e:uD 1000 p g cap y false=some (if LJ g p.2.1 cap y=true then 0 else 7):=by
  unfold uD;rw[if_neg (by decide),bN (show jX 1000 _ _ _ _=_ from IA c d cap y)];cases LJ g p.2.1 cap y<;>rfl
 unfold wA;rw[bN (show pC 1000 _ _=some 0 from SS c d),if_neg (by decide)];by_cases a:cap<1
 ·rw[if_pos a,if_neg (by omega)];rfl
 rw[if_neg a];by_cases b:8<cap
 ·rw[zA4 b,if_neg (by omega)];rfl
 rw[zA3 b,e,if_pos (show 1<=cap∧cap<=8 from by omega)]
theorem XC (j:VG g) (q:gV g p.2.1) (t:p.2.2.map pK=Aw R) (i:kF p.2.1.length R=true) (a:1<=cap∧cap<=8) {A:Yw} (c:A.1=AH g p.2.1) (d:A.2.1=kT g g.2.length) (e:A.2.2.2.1=kK g) (h:VY g p.2.1 cap.toNat y) (r:l.length<=900):
  bP (hZ 1000 p g cap l A) 1000 ((0:Int),y)=some (if As l.length (λk=>LG g (at' l (k:Int)))=true then(perfs g (LV (eT p g) p.2.1 R) cap.toNat y l,0)else(EM,2)):=by
 have:=Uw (step:=hZ 1000 p g cap l A) (n:=l.length) (b:=λk=>LG g (at' l (k:Int))) (λk=>((k:Int),perfs g (LV (eT p g) p.2.1 R) cap.toNat y (l.take k))) (Z:=some (EM,2)) (K:=some (perfs g (LV (eT p g) p.2.1 R) cap.toNat y l,0)) (λk f o m=>by
  have s:=VY.perfs j h (Rt (R:=R) q i) l k (by omega) m;rw[XD j q t i a c d e s o r f,Hn o]) (λm f=>by
  unfold hZ Cc;dsimp only;rw[if_neg (by omega),zB4]) (by omega)
 refine Eq.trans this ?_;split<;>rfl
theorem I_ (e:VG g) (x:gV g p.2.1) {o:Nat} (A:o<=8) (h:VY g p.2.1 o y) (cap:Int):iY 1000 p g cap y=some (AH g p.2.1,kT g g.2.length,y.1,kK g,y.2.1,y.2.2):=by
 have z:=e.n24;have s:=x.len;have F:=h.sh.a.len;have G:=h.sh.w.len;unfold iY;rw[cO (by omega)];refine(QO (s1:=nS 1000 p g y) (s2:=xM 1000 g) (K:=nQ 1000 p g y) e (λ_ _=>rfl) (λ_ _ _ _=>rfl)).trans ?_;unfold nQ rO;rw[bN (show kS 1000 _ _=_ from Lw e x)];unfold rK;rw[bN (NK y.1 (by rw[h.sh.c];omega) λv i=>by rw[h.rowc (by rw[<-h.sh.c];exact i)];omega)];refine(Js (cp:=mX 1000) (s3:=kE 1000 y (AH g p.2.1,kT g g.2.length,kK g) y.1) (s4:=λa d r=>nR 1000 y a d r) (K:=rM (AH g p.2.1,kT g g.2.length,kK g) y.1) e h A s (λc a b=>NK c a b) (λk n t d u f B=> ?_) (λn t d=> ?_) (λk j n t d r b m u f E D=> ?_) (λk n t d r b m u f C=> ?_)).trans ?_
 ·unfold kE;dsimp only;rw[if_pos (by omega),cO (by omega)];refine congrArg (Option.bind _) (funext λr=> ?_);rw[cO (by simp;omega),cO (by omega)]
 ·unfold kE;dsimp only;rw[if_neg (by omega)]
 ·unfold nR;dsimp only;rw[if_pos (by omega),cO (by omega)];refine congrArg (Option.bind _) (funext λq=> ?_);have:j<1000000:=by
   have i:k<g.2.length:=by omega
   have:=h.sh.w.row k i;have:=(e.node k i).deg;omega
  rw[cO (by simp;omega),dJ this]
 ·unfold nR xK;dsimp only;rw[if_neg (by omega),cO (by simp;omega),dJ (by omega)]
 ·rfl
theorem XA (b:VG g) (c:gV g p.2.1) (i:p.2.2.map pK=Aw R) (d:kF p.2.1.length R=true) (cap:Int) (y:xX) (e:l.length<=900):tP 1000 p g cap y l=some (PS g p.2.1 (LV (eT p g) p.2.1 R) cap y l):=by
 unfold tP PS;rw[bN (show wA 1000 _ _ _ _=_ from Wg b c cap y)];by_cases a:1<=cap∧cap<=8
 rotate_left
 ·rw[if_neg a,if_neg a];rfl
 rw[if_pos a,if_pos a];cases f:LJ g p.2.1 cap y
 ·rfl
 obtain⟨_,h⟩:=EL.1 f;rw[if_pos Z,if_neg (by decide),if_neg (by omega),if_pos Z,bN (show iY 1000 _ _ _ _=_ from I_ b c (by omega) h cap)];exact XC b c i d a Z Z Z h e
theorem aaz (b:VG g) (c:gV g p.2.1) (d:p.2.2.map pK=Aw R) (a:kF p.2.1.length R=true) (cap:Int) (y:xX) (e:Int×Int×Int):uR 1000 p g cap y e=some (PS g p.2.1 (LV (eT p g) p.2.1 R) cap y [e]):=by
 unfold uR;rw[bN (show tP 1000 _ _ _ _ [e]=_ from XA b c d a cap y (by simp))]
def ZC (S:Ks) (g:GR) (R:List RL) (y:xX):Nat:=rZ (λv=>decide (0<=sB S R (vw g y v) v)) g.2.length
theorem NM (hV:VG g) (hp:gV g p.2.1) (hz:p.2.2.map pK=Aw R) (hR:kF p.2.1.length R=true) {A:Yw} (hA1:A.1=AH g p.2.1) (hA2:A.2.1=kT g g.2.length) (hA3:A.2.2.2.1=kK g) (hA4:A.2.2.1=y.1) (hA5:A.2.2.2.2.1=y.2.1) {cp:Nat} (h:VY g p.2.1 cp y):
  bP (iO 1000 p g A) 1000 ((0:Int),(0:Int))=some ((ZC (eT p g) g R y:Nat):Int):=by
 have h24:=hV.n24;have hvl:=hp.len;have lc:=h.sh.c;have la:=h.sh.a.len;let q:Nat->Bool:=λv=>decide (0<=sB (eT p g) R (vw g y v) v);refine dO (step:=iO 1000 p g A) (K:=some ((rZ q g.2.length:Nat):Int)) g.2.length (λk=>(((rZ q k:Nat):Int),(k:Int))) (λv ag hv=> ?_) (λag=> ?_) 1000 (by omega)
 rotate_left
 ·unfold iO vD vC;dsimp only;rw[if_neg (by omega)]
 have hdeg:=(hV.node v hv).deg;have hrow:at' g.2 (v:Int)=row g v:=rfl;have ra:=h.sh.a.row v hv;have hm:=NX q (k:=v) (by omega);have hvw:=Jl hV h.sh hv h.all;have hcw:=Li hvw.1 hvw.2;unfold iO;simp only[hA4];rw[if_pos (by omega),cO (by omega),cO (by omega)];refine(D_ (s:=qJ 1000 p g A (((rZ q v:Nat):Int),(v:Int)) ag) (K:=qI 1000 p g A (((rZ q v:Nat):Int),(v:Int)) ag) hV h.sh hv (λi c ag2 hi hcl=> ?_) (λc ag2 hcl=> ?_)).trans ?_
 ·have hto:=uE hV hv hi;have hul:=(Bt hV hv hi).ul;have hl1:at' (row g v) (i:Int)=jL (row g v) i:=rfl;unfold qJ;simp only[hrow,hl1,hto,hA5];rw[if_pos (by omega),cO (by omega),cO (by omega),cO (by omega),cO (by omega),dJ (by omega),zAe]
 ·unfold qJ;simp only[hrow];rw[if_neg (by omega)]
 ·unfold qI AD qH;simp only[hA2,hA3,hA1];rw[bN (show fS 1000 _ (vw g y v) (v:Int)=_ from Og hV hcw.shape hv hz hR (AH g p.2.1)),dJ (by omega)];show(if 0<=sB (eT p g) R (vw g y v) v then _ else _)=_;cases hq:q v with
  |true=>
   rw[if_pos (zB0 hq),cO (by omega),QN hm (by omega)];simp only[rZ,hq,if_true]
  |false=>
   rw[if_neg (of_decide_eq_false hq)];simp only[rZ,hq];rfl
end
theorem Sk (p q:cC) (h:p.length=q.length):As p.length (λk=>decide (at' p (k:Int)=at' q (k:Int)))=decide (p=q):=by
 by_cases e:p=q
 ·subst e;rw[zA4 Z];exact oS.2 λk _=>zA4 Z
 ·rw[zA3 e];cases c:As p.length (λk=>decide (at' p (k:Int)=at' q (k:Int)))
  ·rfl
  ·refine absurd (List.ext_getElem h λk a b=> ?_) e;have:=zB0 (oS.1 c k a);rwa[jU a,jU b]at this
theorem eqL (p q:cC) (h:q.length<900):tQ 1000 p q=some (decide (p=q)):=by
 unfold tQ;by_cases a:p.length=q.length
 ·rw[if_neg (by omega),<-Sk p q a,<-ifB];refine kR (λk b c=> ?_) (λb=> ?_) (by omega)
  ·unfold xC;rw[if_pos (by omega),cO (by omega),cO (by omega),dJ (by omega)];by_cases e:at' p (k:Int)=at' q (k:Int)
   ·rw[if_neg (λh=>h e),zA4 e,if_pos Z]
   ·rw[if_pos e,zA3 e,if_neg (by decide)]
  ·unfold xC xB;rw[if_neg (by omega)]
 ·rw[if_pos (by omega),zA3 (λe=>a (by rw[e]))]
def kwB (g:GR) (y:xX) (v i:Nat):Bool:=decide (nZ y.2.1 v i=at' y.1 (xW g v i:Int))&&As (nZ y.2.2 v i).length λk=>decide (at' (nZ y.2.2 v i) (k:Int)=at' y.1 (v:Int))
def knB (g:GR) (y:xX):Bool:=As g.2.length λv=>As (row g v).length (kwB g y v)
section
variable {g:GR} {p:Ee} {R:List RL} {y:xX}
theorem KJ (hV:VG g) (hp:gV g p.2.1) (hz:p.2.2.map pK=Aw R) (hR:kF p.2.1.length R=true) (y:xX):k_ 1000 p g y=some (if LJ g p.2.1 8 y=true then((ZC (eT p g) g R y:Nat):Int)else 0):=by
 have h24:=hV.n24;unfold k_;rw[bN (show jX 1000 _ _ _ _=_ from IA hV hp 8 y)];cases hy:LJ g p.2.1 8 y
 ·rfl
 obtain⟨_,h⟩:=EL.1 hy;rw[if_neg (by decide),if_pos Z];rw[bN (show iY 1000 _ _ _ _=_ from I_ hV hp (by omega) h 8)];exact NM hV hp hz hR Z Z Z Z Z h
theorem Oj (hV:VG g) (hp:gV g p.2.1) (hz:p.2.2.map pK=Aw R) (hR:kF p.2.1.length R=true) {A:Yw} (hA1:A.1=AH g p.2.1) (hA2:A.2.1=kT g g.2.length) (hA3:A.2.2.2.1=kK g) (hA4:A.2.2.1=y.1) (hA5:A.2.2.2.2.1=y.2.1) {cp:Nat} (h:VY g p.2.1 cp y):
  bP (iP 1000 p g A) 1000 ((0:Int),(0:Int))=some (decide (((ZC (eT p g) g R y:Nat):Int)=0)):=by
 have h24:=hV.n24;have hvl:=hp.len;have lc:=h.sh.c;have la:=h.sh.a.len;let q:Nat->Bool:=λv=>decide (0<=sB (eT p g) R (vw g y v) v);refine dO (step:=iP 1000 p g A) (K:=some (decide (((rZ q g.2.length:Nat):Int)=0))) g.2.length (λk=>(((rZ q k:Nat):Int),(k:Int))) (λv ag hv=> ?_) (λag=> ?_) 1000 (by omega)
 rotate_left
 ·unfold iP vG vF;dsimp only;rw[if_neg (by omega)]
 have hdeg:=(hV.node v hv).deg;have hrow:at' g.2 (v:Int)=row g v:=rfl;have ra:=h.sh.a.row v hv;have hm:=NX q (k:=v) (by omega);have hvw:=Jl hV h.sh hv h.all;have hcw:=Li hvw.1 hvw.2;unfold iP;simp only[hA4];rw[if_pos (by omega),cO (by omega),cO (by omega)];refine(D_ (s:=qO 1000 p g A (((rZ q v:Nat):Int),(v:Int)) ag) (K:=qL 1000 p g A (((rZ q v:Nat):Int),(v:Int)) ag) hV h.sh hv (λi c ag2 hi hcl=> ?_) (λc ag2 hcl=> ?_)).trans ?_
 ·have hto:=uE hV hv hi;have hul:=(Bt hV hv hi).ul;have hl1:at' (row g v) (i:Int)=jL (row g v) i:=rfl;unfold qO;simp only[hrow,hl1,hto,hA5];rw[if_pos (by omega),cO (by omega),cO (by omega),cO (by omega),cO (by omega),dJ (by omega),zAe]
 ·unfold qO;simp only[hrow];rw[if_neg (by omega)]
 ·unfold qL AE qK;simp only[hA2,hA3,hA1];rw[bN (show fS 1000 _ (vw g y v) (v:Int)=_ from Og hV hcw.shape hv hz hR (AH g p.2.1)),dJ (by omega)];show(if 0<=sB (eT p g) R (vw g y v) v then _ else _)=_;cases hq:q v with
  |true=>
   rw[if_pos (zB0 hq),cO (by omega),QN hm (by omega)];simp only[rZ,hq,if_true]
  |false=>
   rw[if_neg (of_decide_eq_false hq)];simp only[rZ,hq];rfl
theorem RH (hV:VG g) (hp:gV g p.2.1) (hz:p.2.2.map pK=Aw R) (hR:kF p.2.1.length R=true) (h:VY g p.2.1 8 y):vE 1000 p g y ()=some (decide (((ZC (eT p g) g R y:Nat):Int)=0)):=by
 unfold vE;rw[bN (show iY 1000 _ _ _ _=_ from I_ hV hp (by omega) h 8)];exact Oj hV hp hz hR Z Z Z Z Z h
theorem Hv (hV:VG g) (hp:gV g p.2.1) (hz:p.2.2.map pK=Aw R) (hR:kF p.2.1.length R=true) (y:xX):iK 1000 p g y=some (LJ g p.2.1 8 y&&(knB g y&&decide (((ZC (eT p g) g R y:Nat):Int)=0))):=by
 have h24:=hV.n24;have hvl:=hp.len;unfold iK;rw[bN (show jX 1000 _ _ _ _=_ from IA hV hp 8 y)];cases hy:LJ g p.2.1 8 y
 ·rfl
 obtain⟨_,h⟩:=EL.1 hy;have lc:=h.sh.c;have la:=h.sh.a.len;have lw:=h.sh.w.len;rw[if_neg (by decide),zAr];have key:bP (gQ 1000 p g y) 1000 0=if knB g y=true then some (decide (((ZC (eT p g) g R y:Nat):Int)=0))else some false:=by
  refine kR (λv ag hv=> ?_) (λag=> ?_) (by omega)
  rotate_left
  ·unfold gQ;rw[if_neg (by omega)];exact RH hV hp hz hR h
  have hdeg:=(hV.node v hv).deg;have hrow:at' g.2 (v:Int)=row g v:=rfl;have rc:=h.rowc hv;have ra:=h.sh.a.row v hv;have rw':=h.sh.w.row v hv;unfold gQ;rw[if_pos (by omega),cO (by omega)];refine kR (λi ag2 hi=> ?_) (λag2=> ?_) (by omega)
  rotate_left
  ·unfold jK vH;rw[hrow,if_neg (by omega),dJ (by omega)]
  have hto:=uE hV hv hi;have hul:=(Bt hV hv hi).ul;have rcu:=h.rowc hul;have hwl:=h.cp v i hv hi;have hl1:at' (row g v) (i:Int)=jL (row g v) i:=rfl;have e1:at' (at' y.2.1 (v:Int)) (i:Int)=nZ y.2.1 v i:=rfl;have e2:at' (at' y.2.2 (v:Int)) (i:Int)=nZ y.2.2 v i:=rfl;unfold jK kwB;rw[hrow,if_pos (by omega),cO (by omega),cO (by omega),cO (by omega),hl1,hto,cO (by omega),e1,bN (eqL _ _ (by omega))];cases decide (nZ y.2.1 v i=at' y.1 (xW g v i:Int))
  ·rfl
  rw[if_neg (by decide),cO (by omega),cO (by omega),zAr];refine Eq.trans (b:=if As (nZ y.2.2 v i).length (λk=>decide (at' (nZ y.2.2 v i) (k:Int)=at' y.1 (v:Int)))=true then oZ (i:Int) ag2 ()else some false) (kR (λk ag3 hk=> ?_) (λag3=> ?_) (by omega)) ?_
  ·unfold vJ yR;rw[e2,if_pos (by omega),cO (by omega)];dsimp only;rw[cO (by omega),bN (eqL _ _ (by omega)),bN Z];cases decide (at' (nZ y.2.2 v i) (k:Int)=at' y.1 (v:Int))
   ·rw[if_pos (by decide),if_neg (by decide)];unfold mM qN qM;rw[if_pos (by rw[zAb];omega)]
   ·rw[if_neg (by decide),if_pos (by decide),dJ (by omega)]
  ·unfold vJ;rw[e2,if_neg (by omega)]
  ·unfold oZ mM qN qM;rw[if_neg (show¬decide ((0:Int) <= -1)=true by decide),dJ (by omega)]
 rw[key];cases knB g y<;>rfl
end
end Go.Proofs.YtflciafboapaaaaGreat
namespace Go.Proofs.YtflciafboapaaaaGreat
open Go.Sx
def v_ (U:Nat) (a:fH) (b:cS) (e:Int) (c:gX):Option (Int):=
 Option.bind (oV U ((a.1,a.2.1,a.2.2)) ((b.1,b.2))) λf=>(if f≠(0:Int)then(some (f))else(Option.bind (iA U e (1:Int) (8:Int)) λg=>(if(!g)=true then(some (2:Int))else(Option.bind (jW U ((a.1,a.2.1,a.2.2)) ((b.1,b.2)) e ((c.1,c.2.1,c.2.2))) λd=>(if(!d)=true then(some (7:Int))else(some (0:Int)))))))
theorem abQ:bD Tryz.prog 68:=Tryz.call68
theorem Mb (U:Nat) {a:fH} {n:cS} {s:Int} {i:gX} (b:Value)  (d:Value)  (e:Value)  (f:Value)  (q:kY)  (j:Value)  (t:mR)  (k:Value)  (u:BQ)  (m:Value)  (g:BP) (r:Int) (h:v_ U a n s i=some r):
  bG Tryz.prog 68 #[Value.agg #[vS (a.1),b,d],Value.agg #[e,f],vI (s),Value.agg #[j,k,m]] [Sl aG b a.2.1,Sl aF d a.2.2,PF (Value.agg #[vS a.1,b,d]),Sl aP e n.1,S2 bA f q n.2,S2 aP j t i.1,S3 aP k u i.2.1,S4 aP m g i.2.2] (λx:Unit=>vI (r)) (λx l=>l) (λ_ l=>l):=by
 refine bG.of Tryz.func68 Z Tryz.ntmps68 Z λc=>?_;refine aX<|aM (aS.box (cs:=[vS (a.1),b,d]) Z Z) Z λC=>aM (aS.box (cs:=[e,f]) Z Z) Z λD=>aM (aS.box (cs:=[j,k,m]) Z Z) Z λE=>aD Z<|aQ<|aX<|cM 2 Z<|cM 1 Z<|eO h λv y h=>aM (zBa Sv (Ir U b d e f q v y) Z (iD [0,1,2,3,4] Z)) Z λF=>aD Z<|aQ<|aN<|aW<|aX<|aB Z<|kA Z<|aD Z<|aQ ?_;refine eJ h Z (λh=>?_) λh=>?_
 ·refine aX<|aB Z<|aD Z<|aQ<|aT<|bF<|aJ ?_;cases h;exact lY Z
 refine aX<|aB Z<|eO h λw z h=>aM (zBa tG (jF U  w z) Z .nil) Z λA=>aC (iQ Z) Z<|aD Z<|aQ ?_;refine qS h Z (λ_ h=>?_) λ_ h=>?_
 ·refine aX<|aD Z<|aQ<|aT<|bF<|aJ ?_;cases h;exact lY Z
 refine aX<|cM 2 Z<|cM 1 Z<|aB Z<|cM 0 Z<|eO h λo p h=>aM (zBa NE (Bg U b d e f q j t k u m g o p) Z (iD [0,1,2,3,4,5,6,7] Z)) Z λB=>aC (iQ Z) Z<|aD Z<|aQ ?_;refine qS h Z (λ_ h=>?_) λ_ h=>?_
 ·refine aX<|aD Z<|aQ<|aT<|bF<|aJ ?_;cases h;exact lY Z
 refine eC<|lJ<|aX<|aD Z<|aQ<|aT ?_;cases h;exact lY Z
def kV  (a:Bool):Option Bool:=
 some (a)
def p_ (U:Nat) (b:cS) (a:Ix):Option Bool:=
 Option.bind (iA U a.1 (1:Int) (4:Int)) λe=>(if e=true then(Option.bind (iA U a.2.1 (0:Int) (wI .i64 ((b.2.length:Int) - (1:Int)))) λc=>(if c=true then(if a.1=(1:Int)then(kV  (true))else(ck (0<=a.2.1∧a.2.1<(b.2.length:Int)) (Option.bind (iA U a.2.2 (0:Int) (wI .i64 (((at' b.2 a.2.1).length:Int) - (1:Int)))) λd=>(kV  (d)))))else(kV  (false))))else(kV  (false)))
theorem abR:bD Tryz.prog 69:=Tryz.call69
theorem Jh (U:Nat) {j:cS} {f:Ix} (m:Value)  (n:Value)  (y:kY) (r:Bool) (h:p_ U j f=some r):
  bG Tryz.prog 69 #[Value.agg #[m,n],Value.agg #[vI (f.1),vI (f.2.1),vI (f.2.2)]] [Sl aP m j.1,S2 bA n y j.2] (λx:Unit=>vB (r)) (λx l=>l) (λ_ l=>l):=by
 refine bG.of Tryz.func69 Z Tryz.ntmps69 Z λc=>?_;refine aX<|aM (aS.box (cs:=[m,n]) Z Z) Z λz=>aM (aS.box (cs:=[vI (f.1),vI (f.2.1),vI (f.2.2)]) Z Z) Z λA=>aD Z<|aQ<|aN<|eG (λg=>kV  g=some r) (λg s=>[(4,vB (g))]) (λg s=>[]) ?_ ?_
 ·refine JR.start [0,1,3,7,15,31,15,79,207,463,1023,2047,4095,8191,16383,32767,65535,131071,262143,131071,655359,131071,2228223,7995391,16383999,33161215,66715647,134217727,268435455,536870911,1073741823] 27 mixedOrders (by decide +kernel) ?_;refine zBc (by exact rfl) ?_;refine cB Z<|eI 0 Z<|eO h λt u h=>zBd Z Z Z (zBa tG (jF U  t u) Z .nil) Z (λw=>(pB [] Z)) λw=>e_ Z (dZ Z) ?_;refine JR.guard (by exact rfl) (by exact rfl) (by exact rfl) (λe=>?_) (λe=>?_)
  ·have h:=Ff e h;refine bZ Z .nil .nil (cT Z Z Z Z Z) (sU Z)<|bZ Z (a_.cons 0 Z .nil) .nil (dQ 0 Z Z Z Z Z) (sU Z)<|bZ Z .nil .nil (cT Z Z Z Z Z) (sU Z)<|bZ Z (a_.cons 1 Z .nil) .nil (dQ 0 Z Z Z Z Z) (sU Z)<|bZ Z .nil (fW 1 Z) (dD Z (aA.fact 0 Z) Z) (sU Z)<|bZ Z .nil .nil (oD Z Z) (sU Z)<|eO h λk o h=>Ci Z Z Z Z (zBa tG (jF U  k o) Z .nil) Z (λq=>(pB [] Z)) λq=>e_ Z (AI Z Z)<|e_ Z (dZ Z) ?_;refine JR.guard (by exact rfl) (by exact rfl) (by exact rfl) (λa=>?_) (λa=>?_)
   ·have h:=Ff a h;refine bZ Z .nil .nil (cT Z Z Z Z Z) (sU Z)<|bZ Z (a_.cons 0 Z .nil) .nil (dQ 0 Z Z Z Z Z) (sU Z)<|bZ Z .nil .nil (Fo Z Z) (sU Z)<|bZ Z .nil .nil (dZ Z) (sU Z) ?_;refine uH (by exact rfl) (by exact rfl) (by exact rfl) (λb=>?_) (λb=>?_)
    ·have h:=Ff b h;refine aL Z Z Z Z<|aL Z Z Z Z<|aL Z Z Z Z<|aL Z Z Z Z<|aL Z Z Z Z<|aL Z Z Z Z<|aL Z Z Z Z<|aL Z Z Z Z<|aL Z Z Z Z<|aL Z Z Z Z<|bM 27 Z Z<|aK Z<|aR Z (AI Z Z) Z<|dG Z<|aD Z<|aQ ?_;exact cE (true) () h SF .nil (aI.refl _ _)
    have h:=Uv b h;refine bZ Z .nil .nil (cT Z Z Z Z Z) (sU Z)<|bZ Z (a_.cons 0 Z .nil) .nil (dQ 0 Z Z Z Z Z) (sU Z)<|bZ Z .nil .nil (cT Z Z Z Z Z) (sU Z)<|bZ Z (a_.cons 1 Z .nil) .nil (dQ 0 Z Z Z Z Z) (sU Z)<|bZ Z .nil .nil (cT Z Z Z Z Z) (sU Z)<|bZ Z (a_.cons 0 Z .nil) .nil (dQ 0 Z Z Z Z Z) (sU Z)<|cQ h λd h=>bZ Z .nil (fW 1 Z) (bH Z Z (aA.fact 0 Z) Z Z d) (sU Z)<|bZ Z .nil (fW 1 Z) (bS Z (aA.fact 0 Z) Z Z d) (sU Z)<|bZ Z .nil (fW 1 Z) (fG Z (zBb (aA.fact 0 Z) d.1 d.2) Z) (sU Z)<|bZ Z .nil .nil (oD Z Z) (sU Z)<|bM 27 Z Z<|eO h λi p h=>lR Z (zBa tG (jF U  i p) Z .nil) Z λv=>aR Z (qY Z Z) Z<|dG Z<|aD Z<|aQ ?_;exact cE (i) () h SF .nil (aI.refl _ _)
   have h:=Cr a h;refine aL Z Z Z Z<|aL Z Z Z Z<|aL Z Z Z Z<|aL Z Z Z Z<|xO (h:= ?_);refine xO (h:= ?_);refine xO (h:= ?_);refine xO (h:= ?_);refine xO (h:= ?_);refine xO (h:= ?_);refine xO (h:= ?_);refine xO (h:= ?_);refine xO (h:= ?_);refine xO (h:= ?_);refine bM 27 Z Z<|adi (h:= ?_);refine aK Z<|dR Z<|aD Z<|aQ ?_;exact cE (false) () h SF .nil (aI.refl _ _)
  have h:=Cr e h;refine aL Z Z Z Z<|aL Z Z Z Z<|aL Z Z Z Z<|aL Z Z Z Z<|aL Z Z Z Z<|aL Z Z Z Z<|aL Z Z Z Z<|e_ Z (qY Z Z)<|e_ Z (dZ Z)<|aL Z Z Z Z<|aL Z Z Z Z<|aL Z Z Z Z<|aL Z Z Z Z<|xO (h:= ?_);refine xO (h:= ?_);refine xO (h:= ?_);refine xO (h:= ?_);refine xO (h:= ?_);refine xO (h:= ?_);refine xO (h:= ?_);refine xO (h:= ?_);refine xO (h:= ?_);refine xO (h:= ?_);refine bM 27 Z Z<|adi (h:= ?_);refine aK Z<|dR Z<|aD Z<|aQ ?_;exact cE (false) () h SF .nil (aI.refl _ _)
 intro g s h;unfold kV at h;refine aT ?_;cases h;exact iJ Z
def w_ (b:cS) (a:Int) (c:Bool):Option (Int):=
 if c=true then(some (0:Int))else(ck (0<=a∧a<(b.2.length:Int)) (some ((at' b.2 a).length:Int)))
def yM (U:Nat) (a:cS) (b:Int):Option (Int):=
 Option.bind (jV U ((a.1,a.2))) λd=>(if(!d)=true then(w_ a b (true))else(Option.bind (iA U b (0:Int) (wI .i64 ((a.2.length:Int) - (1:Int)))) λc=>(w_ a b ((!c)))))
theorem YZ:bD Tryz.prog 171:=Tryz.call171
theorem Lq (U:Nat) {i:cS} {j:Int} (e:Value)  (f:Value)  (o:kY) (r:Int) (h:yM U i j=some r):
  bG Tryz.prog 171 #[Value.agg #[e,f],vI (j)] [Sl aP e i.1,S2 bA f o i.2] (λx:Unit=>vI (r)) (λx l=>l) (λ_ l=>l):=by
 refine bG.of Tryz.func171 Z Tryz.ntmps171 Z λc=>?_;refine aX<|aM (aS.box (cs:=[e,f]) Z Z) Z λm=>aD Z<|aQ<|aN<|aN<|eG (λb=>w_ i j b=some r) (λb n=>[(1,vI (j)),(2,vP m),(16,vB (b))]) (λb n=>[bO m [e,f] 31]) ?_ ?_
 ·refine aU<|cM 0 Z<|eO h λp q h=>aM (zBa VV (GW U e f o p q) Z (iD [0,1] Z)) Z λt=>aC (iQ Z) Z<|aB Z ?_;refine qV (by exact rfl) (by exact rfl) (λa=>?_) (λa=>?_)
  ·have h:=Ff a h;refine aK Z<|aK Z<|aK Z<|aK Z<|aK Z<|aK Z<|aK Z<|dG Z<|aQ ?_;exact gJ (true) () h SF Z
  have h:=Cr a h;refine dH Z<|aR Z (cT Z Z Z Z Z) Z<|aR Z (dQ 0 Z Z Z Z Z) Z<|aR Z (dD Z (aA.fact 1 Z) Z) Z<|aR Z (oD Z Z) Z<|eO h λd k h=>lR Z (zBa tG (jF U  d k) Z .nil) Z λs=>aR Z (iQ Z) Z<|dR Z<|aQ ?_;exact gJ ((!d)) () h SF Z
 intro b n h;refine qS h Z (λ_ h=>?_) λ_ h=>?_
 ·refine aX<|aD Z<|aQ<|aT<|aJ ?_;cases h;exact lY Z
 refine cK<|aX<|bX Z<|dU 0 Z<|aB Z<|cQ h λg h=>aC (bH Z Z (aA.fact 1 Z) Z Z g) Z<|aC (bS Z (aA.fact 1 Z) Z Z g) Z<|aC (fG Z (zBb (aA.fact 1 Z) g.1 g.2) Z) Z<|aD Z<|aQ<|aT ?_;cases h;exact lY Z
def yJ (U:Nat) (a:cS) (b:Int) (c:Int):Option (Int):=
 Option.bind (yM U ((a.1,a.2)) b) λe=>(Option.bind (iA U c (0:Int) (wI .i64 (e - (1:Int)))) λf=>(if(!f)=true then(some (-1:Int))else(ck (0<=b∧b<(a.2.length:Int)) (ck (0<=c∧c<((at' a.2 b).length:Int)) (Option.bind (rB U ((a.1,a.2)) ((at' (at' a.2 b) c).1) b) λd=>(some (d)))))))
theorem YN:bD Tryz.prog 114:=Tryz.call114
theorem Oq (U:Nat) {f:cS} {k:Int} {m:Int} (d:Value)  (e:Value)  (j:kY) (r:Int) (h:yJ U f k m=some r):
  bG Tryz.prog 114 #[Value.agg #[d,e],vI (k),vI (m)] [Sl aP d f.1,S2 bA e j f.2] (λx:Unit=>vI (r)) (λx l=>l) (λ_ l=>l):=by
 refine bG.of Tryz.func114 Z Tryz.ntmps114 Z λc=>?_;refine aX<|aM (aS.box (cs:=[d,e]) Z Z) Z λt=>aD Z<|aQ<|aN<|aX<|aB Z<|cM 0 Z<|aB Z<|eO h λn p h=>aM (zBa YZ (Lq U d e j n p) Z (iD [0,1] Z)) Z λu=>aC (oD Z Z) Z<|eO h λo q h=>aM (zBa tG (jF U  o q) Z .nil) Z λv=>aC (iQ Z) Z<|aQ ?_;refine qS h Z (λ_ h=>?_) λ_ h=>?_
 ·refine aX<|aD Z<|aQ<|aT<|aJ ?_;cases h;exact lY Z
 refine cK<|aN ?_;refine JR.start [0,0,2,0,14,30,0,126,254,510,0,2047,4095] 11 mixedOrders (by decide +kernel) ?_;refine zBc (by exact rfl) ?_;refine iR 0 Z<|cB Z<|eI 0 Z<|aV Z<|cQ h λa h=>bE Z .nil (fW 1 Z) (bH Z Z (aA.fact 0 Z) Z Z a) aO.z<|bE Z .nil (fW 1 Z) (bS Z (aA.fact 0 Z) Z Z a) aO.z<|aV Z<|cQ h λb h=>bE Z .nil (fW 1 Z) (bI Z Z (zBb (aA.fact 0 Z) a.1 a.2) Z Z b) aO.z<|e_ Z (dX Z Z Z Z Z)<|bE Z .nil (fW 1 Z) (fI Z (zBb (aA.fact 0 Z) a.1 a.2) Z Z Z gU b) aO.z<|aV Z<|bM 11 Z Z<|eO h λg i h=>aM (zBa Ny (EI U d e j g i) Z (iD [0,1] Z)) Z λs=>aD Z<|aQ<|aT ?_;cases h;exact lY Z
end Go.Proofs.YtflciafboapaaaaGreat