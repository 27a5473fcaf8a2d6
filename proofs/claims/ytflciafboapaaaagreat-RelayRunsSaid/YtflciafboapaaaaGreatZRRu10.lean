/- Models and proofs. Conditions: none. -/
import Derived.Test.YtflciafboapaaaaGreatZRRu5
import Derived.Test.YtflciafboapaaaaGreatZRRu9
import Derived.Test.YtflciafboapaaaaGreatZRRu7
import Derived.Test.YtflciafboapaaaaGreatZRRu8
import Derived.Test.YtflciafboapaaaaGreatZRRu6
set_option linter.unusedVariables false
set_option linter.unusedSimpArgs false
set_option maxHeartbeats 4000000
set_option maxRecDepth 20000
namespace Go.Proofs.YtflciafboapaaaaGreat
open Go.Sx
def CB (a:kJ):Option kV:=
 some (((a.1,a.2.1,a.2.2)),(0:Int))
def pV (c:xF) (b:AR->Option kV) (a:bO×List (List bO)×List bO):Option kV:=
 b ((wI .i64 (c.1+(1:Int))),a.1,a.2.2,a.2.1)
def zY (a:xF) (b:AR->Option kV) (c:bO):Option kV:=
 pV a b (c,a.2.2.2,a.2.2.1)
def EZ (U:Nat) (f:iF) (g:cO) (d:kC) (a:xF) (b:AR->Option kV) (e:bO):Option kV:=
 Option.bind (zM U ((f.1,f.2.1,f.2.2)) ((g.1,g.2)) e ((at' d a.1).2.1)) λc=>(if c.2=(0:Int)then(ck (0<=((at' d a.1).2.1)/\((at' d a.1).2.1)<(a.2.1.length:Int)) (zY a b (List.set a.2.1 (Int.toNat ((at' d a.1).2.1)) c.1)))else(zY a b (a.2.1)))
def zZ (U:Nat) (d:iF) (e:cO) (f:kC) (b:xF) (a:AR->Option kV) (c:bO):Option kV:=
 EZ U d e f b a (c)
def Aa (U:Nat) (g:iF) (d:cO) (c:kC) (b:xF) (f:AR->Option kV) (a:Int×bO) (e:(Int×bO)->Option kV):Option kV:=
 ck (0<=((at' c b.1).2.1)/\((at' c b.1).2.1)<(d.2.length:Int)) (if a.1<((at' d.2 ((at' c b.1).2.1)).length:Int)then(ck (0<=((at' c b.1).2.1)/\((at' c b.1).2.1)<(d.2.length:Int)) (ck (0<=a.1/\a.1<((at' d.2 ((at' c b.1).2.1)).length:Int)) (ck (0<=((at' c b.1).2.1)/\((at' c b.1).2.1)<(b.2.2.1.length:Int)) (ck (0<=a.1/\a.1<((at' b.2.2.1 ((at' c b.1).2.1)).length:Int)) (ck ((List.length ([]:bQ):Int)+((at' (at' b.2.2.1 ((at' c b.1).2.1)) a.1).length:Int)<=1099511627) (ck (0<=((at' (at' d.2 ((at' c b.1).2.1)) a.1).1)/\((at' (at' d.2 ((at' c b.1).2.1)) a.1).1)<(a.2.length:Int)) (e ((wI .i64 (a.1+(1:Int))),(List.set a.2 (Int.toNat ((at' (at' d.2 ((at' c b.1).2.1)) a.1).1)) (([]:bQ)++(at' (at' b.2.2.1 ((at' c b.1).2.1)) a.1)))))))))))else(zZ U g d c b f (a.2)))
def z_ (a:xF) (c:AR->Option kV) (b:Cq):Option kV:=
 pV a c (a.2.1,b,a.2.2.1)
def wY (d:cO) (c:kC) (a:xF) (f:AR->Option kV) (b:Int) (e:rM):Option kV:=
 ck (0<=((at' (at' d.2 ((at' c a.1).2.1)) ((at' c a.1).2.2)).1)/\((at' (at' d.2 ((at' c a.1).2.1)) ((at' c a.1).2.2)).1)<(a.2.2.2.length:Int)) (ck (0<=((at' (at' d.2 ((at' c a.1).2.1)) ((at' c a.1).2.2)).1)/\((at' (at' d.2 ((at' c a.1).2.1)) ((at' c a.1).2.2)).1)<(a.2.2.2.length:Int)) (ck (0<=b/\b<((at' a.2.2.2 ((at' (at' d.2 ((at' c a.1).2.1)) ((at' c a.1).2.2)).1)).length:Int)) (ck (0<=(1:Int)/\(1:Int)<=((at' (at' a.2.2.2 ((at' (at' d.2 ((at' c a.1).2.1)) ((at' c a.1).2.2)).1)) b).length:Int)) (ck (0<=b/\b<((at' a.2.2.2 ((at' (at' d.2 ((at' c a.1).2.1)) ((at' c a.1).2.2)).1)).length:Int)) (pV a f (a.2.1,(List.set a.2.2.2 (Int.toNat ((at' (at' d.2 ((at' c a.1).2.1)) ((at' c a.1).2.2)).1)) (List.set (at' a.2.2.2 ((at' (at' d.2 ((at' c a.1).2.1)) ((at' c a.1).2.2)).1)) (Int.toNat b) (List.drop (Int.toNat (1:Int)) (at' (at' a.2.2.2 ((at' (at' d.2 ((at' c a.1).2.1)) ((at' c a.1).2.2)).1)) b)))),e))))))
def jM (U:Nat) (g:iF) (e:cO) (h:Int) (b:kC) (a:xF) (d:AR->Option kV):Option kV:=
 if a.1<(b.length:Int)then(ck (0<=a.1/\a.1<(b.length:Int)) (if((at' b a.1).1)=(1:Int)then(Option.bind (nJ U a.2.1) λf=>(bJ (Aa U g e b a d) U ((0:Int),f)))else(if((at' b a.1).1)=(2:Int)then(ck (0<=((at' b a.1).2.1)/\((at' b a.1).2.1)<(a.2.2.2.length:Int)) (ck (0<=((at' b a.1).2.2)/\((at' b a.1).2.2)<((at' a.2.2.2 ((at' b a.1).2.1)).length:Int)) (if((at' (at' a.2.2.2 ((at' b a.1).2.1)) ((at' b a.1).2.2)).length:Int)<h then(ck (0<=((at' b a.1).2.1)/\((at' b a.1).2.1)<(a.2.2.2.length:Int)) (ck (0<=((at' b a.1).2.1)/\((at' b a.1).2.1)<(a.2.2.2.length:Int)) (ck (0<=((at' b a.1).2.2)/\((at' b a.1).2.2)<((at' a.2.2.2 ((at' b a.1).2.1)).length:Int)) (ck (0<=((at' b a.1).2.1)/\((at' b a.1).2.1)<(a.2.1.length:Int)) (ck ((List.length ([]:bQ):Int)+((at' a.2.1 ((at' b a.1).2.1)).length:Int)<=1099511627) (ck (((at' (at' a.2.2.2 ((at' b a.1).2.1)) ((at' b a.1).2.2)).length:Int)+(List.length ([(([]:bQ)++(at' a.2.1 ((at' b a.1).2.1)))]):Int)<=1099511627) (ck (0<=((at' b a.1).2.2)/\((at' b a.1).2.2)<((at' a.2.2.2 ((at' b a.1).2.1)).length:Int)) (z_ a d (List.set a.2.2.2 (Int.toNat ((at' b a.1).2.1)) (List.set (at' a.2.2.2 ((at' b a.1).2.1)) (Int.toNat ((at' b a.1).2.2)) ((at' (at' a.2.2.2 ((at' b a.1).2.1)) ((at' b a.1).2.2))++([(([]:bQ)++(at' a.2.1 ((at' b a.1).2.1)))]))))))))))))else(z_ a d (a.2.2.2)))))else(ck (0<=((at' b a.1).2.1)/\((at' b a.1).2.1)<(e.2.length:Int)) (ck (0<=((at' b a.1).2.2)/\((at' b a.1).2.2)<((at' e.2 ((at' b a.1).2.1)).length:Int)) (Option.bind (zI U ((e.1,e.2)) ((at' b a.1).2.1) ((at' b a.1).2.2)) λc=>(ck (0<=((at' (at' e.2 ((at' b a.1).2.1)) ((at' b a.1).2.2)).1)/\((at' (at' e.2 ((at' b a.1).2.1)) ((at' b a.1).2.2)).1)<(a.2.2.2.length:Int)) (ck (0<=c/\c<((at' a.2.2.2 ((at' (at' e.2 ((at' b a.1).2.1)) ((at' b a.1).2.2)).1)).length:Int)) (if(0:Int)<((at' (at' a.2.2.2 ((at' (at' e.2 ((at' b a.1).2.1)) ((at' b a.1).2.2)).1)) c).length:Int)then(if((at' b a.1).1)=(3:Int)then(ck (0<=((at' b a.1).2.1)/\((at' b a.1).2.1)<(a.2.2.1.length:Int)) (ck (0<=((at' (at' e.2 ((at' b a.1).2.1)) ((at' b a.1).2.2)).1)/\((at' (at' e.2 ((at' b a.1).2.1)) ((at' b a.1).2.2)).1)<(a.2.2.2.length:Int)) (ck (0<=c/\c<((at' a.2.2.2 ((at' (at' e.2 ((at' b a.1).2.1)) ((at' b a.1).2.2)).1)).length:Int)) (ck (0<=(0:Int)/\(0:Int)<((at' (at' a.2.2.2 ((at' (at' e.2 ((at' b a.1).2.1)) ((at' b a.1).2.2)).1)) c).length:Int)) (ck (0<=((at' b a.1).2.2)/\((at' b a.1).2.2)<((at' a.2.2.1 ((at' b a.1).2.1)).length:Int)) (wY e b a d c (List.set a.2.2.1 (Int.toNat ((at' b a.1).2.1)) (List.set (at' a.2.2.1 ((at' b a.1).2.1)) (Int.toNat ((at' b a.1).2.2)) (at' (at' (at' a.2.2.2 ((at' (at' e.2 ((at' b a.1).2.1)) ((at' b a.1).2.2)).1)) c) (0:Int))))))))))else(wY e b a d c (a.2.2.1)))else(pV a d (a.2.1,a.2.2.2,a.2.2.1)))))))))))else(CB (a.2.1,a.2.2.1,a.2.2.2))
def Cz (U:Nat) (b:iF) (c:cO) (d:Int) (e:kC) (a:kJ):Option kV:=
 bJ (jM U b c d e) U ((0:Int),a.1,a.2.1,a.2.2)
def wZ (U:Nat) (c:iF) (d:cO) (e:Int) (f:kC) (b:bO) (a:List bO×List (List bO)):Option kV:=
 Cz U c d e f (b,a.1,a.2)
def DU (a:NW) (c:NV->Option kV) (d:bO) (b:rM):Option kV:=
 ck ((a.2.2.length:Int)+(List.length ([b]):Int)<=1099511627) (c ((wI .i64 (a.1+(1:Int))),(a.2.1++[d]),(a.2.2++[b])))
def Ab (U:Nat) (f:kJ) (a:NW) (d:NV->Option kV) (g:bO) (b:List bO×Int) (e:(List bO×Int)->Option kV):Option kV:=
 ck (0<=a.1/\a.1<(f.2.2.length:Int)) (if b.2<((at' f.2.2 a.1).length:Int)then(ck (0<=a.1/\a.1<(f.2.2.length:Int)) (ck (0<=b.2/\b.2<((at' f.2.2 a.1).length:Int)) (Option.bind (nJ U (at' (at' f.2.2 a.1) b.2)) λc=>(ck ((b.1.length:Int)+(List.length ([c]):Int)<=1099511627) (e ((b.1++[c]),(wI .i64 (b.2+(1:Int)))))))))else(DU a d g (b.1)))
def sA (U:Nat) (f:iF) (g:cO) (h:Int) (e:kJ) (i:kC) (d:bO) (a:NW) (c:NV->Option kV):Option kV:=
 if a.1<(e.2.1.length:Int)then(ck (0<=a.1/\a.1<(e.2.1.length:Int)) (Option.bind (nJ U (at' e.2.1 a.1)) λb=>(ck ((a.2.1.length:Int)+(List.length ([b]):Int)<=1099511627) (bJ (Ab U e a c b) U (([]:rM),(0:Int))))))else(wZ U f g h i d (a.2.1,a.2.2))
def r_ (U:Nat) (d:iF) (e:cO) (f:Int) (c:kJ) (g:kC) (a:Int):Option kV:=
 if a≠(0:Int)then(some (((([]:bO),(([]:rM)),(([]:Cq)))),a))else(Option.bind (nJ U c.1) λb=>(bJ (sA U d e f c g b) U ((0:Int),([]:rM),([]:Cq))))
def w_ (b:gK) (a:i_->Option kV) (c:Int):Option kV:=
 a (c,(wI .i64 (b.2+(1:Int))))
def qD (U:Nat) (g:iF) (f:cO) (h:Int) (i:kJ) (d:kC) (a:gK) (b:i_->Option kV) (c:Bool):Option kV:=
 if c=true then(ck (0<=a.2/\a.2<(d.length:Int)) (Option.bind (q_ U ((f.1,f.2)) ((((at' d a.2).1),((at' d a.2).2.1),((at' d a.2).2.2)))) λe=>(if(!e)=true then(w_ a b (2:Int))else(w_ a b (a.1)))))else(r_ U g f h i d (a.1))
def iX (U:Nat) (d:iF) (e:cO) (f:Int) (g:kJ) (c:kC) (a:gK) (b:i_->Option kV):Option kV:=
 if a.2<(c.length:Int)then(qD U d e f g c a b (decide (a.1=(0:Int))))else(qD U d e f g c a b (false))
def rZ (U:Nat) (b:iF) (c:cO) (d:Int) (e:kJ) (f:kC) (a:Int):Option kV:=
 bJ (iX U b c d e f) U (a,(0:Int))
def BG (U:Nat) (b:iF) (c:cO) (d:Int) (e:kJ) (f:kC) (g:Int) (a:Bool):Option kV:=
 if a=true then(rZ U b c d e f (3:Int))else(rZ U b c d e f (g))
def BR (U:Nat) (a:iF) (c:cO) (d:Int) (b:kJ) (e:kC):Option kV:=
 Option.bind (wQ U ((a.1,a.2.1,a.2.2)) ((c.1,c.2)) d ((b.1,b.2.1,b.2.2))) λf=>(if f=(0:Int)then(BG U a c d b e f (decide ((65536:Int)<(e.length:Int))))else(BG U a c d b e f (false)))
theorem WR:bB Tryz.prog 27:=Tryz.call27
theorem Kl (U:Nat) {p0:iF} {y:cO} {p2:Int} {p3:kJ} {b:kC} (v0 v1 v2 v3:V0) (z4:lE) (v5:V0) (z6:kD) (v7:V0) (z8:IX) (v9:V0) (de:IW) (G:V0) (r:Rp) (h:BR U p0 y p2 p3 b=some r):
  bD Tryz.prog 27 #[Value.agg #[vS (p0.1),v0,v1],Value.agg #[v2,v3],vI (p2),Value.agg #[v5,v7,v9],G] [Sl aH v0 p0.2.1,Sl aE v1 p0.2.2,PF (Value.agg #[vS p0.1,v0,v1]),Sl aN v2 y.1,S2 aX v3 z4 y.2,S2 aN v5 z6 p3.1,S3 aN v7 z8 p3.2.1,S4 aN v9 de p3.2.2,Sl cD G b] (λx:YZ=>Value.tuple #[Value.agg #[x.1,x.2.2.1,x.2.2.2.2.1],vI (r.2)]) (λx l=>l) (λx l=>S2 aN x.1 x.2.1 r.1.1::S3 aN x.2.2.1 x.2.2.2.1 r.1.2.1::S4 aN x.2.2.2.2.1 x.2.2.2.2.2 r.1.2.2::l):=by
 let b9:=(tg 1 ([]:AU))
 let db:=(iX U p0 y p2 p3 b)
 let b7:=(List (List V0))
 let L:=Sl aE v1 p0.2.2;let K:=Sl aH v0 p0.2.1;let J:=S2 aN v5 z6 p3.1;let I:=S2 aX v3 z4 y.2;let ak:=S3 aN v7 z8 p3.2.1;let aj:=S4 aN v9 de p3.2.2;let ah:=PF (Value.agg #[vS p0.1,v0,v1]);refine bD.of Tryz.func27 Z Tryz.ntmps27 Z λc=>?_;refine aU<|aK (aP.box (cs:=[vS (p0.1),v0,v1]) Z Z) Z λb1=>let N:=bL b1 [vS (p0.1),v0,v1] 36;aK (aP.box (cs:=[v2,v3]) Z Z) Z λb2=>let O:=bL b2 [v2,v3] 31;aK (aP.box (cs:=[v5,v7,v9]) Z Z) Z λb3=>let V:=bL b3 [v5,v7,v9] 43;aK (aP.alloc (cs:=[cT,cT,cT]) Z Z) Z λb4=>let M:=bL b4 [cT,cT,cT] 43;aC Z<|aO<|aU<|dM 3 Z<|dM 2 Z<|aA Z<|dM 1 Z<|eT h λr5 w6 h=>aK (zBg ac_ (MW U v0 v1 v2 v3 z4 v5 z6 v7 z8 v9 de r5 w6) Z (iN [0,1,2,3,4,5,6,7] Z)) Z λx7=>aC Z<|aO<|aL<|eR (λa9=>rZ U p0 y p2 p3 b a9=some r) (λa9 e7=>[(2,vI (p2)),(4,G),(5,vP b1),(6,vP b2),(8,vP b3),(10,vP b4),(12,vI (a9))]) (λa9 e7=>[M,V,O,N]) ?_ ?_
 ·refine aL<|eR (λbh=>BG U p0 y p2 p3 b r5 bh=some r) (λbh di=>[(2,vI (p2)),(4,G),(5,vP b1),(6,vP b2),(8,vP b3),(10,vP b4),(12,vI (r5)),(26,vB (bh))]) (λbh di=>[M,V,O,N]) ?_ ?_
  ·refine aQ<|aA Z<|cC Z<|aA Z ?_;refine BZ h Z (λ_ h=>?_) λ_ h=>?_
   ·refine dC Z<|aT Z (fE Z (aF.fact 8 Z) Z) Z<|aT Z (tH Z Z) Z<|dR Z<|aO ?_;exact fT (decide ((65536:Int)<(b.length:Int))) () h SF Z
   refine aM Z<|aM Z<|aM Z<|eV Z<|aO ?_;exact fT (false) () h SF Z
  intro bh di h;refine tC h Z (λ_ h=>?_) λ_ h=>?_
  ·refine aQ<|aC Z<|aO ?_;exact fT (3:Int) () h SF Z
  refine cL ?_;exact fT (r5) () h SF Z
 intro a9 e7 h;unfold rZ at h;refine aL<|eR (λce=>r_ U p0 y p2 p3 b ce=some r) (λce e8=>[(2,vI (p2)),(4,G),(5,vP b1),(6,vP b2),(8,vP b3),(10,vP b4),(12,vI (ce))]) (λce e8=>[M,V,O,N]) ?_ ?_
 ·refine aU<|aC Z<|aO<|aS<|fI db (λE df=>[(2,vI (p2)),(4,G),(5,vP b1),(6,vP b2),(8,vP b3),(10,vP b4),(12,vI (E.1)),(13,vI (E.2))]) (λE df=>[M,V,O,N]) (a9,(0:Int)) () h SF (aZ.refl _) ?_;intro du E df h;refine aL<|aL<|eR (λbg=>qD U p0 y p2 p3 b E (bJ db du) bg=some r) (λbg dg=>[(2,vI (p2)),(4,G),(5,vP b1),(6,vP b2),(8,vP b3),(10,vP b4),(12,vI (E.1)),(13,vI (E.2)),(34,vB (bg))]) (λbg dg=>[M,V,O,N]) ?_ ?_
  ·refine aQ<|aA Z<|aA Z<|iH (aF.fact 8 Z) Z<|cV Z<|aA Z ?_;refine BZ h Z (λ_ h=>?_) λ_ h=>?_
   ·refine dC Z<|aT Z (JV Z Z) Z<|dR Z<|aO ?_;exact fT (decide (E.1=(0:Int))) () h SF Z
   refine aM Z<|aM Z<|eV Z<|aO ?_;exact fT (false) () h SF Z
  intro bg dg h;refine tC h Z (λ_ h=>?_) λ_ h=>?_
  ·refine cL<|aL<|eR (λa7=>w_ E (bJ db du) a7=some r) (λa7 dh=>[(2,vI (p2)),(4,G),(5,vP b1),(6,vP b2),(8,vP b3),(10,vP b4),(12,vI (a7)),(13,vI (E.2))]) (λa7 dh=>[M,V,O,N]) ?_ ?_
   ·refine aS<|aL ?_;refine sW [0,0,0,6,14,31,63] 5 mixedOrders ?_;refine jD 2 Z<|aV Z<|aV Z<|cU h λds h=>aY Z .nil (fN 8 Z) (bE Z Z (cA Z) Z Z ds) aJ.z<|aY Z .nil (fN 8 Z) (gU (cs:=[vI ((at' b E.2).1),vI ((at' b E.2).2.1),vI ((at' b E.2).2.2)]) Z (cA Z) bZ Z Z Z Z ds) aJ.z<|bP 5 Z Z<|eT h λfm fA h=>aK (zBg ada (JH U v2 v3 z4 fm fA) Z (iN [3,4] Z)) Z λf5=>aB (kM Z) Z<|aO ?_;refine tC h Z (λ_ h=>?_) λ_ h=>?_
    ·refine aQ<|aC Z<|fJ<|lL ?_;exact fT (2:Int) () h SF Z
    refine eM<|lL ?_;exact fT (E.1) () h SF Z
   intro a7 dh h;unfold w_ at h;refine aQ<|aA Z<|cP Z<|aC Z<|aO ?_;exact xY (a7,(wI .i64 (E.2+(1:Int)))) () h SF Z
  refine fG ?_;exact fT (E.1) () h SF Z
 intro ce e8 h;refine aL<|aU<|aA Z<|k_ Z<|aO ?_;refine eN h Z (λh=>?_) λh=>?_
 ·refine aU ?_;refine aB (Ov (r:=Value.agg #[cT,cT,cT]) (by intro w;simp[Instr.build,Instr.fill,eZ,eF,dO,e_,fC,eG,fR])) Z ?_;refine aA Z<|cG 0 (vs:=[cT,cT,cT]) Z Z Z Z Z Z<|aC Z<|aO<|aR<|aG ?_;cases h;exact hZ ((cT),([]),(cT),([]),(cT),([])) Z Z (RV.cell 0 Z Z Z Z) (RV.tmp Z) .nil (aI.cons mX (aI.cons mX (aI.cons mX aI.nil)))
 refine cL<|aU<|dM 1 Z<|Dz (A:=kJ) (B:=ack) (vs:=[Value.agg #[v5,v7,v9]]) (λax=>Cz U p0 y p2 b ax=some r) (λax d=>Value.agg #[d.1,d.2.1,d.2.2.1]) (λax d=>[Ar bM.raw d.1 d.2.2.2.1,M,V,O,N,Ar bM.raw d.2.1 d.2.2.2.2.1,gN bM.raw d.2.2.2.2.1 d.2.2.2.2.2.1,Ar bM.raw d.2.2.1 d.2.2.2.2.2.2.1,wK bM.raw d.2.2.2.2.2.2.1 d.2.2.2.2.2.2.2.1 d.2.2.2.2.2.2.2.2]) (λax d=>[tA aN d.2.2.2.1 ax.1,K,L,ah,Sl aN v2 y.1,I,J,ak,aj,Sl cD G b,AD aN d.2.2.2.2.2.1 ax.2.1,De aN d.2.2.2.2.2.2.2.2 ax.2.2]) (wL.fn (show bB Tryz.prog 70 from Tryz.call70) Z) Tryz.func70 Z Tryz.ntmps70 Z Z ?_ ?_
 ·refine aU<|aK (aP.box (cs:=[v5,v7,v9]) Z Z) Z λbG=>let da:=bL bG [v5,v7,v9] 43;aK (aP.alloc (cs:=[cT,cT,cT]) Z Z) Z λbi=>let b6:=bL bi [cT,cT,cT] 43;aO<|aU<|bU Z<|dQ 1 Z<|eT h λbr fx h=>let c8:=(sA U p0 y p2 p3 b br);aK (zBg KI (CI U v5 z6 br fx) Z (iN [5] Z)) Z λW=>let b8:=tA aN W.2 br;let b5:=Ar bM.raw W.1 W.2;bW (fQ 1 Z (mF (j:=0) Z jA))<|bF (vM (c_ (i:=0) (j:=0) Z Z)) λeW=>?_
  refine aB (Ow (r:=Value.agg #[W.1,cT,cT]) Z (by intro w;simp[Instr.build,Instr.fill,eZ,eF,dO,e_,fC,eG,fR,iY eW])) Z ?_;refine aK (aP.alloc (cs:=[cT,cT,cT]) Z Z) Z λa1=>bF (vM (c_ (i:=1) (j:=0) Z Z)) λeY=>cG 0 (vs:=[W.1,cT,cT]) Z Z (gJ eY (gJ Z (gJ Z Z))) Z Z Z<|aO<|aL<|kU (B:=NT) (λaf=>wZ U p0 y p2 b br af=some r) (λaf s=>[(2,vP bi),(3,vP a1)]) (λaf s=>[bL a1 [W.1,s.1,s.2.2.2.1] 43,b5,b6,M,V,O,N,Ar bM.raw s.1 s.2.1,gN bM.raw s.2.1 s.2.2.1,Ar bM.raw s.2.2.2.1 s.2.2.2.2.1,wK bM.raw s.2.2.2.2.1 s.2.2.2.2.2.1 s.2.2.2.2.2.2]) (λaf s=>[b8,K,L,ah,Sl aN v2 y.1,I,J,ak,aj,Sl cD G b,AD aN s.2.2.1 af.1,De aN s.2.2.2.2.2.2 af.2]) ?_ ?_
  ·refine aU<|aC Z<|aO<|aS<|bW (eX bM.raw)<|bW (iA bM.raw)<|bW (cJ (eD:aF _ _ (AD aN b9 ([]:rM))))<|bW (eX bM.raw)<|bW (tX bM.raw)<|bW (cJ (eD:aF _ _ (De aN (tg 2 ([]:Mq)) ([]:Cq))))<|oS (B:=NT) c8 (λu p=>[(1,vP bG),(2,vP bi),(3,vP a1),(4,vI (u.1))]) (λu p=>[bL a1 [W.1,p.1,p.2.2.2.1] 43,b5,b6,da,M,V,O,N,Ar bM.raw p.1 p.2.1,gN bM.raw p.2.1 p.2.2.1,Ar bM.raw p.2.2.2.1 p.2.2.2.2.1,wK bM.raw p.2.2.2.2.1 p.2.2.2.2.2.1 p.2.2.2.2.2.2]) (λu p=>[b8,K,L,ah,Sl aN v2 y.1,I,J,ak,aj,Sl cD G b,AD aN p.2.2.1 u.2.1,De aN p.2.2.2.2.2.2 u.2.2]) ((0:Int),([]:rM),([]:Cq)) ((tg 1 (cT)),(tg 1 ([]:fY)),b9,(tg 2 (cT)),(tg 2 ([]:fY)),(tg 2 ([]:AU)),(tg 2 ([]:Mq))) h SF (aZ.ix [4,5,6,7,8,9,10,11,3,2,1,0] Z Z) (iN [2,3,4,5,6,7,8,9,10,11,1,0] Z) ?_;intro dt u p h;let ad:=p.2.2.2;let ar:=ad.2.2;let dx:=wK bM.raw ad.2.1 ar.1 ar.2;refine aL<|aU<|aA Z<|bU Z<|dQ 3 Z<|aB (dU Z (ED Z) Z) Z<|cV Z<|aO ?_;refine eN h Z (λh=>?_) λh=>?_
   ·refine cL<|aL<|aS<|aL ?_;refine sW [0,1,0,4,0,28,60,124,252,511,1023,2047] 9 mixedOrders ?_;refine cH Z<|fO 0 Z<|cH Z<|fO 3 Z<|aV Z<|cU h λbV h=>a_ (dG (ED Z)) λeU=>gC Z (dW Z Z eU Z Z bV)<|aY Z .nil (fN 7 Z) (eI Z (cA Z) Z Z bV) aJ.z<|eT h λbs fy h=>zBi Z Z Z (zBg KI (CI U ((at' z8 u.1).1) ((at' z8 u.1).2) bs fy) Z (aI.cons (cE (ED Z) bV.1 bV.2) .nil)) Z (λae=>(mC [([2],[])] Z)) λae=>let dw:=AD aN (p.2.2.1++[ae.2]) (u.2.1++[bs]);let dv:=gN bM.raw (p.2.1++[ae.1]) (p.2.2.1++[ae.2]);?_
    refine zBj (fQ 1 Z (mF (j:=0) Z jA))<|a_ (vM (c_ (i:=0) (j:=0) Z Z)) λc2=>zBj (iA bM.raw)<|zBj (rQ 0 1 Z Z Z)<|zBj (cJ (gR (cA Z) eD))<|zBi Z Z Z (cM (e:=bM.raw) ([ae.1]) [(0,ae.1)] Z Z Z Z (jO (ae.1) c2) Z Z (gJ c2 Z)) Z (λft=>(mC [([2],[])] Z)) λft=>bP 9 Z Z<|bF (aW (Cv Z)) λcr=>bF (aW (cA Z)) λct=>bF (dX 11 Z) λcu=>bF (dX 1 Z) λcv=>cU h λdp h=>bW (cJ (gF (Cv Z) (cA Z)))<|bW (nO 11 1 Z Z Z) ?_;refine aK (aP.append 9 0 Z Z Z Z Z Z Z (by have q:=dp;have m:=cr;have n:=ct;have q2:=cu;have q3:=cv;(try simp only[zA9,zAg,zA4]at *);omega) (by have q:=dp;have m:=cr;have n:=ct;have q2:=cu;have q3:=cv;(try simp only[zA9,zAg,zA4]at *);omega) Z) Z λdd=>let dz:=bL a1 [W.1,dd,ad.1] 43;let dy:=Ar bM.raw dd (p.2.1++[ae.1]);?_
    refine bU Z<|bF (vM (gA (i:=9) (q:=10) (j:=0) Z Z Z)) λe3=>pJ 1 Z Z e3 Z Z Z<|aO<|aU<|aC Z<|aO<|aL<|kU (B:=UI) (λay=>DU u (bJ c8 dt) bs ay=some r) (λay F=>[(1,vP bG),(2,vP bi),(3,vP a1),(4,vI (u.1)),(5,F.1)]) (λay F=>[dz,b5,b6,da,M,V,O,N,dy,dv,Ar bM.raw ad.1 ad.2.1,dx,Ar bM.raw F.1 F.2.1,gN bM.raw F.2.1 F.2.2]) (λay F=>[dw,b8,K,L,ah,Sl aN v2 y.1,I,J,ak,aj,Sl cD G b,De aN ar.2 u.2.2,AD aN F.2.2 ay]) ?_ ?_
    ·refine aU<|aC Z<|aO<|aS<|bW (eX bM.raw)<|bW (iA bM.raw)<|bW (cJ (eD:aF _ _ (AD aN b9 ([]:rM))))<|oS (B:=UI) (Ab U p3 u (bJ c8 dt) bs) (λX H=>[(1,vP bG),(2,vP bi),(3,vP a1),(4,vI (u.1)),(5,H.1),(6,vI (X.2))]) (λX H=>[dz,b5,b6,da,M,V,O,N,dy,dv,Ar bM.raw ad.1 ad.2.1,dx,Ar bM.raw H.1 H.2.1,gN bM.raw H.2.1 H.2.2]) (λX H=>[dw,b8,K,L,ah,Sl aN v2 y.1,I,J,ak,aj,Sl cD G b,De aN ar.2 u.2.2,AD aN H.2.2 X.1]) (([]:rM),(0:Int)) ((tg 1 (cT)),(tg 1 ([]:fY)),b9) h SF (aZ.ix [3,4,5,6,7,8,9,10,11,12,13,14,1,0] Z Z) (iN [1,4,5,6,7,8,9,10,11,12,13,15,0] Z) ?_;intro fV X H h;refine aL<|aU<|aA Z<|bU Z<|dQ 3 Z<|aA Z<|cU h λbX h=>aB (bN Z Z (PQ Z) Z Z bX) Z<|aB (eI Z (PQ Z) Z Z bX) Z ?_;refine aB (dU Z (cE (PQ Z) bX.1 bX.2) Z) Z ?_;refine cV Z<|aO ?_;refine eN h Z (λh=>?_) λh=>?_
     ·refine cL<|aL<|aS<|aQ<|aA Z<|bU Z<|dQ 3 Z<|aA Z<|cU h λao h=>aB (bN Z Z (PQ Z) Z Z ao) Z<|aB (eI Z (PQ Z) Z Z ao) Z<|aA Z<|cU h λbY h=>aB (bN Z Z (cE (PQ Z) ao.1 ao.2) Z Z bY) Z ?_;refine aB (eI Z (cE (PQ Z) ao.1 ao.2) Z Z bY) Z<|eT h λdD fz h=>aK (zBg KI (CI U ((at' ((at' de u.1).2) X.2).1) ((at' ((at' de u.1).2) X.2).2) dD fz) Z (aI.cons (cE (cE (PQ Z) ao.1 ao.2) bY.1 bY.2) .nil)) Z λbu=>?_;refine bW (fQ 1 Z (mF (j:=0) Z jA))<|bF (vM (c_ (i:=0) (j:=0) Z Z)) λc4=>bW (iA bM.raw)<|bW (rQ 0 1 Z Z Z)<|bW (cJ (gR (cA Z) eD))<|aK (cM (e:=bM.raw) ([bu.1]) [(0,bu.1)] Z Z Z Z (jO (bu.1) c4) Z Z (gJ c4 Z)) Z λf0=>bF (aW (aF.fact 14 Z)) λcF=>bF (aW (cA Z)) λcN=>bF (dX 15 Z) λcQ=>bF (dX 1 Z) λcS=>cU h λdr h=>bW (cJ (gF (aF.fact 14 Z) (cA Z)))<|bW (nO 15 1 Z Z Z) ?_;refine aK (aP.append 13 0 Z Z Z Z Z Z Z (by have q:=dr;have m:=cF;have n:=cN;have q2:=cQ;have q3:=cS;(try simp only[zA9,zAg,zA4]at *);omega) (by have q:=dr;have m:=cF;have n:=cN;have q2:=cQ;have q3:=cS;(try simp only[zA9,zAg,zA4]at *);omega) Z) Z λfv=>?_;refine aC Z<|fJ<|lL<|aQ<|aA Z<|cP Z<|aC Z<|aO ?_;exact iG ((X.1++[dD]),(wI .i64 (X.2+(1:Int)))) (fv,(H.2.1++[bu.1]),(H.2.2++[bu.2])) h SF (aZ.ix [1,2,3,4,5,6,7,8,9,10,11,12,13,14] Z Z) (iN [3,4,5,6,7,8,9,10,11,12,13,14,0] Z)
     refine fG ?_;exact fT (X.1) (H.1,H.2.1,H.2.2) h SF Z
    intro ay F h;refine aQ<|bU Z<|dQ 0 Z<|aA Z<|bF (vM (gA (i:=12) (q:=13) (j:=12) Z Z Z)) λc3=>bW (tX bM.raw)<|bW (Gy 13 14 Z Z Z)<|bW (CM 0 13 Z Z Z)<|bW (cJ (gR (Cv Z) eD))<|aK (cM (e:=bM.raw) ([F.1]) [(0,F.1)] Z Z Z Z (jO (F.1) c3) Z Z (gJ c3 Z)) Z λfX=>bF (aW (Cv Z)) λcw=>bF (aW (cA Z)) λcx=>bF (jY 13 Z) λcy=>bF (jY 1 Z) λcz=>cU h λdq h=>bW (cJ (gF (Cv Z) (cA Z)))<|bW (EH 13 1 Z Z Z) ?_;refine aK (aP.append 11 0 Z Z Z Z Z Z Z (by have q:=dq;have m:=cw;have n:=cx;have q2:=cy;have q3:=cz;(try simp only[zA9,zAg,zA4]at *);omega) (by have q:=dq;have m:=cw;have n:=cx;have q2:=cy;have q3:=cz;(try simp only[zA9,zAg,zA4]at *);omega) Z) Z λfu=>?_;refine bU Z<|bF (vM (gM (i:=11) (q:=12) (j:=0) Z Z Z)) λe4=>pJ 1 Z Z e4 Z Z Z<|fJ<|lL<|aQ<|aA Z<|cP Z<|aC Z<|aO ?_;exact iG ((wI .i64 (u.1+(1:Int))),(u.2.1++[bs]),(u.2.2++[ay])) (dd,(p.2.1++[ae.1]),(p.2.2.1++[ae.2]),fu,(ad.2.1++[F.1]),(ar.1++[F.2.1]),(ar.2++[F.2.2])) h SF (aZ.ix [1,2,3,4,5,6,7,8,9,10,11,12] Z Z) (iN [3,4,5,6,7,8,9,10,11,12,2,0] Z)
   refine fG ?_;exact cI (u.2.1,u.2.2) (p.1,p.2.1,p.2.2.1,ad.1,ad.2.1,ar.1,ar.2) h SF (aZ.ix [0,1,2,4,5,6,7,8,9,10,11] Z Z) (aI.refl _ _)
  intro af s h;unfold wZ at h;refine aU<|dM 0 Z<|bF (vM (c_ (i:=1) (j:=0) Z Z)) λe0=>bF (vM (gA (i:=7) (q:=8) (j:=10) Z Z Z)) λe1=>bF (vM (gM (i:=9) (q:=10) (j:=11) Z Z Z)) λe2=>cG 2 (vs:=[W.1,s.1,s.2.2.2.1]) Z Z (gJ e0 (gJ e1 (gJ e2 Z))) Z Z Z<|aO<|aR ?_;exact mW (br,af.1,af.2) (W.1,s.1,s.2.2.2.1,W.2,s.2.1,s.2.2.1,s.2.2.2.2.1,s.2.2.2.2.2.1,s.2.2.2.2.2.2) h (.inl Z) (Hi.r1 Z (RV.cell 2 Z Z Z Z)) Z (aZ.ix [1,3,4,5,6,7,8,9,10] Z Z) (aI.refl _ _)
 intro ax d h;let ap:=d.2.2.1;let dB:=bL b4 [d.1,d.2.1,ap] 43;let a5:=bL b3 [d.1,d.2.1,ap] 43;let au:=d.2.2.2.2;let aq:=au.2.2.1;let ac:=Ar bM.raw d.2.1 au.1;let a6:=Ar bM.raw ap aq;unfold Cz at h;refine bF (vM (c_ (i:=0) (j:=0) Z Z)) λfd=>bF (vM (gA (i:=5) (q:=6) (j:=10) Z Z Z)) λfe=>bF (vM (gM (i:=7) (q:=8) (j:=11) Z Z Z)) λff=>cG 2 (vs:=[d.1,d.2.1,d.2.2.1]) Z Z (gJ fd (gJ fe (gJ ff Z))) Z Z Z<|aO<|aL<|kU (B:=List (List V0)×List (List V0)×List b7×List V0) (λaz=>CB az=some r) (λaz R=>[(8,vP b3),(10,vP b4)]) (λaz R=>[Ar bM.raw d.1 R.2.2.2,M,a5,ac,gN bM.raw au.1 R.1,a6,wK bM.raw aq R.2.1 R.2.2.1]) (λaz R=>[tA aN R.2.2.2 az.1,K,L,ah,Sl aN v2 y.1,I,J,ak,aj,Sl cD G b,AD aN R.1 az.2.1,De aN R.2.2.1 az.2.2]) ?_ ?_
 ·refine aU<|aC Z<|aO<|aS<|oS (B:=List (List V0)×List (List V0)×List b7×List V0) (jM U p0 y p2 b) (λa g=>[(2,vI (p2)),(4,G),(5,vP b1),(6,vP b2),(8,vP b3),(10,vP b4),(14,vI (a.1))]) (λa g=>[Ar bM.raw d.1 g.2.2.2,M,a5,O,N,ac,gN bM.raw au.1 g.1,a6,wK bM.raw aq g.2.1 g.2.2.1]) (λa g=>[tA aN g.2.2.2 a.2.1,K,L,ah,Sl aN v2 y.1,I,J,ak,aj,Sl cD G b,AD aN g.1 a.2.2.1,De aN g.2.2.1 a.2.2.2]) ((0:Int),ax.1,ax.2.1,ax.2.2) (au.2.1,au.2.2.2.1,au.2.2.2.2,d.2.2.2.1) h SF (aZ.refl _) (aI.refl _ _) ?_;intro fM a g h;let c9:=vI ((at' b a.1).2.1);let ai:=g.2.2.2;let bq:=AD aN g.1 a.2.2.1;let bp:=gN bM.raw au.1 g.1;let bo:=tA aN ai a.2.1;let bn:=De aN g.2.2.1 a.2.2.2;let bm:=Ar bM.raw d.1 ai;let bl:=wK bM.raw aq g.2.1 g.2.2.1;let a4:=(bJ (jM U p0 y p2 b) fM)
  refine aL<|aU<|aA Z<|aA Z<|iH (PQ Z) Z<|cV Z<|aO ?_;refine eN h Z (λh=>?_) λh=>?_
  ·refine cL<|aL<|aS ?_;refine sW [0,0,0,0,0,0,48,112,255] 8 mixedOrders ?_;refine jD 4 Z<|jD 3 Z<|aV Z<|jD 2 Z<|aV Z<|aV Z<|cU h λfl h=>aY Z .nil (fN 9 Z) (bE Z Z (cA Z) Z Z fl) aJ.z<|aY Z .nil (fN 9 Z) (gU (cs:=[vI ((at' b a.1).1),c9,vI ((at' b a.1).2.2)]) Z (cA Z) bZ Z Z Z Z fl) aJ.z<|bP 8 Z Z<|Dz (A:=bO×List (List bO)×List bO) (B:=List V0×List (List V0)×List b7×List (List V0)) (vs:=[Value.agg #[vS (p0.1),v0,v1],Value.agg #[v2,v3],vI (p2),Value.agg #[d.1,d.2.1,d.2.2.1],Value.agg #[vI ((at' b a.1).1),vI ((at' b a.1).2.1),vI ((at' b a.1).2.2)]]) (λaD=>pV a a4 aD=some r) (λaD ag=>Value.tuple #[]) (λaD ag=>[Ar bM.raw d.1 ag.1,M,a5,O,N,ac,gN bM.raw au.1 ag.2.2.2,a6,wK bM.raw aq ag.2.1 ag.2.2.1]) (λaD ag=>[tA aN ag.1 aD.1,K,L,ah,Sl aN v2 y.1,I,J,ak,aj,Sl cD G b,AD aN ag.2.2.2 aD.2.2,De aN ag.2.2.1 aD.2.1]) (wL.fn (show bB Tryz.prog 71 from Tryz.call71) Z) Tryz.func71 Z Tryz.ntmps71 Z Z ?_ ?_
   ·refine aU<|aK (aP.box (cs:=[vS (p0.1),v0,v1]) Z Z) Z λfD=>let c7:=bL fD [vS (p0.1),v0,v1] 36;aK (aP.box (cs:=[v2,v3]) Z Z) Z λfF=>let dc:=bL fF [v2,v3] 31;aK (aP.box (cs:=[d.1,d.2.1,ap]) Z Z) Z λe9=>let b0:=bL e9 [d.1,d.2.1,ap] 43;aK (aP.box (cs:=[vI ((at' b a.1).1),c9,vI ((at' b a.1).2.2)]) Z Z) Z λf6=>aO<|aU<|bU Z<|dQ 0 Z<|aC Z<|aO<|aL<|aU<|bU Z<|dQ 0 Z<|cC Z<|aO ?_
    refine eN h Z (λh=>?_) λh=>?_
    ·refine aL ?_;refine sW [0,0,0,0,0,28,0,127,255,511,511,1023,4095] 12 mixedOrders ?_;refine jD 3 Z<|jD 2 Z<|jD 2 Z<|jD 1 Z<|aV Z<|KE (A:=bO) (B:=Fx) (vs:=[Value.agg #[v2,v3],Value.agg #[d.1,d.2.1,d.2.2.1],vI ((at' b a.1).2.1)]) (λbw=>EZ U p0 y b a a4 bw=some r) (λbw bf=>bf.1) (λbw bf=>[Ar bM.raw bf.1 bf.2,b0,dc,c7,bm,M,a5,O,N,ac,bp,a6,bl]) (λbw bf=>[tA aN bf.2 bw,bo,K,L,ah,Sl aN v2 y.1,I,J,ak,aj,Sl cD G b,bq,bn]) Z Z Z (wL.fn (show bB Tryz.prog 59 from Tryz.call59) Z) Tryz.func59 Z Tryz.ntmps59 Z Z (λ_ _=>(mC [([2],[]),([3],[])] Z)) ?_ ?_
     ·refine aU<|aK (aP.box (cs:=[v2,v3]) Z Z) Z λfa=>aK (aP.box (cs:=[d.1,d.2.1,ap]) Z Z) Z λfb=>aC Z<|aO<|aU<|bU Z<|dQ 0 Z<|eT h λfp fS h=>aK (zBg KI (CI U d.1 ((List.zip ai a.2.1)) fp fS) Z (aI.cons (c_ (i:=6) (j:=0) Z Z) .nil)) Z λcd=>bW (fQ 1 Z (mF (j:=0) Z jA))<|aC Z<|aO<|aL<|kU (B:=fY) (λbz=>zZ U p0 y b a a4 bz=some r) (λbz cb=>[(7,cd.1)]) (λbz cb=>[Ar bM.raw cd.1 cb,b0,dc,c7,bm,M,a5,O,N,ac,bp,a6,bl]) (λbz cb=>[tA aN cb bz,bo,K,L,ah,Sl aN v2 y.1,I,J,ak,aj,Sl cD G b,bq,bn]) ?_ ?_
      ·refine aU<|aC Z<|aO<|aS<|oS (B:=fY) (Aa U p0 y b a a4) (λP a0=>[(2,c9),(3,vP fa),(4,vP fb),(7,cd.1),(8,vI (P.1))]) (λP a0=>[Ar bM.raw cd.1 a0,bL fb [d.1,d.2.1,ap] 43,bL fa [v2,v3] 31,b0,dc,c7,bm,M,a5,O,N,ac,bp,a6,bl]) (λP a0=>[tA aN a0 P.2,bo,K,L,ah,Sl aN v2 y.1,I,J,ak,aj,Sl cD G b,bq,bn]) ((0:Int),fp) (cd.2) h SF (aZ.ix [0,1,2,4,5,6,7,8,9,10,11,12,13,14,15] Z Z) (aI.refl _ _) ?_;intro fU P a0 h;refine aL<|aU<|aA Z<|bU Z<|dQ 2 Z<|aA Z<|cU h λbH h=>aB (bN Z Z (Ja Z) Z Z bH) Z<|aB (bT Z (Ja Z) Z Z bH) Z<|aB (fE Z (zBh (Ja Z) bH.1 bH.2) Z) Z<|cV Z<|aO ?_;refine eN h Z (λh=>?_) λh=>?_
       ·refine cL<|aL<|aS ?_;refine sW [0,0,2,0,14,30,0,126,254,510,0,0,2048,0,14336,30720,0,129024,260096,523264,1048575,2097151] 20 mixedOrders ?_;refine aV Z<|cH Z<|fO 2 Z<|aV Z<|cU h λba h=>aY Z .nil (fN 6 Z) (bN Z Z (cA Z) Z Z ba) aJ.z<|aY Z .nil (fN 6 Z) (bT Z (cA Z) Z Z ba) aJ.z<|aV Z<|cU h λdk h=>aY Z .nil (fN 6 Z) (bE Z Z (zBh (cA Z) ba.1 ba.2) Z Z dk) aJ.z<|gC Z (cZ Z Z Z Z Z)<|aY Z .nil (fN 6 Z) (eL Z (zBh (cA Z) ba.1 ba.2) Z Z Z gT dk) aJ.z<|zBi Z Z Z (cM (e:=fW) ([]:bQ) [] Z Z Z Z ((λi h=>by simp at h;subst h;rfl)) Z Z Z) Z (λfq=>(mC [([],[6]),([],[6]),([],[6]),([],[6]),([3],[])] Z)) λfq=>gC Z (cR Z Z Z Z Z)<|aY Z (aZ.cons 2 Z .nil) .nil (dL 0 Z Z Z Z Z) (aJ.h (aZ.ix [1] Z Z) .nil aJ.z)<|gC Z (eO Z)<|cU h λY h=>a_ (dG (gA (i:=12) (q:=13) (j:=11) Z Z Z)) λdE=>gC Z (dW Z Z dE Z Z Y)<|a_ (dX 13 Z) λdF=>a_ (aW (yA Z)) λdH=>aY Z (aZ.cons 12 Z .nil) .nil (gW 0 Z Z (dF.trans dH) Z Z Y) (aJ.h (aZ.ix [11] Z Z) .nil aJ.z)<|gC Z (eO Z)<|cU h λbj h=>a_ (dG (Gu (q:=13) (j:=11) Z Z Y.1 Y.2)) λdI=>?_;refine gC Z (dW Z Z dI Z Z bj)<|a_ (aW (yA Z)) λdJ=>?_;refine a_ (aW (bR (yA Z) Y.1 Y.2)) λdK=>?_;refine aY Z (aZ.cons 13 Z .nil) .nil (cK (f:=λx=>x) Z (JQ (q:=0) Z Y.1 (by have m:=Y.2;have n:=dJ;(try simp only[zA1]at m n⊢);omega)) Z Z Z iU ⟨bj.1,(by have m:=bj.2;have n:=dK;(try simp only[zA1]at m n⊢);omega)⟩) (aJ.h (aZ.ix [12] Z Z) .nil aJ.z)<|cU h λfj h=>zBi Z Z Z (dN 0 jA Z Z Z (bR (bR (yA Z) Y.1 Y.2) bj.1 bj.2) Z Z Z Z fj Z) Z (λbd=>(mC [([],[6]),([],[6]),([],[6]),([],[6]),([3],[])] Z)) λbd=>?_;refine bP 20 Z Z<|cU h λc5 h=>aB (bN Z Z (c_ (i:=1) (j:=0) Z Z) Z Z c5) Z<|bF (Know.one ((cB (aF.res 0 Z) jA))) λcW=>bW (fQ 0 Z (cB (aF.res 0 Z) jA))<|bF (aW (mM Z)) λdP=>bW (cJ (iM (Int.toNat ((at' (at' y.2 ((at' b a.1).2.1)) P.1).1)) (mM Z) (cA Z))) ?_;refine yR (pK (us:=[bd]) (o:=0) (q:=1) 0 bd ⟨c5.1,(by have m:=c5.2;have n:=dP;(try simp only[zA1]at m n⊢);omega)⟩ Z Z Z Z (by rw[show(bd).cells = #[bd]from iY cW]) Z Z Z (gJ cW Z) Z) λf1=>?_;refine fJ<|lL<|aQ<|aA Z<|cP Z<|aC Z<|aO ?_;exact iG ((wI .i64 (P.1+(1:Int))),(List.set P.2 (Int.toNat ((at' (at' y.2 ((at' b a.1).2.1)) P.1).1)) (([]:bQ)++(at' (at' a.2.2.1 ((at' b a.1).2.1)) P.1)))) (List.set a0 (Int.toNat ((at' (at' y.2 ((at' b a.1).2.1)) P.1).1)) bd) h SF (aZ.refl _) (iN [0,3,4,5,6,7,8,9,10,11,12,13,14] Z)
       refine fG ?_;exact cI (P.2) (a0) h SF (aZ.ix [0,3,4,5,6,7,8,9,10,11,12,13,14] Z Z) (aI.refl _ _)
      intro bz cb h;unfold zZ at h;refine aU<|aA Z<|aC Z<|aO<|aR ?_;exact mW (bz) (cd.1,cb) h (.inl Z) (Hi.r1 Z (RV.tmp Z)) Z (aZ.refl _) (aI.refl _ _)
     intro bw bf h;refine gC Z (eO Z)<|eT h λfo fP h=>zBi Z Z Z (zBg ZX (Py U v0 v1 v2 v3 z4 bf.1 ((List.zip bf.2 bw)) fo fP) Z (aI.cons (yP Z) (aI.cons (Dh Z) (aI.cons (Ek Z) (aI.cons (Di Z) (aI.cons (Ja Z) (aI.cons (c_ (i:=0) (j:=0) Z Z) .nil))))))) Z (λcc=>(mC [] Z)) λcc=>gC Z (eO Z)<|gC Z (qS Z Z)<|gC Z (qS Z Z)<|gC Z (yU Z)<|bP 12 Z Z<|aC Z<|aO<|aL<|kU (B:=fY) (λbx=>zY a a4 bx=some r) (λbx ca=>[]) (λbx ca=>[Ar bM.raw d.1 ca,M,a5,O,N,ac,bp,a6,bl]) (λbx ca=>[tA aN ca bx,K,L,ah,Sl aN v2 y.1,I,J,ak,aj,Sl cD G b,bq,bn]) ?_ ?_
     ·refine aU<|aA Z<|cC Z<|aO ?_;refine eN h Z (λh=>?_) λh=>?_
      ·refine aQ<|bU Z<|dQ 2 Z<|aA Z<|aA Z<|cU h λe5 h=>aB (bN Z Z (c_ (i:=5) (j:=1) Z Z) Z Z e5) Z<|bF (Know.one ((cB (aF.res 0 Z) jA))) λdj=>bW (fQ 0 Z (cB (aF.res 0 Z) jA))<|bF (aW (yP Z)) λfc=>bW (cJ (iM (Int.toNat ((at' b a.1).2.1)) (yP Z) (cA Z))) ?_;refine yR (pK (us:=[cc]) (o:=0) (q:=1) 4 cc ⟨e5.1,(by have m:=e5.2;have n:=fc;(try simp only[zA1]at m n⊢);omega)⟩ Z Z Z Z (by rw[show(cc).cells = #[cc]from iY dj]) Z Z Z (gJ dj Z) Z) λf7=>?_;refine aO ?_;exact cI (List.set a.2.1 (Int.toNat ((at' b a.1).2.1)) fo.1) (List.set ai (Int.toNat ((at' b a.1).2.1)) cc) h SF (aZ.ix [4,5,6,7,8,9,10,11,12] Z Z) (iN [0,4,5,6,7,8,9,10,11,12,13,14] Z)
      refine cL ?_;exact cI (a.2.1) (ai) h SF (aZ.ix [5,6,7,8,9,10,11,12,13] Z Z) (iN [1,2,3,4,5,6,7,8,9,10,11,12] Z)
     intro bx ca h;unfold zY at h;refine aR<|aG ?_;exact mW (bx,a.2.2.2,a.2.2.1) (ca,g.2.1,g.2.2.1,g.1) h (.inl Z) (Hi.r0 Z) Z (aZ.refl _) (aI.refl _ _)
    refine cL<|aL<|aU<|bU Z<|dQ 0 Z<|cC Z<|aO ?_;refine eN h Z (λh=>?_) λh=>?_
    ·refine aL<|kU (B:=List (List V0)×List b7) (λav=>z_ a a4 av=some r) (λav al=>[]) (λav al=>[bm,M,a5,O,N,ac,bp,a6,wK bM.raw aq al.1 al.2]) (λav al=>[De aN al.2 av,bo,K,L,ah,Sl aN v2 y.1,I,J,ak,aj,Sl cD G b,bq]) ?_ ?_
     ·refine aL ?_;refine sW [0,1,0,7,15,0,32,127,255,511,0,2047] 11 mixedOrders ?_;refine cH Z<|fO 1 Z<|aV Z<|cU h λS h=>a_ (dG (gM (i:=11) (q:=12) (j:=11) Z Z Z)) λdS=>gC Z (dW Z Z dS Z Z S)<|a_ (jY 12 Z) λdT=>a_ (aW (yA Z)) λdV=>aY Z (aZ.cons 11 Z .nil) .nil (gW 0 Z Z (dT.trans dV) Z Z S) aJ.z<|cH Z<|fO 0 Z<|cU h λbI h=>a_ (dG (yG (q:=12) (j:=11) Z Z S.1 S.2)) λdY=>?_;refine gC Z (dW Z Z dY Z Z bI)<|a_ (aW (yA Z)) λcf=>?_;refine a_ (jV (k:=((at' b a.1).2.1)) 12 Z ⟨S.1,(by have m:=S.2;have n:=cf;(try simp only[zA1]at m n⊢);omega)⟩) λd0=>?_;refine a_ (aW (bR (yA Z) S.1 S.2)) λd1=>?_;refine aY Z (aZ.cons 12 Z .nil) .nil (cK (f:=λx=>x) Z (nM (q:=0) Z S.1 (by have m:=S.2;have n:=cf;(try simp only[zA1]at m n⊢);omega)) Z Z Z iU ⟨bI.1,(by have m:=bI.2;have n:=d0;have q2:=d1;(try simp only[zA1]at m n q2⊢);omega)⟩) aJ.z ?_;refine aY Z (aZ.cons 12 Z .nil) (fN 11 Z) (dU Z (AZ (q:=0) (j:=0) Z Z S bI) Z) aJ.z<|aV Z<|bP 11 Z Z<|cV Z<|aO ?_;refine eN h Z (λh=>?_) λh=>?_
      ·refine sW [0,1,0,7,15,0,32,0,128,0,896,1920,0,4096,16256,32640,0,0,131072,0,917504,1966080,4128768,8323072,16777088,33554431,67108863] 25 mixedOrders ?_;refine cH Z<|fO 1 Z<|aV Z<|cU h λam h=>a_ (dG (gM (i:=11) (q:=12) (j:=11) Z Z Z)) λd2=>gC Z (dW Z Z d2 Z Z am)<|a_ (jY 12 Z) λd3=>a_ (aW (yA Z)) λd4=>aY Z (aZ.cons 11 Z .nil) .nil (gW 0 Z Z (d3.trans d4) Z Z am) aJ.z<|cH Z<|fO 0 Z<|cH Z<|fO 1 Z<|aV Z<|cU h λC h=>a_ (dG (gM (i:=11) (q:=12) (j:=11) Z Z Z)) λd5=>gC Z (dW Z Z d5 Z Z C)<|a_ (jY 12 Z) λd6=>a_ (aW (yA Z)) λd7=>aY Z (aZ.cons 11 Z .nil) .nil (gW 0 Z Z (d6.trans d7) Z Z C) aJ.z<|cH Z<|fO 0 Z<|cU h λa2 h=>a_ (dG (yG (q:=12) (j:=11) Z Z C.1 C.2)) λd8=>?_;refine gC Z (dW Z Z d8 Z Z a2)<|a_ (aW (yA Z)) λcg=>?_;refine a_ (jV (k:=((at' b a.1).2.1)) 12 Z ⟨C.1,(by have m:=C.2;have n:=cg;(try simp only[zA1]at m n⊢);omega)⟩) λd9=>?_;refine a_ (aW (bR (yA Z) C.1 C.2)) λea=>?_;refine aY Z (aZ.cons 12 Z .nil) .nil (cK (f:=λx=>x) Z (nM (q:=0) Z C.1 (by have m:=C.2;have n:=cg;(try simp only[zA1]at m n⊢);omega)) Z Z Z iU ⟨a2.1,(by have m:=a2.2;have n:=d9;have q2:=ea;(try simp only[zA1]at m n q2⊢);omega)⟩) aJ.z ?_;refine zBi Z Z Z (cM (e:=fW) ([]:bQ) [] Z Z Z Z ((λi h=>by simp at h;subst h;rfl)) Z Z Z) Z (λfr=>(mC [([13],[]),([1],[]),([12],[]),([2],[]),([1],[]),([12],[]),([2],[])] Z)) λfr=>gC Z (cR Z Z Z Z Z)<|aY Z (aZ.cons 2 Z .nil) .nil (dL 0 Z Z Z Z Z) (aJ.h (aZ.ix [1] Z Z) .nil aJ.z)<|gC Z (eO Z)<|cU h λbK h=>a_ (dG (c_ (i:=5) (j:=0) Z Z)) λeb=>gC Z (dW Z Z eb Z Z bK)<|a_ (aW (cA Z)) λec=>aY Z (aZ.cons 5 Z .nil) .nil (gW 0 Z Z ec Z Z bK) (aJ.h (aZ.ix [4] Z Z) .nil aJ.z)<|cU h λfk h=>zBi Z Z Z (dN 0 jA Z Z Z (bR (cA Z) bK.1 bK.2) Z Z Z Z fk Z) Z (λbt=>(mC [([13],[]),([1],[]),([12],[]),([2],[]),([1],[]),([12],[]),([2],[])] Z)) λbt=>?_;refine a_ (Know.one ((cB (aF.res 0 Z) jA))) λcX=>zBj (fQ 0 Z (cB (aF.res 0 Z) jA))<|zBj (cJ (gR (cA Z) eD))<|zBi Z Z Z (cM (e:=bM.raw) ([bt]) [(0,bt)] Z Z Z Z (jO (bt) cX) Z Z (gJ cX Z)) Z (λfs=>(mC [([13],[]),([1],[]),([12],[]),([2],[]),([1],[]),([12],[]),([2],[])] Z)) λfs=>a_ (jY 13 Z) λfH=>a_ (aW (aF.fact 13 Z)) λch=>?_;refine a_ (jV (k:=((at' b a.1).2.1)) 13 Z ⟨C.1,(by have m:=C.2;have n:=ch;(try simp only[zA1]at m n⊢);omega)⟩) λci=>?_;refine zBj (Cs (k:=((at' b a.1).2.1)) 13 Z ⟨C.1,(by have m:=C.2;have n:=ch;(try simp only[zA1]at m n⊢);omega)⟩) ?_;refine a_ (aW (bR (aF.fact 13 Z) C.1 C.2)) λed=>?_;refine zBj (cJ (bR (bR (aF.fact 13 Z) C.1 C.2) a2.1 a2.2)) ?_;refine zBj (BO (k:=((at' b a.1).2.2)) 1 Z ⟨a2.1,(by have m:=a2.2;have n:=ed;(try simp only[zA1]at m n⊢);omega)⟩) ?_;refine a_ (aW (cA Z)) λcj=>a_ (aW (mM Z)) λck=>cU h λdl h=>zBj (cJ (gF (cA Z) (mM Z))) ?_;refine zBi Z Z Z (aP.append 0 3 Z Z Z Z Z Z Z (by have q:=dl;have m:=cj;have n:=ck;(try simp only[zA9,zAg,zA4]at *);omega) (by have q:=dl;have m:=cj;have n:=ck;(try simp only[zA9,zAg,zA4]at *);omega) Z) Z (λbe=>(mC [([4],[]),([15],[]),([5],[])] Z)) λbe=>?_;refine bP 25 Z Z<|bF (aW (aF.fact 15 Z)) λfK=>?_;refine bF (aW (bR (aF.fact 15 Z) C.1 C.2)) λee=>cU h λbb h=>aB (tZ 1 Z Z Z Z Z bb.1 (by have m:=bb.2;have n:=(ci.trans ee);(try simp only[zA1]at m n⊢);omega)) Z ?_;refine bF (vM (c_ (i:=0) (j:=0) Z Z)) λcY=>bF (aW (aF.fact 15 Z)) λbA=>?_;refine bF (aW (bR (aF.fact 15 Z) am.1 am.2)) λcl=>?_;refine bW (cJ (iM (Int.toNat ((at' b a.1).2.1)) (aF.fact 15 Z) (iM (Int.toNat ((at' b a.1).2.2)) (bR (aF.fact 15 Z) am.1 am.2) (cA Z)))) ?_;refine bW (BM (k:=((at' b a.1).2.2)) 2 0 Z Z Z ⟨bb.1,(by have m:=bb.2;have n:=bA;have q2:=cl;(try simp only[zA1]at m n q2⊢);omega)⟩) ?_;refine yR (pK (us:=[be]) (o:=0) (q:=1) 0 be ⟨bb.1,(by have m:=bb.2;have n:=bA;have q2:=cl;have q3:=ci;(try simp only[zA1]at m n q2 q3⊢);omega)⟩ Z Z Z Z (by rw[show(be).cells = #[be]from iY cY]) Z Z Z (gJ cY Z) Z) λf2=>?_;refine bW (Dk (k:=((at' b a.1).2.1)) (vs:=d.2.2.2.2.2.2.1) (wss:=g.2.1) (xsss:=g.2.2.1) (i':=14) (j':=0) 15 0 1 Z Z Z Z Z Z Z ⟨am.1,(by have m:=am.2;have n:=bA;(try simp only[zA1]at m n⊢);omega)⟩) ?_;refine aO ?_;exact cI (List.set a.2.2.2 (Int.toNat ((at' b a.1).2.1)) (List.set (at' a.2.2.2 ((at' b a.1).2.1)) (Int.toNat ((at' b a.1).2.2)) ((at' (at' a.2.2.2 ((at' b a.1).2.1)) ((at' b a.1).2.2))++([(([]:bQ)++(at' a.2.1 ((at' b a.1).2.1)))])))) ((List.set g.2.1 (Int.toNat ((at' b a.1).2.1)) (List.set (at' g.2.1 ((at' b a.1).2.1)) (Int.toNat ((at' b a.1).2.2)) be)),(List.set g.2.2.1 (Int.toNat ((at' b a.1).2.1)) (List.set (at' g.2.2.1 ((at' b a.1).2.1)) (Int.toNat ((at' b a.1).2.2)) ((at' (at' g.2.2.1 ((at' b a.1).2.1)) ((at' b a.1).2.2))++[bt])))) h SF (aZ.ix [5,6,7,8,9,10,11,12,13] Z Z) (iN [0,5,6,7,8,9,10,11,12,13,14,15] Z)
      refine cL ?_;exact cI (a.2.2.2) (g.2.1,g.2.2.1) h SF (aZ.ix [4,5,6,7,8,9,10,11,12] Z Z) (iN [11,0,1,2,3,4,5,6,7,8,9,10] Z)
     intro av al h;unfold z_ at h;refine aR<|aG ?_;exact mW (a.2.1,av,a.2.2.1) (ai,al.1,al.2,g.1) h (.inl Z) (Hi.r0 Z) Z (aZ.refl _) (iN [1,2,3,4,5,6,7,8,9,10,11,0] Z)
    refine cL<|aL ?_;refine sW [0,1,0,7,15,0,32,127,255,511,0,0,0,4096,15360,32767,65535] 15 mixedOrders ?_;refine cH Z<|fO 2 Z<|aV Z<|cU h λbc h=>aY Z .nil (fN 5 Z) (bN Z Z (cA Z) Z Z bc) aJ.z<|aY Z .nil (fN 5 Z) (bT Z (cA Z) Z Z bc) aJ.z<|cH Z<|fO 0 Z<|cU h λdm h=>aY Z .nil (fN 5 Z) (bE Z Z (zBh (cA Z) bc.1 bc.2) Z Z dm) aJ.z<|gC Z (cZ Z Z Z Z Z)<|aY Z .nil (fN 5 Z) (eL Z (zBh (cA Z) bc.1 bc.2) Z Z Z gT dm) aJ.z<|jD 2 Z<|aV Z<|cH Z<|fO 0 Z<|eT h λt fw h=>let e6:=((at' (at' a.2.2.2 ((at' (at' y.2 ((at' b a.1).2.1)) ((at' b a.1).2.2)).1)) t).length);zBi Z Z Z (zBg ZY (Ps U v2 v3 z4 t fw) Z (iN [4,5] Z)) Z (λfB=>(mC [([],[5]),([],[5]),([0],[]),([],[5]),([],[5]),([2],[])] Z)) λfB=>bP 15 Z Z<|aC Z<|aC Z<|aO<|aU<|bU Z<|dQ 1 Z<|aA Z<|cU h λT h=>aB (bN Z Z (gM (i:=11) (q:=12) (j:=11) Z Z Z) Z Z T) Z<|bF (jY 12 Z) λef=>bF (aW (yA Z)) λeg=>aB (gW 11 Z Z (ef.trans eg) Z Z T) Z<|aA Z<|cU h λbS h=>aB (bN Z Z (yG (q:=12) (j:=11) Z Z T.1 T.2) Z Z bS) Z ?_
    refine bF (aW (yA Z)) λcm=>?_;refine bF (jV (k:=((at' (at' y.2 ((at' b a.1).2.1)) ((at' b a.1).2.2)).1)) 12 Z ⟨T.1,(by have m:=T.2;have n:=cm;(try simp only[zA1]at m n⊢);omega)⟩) λeh=>?_;refine bF (aW (bR (yA Z) T.1 T.2)) λei=>?_;refine aB (cK (f:=λx=>x) Z (nM (q:=12) Z T.1 (by have m:=T.2;have n:=cm;(try simp only[zA1]at m n⊢);omega)) Z Z Z iU ⟨bS.1,(by have m:=bS.2;have n:=eh;have q2:=ei;(try simp only[zA1]at m n q2⊢);omega)⟩) Z ?_;refine aB (dU Z (AZ (q:=12) (j:=11) Z Z T bS) Z) Z<|aB (tH Z Z) Z<|aO ?_;refine eN h Z (λh=>?_) λh=>?_
    ·refine aL<|kU (B:=AU) (λaw=>wY y b a a4 t aw=some r) (λaw a8=>[(8,vP e9),(13,vI ((at' (at' y.2 ((at' b a.1).2.1)) ((at' b a.1).2.2)).1)),(14,vI (t))]) (λaw a8=>[b0,bm,M,a5,O,N,ac,gN bM.raw au.1 a8,a6,bl]) (λaw a8=>[AD aN a8 aw,bo,K,L,ah,Sl aN v2 y.1,I,J,ak,aj,Sl cD G b,bn]) ?_ ?_
     ·refine aU<|bU Z<|dQ 0 Z<|cC Z<|aO ?_;refine eN h Z (λh=>?_) λh=>?_
      ·refine sW [0,1,0,7,15,0,32,0,128,0,896,1920,0,8064,16256,32640,65408,131071,262143] 17 mixedOrders ?_;refine cH Z<|fO 1 Z<|aV Z<|cU h λab h=>a_ (dG (gA (i:=9) (q:=10) (j:=10) Z Z Z)) λev=>gC Z (dW Z Z ev Z Z ab)<|a_ (dX 10 Z) λew=>a_ (aW (FZ Z)) λex=>aY Z (aZ.cons 9 Z .nil) .nil (gW 0 Z Z (ew.trans ex) Z Z ab) aJ.z<|cH Z<|fO 0 Z<|cH Z<|fO 1 Z<|aV Z<|cU h λv h=>a_ (dG (gM (i:=11) (q:=12) (j:=11) Z Z Z)) λey=>gC Z (dW Z Z ey Z Z v)<|a_ (jY 12 Z) λez=>a_ (aW (yA Z)) λeA=>aY Z (aZ.cons 11 Z .nil) .nil (gW 0 Z Z (ez.trans eA) Z Z v) aJ.z<|aV Z<|cU h λQ h=>a_ (dG (yG (q:=12) (j:=11) Z Z v.1 v.2)) λeB=>?_;refine gC Z (dW Z Z eB Z Z Q)<|a_ (aW (yA Z)) λcq=>?_;refine a_ (jV (k:=((at' (at' y.2 ((at' b a.1).2.1)) ((at' b a.1).2.2)).1)) 12 Z ⟨v.1,(by have m:=v.2;have n:=cq;(try simp only[zA1]at m n⊢);omega)⟩) λeC=>?_;refine a_ (aW (bR (yA Z) v.1 v.2)) λeE=>?_;refine aY Z (aZ.cons 12 Z .nil) .nil (cK (f:=λx=>x) Z (nM (q:=0) Z v.1 (by have m:=v.2;have n:=cq;(try simp only[zA1]at m n⊢);omega)) Z Z Z iU ⟨Q.1,(by have m:=Q.2;have n:=eC;have q2:=eE;(try simp only[zA1]at m n q2⊢);omega)⟩) aJ.z<|cU h λa3 h=>a_ (dG (AZ (q:=12) (j:=11) Z Z v Q)) λeH=>gC Z (dW Z Z eH Z Z a3)<|a_ (aW (yA Z)) λeJ=>?_;refine a_ (aW (bR (yA Z) v.1 v.2)) λeK=>?_;refine a_ (aW (bR (bR (yA Z) v.1 v.2) Q.1 Q.2)) λeP=>?_;refine aY Z (aZ.cons 12 Z .nil) .nil (cK (f:=λx=>x) Z (JP (q:=0) Z ⟨v.1,(by have m:=v.2;have n:=eJ;(try simp only[zA1]at m n⊢);omega)⟩ ⟨Q.1,(by have m:=Q.2;have n:=eK;(try simp only[zA1]at m n⊢);omega)⟩) Z Z Z iU ⟨a3.1,(by have m:=a3.2;have n:=eP;(try simp only[zA1]at m n⊢);omega)⟩) aJ.z ?_;refine bP 17 Z Z<|cU h λc6 h=>aB (bN Z Z (Gu (q:=10) (j:=10) Z Z ab.1 ab.2) Z Z c6) Z ?_;refine bF (Know.one ((bR (bR (bR (yA Z) v.1 v.2) Q.1 Q.2) a3.1 a3.2))) λc1=>?_;refine bF (aW (FZ Z)) λeQ=>?_;refine bF (aW (bR (FZ Z) ab.1 ab.2)) λeS=>?_;refine bW (cJ (iM (Int.toNat ((at' b a.1).2.1)) (FZ Z) (iM (Int.toNat ((at' b a.1).2.2)) (bR (FZ Z) ab.1 ab.2) (bR (bR (bR (yA Z) v.1 v.2) Q.1 Q.2) a3.1 a3.2)))) ?_;refine yR (yS (us:=[at' (at' (at' g.2.2.1 ((at' (at' y.2 ((at' b a.1).2.1)) ((at' b a.1).2.2)).1)) t) (0:Int)]) (o:=0) (q:=1) (k:=((at' b a.1).2.1)) 10 (at' (at' (at' g.2.2.1 ((at' (at' y.2 ((at' b a.1).2.1)) ((at' b a.1).2.2)).1)) t) (0:Int)) ⟨ab.1,(by have m:=ab.2;have n:=eQ;(try simp only[zA1]at m n⊢);omega)⟩ ⟨c6.1,(by have m:=c6.2;have n:=eS;(try simp only[zA1]at m n⊢);omega)⟩ Z Z Z Z (by rw[iY c1]) Z Z Z (gJ c1 Z) Z) λf4=>?_;refine aO ?_;exact cI (List.set a.2.2.1 (Int.toNat ((at' b a.1).2.1)) (List.set (at' a.2.2.1 ((at' b a.1).2.1)) (Int.toNat ((at' b a.1).2.2)) (at' (at' (at' a.2.2.2 ((at' (at' y.2 ((at' b a.1).2.1)) ((at' b a.1).2.2)).1)) t) (0:Int)))) (List.set g.1 (Int.toNat ((at' b a.1).2.1)) (List.set (at' g.1 ((at' b a.1).2.1)) (Int.toNat ((at' b a.1).2.2)) (at' (at' (at' g.2.2.1 ((at' (at' y.2 ((at' b a.1).2.1)) ((at' b a.1).2.2)).1)) t) (0:Int)))) h SF (aZ.ix [1,4,5,6,7,8,9,10,11,12] Z Z) (iN [0,1,2,3,4,5,6,7,8,9,10,12] Z)
      refine cL ?_;exact cI (a.2.2.1) (g.1) h SF (aZ.ix [1,4,5,6,7,8,9,10,11,12] Z Z) (iN [10,0,1,2,3,4,5,6,7,8,9,11] Z)
     intro aw a8 h;refine sW [0,1,0,7,15,0,0,64,0,448,960,0,4032,8128,16320,32767,65535] 15 mixedOrders ?_;refine cH Z<|fO 0 Z<|aV Z<|cU h λaa h=>a_ (dG (gM (i:=8) (q:=9) (j:=11) Z Z Z)) λej=>gC Z (dW Z Z ej Z Z aa)<|a_ (jY 9 Z) λek=>a_ (aW (yA Z)) λel=>aY Z (aZ.cons 8 Z .nil) .nil (gW 0 Z Z (ek.trans el) Z Z aa) aJ.z<|aV Z<|cH Z<|fO 0 Z<|aV Z<|cU h λD h=>a_ (dG (gM (i:=8) (q:=9) (j:=11) Z Z Z)) λem=>gC Z (dW Z Z em Z Z D)<|a_ (jY 9 Z) λen=>a_ (aW (yA Z)) λeo=>aY Z (aZ.cons 8 Z .nil) .nil (gW 0 Z Z (en.trans eo) Z Z D) aJ.z<|aV Z<|cU h λan h=>a_ (dG (yG (q:=9) (j:=11) Z Z D.1 D.2)) λep=>?_;refine gC Z (dW Z Z ep Z Z an)<|a_ (aW (yA Z)) λcn=>?_;refine a_ (jV (k:=((at' (at' y.2 ((at' b a.1).2.1)) ((at' b a.1).2.2)).1)) 9 Z ⟨D.1,(by have m:=D.2;have n:=cn;(try simp only[zA1]at m n⊢);omega)⟩) λeq=>?_;refine a_ (aW (bR (yA Z) D.1 D.2)) λer=>?_;refine aY Z (aZ.cons 9 Z .nil) .nil (cK (f:=λx=>x) Z (nM (q:=0) Z D.1 (by have m:=D.2;have n:=cn;(try simp only[zA1]at m n⊢);omega)) Z Z Z iU ⟨an.1,(by have m:=an.2;have n:=eq;have q2:=er;(try simp only[zA1]at m n q2⊢);omega)⟩) aJ.z<|cU h λdn h=>aY Z (aZ.cons 9 Z .nil) (fN 11 Z) (Ve Z Z (AZ (q:=0) (j:=0) Z Z D an) Z Z dn) aJ.z<|bP 15 Z Z<|cU h λbk h=>aB (bN Z Z (yG (q:=9) (j:=11) Z Z aa.1 aa.2) Z Z bk) Z ?_;refine bF (jY 9 Z) λfL=>bF (aW (yA Z)) λco=>?_;refine bF (jV (k:=((at' (at' y.2 ((at' b a.1).2.1)) ((at' b a.1).2.2)).1)) 9 Z ⟨D.1,(by have m:=D.2;have n:=co;(try simp only[zA1]at m n⊢);omega)⟩) λes=>?_;refine bW (Cs (k:=((at' (at' y.2 ((at' b a.1).2.1)) ((at' b a.1).2.2)).1)) 9 Z ⟨D.1,(by have m:=D.2;have n:=co;(try simp only[zA1]at m n⊢);omega)⟩) ?_;refine bF (aW (bR (yA Z) D.1 D.2)) λet=>?_;refine bW (cJ (bR (bR (yA Z) D.1 D.2) an.1 an.2)) ?_;refine bW (BO (k:=t) 1 Z ⟨an.1,(by have m:=an.2;have n:=et;(try simp only[zA1]at m n⊢);omega)⟩) ?_;refine bF (aW (cA Z)) λeu=>bW (cJ (Ib (Int.toNat (1:Int)) (cA Z)))<|bW (Vb 0 Z eu dn)<|bF (vM (c_ (i:=0) (j:=0) Z Z)) λc0=>bF (aW (aF.fact 13 Z)) λbC=>?_;refine bF (aW (bR (aF.fact 13 Z) aa.1 aa.2)) λcp=>?_;refine bW (cJ (iM (Int.toNat ((at' (at' y.2 ((at' b a.1).2.1)) ((at' b a.1).2.2)).1)) (aF.fact 13 Z) (iM (Int.toNat t) (bR (aF.fact 13 Z) aa.1 aa.2) (cA Z)))) ?_;refine bW (BM (k:=t) 2 0 Z Z Z ⟨bk.1,(by have m:=bk.2;have n:=bC;have q2:=cp;(try simp only[zA1]at m n q2⊢);omega)⟩) ?_;refine yR (pK (us:=[slq (at' (at' g.2.1 ((at' (at' y.2 ((at' b a.1).2.1)) ((at' b a.1).2.2)).1)) t) (Int.toNat (1:Int)) e6 1]) (o:=0) (q:=1) 0 (slq (at' (at' g.2.1 ((at' (at' y.2 ((at' b a.1).2.1)) ((at' b a.1).2.2)).1)) t) (Int.toNat (1:Int)) e6 1) ⟨bk.1,(by have m:=bk.2;have n:=bC;have q2:=cp;have q3:=es;(try simp only[zA1]at m n q2 q3⊢);omega)⟩ Z Z Z Z (by rw[show(slq (at' (at' g.2.1 ((at' (at' y.2 ((at' b a.1).2.1)) ((at' b a.1).2.2)).1)) t) (Int.toNat (1:Int)) ((at' (at' a.2.2.2 ((at' (at' y.2 ((at' b a.1).2.1)) ((at' b a.1).2.2)).1)) t).length) 1).cells = #[slq (at' (at' g.2.1 ((at' (at' y.2 ((at' b a.1).2.1)) ((at' b a.1).2.2)).1)) t) (Int.toNat (1:Int)) ((at' (at' a.2.2.2 ((at' (at' y.2 ((at' b a.1).2.1)) ((at' b a.1).2.2)).1)) t).length) 1]from iY c0]) Z Z Z (gJ c0 Z) Z) λf3=>?_;refine bW (Dk (k:=((at' (at' y.2 ((at' b a.1).2.1)) ((at' b a.1).2.2)).1)) (vs:=d.2.2.2.2.2.2.1) (wss:=g.2.1) (xsss:=g.2.2.1) (i':=10) (j':=0) 11 0 1 Z Z Z Z Z Z Z ⟨aa.1,(by have m:=aa.2;have n:=bC;(try simp only[zA1]at m n⊢);omega)⟩) ?_;refine fJ ?_;exact mW (a.2.1,(List.set a.2.2.2 (Int.toNat ((at' (at' y.2 ((at' b a.1).2.1)) ((at' b a.1).2.2)).1)) (List.set (at' a.2.2.2 ((at' (at' y.2 ((at' b a.1).2.1)) ((at' b a.1).2.2)).1)) (Int.toNat t) (List.drop (Int.toNat (1:Int)) (at' (at' a.2.2.2 ((at' (at' y.2 ((at' b a.1).2.1)) ((at' b a.1).2.2)).1)) t)))),aw) (ai,(List.set g.2.1 (Int.toNat ((at' (at' y.2 ((at' b a.1).2.1)) ((at' b a.1).2.2)).1)) (List.set (at' g.2.1 ((at' (at' y.2 ((at' b a.1).2.1)) ((at' b a.1).2.2)).1)) (Int.toNat t) (slq (at' (at' g.2.1 ((at' (at' y.2 ((at' b a.1).2.1)) ((at' b a.1).2.2)).1)) t) (Int.toNat (1:Int)) e6 1))),(List.set g.2.2.1 (Int.toNat ((at' (at' y.2 ((at' b a.1).2.1)) ((at' b a.1).2.2)).1)) (List.set (at' g.2.2.1 ((at' (at' y.2 ((at' b a.1).2.1)) ((at' b a.1).2.2)).1)) (Int.toNat t) (List.drop (Int.toNat (1:Int)) (at' (at' g.2.2.1 ((at' (at' y.2 ((at' b a.1).2.1)) ((at' b a.1).2.2)).1)) t)))),a8) h (.inr Z) (Hi.r0 Z) Z (aZ.ix [1,2,3,4,5,6,7,8,9] Z Z) (iN [4,5,6,7,8,9,10,11,12,13,3,0] Z)
    refine eM ?_;exact mW (a.2.1,a.2.2.2,a.2.2.1) (ai,g.2.1,g.2.2.1,g.1) h (.inr Z) (Hi.r0 Z) Z (aZ.ix [4,5,6,7,8,9,10,11,12] Z Z) (aI.refl _ _)
   intro aD ag h;unfold pV at h;refine fJ<|lL<|aQ<|aA Z<|cP Z<|aC Z<|aO ?_;exact xY ((wI .i64 (a.1+(1:Int))),aD.1,aD.2.2,aD.2.1) (ag.2.2.2,ag.2.1,ag.2.2.1,ag.1) h SF Z
  refine fG ?_;exact cI (a.2.1,a.2.2.1,a.2.2.2) (g.1,g.2.1,g.2.2.1,ai) h SF (aZ.ix [0,1,2,5,6,7,8] Z Z) (aI.refl _ _)
 intro az R h;let dA:=wK bM.raw aq R.2.1 R.2.2.1;unfold CB at h;refine aU<|dM 2 Z<|bF (vM (c_ (i:=0) (j:=0) Z Z)) λfg=>bF (vM (gA (i:=3) (q:=4) (j:=10) Z Z Z)) λfh=>bF (vM (gM (i:=5) (q:=6) (j:=11) Z Z Z)) λfi=>cG 1 (vs:=[d.1,d.2.1,d.2.2.1]) Z Z (gJ fg (gJ fh (gJ fi Z))) Z Z Z<|aC Z<|aO<|aR<|bW (fQ 0 Z (c_ (i:=0) (j:=0) Z Z))<|bW (sU [ac,gN bM.raw au.1 R.1] [dB,a5,a6,dA] (aZ.ix [2,3,0,1,4,5] Z Z) (gA (i:=0) (q:=1) (j:=11) Z Z Z))<|bW (sU [a6,dA] [dB,a5] (aZ.ix [2,3,0,1] Z Z) (gM (i:=0) (q:=1) (j:=13) Z Z Z)) ?_;cases h;exact hZ (d.1,(List.zip R.2.2.2 az.1),d.2.1,(Z3 au.1 R.1 az.2.1),ap,(Z4 aq R.2.1 R.2.2.1 az.2.2)) Z Z (RV.cell 0 Z Z Z Z) (RV.tmp Z) .nil (iN [2,1,0] Z)
end Go.Proofs.YtflciafboapaaaaGreat
namespace Go.Proofs.YtflciafboapaaaaGreat
open Go Go.Sx
theorem afp (p q:bQ) (h:q.length<900):vN 1000 p q=some (decide (p=q)):=by
 unfold vN;by_cases a:p.length=q.length
 ·rw[if_neg (by omega),<-ZP p q a,<-ifB];refine sI (λk b c=> ?_) (λb=> ?_) (by omega)
  ·unfold tO;rw[if_pos (by omega),cF (by omega),cF (by omega),dD (by omega)];by_cases e:at' p (k:Int)=at' q (k:Int)
   ·rw[if_neg (λh=>h e),zA5 e,if_pos Z]
   ·rw[if_pos e,zA3 e,if_neg (by decide)]
  ·unfold tO tM;rw[if_neg (by omega)]
 ·rw[if_pos (by omega),zA3 (λe=>a (by rw[e]))]
theorem aey {g:GR} (hV:VG g) {v i:Nat} (hv:v<g.2.length) (hi:i<(row g v).length):zI 1000 g (v:Int) (i:Int)=some ((GZ g v i:Nat):Int):=by
 have h24:=hV.n24;have hd:=(hV.node v hv).deg;have hul:=(Er hV hv hi).ul;have q1:(at' g.2 (v:Int)).length=(row g v).length:=rfl;have q2:(at' (at' g.2 (v:Int)) (i:Int)).1=((Az g v i:Nat):Int):=Bi hV hv hi;have hdeg:zJ 1000 g (v:Int)=some ((row g v).length:Int):=by
  unfold zJ;rw[bG ((QV g hV.light).1 hV)];unfold xR;rw[if_neg (by simp),wr (by omega) (by omega),iJ,zA5 (by omega),bG Z]
  first|rw[if_neg (by simp),cF (by omega)]|rfl
 unfold zI;rw[bG hdeg,wr (by omega) (by omega),iJ,zA5 (by omega),bG Z,if_neg (by simp),cF (by omega),cF (by omega),q2,bG (HR g _ _ hul (by have:=(hV.node _ hul).deg;omega)),Yv hV hv hi]
section
variable {g:GR} {p:Fz} {R:List RL} {cap:Int} {y:Cr} {l:List (Int×Int×Int)}
theorem SA (a:VG g) (b:jR g p.2.1) (cap:Int) (y:Cr):wQ 1000 p g cap y=some (if 1<=cap/\cap<=8 then(if US g p.2.1 cap y=true then 0 else 7)else 2):=by
 unfold wQ;rw[bG (show pR 1000 _ _=some 0 from XI a b),if_neg (by decide),bG (iJ 1000 _ _ _)];by_cases h:1<=cap/\cap<=8
 ·rw[zA5 h,if_neg (by decide),if_pos h,bG (show wP 1000 _ _ _ _=_ from Zr a b cap y)];cases US g p.2.1 cap y<;>rfl
 ·rw[zA3 h,if_neg h];rfl
theorem afi (f:VG g) (e:Int×Int×Int):q_ 1000 g e=some (HL g e):=by
 have j:=f.n24;obtain⟨k,v,i⟩:=e;unfold q_ HL;simp only;rw[bG (iJ 1000 _ _ _)];by_cases a:1<=k/\k<=4
 rotate_left
 ·rw[zA3 a,zA3 (λh=>a h.1)];rfl
 rw[zA5 a,if_pos Z,wr (by omega) (by omega),bG (iJ 1000 _ _ _)];by_cases b:0<=v/\v<(g.2.length:Int)
 rotate_left
 ·rw[zA3 (by omega),zA3 (λh=>b h.2.1)];rfl
 rw[zA5 (show 0<=v/\v<=(g.2.length:Int) - 1 by omega),if_pos Z];obtain⟨w,rfl⟩:∃w:Nat,v=(w:Int):=⟨v.toNat,by omega⟩
 have m:=(f.node w (by omega)).deg;have n:(at' g.2 (w:Int)).length=(row g w).length:=rfl;by_cases c:k=1
 ·rw[if_pos c,zA5 ⟨a,b,.inl c⟩];rfl
 rw[if_neg c,cF b,wr (by omega) (by omega),bG (iJ 1000 _ _ _)];unfold lD;by_cases d:0<=i/\i<((at' g.2 (w:Int)).length:Int)
 ·rw[zA5 (show 0<=i/\i<=((at' g.2 (w:Int)).length:Int) - 1 by omega),zA5 ⟨a,b,.inr d⟩]
 ·rw[zA3 (by omega),zA3 (λh=>by rcases h.2.2 with h|h;exact c h;exact d h)]
theorem abr (d:VG g) (h:jR g p.2.1) (e:JS p g R) (j:p.2.2.map AE=FQ R) (f:pA p.2.1.length R=true) {c:List (List Int)} (a:Wc g c p.2.1) {v:Nat} (i:v<g.2.length):zM 1000 p g c (v:Int)=some (if 0<=AP (eB p g) R c v then(NK (eB p g) p.2.1 R c v (AP (eB p g) R c v),0)else([],11)):=by
 have k:=d.n24;have m:=a.len;unfold zM;rw[bG (show mG 1000 _ _ _=some 0 from adj d h a),if_neg (by decide),wr (by omega) (by omega),bG (iJ 1000 _ _ _),zA5 (by omega),if_neg (by decide),bG (show nQ 1000 _ _ c (v:Int)=_ from XG e a i j f)];by_cases b:0<=AP (eB p g) R c v
 ·rw[if_neg (by omega),if_pos b,bG (show zN 1000 _ _ c (v:Int)=_ from aff d h e a i j f b)]
 ·rw[if_pos (by omega),if_neg b]
theorem Yy (hV:VG g) (hp:jR g p.2.1) (hA:JS p g R) (hz:p.2.2.map AE=FQ R) (hR:pA p.2.1.length R=true) (hcap:1<=cap/\cap<=8) (h:VY g p.2.1 cap.toNat y) {k:Nat} (hk:k<l.length) (hl:l.length<=900) (hb:HL g (at' l (k:Int))=true) (ag:Int×Cr->Option (Cr×Int)):
  jM 1000 p g cap l ((k:Int),y) ag=ag (((k+1:Nat):Int),Es g (Ho (eB p g) p.2.1 R) cap.toNat y (Zw (at' l (k:Int)))):=by
 have h24:=hV.n24;have hvl:=hp.len;have lc:=h.sh.c;have la:=h.sh.a.len;have lw:=h.sh.w.len;obtain⟨e,he⟩:∃e,at' l (k:Int)=e:=⟨_,rfl⟩
 rw[he]at hb;obtain⟨ek,ev,ei⟩:=e;obtain⟨hb1,hb2,hb3⟩:=zB2 hb;simp only at hb1 hb2 hb3;obtain⟨v,rfl⟩:∃v:Nat,ev=(v:Int):=⟨ev.toNat,by omega⟩
 have hv:v<g.2.length:=by omega
 have hdeg:=(hV.node v hv).deg;have hrow:at' g.2 (v:Int)=row g v:=rfl;have rc:=h.rowc hv;have ra:=h.sh.a.row v hv;have rw':=h.sh.w.row v hv;have fin:∀c ca wi,pV ((k:Int),y) ag (c,wi,ca)=ag (((k+1:Nat):Int),c,ca,wi):=λc ca wi=>by
  unfold pV;show ag (wI .i64 ((k:Int)+1),c,ca,wi)=_;rw[dD (by omega)]
 unfold jM;simp only[he];rw[if_pos (by omega),cF (by omega)];by_cases hk1:ek=1
 ·subst hk1;rw[if_pos Z,bG (Xm y.1 (by omega) λx hx=>by rw[h.rowc (by omega)];omega)];have hev:Zw ((1:Int),(v:Int),ei)=(1,v,ei.toNat):=rfl;rw[hev];have hvw:=Tx hV h.sh hv h.all;have hcw:=Yw hvw.1 hvw.2;refine(Ob (s:=Aa 1000 p g l ((k:Int),y) ag) (K:=zZ 1000 p g l ((k:Int),y) ag) hV h.sh hv (λi c ag2 hi hcl=> ?_) (λc ag2 hcl=> ?_)).trans ?_
  ·have hto:=Bi hV hv hi;have hul:=(Er hV hv hi).ul;have hra:=h.rowa hV hv hi;have hl1:at' (row g v) (i:Int)=jP (row g v) i:=rfl;have e1:at' (at' y.2.1 (v:Int)) (i:Int)=rI y.2.1 v i:=rfl;unfold Aa;simp only[he,hrow,hl1,hto,e1];rw[cF (by omega),if_pos (by omega),cF (by omega),cF (by omega),cF (by omega),cF (by omega),cF (by simp;omega),cF (by omega),dD (by omega),zAi,zBb]
  ·unfold Aa;simp only[he,hrow];rw[cF (by omega),if_neg (by omega)]
  ·unfold zZ EZ zY;simp only[he];rw[bG (show zM 1000 _ _ (vw g y v) (v:Int)=_ from abr hV hp hA hz hR hcw hv)];show _=ag (_,Ox g (Ho (eB p g) p.2.1 R) y v);unfold Ox Ho;by_cases h0:0<=AP (eB p g) R (vw g y v) v
   ·rw[if_pos h0,if_pos h0,if_pos Z,cF (by omega),zAi];exact fin _ _ _
   ·rw[if_neg h0,if_neg h0,if_neg (by decide)];refine(fin _ _ _).trans ?_;have e1:at' (vw g y v) (v:Int)=at' y.1 (v:Int):=PN hV h.sh hv _ (zAe _);rw[e1,Ki y.1 (by omega)]
 rw[if_neg hk1];obtain⟨i1,i2⟩:=hb3.resolve_left hk1;rw[hrow]at i2;obtain⟨i,rfl⟩:∃i:Nat,ei=(i:Int):=⟨ei.toNat,by omega⟩
 have hi:i<(row g v).length:=by omega
 have hev:Zw (ek,(v:Int),(i:Int))=(ek.toNat,v,i):=rfl;rw[hev];have hwl:=h.cp v i hv hi;have e2:at' (at' y.2.2 (v:Int)) (i:Int)=rI y.2.2 v i:=rfl;simp only[e2];by_cases hk2:ek=2
 ·subst hk2;rw[if_pos Z,cF (by omega),cF (by omega)];show _=ag (_,Dw cap.toNat y v i);unfold Dw z_;by_cases hc:(rI y.2.2 v i).length<cap.toNat
  ·rw[if_pos (show((rI y.2.2 v i).length:Int)<cap by omega),if_pos hc,cF (by omega),cF (by omega),cF (by omega),cF (by omega),cF (by simp;omega),cF (by simp;omega),cF (by omega),zAi,zAi,zBb];exact fin _ _ _
  ·rw[if_neg (show¬((rI y.2.2 v i).length:Int)<cap by omega),if_neg hc];exact fin _ _ _
 rw[if_neg hk2];have hto:=Bi hV hv hi;have hpb:=Er hV hv hi;have hul:=hpb.ul;have hbl:=hpb.bl;have hdu:=(hV.node (Az g v i) hul).deg;have hwu:=h.sh.w.row (Az g v i) hul;have hl1:at' (row g v) (i:Int)=jP (row g v) i:=rfl;have e3:at' (at' y.2.2 ((Az g v i:Nat):Int)) ((GZ g v i:Nat):Int)=rI y.2.2 (Az g v i) (GZ g v i):=rfl;simp only[hrow,hl1,hto];rw[cF (by omega),cF (by omega),bG (show zI 1000 _ (v:Int) (i:Int)=_ from aey hV hv hi),cF (by omega),cF (by omega)];simp only[e3];have hpf:Es g (Ho (eB p g) p.2.1 R) cap.toNat y (ek.toNat,v,i)=y_ g (decide (ek=3)) y v i:=by
  unfold Es;rw[if_neg (show¬ek.toNat=1 by omega),if_neg (show¬ek.toNat=2 by omega)];show y_ g (decide (ek.toNat=3)) y v i=_;by_cases q:ek=3
  ·subst q;rfl
  ·rw[zA3 q,zA3 (by omega)]
 rw[hpf];obtain⟨wl,hw⟩:∃wl,wl=rI y.2.2 (Az g v i) (GZ g v i):=⟨_,rfl⟩
 cases wl with
 |nil=>
  rw[if_neg (by rw[<-hw];simp),Qw hw];exact fin _ _ _
 | cons s r =>
  have hl:(rI y.2.2 (Az g v i) (GZ g v i)).length=r.length+1:=by rw[<-hw];rfl
  rw[if_pos (by omega),NC hw];have k10:∀ca,wY g l ((k:Int),y) ag (GZ g v i:Int) ca=ag (((k+1:Nat):Int),y.1,ca,HT y.2.2 (Az g v i) (GZ g v i) r):=λca=>by
   unfold wY;simp only[he,hrow,hl1,hto,e3,<-hw];rw[cF (by omega),cF (by omega),cF (by omega),cF (by simp;omega),cF (by omega),zAi,zAi];exact fin _ _ _
  have hs:at' (rI y.2.2 (Az g v i) (GZ g v i)) 0=s:=by rw[<-hw];rfl
  by_cases q:ek=3
  ·subst q;rw[if_pos Z,cF (by omega),cF (by omega),cF (by omega),cF (by omega),cF (by omega),k10,zAi,zAi,hs];rfl
  ·rw[if_neg q,k10,zA3 q];rfl
theorem QU (f:VG g) (u:jR g p.2.1) (C:JS p g R) (I:p.2.2.map AE=FQ R) (A:pA p.2.1.length R=true) (i:1<=cap/\cap<=8) (h:VY g p.2.1 cap.toNat y) (F:l.length<=900) (t:∀j,j<l.length->HL g (at' l (j:Int))=true):
  r_ 1000 p g cap y l 0=some (perfs g (Ho (eB p g) p.2.1 R) cap.toNat y l,0):=by
 have B:=f.n24;have x:=u.len;have J:=h.sh.a.len;have L:=h.sh.w.len;unfold r_;rw[if_neg (by decide),bG (Xm y.1 (by rw[h.sh.c];omega) λv n=>by rw[h.rowc (by rw[<-h.sh.c];exact n)];omega)];refine(J_ (cp:=nJ 1000) (s3:=sA 1000 p g cap y l y.1) (s4:=λa d r=>Ab 1000 y a d r) (K:=wZ 1000 p g cap l y.1) f h (by omega) x (λc a b=>Xm c a b) (λk s z d e m D=> ?_) (λs z d=> ?_) (λk j s z d r b o e m E t=> ?_) (λk s z d r b o e m G=> ?_)).trans ?_
 ·unfold sA;dsimp only;rw[if_pos (by omega),cF (by omega)];refine congrArg (Option.bind _) (funext λr=> ?_);rw[cF (by simp;omega)]
 ·unfold sA;dsimp only;rw[if_neg (by omega)]
 ·unfold Ab;dsimp only;rw[cF (by omega),if_pos (by omega),cF (by omega),cF (by omega)];refine congrArg (Option.bind _) (funext λq=> ?_);have:j<1000000:=by
   have n:k<g.2.length:=by omega
   have:=h.sh.w.row k n;have:=(f.node k n).deg;omega
  rw[cF (by simp;omega),dD this]
 ·unfold Ab DU;dsimp only;rw[cF (by omega),if_neg (by omega),cF (by simp;omega),dD (by omega)]
 ·unfold wZ Cz;have:=dJ (step:=jM 1000 p g cap l) (K:=some (perfs g (Ho (eB p g) p.2.1 R) cap.toNat y l,0)) l.length (λk=>((k:Int),perfs g (Ho (eB p g) p.2.1 R) cap.toNat y (l.take k))) (λk d e=>by
   have H:=VY.perfs f h (Tb (R:=R) u A) l k (by omega) (λj E=>t j (by omega));rw[Yy f u C I A i H e F (t k e) d,HP e]) (λd=>by
   unfold jM CB;dsimp only;rw[if_neg (by omega),zB3]) 1000 (by omega)
  exact this
theorem Pg (j:VG g) (o:l.length<=900) (cap:Int) (y:Cr):bJ (iX 1000 p g cap y l) 1000 ((0:Int),(0:Int))=r_ 1000 p g cap y l (if Df l.length (λk=>HL g (at' l (k:Int)))=true then 0 else 2):=by
 have c:∀(k:Nat) a,k<l.length->iX 1000 p g cap y l ((0:Int),(k:Int)) a=if HL g (at' l (k:Int))=true then a (0,((k+1:Nat):Int))else a (2,((k+1:Nat):Int)):=λk a d=>by
  unfold iX qD w_;dsimp only;rw[if_pos (by omega),if_pos (show decide ((0:Int)=0)=true from rfl),cF (by omega),bG (show q_ 1000 _ _=_ from afi j (at' l (k:Int))),dD (by omega)];cases HL g (at' l (k:Int))<;>rfl
 have f:∀(x:Int) a,iX 1000 p g cap y l ((2:Int),x) a=r_ 1000 p g cap y l 2:=λx a=>by
  unfold iX qD;dsimp only;split<;>rfl
 by_cases b:Df l.length (λk=>HL g (at' l (k:Int)))=true
 ·rw[if_pos b];have b:=nZ.1 b;refine dJ (step:=iX 1000 p g cap y l) l.length (λk=>((0:Int),(k:Int))) (λk a d=>by rw[c k a d,if_pos (b k d)]) (λa=> ?_) 1000 (by omega);unfold iX qD;dsimp only;rw[if_neg (by omega)];rfl
 ·rw[if_neg b];obtain⟨m,n,h,i⟩:=Lm b;refine dJ (step:=iX 1000 p g cap y l) (m+1) (λk=>(if k<=m then(0:Int)else 2,(k:Int))) (λk a d=> ?_) (λa=> ?_) 1000 (by omega)
  ·rw[if_pos (show k<=m by omega),c k a (by omega)];by_cases e:k=m
   ·subst e;rw[if_neg (by rw[h];decide),if_neg (by omega)]
   ·rw[if_pos (i k (by omega)),if_pos (by omega)]
  ·rw[if_neg (by omega)];exact f _ a
theorem adU (d:VG g) (j:jR g p.2.1) (m:JS p g R) (q:p.2.2.map AE=FQ R) (n:pA p.2.1.length R=true) (cap:Int) (y:Cr) (i:l.length<=900):BR 1000 p g cap y l=some (LZ g p.2.1 (Ho (eB p g) p.2.1 R) cap y l):=by
 have a:∀z:Int,z≠0->rZ 1000 p g cap y l z=some (Fo,z):=λz e=>by
  unfold rZ;have s:∀f,iX 1000 p g cap y l (z,0) f=some (Fo,z):=λf=>by
   unfold iX qD r_;dsimp only;rw[zA3 e];split<;>rw[if_neg (by decide)]
  exact s _
 unfold BR LZ;rw[bG (show wQ 1000 _ _ _ _=_ from SA d j cap y)];unfold BG;by_cases c:1<=cap/\cap<=8
 rotate_left
 ·rw[if_neg c,if_neg c,if_neg (by decide),if_neg (by decide)];exact a 2 (by decide)
 rw[if_pos c,if_pos c];cases o:US g p.2.1 cap y
 ·rw[if_neg (by decide),if_neg (by decide),if_neg (by decide),if_neg (by decide)];exact a 7 (by decide)
 obtain⟨_,h⟩:=KZ.1 o;rw[if_pos Z,if_pos Z,if_neg (by rw[zAa];omega),if_pos Z];unfold rZ;rw[Pg d i cap y];by_cases b:Df l.length (λk=>HL g (at' l (k:Int)))=true
 ·rw[if_pos b,if_pos b];exact QU d j m q n c h i (nZ.1 b)
 ·rw[if_neg b,if_neg b];rfl
end
theorem FS (x:Int) (l:bQ):h_ (x::l)=if nz x=true then 0 else if h_ l<0 then -1 else h_ l+1:=by
 unfold h_;rw[List.findIdx?_cons];cases h:nz x with
 |true=>simp
 |false=>
  cases a:l.findIdx? nz with
  |none=>simp
  |some i=>simp<;>omega
theorem Hl (d:bQ):∀c:bQ,h_ (c++d)=if 0<=h_ c then h_ c else if 0<=h_ d then(c.length:Int)+h_ d else -1
 | [] => by
  have:h_ [] = -1:=rfl;rw[zBb,this,if_neg (by decide)];have h:h_ d = -1\/0<=h_ d:=by
   unfold h_;cases d.findIdx? nz with
   |none=>exact .inl Z
   |some i=>exact .inr (by simp)
  split
  ·simp
  ·exact h.resolve_right (by assumption)
 | x :: c => by
  have e:=Hl d c;rw[List.cons_append,FS,FS,e,zA9];have f : -1<=h_ c:=by
   unfold h_;cases c.findIdx? nz with
   |none=>exact Int.le_refl _
   |some i=>simp<;>omega
  generalize h_ c=A at *
  generalize h_ d=B at *
  push_cast
  cases nz x with
  |true=>simp
  | false =>
   simp only[Bool.false_eq_true,if_false];by_cases a:0<=A
   ·simp only[if_pos a,if_neg (show¬A<0 by omega),if_pos (show 0<=A+1 by omega)]
   ·simp only[if_neg a,if_pos (show A<0 by omega),if_neg (show¬(0:Int) <= -1 by decide)];by_cases b:0<=B
    ·simp only[if_pos b];rw[if_neg (by omega)];omega
    ·simp only[if_neg b];rfl
def Lk (g:GR) (v i u:Nat) (w:Int):Prop:=i<(row g v).length/\u<g.2.length/\(jP (row g v) i).1=(u:Int)/\(jP (row g v) i).2=w
inductive Wv (g:GR) (F:Int->Int->Int):Nat->Int->Prop
 |zero:Wv g F 0 0
 |link {u v i:Nat} {y w:Int} (h:Wv g F u y) (hv:v<g.2.length) (hl:Lk g v i u w):Wv g F v (F y w)
noncomputable def lst (g:GR) (F:Int->Int->Int) (v:Nat):Int:=open Classical in if h:∃y,Wv g F v y/\∀z,Wv g F v z->y<=z then Classical.choose h else 0
section
variable {g:GR} {F:Int->Int->Int} {L:Int}
def ach (f:Nat->Int) (x:Int):Nat->Nat
 |0=>0
 |n+1=>ach f x n+if f n<x then 1 else 0
noncomputable def rk (g:GR) (F:Int->Int->Int) (v:Nat):Nat:=ach (lst g F) (lst g F v) g.2.length
end
noncomputable def LL (g:GR) (F:Int->Int->Int) (v:Nat):bQ:=(List.range (row g v).length).map λi=>F (lst g F (jP (row g v) i).1.toNat) (jP (row g v) i).2
def fB (y _w:Int):Int:=y+1
end Go.Proofs.YtflciafboapaaaaGreat
namespace Go.Proofs.YtflciafboapaaaaGreat
open Go Go.Sx Go.Gx
set_option maxRecDepth 100000
def DK (a:Nat):Option Bool:=some (true)
theorem WP:bB Tryz.prog 16:=Tryz.call16
theorem Xk:okT (JW Ha gp2 4000 16 [] H0)=true:=by kernel_rfl
theorem MM (a:Nat) (r:Bool) (h:DK a=some r):
  bD Tryz.prog 16 #[] [] (λx:Unit=>Value.bool (r)) (λx l=>l) (λ_ l=>l):=by
 obtain rfl:=Option.some.inj h;obtain⟨d,c⟩:=Ym Xk;rw[FM Fb]at c;exact OW XM WP (λf e h=>h.bool_inv) λT b=>Ij (gs:=gl T) ahn c (iD.start b Z) .nil
end Go.Proofs.YtflciafboapaaaaGreat
namespace Go.Proofs.YtflciafboapaaaaGreat
open Go.Sx
def Bz (a:Unit):Option Bool:=
 some (true)
def wV (U:Nat) (c e:bO) (a:Int) (b:(Int)->Option Bool):Option Bool:=
 if a<(c.length:Int)then(ck (0<=a/\a<(c.length:Int)) (ck (0<=a/\a<(e.length:Int)) (Option.bind (vN U (at' c a) (at' e a)) λd=>(if(!d)=true then(some (false))else(b (wI .i64 (a+(1:Int))))))))else(Bz (()))
def vO (U:Nat) (a b:bO):Option Bool:=
 if(a.length:Int)≠(b.length:Int)then(some (false))else(bJ (wV U a b) U (0:Int))
theorem Sr:bB Tryz.prog 38:=Tryz.call38
theorem Fj (U:Nat) {f g:bO} (j:V0) (p:kD) (k:V0) (q:kD) (r:Bool) (h:vO U f g=some r):
  bD Tryz.prog 38 #[j,k] [S2 aN j p f,S2 aN k q g] (λx:Unit=>vB (r)) (λx l=>l) (λ_ l=>l):=by
 refine bD.of Tryz.func38 Z Tryz.ntmps38 Z λc=>?_;refine aU<|aC Z<|aO<|aL<|aU<|aA Z<|aB (dU Z (cA Z) Z) Z<|aA Z<|aB (dU Z (mM Z) Z) Z<|k_ Z<|aO ?_;refine eN h Z (λh=>?_) λh=>?_
 ·refine aU<|aC Z<|aO<|aR<|aG ?_;cases h;exact iZ Z
 refine cL<|aL<|eR (λe=>Bz e=some r) (λe n=>[]) (λe n=>[]) ?_ ?_
 ·refine aU<|aC Z<|aO<|aS<|fI (wV U f g) (λd o=>[(0,j),(1,k),(5,vI (d))]) (λd o=>[]) (0:Int) () h SF (aZ.refl _) ?_;intro t d o h;refine aL<|aU<|aA Z<|aA Z<|aB (dU Z (cA Z) Z) Z<|cV Z<|aO ?_;refine eN h Z (λh=>?_) λh=>?_
  ·refine cL<|aL<|aS<|aL ?_;refine sW [0,0,3,7,0,0,48,112,255,511] 8 mixedOrders ?_;refine aV Z<|aV Z<|cU h λa h=>aY Z .nil (fN 0 Z) (bN Z Z (cA Z) Z Z a) aJ.z<|aY Z .nil (fN 0 Z) (bT Z (cA Z) Z Z a) aJ.z<|aV Z<|aV Z<|cU h λb h=>aY Z .nil (fN 1 Z) (bN Z Z (cA Z) Z Z b) aJ.z<|aY Z .nil (fN 1 Z) (bT Z (cA Z) Z Z b) aJ.z<|bP 8 Z Z<|eT h λi m h=>aK (zBg acW (JG U ((at' p d).1) ((at' q d).1) i m) Z (aI.cons (zBh (cA Z) a.1 a.2) (aI.cons (zBh (mM Z) b.1 b.2) .nil))) Z λs=>aB (kM Z) Z<|aO ?_;refine tC h Z (λ_ h=>?_) λ_ h=>?_
   ·refine aU<|aC Z<|aO<|aR<|bI<|aG<|aG<|bI<|aG ?_;cases h;exact iZ Z
   refine eM<|lL<|aQ<|aA Z<|cP Z<|aC Z<|aO ?_;exact xY (wI .i64 (d+(1:Int))) () h SF Z
  refine fG ?_;exact fT () (()) h SF Z
 intro e n h;unfold Bz at h;refine aU<|aC Z<|aO<|aR ?_;cases h;exact iZ Z
def BI (a:Unit):Option Bool:=
 some (true)
def BJ (b:Int) (a:(Int)->Option Bool) (c:Unit):Option Bool:=
 a (wI .i64 (b+(1:Int)))
def xB (U:Nat) (e f:kJ) (a:Int) (c:(Int)->Option Bool) (b:Int) (d:(Int)->Option Bool):Option Bool:=
 ck (0<=a/\a<(e.2.2.length:Int)) (if b<((at' e.2.2 a).length:Int)then(ck (0<=a/\a<(e.2.2.length:Int)) (ck (0<=b/\b<((at' e.2.2 a).length:Int)) (ck (0<=a/\a<(f.2.2.length:Int)) (ck (0<=b/\b<((at' f.2.2 a).length:Int)) (Option.bind (vO U (at' (at' e.2.2 a) b) (at' (at' f.2.2 a) b)) λg=>(if(!g)=true then(some (false))else(d (wI .i64 (b+(1:Int))))))))))else(BJ a c (())))
def qE (U:Nat) (c d:kJ) (a:Int) (b:(Int)->Option Bool):Option Bool:=
 if a<(c.2.2.length:Int)then(ck (0<=a/\a<(c.2.2.length:Int)) (ck (0<=a/\a<(d.2.2.length:Int)) (if((at' c.2.2 a).length:Int)≠((at' d.2.2 a).length:Int)then(some (false))else(bJ (xB U c d a b) U (0:Int)))))else(BI (()))
def BH (U:Nat) (a b:kJ) (c:Unit):Option Bool:=
 bJ (qE U a b) U (0:Int)
def xC (U:Nat) (c d:kJ) (a:Int) (b:(Int)->Option Bool):Option Bool:=
 if a<(c.2.1.length:Int)then(ck (0<=a/\a<(c.2.1.length:Int)) (ck (0<=a/\a<(d.2.1.length:Int)) (Option.bind (vO U (at' c.2.1 a) (at' d.2.1 a)) λe=>(if(!e)=true then(some (false))else(b (wI .i64 (a+(1:Int))))))))else(BH U c d (()))
def xA (U:Nat) (b c:kJ) (a:Bool):Option Bool:=
 if a=true then(some (false))else(bJ (xC U b c) U (0:Int))
def rX (U:Nat) (a b:kJ):Option Bool:=
 Option.bind (vO U a.1 b.1) λc=>(if(!c)=true then(xA U a b (true))else(if(a.2.1.length:Int)≠(b.2.1.length:Int)then(xA U a b (true))else(xA U a b (decide ((a.2.2.length:Int)≠(b.2.2.length:Int))))))
theorem acL:bB Tryz.prog 17:=Tryz.call17
theorem PD (U:Nat) {j k:kJ} (R:V0) (z1:kD) (W:V0) (z3:IX) (X:V0) (z5:IW) (S:V0) (z7:kD) (Y:V0) (z9:IX) (w:V0) (B:IW) (r:Bool) (h:rX U j k=some r):
  bD Tryz.prog 17 #[Value.agg #[R,W,X],Value.agg #[S,Y,w]] [S2 aN R z1 j.1,S3 aN W z3 j.2.1,S4 aN X z5 j.2.2,S2 aN S z7 k.1,S3 aN Y z9 k.2.1,S4 aN w B k.2.2] (λx:Unit=>vB (r)) (λx l=>l) (λ_ l=>l):=by
 refine bD.of Tryz.func17 Z Tryz.ntmps17 Z λc=>?_;refine aU<|aK (aP.box (cs:=[R,W,X]) Z Z) Z λy=>let i:=bL y [R,W,X] 43;aK (aP.box (cs:=[S,Y,w]) Z Z) Z λA=>let g:=bL A [S,Y,w] 43;aC Z<|aO<|aL<|aL<|eR (λC=>xA U j k C=some r) (λC b5=>[(2,vP y),(3,vP A),(31,vB (C))]) (λC b5=>[g,i]) ?_ ?_
 ·refine aQ<|bU Z<|dQ 1 Z<|bU Z<|dQ 0 Z<|eT h λac af h=>aK (zBg Sr (Fj U R z1 S z7 ac af) Z (iN [0,3] Z)) Z λak=>aB (kM Z) Z<|aA Z ?_;refine tD (by exact rfl) (by exact rfl) (λm=>?_) (λm=>?_)
  ·have h:=Iv m h;refine aM Z<|aM Z<|aM Z<|aM Z<|aM Z<|aM Z<|aM Z<|dR Z<|aA Z<|aM Z<|aM Z<|aM Z<|aM Z<|aM Z<|aM Z<|aM Z<|dR Z<|aO ?_;exact fT (true) () h SF Z
  have h:=FA m h;refine aT Z (cR Z Z Z Z Z) Z<|aT Z (dL 1 Z Z Z Z Z) Z<|aT Z (dU Z (mM Z) Z) Z<|aT Z (cR Z Z Z Z Z) Z<|aT Z (dL 0 Z Z Z Z Z) Z<|aT Z (dU Z (Ek Z) Z) Z<|aT Z (BP Z Z) Z<|eV Z<|aA Z ?_;refine BZ h Z (λ_ h=>?_) λ_ h=>?_
  ·refine aM Z<|aM Z<|aM Z<|aM Z<|aM Z<|aM Z<|aM Z<|dR Z<|aO ?_;exact fT (true) () h SF Z
  refine aT Z (cR Z Z Z Z Z) Z<|aT Z (dL 1 Z Z Z Z Z) Z<|aT Z (dU Z (yP Z) Z) Z<|aT Z (cR Z Z Z Z Z) Z<|aT Z (dL 0 Z Z Z Z Z) Z<|aT Z (dU Z (Di Z) Z) Z<|aT Z (BP Z Z) Z<|eV Z<|aO ?_;exact fT (decide ((j.2.2.length:Int)≠(k.2.2.length:Int))) () h SF Z
 intro C b5 h;refine tC h Z (λ_ h=>?_) λ_ h=>?_
 ·refine aU<|aC Z<|aO<|aR<|aG ?_;cases h;exact nH Z
 refine cL<|aL<|eR (λT=>BH U j k T=some r) (λT b8=>[(2,vP y),(3,vP A)]) (λT b8=>[g,i]) ?_ ?_
 ·refine aU<|aC Z<|aO<|aS<|fI (xC U j k) (λd H=>[(2,vP y),(3,vP A),(5,vI (d))]) (λd H=>[g,i]) (0:Int) () h SF (aZ.refl _) ?_;intro ah d H h;refine aL<|aU<|aA Z<|bU Z<|dQ 1 Z<|aB (dU Z (mM Z) Z) Z<|cV Z<|aO ?_;refine eN h Z (λh=>?_) λh=>?_
  ·refine cL<|aL<|aS<|aL ?_;refine sW [0,1,0,7,15,0,32,0,224,480,1023,2047] 10 mixedOrders ?_;refine cH Z<|fO 1 Z<|aV Z<|cU h λu h=>a_ (dG (mM Z)) λO=>gC Z (dW Z Z O Z Z u)<|aY Z .nil (fN 1 Z) (eI Z (cA Z) Z Z u) aJ.z<|cH Z<|fO 0 Z<|aV Z<|cU h λv h=>a_ (dG (Ek Z)) λP=>gC Z (dW Z Z P Z Z v)<|aY Z .nil (fN 4 Z) (eI Z (cA Z) Z Z v) aJ.z<|bP 10 Z Z<|eT h λab ae h=>aK (zBg Sr (Fj U ((at' z3 d).1) ((at' z3 d).2) ((at' z9 d).1) ((at' z9 d).2) ab ae) Z (aI.cons (cE (mM Z) u.1 u.2) (aI.cons (cE (Ek Z) v.1 v.2) .nil))) Z λaj=>?_;refine aB (kM Z) Z<|aO ?_;refine tC h Z (λ_ h=>?_) λ_ h=>?_
   ·refine aU<|aC Z<|aO<|aR<|bI<|aG<|aG<|bI<|aG ?_;cases h;exact nH Z
   refine eM<|lL<|aQ<|aA Z<|cP Z<|aC Z<|aO ?_;exact xY (wI .i64 (d+(1:Int))) () h SF Z
  refine fG ?_;exact fT () (()) h SF Z
 intro T b8 h;unfold BH at h;refine aL<|eR (λV=>BI V=some r) (λV D=>[]) (λV D=>[]) ?_ ?_
 ·refine aU<|aC Z<|aO<|aS<|fI (qE U j k) (λa E=>[(2,vP y),(3,vP A),(6,vI (a))]) (λa E=>[g,i]) (0:Int) () h SF (aZ.refl _) ?_;intro Q a E h;refine aL<|aU<|aA Z<|bU Z<|dQ 1 Z<|aB (dU Z (yP Z) Z) Z<|cV Z<|aO ?_;refine eN h Z (λh=>?_) λh=>?_
  ·refine cL<|aL<|eR (λn=>BJ a (bJ (qE U j k) Q) n=some r) (λn F=>[(2,vP y),(3,vP A),(6,vI (a))]) (λn F=>[g,i]) ?_ ?_
   ·refine aS<|aL<|aL ?_;refine sW [0,1,0,7,15,31,0,64,0,448,960,1984,4095] 12 mixedOrders ?_;refine cH Z<|fO 1 Z<|aV Z<|cU h λo h=>a_ (dG (yP Z)) λI=>gC Z (dW Z Z I Z Z o)<|aY Z .nil (fN 2 Z) (eI Z (cA Z) Z Z o) aJ.z ?_;refine aY Z .nil (fN 2 Z) (dU Z (cE (cA Z) o.1 o.2) Z) aJ.z ?_;refine cH Z<|fO 0 Z<|aV Z<|cU h λp h=>a_ (dG (Di Z)) λJ=>gC Z (dW Z Z J Z Z p)<|aY Z .nil (fN 5 Z) (eI Z (cA Z) Z Z p) aJ.z ?_;refine aY Z .nil (fN 5 Z) (dU Z (cE (cA Z) p.1 p.2) Z) aJ.z ?_;refine bP 12 Z Z<|k_ Z<|aO ?_;refine eN h Z (λh=>?_) λh=>?_
    ·refine aU<|aC Z<|aO<|aR<|aG<|bI<|aG<|aG<|bI<|aG ?_;cases h;exact nH Z
    refine cL<|aU<|aC Z<|aO<|aS<|fI (xB U j k a (bJ (qE U j k) Q)) (λb G=>[(2,vP y),(3,vP A),(6,vI (a)),(7,vI (b))]) (λb G=>[g,i]) (0:Int) () h SF (aZ.refl _) ?_;intro ag b G h;refine aL<|aU<|aA Z<|bU Z<|dQ 1 Z<|aA Z<|cU h λq h=>aB (bN Z Z (yP Z) Z Z q) Z<|aB (eI Z (yP Z) Z Z q) Z ?_;refine aB (dU Z (cE (yP Z) q.1 q.2) Z) Z ?_;refine cV Z<|aO ?_;refine eN h Z (λh=>?_) λh=>?_
    ·refine cL<|aL<|aS<|aL ?_;refine sW [0,1,0,7,15,0,63,127,0,256,0,1792,3840,0,16128,32512,65535,131071] 16 mixedOrders ?_;refine cH Z<|fO 1 Z<|aV Z<|cU h λe h=>a_ (dG (yP Z)) λK=>gC Z (dW Z Z K Z Z e)<|aY Z .nil (fN 2 Z) (eI Z (cA Z) Z Z e) aJ.z<|aV Z<|cU h λs h=>a_ (dG (cE (yP Z) e.1 e.2)) λL=>?_;refine gC Z (dW Z Z L Z Z s) ?_;refine aY Z .nil (fN 2 Z) (eI Z (cE (cA Z) e.1 e.2) Z Z s) aJ.z ?_;refine cH Z<|fO 0 Z<|aV Z<|cU h λf h=>a_ (dG (Di Z)) λM=>gC Z (dW Z Z M Z Z f)<|aY Z .nil (fN 5 Z) (eI Z (cA Z) Z Z f) aJ.z<|aV Z<|cU h λt h=>a_ (dG (cE (Di Z) f.1 f.2)) λN=>?_;refine gC Z (dW Z Z N Z Z t) ?_;refine aY Z .nil (fN 5 Z) (eI Z (cE (cA Z) f.1 f.2) Z Z t) aJ.z ?_;refine bP 16 Z Z<|eT h λaa ad h=>aK (zBg Sr (Fj U ((at' ((at' z5 a).2) b).1) ((at' ((at' z5 a).2) b).2) ((at' ((at' B a).2) b).1) ((at' ((at' B a).2) b).2) aa ad) Z (aI.cons (cE (cE (yP Z) e.1 e.2) s.1 s.2) (aI.cons (cE (cE (Di Z) f.1 f.2) t.1 t.2) .nil))) Z λai=>?_;refine aB (kM Z) Z<|aO ?_;refine tC h Z (λ_ h=>?_) λ_ h=>?_
     ·refine aU<|aC Z<|aO<|aR<|bI<|aG<|aG<|bI<|bI<|aG<|aG<|bI<|aG ?_;cases h;exact nH Z
     refine eM<|lL<|aQ<|aA Z<|cP Z<|aC Z<|aO ?_;exact xY (wI .i64 (b+(1:Int))) () h SF Z
    refine rP<|fX<|fX<|yQ<|lL ?_;exact fT () (()) h SF Z
   intro n F h;unfold BJ at h;refine aQ<|aA Z<|cP Z<|aC Z<|aO ?_;exact xY (wI .i64 (a+(1:Int))) () h SF Z
  refine fG ?_;exact cI () (()) h SF .nil (aI.refl _ _)
 intro V D h;unfold BI at h;refine aU<|aC Z<|aO<|aR ?_;cases h;exact iZ Z
end Go.Proofs.YtflciafboapaaaaGreat
namespace Go.Proofs.YtflciafboapaaaaGreat
open Go Go.Sx
theorem XZ:DK 1000=some true:=rfl
theorem Pm (c:bO) (h:c.length<900) (d:∀v:Nat,v<c.length->(at' c (v:Int)).length<900):vO 1000 c c=some true:=by
 unfold vO;rw[if_neg (by simp)];refine dJ (step:=wV 1000 c c) (K:=some true) c.length (λk=>(k:Int)) (λk a b=> ?_) (λa=> ?_) 1000 (by omega)
 ·unfold wV;rw[if_pos (by omega),cF (by omega),cF (by omega),bG (afp _ _ (d k b)),zA5 Z,if_neg (by decide),dD (by omega)]
 ·unfold wV Bz;rw[if_neg (by omega)]
theorem afq {g:GR} {d:List D_} {e:Nat} {y:Cr} (l:VG g) (h:VY g d e y) (t:e<=8) (u:d.length<=20):rX 1000 y y=some true:=by
 have n:=l.n24;have A:=h.sh.c;have z:=h.sh.a.len;have B:=h.sh.w.len;unfold rX;rw[bG (Pm y.1 (by omega) λv b=>by rw[h.rowc (by omega)];omega),if_neg (by decide),if_neg (by simp),zA3 (by simp)];unfold xA;rw[if_neg (by decide)];refine dJ (step:=xC 1000 y y) (K:=some true) y.2.1.length (λk=>(k:Int)) (λk f r=> ?_) (λf=> ?_) 1000 (by omega)
 ·have b:k<g.2.length:=by omega
  have o:=(l.node k b).deg;have C:=h.sh.a.row k b;unfold xC;rw[if_pos (by omega),cF (by omega),cF (by omega),bG (Pm (at' y.2.1 (k:Int)) (by omega) λi p=>by have:=h.rowa l b (i:=i) (by omega);show(rI y.2.1 k i).length<900;omega),if_neg (by decide),dD (by omega)]
 ·unfold xC;rw[if_neg (by omega)];unfold BH;refine dJ (step:=qE 1000 y y) (K:=some true) y.2.2.length (λk=>(k:Int)) (λk f r=> ?_) (λf=> ?_) 1000 (by omega)
  ·have b:k<g.2.length:=by omega
   have o:=(l.node k b).deg;have s:=h.sh.w.row k b;unfold qE;rw[if_pos (by omega),cF (by omega),cF (by omega),if_neg (by simp)];refine dJ (step:=xB 1000 y y (k:Int) f) (at' y.2.2 (k:Int)).length (λi=>(i:Int)) (λi m p=> ?_) (λm=> ?_) 1000 (by omega)
   ·have x:=h.cp k i b (by omega);unfold xB;rw[cF (by omega),if_pos (by omega),cF (by omega),cF (by omega),cF (by omega),cF (by omega),bG (Pm (at' (at' y.2.2 (k:Int)) (i:Int)) (by show(rI y.2.2 k i).length<900;omega) λj q=>by have:=h.roww b (i:=i) (k:=j) (by omega) q;show(at' (rI y.2.2 k i) (j:Int)).length<900;omega),if_neg (by decide),dD (by omega)]
   ·unfold xB BJ;rw[cF (by omega),if_neg (by omega),dD (by omega)]
  ·unfold qE BI;rw[if_neg (by omega)]
theorem YI:rX 1000 Fo Fo=some true:=by kernel_rfl
section
variable {g:GR} {p:Fz} {R:List RL} {cap:Int} {y:Cr} {l:List (Int×Int×Int)}
theorem VR (a:VG g) (b:jR g p.2.1) (c:pA p.2.1.length R=true):rX 1000 (LZ g p.2.1 (Ho (eB p g) p.2.1 R) cap y l).1 (LZ g p.2.1 (Ho (eB p g) p.2.1 R) cap y l).1=some true:=by
 unfold LZ;split
 ·rename_i f;split
  ·rename_i e;split
   ·rename_i d;obtain⟨_,h⟩:=KZ.1 e;have:=VY.perfs a h (Tb (R:=R) b c) l l.length (zAe _) (nZ.1 d);rw[zB3]at this;exact afq a this (by omega) b.len
   ·exact YI
  ·exact YI
 ·exact YI
end
theorem So (f:Nat) {o:Int} (c:1<=o) (e:o<=43):nP f o=some (if o<=17 then 0 else if o<=29 then 1 else if o<=42 then 2 else 3):=by
 unfold nP zR zS zT;rw[if_pos c];by_cases a:o<=17
 ·rw[zA5 a,if_pos Z,if_pos a]
 rw[zA3 a,if_neg (by decide),if_pos (by omega),if_neg a];by_cases b:o<=29
 ·rw[zA5 b,if_pos Z,if_pos b]
 rw[zA3 b,if_neg (by decide),if_pos (by omega),if_neg b];by_cases d:o<=42
 ·rw[zA5 d,if_pos Z,if_pos d]
 rw[zA3 d,if_neg (by decide),if_pos (by omega),if_neg d]
theorem afk (f:Nat) (a b:Int):l_ f a b=some (QS a b):=by
 unfold l_ QS;by_cases c:b=0
 ·rw[if_pos c,if_pos c]
 ·rw[if_neg c,if_neg c,cF c,cF c];unfold tR pU;by_cases h:Int.tmod a b≠0
  ·rw[if_pos h];cases d:(decide (a<0)) != (decide (b<0))with
   |true=>rw[if_pos Z,if_pos ⟨h,rfl⟩]
   |false=>rw[if_neg (by decide),if_neg (λq=>by cases q.2)]
  ·rw[if_neg h,if_neg (by decide),if_neg (λq=>h q.1)]
theorem Rb (b:Bool):max (-1073741824) (min (Qn b) 1073741824)=Qn b:=by cases b<;>rfl
theorem acG (f:Nat) {o:Int} (x y:Int) (g:30<=o) (i:o<=42):∃z,DO f o x y=some z/\max (-1073741824) (min z 1073741824)=biD o x y:=by
 have a:∀b:Bool,(Option.bind (dZ f b) λr=>some r)=some (Qn b):=λb=>by rw[PI];rfl
 rcases(show o=30\/o=31\/o=32\/o=33\/o=34\/o=35\/o=36\/o=37\/o=38\/o=39\/o=40\/o=41\/o=42 by omega)with rfl|rfl|rfl|rfl|rfl|rfl|rfl|rfl|rfl|rfl|rfl|rfl|rfl
 ·exact⟨_,rfl,rfl⟩
 ·refine⟨QS x y,?_,rfl⟩
  show(Option.bind (l_ f x y) λd=>some d)=_;rw[afk];rfl
 ·by_cases c:y=0
  ·refine⟨0,?_,?_⟩
   ·show(if y=0 then _ else _)=_;rw[if_pos c]
   ·show _=if y=0 then _ else _;rw[if_pos c];rfl
  ·refine⟨wI .i64 (x - wI .i64 (y*QS x y)),?_,?_⟩
   ·show(if y=0 then _ else Option.bind (l_ f x y) λe=>some (wI .i64 (x - wI .i64 (y*e))))=_;rw[if_neg c,afk];rfl
   ·show _=if y=0 then _ else _;rw[if_neg c];rfl
 ·exact⟨_,rfl,rfl⟩
 ·exact⟨_,rfl,rfl⟩
 ·exact⟨_,a (decide (x=y)),Rb _⟩
 ·exact⟨_,a (decide (x≠y)),Rb _⟩
 ·exact⟨_,a (decide (x<y)),Rb _⟩
 ·exact⟨_,a (decide (x<=y)),Rb _⟩
 ·exact⟨_,a (decide (y<x)),Rb _⟩
 ·exact⟨_,a (decide (y<=x)),Rb _⟩
 ·refine⟨Qn (decide (x≠0)&&decide (y≠0)),?_,Rb _⟩
  show(if x≠0 then Option.bind (dZ f (decide (y≠0))) _ else Option.bind (dZ f false) _)=_;by_cases h:x=0
  ·rw[if_neg (by simpa using h),show decide (x≠0)=false by simp[h],Bool.false_and];exact a false
  ·rw[if_pos h,zA5 h,zAw];exact a _
 ·refine⟨Qn (decide (x≠0)||decide (y≠0)),?_,Rb _⟩
  show(if x≠0 then Option.bind (dZ f true) _ else Option.bind (dZ f (decide (y≠0))) _)=_;by_cases h:x=0
  ·rw[if_neg (by simpa using h),show decide (x≠0)=false by simp[h],Bool.false_or];exact a _
  ·rw[if_pos h,zA5 h,Bool.true_or];exact a true
theorem ahh (f:Nat) {o x y:Int} (a:30<=o) (b:o<=42) (d:s_ x) (g:s_ y):zK f o x y=some (biD o x y,0)/\s_ (biD o x y):=by
 obtain⟨z,h,e⟩:=acG f x y a b;refine⟨?_,by rw[<-e];unfold s_;omega⟩
 have c:nT f z=some (biD o x y):=by
  unfold nT;rw[<-e];exact congrArg some (by omega)
 unfold zK pF;rw[if_neg (by omega),if_neg (by omega),bG (Pa f d),if_neg (by decide),bG (Pa f g),if_neg (by decide),bG h,bG c]
theorem Rf (l:bQ):∀k,k<=l.length->l.length<=1000->(Re l k).2.1=h_ (l.take k)/\(Re l k).2.2.1=OZ (l.take k)
 |0,_,_=>⟨rfl,rfl⟩
 | k + 1, hk, hl => by
  obtain⟨d,e⟩:=Rf l k (by omega) hl;have f:=(Pq l k (by omega) hl).2;unfold Re QF;dsimp only;rw[f,d,e,nW (by omega)];refine⟨?_,by unfold OZ;rw[List.foldl_append];rfl⟩
  have b:((l.take k).length:Int)=(k:Int):=by simp;omega
  have g:h_ [at' l (k:Int)]=if at' l (k:Int)≠0 then 0 else -1:=by
   rw[FS,show h_ [] = -1 from rfl];by_cases a:at' l (k:Int)=0
   ·simp[nz,a]
   ·simp[nz,a]
  rw[Hl,g,b];have c : -1<=h_ (l.take k):=by unfold h_;split<;>omega
  by_cases q:0<=h_ (l.take k)
  ·rw[if_neg (show¬(at' l (k:Int)≠0/\h_ (l.take k)<0)from λz=>by have:=z.2;omega),if_pos q]
  ·rw[if_neg q];by_cases a:at' l (k:Int)=0
   ·rw[if_neg (show¬(at' l (k:Int)≠0/\h_ (l.take k)<0)from λz=>z.1 a),if_neg (show¬at' l (k:Int)≠0 from λz=>z a),if_neg (show¬(0:Int) <= -1 by decide)];omega
   ·rw[if_pos (show at' l (k:Int)≠0/\h_ (l.take k)<0 from⟨a,by omega⟩),if_pos a,if_pos (show(0:Int)<=0 by decide)];omega
theorem aeI (f:Nat) {o:Int} (l:bQ) (ho:o=21\/o=23\/o=24\/o=27) (hf:40<=f) (hl:l.length<=24) (hn:∀x∈l,s_ x):nK f o l=some (Ir o l)/\s_ (Ir o l):=by
 obtain⟨a,b⟩:=Rf l l.length (zAe _) (by omega);rw[zB3]at a b;rcases ho with rfl|rfl|rfl|rfl
 ·exact⟨aaT f l (by omega) (by omega),Oz _⟩
 ·refine⟨?_,?_⟩
  ·rw[Jo f 23 l (by omega) (by omega),a];rfl
  ·show s_ (h_ l);unfold h_ s_;split
   ·rename_i i e;have:=(List.findIdx?_eq_some_iff_getElem.1 e).1;omega
   ·omega
 ·refine⟨?_,?_⟩
  ·rw[Jo f 24 l (by omega) (by omega),b];rfl
  ·show s_ (OZ l);have:∀(l:bQ) (a:Int),s_ a->(∀x∈l,s_ x)->s_ (l.foldl min a):=by
    intro l
    induction l with
    |nil=>exact λa h _=>h
    |cons x l ih=>exact λa h hl=>ih _ (by have:=hl x (zAf ..);unfold s_ at *;omega) λy hy=>hl y (zAl _ hy)
   exact this l _ (by unfold s_;omega) hn
 ·refine⟨aaU f l (by omega) (by omega),?_⟩
  have:=(LQ l).2.2;show s_ ((LP l:Nat):Int);unfold s_;omega
def E.rk:E->Bool
 | .lf o a=>decide (o=1 /\ -1000000<=a/\a<=1000000)||decide (o=2\/o=3\/o=4\/o=5\/o=6\/o=7\/o=8\/o=10\/o=12)
 | .un o x=>decide (o=19)&&x.rk
 | .ag o x=>decide (o=21\/o=23\/o=24\/o=27)&&x.rk
 | .bi _ x y=>x.rk&&y.rk
 | .ite x y z=>x.rk&&y.rk&&z.rk
def Tg (T:fL):E->Nat->Nat->Bool
 | .lf o a,_,k=>decide (at' T (k:Int)=(o,a)/\k<T.length)
 | .un o x,F,k=>decide (at' T (k:Int)=(o,0)/\k<T.length)&&Tg T x (F - 1) (k+1)
 | .ag o x,F,k=>decide (at' T (k:Int)=(o,0)/\k<T.length)&&Tg T x (F - 1) (k+1)
 | .bi o x y,F,k=>decide (at' T (k:Int)=(o,0)/\k<T.length/\m_ (F - 1) T (k:Int) 1=some ((k+1+x.ts.length:Nat):Int))&&Tg T x (F - 1) (k+1)&&Tg T y (F - 1) (k+1+x.ts.length)
 | .ite x y z,F,k=>decide (at' T (k:Int)=(43,0)/\k<T.length/\m_ (F - 1) T (k:Int) 1=some ((k+1+x.ts.length:Nat):Int)/\m_ (F - 1) T (k:Int) 2=some ((k+1+x.ts.length+y.ts.length:Nat):Int))&&Tg T x (F - 1) (k+1)&&Tg T y (F - 1) (k+1+x.ts.length)&&Tg T z (F - 1) (k+1+x.ts.length+y.ts.length)
section
variable {p:Fz} {g:GR} {c:List (List Int)} {v nv:Nat}
theorem acg (i:VG g) (m:JU g nv c) (s:∀u:Nat,u<g.2.length->∀a:Nat,a<nv->s_ (at' (at' c (u:Int)) (a:Int))) (l:v<g.2.length) {f:Nat} (B:30<=f) {b:Bool} {o a j:Int} (w:(E.lf o a).wf nv b=true) (t:(E.lf o a).rk=true) (C:Oq b (row g v).length j):
  zL f g c (v:Int) j (o,a)=some (OU (eB p g,c,(v:Int),[]) o a j)/\s_ (OU (eB p g,c,(v:Int),[]) o a j):=by
 have z:=i.n24;have d:=i.len;have A:=m.len;have G:=m.row v l;have J:=BU i g.1.length (by omega);simp only[E.wf,zA6,zB5,zAa]at w;simp only[E.rk,zB5,zAa]at t;obtain⟨⟨⟨M,N⟩,I⟩,O⟩:=w;rcases t with⟨rfl,K,L⟩|rfl|rfl|rfl|rfl|rfl|rfl|rfl|rfl|rfl
 ·exact⟨rfl,by show s_ a;unfold s_;omega⟩
 ·exact⟨rfl,by show s_ 1;unfold s_;omega⟩
 ·exact⟨rfl,by show s_ 0;unfold s_;omega⟩
 ·exact⟨rfl,by show s_ (-1);unfold s_;omega⟩
 ·obtain⟨k,rfl⟩:∃k:Nat,a=k:=⟨a.toNat,by omega⟩
  refine⟨?_,s v l k (by omega)⟩
  show ck _ (ck _ (some _))=_;rw[cF (by omega),cF (by omega)];rfl
 ·have e:OU (eB p g,c,(v:Int),[]) 6 a j=(g.2.length:Int):=by show(g.1.length:Int)=_;rw[d]
  rw[e];exact⟨rfl,by unfold s_;omega⟩
 ·have e:OU (eB p g,c,(v:Int),[]) 7 a j=jF g g.1.length:=by show jF g g.2.length=_;rw[d]
  rw[e];refine⟨?_,by unfold s_;omega⟩
  show Option.bind (Option.bind (jL f (g.1,g.2)) λH=>some H) (λh=>some h)=_;rw[show jL f (g.1,g.2)=_ from NB i B];rfl
 ·have:=(i.node v l).id;refine⟨?_,by show s_ (FV g v);unfold s_;omega⟩
  show Option.bind (ck _ (some _)) _=_;rw[cF (show 0<=(v:Int)/\(v:Int)<(g.1.length:Int) by omega)];rfl
 ·refine⟨?_,Oz _⟩
  show Option.bind (Option.bind (dZ f (decide ((v:Int)=0))) λn=>some n) (λh=>some h)=_;rw[PI];rfl
 ·obtain⟨q,rfl,D⟩:=C (I.resolve_right (by decide));obtain⟨k,rfl⟩:∃k:Nat,a=k:=⟨a.toNat,by omega⟩
  obtain⟨u,r,y⟩:=i.to l D;have F:=m.row u r;have e:(at' (at' g.2 (v:Int)) (q:Int)).1=(u:Int):=y;have x:OU (eB p g,c,(v:Int),[]) 12 (k:Int) (q:Int)=at' (at' c (u:Int)) (k:Int):=by
   show at' (at' c ((at' (at' g.2 (v:Int)) (q:Int)).1)) (k:Int)=_;rw[e]
  rw[x];refine⟨?_,s u r k (by omega)⟩
  unfold zL;dsimp only;rw[if_neg (by decide),if_neg (by decide),if_neg (by decide),if_neg (by decide),if_neg (by decide),if_pos Z,cF (by omega),cF (by show 0<=(q:Int)/\(q:Int)<((row g v).length:Int);omega),e,cF (by omega),cF (by omega)]
theorem ahB (J:VG g) (W:JU g nv c) (V:∀u:Nat,u<g.2.length->∀a:Nat,a<nv->s_ (at' (at' c (u:Int)) (a:Int))) (P:v<g.2.length) {T:List (Int×Int)} (hT:T.length<=900):
  ∀(e:E) (b:Bool) (F k:Nat) (d:Int),e.wf nv b=true->e.rk=true->Tg T e F k=true->Oq b (row g v).length d->e.depth+60<=F->fH F g c (v:Int) d T (k:Int)=some (e.den (OU (eB p g,c,(v:Int),[])) (row g v).length d)/\s_ (e.den (OU (eB p g,c,(v:Int),[])) (row g v).length d):=by
 have U:=J.n24;have hd:=(J.node v P).deg;intro e
 induction e with
 |lf o a=>
  intro b F k d i h j m t;obtain⟨f,rfl⟩:∃f,F=f+1:=⟨F - 1,by omega⟩
  obtain⟨n,I⟩:=zB2 j;have O:=acg (p:=p) J W V P (f:=f) (by omega) i h m;simp only[E.wf,zA6,zB5,zAa]at i;refine⟨?_,O.2⟩
  show nA (fH f) f g c (v:Int) d T (k:Int)=_;unfold nA;rw[cF (by omega),n,bG (So f (o:=o) (by omega) (by omega)),if_pos (by rw[if_pos (by omega)]),cF (by omega),bG (show zL f (g.1,g.2) c (v:Int) d (o,a)=_ from O.1)];rfl
 |un o x M=>
  intro b F k d i h j m t;obtain⟨f,rfl⟩:∃f,F=f+1:=⟨F - 1,by omega⟩
  simp only[Tg,E.rk,E.wf,E.depth,zA6,zAa]at j h i t;obtain⟨⟨n,I⟩,j⟩:=j;obtain⟨rfl,h⟩:=h;have r:=M b f (k+1) d i.2 h j m (by omega);refine⟨?_,Oz _⟩
  show nA (fH f) f g c (v:Int) d T (k:Int)=_;unfold nA;rw[cF (by omega),n,bG (show nP f 19=some 1 from rfl),if_neg (by decide),if_pos Z,bG (show tJ f 19=some false from rfl),if_neg (by decide),dD (by omega),bG (show fH f (g.1,g.2) c (v:Int) d T _=_ from r.1)];unfold DN;dsimp only;rw[if_pos (by decide),if_neg (by decide),bG (Pa f r.2)];unfold uV;rw[if_neg (by decide),if_neg (by decide),bG (PI f _)];rfl
 | ag o x M =>
  intro b F k d i h j m t;obtain⟨f,rfl⟩:∃f,F=f+1:=⟨F - 1,by omega⟩
  simp only[Tg,E.rk,E.wf,E.depth,zA6,zAa]at j h i t;obtain⟨⟨n,I⟩,j⟩:=j;let D:Nat->Int:=λq=>x.den (OU (eB p g,c,(v:Int),[])) (row g v).length ((q:Nat):Int);have r:∀q:Nat,q<(row g v).length->fH f g c (v:Int) (q:Int) T ((k+1:Nat):Int)=some (D q)/\s_ (D q):=λq H=>M true f (k+1) (q:Int) i.2 h.2 j (λ_=>⟨q,rfl,H⟩) (by omega);have Y:((List.range (row g v).length).map D).length=(row g v).length:=by simp
  have l:=aeI f (o:=o) ((List.range (row g v).length).map D) h.1 (by omega) (by omega) λy B=>by
   obtain⟨q,H,rfl⟩:=zB9.1 B;exact(r q (zAp.1 H)).2
  refine⟨?_,l.2⟩
  show nA (fH f) f g c (v:Int) d T (k:Int)=some (Ir o ((List.range (row g v).length).map D));unfold nA;have X:tJ f o=some true:=by rcases h.1 with rfl|rfl|rfl|rfl<;>rfl
  rw[cF (by omega),n,bG (So f (o:=o) (by omega) (by omega)),if_neg (by rw[if_neg (by omega),if_pos (by omega)];decide),if_pos (by rw[if_neg (by omega),if_pos (by omega)]),bG X,if_pos Z];refine dJ (step:=BW f (g.1,g.2) c (v:Int) T (k:Int) (fH f)) (row g v).length (λq=>((List.range q).map D,(q:Int))) (λq ag H=> ?_) (λag=> ?_) f (by omega)
  ·unfold BW;dsimp only;rw[cF (by omega),if_pos (show(q:Int)<((row g v).length:Int) by omega),dD (by omega),bG (show fH f (g.1,g.2) c (v:Int) (q:Int) T _=_ from(r q H).1),cF (by simp;omega),dD (by omega),List.range_succ,List.map_append,List.map_singleton]
  ·unfold BW Gc;dsimp only;rw[cF (by omega),if_neg (show¬((row g v).length:Int)<((row g v).length:Int) by omega),n,bG l.1]
 |bi o x y C G=>
  intro b F k d i h j m t;obtain⟨f,rfl⟩:∃f,F=f+1:=⟨F - 1,by omega⟩
  simp only[Tg,E.rk,E.wf,E.depth,zA6,zAa,Nat.add_sub_cancel]at j h i t;obtain⟨⟨⟨n,I,K⟩,w⟩,A⟩:=j;have r:=C b f (k+1) d i.1.2 h.1 w m (by omega);have B:=G b f (k+1+x.ts.length) d i.2 h.2 A m (by omega);have N:=ahh f (o:=o) i.1.1.1 i.1.1.2 r.2 B.2;refine⟨?_,N.2⟩
  show nA (fH f) f g c (v:Int) d T (k:Int)=_;unfold nA;rw[cF (by omega),n,bG (So f (o:=o) (by omega) (by omega)),if_neg (by rw[if_neg (by omega),if_neg (by omega),if_pos (by omega)];decide),if_neg (by rw[if_neg (by omega),if_neg (by omega),if_pos (by omega)];decide),if_pos (by rw[if_neg (by omega),if_neg (by omega),if_pos (by omega)]),dD (by omega),bG (show fH f (g.1,g.2) c (v:Int) d T _=_ from r.1),bG K,bG (show fH f (g.1,g.2) c (v:Int) d T _=_ from B.1),bG N.1];rfl
 | ite x y z C G ihz =>
  intro b F k d i h j m t;obtain⟨f,rfl⟩:∃f,F=f+1:=⟨F - 1,by omega⟩
  simp only[Tg,E.rk,E.wf,E.depth,zA6,zAa,Nat.add_sub_cancel]at j h i t;obtain⟨⟨⟨⟨n,I,R,S⟩,w⟩,A⟩,L⟩:=j;have r:=C b f (k+1) d i.1.1 h.1.1 w m (by omega);have B:=G b f (k+1+x.ts.length) d i.1.2 h.1.2 A m (by omega);have Q:=ihz b f (k+1+x.ts.length+y.ts.length) d i.2 h.2 L m (by omega);have s:fH (f+1) g c (v:Int) d T (k:Int)=if x.den (OU (eB p g,c,(v:Int),[])) (row g v).length d≠0 then some (y.den (OU (eB p g,c,(v:Int),[])) (row g v).length d)else some (z.den (OU (eB p g,c,(v:Int),[])) (row g v).length d):=by
   show nA (fH f) f g c (v:Int) d T (k:Int)=_;unfold nA;rw[cF (by omega),n,bG (show nP f 43=some 3 from rfl),if_neg (by decide),if_neg (by decide),if_neg (by decide),dD (by omega),bG (show fH f (g.1,g.2) c (v:Int) d T _=_ from r.1),bG R,bG S,bG (show fH f (g.1,g.2) c (v:Int) d T _=_ from B.1),bG (show fH f (g.1,g.2) c (v:Int) d T _=_ from Q.1)]
  rw[s];simp only[E.den];split
  ·exact⟨rfl,B.2⟩
  ·exact⟨rfl,Q.2⟩
end
def adQ (R:List RL):Bool:=R.all λr=>(r.1.rk&&Tg r.1.ts r.1 1000 0)&&r.2.all λs=>s.2.rk&&Tg s.2.ts s.2 1000 0
theorem Yx {p:Fz} {g:GR} {R:List RL} (f:VG g) (l:jR g p.2.1) (k:pA p.2.1.length R=true) (d:adQ R=true):JS p g R:=by
 intro c n v D r b;have B:=f.n24;have w:=f.len;have x:=BU f g.1.length (by omega);have C:∀u:Nat,u<g.2.length->∀a:Nat,a<p.2.1.length->s_ (at' (at' c (u:Int)) (a:Int)):=λu y a i=>by
  have j:=n.ok u y a i;have b:=l.range a i;obtain⟨⟨J,K⟩,⟨L,F⟩,M,G⟩:=l.small a i;have o:=(f.node u y).deg;unfold val lo hi at j;unfold lo at b;unfold s_;rcases l.kind a i with e|e|e
  ·rw[if_neg (by omega),if_neg (by omega),if_neg (by omega),if_neg (by omega)]at j;have b:=(b e).1;rw[if_neg (by omega),if_neg (by omega)]at b;have H:(at' p.2.1 (a:Int)).2.2.2.2.1*(g.2.length:Int)<=100000*24:=Int.mul_le_mul F (by omega) (by omega) (by omega);have I:(at' p.2.1 (a:Int)).2.2.2.2.2*jF g g.1.length<=100000*255:=Int.mul_le_mul G x.2 x.1 (by omega);omega
  ·rw[if_pos e,if_pos e]at j;omega
  ·rw[if_neg (by omega),if_pos e,if_neg (by omega),if_pos e]at j;omega
 simp only[adQ,zA8,zA6]at d;simp only[pA,zA6,zA8,zAa]at k;have h:∀e:E,Kb p.2.1.length e=true->e.rk=true->Tg e.ts e 1000 0=true->fH 1000 g c (v:Int) (-1) e.ts 0=some (Dn (eB p g) c v e):=λe t z A=>by
  simp only[Kb,zA6,zAa]at t;exact(ahB (p:=p) f n.shape C D (T:=e.ts) (by omega) e false 1000 0 (-1) t.1.1 z A (λq=>by cases q) (by omega)).1
 exact⟨h r.1 (k.2 r b).1.1 (d r b).1.1 (d r b).1.2,λs m=>h s.2 ((k.2 r b).2 s m).2 ((d r b).2 s m).1 ((d r b).2 s m).2⟩
def evZ (e:Nat×Nat×Nat):Int×Int×Int:=((e.1:Int),(e.2.1:Int),(e.2.2:Int))
def mB (g:GR) (cap:Nat):kC:=(YT g cap).map evZ
theorem abz {g:GR} {vars:List D_} {b:bO->Nat->bQ} {cap:Nat} {y:Cr} {l:kC} (d:1<=cap) (f:cap<=8) (h:VY g vars cap y) (c:∀e∈l,HL g e=true):LZ g vars b (cap:Int) y l=(perfs g b cap y l,0):=by
 unfold LZ;rw[if_pos (by omega),if_pos (KZ.2 ⟨by omega,by rw[zAi];exact h⟩),if_pos (nZ.2 λk a=>c _ (by rw[jS a];exact zBe a)),zAi]
end Go.Proofs.YtflciafboapaaaaGreat
namespace Go.Proofs.YtflciafboapaaaaGreat
open Go.Sx
def zC (U:Nat) (b:cO) (e:AC) (a:Int) (d:bQ):Option bQ:=
 Option.bind (jE U ((b.1,b.2)) e d) λc=>(ck (0<=a/\a<(c.length:Int)) (some (at' c a)))
def zD (U:Nat) (h:cO) (d:AC) (e:Int) (b:bQ) (g:Int) (a:Int×bQ) (c:(Int×bQ)->Option bQ) (f:Bool):Option bQ:=
 if f=true then(ck ((b.length:Int)≠0) (ck (0<=(Int.tmod (wI .i64 (g+a.1)) (b.length:Int))/\(Int.tmod (wI .i64 (g+a.1)) (b.length:Int))<(b.length:Int)) (ck (0<=(wI .i64 ((wI .i64 (e*(d.length:Int)))+a.1))/\(wI .i64 ((wI .i64 (e*(d.length:Int)))+a.1))<(a.2.length:Int)) (c ((wI .i64 (a.1+(1:Int))),(List.set a.2 (Int.toNat (wI .i64 ((wI .i64 (e*(d.length:Int)))+a.1))) (at' b (Int.tmod (wI .i64 (g+a.1)) (b.length:Int)))))))))else(zC U h d e (a.2))
def zE (U:Nat) (e:cO) (c:AC) (f:Int) (d:bQ) (g:Int) (b:Int×bQ) (a:(Int×bQ)->Option bQ):Option bQ:=
 if b.1<(c.length:Int)then(zD U e c f d g b a (decide ((0:Int)<(d.length:Int))))else(zD U e c f d g b a (false))
def qA (U:Nat) (a:cO) (b:AC) (c:Int) (d:bQ) (e:Int):Option bQ:=
 ck (0<=(wI .i64 ((a.2.length:Int)*(b.length:Int)))/\(wI .i64 ((a.2.length:Int)*(b.length:Int)))<=1099511627) (bJ (zE U a b c d e) U ((0:Int),(List.replicate (Int.toNat (wI .i64 ((a.2.length:Int)*(b.length:Int)))) (0:Int))))
theorem WX:bB Tryz.prog 44:=Tryz.call44
theorem Ht (U:Nat) {m:cO} {n:AC} {d:Int} {f:bQ} {k:Int} (p q:V0) (F:lE) (t B:V0) (r:bQ) (h:qA U m n d f k=some r):
  bD Tryz.prog 44 #[Value.agg #[p,q],t,vI (d),B,vI (k)] [Sl aN p m.1,S2 aX q F m.2,Sl aH t n,Sl aN B f] (λx:V0=>x) (λx l=>l) (λx l=>Sl aN x r::l):=by
 refine bD.of Tryz.func44 Z Tryz.ntmps44 Z λc=>?_;refine aU<|aK (aP.box (cs:=[p,q]) Z Z) Z λs=>aC Z<|aO<|aU<|bU Z<|dQ 0 Z<|aB (dU Z (mM Z) Z) Z<|aA Z<|iH (yP Z) Z<|aB (wB Z Z) Z<|cU h λG h=>aK (A_ (e:=fW) (0:Int) Z Z Z Z G Z Z Z) Z λo=>aC Z<|aO<|aL<|eR (λu=>zC U m n d u=some r) (λu E=>[(1,t),(2,vI (d)),(5,vP s),(11,o)]) (λu E=>[Ar fW o u,bL s [p,q] 31]) ?_ ?_
 ·refine aU<|aC Z<|aO<|aS<|fI (zE U m n d f k) (λa v=>[(1,t),(2,vI (d)),(3,B),(4,vI (k)),(5,vP s),(11,o),(12,vI (a.1))]) (λa v=>[Ar fW o a.2,bL s [p,q] 31]) ((0:Int),(List.replicate (Int.toNat (wI .i64 ((m.2.length:Int)*(n.length:Int)))) (0:Int))) () h SF (aZ.refl _) ?_;intro D a v h;refine aL<|aL<|eR (λb=>zD U m n d f k a (bJ (zE U m n d f k) D) b=some r) (λb w=>[(1,t),(2,vI (d)),(3,B),(4,vI (k)),(5,vP s),(11,o),(12,vI (a.1)),(28,vB (b))]) (λb w=>[Ar fW o a.2,bL s [p,q] 31]) ?_ ?_
  ·refine aQ<|aA Z<|aA Z<|iH (yP Z) Z<|cV Z<|aA Z ?_;refine BZ h Z (λ_ h=>?_) λ_ h=>?_
   ·refine dC Z<|aT Z (fE Z (Dh Z) Z) Z<|aT Z (tH Z Z) Z<|dR Z<|aO ?_;exact fT (decide ((0:Int)<(f.length:Int))) () h SF Z
   refine aM Z<|aM Z<|aM Z<|eV Z<|aO ?_;exact fT (false) () h SF Z
  intro b w h;refine tC h Z (λ_ h=>?_) λ_ h=>?_
  ·refine cL<|aL<|aS<|aQ<|aA Z<|aA Z<|aA Z<|iH (yP Z) Z<|aB (wB Z Z) Z<|aA Z<|cP Z<|aA Z<|aA Z<|aA Z<|cP Z<|aA Z<|iH (Dh Z) Z<|cU h λC h=>aB (Nm Z Z C) Z<|cU h λz h=>aB (bE Z Z (Dh Z) Z Z z) Z<|aB (cK Z (Dh Z) Z Z Z eY z) Z<|cU h λA h=>aB (bE Z Z (cB (aF.res 0 Z) jA) Z Z A) Z<|Le 0 (at' f (Int.tmod (wI .i64 (k+a.1)) (f.length:Int))) A Z Z Z Z Z Z Z<|fJ<|lL<|aQ<|aA Z<|cP Z<|aC Z<|aO ?_;exact xY ((wI .i64 (a.1+(1:Int))),(List.set a.2 (Int.toNat (wI .i64 ((wI .i64 (d*(n.length:Int)))+a.1))) (at' f (Int.tmod (wI .i64 (k+a.1)) (f.length:Int))))) () h SF Z
  refine fG ?_;exact fT (a.2) () h SF Z
 intro u E h;refine aU<|dM 1 Z<|aA Z<|aA Z<|eT h λH I h=>aK (zBg WW (Gn U p q F t o H I) Z (aI.cons (cA Z) (aI.cons (mM Z) (aI.cons (yP Z) (aI.cons (cB (aF.res 0 Z) jA) .nil))))) Z λJ=>bW (fQ 1 Z (mF (j:=0) Z jA))<|aA Z<|cU h λg h=>aB (bN Z Z (c_ (i:=0) (j:=0) Z Z) Z Z g) Z<|bF (aW (cA Z)) λy=>aB (gW 0 Z Z y Z Z g) Z<|aC Z<|aO<|aR ?_;cases h;exact iS (at' J.2 d) Z Z (RV.tmp Z) .nil (aI.cons (bR (cA Z) g.1 g.2) aI.nil)
end Go.Proofs.YtflciafboapaaaaGreat