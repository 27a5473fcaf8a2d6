/- Models and proofs. Conditions: none. -/
import Derived.Test.YtflciafboapaaaaGreatZRRu5
import Derived.Test.YtflciafboapaaaaGreatZRRu2
import Derived.Test.YtflciafboapaaaaGreatZRRu1
import Derived.KernelRfl
set_option linter.unusedVariables false
set_option linter.unusedSimpArgs false
set_option maxHeartbeats 4000000
set_option maxRecDepth 20000
namespace Go.Proofs.YtflciafboapaaaaGreat
open Go.Sx
def wD (b:cO) (a:hJ):Option wA:=
 some ((b.1,a))
def nD (U:Nat) (b:AT) (d:cO) (a:Int×hJ) (c:(Int×hJ)->Option wA) (e:Bool):Option wA:=
 if e=true then(ck (0<=a.1/\a.1<(b.2.1.length:Int)) (Option.bind (eQ U (at' b.2.1 a.1) (d.2.length:Int)) λf=>(ck (0<=(wI .i64 (a.1+(1:Int)))/\(wI .i64 (a.1+(1:Int)))<(b.2.1.length:Int)) (Option.bind (eQ U (at' b.2.1 (wI .i64 (a.1+(1:Int)))) (d.2.length:Int)) λg=>(Option.bind (uM U b.2.2.1 a.1) λh=>(Option.bind (eQ U h (15:Int)) λi=>(Option.bind (oC U ((b.1,b.2.1,b.2.2.1,b.2.2.2.1,b.2.2.2.2.1,b.2.2.2.2.2)) ((d.1,a.2)) f g (wI .i64 ((1:Int)+i))) λj=>(c ((wI .i64 (a.1+(2:Int))),j)))))))))else(wD d (a.2))
def qM (U:Nat) (c:AT) (d:cO) (a:Int×hJ) (b:(Int×hJ)->Option wA):Option wA:=
 if(wI .i64 (a.1+(1:Int)))<(c.2.1.length:Int)then(nD U c d a b (decide (a.1<(60:Int))))else(nD U c d a b (false))
def oD (U:Nat) (b:AT) (a:cO):Option wA:=
 bJ (qM U b a) U ((a.2.length:Int),a.2)
theorem acR:bB Tryz.prog 42:=Tryz.call42
theorem HU (U:Nat) {d:AT} {f:cO} (w o y g k:V0) (W:fY) (r:Fy) (h:oD U d f=some r):
  B_ Tryz.prog 42 #[Value.agg #[vI (d.1),w,o,y,vB (d.2.2.2.2.1),vB (d.2.2.2.2.2)],Value.agg #[g,k]] [Ar fW g f.1,Ar bM.raw k W,gN b_ W f.2] [Sl aN w d.2.1,Sl aN o d.2.2.1,Sl aN y d.2.2.2.1] (λx:V0×V0×List V0=>Value.agg #[x.1,x.2.1]) (λx l=>Ar fW x.1 r.1::Ar bM.raw x.2.1 x.2.2::gN b_ x.2.2 r.2::l):=by
 let v:=Sl aN w d.2.1;let u:=Sl aN o d.2.2.1;let t:=Sl aN y d.2.2.2.1;let s:=(f.2.length:Int)
 refine B_.of (vs:=[Value.agg #[vI (d.1),w,o,y,vB (d.2.2.2.2.1),vB (d.2.2.2.2.2)],Value.agg #[g,k]]) Tryz.func42 Z Tryz.ntmps42 Z λc=>?_;unfold oD at h;refine aU<|aK (aP.box (cs:=[vI (d.1),w,o,y,vB (d.2.2.2.2.1),vB (d.2.2.2.2.2)]) Z Z) Z λN=>let q:=bL N [vI (d.1),w,o,y,vB (d.2.2.2.2.1),vB (d.2.2.2.2.2)] 24;aK (aP.box (cs:=[g,k]) Z Z) Z λL=>let n:=bL L [g,k] 31;aK (aP.alloc (cs:=[cT,cT]) Z Z) Z λM=>let m:=bL M [cT,cT] 31;aO<|aU<|bU Z<|dQ 1 Z<|aB (dU Z (fP (i:=4) (j:=5) Z Z cW) Z) Z<|aC Z<|aO<|aL<|kU (B:=fY) (λA=>wD f A=some r) (λA C=>[(3,vP L),(4,vP M)]) (λA C=>[m,n,Ar fW g f.1,Ar bM.raw k C,gN b_ C A]) (λA C=>[v,u,t]) ?_ ?_
 ·refine aU<|aA Z<|aC Z<|aO<|aS<|oS (B:=fY) (qM U d f) (λa b=>[(2,vP N),(3,vP L),(4,vP M),(5,vI s),(6,vI (a.1))]) (λa b=>[m,n,q,Ar fW g f.1,Ar bM.raw k b,gN b_ b a.2]) (λa b=>[v,u,t]) (s,f.2) (W) h SF (aZ.refl _) (aI.refl _ _) ?_;intro Q a b h;refine aL<|aL<|kU (B:=Unit) (λe=>nD U d f a (bJ (qM U d f) Q) e=some r) (λe p=>[(2,vP N),(3,vP L),(4,vP M),(5,vI s),(6,vI (a.1)),(20,vB (e))]) (λe p=>[m,n,q,Ar fW g f.1,Ar bM.raw k b,gN b_ b a.2]) (λe p=>[v,u,t]) ?_ ?_
  ·refine aQ<|aA Z<|cP Z<|bU Z<|dQ 2 Z<|iH (cA Z) Z<|cV Z<|aA Z ?_;refine BZ h Z (λ_ h=>?_) λ_ h=>?_
   ·refine dC Z<|aT Z (CO Z Z) Z<|dR Z<|aO ?_;exact fT (decide (a.1<(60:Int))) () h SF Z
   refine aM Z<|aM Z<|eV Z<|aO ?_;exact fT (false) () h SF Z
  intro e p h;refine tC h Z (λ_ h=>?_) λ_ h=>?_
  ·refine cL<|aL<|aS ?_;refine sW [0,0,0,4,0,28,60,0,252,0,512,0,2048,7680,15872,0,65532,0,131072,0,1048572,2097148,4194300,8388607] 23 mixedOrders ?_;refine jD 2 Z<|jD 1 Z<|cH Z<|fO 2 Z<|aV Z<|cU h λI h=>aY Z .nil (fN 0 Z) (bE Z Z (cA Z) Z Z I) aJ.z<|aY Z .nil (fN 0 Z) (cK Z (cA Z) Z Z Z eY I) aJ.z<|aV Z<|eT h λR D h=>zBi Z Z Z (zBg Bc (g_ U R D) Z .nil) Z (λX=>(mC [([1],[]),([2],[])] Z)) λX=>gC Z (cR Z Z Z Z Z)<|aY Z (aZ.cons 2 Z .nil) .nil (dL 0 Z Z Z Z Z) (aJ.h (aZ.ix [2] Z Z) .nil aJ.z)<|gC Z (eO Z)<|gC Z (yT Z Z)<|cU h λJ h=>aY Z .nil (fN 0 Z) (bE Z Z (cA Z) Z Z J) (aJ.h .nil (fN 0 Z) aJ.z)<|aY Z .nil (fN 0 Z) (cK Z (cA Z) Z Z Z eY J) (aJ.h .nil (fN 0 Z) aJ.z)<|gC Z (eO Z)<|eT h λS E h=>zBi Z Z Z (zBg Bc (g_ U S E) Z .nil) Z (λY=>(mC [([1],[]),([2],[])] Z)) λY=>gC Z (cR Z Z Z Z Z)<|aY Z (aZ.cons 2 Z .nil) .nil (dL 0 Z Z Z Z Z) (aJ.h (aZ.ix [2] Z Z) .nil (aJ.h (aZ.ix [2] Z Z) .nil aJ.z))<|gC Z (eO Z)<|eT h λT F h=>zBi Z Z Z (zBg Lp (Db U o T F) Z (iN [1] Z)) Z (λaa=>(mC [([1],[]),([2],[])] Z)) λaa=>eT h λV G h=>zBi Z Z Z (zBg Bc (g_ U V G) Z .nil) Z (λab=>(mC [([1],[]),([2],[])] Z)) λab=>gC Z (yT Z Z)<|bP 23 Z Z<|eT h λK H h=>aK (EF (Min:=[Ar bM.raw k b,gN b_ b a.2]) (Mr:=[m,n,q,Ar fW g f.1]) Xb (CZ U w o y g k b K H) Z (aZ.ix [4,5,0,1,2,3] Z Z) (aI.cons (cA Z) (aI.cons (mM Z) (aI.cons (yP Z) (aI.cons (cB (aF.res 3 Z) jA) .nil)))) (λ_ _=>rfl)) Z λac=>fJ<|lL<|aQ<|aA Z<|cP Z<|aC Z<|aO ?_;exact iG ((wI .i64 (a.1+(2:Int))),K) (ac) h SF (aZ.ix [2,3,4,5,0,1] Z Z) (aI.refl _ _)
  refine fG ?_;exact cI (a.2) (b) h SF (aZ.ix [0,1,3,4,5] Z Z) (aI.refl _ _)
 intro A C h;unfold wD at h;refine aU<|dM 1 Z<|bF (Know.one ((cB (aF.res 2 Z) jA))) λO=>bF (vM (fP (i:=3) (j:=4) Z Z cW)) λP=>cG 0 (vs:=[g,k]) Z Z (gJ O (gJ P Z)) Z Z Z<|aO<|aR ?_;cases h;exact iS (g,k,C) Z Z (RV.cell 0 Z Z Z Z) (aZ.ix [2,3,4] Z Z) aI.nil
def kR (U:Nat) (a:AT) (d:Int):Option wA:=
 Option.bind (oB U ((a.1,a.2.1,a.2.2.1,a.2.2.2.1,a.2.2.2.2.1,a.2.2.2.2.2)) d) λb=>(Option.bind (oD U ((a.1,a.2.1,a.2.2.1,a.2.2.2.1,a.2.2.2.2.1,a.2.2.2.2.2)) ((b.1,b.2))) λc=>(some ((c.1,c.2))))
theorem aeC:bB Tryz.prog 8:=Tryz.call8
theorem Ew (U:Nat) {a:AT} {o:Int} (d e f:V0) (r:Fy) (h:kR U a o=some r):
  bD Tryz.prog 8 #[Value.agg #[vI (a.1),d,e,f,vB (a.2.2.2.2.1),vB (a.2.2.2.2.2)],vI (o)] [Sl aN d a.2.1,Sl aN e a.2.2.1,Sl aN f a.2.2.2.1] (λx:V0×V0×List V0=>Value.agg #[x.1,x.2.1]) (λx l=>Ar fW x.1 r.1::Ar bM.raw x.2.1 x.2.2::gN b_ x.2.2 r.2::l) (λ_ l=>l):=by
 refine bD.of Tryz.func8 Z Tryz.ntmps8 Z λc=>?_;refine aU<|aK (aP.box (cs:=[vI (a.1),d,e,f,vB (a.2.2.2.2.1),vB (a.2.2.2.2.2)]) Z Z) Z λp=>aK (aP.alloc (cs:=[cT,cT]) Z Z) Z λq=>aO<|aL ?_;refine sW [0,0,0,6,15,31] 4 mixedOrders ?_;refine jD 1 Z<|jD 1 Z<|aV Z<|eT h λn t h=>zBi Z Z Z (zBg WQ (CY U d e f n t) Z (iN [0,1,2] Z)) Z (λb=>(mC [([4],[])] Z)) λb=>bP 4 Z Z<|eT h λs u h=>aK (EF (Min:=[Ar fW b.1 n.1,Ar bM.raw b.2.1 b.2.2,gN b_ b.2.2 n.2]) (Mr:=[bL q [cT,cT] 31,bL p [vI (a.1),d,e,f,vB (a.2.2.2.2.1),vB (a.2.2.2.2.2)] 24]) acR (HU U d e f b.1 b.2.1 b.2.2 s u) Z (aZ.refl _) (iN [0,1,2] Z) (λ_ _=>rfl)) Z λk=>bF (Know.one ((cB (aF.res 0 Z) jA))) λm=>bF (vM (fP (i:=1) (j:=2) Z Z cW)) λg=>cG 3 (vs:=[k.1,k.2.1]) Z Z (gJ m (gJ g Z)) Z Z Z<|aO<|aR ?_;cases h;exact iS (k.1,k.2.1,k.2.2) Z Z (RV.cell 3 Z Z Z Z) (aZ.ix [0,1,2] Z Z) aI.nil
def xU (a:bO):Option bO:=
 some (a)
def Cn (a:bO×Int) (c:(bO×Int)->Option bO) (b:bQ):Option bO:=
 ck ((a.1.length:Int)+(List.length ([b]):Int)<=1099511627) (c ((a.1++[b]),(wI .i64 (a.2+(1:Int)))))
def pH (U:Nat) (g:AC) (h:bQ) (e:bO×Int) (a:bQ×Int) (c:(bQ×Int)->Option bO) (b:gK):Option bO:=
 Option.bind (uM U h (wI .i64 ((wI .i64 (e.2*(g.length:Int)))+a.2))) λf=>(Option.bind (eQ U f (wI .i64 ((wI .i64 (b.2 - b.1))+(1:Int)))) λd=>(ck ((a.1.length:Int)+(List.length ([(wI .i64 (b.1+d))]):Int)<=1099511627) (c ((a.1++([(wI .i64 (b.1+d))])),(wI .i64 (a.2+(1:Int)))))))
def pI (U:Nat) (f:cO) (c:AC) (g:bQ) (h:Int) (b:bO×Int) (e:(bO×Int)->Option bO) (a:bQ×Int) (d:(bQ×Int)->Option bO):Option bO:=
 if a.2<(c.length:Int)then(ck (0<=a.2/\a.2<(c.length:Int)) (ck (0<=a.2/\a.2<(c.length:Int)) (ck (0<=a.2/\a.2<(c.length:Int)) (ck (0<=a.2/\a.2<(c.length:Int)) (ck (0<=a.2/\a.2<(c.length:Int)) (if((at' c a.2).2.1)=(2:Int)then(pH U c g b a d ((0:Int),(1:Int)))else(if((at' c a.2).2.1)=(3:Int)then(ck (0<=b.2/\b.2<(f.2.length:Int)) (pH U c g b a d ((-1:Int),(wI .i64 (((at' f.2 b.2).length:Int) - (1:Int))))))else(pH U c g b a d (((at' c a.2).2.2.1),(wI .i64 ((wI .i64 (((at' c a.2).2.2.2.1)+(wI .i64 (((at' c a.2).2.2.2.2.1)*(f.2.length:Int)))))+(wI .i64 (((at' c a.2).2.2.2.2.2)*h)))))))))))))else(Cn b e (a.1))
def lO (U:Nat) (c:cO) (e:AC) (f:bQ) (d:Int) (a:bO×Int) (b:(bO×Int)->Option bO):Option bO:=
 if a.2<(c.2.length:Int)then(bJ (pI U c e f d a b) U (([]:bQ),(0:Int)))else(xU (a.1))
def sS (U:Nat) (b:cO) (c:AC) (d:bQ) (a:Int):Option bO:=
 bJ (lO U b c d a) U (([]:bO),(0:Int))
def xV (U:Nat) (c:cO) (d:AC) (e:bQ) (a:gK) (b:i_->Option bO):Option bO:=
 if a.2<(c.2.length:Int)then(ck (0<=a.2/\a.2<(c.1.length:Int)) (b ((max a.1 (at' c.1 a.2)),(wI .i64 (a.2+(1:Int))))))else(sS U c d e (a.1))
def jE (U:Nat) (a:cO) (b:AC) (c:bQ):Option bO:=
 bJ (xV U a b c) U ((0:Int),(0:Int))
theorem WW:bB Tryz.prog 34:=Tryz.call34
theorem Gn (U:Nat) {p:cO} {s:AC} {u:bQ} (W X:V0) (z2:lE) (F y:V0) (r:bO) (h:jE U p s u=some r):
  bD Tryz.prog 34 #[Value.agg #[W,X],F,y] [Sl aN W p.1,S2 aX X z2 p.2,Sl aH F s,Sl aN y u] (λx:Fx=>x.1) (λx l=>Ar bM.raw x.1 x.2::gN fW x.2 r::l) (λ_ l=>l):=by
 let k:=(p.2.length:Int)
 refine bD.of Tryz.func34 Z Tryz.ntmps34 Z λc=>?_;unfold jE at h;refine aU<|aK (aP.box (cs:=[W,X]) Z Z) Z λG=>let o:=bL G [W,X] 31;aC Z<|aO<|aU<|bU Z<|dQ 0 Z<|aB (dU Z (mM Z) Z) Z<|aC Z<|aC Z<|aO<|aL<|eR (λm=>sS U p s u m=some r) (λm b4=>[(1,F),(2,y),(3,vP G),(7,vI k),(8,vI (m))]) (λm b4=>[o]) ?_ ?_
 ·refine aU<|aC Z<|aO<|aS<|fI (xV U p s u) (λf M=>[(1,F),(2,y),(3,vP G),(7,vI k),(8,vI (f.1)),(9,vI (f.2))]) (λf M=>[o]) ((0:Int),(0:Int)) () h SF (aZ.refl _) ?_;intro ah f M h;refine aL<|aU<|aA Z<|aA Z<|cV Z<|aO ?_;refine eN h Z (λh=>?_) λh=>?_
  ·refine cL<|aL<|aS<|aQ<|aA Z<|bU Z<|dQ 0 Z<|aA Z<|cU h λT h=>aB (bE Z Z (cA Z) Z Z T) Z<|aB (cK Z (cA Z) Z Z Z eY T) Z<|aB (Hj Z Z) Z<|aC Z<|fJ<|lL<|aQ<|aA Z<|cP Z<|aC Z<|aO ?_;exact xY ((max f.1 (at' p.1 f.2)),(wI .i64 (f.2+(1:Int)))) () h SF Z
  refine fG ?_;exact fT (f.1) () h SF Z
 intro m b4 h;unfold sS at h;refine aU<|aC Z<|aO<|aL<|EV (B:=Fx) (λK=>xU K=some r) (λK A=>[(10,A.1)]) (λK A=>[Ar bM.raw A.1 A.2,gN fW A.2 K]) ?_ ?_
 ·refine aU<|aC Z<|aO<|aS<|bW (eX bM.raw) (bW (iA fW) ?_);refine fI (B:=Fx) (lO U p s u m) (λa b=>[(1,F),(2,y),(3,vP G),(7,vI k),(8,vI (m)),(10,b.1),(11,vI (a.2))]) (λa b=>[o,Ar bM.raw b.1 b.2,gN fW b.2 a.1]) (([]:bO),(0:Int)) ((cT),([]:fY)) h SF (aZ.ix [2,1,0] Z Z) ?_;intro aa a b h;let J:=gN fW b.2 a.1;let I:=Ar bM.raw b.1 b.2;let H:=(bJ (lO U p s u m) aa)
  refine aL<|aU<|aA Z<|aA Z<|cV Z<|aO ?_;refine eN h Z (λh=>?_) λh=>?_
  ·refine cL<|aL<|aS<|aU<|aC Z<|aO<|aL<|EV (B:=V0) (λn=>Cn a H n=some r) (λn g=>[(1,F),(2,y),(3,vP G),(7,vI k),(8,vI (m)),(10,b.1),(11,vI (a.2)),(12,g)]) (λn g=>[o,I,J,Ar fW g n]) ?_ ?_
   ·refine aU<|aC Z<|aO<|aS<|bW (eX fW)<|fI (B:=V0) (pI U p s u m a H) (λd j=>[(1,F),(2,y),(3,vP G),(7,vI k),(8,vI (m)),(10,b.1),(11,vI (a.2)),(12,j),(13,vI (d.2))]) (λd j=>[o,I,J,Ar fW j d.1]) (([]:bQ),(0:Int)) (cT) h SF (aZ.ix [1,2,3,0] Z Z) ?_;intro ab d j h;let w:=(at' s d.2)
    refine aL<|aU<|aA Z<|aA Z<|iH (yP Z) Z<|cV Z<|aO ?_;refine eN h Z (λh=>?_) λh=>?_
    ·refine cL<|aL<|aS<|aL ?_;refine sW [0,0,3,7,15,0,0,96,224,480,0,0,3072,7168,15360,0,64512,131040,0,0,786432,1835008,3932160,0,16515072,33554400,31,134217727] 27 mixedOrders ?_;refine aV Z<|aV Z<|cU h λO h=>aY Z .nil (fN 2 Z) (bE Z Z (cA Z) Z Z O) aJ.z<|gC Z (cZ Z Z Z Z Z)<|aY Z .nil (fN 2 Z) (eL Z (cA Z) Z Z Z AJ O) aJ.z<|aV Z<|aV Z<|cU h λP h=>aY Z .nil (fN 2 Z) (bE Z Z (cA Z) Z Z P) aJ.z<|gC Z (cZ Z Z Z Z Z)<|aY Z .nil (fN 2 Z) (eL Z (cA Z) Z Z Z AK P) aJ.z<|aV Z<|aV Z<|cU h λQ h=>aY Z .nil (fN 2 Z) (bE Z Z (cA Z) Z Z Q) aJ.z<|gC Z (cZ Z Z Z Z Z)<|aY Z .nil (fN 2 Z) (eL Z (cA Z) Z Z Z AL Q) aJ.z<|aV Z<|gC Z (wB Z Z)<|gC Z (yT Z Z)<|aV Z<|aV Z<|cU h λR h=>aY Z .nil (fN 2 Z) (bE Z Z (cA Z) Z Z R) aJ.z<|gC Z (cZ Z Z Z Z Z)<|aY Z .nil (fN 2 Z) (eL Z (cA Z) Z Z Z AM R) aJ.z<|aV Z<|gC Z (wB Z Z)<|gC Z (yT Z Z)<|gC Z (yU Z)<|bP 27 Z Z<|aC Z<|aO<|aL<|eR (λi=>pH U s u a d (bJ (pI U p s u m a H) ab) i=some r) (λi L=>[(1,F),(2,y),(3,vP G),(7,vI k),(8,vI (m)),(10,b.1),(11,vI (a.2)),(12,j),(13,vI (d.2)),(14,vI (i.1)),(15,vI (i.2))]) (λi L=>[o,I,J,Ar fW j d.1]) ?_ ?_
     ·refine aU<|aA Z<|aA Z<|cU h λS h=>aB (bE Z Z (yP Z) Z Z S) Z<|aB (cZ Z Z Z Z Z) Z<|aB (eL Z (yP Z) Z Z Z lR S) Z<|aO<|aS<|aU<|cC Z<|aC Z<|aO ?_;refine eN h Z (λh=>?_) λh=>?_
      ·refine aQ<|aC Z<|aC Z<|fJ<|lL ?_;exact fT ((0:Int),(1:Int)) () h SF Z
      refine aU<|cC Z<|aC Z<|aO ?_;refine eN h Z (λh=>?_) λh=>?_
      ·refine sW [0,1,0,7,15,31,63,0,255] 8 mixedOrders ?_;refine cH Z<|fO 0 Z<|aV Z<|cU h λt h=>aY Z .nil (fN 1 Z) (bN Z Z (cA Z) Z Z t) aJ.z<|aY Z .nil (fN 1 Z) (bT Z (cA Z) Z Z t) aJ.z<|aY Z .nil (fN 1 Z) (fE Z (zBh (cA Z) t.1 t.2) Z) aJ.z<|gC Z (nY Z Z)<|gC Z (yU Z)<|bP 8 Z Z<|aC Z<|fJ<|lL ?_;exact fT ((-1:Int),(wI .i64 (((at' p.2 a.2).length:Int) - (1:Int)))) () h SF Z
      refine eM<|lL ?_;exact fT ((w.2.2.1),(wI .i64 ((wI .i64 ((w.2.2.2.1)+(wI .i64 ((w.2.2.2.2.1)*k))))+(wI .i64 ((w.2.2.2.2.2)*m))))) () h SF Z
     intro i L h;refine aQ<|aA Z<|aA Z<|aA Z<|aA Z<|aA Z<|iH (yP Z) Z<|aB (wB Z Z) Z<|aA Z<|cP Z<|eT h λac af h=>aK (zBg Lp (Db U y ac af) Z (iN [3] Z)) Z λak=>aA Z<|aA Z<|aB (nY Z Z) Z<|cP Z<|eT h λV ag h=>let v:=(wI .i64 (i.1+V));aK (zBg Bc (g_ U V ag) Z .nil) Z λal=>cP Z<|aK (cM (e:=fW) ([v]) [(0,vI v)] Z Z Z Z (jO (vI v) Z) Z Z Z) Z λaj=>cU h λY h=>aK (dN 4 jA Z Z Z (cB (aF.res 0 Z) jA) Z Z Z Z Y Z) Z λae=>aC Z<|fJ<|lL<|aQ<|aA Z<|cP Z<|aC Z<|aO ?_
     exact iG ((d.1++([v])),(wI .i64 (d.2+(1:Int)))) (ae) h SF (aZ.ix [1,2,3,4] Z Z) (aI.refl _ _)
    refine fG ?_;exact fT (d.1) (j) h SF Z
   intro n g h;refine aQ<|aA Z<|aA Z<|bW (iA fW)<|bF (Know.one ((cB (aF.res 4 Z) jA))) λE=>bW (rQ 0 4 Z Z Z) ?_;refine aK (cM (e:=bM.raw) [g] [(0,g)] Z Z Z Z (jO (g) E) Z Z (by simp[cellsOf,bM.raw,E])) Z λai=>?_;refine bF (dX 4 Z) λC=>bF (dX 1 Z) λD=>cU h λN h=>bW (nO 4 1 Z Z Z) ?_;refine aK (aP.append 2 0 Z Z Z Z Z Z Z (by have q:=N;have q1:=C;have q2:=D;(try simp only[zA9,zAg]at q q1 q2 ⊢);omega) (by have q:=N;have q1:=C;have q2:=D;(try simp only[zA9,zAg]at q q1 q2 ⊢);omega) Z) Z λad=>?_;refine aC Z<|fJ<|lL<|aQ<|aA Z<|cP Z<|aC Z<|aO ?_;exact iG ((a.1++[n]),(wI .i64 (a.2+(1:Int)))) (ad,(b.2++[g])) h SF (aZ.ix [1,2,3] Z Z) (aI.refl _ _)
  refine fG ?_;exact cI (a.1) (b.1,b.2) h SF (aZ.ix [1,2] Z Z) (aI.refl _ _)
 intro K A h;unfold xU at h;refine aU<|aA Z<|aC Z<|aO<|aR ?_;cases h;exact iS (A.1,A.2) Z Z (RV.tmp Z) (aZ.refl _) aI.nil
def tM (a:Unit):Option Bool:=
 some (true)
def tO (c d:bQ) (a:Int) (b:(Int)->Option Bool):Option Bool:=
 if a<(c.length:Int)then(ck (0<=a/\a<(c.length:Int)) (ck (0<=a/\a<(d.length:Int)) (if(at' c a)≠(at' d a)then(some (false))else(b (wI .i64 (a+(1:Int)))))))else(tM (()))
def vN (U:Nat) (a b:bQ):Option Bool:=
 if(a.length:Int)≠(b.length:Int)then(some (false))else(bJ (tO a b) U (0:Int))
theorem acW:bB Tryz.prog 62:=Tryz.call62
theorem JG (U:Nat) {f g:bQ} (i j:V0) (r:Bool) (h:vN U f g=some r):
  bD Tryz.prog 62 #[i,j] [Sl aN i f,Sl aN j g] (λx:Unit=>vB (r)) (λx l=>l) (λ_ l=>l):=by
 refine bD.of Tryz.func62 Z Tryz.ntmps62 Z λc=>?_;refine aU<|aC Z<|aO<|aL<|aU<|aA Z<|iH (cA Z) Z<|aA Z<|iH (mM Z) Z<|k_ Z<|aO ?_;refine eN h Z (λh=>?_) λh=>?_
 ·refine aU<|aC Z<|aO<|aR<|aG ?_;cases h;exact iZ Z
 refine cL<|aL<|eR (λd=>tM d=some r) (λd k=>[]) (λd k=>[]) ?_ ?_
 ·refine aU<|aC Z<|aO<|aS<|fI (tO f g) (λe m=>[(0,i),(1,j),(5,vI (e))]) (λe m=>[]) (0:Int) () h SF (aZ.refl _) ?_;intro n e m h;refine aL<|aU<|aA Z<|aA Z<|iH (cA Z) Z<|cV Z<|aO ?_;refine eN h Z (λh=>?_) λh=>?_
  ·refine cL<|aL<|aS<|aL ?_;refine sW [0,0,3,7,0,0,48,112,255] 8 mixedOrders ?_;refine aV Z<|aV Z<|cU h λa h=>aY Z .nil (fN 0 Z) (bE Z Z (cA Z) Z Z a) aJ.z<|aY Z .nil (fN 0 Z) (cK Z (cA Z) Z Z Z eY a) aJ.z<|aV Z<|aV Z<|cU h λb h=>aY Z .nil (fN 1 Z) (bE Z Z (cA Z) Z Z b) aJ.z<|aY Z .nil (fN 1 Z) (cK Z (cA Z) Z Z Z eY b) aJ.z<|bP 8 Z Z<|k_ Z<|aO ?_;refine eN h Z (λh=>?_) λh=>?_
   ·refine aU<|aC Z<|aO<|aR<|bI<|aG<|aG<|bI<|aG ?_;cases h;exact iZ Z
   refine eM<|lL<|aQ<|aA Z<|cP Z<|aC Z<|aO ?_;exact xY (wI .i64 (e+(1:Int))) () h SF Z
  refine fG ?_;exact fT () (()) h SF Z
 intro d k h;unfold tM at h;refine aU<|aC Z<|aO<|aR ?_;cases h;exact iZ Z
def uP (a:Unit):Option Bool:=
 some (true)
def uQ (b:Int) (a:(Int)->Option Bool) (c:Unit):Option Bool:=
 a (wI .i64 (b+(1:Int)))
def uR (b:Int) (a:(Int)->Option Bool) (c:Bool):Option Bool:=
 if c=true then(some (false))else(a (wI .i64 (b+(1:Int))))
def fU (U:Nat) (c:cO) (a:Int) (f:(Int)->Option Bool) (b:Int) (e:(Int)->Option Bool):Option Bool:=
 ck (0<=a/\a<(c.2.length:Int)) (if b<((at' c.2 a).length:Int)then(ck (0<=a/\a<(c.2.length:Int)) (ck (0<=b/\b<((at' c.2 a).length:Int)) (Option.bind (rW U ((c.1,c.2)) ((at' (at' c.2 a) b).1) a) λd=>(if d<(0:Int)then(uR b e (true))else(ck (0<=((at' (at' c.2 a) b).1)/\((at' (at' c.2 a) b).1)<(c.2.length:Int)) (ck (0<=d/\d<((at' c.2 ((at' (at' c.2 a) b).1)).length:Int)) (uR b e (decide (((at' (at' c.2 ((at' (at' c.2 a) b).1)) d).2)≠((at' (at' c.2 a) b).2))))))))))else(uQ a f (())))
def gY (U:Nat) (c:cO) (a:Int) (b:(Int)->Option Bool):Option Bool:=
 if a<(c.2.length:Int)then(bJ (fU U c a b) U (0:Int))else(uP (()))
def oI (U:Nat) (a:cO) (b:Unit):Option Bool:=
 bJ (gY U a) U (0:Int)
def uS (b:Int) (a:(Int)->Option Bool) (c:Unit):Option Bool:=
 a (wI .i64 (b+(1:Int)))
def iI (e:cO) (a:Int) (c:(Int)->Option Bool) (b:Int) (d:(Int)->Option Bool):Option Bool:=
 if b<a then(ck (0<=b/\b<(e.1.length:Int)) (ck (0<=a/\a<(e.1.length:Int)) (if(at' e.1 b)=(at' e.1 a)then(some (false))else(d (wI .i64 (b+(1:Int)))))))else(uS a c (()))
def mQ (U:Nat) (d:cO) (b:Int) (a:(Int)->Option Bool) (c:Bool):Option Bool:=
 if c=true then(some (false))else(bJ (iI d b a) U (0:Int))
def gZ (U:Nat) (b:cO) (a:Int) (c:(Int)->Option Bool):Option Bool:=
 if a<(b.2.length:Int)then(ck (0<=a/\a<(b.1.length:Int)) (Option.bind (gX U (at' b.1 a) (0:Int) (255:Int)) λd=>(if(!d)=true then(mQ U b a c (true))else(ck (0<=a/\a<(b.2.length:Int)) (if(b.2.length:Int)<=((at' b.2 a).length:Int)then(mQ U b a c (true))else(ck (0<=a/\a<(b.2.length:Int)) (Option.bind (lZ U (at' b.2 a) a (b.2.length:Int)) λe=>(mQ U b a c ((!e))))))))))else(oI U b (()))
def uO (U:Nat) (b:cO) (a:Bool):Option Bool:=
 if a=true then(some (false))else(bJ (gZ U b) U (0:Int))
def iL (U:Nat) (a:cO):Option Bool:=
 Option.bind (gX U (a.2.length:Int) (1:Int) (24:Int)) λb=>(if(!b)=true then(uO U a (true))else(uO U a (decide ((a.1.length:Int)≠(a.2.length:Int)))))
theorem Sw:bB Tryz.prog 74:=Tryz.call74
theorem DX (U:Nat) {f:cO} (T V:V0) (z2:lE) (r:Bool) (h:iL U f=some r):
  bD Tryz.prog 74 #[Value.agg #[T,V]] [Sl aN T f.1,S2 aX V z2 f.2] (λx:Unit=>vB (r)) (λx l=>l) (λ_ l=>l):=by
 let d:=vI (f.2.length:Int);refine bD.of Tryz.func74 Z Tryz.ntmps74 Z λc=>?_;refine aU<|aK (aP.box (cs:=[T,V]) Z Z) Z λn=>let e:=bL n [T,V] 31;aC Z<|aO<|aU<|bU Z<|dQ 0 Z<|aB (dU Z (mM Z) Z) Z<|aC Z<|aO<|aL<|aL<|eR (λD=>uO U f D=some r) (λD b4=>[(1,vP n),(3,d),(22,vB (D))]) (λD b4=>[e]) ?_ ?_
 ·refine aQ<|aA Z<|eT h λad ah h=>aK (zBg uF (jH U ad ah) Z .nil) Z λan=>aB (kM Z) Z<|aA Z ?_;refine tD (by exact rfl) (by exact rfl) (λq=>?_) (λq=>?_)
  ·have h:=Iv q h;refine aM Z<|aM Z<|aM Z<|aM Z<|aM Z<|dR Z<|aO ?_;exact fT (true) () h SF Z
  have h:=FA q h;refine aT Z (cR Z Z Z Z Z) Z<|aT Z (dL 0 Z Z Z Z Z) Z<|aT Z (fE Z (cA Z) Z) Z<|dC Z<|aT Z (BP Z Z) Z<|eV Z<|aO ?_;exact fT (decide ((f.1.length:Int)≠(f.2.length:Int))) () h SF Z
 intro D b4 h;refine tC h Z (λ_ h=>?_) λ_ h=>?_
 ·refine aU<|aC Z<|aO<|aR<|aG ?_;cases h;exact nH Z
 refine cL<|aL<|eR (λW=>oI U f W=some r) (λW b7=>[(1,vP n),(3,d)]) (λW b7=>[e]) ?_ ?_
 ·refine aU<|aC Z<|aO<|aS<|fI (gZ U f) (λb I=>[(1,vP n),(3,d),(4,vI (b))]) (λb I=>[e]) (0:Int) () h SF (aZ.refl _) ?_;intro ab b I h;let B:=(bJ (gZ U f) ab)
  refine aL<|aU<|aA Z<|aA Z<|cV Z<|aO ?_;refine eN h Z (λh=>?_) λh=>?_
  ·refine cL<|aL<|eR (λt=>uS b B t=some r) (λt J=>[(1,vP n),(3,d),(4,vI (b))]) (λt J=>[e]) ?_ ?_
   ·refine aS<|aL<|aL<|eR (λm=>mQ U f b B m=some r) (λm K=>[(1,vP n),(3,d),(4,vI (b)),(55,vB (m))]) (λm K=>[e]) ?_ ?_
    ·refine aQ<|bU Z<|dQ 0 Z<|aA Z<|cU h λQ h=>aB (bE Z Z (cA Z) Z Z Q) Z<|aB (cK Z (cA Z) Z Z Z eY Q) Z<|eT h λac af h=>aK (zBg uF (jH U ac af) Z .nil) Z λal=>aB (kM Z) Z<|aA Z ?_;refine tD (by exact rfl) (by exact rfl) (λp=>?_) (λp=>?_)
     ·have h:=Iv p h;refine aM Z<|aM Z<|aM Z<|aM Z<|aM Z<|aM Z<|aM Z<|aM Z<|dR Z<|aA Z<|aM Z<|aM Z<|aM Z<|aM Z<|aM Z<|aM Z<|aM Z<|aM Z<|aM Z<|dR Z<|aO ?_;exact fT (true) () h SF Z
     have h:=FA p h;refine aT Z (cR Z Z Z Z Z) Z<|aT Z (dL 0 Z Z Z Z Z) Z<|dC Z<|cU h λw h=>aT Z (bN Z Z (mM Z) Z Z w) Z<|aT Z (bT Z (mM Z) Z Z w) Z<|aT Z (fE Z (zBh (mM Z) w.1 w.2) Z) Z<|dC Z<|aT Z (yV Z Z) Z<|eV Z<|aA Z ?_;refine BZ h Z (λ_ h=>?_) λ_ h=>?_
     ·refine aM Z<|aM Z<|aM Z<|aM Z<|aM Z<|aM Z<|aM Z<|aM Z<|aM Z<|dR Z<|aO ?_;exact fT (true) () h SF Z
     refine aT Z (cR Z Z Z Z Z) Z<|aT Z (dL 0 Z Z Z Z Z) Z<|dC Z<|cU h λy h=>aT Z (bN Z Z (mM Z) Z Z y) Z<|aT Z (bT Z (mM Z) Z Z y) Z<|dC Z<|dC Z<|eT h λS ag h=>qH Z (zBg aaa (HV U ((at' z2 b).1) S ag) Z (aI.cons (zBh (mM Z) y.1 y.2) .nil)) Z λam=>aT Z (kM Z) Z<|eV Z<|aO ?_;exact fT ((!S)) () h SF Z
    intro m K h;refine tC h Z (λ_ h=>?_) λ_ h=>?_
    ·refine aU<|aC Z<|aO<|aR<|aG<|bI<|aG<|aG<|bI<|aG ?_;cases h;exact nH Z
    refine cL<|aU<|aC Z<|aO<|aS<|fI (iI f b B) (λu L=>[(1,vP n),(3,d),(4,vI (b)),(5,vI (u))]) (λu L=>[e]) (0:Int) () h SF (aZ.refl _) ?_;intro aj u L h;refine aL<|aU<|aA Z<|aA Z<|cV Z<|aO ?_;refine eN h Z (λh=>?_) λh=>?_
    ·refine cL<|aL<|aS<|aL ?_;refine sW [0,1,0,7,15,0,32,0,224,480,1023] 10 mixedOrders ?_;refine cH Z<|fO 0 Z<|aV Z<|cU h λO h=>aY Z .nil (fN 0 Z) (bE Z Z (cA Z) Z Z O) aJ.z<|aY Z .nil (fN 0 Z) (cK Z (cA Z) Z Z Z eY O) aJ.z<|cH Z<|fO 0 Z<|aV Z<|cU h λP h=>aY Z .nil (fN 0 Z) (bE Z Z (cA Z) Z Z P) aJ.z<|aY Z .nil (fN 0 Z) (cK Z (cA Z) Z Z Z eY P) aJ.z<|bP 10 Z Z<|cC Z<|aO ?_;refine eN h Z (λh=>?_) λh=>?_
     ·refine aU<|aC Z<|aO<|aR<|bI<|aG<|aG<|bI<|bI<|aG<|aG<|bI<|aG ?_;cases h;exact nH Z
     refine eM<|lL<|aQ<|aA Z<|cP Z<|aC Z<|aO ?_;exact xY (wI .i64 (u+(1:Int))) () h SF Z
    refine rP<|fX<|fX<|yQ<|lL ?_;exact fT () (()) h SF Z
   intro t J h;unfold uS at h;refine aQ<|aA Z<|cP Z<|aC Z<|aO ?_;exact xY (wI .i64 (b+(1:Int))) () h SF Z
  refine fG ?_;exact fT () (()) h SF Z
 intro W b7 h;unfold oI at h;refine aL<|eR (λX=>uP X=some r) (λX b9=>[]) (λX b9=>[]) ?_ ?_
 ·refine aU<|aC Z<|aO<|aS<|fI (gY U f) (λa E=>[(1,vP n),(3,d),(6,vI (a))]) (λa E=>[e]) (0:Int) () h SF (aZ.refl _) ?_;intro Y a E h;let C:=(bJ (gY U f) Y)
  refine aL<|aU<|aA Z<|aA Z<|cV Z<|aO ?_;refine eN h Z (λh=>?_) λh=>?_
  ·refine cL<|aL<|eR (λs=>uQ a C s=some r) (λs F=>[(1,vP n),(3,d),(6,vI (a))]) (λs F=>[e]) ?_ ?_
   ·refine aS<|aU<|aC Z<|aO<|aS<|fI (fU U f a C) (λg G=>[(1,vP n),(3,d),(6,vI (a)),(7,vI (g))]) (λg G=>[e]) (0:Int) () h SF (aZ.refl _) ?_;intro aa g G h;let A:=(at' (at' f.2 a) g)
    refine aL<|aU<|aA Z<|bU Z<|dQ 0 Z<|aA Z<|cU h λv h=>aB (bN Z Z (mM Z) Z Z v) Z<|aB (bT Z (mM Z) Z Z v) Z<|aB (fE Z (zBh (mM Z) v.1 v.2) Z) Z<|cV Z<|aO ?_;refine eN h Z (λh=>?_) λh=>?_
    ·refine cL<|aL<|aS<|aU<|bU Z<|dQ 0 Z<|aA Z<|cU h λi h=>aB (bN Z Z (mM Z) Z Z i) Z<|aB (bT Z (mM Z) Z Z i) Z<|aA Z<|cU h λM h=>aB (bE Z Z (zBh (mM Z) i.1 i.2) Z Z M) Z<|aB (gU (cs:=[vI (A.1),vI (A.2)]) Z (zBh (mM Z) i.1 i.2) cW Z Z Z Z M) Z<|aK (aP.alloc (cs:=Wi) Z Z) Z λai=>cG 0 (vs:=[vI ((at' (at' f.2 a) g).1),vI ((at' (at' f.2 a) g).2)]) Z Z Z Z Z Z<|aO<|aU<|dM 1 Z<|bU Z<|dQ 0 Z<|aA Z<|eT h λR ae h=>aK (zBg OA (Fi U T V z2 R ae) Z (iN [0,1] Z)) Z λak=>aC Z<|aO<|aL<|eR (λk=>uR g (bJ (fU U f a C) aa) k=some r) (λk H=>[(1,vP n),(3,d),(6,vI (a)),(7,vI (g)),(116,vB (k))]) (λk H=>[e]) ?_ ?_
     ·refine sW [0,1,3,7,15,7,39,127,255,7,1023,2047,4095,7,8199,32767,65535] 15 mixedOrders ?_;refine aV Z<|gC Z (CO Z Z)<|aV Z ?_;refine AY (by exact rfl) (by exact rfl) (by exact rfl) (λo=>?_) (λo=>?_)
      ·have h:=Iv o h;refine bA Z Z Z Z<|bA Z Z Z Z<|bA Z Z Z Z<|bA Z Z Z Z<|bA Z Z Z Z<|bA Z Z Z Z<|bA Z Z Z Z<|bA Z Z Z Z<|bA Z Z Z Z<|bA Z Z Z Z<|bA Z Z Z Z<|bA Z Z Z Z<|bP 15 Z Z<|aM Z<|dR Z<|aO ?_;exact cI (true) () h SF (aZ.ix [1] Z Z) (aI.refl _ _)
      have h:=XT o h;refine cS Z .nil .nil (cR Z Z Z Z Z) aJ.z<|cS Z (aZ.cons 1 Z .nil) .nil (dL 0 Z Z Z Z Z) aJ.z<|cS Z .nil .nil (cR Z Z Z Z Z) aJ.z<|cS Z (aZ.cons 0 Z .nil) .nil (dL 0 Z Z Z Z Z) aJ.z<|cU h λj h=>cS Z .nil (fN 1 Z) (bN Z Z (cA Z) Z Z j) aJ.z<|cS Z .nil (fN 1 Z) (bT Z (cA Z) Z Z j) aJ.z<|cS Z .nil .nil (eO Z) aJ.z<|cU h λN h=>cS Z .nil (fN 1 Z) (bE Z Z (zBh (cA Z) j.1 j.2) Z Z N) aJ.z<|cS Z .nil .nil (cZ Z Z Z Z Z) aJ.z<|cS Z .nil (fN 1 Z) (eL Z (zBh (cA Z) j.1 j.2) Z Z Z EG N) aJ.z<|cS Z .nil .nil (cR Z Z Z Z Z) aJ.z<|cS Z (aZ.cons 0 Z .nil) .nil (dL 0 Z Z Z Z Z) aJ.z<|bP 15 Z Z<|aT Z (BP Z Z) Z<|eV Z<|aO ?_;exact cI (decide (((at' (at' f.2 (A.1)) R).2)≠(A.2))) () h SF (aZ.ix [1] Z Z) (aI.refl _ _)
     intro k H h;refine tC h Z (λ_ h=>?_) λ_ h=>?_
     ·refine aU<|aC Z<|aO<|aR<|bI<|aG<|aG<|bI<|bI<|aG<|aG<|bI<|aG ?_;cases h;exact nH Z
     refine eM<|lL<|aQ<|aA Z<|cP Z<|aC Z<|aO ?_;exact xY (wI .i64 (g+(1:Int))) () h SF Z
    refine rP<|fX<|fX<|yQ<|lL ?_;exact fT () (()) h SF Z
   intro s F h;unfold uQ at h;refine aQ<|aA Z<|cP Z<|aC Z<|aO ?_;exact xY (wI .i64 (a+(1:Int))) () h SF Z
  refine fG ?_;exact cI () (()) h SF .nil (aI.refl _ _)
 intro X b9 h;unfold uP at h;refine aU<|aC Z<|aO<|aR ?_;cases h;exact iZ Z
end Go.Proofs.YtflciafboapaaaaGreat
namespace Go.Proofs.YtflciafboapaaaaGreat
open Go.Sx
theorem Bn {R:Type} {step:Int->(Int->Option R)->Option R} {K:Option R} {bad:R} (N:Nat) (p:Nat->Prop)
  (r:∀(k:Nat) c,k<N->p k->step k c=c ((k:Int)+1)) (i:∀(k:Nat) c,k<N->¬p k->step k c=some bad) (j:∀c,step N c=K):
  ∀(b:Nat),N<b->((∀k,k<N->p k)->bJ step b 0=K)/\(¬(∀k,k<N->p k)->bJ step b 0=some bad):=by
 intro b q;have s:∀(d a b:Nat),a+d=N->d<b->((∀k,a<=k->k<N->p k)->bJ step b (a:Int)=K)/\(¬(∀k,a<=k->k<N->p k)->bJ step b (a:Int)=some bad):=by
  intro d
  induction d with
  |zero=>
   intro a b v q;obtain rfl:a=N:=by omega
   cases b with
   |zero=>omega
   |succ f=>exact⟨λ_=>j _,λh=>absurd (λk m g=>by omega) h⟩
  | succ d ih =>
   intro a b v q;cases b with
   |zero=>omega
   | succ f =>
    obtain⟨t,u⟩:=ih (a+1) f (by omega) (by omega);have e:((a+1:Nat):Int)=(a:Int)+1:=by omega
    rw[e]at t u;by_cases n:p a
    ·have w:bJ step (f+1) (a:Int)=bJ step f ((a:Int)+1):=r a _ (by omega) n;rw[w];refine⟨λh=>t λk m g=>h k (by omega) g,λh=>u λo=>h λk m g=> ?_⟩
     by_cases l:k=a
     ·subst l;exact n
     ·exact o k (by omega) g
    ·exact⟨λh=>absurd (h a (zAe _) (by omega)) n,λ_=>i a _ (by omega) n⟩
 obtain⟨m,g⟩:=s N 0 b (by omega) q;exact⟨λh=>m λk _ l=>h k l,λh=>g λo=>h λk l=>o k (by omega) l⟩
abbrev GR:=List Int×hJ
theorem iJ (a:Nat) (v c d:Int):gX a v c d=some (decide (c<=v/\v<=d)):=by
 unfold gX BV;by_cases h:c<=v
 ·rw[if_pos h];congr 1;exact decide_eq_decide.2 ⟨λb=>⟨h,b⟩,λb=>b.2⟩
 ·rw[if_neg h,zA3 (λb=>h b.1)]
abbrev row (g:GR) (v:Nat):fL:=at' g.2 (v:Int)
abbrev FV (g:GR) (v:Nat):Int:=at' g.1 (v:Int)
abbrev jP (l:fL) (i:Nat):gK:=at' l (i:Int)
def light (g:GR):Prop:=g.1.length<=30/\g.2.length<=30/\∀v,v<g.2.length->(row g v).length<=30
def Jf (l:fL) (v n i:Nat):Prop:=(0<=(jP l i).1/\(jP l i).1<=(n:Int) - 1)/\(jP l i).1≠v/\(1<=(jP l i).2/\(jP l i).2<=15)/\∀k,k<i->(jP l k).1≠(jP l i).1
def qI (l:fL) (v n:Nat):Prop:=∀i,i<l.length->Jf l v n i
theorem sX (l:fL) (v n:Nat) (o:l.length<=30) (p:n<=30):(qI l v n->lZ 1000 l v n=some true)/\(¬qI l v n->lZ 1000 l v n=some false):=by
 unfold lZ;have a:∀(i:Nat) (b:Int->Option Bool),i<l.length->((∀k,k<i->(jP l k).1≠(jP l i).1)->bJ (jT l i b) 1000 0=b ((i:Int)+1))/\(¬(∀k,k<i->(jP l k).1≠(jP l i).1)->bJ (jT l i b) 1000 0=some false):=by
  intro i b h;refine Bn i _ (λk d m c=> ?_) (λk d m c=> ?_) (λd=> ?_) 1000 (by omega)
  ·unfold jT;rw[if_pos (by omega),cF (by omega),cF (by omega),if_neg c,wr (by omega) (by omega)]
  ·unfold jT;rw[if_pos (by omega),cF (by omega),cF (by omega),if_pos (zAx.1 c)]
  ·unfold jT qQ;rw[if_neg (by omega),wr (by omega) (by omega)]
 refine Bn l.length (Jf l v n) (λi b h c=> ?_) (λi b h c=> ?_) (λb=> ?_) 1000 (by omega)
 ·obtain⟨e,f,g,j⟩:=c;unfold iO lJ;rw[if_pos (by omega),cF (by omega),wr (x:=(n:Int) - 1) (by omega) (by omega),iJ,zA5 e,bG Z,if_neg (by simp),cF (by omega),if_neg f,cF (by omega),iJ,zA5 g,bG Z,if_neg (by simp)];exact(a i b h).1 j
 ·unfold iO lJ;rw[if_pos (by omega),cF (by omega),wr (x:=(n:Int) - 1) (by omega) (by omega),iJ];by_cases e:0<=(jP l i).1/\(jP l i).1<=(n:Int) - 1
  ·rw[zA5 e,bG Z,if_neg (by simp),cF (by omega)];by_cases f:(jP l i).1=v
   ·rw[if_pos f];rfl
   ·rw[if_neg f,cF (by omega),iJ];by_cases g:1<=(jP l i).2/\(jP l i).2<=15
    ·rw[zA5 g,bG Z,if_neg (by simp)];exact(a i b h).2 λj=>c ⟨e,f,g,j⟩
    ·rw[zA3 g];rfl
  ·rw[zA3 e];rfl
 ·unfold iO qP;rw[if_neg (by omega)]
def Bg (l:fL) (u:Int):Int:=match l.findIdx? (λx=>decide (x.1=u))with
 |some i=>i
 |none=> -1
theorem Kh {l:fL} {u:Int} (i:Nat) (b:i<l.length) (d:(jP l i).1=u) (c:∀k,k<i->(jP l k).1≠u):Bg l u=i:=by
 have:l.findIdx? (λx=>decide (x.1=u))=some i:=by
  rw[List.findIdx?_eq_some_iff_getElem];have e:∀k (a:k<l.length),jP l k=l[k]:=λk a=>by rw[jP,mV,zAd,zA2 a];rfl
  refine⟨b,by rw[<-e i b];simpa using d,λk a=> ?_⟩
  have:=c k a;rw[e k (by omega)]at this;simpa using this
 rw[Bg,this]
theorem QP {l:fL} {u:Int} (b:∀k,k<l.length->(jP l k).1≠u):Bg l u = -1:=by
 have:l.findIdx? (λx=>decide (x.1=u))=none:=by
  rw[List.findIdx?_eq_none_iff];intro x c;obtain⟨k,a,rfl⟩:=List.getElem_of_mem c;have:=b k a;rw[jP,mV,zAd,zA2 a]at this;simpa using this
 rw[Bg,this]
theorem vV (l:fL) (u:Int):(∃i,i<l.length/\(jP l i).1=u/\(∀k,k<i->(jP l k).1≠u)/\Bg l u=i)\/((∀k,k<l.length->(jP l k).1≠u)/\Bg l u = -1):=by
 by_cases h:∀k,k<l.length->(jP l k).1≠u
 ·exact .inr ⟨h,QP h⟩
 ·left;have f:∃k,k<l.length/\(jP l k).1=u:=by
   apply Classical.byContradiction;intro o;exact h λk g e=>o ⟨k,g,e⟩
  obtain⟨k,g,n⟩:=f;have:∀m,(∃k,k<=m/\k<l.length/\(jP l k).1=u)->∃i,i<l.length/\(jP l i).1=u/\∀k,k<i->(jP l k).1≠u:=by
   intro m
   induction m with
   |zero=>rintro⟨k,d,a,b⟩;exact⟨k,a,b,λj p=>by omega⟩
   |succ m q=>
    rintro⟨k,d,a,b⟩;by_cases c:∃j,j<=m/\j<l.length/\(jP l j).1=u
    ·exact q c
    ·exact⟨k,a,b,λj p e=>c ⟨j,by omega,by omega,e⟩⟩
  obtain⟨i,d,a,b⟩:=this k ⟨k,zAe _,g,n⟩;exact⟨i,d,a,b,Kh i d a b⟩
theorem HR (g:GR) (v:Nat) (u:Int) (m:v<g.2.length) (l:(row g v).length<=30):rW 1000 g v u=some (Bg (row g v) u):=by
 unfold rW;rcases vV (row g v) u with⟨i,j,h,c,b⟩|⟨c,b⟩
 ·rw[b];refine Iw (λx:Int=>∃k:Nat,x=k/\k<=i) (λx=>31 - x.toNat) ?_ 1000 _ ⟨0,rfl,by omega⟩ (by omega);rintro x d ⟨k,rfl,f⟩ a;unfold Bu;rw[cF (by omega),if_pos (show(k:Int)<((row g v).length:Int) by omega),cF (by omega),cF (show 0<=(k:Int)/\(k:Int)<((row g v).length:Int) by omega)];by_cases e:k=i
  ·subst e;exact if_pos h
  ·rw[if_neg (c k (by omega)),wr (by omega) (by omega)];exact a _ ⟨k+1,by omega,by omega⟩ (by omega)
 ·rw[b];refine Iw (λx:Int=>∃k:Nat,x=k/\k<=(row g v).length) (λx=>31 - x.toNat) ?_ 1000 _ ⟨0,rfl,by omega⟩ (by omega);rintro x d ⟨k,rfl,f⟩ a;unfold Bu;rw[cF (by omega)];by_cases e:k<(row g v).length
  ·rw[if_pos (show(k:Int)<((row g v).length:Int) by omega),cF (by omega),cF (show 0<=(k:Int)/\(k:Int)<((row g v).length:Int) by omega),if_neg (c k e),wr (by omega) (by omega)];exact a _ ⟨k+1,by omega,by omega⟩ (by omega)
  ·rw[if_neg (show¬(k:Int)<((row g v).length:Int) by omega)];rfl
theorem Ix {X R:Type} {step:X->(X->Option R)->Option R} {K:X->Option R} {bad:R} (N:Nat) (p:Nat->Prop) (I:Nat->X->Prop)
  (t:∀(k:Nat) x g,k<N->I k x->p k->∃c,I (k+1) c/\step x g=g c) (j:∀(k:Nat) x g,k<N->I k x->¬p k->step x g=some bad) (l:∀x g,I N x->step x g=K x):
  ∀(b:Nat) (x:X),I 0 x->N<b->((∀k,k<N->p k)->∃c,I N c/\bJ step b x=K c)/\(¬(∀k,k<N->p k)->bJ step b x=some bad):=by
 intro b x e s;have v:∀(d a b:Nat) (x:X),a+d=N->d<b->I a x->((∀k,a<=k->k<N->p k)->∃c,I N c/\bJ step b x=K c)/\(¬(∀k,a<=k->k<N->p k)->bJ step b x=some bad):=by
  intro d
  induction d with
  |zero=>
   intro a b x w s e;obtain rfl:a=N:=by omega
   cases b with
   |zero=>omega
   |succ f=>exact⟨λ_=>⟨x,e,l _ _ e⟩,λh=>absurd (λk n i=>by omega) h⟩
  | succ d ih =>
   intro a b x w s e;cases b with
   |zero=>omega
   | succ f =>
    by_cases o:p a
    ·obtain⟨c,r,u⟩:=t a x (bJ step f) (by omega) e o;have u:bJ step (f+1) x=bJ step f c:=u;obtain⟨y,z⟩:=ih (a+1) f c (by omega) (by omega) r;rw[u];refine⟨λh=>y λk n i=>h k (by omega) i,λh=>z λq=>h λk n i=> ?_⟩
     by_cases m:k=a
     ·subst m;exact o
     ·exact q k (by omega) i
    ·exact⟨λh=>absurd (h a (zAe _) (by omega)) o,λ_=>j a x _ (by omega) e o⟩
 obtain⟨n,i⟩:=v N 0 b x (by omega) s e;exact⟨λh=>n λk _ m=>h k m,λh=>i λq=>h λk m=>q k (by omega) m⟩
def AN (g:GR) (v i:Nat):Prop:=∃j,j<(at' g.2 (jP (row g v) i).1).length/\(jP (at' g.2 (jP (row g v) i).1) j).1=v/\(jP (at' g.2 (jP (row g v) i).1) j).2=(jP (row g v) i).2
structure Li (g:GR) (v:Nat):Prop where
 id:0<=FV g v/\FV g v<=255
 deg:(row g v).length<g.2.length
 links:qI (row g v) v g.2.length
 ids:∀k,k<v->FV g k≠FV g v
structure VG (g:GR):Prop where
 n1:1<=g.2.length
 n24:g.2.length<=24
 len:g.1.length=g.2.length
 node:∀v,v<g.2.length->Li g v
 sym:∀v,v<g.2.length->∀i,i<(row g v).length->AN g v i
theorem QV (g:GR) (N:light g):(VG g->iL 1000 g=some true)/\(¬VG g->iL 1000 g=some false):=by
 obtain⟨S,H,t⟩:=N;unfold iL;rw[iJ,bG Z];by_cases z:1<=g.2.length/\g.2.length<=24
 rotate_left
 ·rw[zA3 (by omega)];exact⟨λh=>absurd ⟨h.n1,h.n24⟩ z,λ_=>rfl⟩
 rw[zA5 (by omega),if_neg (by simp)];by_cases I:g.1.length=g.2.length
 rotate_left
 ·rw[zA5 (by omega)];exact⟨λh=>absurd h.len I,λ_=>rfl⟩
 rw[zA3 (by omega)];unfold uO;rw[if_neg (by simp)];have o:∀(v:Nat) (b:Int->Option Bool),v<g.2.length->((∀k,k<v->FV g k≠FV g v)->bJ (iI g v b) 1000 0=b ((v:Int)+1))/\(¬(∀k,k<v->FV g k≠FV g v)->bJ (iI g v b) 1000 0=some false):=by
  intro v b d;refine Bn v _ (λk a C c=> ?_) (λk a C c=> ?_) (λa=> ?_) 1000 (by omega)
  ·unfold iI;rw[if_pos (by omega),cF (by omega),cF (by omega),if_neg c,wr (by omega) (by omega)]
  ·unfold iI;rw[if_pos (by omega),cF (by omega),cF (by omega),if_pos (zAx.1 c)]
  ·unfold iI uS;rw[if_neg (by omega),wr (by omega) (by omega)]
 have l:=Bn (step:=gZ 1000 g) (K:=oI 1000 g ()) (bad:=false) g.2.length (Li g) (λv b d c=> ?_) (λv b d c=> ?_) (λb=> ?_) 1000 (by omega)
 rotate_left
 ·unfold gZ mQ;rw[if_pos (by omega),cF (by omega),iJ,zA5 c.id,bG Z,if_neg (by simp),cF (by omega),if_neg (show¬((g.2.length:Int)<=((row g v).length:Int))from by have:=c.deg;omega),cF (by omega),(sX (row g v) v g.2.length (t v d) H).1 c.links,bG Z,if_neg (by simp)];exact(o v b d).1 c.ids
 ·unfold gZ mQ;rw[if_pos (by omega),cF (by omega),iJ];by_cases x:0<=FV g v/\FV g v<=255
  rotate_left
  ·rw[zA3 x];rfl
  rw[zA5 x,bG Z,if_neg (by simp),cF (by omega)];by_cases J:(row g v).length<g.2.length
  rotate_left
  ·rw[if_pos (show(g.2.length:Int)<=((row g v).length:Int) by omega)];rfl
  rw[if_neg (show¬(g.2.length:Int)<=((row g v).length:Int) by omega),cF (by omega)];by_cases y:qI (row g v) v g.2.length
  rotate_left
  ·rw[(sX (row g v) v g.2.length (t v d) H).2 y];rfl
  rw[(sX (row g v) v g.2.length (t v d) H).1 y,bG Z,if_neg (by simp)];exact(o v b d).2 λL=>c ⟨x,J,y,L⟩
 ·unfold gZ;rw[if_neg (by omega)]
 by_cases q:∀v,v<g.2.length->Li g v
 rotate_left
 ·exact⟨λh=>absurd h.node q,λ_=>l.2 q⟩
 rw[l.1 q];unfold oI;have f:∀(v:Nat) (b:Int->Option Bool),v<g.2.length->((∀i,i<(row g v).length->AN g v i)->bJ (fU 1000 g v b) 1000 0=b ((v:Int)+1))/\(¬(∀i,i<(row g v).length->AN g v i)->bJ (fU 1000 g v b) 1000 0=some false):=by
  intro v b d;have P:=t v d;have n:∀(i:Nat) a,i<(row g v).length->(AN g v i->fU 1000 g v b i a=a ((i:Int)+1))/\(¬AN g v i->fU 1000 g v b i a=some false):=by
   intro i a r;unfold fU;rw[cF (by omega),if_pos (show(i:Int)<((row g v).length:Int) by omega),cF (by omega),cF (show 0<=(i:Int)/\(i:Int)<((row g v).length:Int) by omega)];have R:=((q v d).links i r).1;obtain⟨u,G⟩:∃u:Nat,(jP (row g v) i).1=u:=⟨(jP (row g v) i).1.toNat,by omega⟩
   have p:u<g.2.length:=by omega
   unfold AN;rw[show(at' (at' g.2 (v:Int)) (i:Int))=jP (row g v) i from rfl,G,HR g u v p (t u p),bG Z];have F:=(q u p).links;rcases vV (row g u) v with⟨j,w,m,B,A⟩|⟨M,A⟩
   ·rw[A,if_neg (by omega),cF (by omega),cF (show 0<=(j:Int)/\(j:Int)<((at' g.2 (u:Int)).length:Int)from⟨by omega,by have:j<(row g u).length:=w;exact_mod_cast this⟩)];unfold uR;constructor
    ·rintro⟨k,C,s,E⟩;have D:k=j:=by
      rcases Nat.lt_trichotomy k j with h|h|h
      ·exact absurd s (B k h)
      ·exact h
      ·exact absurd (m.trans s.symm) ((F k C).2.2.2 j h)
     subst D;rw[if_neg (by rw[zA3];simp;exact λh=>h E),wr (by omega) (by omega)]
    ·intro h;rw[if_pos];exact zA5 λQ=>h ⟨j,w,m,Q⟩
   ·rw[A,if_pos (by decide)];exact⟨fun⟨j,w,m,_⟩=>absurd m (M j w),λ_=>rfl⟩
  refine Bn (row g v).length _ (λi a r c=>(n i a r).1 c) (λi a r c=>(n i a r).2 c) (λa=> ?_) 1000 (by omega);unfold fU uQ;rw[cF (by omega),if_neg (show¬(((row g v).length:Nat):Int)<((row g v).length:Int) by omega),wr (by omega) (by omega)]
 have e:=Bn (step:=gY 1000 g) (K:=some true) (bad:=false) g.2.length (λv=>∀i,i<(row g v).length->AN g v i) (λv b d c=> ?_) (λv b d c=> ?_) (λb=> ?_) 1000 (by omega)
 ·exact⟨λh=>e.1 h.sym,λh=>e.2 λO=>h ⟨z.1,z.2,I,q,O⟩⟩
 ·unfold gY;rw[if_pos (by omega)];exact(f v b d).1 c
 ·unfold gY;rw[if_pos (by omega)];exact(f v b d).2 c
 ·unfold gY uP;rw[if_neg (by omega)]
theorem CP {a:Type} [Inhabited a] (l:List a) (i k:Nat) (y:a) (b:i<l.length):at' (l.set i y) (k:Int)=if k=i then y else at' l (k:Int):=by
 rw[mV,mV,zAd,zAd,List.getElem?_set];by_cases h:i=k
 ·rw[if_pos h,if_pos h.symm,if_pos (by omega)];rfl
 ·rw[if_neg h,if_neg (Ne.symm h)]
def Wo (l:bQ) (k:Nat):Prop:=(0<=at' l (k:Int)/\at' l (k:Int)<=255)/\∀j,j<k->at' l (j:Int)≠at' l (k:Int)
theorem xH (l:bQ) (C:l.length<=30):((∀k,k<l.length->Wo l k)->kT 1000 l=some true)/\(¬(∀k,k<l.length->Wo l k)->kT 1000 l=some false):=by
 unfold kT;have i:=Ix (step:=iQ l) (K:=λ_=>some true) (bad:=false) l.length (Wo l) (λk x=>x.1=(k:Int)/\x.2.length=256/\∀z:Nat,z<256->(at' x.2 (z:Int)=true↔∃j,j<k/\at' l (j:Int)=(z:Int))) ?_ ?_ ?_ 1000 ((0:Int),(List.replicate 256 false)) ⟨rfl,List.length_replicate ..,λz c=> ?_⟩ (by omega)
 ·exact⟨λh=>by obtain⟨x,_,b⟩:=i.1 h;exact b,i.2⟩
 ·rintro k ⟨t,m⟩ q w ⟨b,a,f⟩ ⟨D,v⟩;dsimp only at b a f;subst b;obtain⟨z,c⟩:∃z:Nat,at' l (k:Int)=z:=⟨(at' l (k:Int)).toNat,by omega⟩
  have p:z<256:=by omega
  have o:¬at' m (z:Int)=true:=by
   rw[f z p];rintro⟨j,e,d⟩;exact v j e (d.trans c.symm)
  refine⟨((k:Int)+1,m.set z true),⟨by simp,by simp[a],λy B=> ?_⟩,?_⟩
  ·dsimp only;rw[CP _ _ _ _ (by omega)];by_cases g:y=z
   ·subst g;rw[if_pos Z];exact⟨λ_=>⟨k,by omega,c⟩,λ_=>rfl⟩
   ·rw[if_neg g,f y B];constructor
    ·rintro⟨j,e,d⟩;exact⟨j,by omega,d⟩
    ·rintro⟨j,e,d⟩;by_cases n:j=k
     ·subst n;rw[c]at d;omega
     ·exact⟨j,by omega,d⟩
  ·unfold iQ jX;dsimp only;rw[if_pos (by omega),cF (by omega),c,if_neg (by omega),if_neg (by omega),cF ⟨by omega,a⟩,if_neg o,cF ⟨by omega,a⟩,wr (by omega) (by omega)];rfl
 ·rintro k ⟨t,m⟩ q w ⟨b,a,f⟩ A;dsimp only at b a f;subst b;unfold iQ jX;dsimp only;rw[if_pos (by omega),cF (by omega)];by_cases r:at' l (k:Int)<0
  ·rw[if_pos r,if_pos Z]
  rw[if_neg r];by_cases s:255<at' l (k:Int)
  ·rw[if_pos s,if_pos Z]
  rw[if_neg s];obtain⟨z,c⟩:∃z:Nat,at' l (k:Int)=z:=⟨(at' l (k:Int)).toNat,by omega⟩
  rw[c,cF ⟨by omega,a⟩,if_pos];rw[f z (by omega)];apply Classical.byContradiction;intro u;exact A ⟨by omega,λj e d=>u ⟨j,e,d.trans c⟩⟩
 ·rintro⟨t,m⟩ q ⟨b,_,_⟩;dsimp only at b;subst b;unfold iQ oW;dsimp only;rw[if_neg (by omega)]
 ·rw[show at' (List.replicate 256 false) (z:Int)=false by rw[mV,zAd,List.getElem?_replicate,if_pos c];rfl];exact⟨λh=>(by cases h),fun⟨j,e,_⟩=>(by omega)⟩
theorem VI {d e:Type} [DecidableEq d] (k c:d) (v:e):∀l:List (d×e),nU c (EW k v l)=if c=k then some v else nU c l
 | []=>by simp only[EW,nU]
 | x :: xs => by
  simp only[EW];by_cases h:k=x.1
  ·rw[if_pos h];simp only[nU];by_cases a:c=k
   ·rw[if_pos a,if_pos a]
   ·rw[if_neg a,if_neg a,if_neg (λb=>a (b.trans h.symm))]
  ·rw[if_neg h];simp only[nU];by_cases a:c=x.1
   ·rw[if_pos a,if_neg (λb=>h (b.symm.trans a)),if_pos a]
   ·rw[if_neg a,VI k c v xs];by_cases b:c=k
    ·rw[if_pos b,if_pos b]
    ·rw[if_neg b,if_neg b,if_neg a]
theorem QA {a b:Type} [DecidableEq a] {k:a} {v:b} {z:a×b} {l:List (a×b)} (c:nU k l=none):z∈EW k v l↔z=(k,v)\/z∈l:=by
 rw[Jw k v l c];simp[or_comm]
theorem Jv {a c:Type} [DecidableEq a] {k:a}:∀{l:List (a×c)},(∀v,(k,v)∉l)->nU k l=none
 | [],_=>rfl
 |x::xs,h=>by
  simp only[nU];rw[if_neg (λe=>h x.2 (by rw[e];exact zAf ..))];exact Jv λv b=>h v (zAl _ b)
theorem wT {b c:Type} [DecidableEq b] {k:b} {v:c}:∀{l:List (b×c)},nU k l=none->(k,v)∉l
 | [],_=>by simp
 | x :: xs, h => by
  simp only[nU]at h;by_cases e:k=x.1
  ·rw[if_pos e]at h;cases h
  ·rw[if_neg e]at h;intro d;rcases zAm.1 d with a|a
   ·exact e (by rw[<-a])
   ·exact wT h a
theorem Eo {a b:Type} [DecidableEq a] {k:a} {v:b}:∀{l:List (a×b)},nU k l=some v->(k,v)∈l
 |x::xs,h=>by
  simp only[nU]at h;by_cases e:k=x.1
  ·rw[if_pos e]at h;cases h;rw[e];exact zAf ..
  ·rw[if_neg e]at h;exact zAl _ (Eo h)
theorem LU {a b:Type} (p:a×b->Prop) [DecidablePred p]:∀l:List (a×b),MJ (λd x=>if p d then some false else x) (some true) l=some (decide (∀z∈l,¬p z))
 | []=>by simp[MJ]
 |x::xs=>by
  show(if p x then some false else MJ _ (some true) xs)=_;rw[LU p xs];by_cases h:p x
  ·rw[if_pos h];congr 1;symm;exact zA3 λc=>c x (zAf ..) h
  ·rw[if_neg h];congr 1;apply decide_eq_decide.2;simp[h]
def Qc (c:hJ) (v i:Nat) (z:(Int×Int)×Int):Prop:=∃a b:Nat,(a<v\/(a=v/\b<i))/\b<(at' c (a:Int)).length/\z=(((a:Int),(jP (at' c (a:Int)) b).1),(jP (at' c (a:Int)) b).2)
def Nk (a:hJ):Prop:=(∀v,v<a.length->qI (at' a (v:Int)) v a.length)/\∀v,v<a.length->∀i,i<(at' a (v:Int)).length->AN ([],a) v i
theorem IL (c:hJ) (hn:c.length<=30) (hd:∀v,v<c.length->(at' c (v:Int)).length<=30):(Nk c->iV 1000 c=some true)/\(¬Nk c->iV 1000 c=some false):=by
 unfold iV;have s:∀(v:Nat) (m:List ((Int×Int)×Int)) p,v<c.length->(∀z,z∈m↔Qc c v 0 z)->
   (qI (at' c (v:Int)) v c.length->∃X,(∀z,z∈X↔Qc c (v+1) 0 z)/\bJ (dV c ((v:Int),m) p) 1000 ((0:Int),m)=p ((v:Int)+1,X))/\
   (¬qI (at' c (v:Int)) v c.length->bJ (dV c ((v:Int),m) p) 1000 ((0:Int),m)=some false):=by
  intro v m p F hm;have af:=hd v F;have R:=Ix (step:=dV c ((v:Int),m) p) (K:=λx=>p ((v:Int)+1,x.2)) (bad:=false) (at' c (v:Int)).length (Jf (at' c (v:Int)) v c.length) (λi x=>x.1=(i:Int)/\∀z,z∈x.2↔Qc c v i z) ?_ ?_ ?_ 1000 ((0:Int),m) ⟨rfl,hm⟩ (by omega)
  ·refine⟨λh=> ?_,λh=>R.2 h⟩
   obtain⟨x,⟨ah,ad⟩,f⟩:=R.1 h;refine⟨x.2,λz=>(ad z).trans ⟨?_,?_⟩,f⟩
   ·rintro⟨a,b,y,e,l⟩;exact⟨a,b,by omega,e,l⟩
   ·rintro⟨a,b,y,e,l⟩;refine⟨a,b,?_,e,l⟩
    by_cases W:a=v
    ·subst W;exact .inr ⟨rfl,e⟩
    ·omega
  ·rintro i ⟨H,g⟩ I M ⟨f,d⟩ ⟨p1,p2,p3,p4⟩;dsimp only at f d;subst f;have q:nU (((v:Int),(jP (at' c (v:Int)) i).1)) g=none:=by
    apply Jv;intro w hw;obtain⟨a,b,y,e,l⟩:=(d _).1 hw;simp only[Prod.mk.injEq]at l;obtain⟨⟨C,A⟩,_⟩:=l;have:a=v:=by omega
    subst this;have hb:b<i:=by omega
    exact p4 b hb A.symm
   refine⟨((i:Int)+1,EW (((v:Int),(jP (at' c (v:Int)) i).1)) (jP (at' c (v:Int)) i).2 g),⟨by simp,λz=> ?_⟩,?_⟩
   ·dsimp only;rw[QA q,d];constructor
    ·rintro(rfl|⟨a,b,y,e,l⟩)
     ·exact⟨v,i,.inr ⟨rfl,by omega⟩,M,rfl⟩
     ·exact⟨a,b,by omega,e,l⟩
    ·rintro⟨a,b,y,e,l⟩;by_cases J:a=v/\b=i
     ·left;rw[l,J.1,J.2]
     ·right;exact⟨a,b,by omega,e,l⟩
   ·replace p1:0<=(at' (at' c (v:Int)) (i:Int)).1/\(at' (at' c (v:Int)) (i:Int)).1<=(c.length:Int) - 1:=p1;replace p3:1<=(at' (at' c (v:Int)) (i:Int)).2/\(at' (at' c (v:Int)) (i:Int)).2<=15:=p3;unfold dV jC kG;dsimp only;rw[if_pos (by omega),cF (by omega),if_neg (by omega),if_neg (by omega),if_neg (by rw[zA3 p2];simp),if_neg (by omega),if_neg (by rw[zA3 (by omega)];simp),q,if_neg (by simp),wr (by omega) (by omega)]
  ·rintro i ⟨H,g⟩ I M ⟨f,d⟩ P;dsimp only at f d;subst f;unfold dV jC kG;dsimp only;rw[if_pos (by omega),cF (by omega)];by_cases y:(jP (at' c (v:Int)) i).1<0
   ·rw[if_pos y,if_pos Z]
   rw[if_neg y];by_cases e:(c.length:Int)<=(jP (at' c (v:Int)) i).1
   ·rw[if_pos e,if_pos Z]
   rw[if_neg e];by_cases l:(jP (at' c (v:Int)) i).1=v
   ·rw[if_pos (zA5 l)]
   rw[if_neg (by rw[zA3 l];simp)];by_cases C:(jP (at' c (v:Int)) i).2<1
   ·rw[if_pos C,if_pos Z]
   rw[if_neg C];by_cases A:15<(jP (at' c (v:Int)) i).2
   ·rw[if_pos (zA5 A)]
   rw[if_neg (by rw[zA3 A];simp)];have:∃k,k<i/\(jP (at' c (v:Int)) k).1=(jP (at' c (v:Int)) i).1:=by
    apply Classical.byContradiction;intro hc;exact P ⟨by omega,l,by omega,λk N L=>hc ⟨k,N,L⟩⟩
   obtain⟨k,N,L⟩:=this;have n:=(d _).2 ⟨v,k,.inr ⟨rfl,N⟩,by omega,rfl⟩;rw[if_pos];rw[<-L];cases q:nU (((v:Int),(jP (at' c (v:Int)) k).1)) g with
   |some w=>rfl
   | none => exact absurd n (by
     intro n;exact wT q n)
  ·rintro⟨H,g⟩ I ⟨f,d⟩;dsimp only at f d;subst f;unfold dV oA;dsimp only;rw[if_neg (by omega),wr (by omega) (by omega)]
 have t:=Ix (step:=eP 1000 c) (K:=λx=>kF x.2) (bad:=false) c.length (λv=>qI (at' c (v:Int)) v c.length) (λv x=>x.1=(v:Int)/\∀z,z∈x.2↔Qc c v 0 z) ?_ ?_ ?_ 1000 ((0:Int),[]) ⟨rfl,λz=>⟨λh=>(by cases h),fun⟨a,b,y,_⟩=>(by omega)⟩⟩ (by omega)
 rotate_left
 ·rintro v ⟨H,g⟩ p F ⟨f,d⟩ P;dsimp only at f d;subst f;obtain⟨X,y,e⟩:=(s v g p F d).1 P;refine⟨((v:Int)+1,X),⟨by simp,y⟩,?_⟩
  ·unfold eP;dsimp only;rw[if_pos (by omega),cF (by omega)];exact e
 ·rintro v ⟨H,g⟩ p F ⟨f,d⟩ P;dsimp only at f d;subst f;unfold eP;dsimp only;rw[if_pos (by omega),cF (by omega)];exact(s v g p F d).2 P
 ·rintro⟨H,g⟩ p ⟨f,d⟩;dsimp only at f d;subst f;unfold eP;dsimp only;rw[if_neg (by omega)]
 by_cases D:∀v,v<c.length->qI (at' c (v:Int)) v c.length
 rotate_left
 ·exact⟨λh=>absurd h.1 D,λ_=>t.2 D⟩
 obtain⟨⟨H,g⟩,⟨f,d⟩,L⟩:=t.1 D;rw[L];dsimp only at d ⊢;have N:kF g=some (decide (∀z∈g,¬(Option.getD (nU (z.1.2,z.1.1) g) (0:Int))≠z.2)):=LU (λz:(Int×Int)×Int=>(Option.getD (nU (z.1.2,z.1.1) g) (0:Int))≠z.2) g;rw[N];have E:(∀z∈g,¬(Option.getD (nU (z.1.2,z.1.1) g) (0:Int))≠z.2)↔∀v,v<c.length->∀i,i<(at' c (v:Int)).length->AN ([],c) v i:=by
  constructor
  ·intro h v F i M;have hw:=(D v F i M).2.2.1;have n:=(d (((v:Int),(jP (at' c (v:Int)) i).1),(jP (at' c (v:Int)) i).2)).2 ⟨v,i,.inl F,M,rfl⟩;have e:=zAx.1 (h _ n);dsimp only at e;cases q:nU ((jP (at' c (v:Int)) i).1,(v:Int)) g with
   |none=>rw[q]at e;simp only[Option.getD]at e;omega
   | some w =>
    rw[q]at e;simp only[Option.getD]at e;obtain⟨a,b,l,C,A⟩:=(d _).1 (Eo q);simp only[Prod.mk.injEq]at A;obtain⟨⟨T,U⟩,h8⟩:=A;refine⟨b,?_,?_,?_⟩
    ·show b<(at' c (jP (at' c (v:Int)) i).1).length;rw[T];exact C
    ·show(jP (at' c (jP (at' c (v:Int)) i).1) b).1=v;rw[T];exact U.symm
    ·show(jP (at' c (jP (at' c (v:Int)) i).1) b).2=(jP (at' c (v:Int)) i).2;rw[T,<-h8];exact e
  ·intro h z hz ac;obtain⟨a,b,l,C,rfl⟩:=(d z).1 hz;have W:a<c.length:=by omega
   apply ac;obtain⟨j,r,o,B⟩:=h a W b C;have hu:=(D a W b C).1;obtain⟨u,Q⟩:∃u:Nat,(jP (at' c (a:Int)) b).1=u:=⟨(jP (at' c (a:Int)) b).1.toNat,by omega⟩
   replace r:j<(at' c (jP (at' c (a:Int)) b).1).length:=r;replace o:(jP (at' c (jP (at' c (a:Int)) b).1) j).1=a:=o;replace B:(jP (at' c (jP (at' c (a:Int)) b).1) j).2=(jP (at' c (a:Int)) b).2:=B;rw[Q]at r o B;have G:u<c.length:=by omega
   dsimp only;rw[Q,<-B];have n:=(d (((u:Int),(jP (at' c (u:Int)) j).1),(jP (at' c (u:Int)) j).2)).2 ⟨u,j,.inl G,r,rfl⟩;rw[o]at n;cases q:nU ((u:Int),(a:Int)) g with
   |none=>exact absurd n (wT q)
   | some w =>
    obtain⟨Y,S,ae,aa,A⟩:=(d _).1 (Eo q);simp only[Prod.mk.injEq]at A;obtain⟨⟨T,U⟩,h8⟩:=A;have:Y=u:=by omega
    subst this;have ab:S=j:=by
     rcases Nat.lt_trichotomy S j with O|O|O
     ·exact absurd (U.symm.trans o.symm) ((D Y G j r).2.2.2 S O)
     ·exact O
     ·exact absurd (o.trans U) ((D Y G S aa).2.2.2 j O)
    subst ab;exact h8
 by_cases V:∀v,v<c.length->∀i,i<(at' c (v:Int)).length->AN ([],c) v i
 ·rw[zA5 (E.2 V)];exact⟨λ_=>rfl,λh=>absurd ⟨D,V⟩ h⟩
 ·rw[zA3 (λh=>V (E.1 h))];exact⟨λh=>absurd h.2 V,λ_=>rfl⟩
theorem Pe:∀(N:Nat) (f:Nat->Nat) (k:Nat),(∀i,i<k->f i<N)->(∀i j,i<j->j<k->f i≠f j)->k<=N
 |0,f,k,h,_=>by
  cases k with
  |zero=>omega
  |succ k=>exact absurd (h 0 (by omega)) (by omega)
 | N + 1, f, k, h, hd => by
  by_cases b:∃a,a<k/\f a=N
  ·obtain⟨a,g,l⟩:=b;have:=Pe N (λi=>if i<a then f i else f (i+1)) (k - 1) (λi c=>by
    split
    ·have:=h i (by omega);have:=hd i a (by omega) g;omega
    ·have:=h (i+1) (by omega);have:=hd a (i+1) (by omega) (by omega);omega) (λi j d m=>by
    split<;>split
    ·exact hd i j d (by omega)
    ·exact hd i (j+1) (by omega) (by omega)
    ·omega
    ·exact hd (i+1) (j+1) (by omega) (by omega))
   omega
  ·have:=Pe N f k (λi c=>by
    have:=h i c;have:f i≠N:=λe=>b ⟨i,c,e⟩;omega) hd
   omega
theorem SE {l:fL} {v n:Nat} (b:v<n) (h:qI l v n):l.length<n:=by
 have:=Pe n (λi=>if i=l.length then v else(jP l i).1.toNat) (l.length+1) (λi e=>by
  split
  ·exact b
  ·have:=(h i (by omega)).1;omega) (λi j a f=>by
  rw[if_neg (by omega)];have c:=(h i (by omega)).1;split
  ·have:=(h i (by omega)).2.1;omega
  ·have d:=(h j (by omega)).1;have:=(h j (by omega)).2.2.2 i a;omega)
 omega
theorem afz (g:GR) (j:light g):(VG g->iK 1000 g=some true)/\(¬VG g->iK 1000 g=some false):=by
 obtain⟨e,f,i⟩:=j;unfold iK qY qZ;by_cases l:g.1.length<1
 ·rw[if_pos (by omega)];exact⟨λh=>by have:=h.n1;have:=h.len;omega,λ_=>rfl⟩
 rw[if_neg (by omega)];by_cases m:24<g.1.length
 ·rw[if_pos (by omega)];exact⟨λh=>by have:=h.n24;have:=h.len;omega,λ_=>rfl⟩
 rw[if_neg (by omega)];by_cases d:g.1.length=g.2.length
 rotate_left
 ·rw[zA5 (by omega)];exact⟨λh=>absurd h.len d,λ_=>rfl⟩
 rw[zA3 (by omega),if_neg (by simp)];by_cases b:∀k,k<g.1.length->Wo g.1 k
 rotate_left
 ·rw[(xH g.1 e).2 b,bG Z];exact⟨λh=>absurd (λk n=>⟨(h.node k (by omega)).id,(h.node k (by omega)).ids⟩) b,λ_=>rfl⟩
 rw[(xH g.1 e).1 b,bG Z,if_pos Z];by_cases a:Nk g.2
 ·rw[(IL g.2 f i).1 a];exact⟨λ_=>rfl,λh=>absurd ⟨by omega,by omega,d,λv c=>⟨(b v (by omega)).1,SE c (a.1 v c),a.1 v c,(b v (by omega)).2⟩,a.2⟩ h⟩
 ·rw[(IL g.2 f i).2 a];exact⟨λh=>absurd ⟨λv c=>(h.node v c).links,h.sym⟩ a,λ_=>rfl⟩
theorem VG.light {g:GR} (h:VG g):light g:=⟨by have:=h.n24;have:=h.len;omega,by have:=h.n24;omega,λv a=>by have:=(h.node v a).deg;have:=h.n24;omega⟩
abbrev D (d:bQ) (v:Nat):Int:=at' d (v:Int)
def Adj (g:GR) (v u:Nat):Prop:=∃i,i<(row g v).length/\(jP (row g v) i).1=(u:Int)
theorem VG.port {g:GR} (h:VG g) {v i:Nat} (b:v<g.2.length) (a:i<(row g v).length):∃u:Nat,u<g.2.length/\(jP (row g v) i).1=(u:Int)/\Adj g v u:=by
 have c:=((h.node v b).links i a).1;exact⟨(jP (row g v) i).1.toNat,by omega,by omega,i,a,by omega⟩
theorem abZ (d:bQ) (h:d.length<=30):OK (λr:Int=> -1<=r/\(∀v,v<d.length->D d v<=r)/\(r = -1\/∃v,v<d.length/\D d v=r)) (El 1000 d):=by
 unfold El;refine Bo (λz:gK=>∃k:Nat,z.2=k/\k<=d.length /\ -1<=z.1/\(∀v,v<k->D d v<=z.1)/\(z.1 = -1\/∃v,v<k/\D d v=z.1)) (λz=>31 - z.2.toNat) ?_ 1000 _ ⟨0,rfl,by omega,by omega,λv b=>by omega,.inl Z⟩ (by simp);rintro⟨m,z⟩ n ⟨k,j,o,g,c,a⟩ e;dsimp only at j g c a;subst j;unfold Ds Dr;dsimp only;by_cases l:k<d.length
 ·rw[if_pos (by omega),cF (by omega),wr (by omega) (by omega)];refine e _ ⟨k+1,by simp,by omega,by dsimp only;omega,λv b=> ?_,?_⟩ (by dsimp only;omega)
  ·by_cases f:v=k
   ·subst f;show D d v<=max m (D d v);omega
   ·have:=c v (by omega);show D d v<=max m (D d k);omega
  ·by_cases p:m<=D d k
   ·exact .inr ⟨k,by omega,by show D d k=max m (D d k);omega⟩
   ·rcases a with a|⟨v,b,i⟩
    ·left;show max m (D d k) = -1;omega
    ·exact .inr ⟨v,by omega,by show D d v=max m (D d k);omega⟩
 ·rw[if_neg (by omega)];refine⟨m,rfl,g,λv b=>c v (by omega),?_⟩
  rcases a with a|⟨v,b,i⟩
  ·exact .inl a
  ·exact .inr ⟨v,by omega,i⟩
theorem NM (g:GR) (v:Nat) (u:Int) (m:v<g.2.length) (l:(row g v).length<=30):mO 1000 g v u=some (Bg (row g v) u):=by
 unfold mO;rw[cF (by omega)];rcases vV (row g v) u with⟨i,j,h,c,b⟩|⟨c,b⟩
 ·rw[b];refine Iw (λx:Int=>∃k:Nat,x=k/\k<=i) (λx=>31 - x.toNat) ?_ 1000 _ ⟨0,rfl,by omega⟩ (by omega);rintro x d ⟨k,rfl,f⟩ a;unfold xL;rw[if_pos (show(k:Int)<((row g v).length:Int) by omega),cF (show 0<=(k:Int)/\(k:Int)<((row g v).length:Int) by omega)];by_cases e:k=i
  ·subst e;exact if_pos h
  ·rw[if_neg (c k (by omega)),wr (by omega) (by omega)];exact a _ ⟨k+1,by omega,by omega⟩ (by omega)
 ·rw[b];refine Iw (λx:Int=>∃k:Nat,x=k/\k<=(row g v).length) (λx=>31 - x.toNat) ?_ 1000 _ ⟨0,rfl,by omega⟩ (by omega);rintro x d ⟨k,rfl,f⟩ a;unfold xL;by_cases e:k<(row g v).length
  ·rw[if_pos (show(k:Int)<((row g v).length:Int) by omega),cF (show 0<=(k:Int)/\(k:Int)<((row g v).length:Int) by omega),if_neg (c k e),wr (by omega) (by omega)];exact a _ ⟨k+1,by omega,by omega⟩ (by omega)
  ·rw[if_neg (show¬(k:Int)<((row g v).length:Int) by omega)];rfl
section
def ahD (f:Nat->Nat):Nat->Nat
 |0=>0
 |k+1=>ahD f k+f k
open Classical in
noncomputable def ind (p:Prop):Nat:=if p then 1 else 0
end
def Lc (g:GR) (s:Nat):Prop:=(∀v,s.testBit v=true->v<g.2.length)/\∀v u,s.testBit v=true->s.testBit u=true->¬Adj g v u
def T (e:bQ) (k v w:Nat):Int:=if 0<=D e w/\(D e w<k\/(D e w=k/\w<v))then D e w else -1
theorem XU {X R:Type} {step:X->(X->Option R)->Option R} {K:X->Option R} {bad:R} (N:Nat) (p:Nat->Prop) (I:Nat->X->Prop) (B:Nat)
  (t:∀(k:Nat) x q,k<N->k<B->I k x->p k->∃c,I (k+1) c/\step x q=q c) (l:∀(k:Nat) x q,k<N->k<B->I k x->¬p k->step x q=some bad) (s:∀x q,I N x->N<B->step x q=K x):
  ∀(b:Nat) (x:X),I 0 x->B<=b->(N<B\/∃k,k<N/\k<B/\¬p k)->((∀k,k<N->p k)->∃c,I N c/\bJ step b x=K c)/\(¬(∀k,k<N->p k)->bJ step b x=some bad):=by
 intro b x e v hB;have r:∀(d a b:Nat) (x:X),I a x->a+d<N->a+d<B->¬p (a+d)->d<b->bJ step b x=some bad:=by
  intro d
  induction d with
  |zero=>
   intro a b x e j g i v;obtain⟨f,rfl⟩:∃f,b=f+1:=⟨b - 1,by omega⟩
   exact l a x _ j g e i
  | succ d y =>
   intro a b x e j g i v;obtain⟨f,rfl⟩:∃f,b=f+1:=⟨b - 1,by omega⟩
   by_cases u:p a
   ·obtain⟨c,n,o⟩:=t a x (bJ step f) (by omega) (by omega) e u;have o:bJ step (f+1) x=bJ step f c:=o;rw[o];exact y (a+1) f c n (by omega) (by omega) (by rw[show a+1+d=a+(d+1) by omega];exact i) (by omega)
   ·exact l a x _ (by omega) (by omega) e u
 have m:∀(d a b:Nat) (x:X),I a x->a+d=N->N<B->(∀k,a<=k->k<N->p k)->d<b->∃c,I N c/\bJ step b x=K c:=by
  intro d
  induction d with
  |zero=>
   intro a b x e j g i v;obtain⟨f,rfl⟩:∃f,b=f+1:=⟨b - 1,by omega⟩
   obtain rfl:a=N:=by omega
   exact⟨x,e,s x _ e g⟩
  |succ d y=>
   intro a b x e j g i v;obtain⟨f,rfl⟩:∃f,b=f+1:=⟨b - 1,by omega⟩
   obtain⟨c,n,o⟩:=t a x (bJ step f) (by omega) (by omega) e (i a (zAe _) (by omega));have o:bJ step (f+1) x=bJ step f c:=o;rw[o];exact y (a+1) f c n (by omega) g (λk j g=>i k (by omega) g) (by omega)
 constructor
 ·intro h;rcases hB with hB|⟨k,j,_,g⟩
  ·exact m N 0 b x e (by omega) hB (λk _ w=>h k w) (by omega)
  ·exact absurd (h k j) g
 ·intro h;have:∃k,k<N/\k<B/\¬p k:=by
   rcases hB with hB|hB
   ·apply Classical.byContradiction;intro A;exact h λk w=>Classical.byContradiction λi=>A ⟨k,w,by omega,i⟩
   ·exact hB
  obtain⟨k,j,g,z⟩:=this;exact r k 0 b x e (by omega) (by omega) (by rw[Nat.zero_add];exact z) (by omega)
theorem VQ {a:hJ} (q:a.length<=30) {v:Nat} (r:v<a.length):(at' a (v:Int)).length<1000\/∃k,k<(at' a (v:Int)).length/\k<1000/\¬Jf (at' a (v:Int)) v a.length k:=by
 by_cases h:(at' a (v:Int)).length<1000
 ·exact .inl h
 ·right;apply Classical.byContradiction;intro f;have b:∀k,k<40->Jf (at' a (v:Int)) v a.length k:=λk p=>Classical.byContradiction λl=>f ⟨k,by omega,by omega,l⟩;have:=Pe a.length (λi=>(jP (at' a (v:Int)) i).1.toNat) 40 (λi g=>by have:=(b i g).1;omega) (λi j c d o=>by
   have m:=(b i (by omega)).1;have n:=(b j d).1;have e:=(b j d).2.2.2 i c;exact e (by omega))
  omega
theorem E_ (g:GR):(VG g->iL 1000 g=some true)/\(¬VG g->iL 1000 g=some false):=by
 unfold iL;rw[iJ,bG Z];by_cases y:1<=g.2.length/\g.2.length<=24
 rotate_left
 ·rw[zA3 (by omega)];exact⟨λh=>absurd ⟨h.n1,h.n24⟩ y,λ_=>rfl⟩
 rw[zA5 (by omega),if_neg (by simp)];by_cases G:g.1.length=g.2.length
 rotate_left
 ·rw[zA5 (by omega)];exact⟨λh=>absurd h.len G,λ_=>rfl⟩
 rw[zA3 (by omega)];unfold uO;rw[if_neg (by simp)];have o:∀(v:Nat) (b:Int->Option Bool),v<g.2.length->((∀k,k<v->FV g k≠FV g v)->bJ (iI g v b) 1000 0=b ((v:Int)+1))/\(¬(∀k,k<v->FV g k≠FV g v)->bJ (iI g v b) 1000 0=some false):=by
  intro v b e;refine Bn v _ (λk a B c=> ?_) (λk a B c=> ?_) (λa=> ?_) 1000 (by omega)
  ·unfold iI;rw[if_pos (by omega),cF (by omega),cF (by omega),if_neg c,wr (by omega) (by omega)]
  ·unfold iI;rw[if_pos (by omega),cF (by omega),cF (by omega),if_pos (zAx.1 c)]
  ·unfold iI uS;rw[if_neg (by omega),wr (by omega) (by omega)]
 have l:=Bn (step:=gZ 1000 g) (K:=oI 1000 g ()) (bad:=false) g.2.length (Li g) (λv b e c=> ?_) (λv b e c=> ?_) (λb=> ?_) 1000 (by omega)
 rotate_left
 ·unfold gZ mQ;rw[if_pos (by omega),cF (by omega),iJ,zA5 c.id,bG Z,if_neg (by simp),cF (by omega),if_neg (show¬((g.2.length:Int)<=((row g v).length:Int))from by have:=c.deg;omega),cF (by omega),(sX (row g v) v g.2.length (by have:=c.deg;omega) (by omega)).1 c.links,bG Z,if_neg (by simp)];exact(o v b e).1 c.ids
 ·unfold gZ mQ;rw[if_pos (by omega),cF (by omega),iJ];by_cases w:0<=FV g v/\FV g v<=255
  rotate_left
  ·rw[zA3 w];rfl
  rw[zA5 w,bG Z,if_neg (by simp),cF (by omega)];by_cases H:(row g v).length<g.2.length
  rotate_left
  ·rw[if_pos (show(g.2.length:Int)<=((row g v).length:Int) by omega)];rfl
  rw[if_neg (show¬(g.2.length:Int)<=((row g v).length:Int) by omega),cF (by omega)];by_cases x:qI (row g v) v g.2.length
  rotate_left
  ·rw[(sX (row g v) v g.2.length (by omega) (by omega)).2 x];rfl
  rw[(sX (row g v) v g.2.length (by omega) (by omega)).1 x,bG Z,if_neg (by simp)];exact(o v b e).2 λI=>c ⟨w,H,x,I⟩
 ·unfold gZ;rw[if_neg (by omega)]
 by_cases p:∀v,v<g.2.length->Li g v
 rotate_left
 ·exact⟨λh=>absurd h.node p,λ_=>l.2 p⟩
 rw[l.1 p];unfold oI;have f:∀(v:Nat) (b:Int->Option Bool),v<g.2.length->((∀i,i<(row g v).length->AN g v i)->bJ (fU 1000 g v b) 1000 0=b ((v:Int)+1))/\(¬(∀i,i<(row g v).length->AN g v i)->bJ (fU 1000 g v b) 1000 0=some false):=by
  intro v b e;have M:=(p v e).deg;have n:∀(i:Nat) a,i<(row g v).length->(AN g v i->fU 1000 g v b i a=a ((i:Int)+1))/\(¬AN g v i->fU 1000 g v b i a=some false):=by
   intro i a r;unfold fU;rw[cF (by omega),if_pos (show(i:Int)<((row g v).length:Int) by omega),cF (by omega),cF (show 0<=(i:Int)/\(i:Int)<((row g v).length:Int) by omega)];have O:=((p v e).links i r).1;obtain⟨u,F⟩:∃u:Nat,(jP (row g v) i).1=u:=⟨(jP (row g v) i).1.toNat,by omega⟩
   have q:u<g.2.length:=by omega
   unfold AN;rw[show(at' (at' g.2 (v:Int)) (i:Int))=jP (row g v) i from rfl,F,HR g u v q (by have:=(p u q).deg;omega),bG Z];have E:=(p u q).links;rcases vV (row g u) v with⟨j,t,m,A,z⟩|⟨J,z⟩
   ·rw[z,if_neg (by omega),cF (by omega),cF (show 0<=(j:Int)/\(j:Int)<((at' g.2 (u:Int)).length:Int)from⟨by omega,by have:j<(row g u).length:=t;exact_mod_cast this⟩)];unfold uR;constructor
    ·rintro⟨k,B,s,D⟩;have C:k=j:=by
      rcases Nat.lt_trichotomy k j with h|h|h
      ·exact absurd s (A k h)
      ·exact h
      ·exact absurd (m.trans s.symm) ((E k B).2.2.2 j h)
     subst C;rw[if_neg (by rw[zA3];simp;exact λh=>h D),wr (by omega) (by omega)]
    ·intro h;rw[if_pos];exact zA5 λN=>h ⟨j,t,m,N⟩
   ·rw[z,if_pos (by decide)];exact⟨fun⟨j,t,m,_⟩=>absurd m (J j t),λ_=>rfl⟩
  refine Bn (row g v).length _ (λi a r c=>(n i a r).1 c) (λi a r c=>(n i a r).2 c) (λa=> ?_) 1000 (by omega);unfold fU uQ;rw[cF (by omega),if_neg (show¬(((row g v).length:Nat):Int)<((row g v).length:Int) by omega),wr (by omega) (by omega)]
 have d:=Bn (step:=gY 1000 g) (K:=some true) (bad:=false) g.2.length (λv=>∀i,i<(row g v).length->AN g v i) (λv b e c=> ?_) (λv b e c=> ?_) (λb=> ?_) 1000 (by omega)
 ·exact⟨λh=>d.1 h.sym,λh=>d.2 λL=>h ⟨y.1,y.2,G,p,L⟩⟩
 ·unfold gY;rw[if_pos (by omega)];exact(f v b e).1 c
 ·unfold gY;rw[if_pos (by omega)];exact(f v b e).2 c
 ·unfold gY uP;rw[if_neg (by omega)]
theorem Hr (c:hJ) (hn:c.length<=30):(Nk c->iV 1000 c=some true)/\(¬Nk c->iV 1000 c=some false):=by
 unfold iV;have s:∀(v:Nat) (m:List ((Int×Int)×Int)) p,v<c.length->(∀z,z∈m↔Qc c v 0 z)->
   (qI (at' c (v:Int)) v c.length->∃Y,(∀z,z∈Y↔Qc c (v+1) 0 z)/\bJ (dV c ((v:Int),m) p) 1000 ((0:Int),m)=p ((v:Int)+1,Y))/\
   (¬qI (at' c (v:Int)) v c.length->bJ (dV c ((v:Int),m) p) 1000 ((0:Int),m)=some false):=by
  intro v m p F hm;have L:=VQ hn F;have S:=XU (step:=dV c ((v:Int),m) p) (K:=λx=>p ((v:Int)+1,x.2)) (bad:=false) (at' c (v:Int)).length (Jf (at' c (v:Int)) v c.length) (λi x=>x.1=(i:Int)/\∀z,z∈x.2↔Qc c v i z) 1000 ?_ ?_ ?_ 1000 ((0:Int),m) ⟨rfl,hm⟩ (by omega) L
  ·refine⟨λh=> ?_,λh=>S.2 h⟩
   obtain⟨x,⟨ah,ae⟩,f⟩:=S.1 h;refine⟨x.2,λz=>(ae z).trans ⟨?_,?_⟩,f⟩
   ·rintro⟨a,b,y,e,l⟩;exact⟨a,b,by omega,e,l⟩
   ·rintro⟨a,b,y,e,l⟩;refine⟨a,b,?_,e,l⟩
    by_cases X:a=v
    ·subst X;exact .inr ⟨rfl,e⟩
    ·omega
  ·rintro i ⟨H,g⟩ I N ac ⟨f,d⟩ ⟨p1,p2,p3,p4⟩;dsimp only at f d;subst f;have q:nU (((v:Int),(jP (at' c (v:Int)) i).1)) g=none:=by
    apply Jv;intro w hw;obtain⟨a,b,y,e,l⟩:=(d _).1 hw;simp only[Prod.mk.injEq]at l;obtain⟨⟨C,A⟩,_⟩:=l;have:a=v:=by omega
    subst this;have hb:b<i:=by omega
    exact p4 b hb A.symm
   refine⟨((i:Int)+1,EW (((v:Int),(jP (at' c (v:Int)) i).1)) (jP (at' c (v:Int)) i).2 g),⟨by simp,λz=> ?_⟩,?_⟩
   ·dsimp only;rw[QA q,d];constructor
    ·rintro(rfl|⟨a,b,y,e,l⟩)
     ·exact⟨v,i,.inr ⟨rfl,by omega⟩,N,rfl⟩
     ·exact⟨a,b,by omega,e,l⟩
    ·rintro⟨a,b,y,e,l⟩;by_cases J:a=v/\b=i
     ·left;rw[l,J.1,J.2]
     ·right;exact⟨a,b,by omega,e,l⟩
   ·replace p1:0<=(at' (at' c (v:Int)) (i:Int)).1/\(at' (at' c (v:Int)) (i:Int)).1<=(c.length:Int) - 1:=p1;replace p3:1<=(at' (at' c (v:Int)) (i:Int)).2/\(at' (at' c (v:Int)) (i:Int)).2<=15:=p3;unfold dV jC kG;dsimp only;rw[if_pos (by omega),cF (by omega),if_neg (by omega),if_neg (by omega),if_neg (by rw[zA3 p2];simp),if_neg (by omega),if_neg (by rw[zA3 (by omega)];simp),q,if_neg (by simp),wr (by omega) (by omega)]
  ·rintro i ⟨H,g⟩ I N ac ⟨f,d⟩ Q;dsimp only at f d;subst f;unfold dV jC kG;dsimp only;rw[if_pos (by omega),cF (by omega)];by_cases y:(jP (at' c (v:Int)) i).1<0
   ·rw[if_pos y,if_pos Z]
   rw[if_neg y];by_cases e:(c.length:Int)<=(jP (at' c (v:Int)) i).1
   ·rw[if_pos e,if_pos Z]
   rw[if_neg e];by_cases l:(jP (at' c (v:Int)) i).1=v
   ·rw[if_pos (zA5 l)]
   rw[if_neg (by rw[zA3 l];simp)];by_cases C:(jP (at' c (v:Int)) i).2<1
   ·rw[if_pos C,if_pos Z]
   rw[if_neg C];by_cases A:15<(jP (at' c (v:Int)) i).2
   ·rw[if_pos (zA5 A)]
   rw[if_neg (by rw[zA3 A];simp)];have:∃k,k<i/\(jP (at' c (v:Int)) k).1=(jP (at' c (v:Int)) i).1:=by
    apply Classical.byContradiction;intro hc;exact Q ⟨by omega,l,by omega,λk O M=>hc ⟨k,O,M⟩⟩
   obtain⟨k,O,M⟩:=this;have n:=(d _).2 ⟨v,k,.inr ⟨rfl,O⟩,by omega,rfl⟩;rw[if_pos];rw[<-M];cases q:nU (((v:Int),(jP (at' c (v:Int)) k).1)) g with
   |some w=>rfl
   | none => exact absurd n (by
     intro n;exact wT q n)
  ·rintro⟨H,g⟩ I ⟨f,d⟩ _;dsimp only at f d;subst f;unfold dV oA;dsimp only;rw[if_neg (by omega),wr (by omega) (by omega)]
 have t:=Ix (step:=eP 1000 c) (K:=λx=>kF x.2) (bad:=false) c.length (λv=>qI (at' c (v:Int)) v c.length) (λv x=>x.1=(v:Int)/\∀z,z∈x.2↔Qc c v 0 z) ?_ ?_ ?_ 1000 ((0:Int),[]) ⟨rfl,λz=>⟨λh=>(by cases h),fun⟨a,b,y,_⟩=>(by omega)⟩⟩ (by omega)
 rotate_left
 ·rintro v ⟨H,g⟩ p F ⟨f,d⟩ Q;dsimp only at f d;subst f;obtain⟨Y,y,e⟩:=(s v g p F d).1 Q;refine⟨((v:Int)+1,Y),⟨by simp,y⟩,?_⟩
  ·unfold eP;dsimp only;rw[if_pos (by omega),cF (by omega)];exact e
 ·rintro v ⟨H,g⟩ p F ⟨f,d⟩ Q;dsimp only at f d;subst f;unfold eP;dsimp only;rw[if_pos (by omega),cF (by omega)];exact(s v g p F d).2 Q
 ·rintro⟨H,g⟩ p ⟨f,d⟩;dsimp only at f d;subst f;unfold eP;dsimp only;rw[if_neg (by omega)]
 by_cases D:∀v,v<c.length->qI (at' c (v:Int)) v c.length
 rotate_left
 ·exact⟨λh=>absurd h.1 D,λ_=>t.2 D⟩
 obtain⟨⟨H,g⟩,⟨f,d⟩,M⟩:=t.1 D;rw[M];dsimp only at d ⊢;have O:kF g=some (decide (∀z∈g,¬(Option.getD (nU (z.1.2,z.1.1) g) (0:Int))≠z.2)):=LU (λz:(Int×Int)×Int=>(Option.getD (nU (z.1.2,z.1.1) g) (0:Int))≠z.2) g;rw[O];have E:(∀z∈g,¬(Option.getD (nU (z.1.2,z.1.1) g) (0:Int))≠z.2)↔∀v,v<c.length->∀i,i<(at' c (v:Int)).length->AN ([],c) v i:=by
  constructor
  ·intro h v F i N;have hw:=(D v F i N).2.2.1;have n:=(d (((v:Int),(jP (at' c (v:Int)) i).1),(jP (at' c (v:Int)) i).2)).2 ⟨v,i,.inl F,N,rfl⟩;have e:=zAx.1 (h _ n);dsimp only at e;cases q:nU ((jP (at' c (v:Int)) i).1,(v:Int)) g with
   |none=>rw[q]at e;simp only[Option.getD]at e;omega
   | some w =>
    rw[q]at e;simp only[Option.getD]at e;obtain⟨a,b,l,C,A⟩:=(d _).1 (Eo q);simp only[Prod.mk.injEq]at A;obtain⟨⟨U,V⟩,h8⟩:=A;refine⟨b,?_,?_,?_⟩
    ·show b<(at' c (jP (at' c (v:Int)) i).1).length;rw[U];exact C
    ·show(jP (at' c (jP (at' c (v:Int)) i).1) b).1=v;rw[U];exact V.symm
    ·show(jP (at' c (jP (at' c (v:Int)) i).1) b).2=(jP (at' c (v:Int)) i).2;rw[U,<-h8];exact e
  ·intro h z hz ad;obtain⟨a,b,l,C,rfl⟩:=(d z).1 hz;have X:a<c.length:=by omega
   apply ad;obtain⟨j,r,o,B⟩:=h a X b C;have hu:=(D a X b C).1;obtain⟨u,R⟩:∃u:Nat,(jP (at' c (a:Int)) b).1=u:=⟨(jP (at' c (a:Int)) b).1.toNat,by omega⟩
   replace r:j<(at' c (jP (at' c (a:Int)) b).1).length:=r;replace o:(jP (at' c (jP (at' c (a:Int)) b).1) j).1=a:=o;replace B:(jP (at' c (jP (at' c (a:Int)) b).1) j).2=(jP (at' c (a:Int)) b).2:=B;rw[R]at r o B;have G:u<c.length:=by omega
   dsimp only;rw[R,<-B];have n:=(d (((u:Int),(jP (at' c (u:Int)) j).1),(jP (at' c (u:Int)) j).2)).2 ⟨u,j,.inl G,r,rfl⟩;rw[o]at n;cases q:nU ((u:Int),(a:Int)) g with
   |none=>exact absurd n (wT q)
   | some w =>
    obtain⟨a',T,af,aa,A⟩:=(d _).1 (Eo q);simp only[Prod.mk.injEq]at A;obtain⟨⟨U,V⟩,h8⟩:=A;have:a'=u:=by omega
    subst this;have ab:T=j:=by
     rcases Nat.lt_trichotomy T j with P|P|P
     ·exact absurd (V.symm.trans o.symm) ((D a' G j r).2.2.2 T P)
     ·exact P
     ·exact absurd (o.trans V) ((D a' G T aa).2.2.2 j P)
    subst ab;exact h8
 by_cases W:∀v,v<c.length->∀i,i<(at' c (v:Int)).length->AN ([],c) v i
 ·rw[zA5 (E.2 W)];exact⟨λ_=>rfl,λh=>absurd ⟨D,W⟩ h⟩
 ·rw[zA3 (λh=>W (E.1 h))];exact⟨λh=>absurd h.2 W,λ_=>rfl⟩
theorem JL (g:GR):(VG g->iK 1000 g=some true)/\(¬VG g->iK 1000 g=some false):=by
 unfold iK qY qZ;by_cases e:g.1.length<1
 ·rw[if_pos (by omega)];exact⟨λh=>by have:=h.n1;have:=h.len;omega,λ_=>rfl⟩
 rw[if_neg (by omega)];by_cases f:24<g.1.length
 ·rw[if_pos (by omega)];exact⟨λh=>by have:=h.n24;have:=h.len;omega,λ_=>rfl⟩
 rw[if_neg (by omega)];by_cases d:g.1.length=g.2.length
 rotate_left
 ·rw[zA5 (by omega)];exact⟨λh=>absurd h.len d,λ_=>rfl⟩
 rw[zA3 (by omega),if_neg (by simp)];by_cases b:∀k,k<g.1.length->Wo g.1 k
 rotate_left
 ·rw[(xH g.1 (by omega)).2 b,bG Z];exact⟨λh=>absurd (λk i=>⟨(h.node k (by omega)).id,(h.node k (by omega)).ids⟩) b,λ_=>rfl⟩
 rw[(xH g.1 (by omega)).1 b,bG Z,if_pos Z];by_cases a:Nk g.2
 ·rw[(Hr g.2 (by omega)).1 a];exact⟨λ_=>rfl,λh=>absurd ⟨by omega,by omega,d,λv c=>⟨(b v (by omega)).1,SE c (a.1 v c),a.1 v c,(b v (by omega)).2⟩,a.2⟩ h⟩
 ·rw[(Hr g.2 (by omega)).2 a];exact⟨λh=>absurd ⟨λv c=>(h.node v c).links,h.sym⟩ a,λ_=>rfl⟩
abbrev U_:=AT
theorem nX (v m:Int) (g:1<=m) (h:m<=4611686018427387904):eQ 1000 v m=some (v%m):=by
 unfold eQ sT;rw[if_neg (by omega),cF (by omega)];have c:=Int.tmod_eq_emod (a:=v) (b:=m);have f:=Int.emod_nonneg v (show m≠0 by omega);have i:=zB8 v (show 0<m by omega);by_cases e:0<=v\/m∣v
 ·rw[if_pos e]at c;have d:v.tmod m=v%m:=by simpa using c
  rw[d,if_neg (by omega)]
 ·rw[if_neg e]at c;have:(m.natAbs:Int)=m:=by omega
  rw[c,if_pos (by omega),wr (by omega) (by omega)];congr 1;omega
theorem Qm (l:bQ) (i:Int) (h:0<=i):uM 1000 l i=some (at' l i):=by
 unfold uM;by_cases a:i<(l.length:Int)
 ·rw[if_pos a,cF ⟨h,a⟩]
 ·rw[if_neg a];unfold at';rw[zAd,zAo (by omega)];rfl
theorem QI {i:Type} [DecidableEq i]:∀(e c:List i),e.Nodup->(∀x∈e,x∈c)->e.length<=c.length
 | [],_,_,_=>Nat.zero_le _
 | a :: t, c, hn, hs => by
  have b:=List.nodup_cons.1 hn;have f:=hs a (zAf ..);have:=QI t (c.erase a) b.2 λx h=>by
   have d:x≠a:=λj=>b.1 (j▸h);exact(List.mem_erase_of_ne d).2 (hs x (zAl _ h))
  rw[List.length_erase_of_mem f]at this;have g:0<c.length:=List.length_pos_of_mem f;simp only[zA9];omega
theorem YY (d:Int) (c:bQ) (t:Nat) (k:t<=200) (h:∀s,s<t->(d+(s:Int))%256∈c):t<=c.length:=by
 have:=QI ((List.range t).map λs:Nat=>(d+(s:Int))%256) c (by
  rw[List.nodup_iff_pairwise_ne,List.pairwise_map];refine List.Pairwise.imp_of_mem ?_ List.pairwise_lt_range;intro a b e g f;rw[zAp]at e g;omega) (λx j=>by
  obtain⟨s,i,rfl⟩:=zB9.1 j;exact h s (zAp.1 i))
 simpa using this
structure Lb (ids:bQ):Prop where
 rng:∀y∈ids,0<=y/\y<=255
 nd:ids.Nodup
theorem Lb.snoc {c:bQ} {y:Int} (h:Lb c) (j:0<=y/\y<=255) (i:y∉c):Lb (c++[y]):=by
 refine⟨λz d=> ?_,?_⟩
 ·rcases zB0.1 d with d|d
  ·exact h.rng z d
  ·rw[List.mem_singleton.1 d];exact j
 ·rw[List.nodup_append];refine⟨h.nd,by simp,?_⟩
  intro a e b f;rw[List.mem_singleton.1 f];exact λg=>i (g▸e)
theorem En {a:Type} [Inhabited a] {l:List a} {i:Nat} (h:i<l.length):at' l (i:Int)∈l:=by
 rw[mV,zAd,zA2 h];exact zBe h
theorem Ji {a:Type} [Inhabited a] {l:List a} {x:a} (h:x∈l):∃i,i<l.length/\at' l ((i:Nat):Int)=x:=by
 obtain⟨i,b,c⟩:=List.getElem_of_mem h;refine⟨i,b,?_⟩
 rw[mV,zAd,zA2 b];exact c
theorem XJ {Q:List Int×hJ->Prop} {a:bQ} (H:a.length<=24) (b:Int) (r:Int×bQ->Option (List Int×hJ))
  (m:∀y,0<=y->y<=255->y∉a->OK Q (r ((a.length:Int)+1,a++[y]))):OK Q (bJ (mJ ((a.length:Int),a) r) 1000 (b%256,0)):=by
 refine Bo (λs:gK=>∃(t u:Nat),s.1=(b+(t:Int))%256/\s.2=u/\u<=a.length/\t<=a.length/\(∀k,k<t->(b+(k:Int))%256∈a)/\∀j,j<u->at' a (j:Int)≠s.1)
  (λs=>(a.length - ((s.1 - b)%256).toNat)*30+(a.length - s.2.toNat)) ?_ 1000 _ ⟨0,0,by simp,rfl,by omega,by omega,λk p=>by omega,λj o=>by omega⟩ ?_
 ·rintro⟨i,j⟩ z ⟨t,u,g,v,F,C,w,l⟩ d;dsimp only at g v l;subst v;unfold mJ uE mI;dsimp only;by_cases x:(u:Int)<(a.length:Int)
  ·rw[if_pos x,cF (by omega)];by_cases f:at' a (u:Int)=i
   ·rw[if_pos f,cF (by decide)];have n:(b+(t:Int))%256∈a:=by rw[<-g,<-f];exact En (by omega)
    have c:∀k,k<t+1->(b+(k:Int))%256∈a:=λk p=>by
     rcases Nat.lt_succ_iff_lt_or_eq.1 p with h|h
     ·exact w k h
     ·subst h;exact n
    have E:=YY b a (t+1) (by omega) c;have G:0<=i/\i<=255:=by omega
    rw[wr (by omega) (by omega),Int.tmod_eq_emod_of_nonneg (by omega),wr (by omega) (by omega)];refine d _ ⟨t+1,0,?_,by simp,by omega,E,c,λj o=>by omega⟩ ?_
    ·dsimp only;omega
    ·dsimp only;have A:((i+1)%256 - b)%256=(t:Int)+1:=by omega
     have B:(i - b)%256=(t:Int):=by omega
     rw[A,B];omega
   ·rw[if_neg f,wr (by omega) (by omega)];refine d _ ⟨t,u+1,g,by dsimp only;omega,by omega,C,w,λj o=> ?_⟩ ?_
    ·rcases Nat.lt_succ_iff_lt_or_eq.1 o with h|h
     ·exact l j h
     ·subst h;exact f
    ·dsimp only;omega
  ·rw[if_neg x];rw[cF (by simp;omega),wr (by omega) (by omega)];refine m i (by omega) (by omega) λD=> ?_;obtain⟨k,p,q⟩:=Ji D;exact l k (by omega) q
 ·dsimp only;have e:(b%256 - b)%256=0:=by omega
  rw[e];omega
theorem Yi (x:U_) (a:Nat) (u:1<=a) (k:a<=24):OK (λg:GR=>Lb g.1/\g.2=List.replicate g.1.length []/\1<=g.1.length/\g.1.length<=a) (qO 1000 x (a:Int)):=by
 unfold qO;rw[bG (nX _ _ (by omega) (by omega))];generalize f:(wI .i64 (x.1 - 1))%(a:Int)=r;have m:0<=r:=by rw[<-f];exact Int.emod_nonneg _ (by omega)
 have n:r<a:=by rw[<-f];exact zB8 _ (by omega)
 have i:wI .i64 (1+r)=1+r:=wr (by omega) (by omega);rw[i,cF (by omega)];refine Bo (λs:Int×bQ=>s.1=(s.2.length:Int)/\(s.2.length:Int)<=1+r/\Lb s.2) (λs=>(1+r - s.1).toNat) ?_ 1000 _ ⟨rfl,by simp;omega,⟨λy o=>by simp at o,List.nodup_nil⟩⟩ (by dsimp only;omega);rintro⟨v,d⟩ j ⟨e,l,c⟩ b;dsimp only at e l c;subst e;unfold kP pM;dsimp only;rw[i];by_cases h:(d.length:Int)<1+r
 ·rw[if_pos h,bG (Qm _ _ (by omega)),bG (nX _ _ (by decide) (by decide))];exact XJ (by omega) _ j λy p q t=>b _ ⟨by simp,by simp;omega,c.snoc ⟨p,q⟩ t⟩ (by dsimp only;omega)
 ·rw[if_neg h];refine⟨_,rfl,c,?_,by dsimp only;omega,by dsimp only;omega⟩
  dsimp only;congr 1;omega
structure VM (ids:bQ) (P:hJ):Prop where
 n1:1<=P.length
 n24:P.length<=24
 len:ids.length=P.length
 ok:Lb ids
 nd:∀v:Nat,v<P.length->((at' P (v:Int)).map Prod.fst).Nodup
 lk:∀v:Nat,v<P.length->∀x∈at' P (v:Int),(0<=x.1/\x.1<=(P.length:Int) - 1)/\x.1≠(v:Int)/\(1<=x.2/\x.2<=15)/\((v:Int),x.2)∈at' P x.1
theorem Yj {d:Type} [Inhabited d] {l:List d} (h:l.Nodup) {i j:Nat} (b:i<l.length) (c:j<l.length) (a:i<j):at' l (i:Int)≠at' l (j:Int):=by
 rw[mV,mV,zAd,zAd,zA2 b,zA2 c];exact List.pairwise_iff_getElem.1 (List.nodup_iff_pairwise_ne.1 h) i j b c a
theorem VM.vg {ids:bQ} {P:hJ} (h:VM ids P):VG (ids,P):=by
 have hlen:=h.len;have links:∀v,v<P.length->qI (row (ids,P) v) v P.length:=by
  intro v hv i hi;have hm:jP (row (ids,P) v) i∈at' P (v:Int):=En hi;obtain⟨a1,a2,a3,_⟩:=h.lk v hv _ hm;refine⟨a1,a2,a3,λk hk=> ?_⟩
  have hk2:k<(row (ids,P) v).length:=by omega
  have:=List.pairwise_iff_getElem.1 (List.nodup_iff_pairwise_ne.1 (h.nd v hv)) k i (by simpa using hk2) (by simpa using hi) hk;rw[List.getElem_map,List.getElem_map]at this;have e:∀j (hj:j<(row (ids,P) v).length),jP (row (ids,P) v) j=(at' P (v:Int))[j]'hj:=λj hj=>by
   unfold jP;rw[mV,zAd,zA2 hj];rfl
  rw[e k hk2,e i hi];exact this
 refine⟨h.n1,h.n24,h.len,λv hv=>⟨?_,SE hv (links v hv),links v hv,λk hk=> ?_⟩,λv hv i hi=> ?_⟩
 ·exact h.ok.rng _ (En (by dsimp only at hv ⊢;omega))
 ·exact Yj h.ok.nd (by dsimp only at hv ⊢;omega) (by dsimp only at hv ⊢;omega) hk
 ·have hm:jP (row (ids,P) v) i∈at' P (v:Int):=En hi;obtain⟨_,_,_,a4⟩:=h.lk v hv _ hm;obtain⟨j,hj,he⟩:=Ji a4;exact⟨j,hj,by unfold jP;rw[he],by unfold jP;rw[he]⟩
theorem VM.start {a:bQ} (h:Lb a) (d:1<=a.length) (b:a.length<=24):VM a (List.replicate a.length []):=by
 have e:∀v:Nat,at' (List.replicate a.length ([]:fL)) (v:Int)=[]:=λv=>by
  rw[mV,zAd,List.getElem?_replicate];split<;>rfl
 refine⟨by simpa using d,by simpa using b,by simp,h,λv _=>by rw[e];exact List.nodup_nil,λv _ x c=> ?_⟩
 rw[e]at c;cases c
def oY (P:hJ) (v u:Nat):Prop:=∃x∈at' P (v:Int),x.1=(u:Int)
theorem NI (d:bQ) (P:hJ) (a b:Nat) (u:a<P.length) (w:(at' P (a:Int)).length<=900):(oY P a b->oG 1000 (d,P) a b=some true)/\(¬oY P a b->oG 1000 (d,P) a b=some false):=by
 have c:∀(r:Bool),(r=true->oY P a b)->(r=false->¬oY P a b)->oG 1000 (d,P) a b=some r:=by
  intro r q p;unfold oG;refine Iw (λi:Int=>∃k:Nat,i=k/\k<=(at' P (a:Int)).length/\∀j,j<k->(at' (at' P (a:Int)) ((j:Nat):Int)).1≠(b:Int)) (λi=>(at' P (a:Int)).length - i.toNat) ?_ 1000 0 ⟨0,rfl,by omega,λj m=>by omega⟩ (by omega);rintro i t ⟨k,rfl,v,f⟩ g;unfold Co xW;dsimp only;rw[cF (by omega)];by_cases o:(k:Int)<((at' P (a:Int)).length:Int)
  ·rw[if_pos o,cF (by omega),cF (by omega)];by_cases e:(at' (at' P (a:Int)) (k:Int)).1=(b:Int)
   ·rw[if_pos e];cases r with
    |true=>rfl
    |false=>exact absurd ⟨_,En (by omega),e⟩ (p Z)
   ·rw[if_neg e,wr (by omega) (by omega)];refine g _ ⟨k+1,by omega,by omega,λj m=> ?_⟩ (by omega);rcases Nat.lt_succ_iff_lt_or_eq.1 m with h|h
    ·exact f j h
    ·subst h;exact e
  ·rw[if_neg o];cases r with
   |false=>rfl
   |true=>
    obtain⟨x,s,e⟩:=q Z;obtain⟨j,m,n⟩:=Ji s;exact absurd (by rw[n];exact e) (f j (by omega))
 exact⟨λh=>c true (λ_=>h) (λl=>by cases l),λh=>c false (λl=>by cases l) (λ_=>h)⟩
theorem ZR (P:hJ) (a b:Nat) (x y:fL) (e:a<P.length) (f:b<P.length) (v:Nat):at' ((P.set a x).set b y) (v:Int)=if v=b then y else if v=a then x else at' P (v:Int):=by
 rw[mV,mV,zAd,zAd,List.getElem?_set,List.getElem?_set];by_cases h:v=b
 ·subst h;rw[if_pos Z,if_pos Z,if_pos (by simpa using f)];rfl
 ·rw[if_neg (λd=>h d.symm),if_neg h];by_cases c:v=a
  ·subst c;rw[if_pos Z,if_pos Z,if_pos e];rfl
  ·rw[if_neg (λd=>c d.symm),if_neg c]
theorem VM.add {m:bQ} {P:hJ} (h:VM m P) {a b:Nat} {w:Int} (J:a<P.length) (A:b<P.length) (p:a≠b) (B:¬oY P a b) (D:1<=w/\w<=15)
  {x y:fL} (E:x.Perm (((b:Int),w)::at' P (a:Int))) (F:y.Perm (((a:Int),w)::at' P (b:Int))):
  VM m ((P.set a x).set b y)/\(∀v u,oY P v u->oY ((P.set a x).set b y) v u)/\oY ((P.set a x).set b y) a b:=by
 have r:¬oY P b a:=by
  rintro⟨z,g,i⟩;obtain⟨_,_,_,l⟩:=h.lk b A z g;rw[i]at l;exact B ⟨_,l,rfl⟩
 have C:=ZR P a b x y J A;have k:((P.set a x).set b y).length=P.length:=by simp
 have d:∀(v:Nat) (z:gK),z∈at' ((P.set a x).set b y) (v:Int)↔z∈at' P (v:Int)\/(v=b/\z=((a:Int),w))\/(v=a/\z=((b:Int),w)):=by
  intro v z;rw[C v];by_cases f:v=b
  ·subst f;rw[if_pos Z,F.mem_iff,zAm];constructor
   ·rintro(c|c)
    ·exact .inr (.inl ⟨rfl,c⟩)
    ·exact .inl c
   ·rintro(c|⟨_,c⟩|⟨e,_⟩)
    ·exact .inr c
    ·exact .inl c
    ·exact absurd e.symm p
  ·rw[if_neg f];by_cases c:v=a
   ·subst c;rw[if_pos Z,E.mem_iff,zAm];constructor
    ·rintro(e|e)
     ·exact .inr (.inr ⟨rfl,e⟩)
     ·exact .inl e
    ·rintro(e|⟨n,_⟩|⟨_,e⟩)
     ·exact .inr e
     ·exact absurd n f
     ·exact .inl e
   ·rw[if_neg c];exact⟨.inl,λe=>e.elim id λn=>n.elim (λo=>absurd o.1 f) λo=>absurd o.1 c⟩
 refine⟨⟨by rw[k];exact h.n1,by rw[k];exact h.n24,by rw[k];exact h.len,h.ok,λv j=> ?_,λv j z g=> ?_⟩,λv u s=> ?_,?_⟩
 ·rw[k]at j;rw[C v];by_cases f:v=b
  ·subst f;rw[if_pos Z,(F.map Prod.fst).nodup_iff,zBf,List.nodup_cons];exact⟨λq=>by obtain⟨z,g,i⟩:=zB9.1 q;exact r ⟨z,g,i⟩,h.nd v j⟩
  ·rw[if_neg f];by_cases c:v=a
   ·subst c;rw[if_pos Z,(E.map Prod.fst).nodup_iff,zBf,List.nodup_cons];exact⟨λq=>by obtain⟨z,g,i⟩:=zB9.1 q;exact B ⟨z,g,i⟩,h.nd v j⟩
   ·rw[if_neg c];exact h.nd v j
 ·rw[k]at j ⊢;rcases(d v z).1 g with f|⟨rfl,rfl⟩|⟨rfl,rfl⟩
  ·obtain⟨G,H,I,t⟩:=h.lk v j z f;refine⟨G,H,I,?_⟩
   obtain⟨u,K⟩:∃u:Nat,z.1=u:=⟨z.1.toNat,by omega⟩
   rw[K]at t ⊢;exact(d u _).2 (.inl t)
  ·exact⟨by dsimp only;omega,by dsimp only;omega,D,(d a _).2 (.inr (.inr ⟨rfl,rfl⟩))⟩
  ·exact⟨by dsimp only;omega,by dsimp only;omega,D,(d b _).2 (.inr (.inl ⟨rfl,rfl⟩))⟩
 ·obtain⟨z,g,i⟩:=s;exact⟨z,(d v z).2 (.inl g),i⟩
 ·exact⟨_,(d a _).2 (.inr (.inr ⟨rfl,rfl⟩)),rfl⟩
theorem Up (x:U_) {c:bQ} {P:hJ} (h:VM c P) {a b:Nat} {w:Int} (g:a<P.length) (m:b<P.length) (o:1<=w/\w<=15):
  ∃f,oC 1000 x (c,P) a b w=some f/\VM c f/\f.length=P.length/\(∀v u,oY P v u->oY f v u)/\(a≠b->oY f a b):=by
 have p:=h.n24;have n:∀v:Nat,v<P.length->(at' P (v:Int)).length<24:=λv s=>by
  have:=(h.vg.node v s).deg;have e:(at' P (v:Int)).length=(row (c,P) v).length:=rfl;dsimp only at this;omega
 have t:=n a g;have z:=n b m;unfold oC;by_cases d:a=b
 ·subst d;rw[if_pos Z];exact⟨P,rfl,h,rfl,λ_ _ h=>h,λr=>absurd Z r⟩
 rw[if_neg (by omega)];by_cases i:oY P a b
 ·rw[bG ((NI c P a b g (by omega)).1 i)];exact⟨P,rfl,h,rfl,λ_ _ h=>h,λ_=>i⟩
 rw[bG ((NI c P a b g (by omega)).2 i)];unfold qL;rw[if_neg (by simp)];dsimp only;cases q:x.2.2.2.2.2 with
 | true =>
  rw[if_pos Z];have e:at' (P.set (Int.toNat (a:Int)) ([((b:Int),w)]++at' P (a:Int))) (b:Int)=at' P (b:Int):=by
   rw[mV,zAd,List.getElem?_set,if_neg (by simpa using d),mV,zAd]
  rw[e];rw[cF (by omega),cF (by simp;omega),cF (by omega),cF (by simp;omega),cF (by simp;omega),cF (by simp;omega)];obtain⟨j,k,l⟩:=h.add g m d i o (List.Perm.refl _) (List.Perm.refl _);exact⟨_,rfl,j,by simp,k,λ_=>l⟩
 |false=>
  rw[if_neg (by simp)];rw[cF (by omega),cF (by omega),cF (by simp;omega),cF (by simp;omega),cF (by simpa using d),cF (by simp;omega),cF (by simp;omega)];obtain⟨j,k,l⟩:=h.add g m d i o (x:=at' P (a:Int)++[((b:Int),w)]) (y:=at' P (b:Int)++[((a:Int),w)]) List.perm_append_comm List.perm_append_comm;exact⟨_,rfl,j,by simp,k,λ_=>l⟩
theorem Oc (v:Int):wI .i64 (1+v%15)=1+v%15/\1<=1+v%15/\1+v%15<=15:=by
 have:=Int.emod_nonneg v (show(15:Int)≠0 by decide);have:=zB8 v (show(0:Int)<15 by decide);exact⟨wr (by omega) (by omega),by omega,by omega⟩
theorem abH (x:U_) (c:Nat) (F:1<=c) (m:c<=24):
  OK (λg:GR=>VM g.1 g.2/\g.2.length<=c/\∀v:Nat,1<=v->v<g.2.length->∃u:Nat,u<v/\oY g.2 u v) (oB 1000 x (c:Int)):=by
 unfold oB;obtain⟨⟨d,S⟩,D,h,z,e,q⟩:=Yi x c F m;dsimp only at z h e q;rw[bG D];dsimp only;subst z;have r:=VM.start h e (by omega);refine Bo (λs:Int×hJ=>∃k:Nat,s.1=k/\1<=k/\k<=d.length/\VM d s.2/\s.2.length=d.length/\∀v:Nat,1<=v->v<k->∃u:Nat,u<v/\oY s.2 u v) (λs=>d.length - s.1.toNat) ?_ 1000 _ ⟨1,rfl,by omega,e,r,by simp,λv l f=>by omega⟩ (by dsimp only;omega);rintro⟨i,P⟩ T ⟨k,B,H,I,p,G,o⟩ j;dsimp only at B p G o;subst B;unfold wC qK;dsimp only;by_cases A:(k:Int)<(P.length:Int)
 ·rw[if_pos A,wr (by omega) (by omega),bG (Qm _ _ (by omega)),bG (nX _ _ (by omega) (by omega)),bG (Qm _ _ (by omega)),bG (nX _ _ (by decide) (by decide))];obtain⟨N,O,Q⟩:=Oc (at' x.2.2.1 ((k:Int) - 1));rw[N];generalize C:at' x.2.1 ((k:Int) - 1)%(k:Int)=u;have U:0<=u:=by rw[<-C];exact Int.emod_nonneg _ (by omega)
  have V:u<k:=by rw[<-C];exact zB8 _ (by omega)
  obtain⟨u,rfl⟩:∃n:Nat,u=n:=⟨u.toNat,by omega⟩
  obtain⟨R,E,K,W,L,M⟩:=Up x p (a:=u) (b:=k) (by omega) (by omega) ⟨O,Q⟩;rw[bG E,wr (by omega) (by omega)];refine j _ ⟨k+1,by dsimp only;omega,by omega,by omega,K,by dsimp only;omega,λv l f=> ?_⟩ (by dsimp only;omega);by_cases y:v=k
  ·subst y;exact⟨u,by omega,M (by omega)⟩
  ·obtain⟨J,t,w⟩:=o v l (by omega);exact⟨J,t,L _ _ w⟩
 ·rw[if_neg A];exact⟨_,rfl,p,by dsimp only;omega,λv l f=>o v l (by dsimp only at f;omega)⟩
theorem abl (x:U_) {c:bQ} {P:hJ} (h:VM c P):OK (λg:GR=>VM g.1 g.2/\g.1=c/\g.2.length=P.length/\∀v u,oY P v u->oY g.2 v u) (oD 1000 x (c,P)):=by
 unfold oD;have z:=h.n24;have B:=h.n1;refine Bo (λs:Int×hJ=>∃k:Nat,s.1=k/\k<=100/\VM c s.2/\s.2.length=P.length/\∀v u,oY P v u->oY s.2 v u) (λs=>200 - s.1.toNat) ?_ 1000 _ ⟨P.length,rfl,by omega,h,rfl,λ_ _ h=>h⟩ (by dsimp only;omega);rintro⟨i,Q⟩ w ⟨k,p,A,f,o,e⟩ d;dsimp only at p f o e;subst p;have done:∀b:Bool,b=false->OK (λg:GR=>VM g.1 g.2/\g.1=c/\g.2.length=P.length/\∀v u,oY P v u->oY g.2 v u) (nD 1000 x (c,P) ((k:Int),Q) w b):=by
  rintro b rfl;exact⟨_,rfl,f,rfl,o,e⟩
 unfold qM;dsimp only;rw[wr (by omega) (by omega)];by_cases l:(k:Int)+1<(x.2.1.length:Int)
 rotate_left
 ·rw[if_neg l];exact done _ Z
 rw[if_pos l];by_cases m:(k:Int)<60
 rotate_left
 ·exact done _ (zA3 m)
 rw[zA5 m];unfold nD;dsimp only;rw[if_pos Z,cF (by omega),bG (nX _ _ (by omega) (by omega)),wr (by omega) (by omega),cF (by omega),bG (nX _ _ (by omega) (by omega)),bG (Qm _ _ (by omega)),bG (nX _ _ (by decide) (by decide))];obtain⟨E,F,G⟩:=Oc (at' x.2.2.1 (k:Int));rw[E];generalize r:at' x.2.1 (k:Int)%(P.length:Int)=u;have K:0<=u:=by rw[<-r];exact Int.emod_nonneg _ (by omega)
 have L:u<P.length:=by rw[<-r];exact zB8 _ (by omega)
 obtain⟨u,rfl⟩:∃n:Nat,u=n:=⟨u.toNat,by omega⟩
 generalize q:at' x.2.1 ((k:Int)+1)%(P.length:Int)=t;have I:0<=t:=by rw[<-q];exact Int.emod_nonneg _ (by omega)
 have J:t<P.length:=by rw[<-q];exact zB8 _ (by omega)
 obtain⟨t,rfl⟩:∃n:Nat,t=n:=⟨t.toNat,by omega⟩
 obtain⟨H,y,C,M,D,N⟩:=Up x f (a:=u) (b:=t) (by omega) (by omega) ⟨F,G⟩;rw[bG y,wr (by omega) (by omega)];exact d _ ⟨k+2,by dsimp only;omega,by omega,C,by dsimp only;omega,λv u j=>D _ _ (e v u j)⟩ (by dsimp only;omega)
theorem OG (x:U_) (a:Nat) (m:1<=a) (c:a<=24):
  OK (λg:GR=>VM g.1 g.2/\g.2.length<=a/\∀v:Nat,1<=v->v<g.2.length->∃u:Nat,u<v/\oY g.2 u v) (kR 1000 x (a:Int)):=by
 unfold kR;obtain⟨⟨s,P⟩,k,o,n,i⟩:=abH x a m c;obtain⟨⟨j,t⟩,l,b,p,d,h⟩:=abl x o;rw[bG k,bG l];dsimp only at n i b p d h;refine⟨_,rfl,b,by dsimp only;omega,λv r f=> ?_⟩
 obtain⟨u,q,e⟩:=i v r (by dsimp only at f;omega);exact⟨u,q,h _ _ e⟩
end Go.Proofs.YtflciafboapaaaaGreat
namespace Go.Proofs.YtflciafboapaaaaGreat
open Go Go.Sx
abbrev val (c:bO) (v x:Nat):Int:=at' (at' c (v:Int)) (x:Int)
def abR (g:GR) (b:Int) (v:Nat) (a:Int):Prop:=if b = -1 then -1<=a/\a<=((row g v).length:Int) - 1 else 0<=a/\a<=b
instance (g:GR) (top:Int) (v:Nat) (a:Int):Decidable (abR g top v a):=by unfold abR;infer_instance
def jF (g:GR):Nat->Int
 |0=>0
 |k+1=>max (jF g k) (at' g.1 (k:Int))
theorem BU {g:GR} (a:VG g):∀k,k<=g.2.length->0<=jF g k/\jF g k<=255
 |0,_=>by simp[jF]
 |k+1,h=>by
  have b:=BU a k (by omega);have c:0<=at' g.1 (k:Int)/\at' g.1 (k:Int)<=255:=(a.node k (by omega)).id;simp only[jF];omega
abbrev D_:=Gq
def Ih (x:D_):Prop:=(-100000<=x.2.2.2.1/\x.2.2.2.1<=100000)/\(0<=x.2.2.2.2.1/\x.2.2.2.2.1<=100000)/\(0<=x.2.2.2.2.2/\x.2.2.2.2.2<=100000)
def lo (g:GR) (x:D_) (v:Nat):Int:=if x.2.1=2 then 0 else if x.2.1=3 then -1 else x.2.2.1
def hi (g:GR) (x:D_) (v:Nat):Int:=if x.2.1=2 then 1 else if x.2.1=3 then((row g v).length:Int) - 1 else x.2.2.2.1+x.2.2.2.2.1*(g.2.length:Int)+x.2.2.2.2.2*jF g g.1.length
structure Wc (g:GR) (c:bO) (vars:List D_):Prop where
 len:c.length=g.2.length
 row:∀v,v<g.2.length->(at' c (v:Int)).length=vars.length
 ok:∀v,v<g.2.length->∀x,x<vars.length->lo g (at' vars (x:Int)) v<=val c v x/\val c v x<=hi g (at' vars (x:Int)) v
theorem VG.to {g:GR} (c:VG g) {v i:Nat} (e:v<g.2.length) (d:i<(row g v).length):∃u:Nat,u<g.2.length/\(jP (row g v) i).1=(u:Int):=by
 obtain⟨u,a,b,_⟩:=c.port e d;exact⟨u,a,b⟩
def d0 (g:GR) (c:bO) (d v:Nat):Int:=if d.testBit v=true then at' (at' c (v:Int)) 0 else if v=0 then 0 else(g.2.length:Int)
def start (g:GR) (c:bO) (d:Nat):bQ:=(List.range g.2.length).map (d0 g c d)
theorem GQ {a:Type} [Inhabited a] (l:List a) (x:a) {i:Nat} (b:i<l.length+1):at' (l++[x]) (i:Int)=if i<l.length then at' l (i:Int)else x:=by
 rw[mV,mV];by_cases h:i<l.length
 ·rw[if_pos h,zAd,zAd,zAc h]
 ·have:i=l.length:=by omega
  subst this;rw[if_neg h];simp
def WE (g:GR) (a:List D_) (v:Nat) (l:bQ):Prop:=∀x,x<l.length->lo g (at' a (x:Int)) v<=at' l (x:Int)/\at' l (x:Int)<=hi g (at' a (x:Int)) v
end Go.Proofs.YtflciafboapaaaaGreat
namespace Go.Proofs.YtflciafboapaaaaGreat
open Go.Sx
def BK (a:Int):Option (Int):=
 some (a)
def xD (c:bQ) (a:gK) (b:i_->Option (Int)):Option (Int):=
 if a.2<(c.length:Int)then(ck (0<=a.2/\a.2<(c.length:Int)) (b ((max a.1 (at' c a.2)),(wI .i64 (a.2+(1:Int))))))else(BK (a.1))
def Cy (U:Nat) (a:bQ):Option (Int):=
 if(a.length:Int)<(1:Int)then(none)else(ck (0<=(0:Int)/\(0:Int)<(a.length:Int)) (bJ (xD a) U ((at' a (0:Int)),(1:Int))))
theorem aad:bB Tryz.prog 128:=Tryz.call128
theorem PE (U:Nat) {f:bQ} (g:V0) (r:Int) (h:Cy U f=some r):
  bD Tryz.prog 128 #[g] [Sl aN g f] (λx:Unit=>vI (r)) (λx l=>l) (λ_ l=>l):=by
 refine bD.of Tryz.func128 Z Tryz.ntmps128 Z λc=>?_;refine aU<|aC Z<|aO<|aL<|aU<|aA Z<|iH (cA Z) Z<|cV Z<|aO ?_;refine eN h Z (λh=>?_) λh=>?_
 ·refine aQ ?_;cases h
 refine cL<|aU<|aA Z<|cU h λj h=>aB (bE Z Z (cA Z) Z Z j) Z<|aB (cK Z (cA Z) Z Z Z eY j) Z<|aC Z<|aO<|aL<|eR (λb=>BK b=some r) (λb i=>[(3,vI (b))]) (λb i=>[]) ?_ ?_
 ·refine aU<|aC Z<|aO<|aS<|fI (xD f) (λa d=>[(0,g),(3,vI (a.1)),(4,vI (a.2))]) (λa d=>[]) ((at' f (0:Int)),(1:Int)) () h SF (aZ.refl _) ?_;intro k a d h;refine aL<|aU<|aA Z<|aA Z<|iH (cA Z) Z<|cV Z<|aO ?_;refine eN h Z (λh=>?_) λh=>?_
  ·refine cL<|aL<|aS<|aQ<|aA Z<|aA Z<|aA Z<|cU h λe h=>aB (bE Z Z (cA Z) Z Z e) Z<|aB (cK Z (cA Z) Z Z Z eY e) Z<|aB (Hj Z Z) Z<|aC Z<|fJ<|lL<|aQ<|aA Z<|cP Z<|aC Z<|aO ?_;exact xY ((max a.1 (at' f a.2)),(wI .i64 (a.2+(1:Int)))) () h SF Z
  refine fG ?_;exact fT (a.1) () h SF Z
 intro b i h;unfold BK at h;refine aU<|aA Z<|aC Z<|aO<|aR ?_;cases h;exact iZ Z
def pP (U:Nat) (a:Gq) (b:cO) (d:Int):Option i_:=
 Option.bind (Cy U b.1) λc=>(some (a.2.2.1,(wI .i64 ((wI .i64 (a.2.2.2.1+(wI .i64 (a.2.2.2.2.1*(b.1.length:Int)))))+(wI .i64 (a.2.2.2.2.2*c))))))
theorem aae:bB Tryz.prog 161:=Tryz.call161
theorem IM (U:Nat) {a:Gq} {d:cO} {f:Int} (b e:V0) (k:lE) (r:gK) (h:pP U a d f=some r):
  bD Tryz.prog 161 #[Value.agg #[vS (a.1),vI (a.2.1),vI (a.2.2.1),vI (a.2.2.2.1),vI (a.2.2.2.2.1),vI (a.2.2.2.2.2)],Value.agg #[b,e],vI (f)] [Sl aN b d.1,S2 aX e k d.2] (λx:Unit=>Value.tuple #[vI (r.1),vI (r.2)]) (λx l=>l) (λ_ l=>l):=by
 refine bD.of Tryz.func161 Z Tryz.ntmps161 Z λc=>?_;refine aU<|aK (aP.box (cs:=[vS (a.1),vI (a.2.1),vI (a.2.2.1),vI (a.2.2.2.1),vI (a.2.2.2.2.1),vI (a.2.2.2.2.2)]) Z Z) Z λm=>aK (aP.box (cs:=[b,e]) Z Z) Z λn=>aC Z<|aC Z<|aO<|aL ?_;refine sW [0,1,0,4,0,16,0,64,192,496,1020,0,2048,0,8192,24576,63488,131068,57347,524287] 19 mixedOrders ?_;refine cH Z<|fO 1 Z<|cH Z<|fO 1 Z<|cH Z<|fO 1 Z<|cH Z<|fO 0 Z<|aY Z .nil (fN 0 Z) (fE Z (cA Z) Z) aJ.z<|gC Z (wB Z Z)<|gC Z (yT Z Z)<|cH Z<|fO 1 Z<|cH Z<|fO 0 Z<|eT h λg i h=>zBi Z Z Z (zBg aad (PE U b g i) Z (iN [0] Z)) Z (λj=>(mC [([1],[]),([],[0]),([0],[]),([1],[]),([1],[]),([1],[])] Z)) λj=>gC Z (wB Z Z)<|gC Z (yT Z Z)<|gC Z (yU Z)<|bP 19 Z Z<|aC Z<|aO<|aR ?_;cases h;exact hZ () Z Z (RV.tmp Z) (RV.tmp Z) .nil aI.nil
def tI (U:Nat) (a:Gq) (b:cO) (c:Int):Option i_:=
 some ((0:Int),(1:Int))
theorem aaf:bB Tryz.prog 162:=Tryz.call162
theorem IN (U:Nat) {a:Gq} {b:cO} {f:Int} (d e:V0) (g:lE) (r:gK) (h:tI U a b f=some r):
  bD Tryz.prog 162 #[Value.agg #[vS (a.1),vI (a.2.1),vI (a.2.2.1),vI (a.2.2.2.1),vI (a.2.2.2.2.1),vI (a.2.2.2.2.2)],Value.agg #[d,e],vI (f)] [Sl aN d b.1,S2 aX e g b.2] (λx:Unit=>Value.tuple #[vI (r.1),vI (r.2)]) (λx l=>l) (λ_ l=>l):=by
 refine bD.of Tryz.func162 Z Tryz.ntmps162 Z λc=>?_;unfold tI at h;refine aU<|aK (aP.box (cs:=[vS (a.1),vI (a.2.1),vI (a.2.2.1),vI (a.2.2.2.1),vI (a.2.2.2.2.1),vI (a.2.2.2.2.2)]) Z Z) Z λi=>aK (aP.box (cs:=[d,e]) Z Z) Z λj=>aC Z<|aC Z<|aO<|aU<|aC Z<|aC Z<|aO<|aR ?_;cases h;exact hZ () Z Z (RV.tmp Z) (RV.tmp Z) .nil aI.nil
def pQ (U:Nat) (c:Gq) (b:cO) (a:Int):Option i_:=
 ck (0<=a/\a<(b.2.length:Int)) (some ((-1:Int),(wI .i64 (((at' b.2 a).length:Int) - (1:Int)))))
theorem aag:bB Tryz.prog 163:=Tryz.call163
theorem IP (U:Nat) {a:Gq} {d:cO} {g:Int} (e f:V0) (i:lE) (r:gK) (h:pQ U a d g=some r):
  bD Tryz.prog 163 #[Value.agg #[vS (a.1),vI (a.2.1),vI (a.2.2.1),vI (a.2.2.2.1),vI (a.2.2.2.2.1),vI (a.2.2.2.2.2)],Value.agg #[e,f],vI (g)] [Sl aN e d.1,S2 aX f i d.2] (λx:Unit=>Value.tuple #[vI (r.1),vI (r.2)]) (λx l=>l) (λ_ l=>l):=by
 refine bD.of Tryz.func163 Z Tryz.ntmps163 Z λc=>?_;refine aU<|aK (aP.box (cs:=[vS (a.1),vI (a.2.1),vI (a.2.2.1),vI (a.2.2.2.1),vI (a.2.2.2.2.1),vI (a.2.2.2.2.2)]) Z Z) Z λj=>aK (aP.box (cs:=[e,f]) Z Z) Z λk=>aC Z<|aC Z<|aO<|aL ?_;refine sW [0,1,0,7,15,31,63,0,255] 8 mixedOrders ?_;refine cH Z<|fO 0 Z<|aV Z<|cU h λb h=>aY Z .nil (fN 1 Z) (bN Z Z (cA Z) Z Z b) aJ.z<|aY Z .nil (fN 1 Z) (bT Z (cA Z) Z Z b) aJ.z<|aY Z .nil (fN 1 Z) (fE Z (zBh (cA Z) b.1 b.2) Z) aJ.z<|gC Z (nY Z Z)<|gC Z (yU Z)<|bP 8 Z Z<|aC Z<|aO<|aR ?_;cases h;exact hZ () Z Z (RV.tmp Z) (RV.tmp Z) .nil aI.nil
def Bd (a:Unit):Option i_:=
 some ((0:Int),(-1:Int))
def nS (c:Int) (a:(Int)->Option i_) (b:Unit):Option i_:=
 a (wI .i64 (c+(1:Int)))
def gE (U:Nat) (a:Gq) (d:cO) (h b:Int) (c:(Int)->Option i_):Option i_:=
 if b<(List.length ([((1:Int),(161:Nat)),((2:Int),(162:Nat)),((3:Int),(163:Nat))]):Int)then(ck (0<=b/\b<(List.length ([((1:Int),(161:Nat)),((2:Int),(162:Nat)),((3:Int),(163:Nat))]):Int)) (if b=(0:Int)then(if(1:Int)=a.2.1 then(Option.bind (pP U ((a.1,a.2.1,a.2.2.1,a.2.2.2.1,a.2.2.2.2.1,a.2.2.2.2.2)) ((d.1,d.2)) h) λe=>(some (e.1,e.2)))else(nS b c (())))else(if b=(1:Int)then(if(2:Int)=a.2.1 then(Option.bind (tI U ((a.1,a.2.1,a.2.2.1,a.2.2.2.1,a.2.2.2.2.1,a.2.2.2.2.2)) ((d.1,d.2)) h) λf=>(some (f.1,f.2)))else(nS b c (())))else(if(3:Int)=a.2.1 then(Option.bind (pQ U ((a.1,a.2.1,a.2.2.1,a.2.2.2.1,a.2.2.2.2.1,a.2.2.2.2.2)) ((d.1,d.2)) h) λg=>(some (g.1,g.2)))else(nS b c (()))))))else(Bd (()))
def lM (U:Nat) (a:Gq) (b:cO) (c:Int):Option i_:=
 bJ (gE U a b c) U (0:Int)
theorem Xc:bB Tryz.prog 97:=Tryz.call97
theorem Ft (U:Nat) {a:Gq} {v:cO} {n:Int} (i j:V0) (D:lE) (r:gK) (h:lM U a v n=some r):
  bD Tryz.prog 97 #[Value.agg #[vS (a.1),vI (a.2.1),vI (a.2.2.1),vI (a.2.2.2.1),vI (a.2.2.2.2.1),vI (a.2.2.2.2.2)],Value.agg #[i,j],vI (n)] [Sl aN i v.1,S2 aX j D v.2] (λx:Unit=>Value.tuple #[vI (r.1),vI (r.2)]) (λx l=>l) (λ_ l=>l):=by
 let b:=a.2.2.2;let s:=Value.func (.func 163) #[] #[];let p:=Value.func (.func 162) #[] #[];let o:=Value.func (.func 161) #[] #[];let z:=vI (List.length ([((1:Int),(161:Nat)),((2:Int),(162:Nat)),((3:Int),(163:Nat))]):Int);refine bD.of Tryz.func97 Z Tryz.ntmps97 Z λc=>?_;unfold lM at h;refine aU<|aK (aP.box (cs:=[vS (a.1),vI (a.2.1),vI (a.2.2.1),vI (b.1),vI (b.2.1),vI (b.2.2)]) Z Z) Z λE=>let y:=bL E [vS (a.1),vI (a.2.1),vI (a.2.2.1),vI (b.1),vI (b.2.1),vI (b.2.2)] 82;aK (aP.box (cs:=[i,j]) Z Z) Z λC=>aC Z<|aC Z<|aO<|aU ?_
 refine aB (DC (r:=Value.agg #[vI (1:Int),Value.func (.func 161) #[] #[]]) Z Z (by intro w;simp[Instr.build,Instr.fill,eZ,eF,dO,e_,fC,eG,fR])) Z ?_;refine aB (DC (r:=Value.agg #[vI (2:Int),Value.func (.func 162) #[] #[]]) Z Z (by intro w;simp[Instr.build,Instr.fill,eZ,eF,dO,e_,fC,eG,fR])) Z ?_;refine aB (DC (r:=Value.agg #[vI (3:Int),Value.func (.func 163) #[] #[]]) Z Z (by intro w;simp[Instr.build,Instr.fill,eZ,eF,dO,e_,fC,eG,fR])) Z ?_;refine aK (cM (e:=KC) ([(((1:Int),((161:Nat)))),(((2:Int),((162:Nat)))),(((3:Int),((163:Nat))))]) [(0,Value.agg #[vI (1:Int),o]),(1,Value.agg #[vI (2:Int),p]),(2,Value.agg #[vI (3:Int),s])] Z Z Z Z (XE (vI (1:Int)) (o) (vI (2:Int)) (p) (vI (3:Int)) (s)) Z Z Z) Z λJ=>let A:=Ar KC J ([((1:Int),(161:Nat)),((2:Int),(162:Nat)),((3:Int),(163:Nat))]);aC Z<|aO<|aL<|eR (λB=>Bd B=some r) (λB N=>[]) (λB N=>[]) ?_ ?_
 ·refine aU<|aA Z<|aB (fE Z (cB (aF.res 0 Z) Dj) Z) Z<|aA Z<|aO<|aS<|fI (gE U a v n) (λm O=>[(2,vI (n)),(3,vP E),(4,vP C),(15,J),(16,z),(17,vI (m))]) (λm O=>[A,bL C [i,j] 31,y]) (0:Int) () h SF (aZ.refl _) ?_;intro F m O h;refine aU<|cV Z<|aO<|aL ?_;refine eN h Z (λh=>?_) λh=>?_
  ·refine cL<|aL<|eR (λk=>nS m (bJ (gE U a v n) F) k=some r) (λk t=>[(2,vI (n)),(3,vP E),(4,vP C),(15,J),(16,z),(17,vI (m))]) (λk t=>[A,bL C [i,j] 31,y]) ?_ ?_
   ·refine aS<|aU<|cU h λg h=>aB (bE Z Z (cB (aF.res 0 Z) Dj) Z Z g) Z ?_;by_cases d:m=(0:Int)
    ·have h:=Iv d h;refine aB (gU (cs:=[vI (1:Int),o]) Z (cB (aF.res 0 Z) Dj) Dj (by rw[d];rfl) Z Z Z g) Z ?_;refine aK (aP.alloc (cs:=[vI (0:Int),Value.nilFunc]) Z Z) Z λP=>cG 0 (vs:=[vI (1:Int),Value.func (.func 161) #[] #[]]) Z Z Z Z Z Z<|aO<|aU<|bU Z<|dQ 0 Z<|bU Z<|dQ 3 Z<|cC Z<|aO ?_;refine eN h Z (λh=>?_) λh=>?_
     ·refine aU<|bU Z<|dQ 0 Z<|dM 3 Z<|dM 2 Z<|aA Z<|eT h λG K h=>aK (yH (vs:=[Value.agg #[vS (a.1),vI (a.2.1),vI (a.2.2.1),vI (a.2.2.2.1),vI (a.2.2.2.2.1),vI (a.2.2.2.2.2)],Value.agg #[i,j],vI (n)]) (cs:=[]) aae Z (IM U i j D G K) Z (iN [0,1] Z) (λ_ _=>rfl)) Z λS=>jJ Z<|jJ Z<|aC Z<|aC Z<|aO<|aR<|bI<|aG<|aG<|bI<|aG ?_;cases h;exact hZ () Z Z (RV.tmp Z) (RV.tmp Z) .nil aI.nil
     refine eM<|lL ?_;exact cI () (()) h SF (aZ.ix [1,2,3] Z Z) (aI.refl _ _)
    have h:=XT d h;by_cases f:m=(1:Int)
    ·have h:=Iv f h;refine aB (gU (cs:=[vI (2:Int),p]) Z (cB (aF.res 0 Z) Dj) Dj (by rw[f];rfl) Z Z Z g) Z ?_;refine aK (aP.alloc (cs:=[vI (0:Int),Value.nilFunc]) Z Z) Z λQ=>cG 0 (vs:=[vI (2:Int),Value.func (.func 162) #[] #[]]) Z Z Z Z Z Z<|aO<|aU<|bU Z<|dQ 0 Z<|bU Z<|dQ 3 Z<|cC Z<|aO ?_;refine eN h Z (λh=>?_) λh=>?_
     ·refine aU<|bU Z<|dQ 0 Z<|dM 3 Z<|dM 2 Z<|aA Z<|eT h λH L h=>aK (yH (vs:=[Value.agg #[vS (a.1),vI (a.2.1),vI (a.2.2.1),vI (a.2.2.2.1),vI (a.2.2.2.2.1),vI (a.2.2.2.2.2)],Value.agg #[i,j],vI (n)]) (cs:=[]) aaf Z (IN U i j D H L) Z (iN [0,1] Z) (λ_ _=>rfl)) Z λT=>jJ Z<|jJ Z<|aC Z<|aC Z<|aO<|aR<|bI<|aG<|aG<|bI<|aG ?_;cases h;exact hZ () Z Z (RV.tmp Z) (RV.tmp Z) .nil aI.nil
     refine eM<|lL ?_;exact cI () (()) h SF (aZ.ix [1,2,3] Z Z) (aI.refl _ _)
    have h:=XT f h;have u:m=(2:Int):=by have q:=g;simp only[zA9,zAg]at q;omega
    refine aB (gU (cs:=[vI (3:Int),s]) Z (cB (aF.res 0 Z) Dj) Dj (by rw[u];rfl) Z Z Z g) Z ?_;refine aK (aP.alloc (cs:=[vI (0:Int),Value.nilFunc]) Z Z) Z λR=>cG 0 (vs:=[vI (3:Int),Value.func (.func 163) #[] #[]]) Z Z Z Z Z Z<|aO<|aU<|bU Z<|dQ 0 Z<|bU Z<|dQ 3 Z<|cC Z<|aO ?_;refine eN h Z (λh=>?_) λh=>?_
    ·refine aU<|bU Z<|dQ 0 Z<|dM 3 Z<|dM 2 Z<|aA Z<|eT h λI M h=>aK (yH (vs:=[Value.agg #[vS (a.1),vI (a.2.1),vI (a.2.2.1),vI (a.2.2.2.1),vI (a.2.2.2.2.1),vI (a.2.2.2.2.2)],Value.agg #[i,j],vI (n)]) (cs:=[]) aag Z (IP U i j D I M) Z (iN [0,1] Z) (λ_ _=>rfl)) Z λV=>jJ Z<|jJ Z<|aC Z<|aC Z<|aO<|aR<|bI<|aG<|aG<|bI<|aG ?_;cases h;exact hZ () Z Z (RV.tmp Z) (RV.tmp Z) .nil aI.nil
    refine eM<|lL ?_;exact cI () (()) h SF (aZ.ix [1,2,3] Z Z) (aI.refl _ _)
   intro k t h;unfold nS at h;refine aQ<|cP Z<|aA Z<|aO ?_;exact xY (wI .i64 (m+(1:Int))) () h SF Z
  refine fG ?_;exact cI () (()) h SF .nil (aI.refl _ _)
 intro B N h;unfold Bd at h;refine aU<|aC Z<|aC Z<|aO<|aR ?_;cases h;exact hZ () Z Z (RV.tmp Z) (RV.tmp Z) (aZ.refl _) aI.nil
def xJ (a:hJ):Option (hJ):=
 some (a)
def xK (b:Int×hJ) (a:(Int×hJ)->Option (hJ)) (c:hJ):Option (hJ):=
 a ((wI .i64 (b.1+(1:Int))),c)
def pC (U:Nat) (d:iF) (g:cO) (b:Int×hJ) (e:(Int×hJ)->Option (hJ)) (a:Int×hJ) (f:(Int×hJ)->Option (hJ)):Option (hJ):=
 if a.1<(d.2.1.length:Int)then(ck (0<=a.1/\a.1<(d.2.1.length:Int)) (ck (0<=b.1/\b.1<(a.2.length:Int)) (ck (0<=b.1/\b.1<(a.2.length:Int)) (Option.bind (lM U ((((at' d.2.1 a.1).1),((at' d.2.1 a.1).2.1),((at' d.2.1 a.1).2.2.1),((at' d.2.1 a.1).2.2.2.1),((at' d.2.1 a.1).2.2.2.2.1),((at' d.2.1 a.1).2.2.2.2.2))) ((g.1,g.2)) b.1) λc=>(ck (0<=a.1/\a.1<((at' a.2 b.1).length:Int)) (ck (0<=a.1/\a.1<((at' (List.set a.2 (Int.toNat b.1) (List.set (at' a.2 b.1) (Int.toNat a.1) (c.1,((at' (at' a.2 b.1) a.1).2)))) b.1).length:Int)) (f ((wI .i64 (a.1+(1:Int))),(List.set (List.set a.2 (Int.toNat b.1) (List.set (at' a.2 b.1) (Int.toNat a.1) (c.1,((at' (at' a.2 b.1) a.1).2)))) (Int.toNat b.1) (List.set (at' (List.set a.2 (Int.toNat b.1) (List.set (at' a.2 b.1) (Int.toNat a.1) (c.1,((at' (at' a.2 b.1) a.1).2)))) b.1) (Int.toNat a.1) (((at' (at' (List.set a.2 (Int.toNat b.1) (List.set (at' a.2 b.1) (Int.toNat a.1) (c.1,((at' (at' a.2 b.1) a.1).2)))) b.1) a.1).1),c.2)))))))))))else(xK b e (a.2))
def mY (U:Nat) (c:iF) (d:cO) (a:Int×hJ) (b:(Int×hJ)->Option (hJ)):Option (hJ):=
 if a.1<((List.replicate (Int.toNat (List.length d.1:Int)) ([]:fL)).length:Int)then(ck (0<=(c.2.1.length:Int)/\(c.2.1.length:Int)<=1099511627) (ck (0<=a.1/\a.1<(a.2.length:Int)) (bJ (pC U c d a b) U ((0:Int),(List.set a.2 (Int.toNat a.1) (List.replicate (Int.toNat (c.2.1.length:Int)) ((0:Int),(0:Int))))))))else(xJ (a.2))
def kZ (U:Nat) (b:iF) (a:cO):Option (hJ):=
 ck (0<=(a.1.length:Int)/\(a.1.length:Int)<=1099511627) (bJ (mY U b a) U ((0:Int),(List.replicate (Int.toNat (a.1.length:Int)) ([]:fL))))
theorem Ss:bB Tryz.prog 48:=Tryz.call48
theorem C_ (U:Nat) {d:iF} {y:cO} (H Y v2 v3:V0) (z4:lE) (r:hJ) (h:kZ U d y=some r):
  bD Tryz.prog 48 #[Value.agg #[vS (d.1),H,Y],Value.agg #[v2,v3]] [Sl aH H d.2.1,Sl aE Y d.2.2,PF (Value.agg #[vS d.1,H,Y]),Sl aN v2 y.1,S2 aX v3 z4 y.2] (λx:Fx=>x.1) (λx l=>Ar bM.raw x.1 x.2::gN b_ x.2 r::l) (λ_ l=>l):=by
 let A:=(Int.toNat (y.1.length:Int))
 let X:=(List.replicate A ([]:fL))
 let D:=vI (X.length:Int);refine bD.of Tryz.func48 Z Tryz.ntmps48 Z λc=>?_;refine aU<|aK (aP.box (cs:=[vS (d.1),H,Y]) Z Z) Z λb1=>let C:=bL b1 [vS (d.1),H,Y] 36;aK (aP.box (cs:=[v2,v3]) Z Z) Z λb2=>let F:=bL b2 [v2,v3] 31;aC Z<|aO<|aU<|bU Z<|dQ 0 Z<|iH (Dh Z) Z<|cU h λj3 h=>bW (BN b_ A)<|aK (A_ (e:=bM.raw) (cT) Z Z Z Z j3 Z Z Z) Z λw=>aC Z<|aO<|aL<|EV (B:=fY) (λI=>xJ I=some r) (λI K=>[(5,w)]) (λI K=>[Ar bM.raw w K,gN b_ K I]) ?_ ?_
 ·refine aU<|aA Z<|aB (dU Z (fP (i:=0) (j:=1) Z Z cW) Z) Z<|aA Z<|aO<|aS<|fI (B:=fY) (mY U d y) (λb p=>[(2,vP b1),(3,vP b2),(5,w),(14,D),(15,vI (b.1))]) (λb p=>[Ar bM.raw w p,gN b_ p b.2,F,C]) ((0:Int),X) (List.replicate A (cT)) h SF (aZ.refl _) ?_;intro W b p h;let v:=(Int.toNat b.1)
  refine aU<|cV Z<|aO<|aL ?_;refine eN h Z (λh=>?_) λh=>?_
  ·refine cL<|aL<|EV (B:=fY) (λn=>xK b (bJ (mY U d y) W) n=some r) (λn s=>[(2,vP b1),(3,vP b2),(5,w),(14,D),(15,vI (b.1))]) (λn s=>[Ar bM.raw w s,gN b_ s n,F,C]) ?_ ?_
   ·refine aS<|aU<|aA Z<|aC Z<|aO<|aU<|aA Z<|aA Z<|bU Z<|dQ 3 Z<|iH (cA Z) Z<|cU h λaa h=>aK (A_ (e:=b_) (((0:Int),(0:Int))) Z Z Z Z aa Z Z Z) Z λab=>let E:=(List.set p v ab);cU h λt h=>aB (bN Z Z (fP (i:=1) (j:=2) Z Z cW) Z Z t) Z<|bF (Know.one ((cB (aF.res 0 Z) cW))) λR=>bW (CN (k:=b.1) 2 0 Z Z Z t) ?_
    refine AX 0 1 ⟨t.1,by first|exact t.2|simpa using t.2⟩ Z Z Z Z Z (by simp) R Z ?_;refine aO<|aU<|bU Z<|dQ 3 Z<|iH (cA Z) Z<|aA Z<|aO<|aS<|fI (pC U d y b (bJ (mY U d y) W)) (λa J=>[(2,vP b1),(3,vP b2),(5,w),(6,vI (b.1)),(14,D),(15,vI (b.1)),(26,H),(27,vI (d.2.1.length:Int)),(28,vI (a.1))]) (λa J=>[Ar bM.raw w E,gN b_ E a.2,F,C]) ((0:Int),(List.set b.2 v (List.replicate (Int.toNat (d.2.1.length:Int)) ((0:Int),(0:Int))))) () h SF (aZ.refl _) ?_;intro ag a J h;let G:=(at' a.2 b.1)
    let q:=(at' d.2.1 a.1)
    refine aU<|cV Z<|aO<|aL ?_;refine eN h Z (λh=>?_) λh=>?_
    ·refine cL<|aL<|aS<|aU<|aA Z<|cU h λS h=>aB (bE Z Z (cA Z) Z Z S) Z<|aB (gU (cs:=[vS (q.1),vI (q.2.1),vI (q.2.2.1),vI (q.2.2.2.1),vI (q.2.2.2.2.1),vI (q.2.2.2.2.2)]) Z (cA Z) nC Z Z Z Z S) Z<|aK (aP.alloc (cs:=vD0) Z Z) Z λaf=>aC Z<|cG 0 (vs:=[vS ((at' d.2.1 a.1).1),vI ((at' d.2.1 a.1).2.1),vI ((at' d.2.1 a.1).2.2.1),vI ((at' d.2.1 a.1).2.2.2.1),vI ((at' d.2.1 a.1).2.2.2.2.1),vI ((at' d.2.1 a.1).2.2.2.2.2)]) Z Z Z Z Z Z<|aO ?_;refine sW [0,0,3,7,0,0,0,96,224,0,0,0,0,7168,15360,31744,31744,31,196095,458239,992,2097151,4194303] 21 mixedOrders ?_;refine aV Z<|aV Z<|cU h λg h=>a_ (dX 2 Z) λL=>?_;refine aY Z (aZ.cons 1 Z .nil) .nil (tZ 0 Z Z Z Z Z g.1 (by have q1:=g.2;have q2:=L;(try simp only[zA1]at q1);(try simp only[zA1]at q2);(try simp only[zA1]);omega)) aJ.z ?_;refine a_ (dX 2 Z) λM=>aY Z (aZ.cons 1 Z .nil) .nil (gW 0 Z Z M Z Z g) aJ.z<|aV Z<|aV Z<|aV Z<|cU h λf h=>a_ (dX 2 Z) λN=>?_;refine aY Z (aZ.cons 1 Z .nil) .nil (tZ 0 Z Z Z Z Z f.1 (by have q1:=f.2;have q2:=N;(try simp only[zA1]at q1);(try simp only[zA1]at q2);(try simp only[zA1]);omega)) aJ.z ?_;refine a_ (dX 2 Z) λO=>aY Z (aZ.cons 1 Z .nil) .nil (gW 0 Z Z O Z Z f) aJ.z<|aV Z<|jD 0 Z<|jD 3 Z<|aV Z<|eT h λm ac h=>let u:=(List.set a.2 v (List.set G (Int.toNat a.1) (m.1,((at' G a.1).2))));zBi Z Z Z (zBg Xc (Ft U v2 v3 z4 m ac) Z (iN [3,4] Z)) Z (λad=>(mC [([1],[]),([1],[]),([1],[]),([1],[])] Z)) λad=>gC Z (eO Z)<|gC Z (qS Z Z)<|gC Z (qS Z Z)<|cU h λT h=>a_ (Know.len (aF.row (j:=2) Z cW g.1 g.2)) λP=>gC Z (dW Z Z P Z Z T) ?_
     refine gC Z (Gz (i:=0) Z Z Z Z Z (by decide)) ?_;refine Ia Z Z Z (yS (us:=[vI (m.1)]) (o:=0) (k:=b.1) 2 ((m.1,((at' G a.1).2))) ⟨g.1,by first|exact g.2|simpa using g.2⟩ T Z Z Z Z Z Z Z Z Z Z) (λae=>(mC [] Z)) λae=>cU h λV h=>a_ (Know.len (aF.row (j:=2) Z cW f.1 (by first|exact f.2|simpa using f.2))) λQ=>?_;refine gC Z (dW Z Z Q Z Z V)<|bP 21 Z Z ?_;refine aB (Gz (i:=1) Z Z Z Z Z (by decide)) Z ?_;refine yR (yS (us:=[vI (m.2)]) (o:=1) (k:=b.1) 2 ((((at' (at' u b.1) a.1).1),m.2)) ⟨f.1,by first|exact f.2|simpa using f.2⟩ V Z Z Z Z Z Z Z Z Z Z) λah=>fJ<|lL<|aQ<|cP Z<|aA Z<|aO ?_;exact iG ((wI .i64 (a.1+(1:Int))),(List.set u v (List.set (at' u b.1) (Int.toNat a.1) (((at' (at' u b.1) a.1).1),m.2)))) () h SF (aZ.ix [1,2,3,4] Z Z) (aI.refl _ _)
    refine rP<|fX<|fX<|yQ<|lL ?_;exact fT (a.2) E h SF Z
   intro n s h;unfold xK at h;refine aQ<|cP Z<|aA Z<|aO ?_;exact xY ((wI .i64 (b.1+(1:Int))),n) (s) h SF Z
  refine fG ?_;exact cI (b.2) (p) h SF (aZ.ix [0,1] Z Z) (aI.refl _ _)
 intro I K h;unfold xJ at h;refine aU<|aA Z<|aC Z<|aO<|aR ?_;cases h;exact iS (w,K) Z Z (RV.tmp Z) (aZ.refl _) aI.nil
def yY (a:Unit):Option (Int):=
 some (0:Int)
def qU (b:Int) (a:(Int)->Option (Int)) (c:Unit):Option (Int):=
 a (wI .i64 (b+(1:Int)))
def yZ (b:Int) (a:(Int)->Option (Int)) (c:Bool):Option (Int):=
 if c=true then(some (9:Int))else(qU b a (()))
def n_ (U:Nat) (c:iF) (e:cO) (a:Int) (b:(Int)->Option (Int)):Option (Int):=
 if a<(c.2.1.length:Int)then(ck (0<=a/\a<(c.2.1.length:Int)) (if((at' c.2.1 a).2.1)≠(1:Int)then(qU a b (()))else(Option.bind (lM U ((((at' c.2.1 a).1),((at' c.2.1 a).2.1),((at' c.2.1 a).2.2.1),((at' c.2.1 a).2.2.2.1),((at' c.2.1 a).2.2.2.2.1),((at' c.2.1 a).2.2.2.2.2))) ((e.1,e.2)) (0:Int)) λd=>(if d.2<d.1 then(yZ a b (true))else(yZ a b (decide ((4096:Int)<(wI .i64 ((wI .i64 (d.2 - d.1))+(1:Int))))))))))else(yY (()))
def pZ (U:Nat) (a:iF) (b:cO):Option (Int):=
 Option.bind (DR U ((a.1,a.2.1,a.2.2))) λc=>(if(!c)=true then(some (8:Int))else(Option.bind (iK U ((b.1,b.2))) λd=>(if(!d)=true then(some (1:Int))else(bJ (n_ U a b) U (0:Int)))))
theorem TN:bB Tryz.prog 107:=Tryz.call107
theorem Hs (U:Nat) {b:iF} {n:cO} (i y o p:V0) (B:lE) (r:Int) (h:pZ U b n=some r):
  bD Tryz.prog 107 #[Value.agg #[vS (b.1),i,y],Value.agg #[o,p]] [Sl aH i b.2.1,Sl aE y b.2.2,PF (Value.agg #[vS b.1,i,y]),Sl aN o n.1,S2 aX p B n.2] (λx:Unit=>vI (r)) (λx l=>l) (λ_ l=>l):=by
 let j:=vI (b.2.1.length:Int);refine bD.of Tryz.func107 Z Tryz.ntmps107 Z λc=>?_;refine aU<|aK (aP.box (cs:=[vS (b.1),i,y]) Z Z) Z λI=>aK (aP.box (cs:=[o,p]) Z Z) Z λz=>let k:=bL z [o,p] 31;aC Z<|aO<|aL<|aU<|dM 1 Z<|eT h λD F h=>aK (zBg TR (MZ U i y D F) Z (iN [0,1,2] Z)) Z λJ=>aB (kM Z) Z<|aO ?_
 refine tC h Z (λ_ h=>?_) λ_ h=>?_
 ·refine aU<|aC Z<|aO<|aR<|aG ?_;cases h;exact nH Z
 refine cL<|aL<|aU<|dM 0 Z<|eT h λE G h=>aK (zBg Su (DV U o p B E G) Z (iN [3,4] Z)) Z λK=>aB (kM Z) Z<|aO ?_;refine tC h Z (λ_ h=>?_) λ_ h=>?_
 ·refine aU<|aC Z<|aO<|aR<|aG ?_;cases h;exact nH Z
 refine cL<|aL<|eR (λf=>yY f=some r) (λf q=>[]) (λf q=>[]) ?_ ?_
 ·refine aU<|bU Z<|dQ 1 Z<|iH (cA Z) Z<|aA Z<|aO<|aS<|fI (n_ U b n) (λa s=>[(3,vP z),(16,i),(17,j),(18,vI (a))]) (λa s=>[k]) (0:Int) () h SF (aZ.ix [0] Z Z) ?_;intro w a s h;let d:=(at' b.2.1 a)
  refine aU<|cV Z<|aO<|aL ?_;refine eN h Z (λh=>?_) λh=>?_
  ·refine cL<|aL<|eR (λg=>qU a (bJ (n_ U b n) w) g=some r) (λg t=>[(3,vP z),(16,i),(17,j),(18,vI (a))]) (λg t=>[k]) ?_ ?_
   ·refine aS<|aU<|cU h λv h=>aB (bE Z Z (cA Z) Z Z v) Z<|aB (gU (cs:=[vS (d.1),vI (d.2.1),vI (d.2.2.1),vI (d.2.2.2.1),vI (d.2.2.2.2.1),vI (d.2.2.2.2.2)]) Z (cA Z) nC Z Z Z Z v) Z<|aK (aP.alloc (cs:=vD0) Z Z) Z λC=>cG 0 (vs:=[vS ((at' b.2.1 a).1),vI ((at' b.2.1 a).2.1),vI ((at' b.2.1 a).2.2.1),vI ((at' b.2.1 a).2.2.2.1),vI ((at' b.2.1 a).2.2.2.2.1),vI ((at' b.2.1 a).2.2.2.2.2)]) Z Z Z Z Z Z<|aO<|aL<|aU<|bU Z<|dQ 0 Z<|k_ Z<|aO ?_;refine eN h Z (λh=>?_) λh=>?_
    ·refine rP<|fX<|yQ<|Gt ?_;exact cI () (()) h SF (aZ.ix [1] Z Z) (aI.refl _ _)
    refine cL<|aU<|dM 0 Z<|dM 1 Z<|eT h λm A h=>aK (zBg Xc (Ft U o p B m A) Z (iN [3,4] Z)) Z λH=>aA Z<|jJ Z<|jJ Z<|aC Z<|aC Z<|aO<|aL<|eR (λe=>yZ a (bJ (n_ U b n) w) e=some r) (λe u=>[(3,vP z),(16,i),(17,j),(18,vI (a)),(40,vB (e))]) (λe u=>[k]) ?_ ?_
    ·refine aQ<|aA Z<|aA Z<|cV Z<|aA Z ?_;refine BZ h Z (λ_ h=>?_) λ_ h=>?_
     ·refine aM Z<|aM Z<|aM Z<|aM Z<|aM Z<|dR Z<|aO ?_;exact cI (true) () h SF (aZ.ix [1] Z Z) (aI.refl _ _)
     refine dC Z<|dC Z<|aT Z (nY Z Z) Z<|aT Z (yT Z Z) Z<|aT Z (tH Z Z) Z<|eV Z<|aO ?_;exact cI (decide ((4096:Int)<(wI .i64 ((wI .i64 (m.2 - m.1))+(1:Int))))) () h SF (aZ.ix [1] Z Z) (aI.refl _ _)
    intro e u h;refine tC h Z (λ_ h=>?_) λ_ h=>?_
    ·refine aU<|aC Z<|aO<|aR<|bI<|aG<|aG<|bI<|aG ?_;cases h;exact nH Z
    refine eM<|lL ?_;exact fT () (()) h SF Z
   intro g t h;unfold qU at h;refine aQ<|cP Z<|aA Z<|aO ?_;exact xY (wI .i64 (a+(1:Int))) () h SF Z
  refine fG ?_;exact cI () (()) h SF .nil (aI.refl _ _)
 intro f q h;unfold yY at h;refine aU<|aC Z<|aO<|aR ?_;cases h;exact iZ Z
def xP (a:Unit):Option Bool:=
 some (true)
def xQ (c:Int) (b:(Int)->Option Bool) (a:Bool):Option Bool:=
 if a=true then(some (false))else(b (wI .i64 (c+(1:Int))))
def sP (c:fL) (d:bQ) (a:Int) (b:(Int)->Option Bool):Option Bool:=
 if a<(d.length:Int)then(ck (0<=a/\a<(d.length:Int)) (ck (0<=a/\a<(c.length:Int)) (if(at' d a)<((at' c a).1)then(xQ a b (true))else(ck (0<=a/\a<(c.length:Int)) (xQ a b (decide (((at' c a).2)<(at' d a))))))))else(xP (()))
def uI (U:Nat) (a:fL) (b:bQ):Option Bool:=
 if(b.length:Int)≠(a.length:Int)then(some (false))else(bJ (sP a b) U (0:Int))
theorem W_:bB Tryz.prog 50:=Tryz.call50
theorem Gl (U:Nat) {k:fL} {d:bQ} (n o:V0) (r:Bool) (h:uI U k d=some r):
  bD Tryz.prog 50 #[n,o] [Sl aX n k,Sl aN o d] (λx:Unit=>vB (r)) (λx l=>l) (λ_ l=>l):=by
 refine bD.of Tryz.func50 Z Tryz.ntmps50 Z λc=>?_;refine aU<|aC Z<|aO<|aL<|aU<|aA Z<|iH (mM Z) Z<|aA Z<|iH (cA Z) Z<|k_ Z<|aO ?_;refine eN h Z (λh=>?_) λh=>?_
 ·refine aU<|aC Z<|aO<|aR<|aG ?_;cases h;exact iZ Z
 refine cL<|aL<|eR (λm=>xP m=some r) (λm p=>[]) (λm p=>[]) ?_ ?_
 ·refine aU<|aA Z<|iH (mM Z) Z<|aA Z<|aO<|aS<|fI (sP k d) (λb q=>[(0,n),(12,o),(13,vI (d.length:Int)),(14,vI (b))]) (λb q=>[]) (0:Int) () h SF (aZ.refl _) ?_;intro s b q h;refine aU<|cV Z<|aO<|aL ?_;refine eN h Z (λh=>?_) λh=>?_
  ·refine cL<|aL<|aS<|aU<|aA Z<|cU h λf h=>aB (bE Z Z (mM Z) Z Z f) Z<|aB (cK Z (mM Z) Z Z Z eY f) Z<|aC Z<|aC Z<|aO<|aL<|eR (λa=>xQ b (bJ (sP k d) s) a=some r) (λa e=>[(0,n),(12,o),(13,vI (d.length:Int)),(14,vI (b)),(34,vB (a))]) (λa e=>[]) ?_ ?_
   ·refine aQ<|aA Z<|aA Z<|aA Z<|cU h λg h=>aB (bE Z Z (cA Z) Z Z g) Z ?_;refine aB (Gz (i:=0) Z Z Z Z Z (by decide)) Z ?_;refine aB (eL Z (cA Z) Z Z Z gT g) Z<|cV Z<|aA Z ?_;refine BZ h Z (λ_ h=>?_) λ_ h=>?_
    ·refine aM Z<|aM Z<|aM Z<|aM Z<|aM Z<|aM Z<|aM Z<|dR Z<|aO ?_;exact fT (true) () h SF Z
    refine dC Z<|dC Z<|dC Z<|cU h λj h=>aT Z (bE Z Z (cA Z) Z Z j) Z ?_;refine aT Z (Gz (i:=1) Z Z Z Z Z (by decide)) Z ?_;refine aT Z (eL Z (cA Z) Z Z Z EG j) Z<|aT Z (tH Z Z) Z<|eV Z<|aO ?_;exact fT (decide (((at' k b).2)<(at' d b))) () h SF Z
   intro a e h;refine tC h Z (λ_ h=>?_) λ_ h=>?_
   ·refine aU<|aC Z<|aO<|aR<|bI<|aG<|aG<|bI<|aG ?_;cases h;exact iZ Z
   refine eM<|lL<|aQ<|cP Z<|aA Z<|aO ?_;exact xY (wI .i64 (b+(1:Int))) () h SF Z
  refine fG ?_;exact fT () (()) h SF Z
 intro m p h;unfold xP at h;refine aU<|aC Z<|aO<|aR ?_;cases h;exact iZ Z
def vQ (a:Unit):Option Bool:=
 some (true)
def vR (U:Nat) (c:hJ) (e:bO) (a:Int) (b:(Int)->Option Bool):Option Bool:=
 if a<(c.length:Int)then(ck (0<=a/\a<(c.length:Int)) (ck (0<=a/\a<(e.length:Int)) (Option.bind (uI U (at' c a) (at' e a)) λd=>(if(!d)=true then(some (false))else(b (wI .i64 (a+(1:Int))))))))else(vQ (()))
def xO (U:Nat) (a:hJ) (b:bO):Option Bool:=
 if(b.length:Int)≠(a.length:Int)then(some (false))else(bJ (vR U a b) U (0:Int))
theorem aab:bB Tryz.prog 119:=Tryz.call119
theorem Kx (U:Nat) {f:hJ} {g:bO} (j:V0) (p:lE) (k:V0) (q:kD) (r:Bool) (h:xO U f g=some r):
  bD Tryz.prog 119 #[j,k] [S2 aX j p f,S2 aN k q g] (λx:Unit=>vB (r)) (λx l=>l) (λ_ l=>l):=by
 refine bD.of Tryz.func119 Z Tryz.ntmps119 Z λc=>?_;refine aU<|aC Z<|aO<|aL<|aU<|aA Z<|aB (dU Z (mM Z) Z) Z<|aA Z<|aB (dU Z (cA Z) Z) Z<|k_ Z<|aO ?_;refine eN h Z (λh=>?_) λh=>?_
 ·refine aU<|aC Z<|aO<|aR<|aG ?_;cases h;exact iZ Z
 refine cL<|aL<|eR (λe=>vQ e=some r) (λe n=>[]) (λe n=>[]) ?_ ?_
 ·refine aU<|aA Z<|aB (dU Z (cA Z) Z) Z<|aA Z<|aO<|aS<|fI (vR U f g) (λd o=>[(1,k),(12,j),(13,vI (f.length:Int)),(14,vI (d))]) (λd o=>[]) (0:Int) () h SF (aZ.refl _) ?_;intro t d o h;refine aU<|cV Z<|aO<|aL ?_;refine eN h Z (λh=>?_) λh=>?_
  ·refine cL<|aL<|aS<|aU<|aA Z<|cU h λa h=>aB (bN Z Z (cA Z) Z Z a) Z<|aB (bT Z (cA Z) Z Z a) Z<|aC Z<|aC Z<|aO<|aU<|aA Z<|aA Z<|aA Z<|cU h λb h=>aB (bN Z Z (mM Z) Z Z b) Z<|aB (bT Z (mM Z) Z Z b) Z<|eT h λi m h=>aK (zBg W_ (Gl U ((at' p d).1) ((at' q d).1) i m) Z (aI.cons (zBh (cA Z) a.1 a.2) (aI.cons (zBh (mM Z) b.1 b.2) .nil))) Z λs=>aB (kM Z) Z<|aO ?_;refine tC h Z (λ_ h=>?_) λ_ h=>?_
   ·refine aU<|aC Z<|aO<|aR<|bI<|aG<|aG<|bI<|aG ?_;cases h;exact iZ Z
   refine eM<|lL<|aQ<|cP Z<|aA Z<|aO ?_;exact xY (wI .i64 (d+(1:Int))) () h SF Z
  refine fG ?_;exact fT () (()) h SF Z
 intro e n h;unfold vQ at h;refine aU<|aC Z<|aO<|aR ?_;cases h;exact iZ Z
def uH (U:Nat) (a:iF) (b:cO) (e:bO):Option (Int):=
 Option.bind (pZ U ((a.1,a.2.1,a.2.2)) ((b.1,b.2))) λd=>(if d≠(0:Int)then(some (d))else(Option.bind (kZ U ((a.1,a.2.1,a.2.2)) ((b.1,b.2))) λf=>(Option.bind (xO U f e) λc=>(if(!c)=true then(some (10:Int))else(some (0:Int))))))
theorem adb:bB Tryz.prog 75:=Tryz.call75
theorem Md (U:Nat) {a:iF} {g:cO} {p:bO} (b d e f:V0) (o:lE) (m:V0) (t:kD) (r:Int) (h:uH U a g p=some r):
  bD Tryz.prog 75 #[Value.agg #[vS (a.1),b,d],Value.agg #[e,f],m] [Sl aH b a.2.1,Sl aE d a.2.2,PF (Value.agg #[vS a.1,b,d]),Sl aN e g.1,S2 aX f o g.2,S2 aN m t p] (λx:Unit=>vI (r)) (λx l=>l) (λ_ l=>l):=by
 refine bD.of Tryz.func75 Z Tryz.ntmps75 Z λc=>?_;refine aU<|aK (aP.box (cs:=[vS (a.1),b,d]) Z Z) Z λz=>aK (aP.box (cs:=[e,f]) Z Z) Z λA=>aC Z<|aO<|aL<|aU<|dM 1 Z<|dM 0 Z<|eT h λu v h=>aK (zBg TN (Hs U b d e f o u v) Z (iN [0,1,2,3,4] Z)) Z λB=>aC Z<|aO<|aU<|aA Z<|k_ Z<|aO ?_;refine eN h Z (λh=>?_) λh=>?_
 ·refine aU<|aA Z<|aC Z<|aO<|aR<|aG ?_;cases h;exact nH Z
 refine cL<|aL<|aU<|dM 1 Z<|dM 0 Z<|eT h λq w h=>aK (zBg Ss (C_ U b d e f o q w) Z (iN [0,1,2,3,4] Z)) Z λs=>aA Z<|eT h λk n h=>aK (zBg aab (Kx U s.1 (List.zip s.2 q) m t k n) Z (aI.cons (fP (i:=0) (j:=1) Z Z cW) (iN [5] Z))) Z λy=>aB (kM Z) Z<|aO ?_;refine tC h Z (λ_ h=>?_) λ_ h=>?_
 ·refine aU<|aC Z<|aO<|aR<|aG ?_;cases h;exact nH Z
 refine cL<|aU<|aC Z<|aO<|aR ?_;cases h;exact nH Z
def zQ (a:bO):Option bO:=
 some (a)
def uN (c:bO) (a:Int×bO) (b:(Int×bO)->Option bO):Option bO:=
 if a.1<(c.length:Int)then(ck (0<=a.1/\a.1<(c.length:Int)) (ck ((List.length ([]:bQ):Int)+((at' c a.1).length:Int)<=1099511627) (ck (0<=a.1/\a.1<(a.2.length:Int)) (b ((wI .i64 (a.1+(1:Int))),(List.set a.2 (Int.toNat a.1) (([]:bQ)++(at' c a.1))))))))else(zQ (a.2))
def qB (U:Nat) (a:bO):Option bO:=
 ck (0<=(a.length:Int)/\(a.length:Int)<=1099511627) (bJ (uN a) U ((0:Int),(List.replicate (Int.toNat (a.length:Int)) ([]:bQ))))
theorem Sy:bB Tryz.prog 76:=Tryz.call76
theorem DW (U:Nat) {g:bO} (t:V0) (w:kD) (r:bO) (h:qB U g=some r):
  bD Tryz.prog 76 #[t] [S2 aN t w g] (λx:Fx=>x.1) (λx l=>Ar bM.raw x.1 x.2::gN fW x.2 r::l) (λ_ l=>l):=by
 refine bD.of Tryz.func76 Z Tryz.ntmps76 Z λc=>?_;refine aU<|aC Z<|aO<|aU<|aA Z<|aB (dU Z (cA Z) Z) Z<|cU h λu h=>bW (BN fW (Int.toNat (g.length:Int)))<|aK (A_ (e:=bM.raw) (cT) Z Z Z Z u Z Z Z) Z λp=>aC Z<|aO<|aL<|EV (B:=fY) (λm=>zQ m=some r) (λm n=>[(3,p)]) (λm n=>[Ar bM.raw p n,gN fW n m]) ?_ ?_
 ·refine aU<|aA Z<|aB (dU Z (cA Z) Z) Z<|aA Z<|aO<|aS<|fI (B:=fY) (uN g) (λa b=>[(3,p),(9,t),(10,vI (g.length:Int)),(11,vI (a.1))]) (λa b=>[Ar bM.raw p b,gN fW b a.2]) ((0:Int),(List.replicate (Int.toNat (g.length:Int)) ([]:bQ))) (List.replicate (Int.toNat (g.length:Int)) (cT)) h SF (aZ.refl _) ?_;intro v a b h;refine aU<|cV Z<|aO<|aL ?_;refine eN h Z (λh=>?_) λh=>?_
  ·refine cL<|aL<|aS<|aU<|aA Z<|cU h λf h=>aB (bN Z Z (cA Z) Z Z f) Z<|aB (bT Z (cA Z) Z Z f) Z<|aC Z<|aC Z<|aO<|aQ<|aA Z<|aA Z<|aA Z<|bW (eX fW)<|cU h λq h=>aK (dN 0 jA Z Z Z (zBh (cA Z) f.1 f.2) Z Z Z Z q Z) Z λs=>cU h λd h=>aB (bN Z Z (fP (i:=1) (j:=2) Z Z jA) Z Z d) Z<|bF (Know.one ((cB (aF.res 0 Z) jA))) λo=>bW (CN (k:=a.1) 2 0 Z Z Z d) ?_;refine AX 0 1 ⟨d.1,by first|exact d.2|simpa using d.2⟩ Z Z Z Z Z (by simp) o Z ?_;refine fJ<|lL<|aQ<|cP Z<|aA Z<|aO ?_;exact xY ((wI .i64 (a.1+(1:Int))),(List.set a.2 (Int.toNat a.1) (([]:bQ)++(at' g a.1)))) (List.set b (Int.toNat a.1) s) h SF Z
  refine fG ?_;exact fT (a.2) (b) h SF Z
 intro m n h;unfold zQ at h;refine aU<|aA Z<|aC Z<|aO<|aR ?_;cases h;exact iS (p,n) Z Z (RV.tmp Z) (aZ.refl _) aI.nil
end Go.Proofs.YtflciafboapaaaaGreat
namespace Go.Proofs.YtflciafboapaaaaGreat
open Go Go.Sx
abbrev Fz:=ByteArray×(List D_)×(List yI)
structure jR (g:GR) (vars:List D_):Prop where
 len:vars.length<=20
 small:∀x,x<vars.length->Ih (at' vars (x:Int))
 kind:∀x,x<vars.length->(at' vars (x:Int)).2.1=1\/(at' vars (x:Int)).2.1=2\/(at' vars (x:Int)).2.1=3
 range:∀x,x<vars.length->(at' vars (x:Int)).2.1=1 -> -100000<=lo g (at' vars (x:Int)) 0/\lo g (at' vars (x:Int)) 0<=hi g (at' vars (x:Int)) 0/\hi g (at' vars (x:Int)) 0 - lo g (at' vars (x:Int)) 0+1<=4096
theorem adK {g:GR} (a:VG g):Cy 1000 g.1=some (jF g g.1.length):=by
 have d:=a.n24;have b:=a.len;have h:=a.n1;have f:0<=at' g.1 ((0:Nat):Int):=(a.node 0 (by omega)).id.1;unfold Cy;rw[if_neg (by omega),cF (by omega)];have:=dJ (step:=xD g.1) (K:=some (jF g g.1.length)) (g.1.length - 1) (λk=>(jF g (k+1),((k+1:Nat):Int))) (λk c i=>by
  unfold xD;dsimp only;rw[if_pos (by omega),cF (by omega),dD (by omega)];rfl) (λc=>by
  unfold xD BK;dsimp only;rw[if_neg (by omega),show g.1.length - 1+1=g.1.length by omega]) 1000 (by omega)
 have e:jF g (0+1)=at' g.1 (0:Int):=by
  show max (jF g 0) (at' g.1 ((0:Nat):Int))=_;simp only[jF];have:at' g.1 ((0:Nat):Int)=at' g.1 (0:Int):=rfl;omega
 rw[e]at this;exact this
theorem No {g:GR} (c:VG g) {x:D_} (o:Ih x) (n:x.2.1=1\/x.2.1=2\/x.2.1=3) {v:Nat} (p:v<g.2.length):lM 1000 x g (v:Int)=some (lo g x v,hi g x v):=by
 obtain⟨⟨B,C⟩,⟨r,s⟩,t,u⟩:=o;have l:=c.n24;have d:=c.len;have e:=BU c g.1.length (by omega);have w:0<=x.2.2.2.2.1*(g.1.length:Int):=Int.mul_nonneg r (by omega);have y:x.2.2.2.2.1*(g.1.length:Int)<=100000*24:=Int.mul_le_mul s (by omega) (by omega) (by omega);have z:0<=x.2.2.2.2.2*jF g g.1.length:=Int.mul_nonneg t e.1;have A:x.2.2.2.2.2*jF g g.1.length<=100000*255:=Int.mul_le_mul u e.2 e.1 (by omega);have i:pP 1000 x g (v:Int)=some (x.2.2.1,x.2.2.2.1+x.2.2.2.2.1*(g.2.length:Int)+x.2.2.2.2.2*jF g g.1.length):=by
  unfold pP;rw[bG (adK c),wr (x:=x.2.2.2.2.1*_) (by omega) (by omega),wr (x:=x.2.2.2.2.2*_) (by omega) (by omega),wr (x:=x.2.2.2.1+_) (by omega) (by omega),wr (by omega) (by omega),d]
 have j:pQ 1000 x g (v:Int)=some (-1,((row g v).length:Int) - 1):=by
  have k:=(c.node v p).deg;unfold pQ;rw[cF (by omega)];show some ((-1:Int),wI .i64 (((row g v).length:Int) - 1))=_;rw[wr (by omega) (by omega)]
 have q:∀(f:Nat) (a:Int),bJ (gE 1000 x g (v:Int)) (f+1) a=gE 1000 x g (v:Int) a (bJ (gE 1000 x g (v:Int)) f):=λf a=>rfl;have b:∀(f:Nat) (a:Int),a=0\/a=1\/a=2->bJ (gE 1000 x g (v:Int)) (f+1) a=if a=0 then(if 1=x.2.1 then pP 1000 x g (v:Int)else bJ (gE 1000 x g (v:Int)) f 1)else if a=1 then(if 2=x.2.1 then tI 1000 x g (v:Int)else bJ (gE 1000 x g (v:Int)) f 2)else(if 3=x.2.1 then pQ 1000 x g (v:Int)else bJ (gE 1000 x g (v:Int)) f 3):=by
  intro f a m;rw[q];generalize bJ (gE 1000 x g (v:Int)) f=G;unfold gE nS;rcases m with rfl|rfl|rfl
  ·rw[if_pos (by decide),cF (by decide),if_pos Z,if_pos Z];split
   ·rw[i];rfl
   ·rfl
  ·rw[if_pos (by decide),cF (by decide),if_neg (show¬(1:Int)=0 by decide),if_pos Z,if_neg (show¬(1:Int)=0 by decide),if_pos Z];split
   ·rfl
   ·rfl
  ·rw[if_pos (by decide),cF (by decide),if_neg (show¬(2:Int)=0 by decide),if_neg (show¬(2:Int)=1 by decide),if_neg (show¬(2:Int)=0 by decide),if_neg (show¬(2:Int)=1 by decide)];split
   ·rw[j];rfl
   ·rfl
 unfold lM lo hi;rcases n with h|h|h
 ·rw[b 999 0 (.inl Z),if_pos Z,if_pos h.symm,i,h,if_neg (by decide),if_neg (by decide),if_neg (by decide),if_neg (by decide)]
 ·rw[b 999 0 (.inl Z),if_pos Z,if_neg (by omega),b 998 1 (.inr (.inl Z)),if_neg (by decide),if_pos Z,if_pos h.symm,h,if_pos Z,if_pos Z];rfl
 ·rw[b 999 0 (.inl Z),if_pos Z,if_neg (by omega),b 998 1 (.inr (.inl Z)),if_neg (by decide),if_pos Z,if_neg (by omega),b 997 2 (.inr (.inr Z)),if_neg (by decide),if_neg (by decide),if_pos h.symm,j,h,if_neg (by decide),if_pos Z,if_neg (by decide),if_pos Z]
def qF (g:GR) (a:List D_) (v x:Nat):gK:=(lo g (at' a (x:Int)) v,hi g (at' a (x:Int)) v)
def G_ (g:GR) (a:List D_) (v:Nat):fL:=(List.range a.length).map (qF g a v)
def Dc (g:GR) (a:List D_):hJ:=(List.range g.2.length).map (G_ g a)
theorem Eu {a:Type} [Inhabited a] (f:Nat->a) {n k:Nat} (h:k<n):at' ((List.range n).map f) (k:Int)=f k:=by
 rw[jS (by simpa using h)];simp
theorem Bt {a:Type} (f:Nat->a) (z:a) (n k:Nat) (h:k<n):((List.range k).map f++List.replicate (n - k) z).set k (f k)=(List.range (k+1)).map f++List.replicate (n - (k+1)) z:=by
 rw[show n - k=(n - (k+1))+1 by omega,List.replicate_succ,List.set_append_right _ _ (by simp),List.range_succ];simp
theorem Mm {g:GR} (m:VG g) {p:Fz} (n:jR g p.2.1):kZ 1000 p g=some (Dc g p.2.1):=by
 have s:=m.n24;have d:=m.len;have w:=n.len;let a:=p.2.1;let Q:Nat->hJ:=λk=>(List.range k).map (G_ g a)++List.replicate (g.2.length - k) [];have c:∀k,k<=g.2.length->(Q k).length=g.2.length:=λk f=>by simp[Q];omega
 let R:Nat->Nat->fL:=λk j=>(List.range j).map (qF g a k)++List.replicate (a.length - j) (0,0);have l:∀k j,j<=a.length->(R k j).length=a.length:=λk j b=>by simp[R];omega
 unfold kZ;rw[cF (by omega)];rw[show List.replicate (Int.toNat (g.1.length:Int)) ([]:fL)=Q 0 by simp[Q,d]];refine dJ (step:=mY 1000 p g) (K:=some (Dc g a)) g.2.length (λk=>((k:Int),Q k)) (λk e f=> ?_) (λe=> ?_) 1000 (by omega)
 ·unfold mY;dsimp only;rw[if_pos (by simp;omega),cF (by omega),cF (by rw[c k (by omega)];omega)];refine Eq.trans (?_:_=bJ (pC 1000 p g ((k:Int),Q k) e) 1000 ((0:Int),(Q k).set k (R k 0))) ?_
  ·rw[zAi,zAi];simp[R,a]
  refine dJ (step:=pC 1000 p g ((k:Int),Q k) e) (K:=e (((k+1:Nat):Int),Q (k+1))) a.length (λj=>((j:Int),(Q k).set k (R k j))) (λj h b=> ?_) (λh=> ?_) 1000 (by show p.2.1.length<1000;omega)
  ·have u:j<p.2.1.length:=b;have t:=No m (n.small j b) (n.kind j b) f;have v:k<(Q k).length:=by rw[c k (by omega)];exact f
   have o:∀X:fL,at' ((Q k).set k X) (k:Int)=X:=λX=>by rw[CP _ _ _ _ v,if_pos Z]
   have i:j<(R k j).length:=by rw[l k j (by omega)];exact b
   unfold pC;dsimp only;rw[if_pos (by omega),cF (by omega),cF (by simp only[zA1];omega),cF (by simp only[zA1];omega),bG (show lM 1000 _ g (k:Int)=_ from t),zAi,zAi];simp only[o,List.set_set];rw[cF (by omega),cF (by simp only[zA1];omega),dD (by omega)];have:(R k j).set j (lo g (at' p.2.1 (j:Int)) k,hi g (at' p.2.1 (j:Int)) k)=R k (j+1):=Bt (qF g a k) (0,0) a.length j b;rw[CP _ _ _ _ i,if_pos Z];dsimp only;rw[this]
  ·unfold pC xK;dsimp only;rw[if_neg (show¬((a.length:Nat):Int)<(p.2.1.length:Int)from Int.lt_irrefl _),dD (by omega)];have q:R k a.length=G_ g a k:=by simp[R,G_]
   have r:(Q k).set k (G_ g a k)=Q (k+1):=Bt (G_ g a) [] g.2.length k f;rw[q,r]
 ·unfold mY xJ;dsimp only;rw[if_neg (by simp;omega)];simp[Q,Dc]
theorem Uf {g:GR} (c:VG g) {p:Fz} (b:jR g p.2.1):pZ 1000 p g=some 0:=by
 have i:=c.n1;have h:=b.len;unfold pZ;rw[bG (show DR 1000 _=some true from rfl),if_neg (by decide),bG (show iK 1000 g=some true from(JL g).1 c),if_neg (by decide)];refine dJ (step:=n_ 1000 p g) (K:=some 0) p.2.1.length (λk=>(k:Int)) (λk e d=> ?_) (λe=> ?_) 1000 (by omega)
 ·unfold n_ qU yZ qU;rw[if_pos (by omega),cF (by omega),dD (by omega)];by_cases a:(at' p.2.1 (k:Int)).2.1=1
  ·obtain⟨j,l,m⟩:=b.range k d a;have f:=No c (b.small k d) (b.kind k d) (v:=0) (by omega);rw[if_neg (by simpa using a),bG (show lM 1000 _ g (0:Int)=_ from f)];dsimp only;rw[if_neg (by omega),wr (x:=hi g (at' p.2.1 (k:Int)) 0 - lo g (at' p.2.1 (k:Int)) 0) (by omega) (by omega),wr (by omega) (by omega),if_neg (by rw[zAa];omega)]
  ·rw[if_pos a]
 ·unfold n_ yY;rw[if_neg (by omega)]
theorem Ub (c:bO) (h:c.length<=900) (e:∀v,v<c.length->(at' c (v:Int)).length<=1000):qB 1000 c=some c:=by
 unfold qB;rw[cF (by omega)];let Q:Nat->bO:=λk=>(List.range k).map (λv:Nat=>at' c (v:Int))++List.replicate (c.length - k) [];rw[show List.replicate (Int.toNat (c.length:Int)) ([]:bQ)=Q 0 by simp[Q]];refine dJ (step:=uN c) (K:=some c) c.length (λk=>((k:Int),Q k)) (λk b a=> ?_) (λb=> ?_) 1000 (by omega)
 ·have g:(Q k).length=c.length:=by simp[Q];omega
  have:=e k a;unfold uN;dsimp only;rw[if_pos (by omega),cF (by omega),cF (by simp;omega),cF (by omega),dD (by omega),zAi,zBb];have:(Q k).set k (at' c (k:Int))=Q (k+1):=Bt (λv:Nat=>at' c (v:Int)) [] c.length k a;rw[this]
 ·unfold uN zQ;dsimp only;rw[if_neg (by omega)];congr 1;refine List.ext_getElem (by simp[Q]) λi f d=> ?_;simp[Q,jS d]
def sat (x:Int):Int:=max (-1073741824) (min x 1073741824)
def unD (o x:Int):Int:=if o=18 then wI .i64 (0 - x)else Qn (decide (x=0))
def QS (a b:Int):Int:=if b=0 then 0 else if Int.tmod a b≠0/\((decide (a<0)) != (decide (b<0)))=true then wI .i64 (wI .i64 (Int.tdiv a b) - 1)else wI .i64 (Int.tdiv a b)
def adm (o x y:Int):Bool:=if o=35 then decide (x=y)else if o=36 then decide (x≠y)else if o=37 then decide (x<y)else if o=38 then decide (x<=y)else if o=39 then decide (y<x)else decide (y<=x)
def biD (o x y:Int):Int:=
 if o=30 then sat (wI .i64 (x*y))else if o=31 then sat (QS x y)else if o=32 then(if y=0 then 0 else sat (wI .i64 (x - wI .i64 (y*QS x y))))else if o=33 then sat (wI .i64 (x+y))else if o=34 then sat (wI .i64 (x - y))
 else if o=41 then Qn (decide (x≠0)&&decide (y≠0))else if o=42 then Qn (decide (x≠0)||decide (y≠0))else Qn (adm o x y)
theorem Zd (f:Nat) (o x:Int):Cw f o x=some (unD o x):=by
 unfold Cw unD;split
 ·rfl
 ·rw[bG (xE f _)]
theorem Yu (f:Nat) (a b:Int):sN f a b=some (QS a b):=by
 unfold sN QS;by_cases c:b=0
 ·rw[if_pos c,if_pos c]
 ·rw[if_neg c,if_neg c,cF c,cF c];by_cases d:Int.tmod a b=0
  ·rw[if_neg (by simpa using d),if_neg (by simp[d])];rfl
  ·rw[if_pos d];unfold vL qX;by_cases e:((decide (a<0)) != (decide (b<0)))=true
   ·rw[if_pos e,if_pos ⟨d,e⟩]
   ·rw[if_neg e,if_neg (λq=>e q.2)]
theorem adn (f:Nat) (o x y:Int):xN f o x y=some (adm o x y):=by
 unfold xN adm
 repeat' split
 all_goals rfl
theorem Vi (f:Nat) (o x y:Int):Bq f o x y=some (biD o x y):=by
 unfold Bq biD;by_cases h:o=30
 ·rw[if_pos h,if_pos h];rfl
 rw[if_neg h,if_neg h];by_cases h:o=31
 ·rw[if_pos h,if_pos h,bG (Yu f x y)];rfl
 rw[if_neg h,if_neg h];by_cases h:o=32
 ·rw[if_pos h,if_pos h];by_cases b:y=0
  ·rw[if_pos b,if_pos b]
  ·rw[if_neg b,if_neg b,bG (Yu f x y)];rfl
 rw[if_neg h,if_neg h];by_cases h:o=33
 ·rw[if_pos h,if_pos h];rfl
 rw[if_neg h,if_neg h];by_cases h:o=34
 ·rw[if_pos h,if_pos h];rfl
 rw[if_neg h,if_neg h];by_cases h:o=41
 ·rw[if_pos h,if_pos h];by_cases a:x=0
  ·rw[if_neg (by simpa using a),bG (xE f _)];simp[a,qV]
  ·rw[if_pos a,bG (xE f _)];simp[a,qV]
 rw[if_neg h,if_neg h];by_cases h:o=42
 ·rw[if_pos h,if_pos h];by_cases a:x=0
  ·rw[if_neg (by simpa using a),bG (xE f _)];simp[a,qW]
  ·rw[if_pos a,bG (xE f _)];simp[a,qW]
 rw[if_neg h,if_neg h,bG (adn f o x y),bG (xE f _)]
def E.den (L:Int->Int->Int->Int) (b:Nat):E->Int->Int
 |lf o a,p=>L o a p
 |un o x,p=>unD o (x.den L b p)
 |ag o x,_=>Ir o ((List.range b).map λq=>x.den L b ((q:Nat):Int))
 |bi o x y,p=>biD o (x.den L b p) (y.den L b p)
 |ite x y z,p=>if x.den L b p≠0 then y.den L b p else z.den L b p
def E.wf (c:Nat):Bool->E->Bool
 |b,lf o a=>decide (1<=o)&&decide (o<=17)&&(b||decide (o<=10))&&((decide (o≠5)&&decide (o≠12))||(decide (0<=a)&&decide (a<(c:Int))))
 |b,un o x=>decide (18<=o)&&decide (o<=19)&&x.wf c b
 |_,ag o x=>(decide (o=20)||decide (o=21)||decide (o=22)||decide (o=23)||decide (o=24)||decide (o=26)||decide (o=27))&&x.wf c true
 |b,bi o x y=>decide (30<=o)&&decide (o<=42)&&x.wf c b&&y.wf c b
 |b,ite x y z=>x.wf c b&&y.wf c b&&z.wf c b
theorem ZB {i:Nat}:∀{e:E} {b:Bool},e.wf i b=true->e.arOk=true:=by
 intro e
 induction e with
 |lf o a=>intro b h;simp[E.wf,E.arOk]at h ⊢;omega
 |un o x f=>intro b h;simp[E.wf,E.arOk]at h ⊢;exact⟨h.1,f h.2⟩
 |ag o x f=>intro b h;simp[E.wf,E.arOk]at h ⊢;exact⟨by omega,f h.2⟩
 |bi o x y c d=>intro b h;simp[E.wf,E.arOk]at h ⊢;exact⟨⟨h.1.1,c h.1.2⟩,d h.2⟩
 |ite x y z c d g=>intro b h;simp[E.wf,E.arOk]at h ⊢;exact⟨⟨c h.1.1,d h.1.2⟩,g h.2⟩
def Yg (W:WLK) (p:Int):Int:=(at' (at' W.1.2.1.2 W.2.2.1) p).1
def OU (W:WLK) (o a p:Int):Int:=
 if o=1 then a else if o=2 then 1 else if o=3 then 0 else if o=4 then -1 else if o=5 then at' (at' W.2.1 W.2.2.1) a else if o=12 then at' (at' W.2.1 (Yg W p)) a
 else if o=6 then(W.1.2.1.1.length:Int)else if o=7 then W.1.2.2.1 else if o=8 then at' W.1.2.1.1 W.2.2.1 else if o=9 then((at' W.1.2.1.2 W.2.2.1).length:Int)else if o=10 then Qn (decide (W.2.2.1=0))else if o=11 then p
 else if o=13 then at' W.1.2.1.1 (Yg W p)else if o=14 then((at' W.1.2.1.2 (Yg W p)).length:Int)else if o=15 then Qn (decide (Yg W p=0))else if o=16 then(at' (at' W.1.2.1.2 W.2.2.1) p).2 else at' (at' W.1.2.2.2 W.2.2.1) p
structure WOk (W:WLK) (nv n v:Nat):Prop where
 node:W.2.2.1=(v:Int)
 lt:v<n
 ports:W.1.2.1.2.length=n
 ids:W.1.2.1.1.length=n
 c:W.2.1.length=n
 row:∀u:Nat,u<n->(at' W.2.1 (u:Int)).length=nv
 to:∀u:Nat,u<n->∀i:Nat,i<(at' W.1.2.1.2 (u:Int)).length->0<=(at' (at' W.1.2.1.2 (u:Int)) (i:Int)).1/\(at' (at' W.1.2.1.2 (u:Int)) (i:Int)).1<(n:Int)
 bl:W.1.2.2.2.length=n
 br:∀u:Nat,u<n->(at' W.1.2.2.2 (u:Int)).length=(at' W.1.2.1.2 (u:Int)).length
def Oq (b:Bool) (a:Nat) (p:Int):Prop:=b=true->∃q:Nat,p=(q:Int)/\q<a
theorem abh {W:WLK} {k n v:Nat} (h:WOk W k n v) (f:Nat) {b:Bool} {o a p:Int} (s:(E.lf o a).wf k b=true) (r:Oq b (at' W.1.2.1.2 (v:Int)).length p):nF f W (o,a) p=some (OU W o a p):=by
 obtain⟨y,c,A,B,C,l,m,F,w⟩:=h;simp only[E.wf,zA6,zB5,zAa]at s;obtain⟨⟨⟨G,H⟩,d⟩,I⟩:=s;have z:(at' W.2.1 (v:Int)).length=k:=l v c;unfold nF OU Yg;dsimp only;rw[y];by_cases e:o=1
 ·simp only[if_pos e]
 simp only[if_neg e];by_cases e:o=2
 ·simp only[if_pos e]
 simp only[if_neg e];by_cases e:o=3
 ·simp only[if_pos e]
 simp only[if_neg e];by_cases e:o=4
 ·simp only[if_pos e]
 simp only[if_neg e];by_cases e:o=5
 ·simp only[if_pos e];rw[cF (by omega),cF (by omega)]
 simp only[if_neg e];by_cases e:o=12
 ·have i:b=true:=by
   rcases d with d|d
   ·exact d
   ·omega
  obtain⟨q,rfl,j⟩:=r i;have g:=m v c q j;obtain⟨u,x⟩:∃u:Nat,(at' (at' W.1.2.1.2 (v:Int)) (q:Int)).1=(u:Int):=⟨_,(Int.toNat_of_nonneg g.1).symm⟩
  simp only[if_pos e];rw[x]at g ⊢;have D:=l u (by omega);rw[cF (by omega),cF (by omega),cF (by omega),cF (by omega)]
 simp only[if_neg e];unfold uG;dsimp only;by_cases e:o=6
 ·simp only[if_pos e];rfl
 simp only[if_neg e];by_cases e:o=7
 ·simp only[if_pos e];rfl
 simp only[if_neg e];by_cases e:o=8
 ·simp only[if_pos e];rw[cF (by omega)];rfl
 simp only[if_neg e];by_cases e:o=9
 ·simp only[if_pos e];rw[cF (by omega)];rfl
 simp only[if_neg e];by_cases e:o=10
 ·simp only[if_pos e];rw[bG (xE f _)];rfl
 simp only[if_neg e];by_cases e:o=11
 ·simp only[if_pos e];rfl
 simp only[if_neg e];have i:b=true:=by
  rcases d with d|d
  ·exact d
  ·omega
 obtain⟨q,rfl,j⟩:=r i;have g:=m v c q j;rw[cF (by omega),cF (by omega)];by_cases e:o=13
 ·simp only[if_pos e];rw[cF (by omega)];rfl
 simp only[if_neg e];by_cases e:o=14
 ·simp only[if_pos e];rw[cF (by omega)];rfl
 simp only[if_neg e];by_cases e:o=15
 ·simp only[if_pos e];rw[bG (xE f _)];rfl
 simp only[if_neg e];by_cases e:o=16
 ·simp only[if_pos e];rfl
 simp only[if_neg e];have t:=w v c;rw[cF (by omega),cF (by omega)];rfl
theorem Zt {W:WLK} {nv n v:Nat} (h:WOk W nv n v) {deg:Nat} (m:(at' W.1.2.1.2 (v:Int)).length=deg) (L:deg<=24) (S:W.2.2.2.length<=800):
  ∀(e:E) (b:Bool) (c k:Nat) (p:Int) (g d:fL),W.2.2.2=g++(e.ts++d)->g.length=k->e.wf nv b=true->Oq b deg p->e.depth+850<=c->
   cN c W (k:Int) p=some (e.den (OU W) deg p,(((k+e.ts.length:Nat)):Int)):=by
 obtain⟨Q,ab,h1,h2,h3,h4,h5,_,_⟩:=id h;have i:∀{t:gK} {l g d:fL} {k:Nat},W.2.2.2=g++((t::l)++d)->g.length=k->at' W.2.2.2 (k:Int)=t/\(k:Int)<(W.2.2.2.length:Int):=by
  intro t l g d k j r;refine⟨TK (rest:=l++d) (by simpa using j) r,?_⟩
  rw[j];simp;omega
 intro e
 induction e with
 |lf o a=>
  intro b c k p g d j r u w B;obtain⟨c,rfl⟩:∃f,c=f+1:=⟨c - 1,by omega⟩
  obtain⟨A,s⟩:=i (l:=[]) j r;show eS (cN c) c W (k:Int) p=_;unfold eS;rw[cF ⟨by omega,s⟩,A];dsimp only;have X:=u;simp only[E.wf,zA6,zB5,zAa]at X;have hl:=abh h c u (m▸w);rw[if_pos (by omega),bG (show nF c _ (o,a) p=some (OU W o a p)from hl),dD (by omega)];rfl
 |un o x ih=>
  intro b c k p g d j r u w B;obtain⟨c,rfl⟩:∃f,c=f+1:=⟨c - 1,by omega⟩
  obtain⟨A,s⟩:=i (l:=x.ts) j r;show eS (cN c) c W (k:Int) p=_;unfold eS;rw[cF ⟨by omega,s⟩,A];dsimp only;simp only[E.wf,zA6,zAa]at u;simp only[E.depth]at B;have F:=ih b c (k+1) p (g++[(o,0)]) d (by rw[j];simp[E.ts]) (by simp[r]) u.2 w (by omega);rw[if_neg (by omega),if_pos (by omega),dD (by omega),bG (show cN c _ _ p=_ from F),bG (Zd c _ _)];simp only[E.den,E.ts,zA9];rw[show k+1+x.ts.length=k+(x.ts.length+1) by omega]
 |bi o x y G H=>
  intro b c k p g d j r u w B;obtain⟨c,rfl⟩:∃f,c=f+1:=⟨c - 1,by omega⟩
  obtain⟨A,s⟩:=i (l:=x.ts++y.ts) j r;show eS (cN c) c W (k:Int) p=_;unfold eS;rw[cF ⟨by omega,s⟩,A];dsimp only;simp only[E.wf,zA6,zAa]at u;simp only[E.depth]at B;have F:=G b c (k+1) p (g++[(o,0)]) (y.ts++d) (by rw[j];simp[E.ts]) (by simp[r]) u.1.2 w (by omega);have Y:=H b c (k+1+x.ts.length) p (g++(o,0)::x.ts) d (by rw[j];simp[E.ts]) (by simp[r];omega) u.2 w (by omega);rw[if_neg (by omega),if_neg (by omega),if_neg (by omega),if_pos (by omega),dD (by omega),bG (show cN c _ _ p=_ from F),bG (show cN c _ _ p=_ from Y),bG (Vi c _ _ _)];simp only[E.den,E.ts,zA9,zA4];rw[show k+1+x.ts.length+y.ts.length=k+(x.ts.length+y.ts.length+1) by omega]
 |ite x y z G H aa=>
  intro b c k p g d j r u w B;obtain⟨c,rfl⟩:∃f,c=f+1:=⟨c - 1,by omega⟩
  obtain⟨A,s⟩:=i (l:=x.ts++(y.ts++z.ts)) j r;show eS (cN c) c W (k:Int) p=_;unfold eS;rw[cF ⟨by omega,s⟩,A];dsimp only;simp only[E.wf,zA6]at u;simp only[E.depth]at B;have F:=G b c (k+1) p (g++[(43,0)]) (y.ts++z.ts++d) (by rw[j];simp[E.ts]) (by simp[r]) u.1.1 w (by omega);have Y:=H b c (k+1+x.ts.length) p (g++(43,0)::x.ts) (z.ts++d) (by rw[j];simp[E.ts]) (by simp[r];omega) u.1.2 w (by omega);have hz:=aa b c (k+1+x.ts.length+y.ts.length) p (g++(43,0)::(x.ts++y.ts)) d (by rw[j];simp[E.ts]) (by simp[r];omega) u.2 w (by omega);rw[if_neg (by decide),if_neg (by decide),if_neg (by decide),if_neg (by decide),dD (by omega),bG (show cN c _ _ p=_ from F),bG (show cN c _ _ p=_ from Y),bG (show cN c _ _ p=_ from hz)];simp only[E.den,E.ts,zA9,zA4];rw[show k+1+x.ts.length+y.ts.length+z.ts.length=k+(x.ts.length+(y.ts.length+z.ts.length)+1) by omega];split<;>rfl
 | ag o x ih =>
  intro b c k p g d j r u w B;obtain⟨c,rfl⟩:∃f,c=f+1:=⟨c - 1,by omega⟩
  obtain⟨A,s⟩:=i (l:=x.ts) j r;have T:=ZB u;have R:=u;simp only[E.wf,zA6,zB5,zAa]at R;simp only[E.depth]at B;have P:(E.ag o x).ts.length=x.ts.length+1:=rfl;have M:=congrArg List.length j;simp only[zA4]at M;show eS (cN c) c W (k:Int) p=_;unfold eS;rw[cF ⟨by omega,s⟩,A];dsimp only;rw[if_neg (by omega),if_neg (by omega),if_pos (by omega),cF (by omega)];let D:Nat->Int:=λq=>x.den (OU W) deg ((q:Nat):Int);let V:Nat->bQ:=λq=>(List.range q).map D++List.replicate (24 - q) 0;have J:∀q,q<=24->(V q).length=24:=λq U=>by simp[V];omega
  have O:∀q,q<24->(V q).set q (D q)=V (q+1):=λq U=>by
   show((List.range q).map D++List.replicate (24 - q) 0).set q (D q)=(List.range (q+1)).map D++List.replicate (24 - (q+1)) 0;rw[show 24 - q=(24 - (q+1))+1 by omega,List.replicate_succ,List.set_append_right _ _ (by simp),List.range_succ];simp
  let N:Nat->Int:=λq=>if q=0 then 0 else(((k+1+x.ts.length:Nat)):Int)
  refine Eq.trans (dJ (step:=lT c W (k:Int) (cN c)) (K:=some ((E.ag o x).den (OU W) deg p,(((k+(E.ag o x).ts.length:Nat)):Int))) deg (λq=>(N q,(q:Int),V q)) (λq ag U=> ?_) (λag=> ?_) c (by omega)) Z
  ·unfold lT;dsimp only;have F:=ih true c (k+1) ((q:Nat):Int) (g++[(o,0)]) d (by rw[j];simp[E.ts]) (by simp[r]) R.2 (λ_=>⟨q,rfl,U⟩) (by omega);rw[if_pos (by rw[Q,m];omega),dD (by omega),bG (show cN c _ _ _=_ from F),cF ⟨by omega,J q (by omega)⟩,dD (by omega),zAi];show ag (_,_,(V q).set q (D q))=_;rw[O q (by omega)];simp only[N];rw[if_neg (by omega)]
  ·unfold lT;dsimp only;rw[if_neg (by rw[Q,m];omega)];have C:List.take deg (V deg)=(List.range deg).map D:=by
    show List.take deg ((List.range deg).map D++_)=_;exact List.take_left' (by simp)
   have I:∀y:Int,y=(((k+1+x.ts.length:Nat)):Int)->lS c W (k:Int) (N deg,V deg) y=some ((E.ag o x).den (OU W) deg p,(((k+(E.ag o x).ts.length:Nat)):Int)):=by
    rintro y rfl;unfold lS;dsimp only;rw[Q,m,cF ⟨by omega,by omega,by rw[J deg L];omega⟩,A,zAi,C,bG (aaV c o _ (by omega) (by simp;omega) (by omega))];unfold oT;rw[P,show k+1+x.ts.length=k+(x.ts.length+1) by omega];rfl
   unfold tB;dsimp only;by_cases h0:deg=0
   ·rw[if_pos (by rw[Q,m];omega),bG (adr c (E.ag o x) T j r S (by omega))];exact I _ (by rw[P];omega)
   ·rw[if_neg (by rw[Q,m];omega)];exact I _ (by simp only[N];rw[if_neg h0])
end Go.Proofs.YtflciafboapaaaaGreat