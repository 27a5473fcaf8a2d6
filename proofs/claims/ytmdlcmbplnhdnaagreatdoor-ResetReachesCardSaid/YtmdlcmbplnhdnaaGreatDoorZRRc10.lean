/- Models and proofs. Conditions: none. -/
import Derived.Test.YtmdlcmbplnhdnaaGreatDoorZRRc6
import Derived.Test.YtmdlcmbplnhdnaaGreatDoorZRRc9
import Derived.Test.YtmdlcmbplnhdnaaGreatDoorZRRc8
import Derived.Test.YtmdlcmbplnhdnaaGreatDoorZRRc5
import Derived.Test.YtmdlcmbplnhdnaaGreatDoorZRRc1
import Derived.OpenShut
import Derived.Test.YtmdlcmbplnhdnaaGreatDoorZRRc2
import Derived.LaidLaws
import Derived.LaidHandle
import Derived.Lay
import Derived.MakeChecks
set_option linter.unusedVariables false
set_option linter.unusedSimpArgs false
set_option maxHeartbeats 4000000
set_option maxRecDepth 20000
namespace Go.Proofs.YtmdlcmbplnhdnaaGreatDoor
open Go.Sx
noncomputable def nZ  (a:Bool):Option (Bool):=
 some (a)
noncomputable def rV (U:Nat) (d:(aS×fP)) (a:Us) (e:List (Bool)):Option (Bool):=
 Option.bind (tQ U) λf=>(Option.bind (mC U f) λc=>UT c.2.2 λj=>(ck (0<=(wI .i64 ((List.length a.1:Int) - (1:Int)))∧(wI .i64 ((List.length a.1:Int) - (1:Int)))<(List.length a.1:Int)) (Option.bind (qF U ((c.1,c.2.1,j)) ((d.1,d.2)) (at' a.1 (wI .i64 ((List.length a.1:Int) - (1:Int))))) λg=>(Option.bind (BN U) λh=>(if h=true then(Option.bind (jT U ((d.1,d.2))) λb=>(Option.bind (AH U e a.2.1 ((b.1,b.2.1,b.2.2.1,b.2.2.2.1,b.2.2.2.2)) (decide (g=(0:Int)))) λi=>(nZ  (i))))else(nZ  (false)))))))
noncomputable def kR (U:Nat) (e:(aS×fP)) (b:Us) (a:List (Bool)×Int) (c:(List (Bool)×Int)->Option (Bool)):Option (Bool):=
 if a.2<(List.length b.1:Int)then(ck (0<=a.2∧a.2<(List.length b.1:Int)) (Option.bind (jU U ((e.1,e.2)) (at' b.1 a.2)) λd=>(ck ((List.length a.1:Int)+(List.length ([d]):Int)<=1099511627) (c ((a.1++[d]),(wI .i64 (a.2+(1:Int))))))))else(rV U e b (a.1))
noncomputable def nY (U:Nat) (c:(aS×fP)) (b:Us) (a:Bool):Option (Bool):=
 if a=true then(some (false))else(bI (kR U c b) U (([]:List Bool),(0:Int)))
noncomputable def sT (U:Nat) (e:Dw) (j:aS) (k:aS):Option (Bool):=
 Option.bind (fK U ((e.1,e.2.1,e.2.2.1,e.2.2.2.1,e.2.2.2.2.1,e.2.2.2.2.2)) (6:Int)) λa=>(Option.bind (CN U) λl=>(Option.bind (nK U ((a.1,a.2)) l j) λf=>(Option.bind (tQ U) λg=>(Option.bind (jT U ((a.1,a.2))) λh=>(Option.bind (qG U k (200:Int)) λi=>(Option.bind (wJ U g ((a.1,a.2)) h.1 f i) λd=>(if(!d.2.2)=true then(nY U a d (true))else(Option.bind (jT U ((a.1,a.2))) λb=>(Option.bind (uL U ((a.1,a.2))) λc=>(nY U a d (decide ((b.1,b.2.1,b.2.2.1,b.2.2.2.1,b.2.2.2.2)≠(c.1,c.2.1,c.2.2.1,c.2.2.2.1,c.2.2.2.2)))))))))))))
theorem Ep (U:Nat) {p0:Dw} {p1:aS} {p2:aS} (P:Value)  (Q:Value)  (R:Value)  (W:Value)  (X:Value) (r:Bool) (h:sT U p0 p1 p2=some r):
  aX Tryz.prog 5 #[Value.agg #[vI (p0.1),P,Q,R,vB (p0.2.2.2.2.1),vB (p0.2.2.2.2.2)],W,X] [Sl bP P p0.2.1,Sl bP Q p0.2.2.1,Sl bP R p0.2.2.2.1,Sl bP W p1,Sl zP X p2,Gb 0 (cellsOf Hn wP)] (λx:Unit=>vB (r)) (λx l=>l) (λ_ l=>l):=by
 refine aX.of Tryz.func5 Z Tryz.ntmps5 Z λc=>?_;refine aW<|aG (aN.box (cs:=[vI (p0.1),P,Q,R,vB (p0.2.2.2.2.1),vB (p0.2.2.2.2.2)]) Z Z) Z λb1=>aC Z<|aM<|aW<|dV 0 Z<|eX h λm w3 h=>aG (aN.callQ agB (Ck U P Q R m w3) Z (n_ [0,1,2] Z)) Z λb=>aG (aN.alloc (cs:=[lF,lF]) Z Z) Z λH=>cD (Know.one ((bE (aE.res 1 Z) dY))) λY=>cD (Know.one (aE.sl (bT (i:=2) (j:=3) Z Z bR))) λaa=>bQ 0 (vs:=[b.1,b.2.1]) Z Z (lH Y (lH aa Z)) Z Z Z<|aM<|aK ?_;refine JR.start [0,0,0,7,15] 3 mixedOrders (by decide +kernel) ?_;refine JR.open (by exact rfl) ?_;refine mA 0 Z<|eX h λr8 w9 h=>JR.loud Z Z Z (aN.callQ adh (N_ U  r8 w9) Z .nil) Z (λS=>(t_ [([1],[])] Z)) λS=>iW Z (gH Z)<|bM 3 Z Z<|eX h λN al h=>aG (aN.callQ adg (KX U b.1 b.2.1 (List.zip b.2.2 m.2) S W N al) Z (aF.cons (bE (aE.res 2 Z) dY) (aF.cons (bT (i:=3) (j:=4) Z Z bR) (aF.cons (bE (aE.res 0 Z) iL) (n_ [3] Z))))) Z λT=>aC Z<|aM<|aK ?_;refine JR.start [0,0,0,5,13,0,0,77,255,511,1023,1023,1023,2047,12287,32767] 15 mixedOrders (by decide +kernel) ?_;refine JR.open (by exact rfl)<|eX h λac am h=>JR.loud Z Z Z (aN.callQ WO (Hg U  ac am) Z .nil) Z (λaR=>zZ.z) λaR=>bK Z (aY.cons 3 Z .nil) .nil (fW 0 Z Z Z Z) (aL.h (aY.ix [3] Z Z) .nil aL.z)<|bK Z (aY.cons 3 Z .nil) .nil (fW 0 Z Z Z Z) (aL.h (aY.ix [3] Z Z) .nil aL.z)<|eX h λad an h=>JR.loud Z Z Z (aN.callQ Rx (BS U b.1 b.2.1 (List.zip b.2.2 m.2) ad an) Z (aF.cons (bE (aE.res 4 Z) dY) (aF.cons (bT (i:=5) (j:=6) Z Z bR) .nil))) Z (λaV=>(t_ [([3],[])] Z)) λaV=>iW Z (WE Z Z Z Z Z Z)<|iW Z (gH Z)<|iW Z (gH Z)<|eX h λae ao h=>JR.loud Z Z Z (aN.callQ adi (KY U X ae ao) Z (n_ [4] Z)) Z (λV=>(t_ [([4],[])] Z)) λV=>eX h λd ap h=>JR.loud Z Z Z (aN.callQ agD (Qv U b.1 b.2.1 (List.zip b.2.2 m.2) T.1 (List.zip T.2 N) V d ap) Z (aF.cons (bE (aE.res 5 Z) dY) (aF.cons (bT (i:=6) (j:=7) Z Z bR) (aF.cons (bT (i:=1) (j:=2) Z Z dY) (aF.cons (bE (aE.res 0 Z) vT) (n_ [5] Z)))))) Z (λa=>(t_ [] Z)) λa=>iW Z (gH Z)<|iW Z (pR Z Z)<|iW Z (pR Z Z)<|iW Z (pR Z Z)<|iW Z (oQ Z)<|iW Z (oQ Z)<|bM 15 Z Z<|aC Z<|aM<|aK<|aK<|eD (λq=>nY U m d q=some r) (λq I=>[(7,vP H),(9,a.1),(10,a.2.2.2),(42,vB (q))]) (λq I=>[Ar cZ.raw a.1 a.2.1,Lh b_ a.2.1 a.2.2.1 d.1,Ar bZ a.2.2.2 d.2.1,bV H [b.1,b.2.1] 29,Ar b_ b.1 m.1,Ar cZ.raw b.2.1 b.2.2,lD cB b.2.2 m.2]) ?_ ?_
 ·refine JR.start [0,1,3,7,15,7,63,127,255] 6 mixedOrders (by decide +kernel) ?_;refine JR.open (by exact rfl) ?_;refine bF Z<|iW Z (mE Z)<|bF Z ?_;refine JR.guard (by exact rfl) (by exact rfl) (by exact rfl) (λw=>?_) (λw=>?_)
  ·have h:=Ik w h;refine bO Z Z Z Z<|bO Z Z Z Z<|bO Z Z Z Z<|bM 6 Z Z<|aH Z<|aH Z<|dO Z<|aM ?_;exact cL (true) () h SF (aY.ix [0,1,2,7,8,9,10] Z Z) (aF.refl _ _)
  have h:=DY w h;refine eF Z (aY.cons 7 Z .nil) .nil (fW 0 Z Z Z Z) aL.z<|eX h λf az h=>Ou Z Z Z Z (aN.callQ Rx (BS U b.1 b.2.1 (List.zip b.2.2 m.2) f az) Z (aF.cons (bE (aE.res 8 Z) dY) (aF.cons (bT (i:=9) (j:=10) Z Z bR) .nil))) Z (λa2=>(t_ [] Z)) λa2=>eF Z (aY.cons 7 Z .nil) .nil (fW 0 Z Z Z Z) (aL.h (aY.ix [7] Z Z) .nil aL.z)<|bM 6 Z Z<|eX h λg aD h=>oP Z (aN.callQ adj (Lv U b.1 b.2.1 (List.zip b.2.2 m.2) g aD) Z (aF.cons (bE (aE.res 8 Z) dY) (aF.cons (bT (i:=9) (j:=10) Z Z bR) .nil))) Z λa8=>aP Z (acY Z Z (aaV (f.1,f.2.1,f.2.2.1,f.2.2.2.1,f.2.2.2.2) (g.1,g.2.1,g.2.2.1,g.2.2.2.1,g.2.2.2.2) _ _)) Z<|fI Z<|aM ?_;exact cL (decide ((f.1,f.2.1,f.2.2.1,f.2.2.2.1,f.2.2.2.2)≠(g.1,g.2.1,g.2.2.1,g.2.2.2.1,g.2.2.2.2))) () h SF (aY.ix [0,1,2,7,8,9,10] Z Z) (aF.refl _ _)
 intro q I h;refine Ab h Z (λ_ h=>?_) λ_ h=>?_
 ·refine aW<|aC Z<|aM<|aU<|aI ?_;cases h;exact sE Z
 refine cK<|aW<|aC Z<|aM<|aK<|Ch (B:=Value) (λs=>rV U m d s=some r) (λs t=>[(7,vP H),(9,a.1),(10,a.2.2.2),(12,t)]) (λs t=>[Ar cZ.raw a.1 a.2.1,Lh b_ a.2.1 a.2.2.1 d.1,Ar bZ a.2.2.2 d.2.1,bV H [b.1,b.2.1] 29,Ar b_ b.1 m.1,Ar cZ.raw b.2.1 b.2.2,lD cB b.2.2 m.2,Ar ZA t s]) ?_ ?_
 ·refine aW<|aC Z<|aM<|aT<|i_ (f_ ZA)<|dZ (B:=Value) (kR U m d) (λk u=>[(7,vP H),(9,a.1),(10,a.2.2.2),(12,u),(13,vI (k.2))]) (λk u=>[Ar cZ.raw a.1 a.2.1,Lh b_ a.2.1 a.2.2.1 d.1,Ar bZ a.2.2.2 d.2.1,bV H [b.1,b.2.1] 29,Ar b_ b.1 m.1,Ar cZ.raw b.2.1 b.2.2,lD cB b.2.2 m.2,Ar ZA u k.1]) (([]:List Bool),(0:Int)) (lF) h SF (aY.ix [1,2,3,4,5,6,7,0] Z Z) ?_;intro a3 k u h;refine aK<|aW<|aA Z<|aA Z<|aB (Gp 0 1 Z Z Z Z) Z<|cO Z<|aM ?_;refine fE h Z (λh=>?_) λh=>?_
  ·refine cK<|aK<|aT ?_;refine JR.start [0,0,0,0,12,28,62,126,255,511] 8 mixedOrders (by decide +kernel) ?_;refine JR.open (by exact rfl) ?_;refine bF Z<|mA 3 Z<|bF Z<|bF Z<|dD h λA h=>d_ (wR 1 Z) λL=>?_;refine bK Z (aY.cons 0 Z .nil) .nil (iI 0 Z Z Z Z Z A.1 (by have q1:=A.2;have q2:=L;(try simp only[List.length_set]at q1);(try simp only[List.length_set]at q2);(try simp only[List.length_set]);omega)) aL.z ?_;refine d_ (wR 1 Z) λM=>bK Z (aY.cons 0 Z .nil) .nil (lY 0 Z Z M Z Z A) aL.z<|eX h λC ay h=>JR.loud Z Z Z (aN.callQ WP (Fu U b.1 b.2.1 (List.zip b.2.2 m.2) (at' a.2.1 k.2) (List.zip (at' a.2.2.1 k.2) (at' d.1 k.2)) C ay) Z (aF.cons (bE (aE.res 4 Z) dY) (aF.cons (bT (i:=5) (j:=6) Z Z bR) (aF.cons (Ov (j:=1) Z dY A.1 A.2) .nil)))) Z (λa1=>(t_ [] Z)) λa1=>JR.loud Z Z Z (bY (e:=ZA) ([C]) [(0,vB (C))] Z Z Z Z (lR (vB (C)) Z) Z Z Z) Z (λaj=>(t_ [] Z)) λaj=>bM 8 Z Z<|dD h λab h=>aG (eN 8 FBo Z Z Z (bE (aE.res 0 Z) FBo) Z Z Z Z ab Z) Z λak=>aC Z<|eT<|mQ<|aO<|aA Z<|cI Z<|aC Z<|aM ?_;exact lK ((k.1++[C]),(wI .i64 (k.2+(1:Int)))) (ak) h SF (aY.ix [1,2,3,4,5,6,7,8] Z Z) (aF.refl _ _)
  refine fH ?_;exact gM (k.1) (u) h SF Z
 intro s t h;refine aK ?_;refine JR.start [0,1,0,0,0,16,48,120,248,511,1023,2047] 9 mixedOrders (by decide +kernel) ?_;refine JR.open (by exact rfl)<|eX h λaf aq h=>JR.loud Z Z Z (aN.callQ WO (Hg U  af aq) Z .nil) Z (λa0=>zZ.z) λa0=>eX h λF ar h=>JR.loud Z Z Z (aN.call Ry (Dj U F ar) Z (lC 5 Z) (λ_ _=>rfl) (λ_ _=>rfl)) Z (fun⟨n,o,G,D⟩=>zZ.z) fun⟨n,o,G,D⟩=>?_;have h:=LF h G D;refine bK Z (aY.cons 3 Z .nil) .nil (fW 0 Z Z Z Z) (aL.h (aY.ix [3] Z Z) .nil (aL.h (aY.ix [3] Z Z) .nil aL.z))<|iW Z (gH Z)<|iW Z (gH Z)<|bK Z (aY.cons 0 Z (aY.cons 0 Z .nil)) .nil (Gp 0 1 Z Z Z Z) (aL.h (aY.ix [0,1] Z Z) .nil (aL.h (aY.ix [0,1] Z Z) .nil aL.z))<|iW Z (oC Z Z)<|dD h λy h=>d_ (wR 1 Z) λJ=>?_;refine bK Z (aY.cons 0 Z .nil) .nil (iI 0 Z Z Z Z Z y.1 (by have q1:=y.2;have q2:=J;(try simp only[List.length_set]at q1);(try simp only[List.length_set]at q2);(try simp only[List.length_set]);omega)) (aL.h (aY.ix [0] Z Z) .nil (aL.h (aY.ix [0] Z Z) .nil aL.z)) ?_;refine d_ (wR 1 Z) λK=>bK Z (aY.cons 0 Z .nil) .nil (lY 0 Z Z K Z Z y) (aL.h (aY.ix [0] Z Z) .nil (aL.h (aY.ix [0] Z Z) .nil aL.z))<|bM 9 Z Z<|eX h λag au h=>aG (aN.callQ adk (KW U n o b.1 b.2.1 (List.zip b.2.2 m.2) (at' a.2.1 (wI .i64 ((List.length d.1:Int) - (1:Int)))) (List.zip (at' a.2.2.1 (wI .i64 ((List.length d.1:Int) - (1:Int)))) (at' d.1 (wI .i64 ((List.length d.1:Int) - (1:Int))))) ag au) Z (aF.cons (aE.fact 0 Z) (aF.cons (aE.fact 1 Z) (aF.cons (aE.fact 2 Z) (aF.cons (bE (aE.res 4 Z) dY) (aF.cons (bT (i:=5) (j:=6) Z Z bR) (aF.cons (Ov (j:=1) Z dY y.1 y.2) .nil))))))) Z λa4=>cP Z<|aC Z<|aM<|aK<|BH (B:=Unit) (λp=>nZ  p=some r) (λp E=>[(6,vB (p))]) (λp E=>[]) (λp E=>[Sl aQ n F.2.1,Sl aJ o G,PF (Value.agg #[vS F.1,n,o]),Sl bP P p0.2.1,Sl bP Q p0.2.2.1,Sl bP R p0.2.2.2.1,Sl bP W p1,Sl zP X p2,Gb 0 (cellsOf Hn wP)]) ?_ ?_
 ·refine aO<|eX h λah av h=>aG (aN.callQ WQ (Lt U  ah av) Z (n_ [8] Z)) Z λa5=>aA Z ?_;refine rW (by exact rfl) (by exact rfl) (λv=>?_) (λv=>?_)
  ·have h:=Ik v h;refine cR Z<|cR Z<|aP Z (fW 3 Z Z Z Z) Z<|eX h λai aw h=>oP Z (aN.callQ Rx (BS U b.1 b.2.1 (List.zip b.2.2 m.2) ai aw) Z (aF.cons (bE (aE.res 4 Z) dY) (aF.cons (bT (i:=5) (j:=6) Z Z bR) .nil))) Z λa6=>cR Z<|eX h λO ax h=>oP Z (aN.callQ adl (Od U t a.2.2.2 O ax) Z (aF.cons (bE (aE.res 7 Z) FBo) (aF.cons (bE (aE.res 2 Z) iP) .nil))) Z λa7=>dO Z<|aC Z<|aM ?_;exact cL (O) () h SF .nil (aF.refl _ _)
  have h:=DY v h;refine aH Z<|aH Z<|aH Z<|aH Z<|aH Z<|aH Z<|fI Z<|aC Z<|aM ?_;exact cL (false) () h SF .nil (aF.refl _ _)
 intro p E h;unfold nZ at h;refine aU ?_;cases h;exact kV Z
end Go.Proofs.YtmdlcmbplnhdnaaGreatDoor
namespace Go.Proofs.YtmdlcmbplnhdnaaGreatDoor
open Go Go.Sx
theorem NO (x:OC) (l a:aS):sT 1000 x l a=some true:=by
 obtain⟨g,d,E,V,W,T,hn,m⟩:=akc x 6 (by omega) (by omega);have N:=m.toWu;have Q:=N.v.n24;obtain⟨L,R,B⟩:=Vg N.v fO l (by decide) ahA;obtain⟨J,H,U,G⟩:=VS a (n:=200) (by omega);obtain⟨k,f,o,s,w,_,u,_⟩:=akg N (kind:=3) (by decide) (by decide) (ws:=J) (by omega) G (aeW N B);have Y:=w.l1;have D:=w.l2;have X:=w.le;let b:Nat->Bool:=λj=>(jU 1000 g (at' f (j:Int))).getD false;have y:∀j,j<=k->jU 1000 g (at' f (j:Int))=some (b j)∧(b j=true↔SY g d (at' f (j:Int))):=λj c=>by
  obtain⟨q,M,A⟩:=ajZ N (u j c).r;have:b j=q:=by show Option.getD _ _=_;rw[M];rfl
  rw[this];exact⟨M,A⟩
 have F:∀j,j<k->b j=false:=λj c=>by
  cases h:b j with
  |false=>rfl
  |true=>
   obtain⟨t,_,A,_⟩:=w.step j c;exact absurd ((LQ N (u j (by omega)).r).2 ((y j (by omega)).2.1 h)) A
 have i:∀j,j<=k->at' ((List.range (k+1)).map b) (j:Int)=b j:=λj c=>kU _ (by omega);unfold sT;rw[show fK 1000 (x.1,x.2.1,x.2.2.1,x.2.2.2.1,x.2.2.2.2.1,x.2.2.2.2.2) 6=some g from T,bB Z,bB afc,bB (show nK 1000 (g.1,g.2) fO l=some L from R),bB (show tQ 1000=some BP from rfl),bB (show jT 1000 (g.1,g.2)=_ from(Jh m).1),bB (show qG 1000 a 200=_ from H)];refine(bB (show wJ 1000 BP g 3 L J=_ from s)).trans ?_;rw[if_neg (show¬(!true)=true by decide),bB (show jT 1000 (g.1,g.2)=_ from(Jh m).1),bB (show uL 1000 (g.1,g.2)=_ from(Jh m).2),decide_eq_false (by simp)];unfold nY;rw[if_neg (by decide)];refine eS (step:=kR 1000 (g.1,g.2) (f,o,true)) (K:=some true) (k+1) (λj=>((List.range j).map b,(j:Int))) (λj O c=> ?_) (λO=> ?_) 1000 (by omega)
 ·unfold kR;dsimp only;rw[if_pos (by omega),cA (by omega),bB (show jU 1000 (g.1,g.2) (at' f (j:Int))=_ from(y j (by omega)).1),cA (by simp;omega),fF (by omega)];have:(List.range (j+1)).map b=(List.range j).map b++[b j]:=by rw[List.range_succ,List.map_append,List.map_singleton]
  rw[this]
 ·unfold kR;dsimp only;rw[if_neg (by omega)];unfold rV;have P:wI .i64 ((f.length:Int) - 1)=(k:Int):=by rw[wr (by omega) (by omega)];omega
  dsimp only;rw[bB (show tQ 1000=some BP from rfl),bB (PV 1000)];refine Tg λz I=> ?_;have I:z.map yP=Dt RS:=I;obtain⟨e,S,C⟩:=agJ N I (u k (Nat.le_refl k)).r;rw[P,cA (by omega)];refine(bB (show qF 1000 (pZ z) g (at' f (k:Int))=_ from S)).trans ?_;rw[bB (show BN 1000=some true from rfl),if_pos Z,bB (show jT 1000 (g.1,g.2)=_ from(Jh m).1)];refine(bB (abi (k:=k) (by simp) D (by omega) (λj c h=> ?_) (λj c h=> ?_) (show(-1:Int)<0 by decide) λh=> ?_)).trans Z
  ·rw[i j (by omega),F j c]at h;cases h
  ·rw[i j c]at h;refine Int.not_lt.1 λq=> ?_;have:=(y j c).2.2 (Sj N.v N.dist N.d0 N.p (MF N.v) N.e (u j c) q);rw[h]at this;cases this
  ·rw[i k (Nat.le_refl k)]at h;refine decide_eq_false λq=> ?_;have:=(y k (Nat.le_refl k)).2.2 (C.1 q);rw[h]at this;cases this
end Go.Proofs.YtmdlcmbplnhdnaaGreatDoor
namespace Go.Sx
open Go.RowKit Go.ChangeShapes Go.WideShapes Go.ChangeAt Go.Proofs Go.Joins Go.Deep
section
variable {H:Type} {enc:TypeId×Value->H} {P:Program} {w:World} {base:Nat} {spare:Nat->Bool} {held:Bool}
theorem Ll {a:Type} (l:List a) (d:a):l=(List.range l.length).map λi=>l.getD i d:=by
 apply List.ext_getElem?;intro i;by_cases h:i<l.length
 ·simp[h]
 ·simp[h]
theorem YF {r:Reach} {x:Nat} {t:TypeId} {b:Array Field} {v:Value} {d:DataW H} {p:List MemPlace} (s:P.underlying t=some (.struct b)) (c:oneCellFields P b=true) (z:P.cellsOf t=b.size)
  (E:Value.okWide P w r x t v) (h:DataW.Trod enc P w base spare held t v d p):
  ∃(V:Nat->Value) (Y:Nat->DataW H×List MemPlace) (n:Nat),v = .agg ((List.range b.size).map V).toArray∧∀(i:Nat) (f:Field),b[i]? = some f->DataW.trod enc P w base spare held n f.type [V i]=some (Y i):=by
 obtain⟨a,rfl,l⟩:=okWide_struct s E;obtain⟨m,A⟩:=h;obtain⟨u,n,_,_,_,q,B⟩:=DataW.trod_struct s A;refine⟨λi=>a.toList.getD i undef,λi=>u.getD i (.nil,[]),n,?_,λi f j=> ?_⟩
 ·congr 1;apply Array.toList_inj.1;show a.toList=(List.range b.size).map λi=>a.toList.getD i undef;have y:b.size=a.toList.length:=by rw[<-z,<-l];rfl
  rw[y];exact Ll a.toList undef
 ·have D:i<b.size:=(Array.getElem?_eq_some_iff.1 j).1;obtain⟨o,k⟩:=hone_of c i f j;have g:=B i f j;have e:(Value.cells (.agg a)).toList=a.toList:=rfl;have C:i<a.toList.length:=by rw[Array.length_toList];omega
  rw[o,k,e,take1_drop _ _ undef C]at g;rw[g];have F:i<u.length:=by omega
  simp[F]
theorem Yi {k:IntKind} {e:TypeId} (a:P.underlying e=some (.int k)) {n:Nat} {v:Value} {x:DataW H×List MemPlace} (h:DataW.trod enc P w base spare held n e [v]=some x):∃y:Int,v = .int k y:=by
 obtain⟨y,b,_,_⟩:=DataW.trod_int a h;exact⟨y,by simpa using b⟩
theorem Ma {e:TypeId} (a:P.underlying e=some .bool) {n:Nat} {v:Value} {x:DataW H×List MemPlace} (h:DataW.trod enc P w base spare held n e [v]=some x):∃y:Bool,v = .bool y:=by
 obtain⟨y,b,_⟩:=DataW.trod_bool a h;exact⟨y,by simpa using b⟩
end
end Go.Sx
section
set_option maxRecDepth 100000
namespace Go.Sx
open Go.RowKit Go.ChangeShapes Go.WideShapes Go.ChangeAt Go.Proofs Go.Joins
theorem RZ {P:Program} {W:World} {n:String} {b m t B:Nat} {k:IntKind} {a:aS} (h:laidMet P [(n,.agg (a.map λx=> .lit (.int k x)))] W) (I:P.globalNamed n=some b)
  (ht:(P.globals[b]?).map (·.type)=some t) (hu:P.underlying t=some (.array m B)) (w:P.underlying B=some (.int k)) (S:P.cellsOf B=1) (u:P.cellsOf t=m) (hm:0<m):(Gb b (cellsOf (cZ.int k) a)).p W (λ_=>True):=by
 obtain⟨ps,⟨g,t2,j,F,p,q,C,D,E,M,e5,N⟩,aa,d⟩:=h;rw[I]at C;cases C;rw[ht]at D;cases D;refine⟨trivial,?_⟩
 obtain⟨L,ml,_,l,Y,y,V⟩:=DataW.trod_array hu M;simp only[Prod.mk.injEq,DataW.agg.injEq]at l;have e:a.length=m:=by rw[<-y];simpa using congrArg List.length l.1
 have U:j.size=m:=by rw[<-u,<-Y];simp
 have v:j.toList=cellsOf (cZ.int k) a:=by
  refine List.ext_getElem? λi=> ?_;by_cases X:i<m
  ·have o:=V i X;rw[S,Nat.mul_one]at o;have J:a[i]? = some (a[i]'(by omega)):=List.getElem?_eq_getElem _;have G:=wC (cZ.int k) a i _ J 0 _ Z;rw[show i*(cZ.int k).sz+0=i from Nat.mul_one i]at G;rw[G];have K:L[i]? = some (L[i]'(by omega)):=List.getElem?_eq_getElem _;rw[K]at o;obtain⟨z,hz,A,_⟩:=DataW.trod_int w o;have s:j.toList[i]? = some (.int k z):=by
    have:=congrArg (·[0]?) hz;simpa [List.getElem?_take,List.getElem?_drop]using this
   rw[s];have r:=congrArg (·[i]?) l.1;simp only[List.getElem?_map,J,K,Option.map_some,Option.some.injEq]at r;rw[A]at r;have O:a[i]=z:=by simpa using r
   rw[O]
  ·rw[List.getElem?_eq_none (by simp;omega),List.getElem?_eq_none (by rw[eJ,e];show m*1<=i;omega)]
 have f:MemPlace.cell b 0∈ps:=by
  rw[N];refine List.mem_append_left _ (List.mem_append_left _ ?_);exact List.mem_map.2 ⟨0,by simp;omega,rfl⟩
 obtain⟨⟨c,T,H⟩,_⟩:=d b 0 f;refine⟨T,?_⟩
 have Q:c=j:=by
  have R:(W.var? P n)=some c:=by unfold World.var?;rw[I];simp[H]
  rw[R]at E;exact Option.some.inj E
 rw[H,Q,<-v]
theorem Px {H:Type} {enc:TypeId×Value->H} {os:Os} (D:List (String×DataW Unit)) (N:(D.all λx=>x.2.handleName?.isNone)=true) (l:os.Started) {f:FuncId} {c:Func} {s:ChangeSpec} {r:Bool} (L:Tryz.prog.funcs[f]? = some c) (n:Tryz.prog.inits.idxOf? f=none)
  (o:(c.params.toList.all λt=>Tryz.prog.readableRec t&&decide (t<Tryz.prog.types.size))=true) (A:c.resultTypes = #[4]) (k:s.vars=[])
  (u:∀a:List (DataW H),a.length=c.params.toList.length->s.fn H a={results:=[.lit (.bool true)],args:=a})
  (m:∃(w:World) (b:Tape) (i:Input),w.os=os∧(w.forCall b i).Shaped Tryz.prog∧i.vars=[]∧Input.okWide Tryz.prog (w.forCall b i) .any w.heap.size f i∧
   ((s.pre enc Tryz.prog c [] false (w.forCall b i).memory i.args∧laidMetH Tryz.prog D (w.forCall b i).memory)∧sizedMet enc Tryz.prog c (OpenSpec.ofChange s) false (w.forCall b i).memory i.args)∧({}:Assume).holds Tryz.prog (lone (Frame.enter Tryz.prog f i.args .normal) [] (w.forCall b i)))
  (E:∀(W:World) (g:Nat) (args:Array Value) (a:List (DataW H)) (p:List MemPlace),laidMetH Tryz.prog D W->(∀(j:Nat) t v,c.params[j]? = some t->args[j]? = some v->Value.okWide Tryz.prog W .any g t v)->
   DataW.TrodAll enc Tryz.prog W 0 (λ_=>true) true c.params.toList args.toList a p->Calls Tryz.prog f args W λe P=>e = .returned (.bool true)∧MQ W P):
  ReturnsInHanded {} Go.Proofs.YtmdlcmbplnhdnaaGreatDoor.Tryz.pinned.checked os f .any (λw args=>(s.pre enc Tryz.prog c [] false w args∧laidMetH Tryz.prog D w)∧sizedMet enc Tryz.prog c (OpenSpec.ofChange s) false w args) (s.post enc Tryz.prog c false r false false):=by
 refine returnsInHanded_of_change_and (C:=Go.Proofs.YtmdlcmbplnhdnaaGreatDoor.Tryz.pinned.checked) (X:=λw _=>laidMetH Tryz.prog D w) (λ_ _ _ U h=>by rw[MakeChecks.laidMetH_plain _ _ _ N]at h ⊢;exact h.of_heap U) ake l n L m ?_;intro W g args a Y G B J _ _ T _;have M:=J.lt;have K:=J;obtain⟨p,q,I,Q,rfl,_,_⟩:=J;rw[k]at Q;obtain⟨rfl,rfl⟩:=trodVars_none Q;refine(E W g args a p T B I).mono ?_;rintro e P ⟨rfl,R⟩;refine⟨_,rfl,?_⟩
 have z:a.length=c.params.toList.length:=by
  have:∀(F:List TypeId) (y:fR) (a:List (DataW H)) (p:List MemPlace),DataW.TrodAll enc Tryz.prog W 0 (λ_=>true) true F y a p->a.length=F.length:=by
   intro F
   induction F with
   |nil=>intro y a p h;cases y<;>cases a<;>first|rfl|exact h.elim
   | cons t F ih =>
    intro y a p h;cases y with
    |nil=>exact h.elim
    |cons v y=>
     cases a with
     |nil=>exact h.elim
     |cons d a=>obtain⟨_,_,_,S,_⟩:=h;simp[ih y a _ S]
  exact this _ _ _ _ I
 have O:s.fn H (a++[])={results:=[.lit (.bool true)],args:=a}:=by rw[List.append_nil];exact u a z
 refine⟨a,[],p++[],[],p,[],K,?_,?_,?_,R.frame _,λh=>by cases h⟩
 ·rw[O,A];exact trodAll_mk1 (shut_bool Tryz.underlying4 true)
 ·rw[O];exact Fv ahc R _ _ _ _ o I (λx V=>M x (List.mem_append_left _ V))
 ·rw[O,k];exact rfl
theorem Vx {P:Program} {n:String} {k:IntKind} {a:aS} {W:World} (h:laidMetH P [(n,.agg (a.map λx=> .lit (.int k x)))] W):laidMet P [(n,.agg (a.map λx=> .lit (.int k x)))] W:=by
 rw[MakeChecks.laidMetH_plain _ _ _ (by rfl)]at h;exact h
end Go.Sx
end
