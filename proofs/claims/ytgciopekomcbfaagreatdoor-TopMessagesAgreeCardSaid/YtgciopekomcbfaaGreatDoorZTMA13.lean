/- Models and proofs. Conditions: none. -/
import Derived.Test.YtgciopekomcbfaaGreatDoorZTMA7
import Derived.Test.YtgciopekomcbfaaGreatDoorZTMA8
import Derived.Test.YtgciopekomcbfaaGreatDoorZTMA5
import Derived.Test.YtgciopekomcbfaaGreatDoorZTMA12
import Derived.Test.YtgciopekomcbfaaGreatDoorZTMA11
import Derived.Test.YtgciopekomcbfaaGreatDoorZTMA9
import Derived.Test.YtgciopekomcbfaaGreatDoorZTMA1
import Derived.OpenShut
import Derived.Test.YtgciopekomcbfaaGreatDoorZTMA2
import Derived.LaidLaws
import Derived.LaidHandle
import Derived.Lay
import Derived.MakeChecks
set_option linter.unusedVariables false
set_option linter.unusedSimpArgs false
set_option maxHeartbeats 4000000
set_option maxRecDepth 20000
open Go.Proofs.Tryz
variable (U:Nat)
namespace Go.Proofs.YtgciopekomcbfaaGreatDoor
open Go Go.Sx Go.Gx
set_option maxRecDepth 100000
def wE (a:Nat):V1 V4:=some (true)
theorem aae:aU prog 15:=call15
theorem aax:okT (Km FI gp2 4000 15 [] H0)=true:=by kernel_rfl
theorem GZ (a:Nat) (r:V4) (h:wE a=some r):
  a_ prog 15 #[] [Gb 0 (cellsOf Ff sS)] (λx:Unit=>Value.bool (r)) (λx l=>l) (λ_ l=>l):=by
 obtain rfl:=Option.some.inj h;obtain⟨d,c⟩:=abQ aax;rw[Fw De]at c;exact Qr UW aae (λf e h=>h.bool_inv) λT b=>Il (gs:=gl T) ame c (gQ.start b Z) .nil
end Go.Proofs.YtgciopekomcbfaaGreatDoor
namespace Go.Proofs.YtgciopekomcbfaaGreatDoor
open Go.Sx
def AP (a:Unit):V1 V4:=
 some (true)
def wW (c e:bE) (a:Int) (b:(Int)->V1 V4):V1 V4:=
 if a<(c.length:Int)then(ck (0<=a/\a<(c.length:Int)) (ck (0<=a/\a<(e.length:Int)) (Option.bind (vC U (at' c a) (at' e a)) λd=>(if(!d)=true then(some (false))else(b (wI .i64 (a+(1:Int))))))))else(AP (()))
def BO (a b:bE):V1 V4:=
 if(a.length:Int)≠(b.length:Int)then(some (false))else(bN (wW U a b) U (0:Int))
theorem ahe:aU prog 17:=call17
theorem QP (U:Nat) {f g:bE} (j:V0) (p:lI) (k:V0) (q:lI) (r:Bool) (h:BO U f g=some r):
  a_ prog 17 #[j,k] [S2 aL j p f,S2 aL k q g] (λx:Unit=>vB (r)) (λx l=>l) (λ_ l=>l):=by
 refine a_.of func17 Z ntmps17 Z λc=>?_;refine aP<|aC Z<|aM<|aK<|aP<|aA Z<|aB (fN Z (dH Z) Z) Z<|aA Z<|aB (fN Z (yQ Z) Z) Z<|oZ Z<|aM ?_;refine eI h Z (λh=>?_) λh=>?_
 .refine aP<|aC Z<|aM<|aT<|aJ ?_;cases h;exact mA Z
 refine cQ<|aK<|iA (λe=>AP e=some r) (λe n=>[]) (λe n=>[]) ?_ ?_
 .refine aP<|aC Z<|aM<|aS<|gC (wW U f g) (λd o=>[(0,j),(1,k),(5,vI (d))]) (λd o=>[]) (0:Int) () h SF (aX.refl _) ?_;intro t d o h;refine aK<|aP<|aA Z<|aA Z<|aB (fN Z (dH Z) Z) Z<|dD Z<|aM ?_;refine eI h Z (λh=>?_) λh=>?_
  .refine cQ<|aK<|aS<|aK ?_;refine yP [0,0,3,7,0,0,48,112,255,511] 8 mixedOrders ?_;refine bD Z<|bD Z<|dV h λa h=>bK Z .nil (nD 0 Z) (cA Z Z (dH Z) Z Z a) aO.z<|bK Z .nil (nD 0 Z) (cW Z (dH Z) Z Z a) aO.z<|bD Z<|bD Z<|dV h λb h=>bK Z .nil (nD 1 Z) (cA Z Z (dH Z) Z Z b) aO.z<|bK Z .nil (nD 1 Z) (cW Z (dH Z) Z Z b) aO.z<|bU 8 Z Z<|fP h λi m h=>aI (zBk ahp (JZ U ((at' p d).1) ((at' q d).1) i m) Z (aF.cons (zBm (dH Z) a.1 a.2) (aF.cons (zBm (yQ Z) b.1 b.2) .nil))) Z λs=>aB (sI Z) Z<|aM ?_;refine Ca h Z (λ_ h=>?_) λ_ h=>?_
   .refine aP<|aC Z<|aM<|aT<|bW<|aJ<|aJ<|bW<|aJ ?_;cases h;exact mA Z
   refine eP<|m_<|aR<|aA Z<|cU Z<|aC Z<|aM ?_;exact BD (wI .i64 (d+(1:Int))) () h SF Z
  refine fO ?_;exact j_ () (()) h SF Z
 intro e n h;unfold AP at h;refine aP<|aC Z<|aM<|aT ?_;cases h;exact mA Z
noncomputable def gN (a:V4):V1 V4:=
 some (a)
noncomputable def rM (h:Dh) (c:TH) (g:V6 pP) (a:tQ) (b:acH):V1 V4:=
 Option.bind (wE U) λd=>(if d=true then(if b.1=(0:Int)then(Option.bind (pH U ((c.1,c.2.1,g)) ((h.1,h.2)) ((a.1,a.2.1,a.2.2))) λe=>(if e=true then(Option.bind (BO U a.1 b.2.2.2.2.2.2.2.2) λf=>(gN (f)))else(gN (false))))else(gN (false)))else(gN (false)))
noncomputable def mW (g:Dh) (b:TH) (c:V6 pP) (e:bE) (f:TI) (d:tQ):V1 V4:=
 Option.bind (q_ U ([]:aW) f.2.2.2.1) λh=>(Option.bind (r_ U ((b.1,b.2.1,c)) ((g.1,g.2)) (4:Int) e h) λa=>(rM U g b c d (a.2,a.1.2.2.2.1,a.1.2.2.2.2.1,a.1.2.2.2.2.2.1,a.1.2.2.2.2.2.2.1,a.1.2.2.2.2.2.2.2,a.1.1,a.1.2.1,a.1.2.2.1)))
noncomputable def rO (c:Ec) (b:EV->V1 V4) (a:Ec):V1 V4:=
 if a.1≠(0:Int)then(some (false))else(b ((wI .i64 (c.1+(1:Int))),a.2.1,a.2.2.1,a.2.2.2))
noncomputable def iR (g:Dh) (d:TH) (h:V6 pP) (i:bE) (f:TI) (a:Ec) (c:EV->V1 V4):V1 V4:=
 if a.1<f.2.2.2.1 then(Option.bind (wP U ((g.1,g.2)) (2:Int)) λe=>(Option.bind (yR U ((d.1,d.2.1,h)) ((g.1,g.2)) (2:Int) ((a.2.1,a.2.2.1,a.2.2.2)) e) λb=>(rO a c (b.2,b.1.1,b.1.2.1,b.1.2.2))))else(mW U g d h i f (a.2.1,a.2.2.1,a.2.2.2))
noncomputable def kT (g:Int) (e:Dh) (c:TH) (f:V6 pP) (b:bE) (a:V6 bE×V6 (V6 bE)):V1 V4:=
 Option.bind (sZ U (at' ([(0:Int),(3:Int)]) g) ((e.1,e.2))) λd=>(bN (iR U e c f b d) U ((0:Int),b,a.1,a.2))
noncomputable def mX (c:IY) (b:Nq->V1 V4) (a:V6 (V6 bE)×V6 bE):V1 V4:=
 b ((wI .i64 (c.1+(1:Int))),a.2,a.1)
noncomputable def rP (a:IY) (c:Nq->V1 V4) (b:bE×V6 bE):V1 V4:=
 ck ((a.2.1.length:Int)+(List.length ([b.1]):Int)<=1099511627) (ck ((a.2.2.length:Int)+(List.length ([b.2]):Int)<=1099511627) (mX a c ((a.2.2++[b.2]),(a.2.1++[b.1]))))
noncomputable def rQ (f:Dh) (e:bE) (d:IY) (a:bE×V6 bE×Int) (c:(bE×V6 bE×Int)->V1 V4) (b:bE):V1 V4:=
 ck ((a.2.1.length:Int)+(List.length ([b]):Int)<=1099511627) (c ((a.1++([(([]:aW)++(at' e ((at' (at' f.2 d.1) a.2.2).1)))])),(a.2.1++[b]),(wI .i64 (a.2.2+(1:Int)))))
noncomputable def mY (h:Int) (i:Dh) (c:bE) (a:IY) (f:bE×V6 bE×Int) (d:(bE×V6 bE×Int)->V1 V4) (b:bE×Int) (e:(bE×Int)->V1 V4):V1 V4:=
 Option.bind (gM U h (3:Int)) λg=>(if b.2<g then(ck (0<=a.1/\a.1<(c.length:Int)) (ck ((List.length ([]:aW):Int)+((at' c a.1).length:Int)<=1099511627) (ck ((b.1.length:Int)+(List.length ([(([]:aW)++(at' c a.1))]):Int)<=1099511627) (e ((b.1++([(([]:aW)++(at' c a.1))])),(wI .i64 (b.2+(1:Int))))))))else(rQ i c a f d (b.1)))
noncomputable def iS (g:Int) (d:Dh) (c:bE) (a:IY) (e:Nq->V1 V4) (b:bE×V6 bE×Int) (f:(bE×V6 bE×Int)->V1 V4):V1 V4:=
 ck (0<=a.1/\a.1<(d.2.length:Int)) (if b.2.2<((at' d.2 a.1).length:Int)then(ck (0<=a.1/\a.1<(d.2.length:Int)) (ck (0<=b.2.2/\b.2.2<((at' d.2 a.1).length:Int)) (ck (0<=((at' (at' d.2 a.1) b.2.2).1)/\((at' (at' d.2 a.1) b.2.2).1)<(c.length:Int)) (ck ((List.length ([]:aW):Int)+((at' c ((at' (at' d.2 a.1) b.2.2).1)).length:Int)<=1099511627) (ck ((b.1.length:Int)+(List.length ([(([]:aW)++(at' c ((at' (at' d.2 a.1) b.2.2).1)))]):Int)<=1099511627) (bN (mY U g d c a b f) U (([]:bE),(0:Int))))))))else(rP a e (b.1,b.2.1)))
noncomputable def eH (h i:Int) (f:Dh) (c:TH) (g:V6 pP) (d e:bE) (a:IY) (b:Nq->V1 V4):V1 V4:=
 if a.1<(f.2.length:Int)then(bN (iS U h f e a b) U (([]:bE),([]:Bm),(0:Int)))else(kT U i f c g d (a.2.1,a.2.2))
noncomputable def sA (k:Int) (a:An) (l m:aW) (n:Int):V1 V4:=
 Option.bind (gM U k (2:Int)) λb=>(ck (0<=b/\b<(List.length ([(0:Int),(3:Int)]):Int)) (Option.bind (kQ U ((a.1,a.2.1,a.2.2.1,a.2.2.2.1,a.2.2.2.2.1,a.2.2.2.2.2)) (5:Int)) λd=>(Option.bind (BS U (at' ([(0:Int),(3:Int)]) b)) λe=>(Option.bind (nA U e) λc=>ZW c.2.2 λj=>(Option.bind (zK U (at' ([(0:Int),(3:Int)]) b)) λf=>(Option.bind (fC U ((d.1,d.2)) f l) λg=>(Option.bind (zK U (at' ([(0:Int),(3:Int)]) b)) λh=>(Option.bind (fC U ((d.1,d.2)) h m) λi=>(bN (eH U n b d c j g i) U ((0:Int),([]:Bm),([]:Gf)))))))))))
theorem EI (U:Nat) {p0:Int} {p1:An} {p2 p3:aW} {p4:Int} (v0 v1 v2 v3 v4:V0) (r:Bool) (h:sA U p0 p1 p2 p3 p4=some r):
  a_ prog 3 #[vI (p0),Value.agg #[vI (p1.1),v0,v1,v2,vB (p1.2.2.2.2.1),vB (p1.2.2.2.2.2)],v3,v4,vI (p4)] [Sl aL v0 p1.2.1,Sl aL v1 p1.2.2.1,Sl aL v2 p1.2.2.2.1,Sl aL v3 p2,Sl aL v4 p3,Gb 0 (cellsOf Ff sS)] (λx:Unit=>vB (r)) (λx l=>l) (λ_ l=>l):=by
 let be:=(tg 1 ([]:e_))
 let I:=Sl aL v0 p1.2.1;let H:=Sl aL v1 p1.2.2.1;let an:=Sl aL v2 p1.2.2.2.1;let am:=Gb 0 (cellsOf Ff sS);refine a_.of func3 Z ntmps3 Z λc=>?_;refine aP<|aI (aN.box (cs:=[vI (p1.1),v0,v1,v2,vB (p1.2.2.2.2.1),vB (p1.2.2.2.2.2)]) Z Z) Z λb1=>aC Z<|aM<|aP<|aI (b_ (e:=dW) ([(0:Int),(3:Int)]) [(0,vI (0:Int)),(1,vI (3:Int))] Z Z Z Z (Sv (vI (0:Int)) (vI (3:Int)) Z Z) Z Z Z) Z λu2=>aA Z<|fP h λr3 w4 h=>let az:=vI (at' ([(0:Int),(3:Int)]) r3);aI (zBk Hc (jZ U r3 w4) Z .nil) Z λx5=>dV h λj6 h=>aB (bR Z Z (bP (aG.res 0 Z) fG) Z Z j6) Z<|aB (cK Z (bP (aG.res 0 Z) fG) Z Z Z gF j6) Z<|aC Z<|aM<|aP<|dL 1 Z<|fP h λr7 w8 h=>aI (zBk ajh (D_ U v0 v1 v2 r7 w8) Z (jS [0,1,2] Z)) Z λx9=>let bd:=Sl aL x9.1 r7.1;let ad:=Ar dW x9.1 r7.1;let S:=fE bO x9.2.2 r7.2;let a3:=Ar bI.raw x9.2.1 x9.2.2;let bg:=(List.zip x9.2.2 r7.2);let bc:=S2 aY x9.2.1 bg r7.2;aI (aN.alloc (cs:=[eV,eV]) Z Z) Z λaj=>let ae:=bH aj [x9.1,x9.2.1] 28;bG (Know.one ((bP (aG.res 1 Z) fG))) λc3=>bG (AA (cC (i:=2) (j:=3) Z Z bX)) λc4=>bQ 0 (vs:=[x9.1,x9.2.1]) Z Z (eJ c3 (eJ c4 Z)) Z Z Z<|aM<|aP<|aA Z<|fP h λdn dt h=>aI (zBk aji (QX U dn dt) Z .nil) Z λdS=>fP h λa0 du h=>aI (aN.call aag (KS U a0 du) Z (nD 5 Z) (λ_ _=>rfl) (λ_ _=>rfl)) Z fun⟨a1,a2,bl,c9⟩=>let J:=Sl aD a2 bl;let G:=Sl aH a1 a0.2.1;let al:=PF (Value.agg #[vS a0.1,a1,a2]);?_
 have h:=XT h bl c9;refine aI (aN.alloc (cs:=[vS (ByteArray.mk #[]),eV,eV]) Z Z) Z λak=>let ac:=bH ak [vS (a0.1),a1,a2] 33;bG (Know.one ((dH Z))) λc5=>bG (Know.one ((yQ Z))) λc6=>bQ 0 (vs:=[vS (a0.1),a1,a2]) Z Z (eJ Z (eJ c5 (eJ c6 Z))) Z Z Z<|aM<|aK ?_
 refine yP [0,0,2,0,15,31] 4 mixedOrders ?_;refine nP 1 Z<|bD Z<|fP h λdp dv h=>zBl Z Z Z (zBk age (IW U dp dv) Z .nil) Z (λdl=>(pB [([2],[])] Z)) λdl=>jL Z (iO Z)<|bU 4 Z Z<|fP h λa4 dw h=>aI (zBk agd (FY U x9.1 x9.2.1 bg dl v3 a4 dw) Z (aF.cons (bP (aG.res 3 Z) fG) (aF.cons (cC (i:=4) (j:=5) Z Z bX) (aF.cons (bP (aG.res 0 Z) qH) (jS [6] Z))))) Z λv=>let cg:=(List.zip v.2 a4);let aU:=sW aL v.2 a4;let aE:=Ar bI.raw v.1 v.2;let bb:=S2 aL v.1 cg a4;cF (lD 1 Z (rV (j:=0) Z fG))<|aC Z<|aM<|aK ?_
 refine yP [0,0,2,0,15,31] 4 mixedOrders ?_;refine nP 3 Z<|bD Z<|fP h λdq dx h=>zBl Z Z Z (zBk age (IW U dq dx) Z .nil) Z (λdm=>(pB [([4],[])] Z)) λdm=>jL Z (iO Z)<|bU 4 Z Z<|fP h λbi dy h=>let cy:=(eH U p4 r3 r7 a0 bl a4 bi);aI (zBk agd (FY U x9.1 x9.2.1 bg dm v4 bi dy) Z (aF.cons (bP (aG.res 5 Z) fG) (aF.cons (cC (i:=6) (j:=7) Z Z bX) (aF.cons (bP (aG.res 0 Z) qH) (jS [8] Z))))) Z λba=>let a8:=sW aL ba.2 bi;let a7:=Ar bI.raw ba.1 ba.2;cF (lD 1 Z (rV (j:=0) Z fG))<|aC Z<|aM<|aP<|aA Z<|bG (AA (dN (i:=2) (j:=1) Z Z)) λc7=>?_
 refine aB (Ps (r:=Value.agg #[v.1,eV,eV]) Z (by intro w;simp[Instr.build,Instr.fill,cY,cI,cD,cZ,c_,cJ,dU,f_ c7])) Z ?_;refine aI (aN.alloc (cs:=[eV,eV,eV]) Z Z) Z λC=>bG (AA (dN (i:=3) (j:=1) Z Z)) λc8=>bQ 0 (vs:=[v.1,eV,eV]) Z Z (eJ c8 (eJ Z (eJ Z Z))) Z Z Z<|aM<|aK<|lT (B:=Xv) (λab=>kT U r3 r7 a0 bl a4 ab=some r) (λab s=>[(11,az),(12,vP aj),(13,vP ak),(14,v.1),(16,vP C)]) (λab s=>[bH C [v.1,s.1,s.2.2.2.1] 42,aE,ac,ae,ad,a3,S,Ar bI.raw s.1 s.2.1,fE bI.raw s.2.1 s.2.2.1,Ar bI.raw s.2.2.2.1 s.2.2.2.2.1,AJ bI.raw s.2.2.2.2.1 s.2.2.2.2.2.1 s.2.2.2.2.2.2]) (λab s=>[aU,G,J,al,I,H,an,Sl aL v3 p2,Sl aL v4 p3,am,Dl aL s.2.2.1 ab.1,Gm aL s.2.2.2.2.2.2 ab.2]) ?_ ?_
 .refine aP<|aC Z<|aM<|aS<|cF (fK bI.raw)<|cF (kL bI.raw)<|cF (dJ (fJ:aG _ _ (Dl aL (tg 1 ([]:EW)) ([]:Bm))))<|cF (fK bI.raw)<|cF (Av bI.raw)<|cF (dJ (fJ:aG _ _ (Gm aL (tg 2 ([]:TJ)) ([]:Gf))))<|pN (B:=Xv) cy (λd a=>[(4,vI (p4)),(11,az),(12,vP aj),(13,vP ak),(14,v.1),(15,ba.1),(16,vP C),(17,vI (d.1))]) (λd a=>[bH C [v.1,a.1,a.2.2.2.1] 42,a7,aE,ac,ae,ad,a3,S,Ar bI.raw a.1 a.2.1,fE bI.raw a.2.1 a.2.2.1,Ar bI.raw a.2.2.2.1 a.2.2.2.2.1,AJ bI.raw a.2.2.2.2.1 a.2.2.2.2.2.1 a.2.2.2.2.2.2]) (λd a=>[a8,aU,G,J,al,I,H,an,Sl aL v3 p2,Sl aL v4 p3,am,Dl aL a.2.2.1 d.2.1,Gm aL a.2.2.2.2.2.2 d.2.2]) ((0:Int),([]:Bm),([]:Gf)) ((tg 1 (eV)),be,(tg 1 ([]:EW)),(tg 2 (eV)),(tg 2 ([]:e_)),(tg 2 ([]:EW)),(tg 2 ([]:TJ))) h SF (aX.ix [4,5,7,9,10,11,12,13,3,2,1,0] Z Z) (jS [2,3,4,5,6,7,8,9,10,11,12,1,0] Z) ?_;intro dd d a h;let bw:=Dl aL a.2.2.1 d.2.1;let bu:=Ar bI.raw a.1 a.2.1;let bt:=fE bI.raw a.2.1 a.2.2.1;let cc:=(bN cy dd)
  let cf:=(iS U p4 r7 bi d cc)
  let af:=a.2.2.2;let bz:=Ar bI.raw af.1 af.2.1;let bx:=Gm aL af.2.2.2 d.2.2;let bs:=bH C [v.1,a.1,af.1] 42;let br:=AJ bI.raw af.2.1 af.2.2.1 af.2.2.2;refine aK<|aP<|aA Z<|bT Z<|dO 4 Z<|aB (fN Z (cC (i:=6) (j:=7) Z Z bX) Z) Z<|dD Z<|aM ?_;refine eI h Z (λh=>?_) λh=>?_
  .refine cQ<|aK<|lT (B:=V0×V0×List V0×List (List V0)×List V0×List (List V0)×List (List (List V0))) (λY=>mX d cc Y=some r) (λY n=>[(4,vI (p4)),(11,az),(12,vP aj),(13,vP ak),(14,v.1),(15,ba.1),(16,vP C),(17,vI (d.1))]) (λY n=>[bH C [v.1,n.1,n.2.1] 42,a7,aE,ac,ae,ad,a3,S,Ar bI.raw n.1 n.2.2.1,fE bI.raw n.2.2.1 n.2.2.2.1,Ar bI.raw n.2.1 n.2.2.2.2.1,AJ bI.raw n.2.2.2.2.1 n.2.2.2.2.2.1 n.2.2.2.2.2.2]) (λY n=>[Gm aL n.2.2.2.2.2.2 Y.1,Dl aL n.2.2.2.1 Y.2,a8,aU,G,J,al,I,H,an,Sl aL v3 p2,Sl aL v4 p3,am]) ?_ ?_
   .refine aS<|aP<|aC Z<|aM<|aP<|aC Z<|aM<|aK<|lT (B:=V0×List V0×V0×List V0×List (List V0)) (λaa=>rP d cc aa=some r) (λaa g=>[(4,vI (p4)),(11,az),(12,vP aj),(13,vP ak),(14,v.1),(15,ba.1),(16,vP C),(17,vI (d.1)),(18,g.1),(19,g.2.2.1)]) (λaa g=>[bs,a7,aE,ac,ae,ad,a3,S,bu,bt,bz,br,Ar bI.raw g.1 g.2.1,Ar bI.raw g.2.2.1 g.2.2.2.1,fE bI.raw g.2.2.2.1 g.2.2.2.2]) (λaa g=>[a8,aU,G,J,al,I,H,an,Sl aL v3 p2,Sl aL v4 p3,am,bw,bx,sW aL g.2.1 aa.1,Dl aL g.2.2.2.2 aa.2]) ?_ ?_
    .refine aP<|aC Z<|aM<|aS<|cF (fK bI.raw)<|cF (dJ (fJ:aG _ _ (sW aL be ([]:bE))))<|cF (fK bI.raw)<|cF (kL bI.raw)<|cF (dJ (fJ:aG _ _ (Dl aL (tg 2 ([]:EW)) ([]:Bm))))<|pN (B:=V0×List V0×V0×List V0×List (List V0)) cf (λp k=>[(4,vI (p4)),(11,az),(12,vP aj),(13,vP ak),(14,v.1),(15,ba.1),(16,vP C),(17,vI (d.1)),(18,k.1),(19,k.2.2.1),(20,vI (p.2.2))]) (λp k=>[bs,a7,aE,ac,ae,ad,a3,S,bu,bt,bz,br,Ar bI.raw k.1 k.2.1,Ar bI.raw k.2.2.1 k.2.2.2.1,fE bI.raw k.2.2.2.1 k.2.2.2.2]) (λp k=>[a8,aU,G,J,al,I,H,an,Sl aL v3 p2,Sl aL v4 p3,am,bw,bx,sW aL k.2.1 p.1,Dl aL k.2.2.2.2 p.2.1]) (([]:bE),([]:Bm),(0:Int)) ((tg 1 (eV)),be,(tg 2 (eV)),(tg 2 ([]:e_)),(tg 2 ([]:EW))) h SF (aX.ix [3,4,5,6,7,8,9,10,11,12,13,14,2,1,0] Z Z) (jS [2,3,4,5,6,7,8,9,10,11,12,13,14,1,0] Z) ?_;intro cr p k h;let K:=k.2.2.2;let bq:=(at' bi ((at' (at' r7.2 d.1) p.2.2).1))
     refine aK<|aP<|aA Z<|bT Z<|dO 4 Z<|aA Z<|dV h λbn h=>aB (cA Z Z (cC (i:=6) (j:=7) Z Z bX) Z Z bn) Z<|bG (dQ 7 Z) λcM=>aB (jT 6 Z Z cM Z Z bn) Z<|aB (iN Z (aG.row (j:=7) Z bX bn.1 bn.2) Z) Z<|dD Z<|aM ?_;refine eI h Z (λh=>?_) λh=>?_
     .refine cQ<|aK<|aS<|aP<|aA Z<|aI (b_ (e:=dW) ([]:aW) [] Z Z Z Z ((λi h=>by simp at h;subst h;rfl)) Z Z Z) Z λdG=>aA Z<|bT Z<|dO 5 Z<|aA Z<|dV h λa6 h=>aB (cA Z Z (cC (i:=7) (j:=8) Z Z bX) Z Z a6) Z<|bG (dQ 8 Z) λcN=>aB (jT 7 Z Z cN Z Z a6) Z<|aA Z<|dV h λcn h=>aB (bR Z Z (aG.row (j:=8) Z bX a6.1 a6.2) Z Z cn) Z<|aB (nT Z Z Z Z Z) Z<|aB (qI Z (aG.row (j:=8) Z bX a6.1 a6.2) Z Z Z Aq cn) Z<|dV h λbo h=>aB (cA Z Z (dN (i:=2) (j:=0) Z Z) Z Z bo) Z<|bG (bM (dH Z)) λcO=>aB (jT 2 Z Z cO Z Z bo) Z<|dV h λda h=>aI (fU 0 fG Z Z Z (cH (dH Z) bo.1 bo.2) Z Z Z Z da Z) Z λai=>let cu:=sW aL (k.2.1++[ai]) (p.1++([(([]:aW)++bq)]));?_
      refine bG (Know.one ((bP (aG.res 0 Z) fG))) λb7=>cF (lD 0 Z (bP (aG.res 0 Z) fG))<|cF (dJ (kA (dH Z) fJ))<|aI (b_ (e:=bI.raw) ([ai]) [(0,ai)] Z Z Z Z (gY (ai) b7) Z Z (eJ b7 Z)) Z λdI=>bG (bM (aG.fact 15 Z)) λbS=>bG (bM (dH Z)) λbV=>dV h λco h=>cF (dJ (iW (aG.fact 15 Z) (dH Z))) ?_;refine aI (aN.append 13 0 Z Z Z Z Z Z Z (by have q:=co;have q0:=bS;have q1:=bV;(try simp only[zA9,zAm,zA5]at *);omega) (by have q:=co;have q0:=bS;have q1:=bV;(try simp only[zA9,zAm,zA5]at *);omega) Z) Z λbC=>let cx:=Ar bI.raw bC (k.2.1++[ai]);?_
      refine aC Z<|aM<|aP<|aC Z<|aM<|aK<|lT (B:=Hp) (λao=>rQ r7 bi d p (bN cf cr) ao=some r) (λao F=>[(4,vI (p4)),(11,az),(12,vP aj),(13,vP ak),(14,v.1),(15,ba.1),(16,vP C),(17,vI (d.1)),(18,bC),(19,k.2.2.1),(20,vI (p.2.2)),(21,F.1)]) (λao F=>[bs,a7,aE,ac,ae,ad,a3,S,bu,bt,bz,br,cx,Ar bI.raw k.2.2.1 K.1,fE bI.raw K.1 K.2,Ar bI.raw F.1 F.2]) (λao F=>[cu,Sl aL ai (([]:aW)++bq),a8,aU,G,J,al,I,H,an,Sl aL v3 p2,Sl aL v4 p3,am,bw,bx,Dl aL K.2 p.2.1,sW aL F.2 ao]) ?_ ?_
      .refine aP<|aC Z<|aM<|aS<|cF (fK bI.raw)<|cF (dJ (fJ:aG _ _ (sW aL be ([]:bE))))<|pN (B:=Hp) (mY U p4 r7 bi d p (bN cf cr)) (λah R=>[(4,vI (p4)),(11,az),(12,vP aj),(13,vP ak),(14,v.1),(15,ba.1),(16,vP C),(17,vI (d.1)),(18,bC),(19,k.2.2.1),(20,vI (p.2.2)),(21,R.1),(22,vI (ah.2))]) (λah R=>[bs,a7,aE,ac,ae,ad,a3,S,bu,bt,bz,br,cx,Ar bI.raw k.2.2.1 K.1,fE bI.raw K.1 K.2,Ar bI.raw R.1 R.2]) (λah R=>[cu,Sl aL ai (([]:aW)++bq),a8,aU,G,J,al,I,H,an,Sl aL v3 p2,Sl aL v4 p3,am,bw,bx,Dl aL K.2 p.2.1,sW aL R.2 ah.1]) (([]:bE),(0:Int)) ((tg 1 (eV)),be) h SF (aX.ix [2,3,4,5,6,7,8,9,10,11,12,13,14,15,16,0] Z Z) (jS [1,3,4,5,6,7,8,9,10,11,12,13,14,15,16,18,0] Z) ?_;intro dF ah R h;refine aK<|aP<|aA Z<|aA Z<|fP h λde dj h=>aI (zBk Hc (jZ U de dj) Z .nil) Z λdR=>dD Z<|aM ?_;refine eI h Z (λh=>?_) λh=>?_
       .refine cQ<|aK<|aS<|aR<|aA Z<|aI (b_ (e:=dW) ([]:aW) [] Z Z Z Z ((λi h=>by simp at h;subst h;rfl)) Z Z Z) Z λdM=>aA Z<|aA Z<|dV h λbp h=>aB (cA Z Z (dN (i:=2) (j:=2) Z Z) Z Z bp) Z<|bG (bM (DU Z)) λcP=>aB (jT 2 Z Z cP Z Z bp) Z<|dV h λdb h=>aI (fU 0 fG Z Z Z (cH (DU Z) bp.1 bp.2) Z Z Z Z db Z) Z λbF=>?_;refine bG (Know.one ((bP (aG.res 0 Z) fG))) λb9=>cF (lD 0 Z (bP (aG.res 0 Z) fG))<|cF (dJ (kA (dH Z) fJ))<|aI (b_ (e:=bI.raw) ([bF]) [(0,bF)] Z Z Z Z (gY (bF) b9) Z Z (eJ b9 Z)) Z λdP=>bG (bM (aG.fact 18 Z)) λb4=>bG (bM (dH Z)) λb5=>dV h λcq h=>cF (dJ (iW (aG.fact 18 Z) (dH Z))) ?_;refine aI (aN.append 16 0 Z Z Z Z Z Z Z (by have q:=cq;have q0:=b4;have q1:=b5;(try simp only[zA9,zAm,zA5]at *);omega) (by have q:=cq;have q0:=b4;have q1:=b5;(try simp only[zA9,zAm,zA5]at *);omega) Z) Z λdh=>?_;refine aC Z<|eW<|m_<|aR<|aA Z<|cU Z<|aC Z<|aM ?_;exact iH ((ah.1++([(([]:aW)++(at' bi d.1))])),(wI .i64 (ah.2+(1:Int)))) (dh,(R.2++[bF])) h SF (aX.ix [1,2,3,4,5,6,7,8,9,10,11,12,13,14,15,16] Z Z) (jS [3,4,5,6,7,8,9,10,11,12,13,14,15,16,17,18,0] Z)
       refine fO ?_;exact j_ (ah.1) (R.1,R.2) h SF Z
      intro ao F h;refine aR<|aA Z<|aA Z<|bG (AA (dN (i:=15) (j:=16) Z Z)) λb8=>cF (kL bI.raw)<|cF (Au 0 16 Z Z Z)<|cF (dJ (kA (aG.fact 16 Z) fJ))<|aI (b_ (e:=bI.raw) ([F.1]) [(0,F.1)] Z Z Z Z (gY (F.1) b8) Z Z (eJ b8 Z)) Z λdK=>bG (bM (aG.fact 16 Z)) λbY=>bG (bM (dH Z)) λb0=>bG (dQ 16 Z) λb2=>bG (dQ 1 Z) λb3=>dV h λcp h=>cF (dJ (iW (aG.fact 16 Z) (dH Z)))<|cF (t_ 16 1 Z Z Z) ?_;refine aI (aN.append 14 0 Z Z Z Z Z Z Z (by have q:=cp;have q0:=bY;have q1:=b0;have q2:=b2;have q3:=b3;(try simp only[zA9,zAm,zA5]at *);omega) (by have q:=cp;have q0:=bY;have q1:=b0;have q2:=b2;have q3:=b3;(try simp only[zA9,zAm,zA5]at *);omega) Z) Z λdg=>?_;refine aC Z<|eW<|m_<|aR<|aA Z<|cU Z<|aC Z<|aM ?_;exact iH ((p.1++([(([]:aW)++bq)])),(p.2.1++[ao]),(wI .i64 (p.2.2+(1:Int)))) (bC,(k.2.1++[ai]),dg,(K.1++[F.1]),(K.2++[F.2])) h SF (aX.ix [1,2,3,4,5,6,7,8,9,10,11,12,13,14,15] Z Z) (jS [4,5,6,7,8,9,10,11,12,13,14,15,16,2,0] Z)
     refine fO ?_;exact j_ (p.1,p.2.1) (k.1,k.2.1,k.2.2.1,K.1,K.2) h SF Z
    intro aa g h;let V:=g.2.2.1;refine dV h λa5 h=>dV h λbm h=>Gl [0,1,0,4,15,0,32,0,128,511,127,2047,4095,8191] 11 [[0,1,2,5,6,7,3,4,10,8,9,11,12,13],[0,1,2,5,6,7,3,8,4,10,9,11,12,13],[0,1,2,5,6,7,8,3,4,10,9,11,12,13]] mixedOrders (by decide +kernel) (by decide +kernel) ?_;intro o ho;simp only[zAo,zB8,or_false]at ho;rcases ho with rfl|rfl|rfl
    all_goals
     iterate 11 first
      |refine bK (i:=0) Z .nil .nil (cV Z Z Z Z Z) aO.z ?_
      |refine bK (i:=1) Z (aX.cons 0 Z .nil) .nil (eB 0 Z Z Z Z Z) aO.z ?_
      |refine bK (i:=2) Z .nil .nil (iO Z) aO.z ?_
      |refine bJ (AA (dN (i:=12) (j:=13) Z Z)) λay=>?_
       refine zBn (kL bI.raw)<|zBn (Au 0 13 Z Z Z)<|zBn (dJ (kA (aG.fact 13 Z) fJ))<|zBl (i:=3) Z Z Z (b_ (e:=bI.raw) ([g.1]) [(0,g.1)] Z Z Z Z (gY (g.1) ay) Z Z (eJ ay Z)) Z (λck=>(pB [([2],[]),([2],[])] Z)) λck=>?_
      |refine bJ (AA (dN (i:=14) (j:=14) Z Z)) λay=>?_
       refine zBn (kL bI.raw)<|zBn (Au 0 15 Z Z Z)<|zBn (dJ (kA (aG.fact 14 Z) fJ))<|zBl (i:=3) Z Z Z (b_ (e:=bI.raw) ([g.1]) [(0,g.1)] Z Z Z Z (gY (g.1) ay) Z Z (eJ ay Z)) Z (λck=>(pB [([4],[]),([4],[])] Z)) λck=>?_
      |refine bJ (bM (aG.fact 12 Z)) λM=>?_
       refine bJ (bM (dH Z)) λN=>bJ (dQ 11 Z) λO=>bJ (dQ 1 Z) λP=>zBn (dJ (iW (aG.fact 12 Z) (dH Z)))<|zBn (t_ 11 1 Z Z Z) ?_;refine zBl (i:=4) Z Z Z (aN.append 9 0 Z Z Z Z Z Z Z (by have q:=a5;have q0:=M;have q1:=N;have q2:=O;have q3:=P;(try simp only[zA9,zAm,zA5]at *);omega) (by have q:=a5;have q0:=M;have q1:=N;have q2:=O;have q3:=P;(try simp only[zA9,zAm,zA5]at *);omega) Z) Z (λa9=>(pB [([1],[])] Z)) λa9=>?_
      |refine bJ (bM (aG.fact 13 Z)) λM=>?_
       refine bJ (bM (yQ Z)) λN=>bJ (dQ 13 Z) λO=>bJ (dQ 3 Z) λP=>zBn (dJ (iW (aG.fact 13 Z) (yQ Z)))<|zBn (t_ 13 3 Z Z Z) ?_;refine zBl (i:=4) Z Z Z (aN.append 11 2 Z Z Z Z Z Z Z (by have q:=a5;have q0:=M;have q1:=N;have q2:=O;have q3:=P;(try simp only[zA9,zAm,zA5]at *);omega) (by have q:=a5;have q0:=M;have q1:=N;have q2:=O;have q3:=P;(try simp only[zA9,zAm,zA5]at *);omega) Z) Z (λa9=>(pB [([3],[])] Z)) λa9=>?_
      |refine bJ (bM (aG.fact 13 Z)) λM=>?_
       refine bJ (bM (dH Z)) λN=>bJ (dQ 13 Z) λO=>bJ (dQ 1 Z) λP=>zBn (dJ (iW (aG.fact 13 Z) (dH Z)))<|zBn (t_ 13 1 Z Z Z) ?_;refine zBl (i:=4) Z Z Z (aN.append 11 0 Z Z Z Z Z Z Z (by have q:=a5;have q0:=M;have q1:=N;have q2:=O;have q3:=P;(try simp only[zA9,zAm,zA5]at *);omega) (by have q:=a5;have q0:=M;have q1:=N;have q2:=O;have q3:=P;(try simp only[zA9,zAm,zA5]at *);omega) Z) Z (λa9=>(pB [([3],[])] Z)) λa9=>?_
      |refine bK (i:=5) Z .nil .nil (cV Z Z Z Z Z) aO.z ?_
      |refine bK (i:=6) Z (aX.cons 0 Z .nil) .nil (eB 0 Z Z Z Z Z) aO.z ?_
      |refine bK (i:=7) Z .nil .nil (iO Z) aO.z ?_
      |refine bJ (AA (kW (i:=13) (q:=14) (j:=16) Z Z Z)) λQ=>?_
       refine zBn (Av bI.raw)<|zBn (Ic 14 15 Z Z Z)<|zBn (Ei 0 14 Z Z Z)<|zBn (dJ (kA (aG.fact 16 Z) fJ))<|zBl (i:=8) Z Z Z (b_ (e:=bI.raw) ([V]) [(0,V)] Z Z Z Z (gY (V) Q) Z Z (eJ Q Z)) Z (λbj=>(pB [([3],[]),([3],[])] Z)) λbj=>?_
      |refine bJ (AA (kW (i:=14) (q:=15) (j:=15) Z Z Z)) λQ=>?_
       refine zBn (Av bI.raw)<|zBn (Ic 15 16 Z Z Z)<|zBn (Ei 0 15 Z Z Z)<|zBn (dJ (kA (aG.fact 15 Z) fJ))<|zBl (i:=8) Z Z Z (b_ (e:=bI.raw) ([V]) [(0,V)] Z Z Z Z (gY (V) Q) Z Z (eJ Q Z)) Z (λbj=>(pB [([4],[]),([4],[])] Z)) λbj=>?_
      |refine bJ (AA (kW (i:=13) (q:=14) (j:=14) Z Z Z)) λQ=>?_
       refine zBn (Av bI.raw)<|zBn (Ic 14 15 Z Z Z)<|zBn (Ei 0 14 Z Z Z)<|zBn (dJ (kA (aG.fact 14 Z) fJ))<|zBl (i:=8) Z Z Z (b_ (e:=bI.raw) ([V]) [(0,V)] Z Z Z Z (gY (V) Q) Z Z (eJ Q Z)) Z (λbj=>(pB [([2],[]),([2],[])] Z)) λbj=>?_
      |refine bJ (bM (aG.fact 15 Z)) λap=>?_
       refine bJ (bM (by first|exact aG.fact 0 Z|exact aG.fact 1 Z)) λaq=>?_;refine bJ (wK 14 Z) λar=>bJ (wK 1 Z) λau=>?_;refine zBn (dJ (by first|exact iW (aG.fact 15 Z) (dH Z)|exact iW (aG.fact 15 Z) (yQ Z))) ?_;refine zBn (Hu 14 1 Z Z Z) ?_;refine zBl (i:=9) Z Z Z (aN.append 12 0 Z Z Z Z Z Z Z (by have q:=bm;have q0:=ap;have q1:=aq;have q2:=ar;have q3:=au;(try simp only[zA9,zAm,zA5]at *);omega) (by have q:=bm;have q0:=ap;have q1:=aq;have q2:=ar;have q3:=au;(try simp only[zA9,zAm,zA5]at *);omega) Z) Z (λbB=>(pB [] Z)) λbB=>?_
      |refine bJ (bM (aG.fact 15 Z)) λap=>?_
       refine bJ (bM (DU Z)) λaq=>bJ (wK 14 Z) λar=>bJ (wK 2 Z) λau=>zBn (dJ (iW (aG.fact 15 Z) (DU Z)))<|zBn (Hu 14 2 Z Z Z) ?_;refine zBl (i:=9) Z Z Z (aN.append 12 1 Z Z Z Z Z Z Z (by have q:=bm;have q0:=ap;have q1:=aq;have q2:=ar;have q3:=au;(try simp only[zA9,zAm,zA5]at *);omega) (by have q:=bm;have q0:=ap;have q1:=aq;have q2:=ar;have q3:=au;(try simp only[zA9,zAm,zA5]at *);omega) Z) Z (λbB=>(pB [] Z)) λbB=>?_
      |refine bK (i:=10) Z .nil .nil (cV Z Z Z Z Z) (by first|exact aO.b Z (Ow Z)|exact aO.b Z UZ|exact aO.b Z UZ) ?_
     refine bU 11 Z Z ?_
     first
      |refine bG (AA (kW (i:=10) (q:=11) (j:=2) Z Z Z)) λb6=>?_
      |refine bG (AA (kW (i:=10) (q:=11) (j:=1) Z Z Z)) λb6=>?_
     refine fS 2 Z Z b6 Z Z Z<|bT Z<|bG (AA (tY (i:=12) (q:=13) (j:=0) Z Z Z)) λc2=>fS 2 Z Z c2 Z Z Z<|eW<|m_ ?_;exact cT ((d.2.2++[aa.2]),(d.2.1++[aa.1])) (a9,bB,(a.2.1++[g.1]),(a.2.2.1++[g.2.1]),(af.2.1++[V]),(af.2.2.1++[g.2.2.2.1]),(af.2.2.2++[g.2.2.2.2])) h SF (aX.ix [2,3,4,5,6,7,8,9,10,11,12,13] Z Z) (by first|exact aF.cons (dH Z) (jS [2,4,5,6,7,8,9,10,11,12,13,14] Z)|exact aF.cons (dH Z) (jS [1,4,5,6,7,8,9,10,11,12,13,14] Z))
   intro Y n h;unfold mX at h;refine aR<|aA Z<|cU Z<|aC Z<|aM ?_;exact iH ((wI .i64 (d.1+(1:Int))),Y.2,Y.1) (n.1,n.2.2.1,n.2.2.2.1,n.2.1,n.2.2.2.2.1,n.2.2.2.2.2.1,n.2.2.2.2.2.2) h SF (aX.refl _) (jS [2,3,4,5,6,7,8,9,10,11,12,1,0] Z)
  refine fO ?_;exact cT (d.2.1,d.2.2) (a.1,a.2.1,a.2.2.1,af.1,af.2.1,af.2.2.1,af.2.2.2) h SF (aX.ix [0,2,3,4,5,6,7,8,9,10,11] Z Z) (jS [1,2,3,4,5,6,7,8,9,10,11,12] Z)
 intro ab s h;let D:=s.2.2.2;let cw:=AJ bI.raw D.2.1 D.2.2.1 D.2.2.2;let cv:=(Z4 D.2.1 D.2.2.1 D.2.2.2 ab.2)
 let ce:=bH C [v.1,s.1,D.1] 42;let ci:=S3 aL s.1 (Z3 s.2.1 s.2.2.1 ab.1) ab.1;let cd:=S4 aL D.1 cv ab.2;refine aP<|aA Z<|dL 3 Z<|fP h λcj dz h=>let ch:=vI (cj.2.2.2.1);aI (zBk ag_ (NL U x9.1 x9.2.1 bg cj dz) Z (aF.cons (bP (aG.res 4 Z) fG) (aF.cons (cC (i:=5) (j:=6) Z Z bX) .nil))) Z λdT=>aB (ZM Z Z Z Z Z Z) Z<|aC Z<|aM<|aK<|lT (B:=acG) (λag=>mW U r7 a0 bl a4 cj ag=some r) (λag t=>[(12,vP aj),(13,vP ak),(14,v.1),(16,vP C),(23,ch)]) (λag t=>[bH C [t.1,t.2.2.1,t.2.2.2.2.1] 42,ac,ae]) (λag t=>[bc,bd,cd,ci,bb,G,J,al,I,H,an,Sl aL v3 p2,Sl aL v4 p3,am,S2 aL t.1 t.2.1 ag.1,S3 aL t.2.2.1 t.2.2.2.1 ag.2.1,S4 aL t.2.2.2.2.1 t.2.2.2.2.2 ag.2.2]) ?_ ?_
 .refine aP<|aC Z<|aM<|aS<|cF (lD 1 Z (dN (i:=0) (j:=0) Z Z))<|cF (BZ [Ar bI.raw s.1 s.2.1,fE bI.raw s.2.1 s.2.2.1] [ce,ac,ae,ad,a3,S,Ar bI.raw D.1 D.2.1,cw] (aX.ix [6,7,0,1,2,3,4,5,8,9] Z Z) (kW (i:=0) (q:=1) (j:=11) Z Z Z))<|cF (BZ [Ar bI.raw D.1 D.2.1,cw] [ce,ac,ae,ad,a3,S] (aX.ix [6,7,0,1,2,3,4,5] Z Z) (tY (i:=0) (q:=1) (j:=13) Z Z Z))<|cF (lD 3 Z (bP (aG.res 0 Z) fG))<|cF (BZ [a3,S] [ce,ac,ae] (aX.ix [3,4,0,1,2] Z Z) (cC (i:=0) (j:=1) Z Z bX))<|pN (B:=acG) (iR U r7 a0 bl a4 cj) (λu f=>[(12,vP aj),(13,vP ak),(14,v.1),(16,vP C),(23,ch),(24,vI (u.1))]) (λu f=>[bH C [f.1,f.2.2.1,f.2.2.2.2.1] 42,ac,ae]) (λu f=>[bc,bd,cd,ci,bb,G,J,al,I,H,an,Sl aL v3 p2,Sl aL v4 p3,am,S2 aL f.1 f.2.1 u.2.1,S3 aL f.2.2.1 f.2.2.2.1 u.2.2.1,S4 aL f.2.2.2.2.1 f.2.2.2.2.2 u.2.2.2]) ((0:Int),a4,ab.1,ab.2) (v.1,cg,s.1,(Z3 s.2.1 s.2.2.1 ab.1),D.1,cv) h SF (aX.refl _) (jS [0,1,2,3,4,6,7,8,9,10,11,12,13,14,4,3,2] Z) ?_;intro dc u f h;let T:=f.2.2.2;refine aK<|aP<|aA Z<|aA Z<|dD Z<|aM ?_;refine eI h Z (λh=>?_) λh=>?_
  .refine cQ<|aK<|aS<|aK<|lT (B:=Nat×V0×(List (V0×aW))×V0×(List (V0×List (V0×aW)))×V0×(List (V0×List (V0×List (V0×aW))))) (λE=>rO u (bN (iR U r7 a0 bl a4 cj) dc) E=some r) (λE m=>[(12,vP aj),(13,vP ak),(14,v.1),(16,vP C),(23,ch),(24,vI (u.1)),(25,vP m.1),(26,vI (E.1))]) (λE m=>[bH m.1 [m.2.1,m.2.2.2.1,m.2.2.2.2.2.1] 42,bH C [f.1,f.2.2.1,T.2.1] 42,ac,ae]) (λE m=>[bc,bd,cd,ci,bb,G,J,al,I,H,an,Sl aL v3 p2,Sl aL v4 p3,am,S2 aL f.1 f.2.1 u.2.1,S3 aL f.2.2.1 T.1 u.2.2.1,S4 aL T.2.1 T.2.2 u.2.2.2,S2 aL m.2.1 m.2.2.1 E.2.1,S3 aL m.2.2.2.1 m.2.2.2.2.1 E.2.2.1,S4 aL m.2.2.2.2.2.1 m.2.2.2.2.2.2 E.2.2.2]) ?_ ?_
   .have⟨r159,w160,h⟩:=bnd h;refine fP h λbh di h=>Gl [0,0,0,0,8,31,63,127,127,0,767,2047] 11 [[0,1,2,3,4,5,6,7,8,9,10,11],[0,1,2,3,4,9,5,6,7,8,10,11],[0,1,2,3,9,4,5,6,7,8,10,11]] mixedOrders (by decide +kernel) (by decide +kernel) ?_;intro o ho;simp only[zAo,zB8,or_false]at ho;rcases ho with rfl|rfl|rfl
    all_goals
     iterate 11 first
      |refine bK (i:=0) Z (aX.cons 1 Z .nil) .nil (fZ 0 Z Z Z Z) aO.z ?_
      |refine bK (i:=1) Z (aX.cons 2 Z .nil) .nil (fZ 0 Z Z Z Z) aO.z ?_
      |refine bK (i:=2) Z (aX.cons 0 Z .nil) .nil (fZ 0 Z Z Z Z) aO.z ?_
      |refine bK (i:=3) Z (aX.cons 2 Z .nil) .nil (fZ 0 Z Z Z Z) aO.z ?_
      |refine zBl (i:=4) Z Z Z (zBk aha (NJ U x9.1 x9.2.1 bg r159 w160) Z (jS [1,0] Z)) Z (λcG=>(by first|exact uT.b Z (pB [([1],[]),([3],[]),([2],[])] Z)|exact uT.b Z (pB [([2],[]),([4],[]),([3],[])] Z))) λcG=>let ct:=(Kz U a1 a2 x9.1 x9.2.1 bg f.1 f.2.1 f.2.2.1 T.1 T.2.1 T.2.2 cG bh di);?_
      |refine zBn (lD 0 Z (bP (aG.res 0 Z) pM)) ?_
       refine zBl (i:=5) Z Z Z (aN.call aad ct Z (mD.cons (zA3 (i:=6) Z) (mD.cons (zA3 (i:=7) Z) (mD.cons (zA3 (i:=8) Z) (mD.cons (zA3 (i:=2) Z) (mD.cons (zA3 (i:=1) Z) (mD.cons (zA3 (i:=15) Z) (mD.cons (zA3 (i:=16) Z) (mD.cons (zA3 (i:=17) Z) (nD 0 Z))))))))) (λ_ _=>rfl) (λ_ _=>rfl)) Z (λL=>(pB [] Z)) λL=>?_
      |refine zBn (lD 1 Z (bP (aG.res 0 Z) pM)) ?_
       refine zBl (i:=5) Z Z Z (aN.call aad ct Z (mD.cons (zA3 (i:=6) Z) (mD.cons (zA3 (i:=7) Z) (mD.cons (zA3 (i:=8) Z) (mD.cons (zA3 (i:=2) Z) (mD.cons (zA3 (i:=1) Z) (mD.cons (zA3 (i:=15) Z) (mD.cons (zA3 (i:=16) Z) (mD.cons (zA3 (i:=17) Z) (nD 0 Z))))))))) (λ_ _=>rfl) (λ_ _=>rfl)) Z (λL=>(pB [] Z)) λL=>?_
      |refine bK (i:=6) Z .nil .nil (iO Z) (by first|exact aO.b Z (Ow Z)|exact aO.b Z UZ|exact aO.b Z UZ) ?_
      |refine bK (i:=7) Z .nil .nil (uU Z Z) (by first|exact aO.b Z (Ow Z)|exact aO.b Z UZ|exact aO.b Z UZ) ?_
      |refine bK (i:=8) Z .nil .nil (uU Z Z) (by first|exact aO.b Z (Ow Z)|exact aO.b Z UZ|exact aO.b Z UZ) ?_
      |refine zBl (i:=9) Z Z Z (aN.alloc (cs:=[eV,eV,eV]) Z Z) Z (λcm=>(by first|exact uT.h .nil .nil (pB [([3],[]),([1],[]),([3],[]),([2],[])] Z)|exact uT.h (aX.ix [4] Z Z) .nil (pB [([2],[]),([4],[]),([3],[])] Z)|exact uT.h (aX.ix [3] Z Z) .nil (pB [([1],[]),([3],[]),([2],[])] Z))) λcm=>?_
      |refine bJ (AA (dH Z)) λcX=>?_
       refine bJ (AA (yQ Z)) λc0=>bJ (AA (DU Z)) λc1=>Ce (i:=10) Z Z Z (AH 0 (vs:=[L.1,L.2.2.1,L.2.2.2.2.1]) Z Z (eJ cX (eJ c0 (eJ c1 Z))) Z Z Z) (λdk=>(pB [] Z)) λdk=>?_
     refine bU 11 Z Z<|aC Z<|aM ?_;exact cT (bh.2,bh.1.1,bh.1.2.1,bh.1.2.2) (cm,L.1,L.2.1,L.2.2.1,L.2.2.2.1,L.2.2.2.2.1,L.2.2.2.2.2) h SF (aX.refl _) (jS [4,5,6,7,8,9,10,11,12,13,14,15,16,17,18,19,20,0,1,2] Z)
   intro E m h;refine aK<|aP<|aA Z<|oZ Z<|aM ?_;refine eI h Z (λh=>?_) λh=>?_
   .refine aP<|aC Z<|aM<|aT<|aJ<|bW<|aJ<|aJ<|bW<|aJ ?_;cases h;exact xT Z
   refine cQ<|aR<|dL 0 Z<|bG (AA (aG.fact 17 Z)) λcR=>bG (AA (aG.fact 18 Z)) λcS=>bG (AA (aG.fact 19 Z)) λcW=>bQ 1 (vs:=[m.2.1,m.2.2.2.1,m.2.2.2.2.2.1]) Z Z (eJ cR (eJ cS (eJ cW Z))) Z Z Z<|eW<|m_<|aR<|aA Z<|cU Z<|aC Z<|aM ?_;exact iH ((wI .i64 (u.1+(1:Int))),E.2.1,E.2.2.1,E.2.2.2) (m.2.1,m.2.2.1,m.2.2.2.1,m.2.2.2.2.1,m.2.2.2.2.2.1,m.2.2.2.2.2.2) h SF (aX.ix [1,2,3] Z Z) (jS [0,1,2,3,4,5,6,7,8,9,10,11,12,13,17,18,19] Z)
  refine fO ?_;exact j_ (u.2.1,u.2.2.1,u.2.2.2) (f.1,f.2.1,f.2.2.1,T.1,T.2.1,T.2.2) h SF Z
 intro ag t h;let aV:=t.2.2.2;let cB:=S3 aL t.2.2.1 aV.1 ag.2.1;let cz:=S4 aL aV.2.1 aV.2.2 ag.2.2;unfold mW at h;refine aK<|lT (B:=Nat×V0×V0×V0×List V0) (λW=>rM U r7 a0 bl ag W=some r) (λW X=>[(12,vP aj),(13,vP ak),(16,vP C),(27,vP X.1),(28,vI (W.1))]) (λW X=>[bH X.1 [X.2.1,X.2.2.1,X.2.2.2.1,vI (W.2.1),vI (W.2.2.1),vI (W.2.2.2.1),vI (W.2.2.2.2.1),vU (W.2.2.2.2.2.1)] 59,Ar qG X.2.1 W.2.2.2.2.2.2.1,Ar qG X.2.2.1 W.2.2.2.2.2.2.2.1,Ar bI.raw X.2.2.2.1 X.2.2.2.2,bH C [t.1,t.2.2.1,aV.2.1] 42,ac,ae]) (λW X=>[sW aL X.2.2.2.2 W.2.2.2.2.2.2.2.2,bc,bd,cd,ci,bb,G,J,al,I,H,an,Sl aL v3 p2,Sl aL v4 p3,am,S2 aL t.1 t.2.1 ag.1,cB,cz]) ?_ ?_
 .have⟨r95,w96,h⟩:=bnd h;refine fP h λA dE h=>let bf:=A.1.2.2.2;Gl [0,0,0,0,8,31,63,127,127,0,767,2047] 11 [[0,1,2,3,4,5,6,7,8,9,10,11],[0,1,2,3,4,9,5,6,7,8,10,11],[0,1,2,3,9,4,5,6,7,8,10,11]] mixedOrders (by decide +kernel) (by decide +kernel) ?_
  intro o ho;simp only[zAo,zB8,or_false]at ho;rcases ho with rfl|rfl|rfl
  all_goals
   iterate 11 first
    |refine bK (i:=0) Z (aX.cons 1 Z .nil) .nil (fZ 0 Z Z Z Z) aO.z ?_
    |refine bK (i:=1) Z (aX.cons 2 Z .nil) .nil (fZ 0 Z Z Z Z) aO.z ?_
    |refine bK (i:=2) Z .nil .nil (iO Z) aO.z ?_
    |refine bK (i:=3) Z .nil .nil (iO Z) aO.z ?_
    |refine zBl (i:=4) Z Z Z (zBk ahc (Nn U (eV) r95 w96) Z (aF.cons aG.nil .nil)) Z (λcE=>(by first|exact uT.b Z (pB [([3],[]),([2],[])] Z)|exact uT.b Z (pB [([4],[]),([3],[])] Z))) λcE=>?_
    |refine zBl (i:=5) Z Z Z (zBk ahb (QS U a1 a2 x9.1 x9.2.1 bg v.1 cg cE A dE) Z (by first|exact aF.cons (Jf Z) (aF.cons (JB Z) (aF.cons (GT Z) (aF.cons (yQ Z) (aF.cons (dH Z) (aF.cons (CN Z) (aF.cons (bP (aG.res 0 Z) tK) (jS [13] Z)))))))|exact aF.cons (Jf Z) (aF.cons (JB Z) (aF.cons (GT Z) (aF.cons (yQ Z) (aF.cons (dH Z) (aF.cons (CN Z) (aF.cons (bP (aG.res 1 Z) tK) (jS [13] Z))))))))) Z (λy=>(pB [] Z)) λy=>?_
     refine zBn (lD 3 Z (rV (j:=0) Z fG)) ?_
    |refine bK (i:=6) Z .nil .nil (iO Z) (by first|exact aO.b Z (Ow Z)|exact aO.b Z UZ|exact aO.b Z UZ) ?_
    |refine bK (i:=7) Z .nil .nil (uU Z Z) (by first|exact aO.b Z (Ow Z)|exact aO.b Z UZ|exact aO.b Z UZ) ?_
    |refine bK (i:=8) Z .nil .nil (uU Z Z) (by first|exact aO.b Z (Ow Z)|exact aO.b Z UZ|exact aO.b Z UZ) ?_
    |refine zBl (i:=9) Z Z Z (aN.alloc (cs:=KD) Z Z) Z (λcl=>(by first|exact uT.h .nil .nil (pB [([7],[]),([6],[])] Z)|exact uT.h .nil .nil (pB [([4],[]),([3],[])] Z)|exact uT.h .nil .nil (pB [([3],[]),([2],[])] Z))) λcl=>?_
    |refine bJ (Know.one ((bP (aG.res 1 Z) tK))) λav=>?_
     refine bJ (Know.one ((bP (aG.res 2 Z) tK))) λaw=>bJ (AA (dN (i:=3) (j:=0) Z Z)) λax=>Ce (i:=10) Z Z Z (AH 0 (vs:=[y.1,y.2.1,y.2.2.1,vI (A.1.2.2.2.1),vI (A.1.2.2.2.2.1),vI (A.1.2.2.2.2.2.1),vI (A.1.2.2.2.2.2.2.1),vU (A.1.2.2.2.2.2.2.2)]) Z Z (eJ av (eJ aw (eJ ax (eJ Z (eJ Z (eJ Z (eJ Z (eJ Z Z)))))))) Z Z Z) (λbk=>(pB [] Z)) λbk=>?_
    |refine bJ (Know.one ((bP (aG.res 0 Z) tK))) λav=>?_
     refine bJ (Know.one ((bP (aG.res 1 Z) tK))) λaw=>bJ (AA (dN (i:=2) (j:=0) Z Z)) λax=>Ce (i:=10) Z Z Z (AH 3 (vs:=[y.1,y.2.1,y.2.2.1,vI (A.1.2.2.2.1),vI (A.1.2.2.2.2.1),vI (A.1.2.2.2.2.2.1),vI (A.1.2.2.2.2.2.2.1),vU (A.1.2.2.2.2.2.2.2)]) Z Z (eJ av (eJ aw (eJ ax (eJ Z (eJ Z (eJ Z (eJ Z (eJ Z Z)))))))) Z Z Z) (λbk=>(pB [] Z)) λbk=>?_
    |refine bJ (Know.one ((bP (aG.res 0 Z) tK))) λav=>?_
     refine bJ (Know.one ((bP (aG.res 1 Z) tK))) λaw=>bJ (AA (dN (i:=2) (j:=0) Z Z)) λax=>Ce (i:=10) Z Z Z (AH 4 (vs:=[y.1,y.2.1,y.2.2.1,vI (A.1.2.2.2.1),vI (A.1.2.2.2.2.1),vI (A.1.2.2.2.2.2.1),vI (A.1.2.2.2.2.2.2.1),vU (A.1.2.2.2.2.2.2.2)]) Z Z (eJ av (eJ aw (eJ ax (eJ Z (eJ Z (eJ Z (eJ Z (eJ Z Z)))))))) Z Z Z) (λbk=>(pB [] Z)) λbk=>?_
   refine bU 11 Z Z<|aC Z<|aM ?_;exact cT (A.2,bf.1,bf.2.1,bf.2.2.1,bf.2.2.2.1,bf.2.2.2.2,A.1.1,A.1.2.1,A.1.2.2.1) (cl,y.1,y.2.1,y.2.2.1,y.2.2.2) h SF (by first|exact aX.ix [0,1,2,3,5,6,7] Z Z|exact aX.ix [3,0,1,2,5,6,7] Z Z|exact aX.ix [4,0,1,2,5,6,7] Z Z) (aF.refl _ _)
 intro W X h;refine aK<|lT (B:=Unit) (λbL=>gN bL=some r) (λbL cL=>[(10,vB (bL))]) (λbL cL=>[]) (λbL cL=>[bc,bd,cd,ci,bb,G,J,al,I,H,an,Sl aL v3 p2,Sl aL v4 p3,am,S2 aL t.1 t.2.1 ag.1,cB,cz]) ?_ ?_
 .refine aR<|fP h λdr dA h=>aI (zBk aae (GZ U dr dA) Z (jS [14] Z)) Z λdX=>aA Z ?_;refine Ef (by exact rfl) (by exact rfl) (λca=>?_) (λca=>?_)
  .have h:=SE ca h;refine iP Z<|bA Z (ZL Z Z) Z<|gE Z<|aA Z ?_;refine GN h Z (λ_ h=>?_) λ_ h=>?_
   .refine bA Z (fZ 5 Z Z Z Z) Z<|bA Z (fZ 6 Z Z Z Z) Z<|bA Z (fZ 4 Z Z Z Z) Z<|fP h λds dB h=>BI Z (zBk ahd (KR U a1 a2 x9.1 x9.2.1 bg t.1 t.2.1 t.2.2.1 aV.1 aV.2.1 aV.2.2 ds dB) Z (jS [6,7,8,2,1,15,16,17] Z)) Z λdY=>gE Z<|aA Z ?_;refine Ef (by exact rfl) (by exact rfl) (λcb=>?_) (λcb=>?_)
    .have h:=SE cb h;refine bA Z (cV Z Z Z Z Z) Z<|bA Z (eB 4 Z Z Z Z Z) Z<|bA Z (cV Z Z Z Z Z) Z<|bA Z (eB 0 Z Z Z Z Z) Z<|fP h λdf dC h=>BI Z (zBk ahe (QP U t.1 t.2.1 X.2.2.2.1 ((List.zip X.2.2.2.2 W.2.2.2.2.2.2.2.2)) df dC) Z (aF.cons (aG.fact 15 Z) (aF.cons (dN (i:=3) (j:=0) Z Z) .nil))) Z λd0=>gE Z<|aC Z<|aM ?_;exact cT (df) () h SF .nil (jS [1,2,3,4,5,6,7,8,9,10,11,12,13,14,15,16,17] Z)
    have h:=Qh cb h;refine aQ Z<|aQ Z<|aQ Z<|aQ Z<|aQ Z<|jD Z<|aC Z<|aM ?_;exact cT (false) () h SF .nil (jS [1,2,3,4,5,6,7,8,9,10,11,12,13,14,15,16,17] Z)
   refine aQ Z<|aQ Z<|aQ Z<|aQ Z<|jD Z<|aA Z<|aQ Z<|aQ Z<|aQ Z<|aQ Z<|aQ Z<|jD Z<|aC Z<|aM ?_;exact cT (false) () h SF .nil (jS [1,2,3,4,5,6,7,8,9,10,11,12,13,14,15,16,17] Z)
  have h:=Qh ca h;refine aQ Z<|aQ Z<|jD Z<|aA Z<|aQ Z<|aQ Z<|aQ Z<|aQ Z<|jD Z<|aA Z<|aQ Z<|aQ Z<|aQ Z<|aQ Z<|aQ Z<|jD Z<|aC Z<|aM ?_;exact cT (false) () h SF .nil (jS [1,2,3,4,5,6,7,8,9,10,11,12,13,14,15,16,17] Z)
 intro bL cL h;unfold gN at h;refine aT ?_;cases h;exact mA Z
end Go.Proofs.YtgciopekomcbfaaGreatDoor
namespace Go.Proofs.YtgciopekomcbfaaGreatDoor
open Go Go.Sx
theorem aiB (c:bE) (h:c.length<=900) (d:∀v:Nat,v<c.length->(at' c (v:Int)).length<=30):BO 1000 c c=some true:=by
 unfold BO;rw[if_neg V8];refine dZ (step:=wW 1000 c c) c.length (λk=>(k:Int)) (λk a b=>?_) (λa=>?_) 1000 V7
 .unfold wW;rw[Q3,Q7,Q7,bF (ND _ (d k b)),if_neg Q2,Q8]
 .unfold wW AP;rw[Q0]
theorem ahB {g:GR} (a:VG g) (k:LA g):∃(s:Nat) (d:aW) (K:Nat),Elc g s d/\qZ 1000 g=some (s:Int)/\1<=K/\K<=700/\(∀v,v<g.2.length->(g.2.length:Int)+D d v<=(K:Int))/\uF 1000 g=some (3,false,true,(K:Int),-1):=by
 have p:=a.n24;have u:=a.n1;have e:=a.len;obtain⟨s,m,h,f⟩:=aib a;obtain⟨r,q,d,t,b,l,w,o,j⟩:=EN a k (s:=s) m;have n:∀v,v<g.2.length->0<=D d v:=λv i=>(Sm a m b).2 k v (by rw[b.len];exact i);have x:0<=r:=by rw[<-j];exact n w o
 have y:r<=(g.2.length:Int):=by rw[<-j];exact b.hi w o
 refine⟨s,d,g.2.length+r.toNat,⟨m,b,n,λv i=>b.lt i,h⟩,f,V7,V7,λv i=>by have:=l v i;omega,?_⟩
 have c:zH 1000 g=some true:=by
  unfold zH;rw[bF (show gR 1000 (g.1,g.2)=some true from(Eo a).1 k)]
 unfold uF;rw[bF (show zH 1000 (g.1,g.2)=_ from c),if_neg Q2,bF (show qZ 1000 (g.1,g.2)=_ from f),bF (show jC 1000 (g.1,g.2) (s:Int)=some r from q),e,Q9];have:(g.2.length:Int)+r=((g.2.length+r.toNat:Nat):Int):=V7
 rw[this]
def afZ (g:GR) (a:V6 xF) (v j:Nat) (s:aW) (w:bE):Prop:=GW g a (sF g v j) s=true/\w.length<=2/\∀x∈w,GW g a v x=true
section
variable {g:GR} {vars:V6 xF} {c d:V6 (V6 Int)} {r3 p4:Int} {r16:ByteArray×V6 (ByteArray×Int×Int×Int×Int×Int)×V6 (V6 (Int×Int)×V6 (Int×V6 (Int×Int)))} {z:V6 pP}
theorem OF (G:VG g) (Q:CM g c vars) (L:CM g d vars) (T:∀v,v<g.2.length->(at' d (v:Int)).length<=20)
  (K:∀(r:V6 (V6 (V6 Int))) (s:V6 (V6 (V6 (V6 Int)))),VY g vars 2 (c,r,s)->kT 1000 r3 g r16 z c (r,s)=some true):
  bN (eH 1000 p4 r3 g r16 z c d) 1000 ((0:Int),([]:V6 (V6 (V6 Int))),([]:V6 (V6 (V6 (V6 Int)))))=some true:=by
 have W:=G.n24;have X:=L.len;refine Da (step:=eH 1000 p4 r3 g r16 z c d) (λx=>∃v:Nat,x.1=(v:Int)/\v<=g.2.length/\x.2.1.length=v/\x.2.2.length=v/\∀w,w<v->(at' x.2.1 (w:Int)).length=(row g w).length/\(at' x.2.2 (w:Int)).length=(row g w).length/\∀j:Nat,j<(row g w).length->afZ g vars w j (nO x.2.1 w j) (nO x.2.2 w j))
  (λx=>g.2.length - x.1.toNat) (λx U t J=>?_) 1000 _ ⟨0,rfl,V7,rfl,rfl,λw H=>absurd H (Nat.not_lt_zero w)⟩ (by dsimp only;omega)
 obtain⟨vv,r,s⟩:=x;obtain⟨v,rfl,ad,l,o,a⟩:=t;dsimp only at l o a;unfold eH;dsimp only;by_cases h:v<g.2.length
 rotate_left
 .obtain rfl:v=g.2.length:=V7
  rw[Q0];exact K r s ⟨⟨Q.len,⟨l,λv h=>(a v h).1⟩,⟨o,λv h=>(a v h).2.1⟩⟩,⟨λv h=>QM Q h,λv i h q=>((a v h).2.2 i q).1,λv i h q=>((a v h).2.2 i q).2.2⟩,λv i h q=>((a v h).2.2 i q).2.1⟩
 have R:=(G.node v h).deg;have C:at' g.2 (v:Int)=row g v:=rfl;rw[Q3];refine Da (step:=iS 1000 p4 g d ((v:Int),r,s) U) (λy=>∃i:Nat,y.2.2=(i:Int)/\i<=(row g v).length/\y.1.length=i/\y.2.1.length=i/\∀j:Nat,j<i->afZ g vars v j (at' y.1 (j:Int)) (at' y.2.1 (j:Int)))
  (λy=>(row g v).length - y.2.2.toNat) (λy I t A=>?_) 1000 _ ⟨0,rfl,V7,rfl,rfl,λw H=>absurd H (Nat.not_lt_zero w)⟩ (by dsimp only;omega)
 obtain⟨O,P,ii⟩:=y;obtain⟨i,rfl,Y,n,p,f⟩:=t;dsimp only at n p f;unfold iS;dsimp only;rw[Q7,C];by_cases q:i<(row g v).length
 rotate_left
 .obtain rfl:i=(row g v).length:=V7
  rw[Q0];unfold rP mX;dsimp only;rw[cR Q1,cR Q1,Q8];refine J _ ⟨v+1,rfl,V7,by simp[l],by simp[o],λw H=>?_⟩ (by dsimp only;omega);dsimp only[nO];rw[BY r O V7,BY s P V7,l,o];by_cases e:w<v
  .rw[if_pos e,if_pos e];exact a w e
  .obtain rfl:w=v:=V7
   rw[if_neg e,if_neg e];exact⟨n,p,f⟩
 have N:=Ct G h q;have D:=(wT G h q).ul;have M:at' (row g v) (i:Int)=iU (row g v) i:=rfl;have ab:=T _ D;have ac:=T v h;rw[Q3,Q7,Q7,M,N,Q7,cR Q1,cR Q1];have w1:=Int.emod_nonneg p4 (b:=3) V7;have w2:=zBb p4 (b:=3) V7;obtain⟨m,S⟩:∃m:Nat,p4%3=(m:Int):=⟨_,(Int.toNat_of_nonneg w1).symm⟩
 rw[S]at w2;refine Da (step:=mY 1000 p4 g d ((v:Int),r,s) (O,P,(i:Int)) I) (λu=>∃j:Nat,u.2=(j:Int)/\j<=m/\u.1.length=j/\∀x∈u.1,GW g vars v x=true) (λu=>m - u.2.toNat) (λu V t B=>?_) 1000 _ ⟨0,rfl,V7,rfl,λx hx=>absurd hx zB8⟩ (by dsimp only;omega);obtain⟨w,jj⟩:=u;obtain⟨j,rfl,hj,E,k⟩:=t;dsimp only at E k;unfold mY;dsimp only;rw[bF (pJ p4 3 V7 V7),S];by_cases aa:j<m
 .rw[Q3,Q7,cR Q1,cR Q1,Q8];refine B _ ⟨j+1,rfl,V7,by simp[E],λy F=>?_⟩ (by dsimp only;omega);rcases zBa.1 F with F|F
  .exact k y F
  .rw[zBe.1 F];exact QM L h
 .rw[Q0];unfold rQ;dsimp only;rw[cR Q1,Q8];refine A _ ⟨i+1,rfl,V7,by simp[n],by simp[p],λz hz=>?_⟩ (by dsimp only;omega);dsimp only;rw[BY O _ V7,BY P w V7,n,p];by_cases e:z<i
  .rw[if_pos e,if_pos e];exact f z e
  .obtain rfl:z=i:=V7
   rw[if_neg e,if_neg e];exact⟨QM L D,V7,k⟩
end
theorem SU {g:GR} (j:VG g) (hn:g.2.length<=5) {nm:ByteArray} {d:V6 xF} {R:V6 RL} {P:Nat->Nat->V6 Int->Prop} {K:Nat} {z:V6 pP} {S:V6 (V6 (Int×Int)×V6 (Int×V6 (Int×Int)))} {c e:V6 (V6 Int)} {O:Int×V4×V4×Int×Int} (s:O.2.2.2.1=(K:Int)) (M:z.map tO=Dr R) (F:lV g d) (A:oP d.length R=true)
  (C:HW g d (S_ (aV (nm,d,z) g) d R) P) (w:1<=K) (W:K<=700) (X:CM g c d) (ac:d.length<=20)
  (r:∀c:V6 (V6 Int),c.length=g.2.length->(∀x,x<g.2.length->P K x (at' c (x:Int)))->c=e)
  (q:cS (nm,d,z) g d R c K=e) (Y:e.length=g.2.length) (E:∀v:Nat,v<e.length->(at' e (v:Int)).length<=30)
  (hq:∀c:V6 (V6 Int),c.length=g.2.length->(∀x,x<g.2.length->P K x (at' c (x:Int)))->∀v,v<g.2.length->¬0<=jH (aV (nm,d,z) g) R c v)
  {Q:V6 (V6 (V6 Int))} {T:V6 (V6 (V6 (V6 Int)))} (hy:VY g d 2 (c,Q,T)):
  bN (iR 1000 g (nm,d,S) z c O) 1000 ((0:Int),c,Q,T)=some true:=by
 have G:=YS j 2;have ab:(AG g 2).length<=200:=by
  have a:=VD j 2;have b:g.2.length*((g.2.length - 1)*(2*2+1))<=5*(4*5):=Nat.mul_le_mul hn (Nat.mul_le_mul V7 V7);omega
 have N:∀(k:Nat) (y:yV),RP g 2 P k y->yR 1000 (nm,d,z) g (2:Int) y (AG g 2)=some (perfs g (S_ (aV (nm,d,z) g) d R) 2 y (AG g 2),0):=λk y h=>by
  have:=aix (p:=(nm,d,z)) j F M A ((2:Nat):Int) y (l:=AG g 2) V7;rw[show((2:Nat):Int)=2 from rfl]at this;rw[this];exact congrArg some (afD (cap:=2) V7 V7 (C.vy j h) G)
 refine Da (step:=iR 1000 g (nm,d,S) z c O) (λx=>∃k:Nat,x.1=(k:Int)/\k<=K/\RP g 2 P k x.2/\(1<=k->Rh g x.2)) (λx=>K - x.1.toNat) (λx ag V B=>?_) 1000 _ ⟨0,rfl,V7,C.begin j hy,λh=>absurd h V7⟩ (by dsimp only;omega);obtain⟨kk,y⟩:=x;obtain⟨k,rfl,hk,f,m⟩:=V;dsimp only at f m;unfold iR;dsimp only;rw[s];by_cases aa:k<K
 .have hs:wP 1000 (g.1,g.2) (2:Int)=some (AG g 2):=acz j (cap:=2) V7 V7;have i:=C.sweep j f V7;rw[Q3,bF hs];refine(bF (show yR 1000 _ _ (2:Int) _ _=_ from N k y f)).trans ?_;unfold rO;dsimp only;rw[if_neg V8,Q8];exact B _ ⟨k+1,rfl,V7,i.1,λ_=>i.2⟩ (by dsimp only;omega)
 .obtain rfl:k=K:=V7
  have D:=m w;have L:y.1=e:=r y.1 f.sh.c f.all.c;have t:pH 1000 (nm,d,z) g y=some true:=by
   rw[Vz (p:=(nm,d,z)) j F M A y];exact congrArg some (VA (p:=(nm,d,z)) j V7 (C.vy j f) D (hq y.1 f.sh.c f.all.c))
  obtain⟨u,J,I,H⟩:=Za ([]:V6 Int) (n:=k) V7;obtain⟨a,b,U,o⟩:=Sy (p:=(nm,d,z)) (R:=R) j F M A X (ws:=u) V7 H;rw[show cS (nm,d,z) g (nm,d,z).2.1 R c u.length=e by rw[I];exact q]at o;rw[Q0];unfold mW;rw[s,bF (show q_ 1000 ([]:V6 Int) (k:Int)=_ from J)];refine(bF (show r_ 1000 (nm,d,z) g 4 c u=_ from o)).trans ?_;unfold rM gN;dsimp only;rw[bF (show wE 1000=some true from rfl),if_pos Z,if_pos Z];refine(bF (show pH 1000 _ _ _=_ from t)).trans ?_;rw[if_pos Z,L,bF (aiB e V7 E)]
theorem afy {x y:V6 Int} (c:x.length=y.length) (h:∀i:Nat,i<x.length->at' x (i:Int)=at' y (i:Int)):x=y:=List.ext_getElem c λi a b=>by
 rw[<-gK a,<-gK b];exact h i a
theorem ake {g:GR} {s:Nat} {d:V6 Int} {a b:V6 (V6 Int)} (n:CM g a mH) (o:CM g b mH) (p:∀v,v<g.2.length->RtE g s d a v) (q:∀v,v<g.2.length->RtE g s d b v):a=b:=by
 have w:=n.len;have x:=o.len;refine List.ext_getElem V7 λv r t=>?_;have c:v<g.2.length:=V7
 rw[<-gK r,<-gK t];have z:=n.row v c;have A:=o.row v c;have y:mH.length=3:=rfl;obtain⟨f,h,j⟩:=p v c;obtain⟨k,l,m⟩:=q v c;unfold Fe at f h j k l m;refine afy V7 λi u=>?_;have e:i<3:=V7
 match i,e with
 |0,_=>exact f.trans k.symm
 |1,_=>exact h.trans l.symm
 |2,_=>exact j.trans m.symm
theorem agi (z:V6 pP) {g:GR} (a:VG g) {s:Nat} {d:V6 Int} (E:Elc g s d) {c:V6 (V6 Int)} (f:CM g c mH):∀k,CM g (cS (pE z) g mH RE c k) mH/\GL g s d k (cS (pE z) g mH RE c k)
 |0=>⟨f,Zm a E f⟩
 | k + 1 =>by
  obtain⟨b,i⟩:=agi z a E f k;have h:=b.len;refine⟨MZ (c:=cS (pE z) g mH RE c (k+1)) ?_ λv e=>?_,Pj a E b (λv e=>WW (p:=pE z) a b e) i⟩
  .show(jR _ _ _ _ _).length=_;rw[JU];exact h
  .show GW g mH v (at' (jR _ _ _ _ _) (v:Int))=true;rw[MQ (S:=aV (pE z) g) e h];exact Qx (p:=pE z) (R:=RE) (adf a) QD _ h (λx j=>QM b j) v e
theorem Qv (b:Int) (x:XO) (o a:V6 Int) (y:Int):sA 1000 b x o a y=some true:=by
 obtain⟨g,P,A,C,O⟩:=PR x 5 V7 V7;have h:VG g:=A.vg;have Y:=h.n1;have N:=h.n24;have J:=h.len;have F:=ajl A O;have B:kQ 1000 (x.1,x.2.1,x.2.2.1,x.2.2.2.1,x.2.2.2.2.1,x.2.2.2.2.2) 5=some g:=P;have w1:=Int.emod_nonneg b (show(2:Int)≠0 by omega);have w2:=zBb b (show(0:Int)<2 by omega);unfold sA;rcases(show b%2=0\/b%2=1 by omega)with e|e
 .obtain⟨K,j,q,t,f⟩:=ahA h F;have S:=akj h F (ByteArray.mk #[100]) (ByteArray.mk #[112]);obtain⟨c,G,i⟩:=Oe h (HS (ByteArray.mk #[100]) (ByteArray.mk #[112]) 1) o Q2 (Ns _ _ V7 V7);obtain⟨d,H,m⟩:=Oe h (HS (ByteArray.mk #[100]) (ByteArray.mk #[112]) 1) a Q2 (Ns _ _ V7 V7);have n:zK 1000 0=some (HS (ByteArray.mk #[100]) (ByteArray.mk #[112]) 1):=rfl;have T:(HS (ByteArray.mk #[100]) (ByteArray.mk #[112]) 1).length=2:=rfl;have l:sZ 1000 0 (g.1,g.2)=some (3,false,true,(K:Int),-1):=by
   unfold sZ;rw[if_pos Z,bF (show Bf 1000 (g.1,g.2)=_ from f)]
  rw[bF (pJ b 2 V7 V7),e,cR Q2,bF B,show at' [(0:Int),3] 0=0 from rfl,bF (show BS 1000 0=some HJ from rfl),bF (abZ 1000)];refine We λz w=>?_;have w:z.map tO=Dr RBf:=w;rw[bF n,bF (show fC 1000 (g.1,g.2) _ o=some c from G),bF n,bF (show fC 1000 (g.1,g.2) _ a=some d from H)];refine OF h i m (λv k=>by rw[m.row v k];omega) λL V I=>?_;unfold kT;rw[show at' [(0:Int),3] 0=0 from rfl,bF l];exact SU (nm:=(ByteArray.mk #[98,102,115])) (R:=RBf) (e:=cE g fB) h C Z w S.ok Xo (ajn (p:=((ByteArray.mk #[98,102,115]),HS (ByteArray.mk #[100]) (ByteArray.mk #[112]) 1,z)) S h Z Xo) j q i V7
   (λc f u=>PY.fin S f j t u) (ahv (p:=((ByteArray.mk #[98,102,115]),HS (ByteArray.mk #[100]) (ByteArray.mk #[112]) 1,z)) S h i j t) PO (λv k=>by rw[PO]at k;rw[aaq k];simp) (λc f u=>PY.quiet S h f j t u) I
 .obtain⟨s,X,K,E,Q,j,q,r,f⟩:=ahB h F;obtain⟨c,G,i⟩:=Sk h o;obtain⟨d,H,m⟩:=Sk h a;have n:zK 1000 3=some mH:=rfl;have U:mH.length=3:=rfl;have l:sZ 1000 3 (g.1,g.2)=some (3,false,true,(K:Int),-1):=by
   unfold sZ;rw[if_neg Q2,if_pos Z,bF (show uF 1000 (g.1,g.2)=_ from f)];rfl
  rw[bF (pJ b 2 V7 V7),e,cR Q2,bF B,show at' [(0:Int),3] 1=3 from rfl,bF (show BS 1000 3=some HK from rfl),bF (ab_ 1000)];refine We λz w=>?_;have w:z.map tO=Dr RE:=w;rw[bF n,bF (show fC 1000 (g.1,g.2) _ o=some c from G),bF n,bF (show fC 1000 (g.1,g.2) _ a=some d from H)];refine OF h i m (λv k=>by rw[m.row v k];omega) λL V I=>?_;unfold kT;rw[show at' [(0:Int),3] 1=3 from rfl,bF l];obtain⟨D,M⟩:=agi z h E i K;exact SU (nm:=(ByteArray.mk #[108,101,97,100,101,114])) (R:=RE) (e:=cS (pE z) g mH RE c K) h C Z w (adf h) QD (ajm z h E) j q i V7
   (λW f u=>by obtain⟨p1,p2⟩:=PE.fin h E f r u;exact ake p1 D p2 λv k=>M.2 v k (r v k)) Z D.len (λv k=>by rw[D.len]at k;rw[D.row v k];omega) (λc f u=>PE.quiet z h E f r u) I
end Go.Proofs.YtgciopekomcbfaaGreatDoor
namespace Go.Sx
open Go.RowKit Go.ChangeShapes Go.WideShapes Go.ChangeAt Go.Proofs Go.Joins Go.Deep
section
variable {H:Type} {enc:V9×V0->H} {P:Program} {w:V2} {base:Nat} {spare:Nat->V4} {held:V4}
theorem NB {a:Type} (l:V6 a) (d:a):l=(List.range l.length).map λi=>l.getD i d:=by
 apply List.ext_getElem?;intro i;by_cases h:i<l.length
 .simp[h]
 .simp[h]
theorem abR {r:Reach} {x:Nat} {t:V9} {b:Array Field} {v:V0} {d:DataW H} {p:V6 MemPlace} (s:P.underlying t=some (.struct b)) (c:oneCellFields P b=true) (z:P.cellsOf t=b.size)
  (E:Value.okWide P w r x t v) (h:DataW.Trod enc P w base spare held t v d p):
  ∃(V:Nat->V0) (Y:Nat->DataW H×V6 MemPlace) (n:Nat),v = .agg ((List.range b.size).map V).toArray/\∀(i:Nat) (f:Field),b[i]?=some f->DataW.trod enc P w base spare held n f.type [V i]=some (Y i):=by
 obtain⟨a,rfl,l⟩:=okWide_struct s E;obtain⟨m,A⟩:=h;obtain⟨u,n,_,_,_,q,B⟩:=DataW.trod_struct s A;refine⟨λi=>a.toList.getD i undef,λi=>u.getD i (.nil,[]),n,?_,λi f j=>?_⟩
 .congr 1;apply Array.toList_inj.1;show a.toList=(List.range b.size).map λi=>a.toList.getD i undef;have y:b.size=a.toList.length:=by rw[<-z,<-l];rfl
  rw[y];exact NB a.toList undef
 .have D:i<b.size:=(zAh.1 j).1;obtain⟨o,k⟩:=hone_of c i f j;have g:=B i f j;have e:(Value.cells (.agg a)).toList=a.toList:=rfl;have C:i<a.toList.length:=by rw[Array.length_toList];omega
  rw[o,k,e,take1_drop _ _ undef C]at g;rw[g];have F:i<u.length:=V7
  simp[F]
theorem abq {k:IntKind} {e:V9} (a:P.underlying e=some (.int k)) {n:Nat} {v:V0} {x:DataW H×V6 MemPlace} (h:DataW.trod enc P w base spare held n e [v]=some x):∃y:Int,v = .int k y:=by
 obtain⟨y,b,_,_⟩:=DataW.trod_int a h;exact⟨y,by simpa using b⟩
theorem Oy {e:V9} (a:P.underlying e=some .bool) {n:Nat} {v:V0} {x:DataW H×V6 MemPlace} (h:DataW.trod enc P w base spare held n e [v]=some x):∃y:V4,v = .bool y:=by
 obtain⟨y,b,_⟩:=DataW.trod_bool a h;exact⟨y,by simpa using b⟩
end
end Go.Sx
section
set_option maxRecDepth 100000
namespace Go.Sx
open Go.RowKit Go.ChangeShapes Go.WideShapes Go.ChangeAt Go.Proofs Go.Joins
theorem UT {P:Program} {W:V2} {n:String} {b m t B:Nat} {k:IntKind} {a:aW} (h:laidMet P [(n,.agg (a.map λx=>.lit (.int k x)))] W) (I:P.globalNamed n=some b)
  (ht:(P.globals[b]?).map (·.type)=some t) (hu:P.underlying t=some (.array m B)) (w:P.underlying B=some (.int k)) (S:P.cellsOf B=1) (u:P.cellsOf t=m) (hm:0<m):(Gb b (cellsOf (bI.int k) a)).p W (λ_=>True):=by
 obtain⟨ps,⟨g,t2,j,F,p,q,C,D,E,M,e5,N⟩,aa,d⟩:=h;rw[I]at C;cases C;rw[ht]at D;cases D;refine⟨trivial,?_⟩
 obtain⟨L,ml,_,l,Y,y,V⟩:=DataW.trod_array hu M;simp only[Prod.mk.injEq,DataW.agg.injEq]at l;have e:a.length=m:=by rw[<-y];simpa using congrArg List.length l.1
 have U:j.size=m:=by rw[<-u,<-Y];simp
 have v:j.toList=cellsOf (bI.int k) a:=by
  refine List.ext_getElem? λi=>?_;by_cases X:i<m
  .have o:=V i X;rw[S,Nat.mul_one]at o;have J:a[i]?=some (a[i]'V7):=zA0 _;have G:=yK (bI.int k) a i _ J 0 _ Z;rw[show i*(bI.int k).sz+0=i from Nat.mul_one i]at G;rw[G];have K:L[i]?=some (L[i]'V7):=zA0 _;rw[K]at o;obtain⟨z,hz,A,_⟩:=DataW.trod_int w o;have s:j.toList[i]?=some (.int k z):=by
    have:=congrArg (·[0]?) hz;simpa [zAt,zAu]using this
   rw[s];have r:=congrArg (·[i]?) l.1;simp only[List.getElem?_map,J,K,Option.map_some,Option.some.injEq]at r;rw[A]at r;have O:a[i]=z:=by simpa using r
   rw[O]
  .rw[zAp Q1,zAp (by rw[eR,e];show m*1<=i;omega)]
 have f:MemPlace.cell b 0∈ps:=by
  rw[N];refine List.mem_append_left _ (List.mem_append_left _ ?_);exact zAs.2 ⟨0,Q1,rfl⟩
 obtain⟨⟨c,T,H⟩,_⟩:=d b 0 f;refine⟨T,?_⟩
 have Q:c=j:=by
  have R:(W.var? P n)=some c:=by unfold World.var?;rw[I];simp[H]
  rw[R]at E;exact Option.some.inj E
 rw[H,Q,<-v]
theorem SJ {H:Type} {enc:V9×V0->H} {os:Os} (D:V6 (String×DataW Unit)) (N:(D.all λx=>x.2.handleName?.isNone)=true) (l:os.Started) {f:FuncId} {c:Func} {s:ChangeSpec} {r:V4} (L:prog.funcs[f]?=some c) (n:prog.inits.idxOf? f=none)
  (o:(c.params.toList.all λt=>prog.readableRec t&&decide (t<prog.types.size))=true) (A:c.resultTypes = #[4]) (k:s.vars=[])
  (u:∀a:V6 (DataW H),a.length=c.params.toList.length->s.fn H a={results:=[.lit (.bool true)],args:=a})
  (m:∃(w:V2) (b:Tape) (i:Input),w.os=os/\(w.forCall b i).Shaped prog/\i.vars=[]/\Input.okWide prog (w.forCall b i) .any w.heap.size f i/\
   ((s.pre enc prog c [] false (w.forCall b i).memory i.args/\laidMetH prog D (w.forCall b i).memory)/\sizedMet enc prog c (OpenSpec.ofChange s) false (w.forCall b i).memory i.args)/\({}:Assume).holds prog (lone (Frame.enter prog f i.args .normal) [] (w.forCall b i)))
  (E:∀(W:V2) (g:Nat) (args:Array V0) (a:V6 (DataW H)) (p:V6 MemPlace),laidMetH prog D W->(∀(j:Nat) t v,c.params[j]?=some t->args[j]?=some v->Value.okWide prog W .any g t v)->
   DataW.TrodAll enc prog W 0 (λ_=>true) true c.params.toList args.toList a p->Calls prog f args W λe P=>e = .returned (.bool true)/\Ph W P):
  ReturnsInHanded {} Go.Proofs.YtgciopekomcbfaaGreatDoor.Tryz.pinned.checked os f .any (λw args=>(s.pre enc prog c [] false w args/\laidMetH prog D w)/\sizedMet enc prog c (OpenSpec.ofChange s) false w args) (s.post enc prog c false r false false):=by
 refine returnsInHanded_of_change_and (C:=Go.Proofs.YtgciopekomcbfaaGreatDoor.Tryz.pinned.checked) (X:=λw _=>laidMetH prog D w) (λ_ _ _ U h=>by rw[MakeChecks.laidMetH_plain _ _ _ N]at h ⊢;exact h.of_heap U) amu l n L m ?_;intro W g args a Y G B J _ _ T _;have M:=J.lt;have K:=J;obtain⟨p,q,I,Q,rfl,_,_⟩:=J;rw[k]at Q;obtain⟨rfl,rfl⟩:=trodVars_none Q;refine(E W g args a p T B I).mono ?_;rintro e P ⟨rfl,R⟩;refine⟨_,rfl,?_⟩
 have z:a.length=c.params.toList.length:=by
  have:∀(F:V6 V9) (y:e_) (a:V6 (DataW H)) (p:V6 MemPlace),DataW.TrodAll enc prog W 0 (λ_=>true) true F y a p->a.length=F.length:=by
   intro F
   induction F with
   |nil=>intro y a p h;cases y<;>cases a<;>first|rfl|exact h.elim
   | cons t F ih =>
    intro y a p h;cases y with
    |nil=>exact h.elim
    |cons v y=>
     cases a with
     |nil=>exact h.elim
     |cons d a=>obtain⟨_,_,_,S,_⟩:=h;simp[ih y a _ S]
  exact this _ _ _ _ I
 have O:s.fn H (a++[])={results:=[.lit (.bool true)],args:=a}:=by rw[List.append_nil];exact u a z
 refine⟨a,[],p++[],[],p,[],K,?_,?_,?_,R.frame _,λh=>by cases h⟩
 .rw[O,A];exact trodAll_mk1 (shut_bool underlying4 true)
 .rw[O];exact Hn ajI R _ _ _ _ o I (λx V=>M x (List.mem_append_left _ V))
 .rw[O,k];exact rfl
theorem Yz {P:Program} {n:String} {k:IntKind} {a:aW} {W:V2} (h:laidMetH P [(n,.agg (a.map λx=>.lit (.int k x)))] W):laidMet P [(n,.agg (a.map λx=>.lit (.int k x)))] W:=by
 rw[MakeChecks.laidMetH_plain _ _ _ (by rfl)]at h;exact h
end Go.Sx
end
