/- Models and proofs. Conditions: none. -/
import Derived.Test.YtflciafboapaaaaGreatZRSt5
import Derived.Test.YtflciafboapaaaaGreatZRSt10
import Derived.Test.YtflciafboapaaaaGreatZRSt9
import Derived.Test.YtflciafboapaaaaGreatZRSt6
import Derived.Test.YtflciafboapaaaaGreatZRSt8
import Derived.Test.YtflciafboapaaaaGreatZRSt2
import Derived.Test.YtflciafboapaaaaGreatZRSt7
import Derived.Test.YtflciafboapaaaaGreatZRSt1
import Derived.OpenShut
set_option linter.unusedVariables false
set_option linter.unusedSimpArgs false
set_option maxHeartbeats 4000000
set_option maxRecDepth 20000
namespace Go.Proofs.YtflciafboapaaaaGreat
open Go.Sx
noncomputable def mD  (a:Bool):Option Bool:=
 some (a)
noncomputable def pZ (U:Nat) (e:CO) (c:Qb) (d:List pR) (a:wP) (f:Bool):Option Bool:=
 if f=true then(some (false))else(ck (0<=(1:Int)∧(1:Int)<(a.2.2.1.length:Int)) (ck (0<=(0:Int)∧(0:Int)<((at' a.2.2.1 (1:Int)).length:Int)) (Option.bind (uR U ((c.1,c.2.1,d)) ((e.1,e.2)) (1:Int) ((a.2.1,(List.set a.2.2.1 (Int.toNat (1:Int)) (List.set (at' a.2.2.1 (1:Int)) (Int.toNat (0:Int)) ([(2:Int),(-1:Int)]))),a.2.2.2)) (((1:Int),(1:Int),(0:Int)))) λb=>(if b.2=(0:Int)then(Option.bind (iK U ((c.1,c.2.1,d)) ((e.1,e.2)) ((a.2.1,(List.set a.2.2.1 (Int.toNat (1:Int)) (List.set (at' a.2.2.1 (1:Int)) (Int.toNat (0:Int)) ([(2:Int),(-1:Int)]))),a.2.2.2))) λg=>(if(!g)=true then(Option.bind (k_ U ((c.1,c.2.1,d)) ((e.1,e.2)) ((a.2.1,(List.set a.2.2.1 (Int.toNat (1:Int)) (List.set (at' a.2.2.1 (1:Int)) (Int.toNat (0:Int)) ([(2:Int),(-1:Int)]))),a.2.2.2))) λh=>(if h=(2:Int)then(if(b.1.1.length:Int)=(2:Int)then(ck (0<=(1:Int)∧(1:Int)<(b.1.1.length:Int)) (if((at' b.1.1 (1:Int)).length:Int)=(2:Int)then(ck (0<=(1:Int)∧(1:Int)<(b.1.1.length:Int)) (ck (0<=(0:Int)∧(0:Int)<((at' b.1.1 (1:Int)).length:Int)) (mD  (decide ((at' (at' b.1.1 (1:Int)) (0:Int))=(2:Int))))))else(mD  (false))))else(mD  (false)))else(mD  (false))))else(mD  (false))))else(mD  (false))))))
noncomputable def tH (U:Nat) (d:CO) (b:Qb) (c:List pR) (a:wP):Option Bool:=
 if a.1≠(0:Int)then(pZ U d b c a (true))else(Option.bind (iK U ((b.1,b.2.1,c)) ((d.1,d.2)) ((a.2.1,a.2.2.1,a.2.2.2))) λe=>(if(!e)=true then(pZ U d b c a (true))else(if(a.2.2.1.length:Int)≠(2:Int)then(pZ U d b c a (true))else(ck (0<=(1:Int)∧(1:Int)<(a.2.2.1.length:Int)) (pZ U d b c a (decide (((at' a.2.2.1 (1:Int)).length:Int)≠(1:Int))))))))
noncomputable def Cv (U:Nat) (e:CO) (c:Qb) (d:List pR) (b:bV) (a:List (List bV)×List bV):Option Bool:=
 tH U e c d ((0:Int),b,a.2,a.1)
noncomputable def Cw (d:CO) (a:Int×List (List bV)×List bV) (b:(Int×List (List bV)×List bV)->Option Bool) (c:o_):Option Bool:=
 b ((wI .i64 (a.1+(1:Int))),(List.set a.2.1 (Int.toNat a.1) (List.replicate (Int.toNat ((at' d.2 a.1).length:Int)) ([]:bV))),c)
noncomputable def FB (U:Nat) (e:CO) (b:Int×List (List bV)×List bV) (c:(Int×List (List bV)×List bV)->Option Bool) (a:Int×List bV) (d:(Int×List bV)->Option Bool):Option Bool:=
 if a.1<((at' e.2 b.1).length:Int)then(ck (0<=a.1∧a.1<((at' e.2 b.1).length:Int)) (ck (0<=b.1∧b.1<(a.2.length:Int)) (ck (0<=((at' (at' e.2 b.1) a.1).1)∧((at' (at' e.2 b.1) a.1).1)<(List.length ([([(0:Int),(-1:Int)]),([(1:Int),(0:Int)])]):Int)) (Option.bind (qA U (at' ([([(0:Int),(-1:Int)]),([(1:Int),(0:Int)])]) ((at' (at' e.2 b.1) a.1).1))) λf=>(ck (0<=a.1∧a.1<((at' a.2 b.1).length:Int)) (d ((wI .i64 (a.1+(1:Int))),(List.set a.2 (Int.toNat b.1) (List.set (at' a.2 b.1) (Int.toNat a.1) f)))))))))else(Cw e b c (a.2))
noncomputable def yG (U:Nat) (b:CO) (e:Qb) (f:List pR) (d:bV) (a:Int×List (List bV)×List bV) (c:(Int×List (List bV)×List bV)->Option Bool):Option Bool:=
 if a.1<(b.2.length:Int)then(ck (0<=a.1∧a.1<(b.2.length:Int)) (ck (0<=((at' b.2 a.1).length:Int)∧((at' b.2 a.1).length:Int)<=1099511627) (ck (0<=a.1∧a.1<(a.2.2.length:Int)) (ck (0<=((at' b.2 a.1).length:Int)∧((at' b.2 a.1).length:Int)<=1099511627) (ck (0<=a.1∧a.1<(a.2.1.length:Int)) (bP (FB U b a c) U ((0:Int),(List.set a.2.2 (Int.toNat a.1) (List.replicate (Int.toNat ((at' b.2 a.1).length:Int)) ([]:cC))))))))))else(Cv U b e f d (a.2.1,a.2.2))
noncomputable def Cu (U:Nat) (b:CO) (c:Qb) (d:List pR) (a:bV):Option Bool:=
 bP (yG U b c d a) U ((0:Int),(List.replicate (Int.toNat (b.2.length:Int)) ([]:o_)),(List.replicate (Int.toNat (b.2.length:Int)) ([]:bV)))
noncomputable def vX (U:Nat)  : Option Bool:=
 Option.bind (lM U (((2:Int),([]:cC),([]:cC),([]:cC),false,false)) (2:Int)) λb=>(Option.bind (Es U) λf=>(Option.bind (lA U f) λa=>T_ a.2.2 λc=>(Option.bind (mG U ((a.1,a.2.1,c)) ((b.1,b.2)) ([([(0:Int),(-1:Int)]),([(1:Int),(0:Int)])])) λe=>(if e≠(0:Int)then(tH U b a c (e,([]:bV),([]:o_),([]:BR)))else(Option.bind (mX U ([([(0:Int),(-1:Int)]),([(1:Int),(0:Int)])])) λd=>(ck (0<=(b.2.length:Int)∧(b.2.length:Int)<=1099511627) (ck (0<=(b.2.length:Int)∧(b.2.length:Int)<=1099511627) (Cu U b a c (d)))))))))
theorem VL:bD Tryz.prog 16:=Tryz.call16
theorem GU (U:Nat)  (r:Bool) (h:vX U  = some r):
  bG Tryz.prog 16 #[] [] (λx:Unit=>vB (r)) (λx l=>l) (λ_ l=>l):=by
 let bz:=(Int.toNat (0:Int))
 let bx:=(Int.toNat (1:Int))
 refine bG.of Tryz.func16 Z Tryz.ntmps16 Z λc=>?_;refine aX<|aD Z<|aQ<|aX ?_;refine aC (Nt (r:=Value.agg #[vI (2:Int),cY,cY,cY,vB (false),vB (false)]) Z (by intro w;simp[Instr.build,Instr.fill,fY,fD,eL,fZ,f_,fE,h_])) Z<|eO h λr1 w2 h=>let a6:=(r1.2.length:Int);let ag:=(Int.toNat a6);let b7:=(tg 2 (List.replicate ag ([]:Ac)));let bs:=(List.replicate ag ([]:fM));let br:=(List.replicate ag ([]:bV));let bq:=(List.replicate ag ([]:o_));aM (zBa QQ (xN U (cY) (cY) (cY) r1 w2) Z (aI.cons aA.nil (aI.cons aA.nil (aI.cons aA.nil .nil)))) Z λL=>let ad:=Ar iF L.1 r1.1;let ai:=(List.zip L.2.2 r1.2);let W:=gN bY L.2.2 r1.2;let T:=Ar aE L.2.1 L.2.2;aM (aS.alloc (cs:=[cY,cY]) Z Z) Z λb4=>let I:=bO b4 [L.1,L.2.1] 31;bB (Know.one ((dM (aA.res 1 Z) iH))) λdb=>bB (Know.one (aA.sl (eV (i:=2) (j:=3) Z Z cF))) λdc=>cA 0 (vs:=[L.1,L.2.1]) Z Z (eZ db (eZ dc Z)) Z Z Z<|aQ<|aX<|eO h λr7 w8 h=>aM (zBa abE (RO U  r7 w8) Z .nil) Z λx9=>eO h λaa dg h=>aM (aS.call SG (EW U aa dg) Z .nil (λ_ _=>rfl) (λ_ _=>rfl)) Z fun⟨E,F,aL,c3⟩=>let X:=Sl aF F aL;let V:=Sl aG E aa.2.1;let aw:=PF (Value.agg #[vS aa.1,E,F]);?_
 have h:=Mq h aL c3;refine aM (aS.alloc (cs:=[vS (ByteArray.mk #[]),cY,cY]) Z Z) Z λcr=>let ah:=bO cr [vS (aa.1),E,F] 36;bB (Know.one ((aA.fact 0 Z))) λcN=>bB (Know.one ((aA.fact 1 Z))) λcO=>cA 0 (vs:=[vS (aa.1),E,F]) Z Z (eZ Z (eZ cN (eZ cO Z))) Z Z Z<|aQ<|aX<|cM 0 Z<|cM 1 Z<|aM (dK (e:=iF) ([(0:Int),(-1:Int)]) [(0,vI (0:Int)),(1,vI (-1:Int))] Z Z Z Z (Fx (vI (0:Int)) (vI (-1:Int)) Z Z) Z Z Z) Z λay=>let ax:=Sl aP ay ([(0:Int),(-1:Int)]);aM (dK (e:=iF) ([(1:Int),(0:Int)]) [(0,vI (1:Int)),(1,vI (0:Int))] Z Z Z Z (Fx (vI (1:Int)) (vI (0:Int)) Z Z) Z Z Z) Z λaz=>let b6:=(List.zip ([ay,az]) ([([(0:Int),(-1:Int)]),([(1:Int),(0:Int)])]));let a1:=mS aP ([ay,az]) ([([(0:Int),(-1:Int)]),([(1:Int),(0:Int)])]);let S:=Sl aP az ([(1:Int),(0:Int)]);bB (Know.one ((dM (aA.res 1 Z) iH))) λbU=>bB (Know.one ((dM (aA.res 0 Z) iH))) λb0=>cD (gF 1 Z (dM (aA.res 0 Z) iH))<|cD (gF 0 Z (dM (aA.res 0 Z) iH))<|cD (cR (lS (aA.fact 1 Z) (lS (aA.fact 0 Z) fR)))<|aM (dK (e:=aE) ([ay,az]) [(0,ay),(1,az)] Z Z Z Z (Fx (ay) (az) bU b0) Z Z (eZ bU (eZ b0 Z))) Z λaH=>let a7:=Ar aE aH ([ay,az]);xZ (A:=wP) (B:=Value×List Value×Value×List Value×List (List Value)×Value×List Value×List (List Value)×List (List (List Value))) (vs:=[Value.agg #[vS (aa.1),E,F],Value.agg #[L.1,L.2.1],aH]) (λv=>tH U r1 aa aL v=some r) (λv f=>Value.tuple #[Value.agg #[f.1,f.2.2.1,f.2.2.2.2.2.1],vI (v.1)]) (λv f=>[ah,I,ad,T,W,Ar aE f.1 f.2.1,Ar aE f.2.2.1 f.2.2.2.1,gN aE f.2.2.2.1 f.2.2.2.2.1,Ar aE f.2.2.2.2.2.1 f.2.2.2.2.2.2.1,rR aE f.2.2.2.2.2.2.1 f.2.2.2.2.2.2.2.1 f.2.2.2.2.2.2.2.2]) (λv f=>[S,ax,V,X,aw,mS aP f.2.1 v.2.1,xH aP f.2.2.2.2.1 v.2.2.1,An aP f.2.2.2.2.2.2.2.2 v.2.2.2]) (oB.fn (show bD Tryz.prog 36 from Tryz.call36) Z) Tryz.func36 Z Tryz.ntmps36 Z Z ?_ ?_
 ·refine aX<|aM (aS.box (cs:=[vS (aa.1),E,F]) Z Z) Z λdt=>aM (aS.box (cs:=[L.1,L.2.1]) Z Z) Z λcu=>aM (aS.alloc (cs:=[cY,cY,cY]) Z Z) Z λbd=>let au:=bO bd [cY,cY,cY] 43;aD Z<|aQ<|aN<|aX<|cM 2 Z<|cM 1 Z<|aB Z<|eO h λc9 dl h=>aM (zBa VW (FP U E F L.1 L.2.1 ai aH (b6) c9 dl) Z (aI.cons (aA.fact 3 Z) (aI.cons (aA.fact 4 Z) (aI.cons (aA.fact 5 Z) (aI.cons (dM (aA.res 6 Z) iH) (aI.cons (eV (i:=7) (j:=8) Z Z cF) (aI.cons (bW (i:=3) (j:=0) Z Z) .nil))))))) Z λdy=>aD Z<|aQ<|aX<|aB Z<|kA Z<|aQ ?_
  refine eJ h Z (λh=>?_) λh=>?_
  ·refine aX ?_;refine aC (Ky (r:=Value.agg #[cY,cY,cY]) (by intro w;simp[Instr.build,Instr.fill,fY,fD,eL,fZ,f_,fE,h_])) Z ?_;refine aB Z<|cA 0 (vs:=[cY,cY,cY]) Z Z Z Z Z Z<|aD Z<|aQ<|aT<|aJ<|cD (iM aE)<|cD (cR (fR:aA _ _ (mS aP (tg 1 ([]:fM)) ([]:bV))))<|cD (iM aE)<|cD (l_ aE)<|cD (cR (fR:aA _ _ (xH aP (tg 2 ([]:Ac)) ([]:o_))))<|cD (iM aE)<|cD (Ck aE)<|cD (cR (fR:aA _ _ (An aP (tg 3 ([]:Lz)) ([]:BR)))) ?_;exact jC (c9,([]:bV),([]:o_),([]:BR)) ((tg 1 (cY)),(tg 1 ([]:fM)),(tg 2 (cY)),(tg 2 ([]:fM)),(tg 2 ([]:Ac)),(tg 3 (cY)),(tg 3 ([]:fM)),(tg 3 ([]:Ac)),(tg 3 ([]:Lz))) h (.inl Z) (Dx.r2 Z (RV.cell 5 Z Z Z Z) (RV.tmp Z)) Z (a_.ix [9,10,11,12,13,4,3,2,1,0] Z Z) (iD [4,5,6,7,8,2,1,0] Z)
  refine cK<|aX<|bX Z<|dU 1 Z<|aC (dD Z (eV (i:=7) (j:=8) Z Z cF) Z) Z<|aD Z<|aQ<|aN<|lC (B:=Nat×Value×Value×Value×List Value×List Value×List (List Value)×List (List (List Value))×List Value×List (List Value)) (λG=>Cu U r1 aa aL G=some r) (λG a=>[(2,aH),(4,vP cu),(6,vP bd),(10,vP a.1)]) (λG a=>[bO a.1 [a.2.1,a.2.2.1,a.2.2.2.1] 43,Ar aE a.2.2.2.1 a.2.2.2.2.2.1,rR aE a.2.2.2.2.2.1 a.2.2.2.2.2.2.1 a.2.2.2.2.2.2.2.1,Ar aE a.2.2.1 a.2.2.2.2.2.2.2.2.1,gN aE a.2.2.2.2.2.2.2.2.1 a.2.2.2.2.2.2.2.2.2,Ar aE a.2.1 a.2.2.2.2.1,au,bO cu [L.1,L.2.1] 31,a7,ah,I,ad,T,W]) (λG a=>[An aP a.2.2.2.2.2.2.2.1 bq,xH aP a.2.2.2.2.2.2.2.2.2 br,mS aP a.2.2.2.2.1 G,a1,S,ax,V,X,aw]) ?_ ?_
  ·have⟨r180,w181,h⟩:=bnd h;refine cQ h λc6 h=>cQ h λc7 h=>Mk [0,1,0,4,0,16,63,0,255] 8 [[0,2,4,1,3,5,6,7,8],[0,2,4,1,3,7,5,6,8],[0,2,4,1,5,3,6,7,8],[0,2,4,1,5,7,3,6,8],[0,2,4,1,7,3,5,6,8],[0,2,4,1,7,5,3,6,8],[0,2,4,3,1,5,6,7,8],[0,2,4,3,1,7,5,6,8],[0,2,4,3,5,1,6,7,8],[0,2,4,3,5,7,1,6,8],[0,2,4,3,7,1,5,6,8],[0,2,4,3,7,5,1,6,8],[0,2,4,5,1,3,6,7,8],[0,2,4,5,1,7,3,6,8],[0,2,4,5,3,1,6,7,8],[0,2,4,5,3,7,1,6,8],[0,2,4,5,7,1,3,6,8],[0,2,4,5,7,3,1,6,8],[0,2,4,7,1,3,5,6,8],[0,2,4,7,1,5,3,6,8],[0,2,4,7,3,1,5,6,8],[0,2,4,7,3,5,1,6,8],[0,2,4,7,5,1,3,6,8],[0,2,4,7,5,3,1,6,8]] mixedOrders (by decide +kernel) (by decide +kernel) ?_;intro o ho;simp only[zAq,List.not_mem_nil,or_false]at ho;rcases ho with rfl|rfl|rfl|rfl|rfl|rfl|rfl|rfl|rfl|rfl|rfl|rfl|rfl|rfl|rfl|rfl|rfl|rfl|rfl|rfl|rfl|rfl|rfl|rfl
   all_goals
    iterate 8 first
     |refine bE (i:=0) Z .nil .nil (dZ Z) aO.z ?_
     |refine zBd (i:=1) Z Z Z (zBa NI (Bf U aH (b6) r180 w181) Z (by first|exact aI.cons (bW (i:=3) (j:=0) Z Z) .nil|exact aI.cons (bW (i:=5) (j:=1) Z Z) .nil|exact aI.cons (bW (i:=7) (j:=2) Z Z) .nil|exact aI.cons (bW (i:=8) (j:=2) Z Z) .nil|exact aI.cons (bW (i:=6) (j:=1) Z Z) .nil|exact aI.cons (bW (i:=4) (j:=0) Z Z) .nil)) Z (λJ=>(pB [] Z)) λJ=>?_
      refine JR.stp (gF 1 Z (lT (j:=0) Z iH)) ?_
     |refine bE (i:=2) Z .nil .nil (dZ Z) aO.z ?_
     |refine JR.stp (tA aE ag) ?_
      refine JR.stp (cR ((Bj ag (b:=([]:bV)) fR):aA _ _ (xH aP (tg 1 bs) br)))<|zBd (i:=3) Z Z Z (qX (e:=aE) (cY) Z Z Z Z c6 Z Z Z) Z (λN=>(pB [] Z)) λN=>?_
     |refine bE (i:=4) Z .nil .nil (dZ Z) aO.z ?_
     |refine JR.stp (QI aE ag) ?_
      refine JR.stp (cR ((Bj ag (b:=([]:o_)) fR):aA _ _ (An aP b7 bq)))<|zBd (i:=5) Z Z Z (qX (e:=aE) (cY) Z Z Z Z c7 Z Z Z) Z (λO=>(pB [] Z)) λO=>?_
     |first
       |refine aY (Know.one (aA.sl (bW (i:=4) (j:=2) Z Z))) λac=>?_
       |refine aY (Know.one (aA.sl (bW (i:=5) (j:=2) Z Z))) λac=>?_
       |refine aY (Know.one (aA.sl (bW (i:=2) (j:=1) Z Z))) λac=>?_
       |refine aY (Know.one (aA.sl (bW (i:=3) (j:=1) Z Z))) λac=>?_
       |refine aY (Know.one (aA.sl (bW (i:=0) (j:=0) Z Z))) λac=>?_
      first
       |refine aY (Know.one (aA.sl (cU (i:=2) (q:=3) (j:=1) Z Z Z))) λP=>?_
       |refine aY (Know.one (aA.sl (cU (i:=3) (q:=4) (j:=1) Z Z Z))) λP=>?_
       |refine aY (Know.one (aA.sl (cU (i:=0) (q:=1) (j:=0) Z Z Z))) λP=>?_
       |refine aY (Know.one (aA.sl (cU (i:=3) (q:=4) (j:=2) Z Z Z))) λP=>?_
       |refine aY (Know.one (aA.sl (cU (i:=4) (q:=5) (j:=2) Z Z Z))) λP=>?_
       |refine aY (Know.one (aA.sl (cU (i:=1) (q:=2) (j:=1) Z Z Z))) λP=>?_
      first
       |refine aY (Know.one (aA.sl (dL (i:=0) (q:=1) (j:=0) Z Z Z))) λQ=>?_
       |refine aY (Know.one (aA.sl (dL (i:=2) (q:=3) (j:=1) Z Z Z))) λQ=>?_
       |refine aY (Know.one (aA.sl (dL (i:=3) (q:=4) (j:=1) Z Z Z))) λQ=>?_
       |refine aY (Know.one (aA.sl (dL (i:=1) (q:=2) (j:=1) Z Z Z))) λQ=>?_
       |refine aY (Know.one (aA.sl (dL (i:=3) (q:=4) (j:=2) Z Z Z))) λQ=>?_
       |refine aY (Know.one (aA.sl (dL (i:=4) (q:=5) (j:=2) Z Z Z))) λQ=>?_
      refine bE (i:=6) Z .nil .nil (QJ (r:=Value.agg #[J.1,N,O]) Z Z Z (by intro w;simp[Instr.build,Instr.fill,fY,fD,eL,fZ,f_,fE,h_,eR ac,eR P,eR Q])) (by first|exact aO.b Z (sU Z)|exact aO.b Z hkN|exact aO.b Z hkN|exact aO.b Z hkN) ?_
     |refine zBd (i:=7) Z Z Z (aS.alloc (cs:=[cY,cY,cY]) Z Z) Z (λbT=>(by first|exact BS.h .nil .nil (pB [] Z)|exact BS.h .nil .nil (pB [] Z))) λbT=>?_
    refine bM 8 Z Z ?_
    first
     |refine bB (Know.one (aA.sl (bW (i:=5) (j:=2) Z Z))) λt=>?_
     |refine bB (Know.one (aA.sl (bW (i:=3) (j:=1) Z Z))) λt=>?_
     |refine bB (Know.one (aA.sl (bW (i:=1) (j:=0) Z Z))) λt=>?_
     |refine bB (Know.one (aA.sl (bW (i:=0) (j:=0) Z Z))) λt=>?_
     |refine bB (Know.one (aA.sl (bW (i:=2) (j:=1) Z Z))) λt=>?_
     |refine bB (Know.one (aA.sl (bW (i:=4) (j:=2) Z Z))) λt=>?_
    first
     |refine bB (Know.one (aA.sl (cU (i:=3) (q:=4) (j:=1) Z Z Z))) λp=>?_
     |refine bB (Know.one (aA.sl (cU (i:=1) (q:=2) (j:=0) Z Z Z))) λp=>?_
     |refine bB (Know.one (aA.sl (cU (i:=0) (q:=1) (j:=0) Z Z Z))) λp=>?_
     |refine bB (Know.one (aA.sl (cU (i:=2) (q:=3) (j:=1) Z Z Z))) λp=>?_
     |refine bB (Know.one (aA.sl (cU (i:=4) (q:=5) (j:=2) Z Z Z))) λp=>?_
     |refine bB (Know.one (aA.sl (cU (i:=1) (q:=2) (j:=1) Z Z Z))) λp=>?_
     |refine bB (Know.one (aA.sl (cU (i:=3) (q:=4) (j:=2) Z Z Z))) λp=>?_
    first
     |refine bB (Know.one (aA.sl (dL (i:=1) (q:=2) (j:=0) Z Z Z))) λs=>?_
     |refine bB (Know.one (aA.sl (dL (i:=0) (q:=1) (j:=0) Z Z Z))) λs=>?_
     |refine bB (Know.one (aA.sl (dL (i:=3) (q:=4) (j:=1) Z Z Z))) λs=>?_
     |refine bB (Know.one (aA.sl (dL (i:=2) (q:=3) (j:=1) Z Z Z))) λs=>?_
     |refine bB (Know.one (aA.sl (dL (i:=1) (q:=2) (j:=1) Z Z Z))) λs=>?_
     |refine bB (Know.one (aA.sl (dL (i:=4) (q:=5) (j:=2) Z Z Z))) λs=>?_
     |refine bB (Know.one (aA.sl (dL (i:=3) (q:=4) (j:=2) Z Z Z))) λs=>?_
    first
     |refine cA 0 (vs:=[J.1,N,O]) Z Z (eZ t (eZ p (eZ s Z))) Z Z Z ?_
     |refine cA 2 (vs:=[J.1,N,O]) Z Z (eZ t (eZ p (eZ s Z))) Z Z Z ?_
     |refine cA 4 (vs:=[J.1,N,O]) Z Z (eZ t (eZ p (eZ s Z))) Z Z Z ?_
     |refine cA 1 (vs:=[J.1,N,O]) Z Z (eZ t (eZ p (eZ s Z))) Z Z Z ?_
     |refine cA 3 (vs:=[J.1,N,O]) Z Z (eZ t (eZ p (eZ s Z))) Z Z Z ?_
     |refine cA 5 (vs:=[J.1,N,O]) Z Z (eZ t (eZ p (eZ s Z))) Z Z Z ?_
    refine aQ ?_;exact cE (r180) (bT,J.1,N,O,J.2,(tg 2 (List.replicate ag (cY))),(tg 2 bs),b7,(tg 1 (List.replicate ag (cY))),(tg 1 bs)) h SF (by first|exact a_.ix [0,1,2,3,4,5,6,7,9,10,11,12,13,14] Z Z|exact a_.ix [2,0,1,3,4,5,6,7,9,10,11,12,13,14] Z Z|exact a_.ix [0,3,4,1,2,5,6,7,9,10,11,12,13,14] Z Z|exact a_.ix [2,3,4,0,1,5,6,7,9,10,11,12,13,14] Z Z|exact a_.ix [4,0,1,2,3,5,6,7,9,10,11,12,13,14] Z Z|exact a_.ix [4,2,3,0,1,5,6,7,9,10,11,12,13,14] Z Z|exact a_.ix [0,1,2,4,5,3,6,7,9,10,11,12,13,14] Z Z|exact a_.ix [2,0,1,4,5,3,6,7,9,10,11,12,13,14] Z Z|exact a_.ix [0,2,3,4,5,1,6,7,9,10,11,12,13,14] Z Z|exact a_.ix [1,2,3,4,5,0,6,7,9,10,11,12,13,14] Z Z|exact a_.ix [3,0,1,4,5,2,6,7,9,10,11,12,13,14] Z Z|exact a_.ix [3,1,2,4,5,0,6,7,9,10,11,12,13,14] Z Z|exact a_.ix [0,4,5,1,2,3,6,7,9,10,11,12,13,14] Z Z|exact a_.ix [2,4,5,0,1,3,6,7,9,10,11,12,13,14] Z Z|exact a_.ix [0,4,5,2,3,1,6,7,9,10,11,12,13,14] Z Z|exact a_.ix [1,4,5,2,3,0,6,7,9,10,11,12,13,14] Z Z|exact a_.ix [3,4,5,0,1,2,6,7,9,10,11,12,13,14] Z Z|exact a_.ix [3,4,5,1,2,0,6,7,9,10,11,12,13,14] Z Z|exact a_.ix [5,0,1,2,3,4,6,7,9,10,11,12,13,14] Z Z|exact a_.ix [5,2,3,0,1,4,6,7,9,10,11,12,13,14] Z Z|exact a_.ix [5,0,1,3,4,2,6,7,9,10,11,12,13,14] Z Z|exact a_.ix [5,1,2,3,4,0,6,7,9,10,11,12,13,14] Z Z|exact a_.ix [5,3,4,0,1,2,6,7,9,10,11,12,13,14] Z Z|exact a_.ix [5,3,4,1,2,0,6,7,9,10,11,12,13,14] Z Z) (by first|exact aI.refl _ _|exact aI.cons (aA.fact 1 Z) (iD [0,2,3,4,5,6,7,8] Z)|exact aI.cons (aA.fact 0 Z) (iD [2,1,3,4,5,6,7,8] Z)|exact aI.cons (aA.fact 1 Z) (iD [2,0,3,4,5,6,7,8] Z)|exact aI.cons (aA.fact 2 Z) (iD [0,1,3,4,5,6,7,8] Z)|exact aI.cons (aA.fact 2 Z) (iD [1,0,3,4,5,6,7,8] Z))
  intro G a h;let aj:=a.2.2.1;let bw:=(yG U r1 aa aL G)
  let u:=a.2.2.2;let a9:=mS aP u.2.1 G;let a5:=Ar aE a.2.1 u.2.1;let a2:=bO a.1 [a.2.1,aj,u.1] 43;unfold Cu at h;refine aN<|lC (B:=aa_) (λM=>Cv U r1 aa aL G M=some r) (λM n=>[(6,vP bd),(10,vP a.1)]) (λM n=>[a2,Ar aE u.1 n.1,rR aE n.1 n.2.1 n.2.2.1,Ar aE aj n.2.2.2.1,gN aE n.2.2.2.1 n.2.2.2.2,a5,au,ah,I,ad,T,W]) (λM n=>[An aP n.2.2.1 M.1,xH aP n.2.2.2.2 M.2,a9,S,ax,V,X,aw]) ?_ ?_
  ·refine aX<|bX Z<|dU 7 Z<|aC (dD Z (eV (i:=12) (j:=13) Z Z cF) Z) Z<|aB Z<|aQ<|aW<|oO (B:=aa_) bw (λd g=>[(2,aH),(6,vP bd),(10,vP a.1),(34,L.2.1),(35,vI a6),(36,vI (d.1))]) (λd g=>[a2,Ar aE u.1 g.1,rR aE g.1 g.2.1 g.2.2.1,Ar aE aj g.2.2.2.1,gN aE g.2.2.2.1 g.2.2.2.2,a5,au,a7,ah,I,ad,T,W]) (λd g=>[An aP g.2.2.1 d.2.1,xH aP g.2.2.2.2 d.2.2,a9,a1,S,ax,V,X,aw]) ((0:Int),bq,br) (u.2.2.1,u.2.2.2.1,u.2.2.2.2.1,u.2.2.2.2.2.1,u.2.2.2.2.2.2) h SF (a_.ix [0,1,2,3,4,5,6,8,9,10,11,12,13] Z Z) (aI.refl _ _) ?_;intro b3 d g h;let av:=(at' r1.2 d.1)
   let Y:=(Int.toNat d.1)
   let am:=(Int.toNat (av.length:Int))
   let b8:=(tg 2 (List.replicate am ([]:fM)))
   let bu:=(List.replicate am (cY))
   let bo:=(List.set d.2.1 Y (List.replicate am ([]:bV)))
   let bn:=(List.set g.2.1 Y (tg 2 bu))
   let bF:=(List.set g.2.2.1 Y b8)
   refine aX<|cX Z<|aQ<|aN ?_;refine eJ h Z (λh=>?_) λh=>?_
   ·refine cK<|aN<|lC (B:=List Value×List Value×List (List Value)) (λab=>Cw r1 d (bP bw b3) ab=some r) (λab y=>[(2,aH),(6,vP bd),(10,vP a.1),(34,L.2.1),(35,vI a6),(36,vI (d.1))]) (λab y=>[a2,Ar aE u.1 y.1,rR aE y.1 bn bF,Ar aE aj y.2.1,gN aE y.2.1 y.2.2,a5,au,a7,ah,I,ad,T,W]) (λab y=>[An aP bF bo,xH aP y.2.2 ab,a9,a1,S,ax,V,X,aw]) ?_ ?_
    ·refine aW<|aX<|aB Z<|cQ h λC h=>aC (bH Z Z (eV (i:=11) (j:=12) Z Z cF) Z Z C) Z<|bB (dC 12 Z) λcc=>aC (eN 11 Z Z cc Z Z C) Z<|aD Z<|aD Z<|aQ<|aN ?_;refine JR.start [0,1,0,0,8,24,63,127] 6 mixedOrders (by decide +kernel) ?_;refine zBc (by exact rfl) ?_;refine cB Z<|eI 0 Z<|aV Z<|aV Z<|bE Z (a_.cons 12 Z .nil) .nil (fG Z (aA.row (j:=0) Z cF C.1 C.2) Z) aO.z<|cQ h λc4 h=>JR.stp (cR ((Bj am (b:=([]:cC)) aA.nil):aA _ _ (mS aP (tg 1 bu) (List.replicate am ([]:cC)))))<|zBd Z Z Z (qX (e:=aE) (cY) Z Z Z Z c4 Z Z Z) Z (λak=>(pB [([1],[])] Z)) λak=>let bp:=(List.set g.2.2.2.1 Y ak);bM 6 Z Z<|cQ h λao h=>aC (bH Z Z (cU (i:=4) (q:=5) (j:=2) Z Z Z) Z Z ao) Z<|bB (Know.one (aA.sl (bW (i:=0) (j:=0) Z Z))) λbh=>bB (aZ (aA.fact 2 Z)) λbf=>bB (dC 5 Z) λcd=>cD (cR (eP Y (aA.fact 2 Z) (aA.fact 0 Z))) ?_
     refine cD (Ap (k:=d.1) 5 0 Z Z Z ⟨ao.1,(by have q0:=ao.2;have q1:=bf;(try simp only[zA0]at q0 q1⊢);omega)⟩) ?_;refine nU (jQ (us:=[ak]) (o:=0) (q:=1) 3 ak ⟨ao.1,(by have q0:=ao.2;have q1:=cd;have q2:=bf;(try simp only[zA0]at q0 q1 q2⊢);omega)⟩ Z Z Z Z (by rw[show(ak).cells = #[ak]from eR bh]) Z Z Z (eZ bh Z) Z) λdp=>?_;refine aQ<|aN ?_;refine JR.start [0,1,0,0,8,24,63,127] 6 mixedOrders (by decide +kernel) ?_;refine zBc (by exact rfl) ?_;refine cB Z<|eI 0 Z<|aV Z<|aV Z<|bE Z (a_.cons 12 Z .nil) .nil (fG Z (aA.row (j:=0) Z cF C.1 C.2) Z) aO.z<|cQ h λc5 h=>JR.stp (tA aE am)<|JR.stp (cR ((Bj am (b:=([]:bV)) fR):aA _ _ (xH aP b8 (List.replicate am ([]:bV)))))<|zBd Z Z Z (qX (e:=aE) (cY) Z Z Z Z c5 Z Z Z) Z (λal=>(pB [([2],[])] Z)) λal=>let bt:=(List.set g.1 Y al);bM 6 Z Z<|cQ h λap h=>aC (bH Z Z (dL (i:=3) (q:=4) (j:=3) Z Z Z) Z Z ap) Z<|bB (Know.one (aA.sl (cU (i:=0) (q:=1) (j:=0) Z Z Z))) λbi=>bB (aZ (aA.fact 3 Z)) λbg=>bB (lE 4 Z) λce=>cD (cR (eP Y (aA.fact 3 Z) (aA.fact 0 Z)))<|cD (JP 0 1 Z Z Z) ?_
     refine cD (Kv (k:=d.1) 3 0 Z Z Z ⟨ap.1,(by have q0:=ap.2;have q1:=bg;(try simp only[zA0]at q0 q1⊢);omega)⟩) ?_;refine nU (jQ (us:=[al]) (o:=0) (q:=1) 1 al ⟨ap.1,(by have q0:=ap.2;have q1:=ce;have q2:=bg;(try simp only[zA0]at q0 q1 q2⊢);omega)⟩ Z Z Z Z (by rw[show(al).cells = #[al]from eR bi]) Z Z Z (eZ bi Z) Z) λdq=>?_;refine aQ<|aX<|aB Z<|aC (fG Z (aA.row (j:=12) Z cF C.1 C.2) Z) Z<|aB Z<|aQ<|aW<|oO (B:=Ac) (FB U r1 d (bP bw b3)) (λm R=>[(2,aH),(6,vP bd),(10,vP a.1),(11,vI (d.1)),(34,L.2.1),(35,vI a6),(36,vI (d.1)),(55,at' L.2.2 d.1),(56,vI (av.length:Int)),(57,vI (m.1))]) (λm R=>[a2,Ar aE u.1 bt,rR aE bt bn bF,Ar aE aj bp,gN aE bp R,a5,au,a7,ah,I,ad,T,W]) (λm R=>[An aP bF bo,xH aP R m.2,a9,a1,S,ax,V,X,aw]) ((0:Int),(List.set d.2.2 Y (List.replicate am ([]:cC)))) (List.set g.2.2.2.2 Y (tg 1 bu)) h SF (a_.refl _) (iD [0,2,6,7,8,9,10,11,12] Z) ?_;intro dn m R h;refine aX<|cX Z<|aQ<|aN ?_;refine eJ h Z (λh=>?_) λh=>?_
     ·refine cK<|aN<|aW<|aX<|aB Z<|cQ h λb2 h=>aC (bI Z Z (aA.row (j:=12) Z cF C.1 C.2) Z Z b2) Z<|aC (gM (cs:=[vI ((at' av m.1).1),vI ((at' av m.1).2)]) Z (aA.row (j:=12) Z cF C.1 C.2) cF Z Z Z Z b2) Z<|aM (aS.alloc (cs:=Qs) Z Z) Z λdm=>aD Z<|cA 0 (vs:=[vI ((at' (at' r1.2 d.1) m.1).1),vI ((at' (at' r1.2 d.1) m.1).2)]) Z Z Z Z Z Z<|aQ ?_;refine JR.start [0,1,0,7,15,0,0,0,128,448,960,1984,4095,8191] 12 mixedOrders (by decide +kernel) ?_;refine zBc (by exact rfl) ?_;refine cB Z<|eI 1 Z<|aV Z<|cQ h λH h=>aY (cG (cU (i:=4) (q:=5) (j:=1) Z Z Z)) λcf=>e_ Z (cJ Z Z cf Z Z H)<|aY (dC 5 Z) λcg=>aY (aZ (aA.fact 1 Z)) λch=>bE Z (a_.cons 4 Z .nil) .nil (eN 0 Z Z (cg.trans ch) Z Z H) aO.z<|aV Z<|aV Z<|cB Z<|eI 0 Z<|cQ h λa0 h=>aY (cG (bW (i:=8) (j:=3) Z Z)) λci=>e_ Z (cJ Z Z ci Z Z a0)<|aY (aZ (aA.fact 3 Z)) λcj=>bE Z (a_.cons 8 Z .nil) .nil (eN 0 Z Z cj Z Z a0) aO.z<|eO h λb9 da h=>zBd Z Z Z (zBa VX (FS U (at' ([ay,az]) ((at' av m.1).1)) b9 da) Z (aI.cons (bK (aA.fact 3 Z) a0.1 a0.2) .nil)) Z (λba=>(pB [([5],[]),([2],[])] Z)) λba=>?_;refine bM 12 Z Z<|cQ h λbm h=>aC (bH Z Z (uI (q:=6) (j:=1) Z Z H.1 H.2) Z Z bm) Z ?_;refine bB (Know.one ((dM (aA.res 0 Z) iH))) λbj=>cD (gF 0 Z (dM (aA.res 0 Z) iH))<|bB (aZ (aA.fact 2 Z)) λck=>?_;refine bB (aZ (bK (aA.fact 2 Z) H.1 H.2)) λcl=>?_;refine cD (cR (eP Y (aA.fact 2 Z) (eP (Int.toNat m.1) (bK (aA.fact 2 Z) H.1 H.2) (aA.fact 0 Z)))) ?_;refine nU (pQ (us:=[ba]) (o:=0) (q:=1) (k:=d.1) 5 ba ⟨H.1,(by have q0:=H.2;have q1:=ck;(try simp only[zA0]at q0 q1⊢);omega)⟩ ⟨bm.1,(by have q0:=bm.2;have q1:=cl;(try simp only[zA0]at q0 q1⊢);omega)⟩ Z Z Z Z (by rw[eR bj]) Z Z Z (eZ bj Z) Z) λdr=>?_;refine fU<|lJ<|aU<|cW Z<|aB Z<|aQ ?_;exact kG ((wI .i64 (m.1+(1:Int))),(List.set m.2 Y (List.set (at' m.2 d.1) (Int.toNat m.1) b9))) (List.set R Y (List.set (at' R d.1) (Int.toNat m.1) ba)) h SF (a_.ix [1,2,3,4,5,6,7,8,9,10,11,12,13] Z Z) (iD [2,0,4,5,6,7,8,9,10] Z)
     refine sG<|gR<|gR<|Af<|lJ ?_;exact gJ (m.2) (bt,bp,R) h SF Z
    intro ab y h;unfold Cw at h;refine aU<|cW Z<|aB Z<|aQ ?_;exact vT ((wI .i64 (d.1+(1:Int))),bo,ab) (y.1,bn,bF,y.2.1,y.2.2) h SF Z
   refine fF ?_;exact cE (d.2.1,d.2.2) (g.1,g.2.1,g.2.2.1,g.2.2.2.1,g.2.2.2.2) h SF (a_.ix [0,1,2,3,4,5,6,8,9,10,11,12] Z Z) (iD [0,1,2,4,5,6,7,8] Z)
  intro M n h;unfold Cv at h;refine aX<|cM 0 Z<|bB (Know.one (aA.sl (bW (i:=5) (j:=2) Z Z))) λcm=>bB (Know.one (aA.sl (cU (i:=3) (q:=4) (j:=1) Z Z Z))) λcn=>bB (Know.one (aA.sl (dL (i:=1) (q:=2) (j:=0) Z Z Z))) λco=>cA 6 (vs:=[a.2.1,a.2.2.1,a.2.2.2.1]) Z Z (eZ cm (eZ cn (eZ co Z))) Z Z Z<|aD Z<|aQ<|aT ?_;exact jC ((0:Int),G,M.2,M.1) (a.2.1,u.2.1,aj,n.2.2.2.1,n.2.2.2.2,u.1,n.1,n.2.1,n.2.2.1) h (.inl Z) (Dx.r2 Z (RV.cell 6 Z Z Z Z) (RV.tmp Z)) Z (a_.ix [7,8,9,10,11,5,3,4,1,2] Z Z) (iD [3,4,5,6,7,2,1,0] Z)
 intro v f h;let ae:=f.2.2.1;let D:=f.2.2.2;let bC:=Ar aE ae D.1;let ar:=(List.zip f.2.1 v.2.1)
 let b5:=(List.set v.2.2.1 bx (List.set (at' v.2.2.1 (1:Int)) bz ([(2:Int),(-1:Int)])))
 let K:=D.2.2;let a8:=Ar aE K.1 K.2.1;let a4:=rR aE K.2.1 K.2.2.1 K.2.2.2;let aq:=(Z4 K.2.1 K.2.2.1 K.2.2.2 v.2.2.2)
 refine aB Z<|iG Z<|iG Z<|aM (aS.alloc (cs:=[cY,cY,cY]) Z Z) Z λct=>let a3:=bO ct [f.1,ae,K.1] 43;bB (Know.one (aA.sl (bW (i:=6) (j:=5) Z Z))) λcP=>bB (Know.one (aA.sl (cU (i:=7) (q:=8) (j:=6) Z Z Z))) λcS=>bB (Know.one (aA.sl (dL (i:=9) (q:=10) (j:=7) Z Z Z))) λcV=>cA 0 (vs:=[f.1,f.2.2.1,f.2.2.2.2.2.1]) Z Z (eZ cP (eZ cS (eZ cV Z))) Z Z Z<|aD Z<|aQ<|aN<|aN<|lC (B:=Unit) (λbb=>pZ U r1 aa aL v bb=some r) (λbb ca=>[(1,vP b4),(2,vP cr),(3,vP ct),(42,vB (bb))]) (λbb ca=>[a3,ah,I,ad,T,W,Ar aE f.1 f.2.1,bC,gN aE D.1 D.2.1,a8,a4]) (λbb ca=>[S,ax,V,X,aw,mS aP f.2.1 v.2.1,xH aP D.2.1 v.2.2.1,An aP K.2.2.2 v.2.2.2]) ?_ ?_
 ·refine aU<|aB Z<|kA Z<|aB Z ?_;refine AL h Z (λ_ h=>?_) λ_ h=>?_
  ·refine aK Z<|aK Z<|aK Z<|aK Z<|aK Z<|dG Z<|aB Z<|aK Z<|aK Z<|aK Z<|aK Z<|dG Z<|aB Z<|aK Z<|aK Z<|aK Z<|aK Z<|aK Z<|aK Z<|dG Z<|aQ ?_;exact gJ (true) () h SF Z
  refine aR Z (cZ 1 Z Z Z Z) Z<|aR Z (cZ 2 Z Z Z Z) Z<|aR Z (cZ 0 Z Z Z Z) Z<|eO h λdf dk h=>lR Z (zBa QP (BI U E F L.1 L.2.1 ai f.1 (ar) ae ((Z3 D.1 D.2.1 v.2.2.1)) K.1 (aq) df dk) Z (aI.cons (aA.fact 2 Z) (aI.cons (aA.fact 3 Z) (aI.cons (aA.fact 4 Z) (aI.cons (dM (aA.res 3 Z) iH) (aI.cons (eV (i:=4) (j:=5) Z Z cF) (aI.cons (bW (i:=6) (j:=5) Z Z) (aI.cons (cU (i:=7) (q:=8) (j:=6) Z Z Z) (aI.cons (dL (i:=9) (q:=10) (j:=7) Z Z Z) .nil))))))))) Z λdx=>aR Z (iQ Z) Z<|dR Z<|aB Z ?_;refine qV (by exact rfl) (by exact rfl) (λbl=>?_) (λbl=>?_)
  ·have h:=Ff bl h;refine aK Z<|aK Z<|aK Z<|aK Z<|dG Z<|aB Z<|aK Z<|aK Z<|aK Z<|aK Z<|aK Z<|aK Z<|dG Z<|aQ ?_;exact gJ (true) () h SF Z
  have h:=Cr bl h;refine aR Z (cT Z Z Z Z Z) Z<|aR Z (dQ 0 Z Z Z Z Z) Z<|aR Z (dD Z (cU (i:=7) (q:=8) (j:=6) Z Z Z) Z) Z<|aR Z (xQ Z Z) Z<|dR Z<|aB Z ?_;refine AL h Z (λ_ h=>?_) λ_ h=>?_
  ·refine aK Z<|aK Z<|aK Z<|aK Z<|aK Z<|aK Z<|dG Z<|aQ ?_;exact gJ (true) () h SF Z
  refine aR Z (cT Z Z Z Z Z) Z<|aR Z (dQ 0 Z Z Z Z Z) Z<|cQ h λbN h=>aR Z (bH Z Z (cU (i:=7) (q:=8) (j:=6) Z Z Z) Z Z bN) Z<|bB (dC 8 Z) λcz=>bB (aZ (aA.fact 6 Z)) λcH=>aR Z (eN 7 Z Z (cz.trans cH) Z Z bN) Z ?_;refine aR Z (dD Z (uI (q:=8) (j:=6) Z Z bN.1 bN.2) Z) Z ?_;refine aR Z (xQ Z Z) Z<|dR Z<|aQ ?_;exact gJ (decide (((at' v.2.2.1 (1:Int)).length:Int)≠(1:Int))) () h SF Z
 intro bb ca h;refine qS h Z (λ_ h=>?_) λ_ h=>?_
 ·refine aX<|aD Z<|aQ<|aT<|aJ ?_;cases h;exact lY Z
 refine cK<|aX<|bX Z<|dU 0 Z<|cQ h λaf h=>aC (bH Z Z (cU (i:=7) (q:=8) (j:=6) Z Z Z) Z Z af) Z<|bB (dC 8 Z) λcv=>bB (aZ (aA.fact 6 Z)) λcw=>aC (eN 7 Z Z (cv.trans cw) Z Z af) Z<|aM (dK (e:=iF) ([(2:Int),(-1:Int)]) [(0,vI (2:Int)),(1,vI (-1:Int))] Z Z Z Z (Fx (vI (2:Int)) (vI (-1:Int)) Z Z) Z Z Z) Z λbR=>let cq:=(List.set D.2.1 bx (List.set (at' D.2.1 (1:Int)) bz bR));let bQ:=(Z3 D.1 cq b5);cQ h λcp h=>aC (bH Z Z (uI (q:=9) (j:=6) Z Z af.1 af.2) Z Z cp) Z ?_
 refine bB (Know.one ((dM (aA.res 0 Z) iH))) λb1=>cD (gF 0 Z (dM (aA.res 0 Z) iH))<|bB (aZ (aA.fact 7 Z)) λcx=>?_;refine bB (aZ (bK (aA.fact 7 Z) af.1 af.2)) λcy=>?_;refine cD (cR (eP bx (aA.fact 7 Z) (eP bz (bK (aA.fact 7 Z) af.1 af.2) (aA.fact 0 Z)))) ?_;refine nU (pQ (us:=[bR]) (o:=0) (q:=1) (k:=(1:Int)) 8 bR ⟨af.1,(by have q0:=af.2;have q1:=cx;(try simp only[zA0]at q0 q1⊢);omega)⟩ ⟨cp.1,(by have q0:=cp.2;have q1:=cy;(try simp only[zA0]at q0 q1⊢);omega)⟩ Z Z Z Z (by rw[eR b1]) Z Z Z (eZ b1 Z) Z) λdu=>?_;refine aQ<|aX<|cM 1 Z<|cM 2 Z<|cM 0 Z ?_;refine aC (Ei (r:=Value.agg #[vI (1:Int),vI (1:Int),vI (0:Int)]) Z Z (by intro w;simp[Instr.build,Instr.fill,fY,fD,eL,fZ,f_,fE,h_])) Z ?_;refine cD (gF 3 Z (dM (aA.res 0 Z) iH))<|cD (uJ [T,W] [a3,ah,I,Ar aE f.1 f.2.1,bC,gN aE D.1 cq,a8,a4] (a_.ix [3,4,0,1,2,5,6,7,8,9] Z Z) (eV (i:=0) (j:=1) Z Z cF))<|cD (gF 3 Z (bW (i:=0) (j:=9) Z Z))<|cD (uJ [bC,gN aE D.1 cq] [a3,ah,I,a8,a4] (a_.ix [3,4,0,1,2,5,6] Z Z) (cU (i:=0) (q:=1) (j:=3) Z Z Z))<|cD (uJ [a8,a4] [a3,ah,I] (a_.ix [3,4,0,1,2] Z Z) (dL (i:=0) (q:=1) (j:=13) Z Z Z))<|eO h λbJ dh h=>aM (aS.call abF (OB U E F L.1 L.2.1 ai f.1 ar ae bQ K.1 aq bJ dh) Z (iN.cons (zA1 (i:=9) Z) (iN.cons (zA1 (i:=10) Z) (iN.cons (zA1 (i:=11) Z) (iN.cons (zA1 (i:=4) Z) (iN.cons (zA1 (i:=3) Z) (iN.cons (zA1 (i:=2) Z) (iN.cons (zA1 (i:=1) Z) (fW 0 Z)))))))) (λ_ _=>rfl) (λ_ _=>rfl)) Z λan=>aB Z<|iG Z<|iG Z<|aM (aS.alloc (cs:=[cY,cY,cY]) Z Z) Z λds=>bB (Know.one (aA.sl (aA.fact 0 Z))) λc0=>bB (Know.one (aA.sl (aA.fact 1 Z))) λc1=>bB (Know.one (aA.sl (aA.fact 2 Z))) λc2=>cA 0 (vs:=[an.1,an.2.2.1,an.2.2.2.2.1]) Z Z (eZ c0 (eZ c1 (eZ c2 Z))) Z Z Z<|aD Z<|aQ<|aN<|lC (B:=Unit) (λbc=>mD  bc=some r) (λbc cb=>[(0,vB (bc))]) (λbc cb=>[]) (λbc cb=>[S2 aP an.1 an.2.1 bJ.1.1,S3 aP an.2.2.1 an.2.2.2.1 bJ.1.2.1,S4 aP an.2.2.2.2.1 an.2.2.2.2.2 bJ.1.2.2,S4 aP K.1 aq v.2.2.2,S3 aP ae bQ b5,S2 aP f.1 ar v.2.1,S2 bA L.2.1 ai r1.2,Sl aP L.1 r1.1,Sl aP bR ([(2:Int),(-1:Int)]),S,ax,V,X,aw]) ?_ ?_
 ·refine aU<|aB Z<|cI Z<|aB Z ?_;refine AL h Z (λ_ h=>?_) λ_ h=>?_
  ·refine aR Z (cZ 2 Z Z Z Z) Z<|aR Z (cZ 3 Z Z Z Z) Z<|aR Z (cZ 1 Z Z Z Z) Z<|eO h λdd di h=>lR Z (zBa QP (BI U E F L.1 L.2.1 ai f.1 ar ae bQ K.1 aq dd di) Z (iD [12,13,14,7,6,5,4,3] Z)) Z λdv=>aR Z (iQ Z) Z<|dG Z<|aB Z ?_;refine qV (by exact rfl) (by exact rfl) (λbk=>?_) (λbk=>?_)
   ·have h:=Ff bk h;refine aR Z (cZ 2 Z Z Z Z) Z<|aR Z (cZ 3 Z Z Z Z) Z<|aR Z (cZ 1 Z Z Z Z) Z<|eO h λde dj h=>lR Z (zBa VM (EU U E F L.1 L.2.1 ai f.1 ar ae bQ K.1 aq de dj) Z (iD [12,13,14,7,6,5,4,3] Z)) Z λdw=>aR Z (Fo Z Z) Z<|dG Z<|aB Z ?_;refine AL h Z (λ_ h=>?_) λ_ h=>?_
    ·refine aR Z (cT Z Z Z Z Z) Z<|aR Z (dQ 0 Z Z Z Z Z) Z<|aR Z (dD Z (aA.fact 0 Z) Z) Z<|aR Z (Fo Z Z) Z<|dG Z<|aB Z ?_;refine AL h Z (λ_ h=>?_) λ_ h=>?_
     ·refine aR Z (cT Z Z Z Z Z) Z<|aR Z (dQ 0 Z Z Z Z Z) Z<|cQ h λbL h=>aR Z (bH Z Z (aA.fact 0 Z) Z Z bL) Z<|aR Z (bS Z (aA.fact 0 Z) Z Z bL) Z<|aR Z (fG Z (zBb (aA.fact 0 Z) bL.1 bL.2) Z) Z<|aR Z (Fo Z Z) Z<|dG Z<|aB Z ?_;refine AL h Z (λ_ h=>?_) λ_ h=>?_
      ·refine aR Z (cT Z Z Z Z Z) Z<|aR Z (dQ 0 Z Z Z Z Z) Z<|cQ h λbe h=>aR Z (bH Z Z (aA.fact 0 Z) Z Z be) Z<|aR Z (bS Z (aA.fact 0 Z) Z Z be) Z<|cQ h λc8 h=>aR Z (bI Z Z (zBb (aA.fact 0 Z) be.1 be.2) Z Z c8) Z<|aR Z (cL Z (zBb (aA.fact 0 Z) be.1 be.2) Z Z Z fN c8) Z<|aR Z (Fo Z Z) Z<|dG Z<|aD Z<|aQ ?_;exact cE (decide ((at' (at' bJ.1.1 (1:Int)) (0:Int))=(2:Int))) () h SF .nil (iD [0,1,2,3,4,5,6,7,9,10,11,12,13,14] Z)
      refine aK Z<|aK Z<|aK Z<|aK Z<|aK Z<|aK Z<|aK Z<|dR Z<|aD Z<|aQ ?_;exact cE (false) () h SF .nil (iD [0,1,2,3,4,5,6,7,9,10,11,12,13,14] Z)
     refine aK Z<|aK Z<|aK Z<|aK Z<|aK Z<|aK Z<|dR Z<|aB Z<|aK Z<|aK Z<|aK Z<|aK Z<|aK Z<|aK Z<|aK Z<|dR Z<|aD Z<|aQ ?_;exact cE (false) () h SF .nil (iD [0,1,2,3,4,5,6,7,9,10,11,12,13,14] Z)
    refine aK Z<|aK Z<|aK Z<|aK Z<|dR Z<|aB Z<|aK Z<|aK Z<|aK Z<|aK Z<|aK Z<|aK Z<|dR Z<|aB Z<|aK Z<|aK Z<|aK Z<|aK Z<|aK Z<|aK Z<|aK Z<|dR Z<|aD Z<|aQ ?_;exact cE (false) () h SF .nil (iD [0,1,2,3,4,5,6,7,9,10,11,12,13,14] Z)
   have h:=Cr bk h;refine aK Z<|aK Z<|aK Z<|aK Z<|aK Z<|dR Z<|aB Z<|aK Z<|aK Z<|aK Z<|aK Z<|dR Z<|aB Z<|aK Z<|aK Z<|aK Z<|aK Z<|aK Z<|aK Z<|dR Z<|aB Z<|aK Z<|aK Z<|aK Z<|aK Z<|aK Z<|aK Z<|aK Z<|dR Z<|aD Z<|aQ ?_;exact cE (false) () h SF .nil (iD [0,1,2,3,4,5,6,7,9,10,11,12,13,14] Z)
  refine aK Z<|aK Z<|aK Z<|aK Z<|aK Z<|dR Z<|aB Z<|aK Z<|aK Z<|aK Z<|aK Z<|aK Z<|dR Z<|aB Z<|aK Z<|aK Z<|aK Z<|aK Z<|dR Z<|aB Z<|aK Z<|aK Z<|aK Z<|aK Z<|aK Z<|aK Z<|dR Z<|aB Z<|aK Z<|aK Z<|aK Z<|aK Z<|aK Z<|aK Z<|aK Z<|dR Z<|aD Z<|aQ ?_;exact cE (false) () h SF .nil (iD [0,1,2,3,4,5,6,7,9,10,11,12,13,14] Z)
 intro bc cb h;unfold mD at h;refine aT ?_;cases h;exact iJ Z
def AU  (a:Unit):Option Bool:=
 some (true)
def wD (U:Nat) (c:bV) (e:bV) (a:Int) (b:(Int)->Option Bool):Option Bool:=
 if a<(c.length:Int)then(ck (0<=a∧a<(c.length:Int)) (ck (0<=a∧a<(e.length:Int)) (Option.bind (m_ U (at' c a) (at' e a)) λd=>(if(!d)=true then(some (false))else(b (wI .i64 (a+(1:Int))))))))else(AU  (()))
def uQ (U:Nat) (a:bV) (b:bV):Option Bool:=
 if(a.length:Int)≠(b.length:Int)then(some (false))else(bP (wD U a b) U (0:Int))
theorem QR:bD Tryz.prog 38:=Tryz.call38
theorem EJ (U:Nat) {f:bV} {g:bV} (j:Value)  (p:mR)  (k:Value)  (q:mR) (r:Bool) (h:uQ U f g=some r):
  bG Tryz.prog 38 #[j,k] [S2 aP j p f,S2 aP k q g] (λx:Unit=>vB (r)) (λx l=>l) (λ_ l=>l):=by
 refine bG.of Tryz.func38 Z Tryz.ntmps38 Z λc=>?_;refine aX<|aD Z<|aQ<|aN<|aX<|aB Z<|aC (dD Z (aA.fact 0 Z) Z) Z<|aB Z<|aC (dD Z (aA.fact 1 Z) Z) Z<|kA Z<|aQ ?_;refine eJ h Z (λh=>?_) λh=>?_
 ·refine aX<|aD Z<|aQ<|aT<|aJ ?_;cases h;exact iJ Z
 refine cK<|aN<|eG (λe=>AU  e=some r) (λe n=>[]) (λe n=>[]) ?_ ?_
 ·refine aX<|aD Z<|aQ<|aW<|fJ (wD U f g) (λd o=>[(0,j),(1,k),(5,vI (d))]) (λd o=>[]) (0:Int) () h SF (a_.refl _) ?_;intro t d o h;refine aN<|aX<|aB Z<|aB Z<|aC (dD Z (aA.fact 0 Z) Z) Z<|cX Z<|aQ ?_;refine eJ h Z (λh=>?_) λh=>?_
  ·refine cK<|aN<|aW<|aN ?_;refine JR.start [0,0,3,7,0,0,48,112,255,511] 8 mixedOrders (by decide +kernel) ?_;refine zBc (by exact rfl) ?_;refine aV Z<|aV Z<|cQ h λa h=>bE Z .nil (fW 0 Z) (bH Z Z (aA.fact 0 Z) Z Z a) aO.z<|bE Z .nil (fW 0 Z) (bS Z (aA.fact 0 Z) Z Z a) aO.z<|aV Z<|aV Z<|cQ h λb h=>bE Z .nil (fW 1 Z) (bH Z Z (aA.fact 0 Z) Z Z b) aO.z<|bE Z .nil (fW 1 Z) (bS Z (aA.fact 0 Z) Z Z b) aO.z<|bM 8 Z Z<|eO h λi m h=>aM (zBa QU (AG U ((at' p d).1) ((at' q d).1) i m) Z (aI.cons (zBb (aA.fact 0 Z) a.1 a.2) (aI.cons (zBb (aA.fact 1 Z) b.1 b.2) .nil))) Z λs=>aC (iQ Z) Z<|aQ ?_;refine qS h Z (λ_ h=>?_) λ_ h=>?_
   ·refine aX<|aD Z<|aQ<|aT<|bF<|aJ<|aJ<|bF<|aJ ?_;cases h;exact iJ Z
   refine eC<|lJ<|aU<|aB Z<|cW Z<|aD Z<|aQ ?_;exact vT (wI .i64 (d+(1:Int))) () h SF Z
  refine fF ?_;exact gJ () (()) h SF Z
 intro e n h;unfold AU at h;refine aX<|aD Z<|aQ<|aT ?_;cases h;exact iJ Z
def Bc  (a:Unit):Option Bool:=
 some (true)
def Bd (b:Int) (a:(Int)->Option Bool) (c:Unit):Option Bool:=
 a (wI .i64 (b+(1:Int)))
def wL (U:Nat) (e:gX) (f:gX) (a:Int) (c:(Int)->Option Bool) (b:Int) (d:(Int)->Option Bool):Option Bool:=
 ck (0<=a∧a<(e.2.2.length:Int)) (if b<((at' e.2.2 a).length:Int)then(ck (0<=a∧a<(e.2.2.length:Int)) (ck (0<=b∧b<((at' e.2.2 a).length:Int)) (ck (0<=a∧a<(f.2.2.length:Int)) (ck (0<=b∧b<((at' f.2.2 a).length:Int)) (Option.bind (uQ U (at' (at' e.2.2 a) b) (at' (at' f.2.2 a) b)) λg=>(if(!g)=true then(some (false))else(d (wI .i64 (b+(1:Int))))))))))else(Bd a c (())))
def pH (U:Nat) (c:gX) (d:gX) (a:Int) (b:(Int)->Option Bool):Option Bool:=
 if a<(c.2.2.length:Int)then(ck (0<=a∧a<(c.2.2.length:Int)) (ck (0<=a∧a<(d.2.2.length:Int)) (if((at' c.2.2 a).length:Int)≠((at' d.2.2 a).length:Int)then(some (false))else(bP (wL U c d a b) U (0:Int)))))else(Bc  (()))
def Bb (U:Nat) (a:gX) (b:gX) (c:Unit):Option Bool:=
 bP (pH U a b) U (0:Int)
def wM (U:Nat) (c:gX) (d:gX) (a:Int) (b:(Int)->Option Bool):Option Bool:=
 if a<(c.2.1.length:Int)then(ck (0<=a∧a<(c.2.1.length:Int)) (ck (0<=a∧a<(d.2.1.length:Int)) (Option.bind (uQ U (at' c.2.1 a) (at' d.2.1 a)) λe=>(if(!e)=true then(some (false))else(b (wI .i64 (a+(1:Int))))))))else(Bb U c d (()))
def wK (U:Nat) (b:gX) (c:gX) (a:Bool):Option Bool:=
 if a=true then(some (false))else(bP (wM U b c) U (0:Int))
def rC (U:Nat) (a:gX) (b:gX):Option Bool:=
 Option.bind (uQ U a.1 b.1) λc=>(if(!c)=true then(wK U a b (true))else(if(a.2.1.length:Int)≠(b.2.1.length:Int)then(wK U a b (true))else(wK U a b (decide ((a.2.2.length:Int)≠(b.2.2.length:Int))))))
theorem abG:bD Tryz.prog 17:=Tryz.call17
theorem OA (U:Nat) {j:gX} {k:gX} (R:Value)  (z1:mR)  (W:Value)  (z3:BQ)  (X:Value)  (z5:BP)  (S:Value)  (z7:mR)  (Y:Value)  (z9:BQ)  (w:Value)  (B:BP) (r:Bool) (h:rC U j k=some r):
  bG Tryz.prog 17 #[Value.agg #[R,W,X],Value.agg #[S,Y,w]] [S2 aP R z1 j.1,S3 aP W z3 j.2.1,S4 aP X z5 j.2.2,S2 aP S z7 k.1,S3 aP Y z9 k.2.1,S4 aP w B k.2.2] (λx:Unit=>vB (r)) (λx l=>l) (λ_ l=>l):=by
 refine bG.of Tryz.func17 Z Tryz.ntmps17 Z λc=>?_;refine aX<|aM (aS.box (cs:=[R,W,X]) Z Z) Z λy=>let i:=bO y [R,W,X] 43;aM (aS.box (cs:=[S,Y,w]) Z Z) Z λA=>let g:=bO A [S,Y,w] 43;aD Z<|aQ<|aN<|aN<|eG (λC=>wK U j k C=some r) (λC b5=>[(2,vP y),(3,vP A),(31,vB (C))]) (λC b5=>[g,i]) ?_ ?_
 ·refine aU<|bX Z<|dU 1 Z<|bX Z<|dU 0 Z<|eO h λac af h=>aM (zBa QR (EJ U R z1 S z7 ac af) Z (iD [0,3] Z)) Z λak=>aC (iQ Z) Z<|aB Z ?_;refine qV (by exact rfl) (by exact rfl) (λm=>?_) (λm=>?_)
  ·have h:=Ff m h;refine aK Z<|aK Z<|aK Z<|aK Z<|aK Z<|aK Z<|aK Z<|dG Z<|aB Z<|aK Z<|aK Z<|aK Z<|aK Z<|aK Z<|aK Z<|aK Z<|dG Z<|aQ ?_;exact gJ (true) () h SF Z
  have h:=Cr m h;refine aR Z (cT Z Z Z Z Z) Z<|aR Z (dQ 1 Z Z Z Z Z) Z<|aR Z (dD Z (aA.fact 1 Z) Z) Z<|aR Z (cT Z Z Z Z Z) Z<|aR Z (dQ 0 Z Z Z Z Z) Z<|aR Z (dD Z (aA.fact 4 Z) Z) Z<|aR Z (xQ Z Z) Z<|dR Z<|aB Z ?_;refine AL h Z (λ_ h=>?_) λ_ h=>?_
  ·refine aK Z<|aK Z<|aK Z<|aK Z<|aK Z<|aK Z<|aK Z<|dG Z<|aQ ?_;exact gJ (true) () h SF Z
  refine aR Z (cT Z Z Z Z Z) Z<|aR Z (dQ 1 Z Z Z Z Z) Z<|aR Z (dD Z (aA.fact 2 Z) Z) Z<|aR Z (cT Z Z Z Z Z) Z<|aR Z (dQ 0 Z Z Z Z Z) Z<|aR Z (dD Z (aA.fact 5 Z) Z) Z<|aR Z (xQ Z Z) Z<|dR Z<|aQ ?_;exact gJ (decide ((j.2.2.length:Int)≠(k.2.2.length:Int))) () h SF Z
 intro C b5 h;refine qS h Z (λ_ h=>?_) λ_ h=>?_
 ·refine aX<|aD Z<|aQ<|aT<|aJ ?_;cases h;exact lY Z
 refine cK<|aN<|eG (λT=>Bb U j k T=some r) (λT b8=>[(2,vP y),(3,vP A)]) (λT b8=>[g,i]) ?_ ?_
 ·refine aX<|aD Z<|aQ<|aW<|fJ (wM U j k) (λd H=>[(2,vP y),(3,vP A),(5,vI (d))]) (λd H=>[g,i]) (0:Int) () h SF (a_.refl _) ?_;intro ah d H h;refine aN<|aX<|aB Z<|bX Z<|dU 1 Z<|aC (dD Z (aA.fact 1 Z) Z) Z<|cX Z<|aQ ?_;refine eJ h Z (λh=>?_) λh=>?_
  ·refine cK<|aN<|aW<|aN ?_;refine JR.start [0,1,0,7,15,0,32,0,224,480,1023,2047] 10 mixedOrders (by decide +kernel) ?_;refine zBc (by exact rfl) ?_;refine cB Z<|eI 1 Z<|aV Z<|cQ h λu h=>aY (cG (aA.fact 1 Z)) λO=>e_ Z (cJ Z Z O Z Z u)<|bE Z .nil (fW 1 Z) (c_ Z (aA.fact 0 Z) Z Z u) aO.z<|cB Z<|eI 0 Z<|aV Z<|cQ h λv h=>aY (cG (aA.fact 4 Z)) λP=>e_ Z (cJ Z Z P Z Z v)<|bE Z .nil (fW 4 Z) (c_ Z (aA.fact 0 Z) Z Z v) aO.z<|bM 10 Z Z<|eO h λab ae h=>aM (zBa QR (EJ U ((at' z3 d).1) ((at' z3 d).2) ((at' z9 d).1) ((at' z9 d).2) ab ae) Z (aI.cons (bR (aA.fact 1 Z) u.1 u.2) (aI.cons (bR (aA.fact 4 Z) v.1 v.2) .nil))) Z λaj=>?_;refine aC (iQ Z) Z<|aQ ?_;refine qS h Z (λ_ h=>?_) λ_ h=>?_
   ·refine aX<|aD Z<|aQ<|aT<|bF<|aJ<|aJ<|bF<|aJ ?_;cases h;exact lY Z
   refine eC<|lJ<|aU<|aB Z<|cW Z<|aD Z<|aQ ?_;exact vT (wI .i64 (d+(1:Int))) () h SF Z
  refine fF ?_;exact gJ () (()) h SF Z
 intro T b8 h;unfold Bb at h;refine aN<|eG (λV=>Bc  V=some r) (λV D=>[]) (λV D=>[]) ?_ ?_
 ·refine aX<|aD Z<|aQ<|aW<|fJ (pH U j k) (λa E=>[(2,vP y),(3,vP A),(6,vI (a))]) (λa E=>[g,i]) (0:Int) () h SF (a_.refl _) ?_;intro Q a E h;refine aN<|aX<|aB Z<|bX Z<|dU 1 Z<|aC (dD Z (aA.fact 2 Z) Z) Z<|cX Z<|aQ ?_;refine eJ h Z (λh=>?_) λh=>?_
  ·refine cK<|aN<|eG (λn=>Bd a (bP (pH U j k) Q) n=some r) (λn F=>[(2,vP y),(3,vP A),(6,vI (a))]) (λn F=>[g,i]) ?_ ?_
   ·refine aW<|aN<|aN ?_;refine JR.start [0,1,0,7,15,31,0,64,0,448,960,1984,4095] 12 mixedOrders (by decide +kernel) ?_;refine zBc (by exact rfl) ?_;refine cB Z<|eI 1 Z<|aV Z<|cQ h λo h=>aY (cG (aA.fact 2 Z)) λI=>e_ Z (cJ Z Z I Z Z o)<|bE Z .nil (fW 2 Z) (c_ Z (aA.fact 0 Z) Z Z o) aO.z ?_;refine bE Z .nil (fW 2 Z) (dD Z (bR (aA.fact 0 Z) o.1 o.2) Z) aO.z ?_;refine cB Z<|eI 0 Z<|aV Z<|cQ h λp h=>aY (cG (aA.fact 5 Z)) λJ=>e_ Z (cJ Z Z J Z Z p)<|bE Z .nil (fW 5 Z) (c_ Z (aA.fact 0 Z) Z Z p) aO.z ?_;refine bE Z .nil (fW 5 Z) (dD Z (bR (aA.fact 0 Z) p.1 p.2) Z) aO.z ?_;refine bM 12 Z Z<|kA Z<|aQ ?_;refine eJ h Z (λh=>?_) λh=>?_
    ·refine aX<|aD Z<|aQ<|aT<|aJ<|bF<|aJ<|aJ<|bF<|aJ ?_;cases h;exact lY Z
    refine cK<|aX<|aD Z<|aQ<|aW<|fJ (wL U j k a (bP (pH U j k) Q)) (λb G=>[(2,vP y),(3,vP A),(6,vI (a)),(7,vI (b))]) (λb G=>[g,i]) (0:Int) () h SF (a_.refl _) ?_;intro ag b G h;refine aN<|aX<|aB Z<|bX Z<|dU 1 Z<|aB Z<|cQ h λq h=>aC (bH Z Z (aA.fact 2 Z) Z Z q) Z<|aC (c_ Z (aA.fact 2 Z) Z Z q) Z ?_;refine aC (dD Z (bR (aA.fact 2 Z) q.1 q.2) Z) Z ?_;refine cX Z<|aQ ?_;refine eJ h Z (λh=>?_) λh=>?_
    ·refine cK<|aN<|aW<|aN ?_;refine JR.start [0,1,0,7,15,0,63,127,0,256,0,1792,3840,0,16128,32512,65535,131071] 16 mixedOrders (by decide +kernel) ?_;refine zBc (by exact rfl) ?_;refine cB Z<|eI 1 Z<|aV Z<|cQ h λe h=>aY (cG (aA.fact 2 Z)) λK=>e_ Z (cJ Z Z K Z Z e)<|bE Z .nil (fW 2 Z) (c_ Z (aA.fact 0 Z) Z Z e) aO.z<|aV Z<|cQ h λs h=>aY (cG (bR (aA.fact 2 Z) e.1 e.2)) λL=>?_;refine e_ Z (cJ Z Z L Z Z s) ?_;refine bE Z .nil (fW 2 Z) (c_ Z (bR (aA.fact 0 Z) e.1 e.2) Z Z s) aO.z ?_;refine cB Z<|eI 0 Z<|aV Z<|cQ h λf h=>aY (cG (aA.fact 5 Z)) λM=>e_ Z (cJ Z Z M Z Z f)<|bE Z .nil (fW 5 Z) (c_ Z (aA.fact 0 Z) Z Z f) aO.z<|aV Z<|cQ h λt h=>aY (cG (bR (aA.fact 5 Z) f.1 f.2)) λN=>?_;refine e_ Z (cJ Z Z N Z Z t) ?_;refine bE Z .nil (fW 5 Z) (c_ Z (bR (aA.fact 0 Z) f.1 f.2) Z Z t) aO.z ?_;refine bM 16 Z Z<|eO h λaa ad h=>aM (zBa QR (EJ U ((at' ((at' z5 a).2) b).1) ((at' ((at' z5 a).2) b).2) ((at' ((at' B a).2) b).1) ((at' ((at' B a).2) b).2) aa ad) Z (aI.cons (bR (bR (aA.fact 2 Z) e.1 e.2) s.1 s.2) (aI.cons (bR (bR (aA.fact 5 Z) f.1 f.2) t.1 t.2) .nil))) Z λai=>?_;refine aC (iQ Z) Z<|aQ ?_;refine qS h Z (λ_ h=>?_) λ_ h=>?_
     ·refine aX<|aD Z<|aQ<|aT<|bF<|aJ<|aJ<|bF<|bF<|aJ<|aJ<|bF<|aJ ?_;cases h;exact lY Z
     refine eC<|lJ<|aU<|aB Z<|cW Z<|aD Z<|aQ ?_;exact vT (wI .i64 (b+(1:Int))) () h SF Z
    refine sG<|gR<|gR<|Af<|lJ ?_;exact gJ () (()) h SF Z
   intro n F h;unfold Bd at h;refine aU<|aB Z<|cW Z<|aD Z<|aQ ?_;exact vT (wI .i64 (a+(1:Int))) () h SF Z
  refine fF ?_;exact cE () (()) h SF .nil (aI.refl _ _)
 intro V D h;unfold Bc at h;refine aX<|aD Z<|aQ<|aT ?_;cases h;exact iJ Z
end Go.Proofs.YtflciafboapaaaaGreat
namespace Go.Proofs.YtflciafboapaaaaGreat
open Go Go.Sx
theorem abh {g:GR} (a:light g) (h:jV 1000 g=some true):VG g:=Classical.byContradiction λq=>by
 have:=(JA g a).2 q;rw[h]at this;cases this
def gK:GR:=([0,1],[[(1,1)],[(0,1)]])
theorem ZM:lM 1000 (2,([]:cC),([]:cC),([]:cC),false,false) 2=some gK:=by kernel_rfl
theorem adz:VG gK:=abh (by first|decide|(unfold light gK;decide)) (by kernel_rfl)
def afk:List Fe:=aeh (ByteArray.mk #[100]) (ByteArray.mk #[112]) 1
def Pj (z:List pR):Ee:=(ByteArray.mk #[98,102,115],afk,z)
def yK:xX:=([[0,-1],[1,0]],[[[1,0]],[[0,-1]]],[[[]],[[]]])
def yL:xX:=([[0,-1],[1,0]],[[[1,0]],[[2,-1]]],[[[]],[[]]])
theorem Pt:vX 1000=some true:=by
 have c:=adz;have a:=aej c (ByteArray.mk #[100]) (ByteArray.mk #[112]) (k:=1) (by decide) (by decide);unfold vX;rw[bN ZM,bN (show Es 1000=some Ho from rfl),bN (Xq 1000)];refine Sm λz d=> ?_;have d:(Pj z).2.2.map pK=Aw RBf:=d;have a:gV gK (Pj z).2.1:=a;have e:kF (Pj z).2.1.length RBf=true:=aat;have f:mG 1000 (Pj z) gK [[0,-1],[1,0]]=some 0:=by
  rw[Wd c a [[0,-1],[1,0]]];kernel_rfl
 refine(bN (show mG 1000 _ _ [[0,-1],[1,0]]=some 0 from f)).trans ?_
 try dsimp only
 rw[if_neg (by decide)];refine(bN (NK [[0,-1],[1,0]] (by decide) (by decide))).trans ?_
 try dsimp only
 rw[cO (by decide),cO (by decide)];refine Eq.trans (b:=tH 1000 gK (ByteArray.mk #[98,102,115],Hr,Ew) z (0,yK)) (by kernel_rfl) ?_;unfold tH;have g:iK 1000 (Pj z) gK yK=some true:=by
  rw[Hv c a d e yK];kernel_rfl
 have h:iK 1000 (Pj z) gK yL=some false:=by
  rw[Hv c a d e yL];kernel_rfl
 have i:k_ 1000 (Pj z) gK yL=some 2:=by
  rw[KJ c a d e yL];kernel_rfl
 have j:uR 1000 (Pj z) gK 1 yL (1,1,0)=some (([[0,-1],[2,0]],[[[1,0]],[[2,-1]]],[[[]],[[]]]),0):=by
  rw[aaz c a d e 1 yL (1,1,0)];kernel_rfl
 rw[if_neg (by decide)];refine(bN (show iK 1000 _ _ _=some true from g)).trans ?_
 try dsimp only
 rw[if_neg (by decide),if_neg (by decide),cO (by decide)];unfold pZ;rw[if_neg (by decide),cO (by decide),cO (by decide)];refine(bN (show uR 1000 _ _ 1 _ _=_ from j)).trans ?_
 try dsimp only
 rw[if_pos Z];refine(bN (show iK 1000 _ _ _=some false from h)).trans ?_
 try dsimp only
 rw[if_pos (by decide)];refine(bN (show k_ 1000 _ _ _=some 2 from i)).trans ?_;rfl
theorem Oi (c:bV) (h:c.length<900) (d:∀v:Nat,v<c.length->(at' c (v:Int)).length<900):uQ 1000 c c=some true:=by
 unfold uQ;rw[if_neg (by simp)];refine dO (step:=wD 1000 c c) (K:=some true) c.length (λk=>(k:Int)) (λk a b=> ?_) (λa=> ?_) 1000 (by omega)
 ·unfold wD;rw[if_pos (by omega),cO (by omega),cO (by omega),bN (XF _ _ (d k b)),zA4 Z,if_neg (by decide),dJ (by omega)]
 ·unfold wD AU;rw[if_neg (by omega)]
theorem adY {g:GR} {d:List Fe} {e:Nat} {y:xX} (l:VG g) (h:VY g d e y) (t:e<=8) (u:d.length<=20):rC 1000 y y=some true:=by
 have n:=l.n24;have A:=h.sh.c;have z:=h.sh.a.len;have B:=h.sh.w.len;unfold rC;rw[bN (Oi y.1 (by omega) λv b=>by rw[h.rowc (by omega)];omega),if_neg (by decide),if_neg (by simp),zA3 (by simp)];unfold wK;rw[if_neg (by decide)];refine dO (step:=wM 1000 y y) (K:=some true) y.2.1.length (λk=>(k:Int)) (λk f r=> ?_) (λf=> ?_) 1000 (by omega)
 ·have b:k<g.2.length:=by omega
  have o:=(l.node k b).deg;have C:=h.sh.a.row k b;unfold wM;rw[if_pos (by omega),cO (by omega),cO (by omega),bN (Oi (at' y.2.1 (k:Int)) (by omega) λi p=>by have:=h.rowa l b (i:=i) (by omega);show(nZ y.2.1 k i).length<900;omega),if_neg (by decide),dJ (by omega)]
 ·unfold wM;rw[if_neg (by omega)];unfold Bb;refine dO (step:=pH 1000 y y) (K:=some true) y.2.2.length (λk=>(k:Int)) (λk f r=> ?_) (λf=> ?_) 1000 (by omega)
  ·have b:k<g.2.length:=by omega
   have o:=(l.node k b).deg;have s:=h.sh.w.row k b;unfold pH;rw[if_pos (by omega),cO (by omega),cO (by omega),if_neg (by simp)];refine dO (step:=wL 1000 y y (k:Int) f) (at' y.2.2 (k:Int)).length (λi=>(i:Int)) (λi m p=> ?_) (λm=> ?_) 1000 (by omega)
   ·have x:=h.cp k i b (by omega);unfold wL;rw[cO (by omega),if_pos (by omega),cO (by omega),cO (by omega),cO (by omega),cO (by omega),bN (Oi (at' (at' y.2.2 (k:Int)) (i:Int)) (by show(nZ y.2.2 k i).length<900;omega) λj q=>by have:=h.roww b (i:=i) (k:=j) (by omega) q;show(at' (nZ y.2.2 k i) (j:Int)).length<900;omega),if_neg (by decide),dJ (by omega)]
   ·unfold wL Bd;rw[cO (by omega),if_neg (by omega),dJ (by omega)]
  ·unfold pH Bc;rw[if_neg (by omega)]
theorem XG:rC 1000 EM EM=some true:=by kernel_rfl
section
variable {g:GR} {p:Ee} {R:List RL} {cap:Int} {y:xX} {l:List (Int×Int×Int)}
theorem UK (a:VG g) (b:gV g p.2.1) (c:kF p.2.1.length R=true):rC 1000 (PS g p.2.1 (LV (eT p g) p.2.1 R) cap y l).1 (PS g p.2.1 (LV (eT p g) p.2.1 R) cap y l).1=some true:=by
 unfold PS;split
 ·rename_i f;split
  ·rename_i e;split
   ·rename_i d;obtain⟨_,h⟩:=EL.1 e;have:=VY.perfs a h (Rt (R:=R) b c) l l.length (zAg _) (oS.1 d);rw[zB4]at this;exact adY a this (by omega) b.len
   ·exact XG
  ·exact XG
 ·exact XG
end
def gS:GR:=([0,1,2],[[(1,1)],[(0,1),(2,1)],[(1,1)]])
theorem ZN:lM 1000 (3,[0,1],([]:List Int),([]:List Int),false,false) 3=some gS:=by kernel_rfl
theorem adB:VG gS:=abh (by first|decide|(unfold light gS;decide)) (by kernel_rfl)
def ZA (z:List pR):Ee:=(ByteArray.mk #[99,111,108,111,117,114,105,110,103],Me,z)
end Go.Proofs.YtflciafboapaaaaGreat
namespace Go.Proofs.YtflciafboapaaaaGreat
open Go.Sx
def uP (U:Nat)  : Option (ByteArray):=
 some (ByteArray.mk #[112,114,111,103,114,97,109,32,99,111,108,111,117,114,105,110,103,59,10,118,97,114,32,99,32,58,32,48,32,46,46,32,110,59,10,114,117,108,101,32,102,105,120,58,32,115,111,109,101,40,113,46,99,32,61,61,32,99,41,32,45,62,32,99,32,58,61,32,109,101,120,40,113,46,99,41,59,10])
theorem abI:bD Tryz.prog 25:=Tryz.call25
theorem Jg (U:Nat)  (r:ByteArray) (h:uP U  = some r):
  bG Tryz.prog 25 #[] [] (λx:Unit=>vS (r)) (λx l=>l) (λ_ l=>l):=by
 refine bG.of Tryz.func25 Z Tryz.ntmps25 Z λc=>?_;unfold uP at h;refine aX<|aD Z<|aQ<|aX<|aD Z<|aQ<|aT ?_;cases h;exact iJ Z
noncomputable def gE  (a:Bool):Option Bool:=
 some (a)
noncomputable def gZ (U:Nat) (c:gX) (q:oC) (g:Int) (r:Bool):Option Bool:=
 if r=true then(Option.bind (vX U) λs=>(some (s)))else(Option.bind (lM U (((3:Int),([(0:Int),(1:Int)]),([]:cC),([]:cC),false,false)) (3:Int)) λb=>(Option.bind (uP U) λh=>(Option.bind (lA U h) λa=>T_ a.2.2 λd=>(Option.bind (tP U ((a.1,a.2.1,d)) ((b.1,b.2)) g ((c.1,c.2.1,c.2.2)) q) λe=>(Option.bind (Br U ((a.1,a.2.1,d)) ((b.1,b.2)) g ((c.1,c.2.1,c.2.2)) q) λf=>(Option.bind (vX U) λi=>(if i=true then(if e.2=f.2 then(Option.bind (rC U ((e.1.1,e.1.2.1,e.1.2.2)) ((f.1.1,f.1.2.1,f.1.2.2))) λj=>(if j=true then(Option.bind (jX U ((a.1,a.2.1,d)) ((b.1,b.2)) g ((c.1,c.2.1,c.2.2))) λk=>(Option.bind (jW U ((a.1,a.2.1,d)) ((b.1,b.2)) g ((c.1,c.2.1,c.2.2))) λl=>(if(k==l)=true then(Option.bind (k_ U ((a.1,a.2.1,d)) ((b.1,b.2)) ((c.1,c.2.1,c.2.2))) λm=>(Option.bind (mP U ((a.1,a.2.1,d)) ((b.1,b.2)) ((c.1,c.2.1,c.2.2))) λn=>(if m=n then(Option.bind (iK U ((a.1,a.2.1,d)) ((b.1,b.2)) ((c.1,c.2.1,c.2.2))) λo=>(Option.bind (rX U ((a.1,a.2.1,d)) ((b.1,b.2)) ((c.1,c.2.1,c.2.2))) λp=>(gE  ((o==p)))))else(gE  (false)))))else(gE  (false)))))else(gE  (false))))else(gE  (false)))else(gE  (false)))))))))
noncomputable def tJ (U:Nat) (a:gX) (b:oC) (c:Int):Option Bool:=
 if(10:Int)<(a.1.length:Int)then(gZ U a b c (true))else(if(10:Int)<(a.2.1.length:Int)then(gZ U a b c (true))else(if(10:Int)<(a.2.2.length:Int)then(gZ U a b c (true))else(gZ U a b c (decide ((30:Int)<(b.length:Int))))))
theorem FN (U:Nat) {p0:gX} {p1:oC} {p2:Int} (m:Value)  (E:mR)  (n:Value)  (F:BQ)  (o:Value)  (G:BP)  (K:Value) (r:Bool) (h:tJ U p0 p1 p2=some r):
  bG Tryz.prog 4 #[Value.agg #[m,n,o],K,vI (p2)] [S2 aP m E p0.1,S3 aP n F p0.2.1,S4 aP o G p0.2.2,Sl dV K p1] (λx:Unit=>vB (r)) (λx l=>l) (λ_ l=>l):=by
 refine bG.of Tryz.func4 Z Tryz.ntmps4 Z λc=>?_;refine aX<|aM (aS.box (cs:=[m,n,o]) Z Z) Z λb1=>aD Z<|aQ<|aN<|aN<|eG (λL=>gZ U p0 p1 p2 L=some r) (λL b4=>[(1,K),(2,vI (p2)),(3,vP b1),(33,vB (L))]) (λL b4=>[bO b1 [m,n,o] 43]) ?_ ?_
 ·refine aU<|bX Z<|dU 0 Z<|aC (dD Z (aA.fact 0 Z) Z) Z<|aC (sL Z Z) Z<|aB Z ?_;refine AL h Z (λ_ h=>?_) λ_ h=>?_
  ·refine aK Z<|aK Z<|aK Z<|aK Z<|dG Z<|aB Z<|aK Z<|aK Z<|aK Z<|aK Z<|dG Z<|aB Z<|aK Z<|aK Z<|aK Z<|dG Z<|aQ ?_;exact gJ (true) () h SF Z
  refine aR Z (cT Z Z Z Z Z) Z<|aR Z (dQ 0 Z Z Z Z Z) Z<|aR Z (dD Z (aA.fact 1 Z) Z) Z<|aR Z (sL Z Z) Z<|dR Z<|aB Z ?_;refine AL h Z (λ_ h=>?_) λ_ h=>?_
  ·refine aK Z<|aK Z<|aK Z<|aK Z<|dG Z<|aB Z<|aK Z<|aK Z<|aK Z<|dG Z<|aQ ?_;exact gJ (true) () h SF Z
  refine aR Z (cT Z Z Z Z Z) Z<|aR Z (dQ 0 Z Z Z Z Z) Z<|aR Z (dD Z (aA.fact 2 Z) Z) Z<|aR Z (sL Z Z) Z<|dR Z<|aB Z ?_;refine AL h Z (λ_ h=>?_) λ_ h=>?_
  ·refine aK Z<|aK Z<|aK Z<|dG Z<|aQ ?_;exact gJ (true) () h SF Z
  refine dH Z<|aR Z (fG Z (aA.fact 3 Z) Z) Z<|aR Z (sL Z Z) Z<|dR Z<|aQ ?_;exact gJ (decide ((30:Int)<(p1.length:Int))) () h SF Z
 intro L b4 h;refine qS h Z (λ_ h=>?_) λ_ h=>?_
 ·refine aX<|eO h λr6 w7 h=>aM (zBa VL (GU U  r6 w7) Z .nil) Z λx8=>aD Z<|aQ<|aT<|aJ ?_;cases h;exact lY Z
 refine cK<|aX<|aM (dK (e:=iF) ([(0:Int),(1:Int)]) [(0,vI (0:Int)),(1,vI (1:Int))] Z Z Z Z (Fx (vI (0:Int)) (vI (1:Int)) Z Z) Z Z Z) Z λu9=>bB (Know.one ((dM (aA.res 0 Z) iH))) λM=>?_;refine aC (Ei (r:=Value.agg #[vI (3:Int),u9,cY,cY,vB (false),vB (false)]) Z Z (by intro w;simp[Instr.build,Instr.fill,fY,fD,eL,fZ,f_,fE,h_,eR M])) Z<|eO h λC am h=>aM (zBa QQ (xN U u9 (cY) (cY) C am) Z (aI.cons (dM (aA.res 0 Z) iH) (aI.cons aA.nil (aI.cons aA.nil .nil)))) Z λa=>let k:=(List.zip a.2.2 C.2);aM (aS.alloc (cs:=[cY,cY]) Z Z) Z λad=>bB (Know.one ((dM (aA.res 1 Z) iH))) λN=>bB (Know.one (aA.sl (eV (i:=2) (j:=3) Z Z cF))) λO=>cA 0 (vs:=[a.1,a.2.1]) Z Z (eZ N (eZ O Z)) Z Z Z<|aQ<|aX<|eO h λaf an h=>aM (zBa abI (Jg U  af an) Z .nil) Z λa7=>eO h λD ao h=>aM (aS.call SG (EW U D ao) Z .nil (λ_ _=>rfl) (λ_ _=>rfl)) Z fun⟨b,d,ac,Y⟩=>?_
 have h:=Mq h ac Y;refine aM (aS.alloc (cs:=[vS (ByteArray.mk #[]),cY,cY]) Z Z) Z λae=>bB (Know.one ((aA.fact 0 Z))) λP=>bB (Know.one ((aA.fact 1 Z))) λQ=>cA 0 (vs:=[vS (D.1),b,d]) Z Z (eZ Z (eZ P (eZ Q Z))) Z Z Z<|aQ<|aX<|cM 0 Z<|cM 1 Z<|aB Z<|cM 6 Z<|aB Z<|cD (gF 2 Z (dM (aA.res 0 Z) iH))<|cD (uJ [Ar aE a.2.1 a.2.2,gN bY a.2.2 C.2] [bO ae [vS (D.1),b,d] 36,bO ad [a.1,a.2.1] 31,Ar iF u9 ([(0:Int),(1:Int)]),bO b1 [m,n,o] 43] (a_.ix [2,3,0,1,4,5] Z Z) (eV (i:=0) (j:=1) Z Z cF))<|eO h λH ap h=>aM (aS.call VO (JD U b d a.1 a.2.1 k m E n F o G K H ap) Z (iN.cons (zA1 (i:=2) Z) (iN.cons (zA1 (i:=3) Z) (iN.cons (zA1 (i:=4) Z) (iN.cons (zA1 (i:=1) Z) (iN.cons (zA1 (i:=0) Z) (iN.cons (zA1 (i:=5) Z) (iN.cons (zA1 (i:=6) Z) (iN.cons (zA1 (i:=7) Z) (fW 8 Z))))))))) (λ_ _=>rfl) (λ_ _=>rfl)) Z λf=>let s:=f.2.2.2;aB Z<|iG Z<|iG Z<|aM (aS.alloc (cs:=[cY,cY,cY]) Z Z) Z λa5=>bB (Know.one (aA.sl (aA.fact 0 Z))) λR=>bB (Know.one (aA.sl (aA.fact 1 Z))) λS=>bB (Know.one (aA.sl (aA.fact 2 Z))) λT=>cA 0 (vs:=[f.1,f.2.2.1,f.2.2.2.2.1]) Z Z (eZ R (eZ S (eZ T Z))) Z Z Z<|aD Z<|aQ<|aX<|cM 1 Z<|cM 2 Z<|aB Z<|cM 4 Z<|aB Z<|eO h λI aq h=>aM (aS.call abJ (P_ U b d a.1 a.2.1 k m E n F o G K I aq) Z (iN.cons (zA1 (i:=5) Z) (iN.cons (zA1 (i:=6) Z) (iN.cons (zA1 (i:=7) Z) (iN.cons (zA1 (i:=4) Z) (iN.cons (zA1 (i:=3) Z) (iN.cons (zA1 (i:=8) Z) (iN.cons (zA1 (i:=9) Z) (iN.cons (zA1 (i:=10) Z) (fW 11 Z))))))))) (λ_ _=>rfl) (λ_ _=>rfl)) Z λg=>let q:=g.2.2.2;aB Z<|iG Z<|iG Z<|aM (aS.alloc (cs:=[cY,cY,cY]) Z Z) Z λa6=>bB (Know.one (aA.sl (aA.fact 0 Z))) λV=>bB (Know.one (aA.sl (aA.fact 1 Z))) λW=>bB (Know.one (aA.sl (aA.fact 2 Z))) λX=>cA 0 (vs:=[g.1,g.2.2.1,g.2.2.2.2.1]) Z Z (eZ V (eZ W (eZ X Z))) Z Z Z<|aD Z<|aQ<|aN<|lC (B:=Unit) (λp=>gE  p=some r) (λp J=>[(6,vB (p))]) (λp J=>[]) (λp J=>[S2 aP g.1 g.2.1 I.1.1,S3 aP g.2.2.1 q.1 I.1.2.1,S4 aP q.2.1 q.2.2 I.1.2.2,S2 aP f.1 f.2.1 H.1.1,S3 aP f.2.2.1 s.1 H.1.2.1,S4 aP s.2.1 s.2.2 H.1.2.2,S2 bA a.2.1 k C.2,Sl aP a.1 C.1,Sl aG b D.2.1,Sl aF d ac,PF (Value.agg #[vS D.1,b,d]),S2 aP m E p0.1,S3 aP n F p0.2.1,S4 aP o G p0.2.2,Sl dV K p1]) ?_ ?_
 ·refine JR.start [0,1,3,3,15,31,63,127,127,511,1023,2047,4095,4095,4095,4095,65535,4095,4095,4095,4095,2097151,4194303,8388607,16777215,33554431,33554431,33554431,268435455,33554431,33554431,33554431,4294967295,8589934591,17179869183,34359738367,68719476735,68719476735,68719476735,549755813887,68719476735,68719476735,68719476735,8796093022207,17592186044415,35184372088831,70368744177663] 43 mixedOrders (by decide +kernel) ?_;refine zBc (by exact rfl)<|eO h λag ar h=>zBd Z Z Z (zBa VL (GU U  ag ar) Z .nil) Z (λaV=>BS.z) λaV=>e_ Z (dZ Z) ?_;refine JR.guard (by exact rfl) (by exact rfl) (by exact rfl) (λt=>?_) (λt=>?_)
  ·have h:=Ff t h;refine bZ Z .nil .nil (dZ Z) (sU Z)<|bZ Z .nil .nil (dZ Z) (sU Z)<|bZ Z .nil .nil (Fo Z Z) (sU Z)<|e_ Z (AI Z Z)<|e_ Z (dZ Z) ?_;refine uH (by exact rfl) (by exact rfl) (by exact rfl) (λu=>?_) (λu=>?_)
   ·have h:=Ff u h;refine bZ Z (a_.cons 1 Z .nil) .nil (cZ 0 Z Z Z Z) (sU Z)<|bZ Z (a_.cons 0 Z .nil) .nil (cZ 0 Z Z Z Z) (sU Z)<|eO h λah au h=>Ci Z Z Z Z (zBa abG (OA U f.1 f.2.1 f.2.2.1 s.1 s.2.1 s.2.2 g.1 g.2.1 g.2.2.1 q.1 q.2.1 q.2.2 ah au) Z (iD [3,4,5,0,1,2] Z)) Z (λaW=>(pB [] Z)) λaW=>e_ Z (AI Z Z)<|e_ Z (dZ Z) ?_;refine JR.guard (by exact rfl) (by exact rfl) (by exact rfl) (λv=>?_) (λv=>?_)
    ·have h:=Ff v h;refine bZ Z (a_.cons 2 Z .nil) .nil (cZ 0 Z Z Z Z) (sU Z)<|bZ Z (a_.cons 3 Z .nil) .nil (cZ 0 Z Z Z Z) (sU Z)<|bZ Z .nil .nil (dZ Z) (sU Z)<|bZ Z (a_.cons 5 Z .nil) .nil (cZ 0 Z Z Z Z) (sU Z)<|eO h λai av h=>Ci Z Z Z Z (zBa ND (Bh U b d a.1 a.2.1 k m E n F o G ai av) Z (iD [8,9,10,7,6,11,12,13] Z)) Z (λaY=>(pB [] Z)) λaY=>bZ Z (a_.cons 2 Z .nil) .nil (cZ 0 Z Z Z Z) (aO.h (a_.ix [2] Z Z) .nil (sU Z))<|bZ Z (a_.cons 3 Z .nil) .nil (cZ 0 Z Z Z Z) (aO.h (a_.ix [3] Z Z) .nil (sU Z))<|bZ Z .nil .nil (dZ Z) hkN<|bZ Z (a_.cons 5 Z .nil) .nil (cZ 0 Z Z Z Z) (aO.h (a_.ix [5] Z Z) .nil (sU Z))<|eO h λaj aw h=>Ci Z Z Z Z (zBa NE (Bg U b d a.1 a.2.1 k m E n F o G aj aw) Z (iD [8,9,10,7,6,11,12,13] Z)) Z (λa0=>(pB [] Z)) λa0=>bZ Z .nil .nil (Vy Z Z Z) (sU Z)<|e_ Z (AI Z Z)<|e_ Z (dZ Z) ?_;refine JR.guard (by exact rfl) (by exact rfl) (by exact rfl) (λy=>?_) (λy=>?_)
     ·have h:=Ff y h;refine bZ Z (a_.cons 2 Z .nil) .nil (cZ 0 Z Z Z Z) (sU Z)<|bZ Z (a_.cons 3 Z .nil) .nil (cZ 0 Z Z Z Z) (sU Z)<|bZ Z (a_.cons 5 Z .nil) .nil (cZ 0 Z Z Z Z) (sU Z)<|eO h λak ax h=>Ci Z Z Z Z (zBa VM (EU U b d a.1 a.2.1 k m E n F o G ak ax) Z (iD [8,9,10,7,6,11,12,13] Z)) Z (λa1=>(pB [] Z)) λa1=>bZ Z (a_.cons 2 Z .nil) .nil (cZ 0 Z Z Z Z) (aO.h (a_.ix [2] Z Z) .nil (sU Z))<|bZ Z (a_.cons 3 Z .nil) .nil (cZ 0 Z Z Z Z) (aO.h (a_.ix [3] Z Z) .nil (sU Z))<|bZ Z (a_.cons 5 Z .nil) .nil (cZ 0 Z Z Z Z) (aO.h (a_.ix [5] Z Z) .nil (sU Z))<|eO h λal ay h=>Ci Z Z Z Z (zBa VN (ES U b d a.1 a.2.1 k m E n F o G al ay) Z (iD [8,9,10,7,6,11,12,13] Z)) Z (λa2=>(pB [] Z)) λa2=>bZ Z .nil .nil (Fo Z Z) (sU Z)<|e_ Z (AI Z Z)<|e_ Z (dZ Z) ?_;refine uH (by exact rfl) (by exact rfl) (by exact rfl) (λA=>?_) (λA=>?_)
      ·have h:=Ff A h;refine bZ Z (a_.cons 2 Z .nil) .nil (cZ 0 Z Z Z Z) (sU Z)<|bZ Z (a_.cons 3 Z .nil) .nil (cZ 0 Z Z Z Z) (sU Z)<|bZ Z (a_.cons 5 Z .nil) .nil (cZ 0 Z Z Z Z) (sU Z)<|eO h λaa az h=>Ci Z Z Z Z (zBa QP (BI U b d a.1 a.2.1 k m E n F o G aa az) Z (iD [8,9,10,7,6,11,12,13] Z)) Z (λa4=>(pB [] Z)) λa4=>bZ Z (a_.cons 2 Z .nil) .nil (cZ 0 Z Z Z Z) (aO.h (a_.ix [2] Z Z) .nil (sU Z))<|bZ Z (a_.cons 3 Z .nil) .nil (cZ 0 Z Z Z Z) (aO.h (a_.ix [3] Z Z) .nil (sU Z))<|bZ Z (a_.cons 5 Z .nil) .nil (cZ 0 Z Z Z Z) (aO.h (a_.ix [5] Z Z) .nil (sU Z))<|bM 43 Z Z<|eO h λab aH h=>lR Z (zBa abH (JL U b d a.1 a.2.1 k m E n F o G ab aH) Z (iD [8,9,10,7,6,11,12,13] Z)) Z λa8=>aR Z (Vy Z Z Z) Z<|dG Z<|aD Z<|aQ ?_;exact cE ((aa==ab)) () h SF .nil (aI.refl _ _)
      have h:=Uv A h;refine aL Z Z Z Z<|aL Z Z Z Z<|aL Z Z Z Z<|aL Z Z Z Z<|aL Z Z Z Z<|aL Z Z Z Z<|aL Z Z Z Z<|bM 43 Z Z<|aK Z<|aK Z<|dR Z<|aD Z<|aQ ?_;exact cE (false) () h SF .nil (aI.refl _ _)
     have h:=Cr y h;refine aL Z Z Z Z<|aL Z Z Z Z<|aL Z Z Z Z<|aL Z Z Z Z<|aL Z Z Z Z<|aL Z Z Z Z<|aL Z Z Z Z<|aL Z Z Z Z<|aL Z Z Z Z<|e_ Z (qY Z Z)<|e_ Z (dZ Z)<|aL Z Z Z Z<|aL Z Z Z Z<|aL Z Z Z Z<|aL Z Z Z Z<|aL Z Z Z Z<|aL Z Z Z Z<|aL Z Z Z Z<|bM 43 Z Z<|aK Z<|aK Z<|dR Z<|aD Z<|aQ ?_;exact cE (false) () h SF .nil (aI.refl _ _)
    have h:=Cr v h;refine aL Z Z Z Z<|aL Z Z Z Z<|aL Z Z Z Z<|aL Z Z Z Z<|aL Z Z Z Z<|aL Z Z Z Z<|aL Z Z Z Z<|aL Z Z Z Z<|aL Z Z Z Z<|aL Z Z Z Z<|aL Z Z Z Z<|e_ Z (qY Z Z)<|e_ Z (dZ Z)<|aL Z Z Z Z<|aL Z Z Z Z<|aL Z Z Z Z<|aL Z Z Z Z<|aL Z Z Z Z<|aL Z Z Z Z<|aL Z Z Z Z<|aL Z Z Z Z<|aL Z Z Z Z<|e_ Z (qY Z Z)<|e_ Z (dZ Z)<|aL Z Z Z Z<|aL Z Z Z Z<|aL Z Z Z Z<|aL Z Z Z Z<|aL Z Z Z Z<|aL Z Z Z Z<|aL Z Z Z Z<|bM 43 Z Z<|aK Z<|aK Z<|dR Z<|aD Z<|aQ ?_;exact cE (false) () h SF .nil (aI.refl _ _)
   have h:=Uv u h;refine aL Z Z Z Z<|aL Z Z Z Z<|aL Z Z Z Z<|e_ Z (qY Z Z)<|e_ Z (dZ Z)<|aL Z Z Z Z<|aL Z Z Z Z<|aL Z Z Z Z<|aL Z Z Z Z<|aL Z Z Z Z<|aL Z Z Z Z<|aL Z Z Z Z<|aL Z Z Z Z<|aL Z Z Z Z<|aL Z Z Z Z<|aL Z Z Z Z<|e_ Z (qY Z Z)<|e_ Z (dZ Z)<|aL Z Z Z Z<|aL Z Z Z Z<|aL Z Z Z Z<|aL Z Z Z Z<|aL Z Z Z Z<|aL Z Z Z Z<|aL Z Z Z Z<|aL Z Z Z Z<|aL Z Z Z Z<|e_ Z (qY Z Z)<|e_ Z (dZ Z)<|aL Z Z Z Z<|aL Z Z Z Z<|aL Z Z Z Z<|aL Z Z Z Z<|aL Z Z Z Z<|aL Z Z Z Z<|aL Z Z Z Z<|bM 43 Z Z<|aK Z<|aK Z<|dR Z<|aD Z<|fU ?_;refine Eb ?_;exact cE (false) () h SF .nil (aI.refl _ _)
  have h:=Cr t h;refine aL Z Z Z Z<|aL Z Z Z Z<|aL Z Z Z Z<|e_ Z (qY Z Z)<|e_ Z (dZ Z)<|aL Z Z Z Z<|aL Z Z Z Z<|aL Z Z Z Z<|e_ Z (qY Z Z)<|e_ Z (dZ Z)<|aL Z Z Z Z<|aL Z Z Z Z<|aL Z Z Z Z<|aL Z Z Z Z<|aL Z Z Z Z<|aL Z Z Z Z<|aL Z Z Z Z<|aL Z Z Z Z<|aL Z Z Z Z<|aL Z Z Z Z<|aL Z Z Z Z<|e_ Z (qY Z Z)<|e_ Z (dZ Z)<|aL Z Z Z Z<|aL Z Z Z Z<|aL Z Z Z Z<|aL Z Z Z Z<|aL Z Z Z Z<|aL Z Z Z Z<|aL Z Z Z Z<|aL Z Z Z Z<|aL Z Z Z Z<|e_ Z (qY Z Z)<|e_ Z (dZ Z)<|aL Z Z Z Z<|aL Z Z Z Z<|aL Z Z Z Z<|aL Z Z Z Z<|aL Z Z Z Z<|aL Z Z Z Z<|aL Z Z Z Z<|bM 43 Z Z ?_;refine aK Z<|aK Z<|dR Z<|aD Z<|aQ ?_;exact cE (false) () h SF .nil (aI.refl _ _)
 intro p J h;unfold gE at h;refine aT ?_;cases h;exact iJ Z
end Go.Proofs.YtflciafboapaaaaGreat
namespace Go.Proofs.YtflciafboapaaaaGreat
open Go Go.Sx
theorem PY (y:xX) (l:oC) (a:Int):tJ 1000 y l a=some true:=by
 have h:gZ 1000 y l a true=some true:=by
  unfold gZ;rw[if_pos Z,bN Pt]
 unfold tJ;rw[h];split
 ·rfl
 split
 ·rfl
 split
 ·rfl
 by_cases g:(30:Int)<(l.length:Int)
 ·rw[zA4 g,h]
 rw[zA3 g];have b:=adB;unfold gZ;rw[if_neg (by decide),bN ZN,bN (show uP 1000=some Hp from rfl),bN (Xr 1000)];refine Sm λz d=> ?_;have d:(ZA z).2.2.map pK=Aw RC:=d;have c:gV gS (ZA z).2.1:=aei b;have e:kF (ZA z).2.1.length RC=true:=aau;have f:Fh (ZA z) gS RC:=acE b Z;refine(bN (show tP 1000 _ _ _ _ _=_ from XA b c d e a y (by omega))).trans ?_;refine(bN (show Br 1000 _ _ _ _ _=_ from acI b c f d e a y (by omega))).trans ?_;refine(bN Pt).trans ?_;rw[if_pos Z,if_pos Z];refine(bN (show rC 1000 _ _=_ from UK b c e)).trans ?_;rw[if_pos Z];refine(bN (show jX 1000 _ _ _ _=_ from IA b c a y)).trans ?_;refine(bN (show jW 1000 _ _ _ _=_ from Iz b c a y)).trans ?_;rw[if_pos (by simp)];refine(bN (show k_ 1000 _ _ _=_ from KJ b c d e y)).trans ?_;refine(bN (show mP 1000 _ _ _=_ from KI b c f d e y)).trans ?_;rw[if_pos Z];refine(bN (show iK 1000 _ _ _=_ from Hv b c d e y)).trans ?_;refine(bN (show rX 1000 _ _ _=_ from RI b c f d e y)).trans ?_;unfold gE;rw[beq_self_eq_true]
end Go.Proofs.YtflciafboapaaaaGreat
namespace Go.Sx
open Go.RowKit Go.ChangeShapes Go.WideShapes Go.ChangeAt Go.Proofs Go.Joins Go.Deep
section
variable {H:Type} {enc:TypeId×Value->H} {P:Program} {w:World} {base:Nat} {spare:Nat->Bool} {held:Bool}
theorem LQ {a:Type} (l:List a) (d:a):l=(List.range l.length).map λi=>l.getD i d:=by
 apply List.ext_getElem?;intro i;by_cases h:i<l.length
 ·simp[h]
 ·simp[h]
theorem Xi {r:Reach} {x:Nat} {t:TypeId} {b:Array Field} {v:Value} {d:DataW H} {p:List MemPlace} (s:P.underlying t=some (.struct b)) (c:oneCellFields P b=true) (z:P.cellsOf t=b.size)
  (E:Value.okWide P w r x t v) (h:DataW.Trod enc P w base spare held t v d p):
  ∃(V:Nat->Value) (Y:Nat->DataW H×List MemPlace) (n:Nat),v = .agg ((List.range b.size).map V).toArray∧∀(i:Nat) (f:Field),b[i]? = some f->DataW.trod enc P w base spare held n f.type [V i]=some (Y i):=by
 obtain⟨a,rfl,l⟩:=okWide_struct s E;obtain⟨m,A⟩:=h;obtain⟨u,n,_,_,_,q,B⟩:=DataW.trod_struct s A;refine⟨λi=>a.toList.getD i undef,λi=>u.getD i (.nil,[]),n,?_,λi f j=> ?_⟩
 ·congr 1;apply Array.toList_inj.1;show a.toList=(List.range b.size).map λi=>a.toList.getD i undef;have y:b.size=a.toList.length:=by rw[<-z,<-l];rfl
  rw[y];exact LQ a.toList undef
 ·have D:i<b.size:=(zAh.1 j).1;obtain⟨o,k⟩:=hone_of c i f j;have g:=B i f j;have e:(Value.cells (.agg a)).toList=a.toList:=rfl;have C:i<a.toList.length:=by rw[Array.length_toList];omega
  rw[o,k,e,take1_drop _ _ undef C]at g;rw[g];have F:i<u.length:=by omega
  simp[F]
end
end Go.Sx