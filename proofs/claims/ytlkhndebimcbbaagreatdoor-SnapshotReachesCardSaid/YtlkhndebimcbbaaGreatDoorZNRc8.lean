/- Models and proofs. Conditions: none. -/
import Derived.Test.YtlkhndebimcbbaaGreatDoorZNRc7
import Derived.Test.YtlkhndebimcbbaaGreatDoorZNRc2
import Derived.Test.YtlkhndebimcbbaaGreatDoorZNRc5
set_option linter.unusedVariables false
set_option linter.unusedSimpArgs false
set_option maxHeartbeats 4000000
set_option maxRecDepth 20000
namespace Go.Proofs.YtlkhndebimcbbaaGreatDoor
open Go.Sx
def zH  (a:Unit):Option jO:=
 some ((0:Int),(-1:Int))
def mZ (c:Int) (a:(Int)->Option jO) (b:Unit):Option jO:=
 a (wI .i64 (c+(1:Int)))
def fE (U:Nat) (a:Fi) (d:cD) (h:Int) (b:Int) (c:(Int)->Option jO):Option jO:=
 if b<(List.length ([((1:Int),(122:Nat)),((2:Int),(124:Nat)),((3:Int),(125:Nat))]):Int)then(ck (0<=b∧b<(List.length ([((1:Int),(122:Nat)),((2:Int),(124:Nat)),((3:Int),(125:Nat))]):Int)) (if b=(0:Int)then(if(1:Int)=a.2.1 then(Option.bind (pA U ((a.1,a.2.1,a.2.2.1,a.2.2.2.1,a.2.2.2.2.1,a.2.2.2.2.2)) ((d.1,d.2)) h) λe=>(some (e.1,e.2)))else(mZ b c (())))else(if b=(1:Int)then(if(2:Int)=a.2.1 then(Option.bind (sQ U ((a.1,a.2.1,a.2.2.1,a.2.2.2.1,a.2.2.2.2.1,a.2.2.2.2.2)) ((d.1,d.2)) h) λf=>(some (f.1,f.2)))else(mZ b c (())))else(if(3:Int)=a.2.1 then(Option.bind (pB U ((a.1,a.2.1,a.2.2.1,a.2.2.2.1,a.2.2.2.2.1,a.2.2.2.2.2)) ((d.1,d.2)) h) λg=>(some (g.1,g.2)))else(mZ b c (()))))))else(zH  (()))
def kL (U:Nat) (a:Fi) (b:cD) (c:Int):Option jO:=
 bI (fE U a b c) U (0:Int)
theorem Yt:aW Tryz.prog 91:=Tryz.call91
theorem Eb (U:Nat) {a:Fi} {p:cD} {m:Int} (g:Value)  (i:Value)  (y:kA) (r:gE) (h:kL U a p m=some r):
  aY Tryz.prog 91 #[Value.agg #[vS (a.1),vI (a.2.1),vI (a.2.2.1),vI (a.2.2.2.1),vI (a.2.2.2.2.1),vI (a.2.2.2.2.2)],Value.agg #[g,i],vI (m)] [Sl bN g p.1,S2 bA i y p.2] (λx:Unit=>Value.tuple #[vI (r.1),vI (r.2)]) (λx l=>l) (λ_ l=>l):=by
 refine aY.of Tryz.func91 Z Tryz.ntmps91 Z λc=>?_;unfold kL at h;refine aX<|aH (aO.box (cs:=[vS (a.1),vI (a.2.1),vI (a.2.2.1),vI (a.2.2.2.1),vI (a.2.2.2.2.1),vI (a.2.2.2.2.2)]) Z Z) Z λt=>aH (aO.box (cs:=[g,i]) Z Z) Z λu=>aD Z<|aD Z<|aN<|aX ?_;refine aB (Di (r:=Value.agg #[vI (1:Int),Value.func (.func 122) #[] #[]]) Z Z (by intro w;simp[Instr.build,Instr.fill,dR,cW,cO,dU,dV,cX,eY])) Z ?_;refine aB (Di (r:=Value.agg #[vI (2:Int),Value.func (.func 124) #[] #[]]) Z Z (by intro w;simp[Instr.build,Instr.fill,dR,cW,cO,dU,dV,cX,eY])) Z ?_;refine aB (Di (r:=Value.agg #[vI (3:Int),Value.func (.func 125) #[] #[]]) Z Z (by intro w;simp[Instr.build,Instr.fill,dR,cW,cO,dU,dV,cX,eY])) Z ?_;refine aH (cA (e:=JE) ([(((1:Int),((122:Nat)))),(((2:Int),((124:Nat)))),(((3:Int),((125:Nat))))]) [(0,Value.agg #[vI (1:Int),Value.func (.func 122) #[] #[]]),(1,Value.agg #[vI (2:Int),Value.func (.func 124) #[] #[]]),(2,Value.agg #[vI (3:Int),Value.func (.func 125) #[] #[]])] Z Z Z Z (YY (vI (1:Int)) (Value.func (.func 122) #[] #[]) (vI (2:Int)) (Value.func (.func 124) #[] #[]) (vI (3:Int)) (Value.func (.func 125) #[] #[])) Z Z Z) Z λv=>aD Z<|aN<|aK<|dW (λs=>zH  s=some r) (λs G=>[]) (λs G=>[]) ?_ ?_
 ·refine aX<|aA Z<|aB (fX Z (bB (aE.res 0 Z) BY) Z) Z<|aA Z<|aN<|aT<|dX (fE U a p m) (λk H=>[(2,vI (m)),(3,vP t),(4,vP u),(15,v),(16,vI (List.length ([((1:Int),(122:Nat)),((2:Int),(124:Nat)),((3:Int),(125:Nat))]):Int)),(17,vI (k))]) (λk H=>[Ar JE v ([((1:Int),(122:Nat)),((2:Int),(124:Nat)),((3:Int),(125:Nat))]),bV u [g,i] 28,bV t [vS (a.1),vI (a.2.1),vI (a.2.2.1),vI (a.2.2.2.1),vI (a.2.2.2.2.1),vI (a.2.2.2.2.2)] 62]) (0:Int) () h SF (a_.refl _) ?_;intro z k H h;refine aX<|cM Z<|aN<|aK ?_;refine fD h Z (λh=>?_) λh=>?_
  ·refine cL<|aK<|dW (λj=>mZ k (bI (fE U a p m) z) j=some r) (λj n=>[(2,vI (m)),(3,vP t),(4,vP u),(15,v),(16,vI (List.length ([((1:Int),(122:Nat)),((2:Int),(124:Nat)),((3:Int),(125:Nat))]):Int)),(17,vI (k))]) (λj n=>[Ar JE v ([((1:Int),(122:Nat)),((2:Int),(124:Nat)),((3:Int),(125:Nat))]),bV u [g,i] 28,bV t [vS (a.1),vI (a.2.1),vI (a.2.2.1),vI (a.2.2.2.1),vI (a.2.2.2.2.1),vI (a.2.2.2.2.2)] 62]) ?_ ?_
   ·refine aT<|aX<|cT h λf h=>aB (aZ Z Z (bB (aE.res 0 Z) BY) Z Z f) Z ?_;by_cases b:k=(0:Int)
    ·have h:=IA b h;refine aB (iX (cs:=[vI (1:Int),Value.func (.func 122) #[] #[]]) Z (bB (aE.res 0 Z) BY) BY (by rw[b];rfl) Z Z Z f) Z ?_;refine aH (aO.alloc (cs:=[vI (0:Int),Value.nilFunc]) Z Z) Z λI=>bQ 0 (vs:=[vI (1:Int),Value.func (.func 122) #[] #[]]) Z Z Z Z Z Z<|aN<|aX<|bX Z<|dQ 0 Z<|bX Z<|dQ 3 Z<|cS Z<|aN ?_;refine fD h Z (λh=>?_) λh=>?_
     ·refine aX<|bX Z<|dQ 0 Z<|dN 3 Z<|dN 2 Z<|aA Z<|eZ h λA D h=>aH (wY (vs:=[Value.agg #[vS (a.1),vI (a.2.1),vI (a.2.2.1),vI (a.2.2.2.1),vI (a.2.2.2.2.1),vI (a.2.2.2.2.2)],Value.agg #[g,i],vI (m)]) (cs:=[]) abH Z (HU U g i y A D) Z (mT [0,1] Z) (λ_ _=>rfl)) Z λL=>jM Z<|jM Z<|aD Z<|aD Z<|aN<|aV<|bM<|aJ<|aJ<|bM<|aJ ?_;cases h;exact oB () Z Z (RV.tmp Z) (RV.tmp Z) .nil aG.nil
     refine dY<|mN ?_;exact cF () (()) h SF (a_.ix [1,2,3] Z Z) (aG.refl _ _)
    have h:=ifN b h;by_cases d:k=(1:Int)
    ·have h:=IA d h;refine aB (iX (cs:=[vI (2:Int),Value.func (.func 124) #[] #[]]) Z (bB (aE.res 0 Z) BY) BY (by rw[d];rfl) Z Z Z f) Z ?_;refine aH (aO.alloc (cs:=[vI (0:Int),Value.nilFunc]) Z Z) Z λJ=>bQ 0 (vs:=[vI (2:Int),Value.func (.func 124) #[] #[]]) Z Z Z Z Z Z<|aN<|aX<|bX Z<|dQ 0 Z<|bX Z<|dQ 3 Z<|cS Z<|aN ?_;refine fD h Z (λh=>?_) λh=>?_
     ·refine aX<|bX Z<|dQ 0 Z<|dN 3 Z<|dN 2 Z<|aA Z<|eZ h λB E h=>aH (wY (vs:=[Value.agg #[vS (a.1),vI (a.2.1),vI (a.2.2.1),vI (a.2.2.2.1),vI (a.2.2.2.2.1),vI (a.2.2.2.2.2)],Value.agg #[g,i],vI (m)]) (cs:=[]) abJ Z (HV U g i y B E) Z (mT [0,1] Z) (λ_ _=>rfl)) Z λM=>jM Z<|jM Z<|aD Z<|aD Z<|aN<|aV<|bM<|aJ<|aJ<|bM<|aJ ?_;cases h;exact oB () Z Z (RV.tmp Z) (RV.tmp Z) .nil aG.nil
     refine dY<|mN ?_;exact cF () (()) h SF (a_.ix [1,2,3] Z Z) (aG.refl _ _)
    have h:=ifN d h;have o:k=(2:Int):=by have q:=f;simp only[zAh,List.length_nil]at q;omega
    refine aB (iX (cs:=[vI (3:Int),Value.func (.func 125) #[] #[]]) Z (bB (aE.res 0 Z) BY) BY (by rw[o];rfl) Z Z Z f) Z ?_;refine aH (aO.alloc (cs:=[vI (0:Int),Value.nilFunc]) Z Z) Z λK=>bQ 0 (vs:=[vI (3:Int),Value.func (.func 125) #[] #[]]) Z Z Z Z Z Z<|aN<|aX<|bX Z<|dQ 0 Z<|bX Z<|dQ 3 Z<|cS Z<|aN ?_;refine fD h Z (λh=>?_) λh=>?_
    ·refine aX<|bX Z<|dQ 0 Z<|dN 3 Z<|dN 2 Z<|aA Z<|eZ h λC F h=>aH (wY (vs:=[Value.agg #[vS (a.1),vI (a.2.1),vI (a.2.2.1),vI (a.2.2.2.1),vI (a.2.2.2.2.1),vI (a.2.2.2.2.2)],Value.agg #[g,i],vI (m)]) (cs:=[]) abK Z (HW U g i y C F) Z (mT [0,1] Z) (λ_ _=>rfl)) Z λN=>jM Z<|jM Z<|aD Z<|aD Z<|aN<|aV<|bM<|aJ<|aJ<|bM<|aJ ?_;cases h;exact oB () Z Z (RV.tmp Z) (RV.tmp Z) .nil aG.nil
    refine dY<|mN ?_;exact cF () (()) h SF (a_.ix [1,2,3] Z Z) (aG.refl _ _)
   intro j n h;unfold mZ at h;refine aQ<|cJ Z<|aA Z<|aN ?_;exact xR (wI .i64 (k+(1:Int))) () h SF Z
  refine e_ ?_;exact cF () (()) h SF .nil (aG.refl _ _)
 intro s G h;unfold zH at h;refine aX<|aD Z<|aD Z<|aN<|aV ?_;cases h;exact oB () Z Z (RV.tmp Z) (RV.tmp Z) (a_.refl _) aG.nil
def vY  (a:fV):Option (fV):=
 some (a)
def vZ (b:Int×fV) (a:(Int×fV)->Option (fV)) (c:fV):Option (fV):=
 a ((wI .i64 (b.1+(1:Int))),c)
def oO (U:Nat) (d:yU) (g:cD) (b:Int×fV) (e:(Int×fV)->Option (fV)) (a:Int×fV) (f:(Int×fV)->Option (fV)):Option (fV):=
 if a.1<(d.2.1.length:Int)then(ck (0<=a.1∧a.1<(d.2.1.length:Int)) (ck (0<=b.1∧b.1<(a.2.length:Int)) (ck (0<=b.1∧b.1<(a.2.length:Int)) (Option.bind (kL U ((((at' d.2.1 a.1).1),((at' d.2.1 a.1).2.1),((at' d.2.1 a.1).2.2.1),((at' d.2.1 a.1).2.2.2.1),((at' d.2.1 a.1).2.2.2.2.1),((at' d.2.1 a.1).2.2.2.2.2))) ((g.1,g.2)) b.1) λc=>(ck (0<=a.1∧a.1<((at' a.2 b.1).length:Int)) (ck (0<=a.1∧a.1<((at' (List.set a.2 (Int.toNat b.1) (List.set (at' a.2 b.1) (Int.toNat a.1) (c.1,((at' (at' a.2 b.1) a.1).2)))) b.1).length:Int)) (f ((wI .i64 (a.1+(1:Int))),(List.set (List.set a.2 (Int.toNat b.1) (List.set (at' a.2 b.1) (Int.toNat a.1) (c.1,((at' (at' a.2 b.1) a.1).2)))) (Int.toNat b.1) (List.set (at' (List.set a.2 (Int.toNat b.1) (List.set (at' a.2 b.1) (Int.toNat a.1) (c.1,((at' (at' a.2 b.1) a.1).2)))) b.1) (Int.toNat a.1) (((at' (at' (List.set a.2 (Int.toNat b.1) (List.set (at' a.2 b.1) (Int.toNat a.1) (c.1,((at' (at' a.2 b.1) a.1).2)))) b.1) a.1).1),c.2)))))))))))else(vZ b e (a.2))
def mM (U:Nat) (c:yU) (d:cD) (a:Int×fV) (b:(Int×fV)->Option (fV)):Option (fV):=
 if a.1<((List.replicate (Int.toNat (List.length d.1:Int)) ([]:fZ)).length:Int)then(ck (0<=(c.2.1.length:Int)∧(c.2.1.length:Int)<=1099511627) (ck (0<=a.1∧a.1<(a.2.length:Int)) (bI (oO U c d a b) U ((0:Int),(List.set a.2 (Int.toNat a.1) (List.replicate (Int.toNat (c.2.1.length:Int)) ((0:Int),(0:Int))))))))else(vY  (a.2))
def kF (U:Nat) (b:yU) (a:cD):Option (fV):=
 ck (0<=(a.1.length:Int)∧(a.1.length:Int)<=1099511627) (bI (mM U b a) U ((0:Int),(List.replicate (Int.toNat (a.1.length:Int)) ([]:fZ))))
theorem S_:aW Tryz.prog 65:=Tryz.call65
theorem BK (U:Nat) {d:yU} {q:cD} (v:Value)  (y:Value)  (A:Value)  (C:Value)  (z4:kA) (r:fV) (h:kF U d q=some r):
  aY Tryz.prog 65 #[Value.agg #[vS (d.1),v,y],Value.agg #[A,C]] [Sl aS v d.2.1,Sl aL y d.2.2,PF (Value.agg #[vS d.1,v,y]),Sl bN A q.1,S2 bA C z4 q.2] (λx:Jq=>x.1) (λx l=>Ar dD.raw x.1 x.2::lK cG x.2 r::l) (λ_ l=>l):=by
 refine aY.of Tryz.func65 Z Tryz.ntmps65 Z λc=>?_;refine aX<|aH (aO.box (cs:=[vS (d.1),v,y]) Z Z) Z λD=>aH (aO.box (cs:=[A,C]) Z Z) Z λE=>aD Z<|aN<|aX<|bX Z<|dQ 0 Z<|jN (aE.fact 3 Z) Z<|cT h λj3 h=>jL (w_ cG (Int.toNat (q.1.length:Int)))<|aH (mL (e:=dD.raw) (lB) Z Z Z Z j3 Z Z Z) Z λu=>aD Z<|aN<|aK<|CR (B:=fO) (λF=>vY  F=some r) (λF H=>[(5,u)]) (λF H=>[Ar dD.raw u H,lK cG H F]) ?_ ?_
 ·refine aX<|aA Z<|aB (gU Z (bW (i:=0) (j:=1) Z Z bS) Z) Z<|aA Z<|aN<|aT<|dX (B:=fO) (mM U d q) (λb m=>[(2,vP D),(3,vP E),(5,u),(14,vI ((List.replicate (Int.toNat (List.length q.1:Int)) ([]:fZ)).length:Int)),(15,vI (b.1))]) (λb m=>[Ar dD.raw u m,lK cG m b.2,bV E [A,C] 28,bV D [vS (d.1),v,y] 57]) ((0:Int),(List.replicate (Int.toNat (q.1.length:Int)) ([]:fZ))) (List.replicate (Int.toNat (q.1.length:Int)) (lB)) h SF (a_.refl _) ?_;intro S b m h;refine aX<|cM Z<|aN<|aK ?_;refine fD h Z (λh=>?_) λh=>?_
  ·refine cL<|aK<|CR (B:=fO) (λp=>vZ b (bI (mM U d q) S) p=some r) (λp s=>[(2,vP D),(3,vP E),(5,u),(14,vI ((List.replicate (Int.toNat (List.length q.1:Int)) ([]:fZ)).length:Int)),(15,vI (b.1))]) (λp s=>[Ar dD.raw u s,lK cG s p,bV E [A,C] 28,bV D [vS (d.1),v,y] 57]) ?_ ?_
   ·refine aT<|aX<|aA Z<|aD Z<|aN<|aX<|aA Z<|aA Z<|bX Z<|dQ 3 Z<|jN (aE.fact 0 Z) Z<|cT h λT h=>aH (mL (e:=cG) (((0:Int),(0:Int))) Z Z Z Z T Z Z Z) Z λw=>cT h λt h=>aB (cC Z Z (bW (i:=1) (j:=2) Z Z bS) Z Z t) Z<|cH (Know.one ((bB (aE.res 0 Z) bS))) λO=>jL (zE (k:=b.1) 2 0 Z Z Z t) ?_;refine pI 0 1 ⟨t.1,by first|exact t.2|simpa using t.2⟩ Z Z Z Z Z (by simp) O Z ?_;refine aN<|aX<|bX Z<|dQ 3 Z<|jN (aE.fact 0 Z) Z<|aA Z<|aN<|aT<|dX (oO U d q b (bI (mM U d q) S)) (λa G=>[(2,vP D),(3,vP E),(5,u),(6,vI (b.1)),(14,vI ((List.replicate (Int.toNat (List.length q.1:Int)) ([]:fZ)).length:Int)),(15,vI (b.1)),(26,v),(27,vI (d.2.1.length:Int)),(28,vI (a.1))]) (λa G=>[Ar dD.raw u (List.set m (Int.toNat b.1) w),lK cG (List.set m (Int.toNat b.1) w) a.2,bV E [A,C] 28,bV D [vS (d.1),v,y] 57]) ((0:Int),(List.set b.2 (Int.toNat b.1) (List.replicate (Int.toNat (d.2.1.length:Int)) ((0:Int),(0:Int))))) () h SF (a_.refl _) ?_;intro ac a G h;refine aX<|cM Z<|aN<|aK ?_;refine fD h Z (λh=>?_) λh=>?_
    ·refine cL<|aK<|aT<|aX<|aA Z<|cT h λP h=>aB (aZ Z Z (aE.fact 0 Z) Z Z P) Z<|aB (iX (cs:=[vS ((at' d.2.1 a.1).1),vI ((at' d.2.1 a.1).2.1),vI ((at' d.2.1 a.1).2.2.1),vI ((at' d.2.1 a.1).2.2.2.1),vI ((at' d.2.1 a.1).2.2.2.2.1),vI ((at' d.2.1 a.1).2.2.2.2.2)]) Z (aE.fact 0 Z) iW Z Z Z Z P) Z<|aH (aO.alloc (cs:=vD3) Z Z) Z λab=>aD Z<|bQ 0 (vs:=[vS ((at' d.2.1 a.1).1),vI ((at' d.2.1 a.1).2.1),vI ((at' d.2.1 a.1).2.2.1),vI ((at' d.2.1 a.1).2.2.2.1),vI ((at' d.2.1 a.1).2.2.2.2.1),vI ((at' d.2.1 a.1).2.2.2.2.2)]) Z Z Z Z Z Z<|aN ?_;refine JR.start [0,0,3,7,0,0,0,96,224,0,0,0,0,7168,15360,31744,31744,31,196095,458239,992,2097151,4194303] 21 mixedOrders (by decide +kernel) ?_;refine zBd (by exact rfl) ?_;refine bG Z<|bG Z<|cT h λn h=>eJ (dM 2 Z) λI=>?_;refine bJ Z (a_.cons 1 Z .nil) .nil (iS 0 Z Z Z Z Z n.1 (by have V:=n.2;have W:=I;(try simp only[zA2]at V);(try simp only[zA2]at W);(try simp only[zA2]);omega)) aM.z ?_;refine eJ (dM 2 Z) λJ=>bJ Z (a_.cons 1 Z .nil) .nil (mI 0 Z Z J Z Z n) aM.z<|bG Z<|bG Z<|bG Z<|cT h λg h=>eJ (dM 2 Z) λK=>?_;refine bJ Z (a_.cons 1 Z .nil) .nil (iS 0 Z Z Z Z Z g.1 (by have V:=g.2;have W:=K;(try simp only[zA2]at V);(try simp only[zA2]at W);(try simp only[zA2]);omega)) aM.z ?_;refine eJ (dM 2 Z) λL=>bJ Z (a_.cons 1 Z .nil) .nil (mI 0 Z Z L Z Z g) aM.z<|bG Z<|mA 0 Z<|mA 3 Z<|bG Z<|eZ h λf X h=>zBc Z Z Z (zBa Yt (Eb U A C z4 f X) Z (mT [3,4] Z)) Z (λY=>(uB [([1],[]),([1],[]),([1],[]),([1],[])] Z)) λY=>jD Z (fY Z)<|jD Z (qF Z Z)<|jD Z (qF Z Z)<|cT h λQ h=>eJ (Know.len (aE.row (j:=2) Z bS n.1 n.2)) λM=>jD Z (P_ Z Z M Z Z Q) ?_;refine jD Z (Fv (i:=0) Z Z Z Z Z (by decide)) ?_;refine Es Z Z Z (Eu (us:=[vI (f.1)]) (o:=0) (k:=b.1) 2 ((f.1,((at' (at' a.2 b.1) a.1).2))) ⟨n.1,by first|exact n.2|simpa using n.2⟩ Q Z Z Z Z Z Z Z Z Z Z) (λaa=>(uB [] Z)) λaa=>cT h λR h=>eJ (Know.len (aE.row (j:=2) Z bS g.1 (by first|exact g.2|simpa using g.2))) λN=>?_;refine jD Z (P_ Z Z N Z Z R)<|bO 21 Z Z ?_;refine aB (Fv (i:=1) Z Z Z Z Z (by decide)) Z ?_;refine Uq (Eu (us:=[vI (f.2)]) (o:=1) (k:=b.1) 2 ((((at' (at' (List.set a.2 (Int.toNat b.1) (List.set (at' a.2 b.1) (Int.toNat a.1) (f.1,((at' (at' a.2 b.1) a.1).2)))) b.1) a.1).1),f.2)) ⟨g.1,by first|exact g.2|simpa using g.2⟩ R Z Z Z Z Z Z Z Z Z Z) λad=>eM<|mN<|aQ<|cJ Z<|aA Z<|aN ?_;exact lS ((wI .i64 (a.1+(1:Int))),(List.set (List.set a.2 (Int.toNat b.1) (List.set (at' a.2 b.1) (Int.toNat a.1) (f.1,((at' (at' a.2 b.1) a.1).2)))) (Int.toNat b.1) (List.set (at' (List.set a.2 (Int.toNat b.1) (List.set (at' a.2 b.1) (Int.toNat a.1) (f.1,((at' (at' a.2 b.1) a.1).2)))) b.1) (Int.toNat a.1) (((at' (at' (List.set a.2 (Int.toNat b.1) (List.set (at' a.2 b.1) (Int.toNat a.1) (f.1,((at' (at' a.2 b.1) a.1).2)))) b.1) a.1).1),f.2)))) () h SF (a_.ix [1,2,3,4] Z Z) (aG.refl _ _)
    refine pH<|d_<|d_<|u_<|mN ?_;exact gJ (a.2) (List.set m (Int.toNat b.1) w) h SF Z
   intro p s h;unfold vZ at h;refine aQ<|cJ Z<|aA Z<|aN ?_;exact xR ((wI .i64 (b.1+(1:Int))),p) (s) h SF Z
  refine e_ ?_;exact cF (b.2) (m) h SF (a_.ix [0,1] Z Z) (aG.refl _ _)
 intro F H h;unfold vY at h;refine aX<|aA Z<|aD Z<|aN<|aV ?_;cases h;exact fP (u,H) Z Z (RV.tmp Z) (a_.refl _) aG.nil
def xY  (a:Unit):Option (Int):=
 some (0:Int)
def qN (b:Int) (a:(Int)->Option (Int)) (c:Unit):Option (Int):=
 a (wI .i64 (b+(1:Int)))
def xZ (b:Int) (a:(Int)->Option (Int)) (c:Bool):Option (Int):=
 if c=true then(some (9:Int))else(qN b a (()))
def nJ (U:Nat) (c:yU) (e:cD) (a:Int) (b:(Int)->Option (Int)):Option (Int):=
 if a<(c.2.1.length:Int)then(ck (0<=a∧a<(c.2.1.length:Int)) (if((at' c.2.1 a).2.1)≠(1:Int)then(qN a b (()))else(Option.bind (kL U ((((at' c.2.1 a).1),((at' c.2.1 a).2.1),((at' c.2.1 a).2.2.1),((at' c.2.1 a).2.2.2.1),((at' c.2.1 a).2.2.2.2.1),((at' c.2.1 a).2.2.2.2.2))) ((e.1,e.2)) (0:Int)) λd=>(if d.2<d.1 then(xZ a b (true))else(xZ a b (decide ((4096:Int)<(wI .i64 ((wI .i64 (d.2 - d.1))+(1:Int))))))))))else(xY  (()))
def vE (U:Nat) (a:yU) (b:cD):Option (Int):=
 Option.bind (Cp U ((a.1,a.2.1,a.2.2))) λc=>(if(!c)=true then(some (8:Int))else(Option.bind (gQ U ((b.1,b.2))) λd=>(if(!d)=true then(some (1:Int))else(bI (nJ U a b) U (0:Int)))))
theorem aff:aW Tryz.prog 88:=Tryz.call88
theorem Mt (U:Nat) {b:yU} {n:cD} (g:Value)  (v:Value)  (i:Value)  (j:Value)  (y:kA) (r:Int) (h:vE U b n=some r):
  aY Tryz.prog 88 #[Value.agg #[vS (b.1),g,v],Value.agg #[i,j]] [Sl aS g b.2.1,Sl aL v b.2.2,PF (Value.agg #[vS b.1,g,v]),Sl bN i n.1,S2 bA j y n.2] (λx:Unit=>vI (r)) (λx l=>l) (λ_ l=>l):=by
 refine aY.of Tryz.func88 Z Tryz.ntmps88 Z λc=>?_;refine aX<|aH (aO.box (cs:=[vS (b.1),g,v]) Z Z) Z λF=>aH (aO.box (cs:=[i,j]) Z Z) Z λm=>aD Z<|aN<|aK<|aX<|dN 1 Z<|eZ h λA C h=>aH (zBa UD (MA U g v A C) Z (mT [0,1,2] Z)) Z λG=>aB (lU Z) Z<|aN ?_;refine Am h Z (λ_ h=>?_) λ_ h=>?_
 ·refine aX<|aD Z<|aN<|aV<|aJ ?_;cases h;exact rX Z
 refine cL<|aK<|aX<|dN 0 Z<|eZ h λB D h=>aH (zBa Of (Ab U i j y B D) Z (mT [3,4] Z)) Z λH=>aB (lU Z) Z<|aN ?_;refine Am h Z (λ_ h=>?_) λ_ h=>?_
 ·refine aX<|aD Z<|aN<|aV<|aJ ?_;cases h;exact rX Z
 refine cL<|aK<|dW (λe=>xY  e=some r) (λe o=>[]) (λe o=>[]) ?_ ?_
 ·refine aX<|bX Z<|dQ 1 Z<|jN (aE.fact 0 Z) Z<|aA Z<|aN<|aT<|dX (nJ U b n) (λa p=>[(3,vP m),(16,g),(17,vI (b.2.1.length:Int)),(18,vI (a))]) (λa p=>[bV m [i,j] 28]) (0:Int) () h SF (a_.ix [0] Z Z) ?_;intro u a p h;refine aX<|cM Z<|aN<|aK ?_;refine fD h Z (λh=>?_) λh=>?_
  ·refine cL<|aK<|dW (λf=>qN a (bI (nJ U b n) u) f=some r) (λf q=>[(3,vP m),(16,g),(17,vI (b.2.1.length:Int)),(18,vI (a))]) (λf q=>[bV m [i,j] 28]) ?_ ?_
   ·refine aT<|aX<|cT h λt h=>aB (aZ Z Z (aE.fact 0 Z) Z Z t) Z<|aB (iX (cs:=[vS ((at' b.2.1 a).1),vI ((at' b.2.1 a).2.1),vI ((at' b.2.1 a).2.2.1),vI ((at' b.2.1 a).2.2.2.1),vI ((at' b.2.1 a).2.2.2.2.1),vI ((at' b.2.1 a).2.2.2.2.2)]) Z (aE.fact 0 Z) iW Z Z Z Z t) Z<|aH (aO.alloc (cs:=vD3) Z Z) Z λz=>bQ 0 (vs:=[vS ((at' b.2.1 a).1),vI ((at' b.2.1 a).2.1),vI ((at' b.2.1 a).2.2.1),vI ((at' b.2.1 a).2.2.2.1),vI ((at' b.2.1 a).2.2.2.2.1),vI ((at' b.2.1 a).2.2.2.2.2)]) Z Z Z Z Z Z<|aN<|aK<|aX<|bX Z<|dQ 0 Z<|rB Z<|aN ?_;refine fD h Z (λh=>?_) λh=>?_
    ·refine pH<|d_<|u_<|AV ?_;exact cF () (()) h SF (a_.ix [1] Z Z) (aG.refl _ _)
    refine cL<|aX<|dN 0 Z<|dN 1 Z<|eZ h λk w h=>aH (zBa Yt (Eb U i j y k w) Z (mT [3,4] Z)) Z λE=>aA Z<|jM Z<|jM Z<|aD Z<|aD Z<|aN<|aK<|dW (λd=>xZ a (bI (nJ U b n) u) d=some r) (λd s=>[(3,vP m),(16,g),(17,vI (b.2.1.length:Int)),(18,vI (a)),(40,vB (d))]) (λd s=>[bV m [i,j] 28]) ?_ ?_
    ·refine aQ<|aA Z<|aA Z<|cM Z<|aA Z ?_;refine Eo h Z (λ_ h=>?_) λ_ h=>?_
     ·refine aI Z<|aI Z<|aI Z<|aI Z<|aI Z<|dO Z<|aN ?_;exact cF (true) () h SF (a_.ix [1] Z Z) (aG.refl _ _)
     refine cP Z<|cP Z<|aP Z (oI Z Z) Z<|aP Z (Az Z Z) Z<|aP Z (xQ Z Z) Z<|fH Z<|aN ?_;exact cF (decide ((4096:Int)<(wI .i64 ((wI .i64 (k.2 - k.1))+(1:Int))))) () h SF (a_.ix [1] Z Z) (aG.refl _ _)
    intro d s h;refine Am h Z (λ_ h=>?_) λ_ h=>?_
    ·refine aX<|aD Z<|aN<|aV<|bM<|aJ<|aJ<|bM<|aJ ?_;cases h;exact rX Z
    refine dY<|mN ?_;exact gJ () (()) h SF Z
   intro f q h;unfold qN at h;refine aQ<|cJ Z<|aA Z<|aN ?_;exact xR (wI .i64 (a+(1:Int))) () h SF Z
  refine e_ ?_;exact cF () (()) h SF .nil (aG.refl _ _)
 intro e o h;unfold xY at h;refine aX<|aD Z<|aN<|aV ?_;cases h;exact lA Z
def wG  (a:Unit):Option Bool:=
 some (true)
def wH (c:Int) (b:(Int)->Option Bool) (a:Bool):Option Bool:=
 if a=true then(some (false))else(b (wI .i64 (c+(1:Int))))
def oT (c:fZ) (d:aR) (a:Int) (b:(Int)->Option Bool):Option Bool:=
 if a<(d.length:Int)then(ck (0<=a∧a<(d.length:Int)) (ck (0<=a∧a<(c.length:Int)) (if(at' d a)<((at' c a).1)then(wH a b (true))else(ck (0<=a∧a<(c.length:Int)) (wH a b (decide (((at' c a).2)<(at' d a))))))))else(wG  (()))
def yI (U:Nat) (a:fZ) (b:aR):Option Bool:=
 if(b.length:Int)≠(a.length:Int)then(some (false))else(bI (oT a b) U (0:Int))
theorem abG:aW Tryz.prog 121:=Tryz.call121
theorem LR (U:Nat) {k:fZ} {d:aR} (n:Value)  (o:Value) (r:Bool) (h:yI U k d=some r):
  aY Tryz.prog 121 #[n,o] [Sl bA n k,Sl bN o d] (λx:Unit=>vB (r)) (λx l=>l) (λ_ l=>l):=by
 refine aY.of Tryz.func121 Z Tryz.ntmps121 Z λc=>?_;refine aX<|aD Z<|aN<|aK<|aX<|aA Z<|jN (aE.fact 1 Z) Z<|aA Z<|jN (aE.fact 0 Z) Z<|rB Z<|aN ?_;refine fD h Z (λh=>?_) λh=>?_
 ·refine aX<|aD Z<|aN<|aV<|aJ ?_;cases h;exact lA Z
 refine cL<|aK<|dW (λm=>wG  m=some r) (λm p=>[]) (λm p=>[]) ?_ ?_
 ·refine aX<|aA Z<|jN (aE.fact 1 Z) Z<|aA Z<|aN<|aT<|dX (oT k d) (λb q=>[(0,n),(12,o),(13,vI (d.length:Int)),(14,vI (b))]) (λb q=>[]) (0:Int) () h SF (a_.refl _) ?_;intro s b q h;refine aX<|cM Z<|aN<|aK ?_;refine fD h Z (λh=>?_) λh=>?_
  ·refine cL<|aK<|aT<|aX<|aA Z<|cT h λf h=>aB (aZ Z Z (aE.fact 1 Z) Z Z f) Z<|aB (bR Z (aE.fact 1 Z) Z Z Z cR f) Z<|aD Z<|aD Z<|aN<|aK<|dW (λa=>wH b (bI (oT k d) s) a=some r) (λa e=>[(0,n),(12,o),(13,vI (d.length:Int)),(14,vI (b)),(34,vB (a))]) (λa e=>[]) ?_ ?_
   ·refine aQ<|aA Z<|aA Z<|aA Z<|cT h λg h=>aB (aZ Z Z (aE.fact 0 Z) Z Z g) Z ?_;refine aB (Fv (i:=0) Z Z Z Z Z (by decide)) Z ?_;refine aB (jJ Z (aE.fact 0 Z) Z Z Z nF g) Z<|cM Z<|aA Z ?_;refine Eo h Z (λ_ h=>?_) λ_ h=>?_
    ·refine aI Z<|aI Z<|aI Z<|aI Z<|aI Z<|aI Z<|aI Z<|dO Z<|aN ?_;exact gJ (true) () h SF Z
    refine cP Z<|cP Z<|cP Z<|cT h λj h=>aP Z (aZ Z Z (aE.fact 0 Z) Z Z j) Z ?_;refine aP Z (Fv (i:=1) Z Z Z Z Z (by decide)) Z ?_;refine aP Z (jJ Z (aE.fact 0 Z) Z Z Z Gs j) Z<|aP Z (xQ Z Z) Z<|fH Z<|aN ?_;exact gJ (decide (((at' k b).2)<(at' d b))) () h SF Z
   intro a e h;refine Am h Z (λ_ h=>?_) λ_ h=>?_
   ·refine aX<|aD Z<|aN<|aV<|bM<|aJ<|aJ<|bM<|aJ ?_;cases h;exact lA Z
   refine dY<|mN<|aQ<|cJ Z<|aA Z<|aN ?_;exact xR (wI .i64 (b+(1:Int))) () h SF Z
  refine e_ ?_;exact gJ () (()) h SF Z
 intro m p h;unfold wG at h;refine aX<|aD Z<|aN<|aV ?_;cases h;exact lA Z
def uJ  (a:Unit):Option Bool:=
 some (true)
def qX (U:Nat) (c:fV) (e:bF) (a:Int) (b:(Int)->Option Bool):Option Bool:=
 if a<(c.length:Int)then(ck (0<=a∧a<(c.length:Int)) (ck (0<=a∧a<(e.length:Int)) (Option.bind (yI U (at' c a) (at' e a)) λd=>(if(!d)=true then(some (false))else(b (wI .i64 (a+(1:Int))))))))else(uJ  (()))
def wF (U:Nat) (a:fV) (b:bF):Option Bool:=
 if(b.length:Int)≠(a.length:Int)then(some (false))else(bI (qX U a b) U (0:Int))
theorem afg:aW Tryz.prog 89:=Tryz.call89
theorem JA (U:Nat) {f:fV} {g:bF} (j:Value)  (p:kA)  (k:Value)  (q:q_) (r:Bool) (h:wF U f g=some r):
  aY Tryz.prog 89 #[j,k] [S2 bA j p f,S2 bN k q g] (λx:Unit=>vB (r)) (λx l=>l) (λ_ l=>l):=by
 refine aY.of Tryz.func89 Z Tryz.ntmps89 Z λc=>?_;refine aX<|aD Z<|aN<|aK<|aX<|aA Z<|aB (gU Z (aE.fact 1 Z) Z) Z<|aA Z<|aB (gU Z (aE.fact 0 Z) Z) Z<|rB Z<|aN ?_;refine fD h Z (λh=>?_) λh=>?_
 ·refine aX<|aD Z<|aN<|aV<|aJ ?_;cases h;exact lA Z
 refine cL<|aK<|dW (λe=>uJ  e=some r) (λe n=>[]) (λe n=>[]) ?_ ?_
 ·refine aX<|aA Z<|aB (gU Z (aE.fact 0 Z) Z) Z<|aA Z<|aN<|aT<|dX (qX U f g) (λd o=>[(1,k),(12,j),(13,vI (f.length:Int)),(14,vI (d))]) (λd o=>[]) (0:Int) () h SF (a_.refl _) ?_;intro t d o h;refine aX<|cM Z<|aN<|aK ?_;refine fD h Z (λh=>?_) λh=>?_
  ·refine cL<|aK<|aT<|aX<|aA Z<|cT h λa h=>aB (cC Z Z (aE.fact 0 Z) Z Z a) Z<|aB (b_ Z (aE.fact 0 Z) Z Z a) Z<|aD Z<|aD Z<|aN<|aX<|aA Z<|aA Z<|aA Z<|cT h λb h=>aB (cC Z Z (aE.fact 1 Z) Z Z b) Z<|aB (b_ Z (aE.fact 1 Z) Z Z b) Z<|eZ h λi m h=>aH (zBa abG (LR U ((at' p d).1) ((at' q d).1) i m) Z (aG.cons (zBb (aE.fact 0 Z) a.1 a.2) (aG.cons (zBb (aE.fact 1 Z) b.1 b.2) .nil))) Z λs=>aB (lU Z) Z<|aN ?_;refine Am h Z (λ_ h=>?_) λ_ h=>?_
   ·refine aX<|aD Z<|aN<|aV<|bM<|aJ<|aJ<|bM<|aJ ?_;cases h;exact lA Z
   refine dY<|mN<|aQ<|cJ Z<|aA Z<|aN ?_;exact xR (wI .i64 (d+(1:Int))) () h SF Z
  refine e_ ?_;exact gJ () (()) h SF Z
 intro e n h;unfold uJ at h;refine aX<|aD Z<|aN<|aV ?_;cases h;exact lA Z
def nS (U:Nat) (a:yU) (b:cD) (e:bF):Option (Int):=
 Option.bind (vE U ((a.1,a.2.1,a.2.2)) ((b.1,b.2))) λd=>(if d≠(0:Int)then(some (d))else(Option.bind (kF U ((a.1,a.2.1,a.2.2)) ((b.1,b.2))) λf=>(Option.bind (wF U f e) λc=>(if(!c)=true then(some (10:Int))else(some (0:Int))))))
theorem Yp:aW Tryz.prog 63:=Tryz.call63
theorem Fc (U:Nat) {a:yU} {g:cD} {p:bF} (b:Value)  (d:Value)  (e:Value)  (f:Value)  (o:kA)  (m:Value)  (t:q_) (r:Int) (h:nS U a g p=some r):
  aY Tryz.prog 63 #[Value.agg #[vS (a.1),b,d],Value.agg #[e,f],m] [Sl aS b a.2.1,Sl aL d a.2.2,PF (Value.agg #[vS a.1,b,d]),Sl bN e g.1,S2 bA f o g.2,S2 bN m t p] (λx:Unit=>vI (r)) (λx l=>l) (λ_ l=>l):=by
 refine aY.of Tryz.func63 Z Tryz.ntmps63 Z λc=>?_;refine aX<|aH (aO.box (cs:=[vS (a.1),b,d]) Z Z) Z λz=>aH (aO.box (cs:=[e,f]) Z Z) Z λA=>aD Z<|aN<|aK<|aX<|dN 1 Z<|dN 0 Z<|eZ h λu v h=>aH (zBa aff (Mt U b d e f o u v) Z (mT [0,1,2,3,4] Z)) Z λB=>aD Z<|aN<|aX<|aA Z<|rB Z<|aN ?_;refine fD h Z (λh=>?_) λh=>?_
 ·refine aX<|aA Z<|aD Z<|aN<|aV<|aJ ?_;cases h;exact rX Z
 refine cL<|aK<|aX<|dN 1 Z<|dN 0 Z<|eZ h λq w h=>aH (zBa S_ (BK U b d e f o q w) Z (mT [0,1,2,3,4] Z)) Z λs=>aA Z<|eZ h λk n h=>aH (zBa afg (JA U s.1 (List.zip s.2 q) m t k n) Z (aG.cons (bW (i:=0) (j:=1) Z Z bS) (mT [5] Z))) Z λy=>aB (lU Z) Z<|aN ?_;refine Am h Z (λ_ h=>?_) λ_ h=>?_
 ·refine aX<|aD Z<|aN<|aV<|aJ ?_;cases h;exact rX Z
 refine cL<|aX<|aD Z<|aN<|aV ?_;cases h;exact rX Z
def yM  (a:bF):Option bF:=
 some (a)
def tS (c:bF) (a:Int×bF) (b:(Int×bF)->Option bF):Option bF:=
 if a.1<(c.length:Int)then(ck (0<=a.1∧a.1<(c.length:Int)) (ck ((List.length ([]:aR):Int)+((at' c a.1).length:Int)<=1099511627) (ck (0<=a.1∧a.1<(a.2.length:Int)) (b ((wI .i64 (a.1+(1:Int))),(List.set a.2 (Int.toNat a.1) (([]:aR)++(at' c a.1))))))))else(yM  (a.2))
def mW (U:Nat) (a:bF):Option bF:=
 ck (0<=(a.length:Int)∧(a.length:Int)<=1099511627) (bI (tS a) U ((0:Int),(List.replicate (Int.toNat (a.length:Int)) ([]:aR))))
theorem Od:aW Tryz.prog 49:=Tryz.call49
theorem Ac (U:Nat) {g:bF} (t:Value)  (w:q_) (r:bF) (h:mW U g=some r):
  aY Tryz.prog 49 #[t] [S2 bN t w g] (λx:Jq=>x.1) (λx l=>Ar dD.raw x.1 x.2::lK bZ x.2 r::l) (λ_ l=>l):=by
 refine aY.of Tryz.func49 Z Tryz.ntmps49 Z λc=>?_;refine aX<|aD Z<|aN<|aX<|aA Z<|aB (gU Z (aE.fact 0 Z) Z) Z<|cT h λu h=>jL (w_ bZ (Int.toNat (g.length:Int)))<|aH (mL (e:=dD.raw) (lB) Z Z Z Z u Z Z Z) Z λp=>aD Z<|aN<|aK<|CR (B:=fO) (λm=>yM  m=some r) (λm n=>[(3,p)]) (λm n=>[Ar dD.raw p n,lK bZ n m]) ?_ ?_
 ·refine aX<|aA Z<|aB (gU Z (aE.fact 0 Z) Z) Z<|aA Z<|aN<|aT<|dX (B:=fO) (tS g) (λa b=>[(3,p),(9,t),(10,vI (g.length:Int)),(11,vI (a.1))]) (λa b=>[Ar dD.raw p b,lK bZ b a.2]) ((0:Int),(List.replicate (Int.toNat (g.length:Int)) ([]:aR))) (List.replicate (Int.toNat (g.length:Int)) (lB)) h SF (a_.refl _) ?_;intro v a b h;refine aX<|cM Z<|aN<|aK ?_;refine fD h Z (λh=>?_) λh=>?_
  ·refine cL<|aK<|aT<|aX<|aA Z<|cT h λf h=>aB (cC Z Z (aE.fact 0 Z) Z Z f) Z<|aB (b_ Z (aE.fact 0 Z) Z Z f) Z<|aD Z<|aD Z<|aN<|aQ<|aA Z<|aA Z<|aA Z<|jL (gN bZ)<|cT h λq h=>aH (eW 0 dK Z Z Z (zBb (aE.fact 0 Z) f.1 f.2) Z Z Z Z q Z) Z λs=>cT h λd h=>aB (cC Z Z (bW (i:=1) (j:=2) Z Z dK) Z Z d) Z<|cH (Know.one ((bB (aE.res 0 Z) dK))) λo=>jL (zE (k:=a.1) 2 0 Z Z Z d) ?_;refine pI 0 1 ⟨d.1,by first|exact d.2|simpa using d.2⟩ Z Z Z Z Z (by simp) o Z ?_;refine eM<|mN<|aQ<|cJ Z<|aA Z<|aN ?_;exact xR ((wI .i64 (a.1+(1:Int))),(List.set a.2 (Int.toNat a.1) (([]:aR)++(at' g a.1)))) (List.set b (Int.toNat a.1) s) h SF Z
  refine e_ ?_;exact gJ (a.2) (b) h SF Z
 intro m n h;unfold yM at h;refine aX<|aA Z<|aD Z<|aN<|aV ?_;cases h;exact fP (p,n) Z Z (RV.tmp Z) (a_.refl _) aG.nil
end Go.Proofs.YtlkhndebimcbbaaGreatDoor
namespace Go.Proofs.YtlkhndebimcbbaaGreatDoor
open Go Go.Sx
abbrev sW:=ByteArray×(List D_)×(List wZ)
structure tC (g:GR) (vars:List D_):Prop where
 len:vars.length<=20
 small:∀x,x<vars.length->Ez (at' vars (x:Int))
 kind:∀x,x<vars.length->(at' vars (x:Int)).2.1=1∨(at' vars (x:Int)).2.1=2∨(at' vars (x:Int)).2.1=3
 range:∀x,x<vars.length->(at' vars (x:Int)).2.1=1 -> -100000<=lo g (at' vars (x:Int)) 0∧lo g (at' vars (x:Int)) 0<=hi g (at' vars (x:Int)) 0∧hi g (at' vars (x:Int)) 0 - lo g (at' vars (x:Int)) 0+1<=4096
theorem afV {g:GR} (a:VG g):Bd 1000 g.1=some (iO g g.1.length):=by
 have d:=a.n24;have b:=a.len;have h:=a.n1;have f:0<=at' g.1 ((0:Nat):Int):=(a.node 0 (by omega)).id.1;unfold Bd;rw[if_neg (by omega),cB (by omega)];have:=eL (step:=vK g.1) (K:=some (iO g g.1.length)) (g.1.length - 1) (λk=>(iO g (k+1),((k+1:Nat):Int))) (λk c i=>by
  unfold vK;dsimp only;rw[if_pos (by omega),cB (by omega),fM (by omega)];rfl) (λc=>by
  unfold vK z_;dsimp only;rw[if_neg (by omega),show g.1.length - 1+1=g.1.length by omega]) 1000 (by omega)
 have e:iO g (0+1)=at' g.1 (0:Int):=by
  show max (iO g 0) (at' g.1 ((0:Nat):Int))=_;simp only[iO];have:at' g.1 ((0:Nat):Int)=at' g.1 (0:Int):=rfl;omega
 rw[e]at this;exact this
theorem MN {g:GR} (c:VG g) {x:D_} (o:Ez x) (n:x.2.1=1∨x.2.1=2∨x.2.1=3) {v:Nat} (p:v<g.2.length):kL 1000 x g (v:Int)=some (lo g x v,hi g x v):=by
 obtain⟨⟨B,C⟩,⟨r,s⟩,t,u⟩:=o;have l:=c.n24;have d:=c.len;have e:=Lk c g.1.length (by omega);have w:0<=x.2.2.2.2.1*(g.1.length:Int):=Int.mul_nonneg r (by omega);have y:x.2.2.2.2.1*(g.1.length:Int)<=100000*24:=Int.mul_le_mul s (by omega) (by omega) (by omega);have z:0<=x.2.2.2.2.2*iO g g.1.length:=Int.mul_nonneg t e.1;have A:x.2.2.2.2.2*iO g g.1.length<=100000*255:=Int.mul_le_mul u e.2 e.1 (by omega);have i:pA 1000 x g (v:Int)=some (x.2.2.1,x.2.2.2.1+x.2.2.2.2.1*(g.2.length:Int)+x.2.2.2.2.2*iO g g.1.length):=by
  unfold pA;rw[bD (afV c),wr (x:=x.2.2.2.2.1*_) (by omega) (by omega),wr (x:=x.2.2.2.2.2*_) (by omega) (by omega),wr (x:=x.2.2.2.1+_) (by omega) (by omega),wr (by omega) (by omega),d]
 have j:pB 1000 x g (v:Int)=some (-1,((row g v).length:Int) - 1):=by
  have k:=(c.node v p).deg;unfold pB;rw[cB (by omega)];show some ((-1:Int),wI .i64 (((row g v).length:Int) - 1))=_;rw[wr (by omega) (by omega)]
 have q:∀(f:Nat) (a:Int),bI (fE 1000 x g (v:Int)) (f+1) a=fE 1000 x g (v:Int) a (bI (fE 1000 x g (v:Int)) f):=λf a=>rfl;have b:∀(f:Nat) (a:Int),a=0∨a=1∨a=2->bI (fE 1000 x g (v:Int)) (f+1) a=if a=0 then(if 1=x.2.1 then pA 1000 x g (v:Int)else bI (fE 1000 x g (v:Int)) f 1)else if a=1 then(if 2=x.2.1 then sQ 1000 x g (v:Int)else bI (fE 1000 x g (v:Int)) f 2)else(if 3=x.2.1 then pB 1000 x g (v:Int)else bI (fE 1000 x g (v:Int)) f 3):=by
  intro f a m;rw[q];generalize bI (fE 1000 x g (v:Int)) f=G;unfold fE mZ;rcases m with rfl|rfl|rfl
  ·rw[if_pos (by decide),cB (by decide),if_pos Z,if_pos Z];split
   ·rw[i];rfl
   ·rfl
  ·rw[if_pos (by decide),cB (by decide),if_neg (show¬(1:Int)=0 by decide),if_pos Z,if_neg (show¬(1:Int)=0 by decide),if_pos Z];split
   ·rfl
   ·rfl
  ·rw[if_pos (by decide),cB (by decide),if_neg (show¬(2:Int)=0 by decide),if_neg (show¬(2:Int)=1 by decide),if_neg (show¬(2:Int)=0 by decide),if_neg (show¬(2:Int)=1 by decide)];split
   ·rw[j];rfl
   ·rfl
 unfold kL lo hi;rcases n with h|h|h
 ·rw[b 999 0 (.inl Z),if_pos Z,if_pos h.symm,i,h,if_neg (by decide),if_neg (by decide),if_neg (by decide),if_neg (by decide)]
 ·rw[b 999 0 (.inl Z),if_pos Z,if_neg (by omega),b 998 1 (.inr (.inl Z)),if_neg (by decide),if_pos Z,if_pos h.symm,h,if_pos Z,if_pos Z];rfl
 ·rw[b 999 0 (.inl Z),if_pos Z,if_neg (by omega),b 998 1 (.inr (.inl Z)),if_neg (by decide),if_pos Z,if_neg (by omega),b 997 2 (.inr (.inr Z)),if_neg (by decide),if_neg (by decide),if_pos h.symm,j,h,if_neg (by decide),if_pos Z,if_neg (by decide),if_pos Z]
def qL (g:GR) (a:List D_) (v x:Nat):gE:=(lo g (at' a (x:Int)) v,hi g (at' a (x:Int)) v)
def FS (g:GR) (a:List D_) (v:Nat):fZ:=(List.range a.length).map (qL g a v)
def Ct (g:GR) (a:List D_):fV:=(List.range g.2.length).map (FS g a)
theorem kZ {a:Type} [Inhabited a] (f:Nat->a) {n k:Nat} (h:k<n):at' ((List.range n).map f) (k:Int)=f k:=by
 rw[lX (by simpa using h)];simp
theorem vG {a:Type} (f:Nat->a) (z:a) (n k:Nat) (h:k<n):((List.range k).map f++List.replicate (n - k) z).set k (f k)=(List.range (k+1)).map f++List.replicate (n - (k+1)) z:=by
 rw[show n - k=(n - (k+1))+1 by omega,List.replicate_succ,List.set_append_right _ _ (by simp),List.range_succ];simp
theorem L_ {g:GR} (m:VG g) {p:sW} (n:tC g p.2.1):kF 1000 p g=some (Ct g p.2.1):=by
 have s:=m.n24;have d:=m.len;have w:=n.len;let a:=p.2.1;let Q:Nat->fV:=λk=>(List.range k).map (FS g a)++List.replicate (g.2.length - k) [];have c:∀k,k<=g.2.length->(Q k).length=g.2.length:=λk f=>by simp[Q];omega
 let R:Nat->Nat->fZ:=λk j=>(List.range j).map (qL g a k)++List.replicate (a.length - j) (0,0);have l:∀k j,j<=a.length->(R k j).length=a.length:=λk j b=>by simp[R];omega
 unfold kF;rw[cB (by omega)];rw[show List.replicate (Int.toNat (g.1.length:Int)) ([]:fZ)=Q 0 by simp[Q,d]];refine eL (step:=mM 1000 p g) (K:=some (Ct g a)) g.2.length (λk=>((k:Int),Q k)) (λk e f=> ?_) (λe=> ?_) 1000 (by omega)
 ·unfold mM;dsimp only;rw[if_pos (by simp;omega),cB (by omega),cB (by rw[c k (by omega)];omega)];refine Eq.trans (?_:_=bI (oO 1000 p g ((k:Int),Q k) e) 1000 ((0:Int),(Q k).set k (R k 0))) ?_
  ·rw[zAd,zAd];simp[R,a]
  refine eL (step:=oO 1000 p g ((k:Int),Q k) e) (K:=e (((k+1:Nat):Int),Q (k+1))) a.length (λj=>((j:Int),(Q k).set k (R k j))) (λj h b=> ?_) (λh=> ?_) 1000 (by show p.2.1.length<1000;omega)
  ·have u:j<p.2.1.length:=b;have t:=MN m (n.small j b) (n.kind j b) f;have v:k<(Q k).length:=by rw[c k (by omega)];exact f
   have o:∀X:fZ,at' ((Q k).set k X) (k:Int)=X:=λX=>by rw[tE _ _ _ _ v,if_pos Z]
   have i:j<(R k j).length:=by rw[l k j (by omega)];exact b
   unfold oO;dsimp only;rw[if_pos (by omega),cB (by omega),cB (by simp only[zA2];omega),cB (by simp only[zA2];omega),bD (show kL 1000 _ g (k:Int)=_ from t),zAd,zAd];simp only[o,List.set_set];rw[cB (by omega),cB (by simp only[zA2];omega),fM (by omega)];have:(R k j).set j (lo g (at' p.2.1 (j:Int)) k,hi g (at' p.2.1 (j:Int)) k)=R k (j+1):=vG (qL g a k) (0,0) a.length j b;rw[tE _ _ _ _ i,if_pos Z];dsimp only;rw[this]
  ·unfold oO vZ;dsimp only;rw[if_neg (show¬((a.length:Nat):Int)<(p.2.1.length:Int)from Int.lt_irrefl _),fM (by omega)];have q:R k a.length=FS g a k:=by simp[R,FS]
   have r:(Q k).set k (FS g a k)=Q (k+1):=vG (FS g a) [] g.2.length k f;rw[q,r]
 ·unfold mM vY;dsimp only;rw[if_neg (by simp;omega)];simp[Q,Ct]
theorem acw {g:GR} (c:VG g) {p:sW} (b:tC g p.2.1):vE 1000 p g=some 0:=by
 have i:=c.n1;have h:=b.len;unfold vE;rw[bD (show Cp 1000 _=some true from rfl),if_neg (by decide),bD (show gQ 1000 g=some true from(NF g).1 c),if_neg (by decide)];refine eL (step:=nJ 1000 p g) (K:=some 0) p.2.1.length (λk=>(k:Int)) (λk e d=> ?_) (λe=> ?_) 1000 (by omega)
 ·unfold nJ qN xZ qN;rw[if_pos (by omega),cB (by omega),fM (by omega)];by_cases a:(at' p.2.1 (k:Int)).2.1=1
  ·obtain⟨j,l,m⟩:=b.range k d a;have f:=MN c (b.small k d) (b.kind k d) (v:=0) (by omega);rw[if_neg (by simpa using a),bD (show kL 1000 _ g (0:Int)=_ from f)];dsimp only;rw[if_neg (by omega),wr (x:=hi g (at' p.2.1 (k:Int)) 0 - lo g (at' p.2.1 (k:Int)) 0) (by omega) (by omega),wr (by omega) (by omega),if_neg (by rw[zA3];omega)]
  ·rw[if_pos a]
 ·unfold nJ xY;rw[if_neg (by omega)]
theorem aam {g:GR} {a:List D_} (i:a.length<=20) {v:Nat} {l:aR} (c:l.length=a.length) (d:∀x,x<a.length->lo g (at' a (x:Int)) v<=at' l (x:Int)∧at' l (x:Int)<=hi g (at' a (x:Int)) v):yI 1000 (FS g a v) l=some true:=by
 have f:(FS g a v).length=a.length:=by simp[FS]
 unfold yI;rw[if_neg (by rw[f,c];simp)];refine eL (step:=oT (FS g a v) l) (K:=some true) l.length (λk=>(k:Int)) (λk b h=> ?_) (λb=> ?_) 1000 (by omega)
 ·have e:at' (FS g a v) (k:Int)=qL g a v k:=kZ _ (by omega);have:=d k (by omega);unfold oT wH;rw[if_pos (by omega),cB (by omega),cB (by omega),e];rw[if_neg (show¬at' l (k:Int)<(qL g a v k).1 from Int.not_lt.2 this.1),cB (by omega),if_neg (by rw[zA3];exact Int.not_lt.2 this.2),fM (by omega)]
 ·unfold oT wG;rw[if_neg (by omega)]
theorem Ql {g:GR} (a:VG g) {p:sW} (f:tC g p.2.1) {c:bF} (b:DY g c p.2.1):nS 1000 p g c=some 0:=by
 have i:=a.n24;have l:(Ct g p.2.1).length=g.2.length:=by simp[Ct]
 have d:=b.len;unfold nS;rw[bD (show vE 1000 _ _=some 0 from acw a f),if_neg (by decide),bD (show kF 1000 _ _=_ from L_ a f)];have:wF 1000 (Ct g p.2.1) c=some true:=by
  unfold wF;rw[if_neg (by rw[l,d];simp)];refine eL (step:=qX 1000 (Ct g p.2.1) c) (K:=some true) g.2.length (λk=>(k:Int)) (λk h e=> ?_) (λh=> ?_) 1000 (by omega)
  ·have j:at' (Ct g p.2.1) (k:Int)=FS g p.2.1 k:=kZ _ e;unfold qX;rw[if_pos (by omega),cB (by omega),cB (by omega),j,bD (aam f.len (b.row k e) (b.ok k e)),if_neg (by decide),fM (by omega)]
  ·unfold qX uJ;rw[if_neg (by omega)]
 rw[bD this,if_neg (by decide)]
theorem UP (c:bF) (h:c.length<=900) (e:∀v,v<c.length->(at' c (v:Int)).length<=1000):mW 1000 c=some c:=by
 unfold mW;rw[cB (by omega)];let Q:Nat->bF:=λk=>(List.range k).map (λv:Nat=>at' c (v:Int))++List.replicate (c.length - k) [];rw[show List.replicate (Int.toNat (c.length:Int)) ([]:aR)=Q 0 by simp[Q]];refine eL (step:=tS c) (K:=some c) c.length (λk=>((k:Int),Q k)) (λk b a=> ?_) (λb=> ?_) 1000 (by omega)
 ·have g:(Q k).length=c.length:=by simp[Q];omega
  have:=e k a;unfold tS;dsimp only;rw[if_pos (by omega),cB (by omega),cB (by simp;omega),cB (by omega),fM (by omega),zAd,List.nil_append];have:(Q k).set k (at' c (k:Int))=Q (k+1):=vG (λv:Nat=>at' c (v:Int)) [] c.length k a;rw[this]
 ·unfold tS yM;dsimp only;rw[if_neg (by omega)];congr 1;refine List.ext_getElem (by simp[Q]) λi f d=> ?_;simp[Q,lX d]
def VA (x:Int):Int:=max (-1073741824) (min x 1073741824)
def unD (o x:Int):Int:=if o=18 then wI .i64 (0 - x)else Bv (decide (x=0))
def ade (a b:Int):Int:=if b=0 then 0 else if Int.tmod a b≠0∧((decide (a<0)) != (decide (b<0)))=true then wI .i64 (wI .i64 (Int.tdiv a b) - 1)else wI .i64 (Int.tdiv a b)
def afm (o x y:Int):Bool:=if o=35 then decide (x=y)else if o=36 then decide (x≠y)else if o=37 then decide (x<y)else if o=38 then decide (x<=y)else if o=39 then decide (y<x)else decide (y<=x)
def biD (o x y:Int):Int:=
 if o=30 then VA (wI .i64 (x*y))else if o=31 then VA (ade x y)else if o=32 then(if y=0 then 0 else VA (wI .i64 (x - wI .i64 (y*ade x y))))else if o=33 then VA (wI .i64 (x+y))else if o=34 then VA (wI .i64 (x - y))
 else if o=41 then Bv (decide (x≠0)&&decide (y≠0))else if o=42 then Bv (decide (x≠0)||decide (y≠0))else Bv (afm o x y)
theorem aay (f:Nat) (o x:Int):Bc f o x=some (unD o x):=by
 unfold Bc unD;split
 ·rfl
 ·rw[bD (vM f _)]
theorem Z_ (f:Nat) (a b:Int):rV f a b=some (ade a b):=by
 unfold rV ade;by_cases c:b=0
 ·rw[if_pos c,if_pos c]
 ·rw[if_neg c,if_neg c,cB c,cB c];by_cases d:Int.tmod a b=0
  ·rw[if_neg (by simpa using d),if_neg (by simp[d])];rfl
  ·rw[if_pos d];unfold uI qQ;by_cases e:((decide (a<0)) != (decide (b<0)))=true
   ·rw[if_pos e,if_pos ⟨d,e⟩]
   ·rw[if_neg e,if_neg (λq=>e q.2)]
theorem afn (f:Nat) (o x y:Int):wE f o x y=some (afm o x y):=by
 unfold wE afm
 repeat' split
 all_goals rfl
theorem Wo (f:Nat) (o x y:Int):zW f o x y=some (biD o x y):=by
 unfold zW biD;by_cases h:o=30
 ·rw[if_pos h,if_pos h];rfl
 rw[if_neg h,if_neg h];by_cases h:o=31
 ·rw[if_pos h,if_pos h,bD (Z_ f x y)];rfl
 rw[if_neg h,if_neg h];by_cases h:o=32
 ·rw[if_pos h,if_pos h];by_cases b:y=0
  ·rw[if_pos b,if_pos b]
  ·rw[if_neg b,if_neg b,bD (Z_ f x y)];rfl
 rw[if_neg h,if_neg h];by_cases h:o=33
 ·rw[if_pos h,if_pos h];rfl
 rw[if_neg h,if_neg h];by_cases h:o=34
 ·rw[if_pos h,if_pos h];rfl
 rw[if_neg h,if_neg h];by_cases h:o=41
 ·rw[if_pos h,if_pos h];by_cases a:x=0
  ·rw[if_neg (by simpa using a),bD (vM f _)];simp[a,qO]
  ·rw[if_pos a,bD (vM f _)];simp[a,qO]
 rw[if_neg h,if_neg h];by_cases h:o=42
 ·rw[if_pos h,if_pos h];by_cases a:x=0
  ·rw[if_neg (by simpa using a),bD (vM f _)];simp[a,qP]
  ·rw[if_pos a,bD (vM f _)];simp[a,qP]
 rw[if_neg h,if_neg h,bD (afn f o x y),bD (vM f _)]
def E.den (L:Int->Int->Int->Int) (b:Nat):E->Int->Int
 |lf o a,p=>L o a p
 |un o x,p=>unD o (x.den L b p)
 |ag o x,_=>UW o ((List.range b).map λq=>x.den L b ((q:Nat):Int))
 |bi o x y,p=>biD o (x.den L b p) (y.den L b p)
 |ite x y z,p=>if x.den L b p≠0 then y.den L b p else z.den L b p
def E.wf (c:Nat):Bool->E->Bool
 |b,lf o a=>decide (1<=o)&&decide (o<=17)&&(b||decide (o<=10))&&((decide (o≠5)&&decide (o≠12))||(decide (0<=a)&&decide (a<(c:Int))))
 |b,un o x=>decide (18<=o)&&decide (o<=19)&&x.wf c b
 |_,ag o x=>(decide (o=20)||decide (o=21)||decide (o=22)||decide (o=23)||decide (o=24)||decide (o=26)||decide (o=27))&&x.wf c true
 |b,bi o x y=>decide (30<=o)&&decide (o<=42)&&x.wf c b&&y.wf c b
 |b,ite x y z=>x.wf c b&&y.wf c b&&z.wf c b
theorem aaY {i:Nat}:∀{e:E} {b:Bool},e.wf i b=true->e.arOk=true:=by
 intro e
 induction e with
 |lf o a=>intro b h;simp[E.wf,E.arOk]at h ⊢;omega
 |un o x f=>intro b h;simp[E.wf,E.arOk]at h ⊢;exact⟨h.1,f h.2⟩
 |ag o x f=>intro b h;simp[E.wf,E.arOk]at h ⊢;exact⟨by omega,f h.2⟩
 |bi o x y c d=>intro b h;simp[E.wf,E.arOk]at h ⊢;exact⟨⟨h.1.1,c h.1.2⟩,d h.2⟩
 |ite x y z c d g=>intro b h;simp[E.wf,E.arOk]at h ⊢;exact⟨⟨c h.1.1,d h.1.2⟩,g h.2⟩
def ZK (W:WLK) (p:Int):Int:=(at' (at' W.1.2.1.2 W.2.2.1) p).1
def Vg (W:WLK) (o a p:Int):Int:=
 if o=1 then a else if o=2 then 1 else if o=3 then 0 else if o=4 then -1 else if o=5 then at' (at' W.2.1 W.2.2.1) a else if o=12 then at' (at' W.2.1 (ZK W p)) a
 else if o=6 then(W.1.2.1.1.length:Int)else if o=7 then W.1.2.2.1 else if o=8 then at' W.1.2.1.1 W.2.2.1 else if o=9 then((at' W.1.2.1.2 W.2.2.1).length:Int)else if o=10 then Bv (decide (W.2.2.1=0))else if o=11 then p
 else if o=13 then at' W.1.2.1.1 (ZK W p)else if o=14 then((at' W.1.2.1.2 (ZK W p)).length:Int)else if o=15 then Bv (decide (ZK W p=0))else if o=16 then(at' (at' W.1.2.1.2 W.2.2.1) p).2 else at' (at' W.1.2.2.2 W.2.2.1) p
structure WOk (W:WLK) (nv n v:Nat):Prop where
 node:W.2.2.1=(v:Int)
 lt:v<n
 ports:W.1.2.1.2.length=n
 ids:W.1.2.1.1.length=n
 c:W.2.1.length=n
 row:∀u:Nat,u<n->(at' W.2.1 (u:Int)).length=nv
 to:∀u:Nat,u<n->∀i:Nat,i<(at' W.1.2.1.2 (u:Int)).length->0<=(at' (at' W.1.2.1.2 (u:Int)) (i:Int)).1∧(at' (at' W.1.2.1.2 (u:Int)) (i:Int)).1<(n:Int)
 bl:W.1.2.2.2.length=n
 br:∀u:Nat,u<n->(at' W.1.2.2.2 (u:Int)).length=(at' W.1.2.1.2 (u:Int)).length
def XN (b:Bool) (a:Nat) (p:Int):Prop:=b=true->∃q:Nat,p=(q:Int)∧q<a
theorem acN {W:WLK} {k n v:Nat} (h:WOk W k n v) (f:Nat) {b:Bool} {o a p:Int} (s:(E.lf o a).wf k b=true) (r:XN b (at' W.1.2.1.2 (v:Int)).length p):mR f W (o,a) p=some (Vg W o a p):=by
 obtain⟨y,c,A,B,C,l,m,F,w⟩:=h;simp only[E.wf,zA6,zAr,zA3]at s;obtain⟨⟨⟨G,H⟩,d⟩,I⟩:=s;have z:(at' W.2.1 (v:Int)).length=k:=l v c;unfold mR Vg ZK;dsimp only;rw[y];by_cases e:o=1
 ·simp only[if_pos e]
 simp only[if_neg e];by_cases e:o=2
 ·simp only[if_pos e]
 simp only[if_neg e];by_cases e:o=3
 ·simp only[if_pos e]
 simp only[if_neg e];by_cases e:o=4
 ·simp only[if_pos e]
 simp only[if_neg e];by_cases e:o=5
 ·simp only[if_pos e];rw[cB (by omega),cB (by omega)]
 simp only[if_neg e];by_cases e:o=12
 ·have i:b=true:=by
   rcases d with d|d
   ·exact d
   ·omega
  obtain⟨q,rfl,j⟩:=r i;have g:=m v c q j;obtain⟨u,x⟩:∃u:Nat,(at' (at' W.1.2.1.2 (v:Int)) (q:Int)).1=(u:Int):=⟨_,(Int.toNat_of_nonneg g.1).symm⟩
  simp only[if_pos e];rw[x]at g ⊢;have D:=l u (by omega);rw[cB (by omega),cB (by omega),cB (by omega),cB (by omega)]
 simp only[if_neg e];unfold tJ;dsimp only;by_cases e:o=6
 ·simp only[if_pos e];rfl
 simp only[if_neg e];by_cases e:o=7
 ·simp only[if_pos e];rfl
 simp only[if_neg e];by_cases e:o=8
 ·simp only[if_pos e];rw[cB (by omega)];rfl
 simp only[if_neg e];by_cases e:o=9
 ·simp only[if_pos e];rw[cB (by omega)];rfl
 simp only[if_neg e];by_cases e:o=10
 ·simp only[if_pos e];rw[bD (vM f _)];rfl
 simp only[if_neg e];by_cases e:o=11
 ·simp only[if_pos e];rfl
 simp only[if_neg e];have i:b=true:=by
  rcases d with d|d
  ·exact d
  ·omega
 obtain⟨q,rfl,j⟩:=r i;have g:=m v c q j;rw[cB (by omega),cB (by omega)];by_cases e:o=13
 ·simp only[if_pos e];rw[cB (by omega)];rfl
 simp only[if_neg e];by_cases e:o=14
 ·simp only[if_pos e];rw[cB (by omega)];rfl
 simp only[if_neg e];by_cases e:o=15
 ·simp only[if_pos e];rw[bD (vM f _)];rfl
 simp only[if_neg e];by_cases e:o=16
 ·simp only[if_pos e];rfl
 simp only[if_neg e];have t:=w v c;rw[cB (by omega),cB (by omega)];rfl
theorem aaN {W:WLK} {nv n v:Nat} (h:WOk W nv n v) {deg:Nat} (m:(at' W.1.2.1.2 (v:Int)).length=deg) (L:deg<=24) (S:W.2.2.2.length<=800):
  ∀(e:E) (b:Bool) (c k:Nat) (p:Int) (g d:fZ),W.2.2.2=g++(e.ts++d)->g.length=k->e.wf nv b=true->XN b deg p->e.depth+850<=c->
   bU c W (k:Int) p=some (e.den (Vg W) deg p,(((k+e.ts.length:Nat)):Int)):=by
 obtain⟨Q,ab,h1,h2,h3,h4,h5,_,_⟩:=id h;have i:∀{t:gE} {l g d:fZ} {k:Nat},W.2.2.2=g++((t::l)++d)->g.length=k->at' W.2.2.2 (k:Int)=t∧(k:Int)<(W.2.2.2.length:Int):=by
  intro t l g d k j r;refine⟨UB (rest:=l++d) (by simpa using j) r,?_⟩
  rw[j];simp;omega
 intro e
 induction e with
 |lf o a=>
  intro b c k p g d j r u w B;obtain⟨c,rfl⟩:∃f,c=f+1:=⟨c - 1,by omega⟩
  obtain⟨A,s⟩:=i (l:=[]) j r;show dG (bU c) c W (k:Int) p=_;unfold dG;rw[cB ⟨by omega,s⟩,A];dsimp only;have X:=u;simp only[E.wf,zA6,zAr,zA3]at X;have hl:=acN h c u (m▸w);rw[if_pos (by omega),bD (show mR c _ (o,a) p=some (Vg W o a p)from hl),fM (by omega)];rfl
 |un o x ih=>
  intro b c k p g d j r u w B;obtain⟨c,rfl⟩:∃f,c=f+1:=⟨c - 1,by omega⟩
  obtain⟨A,s⟩:=i (l:=x.ts) j r;show dG (bU c) c W (k:Int) p=_;unfold dG;rw[cB ⟨by omega,s⟩,A];dsimp only;simp only[E.wf,zA6,zA3]at u;simp only[E.depth]at B;have F:=ih b c (k+1) p (g++[(o,0)]) d (by rw[j];simp[E.ts]) (by simp[r]) u.2 w (by omega);rw[if_neg (by omega),if_pos (by omega),fM (by omega),bD (show bU c _ _ p=_ from F),bD (aay c _ _)];simp only[E.den,E.ts,zAh];rw[show k+1+x.ts.length=k+(x.ts.length+1) by omega]
 |bi o x y G H=>
  intro b c k p g d j r u w B;obtain⟨c,rfl⟩:∃f,c=f+1:=⟨c - 1,by omega⟩
  obtain⟨A,s⟩:=i (l:=x.ts++y.ts) j r;show dG (bU c) c W (k:Int) p=_;unfold dG;rw[cB ⟨by omega,s⟩,A];dsimp only;simp only[E.wf,zA6,zA3]at u;simp only[E.depth]at B;have F:=G b c (k+1) p (g++[(o,0)]) (y.ts++d) (by rw[j];simp[E.ts]) (by simp[r]) u.1.2 w (by omega);have Y:=H b c (k+1+x.ts.length) p (g++(o,0)::x.ts) d (by rw[j];simp[E.ts]) (by simp[r];omega) u.2 w (by omega);rw[if_neg (by omega),if_neg (by omega),if_neg (by omega),if_pos (by omega),fM (by omega),bD (show bU c _ _ p=_ from F),bD (show bU c _ _ p=_ from Y),bD (Wo c _ _ _)];simp only[E.den,E.ts,zAh,zAi];rw[show k+1+x.ts.length+y.ts.length=k+(x.ts.length+y.ts.length+1) by omega]
 |ite x y z G H aa=>
  intro b c k p g d j r u w B;obtain⟨c,rfl⟩:∃f,c=f+1:=⟨c - 1,by omega⟩
  obtain⟨A,s⟩:=i (l:=x.ts++(y.ts++z.ts)) j r;show dG (bU c) c W (k:Int) p=_;unfold dG;rw[cB ⟨by omega,s⟩,A];dsimp only;simp only[E.wf,zA6]at u;simp only[E.depth]at B;have F:=G b c (k+1) p (g++[(43,0)]) (y.ts++z.ts++d) (by rw[j];simp[E.ts]) (by simp[r]) u.1.1 w (by omega);have Y:=H b c (k+1+x.ts.length) p (g++(43,0)::x.ts) (z.ts++d) (by rw[j];simp[E.ts]) (by simp[r];omega) u.1.2 w (by omega);have hz:=aa b c (k+1+x.ts.length+y.ts.length) p (g++(43,0)::(x.ts++y.ts)) d (by rw[j];simp[E.ts]) (by simp[r];omega) u.2 w (by omega);rw[if_neg (by decide),if_neg (by decide),if_neg (by decide),if_neg (by decide),fM (by omega),bD (show bU c _ _ p=_ from F),bD (show bU c _ _ p=_ from Y),bD (show bU c _ _ p=_ from hz)];simp only[E.den,E.ts,zAh,zAi];rw[show k+1+x.ts.length+y.ts.length+z.ts.length=k+(x.ts.length+(y.ts.length+z.ts.length)+1) by omega];split<;>rfl
 | ag o x ih =>
  intro b c k p g d j r u w B;obtain⟨c,rfl⟩:∃f,c=f+1:=⟨c - 1,by omega⟩
  obtain⟨A,s⟩:=i (l:=x.ts) j r;have T:=aaY u;have R:=u;simp only[E.wf,zA6,zAr,zA3]at R;simp only[E.depth]at B;have P:(E.ag o x).ts.length=x.ts.length+1:=rfl;have M:=congrArg List.length j;simp only[zAi]at M;show dG (bU c) c W (k:Int) p=_;unfold dG;rw[cB ⟨by omega,s⟩,A];dsimp only;rw[if_neg (by omega),if_neg (by omega),if_pos (by omega),cB (by omega)];let D:Nat->Int:=λq=>x.den (Vg W) deg ((q:Nat):Int);let V:Nat->aR:=λq=>(List.range q).map D++List.replicate (24 - q) 0;have J:∀q,q<=24->(V q).length=24:=λq U=>by simp[V];omega
  have O:∀q,q<24->(V q).set q (D q)=V (q+1):=λq U=>by
   show((List.range q).map D++List.replicate (24 - q) 0).set q (D q)=(List.range (q+1)).map D++List.replicate (24 - (q+1)) 0;rw[show 24 - q=(24 - (q+1))+1 by omega,List.replicate_succ,List.set_append_right _ _ (by simp),List.range_succ];simp
  let N:Nat->Int:=λq=>if q=0 then 0 else(((k+1+x.ts.length:Nat)):Int)
  refine Eq.trans (eL (step:=kT c W (k:Int) (bU c)) (K:=some ((E.ag o x).den (Vg W) deg p,(((k+(E.ag o x).ts.length:Nat)):Int))) deg (λq=>(N q,(q:Int),V q)) (λq ag U=> ?_) (λag=> ?_) c (by omega)) Z
  ·unfold kT;dsimp only;have F:=ih true c (k+1) ((q:Nat):Int) (g++[(o,0)]) d (by rw[j];simp[E.ts]) (by simp[r]) R.2 (λ_=>⟨q,rfl,U⟩) (by omega);rw[if_pos (by rw[Q,m];omega),fM (by omega),bD (show bU c _ _ _=_ from F),cB ⟨by omega,J q (by omega)⟩,fM (by omega),zAd];show ag (_,_,(V q).set q (D q))=_;rw[O q (by omega)];simp only[N];rw[if_neg (by omega)]
  ·unfold kT;dsimp only;rw[if_neg (by rw[Q,m];omega)];have C:List.take deg (V deg)=(List.range deg).map D:=by
    show List.take deg ((List.range deg).map D++_)=_;exact List.take_left' (by simp)
   have I:∀y:Int,y=(((k+1+x.ts.length:Nat)):Int)->kS c W (k:Int) (N deg,V deg) y=some ((E.ag o x).den (Vg W) deg p,(((k+(E.ag o x).ts.length:Nat)):Int)):=by
    rintro y rfl;unfold kS;dsimp only;rw[Q,m,cB ⟨by omega,by omega,by rw[J deg L];omega⟩,A,zAd,C,bD (acx c o _ (by omega) (by simp;omega) (by omega))];unfold oC;rw[P,show k+1+x.ts.length=k+(x.ts.length+1) by omega];rfl
   unfold sM;dsimp only;by_cases h0:deg=0
   ·rw[if_pos (by rw[Q,m];omega),bD (afv c (E.ag o x) T j r S (by omega))];exact I _ (by rw[P];omega)
   ·rw[if_neg (by rw[Q,m];omega)];exact I _ (by simp only[N];rw[if_neg h0])
end Go.Proofs.YtlkhndebimcbbaaGreatDoor
namespace Go.Proofs.YtlkhndebimcbbaaGreatDoor
open Go.Sx
def gW (U:Nat) (a:Xi) (b:bF) (c:Int) (d:fZ):Option (Int):=
 Option.bind (bU U ((((((a.1.1,a.1.2.1,a.1.2.2)),((a.2.1.1,a.2.1.2)),a.2.2.1,a.2.2.2)),b,c,d)) (0:Int) (-1:Int)) λe=>(some (e.1))
theorem UE:aW Tryz.prog 126:=Tryz.call126
theorem zB (U:Nat) {d:Xi} {s:bF} {f:Int} {t:fZ} (a:Nat)  (m:Value)  (n:Value)  (o:Value)  (p:Value)  (u:kA)  (q:Value)  (v:q_)  (e:Value)  (y:q_)  (b:Value) (r:Int) (h:gW U d s f t=some r):
  aY Tryz.prog 126 #[vP a,e,vI (f),b] [bV a [vS (d.1.1),m,n,o,p,vI (d.2.2.1),q] 134,Sl aS m d.1.2.1,Sl aL n d.1.2.2,Sl bN o d.2.1.1,S2 bA p u d.2.1.2,S2 bN q v d.2.2.2,S2 bN e y s,Sl bA b t] (λx:Unit=>vI (r)) (λx l=>l) (λ_ l=>l):=by
 refine aY.of Tryz.func126 Z Tryz.ntmps126 Z λc=>?_;refine aX<|aD Z<|aN<|aX<|aA Z<|aA Z<|aA Z<|aA Z<|cH (Know.one (aE.sl (aE.fact 6 Z))) λg=>cH (Know.one ((aE.fact 7 Z))) λi=>?_;refine aB (SH (r:=Value.agg #[Value.pointer (some ⟨a,0,none⟩),e,vI (f),b]) Z Z Z Z (by intro w;simp[Instr.build,Instr.fill,dR,cW,cO,dU,dV,cX,eY,eO g,eO i])) Z ?_;refine aH (aO.alloc (cs:=[Value.pointer none,lB,vI (0:Int),lB]) Z Z) Z λz=>cH (Know.one (aE.sl (aE.fact 6 Z))) λj=>cH (Know.one ((aE.fact 7 Z))) λk=>bQ 0 (vs:=[vP a,e,vI (f),b]) Z Z (lN Z (lN j (lN Z (lN k Z)))) Z Z Z<|aN<|aX<|eZ h λA B h=>aH (zBa B_ (EX U z a m n o p u q v e y b A B) Z (aG.cons (aE.res 0 Z) (mT [0,1,2,3,4,5,6,7] Z))) Z λC=>aA Z<|jM Z<|jM Z<|aD Z<|aD Z<|aN<|aX<|aA Z<|aD Z<|aN<|aV ?_;cases h;exact rX Z
def kY (U:Nat) (a:Xi) (c:bF) (d:Int) (b:Int):Option Bool:=
 ck (0<=b∧b<(a.1.2.2.length:Int)) (Option.bind (gW U ((((a.1.1,a.1.2.1,a.1.2.2)),((a.2.1.1,a.2.1.2)),a.2.2.1,a.2.2.2)) c d ((at' a.1.2.2 b).2.1.2)) λe=>(some (decide (e≠(0:Int)))))
theorem afh:aW Tryz.prog 92:=Tryz.call92
theorem Ep (U:Nat) {a:Xi} {n:bF} {o:Int} {e:Int} (b:Nat)  (f:Value)  (g:Value)  (i:Value)  (j:Value)  (p:kA)  (k:Value)  (q:q_)  (m:Value)  (s:q_) (r:Bool) (h:kY U a n o e=some r):
  aY Tryz.prog 92 #[vP b,m,vI (o),vI (e)] [bV b [vS (a.1.1),f,g,i,j,vI (a.2.2.1),k] 134,Sl aS f a.1.2.1,Sl aL g a.1.2.2,Sl bN i a.2.1.1,S2 bA j p a.2.1.2,S2 bN k q a.2.2.2,S2 bN m s n] (λx:Unit=>vB (r)) (λx l=>l) (λ_ l=>l):=by
 refine aY.of Tryz.func92 Z Tryz.ntmps92 Z λc=>?_;refine aX<|aD Z<|aN<|aX<|aA Z<|aA Z<|aA Z<|aA Z<|aB (bY Z) Z<|bX Z<|bX Z<|aB (dZ Z (aE.fact 0 Z) Z Z Z) Z<|aA Z<|cT h λd h=>aB (aZ Z Z (aE.fact 2 Z) Z Z d) Z<|aB (gF Z Z Z Z Z) Z<|aB (jJ Z (aE.fact 2 Z) Z Z Z AW d) Z<|eZ h λt u h=>aH (zBa UE (zB U b f g i j p k q m s ((at' a.1.2.2 e).2.1.1) t u) Z (aG.cons (aE.fact 0 Z) (aG.cons (aE.fact 1 Z) (aG.cons (aE.fact 2 Z) (aG.cons (aE.fact 3 Z) (aG.cons (aE.fact 4 Z) (aG.cons (aE.fact 5 Z) (aG.cons (aE.fact 6 Z) (aG.cons (wX (aE.fact 2 Z) AY d.1 d.2) .nil))))))))) Z λv=>rB Z<|aD Z<|aN<|aV ?_;cases h;exact lA Z
def oE  (a:Unit):Option (Int):=
 some (-1:Int)
def kV (U:Nat) (a:IU) (d:bF) (e:Int) (b:Int) (c:(Int)->Option (Int)):Option (Int):=
 if b<(a.1.2.2.length:Int)then(Option.bind (kY U ((((a.2.1.1.1,a.2.1.1.2.1,a.2.1.1.2.2)),((a.2.1.2.1.1,a.2.1.2.1.2)),a.2.1.2.2.1,a.2.1.2.2.2)) d e b) λf=>(if f=true then(some (b))else(c (wI .i64 (b+(1:Int))))))else(oE  (()))
def fF (U:Nat) (a:IU) (b:bF) (c:Int):Option (Int):=
 bI (kV U a b c) U (0:Int)
theorem Yq:aW Tryz.prog 68:=Tryz.call68
theorem Av (U:Nat) {a:IU} {n:bF} {m:Int} (d:Nat)  (z:Value)  (A:Value)  (e:Nat)  (o:Value)  (p:Value)  (q:Value)  (s:Value)  (B:kA)  (t:Value)  (g:q_)  (f:Value)  (v:kA)  (b:Value)  (i:q_) (r:Int) (h:fF U a n m=some r):
  aY Tryz.prog 68 #[vP d,b,vI (m)] [bV d [vS (a.1.1),z,A,vP e,f] 106,Sl aS z a.1.2.1,Sl aL A a.1.2.2,bV e [vS (a.2.1.1.1),o,p,q,s,vI (a.2.1.2.2.1),t] 134,Sl aS o a.2.1.1.2.1,Sl aL p a.2.1.1.2.2,Sl bN q a.2.1.2.1.1,S2 bA s B a.2.1.2.1.2,S2 bN t g a.2.1.2.2.2,S2 bA f v a.2.2,S2 bN b i n] (λx:Unit=>vI (r)) (λx l=>l) (λ_ l=>l):=by
 refine aY.of Tryz.func68 Z Tryz.ntmps68 Z λc=>?_;unfold fF at h;refine aX<|aD Z<|aN<|aK<|dW (λj=>oE  j=some r) (λj w=>[]) (λj w=>[]) ?_ ?_
 ·refine aX<|aA Z<|aB (bY Z) Z<|bX Z<|bX Z<|aB (dZ Z (aE.fact 0 Z) Z Z Z) Z<|jN (aE.fact 2 Z) Z<|aA Z<|aN<|aT<|dX (kV U a n m) (λk y=>[(0,vP d),(1,b),(2,vI (m)),(13,vI (a.1.2.2.length:Int)),(14,vI (k))]) (λk y=>[]) (0:Int) () h SF (a_.refl _) ?_;intro E k y h;refine aX<|cM Z<|aN<|aK ?_;refine fD h Z (λh=>?_) λh=>?_
  ·refine cL<|aK<|aT<|aX<|aA Z<|aD Z<|aN<|aX<|aA Z<|aB (bY Z) Z<|bX Z<|aB (dZ Z (aE.fact 0 Z) Z Z Z) Z<|aA Z<|aA Z<|aA Z<|eZ h λC u h=>aH (zBa afh (Ep U e o p q s B t g b i C u) Z (mT [3,4,5,6,7,8,10] Z)) Z λD=>aN ?_;refine Am h Z (λ_ h=>?_) λ_ h=>?_
   ·refine aX<|aA Z<|aD Z<|aN<|aV<|bM<|aJ<|aJ<|bM<|aJ ?_;cases h;exact lA Z
   refine dY<|mN<|aQ<|cJ Z<|aA Z<|aN ?_;exact xR (wI .i64 (k+(1:Int))) () h SF Z
  refine e_ ?_;exact gJ () (()) h SF Z
 intro j w h;unfold oE at h;refine aX<|aD Z<|aN<|aV ?_;cases h;exact lA Z
def vX (d:Int) (a:gE) (b:Int) (c:Bool):Option (Int):=
 if c=true then(some (b))else(if d=(3:Int)then(some (-1:Int))else(if b<a.1 then(some (a.1))else(some (a.2))))
def yH (U:Nat) (c:Int) (a:gE) (b:Int):Option (Int):=
 if a.1<=b then(vX c a b (decide (b<=a.2)))else(vX c a b (false))
theorem abQ:aW Tryz.prog 166:=Tryz.call166
theorem LQ (U:Nat) {e:Int} {a:gE} {d:Int} (r:Int) (h:yH U e a d=some r):
  aY Tryz.prog 166 #[vI (e),Value.agg #[vI (a.1),vI (a.2)],vI (d)] [] (λx:Unit=>vI (r)) (λx l=>l) (λ_ l=>l):=by
 refine aY.of Tryz.func166 Z Tryz.ntmps166 Z λc=>?_;refine aX<|aH (aO.box (cs:=[vI (a.1),vI (a.2)]) Z Z) Z λf=>aD Z<|aN<|aK<|aT<|aK<|dW (λb=>vX e a d b=some r) (λb g=>[(0,vI (e)),(2,vI (d)),(4,vP f),(7,vB (b))]) (λb g=>[bV f [vI (a.1),vI (a.2)] 138]) ?_ ?_
 ·refine aQ<|aA Z ?_;refine aB (pJ (i:=0) Z Z Z Z Z (by decide)) Z ?_;refine dQ 0 Z<|aB (Bu Z Z) Z<|aA Z ?_;refine Eo h Z (λ_ h=>?_) λ_ h=>?_
  ·refine cP Z ?_;refine aP Z (pJ (i:=1) Z Z Z Z Z (by decide)) Z ?_;refine aP Z (eB 0 Z Z Z Z Z) Z<|aP Z (CE Z Z) Z<|dO Z<|aD Z<|aN ?_;exact gJ (decide (d<=a.2)) () h SF Z
  refine aI Z<|aI Z<|aI Z<|aI Z<|fH Z<|aD Z<|aN ?_;exact gJ (false) () h SF Z
 intro b g h;refine Am h Z (λ_ h=>?_) λ_ h=>?_
 ·refine aX<|aA Z<|aD Z<|aN<|aV<|bM<|aJ ?_;cases h;exact rX Z
 refine aX<|aA Z<|cS Z<|aD Z<|aN ?_;refine fD h Z (λh=>?_) λh=>?_
 ·refine aX<|aD Z<|aN<|aV<|bM<|aJ ?_;cases h;exact rX Z
 refine aX<|aA Z ?_;refine aB (pJ (i:=0) Z Z Z Z Z (by decide)) Z ?_;refine dQ 0 Z<|cM Z<|aD Z<|aN ?_;refine fD h Z (λh=>?_) λh=>?_
 ·refine aX ?_;refine aB (pJ (i:=0) Z Z Z Z Z (by decide)) Z ?_;refine dQ 0 Z<|aD Z<|aN<|aV<|bM<|aJ ?_;cases h;exact rX Z
 refine dY<|mN<|aX ?_;refine aB (pJ (i:=1) Z Z Z Z Z (by decide)) Z ?_;refine dQ 0 Z<|aD Z<|aN<|aV ?_;cases h;exact rX Z
def oD  (a:aR):Option aR:=
 some (a)
def kU (U:Nat) (b:IU) (h:bF) (d:Int) (c:Int) (a:lL) (e:rZ->Option aR):Option aR:=
 if a.1<(((at' b.1.2.2 c).2.2.2).length:Int)then(ck (0<=a.1∧a.1<(((at' b.1.2.2 c).2.2.2).length:Int)) (Option.bind (gW U ((((b.2.1.1.1,b.2.1.1.2.1,b.2.1.1.2.2)),((b.2.1.2.1.1,b.2.1.2.1.2)),b.2.1.2.2.1,b.2.1.2.2.2)) h d ((at' ((at' b.1.2.2 c).2.2.2) a.1).2.2)) λf=>(ck (0<=((at' ((at' b.1.2.2 c).2.2.2) a.1).1)∧((at' ((at' b.1.2.2 c).2.2.2) a.1).1)<(b.1.2.1.length:Int)) (ck (0<=d∧d<(b.2.2.length:Int)) (ck (0<=((at' ((at' b.1.2.2 c).2.2.2) a.1).1)∧((at' ((at' b.1.2.2 c).2.2.2) a.1).1)<((at' b.2.2 d).length:Int)) (Option.bind (yH U ((at' b.1.2.1 ((at' ((at' b.1.2.2 c).2.2.2) a.1).1)).2.1) ((((at' (at' b.2.2 d) ((at' ((at' b.1.2.2 c).2.2.2) a.1).1)).1),((at' (at' b.2.2 d) ((at' ((at' b.1.2.2 c).2.2.2) a.1).1)).2))) f) λg=>(ck (0<=((at' ((at' b.1.2.2 c).2.2.2) a.1).1)∧((at' ((at' b.1.2.2 c).2.2.2) a.1).1)<(a.2.length:Int)) (e ((wI .i64 (a.1+(1:Int))),(List.set a.2 (Int.toNat ((at' ((at' b.1.2.2 c).2.2.2) a.1).1)) g))))))))))else(oD  (a.2))
def mC (U:Nat) (d:IU) (b:bF) (a:Int) (c:Int):Option aR:=
 ck (0<=a∧a<(b.length:Int)) (ck ((List.length ([]:aR):Int)+((at' b a).length:Int)<=1099511627) (ck (0<=c∧c<(d.1.2.2.length:Int)) (bI (kU U d b a c) U ((0:Int),(([]:aR)++(at' b a))))))
theorem abM:aW Tryz.prog 147:=Tryz.call147
theorem EY (U:Nat) {b:IU} {C:bF} {m:Int} {f:Int} (j:Nat)  (O:Value)  (P:Value)  (k:Nat)  (E:Value)  (F:Value)  (G:Value)  (H:Value)  (Q:kA)  (I:Value)  (y:q_)  (w:Value)  (M:kA)  (i:Value)  (A:q_) (r:aR) (h:mC U b C m f=some r):
  aY Tryz.prog 147 #[vP j,i,vI (m),vI (f)] [bV j [vS (b.1.1),O,P,vP k,w] 106,Sl aS O b.1.2.1,Sl aL P b.1.2.2,bV k [vS (b.2.1.1.1),E,F,G,H,vI (b.2.1.2.2.1),I] 134,Sl aS E b.2.1.1.2.1,Sl aL F b.2.1.1.2.2,Sl bN G b.2.1.2.1.1,S2 bA H Q b.2.1.2.1.2,S2 bN I y b.2.1.2.2.2,S2 bA w M b.2.2,S2 bN i A C] (λx:Value=>x) (λx l=>Ar bZ x r::l) (λ_ l=>l):=by
 refine aY.of Tryz.func147 Z Tryz.ntmps147 Z λc=>?_;refine aX<|aD Z<|aN<|aX<|aA Z<|aA Z<|cT h λB h=>aB (cC Z Z (aE.fact 10 Z) Z Z B) Z<|aB (b_ Z (aE.fact 10 Z) Z Z B) Z<|jL (gN bZ)<|cT h λS h=>aH (eW 0 dK Z Z Z (zBb (aE.fact 10 Z) B.1 B.2) Z Z Z Z S Z) Z λv=>aD Z<|aN<|aK<|dW (λo=>oD  o=some r) (λo N=>[(9,v)]) (λo N=>[Ar bZ v o]) ?_ ?_
 ·refine aX<|aA Z<|aB (bY Z) Z<|bX Z<|bX Z<|aB (dZ Z (aE.fact 0 Z) Z Z Z) Z<|aA Z<|cT h λg h=>aB (aZ Z Z (aE.fact 2 Z) Z Z g) Z<|aB (gF Z Z Z Z Z) Z<|aB (jJ Z (aE.fact 2 Z) Z Z Z AX g) Z<|aB (fX Z (wX (aE.fact 2 Z) gX g.1 g.2) Z) Z<|aA Z<|aN<|aT<|dX (kU U b C m f) (λa p=>[(0,vP j),(1,i),(2,vI (m)),(9,v),(26,(at' b.1.2.2 f).2.2.1),(27,vI (((at' b.1.2.2 f).2.2.2).length:Int)),(28,vI (a.1))]) (λa p=>[Ar bZ v a.2]) ((0:Int),(([]:aR)++(at' C m))) () h SF (a_.refl _) ?_;intro T a p h;refine aX<|cM Z<|aN<|aK ?_;refine fD h Z (λh=>?_) λh=>?_
  ·refine cL<|aK<|aT<|aX<|cT h λd h=>aB (aZ Z Z (wX (aE.fact 2 Z) gX g.1 g.2) Z Z d) Z<|aB (SJ (cs:=[vI ((at' ((at' b.1.2.2 f).2.2.2) a.1).1),(at' ((at' b.1.2.2 f).2.2.2) a.1).2.1]) Z (wX (aE.fact 2 Z) gX g.1 g.2) Mi Z Z Z Z d) Z<|aH (aO.alloc (cs:=[vI (0:Int),lB]) Z Z) Z λR=>cH (Know.one ((wX (wX (aE.fact 2 Z) gX g.1 g.2) DZ d.1 d.2))) λq=>bQ 0 (vs:=[vI ((at' ((at' b.1.2.2 f).2.2.2) a.1).1),(at' ((at' b.1.2.2 f).2.2.2) a.1).2.1]) Z Z (lN Z (lN q Z)) Z Z Z<|aN<|aK ?_;refine JR.start [0,1,3,7,0,0,0,64,255,511] 8 mixedOrders (by decide +kernel) ?_;refine zBd (by exact rfl) ?_;refine bG Z<|jD Z (bY Z)<|dB Z<|bJ Z .nil (jS 0 Z) (dZ Z (aE.fact 0 Z) Z Z Z) aM.z<|bG Z<|bG Z<|dB Z<|iZ 0 Z<|bO 8 Z Z<|eZ h λD J h=>aH (zBa UE (zB U k E F G H Q I y i A ((at' ((at' b.1.2.2 f).2.2.2) a.1).2.1) D J) Z (aG.cons (aE.fact 3 Z) (aG.cons (aE.fact 4 Z) (aG.cons (aE.fact 5 Z) (aG.cons (aE.fact 6 Z) (aG.cons (aE.fact 7 Z) (aG.cons (aE.fact 8 Z) (aG.cons (aE.fact 10 Z) (aG.cons (wX (wX (aE.fact 2 Z) gX g.1 g.2) DZ d.1 d.2) .nil))))))))) Z λV=>aD Z<|aN ?_;refine JR.start [0,0,2,0,8,24,56,120,0,256,1016,2040,4088,0,8192,24576,57344,0,253952,516096,0,1048576,4186112,8380416,0,33554424,67108863,134217727] 26 mixedOrders (by decide +kernel) ?_;refine zBd (by exact rfl) ?_;refine bG Z<|dB Z<|iZ 0 Z<|bG Z<|jD Z (bY Z)<|dB Z<|dB Z<|bJ Z .nil (jS 0 Z) (dZ Z (aE.fact 0 Z) Z Z Z) aM.z<|dB Z<|iZ 0 Z<|cT h λs h=>bJ Z .nil (jS 1 Z) (aZ Z Z (aE.fact 0 Z) Z Z s) aM.z<|jD Z (gF Z Z Z Z Z)<|bJ Z .nil (jS 1 Z) (jJ Z (aE.fact 0 Z) Z Z Z y_ s) aM.z<|bG Z<|jD Z (bY Z)<|dB Z<|bJ Z .nil (jS 0 Z) (dZ Z (aE.fact 0 Z) Z Z Z) aM.z<|bG Z<|cT h λe h=>bJ Z .nil (jS 9 Z) (cC Z Z (aE.fact 0 Z) Z Z e) aM.z<|bJ Z .nil (jS 9 Z) (b_ Z (aE.fact 0 Z) Z Z e) aM.z<|dB Z<|iZ 0 Z<|cT h λt h=>bJ Z .nil (jS 9 Z) (aZ Z Z (zBb (aE.fact 0 Z) e.1 e.2) Z Z t) aM.z<|bJ Z .nil (jS 9 Z) (iX (cs:=[vI ((at' (at' b.2.2 m) ((at' ((at' b.1.2.2 f).2.2.2) a.1).1)).1),vI ((at' (at' b.2.2 m) ((at' ((at' b.1.2.2 f).2.2.2) a.1).1)).2)]) Z (zBb (aE.fact 0 Z) e.1 e.2) bS Z Z Z Z t) aM.z<|bG Z<|eZ h λn K h=>zBc Z Z Z (zBa abQ (LQ U  n K) Z .nil) Z (λL=>(uB [([0],[])] Z)) λL=>bO 26 Z Z<|cT h λu h=>aB (aZ Z Z (bB (aE.res 1 Z) dK) Z Z u) Z<|vA 1 n u Z Z Z Z Z Z Z<|eM<|mN<|aQ<|cJ Z<|aA Z<|aN ?_;exact lS ((wI .i64 (a.1+(1:Int))),(List.set a.2 (Int.toNat ((at' ((at' b.1.2.2 f).2.2.2) a.1).1)) n)) () h SF (a_.ix [1] Z Z) (aG.refl _ _)
  refine e_ ?_;exact gJ (a.2) () h SF Z
 intro o N h;unfold oD at h;refine aX<|aA Z<|aD Z<|aN<|aV ?_;cases h;exact fP (v) Z Z (RV.tmp Z) (a_.refl _) aG.nil
def oF  (a:bF):Option bF:=
 some (a)
def kW (b:Int×bF) (a:(Int×bF)->Option bF) (c:bF):Option bF:=
 a ((wI .i64 (b.1+(1:Int))),c)
def jE (U:Nat) (b:IU) (d:bF) (g:Int) (a:Int×bF) (c:(Int×bF)->Option bF):Option bF:=
 if a.1<(d.length:Int)then(ck (0<=a.1) (if(eK .u32 (tF .u32 g a.1) (1:Int))=(1:Int)then(Option.bind (fF U ((((b.1.1,b.1.2.1,b.1.2.2)),((((b.2.1.1.1,b.2.1.1.2.1,b.2.1.1.2.2)),((b.2.1.2.1.1,b.2.1.2.1.2)),b.2.1.2.2.1,b.2.1.2.2.2)),b.2.2)) d a.1) λe=>(Option.bind (mC U ((((b.1.1,b.1.2.1,b.1.2.2)),((((b.2.1.1.1,b.2.1.1.2.1,b.2.1.1.2.2)),((b.2.1.2.1.1,b.2.1.2.1.2)),b.2.1.2.2.1,b.2.1.2.2.2)),b.2.2)) d a.1 e) λf=>(ck (0<=a.1∧a.1<(a.2.length:Int)) (kW a c (List.set a.2 (Int.toNat a.1) f)))))else(kW a c (a.2))))else(oF  (a.2))
def jY (U:Nat) (b:IU) (a:bF) (c:Int):Option bF:=
 Option.bind (mW U a) λd=>(bI (jE U b a c) U ((0:Int),d))
theorem abz:aW Tryz.prog 111:=Tryz.call111
theorem EZ (U:Nat) {e:IU} {v:bF} {w:Int} (g:Nat)  (D:Value)  (E:Value)  (o:Nat)  (F:Value)  (G:Value)  (H:Value)  (I:Value)  (Q:kA)  (J:Value)  (t:q_)  (p:Value)  (u:kA)  (d:Value)  (q:q_) (r:bF) (h:jY U e v w=some r):
  aY Tryz.prog 111 #[vP g,d,vU (w)] [bV g [vS (e.1.1),D,E,vP o,p] 106,Sl aS D e.1.2.1,Sl aL E e.1.2.2,bV o [vS (e.2.1.1.1),F,G,H,I,vI (e.2.1.2.2.1),J] 134,Sl aS F e.2.1.1.2.1,Sl aL G e.2.1.1.2.2,Sl bN H e.2.1.2.1.1,S2 bA I Q e.2.1.2.1.2,S2 bN J t e.2.1.2.2.2,S2 bA p u e.2.2,S2 bN d q v] (λx:Jq=>x.1) (λx l=>Ar dD.raw x.1 x.2::lK bZ x.2 r::l) (λ_ l=>l):=by
 refine aY.of Tryz.func111 Z Tryz.ntmps111 Z λc=>?_;refine aX<|aD Z<|aN<|aX<|aA Z<|eZ h λR S h=>aH (zBa Od (Ac U d q R S) Z (mT [10] Z)) Z λs=>aD Z<|aN<|aK<|CR (B:=fO) (λy=>oF  y=some r) (λy z=>[(7,s.1)]) (λy z=>[Ar dD.raw s.1 z,lK bZ z y]) ?_ ?_
 ·refine aX<|aA Z<|aB (gU Z (aE.fact 10 Z) Z) Z<|aA Z<|aN<|aT<|dX (B:=fO) (jE U e v w) (λa b=>[(0,vP g),(1,d),(2,vU (w)),(7,s.1),(12,vI (v.length:Int)),(13,vI (a.1))]) (λa b=>[Ar dD.raw s.1 b,lK bZ b a.2]) ((0:Int),R) (s.2) h SF (a_.refl _) ?_;intro L a b h;refine aX<|cM Z<|aN<|aK ?_;refine fD h Z (λh=>?_) λh=>?_
  ·refine cL<|aK<|CR (B:=fO) (λf=>kW a (bI (jE U e v w) L) f=some r) (λf m=>[(0,vP g),(1,d),(2,vU (w)),(7,s.1),(12,vI (v.length:Int)),(13,vI (a.1))]) (λf m=>[Ar dD.raw s.1 m,lK bZ m f]) ?_ ?_
   ·refine aT<|aX<|aA Z<|aD Z<|aN<|aX<|aA Z<|aA Z<|cT h λK h=>aB (MJ Z Z K) Z<|AT Z<|cS Z<|aN ?_;refine fD h Z (λh=>?_) λh=>?_
    ·refine aQ<|aA Z<|aA Z<|aA Z<|aA Z<|aA Z<|aA Z<|aA Z<|aA Z<|eZ h λM N h=>aH (zBa Yq (Av U g D E o F G H I Q J t p u d q M N) Z (mT [0,1,2,3,4,5,6,7,8,9,10] Z)) Z λT=>eZ h λC O h=>aH (zBa abM (EY U g D E o F G H I Q J t p u d q C O) Z (mT [0,1,2,3,4,5,6,7,8,9,10] Z)) Z λP=>cT h λn h=>aB (cC Z Z (bW (i:=1) (j:=2) Z Z dK) Z Z n) Z<|cH (Know.one ((bB (aE.res 0 Z) dK))) λA=>jL (zE (k:=a.1) 2 0 Z Z Z n) ?_;refine pI 0 1 ⟨n.1,by first|exact n.2|simpa using n.2⟩ Z Z Z Z Z (by simp) A Z ?_;refine eM<|mN ?_;exact gJ (List.set a.2 (Int.toNat a.1) C) (List.set b (Int.toNat a.1) P) h SF Z
    refine dY<|mN ?_;exact gJ (a.2) (b) h SF Z
   intro f m h;unfold kW at h;refine aQ<|cJ Z<|aA Z<|aN ?_;exact xR ((wI .i64 (a.1+(1:Int))),f) (m) h SF Z
  refine e_ ?_;exact gJ (a.2) (b) h SF Z
 intro y z h;unfold oF at h;refine aX<|aA Z<|aD Z<|aN<|aV ?_;cases h;exact fP (s.1,z) Z Z (RV.tmp Z) (a_.refl _) aG.nil
def Aa  (a:Int):Option (Int):=
 some (a)
def vL (c:gE) (b:jO->Option (Int)) (a:Int):Option (Int):=
 b (a,(wI .i64 (c.2+(1:Int))))
def sG (e:Int) (d:Int->Option Bool) (a:gE) (b:jO->Option (Int)):Option (Int):=
 if a.2<e then(Option.bind (d a.2) λc=>(if c=true then(ck (0<=a.2) (vL a b (Oa .u32 a.1 (Dk .u32 (1:Int) a.2))))else(vL a b (a.1))))else(Aa  (a.1))
def Be (U:Nat) (b:Int) (a:Int->Option Bool):Option (Int):=
 bI (sG b a) U ((0:Int),(0:Int))
theorem aeT:aW Tryz.prog 66:=Tryz.call66
theorem Pb (U:Nat) {j:Int} {n:Int->Option Bool} (m:FuncId) (d:fO) (k:List bE) (f:aW Tryz.prog m) (g:∀(u:Int) (r:Bool),n u=some r->aY Tryz.prog m ([vI (u)]++d).toArray k (λ_:Unit=>vB (r)) (λ_ l=>l) (λ_ l=>l)) (r:Int) (h:Be U j n=some r):
  aY Tryz.prog 66 #[vI (j),Value.func (.func m) #[] (d).toArray] ([]++k) (λx:Unit=>vU (r)) (λx l=>l) (λ_ l=>l):=by
 refine aY.of Tryz.func66 Z Tryz.ntmps66 Z λc=>?_;unfold Be at h;refine aX<|aD Z<|aN<|aX<|aD Z<|aN<|aK<|Bq (B:=Unit) (λi=>Aa  i=some r) (λi o=>[(5,vU (i))]) (λi o=>[]) (λi o=>([]++k)) ?_ ?_
 ·refine aX<|aA Z<|aA Z<|aN<|aT<|Fq (B:=Unit) (sG j n) (λb p=>[(1,Value.func (.func m) #[] (d).toArray),(5,vU (b.1)),(7,vI (j)),(8,vI (b.2))]) (λb p=>[]) (λb p=>([]++k)) ((0:Int),(0:Int)) () h SF (a_.refl _) (aG.refl _ _) ?_;intro v b p h;refine aX<|cM Z<|aN<|aK ?_;refine fD h Z (λh=>?_) λh=>?_
  ·refine cL<|aK<|Bq (B:=Unit) (λa=>vL b (bI (sG j n) v) a=some r) (λa e=>[(1,Value.func (.func m) #[] (d).toArray),(5,vU (a)),(7,vI (j)),(8,vI (b.2))]) (λa e=>[]) (λa e=>([]++k)) ?_ ?_
   ·refine aT<|aX<|aA Z<|aD Z<|aN<|aX<|aA Z<|aA Z<|eZ h λs t h=>aH (wY (vs:=[vI (b.2)]) (cs:=d) f Z (g b.2 s t) Z (aG.tail _) (λ_ _=>rfl)) Z λw=>aN ?_;refine Am h Z (λ_ h=>?_) λ_ h=>?_
    ·refine aQ<|aA Z<|aA Z<|cT h λq h=>aB (Qc Z Z q) Z<|aB (abl Z Z) Z<|aD Z<|eM<|mN ?_;exact gJ (Oa .u32 b.1 (Dk .u32 (1:Int) b.2)) () h SF Z
    refine dY<|mN ?_;exact gJ (b.1) () h SF Z
   intro a e h;unfold vL at h;refine aQ<|cJ Z<|aA Z<|aN ?_;exact xR (a,(wI .i64 (b.2+(1:Int)))) () h SF Z
  refine e_ ?_;exact gJ (b.1) () h SF Z
 intro i o h;unfold Aa at h;refine aX<|aA Z<|aD Z<|aN<|aV ?_;cases h;exact lA Z
def kR (U:Nat) (b:Int) (a:IU) (c:bF):Option Bool:=
 Option.bind (fF U ((((a.1.1,a.1.2.1,a.1.2.2)),((((a.2.1.1.1,a.2.1.1.2.1,a.2.1.1.2.2)),((a.2.1.2.1.1,a.2.1.2.1.2)),a.2.1.2.2.1,a.2.1.2.2.2)),a.2.2)) c b) λd=>(some (decide ((0:Int)<=d)))
theorem aeU:aW Tryz.prog 67:=Tryz.call67
theorem BV (U:Nat) {v:Int} {a:IU} {w:bF} (j:Nat)  (d:Nat)  (o:Value)  (p:Value)  (e:Nat)  (q:Value)  (s:Value)  (t:Value)  (u:Value)  (y:kA)  (f:Value)  (k:q_)  (g:Value)  (m:kA)  (b:Nat)  (i:Value)  (n:q_) (r:Bool) (h:kR U v a w=some r):
  aY Tryz.prog 67 #[vI (v),vP j,vP b] [bV j [vP d] 81,bV d [vS (a.1.1),o,p,vP e,g] 106,Sl aS o a.1.2.1,Sl aL p a.1.2.2,bV e [vS (a.2.1.1.1),q,s,t,u,vI (a.2.1.2.2.1),f] 134,Sl aS q a.2.1.1.2.1,Sl aL s a.2.1.1.2.2,Sl bN t a.2.1.2.1.1,S2 bA u y a.2.1.2.1.2,S2 bN f k a.2.1.2.2.2,S2 bA g m a.2.2,bV b [i] 30,S2 bN i n w] (λx:Unit=>vB (r)) (λx l=>l) (λ_ l=>l):=by
 refine aY.of Tryz.func67 Z Tryz.ntmps67 Z λc=>?_;refine aX<|aD Z<|aN<|aX<|aB (dZ Z (aE.fact 0 Z) Z Z Z) Z<|aB (dZ Z (aE.fact 11 Z) Z Z Z) Z<|aA Z<|eZ h λz A h=>aH (zBa Yq (Av U d o p e q s t u y f k g m i n z A) Z (mT [1,2,3,4,5,6,7,8,9,10,12] Z)) Z λB=>aB (Bu Z Z) Z<|aD Z<|aN<|aV ?_;cases h;exact lA Z
def dJ (U:Nat) (a:IU) (b:bF):Option (Int):=
 Option.bind (Be U (a.2.2.length:Int) (λd=>kR U d ((((a.1.1,a.1.2.1,a.1.2.2)),((((a.2.1.1.1,a.2.1.1.2.1,a.2.1.1.2.2)),((a.2.1.2.1.1,a.2.1.2.1.2)),a.2.1.2.2.1,a.2.1.2.2.2)),a.2.2)) b)) λc=>(some (c))
theorem SX:aW Tryz.prog 40:=Tryz.call40
theorem qY (U:Nat) {a:IU} {w:bF} (b:Nat)  (k:Value)  (m:Value)  (e:Nat)  (n:Value)  (o:Value)  (p:Value)  (q:Value)  (y:kA)  (s:Value)  (g:q_)  (f:Value)  (i:kA)  (d:Value)  (j:q_) (r:Int) (h:dJ U a w=some r):
  aY Tryz.prog 40 #[vP b,d] [bV b [vS (a.1.1),k,m,vP e,f] 106,Sl aS k a.1.2.1,Sl aL m a.1.2.2,bV e [vS (a.2.1.1.1),n,o,p,q,vI (a.2.1.2.2.1),s] 134,Sl aS n a.2.1.1.2.1,Sl aL o a.2.1.1.2.2,Sl bN p a.2.1.2.1.1,S2 bA q y a.2.1.2.1.2,S2 bN s g a.2.1.2.2.2,S2 bA f i a.2.2,S2 bN d j w] (λx:Unit=>vU (r)) (λx l=>l) (λ_ l=>l):=by
 refine aY.of Tryz.func40 Z Tryz.ntmps40 Z λc=>?_;refine aX<|aH (aO.box (cs:=[vP b]) Z Z) Z λt=>cH (Know.one (aE.sl (aE.fact 10 Z))) λv=>?_;refine aH (aO.box (cs:=[d]) Z (by rw[eO v])) Z λu=>?_;refine aD Z<|aN<|aX<|dQ 1 Z<|aB (bY Z) Z<|bX Z<|aB (dZ Z (aE.fact 0 Z) Z Z Z) Z<|aB (gU Z (aE.fact 9 Z) Z) Z<|aB (zG (cs:=[.tmp 2,.tmp 3]) (vs:=[vP t,vP u]) Z) Z<|eZ h λz A h=>aH (zBa aeT (Pb U 67 [vP t,vP u] [bV t [vP b] 81,bV b [vS (a.1.1),k,m,vP e,f] 106,Sl aS k a.1.2.1,Sl aL m a.1.2.2,bV e [vS (a.2.1.1.1),n,o,p,q,vI (a.2.1.2.2.1),s] 134,Sl aS n a.2.1.1.2.1,Sl aL o a.2.1.1.2.2,Sl bN p a.2.1.2.1.1,S2 bA q y a.2.1.2.1.2,S2 bN s g a.2.1.2.2.2,S2 bA f i a.2.2,bV u [d] 30,S2 bN d j w] aeU (λC r h=>BV U t b k m e n o p q y s g f i u d j r h) z A) Z (aG.cons (aE.res 1 Z) (aG.cons (aE.fact 0 Z) (aG.cons (aE.fact 1 Z) (aG.cons (aE.fact 2 Z) (aG.cons (aE.fact 3 Z) (aG.cons (aE.fact 4 Z) (aG.cons (aE.fact 5 Z) (aG.cons (aE.fact 6 Z) (aG.cons (aE.fact 7 Z) (aG.cons (aE.fact 8 Z) (aG.cons (aE.fact 9 Z) (aG.cons (aE.res 0 Z) (mT [10] Z)))))))))))))) Z λB=>aD Z<|aN<|aV ?_;cases h;exact rX Z
end Go.Proofs.YtlkhndebimcbbaaGreatDoor
namespace Go.Proofs.YtlkhndebimcbbaaGreatDoor
open Go Go.Sx
abbrev RL:=E×List (Nat×E)
abbrev BS:=sW×GR×Int×bF
def En (R:List RL):Mc:=R.map λr=>(r.1.ts,r.2.map λs=>((s.1:Int),s.2.ts))
def MY (a:Nat) (e:E):Bool:=e.wf a false&&decide (e.depth<=100)&&decide (e.ts.length<=800)
def yO (a:Nat) (R:List RL):Bool:=decide (R.length<=20)&&R.all λr=>MY a r.1&&decide (r.2.length<=20)&&r.2.all λs=>decide (s.1<a)&&MY a s.2
instance:Inhabited E:=⟨.lf 1 0⟩
def Bw (g:GR) (v i:Nat):Int:=AM (row g (fQ (row g v) i).1.toNat) (v:Int)
def fK (g:GR):bF:=(List.range g.2.length).map λv=>(List.range (row g v).length).map (Bw g v)
def gK (S:BS) (c:bF) (v:Nat) (e:E):Int:=e.den (Vg (S,c,(v:Int),[])) (row S.2.1 v).length (-1)
def eI (S:BS) (R:List RL) (c:bF) (v:Nat):Int:=rE (R.map λr=>gK S c v r.1)
def nH (a:Int) (b:gE) (x:Int):Int:=if b.1<=x∧x<=b.2 then x else if a=3 then -1 else if x<b.1 then b.1 else b.2
def EU (S:BS) (a:List D_) (c:bF) (v:Nat) (b:aR) (s:Nat×E):aR:=b.set s.1 (nH (at' a (s.1:Int)).2.1 (qL S.2.1 a v s.1) (gK S c v s.2))
def mS (S:BS) (a:List D_) (R:List RL) (c:bF) (v:Nat) (i:Int):aR:=(at' R i).2.foldl (EU S a c v) (at' c (v:Int))
def enD (S:BS) (R:List RL) (c:bF):Nat:=Cd (λv=>decide (0<=eI S R c v)) S.2.1.2.length
def iP (S:BS) (vars:List D_) (R:List RL) (c:bF) (t:Nat):bF:=(List.range c.length).map λv=>if t.testBit v=true then mS S vars R c v (eI S R c v)else at' c (v:Int)
structure AS (g:GR) (nv:Nat) (c:bF):Prop where
 len:c.length=g.2.length
 row:∀v:Nat,v<g.2.length->(at' c (v:Int)).length=nv
theorem DY.shape {g:GR} {c:bF} {a:List D_} (h:DY g c a):AS g a.length c:=⟨h.len,h.row⟩
section
variable {S:BS} {nv:Nat} {c:List (List Int)} {v:Nat}
theorem wok (b:S.2.2.2=fK S.2.1) (d:VG S.2.1) (e:AS S.2.1 nv c) (h:v<S.2.1.2.length) (j:List (Int×Int)):WOk (S,c,(v:Int),j) nv S.2.1.2.length v:=by
 refine⟨rfl,h,rfl,d.len,e.len,e.row,λu a i g=> ?_,by show S.2.2.2.length=_;rw[b];simp[fK],λu a=>by
  show(at' S.2.2.2 (u:Int)).length=_;rw[b,fK,kZ _ a,List.length_map,List.length_range]⟩
 obtain⟨w,k,f⟩:=d.to a g;show 0<=(fQ (row S.2.1 u) i).1∧(fQ (row S.2.1 u) i).1<_;rw[f];omega
theorem Sb (i:S.2.2.2=fK S.2.1) (a:VG S.2.1) (j:AS S.2.1 nv c) (f:v<S.2.1.2.length) {e:E} (b:MY nv e=true):gW 1000 S c (v:Int) e.ts=some (gK S c v e):=by
 simp only[MY,zA6,zA3]at b;have g:=a.n24;have d:=(a.node v f).deg;unfold gW;have:=aaN (wok i a j f e.ts) (deg:=(row S.2.1 v).length) Z (by omega) b.2 e false 1000 0 (-1) [] [] (by simp) Z b.1.1 (λh=>by cases h) (by omega);rw[bD (show bU 1000 _ (0:Int) (-1)=_ from this)];rfl
end
section
variable {p:sW} {g:GR} {gr:Int} {R:List RL} {nv:Nat} {c:List (List Int)} {v:Nat}
theorem HG (a:p.2.2.map zJ=En R):p.2.2.length=R.length:=by simpa [En]using congrArg List.length a
theorem Vs (b:p.2.2.map zJ=En R) {i:Nat} (a:i<R.length):zJ (at' p.2.2 (i:Int))=((at' R (i:Int)).1.ts,(at' R (i:Int)).2.map λs=>((s.1:Int),s.2.ts)):=by
 have d:=HG b;have:=congrArg (λq=>q[i]?) b;simp only[En,List.getElem?_map,zA0 a,zA0 (show i<p.2.2.length by omega),Option.map_some,Option.some.injEq]at this;rw[lX a,lX (show i<p.2.2.length by omega)];exact this
theorem Vy (a:yO nv R=true) {i:Nat} (b:i<R.length):MY nv (at' R (i:Int)).1=true∧(at' R (i:Int)).2.length<=20∧∀s∈(at' R (i:Int)).2,s.1<nv∧MY nv s.2=true:=by
 simp only[yO,zA6,zA5,zA3]at a;have:=a.2 (at' R (i:Int)) (by rw[lX b];exact List.getElem_mem b);exact⟨this.1.1,this.1.2,λs d=>this.2 s d⟩
theorem adi (a:yO nv R=true):R.length<=20:=by
 simp only[yO,zA6,zA3]at a;exact a.1
theorem Zm (f:VG g) (h:AS g nv c) (j:v<g.2.length) (b:p.2.2.map zJ=En R) (d:yO nv R=true) {i:Nat} (a:i<R.length):kY 1000 (p,g,gr,fK g) c (v:Int) (i:Int)=some (nz (gK (p,g,gr,fK g) c v (at' R (i:Int)).1)):=by
 have k:=HG b;have e:(at' p.2.2 (i:Int)).2.1.2=(at' R (i:Int)).1.ts:=congrArg Prod.fst (Vs b a);unfold kY;dsimp only;rw[cB (by omega),e];rw[bD (show gW 1000 _ c (v:Int) _=_ from Sb (S:=(p,g,gr,fK g)) Z f h j (Vy d a).1)];rfl
theorem Vz (z:VG g) (A:AS g nv c) (C:v<g.2.length) (w:p.2.2.map zJ=En R) (s:yO nv R=true) (h:List (List (Int×Int))):fF 1000 (p,(p,g,gr,fK g),h) c (v:Int)=some (eI (p,g,gr,fK g) R c v):=by
 have E:=HG w;have y:=adi s;let l:=R.map λr=>gK (p,g,gr,fK g) c v r.1;have B:l.length=R.length:=by simp[l]
 have o:∀i,i<R.length->at' l (i:Int)=gK (p,g,gr,fK g) c v (at' R (i:Int)).1:=λi t=>by
  rw[lX (by omega),lX t];simp[l]
 have b:∀(k:Nat) a,k<R.length->kV 1000 (p,(p,g,gr,fK g),h) c (v:Int) (k:Int) a=if nz (at' l (k:Int))=true then some (k:Int)else a (((k+1:Nat):Int)):=by
  intro k a d;unfold kV;dsimp only;rw[if_pos (by omega),bD (show kY 1000 _ c (v:Int) (k:Int)=_ from Zm z A C w s d),o k d,fM (by omega)]
 unfold fF eI;by_cases f:∃i,i<R.length∧at' l (i:Int)≠0
 ·obtain⟨i,t,x⟩:=f;obtain⟨m,D,q,n⟩:=HA (p:=λi=>at' l (i:Int)≠0) i x;have n:∀j,j<m->at' l (j:Int)=0:=λj u=>zAk.1 (n j u);rw[show rE _=(m:Int)from tI (l:=l) (by omega) q n];exact eL (K:=some (m:Int)) m (λk=>(k:Int)) (λk a d=>by rw[b k a (by omega),if_neg (by simp[nz,n k d])]) (λa=>by rw[b m a (by omega),if_pos (by simpa [nz]using q)]) 1000 (by omega)
 ·have f:∀j,j<l.length->at' l (j:Int)=0:=λj u=>zAk.1 λe=>f ⟨j,by omega,e⟩;rw[show rE _=(-1:Int)from Cb (l:=l) f];exact eL (K:=some (-1)) R.length (λk=>(k:Int)) (λk a d=>by rw[b k a d,if_neg (by simp[nz,f k (by omega)])]) (λa=>by
   unfold kV oE;dsimp only;rw[if_neg (by omega)]) 1000 (by omega)
theorem ER (S:BS) (R:List RL) (c:List (List Int)) (v:Nat):eI S R c v = -1∨∃i:Nat,eI S R c v=(i:Int)∧i<R.length∧gK S c v (at' R (i:Int)).1≠0:=by
 let l:=R.map λr=>gK S c v r.1;by_cases h:∃i,i<l.length∧at' l (i:Int)≠0
 ·obtain⟨i,n,k⟩:=h;obtain⟨m,o,f,a⟩:=HA (p:=λi=>at' l (i:Int)≠0) i k;have a:∀j,j<m->at' l (j:Int)=0:=λj b=>zAk.1 (a j b);have d:m<R.length:=by simp[l]at n;omega
  refine .inr ⟨m,tI (l:=l) (by omega) f a,d,?_⟩;have:at' l (m:Int)=gK S c v (at' R (m:Int)).1:=by rw[lX (by simpa [l]using d),lX d];simp[l]
  rw[<-this];exact f
 ·exact .inl (Cb (l:=l) λj b=>zAk.1 λe=>h ⟨j,b,e⟩)
theorem LD {S:BS} {R:List RL} {c:List (List Int)} {v:Nat}:eI S R c v = -1↔∀i:Nat,i<R.length->gK S c v (at' R (i:Int)).1=0:=by
 let l:=R.map λr=>gK S c v r.1;have a:∀i,i<R.length->at' l (i:Int)=gK S c v (at' R (i:Int)).1:=λi b=>by rw[lX (by simpa [l]using b),lX b];simp[l]
 constructor
 ·intro h i b;refine zAk.1 λe=> ?_;obtain⟨m,n,k,f⟩:=HA (p:=λi=>at' l (i:Int)≠0) i (by rw[a i b];exact e);have f:∀j,j<m->at' l (j:Int)=0:=λj d=>zAk.1 (f j d);have:eI S R c v=(m:Int):=tI (l:=l) (by simp[l];omega) k f;omega
 ·intro h;exact Cb (l:=l) λj d=>by rw[a j (by simpa [l]using d)];exact h j (by simpa [l]using d)
theorem KQ (hV:VG g) (hc:AS g nv c) (hz:p.2.2.map zJ=En R) (hR:yO nv R=true) {tab:List (List (Int×Int))} (ht:tab.length=g.2.length):dJ 1000 (p,(p,g,gr,fK g),tab) c=some ((enD (p,g,gr,fK g) R c:Nat):Int):=by
 have h24:=hV.n24;unfold dJ Be;let q:Nat->Bool:=λv=>decide (0<=eI (p,g,gr,fK g) R c v);have:=eL (step:=sG (tab.length:Int) (λy0=>kR 1000 y0 (p,(p,g,gr,fK g),tab) c)) (K:=some ((Cd q g.2.length:Nat):Int)) g.2.length (λk=>(((Cd q k:Nat):Int),(k:Int))) (λk ag hk=>by
  have hm:=Vi q (k:=k) (by omega);unfold sG vL kR;dsimp only;rw[if_pos (by omega),bD (show Option.bind (fF 1000 _ c (k:Int)) _=some (q k) by rw[bD (show fF 1000 _ c (k:Int)=_ from Vz hV hc hk hz hR tab)]),fM (by omega)];cases hq:q k with
  |true=>
   rw[if_pos Z,cB (by omega),SQ hm (by omega)];simp only[Cd,hq,if_true]
  |false=>
   rw[if_neg (by decide)];simp only[Cd,hq];rfl) (λag=>by
  unfold sG Aa;dsimp only;rw[if_neg (by omega)]) 1000 (by omega)
 rw[bD (show bI _ 1000 ((0:Int),(0:Int))=_ from this)];rfl
end
theorem Yv (f:Nat) (k:Int) (b:gE) (x:Int):yH f k b x=some (nH k b x):=by
 unfold yH vX nH;by_cases a:b.1<=x
 ·by_cases c:x<=b.2
  ·simp only[a,c,and_self,if_true,decide_true]
  ·simp only[a,c,and_false,if_true,if_false,decide_false,Bool.false_eq_true];split
   ·rfl
   ·split<;>rfl
 ·simp only[a,false_and,if_false,Bool.false_eq_true];split
  ·rfl
  ·split<;>rfl
theorem Rs {S:BS} {a:List D_} {c:bF} {v:Nat} (l:List (Nat×E)) (b:aR):(l.foldl (EU S a c v) b).length=b.length:=by
 induction l generalizing b with
 |nil=>rfl
 |cons s l d=>rw[List.foldl_cons,d];simp[EU]
theorem WV {S:BS} {a:List D_} {R:List RL} {c:bF} {v:Nat} {i:Int}:(mS S a R c v i).length=(at' c (v:Int)).length:=Rs _ _
section
variable {p:sW} {g:GR} {gr:Int} {R:List RL} {c:List (List Int)} {v:Nat}
theorem acS (A:VG g) (J:tC g p.2.1) (o:AS g p.2.1.length c) (x:v<g.2.length) (E:p.2.2.map zJ=En R) (H:yO p.2.1.length R=true) {i:Nat} (B:i<R.length):
  mC 1000 (p,(p,g,gr,fK g),Ct g p.2.1) c (v:Int) (i:Int)=some (mS (p,g,gr,fK g) p.2.1 R c v (i:Int)):=by
 have G:=A.n24;have I:=o.len;have l:=o.row v x;have N:=J.len;have O:=HG E;have r:=Vs E B;obtain⟨-,m,d⟩:=Vy H B;have D:(Ct g p.2.1).length=g.2.length:=by simp[Ct]
 have w:at' (Ct g p.2.1) (v:Int)=FS g p.2.1 v:=kZ _ x;have L:(FS g p.2.1 v).length=p.2.1.length:=by simp[FS]
 have y:(at' p.2.2 (i:Int)).2.2.2.map (λs=>(s.1,s.2.2))=(at' R (i:Int)).2.map λs=>((s.1:Int),s.2.ts):=congrArg Prod.snd r;have n:(at' p.2.2 (i:Int)).2.2.2.length=(at' R (i:Int)).2.length:=by simpa using congrArg List.length y
 unfold mC;dsimp only;rw[cB (by omega),cB (by simp;omega),cB (by omega),List.nil_append];unfold mS;let a:=(at' R (i:Int)).2;have:=eL (step:=kU 1000 (p,(p,g,gr,fK g),Ct g p.2.1) c (v:Int) (i:Int)) (K:=some (a.foldl (EU (p,g,gr,fK g) p.2.1 c v) (at' c (v:Int)))) a.length (λk=>((k:Int),(a.take k).foldl (EU (p,g,gr,fK g) p.2.1 c v) (at' c (v:Int)))) (λk F e=>by
  have j:k<(at' p.2.2 (i:Int)).2.2.2.length:=by rw[n];exact e
  have z:((at' (at' p.2.2 (i:Int)).2.2.2 (k:Int)).1,(at' (at' p.2.2 (i:Int)).2.2.2 (k:Int)).2.2)=(((at' a (k:Int)).1:Int),(at' a (k:Int)).2.ts):=by
   have:=congrArg (λq=>q[k]?) y;simp only[List.getElem?_map,zA0 j,zA0 (show k<(at' R (i:Int)).2.length from e),Option.map_some,Option.some.injEq]at this;rw[lX j,lX e];exact this
  have f:=congrArg Prod.fst z;have h:=congrArg Prod.snd z;dsimp only at f h;obtain⟨t,u⟩:=d (at' a (k:Int)) (by rw[lX e];exact List.getElem_mem e);have C:((a.take k).foldl (EU (p,g,gr,fK g) p.2.1 c v) (at' c (v:Int))).length=p.2.1.length:=by rw[Rs,l]
  have b:at' (FS g p.2.1 v) ((at' a (k:Int)).1:Int)=qL g p.2.1 v (at' a (k:Int)).1:=kZ _ t;have M:a.length<=20:=m;unfold kU;dsimp only;rw[if_pos (by omega),cB (by omega),f,h,bD (show gW 1000 _ c (v:Int) _=_ from Sb (S:=(p,g,gr,fK g)) Z A o x u),cB (by omega),cB (by omega),w,cB (by omega),b,bD (Yv 1000 _ _ _),cB (by omega),fM (by omega),zAd,FJ e,List.foldl_append];rfl) (λF=>by
  unfold kU oD;dsimp only;rw[if_neg (by show¬(a.length:Int)<_;rw[n];exact Int.lt_irrefl _),List.take_length]) 1000 (by show(at' R (i:Int)).2.length<1000;omega)
 exact this
theorem ado (m:VG g) (s:tC g p.2.1) (l:AS g p.2.1.length c) (u:p.2.2.map zJ=En R) (o:yO p.2.1.length R=true) {t:Nat} (b:t<4294967296) (B:∀v,t.testBit v=true->0<=eI (p,g,gr,fK g) R c v):
  jY 1000 (p,(p,g,gr,fK g),Ct g p.2.1) c (t:Int)=some (iP (p,g,gr,fK g) p.2.1 R c t):=by
 have x:=m.n24;have z:=l.len;have C:=s.len;unfold jY;rw[bD (UP c (by omega) (λv D=>by rw[l.row v (by omega)];omega))];let f:Nat->List Int:=λv=>if t.testBit v=true then mS (p,g,gr,fK g) p.2.1 R c v (eI (p,g,gr,fK g) R c v)else at' c (v:Int);let Q:Nat->List (List Int):=λk=>(List.range k).map f++c.drop k;have y:∀k,k<=c.length->(Q k).length=c.length:=λk a=>by simp[Q];omega
 have j:∀k,k<c.length->(Q k).set k (f k)=Q (k+1):=λk a=>by
  show((List.range k).map f++c.drop k).set k (f k)=(List.range (k+1)).map f++c.drop (k+1);rw[List.set_append_right _ _ (by simp),List.length_map,List.length_range,Nat.sub_self,List.drop_eq_getElem_cons a,List.set_cons_zero,List.range_succ,List.map_append,List.map_singleton,zB4];rfl
 have d:∀k,k<c.length->f k=at' c (k:Int)->Q k=Q (k+1):=λk a A=>by
  show(List.range k).map f++c.drop k=(List.range (k+1)).map f++c.drop (k+1);rw[List.range_succ,List.drop_eq_getElem_cons a,List.map_append,List.map_singleton,A,lX a];simp
 rw[show c=Q 0 by simp[Q]];refine eL (step:=jE 1000 (p,(p,g,gr,fK g),Ct g p.2.1) (Q 0) (t:Int)) (K:=some (iP (p,g,gr,fK g) p.2.1 R (Q 0) t)) c.length (λk=>((k:Int),Q k)) (λk w a=> ?_) (λw=> ?_) 1000 (by omega)
 ·rw[show Q 0=c by simp[Q]];unfold jE kW;dsimp only;rw[if_pos (by omega),cB (by omega),fM (by omega)];by_cases h:t.testBit k=true
  ·obtain⟨i,r,n,_⟩:=(ER (p,g,gr,fK g) R c k).resolve_left (λe=>by have:=B k h;omega);rw[if_pos ((Zn (by omega) b).2 h),bD (show fF 1000 _ c (k:Int)=_ from Vz m l (by omega) u o _),r,bD (show mC 1000 _ c (k:Int) (i:Int)=_ from acS m s l (by omega) u o n),cB (by rw[y k (by omega)];omega),zAd];have:mS (p,g,gr,fK g) p.2.1 R c k (i:Int)=f k:=by simp only[f];rw[if_pos h,r]
   rw[this,j k a]
  ·rw[if_neg (λq=>h ((Zn (by omega) b).1 q)),d k a (by simp only[f];rw[if_neg h])]
 ·rw[show Q 0=c by simp[Q]];unfold jE oF;dsimp only;rw[if_neg (by omega)];simp[Q,iP,f]
theorem Nt {S:BS} {a:List D_} {t:Nat}:(iP S a R c t).length=c.length:=by simp[iP]
theorem Au {S:BS} {vars:List D_} {t:Nat} (a:v<c.length):at' (iP S vars R c t) (v:Int)=if t.testBit v=true then mS S vars R c v (eI S R c v)else at' c (v:Int):=kZ _ a
theorem AS.step {S:BS} {a:List D_} {t:Nat} {e:Nat} {g:GR} (b:AS g e c):AS g e (iP S a R c t):=⟨by rw[Nt,b.len],λv d=>by
 rw[Au (by rw[b.len];exact d)];split
 ·rw[WV,b.row v d]
 ·exact b.row v d⟩
end
end Go.Proofs.YtlkhndebimcbbaaGreatDoor
namespace Go.Proofs.YtlkhndebimcbbaaGreatDoor
open Go.Sx
def mQ  (a:Unit):Option Bool:=
 some (true)
def iY (c:aR) (a:Int) (b:(Int)->Option Bool):Option Bool:=
 if a<(c.length:Int)then(ck (0<=a∧a<(c.length:Int)) (if(vV .u32 (at' c a) (16777215:Int))≠(0:Int)then(some (false))else(b (wI .i64 (a+(1:Int))))))else(mQ  (()))
def iI (U:Nat) (a:aR):Option Bool:=
 bI (iY a) U (0:Int)
theorem UF:aW Tryz.prog 149:=Tryz.call149
theorem BJ (U:Nat) {d:aR} (e:Value) (r:Bool) (h:iI U d=some r):
  aY Tryz.prog 149 #[e] [Sl Ak e d] (λx:Unit=>vB (r)) (λx l=>l) (λ_ l=>l):=by
 refine aY.of Tryz.func149 Z Tryz.ntmps149 Z λc=>?_;unfold iI at h;refine aX<|aD Z<|aN<|aK<|dW (λa=>mQ  a=some r) (λa f=>[]) (λa f=>[]) ?_ ?_
 ·refine aX<|aA Z<|jN (aE.fact 0 Z) Z<|aA Z<|aN<|aT<|dX (iY d) (λb g=>[(5,e),(6,vI (d.length:Int)),(7,vI (b))]) (λb g=>[]) (0:Int) () h SF (a_.refl _) ?_;intro j b g h;refine aX<|cM Z<|aN<|aK ?_;refine fD h Z (λh=>?_) λh=>?_
  ·refine cL<|aK<|aT<|aX<|cT h λi h=>aB (aZ Z Z (aE.fact 0 Z) Z Z i) Z<|aB (bR Z (aE.fact 0 Z) Z Z Z Im i) Z<|aD Z<|aN<|aX<|aA Z<|aB (Ky Z Z) Z<|rB Z<|aN ?_;refine fD h Z (λh=>?_) λh=>?_
   ·refine aX<|aD Z<|aN<|aV<|bM<|aJ<|aJ<|bM<|aJ ?_;cases h;exact lA Z
   refine dY<|mN<|aQ<|cJ Z<|aA Z<|aN ?_;exact xR (wI .i64 (b+(1:Int))) () h SF Z
  refine e_ ?_;exact gJ () (()) h SF Z
 intro a f h;unfold mQ at h;refine aX<|aD Z<|aN<|aV ?_;cases h;exact lA Z
def lC  (a:Bool):Option Bool:=
 some (a)
def iQ (U:Nat) (a:Jp) (c:Bool):Option Bool:=
 if c=true then(some (false))else(if(wI .i64 (a.2.2.1+(1:Int)))<a.2.2.2.1 then(some (false))else(if a.1<=a.2.1 then(if a.2.1<=(wI .i64 ((24:Int)*a.1))then(Option.bind (iI U ([a.2.2.2.2])) λb=>(lC  (b)))else(lC  (false)))else(lC  (false))))
def kK (U:Nat) (a:Jp):Option Bool:=
 if a.1<(0:Int)then(iQ U a (true))else(if(4096:Int)<a.1 then(iQ U a (true))else(if a.2.2.1<(0:Int)then(iQ U a (true))else(if a.2.2.2.1<a.2.2.1 then(iQ U a (true))else(iQ U a (decide (a.1<a.2.2.2.1))))))
theorem abN:aW Tryz.prog 148:=Tryz.call148
theorem Jx (U:Nat) {a:Jp} (r:Bool) (h:kK U a=some r):
  aY Tryz.prog 148 #[Value.agg #[vI (a.1),vI (a.2.1),vI (a.2.2.1),vI (a.2.2.2.1),vU (a.2.2.2.2)]] [] (λx:Unit=>vB (r)) (λx l=>l) (λ_ l=>l):=by
 refine aY.of Tryz.func148 Z Tryz.ntmps148 Z λc=>?_;refine aX<|aH (aO.box (cs:=[vI (a.1),vI (a.2.1),vI (a.2.2.1),vI (a.2.2.2.1),vU (a.2.2.2.2)]) Z Z) Z λj=>aD Z<|aN<|aK<|aK<|dW (λb=>iQ U a b=some r) (λb k=>[(1,vP j),(29,vB (b))]) (λb k=>[bV j [vI (a.1),vI (a.2.1),vI (a.2.2.1),vI (a.2.2.2.1),vU (a.2.2.2.2)] 47]) ?_ ?_
 ·refine aQ<|bX Z<|dQ 0 Z<|cM Z<|aA Z ?_;refine Eo h Z (λ_ h=>?_) λ_ h=>?_
  ·refine aI Z<|aI Z<|aI Z<|dO Z<|aA Z<|aI Z<|aI Z<|aI Z<|dO Z<|aA Z<|aI Z<|aI Z<|aI Z<|aI Z<|aI Z<|dO Z<|aA Z<|aI Z<|aI Z<|aI Z<|aI Z<|aI Z<|dO Z<|aN ?_;exact gJ (true) () h SF Z
  refine aP Z (c_ Z Z Z Z Z) Z<|aP Z (eB 0 Z Z Z Z Z) Z<|aP Z (xQ Z Z) Z<|fH Z<|aA Z ?_;refine Eo h Z (λ_ h=>?_) λ_ h=>?_
  ·refine aI Z<|aI Z<|aI Z<|dO Z<|aA Z<|aI Z<|aI Z<|aI Z<|aI Z<|aI Z<|dO Z<|aA Z<|aI Z<|aI Z<|aI Z<|aI Z<|aI Z<|dO Z<|aN ?_;exact gJ (true) () h SF Z
  refine aP Z (c_ Z Z Z Z Z) Z<|aP Z (eB 0 Z Z Z Z Z) Z<|aP Z (Hl Z Z) Z<|fH Z<|aA Z ?_;refine Eo h Z (λ_ h=>?_) λ_ h=>?_
  ·refine aI Z<|aI Z<|aI Z<|aI Z<|aI Z<|dO Z<|aA Z<|aI Z<|aI Z<|aI Z<|aI Z<|aI Z<|dO Z<|aN ?_;exact gJ (true) () h SF Z
  refine aP Z (c_ Z Z Z Z Z) Z<|aP Z (eB 0 Z Z Z Z Z) Z<|aP Z (c_ Z Z Z Z Z) Z<|aP Z (eB 0 Z Z Z Z Z) Z<|aP Z (xQ Z Z) Z<|fH Z<|aA Z ?_;refine Eo h Z (λ_ h=>?_) λ_ h=>?_
  ·refine aI Z<|aI Z<|aI Z<|aI Z<|aI Z<|dO Z<|aN ?_;exact gJ (true) () h SF Z
  refine aP Z (c_ Z Z Z Z Z) Z<|aP Z (eB 0 Z Z Z Z Z) Z<|aP Z (c_ Z Z Z Z Z) Z<|aP Z (eB 0 Z Z Z Z Z) Z<|aP Z (xQ Z Z) Z<|fH Z<|aN ?_;exact gJ (decide (a.1<a.2.2.2.1)) () h SF Z
 intro b k h;refine Am h Z (λ_ h=>?_) λ_ h=>?_
 ·refine aX<|aD Z<|aN<|aV<|aJ ?_;cases h;exact rX Z
 refine cL<|aK<|aX<|bX Z<|dQ 0 Z<|bX Z<|dQ 0 Z<|cJ Z<|aB (xQ Z Z) Z<|aN ?_;refine fD h Z (λh=>?_) λh=>?_
 ·refine aX<|aD Z<|aN<|aV<|aJ ?_;cases h;exact rX Z
 refine cL<|aK<|dW (λd=>lC  d=some r) (λd m=>[(2,vB (d))]) (λd m=>[]) ?_ ?_
 ·refine aQ<|bX Z<|dQ 0 Z<|bX Z<|dQ 0 Z<|aB (CE Z Z) Z<|aA Z ?_;refine Eo h Z (λ_ h=>?_) λ_ h=>?_
  ·refine aP Z (c_ Z Z Z Z Z) Z<|aP Z (eB 0 Z Z Z Z Z) Z<|aP Z (c_ Z Z Z Z Z) Z<|aP Z (eB 0 Z Z Z Z Z) Z<|aP Z (AA Z Z) Z<|aP Z (CE Z Z) Z<|dO Z<|aA Z ?_;refine Eo h Z (λ_ h=>?_) λ_ h=>?_
   ·refine aP Z (c_ Z Z Z Z Z) Z<|aP Z (eB 0 Z Z Z Z Z) Z<|mH Z (cA (e:=qD) ([a.2.2.2.2]) [(0,vU (a.2.2.2.2))] Z Z Z Z (l_ (vU (a.2.2.2.2)) Z) Z Z Z) Z λg=>eZ h λf i h=>mH Z (zBa UF (BJ U g f i) Z (aG.cons (bB (aE.res 0 Z) wS) .nil)) Z λn=>dO Z<|aD Z<|aN ?_;exact cF (f) () h SF .nil (aG.refl _ _)
   refine aI Z<|aI Z<|aI Z<|aI Z<|fH Z<|aD Z<|aN ?_;exact cF (false) () h SF .nil (aG.refl _ _)
  refine aI Z<|aI Z<|aI Z<|aI Z<|aI Z<|aI Z<|fH Z<|aA Z<|aI Z<|aI Z<|aI Z<|aI Z<|fH Z<|aD Z<|aN ?_;exact cF (false) () h SF .nil (aG.refl _ _)
 intro d m h;unfold lC at h;refine aV ?_;cases h;exact lA Z
def lG (U:Nat) (a:Int):Option (Int):=
 ck (0<=(24:Int)) (ck (0<=(tF .u32 a (24:Int))∧(tF .u32 a (24:Int))<(JL.length:Int)) (ck (0<=(16:Int)) (ck (0<=(eK .u32 (tF .u32 a (16:Int)) (255:Int))∧(eK .u32 (tF .u32 a (16:Int)) (255:Int))<(JL.length:Int)) (ck (0<=(8:Int)) (ck (0<=(eK .u32 (tF .u32 a (8:Int)) (255:Int))∧(eK .u32 (tF .u32 a (8:Int)) (255:Int))<(JL.length:Int)) (ck (0<=(eK .u32 a (255:Int))∧(eK .u32 a (255:Int))<(JL.length:Int)) (some (wI .i64 (wI .u8 ((wI .u8 ((wI .u8 ((at' JL (tF .u32 a (24:Int)))+(at' JL (eK .u32 (tF .u32 a (16:Int)) (255:Int)))))+(at' JL (eK .u32 (tF .u32 a (8:Int)) (255:Int)))))+(at' JL (eK .u32 a (255:Int)))))))))))))
theorem abO:aW Tryz.prog 150:=Tryz.call150
theorem GN (U:Nat) {a:Int} (r:Int) (h:lG U a=some r):
  aY Tryz.prog 150 #[vU (a)] [] (λx:Unit=>vI (r)) (λx l=>l) (λ_ l=>l):=by
 refine aY.of Tryz.func150 Z Tryz.ntmps150 Z λc=>?_;refine aX<|aD Z<|aN<|aK ?_;refine JR.start [0,1,3,0,8,24,56,127,0,256,768,1792,4095,0,8192,24576,65535,131071,262143] 16 mixedOrders (by decide +kernel) ?_;refine zBd (by exact rfl) ?_;refine bG Z<|cT h λb h=>jD Z (MJ Z Z b)<|cT h λd h=>jD Z (Dj Z Z Z Oh d)<|bG Z<|cT h λe h=>jD Z (MJ Z Z e)<|jD Z (Uu Z Z)<|cT h λf h=>jD Z (Dj Z Z Z Oh f)<|jD Z (Az Z Z)<|bG Z<|cT h λg h=>jD Z (MJ Z Z g)<|jD Z (Uu Z Z)<|cT h λi h=>jD Z (Dj Z Z Z Oh i)<|jD Z (Az Z Z)<|bG Z<|jD Z (Uu Z Z)<|cT h λj h=>jD Z (Dj Z Z Z Oh j)<|bO 16 Z Z<|cJ Z<|aB (SI Z Z Z) Z<|aD Z<|aN<|aV ?_;cases h;exact lA Z
def qI (b:Jp) (c:Int) (a:gE):Option ((Int×Int×Int×Int×Int)×Int):=
 some ((((wI .i64 (b.1+(1:Int))),(wI .i64 (b.2.1+c)),a.1,(wI .i64 (b.2.2.1+(1:Int))),a.2)),(0:Int))
def qH (U:Nat) (a:Jp) (c:Int) (d:Int) (e:Bool):Option ((Int×Int×Int×Int×Int)×Int):=
 if e=true then(some ((((0:Int),(0:Int),(0:Int),(0:Int),(0:Int))),(11:Int)))else(if a.1=(4096:Int)then(some ((((0:Int),(0:Int),(0:Int),(0:Int),(0:Int))),(3:Int)))else(Option.bind (lG U c) λb=>(if(eK .u32 (vV .u32 a.2.2.2.2 c) d)=(0:Int)then(qI a b ((wI .i64 (a.2.2.1+(1:Int))),d))else(qI a b (a.2.2.1,(eK .u32 (vV .u32 a.2.2.2.2 c) d))))))
def gO (U:Nat) (a:Jp) (b:Int) (c:Int):Option ((Int×Int×Int×Int×Int)×Int):=
 Option.bind (kK U ((a.1,a.2.1,a.2.2.1,a.2.2.2.1,a.2.2.2.2))) λe=>(if(!e)=true then(some ((((0:Int),(0:Int),(0:Int),(0:Int),(0:Int))),(7:Int)))else(if b=(0:Int)then(qH U a b c (true))else(Option.bind (iI U ([b,c])) λd=>(qH U a b c ((!d))))))
theorem abA:aW Tryz.prog 112:=Tryz.call112
theorem Mq (U:Nat) {a:Jp} {g:Int} {d:Int} (r:(Int×Int×Int×Int×Int)×Int) (h:gO U a g d=some r):
  aY Tryz.prog 112 #[Value.agg #[vI (a.1),vI (a.2.1),vI (a.2.2.1),vI (a.2.2.2.1),vU (a.2.2.2.2)],vU (g),vU (d)] [] (λx:Unit=>Value.tuple #[Value.agg #[vI (r.1.1),vI (r.1.2.1),vI (r.1.2.2.1),vI (r.1.2.2.2.1),vU (r.1.2.2.2.2)],vI (r.2)]) (λx l=>l) (λ_ l=>l):=by
 refine aY.of Tryz.func112 Z Tryz.ntmps112 Z λc=>?_;refine aX<|aH (aO.box (cs:=[vI (a.1),vI (a.2.1),vI (a.2.2.1),vI (a.2.2.2.1),vU (a.2.2.2.2)]) Z Z) Z λm=>aH (aO.alloc (cs:=vD2) Z Z) Z λn=>aD Z<|aN<|aK<|aX<|dN 1 Z<|eZ h λu v h=>aH (zBa abN (Jx U  u v) Z .nil) Z λz=>aB (lU Z) Z<|aN ?_;refine Am h Z (λ_ h=>?_) λ_ h=>?_
 ·refine aX ?_;refine aB (Io (r:=Value.agg #[vI (0:Int),vI (0:Int),vI (0:Int),vI (0:Int),vU (0:Int)]) (by intro w;simp[Instr.build,Instr.fill,dR,cW,cO,dU,dV,cX,eY])) Z ?_;refine bQ 0 (vs:=vD2) Z Z Z Z Z Z<|aD Z<|aN<|aV<|aJ ?_;cases h;exact oB () Z Z (RV.cell 0 Z Z Z Z) (RV.tmp Z) .nil aG.nil
 refine cL<|aK<|aK<|dW (λi=>qH U a g d i=some r) (λi t=>[(1,vU (g)),(2,vU (d)),(3,vP m),(6,vP n),(20,vB (i))]) (λi t=>[bV n vD2 47,bV m [vI (a.1),vI (a.2.1),vI (a.2.2.1),vI (a.2.2.2.1),vU (a.2.2.2.2)] 47]) ?_ ?_
 ·refine aQ<|aA Z<|cS Z<|aA Z ?_;refine Eo h Z (λ_ h=>?_) λ_ h=>?_
  ·refine aI Z<|aI Z<|aI Z<|aI Z<|aI Z<|dO Z<|aN ?_;exact gJ (true) () h SF Z
  refine cP Z<|cP Z<|mH Z (cA (e:=qD) ([g,d]) [(0,vU (g)),(1,vU (d))] Z Z Z Z (KW (vU (g)) (vU (d)) Z Z) Z Z Z) Z λo=>eZ h λk q h=>mH Z (zBa UF (BJ U o k q) Z (aG.cons (bB (aE.res 0 Z) wS) .nil)) Z λy=>aP Z (lU Z) Z<|fH Z<|aN ?_;exact cF ((!k)) () h SF (a_.ix [1,2] Z Z) (aG.refl _ _)
 intro i t h;refine Am h Z (λ_ h=>?_) λ_ h=>?_
 ·refine aX ?_;refine aB (Io (r:=Value.agg #[vI (0:Int),vI (0:Int),vI (0:Int),vI (0:Int),vU (0:Int)]) (by intro w;simp[Instr.build,Instr.fill,dR,cW,cO,dU,dV,cX,eY])) Z ?_;refine bQ 0 (vs:=vD2) Z Z Z Z Z Z<|aD Z<|aN<|aV<|aJ ?_;cases h;exact oB () Z Z (RV.cell 0 Z Z Z Z) (RV.tmp Z) .nil aG.nil
 refine cL<|aK<|aX<|bX Z<|dQ 1 Z<|cS Z<|aN ?_;refine fD h Z (λh=>?_) λh=>?_
 ·refine aX ?_;refine aB (Io (r:=Value.agg #[vI (0:Int),vI (0:Int),vI (0:Int),vI (0:Int),vU (0:Int)]) (by intro w;simp[Instr.build,Instr.fill,dR,cW,cO,dU,dV,cX,eY])) Z ?_;refine bQ 0 (vs:=vD2) Z Z Z Z Z Z<|aD Z<|aN<|aV<|aJ ?_;cases h;exact oB () Z Z (RV.cell 0 Z Z Z Z) (RV.tmp Z) .nil aG.nil
 refine cL<|aX<|bX Z<|dQ 1 Z<|cJ Z<|bX Z<|iC 1 Z Z Z Z Z Z<|aN<|aK ?_;refine JR.start [0,1,0,4,15,31,63] 4 mixedOrders (by decide +kernel) ?_;refine zBd (by exact rfl) ?_;refine dB Z<|iZ 1 Z<|bG Z<|eZ h λf p h=>zBc Z Z Z (zBa abO (GN U  f p) Z .nil) Z (λs=>(uB [([1],[])] Z)) λs=>bO 4 Z Z<|cJ Z<|bX Z<|iC 1 Z Z Z Z Z Z<|aN<|aX<|bX Z<|dQ 1 Z<|cJ Z<|bX Z<|iC 1 Z Z Z Z Z Z<|aN<|aX<|bX Z<|dQ 1 Z<|aA Z<|aB (Ky Z Z) Z<|aA Z<|AT Z<|bX Z<|iC 1 Z Z Z Z Z Z<|aN<|aK<|dW (λb=>qI a f b=some r) (λb j=>[(3,vP m),(6,vP n)]) (λb j=>[bV n vD2 47,bV m [vI (wI .i64 (a.1+(1:Int))),vI (wI .i64 (a.2.1+f)),vI (b.1),vI (wI .i64 (a.2.2.1+(1:Int))),vU (b.2)] 47]) ?_ ?_
 ·refine aX<|bX Z<|dQ 1 Z<|cS Z<|aN ?_;refine fD h Z (λh=>?_) λh=>?_
  ·refine aX<|bX Z<|dQ 1 Z<|bX Z<|iC 1 Z Z Z Z Z Z<|aN<|aQ<|aA Z<|bX Z<|iC 1 Z Z Z Z Z Z<|aN ?_;exact gJ ((wI .i64 (a.2.2.1+(1:Int))),d) () h SF Z
  refine cL ?_;exact gJ (a.2.2.1,(eK .u32 (vV .u32 a.2.2.2.2 g) d)) () h SF Z
 intro b j h;unfold qI at h;refine aX<|dN 1 Z<|bQ 0 (vs:=[vI (wI .i64 (a.1+(1:Int))),vI (wI .i64 (a.2.1+f)),vI (b.1),vI (wI .i64 (a.2.2.1+(1:Int))),vU (b.2)]) Z Z Z Z Z Z<|aD Z<|aN<|aV ?_;cases h;exact oB () Z Z (RV.cell 0 Z Z Z Z) (RV.tmp Z) .nil aG.nil
end Go.Proofs.YtlkhndebimcbbaaGreatDoor
namespace Go.Proofs.YtlkhndebimcbbaaGreatDoor
open Go Go.Sx
abbrev CT:=Jp
theorem Gf (l:aR) (h:l.length<=900):∃b,iI 1000 l=some b:=by
 unfold iI;have:=yC (step:=iY l) (Q:=λ_:Bool=>True) (λi:Int=>∃k:Nat,i=(k:Int)∧k<=l.length) (λi=>l.length - i.toNat) (λi f c a=>by
  obtain⟨k,rfl,g⟩:=c;unfold iY mQ;by_cases e:k<l.length
  ·rw[if_pos (by omega),cB (by omega)];split
   ·exact⟨_,rfl,trivial⟩
   ·rw[fM (by omega)];exact a _ ⟨k+1,rfl,by omega⟩ (by omega)
  ·rw[if_neg (by omega)];exact⟨_,rfl,trivial⟩) 1000 0 ⟨0,rfl,by omega⟩ (by omega)
 obtain⟨b,d,_⟩:=this;exact⟨b,d⟩
theorem NY (k:CT):∃b,kK 1000 k=some b:=by
 obtain⟨q,d⟩:=Gf [k.2.2.2.2] (by simp);have c:∀a,∃b,iQ 1000 k a=some b:=by
  intro a;unfold iQ lC;split
  ·exact⟨_,rfl⟩
  ·split
   ·exact⟨_,rfl⟩
   ·split
    ·split
     ·rw[bD d];exact⟨_,rfl⟩
     ·exact⟨_,rfl⟩
    ·exact⟨_,rfl⟩
 unfold kK
 repeat' split
 all_goals exact c _
theorem WZ {t:Nat} (i:t<4294967296):∃n,lG 1000 (t:Int)=some n:=by
 have g:(JL.length:Int)=256:=by decide +kernel
 have b:∀a:Nat,a<4294967296->0<=eK .u32 (a:Int) 255∧eK .u32 (a:Int) 255<256:=λa f=>by
  rw[show(255:Int)=((255:Nat):Int)from rfl,EC f (by omega)];have:a &&& 255<=255:=Nat.and_le_right;omega
 have c:∀k:Nat,k<32->tF .u32 (t:Int) (k:Int)=((t / 2^k:Nat):Int):=λk h=>Ob h;have e:tF .u32 (t:Int) 24=((t / 2^24:Nat):Int):=c 24 (by omega);have d:tF .u32 (t:Int) 16=((t / 2^16:Nat):Int):=c 16 (by omega);have j:tF .u32 (t:Int) 8=((t / 2^8:Nat):Int):=c 8 (by omega);unfold lG;rw[g,e,d,j,cB (by decide),cB (by omega),cB (by decide),cB (b _ (by omega)),cB (by decide),cB (b _ (by omega)),cB (b _ i)];exact⟨_,rfl⟩
theorem X_ (k:CT) {t:Nat} (h:t<4294967296) (e:Int):∃r,gO 1000 k (t:Int) e=some r:=by
 obtain⟨b,d⟩:=NY k;obtain⟨q,g⟩:=Gf [(t:Int),e] (by simp);obtain⟨n,f⟩:=WZ h;have c:∀a,∃r,qH 1000 k (t:Int) e a=some r:=by
  intro a;unfold qH qI;split
  ·exact⟨_,rfl⟩
  ·split
   ·exact⟨_,rfl⟩
   ·rw[bD f];split<;>exact⟨_,rfl⟩
 unfold gO;rw[bD (show kK 1000 _=some b from d)];split
 ·exact⟨_,rfl⟩
 ·split
  ·exact c _
  ·rw[bD g];exact c _
def aU (p:sW) (g:GR):BS:=(p,g,iO g g.2.length,fK g)
def qZ (S:BS) (R:List RL) (a:Nat) (c:bF):Nat:=enD S R c &&& a
theorem UR (S:BS) (R:List RL) (c:bF) (v:Nat):(enD S R c).testBit v=(decide (v<S.2.1.2.length)&&decide (0<=eI S R c v)):=Ni _ v _
theorem Om (S:BS) (R:List RL) (a:Nat) (c:bF) (v:Nat):(qZ S R a c).testBit v=true↔v<S.2.1.2.length∧0<=eI S R c v∧a.testBit v=true:=by
 unfold qZ;rw[Nat.testBit_and,UR,zA6,zA6,zA3,zA3,and_assoc]
theorem afu {S:BS} (a:VG S.2.1) (R:List RL) (c:bF):enD S R c<4294967296:=Vi _ (by have:=a.n24;omega)
theorem KP (S:BS) (R:List RL) (a:Nat) (c:bF):Sk S.2.1 (qZ S R a c):=λi b=>((Om S R a c i).1 b).1
def acH (a:pG):aR:=a.map λt=>((t:Nat):Int)
end Go.Proofs.YtlkhndebimcbbaaGreatDoor
namespace Go.Proofs.YtlkhndebimcbbaaGreatDoor
open Go.Sx
def wP  (a:aR):Option aR:=
 some (a)
def sA (c:aR×Int) (b:(aR×Int)->Option aR) (a:aR):Option aR:=
 b (a,(wI .i64 (c.2+(1:Int))))
def oY (b:aR) (d:Int) (a:aR×Int) (c:(aR×Int)->Option aR):Option aR:=
 if a.2<d then(if(b.length:Int)=(0:Int)then(ck ((a.1.length:Int)+(List.length ([(4294967295:Int)]):Int)<=1099511627) (sA a c (a.1++([(4294967295:Int)]))))else(ck ((b.length:Int)≠0) (ck (0<=(Int.tmod a.2 (b.length:Int))∧(Int.tmod a.2 (b.length:Int))<(b.length:Int)) (ck ((b.length:Int)≠0) (ck ((24:Int)≠0) (ck (0<=(wI .u64 (Int.tmod (wI .i64 (Int.tdiv a.2 (b.length:Int))) (24:Int)))) (ck (0<=(wI .u64 ((24:Int) - (wI .u64 (Int.tmod (wI .i64 (Int.tdiv a.2 (b.length:Int))) (24:Int)))))) (ck ((a.1.length:Int)+(List.length ([(eK .u32 (Oa .u32 (Dk .u32 (eK .u32 (at' b (Int.tmod a.2 (b.length:Int))) (16777215:Int)) (wI .u64 (Int.tmod (wI .i64 (Int.tdiv a.2 (b.length:Int))) (24:Int)))) (tF .u32 (eK .u32 (at' b (Int.tmod a.2 (b.length:Int))) (16777215:Int)) (wI .u64 ((24:Int) - (wI .u64 (Int.tmod (wI .i64 (Int.tdiv a.2 (b.length:Int))) (24:Int))))))) (16777215:Int))]):Int)<=1099511627) (sA a c (a.1++([(eK .u32 (Oa .u32 (Dk .u32 (eK .u32 (at' b (Int.tmod a.2 (b.length:Int))) (16777215:Int)) (wI .u64 (Int.tmod (wI .i64 (Int.tdiv a.2 (b.length:Int))) (24:Int)))) (tF .u32 (eK .u32 (at' b (Int.tmod a.2 (b.length:Int))) (16777215:Int)) (wI .u64 ((24:Int) - (wI .u64 (Int.tmod (wI .i64 (Int.tdiv a.2 (b.length:Int))) (24:Int))))))) (16777215:Int))])))))))))))else(wP  (a.1))
def qW (U:Nat) (a:aR) (b:Int):Option aR:=
 bI (oY a b) U (([]:aR),(0:Int))
theorem aex:aW Tryz.prog 11:=Tryz.call11
theorem LY (U:Nat) {a:aR} {i:Int} (n:Value) (r:aR) (h:qW U a i=some r):
  aY Tryz.prog 11 #[n,vI (i)] [Sl Ak n a] (λx:Value=>x) (λx l=>Ar qD x r::l) (λ_ l=>l):=by
 refine aY.of Tryz.func11 Z Tryz.ntmps11 Z λc=>?_;unfold qW at h;refine aX<|aD Z<|aN<|aX<|aD Z<|aN<|aK<|CR (B:=Value) (λj=>wP  j=some r) (λj k=>[(5,k)]) (λj k=>[Ar qD k j]) ?_ ?_
 ·refine aX<|aD Z<|aN<|aT<|jL (gN qD)<|dX (B:=Value) (oY a i) (λb f=>[(0,n),(1,vI (i)),(5,f),(6,vI (b.2))]) (λb f=>[Ar qD f b.1]) (([]:aR),(0:Int)) (lB) h SF (a_.refl _) ?_;intro w b f h;refine aK<|aX<|aA Z<|aA Z<|cM Z<|aN ?_;refine fD h Z (λh=>?_) λh=>?_
  ·refine cL<|aK<|CR (B:=Value) (λd=>sA b (bI (oY a i) w) d=some r) (λd g=>[(0,n),(1,vI (i)),(5,g),(6,vI (b.2))]) (λd g=>[Ar qD g d]) ?_ ?_
   ·refine aT<|aK<|aX<|aA Z<|jN (aE.fact 0 Z) Z<|cS Z<|aN ?_;refine fD h Z (λh=>?_) λh=>?_
    ·refine aX<|aA Z<|aH (cA (e:=qD) ([(4294967295:Int)]) [(0,vU (4294967295:Int))] Z Z Z Z (l_ (vU (4294967295:Int)) Z) Z Z Z) Z λC=>cT h λo h=>aH (eW 1 wS Z Z Z (bB (aE.res 0 Z) wS) Z Z Z Z o Z) Z λy=>aD Z<|aN<|pH<|d_<|u_<|AV ?_;exact cF (b.1++([(4294967295:Int)])) (y) h SF (a_.ix [1] Z Z) (aG.refl _ _)
    refine cL<|aK ?_;refine JR.start [0,0,0,4,14,31,63,0,0,256,896,1920,3968,127,16383] 14 mixedOrders (by decide +kernel) ?_;refine zBd (by exact rfl) ?_;refine bG Z<|bG Z<|bG Z<|bJ Z .nil (jS 0 Z) (fX Z (aE.fact 0 Z) Z) aM.z<|cT h λp h=>jD Z (Qb Z Z p)<|cT h λm h=>bJ Z .nil (jS 0 Z) (aZ Z Z (aE.fact 0 Z) Z Z m) aM.z<|bJ Z .nil (jS 0 Z) (bR Z (aE.fact 0 Z) Z Z Z Im m) aM.z<|bG Z<|bG Z<|bJ Z .nil (jS 0 Z) (fX Z (aE.fact 0 Z) Z) aM.z<|cT h λq h=>jD Z (XY Z Z q)<|cT h λs h=>jD Z (Qb Z Z s)<|jD Z (SI Z Z Z)<|jD Z (oZ Z)<|bO 14 Z Z<|aD Z<|aN<|aX<|aA Z<|AT Z<|aD Z<|aN<|aQ<|aA Z<|aA Z<|aA Z<|cT h λt h=>aB (Qc Z Z t) Z<|aA Z<|aA Z<|aB (oI Z Z) Z<|cT h λu h=>aB (MJ Z Z u) Z<|aB (abl Z Z) Z<|AT Z<|aH (cA (e:=qD) ([(eK .u32 (Oa .u32 (Dk .u32 (eK .u32 (at' a (Int.tmod b.2 (a.length:Int))) (16777215:Int)) (wI .u64 (Int.tmod (wI .i64 (Int.tdiv b.2 (a.length:Int))) (24:Int)))) (tF .u32 (eK .u32 (at' a (Int.tmod b.2 (a.length:Int))) (16777215:Int)) (wI .u64 ((24:Int) - (wI .u64 (Int.tmod (wI .i64 (Int.tdiv b.2 (a.length:Int))) (24:Int))))))) (16777215:Int))]) [(0,vU (eK .u32 (Oa .u32 (Dk .u32 (eK .u32 (at' a (Int.tmod b.2 (a.length:Int))) (16777215:Int)) (wI .u64 (Int.tmod (wI .i64 (Int.tdiv b.2 (a.length:Int))) (24:Int)))) (tF .u32 (eK .u32 (at' a (Int.tmod b.2 (a.length:Int))) (16777215:Int)) (wI .u64 ((24:Int) - (wI .u64 (Int.tmod (wI .i64 (Int.tdiv b.2 (a.length:Int))) (24:Int))))))) (16777215:Int)))] Z Z Z Z (l_ (vU (eK .u32 (Oa .u32 (Dk .u32 (eK .u32 (at' a (Int.tmod b.2 (a.length:Int))) (16777215:Int)) (wI .u64 (Int.tmod (wI .i64 (Int.tdiv b.2 (a.length:Int))) (24:Int)))) (tF .u32 (eK .u32 (at' a (Int.tmod b.2 (a.length:Int))) (16777215:Int)) (wI .u64 ((24:Int) - (wI .u64 (Int.tmod (wI .i64 (Int.tdiv b.2 (a.length:Int))) (24:Int))))))) (16777215:Int))) Z) Z Z Z) Z λD=>cT h λv h=>aH (eW 1 wS Z Z Z (bB (aE.res 0 Z) wS) Z Z Z Z v Z) Z λA=>aD Z<|eM<|mN ?_;exact cF (b.1++([(eK .u32 (Oa .u32 (Dk .u32 (eK .u32 (at' a (Int.tmod b.2 (a.length:Int))) (16777215:Int)) (wI .u64 (Int.tmod (wI .i64 (Int.tdiv b.2 (a.length:Int))) (24:Int)))) (tF .u32 (eK .u32 (at' a (Int.tmod b.2 (a.length:Int))) (16777215:Int)) (wI .u64 ((24:Int) - (wI .u64 (Int.tmod (wI .i64 (Int.tdiv b.2 (a.length:Int))) (24:Int))))))) (16777215:Int))])) (A) h SF (a_.ix [1] Z Z) (aG.refl _ _)
   intro d g h;unfold sA at h;refine aQ<|aA Z<|cJ Z<|aD Z<|aN ?_;exact xR (d,(wI .i64 (b.2+(1:Int)))) (g) h SF Z
  refine e_ ?_;exact gJ (b.1) (f) h SF Z
 intro j k h;unfold wP at h;refine aX<|aA Z<|aD Z<|aN<|aV ?_;cases h;exact fP (k) Z Z (RV.tmp Z) (a_.refl _) aG.nil
end Go.Proofs.YtlkhndebimcbbaaGreatDoor
namespace Go.Proofs.YtlkhndebimcbbaaGreatDoor
open Go Go.Sx
theorem Sd (x:Int):0<=wI .u64 x:=by
 rw[Fj];have:IntKind.u64.wrap x=x%18446744073709551616:=rfl;rw[this];omega
theorem Xl (l:aR) {n:Nat} (y:n<=900):∃ws,qW 1000 l (n:Int)=some ws∧ws.length=n∧∀k:Nat,k<ws.length->∃m:Nat,at' ws (k:Int)=(m:Int)∧m<4294967296:=by
 unfold qW;obtain⟨⟨ws,i⟩,⟨c,b,d⟩,t⟩:=CM (step:=oY l (n:Int)) (K:=λz=>some z.1) n
  (λk z=>z.2=(k:Int)∧z.1.length=k∧∀j:Nat,j<k->∃m:Nat,at' z.1 (j:Int)=(m:Int)∧m<4294967296) (λk z q v h=>by
  obtain⟨ws,i⟩:=z;obtain⟨c,b,d⟩:=h;dsimp only at c b d;subst c;have a:∀m:Nat,m<4294967296->∀j:Nat,j<k+1->∃p:Nat,at' (ws++[(m:Int)]) (j:Int)=(p:Int)∧p<4294967296:=λm o j u=>by
   rw[OU ws _ (by omega)];by_cases e:j<ws.length
   ·rw[if_pos e];exact d j (by omega)
   ·rw[if_neg e];exact⟨m,rfl,o⟩
  have f:∀m:Nat,(ws.length:Int)+(List.length [(m:Int)]:Int)<=1099511627:=λm=>by simp;omega
  unfold oY sA;dsimp only;rw[if_pos (by omega),fM (by omega)];by_cases x:l.length=0
  ·rw[if_pos (by omega),cB (show(ws.length:Int)+(List.length [(4294967295:Int)]:Int)<=1099511627 from f 4294967295)];exact⟨_,⟨rfl,by simp[b],a 4294967295 (by omega)⟩,rfl⟩
  ·have r:Int.tmod (k:Int) (l.length:Int)=((k%l.length:Nat):Int):=rfl;have w:k%l.length<l.length:=Nat.mod_lt _ (by omega);rw[if_neg (by omega),cB (by omega),cB (by rw[r];omega),cB (by omega),cB (by decide),cB (Sd _),cB (Sd _)];have s:∀X:Int,∃m:Nat,eK .u32 X (16777215:Int)=(m:Int)∧m<4294967296:=λX=>⟨_,N_ _ _,Nat.lt_of_le_of_lt Nat.and_le_left (Ks _)⟩
   obtain⟨m,o,g⟩:=s (Oa .u32 (Dk .u32 (eK .u32 (at' l (Int.tmod (k:Int) (l.length:Int))) (16777215:Int)) (wI .u64 (Int.tmod (wI .i64 (Int.tdiv (k:Int) (l.length:Int))) (24:Int)))) (tF .u32 (eK .u32 (at' l (Int.tmod (k:Int) (l.length:Int))) (16777215:Int)) (wI .u64 ((24:Int) - (wI .u64 (Int.tmod (wI .i64 (Int.tdiv (k:Int) (l.length:Int))) (24:Int)))))));rw[o,cB (f m)];exact⟨_,⟨rfl,by simp[b],a m g⟩,rfl⟩) (λz q h=>by
  obtain⟨ws,i⟩:=z;obtain⟨c,b,d⟩:=h;dsimp only at c;subst c;unfold oY wP;dsimp only;rw[if_neg (by omega)]) 1000 (([]:aR),(0:Int)) ⟨rfl,rfl,λj u=>by omega⟩ (by omega)
 exact⟨ws,t,b,λk v=>d k (by dsimp only at b;omega)⟩
def Fy (c:bF) (v:Nat):Int:=at' (at' c (v:Int)) 0
def AK (g:GR) (c:bF) (v i:Nat):Int:=at' (at' c (fQ (row g v) i).1) 0
theorem FD {g:GR} {c:bF} {v i u:Nat} (h:(fQ (row g v) i).1=(u:Int)):AK g c v i=Fy c u:=by unfold AK Fy;rw[h]
theorem Ta:∀i,i<256->0<=at' JL ((i:Nat):Int)∧at' JL ((i:Nat):Int)<=8∧(i≠0->1<=at' JL ((i:Nat):Int)):=by
 have h:((List.range 256).all λi=>decide (0<=at' JL ((i:Nat):Int)∧at' JL ((i:Nat):Int)<=8∧(i≠0->1<=at' JL ((i:Nat):Int))))=true:=by decide +kernel
 intro i a;exact of_decide_eq_true (zA5.1 h i (zAg.2 a))
theorem acV {t:Nat} (I:t<16777216) (F:t≠0):∃n:Nat,lG 1000 (t:Int)=some (n:Int)∧1<=n∧n<=24:=by
 have q:(JL.length:Int)=256:=by decide +kernel
 have b:∀a:Nat,a<4294967296->eK .u32 (a:Int) 255=((a%256:Nat):Int):=λa p=>by
  rw[show(255:Int)=((255:Nat):Int)from rfl,EC p (by omega),show(255:Nat)=2^8 - 1 from rfl,Nat.and_two_pow_sub_one_eq_mod]
 have c:∀k:Nat,k<32->tF .u32 (t:Int) (k:Int)=((t / 2^k:Nat):Int):=λk r=>Ob r;have e:tF .u32 (t:Int) 24=((t / 2^24:Nat):Int):=c 24 (by omega);have d:tF .u32 (t:Int) 16=((t / 2^16:Nat):Int):=c 16 (by omega);have s:tF .u32 (t:Int) 8=((t / 2^8:Nat):Int):=c 8 (by omega);have g:t / 2^24=0:=Nat.div_eq_of_lt (by omega);unfold lG;rw[q,e,d,s,b _ (by omega),b _ (by omega),b _ (by omega),g,cB (by decide),cB (by omega),cB (by decide),cB (by omega),cB (by decide),cB (by omega),cB (by omega)];obtain⟨v,w,i⟩:=Ta (t / 2^16%256) (by omega);obtain⟨y,z,j⟩:=Ta (t / 2^8%256) (by omega);obtain⟨D,E,l⟩:=Ta (t%256) (by omega);have u:at' JL ((0:Nat):Int)=0:=rfl;have h:1<=at' JL ((t / 2^16%256:Nat):Int)+at' JL ((t / 2^8%256:Nat):Int)+at' JL ((t%256:Nat):Int):=by
  by_cases m:t / 2^16%256=0
  ·by_cases o:t / 2^8%256=0
   ·have:=l (by omega);omega
   ·have:=j o;omega
  ·have:=i m;omega
 have f:∀x:Int,0<=x->x<=100->wI .u8 x=x:=λx G H=>by
  rw[Fj];have:IntKind.u8.wrap x=x%256:=rfl;rw[this];omega
 generalize at' JL ((t / 2^16%256:Nat):Int)=A at *
 generalize at' JL ((t / 2^8%256:Nat):Int)=B at *
 generalize at' JL ((t%256:Nat):Int)=C at *
 rw[u,f (0+A) (by omega) (by omega),f (0+A+B) (by omega) (by omega),f (0+A+B+C) (by omega) (by omega),wr (by omega) (by omega)];exact⟨(0+A+B+C).toNat,by congr 1;omega,by omega,by omega⟩
theorem Jk (l:aR) (j:l.length<=900) (h:∀x∈l,∃a:Nat,x=(a:Int)∧a<16777216):iI 1000 l=some true:=by
 unfold iI;refine eL (step:=iY l) (K:=some true) l.length (λk=>(k:Int)) (λk f d=> ?_) (λf=> ?_) 1000 (by omega)
 ·obtain⟨a,g,b⟩:=h (at' l (k:Int)) (by rw[lX d];exact List.getElem_mem d);unfold iY;rw[if_pos (by omega),cB (by omega),g,fM (by omega)];have:vV .u32 (a:Int) (16777215:Int)=0:=(Ye _ _).2 λi c=>by
   rw[zR (by omega)]at c;have e:PH 16777215=2^24 - 1:=zR (a:=16777215) (by omega);rw[e,Nat.testBit_two_pow_sub_one,zA3];by_cases h:i<24
   ·exact h
   ·have:=Nat.testBit_lt_two_pow (x:=a) (i:=i) (zAs b (Nat.pow_le_pow_right (n:=2) (by omega) (show 24<=i by omega)));rw[this]at c;cases c
  rw[this,if_neg (by simp)]
 ·unfold iY mQ;rw[if_neg (by omega)]
structure DX (k:Nat) (cnt:CT) (R B pe:Nat):Prop where
 steps:cnt.1=(k:Int)
 moves:(k:Int)<=cnt.2.1∧cnt.2.1<=24*(k:Int)
 rounds:cnt.2.2.1=(R:Int)
 begun:cnt.2.2.2.1=(B:Int)
 pend:cnt.2.2.2.2=(pe:Int)
 le:R<=B∧B<=k∧B<=R+1
 p24:pe<16777216
theorem DX.valid {k:Nat} {i:CT} {R B j:Nat} (h:DX k i R B j) (n:k<=1000):kK 1000 i=some true:=by
 obtain⟨a,b,c,d,e,f,g⟩:=h;have m:=Jk [(j:Int)] (by simp) λx l=>by
  have l:x=(j:Int):=by simpa using l
  exact⟨j,l,g⟩
 unfold kK;rw[a,c,d,if_neg (by omega),if_neg (by omega),if_neg (by omega),if_neg (by omega),zA8 (by omega)];unfold iQ lC;rw[a,c,d,e,if_neg (by decide),fM (by omega),if_neg (by omega),if_pos b.1,wr (by omega) (by omega),if_pos b.2,bD m]
theorem DX.add {k:Nat} {r:CT} {R B o:Nat} (h:DX k r R B o) (I:k<900) {t l:Nat} (A:t<16777216) (C:t≠0) (q:l<16777216) {m:CT} {u:Int} (j:gO 1000 r (t:Int) (l:Int)=some (m,u)):
  ∃p:Nat,(∀i,p.testBit i=(o.testBit i && !t.testBit i&&l.testBit i))∧((p=0∧DX (k+1) m (R+1) (R+1) l)∨(p≠0∧DX (k+1) m R (R+1) p)):=by
 have H:=h.valid (by omega);obtain⟨a,b,c,d,e,f,g⟩:=h;obtain⟨n,D,E,F⟩:=acV A C;have G:=Jk [(t:Int),(l:Int)] (by simp) λx y=>by
  have y:x=(t:Int)∨x=(l:Int):=by simpa using y
  rcases y with rfl|rfl
  ·exact⟨t,rfl,A⟩
  ·exact⟨l,rfl,q⟩
 have v:Ga o t<4294967296:=Qr o t;have w:∀i,(Ga o t &&& l).testBit i=(o.testBit i && !t.testBit i&&l.testBit i):=λi=>by
  rw[Nat.testBit_and,MU (by omega) (by omega)]
 have s:Ga o t &&& l<16777216:=Nat.lt_of_le_of_lt Nat.and_le_right q;unfold gO at j;rw[bD (show kK 1000 _=some true from H),if_neg (by decide),if_neg (by omega),bD G]at j;unfold qH qI at j;dsimp only at j;rw[a,c,e,if_neg (by decide),if_neg (by omega),bD D,Qe,EC v (by omega),fM (by omega),fM (by omega),wr (by omega) (by omega)]at j;refine⟨Ga o t &&& l,w,?_⟩
 by_cases z:Ga o t &&& l=0
 ·rw[if_pos (by rw[z];rfl)]at j;have:=Option.some.inj j;obtain⟨rfl,_⟩:=Prod.mk.inj this;exact .inl ⟨z,rfl,⟨by dsimp only;omega,by dsimp only;omega⟩,rfl,rfl,rfl,by omega,q⟩
 ·rw[if_neg (by omega)]at j;have:=Option.some.inj j;obtain⟨rfl,_⟩:=Prod.mk.inj this;exact .inr ⟨z,rfl,⟨by dsimp only;omega,by dsimp only;omega⟩,rfl,rfl,rfl,by omega,s⟩
def exX:E:= .ite (.bi 37 (.ag 24 (.lf 12 0)) (.lf 6 0)) (.bi 33 (.ag 24 (.lf 12 0)) (.lf 1 1)) (.lf 6 0)
def exY:E:= .ag 23 (.bi 35 (.lf 12 0) (.ag 24 (.lf 12 0)))
def guT:E:= .bi 41 (.lf 10 0) (.bi 42 (.bi 36 (.lf 5 0) (.lf 1 0)) (.bi 36 (.lf 5 1) (.lf 4 0)))
def guB:E:= .bi 41 (.un 19 (.lf 10 0)) (.bi 42 (.bi 36 (.lf 5 0) exX) (.bi 36 (.lf 5 1) exY))
def RB:List RL:=[(guT,[(0,.lf 1 0),(1,.lf 4 0)]),(guB,[(0,exX),(1,exY)])]
theorem ZA (g:GR) (v:Nat):lo g (at' tZ ((0:Nat):Int)) v=0:=rfl
theorem afR (g:GR) (v:Nat):lo g (at' tZ ((1:Nat):Int)) v = -1:=rfl
theorem Zo (g:GR) (v:Nat):hi g (at' tZ ((0:Nat):Int)) v=(g.2.length:Int):=by
 show(0:Int)+1*(g.2.length:Int)+0*iO g g.1.length=_;omega
theorem afH (g:GR) (v:Nat):hi g (at' tZ ((1:Nat):Int)) v=((row g v).length:Int) - 1:=rfl
def HJ (c:bF) (v:Nat):Int:=at' (at' c (v:Int)) 1
def Jv (g:GR) (c:bF) (v:Nat):aR:=(List.range (row g v).length).map λq=>AK g c v q
def XB (g:GR) (c:bF) (v:Nat):Int:=if AJ (Jv g c v)<(g.1.length:Int)then VA (wI .i64 (AJ (Jv g c v)+1))else(g.1.length:Int)
def YB (g:GR) (c:bF) (v:Nat):Int:=rE ((List.range (row g v).length).map λq=>Bv (decide (AK g c v q=AJ (Jv g c v))))
def TB (g:GR) (c:bF) (v:Nat):gE:=if v=0 then(0,-1)else(XB g c v,YB g c v)
def GI (g:GR) (c:bF) (v:Nat):Prop:=Fy c v=(TB g c v).1∧HJ c v=(TB g c v).2
theorem vC (b:Bool):Bv b≠0↔b=true:=by cases b<;>simp[Bv]
theorem ahJ (b:Bool):Bv b=0↔b=false:=by cases b<;>simp[Bv]
section
variable {p:sW} {g:GR} {c:List (List Int)} {v:Nat}
theorem YT:gK (aU p g) c v exX=XB g c v:=by
 show(if Bv (decide (AJ (Jv g c v)<(g.1.length:Int)))≠0 then VA (wI .i64 (AJ (Jv g c v)+1))else(g.1.length:Int))=_;unfold XB;by_cases h:AJ (Jv g c v)<(g.1.length:Int)
 ·rw[if_pos h,if_pos (by rw[vC];exact zAc h)]
 ·rw[if_neg h,if_neg (by rw[vC];simpa using h)]
theorem YU:gK (aU p g) c v exY=YB g c v:=rfl
theorem afG:gK (aU p g) c v guT=Bv (decide (Bv (decide ((v:Int)=0))≠0)&&decide (Bv (decide (Bv (decide (Fy c v≠0))≠0)||decide (Bv (decide (HJ c v ≠ -1))≠0))≠0)):=rfl
theorem afE:gK (aU p g) c v guB=Bv (decide (Bv (decide (Bv (decide ((v:Int)=0))=0))≠0)&&decide (Bv (decide (Bv (decide (Fy c v≠gK (aU p g) c v exX))≠0)||decide (Bv (decide (HJ c v≠gK (aU p g) c v exY))≠0))≠0)):=rfl
theorem UZ:gK (aU p g) c v guT≠0↔v=0∧(Fy c v≠0∨HJ c v ≠ -1):=by
 rw[afG,vC,zA6,zA3,zA3,vC,vC,zAr,zA3,zA3,zA3,vC,vC,zA3,zA3];constructor
 ·rintro⟨a,b⟩;exact⟨by omega,b⟩
 ·rintro⟨a,b⟩;exact⟨by omega,b⟩
theorem UY:gK (aU p g) c v guB≠0↔v≠0∧(Fy c v≠XB g c v∨HJ c v≠YB g c v):=by
 rw[afE,YT,YU,vC,zA6,zA3,zA3,vC,vC,zAr,zA3,zA3,zA3,ahJ,vC,vC,zA3,zA3,decide_eq_false_iff_not];constructor
 ·rintro⟨a,b⟩;exact⟨by omega,b⟩
 ·rintro⟨a,b⟩;exact⟨by omega,b⟩
theorem Ri (h:0<=eI (aU p g) RB c v):(eI (aU p g) RB c v=0∧v=0∧¬GI g c v)∨(eI (aU p g) RB c v=1∧v≠0∧¬GI g c v):=by
 obtain⟨i,k,j,l⟩:=(ER (aU p g) RB c v).resolve_left (λe=>by omega);have j:i<2:=j
 match i,j with
 |0,_=>
  obtain⟨a,b⟩:=UZ.1 l;refine .inl ⟨k,a,?_⟩;unfold GI TB;rw[if_pos a];rintro⟨d,f⟩;rcases b with b|b
  ·exact b d
  ·exact b f
 |1,_=>
  obtain⟨a,b⟩:=UY.1 l;refine .inr ⟨k,a,?_⟩;unfold GI TB;rw[if_neg a];rintro⟨d,f⟩;rcases b with b|b
  ·exact b d
  ·exact b f
theorem Xe (h:¬0<=eI (aU p g) RB c v):GI g c v:=by
 have e:eI (aU p g) RB c v = -1:=by
  rcases ER (aU p g) RB c v with e|⟨i,f,_⟩
  ·exact e
  ·omega
 have b:¬gK (aU p g) c v guT≠0:=λq=>q (LD.1 e 0 (by decide));have d:¬gK (aU p g) c v guB≠0:=λq=>q (LD.1 e 1 (by decide));rw[UZ]at b;rw[UY]at d;unfold GI TB;by_cases a:v=0
 ·rw[if_pos a];exact⟨zAk.1 λq=>b ⟨a,.inl q⟩,zAk.1 λq=>b ⟨a,.inr q⟩⟩
 ·rw[if_neg a];exact⟨zAk.1 λq=>d ⟨a,.inl q⟩,zAk.1 λq=>d ⟨a,.inr q⟩⟩
theorem Nr:¬0<=eI (aU p g) RB c v↔GI g c v:=by
 refine⟨Xe,λh q=> ?_⟩
 rcases Ri q with⟨_,_,e⟩|⟨_,_,e⟩<;>exact e h
theorem acT (b:VG g) (d:DY g c tZ) (h:v<g.2.length) {i:Nat} (e:i<(row g v).length):0<=AK g c v i∧AK g c v i<=(g.2.length:Int):=by
 obtain⟨u,f,a,_⟩:=b.port h e;rw[FD a];have:=d.ok u f 0 (by decide);rw[ZA,Zo]at this;exact this
theorem TC {x:Int} (h:x∈Jv g c v):∃i,i<(row g v).length∧AK g c v i=x:=by
 obtain⟨i,b,a⟩:=zAw.1 h;exact⟨i,zAg.1 b,a⟩
theorem ahH (d:VG g) (m:DY g c tZ) (o:v<g.2.length):0<=XB g c v∧XB g c v<=(g.2.length:Int)∧(∀i,i<(row g v).length->XB g c v<=AK g c v i+1)∧(XB g c v=(g.2.length:Int)∨∃i,i<(row g v).length∧XB g c v=AK g c v i+1):=by
 have l:=d.n24;have k:=d.len;have a:∀i,i<(row g v).length->AJ (Jv g c v)<=AK g c v i:=λi b=>OF (zAw.2 ⟨i,zAg.2 b,rfl⟩);unfold XB;by_cases h:AJ (Jv g c v)<(g.1.length:Int)
 ·rw[if_pos h];rcases Ln (Jv g c v)with e|e
  ·omega
  ·obtain⟨i,b,r⟩:=TC e;have q:=acT d m o b;have n:VA (wI .i64 (AJ (Jv g c v)+1))=AJ (Jv g c v)+1:=by
    rw[wr (by omega) (by omega)];unfold VA;omega
   rw[n];refine⟨by omega,by omega,λj f=> ?_,.inr ⟨i,b,by omega⟩⟩
   have:=a j f;omega
 ·rw[if_neg h];refine⟨by omega,by omega,λj f=> ?_,.inl (by omega)⟩
  have:=a j f;omega
theorem WB (l:List Int) : -1<=rE l∧rE l<=(l.length:Int) - 1:=by
 unfold rE;cases h:l.findIdx? nz with
 |none=>dsimp only;omega
 |some i=>
  obtain⟨a,_⟩:=List.findIdx?_eq_some_iff_getElem.1 h;dsimp only;omega
theorem ahI : -1<=YB g c v∧YB g c v<=((row g v).length:Int) - 1:=by
 have:=WB ((List.range (row g v).length).map λq=>Bv (decide (AK g c v q=AJ (Jv g c v))));rw[List.length_map,List.length_range]at this;exact this
theorem ahE (d:VG g) (e:DY g c tZ) (f:v<g.2.length):(0<=(TB g c v).1∧(TB g c v).1<=(g.2.length:Int)) ∧ -1<=(TB g c v).2∧(TB g c v).2<=((row g v).length:Int) - 1:=by
 unfold TB;split
 ·dsimp only;omega
 ·obtain⟨a,b,_⟩:=ahH d e f;exact⟨⟨a,b⟩,ahI⟩
theorem CG {k a b x:Int} (d:a<=x) (e:x<=b):nH k (a,b) x=x:=by unfold nH;rw[if_pos ⟨d,e⟩]
theorem abi {a:List (List Int)} (j:VG g) (l:v<g.2.length) (h:∀u,u<g.2.length->Fy a u=Fy c u):TB g a v=TB g c v:=by
 have f:∀i,i<(row g v).length->AK g a v i=AK g c v i:=λi b=>by
  obtain⟨u,k,d,_⟩:=j.port l b;rw[FD d,FD d,h u k]
 have e:Jv g a v=Jv g c v:=List.map_congr_left λi b=>f i (zAg.1 b);have m:YB g a v=YB g c v:=by
  unfold YB;rw[e];congr 1;exact List.map_congr_left λi b=>by rw[f i (zAg.1 b)]
 unfold TB;rw[m];unfold XB;rw[e]
end
def Cl (k:Nat) (x y:Int):Prop:=(y<(k:Int)->x=y)∧((k:Int)<=y->(k:Int)<=x)
end Go.Proofs.YtlkhndebimcbbaaGreatDoor