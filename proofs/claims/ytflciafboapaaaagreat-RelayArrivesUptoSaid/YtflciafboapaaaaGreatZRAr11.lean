/- Models and proofs. Conditions: none. -/
import Derived.Test.YtflciafboapaaaaGreatZRAr10
set_option linter.unusedVariables false
set_option linter.unusedSimpArgs false
set_option maxHeartbeats 4000000
set_option maxRecDepth 20000
open Go.Proofs.Tryz
variable (U:Nat)
namespace Go.Proofs.YtflciafboapaaaaGreat
open Go.Sx
def qM (a:Hg) (b:b_) (d:Int):V1 iU:=
 Option.bind (mG U b.1) λc=>(some (a.2.2.1,(wI .i64 ((wI .i64 (a.2.2.2.1+(wI .i64 (a.2.2.2.2.1*(b.1.length:Int)))))+(wI .i64 (a.2.2.2.2.2*c))))))
theorem aeu:aU prog 161:=call161
theorem JS (U:Nat) {a:Hg} {d:b_} {f:Int} (b e:V0) (k:kI) (r:e_) (h:qM U a d f=some r):
  aZ prog 161 #[Value.agg #[vS (a.1),vI (a.2.1),vI (a.2.2.1),vI (a.2.2.2.1),vI (a.2.2.2.2.1),vI (a.2.2.2.2.2)],Value.agg #[b,e],vI (f)] [Sl aK b d.1,S2 aR e k d.2] (λx:Unit=>Value.tuple #[vI (r.1),vI (r.2)]) (λx l=>l) (λ_ l=>l):=by
 refine aZ.of func161 Z ntmps161 Z λc=>?_;refine aT<|aI (aN.box (cs:=[vS (a.1),vI (a.2.1),vI (a.2.2.1),vI (a.2.2.2.1),vI (a.2.2.2.2.1),vI (a.2.2.2.2.2)]) Z Z) Z λm=>aI (aN.box (cs:=[b,e]) Z Z) Z λn=>aC Z<|aC Z<|aO<|aL ?_;refine Bf [0,1,0,4,0,16,0,64,192,496,1020,0,2048,0,8192,24576,63488,131068,57347,524287] 19 mixedOrders ?_;refine cT Z<|gN 1 Z<|cT Z<|gN 1 Z<|cT Z<|gN 1 Z<|cT Z<|gN 0 Z<|aY Z .nil (iH 0 Z) (eW Z (cP Z) Z) aJ.z<|jS Z (uX Z Z)<|jS Z (Ak Z Z)<|cT Z<|gN 1 Z<|cT Z<|gN 0 Z<|fF h λg i h=>zBl Z Z Z (zBj Mu (CR U b g i) Z (jJ [0] Z)) Z (λj=>(oP [([1],[]),([],[0]),([0],[]),([1],[]),([1],[]),([1],[])] Z)) λj=>jS Z (uX Z Z)<|jS Z (Ak Z Z)<|jS Z (oK Z)<|bS 19 Z Z<|aC Z<|aO<|aV ?_;cases h;exact pH () Z Z (RV.tmp Z) (RV.tmp Z) .nil aD.nil
def uK (U:Nat) (a:Hg) (b:b_) (c:Int):V1 iU:=
 some ((0:Int),(1:Int))
theorem aev:aU prog 162:=call162
theorem JU {a:Hg} {b:b_} {f:Int} (d e:V0) (g:kI) (r:e_) (h:uK U a b f=some r):
  aZ prog 162 #[Value.agg #[vS (a.1),vI (a.2.1),vI (a.2.2.1),vI (a.2.2.2.1),vI (a.2.2.2.2.1),vI (a.2.2.2.2.2)],Value.agg #[d,e],vI (f)] [Sl aK d b.1,S2 aR e g b.2] (λx:Unit=>Value.tuple #[vI (r.1),vI (r.2)]) (λx l=>l) (λ_ l=>l):=by
 refine aZ.of func162 Z ntmps162 Z λc=>?_;unfold uK at h;refine aT<|aI (aN.box (cs:=[vS (a.1),vI (a.2.1),vI (a.2.2.1),vI (a.2.2.2.1),vI (a.2.2.2.2.1),vI (a.2.2.2.2.2)]) Z Z) Z λi=>aI (aN.box (cs:=[d,e]) Z Z) Z λj=>aC Z<|Q5 Z<|aT<|aC Z<|Q5 Z<|aV ?_;cases h;exact pH () Z Z (RV.tmp Z) (RV.tmp Z) .nil aD.nil
def qN (U:Nat) (c:Hg) (b:b_) (a:Int):V1 iU:=
 ck (0<=a/\a<(b.2.length:Int)) (some ((-1:Int),(wI .i64 (((at' b.2 a).length:Int) - (1:Int)))))
theorem aew:aU prog 163:=call163
theorem JV (U:Nat) {a:Hg} {d:b_} {g:Int} (e f:V0) (i:kI) (r:e_) (h:qN U a d g=some r):
  aZ prog 163 #[Value.agg #[vS (a.1),vI (a.2.1),vI (a.2.2.1),vI (a.2.2.2.1),vI (a.2.2.2.2.1),vI (a.2.2.2.2.2)],Value.agg #[e,f],vI (g)] [Sl aK e d.1,S2 aR f i d.2] (λx:Unit=>Value.tuple #[vI (r.1),vI (r.2)]) (λx l=>l) (λ_ l=>l):=by
 refine aZ.of func163 Z ntmps163 Z λc=>?_;refine aT<|aI (aN.box (cs:=[vS (a.1),vI (a.2.1),vI (a.2.2.1),vI (a.2.2.2.1),vI (a.2.2.2.2.1),vI (a.2.2.2.2.2)]) Z Z) Z λj=>aI (aN.box (cs:=[e,f]) Z Z) Z λk=>aC Z<|aC Z<|aO<|aL ?_;refine Bf [0,1,0,7,15,31,63,0,255] 8 mixedOrders ?_;refine cT Z<|gN 0 Z<|bM Z<|dQ h λb h=>aY Z .nil (iH 1 Z) (bX Z Z (cP Z) Z Z b) aJ.z<|aY Z .nil (iH 1 Z) (cB Z (cP Z) Z Z b) aJ.z<|aY Z .nil (iH 1 Z) (eW Z (zBk (cP Z) b.1 b.2) Z) aJ.z<|jS Z (zM Z Z)<|jS Z (oK Z)<|bS 8 Z Z<|aC Z<|aO<|aV ?_;cases h;exact pH () Z Z (RV.tmp Z) (RV.tmp Z) .nil aD.nil
def By (a:Unit):V1 iU:=
 some ((0:Int),(-1:Int))
def oD (c:Int) (a:(Int)->V1 iU) (b:Unit):V1 iU:=
 a (wI .i64 (c+(1:Int)))
def gF (a:Hg) (d:b_) (h b:Int) (c:(Int)->V1 iU):V1 iU:=
 if b<(List.length ([((1:Int),(161:Nat)),((2:Int),(162:Nat)),((3:Int),(163:Nat))]):Int)then(ck (0<=b/\b<(List.length ([((1:Int),(161:Nat)),((2:Int),(162:Nat)),((3:Int),(163:Nat))]):Int)) (if b=(0:Int)then(if(1:Int)=a.2.1 then(Option.bind (qM U ((a.1,a.2.1,a.2.2.1,a.2.2.2.1,a.2.2.2.2.1,a.2.2.2.2.2)) ((d.1,d.2)) h) λe=>(some (e.1,e.2)))else(oD b c (())))else(if b=(1:Int)then(if(2:Int)=a.2.1 then(Option.bind (uK U ((a.1,a.2.1,a.2.2.1,a.2.2.2.1,a.2.2.2.2.1,a.2.2.2.2.2)) ((d.1,d.2)) h) λf=>(some (f.1,f.2)))else(oD b c (())))else(if(3:Int)=a.2.1 then(Option.bind (qN U ((a.1,a.2.1,a.2.2.1,a.2.2.2.1,a.2.2.2.2.1,a.2.2.2.2.2)) ((d.1,d.2)) h) λg=>(some (g.1,g.2)))else(oD b c (()))))))else(By (()))
def lJ (a:Hg) (b:b_) (c:Int):V1 iU:=
 bE (gF U a b c) U (0:Int)
theorem aaK:aU prog 97:=call97
theorem FP {a:Hg} {v:b_} {n:Int} (i j:V0) (D:kI) (r:e_) (h:lJ U a v n=some r):
  aZ prog 97 #[Value.agg #[vS (a.1),vI (a.2.1),vI (a.2.2.1),vI (a.2.2.2.1),vI (a.2.2.2.2.1),vI (a.2.2.2.2.2)],Value.agg #[i,j],vI (n)] [Sl aK i v.1,S2 aR j D v.2] (λx:Unit=>Value.tuple #[vI (r.1),vI (r.2)]) (λx l=>l) (λ_ l=>l):=by
 let b:=a.2.2.2;let s:=Value.func (.func 163) #[] #[];let p:=Value.func (.func 162) #[] #[];let o:=Value.func (.func 161) #[] #[];let z:=vI (List.length ([((1:Int),(161:Nat)),((2:Int),(162:Nat)),((3:Int),(163:Nat))]):Int);refine aZ.of func97 Z ntmps97 Z λc=>?_;unfold lJ at h;refine aT<|aI (aN.box (cs:=[vS (a.1),vI (a.2.1),vI (a.2.2.1),vI (b.1),vI (b.2.1),vI (b.2.2)]) Z Z) Z λE=>let y:=bG E [vS (a.1),vI (a.2.1),vI (a.2.2.1),vI (b.1),vI (b.2.1),vI (b.2.2)] 82;aI (aN.box (cs:=[i,j]) Z Z) Z λC=>aC Z<|Q5 Z<|aT ?_
 refine aB (EZ (r:=Value.agg #[vI (1:Int),Value.func (.func 161) #[] #[]]) Z Z (by intro w;simp[Instr.build,Instr.fill,dU,c_,cO,dV,dW,dC,eV])) Z ?_;refine aB (EZ (r:=Value.agg #[vI (2:Int),Value.func (.func 162) #[] #[]]) Z Z (by intro w;simp[Instr.build,Instr.fill,dU,c_,cO,dV,dW,dC,eV])) Z ?_;refine aB (EZ (r:=Value.agg #[vI (3:Int),Value.func (.func 163) #[] #[]]) Z Z (by intro w;simp[Instr.build,Instr.fill,dU,c_,cO,dV,dW,dC,eV])) Z ?_;refine aI (cC (e:=Mj) ([(((1:Int),((161:Nat)))),(((2:Int),((162:Nat)))),(((3:Int),((163:Nat))))]) [(0,Value.agg #[vI (1:Int),o]),(1,Value.agg #[vI (2:Int),p]),(2,Value.agg #[vI (3:Int),s])] Z Z Z Z (abp (vI (1:Int)) (o) (vI (2:Int)) (p) (vI (3:Int)) (s)) Z Z Z) Z λJ=>let A:=Ar Mj J ([((1:Int),(161:Nat)),((2:Int),(162:Nat)),((3:Int),(163:Nat))]);Q5 Z<|aL<|fV (λB=>By B=some r) (λB N=>[]) (λB N=>[]) ?_ ?_
 .refine Q6 Z<|aB (eW Z (bI (aH.res 0 Z) DL) Z) Z<|aA Z<|aO<|aQ<|fT (gF U a v n) (λm O=>[(2,vI (n)),(3,vP E),(4,vP C),(15,J),(16,z),(17,vI (m))]) (λm O=>[A,bG C [i,j] 31,y]) (0:Int) () h SF (aS.refl _) ?_;intro F m O h;refine aT<|cN Z<|aO<|aL<|gC h Z (λh=>?_) λh=>?_
  .refine cU<|aL<|fV (λk=>oD m (bE (gF U a v n) F) k=some r) (λk t=>[(2,vI (n)),(3,vP E),(4,vP C),(15,J),(16,z),(17,vI (m))]) (λk t=>[A,bG C [i,j] 31,y]) ?_ ?_
   .refine aQ<|aT<|dQ h λg h=>aB (bD Z Z (bI (aH.res 0 Z) DL) Z Z g) Z ?_;by_cases d:m=(0:Int)
    .have h:=ME d h;refine aB (fG (cs:=[vI (1:Int),o]) Z (bI (aH.res 0 Z) DL) DL (by rw[d];rfl) Z Z Z g) Z ?_;refine aI (aN.alloc (cs:=[vI (0:Int),Value.nilFunc]) Z Z) Z λP=>bP 0 (vs:=[vI (1:Int),Value.func (.func 161) #[] #[]]) Z Z Z Z Z Z<|aO<|aT<|bZ Z<|dO 0 Z<|bZ Z<|dO 3 Z<|d_ Z<|aO<|gC h Z (λh=>?_) λh=>?_
     .refine aT<|bZ Z<|dO 0 Z<|cL 3 Z<|cL 2 Z<|aA Z<|fF h λG K h=>aI (mJ (vs:=[Value.agg #[vS (a.1),vI (a.2.1),vI (a.2.2.1),vI (a.2.2.2.1),vI (a.2.2.2.2.1),vI (a.2.2.2.2.2)],Value.agg #[i,j],vI (n)]) (cs:=[]) aeu Z (JS U i j D G K) Z (jJ [0,1] Z) (λ_ _=>rfl)) Z λS=>lV Z<|lV Z<|aC Z<|Q5 Z<|aV<|bU<|aM<|aM<|bU<|aM ?_;cases h;exact pH () Z Z (RV.tmp Z) (RV.tmp Z) .nil aD.nil
     exact eK<|mF<|cD () (()) h SF (aS.ix [1,2,3] Z Z) (aD.refl _ _)
    have h:=ifN d h;by_cases f:m=(1:Int)
    .have h:=ME f h;refine aB (fG (cs:=[vI (2:Int),p]) Z (bI (aH.res 0 Z) DL) DL (by rw[f];rfl) Z Z Z g) Z ?_;refine aI (aN.alloc (cs:=[vI (0:Int),Value.nilFunc]) Z Z) Z λQ=>bP 0 (vs:=[vI (2:Int),Value.func (.func 162) #[] #[]]) Z Z Z Z Z Z<|aO<|aT<|bZ Z<|dO 0 Z<|bZ Z<|dO 3 Z<|d_ Z<|aO<|gC h Z (λh=>?_) λh=>?_
     .refine aT<|bZ Z<|dO 0 Z<|cL 3 Z<|cL 2 Z<|aA Z<|fF h λH L h=>aI (mJ (vs:=[Value.agg #[vS (a.1),vI (a.2.1),vI (a.2.2.1),vI (a.2.2.2.1),vI (a.2.2.2.2.1),vI (a.2.2.2.2.2)],Value.agg #[i,j],vI (n)]) (cs:=[]) aev Z (JU U i j D H L) Z (jJ [0,1] Z) (λ_ _=>rfl)) Z λT=>lV Z<|lV Z<|aC Z<|Q5 Z<|aV<|bU<|aM<|aM<|bU<|aM ?_;cases h;exact pH () Z Z (RV.tmp Z) (RV.tmp Z) .nil aD.nil
     exact eK<|mF<|cD () (()) h SF (aS.ix [1,2,3] Z Z) (aD.refl _ _)
    have h:=ifN f h;have u:m=(2:Int):=by have q:=g;simp only[zAa,zAm]at q;omega
    refine aB (fG (cs:=[vI (3:Int),s]) Z (bI (aH.res 0 Z) DL) DL (by rw[u];rfl) Z Z Z g) Z ?_;refine aI (aN.alloc (cs:=[vI (0:Int),Value.nilFunc]) Z Z) Z λR=>bP 0 (vs:=[vI (3:Int),Value.func (.func 163) #[] #[]]) Z Z Z Z Z Z<|aO<|aT<|bZ Z<|dO 0 Z<|bZ Z<|dO 3 Z<|d_ Z<|aO<|gC h Z (λh=>?_) λh=>?_
    .refine aT<|bZ Z<|dO 0 Z<|cL 3 Z<|cL 2 Z<|aA Z<|fF h λI M h=>aI (mJ (vs:=[Value.agg #[vS (a.1),vI (a.2.1),vI (a.2.2.1),vI (a.2.2.2.1),vI (a.2.2.2.2.1),vI (a.2.2.2.2.2)],Value.agg #[i,j],vI (n)]) (cs:=[]) aew Z (JV U i j D I M) Z (jJ [0,1] Z) (λ_ _=>rfl)) Z λV=>lV Z<|lV Z<|aC Z<|Q5 Z<|aV<|bU<|aM<|aM<|bU<|aM ?_;cases h;exact pH () Z Z (RV.tmp Z) (RV.tmp Z) .nil aD.nil
    exact eK<|mF<|cD () (()) h SF (aS.ix [1,2,3] Z Z) (aD.refl _ _)
   intro k t h;unfold oD at h;exact aP<|cH Z<|aA Z<|aO<|Ci (wI .i64 (m+(1:Int))) () h SF Z
  exact fH<|cD () (()) h SF .nil (aD.refl _ _)
 intro B N h;unfold By at h;refine aT<|aC Z<|Q5 Z<|aV ?_;cases h;exact pH () Z Z (RV.tmp Z) (RV.tmp Z) (aS.refl _) aD.nil
def yQ (a:gY):V1 (gY):=
 some (a)
def yR (b:Int×gY) (a:(Int×gY)->V1 (gY)) (c:gY):V1 (gY):=
 a ((wI .i64 (b.1+(1:Int))),c)
def pY (d:tU) (g:b_) (b:Int×gY) (e:(Int×gY)->V1 (gY)) (a:Int×gY) (f:(Int×gY)->V1 (gY)):V1 (gY):=
 if a.1<(d.2.1.length:Int)then(ck (0<=a.1/\a.1<(d.2.1.length:Int)) (ck (0<=b.1/\b.1<(a.2.length:Int)) (ck (0<=b.1/\b.1<(a.2.length:Int)) (Option.bind (lJ U ((((at' d.2.1 a.1).1),((at' d.2.1 a.1).2.1),((at' d.2.1 a.1).2.2.1),((at' d.2.1 a.1).2.2.2.1),((at' d.2.1 a.1).2.2.2.2.1),((at' d.2.1 a.1).2.2.2.2.2))) ((g.1,g.2)) b.1) λc=>(ck (0<=a.1/\a.1<((at' a.2 b.1).length:Int)) (ck (0<=a.1/\a.1<((at' (List.set a.2 (Int.toNat b.1) (List.set (at' a.2 b.1) (Int.toNat a.1) (c.1,((at' (at' a.2 b.1) a.1).2)))) b.1).length:Int)) (f ((wI .i64 (a.1+(1:Int))),(List.set (List.set a.2 (Int.toNat b.1) (List.set (at' a.2 b.1) (Int.toNat a.1) (c.1,((at' (at' a.2 b.1) a.1).2)))) (Int.toNat b.1) (List.set (at' (List.set a.2 (Int.toNat b.1) (List.set (at' a.2 b.1) (Int.toNat a.1) (c.1,((at' (at' a.2 b.1) a.1).2)))) b.1) (Int.toNat a.1) (((at' (at' (List.set a.2 (Int.toNat b.1) (List.set (at' a.2 b.1) (Int.toNat a.1) (c.1,((at' (at' a.2 b.1) a.1).2)))) b.1) a.1).1),c.2)))))))))))else(yR b e (a.2))
def nF (c:tU) (d:b_) (a:Int×gY) (b:(Int×gY)->V1 (gY)):V1 (gY):=
 if a.1<((List.replicate (Int.toNat (List.length d.1:Int)) ([]:iF)).length:Int)then(ck (0<=(c.2.1.length:Int)/\(c.2.1.length:Int)<=1099511627) (ck (0<=a.1/\a.1<(a.2.length:Int)) (bE (pY U c d a b) U ((0:Int),(List.set a.2 (Int.toNat a.1) (List.replicate (Int.toNat (c.2.1.length:Int)) ((0:Int),(0:Int))))))))else(yQ (a.2))
def kZ (b:tU) (a:b_):V1 (gY):=
 ck (0<=(a.1.length:Int)/\(a.1.length:Int)<=1099511627) (bE (nF U b a) U ((0:Int),(List.replicate (Int.toNat (a.1.length:Int)) ([]:iF))))
theorem Vk:aU prog 48:=call48
theorem Dv (U:Nat) {d:tU} {y:b_} (H Y v2 v3:V0) (z4:kI) (r:gY) (h:kZ U d y=some r):
  aZ prog 48 #[Value.agg #[vS (d.1),H,Y],Value.agg #[v2,v3]] [Sl aG H d.2.1,Sl aF Y d.2.2,PF (Value.agg #[vS d.1,H,Y]),Sl aK v2 y.1,S2 aR v3 z4 y.2] (λx:Kc=>x.1) (λx l=>Ar bN.raw x.1 x.2::hJ bW x.2 r::l) (λ_ l=>l):=by
 let A:=(Int.toNat (y.1.length:Int))
 let X:=(List.replicate A ([]:iF))
 let D:=vI (X.length:Int);refine aZ.of func48 Z ntmps48 Z λc=>?_;refine aT<|aI (aN.box (cs:=[vS (d.1),H,Y]) Z Z) Z λb1=>let C:=bG b1 [vS (d.1),H,Y] 36;aI (aN.box (cs:=[v2,v3]) Z Z) Z λb2=>let F:=bG b2 [v2,v3] 31;aC Z<|aO<|aT<|bZ Z<|dO 0 Z<|jH (DJ Z) Z<|dQ h λj3 h=>cQ (BU bW A)<|aI (sV (e:=bN.raw) (eB) Z Z Z Z j3 Z Z Z) Z λw=>aC Z<|aO<|aL<|HU (B:=gE) (λI=>yQ I=some r) (λI K=>[(5,w)]) (λI K=>[Ar bN.raw w K,hJ bW K I]) ?_ ?_
 .refine aT<|aA Z<|aB (fR Z (fQ (i:=0) (j:=1) Z Z cA) Z) Z<|aA Z<|aO<|aQ<|fT (B:=gE) (nF U d y) (λb p=>[(2,vP b1),(3,vP b2),(5,w),(14,D),(15,vI (b.1))]) (λb p=>[Ar bN.raw w p,hJ bW p b.2,F,C]) ((0:Int),X) (List.replicate A (eB)) h SF (aS.refl _) ?_;intro W b p h;let v:=(Int.toNat b.1)
  refine aT<|cN Z<|aO<|aL ?_;refine gC h Z (λh=>?_) λh=>?_
  .refine cU<|aL<|HU (B:=gE) (λn=>yR b (bE (nF U d y) W) n=some r) (λn s=>[(2,vP b1),(3,vP b2),(5,w),(14,D),(15,vI (b.1))]) (λn s=>[Ar bN.raw w s,hJ bW s n,F,C]) ?_ ?_
   .refine aQ<|aT<|aA Z<|aC Z<|aO<|aT<|aA Z<|aA Z<|bZ Z<|dO 3 Z<|jH (cP Z) Z<|dQ h λaa h=>aI (sV (e:=bW) (((0:Int),(0:Int))) Z Z Z Z aa Z Z Z) Z λab=>let E:=(List.set p v ab);dQ h λt h=>aB (bX Z Z (fQ (i:=1) (j:=2) Z Z cA) Z Z t) Z<|bO (Know.one ((bI (aH.res 0 Z) cA))) λR=>cQ (Dc (k:=b.1) 2 0 Z Z Z t) ?_
    refine Bq 0 1 ⟨t.1,by first|exact t.2|simpa using t.2⟩ Z Z Z Z Z (by simp) R Z ?_;refine aO<|aT<|bZ Z<|dO 3 Z<|jH (cP Z) Z<|aA Z<|aO<|aQ<|fT (pY U d y b (bE (nF U d y) W)) (λa J=>[(2,vP b1),(3,vP b2),(5,w),(6,vI (b.1)),(14,D),(15,vI (b.1)),(26,H),(27,vI (d.2.1.length:Int)),(28,vI (a.1))]) (λa J=>[Ar bN.raw w E,hJ bW E a.2,F,C]) ((0:Int),(List.set b.2 v (List.replicate (Int.toNat (d.2.1.length:Int)) ((0:Int),(0:Int))))) () h SF (aS.refl _) ?_;intro ag a J h;let G:=(at' a.2 b.1)
    let q:=(at' d.2.1 a.1)
    refine aT<|cN Z<|aO<|aL ?_;refine gC h Z (λh=>?_) λh=>?_
    .refine cU<|aL<|aQ<|aT<|aA Z<|dQ h λS h=>aB (bD Z Z (cP Z) Z Z S) Z<|aB (fG (cs:=[vS (q.1),vI (q.2.1),vI (q.2.2.1),vI (q.2.2.2.1),vI (q.2.2.2.2.1),vI (q.2.2.2.2.2)]) Z (cP Z) xN Z Z Z Z S) Z<|aI (aN.alloc (cs:=vD2) Z Z) Z λaf=>aC Z<|bP 0 (vs:=[vS ((at' d.2.1 a.1).1),vI ((at' d.2.1 a.1).2.1),vI ((at' d.2.1 a.1).2.2.1),vI ((at' d.2.1 a.1).2.2.2.1),vI ((at' d.2.1 a.1).2.2.2.2.1),vI ((at' d.2.1 a.1).2.2.2.2.2)]) Z Z Z Z Z Z<|aO ?_;refine Bf [0,0,3,7,0,0,0,96,224,0,0,0,0,7168,15360,31744,31744,31,196095,458239,992,2097151,4194303] 21 mixedOrders ?_;refine bM Z<|bM Z<|dQ h λg h=>bQ (eQ 2 Z) λL=>?_;refine aY Z (aS.cons 1 Z .nil) .nil (x_ 0 Z Z Z Z Z g.1 (by have q1:=g.2;have q2:=L;(try simp only[zA3]at q1);(try simp only[zA3]at q2);(try simp only[zA3]);omega)) aJ.z ?_;refine bQ (eQ 2 Z) λM=>aY Z (aS.cons 1 Z .nil) .nil (m_ 0 Z Z M Z Z g) aJ.z<|bM Z<|bM Z<|bM Z<|dQ h λf h=>bQ (eQ 2 Z) λN=>?_;refine aY Z (aS.cons 1 Z .nil) .nil (x_ 0 Z Z Z Z Z f.1 (by have q1:=f.2;have q2:=N;(try simp only[zA3]at q1);(try simp only[zA3]at q2);(try simp only[zA3]);omega)) aJ.z ?_;refine bQ (eQ 2 Z) λO=>aY Z (aS.cons 1 Z .nil) .nil (m_ 0 Z Z O Z Z f) aJ.z<|bM Z<|sP 0 Z<|sP 3 Z<|bM Z<|fF h λm ac h=>let u:=(List.set a.2 v (List.set G (Int.toNat a.1) (m.1,((at' G a.1).2))));zBl Z Z Z (zBj aaK (FP U v2 v3 z4 m ac) Z (jJ [3,4] Z)) Z (λad=>(oP [([1],[]),([1],[]),([1],[]),([1],[])] Z)) λad=>jS Z (f_ Z)<|jS Z (wH Z Z)<|jS Z (wH Z Z)<|dQ h λT h=>bQ (Know.len (aH.row (j:=2) Z cA g.1 g.2)) λP=>jS Z (mO Z Z P Z Z T) ?_
     refine jS Z (Hp (i:=0) Z Z Z Z Z (by decide)) ?_;refine Gl Z Z Z (Db (us:=[vI (m.1)]) (o:=0) (k:=b.1) 2 ((m.1,((at' G a.1).2))) ⟨g.1,by first|exact g.2|simpa using g.2⟩ T Z Z Z Z Z Z Z Z Z Z) (λae=>(oP [] Z)) λae=>dQ h λV h=>bQ (Know.len (aH.row (j:=2) Z cA f.1 (by first|exact f.2|simpa using f.2))) λQ=>?_;refine jS Z (mO Z Z Q Z Z V)<|bS 21 Z Z ?_;refine aB (Hp (i:=1) Z Z Z Z Z (by decide)) Z ?_;refine ER (Db (us:=[vI (m.2)]) (o:=1) (k:=b.1) 2 ((((at' (at' u b.1) a.1).1),m.2)) ⟨f.1,by first|exact f.2|simpa using f.2⟩ V Z Z Z Z Z Z Z Z Z Z) λah=>fC<|mF<|aP<|cH Z<|aA Z<|aO ?_;exact gA ((wI .i64 (a.1+(1:Int))),(List.set u v (List.set (at' u b.1) (Int.toNat a.1) (((at' (at' u b.1) a.1).1),m.2)))) () h SF (aS.ix [1,2,3,4] Z Z) (aD.refl _ _)
    refine sS<|fU<|fU<|Aj<|mF ?_;exact jV (a.2) E h SF Z
   intro n s h;unfold yR at h;refine aP<|cH Z<|aA Z<|aO ?_;exact Ci ((wI .i64 (b.1+(1:Int))),n) (s) h SF Z
  refine fH ?_;exact cD (b.2) (p) h SF (aS.ix [0,1] Z Z) (aD.refl _ _)
 intro I K h;unfold yQ at h;refine aT<|aA Z<|aC Z<|aO<|aV ?_;cases h;exact fD (w,K) Z Z (RV.tmp Z) (aS.refl _) aD.nil
def Aq (a:Unit):V1 (Int):=
 some (0:Int)
def rR (b:Int) (a:(Int)->V1 (Int)) (c:Unit):V1 (Int):=
 a (wI .i64 (b+(1:Int)))
def As (b:Int) (a:(Int)->V1 (Int)) (c:V4):V1 (Int):=
 if c=true then(some (9:Int))else(rR b a (()))
def oQ (c:tU) (e:b_) (a:Int) (b:(Int)->V1 (Int)):V1 (Int):=
 if a<(c.2.1.length:Int)then(ck (0<=a/\a<(c.2.1.length:Int)) (if((at' c.2.1 a).2.1)≠(1:Int)then(rR a b (()))else(Option.bind (lJ U ((((at' c.2.1 a).1),((at' c.2.1 a).2.1),((at' c.2.1 a).2.2.1),((at' c.2.1 a).2.2.2.1),((at' c.2.1 a).2.2.2.2.1),((at' c.2.1 a).2.2.2.2.2))) ((e.1,e.2)) (0:Int)) λd=>(if d.2<d.1 then(As a b (true))else(As a b (decide ((4096:Int)<(wI .i64 ((wI .i64 (d.2 - d.1))+(1:Int))))))))))else(Aq (()))
def qV (a:tU) (b:b_):V1 (Int):=
 Option.bind (Ek U ((a.1,a.2.1,a.2.2))) λc=>(if(!c)=true then(some (8:Int))else(Option.bind (gO U ((b.1,b.2))) λd=>(if(!d)=true then(some (1:Int))else(bE (oQ U a b) U (0:Int)))))
theorem WP:aU prog 107:=call107
theorem Iu {b:tU} {n:b_} (i y o p:V0) (B:kI) (r:Int) (h:qV U b n=some r):
  aZ prog 107 #[Value.agg #[vS (b.1),i,y],Value.agg #[o,p]] [Sl aG i b.2.1,Sl aF y b.2.2,PF (Value.agg #[vS b.1,i,y]),Sl aK o n.1,S2 aR p B n.2] (λx:Unit=>vI (r)) (λx l=>l) (λ_ l=>l):=by
 let j:=vI (b.2.1.length:Int);refine aZ.of func107 Z ntmps107 Z λc=>aT<|aI (aN.box (cs:=[vS (b.1),i,y]) Z Z) Z λI=>aI (aN.box (cs:=[o,p]) Z Z) Z λz=>let k:=bG z [o,p] 31;Q5 Z<|aL<|aT<|cL 1 Z<|fF h λD F h=>aI (zBj Jk (OY U i y D F) Z (jJ [0,1,2] Z)) Z λJ=>aB (nY Z) Z<|aO ?_
 refine Ag h Z (λ_ h=>?_) λ_ h=>?_
 .refine Q4 Z<|aV<|aM ?_;cases h;exact uC Z
 refine cU<|aL<|aT<|cL 0 Z<|fF h λE G h=>aI (zBj Nl (yK U o p B E G) Z (jJ [3,4] Z)) Z λK=>aB (nY Z) Z<|aO<|Ag h Z (λ_ h=>?_) λ_ h=>?_
 .refine Q4 Z<|aV<|aM ?_;cases h;exact uC Z
 refine cU<|aL<|fV (λf=>Aq f=some r) (λf q=>[]) (λf q=>[]) ?_ ?_
 .refine aT<|bZ Z<|dO 1 Z<|jH (cP Z) Z<|aA Z<|aO<|aQ<|fT (oQ U b n) (λa s=>[(3,vP z),(16,i),(17,j),(18,vI (a))]) (λa s=>[k]) (0:Int) () h SF (aS.ix [0] Z Z) ?_;intro w a s h;let d:=(at' b.2.1 a)
  refine aT<|cN Z<|aO<|aL<|gC h Z (λh=>?_) λh=>?_
  .refine cU<|aL<|fV (λg=>rR a (bE (oQ U b n) w) g=some r) (λg t=>[(3,vP z),(16,i),(17,j),(18,vI (a))]) (λg t=>[k]) ?_ ?_
   .refine aQ<|aT<|dQ h λv h=>aB (bD Z Z (cP Z) Z Z v) Z<|aB (fG (cs:=[vS (d.1),vI (d.2.1),vI (d.2.2.1),vI (d.2.2.2.1),vI (d.2.2.2.2.1),vI (d.2.2.2.2.2)]) Z (cP Z) xN Z Z Z Z v) Z<|aI (aN.alloc (cs:=vD2) Z Z) Z λC=>bP 0 (vs:=[vS ((at' b.2.1 a).1),vI ((at' b.2.1 a).2.1),vI ((at' b.2.1 a).2.2.1),vI ((at' b.2.1 a).2.2.2.1),vI ((at' b.2.1 a).2.2.2.2.1),vI ((at' b.2.1 a).2.2.2.2.2)]) Z Z Z Z Z Z<|aO<|aL<|aT<|bZ Z<|dO 0 Z<|tT Z<|aO<|gC h Z (λh=>?_) λh=>?_
    .exact sS<|fU<|Aj<|Hm<|cD () (()) h SF (aS.ix [1] Z Z) (aD.refl _ _)
    refine cU<|aT<|cL 0 Z<|cL 1 Z<|fF h λm A h=>aI (zBj aaK (FP U o p B m A) Z (jJ [3,4] Z)) Z λH=>aA Z<|lV Z<|lV Z<|aC Z<|Q5 Z<|aL<|fV (λe=>As a (bE (oQ U b n) w) e=some r) (λe u=>[(3,vP z),(16,i),(17,j),(18,vI (a)),(40,vB (e))]) (λe u=>[k]) ?_ ?_
    .refine aP<|aA Z<|aA Z<|cN Z<|aA Z<|IX h Z (λ_ h=>?_) λ_ h=>?_
     .exact aW Z<|aW Z<|aW Z<|aW Z<|aW Z<|gT Z<|aO<|cD (true) () h SF (aS.ix [1] Z Z) (aD.refl _ _)
     exact gW Z<|gW Z<|bB Z (zM Z Z) Z<|bB Z (Ak Z Z) Z<|bB Z (zW Z Z) Z<|iV Z<|aO<|cD (decide ((4096:Int)<(wI .i64 ((wI .i64 (m.2 - m.1))+(1:Int))))) () h SF (aS.ix [1] Z Z) (aD.refl _ _)
    intro e u h;refine Ag h Z (λ_ h=>?_) λ_ h=>?_
    .refine Q4 Z<|aV<|bU<|aM<|aM<|bU<|aM ?_;cases h;exact uC Z
    exact eK<|mF<|jV () (()) h SF Z
   intro g t h;unfold rR at h;exact aP<|cH Z<|aA Z<|aO<|Ci (wI .i64 (a+(1:Int))) () h SF Z
  exact fH<|cD () (()) h SF .nil (aD.refl _ _)
 intro f q h;unfold Aq at h;refine Q4 Z<|aV ?_;cases h;exact oA Z
def zB (a:Unit):V1 V4:=
 some (true)
def zC (c:Int) (b:(Int)->V1 V4) (a:V4):V1 V4:=
 if a=true then(some (false))else(b (wI .i64 (c+(1:Int))))
def tS (c:iF) (d:aX) (a:Int) (b:(Int)->V1 V4):V1 V4:=
 if a<(d.length:Int)then(ck (0<=a/\a<(d.length:Int)) (ck (0<=a/\a<(c.length:Int)) (if(at' d a)<((at' c a).1)then(zC a b (true))else(ck (0<=a/\a<(c.length:Int)) (zC a b (decide (((at' c a).2)<(at' d a))))))))else(zB (()))
def vL (a:iF) (b:aX):V1 V4:=
 if(b.length:Int)≠(a.length:Int)then(some (false))else(bE (tS a b) U (0:Int))
theorem aaH:aU prog 50:=call50
theorem G_ {k:iF} {d:aX} (n o:V0) (r:V4) (h:vL U k d=some r):
  aZ prog 50 #[n,o] [Sl aR n k,Sl aK o d] (λx:Unit=>vB (r)) (λx l=>l) (λ_ l=>l):=by
 refine aZ.of func50 Z ntmps50 Z λc=>Q4 Z<|aL<|Q6 Z<|jH (n_ Z) Z<|aA Z<|jH (cP Z) Z<|tT Z<|aO<|gC h Z (λh=>?_) λh=>?_
 .refine Q4 Z<|aV<|aM ?_;cases h;exact oA Z
 refine cU<|aL<|fV (λm=>zB m=some r) (λm p=>[]) (λm p=>[]) ?_ ?_
 .refine Q6 Z<|jH (n_ Z) Z<|aA Z<|aO<|aQ<|fT (tS k d) (λb q=>[(0,n),(12,o),(13,vI (d.length:Int)),(14,vI (b))]) (λb q=>[]) (0:Int) () h SF (aS.refl _) ?_;intro s b q h;refine aT<|cN Z<|aO<|aL<|gC h Z (λh=>?_) λh=>?_
  .refine cU<|aL<|aQ<|Q6 Z<|dQ h λf h=>aB (bD Z Z (n_ Z) Z Z f) Z<|aB (bY Z (n_ Z) Z Z Z dJ f) Z<|aC Z<|Q5 Z<|aL<|fV (λa=>zC b (bE (tS k d) s) a=some r) (λa e=>[(0,n),(12,o),(13,vI (d.length:Int)),(14,vI (b)),(34,vB (a))]) (λa e=>[]) ?_ ?_
   .refine aP<|aA Z<|aA Z<|aA Z<|dQ h λg h=>aB (bD Z Z (cP Z) Z Z g) Z<|aB (Hp (i:=0) Z Z Z Z Z Q2) Z ?_;refine aB (nR Z (cP Z) Z Z Z Br g) Z<|cN Z<|aA Z<|IX h Z (λ_ h=>?_) λ_ h=>?_
    .exact aW Z<|aW Z<|aW Z<|aW Z<|aW Z<|aW Z<|aW Z<|gT Z<|aO<|jV (true) () h SF Z
    refine gW Z<|gW Z<|gW Z<|dQ h λj h=>bB Z (bD Z Z (cP Z) Z Z j) Z<|bB Z (Hp (i:=1) Z Z Z Z Z Q2) Z ?_;exact bB Z (nR Z (cP Z) Z Z Z UZ j) Z<|bB Z (zW Z Z) Z<|iV Z<|aO<|jV (decide (((at' k b).2)<(at' d b))) () h SF Z
   intro a e h;refine Ag h Z (λ_ h=>?_) λ_ h=>?_
   .refine Q4 Z<|aV<|bU<|aM<|aM<|bU<|aM ?_;cases h;exact oA Z
   exact eK<|mF<|aP<|cH Z<|aA Z<|aO<|Ci (wI .i64 (b+(1:Int))) () h SF Z
  exact fH<|jV () (()) h SF Z
 intro m p h;unfold zB at h;refine Q4 Z<|aV ?_;cases h;exact oA Z
def wR (a:Unit):V1 V4:=
 some (true)
def wS (c:gY) (e:bJ) (a:Int) (b:(Int)->V1 V4):V1 V4:=
 if a<(c.length:Int)then(ck (0<=a/\a<(c.length:Int)) (ck (0<=a/\a<(e.length:Int)) (Option.bind (vL U (at' c a) (at' e a)) λd=>(if(!d)=true then(some (false))else(b (wI .i64 (a+(1:Int))))))))else(wR (()))
def yZ (a:gY) (b:bJ):V1 V4:=
 if(b.length:Int)≠(a.length:Int)then(some (false))else(bE (wS U a b) U (0:Int))
theorem ael:aU prog 119:=call119
theorem Me {f:gY} {g:bJ} (j:V0) (p:kI) (k:V0) (q:mC) (r:V4) (h:yZ U f g=some r):
  aZ prog 119 #[j,k] [S2 aR j p f,S2 aK k q g] (λx:Unit=>vB (r)) (λx l=>l) (λ_ l=>l):=by
 refine aZ.of func119 Z ntmps119 Z λc=>Q4 Z<|aL<|Q6 Z<|aB (fR Z (n_ Z) Z) Z<|aA Z<|aB (fR Z (cP Z) Z) Z<|tT Z<|aO<|gC h Z (λh=>?_) λh=>?_
 .refine Q4 Z<|aV<|aM ?_;cases h;exact oA Z
 refine cU<|aL<|fV (λe=>wR e=some r) (λe n=>[]) (λe n=>[]) ?_ ?_
 .refine Q6 Z<|aB (fR Z (cP Z) Z) Z<|aA Z<|aO<|aQ<|fT (wS U f g) (λd o=>[(1,k),(12,j),(13,vI (f.length:Int)),(14,vI (d))]) (λd o=>[]) (0:Int) () h SF (aS.refl _) ?_;intro t d o h;refine aT<|cN Z<|aO<|aL<|gC h Z (λh=>?_) λh=>?_
  .refine cU<|aL<|aQ<|Q6 Z<|dQ h λa h=>aB (bX Z Z (cP Z) Z Z a) Z<|aB (cB Z (cP Z) Z Z a) Z<|aC Z<|Q5 Z<|Q6 Z<|aA Z<|aA Z<|dQ h λb h=>aB (bX Z Z (n_ Z) Z Z b) Z<|aB (cB Z (n_ Z) Z Z b) Z<|fF h λi m h=>aI (zBj aaH (G_ U ((at' p d).1) ((at' q d).1) i m) Z (aD.cons (zBk (cP Z) a.1 a.2) (aD.cons (zBk (n_ Z) b.1 b.2) .nil))) Z λs=>aB (nY Z) Z<|aO<|Ag h Z (λ_ h=>?_) λ_ h=>?_
   .refine Q4 Z<|aV<|bU<|aM<|aM<|bU<|aM ?_;cases h;exact oA Z
   exact eK<|mF<|aP<|cH Z<|aA Z<|aO<|Ci (wI .i64 (d+(1:Int))) () h SF Z
  exact fH<|jV () (()) h SF Z
 intro e n h;unfold wR at h;refine Q4 Z<|aV ?_;cases h;exact oA Z
def vK (a:tU) (b:b_) (e:bJ):V1 (Int):=
 Option.bind (qV U ((a.1,a.2.1,a.2.2)) ((b.1,b.2))) λd=>(if d≠(0:Int)then(some (d))else(Option.bind (kZ U ((a.1,a.2.1,a.2.2)) ((b.1,b.2))) λf=>(Option.bind (yZ U f e) λc=>(if(!c)=true then(some (10:Int))else(some (0:Int))))))
theorem ahx:aU prog 75:=call75
theorem On {a:tU} {g:b_} {p:bJ} (b d e f:V0) (o:kI) (m:V0) (t:mC) (r:Int) (h:vK U a g p=some r):
  aZ prog 75 #[Value.agg #[vS (a.1),b,d],Value.agg #[e,f],m] [Sl aG b a.2.1,Sl aF d a.2.2,PF (Value.agg #[vS a.1,b,d]),Sl aK e g.1,S2 aR f o g.2,S2 aK m t p] (λx:Unit=>vI (r)) (λx l=>l) (λ_ l=>l):=by
 refine aZ.of func75 Z ntmps75 Z λc=>aT<|aI (aN.box (cs:=[vS (a.1),b,d]) Z Z) Z λz=>aI (aN.box (cs:=[e,f]) Z Z) Z λA=>Q5 Z<|aL<|aT<|cL 1 Z<|cL 0 Z<|fF h λu v h=>aI (zBj WP (Iu U b d e f o u v) Z (jJ [0,1,2,3,4] Z)) Z λB=>Q5 Z<|Q6 Z<|tT Z<|aO<|gC h Z (λh=>?_) λh=>?_
 .refine Q6 Z<|Q5 Z<|aV<|aM ?_;cases h;exact uC Z
 refine cU<|aL<|aT<|cL 1 Z<|cL 0 Z<|fF h λq w h=>aI (zBj Vk (Dv U b d e f o q w) Z (jJ [0,1,2,3,4] Z)) Z λs=>aA Z<|fF h λk n h=>aI (zBj ael (Me U s.1 (List.zip s.2 q) m t k n) Z (aD.cons (fQ (i:=0) (j:=1) Z Z cA) (jJ [5] Z))) Z λy=>aB (nY Z) Z<|aO<|Ag h Z (λ_ h=>?_) λ_ h=>?_
 .refine Q4 Z<|aV<|aM ?_;cases h;exact uC Z
 refine cU<|Q4 Z<|aV ?_;cases h;exact uC Z
def AJ (a:bJ):V1 bJ:=
 some (a)
def vT (c:bJ) (a:Int×bJ) (b:(Int×bJ)->V1 bJ):V1 bJ:=
 if a.1<(c.length:Int)then(ck (0<=a.1/\a.1<(c.length:Int)) (ck ((List.length ([]:aX):Int)+((at' c a.1).length:Int)<=1099511627) (ck (0<=a.1/\a.1<(a.2.length:Int)) (b ((wI .i64 (a.1+(1:Int))),(List.set a.2 (Int.toNat a.1) (([]:aX)++(at' c a.1))))))))else(AJ (a.2))
def qY (a:bJ):V1 bJ:=
 ck (0<=(a.length:Int)/\(a.length:Int)<=1099511627) (bE (vT a) U ((0:Int),(List.replicate (Int.toNat (a.length:Int)) ([]:aX))))
theorem Vm:aU prog 76:=call76
theorem Em (U:Nat) {m:bJ} (u:V0) (y:mC) (r:bJ) (h:qY U m=some r):
  aZ prog 76 #[u] [S2 aK u y m] (λx:Kc=>x.1) (λx l=>Ar bN.raw x.1 x.2::hJ cY x.2 r::l) (λ_ l=>l):=by
 let g:=(Int.toNat (m.length:Int))
 refine aZ.of func76 Z ntmps76 Z λc=>?_;refine aT<|aC Z<|aO<|aT<|aA Z<|aB (fR Z (cP Z) Z) Z<|dQ h λv h=>cQ (BU cY g)<|aI (sV (e:=bN.raw) (eB) Z Z Z Z v Z Z Z) Z λq=>aC Z<|aO<|aL<|HU (B:=gE) (λn=>AJ n=some r) (λn o=>[(3,q)]) (λn o=>[Ar bN.raw q o,hJ cY o n]) ?_ ?_
 .refine aT<|aA Z<|aB (fR Z (cP Z) Z) Z<|aA Z<|aO<|aQ<|fT (B:=gE) (vT m) (λa b=>[(3,q),(9,u),(10,vI (m.length:Int)),(11,vI (a.1))]) (λa b=>[Ar bN.raw q b,hJ cY b a.2]) ((0:Int),(List.replicate g ([]:aX))) (List.replicate g (eB)) h SF (aS.refl _) ?_;intro w a b h;refine aT<|cN Z<|aO<|aL ?_;refine gC h Z (λh=>?_) λh=>?_
  .refine cU<|aL<|aQ<|aT<|aA Z<|dQ h λf h=>aB (bX Z Z (cP Z) Z Z f) Z<|aB (cB Z (cP Z) Z Z f) Z<|aC Z<|aC Z<|aO<|aP<|aA Z<|aA Z<|aA Z<|cQ (iJ cY)<|dQ h λs h=>aI (gU 0 eP Z Z Z (zBk (cP Z) f.1 f.2) Z Z Z Z s Z) Z λt=>dQ h λd h=>aB (bX Z Z (fQ (i:=1) (j:=2) Z Z eP) Z Z d) Z<|bO (Know.one ((bI (aH.res 0 Z) eP))) λp=>cQ (Dc (k:=a.1) 2 0 Z Z Z d) ?_;refine Bq 0 1 ⟨d.1,by first|exact d.2|simpa using d.2⟩ Z Z Z Z Z (by simp) p Z ?_;refine fC<|mF<|aP<|cH Z<|aA Z<|aO ?_;exact Ci ((wI .i64 (a.1+(1:Int))),(List.set a.2 (Int.toNat a.1) (([]:aX)++(at' m a.1)))) (List.set b (Int.toNat a.1) t) h SF Z
  refine fH ?_;exact jV (a.2) (b) h SF Z
 intro n o h;unfold AJ at h;refine aT<|aA Z<|aC Z<|aO<|aV ?_;cases h;exact fD (q,o) Z Z (RV.tmp Z) (aS.refl _) aD.nil
end Go.Proofs.YtflciafboapaaaaGreat
namespace Go.Proofs.YtflciafboapaaaaGreat
open Go Go.Sx
abbrev xO:=ByteArray×(V6 Ah)×(V6 oJ)
structure pV (g:GR) (vars:List Ah):Prop where
 len:vars.length<=20
 small:∀x,x<vars.length->Eu (at' vars (x:Int))
 kind:∀x,x<vars.length->(at' vars (x:Int)).2.1=1\/(at' vars (x:Int)).2.1=2\/(at' vars (x:Int)).2.1=3
 range:∀x,x<vars.length->(at' vars (x:Int)).2.1=1 -> -100000<=lo g (at' vars (x:Int)) 0/\lo g (at' vars (x:Int)) 0<=hi g (at' vars (x:Int)) 0/\hi g (at' vars (x:Int)) 0 - lo g (at' vars (x:Int)) 0+1<=4096
theorem abX {g:GR} (a:VG g):mG 1000 g.1=some (fI g g.1.length):=by
 have d:=a.n24;have b:=a.len;have h:=a.n1;have f:0<=at' g.1 ((0:Nat):Int):=(a.node 0 V7).id.1;unfold mG;rw[Q0,Q7];have:=eJ (step:=oB g.1) (K:=some (fI g g.1.length)) (g.1.length - 1) (λk=>(fI g (k+1),((k+1:Nat):Int))) (λk c i=>by
  unfold oB;dsimp only;rw[Q3,Q7,Q8];rfl) (λc=>by
  unfold oB yI;dsimp only;rw[Q0,show g.1.length - 1+1=g.1.length by omega]) 1000 V7
 have e:fI g (0+1)=at' g.1 (0:Int):=by
  show max (fI g 0) (at' g.1 ((0:Nat):Int))=_;simp only[fI];have:at' g.1 ((0:Nat):Int)=at' g.1 (0:Int):=rfl;omega
 rw[e]at this;exact this
theorem Ps {g:GR} (c:VG g) {x:Ah} (o:Eu x) (n:x.2.1=1\/x.2.1=2\/x.2.1=3) {v:Nat} (p:v<g.2.length):lJ 1000 x g (v:Int)=some (lo g x v,hi g x v):=by
 have⟨⟨B,C⟩,⟨r,s⟩,t,u⟩:=o;have l:=c.n24;have d:=c.len;have e:=rZ c g.1.length V7;have w:0<=x.2.2.2.2.1*(g.1.length:Int):=zBh r V7;have y:x.2.2.2.2.1*(g.1.length:Int)<=100000*24:=Int.mul_le_mul s V7 V7 V7;have z:0<=x.2.2.2.2.2*fI g g.1.length:=zBh t e.1;have A:x.2.2.2.2.2*fI g g.1.length<=100000*255:=Int.mul_le_mul u e.2 e.1 V7;have i:qM 1000 x g (v:Int)=some (x.2.2.1,x.2.2.2.1+x.2.2.2.2.1*(g.2.length:Int)+x.2.2.2.2.2*fI g g.1.length):=by
  unfold qM;rw[bA (abX c),Q9 (x:=x.2.2.2.2.1*_),Q9 (x:=x.2.2.2.2.2*_),Q9 (x:=x.2.2.2.1+_),Q9,d]
 have j:qN 1000 x g (v:Int)=some (-1,((row g v).length:Int) - 1):=by
  have k:=(c.node v p).deg;unfold qN;rw[Q7];show some ((-1:Int),wI .i64 (((row g v).length:Int) - 1))=_;rw[Q9]
 have q:∀(f:Nat) (a:Int),bE (gF 1000 x g (v:Int)) (f+1) a=gF 1000 x g (v:Int) a (bE (gF 1000 x g (v:Int)) f):=λf a=>rfl;have b:∀(f:Nat) (a:Int),a=0\/a=1\/a=2->bE (gF 1000 x g (v:Int)) (f+1) a=if a=0 then(if 1=x.2.1 then qM 1000 x g (v:Int)else bE (gF 1000 x g (v:Int)) f 1)else if a=1 then(if 2=x.2.1 then uK 1000 x g (v:Int)else bE (gF 1000 x g (v:Int)) f 2)else(if 3=x.2.1 then qN 1000 x g (v:Int)else bE (gF 1000 x g (v:Int)) f 3):=by
  intro f a m;rw[q];generalize bE (gF 1000 x g (v:Int)) f=G;unfold gF oD;rcases m with rfl|rfl|rfl
  .rw[if_pos Q2,cR Q2,if_pos Z,if_pos Z];split
   .rw[i];rfl
   .rfl
  .rw[if_pos Q2,cR Q2,if_neg (show¬(1:Int)=0 by decide),if_pos Z,if_neg (show¬(1:Int)=0 by decide),if_pos Z];split
   .rfl
   .rfl
  .rw[if_pos Q2,cR Q2,if_neg (show¬(2:Int)=0 by decide),if_neg (show¬(2:Int)=1 by decide),if_neg (show¬(2:Int)=0 by decide),if_neg (show¬(2:Int)=1 by decide)];split
   .rw[j];rfl
   .rfl
 unfold lJ lo hi;rcases n with h|h|h
 .rw[b 999 0 (.inl Z),if_pos Z,if_pos h.symm,i,h,if_neg Q2,if_neg Q2,if_neg Q2,if_neg Q2]
 .rw[b 999 0 (.inl Z),if_pos Z,Q0,b 998 1 (.inr (.inl Z)),if_neg Q2,if_pos Z,if_pos h.symm,h,if_pos Z,if_pos Z];rfl
 .rw[b 999 0 (.inl Z),if_pos Z,Q0,b 998 1 (.inr (.inl Z)),if_neg Q2,if_pos Z,Q0,b 997 2 (.inr (.inr Z)),if_neg Q2,if_neg Q2,if_pos h.symm,j,h,if_neg Q2,if_pos Z,if_neg Q2,if_pos Z]
def rQ (g:GR) (a:V6 Ah) (v x:Nat):e_:=(lo g (at' a (x:Int)) v,hi g (at' a (x:Int)) v)
def HZ (g:GR) (a:V6 Ah) (v:Nat):iF:=(List.range a.length).map (rQ g a v)
def Cv (g:GR) (a:V6 Ah):gY:=(List.range g.2.length).map (HZ g a)
theorem AQ {a:Type} [Inhabited a] (f:Nat->a) {n k:Nat} (h:k<n):at' ((List.range n).map f) (k:Int)=f k:=by
 rw[i_ (by simpa using h)];simp
theorem BN {a:Type} (f:Nat->a) (z:a) (n k:Nat) (h:k<n):((List.range k).map f++List.replicate (n - k) z).set k (f k)=(List.range (k+1)).map f++List.replicate (n - (k+1)) z:=by
 rw[show n - k=(n - (k+1))+1 by omega,List.replicate_succ,List.set_append_right _ _ V8,List.range_succ];simp
theorem Ow {g:GR} (m:VG g) {p:xO} (n:pV g p.2.1):kZ 1000 p g=some (Cv g p.2.1):=by
 have s:=m.n24;have d:=m.len;have w:=n.len;let a:=p.2.1;let Q:Nat->gY:=λk=>(List.range k).map (HZ g a)++List.replicate (g.2.length - k) [];have c:∀k,k<=g.2.length->(Q k).length=g.2.length:=λk f=>by simp[Q];omega
 let R:Nat->Nat->iF:=λk j=>(List.range j).map (rQ g a k)++List.replicate (a.length - j) (0,0);have l:∀k j,j<=a.length->(R k j).length=a.length:=λk j b=>by simp[R];omega
 unfold kZ;rw[Q7];rw[show List.replicate (Int.toNat (g.1.length:Int)) ([]:iF)=Q 0 by simp[Q,d]];refine eJ (step:=nF 1000 p g) (K:=some (Cv g a)) g.2.length (λk=>((k:Int),Q k)) (λk e f=>?_) (λe=>?_) 1000 V7
 .unfold nF;dsimp only;rw[if_pos Q1,Q7,cR (by rw[c k V7];omega)];refine Eq.trans (?_:_=bE (pY 1000 p g ((k:Int),Q k) e) 1000 ((0:Int),(Q k).set k (R k 0))) ?_
  .rw[zAf,zAf];simp[R,a]
  refine eJ (step:=pY 1000 p g ((k:Int),Q k) e) (K:=e (((k+1:Nat):Int),Q (k+1))) a.length (λj=>((j:Int),(Q k).set k (R k j))) (λj h b=>?_) (λh=>?_) 1000 (by show p.2.1.length<1000;omega)
  .have u:j<p.2.1.length:=b;have t:=Ps m (n.small j b) (n.kind j b) f;have v:k<(Q k).length:=by rw[c k V7];exact f
   have o:∀X:iF,at' ((Q k).set k X) (k:Int)=X:=λX=>by rw[qT _ _ _ _ v,if_pos Z]
   have i:j<(R k j).length:=by rw[l k j V7];exact b
   unfold pY;dsimp only;rw[Q3,Q7,cR (by simp only[zA3];omega),cR (by simp only[zA3];omega),bA (show lJ 1000 _ g (k:Int)=_ from t),zAf,zAf];simp only[o,List.set_set];rw[Q7,cR (by simp only[zA3];omega),Q8];have:(R k j).set j (lo g (at' p.2.1 (j:Int)) k,hi g (at' p.2.1 (j:Int)) k)=R k (j+1):=BN (rQ g a k) (0,0) a.length j b;rw[qT _ _ _ _ i,if_pos Z];dsimp only;rw[this]
  .unfold pY yR;dsimp only;rw[if_neg (show¬((a.length:Nat):Int)<(p.2.1.length:Int)from Int.lt_irrefl _),Q8];have q:R k a.length=HZ g a k:=by simp[R,HZ]
   have r:(Q k).set k (HZ g a k)=Q (k+1):=BN (HZ g a) [] g.2.length k f;rw[q,r]
 .unfold nF yQ;dsimp only;rw[if_neg Q1];simp[Q,Cv]
theorem Xp {g:GR} (c:VG g) {p:xO} (b:pV g p.2.1):qV 1000 p g=some 0:=by
 have i:=c.n1;have h:=b.len;unfold qV;rw[bA (show Ek 1000 _=some true from rfl),if_neg Q2,bA (show gO 1000 g=some true from(Lo g).1 c),if_neg Q2];refine eJ (step:=oQ 1000 p g) (K:=some 0) p.2.1.length (λk=>(k:Int)) (λk e d=>?_) (λe=>?_) 1000 V7
 .unfold oQ rR As rR;rw[Q3,Q7,Q8];by_cases a:(at' p.2.1 (k:Int)).2.1=1
  .have⟨j,l,m⟩:=b.range k d a;have f:=Ps c (b.small k d) (b.kind k d) (v:=0) V7;rw[if_neg (by simpa using a),bA (show lJ 1000 _ g (0:Int)=_ from f)];dsimp only;rw[Q0,Q9 (x:=hi g (at' p.2.1 (k:Int)) 0 - lo g (at' p.2.1 (k:Int)) 0),Q9,if_neg (by rw[zA2];omega)]
  .rw[if_pos a]
 .unfold oQ Aq;rw[Q0]
theorem Xj (c:bJ) (h:c.length<=900) (e:∀v,v<c.length->(at' c (v:Int)).length<=1000):qY 1000 c=some c:=by
 unfold qY;rw[Q7];let Q:Nat->bJ:=λk=>(List.range k).map (λv:Nat=>at' c (v:Int))++List.replicate (c.length - k) [];rw[show List.replicate (Int.toNat (c.length:Int)) ([]:aX)=Q 0 by simp[Q]];refine eJ (step:=vT c) (K:=some c) c.length (λk=>((k:Int),Q k)) (λk b a=>?_) (λb=>?_) 1000 V7
 .have g:(Q k).length=c.length:=by simp[Q];omega
  have:=e k a;unfold vT;dsimp only;rw[Q3,Q7,cR Q1,Q7,Q8,zAf,List.nil_append];have:(Q k).set k (at' c (k:Int))=Q (k+1):=BN (λv:Nat=>at' c (v:Int)) [] c.length k a;rw[this]
 .unfold vT AJ;dsimp only;rw[Q0];congr 1;refine List.ext_getElem (by simp[Q]) λi f d=>?_;simp[Q,i_ d]
def KZ (x:Int):Int:=max (-1073741824) (min x 1073741824)
def unD (o x:Int):Int:=if o=18 then wI .i64 (0 - x)else yA (decide (x=0))
def Ua (a b:Int):Int:=if b=0 then 0 else if Int.tmod a b≠0/\((decide (a<0)) != (decide (b<0)))=true then wI .i64 (wI .i64 (Int.tdiv a b) - 1)else wI .i64 (Int.tdiv a b)
def ahY (o x y:Int):V4:=if o=35 then decide (x=y)else if o=36 then decide (x≠y)else if o=37 then decide (x<y)else if o=38 then decide (x<=y)else if o=39 then decide (y<x)else decide (y<=x)
def biD (o x y:Int):Int:=
 if o=30 then KZ (wI .i64 (x*y))else if o=31 then KZ (Ua x y)else if o=32 then(if y=0 then 0 else KZ (wI .i64 (x - wI .i64 (y*Ua x y))))else if o=33 then KZ (wI .i64 (x+y))else if o=34 then KZ (wI .i64 (x - y))
 else if o=41 then yA (decide (x≠0)&&decide (y≠0))else if o=42 then yA (decide (x≠0)||decide (y≠0))else yA (ahY o x y)
theorem adk (f:Nat) (o x:Int):CK f o x=some (unD o x):=by
 unfold CK unD;split
 .rfl
 .rw[bA (yL f _)]
theorem acJ (f:Nat) (a b:Int):tR f a b=some (Ua a b):=by
 unfold tR Ua;by_cases c:b=0
 .rw[if_pos c,if_pos c]
 .rw[if_neg c,if_neg c,cR c,cR c];by_cases d:Int.tmod a b=0
  .rw[if_neg (by simpa using d),if_neg (by simp[d])];rfl
  .rw[if_pos d];unfold wO rV;by_cases e:((decide (a<0)) != (decide (b<0)))=true
   .rw[if_pos e,if_pos ⟨d,e⟩]
   .rw[if_neg e,if_neg (λq=>e q.2)]
theorem ahZ (f:Nat) (o x y:Int):yY f o x y=some (ahY o x y):=by
 unfold yY ahY
 repeat' split
 all_goals rfl
theorem YF (f:Nat) (o x y:Int):BK f o x y=some (biD o x y):=by
 unfold BK biD;by_cases h:o=30
 .rw[if_pos h,if_pos h];rfl
 rw[if_neg h,if_neg h];by_cases h:o=31
 .rw[if_pos h,if_pos h,bA (acJ f x y)];rfl
 rw[if_neg h,if_neg h];by_cases h:o=32
 .rw[if_pos h,if_pos h];by_cases b:y=0
  .rw[if_pos b,if_pos b]
  .rw[if_neg b,if_neg b,bA (acJ f x y)];rfl
 rw[if_neg h,if_neg h];by_cases h:o=33
 .rw[if_pos h,if_pos h];rfl
 rw[if_neg h,if_neg h];by_cases h:o=34
 .rw[if_pos h,if_pos h];rfl
 rw[if_neg h,if_neg h];by_cases h:o=41
 .rw[if_pos h,if_pos h];by_cases a:x=0
  .rw[if_neg (by simpa using a),bA (yL f _)];simp[a,rT]
  .rw[if_pos a,bA (yL f _)];simp[a,rT]
 rw[if_neg h,if_neg h];by_cases h:o=42
 .rw[if_pos h,if_pos h];by_cases a:x=0
  .rw[if_neg (by simpa using a),bA (yL f _)];simp[a,rU]
  .rw[if_pos a,bA (yL f _)];simp[a,rU]
 rw[if_neg h,if_neg h,bA (ahZ f o x y),bA (yL f _)]
def E.den (L:Int->Int->Int->Int) (b:Nat):E->Int->Int
 |lf o a,p=>L o a p
 |un o x,p=>unD o (x.den L b p)
 |ag o x,_=>Xr o ((List.range b).map λq=>x.den L b ((q:Nat):Int))
 |bi o x y,p=>biD o (x.den L b p) (y.den L b p)
 |ite x y z,p=>if x.den L b p≠0 then y.den L b p else z.den L b p
def E.wf (c:Nat):V4->E->V4
 |b,lf o a=>decide (1<=o)&&decide (o<=17)&&(b||decide (o<=10))&&((decide (o≠5)&&decide (o≠12))||(decide (0<=a)&&decide (a<(c:Int))))
 |b,un o x=>decide (18<=o)&&decide (o<=19)&&x.wf c b
 |_,ag o x=>(decide (o=20)||decide (o=21)||decide (o=22)||decide (o=23)||decide (o=24)||decide (o=26)||decide (o=27))&&x.wf c true
 |b,bi o x y=>decide (30<=o)&&decide (o<=42)&&x.wf c b&&y.wf c b
 |b,ite x y z=>x.wf c b&&y.wf c b&&z.wf c b
theorem adM {i:Nat}:∀{e:E} {b:V4},e.wf i b=true->e.arOk=true:=by
 intro e
 induction e with
 |lf o a=>intro b h;simp[E.wf,E.arOk]at h ⊢;omega
 |un o x f=>intro b h;simp[E.wf,E.arOk]at h ⊢;exact⟨h.1,f h.2⟩
 |ag o x f=>intro b h;simp[E.wf,E.arOk]at h ⊢;exact⟨V7,f h.2⟩
 |bi o x y c d=>intro b h;simp[E.wf,E.arOk]at h ⊢;exact⟨⟨h.1.1,c h.1.2⟩,d h.2⟩
 |ite x y z c d g=>intro b h;simp[E.wf,E.arOk]at h ⊢;exact⟨⟨c h.1.1,d h.1.2⟩,g h.2⟩
def acg (W:WLK) (p:Int):Int:=(at' (at' W.1.2.1.2 W.2.2.1) p).1
def KL (W:WLK) (o a p:Int):Int:=
 if o=1 then a else if o=2 then 1 else if o=3 then 0 else if o=4 then -1 else if o=5 then at' (at' W.2.1 W.2.2.1) a else if o=12 then at' (at' W.2.1 (acg W p)) a
 else if o=6 then(W.1.2.1.1.length:Int)else if o=7 then W.1.2.2.1 else if o=8 then at' W.1.2.1.1 W.2.2.1 else if o=9 then((at' W.1.2.1.2 W.2.2.1).length:Int)else if o=10 then yA (decide (W.2.2.1=0))else if o=11 then p
 else if o=13 then at' W.1.2.1.1 (acg W p)else if o=14 then((at' W.1.2.1.2 (acg W p)).length:Int)else if o=15 then yA (decide (acg W p=0))else if o=16 then(at' (at' W.1.2.1.2 W.2.2.1) p).2 else at' (at' W.1.2.2.2 W.2.2.1) p
structure WOk (W:WLK) (nv n v:Nat):Prop where
 node:W.2.2.1=(v:Int)
 lt:v<n
 ports:W.1.2.1.2.length=n
 ids:W.1.2.1.1.length=n
 c:W.2.1.length=n
 row:∀u:Nat,u<n->(at' W.2.1 (u:Int)).length=nv
 to:∀u:Nat,u<n->∀i:Nat,i<(at' W.1.2.1.2 (u:Int)).length->0<=(at' (at' W.1.2.1.2 (u:Int)) (i:Int)).1/\(at' (at' W.1.2.1.2 (u:Int)) (i:Int)).1<(n:Int)
 bl:W.1.2.2.2.length=n
 br:∀u:Nat,u<n->(at' W.1.2.2.2 (u:Int)).length=(at' W.1.2.1.2 (u:Int)).length
def aaj (b:V4) (a:Nat) (p:Int):Prop:=b=true->∃q:Nat,p=(q:Int)/\q<a
theorem afn {W:WLK} {k n v:Nat} (h:WOk W k n v) (f:Nat) {b:V4} {o a p:Int} (s:(E.lf o a).wf k b=true) (r:aaj b (at' W.1.2.1.2 (v:Int)).length p):nQ f W (o,a) p=some (KL W o a p):=by
 have⟨y,c,A,B,C,l,m,F,w⟩:=h;simp only[E.wf,zA8,zB5,zA2]at s;have⟨⟨⟨G,H⟩,d⟩,I⟩:=s;have z:(at' W.2.1 (v:Int)).length=k:=l v c;unfold nQ KL acg;dsimp only;rw[y];by_cases e:o=1
 .simp only[if_pos e]
 simp only[if_neg e];by_cases e:o=2
 .simp only[if_pos e]
 simp only[if_neg e];by_cases e:o=3
 .simp only[if_pos e]
 simp only[if_neg e];by_cases e:o=4
 .simp only[if_pos e]
 simp only[if_neg e];by_cases e:o=5
 .simp only[if_pos e];rw[Q7,Q7]
 simp only[if_neg e];by_cases e:o=12
 .have i:b=true:=by
   rcases d with d|d
   .exact d
   .omega
  obtain⟨q,rfl,j⟩:=r i;have g:=m v c q j;obtain⟨u,x⟩:∃u:Nat,(at' (at' W.1.2.1.2 (v:Int)) (q:Int)).1=(u:Int):=⟨_,(Int.toNat_of_nonneg g.1).symm⟩
  simp only[if_pos e];rw[x]at g ⊢;have D:=l u V7;rw[Q7,Q7,Q7,Q7]
 simp only[if_neg e];unfold vG;dsimp only;by_cases e:o=6
 .simp only[if_pos e];rfl
 simp only[if_neg e];by_cases e:o=7
 .simp only[if_pos e];rfl
 simp only[if_neg e];by_cases e:o=8
 .simp only[if_pos e];rw[Q7];rfl
 simp only[if_neg e];by_cases e:o=9
 .simp only[if_pos e];rw[Q7];rfl
 simp only[if_neg e];by_cases e:o=10
 .simp only[if_pos e];rw[bA (yL f _)];rfl
 simp only[if_neg e];by_cases e:o=11
 .simp only[if_pos e];rfl
 simp only[if_neg e];have i:b=true:=by
  rcases d with d|d
  .exact d
  .omega
 obtain⟨q,rfl,j⟩:=r i;have g:=m v c q j;rw[Q7,Q7];by_cases e:o=13
 .simp only[if_pos e];rw[Q7];rfl
 simp only[if_neg e];by_cases e:o=14
 .simp only[if_pos e];rw[Q7];rfl
 simp only[if_neg e];by_cases e:o=15
 .simp only[if_pos e];rw[bA (yL f _)];rfl
 simp only[if_neg e];by_cases e:o=16
 .simp only[if_pos e];rfl
 simp only[if_neg e];have t:=w v c;rw[Q7,Q7];rfl
theorem adB {W:WLK} {nv n v:Nat} (h:WOk W nv n v) {deg:Nat} (m:(at' W.1.2.1.2 (v:Int)).length=deg) (L:deg<=24) (S:W.2.2.2.length<=800):
  ∀(e:E) (b:V4) (c k:Nat) (p:Int) (g d:iF),W.2.2.2=g++(e.ts++d)->g.length=k->e.wf nv b=true->aaj b deg p->e.depth+850<=c->
   cF c W (k:Int) p=some (e.den (KL W) deg p,(((k+e.ts.length:Nat)):Int)):=by
 have⟨Q,ab,h1,h2,h3,h4,h5,_,_⟩:=id h;have i:∀{t:e_} {l g d:iF} {k:Nat},W.2.2.2=g++((t::l)++d)->g.length=k->at' W.2.2.2 (k:Int)=t/\(k:Int)<(W.2.2.2.length:Int):=by
  intro t l g d k j r;refine⟨WM (rest:=l++d) (by simpa using j) r,?_⟩
  rw[j];simp;omega
 intro e
 induction e with
 |lf o a=>
  intro b c k p g d j r u w B;obtain⟨c,rfl⟩:∃f,c=f+1:=⟨c - 1,V7⟩
  have⟨A,s⟩:=i (l:=[]) j r;show eD (cF c) c W (k:Int) p=_;unfold eD;rw[cR ⟨V7,s⟩,A];dsimp only;have X:=u;simp only[E.wf,zA8,zB5,zA2]at X;have hl:=afn h c u (m▸w);rw[Q3,bA (show nQ c _ (o,a) p=some (KL W o a p)from hl),Q8];rfl
 |un o x ih=>
  intro b c k p g d j r u w B;obtain⟨c,rfl⟩:∃f,c=f+1:=⟨c - 1,V7⟩
  have⟨A,s⟩:=i (l:=x.ts) j r;show eD (cF c) c W (k:Int) p=_;unfold eD;rw[cR ⟨V7,s⟩,A];dsimp only;simp only[E.wf,zA8,zA2]at u;simp only[E.depth]at B;have F:=ih b c (k+1) p (g++[(o,0)]) d (by rw[j];simp[E.ts]) (by simp[r]) u.2 w V7;rw[Q0,Q3,Q8,bA (show cF c _ _ p=_ from F),bA (adk c _ _)];simp only[E.den,E.ts,zAa];rw[show k+1+x.ts.length=k+(x.ts.length+1) by omega]
 |bi o x y G H=>
  intro b c k p g d j r u w B;obtain⟨c,rfl⟩:∃f,c=f+1:=⟨c - 1,V7⟩
  have⟨A,s⟩:=i (l:=x.ts++y.ts) j r;show eD (cF c) c W (k:Int) p=_;unfold eD;rw[cR ⟨V7,s⟩,A];dsimp only;simp only[E.wf,zA8,zA2]at u;simp only[E.depth]at B;have F:=G b c (k+1) p (g++[(o,0)]) (y.ts++d) (by rw[j];simp[E.ts]) (by simp[r]) u.1.2 w V7;have Y:=H b c (k+1+x.ts.length) p (g++(o,0)::x.ts) d (by rw[j];simp[E.ts]) (by simp[r];omega) u.2 w V7;rw[Q0,Q0,Q0,Q3,Q8,bA (show cF c _ _ p=_ from F),bA (show cF c _ _ p=_ from Y),bA (YF c _ _ _)];simp only[E.den,E.ts,zAa,zA4];rw[show k+1+x.ts.length+y.ts.length=k+(x.ts.length+y.ts.length+1) by omega]
 |ite x y z G H aa=>
  intro b c k p g d j r u w B;obtain⟨c,rfl⟩:∃f,c=f+1:=⟨c - 1,V7⟩
  have⟨A,s⟩:=i (l:=x.ts++(y.ts++z.ts)) j r;show eD (cF c) c W (k:Int) p=_;unfold eD;rw[cR ⟨V7,s⟩,A];dsimp only;simp only[E.wf,zA8]at u;simp only[E.depth]at B;have F:=G b c (k+1) p (g++[(43,0)]) (y.ts++z.ts++d) (by rw[j];simp[E.ts]) (by simp[r]) u.1.1 w V7;have Y:=H b c (k+1+x.ts.length) p (g++(43,0)::x.ts) (z.ts++d) (by rw[j];simp[E.ts]) (by simp[r];omega) u.1.2 w V7;have hz:=aa b c (k+1+x.ts.length+y.ts.length) p (g++(43,0)::(x.ts++y.ts)) d (by rw[j];simp[E.ts]) (by simp[r];omega) u.2 w V7;rw[if_neg Q2,if_neg Q2,if_neg Q2,if_neg Q2,Q8,bA (show cF c _ _ p=_ from F),bA (show cF c _ _ p=_ from Y),bA (show cF c _ _ p=_ from hz)];simp only[E.den,E.ts,zAa,zA4];rw[show k+1+x.ts.length+y.ts.length+z.ts.length=k+(x.ts.length+(y.ts.length+z.ts.length)+1) by omega];split<;>rfl
 | ag o x ih =>
  intro b c k p g d j r u w B;obtain⟨c,rfl⟩:∃f,c=f+1:=⟨c - 1,V7⟩
  have⟨A,s⟩:=i (l:=x.ts) j r;have T:=adM u;have R:=u;simp only[E.wf,zA8,zB5,zA2]at R;simp only[E.depth]at B;have P:(E.ag o x).ts.length=x.ts.length+1:=rfl;have M:=congrArg List.length j;simp only[zA4]at M;show eD (cF c) c W (k:Int) p=_;unfold eD;rw[cR ⟨V7,s⟩,A];dsimp only;rw[Q0,Q0,Q3,Q7];let D:Nat->Int:=λq=>x.den (KL W) deg ((q:Nat):Int);let V:Nat->aX:=λq=>(List.range q).map D++List.replicate (24 - q) 0;have J:∀q,q<=24->(V q).length=24:=λq U=>by simp[V];omega
  have O:∀q,q<24->(V q).set q (D q)=V (q+1):=λq U=>by
   show((List.range q).map D++List.replicate (24 - q) 0).set q (D q)=(List.range (q+1)).map D++List.replicate (24 - (q+1)) 0;rw[show 24 - q=(24 - (q+1))+1 by omega,List.replicate_succ,List.set_append_right _ _ V8,List.range_succ];simp
  let N:Nat->Int:=λq=>if q=0 then 0 else(((k+1+x.ts.length:Nat)):Int)
  refine Eq.trans (eJ (step:=lP c W (k:Int) (cF c)) (K:=some ((E.ag o x).den (KL W) deg p,(((k+(E.ag o x).ts.length:Nat)):Int))) deg (λq=>(N q,(q:Int),V q)) (λq ag U=>?_) (λag=>?_) c V7) Z
  .unfold lP;dsimp only;have F:=ih true c (k+1) ((q:Nat):Int) (g++[(o,0)]) d (by rw[j];simp[E.ts]) (by simp[r]) R.2 (λ_=>⟨q,rfl,U⟩) V7;rw[if_pos (by rw[Q,m];omega),Q8,bA (show cF c _ _ _=_ from F),cR ⟨V7,J q V7⟩,Q8,zAf];show ag (_,_,(V q).set q (D q))=_;rw[O q V7];simp only[N];rw[Q0]
  .unfold lP;dsimp only;rw[if_neg (by rw[Q,m];omega)];have C:List.take deg (V deg)=(List.range deg).map D:=by
    show List.take deg ((List.range deg).map D++_)=_;exact List.take_left' V8
   have I:∀y:Int,y=(((k+1+x.ts.length:Nat)):Int)->lO c W (k:Int) (N deg,V deg) y=some ((E.ag o x).den (KL W) deg p,(((k+(E.ag o x).ts.length:Nat)):Int)):=by
    rintro y rfl;unfold lO;dsimp only;rw[Q,m,cR ⟨V7,V7,by rw[J deg L];omega⟩,A,zAf,C,bA (aeY c o _ V7 Q1 V7)];unfold pI;rw[P,show k+1+x.ts.length=k+(x.ts.length+1) by omega];rfl
   unfold uE;dsimp only;by_cases h0:deg=0
   .rw[if_pos (by rw[Q,m];omega),bA (aid c (E.ag o x) T j r S V7)];exact I _ (by rw[P];omega)
   .rw[if_neg (by rw[Q,m];omega)];exact I _ (by simp only[N];rw[if_neg h0])
end Go.Proofs.YtflciafboapaaaaGreat
namespace Go.Proofs.YtflciafboapaaaaGreat
open Go.Sx
def iP (a:Qc) (b:bJ) (c:Int) (d:iF):V1 (Int):=
 Option.bind (cF U ((((((a.1.1,a.1.2.1,a.1.2.2)),((a.2.1.1,a.2.1.2)),a.2.2.1,a.2.2.2)),b,c,d)) (0:Int) (-1:Int)) λe=>(some (e.1))
theorem Xc:aU prog 172:=call172
theorem Bn {d:Qc} {s:bJ} {f:Int} {t:iF} (a:Nat) (m n o p:V0) (u:kI) (q:V0) (v:mC) (e:V0) (y:mC) (b:V0) (r:Int) (h:iP U d s f t=some r):
  aZ prog 172 #[vP a,e,vI (f),b] [bG a [vS (d.1.1),m,n,o,p,vI (d.2.2.1),q] 206,Sl aG m d.1.2.1,Sl aF n d.1.2.2,Sl aK o d.2.1.1,S2 aR p u d.2.1.2,S2 aK q v d.2.2.2,S2 aK e y s,Sl aR b t] (λx:Unit=>vI (r)) (λx l=>l) (λ_ l=>l):=by
 refine aZ.of func172 Z ntmps172 Z λc=>Q4 Z<|Q6 Z<|aA Z<|aA Z<|aA Z<|bO (BH (Mb Z)) λg=>bO (Know.one ((IP Z))) λi=>aB (Kp (r:=Value.agg #[Value.pointer (some ⟨a,0,none⟩),e,vI (f),b]) Z Z Z Z (by intro w;simp[Instr.build,Instr.fill,dU,c_,cO,dV,dW,dC,eV,iK g,iK i])) Z ?_;refine aI (aN.alloc (cs:=[Value.pointer none,eB,vI (0:Int),eB]) Z Z) Z λz=>bO (BH (Mb Z)) λj=>bO (Know.one ((IP Z))) λk=>bP 0 (vs:=[vP a,e,vI (f),b]) Z Z (iZ Z (iZ j (iZ Z (iZ k Z)))) Z Z Z<|aO<|aT<|fF h λA B h=>aI (zBj DN (GQ U z a m n o p u q v e y b A B) Z (aD.cons (aH.res 0 Z) (jJ [0,1,2,3,4,5,6,7] Z))) Z λC=>aA Z<|lV Z<|lV Z<|aC Z<|Q5 Z<|Q6 Z<|Q5 Z<|aV ?_;cases h;exact uC Z
def lU (a:Qc) (c:bJ) (d b:Int):V1 V4:=
 ck (0<=b/\b<(a.1.2.2.length:Int)) (Option.bind (iP U ((((a.1.1,a.1.2.1,a.1.2.2)),((a.2.1.1,a.2.1.2)),a.2.2.1,a.2.2.2)) c d ((at' a.1.2.2 b).2.1.2)) λe=>(some (decide (e≠(0:Int)))))
theorem aex:aU prog 165:=call165
theorem Gf {a:Qc} {n:bJ} {o e:Int} (b:Nat) (f g i j:V0) (p:kI) (k:V0) (q:mC) (m:V0) (s:mC) (r:V4) (h:lU U a n o e=some r):
  aZ prog 165 #[vP b,m,vI (o),vI (e)] [bG b [vS (a.1.1),f,g,i,j,vI (a.2.2.1),k] 206,Sl aG f a.1.2.1,Sl aF g a.1.2.2,Sl aK i a.2.1.1,S2 aR j p a.2.1.2,S2 aK k q a.2.2.2,S2 aK m s n] (λx:Unit=>vB (r)) (λx l=>l) (λ_ l=>l):=by
 refine aZ.of func165 Z ntmps165 Z λc=>Q4 Z<|Q6 Z<|aA Z<|aA Z<|aA Z<|aB (bR Z) Z<|bZ Z<|bZ Z<|aB (dG Z (cP Z) Z Z Z) Z<|aA Z<|dQ h λd h=>aB (bD Z Z (uI Z) Z Z d) Z<|aB (lF Z Z Z Z Z) Z<|aB (nR Z (uI Z) Z Z Z CB d) Z<|fF h λt u h=>aI (zBj Xc (Bn U b f g i j p k q m s ((at' a.1.2.2 e).2.1.1) t u) Z (aD.cons (cP Z) (aD.cons (n_ Z) (aD.cons (uI Z) (aD.cons (DJ Z) (aD.cons (HA Z) (aD.cons (Ma Z) (aD.cons (Mb Z) (aD.cons (zT (uI Z) CE d.1 d.2) .nil))))))))) Z λv=>tT Z<|Q5 Z<|aV ?_;cases h;exact oA Z
def pK (a:Unit):V1 (Int):=
 some (-1:Int)
def lR (a:ZB) (d:bJ) (e b:Int) (c:(Int)->V1 (Int)):V1 (Int):=
 if b<(a.1.2.2.length:Int)then(Option.bind (lU U ((((a.2.1.1.1,a.2.1.1.2.1,a.2.1.1.2.2)),((a.2.1.2.1.1,a.2.1.2.1.2)),a.2.1.2.2.1,a.2.1.2.2.2)) d e b) λf=>(if f=true then(some (b))else(c (wI .i64 (b+(1:Int))))))else(pK (()))
def h_ (a:ZB) (b:bJ) (c:Int):V1 (Int):=
 bE (lR U a b c) U (0:Int)
theorem WO:aU prog 102:=call102
theorem Cb {p0:ZB} {p1:bJ} {p2:Int} (b:Nat) (v w:V0) (d:Nat) (k m n o:V0) (y:kI) (p:V0) (f:mC) (e:V0) (s:kI) (a:V0) (g:mC) (r:Int) (h:h_ U p0 p1 p2=some r):
  aZ prog 102 #[vP b,a,vI (p2)] [bG b [vS (p0.1.1),v,w,vP d,e] 157,Sl aG v p0.1.2.1,Sl aF w p0.1.2.2,bG d [vS (p0.2.1.1.1),k,m,n,o,vI (p0.2.1.2.2.1),p] 206,Sl aG k p0.2.1.1.2.1,Sl aF m p0.2.1.1.2.2,Sl aK n p0.2.1.2.1.1,S2 aR o y p0.2.1.2.1.2,S2 aK p f p0.2.1.2.2.2,S2 aR e s p0.2.2,S2 aK a g p1] (λx:Unit=>vI (r)) (λx l=>l) (λ_ l=>l):=by
 refine aZ.of func102 Z ntmps102 Z λc=>?_;unfold h_ at h;refine Q4 Z<|aL<|fV (λi=>pK i=some r) (λi t=>[]) (λi t=>[]) ?_ ?_
 .refine Q6 Z<|aB (bR Z) Z<|bZ Z<|bZ Z<|aB (dG Z (cP Z) Z Z Z) Z<|jH (uI Z) Z<|aA Z<|aO<|aQ<|fT (lR U p0 p1 p2) (λj u=>[(0,vP b),(1,a),(2,vI (p2)),(13,vI (p0.1.2.2.length:Int)),(14,vI (j))]) (λj u=>[]) (0:Int) () h SF (aS.refl _) ?_;intro B j u h;refine aT<|cN Z<|aO<|aL<|gC h Z (λh=>?_) λh=>?_
  .refine cU<|aL<|aQ<|Q6 Z<|Q5 Z<|Q6 Z<|aB (bR Z) Z<|bZ Z<|aB (dG Z (cP Z) Z Z Z) Z<|aA Z<|aA Z<|aA Z<|fF h λz q h=>aI (zBj aex (Gf U d k m n o y p f a g z q) Z (jJ [3,4,5,6,7,8,10] Z)) Z λA=>aO<|Ag h Z (λ_ h=>?_) λ_ h=>?_
   .refine Q6 Z<|Q5 Z<|aV<|bU<|aM<|aM<|bU<|aM ?_;cases h;exact oA Z
   exact eK<|mF<|aP<|cH Z<|aA Z<|aO<|Ci (wI .i64 (j+(1:Int))) () h SF Z
  exact fH<|jV () (()) h SF Z
 intro i t h;unfold pK at h;refine Q4 Z<|aV ?_;cases h;exact oA Z
def yP (d:Int) (a:e_) (b:Int) (c:V4):V1 (Int):=
 if c=true then(some (b))else(if d=(3:Int)then(some (-1:Int))else(if b<a.1 then(some (a.1))else(some (a.2))))
def AE (U:Nat) (c:Int) (a:e_) (b:Int):V1 (Int):=
 if a.1<=b then(yP c a b (decide (b<=a.2)))else(yP c a b (false))
theorem aey:aU prog 173:=call173
theorem Oj {e:Int} {a:e_} {d:Int} (r:Int) (h:AE U e a d=some r):
  aZ prog 173 #[vI (e),Value.agg #[vI (a.1),vI (a.2)],vI (d)] [] (λx:Unit=>vI (r)) (λx l=>l) (λ_ l=>l):=by
 refine aZ.of func173 Z ntmps173 Z λc=>aT<|aI (aN.box (cs:=[vI (a.1),vI (a.2)]) Z Z) Z λf=>Q5 Z<|aL<|aQ<|aL<|fV (λb=>yP e a d b=some r) (λb g=>[(0,vI (e)),(2,vI (d)),(4,vP f),(7,vB (b))]) (λb g=>[bG f [vI (a.1),vI (a.2)] 138]) ?_ ?_
 .refine aP<|aA Z<|aB (qS (i:=0) Z Z Z Z Z Q2) Z ?_;refine dO 0 Z<|aB (Ev Z Z) Z<|aA Z<|IX h Z (λ_ h=>?_) λ_ h=>?_
  .refine gW Z<|bB Z (qS (i:=1) Z Z Z Z Z Q2) Z ?_;exact bB Z (eI 0 Z Z Z Z Z) Z<|bB Z (Jj Z Z) Z<|gT Z<|Q5 Z<|jV (decide (d<=a.2)) () h SF Z
  exact aW Z<|aW Z<|aW Z<|aW Z<|iV Z<|Q5 Z<|jV (false) () h SF Z
 intro b g h;refine Ag h Z (λ_ h=>?_) λ_ h=>?_
 .refine Q6 Z<|Q5 Z<|aV<|bU<|aM ?_;cases h;exact uC Z
 refine Q6 Z<|d_ Z<|Q5 Z<|gC h Z (λh=>?_) λh=>?_
 .refine Q4 Z<|aV<|bU<|aM ?_;cases h;exact uC Z
 refine Q6 Z<|aB (qS (i:=0) Z Z Z Z Z Q2) Z ?_;refine dO 0 Z<|cN Z<|Q5 Z<|gC h Z (λh=>?_) λh=>?_
 .refine aT<|aB (qS (i:=0) Z Z Z Z Z Q2) Z ?_;refine dO 0 Z<|Q5 Z<|aV<|bU<|aM ?_;cases h;exact uC Z
 refine eK<|mF<|aT<|aB (qS (i:=1) Z Z Z Z Z Q2) Z ?_;refine dO 0 Z<|Q5 Z<|aV ?_;cases h;exact uC Z
def pJ (a:aX):V1 aX:=
 some (a)
def lQ (b:ZB) (h:bJ) (d c:Int) (a:nD) (e:tV->V1 aX):V1 aX:=
 if a.1<(((at' b.1.2.2 c).2.2.2).length:Int)then(ck (0<=a.1/\a.1<(((at' b.1.2.2 c).2.2.2).length:Int)) (Option.bind (iP U ((((b.2.1.1.1,b.2.1.1.2.1,b.2.1.1.2.2)),((b.2.1.2.1.1,b.2.1.2.1.2)),b.2.1.2.2.1,b.2.1.2.2.2)) h d ((at' ((at' b.1.2.2 c).2.2.2) a.1).2.2)) λf=>(ck (0<=((at' ((at' b.1.2.2 c).2.2.2) a.1).1)/\((at' ((at' b.1.2.2 c).2.2.2) a.1).1)<(b.1.2.1.length:Int)) (ck (0<=d/\d<(b.2.2.length:Int)) (ck (0<=((at' ((at' b.1.2.2 c).2.2.2) a.1).1)/\((at' ((at' b.1.2.2 c).2.2.2) a.1).1)<((at' b.2.2 d).length:Int)) (Option.bind (AE U ((at' b.1.2.1 ((at' ((at' b.1.2.2 c).2.2.2) a.1).1)).2.1) ((((at' (at' b.2.2 d) ((at' ((at' b.1.2.2 c).2.2.2) a.1).1)).1),((at' (at' b.2.2 d) ((at' ((at' b.1.2.2 c).2.2.2) a.1).1)).2))) f) λg=>(ck (0<=((at' ((at' b.1.2.2 c).2.2.2) a.1).1)/\((at' ((at' b.1.2.2 c).2.2.2) a.1).1)<(a.2.length:Int)) (e ((wI .i64 (a.1+(1:Int))),(List.set a.2 (Int.toNat ((at' ((at' b.1.2.2 c).2.2.2) a.1).1)) g))))))))))else(pJ (a.2))
def mU (d:ZB) (b:bJ) (a c:Int):V1 aX:=
 ck (0<=a/\a<(b.length:Int)) (ck ((List.length ([]:aX):Int)+((at' b a).length:Int)<=1099511627) (ck (0<=c/\c<(d.1.2.2.length:Int)) (bE (lQ U d b a c) U ((0:Int),(([]:aX)++(at' b a))))))
theorem aem:aU prog 123:=call123
theorem GT (U:Nat) {p0:ZB} {p1:bJ} {p2 n:Int} (i:Nat) (O P:V0) (j:Nat) (E F G H:V0) (Q:kI) (I:V0) (A:mC) (y:V0) (M:kI) (g:V0) (B:mC) (r:aX) (h:mU U p0 p1 p2 n=some r):
  aZ prog 123 #[vP i,g,vI (p2),vI (n)] [bG i [vS (p0.1.1),O,P,vP j,y] 157,Sl aG O p0.1.2.1,Sl aF P p0.1.2.2,bG j [vS (p0.2.1.1.1),E,F,G,H,vI (p0.2.1.2.2.1),I] 206,Sl aG E p0.2.1.1.2.1,Sl aF F p0.2.1.1.2.2,Sl aK G p0.2.1.2.1.1,S2 aR H Q p0.2.1.2.1.2,S2 aK I A p0.2.1.2.2.2,S2 aR y M p0.2.2,S2 aK g B p1] (λx:V0=>x) (λx l=>Ar cY x r::l) (λ_ l=>l):=by
 let k:=(at' p0.1.2.2 n)
 refine aZ.of func123 Z ntmps123 Z λc=>?_;refine aT<|aC Z<|aO<|aT<|aA Z<|aA Z<|dQ h λC h=>aB (bX Z Z (aH.fact 10 Z) Z Z C) Z<|aB (cB Z (aH.fact 10 Z) Z Z C) Z<|cQ (iJ cY)<|dQ h λS h=>aI (gU 0 eP Z Z Z (zBk (aH.fact 10 Z) C.1 C.2) Z Z Z Z S Z) Z λw=>aC Z<|aO<|aL<|fV (λo=>pJ o=some r) (λo N=>[(9,w)]) (λo N=>[Ar cY w o]) ?_ ?_
 .refine aT<|aA Z<|aB (bR Z) Z<|bZ Z<|bZ Z<|aB (dG Z (cP Z) Z Z Z) Z<|aA Z<|dQ h λe h=>aB (bD Z Z (uI Z) Z Z e) Z<|aB (lF Z Z Z Z Z) Z<|aB (nR Z (uI Z) Z Z Z CC e) Z<|aB (eW Z (zT (uI Z) iQ e.1 e.2) Z) Z<|aA Z<|aO<|aQ<|fT (lQ U p0 p1 p2 n) (λa p=>[(0,vP i),(1,g),(2,vI (p2)),(9,w),(26,k.2.2.1),(27,vI ((k.2.2.2).length:Int)),(28,vI (a.1))]) (λa p=>[Ar cY w a.2]) ((0:Int),(([]:aX)++(at' p1 p2))) () h SF (aS.refl _) ?_;intro T a p h;let f:=(at' (k.2.2.2) a.1)
  let v:=(at' (at' p0.2.2 p2) (f.1))
  refine aT<|cN Z<|aO<|aL ?_;refine gC h Z (λh=>?_) λh=>?_
  .refine cU<|aL<|aQ<|aT<|dQ h λb h=>aB (bD Z Z (zT (uI Z) iQ e.1 e.2) Z Z b) Z<|aB (Vf (cs:=[vI (f.1),f.2.1]) Z (zT (uI Z) iQ e.1 e.2) OF Z Z Z Z b) Z<|aI (aN.alloc (cs:=[vI (0:Int),eB]) Z Z) Z λR=>bO (Know.one ((zT (zT (uI Z) iQ e.1 e.2) FK b.1 b.2))) λq=>bP 0 (vs:=[vI ((at' ((at' p0.1.2.2 n).2.2.2) a.1).1),(at' ((at' p0.1.2.2 n).2.2.2) a.1).2.1]) Z Z (iZ Z (iZ q Z)) Z Z Z<|aO<|aL ?_;refine Bf [0,1,3,7,0,0,0,64,255,511] 8 mixedOrders ?_;refine bM Z<|jS Z (bR Z)<|cT Z<|aY Z .nil (iH 0 Z) (dG Z (cP Z) Z Z Z) aJ.z<|bM Z<|bM Z<|cT Z<|gN 0 Z<|bS 8 Z Z<|fF h λD J h=>aI (zBj Xc (Bn U j E F G H Q I A g B (f.2.1) D J) Z (aD.cons (DJ Z) (aD.cons (HA Z) (aD.cons (Ma Z) (aD.cons (Mb Z) (aD.cons (IP Z) (aD.cons (aH.fact 8 Z) (aD.cons (aH.fact 10 Z) (aD.cons (zT (zT (uI Z) iQ e.1 e.2) FK b.1 b.2) .nil))))))))) Z λV=>aC Z<|aO ?_;refine Bf [0,0,2,0,8,24,56,120,0,256,1016,2040,4088,0,8192,24576,57344,0,253952,516096,0,1048576,4186112,8380416,0,33554424,67108863,134217727] 26 mixedOrders ?_;refine bM Z<|cT Z<|gN 0 Z<|bM Z<|jS Z (bR Z)<|cT Z<|cT Z<|aY Z .nil (iH 0 Z) (dG Z (cP Z) Z Z Z) aJ.z<|cT Z<|gN 0 Z<|dQ h λs h=>aY Z .nil (iH 1 Z) (bD Z Z (cP Z) Z Z s) aJ.z<|jS Z (lF Z Z Z Z Z)<|aY Z .nil (iH 1 Z) (nR Z (cP Z) Z Z Z Bm s) aJ.z<|bM Z<|jS Z (bR Z)<|cT Z<|aY Z .nil (iH 0 Z) (dG Z (cP Z) Z Z Z) aJ.z<|bM Z<|dQ h λd h=>aY Z .nil (iH 9 Z) (bX Z Z (cP Z) Z Z d) aJ.z<|aY Z .nil (iH 9 Z) (cB Z (cP Z) Z Z d) aJ.z<|cT Z<|gN 0 Z<|dQ h λt h=>aY Z .nil (iH 9 Z) (bD Z Z (zBk (cP Z) d.1 d.2) Z Z t) aJ.z<|aY Z .nil (iH 9 Z) (fG (cs:=[vI (v.1),vI (v.2)]) Z (zBk (cP Z) d.1 d.2) cA Z Z Z Z t) aJ.z<|bM Z<|fF h λm K h=>zBl Z Z Z (zBj aey (Oj U m K) Z .nil) Z (λL=>(oP [([0],[])] Z)) λL=>bS 26 Z Z<|dQ h λu h=>aB (bD Z Z (bI (aH.res 1 Z) eP) Z Z u) Z<|xX 1 m u Z Z Z Z Z Z Z<|fC<|mF<|aP<|cH Z<|aA Z<|aO ?_;exact gA ((wI .i64 (a.1+(1:Int))),(List.set a.2 (Int.toNat (f.1)) m)) () h SF (aS.ix [1] Z Z) (aD.refl _ _)
  refine fH ?_;exact jV (a.2) () h SF Z
 intro o N h;unfold pJ at h;refine aT<|aA Z<|aC Z<|aO<|aV ?_;cases h;exact fD (w) Z Z (RV.tmp Z) (aS.refl _) aD.nil
end Go.Proofs.YtflciafboapaaaaGreat
namespace Go.Proofs.YtflciafboapaaaaGreat
open Go Go.Sx
abbrev RL:=E×V6 (Nat×E)
abbrev Gc:=xO×GR×Int×bJ
def Ge (R:V6 RL):Ka:=R.map λr=>(r.1.ts,r.2.map λs=>((s.1:Int),s.2.ts))
def PH (a:Nat) (e:E):V4:=e.wf a false&&decide (e.depth<=100)&&decide (e.ts.length<=800)
def sK (a:Nat) (R:V6 RL):V4:=decide (R.length<=20)&&R.all λr=>PH a r.1&&decide (r.2.length<=20)&&r.2.all λs=>decide (s.1<a)&&PH a s.2
instance:Inhabited E:=⟨.lf 1 0⟩
def WN (g:GR) (v i:Nat):Int:=Cr (row g (gR (row g v) i).1.toNat) (v:Int)
def kX (g:GR):bJ:=(List.range g.2.length).map λv=>(List.range (row g v).length).map (WN g v)
def fY (S:Gc) (c:bJ) (v:Nat) (e:E):Int:=e.den (KL (S,c,(v:Int),[])) (row S.2.1 v).length (-1)
def lK (S:Gc) (R:V6 RL) (c:bJ) (v:Nat):Int:=iA (R.map λr=>fY S c v r.1)
def rP (a:Int) (b:e_) (x:Int):Int:=if b.1<=x/\x<=b.2 then x else if a=3 then -1 else if x<b.1 then b.1 else b.2
def RG (S:Gc) (a:V6 Ah) (c:bJ) (v:Nat) (b:aX) (s:Nat×E):aX:=b.set s.1 (rP (at' a (s.1:Int)).2.1 (rQ S.2.1 a v s.1) (fY S c v s.2))
def GE (S:Gc) (a:V6 Ah) (R:V6 RL) (c:bJ) (v:Nat) (i:Int):aX:=(at' R i).2.foldl (RG S a c v) (at' c (v:Int))
def Tm (S:Gc) (R:V6 RL) (c:bJ):Nat:=Ab (λv=>decide (0<=lK S R c v)) S.2.1.2.length
def DX (S:Gc) (a:V6 Ah) (R:V6 RL) (c:bJ) (t:Nat):bJ:=(List.range c.length).map λv=>if t.testBit v=true then GE S a R c v (lK S R c v)else at' c (v:Int)
structure M_ (g:GR) (nv:Nat) (c:bJ):Prop where
 len:c.length=g.2.length
 row:∀v:Nat,v<g.2.length->(at' c (v:Int)).length=nv
theorem FJ.shape {g:GR} {c:bJ} {a:V6 Ah} (h:FJ g c a):M_ g a.length c:=⟨h.len,h.row⟩
section
variable {S:Gc} {nv:Nat} {c:V6 (V6 Int)} {v:Nat}
theorem wok (b:S.2.2.2=kX S.2.1) (d:VG S.2.1) (e:M_ S.2.1 nv c) (h:v<S.2.1.2.length) (j:V6 (Int×Int)):WOk (S,c,(v:Int),j) nv S.2.1.2.length v:=by
 refine⟨rfl,h,rfl,d.len,e.len,e.row,λu a i g=>?_,by show S.2.2.2.length=_;rw[b];simp[kX],λu a=>by
  show(at' S.2.2.2 (u:Int)).length=_;rw[b,kX,AQ _ a,List.length_map,List.length_range]⟩
 have⟨w,k,f⟩:=d.to a g;show 0<=(gR (row S.2.1 u) i).1/\(gR (row S.2.1 u) i).1<_;rw[f];omega
theorem UD (i:S.2.2.2=kX S.2.1) (a:VG S.2.1) (j:M_ S.2.1 nv c) (f:v<S.2.1.2.length) {e:E} (b:PH nv e=true):iP 1000 S c (v:Int) e.ts=some (fY S c v e):=by
 simp only[PH,zA8,zA2]at b;have g:=a.n24;have d:=(a.node v f).deg;unfold iP;have:=adB (wok i a j f e.ts) (deg:=(row S.2.1 v).length) Z V7 b.2 e false 1000 0 (-1) [] [] V8 Z b.1.1 (λh=>by cases h) V7;rw[bA (show cF 1000 _ (0:Int) (-1)=_ from this)];rfl
end
section
variable {p:xO} {g:GR} {gr:Int} {R:V6 RL} {nv:Nat} {c:V6 (V6 Int)} {v:Nat}
theorem JH (a:p.2.2.map rS=Ge R):p.2.2.length=R.length:=by simpa [Ge]using congrArg List.length a
theorem XI (b:p.2.2.map rS=Ge R) {i:Nat} (a:i<R.length):rS (at' p.2.2 (i:Int))=((at' R (i:Int)).1.ts,(at' R (i:Int)).2.map λs=>((s.1:Int),s.2.ts)):=by
 have d:=JH b;have:=congrArg (λq=>q[i]?) b;simp only[Ge,List.getElem?_map,zA0 a,zA0 (show i<p.2.2.length by omega),Option.map_some,Option.some.injEq]at this;rw[i_ a,i_ (show i<p.2.2.length by omega)];exact this
theorem RB (a:sK nv R=true) {i:Nat} (b:i<R.length):PH nv (at' R (i:Int)).1=true/\(at' R (i:Int)).2.length<=20/\∀s∈(at' R (i:Int)).2,s.1<nv/\PH nv s.2=true:=by
 simp only[sK,zA8,zA7,zA2]at a;have:=a.2 (at' R (i:Int)) (by rw[i_ b];exact List.getElem_mem b);exact⟨this.1.1,this.1.2,λs d=>this.2 s d⟩
theorem afM (a:sK nv R=true):R.length<=20:=by
 simp only[sK,zA8,zA2]at a;exact a.1
theorem abz (f:VG g) (h:M_ g nv c) (j:v<g.2.length) (b:p.2.2.map rS=Ge R) (d:sK nv R=true) {i:Nat} (a:i<R.length):lU 1000 (p,g,gr,kX g) c (v:Int) (i:Int)=some (nz (fY (p,g,gr,kX g) c v (at' R (i:Int)).1)):=by
 have k:=JH b;have e:(at' p.2.2 (i:Int)).2.1.2=(at' R (i:Int)).1.ts:=congrArg Prod.fst (XI b a);unfold lU;dsimp only;rw[Q7,e];rw[bA (show iP 1000 _ c (v:Int) _=_ from UD (S:=(p,g,gr,kX g)) Z f h j (RB d a).1)];rfl
theorem XQ (z:VG g) (A:M_ g nv c) (C:v<g.2.length) (w:p.2.2.map rS=Ge R) (s:sK nv R=true) (h:V6 (V6 (Int×Int))):h_ 1000 (p,(p,g,gr,kX g),h) c (v:Int)=some (lK (p,g,gr,kX g) R c v):=by
 have E:=JH w;have y:=afM s;let l:=R.map λr=>fY (p,g,gr,kX g) c v r.1;have B:l.length=R.length:=by simp[l]
 have o:∀i,i<R.length->at' l (i:Int)=fY (p,g,gr,kX g) c v (at' R (i:Int)).1:=λi t=>by
  rw[i_ V7,i_ t];simp[l]
 have b:∀(k:Nat) a,k<R.length->lR 1000 (p,(p,g,gr,kX g),h) c (v:Int) (k:Int) a=if nz (at' l (k:Int))=true then some (k:Int)else a (((k+1:Nat):Int)):=by
  intro k a d;unfold lR;dsimp only;rw[Q3,bA (show lU 1000 _ c (v:Int) (k:Int)=_ from abz z A C w s d),o k d,Q8]
 unfold h_ lK;by_cases f:∃i,i<R.length/\at' l (i:Int)≠0
 .have⟨i,t,x⟩:=f;have⟨m,D,q,n⟩:=least (p:=λi=>at' l (i:Int)≠0) i x;have n:∀j,j<m->at' l (j:Int)=0:=λj u=>zAw.1 (n j u);rw[show iA _=(m:Int)from z_ (l:=l) V7 q n];exact eJ (K:=some (m:Int)) m (λk=>(k:Int)) (λk a d=>by rw[b k a V7,if_neg (by simp[nz,n k d])]) (λa=>by rw[b m a V7,if_pos (by simpa [nz]using q)]) 1000 V7
 .have f:∀j,j<l.length->at' l (j:Int)=0:=λj u=>zAw.1 λe=>f ⟨j,V7,e⟩;rw[show iA _=(-1:Int)from zZ (l:=l) f];exact eJ (K:=some (-1)) R.length (λk=>(k:Int)) (λk a d=>by rw[b k a d,if_neg (by simp[nz,f k V7])]) (λa=>by
   unfold lR pK;dsimp only;rw[Q0]) 1000 V7
theorem GJ (S:Gc) (R:V6 RL) (c:V6 (V6 Int)) (v:Nat):lK S R c v = -1\/∃i:Nat,lK S R c v=(i:Int)/\i<R.length/\fY S c v (at' R (i:Int)).1≠0:=by
 let l:=R.map λr=>fY S c v r.1;by_cases h:∃i,i<l.length/\at' l (i:Int)≠0
 .have⟨i,n,k⟩:=h;have⟨m,o,f,a⟩:=least (p:=λi=>at' l (i:Int)≠0) i k;have a:∀j,j<m->at' l (j:Int)=0:=λj b=>zAw.1 (a j b);have d:m<R.length:=by simp[l]at n;omega
  refine .inr ⟨m,z_ (l:=l) V7 f a,d,?_⟩;have:at' l (m:Int)=fY S c v (at' R (m:Int)).1:=by rw[i_ (by simpa [l]using d),i_ d];simp[l]
  rw[<-this];exact f
 .exact .inl (zZ (l:=l) λj b=>zAw.1 λe=>h ⟨j,b,e⟩)
theorem Oe {S:Gc} {R:V6 RL} {c:V6 (V6 Int)} {v:Nat}:lK S R c v = -1↔∀i:Nat,i<R.length->fY S c v (at' R (i:Int)).1=0:=by
 let l:=R.map λr=>fY S c v r.1;have a:∀i,i<R.length->at' l (i:Int)=fY S c v (at' R (i:Int)).1:=λi b=>by rw[i_ (by simpa [l]using b),i_ b];simp[l]
 constructor
 .intro h i b;refine zAw.1 λe=>?_;have⟨m,n,k,f⟩:=least (p:=λi=>at' l (i:Int)≠0) i (by rw[a i b];exact e);have f:∀j,j<m->at' l (j:Int)=0:=λj d=>zAw.1 (f j d);have:lK S R c v=(m:Int):=z_ (l:=l) (by simp[l];omega) k f;omega
 .intro h;exact zZ (l:=l) λj d=>by rw[a j (by simpa [l]using d)];exact h j (by simpa [l]using d)
end
theorem aaM (f:Nat) (k:Int) (b:e_) (x:Int):AE f k b x=some (rP k b x):=by
 unfold AE yP rP;by_cases a:b.1<=x
 .by_cases c:x<=b.2
  .simp only[a,c,and_self,if_true,decide_true]
  .simp only[a,c,and_false,if_true,if_false,decide_false,Bool.false_eq_true];split
   .rfl
   .split<;>rfl
 .simp only[a,false_and,if_false,Bool.false_eq_true];split
  .rfl
  .split<;>rfl
theorem acV {S:Gc} {a:V6 Ah} {c:bJ} {v:Nat} (l:V6 (Nat×E)) (b:aX):(l.foldl (RG S a c v) b).length=b.length:=by
 induction l generalizing b with
 |nil=>rfl
 |cons s l d=>rw[List.foldl_cons,d];simp[RG]
section
variable {p:xO} {g:GR} {gr:Int} {R:V6 RL} {c:V6 (V6 Int)} {v:Nat}
theorem afx (A:VG g) (J:pV g p.2.1) (o:M_ g p.2.1.length c) (x:v<g.2.length) (E:p.2.2.map rS=Ge R) (H:sK p.2.1.length R=true) {i:Nat} (B:i<R.length):
  mU 1000 (p,(p,g,gr,kX g),Cv g p.2.1) c (v:Int) (i:Int)=some (GE (p,g,gr,kX g) p.2.1 R c v (i:Int)):=by
 have G:=A.n24;have I:=o.len;have l:=o.row v x;have N:=J.len;have O:=JH E;have r:=XI E B;obtain⟨-,m,d⟩:=RB H B;have D:(Cv g p.2.1).length=g.2.length:=by simp[Cv]
 have w:at' (Cv g p.2.1) (v:Int)=HZ g p.2.1 v:=AQ _ x;have L:(HZ g p.2.1 v).length=p.2.1.length:=by simp[HZ]
 have y:(at' p.2.2 (i:Int)).2.2.2.map (λs=>(s.1,s.2.2))=(at' R (i:Int)).2.map λs=>((s.1:Int),s.2.ts):=congrArg Prod.snd r;have n:(at' p.2.2 (i:Int)).2.2.2.length=(at' R (i:Int)).2.length:=by simpa using congrArg List.length y
 unfold mU;dsimp only;rw[Q7,cR Q1,Q7,List.nil_append];unfold GE;let a:=(at' R (i:Int)).2;have:=eJ (step:=lQ 1000 (p,(p,g,gr,kX g),Cv g p.2.1) c (v:Int) (i:Int)) (K:=some (a.foldl (RG (p,g,gr,kX g) p.2.1 c v) (at' c (v:Int)))) a.length (λk=>((k:Int),(a.take k).foldl (RG (p,g,gr,kX g) p.2.1 c v) (at' c (v:Int)))) (λk F e=>by
  have j:k<(at' p.2.2 (i:Int)).2.2.2.length:=by rw[n];exact e
  have z:((at' (at' p.2.2 (i:Int)).2.2.2 (k:Int)).1,(at' (at' p.2.2 (i:Int)).2.2.2 (k:Int)).2.2)=(((at' a (k:Int)).1:Int),(at' a (k:Int)).2.ts):=by
   have:=congrArg (λq=>q[k]?) y;simp only[List.getElem?_map,zA0 j,zA0 (show k<(at' R (i:Int)).2.length from e),Option.map_some,Option.some.injEq]at this;rw[i_ j,i_ e];exact this
  have f:=congrArg Prod.fst z;have h:=congrArg Prod.snd z;dsimp only at f h;have⟨t,u⟩:=d (at' a (k:Int)) (by rw[i_ e];exact List.getElem_mem e);have C:((a.take k).foldl (RG (p,g,gr,kX g) p.2.1 c v) (at' c (v:Int))).length=p.2.1.length:=by rw[acV,l]
  have b:at' (HZ g p.2.1 v) ((at' a (k:Int)).1:Int)=rQ g p.2.1 v (at' a (k:Int)).1:=AQ _ t;have M:a.length<=20:=m;unfold lQ;dsimp only;rw[Q3,Q7,f,h,bA (show iP 1000 _ c (v:Int) _=_ from UD (S:=(p,g,gr,kX g)) Z A o x u),Q7,Q7,w,Q7,b,bA (aaM 1000 _ _ _),Q7,Q8,zAf,xF e,List.foldl_append];rfl) (λF=>by
  unfold lQ pJ;dsimp only;rw[if_neg (by show¬(a.length:Int)<_;rw[n];exact Int.lt_irrefl _),List.take_length]) 1000 (by show(at' R (i:Int)).2.length<1000;omega)
 exact this
theorem Zy {S:Gc} {a:V6 Ah} {t:Nat}:(DX S a R c t).length=c.length:=by simp[DX]
theorem Oi {S:Gc} {a:V6 Ah} {t:Nat} (b:v<c.length):at' (DX S a R c t) (v:Int)=if t.testBit v=true then GE S a R c v (lK S R c v)else at' c (v:Int):=AQ _ b
end
def bF (p:xO) (g:GR):Gc:=(p,g,fI g g.2.length,kX g)
theorem My (S:Gc) (R:V6 RL) (c:bJ) (v:Nat):(Tm S R c).testBit v=(decide (v<S.2.1.2.length)&&decide (0<=lK S R c v)):=PR _ v _
theorem Ul {a:Type} [Inhabited a] (l:V6 a) {k:Nat} (h:k<l.length):l.set k (at' l (k:Int))=l:=by
 have:=FD l (k:Int) (by simpa using h) V7;simpa using this
def HR (c:bJ) (v:Nat):Int:=at' (at' c (v:Int)) 0
def zO (g:GR) (c:bJ) (v i:Nat):Int:=at' (at' c (gR (row g v) i).1) 0
theorem aki {g:GR} {a:V6 Ah} (b:pV g a) {x:Nat} (c:x<a.length) (v:Nat):lo g (at' a (x:Int)) v<=hi g (at' a (x:Int)) v:=by
 rcases b.kind x c with k|k|k
 .have h:=(b.range x c k).2.1;unfold lo hi at h ⊢;rw[k]at h ⊢;simpa using h
 .unfold lo hi;rw[k];simp
 .unfold lo hi;rw[k];simp;omega
theorem YH {g:GR} {a:V6 Ah} (b:pV g a) {x:Nat} (c:x<a.length) (v:Nat) (y:Int):lo g (at' a (x:Int)) v<=rP (at' a (x:Int)).2.1 (rQ g a v x) y/\rP (at' a (x:Int)).2.1 (rQ g a v x) y<=hi g (at' a (x:Int)) v:=by
 have h:=aki b c v;unfold rP rQ;dsimp only;split
 .assumption
 .split
  .rename_i k;unfold lo hi;rw[k];simp;omega
  .split<;>omega
abbrev zV:=uO
def tE (g:GR) (v i:Nat):Nat:=(gR (row g v) i).1.toNat
def EK (g:GR) (v i:Nat):Nat:=(Cr (row g (tE g v i)) (v:Int)).toNat
structure PB (g:GR) (v i u b:Nat):Prop where
 ul:u<g.2.length
 bl:b<(row g u).length
 ne:u≠v
 tu:tE g u b=v
 bu:EK g u b=i
theorem Dp {g:GR} (hV:VG g) {v i:Nat} (hv:v<g.2.length) (hi:i<(row g v).length):(gR (row g v) i).1=(tE g v i:Int):=by
 have:=((hV.node v hv).links i hi).1;unfold tE;omega
theorem afL {g:GR} (c:VG g) {v i j:Nat} (d:v<g.2.length) (e:i<(row g v).length) (f:j<(row g v).length) (h:tE g v i=tE g v j):i=j:=by
 have a:=Dp c d e;have b:=Dp c d f;rcases Nat.lt_trichotomy i j with q|q|q
 .exact absurd (by omega) (((c.node v d).links j f).2.2.2 i q)
 .exact q
 .exact absurd (by omega) (((c.node v d).links i e).2.2.2 j q)
theorem yH {g:GR} (hV:VG g) {v i:Nat} (hv:v<g.2.length) (hi:i<(row g v).length):PB g v i (tE g v i) (EK g v i):=by
 have e:=Dp hV hv hi;have hl:=(hV.node v hv).links i hi;have hu:tE g v i<g.2.length:=by have:=hl.1;omega
 obtain⟨j,hj,hjv,_⟩:=hV.sym v hv i hi;have hr:at' g.2 (gR (row g v) i).1=row g (tE g v i):=by rw[e]
 rw[hr]at hj hjv;rcases Fw (row g (tE g v i)) (v:Int)with⟨k,hk,hkv,hkf,hke⟩|⟨hf,_⟩
 rotate_left
 .exact absurd hjv (hf j hj)
 have hb:EK g v i=k:=by unfold EK;rw[hke];omega
 have ht:tE g (tE g v i) k=v:=by unfold tE at hkv ⊢;rw[hkv];omega
 have hne:tE g v i≠v:=λq=>hl.2.1 (by rw[e,q]);refine⟨hu,by omega,hne,by rw[hb];exact ht,?_⟩
 rw[hb];have q:EK g (tE g v i) k=(Cr (row g v) (tE g v i:Int)).toNat:=by unfold EK;rw[ht]
 rw[q,LQ i hi e λz hz hq=>?_]
 .omega
 .have:=afL hV hv (show z<(row g v).length by omega) hi (by have:=Dp hV hv (show z<(row g v).length by omega);omega);omega
abbrev nZ {a:Type} [Inhabited a] (l:V6 (V6 a)) (v i:Nat):a:=at' (at' l (v:Int)) (i:Int)
def JO {a:Type} [Inhabited a] (l:V6 (V6 a)) (v i:Nat) (x:a):V6 (V6 a):=l.set v ((at' l (v:Int)).set i x)
section
variable {α:Type} [Inhabited α]
theorem acT (l:V6 (V6 α)) (v i:Nat) (x:α):(JO l v i x).length=l.length:=by simp[JO]
theorem acU (l:V6 (V6 α)) {v i:Nat} (x:α) (a:v<l.length) (w:Nat):(at' (JO l v i x) (w:Int)).length=(at' l (w:Int)).length:=by
 unfold JO;rw[qT _ _ _ _ a];split
 .rename_i e;subst e;simp
 .rfl
theorem afQ (l:V6 (V6 α)) {v i:Nat} (x:α) (b:v<l.length) (a:i<(at' l (v:Int)).length) (w j:Nat):nZ (JO l v i x) w j=if w=v/\j=i then x else nZ l w j:=by
 unfold nZ JO;rw[qT _ _ _ _ b];by_cases e:w=v
 .subst e;rw[if_pos Z,qT _ _ _ _ a];by_cases q:j=i
  .rw[if_pos q,if_pos ⟨rfl,q⟩]
  .rw[if_neg q,if_neg (λh=>q h.2)]
 .rw[if_neg e,if_neg (λh=>e h.1)]
end
structure Sh2 {α:Type} [Inhabited α] (g:GR) (l:List (List α)):Prop where
 len:l.length=g.2.length
 row:∀v,v<g.2.length->(at' l (v:Int)).length=(row g v).length
theorem Sh2.set {a:Type} [Inhabited a] {g:GR} {l:V6 (V6 a)} (h:Sh2 g l) {v i:Nat} (b:v<g.2.length) (x:a):Sh2 g (JO l v i x):=
 ⟨by rw[acT];exact h.len,λw c=>by rw[acU _ _ (by rw[h.len];exact b)];exact h.row w c⟩
theorem Sh2.at {a:Type} [Inhabited a] {g:GR} {l:V6 (V6 a)} (h:Sh2 g l) {v i:Nat} (b:v<g.2.length) (c:i<(Go.Proofs.YtflciafboapaaaaGreat.row g v).length) (x:a) (w j:Nat):nZ (JO l v i x) w j=if w=v/\j=i then x else nZ l w j:=
 afQ l x (by rw[h.len];exact b) (by rw[h.row v b];exact c) w j
structure SH (g:GR) (y:zV):Prop where
 c:y.1.length=g.2.length
 a:Sh2 g y.2.1
 w:Sh2 g y.2.2
def vwN (g:GR) (y:zV) (v:Nat):Nat->V6 (V6 Int)
 |0=>y.1
 |i+1=>(vwN g y v i).set (tE g v i) (nZ y.2.1 v i)
def vw (g:GR) (y:zV) (v:Nat):V6 (V6 Int):=vwN g y v (row g v).length
theorem HO (g:GR) (y:zV) (v:Nat):∀i,(vwN g y v i).length=y.1.length
 |0=>rfl
 |i+1=>by simp[vwN,HO g y v i]
theorem Yn {g:GR} (hV:VG g) {y:zV} (h:SH g y) {v:Nat} (hv:v<g.2.length):∀i,i<=(row g v).length->at' (vwN g y v i) (v:Int)=at' y.1 (v:Int)
 |0,_=>rfl
 |i+1,hi=>by
  have hu:=yH hV hv (show i<(row g v).length by omega);show at' ((vwN g y v i).set (tE g v i) _) (v:Int)=_;rw[qT _ _ _ _ (by rw[HO,h.c];exact hu.ul),if_neg (λe=>hu.ne e.symm)];exact Yn hV h hv i (by omega)
theorem Ym {g:GR} (hV:VG g) {y:zV} (h:SH g y) {v:Nat} (hv:v<g.2.length) (P:Nat->List Int->Prop) (hc:∀x,x<g.2.length->P x (at' y.1 (x:Int))) (hb:∀i,i<(row g v).length->P (tE g v i) (nZ y.2.1 v i)):∀i,i<=(row g v).length->∀x,x<g.2.length->P x (at' (vwN g y v i) (x:Int))
 |0,_,x,hx=>hc x hx
 |i+1,hi,x,hx=>by
  have hu:=yH hV hv (show i<(row g v).length by omega);show P x (at' ((vwN g y v i).set (tE g v i) _) (x:Int));rw[qT _ _ _ _ (by rw[HO,h.c];exact hu.ul)];by_cases e:x=tE g v i
  .rw[if_pos e,e];exact hb i (by omega)
  .rw[if_neg e];exact Ym hV h hv P hc hb i (by omega) x hx
theorem UF {g:GR} (hV:VG g) {y:zV} (h:SH g y) {v:Nat} (hv:v<g.2.length) (hb:∀i,i<(row g v).length->nZ y.2.1 v i=at' y.1 (tE g v i:Int)):∀i,i<=(row g v).length->vwN g y v i=y.1
 |0,_=>rfl
 | i + 1, hi =>by
  have hu:=yH hV hv (show i<(row g v).length by omega);show(vwN g y v i).set (tE g v i) (nZ y.2.1 v i)=y.1;rw[UF hV h hv hb i (by omega),hb i (by omega)];refine List.ext_getElem (by rw[zA3]) λx h1 h2=>?_;by_cases e:tE g v i=x
  .subst e;rw[List.getElem_set_self];exact i_ h2
  .rw[List.getElem_set_ne e]
def Aw (g:GR) (a:V4) (y:zV) (v i:Nat):zV:=
 match nZ y.2.2 (tE g v i) (EK g v i)with
 | []=>y
 |s::r=>(y.1,if a=true then JO y.2.1 v i s else y.2.1,JO y.2.2 (tE g v i) (EK g v i) r)
def EM (a:Nat) (y:zV) (v i:Nat):zV:=if(nZ y.2.2 v i).length<a then(y.1,y.2.1,JO y.2.2 v i (nZ y.2.2 v i++[at' y.1 (v:Int)]))else y
def SX (g:GR) (nx:V6 (V6 Int)->Nat->V6 Int) (y:zV) (v:Nat):zV:=(y.1.set v (nx (vw g y v) v),y.2.1,y.2.2)
def kU (g:GR) (nx:V6 (V6 Int)->Nat->V6 Int) (cap:Nat) (y:zV) (e:Nat×Nat×Nat):zV:=
 if e.1=1 then SX g nx y e.2.1 else if e.1=2 then EM cap y e.2.1 e.2.2 else Aw g (decide (e.1=3)) y e.2.1 e.2.2
def agN (g:GR) (e:Nat×Nat×Nat):Prop:=(1<=e.1/\e.1<=4)/\e.2.1<g.2.length/\(e.1=1\/e.2.2<(row g e.2.1).length)
structure Da (g:GR) (P:Nat->List Int->Prop) (y:zV):Prop where
 c:∀v,v<g.2.length->P v (at' y.1 (v:Int))
 a:∀v i,v<g.2.length->i<(row g v).length->P (tE g v i) (nZ y.2.1 v i)
 w:∀v i,v<g.2.length->i<(row g v).length->∀s,s∈nZ y.2.2 v i->P v s
theorem Da.mono {g:GR} {P Q:Nat->List Int->Prop} {y:zV} (h:Da g P y) (hPQ:∀v s,v<g.2.length->P v s->Q v s) (hV:VG g):Da g Q y:=
 ⟨λv hv=>hPQ _ _ hv (h.c v hv),λv i hv hi=>hPQ _ _ (yH hV hv hi).ul (h.a v i hv hi),λv i hv hi s hs=>hPQ _ _ hv (h.w v i hv hi s hs)⟩
def Wy (g:GR) (cap:Nat) (y:zV):Prop:=∀v i,v<g.2.length->i<(row g v).length->(nZ y.2.2 v i).length<=cap
section
variable {g:GR} {nx:V6 (V6 Int)->Nat->V6 Int} {cap:Nat} {P P':Nat->V6 Int->Prop} {y:zV} {v i:Nat}
theorem Rh (hV:VG g) (h:SH g y) (hv:v<g.2.length) (hi:i<(row g v).length) {k:Bool}:SH g (Aw g k y v i):=by
 have hp:=yH hV hv hi;unfold Aw;split
 .exact h
 .refine⟨h.c,?_,h.w.set hp.ul _⟩
  dsimp only;split
  .exact h.a.set hv _
  .exact h.a
theorem KG (hV:VG g) (h:SH g y) (hv:v<g.2.length) (hi:i<(row g v).length) {k:Bool} (w j:Nat):nZ (Aw g k y v i).2.2 w j=if w=tE g v i/\j=EK g v i then(nZ y.2.2 w j).tail else nZ y.2.2 w j:=by
 have hp:=yH hV hv hi;unfold Aw;split
 .rename_i e;by_cases q:w=tE g v i/\j=EK g v i
  .rw[if_pos q,q.1,q.2,e];rfl
  .rw[if_neg q]
 .rename_i s r e;dsimp only;rw[h.w.at hp.ul hp.bl];by_cases q:w=tE g v i/\j=EK g v i
  .rw[if_pos q,if_pos q,q.1,q.2,e];rfl
  .rw[if_neg q,if_neg q]
theorem abA {k:V4}:(Aw g k y v i).1=y.1:=by unfold Aw;split<;>rfl
theorem Vy (d:VG g) (h:SH g y) (c:v<g.2.length) (b:i<(row g v).length) {k:V4} (w j:Nat):nZ (Aw g k y v i).2.1 w j=if w=v/\j=i then(if k=true then(nZ y.2.2 (tE g v i) (EK g v i)).headD (nZ y.2.1 v i)else nZ y.2.1 v i)else nZ y.2.1 w j:=by
 unfold Aw;split
 .rename_i e;by_cases q:w=v/\j=i
  .rw[if_pos q,q.1,q.2,e];split<;>rfl
  .rw[if_neg q]
 .rename_i s r e;dsimp only;cases k with
  |false=>
   rw[if_neg Q2];by_cases q:w=v/\j=i
   .rw[if_pos q,q.1,q.2,if_neg Q2]
   .rw[if_neg q]
  |true=>
   rw[if_pos Z,h.a.at c b];by_cases q:w=v/\j=i
   .rw[if_pos q,if_pos q,if_pos Z,e];rfl
   .rw[if_neg q,if_neg q]
theorem Tt (hV:VG g) (h:SH g y) (hv:v<g.2.length) (hi:i<(row g v).length) (hA:Da g P y) {k:Bool}:Da g P (Aw g k y v i):=by
 have hp:=yH hV hv hi;refine⟨λx hx=>by rw[abA];exact hA.c x hx,λw j hw hj=>?_,λw j hw hj s hs=>?_⟩
 .rw[Vy hV h hv hi];by_cases q:w=v/\j=i
  .rw[if_pos q,q.1,q.2];split
   .cases e:nZ y.2.2 (tE g v i) (EK g v i)with
    |nil=>exact hA.a v i hv hi
    |cons s r=>exact hA.w _ _ hp.ul hp.bl s (by rw[e];exact zAd)
   .exact hA.a v i hv hi
  .rw[if_neg q];exact hA.a w j hw hj
 .rw[KG hV h hv hi]at hs;split at hs
  .exact hA.w w j hw hj s (List.mem_of_mem_tail hs)
  .exact hA.w w j hw hj s hs
theorem Tu (b:VG g) (h:SH g y) (e:v<g.2.length) (c:i<(row g v).length) (a:Wy g cap y) {k:V4}:Wy g cap (Aw g k y v i):=λw j f d=>by
 have:=a w j f d;rw[KG b h e c];split
 .rw[List.length_tail];omega
 .exact this
theorem XY (h:SH g y) (b:v<g.2.length):SH g (EM cap y v i):=by
 unfold EM;split
 .exact⟨h.c,h.a,h.w.set b _⟩
 .exact h
theorem Wn (h:SH g y) (b:v<g.2.length) (a:i<(row g v).length) (w j:Nat):nZ (EM cap y v i).2.2 w j=if w=v/\j=i/\(nZ y.2.2 v i).length<cap then nZ y.2.2 v i++[at' y.1 (v:Int)]else nZ y.2.2 w j:=by
 unfold EM;by_cases q:(nZ y.2.2 v i).length<cap
 .rw[if_pos q];dsimp only;rw[h.w.at b a];by_cases z:w=v/\j=i
  .rw[if_pos z,if_pos ⟨z.1,z.2,q⟩]
  .rw[if_neg z,if_neg (λe=>z ⟨e.1,e.2.1⟩)]
 .rw[if_neg q,if_neg (λe=>q e.2.2)]
theorem Sc:(EM cap y v i).1=y.1/\(EM cap y v i).2.1=y.2.1:=by unfold EM;split<;>exact⟨rfl,rfl⟩
theorem adg (h:SH g y) (f:v<g.2.length) (l:i<(row g v).length) (d:Da g P y):Da g P (EM cap y v i):=by
 refine⟨λx m=>by rw[Sc.1];exact d.c x m,λw j k e=>by rw[Sc.2];exact d.a w j k e,λw j k e s b=>?_⟩
 rw[Wn h f l]at b;split at b
 .rename_i q;rcases zB1.1 b with b|b
  .rw[q.1];exact d.w v i f l s b
  .rw[List.mem_singleton.1 b,q.1];exact d.c v f
 .exact d.w w j k e s b
theorem adh (h:SH g y) (d:v<g.2.length) (b:i<(row g v).length) (a:Wy g cap y):Wy g cap (EM cap y v i):=λw j e c=>by
 have:=a w j e c;rw[Wn h d b];split
 .rename_i q;rw[zA4,List.length_singleton];omega
 .exact this
theorem aar (h:SH g y):SH g (SX g nx y v):=⟨by simpa [SX]using h.c,h.a,h.w⟩
theorem agl (h:SH g y) (a:v<g.2.length) (x:Nat):at' (SX g nx y v).1 (x:Int)=if x=v then nx (vw g y v) v else at' y.1 (x:Int):=qT _ _ _ _ (by rw[h.c];exact a)
theorem Se (e:VG g) (h:SH g y) (d:v<g.2.length) (b:Da g P y):(vw g y v).length=g.2.length/\∀x,x<g.2.length->P x (at' (vw g y v) (x:Int)):=
 ⟨by unfold vw;rw[HO,h.c],Ym e h d P b.c (λi f=>b.a v i d f) _ (zAg _)⟩
theorem WI (f:VG g) (h:SH g y) (d:v<g.2.length) (b:Da g P y) (j:∀c:V6 (V6 Int),c.length=g.2.length->(∀x,x<g.2.length->P x (at' c (x:Int)))->∀v,v<g.2.length->P v (nx c v)):Da g P (SX g nx y v):=by
 refine⟨λx k=>?_,b.a,b.w⟩
 rw[agl h d];split
 .rename_i e;rw[e];have:=Se f h d b;exact j _ this.1 this.2 v d
 .exact b.c x k
theorem TQ (d:VG g) (h:SH g y) (f:Da g P y) (j:Wy g cap y) {e:Nat×Nat×Nat} (l:agN g e) (m:∀c:V6 (V6 Int),c.length=g.2.length->(∀x,x<g.2.length->P x (at' c (x:Int)))->∀v,v<g.2.length->P v (nx c v)):SH g (kU g nx cap y e)/\Da g P (kU g nx cap y e)/\Wy g cap (kU g nx cap y e):=by
 have⟨⟨o,p⟩,a,n⟩:=l;unfold kU;by_cases q:e.1=1
 .rw[if_pos q];exact⟨aar h,WI d h a f m,j⟩
 .have b:=n.resolve_left q;rw[if_neg q];by_cases k:e.1=2
  .rw[if_pos k];exact⟨XY h a,adg h a b f,adh h a b j⟩
  .rw[if_neg k];exact⟨Rh d h a b,Tt d h a b f,Tu d h a b j⟩
end
def BA (g:GR) (cap:Nat):V6 (Nat×Nat×Nat):=(List.range g.2.length).flatMap λv=>(List.range (row g v).length).flatMap λi=>(List.range cap).flatMap λ_=>[(3,v,i)]
def WJ (g:GR):V6 (Nat×Nat×Nat):=(List.range g.2.length).flatMap λv=>[(1,v,0)]
def Hc (g:GR):V6 (Nat×Nat×Nat):=(List.range g.2.length).flatMap λv=>(List.range (row g v).length).flatMap λi=>[(2,v,i)]
def Ld (g:GR) (cap:Nat):V6 (Nat×Nat×Nat):=BA g cap++(WJ g++(Hc g++BA g cap))
theorem qU {c b:Type} (a:b->c->b) (f:Nat->V6 c) (I:Nat->b->Prop):∀n,(∀k y,k<n->I k y->I (k+1) ((f k).foldl a y))->∀y,I 0 y->I n (((List.range n).flatMap f).foldl a y)
 |0,_,y,h=>by simpa using h
 |n+1,hs,y,h=>by
  have d:=qU a f I n (λk y e=>hs k y V7) y h;rw[List.range_succ,List.flatMap_append,List.foldl_append,List.flatMap_singleton];exact hs n _ V7 d
structure Sm (g:GR) (y:zV):Prop where
 a:∀v i,v<g.2.length->i<(row g v).length->nZ y.2.1 v i=at' y.1 (tE g v i:Int)
 w:∀v i,v<g.2.length->i<(row g v).length->nZ y.2.2 v i=[]
section
variable {g:GR} {nx:V6 (V6 Int)->Nat->V6 Int} {cap:Nat} {P P':Nat->V6 Int->Prop} {y:zV}
theorem akq (hV:VG g) {v i w j:Nat} (hv:v<g.2.length) (hi:i<(row g v).length) (hw:w<g.2.length) (hj:j<(row g w).length) (h:tE g w j=tE g v i/\EK g w j=EK g v i):w=v/\j=i:=by
 have a:=yH hV hv hi;have b:=yH hV hw hj;have h1:=a.tu;have h2:=b.tu;have h3:=a.bu;have h4:=b.bu;rw[h.1,h.2]at h2 h4;exact⟨by omega,by omega⟩
theorem aiG (hV:VG g) (h:SH g y) (hA:Da g P y) (hC:Wy g cap y):SH g ((BA g cap).foldl (kU g nx cap) y)/\Da g P ((BA g cap).foldl (kU g nx cap) y)/\∀v i,v<g.2.length->i<(row g v).length->nZ ((BA g cap).foldl (kU g nx cap) y).2.2 v i=[]:=by
 have key:=qU (kU g nx cap) (λv=>(List.range (row g v).length).flatMap λi=>(List.range cap).flatMap λ_=>[(3,v,i)]) (λv y=>SH g y/\Da g P y/\Wy g cap y/\∀w j,w<v->w<g.2.length->j<(row g w).length->nZ y.2.2 (tE g w j) (EK g w j)=[]) g.2.length (λv y hv ⟨h,hA,hC,hD⟩=>?_) y ⟨h,hA,hC,λw j hw=>absurd hw (zB8 w)⟩
 .obtain⟨h,hA,hC,hD⟩:=key;refine⟨h,hA,λv i hv hi=>?_⟩
  have hp:=yH hV hv hi;have:=hD (tE g v i) (EK g v i) hp.ul hp.ul hp.bl;rw[hp.tu,hp.bu]at this;exact this
 .have key2:=qU (kU g nx cap) (λi=>(List.range cap).flatMap λ_=>[(3,v,i)]) (λi y=>SH g y/\Da g P y/\Wy g cap y/\∀w j,(w<v\/w=v/\j<i)->w<g.2.length->j<(row g w).length->nZ y.2.2 (tE g w j) (EK g w j)=[]) (row g v).length (λi y hi ⟨h,hA,hC,hD⟩=>?_) y ⟨h,hA,hC,λw j hw=>hD w j (by omega)⟩
  .obtain⟨h,hA,hC,hD⟩:=key2;refine⟨h,hA,hC,λw j hw hwn hj=>hD w j ?_ hwn hj⟩
   by_cases e:w=v
   .subst e;exact .inr ⟨rfl,hj⟩
   .exact .inl (by omega)
  .have hp:=yH hV hv hi;have key3:=qU (kU g nx cap) (λ_=>[(3,v,i)]) (λt y=>SH g y/\Da g P y/\Wy g cap y/\(∀w j,(w<v\/w=v/\j<i)->w<g.2.length->j<(row g w).length->nZ y.2.2 (tE g w j) (EK g w j)=[])/\(nZ y.2.2 (tE g v i) (EK g v i)).length<=cap - t) cap (λt y ht ⟨h,hA,hC,hD,hL⟩=>?_) y ⟨h,hA,hC,hD,hC _ _ hp.ul hp.bl⟩
   .obtain⟨h,hA,hC,hD,hL⟩:=key3;refine⟨h,hA,hC,λw j hw hwn hj=>?_⟩
    by_cases e:w=v/\j=i
    .rw[e.1,e.2];exact zAo (by omega)
    .refine hD w j ?_ hwn hj;rcases hw with q|q
     .exact .inl q
     .refine .inr ⟨q.1,?_⟩;have:j≠i:=λz=>e ⟨q.1,z⟩;omega
   .show SH g (kU g nx cap y (3,v,i))/\_;have e:kU g nx cap y (3,v,i)=Aw g true y v i:=rfl;rw[List.foldl_cons,List.foldl_nil,e];refine⟨Rh hV h hv hi,Tt hV h hv hi hA,Tu hV h hv hi hC,λw j hw hwn hj=>?_,?_⟩
    .rw[KG hV h hv hi];split
     .rw[hD w j hw hwn hj];rfl
     .exact hD w j hw hwn hj
    .rw[KG hV h hv hi,if_pos ⟨rfl,rfl⟩,List.length_tail];omega
theorem afI (hV:VG g) {y2:zV} (h2:SH g y2) (hW2:∀v i,v<g.2.length->i<(row g v).length->nZ y2.2.2 v i=[]) (hC2:∀x,x<g.2.length->P' x (at' y2.1 (x:Int))) (hcap:1<=cap):
    SH g ((Hc g++BA g cap).foldl (kU g nx cap) y2)/\((Hc g++BA g cap).foldl (kU g nx cap) y2).1=y2.1/\Da g P' ((Hc g++BA g cap).foldl (kU g nx cap) y2)/\Sm g ((Hc g++BA g cap).foldl (kU g nx cap) y2):=by
  rw[List.foldl_append]
  -- all nodes tell
  have k3:=qU (kU g nx cap) (λv=>(List.range (row g v).length).flatMap λi=>[(2,v,i)]) (λv y=>SH g y/\y.1=y2.1/\∀w j,w<g.2.length->j<(row g w).length->nZ y.2.2 w j=if w<v then[at' y2.1 (w:Int)]else[]) g.2.length (λv y hv ⟨h,hc,hD⟩=>by
    have k:=qU (kU g nx cap) (λi=>[(2,v,i)]) (λi y=>SH g y/\y.1=y2.1/\∀w j,w<g.2.length->j<(row g w).length->nZ y.2.2 w j=if w<v\/w=v/\j<i then[at' y2.1 (w:Int)]else[]) (row g v).length (λi y hi ⟨h,hc,hD⟩=>by
      have e:kU g nx cap y (2,v,i)=EM cap y v i:=rfl;rw[List.foldl_cons,List.foldl_nil,e];refine⟨XY h hv,by rw[Sc.1];exact hc,λw j hw hj=>?_⟩
      have hvi:=hD v i hv hi;rw[if_neg (by omega)]at hvi;rw[Wn h hv hi,hvi];by_cases q:w=v/\j=i
      · rw[if_pos ⟨q.1,q.2,by simp only[zAm];omega⟩,if_pos (.inr ⟨q.1,by omega⟩),hc,q.1];rfl
      · rw[if_neg (λz=>q ⟨z.1,z.2.1⟩),hD w j hw hj];by_cases z:w<v\/w=v/\j<i
        · rw[if_pos z,if_pos (by omega)]
        · rw [if_neg z, if_neg (by omega)]) y ⟨h, hc, λw j hw hj =>by
            rw [hD w j hw hj]; by_cases z : w < v
            · rw[if_pos z,if_pos (.inl z)]
            · rw[if_neg z,if_neg (by omega)]⟩
    obtain⟨h,hc,hD⟩:=k;refine⟨h,hc,λw j hw hj=>?_⟩
    rw[hD w j hw hj];by_cases z:w<v+1
    · rw[if_pos z,if_pos (by
        by_cases e:w=v
        · subst e;exact .inr ⟨rfl,hj⟩
        · exact .inl (by omega))]
    · rw[if_neg z,if_neg (by omega)]) y2 ⟨h2,rfl,λw j hw hj=>by rw[if_neg (zB8 w)];exact hW2 w j hw hj⟩
  have e3:((List.range g.2.length).flatMap λv=>(List.range (row g v).length).flatMap λi=>[(2,v,i)])=Hc g:=rfl;rw[e3]at k3;obtain⟨h3,hc3,hW3⟩:=k3;generalize (Hc g).foldl (kU g nx cap) y2=y3 at h3 hc3 hW3;have hW3':∀w j,w<g.2.length->j<(row g w).length->nZ y3.2.2 w j=[at' y2.1 (w:Int)]:=λw j hw hj=>by rw[hW3 w j hw hj,if_pos hw]
  -- all nodes hear
  have k4:=qU (kU g nx cap) (λv=>(List.range (row g v).length).flatMap λi=>(List.range cap).flatMap λ_=>[(3,v,i)]) (λv y=>SH g y/\y.1=y2.1/\∀w j,w<g.2.length->j<(row g w).length->(w<v->nZ y.2.1 w j=at' y2.1 (tE g w j:Int)/\nZ y.2.2 (tE g w j) (EK g w j)=[])/\(¬w<v->nZ y.2.2 (tE g w j) (EK g w j)=[at' y2.1 (tE g w j:Int)])) g.2.length (λv y hv ⟨h,hc,hD⟩=>by
    have k:=qU (kU g nx cap) (λi=>(List.range cap).flatMap λ_=>[(3,v,i)]) (λi y=>SH g y/\y.1=y2.1/\∀w j,w<g.2.length->j<(row g w).length->((w<v\/w=v/\j<i)->nZ y.2.1 w j=at' y2.1 (tE g w j:Int)/\nZ y.2.2 (tE g w j) (EK g w j)=[])/\(¬(w<v\/w=v/\j<i)->nZ y.2.2 (tE g w j) (EK g w j)=[at' y2.1 (tE g w j:Int)])) (row g v).length (λi y hi ⟨h,hc,hD⟩=>by
      have hp:=yH hV hv hi;have k:=qU (kU g nx cap) (λ_=>[(3,v,i)]) (λt y=>SH g y/\y.1=y2.1/\(∀w j,w<g.2.length->j<(row g w).length->¬(w=v/\j=i)->((w<v\/w=v/\j<i)->nZ y.2.1 w j=at' y2.1 (tE g w j:Int)/\nZ y.2.2 (tE g w j) (EK g w j)=[])/\(¬(w<v\/w=v/\j<i)->nZ y.2.2 (tE g w j) (EK g w j)=[at' y2.1 (tE g w j:Int)]))/\(t=0->nZ y.2.2 (tE g v i) (EK g v i)=[at' y2.1 (tE g v i:Int)])/\(0<t->nZ y.2.1 v i=at' y2.1 (tE g v i:Int)/\nZ y.2.2 (tE g v i) (EK g v i)=[])) cap (λt y ht ⟨h,hc,hD,h0,hT⟩=>by
        have e:kU g nx cap y (3,v,i)=Aw g true y v i:=rfl;rw[List.foldl_cons,List.foldl_nil,e];refine⟨Rh hV h hv hi,by rw[abA];exact hc,λw j hw hj hne=>?_,λq=>absurd q (by omega),λ_=>?_⟩
        · obtain⟨a,b⟩:=hD w j hw hj hne;rw[Vy hV h hv hi,if_neg hne,KG hV h hv hi,if_neg (λq=>hne (akq hV hv hi hw hj q))];exact⟨a,b⟩
        · rw[Vy hV h hv hi,if_pos ⟨rfl,rfl⟩,if_pos Z,KG hV h hv hi,if_pos ⟨rfl,rfl⟩];by_cases z:t=0
          · rw[h0 z];exact⟨rfl,rfl⟩
          · obtain⟨a,b⟩:=hT (by omega);rw[b,<-a];exact⟨rfl,rfl⟩) y ⟨h,hc,λw j hw hj _=>hD w j hw hj,λ_=>(hD v i hv hi).2 (by omega),λq=>absurd q (by omega)⟩
      obtain⟨h,hc,hD,_,hT⟩:=k;obtain⟨a,b⟩:=hT (by omega);refine⟨h,hc,λw j hw hj=>⟨λq=>?_,λq=>(hD w j hw hj (by omega)).2 (by omega)⟩⟩
      by_cases z:w=v/\j=i
      · rw[z.1,z.2];exact⟨a,b⟩
      · exact(hD w j hw hj z).1 (by omega)) y ⟨h,hc,λw j hw hj=>⟨λq=>(hD w j hw hj).1 (by omega),λq=>(hD w j hw hj).2 (by omega)⟩⟩
    obtain⟨h,hc,hD⟩:=k;refine⟨h,hc,λw j hw hj=>⟨λq=>(hD w j hw hj).1 ?_,λq=>(hD w j hw hj).2 (by omega)⟩⟩
    by_cases e:w=v
    · subst e;exact .inr ⟨rfl,hj⟩
    · exact .inl (by omega)) y3 ⟨h3,hc3,λw j hw hj=>⟨λq=>absurd q (zB8 w),λ_=>by
      have hp:=yH hV hw hj;exact hW3' _ _ hp.ul hp.bl⟩⟩
  have e4:((List.range g.2.length).flatMap λv=>(List.range (row g v).length).flatMap λi=>(List.range cap).flatMap λ_=>[(3,v,i)])=BA g cap:=rfl;rw[e4]at k4;obtain⟨h4,hc4,hD4⟩:=k4;generalize (BA g cap).foldl (kU g nx cap) y3=y4 at h4 hc4 hD4;have hw4:∀v i,v<g.2.length->i<(row g v).length->nZ y4.2.2 v i=[]:=λv i hv hi=>by
    have hp:=yH hV hv hi;have:=((hD4 (tE g v i) (EK g v i) hp.ul hp.bl).1 hp.ul).2;rw[hp.tu,hp.bu]at this;exact this
  refine⟨h4,hc4,⟨λv hv=>by rw[hc4];exact hC2 v hv,λv i hv hi=>?_,λv i hv hi s hs=>?_⟩,⟨λv i hv hi=>by rw[hc4];exact((hD4 v i hv hi).1 hv).1,hw4⟩⟩
  · have hp:=yH hV hv hi;rw[((hD4 v i hv hi).1 hv).1];exact hC2 _ hp.ul
  · rw[hw4 v i hv hi]at hs;exact absurd hs zAz
theorem adf (p:VG g) (h:SH g y) (o:Da g P y) (C:Wy g cap y) (n:1<=cap) (E:∀v s,v<g.2.length->P' v s->P v s) (w:∀c:V6 (V6 Int),c.length=g.2.length->(∀x,x<g.2.length->P x (at' c (x:Int)))->∀v,v<g.2.length->P' v (nx c v)):
  SH g ((Ld g cap).foldl (kU g nx cap) y)/\Da g P' ((Ld g cap).foldl (kU g nx cap) y)/\Sm g ((Ld g cap).foldl (kU g nx cap) y):=by
 unfold Ld;rw[List.foldl_append,List.foldl_append];have⟨t,j,l⟩:=aiG (nx:=nx) p h o C;generalize (BA g cap).foldl (kU g nx cap) y=y1 at t j l
 -- all nodes act
 have A:=qU (kU g nx cap) (λv=>[(1,v,0)]) (λv y=>SH g y/\Da g P y/\(∀v i,v<g.2.length->i<(row g v).length->nZ y.2.2 v i=[])/\∀x,x<v->x<g.2.length->P' x (at' y.1 (x:Int))) g.2.length (λv y d ⟨h,o,F,D⟩=>by
  have e:kU g nx cap y (1,v,0)=SX g nx y v:=rfl;rw[List.foldl_cons,List.foldl_nil,e];have z:=Se p h d o;refine⟨aar h,WI p h d o (λc G f v d=>E _ _ d (w c G f v d)),F,λx f r=>?_⟩
  rw[agl h d];split
  .rename_i e;rw[e];exact w _ z.1 z.2 v d
  .exact D x V7 r) y1 ⟨t,j,l,λx f=>absurd f (zB8 x)⟩
 have B:((List.range g.2.length).flatMap λv=>[(1,v,0)])=WJ g:=rfl;rw[B]at A;have⟨u,q,m,k⟩:=A;generalize (WJ g).foldl (kU g nx cap) y1=y2 at u q m k;have⟨a,_,b,c⟩:=afI (nx:=nx) (cap:=cap) p u m (λx f=>k x f f) n;exact⟨a,b,c⟩
end
end Go.Proofs.YtflciafboapaaaaGreat
namespace Go.Proofs.YtflciafboapaaaaGreat
open Go.Sx
def vM (a:tU) (b:b_) (c:bJ):V1 V4:=
 Option.bind (vK U ((a.1,a.2.1,a.2.2)) ((b.1,b.2)) c) λd=>(some (decide (d=(0:Int))))
theorem aht:aU prog 47:=call47
theorem Oo {a:tU} {g:b_} {j:bJ} (b d e f:V0) (k:kI) (i:V0) (m:mC) (r:V4) (h:vM U a g j=some r):
  aZ prog 47 #[Value.agg #[vS (a.1),b,d],Value.agg #[e,f],i] [Sl aG b a.2.1,Sl aF d a.2.2,PF (Value.agg #[vS a.1,b,d]),Sl aK e g.1,S2 aR f k g.2,S2 aK i m j] (λx:Unit=>vB (r)) (λx l=>l) (λ_ l=>l):=by
 refine aZ.of func47 Z ntmps47 Z λc=>aT<|aI (aN.box (cs:=[vS (a.1),b,d]) Z Z) Z λp=>aI (aN.box (cs:=[e,f]) Z Z) Z λq=>Q5 Z<|aT<|cL 1 Z<|cL 0 Z<|aA Z<|fF h λn o h=>aI (zBj ahx (On U b d e f k i m n o) Z (jJ [0,1,2,3,4,5] Z)) Z λs=>d_ Z<|Q5 Z<|aV ?_;cases h;exact uC Z
def qB (a:Int) (c:aX) (b:gY):V1 V4:=
 ck (0<=a/\a<(b.length:Int)) (Option.bind (vL U (at' b a) c) λd=>(some (d)))
theorem aaG:aU prog 49:=call49
theorem FU {d:Int} {f:aX} {g:gY} (e:V0) (a:Nat) (i:V0) (j:kI) (r:V4) (h:qB U d f g=some r):
  aZ prog 49 #[vI (d),e,vP a] [Sl aK e f,bG a [i] 86,S2 aR i j g] (λx:Unit=>vB (r)) (λx l=>l) (λ_ l=>l):=by
 refine aZ.of func49 Z ntmps49 Z λc=>Q4 Z<|aT<|aB (dG Z (n_ Z) Z Z Z) Z<|aA Z<|dQ h λb h=>aB (bX Z Z (uI Z) Z Z b) Z<|aB (cB Z (uI Z) Z Z b) Z<|aA Z<|fF h λk m h=>aI (zBj aaH (G_ U ((at' j d).1) e k m) Z (aD.cons (zBk (uI Z) b.1 b.2) (jJ [0] Z))) Z λn=>Q5 Z<|aV ?_;cases h;exact oA Z
def AX (a:Unit):V1 V4:=
 some (true)
def AY (b:Int) (a:(Int)->V1 V4) (c:Unit):V1 V4:=
 a (wI .i64 (b+(1:Int)))
def Ba (b:Int) (a:(Int)->V1 V4) (c:V4):V1 V4:=
 if c=true then(some (false))else(a (wI .i64 (b+(1:Int))))
def sI (b:Int) (a:(Int)->V1 V4) (c:Int):V1 V4:=
 Ba b a (decide ((0:Int)<=c))
def wB (b:Int) (a:(Int)->V1 V4) (c:Unit):V1 V4:=
 sI b a (-1:Int)
def Cs (d:Int) (b:(Int)->V1 V4) (a:Int) (c:(Int)->V1 V4) (e:V4):V1 V4:=
 if e=true then(sI d b (a))else(c (wI .i64 (a+(1:Int))))
def sJ (f:uO) (g:gY) (c a:Int) (d:(Int)->V1 V4) (b:Int) (e:(Int)->V1 V4):V1 V4:=
 if b<((at' (at' f.2.2 c) a).length:Int)then(ck (0<=b/\b<((at' (at' f.2.2 c) a).length:Int)) (Option.bind (qB U c (at' (at' (at' f.2.2 c) a) b) g) λh=>(Cs a d b e ((!h)))))else(wB a d (()))
def A_ (f:uO) (e:gY) (b c:Int) (a:(Int)->V1 V4) (d:V4):V1 V4:=
 if d=true then(some (false))else(bE (sJ U f e b c a) U (0:Int))
def jI (g:b_) (i:Int) (d:uO) (e:gY) (a:Int) (f:(Int)->V1 V4) (b:Int) (c:(Int)->V1 V4):V1 V4:=
 if b<((at' g.2 a).length:Int)then(ck (0<=b/\b<((at' g.2 a).length:Int)) (ck (0<=a/\a<(d.2.2.length:Int)) (ck (0<=b/\b<((at' d.2.2 a).length:Int)) (ck (0<=a/\a<(d.2.1.length:Int)) (ck (0<=b/\b<((at' d.2.1 a).length:Int)) (Option.bind (qB U ((at' (at' g.2 a) b).1) (at' (at' d.2.1 a) b) e) λh=>(if(!h)=true then(A_ U d e a b c (true))else(A_ U d e a b c (decide (i<((at' (at' d.2.2 a) b).length:Int)))))))))))else(AY a f (()))
def AZ (e:b_) (f:Int) (g:uO) (d:gY) (b:Int) (a:(Int)->V1 V4) (c:V4):V1 V4:=
 if c=true then(some (false))else(bE (jI U e f g d b a) U (0:Int))
def gM (c:b_) (f:Int) (d:uO) (e:gY) (a:Int) (b:(Int)->V1 V4):V1 V4:=
 if a<(c.2.length:Int)then(ck (0<=a/\a<(c.2.length:Int)) (ck (0<=a/\a<(d.2.1.length:Int)) (if((at' d.2.1 a).length:Int)≠((at' c.2 a).length:Int)then(AZ U c f d e a b (true))else(ck (0<=a/\a<(d.2.2.length:Int)) (AZ U c f d e a b (decide (((at' d.2.2 a).length:Int)≠((at' c.2 a).length:Int))))))))else(AX (()))
def AW (a:tU) (b:b_) (e:Int) (f:uO) (d:V4):V1 V4:=
 if d=true then(some (false))else(Option.bind (kZ U ((a.1,a.2.1,a.2.2)) ((b.1,b.2))) λc=>(bE (gM U b e f c) U (0:Int)))
def wA (c:tU) (a:b_) (d:Int) (b:uO) (e:V4):V1 V4:=
 if e=true then(some (false))else(if(b.2.1.length:Int)≠(a.2.length:Int)then(AW U c a d b (true))else(AW U c a d b (decide ((b.2.2.length:Int)≠(a.2.length:Int)))))
def qZ (a:tU) (b:b_) (c:Int) (d:uO):V1 V4:=
 Option.bind (vM U ((a.1,a.2.1,a.2.2)) ((b.1,b.2)) d.1) λe=>(if(!e)=true then(wA U a b c d (true))else(if c<(1:Int)then(wA U a b c d (true))else(wA U a b c d (decide ((8:Int)<c)))))
theorem aaz:aU prog 18:=call18
theorem Ix (U:Nat) {p0:tU} {p:b_} {w:Int} {v:uO} (M N v2 L:V0) (z4:kI) (v5:V0) (z6:mC) (v7:V0) (z8:Qg) (v9:V0) (G:Qe) (r:Bool) (h:qZ U p0 p w v=some r):
  aZ prog 18 #[Value.agg #[vS (p0.1),M,N],Value.agg #[v2,L],vI (w),Value.agg #[v5,v7,v9]] [Sl aG M p0.2.1,Sl aF N p0.2.2,PF (Value.agg #[vS p0.1,M,N]),Sl aK v2 p.1,S2 aR L z4 p.2,S2 aK v5 z6 v.1,S3 aK v7 z8 v.2.1,S4 aK v9 G v.2.2] (λx:Unit=>vB (r)) (λx l=>l) (λ_ l=>l):=by
 let Y:=S2 aK v5 z6 v.1;let X:=S2 aR L z4 p.2;let W:=S3 aK v7 z8 v.2.1;let V:=S4 aK v9 G v.2.2;let S:=PF (Value.agg #[vS p0.1,M,N]);let K:=(p.2.length:Int)
 refine aZ.of func18 Z ntmps18 Z λc=>?_;refine aT<|aI (aN.box (cs:=[vS (p0.1),M,N]) Z Z) Z λb1=>aI (aN.box (cs:=[v2,L]) Z Z) Z λb2=>aI (aN.box (cs:=[v5,v7,v9]) Z Z) Z λb3=>let k:=bG b3 [v5,v7,v9] 43;aC Z<|aO<|aL<|aL<|fV (λa5=>wA U p0 p w v a5=some r) (λa5 b6=>[(2,vI (w)),(4,vP b1),(5,vP b2),(7,vP b3),(29,vB (a5))]) (λa5 b6=>[k,bG b2 [v2,L] 31,bG b1 [vS (p0.1),M,N] 36]) ?_ ?_
 .refine aP<|cL 2 Z<|cL 1 Z<|bZ Z<|dO 0 Z<|fF h λa7 bc h=>aI (zBj aht (Oo U M N v2 L z4 v5 z6 a7 bc) Z (jJ [0,1,2,3,4,5] Z)) Z λbg=>aB (nY Z) Z<|aA Z ?_;refine Ai (by exact rfl) (by exact rfl) (λR=>?_) (λR=>?_)
  .have h:=ME R h;refine aW Z<|aW Z<|gT Z<|aA Z<|aW Z<|aW Z<|gT Z<|aO ?_;exact jV (true) () h SF Z
  have h:=Jy R h;refine gW Z<|bB Z (Ew Z Z) Z<|iV Z<|aA Z ?_;refine IX h Z (λ_ h=>?_) λ_ h=>?_
  .refine aW Z<|aW Z<|gT Z<|aO ?_;exact jV (true) () h SF Z
  refine gW Z<|bB Z (zW Z Z) Z<|iV Z<|aO ?_;exact jV (decide ((8:Int)<w)) () h SF Z
 intro a5 b6 h;refine Ag h Z (λ_ h=>?_) λ_ h=>?_
 .refine aT<|aC Z<|aO<|aV<|aM ?_;cases h;exact uC Z
 refine cU<|aL<|aL<|fV (λa9=>AW U p0 p w v a9=some r) (λa9 ao=>[(2,vI (w)),(4,vP b1),(5,vP b2),(7,vP b3),(45,vB (a9))]) (λa9 ao=>[k,bG b2 [v2,L] 31,bG b1 [vS (p0.1),M,N] 36]) ?_ ?_
 .refine aP<|bZ Z<|dO 0 Z<|aB (fR Z (Mb Z) Z) Z<|bZ Z<|dO 1 Z<|aB (fR Z (HA Z) Z) Z<|tT Z<|aA Z ?_;refine IX h Z (λ_ h=>?_) λ_ h=>?_
  .refine aW Z<|aW Z<|aW Z<|aW Z<|aW Z<|aW Z<|aW Z<|gT Z<|aO ?_;exact jV (true) () h SF Z
  refine bB Z (dN Z Z Z Z Z) Z<|bB Z (eI 0 Z Z Z Z Z) Z<|bB Z (fR Z (IP Z) Z) Z<|bB Z (dN Z Z Z Z Z) Z<|bB Z (eI 1 Z Z Z Z Z) Z<|bB Z (fR Z (HA Z) Z) Z<|bB Z (Ij Z Z) Z<|iV Z<|aO ?_;exact jV (decide ((v.2.2.length:Int)≠K)) () h SF Z
 intro a9 ao h;refine Ag h Z (λ_ h=>?_) λ_ h=>?_
 .refine aT<|aC Z<|aO<|aV<|aM ?_;cases h;exact uC Z
 refine cU<|aT<|cL 2 Z<|cL 1 Z<|fF h λm a8 h=>aI (zBj Vk (Dv U M N v2 L z4 m a8) Z (jJ [0,1,2,3,4] Z)) Z λD=>let u:=hJ bW D.2 m;let s:=Ar bN.raw D.1 D.2;aI (aN.alloc (cs:=[eB]) Z Z) Z λJ=>let ak:=Value.pointer (some ⟨J,0,none⟩);let t:=bG J [D.1] 86;bO (BH (fQ (i:=1) (j:=2) Z Z cA)) λaX=>iB 0 Z Z aX Z Z Z<|aO<|aT<|aB (oM (cs:=[.tmp 9]) (vs:=[vP J]) Z) Z<|aI (aN.alloc (cs:=[Value.nilFunc]) Z Z) Z λe=>let q:=bG e [Value.func (.func 49) #[] #[vP J]] 90;iB 0 Z Z Z Z Z Z<|aO<|aL<|fV (λaa=>AX aa=some r) (λaa ap=>[]) (λaa ap=>[]) ?_ ?_
 .refine aT<|bZ Z<|dO 5 Z<|aB (fR Z (HA Z) Z) Z<|aA Z<|aO<|aQ<|fT (gM U p w v m) (λa aq=>[(2,vI (w)),(7,vP b3),(10,vP e),(51,L),(52,vI K),(53,vI (a))]) (λa aq=>[q,t,s,u,k]) (0:Int) () h SF (aS.ix [0,1,2,3,4] Z Z) ?_;intro a2 a aq h;let T:=((at' p.2 a).length:Int)
  let ah:=(bE (gM U p w v m) a2)
  refine aT<|cN Z<|aO<|aL ?_;refine gC h Z (λh=>?_) λh=>?_
  .refine cU<|aL<|fV (λab=>AY a ah ab=some r) (λab ar=>[(2,vI (w)),(7,vP b3),(10,vP e),(51,L),(52,vI K),(53,vI (a))]) (λab ar=>[q,t,s,u,k]) ?_ ?_
   .refine aQ<|aT<|aA Z<|dQ h λf h=>aB (bX Z Z (HA Z) Z Z f) Z<|aB (cB Z (HA Z) Z Z f) Z<|aI (aN.alloc (cs:=[vI (0:Int)]) Z Z) Z λo=>let C:=bG o [vI (a)] 3;iB 0 Z Z Z Z Z Z<|aC Z<|aO<|aL<|aL<|fV (λO=>AZ U p w v m a ah O=some r) (λO au=>[(2,vI (w)),(7,vP b3),(10,vP e),(11,vP o),(12,(at' z4 a).1),(51,L),(52,vI K),(53,vI (a)),(77,vB (O))]) (λO au=>[C,q,t,s,u,k]) ?_ ?_
    .refine aP<|bZ Z<|dO 5 Z<|dO 0 Z<|dQ h λaf h=>aB (bX Z Z (Mb Z) Z Z af) Z<|aB (oL Z (Mb Z) Z Z af) Z ?_;refine aB (fR Z (eR (Mb Z) af.1 af.2) Z) Z ?_;refine aA Z<|aB (eW Z (zBk (HA Z) f.1 f.2) Z) Z<|tT Z<|aA Z ?_;refine IX h Z (λ_ h=>?_) λ_ h=>?_
     .refine aW Z<|aW Z<|aW Z<|aW Z<|aW Z<|aW Z<|aW Z<|aW Z<|aW Z<|gT Z<|aO ?_;exact jV (true) () h SF Z
     refine bB Z (dN Z Z Z Z Z) Z<|bB Z (eI 5 Z Z Z Z Z) Z<|bB Z (eI 0 Z Z Z Z Z) Z<|dQ h λag h=>bB Z (bX Z Z (IP Z) Z Z ag) Z<|bB Z (oL Z (IP Z) Z Z ag) Z ?_;refine bB Z (fR Z (eR (IP Z) ag.1 ag.2) Z) Z ?_;refine gW Z<|bB Z (eW Z (zBk (HA Z) f.1 f.2) Z) Z<|bB Z (Ij Z Z) Z<|iV Z<|aO ?_;exact jV (decide (((at' v.2.2 a).length:Int)≠T)) () h SF Z
    intro O au h;refine Ag h Z (λ_ h=>?_) λ_ h=>?_
    .refine aT<|aC Z<|aO<|aV<|aM<|bU<|aM<|aM<|bU<|aM ?_;cases h;exact uC Z
    refine cU<|aT<|aA Z<|aB (eW Z (zBk (HA Z) f.1 f.2) Z) Z<|aA Z<|aO<|aQ<|fT (jI U p w v m a ah) (λb av=>[(2,vI (w)),(7,vP b3),(10,vP e),(11,vP o),(51,L),(52,vI K),(53,vI (a)),(78,(at' z4 a).1),(79,vI T),(80,vI (b))]) (λb av=>[C,q,t,s,u,k]) (0:Int) () h SF (aS.refl _) ?_;intro a3 b av h;let aj:=((at' (at' v.2.2 a) b).length:Int)
    let ai:=(at' ((at' G a).2) b)
    let F:=(bE (jI U p w v m a ah) a3)
    refine aT<|cN Z<|aO<|aL ?_;refine gC h Z (λh=>?_) λh=>?_
    .refine cU<|aL<|aQ<|aT<|aA Z<|dQ h λa0 h=>aB (bD Z Z (zBk (HA Z) f.1 f.2) Z Z a0) Z<|aB (fG (cs:=[vI ((at' (at' p.2 a) b).1),vI ((at' (at' p.2 a) b).2)]) Z (zBk (HA Z) f.1 f.2) cA Z Z Z Z a0) Z<|aI (aN.alloc (cs:=MN) Z Z) Z λbe=>aC Z<|bP 0 (vs:=[vI ((at' (at' p.2 a) b).1),vI ((at' (at' p.2 a) b).2)]) Z Z Z Z Z Z<|aO<|aT<|bZ Z<|dO 6 Z<|dO 1 Z<|dQ h λd h=>aB (bX Z Z (IP Z) Z Z d) Z<|aB (oL Z (IP Z) Z Z d) Z<|aA Z<|dQ h λg h=>aB (bX Z Z (eR (IP Z) d.1 d.2) Z Z g) Z ?_;refine aB (oL Z (eR (IP Z) d.1 d.2) Z Z g) Z ?_;refine aC Z<|aO<|aL<|aL<|fV (λP=>A_ U v m a b F P=some r) (λP aw=>[(2,vI (w)),(7,vP b3),(10,vP e),(11,vP o),(15,ai.1),(51,L),(52,vI K),(53,vI (a)),(78,(at' z4 a).1),(79,vI T),(80,vI (b)),(111,vB (P))]) (λP aw=>[C,q,t,s,u,k]) ?_ ?_
     .refine Bf [0,0,2,0,8,0,56,120,0,504,1016,2047,4095,8191,16383,32767,16383,131071,262143] 17 mixedOrders ?_;refine gN 2 Z<|cT Z<|gN 0 Z<|cT Z<|gN 6 Z<|gN 1 Z<|dQ h λy h=>bQ (lW (Mb Z)) λaz=>jS Z (mO Z Z az Z Z y)<|aY Z .nil (iH 6 Z) (oL Z (cP Z) Z Z y) aJ.z<|bM Z<|dQ h λae h=>bQ (lW (eR (Mb Z) y.1 y.2)) λaE=>?_;refine jS Z (mO Z Z aE Z Z ae) ?_;refine aY Z .nil (iH 6 Z) (cB Z (eR (cP Z) y.1 y.2) Z Z ae) aJ.z<|fF h λa6 bb h=>zBl Z Z Z (mJ (vs:=[vI ((at' (at' p.2 a) b).1),(at' ((at' z8 a).2) b).1]) (cs:=[ak]) aaG Z (FU U ((at' ((at' z8 a).2) b).1) J D.1 (List.zip D.2 m) a6 bb) Z (aD.cons (zBk (eR (Mb Z) y.1 y.2) ae.1 ae.2) (aD.cons (aH.res 3 Z) (aD.cons (fQ (i:=4) (j:=5) Z Z cA) .nil))) (λ_ _=>rfl)) Z (λbd=>(oP [] Z)) λbd=>?_;refine jS Z (nY Z)<|jS Z (f_ Z) ?_;refine JR.guard (by exact rfl) (by exact rfl) (by exact rfl) (λQ=>?_) (λQ=>?_)
      .have h:=ME Q h;refine bK Z Z Z Z<|bK Z Z Z Z<|bK Z Z Z Z<|bS 17 Z Z<|aW Z<|gT Z<|aO ?_;exact cD (true) () h SF (aS.ix [1,2,3,4,5,6] Z Z) (aD.refl _ _)
      have h:=Jy Q h;refine eT Z .nil .nil (f_ Z) (KH Z) ?_;refine eT Z .nil (iH 7 Z) (fR Z (eR (eR (cP Z) d.1 d.2) g.1 g.2) Z) (KH Z) ?_;refine eT Z .nil .nil (f_ Z) (KH Z)<|bS 17 Z Z<|bB Z (zW Z Z) Z<|iV Z<|aO ?_;exact cD (decide (w<aj)) () h SF (aS.ix [1,2,3,4,5,6] Z Z) (aD.refl _ _)
     intro P aw h;refine Ag h Z (λ_ h=>?_) λ_ h=>?_
     .refine aT<|aC Z<|aO<|aV<|aM<|bU<|aM<|aM<|bU<|bU<|aM<|aM<|bU<|aM ?_;cases h;exact uC Z
     refine cU<|aT<|aA Z<|aB (oM (cs:=[.tmp 10,.tmp 11]) (vs:=[vP e,vP o]) Z) Z<|uS (A:=Bool) (B:=Unit) (vs:=[(at' ((at' G a).2) b).1,Value.func (.func 52) #[] #[vP e,vP o]]) (λH=>Ba b F H=some r) (λH al=>vB (H)) (λH al=>[C,q,t,s,u,k]) (λH al=>[Sl aG M p0.2.1,Sl aF N p0.2.2,S,Sl aK v2 p.1,X,Y,W,V]) (pT.fn (show aU prog 51 from call51) Z) func51 Z ntmps51 Z Z ?_ ?_
     .refine aT<|aC Z<|aO<|aT<|aA Z<|aA Z<|uS (A:=Int) (B:=Unit) (vs:=[(at' ((at' G a).2) b).1,Value.func (.func 52) #[] #[vP e,vP o]]) (λE=>sI b F E=some r) (λE am=>vI (E)) (λE am=>[C,q,t,s,u,k]) (λE am=>[Sl aG M p0.2.1,Sl aF N p0.2.2,S,Sl aK v2 p.1,X,Y,W,V]) (pT.fn (show aU prog 98 from call98) Z) func98 Z ntmps98 Z Z ?_ ?_
      .refine aT<|aC Z<|aO<|aL<|fV (λac=>wB b F ac=some r) (λac ax=>[]) (λac ax=>[C,q,t,s,u,k]) ?_ ?_
       .refine aT<|aA Z ?_;refine aB (fR Z (eR (eR (IP Z) d.1 d.2) g.1 g.2) Z) Z ?_;refine aA Z<|aO<|aQ<|fT (sJ U v m a b F) (λn ay=>[(0,ai.1),(1,Value.func (.func 52) #[] #[vP e,vP o]),(7,vI aj),(8,vI (n))]) (λn ay=>[C,q,t,s,u,k]) (0:Int) () h SF (aS.refl _) ?_;intro a4 n ay h;refine aT<|cN Z<|aO<|aL ?_;refine gC h Z (λh=>?_) λh=>?_
        .refine cU<|aL<|aQ<|aT<|aA Z<|aC Z<|aO<|aT<|aA Z<|aA Z<|aA Z<|dQ h λad h=>aB (bX Z Z (eR (eR (IP Z) d.1 d.2) g.1 g.2) Z Z ad) Z ?_;refine aB (cB Z (eR (eR (IP Z) d.1 d.2) g.1 g.2) Z Z ad) Z ?_;refine uS (A:=Bool) (B:=Unit) (vs:=[(at' ((at' ((at' G a).2) b).2) n).1,vP e,vP o]) (λI=>Cs b F n (bE (sJ U v m a b F) a4) I=some r) (λI an=>vB (I)) (λI an=>[C,q,t,s,u,k]) (λI an=>[Sl aG M p0.2.1,Sl aF N p0.2.2,S,Sl aK v2 p.1,X,Y,W,V]) (Yt (us:=[(at' (ai.2) n).1]) (cs:=[vP e,vP o]) (show aU prog 52 from call52) Z Z Z) func52 Z ntmps52 Z Z ?_ ?_
         .refine aT<|aC Z<|aO<|aT<|dO 1 Z<|dO 0 Z<|aA Z<|fF h λa1 ba h=>aI (mJ (vs:=[vI (a),(at' ((at' ((at' G a).2) b).2) n).1]) (cs:=[ak]) aaG Z (FU U ((at' (ai.2) n).1) J D.1 (List.zip D.2 m) a1 ba) Z (aD.cons (zBk (eR (eR (IP Z) d.1 d.2) g.1 g.2) ad.1 ad.2) (aD.cons (aH.res 2 Z) (aD.cons (fQ (i:=3) (j:=4) Z Z cA) .nil))) (λ_ _=>rfl)) Z λbf=>?_;refine aB (nY Z) Z<|aC Z<|aO<|aV ?_;exact iX ((!a1)) () h (.inl Z) (DG.r1 Z (RV.tmp Z)) Z (aS.refl _) (aD.refl _ _)
         intro I an h;refine aO ?_;refine Ag h Z (λ_ h=>?_) λ_ h=>?_
         .refine aT<|aA Z<|aC Z<|aO<|aV<|bU<|aM<|aM<|bU<|aM ?_;exact iX (n) () h (.inl Z) (DG.r1 Z (RV.tmp Z)) Z (aS.refl _) (aD.refl _ _)
         refine eK<|mF<|aP<|cH Z<|aA Z<|aO ?_;exact Ci (wI .i64 (n+(1:Int))) () h SF Z
        refine fH ?_;exact jV () (()) h SF Z
       intro ac ax h;unfold wB at h;refine aT<|aC Z<|aO<|aV ?_;exact iX (-1:Int) () h (.inl Z) (DG.r1 Z (RV.tmp Z)) Z (aS.refl _) (aD.refl _ _)
      intro E am h;unfold sI at h;refine aB (Ev Z Z) Z<|aC Z<|aO<|aV ?_;exact iX (decide ((0:Int)<=E)) () h (.inl Z) (DG.r1 Z (RV.tmp Z)) Z (aS.refl _) (aD.refl _ _)
     intro H al h;refine aO ?_;refine Ag h Z (λ_ h=>?_) λ_ h=>?_
     .refine aT<|aC Z<|aO<|aV<|bU<|aM<|aM<|bU<|bU<|aM<|aM<|bU<|aM ?_;cases h;exact uC Z
     refine eK<|mF<|aP<|cH Z<|aA Z<|aO ?_;exact Ci (wI .i64 (b+(1:Int))) () h SF Z
    refine sS<|fU<|fU<|Aj<|mF ?_;exact cD () (()) h SF (aS.ix [1,2,3,4,5] Z Z) (aD.refl _ _)
   intro ab ar h;unfold AY at h;refine aP<|cH Z<|aA Z<|aO ?_;exact Ci (wI .i64 (a+(1:Int))) () h SF Z
  refine fH ?_;exact cD () (()) h SF .nil (aD.refl _ _)
 intro aa ap h;unfold AX at h;refine aT<|aC Z<|aO<|aV ?_;cases h;exact oA Z
end Go.Proofs.YtflciafboapaaaaGreat
namespace Go.Proofs.YtflciafboapaaaaGreat
open Go Go.Sx
def Ee (n:Nat) (b:Nat->V4):V4:=(List.range n).all b
theorem qK {n:Nat} {b:Nat->V4}:Ee n b=true↔∀k,k<n->b k=true:=by simp[Ee]
theorem SY {n:Nat} {b:Nat->V4} (h:¬Ee n b=true):∃m,m<n/\b m=false/\∀j,j<m->b j=true:=by
 have g:∃k,k<n/\b k=false:=Classical.byContradiction λq=>h (qK.2 λk a=>by
  cases e:b k
  .exact absurd ⟨k,a,e⟩ q
  .rfl)
 have⟨k,a,e⟩:=g;have⟨m,i,c,d⟩:=least (p:=λk=>b k=false) k e;exact⟨m,V7,c,λj f=>by
  cases e:b j
  .exact absurd e (d j f)
  .rfl⟩
theorem Ax {B:Type} {n:Nat} {b:Nat->V4} {a:Int->(Int->V1 B)->V1 B} {z:B} {K:V1 B}
  (e:∀(k:Nat) c,k<n->a (k:Int) c=if b k=true then c ((k+1:Nat):Int)else some z) (l:∀c,a (n:Int) c=K) (o:n<1000):bE a 1000 0=if Ee n b=true then K else some z:=by
 by_cases h:Ee n b=true
 .rw[if_pos h];have f:=qK.1 h;exact eJ n (λk=>(k:Int)) (λk c d=>by rw[e k c d,if_pos (f k d)]) l 1000 o
 .rw[if_neg h];have⟨m,g,i,j⟩:=SY h;exact eJ m (λk=>(k:Int)) (λk c d=>by rw[e k c V7,if_pos (j k d)]) (λc=>by rw[e m c g,if_neg (by rw[i];decide)]) 1000 V7
theorem ifB (b:V4):(if b=true then some true else some false)=some b:=by cases b<;>rfl
def GM (g:GR) (a:V6 Ah) (v:Nat) (l:aX):V4:=decide (l.length=a.length)&&Ee a.length λx=>decide ((rQ g a v x).1<=at' l (x:Int)/\at' l (x:Int)<=(rQ g a v x).2)
def cfB (g:GR) (a:V6 Ah) (c:bJ):V4:=decide (c.length=g.2.length)&&Ee g.2.length λv=>GM g a v (at' c (v:Int))
section
variable {g:GR} {vars:V6 Ah} {p:xO}
theorem adc (i:vars.length<=20) (v:Nat) (l:V6 Int):vL 1000 (HZ g vars v) l=some (GM g vars v l):=by
 have c:(HZ g vars v).length=vars.length:=by simp[HZ]
 unfold vL GM;by_cases h:l.length=vars.length
 .rw[if_neg (by rw[c,h];simp),zAe h,zBi,<-ifB];refine Ax (λk d f=>?_) (λd=>?_) V7
  .have e:at' (HZ g vars v) (k:Int)=rQ g vars v k:=AQ _ f;unfold tS zC;rw[Q3,Q7,Q7,e];by_cases a:at' l (k:Int)<(rQ g vars v k).1
   .rw[if_pos a,if_pos Z,if_neg (by rw[zA2];omega)]
   .rw[if_neg a,Q7];by_cases b:(rQ g vars v k).2<at' l (k:Int)
    .rw[zAe b,if_pos Z,if_neg (by rw[zA2];omega)]
    .rw[zA6 b,if_neg Q2,if_pos (by rw[zA2];omega),Q8]
  .unfold tS zB;rw[Q0]
 .rw[if_pos (by rw[c];omega),zA6 h,Bool.false_and]
theorem ahR (a:VG g) (b:pV g p.2.1) (c:V6 (V6 Int)):vK 1000 p g c=some (if cfB g p.2.1 c=true then 0 else 10):=by
 have f:=a.n24;have d:(Cv g p.2.1).length=g.2.length:=by simp[Cv]
 unfold vK;rw[bA (show qV 1000 _ _=some 0 from Xp a b),if_neg Q2,bA (show kZ 1000 _ _=_ from Ow a b)];have:yZ 1000 (Cv g p.2.1) c=some (cfB g p.2.1 c):=by
  unfold yZ cfB;by_cases h:c.length=g.2.length
  .rw[if_neg (by rw[d,h];simp),zAe h,zBi,<-ifB];refine Ax (λk e i=>?_) (λe=>?_) V7
   .have j:at' (Cv g p.2.1) (k:Int)=HZ g p.2.1 k:=AQ _ i;unfold wS;rw[Q3,Q7,Q7,j,bA (adc b.len k _),Q8];cases GM g p.2.1 k (at' c (k:Int))<;>rfl
   .unfold wS wR;rw[Q0]
  .rw[if_pos (by rw[d];omega),zA6 h,Bool.false_and]
 rw[bA this];cases cfB g p.2.1 c<;>rfl
theorem abZ (a:VG g) (b:pV g p.2.1) (c:V6 (V6 Int)):vM 1000 p g c=some (cfB g p.2.1 c):=by
 unfold vM;rw[bA (show vK 1000 _ _ _=_ from ahR a b c)];cases cfB g p.2.1 c<;>rfl
end
def wiB (g:GR) (a:V6 Ah) (b:Int) (y:zV) (v i:Nat):V4:=GM g a (tE g v i) (nZ y.2.1 v i)&&(decide (((nZ y.2.2 v i).length:Int)<=b)&&Ee (nZ y.2.2 v i).length λk=>GM g a v (at' (nZ y.2.2 v i) (k:Int)))
def rvB (g:GR) (a:V6 Ah) (b:Int) (y:zV) (v:Nat):V4:=decide ((at' y.2.1 (v:Int)).length=(row g v).length)&&(decide ((at' y.2.2 (v:Int)).length=(row g v).length)&&Ee (row g v).length (wiB g a b y v))
def ZE (g:GR) (a:V6 Ah) (b:Int) (y:zV):V4:=cfB g a y.1&&(decide (1<=b/\b<=8)&&(decide (y.2.1.length=g.2.length)&&(decide (y.2.2.length=g.2.length)&&Ee g.2.length (rvB g a b y))))
section
variable {g:GR} {p:xO}
theorem UB (hV:VG g) (hp:pV g p.2.1) (cap:Int) (y:zV):qZ 1000 p g cap y=some (ZE g p.2.1 cap y):=by
 have h24:=hV.n24;have ht:(Cv g p.2.1).length=g.2.length:=by simp[Cv]
 have one:∀(v:Nat) (l:List Int),v<g.2.length->qB 1000 (v:Int) l (Cv g p.2.1)=some (GM g p.2.1 v l):=λv l hv=>by
  have hr:at' (Cv g p.2.1) (v:Int)=HZ g p.2.1 v:=AQ _ hv;unfold qB;rw[cR (by omega),hr,bA (adc hp.len v l)]
 unfold qZ ZE;rw[bA (show vM 1000 _ _ _=_ from abZ hV hp y.1)];cases hc:cfB g p.2.1 y.1
 .rfl
 rw[if_neg (by decide),zBi];by_cases h1:cap<1
 .rw[if_pos h1,zA6 (p:=1<=cap/\cap<=8) (by omega)];rfl
 rw[if_neg h1];by_cases h2:8<cap
 .rw[zAe h2,zA6 (p:=1<=cap/\cap<=8) (by omega)];rfl
 rw[zA6 h2,zAe (p:=1<=cap/\cap<=8) (by omega),zBi];unfold wA;rw[if_neg (by decide)];by_cases h3:y.2.1.length=g.2.length
 rotate_left
 .rw[if_pos (by omega),zA6 h3];rfl
 rw[if_neg (by omega),zAe h3,zBi];by_cases h4:y.2.2.length=g.2.length
 rotate_left
 .rw[zA6 h4,show decide ((y.2.2.length:Int)≠(g.2.length:Int))=true from zAe (by omega)];rfl
 rw[zAe h4,zBi,show decide ((y.2.2.length:Int)≠(g.2.length:Int))=false from zA6 (by omega)];unfold AW;rw[if_neg (by decide),bA (show kZ 1000 _ _=_ from Ow hV hp),<-ifB];refine Ax (λv ag hv=>?_) (λag=>?_) (by omega)
 rotate_left
 .unfold gM AX;rw[if_neg (by omega)]
 have hdeg:=(hV.node v hv).deg;have hrow:at' g.2 (v:Int)=row g v:=rfl;unfold gM rvB;rw[if_pos (by omega),cR (by omega),cR (by omega),hrow];by_cases h5:(at' y.2.1 (v:Int)).length=(row g v).length
 rotate_left
 .rw[if_pos (by omega),zA6 h5,Bool.false_and,if_neg (by decide)];rfl
 rw[if_neg (by omega),cR (by omega),zAe h5,zBi];by_cases h6:(at' y.2.2 (v:Int)).length=(row g v).length
 rotate_left
 .rw[zA6 h6,Bool.false_and,if_neg (by decide),show decide (((at' y.2.2 (v:Int)).length:Int)≠((row g v).length:Int))=true from zAe (by omega)];rfl
 rw[zAe h6,zBi,show decide (((at' y.2.2 (v:Int)).length:Int)≠((row g v).length:Int))=false from zA6 (by omega)];unfold AZ;rw[if_neg (by decide)];refine Ax (λi ag2 hi=>?_) (λag2=>?_) (by omega)
 rotate_left
 .unfold jI AY;rw[hrow,if_neg (by omega),cW (by omega)]
 have hto:=Dp hV hv hi;have hul:=(yH hV hv hi).ul;have hl1:at' (row g v) (i:Int)=gR (row g v) i:=rfl;unfold jI wiB;rw[hrow,if_pos (by omega),cR (by omega),cR (by omega),cR (by omega),cR (by omega),cR (by omega),hl1,hto,bA (one _ _ hul)];have e1:at' (at' y.2.1 (v:Int)) (i:Int)=nZ y.2.1 v i:=rfl;have e2:at' (at' y.2.2 (v:Int)) (i:Int)=nZ y.2.2 v i:=rfl;rw[e1,e2];cases GM g p.2.1 (tE g v i) (nZ y.2.1 v i)
 .rfl
 rw[if_neg (by decide),zBi];unfold A_;by_cases h7:((nZ y.2.2 v i).length:Int)<=cap
 rotate_left
 .rw[zA6 h7,Bool.false_and,if_pos (by rw[zA2];omega),if_neg (by decide)]
 rw[zAe h7,zBi,if_neg (by rw[zA2];omega)];have key:bE (sJ 1000 y (Cv g p.2.1) (v:Int) (i:Int) ag2) 1000 0=if Ee (nZ y.2.2 v i).length (λk=>GM g p.2.1 v (at' (nZ y.2.2 v i) (k:Int)))=true then wB (i:Int) ag2 ()else some false:=by
  refine Ax (λk ag3 hk=>?_) (λag3=>?_) (by omega)
  .unfold sJ;rw[e2,if_pos (by omega),cR (by omega),bA (show qB 1000 _ _ _=_ from one v _ hv)];unfold Cs;cases GM g p.2.1 v (at' (nZ y.2.2 v i) (k:Int))
   .rw[if_pos (by decide),if_neg (by decide)];unfold sI Ba;rw[if_pos (by rw[zA2];omega)]
   .rw[if_neg (by decide),if_pos (by decide),cW (by omega)]
  .unfold sJ;rw[e2,if_neg (by omega)]
 refine key.trans ?_;unfold wB sI Ba;rw[if_neg (show¬decide ((0:Int) <= -1)=true by decide),cW (by omega)]
end
end Go.Proofs.YtflciafboapaaaaGreat