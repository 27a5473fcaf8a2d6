/- Models and proofs. Conditions: none. -/
import Derived.Test.YtjlbcgddhnjcjaaGreatDoorZCWi2
import Derived.Test.YtjlbcgddhnjcjaaGreatDoorZCWi5
import Derived.KernelRfl
set_option linter.unusedVariables false
set_option linter.unusedSimpArgs false
set_option maxHeartbeats 4000000
set_option maxRecDepth 20000
section
namespace Go.Proofs.YtjlbcgddhnjcjaaGreatDoor
open Go.Sx
section
def vE  (a2:Int):Option (Int):=
 some (a2)
def sK (a7:dM) (ag6:c_->Option (Int)) (a11:Bool):Option (Int):=
 if a11=true then(ck (0<=(wI .u64 a7.2)) (ag6 ((CU .u32 a7.1 (vN .u32 (1:Int) (wI .u64 a7.2))),(wI .i64 (a7.2+(1:Int))))))else(vE  (a7.1))
def sL (p0:Int) (a7:dM) (ag6:c_->Option (Int)):Option (Int):=
 if a7.2<p0 then(sK a7 ag6 (decide (a7.2<(32:Int))))else(sK a7 ag6 (false))
def rO (U:Nat) (p0:Int):Option (Int):=
 bD (sL p0) U ((0:Int),(0:Int))
theorem VQ:aN Tryz.prog 24:=Tryz.call24
theorem Km (U:Nat) {p0:Int} (r:Int) (h:rO U p0=some r):
  aT Tryz.prog 24 #[vI (p0)] [] (fun x:Unit=>vU (r)) (fun x l=>l) (fun _ l=>l):=by
 refine aT.of Tryz.func24 rfl Tryz.ntmps24 rfl fun c=>?_
 unfold rO at h
 refine sqR<|qkAsg rfl<|dtN<|sqR<|qkAsg rfl<|dtN<|aH<|midU (fun a2=>vE  a2=some r) (fun a2 b3=>[(3,vU (a2))]) (fun a2 b3=>[]) ?_ ?_
 ·refine sqR<|qkAsg rfl<|dtN<|aM<|loopL (sL p0) (fun a7 b8=>[(0,vI (p0)),(3,vU (a7.1)),(4,vI (a7.2))]) (fun a7 b8=>[]) ((0:Int),(0:Int)) () h SF (aW.refl _) ?_
  intro k9 a7 b8 h
  refine aH<|aH<|midU (fun a11=>sK a7 (bD (sL p0) k9) a11=some r) (fun a11 b12=>[(0,vI (p0)),(3,vU (a7.1)),(4,vI (a7.2)),(11,vB (a11))]) (fun a11 b12=>[]) ?_ ?_
  ·refine aK<|qkMove rfl<|qkMove rfl<|qkLss rfl<|qkMove rfl ?_
   refine Bi h rfl (fun _ h=>?_) fun _ h=>?_
   ·refine gyMove rfl<|aS rfl (Bg rfl rfl) rfl<|qkPkT rfl<|dtN ?_
    exact iG (decide (a7.2<(32:Int))) () h SF rfl
   refine gdSkip rfl<|gdSkip rfl<|qkPkF rfl<|dtN ?_
   exact iG (false) () h SF rfl
  intro a11 b12 h
  refine Ab h rfl (fun _ h=>?_) fun _ h=>?_
  ·refine cF<|aH<|aM<|aK<|qkMove rfl<|qkMove rfl<|aB (ER rfl rfl rfl) rfl<|ckE h fun j14 h=>aB (EV rfl rfl j14) rfl<|aB (Lb rfl rfl) rfl<|qkAsg rfl<|dA<|inT<|aK<|qkMove rfl<|qkAdd rfl<|qkAsg rfl<|dtN ?_
   exact xO ((CU .u32 a7.1 (vN .u32 (1:Int) (wI .u64 a7.2))),(wI .i64 (a7.2+(1:Int)))) () h SF rfl
  refine fL ?_
  exact iG (a7.1) () h SF rfl
 intro a2 b3 h
 unfold vE at h
 refine sqR<|qkMove rfl<|qkAsg rfl<|dtN<|aP ?_
 cases h
 exact kW rfl
end
section
def kA (U:Nat) (p0:dN) (p1:Int) (a3:Bool):Option aL:=
 if a3=true then(some ([]:aL))else(Option.bind (sG U ((p0.1,p0.2)) p1) fun r6=>(some (r6)))
def lK (U:Nat) (p0:dN) (p1:Int):Option aL:=
 Option.bind (e_ U ((p0.1,p0.2))) fun r9=>(if(!r9)=true then(kA U p0 p1 (true))else(if p1<(0:Int)then(kA U p0 p1 (true))else(kA U p0 p1 (decide ((List.length p0.2:Int)<=p1)))))
theorem V_:aN Tryz.prog 91:=Tryz.call91
theorem CN (U:Nat) {p0:dN} {p1:Int} (v0:Value)  (v1:Value)  (z2:mT) (r:aL) (h:lK U p0 p1=some r):
  aT Tryz.prog 91 #[Value.agg #[v0,v1],vI (p1)] [Sl bK v0 p0.1,S2 aZ v1 z2 p0.2] (fun x:Value=>x) (fun x l=>Ar bV x r::l) (fun _ l=>l):=by
 refine aT.of Tryz.func91 rfl Tryz.ntmps91 rfl fun c=>?_
 refine sqR<|aF (aJ.box (cs:=[v0,v1]) rfl rfl) rfl fun b1=>qkAsg rfl<|dtN<|aH<|aH<|midU (fun a3=>kA U p0 p1 a3=some r) (fun a3 b4=>[(1,vI (p1)),(2,vP b1),(18,vB (a3))]) (fun a3 b4=>[bT b1 [v0,v1] 29]) ?_ ?_
 ·refine aK<|qkLdA 0 rfl<|bnE h fun r9 w10 h=>aF (aJ.callQ HO (tV U v0 v1 z2 r9 w10) rfl (nY [0,1] rfl)) rfl fun x11=>aB (wO rfl) rfl<|qkMove rfl ?_
  refine BY (by exact rfl) (by exact rfl) (fun hp12=>?_) (fun hp12=>?_)
  ·have h:=SE hp12 h
   refine gdSkip rfl<|gdSkip rfl<|qkPkT rfl<|qkMove rfl<|gdSkip rfl<|gdSkip rfl<|gdSkip rfl<|gdSkip rfl<|gdSkip rfl<|qkPkT rfl<|dtN ?_
   exact iG (true) () h SF rfl
  have h:=Ov hp12 h
  refine gyMove rfl<|aS rfl (Bg rfl rfl) rfl<|qkPkF rfl<|qkMove rfl ?_
  refine Bi h rfl (fun _ h=>?_) fun _ h=>?_
  ·refine gdSkip rfl<|gdSkip rfl<|gdSkip rfl<|gdSkip rfl<|gdSkip rfl<|qkPkT rfl<|dtN ?_
   exact iG (true) () h SF rfl
  refine gyMove rfl<|aS rfl (dZ rfl rfl rfl rfl rfl) rfl<|aS rfl (fK 0 rfl rfl rfl rfl rfl) rfl<|aS rfl (lN rfl (aC.fact 1 rfl) rfl) rfl<|aS rfl (Bf rfl rfl) rfl<|qkPkF rfl<|dtN ?_
  exact iG (decide ((List.length p0.2:Int)<=p1)) () h SF rfl
 intro a3 b4 h
 refine Ab h rfl (fun _ h=>?_) fun _ h=>?_
 ·refine sqR<|qkAsg rfl<|dtN<|aP<|aG<|jC (gR bV) ?_
  cases h
  exact gV (kX) rfl rfl (RV.tmp rfl) (aW.ix [0] rfl rfl) aD.nil
 refine cF<|sqR<|qkLdA 0 rfl<|qkMove rfl<|bnE h fun r6 w7 h=>aF (aJ.callQ Tu (FX U v0 v1 z2 r6 w7) rfl (nY [0,1] rfl)) rfl fun x8=>qkAsg rfl<|dtN<|aP ?_
 cases h
 exact gV (x8) rfl rfl (RV.tmp rfl) (aW.ix [0] rfl rfl) aD.nil
end
section
def jO  (a8:aL):Option aL:=
 some (a8)
def fC (a13:oU) (ag12:uT->Option aL) (a18:aL):Option aL:=
 ag12 ((wI .i64 (a13.1+(1:Int))),a18)
def fD (a28:oU) (ag27:uT->Option aL) (a33:aL):Option aL:=
 ag27 ((wI .i64 (a28.1+(1:Int))),a33)
def fE (r22:aL) (a28:oU) (ag27:uT->Option aL) (a37:Bool):Option aL:=
 if a37=true then(ck (0<=a28.1∧a28.1<(List.length a28.2:Int)) (fD a28 ag27 (List.set a28.2 (Int.toNat a28.1) (at' r22 a28.1))))else(fD a28 ag27 (a28.2))
def cL (a13:oU) (ag12:uT->Option aL) (r22:aL) (a28:oU) (ag27:uT->Option aL):Option aL:=
 if a28.1<(List.length r22:Int)then(ck (0<=a28.1∧a28.1<(List.length r22:Int)) (if(0:Int)<=(at' r22 a28.1)then(ck (0<=a28.1∧a28.1<(List.length a28.2:Int)) (if(at' a28.2 a28.1)<(0:Int)then(fE r22 a28 ag27 (true))else(ck (0<=a28.1∧a28.1<(List.length a28.2:Int)) (fE r22 a28 ag27 (decide ((at' r22 a28.1)<(at' a28.2 a28.1)))))))else(fE r22 a28 ag27 (false))))else(fC a13 ag12 (a28.2))
def bZ (U:Nat) (p0:dN) (p1:Int) (a13:oU) (ag12:uT->Option aL):Option aL:=
 if a13.1<(List.length p0.1:Int)then(ck (0<=a13.1) (if(cH .u32 (mH .u32 p1 a13.1) (1:Int))=(0:Int)then(fC a13 ag12 (a13.2))else(Option.bind (lK U ((p0.1,p0.2)) a13.1) fun r22=>(bD (cL a13 ag12 r22) U ((0:Int),a13.2)))))else(jO  (a13.2))
def jN (U:Nat) (p0:dN) (p1:Int) (a5:aL):Option aL:=
 bD (bZ U p0 p1) U ((0:Int),a5)
def gM (U:Nat) (p0:dN) (p1:Int) (a48:oU) (ag47:uT->Option aL):Option aL:=
 if a48.1<(List.length (List.replicate (Int.toNat (List.length p0.1:Int)) (0:Int)):Int)then(ck (0<=a48.1∧a48.1<(List.length a48.2:Int)) (ag47 ((wI .i64 (a48.1+(1:Int))),(List.set a48.2 (Int.toNat a48.1) (-1:Int)))))else(jN U p0 p1 (a48.2))
def eL (U:Nat) (p0:dN) (p1:Int):Option aL:=
 ck (0<=(List.length p0.1:Int)∧(List.length p0.1:Int)<=1099511627) (bD (gM U p0 p1) U ((0:Int),(List.replicate (Int.toNat (List.length p0.1:Int)) (0:Int))))
theorem P_:aN Tryz.prog 49:=Tryz.call49
theorem sU (U:Nat) {p0:dN} {p1:Int} (v0:Value)  (v1:Value)  (z2:mT) (r:aL) (h:eL U p0 p1=some r):
  aT Tryz.prog 49 #[Value.agg #[v0,v1],vU (p1)] [Sl bK v0 p0.1,S2 aZ v1 z2 p0.2] (fun x:Value=>x) (fun x l=>Ar bV x r::l) (fun _ l=>l):=by
 refine aT.of Tryz.func49 rfl Tryz.ntmps49 rfl fun c=>?_
 refine sqR<|aF (aJ.box (cs:=[v0,v1]) rfl rfl) rfl fun b1=>qkAsg rfl<|dtN<|sqR<|qkFld rfl<|qkLd 0 rfl<|qkLen (aC.fact 0 rfl) rfl<|ckE h fun j2 h=>aF (oG (e:=bV) (0:Int) rfl rfl rfl rfl j2 rfl rfl rfl) rfl fun u3=>qkAsg rfl<|dtN<|aH<|midU (fun a5=>jN U p0 p1 a5=some r) (fun a5 b6=>[(1,vU (p1)),(2,vP b1),(5,u3)]) (fun a5 b6=>[Ar bV u3 a5,bT b1 [v0,v1] 29]) ?_ ?_
 ·refine sqR<|qkMove rfl<|aB (jF rfl (aV (aC.res 0 rfl) cW) rfl) rfl<|qkMove rfl<|dtN<|aM<|loopL (gM U p0 p1) (fun a48 b49=>[(1,vU (p1)),(2,vP b1),(5,u3),(15,vI (List.length (List.replicate (Int.toNat (List.length p0.1:Int)) (0:Int)):Int)),(16,vI (a48.1))]) (fun a48 b49=>[Ar bV u3 a48.2,bT b1 [v0,v1] 29]) ((0:Int),(List.replicate (Int.toNat (List.length p0.1:Int)) (0:Int))) () h SF (aW.refl _) ?_
  intro k50 a48 b49 h
  refine sqR<|qkLss rfl<|dtN<|aH ?_
  refine eN h rfl (fun h=>?_) fun h=>?_
  ·refine cF<|aH<|aM<|sqR<|qkMove rfl<|qkAsg rfl<|dtN<|aK<|qkMove rfl<|qkMove rfl<|ckE h fun j52 h=>aB (aY rfl rfl (aV (aC.res 0 rfl) cW) rfl rfl j52) rfl<|vK 0 (-1:Int) j52 rfl rfl rfl rfl rfl rfl rfl<|dA<|inT<|aK<|qkAdd rfl<|qkMove rfl<|dtN ?_
   exact xO ((wI .i64 (a48.1+(1:Int))),(List.set a48.2 (Int.toNat a48.1) (-1:Int))) () h SF rfl
  refine fL ?_
  exact iG (a48.2) () h SF rfl
 intro a5 b6 h
 unfold jN at h
 refine aH<|midU (fun a8=>jO  a8=some r) (fun a8 b9=>[(5,u3)]) (fun a8 b9=>[Ar bV u3 a8]) ?_ ?_
 ·refine sqR<|qkFld rfl<|qkLd 1 rfl<|qkLen (aC.fact 0 rfl) rfl<|qkMove rfl<|dtN<|aM<|loopL (bZ U p0 p1) (fun a13 b14=>[(1,vU (p1)),(2,vP b1),(5,u3),(25,vI (List.length p0.1:Int)),(26,vI (a13.1))]) (fun a13 b14=>[Ar bV u3 a13.2,bT b1 [v0,v1] 29]) ((0:Int),a5) () h SF (aW.refl _) ?_
  intro k15 a13 b14 h
  refine sqR<|qkLss rfl<|dtN<|aH ?_
  refine eN h rfl (fun h=>?_) fun h=>?_
  ·refine cF<|aH<|midU (fun a18=>fC a13 (bD (bZ U p0 p1) k15) a18=some r) (fun a18 b19=>[(1,vU (p1)),(2,vP b1),(5,u3),(25,vI (List.length p0.1:Int)),(26,vI (a13.1))]) (fun a18 b19=>[Ar bV u3 a18,bT b1 [v0,v1] 29]) ?_ ?_
   ·refine aM<|sqR<|qkMove rfl<|qkAsg rfl<|dtN<|aH<|sqR<|qkMove rfl<|qkMove rfl<|ckE h fun j20 h=>aB (DG rfl rfl j20) rfl<|qkAnd rfl<|qkEql rfl<|dtN ?_
    refine eN h rfl (fun h=>?_) fun h=>?_
    ·refine rE<|eS<|vJ<|uU ?_
     exact iG (a13.2) () h SF rfl
    refine cF<|sqR<|qkLdA 1 rfl<|qkMove rfl<|bnE h fun r22 w23 h=>aF (aJ.callQ V_ (CN U v0 v1 z2 r22 w23) rfl (nY [0,1] rfl)) rfl fun x24=>aB (jF rfl (aV (aC.res 0 rfl) cW) rfl) rfl<|qkMove rfl<|dtN<|aM<|loopL (cL a13 (bD (bZ U p0 p1) k15) r22) (fun a28 b29=>[(1,vU (p1)),(2,vP b1),(5,u3),(25,vI (List.length p0.1:Int)),(26,vI (a13.1)),(36,x24),(37,vI (List.length r22:Int)),(38,vI (a28.1))]) (fun a28 b29=>[Ar bV x24 r22,Ar bV u3 a28.2,bT b1 [v0,v1] 29]) ((0:Int),a13.2) () h SF (aW.refl _) ?_
    intro k30 a28 b29 h
    refine sqR<|qkLss rfl<|dtN<|aH ?_
    refine eN h rfl (fun h=>?_) fun h=>?_
    ·refine cF<|aH<|midU (fun a33=>fD a28 (bD (cL a13 (bD (bZ U p0 p1) k15) r22) k30) a33=some r) (fun a33 b34=>[(1,vU (p1)),(2,vP b1),(5,u3),(25,vI (List.length p0.1:Int)),(26,vI (a13.1)),(36,x24),(37,vI (List.length r22:Int)),(38,vI (a28.1))]) (fun a33 b34=>[Ar bV x24 r22,Ar bV u3 a33,bT b1 [v0,v1] 29]) ?_ ?_
     ·refine aM<|sqR<|qkMove rfl<|ckE h fun j35 h=>aB (aY rfl rfl (aV (aC.res 0 rfl) cW) rfl rfl j35) rfl<|aB (bY rfl (aV (aC.res 0 rfl) cW) rfl rfl rfl eI j35) rfl<|qkAsg rfl<|qkAsg rfl<|dtN<|aH<|midU (fun a37=>fE r22 a28 (bD (cL a13 (bD (bZ U p0 p1) k15) r22) k30) a37=some r) (fun a37 b38=>[(1,vU (p1)),(2,vP b1),(5,u3),(8,vI (a28.1)),(9,vI (at' r22 a28.1)),(25,vI (List.length p0.1:Int)),(26,vI (a13.1)),(36,x24),(37,vI (List.length r22:Int)),(38,vI (a28.1)),(59,vB (a37))]) (fun a37 b38=>[Ar bV x24 r22,Ar bV u3 a28.2,bT b1 [v0,v1] 29]) ?_ ?_
      ·refine aK<|qkMove rfl<|aB (Bf rfl rfl) rfl<|qkMove rfl ?_
       refine Bi h rfl (fun _ h=>?_) fun _ h=>?_
       ·refine gyMove rfl<|gyMove rfl<|ckE h fun j42 h=>aS rfl (aY rfl rfl (aV (aC.res 1 rfl) cW) rfl rfl j42) rfl<|aS rfl (bY rfl (aV (aC.res 1 rfl) cW) rfl rfl rfl eI j42) rfl<|aS rfl (Bg rfl rfl) rfl<|gyMove rfl ?_
        refine Bi h rfl (fun _ h=>?_) fun _ h=>?_
        ·refine gdSkip rfl<|gdSkip rfl<|gdSkip rfl<|gdSkip rfl<|gdSkip rfl<|gdSkip rfl<|aS rfl (Ml rfl rfl) rfl<|qkPkT rfl<|dtN ?_
         exact iG (true) () h SF rfl
        refine gyMove rfl<|gyMove rfl<|gyMove rfl<|ckE h fun j44 h=>aS rfl (aY rfl rfl (aV (aC.res 1 rfl) cW) rfl rfl j44) rfl<|aS rfl (bY rfl (aV (aC.res 1 rfl) cW) rfl rfl rfl eI j44) rfl<|aS rfl (Bg rfl rfl) rfl<|aS rfl (Mk rfl rfl) rfl<|qkPkT rfl<|dtN ?_
        exact iG (decide ((at' r22 a28.1)<(at' a28.2 a28.1))) () h SF rfl
       refine gdSkip rfl<|gdSkip rfl<|gdSkip rfl<|gdSkip rfl<|gdSkip rfl<|gdSkip rfl<|NM (h:= ?_)
       refine NM (h:= ?_)
       refine NM (h:= ?_)
       refine NM (h:= ?_)
       refine NM (h:= ?_)
       refine NM (h:= ?_)
       refine gdSkip rfl<|qkPkF rfl<|dtN ?_
       exact iG (false) () h SF rfl
      intro a37 b38 h
      refine Ab h rfl (fun _ h=>?_) fun _ h=>?_
      ·refine aK<|qkMove rfl<|qkMove rfl<|qkMove rfl<|ckE h fun j40 h=>aB (aY rfl rfl (aV (aC.res 1 rfl) cW) rfl rfl j40) rfl<|vK 1 (at' r22 a28.1) j40 rfl rfl rfl rfl rfl rfl rfl<|dA<|inT ?_
       exact iG (List.set a28.2 (Int.toNat a28.1) (at' r22 a28.1)) () h SF rfl
      refine dO<|inT ?_
      exact iG (a28.2) () h SF rfl
     intro a33 b34 h
     unfold fD at h
     refine aK<|qkAdd rfl<|qkMove rfl<|dtN ?_
     exact xO ((wI .i64 (a28.1+(1:Int))),a33) () h SF rfl
    refine rE<|eS<|eS<|vJ<|inT ?_
    exact cG (a28.2) () h SF (aW.ix [1,2] rfl rfl) (aD.refl _ _)
   intro a18 b19 h
   unfold fC at h
   refine aK<|qkAdd rfl<|qkMove rfl<|dtN ?_
   exact xO ((wI .i64 (a13.1+(1:Int))),a18) () h SF rfl
  refine fL ?_
  exact cG (a13.2) () h SF (aW.ix [0] rfl rfl) (aD.refl _ _)
 intro a8 b9 h
 unfold jO at h
 refine sqR<|qkMove rfl<|qkAsg rfl<|dtN<|aP ?_
 cases h
 exact gV (u3) rfl rfl (RV.tmp rfl) (aW.refl _) aD.nil
end
section
def kS  (a7:Int):Option (Int):=
 some (a7)
def iC (a15:dM) (ag14:c_->Option (Int)) (a20:Int):Option (Int):=
 ag14 (a20,(wI .i64 (a15.2+(1:Int))))
def kT (a15:dM) (ag14:c_->Option (Int)) (a24:Bool):Option (Int):=
 if a24=true then(ck (0<=a15.2) (iC a15 ag14 (CU .u32 a15.1 (vN .u32 (1:Int) a15.2))))else(iC a15 ag14 (a15.1))
def fN (p2:Int) (r9:aL) (a15:dM) (ag14:c_->Option (Int)):Option (Int):=
 if a15.2<(List.length r9:Int)then(ck (0<=a15.2∧a15.2<(List.length r9:Int)) (if(0:Int)<=(at' r9 a15.2)then(kT a15 ag14 (decide ((at' r9 a15.2)<=p2)))else(kT a15 ag14 (false))))else(kS  (a15.1))
def kR (U:Nat) (p0:dN) (p1:Int) (p2:Int) (a3:Bool):Option (Int):=
 if a3=true then(some (0:Int))else(Option.bind (eL U ((p0.1,p0.2)) p1) fun r9=>(bD (fN p2 r9) U ((0:Int),(0:Int))))
def i_ (U:Nat) (p0:dN) (p1:Int) (p2:Int):Option (Int):=
 Option.bind (e_ U ((p0.1,p0.2))) fun r29=>(if(!r29)=true then(kR U p0 p1 p2 (true))else(kR U p0 p1 p2 (decide (p2<(0:Int)))))
theorem VR:aN Tryz.prog 25:=Tryz.call25
theorem Au (U:Nat) {p0:dN} {p1:Int} {p2:Int} (v0:Value)  (v1:Value)  (z2:mT) (r:Int) (h:i_ U p0 p1 p2=some r):
  aT Tryz.prog 25 #[Value.agg #[v0,v1],vU (p1),vI (p2)] [Sl bK v0 p0.1,S2 aZ v1 z2 p0.2] (fun x:Unit=>vU (r)) (fun x l=>l) (fun _ l=>l):=by
 refine aT.of Tryz.func25 rfl Tryz.ntmps25 rfl fun c=>?_
 refine sqR<|aF (aJ.box (cs:=[v0,v1]) rfl rfl) rfl fun b1=>qkAsg rfl<|dtN<|aH<|aH<|midU (fun a3=>kR U p0 p1 p2 a3=some r) (fun a3 b4=>[(1,vU (p1)),(2,vI (p2)),(3,vP b1),(16,vB (a3))]) (fun a3 b4=>[bT b1 [v0,v1] 29]) ?_ ?_
 ·refine aK<|qkLdA 0 rfl<|bnE h fun r29 w30 h=>aF (aJ.callQ HO (tV U v0 v1 z2 r29 w30) rfl (nY [0,1] rfl)) rfl fun x31=>aB (wO rfl) rfl<|qkMove rfl ?_
  refine BY (by exact rfl) (by exact rfl) (fun hp32=>?_) (fun hp32=>?_)
  ·have h:=SE hp32 h
   refine gdSkip rfl<|gdSkip rfl<|qkPkT rfl<|dtN ?_
   exact iG (true) () h SF rfl
  have h:=Ov hp32 h
  refine gyMove rfl<|aS rfl (Bg rfl rfl) rfl<|qkPkF rfl<|dtN ?_
  exact iG (decide (p2<(0:Int))) () h SF rfl
 intro a3 b4 h
 refine Ab h rfl (fun _ h=>?_) fun _ h=>?_
 ·refine sqR<|qkAsg rfl<|dtN<|aP<|aG ?_
  cases h
  exact wG rfl
 refine cF<|sqR<|qkAsg rfl<|dtN<|aH<|midU (fun a7=>kS  a7=some r) (fun a7 b8=>[(7,vU (a7))]) (fun a7 b8=>[]) ?_ ?_
 ·refine sqR<|qkLdA 0 rfl<|qkMove rfl<|bnE h fun r9 w10 h=>aF (aJ.callQ P_ (sU U v0 v1 z2 r9 w10) rfl (nY [0,1] rfl)) rfl fun x11=>aB (jF rfl (aV (aC.res 0 rfl) cW) rfl) rfl<|qkMove rfl<|dtN<|aM<|loopL (fN p2 r9) (fun a15 b16=>[(2,vI (p2)),(7,vU (a15.1)),(19,x11),(20,vI (List.length r9:Int)),(21,vI (a15.2))]) (fun a15 b16=>[Ar bV x11 r9]) ((0:Int),(0:Int)) () h SF (aW.ix [0] rfl rfl) ?_
  intro k17 a15 b16 h
  refine sqR<|qkLss rfl<|dtN<|aH ?_
  refine eN h rfl (fun h=>?_) fun h=>?_
  ·refine cF<|aH<|midU (fun a20=>iC a15 (bD (fN p2 r9) k17) a20=some r) (fun a20 b21=>[(2,vI (p2)),(7,vU (a20)),(19,x11),(20,vI (List.length r9:Int)),(21,vI (a15.2))]) (fun a20 b21=>[Ar bV x11 r9]) ?_ ?_
   ·refine aM<|sqR<|qkMove rfl<|ckE h fun j22 h=>aB (aY rfl rfl (aV (aC.res 0 rfl) cW) rfl rfl j22) rfl<|aB (bY rfl (aV (aC.res 0 rfl) cW) rfl rfl rfl eI j22) rfl<|qkAsg rfl<|qkAsg rfl<|dtN<|aH<|midU (fun a24=>kT a15 (bD (fN p2 r9) k17) a24=some r) (fun a24 b25=>[(2,vI (p2)),(7,vU (a15.1)),(8,vI (a15.2)),(19,x11),(20,vI (List.length r9:Int)),(21,vI (a15.2)),(32,vB (a24))]) (fun a24 b25=>[Ar bV x11 r9]) ?_ ?_
    ·refine aK<|qkMove rfl<|aB (Bf rfl rfl) rfl<|qkMove rfl ?_
     refine Bi h rfl (fun _ h=>?_) fun _ h=>?_
     ·refine gyMove rfl<|gyMove rfl<|aS rfl (wN rfl rfl) rfl<|qkPkT rfl<|dtN ?_
      exact iG (decide ((at' r9 a15.2)<=p2)) () h SF rfl
     refine gdSkip rfl<|gdSkip rfl<|gdSkip rfl<|qkPkF rfl<|dtN ?_
     exact iG (false) () h SF rfl
    intro a24 b25 h
    refine Ab h rfl (fun _ h=>?_) fun _ h=>?_
    ·refine aK<|qkMove rfl<|qkMove rfl<|ckE h fun j27 h=>aB (EV rfl rfl j27) rfl<|aB (Lb rfl rfl) rfl<|qkAsg rfl<|dA<|inT ?_
     exact iG (CU .u32 a15.1 (vN .u32 (1:Int) a15.2)) () h SF rfl
    refine dO<|inT ?_
    exact iG (a15.1) () h SF rfl
   intro a20 b21 h
   unfold iC at h
   refine aK<|qkAdd rfl<|qkMove rfl<|dtN ?_
   exact xO (a20,(wI .i64 (a15.2+(1:Int)))) () h SF rfl
  refine fL ?_
  exact cG (a15.1) () h SF .nil (aD.refl _ _)
 intro a7 b8 h
 unfold kS at h
 refine sqR<|qkMove rfl<|qkAsg rfl<|dtN<|aP ?_
 cases h
 exact kW rfl
end
section
def Gr  (a2:Unit):Option (Int):=
 some (-1:Int)
def xG (p0:dN) (p1:Int) (p2:Int) (a6:Int) (ag5:(Int)->Option (Int)):Option (Int):=
 ck (0<=p1∧p1<(List.length p0.2:Int)) (if a6<(List.length (at' p0.2 p1):Int)then(ck (0<=p1∧p1<(List.length p0.2:Int)) (ck (0<=a6∧a6<(List.length (at' p0.2 p1):Int)) (if((at' (at' p0.2 p1) a6).1)=p2 then(some (a6))else(ag5 (wI .i64 (a6+(1:Int)))))))else(Gr  (())))
def Ct (fuel:Nat) (p0:dN) (p1:Int) (p2:Int):Option (Int):=
 bD (xG p0 p1 p2) fuel (0:Int)
end
section
def uJ  (a2:Unit):Option (Int):=
 some (-1:Int)
def qQ (p0:dN) (p1:Int) (p2:Int) (a7:Int) (ag6:(Int)->Option (Int)):Option (Int):=
 if a7<(List.length (at' p0.2 p1):Int)then(ck (0<=a7∧a7<(List.length (at' p0.2 p1):Int)) (if((at' (at' p0.2 p1) a7).1)=p2 then(some (a7))else(ag6 (wI .i64 (a7+(1:Int))))))else(uJ  (()))
def oP (U:Nat) (p0:dN) (p1:Int) (p2:Int):Option (Int):=
 ck (0<=p1∧p1<(List.length p0.2:Int)) (bD (qQ p0 p1 p2) U (0:Int))
theorem VW:aN Tryz.prog 67:=Tryz.call67
theorem FW (U:Nat) {p0:dN} {p1:Int} {p2:Int} (v0:Value)  (v1:Value)  (z2:mT) (r:Int) (h:oP U p0 p1 p2=some r):
  aT Tryz.prog 67 #[Value.agg #[v0,v1],vI (p1),vI (p2)] [Sl bK v0 p0.1,S2 aZ v1 z2 p0.2] (fun x:Unit=>vI (r)) (fun x l=>l) (fun _ l=>l):=by
 refine aT.of Tryz.func67 rfl Tryz.ntmps67 rfl fun c=>?_
 refine sqR<|aF (aJ.box (cs:=[v0,v1]) rfl rfl) rfl fun b1=>qkAsg rfl<|dtN<|aH<|midU (fun a2=>uJ  a2=some r) (fun a2 b3=>[]) (fun a2 b3=>[]) ?_ ?_
 ·refine sqR<|qkFld rfl<|qkLd 0 rfl<|qkMove rfl<|ckE h fun j4 h=>aB (dL rfl rfl (aC.fact 1 rfl) rfl rfl j4) rfl<|aB (dW rfl (aC.fact 1 rfl) rfl rfl j4) rfl<|aB (jF rfl (aC.el (aC.fact 1 rfl) j4.1 j4.2) rfl) rfl<|qkMove rfl<|dtN<|aM<|loopL (qQ p0 p1 p2) (fun a7 b8=>[(2,vI (p2)),(13,(at' z2 p1).1),(14,vI (List.length (at' p0.2 p1):Int)),(15,vI (a7))]) (fun a7 b8=>[]) (0:Int) () h SF .nil ?_
  intro k9 a7 b8 h
  refine sqR<|qkLss rfl<|dtN<|aH ?_
  refine eN h rfl (fun h=>?_) fun h=>?_
  ·refine cF<|aH<|aM<|sqR<|qkMove rfl<|ckE h fun j11 h=>aB (aY rfl rfl (aC.el (aC.fact 1 rfl) j4.1 j4.2) rfl rfl j11) rfl<|aB (iJ (cs:=[vI ((at' (at' p0.2 p1) a7).1),vI ((at' (at' p0.2 p1) a7).2)]) rfl (aC.el (aC.fact 1 rfl) j4.1 j4.2) bI rfl rfl rfl rfl j11) rfl<|aF (aJ.alloc (cs:=Sp) rfl rfl) rfl fun b12=>qkAsg rfl<|bB 0 (vs:=[vI ((at' (at' p0.2 p1) a7).1),vI ((at' (at' p0.2 p1) a7).2)]) rfl rfl rfl rfl rfl rfl<|dtN<|sqR<|qkFld rfl<|qkLd 0 rfl<|qkMove rfl<|qkEql rfl<|dtN ?_
   refine eN h rfl (fun h=>?_) fun h=>?_
   ·refine sqR<|qkMove rfl<|qkAsg rfl<|dtN<|aP<|bJ<|aG<|aG<|bJ<|aG ?_
    cases h
    exact wG rfl
   refine dO<|inT<|aK<|qkAdd rfl<|qkMove rfl<|dtN ?_
   exact mA (wI .i64 (a7+(1:Int))) () h SF .nil (aD.refl _ _)
  refine fL ?_
  exact iG () (()) h SF rfl
 intro a2 b3 h
 unfold uJ at h
 refine sqR<|qkAsg rfl<|dtN<|aP ?_
 cases h
 exact kW rfl
end
end Go.Proofs.YtjlbcgddhnjcjaaGreatDoor
end
section
section
namespace Go.Proofs.YtjlbcgddhnjcjaaGreatDoor
open Go.Sx
section
theorem YJ {R:Type} {step:Int->(Int->Option R)->Option R} {K:Option R} {bad:R} (N:Nat) (p:Nat->Prop)
  (hok:∀(k:Nat) ag,k<N->p k->step k ag=ag ((k:Int)+1)) (hbad:∀(k:Nat) ag,k<N->¬p k->step k ag=some bad) (hend:∀ag,step N ag=K):
  ∀(fuel:Nat),N<fuel->((∀k,k<N->p k)->bD step fuel 0=K)∧(¬(∀k,k<N->p k)->bD step fuel 0=some bad):=by
 intro fuel hf
 have key:∀(d a fuel:Nat),a+d=N->d<fuel->((∀k,a<=k->k<N->p k)->bD step fuel (a:Int)=K)∧(¬(∀k,a<=k->k<N->p k)->bD step fuel (a:Int)=some bad):=by
  intro d
  induction d with
  |zero=>
   intro a fuel ha hf
   obtain rfl:a=N:=by omega
   cases fuel with
   |zero=>omega
   |succ f=>exact⟨fun _=>hend _,fun h=>absurd (fun k h1 h2=>by omega) h⟩
  | succ d ih =>
   intro a fuel ha hf
   cases fuel with
   |zero=>omega
   | succ f =>
    obtain⟨i1,i2⟩:=ih (a+1) f (by omega) (by omega)
    have e:((a+1:Nat):Int)=(a:Int)+1:=by omega
    rw[e]at i1 i2
    by_cases hp:p a
    ·have hs:bD step (f+1) (a:Int)=bD step f ((a:Int)+1):=hok a _ (by omega) hp
     rw[hs]
     refine⟨fun h=>i1 fun k h1 h2=>h k (by omega) h2,fun h=>i2 fun h'=>h fun k h1 h2=> ?_⟩
     by_cases hk:k=a
     ·subst hk;exact hp
     ·exact h' k (by omega) h2
    ·exact⟨fun h=>absurd (h a (Nat.le_refl _) (by omega)) hp,fun _=>hbad a _ (by omega) hp⟩
 obtain⟨h1,h2⟩:=key N 0 fuel (by omega) hf
 exact⟨fun h=>h1 fun k _ hk=>h k hk,fun h=>h2 fun h'=>h fun k hk=>h' k (by omega) hk⟩
abbrev GR:=List Int×dQ
abbrev row (g:GR) (v:Nat):eM:=at' g.2 (v:Int)
abbrev Uo (g:GR) (v:Nat):Int:=at' g.1 (v:Int)
abbrev iH (l:eM) (i:Nat):dM:=at' l (i:Int)
def light (g:GR):Prop:=g.1.length<=30∧g.2.length<=30∧∀v,v<g.2.length->(row g v).length<=30
def EO (l:eM) (v n i:Nat):Prop:=(0<=(iH l i).1∧(iH l i).1<=(n:Int) - 1)∧(iH l i).1≠v∧(1<=(iH l i).2∧(iH l i).2<=15)∧∀k,k<i->(iH l k).1≠(iH l i).1
def qL (l:eM) (v n:Nat):Prop:=∀i,i<l.length->EO l v n i
def xF (l:eM) (u:Int):Int:=match l.findIdx? (fun x=>decide (x.1=u))with
 |some i=>i
 |none=> -1
theorem JS {l:eM} {u:Int} (i:Nat) (hi:i<l.length) (hu:(iH l i).1=u) (hf:∀k,k<i->(iH l k).1≠u):xF l u=i:=by
 have:l.findIdx? (fun x=>decide (x.1=u))=some i:=by
  rw[List.findIdx?_eq_some_iff_getElem]
  have e:∀k (hk:k<l.length),iH l k=l[k]:=fun k hk=>by rw[iH,iR,List.getD_eq_getElem?_getD,List.getElem?_eq_getElem hk];rfl
  refine⟨hi,by rw[<-e i hi];simpa using hu,fun k hk=> ?_⟩
  have:=hf k hk
  rw[e k (by omega)]at this
  simpa using this
 rw[xF,this]
theorem JQ {l:eM} {u:Int} (hf:∀k,k<l.length->(iH l k).1≠u):xF l u = -1:=by
 have:l.findIdx? (fun x=>decide (x.1=u))=none:=by
  rw[List.findIdx?_eq_none_iff]
  intro x hx
  obtain⟨k,hk,rfl⟩:=List.getElem_of_mem hx
  have:=hf k hk
  rw[iH,iR,List.getD_eq_getElem?_getD,List.getElem?_eq_getElem hk]at this
  simpa using this
 rw[xF,this]
theorem Cy (l:eM) (u:Int):(∃i,i<l.length∧(iH l i).1=u∧(∀k,k<i->(iH l k).1≠u)∧xF l u=i)∨((∀k,k<l.length->(iH l k).1≠u)∧xF l u = -1):=by
 by_cases h:∀k,k<l.length->(iH l k).1≠u
 ·exact .inr ⟨h,JQ h⟩
 ·left
  have hex:∃k,k<l.length∧(iH l k).1=u:=by
   apply Classical.byContradiction
   intro hc
   exact h fun k hk he=>hc ⟨k,hk,he⟩
  obtain⟨k,hk,hku⟩:=hex
  have:∀m,(∃k,k<=m∧k<l.length∧(iH l k).1=u)->∃i,i<l.length∧(iH l i).1=u∧∀k,k<i->(iH l k).1≠u:=by
   intro m
   induction m with
   |zero=>rintro⟨k,h1,h2,h3⟩;exact⟨k,h2,h3,fun j hj=>by omega⟩
   |succ m ih=>
    rintro⟨k,h1,h2,h3⟩
    by_cases hlt:∃j,j<=m∧j<l.length∧(iH l j).1=u
    ·exact ih hlt
    ·exact⟨k,h2,h3,fun j hj he=>hlt ⟨j,by omega,by omega,he⟩⟩
  obtain⟨i,h1,h2,h3⟩:=this k ⟨k,Nat.le_refl _,hk,hku⟩
  exact⟨i,h1,h2,h3,JS i h1 h2 h3⟩
theorem WQ (g:GR) (v:Nat) (u:Int) (hv:v<g.2.length) (hl:(row g v).length<=30):Ct 1000 g v u=some (xF (row g v) u):=by
 unfold Ct
 rcases Cy (row g v) u with⟨i,hi,hu,hf,he⟩|⟨hf,he⟩
 ·rw[he]
  refine Cq (fun x:Int=>∃k:Nat,x=k∧k<=i) (fun x=>31 - x.toNat) ?_ 1000 _ ⟨0,rfl,by omega⟩ (by omega)
  rintro x ag ⟨k,rfl,hk⟩ hag
  unfold xG
  rw[cN (by omega),if_pos (show(k:Int)<((row g v).length:Int) by omega),cN (by omega),cN (show 0<=(k:Int)∧(k:Int)<((row g v).length:Int) by omega)]
  by_cases e:k=i
  ·subst e;exact if_pos hu
  ·rw[if_neg (hf k (by omega)),wr (by omega) (by omega)]
   exact hag _ ⟨k+1,by omega,by omega⟩ (by omega)
 ·rw[he]
  refine Cq (fun x:Int=>∃k:Nat,x=k∧k<=(row g v).length) (fun x=>31 - x.toNat) ?_ 1000 _ ⟨0,rfl,by omega⟩ (by omega)
  rintro x ag ⟨k,rfl,hk⟩ hag
  unfold xG
  rw[cN (by omega)]
  by_cases e:k<(row g v).length
  ·rw[if_pos (show(k:Int)<((row g v).length:Int) by omega),cN (by omega),cN (show 0<=(k:Int)∧(k:Int)<((row g v).length:Int) by omega),if_neg (hf k e),wr (by omega) (by omega)]
   exact hag _ ⟨k+1,by omega,by omega⟩ (by omega)
  ·rw[if_neg (show¬(k:Int)<((row g v).length:Int) by omega)];rfl
end
section
theorem Cr {X R:Type} {step:X->(X->Option R)->Option R} {K:X->Option R} {bad:R} (N:Nat) (p:Nat->Prop) (I:Nat->X->Prop)
  (hok:∀(k:Nat) x ag,k<N->I k x->p k->∃x',I (k+1) x'∧step x ag=ag x') (hbad:∀(k:Nat) x ag,k<N->I k x->¬p k->step x ag=some bad) (hend:∀x ag,I N x->step x ag=K x):
  ∀(fuel:Nat) (x:X),I 0 x->N<fuel->((∀k,k<N->p k)->∃x',I N x'∧bD step fuel x=K x')∧(¬(∀k,k<N->p k)->bD step fuel x=some bad):=by
 intro fuel x hI hf
 have key:∀(d a fuel:Nat) (x:X),a+d=N->d<fuel->I a x->((∀k,a<=k->k<N->p k)->∃x',I N x'∧bD step fuel x=K x')∧(¬(∀k,a<=k->k<N->p k)->bD step fuel x=some bad):=by
  intro d
  induction d with
  |zero=>
   intro a fuel x ha hf hI
   obtain rfl:a=N:=by omega
   cases fuel with
   |zero=>omega
   |succ f=>exact⟨fun _=>⟨x,hI,hend _ _ hI⟩,fun h=>absurd (fun k h1 h2=>by omega) h⟩
  | succ d ih =>
   intro a fuel x ha hf hI
   cases fuel with
   |zero=>omega
   | succ f =>
    by_cases hp:p a
    ·obtain⟨x',hI',hs⟩:=hok a x (bD step f) (by omega) hI hp
     have hs:bD step (f+1) x=bD step f x':=hs
     obtain⟨i1,i2⟩:=ih (a+1) f x' (by omega) (by omega) hI'
     rw[hs]
     refine⟨fun h=>i1 fun k h1 h2=>h k (by omega) h2,fun h=>i2 fun h'=>h fun k h1 h2=> ?_⟩
     by_cases hk:k=a
     ·subst hk;exact hp
     ·exact h' k (by omega) h2
    ·exact⟨fun h=>absurd (h a (Nat.le_refl _) (by omega)) hp,fun _=>hbad a x _ (by omega) hI hp⟩
 obtain⟨h1,h2⟩:=key N 0 fuel x (by omega) hf hI
 exact⟨fun h=>h1 fun k _ hk=>h k hk,fun h=>h2 fun h'=>h fun k hk=>h' k (by omega) hk⟩
def GI (g:GR) (v i:Nat):Prop:=∃j,j<(at' g.2 (iH (row g v) i).1).length∧(iH (at' g.2 (iH (row g v) i).1) j).1=v∧(iH (at' g.2 (iH (row g v) i).1) j).2=(iH (row g v) i).2
structure Vx (g:GR) (v:Nat):Prop where
 id:0<=Uo g v∧Uo g v<=255
 deg:(row g v).length<g.2.length
 links:qL (row g v) v g.2.length
 ids:∀k,k<v->Uo g k≠Uo g v
structure VG (g:GR):Prop where
 n1:1<=g.2.length
 n24:g.2.length<=24
 len:g.1.length=g.2.length
 node:∀v,v<g.2.length->Vx g v
 sym:∀v,v<g.2.length->∀i,i<(row g v).length->GI g v i
theorem rW {α:Type} [Inhabited α] (l:List α) (i k:Nat) (y:α) (hi:i<l.length):at' (l.set i y) (k:Int)=if k=i then y else at' l (k:Int):=by
 rw[iR,iR,List.getD_eq_getElem?_getD,List.getD_eq_getElem?_getD,List.getElem?_set]
 by_cases h:i=k
 ·rw[if_pos h,if_pos h.symm,if_pos (by omega)];rfl
 ·rw[if_neg h,if_neg (Ne.symm h)]
def Ph (l:aL) (k:Nat):Prop:=(0<=at' l (k:Int)∧at' l (k:Int)<=255)∧∀j,j<k->at' l (j:Int)≠at' l (k:Int)
theorem qM (l:aL) (hl:l.length<=30):((∀k,k<l.length->Ph l k)->gH 1000 l=some true)∧(¬(∀k,k<l.length->Ph l k)->gH 1000 l=some false):=by
 unfold gH
 have key:=Cr (step:=eJ l) (K:=fun _=>some true) (bad:=false) l.length (Ph l) (fun k x=>x.1=(k:Int)∧x.2.length=256∧∀z:Nat,z<256->(at' x.2 (z:Int)=true↔∃j,j<k∧at' l (j:Int)=(z:Int))) ?_ ?_ ?_ 1000 ((0:Int),(List.replicate 256 false)) ⟨rfl,List.length_replicate ..,fun z hz=> ?_⟩ (by omega)
 ·exact⟨fun h=>by obtain⟨x,_,hx⟩:=key.1 h;exact hx,key.2⟩
 ·rintro k ⟨x1,x2⟩ ag hk ⟨hx,hlen,hs⟩ ⟨hr,hd⟩
  dsimp only at hx hlen hs
  subst hx
  obtain⟨z,hz⟩:∃z:Nat,at' l (k:Int)=z:=⟨(at' l (k:Int)).toNat,by omega⟩
  have hz2:z<256:=by omega
  have hno:¬at' x2 (z:Int)=true:=by
   rw[hs z hz2]
   rintro⟨j,hj,he⟩
   exact hd j hj (he.trans hz.symm)
  refine⟨((k:Int)+1,x2.set z true),⟨by simp,by simp[hlen],fun y hy=> ?_⟩,?_⟩
  ·dsimp only
   rw[rW _ _ _ _ (by omega)]
   by_cases hyz:y=z
   ·subst hyz
    rw[if_pos rfl]
    exact⟨fun _=>⟨k,by omega,hz⟩,fun _=>rfl⟩
   ·rw[if_neg hyz,hs y hy]
    constructor
    ·rintro⟨j,hj,he⟩;exact⟨j,by omega,he⟩
    ·rintro⟨j,hj,he⟩
     by_cases hjk:j=k
     ·subst hjk;rw[hz]at he;omega
     ·exact⟨j,by omega,he⟩
  ·unfold eJ fO
   dsimp only
   rw[if_pos (by omega),cN (by omega),hz,if_neg (by omega),if_neg (by omega),cN ⟨by omega,hlen⟩,if_neg hno,cN ⟨by omega,hlen⟩,wr (by omega) (by omega)]
   rfl
 ·rintro k ⟨x1,x2⟩ ag hk ⟨hx,hlen,hs⟩ hp
  dsimp only at hx hlen hs
  subst hx
  unfold eJ fO
  dsimp only
  rw[if_pos (by omega),cN (by omega)]
  by_cases h1:at' l (k:Int)<0
  ·rw[if_pos h1,if_pos rfl]
  rw[if_neg h1]
  by_cases h2:255<at' l (k:Int)
  ·rw[if_pos h2,if_pos rfl]
  rw[if_neg h2]
  obtain⟨z,hz⟩:∃z:Nat,at' l (k:Int)=z:=⟨(at' l (k:Int)).toNat,by omega⟩
  rw[hz,cN ⟨by omega,hlen⟩,if_pos]
  rw[hs z (by omega)]
  apply Classical.byContradiction
  intro hc
  exact hp ⟨by omega,fun j hj he=>hc ⟨j,hj,he.trans hz⟩⟩
 ·rintro⟨x1,x2⟩ ag ⟨hx,_,_⟩
  dsimp only at hx
  subst hx
  unfold eJ kV
  dsimp only
  rw[if_neg (by omega)]
 ·rw[show at' (List.replicate 256 false) (z:Int)=false by rw[iR,List.getD_eq_getElem?_getD,List.getElem?_replicate,if_pos hz];rfl]
  exact⟨fun h=>(by cases h),fun⟨j,hj,_⟩=>(by omega)⟩
theorem OC {κ ν:Type} [DecidableEq κ] (k k':κ) (v:ν):∀l:List (κ×ν),jU k' (yV k v l)=if k'=k then some v else jU k' l
 | []=>by simp only[yV,jU]
 | x :: xs => by
  simp only[yV]
  by_cases h:k=x.1
  ·rw[if_pos h];simp only[jU]
   by_cases h2:k'=k
   ·rw[if_pos h2,if_pos h2]
   ·rw[if_neg h2,if_neg h2,if_neg (fun h3=>h2 (h3.trans h.symm))]
  ·rw[if_neg h];simp only[jU]
   by_cases h2:k'=x.1
   ·rw[if_pos h2,if_neg (fun h3=>h (h3.symm.trans h2)),if_pos h2]
   ·rw[if_neg h2,OC k k' v xs]
    by_cases h3:k'=k
    ·rw[if_pos h3,if_pos h3]
    ·rw[if_neg h3,if_neg h3,if_neg h2]
theorem JF {κ ν:Type} [DecidableEq κ] {k:κ} {v:ν} {z:κ×ν} {l:List (κ×ν)} (h0:jU k l=none):z∈yV k v l↔z=(k,v)∨z∈l:=by
 rw[Do k v l h0]
 simp[or_comm]
theorem Dn {κ ν:Type} [DecidableEq κ] {k:κ}:∀{l:List (κ×ν)},(∀v,(k,v)∉l)->jU k l=none
 | [],_=>rfl
 |x::xs,h=>by
  simp only[jU]
  rw[if_neg (fun e=>h x.2 (by rw[e];exact List.mem_cons_self ..))]
  exact Dn fun v hv=>h v (List.mem_cons_of_mem _ hv)
theorem qB {κ ν:Type} [DecidableEq κ] {k:κ} {v:ν}:∀{l:List (κ×ν)},jU k l=none->(k,v)∉l
 | [],_=>by simp
 | x :: xs, h => by
  simp only[jU]at h
  by_cases e:k=x.1
  ·rw[if_pos e]at h;cases h
  ·rw[if_neg e]at h
   intro hm
   rcases List.mem_cons.1 hm with h2|h2
   ·exact e (by rw[<-h2])
   ·exact qB h h2
theorem xW {κ ν:Type} [DecidableEq κ] {k:κ} {v:ν}:∀{l:List (κ×ν)},jU k l=some v->(k,v)∈l
 |x::xs,h=>by
  simp only[jU]at h
  by_cases e:k=x.1
  ·rw[if_pos e]at h;cases h;rw[e];exact List.mem_cons_self ..
  ·rw[if_neg e]at h;exact List.mem_cons_of_mem _ (xW h)
theorem FJ {κ ν:Type} (p:κ×ν->Prop) [DecidablePred p]:∀l:List (κ×ν),Gp (fun kv x=>if p kv then some false else x) (some true) l=some (decide (∀z∈l,¬p z))
 | []=>by simp[Gp]
 |x::xs=>by
  show(if p x then some false else Gp _ (some true) xs)=_
  rw[FJ p xs]
  by_cases h:p x
  ·rw[if_pos h];congr 1;symm;exact decide_eq_false fun h2=>h2 x (List.mem_cons_self ..) h
  ·rw[if_neg h];congr 1;apply decide_eq_decide.2;simp[h]
def IY (ps:dQ) (v i:Nat) (z:(Int×Int)×Int):Prop:=∃a b:Nat,(a<v∨(a=v∧b<i))∧b<(at' ps (a:Int)).length∧z=(((a:Int),(iH (at' ps (a:Int)) b).1),(iH (at' ps (a:Int)) b).2)
def GJ (ps:dQ):Prop:=(∀v,v<ps.length->qL (at' ps (v:Int)) v ps.length)∧∀v,v<ps.length->∀i,i<(at' ps (v:Int)).length->GI ([],ps) v i
theorem CJ (ps:dQ) (hn:ps.length<=30) (hd:∀v,v<ps.length->(at' ps (v:Int)).length<=30):(GJ ps->eQ 1000 ps=some true)∧(¬GJ ps->eQ 1000 ps=some false):=by
 unfold eQ
 have inner:∀(v:Nat) (m:List ((Int×Int)×Int)) ag,v<ps.length->(∀z,z∈m↔IY ps v 0 z)->
   (qL (at' ps (v:Int)) v ps.length->∃m',(∀z,z∈m'↔IY ps (v+1) 0 z)∧bD (bQ ps ((v:Int),m) ag) 1000 ((0:Int),m)=ag ((v:Int)+1,m'))∧
   (¬qL (at' ps (v:Int)) v ps.length->bD (bQ ps ((v:Int),m) ag) 1000 ((0:Int),m)=some false):=by
  intro v m ag hv hm
  have hdv:=hd v hv
  have key:=Cr (step:=bQ ps ((v:Int),m) ag) (K:=fun x=>ag ((v:Int)+1,x.2)) (bad:=false) (at' ps (v:Int)).length (EO (at' ps (v:Int)) v ps.length) (fun i x=>x.1=(i:Int)∧∀z,z∈x.2↔IY ps v i z) ?_ ?_ ?_ 1000 ((0:Int),m) ⟨rfl,hm⟩ (by omega)
  ·refine⟨fun h=> ?_,fun h=>key.2 h⟩
   obtain⟨x,⟨hx1,hx2⟩,hx⟩:=key.1 h
   refine⟨x.2,fun z=>(hx2 z).trans ⟨?_,?_⟩,hx⟩
   ·rintro⟨a,b,h1,h2,h3⟩;exact⟨a,b,by omega,h2,h3⟩
   ·rintro⟨a,b,h1,h2,h3⟩
    refine⟨a,b,?_,h2,h3⟩
    by_cases ha:a=v
    ·subst ha;exact .inr ⟨rfl,h2⟩
    ·omega
  ·rintro i ⟨x1,x2⟩ ag2 hi ⟨hx,hs⟩ ⟨p1,p2,p3,p4⟩
   dsimp only at hx hs
   subst hx
   have hg:jU (((v:Int),(iH (at' ps (v:Int)) i).1)) x2=none:=by
    apply Dn
    intro w hw
    obtain⟨a,b,h1,h2,h3⟩:=(hs _).1 hw
    simp only[Prod.mk.injEq]at h3
    obtain⟨⟨h4,h5⟩,_⟩:=h3
    have:a=v:=by omega
    subst this
    have hb:b<i:=by omega
    exact p4 b hb h5.symm
   refine⟨((i:Int)+1,yV (((v:Int),(iH (at' ps (v:Int)) i).1)) (iH (at' ps (v:Int)) i).2 x2),⟨by simp,fun z=> ?_⟩,?_⟩
   ·dsimp only
    rw[JF hg,hs]
    constructor
    ·rintro(rfl|⟨a,b,h1,h2,h3⟩)
     ·exact⟨v,i,.inr ⟨rfl,by omega⟩,hi,rfl⟩
     ·exact⟨a,b,by omega,h2,h3⟩
    ·rintro⟨a,b,h1,h2,h3⟩
     by_cases hab:a=v∧b=i
     ·left;rw[h3,hab.1,hab.2]
     ·right;exact⟨a,b,by omega,h2,h3⟩
   ·replace p1:0<=(at' (at' ps (v:Int)) (i:Int)).1∧(at' (at' ps (v:Int)) (i:Int)).1<=(ps.length:Int) - 1:=p1
    replace p3:1<=(at' (at' ps (v:Int)) (i:Int)).2∧(at' (at' ps (v:Int)) (i:Int)).2<=15:=p3
    unfold bQ eW fW
    dsimp only
    rw[if_pos (by omega),cN (by omega),if_neg (by omega),if_neg (by omega),if_neg (by rw[decide_eq_false p2];simp),if_neg (by omega),if_neg (by rw[decide_eq_false (by omega)];simp),hg,if_neg (by simp),wr (by omega) (by omega)]
  ·rintro i ⟨x1,x2⟩ ag2 hi ⟨hx,hs⟩ hp
   dsimp only at hx hs
   subst hx
   unfold bQ eW fW
   dsimp only
   rw[if_pos (by omega),cN (by omega)]
   by_cases h1:(iH (at' ps (v:Int)) i).1<0
   ·rw[if_pos h1,if_pos rfl]
   rw[if_neg h1]
   by_cases h2:(ps.length:Int)<=(iH (at' ps (v:Int)) i).1
   ·rw[if_pos h2,if_pos rfl]
   rw[if_neg h2]
   by_cases h3:(iH (at' ps (v:Int)) i).1=v
   ·rw[if_pos (decide_eq_true h3)]
   rw[if_neg (by rw[decide_eq_false h3];simp)]
   by_cases h4:(iH (at' ps (v:Int)) i).2<1
   ·rw[if_pos h4,if_pos rfl]
   rw[if_neg h4]
   by_cases h5:15<(iH (at' ps (v:Int)) i).2
   ·rw[if_pos (decide_eq_true h5)]
   rw[if_neg (by rw[decide_eq_false h5];simp)]
   have:∃k,k<i∧(iH (at' ps (v:Int)) k).1=(iH (at' ps (v:Int)) i).1:=by
    apply Classical.byContradiction
    intro hc
    exact hp ⟨by omega,h3,by omega,fun k hk he=>hc ⟨k,hk,he⟩⟩
   obtain⟨k,hk,he⟩:=this
   have hin:=(hs _).2 ⟨v,k,.inr ⟨rfl,hk⟩,by omega,rfl⟩
   rw[if_pos]
   rw[<-he]
   cases hg:jU (((v:Int),(iH (at' ps (v:Int)) k).1)) x2 with
   |some w=>rfl
   | none => exact absurd hin (by
     intro hin
     exact qB hg hin)
  ·rintro⟨x1,x2⟩ ag2 ⟨hx,hs⟩
   dsimp only at hx hs
   subst hx
   unfold bQ kB
   dsimp only
   rw[if_neg (by omega),wr (by omega) (by omega)]
 have outer:=Cr (step:=b_ 1000 ps) (K:=fun x=>fV x.2) (bad:=false) ps.length (fun v=>qL (at' ps (v:Int)) v ps.length) (fun v x=>x.1=(v:Int)∧∀z,z∈x.2↔IY ps v 0 z) ?_ ?_ ?_ 1000 ((0:Int),[]) ⟨rfl,fun z=>⟨fun h=>(by cases h),fun⟨a,b,h1,_⟩=>(by omega)⟩⟩ (by omega)
 rotate_left
 ·rintro v ⟨x1,x2⟩ ag hv ⟨hx,hs⟩ hp
  dsimp only at hx hs
  subst hx
  obtain⟨m',h1,h2⟩:=(inner v x2 ag hv hs).1 hp
  refine⟨((v:Int)+1,m'),⟨by simp,h1⟩,?_⟩
  ·unfold b_
   dsimp only
   rw[if_pos (by omega),cN (by omega)]
   exact h2
 ·rintro v ⟨x1,x2⟩ ag hv ⟨hx,hs⟩ hp
  dsimp only at hx hs
  subst hx
  unfold b_
  dsimp only
  rw[if_pos (by omega),cN (by omega)]
  exact(inner v x2 ag hv hs).2 hp
 ·rintro⟨x1,x2⟩ ag ⟨hx,hs⟩
  dsimp only at hx hs
  subst hx
  unfold b_
  dsimp only
  rw[if_neg (by omega)]
 by_cases hL:∀v,v<ps.length->qL (at' ps (v:Int)) v ps.length
 rotate_left
 ·exact⟨fun h=>absurd h.1 hL,fun _=>outer.2 hL⟩
 obtain⟨⟨x1,x2⟩,⟨hx,hs⟩,he⟩:=outer.1 hL
 rw[he]
 dsimp only at hs ⊢
 have hk:fV x2=some (decide (∀z∈x2,¬(Option.getD (jU (z.1.2,z.1.1) x2) (0:Int))≠z.2)):=FJ (fun z:(Int×Int)×Int=>(Option.getD (jU (z.1.2,z.1.1) x2) (0:Int))≠z.2) x2
 rw[hk]
 have hiff:(∀z∈x2,¬(Option.getD (jU (z.1.2,z.1.1) x2) (0:Int))≠z.2)↔∀v,v<ps.length->∀i,i<(at' ps (v:Int)).length->GI ([],ps) v i:=by
  constructor
  ·intro h v hv i hi
   have hw:=(hL v hv i hi).2.2.1
   have hin:=(hs (((v:Int),(iH (at' ps (v:Int)) i).1),(iH (at' ps (v:Int)) i).2)).2 ⟨v,i,.inl hv,hi,rfl⟩
   have h2:=Decidable.not_not.1 (h _ hin)
   dsimp only at h2
   cases hg:jU ((iH (at' ps (v:Int)) i).1,(v:Int)) x2 with
   |none=>rw[hg]at h2;simp only[Option.getD]at h2;omega
   | some w =>
    rw[hg]at h2;simp only[Option.getD]at h2
    obtain⟨a,b,h3,h4,h5⟩:=(hs _).1 (xW hg)
    simp only[Prod.mk.injEq]at h5
    obtain⟨⟨h6,h7⟩,h8⟩:=h5
    refine⟨b,?_,?_,?_⟩
    ·show b<(at' ps (iH (at' ps (v:Int)) i).1).length
     rw[h6];exact h4
    ·show(iH (at' ps (iH (at' ps (v:Int)) i).1) b).1=v
     rw[h6];exact h7.symm
    ·show(iH (at' ps (iH (at' ps (v:Int)) i).1) b).2=(iH (at' ps (v:Int)) i).2
     rw[h6,<-h8];exact h2
  ·intro h z hz hne
   obtain⟨a,b,h3,h4,rfl⟩:=(hs z).1 hz
   have ha:a<ps.length:=by omega
   apply hne
   obtain⟨j,hj1,hj2,hj3⟩:=h a ha b h4
   have hu:=(hL a ha b h4).1
   obtain⟨u,hu'⟩:∃u:Nat,(iH (at' ps (a:Int)) b).1=u:=⟨(iH (at' ps (a:Int)) b).1.toNat,by omega⟩
   replace hj1:j<(at' ps (iH (at' ps (a:Int)) b).1).length:=hj1
   replace hj2:(iH (at' ps (iH (at' ps (a:Int)) b).1) j).1=a:=hj2
   replace hj3:(iH (at' ps (iH (at' ps (a:Int)) b).1) j).2=(iH (at' ps (a:Int)) b).2:=hj3
   rw[hu']at hj1 hj2 hj3
   have hun:u<ps.length:=by omega
   dsimp only
   rw[hu',<-hj3]
   have hin:=(hs (((u:Int),(iH (at' ps (u:Int)) j).1),(iH (at' ps (u:Int)) j).2)).2 ⟨u,j,.inl hun,hj1,rfl⟩
   rw[hj2]at hin
   cases hg:jU ((u:Int),(a:Int)) x2 with
   |none=>exact absurd hin (qB hg)
   | some w =>
    obtain⟨a',b',h3',h4',h5⟩:=(hs _).1 (xW hg)
    simp only[Prod.mk.injEq]at h5
    obtain⟨⟨h6,h7⟩,h8⟩:=h5
    have:a'=u:=by omega
    subst this
    have hbj:b'=j:=by
     rcases Nat.lt_trichotomy b' j with hl|hl|hl
     ·exact absurd (h7.symm.trans hj2.symm) ((hL a' hun j hj1).2.2.2 b' hl)
     ·exact hl
     ·exact absurd (hj2.trans h7) ((hL a' hun b' h4').2.2.2 j hl)
    subst hbj
    exact h8
 by_cases hS:∀v,v<ps.length->∀i,i<(at' ps (v:Int)).length->GI ([],ps) v i
 ·rw[decide_eq_true (hiff.2 hS)]
  exact⟨fun _=>rfl,fun h=>absurd ⟨hL,hS⟩ h⟩
 ·rw[decide_eq_false (fun h=>hS (hiff.1 h))]
  exact⟨fun h=>absurd h.2 hS,fun _=>rfl⟩
theorem Il:∀(N:Nat) (f:Nat->Nat) (k:Nat),(∀i,i<k->f i<N)->(∀i j,i<j->j<k->f i≠f j)->k<=N
 |0,f,k,h,_=>by
  cases k with
  |zero=>omega
  |succ k=>exact absurd (h 0 (by omega)) (by omega)
 | N + 1, f, k, h, hd => by
  by_cases hex:∃a,a<k∧f a=N
  ·obtain⟨a,ha,hfa⟩:=hex
   have:=Il N (fun i=>if i<a then f i else f (i+1)) (k - 1) (fun i hi=>by
    split
    ·have:=h i (by omega);have:=hd i a (by omega) ha;omega
    ·have:=h (i+1) (by omega);have:=hd a (i+1) (by omega) (by omega);omega) (fun i j hij hj=>by
    split<;>split
    ·exact hd i j hij (by omega)
    ·exact hd i (j+1) (by omega) (by omega)
    ·omega
    ·exact hd (i+1) (j+1) (by omega) (by omega))
   omega
  ·have:=Il N f k (fun i hi=>by
    have:=h i hi
    have:f i≠N:=fun e=>hex ⟨i,hi,e⟩
    omega) hd
   omega
theorem Lk {l:eM} {v n:Nat} (hv:v<n) (h:qL l v n):l.length<n:=by
 have:=Il n (fun i=>if i=l.length then v else(iH l i).1.toNat) (l.length+1) (fun i hi=>by
  split
  ·exact hv
  ·have:=(h i (by omega)).1;omega) (fun i j hij hj=>by
  rw[if_neg (by omega)]
  have h1:=(h i (by omega)).1
  split
  ·have:=(h i (by omega)).2.1;omega
  ·have h2:=(h j (by omega)).1
   have:=(h j (by omega)).2.2.2 i hij
   omega)
 omega
theorem Sy (g:GR) (hl:light g):(VG g->e_ 1000 g=some true)∧(¬VG g->e_ 1000 g=some false):=by
 obtain⟨l1,l2,l3⟩:=hl
 unfold e_ mN mO
 by_cases h1:g.1.length<1
 ·rw[if_pos (by omega)]
  exact⟨fun h=>by have:=h.n1;have:=h.len;omega,fun _=>rfl⟩
 rw[if_neg (by omega)]
 by_cases h2:24<g.1.length
 ·rw[if_pos (by omega)]
  exact⟨fun h=>by have:=h.n24;have:=h.len;omega,fun _=>rfl⟩
 rw[if_neg (by omega)]
 by_cases h3:g.1.length=g.2.length
 rotate_left
 ·rw[decide_eq_true (by omega)]
  exact⟨fun h=>absurd h.len h3,fun _=>rfl⟩
 rw[decide_eq_false (by omega),if_neg (by simp)]
 by_cases h4:∀k,k<g.1.length->Ph g.1 k
 rotate_left
 ·rw[(qM g.1 l1).2 h4,bA rfl]
  exact⟨fun h=>absurd (fun k hk=>⟨(h.node k (by omega)).id,(h.node k (by omega)).ids⟩) h4,fun _=>rfl⟩
 rw[(qM g.1 l1).1 h4,bA rfl,if_pos rfl]
 by_cases h5:GJ g.2
 ·rw[(CJ g.2 l2 l3).1 h5]
  exact⟨fun _=>rfl,fun h=>absurd ⟨by omega,by omega,h3,fun v hv=>⟨(h4 v (by omega)).1,Lk hv (h5.1 v hv),h5.1 v hv,(h4 v (by omega)).2⟩,h5.2⟩ h⟩
 ·rw[(CJ g.2 l2 l3).2 h5]
  exact⟨fun h=>absurd ⟨fun v hv=>(h.node v hv).links,h.sym⟩ h5,fun _=>rfl⟩
theorem VG.light {g:GR} (h:VG g):light g:=⟨by have:=h.n24;have:=h.len;omega,by have:=h.n24;omega,fun v hv=>by have:=(h.node v hv).deg;have:=h.n24;omega⟩
end
section
abbrev D (d:aL) (v:Nat):Int:=at' d (v:Int)
def EJ (g:GR) (v u:Nat):Prop:=∃i,i<(row g v).length∧(iH (row g v) i).1=(u:Int)
theorem VG.port {g:GR} (h:VG g) {v i:Nat} (hv:v<g.2.length) (hi:i<(row g v).length):∃u:Nat,u<g.2.length∧(iH (row g v) i).1=(u:Int)∧EJ g v u:=by
 have hu:=((h.node v hv).links i hi).1
 exact⟨(iH (row g v) i).1.toNat,by omega,by omega,i,hi,by omega⟩
theorem VG.back {g:GR} (h:VG g) {v u:Nat} (hv:v<g.2.length) (ha:EJ g v u):EJ g u v:=by
 obtain⟨i,hi,hu⟩:=ha
 obtain⟨j,hj,hjv,_⟩:=h.sym v hv i hi
 rw[hu]at hj hjv
 exact⟨j,hj,hjv⟩
theorem VG.adj_lt {g:GR} (h:VG g) {v u:Nat} (hv:v<g.2.length) (ha:EJ g v u):u<g.2.length:=by
 obtain⟨i,hi,hu⟩:=ha
 have:=((h.node v hv).links i hi).1
 omega
def Ci (d:aL):Nat:=d.countP fun x=>decide (x<0)
structure KM (g:GR) (s:Nat) (d:aL):Prop where
 len:d.length=g.2.length
 lo:∀v,v<g.2.length -> -1<=D d v
 zero:∀v,v<g.2.length->(D d v=0↔v=s)
 near:∀v,v<g.2.length->0<D d v->∃u,u<g.2.length∧EJ g v u∧D d u=D d v - 1
 hi:∀v,v<g.2.length->D d v+(Ci d:Int)<=(g.2.length:Int)
structure Qu (g:GR) (q d:aL) (b:Int) (done:Nat->Prop):Prop where
 mem:∀y∈q,∃v,v<g.2.length∧y=((v:Nat):Int)∧0<=D d v
 top:∀v,v<g.2.length->D d v<=b
 sort:q.Pairwise fun a c=>at' d a<=at' d c
 done:∀v,v<g.2.length->0<=D d v->((v:Nat):Int)∉q->done v->∀u,u<g.2.length->EJ g v u->0<=D d u∧D d u<=D d v+1
theorem GA {d:aL} {v:Nat} (h:v<d.length):D d v=d[v]:=by
 rw[D,iR,List.getD_eq_getElem?_getD,List.getElem?_eq_getElem h];rfl
theorem Fi {d:aL} {u:Nat} {x:Int} (hu:u<d.length) (hn:D d u<0) (hx:0<=x):Ci (d.set u x)+1=Ci d:=by
 unfold Ci
 rw[List.countP_set hu]
 have hp:0<d.countP fun x=>decide (x<0):=by
  rw[List.countP_pos_iff]
  exact⟨d[u],List.getElem_mem hu,by rw[<-GA hu];simpa using hn⟩
 rw[GA hu]at hn
 rw[if_pos (by simpa using hn),if_neg (by simp;omega)]
 omega
theorem assign {g:GR} {s:Nat} {q d:aL} {b:Int} {done:Nat->Prop} (hV:VG g) (hC:KM g s d) {x u:Nat} (hQ:Qu g q d (D d x+1) done) (hx:x<g.2.length) (hx0:0<=D d x) (hu:u<g.2.length) (hun:D d u<0) (ha:EJ g x u):
  KM g s (d.set u (D d x+1))∧Qu g (q++[(u:Int)]) (d.set u (D d x+1)) (D d x+1) done:=by
 have hlen:=hC.len
 have hat:∀v,D (d.set u (D d x+1)) v=if v=u then D d x+1 else D d v:=fun v=>rW _ _ _ _ (by omega)
 have hcn:=Fi (x:=D d x+1) (by omega:u<d.length) hun (by omega)
 refine⟨⟨by simp[hlen],fun v hv=> ?_,fun v hv=> ?_,fun v hv=> ?_,fun v hv=> ?_⟩,⟨fun y hy=> ?_,fun v hv=> ?_,?_,fun v hv h0 hq hd w hw hadj=> ?_⟩⟩
 ·rw[hat];split
  ·omega
  ·exact hC.lo v hv
 ·rw[hat];split
  ·rename_i h;subst h
   have:=(hC.zero v hv)
   constructor
   ·intro;omega
   ·intro h;have:=this.2 h;omega
  ·exact hC.zero v hv
 ·rw[hat];split
  ·rename_i h;subst h
   intro _
   refine⟨x,hx,hV.back hx ha,?_⟩
   rw[hat,if_neg (by intro h;subst h;omega)];omega
  ·intro h0
   obtain⟨w,hw,hadj,he⟩:=hC.near v hv h0
   refine⟨w,hw,hadj,?_⟩
   rw[hat,if_neg (by intro h;subst h;omega)];exact he
 ·rw[hat];split
  ·have:=hC.hi x hx;omega
  ·have:=hC.hi v hv;omega
 ·rcases List.mem_append.1 hy with hy|hy
  ·obtain⟨v,hv,rfl,h0⟩:=hQ.mem y hy
   refine⟨v,hv,rfl,?_⟩
   rw[hat];split<;>omega
  ·simp only[List.mem_singleton]at hy
   refine⟨u,hu,hy,?_⟩
   rw[hat,if_pos rfl];omega
 ·rw[hat];split
  ·omega
  ·exact hQ.top v hv
 ·rw[List.pairwise_append]
  have hq:∀y∈q,at' (d.set u (D d x+1)) y=at' d y:=by
   intro y hy
   obtain⟨v,hv,rfl,h0⟩:=hQ.mem y hy
   have:=hat v
   rw[if_neg (by intro h;subst h;omega)]at this
   exact this
  refine⟨hQ.sort.imp_of_mem fun {a c} h1 h2 h=> ?_,List.pairwise_singleton ..,fun y hy z hz=> ?_⟩
  ·rw[hq a h1,hq c h2];exact h
  ·simp only[List.mem_singleton]at hz
   subst hz
   rw[hq y hy]
   have h2:=hat u
   rw[if_pos rfl]at h2
   obtain⟨v,hv,rfl,h0⟩:=hQ.mem y hy
   have:=hQ.top v hv
   show D d v<=D (d.set u (D d x+1)) u
   omega
 ·have hvu:v≠u:=by
   rintro rfl
   exact hq (by simp)
  rw[hat,if_neg hvu]at h0
  rw[hat v,if_neg hvu]
  have:=hQ.done v hv h0 (fun h=>hq (List.mem_append_left _ h)) hd w hw hadj
  rw[hat w,if_neg (by rintro rfl;omega)]
  exact this
theorem Ip {g:GR} (hV:VG g) {s x:Nat} (hx:x<g.2.length) (rest d0:aL) (ag:List Int×aL->Option aL) (r:aL->Prop)
  (hC:KM g s d0) (hx0:0<=D d0 x) (hQ:Qu g rest d0 (D d0 x+1) (fun v=>v≠x)) (hm:rest.length+Ci d0<=g.2.length)
  (hag:∀q d,KM g s d->D d x=D d0 x->Qu g q d (D d x+1) (fun _=>True)->q.length+Ci d=rest.length+Ci d0->(∀y∈q,D d0 x<=at' d y)->OK r (ag (q,d)))
  (hge:∀y∈rest,D d0 x<=at' d0 y):
  OK r (bD (nJ g ((x:Int)::rest,d0) ag) 1000 ((0:Int),rest,d0)):=by
 have hdeg:=(hV.node x hx).deg
 have h24:=hV.n24
 refine u_ (fun z:Int×List Int×aL=>∃k:Nat,z.1=k∧k<=(row g x).length∧KM g s z.2.2∧D z.2.2 x=D d0 x∧Qu g z.2.1 z.2.2 (D d0 x+1) (fun v=>v≠x)∧z.2.1.length+Ci z.2.2=rest.length+Ci d0∧(∀i,i<k->∀u:Nat,(iH (row g x) i).1=u->0<=D z.2.2 u)∧(∀y∈z.2.1,D d0 x<=at' z.2.2 y)) (fun z=>31 - z.1.toNat) ?_ 1000 _ ⟨0,rfl,by omega,hC,rfl,hQ,rfl,fun i hi=>by omega,hge⟩ (by simp)
 rintro⟨z1,q,d⟩ ag2 ⟨k,hz,hk,hC,hdx,hQ,hm2,hp,hge⟩ hag2
 dsimp only at hz hC hdx hQ hm2 hp hge
 subst hz
 have hlen:=hC.len
 have e0:at' ((x:Int)::rest) 0=(x:Int):=rfl
 unfold nJ nH
 dsimp only
 rw[e0]
 by_cases hlt:k<(row g x).length
 ·rw[if_pos (show(k:Int)<((row g x).length:Int) by omega),cN (show 0<=(k:Int)∧(k:Int)<((row g x).length:Int) by omega)]
  obtain⟨u,hu,hue,hadj⟩:=hV.port hx hlt
  rw[show at' (at' g.2 (x:Int)) (k:Int)=iH (row g x) k from rfl,hue,cN (by omega)]
  have hhi:=hC.hi x hx
  by_cases hneg:at' d (u:Int)<0
  ·have hQ':Qu g q d (D d x+1) (fun v=>v≠x):=by rw[hdx];exact hQ
   obtain⟨c1,c2⟩:=assign (b:=0) hV hC hQ' hx (by omega) hu hneg hadj
   have hcn:=Fi (x:=D d x+1) (by omega:u<d.length) hneg (by omega)
   have hat:∀v,D (d.set u (D d x+1)) v=if v=u then D d x+1 else D d v:=fun v=>rW _ _ _ _ (by omega)
   have hxu:x≠u:=by rintro rfl;have:D d x<0:=hneg;omega
   rw[if_pos hneg,cN (by omega),cN (by omega),cN (by simp only[List.length_singleton];omega),wr (x:=(k:Int)+1) (by omega) (by omega),wr (x:=at' d (x:Int)+1) (by show -9223372036854775808<=D d x+1;omega) (by show D d x+1<=_;omega)]
   refine hag2 _ ⟨k+1,by simp,by omega,c1,?_,?_,?_,?_,?_⟩ (by dsimp only;omega)
   ·show D (d.set u (D d x+1)) x=_
    rw[hat,if_neg hxu];exact hdx
   ·rw[<-hdx];exact c2
   ·show(q++[(u:Int)]).length+Ci (d.set u (D d x+1))=_
    simp only[List.length_append,List.length_singleton]
    omega
   ·intro i hi w hw
    show 0<=D (d.set u (D d x+1)) w
    rw[hat]
    split
    ·omega
    ·by_cases hik:i=k
     ·subst hik;omega
     ·exact hp i (by omega) w hw
   ·intro y hy
    show D d0 x<=at' (d.set u (D d x+1)) y
    rcases List.mem_append.1 hy with hy|hy
    ·have h1:=hge y hy
     obtain⟨v,hv,rfl,h0⟩:=hQ.mem y hy
     have h2:=hat v
     rw[if_neg (by intro h;subst h;have:D d v<0:=hneg;omega)]at h2
     rw[show at' (d.set u (D d x+1)) (v:Int)=D d v from h2]
     exact h1
    ·simp only[List.mem_singleton]at hy
     subst hy
     rw[show at' (d.set u (D d x+1)) (u:Int)=D d x+1 from(hat u).trans (if_pos rfl)]
     omega
  ·rw[if_neg hneg,wr (by omega) (by omega)]
   refine hag2 _ ⟨k+1,by simp,by omega,hC,hdx,hQ,hm2,?_,hge⟩ (by dsimp only;omega)
   intro i hi w hw
   by_cases hik:i=k
   ·subst hik
    have:w=u:=by omega
    subst this
    show 0<=at' d (w:Int)
    omega
   ·exact hp i (by omega) w hw
 ·rw[if_neg (show¬(k:Int)<((row g x).length:Int) by omega)]
  have hke:k=(row g x).length:=by omega
  refine hag q d hC hdx ⟨hQ.mem,fun v hv=>by rw[hdx];exact hQ.top v hv,hQ.sort,fun v hv h0 hq _ u hu hadj=> ?_⟩ hm2 hge
  by_cases hvx:v=x
  ·subst hvx
   obtain⟨i,hi,hie⟩:=hadj
   exact⟨hp i (by omega) u hie,by rw[hdx];exact hQ.top u hu⟩
  ·exact hQ.done v hv h0 hq hvx u hu hadj
structure AW (g:GR) (s:Nat) (d:aL):Prop where
 len:d.length=g.2.length
 lo:∀v,v<g.2.length -> -1<=D d v
 zero:∀v,v<g.2.length->(D d v=0↔v=s)
 near:∀v,v<g.2.length->0<D d v->∃u,u<g.2.length∧EJ g v u∧D d u=D d v - 1
 next:∀v,v<g.2.length->0<=D d v->∀u,u<g.2.length->EJ g v u->0<=D d u∧D d u<=D d v+1
 hi:∀v,v<g.2.length->D d v<=(g.2.length:Int)
theorem Kf {g:GR} (hV:VG g) {s:Nat} (d0:aL) (q0:aL) (hC:KM g s d0) (hQ:Qu g q0 d0 (match q0 with|[]=>1000|y::_=>at' d0 y+1) (fun _=>True)) (hm:q0.length+Ci d0<=g.2.length):
  OK (AW g s) (bD (lA 1000 g) 1000 (q0,d0)):=by
 have h24:=hV.n24
 refine u_ (fun z:List Int×aL=>KM g s z.2∧Qu g z.1 z.2 (match z.1 with|[]=>1000|y::_=>at' z.2 y+1) (fun _=>True)∧z.1.length+Ci z.2<=g.2.length) (fun z=>z.1.length+Ci z.2) ?_ 1000 _ ⟨hC,hQ,hm⟩ (by dsimp only;omega)
 rintro⟨q,d⟩ ag ⟨hC,hQ,hm⟩ hag
 dsimp only at hC hQ hm
 unfold lA qR
 dsimp only
 cases q with
 |nil=>
  rw[if_neg (by simp)]
  exact⟨d,rfl,hC.len,hC.lo,hC.zero,hC.near,fun v hv h0 u hu hadj=>hQ.done v hv h0 (by simp) trivial u hu hadj,fun v hv=>by have:=hC.hi v hv;omega⟩
 | cons y rest =>
  obtain⟨x,hx,rfl,hx0⟩:=hQ.mem y (List.mem_cons_self ..)
  have e0:at' ((x:Int)::rest) 0=(x:Int):=rfl
  rw[if_pos (by simp only[List.length_cons];omega),cN (by simp only[List.length_cons];omega),cN (by simp only[List.length_cons];omega),e0,cN (by omega)]
  have hs:=List.pairwise_cons.1 hQ.sort
  simp only[List.length_cons]at hm
  refine Ip hV hx rest d ag _ hC hx0 ⟨fun z hz=>hQ.mem z (List.mem_cons_of_mem _ hz),hQ.top,hs.2,fun v hv h0 hq hvx u hu hadj=>hQ.done v hv h0 (fun h=> ?_) trivial u hu hadj⟩ (by omega) (fun q' d' c1 c2 c3 c4 c5=> ?_) hs.1
  ·rcases List.mem_cons.1 h with h|h
   ·exact hvx (by omega)
   ·exact hq h
  ·refine hag (q',d') ⟨c1,⟨c3.mem,fun v hv=> ?_,c3.sort,c3.done⟩,by dsimp only;omega⟩ (by simp only[List.length_cons];omega)
   dsimp only
   have ht:=c3.top v hv
   cases q' with
   |nil=>
    dsimp only
    have:=c1.hi x hx
    omega
   |cons z zs=>
    dsimp only
    have:=c5 z (List.mem_cons_self ..)
    omega
theorem OP {g:GR} (hV:VG g) {s:Nat} (hs:s<g.2.length):OK (AW g s) (sG 1000 g (s:Int)):=by
 have h24:=hV.n24
 unfold sG
 rw[cN (by omega)]
 refine u_ (fun z:oU=>∃k:Nat,z.1=k∧k<=g.2.length∧z.2.length=g.2.length∧∀v,v<k->D z.2 v = -1) (fun z=>31 - z.1.toNat) ?_ 1000 _ ⟨0,rfl,by omega,by simp,fun v hv=>by omega⟩ (by simp)
 rintro⟨z1,d⟩ ag ⟨k,hz,hk,hlen,hd⟩ hag
 dsimp only at hz hlen hd
 subst hz
 unfold uL
 simp only[List.length_replicate,Int.toNat_natCast]
 by_cases hlt:k<g.2.length
 ·rw[if_pos (by omega),cN (by omega),wr (by omega) (by omega)]
  refine hag _ ⟨k+1,by simp,by omega,by simp[hlen],fun v hv=> ?_⟩ (by dsimp only;omega)
  show at' (d.set k (-1)) (v:Int) = -1
  rw[rW _ _ _ _ (by omega)]
  split
  ·rfl
  ·exact hd v (by omega)
 ·rw[if_neg (by omega)]
  unfold uK
  rw[cN (by omega)]
  have hd':∀v,v<g.2.length->D d v = -1:=fun v hv=>hd v (by omega)
  have hat:∀v,D (d.set s 0) v=if v=s then 0 else D d v:=fun v=>rW _ _ _ _ (by omega)
  have hcn:=Fi (x:=0) (by omega:s<d.length) (by rw[hd' s hs];omega) (by omega)
  have hcl:Ci d<=d.length:=List.countP_le_length ..
  refine Kf hV _ _ ⟨by simp[hlen],fun v hv=> ?_,fun v hv=> ?_,fun v hv=> ?_,fun v hv=> ?_⟩ ⟨fun y hy=> ?_,fun v hv=> ?_,List.pairwise_singleton ..,fun v hv h0 hq=> ?_⟩ ?_
  ·rw[Int.toNat_natCast,hat];split
   ·omega
   ·rw[hd' v hv];omega
  ·rw[Int.toNat_natCast,hat];split
   ·rename_i h;exact⟨fun _=>h,fun _=>rfl⟩
   ·rename_i h;rw[hd' v hv];exact⟨fun h2=>by omega,fun h2=>absurd h2 h⟩
  ·rw[Int.toNat_natCast,hat];split
   ·omega
   ·rw[hd' v hv];omega
  ·rw[Int.toNat_natCast,hat];split
   ·omega
   ·rw[hd' v hv];omega
  ·simp only[List.mem_singleton]at hy
   refine⟨s,hs,hy,?_⟩
   rw[Int.toNat_natCast,hat,if_pos rfl];omega
  ·rw[Int.toNat_natCast]
   have h2:at' (d.set s 0) (s:Int)=0:=(hat s).trans (if_pos rfl)
   show D (d.set s 0) v<=at' (d.set s 0) (s:Int)+1
   rw[h2,hat];split
   ·omega
   ·rw[hd' v hv];omega
  ·rw[Int.toNat_natCast,hat,if_neg (by rintro rfl;exact hq (by simp)),hd' v hv]at h0
   omega
  ·rw[Int.toNat_natCast]
   simp only[List.length_singleton]
   omega
end
section
theorem HT {g:GR} (hV:VG g) {s:Nat} (hs:s<g.2.length):OK (AW g s) (lK 1000 g (s:Int)):=by
 unfold lK kA
 rw[(Sy g hV.light).1 hV,bA rfl,if_neg (by simp),if_neg (by omega),decide_eq_false (by omega),if_neg (by simp)]
 obtain⟨d,hd,hD⟩:=OP hV hs
 rw[hd]
 exact⟨d,rfl,hD⟩
end
section
def oY (g:GR) (s:Nat):Nat->Nat->Prop
 |0,v=>v=s∧s<g.2.length
 |k+1,v=>∃u,oY g s k u∧EJ g u v
theorem oY.lt {g:GR} (hV:VG g) {s:Nat}:∀{k v:Nat},oY g s k v->v<g.2.length
 |0,_,h=>by obtain⟨rfl,h⟩:=h;exact h
 |_+1,_,h=>by obtain⟨u,h1,h2⟩:=h;exact hV.adj_lt (oY.lt hV h1) h2
theorem oY.trans {g:GR} {s t:Nat} {k:Nat} (h:oY g s k t):∀{m v:Nat},oY g t m v->oY g s (k+m) v
 |0,_,h2=>by obtain⟨rfl,_⟩:=h2;exact h
 |_+1,_,h2=>by obtain⟨u,h3,h4⟩:=h2;exact⟨u,oY.trans h h3,h4⟩
theorem Jh {g:GR} (hV:VG g) {s:Nat}:∀{k v:Nat},oY g s k v->oY g v k s
 |0,_,h=>by obtain⟨rfl,h⟩:=h;exact⟨rfl,h⟩
 |k+1,v,h=>by
  obtain⟨u,h1,h2⟩:=h
  have hu:=oY.lt hV h1
  have h3:oY g v 1 u:=⟨v,⟨rfl,hV.adj_lt hu h2⟩,hV.back hu h2⟩
  have:=oY.trans h3 (Jh hV h1)
  rwa[Nat.add_comm]at this
theorem AW.le {g:GR} (hV:VG g) {s:Nat} {d:aL} (h:AW g s d):∀{k v:Nat},oY g s k v->0<=D d v∧D d v<=k
 |0,v,hw=>by
  obtain⟨rfl,hs⟩:=hw
  have:=(h.zero v hs).2 rfl
  omega
 |k+1,v,hw=>by
  obtain⟨u,h1,h2⟩:=hw
  have hu:=oY.lt hV h1
  have h3:=AW.le hV h h1
  have h4:=h.next u hu h3.1 v (hV.adj_lt hu h2) h2
  omega
theorem GB {g:GR} (hV:VG g) {s:Nat} {d:aL} (h:AW g s d):∀(k v:Nat),v<g.2.length->D d v=k->oY g s k v
 |0,v,hv,he=>by
  have:=(h.zero v hv).1 he
  exact⟨this,by omega⟩
 |k+1,v,hv,he=>by
  obtain⟨u,hu,hadj,hd⟩:=h.near v hv (by omega)
  exact⟨u,GB hV h k u hu (by omega),hV.back hv hadj⟩
theorem AW.pos {g:GR} (hV:VG g) {s:Nat} {d:aL} (h:AW g s d) {v:Nat} (hv:v<g.2.length) (h0:0<=D d v):oY g s (D d v).toNat v:=
 GB hV h _ v hv (by omega)
end
section
def YO (g:GR):Prop:=∀u v,u<g.2.length->v<g.2.length->∃k,oY g u k v
end
section
theorem OI (g:GR) (v:Nat) (u:Int) (hv:v<g.2.length) (hl:(row g v).length<=30):oP 1000 g v u=some (xF (row g v) u):=by
 unfold oP
 rw[cN (by omega)]
 rcases Cy (row g v) u with⟨i,hi,hu,hf,he⟩|⟨hf,he⟩
 ·rw[he]
  refine Cq (fun x:Int=>∃k:Nat,x=k∧k<=i) (fun x=>31 - x.toNat) ?_ 1000 _ ⟨0,rfl,by omega⟩ (by omega)
  rintro x ag ⟨k,rfl,hk⟩ hag
  unfold qQ
  rw[if_pos (show(k:Int)<((row g v).length:Int) by omega),cN (show 0<=(k:Int)∧(k:Int)<((row g v).length:Int) by omega)]
  by_cases e:k=i
  ·subst e;exact if_pos hu
  ·rw[if_neg (hf k (by omega)),wr (by omega) (by omega)]
   exact hag _ ⟨k+1,by omega,by omega⟩ (by omega)
 ·rw[he]
  refine Cq (fun x:Int=>∃k:Nat,x=k∧k<=(row g v).length) (fun x=>31 - x.toNat) ?_ 1000 _ ⟨0,rfl,by omega⟩ (by omega)
  rintro x ag ⟨k,rfl,hk⟩ hag
  unfold qQ
  by_cases e:k<(row g v).length
  ·rw[if_pos (show(k:Int)<((row g v).length:Int) by omega),cN (show 0<=(k:Int)∧(k:Int)<((row g v).length:Int) by omega),if_neg (hf k e),wr (by omega) (by omega)]
   exact hag _ ⟨k+1,by omega,by omega⟩ (by omega)
  ·rw[if_neg (show¬(k:Int)<((row g v).length:Int) by omega)];rfl
end
section
def WY (f:Nat->Nat):Nat->Nat
 |0=>0
 |k+1=>WY f k+f k
theorem Sb {f:Nat->Nat}:∀{n:Nat} (v:Nat),v<n->f v<=WY f n
 |0,v,h=>by omega
 |n+1,v,h=>by
  show f v<=WY f n+f n
  by_cases e:v=n
  ·subst e;omega
  ·have:=Sb (f:=f) (n:=n) v (by omega);omega
open Classical in
noncomputable def ind (p:Prop):Nat:=if p then 1 else 0
end
section
theorem KH (a:Nat) (h:a<4294967296):IntKind.u32.wrap (a:Int)=a:=by rw[<-Bv];exact if_pos ⟨by omega,by omega⟩
def Pz (x:Int):Nat:=(BitVec.ofInt 32 x).toNat
theorem HC (x:Int):Pz x<4294967296:=(BitVec.ofInt 32 x).isLt
theorem tH {a:Nat} (h:a<4294967296):Pz (a:Int)=a:=by
 unfold Pz;rw[BitVec.ofInt_natCast,BitVec.toNat_ofNat];exact Nat.mod_eq_of_lt h
theorem Es (x y:Int):cH .u32 x y=((Pz x &&& Pz y:Nat):Int):=by
 show IntKind.u32.wrap (((BitVec.ofInt 32 x &&& BitVec.ofInt 32 y).toNat:Nat):Int)=_
 rw[BitVec.toNat_and]
 exact KH _ (Nat.lt_of_le_of_lt Nat.and_le_left (HC x))
theorem VI (x y:Int):CU .u32 x y=((Pz x ||| Pz y:Nat):Int):=by
 show IntKind.u32.wrap (((BitVec.ofInt 32 x ||| BitVec.ofInt 32 y).toNat:Nat):Int)=_
 rw[BitVec.toNat_or]
 exact KH _ (Nat.or_lt_two_pow (n:=32) (HC x) (HC y))
theorem DX {k:Nat} (hk:k<32):2^k<4294967296:=Nat.pow_lt_pow_right (n:=32) (by omega) hk
theorem Vd {k:Nat} (hk:k<32):vN .u32 1 (k:Int)=((2^k:Nat):Int):=by
 show IntKind.u32.wrap (1*2^(min ((k:Int).toNat) 32))=_
 rw[Int.toNat_natCast,Nat.min_eq_left (by omega),Int.one_mul,show(2:Int)^k=((2^k:Nat):Int) by simp]
 exact KH _ (DX hk)
theorem HM {a k:Nat} (hk:k<32):mH .u32 (a:Int) (k:Int)=((a / 2^k:Nat):Int):=by
 show Int.fdiv (a:Int) (2^(min ((k:Int).toNat) 32))=_
 rw[Int.toNat_natCast,Nat.min_eq_left (by omega),show(2:Int)^k=((2^k:Nat):Int) by simp,Int.fdiv_eq_ediv_of_nonneg _ (Int.natCast_nonneg _)]
 simp
theorem Lv {a k:Nat} (hk:k<32) (ha:a<4294967296):cH .u32 (mH .u32 (a:Int) (k:Int)) 1=1↔a.testBit k=true:=by
 have h1:Pz 1=1:=tH (a:=1) (by omega)
 rw[HM hk,Es,tH (Nat.lt_of_le_of_lt (Nat.div_le_self _ _) ha),h1,Nat.and_one_is_mod,Nat.testBit_eq_decide_div_mod_eq,decide_eq_true_eq]
 omega
def EL (g:GR) (s:Nat):Prop:=(∀v,s.testBit v=true->v<g.2.length)∧∀v u,s.testBit v=true->s.testBit u=true->¬EJ g v u
theorem VE {g:GR} (hV:VG g):uD 1000 g=some ((2^g.2.length - 1:Nat):Int):=by
 have h24:=hV.n24
 have hl:=hV.len
 have hp:=DX (show g.2.length<32 by omega)
 have hpos:1<=2^g.2.length:=Nat.one_le_two_pow
 unfold uD
 rw[cN (by omega),hl,Vd (by omega),show((2^g.2.length:Nat):Int) - 1=((2^g.2.length - 1:Nat):Int) by omega]
 congr 1
 exact if_pos ⟨by omega,by omega⟩
theorem abx {k:Nat} (hk:k<32):wI .u64 (k:Int)=k:=by
 show IntKind.u64.wrap (k:Int)=k
 have:∀j:Fin 32,IntKind.u64.wrap ((j.1:Nat):Int)=(j.1:Nat):=by decide
 exact this ⟨k,hk⟩
end
section
def T (e:aL) (k v w:Nat):Int:=if 0<=D e w∧(D e w<k∨(D e w=k∧w<v))then D e w else -1
end
section
section
theorem QX {X R:Type} {step:X->(X->Option R)->Option R} {K:X->Option R} {bad:R} (N:Nat) (p:Nat->Prop) (I:Nat->X->Prop) (B:Nat)
  (hok:∀(k:Nat) x ag,k<N->k<B->I k x->p k->∃x',I (k+1) x'∧step x ag=ag x') (hbad:∀(k:Nat) x ag,k<N->k<B->I k x->¬p k->step x ag=some bad) (hend:∀x ag,I N x->N<B->step x ag=K x):
  ∀(fuel:Nat) (x:X),I 0 x->B<=fuel->(N<B∨∃k,k<N∧k<B∧¬p k)->((∀k,k<N->p k)->∃x',I N x'∧bD step fuel x=K x')∧(¬(∀k,k<N->p k)->bD step fuel x=some bad):=by
 intro fuel x hI hf hB
 have bads:∀(d a fuel:Nat) (x:X),I a x->a+d<N->a+d<B->¬p (a+d)->d<fuel->bD step fuel x=some bad:=by
  intro d
  induction d with
  |zero=>
   intro a fuel x hI h1 h2 hp hf
   obtain⟨f,rfl⟩:∃f,fuel=f+1:=⟨fuel - 1,by omega⟩
   exact hbad a x _ h1 h2 hI hp
  | succ d ih =>
   intro a fuel x hI h1 h2 hp hf
   obtain⟨f,rfl⟩:∃f,fuel=f+1:=⟨fuel - 1,by omega⟩
   by_cases hpa:p a
   ·obtain⟨x',hI',hs⟩:=hok a x (bD step f) (by omega) (by omega) hI hpa
    have hs:bD step (f+1) x=bD step f x':=hs
    rw[hs]
    exact ih (a+1) f x' hI' (by omega) (by omega) (by rw[show a+1+d=a+(d+1) by omega];exact hp) (by omega)
   ·exact hbad a x _ (by omega) (by omega) hI hpa
 have goods:∀(d a fuel:Nat) (x:X),I a x->a+d=N->N<B->(∀k,a<=k->k<N->p k)->d<fuel->∃x',I N x'∧bD step fuel x=K x':=by
  intro d
  induction d with
  |zero=>
   intro a fuel x hI h1 h2 hp hf
   obtain⟨f,rfl⟩:∃f,fuel=f+1:=⟨fuel - 1,by omega⟩
   obtain rfl:a=N:=by omega
   exact⟨x,hI,hend x _ hI h2⟩
  |succ d ih=>
   intro a fuel x hI h1 h2 hp hf
   obtain⟨f,rfl⟩:∃f,fuel=f+1:=⟨fuel - 1,by omega⟩
   obtain⟨x',hI',hs⟩:=hok a x (bD step f) (by omega) (by omega) hI (hp a (Nat.le_refl _) (by omega))
   have hs:bD step (f+1) x=bD step f x':=hs
   rw[hs]
   exact ih (a+1) f x' hI' (by omega) h2 (fun k h1 h2=>hp k (by omega) h2) (by omega)
 constructor
 ·intro h
  rcases hB with hB|⟨k,h1,_,h2⟩
  ·exact goods N 0 fuel x hI (by omega) hB (fun k _ hk=>h k hk) (by omega)
  ·exact absurd (h k h1) h2
 ·intro h
  have:∃k,k<N∧k<B∧¬p k:=by
   rcases hB with hB|hB
   ·apply Classical.byContradiction
    intro hc
    exact h fun k hk=>Classical.byContradiction fun hp=>hc ⟨k,hk,by omega,hp⟩
   ·exact hB
  obtain⟨k,h1,h2,h3⟩:=this
  exact bads k 0 fuel x hI (by omega) (by omega) (by rw[Nat.zero_add];exact h3) (by omega)
theorem ON {ps:dQ} (hn:ps.length<=30) {v:Nat} (hv:v<ps.length):(at' ps (v:Int)).length<1000∨∃k,k<(at' ps (v:Int)).length∧k<1000∧¬EO (at' ps (v:Int)) v ps.length k:=by
 by_cases h:(at' ps (v:Int)).length<1000
 ·exact .inl h
 ·right
  apply Classical.byContradiction
  intro hc
  have hok:∀k,k<40->EO (at' ps (v:Int)) v ps.length k:=fun k hk=>Classical.byContradiction fun hp=>hc ⟨k,by omega,by omega,hp⟩
  have:=Il ps.length (fun i=>(iH (at' ps (v:Int)) i).1.toNat) 40 (fun i hi=>by have:=(hok i hi).1;omega) (fun i j hij hj he=>by
   have h1:=(hok i (by omega)).1
   have h2:=(hok j hj).1
   have h3:=(hok j hj).2.2.2 i hij
   exact h3 (by omega))
  omega
theorem Bp (ps:dQ) (hn:ps.length<=30):(GJ ps->eQ 1000 ps=some true)∧(¬GJ ps->eQ 1000 ps=some false):=by
 unfold eQ
 have inner:∀(v:Nat) (m:List ((Int×Int)×Int)) ag,v<ps.length->(∀z,z∈m↔IY ps v 0 z)->
   (qL (at' ps (v:Int)) v ps.length->∃m',(∀z,z∈m'↔IY ps (v+1) 0 z)∧bD (bQ ps ((v:Int),m) ag) 1000 ((0:Int),m)=ag ((v:Int)+1,m'))∧
   (¬qL (at' ps (v:Int)) v ps.length->bD (bQ ps ((v:Int),m) ag) 1000 ((0:Int),m)=some false):=by
  intro v m ag hv hm
  have hbnd:=ON hn hv
  have key:=QX (step:=bQ ps ((v:Int),m) ag) (K:=fun x=>ag ((v:Int)+1,x.2)) (bad:=false) (at' ps (v:Int)).length (EO (at' ps (v:Int)) v ps.length) (fun i x=>x.1=(i:Int)∧∀z,z∈x.2↔IY ps v i z) 1000 ?_ ?_ ?_ 1000 ((0:Int),m) ⟨rfl,hm⟩ (by omega) hbnd
  ·refine⟨fun h=> ?_,fun h=>key.2 h⟩
   obtain⟨x,⟨hx1,hx2⟩,hx⟩:=key.1 h
   refine⟨x.2,fun z=>(hx2 z).trans ⟨?_,?_⟩,hx⟩
   ·rintro⟨a,b,h1,h2,h3⟩;exact⟨a,b,by omega,h2,h3⟩
   ·rintro⟨a,b,h1,h2,h3⟩
    refine⟨a,b,?_,h2,h3⟩
    by_cases ha:a=v
    ·subst ha;exact .inr ⟨rfl,h2⟩
    ·omega
  ·rintro i ⟨x1,x2⟩ ag2 hi hi2 ⟨hx,hs⟩ ⟨p1,p2,p3,p4⟩
   dsimp only at hx hs
   subst hx
   have hg:jU (((v:Int),(iH (at' ps (v:Int)) i).1)) x2=none:=by
    apply Dn
    intro w hw
    obtain⟨a,b,h1,h2,h3⟩:=(hs _).1 hw
    simp only[Prod.mk.injEq]at h3
    obtain⟨⟨h4,h5⟩,_⟩:=h3
    have:a=v:=by omega
    subst this
    have hb:b<i:=by omega
    exact p4 b hb h5.symm
   refine⟨((i:Int)+1,yV (((v:Int),(iH (at' ps (v:Int)) i).1)) (iH (at' ps (v:Int)) i).2 x2),⟨by simp,fun z=> ?_⟩,?_⟩
   ·dsimp only
    rw[JF hg,hs]
    constructor
    ·rintro(rfl|⟨a,b,h1,h2,h3⟩)
     ·exact⟨v,i,.inr ⟨rfl,by omega⟩,hi,rfl⟩
     ·exact⟨a,b,by omega,h2,h3⟩
    ·rintro⟨a,b,h1,h2,h3⟩
     by_cases hab:a=v∧b=i
     ·left;rw[h3,hab.1,hab.2]
     ·right;exact⟨a,b,by omega,h2,h3⟩
   ·replace p1:0<=(at' (at' ps (v:Int)) (i:Int)).1∧(at' (at' ps (v:Int)) (i:Int)).1<=(ps.length:Int) - 1:=p1
    replace p3:1<=(at' (at' ps (v:Int)) (i:Int)).2∧(at' (at' ps (v:Int)) (i:Int)).2<=15:=p3
    unfold bQ eW fW
    dsimp only
    rw[if_pos (by omega),cN (by omega),if_neg (by omega),if_neg (by omega),if_neg (by rw[decide_eq_false p2];simp),if_neg (by omega),if_neg (by rw[decide_eq_false (by omega)];simp),hg,if_neg (by simp),wr (by omega) (by omega)]
  ·rintro i ⟨x1,x2⟩ ag2 hi hi2 ⟨hx,hs⟩ hp
   dsimp only at hx hs
   subst hx
   unfold bQ eW fW
   dsimp only
   rw[if_pos (by omega),cN (by omega)]
   by_cases h1:(iH (at' ps (v:Int)) i).1<0
   ·rw[if_pos h1,if_pos rfl]
   rw[if_neg h1]
   by_cases h2:(ps.length:Int)<=(iH (at' ps (v:Int)) i).1
   ·rw[if_pos h2,if_pos rfl]
   rw[if_neg h2]
   by_cases h3:(iH (at' ps (v:Int)) i).1=v
   ·rw[if_pos (decide_eq_true h3)]
   rw[if_neg (by rw[decide_eq_false h3];simp)]
   by_cases h4:(iH (at' ps (v:Int)) i).2<1
   ·rw[if_pos h4,if_pos rfl]
   rw[if_neg h4]
   by_cases h5:15<(iH (at' ps (v:Int)) i).2
   ·rw[if_pos (decide_eq_true h5)]
   rw[if_neg (by rw[decide_eq_false h5];simp)]
   have:∃k,k<i∧(iH (at' ps (v:Int)) k).1=(iH (at' ps (v:Int)) i).1:=by
    apply Classical.byContradiction
    intro hc
    exact hp ⟨by omega,h3,by omega,fun k hk he=>hc ⟨k,hk,he⟩⟩
   obtain⟨k,hk,he⟩:=this
   have hin:=(hs _).2 ⟨v,k,.inr ⟨rfl,hk⟩,by omega,rfl⟩
   rw[if_pos]
   rw[<-he]
   cases hg:jU (((v:Int),(iH (at' ps (v:Int)) k).1)) x2 with
   |some w=>rfl
   | none => exact absurd hin (by
     intro hin
     exact qB hg hin)
  ·rintro⟨x1,x2⟩ ag2 ⟨hx,hs⟩ _
   dsimp only at hx hs
   subst hx
   unfold bQ kB
   dsimp only
   rw[if_neg (by omega),wr (by omega) (by omega)]
 have outer:=Cr (step:=b_ 1000 ps) (K:=fun x=>fV x.2) (bad:=false) ps.length (fun v=>qL (at' ps (v:Int)) v ps.length) (fun v x=>x.1=(v:Int)∧∀z,z∈x.2↔IY ps v 0 z) ?_ ?_ ?_ 1000 ((0:Int),[]) ⟨rfl,fun z=>⟨fun h=>(by cases h),fun⟨a,b,h1,_⟩=>(by omega)⟩⟩ (by omega)
 rotate_left
 ·rintro v ⟨x1,x2⟩ ag hv ⟨hx,hs⟩ hp
  dsimp only at hx hs
  subst hx
  obtain⟨m',h1,h2⟩:=(inner v x2 ag hv hs).1 hp
  refine⟨((v:Int)+1,m'),⟨by simp,h1⟩,?_⟩
  ·unfold b_
   dsimp only
   rw[if_pos (by omega),cN (by omega)]
   exact h2
 ·rintro v ⟨x1,x2⟩ ag hv ⟨hx,hs⟩ hp
  dsimp only at hx hs
  subst hx
  unfold b_
  dsimp only
  rw[if_pos (by omega),cN (by omega)]
  exact(inner v x2 ag hv hs).2 hp
 ·rintro⟨x1,x2⟩ ag ⟨hx,hs⟩
  dsimp only at hx hs
  subst hx
  unfold b_
  dsimp only
  rw[if_neg (by omega)]
 by_cases hL:∀v,v<ps.length->qL (at' ps (v:Int)) v ps.length
 rotate_left
 ·exact⟨fun h=>absurd h.1 hL,fun _=>outer.2 hL⟩
 obtain⟨⟨x1,x2⟩,⟨hx,hs⟩,he⟩:=outer.1 hL
 rw[he]
 dsimp only at hs ⊢
 have hk:fV x2=some (decide (∀z∈x2,¬(Option.getD (jU (z.1.2,z.1.1) x2) (0:Int))≠z.2)):=FJ (fun z:(Int×Int)×Int=>(Option.getD (jU (z.1.2,z.1.1) x2) (0:Int))≠z.2) x2
 rw[hk]
 have hiff:(∀z∈x2,¬(Option.getD (jU (z.1.2,z.1.1) x2) (0:Int))≠z.2)↔∀v,v<ps.length->∀i,i<(at' ps (v:Int)).length->GI ([],ps) v i:=by
  constructor
  ·intro h v hv i hi
   have hw:=(hL v hv i hi).2.2.1
   have hin:=(hs (((v:Int),(iH (at' ps (v:Int)) i).1),(iH (at' ps (v:Int)) i).2)).2 ⟨v,i,.inl hv,hi,rfl⟩
   have h2:=Decidable.not_not.1 (h _ hin)
   dsimp only at h2
   cases hg:jU ((iH (at' ps (v:Int)) i).1,(v:Int)) x2 with
   |none=>rw[hg]at h2;simp only[Option.getD]at h2;omega
   | some w =>
    rw[hg]at h2;simp only[Option.getD]at h2
    obtain⟨a,b,h3,h4,h5⟩:=(hs _).1 (xW hg)
    simp only[Prod.mk.injEq]at h5
    obtain⟨⟨h6,h7⟩,h8⟩:=h5
    refine⟨b,?_,?_,?_⟩
    ·show b<(at' ps (iH (at' ps (v:Int)) i).1).length
     rw[h6];exact h4
    ·show(iH (at' ps (iH (at' ps (v:Int)) i).1) b).1=v
     rw[h6];exact h7.symm
    ·show(iH (at' ps (iH (at' ps (v:Int)) i).1) b).2=(iH (at' ps (v:Int)) i).2
     rw[h6,<-h8];exact h2
  ·intro h z hz hne
   obtain⟨a,b,h3,h4,rfl⟩:=(hs z).1 hz
   have ha:a<ps.length:=by omega
   apply hne
   obtain⟨j,hj1,hj2,hj3⟩:=h a ha b h4
   have hu:=(hL a ha b h4).1
   obtain⟨u,hu'⟩:∃u:Nat,(iH (at' ps (a:Int)) b).1=u:=⟨(iH (at' ps (a:Int)) b).1.toNat,by omega⟩
   replace hj1:j<(at' ps (iH (at' ps (a:Int)) b).1).length:=hj1
   replace hj2:(iH (at' ps (iH (at' ps (a:Int)) b).1) j).1=a:=hj2
   replace hj3:(iH (at' ps (iH (at' ps (a:Int)) b).1) j).2=(iH (at' ps (a:Int)) b).2:=hj3
   rw[hu']at hj1 hj2 hj3
   have hun:u<ps.length:=by omega
   dsimp only
   rw[hu',<-hj3]
   have hin:=(hs (((u:Int),(iH (at' ps (u:Int)) j).1),(iH (at' ps (u:Int)) j).2)).2 ⟨u,j,.inl hun,hj1,rfl⟩
   rw[hj2]at hin
   cases hg:jU ((u:Int),(a:Int)) x2 with
   |none=>exact absurd hin (qB hg)
   | some w =>
    obtain⟨a',b',h3',h4',h5⟩:=(hs _).1 (xW hg)
    simp only[Prod.mk.injEq]at h5
    obtain⟨⟨h6,h7⟩,h8⟩:=h5
    have:a'=u:=by omega
    subst this
    have hbj:b'=j:=by
     rcases Nat.lt_trichotomy b' j with hl|hl|hl
     ·exact absurd (h7.symm.trans hj2.symm) ((hL a' hun j hj1).2.2.2 b' hl)
     ·exact hl
     ·exact absurd (hj2.trans h7) ((hL a' hun b' h4').2.2.2 j hl)
    subst hbj
    exact h8
 by_cases hS:∀v,v<ps.length->∀i,i<(at' ps (v:Int)).length->GI ([],ps) v i
 ·rw[decide_eq_true (hiff.2 hS)]
  exact⟨fun _=>rfl,fun h=>absurd ⟨hL,hS⟩ h⟩
 ·rw[decide_eq_false (fun h=>hS (hiff.1 h))]
  exact⟨fun h=>absurd h.2 hS,fun _=>rfl⟩
theorem Hr (g:GR):(VG g->e_ 1000 g=some true)∧(¬VG g->e_ 1000 g=some false):=by
 unfold e_ mN mO
 by_cases h1:g.1.length<1
 ·rw[if_pos (by omega)]
  exact⟨fun h=>by have:=h.n1;have:=h.len;omega,fun _=>rfl⟩
 rw[if_neg (by omega)]
 by_cases h2:24<g.1.length
 ·rw[if_pos (by omega)]
  exact⟨fun h=>by have:=h.n24;have:=h.len;omega,fun _=>rfl⟩
 rw[if_neg (by omega)]
 by_cases h3:g.1.length=g.2.length
 rotate_left
 ·rw[decide_eq_true (by omega)]
  exact⟨fun h=>absurd h.len h3,fun _=>rfl⟩
 rw[decide_eq_false (by omega),if_neg (by simp)]
 by_cases h4:∀k,k<g.1.length->Ph g.1 k
 rotate_left
 ·rw[(qM g.1 (by omega)).2 h4,bA rfl]
  exact⟨fun h=>absurd (fun k hk=>⟨(h.node k (by omega)).id,(h.node k (by omega)).ids⟩) h4,fun _=>rfl⟩
 rw[(qM g.1 (by omega)).1 h4,bA rfl,if_pos rfl]
 by_cases h5:GJ g.2
 ·rw[(Bp g.2 (by omega)).1 h5]
  exact⟨fun _=>rfl,fun h=>absurd ⟨by omega,by omega,h3,fun v hv=>⟨(h4 v (by omega)).1,Lk hv (h5.1 v hv),h5.1 v hv,(h4 v (by omega)).2⟩,h5.2⟩ h⟩
 ·rw[(Bp g.2 (by omega)).2 h5]
  exact⟨fun h=>absurd ⟨fun v hv=>(h.node v hv).links,h.sym⟩ h5,fun _=>rfl⟩
end
end
section
abbrev NQ:=zR
theorem pI (v m:Int) (h1:1<=m) (h2:m<=4611686018427387904):eB 1000 v m=some (v%m):=by
 unfold eB nP
 rw[if_neg (by omega),cN (by omega)]
 have hm:=Int.tmod_eq_emod (a:=v) (b:=m)
 have h0:=Int.emod_nonneg v (show m≠0 by omega)
 have h3:=Int.emod_lt_of_pos v (show 0<m by omega)
 by_cases hc:0<=v∨m∣v
 ·rw[if_pos hc]at hm
  have hm':v.tmod m=v%m:=by simpa using hm
  rw[hm',if_neg (by omega)]
 ·rw[if_neg hc]at hm
  have:(m.natAbs:Int)=m:=by omega
  rw[hm,if_pos (by omega),wr (by omega) (by omega)]
  congr 1;omega
theorem Jo (l:aL) (i:Int) (h:0<=i):oS 1000 l i=some (at' l i):=by
 unfold oS
 by_cases hi:i<(l.length:Int)
 ·rw[if_pos hi,cN ⟨h,hi⟩]
 ·rw[if_neg hi]
  unfold at'
  rw[List.getD_eq_getElem?_getD,List.getElem?_eq_none (by omega)];rfl

theorem JL {α:Type} [DecidableEq α]:∀(l1 l2:List α),l1.Nodup->(∀x∈l1,x∈l2)->l1.length<=l2.length
 | [],_,_,_=>Nat.zero_le _
 | a :: t, l2, hn, hs => by
  have hn':=List.nodup_cons.1 hn
  have ha:=hs a (List.mem_cons_self ..)
  have:=JL t (l2.erase a) hn'.2 fun x hx=>by
   have hne:x≠a:=fun he=>hn'.1 (he▸hx)
   exact(List.mem_erase_of_ne hne).2 (hs x (List.mem_cons_of_mem _ hx))
  rw[List.length_erase_of_mem ha]at this
  have hpos:0<l2.length:=List.length_pos_of_mem ha
  simp only[List.length_cons]
  omega
theorem Sc (id0:Int) (ids:aL) (t:Nat) (ht:t<=200) (h:∀s,s<t->(id0+(s:Int))%256∈ids):t<=ids.length:=by
 have:=JL ((List.range t).map fun s:Nat=>(id0+(s:Int))%256) ids (by
  rw[List.nodup_iff_pairwise_ne,List.pairwise_map]
  refine List.Pairwise.imp_of_mem ?_ List.pairwise_lt_range
  intro a b ha hb hab
  rw[List.mem_range]at ha hb
  omega) (fun x hx=>by
  obtain⟨s,hs,rfl⟩:=List.mem_map.1 hx
  exact h s (List.mem_range.1 hs))
 simpa using this

structure EK (ids:aL):Prop where
 rng:∀y∈ids,0<=y∧y<=255
 nd:ids.Nodup
theorem EK.snoc {ids:aL} {y:Int} (h:EK ids) (hy:0<=y∧y<=255) (hn:y∉ids):EK (ids++[y]):=by
 refine⟨fun z hz=> ?_,?_⟩
 ·rcases List.mem_append.1 hz with hz|hz
  ·exact h.rng z hz
  ·rw[List.mem_singleton.1 hz];exact hy
 ·rw[List.nodup_append]
  refine⟨h.nd,by simp,?_⟩
  intro a ha b hb
  rw[List.mem_singleton.1 hb]
  exact fun he=>hn (he▸ha)
theorem xV {α:Type} [Inhabited α] {l:List α} {i:Nat} (h:i<l.length):at' l (i:Int)∈l:=by
 rw[iR,List.getD_eq_getElem?_getD,List.getElem?_eq_getElem h]
 exact List.getElem_mem h
theorem AH {α:Type} [Inhabited α] {l:List α} {x:α} (h:x∈l):∃i,i<l.length∧at' l ((i:Nat):Int)=x:=by
 obtain⟨i,hi,he⟩:=List.getElem_of_mem h
 refine⟨i,hi,?_⟩
 rw[iR,List.getD_eq_getElem?_getD,List.getElem?_eq_getElem hi]
 exact he
theorem QM {Q:List Int×dQ->Prop} {ids:aL} (hl:ids.length<=24) (id0:Int) (ag:oU->Option (List Int×dQ))
  (hag:∀y,0<=y->y<=255->y∉ids->OK Q (ag ((ids.length:Int)+1,ids++[y]))):OK Q (bD (iV ((ids.length:Int),ids) ag) 1000 (id0%256,0)):=by
 refine u_ (fun s:dM=>∃(t u:Nat),s.1=(id0+(t:Int))%256∧s.2=u∧u<=ids.length∧t<=ids.length∧(∀k,k<t->(id0+(k:Int))%256∈ids)∧∀j,j<u->at' ids (j:Int)≠s.1)
  (fun s=>(ids.length - ((s.1 - id0)%256).toNat)*30+(ids.length - s.2.toNat)) ?_ 1000 _ ⟨0,0,by simp,rfl,by omega,by omega,fun k hk=>by omega,fun j hj=>by omega⟩ ?_
 ·rintro⟨i,j⟩ ag' ⟨t,u,h1,h2,h3,h4,h5,h6⟩ hrec
  dsimp only at h1 h2 h6
  subst h2
  unfold iV oK iU
  dsimp only
  by_cases hu:(u:Int)<(ids.length:Int)
  ·rw[if_pos hu,cN (by omega)]
   by_cases he:at' ids (u:Int)=i
   ·rw[if_pos he,cN (by decide)]
    have hin:(id0+(t:Int))%256∈ids:=by rw[<-h1,<-he];exact xV (by omega)
    have hall:∀k,k<t+1->(id0+(k:Int))%256∈ids:=fun k hk=>by
     rcases Nat.lt_succ_iff_lt_or_eq.1 hk with h|h
     ·exact h5 k h
     ·subst h;exact hin
    have ht:=Sc id0 ids (t+1) (by omega) hall
    have hi:0<=i∧i<=255:=by omega
    rw[wr (by omega) (by omega),Int.tmod_eq_emod_of_nonneg (by omega),wr (by omega) (by omega)]
    refine hrec _ ⟨t+1,0,?_,by simp,by omega,ht,hall,fun j hj=>by omega⟩ ?_
    ·dsimp only;omega
    ·dsimp only
     have e1:((i+1)%256 - id0)%256=(t:Int)+1:=by omega
     have e2:(i - id0)%256=(t:Int):=by omega
     rw[e1,e2];omega
   ·rw[if_neg he,wr (by omega) (by omega)]
    refine hrec _ ⟨t,u+1,h1,by dsimp only;omega,by omega,h4,h5,fun j hj=> ?_⟩ ?_
    ·rcases Nat.lt_succ_iff_lt_or_eq.1 hj with h|h
     ·exact h6 j h
     ·subst h;exact he
    ·dsimp only;omega
  ·rw[if_neg hu]
   rw[cN (by simp;omega),wr (by omega) (by omega)]
   refine hag i (by omega) (by omega) fun hm=> ?_
   obtain⟨k,hk,hke⟩:=AH hm
   exact h6 k (by omega) hke
 ·dsimp only
  have e:(id0%256 - id0)%256=0:=by omega
  rw[e];omega
theorem Rs (x:NQ) (most:Nat) (h1:1<=most) (h24:most<=24):OK (fun g:GR=>EK g.1∧g.2=List.replicate g.1.length []∧1<=g.1.length∧g.1.length<=most) (lY 1000 x (most:Int)):=by
 unfold lY
 rw[bA (pI _ _ (by omega) (by omega))]
 generalize hr:(wI .i64 (x.1 - 1))%(most:Int)=r
 have hr0:0<=r:=by rw[<-hr];exact Int.emod_nonneg _ (by omega)
 have hr1:r<most:=by rw[<-hr];exact Int.emod_lt_of_pos _ (by omega)
 have hw:wI .i64 (1+r)=1+r:=wr (by omega) (by omega)
 rw[hw,cN (by omega)]
 refine u_ (fun s:oU=>s.1=(s.2.length:Int)∧(s.2.length:Int)<=1+r∧EK s.2) (fun s=>(1+r - s.1).toNat) ?_ 1000 _ ⟨rfl,by simp;omega,⟨fun y hy=>by simp at hy,List.nodup_nil⟩⟩ (by dsimp only;omega)
 rintro⟨v,ids⟩ ag ⟨ha,hb,hc⟩ hrec
 dsimp only at ha hb hc
 subst ha
 unfold fZ lF
 dsimp only
 rw[hw]
 by_cases hv:(ids.length:Int)<1+r
 ·rw[if_pos hv,bA (Jo _ _ (by omega)),bA (pI _ _ (by decide) (by decide))]
  exact QM (by omega) _ ag fun y y0 y1 y2=>hrec _ ⟨by simp,by simp;omega,hc.snoc ⟨y0,y1⟩ y2⟩ (by dsimp only;omega)
 ·rw[if_neg hv]
  refine⟨_,rfl,hc,?_,by dsimp only;omega,by dsimp only;omega⟩
  dsimp only
  congr 1;omega

structure VM (ids:aL) (P:dQ):Prop where
 n1:1<=P.length
 n24:P.length<=24
 len:ids.length=P.length
 ok:EK ids
 nd:∀v:Nat,v<P.length->((at' P (v:Int)).map Prod.fst).Nodup
 lk:∀v:Nat,v<P.length->∀x∈at' P (v:Int),(0<=x.1∧x.1<=(P.length:Int) - 1)∧x.1≠(v:Int)∧(1<=x.2∧x.2<=15)∧((v:Int),x.2)∈at' P x.1
theorem Rt {α:Type} [Inhabited α] {l:List α} (h:l.Nodup) {i j:Nat} (hi:i<l.length) (hj:j<l.length) (hij:i<j):at' l (i:Int)≠at' l (j:Int):=by
 rw[iR,iR,List.getD_eq_getElem?_getD,List.getD_eq_getElem?_getD,List.getElem?_eq_getElem hi,List.getElem?_eq_getElem hj]
 exact List.pairwise_iff_getElem.1 (List.nodup_iff_pairwise_ne.1 h) i j hi hj hij
theorem VM.vg {ids:aL} {P:dQ} (h:VM ids P):VG (ids,P):=by
 have hlen:=h.len
 have links:∀v,v<P.length->qL (row (ids,P) v) v P.length:=by
  intro v hv i hi
  have hm:iH (row (ids,P) v) i∈at' P (v:Int):=xV hi
  obtain⟨a1,a2,a3,_⟩:=h.lk v hv _ hm
  refine⟨a1,a2,a3,fun k hk=> ?_⟩
  have hk2:k<(row (ids,P) v).length:=by omega
  have:=List.pairwise_iff_getElem.1 (List.nodup_iff_pairwise_ne.1 (h.nd v hv)) k i (by simpa using hk2) (by simpa using hi) hk
  rw[List.getElem_map,List.getElem_map]at this
  have e:∀j (hj:j<(row (ids,P) v).length),iH (row (ids,P) v) j=(at' P (v:Int))[j]'hj:=fun j hj=>by
   unfold iH
   rw[iR,List.getD_eq_getElem?_getD,List.getElem?_eq_getElem hj];rfl
  rw[e k hk2,e i hi]
  exact this
 refine⟨h.n1,h.n24,h.len,fun v hv=>⟨?_,Lk hv (links v hv),links v hv,fun k hk=> ?_⟩,fun v hv i hi=> ?_⟩
 ·exact h.ok.rng _ (xV (by dsimp only at hv ⊢;omega))
 ·exact Rt h.ok.nd (by dsimp only at hv ⊢;omega) (by dsimp only at hv ⊢;omega) hk
 ·have hm:iH (row (ids,P) v) i∈at' P (v:Int):=xV hi
  obtain⟨_,_,_,a4⟩:=h.lk v hv _ hm
  obtain⟨j,hj,he⟩:=AH a4
  exact⟨j,hj,by unfold iH;rw[he],by unfold iH;rw[he]⟩
theorem VM.start {ids:aL} (h:EK ids) (h1:1<=ids.length) (h24:ids.length<=24):VM ids (List.replicate ids.length []):=by
 have e:∀v:Nat,at' (List.replicate ids.length ([]:eM)) (v:Int)=[]:=fun v=>by
  rw[iR,List.getD_eq_getElem?_getD,List.getElem?_replicate]
  split<;>rfl
 refine⟨by simpa using h1,by simpa using h24,by simp,h,fun v _=>by rw[e];exact List.nodup_nil,fun v _ x hx=> ?_⟩
 rw[e]at hx
 cases hx
def jX (P:dQ) (v u:Nat):Prop:=∃x∈at' P (v:Int),x.1=(u:Int)
theorem He (ids:aL) (P:dQ) (a b:Nat) (ha:a<P.length) (hl:(at' P (a:Int)).length<=900):(jX P a b->kK 1000 (ids,P) a b=some true)∧(¬jX P a b->kK 1000 (ids,P) a b=some false):=by
 have step:∀(r:Bool),(r=true->jX P a b)->(r=false->¬jX P a b)->kK 1000 (ids,P) a b=some r:=by
  intro r ht hf
  unfold kK
  refine Cq (fun i:Int=>∃k:Nat,i=k∧k<=(at' P (a:Int)).length∧∀j,j<k->(at' (at' P (a:Int)) ((j:Nat):Int)).1≠(b:Int)) (fun i=>(at' P (a:Int)).length - i.toNat) ?_ 1000 0 ⟨0,rfl,by omega,fun j hj=>by omega⟩ (by omega)
  rintro i ag ⟨k,rfl,hk,hno⟩ hrec
  unfold uP rB
  dsimp only
  rw[cN (by omega)]
  by_cases hi:(k:Int)<((at' P (a:Int)).length:Int)
  ·rw[if_pos hi,cN (by omega),cN (by omega)]
   by_cases he:(at' (at' P (a:Int)) (k:Int)).1=(b:Int)
   ·rw[if_pos he]
    cases r with
    |true=>rfl
    |false=>exact absurd ⟨_,xV (by omega),he⟩ (hf rfl)
   ·rw[if_neg he,wr (by omega) (by omega)]
    refine hrec _ ⟨k+1,by omega,by omega,fun j hj=> ?_⟩ (by omega)
    rcases Nat.lt_succ_iff_lt_or_eq.1 hj with h|h
    ·exact hno j h
    ·subst h;exact he
  ·rw[if_neg hi]
   cases r with
   |false=>rfl
   |true=>
    obtain⟨x,hx,he⟩:=ht rfl
    obtain⟨j,hj,hje⟩:=AH hx
    exact absurd (by rw[hje];exact he) (hno j (by omega))
 exact⟨fun h=>step true (fun _=>h) (fun hc=>by cases hc),fun h=>step false (fun hc=>by cases hc) (fun _=>h)⟩
theorem Ti (P:dQ) (a b:Nat) (x y:eM) (ha:a<P.length) (hb:b<P.length) (v:Nat):at' ((P.set a x).set b y) (v:Int)=if v=b then y else if v=a then x else at' P (v:Int):=by
 rw[iR,iR,List.getD_eq_getElem?_getD,List.getD_eq_getElem?_getD,List.getElem?_set,List.getElem?_set]
 by_cases h:v=b
 ·subst h;rw[if_pos rfl,if_pos rfl,if_pos (by simpa using hb)];rfl
 ·rw[if_neg (fun hc=>h hc.symm),if_neg h]
  by_cases h2:v=a
  ·subst h2;rw[if_pos rfl,if_pos rfl,if_pos ha];rfl
  ·rw[if_neg (fun hc=>h2 hc.symm),if_neg h2]
theorem VM.add {ids:aL} {P:dQ} (h:VM ids P) {a b:Nat} {w:Int} (ha:a<P.length) (hb:b<P.length) (hab:a≠b) (hn:¬jX P a b) (hw:1<=w∧w<=15)
  {x y:eM} (hx:x.Perm (((b:Int),w)::at' P (a:Int))) (hy:y.Perm (((a:Int),w)::at' P (b:Int))):
  VM ids ((P.set a x).set b y)∧(∀v u,jX P v u->jX ((P.set a x).set b y) v u)∧jX ((P.set a x).set b y) a b:=by
 have hn2:¬jX P b a:=by
  rintro⟨z,hz,he⟩
  obtain⟨_,_,_,hb4⟩:=h.lk b hb z hz
  rw[he]at hb4
  exact hn ⟨_,hb4,rfl⟩
 have hr:=Ti P a b x y ha hb
 have hL:((P.set a x).set b y).length=P.length:=by simp
 have mem:∀(v:Nat) (z:dM),z∈at' ((P.set a x).set b y) (v:Int)↔z∈at' P (v:Int)∨(v=b∧z=((a:Int),w))∨(v=a∧z=((b:Int),w)):=by
  intro v z
  rw[hr v]
  by_cases h1:v=b
  ·subst h1
   rw[if_pos rfl,hy.mem_iff,List.mem_cons]
   constructor
   ·rintro(h2|h2)
    ·exact .inr (.inl ⟨rfl,h2⟩)
    ·exact .inl h2
   ·rintro(h2|⟨_,h2⟩|⟨h3,_⟩)
    ·exact .inr h2
    ·exact .inl h2
    ·exact absurd h3.symm hab
  ·rw[if_neg h1]
   by_cases h2:v=a
   ·subst h2
    rw[if_pos rfl,hx.mem_iff,List.mem_cons]
    constructor
    ·rintro(h3|h3)
     ·exact .inr (.inr ⟨rfl,h3⟩)
     ·exact .inl h3
    ·rintro(h3|⟨h4,_⟩|⟨_,h3⟩)
     ·exact .inr h3
     ·exact absurd h4 h1
     ·exact .inl h3
   ·rw[if_neg h2]
    exact⟨.inl,fun h3=>h3.elim id fun h4=>h4.elim (fun h5=>absurd h5.1 h1) fun h5=>absurd h5.1 h2⟩
 refine⟨⟨by rw[hL];exact h.n1,by rw[hL];exact h.n24,by rw[hL];exact h.len,h.ok,fun v hv=> ?_,fun v hv z hz=> ?_⟩,fun v u hvu=> ?_,?_⟩
 ·rw[hL]at hv
  rw[hr v]
  by_cases h1:v=b
  ·subst h1
   rw[if_pos rfl,(hy.map Prod.fst).nodup_iff,List.map_cons,List.nodup_cons]
   exact⟨fun hc=>by obtain⟨z,hz,he⟩:=List.mem_map.1 hc;exact hn2 ⟨z,hz,he⟩,h.nd v hv⟩
  ·rw[if_neg h1]
   by_cases h2:v=a
   ·subst h2
    rw[if_pos rfl,(hx.map Prod.fst).nodup_iff,List.map_cons,List.nodup_cons]
    exact⟨fun hc=>by obtain⟨z,hz,he⟩:=List.mem_map.1 hc;exact hn ⟨z,hz,he⟩,h.nd v hv⟩
   ·rw[if_neg h2];exact h.nd v hv
 ·rw[hL]at hv ⊢
  rcases(mem v z).1 hz with h1|⟨rfl,rfl⟩|⟨rfl,rfl⟩
  ·obtain⟨b1,b2,b3,b4⟩:=h.lk v hv z h1
   refine⟨b1,b2,b3,?_⟩
   obtain⟨u,hu⟩:∃u:Nat,z.1=u:=⟨z.1.toNat,by omega⟩
   rw[hu]at b4 ⊢
   exact(mem u _).2 (.inl b4)
  ·exact⟨by dsimp only;omega,by dsimp only;omega,hw,(mem a _).2 (.inr (.inr ⟨rfl,rfl⟩))⟩
  ·exact⟨by dsimp only;omega,by dsimp only;omega,hw,(mem b _).2 (.inr (.inl ⟨rfl,rfl⟩))⟩
 ·obtain⟨z,hz,he⟩:=hvu
  exact⟨z,(mem v z).2 (.inl hz),he⟩
 ·exact⟨_,(mem a _).2 (.inr (.inr ⟨rfl,rfl⟩)),rfl⟩
theorem MZ (x:NQ) {ids:aL} {P:dQ} (h:VM ids P) {a b:Nat} {w:Int} (ha:a<P.length) (hb:b<P.length) (hw:1<=w∧w<=15):
  ∃P',kF 1000 x (ids,P) a b w=some P'∧VM ids P'∧P'.length=P.length∧(∀v u,jX P v u->jX P' v u)∧(a≠b->jX P' a b):=by
 have h24:=h.n24
 have dg:∀v:Nat,v<P.length->(at' P (v:Int)).length<24:=fun v hv=>by
  have:=(h.vg.node v hv).deg
  have e:(at' P (v:Int)).length=(row (ids,P) v).length:=rfl
  dsimp only at this
  omega
 have da:=dg a ha
 have db:=dg b hb
 unfold kF
 by_cases hab:a=b
 ·subst hab
  rw[if_pos rfl]
  exact⟨P,rfl,h,rfl,fun _ _ h=>h,fun hc=>absurd rfl hc⟩
 rw[if_neg (by omega)]
 by_cases hn:jX P a b
 ·rw[bA ((He ids P a b ha (by omega)).1 hn)]
  exact⟨P,rfl,h,rfl,fun _ _ h=>h,fun _=>hn⟩
 rw[bA ((He ids P a b ha (by omega)).2 hn)]
 unfold lT
 rw[if_neg (by simp)]
 dsimp only
 cases hbk:x.2.2.2.2.2 with
 | true =>
  rw[if_pos rfl]
  have e:at' (P.set (Int.toNat (a:Int)) ([((b:Int),w)]++at' P (a:Int))) (b:Int)=at' P (b:Int):=by
   rw[iR,List.getD_eq_getElem?_getD,List.getElem?_set,if_neg (by simpa using hab),iR,List.getD_eq_getElem?_getD]
  rw[e]
  rw[cN (by omega),cN (by simp;omega),cN (by omega),cN (by simp;omega),cN (by simp;omega),cN (by simp;omega)]
  obtain⟨h1,h2,h3⟩:=h.add ha hb hab hn hw (List.Perm.refl _) (List.Perm.refl _)
  exact⟨_,rfl,h1,by simp,h2,fun _=>h3⟩
 |false=>
  rw[if_neg (by simp)]
  rw[cN (by omega),cN (by omega),cN (by simp;omega),cN (by simp;omega),cN (by simpa using hab),cN (by simp;omega),cN (by simp;omega)]
  obtain⟨h1,h2,h3⟩:=h.add ha hb hab hn hw (x:=at' P (a:Int)++[((b:Int),w)]) (y:=at' P (b:Int)++[((a:Int),w)]) List.perm_append_comm List.perm_append_comm
  exact⟨_,rfl,h1,by simp,h2,fun _=>h3⟩
theorem Hs (v:Int):wI .i64 (1+v%15)=1+v%15∧1<=1+v%15∧1+v%15<=15:=by
 have:=Int.emod_nonneg v (show(15:Int)≠0 by decide)
 have:=Int.emod_lt_of_pos v (show(0:Int)<15 by decide)
 exact⟨wr (by omega) (by omega),by omega,by omega⟩

theorem UO (x:NQ) (most:Nat) (h1:1<=most) (h24:most<=24):
  OK (fun g:GR=>VM g.1 g.2∧g.2.length<=most∧∀v:Nat,1<=v->v<g.2.length->∃u:Nat,u<v∧jX g.2 u v) (kE 1000 x (most:Int)):=by
 unfold kE
 obtain⟨⟨ids,P0⟩,e0,hid,hP,hn1,hn2⟩:=Rs x most h1 h24
 dsimp only at hP hid hn1 hn2
 rw[bA e0]
 dsimp only
 subst hP
 have hst:=VM.start hid hn1 (by omega)
 refine u_ (fun s:Int×dQ=>∃k:Nat,s.1=k∧1<=k∧k<=ids.length∧VM ids s.2∧s.2.length=ids.length∧∀v:Nat,1<=v->v<k->∃u:Nat,u<v∧jX s.2 u v) (fun s=>ids.length - s.1.toNat) ?_ 1000 _ ⟨1,rfl,by omega,hn1,hst,by simp,fun v hv hv2=>by omega⟩ (by dsimp only;omega)
 rintro⟨i,P⟩ ag ⟨k,hk,hk1,hk2,hV,hL,hT⟩ hrec
 dsimp only at hk hV hL hT
 subst hk
 unfold pO lS
 dsimp only
 by_cases hi:(k:Int)<(P.length:Int)
 ·rw[if_pos hi,wr (by omega) (by omega),bA (Jo _ _ (by omega)),bA (pI _ _ (by omega) (by omega)),bA (Jo _ _ (by omega)),bA (pI _ _ (by decide) (by decide))]
  obtain⟨w1,w2,w3⟩:=Hs (at' x.2.2.1 ((k:Int) - 1))
  rw[w1]
  generalize hu:at' x.2.1 ((k:Int) - 1)%(k:Int)=u
  have u0:0<=u:=by rw[<-hu];exact Int.emod_nonneg _ (by omega)
  have u1:u<k:=by rw[<-hu];exact Int.emod_lt_of_pos _ (by omega)
  obtain⟨u,rfl⟩:∃n:Nat,u=n:=⟨u.toNat,by omega⟩
  obtain⟨P',e1,v1,v2,v3,v4⟩:=MZ x hV (a:=u) (b:=k) (by omega) (by omega) ⟨w2,w3⟩
  rw[bA e1,wr (by omega) (by omega)]
  refine hrec _ ⟨k+1,by dsimp only;omega,by omega,by omega,v1,by dsimp only;omega,fun v hv hv2=> ?_⟩ (by dsimp only;omega)
  by_cases hvk:v=k
  ·subst hvk;exact⟨u,by omega,v4 (by omega)⟩
  ·obtain⟨u',hu1,hu2⟩:=hT v hv (by omega)
   exact⟨u',hu1,v3 _ _ hu2⟩
 ·rw[if_neg hi]
  exact⟨_,rfl,hV,by dsimp only;omega,fun v hv hv2=>hT v hv (by dsimp only at hv2;omega)⟩
theorem Ux (x:NQ) {ids:aL} {P:dQ} (h:VM ids P):OK (fun g:GR=>VM g.1 g.2∧g.1=ids∧g.2.length=P.length∧∀v u,jX P v u->jX g.2 v u) (kG 1000 x (ids,P)):=by
 unfold kG
 have h24:=h.n24
 have hp1:=h.n1
 refine u_ (fun s:Int×dQ=>∃k:Nat,s.1=k∧k<=100∧VM ids s.2∧s.2.length=P.length∧∀v u,jX P v u->jX s.2 v u) (fun s=>200 - s.1.toNat) ?_ 1000 _ ⟨P.length,rfl,by omega,h,rfl,fun _ _ h=>h⟩ (by dsimp only;omega)
 rintro⟨i,Q⟩ ag ⟨k,hk,hk2,hV,hL,hN⟩ hrec
 dsimp only at hk hV hL hN
 subst hk
 have done:∀b:Bool,b=false->OK (fun g:GR=>VM g.1 g.2∧g.1=ids∧g.2.length=P.length∧∀v u,jX P v u->jX g.2 v u) (jI 1000 x (ids,P) ((k:Int),Q) ag b):=by
  rintro b rfl
  exact⟨_,rfl,hV,rfl,hL,hN⟩
 unfold lU
 dsimp only
 rw[wr (by omega) (by omega)]
 by_cases h1:(k:Int)+1<(x.2.1.length:Int)
 rotate_left
 ·rw[if_neg h1];exact done _ rfl
 rw[if_pos h1]
 by_cases h2:(k:Int)<60
 rotate_left
 ·exact done _ (decide_eq_false h2)
 rw[decide_eq_true h2]
 unfold jI
 dsimp only
 rw[if_pos rfl,cN (by omega),bA (pI _ _ (by omega) (by omega)),wr (by omega) (by omega),cN (by omega),bA (pI _ _ (by omega) (by omega)),bA (Jo _ _ (by omega)),bA (pI _ _ (by decide) (by decide))]
 obtain⟨w1,w2,w3⟩:=Hs (at' x.2.2.1 (k:Int))
 rw[w1]
 generalize hu:at' x.2.1 (k:Int)%(P.length:Int)=u
 have u0:0<=u:=by rw[<-hu];exact Int.emod_nonneg _ (by omega)
 have u1:u<P.length:=by rw[<-hu];exact Int.emod_lt_of_pos _ (by omega)
 obtain⟨u,rfl⟩:∃n:Nat,u=n:=⟨u.toNat,by omega⟩
 generalize ht:at' x.2.1 ((k:Int)+1)%(P.length:Int)=t
 have t0:0<=t:=by rw[<-ht];exact Int.emod_nonneg _ (by omega)
 have t1:t<P.length:=by rw[<-ht];exact Int.emod_lt_of_pos _ (by omega)
 obtain⟨t,rfl⟩:∃n:Nat,t=n:=⟨t.toNat,by omega⟩
 obtain⟨P',e1,v1,v2,v3,v4⟩:=MZ x hV (a:=u) (b:=t) (by omega) (by omega) ⟨w2,w3⟩
 rw[bA e1,wr (by omega) (by omega)]
 exact hrec _ ⟨k+2,by dsimp only;omega,by omega,v1,by dsimp only;omega,fun v u hvu=>v3 _ _ (hN v u hvu)⟩ (by dsimp only;omega)
theorem HS (x:NQ) (most:Nat) (h1:1<=most) (h24:most<=24):
  OK (fun g:GR=>VM g.1 g.2∧g.2.length<=most∧∀v:Nat,1<=v->v<g.2.length->∃u:Nat,u<v∧jX g.2 u v) (gE 1000 x (most:Int)):=by
 unfold gE
 obtain⟨⟨ids,P⟩,e0,hV,hL,hT⟩:=UO x most h1 h24
 obtain⟨⟨ids',P'⟩,e1,hV',hi,hL',hN⟩:=Ux x hV
 rw[bA e0,bA e1]
 dsimp only at hL hT hV' hi hL' hN
 refine⟨_,rfl,hV',by dsimp only;omega,fun v hv hv2=> ?_⟩
 obtain⟨u,hu,hu2⟩:=hT v hv (by dsimp only at hv2;omega)
 exact⟨u,hu,hN _ _ hu2⟩
end
end Go.Proofs.YtjlbcgddhnjcjaaGreatDoor
end
section
namespace Go.Proofs.YtjlbcgddhnjcjaaGreatDoor
open Go Go.Sx
section
abbrev val (c:bG) (v x:Nat):Int:=at' (at' c (v:Int)) (x:Int)
def UY (g:GR) (top:Int) (v:Nat) (a:Int):Prop:=if top = -1 then -1<=a∧a<=((row g v).length:Int) - 1 else 0<=a∧a<=top
instance (g:GR) (top:Int) (v:Nat) (a:Int):Decidable (UY g top v a):=by unfold UY;infer_instance

def jK (g:GR):Nat->Int
 |0=>0
 |k+1=>max (jK g k) (at' g.1 (k:Int))
theorem FE {g:GR} (hV:VG g):∀k,k<=g.2.length->0<=jK g k∧jK g k<=255
 |0,_=>by simp[jK]
 |k+1,h=>by
  have h1:=FE hV k (by omega)
  have h2:0<=at' g.1 (k:Int)∧at' g.1 (k:Int)<=255:=(hV.node k (by omega)).id
  simp only[jK];omega
abbrev Er:=Az
def zX (x:Er):Prop:=(0<=x.2.2.2.1∧x.2.2.2.1<=100000)∧(0<=x.2.2.2.2.1∧x.2.2.2.2.1<=100000)∧(0<=x.2.2.2.2.2∧x.2.2.2.2.2<=100000)
def lo (g:GR) (x:Er) (v:Nat):Int:=if x.2.1=2 then 0 else if x.2.1=3 then -1 else x.2.2.1
def hi (g:GR) (x:Er) (v:Nat):Int:=if x.2.1=2 then 1 else if x.2.1=3 then((row g v).length:Int) - 1 else x.2.2.2.1+x.2.2.2.2.1*(g.2.length:Int)+x.2.2.2.2.2*jK g g.1.length
structure U_ (g:GR) (c:bG) (vars:List Er):Prop where
 len:c.length=g.2.length
 row:∀v,v<g.2.length->(at' c (v:Int)).length=vars.length
 ok:∀v,v<g.2.length->∀x,x<vars.length->lo g (at' vars (x:Int)) v<=val c v x∧val c v x<=hi g (at' vars (x:Int)) v
end
section

def Ck (a b:Nat):Nat:=(BitVec.ofInt 32 (a:Int) &&& ~~~ BitVec.ofInt 32 (b:Int)).toNat
theorem Qw (a b:Nat):Ck a b<4294967296:=(BitVec.ofInt 32 (a:Int) &&& ~~~ BitVec.ofInt 32 (b:Int)).isLt
theorem Dc {a i:Nat} (ha:a<4294967296) (h:a.testBit i=true):i<32:=by
 apply Classical.byContradiction
 intro hc
 rw[Nat.testBit_lt_two_pow (Nat.lt_of_lt_of_le ha (Nat.pow_le_pow_right (n:=2) (by omega) (show 32<=i by omega)))]at h
 cases h
theorem De {a b:Nat} (ha:a<4294967296) (hb:b<4294967296) (i:Nat):(Ck a b).testBit i=(a.testBit i && !b.testBit i):=by
 have:=BitVec.getLsbD_and (x:=BitVec.ofInt 32 (a:Int)) (y:= ~~~ BitVec.ofInt 32 (b:Int)) (i:=i)
 rw[BitVec.getLsbD_not]at this
 have h:(Ck a b).testBit i=((Pz (a:Int)).testBit i&&(decide (i<32) && !(Pz (b:Int)).testBit i)):=this
 rw[tH ha,tH hb]at h
 rw[h]
 cases hai:a.testBit i with
 |false=>simp
 |true=>simp[Dc ha hai]
theorem Jp (a b:Nat):rX .u32 (a:Int) (b:Int)=(Ck a b:Int):=KH _ (Qw a b)
theorem DI {a b:Nat} (ha:a<4294967296) (hb:b<4294967296):cH .u32 (a:Int) (b:Int)=((a &&& b:Nat):Int):=by rw[Es,tH ha,tH hb]
theorem XQ {a b:Nat} (ha:a<4294967296) (hb:b<4294967296):CU .u32 (a:Int) (b:Int)=((a ||| b:Nat):Int):=by rw[VI,tH ha,tH hb]
theorem RE {a b:Nat} (ha:a<4294967296) (hb:b<4294967296):a ||| b<4294967296:=Nat.or_lt_two_pow (n:=32) ha hb
theorem Ld {a b:Nat} (ha:a<4294967296):a &&& b<4294967296:=Nat.lt_of_le_of_lt Nat.and_le_left ha
theorem EZ {a k:Nat} (ha:a<4294967296) (hk:k<32):CU .u32 (a:Int) (vN .u32 1 (k:Int))=((a ||| 2^k:Nat):Int):=by rw[Vd hk,XQ ha (DX hk)]
theorem Rq {a k:Nat} (hk:k<32) (ha:a<4294967296):cH .u32 (mH .u32 (a:Int) (k:Int)) 1=0↔a.testBit k=false:=by
 have h1:Pz 1=1:=tH (a:=1) (by omega)
 rw[HM hk,Es,tH (Nat.lt_of_le_of_lt (Nat.div_le_self _ _) ha),h1,Nat.and_one_is_mod,Nat.testBit_eq_decide_div_mod_eq,decide_eq_false_iff_not]
 omega
theorem Cu (p:Nat->Bool) {k:Nat} (hk:k<=32):qA p k<4294967296:=Nat.lt_of_lt_of_le (JE p k) (Nat.pow_le_pow_right (n:=2) (by omega) hk)
theorem Nb {a b:Nat} (h:∀i,a.testBit i=b.testBit i):a=b:=Nat.eq_of_testBit_eq h
theorem Gz {i:Nat} (h:i<1000000):wI .i64 ((i:Int)+1)=(i:Int)+1:=wr (by omega) (by omega)

theorem VG.to {g:GR} (hV:VG g) {v i:Nat} (hv:v<g.2.length) (hi:i<(row g v).length):∃u:Nat,u<g.2.length∧(iH (row g v) i).1=(u:Int):=by
 obtain⟨u,h1,h2,_⟩:=hV.port hv hi
 exact⟨u,h1,h2⟩

end
section
theorem Mq {n i:Nat}:(2^n - 1).testBit i=decide (i<n):=Nat.testBit_two_pow_sub_one n i

def rV:List Er:=[(ByteArray.mk #[109],2,0,0,0,0)]
theorem Xe:yT 1000=some rV:=rfl
theorem Nu:∀x,x<rV.length->zX (at' rV (x:Int)):=by
 intro x hx
 obtain rfl:x=0:=by simp[rV]at hx;exact hx
 exact⟨by decide,by decide,by decide⟩
end
section
theorem Iu {α:Type} [Inhabited α] (l:List α) (x:α) {i:Nat} (hi:i<l.length+1):at' (l++[x]) (i:Int)=if i<l.length then at' l (i:Int)else x:=by
 rw[iR,iR]
 by_cases h:i<l.length
 ·rw[if_pos h,List.getD_eq_getElem?_getD,List.getD_eq_getElem?_getD,List.getElem?_append_left h]
 ·have:i=l.length:=by omega
  subst this
  rw[if_neg h];simp
def PK (g:GR) (vars:List Er) (v:Nat) (l:aL):Prop:=∀x,x<l.length->lo g (at' vars (x:Int)) v<=at' l (x:Int)∧at' l (x:Int)<=hi g (at' vars (x:Int)) v
theorem Of {g:GR} (hV:VG g) (vars:List Er) (raw:aL) (ht:vars.length<=900) (hs:∀x,x<vars.length->zX (at' vars (x:Int)) ∧ -100000<=(at' vars (x:Int)).2.2.1∧(at' vars (x:Int)).2.2.1<=(at' vars (x:Int)).2.2.2.1):
  OK (fun c=>U_ g c vars) (kJ 1000 g vars raw):=by
 have h24:=hV.n24
 have hlen:=hV.len
 have e1:kJ 1000 g vars raw=nN 1000 g vars raw (jK g g.2.length):=by
  unfold kJ
  refine dV (F:=fun k:Nat=>((jK g k,(k:Int)):dM)) g.2.length (fun k ag hk=> ?_) (fun ag=> ?_) 1000 (by omega)
  ·unfold q_
   simp only
   rw[if_pos (by omega),cN (by omega),wr (by omega) (by omega)]
   rfl
  ·unfold q_
   simp only
   rw[if_neg (by omega)]
 rw[e1]
 obtain⟨m1,m2⟩:=FE hV g.2.length (by omega)
 unfold nN
 have key:=pX (step:=gU 1000 g vars raw (jK g g.2.length)) (K:=fun x=>some x.1) g.2.length (fun v x=>x.2=(v:Int)∧x.1.length=v∧∀w,w<v->(at' x.1 (w:Int)).length=vars.length∧PK g vars w (at' x.1 (w:Int))) (fun v x ag hv hI=> ?_) (fun x ag hI=> ?_) 1000 (([]:bG),(0:Int)) ⟨rfl,rfl,fun w hw=>by omega⟩ (by omega)
 ·obtain⟨⟨c,i⟩,⟨_,h2,h3⟩,he⟩:=key
  exact⟨c,he,h2,fun v hv=>(h3 v hv).1,fun v hv x hx=>(h3 v hv).2 x (by rw[(h3 v hv).1];exact hx)⟩
 ·obtain⟨c,i⟩:=x
  obtain⟨rfl,h2,h3⟩:=hI
  simp only at h2 h3
  have hdeg:(at' g.2 (v:Int)).length<g.2.length:=(hV.node v hv).deg
  unfold gU
  simp only
  rw[if_pos (by omega)]
  have key2:=pX (step:=lD 1000 g vars raw (jK g g.2.length) (c,(v:Int)) ag) (K:=fun y=>ag (c++[y.1],(v:Int)+1)) vars.length (fun x y=>y.2=(x:Int)∧y.1.length=x∧PK g vars v y.1) (fun x y ag2 hx hI=> ?_) (fun y ag2 hI=> ?_) 1000 (([]:aL),(0:Int)) ⟨rfl,rfl,fun x hx=>by simp at hx⟩ (by omega)
  ·obtain⟨⟨l,j⟩,⟨_,k2,k3⟩,he⟩:=key2
   refine⟨(c++[l],(v:Int)+1),⟨by simp,by simp[h2],fun w hw=> ?_⟩,he⟩
   simp only
   rw[Iu c l (by omega),h2]
   by_cases e:w<v
   ·rw[if_pos e];exact h3 w e
   ·rw[if_neg e]
    have:w=v:=by omega
    subst this
    exact⟨k2,k3⟩
  ·obtain⟨l,j⟩:=y
   obtain⟨rfl,k2,k3⟩:=hI
   simp only at k2 k3
   obtain⟨⟨s1,s2,s3⟩,s4,s5⟩:=hs x hx
   have fin:∀a b:Int,a=lo g (at' vars (x:Int)) v->b=hi g (at' vars (x:Int)) v -> -100000<=a->a<=b+1->b<=100000000->(a<=b∨(a = -1∧b = -1))->∃y',(y'.2=((x+1:Nat):Int)∧y'.1.length=x+1∧PK g vars v y'.1)∧lC 1000 vars raw (c,(v:Int)) (l,(x:Int)) ag2 (a,b)=ag2 y':=by
    intro a b ha hb q1 q2 q3 q4
    have hab:a<=b:=by omega
    unfold lC
    simp only
    have w1:wI .i64 ((v:Int)*(vars.length:Int))=(v:Int)*(vars.length:Int):=by
     have p1:0<=(v:Int)*(vars.length:Int):=Int.mul_nonneg (by omega) (by omega)
     have p2:(v:Int)*(vars.length:Int)<=24*900:=Int.mul_le_mul (by omega) (by omega) (by omega) (by omega)
     exact wr (by omega) (by omega)
    have p1:0<=(v:Int)*(vars.length:Int):=Int.mul_nonneg (by omega) (by omega)
    have p2:(v:Int)*(vars.length:Int)<=24*900:=Int.mul_le_mul (by omega) (by omega) (by omega) (by omega)
    rw[w1,wr (x:=(v:Int)*(vars.length:Int)+(x:Int)) (by omega) (by omega),Jo _ _ (by omega),bA rfl,wr (x:=b - a) (by omega) (by omega),wr (x:=b - a+1) (by omega) (by omega),pI _ _ (by omega) (by omega),bA rfl]
    have r1:=Int.emod_nonneg (at' raw ((v:Int)*(vars.length:Int)+(x:Int))) (b:=b - a+1) (by omega)
    have r2:=Int.emod_lt_of_pos (at' raw ((v:Int)*(vars.length:Int)+(x:Int))) (b:=b - a+1) (by omega)
    generalize at' raw ((v:Int)*(vars.length:Int)+(x:Int))%(b - a+1)=r at r1 r2
    rw[wr (x:=a+r) (by omega) (by omega),cN (by simp;omega),wr (by omega) (by omega)]
    refine⟨_,⟨by simp,by simp[k2],fun z hz=> ?_⟩,rfl⟩
    simp only[List.length_append,List.length_cons,List.length_nil,k2]at hz
    simp only
    rw[Iu l _ (by omega),k2]
    by_cases e:z<x
    ·rw[if_pos e];exact k3 z (by omega)
    ·rw[if_neg e]
     have:z=x:=by omega
     subst this
     rw[<-ha,<-hb];omega
   unfold lD
   simp only
   rw[if_pos (by omega),cN (by omega),cN (by omega),cN (by omega),cN (by omega),cN (by omega)]
   by_cases t2:(at' vars (x:Int)).2.1=2
   ·rw[if_pos t2]
    exact fin 0 1 (by unfold lo;rw[if_pos t2]) (by unfold hi;rw[if_pos t2]) (by omega) (by omega) (by omega) (by omega)
   ·rw[if_neg t2]
    by_cases t3:(at' vars (x:Int)).2.1=3
    ·rw[if_pos t3,cN (by omega),wr (by omega) (by omega)]
     exact fin (-1) _ (by unfold lo;rw[if_neg t2,if_pos t3]) (by unfold hi;rw[if_neg t2,if_pos t3]) (by omega) (by omega) (by omega) (by omega)
    ·rw[if_neg t3]
     have q1:0<=(at' vars (x:Int)).2.2.2.2.1*(g.2.length:Int):=Int.mul_nonneg s2.1 (by omega)
     have q2:(at' vars (x:Int)).2.2.2.2.1*(g.2.length:Int)<=100000*24:=Int.mul_le_mul s2.2 (by omega) (by omega) (by omega)
     have q3:0<=(at' vars (x:Int)).2.2.2.2.2*jK g g.2.length:=Int.mul_nonneg s3.1 m1
     have q4:(at' vars (x:Int)).2.2.2.2.2*jK g g.2.length<=100000*255:=Int.mul_le_mul s3.2 m2 m1 (by omega)
     rw[wr (x:=(at' vars (x:Int)).2.2.2.2.1*(g.2.length:Int)) (by omega) (by omega),wr (x:=(at' vars (x:Int)).2.2.2.2.2*jK g g.2.length) (by omega) (by omega),wr (x:=(at' vars (x:Int)).2.2.2.1+(at' vars (x:Int)).2.2.2.2.1*(g.2.length:Int)) (by omega) (by omega),wr (by omega) (by omega)]
     exact fin _ _ (by unfold lo;rw[if_neg t2,if_neg t3]) (by unfold hi;rw[if_neg t2,if_neg t3,hlen]) (by omega) (by omega) (by omega) (by omega)
  ·obtain⟨l,j⟩:=y
   obtain⟨rfl,k2,k3⟩:=hI
   simp only at k2 k3
   unfold lD uO
   simp only
   rw[if_neg (by omega),cN (by simp;omega),wr (by omega) (by omega)]
 ·obtain⟨c,i⟩:=x
  obtain⟨rfl,h2,h3⟩:=hI
  unfold gU qZ
  simp only
  rw[if_neg (by omega)]
end
section
def SK (g:GR) (s r v:Nat):Prop:=∃f,s.testBit f=true∧∃m,m<=r∧oY g f m v
theorem SK.lt {g:GR} (hV:VG g) {s r v:Nat} (h:SK g s r v):v<g.2.length:=by
 obtain⟨f,_,m,_,hw⟩:=h
 exact oY.lt hV hw
theorem oY.from {g:GR} {s:Nat}:∀{k v:Nat},oY g s k v->s<g.2.length
 |0,_,h=>h.2
 |_+1,_,h=>by obtain⟨u,h1,_⟩:=h;exact oY.from h1
structure Nr (g:GR) (s k:Nat) (l:aL):Prop where
 len:l.length=g.2.length
 lo:∀v,v<g.2.length -> -1<=D l v
 hi:∀v,v<g.2.length->D l v<=(g.2.length:Int)
 near:∀v,v<g.2.length->0<=D l v->∃f,f<k∧s.testBit f=true∧oY g f (D l v).toNat v
 le:∀v f m,f<k->s.testBit f=true->oY g f m v->0<=D l v∧D l v<=m
theorem Nr.ball {g:GR} (hV:VG g) {s:Nat} {l:aL} (h:Nr g s g.2.length l) {v r:Nat} (hv:v<g.2.length):(0<=D l v∧D l v<=(r:Int))↔SK g s r v:=by
 constructor
 ·rintro⟨h1,h2⟩
  obtain⟨f,hf,hb,hw⟩:=h.near v hv h1
  exact⟨f,hb,_,by omega,hw⟩
 ·rintro⟨f,hb,m,hm,hw⟩
  have:=h.le v f m (oY.from hw) hb hw
  omega
end
section
def low (a b:Int):Int:=if 0<=b∧(a<0∨b<a)then b else a
theorem Nr.skip {g:GR} {s k:Nat} {l:aL} (h:Nr g s k l) (hb:s.testBit k=false):Nr g s (k+1) l where
 len:=h.len
 lo:=h.lo
 hi:=h.hi
 near v hv h0:=by
  obtain⟨f,hf,r⟩:=h.near v hv h0
  exact⟨f,by omega,r⟩
 le v f m hf hbf hw:=by
  by_cases e:f=k
  ·subst e;rw[hb]at hbf;cases hbf
  ·exact h.le v f m (by omega) hbf hw
theorem Nr.step {g:GR} (hV:VG g) {s k:Nat} {l l' d:aL} (h:Nr g s k l) (hb:s.testBit k=true) (hd:AW g k d) (hl:l'.length=g.2.length) (he:∀v,v<g.2.length->D l' v=low (D l v) (D d v)):Nr g s (k+1) l' where
 len:=hl
 lo v hv:=by
  have:=h.lo v hv
  rw[he v hv];unfold low;split<;>omega
 hi v hv:=by
  have:=h.hi v hv
  have:=hd.hi v hv
  rw[he v hv];unfold low;split<;>omega
 near v hv h0:=by
  rw[he v hv]at h0 ⊢
  unfold low at h0 ⊢
  by_cases hc:0<=D d v∧(D l v<0∨D d v<D l v)
  ·rw[if_pos hc]at h0 ⊢
   exact⟨k,by omega,hb,AW.pos hV hd hv hc.1⟩
  ·rw[if_neg hc]at h0 ⊢
   obtain⟨f,hf,r⟩:=h.near v hv h0
   exact⟨f,by omega,r⟩
 le v f m hf hbf hw:=by
  have hv:=oY.lt hV hw
  rw[he v hv]
  unfold low
  by_cases e:f=k
  ·subst e
   have:=AW.le hV hd hw
   split<;>omega
  ·have:=h.le v f m (by omega) hbf hw
   split<;>omega
theorem Nr.start {g:GR} {s:Nat} {l:aL} (hl:l.length=g.2.length) (h:∀v,v<g.2.length->D l v = -1):Nr g s 0 l where
 len:=hl
 lo v hv:=by rw[h v hv];omega
 hi v hv:=by rw[h v hv];omega
 near v hv h0:=by rw[h v hv]at h0;omega
 le v f m hf:=by omega
theorem Gq {g:GR} (hV:VG g) {k:Nat} {l d:aL} (hk:k<g.2.length) (hl:l.length=g.2.length) (hd:AW g k d) (ag:oU->Option aL):
  ∃l',l'.length=g.2.length∧(∀v,v<g.2.length->D l' v=low (D l v) (D d v))∧bD (cL ((k:Int),l) ag d) 1000 ((0:Int),l)=ag ((k:Int)+1,l'):=by
 have h24:=hV.n24
 have hdl:=hd.len
 have key:=pX (step:=cL ((k:Int),l) ag d) (K:=fun x=>ag ((k:Int)+1,x.2)) g.2.length
  (fun i x=>x.1=(i:Int)∧x.2.length=g.2.length∧∀v,v<g.2.length->D x.2 v=if v<i then low (D l v) (D d v)else D l v)
  (fun i x ag2 hi hx=> ?_) (fun x ag2 hx=> ?_) 1000 ((0:Int),l) ⟨rfl,hl,fun v hv=>by rw[if_neg (by omega)]⟩ (by omega)
 ·obtain⟨x',⟨hx1,hx2,hx3⟩,e⟩:=key
  exact⟨x'.2,hx2,fun v hv=>by rw[hx3 v hv,if_pos hv],e⟩
 ·obtain⟨a,b⟩:=x
  obtain⟨h1,h2,h3⟩:=hx
  dsimp only at h1 h2 h3
  subst h1
  have hcur:D b i=D l i:=by rw[h3 i hi,if_neg (by omega)]
  have hcur':at' b (i:Int)=at' l (i:Int):=hcur
  by_cases hc:0<=D d i∧(D l i<0∨D d i<D l i)
  ·refine⟨((i:Int)+1,b.set i (D d i)),⟨by push_cast;rfl,by simp[h2],fun v hv=> ?_⟩,?_⟩
   ·show at' (b.set i (D d i)) (v:Int)=_
    rw[rW _ _ _ _ (by omega)]
    by_cases e:v=i
    ·subst e;rw[if_pos rfl,if_pos (by omega)];unfold low;rw[if_pos hc]
    ·rw[if_neg e]
     have:=h3 v hv
     by_cases e2:v<i
     ·rw[if_pos (by omega)];rw[if_pos e2]at this;exact this
     ·rw[if_neg (by omega)];rw[if_neg e2]at this;exact this
   ·unfold cL fE fD
    obtain⟨c1,c2⟩:=hc
    have c1':0<=at' d (i:Int):=c1
    dsimp only
    rw[if_pos (by omega),cN (by omega),if_pos c1',cN (by omega)]
    by_cases c3:D l i<0
    ·have c3':at' l (i:Int)<0:=c3
     rw[hcur',if_pos c3',if_pos rfl,cN (by omega),Gz (by omega)];rfl
    ·have c3':¬at' l (i:Int)<0:=c3
     have c4':at' d (i:Int)<at' l (i:Int):=by rcases c2 with c|c;exact absurd c c3;exact c
     rw[hcur',if_neg c3',cN (by omega),decide_eq_true c4',if_pos rfl,cN (by omega),Gz (by omega)];rfl
  ·refine⟨((i:Int)+1,b),⟨by push_cast;rfl,h2,fun v hv=> ?_⟩,?_⟩
   ·have:=h3 v hv
    by_cases e:v=i
    ·subst e;rw[if_pos (by omega)];unfold low;rw[if_neg hc];exact hcur
    ·by_cases e2:v<i
     ·rw[if_pos (by omega)];rw[if_pos e2]at this;exact this
     ·rw[if_neg (by omega)];rw[if_neg e2]at this;exact this
   ·unfold cL fE fD
    dsimp only
    rw[if_pos (by omega),cN (by omega)]
    by_cases c1:0<=D d i
    ·have c1':0<=at' d (i:Int):=c1
     have c3':¬at' l (i:Int)<0:=fun c=>hc ⟨c1,.inl c⟩
     have c4':¬at' d (i:Int)<at' l (i:Int):=fun c=>hc ⟨c1,.inr c⟩
     rw[if_pos c1',cN (by omega),hcur',if_neg c3',cN (by omega),decide_eq_false c4',if_neg (by simp),Gz (by omega)]
    ·have c1':¬0<=at' d (i:Int):=c1
     rw[if_neg c1',if_neg (by simp),Gz (by omega)]
 ·obtain⟨a,b⟩:=x
  obtain⟨h1,h2,h3⟩:=hx
  dsimp only at h1
  subst h1
  unfold cL fC
  dsimp only
  rw[if_neg (by omega),Gz (by omega)]
theorem FK {g:GR} (hV:VG g) {s:Nat} (hs:s<4294967296):∃l,eL 1000 g (s:Int)=some l∧Nr g s g.2.length l:=by
 have h24:=hV.n24
 have hlen:g.1.length=g.2.length:=hV.len
 have hr:(List.replicate (Int.toNat (g.1.length:Int)) (0:Int)).length=g.2.length:=by simp[hlen]
 have keyB:∀l0,Nr g s 0 l0->∃l,Nr g s g.2.length l∧bD (bZ 1000 g (s:Int)) 1000 ((0:Int),l0)=some l:=by
  intro l0 h0
  have key:=pX (step:=bZ 1000 g (s:Int)) (K:=fun x=>some x.2) g.2.length (fun k x=>x.1=(k:Int)∧Nr g s k x.2) (fun k x ag hk hx=> ?_) (fun x ag hx=> ?_) 1000 ((0:Int),l0) ⟨rfl,h0⟩ (by omega)
  ·obtain⟨x',⟨_,h⟩,e⟩:=key
   exact⟨x'.2,h,e⟩
  ·obtain⟨a,b⟩:=x
   obtain⟨h1,h2⟩:=hx
   dsimp only at h1 h2
   subst h1
   by_cases hb:s.testBit k=true
   ·obtain⟨d,hd,hD⟩:=HT hV hk
    obtain⟨l',hl',he',e⟩:=Gq hV hk h2.len hD ag
    refine⟨((k:Int)+1,l'),⟨by push_cast;rfl,Nr.step hV h2 hb hD hl' he'⟩,?_⟩
    unfold bZ
    dsimp only
    rw[if_pos (by omega),cN (by omega),if_neg (fun c=>by rw[(Rq (by omega) hs).1 c]at hb;cases hb)]
    show Option.bind (lK 1000 g (k:Int)) _=_
    rw[hd,bA rfl]
    exact e
   ·have hb':s.testBit k=false:=by simpa using hb
    refine⟨((k:Int)+1,b),⟨by push_cast;rfl,Nr.skip h2 hb'⟩,?_⟩
    unfold bZ fC
    dsimp only
    rw[if_pos (by omega),cN (by omega),if_pos ((Rq (by omega) hs).2 hb'),Gz (by omega)]
  ·obtain⟨a,b⟩:=x
   obtain⟨h1,h2⟩:=hx
   dsimp only at h1
   subst h1
   unfold bZ jO
   dsimp only
   rw[if_neg (by omega)]
 unfold eL
 rw[cN (by omega)]
 have key:=pX (step:=gM 1000 g (s:Int)) (K:=fun x=>jN 1000 g (s:Int) x.2) g.2.length
  (fun k x=>x.1=(k:Int)∧x.2.length=g.2.length∧∀v,v<k->D x.2 v = -1) (fun k x ag hk hx=> ?_) (fun x ag hx=> ?_) 1000 ((0:Int),List.replicate (Int.toNat (g.1.length:Int)) (0:Int)) ⟨rfl,hr,fun v hv=>by omega⟩ (by omega)
 ·obtain⟨x',⟨_,h2,h3⟩,e⟩:=key
  obtain⟨l,hl,e2⟩:=keyB x'.2 (Nr.start h2 h3)
  exact⟨l,by rw[e];exact e2,hl⟩
 ·obtain⟨a,b⟩:=x
  obtain⟨h1,h2,h3⟩:=hx
  dsimp only at h1 h2 h3
  subst h1
  refine⟨((k:Int)+1,b.set k (-1)),⟨by push_cast;rfl,by simp[h2],fun v hv=> ?_⟩,?_⟩
  ·show at' (b.set k (-1)) (v:Int) = -1
   rw[rW _ _ _ _ (by omega)]
   by_cases e:v=k
   ·rw[if_pos e]
   ·rw[if_neg e];exact h3 v (by omega)
  ·unfold gM
   dsimp only
   rw[if_pos (by omega),cN (by omega),Gz (by omega)]
   rfl
 ·obtain⟨a,b⟩:=x
  obtain⟨h1,h2,h3⟩:=hx
  dsimp only at h1
  subst h1
  unfold gM
  dsimp only
  rw[if_neg (by omega)]
theorem OM {g:GR} (hV:VG g) {s r:Nat} (hs:s<4294967296):∃m:Nat,m<4294967296∧i_ 1000 g (s:Int) (r:Int)=some (m:Int)∧∀v,m.testBit v=true↔SK g s r v:=by
 have h24:=hV.n24
 obtain⟨l,hl,hN⟩:=FK hV hs
 have hll:=hN.len
 let p:Nat->Bool:=fun v=>decide (0<=D l v∧D l v<=(r:Int))
 refine⟨qA p g.2.length,Cu p (by omega),?_,fun v=> ?_⟩
 ·unfold i_ kR
  rw[(Hr g).1 hV,bA rfl,if_neg (by simp),decide_eq_false (by omega),if_neg (by simp)]
  show Option.bind (eL 1000 g (s:Int)) _=_
  rw[hl,bA rfl]
  refine dV (F:=fun v:Nat=>(((qA p v:Nat):Int),(v:Int))) g.2.length (fun v ag hv=> ?_) (fun ag=> ?_) 1000 (by omega)
  ·have hm:=Cu p (k:=v) (by omega)
   unfold fN kT iC
   dsimp only
   rw[if_pos (by omega),cN (by omega)]
   by_cases c1:0<=D l v
   ·have c1':0<=at' l (v:Int):=c1
    rw[if_pos c1']
    by_cases c2:D l v<=(r:Int)
    ·have c2':at' l (v:Int)<=(r:Int):=c2
     have hp:p v=true:=decide_eq_true ⟨c1,c2⟩
     rw[decide_eq_true c2',if_pos rfl,cN (by omega),EZ hm (by omega),Gz (by omega)]
     simp[qA,hp]
    ·have c2':¬at' l (v:Int)<=(r:Int):=c2
     have hp:p v=false:=decide_eq_false (fun c=>c2 c.2)
     rw[decide_eq_false c2',if_neg (by simp),Gz (by omega)]
     simp[qA,hp]
   ·have c1':¬0<=at' l (v:Int):=c1
    have hp:p v=false:=decide_eq_false (fun c=>c1 c.1)
    rw[if_neg c1',if_neg (by simp),Gz (by omega)]
    simp[qA,hp]
  ·unfold fN kS
   dsimp only
   rw[if_neg (by omega)]
 ·rw[AP]
  constructor
  ·intro h
   rw[Bool.and_eq_true,decide_eq_true_eq]at h
   exact(hN.ball hV h.1).1 (of_decide_eq_true h.2)
  ·intro h
   have hv:=h.lt hV
   rw[Bool.and_eq_true,decide_eq_true_eq]
   exact⟨hv,decide_eq_true ((hN.ball hV hv).2 h)⟩
end
end Go.Proofs.YtjlbcgddhnjcjaaGreatDoor
end
end
section
namespace Go.Proofs.YtjlbcgddhnjcjaaGreatDoor
open Go.Sx
def pA  (a5:aL):Option aL:=
 some (a5)
def pB (a10:oU) (ag9:uT->Option aL) (a15:aL):Option aL:=
 ag9 ((wI .i64 (a10.1+(1:Int))),a15)
def mI (p0:dN) (a10:oU) (ag9:uT->Option aL) (a21:oU) (ag20:uT->Option aL):Option aL:=
 if a21.1<(List.length (at' p0.2 a10.1):Int)then(ck (0<=a21.1∧a21.1<(List.length (at' p0.2 a10.1):Int)) (ck (0<=a10.1∧a10.1<(List.length a21.2:Int)) (ck (0<=((at' (at' p0.2 a10.1) a21.1).1)) (ck (0<=a10.1∧a10.1<(List.length a21.2:Int)) (ag20 ((wI .i64 (a21.1+(1:Int))),(List.set a21.2 (Int.toNat a10.1) (CU .u32 (at' a21.2 a10.1) (vN .u32 (1:Int) ((at' (at' p0.2 a10.1) a21.1).1))))))))))else(pB a10 ag9 (a21.2))
def iL (U:Nat) (p0:dN) (a10:oU) (ag9:uT->Option aL):Option aL:=
 if a10.1<(List.length p0.2:Int)then(ck (0<=a10.1∧a10.1<(List.length p0.2:Int)) (bD (mI p0 a10 ag9) U ((0:Int),a10.2)))else(pA  (a10.2))
def jH (U:Nat) (p0:dN):Option aL:=
 ck (0<=(List.length p0.2:Int)∧(List.length p0.2:Int)<=1099511627) (bD (iL U p0) U ((0:Int),(List.replicate (Int.toNat (List.length p0.2:Int)) (0:Int))))
theorem To:aN Tryz.prog 103:=Tryz.call103
theorem Ef (U:Nat) {p0:dN} (v0:Value)  (v1:Value)  (z2:mT) (r:aL) (h:jH U p0=some r):
  aT Tryz.prog 103 #[Value.agg #[v0,v1]] [Sl bK v0 p0.1,S2 aZ v1 z2 p0.2] (fun x:Value=>x) (fun x l=>Ar mS x r::l) (fun _ l=>l):=by
 refine aT.of Tryz.func103 rfl Tryz.ntmps103 rfl fun c=>?_
 refine sqR<|aF (aJ.box (cs:=[v0,v1]) rfl rfl) rfl fun b1=>qkAsg rfl<|dtN<|sqR<|qkFld rfl<|qkLd 0 rfl<|aB (lN rfl (aC.fact 1 rfl) rfl) rfl<|ckE h fun j2 h=>aF (oG (e:=mS) (0:Int) rfl rfl rfl rfl j2 rfl rfl rfl) rfl fun u3=>qkAsg rfl<|dtN<|aH<|midU (fun a5=>pA  a5=some r) (fun a5 b6=>[(3,u3)]) (fun a5 b6=>[Ar mS u3 a5]) ?_ ?_
 ·refine sqR<|qkFld rfl<|qkLd 1 rfl<|aB (lN rfl (aC.fact 1 rfl) rfl) rfl<|qkMove rfl<|dtN<|aM<|loopL (iL U p0) (fun a10 b11=>[(3,u3),(13,v1),(14,vI (List.length p0.2:Int)),(15,vI (a10.1))]) (fun a10 b11=>[Ar mS u3 a10.2]) ((0:Int),(List.replicate (Int.toNat (List.length p0.2:Int)) (0:Int))) () h SF (aW.ix [0] rfl rfl) ?_
  intro k12 a10 b11 h
  refine sqR<|qkLss rfl<|dtN<|aH ?_
  refine eN h rfl (fun h=>?_) fun h=>?_
  ·refine cF<|aH<|midU (fun a15=>pB a10 (bD (iL U p0) k12) a15=some r) (fun a15 b16=>[(3,u3),(13,v1),(14,vI (List.length p0.2:Int)),(15,vI (a10.1))]) (fun a15 b16=>[Ar mS u3 a15]) ?_ ?_
   ·refine aM<|sqR<|qkMove rfl<|ckE h fun j17 h=>aB (dL rfl rfl (aC.fact 1 rfl) rfl rfl j17) rfl<|aB (dW rfl (aC.fact 1 rfl) rfl rfl j17) rfl<|qkAsg rfl<|qkAsg rfl<|dtN<|sqR<|qkMove rfl<|aB (jF rfl (aC.el (aC.fact 1 rfl) j17.1 j17.2) rfl) rfl<|qkMove rfl<|dtN<|aM<|loopL (mI p0 a10 (bD (iL U p0) k12)) (fun a21 b22=>[(3,u3),(4,vI (a10.1)),(13,v1),(14,vI (List.length p0.2:Int)),(15,vI (a10.1)),(20,(at' z2 a10.1).1),(21,vI (List.length (at' p0.2 a10.1):Int)),(22,vI (a21.1))]) (fun a21 b22=>[Ar mS u3 a21.2]) ((0:Int),a10.2) () h SF (aW.refl _) ?_
    intro k23 a21 b22 h
    refine sqR<|qkLss rfl<|dtN<|aH ?_
    refine eN h rfl (fun h=>?_) fun h=>?_
    ·refine cF<|aH<|aM<|sqR<|ckE h fun j25 h=>aB (aY rfl rfl (aC.el (aC.fact 1 rfl) j17.1 j17.2) rfl rfl j25) rfl<|aB (iJ (cs:=[vI ((at' (at' p0.2 a10.1) a21.1).1),vI ((at' (at' p0.2 a10.1) a21.1).2)]) rfl (aC.el (aC.fact 1 rfl) j17.1 j17.2) bI rfl rfl rfl rfl j25) rfl<|aF (aJ.alloc (cs:=Sp) rfl rfl) rfl fun b26=>bB 0 (vs:=[vI ((at' (at' p0.2 a10.1) a21.1).1),vI ((at' (at' p0.2 a10.1) a21.1).2)]) rfl rfl rfl rfl rfl rfl<|dtN ?_
     refine JR.start [0,0,3,7,0,16,48,127,255,511] 7 mixedOrders (by decide +kernel) ?_
     refine JR.open (by exact rfl) ?_
     refine jkMove rfl<|jkMove rfl<|ckE h fun j27 h=>bH rfl (aW.cons 1 rfl .nil) .nil (aY rfl rfl (aV (aC.res 0 rfl) l_) rfl rfl j27) aO.z<|bH rfl (aW.cons 1 rfl .nil) .nil (bY rfl (aV (aC.res 0 rfl) l_) rfl rfl rfl zV j27) aO.z<|jkFld rfl<|jkLd 0 rfl<|ckE h fun j28 h=>jqN rfl (EV rfl rfl j28)<|bS 7 rfl rfl<|aB (Lb rfl rfl) rfl<|ckE h fun j29 h=>aB (aY rfl rfl (aV (aC.res 1 rfl) l_) rfl rfl j29) rfl<|vK 1 (CU .u32 (at' a21.2 a10.1) (vN .u32 (1:Int) ((at' (at' p0.2 a10.1) a21.1).1))) j29 rfl rfl rfl rfl rfl rfl rfl<|dA<|inT<|aK<|qkAdd rfl<|qkMove rfl<|dtN ?_
     exact mA ((wI .i64 (a21.1+(1:Int))),(List.set a21.2 (Int.toNat a10.1) (CU .u32 (at' a21.2 a10.1) (vN .u32 (1:Int) ((at' (at' p0.2 a10.1) a21.1).1))))) () h SF (aW.ix [1] rfl rfl) (aD.refl _ _)
    refine rE<|eS<|eS<|vJ<|inT ?_
    exact iG (a21.2) () h SF rfl
   intro a15 b16 h
   unfold pB at h
   refine aK<|qkAdd rfl<|qkMove rfl<|dtN ?_
   exact xO ((wI .i64 (a10.1+(1:Int))),a15) () h SF rfl
  refine fL ?_
  exact iG (a10.2) () h SF rfl
 intro a5 b6 h
 unfold pA at h
 refine sqR<|qkMove rfl<|qkAsg rfl<|dtN<|aP ?_
 cases h
 exact gV (u3) rfl rfl (RV.tmp rfl) (aW.refl _) aD.nil
end Go.Proofs.YtjlbcgddhnjcjaaGreatDoor
end
section
namespace Go.Proofs.YtjlbcgddhnjcjaaGreatDoor
open Go Go.Sx
section
structure NP (m k:Nat):Prop where
 bit:m.testBit k=true
 low:∀j,j<k->m.testBit j=false
theorem BL {m:Nat} (h:m≠0):∃k,NP m k:=by
 obtain⟨i,hi⟩:=Nat.exists_testBit_of_ne_zero h
 obtain⟨k,_,h1,h2⟩:=JC (p:=fun i=>m.testBit i=true) i hi
 exact⟨k,h1,fun j hj=>by simpa using h2 j hj⟩
theorem JU {m k:Nat} (h:NP m k) (i:Nat):(m - 1).testBit i=if i<k then true else if i=k then false else m.testBit i:=by
 have hm:m=2^(k+1)*(m / 2^(k+1))+2^k:=by
  refine Nat.eq_of_testBit_eq fun i=> ?_
  have hlt:2^k<2^(k+1):=Nat.pow_lt_pow_right (by omega) (by omega)
  rw[Nat.testBit_two_pow_mul_add _ hlt,Nat.testBit_two_pow,Nat.testBit_div_two_pow]
  rcases Nat.lt_trichotomy i k with q|q|q
  ·rw[if_pos (by omega),h.low i q,decide_eq_false (by omega)]
  ·subst q;rw[if_pos (by omega),h.bit,decide_eq_true rfl]
  ·rw[if_neg (by omega),show i - (k+1)+(k+1)=i by omega]
 have hp:0<2^k:=Nat.pow_pos (by omega)
 have hlt:2^k - 1<2^(k+1):=by rw[Nat.pow_succ];omega
 have e:m - 1=2^(k+1)*(m / 2^(k+1))+(2^k - 1):=by omega
 rw[e,Nat.testBit_two_pow_mul_add _ hlt,Nat.testBit_two_pow_sub_one,Nat.testBit_div_two_pow]
 rcases Nat.lt_trichotomy i k with q|q|q
 ·rw[if_pos (by omega),if_pos q,decide_eq_true q]
 ·subst q;rw[if_pos (by omega),if_neg (by omega),if_pos rfl,decide_eq_false (by omega)]
 ·rw[if_neg (by omega),if_neg (by omega),if_neg (by omega),show i - (k+1)+(k+1)=i by omega]
theorem abo {m:Nat} (hm:m<4294967296) (h0:m≠0):wI .u32 (0 - (m:Int))=((4294967296 - m:Nat):Int):=by
 rw[Bv]
 have:IntKind.u32.wrap (0 - (m:Int))=(0 - (m:Int))%4294967296:=rfl
 rw[this];omega
theorem Ys {m:Nat} (hm:m<4294967296) (h0:m≠0):wI .u32 ((m:Int) - 1)=((m - 1:Nat):Int):=by
 rw[show(m:Int) - 1=((m - 1:Nat):Int) by omega,Bv,KH _ (by omega)]
theorem WF {m k:Nat} (hm:m<4294967296) (h:NP m k):cH .u32 (m:Int) (wI .u32 (0 - (m:Int)))=((2^k:Nat):Int):=by
 have h0:m≠0:=fun e=>by have:=h.bit;rw[e]at this;simp at this
 have hk:k<32:=Dc hm h.bit
 rw[abo hm h0,DI hm (by omega)]
 congr 1
 refine Nat.eq_of_testBit_eq fun i=> ?_
 rw[Nat.testBit_and,show 4294967296 - m=2^32 - ((m - 1)+1) by omega,Nat.testBit_two_pow_sub_succ (by omega),Nat.testBit_two_pow,JU h]
 rcases Nat.lt_trichotomy i k with q|q|q
 ·rw[h.low i q,decide_eq_false (show¬k=i by omega)];rfl
 ·subst q;rw[h.bit,if_neg (by omega),if_pos rfl,decide_eq_true hk,decide_eq_true rfl];rfl
 ·rw[if_neg (by omega),if_neg (by omega),decide_eq_false (show¬k=i by omega)]
  cases m.testBit i<;>simp
theorem HR {m k:Nat} (hm:m<4294967296) (h:NP m k):∃m':Nat,cH .u32 (m:Int) (wI .u32 ((m:Int) - 1))=(m':Int)∧m'<4294967296∧∀i,m'.testBit i=(m.testBit i&&decide (i≠k)):=by
 have h0:m≠0:=fun e=>by have:=h.bit;rw[e]at this;simp at this
 refine⟨m &&& (m - 1),by rw[Ys hm h0,DI hm (by omega)],Ld hm,fun i=> ?_⟩
 rw[Nat.testBit_and,JU h]
 rcases Nat.lt_trichotomy i k with q|q|q
 ·rw[h.low i q];rfl
 ·subst q;simp
 ·rw[if_neg (by omega),if_neg (by omega)]
  have:decide (i≠k)=true:=decide_eq_true (by omega)
  rw[this];cases m.testBit i<;>rfl
theorem Xb:∀k:Fin 32,((0:Int)<=mH .u32 (wI .u32 ((((2^k.val:Nat):Int))*125613361)) 27∧mH .u32 (wI .u32 ((((2^k.val:Nat):Int))*125613361)) 27<((32:Nat):Int))∧wI .i64 (at' rU (mH .u32 (wI .u32 ((((2^k.val:Nat):Int))*125613361)) 27))=(k.val:Int):=by decide +kernel
theorem Nw (f:Nat) {m k:Nat} (hm:m<4294967296) (h:NP m k):fF f (m:Int)=some (k:Int):=by
 have h0:m≠0:=fun e=>by have:=h.bit;rw[e]at this;simp at this
 obtain⟨h1,h2⟩:=Xb ⟨k,Dc hm h.bit⟩
 unfold fF
 rw[if_neg (by omega),cN (by decide),WF hm h,cN ⟨h1,rfl⟩,h2]

structure IT (g:GR) (r:aL):Prop where
 len:r.length=g.2.length
 at':∀v:Nat,v<g.2.length->∃m:Nat,Go.Sx.at' r (v:Int)=(m:Int)∧m<4294967296∧∀u,m.testBit u=true↔EJ g v u
theorem WL {g:GR} (hV:VG g):∃r,jH 1000 g=some r∧IT g r:=by
 have h24:=hV.n24
 unfold jH
 rw[cN (by omega)]
 obtain⟨⟨a,r⟩,⟨ha,hl,hr⟩,he⟩:=pX (step:=iL 1000 g) (K:=fun z=>some z.2) g.2.length
  (fun k z=>z.1=(k:Int)∧z.2.length=g.2.length∧∀v:Nat,v<g.2.length->∃m:Nat,Go.Sx.at' z.2 (v:Int)=(m:Int)∧m<4294967296∧∀u,m.testBit u=true↔v<k∧EJ g v u) (fun k z ag hk hI=>by
  obtain⟨a,r⟩:=z
  obtain⟨ha,hl,hr⟩:=hI
  dsimp only at ha hl hr
  subst ha
  have hdeg:=(hV.node k hk).deg
  obtain⟨⟨b,r'⟩,⟨hb,hl',hr'⟩,he⟩:=pX (step:=mI g ((k:Int),r) ag) (K:=fun z=>ag (((k+1:Nat):Int),z.2)) (row g k).length
   (fun j z=>z.1=(j:Int)∧z.2.length=g.2.length∧∀v:Nat,v<g.2.length->∃m:Nat,Go.Sx.at' z.2 (v:Int)=(m:Int)∧m<4294967296∧∀u,m.testBit u=true↔(v<k∧EJ g v u)∨(v=k∧∃i,i<j∧(iH (row g k) i).1=(u:Int))) (fun j z ag2 hj hJ=>by
   obtain⟨b,q⟩:=z
   obtain⟨hb,hl',hr'⟩:=hJ
   dsimp only at hb hl' hr'
   subst hb
   obtain⟨w,hw,hwe,hadj⟩:=hV.port hk hj
   obtain⟨m,hm,hm32,hbits⟩:=hr' k hk
   refine⟨(((j+1:Nat):Int),q.set k (((m ||| 2^w:Nat)):Int)),⟨rfl,by simpa using hl',fun v hv=> ?_⟩,?_⟩
   ·show∃m',Go.Sx.at' (q.set k _) (v:Int)=_∧_
    rw[rW q k v _ (by omega)]
    by_cases e:v=k
    ·subst e
     refine⟨_,if_pos rfl,RE hm32 (DX (by omega)),fun u=> ?_⟩
     rw[Nat.testBit_or,Nat.testBit_two_pow,Bool.or_eq_true,hbits u,decide_eq_true_eq]
     constructor
     ·rintro((h|⟨_,i,hi,h⟩)|h)
      ·exact .inl h
      ·exact .inr ⟨rfl,i,by omega,h⟩
      ·exact .inr ⟨rfl,j,by omega,by rw[hwe,h]⟩
     ·rintro(h|⟨_,i,hi,h⟩)
      ·exact .inl (.inl h)
      ·by_cases hij:i=j
       ·subst hij;right;rw[hwe]at h;omega
       ·exact .inl (.inr ⟨rfl,i,by omega,h⟩)
    ·obtain⟨m',a1,a2,a3⟩:=hr' v hv
     refine⟨m',by rw[if_neg e];exact a1,a2,fun u=> ?_⟩
     rw[a3 u]
     constructor
     ·rintro(h|⟨h,_⟩)
      ·exact .inl h
      ·exact absurd h e
     ·rintro(h|⟨h,_⟩)
      ·exact .inl h
      ·exact absurd h e
   ·unfold mI
    dsimp only
    rw[if_pos (show(j:Int)<((row g k).length:Int) by omega),cN (show 0<=(j:Int)∧(j:Int)<((row g k).length:Int) by omega),cN (by omega),show Go.Sx.at' (Go.Sx.at' g.2 (k:Int)) (j:Int)=iH (row g k) j from rfl,hwe,cN (by omega),cN (by omega),hm,EZ hm32 (by omega),eC (by omega),Int.toNat_natCast]) (fun z ag2 hJ=>by
   obtain⟨b,q⟩:=z
   obtain⟨hb,hl',hr'⟩:=hJ
   dsimp only at hb hl' hr'
   subst hb
   unfold mI pB
   dsimp only
   rw[if_neg (show¬((row g k).length:Int)<((row g k).length:Int) by omega),eC (by omega)]) 1000 ((0:Int),r) ⟨rfl,hl,fun v hv=>by
    obtain⟨m,a1,a2,a3⟩:=hr v hv
    refine⟨m,a1,a2,fun u=> ?_⟩
    rw[a3 u]
    constructor
    ·exact fun h=> .inl h
    ·rintro(h|⟨_,i,hi,_⟩)
     ·exact h
     ·omega⟩ (by omega)
  dsimp only at hb hl' hr'
  refine⟨(((k+1:Nat):Int),r'),⟨rfl,hl',fun v hv=> ?_⟩,?_⟩
  ·obtain⟨m,a1,a2,a3⟩:=hr' v hv
   refine⟨m,a1,a2,fun u=> ?_⟩
   rw[a3 u]
   constructor
   ·rintro(⟨h1,h2⟩|⟨rfl,i,hi,h⟩)
    ·exact⟨by omega,h2⟩
    ·exact⟨by omega,i,hi,h⟩
   ·rintro⟨h1,h2⟩
    by_cases e:v=k
    ·subst e
     obtain⟨i,hi,h⟩:=h2
     exact .inr ⟨rfl,i,hi,h⟩
    ·exact .inl ⟨by omega,h2⟩
  ·unfold iL
   dsimp only
   rw[if_pos (by omega),cN (by omega)]
   exact he) (fun z ag hI=>by
  obtain⟨a,r⟩:=z
  obtain⟨ha,hl,hr⟩:=hI
  dsimp only at ha
  subst ha
  unfold iL pA
  dsimp only
  rw[if_neg (by omega)]) 1000 ((0:Int),List.replicate (Int.toNat (g.2.length:Int)) (0:Int)) ⟨rfl,by simp,fun v hv=>⟨0,by
   rw[Int.toNat_natCast,jY (by simpa using hv)];simp,by omega,fun u=>by simp⟩⟩ (by omega)
 refine⟨r,he,hl,fun v hv=> ?_⟩
 obtain⟨m,a1,a2,a3⟩:=hr v hv
 exact⟨m,a1,a2,fun u=>by rw[a3 u];exact⟨fun h=>h.2,fun h=>⟨hv,h⟩⟩⟩
end
section
def Pj (g:GR) (m:Nat):Prop:=∀i,m.testBit i=true->i<g.2.length
theorem Pj.lt {g:GR} (hV:VG g) {m:Nat} (h:Pj g m):m<16777216:=by
 have h24:=hV.n24
 refine Nat.lt_of_lt_of_le (Nat.lt_pow_two_of_testBit (n:=24) m fun i hi=> ?_) (Nat.le_refl _)
 cases hb:m.testBit i with
 |false=>rfl
 |true=>have:=h i hb;omega
theorem XU {m:Nat} (h:∀i,i<32->m.testBit i=false) (hm:m<4294967296):m=0:=by
 refine Nat.eq_of_testBit_eq fun i=> ?_
 rw[Nat.zero_testBit]
 rcases Nat.lt_or_ge i 32 with q|q
 ·exact h i q
 ·cases hb:m.testBit i with
  |false=>rfl
  |true=>have:=Dc hm hb;omega
theorem Lz {g:GR} (hV:VG g) {r:aL} (hN:IT g r) {t:Nat} (ht:Pj g t) (hi:∀v u,t.testBit v=true->t.testBit u=true->¬EJ g v u) (F:Nat):∀(d s fuel rest:Nat),s+d=32->rest<4294967296->(∀i,i<s->rest.testBit i=false)->(∀i,rest.testBit i=true->t.testBit i=true)->d<fuel->
  bD (eP F r (t:Int)) fuel (rest:Int)=some true:=by
 have h24:=hV.n24
 have ht32:t<4294967296:=by have:=ht.lt hV;omega
 intro d
 induction d using Nat.strongRecOn with
 | _ d ih =>
  intro s fuel rest hs hr hlow hsub hf
  obtain⟨fuel,rfl⟩:∃f,fuel=f+1:=⟨fuel - 1,by omega⟩
  show eP F r (t:Int) (rest:Int) (bD _ fuel)=_
  unfold eP gJ
  by_cases h0:rest=0
  ·rw[if_neg (by omega)]
  obtain⟨k,hk⟩:=BL h0
  have hkn:=ht k (hsub k hk.bit)
  have hks:s<=k:=by
   rcases Nat.lt_or_ge k s with q|q
   ·have:=hk.bit;rw[hlow k q]at this;cases this
   ·exact q
  obtain⟨m,hm,hm32,hbits⟩:=hN.at' k hkn
  rw[if_pos (by omega),bA (Nw F hr hk),cN (by have:=hN.len;omega),hm,DI hm32 ht32]
  have hz:m &&& t=0:=by
   refine XU (fun i _=> ?_) (Ld hm32)
   rw[Nat.testBit_and]
   cases h1:m.testBit i with
   |false=>rfl
   |true=>
    cases h2:t.testBit i with
    |false=>rfl
    |true=>exact absurd ((hbits i).1 h1) (hi k i (hsub k hk.bit) h2)
  rw[hz,if_neg (by simp)]
  obtain⟨m',e1,e2,e3⟩:=HR hr hk
  rw[e1]
  have hk32:k<32:=by omega
  refine ih (32 - (k+1)) (by omega) (k+1) fuel m' (by omega) e2 (fun i hi=> ?_) (fun i hi=> ?_) (by omega)
  ·rw[e3]
   by_cases e:i=k
   ·simp[e]
   ·rw[hk.low i (by omega)];rfl
  ·rw[e3,Bool.and_eq_true]at hi
   exact hsub i hi.1
theorem Ec {g:GR} (hV:VG g) {r:aL} (hN:IT g r) {t:Nat} (ht:Pj g t) (hi:∀v u,t.testBit v=true->t.testBit u=true->¬EJ g v u):eZ 1000 r (t:Int)=some true:=
 Lz hV hN ht hi 1000 32 0 1000 t (by omega) (by have:=ht.lt hV;omega) (fun i hi=>by omega) (fun i h=>h) (by omega)
theorem Jz {g:GR} (hV:VG g) {r:aL} (hN:IT g r) {W:Nat} (hW:Pj g W) (F:Nat):∀(d s fuel rest t:Nat),s+d=32->rest<4294967296->t<4294967296->(∀i,i<s->rest.testBit i=false)->(∀i,rest.testBit i=true->W.testBit i=true)->(∀i,t.testBit i=true->W.testBit i=true)->(∀v u,t.testBit v=true->t.testBit u=true->¬EJ g v u)->(W≠0->t≠0∨rest=W)->d<fuel->
  ∃t':Nat,bD (cS F r) fuel ((rest:Int),(t:Int))=some (t':Int)∧t'<4294967296∧(∀i,t'.testBit i=true->W.testBit i=true)∧(∀v u,t'.testBit v=true->t'.testBit u=true->¬EJ g v u)∧(W≠0->t'≠0):=by
 have h24:=hV.n24
 intro d
 induction d using Nat.strongRecOn with
 | _ d ih =>
  intro s fuel rest t hs hr ht32 hlow hsub htW hind hne hf
  obtain⟨fuel,rfl⟩:∃f,fuel=f+1:=⟨fuel - 1,by omega⟩
  have hun:bD (cS F r) (fuel+1) ((rest:Int),(t:Int))=cS F r ((rest:Int),(t:Int)) (bD (cS F r) fuel):=rfl
  rw[hun]
  unfold cS jE fY
  dsimp only
  by_cases h0:rest=0
  ·rw[if_neg (by omega)]
   refine⟨t,rfl,ht32,htW,hind,fun hw=> ?_⟩
   rcases hne hw with h|h
   ·exact h
   ·exact absurd (h.symm.trans h0) hw
  obtain⟨k,hk⟩:=BL h0
  have hkW:=hsub k hk.bit
  have hkn:=hW k hkW
  have hks:s<=k:=by
   rcases Nat.lt_or_ge k s with q|q
   ·have:=hk.bit;rw[hlow k q]at this;cases this
   ·exact q
  obtain⟨m,hm,hm32,hbits⟩:=hN.at' k hkn
  obtain⟨m',e1,e2,e3⟩:=HR hr hk
  have hk32:k<32:=by omega
  have low':∀i,i<k+1->m'.testBit i=false:=fun i hi=>by
   rw[e3]
   by_cases e:i=k
   ·simp[e]
   ·rw[hk.low i (by omega)];rfl
  have sub':∀i,m'.testBit i=true->W.testBit i=true:=fun i hi=>by
   rw[e3,Bool.and_eq_true]at hi
   exact hsub i hi.1
  rw[if_pos (by omega),bA (Nw F hr hk),cN (by have:=hN.len;omega),hm,DI hm32 ht32,e1]
  by_cases hz:m &&& t=0
  ·rw[hz,if_pos (by rfl),cN (by omega),EZ ht32 hk32]
   have hkt:(t ||| 2^k).testBit k=true:=by rw[Nat.testBit_or,Nat.testBit_two_pow];simp
   have nadj:∀u,t.testBit u=true->¬EJ g k u:=fun u hu ha=>by
    have:=congrArg (fun q=>q.testBit u) hz
    simp only[Nat.testBit_and,Nat.zero_testBit,(hbits u).2 ha,hu]at this
    cases this
   refine ih (32 - (k+1)) (by omega) (k+1) fuel m' (t ||| 2^k) (by omega) e2 (RE ht32 (DX hk32)) low' sub' (fun i hi=> ?_) (fun v u hv hu=> ?_) (fun _=> .inl fun e=>by rw[e]at hkt;simp at hkt) (by omega)
   ·rw[Nat.testBit_or,Nat.testBit_two_pow,Bool.or_eq_true,decide_eq_true_eq]at hi
    rcases hi with hi|rfl
    ·exact htW i hi
    ·exact hkW
   ·rw[Nat.testBit_or,Nat.testBit_two_pow,Bool.or_eq_true,decide_eq_true_eq]at hv hu
    rcases hv with hv|rfl
    ·rcases hu with hu|rfl
     ·exact hind v u hv hu
     ·exact fun ha=>nadj v hv (hV.back (hW v (htW v hv)) ha)
    ·rcases hu with hu|rfl
     ·exact nadj u hu
     ·rintro⟨i,hi,he⟩
      exact((hV.node k hkn).links i hi).2.1 he
  ·rw[if_neg (by omega)]
   refine ih (32 - (k+1)) (by omega) (k+1) fuel m' t (by omega) e2 ht32 low' sub' htW hind (fun _=> .inl fun e=> ?_) (by omega)
   rw[e]at hz
   exact hz (Nat.and_zero m)
theorem LN {g:GR} (hV:VG g) {r:aL} (hN:IT g r) {kind:Int} (hk1:1<=kind) (hk4:kind<=4) {e w:Nat} (he:Pj g e) (hw:w<4294967296):
  ∃t:Nat,cM 1000 r kind (e:Int) (w:Int)=some (t:Int)∧(∀i,t.testBit i=true->e.testBit i=true)∧(e≠0->t≠0∧dY 1000 r kind (e:Int) (t:Int)=some true∧(kind<=2->∀v u,t.testBit v=true->t.testBit u=true->¬EJ g v u)∧(kind=4->t=e)):=by
 have he24:=he.lt hV
 have he32:e<4294967296:=by omega
 -- the wish
 obtain⟨W,hW,hW32,hWe,hW0,hWm⟩:∃W:Nat,cM 1000 r kind (e:Int) (w:Int)=fX 1000 r kind (e:Int) (W:Int)∧W<4294967296∧(∀i,W.testBit i=true->e.testBit i=true)∧(e≠0->W≠0)∧(e=0->W=0):=by
  unfold cM
  rw[DI hw he32]
  by_cases h0:w &&& e=0
  ·rw[h0,if_pos (show((0:Nat):Int)=0 from rfl)]
   by_cases hee:e=0
   ·refine⟨0,by rw[hee];rfl,by omega,fun i h=>by simp at h,fun h=>absurd hee h,fun _=>rfl⟩
   ·obtain⟨k,hk⟩:=BL hee
    have hk32:=Dc he32 hk.bit
    refine⟨2^k,by rw[WF he32 hk],DX hk32,fun i h=> ?_,fun _=>Nat.ne_of_gt (Nat.pow_pos (by omega)),fun h=>absurd h hee⟩
    rw[Nat.testBit_two_pow,decide_eq_true_eq]at h
    rw[<-h];exact hk.bit
  ·rw[if_neg (by omega)]
   refine⟨w &&& e,rfl,Ld hw,fun i h=> ?_,fun _=>h0,fun h=>by rw[h];exact Nat.and_zero w⟩
   rw[Nat.testBit_and,Bool.and_eq_true]at h
   exact h.2
 have hWG:Pj g W:=fun i hi=>he i (hWe i hi)
 have permits:∀(t:Nat),t≠0->t<4294967296->(∀i,t.testBit i=true->e.testBit i=true)->∀b,(if kind=1 then some (decide ((cH .u32 (t:Int) (wI .u32 ((t:Int) - 1)))=0))else if kind=2 then(Option.bind (eZ 1000 r (t:Int)) fun r7=>some r7)else if kind=4 then some (decide ((t:Int)=(e:Int)))else some true)=some b->dY 1000 r kind (e:Int) (t:Int)=some b:=by
  intro t h0 h32 hsub b hb
  unfold dY jD
  have hd:Ck t e=0:=by
   refine Nat.eq_of_testBit_eq fun i=> ?_
   rw[De h32 he32,Nat.zero_testBit]
   cases h1:t.testBit i with
   |false=>rfl
   |true=>rw[hsub i h1];rfl
  rw[if_neg (by omega),Jp,hd,if_neg (by simp)]
  exact hb
 rw[hW]
 unfold fX
 by_cases k1:kind=1
 ·rw[if_pos k1]
  by_cases hw0:W=0
  ·refine⟨0,by rw[hw0];rfl,fun i h=>by simp at h,fun h=>absurd hw0 (hW0 h)⟩
  ·obtain⟨k,hk⟩:=BL hw0
   have hk32:=Dc hW32 hk.bit
   have hL:NP (2^k) k:=⟨by rw[Nat.testBit_two_pow];simp,fun j hj=>by rw[Nat.testBit_two_pow];exact decide_eq_false (by omega)⟩
   refine⟨2^k,by rw[WF hW32 hk],fun i h=> ?_,fun hee=>⟨Nat.ne_of_gt (Nat.pow_pos (by omega)),?_,fun _ v u hv hu hadj=> ?_,fun h=>by omega⟩⟩
   ·rw[Nat.testBit_two_pow,decide_eq_true_eq]at h
    rw[<-h];exact hWe k hk.bit
   ·refine permits _ (Nat.ne_of_gt (Nat.pow_pos (by omega))) (DX hk32) (fun i h=> ?_) true ?_
    ·rw[Nat.testBit_two_pow,decide_eq_true_eq]at h
     rw[<-h];exact hWe k hk.bit
    ·obtain⟨m',e1,e2,e3⟩:=HR (DX hk32) hL
     rw[if_pos k1,e1]
     have:m'=0:=Nat.eq_of_testBit_eq fun i=>by
      rw[e3,Nat.testBit_two_pow,Nat.zero_testBit]
      by_cases q:k=i
      ·simp[q]
      ·simp[q]
     rw[this];rfl
   ·rw[Nat.testBit_two_pow,decide_eq_true_eq]at hv hu
    subst hv;subst hu
    obtain⟨i,hi,he⟩:=hadj
    exact((hV.node k (hWG k hk.bit)).links i hi).2.1 he
 rw[if_neg k1]
 by_cases k2:kind=2
 ·rw[if_pos k2]
  obtain⟨t,h1,h2,h3,h4,h5⟩:=Jz hV hN hWG 1000 32 0 1000 W 0 (by omega) hW32 (by omega) (fun i hi=>by omega) (fun i h=>h) (fun i h=>by simp at h) (fun v u h=>by simp at h) (fun _=> .inr rfl) (by omega)
  refine⟨t,h1,fun i h=>hWe i (h3 i h),fun hee=>⟨h5 (hW0 hee),?_,fun _=>h4,fun h=>by omega⟩⟩
  refine permits t (h5 (hW0 hee)) h2 (fun i h=>hWe i (h3 i h)) true ?_
  rw[if_neg k1,if_pos k2,bA (Ec hV hN (fun i h=>hWG i (h3 i h)) h4)]
 rw[if_neg k2]
 by_cases k4:kind=4
 ·rw[if_pos k4]
  refine⟨e,rfl,fun i h=>h,fun hee=>⟨hee,permits e hee he32 (fun i h=>h) true ?_,fun h=>by omega,fun _=>rfl⟩⟩
  rw[if_neg k1,if_neg k2,if_pos k4];simp
 ·rw[if_neg k4]
  refine⟨W,rfl,hWe,fun hee=>⟨hW0 hee,permits W (hW0 hee) hW32 hWe true ?_,fun h=>by omega,fun h=>absurd h k4⟩⟩
  rw[if_neg k1,if_neg k2,if_neg k4]
end
end Go.Proofs.YtjlbcgddhnjcjaaGreatDoor
end
section
namespace Go.Proofs.YtjlbcgddhnjcjaaGreatDoor
open Go.Sx
section
def tT  (a4:Int):Option (Int):=
 some (a4)
def qG (p0:aL) (a9:dM) (ag8:c_->Option (Int)):Option (Int):=
 if a9.2<(List.length p0:Int)then(ck (0<=a9.2∧a9.2<(List.length p0:Int)) (ag8 ((max a9.1 (at' p0 a9.2)),(wI .i64 (a9.2+(1:Int))))))else(tT  (a9.1))
def vC (U:Nat) (p0:aL):Option (Int):=
 if(List.length p0:Int)<(1:Int)then(none)else(ck (0<=(0:Int)∧(0:Int)<(List.length p0:Int)) (bD (qG p0) U ((at' p0 (0:Int)),(1:Int))))
theorem TA:aN Tryz.prog 155:=Tryz.call155
theorem Ix (U:Nat) {p0:aL} (v0:Value) (r:Int) (h:vC U p0=some r):
  aT Tryz.prog 155 #[v0] [Sl bK v0 p0] (fun x:Unit=>vI (r)) (fun x l=>l) (fun _ l=>l):=by
 refine aT.of Tryz.func155 rfl Tryz.ntmps155 rfl fun c=>?_
 refine sqR<|qkAsg rfl<|dtN<|aH<|sqR<|qkMove rfl<|qkLen (aC.fact 0 rfl) rfl<|qkLss rfl<|dtN ?_
 refine eN h rfl (fun h=>?_) fun h=>?_
 ·refine aK ?_
  cases h
 refine cF<|sqR<|qkMove rfl<|ckE h fun j2 h=>aB (aY rfl rfl (aC.fact 0 rfl) rfl rfl j2) rfl<|aB (bY rfl (aC.fact 0 rfl) rfl rfl rfl eI j2) rfl<|qkAsg rfl<|dtN<|aH<|midU (fun a4=>tT  a4=some r) (fun a4 b5=>[(3,vI (a4))]) (fun a4 b5=>[]) ?_ ?_
 ·refine sqR<|qkAsg rfl<|dtN<|aM<|loopL (qG p0) (fun a9 b10=>[(0,v0),(3,vI (a9.1)),(4,vI (a9.2))]) (fun a9 b10=>[]) ((at' p0 (0:Int)),(1:Int)) () h SF (aW.refl _) ?_
  intro k11 a9 b10 h
  refine aH<|sqR<|qkMove rfl<|qkMove rfl<|qkLen (aC.fact 0 rfl) rfl<|qkLss rfl<|dtN ?_
  refine eN h rfl (fun h=>?_) fun h=>?_
  ·refine cF<|aH<|aM<|aK<|qkMove rfl<|qkMove rfl<|qkMove rfl<|ckE h fun j13 h=>aB (aY rfl rfl (aC.fact 0 rfl) rfl rfl j13) rfl<|aB (bY rfl (aC.fact 0 rfl) rfl rfl rfl eI j13) rfl<|aB (ES rfl rfl) rfl<|qkAsg rfl<|dA<|inT<|aK<|qkMove rfl<|qkAdd rfl<|qkAsg rfl<|dtN ?_
   exact xO ((max a9.1 (at' p0 a9.2)),(wI .i64 (a9.2+(1:Int)))) () h SF rfl
  refine fL ?_
  exact iG (a9.1) () h SF rfl
 intro a4 b5 h
 unfold tT at h
 refine sqR<|qkMove rfl<|qkAsg rfl<|dtN<|aP ?_
 cases h
 exact kW rfl
end
section
def lI (U:Nat) (p0:Az) (p1:dN) (p2:Int):Option c_:=
 Option.bind (vC U p1.1) fun r3=>(some (p0.2.2.1,(wI .i64 ((wI .i64 (p0.2.2.2.1+(wI .i64 (p0.2.2.2.2.1*(List.length p1.1:Int)))))+(wI .i64 (p0.2.2.2.2.2*r3))))))
theorem Tz:aN Tryz.prog 154:=Tryz.call154
theorem CK (U:Nat) {p0:Az} {p1:dN} {p2:Int} (v0:Value)  (v1:Value)  (z2:mT) (r:dM) (h:lI U p0 p1 p2=some r):
  aT Tryz.prog 154 #[Value.agg #[vS (p0.1),vI (p0.2.1),vI (p0.2.2.1),vI (p0.2.2.2.1),vI (p0.2.2.2.2.1),vI (p0.2.2.2.2.2)],Value.agg #[v0,v1],vI (p2)] [Sl bK v0 p1.1,S2 aZ v1 z2 p1.2] (fun x:Unit=>Value.tuple #[vI (r.1),vI (r.2)]) (fun x l=>l) (fun _ l=>l):=by
 refine aT.of Tryz.func154 rfl Tryz.ntmps154 rfl fun c=>?_
 refine sqR<|aF (aJ.box (cs:=[vS (p0.1),vI (p0.2.1),vI (p0.2.2.1),vI (p0.2.2.2.1),vI (p0.2.2.2.2.1),vI (p0.2.2.2.2.2)]) rfl rfl) rfl fun b1=>aF (aJ.box (cs:=[v0,v1]) rfl rfl) rfl fun b2=>qkAsg rfl<|qkAsg rfl<|dtN<|aH ?_
 refine JR.start [0,1,0,4,0,16,0,64,192,496,1020,0,2048,0,8192,24576,63488,131068,57347,524287] 19 mixedOrders (by decide +kernel) ?_
 refine JR.open (by exact rfl) ?_
 refine jkFld rfl<|jkLd 1 rfl<|jkFld rfl<|jkLd 1 rfl<|jkFld rfl<|jkLd 1 rfl<|jkFld rfl<|jkLd 0 rfl<|bH rfl .nil (qF 0 rfl) (jF rfl (aC.fact 0 rfl) rfl) aO.z<|jqN rfl (yK rfl rfl)<|jqN rfl (uI rfl rfl)<|jkFld rfl<|jkLd 1 rfl<|jkFld rfl<|jkLd 0 rfl<|bnE h fun r3 w4 h=>JR.loud rfl rfl rfl (aJ.callQ TA (Ix U v0 r3 w4) rfl (nY [0] rfl)) rfl (fun x5=>(vG [([1],[]),([],[0]),([0],[]),([1],[]),([1],[]),([1],[])] rfl)) fun x5=>jqN rfl (yK rfl rfl)<|jqN rfl (uI rfl rfl)<|jqN rfl (vL rfl)<|bS 19 rfl rfl<|qkAsg rfl<|dtN<|aP ?_
 cases h
 exact fI () rfl rfl (RV.tmp rfl) (RV.tmp rfl) .nil aD.nil
end
section
def n_ (U:Nat) (p0:Az) (p1:dN) (p2:Int):Option c_:=
 some ((0:Int),(1:Int))
theorem TC:aN Tryz.prog 156:=Tryz.call156
theorem CL (U:Nat) {p0:Az} {p1:dN} {p2:Int} (v0:Value)  (v1:Value)  (z2:mT) (r:dM) (h:n_ U p0 p1 p2=some r):
  aT Tryz.prog 156 #[Value.agg #[vS (p0.1),vI (p0.2.1),vI (p0.2.2.1),vI (p0.2.2.2.1),vI (p0.2.2.2.2.1),vI (p0.2.2.2.2.2)],Value.agg #[v0,v1],vI (p2)] [Sl bK v0 p1.1,S2 aZ v1 z2 p1.2] (fun x:Unit=>Value.tuple #[vI (r.1),vI (r.2)]) (fun x l=>l) (fun _ l=>l):=by
 refine aT.of Tryz.func156 rfl Tryz.ntmps156 rfl fun c=>?_
 unfold n_ at h
 refine sqR<|aF (aJ.box (cs:=[vS (p0.1),vI (p0.2.1),vI (p0.2.2.1),vI (p0.2.2.2.1),vI (p0.2.2.2.2.1),vI (p0.2.2.2.2.2)]) rfl rfl) rfl fun b1=>aF (aJ.box (cs:=[v0,v1]) rfl rfl) rfl fun b2=>qkAsg rfl<|qkAsg rfl<|dtN<|sqR<|qkAsg rfl<|qkAsg rfl<|dtN<|aP ?_
 cases h
 exact fI () rfl rfl (RV.tmp rfl) (RV.tmp rfl) .nil aD.nil
end
section
def lJ (U:Nat) (p0:Az) (p1:dN) (p2:Int):Option c_:=
 ck (0<=p2∧p2<(List.length p1.2:Int)) (some ((-1:Int),(wI .i64 ((List.length (at' p1.2 p2):Int) - (1:Int)))))
theorem TD:aN Tryz.prog 157:=Tryz.call157
theorem CM (U:Nat) {p0:Az} {p1:dN} {p2:Int} (v0:Value)  (v1:Value)  (z2:mT) (r:dM) (h:lJ U p0 p1 p2=some r):
  aT Tryz.prog 157 #[Value.agg #[vS (p0.1),vI (p0.2.1),vI (p0.2.2.1),vI (p0.2.2.2.1),vI (p0.2.2.2.2.1),vI (p0.2.2.2.2.2)],Value.agg #[v0,v1],vI (p2)] [Sl bK v0 p1.1,S2 aZ v1 z2 p1.2] (fun x:Unit=>Value.tuple #[vI (r.1),vI (r.2)]) (fun x l=>l) (fun _ l=>l):=by
 refine aT.of Tryz.func157 rfl Tryz.ntmps157 rfl fun c=>?_
 refine sqR<|aF (aJ.box (cs:=[vS (p0.1),vI (p0.2.1),vI (p0.2.2.1),vI (p0.2.2.2.1),vI (p0.2.2.2.2.1),vI (p0.2.2.2.2.2)]) rfl rfl) rfl fun b1=>aF (aJ.box (cs:=[v0,v1]) rfl rfl) rfl fun b2=>qkAsg rfl<|qkAsg rfl<|dtN<|aH ?_
 refine JR.start [0,1,0,7,15,31,63,0,255] 8 mixedOrders (by decide +kernel) ?_
 refine JR.open (by exact rfl) ?_
 refine jkFld rfl<|jkLd 0 rfl<|jkMove rfl<|ckE h fun j3 h=>bH rfl .nil (qF 1 rfl) (dL rfl rfl (aC.fact 0 rfl) rfl rfl j3) aO.z<|bH rfl .nil (qF 1 rfl) (dW rfl (aC.fact 0 rfl) rfl rfl j3) aO.z<|bH rfl .nil (qF 1 rfl) (jF rfl (aC.el (aC.fact 0 rfl) j3.1 j3.2) rfl) aO.z<|jqN rfl (nW rfl rfl)<|jqN rfl (vL rfl)<|bS 8 rfl rfl<|qkAsg rfl<|dtN<|aP ?_
 cases h
 exact fI () rfl rfl (RV.tmp rfl) (RV.tmp rfl) .nil aD.nil
end
section
def tA  (a4:Unit):Option c_:=
 some ((0:Int),(-1:Int))
def jT (a8:Int) (ag7:(Int)->Option c_) (a12:Unit):Option c_:=
 ag7 (wI .i64 (a8+(1:Int)))
def cX (U:Nat) (p0:Az) (p1:dN) (p2:Int) (a8:Int) (ag7:(Int)->Option c_):Option c_:=
 if a8<(List.length ([((1:Int),(154:Nat)),((2:Int),(156:Nat)),((3:Int),(157:Nat))]):Int)then(ck (0<=a8∧a8<(List.length ([((1:Int),(154:Nat)),((2:Int),(156:Nat)),((3:Int),(157:Nat))]):Int)) (if a8=(0:Int)then(if(1:Int)=p0.2.1 then(Option.bind (lI U ((p0.1,p0.2.1,p0.2.2.1,p0.2.2.2.1,p0.2.2.2.2.1,p0.2.2.2.2.2)) ((p1.1,p1.2)) p2) fun r18=>(some (r18.1,r18.2)))else(jT a8 ag7 (())))else(if a8=(1:Int)then(if(2:Int)=p0.2.1 then(Option.bind (n_ U ((p0.1,p0.2.1,p0.2.2.1,p0.2.2.2.1,p0.2.2.2.2.1,p0.2.2.2.2.2)) ((p1.1,p1.2)) p2) fun r24=>(some (r24.1,r24.2)))else(jT a8 ag7 (())))else(if(3:Int)=p0.2.1 then(Option.bind (lJ U ((p0.1,p0.2.1,p0.2.2.1,p0.2.2.2.1,p0.2.2.2.2.1,p0.2.2.2.2.2)) ((p1.1,p1.2)) p2) fun r30=>(some (r30.1,r30.2)))else(jT a8 ag7 (()))))))else(tA  (()))
def gS (U:Nat) (p0:Az) (p1:dN) (p2:Int):Option c_:=
 bD (cX U p0 p1 p2) U (0:Int)
theorem Mw:aN Tryz.prog 111:=Tryz.call111
theorem zH (U:Nat) {p0:Az} {p1:dN} {p2:Int} (v0:Value)  (v1:Value)  (z2:mT) (r:dM) (h:gS U p0 p1 p2=some r):
  aT Tryz.prog 111 #[Value.agg #[vS (p0.1),vI (p0.2.1),vI (p0.2.2.1),vI (p0.2.2.2.1),vI (p0.2.2.2.2.1),vI (p0.2.2.2.2.2)],Value.agg #[v0,v1],vI (p2)] [Sl bK v0 p1.1,S2 aZ v1 z2 p1.2] (fun x:Unit=>Value.tuple #[vI (r.1),vI (r.2)]) (fun x l=>l) (fun _ l=>l):=by
 refine aT.of Tryz.func111 rfl Tryz.ntmps111 rfl fun c=>?_
 unfold gS at h
 refine sqR<|aF (aJ.box (cs:=[vS (p0.1),vI (p0.2.1),vI (p0.2.2.1),vI (p0.2.2.2.1),vI (p0.2.2.2.2.1),vI (p0.2.2.2.2.2)]) rfl rfl) rfl fun b1=>aF (aJ.box (cs:=[v0,v1]) rfl rfl) rfl fun b2=>qkAsg rfl<|qkAsg rfl<|dtN<|sqR ?_
 refine aB (zZ (r:=Value.agg #[vI (1:Int),Value.func (.func 154) #[] #[]]) rfl rfl (by intro w;simp[Instr.build,Instr.fill,dB,cO,cD,dC,dD,cP,eD])) rfl ?_
 refine aB (zZ (r:=Value.agg #[vI (2:Int),Value.func (.func 156) #[] #[]]) rfl rfl (by intro w;simp[Instr.build,Instr.fill,dB,cO,cD,dC,dD,cP,eD])) rfl ?_
 refine aB (zZ (r:=Value.agg #[vI (3:Int),Value.func (.func 157) #[] #[]]) rfl rfl (by intro w;simp[Instr.build,Instr.fill,dB,cO,cD,dC,dD,cP,eD])) rfl ?_
 refine aF (cE (e:=Ek) ([(((1:Int),((154:Nat)))),(((2:Int),((156:Nat)))),(((3:Int),((157:Nat))))]) [(0,Value.agg #[vI (1:Int),Value.func (.func 154) #[] #[]]),(1,Value.agg #[vI (2:Int),Value.func (.func 156) #[] #[]]),(2,Value.agg #[vI (3:Int),Value.func (.func 157) #[] #[]])] rfl rfl rfl rfl (QK (vI (1:Int)) (Value.func (.func 154) #[] #[]) (vI (2:Int)) (Value.func (.func 156) #[] #[]) (vI (3:Int)) (Value.func (.func 157) #[] #[])) rfl rfl rfl) rfl fun u3=>qkAsg rfl<|dtN<|aH<|midU (fun a4=>tA  a4=some r) (fun a4 b5=>[]) (fun a4 b5=>[]) ?_ ?_
 ·refine sqR<|qkMove rfl<|aB (jF rfl (aV (aC.res 0 rfl) wL) rfl) rfl<|qkMove rfl<|dtN<|aM<|loopL (cX U p0 p1 p2) (fun a8 b9=>[(2,vI (p2)),(3,vP b1),(4,vP b2),(15,u3),(16,vI (List.length ([((1:Int),(154:Nat)),((2:Int),(156:Nat)),((3:Int),(157:Nat))]):Int)),(17,vI (a8))]) (fun a8 b9=>[Ar Ek u3 ([((1:Int),(154:Nat)),((2:Int),(156:Nat)),((3:Int),(157:Nat))]),bT b2 [v0,v1] 29,bT b1 [vS (p0.1),vI (p0.2.1),vI (p0.2.2.1),vI (p0.2.2.2.1),vI (p0.2.2.2.2.1),vI (p0.2.2.2.2.2)] 84]) (0:Int) () h SF (aW.refl _) ?_
  intro k10 a8 b9 h
  refine sqR<|qkLss rfl<|dtN<|aH ?_
  refine eN h rfl (fun h=>?_) fun h=>?_
  ·refine cF<|aH<|midU (fun a12=>jT a8 (bD (cX U p0 p1 p2) k10) a12=some r) (fun a12 b13=>[(2,vI (p2)),(3,vP b1),(4,vP b2),(15,u3),(16,vI (List.length ([((1:Int),(154:Nat)),((2:Int),(156:Nat)),((3:Int),(157:Nat))]):Int)),(17,vI (a8))]) (fun a12 b13=>[Ar Ek u3 ([((1:Int),(154:Nat)),((2:Int),(156:Nat)),((3:Int),(157:Nat))]),bT b2 [v0,v1] 29,bT b1 [vS (p0.1),vI (p0.2.1),vI (p0.2.2.1),vI (p0.2.2.2.1),vI (p0.2.2.2.2.1),vI (p0.2.2.2.2.2)] 84]) ?_ ?_
   ·refine aM<|sqR<|ckE h fun j14 h=>aB (aY rfl rfl (aV (aC.res 0 rfl) wL) rfl rfl j14) rfl ?_
    by_cases hq15:a8=(0:Int)
    ·have h:=SE hq15 h
     refine aB (iJ (cs:=[vI (1:Int),Value.func (.func 154) #[] #[]]) rfl (aV (aC.res 0 rfl) wL) wL (by rw[hq15];rfl) rfl rfl rfl j14) rfl ?_
     refine aF (aJ.alloc (cs:=[vI (0:Int),Value.nilFunc]) rfl rfl) rfl fun b16=>bB 0 (vs:=[vI (1:Int),Value.func (.func 154) #[] #[]]) rfl rfl rfl rfl rfl rfl<|dtN<|sqR<|qkFld rfl<|qkLd 0 rfl<|qkFld rfl<|qkLd 3 rfl<|qkEql rfl<|dtN ?_
     refine eN h rfl (fun h=>?_) fun h=>?_
     ·refine sqR<|qkFld rfl<|qkLd 0 rfl<|qkLdA 3 rfl<|qkLdA 2 rfl<|qkMove rfl<|bnE h fun r18 w19 h=>aF (oF (vs:=[Value.agg #[vS (p0.1),vI (p0.2.1),vI (p0.2.2.1),vI (p0.2.2.2.1),vI (p0.2.2.2.2.1),vI (p0.2.2.2.2.2)],Value.agg #[v0,v1],vI (p2)]) (cs:=[]) Tz rfl (CK U v0 v1 z2 r18 w19) rfl (nY [0,1] rfl) (fun _ _=>rfl)) rfl fun x20=>qkExt rfl<|qkExt rfl<|qkAsg rfl<|qkAsg rfl<|dtN<|aP<|bJ<|aG<|aG<|bJ<|aG ?_
      cases h
      exact fI () rfl rfl (RV.tmp rfl) (RV.tmp rfl) .nil aD.nil
     refine dO<|inT ?_
     exact cG () (()) h SF (aW.ix [1,2,3] rfl rfl) (aD.refl _ _)
    have h:=YI hq15 h
    by_cases hq21:a8=(1:Int)
    ·have h:=SE hq21 h
     refine aB (iJ (cs:=[vI (2:Int),Value.func (.func 156) #[] #[]]) rfl (aV (aC.res 0 rfl) wL) wL (by rw[hq21];rfl) rfl rfl rfl j14) rfl ?_
     refine aF (aJ.alloc (cs:=[vI (0:Int),Value.nilFunc]) rfl rfl) rfl fun b22=>bB 0 (vs:=[vI (2:Int),Value.func (.func 156) #[] #[]]) rfl rfl rfl rfl rfl rfl<|dtN<|sqR<|qkFld rfl<|qkLd 0 rfl<|qkFld rfl<|qkLd 3 rfl<|qkEql rfl<|dtN ?_
     refine eN h rfl (fun h=>?_) fun h=>?_
     ·refine sqR<|qkFld rfl<|qkLd 0 rfl<|qkLdA 3 rfl<|qkLdA 2 rfl<|qkMove rfl<|bnE h fun r24 w25 h=>aF (oF (vs:=[Value.agg #[vS (p0.1),vI (p0.2.1),vI (p0.2.2.1),vI (p0.2.2.2.1),vI (p0.2.2.2.2.1),vI (p0.2.2.2.2.2)],Value.agg #[v0,v1],vI (p2)]) (cs:=[]) TC rfl (CL U v0 v1 z2 r24 w25) rfl (nY [0,1] rfl) (fun _ _=>rfl)) rfl fun x26=>qkExt rfl<|qkExt rfl<|qkAsg rfl<|qkAsg rfl<|dtN<|aP<|bJ<|aG<|aG<|bJ<|aG ?_
      cases h
      exact fI () rfl rfl (RV.tmp rfl) (RV.tmp rfl) .nil aD.nil
     refine dO<|inT ?_
     exact cG () (()) h SF (aW.ix [1,2,3] rfl rfl) (aD.refl _ _)
    have h:=YI hq21 h
    have hq27:a8=(2:Int):=by have q:=j14;simp only[List.length_cons,List.length_nil]at q;omega
    refine aB (iJ (cs:=[vI (3:Int),Value.func (.func 157) #[] #[]]) rfl (aV (aC.res 0 rfl) wL) wL (by rw[hq27];rfl) rfl rfl rfl j14) rfl ?_
    refine aF (aJ.alloc (cs:=[vI (0:Int),Value.nilFunc]) rfl rfl) rfl fun b28=>bB 0 (vs:=[vI (3:Int),Value.func (.func 157) #[] #[]]) rfl rfl rfl rfl rfl rfl<|dtN<|sqR<|qkFld rfl<|qkLd 0 rfl<|qkFld rfl<|qkLd 3 rfl<|qkEql rfl<|dtN ?_
    refine eN h rfl (fun h=>?_) fun h=>?_
    ·refine sqR<|qkFld rfl<|qkLd 0 rfl<|qkLdA 3 rfl<|qkLdA 2 rfl<|qkMove rfl<|bnE h fun r30 w31 h=>aF (oF (vs:=[Value.agg #[vS (p0.1),vI (p0.2.1),vI (p0.2.2.1),vI (p0.2.2.2.1),vI (p0.2.2.2.2.1),vI (p0.2.2.2.2.2)],Value.agg #[v0,v1],vI (p2)]) (cs:=[]) TD rfl (CM U v0 v1 z2 r30 w31) rfl (nY [0,1] rfl) (fun _ _=>rfl)) rfl fun x32=>qkExt rfl<|qkExt rfl<|qkAsg rfl<|qkAsg rfl<|dtN<|aP<|bJ<|aG<|aG<|bJ<|aG ?_
     cases h
     exact fI () rfl rfl (RV.tmp rfl) (RV.tmp rfl) .nil aD.nil
    refine dO<|inT ?_
    exact cG () (()) h SF (aW.ix [1,2,3] rfl rfl) (aD.refl _ _)
   intro a12 b13 h
   unfold jT at h
   refine aK<|qkAdd rfl<|qkMove rfl<|dtN ?_
   exact xO (wI .i64 (a8+(1:Int))) () h SF rfl
  refine fL ?_
  exact cG () (()) h SF .nil (aD.refl _ _)
 intro a4 b5 h
 unfold tA at h
 refine sqR<|qkAsg rfl<|qkAsg rfl<|dtN<|aP ?_
 cases h
 exact fI () rfl rfl (RV.tmp rfl) (RV.tmp rfl) (aW.refl _) aD.nil
end
section
def r_  (a11:Unit):Option (Int):=
 some (0:Int)
def mJ (a15:Int) (ag14:(Int)->Option (Int)) (a19:Unit):Option (Int):=
 ag14 (wI .i64 (a15+(1:Int)))
def sA (a15:Int) (ag14:(Int)->Option (Int)) (a28:Bool):Option (Int):=
 if a28=true then(some (9:Int))else(mJ a15 ag14 (()))
def j_ (U:Nat) (p0:vF) (p1:dN) (a15:Int) (ag14:(Int)->Option (Int)):Option (Int):=
 if a15<(List.length p0.2.1:Int)then(ck (0<=a15∧a15<(List.length p0.2.1:Int)) (if((at' p0.2.1 a15).2.1)≠(1:Int)then(mJ a15 ag14 (()))else(Option.bind (gS U ((((at' p0.2.1 a15).1),((at' p0.2.1 a15).2.1),((at' p0.2.1 a15).2.2.1),((at' p0.2.1 a15).2.2.2.1),((at' p0.2.1 a15).2.2.2.2.1),((at' p0.2.1 a15).2.2.2.2.2))) ((p1.1,p1.2)) (0:Int)) fun r24=>(if r24.2<r24.1 then(sA a15 ag14 (true))else(sA a15 ag14 (decide ((4096:Int)<(wI .i64 ((wI .i64 (r24.2 - r24.1))+(1:Int))))))))))else(r_  (()))
def pY (U:Nat) (p0:vF) (p1:dN):Option (Int):=
 Option.bind (xE U ((p0.1,p0.2.1,p0.2.2))) fun r3=>(if(!r3)=true then(some (8:Int))else(Option.bind (e_ U ((p1.1,p1.2))) fun r7=>(if(!r7)=true then(some (1:Int))else(bD (j_ U p0 p1) U (0:Int)))))
theorem VX:aN Tryz.prog 72:=Tryz.call72
theorem Gt (U:Nat) {p0:vF} {p1:dN} (v0:Value)  (v1:Value)  (v2:Value)  (v3:Value)  (z4:mT) (r:Int) (h:pY U p0 p1=some r):
  aT Tryz.prog 72 #[Value.agg #[vS (p0.1),v0,v1],Value.agg #[v2,v3]] [Sl aI v0 p0.2.1,Sl aE v1 p0.2.2,PF (Value.agg #[vS p0.1,v0,v1]),Sl bK v2 p1.1,S2 aZ v3 z4 p1.2] (fun x:Unit=>vI (r)) (fun x l=>l) (fun _ l=>l):=by
 refine aT.of Tryz.func72 rfl Tryz.ntmps72 rfl fun c=>?_
 refine sqR<|aF (aJ.box (cs:=[vS (p0.1),v0,v1]) rfl rfl) rfl fun b1=>aF (aJ.box (cs:=[v2,v3]) rfl rfl) rfl fun b2=>qkAsg rfl<|dtN<|aH<|sqR<|qkLdA 1 rfl<|bnE h fun r3 w4 h=>aF (aJ.callQ Qc (Gy U v0 v1 r3 w4) rfl (nY [0,1,2] rfl)) rfl fun x5=>aB (wO rfl) rfl<|dtN ?_
 refine Ab h rfl (fun _ h=>?_) fun _ h=>?_
 ·refine sqR<|qkAsg rfl<|dtN<|aP<|aG ?_
  cases h
  exact wG rfl
 refine cF<|aH<|sqR<|qkLdA 0 rfl<|bnE h fun r7 w8 h=>aF (aJ.callQ HO (tV U v2 v3 z4 r7 w8) rfl (nY [3,4] rfl)) rfl fun x9=>aB (wO rfl) rfl<|dtN ?_
 refine Ab h rfl (fun _ h=>?_) fun _ h=>?_
 ·refine sqR<|qkAsg rfl<|dtN<|aP<|aG ?_
  cases h
  exact wG rfl
 refine cF<|aH<|midU (fun a11=>r_  a11=some r) (fun a11 b12=>[]) (fun a11 b12=>[]) ?_ ?_
 ·refine sqR<|qkFld rfl<|qkLd 1 rfl<|qkLen (aC.fact 0 rfl) rfl<|qkMove rfl<|dtN<|aM<|loopL (j_ U p0 p1) (fun a15 b16=>[(3,vP b2),(16,v0),(17,vI (List.length p0.2.1:Int)),(18,vI (a15))]) (fun a15 b16=>[bT b2 [v2,v3] 29]) (0:Int) () h SF (aW.ix [0] rfl rfl) ?_
  intro k17 a15 b16 h
  refine sqR<|qkLss rfl<|dtN<|aH ?_
  refine eN h rfl (fun h=>?_) fun h=>?_
  ·refine cF<|aH<|midU (fun a19=>mJ a15 (bD (j_ U p0 p1) k17) a19=some r) (fun a19 b20=>[(3,vP b2),(16,v0),(17,vI (List.length p0.2.1:Int)),(18,vI (a15))]) (fun a19 b20=>[bT b2 [v2,v3] 29]) ?_ ?_
   ·refine aM<|sqR<|ckE h fun j21 h=>aB (aY rfl rfl (aC.fact 0 rfl) rfl rfl j21) rfl<|aB (iJ (cs:=[vS ((at' p0.2.1 a15).1),vI ((at' p0.2.1 a15).2.1),vI ((at' p0.2.1 a15).2.2.1),vI ((at' p0.2.1 a15).2.2.2.1),vI ((at' p0.2.1 a15).2.2.2.2.1),vI ((at' p0.2.1 a15).2.2.2.2.2)]) rfl (aC.fact 0 rfl) pN rfl rfl rfl rfl j21) rfl<|aF (aJ.alloc (cs:=vD4) rfl rfl) rfl fun b22=>bB 0 (vs:=[vS ((at' p0.2.1 a15).1),vI ((at' p0.2.1 a15).2.1),vI ((at' p0.2.1 a15).2.2.1),vI ((at' p0.2.1 a15).2.2.2.1),vI ((at' p0.2.1 a15).2.2.2.2.1),vI ((at' p0.2.1 a15).2.2.2.2.2)]) rfl rfl rfl rfl rfl rfl<|dtN<|aH<|sqR<|qkFld rfl<|qkLd 0 rfl<|qkNeq rfl<|dtN ?_
    refine eN h rfl (fun h=>?_) fun h=>?_
    ·refine rE<|eS<|vJ<|uU ?_
     exact cG () (()) h SF (aW.ix [1] rfl rfl) (aD.refl _ _)
    refine cF<|sqR<|qkLdA 0 rfl<|qkLdA 1 rfl<|bnE h fun r24 w25 h=>aF (aJ.callQ Mw (zH U v2 v3 z4 r24 w25) rfl (nY [3,4] rfl)) rfl fun x26=>qkMove rfl<|qkExt rfl<|qkExt rfl<|qkAsg rfl<|qkAsg rfl<|dtN<|aH<|midU (fun a28=>sA a15 (bD (j_ U p0 p1) k17) a28=some r) (fun a28 b29=>[(3,vP b2),(16,v0),(17,vI (List.length p0.2.1:Int)),(18,vI (a15)),(40,vB (a28))]) (fun a28 b29=>[bT b2 [v2,v3] 29]) ?_ ?_
    ·refine aK<|qkMove rfl<|qkMove rfl<|qkLss rfl<|qkMove rfl ?_
     refine Bi h rfl (fun _ h=>?_) fun _ h=>?_
     ·refine gdSkip rfl<|gdSkip rfl<|gdSkip rfl<|gdSkip rfl<|gdSkip rfl<|qkPkT rfl<|dtN ?_
      exact cG (true) () h SF (aW.ix [1] rfl rfl) (aD.refl _ _)
     refine gyMove rfl<|gyMove rfl<|aS rfl (nW rfl rfl) rfl<|aS rfl (uI rfl rfl) rfl<|aS rfl (vM rfl rfl) rfl<|qkPkF rfl<|dtN ?_
     exact cG (decide ((4096:Int)<(wI .i64 ((wI .i64 (r24.2 - r24.1))+(1:Int))))) () h SF (aW.ix [1] rfl rfl) (aD.refl _ _)
    intro a28 b29 h
    refine Ab h rfl (fun _ h=>?_) fun _ h=>?_
    ·refine sqR<|qkAsg rfl<|dtN<|aP<|bJ<|aG<|aG<|bJ<|aG ?_
     cases h
     exact wG rfl
    refine dO<|inT ?_
    exact iG () (()) h SF rfl
   intro a19 b20 h
   unfold mJ at h
   refine aK<|qkAdd rfl<|qkMove rfl<|dtN ?_
   exact xO (wI .i64 (a15+(1:Int))) () h SF rfl
  refine fL ?_
  exact cG () (()) h SF .nil (aD.refl _ _)
 intro a11 b12 h
 unfold r_ at h
 refine sqR<|qkAsg rfl<|dtN<|aP ?_
 cases h
 exact kW rfl
end
section
def qW  (a2:Unit):Option (Bool):=
 some (true)
def qX (a6:Int) (ag5:(Int)->Option (Bool)) (a12:Bool):Option (Bool):=
 if a12=true then(some (false))else(ag5 (wI .i64 (a6+(1:Int))))
def lB (p0:eM) (p1:aL) (a6:Int) (ag5:(Int)->Option (Bool)):Option (Bool):=
 if a6<(List.length p1:Int)then(ck (0<=a6∧a6<(List.length p1:Int)) (ck (0<=a6∧a6<(List.length p0:Int)) (if(at' p1 a6)<((at' p0 a6).1)then(qX a6 ag5 (true))else(ck (0<=a6∧a6<(List.length p0:Int)) (qX a6 ag5 (decide (((at' p0 a6).2)<(at' p1 a6))))))))else(qW  (()))
def sH (U:Nat) (p0:eM) (p1:aL):Option (Bool):=
 if(List.length p1:Int)≠(List.length p0:Int)then(some (false))else(bD (lB p0 p1) U (0:Int))
theorem Tp:aN Tryz.prog 112:=Tryz.call112
theorem FZ (U:Nat) {p0:eM} {p1:aL} (v0:Value)  (v1:Value) (r:Bool) (h:sH U p0 p1=some r):
  aT Tryz.prog 112 #[v0,v1] [Sl aZ v0 p0,Sl bK v1 p1] (fun x:Unit=>vB (r)) (fun x l=>l) (fun _ l=>l):=by
 refine aT.of Tryz.func112 rfl Tryz.ntmps112 rfl fun c=>?_
 refine sqR<|qkAsg rfl<|dtN<|aH<|sqR<|qkMove rfl<|qkLen (aC.fact 1 rfl) rfl<|qkMove rfl<|qkLen (aC.fact 0 rfl) rfl<|qkNeq rfl<|dtN ?_
 refine eN h rfl (fun h=>?_) fun h=>?_
 ·refine sqR<|qkAsg rfl<|dtN<|aP<|aG ?_
  cases h
  exact kW rfl
 refine cF<|aH<|midU (fun a2=>qW  a2=some r) (fun a2 b3=>[]) (fun a2 b3=>[]) ?_ ?_
 ·refine sqR<|qkMove rfl<|qkLen (aC.fact 1 rfl) rfl<|qkMove rfl<|dtN<|aM<|loopL (lB p0 p1) (fun a6 b7=>[(0,v0),(12,v1),(13,vI (List.length p1:Int)),(14,vI (a6))]) (fun a6 b7=>[]) (0:Int) () h SF (aW.refl _) ?_
  intro k8 a6 b7 h
  refine sqR<|qkLss rfl<|dtN<|aH ?_
  refine eN h rfl (fun h=>?_) fun h=>?_
  ·refine cF<|aH<|aM<|sqR<|qkMove rfl<|ckE h fun j10 h=>aB (aY rfl rfl (aC.fact 1 rfl) rfl rfl j10) rfl<|aB (bY rfl (aC.fact 1 rfl) rfl rfl rfl eI j10) rfl<|qkAsg rfl<|qkAsg rfl<|dtN<|aH<|midU (fun a12=>qX a6 (bD (lB p0 p1) k8) a12=some r) (fun a12 b13=>[(0,v0),(12,v1),(13,vI (List.length p1:Int)),(14,vI (a6)),(34,vB (a12))]) (fun a12 b13=>[]) ?_ ?_
   ·refine aK<|qkMove rfl<|qkMove rfl<|qkMove rfl<|ckE h fun j15 h=>aB (aY rfl rfl (aC.fact 0 rfl) rfl rfl j15) rfl ?_
    refine aB (AG (i:=0) rfl rfl rfl rfl rfl (by decide)) rfl ?_
    refine aB (nZ rfl (aC.fact 0 rfl) rfl rfl rfl yE j15) rfl<|qkLss rfl<|qkMove rfl ?_
    refine Bi h rfl (fun _ h=>?_) fun _ h=>?_
    ·refine gdSkip rfl<|gdSkip rfl<|gdSkip rfl<|gdSkip rfl<|gdSkip rfl<|gdSkip rfl<|gdSkip rfl<|qkPkT rfl<|dtN ?_
     exact iG (true) () h SF rfl
    refine gyMove rfl<|gyMove rfl<|gyMove rfl<|ckE h fun j17 h=>aS rfl (aY rfl rfl (aC.fact 0 rfl) rfl rfl j17) rfl ?_
    refine aS rfl (AG (i:=1) rfl rfl rfl rfl rfl (by decide)) rfl ?_
    refine aS rfl (nZ rfl (aC.fact 0 rfl) rfl rfl rfl KW j17) rfl<|aS rfl (vM rfl rfl) rfl<|qkPkF rfl<|dtN ?_
    exact iG (decide (((at' p0 a6).2)<(at' p1 a6))) () h SF rfl
   intro a12 b13 h
   refine Ab h rfl (fun _ h=>?_) fun _ h=>?_
   ·refine sqR<|qkAsg rfl<|dtN<|aP<|bJ<|aG<|aG<|bJ<|aG ?_
    cases h
    exact kW rfl
   refine dO<|inT<|aK<|qkAdd rfl<|qkMove rfl<|dtN ?_
   exact xO (wI .i64 (a6+(1:Int))) () h SF rfl
  refine fL ?_
  exact iG () (()) h SF rfl
 intro a2 b3 h
 unfold qW at h
 refine sqR<|qkAsg rfl<|dtN<|aP ?_
 cases h
 exact kW rfl
end
section
def pG  (a2:Unit):Option (Bool):=
 some (true)
def mR (U:Nat) (p0:dQ) (p1:bG) (a6:Int) (ag5:(Int)->Option (Bool)):Option (Bool):=
 if a6<(List.length p0:Int)then(ck (0<=a6∧a6<(List.length p0:Int)) (ck (0<=a6∧a6<(List.length p1:Int)) (Option.bind (sH U (at' p0 a6) (at' p1 a6)) fun r12=>(if(!r12)=true then(some (false))else(ag5 (wI .i64 (a6+(1:Int))))))))else(pG  (()))
def qV (U:Nat) (p0:dQ) (p1:bG):Option (Bool):=
 if(List.length p1:Int)≠(List.length p0:Int)then(some (false))else(bD (mR U p0 p1) U (0:Int))
theorem VY:aN Tryz.prog 73:=Tryz.call73
theorem Eh (U:Nat) {p0:dQ} {p1:bG} (v0:Value)  (z1:mT)  (v2:Value)  (z3:qK) (r:Bool) (h:qV U p0 p1=some r):
  aT Tryz.prog 73 #[v0,v2] [S2 aZ v0 z1 p0,S2 bK v2 z3 p1] (fun x:Unit=>vB (r)) (fun x l=>l) (fun _ l=>l):=by
 refine aT.of Tryz.func73 rfl Tryz.ntmps73 rfl fun c=>?_
 refine sqR<|qkAsg rfl<|dtN<|aH<|sqR<|qkMove rfl<|aB (lN rfl (aC.fact 1 rfl) rfl) rfl<|qkMove rfl<|aB (lN rfl (aC.fact 0 rfl) rfl) rfl<|qkNeq rfl<|dtN ?_
 refine eN h rfl (fun h=>?_) fun h=>?_
 ·refine sqR<|qkAsg rfl<|dtN<|aP<|aG ?_
  cases h
  exact kW rfl
 refine cF<|aH<|midU (fun a2=>pG  a2=some r) (fun a2 b3=>[]) (fun a2 b3=>[]) ?_ ?_
 ·refine sqR<|qkMove rfl<|aB (lN rfl (aC.fact 0 rfl) rfl) rfl<|qkMove rfl<|dtN<|aM<|loopL (mR U p0 p1) (fun a6 b7=>[(1,v2),(12,v0),(13,vI (List.length p0:Int)),(14,vI (a6))]) (fun a6 b7=>[]) (0:Int) () h SF (aW.refl _) ?_
  intro k8 a6 b7 h
  refine sqR<|qkLss rfl<|dtN<|aH ?_
  refine eN h rfl (fun h=>?_) fun h=>?_
  ·refine cF<|aH<|aM<|sqR<|qkMove rfl<|ckE h fun j10 h=>aB (dL rfl rfl (aC.fact 0 rfl) rfl rfl j10) rfl<|aB (dW rfl (aC.fact 0 rfl) rfl rfl j10) rfl<|qkAsg rfl<|qkAsg rfl<|dtN<|sqR<|qkMove rfl<|qkMove rfl<|qkMove rfl<|ckE h fun j11 h=>aB (dL rfl rfl (aC.fact 1 rfl) rfl rfl j11) rfl<|aB (dW rfl (aC.fact 1 rfl) rfl rfl j11) rfl<|bnE h fun r12 w13 h=>aF (aJ.callQ Tp (FZ U ((at' z1 a6).1) ((at' z3 a6).1) r12 w13) rfl (aD.cons (aC.el (aC.fact 0 rfl) j10.1 j10.2) (aD.cons (aC.el (aC.fact 1 rfl) j11.1 j11.2) .nil))) rfl fun x14=>aB (wO rfl) rfl<|dtN ?_
   refine Ab h rfl (fun _ h=>?_) fun _ h=>?_
   ·refine sqR<|qkAsg rfl<|dtN<|aP<|bJ<|aG<|aG<|bJ<|aG ?_
    cases h
    exact kW rfl
   refine dO<|inT<|aK<|qkAdd rfl<|qkMove rfl<|dtN ?_
   exact xO (wI .i64 (a6+(1:Int))) () h SF rfl
  refine fL ?_
  exact iG () (()) h SF rfl
 intro a2 b3 h
 unfold pG at h
 refine sqR<|qkAsg rfl<|dtN<|aP ?_
 cases h
 exact kW rfl
end
section
def qO  (a7:dQ):Option (dQ):=
 some (a7)
def qP (a13:Int×dQ) (ag12:(Int×dQ)->Option (dQ)) (a19:dQ):Option (dQ):=
 ag12 ((wI .i64 (a13.1+(1:Int))),a19)
def k_ (U:Nat) (p0:vF) (p1:dN) (a13:Int×dQ) (ag12:(Int×dQ)->Option (dQ)) (a28:Int×dQ) (ag27:(Int×dQ)->Option (dQ)):Option (dQ):=
 if a28.1<(List.length p0.2.1:Int)then(ck (0<=a28.1∧a28.1<(List.length p0.2.1:Int)) (ck (0<=a13.1∧a13.1<(List.length a28.2:Int)) (ck (0<=a13.1∧a13.1<(List.length a28.2:Int)) (Option.bind (gS U ((((at' p0.2.1 a28.1).1),((at' p0.2.1 a28.1).2.1),((at' p0.2.1 a28.1).2.2.1),((at' p0.2.1 a28.1).2.2.2.1),((at' p0.2.1 a28.1).2.2.2.2.1),((at' p0.2.1 a28.1).2.2.2.2.2))) ((p1.1,p1.2)) a13.1) fun r40=>(ck (0<=a28.1∧a28.1<(List.length (at' a28.2 a13.1):Int)) (ck (0<=a28.1∧a28.1<(List.length (at' (List.set a28.2 (Int.toNat a13.1) (List.set (at' a28.2 a13.1) (Int.toNat a28.1) (r40.1,((at' (at' a28.2 a13.1) a28.1).2)))) a13.1):Int)) (ag27 ((wI .i64 (a28.1+(1:Int))),(List.set (List.set a28.2 (Int.toNat a13.1) (List.set (at' a28.2 a13.1) (Int.toNat a28.1) (r40.1,((at' (at' a28.2 a13.1) a28.1).2)))) (Int.toNat a13.1) (List.set (at' (List.set a28.2 (Int.toNat a13.1) (List.set (at' a28.2 a13.1) (Int.toNat a28.1) (r40.1,((at' (at' a28.2 a13.1) a28.1).2)))) a13.1) (Int.toNat a28.1) (((at' (at' (List.set a28.2 (Int.toNat a13.1) (List.set (at' a28.2 a13.1) (Int.toNat a28.1) (r40.1,((at' (at' a28.2 a13.1) a28.1).2)))) a13.1) a28.1).1),r40.2)))))))))))else(qP a13 ag12 (a28.2))
def jG (U:Nat) (p0:vF) (p1:dN) (a13:Int×dQ) (ag12:(Int×dQ)->Option (dQ)):Option (dQ):=
 if a13.1<(List.length (List.replicate (Int.toNat (List.length p1.1:Int)) ([]:eM)):Int)then(ck (0<=(List.length p0.2.1:Int)∧(List.length p0.2.1:Int)<=1099511627) (ck (0<=a13.1∧a13.1<(List.length a13.2:Int)) (bD (k_ U p0 p1 a13 ag12) U ((0:Int),(List.set a13.2 (Int.toNat a13.1) (List.replicate (Int.toNat (List.length p0.2.1:Int)) ((0:Int),(0:Int))))))))else(qO  (a13.2))
def kH (U:Nat) (p0:vF) (p1:dN):Option (dQ):=
 ck (0<=(List.length p1.1:Int)∧(List.length p1.1:Int)<=1099511627) (bD (jG U p0 p1) U ((0:Int),(List.replicate (Int.toNat (List.length p1.1:Int)) ([]:eM))))
theorem Qd:aN Tryz.prog 74:=Tryz.call74
theorem Aw (U:Nat) {p0:vF} {p1:dN} (v0:Value)  (v1:Value)  (v2:Value)  (v3:Value)  (z4:mT) (r:dQ) (h:kH U p0 p1=some r):
  aT Tryz.prog 74 #[Value.agg #[vS (p0.1),v0,v1],Value.agg #[v2,v3]] [Sl aI v0 p0.2.1,Sl aE v1 p0.2.2,PF (Value.agg #[vS p0.1,v0,v1]),Sl bK v2 p1.1,S2 aZ v3 z4 p1.2] (fun x:Gf=>x.1) (fun x l=>Ar dH.raw x.1 x.2::jW bR x.2 r::l) (fun _ l=>l):=by
 refine aT.of Tryz.func74 rfl Tryz.ntmps74 rfl fun c=>?_
 refine sqR<|aF (aJ.box (cs:=[vS (p0.1),v0,v1]) rfl rfl) rfl fun b1=>aF (aJ.box (cs:=[v2,v3]) rfl rfl) rfl fun b2=>qkAsg rfl<|dtN<|sqR<|qkFld rfl<|qkLd 0 rfl<|qkLen (aC.fact 3 rfl) rfl<|ckE h fun j3 h=>jC (tZ bR (Int.toNat (List.length p1.1:Int)))<|aF (oG (e:=dH.raw) (kX) rfl rfl rfl rfl j3 rfl rfl rfl) rfl fun u4=>qkAsg rfl<|dtN<|aH<|midL (B:=fP) (fun a7=>qO  a7=some r) (fun a7 b8=>[(5,u4)]) (fun a7 b8=>[Ar dH.raw u4 b8,jW bR b8 a7]) ?_ ?_
 ·refine sqR<|qkMove rfl<|aB (lN rfl (bF (i:=0) (j:=1) rfl rfl bI) rfl) rfl<|qkMove rfl<|dtN<|aM<|loopL (B:=fP) (jG U p0 p1) (fun a13 b14=>[(2,vP b1),(3,vP b2),(5,u4),(14,vI (List.length (List.replicate (Int.toNat (List.length p1.1:Int)) ([]:eM)):Int)),(15,vI (a13.1))]) (fun a13 b14=>[Ar dH.raw u4 b14,jW bR b14 a13.2,bT b2 [v2,v3] 29,bT b1 [vS (p0.1),v0,v1] 36]) ((0:Int),(List.replicate (Int.toNat (List.length p1.1:Int)) ([]:eM))) (List.replicate (Int.toNat (List.length p1.1:Int)) (kX)) h SF (aW.refl _) ?_
  intro k15 a13 b14 h
  refine sqR<|qkLss rfl<|dtN<|aH ?_
  refine eN h rfl (fun h=>?_) fun h=>?_
  ·refine cF<|aH<|midL (B:=fP) (fun a19=>qP a13 (bD (jG U p0 p1) k15) a19=some r) (fun a19 b20=>[(2,vP b1),(3,vP b2),(5,u4),(14,vI (List.length (List.replicate (Int.toNat (List.length p1.1:Int)) ([]:eM)):Int)),(15,vI (a13.1))]) (fun a19 b20=>[Ar dH.raw u4 b20,jW bR b20 a19,bT b2 [v2,v3] 29,bT b1 [vS (p0.1),v0,v1] 36]) ?_ ?_
   ·refine aM<|sqR<|qkMove rfl<|qkAsg rfl<|dtN<|sqR<|qkMove rfl<|qkMove rfl<|qkFld rfl<|qkLd 3 rfl<|qkLen (aC.fact 0 rfl) rfl<|ckE h fun j21 h=>aF (oG (e:=bR) (((0:Int),(0:Int))) rfl rfl rfl rfl j21 rfl rfl rfl) rfl fun u22=>ckE h fun j23 h=>aB (dL rfl rfl (bF (i:=1) (j:=2) rfl rfl bI) rfl rfl j23) rfl<|bP (Know.one ((aV (aC.res 0 rfl) bI))) fun ho24=>jC (sY (k:=a13.1) 2 0 rfl rfl rfl j23) ?_
    refine mW 0 1 ⟨j23.1,by first|exact j23.2|simpa using j23.2⟩ rfl rfl rfl rfl rfl (by simp) ho24 rfl ?_
    refine dtN<|sqR<|qkFld rfl<|qkLd 3 rfl<|qkLen (aC.fact 0 rfl) rfl<|qkMove rfl<|dtN<|aM<|loopL (k_ U p0 p1 a13 (bD (jG U p0 p1) k15)) (fun a28 b29=>[(2,vP b1),(3,vP b2),(5,u4),(6,vI (a13.1)),(14,vI (List.length (List.replicate (Int.toNat (List.length p1.1:Int)) ([]:eM)):Int)),(15,vI (a13.1)),(26,v0),(27,vI (List.length p0.2.1:Int)),(28,vI (a28.1))]) (fun a28 b29=>[Ar dH.raw u4 (List.set b14 (Int.toNat a13.1) u22),jW bR (List.set b14 (Int.toNat a13.1) u22) a28.2,bT b2 [v2,v3] 29,bT b1 [vS (p0.1),v0,v1] 36]) ((0:Int),(List.set a13.2 (Int.toNat a13.1) (List.replicate (Int.toNat (List.length p0.2.1:Int)) ((0:Int),(0:Int))))) () h SF (aW.refl _) ?_
    intro k30 a28 b29 h
    refine sqR<|qkLss rfl<|dtN<|aH ?_
    refine eN h rfl (fun h=>?_) fun h=>?_
    ·refine cF<|aH<|aM<|sqR<|qkMove rfl<|ckE h fun j32 h=>aB (aY rfl rfl (aC.fact 0 rfl) rfl rfl j32) rfl<|aB (iJ (cs:=[vS ((at' p0.2.1 a28.1).1),vI ((at' p0.2.1 a28.1).2.1),vI ((at' p0.2.1 a28.1).2.2.1),vI ((at' p0.2.1 a28.1).2.2.2.1),vI ((at' p0.2.1 a28.1).2.2.2.2.1),vI ((at' p0.2.1 a28.1).2.2.2.2.2)]) rfl (aC.fact 0 rfl) pN rfl rfl rfl rfl j32) rfl<|aF (aJ.alloc (cs:=vD4) rfl rfl) rfl fun b33=>qkAsg rfl<|bB 0 (vs:=[vS ((at' p0.2.1 a28.1).1),vI ((at' p0.2.1 a28.1).2.1),vI ((at' p0.2.1 a28.1).2.2.1),vI ((at' p0.2.1 a28.1).2.2.2.1),vI ((at' p0.2.1 a28.1).2.2.2.2.1),vI ((at' p0.2.1 a28.1).2.2.2.2.2)]) rfl rfl rfl rfl rfl rfl<|dtN ?_
     refine JR.start [0,0,3,7,0,0,0,96,224,0,0,0,0,7168,15360,31744,31744,31,196095,458239,992,2097151,4194303] 21 mixedOrders (by decide +kernel) ?_
     refine JR.open (by exact rfl) ?_
     refine jkMove rfl<|jkMove rfl<|ckE h fun j34 h=>dX (cJ 2 rfl) fun hl35=>?_
     refine bH rfl (aW.cons 1 rfl .nil) .nil (gZ 0 rfl rfl rfl rfl rfl j34.1 (by have q1:=j34.2;have q2:=hl35;(try simp only[List.length_set]at q1);(try simp only[List.length_set]at q2);(try simp only[List.length_set]);omega)) aO.z ?_
     refine dX (cJ 2 rfl) fun hl36=>bH rfl (aW.cons 1 rfl .nil) .nil (mE 0 rfl rfl hl36 rfl rfl j34) aO.z<|jkMove rfl<|jkMove rfl<|jkMove rfl<|ckE h fun j37 h=>dX (cJ 2 rfl) fun hl38=>?_
     refine bH rfl (aW.cons 1 rfl .nil) .nil (gZ 0 rfl rfl rfl rfl rfl j37.1 (by have q1:=j37.2;have q2:=hl38;(try simp only[List.length_set]at q1);(try simp only[List.length_set]at q2);(try simp only[List.length_set]);omega)) aO.z ?_
     refine dX (cJ 2 rfl) fun hl39=>bH rfl (aW.cons 1 rfl .nil) .nil (mE 0 rfl rfl hl39 rfl rfl j37) aO.z<|jkMove rfl<|jkLdA 0 rfl<|jkLdA 3 rfl<|jkMove rfl<|bnE h fun r40 w41 h=>JR.loud rfl rfl rfl (aJ.callQ Mw (zH U v2 v3 z4 r40 w41) rfl (nY [3,4] rfl)) rfl (fun x42=>(vG [([1],[]),([1],[]),([1],[]),([1],[])] rfl)) fun x42=>jqN rfl (lO rfl)<|jqN rfl (xN rfl rfl)<|jqN rfl (xN rfl rfl)<|ckE h fun j43 h=>dX (Know.len (aC.row (j:=2) rfl bI j34.1 j34.2)) fun hl44=>jqN rfl (Jl rfl rfl hl44 rfl rfl j43) ?_
     refine jqN rfl (AG (i:=0) rfl rfl rfl rfl rfl (by decide)) ?_
     refine zS rfl rfl rfl (zU (us:=[vI (r40.1)]) (o:=0) (k:=a13.1) 2 ((r40.1,((at' (at' a28.2 a13.1) a28.1).2))) ⟨j34.1,by first|exact j34.2|simpa using j34.2⟩ j43 rfl rfl rfl rfl rfl rfl rfl rfl rfl rfl) (fun x45=>(vG [] rfl)) fun x45=>ckE h fun j46 h=>dX (Know.len (aC.row (j:=2) rfl bI j37.1 (by first|exact j37.2|simpa using j37.2))) fun hl47=>?_
     refine jqN rfl (Jl rfl rfl hl47 rfl rfl j46)<|bS 21 rfl rfl ?_
     refine aB (AG (i:=1) rfl rfl rfl rfl rfl (by decide)) rfl ?_
     refine Mh (zU (us:=[vI (r40.2)]) (o:=1) (k:=a13.1) 2 ((((at' (at' (List.set a28.2 (Int.toNat a13.1) (List.set (at' a28.2 a13.1) (Int.toNat a28.1) (r40.1,((at' (at' a28.2 a13.1) a28.1).2)))) a13.1) a28.1).1),r40.2)) ⟨j37.1,by first|exact j37.2|simpa using j37.2⟩ j46 rfl rfl rfl rfl rfl rfl rfl rfl rfl rfl) fun x48=>dA<|inT<|aK<|qkAdd rfl<|qkMove rfl<|dtN ?_
     exact mA ((wI .i64 (a28.1+(1:Int))),(List.set (List.set a28.2 (Int.toNat a13.1) (List.set (at' a28.2 a13.1) (Int.toNat a28.1) (r40.1,((at' (at' a28.2 a13.1) a28.1).2)))) (Int.toNat a13.1) (List.set (at' (List.set a28.2 (Int.toNat a13.1) (List.set (at' a28.2 a13.1) (Int.toNat a28.1) (r40.1,((at' (at' a28.2 a13.1) a28.1).2)))) a13.1) (Int.toNat a28.1) (((at' (at' (List.set a28.2 (Int.toNat a13.1) (List.set (at' a28.2 a13.1) (Int.toNat a28.1) (r40.1,((at' (at' a28.2 a13.1) a28.1).2)))) a13.1) a28.1).1),r40.2)))) () h SF (aW.ix [1,2,3,4] rfl rfl) (aD.refl _ _)
    refine rE<|eS<|eS<|vJ<|inT ?_
    exact iG (a28.2) (List.set b14 (Int.toNat a13.1) u22) h SF rfl
   intro a19 b20 h
   unfold qP at h
   refine aK<|qkAdd rfl<|qkMove rfl<|dtN ?_
   exact xO ((wI .i64 (a13.1+(1:Int))),a19) (b20) h SF rfl
  refine fL ?_
  exact cG (a13.2) (b14) h SF (aW.ix [0,1] rfl rfl) (aD.refl _ _)
 intro a7 b8 h
 unfold qO at h
 refine sqR<|qkMove rfl<|qkAsg rfl<|dtN<|aP ?_
 cases h
 exact gV (u4,b8) rfl rfl (RV.tmp rfl) (aW.refl _) aD.nil
end
section
def oQ (U:Nat) (p0:vF) (p1:dN) (p2:bG):Option (Int):=
 Option.bind (pY U ((p0.1,p0.2.1,p0.2.2)) ((p1.1,p1.2))) fun r3=>(if r3≠(0:Int)then(some (r3))else(Option.bind (kH U ((p0.1,p0.2.1,p0.2.2)) ((p1.1,p1.2))) fun r7=>(Option.bind (qV U r7 p2) fun r10=>(if(!r10)=true then(some (10:Int))else(some (0:Int))))))
theorem Tm:aN Tryz.prog 101:=Tryz.call101
theorem FY (U:Nat) {p0:vF} {p1:dN} {p2:bG} (v0:Value)  (v1:Value)  (v2:Value)  (v3:Value)  (z4:mT)  (v5:Value)  (z6:qK) (r:Int) (h:oQ U p0 p1 p2=some r):
  aT Tryz.prog 101 #[Value.agg #[vS (p0.1),v0,v1],Value.agg #[v2,v3],v5] [Sl aI v0 p0.2.1,Sl aE v1 p0.2.2,PF (Value.agg #[vS p0.1,v0,v1]),Sl bK v2 p1.1,S2 aZ v3 z4 p1.2,S2 bK v5 z6 p2] (fun x:Unit=>vI (r)) (fun x l=>l) (fun _ l=>l):=by
 refine aT.of Tryz.func101 rfl Tryz.ntmps101 rfl fun c=>?_
 refine sqR<|aF (aJ.box (cs:=[vS (p0.1),v0,v1]) rfl rfl) rfl fun b1=>aF (aJ.box (cs:=[v2,v3]) rfl rfl) rfl fun b2=>qkAsg rfl<|dtN<|aH<|sqR<|qkLdA 1 rfl<|qkLdA 0 rfl<|bnE h fun r3 w4 h=>aF (aJ.callQ VX (Gt U v0 v1 v2 v3 z4 r3 w4) rfl (nY [0,1,2,3,4] rfl)) rfl fun x5=>qkAsg rfl<|dtN<|sqR<|qkMove rfl<|qkNeq rfl<|dtN ?_
 refine eN h rfl (fun h=>?_) fun h=>?_
 ·refine sqR<|qkMove rfl<|qkAsg rfl<|dtN<|aP<|aG ?_
  cases h
  exact wG rfl
 refine cF<|aH<|sqR<|qkLdA 1 rfl<|qkLdA 0 rfl<|bnE h fun r7 w8 h=>aF (aJ.callQ Qd (Aw U v0 v1 v2 v3 z4 r7 w8) rfl (nY [0,1,2,3,4] rfl)) rfl fun x9=>qkMove rfl<|bnE h fun r10 w11 h=>aF (aJ.callQ VY (Eh U x9.1 (List.zip x9.2 r7) v5 z6 r10 w11) rfl (aD.cons (bF (i:=0) (j:=1) rfl rfl bI) (nY [5] rfl))) rfl fun x12=>aB (wO rfl) rfl<|dtN ?_
 refine Ab h rfl (fun _ h=>?_) fun _ h=>?_
 ·refine sqR<|qkAsg rfl<|dtN<|aP<|aG ?_
  cases h
  exact wG rfl
 refine cF<|sqR<|qkAsg rfl<|dtN<|aP ?_
 cases h
 exact wG rfl
end
section
def sJ  (a5:bG):Option bG:=
 some (a5)
def oT (p0:bG) (a11:Int×bG) (ag10:(Int×bG)->Option bG):Option bG:=
 if a11.1<(List.length p0:Int)then(ck (0<=a11.1∧a11.1<(List.length p0:Int)) (ck ((List.length ([]:aL):Int)+(List.length (at' p0 a11.1):Int)<=1099511627) (ck (0<=a11.1∧a11.1<(List.length a11.2:Int)) (ag10 ((wI .i64 (a11.1+(1:Int))),(List.set a11.2 (Int.toNat a11.1) (([]:aL)++(at' p0 a11.1))))))))else(sJ  (a11.2))
def p_ (U:Nat) (p0:bG):Option bG:=
 ck (0<=(List.length p0:Int)∧(List.length p0:Int)<=1099511627) (bD (oT p0) U ((0:Int),(List.replicate (Int.toNat (List.length p0:Int)) ([]:aL))))
theorem Mv:aN Tryz.prog 110:=Tryz.call110
theorem Br (U:Nat) {p0:bG} (v0:Value)  (z1:qK) (r:bG) (h:p_ U p0=some r):
  aT Tryz.prog 110 #[v0] [S2 bK v0 z1 p0] (fun x:Gf=>x.1) (fun x l=>Ar dH.raw x.1 x.2::jW bV x.2 r::l) (fun _ l=>l):=by
 refine aT.of Tryz.func110 rfl Tryz.ntmps110 rfl fun c=>?_
 refine sqR<|qkAsg rfl<|dtN<|sqR<|qkMove rfl<|aB (lN rfl (aC.fact 0 rfl) rfl) rfl<|ckE h fun j1 h=>jC (tZ bV (Int.toNat (List.length p0:Int)))<|aF (oG (e:=dH.raw) (kX) rfl rfl rfl rfl j1 rfl rfl rfl) rfl fun u2=>qkAsg rfl<|dtN<|aH<|midL (B:=fP) (fun a5=>sJ  a5=some r) (fun a5 b6=>[(3,u2)]) (fun a5 b6=>[Ar dH.raw u2 b6,jW bV b6 a5]) ?_ ?_
 ·refine sqR<|qkMove rfl<|aB (lN rfl (aC.fact 0 rfl) rfl) rfl<|qkMove rfl<|dtN<|aM<|loopL (B:=fP) (oT p0) (fun a11 b12=>[(3,u2),(9,v0),(10,vI (List.length p0:Int)),(11,vI (a11.1))]) (fun a11 b12=>[Ar dH.raw u2 b12,jW bV b12 a11.2]) ((0:Int),(List.replicate (Int.toNat (List.length p0:Int)) ([]:aL))) (List.replicate (Int.toNat (List.length p0:Int)) (kX)) h SF (aW.refl _) ?_
  intro k13 a11 b12 h
  refine sqR<|qkLss rfl<|dtN<|aH ?_
  refine eN h rfl (fun h=>?_) fun h=>?_
  ·refine cF<|aH<|aM<|sqR<|qkMove rfl<|ckE h fun j15 h=>aB (dL rfl rfl (aC.fact 0 rfl) rfl rfl j15) rfl<|aB (dW rfl (aC.fact 0 rfl) rfl rfl j15) rfl<|qkAsg rfl<|qkAsg rfl<|dtN<|aK<|qkMove rfl<|qkMove rfl<|qkMove rfl<|jC (gR bV)<|ckE h fun j17 h=>aF (fR 0 cW rfl rfl rfl (aC.el (aC.fact 0 rfl) j15.1 j15.2) rfl rfl rfl rfl j17 rfl) rfl fun u16=>ckE h fun j18 h=>aB (dL rfl rfl (bF (i:=1) (j:=2) rfl rfl cW) rfl rfl j18) rfl<|bP (Know.one ((aV (aC.res 0 rfl) cW))) fun ho19=>jC (sY (k:=a11.1) 2 0 rfl rfl rfl j18) ?_
   refine mW 0 1 ⟨j18.1,by first|exact j18.2|simpa using j18.2⟩ rfl rfl rfl rfl rfl (by simp) ho19 rfl ?_
   refine dA<|inT<|aK<|qkAdd rfl<|qkMove rfl<|dtN ?_
   exact xO ((wI .i64 (a11.1+(1:Int))),(List.set a11.2 (Int.toNat a11.1) (([]:aL)++(at' p0 a11.1)))) (List.set b12 (Int.toNat a11.1) u16) h SF rfl
  refine fL ?_
  exact iG (a11.2) (b12) h SF rfl
 intro a5 b6 h
 unfold sJ at h
 refine sqR<|qkMove rfl<|qkAsg rfl<|dtN<|aP ?_
 cases h
 exact gV (u2,b6) rfl rfl (RV.tmp rfl) (aW.refl _) aD.nil
end
end Go.Proofs.YtjlbcgddhnjcjaaGreatDoor
end
