/- Models and proofs. Conditions: none. -/
import Derived.Test.YthnplbmmlbnelaaGreatZCJn4
import Derived.Test.YthnplbmmlbnelaaGreatZCJn5
import Derived.Test.YthnplbmmlbnelaaGreatZCJn6
import Derived.Test.YthnplbmmlbnelaaGreatZCJn2
set_option linter.unusedVariables false
set_option linter.unusedSimpArgs false
set_option maxHeartbeats 4000000
set_option maxRecDepth 20000
section
namespace Go.Proofs.YthnplbmmlbnelaaGreat
open Go.Sx
def pL (p0:cH) (p1:cH) (a58:wA) (a64:Unit):Option eK:=
 some (((p0.1,(((([]:gN)++p0.2.1)++p1.2.1)++([((ByteArray.mk #[116,117,114,110]),(2:Int),(0:Int),(0:Int),(0:Int),(0:Int))])),a58)),(0:Int))
def mC (a70:Int) (ag69:(Int)->Option eK) (a75:Bool):Option eK:=
 if a75=true then(some ((((ByteArray.mk #[]),([]:gN),([]:jR))),(3:Int)))else(ag69 (wI .i64 (a70+(1:Int))))
def kP (U:Nat) (p0:cH) (p1:cH) (a58:wA) (a70:Int) (ag69:(Int)->Option eK):Option eK:=
 if a70<(List.length a58:Int)then(ck (0<=a70∧a70<(List.length a58:Int)) (if(24:Int)<((ByteArray.size ((at' a58 a70).1):Nat):Int)then(mC a70 ag69 (true))else(ck (0<=a70∧a70<(List.length a58:Int)) (if(200:Int)<(List.length ((at' a58 a70).2.1):Int)then(mC a70 ag69 (true))else(ck (0<=a70∧a70<(List.length a58:Int)) (Option.bind (mL U ((at' a58 a70).2.1)) fun r83=>(mC a70 ag69 (decide ((24:Int)<r83)))))))))else(pL p0 p1 a58 (()))
def gE (U:Nat) (p0:cH) (p1:cH) (a58:wA) (a61:Bool):Option eK:=
 if a61=true then(some ((((ByteArray.mk #[]),([]:gN),([]:jR))),(3:Int)))else(bZ (kP U p0 p1 a58) U (0:Int))
def jX (U:Nat) (p0:cH) (p1:cH) (a58:wA):Option eK:=
 if(6:Int)<(List.length (((([]:gN)++p0.2.1)++p1.2.1)++([((ByteArray.mk #[116,117,114,110]),(2:Int),(0:Int),(0:Int),(0:Int),(0:Int))])):Int)then(gE U p0 p1 a58 (true))else(gE U p0 p1 a58 (decide ((12:Int)<(List.length a58:Int))))
def nC (U:Nat) (p0:cH) (p1:cH) (a94:Int×(List (ByteArray×cS×(List (Int×cS))))×(List (ByteArray×cS×(List (Int×cS))))) (ag93:(Int×(List (ByteArray×cS×(List (Int×cS))))×(List (ByteArray×cS×(List (Int×cS)))))->Option eK):Option eK:=
 if a94.1<(List.length a94.2.1:Int)then(ck (0<=a94.1∧a94.1<(List.length a94.2.1:Int)) (ck (((ByteArray.size ((at' a94.2.1 a94.1).1):Nat):Int)+((ByteArray.size (ByteArray.mk #[50]):Nat):Int)<=1099511627) (ck (0<=a94.1∧a94.1<(List.length a94.2.1:Int)) (ck (0<=a94.1∧a94.1<(List.length (List.set a94.2.1 (Int.toNat a94.1) ((((at' a94.2.1 a94.1).1)++(ByteArray.mk #[50])),(at' a94.2.1 a94.1).2.1,(at' a94.2.1 a94.1).2.2)):Int)) (ck ((List.length a94.2.2:Int)+(List.length ([(((at' (List.set a94.2.1 (Int.toNat a94.1) ((((at' a94.2.1 a94.1).1)++(ByteArray.mk #[50])),(at' a94.2.1 a94.1).2.1,(at' a94.2.1 a94.1).2.2)) a94.1).1),((at' (List.set a94.2.1 (Int.toNat a94.1) ((((at' a94.2.1 a94.1).1)++(ByteArray.mk #[50])),(at' a94.2.1 a94.1).2.1,(at' a94.2.1 a94.1).2.2)) a94.1).2.1),((at' (List.set a94.2.1 (Int.toNat a94.1) ((((at' a94.2.1 a94.1).1)++(ByteArray.mk #[50])),(at' a94.2.1 a94.1).2.1,(at' a94.2.1 a94.1).2.2)) a94.1).2.2))]):Int)<=1099511627) (ag93 ((wI .i64 (a94.1+(1:Int))),(List.set a94.2.1 (Int.toNat a94.1) ((((at' a94.2.1 a94.1).1)++(ByteArray.mk #[50])),(at' a94.2.1 a94.1).2.1,(at' a94.2.1 a94.1).2.2)),(a94.2.2++([(((at' (List.set a94.2.1 (Int.toNat a94.1) ((((at' a94.2.1 a94.1).1)++(ByteArray.mk #[50])),(at' a94.2.1 a94.1).2.1,(at' a94.2.1 a94.1).2.2)) a94.1).1),((at' (List.set a94.2.1 (Int.toNat a94.1) ((((at' a94.2.1 a94.1).1)++(ByteArray.mk #[50])),(at' a94.2.1 a94.1).2.1,(at' a94.2.1 a94.1).2.2)) a94.1).2.1),((at' (List.set a94.2.1 (Int.toNat a94.1) ((((at' a94.2.1 a94.1).1)++(ByteArray.mk #[50])),(at' a94.2.1 a94.1).2.1,(at' a94.2.1 a94.1).2.2)) a94.1).2.2))])))))))))else(jX U p0 p1 (a94.2.2))
def mB (U:Nat) (p0:cH) (p1:cH) (a33:wA) (a38:wA) (a48:wA):Option eK:=
 ck ((List.length ([]:jR):Int)+(List.length a33:Int)<=1099511627) (ck ((List.length (([]:jR)++a33):Int)+(List.length a38:Int)<=1099511627) (bZ (nC U p0 p1) U ((0:Int),((([]:jR)++a33)++a38),a48)))
def nD (U:Nat) (p0:cH) (p1:cH) (a33:wA) (a38:wA) (a114:DU) (ag113:IA->Option eK):Option eK:=
 if a114.1<(List.length a38:Int)then(ck (0<=a114.1∧a114.1<(List.length a38:Int)) (Option.bind (lK U ((((at' a38 a114.1).1),((at' a38 a114.1).2.1),((at' a38 a114.1).2.2))) (List.length ((([]:gN)++p0.2.1)++p1.2.1):Int) true) fun r119=>(ck ((List.length a114.2:Int)+(List.length ([(r119.1,r119.2.1,r119.2.2)]):Int)<=1099511627) (ag113 ((wI .i64 (a114.1+(1:Int))),(a114.2++([(r119.1,r119.2.1,r119.2.2)])))))))else(mB U p0 p1 a33 a38 (a114.2))
def nA (U:Nat) (p0:cH) (p1:cH) (a33:wA) (a38:wA) (a43:wA):Option eK:=
 bZ (nD U p0 p1 a33 a38) U ((0:Int),a43)
def nE (U:Nat) (p0:cH) (p1:cH) (a33:wA) (a38:wA) (a133:DU) (ag132:IA->Option eK):Option eK:=
 if a133.1<(List.length a33:Int)then(ck (0<=a133.1∧a133.1<(List.length a33:Int)) (Option.bind (lK U ((((at' a33 a133.1).1),((at' a33 a133.1).2.1),((at' a33 a133.1).2.2))) (List.length ((([]:gN)++p0.2.1)++p1.2.1):Int) false) fun r138=>(ck ((List.length a133.2:Int)+(List.length ([(r138.1,r138.2.1,r138.2.2)]):Int)<=1099511627) (ag132 ((wI .i64 (a133.1+(1:Int))),(a133.2++([(r138.1,r138.2.1,r138.2.2)])))))))else(nA U p0 p1 a33 a38 (a133.2))
def kO (U:Nat) (p0:cH) (p1:cH) (a33:wA) (a38:wA):Option eK:=
 bZ (nE U p0 p1 a33 a38) U ((0:Int),([]:jR))
def nF (U:Nat) (p0:cH) (p1:cH) (a28:cU) (a33:wA) (a152:(List (ByteArray×cS×(List (Int×cS))))×Int) (ag151:((List (ByteArray×cS×(List (Int×cS))))×Int)->Option eK):Option eK:=
 if a152.2<(List.length p1.2.2:Int)then(ck (0<=a152.2∧a152.2<(List.length p1.2.2:Int)) (Option.bind (iV U ((((at' p1.2.2 a152.2).1),((at' p1.2.2 a152.2).2.1),((at' p1.2.2 a152.2).2.2))) a28) fun r158=>(ck ((List.length a152.1:Int)+(List.length ([(r158.1,r158.2.1,r158.2.2)]):Int)<=1099511627) (ag151 ((a152.1++([(r158.1,r158.2.1,r158.2.2)])),(wI .i64 (a152.2+(1:Int))))))))else(kO U p0 p1 a33 (a152.1))
def m_ (U:Nat) (p0:cH) (p1:cH) (a28:cU) (a33:wA):Option eK:=
 bZ (nF U p0 p1 a28 a33) U (([]:jR),(0:Int))
def nG (U:Nat) (p0:cH) (p1:cH) (a28:cU) (a171:(List (ByteArray×cS×(List (Int×cS))))×Int) (ag170:((List (ByteArray×cS×(List (Int×cS))))×Int)->Option eK):Option eK:=
 if a171.2<(List.length p0.2.2:Int)then(ck (0<=a171.2∧a171.2<(List.length p0.2.2:Int)) (Option.bind (uM U (List.length p0.2.1:Int)) fun r177=>(Option.bind (iV U ((((at' p0.2.2 a171.2).1),((at' p0.2.2 a171.2).2.1),((at' p0.2.2 a171.2).2.2))) r177) fun r180=>(ck ((List.length a171.1:Int)+(List.length ([(r180.1,r180.2.1,r180.2.2)]):Int)<=1099511627) (ag170 ((a171.1++([(r180.1,r180.2.1,r180.2.2)])),(wI .i64 (a171.2+(1:Int)))))))))else(m_ U p0 p1 a28 (a171.1))
def mZ (U:Nat) (p0:cH) (p1:cH) (a28:cU):Option eK:=
 bZ (nG U p0 p1 a28) U (([]:jR),(0:Int))
def nH (U:Nat) (p0:cH) (p1:cH) (a192:cU×Int) (ag191:(cU×Int)->Option eK):Option eK:=
 if a192.2<(List.length p1.2.1:Int)then(ck ((List.length a192.1:Int)+(List.length ([(wI .i64 ((List.length p0.2.1:Int)+a192.2))]):Int)<=1099511627) (ag191 ((a192.1++([(wI .i64 ((List.length p0.2.1:Int)+a192.2))])),(wI .i64 (a192.2+(1:Int))))))else(mZ U p0 p1 (a192.1))
def xG (U:Nat) (p0:cH) (p1:cH) (a20:Unit):Option eK:=
 ck ((List.length ((([]:gN)++p0.2.1)++p1.2.1):Int)+(List.length ([((ByteArray.mk #[116,117,114,110]),(2:Int),(0:Int),(0:Int),(0:Int),(0:Int))]):Int)<=1099511627) (bZ (nH U p0 p1) U (([]:cU),(0:Int)))
def kN (U:Nat) (p0:cH) (p1:cH) (a15:Bool):Option eK:=
 if a15=true then(some ((((ByteArray.mk #[]),([]:gN),([]:jR))),(5:Int)))else(ck ((List.length ([]:gN):Int)+(List.length p0.2.1:Int)<=1099511627) (ck ((List.length (([]:gN)++p0.2.1):Int)+(List.length p1.2.1:Int)<=1099511627) (xG U p0 p1 (()))))
def mD (a234:Bool×Int) (ag233:(Bool×Int)->Option eK) (a239:Bool):Option eK:=
 ag233 (a239,(wI .i64 (a234.2+(1:Int))))
def kQ (U:Nat) (p0:cH) (p1:cH) (a234:Bool×Int) (ag233:(Bool×Int)->Option eK):Option eK:=
 if a234.2<(List.length p0.2.2:Int)then(if a234.1=true then(mD a234 ag233 (true))else(ck (0<=a234.2∧a234.2<(List.length p0.2.2:Int)) (Option.bind (sE U p1.2.2 ((at' p0.2.2 a234.2).1)) fun r243=>(mD a234 ag233 (r243)))))else(kN U p0 p1 (a234.1))
def iX (U:Nat) (p0:cH) (p1:cH) (a12:Bool):Option eK:=
 bZ (kQ U p0 p1) U (a12,(0:Int))
def mE (a249:Bool×Int) (ag248:(Bool×Int)->Option eK) (a254:Bool):Option eK:=
 ag248 (a254,(wI .i64 (a249.2+(1:Int))))
def kR (U:Nat) (p0:cH) (p1:cH) (a249:Bool×Int) (ag248:(Bool×Int)->Option eK):Option eK:=
 if a249.2<(List.length p0.2.1:Int)then(if a249.1=true then(mE a249 ag248 (true))else(ck (0<=a249.2∧a249.2<(List.length p0.2.1:Int)) (Option.bind (jH U p1.2.1 ((at' p0.2.1 a249.2).1)) fun r258=>(mE a249 ag248 (decide ((0:Int)<=r258))))))else(iX U p0 p1 (a249.1))
def iW (U:Nat) (p0:cH) (p1:cH) (a9:Bool):Option eK:=
 bZ (kR U p0 p1) U (a9,(0:Int))
def qX (U:Nat) (p0:cH) (p1:cH) (a5:Bool):Option eK:=
 if a5=true then(some ((((ByteArray.mk #[]),([]:gN),([]:jR))),(8:Int)))else(Option.bind (jH U p0.2.1 (ByteArray.mk #[116,117,114,110])) fun r261=>(if(0:Int)<=r261 then(iW U p0 p1 (true))else(Option.bind (jH U p1.2.1 (ByteArray.mk #[116,117,114,110])) fun r265=>(iW U p0 p1 (decide ((0:Int)<=r265))))))
def sQ (U:Nat) (p0:cH) (p1:cH):Option eK:=
 Option.bind (pD U ((p0.1,p0.2.1,p0.2.2))) fun r268=>(if(!r268)=true then(qX U p0 p1 (true))else(Option.bind (pD U ((p1.1,p1.2.1,p1.2.2))) fun r272=>(qX U p0 p1 ((!r272)))))
theorem UJ:bO Tryz.prog 18:=Tryz.call18
theorem FX (U:Nat) {p0:cH} {p1:cH} (v0:Value)  (v1:Value)  (v2:Value)  (v3:Value) (r:OB) (h:sQ U p0 p1=some r):
  bQ Tryz.prog 18 #[Value.agg #[vS (p0.1),v0,v1],Value.agg #[vS (p1.1),v2,v3]] [Sl aF v0 p0.2.1,Sl aD v1 p0.2.2,Sl aF v2 p1.2.1,Sl aD v3 p1.2.2] (fun x:Cj=>Value.tuple #[Value.agg #[vS (r.1.1),x.1,x.2],vI (r.2)]) (fun x l=>Ar aH x.1 r.1.2.1::l) (fun x l=>Sl aD x.2 r.1.2.2::l):=by
 refine bQ.of Tryz.func18 rfl Tryz.ntmps18 rfl fun c=>?_
 refine aZ<|aT (aW.box (cs:=[vS (p0.1),v0,v1]) rfl rfl) rfl fun b1=>aT (aW.box (cs:=[vS (p1.1),v2,v3]) rfl rfl) rfl fun b2=>aT (aW.alloc (cs:=fL) rfl rfl) rfl fun b3=>aK rfl<|aU<|aP<|aP<|dD (fun a5=>qX U p0 p1 a5=some r) (fun a5 b6=>[(2,vP b1),(3,vP b2),(4,vP b3),(29,vB (a5))]) (fun a5 b6=>[bJ b3 fL 25,bJ b2 [vS (p1.1),v2,v3] 25,bJ b1 [vS (p0.1),v0,v1] 25]) ?_ ?_
 ·refine aS<|iC 2 rfl<|fO h fun r268 w269 h=>aT (aW.callQ JY (Aq U v0 v1 r268 w269) rfl (gO [0,1] rfl)) rfl fun x270=>aJ (fR rfl) rfl<|aE rfl ?_
  refine fY (by exact rfl) (by exact rfl) (fun hp271=>?_) (fun hp271=>?_)
  ·have h:=BK hp271 h
   refine aI rfl<|aI rfl<|aI rfl<|cE rfl<|aU ?_
   exact cZ (true) () h SF rfl
  have h:=sM hp271 h
  refine aL rfl (iD 1 rfl rfl rfl rfl) rfl<|fO h fun r272 w273 h=>eX rfl (aW.callQ JY (Aq U v2 v3 r272 w273) rfl (gO [2,3] rfl)) rfl fun x274=>aL rfl (fR rfl) rfl<|cI rfl<|aU ?_
  exact cZ ((!r272)) () h SF rfl
 intro a5 b6 h
 refine gP h rfl (fun _ h=>?_) fun _ h=>?_
 ·refine aZ ?_
  refine aJ (sK (r:=Value.agg #[vS (ByteArray.mk #[]),fX,fX]) (by intro w;simp[Instr.build,Instr.fill,b_,bR,bM,cA,cB,bS,cL])) rfl ?_
  refine bL 0 (vs:=fL) rfl rfl rfl rfl rfl rfl<|aK rfl<|aU<|bE<|aR<|cJ (d_ aH) ?_
  cases h
  exact fB ((fX),(fX)) rfl rfl (RV.cell 1 rfl rfl rfl rfl) (RV.tmp rfl) (bH.ix [0] rfl rfl) (aV.cons aM.nil aV.nil)
 refine cC<|aP<|dD (fun a9=>iW U p0 p1 a9=some r) (fun a9 b10=>[(2,vP b1),(3,vP b2),(4,vP b3),(6,vB (a9))]) (fun a9 b10=>[bJ b3 fL 25,bJ b2 [vS (p1.1),v2,v3] 25,bJ b1 [vS (p0.1),v0,v1] 25]) ?_ ?_
 ·refine aS<|bP rfl<|dC 2 rfl<|fO h fun r261 w262 h=>aT (aW.callQ Ka (As U v0 r261 w262) rfl (gO [0] rfl)) rfl fun x263=>aJ (jM rfl rfl) rfl<|aE rfl ?_
  refine oD h rfl (fun _ h=>?_) fun _ h=>?_
  ·refine aI rfl<|aI rfl<|aI rfl<|aI rfl<|cE rfl<|aK rfl<|aU ?_
   exact cZ (true) () h SF rfl
  refine aL rfl (cF rfl rfl rfl rfl rfl) rfl<|aL rfl (cT 1 rfl rfl rfl rfl rfl) rfl<|fO h fun r265 w266 h=>eX rfl (aW.callQ Ka (As U v2 r265 w266) rfl (gO [2] rfl)) rfl fun x267=>aL rfl (jM rfl rfl) rfl<|cI rfl<|aK rfl<|aU ?_
  exact cZ (decide ((0:Int)<=r265)) () h SF rfl
 intro a9 b10 h
 unfold iW at h
 refine aP<|dD (fun a12=>iX U p0 p1 a12=some r) (fun a12 b13=>[(2,vP b1),(3,vP b2),(4,vP b3),(6,vB (a12))]) (fun a12 b13=>[bJ b3 fL 25,bJ b2 [vS (p1.1),v2,v3] 25,bJ b1 [vS (p0.1),v0,v1] 25]) ?_ ?_
 ·refine aZ<|aK rfl<|aU<|aY<|fW (kR U p0 p1) (fun a249 b250=>[(2,vP b1),(3,vP b2),(4,vP b3),(6,vB (a249.1)),(7,vI (a249.2))]) (fun a249 b250=>[bJ b3 fL 25,bJ b2 [vS (p1.1),v2,v3] 25,bJ b1 [vS (p0.1),v0,v1] 25]) (a9,(0:Int)) () h SF (bH.refl _) ?_
  intro k251 a249 b250 h
  refine aP<|aZ<|aE rfl<|bP rfl<|dC 2 rfl<|eC (dN rfl) rfl<|dL rfl<|aU ?_
  refine gT h rfl (fun h=>?_) fun h=>?_
  ·refine cC<|aP<|dD (fun a254=>mE a249 (bZ (kR U p0 p1) k251) a254=some r) (fun a254 b255=>[(2,vP b1),(3,vP b2),(4,vP b3),(6,vB (a254)),(7,vI (a249.2))]) (fun a254 b255=>[bJ b3 fL 25,bJ b2 [vS (p1.1),v2,v3] 25,bJ b1 [vS (p0.1),v0,v1] 25]) ?_ ?_
   ·refine aY ?_
    refine CC [0,1,3,7,3,19,3,115,243,499,1023,2047,4095,8191] 10 mixedOrders ?_
    refine dG rfl<|dG rfl ?_
    refine JR.guard (by exact rfl) (by exact rfl) (by exact rfl) (fun hp256=>?_) (fun hp256=>?_)
    ·have h:=BK hp256 h
     refine dA rfl rfl rfl rfl<|dA rfl rfl rfl rfl<|dA rfl rfl rfl rfl<|dA rfl rfl rfl rfl<|dA rfl rfl rfl rfl<|dA rfl rfl rfl rfl<|dA rfl rfl rfl rfl<|dA rfl rfl rfl rfl<|cX 10 rfl rfl<|aI rfl<|aI rfl<|cE rfl<|aK rfl<|fQ<|lP ?_
     exact cZ (true) () h SF rfl
    have h:=sM hp256 h
    refine fI rfl .nil .nil (cF rfl rfl rfl rfl rfl) bG.z<|fI rfl (bH.cons 1 rfl .nil) .nil (cT 0 rfl rfl rfl rfl rfl) bG.z<|fI rfl .nil .nil (cF rfl rfl rfl rfl rfl) bG.z<|fI rfl (bH.cons 2 rfl .nil) .nil (cT 0 rfl rfl rfl rfl rfl) bG.z<|fI rfl .nil .nil (xF rfl) bG.z<|fJ h fun j257 h=>fI rfl .nil (jY 0 rfl) (a_ rfl rfl (dN rfl) rfl rfl j257) bG.z<|fI rfl .nil .nil (cW rfl rfl rfl rfl rfl) bG.z<|fI rfl .nil (jY 0 rfl) (fN rfl (dN rfl) rfl rfl rfl iG j257) bG.z<|cX 10 rfl rfl<|fO h fun r258 w259 h=>eX rfl (aW.callQ Ka (As U v2 r258 w259) rfl (gO [2] rfl)) rfl fun x260=>aL rfl (jM rfl rfl) rfl<|cI rfl<|aK rfl<|fQ<|lP ?_
    exact cZ (decide ((0:Int)<=r258)) () h SF rfl
   intro a254 b255 h
   unfold mE at h
   refine aS<|aE rfl<|dM rfl<|aK rfl<|aU ?_
   exact BR (a254,(wI .i64 (a249.2+(1:Int)))) () h SF rfl
  refine eQ ?_
  exact cZ (a249.1) () h SF rfl
 intro a12 b13 h
 unfold iX at h
 refine aP<|dD (fun a15=>kN U p0 p1 a15=some r) (fun a15 b16=>[(2,vP b1),(3,vP b2),(4,vP b3),(6,vB (a15))]) (fun a15 b16=>[bJ b3 fL 25,bJ b2 [vS (p1.1),v2,v3] 25,bJ b1 [vS (p0.1),v0,v1] 25]) ?_ ?_
 ·refine aZ<|aK rfl<|aU<|aY<|fW (kQ U p0 p1) (fun a234 b235=>[(2,vP b1),(3,vP b2),(4,vP b3),(6,vB (a234.1)),(8,vI (a234.2))]) (fun a234 b235=>[bJ b3 fL 25,bJ b2 [vS (p1.1),v2,v3] 25,bJ b1 [vS (p0.1),v0,v1] 25]) (a12,(0:Int)) () h SF (bH.refl _) ?_
  intro k236 a234 b235 h
  refine aP<|aZ<|aE rfl<|bP rfl<|dC 2 rfl<|eC (fP rfl) rfl<|dL rfl<|aU ?_
  refine gT h rfl (fun h=>?_) fun h=>?_
  ·refine cC<|aP<|dD (fun a239=>mD a234 (bZ (kQ U p0 p1) k236) a239=some r) (fun a239 b240=>[(2,vP b1),(3,vP b2),(4,vP b3),(6,vB (a239)),(8,vI (a234.2))]) (fun a239 b240=>[bJ b3 fL 25,bJ b2 [vS (p1.1),v2,v3] 25,bJ b1 [vS (p0.1),v0,v1] 25]) ?_ ?_
   ·refine aY ?_
    refine CC [0,1,3,7,3,19,3,115,243,499,1023,2047,4095] 10 mixedOrders ?_
    refine dG rfl<|dG rfl ?_
    refine JR.guard (by exact rfl) (by exact rfl) (by exact rfl) (fun hp241=>?_) (fun hp241=>?_)
    ·have h:=BK hp241 h
     refine dA rfl rfl rfl rfl<|dA rfl rfl rfl rfl<|dA rfl rfl rfl rfl<|dA rfl rfl rfl rfl<|dA rfl rfl rfl rfl<|dA rfl rfl rfl rfl<|dA rfl rfl rfl rfl<|dA rfl rfl rfl rfl<|cX 10 rfl rfl<|aI rfl<|cE rfl<|aK rfl<|fQ<|lP ?_
     exact cZ (true) () h SF rfl
    have h:=sM hp241 h
    refine fI rfl .nil .nil (cF rfl rfl rfl rfl rfl) bG.z<|fI rfl (bH.cons 1 rfl .nil) .nil (cT 0 rfl rfl rfl rfl rfl) bG.z<|fI rfl .nil .nil (cF rfl rfl rfl rfl rfl) bG.z<|fI rfl (bH.cons 2 rfl .nil) .nil (cT 0 rfl rfl rfl rfl rfl) bG.z<|fI rfl .nil .nil (xF rfl) bG.z<|fJ h fun j242 h=>fI rfl .nil (jY 1 rfl) (a_ rfl rfl (dN rfl) rfl rfl j242) bG.z<|fI rfl .nil .nil (cW rfl rfl rfl rfl rfl) bG.z<|fI rfl .nil (jY 1 rfl) (fN rfl (dN rfl) rfl rfl rfl dX j242) bG.z<|cX 10 rfl rfl<|fO h fun r243 w244 h=>eX rfl (aW.callQ Qx (EE U v3 r243 w244) rfl (gO [3] rfl)) rfl fun x245=>cI rfl<|aK rfl<|fQ<|lP ?_
    exact cZ (r243) () h SF rfl
   intro a239 b240 h
   unfold mD at h
   refine aS<|aE rfl<|dM rfl<|aK rfl<|aU ?_
   exact BR (a239,(wI .i64 (a234.2+(1:Int)))) () h SF rfl
  refine eQ ?_
  exact cZ (a234.1) () h SF rfl
 intro a15 b16 h
 refine aP<|aZ<|aE rfl<|aU ?_
 refine gP h rfl (fun _ h=>?_) fun _ h=>?_
 ·refine aZ ?_
  refine aJ (sK (r:=Value.agg #[vS (ByteArray.mk #[]),fX,fX]) (by intro w;simp[Instr.build,Instr.fill,b_,bR,bM,cA,cB,bS,cL])) rfl ?_
  refine bL 0 (vs:=fL) rfl rfl rfl rfl rfl rfl<|aK rfl<|aU<|bE<|aR<|cJ (d_ aH) ?_
  cases h
  exact fB ((fX),(fX)) rfl rfl (RV.cell 1 rfl rfl rfl rfl) (RV.tmp rfl) (bH.ix [0] rfl rfl) (aV.cons aM.nil aV.nil)
 refine cC<|aP<|Ep (B:=Nat×Value) (fun a20=>xG U p0 p1 a20=some r) (fun a20 b21=>[(2,vP b1),(3,vP b2),(4,vP b3),(9,vP b21.1)]) (fun a20 b21=>[bJ b21.1 [vS (p0.1),b21.2,fX] 25,Ar aH b21.2 ((([]:gN)++p0.2.1)++p1.2.1),bJ b3 fL 25,bJ b2 [vS (p1.1),v2,v3] 25,bJ b1 [vS (p0.1),v0,v1] 25]) ?_ ?_
 ·have⟨j201,h⟩:=Eb h
  refine fJ h fun j203 h=>BU [0,1,0,0,8,28,0,64,252,511,0,2047] 11 [[0,1,3,4,6,7,2,5,8,9,10,11],[0,1,3,4,6,7,2,5,10,8,9,11],[0,1,3,4,6,7,2,10,5,8,9,11],[0,1,3,4,6,7,10,2,5,8,9,11]] mixedOrders (by decide +kernel) (by decide +kernel) ?_
  intro o ho
  simp only[List.mem_cons,List.not_mem_nil,or_false]at ho
  rcases ho with rfl|rfl|rfl|rfl
  ·refine eD rfl<|gM 2 rfl<|eD rfl<|gM 2 rfl<|eD rfl<|gM 1 rfl<|JR.loud rfl rfl rfl (dJ (e:=aH) ([]:gN) [] rfl rfl rfl rfl ((fun i h=>by simp at h;subst h;rfl)) rfl rfl rfl) rfl (fun u207=>(pH [([2],[]),([3],[]),([3],[])] rfl)) fun u207=>JR.loud rfl rfl rfl (dP 0 aQ rfl rfl rfl (dN rfl) rfl rfl rfl rfl j201 rfl) rfl (fun u208=>(pH [([2],[]),([3],[])] rfl)) fun u208=>JR.loud rfl rfl rfl (dP 0 aQ rfl rfl rfl (rA rfl) rfl rfl rfl rfl j203 rfl) rfl (fun u209=>(pH [([3],[])] rfl)) fun u209=>eG (Know.one ((aM.ar (aM.res 0 rfl) aQ))) fun ho210=>?_
   refine zE rfl (kY (r:=Value.agg #[vS (p0.1),u209,fX]) rfl rfl (by intro w;simp[Instr.build,Instr.fill,b_,bR,bM,cA,cB,bS,cL,eY ho210])) ?_
   refine JR.loud rfl rfl rfl (aW.alloc (cs:=fL) rfl rfl) rfl (fun b211=>(pH [([3],[]),([4],[]),([4],[])] rfl)) fun b211=>cX 11 rfl rfl<|bY (Know.one ((aM.ar (aM.res 1 rfl) aQ))) fun ho212=>bL 0 (vs:=[vS (p0.1),u209,fX]) rfl rfl (cR rfl (cR ho212 (cR rfl rfl))) rfl rfl rfl<|aU ?_
   exact cZ () (b211,u209) h SF rfl
  ·refine eD rfl<|gM 2 rfl<|eD rfl<|gM 2 rfl<|eD rfl<|gM 1 rfl<|JR.loud rfl rfl rfl (dJ (e:=aH) ([]:gN) [] rfl rfl rfl rfl ((fun i h=>by simp at h;subst h;rfl)) rfl rfl rfl) rfl (fun u213=>(pH [([2],[]),([3],[]),([3],[])] rfl)) fun u213=>JR.loud rfl rfl rfl (dP 0 aQ rfl rfl rfl (dN rfl) rfl rfl rfl rfl j201 rfl) rfl (fun u214=>(pH [([2],[]),([3],[])] rfl)) fun u214=>JR.loud rfl rfl rfl (aW.alloc (cs:=fL) rfl rfl) rfl (fun b215=>(pH [([3],[]),([4],[]),([4],[])] rfl)) fun b215=>JR.loud rfl rfl rfl (dP 1 aQ rfl rfl rfl (rA rfl) rfl rfl rfl rfl j203 rfl) rfl (fun u216=>(pH [([4],[])] rfl)) fun u216=>eG (Know.one ((aM.ar (aM.res 1 rfl) aQ))) fun ho217=>?_
   refine zE rfl (kY (r:=Value.agg #[vS (p0.1),u216,fX]) rfl rfl (by intro w;simp[Instr.build,Instr.fill,b_,bR,bM,cA,cB,bS,cL,eY ho217])) ?_
   refine cX 11 rfl rfl<|bY (Know.one ((aM.ar (aM.res 1 rfl) aQ))) fun ho218=>bL 0 (vs:=[vS (p0.1),u216,fX]) rfl rfl (cR rfl (cR ho218 (cR rfl rfl))) rfl rfl rfl<|aU ?_
   exact cZ () (b215,u216) h SF rfl
  ·refine eD rfl<|gM 2 rfl<|eD rfl<|gM 2 rfl<|eD rfl<|gM 1 rfl<|JR.loud rfl rfl rfl (dJ (e:=aH) ([]:gN) [] rfl rfl rfl rfl ((fun i h=>by simp at h;subst h;rfl)) rfl rfl rfl) rfl (fun u219=>(pH [([2],[]),([3],[]),([3],[])] rfl)) fun u219=>JR.loud rfl rfl rfl (aW.alloc (cs:=fL) rfl rfl) rfl (fun b220=>(pH [([3],[]),([4],[]),([4],[])] rfl)) fun b220=>JR.loud rfl rfl rfl (dP 1 aQ rfl rfl rfl (dN rfl) rfl rfl rfl rfl j201 rfl) rfl (fun u221=>(pH [([3],[]),([4],[])] rfl)) fun u221=>JR.loud rfl rfl rfl (dP 1 aQ rfl rfl rfl (rA rfl) rfl rfl rfl rfl j203 rfl) rfl (fun u222=>(pH [([4],[])] rfl)) fun u222=>eG (Know.one ((aM.ar (aM.res 1 rfl) aQ))) fun ho223=>?_
   refine zE rfl (kY (r:=Value.agg #[vS (p0.1),u222,fX]) rfl rfl (by intro w;simp[Instr.build,Instr.fill,b_,bR,bM,cA,cB,bS,cL,eY ho223])) ?_
   refine cX 11 rfl rfl<|bY (Know.one ((aM.ar (aM.res 1 rfl) aQ))) fun ho224=>bL 0 (vs:=[vS (p0.1),u222,fX]) rfl rfl (cR rfl (cR ho224 (cR rfl rfl))) rfl rfl rfl<|aU ?_
   exact cZ () (b220,u222) h SF rfl
  refine eD rfl<|gM 2 rfl<|eD rfl<|gM 2 rfl<|eD rfl<|gM 1 rfl<|JR.loud rfl rfl rfl (aW.alloc (cs:=fL) rfl rfl) rfl (fun b225=>(pH [([2],[]),([3],[]),([3],[])] rfl)) fun b225=>JR.loud rfl rfl rfl (dJ (e:=aH) ([]:gN) [] rfl rfl rfl rfl ((fun i h=>by simp at h;subst h;rfl)) rfl rfl rfl) rfl (fun u226=>(pH [([3],[]),([4],[]),([4],[])] rfl)) fun u226=>JR.loud rfl rfl rfl (dP 0 aQ rfl rfl rfl (dN rfl) rfl rfl rfl rfl j201 rfl) rfl (fun u227=>(pH [([3],[]),([4],[])] rfl)) fun u227=>JR.loud rfl rfl rfl (dP 0 aQ rfl rfl rfl (rA rfl) rfl rfl rfl rfl j203 rfl) rfl (fun u228=>(pH [([4],[])] rfl)) fun u228=>eG (Know.one ((aM.ar (aM.res 0 rfl) aQ))) fun ho229=>?_
  refine zE rfl (kY (r:=Value.agg #[vS (p0.1),u228,fX]) rfl rfl (by intro w;simp[Instr.build,Instr.fill,b_,bR,bM,cA,cB,bS,cL,eY ho229])) ?_
  refine cX 11 rfl rfl<|bY (Know.one ((aM.ar (aM.res 0 rfl) aQ))) fun ho230=>bL 1 (vs:=[vS (p0.1),u228,fX]) rfl rfl (cR rfl (cR ho230 (cR rfl rfl))) rfl rfl rfl<|aU ?_
  exact cK () (b225,u228) h SF (bH.ix [1,0,2,3,4] rfl rfl) (aV.refl _ _)
 intro a20 b21 h
 refine aZ<|bP rfl<|dC 0 rfl<|aJ (dR rfl (aM.ar (aM.res 1 rfl) aQ) rfl) rfl<|aK rfl<|aU<|aZ<|bP rfl<|dC 0 rfl ?_
 refine aJ (kY (r:=Value.agg #[vS (ByteArray.mk #[116,117,114,110]),vI (2:Int),vI (0:Int),vI (0:Int),vI (0:Int),vI (0:Int)]) rfl rfl (by intro w;simp[Instr.build,Instr.fill,b_,bR,bM,cA,cB,bS,cL])) rfl ?_
 refine aT (dJ (e:=aH) ([(((ByteArray.mk #[116,117,114,110]),(2:Int),(0:Int),(0:Int),(0:Int),(0:Int)))]) vD4 rfl rfl rfl rfl (Fx (vS (ByteArray.mk #[116,117,114,110])) (vI (2:Int)) (vI (0:Int)) (vI (0:Int)) (vI (0:Int)) (vI (0:Int))) rfl rfl rfl) rfl fun u22=>fJ h fun j24 h=>aT (dP 2 aQ rfl rfl rfl (aM.ar (aM.res 0 rfl) aQ) rfl rfl rfl rfl j24 rfl) rfl fun u23=>bP rfl<|bY (Know.one ((aM.ar (aM.res 2 rfl) aQ))) fun ho25=>eS 1 rfl rfl ho25 rfl rfl rfl<|aU<|aZ<|aK rfl<|aU<|aP<|Ep (B:=Value) (fun a28=>mZ U p0 p1 a28=some r) (fun a28 b29=>[(2,vP b1),(3,vP b2),(4,vP b3),(9,vP b21.1),(10,vI (List.length ((([]:gN)++p0.2.1)++p1.2.1):Int)),(11,b29)]) (fun a28 b29=>[bJ b21.1 [vS (p0.1),u23,fX] 25,Ar aH u23 (((([]:gN)++p0.2.1)++p1.2.1)++([((ByteArray.mk #[116,117,114,110]),(2:Int),(0:Int),(0:Int),(0:Int),(0:Int))])),bJ b3 fL 25,bJ b2 [vS (p1.1),v2,v3] 25,bJ b1 [vS (p0.1),v0,v1] 25,Ar gZ b29 a28]) ?_ ?_
 ·refine aZ<|aK rfl<|aU<|aY<|cJ (d_ gZ)<|fW (B:=Value) (nH U p0 p1) (fun a192 b193=>[(2,vP b1),(3,vP b2),(4,vP b3),(9,vP b21.1),(10,vI (List.length ((([]:gN)++p0.2.1)++p1.2.1):Int)),(11,b193),(12,vI (a192.2))]) (fun a192 b193=>[bJ b21.1 [vS (p0.1),u23,fX] 25,Ar aH u23 (((([]:gN)++p0.2.1)++p1.2.1)++([((ByteArray.mk #[116,117,114,110]),(2:Int),(0:Int),(0:Int),(0:Int),(0:Int))])),bJ b3 fL 25,bJ b2 [vS (p1.1),v2,v3] 25,bJ b1 [vS (p0.1),v0,v1] 25,Ar gZ b193 a192.1]) (([]:cU),(0:Int)) (fX) h SF (bH.ix [2,3,4,5,6,0] rfl rfl) ?_
  intro k194 a192 b193 h
  refine aP<|aZ<|aE rfl<|bP rfl<|dC 3 rfl<|eC (rA rfl) rfl<|dL rfl<|aU ?_
  refine gT h rfl (fun h=>?_) fun h=>?_
  ·refine cC<|aP<|aY<|aS<|aE rfl<|bP rfl<|dC 4 rfl<|eC (dN rfl) rfl<|aE rfl<|dM rfl<|aT (dJ (e:=gZ) ([(wI .i64 ((List.length p0.2.1:Int)+a192.2))]) [(0,vI (wI .i64 ((List.length p0.2.1:Int)+a192.2)))] rfl rfl rfl rfl (Bc (vI (wI .i64 ((List.length p0.2.1:Int)+a192.2))) rfl) rfl rfl rfl) rfl fun u196=>fJ h fun j198 h=>aT (dP 6 jF rfl rfl rfl (aM.ar (aM.res 0 rfl) jF) rfl rfl rfl rfl j198 rfl) rfl fun u197=>aK rfl<|fQ<|lP<|aS<|aE rfl<|dM rfl<|aK rfl<|aU ?_
   exact dZ ((a192.1++([(wI .i64 ((List.length p0.2.1:Int)+a192.2))])),(wI .i64 (a192.2+(1:Int)))) (u197) h SF (bH.ix [1,2,3,4,5,6] rfl rfl) (aV.refl _ _)
  refine eQ ?_
  exact cZ (a192.1) (b193) h SF rfl
 intro a28 b29 h
 unfold mZ at h
 refine aZ<|aK rfl<|aK rfl<|aU<|aP<|iM (B:=AC) (fun a33=>m_ U p0 p1 a28 a33=some r) (fun a33 b34=>[(3,vP b2),(4,vP b3),(9,vP b21.1),(10,vI (List.length ((([]:gN)++p0.2.1)++p1.2.1):Int)),(11,b29),(13,b34.1),(14,fX)]) (fun a33 b34=>[bJ b21.1 [vS (p0.1),u23,fX] 25,Ar aH u23 (((([]:gN)++p0.2.1)++p1.2.1)++([((ByteArray.mk #[116,117,114,110]),(2:Int),(0:Int),(0:Int),(0:Int),(0:Int))])),bJ b3 fL 25,bJ b2 [vS (p1.1),v2,v3] 25,Ad aG b34.1 b34.2 a33]) (fun a33 b34=>[Sl gS b29 a28,Sl aF v0 p0.2.1,Sl aD v1 p0.2.2,Sl aF v2 p1.2.1,Sl aD v3 p1.2.2,Pw aC b34.2 a33]) ?_ ?_
 ·refine aZ<|aK rfl<|aU<|aY<|cJ (cY [Ar gZ b29 a28] [bJ b21.1 [vS (p0.1),u23,fX] 25,Ar aH u23 (((([]:gN)++p0.2.1)++p1.2.1)++([((ByteArray.mk #[116,117,114,110]),(2:Int),(0:Int),(0:Int),(0:Int),(0:Int))])),bJ b3 fL 25,bJ b2 [vS (p1.1),v2,v3] 25,bJ b1 [vS (p0.1),v0,v1] 25] (bH.ix [5,0,1,2,3,4] rfl rfl) (aM.ar (aM.res 0 rfl) jF))<|cJ (xI aG)<|cJ (bD (dB:aM _ _ (Pw aC ([]:o_) ([]:jR))))<|jL (B:=AC) (nG U p0 p1 a28) (fun a171 b172=>[(2,vP b1),(3,vP b2),(4,vP b3),(9,vP b21.1),(10,vI (List.length ((([]:gN)++p0.2.1)++p1.2.1):Int)),(11,b29),(13,b172.1),(14,fX),(15,vI (a171.2))]) (fun a171 b172=>[bJ b21.1 [vS (p0.1),u23,fX] 25,Ar aH u23 (((([]:gN)++p0.2.1)++p1.2.1)++([((ByteArray.mk #[116,117,114,110]),(2:Int),(0:Int),(0:Int),(0:Int),(0:Int))])),bJ b3 fL 25,bJ b2 [vS (p1.1),v2,v3] 25,bJ b1 [vS (p0.1),v0,v1] 25,Ad aG b172.1 b172.2 a171.1]) (fun a171 b172=>[Sl gS b29 a28,Sl aF v0 p0.2.1,Sl aD v1 p0.2.2,Sl aF v2 p1.2.1,Sl aD v3 p1.2.2,Pw aC b172.2 a171.1]) (([]:jR),(0:Int)) ((fX),([]:o_)) h SF (bH.ix [1,2,3,4,5,0] rfl rfl) (gO [1,2,3,4,5,0] rfl) ?_
  intro k173 a171 b172 h
  refine aP<|aZ<|aE rfl<|bP rfl<|dC 4 rfl<|eC (rA rfl) rfl<|dL rfl<|aU ?_
  refine gT h rfl (fun h=>?_) fun h=>?_
  ·refine cC<|aP<|aY ?_
   refine CC [0,0,2,0,14,30,0,64,192,448,1022,2046,4095,8191] 12 mixedOrders ?_
   refine dG rfl<|eD rfl<|gM 4 rfl<|dG rfl<|fJ h fun j175 h=>dK rfl .nil (jY 2 rfl) (a_ rfl rfl (dN rfl) rfl rfl j175) bG.z<|oJ (v:=v1) (ds:=p0.2.2) aO (rA rfl) fun us176=>?_
   refine JR.stp (bD ((e_ (bT (f:=aC) (fP rfl) j175.1 (by first|exact j175.2|simpa using j175.2))):aM _ _ (Sl bF ((at' us176 a171.2).1) ((at' p0.2.2 a171.2).2.1)))) ?_
   refine JR.stp (bD ((fA (bT (f:=aC) (rA rfl) j175.1 (by first|exact j175.2|simpa using j175.2))):aM _ _ (Sl aX ((at' us176 a171.2).2) ((at' p0.2.2 a171.2).2.2)))) ?_
   refine dK rfl .nil (jY 2 rfl) (dY (cs:=[vS ((at' p0.2.2 a171.2).1),(at' us176 a171.2).1,(at' us176 a171.2).2]) rfl (dN rfl) rfl rfl rfl rfl ⟨j175.1,by first|exact j175.2|simpa using j175.2⟩) bG.z<|eD rfl<|gM 4 rfl<|dK rfl .nil (jY 5 rfl) (dR rfl (dN rfl) rfl) bG.z<|fO h fun r177 w178 h=>JR.loud rfl rfl rfl (aW.callQ Qt (FY U  r177 w178) rfl .nil) rfl (fun x179=>(pH [([],[2]),([],[6]),([5],[])] rfl)) fun x179=>JR.stp (cY [Ar gZ x179 r177] [bJ b21.1 [vS (p0.1),u23,fX] 25,Ar aH u23 (((([]:gN)++p0.2.1)++p1.2.1)++([((ByteArray.mk #[116,117,114,110]),(2:Int),(0:Int),(0:Int),(0:Int),(0:Int))])),bJ b3 fL 25,bJ b2 [vS (p1.1),v2,v3] 25,bJ b1 [vS (p0.1),v0,v1] 25,Ad aG b172.1 b172.2 a171.1] (bH.ix [0,1,2,3,4,5,6] rfl rfl) (aM.ar (aM.res 0 rfl) jF))<|fO h fun r180 w181 h=>JR.loud rfl rfl rfl (aW.call JZ (qY U ((at' us176 a171.2).1) ((at' us176 a171.2).2) x179 r180 w181) rfl (j_.cons (List.mem_of_getElem? (i:=2) rfl) (j_.cons (List.mem_of_getElem? (i:=1) rfl) (jY 0 rfl))) (fun _ _=>rfl) (fun _ _=>rfl)) rfl (fun x182=>(pH [] rfl)) fun x182=>JR.stp (cY [Ar cD x182.1 r180.2.1] [Ad bI x182.2.1 x182.2.2 r180.2.2,bJ b21.1 [vS (p0.1),u23,fX] 25,Ar aH u23 (((([]:gN)++p0.2.1)++p1.2.1)++([((ByteArray.mk #[116,117,114,110]),(2:Int),(0:Int),(0:Int),(0:Int),(0:Int))])),bJ b3 fL 25,bJ b2 [vS (p1.1),v2,v3] 25,bJ b1 [vS (p0.1),v0,v1] 25,Ad aG b172.1 b172.2 a171.1] (bH.ix [0,1,2,3,4,5,6,7] rfl rfl) (aM.ar (aM.res 0 rfl) cO))<|JR.stp (cY [Ad bI x182.2.1 x182.2.2 r180.2.2] [bJ b21.1 [vS (p0.1),u23,fX] 25,Ar aH u23 (((([]:gN)++p0.2.1)++p1.2.1)++([((ByteArray.mk #[116,117,114,110]),(2:Int),(0:Int),(0:Int),(0:Int),(0:Int))])),bJ b3 fL 25,bJ b2 [vS (p1.1),v2,v3] 25,bJ b1 [vS (p0.1),v0,v1] 25,Ad aG b172.1 b172.2 a171.1] (bH.ix [0,1,2,3,4,5,6] rfl rfl) (cV (i:=0) (j:=1) bK rfl rfl:aM _ _ (Sl aX x182.2.1 r180.2.2)))<|JR.stp (bD ((dO (aM.and (fP rfl) (dN rfl)) dB):aM _ _ (Pw aC ([(x182.1,x182.2.1)]) ([(r180.1,r180.2.1,r180.2.2)]))))<|eG (Know.one ((rA rfl))) fun ho183=>eG (Know.one ((fP rfl))) fun ho184=>JR.loud rfl rfl rfl (eT (e:=aG) ([(x182.1,x182.2.1)]) ([((r180.1,r180.2.1,r180.2.2))]) [(0,Value.agg #[vS (r180.1),x182.1,x182.2.1])] rfl rfl rfl rfl (pV (vS (r180.1)) (x182.1) (x182.2.1)) rfl rfl (show List.all [vS (r180.1),x182.1,x182.2.1] one=true from(cR rfl (cR ho183 (cR ho184 rfl)))) rfl) rfl (fun u185=>(pH [] rfl)) fun u185=>cX 12 rfl rfl<|fJ h fun j186 h=>cJ (bD ((eH (bV 14 rfl) (dN rfl)):aM _ _ (Pw aC (b172.2++([(x182.1,x182.2.1)])) (a171.1++([(r180.1,r180.2.1,r180.2.2)])))))<|aT (aW.appendD 6 0 rfl rfl rfl rfl rfl rfl rfl rfl j186 rfl) rfl fun u187=>aK rfl<|fQ<|lP<|aS<|aE rfl<|dM rfl<|aK rfl<|aU ?_
   exact dZ ((a171.1++([(r180.1,r180.2.1,r180.2.2)])),(wI .i64 (a171.2+(1:Int)))) (u187,(b172.2++([(x182.1,x182.2.1)]))) h SF (bH.ix [1,2,3,4,5,6] rfl rfl) (gO [10,11,12,13,14,0] rfl)
  refine eQ ?_
  exact cK (a171.1) (b172.1,b172.2) h SF (bH.ix [0,1,2,3,5] rfl rfl) (aV.refl _ _)
 intro a33 b34 h
 unfold m_ at h
 refine aP<|iM (B:=AC) (fun a38=>kO U p0 p1 a33 a38=some r) (fun a38 b39=>[(4,vP b3),(9,vP b21.1),(10,vI (List.length ((([]:gN)++p0.2.1)++p1.2.1):Int)),(13,b34.1),(14,b39.1)]) (fun a38 b39=>[bJ b21.1 [vS (p0.1),u23,fX] 25,Ar aH u23 (((([]:gN)++p0.2.1)++p1.2.1)++([((ByteArray.mk #[116,117,114,110]),(2:Int),(0:Int),(0:Int),(0:Int),(0:Int))])),bJ b3 fL 25,Ad aG b34.1 b34.2 a33,Ad aG b39.1 b39.2 a38]) (fun a38 b39=>[Sl gS b29 a28,Sl aF v0 p0.2.1,Sl aD v1 p0.2.2,Sl aF v2 p1.2.1,Sl aD v3 p1.2.2,Pw aC b34.2 a33,Pw aC b39.2 a38]) ?_ ?_
 ·refine aZ<|aK rfl<|aU<|aY<|cJ (xI aG)<|cJ (bD (dB:aM _ _ (Pw aC ([]:o_) ([]:jR))))<|jL (B:=AC) (nF U p0 p1 a28 a33) (fun a152 b153=>[(3,vP b2),(4,vP b3),(9,vP b21.1),(10,vI (List.length ((([]:gN)++p0.2.1)++p1.2.1):Int)),(11,b29),(13,b34.1),(14,b153.1),(16,vI (a152.2))]) (fun a152 b153=>[bJ b21.1 [vS (p0.1),u23,fX] 25,Ar aH u23 (((([]:gN)++p0.2.1)++p1.2.1)++([((ByteArray.mk #[116,117,114,110]),(2:Int),(0:Int),(0:Int),(0:Int),(0:Int))])),bJ b3 fL 25,bJ b2 [vS (p1.1),v2,v3] 25,Ad aG b34.1 b34.2 a33,Ad aG b153.1 b153.2 a152.1]) (fun a152 b153=>[Sl gS b29 a28,Sl aF v0 p0.2.1,Sl aD v1 p0.2.2,Sl aF v2 p1.2.1,Sl aD v3 p1.2.2,Pw aC b34.2 a33,Pw aC b153.2 a152.1]) (([]:jR),(0:Int)) ((fX),([]:o_)) h SF (bH.ix [1,2,3,4,5,0] rfl rfl) (gO [1,2,3,4,5,6,0] rfl) ?_
  intro k154 a152 b153 h
  refine aP<|aZ<|aE rfl<|bP rfl<|dC 3 rfl<|eC (KS rfl) rfl<|dL rfl<|aU ?_
  refine gT h rfl (fun h=>?_) fun h=>?_
  ·refine cC<|aP<|aY<|aS<|aE rfl<|bP rfl<|dC 3 rfl<|aE rfl<|fJ h fun j156 h=>aJ (a_ rfl rfl (KS rfl) rfl rfl j156) rfl<|mS (v:=v3) (ds:=p1.2.2) aO (KS rfl) fun us157=>?_
   refine cJ (bD ((e_ (bT (f:=aC) (fP rfl) j156.1 (by first|exact j156.2|simpa using j156.2))):aM _ _ (Sl bF ((at' us157 a152.2).1) ((at' p1.2.2 a152.2).2.1)))) ?_
   refine cJ (bD ((fA (bT (f:=aC) (rA rfl) j156.1 (by first|exact j156.2|simpa using j156.2))):aM _ _ (Sl aX ((at' us157 a152.2).2) ((at' p1.2.2 a152.2).2.2)))) ?_
   refine aJ (dY (cs:=[vS ((at' p1.2.2 a152.2).1),(at' us157 a152.2).1,(at' us157 a152.2).2]) rfl (rA rfl) rfl rfl rfl rfl ⟨j156.1,by first|exact j156.2|simpa using j156.2⟩) rfl<|aE rfl<|fO h fun r158 w159 h=>aT (aW.call JZ (qY U ((at' us157 a152.2).1) ((at' us157 a152.2).2) b29 r158 w159) rfl (j_.cons (List.mem_of_getElem? (i:=1) rfl) (j_.cons (List.mem_of_getElem? (i:=0) rfl) (jY 4 rfl))) (fun _ _=>rfl) (fun _ _=>rfl)) rfl fun x160=>cJ (cY [Ar cD x160.1 r158.2.1] [Ad bI x160.2.1 x160.2.2 r158.2.2,bJ b21.1 [vS (p0.1),u23,fX] 25,Ar aH u23 (((([]:gN)++p0.2.1)++p1.2.1)++([((ByteArray.mk #[116,117,114,110]),(2:Int),(0:Int),(0:Int),(0:Int),(0:Int))])),bJ b3 fL 25,bJ b2 [vS (p1.1),v2,v3] 25,Ad aG b34.1 b34.2 a33,Ad aG b153.1 b153.2 a152.1] (bH.ix [0,1,2,3,4,5,6,7] rfl rfl) (aM.ar (aM.res 0 rfl) cO))<|cJ (cY [Ad bI x160.2.1 x160.2.2 r158.2.2] [bJ b21.1 [vS (p0.1),u23,fX] 25,Ar aH u23 (((([]:gN)++p0.2.1)++p1.2.1)++([((ByteArray.mk #[116,117,114,110]),(2:Int),(0:Int),(0:Int),(0:Int),(0:Int))])),bJ b3 fL 25,bJ b2 [vS (p1.1),v2,v3] 25,Ad aG b34.1 b34.2 a33,Ad aG b153.1 b153.2 a152.1] (bH.ix [0,1,2,3,4,5,6] rfl rfl) (cV (i:=0) (j:=1) bK rfl rfl:aM _ _ (Sl aX x160.2.1 r158.2.2)))<|cJ (bD ((dO (aM.and (fP rfl) (dN rfl)) dB):aM _ _ (Pw aC ([(x160.1,x160.2.1)]) ([(r158.1,r158.2.1,r158.2.2)]))))<|bY (Know.one ((rA rfl))) fun ho161=>bY (Know.one ((fP rfl))) fun ho162=>aT (eT (e:=aG) ([(x160.1,x160.2.1)]) ([((r158.1,r158.2.1,r158.2.2))]) [(0,Value.agg #[vS (r158.1),x160.1,x160.2.1])] rfl rfl rfl rfl (pV (vS (r158.1)) (x160.1) (x160.2.1)) rfl rfl (show List.all [vS (r158.1),x160.1,x160.2.1] one=true from(cR rfl (cR ho161 (cR ho162 rfl)))) rfl) rfl fun u163=>fJ h fun j164 h=>cJ (bD ((eH (bV 14 rfl) (dN rfl)):aM _ _ (Pw aC (b153.2++([(x160.1,x160.2.1)])) (a152.1++([(r158.1,r158.2.1,r158.2.2)])))))<|aT (aW.appendD 6 0 rfl rfl rfl rfl rfl rfl rfl rfl j164 rfl) rfl fun u165=>aK rfl<|fQ<|lP<|aS<|aE rfl<|dM rfl<|aK rfl<|aU ?_
   exact dZ ((a152.1++([(r158.1,r158.2.1,r158.2.2)])),(wI .i64 (a152.2+(1:Int)))) (u165,(b153.2++([(x160.1,x160.2.1)]))) h SF (bH.ix [1,2,3,4,5,6] rfl rfl) (gO [9,10,11,12,13,14,0] rfl)
  refine eQ ?_
  exact cK (a152.1) (b153.1,b153.2) h SF (bH.ix [0,1,2,4,5] rfl rfl) (aV.refl _ _)
 intro a38 b39 h
 unfold kO at h
 refine aP<|iM (B:=AC) (fun a43=>nA U p0 p1 a33 a38 a43=some r) (fun a43 b44=>[(4,vP b3),(9,vP b21.1),(10,vI (List.length ((([]:gN)++p0.2.1)++p1.2.1):Int)),(13,b34.1),(14,b39.1)]) (fun a43 b44=>[bJ b21.1 [vS (p0.1),u23,b44.1] 25,Ar aH u23 (((([]:gN)++p0.2.1)++p1.2.1)++([((ByteArray.mk #[116,117,114,110]),(2:Int),(0:Int),(0:Int),(0:Int),(0:Int))])),bJ b3 fL 25,Ad aG b34.1 b34.2 a33,Ad aG b39.1 b39.2 a38,Ad aG b44.1 b44.2 a43]) (fun a43 b44=>[Sl gS b29 a28,Sl aF v0 p0.2.1,Sl aD v1 p0.2.2,Sl aF v2 p1.2.1,Sl aD v3 p1.2.2,Pw aC b34.2 a33,Pw aC b39.2 a38,Pw aC b44.2 a43]) ?_ ?_
 ·refine aZ<|aK rfl<|aU<|aY<|cJ (xI aG)<|cJ (bD (dB:aM _ _ (Pw aC ([]:o_) ([]:jR))))<|jL (B:=AC) (nE U p0 p1 a33 a38) (fun a133 b134=>[(4,vP b3),(9,vP b21.1),(10,vI (List.length ((([]:gN)++p0.2.1)++p1.2.1):Int)),(13,b34.1),(14,b39.1),(17,vI (a133.1))]) (fun a133 b134=>[bJ b21.1 [vS (p0.1),u23,b134.1] 25,Ar aH u23 (((([]:gN)++p0.2.1)++p1.2.1)++([((ByteArray.mk #[116,117,114,110]),(2:Int),(0:Int),(0:Int),(0:Int),(0:Int))])),bJ b3 fL 25,Ad aG b34.1 b34.2 a33,Ad aG b39.1 b39.2 a38,Ad aG b134.1 b134.2 a133.2]) (fun a133 b134=>[Sl gS b29 a28,Sl aF v0 p0.2.1,Sl aD v1 p0.2.2,Sl aF v2 p1.2.1,Sl aD v3 p1.2.2,Pw aC b34.2 a33,Pw aC b39.2 a38,Pw aC b134.2 a133.2]) ((0:Int),([]:jR)) ((fX),([]:o_)) h SF (bH.ix [1,2,3,4,5,0] rfl rfl) (gO [1,2,3,4,5,6,7,0] rfl) ?_
  intro k135 a133 b134 h
  refine aP<|aZ<|aE rfl<|aE rfl<|aJ (dR rfl (cV (i:=3) (j:=5) aO rfl rfl) rfl) rfl<|dL rfl<|aU ?_
  refine gT h rfl (fun h=>?_) fun h=>?_
  ·refine cC<|aP<|aY ?_
   refine CC [0,1,0,0,12,28,0,124,252,511,1023,2047] 9 mixedOrders ?_
   refine eD rfl<|gM 0 rfl<|dG rfl<|dG rfl<|fJ h fun j137 h=>dK rfl (bH.cons 3 rfl .nil) (jY 5 rfl) (a_ rfl rfl (cV (i:=0) (j:=0) aO rfl rfl) rfl rfl j137) bG.z ?_
   refine JR.stp (bD ((e_ (bT (f:=aC) (bV 5 rfl) j137.1 (by first|exact j137.2|simpa using j137.2))):aM _ _ (Sl bF ((at' b34.2 a133.1).1) ((at' a33 a133.1).2.1)))) ?_
   refine JR.stp (bD ((fA (bT (f:=aC) (bV 6 rfl) j137.1 (by first|exact j137.2|simpa using j137.2))):aM _ _ (Sl aX ((at' b34.2 a133.1).2) ((at' a33 a133.1).2.2)))) ?_
   refine dK rfl (bH.cons 3 rfl .nil) .nil (dY (cs:=[vS ((at' a33 a133.1).1),(at' b34.2 a133.1).1,(at' b34.2 a133.1).2]) rfl (BV (i:=0) rfl) rfl rfl rfl rfl ⟨j137.1,by first|exact j137.2|simpa using j137.2⟩) bG.z<|dG rfl<|fO h fun r138 w139 h=>JR.loud rfl rfl rfl (aW.call Qy (DT U ((at' b34.2 a133.1).1) ((at' b34.2 a133.1).2) r138 w139) rfl (j_.cons (List.mem_of_getElem? (i:=1) rfl) (jY 0 rfl)) (fun _ _=>rfl) (fun _ _=>rfl)) rfl (fun x140=>(pH [([1],[])] rfl)) fun x140=>JR.stp (cY [Ar cD x140.1 r138.2.1] [bJ b21.1 [vS (p0.1),u23,b134.1] 25,Ar aH u23 (((([]:gN)++p0.2.1)++p1.2.1)++([((ByteArray.mk #[116,117,114,110]),(2:Int),(0:Int),(0:Int),(0:Int),(0:Int))])),bJ b3 fL 25,Ad aG b34.1 b34.2 a33,Ad aG b39.1 b39.2 a38,Ad aG b134.1 b134.2 a133.2] (bH.ix [0,1,2,3,4,5,6] rfl rfl) (aM.ar (aM.res 0 rfl) cO))<|JR.stp (bD ((dO (aM.and (dN rfl) (fP rfl)) dB):aM _ _ (Pw aC ([(x140.1,x140.2)]) ([(r138.1,r138.2.1,r138.2.2)]))))<|eG (Know.one ((fP rfl))) fun ho141=>eG (Know.one ((rA rfl))) fun ho142=>JR.loud rfl rfl rfl (eT (e:=aG) ([(x140.1,x140.2)]) ([((r138.1,r138.2.1,r138.2.2))]) [(0,Value.agg #[vS (r138.1),x140.1,x140.2])] rfl rfl rfl rfl (pV (vS (r138.1)) (x140.1) (x140.2)) rfl rfl (show List.all [vS (r138.1),x140.1,x140.2] one=true from(cR rfl (cR ho141 (cR ho142 rfl)))) rfl) rfl (fun u143=>(pH [([1],[])] rfl)) fun u143=>cX 9 rfl rfl<|fJ h fun j144 h=>cJ (bD ((eH (bV 12 rfl) (dN rfl)):aM _ _ (Pw aC (b134.2++([(x140.1,x140.2)])) (a133.2++([(r138.1,r138.2.1,r138.2.2)])))))<|aT (aW.appendD 6 0 rfl rfl rfl rfl rfl rfl rfl rfl j144 rfl) rfl fun u145=>bP rfl<|bY (Know.one ((cV (i:=6) (j:=0) aO rfl rfl))) fun ho146=>eS 1 rfl rfl ho146 rfl rfl rfl<|fQ<|lP<|aS<|aE rfl<|dM rfl<|aK rfl<|aU ?_
   exact dZ ((wI .i64 (a133.1+(1:Int))),(a133.2++([(r138.1,r138.2.1,r138.2.2)]))) (u145,(b134.2++([(x140.1,x140.2)]))) h SF (bH.ix [1,2,3,4,5,6] rfl rfl) (gO [6,7,8,9,10,11,12,0] rfl)
  refine eQ ?_
  exact cZ (a133.2) (b134.1,b134.2) h SF rfl
 intro a43 b44 h
 unfold nA at h
 refine aP<|iM (B:=AC) (fun a48=>mB U p0 p1 a33 a38 a48=some r) (fun a48 b49=>[(4,vP b3),(9,vP b21.1),(13,b34.1),(14,b39.1)]) (fun a48 b49=>[bJ b21.1 [vS (p0.1),u23,b49.1] 25,Ar aH u23 (((([]:gN)++p0.2.1)++p1.2.1)++([((ByteArray.mk #[116,117,114,110]),(2:Int),(0:Int),(0:Int),(0:Int),(0:Int))])),bJ b3 fL 25,Ad aG b34.1 b34.2 a33,Ad aG b39.1 b39.2 a38,Ad aG b49.1 b49.2 a48]) (fun a48 b49=>[Sl gS b29 a28,Sl aF v0 p0.2.1,Sl aD v1 p0.2.2,Sl aF v2 p1.2.1,Sl aD v3 p1.2.2,Pw aC b34.2 a33,Pw aC b39.2 a38,Pw aC b49.2 a48]) ?_ ?_
 ·refine aZ<|aK rfl<|aU<|aY<|jL (B:=AC) (nD U p0 p1 a33 a38) (fun a114 b115=>[(4,vP b3),(9,vP b21.1),(10,vI (List.length ((([]:gN)++p0.2.1)++p1.2.1):Int)),(13,b34.1),(14,b39.1),(18,vI (a114.1))]) (fun a114 b115=>[bJ b21.1 [vS (p0.1),u23,b115.1] 25,Ar aH u23 (((([]:gN)++p0.2.1)++p1.2.1)++([((ByteArray.mk #[116,117,114,110]),(2:Int),(0:Int),(0:Int),(0:Int),(0:Int))])),bJ b3 fL 25,Ad aG b34.1 b34.2 a33,Ad aG b39.1 b39.2 a38,Ad aG b115.1 b115.2 a114.2]) (fun a114 b115=>[Sl gS b29 a28,Sl aF v0 p0.2.1,Sl aD v1 p0.2.2,Sl aF v2 p1.2.1,Sl aD v3 p1.2.2,Pw aC b34.2 a33,Pw aC b39.2 a38,Pw aC b115.2 a114.2]) ((0:Int),a43) (b44.1,b44.2) h SF (bH.refl _) (aV.refl _ _) ?_
  intro k116 a114 b115 h
  refine aP<|aZ<|aE rfl<|aE rfl<|aJ (dR rfl (cV (i:=4) (j:=6) aO rfl rfl) rfl) rfl<|dL rfl<|aU ?_
  refine gT h rfl (fun h=>?_) fun h=>?_
  ·refine cC<|aP<|aY ?_
   refine CC [0,1,0,0,12,28,0,124,252,511,1023,2047] 9 mixedOrders ?_
   refine eD rfl<|gM 0 rfl<|dG rfl<|dG rfl<|fJ h fun j118 h=>dK rfl (bH.cons 4 rfl .nil) (jY 6 rfl) (a_ rfl rfl (cV (i:=0) (j:=0) aO rfl rfl) rfl rfl j118) bG.z ?_
   refine JR.stp (bD ((e_ (bT (f:=aC) (bV 6 rfl) j118.1 (by first|exact j118.2|simpa using j118.2))):aM _ _ (Sl bF ((at' b39.2 a114.1).1) ((at' a38 a114.1).2.1)))) ?_
   refine JR.stp (bD ((fA (bT (f:=aC) (bV 7 rfl) j118.1 (by first|exact j118.2|simpa using j118.2))):aM _ _ (Sl aX ((at' b39.2 a114.1).2) ((at' a38 a114.1).2.2)))) ?_
   refine dK rfl (bH.cons 4 rfl .nil) .nil (dY (cs:=[vS ((at' a38 a114.1).1),(at' b39.2 a114.1).1,(at' b39.2 a114.1).2]) rfl (BV (i:=0) rfl) rfl rfl rfl rfl ⟨j118.1,by first|exact j118.2|simpa using j118.2⟩) bG.z<|dG rfl<|fO h fun r119 w120 h=>JR.loud rfl rfl rfl (aW.call Qy (DT U ((at' b39.2 a114.1).1) ((at' b39.2 a114.1).2) r119 w120) rfl (j_.cons (List.mem_of_getElem? (i:=1) rfl) (jY 0 rfl)) (fun _ _=>rfl) (fun _ _=>rfl)) rfl (fun x121=>(pH [([1],[])] rfl)) fun x121=>JR.stp (cY [Ar cD x121.1 r119.2.1] [bJ b21.1 [vS (p0.1),u23,b115.1] 25,Ar aH u23 (((([]:gN)++p0.2.1)++p1.2.1)++([((ByteArray.mk #[116,117,114,110]),(2:Int),(0:Int),(0:Int),(0:Int),(0:Int))])),bJ b3 fL 25,Ad aG b34.1 b34.2 a33,Ad aG b39.1 b39.2 a38,Ad aG b115.1 b115.2 a114.2] (bH.ix [0,1,2,3,4,5,6] rfl rfl) (aM.ar (aM.res 0 rfl) cO))<|JR.stp (bD ((dO (aM.and (dN rfl) (fP rfl)) dB):aM _ _ (Pw aC ([(x121.1,x121.2)]) ([(r119.1,r119.2.1,r119.2.2)]))))<|eG (Know.one ((fP rfl))) fun ho122=>eG (Know.one ((rA rfl))) fun ho123=>JR.loud rfl rfl rfl (eT (e:=aG) ([(x121.1,x121.2)]) ([((r119.1,r119.2.1,r119.2.2))]) [(0,Value.agg #[vS (r119.1),x121.1,x121.2])] rfl rfl rfl rfl (pV (vS (r119.1)) (x121.1) (x121.2)) rfl rfl (show List.all [vS (r119.1),x121.1,x121.2] one=true from(cR rfl (cR ho122 (cR ho123 rfl)))) rfl) rfl (fun u124=>(pH [([1],[])] rfl)) fun u124=>cX 9 rfl rfl<|fJ h fun j125 h=>cJ (bD ((eH (bV 12 rfl) (dN rfl)):aM _ _ (Pw aC (b115.2++([(x121.1,x121.2)])) (a114.2++([(r119.1,r119.2.1,r119.2.2)])))))<|aT (aW.appendD 6 0 rfl rfl rfl rfl rfl rfl rfl rfl j125 rfl) rfl fun u126=>bP rfl<|bY (Know.one ((cV (i:=6) (j:=0) aO rfl rfl))) fun ho127=>eS 1 rfl rfl ho127 rfl rfl rfl<|fQ<|lP<|aS<|aE rfl<|dM rfl<|aK rfl<|aU ?_
   exact dZ ((wI .i64 (a114.1+(1:Int))),(a114.2++([(r119.1,r119.2.1,r119.2.2)]))) (u126,(b115.2++([(x121.1,x121.2)]))) h SF (bH.ix [1,2,3,4,5,6] rfl rfl) (gO [6,7,8,9,10,11,12,0] rfl)
  refine eQ ?_
  exact cZ (a114.2) (b115.1,b115.2) h SF rfl
 intro a48 b49 h
 unfold mB at h
 refine aZ<|cJ (bD (dB:aM _ _ (Pw aC ([]:o_) ([]:jR))))<|aT (eT (e:=aG) ([]:o_) ([]:jR) [] rfl rfl rfl rfl ((fun i h=>by simp at h;subst h;rfl)) rfl rfl (show List.all [] one=true from rfl) rfl) rfl fun u50=>aE rfl<|fJ h fun j51 h=>cJ (bD ((eH (dN rfl) (bV 6 rfl)):aM _ _ (Pw aC (([]:o_)++b34.2) (([]:jR)++a33))))<|aT (aW.appendD 0 4 rfl rfl rfl rfl rfl rfl rfl rfl j51 rfl) rfl fun u52=>aE rfl<|fJ h fun j53 h=>cJ (bD ((eH (dN rfl) (bV 8 rfl)):aM _ _ (Pw aC ((([]:o_)++b34.2)++b39.2) ((([]:jR)++a33)++a38))))<|aT (aW.appendD 0 5 rfl rfl rfl rfl rfl rfl rfl rfl j53 rfl) rfl fun u54=>aK rfl<|aU<|aP<|iM (B:=AC) (fun a58=>jX U p0 p1 a58=some r) (fun a58 b59=>[(4,vP b3),(9,vP b21.1)]) (fun a58 b59=>[bJ b21.1 [vS (p0.1),u23,b59.1] 25,Ar aH u23 (((([]:gN)++p0.2.1)++p1.2.1)++([((ByteArray.mk #[116,117,114,110]),(2:Int),(0:Int),(0:Int),(0:Int),(0:Int))])),bJ b3 fL 25,Ad aG b59.1 b59.2 a58]) (fun a58 b59=>[Pw aC (([]:o_)++b34.2) (([]:jR)++a33),Pw aC ([]:o_) ([]:jR),Sl gS b29 a28,Sl aF v0 p0.2.1,Sl aD v1 p0.2.2,Sl aF v2 p1.2.1,Sl aD v3 p1.2.2,Pw aC b34.2 a33,Pw aC b39.2 a38,Pw aC b59.2 a58]) ?_ ?_
 ·refine aZ<|aK rfl<|aU<|aY<|jL (B:=(List (Value×Value))×Value×(List (Value×Value))) (nC U p0 p1) (fun a94 b95=>[(4,vP b3),(9,vP b21.1),(19,u54),(20,vI (a94.1))]) (fun a94 b95=>[Ad aG u54 b95.1 a94.2.1,bJ b21.1 [vS (p0.1),u23,b95.2.1] 25,Ar aH u23 (((([]:gN)++p0.2.1)++p1.2.1)++([((ByteArray.mk #[116,117,114,110]),(2:Int),(0:Int),(0:Int),(0:Int),(0:Int))])),bJ b3 fL 25,Ad aG b95.2.1 b95.2.2 a94.2.2]) (fun a94 b95=>[Pw aC b95.1 a94.2.1,Pw aC (([]:o_)++b34.2) (([]:jR)++a33),Pw aC ([]:o_) ([]:jR),Sl gS b29 a28,Sl aF v0 p0.2.1,Sl aD v1 p0.2.2,Sl aF v2 p1.2.1,Sl aD v3 p1.2.2,Pw aC b34.2 a33,Pw aC b39.2 a38,Pw aC b95.2.2 a94.2.2]) ((0:Int),((([]:jR)++a33)++a38),a48) (((([]:o_)++b34.2)++b39.2),b49.1,b49.2) h SF (bH.ix [0,1,2,3,6] rfl rfl) (aV.refl _ _) ?_
  intro k96 a94 b95 h
  refine aP<|aZ<|aE rfl<|aE rfl<|aJ (dR rfl (cV (i:=0) (j:=0) aO rfl rfl) rfl) rfl<|dL rfl<|aU ?_
  refine gT h rfl (fun h=>?_) fun h=>?_
  ·refine cC<|aP<|aY<|aZ<|aE rfl<|aE rfl<|aE rfl<|aE rfl<|fJ h fun j98 h=>aJ (a_ rfl rfl (cV (i:=0) (j:=0) aO rfl rfl) rfl rfl j98) rfl<|aJ (cW rfl rfl rfl rfl rfl) rfl<|aJ (fN rfl (cV (i:=0) (j:=0) aO rfl rfl) rfl rfl rfl dX j98) rfl<|fJ h fun j99 h=>aJ (Ay rfl rfl j99) rfl<|fJ h fun j100 h=>aJ (a_ rfl rfl (cV (i:=0) (j:=0) aO rfl rfl) rfl rfl j100) rfl<|aJ (cW rfl rfl rfl rfl rfl) rfl ?_
   refine cJ (bD ((K_ (Int.toNat a94.1) (dN rfl) (bT (f:=aC) (dN rfl) j100.1 (by first|exact j100.2|simpa using j100.2):aM _ _ (aC (at' b95.1 a94.1) ((((at' a94.2.1 a94.1).1)++(ByteArray.mk #[50])),(at' a94.2.1 a94.1).2.1,(at' a94.2.1 a94.1).2.2)))):aM _ _ (Pw aC (List.set b95.1 (Int.toNat a94.1) (at' b95.1 a94.1)) (List.set a94.2.1 (Int.toNat a94.1) ((((at' a94.2.1 a94.1).1)++(ByteArray.mk #[50])),(at' a94.2.1 a94.1).2.1,(at' a94.2.1 a94.1).2.2))))) ?_
   refine JJ (La (cs:=[vS (((at' a94.2.1 a94.1).1)++(ByteArray.mk #[50]))]) (o:=0) 0 (at' b95.1 a94.1) ((((at' a94.2.1 a94.1).1)++(ByteArray.mk #[50])),(at' a94.2.1 a94.1).2.1,(at' a94.2.1 a94.1).2.2) ⟨j100.1,by first|exact j100.2|simpa using j100.2⟩ rfl rfl rfl rfl rfl rfl rfl rfl rfl rfl) fun x101=>aU ?_
   refine CC [0,1,0,0,12,28,60,127,255,511] 7 mixedOrders ?_
   refine eD rfl<|gM 1 rfl<|dG rfl<|dG rfl<|fJ h fun j102 h=>dK rfl (bH.cons 0 rfl .nil) (jY 0 rfl) (a_ rfl rfl (cV (i:=0) (j:=0) aO rfl rfl) rfl rfl j102) bG.z ?_
   refine JR.stp (bD ((e_ (bT (f:=aC) (dN rfl) j102.1 (by first|exact j102.2|simpa using j102.2))):aM _ _ (Sl bF ((at' (List.set b95.1 (Int.toNat a94.1) (at' b95.1 a94.1)) a94.1).1) ((at' (List.set a94.2.1 (Int.toNat a94.1) ((((at' a94.2.1 a94.1).1)++(ByteArray.mk #[50])),(at' a94.2.1 a94.1).2.1,(at' a94.2.1 a94.1).2.2)) a94.1).2.1)))) ?_
   refine JR.stp (bD ((fA (bT (f:=aC) (fP rfl) j102.1 (by first|exact j102.2|simpa using j102.2))):aM _ _ (Sl aX ((at' (List.set b95.1 (Int.toNat a94.1) (at' b95.1 a94.1)) a94.1).2) ((at' (List.set a94.2.1 (Int.toNat a94.1) ((((at' a94.2.1 a94.1).1)++(ByteArray.mk #[50])),(at' a94.2.1 a94.1).2.1,(at' a94.2.1 a94.1).2.2)) a94.1).2.2)))) ?_
   refine dK rfl (bH.cons 0 rfl .nil) .nil (dY (cs:=[vS ((at' (List.set a94.2.1 (Int.toNat a94.1) ((((at' a94.2.1 a94.1).1)++(ByteArray.mk #[50])),(at' a94.2.1 a94.1).2.1,(at' a94.2.1 a94.1).2.2)) a94.1).1),(at' (List.set b95.1 (Int.toNat a94.1) (at' b95.1 a94.1)) a94.1).1,(at' (List.set b95.1 (Int.toNat a94.1) (at' b95.1 a94.1)) a94.1).2]) rfl (BV (i:=0) rfl) rfl rfl rfl rfl ⟨j102.1,by first|exact j102.2|simpa using j102.2⟩) bG.z<|JR.stp (bD ((dO (aM.and (fP rfl) (dN rfl)) dB):aM _ _ (Pw aC ([(((at' (List.set b95.1 (Int.toNat a94.1) (at' b95.1 a94.1)) a94.1).1),((at' (List.set b95.1 (Int.toNat a94.1) (at' b95.1 a94.1)) a94.1).2))]) ([(((at' (List.set a94.2.1 (Int.toNat a94.1) ((((at' a94.2.1 a94.1).1)++(ByteArray.mk #[50])),(at' a94.2.1 a94.1).2.1,(at' a94.2.1 a94.1).2.2)) a94.1).1),((at' (List.set a94.2.1 (Int.toNat a94.1) ((((at' a94.2.1 a94.1).1)++(ByteArray.mk #[50])),(at' a94.2.1 a94.1).2.1,(at' a94.2.1 a94.1).2.2)) a94.1).2.1),((at' (List.set a94.2.1 (Int.toNat a94.1) ((((at' a94.2.1 a94.1).1)++(ByteArray.mk #[50])),(at' a94.2.1 a94.1).2.1,(at' a94.2.1 a94.1).2.2)) a94.1).2.2))]))))<|eG (Know.one ((rA rfl))) fun ho103=>eG (Know.one ((fP rfl))) fun ho104=>JR.loud rfl rfl rfl (eT (e:=aG) ([(((at' (List.set b95.1 (Int.toNat a94.1) (at' b95.1 a94.1)) a94.1).1),((at' (List.set b95.1 (Int.toNat a94.1) (at' b95.1 a94.1)) a94.1).2))]) ([((((at' (List.set a94.2.1 (Int.toNat a94.1) ((((at' a94.2.1 a94.1).1)++(ByteArray.mk #[50])),(at' a94.2.1 a94.1).2.1,(at' a94.2.1 a94.1).2.2)) a94.1).1),((at' (List.set a94.2.1 (Int.toNat a94.1) ((((at' a94.2.1 a94.1).1)++(ByteArray.mk #[50])),(at' a94.2.1 a94.1).2.1,(at' a94.2.1 a94.1).2.2)) a94.1).2.1),((at' (List.set a94.2.1 (Int.toNat a94.1) ((((at' a94.2.1 a94.1).1)++(ByteArray.mk #[50])),(at' a94.2.1 a94.1).2.1,(at' a94.2.1 a94.1).2.2)) a94.1).2.2)))]) [(0,Value.agg #[vS ((at' (List.set a94.2.1 (Int.toNat a94.1) ((((at' a94.2.1 a94.1).1)++(ByteArray.mk #[50])),(at' a94.2.1 a94.1).2.1,(at' a94.2.1 a94.1).2.2)) a94.1).1),(at' (List.set b95.1 (Int.toNat a94.1) (at' b95.1 a94.1)) a94.1).1,(at' (List.set b95.1 (Int.toNat a94.1) (at' b95.1 a94.1)) a94.1).2])] rfl rfl rfl rfl (pV (vS ((at' (List.set a94.2.1 (Int.toNat a94.1) ((((at' a94.2.1 a94.1).1)++(ByteArray.mk #[50])),(at' a94.2.1 a94.1).2.1,(at' a94.2.1 a94.1).2.2)) a94.1).1)) ((at' (List.set b95.1 (Int.toNat a94.1) (at' b95.1 a94.1)) a94.1).1) ((at' (List.set b95.1 (Int.toNat a94.1) (at' b95.1 a94.1)) a94.1).2)) rfl rfl (show List.all [vS ((at' (List.set a94.2.1 (Int.toNat a94.1) ((((at' a94.2.1 a94.1).1)++(ByteArray.mk #[50])),(at' a94.2.1 a94.1).2.1,(at' a94.2.1 a94.1).2.2)) a94.1).1),(at' (List.set b95.1 (Int.toNat a94.1) (at' b95.1 a94.1)) a94.1).1,(at' (List.set b95.1 (Int.toNat a94.1) (at' b95.1 a94.1)) a94.1).2] one=true from(cR rfl (cR ho103 (cR ho104 rfl)))) rfl) rfl (fun u105=>(pH [([2],[])] rfl)) fun u105=>cX 7 rfl rfl<|fJ h fun j106 h=>cJ (bD ((eH (bV 14 rfl) (dN rfl)):aM _ _ (Pw aC (b95.2.2++([(((at' (List.set b95.1 (Int.toNat a94.1) (at' b95.1 a94.1)) a94.1).1),((at' (List.set b95.1 (Int.toNat a94.1) (at' b95.1 a94.1)) a94.1).2))])) (a94.2.2++([(((at' (List.set a94.2.1 (Int.toNat a94.1) ((((at' a94.2.1 a94.1).1)++(ByteArray.mk #[50])),(at' a94.2.1 a94.1).2.1,(at' a94.2.1 a94.1).2.2)) a94.1).1),((at' (List.set a94.2.1 (Int.toNat a94.1) ((((at' a94.2.1 a94.1).1)++(ByteArray.mk #[50])),(at' a94.2.1 a94.1).2.1,(at' a94.2.1 a94.1).2.2)) a94.1).2.1),((at' (List.set a94.2.1 (Int.toNat a94.1) ((((at' a94.2.1 a94.1).1)++(ByteArray.mk #[50])),(at' a94.2.1 a94.1).2.1,(at' a94.2.1 a94.1).2.2)) a94.1).2.2))])))))<|aT (aW.appendD 5 0 rfl rfl rfl rfl rfl rfl rfl rfl j106 rfl) rfl fun u107=>bP rfl<|bY (Know.one ((cV (i:=5) (j:=0) aO rfl rfl))) fun ho108=>eS 2 rfl rfl ho108 rfl rfl rfl<|fQ<|lP<|aS<|aE rfl<|dM rfl<|aK rfl<|aU ?_
   exact dZ ((wI .i64 (a94.1+(1:Int))),(List.set a94.2.1 (Int.toNat a94.1) ((((at' a94.2.1 a94.1).1)++(ByteArray.mk #[50])),(at' a94.2.1 a94.1).2.1,(at' a94.2.1 a94.1).2.2)),(a94.2.2++([(((at' (List.set a94.2.1 (Int.toNat a94.1) ((((at' a94.2.1 a94.1).1)++(ByteArray.mk #[50])),(at' a94.2.1 a94.1).2.1,(at' a94.2.1 a94.1).2.2)) a94.1).1),((at' (List.set a94.2.1 (Int.toNat a94.1) ((((at' a94.2.1 a94.1).1)++(ByteArray.mk #[50])),(at' a94.2.1 a94.1).2.1,(at' a94.2.1 a94.1).2.2)) a94.1).2.1),((at' (List.set a94.2.1 (Int.toNat a94.1) ((((at' a94.2.1 a94.1).1)++(ByteArray.mk #[50])),(at' a94.2.1 a94.1).2.1,(at' a94.2.1 a94.1).2.2)) a94.1).2.2))]))) ((List.set b95.1 (Int.toNat a94.1) (at' b95.1 a94.1)),u107,(b95.2.2++([(((at' (List.set b95.1 (Int.toNat a94.1) (at' b95.1 a94.1)) a94.1).1),((at' (List.set b95.1 (Int.toNat a94.1) (at' b95.1 a94.1)) a94.1).2))]))) h SF (bH.ix [1,2,3,4,5] rfl rfl) (gO [4,6,7,8,9,10,11,12,13,14,0] rfl)
  refine eQ ?_
  exact cK (a94.2.2) (b95.2.1,b95.2.2) h SF (bH.ix [1,2,3,4] rfl rfl) (gO [1,2,3,4,5,6,7,8,9,10] rfl)
 intro a58 b59 h
 refine aP<|aP<|iM (B:=Unit) (fun a61=>gE U p0 p1 a58 a61=some r) (fun a61 b62=>[(4,vP b3),(9,vP b21.1),(226,vB (a61))]) (fun a61 b62=>[bJ b21.1 [vS (p0.1),u23,b59.1] 25,Ar aH u23 (((([]:gN)++p0.2.1)++p1.2.1)++([((ByteArray.mk #[116,117,114,110]),(2:Int),(0:Int),(0:Int),(0:Int),(0:Int))])),bJ b3 fL 25,Ad aG b59.1 b59.2 a58]) (fun a61 b62=>[Pw aC (([]:o_)++b34.2) (([]:jR)++a33),Pw aC ([]:o_) ([]:jR),Sl gS b29 a28,Sl aF v0 p0.2.1,Sl aD v1 p0.2.2,Sl aF v2 p1.2.1,Sl aD v3 p1.2.2,Pw aC b34.2 a33,Pw aC b39.2 a38,Pw aC b59.2 a58]) ?_ ?_
 ·refine aS<|bP rfl<|dC 0 rfl<|aJ (dR rfl (aM.ar (aM.res 1 rfl) aQ) rfl) rfl<|aJ (kT rfl rfl) rfl<|aE rfl ?_
  refine oD h rfl (fun _ h=>?_) fun _ h=>?_
  ·refine aI rfl<|aI rfl<|aI rfl<|aI rfl<|cE rfl<|aU ?_
   exact cZ (true) () h SF rfl
  refine aL rfl (cF rfl rfl rfl rfl rfl) rfl<|aL rfl (cT 0 rfl rfl rfl rfl rfl) rfl<|aL rfl (dR rfl (cV (i:=3) (j:=9) aO rfl rfl) rfl) rfl<|aL rfl (kT rfl rfl) rfl<|cI rfl<|aU ?_
  exact cZ (decide ((12:Int)<(List.length a58:Int))) () h SF rfl
 intro a61 b62 h
 refine gP h rfl (fun _ h=>?_) fun _ h=>?_
 ·refine aZ ?_
  refine aJ (sK (r:=Value.agg #[vS (ByteArray.mk #[]),fX,fX]) (by intro w;simp[Instr.build,Instr.fill,b_,bR,bM,cA,cB,bS,cL])) rfl ?_
  refine bL 2 (vs:=fL) rfl rfl rfl rfl rfl rfl<|aK rfl<|aU<|bE<|aR<|cJ (d_ aH) ?_
  cases h
  exact fB ((fX),(fX)) rfl rfl (RV.cell 3 rfl rfl rfl rfl) (RV.tmp rfl) (bH.ix [0] rfl rfl) (aV.cons aM.nil aV.nil)
 refine cC<|aP<|iM (B:=Unit) (fun a64=>pL p0 p1 a58 a64=some r) (fun a64 b65=>[(4,vP b3),(9,vP b21.1)]) (fun a64 b65=>[bJ b21.1 [vS (p0.1),u23,b59.1] 25,Ar aH u23 (((([]:gN)++p0.2.1)++p1.2.1)++([((ByteArray.mk #[116,117,114,110]),(2:Int),(0:Int),(0:Int),(0:Int),(0:Int))])),bJ b3 fL 25,Ad aG b59.1 b59.2 a58]) (fun a64 b65=>[Pw aC (([]:o_)++b34.2) (([]:jR)++a33),Pw aC ([]:o_) ([]:jR),Sl gS b29 a28,Sl aF v0 p0.2.1,Sl aD v1 p0.2.2,Sl aF v2 p1.2.1,Sl aD v3 p1.2.2,Pw aC b34.2 a33,Pw aC b39.2 a38,Pw aC b59.2 a58]) ?_ ?_
 ·refine aZ<|aK rfl<|aU<|aY<|jL (B:=Unit) (kP U p0 p1 a58) (fun a70 b71=>[(4,vP b3),(9,vP b21.1),(21,vI (a70))]) (fun a70 b71=>[bJ b21.1 [vS (p0.1),u23,b59.1] 25,Ar aH u23 (((([]:gN)++p0.2.1)++p1.2.1)++([((ByteArray.mk #[116,117,114,110]),(2:Int),(0:Int),(0:Int),(0:Int),(0:Int))])),bJ b3 fL 25,Ad aG b59.1 b59.2 a58]) (fun a70 b71=>[Pw aC (([]:o_)++b34.2) (([]:jR)++a33),Pw aC ([]:o_) ([]:jR),Sl gS b29 a28,Sl aF v0 p0.2.1,Sl aD v1 p0.2.2,Sl aF v2 p1.2.1,Sl aD v3 p1.2.2,Pw aC b34.2 a33,Pw aC b39.2 a38,Pw aC b59.2 a58]) (0:Int) () h SF (bH.refl _) (aV.refl _ _) ?_
  intro k72 a70 b71 h
  refine aP<|aZ<|aE rfl<|bP rfl<|dC 0 rfl<|aJ (dR rfl (cV (i:=3) (j:=9) aO rfl rfl) rfl) rfl<|dL rfl<|aU ?_
  refine gT h rfl (fun h=>?_) fun h=>?_
  ·refine cC<|aP<|aY<|aP<|iM (B:=Unit) (fun a75=>mC a70 (bZ (kP U p0 p1 a58) k72) a75=some r) (fun a75 b76=>[(4,vP b3),(9,vP b21.1),(21,vI (a70)),(262,vB (a75))]) (fun a75 b76=>[bJ b21.1 [vS (p0.1),u23,b59.1] 25,Ar aH u23 (((([]:gN)++p0.2.1)++p1.2.1)++([((ByteArray.mk #[116,117,114,110]),(2:Int),(0:Int),(0:Int),(0:Int),(0:Int))])),bJ b3 fL 25,Ad aG b59.1 b59.2 a58]) (fun a75 b76=>[Pw aC (([]:o_)++b34.2) (([]:jR)++a33),Pw aC ([]:o_) ([]:jR),Sl gS b29 a28,Sl aF v0 p0.2.1,Sl aD v1 p0.2.2,Sl aF v2 p1.2.1,Sl aD v3 p1.2.2,Pw aC b34.2 a33,Pw aC b39.2 a38,Pw aC b59.2 a58]) ?_ ?_
   ·refine aS<|bP rfl<|dC 0 rfl<|aE rfl<|fJ h fun j78 h=>aJ (a_ rfl rfl (cV (i:=3) (j:=9) aO rfl rfl) rfl rfl j78) rfl<|aJ (cW rfl rfl rfl rfl rfl) rfl<|aJ (fN rfl (cV (i:=3) (j:=9) aO rfl rfl) rfl rfl rfl dX j78) rfl<|aJ (uZ rfl rfl) rfl<|aJ (kT rfl rfl) rfl<|aE rfl ?_
    refine oD h rfl (fun _ h=>?_) fun _ h=>?_
    ·refine aI rfl<|aI rfl<|aI rfl<|aI rfl<|aI rfl<|aI rfl<|aI rfl<|aI rfl<|cE rfl<|aE rfl<|aI rfl<|aI rfl<|aI rfl<|aI rfl<|aI rfl<|aI rfl<|aI rfl<|aI rfl<|cE rfl<|aU ?_
     exact cZ (true) () h SF rfl
    refine aL rfl (cF rfl rfl rfl rfl rfl) rfl<|aL rfl (cT 0 rfl rfl rfl rfl rfl) rfl<|cP rfl<|fJ h fun j80 h=>aL rfl (a_ rfl rfl (cV (i:=3) (j:=9) aO rfl rfl) rfl rfl j80) rfl<|aL rfl (cW rfl rfl rfl rfl rfl) rfl ?_
    refine cJ (bD ((e_ (bT (f:=aC) (bV 9 rfl) j80.1 (by first|exact j80.2|simpa using j80.2))):aM _ _ (Sl bF ((at' b59.2 a70).1) ((at' a58 a70).2.1)))) ?_
    refine aL rfl (wD (gv:=fun x=>x.1) rfl (BV (i:=3) rfl) rfl rfl rfl mG ⟨j80.1,by first|exact j80.2|simpa using j80.2⟩) rfl<|aL rfl (dR rfl (dN rfl) rfl) rfl<|aL rfl (kT rfl rfl) rfl<|cI rfl<|aE rfl ?_
    refine oD h rfl (fun _ h=>?_) fun _ h=>?_
    ·refine aI rfl<|aI rfl<|aI rfl<|aI rfl<|aI rfl<|aI rfl<|aI rfl<|aI rfl<|cE rfl<|aU ?_
     exact cK (true) () h SF (bH.refl _) (gO [1,2,3,4,5,6,7,8,9,10] rfl)
    refine aL rfl (cF rfl rfl rfl rfl rfl) rfl<|aL rfl (cT 0 rfl rfl rfl rfl rfl) rfl<|cP rfl<|fJ h fun j82 h=>aL rfl (a_ rfl rfl (cV (i:=3) (j:=10) aO rfl rfl) rfl rfl j82) rfl<|aL rfl (cW rfl rfl rfl rfl rfl) rfl<|aL rfl (wD (gv:=fun x=>x.1) rfl (BV (i:=3) rfl) rfl rfl rfl mG ⟨j82.1,by first|exact j82.2|simpa using j82.2⟩) rfl<|fO h fun r83 w84 h=>eX rfl (aW.callQ Qz (ED U ((at' b59.2 a70).1) r83 w84) rfl (gO [0] rfl)) rfl fun x85=>aL rfl (kT rfl rfl) rfl<|cI rfl<|aU ?_
    exact cK (decide ((24:Int)<r83)) () h SF (bH.refl _) (gO [1,2,3,4,5,6,7,8,9,10] rfl)
   intro a75 b76 h
   refine gP h rfl (fun _ h=>?_) fun _ h=>?_
   ·refine aZ ?_
    refine aJ (sK (r:=Value.agg #[vS (ByteArray.mk #[]),fX,fX]) (by intro w;simp[Instr.build,Instr.fill,b_,bR,bM,cA,cB,bS,cL])) rfl ?_
    refine bL 2 (vs:=fL) rfl rfl rfl rfl rfl rfl<|aK rfl<|aU<|bE<|cG<|aR<|aR<|cG<|aR<|cJ (d_ aH) ?_
    cases h
    exact fB ((fX),(fX)) rfl rfl (RV.cell 3 rfl rfl rfl rfl) (RV.tmp rfl) (bH.ix [0] rfl rfl) (aV.cons aM.nil aV.nil)
   refine eJ<|lP<|aS<|aE rfl<|dM rfl<|aK rfl<|aU ?_
   exact BR (wI .i64 (a70+(1:Int))) () h SF rfl
  refine eQ ?_
  exact cZ () (()) h SF rfl
 intro a64 b65 h
 unfold pL at h
 refine aZ<|iC 0 rfl<|bY (Know.one ((aM.ar (aM.res 1 rfl) aQ))) fun ho66=>bY (Know.one ((cV (i:=3) (j:=9) aO rfl rfl))) fun ho67=>bL 2 (vs:=[vS (p0.1),u23,b59.1]) rfl rfl (cR rfl (cR ho66 (cR ho67 rfl))) rfl rfl rfl<|aK rfl<|aU<|bE<|cJ (cY [Ad aG b59.1 b59.2 a58] [bJ b21.1 [vS (p0.1),u23,b59.1] 25,Ar aH u23 (((([]:gN)++p0.2.1)++p1.2.1)++([((ByteArray.mk #[116,117,114,110]),(2:Int),(0:Int),(0:Int),(0:Int),(0:Int))])),bJ b3 [vS (p0.1),u23,b59.1] 25] (bH.ix [3,0,1,2] rfl rfl) (cV (i:=0) (j:=9) aO rfl rfl:aM _ _ (Sl aD b59.1 a58))) ?_
 cases h
 exact fB (u23,b59.1) rfl rfl (RV.cell 2 rfl rfl rfl rfl) (RV.tmp rfl) (bH.ix [1] rfl rfl) (gO [0] rfl)
end Go.Proofs.YthnplbmmlbnelaaGreat
end
section
namespace Go.Proofs.YthnplbmmlbnelaaGreat
open Go Go.Sx
theorem VG (F:Nat) {x:X} (hx:x.ok) (hl:x.ts.length<=450) (hF:1000<=F):mL F x.ts=some (x.depth:Int):=by
 have h1:=VL F x.ts (by omega) hF
 rw[decide_eq_true ⟨x.pos,Kg hx⟩]at h1
 unfold mL
 rw[bU h1,if_neg (by decide),bU (XJ F hx hl hF)]
def X.map (f:TM->TM):X->X
 |lf t=>lf (f t)
 |un t x=>un (f t) (x.map f)
 |bi t x y=>bi (f t) (x.map f) (y.map f)
 |tr t x y z=>tr (f t) (x.map f) (y.map f) (z.map f)
theorem X.map_ts (f:TM->TM):∀x:X,(x.map f).ts=x.ts.map f
 |lf t=>rfl
 |un t x=>by simp[X.map,X.ts,x.map_ts f]
 |bi t x y=>by simp[X.map,X.ts,x.map_ts f,y.map_ts f]
 |tr t x y z=>by simp[X.map,X.ts,x.map_ts f,y.map_ts f,z.map_ts f]
theorem X.map_ok {f:TM->TM} (hf:∀t,(f t).1=t.1):∀x:X,x.ok->(x.map f).ok
 |lf t,h=>by simp only[X.map,X.ok,hf];exact h
 |un t x,h=>by simp only[X.map,X.ok,hf];exact⟨h.1,x.map_ok hf h.2⟩
 |bi t x y,h=>by simp only[X.map,X.ok,hf];exact⟨h.1,x.map_ok hf h.2.1,y.map_ok hf h.2.2⟩
 |tr t x y z,h=>by simp only[X.map,X.ok,hf];exact⟨h.1,x.map_ok hf h.2.1,y.map_ok hf h.2.2.1,z.map_ok hf h.2.2.2⟩
theorem X.map_nest {f:TM->TM} (hf:∀t,(f t).1=t.1):∀x:X,(x.map f).nest=x.nest
 |lf t=>rfl
 |un t x=>by simp[X.map,X.nest,x.map_nest hf,hf]
 |bi t x y=>by simp[X.map,X.nest,x.map_nest hf,y.map_nest hf]
 |tr t x y z=>by simp[X.map,X.nest,x.map_nest hf,y.map_nest hf,z.map_nest hf]
theorem RG (m:cU) (t:TM):(KV m t).1=t.1:=by unfold KV;split<;>rfl
theorem Qo {m:cU} {n:Nat} (hm:∀k,k<m.length->0<=at' m (k:Int)∧at' m (k:Int)<n) {t:TM} (h:AF m.length t=true):AF n (KV m t)=true:=by
 unfold KV
 by_cases h5:t.1=5∨t.1=12
 ·rw[if_pos h5]
  unfold AF at h ⊢
  dsimp only
  rw[if_neg (by omega),if_pos h5]at h ⊢
  simp only[Bool.and_eq_true,decide_eq_true_eq]at h ⊢
  have:=hm t.2.toNat (by omega)
  rw[show((t.2.toNat:Nat):Int)=t.2 by omega]at this
  exact this
 ·rw[if_neg h5]
  unfold AF at h ⊢
  by_cases h1:t.1=1
  ·rw[if_pos h1]at h ⊢;exact h
  ·rw[if_neg h1,if_neg h5]at h ⊢;exact h
theorem T_ {n:Nat} {x:X} (hx:x.ok) (hn:x.nest<=2) (ha:∀t∈x.ts,AF n t=true) (hl:x.ts.length<=450):He n x.ts=(decide (x.ts.length<=200)&&decide (x.depth<=24)):=by
 rw[Bool.eq_iff_iff,CR,Bool.and_eq_true,decide_eq_true_eq,decide_eq_true_eq]
 constructor
 ·rintro⟨y,h1,h2,h3,h4,_⟩
  exact⟨h1,by rw[(Qk hx h2 h3 hl).1];exact h4⟩
 ·rintro⟨h1,h2⟩
  exact⟨x,h1,hx,rfl,h2,hn,ha⟩
def own0 (t:Int):List TM:=[(41,0),(19,0),(5,t)]
def own1 (t:Int):List TM:=[(41,0),(5,t)]
def RZ (t:Int) (r:RL):RL:=(r.1++ByteArray.mk #[49],own0 t++r.2.1,r.2.2++[(t,[(2,0)])])
def TP (t:Int) (r:RL):RL:=(r.1++ByteArray.mk #[49],own1 t++r.2.1,r.2.2++[(t,[(3,0)])])
def II (r:RL):RL:=(r.1++ByteArray.mk #[50],r.2.1,r.2.2)
structure Hy (n:Nat) (g:List TM) (x:X):Prop where
 ok:x.ok
 ts:g=x.ts
 ar:∀t∈g,AF n t=true
 ns:x.nest<=2
 ln:g.length<=203
theorem NG {m:cU} {n:Nat} {e:List TM} (h6:n<=6) (hm:∀k,k<m.length->0<=at' m (k:Int)∧at' m (k:Int)<n) (hv:He m.length e=true):(Dc m e).1.length<=200∧∃x,Hy n (Dc m e).1 x:=by
 obtain⟨x,h1,h2,h3,h4,h5,ha⟩:=CR.1 hv
 have hk:VC m=true:=by
  unfold VC
  rw[List.all_eq_true]
  intro k hk
  have:=hm k (List.mem_range.1 hk)
  simp only[Bool.and_eq_true,decide_eq_true_eq]
  omega
 have e1:(Dc m e).1=e.map (KV m):=by unfold Dc;rw[if_pos hv,if_pos hk]
 rw[e1]
 refine⟨by rw[List.length_map];exact h1,x.map (KV m),x.map_ok (RG m) h2,by rw[X.map_ts,h3],fun t ht=> ?_,by rw[X.map_nest (RG m)];exact h5,by rw[List.length_map];omega⟩
 obtain⟨t',ht',rfl⟩:=List.mem_map.1 ht
 exact Qo hm (ha t' ht')
theorem Hy.own0 {n:Nat} {g:List TM} {x:X} (h:Hy n g x) (hl:g.length<=200) {t:Nat} (ht:t<n):∃y,Hy n (own0 t++g) y:=by
 refine⟨.bi (41,0) (.un (19,0) (.lf (5,t))) x,⟨rfl,⟨rfl,rfl⟩,h.ok⟩,by rw[h.ts];rfl,fun z hz=> ?_,?_,?_⟩
 ·rcases List.mem_append.1 hz with hz|hz
  ·simp only[Go.Proofs.YthnplbmmlbnelaaGreat.own0,List.mem_cons,List.not_mem_nil,or_false]at hz
   rcases hz with rfl|rfl|rfl
   ·rfl
   ·rfl
   ·unfold AF;simp;omega
  ·exact h.ar z hz
 ·have:=h.ns
  simp[X.nest,agg];omega
 ·rw[List.length_append];show 3+_<=203;omega
theorem Hy.own1 {n:Nat} {g:List TM} {x:X} (h:Hy n g x) (hl:g.length<=200) {t:Nat} (ht:t<n):∃y,Hy n (own1 t++g) y:=by
 refine⟨.bi (41,0) (.lf (5,t)) x,⟨rfl,rfl,h.ok⟩,by rw[h.ts];rfl,fun z hz=> ?_,?_,?_⟩
 ·rcases List.mem_append.1 hz with hz|hz
  ·simp only[Go.Proofs.YthnplbmmlbnelaaGreat.own1,List.mem_cons,List.not_mem_nil,or_false]at hz
   rcases hz with rfl|rfl
   ·rfl
   ·unfold AF;simp;omega
  ·exact h.ar z hz
 ·have:=h.ns
  simp[X.nest];omega
 ·rw[List.length_append];show 2+_<=203;omega
theorem Lv (F:Nat) {n:Nat} {g:List TM} {x:X} (h:Hy n g x) (hF:1000<=F):iR F g (n:Int)=some (He n g)∧mL F g=some (x.depth:Int)∧He n g=(decide (g.length<=200)&&decide (x.depth<=24)):=by
 have hl:=h.ln
 refine⟨TO F g n (by omega) hF,?_,?_⟩
 ·have:=VG F h.ok (by rw[<-h.ts];omega) hF
  rw[<-h.ts]at this;exact this
 ·have:=T_ (n:=n) h.ok h.ns (by rw[<-h.ts];exact h.ar) (by rw[<-h.ts];omega)
  rw[<-h.ts]at this;exact this
theorem WF (F:Nat) (a b:List TM) (ha:a.length<=10) (hb:b.length<=1000) (hF:1000<=F):jW F [a,b]=some (a++b):=by
 obtain⟨f,rfl⟩:∃f,F=f+3:=⟨F - 3,by omega⟩
 have hfin:∀s:List TM,s=[]->jD (f+3) [a,b] s=some (a++b):=by
  rintro s rfl
  unfold jD oV
  show eV [a,b] (0,[]) (bZ (eV [a,b]) (f+2))=_
  unfold eV
  dsimp only
  rw[if_pos (by simp),eP (by simp),eP (by simp;show(a.length:Int)<=_;omega),wr (by omega) (by omega)]
  show eV [a,b] (1,[]++a) (bZ (eV [a,b]) (f+1))=_
  unfold eV
  dsimp only
  rw[if_pos (by simp),eP (by simp),eP (by simp;show(a.length:Int)+(b.length:Int)<=_;omega),wr (by omega) (by omega)]
  show eV [a,b] (2,([]++a)++b) (bZ (eV [a,b]) f)=_
  unfold eV oW
  dsimp only
  rw[if_neg (by simp),List.nil_append]
 have hk1:oU (f+3) [a,b] ((a.length+b.length:Nat):Int)=some (a++b):=by
  unfold oU
  rw[if_neg (by omega),show wI .i64 ((0:Int) - (List.length ([]:rT):Int))=0 from rfl,Int.sub_zero,wr (by omega) (by omega)]
  by_cases h0:(0:Int)<((a.length+b.length:Nat):Int)
  ·rw[if_pos h0,eP ⟨h0,by omega⟩,eP (by simp;omega)]
   exact hfin _ rfl
  ·rw[if_neg h0];exact hfin _ rfl
 unfold jW
 show eW (f+3) [a,b] (0,0) (bZ (eW (f+3) [a,b]) (f+2))=_
 unfold eW
 dsimp only
 rw[if_pos (by simp),eP (by simp),show at' [a,b] (0:Int)=a from rfl,wr (by omega) (by omega),if_neg (by omega),wr (by omega) (by omega)]
 show eW (f+3) [a,b] (0+(a.length:Int),1) (bZ (eW (f+3) [a,b]) (f+1))=_
 unfold eW
 dsimp only
 rw[if_pos (by simp),eP (by simp),show at' [a,b] (1:Int)=b from rfl,wr (by omega) (by omega),if_neg (by omega),wr (by omega) (by omega)]
 show eW (f+3) [a,b] (0+(a.length:Int)+(b.length:Int),2) (bZ (eW (f+3) [a,b]) f)=_
 unfold eW
 dsimp only
 rw[if_neg (by simp),show 0+(a.length:Int)+(b.length:Int)=((a.length+b.length:Nat):Int) by omega]
 exact hk1
theorem Yv (F:Nat) (a b c:List VR) (ha:a.length<=100) (hb:b.length<=100) (hc:c.length<=100) (hF:1000<=F):kL F [a,b,c]=some (a++b++c):=by
 obtain⟨f,rfl⟩:∃f,F=f+4:=⟨F - 4,by omega⟩
 have hfin:∀s:List VR,s=[]->jZ (f+4) [a,b,c] s=some (a++b++c):=by
  rintro s rfl
  unfold jZ pP
  show dU [a,b,c] (0,[]) (bZ (dU [a,b,c]) (f+3))=_
  unfold dU
  dsimp only
  rw[if_pos (by simp),eP (by simp),eP (by simp;show(a.length:Int)<=_;omega),wr (by omega) (by omega)]
  show dU [a,b,c] (1,[]++a) (bZ (dU [a,b,c]) (f+2))=_
  unfold dU
  dsimp only
  rw[if_pos (by simp),eP (by simp),eP (by simp;show(a.length:Int)+(b.length:Int)<=_;omega),wr (by omega) (by omega)]
  show dU [a,b,c] (2,([]++a)++b) (bZ (dU [a,b,c]) (f+1))=_
  unfold dU
  dsimp only
  rw[if_pos (by simp),eP (by simp),eP (by simp;show(a.length:Int)+(b.length:Int)+(c.length:Int)<=_;omega),wr (by omega) (by omega)]
  show dU [a,b,c] (3,(([]++a)++b)++c) (bZ (dU [a,b,c]) f)=_
  unfold dU pQ
  dsimp only
  rw[if_neg (by simp),List.nil_append]
 have hk1:pO (f+4) [a,b,c] ((a.length+b.length+c.length:Nat):Int)=some (a++b++c):=by
  unfold pO
  rw[if_neg (by omega),show wI .i64 ((0:Int) - (List.length ([]:rT):Int))=0 from rfl,Int.sub_zero,wr (by omega) (by omega)]
  by_cases h0:(0:Int)<((a.length+b.length+c.length:Nat):Int)
  ·rw[if_pos h0,eP ⟨h0,by omega⟩,eP (by simp;omega)]
   exact hfin _ rfl
  ·rw[if_neg h0];exact hfin _ rfl
 unfold kL
 show dV (f+4) [a,b,c] (0,0) (bZ (dV (f+4) [a,b,c]) (f+3))=_
 unfold dV
 dsimp only
 rw[if_pos (by simp),eP (by simp),show at' [a,b,c] (0:Int)=a from rfl,wr (by omega) (by omega),if_neg (by omega),wr (by omega) (by omega)]
 show dV (f+4) [a,b,c] (0+(a.length:Int),1) (bZ (dV (f+4) [a,b,c]) (f+2))=_
 unfold dV
 dsimp only
 rw[if_pos (by simp),eP (by simp),show at' [a,b,c] (1:Int)=b from rfl,wr (by omega) (by omega),if_neg (by omega),wr (by omega) (by omega)]
 show dV (f+4) [a,b,c] (0+(a.length:Int)+(b.length:Int),2) (bZ (dV (f+4) [a,b,c]) (f+1))=_
 unfold dV
 dsimp only
 rw[if_pos (by simp),eP (by simp),show at' [a,b,c] (2:Int)=c from rfl,wr (by omega) (by omega),if_neg (by omega),wr (by omega) (by omega)]
 show dV (f+4) [a,b,c] (0+(a.length:Int)+(b.length:Int)+(c.length:Int),3) (bZ (dV (f+4) [a,b,c]) f)=_
 unfold dV
 dsimp only
 rw[if_neg (by simp),show 0+(a.length:Int)+(b.length:Int)+(c.length:Int)=((a.length+b.length+c.length:Nat):Int) by omega]
 exact hk1
end Go.Proofs.YthnplbmmlbnelaaGreat
end
section
namespace Go.Proofs.YthnplbmmlbnelaaGreat
open Go.Sx
section
def Ab  (a2:Unit):Option (Bool):=
 some (true)
def vL (p0:cS) (p1:cS) (a6:Int) (ag5:(Int)->Option (Bool)):Option (Bool):=
 if a6<(List.length p0:Int)then(ck (0<=a6∧a6<(List.length p0:Int)) (ck (0<=a6∧a6<(List.length p1:Int)) (if(((at' p0 a6).1),((at' p0 a6).2))≠(((at' p1 a6).1),((at' p1 a6).2))then(some (false))else(ag5 (wI .i64 (a6+(1:Int)))))))else(Ab  (()))
def xZ (U:Nat) (p0:cS) (p1:cS):Option (Bool):=
 if(List.length p0:Int)≠(List.length p1:Int)then(some (false))else(bZ (vL p0 p1) U (0:Int))
theorem Qu:bO Tryz.prog 30:=Tryz.call30
theorem FU (U:Nat) {p0:cS} {p1:cS} (v0:Value)  (v1:Value) (r:Bool) (h:xZ U p0 p1=some r):
  bQ Tryz.prog 30 #[v0,v1] [Sl bF v0 p0,Sl bF v1 p1] (fun x:Unit=>vB (r)) (fun x l=>l) (fun _ l=>l):=by
 refine bQ.of Tryz.func30 rfl Tryz.ntmps30 rfl fun c=>?_
 refine aZ<|aK rfl<|aU<|aP<|aZ<|aE rfl<|eC (dN rfl) rfl<|aE rfl<|eC (fP rfl) rfl<|Cf rfl<|aU ?_
 refine gT h rfl (fun h=>?_) fun h=>?_
 ·refine aZ<|aK rfl<|aU<|bE<|aR ?_
  cases h
  exact kF rfl
 refine cC<|aP<|dD (fun a2=>Ab  a2=some r) (fun a2 b3=>[]) (fun a2 b3=>[]) ?_ ?_
 ·refine aZ<|aK rfl<|aU<|aY<|fW (vL p0 p1) (fun a6 b7=>[(0,v0),(1,v1),(5,vI (a6))]) (fun a6 b7=>[]) (0:Int) () h SF (bH.refl _) ?_
  intro k8 a6 b7 h
  refine aP<|aZ<|aE rfl<|aE rfl<|eC (dN rfl) rfl<|dL rfl<|aU ?_
  refine gT h rfl (fun h=>?_) fun h=>?_
  ·refine cC<|aP<|aY<|aP ?_
   refine CC [0,0,3,7,0,0,48,112,255] 8 mixedOrders ?_
   refine dG rfl<|dG rfl<|fJ h fun j10 h=>dK rfl .nil (jY 0 rfl) (a_ rfl rfl (dN rfl) rfl rfl j10) bG.z<|dK rfl .nil (jY 0 rfl) (gI (cs:=[vI ((at' p0 a6).1),vI ((at' p0 a6).2)]) rfl (dN rfl) cO rfl rfl rfl rfl j10) bG.z<|dG rfl<|dG rfl<|fJ h fun j11 h=>dK rfl .nil (jY 1 rfl) (a_ rfl rfl (dN rfl) rfl rfl j11) bG.z<|dK rfl .nil (jY 1 rfl) (gI (cs:=[vI ((at' p1 a6).1),vI ((at' p1 a6).2)]) rfl (dN rfl) cO rfl rfl rfl rfl j11) bG.z<|cX 8 rfl rfl<|aJ (JN rfl rfl (Ti (((at' p0 a6).1),((at' p0 a6).2)) (((at' p1 a6).1),((at' p1 a6).2)) _ _)) rfl<|aU ?_
   refine gT h rfl (fun h=>?_) fun h=>?_
   ·refine aZ<|aK rfl<|aU<|bE<|cG<|aR<|aR<|cG<|aR ?_
    cases h
    exact kF rfl
   refine eJ<|lP<|aS<|aE rfl<|dM rfl<|aK rfl<|aU ?_
   exact BR (wI .i64 (a6+(1:Int))) () h SF rfl
  refine eQ ?_
  exact cZ () (()) h SF rfl
 intro a2 b3 h
 unfold Ab at h
 refine aZ<|aK rfl<|aU<|bE ?_
 cases h
 exact kF rfl
end
section
def Ac  (a9:Unit):Option (Bool):=
 some (true)
def Ae (a13:Int) (ag12:(Int)->Option (Bool)) (a17:Unit):Option (Bool):=
 ag12 (wI .i64 (a13+(1:Int)))
def Ag (a37:Int) (ag36:(Int)->Option (Bool)) (a42:Bool):Option (Bool):=
 if a42=true then(some (false))else(ag36 (wI .i64 (a37+(1:Int))))
def sF (U:Nat) (a13:Int) (ag12:(Int)->Option (Bool)) (a29:Sd) (a37:Int) (ag36:(Int)->Option (Bool)):Option (Bool):=
 if a37<(List.length a29.2.2.2:Int)then(ck (0<=a37∧a37<(List.length a29.2.2.2:Int)) (ck (0<=a37∧a37<(List.length a29.2.1:Int)) (if((at' a29.2.2.2 a37).1)≠((at' a29.2.1 a37).1)then(Ag a37 ag36 (true))else(ck (0<=a37∧a37<(List.length a29.2.2.2:Int)) (ck (0<=a37∧a37<(List.length a29.2.1:Int)) (Option.bind (xZ U ((at' a29.2.2.2 a37).2) ((at' a29.2.1 a37).2)) fun r52=>(Ag a37 ag36 ((!r52)))))))))else(Ae a13 ag12 (()))
def vO (U:Nat) (a13:Int) (ag12:(Int)->Option (Bool)) (a29:Sd) (a32:Bool):Option (Bool):=
 if a32=true then(some (false))else(bZ (sF U a13 ag12 a29) U (0:Int))
def Af (U:Nat) (p0:cH) (p1:cH) (a13:Int) (ag12:(Int)->Option (Bool)) (a29:Sd):Option (Bool):=
 if(!eR ((at' p0.2.2 a13).1) ((at' p1.2.2 a13).1))=true then(vO U a13 ag12 a29 (true))else(Option.bind (xZ U a29.2.2.1 a29.1) fun r56=>(if(!r56)=true then(vO U a13 ag12 a29 (true))else(vO U a13 ag12 a29 (decide ((List.length a29.2.2.2:Int)≠(List.length a29.2.1:Int))))))
def jJ (U:Nat) (p0:cH) (p1:cH) (a13:Int) (ag12:(Int)->Option (Bool)):Option (Bool):=
 if a13<(List.length p0.2.2:Int)then(ck (0<=a13∧a13<(List.length p0.2.2:Int)) (ck (0<=a13∧a13<(List.length p1.2.2:Int)) (Af U p0 p1 a13 ag12 (((at' p1.2.2 a13).2.1),((at' p1.2.2 a13).2.2),((at' p0.2.2 a13).2.1),((at' p0.2.2 a13).2.2)))))else(Ac  (()))
def vN (U:Nat) (p0:cH) (p1:cH) (a7:Unit):Option (Bool):=
 bZ (jJ U p0 p1) U (0:Int)
def vQ (U:Nat) (p0:cH) (p1:cH) (a91:Int) (ag90:(Int)->Option (Bool)):Option (Bool):=
 if a91<(List.length p0.2.1:Int)then(ck (0<=a91∧a91<(List.length p0.2.1:Int)) (ck (0<=a91∧a91<(List.length p1.2.1:Int)) (if(((at' p0.2.1 a91).1),((at' p0.2.1 a91).2.1),((at' p0.2.1 a91).2.2.1),((at' p0.2.1 a91).2.2.2.1),((at' p0.2.1 a91).2.2.2.2.1),((at' p0.2.1 a91).2.2.2.2.2))≠(((at' p1.2.1 a91).1),((at' p1.2.1 a91).2.1),((at' p1.2.1 a91).2.2.1),((at' p1.2.1 a91).2.2.2.1),((at' p1.2.1 a91).2.2.2.2.1),((at' p1.2.1 a91).2.2.2.2.2))then(some (false))else(ag90 (wI .i64 (a91+(1:Int)))))))else(vN U p0 p1 (()))
def vM (U:Nat) (p0:cH) (p1:cH) (a4:Bool):Option (Bool):=
 if a4=true then(some (false))else(bZ (vQ U p0 p1) U (0:Int))
def uL (U:Nat) (p0:cH) (p1:cH):Option (Bool):=
 if(!eR p0.1 p1.1)=true then(vM U p0 p1 (true))else(if(List.length p0.2.1:Int)≠(List.length p1.2.1:Int)then(vM U p0 p1 (true))else(vM U p0 p1 (decide ((List.length p0.2.2:Int)≠(List.length p1.2.2:Int)))))
theorem Qs:bO Tryz.prog 11:=Tryz.call11
theorem FV (U:Nat) {p0:cH} {p1:cH} (v0:Value)  (v1:Value)  (v2:Value)  (v3:Value) (r:Bool) (h:uL U p0 p1=some r):
  bQ Tryz.prog 11 #[Value.agg #[vS (p0.1),v0,v1],Value.agg #[vS (p1.1),v2,v3]] [Sl aF v0 p0.2.1,Sl aD v1 p0.2.2,Sl aF v2 p1.2.1,Sl aD v3 p1.2.2] (fun x:Unit=>vB (r)) (fun x l=>l) (fun _ l=>l):=by
 refine bQ.of Tryz.func11 rfl Tryz.ntmps11 rfl fun c=>?_
 unfold uL at h
 refine aZ<|aT (aW.box (cs:=[vS (p0.1),v0,v1]) rfl rfl) rfl fun b1=>aT (aW.box (cs:=[vS (p1.1),v2,v3]) rfl rfl) rfl fun b2=>aK rfl<|aU<|aP<|aP<|dD (fun a4=>vM U p0 p1 a4=some r) (fun a4 b5=>[(2,vP b1),(3,vP b2),(32,vB (a4))]) (fun a4 b5=>[bJ b2 [vS (p1.1),v2,v3] 25,bJ b1 [vS (p0.1),v0,v1] 25]) ?_ ?_
 ·refine aS<|bP rfl<|dC 1 rfl<|bP rfl<|dC 0 rfl<|aJ (Qm rfl rfl) rfl<|aE rfl ?_
  refine fY (by exact rfl) (by exact rfl) (fun hp98=>?_) (fun hp98=>?_)
  ·have h:=BK hp98 h
   refine aI rfl<|aI rfl<|aI rfl<|aI rfl<|aI rfl<|aI rfl<|aI rfl<|cE rfl<|aE rfl<|aI rfl<|aI rfl<|aI rfl<|aI rfl<|aI rfl<|aI rfl<|aI rfl<|cE rfl<|aU ?_
   exact cZ (true) () h SF rfl
  have h:=sM hp98 h
  refine aL rfl (cF rfl rfl rfl rfl rfl) rfl<|aL rfl (cT 1 rfl rfl rfl rfl rfl) rfl<|aL rfl (dR rfl (dN rfl) rfl) rfl<|aL rfl (cF rfl rfl rfl rfl rfl) rfl<|aL rfl (cT 0 rfl rfl rfl rfl rfl) rfl<|aL rfl (dR rfl (rA rfl) rfl) rfl<|aL rfl (CW rfl rfl) rfl<|cI rfl<|aE rfl ?_
  refine oD h rfl (fun _ h=>?_) fun _ h=>?_
  ·refine aI rfl<|aI rfl<|aI rfl<|aI rfl<|aI rfl<|aI rfl<|aI rfl<|cE rfl<|aU ?_
   exact cZ (true) () h SF rfl
  refine aL rfl (cF rfl rfl rfl rfl rfl) rfl<|aL rfl (cT 1 rfl rfl rfl rfl rfl) rfl<|aL rfl (dR rfl (fP rfl) rfl) rfl<|aL rfl (cF rfl rfl rfl rfl rfl) rfl<|aL rfl (cT 0 rfl rfl rfl rfl rfl) rfl<|aL rfl (dR rfl (bV 3 rfl) rfl) rfl<|aL rfl (CW rfl rfl) rfl<|cI rfl<|aU ?_
  exact cZ (decide ((List.length p0.2.2:Int)≠(List.length p1.2.2:Int))) () h SF rfl
 intro a4 b5 h
 refine gP h rfl (fun _ h=>?_) fun _ h=>?_
 ·refine aZ<|aK rfl<|aU<|bE<|aR ?_
  cases h
  exact yR rfl
 refine cC<|aP<|dD (fun a7=>vN U p0 p1 a7=some r) (fun a7 b8=>[(2,vP b1),(3,vP b2)]) (fun a7 b8=>[bJ b2 [vS (p1.1),v2,v3] 25,bJ b1 [vS (p0.1),v0,v1] 25]) ?_ ?_
 ·refine aZ<|aK rfl<|aU<|aY<|fW (vQ U p0 p1) (fun a91 b92=>[(2,vP b1),(3,vP b2),(5,vI (a91))]) (fun a91 b92=>[bJ b2 [vS (p1.1),v2,v3] 25,bJ b1 [vS (p0.1),v0,v1] 25]) (0:Int) () h SF (bH.refl _) ?_
  intro k93 a91 b92 h
  refine aP<|aZ<|aE rfl<|bP rfl<|dC 1 rfl<|eC (dN rfl) rfl<|dL rfl<|aU ?_
  refine gT h rfl (fun h=>?_) fun h=>?_
  ·refine cC<|aP<|aY<|aP ?_
   refine CC [0,1,0,7,15,0,32,0,224,480,1023] 10 mixedOrders ?_
   refine eD rfl<|gM 1 rfl<|dG rfl<|fJ h fun j95 h=>dK rfl .nil (jY 0 rfl) (a_ rfl rfl (dN rfl) rfl rfl j95) bG.z<|dK rfl .nil (jY 0 rfl) (gI (cs:=[vS ((at' p0.2.1 a91).1),vI ((at' p0.2.1 a91).2.1),vI ((at' p0.2.1 a91).2.2.1),vI ((at' p0.2.1 a91).2.2.2.1),vI ((at' p0.2.1 a91).2.2.2.2.1),vI ((at' p0.2.1 a91).2.2.2.2.2)]) rfl (dN rfl) aQ rfl rfl rfl rfl j95) bG.z<|eD rfl<|gM 0 rfl<|dG rfl<|fJ h fun j96 h=>dK rfl .nil (jY 2 rfl) (a_ rfl rfl (dN rfl) rfl rfl j96) bG.z<|dK rfl .nil (jY 2 rfl) (gI (cs:=[vS ((at' p1.2.1 a91).1),vI ((at' p1.2.1 a91).2.1),vI ((at' p1.2.1 a91).2.2.1),vI ((at' p1.2.1 a91).2.2.2.1),vI ((at' p1.2.1 a91).2.2.2.2.1),vI ((at' p1.2.1 a91).2.2.2.2.2)]) rfl (dN rfl) aQ rfl rfl rfl rfl j96) bG.z<|cX 10 rfl rfl<|aJ (JN rfl rfl (Kh (((at' p0.2.1 a91).1),((at' p0.2.1 a91).2.1),((at' p0.2.1 a91).2.2.1),((at' p0.2.1 a91).2.2.2.1),((at' p0.2.1 a91).2.2.2.2.1),((at' p0.2.1 a91).2.2.2.2.2)) (((at' p1.2.1 a91).1),((at' p1.2.1 a91).2.1),((at' p1.2.1 a91).2.2.1),((at' p1.2.1 a91).2.2.2.1),((at' p1.2.1 a91).2.2.2.2.1),((at' p1.2.1 a91).2.2.2.2.2)) _ _)) rfl<|aU ?_
   refine gT h rfl (fun h=>?_) fun h=>?_
   ·refine aZ<|aK rfl<|aU<|bE<|cG<|aR<|aR<|cG<|aR ?_
    cases h
    exact yR rfl
   refine eJ<|lP<|aS<|aE rfl<|dM rfl<|aK rfl<|aU ?_
   exact BR (wI .i64 (a91+(1:Int))) () h SF rfl
  refine eQ ?_
  exact cZ () (()) h SF rfl
 intro a7 b8 h
 unfold vN at h
 refine aP<|dD (fun a9=>Ac  a9=some r) (fun a9 b10=>[]) (fun a9 b10=>[]) ?_ ?_
 ·refine aZ<|aK rfl<|aU<|aY<|fW (jJ U p0 p1) (fun a13 b14=>[(2,vP b1),(3,vP b2),(6,vI (a13))]) (fun a13 b14=>[bJ b2 [vS (p1.1),v2,v3] 25,bJ b1 [vS (p0.1),v0,v1] 25]) (0:Int) () h SF (bH.refl _) ?_
  intro k15 a13 b14 h
  refine aP<|aZ<|aE rfl<|bP rfl<|dC 1 rfl<|eC (fP rfl) rfl<|dL rfl<|aU ?_
  refine gT h rfl (fun h=>?_) fun h=>?_
  ·refine cC<|aP<|dD (fun a17=>Ae a13 (bZ (jJ U p0 p1) k15) a17=some r) (fun a17 b18=>[(2,vP b1),(3,vP b2),(6,vI (a13))]) (fun a17 b18=>[bJ b2 [vS (p1.1),v2,v3] 25,bJ b1 [vS (p0.1),v0,v1] 25]) ?_ ?_
   ·refine aY<|aP<|iM (B:=Nat×Nat×Value×Value×Value×Value) (fun a29=>Af U p0 p1 a13 (bZ (jJ U p0 p1) k15) a29=some r) (fun a29 b30=>[(2,vP b1),(3,vP b2),(6,vI (a13)),(7,vP b30.1),(8,vP b30.2.1)]) (fun a29 b30=>[bJ b30.2.1 [vS ((at' p1.2.2 a13).1),b30.2.2.1,b30.2.2.2.1] 42,bJ b30.1 [vS ((at' p0.2.2 a13).1),b30.2.2.2.2.1,b30.2.2.2.2.2] 42,bJ b2 [vS (p1.1),v2,v3] 25,bJ b1 [vS (p0.1),v0,v1] 25]) (fun a29 b30=>[Sl aF v0 p0.2.1,Sl aD v1 p0.2.2,Sl aF v2 p1.2.1,Sl aD v3 p1.2.2,Sl bF b30.2.2.1 a29.1,Sl aX b30.2.2.2.1 a29.2.1,Sl bF b30.2.2.2.2.1 a29.2.2.1,Sl aX b30.2.2.2.2.2 a29.2.2.2]) ?_ ?_
    ·have⟨j60,h⟩:=Eb h
     refine fJ h fun j62 h=>BU [0,1,0,7,15,0,32,0,224,480,0,0,3103,8191] 13 [[0,1,2,3,4,5,6,7,8,9,10,11,12,13],[0,1,2,3,4,5,6,7,8,9,11,10,12,13]] mixedOrders (by decide +kernel) (by decide +kernel) ?_
     intro o ho
     simp only[List.mem_cons,List.not_mem_nil,or_false]at ho
     rcases ho with rfl|rfl
     ·refine eD rfl<|gM 1 rfl<|dG rfl<|dK rfl .nil (jY 1 rfl) (a_ rfl rfl (dN rfl) rfl rfl j60) bG.z<|oJ (v:=v1) (ds:=p0.2.2) aO (fP rfl) fun us71=>?_
      refine JR.stp (bD ((e_ (bT (f:=aC) (fP rfl) j60.1 (by first|exact j60.2|simpa using j60.2))):aM _ _ (Sl bF ((at' us71 a13).1) ((at' p0.2.2 a13).2.1)))) ?_
      refine JR.stp (bD ((fA (bT (f:=aC) (rA rfl) j60.1 (by first|exact j60.2|simpa using j60.2))):aM _ _ (Sl aX ((at' us71 a13).2) ((at' p0.2.2 a13).2.2)))) ?_
      refine dK rfl .nil (jY 2 rfl) (dY (cs:=[vS ((at' p0.2.2 a13).1),(at' us71 a13).1,(at' us71 a13).2]) rfl (dN rfl) rfl rfl rfl rfl ⟨j60.1,by first|exact j60.2|simpa using j60.2⟩) bG.z<|eD rfl<|gM 0 rfl<|dG rfl<|dK rfl .nil (jY 7 rfl) (a_ rfl rfl (dN rfl) rfl rfl j62) bG.z<|oJ (v:=v3) (ds:=p1.2.2) aO (bV 7 rfl) fun us72=>?_
      refine JR.stp (bD ((e_ (bT (f:=aC) (fP rfl) j62.1 (by first|exact j62.2|simpa using j62.2))):aM _ _ (Sl bF ((at' us72 a13).1) ((at' p1.2.2 a13).2.1)))) ?_
      refine JR.stp (bD ((fA (bT (f:=aC) (rA rfl) j62.1 (by first|exact j62.2|simpa using j62.2))):aM _ _ (Sl aX ((at' us72 a13).2) ((at' p1.2.2 a13).2.2)))) ?_
      refine dK rfl .nil (jY 2 rfl) (dY (cs:=[vS ((at' p1.2.2 a13).1),(at' us72 a13).1,(at' us72 a13).2]) rfl (dN rfl) rfl rfl rfl rfl ⟨j62.1,by first|exact j62.2|simpa using j62.2⟩) bG.z<|JR.loud rfl rfl rfl (aW.alloc (cs:=fL) rfl rfl) rfl (fun b73=>(pH [([],[2]),([],[11]),([1],[]),([],[6]),([],[9]),([2],[])] rfl)) fun b73=>JR.loud rfl rfl rfl (aW.alloc (cs:=fL) rfl rfl) rfl (fun b74=>(pH [([],[2]),([],[11]),([2],[]),([],[6]),([],[9]),([3],[])] rfl)) fun b74=>eG (Know.one ((bV 5 rfl))) fun ho76=>eG (Know.one ((KS rfl))) fun ho77=>KX rfl rfl rfl (Et 1 (vs:=[vS ((at' p0.2.2 a13).1),(at' us71 a13).1,(at' us71 a13).2]) rfl rfl (cR rfl (cR ho76 (cR ho77 rfl))) rfl rfl rfl) (fun x75=>(pH [([],[2]),([],[11]),([2],[])] rfl)) fun x75=>cX 13 rfl rfl<|bY (Know.one ((fP rfl))) fun ho78=>bY (Know.one ((dN rfl))) fun ho79=>bL 0 (vs:=[vS ((at' p1.2.2 a13).1),(at' us72 a13).1,(at' us72 a13).2]) rfl rfl (cR rfl (cR ho78 (cR ho79 rfl))) rfl rfl rfl<|aU ?_
      exact cK (((at' p1.2.2 a13).2.1),((at' p1.2.2 a13).2.2),((at' p0.2.2 a13).2.1),((at' p0.2.2 a13).2.2)) (b73,b74,((at' us72 a13).1),((at' us72 a13).2),((at' us71 a13).1),((at' us71 a13).2)) h SF (bH.refl _) (gO [8,9,10,11,1,0,5,4] rfl)
     refine eD rfl<|gM 1 rfl<|dG rfl<|dK rfl .nil (jY 1 rfl) (a_ rfl rfl (dN rfl) rfl rfl j60) bG.z<|oJ (v:=v1) (ds:=p0.2.2) aO (fP rfl) fun us80=>?_
     refine JR.stp (bD ((e_ (bT (f:=aC) (fP rfl) j60.1 (by first|exact j60.2|simpa using j60.2))):aM _ _ (Sl bF ((at' us80 a13).1) ((at' p0.2.2 a13).2.1)))) ?_
     refine JR.stp (bD ((fA (bT (f:=aC) (rA rfl) j60.1 (by first|exact j60.2|simpa using j60.2))):aM _ _ (Sl aX ((at' us80 a13).2) ((at' p0.2.2 a13).2.2)))) ?_
     refine dK rfl .nil (jY 2 rfl) (dY (cs:=[vS ((at' p0.2.2 a13).1),(at' us80 a13).1,(at' us80 a13).2]) rfl (dN rfl) rfl rfl rfl rfl ⟨j60.1,by first|exact j60.2|simpa using j60.2⟩) bG.z<|eD rfl<|gM 0 rfl<|dG rfl<|dK rfl .nil (jY 7 rfl) (a_ rfl rfl (dN rfl) rfl rfl j62) bG.z<|oJ (v:=v3) (ds:=p1.2.2) aO (bV 7 rfl) fun us81=>?_
     refine JR.stp (bD ((e_ (bT (f:=aC) (fP rfl) j62.1 (by first|exact j62.2|simpa using j62.2))):aM _ _ (Sl bF ((at' us81 a13).1) ((at' p1.2.2 a13).2.1)))) ?_
     refine JR.stp (bD ((fA (bT (f:=aC) (rA rfl) j62.1 (by first|exact j62.2|simpa using j62.2))):aM _ _ (Sl aX ((at' us81 a13).2) ((at' p1.2.2 a13).2.2)))) ?_
     refine dK rfl .nil (jY 2 rfl) (dY (cs:=[vS ((at' p1.2.2 a13).1),(at' us81 a13).1,(at' us81 a13).2]) rfl (dN rfl) rfl rfl rfl rfl ⟨j62.1,by first|exact j62.2|simpa using j62.2⟩) bG.z<|JR.loud rfl rfl rfl (aW.alloc (cs:=fL) rfl rfl) rfl (fun b82=>(pH [([],[2]),([],[11]),([1],[]),([],[6]),([],[9]),([2],[])] rfl)) fun b82=>JR.loud rfl rfl rfl (aW.alloc (cs:=fL) rfl rfl) rfl (fun b83=>(pH [([],[2]),([],[11]),([2],[]),([],[6]),([],[9]),([3],[])] rfl)) fun b83=>eG (Know.one ((bV 5 rfl))) fun ho85=>eG (Know.one ((KS rfl))) fun ho86=>KX rfl rfl rfl (Et 0 (vs:=[vS ((at' p0.2.2 a13).1),(at' us80 a13).1,(at' us80 a13).2]) rfl rfl (cR rfl (cR ho85 (cR ho86 rfl))) rfl rfl rfl) (fun x84=>(pH [([],[2]),([],[11]),([2],[])] rfl)) fun x84=>cX 13 rfl rfl<|bY (Know.one ((fP rfl))) fun ho87=>bY (Know.one ((dN rfl))) fun ho88=>bL 1 (vs:=[vS ((at' p1.2.2 a13).1),(at' us81 a13).1,(at' us81 a13).2]) rfl rfl (cR rfl (cR ho87 (cR ho88 rfl))) rfl rfl rfl<|aU ?_
     exact cK (((at' p1.2.2 a13).2.1),((at' p1.2.2 a13).2.2),((at' p0.2.2 a13).2.1),((at' p0.2.2 a13).2.2)) (b83,b82,((at' us81 a13).1),((at' us81 a13).2),((at' us80 a13).1),((at' us80 a13).2)) h SF (bH.ix [1,0,2,3] rfl rfl) (gO [8,9,10,11,1,0,5,4] rfl)
    intro a29 b30 h
    unfold Af at h
    refine aP<|aP<|iM (B:=Unit) (fun a32=>vO U a13 (bZ (jJ U p0 p1) k15) a29 a32=some r) (fun a32 b33=>[(2,vP b1),(3,vP b2),(6,vI (a13)),(7,vP b30.1),(8,vP b30.2.1),(89,vB (a32))]) (fun a32 b33=>[bJ b30.2.1 [vS ((at' p1.2.2 a13).1),b30.2.2.1,b30.2.2.2.1] 42,bJ b30.1 [vS ((at' p0.2.2 a13).1),b30.2.2.2.2.1,b30.2.2.2.2.2] 42,bJ b2 [vS (p1.1),v2,v3] 25,bJ b1 [vS (p0.1),v0,v1] 25]) (fun a32 b33=>[Sl aF v0 p0.2.1,Sl aD v1 p0.2.2,Sl aF v2 p1.2.1,Sl aD v3 p1.2.2,Sl bF b30.2.2.1 a29.1,Sl aX b30.2.2.2.1 a29.2.1,Sl bF b30.2.2.2.2.1 a29.2.2.1,Sl aX b30.2.2.2.2.2 a29.2.2.2]) ?_ ?_
    ·refine aS<|bP rfl<|dC 1 rfl<|bP rfl<|dC 0 rfl<|aJ (Qm rfl rfl) rfl<|aE rfl ?_
     refine fY (by exact rfl) (by exact rfl) (fun hp55=>?_) (fun hp55=>?_)
     ·have h:=BK hp55 h
      refine aI rfl<|aI rfl<|aI rfl<|aI rfl<|aI rfl<|aI rfl<|cE rfl<|aE rfl<|aI rfl<|aI rfl<|aI rfl<|aI rfl<|aI rfl<|aI rfl<|aI rfl<|cE rfl<|aU ?_
      exact cZ (true) () h SF rfl
     have h:=sM hp55 h
     refine aL rfl (cF rfl rfl rfl rfl rfl) rfl<|aL rfl (cT 1 rfl rfl rfl rfl rfl) rfl<|aL rfl (cF rfl rfl rfl rfl rfl) rfl<|aL rfl (cT 0 rfl rfl rfl rfl rfl) rfl<|fO h fun r56 w57 h=>eX rfl (aW.callQ Qu (FU U b30.2.2.2.2.1 b30.2.2.1 r56 w57) rfl (gO [6,4] rfl)) rfl fun x58=>aL rfl (fR rfl) rfl<|cI rfl<|aE rfl ?_
     refine fY (by exact rfl) (by exact rfl) (fun hp59=>?_) (fun hp59=>?_)
     ·have h:=BK hp59 h
      refine aI rfl<|aI rfl<|aI rfl<|aI rfl<|aI rfl<|aI rfl<|aI rfl<|cE rfl<|aU ?_
      exact cZ (true) () h SF rfl
     have h:=sM hp59 h
     refine aL rfl (cF rfl rfl rfl rfl rfl) rfl<|aL rfl (cT 1 rfl rfl rfl rfl rfl) rfl<|aL rfl (dR rfl (bV 7 rfl) rfl) rfl<|aL rfl (cF rfl rfl rfl rfl rfl) rfl<|aL rfl (cT 0 rfl rfl rfl rfl rfl) rfl<|aL rfl (dR rfl (bV 5 rfl) rfl) rfl<|aL rfl (CW rfl rfl) rfl<|cI rfl<|aU ?_
     exact cZ (decide ((List.length a29.2.2.2:Int)≠(List.length a29.2.1:Int))) () h SF rfl
    intro a32 b33 h
    refine gP h rfl (fun _ h=>?_) fun _ h=>?_
    ·refine aZ<|aK rfl<|aU<|bE<|aR<|cG<|aR<|aR<|cG<|aR ?_
     cases h
     exact yR rfl
    refine cC<|aZ<|aK rfl<|aU<|aY<|jL (B:=Unit) (sF U a13 (bZ (jJ U p0 p1) k15) a29) (fun a37 b38=>[(2,vP b1),(3,vP b2),(6,vI (a13)),(7,vP b30.1),(8,vP b30.2.1),(9,vI (a37))]) (fun a37 b38=>[bJ b30.2.1 [vS ((at' p1.2.2 a13).1),b30.2.2.1,b30.2.2.2.1] 42,bJ b30.1 [vS ((at' p0.2.2 a13).1),b30.2.2.2.2.1,b30.2.2.2.2.2] 42,bJ b2 [vS (p1.1),v2,v3] 25,bJ b1 [vS (p0.1),v0,v1] 25]) (fun a37 b38=>[Sl aF v0 p0.2.1,Sl aD v1 p0.2.2,Sl aF v2 p1.2.1,Sl aD v3 p1.2.2,Sl bF b30.2.2.1 a29.1,Sl aX b30.2.2.2.1 a29.2.1,Sl bF b30.2.2.2.2.1 a29.2.2.1,Sl aX b30.2.2.2.2.2 a29.2.2.2]) (0:Int) () h SF (bH.refl _) (aV.refl _ _) ?_
    intro k39 a37 b38 h
    refine aP<|aZ<|aE rfl<|bP rfl<|dC 1 rfl<|eC (bV 7 rfl) rfl<|dL rfl<|aU ?_
    refine gT h rfl (fun h=>?_) fun h=>?_
    ·refine cC<|aP<|aY<|aP<|iM (B:=Unit) (fun a42=>Ag a37 (bZ (sF U a13 (bZ (jJ U p0 p1) k15) a29) k39) a42=some r) (fun a42 b43=>[(2,vP b1),(3,vP b2),(6,vI (a13)),(7,vP b30.1),(8,vP b30.2.1),(9,vI (a37)),(125,vB (a42))]) (fun a42 b43=>[bJ b30.2.1 [vS ((at' p1.2.2 a13).1),b30.2.2.1,b30.2.2.2.1] 42,bJ b30.1 [vS ((at' p0.2.2 a13).1),b30.2.2.2.2.1,b30.2.2.2.2.2] 42,bJ b2 [vS (p1.1),v2,v3] 25,bJ b1 [vS (p0.1),v0,v1] 25]) (fun a42 b43=>[Sl aF v0 p0.2.1,Sl aD v1 p0.2.2,Sl aF v2 p1.2.1,Sl aD v3 p1.2.2,Sl bF b30.2.2.1 a29.1,Sl aX b30.2.2.2.1 a29.2.1,Sl bF b30.2.2.2.2.1 a29.2.2.1,Sl aX b30.2.2.2.2.2 a29.2.2.2]) ?_ ?_
     ·refine CC [0,1,0,7,15,31,0,64,0,448,960,1984,4095,8191,16383,32767,16383,131071,262143,524287,16383,1064959,16383,7356415,15745023,32522239,67108863,134217727,268435455] 26 mixedOrders ?_
      refine eD rfl<|gM 1 rfl<|dG rfl<|fJ h fun j45 h=>dK rfl .nil (jY 7 rfl) (a_ rfl rfl (dN rfl) rfl rfl j45) bG.z<|zE rfl (cW rfl rfl rfl rfl rfl)<|dK rfl .nil (jY 7 rfl) (fN rfl (dN rfl) rfl rfl rfl kA j45) bG.z<|eD rfl<|gM 0 rfl<|dG rfl<|fJ h fun j46 h=>dK rfl .nil (jY 5 rfl) (a_ rfl rfl (dN rfl) rfl rfl j46) bG.z<|zE rfl (cW rfl rfl rfl rfl rfl)<|dK rfl .nil (jY 5 rfl) (fN rfl (dN rfl) rfl rfl rfl kA j46) bG.z<|zE rfl (CW rfl rfl)<|dG rfl ?_
      refine Ja (by exact rfl) (by exact rfl) (by exact rfl) (fun hp47=>?_) (fun hp47=>?_)
      ·have h:=BK hp47 h
       refine dA rfl rfl rfl rfl<|dA rfl rfl rfl rfl<|dA rfl rfl rfl rfl<|dA rfl rfl rfl rfl<|dA rfl rfl rfl rfl<|dA rfl rfl rfl rfl<|dA rfl rfl rfl rfl<|dA rfl rfl rfl rfl<|dA rfl rfl rfl rfl<|dA rfl rfl rfl rfl<|dA rfl rfl rfl rfl<|dA rfl rfl rfl rfl<|cX 26 rfl rfl<|aI rfl<|aI rfl<|cE rfl<|aU ?_
       exact cZ (true) () h SF rfl
      have h:=Wp hp47 h
      refine fI rfl .nil .nil (cF rfl rfl rfl rfl rfl) bG.z<|fI rfl (bH.cons 1 rfl .nil) .nil (cT 0 rfl rfl rfl rfl rfl) bG.z<|fI rfl .nil .nil (xF rfl) bG.z<|fJ h fun j48 h=>fI rfl .nil (jY 7 rfl) (a_ rfl rfl (dN rfl) rfl rfl j48) bG.z<|fI rfl .nil .nil (cW rfl rfl rfl rfl rfl) bG.z<|oJ (v:=b30.2.2.2.2.2) (ds:=a29.2.2.2) bK (bV 7 rfl) fun us49=>?_
      refine JR.stp (bD ((bT (f:=bW) (fP rfl) j48.1 (by first|exact j48.2|simpa using j48.2)):aM _ _ (Sl bF (at' us49 a37) ((at' a29.2.2.2 a37).2)))) ?_
      refine fI rfl .nil (jY 1 rfl) (wD (gv:=fun x=>x) rfl (dN rfl) rfl rfl rfl nZ ⟨j48.1,by first|exact j48.2|simpa using j48.2⟩) bG.z<|fI rfl .nil .nil (cF rfl rfl rfl rfl rfl) bG.z<|fI rfl (bH.cons 0 rfl .nil) .nil (cT 0 rfl rfl rfl rfl rfl) bG.z<|fI rfl .nil .nil (xF rfl) bG.z<|fJ h fun j50 h=>fI rfl .nil (jY 8 rfl) (a_ rfl rfl (dN rfl) rfl rfl j50) bG.z<|fI rfl .nil .nil (cW rfl rfl rfl rfl rfl) bG.z<|oJ (v:=b30.2.2.2.1) (ds:=a29.2.1) bK (bV 8 rfl) fun us51=>?_
      refine JR.stp (bD ((bT (f:=bW) (fP rfl) j50.1 (by first|exact j50.2|simpa using j50.2)):aM _ _ (Sl bF (at' us51 a37) ((at' a29.2.1 a37).2)))) ?_
      refine fI rfl .nil (jY 1 rfl) (wD (gv:=fun x=>x) rfl (dN rfl) rfl rfl rfl nZ ⟨j50.1,by first|exact j50.2|simpa using j50.2⟩) bG.z<|cX 26 rfl rfl<|fO h fun r52 w53 h=>eX rfl (aW.callQ Qu (FU U (at' us49 a37) (at' us51 a37) r52 w53) rfl (gO [3,0] rfl)) rfl fun x54=>aL rfl (fR rfl) rfl<|cI rfl<|aU ?_
      exact cK ((!r52)) () h SF (bH.refl _) (gO [6,7,8,9,10,11,12,13] rfl)
     intro a42 b43 h
     refine gP h rfl (fun _ h=>?_) fun _ h=>?_
     ·refine aZ<|aK rfl<|aU<|bE<|cG<|aR<|aR<|cG<|cG<|aR<|aR<|cG<|aR ?_
      cases h
      exact yR rfl
     refine eJ<|lP<|aS<|aE rfl<|dM rfl<|aK rfl<|aU ?_
     exact BR (wI .i64 (a37+(1:Int))) () h SF rfl
    refine Cp<|nO<|nO<|Fb<|lP ?_
    exact cK () (()) h SF (bH.ix [2,3] rfl rfl) (gO [0,1,2,3] rfl)
   intro a17 b18 h
   unfold Ae at h
   refine aS<|aE rfl<|dM rfl<|aK rfl<|aU ?_
   exact BR (wI .i64 (a13+(1:Int))) () h SF rfl
  refine eQ ?_
  exact cK () (()) h SF .nil (aV.refl _ _)
 intro a9 b10 h
 unfold Ac at h
 refine aZ<|aK rfl<|aU<|bE ?_
 cases h
 exact kF rfl
end
section
def xU  (a6:Unit):Option (Bool):=
 some (false)
def xV (a10:Int) (ag9:(Int)->Option (Bool)) (a14:Unit):Option (Bool):=
 ag9 (wI .i64 (a10+(1:Int)))
def pW (p0:cH) (a10:Int) (ag9:(Int)->Option (Bool)) (a22:Int) (ag21:(Int)->Option (Bool)):Option (Bool):=
 ck (0<=a10∧a10<(List.length p0.2.2:Int)) (if a22<(List.length ((at' p0.2.2 a10).2.2):Int)then(ck (0<=a10∧a10<(List.length p0.2.2:Int)) (ck (0<=a22∧a22<(List.length ((at' p0.2.2 a10).2.2):Int)) (if(400:Int)<(List.length ((at' ((at' p0.2.2 a10).2.2) a22).2):Int)then(some (true))else(ag21 (wI .i64 (a22+(1:Int)))))))else(xV a10 ag9 (())))
def tC (U:Nat) (p0:cH) (a10:Int) (ag9:(Int)->Option (Bool)) (a17:Bool):Option (Bool):=
 if a17=true then(some (true))else(bZ (pW p0 a10 ag9) U (0:Int))
def jO (U:Nat) (p0:cH) (a10:Int) (ag9:(Int)->Option (Bool)):Option (Bool):=
 if a10<(List.length p0.2.2:Int)then(ck (0<=a10∧a10<(List.length p0.2.2:Int)) (if(400:Int)<(List.length ((at' p0.2.2 a10).2.1):Int)then(tC U p0 a10 ag9 (true))else(ck (0<=a10∧a10<(List.length p0.2.2:Int)) (if(20:Int)<(List.length ((at' p0.2.2 a10).2.2):Int)then(tC U p0 a10 ag9 (true))else(ck (0<=a10∧a10<(List.length p0.2.2:Int)) (tC U p0 a10 ag9 (decide ((100:Int)<((ByteArray.size ((at' p0.2.2 a10).1):Nat):Int)))))))))else(xU  (()))
def tB (U:Nat) (p0:cH) (a3:Bool):Option (Bool):=
 if a3=true then(some (true))else(bZ (jO U p0) U (0:Int))
def pB (U:Nat) (p0:cH):Option (Bool):=
 if(20:Int)<(List.length p0.2.1:Int)then(tB U p0 (true))else(if(20:Int)<(List.length p0.2.2:Int)then(tB U p0 (true))else(tB U p0 (decide ((100:Int)<((ByteArray.size p0.1:Nat):Int)))))
theorem Uf:bO Tryz.prog 5:=Tryz.call5
theorem EC (U:Nat) {p0:cH} (v0:Value)  (v1:Value) (r:Bool) (h:pB U p0=some r):
  bQ Tryz.prog 5 #[Value.agg #[vS (p0.1),v0,v1]] [Sl aF v0 p0.2.1,Sl aD v1 p0.2.2] (fun x:Unit=>vB (r)) (fun x l=>l) (fun _ l=>l):=by
 refine bQ.of Tryz.func5 rfl Tryz.ntmps5 rfl fun c=>?_
 refine aZ<|aT (aW.box (cs:=[vS (p0.1),v0,v1]) rfl rfl) rfl fun b1=>aK rfl<|aU<|aP<|aP<|dD (fun a3=>tB U p0 a3=some r) (fun a3 b4=>[(1,vP b1),(20,vB (a3))]) (fun a3 b4=>[bJ b1 [vS (p0.1),v0,v1] 25]) ?_ ?_
 ·refine aS<|bP rfl<|dC 0 rfl<|eC (dN rfl) rfl<|aJ (kT rfl rfl) rfl<|aE rfl ?_
  refine oD h rfl (fun _ h=>?_) fun _ h=>?_
  ·refine aI rfl<|aI rfl<|aI rfl<|aI rfl<|cE rfl<|aE rfl<|aI rfl<|aI rfl<|aI rfl<|aI rfl<|cE rfl<|aU ?_
   exact cZ (true) () h SF rfl
  refine aL rfl (cF rfl rfl rfl rfl rfl) rfl<|aL rfl (cT 0 rfl rfl rfl rfl rfl) rfl<|aL rfl (dR rfl (fP rfl) rfl) rfl<|aL rfl (kT rfl rfl) rfl<|cI rfl<|aE rfl ?_
  refine oD h rfl (fun _ h=>?_) fun _ h=>?_
  ·refine aI rfl<|aI rfl<|aI rfl<|aI rfl<|cE rfl<|aU ?_
   exact cZ (true) () h SF rfl
  refine aL rfl (cF rfl rfl rfl rfl rfl) rfl<|aL rfl (cT 0 rfl rfl rfl rfl rfl) rfl<|aL rfl (uZ rfl rfl) rfl<|aL rfl (kT rfl rfl) rfl<|cI rfl<|aU ?_
  exact cZ (decide ((100:Int)<((ByteArray.size p0.1:Nat):Int))) () h SF rfl
 intro a3 b4 h
 refine gP h rfl (fun _ h=>?_) fun _ h=>?_
 ·refine aZ<|aK rfl<|aU<|bE<|aR ?_
  cases h
  exact yR rfl
 refine cC<|aP<|dD (fun a6=>xU  a6=some r) (fun a6 b7=>[]) (fun a6 b7=>[]) ?_ ?_
 ·refine aZ<|aK rfl<|aU<|aY<|fW (jO U p0) (fun a10 b11=>[(1,vP b1),(3,vI (a10))]) (fun a10 b11=>[bJ b1 [vS (p0.1),v0,v1] 25]) (0:Int) () h SF (bH.refl _) ?_
  intro k12 a10 b11 h
  refine aP<|aZ<|aE rfl<|bP rfl<|dC 0 rfl<|eC (fP rfl) rfl<|dL rfl<|aU ?_
  refine gT h rfl (fun h=>?_) fun h=>?_
  ·refine cC<|aP<|dD (fun a14=>xV a10 (bZ (jO U p0) k12) a14=some r) (fun a14 b15=>[(1,vP b1),(3,vI (a10))]) (fun a14 b15=>[bJ b1 [vS (p0.1),v0,v1] 25]) ?_ ?_
   ·refine aY<|aP<|aP<|dD (fun a17=>tC U p0 a10 (bZ (jO U p0) k12) a17=some r) (fun a17 b18=>[(1,vP b1),(3,vI (a10)),(55,vB (a17))]) (fun a17 b18=>[bJ b1 [vS (p0.1),v0,v1] 25]) ?_ ?_
    ·refine aS<|bP rfl<|dC 0 rfl<|aE rfl<|fJ h fun j32 h=>aJ (a_ rfl rfl (fP rfl) rfl rfl j32) rfl<|aJ (cW rfl rfl rfl rfl rfl) rfl<|mS (v:=v1) (ds:=p0.2.2) aO (fP rfl) fun us33=>?_
     refine cJ (bD ((e_ (bT (f:=aC) (fP rfl) j32.1 (by first|exact j32.2|simpa using j32.2))):aM _ _ (Sl bF ((at' us33 a10).1) ((at' p0.2.2 a10).2.1)))) ?_
     refine aJ (wD (gv:=fun x=>x.1) rfl (fP rfl) rfl rfl rfl mG ⟨j32.1,by first|exact j32.2|simpa using j32.2⟩) rfl<|eC (dN rfl) rfl<|aJ (kT rfl rfl) rfl<|aE rfl ?_
     refine oD h rfl (fun _ h=>?_) fun _ h=>?_
     ·refine aI rfl<|aI rfl<|aI rfl<|aI rfl<|aI rfl<|aI rfl<|aI rfl<|aI rfl<|cE rfl<|aE rfl<|aI rfl<|aI rfl<|aI rfl<|aI rfl<|aI rfl<|aI rfl<|aI rfl<|aI rfl<|cE rfl<|aU ?_
      exact cK (true) () h SF (bH.refl _) (gO [3,4] rfl)
     refine aL rfl (cF rfl rfl rfl rfl rfl) rfl<|aL rfl (cT 0 rfl rfl rfl rfl rfl) rfl<|cP rfl<|fJ h fun j35 h=>aL rfl (a_ rfl rfl (KS rfl) rfl rfl j35) rfl<|aL rfl (cW rfl rfl rfl rfl rfl) rfl ?_
     refine cJ (bD ((fA (bT (f:=aC) (rA rfl) j35.1 (by first|exact j35.2|simpa using j35.2))):aM _ _ (Sl aX ((at' us33 a10).2) ((at' p0.2.2 a10).2.2)))) ?_
     refine aL rfl (wD (gv:=fun x=>x.2) rfl (rA rfl) rfl rfl rfl mH ⟨j35.1,by first|exact j35.2|simpa using j35.2⟩) rfl<|aL rfl (dR rfl (dN rfl) rfl) rfl<|aL rfl (kT rfl rfl) rfl<|cI rfl<|aE rfl ?_
     refine oD h rfl (fun _ h=>?_) fun _ h=>?_
     ·refine aI rfl<|aI rfl<|aI rfl<|aI rfl<|aI rfl<|aI rfl<|aI rfl<|aI rfl<|cE rfl<|aU ?_
      exact cK (true) () h SF (bH.refl _) (gO [4,5] rfl)
     refine aL rfl (cF rfl rfl rfl rfl rfl) rfl<|aL rfl (cT 0 rfl rfl rfl rfl rfl) rfl<|cP rfl<|fJ h fun j37 h=>aL rfl (a_ rfl rfl (bV 5 rfl) rfl rfl j37) rfl<|aL rfl (cW rfl rfl rfl rfl rfl) rfl<|aL rfl (fN rfl (bV 5 rfl) rfl rfl rfl dX j37) rfl<|aL rfl (uZ rfl rfl) rfl<|aL rfl (kT rfl rfl) rfl<|cI rfl<|aU ?_
     exact cK (decide ((100:Int)<((ByteArray.size ((at' p0.2.2 a10).1):Nat):Int))) () h SF (bH.refl _) (gO [4,5] rfl)
    intro a17 b18 h
    refine gP h rfl (fun _ h=>?_) fun _ h=>?_
    ·refine aZ<|aK rfl<|aU<|bE<|aR<|cG<|aR<|aR<|cG<|aR ?_
     cases h
     exact yR rfl
    refine cC<|aZ<|aK rfl<|aU<|aY<|fW (pW p0 a10 (bZ (jO U p0) k12)) (fun a22 b23=>[(1,vP b1),(3,vI (a10)),(4,vI (a22))]) (fun a22 b23=>[bJ b1 [vS (p0.1),v0,v1] 25]) (0:Int) () h SF (bH.refl _) ?_
    intro k24 a22 b23 h
    refine aP<|aZ<|aE rfl<|bP rfl<|dC 0 rfl<|aE rfl<|fJ h fun j25 h=>aJ (a_ rfl rfl (fP rfl) rfl rfl j25) rfl<|aJ (cW rfl rfl rfl rfl rfl) rfl<|mS (v:=v1) (ds:=p0.2.2) aO (fP rfl) fun us26=>?_
    refine cJ (bD ((fA (bT (f:=aC) (fP rfl) j25.1 (by first|exact j25.2|simpa using j25.2))):aM _ _ (Sl aX ((at' us26 a10).2) ((at' p0.2.2 a10).2.2)))) ?_
    refine aJ (wD (gv:=fun x=>x.2) rfl (fP rfl) rfl rfl rfl mH ⟨j25.1,by first|exact j25.2|simpa using j25.2⟩) rfl<|eC (dN rfl) rfl<|dL rfl<|aU ?_
    refine gT h rfl (fun h=>?_) fun h=>?_
    ·refine cC<|aP<|aY<|aZ<|bP rfl<|dC 0 rfl<|aE rfl<|fJ h fun j28 h=>aJ (a_ rfl rfl (KS rfl) rfl rfl j28) rfl<|aJ (cW rfl rfl rfl rfl rfl) rfl<|aJ (wD (gv:=fun x=>x.2) rfl (fP rfl) rfl rfl rfl mH ⟨j28.1,by first|exact j28.2|simpa using j28.2⟩) rfl<|aE rfl<|fJ h fun j29 h=>aJ (a_ rfl rfl (dN rfl) rfl rfl j29) rfl<|aJ (cW rfl rfl rfl rfl rfl) rfl<|mS (v:=((at' us26 a10).2)) (ds:=((at' p0.2.2 a10).2.2)) bK (dN rfl) fun us30=>?_
     refine cJ (bD ((bT (f:=bW) (fP rfl) j29.1 (by first|exact j29.2|simpa using j29.2)):aM _ _ (Sl bF (at' us30 a22) ((at' ((at' p0.2.2 a10).2.2) a22).2)))) ?_
     refine aJ (wD (gv:=fun x=>x) rfl (fP rfl) rfl rfl rfl nZ ⟨j29.1,by first|exact j29.2|simpa using j29.2⟩) rfl<|eC (dN rfl) rfl<|aJ (kT rfl rfl) rfl<|aU ?_
     refine gT h rfl (fun h=>?_) fun h=>?_
     ·refine aZ<|aK rfl<|aU<|bE<|cG<|aR<|aR<|cG<|cG<|aR<|aR<|cG<|aR ?_
      cases h
      exact yR rfl
     refine eJ<|lP<|aS<|aE rfl<|dM rfl<|aK rfl<|aU ?_
     exact dZ (wI .i64 (a22+(1:Int))) () h SF (bH.refl _) (gO [6,7] rfl)
    refine Cp<|nO<|nO<|Fb<|lP ?_
    exact cK () (()) h SF (bH.refl _) (gO [3,4] rfl)
   intro a14 b15 h
   unfold xV at h
   refine aS<|aE rfl<|dM rfl<|aK rfl<|aU ?_
   exact BR (wI .i64 (a10+(1:Int))) () h SF rfl
  refine eQ ?_
  exact cK () (()) h SF .nil (aV.refl _ _)
 intro a6 b7 h
 unfold xU at h
 refine aZ<|aK rfl<|aU<|bE ?_
 cases h
 exact kF rfl
end
end Go.Proofs.YthnplbmmlbnelaaGreat
end
section
namespace Go.Proofs.YthnplbmmlbnelaaGreat
open Go Go.Sx
theorem Ow (F:Nat) (l:List TM) (hl:l.length<=400) (hF:1000<=F):xZ F l l=some true:=by
 unfold xZ
 rw[if_neg (by omega)]
 exact gK (step:=vL l l) (K:=some true) l.length (fun k=>(k:Int)) (fun k ag hk=>by
  unfold vL
  rw[if_pos (by omega),eP (by omega),eP (by omega),if_neg (by simp),wr (by omega) (by omega)]
  rfl) (fun ag=>by unfold vL Ab;rw[if_neg (by omega)]) F (by omega)
theorem Lm (a:ByteArray):eR a a=true:=by rw[Fp];simp
theorem RO (F:Nat) {p:PG} (hp:AD p) (hF:1000<=F):uL F p p=some true:=by
 have hv:=hp.v
 have hr:=hp.r
 unfold uL vM
 rw[Lm,if_neg (by decide),if_neg (by omega),if_neg (by simp)]
 have e2:vN F p p ()=some true:=by
  unfold vN
  exact gK (step:=jJ F p p) (K:=some true) p.2.2.length (fun k=>(k:Int)) (fun k ag hk=>by
   obtain⟨g1,g2,g3⟩:=hp.g _ (s_ hk)
   unfold jJ Af
   dsimp only
   rw[if_pos (by omega),eP (by omega),eP (by omega),Lm,if_neg (by decide),bU (Ow F _ (by omega) hF),if_neg (by decide)]
   unfold vO
   rw[if_neg (by simp)]
   have e3:=gK (step:=sF F (k:Int) ag ((at' p.2.2 (k:Int)).2.1,(at' p.2.2 (k:Int)).2.2,(at' p.2.2 (k:Int)).2.1,(at' p.2.2 (k:Int)).2.2)) (K:=ag ((k+1:Nat):Int)) (at' p.2.2 (k:Int)).2.2.length (fun j=>(j:Int)) (fun j ag' hj=>by
    have:=g3 _ (s_ hj)
    unfold sF Ag
    dsimp only
    rw[if_pos (by omega),eP (by omega),eP (by omega),if_neg (by simp),eP (by omega),eP (by omega),bU (Ow F _ (by omega) hF),if_neg (by decide),wr (by omega) (by omega)]
    rfl) (fun ag'=>by
    unfold sF Ae
    dsimp only
    rw[if_neg (by omega),wr (by omega) (by omega)]
    rfl) F (by omega)
   exact e3) (fun ag=>by unfold jJ Ac;rw[if_neg (by omega)]) F (by omega)
 exact gK (step:=vQ F p p) (K:=some true) p.2.1.length (fun k=>(k:Int)) (fun k ag hk=>by
  unfold vQ
  rw[if_pos (by omega),eP (by omega),eP (by omega),if_neg (by simp),wr (by omega) (by omega)]
  rfl) (fun ag=>by unfold vQ;rw[if_neg (by omega)];exact e2) F (by omega)
theorem FH (m:cU) (e:List TM):(Dc m e).1.length<=e.length:=by
 unfold Dc
 split
 ·split<;>simp
 ·simp
theorem AN:AD AI:=⟨by decide,by decide,fun q hq=>by simp[AI]at hq⟩
theorem Ul (F:Nat) (p:PG) (hF:1000<=F):∃b,pB F p=some b∧(b=false->AD p):=by
 unfold pB tB
 by_cases h1:(20:Int)<(List.length p.2.1:Int)
 ·rw[if_pos h1];exact⟨true,rfl,by simp⟩
 rw[if_neg h1]
 by_cases h2:(20:Int)<(List.length p.2.2:Int)
 ·rw[if_pos h2];exact⟨true,rfl,by simp⟩
 rw[if_neg h2]
 by_cases h3:(100:Int)<((ByteArray.size p.1:Nat):Int)
 ·rw[if_pos (by simpa using h3)];exact⟨true,rfl,by simp⟩
 rw[if_neg (by simpa using h3)]
 have e0:=fE (step:=jO F p) (K:=some false) (bad:=some true) p.2.2.length (fun k=>decide ((at' p.2.2 (k:Int)).2.1.length<=400)&&decide ((at' p.2.2 (k:Int)).2.2.length<=20)&&decide ((at' p.2.2 (k:Int)).1.size<=100)&&(List.range (at' p.2.2 (k:Int)).2.2.length).all fun j=>decide ((at' (at' p.2.2 (k:Int)).2.2 (j:Int)).2.length<=400)) (fun k=>(k:Int)) (fun k ag hk=>by
  unfold jO tC
  rw[if_pos (by omega),eP (by omega)]
  by_cases g1:(400:Int)<(List.length ((at' p.2.2 (k:Int)).2.1):Int)
  ·rw[if_pos g1,if_pos rfl,if_neg (by simp;omega)]
  rw[if_neg g1,eP (by omega)]
  by_cases g2:(20:Int)<(List.length ((at' p.2.2 (k:Int)).2.2):Int)
  ·rw[if_pos g2,if_pos rfl,if_neg (by simp;omega)]
  rw[if_neg g2,eP (by omega)]
  by_cases g3:(100:Int)<((ByteArray.size ((at' p.2.2 (k:Int)).1):Nat):Int)
  ·rw[if_pos (by simpa using g3),if_neg (by simp;omega)]
  rw[if_neg (by simpa using g3)]
  have e1:=fE (step:=pW p (k:Int) ag) (K:=ag ((k+1:Nat):Int)) (bad:=some true) (at' p.2.2 (k:Int)).2.2.length (fun j=>decide ((at' (at' p.2.2 (k:Int)).2.2 (j:Int)).2.length<=400)) (fun j=>(j:Int)) (fun j ag' hj=>by
   unfold pW
   rw[eP (by omega),if_pos (by omega),eP (by omega),eP (by omega),wr (by omega) (by omega)]
   by_cases g4:(400:Int)<(List.length ((at' ((at' p.2.2 (k:Int)).2.2) (j:Int)).2):Int)
   ·rw[if_pos g4,if_neg (by simp;omega)]
   ·rw[if_neg g4,if_pos (by simp;omega)]
    rfl) (fun ag'=>by
   unfold pW xV
   rw[eP (by omega),if_neg (by omega),wr (by omega) (by omega)]
   rfl) F (by omega)
  have e1:bZ (pW p (k:Int) ag) F (0:Int)=_:=e1
  rw[e1,decide_eq_true (by omega),decide_eq_true (by omega),decide_eq_true (by omega)]
  rfl) (fun ag=>by unfold jO xU;rw[if_neg (by omega)]) F (by omega)
 have e0:bZ (jO F p) F (0:Int)=_:=e0
 rw[e0]
 split
 ·rename_i h
  refine⟨false,rfl,fun _=>⟨by omega,by omega,fun q hq=> ?_⟩⟩
  obtain⟨k,hk⟩:=List.getElem?_of_mem hq
  have hlt:=bN hk
  have h:=List.all_eq_true.1 h k (List.mem_range.2 hlt)
  rw[sL hlt]at hk
  have hk:=Option.some.inj hk
  rw[hk]at h
  simp only[Bool.and_eq_true,decide_eq_true_eq]at h
  refine⟨h.1.1.1,h.1.1.2,fun s hs=> ?_⟩
  obtain⟨j,hj⟩:=List.getElem?_of_mem hs
  have hjl:=bN hj
  have h4:=List.all_eq_true.1 h.2 j (List.mem_range.2 hjl)
  rw[sL hjl]at hj
  rw[Option.some.inj hj]at h4
  exact of_decide_eq_true h4
 ·exact⟨true,rfl,by simp⟩
end Go.Proofs.YthnplbmmlbnelaaGreat
end
