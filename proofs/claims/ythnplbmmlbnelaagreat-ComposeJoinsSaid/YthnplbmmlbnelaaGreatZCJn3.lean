/- Models and proofs. Conditions: none. -/
import Derived.Test.YthnplbmmlbnelaaGreatZCJn2
set_option linter.unusedVariables false
set_option linter.unusedSimpArgs false
set_option maxHeartbeats 4000000
set_option maxRecDepth 20000
section
namespace Go.Proofs.YthnplbmmlbnelaaGreat
open Go.Sx
section
def nQ (U:Nat) (p0:Ck) (p1:Int) (a9:Bool):Option gY:=
 if a9=true then(some ((0:Int),(wI .i64 (p1+(1:Int)))))else(Option.bind (oM U ((p0.1,p0.2)) ((((at' p0.1 p1).1),((at' p0.1 p1).2)))) fun r12=>(some (r12,(wI .i64 (p1+(1:Int))))))
def iI (U:Nat) (p0:Ck) (p1:Int) (a27:Int×Int×Int×Int):Option gY:=
 Option.bind (lL U ((at' p0.1 p1).1) ((a27.2.1,a27.2.2.1,a27.2.2.2))) fun r29=>(some (r29,a27.1))
def gC (a41:Int×Int×Int×Int×Int) (ag40:(Int×Int×Int×Int×Int)->Option gY) (a49:Int×Int×Int×Int):Option gY:=
 ag40 (a49.1,(wI .i64 (a41.2.1+(1:Int))),a49.2.1,a49.2.2.1,a49.2.2.2)
def cQ (U:Nat) (p0:Ck) (p1:Int) (rc:(cS×cU)->Int->Bool->Option gY) (a20:Bool) (r32:Int) (a41:Int×Int×Int×Int×Int) (ag40:(Int×Int×Int×Int×Int)->Option gY):Option gY:=
 if a41.2.1<r32 then(Option.bind (rc ((p0.1,p0.2)) a41.1 a20) fun r51=>(ck (0<=a41.2.1∧a41.2.1<((3:Nat):Int)) (if a41.2.1=(0:Int)then(gC a41 ag40 (r51.2,r51.1,a41.2.2.2.1,a41.2.2.2.2))else(if a41.2.1=(1:Int)then(gC a41 ag40 (r51.2,a41.2.2.1,r51.1,a41.2.2.2.2))else(gC a41 ag40 (r51.2,a41.2.2.1,a41.2.2.2.1,r51.1))))))else(iI U p0 p1 (a41.1,a41.2.2.1,a41.2.2.2.1,a41.2.2.2.2))
def fH (U:Nat) (p0:Ck) (p1:Int) (rc:(cS×cU)->Int->Bool->Option gY) (a20:Bool):Option gY:=
 Option.bind (qW U ((at' p0.1 p1).1)) fun r32=>(bZ (cQ U p0 p1 rc a20 r32) U ((wI .i64 (p1+(1:Int))),(0:Int),(0:Int),(0:Int),(0:Int)))
def fD (rc:(cS×cU)->Int->Bool->Option gY) (U:Nat) (p0:Ck) (p1:Int) (p2:Bool):Option gY:=
 ck (0<=p1∧p1<(List.length p0.1:Int)) (Option.bind (qW U ((at' p0.1 p1).1)) fun r4=>(if r4=(0:Int)then(Option.bind (By U ((at' p0.1 p1).1)) fun r15=>(if r15=true then(nQ U p0 p1 ((!p2)))else(nQ U p0 p1 (false))))else(if p2=true then(fH U p0 p1 rc (true))else(Option.bind (pY U ((at' p0.1 p1).1)) fun r58=>(fH U p0 p1 rc (r58))))))
def dW:Nat->(cS×cU)->Int->Bool->Option gY
 |0,_,_,_=>none
 |U+1,p0,p1,p2=>fD (dW U) U p0 p1 p2
theorem NQ:bO Tryz.prog 130:=Tryz.call130
theorem CM (rc:(cS×cU)->Int->Bool->Option gY) (U:Nat) (hrc:∀{p0:Ck} {p1:Int} {p2:Bool} (v0:Value)  (v1:Value) (r:lS),rc p0 p1 p2=some r->bQ Tryz.prog 130 #[Value.agg #[v0,v1],vI (p1),vB (p2)] [Sl bF v0 p0.1,Sl gS v1 p0.2] (fun x:Unit=>Value.tuple #[vI (r.1),vI (r.2)]) (fun x l=>l) (fun _ l=>l)) {p0:Ck} {p1:Int} {p2:Bool} (v0:Value)  (v1:Value) (r:lS) (h:fD rc U p0 p1 p2=some r):
  bQ Tryz.prog 130 #[Value.agg #[v0,v1],vI (p1),vB (p2)] [Sl bF v0 p0.1,Sl gS v1 p0.2] (fun x:Unit=>Value.tuple #[vI (r.1),vI (r.2)]) (fun x l=>l) (fun _ l=>l):=by
 refine bQ.of Tryz.func130 rfl Tryz.ntmps130 rfl fun c=>?_
 refine aZ<|aT (aW.box (cs:=[v0,v1]) rfl rfl) rfl fun b1=>aK rfl<|aK rfl<|aU<|aZ<|bP rfl<|dC 0 rfl<|aE rfl<|fJ h fun j2 h=>aJ (a_ rfl rfl (dN rfl) rfl rfl j2) rfl<|aJ (gI (cs:=[vI ((at' p0.1 p1).1),vI ((at' p0.1 p1).2)]) rfl (dN rfl) cO rfl rfl rfl rfl j2) rfl<|aT (aW.alloc (cs:=XD) rfl rfl) rfl fun b3=>bL 0 (vs:=[vI ((at' p0.1 p1).1),vI ((at' p0.1 p1).2)]) rfl rfl rfl rfl rfl rfl<|aU<|aZ<|aE rfl<|dM rfl<|aK rfl<|aU<|aP<|aZ<|bP rfl<|dC 0 rfl<|fO h fun r4 w5 h=>aT (aW.callQ Kb (AX U  r4 w5) rfl .nil) rfl fun x6=>dQ rfl<|aU ?_
 refine gT h rfl (fun h=>?_) fun h=>?_
 ·refine aP<|aP<|dD (fun a9=>nQ U p0 p1 a9=some r) (fun a9 b10=>[(3,vP b1),(7,vI (wI .i64 (p1+(1:Int)))),(8,vP b3),(29,vB (a9))]) (fun a9 b10=>[bJ b3 [vI ((at' p0.1 p1).1),vI ((at' p0.1 p1).2)] 84,bJ b1 [v0,v1] 151]) ?_ ?_
  ·refine aS<|bP rfl<|dC 0 rfl<|fO h fun r15 w16 h=>aT (aW.callQ S_ (LW U  r15 w16) rfl .nil) rfl fun x17=>aE rfl ?_
   refine fY (by exact rfl) (by exact rfl) (fun hp18=>?_) (fun hp18=>?_)
   ·have h:=BK hp18 h
    refine cP rfl<|aL rfl (fR rfl) rfl<|cE rfl<|aU ?_
    exact cZ ((!p2)) () h SF rfl
   have h:=sM hp18 h
   refine aI rfl<|aI rfl<|cI rfl<|aU ?_
   exact cZ (false) () h SF rfl
  intro a9 b10 h
  refine gP h rfl (fun _ h=>?_) fun _ h=>?_
  ·refine aZ<|aE rfl<|aK rfl<|aK rfl<|aU<|bE<|aR<|aR ?_
   cases h
   exact fB () rfl rfl (RV.tmp rfl) (RV.tmp rfl) .nil aV.nil
  refine cC<|aZ<|iC 1 rfl<|iC 0 rfl<|fO h fun r12 w13 h=>aT (aW.callQ Ta (DC U v0 v1 r12 w13) rfl (gO [0,1] rfl)) rfl fun x14=>aE rfl<|aK rfl<|aK rfl<|aU<|bE<|aR ?_
  cases h
  exact fB () rfl rfl (RV.tmp rfl) (RV.tmp rfl) .nil aV.nil
 refine cC<|aP<|dD (fun a20=>fH U p0 p1 rc a20=some r) (fun a20 b21=>[(3,vP b1),(7,vI (wI .i64 (p1+(1:Int)))),(8,vP b3),(9,vB (a20))]) (fun a20 b21=>[bJ b3 [vI ((at' p0.1 p1).1),vI ((at' p0.1 p1).2)] 84,bJ b1 [v0,v1] 151]) ?_ ?_
 ·refine aS<|aE rfl<|aE rfl ?_
  refine fY (by exact rfl) (by exact rfl) (fun hp57=>?_) (fun hp57=>?_)
  ·have h:=BK hp57 h
   refine aI rfl<|aI rfl<|aI rfl<|cE rfl<|aK rfl<|aU ?_
   exact cZ (true) () h SF rfl
  have h:=sM hp57 h
  refine aL rfl (cF rfl rfl rfl rfl rfl) rfl<|aL rfl (cT 0 rfl rfl rfl rfl rfl) rfl<|fO h fun r58 w59 h=>eX rfl (aW.callQ QI (Ch U  r58 w59) rfl .nil) rfl fun x60=>cI rfl<|aK rfl<|aU ?_
  exact cZ (r58) () h SF rfl
 intro a20 b21 h
 refine aZ<|aT (aW.alloc (cs:=[vI (0:Int),vI (0:Int),vI (0:Int)]) rfl rfl) rfl fun b22=>aU<|aP<|dD (fun a27=>iI U p0 p1 a27=some r) (fun a27 b28=>[(7,vI (a27.1)),(8,vP b3),(10,vP b22)]) (fun a27 b28=>[bJ b22 [vI (a27.2.1),vI (a27.2.2.1),vI (a27.2.2.2)] 162,bJ b3 [vI ((at' p0.1 p1).1),vI ((at' p0.1 p1).2)] 84]) ?_ ?_
 ·refine aZ<|bP rfl<|dC 1 rfl<|fO h fun r32 w33 h=>aT (aW.callQ Kb (AX U  r32 w33) rfl .nil) rfl fun x34=>aE rfl<|aU<|aY<|fW (cQ U p0 p1 rc a20 r32) (fun a41 b42=>[(3,vP b1),(7,vI (a41.1)),(8,vP b3),(9,vB (a20)),(10,vP b22),(43,vI (r32)),(44,vI (a41.2.1))]) (fun a41 b42=>[bJ b22 [vI (a41.2.2.1),vI (a41.2.2.2.1),vI (a41.2.2.2.2)] 162,bJ b3 [vI ((at' p0.1 p1).1),vI ((at' p0.1 p1).2)] 84,bJ b1 [v0,v1] 151]) ((wI .i64 (p1+(1:Int))),(0:Int),(0:Int),(0:Int),(0:Int)) () h SF (bH.refl _) ?_
  intro k43 a41 b42 h
  refine aZ<|dL rfl<|aU<|aP ?_
  refine gT h rfl (fun h=>?_) fun h=>?_
  ·refine cC<|aP<|dD (fun a49=>gC a41 (bZ (cQ U p0 p1 rc a20 r32) k43) a49=some r) (fun a49 b50=>[(3,vP b1),(7,vI (a49.1)),(8,vP b3),(9,vB (a20)),(10,vP b22),(43,vI (r32)),(44,vI (a41.2.1))]) (fun a49 b50=>[bJ b22 [vI (a49.2.1),vI (a49.2.2.1),vI (a49.2.2.2)] 162,bJ b3 [vI ((at' p0.1 p1).1),vI ((at' p0.1 p1).2)] 84,bJ b1 [v0,v1] 151]) ?_ ?_
   ·refine aY<|aZ<|aE rfl<|aK rfl<|aU<|aS<|aE rfl<|iC 2 rfl<|aE rfl<|aE rfl<|fO h fun r51 w52 h=>aT (aW.callQ NQ (hrc v0 v1 r51 w52) rfl (gO [0,1] rfl)) rfl fun x53=>aE rfl<|mM rfl<|mM rfl<|fJ h fun j54 h=>?_
    by_cases hq55:a41.2.1=(0:Int)
    ·have h:=BK hq55 h
     refine aJ (Dm 0 rfl rfl rfl rfl rfl hq55 rfl) rfl<|eS 0 rfl rfl rfl rfl rfl rfl<|aK rfl<|fQ<|lP ?_
     exact cZ (r51.2,r51.1,a41.2.2.2.1,a41.2.2.2.2) () h SF rfl
    have h:=Wp hq55 h
    by_cases hq56:a41.2.1=(1:Int)
    ·have h:=BK hq56 h
     refine aJ (Dm 1 rfl rfl rfl rfl rfl hq56 rfl) rfl<|eS 0 rfl rfl rfl rfl rfl rfl<|aK rfl<|fQ<|lP ?_
     exact cZ (r51.2,a41.2.2.1,r51.1,a41.2.2.2.2) () h SF rfl
    have h:=Wp hq56 h
    refine aJ (Dm 2 rfl rfl rfl rfl rfl (by omega) rfl) rfl ?_
    refine eS 0 rfl rfl rfl rfl rfl rfl<|aK rfl<|fQ<|lP ?_
    exact cZ (r51.2,a41.2.2.1,a41.2.2.2.1,r51.1) () h SF rfl
   intro a49 b50 h
   unfold gC at h
   refine aS<|dM rfl<|aE rfl<|aU ?_
   exact BR (a49.1,(wI .i64 (a41.2.1+(1:Int))),a49.2.1,a49.2.2.1,a49.2.2.2) () h SF rfl
  refine eQ ?_
  exact cK (a41.1,a41.2.2.1,a41.2.2.2.1,a41.2.2.2.2) () h SF (bH.ix [0,1] rfl rfl) (aV.refl _ _)
 intro a27 b28 h
 refine aZ<|bP rfl<|dC 1 rfl<|iC 0 rfl<|fO h fun r29 w30 h=>aT (aW.callQ Tb (Ix U  r29 w30) rfl .nil) rfl fun x31=>aE rfl<|aK rfl<|aK rfl<|aU<|bE ?_
 cases h
 exact fB () rfl rfl (RV.tmp rfl) (RV.tmp rfl) .nil aV.nil
theorem DD (U:Nat):∀{p0:Ck} {p1:Int} {p2:Bool} (v0:Value)  (v1:Value) (r:lS),dW U p0 p1 p2=some r->
  bQ Tryz.prog 130 #[Value.agg #[v0,v1],vI (p1),vB (p2)] [Sl bF v0 p0.1,Sl gS v1 p0.2] (fun x:Unit=>Value.tuple #[vI (r.1),vI (r.2)]) (fun x l=>l) (fun _ l=>l):=by
 induction U with
 |zero=>intros;rename_i h;cases h
 |succ U ih=>exact fun v0 v1 r h=>CM (dW U) U ih v0 v1 r h
end
section
def BG (U:Nat) (p0:cS) (p1:cU) (p2:Bool) (a2:Unit):Option gY:=
 Option.bind (iR U p0 (List.length p1:Int)) fun r4=>(if(!r4)=true then(some ((0:Int),(7:Int)))else(Option.bind (dW U ((p0,p1)) (0:Int) p2) fun r13=>(if r13.1=(0:Int)then(some ((0:Int),(6:Int)))else(some (r13.1,(0:Int))))))
def mN (U:Nat) (p0:cS) (p1:cU) (p2:Bool) (a19:Int) (ag18:(Int)->Option gY):Option gY:=
 if a19<(List.length p1:Int)then(ck (0<=a19∧a19<(List.length p1:Int)) (Option.bind (pZ U (at' p1 a19)) fun r24=>(if(!r24)=true then(some ((0:Int),(7:Int)))else(ag18 (wI .i64 (a19+(1:Int)))))))else(BG U p0 p1 p2 (()))
def zM (U:Nat) (p0:cS) (p1:cU) (p2:Bool):Option gY:=
 if(6:Int)<(List.length p1:Int)then(some ((0:Int),(7:Int)))else(bZ (mN U p0 p1 p2) U (0:Int))
theorem NO:bO Tryz.prog 109:=Tryz.call109
theorem Iv (U:Nat) {p0:cS} {p1:cU} {p2:Bool} (v0:Value)  (v1:Value) (r:lS) (h:zM U p0 p1 p2=some r):
  bQ Tryz.prog 109 #[v0,v1,vB (p2)] [Sl bF v0 p0,Sl gS v1 p1] (fun x:Unit=>Value.tuple #[vI (r.1),vI (r.2)]) (fun x l=>l) (fun _ l=>l):=by
 refine bQ.of Tryz.func109 rfl Tryz.ntmps109 rfl fun c=>?_
 refine aZ<|aK rfl<|aK rfl<|aU<|aP<|aZ<|aE rfl<|eC (fP rfl) rfl<|aJ (kT rfl rfl) rfl<|aU ?_
 refine gT h rfl (fun h=>?_) fun h=>?_
 ·refine aZ<|aK rfl<|aK rfl<|aU<|bE<|aR ?_
  cases h
  exact fB () rfl rfl (RV.tmp rfl) (RV.tmp rfl) (bH.refl _) aV.nil
 refine cC<|aP<|dD (fun a2=>BG U p0 p1 p2 a2=some r) (fun a2 b3=>[(0,v0),(1,v1),(2,vB (p2))]) (fun a2 b3=>[]) ?_ ?_
 ·refine aZ<|aE rfl<|eC (fP rfl) rfl<|aE rfl<|aU<|aY<|fW (mN U p0 p1 p2) (fun a19 b20=>[(0,v0),(1,v1),(2,vB (p2)),(16,v1),(17,vI (List.length p1:Int)),(18,vI (a19))]) (fun a19 b20=>[]) (0:Int) () h SF (bH.refl _) ?_
  intro k21 a19 b20 h
  refine aZ<|dL rfl<|aU<|aP ?_
  refine gT h rfl (fun h=>?_) fun h=>?_
  ·refine cC<|aP<|aY<|aZ<|fJ h fun j23 h=>aJ (a_ rfl rfl (fP rfl) rfl rfl j23) rfl<|aJ (iN rfl (fP rfl) rfl rfl rfl mT j23) rfl<|aK rfl<|aU<|aZ<|aE rfl<|fO h fun r24 w25 h=>aT (aW.callQ NN (Ci U  r24 w25) rfl .nil) rfl fun x26=>aJ (fR rfl) rfl<|aU ?_
   refine gP h rfl (fun _ h=>?_) fun _ h=>?_
   ·refine aZ<|aK rfl<|aK rfl<|aU<|bE<|cG<|aR<|aR<|cG<|aR ?_
    cases h
    exact fB () rfl rfl (RV.tmp rfl) (RV.tmp rfl) (bH.refl _) aV.nil
   refine eJ<|lP<|aS<|dM rfl<|aE rfl<|aU ?_
   exact BR (wI .i64 (a19+(1:Int))) () h SF rfl
  refine eQ ?_
  exact cZ () (()) h SF rfl
 intro a2 b3 h
 refine aP<|aZ<|aE rfl<|aE rfl<|eC (fP rfl) rfl<|fO h fun r4 w5 h=>aT (aW.callQ HG (yU U v0 r4 w5) rfl (gO [0] rfl)) rfl fun x6=>aJ (fR rfl) rfl<|aU ?_
 refine gP h rfl (fun _ h=>?_) fun _ h=>?_
 ·refine aZ<|aK rfl<|aK rfl<|aU<|bE<|aR ?_
  cases h
  exact fB () rfl rfl (RV.tmp rfl) (RV.tmp rfl) (bH.refl _) aV.nil
 refine cC<|aZ<|aE rfl<|aE rfl<|bY (Know.one ((dN rfl))) fun ho8=>bY (Know.one ((fP rfl))) fun ho9=>?_
 refine aJ (kY (r:=Value.agg #[v0,v1]) rfl rfl (by intro w;simp[Instr.build,Instr.fill,b_,bR,bM,cA,cB,bS,cL,eY ho8,eY ho9])) rfl ?_
 refine aT (aW.alloc (cs:=[fX,fX]) rfl rfl) rfl fun b10=>bY (Know.one ((dN rfl))) fun ho11=>bY (Know.one ((fP rfl))) fun ho12=>bL 0 (vs:=[v0,v1]) rfl rfl (cR ho11 (cR ho12 rfl)) rfl rfl rfl<|aU<|aZ<|iC 0 rfl<|aE rfl<|fO h fun r13 w14 h=>aT (aW.callQ NQ (DD U v0 v1 r13 w14) rfl (gO [0,1] rfl)) rfl fun x15=>aE rfl<|mM rfl<|mM rfl<|aK rfl<|aK rfl<|aU<|aP<|aZ<|aE rfl<|dQ rfl<|aU ?_
 refine gT h rfl (fun h=>?_) fun h=>?_
 ·refine aZ<|aK rfl<|aK rfl<|aU<|bE<|aR ?_
  cases h
  exact fB () rfl rfl (RV.tmp rfl) (RV.tmp rfl) .nil aV.nil
 refine cC<|aZ<|aE rfl<|aK rfl<|aK rfl<|aU<|bE ?_
 cases h
 exact fB () rfl rfl (RV.tmp rfl) (RV.tmp rfl) .nil aV.nil
end
section
def Ai (p0:lS) (p1:cU) (a15:Bool):Option (Int):=
 if a15=true then(ck (0<=p0.2∧p0.2<(List.length p1:Int)) (some (at' p1 p0.2)))else(some (1:Int))
def vV (p0:lS) (p1:cU) (a11:Bool):Option (Int):=
 if a11=true then(some (3:Int))else(if p0.1=(5:Int)then(Ai p0 p1 (decide (p0.1=(5:Int))))else(Ai p0 p1 (decide (p0.1=(12:Int)))))
def sG (p0:lS) (p1:cU) (a7:Bool):Option (Int):=
 if a7=true then(some (2:Int))else(if p0.1=(4:Int)then(vV p0 p1 (decide (p0.1=(4:Int))))else(if p0.1=(11:Int)then(vV p0 p1 (decide (p0.1=(11:Int))))else(vV p0 p1 (decide (p0.1=(17:Int))))))
def vT (p0:lS) (p1:cU) (a3:Bool):Option (Int):=
 if a3=true then(some (0:Int))else(if p0.1=(2:Int)then(sG p0 p1 (decide (p0.1=(2:Int))))else(if p0.1=(3:Int)then(sG p0 p1 (decide (p0.1=(3:Int))))else(if p0.1=(10:Int)then(sG p0 p1 (decide (p0.1=(10:Int))))else(sG p0 p1 (decide (p0.1=(15:Int)))))))
def yB (U:Nat) (p0:lS) (p1:cU) (p2:Bool):Option (Int):=
 if(!p2)=true then(if p0.1=(11:Int)then(vT p0 p1 (true))else(vT p0 p1 (decide ((12:Int)<=p0.1))))else(vT p0 p1 (false))
theorem SY:bO Tryz.prog 134:=Tryz.call134
theorem KJ (U:Nat) {p0:lS} {p1:cU} {p2:Bool} (v0:Value) (r:Int) (h:yB U p0 p1 p2=some r):
  bQ Tryz.prog 134 #[Value.agg #[vI (p0.1),vI (p0.2)],v0,vB (p2)] [Sl gS v0 p1] (fun x:Unit=>vI (r)) (fun x l=>l) (fun _ l=>l):=by
 refine bQ.of Tryz.func134 rfl Tryz.ntmps134 rfl fun c=>?_
 unfold yB at h
 refine aZ<|aT (aW.box (cs:=[vI (p0.1),vI (p0.2)]) rfl rfl) rfl fun b1=>aK rfl<|aU<|aP<|aP<|dD (fun a3=>vT p0 p1 a3=some r) (fun a3 b4=>[(1,v0),(3,vP b1),(18,vB (a3))]) (fun a3 b4=>[bJ b1 [vI (p0.1),vI (p0.2)] 84]) ?_ ?_
 ·refine aS<|aE rfl<|aJ (fR rfl) rfl<|aE rfl ?_
  refine fY (by exact rfl) (by exact rfl) (fun hp25=>?_) (fun hp25=>?_)
  ·have h:=BK hp25 h
   refine aL rfl (cF rfl rfl rfl rfl rfl) rfl<|aL rfl (cT 0 rfl rfl rfl rfl rfl) rfl<|aL rfl (mU rfl rfl) rfl<|cP rfl ?_
   refine oD h rfl (fun _ h=>?_) fun _ h=>?_
   ·refine aI rfl<|aI rfl<|aI rfl<|aL rfl (Cu rfl rfl) rfl<|cE rfl<|aU ?_
    exact cZ (true) () h SF rfl
   refine aL rfl (cF rfl rfl rfl rfl rfl) rfl<|aL rfl (cT 0 rfl rfl rfl rfl rfl) rfl<|aL rfl (jM rfl rfl) rfl<|aL rfl (Ct rfl rfl) rfl<|cE rfl<|aU ?_
   exact cZ (decide ((12:Int)<=p0.1)) () h SF rfl
  have h:=sM hp25 h
  refine aI rfl<|aI rfl<|aI rfl<|aI rfl<|Ek (h:= ?_)
  refine Ek (h:= ?_)
  refine Ek (h:= ?_)
  refine aI rfl<|cI rfl<|aU ?_
  exact cZ (false) () h SF rfl
 intro a3 b4 h
 refine gP h rfl (fun _ h=>?_) fun _ h=>?_
 ·refine aZ<|aK rfl<|aU<|bE<|aR ?_
  cases h
  exact yR rfl
 refine cC<|aP<|aZ<|bP rfl<|dC 0 rfl<|aU<|aY<|aP<|dD (fun a7=>sG p0 p1 a7=some r) (fun a7 b8=>[(1,v0),(3,vP b1),(20,vI (p0.1)),(21,vB (a7))]) (fun a7 b8=>[bJ b1 [vI (p0.1),vI (p0.2)] 84]) ?_ ?_
 ·refine aZ<|dQ rfl<|aK rfl<|aU ?_
  refine gT h rfl (fun h=>?_) fun h=>?_
  ·refine cC ?_
   exact cZ (decide (p0.1=(2:Int))) () h SF rfl
  refine aZ<|dQ rfl<|aK rfl<|aU ?_
  refine gT h rfl (fun h=>?_) fun h=>?_
  ·refine cC ?_
   exact cZ (decide (p0.1=(3:Int))) () h SF rfl
  refine aZ<|dQ rfl<|aK rfl<|aU ?_
  refine gT h rfl (fun h=>?_) fun h=>?_
  ·refine cC ?_
   exact cZ (decide (p0.1=(10:Int))) () h SF rfl
  refine aS<|dQ rfl<|aK rfl<|aU ?_
  exact cZ (decide (p0.1=(15:Int))) () h SF rfl
 intro a7 b8 h
 refine gP h rfl (fun _ h=>?_) fun _ h=>?_
 ·refine aZ<|aK rfl<|aU<|bE<|cG<|aR ?_
  cases h
  exact yR rfl
 refine aP<|dD (fun a11=>vV p0 p1 a11=some r) (fun a11 b12=>[(1,v0),(3,vP b1),(20,vI (p0.1)),(26,vB (a11))]) (fun a11 b12=>[bJ b1 [vI (p0.1),vI (p0.2)] 84]) ?_ ?_
 ·refine aZ<|dQ rfl<|aK rfl<|aU ?_
  refine gT h rfl (fun h=>?_) fun h=>?_
  ·refine cC ?_
   exact cZ (decide (p0.1=(4:Int))) () h SF rfl
  refine aZ<|dQ rfl<|aK rfl<|aU ?_
  refine gT h rfl (fun h=>?_) fun h=>?_
  ·refine cC ?_
   exact cZ (decide (p0.1=(11:Int))) () h SF rfl
  refine aS<|dQ rfl<|aK rfl<|aU ?_
  exact cZ (decide (p0.1=(17:Int))) () h SF rfl
 intro a11 b12 h
 refine gP h rfl (fun _ h=>?_) fun _ h=>?_
 ·refine aZ<|aK rfl<|aU<|bE<|cG<|aR ?_
  cases h
  exact yR rfl
 refine aP<|dD (fun a15=>Ai p0 p1 a15=some r) (fun a15 b16=>[(1,v0),(3,vP b1),(30,vB (a15))]) (fun a15 b16=>[bJ b1 [vI (p0.1),vI (p0.2)] 84]) ?_ ?_
 ·refine aZ<|dQ rfl<|aK rfl<|aU ?_
  refine gT h rfl (fun h=>?_) fun h=>?_
  ·refine cC ?_
   exact cZ (decide (p0.1=(5:Int))) () h SF rfl
  refine aS<|dQ rfl<|aK rfl<|aU ?_
  exact cZ (decide (p0.1=(12:Int))) () h SF rfl
 intro a15 b16 h
 refine gP h rfl (fun _ h=>?_) fun _ h=>?_
 ·refine aZ<|aE rfl<|bP rfl<|dC 0 rfl<|fJ h fun j18 h=>aJ (a_ rfl rfl (dN rfl) rfl rfl j18) rfl<|aJ (iN rfl (dN rfl) rfl rfl rfl mT j18) rfl<|aK rfl<|aU<|bE<|cG<|aR ?_
  cases h
  exact yR rfl
 refine eJ<|lP<|aZ<|aK rfl<|aU<|bE ?_
 cases h
 exact yR rfl
end
section
def oI (p1:Int) (a3:lS):Option (Int):=
 if p1≠a3.2 then(some (0:Int))else(some (a3.1))
def rR (p0:Int) (p1:Int) (a7:Bool):Option (Int):=
 if a7=true then(oI p1 ((2:Int),(2:Int)))else(if p0=(22:Int)then(oI p1 ((1:Int),(2:Int)))else(if p0=(23:Int)then(oI p1 ((3:Int),(2:Int)))else(oI p1 ((1:Int),(1:Int)))))
def tI (U:Nat) (p0:Int) (p1:Int):Option (Int):=
 if p0=(19:Int)then(rR p0 p1 (decide (p0=(19:Int))))else(if p0=(20:Int)then(rR p0 p1 (decide (p0=(20:Int))))else(rR p0 p1 (decide (p0=(21:Int)))))
theorem NS:bO Tryz.prog 135:=Tryz.call135
theorem DR (U:Nat) {p0:Int} {p1:Int} (r:Int) (h:tI U p0 p1=some r):
  bQ Tryz.prog 135 #[vI (p0),vI (p1)] [] (fun x:Unit=>vI (r)) (fun x l=>l) (fun _ l=>l):=by
 refine bQ.of Tryz.func135 rfl Tryz.ntmps135 rfl fun c=>?_
 refine aZ<|aK rfl<|aU<|aZ<|aK rfl<|aK rfl<|aU<|aP<|dD (fun a3=>oI p1 a3=some r) (fun a3 b4=>[(1,vI (p1)),(5,vI (a3.2)),(6,vI (a3.1))]) (fun a3 b4=>[]) ?_ ?_
 ·refine aZ<|aE rfl<|aU<|aY<|aP<|dD (fun a7=>rR p0 p1 a7=some r) (fun a7 b8=>[(1,vI (p1)),(5,vI (1:Int)),(6,vI (1:Int)),(7,vI (p0)),(8,vB (a7))]) (fun a7 b8=>[]) ?_ ?_
  ·refine aZ<|dQ rfl<|aK rfl<|aU ?_
   refine gT h rfl (fun h=>?_) fun h=>?_
   ·refine cC ?_
    exact cZ (decide (p0=(19:Int))) () h SF rfl
   refine aZ<|dQ rfl<|aK rfl<|aU ?_
   refine gT h rfl (fun h=>?_) fun h=>?_
   ·refine cC ?_
    exact cZ (decide (p0=(20:Int))) () h SF rfl
   refine aS<|dQ rfl<|aK rfl<|aU ?_
   exact cZ (decide (p0=(21:Int))) () h SF rfl
  intro a7 b8 h
  refine gP h rfl (fun _ h=>?_) fun _ h=>?_
  ·refine aS<|aK rfl<|aK rfl<|fQ<|lP ?_
   exact cZ ((2:Int),(2:Int)) () h SF rfl
  refine aZ<|dQ rfl<|aK rfl<|aU ?_
  refine gT h rfl (fun h=>?_) fun h=>?_
  ·refine aS<|aK rfl<|fQ<|lP ?_
   exact cZ ((1:Int),(2:Int)) () h SF rfl
  refine aZ<|dQ rfl<|aK rfl<|aU ?_
  refine gT h rfl (fun h=>?_) fun h=>?_
  ·refine aS<|aK rfl<|aK rfl<|fQ<|lP ?_
   exact cZ ((3:Int),(2:Int)) () h SF rfl
  refine eJ<|lP ?_
  exact cZ ((1:Int),(1:Int)) () h SF rfl
 intro a3 b4 h
 refine aP<|aZ<|aE rfl<|aE rfl<|Cf rfl<|aU ?_
 refine gT h rfl (fun h=>?_) fun h=>?_
 ·refine aZ<|aK rfl<|aU<|bE<|aR ?_
  cases h
  exact kF rfl
 refine cC<|aZ<|aE rfl<|aK rfl<|aU<|bE ?_
 cases h
 exact kF rfl
end
section
def wV  (a6:Bool):Option (Int):=
 if a6=true then(some (0:Int))else(some (2:Int))
def wX  (a15:Bool):Option (Int):=
 if a15=true then(some (0:Int))else(some (2:Int))
def wZ  (a24:Bool):Option (Int):=
 if a24=true then(some (2:Int))else(some (1:Int))
def wY (p0:Int) (a20:Bool):Option (Int):=
 if a20=true then(some (0:Int))else(if(37:Int)<=p0 then(wZ  (decide (p0<=(40:Int))))else(wZ  (false)))
def wW (p0:Int) (p1:Int) (p2:Int) (a11:Bool):Option (Int):=
 if a11=true then(if p1≠(2:Int)then(wX  (true))else(wX  (decide (p2≠(2:Int)))))else(if p1≠(1:Int)then(wY p0 (true))else(wY p0 (decide (p2≠(1:Int)))))
def wU (p0:Int) (p1:Int) (p2:Int) (a2:Bool):Option (Int):=
 if a2=true then(if p1≠p2 then(wV  (true))else(wV  (decide (p1=(0:Int)))))else(if p0=(41:Int)then(wW p0 p1 p2 (true))else(wW p0 p1 p2 (decide (p0=(42:Int)))))
def x_ (U:Nat) (p0:Int) (p1:Int) (p2:Int):Option (Int):=
 if p0=(35:Int)then(wU p0 p1 p2 (true))else(wU p0 p1 p2 (decide (p0=(36:Int))))
theorem SZ:bO Tryz.prog 136:=Tryz.call136
theorem Iq (U:Nat) {p0:Int} {p1:Int} {p2:Int} (r:Int) (h:x_ U p0 p1 p2=some r):
  bQ Tryz.prog 136 #[vI (p0),vI (p1),vI (p2)] [] (fun x:Unit=>vI (r)) (fun x l=>l) (fun _ l=>l):=by
 refine bQ.of Tryz.func136 rfl Tryz.ntmps136 rfl fun c=>?_
 refine aZ<|aK rfl<|aU<|aP<|aY<|aP<|dD (fun a2=>wU p0 p1 p2 a2=some r) (fun a2 b3=>[(0,vI (p0)),(1,vI (p1)),(2,vI (p2)),(7,vB (a2))]) (fun a2 b3=>[]) ?_ ?_
 ·refine aS<|aE rfl<|dQ rfl<|aE rfl ?_
  refine oD h rfl (fun _ h=>?_) fun _ h=>?_
  ·refine aI rfl<|aI rfl<|cE rfl<|aK rfl<|aU ?_
   exact cZ (true) () h SF rfl
  refine cP rfl<|aL rfl (mU rfl rfl) rfl<|cI rfl<|aK rfl<|aU ?_
  exact cZ (decide (p0=(36:Int))) () h SF rfl
 intro a2 b3 h
 refine gP h rfl (fun _ h=>?_) fun _ h=>?_
 ·refine aP<|aP<|dD (fun a6=>wV  a6=some r) (fun a6 b7=>[(20,vB (a6))]) (fun a6 b7=>[]) ?_ ?_
  ·refine aS<|aE rfl<|aE rfl<|Cf rfl<|aE rfl ?_
   refine oD h rfl (fun _ h=>?_) fun _ h=>?_
   ·refine aI rfl<|aI rfl<|cE rfl<|aU ?_
    exact cZ (true) () h SF rfl
   refine cP rfl<|aL rfl (mU rfl rfl) rfl<|cI rfl<|aU ?_
   exact cZ (decide (p1=(0:Int))) () h SF rfl
  intro a6 b7 h
  refine gP h rfl (fun _ h=>?_) fun _ h=>?_
  ·refine aZ<|aK rfl<|aU<|bE<|aR<|cG<|aR ?_
   cases h
   exact kF rfl
  refine cC<|aZ<|aK rfl<|aU<|bE<|cG<|aR ?_
  cases h
  exact kF rfl
 refine aP<|dD (fun a11=>wW p0 p1 p2 a11=some r) (fun a11 b12=>[(0,vI (p0)),(1,vI (p1)),(2,vI (p2)),(21,vB (a11))]) (fun a11 b12=>[]) ?_ ?_
 ·refine aS<|aE rfl<|dQ rfl<|aE rfl ?_
  refine oD h rfl (fun _ h=>?_) fun _ h=>?_
  ·refine aI rfl<|aI rfl<|cE rfl<|aK rfl<|aU ?_
   exact cZ (true) () h SF rfl
  refine cP rfl<|aL rfl (mU rfl rfl) rfl<|cI rfl<|aK rfl<|aU ?_
  exact cZ (decide (p0=(42:Int))) () h SF rfl
 intro a11 b12 h
 refine gP h rfl (fun _ h=>?_) fun _ h=>?_
 ·refine aP<|aP<|dD (fun a15=>wX  a15=some r) (fun a15 b16=>[(33,vB (a15))]) (fun a15 b16=>[]) ?_ ?_
  ·refine aS<|aE rfl<|Cf rfl<|aE rfl ?_
   refine oD h rfl (fun _ h=>?_) fun _ h=>?_
   ·refine aI rfl<|aI rfl<|cE rfl<|aU ?_
    exact cZ (true) () h SF rfl
   refine cP rfl<|aL rfl (CW rfl rfl) rfl<|cI rfl<|aU ?_
   exact cZ (decide (p2≠(2:Int))) () h SF rfl
  intro a15 b16 h
  refine gP h rfl (fun _ h=>?_) fun _ h=>?_
  ·refine aZ<|aK rfl<|aU<|bE<|aR<|cG<|aR ?_
   cases h
   exact kF rfl
  refine cC<|aZ<|aK rfl<|aU<|bE<|cG<|aR ?_
  cases h
  exact kF rfl
 refine aP<|dD (fun a20=>wY p0 a20=some r) (fun a20 b21=>[(0,vI (p0)),(34,vB (a20))]) (fun a20 b21=>[]) ?_ ?_
 ·refine aS<|aE rfl<|Cf rfl<|aE rfl ?_
  refine oD h rfl (fun _ h=>?_) fun _ h=>?_
  ·refine aI rfl<|aI rfl<|cE rfl<|aK rfl<|aU ?_
   exact cZ (true) () h SF rfl
  refine cP rfl<|aL rfl (CW rfl rfl) rfl<|cI rfl<|aK rfl<|aU ?_
  exact cZ (decide (p2≠(1:Int))) () h SF rfl
 intro a20 b21 h
 refine gP h rfl (fun _ h=>?_) fun _ h=>?_
 ·refine aZ<|aK rfl<|aU<|bE<|cG<|aR ?_
  cases h
  exact kF rfl
 refine aP<|dD (fun a24=>wZ  a24=some r) (fun a24 b25=>[(41,vB (a24))]) (fun a24 b25=>[]) ?_ ?_
 ·refine aS<|aE rfl<|aJ (jM rfl rfl) rfl<|aE rfl ?_
  refine oD h rfl (fun _ h=>?_) fun _ h=>?_
  ·refine cP rfl<|aL rfl (sO rfl rfl) rfl<|cE rfl<|aK rfl<|aU ?_
   exact cZ (decide (p0<=(40:Int))) () h SF rfl
  refine aI rfl<|aI rfl<|cI rfl<|aK rfl<|aU ?_
  exact cZ (false) () h SF rfl
 intro a24 b25 h
 refine gP h rfl (fun _ h=>?_) fun _ h=>?_
 ·refine aZ<|aK rfl<|aU<|bE<|cG<|aR ?_
  cases h
  exact kF rfl
 refine eJ<|lP<|aZ<|aK rfl<|aU<|bE ?_
 cases h
 exact kF rfl
end
section
def uP  (a6:Int):Option (Int):=
 some (a6)
def iB (U:Nat) (p0:cS) (p2:Int) (a11:lS) (ag10:gY->Option (Int)):Option (Int):=
 if a11.2<p2 then(Option.bind (xM U p0 a11.1) fun r15=>(ag10 (r15,(wI .i64 (a11.2+(1:Int))))))else(uP  (a11.1))
def qA (U:Nat) (p0:cS) (p1:Int) (p2:Int) (a2:Bool):Option (Int):=
 if a2=true then(some (-1:Int))else(bZ (iB U p0 p2) U ((wI .i64 (p1+(1:Int))),(0:Int)))
def oF (U:Nat) (p0:cS) (p1:Int) (p2:Int):Option (Int):=
 Option.bind (xM U p0 p1) fun r18=>(if r18<(0:Int)then(qA U p0 p1 p2 (true))else(if p2<(0:Int)then(qA U p0 p1 p2 (true))else(ck (0<=p1∧p1<(List.length p0:Int)) (Option.bind (pC U ((at' p0 p1).1)) fun r24=>(qA U p0 p1 p2 (decide (r24<=p2)))))))
theorem JW:bO Tryz.prog 137:=Tryz.call137
theorem AL (U:Nat) {p0:cS} {p1:Int} {p2:Int} (v0:Value) (r:Int) (h:oF U p0 p1 p2=some r):
  bQ Tryz.prog 137 #[v0,vI (p1),vI (p2)] [Sl bF v0 p0] (fun x:Unit=>vI (r)) (fun x l=>l) (fun _ l=>l):=by
 refine bQ.of Tryz.func137 rfl Tryz.ntmps137 rfl fun c=>?_
 refine aZ<|aK rfl<|aU<|aP<|aP<|dD (fun a2=>qA U p0 p1 p2 a2=some r) (fun a2 b3=>[(0,v0),(1,vI (p1)),(2,vI (p2)),(26,vB (a2))]) (fun a2 b3=>[]) ?_ ?_
 ·refine aS<|aE rfl<|aE rfl<|fO h fun r18 w19 h=>aT (aW.callQ MN (DK U v0 r18 w19) rfl (gO [0] rfl)) rfl fun x20=>dL rfl<|aE rfl ?_
  refine oD h rfl (fun _ h=>?_) fun _ h=>?_
  ·refine aI rfl<|aI rfl<|cE rfl<|aE rfl<|aI rfl<|aI rfl<|aI rfl<|aI rfl<|aI rfl<|aI rfl<|aI rfl<|aI rfl<|cE rfl<|aU ?_
   exact cZ (true) () h SF rfl
  refine cP rfl<|aL rfl (NL rfl rfl) rfl<|cI rfl<|aE rfl ?_
  refine oD h rfl (fun _ h=>?_) fun _ h=>?_
  ·refine aI rfl<|aI rfl<|aI rfl<|aI rfl<|aI rfl<|aI rfl<|aI rfl<|aI rfl<|cE rfl<|aU ?_
   exact cZ (true) () h SF rfl
  refine cP rfl<|cP rfl<|cP rfl<|fJ h fun j23 h=>aL rfl (a_ rfl rfl (dN rfl) rfl rfl j23) rfl<|aL rfl (cW rfl rfl rfl rfl rfl) rfl<|aL rfl (fN rfl (dN rfl) rfl rfl rfl pA j23) rfl<|fO h fun r24 w25 h=>eX rfl (aW.callQ Kc (Ap U  r24 w25) rfl .nil) rfl fun x26=>aL rfl (jM rfl rfl) rfl<|cI rfl<|aU ?_
  exact cZ (decide (r24<=p2)) () h SF rfl
 intro a2 b3 h
 refine gP h rfl (fun _ h=>?_) fun _ h=>?_
 ·refine aZ<|aK rfl<|aU<|bE<|aR ?_
  cases h
  exact kF rfl
 refine cC<|aZ<|aE rfl<|dM rfl<|aK rfl<|aU<|aP<|dD (fun a6=>uP  a6=some r) (fun a6 b7=>[(7,vI (a6))]) (fun a6 b7=>[]) ?_ ?_
 ·refine aZ<|aK rfl<|aU<|aY<|fW (iB U p0 p2) (fun a11 b12=>[(0,v0),(2,vI (p2)),(7,vI (a11.1)),(8,vI (a11.2))]) (fun a11 b12=>[]) ((wI .i64 (p1+(1:Int))),(0:Int)) () h SF (bH.refl _) ?_
  intro k13 a11 b12 h
  refine aP<|aZ<|aE rfl<|aE rfl<|dL rfl<|aU ?_
  refine gT h rfl (fun h=>?_) fun h=>?_
  ·refine cC<|aP<|aY<|aS<|aE rfl<|aE rfl<|fO h fun r15 w16 h=>aT (aW.callQ MN (DK U v0 r15 w16) rfl (gO [0] rfl)) rfl fun x17=>aK rfl<|fQ<|lP<|aS<|aE rfl<|dM rfl<|aK rfl<|aU ?_
   exact BR (r15,(wI .i64 (a11.2+(1:Int)))) () h SF rfl
  refine eQ ?_
  exact cZ (a11.1) () h SF rfl
 intro a6 b7 h
 unfold uP at h
 refine aZ<|aE rfl<|aK rfl<|aU<|bE ?_
 cases h
 exact kF rfl
end
section
def vR  (a12:Int):Option (Int):=
 some (a12)
def Ah (r49:Int) (a59:Bool):Option (Int):=
 if a59=true then(some (0:Int))else(some (r49))
def kW (rc:cS->Int->cU->Bool->Option (Int)) (U:Nat) (p0:cS) (p1:Int) (p2:cU) (p3:Bool):Option (Int):=
 ck (0<=p1∧p1<(List.length p0:Int)) (Option.bind (pC U ((at' p0 p1).1)) fun r2=>(if r2=(0:Int)then(ck (0<=p1∧p1<(List.length p0:Int)) (Option.bind (yB U ((((at' p0 p1).1),((at' p0 p1).2))) p2 p3) fun r7=>(some (r7))))else(if r2=(1:Int)then(if p3=true then(Option.bind (rc p0 (wI .i64 (p1+(1:Int))) p2 true) fun r15=>(Option.bind (tI U ((at' p0 p1).1) r15) fun r18=>(vR  (r18))))else(Option.bind (oO U ((at' p0 p1).1)) fun r21=>(Option.bind (rc p0 (wI .i64 (p1+(1:Int))) p2 r21) fun r24=>(Option.bind (tI U ((at' p0 p1).1) r24) fun r27=>(vR  (r27))))))else(if r2=(2:Int)then(Option.bind (rc p0 (wI .i64 (p1+(1:Int))) p2 p3) fun r31=>(Option.bind (oF U p0 p1 (1:Int)) fun r34=>(Option.bind (rc p0 r34 p2 p3) fun r37=>(Option.bind (x_ U ((at' p0 p1).1) r31 r37) fun r40=>(some (r40))))))else(Option.bind (rc p0 (wI .i64 (p1+(1:Int))) p2 p3) fun r43=>(Option.bind (oF U p0 p1 (1:Int)) fun r46=>(Option.bind (rc p0 r46 p2 p3) fun r49=>(Option.bind (oF U p0 p1 (2:Int)) fun r52=>(Option.bind (rc p0 r52 p2 p3) fun r55=>(if r43≠(2:Int)then(Ah r49 (true))else(Ah r49 (decide (r49≠r55)))))))))))))
def gR:Nat->cS->Int->cU->Bool->Option (Int)
 |0,_,_,_,_=>none
 |U+1,p0,p1,p2,p3=>kW (gR U) U p0 p1 p2 p3
theorem AO:bO Tryz.prog 112:=Tryz.call112
theorem Is (rc:cS->Int->cU->Bool->Option (Int)) (U:Nat) (hrc:∀{p0:cS} {p1:Int} {p2:cU} {p3:Bool} (v0:Value)  (v1:Value) (r:Int),rc p0 p1 p2 p3=some r->bQ Tryz.prog 112 #[v0,vI (p1),v1,vB (p3)] [Sl bF v0 p0,Sl gS v1 p2] (fun x:Unit=>vI (r)) (fun x l=>l) (fun _ l=>l)) {p0:cS} {p1:Int} {p2:cU} {p3:Bool} (v0:Value)  (v1:Value) (r:Int) (h:kW rc U p0 p1 p2 p3=some r):
  bQ Tryz.prog 112 #[v0,vI (p1),v1,vB (p3)] [Sl bF v0 p0,Sl gS v1 p2] (fun x:Unit=>vI (r)) (fun x l=>l) (fun _ l=>l):=by
 refine bQ.of Tryz.func112 rfl Tryz.ntmps112 rfl fun c=>?_
 refine aZ<|aK rfl<|aU<|aZ<|aE rfl<|aE rfl<|fJ h fun j1 h=>aJ (a_ rfl rfl (dN rfl) rfl rfl j1) rfl<|aJ (cW rfl rfl rfl rfl rfl) rfl<|aJ (fN rfl (dN rfl) rfl rfl rfl pA j1) rfl<|aK rfl<|aU<|aP<|aZ<|aE rfl<|fO h fun r2 w3 h=>aT (aW.callQ Kc (Ap U  r2 w3) rfl .nil) rfl fun x4=>aU<|aY<|aZ<|dQ rfl<|aK rfl<|aU ?_
 refine gT h rfl (fun h=>?_) fun h=>?_
 ·refine aZ<|aE rfl<|aE rfl<|fJ h fun j6 h=>aJ (a_ rfl rfl (dN rfl) rfl rfl j6) rfl<|aJ (gI (cs:=[vI ((at' p0 p1).1),vI ((at' p0 p1).2)]) rfl (dN rfl) cO rfl rfl rfl rfl j6) rfl<|aE rfl<|aE rfl<|fO h fun r7 w8 h=>aT (aW.callQ SY (KJ U v1 r7 w8) rfl (gO [1] rfl)) rfl fun x9=>aK rfl<|aU<|bE<|cG<|aR ?_
  cases h
  exact kF rfl
 refine aZ<|dQ rfl<|aK rfl<|aU ?_
 refine gT h rfl (fun h=>?_) fun h=>?_
 ·refine aP<|dD (fun a12=>vR  a12=some r) (fun a12 b13=>[(8,vI (a12))]) (fun a12 b13=>[]) ?_ ?_
  ·refine aS<|aE rfl<|aE rfl<|aE rfl<|dM rfl<|aE rfl<|aE rfl<|aE rfl ?_
   refine fY (by exact rfl) (by exact rfl) (fun hp14=>?_) (fun hp14=>?_)
   ·have h:=BK hp14 h
    refine aI rfl<|aI rfl<|cE rfl<|fO h fun r15 w16 h=>aT (aW.callQ AO (hrc v0 v1 r15 w16) rfl (gO [0,1] rfl)) rfl fun x17=>fO h fun r18 w19 h=>aT (aW.callQ NS (DR U  r18 w19) rfl .nil) rfl fun x20=>aK rfl<|aU ?_
    exact cZ (r18) () h SF rfl
   have h:=sM hp14 h
   refine cP rfl<|fO h fun r21 w22 h=>eX rfl (aW.callQ QJ (BB U  r21 w22) rfl .nil) rfl fun x23=>cI rfl<|fO h fun r24 w25 h=>aT (aW.callQ AO (hrc v0 v1 r24 w25) rfl (gO [0,1] rfl)) rfl fun x26=>fO h fun r27 w28 h=>aT (aW.callQ NS (DR U  r27 w28) rfl .nil) rfl fun x29=>aK rfl<|aU ?_
   exact cZ (r27) () h SF rfl
  intro a12 b13 h
  unfold vR at h
  refine bE<|cG<|aR ?_
  cases h
  exact kF rfl
 refine aZ<|dQ rfl<|aK rfl<|aU ?_
 refine gT h rfl (fun h=>?_) fun h=>?_
 ·refine aZ<|aE rfl<|aE rfl<|aE rfl<|dM rfl<|aE rfl<|aE rfl<|fO h fun r31 w32 h=>aT (aW.callQ AO (hrc v0 v1 r31 w32) rfl (gO [0,1] rfl)) rfl fun x33=>aE rfl<|aE rfl<|aE rfl<|fO h fun r34 w35 h=>aT (aW.callQ JW (AL U v0 r34 w35) rfl (gO [0] rfl)) rfl fun x36=>aE rfl<|aE rfl<|fO h fun r37 w38 h=>aT (aW.callQ AO (hrc v0 v1 r37 w38) rfl (gO [0,1] rfl)) rfl fun x39=>fO h fun r40 w41 h=>aT (aW.callQ SZ (Iq U  r40 w41) rfl .nil) rfl fun x42=>aK rfl<|aU<|bE<|cG<|aR ?_
  cases h
  exact kF rfl
 refine eJ<|lP<|aZ<|aE rfl<|aE rfl<|dM rfl<|aE rfl<|aE rfl<|fO h fun r43 w44 h=>aT (aW.callQ AO (hrc v0 v1 r43 w44) rfl (gO [0,1] rfl)) rfl fun x45=>aE rfl<|aE rfl<|aE rfl<|fO h fun r46 w47 h=>aT (aW.callQ JW (AL U v0 r46 w47) rfl (gO [0] rfl)) rfl fun x48=>aE rfl<|aE rfl<|fO h fun r49 w50 h=>aT (aW.callQ AO (hrc v0 v1 r49 w50) rfl (gO [0,1] rfl)) rfl fun x51=>aE rfl<|aE rfl<|aE rfl<|fO h fun r52 w53 h=>aT (aW.callQ JW (AL U v0 r52 w53) rfl (gO [0] rfl)) rfl fun x54=>aE rfl<|aE rfl<|fO h fun r55 w56 h=>aT (aW.callQ AO (hrc v0 v1 r55 w56) rfl (gO [0,1] rfl)) rfl fun x57=>aK rfl<|aK rfl<|aK rfl<|aU<|aP<|aP<|dD (fun a59=>Ah r49 a59=some r) (fun a59 b60=>[(11,vI (r49)),(86,vB (a59))]) (fun a59 b60=>[]) ?_ ?_
 ·refine aS<|aE rfl<|Cf rfl<|aE rfl ?_
  refine oD h rfl (fun _ h=>?_) fun _ h=>?_
  ·refine aI rfl<|aI rfl<|aI rfl<|cE rfl<|aU ?_
   exact cZ (true) () h SF rfl
  refine cP rfl<|cP rfl<|aL rfl (CW rfl rfl) rfl<|cI rfl<|aU ?_
  exact cZ (decide (r49≠r55)) () h SF rfl
 intro a59 b60 h
 refine gP h rfl (fun _ h=>?_) fun _ h=>?_
 ·refine aZ<|aK rfl<|aU<|bE<|aR ?_
  cases h
  exact kF rfl
 refine cC<|aZ<|aE rfl<|aK rfl<|aU<|bE ?_
 cases h
 exact kF rfl
theorem FW (U:Nat):∀{p0:cS} {p1:Int} {p2:cU} {p3:Bool} (v0:Value)  (v1:Value) (r:Int),gR U p0 p1 p2 p3=some r->
  bQ Tryz.prog 112 #[v0,vI (p1),v1,vB (p3)] [Sl bF v0 p0,Sl gS v1 p2] (fun x:Unit=>vI (r)) (fun x l=>l) (fun _ l=>l):=by
 induction U with
 |zero=>intros;rename_i h;cases h
 |succ U ih=>exact fun v0 v1 r h=>Is (gR U) U ih v0 v1 r h
end
end Go.Proofs.YthnplbmmlbnelaaGreat
end
section
namespace Go.Proofs.YthnplbmmlbnelaaGreat
open Go Go.Sx
def Lu (ks:cU) (t:TM):Int:=if t.1=2∨t.1=3∨t.1=10∨t.1=15 then 2 else if t.1=4∨t.1=11∨t.1=17 then 3 else if t.1=5∨t.1=12 then at' ks t.2 else 1
def PE (o a:Int):Int:=if o=19∨o=20∨o=21 then(if a=2 then 2 else 0)else if o=22 then(if a=2 then 1 else 0)else if o=23 then(if a=2 then 3 else 0)else if a=1 then 1 else 0
def Pb (o a b:Int):Int:=if o=35∨o=36 then(if a=b∧a≠0 then 2 else 0)else if o=41∨o=42 then(if a=2∧b=2 then 2 else 0)else if a=1∧b=1 then(if 37<=o∧o<=40 then 2 else 1)else 0
def R_ (c a b:Int):Int:=if c=2∧a=b then a else 0
def X.ty (ks:cU):Bool->X->Int
 |b,lf t=>if b=false∧11<=t.1 then 0 else Lu ks t
 |b,un t x=>PE t.1 (x.ty ks (b||agg t.1))
 |b,bi t x y=>Pb t.1 (x.ty ks b) (y.ty ks b)
 |b,tr t x y z=>R_ (x.ty ks b) (y.ty ks b) (z.ty ks b)
theorem Qp {o:Int} (h:CX o=some 0):1<=o∧o<=17:=by
 unfold CX at h
 split at h
 ·cases h
 ·split at h
  ·omega
  ·split at h
   ·cases h
   ·split at h<;>cases h
theorem Ud {o:Int} (h:CX o=some 1):18<=o∧o<=29:=by
 unfold CX at h
 split at h
 ·cases h
 ·split at h
  ·cases h
  ·split at h
   ·omega
   ·split at h<;>cases h
theorem Ue {o:Int} (h:CX o=some 2):30<=o∧o<=42:=by
 unfold CX at h
 split at h
 ·cases h
 ·split at h
  ·cases h
  ·split at h
   ·cases h
   ·split at h
    ·omega
    ·cases h
theorem Wy {o:Int} (h:CX o=some 3):o=43:=by
 unfold CX at h
 split at h
 ·cases h
 ·split at h
  ·cases h
  ·split at h
   ·cases h
   ·split at h
    ·cases h
    ·omega
theorem Xt (F:Nat) {o:Int} (h:CX o=some 1) (a:Int):lL F o (a,0,0)=some (PE o a):=by
 have:=Ud h
 have:o=18∨o=19∨o=20∨o=21∨o=22∨o=23∨o=24∨o=25∨o=26∨o=27∨o=28∨o=29:=by omega
 rcases this with rfl|rfl|rfl|rfl|rfl|rfl|rfl|rfl|rfl|rfl|rfl|rfl<;>simp[lL,gU,lX,eL,PE]<;>split<;>rfl
theorem Xu (F:Nat) {o:Int} (h:CX o=some 2) (a b:Int):lL F o (a,b,0)=some (Pb o a b):=by
 have:=Ue h
 have:o=30∨o=31∨o=32∨o=33∨o=34∨o=35∨o=36∨o=37∨o=38∨o=39∨o=40∨o=41∨o=42:=by omega
 rcases this with rfl|rfl|rfl|rfl|rfl|rfl|rfl|rfl|rfl|rfl|rfl|rfl|rfl<;>simp[lL,gU,lX,kE,rX,rY,rZ,lY,r_,sA,qP,eL,Pb]<;>repeat' split<;>simp_all
theorem Xv (F:Nat) (a b c:Int):lL F 43 (a,b,c)=some (R_ a b c):=by
 simp[lL,gU,lX,kE,rY,lY,sA,qQ,eL,R_]
 repeat' split
 all_goals simp_all
theorem Xc (F:Nat) {o:Int} (h:CX o=some 1) (a:Int):tI F o a=some (PE o a):=by
 have:=Ud h
 have:o=18∨o=19∨o=20∨o=21∨o=22∨o=23∨o=24∨o=25∨o=26∨o=27∨o=28∨o=29:=by omega
 rcases this with rfl|rfl|rfl|rfl|rfl|rfl|rfl|rfl|rfl|rfl|rfl|rfl<;>simp[tI,oI,rR,PE]<;>split<;>rfl
theorem YD (F:Nat) {o:Int} (h:CX o=some 2) (a b:Int):x_ F o a b=some (Pb o a b):=by
 have:=Ue h
 have:o=30∨o=31∨o=32∨o=33∨o=34∨o=35∨o=36∨o=37∨o=38∨o=39∨o=40∨o=41∨o=42:=by omega
 rcases this with rfl|rfl|rfl|rfl|rfl|rfl|rfl|rfl|rfl|rfl|rfl|rfl|rfl<;>simp[x_,wU,wV,wW,wX,wY,wZ,Pb]<;>repeat' split<;>simp_all
theorem Ea {vars:Int} {t:TM} (h:AF vars t=true) (h5:t.1=5∨t.1=12):0<=t.2∧t.2<vars:=by
 unfold AF at h
 rw[if_neg (by omega),if_pos h5]at h
 simpa using h
theorem Xl (F:Nat) {T:List TM} {ks:cU} {t:TM} (h:CX t.1=some 0) (hA:AF ks.length t=true):oM F (T,ks) t=some (Lu ks t):=by
 have:=Qp h
 obtain⟨o,a⟩:=t
 simp only at this h
 have hix:=fun h5=>Ea hA h5
 simp only at hix
 have:o=1∨o=2∨o=3∨o=4∨o=5∨o=6∨o=7∨o=8∨o=9∨o=10∨o=11∨o=12∨o=13∨o=14∨o=15∨o=16∨o=17:=by omega
 rcases this with rfl|rfl|rfl|rfl|rfl|rfl|rfl|rfl|rfl|rfl|rfl|rfl|rfl|rfl|rfl|rfl|rfl<;>simp[oM,iH,kG,nP,Lu]<;>exact eP (hix (by decide)) _
theorem Uj (F:Nat) {ks:cU} {t:TM} (h:CX t.1=some 0) (hA:AF ks.length t=true) (b:Bool):yB F t ks b=some (if b=false∧11<=t.1 then 0 else Lu ks t):=by
 have:=Qp h
 obtain⟨o,a⟩:=t
 simp only at this h
 have hix:=fun h5=>Ea hA h5
 simp only at hix
 have:o=1∨o=2∨o=3∨o=4∨o=5∨o=6∨o=7∨o=8∨o=9∨o=10∨o=11∨o=12∨o=13∨o=14∨o=15∨o=16∨o=17:=by omega
 cases b<;>rcases this with rfl|rfl|rfl|rfl|rfl|rfl|rfl|rfl|rfl|rfl|rfl|rfl|rfl|rfl|rfl|rfl|rfl<;>simp[yB,vT,sG,vV,Ai,Lu]<;>exact eP (hix (by decide)) _
theorem Xn (F:Nat) {o:Int} (h:CX o=some 0):By F o=some (decide (11<=o)):=by
 have:=Qp h
 unfold By yV
 by_cases h1:11<=o
 ·rw[if_pos h1];simp[h1];omega
 ·rw[if_neg h1];simp[h1]
section
variable {f:Nat} {q:List TM×List Int} {p n n' r a b d t:Int} {c:Bool} {rc:(List TM×List Int)->Int->Bool->Option (Int×Int)} {ag:(Int×Int×Int×Int×Int)->Option (Int×Int)}
theorem VQ (h:rc q n c=some (t,n')) (hr:0<r):cQ f q p rc c r (n,0,a,b,d) ag=ag (n',1,t,b,d):=by
 unfold cQ gC
 dsimp only
 rw[if_pos hr,bU h,eP (by decide),if_pos rfl,wr (by decide) (by decide)];rfl
theorem Xd (h:rc q n c=some (t,n')) (hr:1<r):cQ f q p rc c r (n,1,a,b,d) ag=ag (n',2,a,t,d):=by
 unfold cQ gC
 dsimp only
 rw[if_pos hr,bU h,eP (by decide),if_neg (by decide),if_pos rfl,wr (by decide) (by decide)];rfl
theorem YJ (h:rc q n c=some (t,n')) (hr:2<r):cQ f q p rc c r (n,2,a,b,d) ag=ag (n',3,a,b,t):=by
 unfold cQ gC
 dsimp only
 rw[if_pos hr,bU h,eP (by decide),if_neg (by decide),if_neg (by decide),wr (by decide) (by decide)];rfl
theorem VS {j:Int} (hr:¬j<r):cQ f q p rc c r (n,j,a,b,d) ag=iI f q p (n,a,b,d):=by
 unfold cQ
 dsimp only
 rw[if_neg hr]
end
theorem Im (ks:List Int) {T:List TM} (hl:T.length<=900):∀(x:X),x.ok->(∀t∈x.ts,AF ks.length t=true)->∀(pre post:List TM) (b:Bool) (fuel:Nat),T=pre++(x.ts++post)->x.depth+5<=fuel->
  dW fuel (T,ks) ((pre.length:Nat):Int) b=some (x.ty ks b,((pre.length+x.ts.length:Nat):Int))
 | .lf t, hx, hA, pre, post, b, fuel, hT, hf => by
  obtain⟨f,rfl⟩:∃f,fuel=f+1:=⟨fuel - 1,by omega⟩
  have hlt:pre.length<T.length:=by rw[hT];simp[X.ts]
  have hat:at' T ((pre.length:Nat):Int)=t:=by rw[hT];exact gJ pre post t _ rfl
  have ht:=Xl f (T:=T) (ks:=ks) hx (hA t (by simp[X.ts]))
  show fD (dW f) f (T,ks) _ b=_
  unfold fD nQ
  dsimp only
  have w:wI .i64 (((pre.length:Nat):Int)+1)=((pre.length+1:Nat):Int):=by rw[wr (by omega) (by omega)];omega
  rw[eP (by omega),hat,bU (KG f t.1),jT hx,if_pos (by omega),bU (Xn f hx),w]
  simp only[X.ty,X.ts,List.length_cons,List.length_nil]
  by_cases h11:11<=t.1
  ·rw[if_pos (by simpa using h11)]
   cases b with
   |false=>rw[if_pos (by decide),if_pos ⟨rfl,h11⟩]
   |true=>rw[if_neg (by decide),bU ht,if_neg (by simp)]
  ·rw[if_neg (by simpa using h11),if_neg (by decide),bU ht,if_neg (by omega)]
 | .un t x, hx, hA, pre, post, b, fuel, hT, hf => by
  simp only[X.depth]at hf
  obtain⟨f,rfl⟩:∃f,fuel=f+1:=⟨fuel - 1,by omega⟩
  have hlen:=congrArg List.length hT
  simp only[X.ts,List.length_append,List.length_cons]at hlen
  have hat:at' T ((pre.length:Nat):Int)=t:=by rw[hT];exact gJ pre (x.ts++post) t _ rfl
  have ih:=fun b=>Im ks hl x hx.2 (fun t ht=>hA t (by simp[X.ts,ht])) (pre++[t]) post b f (by rw[hT];simp[X.ts]) (by omega)
  show fD (dW f) f (T,ks) _ b=_
  generalize hrc:dW f=rc at ih ⊢
  unfold fD
  dsimp only
  rw[eP (by omega),hat,bU (KG f t.1),jT hx.1,if_neg (by omega)]
  have key:∀c:Bool,fH f (T,ks) ((pre.length:Nat):Int) rc c=some (PE t.1 (x.ty ks c),((pre.length+(x.ts.length+1):Nat):Int)):=by
   intro c
   unfold fH
   dsimp only
   rw[hat,bU (KG f t.1),jT hx.1,wr (by omega) (by omega)]
   obtain⟨f,rfl⟩:∃q,f=q+1+1:=⟨f - 2,by omega⟩
   have i1:=ih c
   rw[show(((pre++[t]).length:Nat):Int)=((pre.length:Nat):Int)+1 by simp]at i1
   show cQ _ _ _ _ _ _ _ (bZ _ _)=_
   rw[VQ i1 (by decide)]
   show cQ _ _ _ _ _ _ _ _=_
   rw[VS (by decide)]
   unfold iI
   dsimp only
   rw[hat,bU (Xt _ hx.1 _)]
   congr 2;simp;omega
  cases b with
  |true=>rw[if_pos rfl,key];simp[X.ty,X.ts]
  |false=>rw[if_neg (by decide),bU (TJ f t.1),key];simp[X.ty,X.ts]
 | .bi t x y, hx, hA, pre, post, b, fuel, hT, hf => by
  simp only[X.depth]at hf
  obtain⟨f,rfl⟩:∃f,fuel=f+1:=⟨fuel - 1,by omega⟩
  have hlen:=congrArg List.length hT
  simp only[X.ts,List.length_append,List.length_cons]at hlen
  have hat:at' T ((pre.length:Nat):Int)=t:=by rw[hT];exact gJ pre (x.ts++y.ts++post) t _ rfl
  have i1:=Im ks hl x hx.2.1 (fun t ht=>hA t (by simp[X.ts,ht])) (pre++[t]) (y.ts++post) b f (by rw[hT];simp[X.ts]) (by omega)
  have i2:=Im ks hl y hx.2.2 (fun t ht=>hA t (by simp[X.ts,ht])) (pre++t::x.ts) post b f (by rw[hT];simp[X.ts]) (by omega)
  show fD (dW f) f (T,ks) _ b=_
  generalize hrc:dW f=rc at i1 i2 ⊢
  unfold fD
  dsimp only
  rw[eP (by omega),hat,bU (KG f t.1),jT hx.1,if_neg (by omega)]
  have key:fH f (T,ks) ((pre.length:Nat):Int) rc b=some (Pb t.1 (x.ty ks b) (y.ty ks b),((pre.length+(x.ts.length+y.ts.length+1):Nat):Int)):=by
   unfold fH
   dsimp only
   rw[hat,bU (KG f t.1),jT hx.1,wr (by omega) (by omega)]
   obtain⟨f,rfl⟩:∃q,f=q+1+1+1:=⟨f - 3,by omega⟩
   rw[show(((pre++[t]).length:Nat):Int)=((pre.length:Nat):Int)+1 by simp]at i1
   rw[show(((pre++t::x.ts).length:Nat):Int)=(((pre++[t]).length+x.ts.length:Nat):Int) by simp;omega]at i2
   show cQ _ _ _ _ _ _ _ (bZ _ _)=_
   rw[VQ i1 (by decide)]
   show cQ _ _ _ _ _ _ _ (bZ _ _)=_
   rw[Xd i2 (by decide)]
   show cQ _ _ _ _ _ _ _ _=_
   rw[VS (by decide)]
   unfold iI
   dsimp only
   rw[hat,bU (Xu _ hx.1 _ _)]
   congr 2;simp;omega
  have hb:=Bu hx.1 (by decide)
  cases b with
  |true=>rw[if_pos rfl,key];simp[X.ty,X.ts]
  |false=>rw[if_neg (by decide),bU (TJ f t.1),hb,key];simp[X.ty,X.ts]
 | .tr t x y z, hx, hA, pre, post, b, fuel, hT, hf => by
  simp only[X.depth]at hf
  obtain⟨f,rfl⟩:∃f,fuel=f+1:=⟨fuel - 1,by omega⟩
  have hlen:=congrArg List.length hT
  simp only[X.ts,List.length_append,List.length_cons]at hlen
  have hat:at' T ((pre.length:Nat):Int)=t:=by rw[hT];exact gJ pre (x.ts++(y.ts++z.ts)++post) t _ rfl
  have i1:=Im ks hl x hx.2.1 (fun t ht=>hA t (by simp[X.ts,ht])) (pre++[t]) (y.ts++z.ts++post) b f (by rw[hT];simp[X.ts]) (by omega)
  have i2:=Im ks hl y hx.2.2.1 (fun t ht=>hA t (by simp[X.ts,ht])) (pre++t::x.ts) (z.ts++post) b f (by rw[hT];simp[X.ts]) (by omega)
  have i3:=Im ks hl z hx.2.2.2 (fun t ht=>hA t (by simp[X.ts,ht])) (pre++t::(x.ts++y.ts)) post b f (by rw[hT];simp[X.ts]) (by omega)
  show fD (dW f) f (T,ks) _ b=_
  generalize hrc:dW f=rc at i1 i2 i3 ⊢
  unfold fD
  dsimp only
  rw[eP (by omega),hat,bU (KG f t.1),jT hx.1,if_neg (by omega)]
  have key:fH f (T,ks) ((pre.length:Nat):Int) rc b=some (R_ (x.ty ks b) (y.ty ks b) (z.ty ks b),((pre.length+(x.ts.length+(y.ts.length+z.ts.length)+1):Nat):Int)):=by
   unfold fH
   dsimp only
   rw[hat,bU (KG f t.1),jT hx.1,wr (by omega) (by omega)]
   obtain⟨f,rfl⟩:∃q,f=q+1+1+1+1:=⟨f - 4,by omega⟩
   rw[show(((pre++[t]).length:Nat):Int)=((pre.length:Nat):Int)+1 by simp]at i1
   rw[show(((pre++t::x.ts).length:Nat):Int)=(((pre++[t]).length+x.ts.length:Nat):Int) by simp;omega]at i2
   rw[show(((pre++t::(x.ts++y.ts)).length:Nat):Int)=(((pre++t::x.ts).length+y.ts.length:Nat):Int) by simp;omega]at i3
   show cQ _ _ _ _ _ _ _ (bZ _ _)=_
   rw[VQ i1 (by decide)]
   show cQ _ _ _ _ _ _ _ (bZ _ _)=_
   rw[Xd i2 (by decide)]
   show cQ _ _ _ _ _ _ _ (bZ _ _)=_
   rw[YJ i3 (by decide)]
   show cQ _ _ _ _ _ _ _ _=_
   rw[VS (by decide)]
   unfold iI
   dsimp only
   rw[hat,Wy hx.1,bU (Xv _ _ _ _)]
   congr 2;simp;omega
  have hb:=Bu hx.1 (by decide)
  cases b with
  |true=>rw[if_pos rfl,key];simp[X.ty,X.ts]
  |false=>rw[if_neg (by decide),bU (TJ f t.1),hb,key];simp[X.ty,X.ts]
end Go.Proofs.YthnplbmmlbnelaaGreat
end
section
namespace Go.Proofs.YthnplbmmlbnelaaGreat
open Go.Sx
section
def uA  (a6:Unit):Option (Bool):=
 some (true)
def qR (U:Nat) (p0:qZ) (p1:cU) (a10:Int) (ag9:(Int)->Option (Bool)):Option (Bool):=
 if a10<(List.length p0.2.2:Int)then(ck (0<=a10∧a10<(List.length p0.2.2:Int)) (Option.bind (zM U ((at' p0.2.2 a10).2) p1 false) fun r18=>(ck (0<=((at' p0.2.2 a10).1)∧((at' p0.2.2 a10).1)<(List.length p1:Int)) (if r18.1≠(at' p1 ((at' p0.2.2 a10).1))then(some (false))else(ag9 (wI .i64 (a10+(1:Int))))))))else(uA  (()))
def z_ (U:Nat) (p0:qZ) (p1:cU):Option (Bool):=
 Option.bind (zM U p0.2.1 p1 false) fun r2=>(if r2.1≠(2:Int)then(some (false))else(bZ (qR U p0 p1) U (0:Int)))
theorem UZ:bO Tryz.prog 77:=Tryz.call77
theorem IX (U:Nat) {p0:qZ} {p1:cU} (v0:Value)  (v1:Value)  (v2:Value) (r:Bool) (h:z_ U p0 p1=some r):
  bQ Tryz.prog 77 #[Value.agg #[vS (p0.1),v0,v1],v2] [Sl bF v0 p0.2.1,Sl aX v1 p0.2.2,Sl gS v2 p1] (fun x:Unit=>vB (r)) (fun x l=>l) (fun _ l=>l):=by
 refine bQ.of Tryz.func77 rfl Tryz.ntmps77 rfl fun c=>?_
 refine aZ<|aT (aW.box (cs:=[vS (p0.1),v0,v1]) rfl rfl) rfl fun b1=>aK rfl<|aU<|aP<|aZ<|bP rfl<|dC 0 rfl<|aE rfl<|fO h fun r2 w3 h=>aT (aW.callQ NO (Iv U v0 v2 r2 w3) rfl (gO [0,2] rfl)) rfl fun x4=>aE rfl<|mM rfl<|mM rfl<|aK rfl<|aK rfl<|aU<|aZ<|aE rfl<|Cf rfl<|aU ?_
 refine gT h rfl (fun h=>?_) fun h=>?_
 ·refine aZ<|aK rfl<|aU<|bE<|aR ?_
  cases h
  exact yR rfl
 refine cC<|aP<|dD (fun a6=>uA  a6=some r) (fun a6 b7=>[]) (fun a6 b7=>[]) ?_ ?_
 ·refine aZ<|bP rfl<|dC 0 rfl<|eC (fP rfl) rfl<|aE rfl<|aU<|aY<|fW (qR U p0 p1) (fun a10 b11=>[(1,v2),(21,v1),(22,vI (List.length p0.2.2:Int)),(23,vI (a10))]) (fun a10 b11=>[]) (0:Int) () h SF .nil ?_
  intro k12 a10 b11 h
  refine aZ<|dL rfl<|aU<|aP ?_
  refine gT h rfl (fun h=>?_) fun h=>?_
  ·refine cC<|aP<|aY<|aZ<|fJ h fun j14 h=>aJ (a_ rfl rfl (fP rfl) rfl rfl j14) rfl<|mS (v:=v1) (ds:=p0.2.2) bK (fP rfl) fun us15=>?_
   refine cJ (bD ((bT (f:=bW) (fP rfl) j14.1 (by first|exact j14.2|simpa using j14.2)):aM _ _ (Sl bF (at' us15 a10) ((at' p0.2.2 a10).2)))) ?_
   refine aJ (dY (cs:=[vI ((at' p0.2.2 a10).1),at' us15 a10]) rfl (fP rfl) rfl rfl rfl rfl ⟨j14.1,by first|exact j14.2|simpa using j14.2⟩) rfl<|aT (aW.alloc (cs:=[vI (0:Int),fX]) rfl rfl) rfl fun b16=>bY (Know.one ((dN rfl))) fun ho17=>bL 0 (vs:=[vI ((at' p0.2.2 a10).1),at' us15 a10]) rfl rfl (cR rfl (cR ho17 rfl)) rfl rfl rfl<|aU<|aZ<|bP rfl<|dC 0 rfl<|aE rfl<|fO h fun r18 w19 h=>aT (aW.callQ NO (Iv U (at' us15 a10) v2 r18 w19) rfl (gO [0,5] rfl)) rfl fun x20=>aE rfl<|mM rfl<|mM rfl<|aK rfl<|aK rfl<|aU<|aZ<|aE rfl<|aE rfl<|bP rfl<|dC 0 rfl<|fJ h fun j21 h=>aJ (a_ rfl rfl (bV 5 rfl) rfl rfl j21) rfl<|aJ (iN rfl (bV 5 rfl) rfl rfl rfl mT j21) rfl<|Cf rfl<|aU ?_
   refine gT h rfl (fun h=>?_) fun h=>?_
   ·refine aZ<|aK rfl<|aU<|bE<|cG<|aR<|aR<|cG<|aR ?_
    cases h
    exact yR rfl
   refine eJ<|lP<|aS<|dM rfl<|aE rfl<|aU ?_
   exact dZ (wI .i64 (a10+(1:Int))) () h SF .nil (gO [3,4,5] rfl)
  refine eQ ?_
  exact cZ () (()) h SF rfl
 intro a6 b7 h
 unfold uA at h
 refine aZ<|aK rfl<|aU<|bE ?_
 cases h
 exact kF rfl
end
section
def tS  (a6:Unit):Option (Bool):=
 some (true)
def qH (U:Nat) (p0:qZ) (p1:cU) (a10:Int) (ag9:(Int)->Option (Bool)):Option (Bool):=
 if a10<(List.length p0.2.2:Int)then(ck (0<=a10∧a10<(List.length p0.2.2:Int)) (Option.bind (gR U ((at' p0.2.2 a10).2) (0:Int) p1 false) fun r16=>(ck (0<=a10∧a10<(List.length p0.2.2:Int)) (ck (0<=((at' p0.2.2 a10).1)∧((at' p0.2.2 a10).1)<(List.length p1:Int)) (if r16≠(at' p1 ((at' p0.2.2 a10).1))then(some (false))else(ag9 (wI .i64 (a10+(1:Int)))))))))else(tS  (()))
def zW (U:Nat) (p0:qZ) (p1:cU):Option (Bool):=
 Option.bind (gR U p0.2.1 (0:Int) p1 false) fun r2=>(if r2≠(2:Int)then(some (false))else(bZ (qH U p0 p1) U (0:Int)))
theorem Vd:bO Tryz.prog 82:=Tryz.call82
theorem IS (U:Nat) {p0:qZ} {p1:cU} (v0:Value)  (v1:Value)  (v2:Value) (r:Bool) (h:zW U p0 p1=some r):
  bQ Tryz.prog 82 #[Value.agg #[vS (p0.1),v0,v1],v2] [Sl bF v0 p0.2.1,Sl aX v1 p0.2.2,Sl gS v2 p1] (fun x:Unit=>vB (r)) (fun x l=>l) (fun _ l=>l):=by
 refine bQ.of Tryz.func82 rfl Tryz.ntmps82 rfl fun c=>?_
 refine aZ<|aT (aW.box (cs:=[vS (p0.1),v0,v1]) rfl rfl) rfl fun b1=>aK rfl<|aU<|aP<|aZ<|bP rfl<|dC 0 rfl<|aE rfl<|fO h fun r2 w3 h=>aT (aW.callQ AO (FW U v0 v2 r2 w3) rfl (gO [0,2] rfl)) rfl fun x4=>Cf rfl<|aU ?_
 refine gT h rfl (fun h=>?_) fun h=>?_
 ·refine aZ<|aK rfl<|aU<|bE<|aR ?_
  cases h
  exact yR rfl
 refine cC<|aP<|dD (fun a6=>tS  a6=some r) (fun a6 b7=>[]) (fun a6 b7=>[]) ?_ ?_
 ·refine aZ<|aK rfl<|aU<|aY<|fW (qH U p0 p1) (fun a10 b11=>[(1,v2),(2,vP b1),(5,vI (a10))]) (fun a10 b11=>[bJ b1 [vS (p0.1),v0,v1] 42]) (0:Int) () h SF (bH.refl _) ?_
  intro k12 a10 b11 h
  refine aP<|aZ<|aE rfl<|bP rfl<|dC 0 rfl<|eC (fP rfl) rfl<|dL rfl<|aU ?_
  refine gT h rfl (fun h=>?_) fun h=>?_
  ·refine cC<|aP<|aY<|aP ?_
   refine CC [0,1,0,7,15,31,0,127,0,0,512,0,3584,7680,15872,32512,65280,131071] 17 mixedOrders ?_
   refine eD rfl<|gM 0 rfl<|dG rfl<|fJ h fun j14 h=>dK rfl .nil (jY 1 rfl) (a_ rfl rfl (dN rfl) rfl rfl j14) bG.z<|zE rfl (cW rfl rfl rfl rfl rfl)<|oJ (v:=v1) (ds:=p0.2.2) bK (fP rfl) fun us15=>?_
   refine JR.stp (bD ((bT (f:=bW) (fP rfl) j14.1 (by first|exact j14.2|simpa using j14.2)):aM _ _ (Sl bF (at' us15 a10) ((at' p0.2.2 a10).2)))) ?_
   refine dK rfl .nil (jY 1 rfl) (wD (gv:=fun x=>x) rfl (dN rfl) rfl rfl rfl nZ ⟨j14.1,by first|exact j14.2|simpa using j14.2⟩) bG.z<|dG rfl<|fO h fun r16 w17 h=>JR.loud rfl rfl rfl (aW.callQ AO (FW U (at' us15 a10) v2 r16 w17) rfl (gO [0,5] rfl)) rfl (fun x18=>(pH [] rfl)) fun x18=>zE rfl (xF rfl)<|zE rfl (cF rfl rfl rfl rfl rfl)<|dK rfl (bH.cons 0 rfl .nil) .nil (cT 0 rfl rfl rfl rfl rfl) (bG.h (bH.ix [0] rfl rfl) .nil bG.z)<|zE rfl (xF rfl)<|fJ h fun j19 h=>dK rfl .nil (jY 4 rfl) (a_ rfl rfl (dN rfl) rfl rfl j19) (bG.h .nil (jY 4 rfl) bG.z)<|zE rfl (cW rfl rfl rfl rfl rfl)<|dK rfl .nil (jY 4 rfl) (fN rfl (dN rfl) rfl rfl rfl kA j19) (bG.h .nil (jY 4 rfl) bG.z)<|fJ h fun j20 h=>dK rfl .nil (jY 5 rfl) (a_ rfl rfl (dN rfl) rfl rfl j20) (bG.h .nil (jY 5 rfl) bG.z)<|dK rfl .nil (jY 5 rfl) (iN rfl (dN rfl) rfl rfl rfl mT j20) (bG.h .nil (jY 5 rfl) bG.z)<|cX 17 rfl rfl<|Cf rfl<|aU ?_
   refine gT h rfl (fun h=>?_) fun h=>?_
   ·refine aZ<|aK rfl<|aU<|bE<|cG<|aR<|aR<|cG<|aR ?_
    cases h
    exact yR rfl
   refine eJ<|lP<|aS<|aE rfl<|dM rfl<|aK rfl<|aU ?_
   exact dZ (wI .i64 (a10+(1:Int))) () h SF (bH.refl _) (gO [3,4,5] rfl)
  refine eQ ?_
  exact cK () (()) h SF .nil (aV.refl _ _)
 intro a6 b7 h
 unfold tS at h
 refine aZ<|aK rfl<|aU<|bE ?_
 cases h
 exact kF rfl
end
section
def qE  (a2:Bool):Option (Bool):=
 some (a2)
def zU (U:Nat) (p0:Int):Option (Bool):=
 if p0=(1:Int)then(qE  (true))else(if p0=(2:Int)then(qE  (true))else(qE  (decide (p0=(3:Int)))))
theorem SO:bO Tryz.prog 111:=Tryz.call111
theorem IQ (U:Nat) {p0:Int} (r:Bool) (h:zU U p0=some r):
  bQ Tryz.prog 111 #[vI (p0)] [] (fun x:Unit=>vB (r)) (fun x l=>l) (fun _ l=>l):=by
 refine bQ.of Tryz.func111 rfl Tryz.ntmps111 rfl fun c=>?_
 refine aZ<|aK rfl<|aU<|aP<|dD (fun a2=>qE  a2=some r) (fun a2 b3=>[(2,vB (a2))]) (fun a2 b3=>[]) ?_ ?_
 ·refine aS<|aE rfl<|dQ rfl<|aE rfl ?_
  refine oD h rfl (fun _ h=>?_) fun _ h=>?_
  ·refine aI rfl<|aI rfl<|cE rfl<|aE rfl<|aI rfl<|aI rfl<|cE rfl<|aK rfl<|aU ?_
   exact cZ (true) () h SF rfl
  refine cP rfl<|aL rfl (mU rfl rfl) rfl<|cI rfl<|aE rfl ?_
  refine oD h rfl (fun _ h=>?_) fun _ h=>?_
  ·refine aI rfl<|aI rfl<|cE rfl<|aK rfl<|aU ?_
   exact cZ (true) () h SF rfl
  refine cP rfl<|aL rfl (mU rfl rfl) rfl<|cI rfl<|aK rfl<|aU ?_
  exact cZ (decide (p0=(3:Int))) () h SF rfl
 intro a2 b3 h
 unfold qE at h
 refine bE ?_
 cases h
 exact kF rfl
end
end Go.Proofs.YthnplbmmlbnelaaGreat
end
section
namespace Go.Proofs.YthnplbmmlbnelaaGreat
open Go Go.Sx
theorem VM (F:Nat) {T pre post:List TM} {t:TM} {w:X} {a k:Nat} (hw:w.ok) (hT:T=pre++(w.ts++post)) (hat:at' T ((pre.length:Nat):Int)=t) (hl:T.length<=400) (hF:450<=F) (ha:CX t.1=some a) (hk:k<a) {e1 e2:Nat} (h1:1<=k->Db T (pre.length+1)=(e1:Int)) (h2:2<=k->Db T e1=(e2:Int)) (he1:e1<=900) (he2:e2<=900):
  oF F T ((pre.length:Nat):Int) (k:Int)=some (if k=0 then((pre.length+1:Nat):Int)else if k=1 then(e1:Int)else(e2:Int)):=by
 have hk3:=Gf ha
 have hp:=w.pos
 have hlen:=congrArg List.length hT
 simp only[List.length_append]at hlen
 unfold oF qA
 rw[bU (VH F T pre.length (by omega) (by omega)),Fv hw hT rfl,if_neg (by omega),if_neg (by omega),eP (by omega),hat,bU (Nn F t.1),jT ha,if_neg (by simp;omega),wr (by omega) (by omega)]
 obtain⟨F,rfl⟩:∃q,F=q+1+1+1:=⟨F - 3,by omega⟩
 have e0:((pre.length:Nat):Int)+1=((pre.length+1:Nat):Int):=by omega
 rw[e0]
 have st:∀(p:Nat) (j:Int) (ag:gY->Option Int) (q:Int),Db T p=q->j<(k:Int)->0<=j->iB (F+1+1+1) T (k:Int) (((p:Nat):Int),j) ag=ag (q,j+1):=by
  intro p j ag q hq hj h0
  unfold iB
  dsimp only
  rw[if_pos hj,bU (VH _ T p (by omega) (by omega)),hq,wr (by omega) (by omega)]
 have en:∀(p j:Int) (ag:gY->Option Int),¬j<(k:Int)->iB (F+1+1+1) T (k:Int) (p,j) ag=some p:=by
  intro p j ag hj
  unfold iB uP
  dsimp only
  rw[if_neg hj]
 show iB _ T _ _ (bZ _ (F+1+1))=_
 by_cases k0:k=0
 ·subst k0;rw[en _ _ _ (by decide),if_pos rfl]
 ·rw[if_neg k0,st _ _ _ _ (h1 (by omega)) (by omega) (by omega)]
  show iB _ T _ _ (bZ _ (F+1))=_
  by_cases k1:k=1
  ·subst k1;rw[en _ _ _ (by decide),if_pos rfl]
  ·rw[if_neg k1,st _ _ _ _ (h2 (by omega)) (by omega) (by omega)]
   have k2:k=2:=by omega
   subst k2
   show iB _ T _ _ _=_
   rw[en _ _ _ (by decide)]
theorem Ih (ks:cU) {T:List TM} (hl:T.length<=400):∀(x:X),x.ok->(∀t∈x.ts,AF ks.length t=true)->∀(pre post:List TM) (b:Bool) (fuel:Nat),T=pre++(x.ts++post)->x.depth+500<=fuel->
  gR fuel T ((pre.length:Nat):Int) ks b=some (x.ty ks b)
 | .lf t,hx,hA,pre,post,b,fuel,hT,hf=>by
  obtain⟨f,rfl⟩:∃f,fuel=f+1:=⟨fuel - 1,by omega⟩
  have hlt:pre.length<T.length:=by rw[hT];simp[X.ts]
  have hat:at' T ((pre.length:Nat):Int)=t:=by rw[hT];exact gJ pre post t _ rfl
  show kW (gR f) f T _ ks b=_
  unfold kW
  rw[eP (by omega),hat,bU (Nn f t.1),jT hx,if_pos (by decide),eP (by omega),bU (Uj f (t:=t) hx (hA t (by simp[X.ts])) b)]
  rfl
 | .un t x,hx,hA,pre,post,b,fuel,hT,hf=>by
  simp only[X.depth]at hf
  obtain⟨f,rfl⟩:∃f,fuel=f+1:=⟨fuel - 1,by omega⟩
  have hlen:=congrArg List.length hT
  simp only[X.ts,List.length_append,List.length_cons]at hlen
  have hat:at' T ((pre.length:Nat):Int)=t:=by rw[hT];exact gJ pre (x.ts++post) t _ rfl
  have ih:=fun b=>Ih ks hl x hx.2 (fun t ht=>hA t (by simp[X.ts,ht])) (pre++[t]) post b f (by rw[hT];simp[X.ts]) (by omega)
  have e1:wI .i64 (((pre.length:Nat):Int)+1)=(((pre++[t]).length:Nat):Int):=by rw[wr (by omega) (by omega)];simp
  show kW (gR f) f T _ ks b=_
  generalize gR f=rc at ih ⊢
  unfold kW vR
  rw[eP (by omega),hat,bU (Nn f t.1),jT hx.1,if_neg (by decide),if_pos (by decide),e1]
  cases b with
  |true=>rw[if_pos rfl,bU (ih true),bU (Xc f hx.1 _)];simp[X.ty]
  |false=>rw[if_neg (by decide),bU (WU f t.1),bU (ih _),bU (Xc f hx.1 _)];simp[X.ty]
 | .bi t x y, hx, hA, pre, post, b, fuel, hT, hf => by
  simp only[X.depth]at hf
  obtain⟨f,rfl⟩:∃f,fuel=f+1:=⟨fuel - 1,by omega⟩
  have hlen:=congrArg List.length hT
  simp only[X.ts,List.length_append,List.length_cons]at hlen
  have hat:at' T ((pre.length:Nat):Int)=t:=by rw[hT];exact gJ pre (x.ts++y.ts++post) t _ rfl
  have i1:=Ih ks hl x hx.2.1 (fun t ht=>hA t (by simp[X.ts,ht])) (pre++[t]) (y.ts++post) b f (by rw[hT];simp[X.ts]) (by omega)
  have i2:=Ih ks hl y hx.2.2 (fun t ht=>hA t (by simp[X.ts,ht])) (pre++t::x.ts) post b f (by rw[hT];simp[X.ts]) (by omega)
  have e1:wI .i64 (((pre.length:Nat):Int)+1)=(((pre++[t]).length:Nat):Int):=by rw[wr (by omega) (by omega)];simp
  have s1:Db T (pre.length+1)=(((pre++t::x.ts).length:Nat):Int):=by
   rw[Fv (x:=x) (pre:=pre++[t]) (post:=y.ts++post) hx.2.1 (by rw[hT];simp[X.ts]) (by simp)];simp;omega
  have o1:=VM f (w:= .bi t x y) (k:=1) (e1:=(pre++t::x.ts).length) (e2:=0) hx hT hat hl (by omega) hx.1 (by decide) (fun _=>s1) (fun h=>by omega) (by simp;omega) (by omega)
  rw[if_neg (by decide),if_pos rfl]at o1
  show kW (gR f) f T _ ks b=_
  generalize gR f=rc at i1 i2 ⊢
  unfold kW
  rw[eP (by omega),hat,bU (Nn f t.1),jT hx.1,if_neg (by decide),if_neg (by decide),if_pos (by decide),e1,bU i1,show(1:Int)=((1:Nat):Int)from rfl,bU o1,bU i2,bU (YD f hx.1 _ _)]
  rfl
 | .tr t x y z, hx, hA, pre, post, b, fuel, hT, hf => by
  simp only[X.depth]at hf
  obtain⟨f,rfl⟩:∃f,fuel=f+1:=⟨fuel - 1,by omega⟩
  have hlen:=congrArg List.length hT
  simp only[X.ts,List.length_append,List.length_cons]at hlen
  have hat:at' T ((pre.length:Nat):Int)=t:=by rw[hT];exact gJ pre (x.ts++(y.ts++z.ts)++post) t _ rfl
  have i1:=Ih ks hl x hx.2.1 (fun t ht=>hA t (by simp[X.ts,ht])) (pre++[t]) (y.ts++z.ts++post) b f (by rw[hT];simp[X.ts]) (by omega)
  have i2:=Ih ks hl y hx.2.2.1 (fun t ht=>hA t (by simp[X.ts,ht])) (pre++t::x.ts) (z.ts++post) b f (by rw[hT];simp[X.ts]) (by omega)
  have i3:=Ih ks hl z hx.2.2.2 (fun t ht=>hA t (by simp[X.ts,ht])) (pre++t::(x.ts++y.ts)) post b f (by rw[hT];simp[X.ts]) (by omega)
  have e1:wI .i64 (((pre.length:Nat):Int)+1)=(((pre++[t]).length:Nat):Int):=by rw[wr (by omega) (by omega)];simp
  have s1:Db T (pre.length+1)=(((pre++t::x.ts).length:Nat):Int):=by
   rw[Fv (x:=x) (pre:=pre++[t]) (post:=y.ts++z.ts++post) hx.2.1 (by rw[hT];simp[X.ts]) (by simp)];simp;omega
  have s2:Db T (pre++t::x.ts).length=(((pre++t::(x.ts++y.ts)).length:Nat):Int):=by
   rw[Fv (x:=y) (pre:=pre++t::x.ts) (post:=z.ts++post) hx.2.2.1 (by rw[hT];simp[X.ts]) rfl];simp;omega
  have o1:=VM f (w:= .tr t x y z) (k:=1) (e1:=(pre++t::x.ts).length) (e2:=0) hx hT hat hl (by omega) hx.1 (by decide) (fun _=>s1) (fun h=>by omega) (by simp;omega) (by omega)
  have o2:=VM f (w:= .tr t x y z) (k:=2) (e1:=(pre++t::x.ts).length) (e2:=(pre++t::(x.ts++y.ts)).length) hx hT hat hl (by omega) hx.1 (by decide) (fun _=>s1) (fun _=>s2) (by simp;omega) (by simp;omega)
  rw[if_neg (by decide),if_pos rfl]at o1
  rw[if_neg (by decide),if_neg (by decide)]at o2
  show kW (gR f) f T _ ks b=_
  generalize gR f=rc at i1 i2 i3 ⊢
  unfold kW Ah
  rw[eP (by omega),hat,bU (Nn f t.1),jT hx.1,if_neg (by decide),if_neg (by decide),if_neg (by decide),e1,bU i1,show(1:Int)=((1:Nat):Int)from rfl,bU o1,bU i2,show(2:Int)=((2:Nat):Int)from rfl,bU o2,bU i3]
  simp only[X.ty,R_]
  by_cases h1:x.ty ks b=2
  ·rw[if_neg (by simpa using h1)]
   by_cases h2:y.ty ks b=z.ty ks b
   ·rw[if_neg (by simpa using h2),if_pos ⟨h1,h2⟩]
   ·rw[if_pos (by simpa using h2),if_neg (fun h=>h2 h.2)]
  ·rw[if_pos (by simpa using h1),if_pos trivial,if_neg (fun h=>h1 h.1)]
def Nc (k:Int):Bool:=decide (k=1∨k=2∨k=3)
theorem Xr (F:Nat) (k:Int):pZ F k=some (Nc k):=by
 unfold pZ lT Nc
 by_cases h1:k=1
 ·simp[h1]
 ·by_cases h2:k=2
  ·simp[h2]
  ·simp[h1,h2]
theorem VJ (F:Nat) (k:Int):zU F k=some (Nc k):=by
 unfold zU qE Nc
 by_cases h1:k=1
 ·simp[h1]
 ·by_cases h2:k=2
  ·simp[h2]
  ·simp[h1,h2]
theorem TN (F:Nat) (e:List TM) (ks:cU) (b:Bool):∀(l pre:cU) (fuel:Nat),ks=pre++l->ks.length<=900->(∀k∈l,Nc k=true)->l.length<fuel->bZ (mN F e ks b) fuel ((pre.length:Nat):Int)=BG F e ks b ():=by
 intro l
 induction l with
 |nil=>
  intro pre fuel h hl hk hf
  obtain⟨f,rfl⟩:∃f,fuel=f+1:=⟨fuel - 1,by omega⟩
  show mN F e ks b _ _=_
  unfold mN
  rw[if_neg (by rw[h];simp)]
 |cons k l ih=>
  intro pre fuel h hl hk hf
  simp only[List.length_cons]at hf
  obtain⟨f,rfl⟩:∃f,fuel=f+1:=⟨fuel - 1,by omega⟩
  have hlt:pre.length<ks.length:=by rw[h];simp
  have ih':=ih (pre++[k]) f (by rw[h];simp) hl (fun k hk'=>hk k (by simp[hk'])) (by omega)
  show mN F e ks b _ (bZ (mN F e ks b) f)=_
  generalize bZ (mN F e ks b) f=ag at ih' ⊢
  unfold mN
  rw[if_pos (by omega),eP (by omega),show at' ks ((pre.length:Nat):Int)=k by rw[h];exact gJ pre l k _ rfl,bU (Xr F k),hk k (by simp),if_neg (by decide),wr (by omega) (by omega),show(((pre.length:Nat):Int)+1)=(((pre++[k]).length:Nat):Int) by simp,ih']
theorem tOf (F:Nat) {e:List TM} {x:X} {ks:cU} (h:XV ks.length e x) (hk:∀k∈ks,Nc k=true) (h6:ks.length<=6) (b:Bool) (hF:1000<=F):zM F e ks b=some (x.ty ks b,if x.ty ks b=0 then 6 else 0):=by
 have hx:=h
 obtain⟨h200,hok,hT,hd,hn,hA⟩:=hx
 unfold zM
 have hrun:bZ (mN F e ks b) F (0:Int)=_:=TN F e ks b ks [] F rfl (by omega) hk (by omega)
 rw[if_neg (by omega),hrun]
 unfold BG
 obtain⟨v,hv,_,hiff⟩:=E_ F e ks.length (by omega) hF
 have hv1:=hiff.2 ⟨x,h⟩
 subst hv1
 have hr:dW F (e,ks) (0:Int) b=some (x.ty ks b,_):=Im ks (T:=e) (by omega) x hok (by rw[<-hT];exact hA) [] [] b F (by simp[hT]) (by omega)
 rw[bU hv,if_neg (by decide),bU hr]
 dsimp only
 by_cases h0:x.ty ks b=0
 ·rw[if_pos h0,if_pos h0,h0]
 ·rw[if_neg h0,if_neg h0]
theorem rKd (F:Nat) {e:List TM} {x:X} {ks:cU} (h:XV ks.length e x) (b:Bool) (hF:1000<=F):gR F e 0 ks b=some (x.ty ks b):=by
 obtain⟨h200,hok,hT,hd,hn,hA⟩:=h
 exact Ih ks (T:=e) (by omega) x hok (by rw[<-hT];exact hA) [] [] b F (by simp[hT]) (by omega)
end Go.Proofs.YthnplbmmlbnelaaGreat
end
section
namespace Go.Proofs.YthnplbmmlbnelaaGreat
open Go.Sx
section
def kC  (a2:Bool):Option (Bool):=
 some (a2)
def tF (U:Nat) (p0:Int):Option (Bool):=
 if(97:Int)<=p0 then(if p0<=(122:Int)then(kC  (true))else(if(65:Int)<=p0 then(kC  (decide (p0<=(90:Int))))else(kC  (false))))else(if(65:Int)<=p0 then(kC  (decide (p0<=(90:Int))))else(kC  (false)))
theorem NP:bO Tryz.prog 116:=Tryz.call116
theorem DI (U:Nat) {p0:Int} (r:Bool) (h:tF U p0=some r):
  bQ Tryz.prog 116 #[Value.int .u8 (p0)] [] (fun x:Unit=>vB (r)) (fun x l=>l) (fun _ l=>l):=by
 refine bQ.of Tryz.func116 rfl Tryz.ntmps116 rfl fun c=>?_
 refine aZ<|aK rfl<|aU<|aP<|dD (fun a2=>kC  a2=some r) (fun a2 b3=>[(2,vB (a2))]) (fun a2 b3=>[]) ?_ ?_
 ·refine aS<|aE rfl<|aJ (jM rfl rfl) rfl<|aE rfl ?_
  refine oD h rfl (fun _ h=>?_) fun _ h=>?_
  ·refine cP rfl<|aL rfl (sO rfl rfl) rfl<|cE rfl<|aE rfl ?_
   refine oD h rfl (fun _ h=>?_) fun _ h=>?_
   ·refine aI rfl<|aI rfl<|aI rfl<|Ek (h:= ?_)
    refine Ek (h:= ?_)
    refine aI rfl<|cE rfl<|aK rfl<|aU ?_
    exact cZ (true) () h SF rfl
   refine cP rfl<|aL rfl (jM rfl rfl) rfl<|cP rfl ?_
   refine oD h rfl (fun _ h=>?_) fun _ h=>?_
   ·refine cP rfl<|aL rfl (sO rfl rfl) rfl<|aL rfl (Cu rfl rfl) rfl<|cI rfl<|aK rfl<|aU ?_
    exact cZ (decide (p0<=(90:Int))) () h SF rfl
   refine aI rfl<|aI rfl<|aL rfl (Ct rfl rfl) rfl<|cI rfl<|aK rfl<|aU ?_
   exact cZ (false) () h SF rfl
  refine aI rfl<|aI rfl<|cI rfl<|aE rfl<|cP rfl<|aL rfl (jM rfl rfl) rfl<|cP rfl ?_
  refine oD h rfl (fun _ h=>?_) fun _ h=>?_
  ·refine cP rfl<|aL rfl (sO rfl rfl) rfl<|aL rfl (Cu rfl rfl) rfl<|cI rfl<|aK rfl<|aU ?_
   exact cZ (decide (p0<=(90:Int))) () h SF rfl
  refine aI rfl<|aI rfl<|aL rfl (Ct rfl rfl) rfl<|cI rfl<|aK rfl<|aU ?_
  exact cZ (false) () h SF rfl
 intro a2 b3 h
 unfold kC at h
 refine bE ?_
 cases h
 exact kF rfl
end
section
def tD  (a2:Bool):Option (Bool):=
 some (a2)
def zQ (U:Nat) (p0:Int):Option (Bool):=
 if(48:Int)<=p0 then(tD  (decide (p0<=(57:Int))))else(tD  (false))
theorem SS:bO Tryz.prog 118:=Tryz.call118
theorem IK (U:Nat) {p0:Int} (r:Bool) (h:zQ U p0=some r):
  bQ Tryz.prog 118 #[Value.int .u8 (p0)] [] (fun x:Unit=>vB (r)) (fun x l=>l) (fun _ l=>l):=by
 refine bQ.of Tryz.func118 rfl Tryz.ntmps118 rfl fun c=>?_
 refine aZ<|aK rfl<|aU<|aP<|dD (fun a2=>tD  a2=some r) (fun a2 b3=>[(2,vB (a2))]) (fun a2 b3=>[]) ?_ ?_
 ·refine aS<|aE rfl<|aJ (jM rfl rfl) rfl<|aE rfl ?_
  refine oD h rfl (fun _ h=>?_) fun _ h=>?_
  ·refine cP rfl<|aL rfl (sO rfl rfl) rfl<|cE rfl<|aK rfl<|aU ?_
   exact cZ (decide (p0<=(57:Int))) () h SF rfl
  refine aI rfl<|aI rfl<|cI rfl<|aK rfl<|aU ?_
  exact cZ (false) () h SF rfl
 intro a2 b3 h
 unfold tD at h
 refine bE ?_
 cases h
 exact kF rfl
end
section
def oE  (a2:Bool):Option (Bool):=
 some (a2)
def xY (U:Nat) (p0:Int):Option (Bool):=
 Option.bind (tF U p0) fun r4=>(if r4=true then(oE  (true))else(Option.bind (zQ U p0) fun r8=>(if r8=true then(oE  (true))else(oE  (decide (p0=(95:Int)))))))
theorem SR:bO Tryz.prog 117:=Tryz.call117
theorem Ip (U:Nat) {p0:Int} (r:Bool) (h:xY U p0=some r):
  bQ Tryz.prog 117 #[Value.int .u8 (p0)] [] (fun x:Unit=>vB (r)) (fun x l=>l) (fun _ l=>l):=by
 refine bQ.of Tryz.func117 rfl Tryz.ntmps117 rfl fun c=>?_
 refine aZ<|aK rfl<|aU<|aP<|dD (fun a2=>oE  a2=some r) (fun a2 b3=>[(2,vB (a2))]) (fun a2 b3=>[]) ?_ ?_
 ·refine aS<|aE rfl<|fO h fun r4 w5 h=>aT (aW.callQ NP (DI U  r4 w5) rfl .nil) rfl fun x6=>aE rfl ?_
  refine fY (by exact rfl) (by exact rfl) (fun hp7=>?_) (fun hp7=>?_)
  ·have h:=BK hp7 h
   refine aI rfl<|aI rfl<|cE rfl<|aE rfl<|aI rfl<|aI rfl<|cE rfl<|aK rfl<|aU ?_
   exact cZ (true) () h SF rfl
  have h:=sM hp7 h
  refine cP rfl<|fO h fun r8 w9 h=>eX rfl (aW.callQ SS (IK U  r8 w9) rfl .nil) rfl fun x10=>cI rfl<|aE rfl ?_
  refine fY (by exact rfl) (by exact rfl) (fun hp11=>?_) (fun hp11=>?_)
  ·have h:=BK hp11 h
   refine aI rfl<|aI rfl<|cE rfl<|aK rfl<|aU ?_
   exact cZ (true) () h SF rfl
  have h:=sM hp11 h
  refine cP rfl<|aL rfl (mU rfl rfl) rfl<|cI rfl<|aK rfl<|aU ?_
  exact cZ (decide (p0=(95:Int))) () h SF rfl
 intro a2 b3 h
 unfold oE at h
 refine bE ?_
 cases h
 exact kF rfl
end
section
def fF  (a10:Bool):Option (Bool):=
 if a10=true then(some (true))else(some (false))
def fT (p0:ByteArray) (a6:Bool):Option (Bool):=
 if a6=true then(some (true))else(if(eR p0 (ByteArray.mk #[97,108,108]))=true then(fF  ((eR p0 (ByteArray.mk #[97,108,108]))))else(if(eR p0 (ByteArray.mk #[115,111,109,101]))=true then(fF  ((eR p0 (ByteArray.mk #[115,111,109,101]))))else(if(eR p0 (ByteArray.mk #[99,111,117,110,116]))=true then(fF  ((eR p0 (ByteArray.mk #[99,111,117,110,116]))))else(if(eR p0 (ByteArray.mk #[102,105,114,115,116]))=true then(fF  ((eR p0 (ByteArray.mk #[102,105,114,115,116]))))else(if(eR p0 (ByteArray.mk #[109,105,110]))=true then(fF  ((eR p0 (ByteArray.mk #[109,105,110]))))else(if(eR p0 (ByteArray.mk #[109,97,120]))=true then(fF  ((eR p0 (ByteArray.mk #[109,97,120]))))else(if(eR p0 (ByteArray.mk #[115,117,109]))=true then(fF  ((eR p0 (ByteArray.mk #[115,117,109]))))else(if(eR p0 (ByteArray.mk #[109,101,120]))=true then(fF  ((eR p0 (ByteArray.mk #[109,101,120]))))else(if(eR p0 (ByteArray.mk #[115,101,99,111,110,100]))=true then(fF  ((eR p0 (ByteArray.mk #[115,101,99,111,110,100]))))else(fF  ((eR p0 (ByteArray.mk #[104,101,97,100])))))))))))))
def fS (p0:ByteArray) (a2:Bool):Option (Bool):=
 if a2=true then(some (true))else(if(eR p0 (ByteArray.mk #[110]))=true then(fT p0 ((eR p0 (ByteArray.mk #[110]))))else(if(eR p0 (ByteArray.mk #[105,100,115]))=true then(fT p0 ((eR p0 (ByteArray.mk #[105,100,115]))))else(if(eR p0 (ByteArray.mk #[105,100]))=true then(fT p0 ((eR p0 (ByteArray.mk #[105,100]))))else(if(eR p0 (ByteArray.mk #[100,101,103]))=true then(fT p0 ((eR p0 (ByteArray.mk #[100,101,103]))))else(if(eR p0 (ByteArray.mk #[114,111,111,116]))=true then(fT p0 ((eR p0 (ByteArray.mk #[114,111,111,116]))))else(if(eR p0 (ByteArray.mk #[113]))=true then(fT p0 ((eR p0 (ByteArray.mk #[113]))))else(if(eR p0 (ByteArray.mk #[119,101,105,103,104,116]))=true then(fT p0 ((eR p0 (ByteArray.mk #[119,101,105,103,104,116]))))else(fT p0 ((eR p0 (ByteArray.mk #[98,97,99,107])))))))))))
def uH (U:Nat) (p0:ByteArray):Option (Bool):=
 if(eR p0 (ByteArray.mk #[112,114,111,103,114,97,109]))=true then(fS p0 ((eR p0 (ByteArray.mk #[112,114,111,103,114,97,109]))))else(if(eR p0 (ByteArray.mk #[118,97,114]))=true then(fS p0 ((eR p0 (ByteArray.mk #[118,97,114]))))else(if(eR p0 (ByteArray.mk #[114,117,108,101]))=true then(fS p0 ((eR p0 (ByteArray.mk #[114,117,108,101]))))else(if(eR p0 (ByteArray.mk #[98,111,111,108]))=true then(fS p0 ((eR p0 (ByteArray.mk #[98,111,111,108]))))else(if(eR p0 (ByteArray.mk #[112,111,114,116]))=true then(fS p0 ((eR p0 (ByteArray.mk #[112,111,114,116]))))else(if(eR p0 (ByteArray.mk #[116,114,117,101]))=true then(fS p0 ((eR p0 (ByteArray.mk #[116,114,117,101]))))else(if(eR p0 (ByteArray.mk #[102,97,108,115,101]))=true then(fS p0 ((eR p0 (ByteArray.mk #[102,97,108,115,101]))))else(fS p0 ((eR p0 (ByteArray.mk #[110,111,110,101]))))))))))
theorem SU:bO Tryz.prog 129:=Tryz.call129
theorem Gz (U:Nat) {p0:ByteArray} (r:Bool) (h:uH U p0=some r):
  bQ Tryz.prog 129 #[vS (p0)] [] (fun x:Unit=>vB (r)) (fun x l=>l) (fun _ l=>l):=by
 refine bQ.of Tryz.func129 rfl Tryz.ntmps129 rfl fun c=>?_
 refine aZ<|aK rfl<|aU<|aP<|aZ<|aE rfl<|aU<|aY<|aP<|dD (fun a2=>fS p0 a2=some r) (fun a2 b3=>[(3,vS (p0)),(4,vB (a2))]) (fun a2 b3=>[]) ?_ ?_
 ·refine aZ<|aJ (eF rfl rfl) rfl<|aK rfl<|aU ?_
  refine gP h rfl (fun _ h=>?_) fun _ h=>?_
  ·refine cC ?_
   exact cZ ((eR p0 (ByteArray.mk #[112,114,111,103,114,97,109]))) () h SF rfl
  refine aZ<|aJ (eF rfl rfl) rfl<|aK rfl<|aU ?_
  refine gP h rfl (fun _ h=>?_) fun _ h=>?_
  ·refine cC ?_
   exact cZ ((eR p0 (ByteArray.mk #[118,97,114]))) () h SF rfl
  refine aZ<|aJ (eF rfl rfl) rfl<|aK rfl<|aU ?_
  refine gP h rfl (fun _ h=>?_) fun _ h=>?_
  ·refine cC ?_
   exact cZ ((eR p0 (ByteArray.mk #[114,117,108,101]))) () h SF rfl
  refine aZ<|aJ (eF rfl rfl) rfl<|aK rfl<|aU ?_
  refine gP h rfl (fun _ h=>?_) fun _ h=>?_
  ·refine cC ?_
   exact cZ ((eR p0 (ByteArray.mk #[98,111,111,108]))) () h SF rfl
  refine aZ<|aJ (eF rfl rfl) rfl<|aK rfl<|aU ?_
  refine gP h rfl (fun _ h=>?_) fun _ h=>?_
  ·refine cC ?_
   exact cZ ((eR p0 (ByteArray.mk #[112,111,114,116]))) () h SF rfl
  refine aZ<|aJ (eF rfl rfl) rfl<|aK rfl<|aU ?_
  refine gP h rfl (fun _ h=>?_) fun _ h=>?_
  ·refine cC ?_
   exact cZ ((eR p0 (ByteArray.mk #[116,114,117,101]))) () h SF rfl
  refine aZ<|aJ (eF rfl rfl) rfl<|aK rfl<|aU ?_
  refine gP h rfl (fun _ h=>?_) fun _ h=>?_
  ·refine cC ?_
   exact cZ ((eR p0 (ByteArray.mk #[102,97,108,115,101]))) () h SF rfl
  refine aS<|aJ (eF rfl rfl) rfl<|aK rfl<|aU ?_
  exact cZ ((eR p0 (ByteArray.mk #[110,111,110,101]))) () h SF rfl
 intro a2 b3 h
 refine gP h rfl (fun _ h=>?_) fun _ h=>?_
 ·refine aZ<|aK rfl<|aU<|bE<|cG<|aR ?_
  cases h
  exact kF rfl
 refine aP<|dD (fun a6=>fT p0 a6=some r) (fun a6 b7=>[(3,vS (p0)),(13,vB (a6))]) (fun a6 b7=>[]) ?_ ?_
 ·refine aZ<|aJ (eF rfl rfl) rfl<|aK rfl<|aU ?_
  refine gP h rfl (fun _ h=>?_) fun _ h=>?_
  ·refine cC ?_
   exact cZ ((eR p0 (ByteArray.mk #[110]))) () h SF rfl
  refine aZ<|aJ (eF rfl rfl) rfl<|aK rfl<|aU ?_
  refine gP h rfl (fun _ h=>?_) fun _ h=>?_
  ·refine cC ?_
   exact cZ ((eR p0 (ByteArray.mk #[105,100,115]))) () h SF rfl
  refine aZ<|aJ (eF rfl rfl) rfl<|aK rfl<|aU ?_
  refine gP h rfl (fun _ h=>?_) fun _ h=>?_
  ·refine cC ?_
   exact cZ ((eR p0 (ByteArray.mk #[105,100]))) () h SF rfl
  refine aZ<|aJ (eF rfl rfl) rfl<|aK rfl<|aU ?_
  refine gP h rfl (fun _ h=>?_) fun _ h=>?_
  ·refine cC ?_
   exact cZ ((eR p0 (ByteArray.mk #[100,101,103]))) () h SF rfl
  refine aZ<|aJ (eF rfl rfl) rfl<|aK rfl<|aU ?_
  refine gP h rfl (fun _ h=>?_) fun _ h=>?_
  ·refine cC ?_
   exact cZ ((eR p0 (ByteArray.mk #[114,111,111,116]))) () h SF rfl
  refine aZ<|aJ (eF rfl rfl) rfl<|aK rfl<|aU ?_
  refine gP h rfl (fun _ h=>?_) fun _ h=>?_
  ·refine cC ?_
   exact cZ ((eR p0 (ByteArray.mk #[113]))) () h SF rfl
  refine aZ<|aJ (eF rfl rfl) rfl<|aK rfl<|aU ?_
  refine gP h rfl (fun _ h=>?_) fun _ h=>?_
  ·refine cC ?_
   exact cZ ((eR p0 (ByteArray.mk #[119,101,105,103,104,116]))) () h SF rfl
  refine aS<|aJ (eF rfl rfl) rfl<|aK rfl<|aU ?_
  exact cZ ((eR p0 (ByteArray.mk #[98,97,99,107]))) () h SF rfl
 intro a6 b7 h
 refine gP h rfl (fun _ h=>?_) fun _ h=>?_
 ·refine aZ<|aK rfl<|aU<|bE<|cG<|aR ?_
  cases h
  exact kF rfl
 refine aP<|dD (fun a10=>fF  a10=some r) (fun a10 b11=>[(22,vB (a10))]) (fun a10 b11=>[]) ?_ ?_
 ·refine aZ<|aJ (eF rfl rfl) rfl<|aK rfl<|aU ?_
  refine gP h rfl (fun _ h=>?_) fun _ h=>?_
  ·refine cC ?_
   exact cZ ((eR p0 (ByteArray.mk #[97,108,108]))) () h SF rfl
  refine aZ<|aJ (eF rfl rfl) rfl<|aK rfl<|aU ?_
  refine gP h rfl (fun _ h=>?_) fun _ h=>?_
  ·refine cC ?_
   exact cZ ((eR p0 (ByteArray.mk #[115,111,109,101]))) () h SF rfl
  refine aZ<|aJ (eF rfl rfl) rfl<|aK rfl<|aU ?_
  refine gP h rfl (fun _ h=>?_) fun _ h=>?_
  ·refine cC ?_
   exact cZ ((eR p0 (ByteArray.mk #[99,111,117,110,116]))) () h SF rfl
  refine aZ<|aJ (eF rfl rfl) rfl<|aK rfl<|aU ?_
  refine gP h rfl (fun _ h=>?_) fun _ h=>?_
  ·refine cC ?_
   exact cZ ((eR p0 (ByteArray.mk #[102,105,114,115,116]))) () h SF rfl
  refine aZ<|aJ (eF rfl rfl) rfl<|aK rfl<|aU ?_
  refine gP h rfl (fun _ h=>?_) fun _ h=>?_
  ·refine cC ?_
   exact cZ ((eR p0 (ByteArray.mk #[109,105,110]))) () h SF rfl
  refine aZ<|aJ (eF rfl rfl) rfl<|aK rfl<|aU ?_
  refine gP h rfl (fun _ h=>?_) fun _ h=>?_
  ·refine cC ?_
   exact cZ ((eR p0 (ByteArray.mk #[109,97,120]))) () h SF rfl
  refine aZ<|aJ (eF rfl rfl) rfl<|aK rfl<|aU ?_
  refine gP h rfl (fun _ h=>?_) fun _ h=>?_
  ·refine cC ?_
   exact cZ ((eR p0 (ByteArray.mk #[115,117,109]))) () h SF rfl
  refine aZ<|aJ (eF rfl rfl) rfl<|aK rfl<|aU ?_
  refine gP h rfl (fun _ h=>?_) fun _ h=>?_
  ·refine cC ?_
   exact cZ ((eR p0 (ByteArray.mk #[109,101,120]))) () h SF rfl
  refine aZ<|aJ (eF rfl rfl) rfl<|aK rfl<|aU ?_
  refine gP h rfl (fun _ h=>?_) fun _ h=>?_
  ·refine cC ?_
   exact cZ ((eR p0 (ByteArray.mk #[115,101,99,111,110,100]))) () h SF rfl
  refine aS<|aJ (eF rfl rfl) rfl<|aK rfl<|aU ?_
  exact cZ ((eR p0 (ByteArray.mk #[104,101,97,100]))) () h SF rfl
 intro a10 b11 h
 refine gP h rfl (fun _ h=>?_) fun _ h=>?_
 ·refine aZ<|aK rfl<|aU<|bE<|cG<|aR ?_
  cases h
  exact kF rfl
 refine eJ<|lP<|aZ<|aK rfl<|aU<|bE ?_
 cases h
 exact kF rfl
end
section
def zO (U:Nat) (p0:ByteArray) (a5:Unit):Option (Bool):=
 Option.bind (uH U p0) fun r7=>(some ((!r7)))
def vE (U:Nat) (p0:ByteArray) (a12:Int) (ag11:(Int)->Option (Bool)):Option (Bool):=
 if a12<((ByteArray.size p0:Nat):Int)then(ck (0<=a12∧a12<((ByteArray.size p0:Nat):Int)) (Option.bind (xY U (IJ p0 a12)) fun r17=>(if(!r17)=true then(some (false))else(ag11 (wI .i64 (a12+(1:Int)))))))else(zO U p0 (()))
def vD (U:Nat) (p0:ByteArray) (a2:Bool):Option (Bool):=
 if a2=true then(some (false))else(bZ (vE U p0) U (0:Int))
def uG (U:Nat) (p0:ByteArray):Option (Bool):=
 if((ByteArray.size p0:Nat):Int)<(1:Int)then(vD U p0 (true))else(if(24:Int)<((ByteArray.size p0:Nat):Int)then(vD U p0 (true))else(ck (0<=(0:Int)∧(0:Int)<((ByteArray.size p0:Nat):Int)) (Option.bind (tF U (IJ p0 (0:Int))) fun r24=>(vD U p0 ((!r24))))))
theorem JU:bO Tryz.prog 106:=Tryz.call106
theorem CO (U:Nat) {p0:ByteArray} (r:Bool) (h:uG U p0=some r):
  bQ Tryz.prog 106 #[vS (p0)] [] (fun x:Unit=>vB (r)) (fun x l=>l) (fun _ l=>l):=by
 refine bQ.of Tryz.func106 rfl Tryz.ntmps106 rfl fun c=>?_
 refine aZ<|aK rfl<|aU<|aP<|aP<|dD (fun a2=>vD U p0 a2=some r) (fun a2 b3=>[(0,vS (p0)),(17,vB (a2))]) (fun a2 b3=>[]) ?_ ?_
 ·refine aS<|aE rfl<|aJ (uZ rfl rfl) rfl<|dL rfl<|aE rfl ?_
  refine oD h rfl (fun _ h=>?_) fun _ h=>?_
  ·refine aI rfl<|aI rfl<|aI rfl<|cE rfl<|aE rfl<|aI rfl<|aI rfl<|aI rfl<|aI rfl<|cE rfl<|aU ?_
   exact cZ (true) () h SF rfl
  refine cP rfl<|aL rfl (uZ rfl rfl) rfl<|aL rfl (kT rfl rfl) rfl<|cI rfl<|aE rfl ?_
  refine oD h rfl (fun _ h=>?_) fun _ h=>?_
  ·refine aI rfl<|aI rfl<|aI rfl<|aI rfl<|cE rfl<|aU ?_
   exact cZ (true) () h SF rfl
  refine cP rfl<|fJ h fun j23 h=>aL rfl (Hi rfl rfl rfl j23) rfl<|fO h fun r24 w25 h=>eX rfl (aW.callQ NP (DI U  r24 w25) rfl .nil) rfl fun x26=>aL rfl (fR rfl) rfl<|cI rfl<|aU ?_
  exact cZ ((!r24)) () h SF rfl
 intro a2 b3 h
 refine gP h rfl (fun _ h=>?_) fun _ h=>?_
 ·refine aZ<|aK rfl<|aU<|bE<|aR ?_
  cases h
  exact kF rfl
 refine cC<|aP<|dD (fun a5=>zO U p0 a5=some r) (fun a5 b6=>[(0,vS (p0))]) (fun a5 b6=>[]) ?_ ?_
 ·refine aZ<|aE rfl<|aJ (uZ rfl rfl) rfl<|aE rfl<|aU<|aY<|fW (vE U p0) (fun a12 b13=>[(0,vS (p0)),(19,vI ((ByteArray.size p0:Nat):Int)),(20,vI (a12))]) (fun a12 b13=>[]) (0:Int) () h SF (bH.refl _) ?_
  intro k14 a12 b13 h
  refine aZ<|dL rfl<|aU<|aP ?_
  refine gT h rfl (fun h=>?_) fun h=>?_
  ·refine cC<|aP<|aY<|aZ<|aE rfl<|aK rfl<|aU<|aZ<|aE rfl<|aE rfl<|fJ h fun j16 h=>aJ (Hi rfl rfl rfl j16) rfl<|fO h fun r17 w18 h=>aT (aW.callQ SR (Ip U  r17 w18) rfl .nil) rfl fun x19=>aJ (fR rfl) rfl<|aU ?_
   refine gP h rfl (fun _ h=>?_) fun _ h=>?_
   ·refine aZ<|aK rfl<|aU<|bE<|cG<|aR<|aR<|cG<|aR ?_
    cases h
    exact kF rfl
   refine eJ<|lP<|aS<|dM rfl<|aE rfl<|aU ?_
   exact BR (wI .i64 (a12+(1:Int))) () h SF rfl
  refine eQ ?_
  exact cZ () (()) h SF rfl
 intro a5 b6 h
 refine aZ<|aE rfl<|fO h fun r7 w8 h=>aT (aW.callQ SU (Gz U  r7 w8) rfl .nil) rfl fun x9=>aJ (fR rfl) rfl<|aK rfl<|aU<|bE ?_
 cases h
 exact kF rfl
end
section
def kD  (a2:Bool):Option (Bool):=
 some (a2)
def tG (U:Nat) (p0:Int):Option (Bool):=
 if(97:Int)<=p0 then(if p0<=(122:Int)then(kD  (true))else(if(65:Int)<=p0 then(kD  (decide (p0<=(90:Int))))else(kD  (false))))else(if(65:Int)<=p0 then(kD  (decide (p0<=(90:Int))))else(kD  (false)))
theorem NR:bO Tryz.prog 131:=Tryz.call131
theorem DJ (U:Nat) {p0:Int} (r:Bool) (h:tG U p0=some r):
  bQ Tryz.prog 131 #[Value.int .u8 (p0)] [] (fun x:Unit=>vB (r)) (fun x l=>l) (fun _ l=>l):=by
 refine bQ.of Tryz.func131 rfl Tryz.ntmps131 rfl fun c=>?_
 refine aZ<|aK rfl<|aU<|aP<|dD (fun a2=>kD  a2=some r) (fun a2 b3=>[(2,vB (a2))]) (fun a2 b3=>[]) ?_ ?_
 ·refine aS<|aE rfl<|aJ (jM rfl rfl) rfl<|aE rfl ?_
  refine oD h rfl (fun _ h=>?_) fun _ h=>?_
  ·refine cP rfl<|aL rfl (sO rfl rfl) rfl<|cE rfl<|aE rfl ?_
   refine oD h rfl (fun _ h=>?_) fun _ h=>?_
   ·refine aI rfl<|aI rfl<|aI rfl<|Ek (h:= ?_)
    refine Ek (h:= ?_)
    refine aI rfl<|cE rfl<|aK rfl<|aU ?_
    exact cZ (true) () h SF rfl
   refine cP rfl<|aL rfl (jM rfl rfl) rfl<|cP rfl ?_
   refine oD h rfl (fun _ h=>?_) fun _ h=>?_
   ·refine cP rfl<|aL rfl (sO rfl rfl) rfl<|aL rfl (Cu rfl rfl) rfl<|cI rfl<|aK rfl<|aU ?_
    exact cZ (decide (p0<=(90:Int))) () h SF rfl
   refine aI rfl<|aI rfl<|aL rfl (Ct rfl rfl) rfl<|cI rfl<|aK rfl<|aU ?_
   exact cZ (false) () h SF rfl
  refine aI rfl<|aI rfl<|cI rfl<|aE rfl<|cP rfl<|aL rfl (jM rfl rfl) rfl<|cP rfl ?_
  refine oD h rfl (fun _ h=>?_) fun _ h=>?_
  ·refine cP rfl<|aL rfl (sO rfl rfl) rfl<|aL rfl (Cu rfl rfl) rfl<|cI rfl<|aK rfl<|aU ?_
   exact cZ (decide (p0<=(90:Int))) () h SF rfl
  refine aI rfl<|aI rfl<|aL rfl (Ct rfl rfl) rfl<|cI rfl<|aK rfl<|aU ?_
  exact cZ (false) () h SF rfl
 intro a2 b3 h
 unfold kD at h
 refine bE ?_
 cases h
 exact kF rfl
end
section
def tJ  (a2:Bool):Option (Bool):=
 some (a2)
def zR (U:Nat) (p0:Int):Option (Bool):=
 if(48:Int)<=p0 then(tJ  (decide (p0<=(57:Int))))else(tJ  (false))
theorem Tc:bO Tryz.prog 147:=Tryz.call147
theorem IL (U:Nat) {p0:Int} (r:Bool) (h:zR U p0=some r):
  bQ Tryz.prog 147 #[Value.int .u8 (p0)] [] (fun x:Unit=>vB (r)) (fun x l=>l) (fun _ l=>l):=by
 refine bQ.of Tryz.func147 rfl Tryz.ntmps147 rfl fun c=>?_
 refine aZ<|aK rfl<|aU<|aP<|dD (fun a2=>tJ  a2=some r) (fun a2 b3=>[(2,vB (a2))]) (fun a2 b3=>[]) ?_ ?_
 ·refine aS<|aE rfl<|aJ (jM rfl rfl) rfl<|aE rfl ?_
  refine oD h rfl (fun _ h=>?_) fun _ h=>?_
  ·refine cP rfl<|aL rfl (sO rfl rfl) rfl<|cE rfl<|aK rfl<|aU ?_
   exact cZ (decide (p0<=(57:Int))) () h SF rfl
  refine aI rfl<|aI rfl<|cI rfl<|aK rfl<|aU ?_
  exact cZ (false) () h SF rfl
 intro a2 b3 h
 unfold tJ at h
 refine bE ?_
 cases h
 exact kF rfl
end
section
def p_  (a2:Bool):Option (Bool):=
 some (a2)
def zS (U:Nat) (p0:Int):Option (Bool):=
 Option.bind (tG U p0) fun r4=>(if r4=true then(p_  (true))else(Option.bind (zR U p0) fun r8=>(if r8=true then(p_  (true))else(p_  (decide (p0=(95:Int)))))))
theorem SV:bO Tryz.prog 132:=Tryz.call132
theorem IM (U:Nat) {p0:Int} (r:Bool) (h:zS U p0=some r):
  bQ Tryz.prog 132 #[Value.int .u8 (p0)] [] (fun x:Unit=>vB (r)) (fun x l=>l) (fun _ l=>l):=by
 refine bQ.of Tryz.func132 rfl Tryz.ntmps132 rfl fun c=>?_
 refine aZ<|aK rfl<|aU<|aP<|dD (fun a2=>p_  a2=some r) (fun a2 b3=>[(2,vB (a2))]) (fun a2 b3=>[]) ?_ ?_
 ·refine aS<|aE rfl<|fO h fun r4 w5 h=>aT (aW.callQ NR (DJ U  r4 w5) rfl .nil) rfl fun x6=>aE rfl ?_
  refine fY (by exact rfl) (by exact rfl) (fun hp7=>?_) (fun hp7=>?_)
  ·have h:=BK hp7 h
   refine aI rfl<|aI rfl<|cE rfl<|aE rfl<|aI rfl<|aI rfl<|cE rfl<|aK rfl<|aU ?_
   exact cZ (true) () h SF rfl
  have h:=sM hp7 h
  refine cP rfl<|fO h fun r8 w9 h=>eX rfl (aW.callQ Tc (IL U  r8 w9) rfl .nil) rfl fun x10=>cI rfl<|aE rfl ?_
  refine fY (by exact rfl) (by exact rfl) (fun hp11=>?_) (fun hp11=>?_)
  ·have h:=BK hp11 h
   refine aI rfl<|aI rfl<|cE rfl<|aK rfl<|aU ?_
   exact cZ (true) () h SF rfl
  have h:=sM hp11 h
  refine cP rfl<|aL rfl (mU rfl rfl) rfl<|cI rfl<|aK rfl<|aU ?_
  exact cZ (decide (p0=(95:Int))) () h SF rfl
 intro a2 b3 h
 unfold p_ at h
 refine bE ?_
 cases h
 exact kF rfl
end
section
def fG  (a6:Bool):Option (Bool):=
 if a6=true then(some (true))else(some (false))
def dI (p0:ByteArray) (a2:Bool):Option (Bool):=
 if a2=true then(some (true))else(if(eR p0 (ByteArray.mk #[97,108,108]))=true then(fG  ((eR p0 (ByteArray.mk #[97,108,108]))))else(if(eR p0 (ByteArray.mk #[115,111,109,101]))=true then(fG  ((eR p0 (ByteArray.mk #[115,111,109,101]))))else(if(eR p0 (ByteArray.mk #[99,111,117,110,116]))=true then(fG  ((eR p0 (ByteArray.mk #[99,111,117,110,116]))))else(if(eR p0 (ByteArray.mk #[102,105,114,115,116]))=true then(fG  ((eR p0 (ByteArray.mk #[102,105,114,115,116]))))else(if(eR p0 (ByteArray.mk #[109,105,110]))=true then(fG  ((eR p0 (ByteArray.mk #[109,105,110]))))else(if(eR p0 (ByteArray.mk #[109,97,120]))=true then(fG  ((eR p0 (ByteArray.mk #[109,97,120]))))else(if(eR p0 (ByteArray.mk #[115,117,109]))=true then(fG  ((eR p0 (ByteArray.mk #[115,117,109]))))else(if(eR p0 (ByteArray.mk #[109,101,120]))=true then(fG  ((eR p0 (ByteArray.mk #[109,101,120]))))else(if(eR p0 (ByteArray.mk #[115,101,99,111,110,100]))=true then(fG  ((eR p0 (ByteArray.mk #[115,101,99,111,110,100]))))else(fG  ((eR p0 (ByteArray.mk #[104,101,97,100])))))))))))))
def uJ (U:Nat) (p0:ByteArray):Option (Bool):=
 if(eR p0 (ByteArray.mk #[112,114,111,103,114,97,109]))=true then(dI p0 ((eR p0 (ByteArray.mk #[112,114,111,103,114,97,109]))))else(if(eR p0 (ByteArray.mk #[118,97,114]))=true then(dI p0 ((eR p0 (ByteArray.mk #[118,97,114]))))else(if(eR p0 (ByteArray.mk #[114,117,108,101]))=true then(dI p0 ((eR p0 (ByteArray.mk #[114,117,108,101]))))else(if(eR p0 (ByteArray.mk #[98,111,111,108]))=true then(dI p0 ((eR p0 (ByteArray.mk #[98,111,111,108]))))else(if(eR p0 (ByteArray.mk #[112,111,114,116]))=true then(dI p0 ((eR p0 (ByteArray.mk #[112,111,114,116]))))else(if(eR p0 (ByteArray.mk #[116,114,117,101]))=true then(dI p0 ((eR p0 (ByteArray.mk #[116,114,117,101]))))else(if(eR p0 (ByteArray.mk #[102,97,108,115,101]))=true then(dI p0 ((eR p0 (ByteArray.mk #[102,97,108,115,101]))))else(if(eR p0 (ByteArray.mk #[110,111,110,101]))=true then(dI p0 ((eR p0 (ByteArray.mk #[110,111,110,101]))))else(if(eR p0 (ByteArray.mk #[110]))=true then(dI p0 ((eR p0 (ByteArray.mk #[110]))))else(if(eR p0 (ByteArray.mk #[105,100,115]))=true then(dI p0 ((eR p0 (ByteArray.mk #[105,100,115]))))else(if(eR p0 (ByteArray.mk #[105,100]))=true then(dI p0 ((eR p0 (ByteArray.mk #[105,100]))))else(if(eR p0 (ByteArray.mk #[100,101,103]))=true then(dI p0 ((eR p0 (ByteArray.mk #[100,101,103]))))else(if(eR p0 (ByteArray.mk #[114,111,111,116]))=true then(dI p0 ((eR p0 (ByteArray.mk #[114,111,111,116]))))else(if(eR p0 (ByteArray.mk #[113]))=true then(dI p0 ((eR p0 (ByteArray.mk #[113]))))else(if(eR p0 (ByteArray.mk #[119,101,105,103,104,116]))=true then(dI p0 ((eR p0 (ByteArray.mk #[119,101,105,103,104,116]))))else(dI p0 ((eR p0 (ByteArray.mk #[98,97,99,107]))))))))))))))))))
theorem SX:bO Tryz.prog 133:=Tryz.call133
theorem GA (U:Nat) {p0:ByteArray} (r:Bool) (h:uJ U p0=some r):
  bQ Tryz.prog 133 #[vS (p0)] [] (fun x:Unit=>vB (r)) (fun x l=>l) (fun _ l=>l):=by
 refine bQ.of Tryz.func133 rfl Tryz.ntmps133 rfl fun c=>?_
 refine aZ<|aK rfl<|aU<|aP<|aZ<|aE rfl<|aU<|aY<|aP<|dD (fun a2=>dI p0 a2=some r) (fun a2 b3=>[(3,vS (p0)),(4,vB (a2))]) (fun a2 b3=>[]) ?_ ?_
 ·refine aZ<|aJ (eF rfl rfl) rfl<|aK rfl<|aU ?_
  refine gP h rfl (fun _ h=>?_) fun _ h=>?_
  ·refine cC ?_
   exact cZ ((eR p0 (ByteArray.mk #[112,114,111,103,114,97,109]))) () h SF rfl
  refine aZ<|aJ (eF rfl rfl) rfl<|aK rfl<|aU ?_
  refine gP h rfl (fun _ h=>?_) fun _ h=>?_
  ·refine cC ?_
   exact cZ ((eR p0 (ByteArray.mk #[118,97,114]))) () h SF rfl
  refine aZ<|aJ (eF rfl rfl) rfl<|aK rfl<|aU ?_
  refine gP h rfl (fun _ h=>?_) fun _ h=>?_
  ·refine cC ?_
   exact cZ ((eR p0 (ByteArray.mk #[114,117,108,101]))) () h SF rfl
  refine aZ<|aJ (eF rfl rfl) rfl<|aK rfl<|aU ?_
  refine gP h rfl (fun _ h=>?_) fun _ h=>?_
  ·refine cC ?_
   exact cZ ((eR p0 (ByteArray.mk #[98,111,111,108]))) () h SF rfl
  refine aZ<|aJ (eF rfl rfl) rfl<|aK rfl<|aU ?_
  refine gP h rfl (fun _ h=>?_) fun _ h=>?_
  ·refine cC ?_
   exact cZ ((eR p0 (ByteArray.mk #[112,111,114,116]))) () h SF rfl
  refine aZ<|aJ (eF rfl rfl) rfl<|aK rfl<|aU ?_
  refine gP h rfl (fun _ h=>?_) fun _ h=>?_
  ·refine cC ?_
   exact cZ ((eR p0 (ByteArray.mk #[116,114,117,101]))) () h SF rfl
  refine aZ<|aJ (eF rfl rfl) rfl<|aK rfl<|aU ?_
  refine gP h rfl (fun _ h=>?_) fun _ h=>?_
  ·refine cC ?_
   exact cZ ((eR p0 (ByteArray.mk #[102,97,108,115,101]))) () h SF rfl
  refine aZ<|aJ (eF rfl rfl) rfl<|aK rfl<|aU ?_
  refine gP h rfl (fun _ h=>?_) fun _ h=>?_
  ·refine cC ?_
   exact cZ ((eR p0 (ByteArray.mk #[110,111,110,101]))) () h SF rfl
  refine aZ<|aJ (eF rfl rfl) rfl<|aK rfl<|aU ?_
  refine gP h rfl (fun _ h=>?_) fun _ h=>?_
  ·refine cC ?_
   exact cZ ((eR p0 (ByteArray.mk #[110]))) () h SF rfl
  refine aZ<|aJ (eF rfl rfl) rfl<|aK rfl<|aU ?_
  refine gP h rfl (fun _ h=>?_) fun _ h=>?_
  ·refine cC ?_
   exact cZ ((eR p0 (ByteArray.mk #[105,100,115]))) () h SF rfl
  refine aZ<|aJ (eF rfl rfl) rfl<|aK rfl<|aU ?_
  refine gP h rfl (fun _ h=>?_) fun _ h=>?_
  ·refine cC ?_
   exact cZ ((eR p0 (ByteArray.mk #[105,100]))) () h SF rfl
  refine aZ<|aJ (eF rfl rfl) rfl<|aK rfl<|aU ?_
  refine gP h rfl (fun _ h=>?_) fun _ h=>?_
  ·refine cC ?_
   exact cZ ((eR p0 (ByteArray.mk #[100,101,103]))) () h SF rfl
  refine aZ<|aJ (eF rfl rfl) rfl<|aK rfl<|aU ?_
  refine gP h rfl (fun _ h=>?_) fun _ h=>?_
  ·refine cC ?_
   exact cZ ((eR p0 (ByteArray.mk #[114,111,111,116]))) () h SF rfl
  refine aZ<|aJ (eF rfl rfl) rfl<|aK rfl<|aU ?_
  refine gP h rfl (fun _ h=>?_) fun _ h=>?_
  ·refine cC ?_
   exact cZ ((eR p0 (ByteArray.mk #[113]))) () h SF rfl
  refine aZ<|aJ (eF rfl rfl) rfl<|aK rfl<|aU ?_
  refine gP h rfl (fun _ h=>?_) fun _ h=>?_
  ·refine cC ?_
   exact cZ ((eR p0 (ByteArray.mk #[119,101,105,103,104,116]))) () h SF rfl
  refine aS<|aJ (eF rfl rfl) rfl<|aK rfl<|aU ?_
  exact cZ ((eR p0 (ByteArray.mk #[98,97,99,107]))) () h SF rfl
 intro a2 b3 h
 refine gP h rfl (fun _ h=>?_) fun _ h=>?_
 ·refine aZ<|aK rfl<|aU<|bE<|cG<|aR ?_
  cases h
  exact kF rfl
 refine aP<|dD (fun a6=>fG  a6=some r) (fun a6 b7=>[(21,vB (a6))]) (fun a6 b7=>[]) ?_ ?_
 ·refine aZ<|aJ (eF rfl rfl) rfl<|aK rfl<|aU ?_
  refine gP h rfl (fun _ h=>?_) fun _ h=>?_
  ·refine cC ?_
   exact cZ ((eR p0 (ByteArray.mk #[97,108,108]))) () h SF rfl
  refine aZ<|aJ (eF rfl rfl) rfl<|aK rfl<|aU ?_
  refine gP h rfl (fun _ h=>?_) fun _ h=>?_
  ·refine cC ?_
   exact cZ ((eR p0 (ByteArray.mk #[115,111,109,101]))) () h SF rfl
  refine aZ<|aJ (eF rfl rfl) rfl<|aK rfl<|aU ?_
  refine gP h rfl (fun _ h=>?_) fun _ h=>?_
  ·refine cC ?_
   exact cZ ((eR p0 (ByteArray.mk #[99,111,117,110,116]))) () h SF rfl
  refine aZ<|aJ (eF rfl rfl) rfl<|aK rfl<|aU ?_
  refine gP h rfl (fun _ h=>?_) fun _ h=>?_
  ·refine cC ?_
   exact cZ ((eR p0 (ByteArray.mk #[102,105,114,115,116]))) () h SF rfl
  refine aZ<|aJ (eF rfl rfl) rfl<|aK rfl<|aU ?_
  refine gP h rfl (fun _ h=>?_) fun _ h=>?_
  ·refine cC ?_
   exact cZ ((eR p0 (ByteArray.mk #[109,105,110]))) () h SF rfl
  refine aZ<|aJ (eF rfl rfl) rfl<|aK rfl<|aU ?_
  refine gP h rfl (fun _ h=>?_) fun _ h=>?_
  ·refine cC ?_
   exact cZ ((eR p0 (ByteArray.mk #[109,97,120]))) () h SF rfl
  refine aZ<|aJ (eF rfl rfl) rfl<|aK rfl<|aU ?_
  refine gP h rfl (fun _ h=>?_) fun _ h=>?_
  ·refine cC ?_
   exact cZ ((eR p0 (ByteArray.mk #[115,117,109]))) () h SF rfl
  refine aZ<|aJ (eF rfl rfl) rfl<|aK rfl<|aU ?_
  refine gP h rfl (fun _ h=>?_) fun _ h=>?_
  ·refine cC ?_
   exact cZ ((eR p0 (ByteArray.mk #[109,101,120]))) () h SF rfl
  refine aZ<|aJ (eF rfl rfl) rfl<|aK rfl<|aU ?_
  refine gP h rfl (fun _ h=>?_) fun _ h=>?_
  ·refine cC ?_
   exact cZ ((eR p0 (ByteArray.mk #[115,101,99,111,110,100]))) () h SF rfl
  refine aS<|aJ (eF rfl rfl) rfl<|aK rfl<|aU ?_
  exact cZ ((eR p0 (ByteArray.mk #[104,101,97,100]))) () h SF rfl
 intro a6 b7 h
 refine gP h rfl (fun _ h=>?_) fun _ h=>?_
 ·refine aZ<|aK rfl<|aU<|bE<|cG<|aR ?_
  cases h
  exact kF rfl
 refine eJ<|lP<|aZ<|aK rfl<|aU<|bE ?_
 cases h
 exact kF rfl
end
section
def Aa (U:Nat) (p0:ByteArray) (a5:Unit):Option (Bool):=
 Option.bind (uJ U p0) fun r7=>(some ((!r7)))
def vK (U:Nat) (p0:ByteArray) (a12:Int) (ag11:(Int)->Option (Bool)):Option (Bool):=
 if a12<((ByteArray.size p0:Nat):Int)then(ck (0<=a12∧a12<((ByteArray.size p0:Nat):Int)) (Option.bind (zS U (IJ p0 a12)) fun r17=>(if(!r17)=true then(some (false))else(ag11 (wI .i64 (a12+(1:Int)))))))else(Aa U p0 (()))
def vJ (U:Nat) (p0:ByteArray) (a2:Bool):Option (Bool):=
 if a2=true then(some (false))else(bZ (vK U p0) U (1:Int))
def uI (U:Nat) (p0:ByteArray):Option (Bool):=
 if((ByteArray.size p0:Nat):Int)<(1:Int)then(vJ U p0 (true))else(if(24:Int)<((ByteArray.size p0:Nat):Int)then(vJ U p0 (true))else(ck (0<=(0:Int)∧(0:Int)<((ByteArray.size p0:Nat):Int)) (Option.bind (tG U (IJ p0 (0:Int))) fun r24=>(vJ U p0 ((!r24))))))
theorem JV:bO Tryz.prog 110:=Tryz.call110
theorem CP (U:Nat) {p0:ByteArray} (r:Bool) (h:uI U p0=some r):
  bQ Tryz.prog 110 #[vS (p0)] [] (fun x:Unit=>vB (r)) (fun x l=>l) (fun _ l=>l):=by
 refine bQ.of Tryz.func110 rfl Tryz.ntmps110 rfl fun c=>?_
 refine aZ<|aK rfl<|aU<|aP<|aP<|dD (fun a2=>vJ U p0 a2=some r) (fun a2 b3=>[(0,vS (p0)),(17,vB (a2))]) (fun a2 b3=>[]) ?_ ?_
 ·refine aS<|aE rfl<|aJ (uZ rfl rfl) rfl<|dL rfl<|aE rfl ?_
  refine oD h rfl (fun _ h=>?_) fun _ h=>?_
  ·refine aI rfl<|aI rfl<|aI rfl<|cE rfl<|aE rfl<|aI rfl<|aI rfl<|aI rfl<|aI rfl<|cE rfl<|aU ?_
   exact cZ (true) () h SF rfl
  refine cP rfl<|aL rfl (uZ rfl rfl) rfl<|aL rfl (kT rfl rfl) rfl<|cI rfl<|aE rfl ?_
  refine oD h rfl (fun _ h=>?_) fun _ h=>?_
  ·refine aI rfl<|aI rfl<|aI rfl<|aI rfl<|cE rfl<|aU ?_
   exact cZ (true) () h SF rfl
  refine cP rfl<|fJ h fun j23 h=>aL rfl (Hi rfl rfl rfl j23) rfl<|fO h fun r24 w25 h=>eX rfl (aW.callQ NR (DJ U  r24 w25) rfl .nil) rfl fun x26=>aL rfl (fR rfl) rfl<|cI rfl<|aU ?_
  exact cZ ((!r24)) () h SF rfl
 intro a2 b3 h
 refine gP h rfl (fun _ h=>?_) fun _ h=>?_
 ·refine aZ<|aK rfl<|aU<|bE<|aR ?_
  cases h
  exact kF rfl
 refine cC<|aP<|dD (fun a5=>Aa U p0 a5=some r) (fun a5 b6=>[(0,vS (p0))]) (fun a5 b6=>[]) ?_ ?_
 ·refine aZ<|aK rfl<|aU<|aY<|fW (vK U p0) (fun a12 b13=>[(0,vS (p0)),(3,vI (a12))]) (fun a12 b13=>[]) (1:Int) () h SF (bH.refl _) ?_
  intro k14 a12 b13 h
  refine aP<|aZ<|aE rfl<|aE rfl<|aJ (uZ rfl rfl) rfl<|dL rfl<|aU ?_
  refine gT h rfl (fun h=>?_) fun h=>?_
  ·refine cC<|aP<|aY<|aZ<|aE rfl<|aE rfl<|fJ h fun j16 h=>aJ (Hi rfl rfl rfl j16) rfl<|fO h fun r17 w18 h=>aT (aW.callQ SV (IM U  r17 w18) rfl .nil) rfl fun x19=>aJ (fR rfl) rfl<|aU ?_
   refine gP h rfl (fun _ h=>?_) fun _ h=>?_
   ·refine aZ<|aK rfl<|aU<|bE<|cG<|aR<|aR<|cG<|aR ?_
    cases h
    exact kF rfl
   refine eJ<|lP<|aS<|aE rfl<|dM rfl<|aK rfl<|aU ?_
   exact BR (wI .i64 (a12+(1:Int))) () h SF rfl
  refine eQ ?_
  exact cZ () (()) h SF rfl
 intro a5 b6 h
 refine aZ<|aE rfl<|fO h fun r7 w8 h=>aT (aW.callQ SX (GA U  r7 w8) rfl .nil) rfl fun x9=>aJ (fR rfl) rfl<|aK rfl<|aU<|bE ?_
 cases h
 exact kF rfl
end
section
def sB  (a2:Bool):Option (Bool):=
 some (a2)
def iP (U:Nat) (p0:Int) (p1:Int) (p2:Int):Option (Bool):=
 if p1<=p0 then(sB  (decide (p0<=p2)))else(sB  (false))
theorem Cw:bO Tryz.prog 108:=Tryz.call108
theorem nI (U:Nat) {p0:Int} {p1:Int} {p2:Int} (r:Bool) (h:iP U p0 p1 p2=some r):
  bQ Tryz.prog 108 #[vI (p0),vI (p1),vI (p2)] [] (fun x:Unit=>vB (r)) (fun x l=>l) (fun _ l=>l):=by
 refine bQ.of Tryz.func108 rfl Tryz.ntmps108 rfl fun c=>?_
 refine aZ<|aK rfl<|aU<|aP<|dD (fun a2=>sB  a2=some r) (fun a2 b3=>[(6,vB (a2))]) (fun a2 b3=>[]) ?_ ?_
 ·refine aS<|aE rfl<|aE rfl<|aJ (jM rfl rfl) rfl<|aE rfl ?_
  refine oD h rfl (fun _ h=>?_) fun _ h=>?_
  ·refine cP rfl<|cP rfl<|aL rfl (sO rfl rfl) rfl<|cE rfl<|aK rfl<|aU ?_
   exact cZ (decide (p0<=p2)) () h SF rfl
  refine aI rfl<|aI rfl<|aI rfl<|cI rfl<|aK rfl<|aU ?_
  exact cZ (false) () h SF rfl
 intro a2 b3 h
 unfold sB at h
 refine bE ?_
 cases h
 exact kF rfl
end
section
def kS  (a8:Bool):Option (Bool):=
 some (a8)
def mR  (a25:Bool):Option (Bool):=
 some (a25)
def uT (U:Nat) (p0:Br) (a18:Bool):Option (Bool):=
 if a18=true then(Option.bind (iP U p0.2.2.2.1 (0:Int) (4096:Int)) fun r21=>(some (r21)))else(if p0.2.2.2.2.1=(0:Int)then(Option.bind (iP U p0.2.2.2.1 (-4096:Int) (4096:Int)) fun r28=>(mR  (r28)))else(if p0.2.2.2.2.2=(0:Int)then(Option.bind (iP U p0.2.2.2.1 (-4096:Int) (4096:Int)) fun r32=>(mR  (r32)))else(mR  (false))))
def qO (U:Nat) (p0:Br) (a14:Bool):Option (Bool):=
 if a14=true then(some (false))else(if p0.2.2.2.2.1=(0:Int)then(uT U p0 (decide (p0.2.2.2.2.2=(0:Int))))else(uT U p0 (false)))
def wO (U:Nat) (p0:Br):Option (Bool):=
 Option.bind (pZ U p0.2.1) fun r2=>(if(!r2)=true then(some (false))else(if p0.2.1≠(1:Int)then(if p0.2.2.1=(0:Int)then(if p0.2.2.2.1=(0:Int)then(if p0.2.2.2.2.1=(0:Int)then(kS  (decide (p0.2.2.2.2.2=(0:Int))))else(kS  (false)))else(kS  (false)))else(kS  (false)))else(Option.bind (iP U p0.2.2.1 (0:Int) (4096:Int)) fun r36=>(if(!r36)=true then(qO U p0 (true))else(Option.bind (iP U p0.2.2.2.2.1 (0:Int) (255:Int)) fun r40=>(if(!r40)=true then(qO U p0 (true))else(Option.bind (iP U p0.2.2.2.2.2 (0:Int) (255:Int)) fun r44=>(qO U p0 ((!r44))))))))))
theorem UW:bO Tryz.prog 74:=Tryz.call74
theorem Hc (U:Nat) {p0:Br} (r:Bool) (h:wO U p0=some r):
  bQ Tryz.prog 74 #[Value.agg #[vS (p0.1),vI (p0.2.1),vI (p0.2.2.1),vI (p0.2.2.2.1),vI (p0.2.2.2.2.1),vI (p0.2.2.2.2.2)]] [] (fun x:Unit=>vB (r)) (fun x l=>l) (fun _ l=>l):=by
 refine bQ.of Tryz.func74 rfl Tryz.ntmps74 rfl fun c=>?_
 refine aZ<|aT (aW.box (cs:=[vS (p0.1),vI (p0.2.1),vI (p0.2.2.1),vI (p0.2.2.2.1),vI (p0.2.2.2.2.1),vI (p0.2.2.2.2.2)]) rfl rfl) rfl fun b1=>aK rfl<|aU<|aP<|aZ<|bP rfl<|dC 0 rfl<|fO h fun r2 w3 h=>aT (aW.callQ NN (Ci U  r2 w3) rfl .nil) rfl fun x4=>aJ (fR rfl) rfl<|aU ?_
 refine gP h rfl (fun _ h=>?_) fun _ h=>?_
 ·refine aZ<|aK rfl<|aU<|bE<|aR ?_
  cases h
  exact yR rfl
 refine cC<|aP<|aZ<|bP rfl<|dC 0 rfl<|Cf rfl<|aU ?_
 refine gT h rfl (fun h=>?_) fun h=>?_
 ·refine aP<|dD (fun a8=>kS  a8=some r) (fun a8 b9=>[(2,vB (a8))]) (fun a8 b9=>[]) ?_ ?_
  ·refine aS<|bP rfl<|dC 0 rfl<|dQ rfl<|aE rfl ?_
   refine oD h rfl (fun _ h=>?_) fun _ h=>?_
   ·refine aL rfl (cF rfl rfl rfl rfl rfl) rfl<|aL rfl (cT 0 rfl rfl rfl rfl rfl) rfl<|aL rfl (mU rfl rfl) rfl<|cE rfl<|aE rfl ?_
    refine oD h rfl (fun _ h=>?_) fun _ h=>?_
    ·refine aL rfl (cF rfl rfl rfl rfl rfl) rfl<|aL rfl (cT 0 rfl rfl rfl rfl rfl) rfl<|aL rfl (mU rfl rfl) rfl<|cE rfl<|aE rfl ?_
     refine oD h rfl (fun _ h=>?_) fun _ h=>?_
     ·refine aL rfl (cF rfl rfl rfl rfl rfl) rfl<|aL rfl (cT 0 rfl rfl rfl rfl rfl) rfl<|aL rfl (mU rfl rfl) rfl<|cE rfl<|aK rfl<|aU ?_
      exact cK (decide (p0.2.2.2.2.2=(0:Int))) () h SF .nil (aV.refl _ _)
     refine aI rfl<|aI rfl<|aI rfl<|cI rfl<|aK rfl<|aU ?_
     exact cK (false) () h SF .nil (aV.refl _ _)
    refine aI rfl<|aI rfl<|aI rfl<|cI rfl<|aE rfl<|aI rfl<|aI rfl<|aI rfl<|cI rfl<|aK rfl<|aU ?_
    exact cK (false) () h SF .nil (aV.refl _ _)
   refine aI rfl<|aI rfl<|aI rfl<|cI rfl<|aE rfl<|aI rfl<|aI rfl<|aI rfl<|cI rfl<|aE rfl<|aI rfl<|aI rfl<|aI rfl<|cI rfl<|aK rfl<|aU ?_
   exact cK (false) () h SF .nil (aV.refl _ _)
  intro a8 b9 h
  unfold kS at h
  refine bE<|aR ?_
  cases h
  exact kF rfl
 refine cC<|aP<|aP<|dD (fun a14=>qO U p0 a14=some r) (fun a14 b15=>[(1,vP b1),(43,vB (a14))]) (fun a14 b15=>[bJ b1 [vS (p0.1),vI (p0.2.1),vI (p0.2.2.1),vI (p0.2.2.2.1),vI (p0.2.2.2.2.1),vI (p0.2.2.2.2.2)] 49]) ?_ ?_
 ·refine aS<|bP rfl<|dC 0 rfl<|fO h fun r36 w37 h=>aT (aW.callQ Cw (nI U  r36 w37) rfl .nil) rfl fun x38=>aJ (fR rfl) rfl<|aE rfl ?_
  refine fY (by exact rfl) (by exact rfl) (fun hp39=>?_) (fun hp39=>?_)
  ·have h:=BK hp39 h
   refine aI rfl<|aI rfl<|aI rfl<|aI rfl<|cE rfl<|aE rfl<|aI rfl<|aI rfl<|aI rfl<|aI rfl<|cE rfl<|aU ?_
   exact cZ (true) () h SF rfl
  have h:=sM hp39 h
  refine aL rfl (cF rfl rfl rfl rfl rfl) rfl<|aL rfl (cT 0 rfl rfl rfl rfl rfl) rfl<|fO h fun r40 w41 h=>eX rfl (aW.callQ Cw (nI U  r40 w41) rfl .nil) rfl fun x42=>aL rfl (fR rfl) rfl<|cI rfl<|aE rfl ?_
  refine fY (by exact rfl) (by exact rfl) (fun hp43=>?_) (fun hp43=>?_)
  ·have h:=BK hp43 h
   refine aI rfl<|aI rfl<|aI rfl<|aI rfl<|cE rfl<|aU ?_
   exact cZ (true) () h SF rfl
  have h:=sM hp43 h
  refine aL rfl (cF rfl rfl rfl rfl rfl) rfl<|aL rfl (cT 0 rfl rfl rfl rfl rfl) rfl<|fO h fun r44 w45 h=>eX rfl (aW.callQ Cw (nI U  r44 w45) rfl .nil) rfl fun x46=>aL rfl (fR rfl) rfl<|cI rfl<|aU ?_
  exact cZ ((!r44)) () h SF rfl
 intro a14 b15 h
 refine gP h rfl (fun _ h=>?_) fun _ h=>?_
 ·refine aZ<|aK rfl<|aU<|bE<|aR ?_
  cases h
  exact yR rfl
 refine cC<|aP<|aP<|dD (fun a18=>uT U p0 a18=some r) (fun a18 b19=>[(1,vP b1),(51,vB (a18))]) (fun a18 b19=>[bJ b1 [vS (p0.1),vI (p0.2.1),vI (p0.2.2.1),vI (p0.2.2.2.1),vI (p0.2.2.2.2.1),vI (p0.2.2.2.2.2)] 49]) ?_ ?_
 ·refine aS<|bP rfl<|dC 0 rfl<|dQ rfl<|aE rfl ?_
  refine oD h rfl (fun _ h=>?_) fun _ h=>?_
  ·refine aL rfl (cF rfl rfl rfl rfl rfl) rfl<|aL rfl (cT 0 rfl rfl rfl rfl rfl) rfl<|aL rfl (mU rfl rfl) rfl<|cE rfl<|aU ?_
   exact cZ (decide (p0.2.2.2.2.2=(0:Int))) () h SF rfl
  refine aI rfl<|aI rfl<|aI rfl<|cI rfl<|aU ?_
  exact cZ (false) () h SF rfl
 intro a18 b19 h
 refine gP h rfl (fun _ h=>?_) fun _ h=>?_
 ·refine aZ<|bP rfl<|dC 0 rfl<|fO h fun r21 w22 h=>aT (aW.callQ Cw (nI U  r21 w22) rfl .nil) rfl fun x23=>aK rfl<|aU<|bE<|aR ?_
  cases h
  exact yR rfl
 refine cC<|aP<|dD (fun a25=>mR  a25=some r) (fun a25 b26=>[(2,vB (a25))]) (fun a25 b26=>[]) ?_ ?_
 ·refine aS<|bP rfl<|dC 0 rfl<|dQ rfl<|aE rfl ?_
  refine oD h rfl (fun _ h=>?_) fun _ h=>?_
  ·refine aI rfl<|aI rfl<|aI rfl<|cE rfl<|aE rfl<|aL rfl (cF rfl rfl rfl rfl rfl) rfl<|aL rfl (cT 0 rfl rfl rfl rfl rfl) rfl<|fO h fun r28 w29 h=>eX rfl (aW.callQ Cw (nI U  r28 w29) rfl .nil) rfl fun x30=>cE rfl<|aK rfl<|aU ?_
   exact cK (r28) () h SF .nil (aV.refl _ _)
  refine aL rfl (cF rfl rfl rfl rfl rfl) rfl<|aL rfl (cT 0 rfl rfl rfl rfl rfl) rfl<|aL rfl (mU rfl rfl) rfl<|cI rfl<|aE rfl ?_
  refine oD h rfl (fun _ h=>?_) fun _ h=>?_
  ·refine aL rfl (cF rfl rfl rfl rfl rfl) rfl<|aL rfl (cT 0 rfl rfl rfl rfl rfl) rfl<|fO h fun r32 w33 h=>eX rfl (aW.callQ Cw (nI U  r32 w33) rfl .nil) rfl fun x34=>cE rfl<|aK rfl<|aU ?_
   exact cK (r32) () h SF .nil (aV.refl _ _)
  refine aI rfl<|aI rfl<|aI rfl<|cI rfl<|aK rfl<|aU ?_
  exact cK (false) () h SF .nil (aV.refl _ _)
 intro a25 b26 h
 unfold mR at h
 refine bE ?_
 cases h
 exact kF rfl
end
section
def AA  (a2:Bool):Option (Bool):=
 some (a2)
def mX (U:Nat) (p0:Int) (p1:Int) (p2:Int):Option (Bool):=
 if p1<=p0 then(AA  (decide (p0<=p2)))else(AA  (false))
theorem Dq:bO Tryz.prog 78:=Tryz.call78
theorem tT (U:Nat) {p0:Int} {p1:Int} {p2:Int} (r:Bool) (h:mX U p0 p1 p2=some r):
  bQ Tryz.prog 78 #[vI (p0),vI (p1),vI (p2)] [] (fun x:Unit=>vB (r)) (fun x l=>l) (fun _ l=>l):=by
 refine bQ.of Tryz.func78 rfl Tryz.ntmps78 rfl fun c=>?_
 refine aZ<|aK rfl<|aU<|aP<|dD (fun a2=>AA  a2=some r) (fun a2 b3=>[(6,vB (a2))]) (fun a2 b3=>[]) ?_ ?_
 ·refine aS<|aE rfl<|aE rfl<|aJ (jM rfl rfl) rfl<|aE rfl ?_
  refine oD h rfl (fun _ h=>?_) fun _ h=>?_
  ·refine cP rfl<|cP rfl<|aL rfl (sO rfl rfl) rfl<|cE rfl<|aK rfl<|aU ?_
   exact cZ (decide (p0<=p2)) () h SF rfl
  refine aI rfl<|aI rfl<|aI rfl<|cI rfl<|aK rfl<|aU ?_
  exact cZ (false) () h SF rfl
 intro a2 b3 h
 unfold AA at h
 refine bE ?_
 cases h
 exact kF rfl
end
section
def jC  (a4:Bool):Option (Bool):=
 some (a4)
def uQ (U:Nat) (p0:Br) (a18:Bool):Option (Bool):=
 if a18=true then(Option.bind (mX U p0.2.2.2.1 (0:Int) (4096:Int)) fun r21=>(some (r21)))else(Option.bind (mX U p0.2.2.2.1 (-4096:Int) (4096:Int)) fun r24=>(some (r24)))
def kM (U:Nat) (p0:Br) (a14:Bool):Option (Bool):=
 if a14=true then(some (false))else(if p0.2.2.2.2.1=(0:Int)then(uQ U p0 (decide (p0.2.2.2.2.2=(0:Int))))else(uQ U p0 (false)))
def wM (U:Nat) (p0:Br):Option (Bool):=
 if p0.2.1≠(1:Int)then(Option.bind (zU U p0.2.1) fun r6=>(if r6=true then(if p0.2.2.1=(0:Int)then(if p0.2.2.2.1=(0:Int)then(if p0.2.2.2.2.1=(0:Int)then(jC  (decide (p0.2.2.2.2.2=(0:Int))))else(jC  (false)))else(jC  (false)))else(jC  (false)))else(jC  (false))))else(Option.bind (mX U p0.2.2.1 (0:Int) (4096:Int)) fun r28=>(if(!r28)=true then(kM U p0 (true))else(Option.bind (mX U p0.2.2.2.2.1 (0:Int) (255:Int)) fun r32=>(if(!r32)=true then(kM U p0 (true))else(Option.bind (mX U p0.2.2.2.2.2 (0:Int) (255:Int)) fun r36=>(if(!r36)=true then(kM U p0 (true))else(if p0.2.2.2.2.1≠(0:Int)then(kM U p0 (decide (p0.2.2.2.2.2≠(0:Int))))else(kM U p0 (false)))))))))
theorem Va:bO Tryz.prog 80:=Tryz.call80
theorem Ha (U:Nat) {p0:Br} (r:Bool) (h:wM U p0=some r):
  bQ Tryz.prog 80 #[Value.agg #[vS (p0.1),vI (p0.2.1),vI (p0.2.2.1),vI (p0.2.2.2.1),vI (p0.2.2.2.2.1),vI (p0.2.2.2.2.2)]] [] (fun x:Unit=>vB (r)) (fun x l=>l) (fun _ l=>l):=by
 refine bQ.of Tryz.func80 rfl Tryz.ntmps80 rfl fun c=>?_
 refine aZ<|aT (aW.box (cs:=[vS (p0.1),vI (p0.2.1),vI (p0.2.2.1),vI (p0.2.2.2.1),vI (p0.2.2.2.2.1),vI (p0.2.2.2.2.2)]) rfl rfl) rfl fun b1=>aK rfl<|aU<|aP<|aZ<|bP rfl<|dC 0 rfl<|Cf rfl<|aU ?_
 refine gT h rfl (fun h=>?_) fun h=>?_
 ·refine aP<|dD (fun a4=>jC  a4=some r) (fun a4 b5=>[(2,vB (a4))]) (fun a4 b5=>[]) ?_ ?_
  ·refine aS<|bP rfl<|dC 0 rfl<|fO h fun r6 w7 h=>aT (aW.callQ SO (IQ U  r6 w7) rfl .nil) rfl fun x8=>aE rfl ?_
   refine fY (by exact rfl) (by exact rfl) (fun hp9=>?_) (fun hp9=>?_)
   ·have h:=BK hp9 h
    refine aL rfl (cF rfl rfl rfl rfl rfl) rfl<|aL rfl (cT 0 rfl rfl rfl rfl rfl) rfl<|aL rfl (mU rfl rfl) rfl<|cE rfl<|aE rfl ?_
    refine oD h rfl (fun _ h=>?_) fun _ h=>?_
    ·refine aL rfl (cF rfl rfl rfl rfl rfl) rfl<|aL rfl (cT 0 rfl rfl rfl rfl rfl) rfl<|aL rfl (mU rfl rfl) rfl<|cE rfl<|aE rfl ?_
     refine oD h rfl (fun _ h=>?_) fun _ h=>?_
     ·refine aL rfl (cF rfl rfl rfl rfl rfl) rfl<|aL rfl (cT 0 rfl rfl rfl rfl rfl) rfl<|aL rfl (mU rfl rfl) rfl<|cE rfl<|aE rfl ?_
      refine oD h rfl (fun _ h=>?_) fun _ h=>?_
      ·refine aL rfl (cF rfl rfl rfl rfl rfl) rfl<|aL rfl (cT 0 rfl rfl rfl rfl rfl) rfl<|aL rfl (mU rfl rfl) rfl<|cE rfl<|aK rfl<|aU ?_
       exact cK (decide (p0.2.2.2.2.2=(0:Int))) () h SF .nil (aV.refl _ _)
      refine aI rfl<|aI rfl<|aI rfl<|cI rfl<|aK rfl<|aU ?_
      exact cK (false) () h SF .nil (aV.refl _ _)
     refine aI rfl<|aI rfl<|aI rfl<|cI rfl<|aE rfl<|aI rfl<|aI rfl<|aI rfl<|cI rfl<|aK rfl<|aU ?_
     exact cK (false) () h SF .nil (aV.refl _ _)
    refine aI rfl<|aI rfl<|aI rfl<|cI rfl<|aE rfl<|aI rfl<|aI rfl<|aI rfl<|cI rfl<|aE rfl<|aI rfl<|aI rfl<|aI rfl<|cI rfl<|aK rfl<|aU ?_
    exact cK (false) () h SF .nil (aV.refl _ _)
   have h:=sM hp9 h
   refine aI rfl<|aI rfl<|aI rfl<|cI rfl<|aE rfl<|aI rfl<|aI rfl<|aI rfl<|cI rfl<|aE rfl<|aI rfl<|aI rfl<|aI rfl<|cI rfl<|aE rfl<|aI rfl<|aI rfl<|aI rfl<|cI rfl<|aK rfl<|aU ?_
   exact cK (false) () h SF .nil (aV.refl _ _)
  intro a4 b5 h
  unfold jC at h
  refine bE<|aR ?_
  cases h
  exact kF rfl
 refine cC<|aP<|aP<|dD (fun a14=>kM U p0 a14=some r) (fun a14 b15=>[(1,vP b1),(54,vB (a14))]) (fun a14 b15=>[bJ b1 [vS (p0.1),vI (p0.2.1),vI (p0.2.2.1),vI (p0.2.2.2.1),vI (p0.2.2.2.2.1),vI (p0.2.2.2.2.2)] 49]) ?_ ?_
 ·refine aS<|bP rfl<|dC 0 rfl<|fO h fun r28 w29 h=>aT (aW.callQ Dq (tT U  r28 w29) rfl .nil) rfl fun x30=>aJ (fR rfl) rfl<|aE rfl ?_
  refine fY (by exact rfl) (by exact rfl) (fun hp31=>?_) (fun hp31=>?_)
  ·have h:=BK hp31 h
   refine aI rfl<|aI rfl<|aI rfl<|aI rfl<|cE rfl<|aE rfl<|aI rfl<|aI rfl<|aI rfl<|aI rfl<|cE rfl<|aE rfl<|aI rfl<|aI rfl<|aI rfl<|aI rfl<|Ek (h:= ?_)
   refine Ek (h:= ?_)
   refine Ek (h:= ?_)
   refine aI rfl<|cE rfl<|aU ?_
   exact cZ (true) () h SF rfl
  have h:=sM hp31 h
  refine aL rfl (cF rfl rfl rfl rfl rfl) rfl<|aL rfl (cT 0 rfl rfl rfl rfl rfl) rfl<|fO h fun r32 w33 h=>eX rfl (aW.callQ Dq (tT U  r32 w33) rfl .nil) rfl fun x34=>aL rfl (fR rfl) rfl<|cI rfl<|aE rfl ?_
  refine fY (by exact rfl) (by exact rfl) (fun hp35=>?_) (fun hp35=>?_)
  ·have h:=BK hp35 h
   refine aI rfl<|aI rfl<|aI rfl<|aI rfl<|cE rfl<|aE rfl<|aI rfl<|aI rfl<|aI rfl<|aI rfl<|Ek (h:= ?_)
   refine Ek (h:= ?_)
   refine Ek (h:= ?_)
   refine aI rfl<|cE rfl<|aU ?_
   exact cZ (true) () h SF rfl
  have h:=sM hp35 h
  refine aL rfl (cF rfl rfl rfl rfl rfl) rfl<|aL rfl (cT 0 rfl rfl rfl rfl rfl) rfl<|fO h fun r36 w37 h=>eX rfl (aW.callQ Dq (tT U  r36 w37) rfl .nil) rfl fun x38=>aL rfl (fR rfl) rfl<|cI rfl<|aE rfl ?_
  refine fY (by exact rfl) (by exact rfl) (fun hp39=>?_) (fun hp39=>?_)
  ·have h:=BK hp39 h
   refine aI rfl<|aI rfl<|aI rfl<|aI rfl<|Ek (h:= ?_)
   refine Ek (h:= ?_)
   refine Ek (h:= ?_)
   refine aI rfl<|cE rfl<|aU ?_
   exact cZ (true) () h SF rfl
  have h:=sM hp39 h
  refine aL rfl (cF rfl rfl rfl rfl rfl) rfl<|aL rfl (cT 0 rfl rfl rfl rfl rfl) rfl<|aL rfl (CW rfl rfl) rfl<|cP rfl ?_
  refine oD h rfl (fun _ h=>?_) fun _ h=>?_
  ·refine aL rfl (cF rfl rfl rfl rfl rfl) rfl<|aL rfl (cT 0 rfl rfl rfl rfl rfl) rfl<|aL rfl (CW rfl rfl) rfl<|aL rfl (Cu rfl rfl) rfl<|cI rfl<|aU ?_
   exact cZ (decide (p0.2.2.2.2.2≠(0:Int))) () h SF rfl
  refine aI rfl<|aI rfl<|aI rfl<|aL rfl (Ct rfl rfl) rfl<|cI rfl<|aU ?_
  exact cZ (false) () h SF rfl
 intro a14 b15 h
 refine gP h rfl (fun _ h=>?_) fun _ h=>?_
 ·refine aZ<|aK rfl<|aU<|bE<|aR ?_
  cases h
  exact yR rfl
 refine cC<|aP<|aP<|dD (fun a18=>uQ U p0 a18=some r) (fun a18 b19=>[(1,vP b1),(62,vB (a18))]) (fun a18 b19=>[bJ b1 [vS (p0.1),vI (p0.2.1),vI (p0.2.2.1),vI (p0.2.2.2.1),vI (p0.2.2.2.2.1),vI (p0.2.2.2.2.2)] 49]) ?_ ?_
 ·refine aS<|bP rfl<|dC 0 rfl<|dQ rfl<|aE rfl ?_
  refine oD h rfl (fun _ h=>?_) fun _ h=>?_
  ·refine aL rfl (cF rfl rfl rfl rfl rfl) rfl<|aL rfl (cT 0 rfl rfl rfl rfl rfl) rfl<|aL rfl (mU rfl rfl) rfl<|cE rfl<|aU ?_
   exact cZ (decide (p0.2.2.2.2.2=(0:Int))) () h SF rfl
  refine aI rfl<|aI rfl<|aI rfl<|cI rfl<|aU ?_
  exact cZ (false) () h SF rfl
 intro a18 b19 h
 refine gP h rfl (fun _ h=>?_) fun _ h=>?_
 ·refine aZ<|bP rfl<|dC 0 rfl<|fO h fun r21 w22 h=>aT (aW.callQ Dq (tT U  r21 w22) rfl .nil) rfl fun x23=>aK rfl<|aU<|bE<|aR ?_
  cases h
  exact yR rfl
 refine cC<|aZ<|bP rfl<|dC 0 rfl<|fO h fun r24 w25 h=>aT (aW.callQ Dq (tT U  r24 w25) rfl .nil) rfl fun x26=>aK rfl<|aU<|bE ?_
 cases h
 exact yR rfl
end
end Go.Proofs.YthnplbmmlbnelaaGreat
end
section
namespace Go.Proofs.YthnplbmmlbnelaaGreat
open Go Go.Sx
theorem fE {X R:Type} {step:X->(X->Option R)->Option R} {K bad:Option R} (N:Nat) (q:Nat->Bool) (F:Nat->X) (h1:∀(k:Nat) ag,k<N->step (F k) ag=if q k=true then ag (F (k+1))else bad) (h2:∀ag,step (F N) ag=K) (fuel:Nat) (hf:N<fuel):
  bZ step fuel (F 0)=if(List.range N).all q=true then K else bad:=by
 obtain⟨e1,e2⟩:=M_ N (fun k=>q k=true) F (fun k ag hk h=>by rw[h1 k ag hk,if_pos h]) (fun k ag hk h=>by rw[h1 k ag hk,if_neg h]) h2 fuel hf
 by_cases h:(List.range N).all q=true
 ·rw[if_pos h];exact e1 fun k hk=>List.all_eq_true.1 h k (List.mem_range.2 hk)
 ·rw[if_neg h];exact e2 fun h'=>h (List.all_eq_true.2 fun k hk=>h' k (List.mem_range.1 hk))
theorem WJ {α:Type} {K:Bool->α} {c d:Bool} {R:α} (h:R=K d):(if c=true then K c else R)=K (c||d):=by
 cases c
 ·rw[if_neg (by decide),h];rfl
 ·rfl
def YO (p:ByteArray):Bool:=((eR p (ByteArray.mk #[112,114,111,103,114,97,109]))||((eR p (ByteArray.mk #[118,97,114]))||((eR p (ByteArray.mk #[114,117,108,101]))||((eR p (ByteArray.mk #[98,111,111,108]))||((eR p (ByteArray.mk #[112,111,114,116]))||((eR p (ByteArray.mk #[116,114,117,101]))||((eR p (ByteArray.mk #[102,97,108,115,101]))||(eR p (ByteArray.mk #[110,111,110,101])))))))))
def XP (p:ByteArray):Bool:=((eR p (ByteArray.mk #[110]))||((eR p (ByteArray.mk #[105,100,115]))||((eR p (ByteArray.mk #[105,100]))||((eR p (ByteArray.mk #[100,101,103]))||((eR p (ByteArray.mk #[114,111,111,116]))||((eR p (ByteArray.mk #[113]))||((eR p (ByteArray.mk #[119,101,105,103,104,116]))||(eR p (ByteArray.mk #[98,97,99,107])))))))))
def wdC (p:ByteArray):Bool:=((eR p (ByteArray.mk #[97,108,108]))||((eR p (ByteArray.mk #[115,111,109,101]))||((eR p (ByteArray.mk #[99,111,117,110,116]))||((eR p (ByteArray.mk #[102,105,114,115,116]))||((eR p (ByteArray.mk #[109,105,110]))||((eR p (ByteArray.mk #[109,97,120]))||((eR p (ByteArray.mk #[115,117,109]))||((eR p (ByteArray.mk #[109,101,120]))||((eR p (ByteArray.mk #[115,101,99,111,110,100]))||(eR p (ByteArray.mk #[104,101,97,100])))))))))))
def wd (p:ByteArray):Bool:=YO p||(XP p||wdC p)
theorem Xx (p:ByteArray) (a:Bool):fT p a=some (a||wdC p):=by
 unfold fT
 have h:∀b,fF b=some b:=fun b=>by cases b<;>rfl
 cases a
 ·rw[if_neg (by decide),Bool.false_or,<-h]
  unfold wdC
  repeat refine WJ ?_
  rfl
 ·rfl
theorem Xw (p:ByteArray) (a:Bool):fS p a=some (a||(XP p||wdC p)):=by
 unfold fS
 cases a
 ·rw[if_neg (by decide),Bool.false_or,<-Xx]
  unfold XP
  repeat refine WJ ?_
  rfl
 ·rfl
theorem YN (F:Nat) (p:ByteArray):uH F p=some (wd p):=by
 unfold uH wd
 rw[<-Xw]
 unfold YO
 repeat refine WJ ?_
 rfl
theorem Xb (p:ByteArray) (a:Bool):dI p a=some (a||wdC p):=by
 unfold dI
 have h:∀b,fG b=some b:=fun b=>by cases b<;>rfl
 cases a
 ·rw[if_neg (by decide),Bool.false_or,<-h]
  unfold wdC
  repeat refine WJ ?_
  rfl
 ·rfl
theorem YG (F:Nat) (p:ByteArray):uJ F p=some (wd p):=by
 unfold uJ
 have e:wd p=((((eR p (ByteArray.mk #[112,114,111,103,114,97,109]))||((eR p (ByteArray.mk #[118,97,114]))||((eR p (ByteArray.mk #[114,117,108,101]))||((eR p (ByteArray.mk #[98,111,111,108]))||((eR p (ByteArray.mk #[112,111,114,116]))||((eR p (ByteArray.mk #[116,114,117,101]))||((eR p (ByteArray.mk #[102,97,108,115,101]))||((eR p (ByteArray.mk #[110,111,110,101]))||((eR p (ByteArray.mk #[110]))||((eR p (ByteArray.mk #[105,100,115]))||((eR p (ByteArray.mk #[105,100]))||((eR p (ByteArray.mk #[100,101,103]))||((eR p (ByteArray.mk #[114,111,111,116]))||((eR p (ByteArray.mk #[113]))||((eR p (ByteArray.mk #[119,101,105,103,104,116]))||(eR p (ByteArray.mk #[98,97,99,107]))))))))))))))))))||wdC p):=by
  unfold wd YO XP
  simp only[Bool.or_assoc]
 rw[e,<-Xb]
 repeat refine WJ ?_
 rfl
def HY (b:Int):Bool:=(decide (97<=b)&&decide (b<=122))||(decide (65<=b)&&decide (b<=90))
def MR (b:Int):Bool:=decide (48<=b)&&decide (b<=57)
def Mo (b:Int):Bool:=HY b||(MR b||decide (b=95))
theorem Xm (F:Nat) (b:Int):tF F b=some (HY b):=by
 unfold tF kC HY
 by_cases h1:97<=b<;>by_cases h2:b<=122<;>by_cases h3:65<=b<;>simp[h1,h2,h3]
theorem YM (F:Nat) (b:Int):zQ F b=some (MR b):=by
 unfold zQ tD MR
 by_cases h1:48<=b<;>simp[h1]
theorem tIn (F:Nat) (b:Int):xY F b=some (Mo b):=by
 unfold xY oE Mo
 rw[bU (Xm F b),bU (YM F b)]
 cases HY b<;>cases MR b<;>simp
theorem WY (F:Nat) (b:Int):tG F b=some (HY b):=by
 unfold tG kD HY
 by_cases h1:97<=b<;>by_cases h2:b<=122<;>by_cases h3:65<=b<;>simp[h1,h2,h3]
theorem YE (F:Nat) (b:Int):zR F b=some (MR b):=by
 unfold zR tJ MR
 by_cases h1:48<=b<;>simp[h1]
theorem rIn (F:Nat) (b:Int):zS F b=some (Mo b):=by
 unfold zS p_ Mo
 rw[bU (WY F b),bU (YE F b)]
 cases HY b<;>cases MR b<;>simp
def KU (p:ByteArray):Bool:=decide (1<=p.size)&&decide (p.size<=24)&&HY (IJ p 0)&&(List.range p.size).all (fun k=>Mo (IJ p (k:Int))) && !wd p
theorem RY (F:Nat) (p:ByteArray) (hF:100<=F):uG F p=some (KU p):=by
 unfold uG vD KU
 by_cases h1:1<=p.size
 ·by_cases h2:p.size<=24
  ·rw[if_neg (by omega),if_neg (by omega),eP (by omega),bU (Xm F _)]
   have:=fE (step:=vE F p) (K:=zO F p ()) (bad:=some false) p.size (fun k=>Mo (IJ p (k:Int))) (fun k=>(k:Int)) (fun k ag hk=>by
    unfold vE
    rw[if_pos (by omega),eP (by omega),bU (tIn F _),wr (by omega) (by omega)]
    cases Mo (IJ p (k:Int))<;>simp) (fun ag=>by unfold vE;rw[if_neg (by omega)]) F (by omega)
   rw[show((0:Nat):Int)=0 from rfl]at this
   rw[this]
   unfold zO
   rw[bU (YN F p)]
   cases HY (IJ p 0)<;>cases (List.range p.size).all (fun k=>Mo (IJ p (k:Int)))<;>simp[h1,h2]
  ·rw[if_neg (by omega),if_pos (by omega)];simp[h2]
 ·rw[if_pos (by omega)];simp[h1]
theorem RD (F:Nat) (p:ByteArray) (hF:100<=F):uI F p=some (KU p):=by
 unfold uI vJ KU
 by_cases h1:1<=p.size
 ·by_cases h2:p.size<=24
  ·rw[if_neg (by omega),if_neg (by omega),eP (by omega),bU (WY F _)]
   have:=fE (step:=vK F p) (K:=Aa F p ()) (bad:=some false) (p.size - 1) (fun k=>Mo (IJ p ((k+1:Nat):Int))) (fun k=>((k+1:Nat):Int)) (fun k ag hk=>by
    unfold vK
    rw[if_pos (by omega),eP (by omega),bU (rIn F _),wr (by omega) (by omega),show(((k+1:Nat):Int)+1)=((k+1+1:Nat):Int) by omega]
    cases Mo (IJ p ((k+1:Nat):Int))<;>simp) (fun ag=>by unfold vK;rw[if_neg (by omega)]) F (by omega)
   rw[show((0+1:Nat):Int)=1 from rfl]at this
   rw[this]
   unfold Aa
   rw[bU (YG F p)]
   have e:(List.range p.size).all (fun k=>Mo (IJ p (k:Int)))=(Mo (IJ p 0)&&(List.range (p.size - 1)).all (fun k=>Mo (IJ p ((k+1:Nat):Int)))):=by
    obtain⟨m,hm⟩:∃m,p.size=m+1:=⟨p.size - 1,by omega⟩
    rw[hm,List.range_succ_eq_map,Nat.add_sub_cancel,List.all_cons,List.all_map]
    rfl
   rw[e]
   have hl:HY (IJ p 0)=true->Mo (IJ p 0)=true:=fun h=>by unfold Mo;rw[h];rfl
   cases hL:HY (IJ p 0)
   ·simp
   ·rw[hl hL]
    cases (List.range (p.size - 1)).all (fun k=>Mo (IJ p ((k+1:Nat):Int)))<;>simp[h1,h2]
  ·rw[if_neg (by omega),if_pos (by omega)];simp[h2]
 ·rw[if_pos (by omega)];simp[h1]
abbrev VR:=Br
theorem OA (F:Nat) (x a b:Int):iP F x a b=some (decide (a<=x)&&decide (x<=b)):=by
 unfold iP sB
 by_cases h:a<=x<;>simp[h]
theorem Hs (F:Nat) (x a b:Int):mX F x a b=some (decide (a<=x)&&decide (x<=b)):=by
 unfold mX AA
 by_cases h:a<=x<;>simp[h]
def EW (v:VR):Bool:=
 if v.2.1≠1 then Nc v.2.1&&decide (v.2.2.1=0)&&decide (v.2.2.2.1=0)&&decide (v.2.2.2.2.1=0)&&decide (v.2.2.2.2.2=0)
 else decide (0<=v.2.2.1)&&decide (v.2.2.1<=4096)&&decide (0<=v.2.2.2.2.1)&&decide (v.2.2.2.2.1<=255)&&decide (0<=v.2.2.2.2.2)&&decide (v.2.2.2.2.2<=255) &&
  (if v.2.2.2.2.1=0∧v.2.2.2.2.2=0 then decide (0<=v.2.2.2.1)&&decide (v.2.2.2.1<=4096)else(decide (v.2.2.2.2.1=0∨v.2.2.2.2.2=0)&&decide (-4096<=v.2.2.2.1)&&decide (v.2.2.2.1<=4096)))
theorem Xp (F:Nat) (v:VR):wO F v=some (EW v):=by
 obtain⟨nm,k,lo,hi,a,b⟩:=v
 unfold wO kS qO uT mR EW
 simp only[Xr,OA,Option.bind_some]
 by_cases hk:k=1
 ·subst hk
  by_cases h1:0<=lo<;>by_cases h2:lo<=4096<;>by_cases h3:0<=a<;>by_cases h4:a<=255<;>by_cases h5:0<=b<;>by_cases h6:b<=255<;>simp[Nc,h1,h2,h3,h4,h5,h6]<;>by_cases h7:a=0<;>by_cases h8:b=0<;>simp[h7,h8]
 ·cases hK:Nc k
  ·simp[hk]
  ·by_cases h1:lo=0<;>by_cases h2:hi=0<;>by_cases h3:a=0<;>simp[hk,h1,h2,h3]
theorem W_ (F:Nat) (v:VR):wM F v=some (EW v):=by
 obtain⟨nm,k,lo,hi,a,b⟩:=v
 unfold wM jC kM uQ EW
 simp only[VJ,Hs,Option.bind_some]
 by_cases hk:k=1
 ·subst hk
  by_cases h1:0<=lo<;>by_cases h2:lo<=4096<;>by_cases h3:0<=a<;>by_cases h4:a<=255<;>by_cases h5:0<=b<;>by_cases h6:b<=255<;>simp[Nc,h1,h2,h3,h4,h5,h6]<;>by_cases h7:a=0<;>by_cases h8:b=0<;>simp[h7,h8]
 ·cases hK:Nc k
  ·simp[hk]
  ·by_cases h1:lo=0<;>by_cases h2:hi=0<;>by_cases h3:a=0<;>simp[hk,h1,h2,h3]
end Go.Proofs.YthnplbmmlbnelaaGreat
end
section
namespace Go.Proofs.YthnplbmmlbnelaaGreat
open Go.Sx
section
def t_  (a10:Unit):Option (Bool):=
 some (true)
def zC (p0:cH) (a15:OD) (ag14:OC->Option (Bool)) (a25:Bool):Option (Bool):=
 if a25=true then(some (false))else(ag14 ((wI .i64 (a15.1+(1:Int))),(AK ((at' p0.2.2 a15.1).1) true a15.2)))
def nM (U:Nat) (p0:cH) (a15:OD) (ag14:OC->Option (Bool)):Option (Bool):=
 if a15.1<(List.length p0.2.2:Int)then(ck (0<=a15.1∧a15.1<(List.length p0.2.2:Int)) (Option.bind (uG U ((at' p0.2.2 a15.1).1)) fun r28=>(if(!r28)=true then(zC p0 a15 ag14 (true))else(zC p0 a15 ag14 ((Option.getD (uN ((at' p0.2.2 a15.1).1) a15.2) false))))))else(t_  (()))
def tZ (U:Nat) (p0:cH) (a7:Unit):Option (Bool):=
 bZ (nM U p0) U ((0:Int),([]:List (ByteArray×Bool)))
def zD (p0:cH) (a35:OD) (ag34:OC->Option (Bool)) (a42:Bool):Option (Bool):=
 if a42=true then(some (false))else(ag34 ((wI .i64 (a35.1+(1:Int))),(AK ((at' p0.2.1 a35.1).1) true a35.2)))
def nN (U:Nat) (p0:cH) (a35:OD) (ag34:OC->Option (Bool)):Option (Bool):=
 if a35.1<(List.length p0.2.1:Int)then(ck (0<=a35.1∧a35.1<(List.length p0.2.1:Int)) (Option.bind (uG U ((at' p0.2.1 a35.1).1)) fun r45=>(if(!r45)=true then(zD p0 a35 ag34 (true))else(zD p0 a35 ag34 ((Option.getD (uN ((at' p0.2.1 a35.1).1) a35.2) false))))))else(tZ U p0 (()))
def zZ (U:Nat) (p0:cH):Option (Bool):=
 Option.bind (uG U p0.1) fun r2=>(if(!r2)=true then(some (false))else(bZ (nN U p0) U ((0:Int),([]:List (ByteArray×Bool)))))
theorem UV:bO Tryz.prog 73:=Tryz.call73
theorem IW (U:Nat) {p0:cH} (v0:Value)  (v1:Value) (r:Bool) (h:zZ U p0=some r):
  bQ Tryz.prog 73 #[Value.agg #[vS (p0.1),v0,v1]] [Sl aF v0 p0.2.1,Sl aD v1 p0.2.2] (fun x:Unit=>vB (r)) (fun x l=>l) (fun _ l=>l):=by
 refine bQ.of Tryz.func73 rfl Tryz.ntmps73 rfl fun c=>?_
 refine aZ<|aT (aW.box (cs:=[vS (p0.1),v0,v1]) rfl rfl) rfl fun b1=>aK rfl<|aU<|aP<|aZ<|bP rfl<|dC 0 rfl<|fO h fun r2 w3 h=>aT (aW.callQ JU (CO U  r2 w3) rfl .nil) rfl fun x4=>aJ (fR rfl) rfl<|aU ?_
 refine gP h rfl (fun _ h=>?_) fun _ h=>?_
 ·refine aZ<|aK rfl<|aU<|bE<|aR ?_
  cases h
  exact yR rfl
 refine cC<|aZ<|aT (aW.makeMap PN TR) rfl fun b6=>aK rfl<|aU<|aP<|dD (fun a7=>tZ U p0 a7=some r) (fun a7 b8=>[(1,vP b1)]) (fun a7 b8=>[bJ b1 [vS (p0.1),v0,v1] 25]) ?_ ?_
 ·refine aZ<|bP rfl<|dC 1 rfl<|eC (dN rfl) rfl<|aE rfl<|aU<|aY<|fW (nN U p0) (fun a35 b36=>[(1,vP b1),(3,Value.map (some b6)),(15,v0),(16,vI (List.length p0.2.1:Int)),(17,vI (a35.1))]) (fun a35 b36=>[Mp PN TR b6 a35.2,bJ b1 [vS (p0.1),v0,v1] 25]) ((0:Int),([]:List (ByteArray×Bool))) () h SF (bH.refl _) ?_
  intro k37 a35 b36 h
  refine aZ<|dL rfl<|aU<|aP ?_
  refine gT h rfl (fun h=>?_) fun h=>?_
  ·refine cC<|aP<|aY<|aZ<|fJ h fun j39 h=>aJ (a_ rfl rfl (dN rfl) rfl rfl j39) rfl<|aJ (gI (cs:=[vS ((at' p0.2.1 a35.1).1),vI ((at' p0.2.1 a35.1).2.1),vI ((at' p0.2.1 a35.1).2.2.1),vI ((at' p0.2.1 a35.1).2.2.2.1),vI ((at' p0.2.1 a35.1).2.2.2.2.1),vI ((at' p0.2.1 a35.1).2.2.2.2.2)]) rfl (dN rfl) aQ rfl rfl rfl rfl j39) rfl<|aT (aW.alloc (cs:=XO) rfl rfl) rfl fun b40=>bL 0 (vs:=[vS ((at' p0.2.1 a35.1).1),vI ((at' p0.2.1 a35.1).2.1),vI ((at' p0.2.1 a35.1).2.2.1),vI ((at' p0.2.1 a35.1).2.2.2.1),vI ((at' p0.2.1 a35.1).2.2.2.2.1),vI ((at' p0.2.1 a35.1).2.2.2.2.2)]) rfl rfl rfl rfl rfl rfl<|aU<|aP<|aP<|dD (fun a42=>zD p0 a35 (bZ (nN U p0) k37) a42=some r) (fun a42 b43=>[(1,vP b1),(3,Value.map (some b6)),(5,vP b40),(15,v0),(16,vI (List.length p0.2.1:Int)),(17,vI (a35.1)),(30,vB (a42))]) (fun a42 b43=>[bJ b40 [vS ((at' p0.2.1 a35.1).1),vI ((at' p0.2.1 a35.1).2.1),vI ((at' p0.2.1 a35.1).2.2.1),vI ((at' p0.2.1 a35.1).2.2.2.1),vI ((at' p0.2.1 a35.1).2.2.2.2.1),vI ((at' p0.2.1 a35.1).2.2.2.2.2)] 49,Mp PN TR b6 a35.2,bJ b1 [vS (p0.1),v0,v1] 25]) ?_ ?_
   ·refine aS<|bP rfl<|dC 0 rfl<|fO h fun r45 w46 h=>aT (aW.callQ JU (CO U  r45 w46) rfl .nil) rfl fun x47=>aJ (fR rfl) rfl<|aE rfl ?_
    refine fY (by exact rfl) (by exact rfl) (fun hp48=>?_) (fun hp48=>?_)
    ·have h:=BK hp48 h
     refine aI rfl<|aI rfl<|aI rfl<|aI rfl<|cE rfl<|aU ?_
     exact cZ (true) () h SF rfl
    have h:=sM hp48 h
    refine cP rfl<|aL rfl (cF rfl rfl rfl rfl rfl) rfl<|aL rfl (cT 0 rfl rfl rfl rfl rfl) rfl ?_
    refine aL rfl (HB 1 ((at' p0.2.1 a35.1).1) (u:=vB ((Option.getD (uN ((at' p0.2.1 a35.1).1) a35.2) false))) Oe rfl rfl rfl rfl rfl (by cases uN ((at' p0.2.1 a35.1).1) a35.2<;>rfl)) rfl ?_
    refine cI rfl<|aU ?_
    exact cZ ((Option.getD (uN ((at' p0.2.1 a35.1).1) a35.2) false)) () h SF rfl
   intro a42 b43 h
   refine gP h rfl (fun _ h=>?_) fun _ h=>?_
   ·refine aZ<|aK rfl<|aU<|bE<|aR<|cG<|aR<|aR<|cG<|aR ?_
    cases h
    exact yR rfl
   refine cC<|aS<|aE rfl<|bP rfl<|dC 0 rfl<|Df 1 ((at' p0.2.1 a35.1).1) true Oe rfl rfl rfl rfl rfl<|fQ<|lP<|aS<|dM rfl<|aE rfl<|aU ?_
   exact dZ ((wI .i64 (a35.1+(1:Int))),(AK ((at' p0.2.1 a35.1).1) true a35.2)) () h SF (bH.ix [1,2] rfl rfl) (aV.refl _ _)
  refine eQ ?_
  exact cK () (()) h SF (bH.ix [1] rfl rfl) (aV.refl _ _)
 intro a7 b8 h
 unfold tZ at h
 refine aZ<|aT (aW.makeMap PN TR) rfl fun b9=>aK rfl<|aU<|aP<|dD (fun a10=>t_  a10=some r) (fun a10 b11=>[]) (fun a10 b11=>[]) ?_ ?_
 ·refine aZ<|bP rfl<|dC 1 rfl<|eC (fP rfl) rfl<|aE rfl<|aU<|aY<|fW (nM U p0) (fun a15 b16=>[(6,Value.map (some b9)),(37,v1),(38,vI (List.length p0.2.2:Int)),(39,vI (a15.1))]) (fun a15 b16=>[Mp PN TR b9 a15.2]) ((0:Int),([]:List (ByteArray×Bool))) () h SF (bH.ix [0] rfl rfl) ?_
  intro k17 a15 b16 h
  refine aZ<|dL rfl<|aU<|aP ?_
  refine gT h rfl (fun h=>?_) fun h=>?_
  ·refine cC<|aP<|aY<|aZ<|fJ h fun j19 h=>aJ (a_ rfl rfl (fP rfl) rfl rfl j19) rfl<|mS (v:=v1) (ds:=p0.2.2) aO (fP rfl) fun us20=>?_
   refine cJ (bD ((e_ (bT (f:=aC) (fP rfl) j19.1 (by first|exact j19.2|simpa using j19.2))):aM _ _ (Sl bF ((at' us20 a15.1).1) ((at' p0.2.2 a15.1).2.1)))) ?_
   refine cJ (bD ((fA (bT (f:=aC) (rA rfl) j19.1 (by first|exact j19.2|simpa using j19.2))):aM _ _ (Sl aX ((at' us20 a15.1).2) ((at' p0.2.2 a15.1).2.2)))) ?_
   refine aJ (dY (cs:=[vS ((at' p0.2.2 a15.1).1),(at' us20 a15.1).1,(at' us20 a15.1).2]) rfl (rA rfl) rfl rfl rfl rfl ⟨j19.1,by first|exact j19.2|simpa using j19.2⟩) rfl<|aT (aW.alloc (cs:=fL) rfl rfl) rfl fun b21=>bY (Know.one ((fP rfl))) fun ho22=>bY (Know.one ((dN rfl))) fun ho23=>bL 0 (vs:=[vS ((at' p0.2.2 a15.1).1),(at' us20 a15.1).1,(at' us20 a15.1).2]) rfl rfl (cR rfl (cR ho22 (cR ho23 rfl))) rfl rfl rfl<|aU<|aP<|aP<|iM (B:=Unit) (fun a25=>zC p0 a15 (bZ (nM U p0) k17) a25=some r) (fun a25 b26=>[(6,Value.map (some b9)),(8,Value.pointer (some ⟨b21,0,none⟩)),(37,v1),(38,vI (List.length p0.2.2:Int)),(39,vI (a15.1)),(52,vB (a25))]) (fun a25 b26=>[bJ b21 [vS ((at' p0.2.2 a15.1).1),(at' us20 a15.1).1,(at' us20 a15.1).2] 42,Mp PN TR b9 a15.2]) (fun a25 b26=>[Sl aX ((at' us20 a15.1).2) ((at' p0.2.2 a15.1).2.2),Sl bF ((at' us20 a15.1).1) ((at' p0.2.2 a15.1).2.1),Rz aG v1 us20 p0.2.2,Pw aC us20 p0.2.2,Sl aF v0 p0.2.1,Sl aD v1 p0.2.2]) ?_ ?_
   ·refine aS<|bP rfl<|dC 0 rfl<|fO h fun r28 w29 h=>aT (aW.callQ JU (CO U  r28 w29) rfl .nil) rfl fun x30=>aJ (fR rfl) rfl<|aE rfl ?_
    refine fY (by exact rfl) (by exact rfl) (fun hp31=>?_) (fun hp31=>?_)
    ·have h:=BK hp31 h
     refine aI rfl<|aI rfl<|aI rfl<|aI rfl<|cE rfl<|aU ?_
     exact cZ (true) () h SF rfl
    have h:=sM hp31 h
    refine cP rfl<|aL rfl (cF rfl rfl rfl rfl rfl) rfl<|aL rfl (cT 0 rfl rfl rfl rfl rfl) rfl ?_
    refine aL rfl (HB 1 ((at' p0.2.2 a15.1).1) (u:=vB ((Option.getD (uN ((at' p0.2.2 a15.1).1) a15.2) false))) Oe rfl rfl rfl rfl rfl (by cases uN ((at' p0.2.2 a15.1).1) a15.2<;>rfl)) rfl ?_
    refine cI rfl<|aU ?_
    exact cZ ((Option.getD (uN ((at' p0.2.2 a15.1).1) a15.2) false)) () h SF rfl
   intro a25 b26 h
   refine gP h rfl (fun _ h=>?_) fun _ h=>?_
   ·refine aZ<|aK rfl<|aU<|bE<|aR<|cG<|aR<|aR<|cG<|aR ?_
    cases h
    exact yR rfl
   refine cC<|aS<|aE rfl<|bP rfl<|dC 0 rfl<|Df 1 ((at' p0.2.2 a15.1).1) true Oe rfl rfl rfl rfl rfl<|fQ<|lP<|aS<|dM rfl<|aE rfl<|aU ?_
   exact dZ ((wI .i64 (a15.1+(1:Int))),(AK ((at' p0.2.2 a15.1).1) true a15.2)) () h SF (bH.ix [1] rfl rfl) (gO [4,5] rfl)
  refine eQ ?_
  exact cK () (()) h SF .nil (aV.refl _ _)
 intro a10 b11 h
 unfold t_ at h
 refine aZ<|aK rfl<|aU<|bE ?_
 cases h
 exact kF rfl
end
section
def rV  (a7:Unit):Option (Bool):=
 some (true)
def rW (p0:qZ) (a12:Int×(List (Int×Bool))) (ag11:(Int×(List (Int×Bool)))->Option (Bool)) (a21:Bool):Option (Bool):=
 if a21=true then(some (false))else(ag11 ((wI .i64 (a12.1+(1:Int))),(AK ((at' p0.2.2 a12.1).1) true a12.2)))
def lW (U:Nat) (p0:qZ) (p1:Int) (a12:Int×(List (Int×Bool))) (ag11:(Int×(List (Int×Bool)))->Option (Bool)):Option (Bool):=
 if a12.1<(List.length p0.2.2:Int)then(ck (0<=a12.1∧a12.1<(List.length p0.2.2:Int)) (Option.bind (iP U ((at' p0.2.2 a12.1).1) (0:Int) (wI .i64 (p1 - (1:Int)))) fun r24=>(if(!r24)=true then(rW p0 a12 ag11 (true))else(if(Option.getD (uN ((at' p0.2.2 a12.1).1) a12.2) false)=true then(rW p0 a12 ag11 (true))else(Option.bind (iR U ((at' p0.2.2 a12.1).2) p1) fun r29=>(rW p0 a12 ag11 ((!r29))))))))else(rV  (()))
def rU (U:Nat) (p0:qZ) (p1:Int) (a3:Bool):Option (Bool):=
 if a3=true then(some (false))else(bZ (lW U p0 p1) U ((0:Int),([]:List (Int×Bool))))
def yD (U:Nat) (p0:qZ) (p1:Int):Option (Bool):=
 if(List.length p0.2.2:Int)=(0:Int)then(rU U p0 p1 (true))else(if(6:Int)<(List.length p0.2.2:Int)then(rU U p0 p1 (true))else(Option.bind (iR U p0.2.1 p1) fun r34=>(rU U p0 p1 ((!r34)))))
theorem UX:bO Tryz.prog 75:=Tryz.call75
theorem Iw (U:Nat) {p0:qZ} {p1:Int} (v0:Value)  (v1:Value) (r:Bool) (h:yD U p0 p1=some r):
  bQ Tryz.prog 75 #[Value.agg #[vS (p0.1),v0,v1],vI (p1)] [Sl bF v0 p0.2.1,Sl aX v1 p0.2.2] (fun x:Unit=>vB (r)) (fun x l=>l) (fun _ l=>l):=by
 refine bQ.of Tryz.func75 rfl Tryz.ntmps75 rfl fun c=>?_
 refine aZ<|aT (aW.box (cs:=[vS (p0.1),v0,v1]) rfl rfl) rfl fun b1=>aK rfl<|aU<|aP<|aP<|dD (fun a3=>rU U p0 p1 a3=some r) (fun a3 b4=>[(1,vI (p1)),(2,vP b1),(24,vB (a3))]) (fun a3 b4=>[bJ b1 [vS (p0.1),v0,v1] 42]) ?_ ?_
 ·refine aS<|bP rfl<|dC 0 rfl<|eC (fP rfl) rfl<|dQ rfl<|aE rfl ?_
  refine oD h rfl (fun _ h=>?_) fun _ h=>?_
  ·refine aI rfl<|aI rfl<|aI rfl<|aI rfl<|cE rfl<|aE rfl<|aI rfl<|aI rfl<|aI rfl<|aI rfl<|aI rfl<|cE rfl<|aU ?_
   exact cZ (true) () h SF rfl
  refine aL rfl (cF rfl rfl rfl rfl rfl) rfl<|aL rfl (cT 0 rfl rfl rfl rfl rfl) rfl<|aL rfl (dR rfl (fP rfl) rfl) rfl<|aL rfl (kT rfl rfl) rfl<|cI rfl<|aE rfl ?_
  refine oD h rfl (fun _ h=>?_) fun _ h=>?_
  ·refine aI rfl<|aI rfl<|aI rfl<|aI rfl<|aI rfl<|cE rfl<|aU ?_
   exact cZ (true) () h SF rfl
  refine aL rfl (cF rfl rfl rfl rfl rfl) rfl<|aL rfl (cT 0 rfl rfl rfl rfl rfl) rfl<|cP rfl<|fO h fun r34 w35 h=>eX rfl (aW.callQ HG (yU U v0 r34 w35) rfl (gO [0] rfl)) rfl fun x36=>aL rfl (fR rfl) rfl<|cI rfl<|aU ?_
  exact cZ ((!r34)) () h SF rfl
 intro a3 b4 h
 refine gP h rfl (fun _ h=>?_) fun _ h=>?_
 ·refine aZ<|aK rfl<|aU<|bE<|aR ?_
  cases h
  exact yR rfl
 refine cC<|aZ<|aT (aW.makeMap IY TR) rfl fun b6=>aK rfl<|aU<|aP<|dD (fun a7=>rV  a7=some r) (fun a7 b8=>[]) (fun a7 b8=>[]) ?_ ?_
 ·refine aZ<|bP rfl<|dC 1 rfl<|eC (fP rfl) rfl<|aE rfl<|aU<|aY<|fW (lW U p0 p1) (fun a12 b13=>[(1,vI (p1)),(5,Value.map (some b6)),(27,v1),(28,vI (List.length p0.2.2:Int)),(29,vI (a12.1))]) (fun a12 b13=>[Mp IY TR b6 a12.2]) ((0:Int),([]:List (Int×Bool))) () h SF (bH.ix [0] rfl rfl) ?_
  intro k14 a12 b13 h
  refine aZ<|dL rfl<|aU<|aP ?_
  refine gT h rfl (fun h=>?_) fun h=>?_
  ·refine cC<|aP<|aY<|aZ<|fJ h fun j16 h=>aJ (a_ rfl rfl (fP rfl) rfl rfl j16) rfl<|mS (v:=v1) (ds:=p0.2.2) bK (fP rfl) fun us17=>?_
   refine cJ (bD ((bT (f:=bW) (fP rfl) j16.1 (by first|exact j16.2|simpa using j16.2)):aM _ _ (Sl bF (at' us17 a12.1) ((at' p0.2.2 a12.1).2)))) ?_
   refine aJ (dY (cs:=[vI ((at' p0.2.2 a12.1).1),at' us17 a12.1]) rfl (fP rfl) rfl rfl rfl rfl ⟨j16.1,by first|exact j16.2|simpa using j16.2⟩) rfl<|aT (aW.alloc (cs:=[vI (0:Int),fX]) rfl rfl) rfl fun b18=>bY (Know.one ((dN rfl))) fun ho19=>bL 0 (vs:=[vI ((at' p0.2.2 a12.1).1),at' us17 a12.1]) rfl rfl (cR rfl (cR ho19 rfl)) rfl rfl rfl<|aU<|aP<|aP<|iM (B:=Unit) (fun a21=>rW p0 a12 (bZ (lW U p0 p1) k14) a21=some r) (fun a21 b22=>[(1,vI (p1)),(5,Value.map (some b6)),(7,Value.pointer (some ⟨b18,0,none⟩)),(27,v1),(28,vI (List.length p0.2.2:Int)),(29,vI (a12.1)),(51,vB (a21))]) (fun a21 b22=>[bJ b18 [vI ((at' p0.2.2 a12.1).1),at' us17 a12.1] 44,Mp IY TR b6 a12.2]) (fun a21 b22=>[Sl bF (at' us17 a12.1) ((at' p0.2.2 a12.1).2),Rz bI v1 us17 p0.2.2,Pw bW us17 p0.2.2,Sl bF v0 p0.2.1,Sl aX v1 p0.2.2]) ?_ ?_
   ·refine aS<|bP rfl<|dC 0 rfl<|aE rfl<|aJ (sY rfl rfl) rfl<|fO h fun r24 w25 h=>aT (aW.callQ Cw (nI U  r24 w25) rfl .nil) rfl fun x26=>aJ (fR rfl) rfl<|aE rfl ?_
    refine fY (by exact rfl) (by exact rfl) (fun hp27=>?_) (fun hp27=>?_)
    ·have h:=BK hp27 h
     refine aI rfl<|aI rfl<|aI rfl<|aI rfl<|cE rfl<|aE rfl<|aI rfl<|aI rfl<|aI rfl<|aI rfl<|aI rfl<|cE rfl<|aU ?_
     exact cZ (true) () h SF rfl
    have h:=sM hp27 h
    refine cP rfl<|aL rfl (cF rfl rfl rfl rfl rfl) rfl<|aL rfl (cT 0 rfl rfl rfl rfl rfl) rfl ?_
    refine aL rfl (HB 1 ((at' p0.2.2 a12.1).1) (u:=vB ((Option.getD (uN ((at' p0.2.2 a12.1).1) a12.2) false))) Ui rfl rfl rfl rfl rfl (by cases uN ((at' p0.2.2 a12.1).1) a12.2<;>rfl)) rfl ?_
    refine cI rfl<|aE rfl ?_
    refine fY (by exact rfl) (by exact rfl) (fun hp28=>?_) (fun hp28=>?_)
    ·have h:=BK hp28 h
     refine aI rfl<|aI rfl<|aI rfl<|aI rfl<|aI rfl<|cE rfl<|aU ?_
     exact cZ (true) () h SF rfl
    have h:=sM hp28 h
    refine aL rfl (cF rfl rfl rfl rfl rfl) rfl<|aL rfl (cT 0 rfl rfl rfl rfl rfl) rfl<|cP rfl<|fO h fun r29 w30 h=>eX rfl (aW.callQ HG (yU U (at' us17 a12.1) r29 w30) rfl (gO [0] rfl)) rfl fun x31=>aL rfl (fR rfl) rfl<|cI rfl<|aU ?_
    exact cZ ((!r29)) () h SF rfl
   intro a21 b22 h
   refine gP h rfl (fun _ h=>?_) fun _ h=>?_
   ·refine aZ<|aK rfl<|aU<|bE<|aR<|cG<|aR<|aR<|cG<|aR ?_
    cases h
    exact yR rfl
   refine cC<|aS<|aE rfl<|bP rfl<|dC 0 rfl<|Df 1 ((at' p0.2.2 a12.1).1) true Ui rfl rfl rfl rfl rfl<|fQ<|lP<|aS<|dM rfl<|aE rfl<|aU ?_
   exact dZ ((wI .i64 (a12.1+(1:Int))),(AK ((at' p0.2.2 a12.1).1) true a12.2)) () h SF (bH.ix [1] rfl rfl) (gO [3,4] rfl)
  refine eQ ?_
  exact cK () (()) h SF .nil (aV.refl _ _)
 intro a7 b8 h
 unfold rV at h
 refine aZ<|aK rfl<|aU<|bE ?_
 cases h
 exact kF rfl
end
section
def zB  (a5:cU):Option cU:=
 some (a5)
def tY (p0:cH) (a10:Int×cU) (ag9:(Int×cU)->Option cU):Option cU:=
 if a10.1<(List.length p0.2.1:Int)then(ck (0<=a10.1∧a10.1<(List.length p0.2.1:Int)) (ck (0<=a10.1∧a10.1<(List.length a10.2:Int)) (ag9 ((wI .i64 (a10.1+(1:Int))),(List.set a10.2 (Int.toNat a10.1) ((at' p0.2.1 a10.1).2.1))))))else(zB  (a10.2))
def zY (U:Nat) (p0:cH):Option cU:=
 ck (0<=(List.length p0.2.1:Int)∧(List.length p0.2.1:Int)<=1099511627) (bZ (tY p0) U ((0:Int),(List.replicate (Int.toNat (List.length p0.2.1:Int)) (0:Int))))
theorem UY:bO Tryz.prog 76:=Tryz.call76
theorem IV (U:Nat) {p0:cH} (v0:Value)  (v1:Value) (r:cU) (h:zY U p0=some r):
  bQ Tryz.prog 76 #[Value.agg #[vS (p0.1),v0,v1]] [Sl aF v0 p0.2.1,Sl aD v1 p0.2.2] (fun x:Value=>x) (fun x l=>Ar gZ x r::l) (fun _ l=>l):=by
 refine bQ.of Tryz.func76 rfl Tryz.ntmps76 rfl fun c=>?_
 refine aZ<|aT (aW.box (cs:=[vS (p0.1),v0,v1]) rfl rfl) rfl fun b1=>aK rfl<|aU<|aZ<|bP rfl<|dC 0 rfl<|eC (dN rfl) rfl<|fJ h fun j2 h=>aT (Cq (e:=gZ) (0:Int) rfl rfl rfl rfl j2 rfl rfl rfl) rfl fun u3=>aK rfl<|aU<|aP<|dD (fun a5=>zB  a5=some r) (fun a5 b6=>[(3,u3)]) (fun a5 b6=>[Ar gZ u3 a5]) ?_ ?_
 ·refine aZ<|bP rfl<|dC 1 rfl<|eC (dN rfl) rfl<|aE rfl<|aU<|aY<|fW (tY p0) (fun a10 b11=>[(3,u3),(11,v0),(12,vI (List.length p0.2.1:Int)),(13,vI (a10.1))]) (fun a10 b11=>[Ar gZ u3 a10.2]) ((0:Int),(List.replicate (Int.toNat (List.length p0.2.1:Int)) (0:Int))) () h SF (bH.ix [0] rfl rfl) ?_
  intro k12 a10 b11 h
  refine aZ<|dL rfl<|aU<|aP ?_
  refine gT h rfl (fun h=>?_) fun h=>?_
  ·refine cC<|aP<|aY<|aZ<|aE rfl<|fJ h fun j14 h=>aJ (a_ rfl rfl (dN rfl) rfl rfl j14) rfl<|aJ (gI (cs:=[vS ((at' p0.2.1 a10.1).1),vI ((at' p0.2.1 a10.1).2.1),vI ((at' p0.2.1 a10.1).2.2.1),vI ((at' p0.2.1 a10.1).2.2.2.1),vI ((at' p0.2.1 a10.1).2.2.2.2.1),vI ((at' p0.2.1 a10.1).2.2.2.2.2)]) rfl (dN rfl) aQ rfl rfl rfl rfl j14) rfl<|aT (aW.alloc (cs:=XO) rfl rfl) rfl fun b15=>aK rfl<|bL 0 (vs:=[vS ((at' p0.2.1 a10.1).1),vI ((at' p0.2.1 a10.1).2.1),vI ((at' p0.2.1 a10.1).2.2.1),vI ((at' p0.2.1 a10.1).2.2.2.1),vI ((at' p0.2.1 a10.1).2.2.2.2.1),vI ((at' p0.2.1 a10.1).2.2.2.2.2)]) rfl rfl rfl rfl rfl rfl<|aU<|aS<|aE rfl<|aE rfl<|bP rfl<|dC 0 rfl<|fJ h fun j16 h=>aJ (a_ rfl rfl (aM.ar (aM.res 1 rfl) jF) rfl rfl j16) rfl<|Dg 1 ((at' p0.2.1 a10.1).2.1) j16 rfl rfl rfl rfl rfl rfl rfl<|fQ<|lP<|aS<|dM rfl<|aE rfl<|aU ?_
   exact dZ ((wI .i64 (a10.1+(1:Int))),(List.set a10.2 (Int.toNat a10.1) ((at' p0.2.1 a10.1).2.1))) () h SF (bH.ix [1] rfl rfl) (aV.refl _ _)
  refine eQ ?_
  exact cZ (a10.2) () h SF rfl
 intro a5 b6 h
 unfold zB at h
 refine aZ<|aE rfl<|aK rfl<|aU<|bE ?_
 cases h
 exact uD (u3) rfl rfl (RV.tmp rfl) (bH.refl _) aV.nil
end
end Go.Proofs.YthnplbmmlbnelaaGreat
end
