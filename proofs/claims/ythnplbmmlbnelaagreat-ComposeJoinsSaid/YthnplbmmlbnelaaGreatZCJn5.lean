/- Models and proofs. Conditions: none. -/
import Derived.Test.YthnplbmmlbnelaaGreatZCJn4
import Derived.Test.YthnplbmmlbnelaaGreatZCJn2
set_option linter.unusedVariables false
set_option linter.unusedSimpArgs false
set_option maxHeartbeats 4000000
set_option maxRecDepth 20000
section
namespace Go.Proofs.YthnplbmmlbnelaaGreat
open Go.Sx
section
def wH (p1:cH) (a20:Es) (a40:wA):Option eK:=
 some (((p1.1,a20.2,a40)),(0:Int))
def rD (U:Nat) (p1:cH) (a20:Es) (a49:DU) (ag48:IA->Option eK):Option eK:=
 if a49.1<(List.length p1.2.2:Int)then(ck (0<=a49.1∧a49.1<(List.length p1.2.2:Int)) (Option.bind (gW U ((((at' p1.2.2 a49.1).1),((at' p1.2.2 a49.1).2.1),((at' p1.2.2 a49.1).2.2))) a20.1) fun r58=>(ck ((List.length a49.2:Int)+(List.length ([(r58.1,r58.2.1,r58.2.2)]):Int)<=1099511627) (ag48 ((wI .i64 (a49.1+(1:Int))),(a49.2++([(r58.1,r58.2.1,r58.2.2)])))))))else(wH p1 a20 (a49.2))
def rC (U:Nat) (p1:cH) (a20:Es) (a35:wA):Option eK:=
 bZ (rD U p1 a20) U ((0:Int),a35)
def rE (U:Nat) (p0:cH) (p1:cH) (a20:Es) (a72:DU) (ag71:IA->Option eK):Option eK:=
 if a72.1<(List.length p0.2.2:Int)then(ck (0<=a72.1∧a72.1<(List.length p0.2.2:Int)) (Option.bind (iF U ((p0.1,p0.2.1,p0.2.2)) (0:Int)) fun r81=>(Option.bind (gW U ((((at' p0.2.2 a72.1).1),((at' p0.2.2 a72.1).2.1),((at' p0.2.2 a72.1).2.2))) r81) fun r84=>(ck ((List.length a72.2:Int)+(List.length ([(r84.1,r84.2.1,r84.2.2)]):Int)<=1099511627) (ag71 ((wI .i64 (a72.1+(1:Int))),(a72.2++([(r84.1,r84.2.1,r84.2.2)]))))))))else(rC U p1 a20 (a72.2))
def wG (U:Nat) (p0:cH) (p1:cH) (a20:Es) (a29:Bool):Option eK:=
 if a29=true then(some ((((ByteArray.mk #[]),([]:gN),([]:jR))),(3:Int)))else(bZ (rE U p0 p1 a20) U ((0:Int),([]:jR)))
def wF (U:Nat) (p0:cH) (p1:cH) (a20:Es) (a22:Unit):Option eK:=
 Option.bind (kK U ((p0.1,p0.2.1,p0.2.2)) ((p1.1,p1.2.1,p1.2.2))) fun r24=>(if r24=true then(some ((((ByteArray.mk #[]),([]:gN),([]:jR))),(5:Int)))else(if(6:Int)<(List.length a20.2:Int)then(wG U p0 p1 a20 (true))else(wG U p0 p1 a20 (decide ((12:Int)<(wI .i64 ((List.length p0.2.2:Int)+(List.length p1.2.2:Int))))))))
def wJ (a96:Int) (ag95:(Int)->Option eK) (a106:Bool):Option eK:=
 if a106=true then(some ((((ByteArray.mk #[]),([]:gN),([]:jR))),(7:Int)))else(ag95 (wI .i64 (a96+(1:Int))))
def oA (a96:Int) (ag95:(Int)->Option eK) (a110:Int):Option eK:=
 wJ a96 ag95 (decide ((0:Int)<=a110))
def uE (a96:Int) (ag95:(Int)->Option eK) (a112:Unit):Option eK:=
 oA a96 ag95 (-1:Int)
def rH (U:Nat) (p0:cH) (p1:cH) (a20:Es) (a96:Int) (ag95:(Int)->Option eK) (a116:Int) (ag115:(Int)->Option eK):Option eK:=
 if a116<(List.length ((at' p1.2.2 a96).2.2):Int)then(ck (0<=a116∧a116<(List.length ((at' p1.2.2 a96).2.2):Int)) (Option.bind (zL U ((((at' ((at' p1.2.2 a96).2.2) a116).1),((at' ((at' p1.2.2 a96).2.2) a116).2))) a20.1 ((p0.1,p0.2.1,p0.2.2))) fun r122=>(if r122=true then(oA a96 ag95 (a116))else(ag115 (wI .i64 (a116+(1:Int)))))))else(uE a96 ag95 (()))
def hZ (U:Nat) (p0:cH) (p1:cH) (a20:Es) (a96:Int) (ag95:(Int)->Option eK):Option eK:=
 if a96<(List.length p1.2.2:Int)then(ck (0<=a96∧a96<(List.length p1.2.2:Int)) (bZ (rH U p0 p1 a20 a96 ag95) U (0:Int)))else(wF U p0 p1 a20 (()))
def n_ (U:Nat) (p0:cH) (p1:cH) (a20:Es):Option eK:=
 bZ (hZ U p0 p1 a20) U (0:Int)
def pU (p1:cH) (a131:Int×cU×(List (ByteArray×Int×Int×Int×Int×Int))) (ag130:(Int×cU×(List (ByteArray×Int×Int×Int×Int×Int)))->Option eK) (a144:Es):Option eK:=
 ck (0<=a131.1∧a131.1<(List.length a144.1:Int)) (ck (0<=(at' a144.1 a131.1)∧(at' a144.1 a131.1)<(List.length a144.2:Int)) (if(((at' a144.2 (at' a144.1 a131.1)).1),((at' a144.2 (at' a144.1 a131.1)).2.1),((at' a144.2 (at' a144.1 a131.1)).2.2.1),((at' a144.2 (at' a144.1 a131.1)).2.2.2.1),((at' a144.2 (at' a144.1 a131.1)).2.2.2.2.1),((at' a144.2 (at' a144.1 a131.1)).2.2.2.2.2))≠(((at' p1.2.1 a131.1).1),((at' p1.2.1 a131.1).2.1),((at' p1.2.1 a131.1).2.2.1),((at' p1.2.1 a131.1).2.2.2.1),((at' p1.2.1 a131.1).2.2.2.2.1),((at' p1.2.1 a131.1).2.2.2.2.2))then(some ((((ByteArray.mk #[]),([]:gN),([]:jR))),(6:Int)))else(ag130 ((wI .i64 (a131.1+(1:Int))),a144.1,a144.2))))
def oB (U:Nat) (p0:cH) (p1:cH) (a131:Int×cU×(List (ByteArray×Int×Int×Int×Int×Int))) (ag130:(Int×cU×(List (ByteArray×Int×Int×Int×Int×Int)))->Option eK):Option eK:=
 if a131.1<(List.length p1.2.1:Int)then(ck (0<=a131.1∧a131.1<(List.length p1.2.1:Int)) (Option.bind (iO U ((p0.1,p0.2.1,p0.2.2)) ((at' p1.2.1 a131.1).1)) fun r137=>(ck (0<=a131.1∧a131.1<(List.length a131.2.1:Int)) (ck (0<=a131.1∧a131.1<(List.length (List.set a131.2.1 (Int.toNat a131.1) r137):Int)) (if(at' (List.set a131.2.1 (Int.toNat a131.1) r137) a131.1)<(0:Int)then(ck (0<=a131.1∧a131.1<(List.length (List.set a131.2.1 (Int.toNat a131.1) r137):Int)) (ck ((List.length a131.2.2:Int)+(List.length ([(((at' p1.2.1 a131.1).1),((at' p1.2.1 a131.1).2.1),((at' p1.2.1 a131.1).2.2.1),((at' p1.2.1 a131.1).2.2.2.1),((at' p1.2.1 a131.1).2.2.2.2.1),((at' p1.2.1 a131.1).2.2.2.2.2))]):Int)<=1099511627) (pU p1 a131 ag130 ((List.set (List.set a131.2.1 (Int.toNat a131.1) r137) (Int.toNat a131.1) (List.length a131.2.2:Int)),(a131.2.2++([(((at' p1.2.1 a131.1).1),((at' p1.2.1 a131.1).2.1),((at' p1.2.1 a131.1).2.2.1),((at' p1.2.1 a131.1).2.2.2.1),((at' p1.2.1 a131.1).2.2.2.2.1),((at' p1.2.1 a131.1).2.2.2.2.2))]))))))else(pU p1 a131 ag130 ((List.set a131.2.1 (Int.toNat a131.1) r137),a131.2.2)))))))else(n_ U p0 p1 (a131.2.1,a131.2.2))
def AG (U:Nat) (p0:cH) (p1:cH) (a11:De):Option eK:=
 ck (0<=(List.length p1.2.1:Int)∧(List.length p1.2.1:Int)<=1099511627) (bZ (oB U p0 p1) U ((0:Int),(List.replicate (Int.toNat (List.length p1.2.1:Int)) (0:Int)),a11))
def wE (U:Nat) (p0:cH) (p1:cH) (a5:Bool):Option eK:=
 if a5=true then(some ((((ByteArray.mk #[]),([]:gN),([]:jR))),(8:Int)))else(Option.bind (sR U p0.2.1) fun r156=>(AG U p0 p1 (r156)))
def xX (U:Nat) (p0:cH) (p1:cH):Option eK:=
 Option.bind (pE U ((p0.1,p0.2.1,p0.2.2))) fun r170=>(if(!r170)=true then(wE U p0 p1 (true))else(Option.bind (pE U ((p1.1,p1.2.1,p1.2.2))) fun r174=>(wE U p0 p1 ((!r174)))))
theorem UG:bO Tryz.prog 15:=Tryz.call15
theorem Io (U:Nat) {p0:cH} {p1:cH} (v0:Value)  (v1:Value)  (v2:Value)  (v3:Value) (r:OB) (h:xX U p0 p1=some r):
  bQ Tryz.prog 15 #[Value.agg #[vS (p0.1),v0,v1],Value.agg #[vS (p1.1),v2,v3]] [Sl aF v0 p0.2.1,Sl aD v1 p0.2.2,Sl aF v2 p1.2.1,Sl aD v3 p1.2.2] (fun x:Cj=>Value.tuple #[Value.agg #[vS (r.1.1),x.1,x.2],vI (r.2)]) (fun x l=>Ar aH x.1 r.1.2.1::l) (fun x l=>Sl aD x.2 r.1.2.2::l):=by
 refine bQ.of Tryz.func15 rfl Tryz.ntmps15 rfl fun c=>?_
 refine aZ<|aT (aW.box (cs:=[vS (p0.1),v0,v1]) rfl rfl) rfl fun b1=>aT (aW.box (cs:=[vS (p1.1),v2,v3]) rfl rfl) rfl fun b2=>aT (aW.alloc (cs:=fL) rfl rfl) rfl fun b3=>aK rfl<|aU<|aP<|aP<|dD (fun a5=>wE U p0 p1 a5=some r) (fun a5 b6=>[(2,vP b1),(3,vP b2),(4,vP b3),(23,vB (a5))]) (fun a5 b6=>[bJ b3 fL 25,bJ b2 [vS (p1.1),v2,v3] 25,bJ b1 [vS (p0.1),v0,v1] 25]) ?_ ?_
 ·refine aS<|iC 2 rfl<|fO h fun r170 w171 h=>aT (aW.callQ JX (Au U v0 v1 r170 w171) rfl (gO [0,1] rfl)) rfl fun x172=>aJ (fR rfl) rfl<|aE rfl ?_
  refine fY (by exact rfl) (by exact rfl) (fun hp173=>?_) (fun hp173=>?_)
  ·have h:=BK hp173 h
   refine aI rfl<|aI rfl<|aI rfl<|cE rfl<|aU ?_
   exact cZ (true) () h SF rfl
  have h:=sM hp173 h
  refine aL rfl (iD 1 rfl rfl rfl rfl) rfl<|fO h fun r174 w175 h=>eX rfl (aW.callQ JX (Au U v2 v3 r174 w175) rfl (gO [2,3] rfl)) rfl fun x176=>aL rfl (fR rfl) rfl<|cI rfl<|aU ?_
  exact cZ ((!r174)) () h SF rfl
 intro a5 b6 h
 refine gP h rfl (fun _ h=>?_) fun _ h=>?_
 ·refine aZ ?_
  refine aJ (sK (r:=Value.agg #[vS (ByteArray.mk #[]),fX,fX]) (by intro w;simp[Instr.build,Instr.fill,b_,bR,bM,cA,cB,bS,cL])) rfl ?_
  refine bL 0 (vs:=fL) rfl rfl rfl rfl rfl rfl<|aK rfl<|aU<|bE<|aR<|cJ (d_ aH) ?_
  cases h
  exact fB ((fX),(fX)) rfl rfl (RV.cell 1 rfl rfl rfl rfl) (RV.tmp rfl) (bH.ix [0] rfl rfl) (aV.cons aM.nil aV.nil)
 refine cC<|aP<|Ep (B:=Nat×Value) (fun a11=>AG U p0 p1 a11=some r) (fun a11 b12=>[(2,vP b1),(3,vP b2),(4,vP b3),(6,vP b12.1)]) (fun a11 b12=>[bJ b12.1 [vS (p1.1),b12.2,fX] 25,Ar aH b12.2 a11,bJ b3 fL 25,bJ b2 [vS (p1.1),v2,v3] 25,bJ b1 [vS (p0.1),v0,v1] 25]) ?_ ?_
 ·have⟨r156,w157,h⟩:=bnd h
  refine BU [0,1,0,4,12,31,0,127] 7 [[0,1,2,3,4,5,6,7],[0,1,2,3,6,4,5,7]] mixedOrders (by decide +kernel) (by decide +kernel) ?_
  intro o ho
  simp only[List.mem_cons,List.not_mem_nil,or_false]at ho
  rcases ho with rfl|rfl
  ·refine eD rfl<|gM 1 rfl<|eD rfl<|gM 2 rfl<|JR.loud rfl rfl rfl (aW.callQ Qv (BC U v0 r156 w157) rfl (gO [0] rfl)) rfl (fun x162=>(pH [([2],[])] rfl)) fun x162=>eG (Know.one ((aM.ar (aM.res 0 rfl) aQ))) fun ho163=>?_
   refine zE rfl (kY (r:=Value.agg #[vS (p1.1),x162,fX]) rfl rfl (by intro w;simp[Instr.build,Instr.fill,b_,bR,bM,cA,cB,bS,cL,eY ho163])) ?_
   refine JR.loud rfl rfl rfl (aW.alloc (cs:=fL) rfl rfl) rfl (fun b164=>(pH [([4],[]),([3],[])] rfl)) fun b164=>cX 7 rfl rfl<|bY (Know.one ((aM.ar (aM.res 1 rfl) aQ))) fun ho165=>bL 0 (vs:=[vS (p1.1),x162,fX]) rfl rfl (cR rfl (cR ho165 (cR rfl rfl))) rfl rfl rfl<|aU ?_
   exact cZ (r156) (b164,x162) h SF rfl
  refine eD rfl<|gM 1 rfl<|eD rfl<|gM 2 rfl<|JR.loud rfl rfl rfl (aW.alloc (cs:=fL) rfl rfl) rfl (fun b166=>(pH [([3],[]),([2],[])] rfl)) fun b166=>JR.loud rfl rfl rfl (aW.callQ Qv (BC U v0 r156 w157) rfl (gO [0] rfl)) rfl (fun x167=>(pH [([3],[])] rfl)) fun x167=>eG (Know.one ((aM.ar (aM.res 0 rfl) aQ))) fun ho168=>?_
  refine zE rfl (kY (r:=Value.agg #[vS (p1.1),x167,fX]) rfl rfl (by intro w;simp[Instr.build,Instr.fill,b_,bR,bM,cA,cB,bS,cL,eY ho168])) ?_
  refine cX 7 rfl rfl<|bY (Know.one ((aM.ar (aM.res 0 rfl) aQ))) fun ho169=>bL 1 (vs:=[vS (p1.1),x167,fX]) rfl rfl (cR rfl (cR ho169 (cR rfl rfl))) rfl rfl rfl<|aU ?_
  exact cK (r156) (b166,x167) h SF (bH.ix [1,0,2,3,4] rfl rfl) (aV.refl _ _)
 intro a11 b12 h
 refine aZ<|bP rfl<|dC 3 rfl<|eC (rA rfl) rfl<|fJ h fun j13 h=>aT (Cq (e:=gZ) (0:Int) rfl rfl rfl rfl j13 rfl rfl rfl) rfl fun u14=>aT (aW.alloc (cs:=[fX]) rfl rfl) rfl fun b15=>bY (Know.one ((aM.ar (aM.res 1 rfl) jF))) fun ho16=>eS 0 rfl rfl ho16 rfl rfl rfl<|aU<|aP<|Ep (B:=Value) (fun a20=>n_ U p0 p1 a20=some r) (fun a20 b21=>[(2,vP b1),(3,vP b2),(4,vP b3),(6,vP b12.1),(7,vP b15)]) (fun a20 b21=>[bJ b15 [u14] 47,Ar gZ u14 a20.1,bJ b12.1 [vS (p1.1),b21,fX] 25,Ar aH b21 a20.2,bJ b3 fL 25,bJ b2 [vS (p1.1),v2,v3] 25,bJ b1 [vS (p0.1),v0,v1] 25]) ?_ ?_
 ·refine aZ<|bP rfl<|dC 5 rfl<|eC (rA rfl) rfl<|aE rfl<|aU<|aY<|fW (B:=Value) (oB U p0 p1) (fun a131 b132=>[(2,vP b1),(3,vP b2),(4,vP b3),(6,vP b12.1),(7,vP b15),(36,v2),(37,vI (List.length p1.2.1:Int)),(38,vI (a131.1))]) (fun a131 b132=>[bJ b15 [u14] 47,Ar gZ u14 a131.2.1,bJ b12.1 [vS (p1.1),b132,fX] 25,Ar aH b132 a131.2.2,bJ b3 fL 25,bJ b2 [vS (p1.1),v2,v3] 25,bJ b1 [vS (p0.1),v0,v1] 25]) ((0:Int),(List.replicate (Int.toNat (List.length p1.2.1:Int)) (0:Int)),a11) (b12.2) h SF (bH.refl _) ?_
  intro k133 a131 b132 h
  refine aZ<|dL rfl<|aU<|aP ?_
  refine gT h rfl (fun h=>?_) fun h=>?_
  ·refine cC<|aP<|aY<|aZ<|aE rfl<|fJ h fun j135 h=>aJ (a_ rfl rfl (rA rfl) rfl rfl j135) rfl<|aJ (gI (cs:=[vS ((at' p1.2.1 a131.1).1),vI ((at' p1.2.1 a131.1).2.1),vI ((at' p1.2.1 a131.1).2.2.1),vI ((at' p1.2.1 a131.1).2.2.2.1),vI ((at' p1.2.1 a131.1).2.2.2.2.1),vI ((at' p1.2.1 a131.1).2.2.2.2.2)]) rfl (rA rfl) aQ rfl rfl rfl rfl j135) rfl<|aT (aW.alloc (cs:=XO) rfl rfl) rfl fun b136=>aK rfl<|bL 0 (vs:=[vS ((at' p1.2.1 a131.1).1),vI ((at' p1.2.1 a131.1).2.1),vI ((at' p1.2.1 a131.1).2.2.1),vI ((at' p1.2.1 a131.1).2.2.2.1),vI ((at' p1.2.1 a131.1).2.2.2.2.1),vI ((at' p1.2.1 a131.1).2.2.2.2.2)]) rfl rfl rfl rfl rfl rfl<|aU<|aP ?_
   refine CC [0,0,0,0,8,28,63,127] 6 mixedOrders ?_
   refine gM 1 rfl<|dG rfl<|Cc 7 rfl<|eD rfl<|gM 0 rfl<|fO h fun r137 w138 h=>JR.loud rfl rfl rfl (aW.callQ J_ (yS U v0 v1 r137 w138) rfl (gO [0,1] rfl)) rfl (fun x139=>(pH [([1],[])] rfl)) fun x139=>cX 6 rfl rfl<|fJ h fun j140 h=>aJ (a_ rfl rfl (aM.ar (aM.res 2 rfl) jF) rfl rfl j140) rfl<|Dg 2 r137 j140 rfl rfl rfl rfl rfl rfl rfl<|aU<|aP<|Ep (B:=Value) (fun a144=>pU p1 a131 (bZ (oB U p0 p1) k133) a144=some r) (fun a144 b145=>[(2,vP b1),(3,vP b2),(4,vP b3),(6,vP b12.1),(7,vP b15),(8,vI (a131.1)),(9,vP b136),(36,v2),(37,vI (List.length p1.2.1:Int)),(38,vI (a131.1))]) (fun a144 b145=>[bJ b136 [vS ((at' p1.2.1 a131.1).1),vI ((at' p1.2.1 a131.1).2.1),vI ((at' p1.2.1 a131.1).2.2.1),vI ((at' p1.2.1 a131.1).2.2.2.1),vI ((at' p1.2.1 a131.1).2.2.2.2.1),vI ((at' p1.2.1 a131.1).2.2.2.2.2)] 49,bJ b15 [u14] 47,Ar gZ u14 a144.1,bJ b12.1 [vS (p1.1),b145,fX] 25,Ar aH b145 a144.2,bJ b3 fL 25,bJ b2 [vS (p1.1),v2,v3] 25,bJ b1 [vS (p0.1),v0,v1] 25]) ?_ ?_
   ·refine aZ<|dC 1 rfl<|aE rfl<|fJ h fun j149 h=>aJ (a_ rfl rfl (aM.ar (aM.res 2 rfl) jF) rfl rfl j149) rfl<|aJ (iN rfl (aM.ar (aM.res 2 rfl) jF) rfl rfl rfl mT j149) rfl<|dL rfl<|aU ?_
    refine gT h rfl (fun h=>?_) fun h=>?_
    ·refine aZ<|dC 1 rfl<|aE rfl<|bP rfl<|dC 3 rfl<|aJ (dR rfl (aM.ar (aM.res 4 rfl) aQ) rfl) rfl<|fJ h fun j151 h=>aJ (a_ rfl rfl (aM.ar (aM.res 2 rfl) jF) rfl rfl j151) rfl<|Dg 2 (List.length a131.2.2:Int) j151 rfl rfl rfl rfl rfl rfl rfl<|aU<|aS<|bP rfl<|dC 3 rfl<|iC 0 rfl<|aT (dJ (e:=aH) ([((((at' p1.2.1 a131.1).1),((at' p1.2.1 a131.1).2.1),((at' p1.2.1 a131.1).2.2.1),((at' p1.2.1 a131.1).2.2.2.1),((at' p1.2.1 a131.1).2.2.2.2.1),((at' p1.2.1 a131.1).2.2.2.2.2)))]) [(0,Value.agg #[vS ((at' p1.2.1 a131.1).1),vI ((at' p1.2.1 a131.1).2.1),vI ((at' p1.2.1 a131.1).2.2.1),vI ((at' p1.2.1 a131.1).2.2.2.1),vI ((at' p1.2.1 a131.1).2.2.2.2.1),vI ((at' p1.2.1 a131.1).2.2.2.2.2)])] rfl rfl rfl rfl (Fx (vS ((at' p1.2.1 a131.1).1)) (vI ((at' p1.2.1 a131.1).2.1)) (vI ((at' p1.2.1 a131.1).2.2.1)) (vI ((at' p1.2.1 a131.1).2.2.2.1)) (vI ((at' p1.2.1 a131.1).2.2.2.2.1)) (vI ((at' p1.2.1 a131.1).2.2.2.2.2))) rfl rfl rfl) rfl fun u152=>fJ h fun j154 h=>aT (dP 5 aQ rfl rfl rfl (aM.ar (aM.res 0 rfl) aQ) rfl rfl rfl rfl j154 rfl) rfl fun u153=>bP rfl<|bY (Know.one ((aM.ar (aM.res 5 rfl) aQ))) fun ho155=>eS 4 rfl rfl ho155 rfl rfl rfl<|aU ?_
     exact cK ((List.set (List.set a131.2.1 (Int.toNat a131.1) r137) (Int.toNat a131.1) (List.length a131.2.2:Int)),(a131.2.2++([(((at' p1.2.1 a131.1).1),((at' p1.2.1 a131.1).2.1),((at' p1.2.1 a131.1).2.2.1),((at' p1.2.1 a131.1).2.2.2.1),((at' p1.2.1 a131.1).2.2.2.2.1),((at' p1.2.1 a131.1).2.2.2.2.2))]))) (u153) h SF (bH.ix [1,2,3,4,5,6,7,8] rfl rfl) (aV.refl _ _)
    refine cC ?_
    exact cZ ((List.set a131.2.1 (Int.toNat a131.1) r137),a131.2.2) (b132) h SF rfl
   intro a144 b145 h
   refine aP ?_
   refine CC [0,1,0,0,12,28,63,127,0,511] 9 mixedOrders ?_
   refine eD rfl<|gM 3 rfl<|gM 1 rfl<|dG rfl<|fJ h fun j146 h=>dK rfl (bH.cons 2 rfl .nil) .nil (a_ rfl rfl (aM.ar (aM.res 0 rfl) jF) rfl rfl j146) bG.z<|dK rfl (bH.cons 2 rfl .nil) .nil (iN rfl (aM.ar (aM.res 0 rfl) jF) rfl rfl rfl mT j146) bG.z<|fJ h fun j147 h=>dK rfl (bH.cons 4 rfl .nil) .nil (a_ rfl rfl (aM.ar (aM.res 0 rfl) aQ) rfl rfl j147) bG.z<|dK rfl (bH.cons 4 rfl .nil) .nil (gI (cs:=[vS ((at' a144.2 (at' a144.1 a131.1)).1),vI ((at' a144.2 (at' a144.1 a131.1)).2.1),vI ((at' a144.2 (at' a144.1 a131.1)).2.2.1),vI ((at' a144.2 (at' a144.1 a131.1)).2.2.2.1),vI ((at' a144.2 (at' a144.1 a131.1)).2.2.2.2.1),vI ((at' a144.2 (at' a144.1 a131.1)).2.2.2.2.2)]) rfl (aM.ar (aM.res 0 rfl) aQ) aQ rfl rfl rfl rfl j147) bG.z<|Cc 0 rfl<|cX 9 rfl rfl<|aJ (JN rfl rfl (Kh (((at' a144.2 (at' a144.1 a131.1)).1),((at' a144.2 (at' a144.1 a131.1)).2.1),((at' a144.2 (at' a144.1 a131.1)).2.2.1),((at' a144.2 (at' a144.1 a131.1)).2.2.2.1),((at' a144.2 (at' a144.1 a131.1)).2.2.2.2.1),((at' a144.2 (at' a144.1 a131.1)).2.2.2.2.2)) (((at' p1.2.1 a131.1).1),((at' p1.2.1 a131.1).2.1),((at' p1.2.1 a131.1).2.2.1),((at' p1.2.1 a131.1).2.2.2.1),((at' p1.2.1 a131.1).2.2.2.2.1),((at' p1.2.1 a131.1).2.2.2.2.2)) _ _)) rfl<|aU ?_
   refine gT h rfl (fun h=>?_) fun h=>?_
   ·refine aZ ?_
    refine aJ (sK (r:=Value.agg #[vS (ByteArray.mk #[]),fX,fX]) (by intro w;simp[Instr.build,Instr.fill,b_,bR,bM,cA,cB,bS,cL])) rfl ?_
    refine bL 5 (vs:=fL) rfl rfl rfl rfl rfl rfl<|aK rfl<|aU<|bE<|cG<|aR<|aR<|cG<|aR<|cJ (d_ aH) ?_
    cases h
    exact fB ((fX),(fX)) rfl rfl (RV.cell 6 rfl rfl rfl rfl) (RV.tmp rfl) (bH.ix [0] rfl rfl) (aV.cons aM.nil aV.nil)
   refine eJ<|lP<|aS<|dM rfl<|aE rfl<|aU ?_
   exact dZ ((wI .i64 (a131.1+(1:Int))),a144.1,a144.2) (b145) h SF (bH.ix [1,2,3,4,5,6,7] rfl rfl) (aV.refl _ _)
  refine eQ ?_
  exact cZ (a131.2.1,a131.2.2) (b132) h SF rfl
 intro a20 b21 h
 unfold n_ at h
 refine aP<|dD (fun a22=>wF U p0 p1 a20 a22=some r) (fun a22 b23=>[(2,vP b1),(3,vP b2),(4,vP b3),(6,vP b12.1),(7,vP b15)]) (fun a22 b23=>[bJ b15 [u14] 47,Ar gZ u14 a20.1,bJ b12.1 [vS (p1.1),b21,fX] 25,Ar aH b21 a20.2,bJ b3 fL 25,bJ b2 [vS (p1.1),v2,v3] 25,bJ b1 [vS (p0.1),v0,v1] 25]) ?_ ?_
 ·refine aZ<|bP rfl<|dC 5 rfl<|eC (bV 3 rfl) rfl<|aE rfl<|aU<|aY<|fW (hZ U p0 p1 a20) (fun a96 b97=>[(2,vP b1),(3,vP b2),(4,vP b3),(6,vP b12.1),(7,vP b15),(80,v3),(81,vI (List.length p1.2.2:Int)),(82,vI (a96))]) (fun a96 b97=>[bJ b15 [u14] 47,Ar gZ u14 a20.1,bJ b12.1 [vS (p1.1),b21,fX] 25,Ar aH b21 a20.2,bJ b3 fL 25,bJ b2 [vS (p1.1),v2,v3] 25,bJ b1 [vS (p0.1),v0,v1] 25]) (0:Int) () h SF (bH.refl _) ?_
  intro k98 a96 b97 h
  refine aZ<|dL rfl<|aU<|aP ?_
  refine gT h rfl (fun h=>?_) fun h=>?_
  ·refine cC<|aP<|aY<|aZ<|fJ h fun j100 h=>aJ (a_ rfl rfl (bV 3 rfl) rfl rfl j100) rfl<|mS (v:=v3) (ds:=p1.2.2) aO (bV 3 rfl) fun us101=>?_
   refine cJ (bD ((e_ (bT (f:=aC) (fP rfl) j100.1 (by first|exact j100.2|simpa using j100.2))):aM _ _ (Sl bF ((at' us101 a96).1) ((at' p1.2.2 a96).2.1)))) ?_
   refine cJ (bD ((fA (bT (f:=aC) (rA rfl) j100.1 (by first|exact j100.2|simpa using j100.2))):aM _ _ (Sl aX ((at' us101 a96).2) ((at' p1.2.2 a96).2.2)))) ?_
   refine aJ (dY (cs:=[vS ((at' p1.2.2 a96).1),(at' us101 a96).1,(at' us101 a96).2]) rfl (rA rfl) rfl rfl rfl rfl ⟨j100.1,by first|exact j100.2|simpa using j100.2⟩) rfl<|aT (aW.alloc (cs:=fL) rfl rfl) rfl fun b102=>bY (Know.one ((fP rfl))) fun ho103=>bY (Know.one ((dN rfl))) fun ho104=>bL 0 (vs:=[vS ((at' p1.2.2 a96).1),(at' us101 a96).1,(at' us101 a96).2]) rfl rfl (cR rfl (cR ho103 (cR ho104 rfl))) rfl rfl rfl<|aU<|aZ<|bP rfl<|dC 0 rfl<|aJ (Ba (cs:=[.tmp 7,.tmp 2]) (vs:=[Value.pointer (some ⟨b15,0,none⟩),Value.pointer (some ⟨b1,0,none⟩)]) rfl) rfl<|xD (A:=Bool) (B:=Unit) (vs:=[(at' us101 a96).2,Value.func (.func 35) #[] #[Value.pointer (some ⟨b15,0,none⟩),Value.pointer (some ⟨b1,0,none⟩)]]) (fun a106=>wJ a96 (bZ (hZ U p0 p1 a20) k98) a106=some r) (fun a106 b107=>vB (a106)) (fun a106 b107=>[bJ b15 [u14] 47,Ar gZ u14 a20.1,bJ b12.1 [vS (p1.1),b21,fX] 25,Ar aH b21 a20.2,bJ b3 fL 25,bJ b2 [vS (p1.1),v2,v3] 25,bJ b1 [vS (p0.1),v0,v1] 25]) (fun a106 b107=>[Sl aX ((at' us101 a96).2) ((at' p1.2.2 a96).2.2),Sl bF ((at' us101 a96).1) ((at' p1.2.2 a96).2.1),Rz aG v3 us101 p1.2.2,Pw aC us101 p1.2.2,Sl aF v0 p0.2.1,Sl aD v1 p0.2.2,Sl aF v2 p1.2.1,Sl aD v3 p1.2.2]) (xR.fn (show bO Tryz.prog 34 from Tryz.call34) rfl) Tryz.func34 rfl Tryz.ntmps34 rfl rfl ?_ ?_
   ·refine aZ<|aK rfl<|aU<|aZ<|aE rfl<|aE rfl<|xD (A:=Int) (B:=Unit) (vs:=[(at' us101 a96).2,Value.func (.func 35) #[] #[vP b15,vP b1]]) (fun a110=>oA a96 (bZ (hZ U p0 p1 a20) k98) a110=some r) (fun a110 b111=>vI (a110)) (fun a110 b111=>[bJ b15 [u14] 47,Ar gZ u14 a20.1,bJ b12.1 [vS (p1.1),b21,fX] 25,Ar aH b21 a20.2,bJ b3 fL 25,bJ b2 [vS (p1.1),v2,v3] 25,bJ b1 [vS (p0.1),v0,v1] 25]) (fun a110 b111=>[Sl aX ((at' us101 a96).2) ((at' p1.2.2 a96).2.2),Sl bF ((at' us101 a96).1) ((at' p1.2.2 a96).2.1),Rz aG v3 us101 p1.2.2,Pw aC us101 p1.2.2,Sl aF v0 p0.2.1,Sl aD v1 p0.2.2,Sl aF v2 p1.2.1,Sl aD v3 p1.2.2]) (xR.fn (show bO Tryz.prog 58 from Tryz.call58) rfl) Tryz.func58 rfl Tryz.ntmps58 rfl rfl ?_ ?_
    ·refine aZ<|aK rfl<|aU<|aP<|iM (B:=Unit) (fun a112=>uE a96 (bZ (hZ U p0 p1 a20) k98) a112=some r) (fun a112 b113=>[]) (fun a112 b113=>[bJ b15 [u14] 47,Ar gZ u14 a20.1,bJ b12.1 [vS (p1.1),b21,fX] 25,Ar aH b21 a20.2,bJ b3 fL 25,bJ b2 [vS (p1.1),v2,v3] 25,bJ b1 [vS (p0.1),v0,v1] 25]) (fun a112 b113=>[Sl aX ((at' us101 a96).2) ((at' p1.2.2 a96).2.2),Sl bF ((at' us101 a96).1) ((at' p1.2.2 a96).2.1),Rz aG v3 us101 p1.2.2,Pw aC us101 p1.2.2,Sl aF v0 p0.2.1,Sl aD v1 p0.2.2,Sl aF v2 p1.2.1,Sl aD v3 p1.2.2]) ?_ ?_
     ·refine aZ<|aE rfl<|eC (dN rfl) rfl<|aE rfl<|aU<|aY<|jL (B:=Unit) (rH U p0 p1 a20 a96 (bZ (hZ U p0 p1 a20) k98)) (fun a116 b117=>[(0,(at' us101 a96).2),(1,Value.func (.func 35) #[] #[vP b15,vP b1]),(7,vI (List.length ((at' p1.2.2 a96).2.2):Int)),(8,vI (a116))]) (fun a116 b117=>[bJ b15 [u14] 47,Ar gZ u14 a20.1,bJ b12.1 [vS (p1.1),b21,fX] 25,Ar aH b21 a20.2,bJ b3 fL 25,bJ b2 [vS (p1.1),v2,v3] 25,bJ b1 [vS (p0.1),v0,v1] 25]) (fun a116 b117=>[Sl aX ((at' us101 a96).2) ((at' p1.2.2 a96).2.2),Sl bF ((at' us101 a96).1) ((at' p1.2.2 a96).2.1),Rz aG v3 us101 p1.2.2,Pw aC us101 p1.2.2,Sl aF v0 p0.2.1,Sl aD v1 p0.2.2,Sl aF v2 p1.2.1,Sl aD v3 p1.2.2]) (0:Int) () h SF (bH.ix [1,2,3,4,5,6,7] rfl rfl) (aV.refl _ _) ?_
      intro k118 a116 b117 h
      refine aZ<|dL rfl<|aU<|aP ?_
      refine gT h rfl (fun h=>?_) fun h=>?_
      ·refine cC<|aP<|aY<|aZ<|aE rfl<|aK rfl<|aU<|aZ<|aE rfl<|aE rfl<|aE rfl<|fJ h fun j120 h=>aJ (a_ rfl rfl (dN rfl) rfl rfl j120) rfl<|mS (v:=((at' us101 a96).2)) (ds:=((at' p1.2.2 a96).2.2)) bK (dN rfl) fun us121=>?_
       refine cJ (bD ((bT (f:=bW) (fP rfl) j120.1 (by first|exact j120.2|simpa using j120.2)):aM _ _ (Sl bF (at' us121 a116) ((at' ((at' p1.2.2 a96).2.2) a116).2)))) ?_
       refine aJ (dY (cs:=[vI ((at' ((at' p1.2.2 a96).2.2) a116).1),at' us121 a116]) rfl (fP rfl) rfl rfl rfl rfl ⟨j120.1,by first|exact j120.2|simpa using j120.2⟩) rfl<|fO h fun r122 w123 h=>aT (xH (vs:=[Value.agg #[vI ((at' ((at' p1.2.2 a96).2.2) a116).1),at' us121 a116]]) (cs:=[vP b15,vP b1]) UK rfl (Gw U (at' us121 a116) b15 u14 b1 v0 v1 r122 w123) rfl (aV.cons (dN rfl) (aV.cons (aM.res 0 rfl) (aV.cons (aM.ar (aM.res 1 rfl) jF) (aV.cons (aM.res 6 rfl) (gO [7,8] rfl))))) (fun _ _=>rfl)) rfl fun x124=>aU ?_
       refine gP h rfl (fun _ h=>?_) fun _ h=>?_
       ·refine aZ<|aE rfl<|aK rfl<|aU<|bE<|cG<|aR<|aR<|cG<|aR ?_
        exact pR (a116) () h (.inl rfl) (G_.r1 rfl (RV.tmp rfl)) rfl (bH.refl _) (gO [3,4,5,6,7,8,9,10] rfl)
       refine eJ<|lP<|aS<|dM rfl<|aE rfl<|aU ?_
       exact dZ (wI .i64 (a116+(1:Int))) () h SF (bH.refl _) (gO [3,4,5,6,7,8,9,10] rfl)
      refine eQ ?_
      exact cZ () (()) h SF rfl
     intro a112 b113 h
     unfold uE at h
     refine aZ<|aK rfl<|aU<|bE ?_
     exact pR (-1:Int) () h (.inl rfl) (G_.r1 rfl (RV.tmp rfl)) rfl (bH.refl _) (aV.refl _ _)
    intro a110 b111 h
    unfold oA at h
    refine aJ (jM rfl rfl) rfl<|aK rfl<|aU<|bE ?_
    exact pR (decide ((0:Int)<=a110)) () h (.inl rfl) (G_.r1 rfl (RV.tmp rfl)) rfl (bH.refl _) (aV.refl _ _)
   intro a106 b107 h
   refine aU ?_
   refine gP h rfl (fun _ h=>?_) fun _ h=>?_
   ·refine aZ ?_
    refine aJ (sK (r:=Value.agg #[vS (ByteArray.mk #[]),fX,fX]) (by intro w;simp[Instr.build,Instr.fill,b_,bR,bM,cA,cB,bS,cL])) rfl ?_
    refine bL 4 (vs:=fL) rfl rfl rfl rfl rfl rfl<|aK rfl<|aU<|bE<|cG<|aR<|aR<|cG<|aR<|cJ (d_ aH) ?_
    cases h
    exact fB ((fX),(fX)) rfl rfl (RV.cell 5 rfl rfl rfl rfl) (RV.tmp rfl) (bH.ix [0] rfl rfl) (aV.cons aM.nil aV.nil)
   refine eJ<|lP<|aS<|dM rfl<|aE rfl<|aU ?_
   exact dZ (wI .i64 (a96+(1:Int))) () h SF (bH.refl _) (gO [4,5,6,7] rfl)
  refine eQ ?_
  exact cZ () (()) h SF rfl
 intro a22 b23 h
 refine aP<|aZ<|iC 6 rfl<|iC 5 rfl<|fO h fun r24 w25 h=>aT (aW.callQ Qw (Bo U v0 v1 v2 v3 r24 w25) rfl (gO [0,1,2,3] rfl)) rfl fun x26=>aU ?_
 refine gP h rfl (fun _ h=>?_) fun _ h=>?_
 ·refine aZ ?_
  refine aJ (sK (r:=Value.agg #[vS (ByteArray.mk #[]),fX,fX]) (by intro w;simp[Instr.build,Instr.fill,b_,bR,bM,cA,cB,bS,cL])) rfl ?_
  refine bL 4 (vs:=fL) rfl rfl rfl rfl rfl rfl<|aK rfl<|aU<|bE<|aR<|cJ (d_ aH) ?_
  cases h
  exact fB ((fX),(fX)) rfl rfl (RV.cell 5 rfl rfl rfl rfl) (RV.tmp rfl) (bH.ix [0] rfl rfl) (aV.cons aM.nil aV.nil)
 refine cC<|aP<|aP<|dD (fun a29=>wG U p0 p1 a20 a29=some r) (fun a29 b30=>[(2,vP b1),(3,vP b2),(4,vP b3),(6,vP b12.1),(7,vP b15),(109,vB (a29))]) (fun a29 b30=>[bJ b15 [u14] 47,Ar gZ u14 a20.1,bJ b12.1 [vS (p1.1),b21,fX] 25,Ar aH b21 a20.2,bJ b3 fL 25,bJ b2 [vS (p1.1),v2,v3] 25,bJ b1 [vS (p0.1),v0,v1] 25]) ?_ ?_
 ·refine aS<|bP rfl<|dC 2 rfl<|aJ (dR rfl (aM.ar (aM.res 3 rfl) aQ) rfl) rfl<|aJ (kT rfl rfl) rfl<|aE rfl ?_
  refine oD h rfl (fun _ h=>?_) fun _ h=>?_
  ·refine aI rfl<|aI rfl<|aI rfl<|aI rfl<|aI rfl<|aI rfl<|aI rfl<|aI rfl<|cE rfl<|aU ?_
   exact cZ (true) () h SF rfl
  refine aL rfl (cF rfl rfl rfl rfl rfl) rfl<|aL rfl (cT 6 rfl rfl rfl rfl rfl) rfl<|aL rfl (dR rfl (fP rfl) rfl) rfl<|aL rfl (cF rfl rfl rfl rfl rfl) rfl<|aL rfl (cT 5 rfl rfl rfl rfl rfl) rfl<|aL rfl (dR rfl (bV 3 rfl) rfl) rfl<|aL rfl (MF rfl rfl) rfl<|aL rfl (kT rfl rfl) rfl<|cI rfl<|aU ?_
  exact cZ (decide ((12:Int)<(wI .i64 ((List.length p0.2.2:Int)+(List.length p1.2.2:Int))))) () h SF rfl
 intro a29 b30 h
 refine gP h rfl (fun _ h=>?_) fun _ h=>?_
 ·refine aZ ?_
  refine aJ (sK (r:=Value.agg #[vS (ByteArray.mk #[]),fX,fX]) (by intro w;simp[Instr.build,Instr.fill,b_,bR,bM,cA,cB,bS,cL])) rfl ?_
  refine bL 4 (vs:=fL) rfl rfl rfl rfl rfl rfl<|aK rfl<|aU<|bE<|aR<|cJ (d_ aH) ?_
  cases h
  exact fB ((fX),(fX)) rfl rfl (RV.cell 5 rfl rfl rfl rfl) (RV.tmp rfl) (bH.ix [0] rfl rfl) (aV.cons aM.nil aV.nil)
 refine cC<|aP<|iM (B:=AC) (fun a35=>rC U p1 a20 a35=some r) (fun a35 b36=>[(3,vP b2),(4,vP b3),(6,vP b12.1),(7,vP b15)]) (fun a35 b36=>[bJ b15 [u14] 47,bJ b12.1 [vS (p1.1),b21,b36.1] 25,Ar aH b21 a20.2,bJ b3 fL 25,bJ b2 [vS (p1.1),v2,v3] 25,Ad aG b36.1 b36.2 a35]) (fun a35 b36=>[Sl gS u14 a20.1,Sl aF v0 p0.2.1,Sl aD v1 p0.2.2,Sl aF v2 p1.2.1,Sl aD v3 p1.2.2,Pw aC b36.2 a35]) ?_ ?_
 ·refine aZ<|bP rfl<|dC 6 rfl<|eC (fP rfl) rfl<|aE rfl<|aU<|aY<|cJ (cY [Ar gZ u14 a20.1] [bJ b15 [u14] 47,bJ b12.1 [vS (p1.1),b21,fX] 25,Ar aH b21 a20.2,bJ b3 fL 25,bJ b2 [vS (p1.1),v2,v3] 25,bJ b1 [vS (p0.1),v0,v1] 25] (bH.ix [1,0,2,3,4,5,6] rfl rfl) (aM.ar (aM.res 0 rfl) jF))<|cJ (xI aG)<|cJ (bD (dB:aM _ _ (Pw aC ([]:o_) ([]:jR))))<|jL (B:=AC) (rE U p0 p1 a20) (fun a72 b73=>[(2,vP b1),(3,vP b2),(4,vP b3),(6,vP b12.1),(7,vP b15),(112,v1),(113,vI (List.length p0.2.2:Int)),(114,vI (a72.1))]) (fun a72 b73=>[bJ b15 [u14] 47,bJ b12.1 [vS (p1.1),b21,b73.1] 25,Ar aH b21 a20.2,bJ b3 fL 25,bJ b2 [vS (p1.1),v2,v3] 25,bJ b1 [vS (p0.1),v0,v1] 25,Ad aG b73.1 b73.2 a72.2]) (fun a72 b73=>[Sl gS u14 a20.1,Sl aF v0 p0.2.1,Sl aD v1 p0.2.2,Sl aF v2 p1.2.1,Sl aD v3 p1.2.2,Pw aC b73.2 a72.2]) ((0:Int),([]:jR)) ((fX),([]:o_)) h SF (bH.ix [1,2,3,4,5,6,0] rfl rfl) (gO [1,2,3,4,5,0] rfl) ?_
  intro k74 a72 b73 h
  refine aZ<|dL rfl<|aU<|aP ?_
  refine gT h rfl (fun h=>?_) fun h=>?_
  ·refine cC<|aP<|aY<|aZ<|fJ h fun j76 h=>aJ (a_ rfl rfl (rA rfl) rfl rfl j76) rfl<|mS (v:=v1) (ds:=p0.2.2) aO (rA rfl) fun us77=>?_
   refine cJ (bD ((e_ (bT (f:=aC) (fP rfl) j76.1 (by first|exact j76.2|simpa using j76.2))):aM _ _ (Sl bF ((at' us77 a72.1).1) ((at' p0.2.2 a72.1).2.1)))) ?_
   refine cJ (bD ((fA (bT (f:=aC) (rA rfl) j76.1 (by first|exact j76.2|simpa using j76.2))):aM _ _ (Sl aX ((at' us77 a72.1).2) ((at' p0.2.2 a72.1).2.2)))) ?_
   refine aJ (dY (cs:=[vS ((at' p0.2.2 a72.1).1),(at' us77 a72.1).1,(at' us77 a72.1).2]) rfl (rA rfl) rfl rfl rfl rfl ⟨j76.1,by first|exact j76.2|simpa using j76.2⟩) rfl<|aT (aW.alloc (cs:=fL) rfl rfl) rfl fun b78=>bY (Know.one ((fP rfl))) fun ho79=>bY (Know.one ((dN rfl))) fun ho80=>bL 0 (vs:=[vS ((at' p0.2.2 a72.1).1),(at' us77 a72.1).1,(at' us77 a72.1).2]) rfl rfl (cR rfl (cR ho79 (cR ho80 rfl))) rfl rfl rfl<|aU ?_
   refine CC [0,1,0,0,8,28,60,127,255,511] 7 mixedOrders ?_
   refine eD rfl<|gM 2 rfl<|Cc 0 rfl<|Cc 6 rfl<|fO h fun r81 w82 h=>JR.loud rfl rfl rfl (aW.callQ MK (yT U v0 v1 r81 w82) rfl (gO [5,6] rfl)) rfl (fun x83=>(pH [([1],[]),([3],[])] rfl)) fun x83=>JR.stp (cY [Ar gZ x83 r81] [bJ b78 [vS ((at' p0.2.2 a72.1).1),(at' us77 a72.1).1,(at' us77 a72.1).2] 42,bJ b15 [u14] 47,bJ b12.1 [vS (p1.1),b21,b73.1] 25,Ar aH b21 a20.2,bJ b3 fL 25,bJ b2 [vS (p1.1),v2,v3] 25,bJ b1 [vS (p0.1),v0,v1] 25,Ad aG b73.1 b73.2 a72.2] (bH.ix [0,1,2,3,4,5,6,7,8] rfl rfl) (aM.ar (aM.res 0 rfl) jF))<|fO h fun r84 w85 h=>JR.loud rfl rfl rfl (aW.call Gg (lQ U ((at' us77 a72.1).1) ((at' us77 a72.1).2) x83 r84 w85) rfl (j_.cons (List.mem_of_getElem? (i:=2) rfl) (j_.cons (List.mem_of_getElem? (i:=1) rfl) (jY 0 rfl))) (fun _ _=>rfl) (fun _ _=>rfl)) rfl (fun x86=>(pH [([4],[])] rfl)) fun x86=>JR.stp (cY [Ar cD x86.1 r84.2.1] [Ad bI x86.2.1 x86.2.2 r84.2.2,bJ b78 [vS ((at' p0.2.2 a72.1).1),(at' us77 a72.1).1,(at' us77 a72.1).2] 42,bJ b15 [u14] 47,bJ b12.1 [vS (p1.1),b21,b73.1] 25,Ar aH b21 a20.2,bJ b3 fL 25,bJ b2 [vS (p1.1),v2,v3] 25,bJ b1 [vS (p0.1),v0,v1] 25,Ad aG b73.1 b73.2 a72.2] (bH.ix [0,1,2,3,4,5,6,7,8,9] rfl rfl) (aM.ar (aM.res 0 rfl) cO))<|JR.stp (cY [Ad bI x86.2.1 x86.2.2 r84.2.2] [bJ b78 [vS ((at' p0.2.2 a72.1).1),(at' us77 a72.1).1,(at' us77 a72.1).2] 42,bJ b15 [u14] 47,bJ b12.1 [vS (p1.1),b21,b73.1] 25,Ar aH b21 a20.2,bJ b3 fL 25,bJ b2 [vS (p1.1),v2,v3] 25,bJ b1 [vS (p0.1),v0,v1] 25,Ad aG b73.1 b73.2 a72.2] (bH.ix [0,1,2,3,4,5,6,7,8] rfl rfl) (cV (i:=0) (j:=1) bK rfl rfl:aM _ _ (Sl aX x86.2.1 r84.2.2)))<|JR.stp (bD ((dO (aM.and (fP rfl) (dN rfl)) dB):aM _ _ (Pw aC ([(x86.1,x86.2.1)]) ([(r84.1,r84.2.1,r84.2.2)]))))<|eG (Know.one ((rA rfl))) fun ho87=>eG (Know.one ((fP rfl))) fun ho88=>JR.loud rfl rfl rfl (eT (e:=aG) ([(x86.1,x86.2.1)]) ([((r84.1,r84.2.1,r84.2.2))]) [(0,Value.agg #[vS (r84.1),x86.1,x86.2.1])] rfl rfl rfl rfl (pV (vS (r84.1)) (x86.1) (x86.2.1)) rfl rfl (show List.all [vS (r84.1),x86.1,x86.2.1] one=true from(cR rfl (cR ho87 (cR ho88 rfl)))) rfl) rfl (fun u89=>(pH [([3],[])] rfl)) fun u89=>cX 7 rfl rfl<|fJ h fun j90 h=>cJ (bD ((eH (bV 14 rfl) (dN rfl)):aM _ _ (Pw aC (b73.2++([(x86.1,x86.2.1)])) (a72.2++([(r84.1,r84.2.1,r84.2.2)])))))<|aT (aW.appendD 8 0 rfl rfl rfl rfl rfl rfl rfl rfl j90 rfl) rfl fun u91=>bP rfl<|bY (Know.one ((cV (i:=8) (j:=0) aO rfl rfl))) fun ho92=>eS 3 rfl rfl ho92 rfl rfl rfl<|fQ<|lP<|aS<|dM rfl<|aE rfl<|aU ?_
   exact dZ ((wI .i64 (a72.1+(1:Int))),(a72.2++([(r84.1,r84.2.1,r84.2.2)]))) (u91,(b73.2++([(x86.1,x86.2.1)]))) h SF (bH.ix [2,3,4,5,6,7,8] rfl rfl) (gO [10,11,12,13,14,0] rfl)
  refine eQ ?_
  exact cK (a72.2) (b73.1,b73.2) h SF (bH.ix [0,1,2,3,4,6] rfl rfl) (aV.refl _ _)
 intro a35 b36 h
 unfold rC at h
 refine aP<|iM (B:=AC) (fun a40=>wH p1 a20 a40=some r) (fun a40 b41=>[(4,vP b3),(6,vP b12.1)]) (fun a40 b41=>[bJ b12.1 [vS (p1.1),b21,b41.1] 25,Ar aH b21 a20.2,bJ b3 fL 25,Ad aG b41.1 b41.2 a40]) (fun a40 b41=>[Sl gS u14 a20.1,Sl aF v0 p0.2.1,Sl aD v1 p0.2.2,Sl aF v2 p1.2.1,Sl aD v3 p1.2.2,Pw aC b41.2 a40]) ?_ ?_
 ·refine aZ<|bP rfl<|dC 4 rfl<|eC (KS rfl) rfl<|aE rfl<|aU<|aY<|jL (B:=AC) (rD U p1 a20) (fun a49 b50=>[(4,vP b3),(6,vP b12.1),(7,vP b15),(129,v3),(130,vI (List.length p1.2.2:Int)),(131,vI (a49.1))]) (fun a49 b50=>[bJ b15 [u14] 47,bJ b12.1 [vS (p1.1),b21,b50.1] 25,Ar aH b21 a20.2,bJ b3 fL 25,Ad aG b50.1 b50.2 a49.2]) (fun a49 b50=>[Sl gS u14 a20.1,Sl aF v0 p0.2.1,Sl aD v1 p0.2.2,Sl aF v2 p1.2.1,Sl aD v3 p1.2.2,Pw aC b50.2 a49.2]) ((0:Int),a35) (b36.1,b36.2) h SF (bH.ix [0,1,2,3,5] rfl rfl) (aV.refl _ _) ?_
  intro k51 a49 b50 h
  refine aZ<|dL rfl<|aU<|aP ?_
  refine gT h rfl (fun h=>?_) fun h=>?_
  ·refine cC<|aP<|aY<|aZ<|fJ h fun j53 h=>aJ (a_ rfl rfl (KS rfl) rfl rfl j53) rfl<|mS (v:=v3) (ds:=p1.2.2) aO (KS rfl) fun us54=>?_
   refine cJ (bD ((e_ (bT (f:=aC) (fP rfl) j53.1 (by first|exact j53.2|simpa using j53.2))):aM _ _ (Sl bF ((at' us54 a49.1).1) ((at' p1.2.2 a49.1).2.1)))) ?_
   refine cJ (bD ((fA (bT (f:=aC) (rA rfl) j53.1 (by first|exact j53.2|simpa using j53.2))):aM _ _ (Sl aX ((at' us54 a49.1).2) ((at' p1.2.2 a49.1).2.2)))) ?_
   refine aJ (dY (cs:=[vS ((at' p1.2.2 a49.1).1),(at' us54 a49.1).1,(at' us54 a49.1).2]) rfl (rA rfl) rfl rfl rfl rfl ⟨j53.1,by first|exact j53.2|simpa using j53.2⟩) rfl<|aT (aW.alloc (cs:=fL) rfl rfl) rfl fun b55=>bY (Know.one ((fP rfl))) fun ho56=>bY (Know.one ((dN rfl))) fun ho57=>bL 0 (vs:=[vS ((at' p1.2.2 a49.1).1),(at' us54 a49.1).1,(at' us54 a49.1).2]) rfl rfl (cR rfl (cR ho56 (cR ho57 rfl))) rfl rfl rfl<|aU ?_
   refine CC [0,1,0,0,12,28,63,127,255] 6 mixedOrders ?_
   refine eD rfl<|gM 2 rfl<|Cc 0 rfl<|gM 1 rfl<|fO h fun r58 w59 h=>JR.loud rfl rfl rfl (aW.call Gg (lQ U ((at' us54 a49.1).1) ((at' us54 a49.1).2) u14 r58 w59) rfl (j_.cons (List.mem_of_getElem? (i:=1) rfl) (j_.cons (List.mem_of_getElem? (i:=0) rfl) (jY 4 rfl))) (fun _ _=>rfl) (fun _ _=>rfl)) rfl (fun x60=>(pH [([4],[])] rfl)) fun x60=>JR.stp (cY [Ar cD x60.1 r58.2.1] [Ad bI x60.2.1 x60.2.2 r58.2.2,bJ b55 [vS ((at' p1.2.2 a49.1).1),(at' us54 a49.1).1,(at' us54 a49.1).2] 42,bJ b15 [u14] 47,bJ b12.1 [vS (p1.1),b21,b50.1] 25,Ar aH b21 a20.2,bJ b3 fL 25,Ad aG b50.1 b50.2 a49.2] (bH.ix [0,1,2,3,4,5,6,7] rfl rfl) (aM.ar (aM.res 0 rfl) cO))<|JR.stp (cY [Ad bI x60.2.1 x60.2.2 r58.2.2] [bJ b55 [vS ((at' p1.2.2 a49.1).1),(at' us54 a49.1).1,(at' us54 a49.1).2] 42,bJ b15 [u14] 47,bJ b12.1 [vS (p1.1),b21,b50.1] 25,Ar aH b21 a20.2,bJ b3 fL 25,Ad aG b50.1 b50.2 a49.2] (bH.ix [0,1,2,3,4,5,6] rfl rfl) (cV (i:=0) (j:=1) bK rfl rfl:aM _ _ (Sl aX x60.2.1 r58.2.2)))<|JR.stp (bD ((dO (aM.and (fP rfl) (dN rfl)) dB):aM _ _ (Pw aC ([(x60.1,x60.2.1)]) ([(r58.1,r58.2.1,r58.2.2)]))))<|eG (Know.one ((rA rfl))) fun ho61=>eG (Know.one ((fP rfl))) fun ho62=>JR.loud rfl rfl rfl (eT (e:=aG) ([(x60.1,x60.2.1)]) ([((r58.1,r58.2.1,r58.2.2))]) [(0,Value.agg #[vS (r58.1),x60.1,x60.2.1])] rfl rfl rfl rfl (pV (vS (r58.1)) (x60.1) (x60.2.1)) rfl rfl (show List.all [vS (r58.1),x60.1,x60.2.1] one=true from(cR rfl (cR ho61 (cR ho62 rfl)))) rfl) rfl (fun u63=>(pH [([3],[])] rfl)) fun u63=>cX 6 rfl rfl<|fJ h fun j64 h=>cJ (bD ((eH (bV 13 rfl) (dN rfl)):aM _ _ (Pw aC (b50.2++([(x60.1,x60.2.1)])) (a49.2++([(r58.1,r58.2.1,r58.2.2)])))))<|aT (aW.appendD 6 0 rfl rfl rfl rfl rfl rfl rfl rfl j64 rfl) rfl fun u65=>bP rfl<|bY (Know.one ((cV (i:=6) (j:=0) aO rfl rfl))) fun ho66=>eS 3 rfl rfl ho66 rfl rfl rfl<|fQ<|lP<|aS<|dM rfl<|aE rfl<|aU ?_
   exact dZ ((wI .i64 (a49.1+(1:Int))),(a49.2++([(r58.1,r58.2.1,r58.2.2)]))) (u65,(b50.2++([(x60.1,x60.2.1)]))) h SF (bH.ix [2,3,4,5,6] rfl rfl) (gO [9,10,11,12,13,0] rfl)
  refine eQ ?_
  exact cK (a49.2) (b50.1,b50.2) h SF (bH.ix [1,2,3,4] rfl rfl) (aV.refl _ _)
 intro a40 b41 h
 unfold wH at h
 refine aZ<|iC 0 rfl<|bY (Know.one ((aM.ar (aM.res 1 rfl) aQ))) fun ho42=>bY (Know.one ((cV (i:=3) (j:=5) aO rfl rfl))) fun ho43=>bL 2 (vs:=[vS (p1.1),b21,b41.1]) rfl rfl (cR rfl (cR ho42 (cR ho43 rfl))) rfl rfl rfl<|aK rfl<|aU<|bE<|cJ (cY [Ad aG b41.1 b41.2 a40] [bJ b12.1 [vS (p1.1),b21,b41.1] 25,Ar aH b21 a20.2,bJ b3 [vS (p1.1),b21,b41.1] 25] (bH.ix [3,0,1,2] rfl rfl) (cV (i:=0) (j:=5) aO rfl rfl:aM _ _ (Sl aD b41.1 a40))) ?_
 cases h
 exact fB (b21,b41.1) rfl rfl (RV.cell 2 rfl rfl rfl rfl) (RV.tmp rfl) (bH.ix [1] rfl rfl) (gO [0] rfl)
end
section
def Ao  (a3:cU):Option cU:=
 some (a3)
def vZ (p0:Int) (a9:cU×Int) (ag8:(cU×Int)->Option cU):Option cU:=
 if a9.2<p0 then(ck ((List.length a9.1:Int)+(List.length ([a9.2]):Int)<=1099511627) (ag8 ((a9.1++[a9.2]),(wI .i64 (a9.2+(1:Int))))))else(Ao  (a9.1))
def uM (U:Nat) (p0:Int):Option cU:=
 bZ (vZ p0) U (([]:cU),(0:Int))
theorem Qt:bO Tryz.prog 26:=Tryz.call26
theorem FY (U:Nat) {p0:Int} (r:cU) (h:uM U p0=some r):
  bQ Tryz.prog 26 #[vI (p0)] [] (fun x:Value=>x) (fun x l=>Ar gZ x r::l) (fun _ l=>l):=by
 refine bQ.of Tryz.func26 rfl Tryz.ntmps26 rfl fun c=>?_
 unfold uM at h
 refine aZ<|aK rfl<|aU<|aZ<|aK rfl<|aU<|aP<|Ep (B:=Value) (fun a3=>Ao  a3=some r) (fun a3 b4=>[(3,b4)]) (fun a3 b4=>[Ar gZ b4 a3]) ?_ ?_
 ·refine aZ<|aK rfl<|aU<|aY<|cJ (d_ gZ)<|fW (B:=Value) (vZ p0) (fun a9 b10=>[(0,vI (p0)),(3,b10),(4,vI (a9.2))]) (fun a9 b10=>[Ar gZ b10 a9.1]) (([]:cU),(0:Int)) (fX) h SF (bH.refl _) ?_
  intro k11 a9 b10 h
  refine aP<|aZ<|aE rfl<|aE rfl<|dL rfl<|aU ?_
  refine gT h rfl (fun h=>?_) fun h=>?_
  ·refine cC<|aP<|aY<|aS<|aE rfl<|aE rfl<|aT (dJ (e:=gZ) ([a9.2]) [(0,vI (a9.2))] rfl rfl rfl rfl (Bc (vI (a9.2)) rfl) rfl rfl rfl) rfl fun u13=>fJ h fun j15 h=>aT (dP 1 jF rfl rfl rfl (aM.ar (aM.res 0 rfl) jF) rfl rfl rfl rfl j15 rfl) rfl fun u14=>aK rfl<|fQ<|lP<|aS<|aE rfl<|dM rfl<|aK rfl<|aU ?_
   exact dZ ((a9.1++[a9.2]),(wI .i64 (a9.2+(1:Int)))) (u14) h SF (bH.ix [1] rfl rfl) (aV.refl _ _)
  refine eQ ?_
  exact cZ (a9.1) (b10) h SF rfl
 intro a3 b4 h
 unfold Ao at h
 refine aZ<|aE rfl<|aK rfl<|aU<|bE ?_
 cases h
 exact uD (b4) rfl rfl (RV.tmp rfl) (bH.refl _) aV.nil
end
section
def yP  (a1:Unit):Option (Int):=
 some (-1:Int)
def yQ (p0:gN) (p1:ByteArray) (a5:Int) (ag4:(Int)->Option (Int)):Option (Int):=
 if a5<(List.length p0:Int)then(ck (0<=a5∧a5<(List.length p0:Int)) (if(eR ((at' p0 a5).1) p1)=true then(some (a5))else(ag4 (wI .i64 (a5+(1:Int))))))else(yP  (()))
def jH (U:Nat) (p0:gN) (p1:ByteArray):Option (Int):=
 bZ (yQ p0 p1) U (0:Int)
theorem Ka:bO Tryz.prog 38:=Tryz.call38
theorem As (U:Nat) {p0:gN} {p1:ByteArray} (v0:Value) (r:Int) (h:jH U p0 p1=some r):
  bQ Tryz.prog 38 #[v0,vS (p1)] [Sl aF v0 p0] (fun x:Unit=>vI (r)) (fun x l=>l) (fun _ l=>l):=by
 refine bQ.of Tryz.func38 rfl Tryz.ntmps38 rfl fun c=>?_
 unfold jH at h
 refine aZ<|aK rfl<|aU<|aP<|dD (fun a1=>yP  a1=some r) (fun a1 b2=>[]) (fun a1 b2=>[]) ?_ ?_
 ·refine aZ<|aK rfl<|aU<|aY<|fW (yQ p0 p1) (fun a5 b6=>[(0,v0),(1,vS (p1)),(5,vI (a5))]) (fun a5 b6=>[]) (0:Int) () h SF (bH.refl _) ?_
  intro k7 a5 b6 h
  refine aP<|aZ<|aE rfl<|aE rfl<|eC (dN rfl) rfl<|dL rfl<|aU ?_
  refine gT h rfl (fun h=>?_) fun h=>?_
  ·refine cC<|aP<|aY<|aZ<|aE rfl<|aE rfl<|fJ h fun j9 h=>aJ (a_ rfl rfl (dN rfl) rfl rfl j9) rfl<|aJ (cW rfl rfl rfl rfl rfl) rfl<|aJ (fN rfl (dN rfl) rfl rfl rfl iG j9) rfl<|aE rfl<|aJ (eF rfl rfl) rfl<|aU ?_
   refine gP h rfl (fun _ h=>?_) fun _ h=>?_
   ·refine aZ<|aE rfl<|aK rfl<|aU<|bE<|cG<|aR<|aR<|cG<|aR ?_
    cases h
    exact kF rfl
   refine eJ<|lP<|aS<|aE rfl<|dM rfl<|aK rfl<|aU ?_
   exact BR (wI .i64 (a5+(1:Int))) () h SF rfl
  refine eQ ?_
  exact cZ () (()) h SF rfl
 intro a1 b2 h
 unfold yP at h
 refine aZ<|aK rfl<|aU<|bE ?_
 cases h
 exact kF rfl
end
section
def yO  (a1:Unit):Option (Bool):=
 some (false)
def qI (p0:jR) (p1:ByteArray) (a5:Int) (ag4:(Int)->Option (Bool)):Option (Bool):=
 if a5<(List.length p0:Int)then(ck (0<=a5∧a5<(List.length p0:Int)) (if(eR ((at' p0 a5).1) p1)=true then(some (true))else(ag4 (wI .i64 (a5+(1:Int))))))else(yO  (()))
def sE (U:Nat) (p0:jR) (p1:ByteArray):Option (Bool):=
 bZ (qI p0 p1) U (0:Int)
theorem Qx:bO Tryz.prog 39:=Tryz.call39
theorem EE (U:Nat) {p0:jR} {p1:ByteArray} (v0:Value) (r:Bool) (h:sE U p0 p1=some r):
  bQ Tryz.prog 39 #[v0,vS (p1)] [Sl aD v0 p0] (fun x:Unit=>vB (r)) (fun x l=>l) (fun _ l=>l):=by
 refine bQ.of Tryz.func39 rfl Tryz.ntmps39 rfl fun c=>?_
 unfold sE at h
 refine aZ<|aK rfl<|aU<|aP<|dD (fun a1=>yO  a1=some r) (fun a1 b2=>[]) (fun a1 b2=>[]) ?_ ?_
 ·refine aZ<|aK rfl<|aU<|aY<|fW (qI p0 p1) (fun a5 b6=>[(0,v0),(1,vS (p1)),(5,vI (a5))]) (fun a5 b6=>[]) (0:Int) () h SF (bH.refl _) ?_
  intro k7 a5 b6 h
  refine aP<|aZ<|aE rfl<|aE rfl<|eC (dN rfl) rfl<|dL rfl<|aU ?_
  refine gT h rfl (fun h=>?_) fun h=>?_
  ·refine cC<|aP<|aY<|aZ<|aE rfl<|aE rfl<|fJ h fun j9 h=>aJ (a_ rfl rfl (dN rfl) rfl rfl j9) rfl<|aJ (cW rfl rfl rfl rfl rfl) rfl<|aJ (fN rfl (dN rfl) rfl rfl rfl dX j9) rfl<|aE rfl<|aJ (eF rfl rfl) rfl<|aU ?_
   refine gP h rfl (fun _ h=>?_) fun _ h=>?_
   ·refine aZ<|aK rfl<|aU<|bE<|cG<|aR<|aR<|cG<|aR ?_
    cases h
    exact kF rfl
   refine eJ<|lP<|aS<|aE rfl<|dM rfl<|aK rfl<|aU ?_
   exact BR (wI .i64 (a5+(1:Int))) () h SF rfl
  refine eQ ?_
  exact cZ () (()) h SF rfl
 intro a1 b2 h
 unfold yO at h
 refine aZ<|aK rfl<|aU<|bE ?_
 cases h
 exact kF rfl
end
section
def Am (p1:cH) (a16:Es) (a27:wA) (a31:Bool):Option eK:=
 if a31=true then(some ((((ByteArray.mk #[]),([]:gN),([]:jR))),(3:Int)))else(some (((p1.1,a16.2,a27)),(0:Int)))
def Al (p1:cH) (a16:Es) (a22:Sc) (a27:wA):Option eK:=
 if a22.1=true then(some ((((ByteArray.mk #[]),([]:gN),([]:jR))),(5:Int)))else(if(6:Int)<(List.length a16.2:Int)then(Am p1 a16 a27 (true))else(Am p1 a16 a27 (decide ((12:Int)<(List.length a27:Int)))))
def BN (a42:DU) (ag41:IA->Option eK) (r48:Jw) (a54:Unit):Option eK:=
 ck ((List.length a42.2:Int)+(List.length ([(r48.1,r48.2.1,r48.2.2)]):Int)<=1099511627) (ag41 ((wI .i64 (a42.1+(1:Int))),(a42.2++([(r48.1,r48.2.1,r48.2.2)]))))
def vY (p0:cH) (a42:DU) (ag41:IA->Option eK) (r48:Jw) (a64:Int) (ag63:(Int)->Option eK):Option eK:=
 if a64<(List.length r48.2.2:Int)then(ck (0<=a64∧a64<(List.length r48.2.2:Int)) (if((at' r48.2.2 a64).1)<(List.length p0.2.1:Int)then(some ((((ByteArray.mk #[]),([]:gN),([]:jR))),(7:Int)))else(ag63 (wI .i64 (a64+(1:Int))))))else(BN a42 ag41 r48 (()))
def pF (U:Nat) (p0:cH) (p1:cH) (a16:Es) (a22:Sc) (a42:DU) (ag41:IA->Option eK):Option eK:=
 if a42.1<(List.length p1.2.2:Int)then(ck (0<=a42.1∧a42.1<(List.length p1.2.2:Int)) (Option.bind (iV U ((((at' p1.2.2 a42.1).1),((at' p1.2.2 a42.1).2.1),((at' p1.2.2 a42.1).2.2))) a16.1) fun r48=>(bZ (vY p0 a42 ag41 r48) U (0:Int))))else(Al p1 a16 a22 (a42.2))
def vW (U:Nat) (p0:cH) (p1:cH) (a16:Es) (a22:Sc):Option eK:=
 bZ (pF U p0 p1 a16 a22) U ((0:Int),a22.2)
def vX (a76:Bool×Int×(List (ByteArray×cS×(List (Int×cS))))) (ag75:(Bool×Int×(List (ByteArray×cS×(List (Int×cS)))))->Option eK) (a84:(List (ByteArray×cS×(List (Int×cS))))×Bool):Option eK:=
 ag75 (a84.2,(wI .i64 (a76.2.1+(1:Int))),a84.1)
def sI (U:Nat) (p0:cH) (p1:cH) (a16:Es) (a76:Bool×Int×(List (ByteArray×cS×(List (Int×cS))))) (ag75:(Bool×Int×(List (ByteArray×cS×(List (Int×cS)))))->Option eK):Option eK:=
 if a76.2.1<(List.length p0.2.2:Int)then(ck (0<=a76.2.1∧a76.2.1<(List.length p0.2.2:Int)) (Option.bind (uM U (List.length p0.2.1:Int)) fun r88=>(Option.bind (iV U ((((at' p0.2.2 a76.2.1).1),((at' p0.2.2 a76.2.1).2.1),((at' p0.2.2 a76.2.1).2.2))) r88) fun r91=>(ck ((List.length a76.2.2:Int)+(List.length ([(r91.1,r91.2.1,r91.2.2)]):Int)<=1099511627) (if a76.1=true then(vX a76 ag75 ((a76.2.2++([(r91.1,r91.2.1,r91.2.2)])),true))else(ck (0<=a76.2.1∧a76.2.1<(List.length p0.2.2:Int)) (Option.bind (sE U p1.2.2 ((at' p0.2.2 a76.2.1).1)) fun r102=>(vX a76 ag75 ((a76.2.2++([(r91.1,r91.2.1,r91.2.2)])),r102)))))))))else(vW U p0 p1 a16 (a76.1,a76.2.2))
def sH (U:Nat) (p0:cH) (p1:cH) (a16:Es):Option eK:=
 bZ (sI U p0 p1 a16) U (false,(0:Int),([]:jR))
def yN (a111:Sb) (ag110:Sa->Option eK) (a126:Int×(List (ByteArray×Int×Int×Int×Int×Int))):Option eK:=
 ck ((List.length a111.1:Int)+(List.length ([a126.1]):Int)<=1099511627) (ag110 ((a111.1++[a126.1]),(wI .i64 (a111.2.1+(1:Int))),a126.2))
def An (p1:cH) (a111:Sb) (ag110:Sa->Option eK) (r116:Int) (a120:Bool):Option eK:=
 if a120=true then(some ((((ByteArray.mk #[]),([]:gN),([]:jR))),(6:Int)))else(if r116<(0:Int)then(ck (0<=a111.2.1∧a111.2.1<(List.length p1.2.1:Int)) (ck ((List.length a111.2.2:Int)+(List.length ([(((at' p1.2.1 a111.2.1).1),((at' p1.2.1 a111.2.1).2.1),((at' p1.2.1 a111.2.1).2.2.1),((at' p1.2.1 a111.2.1).2.2.2.1),((at' p1.2.1 a111.2.1).2.2.2.2.1),((at' p1.2.1 a111.2.1).2.2.2.2.2))]):Int)<=1099511627) (yN a111 ag110 ((List.length a111.2.2:Int),(a111.2.2++([(((at' p1.2.1 a111.2.1).1),((at' p1.2.1 a111.2.1).2.1),((at' p1.2.1 a111.2.1).2.2.1),((at' p1.2.1 a111.2.1).2.2.2.1),((at' p1.2.1 a111.2.1).2.2.2.2.1),((at' p1.2.1 a111.2.1).2.2.2.2.2))]))))))else(yN a111 ag110 (r116,a111.2.2)))
def pG (U:Nat) (p0:cH) (p1:cH) (a111:Sb) (ag110:Sa->Option eK):Option eK:=
 if a111.2.1<(List.length p1.2.1:Int)then(ck (0<=a111.2.1∧a111.2.1<(List.length p1.2.1:Int)) (Option.bind (jH U p0.2.1 ((at' p1.2.1 a111.2.1).1)) fun r116=>(if(0:Int)<=r116 then(ck (0<=r116∧r116<(List.length p0.2.1:Int)) (ck (0<=a111.2.1∧a111.2.1<(List.length p1.2.1:Int)) (An p1 a111 ag110 r116 (decide ((((at' p0.2.1 r116).1),((at' p0.2.1 r116).2.1),((at' p0.2.1 r116).2.2.1),((at' p0.2.1 r116).2.2.2.1),((at' p0.2.1 r116).2.2.2.2.1),((at' p0.2.1 r116).2.2.2.2.2))≠(((at' p1.2.1 a111.2.1).1),((at' p1.2.1 a111.2.1).2.1),((at' p1.2.1 a111.2.1).2.2.1),((at' p1.2.1 a111.2.1).2.2.2.1),((at' p1.2.1 a111.2.1).2.2.2.2.1),((at' p1.2.1 a111.2.1).2.2.2.2.2)))))))else(An p1 a111 ag110 r116 (false)))))else(sH U p0 p1 (a111.1,a111.2.2))
def Ak (U:Nat) (p0:cH) (p1:cH) (a10:Unit):Option eK:=
 bZ (pG U p0 p1) U (([]:cU),(0:Int),(([]:gN)++p0.2.1))
def Aj (U:Nat) (p0:cH) (p1:cH) (a5:Bool):Option eK:=
 if a5=true then(some ((((ByteArray.mk #[]),([]:gN),([]:jR))),(8:Int)))else(ck ((List.length ([]:gN):Int)+(List.length p0.2.1:Int)<=1099511627) (Ak U p0 p1 (())))
def AS (U:Nat) (p0:cH) (p1:cH):Option eK:=
 Option.bind (pD U ((p0.1,p0.2.1,p0.2.2))) fun r161=>(if(!r161)=true then(Aj U p0 p1 (true))else(Option.bind (pD U ((p1.1,p1.2.1,p1.2.2))) fun r165=>(Aj U p0 p1 ((!r165)))))
theorem UH:bO Tryz.prog 16:=Tryz.call16
theorem KL (U:Nat) {p0:cH} {p1:cH} (v0:Value)  (v1:Value)  (v2:Value)  (v3:Value) (r:OB) (h:AS U p0 p1=some r):
  bQ Tryz.prog 16 #[Value.agg #[vS (p0.1),v0,v1],Value.agg #[vS (p1.1),v2,v3]] [Sl aF v0 p0.2.1,Sl aD v1 p0.2.2,Sl aF v2 p1.2.1,Sl aD v3 p1.2.2] (fun x:Cj=>Value.tuple #[Value.agg #[vS (r.1.1),x.1,x.2],vI (r.2)]) (fun x l=>Ar aH x.1 r.1.2.1::l) (fun x l=>Sl aD x.2 r.1.2.2::l):=by
 refine bQ.of Tryz.func16 rfl Tryz.ntmps16 rfl fun c=>?_
 refine aZ<|aT (aW.box (cs:=[vS (p0.1),v0,v1]) rfl rfl) rfl fun b1=>aT (aW.box (cs:=[vS (p1.1),v2,v3]) rfl rfl) rfl fun b2=>aT (aW.alloc (cs:=fL) rfl rfl) rfl fun b3=>aK rfl<|aU<|aP<|aP<|dD (fun a5=>Aj U p0 p1 a5=some r) (fun a5 b6=>[(2,vP b1),(3,vP b2),(4,vP b3),(22,vB (a5))]) (fun a5 b6=>[bJ b3 fL 25,bJ b2 [vS (p1.1),v2,v3] 25,bJ b1 [vS (p0.1),v0,v1] 25]) ?_ ?_
 ·refine aS<|iC 2 rfl<|fO h fun r161 w162 h=>aT (aW.callQ JY (Aq U v0 v1 r161 w162) rfl (gO [0,1] rfl)) rfl fun x163=>aJ (fR rfl) rfl<|aE rfl ?_
  refine fY (by exact rfl) (by exact rfl) (fun hp164=>?_) (fun hp164=>?_)
  ·have h:=BK hp164 h
   refine aI rfl<|aI rfl<|aI rfl<|cE rfl<|aU ?_
   exact cZ (true) () h SF rfl
  have h:=sM hp164 h
  refine aL rfl (iD 1 rfl rfl rfl rfl) rfl<|fO h fun r165 w166 h=>eX rfl (aW.callQ JY (Aq U v2 v3 r165 w166) rfl (gO [2,3] rfl)) rfl fun x167=>aL rfl (fR rfl) rfl<|cI rfl<|aU ?_
  exact cZ ((!r165)) () h SF rfl
 intro a5 b6 h
 refine gP h rfl (fun _ h=>?_) fun _ h=>?_
 ·refine aZ ?_
  refine aJ (sK (r:=Value.agg #[vS (ByteArray.mk #[]),fX,fX]) (by intro w;simp[Instr.build,Instr.fill,b_,bR,bM,cA,cB,bS,cL])) rfl ?_
  refine bL 0 (vs:=fL) rfl rfl rfl rfl rfl rfl<|aK rfl<|aU<|bE<|aR<|cJ (d_ aH) ?_
  cases h
  exact fB ((fX),(fX)) rfl rfl (RV.cell 1 rfl rfl rfl rfl) (RV.tmp rfl) (bH.ix [0] rfl rfl) (aV.cons aM.nil aV.nil)
 refine cC<|aP<|Ep (B:=Nat×Value) (fun a10=>Ak U p0 p1 a10=some r) (fun a10 b11=>[(2,vP b1),(3,vP b2),(4,vP b3),(6,vP b11.1)]) (fun a10 b11=>[bJ b11.1 [vS (p1.1),b11.2,fX] 25,Ar aH b11.2 (([]:gN)++p0.2.1),bJ b3 fL 25,bJ b2 [vS (p1.1),v2,v3] 25,bJ b1 [vS (p0.1),v0,v1] 25]) ?_ ?_
 ·have⟨j142,h⟩:=Eb h
  refine BU [0,1,0,0,8,28,63,0,255] 8 [[0,1,3,4,2,5,6,7,8],[0,1,3,4,2,7,5,6,8],[0,1,3,4,7,2,5,6,8]] mixedOrders (by decide +kernel) (by decide +kernel) ?_
  intro o ho
  simp only[List.mem_cons,List.not_mem_nil,or_false]at ho
  rcases ho with rfl|rfl|rfl
  ·refine eD rfl<|gM 1 rfl<|eD rfl<|gM 2 rfl<|JR.loud rfl rfl rfl (dJ (e:=aH) ([]:gN) [] rfl rfl rfl rfl ((fun i h=>by simp at h;subst h;rfl)) rfl rfl rfl) rfl (fun u146=>(pH [([3],[]),([2],[])] rfl)) fun u146=>JR.loud rfl rfl rfl (dP 0 aQ rfl rfl rfl (dN rfl) rfl rfl rfl rfl j142 rfl) rfl (fun u147=>(pH [([2],[])] rfl)) fun u147=>eG (Know.one ((aM.ar (aM.res 0 rfl) aQ))) fun ho148=>?_
   refine zE rfl (kY (r:=Value.agg #[vS (p1.1),u147,fX]) rfl rfl (by intro w;simp[Instr.build,Instr.fill,b_,bR,bM,cA,cB,bS,cL,eY ho148])) ?_
   refine JR.loud rfl rfl rfl (aW.alloc (cs:=fL) rfl rfl) rfl (fun b149=>(pH [([4],[]),([3],[])] rfl)) fun b149=>cX 8 rfl rfl<|bY (Know.one ((aM.ar (aM.res 1 rfl) aQ))) fun ho150=>bL 0 (vs:=[vS (p1.1),u147,fX]) rfl rfl (cR rfl (cR ho150 (cR rfl rfl))) rfl rfl rfl<|aU ?_
   exact cZ () (b149,u147) h SF rfl
  ·refine eD rfl<|gM 1 rfl<|eD rfl<|gM 2 rfl<|JR.loud rfl rfl rfl (dJ (e:=aH) ([]:gN) [] rfl rfl rfl rfl ((fun i h=>by simp at h;subst h;rfl)) rfl rfl rfl) rfl (fun u151=>(pH [([3],[]),([2],[])] rfl)) fun u151=>JR.loud rfl rfl rfl (aW.alloc (cs:=fL) rfl rfl) rfl (fun b152=>(pH [([4],[]),([3],[])] rfl)) fun b152=>JR.loud rfl rfl rfl (dP 1 aQ rfl rfl rfl (dN rfl) rfl rfl rfl rfl j142 rfl) rfl (fun u153=>(pH [([3],[])] rfl)) fun u153=>eG (Know.one ((aM.ar (aM.res 1 rfl) aQ))) fun ho154=>?_
   refine zE rfl (kY (r:=Value.agg #[vS (p1.1),u153,fX]) rfl rfl (by intro w;simp[Instr.build,Instr.fill,b_,bR,bM,cA,cB,bS,cL,eY ho154])) ?_
   refine cX 8 rfl rfl<|bY (Know.one ((aM.ar (aM.res 1 rfl) aQ))) fun ho155=>bL 0 (vs:=[vS (p1.1),u153,fX]) rfl rfl (cR rfl (cR ho155 (cR rfl rfl))) rfl rfl rfl<|aU ?_
   exact cZ () (b152,u153) h SF rfl
  refine eD rfl<|gM 1 rfl<|eD rfl<|gM 2 rfl<|JR.loud rfl rfl rfl (aW.alloc (cs:=fL) rfl rfl) rfl (fun b156=>(pH [([3],[]),([2],[])] rfl)) fun b156=>JR.loud rfl rfl rfl (dJ (e:=aH) ([]:gN) [] rfl rfl rfl rfl ((fun i h=>by simp at h;subst h;rfl)) rfl rfl rfl) rfl (fun u157=>(pH [([4],[]),([3],[])] rfl)) fun u157=>JR.loud rfl rfl rfl (dP 0 aQ rfl rfl rfl (dN rfl) rfl rfl rfl rfl j142 rfl) rfl (fun u158=>(pH [([3],[])] rfl)) fun u158=>eG (Know.one ((aM.ar (aM.res 0 rfl) aQ))) fun ho159=>?_
  refine zE rfl (kY (r:=Value.agg #[vS (p1.1),u158,fX]) rfl rfl (by intro w;simp[Instr.build,Instr.fill,b_,bR,bM,cA,cB,bS,cL,eY ho159])) ?_
  refine cX 8 rfl rfl<|bY (Know.one ((aM.ar (aM.res 0 rfl) aQ))) fun ho160=>bL 1 (vs:=[vS (p1.1),u158,fX]) rfl rfl (cR rfl (cR ho160 (cR rfl rfl))) rfl rfl rfl<|aU ?_
  exact cK () (b156,u158) h SF (bH.ix [1,0,2,3,4] rfl rfl) (aV.refl _ _)
 intro a10 b11 h
 unfold Ak at h
 refine aZ<|aK rfl<|aU<|aP<|Ep (B:=Cj) (fun a16=>sH U p0 p1 a16=some r) (fun a16 b17=>[(2,vP b1),(3,vP b2),(4,vP b3),(6,vP b11.1),(7,b17.1)]) (fun a16 b17=>[bJ b11.1 [vS (p1.1),b17.2,fX] 25,Ar aH b17.2 a16.2,bJ b3 fL 25,bJ b2 [vS (p1.1),v2,v3] 25,bJ b1 [vS (p0.1),v0,v1] 25,Ar gZ b17.1 a16.1]) ?_ ?_
 ·refine aZ<|aK rfl<|aU<|aY<|cJ (d_ gZ)<|fW (B:=Cj) (pG U p0 p1) (fun a111 b112=>[(2,vP b1),(3,vP b2),(4,vP b3),(6,vP b11.1),(7,b112.1),(8,vI (a111.2.1))]) (fun a111 b112=>[bJ b11.1 [vS (p1.1),b112.2,fX] 25,Ar aH b112.2 a111.2.2,bJ b3 fL 25,bJ b2 [vS (p1.1),v2,v3] 25,bJ b1 [vS (p0.1),v0,v1] 25,Ar gZ b112.1 a111.1]) (([]:cU),(0:Int),(([]:gN)++p0.2.1)) ((fX),b11.2) h SF (bH.ix [1,2,3,4,5,0] rfl rfl) ?_
  intro k113 a111 b112 h
  refine aP<|aZ<|aE rfl<|bP rfl<|dC 3 rfl<|eC (rA rfl) rfl<|dL rfl<|aU ?_
  refine gT h rfl (fun h=>?_) fun h=>?_
  ·refine cC<|aP<|aY<|aP ?_
   refine CC [0,1,0,4,0,28,60,124,255,511] 8 mixedOrders ?_
   refine eD rfl<|gM 4 rfl<|eD rfl<|gM 3 rfl<|dG rfl<|fJ h fun j115 h=>dK rfl .nil (jY 2 rfl) (a_ rfl rfl (dN rfl) rfl rfl j115) bG.z<|zE rfl (cW rfl rfl rfl rfl rfl)<|dK rfl .nil (jY 2 rfl) (fN rfl (dN rfl) rfl rfl rfl iG j115) bG.z<|cX 8 rfl rfl<|fO h fun r116 w117 h=>aT (aW.callQ Ka (As U v0 r116 w117) rfl (gO [0] rfl)) rfl fun x118=>aK rfl<|aU<|aP<|aP<|dD (fun a120=>An p1 a111 (bZ (pG U p0 p1) k113) r116 a120=some r) (fun a120 b121=>[(2,vP b1),(3,vP b2),(4,vP b3),(6,vP b11.1),(7,b112.1),(8,vI (a111.2.1)),(9,vI (r116)),(61,vB (a120))]) (fun a120 b121=>[bJ b11.1 [vS (p1.1),b112.2,fX] 25,Ar aH b112.2 a111.2.2,bJ b3 fL 25,bJ b2 [vS (p1.1),v2,v3] 25,bJ b1 [vS (p0.1),v0,v1] 25,Ar gZ b112.1 a111.1]) ?_ ?_
   ·refine CC [0,1,3,7,15,7,63,127,7,263,7,1799,3847,8191,16383] 13 mixedOrders ?_
    refine dG rfl<|zE rfl (jM rfl rfl)<|dG rfl ?_
    refine Ja (by exact rfl) (by exact rfl) (by exact rfl) (fun hp137=>?_) (fun hp137=>?_)
    ·have h:=BK hp137 h
     refine fI rfl .nil .nil (cF rfl rfl rfl rfl rfl) bG.z<|fI rfl (bH.cons 4 rfl .nil) .nil (cT 0 rfl rfl rfl rfl rfl) bG.z<|fI rfl .nil .nil (xF rfl) bG.z<|fJ h fun j138 h=>fI rfl .nil (jY 0 rfl) (a_ rfl rfl (dN rfl) rfl rfl j138) bG.z<|fI rfl .nil (jY 0 rfl) (gI (cs:=[vS ((at' p0.2.1 r116).1),vI ((at' p0.2.1 r116).2.1),vI ((at' p0.2.1 r116).2.2.1),vI ((at' p0.2.1 r116).2.2.2.1),vI ((at' p0.2.1 r116).2.2.2.2.1),vI ((at' p0.2.1 r116).2.2.2.2.2)]) rfl (dN rfl) aQ rfl rfl rfl rfl j138) bG.z<|fI rfl .nil .nil (cF rfl rfl rfl rfl rfl) bG.z<|fI rfl (bH.cons 3 rfl .nil) .nil (cT 0 rfl rfl rfl rfl rfl) bG.z<|fI rfl .nil .nil (xF rfl) bG.z<|fJ h fun j139 h=>fI rfl .nil (jY 2 rfl) (a_ rfl rfl (dN rfl) rfl rfl j139) bG.z<|fI rfl .nil (jY 2 rfl) (gI (cs:=[vS ((at' p1.2.1 a111.2.1).1),vI ((at' p1.2.1 a111.2.1).2.1),vI ((at' p1.2.1 a111.2.1).2.2.1),vI ((at' p1.2.1 a111.2.1).2.2.2.1),vI ((at' p1.2.1 a111.2.1).2.2.2.2.1),vI ((at' p1.2.1 a111.2.1).2.2.2.2.2)]) rfl (dN rfl) aQ rfl rfl rfl rfl j139) bG.z<|cX 13 rfl rfl<|aL rfl (JN rfl rfl (Kh (((at' p0.2.1 r116).1),((at' p0.2.1 r116).2.1),((at' p0.2.1 r116).2.2.1),((at' p0.2.1 r116).2.2.2.1),((at' p0.2.1 r116).2.2.2.2.1),((at' p0.2.1 r116).2.2.2.2.2)) (((at' p1.2.1 a111.2.1).1),((at' p1.2.1 a111.2.1).2.1),((at' p1.2.1 a111.2.1).2.2.1),((at' p1.2.1 a111.2.1).2.2.2.1),((at' p1.2.1 a111.2.1).2.2.2.2.1),((at' p1.2.1 a111.2.1).2.2.2.2.2)) _ _)) rfl<|cE rfl<|aU ?_
     exact cZ (decide ((((at' p0.2.1 r116).1),((at' p0.2.1 r116).2.1),((at' p0.2.1 r116).2.2.1),((at' p0.2.1 r116).2.2.2.1),((at' p0.2.1 r116).2.2.2.2.1),((at' p0.2.1 r116).2.2.2.2.2))≠(((at' p1.2.1 a111.2.1).1),((at' p1.2.1 a111.2.1).2.1),((at' p1.2.1 a111.2.1).2.2.1),((at' p1.2.1 a111.2.1).2.2.2.1),((at' p1.2.1 a111.2.1).2.2.2.2.1),((at' p1.2.1 a111.2.1).2.2.2.2.2)))) () h SF rfl
    have h:=Wp hp137 h
    refine dA rfl rfl rfl rfl<|dA rfl rfl rfl rfl<|dA rfl rfl rfl rfl<|dA rfl rfl rfl rfl<|dA rfl rfl rfl rfl<|dA rfl rfl rfl rfl<|dA rfl rfl rfl rfl<|dA rfl rfl rfl rfl<|dA rfl rfl rfl rfl<|dA rfl rfl rfl rfl<|cX 13 rfl rfl<|aI rfl<|cI rfl<|aU ?_
    exact cZ (false) () h SF rfl
   intro a120 b121 h
   refine gP h rfl (fun _ h=>?_) fun _ h=>?_
   ·refine aZ ?_
    refine aJ (sK (r:=Value.agg #[vS (ByteArray.mk #[]),fX,fX]) (by intro w;simp[Instr.build,Instr.fill,b_,bR,bM,cA,cB,bS,cL])) rfl ?_
    refine bL 2 (vs:=fL) rfl rfl rfl rfl rfl rfl<|aK rfl<|aU<|bE<|aR<|cG<|aR<|aR<|cG<|aR<|cJ (d_ aH) ?_
    cases h
    exact fB ((fX),(fX)) rfl rfl (RV.cell 3 rfl rfl rfl rfl) (RV.tmp rfl) (bH.ix [0] rfl rfl) (aV.cons aM.nil aV.nil)
   refine cC<|aP<|Ep (B:=Value) (fun a126=>yN a111 (bZ (pG U p0 p1) k113) a126=some r) (fun a126 b127=>[(2,vP b1),(3,vP b2),(4,vP b3),(6,vP b11.1),(7,b112.1),(8,vI (a111.2.1)),(9,vI (a126.1))]) (fun a126 b127=>[bJ b11.1 [vS (p1.1),b127,fX] 25,Ar aH b127 a126.2,bJ b3 fL 25,bJ b2 [vS (p1.1),v2,v3] 25,bJ b1 [vS (p0.1),v0,v1] 25,Ar gZ b112.1 a111.1]) ?_ ?_
   ·refine aZ<|aE rfl<|dL rfl<|aU ?_
    refine gT h rfl (fun h=>?_) fun h=>?_
    ·refine aZ<|bP rfl<|dC 0 rfl<|aJ (dR rfl (aM.ar (aM.res 1 rfl) aQ) rfl) rfl<|aK rfl<|aU ?_
     refine CC [0,1,0,4,0,28,60,124,255,511,1023] 8 mixedOrders ?_
     refine eD rfl<|gM 0 rfl<|eD rfl<|gM 3 rfl<|dG rfl<|fJ h fun j132 h=>dK rfl .nil (jY 2 rfl) (a_ rfl rfl (dN rfl) rfl rfl j132) bG.z<|dK rfl .nil (jY 2 rfl) (gI (cs:=[vS ((at' p1.2.1 a111.2.1).1),vI ((at' p1.2.1 a111.2.1).2.1),vI ((at' p1.2.1 a111.2.1).2.2.1),vI ((at' p1.2.1 a111.2.1).2.2.2.1),vI ((at' p1.2.1 a111.2.1).2.2.2.2.1),vI ((at' p1.2.1 a111.2.1).2.2.2.2.2)]) rfl (dN rfl) aQ rfl rfl rfl rfl j132) bG.z<|JR.loud rfl rfl rfl (dJ (e:=aH) ([((((at' p1.2.1 a111.2.1).1),((at' p1.2.1 a111.2.1).2.1),((at' p1.2.1 a111.2.1).2.2.1),((at' p1.2.1 a111.2.1).2.2.2.1),((at' p1.2.1 a111.2.1).2.2.2.2.1),((at' p1.2.1 a111.2.1).2.2.2.2.2)))]) [(0,Value.agg #[vS ((at' p1.2.1 a111.2.1).1),vI ((at' p1.2.1 a111.2.1).2.1),vI ((at' p1.2.1 a111.2.1).2.2.1),vI ((at' p1.2.1 a111.2.1).2.2.2.1),vI ((at' p1.2.1 a111.2.1).2.2.2.2.1),vI ((at' p1.2.1 a111.2.1).2.2.2.2.2)])] rfl rfl rfl rfl (Fx (vS ((at' p1.2.1 a111.2.1).1)) (vI ((at' p1.2.1 a111.2.1).2.1)) (vI ((at' p1.2.1 a111.2.1).2.2.1)) (vI ((at' p1.2.1 a111.2.1).2.2.2.1)) (vI ((at' p1.2.1 a111.2.1).2.2.2.2.1)) (vI ((at' p1.2.1 a111.2.1).2.2.2.2.2))) rfl rfl rfl) rfl (fun u133=>(pH [([1],[])] rfl)) fun u133=>cX 8 rfl rfl<|fJ h fun j135 h=>aT (dP 2 aQ rfl rfl rfl (aM.ar (aM.res 0 rfl) aQ) rfl rfl rfl rfl j135 rfl) rfl fun u134=>bP rfl<|bY (Know.one ((aM.ar (aM.res 2 rfl) aQ))) fun ho136=>eS 1 rfl rfl ho136 rfl rfl rfl<|aU ?_
     exact cK ((List.length a111.2.2:Int),(a111.2.2++([(((at' p1.2.1 a111.2.1).1),((at' p1.2.1 a111.2.1).2.1),((at' p1.2.1 a111.2.1).2.2.1),((at' p1.2.1 a111.2.1).2.2.2.1),((at' p1.2.1 a111.2.1).2.2.2.2.1),((at' p1.2.1 a111.2.1).2.2.2.2.2))]))) (u134) h SF (bH.ix [1,2,3,4,5,6] rfl rfl) (aV.refl _ _)
    refine cC ?_
    exact cZ (r116,a111.2.2) (b112.2) h SF rfl
   intro a126 b127 h
   refine aS<|aE rfl<|aE rfl<|aT (dJ (e:=gZ) ([a126.1]) [(0,vI (a126.1))] rfl rfl rfl rfl (Bc (vI (a126.1)) rfl) rfl rfl rfl) rfl fun u128=>fJ h fun j130 h=>aT (dP 6 jF rfl rfl rfl (aM.ar (aM.res 0 rfl) jF) rfl rfl rfl rfl j130 rfl) rfl fun u129=>aK rfl<|fQ<|lP<|aS<|aE rfl<|dM rfl<|aK rfl<|aU ?_
   exact dZ ((a111.1++[a126.1]),(wI .i64 (a111.2.1+(1:Int))),a126.2) (u129,b127) h SF (bH.ix [1,2,3,4,5,6] rfl rfl) (aV.refl _ _)
  refine eQ ?_
  exact cZ (a111.1,a111.2.2) (b112.1,b112.2) h SF rfl
 intro a16 b17 h
 unfold sH at h
 refine aZ<|aK rfl<|aU<|aP<|iM (B:=AC) (fun a22=>vW U p0 p1 a16 a22=some r) (fun a22 b23=>[(2,vP b1),(3,vP b2),(4,vP b3),(6,vP b11.1),(7,b17.1),(10,vB (a22.1))]) (fun a22 b23=>[bJ b11.1 [vS (p1.1),b17.2,b23.1] 25,Ar aH b17.2 a16.2,bJ b3 fL 25,bJ b2 [vS (p1.1),v2,v3] 25,bJ b1 [vS (p0.1),v0,v1] 25,Ad aG b23.1 b23.2 a22.2]) (fun a22 b23=>[Sl gS b17.1 a16.1,Sl aF v0 p0.2.1,Sl aD v1 p0.2.2,Sl aF v2 p1.2.1,Sl aD v3 p1.2.2,Pw aC b23.2 a22.2]) ?_ ?_
 ·refine aZ<|aK rfl<|aU<|aY<|cJ (cY [Ar gZ b17.1 a16.1] [bJ b11.1 [vS (p1.1),b17.2,fX] 25,Ar aH b17.2 a16.2,bJ b3 fL 25,bJ b2 [vS (p1.1),v2,v3] 25,bJ b1 [vS (p0.1),v0,v1] 25] (bH.ix [5,0,1,2,3,4] rfl rfl) (aM.ar (aM.res 0 rfl) jF))<|cJ (xI aG)<|cJ (bD (dB:aM _ _ (Pw aC ([]:o_) ([]:jR))))<|jL (B:=AC) (sI U p0 p1 a16) (fun a76 b77=>[(2,vP b1),(3,vP b2),(4,vP b3),(6,vP b11.1),(7,b17.1),(10,vB (a76.1)),(11,vI (a76.2.1))]) (fun a76 b77=>[bJ b11.1 [vS (p1.1),b17.2,b77.1] 25,Ar aH b17.2 a16.2,bJ b3 fL 25,bJ b2 [vS (p1.1),v2,v3] 25,bJ b1 [vS (p0.1),v0,v1] 25,Ad aG b77.1 b77.2 a76.2.2]) (fun a76 b77=>[Sl gS b17.1 a16.1,Sl aF v0 p0.2.1,Sl aD v1 p0.2.2,Sl aF v2 p1.2.1,Sl aD v3 p1.2.2,Pw aC b77.2 a76.2.2]) (false,(0:Int),([]:jR)) ((fX),([]:o_)) h SF (bH.ix [1,2,3,4,5,0] rfl rfl) (gO [1,2,3,4,5,0] rfl) ?_
  intro k78 a76 b77 h
  refine aP<|aZ<|aE rfl<|bP rfl<|dC 4 rfl<|eC (rA rfl) rfl<|dL rfl<|aU ?_
  refine gT h rfl (fun h=>?_) fun h=>?_
  ·refine cC<|aP<|iM (B:=AC) (fun a84=>vX a76 (bZ (sI U p0 p1 a16) k78) a84=some r) (fun a84 b85=>[(2,vP b1),(3,vP b2),(4,vP b3),(6,vP b11.1),(7,b17.1),(10,vB (a84.2)),(11,vI (a76.2.1))]) (fun a84 b85=>[bJ b11.1 [vS (p1.1),b17.2,b85.1] 25,Ar aH b17.2 a16.2,bJ b3 fL 25,bJ b2 [vS (p1.1),v2,v3] 25,bJ b1 [vS (p0.1),v0,v1] 25,Ad aG b85.1 b85.2 a84.1]) (fun a84 b85=>[Pw aC b85.2 a84.1,Sl gS b17.1 a16.1,Sl aF v0 p0.2.1,Sl aD v1 p0.2.2,Sl aF v2 p1.2.1,Sl aD v3 p1.2.2,Pw aC b77.2 a76.2.2]) ?_ ?_
   ·refine aY<|aP ?_
    refine CC [0,1,0,4,0,28,60,0,128,384,896,2044,4092,8191,16383,32767] 13 mixedOrders ?_
    refine eD rfl<|gM 0 rfl<|eD rfl<|gM 4 rfl<|dG rfl<|fJ h fun j86 h=>dK rfl .nil (jY 2 rfl) (a_ rfl rfl (dN rfl) rfl rfl j86) bG.z<|oJ (v:=v1) (ds:=p0.2.2) aO (rA rfl) fun us87=>?_
    refine JR.stp (bD ((e_ (bT (f:=aC) (fP rfl) j86.1 (by first|exact j86.2|simpa using j86.2))):aM _ _ (Sl bF ((at' us87 a76.2.1).1) ((at' p0.2.2 a76.2.1).2.1)))) ?_
    refine JR.stp (bD ((fA (bT (f:=aC) (rA rfl) j86.1 (by first|exact j86.2|simpa using j86.2))):aM _ _ (Sl aX ((at' us87 a76.2.1).2) ((at' p0.2.2 a76.2.1).2.2)))) ?_
    refine dK rfl .nil (jY 2 rfl) (dY (cs:=[vS ((at' p0.2.2 a76.2.1).1),(at' us87 a76.2.1).1,(at' us87 a76.2.1).2]) rfl (dN rfl) rfl rfl rfl rfl ⟨j86.1,by first|exact j86.2|simpa using j86.2⟩) bG.z<|eD rfl<|gM 4 rfl<|dK rfl .nil (jY 5 rfl) (dR rfl (dN rfl) rfl) bG.z<|fO h fun r88 w89 h=>JR.loud rfl rfl rfl (aW.callQ Qt (FY U  r88 w89) rfl .nil) rfl (fun x90=>(pH [([],[2]),([],[6]),([5],[]),([1],[])] rfl)) fun x90=>JR.stp (cY [Ar gZ x90 r88] [bJ b11.1 [vS (p1.1),b17.2,b77.1] 25,Ar aH b17.2 a16.2,bJ b3 fL 25,bJ b2 [vS (p1.1),v2,v3] 25,bJ b1 [vS (p0.1),v0,v1] 25,Ad aG b77.1 b77.2 a76.2.2] (bH.ix [0,1,2,3,4,5,6] rfl rfl) (aM.ar (aM.res 0 rfl) jF))<|fO h fun r91 w92 h=>JR.loud rfl rfl rfl (aW.call JZ (qY U ((at' us87 a76.2.1).1) ((at' us87 a76.2.1).2) x90 r91 w92) rfl (j_.cons (List.mem_of_getElem? (i:=2) rfl) (j_.cons (List.mem_of_getElem? (i:=1) rfl) (jY 0 rfl))) (fun _ _=>rfl) (fun _ _=>rfl)) rfl (fun x93=>(pH [([2],[])] rfl)) fun x93=>JR.stp (cY [Ar cD x93.1 r91.2.1] [Ad bI x93.2.1 x93.2.2 r91.2.2,bJ b11.1 [vS (p1.1),b17.2,b77.1] 25,Ar aH b17.2 a16.2,bJ b3 fL 25,bJ b2 [vS (p1.1),v2,v3] 25,bJ b1 [vS (p0.1),v0,v1] 25,Ad aG b77.1 b77.2 a76.2.2] (bH.ix [0,1,2,3,4,5,6,7] rfl rfl) (aM.ar (aM.res 0 rfl) cO))<|JR.stp (cY [Ad bI x93.2.1 x93.2.2 r91.2.2] [bJ b11.1 [vS (p1.1),b17.2,b77.1] 25,Ar aH b17.2 a16.2,bJ b3 fL 25,bJ b2 [vS (p1.1),v2,v3] 25,bJ b1 [vS (p0.1),v0,v1] 25,Ad aG b77.1 b77.2 a76.2.2] (bH.ix [0,1,2,3,4,5,6] rfl rfl) (cV (i:=0) (j:=1) bK rfl rfl:aM _ _ (Sl aX x93.2.1 r91.2.2)))<|JR.stp (bD ((dO (aM.and (fP rfl) (dN rfl)) dB):aM _ _ (Pw aC ([(x93.1,x93.2.1)]) ([(r91.1,r91.2.1,r91.2.2)]))))<|eG (Know.one ((rA rfl))) fun ho94=>eG (Know.one ((fP rfl))) fun ho95=>JR.loud rfl rfl rfl (eT (e:=aG) ([(x93.1,x93.2.1)]) ([((r91.1,r91.2.1,r91.2.2))]) [(0,Value.agg #[vS (r91.1),x93.1,x93.2.1])] rfl rfl rfl rfl (pV (vS (r91.1)) (x93.1) (x93.2.1)) rfl rfl (show List.all [vS (r91.1),x93.1,x93.2.1] one=true from(cR rfl (cR ho94 (cR ho95 rfl)))) rfl) rfl (fun u96=>(pH [([1],[])] rfl)) fun u96=>cX 13 rfl rfl<|fJ h fun j97 h=>cJ (bD ((eH (bV 14 rfl) (dN rfl)):aM _ _ (Pw aC (b77.2++([(x93.1,x93.2.1)])) (a76.2.2++([(r91.1,r91.2.1,r91.2.2)])))))<|aT (aW.appendD 6 0 rfl rfl rfl rfl rfl rfl rfl rfl j97 rfl) rfl fun u98=>bP rfl<|bY (Know.one ((cV (i:=6) (j:=0) aO rfl rfl))) fun ho99=>eS 1 rfl rfl ho99 rfl rfl rfl<|aU ?_
    refine CC [0,1,3,7,3,19,3,115,243,499,1023,2047,4095] 10 mixedOrders ?_
    refine dG rfl<|dG rfl ?_
    refine JR.guard (by exact rfl) (by exact rfl) (by exact rfl) (fun hp100=>?_) (fun hp100=>?_)
    ·have h:=BK hp100 h
     refine dA rfl rfl rfl rfl<|dA rfl rfl rfl rfl<|dA rfl rfl rfl rfl<|dA rfl rfl rfl rfl<|dA rfl rfl rfl rfl<|dA rfl rfl rfl rfl<|dA rfl rfl rfl rfl<|dA rfl rfl rfl rfl<|cX 10 rfl rfl<|aI rfl<|cE rfl<|aK rfl<|fQ<|lP ?_
     exact cK ((a76.2.2++([(r91.1,r91.2.1,r91.2.2)])),true) (u98,(b77.2++([(x93.1,x93.2.1)]))) h SF (bH.ix [1,2,3,4,5,6] rfl rfl) (gO [0,10,11,12,13,14,15] rfl)
    have h:=sM hp100 h
    refine fI rfl .nil .nil (cF rfl rfl rfl rfl rfl) bG.z<|fI rfl (bH.cons 4 rfl .nil) .nil (cT 0 rfl rfl rfl rfl rfl) bG.z<|fI rfl .nil .nil (cF rfl rfl rfl rfl rfl) bG.z<|fI rfl (bH.cons 5 rfl .nil) .nil (cT 0 rfl rfl rfl rfl rfl) bG.z<|fI rfl .nil .nil (xF rfl) bG.z<|fJ h fun j101 h=>fI rfl .nil (jY 12 rfl) (a_ rfl rfl (dN rfl) rfl rfl j101) bG.z<|fI rfl .nil .nil (cW rfl rfl rfl rfl rfl) bG.z<|fI rfl .nil (jY 12 rfl) (fN rfl (dN rfl) rfl rfl rfl dX j101) bG.z<|cX 10 rfl rfl<|fO h fun r102 w103 h=>eX rfl (aW.callQ Qx (EE U v3 r102 w103) rfl (gO [14] rfl)) rfl fun x104=>cI rfl<|aK rfl<|fQ<|lP ?_
    exact cK ((a76.2.2++([(r91.1,r91.2.1,r91.2.2)])),r102) (u98,(b77.2++([(x93.1,x93.2.1)]))) h SF (bH.ix [1,2,3,4,5,6] rfl rfl) (gO [0,10,11,12,13,14,15] rfl)
   intro a84 b85 h
   unfold vX at h
   refine aS<|aE rfl<|dM rfl<|aK rfl<|aU ?_
   exact dZ (a84.2,(wI .i64 (a76.2.1+(1:Int))),a84.1) (b85.1,b85.2) h SF (bH.refl _) (gO [1,2,3,4,5,0] rfl)
  refine eQ ?_
  exact cZ (a76.1,a76.2.2) (b77.1,b77.2) h SF rfl
 intro a22 b23 h
 unfold vW at h
 refine aP<|iM (B:=AC) (fun a27=>Al p1 a16 a22 a27=some r) (fun a27 b28=>[(4,vP b3),(6,vP b11.1),(10,vB (a22.1))]) (fun a27 b28=>[bJ b11.1 [vS (p1.1),b17.2,b28.1] 25,Ar aH b17.2 a16.2,bJ b3 fL 25,Ad aG b28.1 b28.2 a27]) (fun a27 b28=>[Sl gS b17.1 a16.1,Sl aF v0 p0.2.1,Sl aD v1 p0.2.2,Sl aF v2 p1.2.1,Sl aD v3 p1.2.2,Pw aC b28.2 a27]) ?_ ?_
 ·refine aZ<|aK rfl<|aU<|aY<|jL (B:=AC) (pF U p0 p1 a16 a22) (fun a42 b43=>[(2,vP b1),(3,vP b2),(4,vP b3),(6,vP b11.1),(7,b17.1),(10,vB (a22.1)),(12,vI (a42.1))]) (fun a42 b43=>[bJ b11.1 [vS (p1.1),b17.2,b43.1] 25,Ar aH b17.2 a16.2,bJ b3 fL 25,bJ b2 [vS (p1.1),v2,v3] 25,bJ b1 [vS (p0.1),v0,v1] 25,Ad aG b43.1 b43.2 a42.2]) (fun a42 b43=>[Sl gS b17.1 a16.1,Sl aF v0 p0.2.1,Sl aD v1 p0.2.2,Sl aF v2 p1.2.1,Sl aD v3 p1.2.2,Pw aC b43.2 a42.2]) ((0:Int),a22.2) (b23.1,b23.2) h SF (bH.refl _) (aV.refl _ _) ?_
  intro k44 a42 b43 h
  refine aP<|aZ<|aE rfl<|bP rfl<|dC 3 rfl<|eC (KS rfl) rfl<|dL rfl<|aU ?_
  refine gT h rfl (fun h=>?_) fun h=>?_
  ·refine cC<|aP<|aY<|aZ<|bP rfl<|dC 3 rfl<|aE rfl<|fJ h fun j46 h=>aJ (a_ rfl rfl (KS rfl) rfl rfl j46) rfl<|mS (v:=v3) (ds:=p1.2.2) aO (KS rfl) fun us47=>?_
   refine cJ (bD ((e_ (bT (f:=aC) (fP rfl) j46.1 (by first|exact j46.2|simpa using j46.2))):aM _ _ (Sl bF ((at' us47 a42.1).1) ((at' p1.2.2 a42.1).2.1)))) ?_
   refine cJ (bD ((fA (bT (f:=aC) (rA rfl) j46.1 (by first|exact j46.2|simpa using j46.2))):aM _ _ (Sl aX ((at' us47 a42.1).2) ((at' p1.2.2 a42.1).2.2)))) ?_
   refine aJ (dY (cs:=[vS ((at' p1.2.2 a42.1).1),(at' us47 a42.1).1,(at' us47 a42.1).2]) rfl (rA rfl) rfl rfl rfl rfl ⟨j46.1,by first|exact j46.2|simpa using j46.2⟩) rfl<|aE rfl<|fO h fun r48 w49 h=>aT (aW.call JZ (qY U ((at' us47 a42.1).1) ((at' us47 a42.1).2) b17.1 r48 w49) rfl (j_.cons (List.mem_of_getElem? (i:=1) rfl) (j_.cons (List.mem_of_getElem? (i:=0) rfl) (jY 4 rfl))) (fun _ _=>rfl) (fun _ _=>rfl)) rfl fun x50=>aT (aW.alloc (cs:=fL) rfl rfl) rfl fun b51=>bY (Know.one ((aM.ar (aM.res 1 rfl) cO))) fun ho52=>bY (Know.one ((cV (i:=2) (j:=0) bK rfl rfl))) fun ho53=>bL 0 (vs:=[vS (r48.1),x50.1,x50.2.1]) rfl rfl (cR rfl (cR ho52 (cR ho53 rfl))) rfl rfl rfl<|aU<|aP<|iM (B:=Unit) (fun a54=>BN a42 (bZ (pF U p0 p1 a16 a22) k44) r48 a54=some r) (fun a54 b55=>[(2,vP b1),(3,vP b2),(4,vP b3),(6,vP b11.1),(7,b17.1),(10,vB (a22.1)),(12,vI (a42.1)),(13,vP b51)]) (fun a54 b55=>[bJ b51 [vS (r48.1),x50.1,x50.2.1] 42,Ar cD x50.1 r48.2.1,Ad bI x50.2.1 x50.2.2 r48.2.2,bJ b11.1 [vS (p1.1),b17.2,b43.1] 25,Ar aH b17.2 a16.2,bJ b3 fL 25,bJ b2 [vS (p1.1),v2,v3] 25,bJ b1 [vS (p0.1),v0,v1] 25,Ad aG b43.1 b43.2 a42.2]) (fun a54 b55=>[Pw bW x50.2.2 r48.2.2,Sl aX ((at' us47 a42.1).2) ((at' p1.2.2 a42.1).2.2),Sl bF ((at' us47 a42.1).1) ((at' p1.2.2 a42.1).2.1),Rz aG v3 us47 p1.2.2,Pw aC us47 p1.2.2,Sl gS b17.1 a16.1,Sl aF v0 p0.2.1,Sl aD v1 p0.2.2,Sl aF v2 p1.2.1,Sl aD v3 p1.2.2,Pw aC b43.2 a42.2]) ?_ ?_
   ·refine aZ<|aK rfl<|aU<|aY<|jL (B:=Unit) (vY p0 a42 (bZ (pF U p0 p1 a16 a22) k44) r48) (fun a64 b65=>[(2,vP b1),(3,vP b2),(4,vP b3),(6,vP b11.1),(7,b17.1),(10,vB (a22.1)),(12,vI (a42.1)),(13,vP b51),(14,vI (a64))]) (fun a64 b65=>[bJ b51 [vS (r48.1),x50.1,x50.2.1] 42,Ar cD x50.1 r48.2.1,Ad bI x50.2.1 x50.2.2 r48.2.2,bJ b11.1 [vS (p1.1),b17.2,b43.1] 25,Ar aH b17.2 a16.2,bJ b3 fL 25,bJ b2 [vS (p1.1),v2,v3] 25,bJ b1 [vS (p0.1),v0,v1] 25,Ad aG b43.1 b43.2 a42.2]) (fun a64 b65=>[Pw bW x50.2.2 r48.2.2,Sl aX ((at' us47 a42.1).2) ((at' p1.2.2 a42.1).2.2),Sl bF ((at' us47 a42.1).1) ((at' p1.2.2 a42.1).2.1),Rz aG v3 us47 p1.2.2,Pw aC us47 p1.2.2,Sl gS b17.1 a16.1,Sl aF v0 p0.2.1,Sl aD v1 p0.2.2,Sl aF v2 p1.2.1,Sl aD v3 p1.2.2,Pw aC b43.2 a42.2]) (0:Int) () h SF (bH.refl _) (aV.refl _ _) ?_
    intro k66 a64 b65 h
    refine aP<|aZ<|aE rfl<|bP rfl<|dC 0 rfl<|aJ (dR rfl (cV (i:=2) (j:=0) bK rfl rfl) rfl) rfl<|dL rfl<|aU ?_
    refine gT h rfl (fun h=>?_) fun h=>?_
    ·refine cC<|aP<|aY<|aP ?_
     refine CC [0,1,0,7,15,31,0,64,192,511] 9 mixedOrders ?_
     refine eD rfl<|gM 0 rfl<|dG rfl<|fJ h fun j68 h=>dK rfl (bH.cons 2 rfl .nil) (jY 0 rfl) (a_ rfl rfl (cV (i:=0) (j:=0) bK rfl rfl) rfl rfl j68) bG.z<|zE rfl (cW rfl rfl rfl rfl rfl)<|dK rfl (bH.cons 2 rfl .nil) (jY 0 rfl) (fN rfl (cV (i:=0) (j:=0) bK rfl rfl) rfl rfl rfl kA j68) bG.z<|eD rfl<|gM 7 rfl<|dK rfl .nil (jY 6 rfl) (dR rfl (dN rfl) rfl) bG.z<|cX 9 rfl rfl<|dL rfl<|aU ?_
     refine gT h rfl (fun h=>?_) fun h=>?_
     ·refine aZ ?_
      refine aJ (sK (r:=Value.agg #[vS (ByteArray.mk #[]),fX,fX]) (by intro w;simp[Instr.build,Instr.fill,b_,bR,bM,cA,cB,bS,cL])) rfl ?_
      refine bL 5 (vs:=fL) rfl rfl rfl rfl rfl rfl<|aK rfl<|aU<|bE<|cG<|aR<|aR<|cG<|aR<|cG<|aR<|aR<|cG<|aR<|cJ (d_ aH) ?_
      cases h
      exact fB ((fX),(fX)) rfl rfl (RV.cell 6 rfl rfl rfl rfl) (RV.tmp rfl) (bH.ix [0] rfl rfl) (aV.cons aM.nil aV.nil)
     refine eJ<|lP<|aS<|aE rfl<|dM rfl<|aK rfl<|aU ?_
     exact BR (wI .i64 (a64+(1:Int))) () h SF rfl
    refine eQ ?_
    exact cZ () (()) h SF rfl
   intro a54 b55 h
   refine aS<|bP rfl<|dC 3 rfl<|iC 0 rfl<|cJ (cY [Ar cD x50.1 r48.2.1] [bJ b51 [vS (r48.1),x50.1,x50.2.1] 42,Ad bI x50.2.1 x50.2.2 r48.2.2,bJ b11.1 [vS (p1.1),b17.2,b43.1] 25,Ar aH b17.2 a16.2,bJ b3 fL 25,bJ b2 [vS (p1.1),v2,v3] 25,bJ b1 [vS (p0.1),v0,v1] 25,Ad aG b43.1 b43.2 a42.2] (bH.ix [1,0,2,3,4,5,6,7,8] rfl rfl) (aM.ar (aM.res 0 rfl) cO))<|cJ (cY [Ad bI x50.2.1 x50.2.2 r48.2.2] [bJ b51 [vS (r48.1),x50.1,x50.2.1] 42,bJ b11.1 [vS (p1.1),b17.2,b43.1] 25,Ar aH b17.2 a16.2,bJ b3 fL 25,bJ b2 [vS (p1.1),v2,v3] 25,bJ b1 [vS (p0.1),v0,v1] 25,Ad aG b43.1 b43.2 a42.2] (bH.ix [1,0,2,3,4,5,6,7] rfl rfl) (cV (i:=0) (j:=1) bK rfl rfl:aM _ _ (Sl aX x50.2.1 r48.2.2)))<|cJ (bD ((dO (aM.and (fP rfl) (dN rfl)) dB):aM _ _ (Pw aC ([(x50.1,x50.2.1)]) ([(r48.1,r48.2.1,r48.2.2)]))))<|bY (Know.one ((rA rfl))) fun ho56=>bY (Know.one ((fP rfl))) fun ho57=>aT (eT (e:=aG) ([(x50.1,x50.2.1)]) ([((r48.1,r48.2.1,r48.2.2))]) [(0,Value.agg #[vS (r48.1),x50.1,x50.2.1])] rfl rfl rfl rfl (pV (vS (r48.1)) (x50.1) (x50.2.1)) rfl rfl (show List.all [vS (r48.1),x50.1,x50.2.1] one=true from(cR rfl (cR ho56 (cR ho57 rfl)))) rfl) rfl fun u58=>fJ h fun j59 h=>cJ (bD ((eH (bV 13 rfl) (dN rfl)):aM _ _ (Pw aC (b43.2++([(x50.1,x50.2.1)])) (a42.2++([(r48.1,r48.2.1,r48.2.2)])))))<|aT (aW.appendD 7 0 rfl rfl rfl rfl rfl rfl rfl rfl j59 rfl) rfl fun u60=>bP rfl<|bY (Know.one ((cV (i:=7) (j:=0) aO rfl rfl))) fun ho61=>eS 2 rfl rfl ho61 rfl rfl rfl<|fQ<|lP<|aS<|aE rfl<|dM rfl<|aK rfl<|aU ?_
   exact dZ ((wI .i64 (a42.1+(1:Int))),(a42.2++([(r48.1,r48.2.1,r48.2.2)]))) (u60,(b43.2++([(x50.1,x50.2.1)]))) h SF (bH.ix [2,3,4,5,6,7] rfl rfl) (gO [9,10,11,12,13,0] rfl)
  refine eQ ?_
  exact cK (a42.2) (b43.1,b43.2) h SF (bH.ix [0,1,2,5] rfl rfl) (aV.refl _ _)
 intro a27 b28 h
 refine aP<|aZ<|aE rfl<|aU ?_
 refine gP h rfl (fun _ h=>?_) fun _ h=>?_
 ·refine aZ ?_
  refine aJ (sK (r:=Value.agg #[vS (ByteArray.mk #[]),fX,fX]) (by intro w;simp[Instr.build,Instr.fill,b_,bR,bM,cA,cB,bS,cL])) rfl ?_
  refine bL 2 (vs:=fL) rfl rfl rfl rfl rfl rfl<|aK rfl<|aU<|bE<|aR<|cJ (d_ aH) ?_
  cases h
  exact fB ((fX),(fX)) rfl rfl (RV.cell 3 rfl rfl rfl rfl) (RV.tmp rfl) (bH.ix [0] rfl rfl) (aV.cons aM.nil aV.nil)
 refine cC<|aP<|aP<|iM (B:=Unit) (fun a31=>Am p1 a16 a27 a31=some r) (fun a31 b32=>[(4,vP b3),(6,vP b11.1),(165,vB (a31))]) (fun a31 b32=>[bJ b11.1 [vS (p1.1),b17.2,b28.1] 25,Ar aH b17.2 a16.2,bJ b3 fL 25,Ad aG b28.1 b28.2 a27]) (fun a31 b32=>[Sl gS b17.1 a16.1,Sl aF v0 p0.2.1,Sl aD v1 p0.2.2,Sl aF v2 p1.2.1,Sl aD v3 p1.2.2,Pw aC b28.2 a27]) ?_ ?_
 ·refine aS<|bP rfl<|dC 0 rfl<|aJ (dR rfl (aM.ar (aM.res 1 rfl) aQ) rfl) rfl<|aJ (kT rfl rfl) rfl<|aE rfl ?_
  refine oD h rfl (fun _ h=>?_) fun _ h=>?_
  ·refine aI rfl<|aI rfl<|aI rfl<|aI rfl<|cE rfl<|aU ?_
   exact cZ (true) () h SF rfl
  refine aL rfl (cF rfl rfl rfl rfl rfl) rfl<|aL rfl (cT 0 rfl rfl rfl rfl rfl) rfl<|aL rfl (dR rfl (cV (i:=3) (j:=5) aO rfl rfl) rfl) rfl<|aL rfl (kT rfl rfl) rfl<|cI rfl<|aU ?_
  exact cZ (decide ((12:Int)<(List.length a27:Int))) () h SF rfl
 intro a31 b32 h
 refine gP h rfl (fun _ h=>?_) fun _ h=>?_
 ·refine aZ ?_
  refine aJ (sK (r:=Value.agg #[vS (ByteArray.mk #[]),fX,fX]) (by intro w;simp[Instr.build,Instr.fill,b_,bR,bM,cA,cB,bS,cL])) rfl ?_
  refine bL 2 (vs:=fL) rfl rfl rfl rfl rfl rfl<|aK rfl<|aU<|bE<|aR<|cJ (d_ aH) ?_
  cases h
  exact fB ((fX),(fX)) rfl rfl (RV.cell 3 rfl rfl rfl rfl) (RV.tmp rfl) (bH.ix [0] rfl rfl) (aV.cons aM.nil aV.nil)
 refine cC<|aZ<|iC 0 rfl<|bY (Know.one ((aM.ar (aM.res 1 rfl) aQ))) fun ho34=>bY (Know.one ((cV (i:=3) (j:=5) aO rfl rfl))) fun ho35=>bL 2 (vs:=[vS (p1.1),b17.2,b28.1]) rfl rfl (cR rfl (cR ho34 (cR ho35 rfl))) rfl rfl rfl<|aK rfl<|aU<|bE<|cJ (cY [Ad aG b28.1 b28.2 a27] [bJ b11.1 [vS (p1.1),b17.2,b28.1] 25,Ar aH b17.2 a16.2,bJ b3 [vS (p1.1),b17.2,b28.1] 25] (bH.ix [3,0,1,2] rfl rfl) (cV (i:=0) (j:=5) aO rfl rfl:aM _ _ (Sl aD b28.1 a27))) ?_
 cases h
 exact fB (b17.2,b28.1) rfl rfl (RV.cell 2 rfl rfl rfl rfl) (RV.tmp rfl) (bH.ix [1] rfl rfl) (gO [0] rfl)
end
end Go.Proofs.YthnplbmmlbnelaaGreat
end
section
namespace Go.Proofs.YthnplbmmlbnelaaGreat
open Go Go.Sx
theorem zJ {X R:Type} {step:X->(X->Option R)->Option R} {K hit:Option R} (N:Nat) (q:Nat->Bool) (F:Nat->X) (h1:∀(k:Nat) ag,k<N->step (F k) ag=if q k=true then hit else ag (F (k+1))) (h2:∀ag,step (F N) ag=K) (fuel:Nat) (hf:N<fuel):
  bZ step fuel (F 0)=if(List.range N).any q=true then hit else K:=by
 rw[fE (K:=K) (bad:=hit) N (fun k=> !q k) F (fun k ag hk=>by rw[h1 k ag hk];cases q k<;>rfl) h2 fuel hf]
 have e:(List.range N).all (fun k=> !q k) = !(List.range N).any q:=by rw[List.not_any_eq_all_not]
 rw[e]
 cases (List.range N).any q<;>rfl
def KC {S:Type} (nxt:Nat->S->Option S):Nat->Nat->S->Option S
 |_,0,s=>some s
 |a,d+1,s=>(nxt a s).bind (KC nxt (a+1) d)
theorem Jl {X R S:Type} {step:X->(X->Option R)->Option R} {bad:Option R} {K:S->Option R} (N:Nat) (nxt:Nat->S->Option S) (F:Nat->S->X) (I:Nat->S->Prop)
  (hI:∀k s s',k<N->I k s->nxt k s=some s'->I (k+1) s') (h1:∀k s ag,k<N->I k s->step (F k s) ag=match nxt k s with|some s'=>ag (F (k+1) s')|none=>bad) (h2:∀s ag,I N s->step (F N s) ag=K s):
  ∀fuel s0,I 0 s0->N<fuel->(∀s,KC nxt 0 N s0=some s->I N s)∧bZ step fuel (F 0 s0)=match KC nxt 0 N s0 with|some s=>K s|none=>bad:=by
 have key:∀(d a fuel:Nat) (s:S),a+d=N->d<fuel->I a s->(∀s',KC nxt a d s=some s'->I N s')∧bZ step fuel (F a s)=match KC nxt a d s with|some s=>K s|none=>bad:=by
  intro d
  induction d with
  |zero=>
   intro a fuel s ha hf hs
   obtain rfl:a=N:=by omega
   obtain⟨f,rfl⟩:∃f,fuel=f+1:=⟨fuel - 1,by omega⟩
   exact⟨fun s' h=>(by cases h;exact hs),h2 s _ hs⟩
  |succ d ih=>
   intro a fuel s ha hf hs
   obtain⟨f,rfl⟩:∃f,fuel=f+1:=⟨fuel - 1,by omega⟩
   have e:bZ step (f+1) (F a s)=step (F a s) (bZ step f):=rfl
   rw[e,h1 a s _ (by omega) hs]
   unfold KC
   cases hn:nxt a s with
   |none=>exact⟨fun s' h=>(by cases h),rfl⟩
   |some s1=>exact ih (a+1) f s1 (by omega) (by omega) (hI a s s1 (by omega) hs hn)
 exact fun fuel s0 h0 hf=>key N 0 fuel s0 (by omega) hf h0
def Bw (l:List VR) (nm:ByteArray):Int:=match (List.range l.length).find? (fun k:Nat=>eR (at' l (k:Int)).1 nm)with|some k=>(k:Int)|none=> -1
theorem Jm {R:Type} {step:Int->(Int->Option R)->Option R} {hit:Nat->Option R} {K:Option R} (N:Nat) (q:Nat->Bool) (h1:∀(k:Nat) ag,k<N->step (k:Int) ag=if q k=true then hit k else ag ((k+1:Nat):Int)) (h2:∀ag,step (N:Int) ag=K) (fuel:Nat) (hf:N<fuel):
  bZ step fuel (0:Int)=match (List.range N).find? q with|some k=>hit k|none=>K:=by
 have key:∀(d a fuel:Nat),a+d=N->d<fuel->bZ step fuel (a:Int)=match (List.range' a d).find? q with|some k=>hit k|none=>K:=by
  intro d
  induction d with
  |zero=>
   intro a fuel ha hf
   obtain rfl:a=N:=by omega
   obtain⟨f,rfl⟩:∃f,fuel=f+1:=⟨fuel - 1,by omega⟩
   exact h2 _
  |succ d ih=>
   intro a fuel ha hf
   obtain⟨f,rfl⟩:∃f,fuel=f+1:=⟨fuel - 1,by omega⟩
   have e:bZ step (f+1) (a:Int)=step (a:Int) (bZ step f):=rfl
   rw[e,h1 a _ (by omega),List.range'_succ,List.find?_cons]
   cases q a
   ·exact ih (a+1) f (by omega) (by omega)
   ·rfl
 rw[List.range_eq_range']
 exact key N 0 fuel (by omega) hf
theorem NW (l:List VR) (nm:ByteArray):Bw l nm = -1∨∃k:Nat,Bw l nm=(k:Int)∧k<l.length:=by
 unfold Bw
 cases h:(List.range l.length).find? (fun k:Nat=>eR (at' l (k:Int)).1 nm)with
 |none=>exact .inl rfl
 |some k=>exact .inr ⟨k,rfl,List.mem_range.1 (List.mem_of_find?_eq_some h)⟩
theorem Oz (F:Nat) (p:PG) (nm:ByteArray) (hl:p.2.1.length<=20) (hF:1000<=F):iO F p nm=some (Bw p.2.1 nm):=by
 unfold iO
 rw[Jm (hit:=fun k=>some (k:Int)) (K:=some (-1)) p.2.1.length (fun k=>eR (at' p.2.1 (k:Int)).1 nm) (fun k ag hk=>by
  unfold wL oC uF
  rw[if_pos (by omega),eP (by omega),wr (by omega) (by omega)]
  rfl) (fun ag=>by unfold wL wK oC;rw[if_neg (by omega)]) F (by omega)]
 unfold Bw
 split<;>rfl
theorem Kx (F:Nat) (l:List VR) (nm:ByteArray) (hl:l.length<=20) (hF:1000<=F):jH F l nm=some (Bw l nm):=by
 unfold jH
 rw[Jm (hit:=fun k=>some (k:Int)) (K:=some (-1)) l.length (fun k=>eR (at' l (k:Int)).1 nm) (fun k ag hk=>by
  unfold yQ
  rw[if_pos (by omega),eP (by omega),wr (by omega) (by omega)]
  rfl) (fun ag=>by unfold yQ yP;rw[if_neg (by omega)]) F (by omega)]
 unfold Bw
 split<;>rfl
theorem Qr (a b:ByteArray):eR a b=eR b a:=by rw[Fp,Fp];simp[eq_comm]
def Rt (l:List RL) (nm:ByteArray):Bool:=(List.range l.length).any fun k:Nat=>eR (at' l (k:Int)).1 nm
def smR (p q:PG):Bool:=(List.range p.2.2.length).any fun i:Nat=>Rt q.2.2 (at' p.2.2 (i:Int)).1
theorem WZ (F:Nat) (l:List RL) (nm:ByteArray) (hl:l.length<=20) (hF:1000<=F):sE F l nm=some (Rt l nm):=by
 unfold sE Rt
 have e:=zJ (step:=qI l nm) (hit:=some true) (K:=some false) l.length (fun k=>eR (at' l (k:Int)).1 nm) (fun k=>(k:Int)) (fun k ag hk=>by
  unfold qI
  rw[if_pos (by omega),eP (by omega),wr (by omega) (by omega)]
  rfl) (fun ag=>by unfold qI yO;rw[if_neg (by omega)]) F (by omega)
 have e:bZ (qI l nm) F (0:Int)=_:=e
 rw[e]
 split<;>simp_all
theorem Ju (F:Nat) (p q:PG) (hp:p.2.2.length<=20) (hq:q.2.2.length<=20) (hF:1000<=F):kK F p q=some (smR p q):=by
 unfold kK smR
 have e:=zJ (step:=jV F p q) (hit:=some true) (K:=some false) p.2.2.length (fun i=>Rt q.2.2 (at' p.2.2 (i:Int)).1) (fun k=>(k:Int)) (fun k ag hk=>by
  have e1:lJ F ((at' p.2.2 (k:Int)).1,(at' p.2.2 (k:Int)).2.1,(at' p.2.2 (k:Int)).2.2) (q.1,q.2.1,q.2.2)=some (Rt q.2.2 (at' p.2.2 (k:Int)).1):=by
   unfold lJ Rt
   have e:=zJ (step:=iL F ((at' p.2.2 (k:Int)).1,(at' p.2.2 (k:Int)).2.1,(at' p.2.2 (k:Int)).2.2) (q.1,q.2.1,q.2.2)) (hit:=some true) (K:=some false) q.2.2.length (fun j=>eR (at' q.2.2 (j:Int)).1 (at' p.2.2 (k:Int)).1) (fun k=>(k:Int)) (fun j ag hj=>by
    unfold iL mJ iK kH
    dsimp only
    rw[if_pos (by omega),eP (by omega),wr (by omega) (by omega),decide_eq_true (by omega),Qr]
    rfl) (fun ag=>by
    unfold iL nT iK kH
    dsimp only
    rw[if_neg (by omega)];rfl) F (by omega)
   have e:bZ (iL F ((at' p.2.2 (k:Int)).1,(at' p.2.2 (k:Int)).2.1,(at' p.2.2 (k:Int)).2.2) (q.1,q.2.1,q.2.2)) F (0:Int)=_:=e
   rw[e]
   split<;>simp_all
  unfold jV jU l_
  rw[if_pos (by omega),eP (by omega),bU e1,wr (by omega) (by omega),decide_eq_true (show(0:Int)<=(k:Int) by omega)]
  rfl) (fun ag=>by
  unfold jV pJ jU l_
  rw[if_neg (by omega)];rfl) F (by omega)
 have e:bZ (jV F p q) F (0:Int)=_:=e
 rw[e]
 split<;>simp_all
def rB (a n:Nat):cU:=(List.range n).map fun j:Nat=>((a+j:Nat):Int)
theorem pN (a n:Nat):(rB a n).length=n:=by simp[rB]
theorem Nv (F:Nat) (p:PG) (a:Nat) (hl:p.2.1.length<=20) (ha:a<=20) (hF:1000<=F):iF F p (a:Int)=some (rB a p.2.1.length):=by
 unfold iF
 rw[eP (by omega),Int.toNat_natCast]
 have e:=gK (step:=mW p (a:Int)) (K:=some (rB a p.2.1.length)) p.2.1.length (fun k=>((k:Int),rB a k++List.replicate (p.2.1.length - k) 0)) (fun k ag hk=>by
  unfold mW
  dsimp only
  rw[Int.toNat_natCast,if_pos (by simp;omega),eP (by rw[List.length_append,pN,List.length_replicate];omega),wr (by omega) (by omega),wr (by omega) (by omega),show p.2.1.length - k=(p.2.1.length - (k+1))+1 by omega,List.replicate_succ,Int.toNat_natCast,Gv _ _ _ _ k (pN a k)]
  have:rB a (k+1)=rB a k++[((a+k:Nat):Int)]:=by unfold rB;rw[List.range_succ,List.map_append];rfl
  rw[this]
  simp) (fun ag=>by
  unfold mW qV
  dsimp only
  rw[if_neg (by simp)]
  simp) F (by omega)
 exact e
theorem RE (F n:Nat) (hn:n<=20) (hF:1000<=F):uM F (n:Int)=some (rB 0 n):=by
 unfold uM
 exact gK (step:=vZ (n:Int)) (K:=some (rB 0 n)) n (fun k=>(rB 0 k,(k:Int))) (fun k ag hk=>by
  unfold vZ
  dsimp only
  rw[if_pos (by omega),eP (by rw[pN];simp;omega),wr (by omega) (by omega)]
  have:rB 0 (k+1)=rB 0 k++[(k:Int)]:=by unfold rB;rw[List.range_succ,List.map_append];simp
  rw[this]
  rfl) (fun ag=>by
  unfold vZ Ao
  dsimp only
  rw[if_neg (by omega)]) F (by omega)
def jn (p q:PG) (k:Nat) (s:List Int×List VR):Option (List Int×List VR):=
 if Bw p.2.1 (at' q.2.1 (k:Int)).1<0 then some (s.1++[(s.2.length:Int)],s.2++[at' q.2.1 (k:Int)])
 else if at' p.2.1 (Bw p.2.1 (at' q.2.1 (k:Int)).1)≠at' q.2.1 (k:Int)then none else some (s.1++[Bw p.2.1 (at' q.2.1 (k:Int)).1],s.2)
def jI (p:PG) (k:Nat) (s:List Int×List VR):Prop:=s.1.length=k∧s.2.length<=p.2.1.length+k∧∃ext,s.2=p.2.1++ext
theorem N_ (p q:PG):∀k s s',k<q.2.1.length->jI p k s->jn p q k s=some s'->jI p (k+1) s':=by
 rintro k ⟨m,vs⟩ s' hk ⟨h1,h2,ext,h3⟩ h
 unfold jn at h
 dsimp only at h1 h2 h3 h
 split at h
 ·cases h
  exact⟨by simp[h1],by simp;omega,ext++[at' q.2.1 (k:Int)],by rw[h3,List.append_assoc]⟩
 ·split at h
  ·cases h
  ·cases h
   exact⟨by simp[h1],by dsimp only;omega,ext,h3⟩
def WK (p q:PG) (m:cU):Bool:=(List.range q.2.2.length).any fun i:Nat=>(List.range (at' q.2.2 (i:Int)).2.2.length).any fun j:Nat=>decide (at' m (at' (at' q.2.2 (i:Int)).2.2 (j:Int)).1<(p.2.1.length:Int))
noncomputable def BL (p:PG) (m:cU) (k:Nat):List RL:=(List.range k).map fun j:Nat=>LM m (at' p.2.2 (j:Int))
theorem jE (p:PG) (m:cU) (k:Nat):(BL p m k).length=k:=by simp[BL]
theorem vC (p:PG) (m:cU) (k:Nat):BL p m (k+1)=BL p m k++[LM m (at' p.2.2 (k:Int))]:=by unfold BL;rw[List.range_succ,List.map_append];rfl
noncomputable def Jn (p q:PG) (s:List Int×List VR):PG×Int:=
 if WK p q s.1=true then(AI,7)else if smR p q=true then(AI,5)else if 6<s.2.length∨12<p.2.2.length+q.2.2.length then(AI,3)
 else((q.1,s.2,BL p (rB 0 p.2.1.length) p.2.2.length++BL q s.1 q.2.2.length),0)
noncomputable def FB (p q:PG):PG×Int:=
 if Gc p=false∨Gc q=false then(AI,8)else match KC (jn p q) 0 q.2.1.length ([],p.2.1)with
  |none=>(AI,6)
  |some s=>Jn p q s
theorem UE {α:Type} [Inhabited α] (a b:List α) {i:Nat} (h:i<a.length):at' (a++b) (i:Int)=at' a (i:Int):=by
 have e1:=sL (l:=a++b) (k:=i) (by simp;omega)
 rw[List.getElem?_append_left h,sL h]at e1
 exact(Option.some.inj e1).symm
theorem UD {α:Type} [Inhabited α] (a:List α) (x:α) {i:Nat} (h:i=a.length):at' (a++[x]) (i:Int)=x:=gJ a [] x i h.symm
theorem LV (F:Nat) {p q:PG} (hp:AD p) (hq:AD q) (hP:VP p) (hQ:VP q) {s:List Int×List VR} (hs:jI p q.2.1.length s) (hF:1000<=F):n_ F p q s=some (Jn p q s):=by
 have p12:=hP.r12
 have q12:=hQ.r12
 have p6:=hP.v6
 have q6:=hQ.v6
 have hm:=hs.1
 unfold n_
 have e:=zJ (step:=hZ F p q s) (hit:=some (AI,7)) (K:=wF F p q s ()) q.2.2.length (fun i=>(List.range (at' q.2.2 (i:Int)).2.2.length).any fun j:Nat=>decide (at' s.1 (at' (at' q.2.2 (i:Int)).2.2 (j:Int)).1<(p.2.1.length:Int))) (fun k=>(k:Int)) (fun k ag hk=>by
  have hR:=hq.rule hQ hk
  have n6:=hR.n6
  unfold hZ
  rw[if_pos (by omega),eP (by omega)]
  have e:=zJ (step:=rH F p q s (k:Int) ag) (hit:=some (AI,7)) (K:=ag ((k+1:Nat):Int)) (at' q.2.2 (k:Int)).2.2.length (fun j=>decide (at' s.1 (at' (at' q.2.2 (k:Int)).2.2 (j:Int)).1<(p.2.1.length:Int))) (fun k=>(k:Int)) (fun j ag' hj=>by
   have hv:=hR.var j hj
   unfold rH zL
   dsimp only
   rw[if_pos (by omega),eP (by omega),eP (by omega)]
   unfold oA wJ
   rw[wr (x:=(j:Int)+1) (by omega) (by omega),decide_eq_true (show(0:Int)<=(j:Int) by omega)]
   by_cases hd:at' s.1 (at' (at' q.2.2 (k:Int)).2.2 (j:Int)).1<(p.2.1.length:Int)
   ·rw[decide_eq_true hd];rfl
   ·rw[decide_eq_false hd,bU rfl,if_neg (by decide),if_neg (by decide)];rfl) (fun ag'=>by
   unfold rH uE oA wJ
   rw[if_neg (by omega),wr (by omega) (by omega)]
   rfl) F (by omega)
  exact e) (fun ag=>by unfold hZ;rw[if_neg (by omega)]) F (by omega)
 have e:bZ (hZ F p q s) F (0:Int)=_:=e
 rw[e]
 unfold Jn
 show(if WK p q s.1=true then _ else _)=_
 by_cases hc:WK p q s.1=true
 ·rw[if_pos hc,if_pos hc]
 rw[if_neg hc,if_neg hc]
 unfold wF
 rw[bU (Ju F (p.1,p.2.1,p.2.2) (q.1,q.2.1,q.2.2) (by dsimp only;omega) (by dsimp only;omega) hF)]
 show(if smR p q=true then _ else _)=_
 by_cases hc2:smR p q=true
 ·rw[if_pos hc2,if_pos hc2];rfl
 rw[if_neg hc2,if_neg hc2,wr (by omega) (by omega)]
 unfold wG
 by_cases h6:6<s.2.length
 ·rw[if_pos (by omega),if_pos rfl,if_pos (.inl h6)];rfl
 rw[if_neg (by omega)]
 by_cases h12:12<p.2.2.length+q.2.2.length
 ·rw[if_pos (by simp;omega),if_pos (.inr h12)];rfl
 rw[if_neg (by simp;omega),if_neg (by omega)]
 have e1:=gK (step:=rE F p q s) (K:=rC F q s (BL p (rB 0 p.2.1.length) p.2.2.length)) p.2.2.length (fun k=>((k:Int),BL p (rB 0 p.2.1.length) k)) (fun k ag hk=>by
  have hR:=hp.rule hP hk
  have hl:=jE p (rB 0 p.2.1.length) k
  have h2:=Wr F (r:=((at' p.2.2 (k:Int)).1,(at' p.2.2 (k:Int)).2.1,(at' p.2.2 (k:Int)).2.2)) hR (pN 0 p.2.1.length) hF
  unfold rE
  dsimp only
  rw[if_pos (by omega),eP (by omega),bU (show iF F (p.1,p.2.1,p.2.2) 0=_ from Nv F (p.1,p.2.1,p.2.2) 0 (by dsimp only;omega) (by omega) hF),bU h2,eP (by simp;omega),wr (by omega) (by omega),vC]
  rfl) (fun ag=>by
  unfold rE
  dsimp only
  rw[if_neg (by omega)]) F (by omega)
 refine Eq.trans e1 ?_
 unfold rC
 have e2:=gK (step:=rD F q s) (K:=some ((q.1,s.2,BL p (rB 0 p.2.1.length) p.2.2.length++BL q s.1 q.2.2.length),(0:Int))) q.2.2.length (fun k=>((k:Int),BL p (rB 0 p.2.1.length) p.2.2.length++BL q s.1 k)) (fun k ag hk=>by
  have hR:=hq.rule hQ hk
  have hl:=jE p (rB 0 p.2.1.length) p.2.2.length
  have hl2:=jE q s.1 k
  have h2:=Wr F (r:=((at' q.2.2 (k:Int)).1,(at' q.2.2 (k:Int)).2.1,(at' q.2.2 (k:Int)).2.2)) hR hm hF
  unfold rD
  dsimp only
  rw[if_pos (by omega),eP (by omega),bU h2,eP (by simp;omega),wr (by omega) (by omega),vC,<-List.append_assoc]
  rfl) (fun ag=>by
  unfold rD wH
  dsimp only
  rw[if_neg (by omega)]) F (by omega)
 have hz:BL q s.1 0=[]:=rfl
 rw[hz,List.append_nil]at e2
 exact e2
theorem Xk (F:Nat) {p q:PG} (hp:AD p) (hq:AD q) (hF:1000<=F):xX F p q=some (FB p q):=by
 unfold xX FB wE
 rw[bU (KH F (p:=(p.1,p.2.1,p.2.2)) hp hF)]
 show(if(!Gc p)=true then _ else _)=_
 cases hv:Gc p
 ·rw[if_pos (show(!false)=true from rfl),if_pos (Or.inl rfl)];rfl
 rw[if_neg (by decide),bU (KH F (p:=(q.1,q.2.1,q.2.2)) hq hF)]
 show(if(!Gc q)=true then _ else _)=_
 cases hw:Gc q
 ·rw[if_pos (show(!false)=true from rfl),if_pos (Or.inr rfl)];rfl
 rw[if_neg (by decide),if_neg (by simp)]
 have hP:=CZ hv
 have hQ:=CZ hw
 have p6:=hP.v6
 have q6:=hQ.v6
 unfold sR
 rw[eP (by simp;omega),bU rfl,List.nil_append]
 unfold AG
 rw[eP (by omega),Int.toNat_natCast]
 obtain⟨hi,e⟩:=Jl (step:=oB F p q) (bad:=some (AI,6)) (K:=fun s=>n_ F p q s) q.2.1.length (jn p q) (fun k s=>((k:Int),s.1++List.replicate (q.2.1.length - k) 0,s.2)) (jI p) (N_ p q) (fun k s ag hk hI=>by
  obtain⟨h1,h2,ext,h3⟩:=hI
  obtain⟨m,vs⟩:=s
  dsimp only at h1 h2 h3
  have hrep:List.replicate (q.2.1.length - k) (0:Int)=0::List.replicate (q.2.1.length - (k+1)) 0:=by
   rw[show q.2.1.length - k=(q.2.1.length - (k+1))+1 by omega,List.replicate_succ]
  have hset:∀y:Int,(m++List.replicate (q.2.1.length - k) 0).set k y=(m++[y])++List.replicate (q.2.1.length - (k+1)) 0:=fun y=>by
   rw[hrep,Gv _ _ _ _ k h1];simp
  have hlen:∀y:Int,((m++[y])++List.replicate (q.2.1.length - (k+1)) 0).length=q.2.1.length:=fun y=>by simp;omega
  have hat:∀y:Int,at' ((m++[y])++List.replicate (q.2.1.length - (k+1)) 0) (k:Int)=y:=fun y=>by
   rw[List.append_assoc];exact gJ m _ y k h1
  have hset2:∀y z:Int,((m++[y])++List.replicate (q.2.1.length - (k+1)) 0).set k z=(m++[z])++List.replicate (q.2.1.length - (k+1)) 0:=fun y z=>by
   rw[<-hset y,List.set_set,hset]
  unfold oB jn
  dsimp only
  rw[if_pos (by omega),eP (by omega),bU (Oz F (p.1,p.2.1,p.2.2) _ (by dsimp only;omega) hF)]
  dsimp only
  rw[eP (by simp;omega),Int.toNat_natCast,hset,hat,eP (by rw[hlen];omega)]
  by_cases hf:Bw p.2.1 (at' q.2.1 (k:Int)).1<0
  ·rw[if_pos hf,if_pos hf,eP (by rw[hlen];omega),eP (by simp;omega),hset2]
   unfold pU
   dsimp only
   rw[eP (by rw[hlen];omega),hat,eP (by simp;omega),UD vs _ rfl,if_neg (by simp),wr (by omega) (by omega)]
   rfl
  ·rw[if_neg hf,if_neg hf]
   rcases NW p.2.1 (at' q.2.1 (k:Int)).1 with hh|⟨f,hh,hf2⟩
   ·omega
   rw[hh]
   have hvs:at' vs (f:Int)=at' p.2.1 (f:Int):=by rw[h3];exact UE _ _ hf2
   have hvl:f<vs.length:=by rw[h3];simp;omega
   unfold pU
   dsimp only
   rw[eP (by rw[hlen];omega),hat,eP (by omega),hvs,wr (by omega) (by omega)]
   by_cases hne:at' p.2.1 (f:Int)=at' q.2.1 (k:Int)
   ·rw[if_neg (by simp[hne]),if_neg (by simp[hne])];rfl
   ·rw[if_pos hne,if_pos hne];rfl) (fun s ag hI=>by
  unfold oB
  dsimp only
  rw[if_neg (by omega),Nat.sub_self,List.replicate_zero,List.append_nil]) F ([],p.2.1) ⟨rfl,by simp,[],by simp⟩ (by omega)
 refine Eq.trans e ?_
 cases hr:KC (jn p q) 0 q.2.1.length ([],p.2.1)with
 |none=>rfl
 |some s=>exact LV F hp hq hP hQ (hi s hr) hF
theorem LF (F:Nat) {p q:PG} (hp:AD p) (hq:AD q) (hP:VP p) (hQ:VP q) {s:List Int×List VR} (hs:jI p q.2.1.length s) (hF:1000<=F):sH F p q s=some (Jn p q s):=by
 have p12:=hP.r12
 have q12:=hQ.r12
 have p6:=hP.v6
 have q6:=hQ.v6
 have hm:=hs.1
 unfold sH
 have e1:=gK (step:=sI F p q s) (K:=vW F p q s (smR p q,BL p (rB 0 p.2.1.length) p.2.2.length)) p.2.2.length (fun k=>((List.range k).any (fun i:Nat=>Rt q.2.2 (at' p.2.2 (i:Int)).1),(k:Int),BL p (rB 0 p.2.1.length) k)) (fun k ag hk=>by
  have hR:=hp.rule hP hk
  have hl:=jE p (rB 0 p.2.1.length) k
  have h2:=XK F (r:=((at' p.2.2 (k:Int)).1,(at' p.2.2 (k:Int)).2.1,(at' p.2.2 (k:Int)).2.2)) hR (pN 0 p.2.1.length) hF
  unfold sI vX
  dsimp only
  rw[if_pos (by omega),eP (by omega),bU (RE F _ (by omega) hF),bU h2,eP (by simp;omega),eP (by omega),bU (WZ F _ _ (by omega) hF),wr (by omega) (by omega),vC,List.range_succ,List.any_append]
  cases (List.range k).any (fun i:Nat=>Rt q.2.2 (at' p.2.2 (i:Int)).1)<;>simp<;>rfl) (fun ag=>by
  unfold sI
  dsimp only
  rw[if_neg (by omega)];rfl) F (by omega)
 refine Eq.trans e1 ?_
 unfold vW Jn
 have e:=fE (step:=pF F p q s (smR p q,BL p (rB 0 p.2.1.length) p.2.2.length)) (bad:=some (AI,7)) (K:=Al q s (smR p q,BL p (rB 0 p.2.1.length) p.2.2.length) (BL p (rB 0 p.2.1.length) p.2.2.length++BL q s.1 q.2.2.length)) q.2.2.length (fun i=> !(List.range (at' q.2.2 (i:Int)).2.2.length).any fun j:Nat=>decide (at' s.1 (at' (at' q.2.2 (i:Int)).2.2 (j:Int)).1<(p.2.1.length:Int))) (fun k=>((k:Int),BL p (rB 0 p.2.1.length) p.2.2.length++BL q s.1 k)) (fun k ag hk=>by
  have hR:=hq.rule hQ hk
  have n6:=hR.n6
  have hl:=jE p (rB 0 p.2.1.length) p.2.2.length
  have hl2:=jE q s.1 k
  have h2:=XK F (r:=((at' q.2.2 (k:Int)).1,(at' q.2.2 (k:Int)).2.1,(at' q.2.2 (k:Int)).2.2)) hR hm hF
  unfold pF
  dsimp only
  rw[if_pos (by omega),eP (by omega),bU h2]
  have hsl:(LM s.1 ((at' q.2.2 (k:Int)).1,(at' q.2.2 (k:Int)).2.1,(at' q.2.2 (k:Int)).2.2)).2.2.length=(at' q.2.2 (k:Int)).2.2.length:=by simp[LM]
  have e:=zJ (step:=vY p ((k:Int),BL p (rB 0 p.2.1.length) p.2.2.length++BL q s.1 k) ag (LM s.1 ((at' q.2.2 (k:Int)).1,(at' q.2.2 (k:Int)).2.1,(at' q.2.2 (k:Int)).2.2))) (hit:=some (AI,7)) (K:=ag (((k+1:Nat):Int),BL p (rB 0 p.2.1.length) p.2.2.length++BL q s.1 (k+1))) (at' q.2.2 (k:Int)).2.2.length (fun j=>decide (at' s.1 (at' (at' q.2.2 (k:Int)).2.2 (j:Int)).1<(p.2.1.length:Int))) (fun k=>(k:Int)) (fun j ag' hj=>by
   have hat:(at' (LM s.1 ((at' q.2.2 (k:Int)).1,(at' q.2.2 (k:Int)).2.1,(at' q.2.2 (k:Int)).2.2)).2.2 (j:Int)).1=at' s.1 (at' (at' q.2.2 (k:Int)).2.2 (j:Int)).1:=by
    have e1:=sL (l:=(LM s.1 ((at' q.2.2 (k:Int)).1,(at' q.2.2 (k:Int)).2.1,(at' q.2.2 (k:Int)).2.2)).2.2) (k:=j) (by rw[hsl];exact hj)
    unfold LM at e1
    dsimp only at e1
    rw[List.getElem?_map,sL hj]at e1
    have:=Option.some.inj e1
    unfold LM
    dsimp only
    rw[<-this]
   unfold vY
   rw[if_pos (by rw[hsl];omega),eP (by rw[hsl];omega),hat,wr (by omega) (by omega)]
   by_cases hc:at' s.1 (at' (at' q.2.2 (k:Int)).2.2 (j:Int)).1<(p.2.1.length:Int)
   ·rw[if_pos hc,if_pos (by simpa using hc)];rfl
   ·rw[if_neg hc,if_neg (by simpa using hc)];rfl) (fun ag'=>by
   unfold vY BN
   dsimp only
   rw[if_neg (by rw[hsl];omega),eP (by simp;omega),wr (by omega) (by omega),vC,<-List.append_assoc]
   rfl) F (by omega)
  have e:bZ _ F (0:Int)=_:=e
  rw[e]
  cases (List.range (at' q.2.2 (k:Int)).2.2.length).any fun j:Nat=>decide (at' s.1 (at' (at' q.2.2 (k:Int)).2.2 (j:Int)).1<(p.2.1.length:Int))<;>rfl) (fun ag=>by
  unfold pF
  dsimp only
  rw[if_neg (by omega)]) F (by omega)
 have hz:BL q s.1 0=[]:=rfl
 rw[hz,List.append_nil]at e
 refine Eq.trans e ?_
 rw[<-List.not_any_eq_all_not]
 show(if(!WK p q s.1)=true then _ else _)=_
 by_cases hc:WK p q s.1=true
 ·rw[hc];rfl
 rw[if_pos (by simp[hc]),if_neg hc]
 unfold Al Am
 dsimp only
 by_cases hc2:smR p q=true
 ·rw[if_pos hc2,if_pos hc2];rfl
 rw[if_neg hc2,if_neg hc2]
 by_cases h6:6<s.2.length
 ·rw[if_pos (by omega),if_pos rfl,if_pos (.inl h6)];rfl
 rw[if_neg (by omega),List.length_append,jE,jE]
 by_cases h12:12<p.2.2.length+q.2.2.length
 ·rw[if_pos (by simp;omega),if_pos (.inr h12)];rfl
 ·rw[if_neg (by simp;omega),if_neg (by omega)]
theorem WW (F:Nat) {p q:PG} (hp:AD p) (hq:AD q) (hF:1000<=F):AS F p q=some (FB p q):=by
 unfold AS FB Aj
 rw[bU (Ky F (p:=(p.1,p.2.1,p.2.2)) hp hF)]
 show(if(!Gc p)=true then _ else _)=_
 cases hv:Gc p
 ·rw[if_pos (show(!false)=true from rfl),if_pos (Or.inl rfl)];rfl
 rw[if_neg (by decide),bU (Ky F (p:=(q.1,q.2.1,q.2.2)) hq hF)]
 show(if(!Gc q)=true then _ else _)=_
 cases hw:Gc q
 ·rw[if_pos (show(!false)=true from rfl),if_pos (Or.inr rfl)];rfl
 rw[if_neg (by decide),if_neg (by simp)]
 have hP:=CZ hv
 have hQ:=CZ hw
 have p6:=hP.v6
 have q6:=hQ.v6
 rw[eP (by simp;omega)]
 unfold Ak
 rw[List.nil_append]
 obtain⟨hi,e⟩:=Jl (step:=pG F p q) (bad:=some (AI,6)) (K:=fun s=>sH F p q s) q.2.1.length (jn p q) (fun k s=>(s.1,(k:Int),s.2)) (jI p) (N_ p q) (fun k s ag hk hI=>by
  obtain⟨h1,h2,ext,h3⟩:=hI
  obtain⟨m,vs⟩:=s
  dsimp only at h1 h2 h3
  unfold pG jn
  dsimp only
  rw[if_pos (by omega),eP (by omega),bU (Kx F _ _ (by omega) hF)]
  unfold An yN
  dsimp only
  by_cases hf:Bw p.2.1 (at' q.2.1 (k:Int)).1<0
  ·rw[if_neg (by omega),if_neg (show¬(false=true) by decide),if_pos hf,if_pos hf,eP (by omega),eP (by simp;omega),eP (by simp;omega),wr (by omega) (by omega)]
   rfl
  ·rcases NW p.2.1 (at' q.2.1 (k:Int)).1 with hh|⟨f,hh,hf2⟩
   ·omega
   rw[hh,if_pos (by omega),eP (by omega),eP (by omega),if_neg (show¬((f:Int)<0) by omega),if_neg (show¬((f:Int)<0) by omega)]
   by_cases hne:at' p.2.1 (f:Int)=at' q.2.1 (k:Int)
   ·rw[if_neg (by simp[hne]),if_neg (by simp[hne]),eP (by simp;omega),wr (by omega) (by omega)]
    rfl
   ·rw[if_pos (decide_eq_true hne),if_pos hne];rfl) (fun s ag hI=>by
  unfold pG
  dsimp only
  rw[if_neg (by omega)]) F ([],p.2.1) ⟨rfl,by simp,[],by simp⟩ (by omega)
 refine Eq.trans e ?_
 cases hr:KC (jn p q) 0 q.2.1.length ([],p.2.1)with
 |none=>rfl
 |some s=>exact LF F hp hq hP hQ (hi s hr) hF
end Go.Proofs.YthnplbmmlbnelaaGreat
end
section
namespace Go.Proofs.YthnplbmmlbnelaaGreat
open Go.Sx
section
def nU (U:Nat) (p0:Br) (p1:cH):Option (Bool):=
 Option.bind (iO U ((p1.1,p1.2.1,p1.2.2)) p0.1) fun r2=>(some (decide ((0:Int)<=r2)))
theorem UL:bO Tryz.prog 41:=Tryz.call41
theorem Dd (U:Nat) {p0:Br} {p1:cH} (bx0:Nat)  (v1:Value)  (v2:Value) (r:Bool) (h:nU U p0 p1=some r):
  bQ Tryz.prog 41 #[Value.agg #[vS (p0.1),vI (p0.2.1),vI (p0.2.2.1),vI (p0.2.2.2.1),vI (p0.2.2.2.2.1),vI (p0.2.2.2.2.2)],vP bx0] [bJ bx0 [vS (p1.1),v1,v2] 25,Sl aF v1 p1.2.1,Sl aD v2 p1.2.2] (fun x:Unit=>vB (r)) (fun x l=>l) (fun _ l=>l):=by
 refine bQ.of Tryz.func41 rfl Tryz.ntmps41 rfl fun c=>?_
 refine aZ<|aT (aW.box (cs:=[vS (p0.1),vI (p0.2.1),vI (p0.2.2.1),vI (p0.2.2.2.1),vI (p0.2.2.2.2.1),vI (p0.2.2.2.2.2)]) rfl rfl) rfl fun b1=>aK rfl<|aU<|aZ<|aJ (Lj rfl (dN rfl) rfl rfl) rfl<|bP rfl<|dC 0 rfl<|fO h fun r2 w3 h=>aT (aW.callQ J_ (yS U v1 v2 r2 w3) rfl (gO [1,2] rfl)) rfl fun x4=>aJ (jM rfl rfl) rfl<|aK rfl<|aU<|bE ?_
 cases h
 exact yR rfl
end
section
def pQ  (a10:De):Option EI:=
 some (a10)
def dU (p0:Iz) (a16:Int×(List (ByteArray×Int×Int×Int×Int×Int))) (ag15:(Int×(List (ByteArray×Int×Int×Int×Int×Int)))->Option EI):Option EI:=
 if a16.1<(List.length p0:Int)then(ck (0<=a16.1∧a16.1<(List.length p0:Int)) (ck ((List.length a16.2:Int)+(List.length (at' p0 a16.1):Int)<=1099511627) (ag15 ((wI .i64 (a16.1+(1:Int))),(a16.2++(at' p0 a16.1))))))else(pQ  (a16.2))
def pP (U:Nat) (p0:Iz) (a6:De):Option EI:=
 bZ (dU p0) U ((0:Int),a6)
def jZ (U:Nat) (p0:Iz) (a26:De):Option EI:=
 pP U p0 (a26)
def pO (U:Nat) (p0:Iz) (a2:Int):Option EI:=
 if a2<(0:Int)then(none)else(if(0:Int)<(wI .i64 (a2 - (wI .i64 ((0:Int) - (List.length ([]:rT):Int)))))then(ck (0<(wI .i64 (a2 - (wI .i64 ((0:Int) - (List.length ([]:rT):Int)))))∧(wI .i64 (a2 - (wI .i64 ((0:Int) - (List.length ([]:rT):Int)))))<=1099511627) (ck (0<=(List.length ([]:rT):Int)∧(List.length ([]:rT):Int)<=(List.length (List.replicate (Int.toNat (wI .i64 (a2 - (wI .i64 ((0:Int) - (List.length ([]:rT):Int)))))) ((ByteArray.mk #[]),(0:Int),(0:Int),(0:Int),(0:Int),(0:Int))):Int)) (jZ U p0 (List.take (Int.toNat (List.length ([]:rT):Int)) (List.replicate (Int.toNat (wI .i64 (a2 - (wI .i64 ((0:Int) - (List.length ([]:rT):Int)))))) ((ByteArray.mk #[]),(0:Int),(0:Int),(0:Int),(0:Int),(0:Int)))))))else(jZ U p0 ([]:gN)))
def dV (U:Nat) (p0:Iz) (a36:lS) (ag35:gY->Option EI):Option EI:=
 if a36.2<(List.length p0:Int)then(ck (0<=a36.2∧a36.2<(List.length p0:Int)) (if(wI .i64 (a36.1+(List.length (at' p0 a36.2):Int)))<(0:Int)then(none)else(ag35 ((wI .i64 (a36.1+(List.length (at' p0 a36.2):Int))),(wI .i64 (a36.2+(1:Int)))))))else(pO U p0 (a36.1))
def kL (U:Nat) (p0:Iz):Option EI:=
 bZ (dV U p0) U ((0:Int),(0:Int))
theorem UM:bO Tryz.prog 42:=Tryz.call42
theorem EX (U:Nat) {p0:Iz} (v0:Value)  (z1:List (Value×List (ByteArray×Int×Int×Int×Int×Int))) (r:De) (h:kL U p0=some r):
  bQ Tryz.prog 42 #[v0] [S2 aF v0 z1 p0] (fun x:Value=>x) (fun x l=>Ar aH x r::l) (fun _ l=>l):=by
 refine bQ.of Tryz.func42 rfl Tryz.ntmps42 rfl fun c=>?_
 unfold kL at h
 refine aZ<|aK rfl<|aU<|aZ<|aK rfl<|aU<|aP<|dD (fun a2=>pO U p0 a2=some r) (fun a2 b3=>[(0,v0),(3,vI (a2))]) (fun a2 b3=>[]) ?_ ?_
 ·refine aZ<|aE rfl<|aJ (JO rfl (dN rfl) rfl) rfl<|aE rfl<|aU<|aY<|fW (dV U p0) (fun a36 b37=>[(0,v0),(3,vI (a36.1)),(9,v0),(10,vI (List.length p0:Int)),(11,vI (a36.2))]) (fun a36 b37=>[]) ((0:Int),(0:Int)) () h SF (bH.refl _) ?_
  intro k38 a36 b37 h
  refine aZ<|dL rfl<|aU<|aP ?_
  refine gT h rfl (fun h=>?_) fun h=>?_
  ·refine cC<|aP<|aY<|aZ<|fJ h fun j40 h=>aJ (Fl rfl rfl (dN rfl) rfl rfl j40) rfl<|aJ (D_ rfl (dN rfl) rfl rfl j40) rfl<|aK rfl<|aU<|aZ<|aE rfl<|aE rfl<|aJ (dR rfl (aM.el (dN rfl) j40.1 j40.2) rfl) rfl<|dM rfl<|aK rfl<|aU<|aZ<|aE rfl<|dL rfl<|aU ?_
   refine gT h rfl (fun h=>?_) fun h=>?_
   ·refine aS ?_
    cases h
   refine eJ<|lP<|aS<|dM rfl<|aE rfl<|aU ?_
   exact BR ((wI .i64 (a36.1+(List.length (at' p0 a36.2):Int))),(wI .i64 (a36.2+(1:Int)))) () h SF rfl
  refine eQ ?_
  exact cZ (a36.1) () h SF rfl
 intro a2 b3 h
 refine aZ<|aE rfl<|xD (A:=De) (B:=Value) (vs:=[fX,vI (a2)]) (fun a6=>pP U p0 a6=some r) (fun a6 b7=>b7) (fun a6 b7=>[Ar aH b7 a6]) (fun a6 b7=>[S2 aF v0 z1 p0]) (xR.fn (show bO Tryz.prog 62 from Tryz.call62) rfl) Tryz.func62 rfl Tryz.ntmps62 rfl rfl ?_ ?_
 ·refine aZ<|aK rfl<|aU<|aP<|aZ<|aE rfl<|dL rfl<|aU ?_
  refine gT h rfl (fun h=>?_) fun h=>?_
  ·refine aS ?_
   cases h
  refine cC<|aP<|Ep (B:=Value) (fun a26=>jZ U p0 a26=some r) (fun a26 b27=>[(0,b27)]) (fun a26 b27=>[Ar aH b27 a26]) ?_ ?_
  ·refine aZ<|aE rfl<|aE rfl<|aJ (Fj rfl rfl) rfl<|aE rfl<|aJ (dR (r:=kJ.bool) (xs:=[]) rfl aM.nil rfl) rfl<|aJ (sY rfl rfl) rfl<|aJ (sY rfl rfl) rfl<|aK rfl<|aU<|aZ<|aE rfl<|aJ (kT rfl rfl) rfl<|aU ?_
   refine gT h rfl (fun h=>?_) fun h=>?_
   ·refine aS<|aE rfl<|aE rfl<|aJ (Fj rfl rfl) rfl<|aJ (HD rfl rfl rfl rfl) rfl<|aE rfl<|fJ h fun j29 h=>aT (BW (e:=aH) (((ByteArray.mk #[]),(0:Int),(0:Int),(0:Int),(0:Int),(0:Int))) rfl rfl rfl rfl rfl rfl rfl j29 rfl rfl) rfl fun u30=>aE rfl<|aJ (dR (r:=kJ.bool) (xs:=[]) rfl aM.nil rfl) rfl<|fJ h fun j31 h=>aT (Fe 0 j31 rfl rfl rfl rfl rfl rfl) rfl fun u32=>aK rfl<|aU ?_
    exact cZ (List.take (Int.toNat (List.length ([]:rT):Int)) (List.replicate (Int.toNat (wI .i64 (a2 - (wI .i64 ((0:Int) - (List.length ([]:rT):Int)))))) ((ByteArray.mk #[]),(0:Int),(0:Int),(0:Int),(0:Int),(0:Int)))) (u32) h SF rfl
   refine cC<|cJ (d_ aH) ?_
   exact cZ ([]:gN) (fX) h SF rfl
  intro a26 b27 h
  unfold jZ at h
  refine aZ<|aE rfl<|aK rfl<|aU<|bE ?_
  exact pR (a26) (b27) h (.inl rfl) (G_.r1 rfl (RV.tmp rfl)) rfl (bH.refl _) (aV.refl _ _)
 intro a6 b7 h
 unfold pP at h
 refine aK rfl<|aU<|aP<|Ep (B:=Value) (fun a10=>pQ  a10=some r) (fun a10 b11=>[(6,b11)]) (fun a10 b11=>[Ar aH b11 a10]) ?_ ?_
 ·refine aZ<|aE rfl<|aJ (JO rfl (dN rfl) rfl) rfl<|aE rfl<|aU<|aY<|fW (B:=Value) (dU p0) (fun a16 b17=>[(6,b17),(25,v0),(26,vI (List.length p0:Int)),(27,vI (a16.1))]) (fun a16 b17=>[Ar aH b17 a16.2]) ((0:Int),a6) (b7) h SF (bH.refl _) ?_
  intro k18 a16 b17 h
  refine aZ<|dL rfl<|aU<|aP ?_
  refine gT h rfl (fun h=>?_) fun h=>?_
  ·refine cC<|aP<|aY<|aZ<|fJ h fun j20 h=>aJ (Fl rfl rfl (dN rfl) rfl rfl j20) rfl<|aJ (D_ rfl (dN rfl) rfl rfl j20) rfl<|aK rfl<|aU<|aS<|aE rfl<|aE rfl<|fJ h fun j22 h=>aT (dP 0 aQ rfl rfl rfl (aM.el (dN rfl) j20.1 j20.2) rfl rfl rfl rfl j22 rfl) rfl fun u21=>aK rfl<|fQ<|lP<|aS<|dM rfl<|aE rfl<|aU ?_
   exact BR ((wI .i64 (a16.1+(1:Int))),(a16.2++(at' p0 a16.1))) (u21) h SF rfl
  refine eQ ?_
  exact cZ (a16.2) (b17) h SF rfl
 intro a10 b11 h
 unfold pQ at h
 refine aZ<|aE rfl<|aK rfl<|aU<|bE ?_
 cases h
 exact uD (b11) rfl rfl (RV.tmp rfl) (bH.refl _) aV.nil
end
section
def oW  (a10:cS):Option (cS):=
 some (a10)
def eV (p0:Ny) (a16:Int×cS) (ag15:(Int×cS)->Option (cS)):Option (cS):=
 if a16.1<(List.length p0:Int)then(ck (0<=a16.1∧a16.1<(List.length p0:Int)) (ck ((List.length a16.2:Int)+(List.length (at' p0 a16.1):Int)<=1099511627) (ag15 ((wI .i64 (a16.1+(1:Int))),(a16.2++(at' p0 a16.1))))))else(oW  (a16.2))
def oV (U:Nat) (p0:Ny) (a6:cS):Option (cS):=
 bZ (eV p0) U ((0:Int),a6)
def jD (U:Nat) (p0:Ny) (a26:cS):Option (cS):=
 oV U p0 (a26)
def oU (U:Nat) (p0:Ny) (a2:Int):Option (cS):=
 if a2<(0:Int)then(none)else(if(0:Int)<(wI .i64 (a2 - (wI .i64 ((0:Int) - (List.length ([]:rT):Int)))))then(ck (0<(wI .i64 (a2 - (wI .i64 ((0:Int) - (List.length ([]:rT):Int)))))∧(wI .i64 (a2 - (wI .i64 ((0:Int) - (List.length ([]:rT):Int)))))<=1099511627) (ck (0<=(List.length ([]:rT):Int)∧(List.length ([]:rT):Int)<=(List.length (List.replicate (Int.toNat (wI .i64 (a2 - (wI .i64 ((0:Int) - (List.length ([]:rT):Int)))))) ((0:Int),(0:Int))):Int)) (jD U p0 (List.take (Int.toNat (List.length ([]:rT):Int)) (List.replicate (Int.toNat (wI .i64 (a2 - (wI .i64 ((0:Int) - (List.length ([]:rT):Int)))))) ((0:Int),(0:Int)))))))else(jD U p0 ([]:cS)))
def eW (U:Nat) (p0:Ny) (a36:lS) (ag35:gY->Option (cS)):Option (cS):=
 if a36.2<(List.length p0:Int)then(ck (0<=a36.2∧a36.2<(List.length p0:Int)) (if(wI .i64 (a36.1+(List.length (at' p0 a36.2):Int)))<(0:Int)then(none)else(ag35 ((wI .i64 (a36.1+(List.length (at' p0 a36.2):Int))),(wI .i64 (a36.2+(1:Int)))))))else(oU U p0 (a36.1))
def jW (U:Nat) (p0:Ny):Option (cS):=
 bZ (eW U p0) U ((0:Int),(0:Int))
theorem QD:bO Tryz.prog 63:=Tryz.call63
theorem AM (U:Nat) {p0:Ny} (v0:Value)  (z1:List (Value×cS)) (r:cS) (h:jW U p0=some r):
  bQ Tryz.prog 63 #[v0] [S2 bF v0 z1 p0] (fun x:Value=>x) (fun x l=>Ar cD x r::l) (fun _ l=>l):=by
 refine bQ.of Tryz.func63 rfl Tryz.ntmps63 rfl fun c=>?_
 unfold jW at h
 refine aZ<|aK rfl<|aU<|aZ<|aK rfl<|aU<|aP<|dD (fun a2=>oU U p0 a2=some r) (fun a2 b3=>[(0,v0),(3,vI (a2))]) (fun a2 b3=>[]) ?_ ?_
 ·refine aZ<|aE rfl<|aJ (JO rfl (dN rfl) rfl) rfl<|aE rfl<|aU<|aY<|fW (eW U p0) (fun a36 b37=>[(0,v0),(3,vI (a36.1)),(9,v0),(10,vI (List.length p0:Int)),(11,vI (a36.2))]) (fun a36 b37=>[]) ((0:Int),(0:Int)) () h SF (bH.refl _) ?_
  intro k38 a36 b37 h
  refine aZ<|dL rfl<|aU<|aP ?_
  refine gT h rfl (fun h=>?_) fun h=>?_
  ·refine cC<|aP<|aY<|aZ<|fJ h fun j40 h=>aJ (Fl rfl rfl (dN rfl) rfl rfl j40) rfl<|aJ (D_ rfl (dN rfl) rfl rfl j40) rfl<|aK rfl<|aU<|aZ<|aE rfl<|aE rfl<|aJ (dR rfl (aM.el (dN rfl) j40.1 j40.2) rfl) rfl<|dM rfl<|aK rfl<|aU<|aZ<|aE rfl<|dL rfl<|aU ?_
   refine gT h rfl (fun h=>?_) fun h=>?_
   ·refine aS ?_
    cases h
   refine eJ<|lP<|aS<|dM rfl<|aE rfl<|aU ?_
   exact BR ((wI .i64 (a36.1+(List.length (at' p0 a36.2):Int))),(wI .i64 (a36.2+(1:Int)))) () h SF rfl
  refine eQ ?_
  exact cZ (a36.1) () h SF rfl
 intro a2 b3 h
 refine aZ<|aE rfl<|xD (A:=cS) (B:=Value) (vs:=[fX,vI (a2)]) (fun a6=>oV U p0 a6=some r) (fun a6 b7=>b7) (fun a6 b7=>[Ar cD b7 a6]) (fun a6 b7=>[S2 bF v0 z1 p0]) (xR.fn (show bO Tryz.prog 86 from Tryz.call86) rfl) Tryz.func86 rfl Tryz.ntmps86 rfl rfl ?_ ?_
 ·refine aZ<|aK rfl<|aU<|aP<|aZ<|aE rfl<|dL rfl<|aU ?_
  refine gT h rfl (fun h=>?_) fun h=>?_
  ·refine aS ?_
   cases h
  refine cC<|aP<|Ep (B:=Value) (fun a26=>jD U p0 a26=some r) (fun a26 b27=>[(0,b27)]) (fun a26 b27=>[Ar cD b27 a26]) ?_ ?_
  ·refine aZ<|aE rfl<|aE rfl<|aJ (Fj rfl rfl) rfl<|aE rfl<|aJ (dR (r:=kJ.bool) (xs:=[]) rfl aM.nil rfl) rfl<|aJ (sY rfl rfl) rfl<|aJ (sY rfl rfl) rfl<|aK rfl<|aU<|aZ<|aE rfl<|aJ (kT rfl rfl) rfl<|aU ?_
   refine gT h rfl (fun h=>?_) fun h=>?_
   ·refine aS<|aE rfl<|aE rfl<|aJ (Fj rfl rfl) rfl<|aJ (HD rfl rfl rfl rfl) rfl<|aE rfl<|fJ h fun j29 h=>aT (BW (e:=cD) (((0:Int),(0:Int))) rfl rfl rfl rfl rfl rfl rfl j29 rfl rfl) rfl fun u30=>aE rfl<|aJ (dR (r:=kJ.bool) (xs:=[]) rfl aM.nil rfl) rfl<|fJ h fun j31 h=>aT (Fe 0 j31 rfl rfl rfl rfl rfl rfl) rfl fun u32=>aK rfl<|aU ?_
    exact cZ (List.take (Int.toNat (List.length ([]:rT):Int)) (List.replicate (Int.toNat (wI .i64 (a2 - (wI .i64 ((0:Int) - (List.length ([]:rT):Int)))))) ((0:Int),(0:Int)))) (u32) h SF rfl
   refine cC<|cJ (d_ cD) ?_
   exact cZ ([]:cS) (fX) h SF rfl
  intro a26 b27 h
  unfold jD at h
  refine aZ<|aE rfl<|aK rfl<|aU<|bE ?_
  exact pR (a26) (b27) h (.inl rfl) (G_.r1 rfl (RV.tmp rfl)) rfl (bH.refl _) (aV.refl _ _)
 intro a6 b7 h
 unfold oV at h
 refine aK rfl<|aU<|aP<|Ep (B:=Value) (fun a10=>oW  a10=some r) (fun a10 b11=>[(6,b11)]) (fun a10 b11=>[Ar cD b11 a10]) ?_ ?_
 ·refine aZ<|aE rfl<|aJ (JO rfl (dN rfl) rfl) rfl<|aE rfl<|aU<|aY<|fW (B:=Value) (eV p0) (fun a16 b17=>[(6,b17),(25,v0),(26,vI (List.length p0:Int)),(27,vI (a16.1))]) (fun a16 b17=>[Ar cD b17 a16.2]) ((0:Int),a6) (b7) h SF (bH.refl _) ?_
  intro k18 a16 b17 h
  refine aZ<|dL rfl<|aU<|aP ?_
  refine gT h rfl (fun h=>?_) fun h=>?_
  ·refine cC<|aP<|aY<|aZ<|fJ h fun j20 h=>aJ (Fl rfl rfl (dN rfl) rfl rfl j20) rfl<|aJ (D_ rfl (dN rfl) rfl rfl j20) rfl<|aK rfl<|aU<|aS<|aE rfl<|aE rfl<|fJ h fun j22 h=>aT (dP 0 cO rfl rfl rfl (aM.el (dN rfl) j20.1 j20.2) rfl rfl rfl rfl j22 rfl) rfl fun u21=>aK rfl<|fQ<|lP<|aS<|dM rfl<|aE rfl<|aU ?_
   exact BR ((wI .i64 (a16.1+(1:Int))),(a16.2++(at' p0 a16.1))) (u21) h SF rfl
  refine eQ ?_
  exact cZ (a16.2) (b17) h SF rfl
 intro a10 b11 h
 unfold oW at h
 refine aZ<|aE rfl<|aK rfl<|aU<|bE ?_
 cases h
 exact uD (b11) rfl rfl (RV.tmp rfl) (bH.refl _) aV.nil
end
end Go.Proofs.YthnplbmmlbnelaaGreat
end
