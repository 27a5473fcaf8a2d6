/- Models and proofs. Conditions: none. -/
import Derived.Test.YtjlbcgddhnjcjaaGreatDoorZCMe5
import Derived.Test.YtjlbcgddhnjcjaaGreatDoorZCMe6
import Derived.Test.YtjlbcgddhnjcjaaGreatDoorZCMe2
set_option linter.unusedVariables false
set_option linter.unusedSimpArgs false
set_option maxHeartbeats 4000000
set_option maxRecDepth 20000
section
namespace Go.Proofs.YtjlbcgddhnjcjaaGreatDoor
open Go.Sx
section
def uD  (a11:Unit):Option (Int):=
 some (0:Int)
def nZ (a15:Int) (ag14:(Int)->Option (Int)) (a19:Unit):Option (Int):=
 ag14 (wI .i64 (a15+(1:Int)))
def uE (a15:Int) (ag14:(Int)->Option (Int)) (a28:Bool):Option (Int):=
 if a28=true then(some (9:Int))else(nZ a15 ag14 (()))
def lD (U:Nat) (p0:Ak) (p1:cW) (a15:Int) (ag14:(Int)->Option (Int)):Option (Int):=
 if a15<(List.length p0.2.1:Int)then(ck (0<=a15∧a15<(List.length p0.2.1:Int)) (if((at' p0.2.1 a15).2.1)≠(1:Int)then(nZ a15 ag14 (()))else(Option.bind (iI U ((((at' p0.2.1 a15).1),((at' p0.2.1 a15).2.1),((at' p0.2.1 a15).2.2.1),((at' p0.2.1 a15).2.2.2.1),((at' p0.2.1 a15).2.2.2.2.1),((at' p0.2.1 a15).2.2.2.2.2))) ((p1.1,p1.2)) (0:Int)) fun r24=>(if r24.2<r24.1 then(uE a15 ag14 (true))else(uE a15 ag14 (decide ((4096:Int)<(wI .i64 ((wI .i64 (r24.2 - r24.1))+(1:Int))))))))))else(uD  (()))
def sA (U:Nat) (p0:Ak) (p1:cW):Option (Int):=
 Option.bind (zK U ((p0.1,p0.2.1,p0.2.2))) fun r3=>(if(!r3)=true then(some (8:Int))else(Option.bind (dH U ((p1.1,p1.2))) fun r7=>(if(!r7)=true then(some (1:Int))else(bE (lD U p0 p1) U (0:Int)))))
theorem XO:aQ Tryz.prog 72:=Tryz.call72
theorem Ij (U:Nat) {p0:Ak} {p1:cW} (v0:Value)  (v1:Value)  (v2:Value)  (v3:Value)  (z4:mB) (r:Int) (h:sA U p0 p1=some r):
  aS Tryz.prog 72 #[Value.agg #[vS (p0.1),v0,v1],Value.agg #[v2,v3]] [Sl aH v0 p0.2.1,Sl aE v1 p0.2.2,PF (Value.agg #[vS p0.1,v0,v1]),Sl bD v2 p1.1,S2 a_ v3 z4 p1.2] (fun x:Unit=>vI (r)) (fun x l=>l) (fun _ l=>l):=by
 refine aS.of Tryz.func72 rfl Tryz.ntmps72 rfl fun c=>?_
 refine sqR<|aF (aJ.box (cs:=[vS (p0.1),v0,v1]) rfl rfl) rfl fun b1=>aF (aJ.box (cs:=[v2,v3]) rfl rfl) rfl fun b2=>qkAsg rfl<|dtN<|aG<|sqR<|qkLdA 1 rfl<|bnE h fun r3 w4 h=>aF (aJ.callQ Si (Ip U v0 v1 r3 w4) rfl (lH [0,1,2] rfl)) rfl fun x5=>aB (rK rfl) rfl<|dtN ?_
 refine z_ h rfl (fun _ h=>?_) fun _ h=>?_
 ·refine sqR<|qkAsg rfl<|dtN<|aR<|aI ?_
  cases h
  exact vT rfl
 refine cJ<|aG<|sqR<|qkLdA 0 rfl<|bnE h fun r7 w8 h=>aF (aJ.callQ EG (pS U v2 v3 z4 r7 w8) rfl (lH [3,4] rfl)) rfl fun x9=>aB (rK rfl) rfl<|dtN ?_
 refine z_ h rfl (fun _ h=>?_) fun _ h=>?_
 ·refine sqR<|qkAsg rfl<|dtN<|aR<|aI ?_
  cases h
  exact vT rfl
 refine cJ<|aG<|midU (fun a11=>uD  a11=some r) (fun a11 b12=>[]) (fun a11 b12=>[]) ?_ ?_
 ·refine sqR<|qkFld rfl<|qkLd 1 rfl<|qkLen (aC.fact 0 rfl) rfl<|qkMove rfl<|dtN<|aO<|loopL (lD U p0 p1) (fun a15 b16=>[(3,vP b2),(16,v0),(17,vI (List.length p0.2.1:Int)),(18,vI (a15))]) (fun a15 b16=>[bS b2 [v2,v3] 29]) (0:Int) () h SF (aV.ix [0] rfl rfl) ?_
  intro k17 a15 b16 h
  refine sqR<|qkLss rfl<|dtN<|aG ?_
  refine eF h rfl (fun h=>?_) fun h=>?_
  ·refine cJ<|aG<|midU (fun a19=>nZ a15 (bE (lD U p0 p1) k17) a19=some r) (fun a19 b20=>[(3,vP b2),(16,v0),(17,vI (List.length p0.2.1:Int)),(18,vI (a15))]) (fun a19 b20=>[bS b2 [v2,v3] 29]) ?_ ?_
   ·refine aO<|sqR<|ckE h fun j21 h=>aB (aX rfl rfl (aC.fact 0 rfl) rfl rfl j21) rfl<|aB (hZ (cs:=[vS ((at' p0.2.1 a15).1),vI ((at' p0.2.1 a15).2.1),vI ((at' p0.2.1 a15).2.2.1),vI ((at' p0.2.1 a15).2.2.2.1),vI ((at' p0.2.1 a15).2.2.2.2.1),vI ((at' p0.2.1 a15).2.2.2.2.2)]) rfl (aC.fact 0 rfl) rQ rfl rfl rfl rfl j21) rfl<|aF (aJ.alloc (cs:=vD4) rfl rfl) rfl fun b22=>bK 0 (vs:=[vS ((at' p0.2.1 a15).1),vI ((at' p0.2.1 a15).2.1),vI ((at' p0.2.1 a15).2.2.1),vI ((at' p0.2.1 a15).2.2.2.1),vI ((at' p0.2.1 a15).2.2.2.2.1),vI ((at' p0.2.1 a15).2.2.2.2.2)]) rfl rfl rfl rfl rfl rfl<|dtN<|aG<|sqR<|qkFld rfl<|qkLd 0 rfl<|qkNeq rfl<|dtN ?_
    refine eF h rfl (fun h=>?_) fun h=>?_
    ·refine qE<|eC<|wK<|xI ?_
     exact bV () (()) h SF (aV.ix [1] rfl rfl) (aD.refl _ _)
    refine cJ<|sqR<|qkLdA 0 rfl<|qkLdA 1 rfl<|bnE h fun r24 w25 h=>aF (aJ.callQ Oo (AY U v2 v3 z4 r24 w25) rfl (lH [3,4] rfl)) rfl fun x26=>qkMove rfl<|qkExt rfl<|qkExt rfl<|qkAsg rfl<|qkAsg rfl<|dtN<|aG<|midU (fun a28=>uE a15 (bE (lD U p0 p1) k17) a28=some r) (fun a28 b29=>[(3,vP b2),(16,v0),(17,vI (List.length p0.2.1:Int)),(18,vI (a15)),(40,vB (a28))]) (fun a28 b29=>[bS b2 [v2,v3] 29]) ?_ ?_
    ·refine aK<|qkMove rfl<|qkMove rfl<|qkLss rfl<|qkMove rfl ?_
     refine AW h rfl (fun _ h=>?_) fun _ h=>?_
     ·refine gdSkip rfl<|gdSkip rfl<|gdSkip rfl<|gdSkip rfl<|gdSkip rfl<|qkPkT rfl<|dtN ?_
      exact bV (true) () h SF (aV.ix [1] rfl rfl) (aD.refl _ _)
     refine gyMove rfl<|gyMove rfl<|aN rfl (pT rfl rfl) rfl<|aN rfl (wW rfl rfl) rfl<|aN rfl (rZ rfl rfl) rfl<|qkPkF rfl<|dtN ?_
     exact bV (decide ((4096:Int)<(wI .i64 ((wI .i64 (r24.2 - r24.1))+(1:Int))))) () h SF (aV.ix [1] rfl rfl) (aD.refl _ _)
    intro a28 b29 h
    refine z_ h rfl (fun _ h=>?_) fun _ h=>?_
    ·refine sqR<|qkAsg rfl<|dtN<|aR<|bL<|aI<|aI<|bL<|aI ?_
     cases h
     exact vT rfl
    refine dD<|inT ?_
    exact fM () (()) h SF rfl
   intro a19 b20 h
   unfold nZ at h
   refine aK<|qkAdd rfl<|qkMove rfl<|dtN ?_
   exact xV (wI .i64 (a15+(1:Int))) () h SF rfl
  refine eZ ?_
  exact bV () (()) h SF .nil (aD.refl _ _)
 intro a11 b12 h
 unfold uD at h
 refine sqR<|qkAsg rfl<|dtN<|aR ?_
 cases h
 exact kH rfl
end
section
def s_  (a2:Unit):Option (Bool):=
 some (true)
def tA (a6:Int) (ag5:(Int)->Option (Bool)) (a12:Bool):Option (Bool):=
 if a12=true then(some (false))else(ag5 (wI .i64 (a6+(1:Int))))
def mK (p0:eO) (p1:aL) (a6:Int) (ag5:(Int)->Option (Bool)):Option (Bool):=
 if a6<(List.length p1:Int)then(ck (0<=a6∧a6<(List.length p1:Int)) (ck (0<=a6∧a6<(List.length p0:Int)) (if(at' p1 a6)<((at' p0 a6).1)then(tA a6 ag5 (true))else(ck (0<=a6∧a6<(List.length p0:Int)) (tA a6 ag5 (decide (((at' p0 a6).2)<(at' p1 a6))))))))else(s_  (()))
def uO (U:Nat) (p0:eO) (p1:aL):Option (Bool):=
 if(List.length p1:Int)≠(List.length p0:Int)then(some (false))else(bE (mK p0 p1) U (0:Int))
theorem UY:aQ Tryz.prog 112:=Tryz.call112
theorem HM (U:Nat) {p0:eO} {p1:aL} (v0:Value)  (v1:Value) (r:Bool) (h:uO U p0 p1=some r):
  aS Tryz.prog 112 #[v0,v1] [Sl a_ v0 p0,Sl bD v1 p1] (fun x:Unit=>vB (r)) (fun x l=>l) (fun _ l=>l):=by
 refine aS.of Tryz.func112 rfl Tryz.ntmps112 rfl fun c=>?_
 refine sqR<|qkAsg rfl<|dtN<|aG<|sqR<|qkMove rfl<|qkLen (aC.fact 1 rfl) rfl<|qkMove rfl<|qkLen (aC.fact 0 rfl) rfl<|qkNeq rfl<|dtN ?_
 refine eF h rfl (fun h=>?_) fun h=>?_
 ·refine sqR<|qkAsg rfl<|dtN<|aR<|aI ?_
  cases h
  exact kH rfl
 refine cJ<|aG<|midU (fun a2=>s_  a2=some r) (fun a2 b3=>[]) (fun a2 b3=>[]) ?_ ?_
 ·refine sqR<|qkMove rfl<|qkLen (aC.fact 1 rfl) rfl<|qkMove rfl<|dtN<|aO<|loopL (mK p0 p1) (fun a6 b7=>[(0,v0),(12,v1),(13,vI (List.length p1:Int)),(14,vI (a6))]) (fun a6 b7=>[]) (0:Int) () h SF (aV.refl _) ?_
  intro k8 a6 b7 h
  refine sqR<|qkLss rfl<|dtN<|aG ?_
  refine eF h rfl (fun h=>?_) fun h=>?_
  ·refine cJ<|aG<|aO<|sqR<|qkMove rfl<|ckE h fun j10 h=>aB (aX rfl rfl (aC.fact 1 rfl) rfl rfl j10) rfl<|aB (bQ rfl (aC.fact 1 rfl) rfl rfl rfl cZ j10) rfl<|qkAsg rfl<|qkAsg rfl<|dtN<|aG<|midU (fun a12=>tA a6 (bE (mK p0 p1) k8) a12=some r) (fun a12 b13=>[(0,v0),(12,v1),(13,vI (List.length p1:Int)),(14,vI (a6)),(34,vB (a12))]) (fun a12 b13=>[]) ?_ ?_
   ·refine aK<|qkMove rfl<|qkMove rfl<|qkMove rfl<|ckE h fun j15 h=>aB (aX rfl rfl (aC.fact 0 rfl) rfl rfl j15) rfl ?_
    refine aB (BY (i:=0) rfl rfl rfl rfl rfl (by decide)) rfl ?_
    refine aB (pY rfl (aC.fact 0 rfl) rfl rfl rfl Au j15) rfl<|qkLss rfl<|qkMove rfl ?_
    refine AW h rfl (fun _ h=>?_) fun _ h=>?_
    ·refine gdSkip rfl<|gdSkip rfl<|gdSkip rfl<|gdSkip rfl<|gdSkip rfl<|gdSkip rfl<|gdSkip rfl<|qkPkT rfl<|dtN ?_
     exact fM (true) () h SF rfl
    refine gyMove rfl<|gyMove rfl<|gyMove rfl<|ckE h fun j17 h=>aN rfl (aX rfl rfl (aC.fact 0 rfl) rfl rfl j17) rfl ?_
    refine aN rfl (BY (i:=1) rfl rfl rfl rfl rfl (by decide)) rfl ?_
    refine aN rfl (pY rfl (aC.fact 0 rfl) rfl rfl rfl MX j17) rfl<|aN rfl (rZ rfl rfl) rfl<|qkPkF rfl<|dtN ?_
    exact fM (decide (((at' p0 a6).2)<(at' p1 a6))) () h SF rfl
   intro a12 b13 h
   refine z_ h rfl (fun _ h=>?_) fun _ h=>?_
   ·refine sqR<|qkAsg rfl<|dtN<|aR<|bL<|aI<|aI<|bL<|aI ?_
    cases h
    exact kH rfl
   refine dD<|inT<|aK<|qkAdd rfl<|qkMove rfl<|dtN ?_
   exact xV (wI .i64 (a6+(1:Int))) () h SF rfl
  refine eZ ?_
  exact fM () (()) h SF rfl
 intro a2 b3 h
 unfold s_ at h
 refine sqR<|qkAsg rfl<|dtN<|aR ?_
 cases h
 exact kH rfl
end
section
def rF  (a2:Unit):Option (Bool):=
 some (true)
def oI (U:Nat) (p0:eV) (p1:aY) (a6:Int) (ag5:(Int)->Option (Bool)):Option (Bool):=
 if a6<(List.length p0:Int)then(ck (0<=a6∧a6<(List.length p0:Int)) (ck (0<=a6∧a6<(List.length p1:Int)) (Option.bind (uO U (at' p0 a6) (at' p1 a6)) fun r12=>(if(!r12)=true then(some (false))else(ag5 (wI .i64 (a6+(1:Int))))))))else(rF  (()))
def sZ (U:Nat) (p0:eV) (p1:aY):Option (Bool):=
 if(List.length p1:Int)≠(List.length p0:Int)then(some (false))else(bE (oI U p0 p1) U (0:Int))
theorem XP:aQ Tryz.prog 73:=Tryz.call73
theorem FN (U:Nat) {p0:eV} {p1:aY} (v0:Value)  (z1:mB)  (v2:Value)  (z3:pW) (r:Bool) (h:sZ U p0 p1=some r):
  aS Tryz.prog 73 #[v0,v2] [S2 a_ v0 z1 p0,S2 bD v2 z3 p1] (fun x:Unit=>vB (r)) (fun x l=>l) (fun _ l=>l):=by
 refine aS.of Tryz.func73 rfl Tryz.ntmps73 rfl fun c=>?_
 refine sqR<|qkAsg rfl<|dtN<|aG<|sqR<|qkMove rfl<|aB (iL rfl (aC.fact 1 rfl) rfl) rfl<|qkMove rfl<|aB (iL rfl (aC.fact 0 rfl) rfl) rfl<|qkNeq rfl<|dtN ?_
 refine eF h rfl (fun h=>?_) fun h=>?_
 ·refine sqR<|qkAsg rfl<|dtN<|aR<|aI ?_
  cases h
  exact kH rfl
 refine cJ<|aG<|midU (fun a2=>rF  a2=some r) (fun a2 b3=>[]) (fun a2 b3=>[]) ?_ ?_
 ·refine sqR<|qkMove rfl<|aB (iL rfl (aC.fact 0 rfl) rfl) rfl<|qkMove rfl<|dtN<|aO<|loopL (oI U p0 p1) (fun a6 b7=>[(1,v2),(12,v0),(13,vI (List.length p0:Int)),(14,vI (a6))]) (fun a6 b7=>[]) (0:Int) () h SF (aV.refl _) ?_
  intro k8 a6 b7 h
  refine sqR<|qkLss rfl<|dtN<|aG ?_
  refine eF h rfl (fun h=>?_) fun h=>?_
  ·refine cJ<|aG<|aO<|sqR<|qkMove rfl<|ckE h fun j10 h=>aB (cP rfl rfl (aC.fact 0 rfl) rfl rfl j10) rfl<|aB (cQ rfl (aC.fact 0 rfl) rfl rfl j10) rfl<|qkAsg rfl<|qkAsg rfl<|dtN<|sqR<|qkMove rfl<|qkMove rfl<|qkMove rfl<|ckE h fun j11 h=>aB (cP rfl rfl (aC.fact 1 rfl) rfl rfl j11) rfl<|aB (cQ rfl (aC.fact 1 rfl) rfl rfl j11) rfl<|bnE h fun r12 w13 h=>aF (aJ.callQ UY (HM U ((at' z1 a6).1) ((at' z3 a6).1) r12 w13) rfl (aD.cons (aC.el (aC.fact 0 rfl) j10.1 j10.2) (aD.cons (aC.el (aC.fact 1 rfl) j11.1 j11.2) .nil))) rfl fun x14=>aB (rK rfl) rfl<|dtN ?_
   refine z_ h rfl (fun _ h=>?_) fun _ h=>?_
   ·refine sqR<|qkAsg rfl<|dtN<|aR<|bL<|aI<|aI<|bL<|aI ?_
    cases h
    exact kH rfl
   refine dD<|inT<|aK<|qkAdd rfl<|qkMove rfl<|dtN ?_
   exact xV (wI .i64 (a6+(1:Int))) () h SF rfl
  refine eZ ?_
  exact fM () (()) h SF rfl
 intro a2 b3 h
 unfold rF at h
 refine sqR<|qkAsg rfl<|dtN<|aR ?_
 cases h
 exact kH rfl
end
section
def sO  (a7:eV):Option (eV):=
 some (a7)
def sP (a13:Int×eV) (ag12:(Int×eV)->Option (eV)) (a19:eV):Option (eV):=
 ag12 ((wI .i64 (a13.1+(1:Int))),a19)
def mF (U:Nat) (p0:Ak) (p1:cW) (a13:Int×eV) (ag12:(Int×eV)->Option (eV)) (a28:Int×eV) (ag27:(Int×eV)->Option (eV)):Option (eV):=
 if a28.1<(List.length p0.2.1:Int)then(ck (0<=a28.1∧a28.1<(List.length p0.2.1:Int)) (ck (0<=a13.1∧a13.1<(List.length a28.2:Int)) (ck (0<=a13.1∧a13.1<(List.length a28.2:Int)) (Option.bind (iI U ((((at' p0.2.1 a28.1).1),((at' p0.2.1 a28.1).2.1),((at' p0.2.1 a28.1).2.2.1),((at' p0.2.1 a28.1).2.2.2.1),((at' p0.2.1 a28.1).2.2.2.2.1),((at' p0.2.1 a28.1).2.2.2.2.2))) ((p1.1,p1.2)) a13.1) fun r40=>(ck (0<=a28.1∧a28.1<(List.length (at' a28.2 a13.1):Int)) (ck (0<=a28.1∧a28.1<(List.length (at' (List.set a28.2 (Int.toNat a13.1) (List.set (at' a28.2 a13.1) (Int.toNat a28.1) (r40.1,((at' (at' a28.2 a13.1) a28.1).2)))) a13.1):Int)) (ag27 ((wI .i64 (a28.1+(1:Int))),(List.set (List.set a28.2 (Int.toNat a13.1) (List.set (at' a28.2 a13.1) (Int.toNat a28.1) (r40.1,((at' (at' a28.2 a13.1) a28.1).2)))) (Int.toNat a13.1) (List.set (at' (List.set a28.2 (Int.toNat a13.1) (List.set (at' a28.2 a13.1) (Int.toNat a28.1) (r40.1,((at' (at' a28.2 a13.1) a28.1).2)))) a13.1) (Int.toNat a28.1) (((at' (at' (List.set a28.2 (Int.toNat a13.1) (List.set (at' a28.2 a13.1) (Int.toNat a28.1) (r40.1,((at' (at' a28.2 a13.1) a28.1).2)))) a13.1) a28.1).1),r40.2)))))))))))else(sP a13 ag12 (a28.2))
def kD (U:Nat) (p0:Ak) (p1:cW) (a13:Int×eV) (ag12:(Int×eV)->Option (eV)):Option (eV):=
 if a13.1<(List.length (List.replicate (Int.toNat (List.length p1.1:Int)) ([]:eO)):Int)then(ck (0<=(List.length p0.2.1:Int)∧(List.length p0.2.1:Int)<=1099511627) (ck (0<=a13.1∧a13.1<(List.length a13.2:Int)) (bE (mF U p0 p1 a13 ag12) U ((0:Int),(List.set a13.2 (Int.toNat a13.1) (List.replicate (Int.toNat (List.length p0.2.1:Int)) ((0:Int),(0:Int))))))))else(sO  (a13.2))
def lL (U:Nat) (p0:Ak) (p1:cW):Option (eV):=
 ck (0<=(List.length p1.1:Int)∧(List.length p1.1:Int)<=1099511627) (bE (kD U p0 p1) U ((0:Int),(List.replicate (Int.toNat (List.length p1.1:Int)) ([]:eO))))
theorem Sj:aQ Tryz.prog 74:=Tryz.call74
theorem BM (U:Nat) {p0:Ak} {p1:cW} (v0:Value)  (v1:Value)  (v2:Value)  (v3:Value)  (z4:mB) (r:eV) (h:lL U p0 p1=some r):
  aS Tryz.prog 74 #[Value.agg #[vS (p0.1),v0,v1],Value.agg #[v2,v3]] [Sl aH v0 p0.2.1,Sl aE v1 p0.2.2,PF (Value.agg #[vS p0.1,v0,v1]),Sl bD v2 p1.1,S2 a_ v3 z4 p1.2] (fun x:CP=>x.1) (fun x l=>Ar cR.raw x.1 x.2::gZ bM x.2 r::l) (fun _ l=>l):=by
 refine aS.of Tryz.func74 rfl Tryz.ntmps74 rfl fun c=>?_
 refine sqR<|aF (aJ.box (cs:=[vS (p0.1),v0,v1]) rfl rfl) rfl fun b1=>aF (aJ.box (cs:=[v2,v3]) rfl rfl) rfl fun b2=>qkAsg rfl<|dtN<|sqR<|qkFld rfl<|qkLd 0 rfl<|qkLen (aC.fact 3 rfl) rfl<|ckE h fun j3 h=>iR (wL bM (Int.toNat (List.length p1.1:Int)))<|aF (oO (e:=cR.raw) (kT) rfl rfl rfl rfl j3 rfl rfl rfl) rfl fun u4=>qkAsg rfl<|dtN<|aG<|midL (B:=f_) (fun a7=>sO  a7=some r) (fun a7 b8=>[(5,u4)]) (fun a7 b8=>[Ar cR.raw u4 b8,gZ bM b8 a7]) ?_ ?_
 ·refine sqR<|qkMove rfl<|aB (iL rfl (bA (i:=0) (j:=1) rfl rfl bG) rfl) rfl<|qkMove rfl<|dtN<|aO<|loopL (B:=f_) (kD U p0 p1) (fun a13 b14=>[(2,vP b1),(3,vP b2),(5,u4),(14,vI (List.length (List.replicate (Int.toNat (List.length p1.1:Int)) ([]:eO)):Int)),(15,vI (a13.1))]) (fun a13 b14=>[Ar cR.raw u4 b14,gZ bM b14 a13.2,bS b2 [v2,v3] 29,bS b1 [vS (p0.1),v0,v1] 36]) ((0:Int),(List.replicate (Int.toNat (List.length p1.1:Int)) ([]:eO))) (List.replicate (Int.toNat (List.length p1.1:Int)) (kT)) h SF (aV.refl _) ?_
  intro k15 a13 b14 h
  refine sqR<|qkLss rfl<|dtN<|aG ?_
  refine eF h rfl (fun h=>?_) fun h=>?_
  ·refine cJ<|aG<|midL (B:=f_) (fun a19=>sP a13 (bE (kD U p0 p1) k15) a19=some r) (fun a19 b20=>[(2,vP b1),(3,vP b2),(5,u4),(14,vI (List.length (List.replicate (Int.toNat (List.length p1.1:Int)) ([]:eO)):Int)),(15,vI (a13.1))]) (fun a19 b20=>[Ar cR.raw u4 b20,gZ bM b20 a19,bS b2 [v2,v3] 29,bS b1 [vS (p0.1),v0,v1] 36]) ?_ ?_
   ·refine aO<|sqR<|qkMove rfl<|qkAsg rfl<|dtN<|sqR<|qkMove rfl<|qkMove rfl<|qkFld rfl<|qkLd 3 rfl<|qkLen (aC.fact 0 rfl) rfl<|ckE h fun j21 h=>aF (oO (e:=bM) (((0:Int),(0:Int))) rfl rfl rfl rfl j21 rfl rfl rfl) rfl fun u22=>ckE h fun j23 h=>aB (cP rfl rfl (bA (i:=1) (j:=2) rfl rfl bG) rfl rfl j23) rfl<|bY (Know.one ((aP (aC.res 0 rfl) bG))) fun ho24=>iR (vF (k:=a13.1) 2 0 rfl rfl rfl j23) ?_
    refine oM 0 1 ⟨j23.1,by first|exact j23.2|simpa using j23.2⟩ rfl rfl rfl rfl rfl (by simp) ho24 rfl ?_
    refine dtN<|sqR<|qkFld rfl<|qkLd 3 rfl<|qkLen (aC.fact 0 rfl) rfl<|qkMove rfl<|dtN<|aO<|loopL (mF U p0 p1 a13 (bE (kD U p0 p1) k15)) (fun a28 b29=>[(2,vP b1),(3,vP b2),(5,u4),(6,vI (a13.1)),(14,vI (List.length (List.replicate (Int.toNat (List.length p1.1:Int)) ([]:eO)):Int)),(15,vI (a13.1)),(26,v0),(27,vI (List.length p0.2.1:Int)),(28,vI (a28.1))]) (fun a28 b29=>[Ar cR.raw u4 (List.set b14 (Int.toNat a13.1) u22),gZ bM (List.set b14 (Int.toNat a13.1) u22) a28.2,bS b2 [v2,v3] 29,bS b1 [vS (p0.1),v0,v1] 36]) ((0:Int),(List.set a13.2 (Int.toNat a13.1) (List.replicate (Int.toNat (List.length p0.2.1:Int)) ((0:Int),(0:Int))))) () h SF (aV.refl _) ?_
    intro k30 a28 b29 h
    refine sqR<|qkLss rfl<|dtN<|aG ?_
    refine eF h rfl (fun h=>?_) fun h=>?_
    ·refine cJ<|aG<|aO<|sqR<|qkMove rfl<|ckE h fun j32 h=>aB (aX rfl rfl (aC.fact 0 rfl) rfl rfl j32) rfl<|aB (hZ (cs:=[vS ((at' p0.2.1 a28.1).1),vI ((at' p0.2.1 a28.1).2.1),vI ((at' p0.2.1 a28.1).2.2.1),vI ((at' p0.2.1 a28.1).2.2.2.1),vI ((at' p0.2.1 a28.1).2.2.2.2.1),vI ((at' p0.2.1 a28.1).2.2.2.2.2)]) rfl (aC.fact 0 rfl) rQ rfl rfl rfl rfl j32) rfl<|aF (aJ.alloc (cs:=vD4) rfl rfl) rfl fun b33=>qkAsg rfl<|bK 0 (vs:=[vS ((at' p0.2.1 a28.1).1),vI ((at' p0.2.1 a28.1).2.1),vI ((at' p0.2.1 a28.1).2.2.1),vI ((at' p0.2.1 a28.1).2.2.2.1),vI ((at' p0.2.1 a28.1).2.2.2.2.1),vI ((at' p0.2.1 a28.1).2.2.2.2.2)]) rfl rfl rfl rfl rfl rfl<|dtN ?_
     refine JR.start [0,0,3,7,0,0,0,96,224,0,0,0,0,7168,15360,31744,31744,31,196095,458239,992,2097151,4194303] 21 mixedOrders (by decide +kernel) ?_
     refine JR.open (by exact rfl) ?_
     refine jkMove rfl<|jkMove rfl<|ckE h fun j34 h=>bX (cO 2 rfl) fun hl35=>?_
     refine bI rfl (aV.cons 1 rfl .nil) .nil (iS 0 rfl rfl rfl rfl rfl j34.1 (by have q1:=j34.2;have q2:=hl35;(try simp only[List.length_set]at q1);(try simp only[List.length_set]at q2);(try simp only[List.length_set]);omega)) aM.z ?_
     refine bX (cO 2 rfl) fun hl36=>bI rfl (aV.cons 1 rfl .nil) .nil (nU 0 rfl rfl hl36 rfl rfl j34) aM.z<|jkMove rfl<|jkMove rfl<|jkMove rfl<|ckE h fun j37 h=>bX (cO 2 rfl) fun hl38=>?_
     refine bI rfl (aV.cons 1 rfl .nil) .nil (iS 0 rfl rfl rfl rfl rfl j37.1 (by have q1:=j37.2;have q2:=hl38;(try simp only[List.length_set]at q1);(try simp only[List.length_set]at q2);(try simp only[List.length_set]);omega)) aM.z ?_
     refine bX (cO 2 rfl) fun hl39=>bI rfl (aV.cons 1 rfl .nil) .nil (nU 0 rfl rfl hl39 rfl rfl j37) aM.z<|jkMove rfl<|jkLdA 0 rfl<|jkLdA 3 rfl<|jkMove rfl<|bnE h fun r40 w41 h=>JR.loud rfl rfl rfl (aJ.callQ Oo (AY U v2 v3 z4 r40 w41) rfl (lH [3,4] rfl)) rfl (fun x42=>(m_ [([1],[]),([1],[]),([1],[]),([1],[])] rfl)) fun x42=>jqN rfl (fO rfl)<|jqN rfl (eP rfl rfl)<|jqN rfl (eP rfl rfl)<|ckE h fun j43 h=>bX (Know.len (aC.row (j:=2) rfl bG j34.1 j34.2)) fun hl44=>jqN rfl (Lc rfl rfl hl44 rfl rfl j43) ?_
     refine jqN rfl (BY (i:=0) rfl rfl rfl rfl rfl (by decide)) ?_
     refine oW rfl rfl rfl (Bm (us:=[vI (r40.1)]) (o:=0) (k:=a13.1) 2 ((r40.1,((at' (at' a28.2 a13.1) a28.1).2))) ⟨j34.1,by first|exact j34.2|simpa using j34.2⟩ j43 rfl rfl rfl rfl rfl rfl rfl rfl rfl rfl) (fun x45=>(m_ [] rfl)) fun x45=>ckE h fun j46 h=>bX (Know.len (aC.row (j:=2) rfl bG j37.1 (by first|exact j37.2|simpa using j37.2))) fun hl47=>?_
     refine jqN rfl (Lc rfl rfl hl47 rfl rfl j46)<|bH 21 rfl rfl ?_
     refine aB (BY (i:=1) rfl rfl rfl rfl rfl (by decide)) rfl ?_
     refine Oc (Bm (us:=[vI (r40.2)]) (o:=1) (k:=a13.1) 2 ((((at' (at' (List.set a28.2 (Int.toNat a13.1) (List.set (at' a28.2 a13.1) (Int.toNat a28.1) (r40.1,((at' (at' a28.2 a13.1) a28.1).2)))) a13.1) a28.1).1),r40.2)) ⟨j37.1,by first|exact j37.2|simpa using j37.2⟩ j46 rfl rfl rfl rfl rfl rfl rfl rfl rfl rfl) fun x48=>dK<|inT<|aK<|qkAdd rfl<|qkMove rfl<|dtN ?_
     exact mO ((wI .i64 (a28.1+(1:Int))),(List.set (List.set a28.2 (Int.toNat a13.1) (List.set (at' a28.2 a13.1) (Int.toNat a28.1) (r40.1,((at' (at' a28.2 a13.1) a28.1).2)))) (Int.toNat a13.1) (List.set (at' (List.set a28.2 (Int.toNat a13.1) (List.set (at' a28.2 a13.1) (Int.toNat a28.1) (r40.1,((at' (at' a28.2 a13.1) a28.1).2)))) a13.1) (Int.toNat a28.1) (((at' (at' (List.set a28.2 (Int.toNat a13.1) (List.set (at' a28.2 a13.1) (Int.toNat a28.1) (r40.1,((at' (at' a28.2 a13.1) a28.1).2)))) a13.1) a28.1).1),r40.2)))) () h SF (aV.ix [1,2,3,4] rfl rfl) (aD.refl _ _)
    refine qE<|eC<|eC<|wK<|inT ?_
    exact fM (a28.2) (List.set b14 (Int.toNat a13.1) u22) h SF rfl
   intro a19 b20 h
   unfold sP at h
   refine aK<|qkAdd rfl<|qkMove rfl<|dtN ?_
   exact xV ((wI .i64 (a13.1+(1:Int))),a19) (b20) h SF rfl
  refine eZ ?_
  exact bV (a13.2) (b14) h SF (aV.ix [0,1] rfl rfl) (aD.refl _ _)
 intro a7 b8 h
 unfold sO at h
 refine sqR<|qkMove rfl<|qkAsg rfl<|dtN<|aR ?_
 cases h
 exact gC (u4,b8) rfl rfl (RV.tmp rfl) (aV.refl _) aD.nil
end
section
def qP (U:Nat) (p0:Ak) (p1:cW) (p2:aY):Option (Int):=
 Option.bind (sA U ((p0.1,p0.2.1,p0.2.2)) ((p1.1,p1.2))) fun r3=>(if r3≠(0:Int)then(some (r3))else(Option.bind (lL U ((p0.1,p0.2.1,p0.2.2)) ((p1.1,p1.2))) fun r7=>(Option.bind (sZ U r7 p2) fun r10=>(if(!r10)=true then(some (10:Int))else(some (0:Int))))))
theorem UV:aQ Tryz.prog 101:=Tryz.call101
theorem HL (U:Nat) {p0:Ak} {p1:cW} {p2:aY} (v0:Value)  (v1:Value)  (v2:Value)  (v3:Value)  (z4:mB)  (v5:Value)  (z6:pW) (r:Int) (h:qP U p0 p1 p2=some r):
  aS Tryz.prog 101 #[Value.agg #[vS (p0.1),v0,v1],Value.agg #[v2,v3],v5] [Sl aH v0 p0.2.1,Sl aE v1 p0.2.2,PF (Value.agg #[vS p0.1,v0,v1]),Sl bD v2 p1.1,S2 a_ v3 z4 p1.2,S2 bD v5 z6 p2] (fun x:Unit=>vI (r)) (fun x l=>l) (fun _ l=>l):=by
 refine aS.of Tryz.func101 rfl Tryz.ntmps101 rfl fun c=>?_
 refine sqR<|aF (aJ.box (cs:=[vS (p0.1),v0,v1]) rfl rfl) rfl fun b1=>aF (aJ.box (cs:=[v2,v3]) rfl rfl) rfl fun b2=>qkAsg rfl<|dtN<|aG<|sqR<|qkLdA 1 rfl<|qkLdA 0 rfl<|bnE h fun r3 w4 h=>aF (aJ.callQ XO (Ij U v0 v1 v2 v3 z4 r3 w4) rfl (lH [0,1,2,3,4] rfl)) rfl fun x5=>qkAsg rfl<|dtN<|sqR<|qkMove rfl<|qkNeq rfl<|dtN ?_
 refine eF h rfl (fun h=>?_) fun h=>?_
 ·refine sqR<|qkMove rfl<|qkAsg rfl<|dtN<|aR<|aI ?_
  cases h
  exact vT rfl
 refine cJ<|aG<|sqR<|qkLdA 1 rfl<|qkLdA 0 rfl<|bnE h fun r7 w8 h=>aF (aJ.callQ Sj (BM U v0 v1 v2 v3 z4 r7 w8) rfl (lH [0,1,2,3,4] rfl)) rfl fun x9=>qkMove rfl<|bnE h fun r10 w11 h=>aF (aJ.callQ XP (FN U x9.1 (List.zip x9.2 r7) v5 z6 r10 w11) rfl (aD.cons (bA (i:=0) (j:=1) rfl rfl bG) (lH [5] rfl))) rfl fun x12=>aB (rK rfl) rfl<|dtN ?_
 refine z_ h rfl (fun _ h=>?_) fun _ h=>?_
 ·refine sqR<|qkAsg rfl<|dtN<|aR<|aI ?_
  cases h
  exact vT rfl
 refine cJ<|sqR<|qkAsg rfl<|dtN<|aR ?_
 cases h
 exact vT rfl
end
section
def uR  (a5:aY):Option aY:=
 some (a5)
def qR (p0:aY) (a11:Int×aY) (ag10:(Int×aY)->Option aY):Option aY:=
 if a11.1<(List.length p0:Int)then(ck (0<=a11.1∧a11.1<(List.length p0:Int)) (ck ((List.length ([]:aL):Int)+(List.length (at' p0 a11.1):Int)<=1099511627) (ck (0<=a11.1∧a11.1<(List.length a11.2:Int)) (ag10 ((wI .i64 (a11.1+(1:Int))),(List.set a11.2 (Int.toNat a11.1) (([]:aL)++(at' p0 a11.1))))))))else(uR  (a11.2))
def sB (U:Nat) (p0:aY):Option aY:=
 ck (0<=(List.length p0:Int)∧(List.length p0:Int)<=1099511627) (bE (qR p0) U ((0:Int),(List.replicate (Int.toNat (List.length p0:Int)) ([]:aL))))
theorem On:aQ Tryz.prog 110:=Tryz.call110
theorem CL (U:Nat) {p0:aY} (v0:Value)  (z1:pW) (r:aY) (h:sB U p0=some r):
  aS Tryz.prog 110 #[v0] [S2 bD v0 z1 p0] (fun x:CP=>x.1) (fun x l=>Ar cR.raw x.1 x.2::gZ bO x.2 r::l) (fun _ l=>l):=by
 refine aS.of Tryz.func110 rfl Tryz.ntmps110 rfl fun c=>?_
 refine sqR<|qkAsg rfl<|dtN<|sqR<|qkMove rfl<|aB (iL rfl (aC.fact 0 rfl) rfl) rfl<|ckE h fun j1 h=>iR (wL bO (Int.toNat (List.length p0:Int)))<|aF (oO (e:=cR.raw) (kT) rfl rfl rfl rfl j1 rfl rfl rfl) rfl fun u2=>qkAsg rfl<|dtN<|aG<|midL (B:=f_) (fun a5=>uR  a5=some r) (fun a5 b6=>[(3,u2)]) (fun a5 b6=>[Ar cR.raw u2 b6,gZ bO b6 a5]) ?_ ?_
 ·refine sqR<|qkMove rfl<|aB (iL rfl (aC.fact 0 rfl) rfl) rfl<|qkMove rfl<|dtN<|aO<|loopL (B:=f_) (qR p0) (fun a11 b12=>[(3,u2),(9,v0),(10,vI (List.length p0:Int)),(11,vI (a11.1))]) (fun a11 b12=>[Ar cR.raw u2 b12,gZ bO b12 a11.2]) ((0:Int),(List.replicate (Int.toNat (List.length p0:Int)) ([]:aL))) (List.replicate (Int.toNat (List.length p0:Int)) (kT)) h SF (aV.refl _) ?_
  intro k13 a11 b12 h
  refine sqR<|qkLss rfl<|dtN<|aG ?_
  refine eF h rfl (fun h=>?_) fun h=>?_
  ·refine cJ<|aG<|aO<|sqR<|qkMove rfl<|ckE h fun j15 h=>aB (cP rfl rfl (aC.fact 0 rfl) rfl rfl j15) rfl<|aB (cQ rfl (aC.fact 0 rfl) rfl rfl j15) rfl<|qkAsg rfl<|qkAsg rfl<|dtN<|aK<|qkMove rfl<|qkMove rfl<|qkMove rfl<|iR (iF bO)<|ckE h fun j17 h=>aF (fN 0 cE rfl rfl rfl (aC.el (aC.fact 0 rfl) j15.1 j15.2) rfl rfl rfl rfl j17 rfl) rfl fun u16=>ckE h fun j18 h=>aB (cP rfl rfl (bA (i:=1) (j:=2) rfl rfl cE) rfl rfl j18) rfl<|bY (Know.one ((aP (aC.res 0 rfl) cE))) fun ho19=>iR (vF (k:=a11.1) 2 0 rfl rfl rfl j18) ?_
   refine oM 0 1 ⟨j18.1,by first|exact j18.2|simpa using j18.2⟩ rfl rfl rfl rfl rfl (by simp) ho19 rfl ?_
   refine dK<|inT<|aK<|qkAdd rfl<|qkMove rfl<|dtN ?_
   exact xV ((wI .i64 (a11.1+(1:Int))),(List.set a11.2 (Int.toNat a11.1) (([]:aL)++(at' p0 a11.1)))) (List.set b12 (Int.toNat a11.1) u16) h SF rfl
  refine eZ ?_
  exact fM (a11.2) (b12) h SF rfl
 intro a5 b6 h
 unfold uR at h
 refine sqR<|qkMove rfl<|qkAsg rfl<|dtN<|aR ?_
 cases h
 exact gC (u2,b6) rfl rfl (RV.tmp rfl) (aV.refl _) aD.nil
end
end Go.Proofs.YtjlbcgddhnjcjaaGreatDoor
end
section
namespace Go.Proofs.YtjlbcgddhnjcjaaGreatDoor
open Go Go.Sx
section
abbrev zV:=ByteArray×(List Dz)×(List rX)
structure Bq (g:GR) (vars:List Dz):Prop where
 len:vars.length<=20
 small:∀x,x<vars.length->Bp (at' vars (x:Int))
 kind:∀x,x<vars.length->(at' vars (x:Int)).2.1=1∨(at' vars (x:Int)).2.1=2∨(at' vars (x:Int)).2.1=3
 range:∀x,x<vars.length->(at' vars (x:Int)).2.1=1 -> -100000<=lo g (at' vars (x:Int)) 0∧lo g (at' vars (x:Int)) 0<=hi g (at' vars (x:Int)) 0∧hi g (at' vars (x:Int)) 0 - lo g (at' vars (x:Int)) 0+1<=4096
theorem YA {g:GR} (hV:VG g):xQ 1000 g.1=some (kL g g.1.length):=by
 have h24:=hV.n24
 have hlen:=hV.len
 have h1:=hV.n1
 have hid:0<=at' g.1 ((0:Nat):Int):=(hV.node 0 (by omega)).id.1
 unfold xQ
 rw[if_neg (by omega),cN (by omega)]
 have:=dJ (step:=sG g.1) (K:=some (kL g g.1.length)) (g.1.length - 1) (fun k=>(kL g (k+1),((k+1:Nat):Int))) (fun k ag hk=>by
  unfold sG
  dsimp only
  rw[if_pos (by omega),cN (by omega),eB (by omega)];rfl) (fun ag=>by
  unfold sG wF
  dsimp only
  rw[if_neg (by omega),show g.1.length - 1+1=g.1.length by omega]) 1000 (by omega)
 have e:kL g (0+1)=at' g.1 (0:Int):=by
  show max (kL g 0) (at' g.1 ((0:Nat):Int))=_
  simp only[kL]
  have:at' g.1 ((0:Nat):Int)=at' g.1 (0:Int):=rfl
  omega
 rw[e]at this
 exact this
theorem ID {g:GR} (hV:VG g) {x:Dz} (hs:Bp x) (hk:x.2.1=1∨x.2.1=2∨x.2.1=3) {v:Nat} (hv:v<g.2.length):iI 1000 x g (v:Int)=some (lo g x v,hi g x v):=by
 obtain⟨⟨s1,s2⟩,⟨s3,s4⟩,s5,s6⟩:=hs
 have h24:=hV.n24
 have hlen:=hV.len
 have hm:=Hp hV g.1.length (by omega)
 have p1:0<=x.2.2.2.2.1*(g.1.length:Int):=Int.mul_nonneg s3 (by omega)
 have p2:x.2.2.2.2.1*(g.1.length:Int)<=100000*24:=Int.mul_le_mul s4 (by omega) (by omega) (by omega)
 have p3:0<=x.2.2.2.2.2*kL g g.1.length:=Int.mul_nonneg s5 hm.1
 have p4:x.2.2.2.2.2*kL g g.1.length<=100000*255:=Int.mul_le_mul s6 hm.2 hm.1 (by omega)
 have b1:mV 1000 x g (v:Int)=some (x.2.2.1,x.2.2.2.1+x.2.2.2.2.1*(g.2.length:Int)+x.2.2.2.2.2*kL g g.1.length):=by
  unfold mV
  rw[bB (YA hV),wr (x:=x.2.2.2.2.1*_) (by omega) (by omega),wr (x:=x.2.2.2.2.2*_) (by omega) (by omega),wr (x:=x.2.2.2.1+_) (by omega) (by omega),wr (by omega) (by omega),hlen]
 have b3:mW 1000 x g (v:Int)=some (-1,((row g v).length:Int) - 1):=by
  have hdeg:=(hV.node v hv).deg
  unfold mW
  rw[cN (by omega)]
  show some ((-1:Int),wI .i64 (((row g v).length:Int) - 1))=_
  rw[wr (by omega) (by omega)]
 have it:∀(f:Nat) (a:Int),bE (dN 1000 x g (v:Int)) (f+1) a=dN 1000 x g (v:Int) a (bE (dN 1000 x g (v:Int)) f):=fun f a=>rfl
 have st:∀(f:Nat) (a:Int),a=0∨a=1∨a=2->bE (dN 1000 x g (v:Int)) (f+1) a=if a=0 then(if 1=x.2.1 then mV 1000 x g (v:Int)else bE (dN 1000 x g (v:Int)) f 1)else if a=1 then(if 2=x.2.1 then pZ 1000 x g (v:Int)else bE (dN 1000 x g (v:Int)) f 2)else(if 3=x.2.1 then mW 1000 x g (v:Int)else bE (dN 1000 x g (v:Int)) f 3):=by
  intro f a ha
  rw[it]
  generalize bE (dN 1000 x g (v:Int)) f=G
  unfold dN kX
  rcases ha with rfl|rfl|rfl
  ·rw[if_pos (by decide),cN (by decide),if_pos rfl,if_pos rfl]
   split
   ·rw[b1];rfl
   ·rfl
  ·rw[if_pos (by decide),cN (by decide),if_neg (show¬(1:Int)=0 by decide),if_pos rfl,if_neg (show¬(1:Int)=0 by decide),if_pos rfl]
   split
   ·rfl
   ·rfl
  ·rw[if_pos (by decide),cN (by decide),if_neg (show¬(2:Int)=0 by decide),if_neg (show¬(2:Int)=1 by decide),if_neg (show¬(2:Int)=0 by decide),if_neg (show¬(2:Int)=1 by decide)]
   split
   ·rw[b3];rfl
   ·rfl
 unfold iI lo hi
 rcases hk with h|h|h
 ·rw[st 999 0 (.inl rfl),if_pos rfl,if_pos h.symm,b1,h,if_neg (by decide),if_neg (by decide),if_neg (by decide),if_neg (by decide)]
 ·rw[st 999 0 (.inl rfl),if_pos rfl,if_neg (by omega),st 998 1 (.inr (.inl rfl)),if_neg (by decide),if_pos rfl,if_pos h.symm,h,if_pos rfl,if_pos rfl];rfl
 ·rw[st 999 0 (.inl rfl),if_pos rfl,if_neg (by omega),st 998 1 (.inr (.inl rfl)),if_neg (by decide),if_pos rfl,if_neg (by omega),st 997 2 (.inr (.inr rfl)),if_neg (by decide),if_neg (by decide),if_pos h.symm,b3,h,if_neg (by decide),if_pos rfl,if_neg (by decide),if_pos rfl]

def GM (g:GR) (vars:List Dz) (v x:Nat):dL:=(lo g (at' vars (x:Int)) v,hi g (at' vars (x:Int)) v)
def Cu (g:GR) (vars:List Dz) (v:Nat):eO:=(List.range vars.length).map (GM g vars v)
def AR (g:GR) (vars:List Dz):eV:=(List.range g.2.length).map (Cu g vars)
theorem yA {α:Type} [Inhabited α] (f:Nat->α) {n k:Nat} (h:k<n):at' ((List.range n).map f) (k:Int)=f k:=by
 rw[kC (by simpa using h)];simp
theorem wA {α:Type} (f:Nat->α) (z:α) (n k:Nat) (h:k<n):((List.range k).map f++List.replicate (n - k) z).set k (f k)=(List.range (k+1)).map f++List.replicate (n - (k+1)) z:=by
 rw[show n - k=(n - (k+1))+1 by omega,List.replicate_succ,List.set_append_right _ _ (by simp),List.range_succ]
 simp
theorem Mk {g:GR} (hV:VG g) {p:zV} (hp:Bq g p.2.1):lL 1000 p g=some (AR g p.2.1):=by
 have h24:=hV.n24
 have hlen:=hV.len
 have hvl:=hp.len
 let vars:=p.2.1
 let Q:Nat->eV:=fun k=>(List.range k).map (Cu g vars)++List.replicate (g.2.length - k) []
 have hQl:∀k,k<=g.2.length->(Q k).length=g.2.length:=fun k hk=>by simp[Q];omega
 let R:Nat->Nat->eO:=fun k j=>(List.range j).map (GM g vars k)++List.replicate (vars.length - j) (0,0)
 have hRl:∀k j,j<=vars.length->(R k j).length=vars.length:=fun k j hj=>by simp[R];omega
 unfold lL
 rw[cN (by omega)]
 rw[show List.replicate (Int.toNat (g.1.length:Int)) ([]:eO)=Q 0 by simp[Q,hlen]]
 refine dJ (step:=kD 1000 p g) (K:=some (AR g vars)) g.2.length (fun k=>((k:Int),Q k)) (fun k ag hk=> ?_) (fun ag=> ?_) 1000 (by omega)
 ·unfold kD
  dsimp only
  rw[if_pos (by simp;omega),cN (by omega),cN (by rw[hQl k (by omega)];omega)]
  refine Eq.trans (?_:_=bE (mF 1000 p g ((k:Int),Q k) ag) 1000 ((0:Int),(Q k).set k (R k 0))) ?_
  ·rw[Int.toNat_natCast,Int.toNat_natCast];simp[R,vars]
  refine dJ (step:=mF 1000 p g ((k:Int),Q k) ag) (K:=ag (((k+1:Nat):Int),Q (k+1))) vars.length (fun j=>((j:Int),(Q k).set k (R k j))) (fun j ag2 hj=> ?_) (fun ag2=> ?_) 1000 (by show p.2.1.length<1000;omega)
  ·have hj':j<p.2.1.length:=hj
   have hb:=ID hV (hp.small j hj) (hp.kind j hj) hk
   have hq:k<(Q k).length:=by rw[hQl k (by omega)];exact hk
   have a1:∀X:eO,at' ((Q k).set k X) (k:Int)=X:=fun X=>by rw[vH _ _ _ _ hq,if_pos rfl]
   have hRj:j<(R k j).length:=by rw[hRl k j (by omega)];exact hj
   unfold mF
   dsimp only
   rw[if_pos (by omega),cN (by omega),cN (by simp only[List.length_set];omega),cN (by simp only[List.length_set];omega),bB (show iI 1000 _ g (k:Int)=_ from hb),Int.toNat_natCast,Int.toNat_natCast]
   simp only[a1,List.set_set]
   rw[cN (by omega),cN (by simp only[List.length_set];omega),eB (by omega)]
   have:(R k j).set j (lo g (at' p.2.1 (j:Int)) k,hi g (at' p.2.1 (j:Int)) k)=R k (j+1):=wA (GM g vars k) (0,0) vars.length j hj
   rw[vH _ _ _ _ hRj,if_pos rfl]
   dsimp only
   rw[this]
  ·unfold mF sP
   dsimp only
   rw[if_neg (show¬((vars.length:Nat):Int)<(p.2.1.length:Int)from Int.lt_irrefl _),eB (by omega)]
   have e1:R k vars.length=Cu g vars k:=by simp[R,Cu]
   have e2:(Q k).set k (Cu g vars k)=Q (k+1):=wA (Cu g vars) [] g.2.length k hk
   rw[e1,e2]
 ·unfold kD sO
  dsimp only
  rw[if_neg (by simp;omega)]
  simp[Q,AR]
theorem VS {g:GR} (hV:VG g) {p:zV} (hp:Bq g p.2.1):sA 1000 p g=some 0:=by
 have h1:=hV.n1
 have hvl:=hp.len
 unfold sA
 rw[bB (show zK 1000 _=some true from rfl),if_neg (by decide),bB (show dH 1000 g=some true from(Cp g).1 hV),if_neg (by decide)]
 refine dJ (step:=lD 1000 p g) (K:=some 0) p.2.1.length (fun k=>(k:Int)) (fun k ag hk=> ?_) (fun ag=> ?_) 1000 (by omega)
 ·unfold lD nZ uE nZ
  rw[if_pos (by omega),cN (by omega),eB (by omega)]
  by_cases hk1:(at' p.2.1 (k:Int)).2.1=1
  ·obtain⟨r1,r2,r3⟩:=hp.range k hk hk1
   have hb:=ID hV (hp.small k hk) (hp.kind k hk) (v:=0) (by omega)
   rw[if_neg (by simpa using hk1),bB (show iI 1000 _ g (0:Int)=_ from hb)]
   dsimp only
   rw[if_neg (by omega),wr (x:=hi g (at' p.2.1 (k:Int)) 0 - lo g (at' p.2.1 (k:Int)) 0) (by omega) (by omega),wr (by omega) (by omega),if_neg (by rw[decide_eq_true_eq];omega)]
  ·rw[if_pos hk1]
 ·unfold lD uD
  rw[if_neg (by omega)]

theorem TX {g:GR} {vars:List Dz} (hl:vars.length<=20) {v:Nat} {l:aL} (h1:l.length=vars.length) (h2:∀x,x<vars.length->lo g (at' vars (x:Int)) v<=at' l (x:Int)∧at' l (x:Int)<=hi g (at' vars (x:Int)) v):uO 1000 (Cu g vars v) l=some true:=by
 have hr:(Cu g vars v).length=vars.length:=by simp[Cu]
 unfold uO
 rw[if_neg (by rw[hr,h1];simp)]
 refine dJ (step:=mK (Cu g vars v) l) (K:=some true) l.length (fun k=>(k:Int)) (fun k ag hk=> ?_) (fun ag=> ?_) 1000 (by omega)
 ·have hc:at' (Cu g vars v) (k:Int)=GM g vars v k:=yA _ (by omega)
  have:=h2 k (by omega)
  unfold mK tA
  rw[if_pos (by omega),cN (by omega),cN (by omega),hc]
  rw[if_neg (show¬at' l (k:Int)<(GM g vars v k).1 from Int.not_lt.2 this.1),cN (by omega),if_neg (by rw[decide_eq_true_eq];exact Int.not_lt.2 this.2),eB (by omega)]
 ·unfold mK s_
  rw[if_neg (by omega)]
theorem Sr {g:GR} (hV:VG g) {p:zV} (hp:Bq g p.2.1) {c:aY} (hc:KP g c p.2.1):qP 1000 p g c=some 0:=by
 have h24:=hV.n24
 have ht:(AR g p.2.1).length=g.2.length:=by simp[AR]
 have hcl:=hc.len
 unfold qP
 rw[bB (show sA 1000 _ _=some 0 from VS hV hp),if_neg (by decide),bB (show lL 1000 _ _=_ from Mk hV hp)]
 have:sZ 1000 (AR g p.2.1) c=some true:=by
  unfold sZ
  rw[if_neg (by rw[ht,hcl];simp)]
  refine dJ (step:=oI 1000 (AR g p.2.1) c) (K:=some true) g.2.length (fun k=>(k:Int)) (fun k ag hk=> ?_) (fun ag=> ?_) 1000 (by omega)
  ·have hr:at' (AR g p.2.1) (k:Int)=Cu g p.2.1 k:=yA _ hk
   unfold oI
   rw[if_pos (by omega),cN (by omega),cN (by omega),hr,bB (TX hp.len (hc.row k hk) (hc.ok k hk)),if_neg (by decide),eB (by omega)]
  ·unfold oI rF
   rw[if_neg (by omega)]
 rw[bB this,if_neg (by decide)]
theorem OC (c:aY) (h:c.length<=900) (hr:∀v,v<c.length->(at' c (v:Int)).length<=1000):sB 1000 c=some c:=by
 unfold sB
 rw[cN (by omega)]
 let Q:Nat->aY:=fun k=>(List.range k).map (fun v:Nat=>at' c (v:Int))++List.replicate (c.length - k) []
 rw[show List.replicate (Int.toNat (c.length:Int)) ([]:aL)=Q 0 by simp[Q]]
 refine dJ (step:=qR c) (K:=some c) c.length (fun k=>((k:Int),Q k)) (fun k ag hk=> ?_) (fun ag=> ?_) 1000 (by omega)
 ·have hQ:(Q k).length=c.length:=by simp[Q];omega
  have:=hr k hk
  unfold qR
  dsimp only
  rw[if_pos (by omega),cN (by omega),cN (by simp;omega),cN (by omega),eB (by omega),Int.toNat_natCast,List.nil_append]
  have:(Q k).set k (at' c (k:Int))=Q (k+1):=wA (fun v:Nat=>at' c (v:Int)) [] c.length k hk
  rw[this]
 ·unfold qR uR
  dsimp only
  rw[if_neg (by omega)]
  congr 1
  refine List.ext_getElem (by simp[Q]) fun i h1 h2=> ?_
  simp[Q,kC h2]
end
section
def sat (x:Int):Int:=max (-1073741824) (min x 1073741824)
def unD (o x:Int):Int:=if o=18 then wI .i64 (0 - x)else JG (decide (x=0))
def Wn (a b:Int):Int:=if b=0 then 0 else if Int.tmod a b≠0∧((decide (a<0)) != (decide (b<0)))=true then wI .i64 (wI .i64 (Int.tdiv a b) - 1)else wI .i64 (Int.tdiv a b)
def Ya (o x y:Int):Bool:=if o=35 then decide (x=y)else if o=36 then decide (x≠y)else if o=37 then decide (x<y)else if o=38 then decide (x<=y)else if o=39 then decide (y<x)else decide (y<=x)
def biD (o x y:Int):Int:=
 if o=30 then sat (wI .i64 (x*y))else if o=31 then sat (Wn x y)else if o=32 then(if y=0 then 0 else sat (wI .i64 (x - wI .i64 (y*Wn x y))))else if o=33 then sat (wI .i64 (x+y))else if o=34 then sat (wI .i64 (x - y))
 else if o=41 then JG (decide (x≠0)&&decide (y≠0))else if o=42 then JG (decide (x≠0)||decide (y≠0))else JG (Ya o x y)
theorem Ub (f:Nat) (o x:Int):xP f o x=some (unD o x):=by
 unfold xP unD
 split
 ·rfl
 ·rw[bB (sI f _)]
theorem TO (f:Nat) (a b:Int):pF f a b=some (Wn a b):=by
 unfold pF Wn
 by_cases hb:b=0
 ·rw[if_pos hb,if_pos hb]
 ·rw[if_neg hb,if_neg hb,cN hb,cN hb]
  by_cases h1:Int.tmod a b=0
  ·rw[if_neg (by simpa using h1),if_neg (by simp[h1])];rfl
  ·rw[if_pos h1]
   unfold rB oB
   by_cases h2:((decide (a<0)) != (decide (b<0)))=true
   ·rw[if_pos h2,if_pos ⟨h1,h2⟩]
   ·rw[if_neg h2,if_neg (fun q=>h2 q.2)]
theorem Yb (f:Nat) (o x y:Int):sY f o x y=some (Ya o x y):=by
 unfold sY Ya
 repeat' split
 all_goals rfl
theorem PW (f:Nat) (o x y:Int):v_ f o x y=some (biD o x y):=by
 unfold v_ biD
 by_cases h:o=30
 ·rw[if_pos h,if_pos h];rfl
 rw[if_neg h,if_neg h]
 by_cases h:o=31
 ·rw[if_pos h,if_pos h,bB (TO f x y)];rfl
 rw[if_neg h,if_neg h]
 by_cases h:o=32
 ·rw[if_pos h,if_pos h]
  by_cases hy:y=0
  ·rw[if_pos hy,if_pos hy]
  ·rw[if_neg hy,if_neg hy,bB (TO f x y)];rfl
 rw[if_neg h,if_neg h]
 by_cases h:o=33
 ·rw[if_pos h,if_pos h];rfl
 rw[if_neg h,if_neg h]
 by_cases h:o=34
 ·rw[if_pos h,if_pos h];rfl
 rw[if_neg h,if_neg h]
 by_cases h:o=41
 ·rw[if_pos h,if_pos h]
  by_cases hx:x=0
  ·rw[if_neg (by simpa using hx),bB (sI f _)];simp[hx,n_]
  ·rw[if_pos hx,bB (sI f _)];simp[hx,n_]
 rw[if_neg h,if_neg h]
 by_cases h:o=42
 ·rw[if_pos h,if_pos h]
  by_cases hx:x=0
  ·rw[if_neg (by simpa using hx),bB (sI f _)];simp[hx,oA]
  ·rw[if_pos hx,bB (sI f _)];simp[hx,oA]
 rw[if_neg h,if_neg h,bB (Yb f o x y),bB (sI f _)]
def E.den (L:Int->Int->Int->Int) (deg:Nat):E->Int->Int
 |lf o a,p=>L o a p
 |un o x,p=>unD o (x.den L deg p)
 |ag o x,_=>OJ o ((List.range deg).map fun q=>x.den L deg ((q:Nat):Int))
 |bi o x y,p=>biD o (x.den L deg p) (y.den L deg p)
 |ite x y z,p=>if x.den L deg p≠0 then y.den L deg p else z.den L deg p
def E.wf (nv:Nat):Bool->E->Bool
 |b,lf o a=>decide (1<=o)&&decide (o<=17)&&(b||decide (o<=10))&&((decide (o≠5)&&decide (o≠12))||(decide (0<=a)&&decide (a<(nv:Int))))
 |b,un o x=>decide (18<=o)&&decide (o<=19)&&x.wf nv b
 |_,ag o x=>(decide (o=20)||decide (o=21)||decide (o=22)||decide (o=23)||decide (o=24)||decide (o=26)||decide (o=27))&&x.wf nv true
 |b,bi o x y=>decide (30<=o)&&decide (o<=42)&&x.wf nv b&&y.wf nv b
 |b,ite x y z=>x.wf nv b&&y.wf nv b&&z.wf nv b
theorem Uy {nv:Nat}:∀{e:E} {b:Bool},e.wf nv b=true->e.arOk=true:=by
 intro e
 induction e with
 |lf o a=>intro b h;simp[E.wf,E.arOk]at h ⊢;omega
 |un o x ih=>intro b h;simp[E.wf,E.arOk]at h ⊢;exact⟨h.1,ih h.2⟩
 |ag o x ih=>intro b h;simp[E.wf,E.arOk]at h ⊢;exact⟨by omega,ih h.2⟩
 |bi o x y ihx ihy=>intro b h;simp[E.wf,E.arOk]at h ⊢;exact⟨⟨h.1.1,ihx h.1.2⟩,ihy h.2⟩
 |ite x y z ihx ihy ihz=>intro b h;simp[E.wf,E.arOk]at h ⊢;exact⟨⟨ihx h.1.1,ihy h.1.2⟩,ihz h.2⟩
def Tz (W:ZI) (p:Int):Int:=(at' (at' W.1.2.1.2 W.2.2.1) p).1
def WW (W:ZI) (o a p:Int):Int:=
 if o=1 then a else if o=2 then 1 else if o=3 then 0 else if o=4 then -1 else if o=5 then at' (at' W.2.1 W.2.2.1) a else if o=12 then at' (at' W.2.1 (Tz W p)) a
 else if o=6 then(W.1.2.1.1.length:Int)else if o=7 then W.1.2.2.1 else if o=8 then at' W.1.2.1.1 W.2.2.1 else if o=9 then((at' W.1.2.1.2 W.2.2.1).length:Int)else if o=10 then JG (decide (W.2.2.1=0))else if o=11 then p
 else if o=13 then at' W.1.2.1.1 (Tz W p)else if o=14 then((at' W.1.2.1.2 (Tz W p)).length:Int)else if o=15 then JG (decide (Tz W p=0))else if o=16 then(at' (at' W.1.2.1.2 W.2.2.1) p).2 else at' (at' W.1.2.2.2 W.2.2.1) p
structure WOk (W:ZI) (nv n v:Nat):Prop where
 node:W.2.2.1=(v:Int)
 lt:v<n
 ports:W.1.2.1.2.length=n
 ids:W.1.2.1.1.length=n
 c:W.2.1.length=n
 row:∀u:Nat,u<n->(at' W.2.1 (u:Int)).length=nv
 to:∀u:Nat,u<n->∀i:Nat,i<(at' W.1.2.1.2 (u:Int)).length->0<=(at' (at' W.1.2.1.2 (u:Int)) (i:Int)).1∧(at' (at' W.1.2.1.2 (u:Int)) (i:Int)).1<(n:Int)
 bl:W.1.2.2.2.length=n
 br:∀u:Nat,u<n->(at' W.1.2.2.2 (u:Int)).length=(at' W.1.2.1.2 (u:Int)).length
def Ru (b:Bool) (deg:Nat) (p:Int):Prop:=b=true->∃q:Nat,p=(q:Int)∧q<deg
theorem Wd {W:ZI} {nv n v:Nat} (h:WOk W nv n v) (f:Nat) {b:Bool} {o a p:Int} (hw:(E.lf o a).wf nv b=true) (hp:Ru b (at' W.1.2.1.2 (v:Int)).length p):kJ f W (o,a) p=some (WW W o a p):=by
 obtain⟨hv,hlt,h1,h2,h3,h4,h5,h8,h9⟩:=h
 simp only[E.wf,Bool.and_eq_true,Bool.or_eq_true,decide_eq_true_eq]at hw
 obtain⟨⟨⟨w1,w2⟩,w3⟩,w4⟩:=hw
 have hvr:(at' W.2.1 (v:Int)).length=nv:=h4 v hlt
 unfold kJ WW Tz
 dsimp only
 rw[hv]
 by_cases e:o=1
 ·simp only[if_pos e]
 simp only[if_neg e]
 by_cases e:o=2
 ·simp only[if_pos e]
 simp only[if_neg e]
 by_cases e:o=3
 ·simp only[if_pos e]
 simp only[if_neg e]
 by_cases e:o=4
 ·simp only[if_pos e]
 simp only[if_neg e]
 by_cases e:o=5
 ·simp only[if_pos e]
  rw[cN (by omega),cN (by omega)]
 simp only[if_neg e]
 by_cases e:o=12
 ·have hb:b=true:=by
   rcases w3 with w3|w3
   ·exact w3
   ·omega
  obtain⟨q,rfl,hq⟩:=hp hb
  have h6:=h5 v hlt q hq
  obtain⟨u,hu⟩:∃u:Nat,(at' (at' W.1.2.1.2 (v:Int)) (q:Int)).1=(u:Int):=⟨_,(Int.toNat_of_nonneg h6.1).symm⟩
  simp only[if_pos e]
  rw[hu]at h6 ⊢
  have h7:=h4 u (by omega)
  rw[cN (by omega),cN (by omega),cN (by omega),cN (by omega)]
 simp only[if_neg e]
 unfold qM
 dsimp only
 by_cases e:o=6
 ·simp only[if_pos e];rfl
 simp only[if_neg e]
 by_cases e:o=7
 ·simp only[if_pos e];rfl
 simp only[if_neg e]
 by_cases e:o=8
 ·simp only[if_pos e]
  rw[cN (by omega)];rfl
 simp only[if_neg e]
 by_cases e:o=9
 ·simp only[if_pos e]
  rw[cN (by omega)];rfl
 simp only[if_neg e]
 by_cases e:o=10
 ·simp only[if_pos e]
  rw[bB (sI f _)];rfl
 simp only[if_neg e]
 by_cases e:o=11
 ·simp only[if_pos e];rfl
 simp only[if_neg e]
 have hb:b=true:=by
  rcases w3 with w3|w3
  ·exact w3
  ·omega
 obtain⟨q,rfl,hq⟩:=hp hb
 have h6:=h5 v hlt q hq
 rw[cN (by omega),cN (by omega)]
 by_cases e:o=13
 ·simp only[if_pos e]
  rw[cN (by omega)];rfl
 simp only[if_neg e]
 by_cases e:o=14
 ·simp only[if_pos e]
  rw[cN (by omega)];rfl
 simp only[if_neg e]
 by_cases e:o=15
 ·simp only[if_pos e]
  rw[bB (sI f _)];rfl
 simp only[if_neg e]
 by_cases e:o=16
 ·simp only[if_pos e];rfl
 simp only[if_neg e]
 have h10:=h9 v hlt
 rw[cN (by omega),cN (by omega)];rfl
theorem Uq {W:ZI} {nv n v:Nat} (h:WOk W nv n v) {deg:Nat} (hdeg:(at' W.1.2.1.2 (v:Int)).length=deg) (hd24:deg<=24) (hT9:W.2.2.2.length<=800):
  ∀(e:E) (b:Bool) (fuel k:Nat) (p:Int) (pre post:eO),W.2.2.2=pre++(e.ts++post)->pre.length=k->e.wf nv b=true->Ru b deg p->e.depth+850<=fuel->
   bJ fuel W (k:Int) p=some (e.den (WW W) deg p,(((k+e.ts.length:Nat)):Int)):=by
 obtain⟨hv,hlt,h1,h2,h3,h4,h5,_,_⟩:=id h
 have start:∀{t:dL} {l pre post:eO} {k:Nat},W.2.2.2=pre++((t::l)++post)->pre.length=k->at' W.2.2.2 (k:Int)=t∧(k:Int)<(W.2.2.2.length:Int):=by
  intro t l pre post k hT hk
  refine⟨JF (rest:=l++post) (by simpa using hT) hk,?_⟩
  rw[hT];simp;omega
 intro e
 induction e with
 |lf o a=>
  intro b fuel k p pre post hT hk hw hp hf
  obtain⟨fuel,rfl⟩:∃f,fuel=f+1:=⟨fuel - 1,by omega⟩
  obtain⟨ht,hlk⟩:=start (l:=[]) hT hk
  show cI (bJ fuel) fuel W (k:Int) p=_
  unfold cI
  rw[cN ⟨by omega,hlk⟩,ht]
  dsimp only
  have hw':=hw
  simp only[E.wf,Bool.and_eq_true,Bool.or_eq_true,decide_eq_true_eq]at hw'
  have hl:=Wd h fuel hw (hdeg▸hp)
  rw[if_pos (by omega),bB (show kJ fuel _ (o,a) p=some (WW W o a p)from hl),eB (by omega)]
  rfl
 |un o x ih=>
  intro b fuel k p pre post hT hk hw hp hf
  obtain⟨fuel,rfl⟩:∃f,fuel=f+1:=⟨fuel - 1,by omega⟩
  obtain⟨ht,hlk⟩:=start (l:=x.ts) hT hk
  show cI (bJ fuel) fuel W (k:Int) p=_
  unfold cI
  rw[cN ⟨by omega,hlk⟩,ht]
  dsimp only
  simp only[E.wf,Bool.and_eq_true,decide_eq_true_eq]at hw
  simp only[E.depth]at hf
  have hx:=ih b fuel (k+1) p (pre++[(o,0)]) post (by rw[hT];simp[E.ts]) (by simp[hk]) hw.2 hp (by omega)
  rw[if_neg (by omega),if_pos (by omega),eB (by omega),bB (show bJ fuel _ _ p=_ from hx),bB (Ub fuel _ _)]
  simp only[E.den,E.ts,List.length_cons]
  rw[show k+1+x.ts.length=k+(x.ts.length+1) by omega]
 |bi o x y ihx ihy=>
  intro b fuel k p pre post hT hk hw hp hf
  obtain⟨fuel,rfl⟩:∃f,fuel=f+1:=⟨fuel - 1,by omega⟩
  obtain⟨ht,hlk⟩:=start (l:=x.ts++y.ts) hT hk
  show cI (bJ fuel) fuel W (k:Int) p=_
  unfold cI
  rw[cN ⟨by omega,hlk⟩,ht]
  dsimp only
  simp only[E.wf,Bool.and_eq_true,decide_eq_true_eq]at hw
  simp only[E.depth]at hf
  have hx:=ihx b fuel (k+1) p (pre++[(o,0)]) (y.ts++post) (by rw[hT];simp[E.ts]) (by simp[hk]) hw.1.2 hp (by omega)
  have hy:=ihy b fuel (k+1+x.ts.length) p (pre++(o,0)::x.ts) post (by rw[hT];simp[E.ts]) (by simp[hk];omega) hw.2 hp (by omega)
  rw[if_neg (by omega),if_neg (by omega),if_neg (by omega),if_pos (by omega),eB (by omega),bB (show bJ fuel _ _ p=_ from hx),bB (show bJ fuel _ _ p=_ from hy),bB (PW fuel _ _ _)]
  simp only[E.den,E.ts,List.length_cons,List.length_append]
  rw[show k+1+x.ts.length+y.ts.length=k+(x.ts.length+y.ts.length+1) by omega]
 |ite x y z ihx ihy ihz=>
  intro b fuel k p pre post hT hk hw hp hf
  obtain⟨fuel,rfl⟩:∃f,fuel=f+1:=⟨fuel - 1,by omega⟩
  obtain⟨ht,hlk⟩:=start (l:=x.ts++(y.ts++z.ts)) hT hk
  show cI (bJ fuel) fuel W (k:Int) p=_
  unfold cI
  rw[cN ⟨by omega,hlk⟩,ht]
  dsimp only
  simp only[E.wf,Bool.and_eq_true]at hw
  simp only[E.depth]at hf
  have hx:=ihx b fuel (k+1) p (pre++[(43,0)]) (y.ts++z.ts++post) (by rw[hT];simp[E.ts]) (by simp[hk]) hw.1.1 hp (by omega)
  have hy:=ihy b fuel (k+1+x.ts.length) p (pre++(43,0)::x.ts) (z.ts++post) (by rw[hT];simp[E.ts]) (by simp[hk];omega) hw.1.2 hp (by omega)
  have hz:=ihz b fuel (k+1+x.ts.length+y.ts.length) p (pre++(43,0)::(x.ts++y.ts)) post (by rw[hT];simp[E.ts]) (by simp[hk];omega) hw.2 hp (by omega)
  rw[if_neg (by decide),if_neg (by decide),if_neg (by decide),if_neg (by decide),eB (by omega),bB (show bJ fuel _ _ p=_ from hx),bB (show bJ fuel _ _ p=_ from hy),bB (show bJ fuel _ _ p=_ from hz)]
  simp only[E.den,E.ts,List.length_cons,List.length_append]
  rw[show k+1+x.ts.length+y.ts.length+z.ts.length=k+(x.ts.length+(y.ts.length+z.ts.length)+1) by omega]
  split<;>rfl
 | ag o x ih =>
  intro b fuel k p pre post hT hk hw hp hf
  obtain⟨fuel,rfl⟩:∃f,fuel=f+1:=⟨fuel - 1,by omega⟩
  obtain⟨ht,hlk⟩:=start (l:=x.ts) hT hk
  have har:=Uy hw
  have hwx:=hw
  simp only[E.wf,Bool.and_eq_true,Bool.or_eq_true,decide_eq_true_eq]at hwx
  simp only[E.depth]at hf
  have hts:(E.ag o x).ts.length=x.ts.length+1:=rfl
  have hlen:=congrArg List.length hT
  simp only[List.length_append]at hlen
  show cI (bJ fuel) fuel W (k:Int) p=_
  unfold cI
  rw[cN ⟨by omega,hlk⟩,ht]
  dsimp only
  rw[if_neg (by omega),if_neg (by omega),if_pos (by omega),cN (by omega)]
  let D:Nat->Int:=fun q=>x.den (WW W) deg ((q:Nat):Int)
  let V:Nat->aL:=fun q=>(List.range q).map D++List.replicate (24 - q) 0
  have hVl:∀q,q<=24->(V q).length=24:=fun q hq=>by simp[V];omega
  have hset:∀q,q<24->(V q).set q (D q)=V (q+1):=fun q hq=>by
   show((List.range q).map D++List.replicate (24 - q) 0).set q (D q)=(List.range (q+1)).map D++List.replicate (24 - (q+1)) 0
   rw[show 24 - q=(24 - (q+1))+1 by omega,List.replicate_succ,List.set_append_right _ _ (by simp),List.range_succ]
   simp
  let N:Nat->Int:=fun q=>if q=0 then 0 else(((k+1+x.ts.length:Nat)):Int)
  refine Eq.trans (dJ (step:=iV fuel W (k:Int) (bJ fuel)) (K:=some ((E.ag o x).den (WW W) deg p,(((k+(E.ag o x).ts.length:Nat)):Int))) deg (fun q=>(N q,(q:Int),V q)) (fun q ag hq=> ?_) (fun ag=> ?_) fuel (by omega)) rfl
  ·unfold iV
   dsimp only
   have hx:=ih true fuel (k+1) ((q:Nat):Int) (pre++[(o,0)]) post (by rw[hT];simp[E.ts]) (by simp[hk]) hwx.2 (fun _=>⟨q,rfl,hq⟩) (by omega)
   rw[if_pos (by rw[hv,hdeg];omega),eB (by omega),bB (show bJ fuel _ _ _=_ from hx),cN ⟨by omega,hVl q (by omega)⟩,eB (by omega),Int.toNat_natCast]
   show ag (_,_,(V q).set q (D q))=_
   rw[hset q (by omega)]
   simp only[N]
   rw[if_neg (by omega)]
  ·unfold iV
   dsimp only
   rw[if_neg (by rw[hv,hdeg];omega)]
   have hfold:List.take deg (V deg)=(List.range deg).map D:=by
    show List.take deg ((List.range deg).map D++_)=_
    exact List.take_left' (by simp)
   have fin:∀y:Int,y=(((k+1+x.ts.length:Nat)):Int)->iU fuel W (k:Int) (N deg,V deg) y=some ((E.ag o x).den (WW W) deg p,(((k+(E.ag o x).ts.length:Nat)):Int)):=by
    rintro y rfl
    unfold iU
    dsimp only
    rw[hv,hdeg,cN ⟨by omega,by omega,by rw[hVl deg hd24];omega⟩,ht,Int.toNat_natCast,hfold,bB (VT fuel o _ (by omega) (by simp;omega) (by omega))]
    unfold lU
    rw[hts,show k+1+x.ts.length=k+(x.ts.length+1) by omega]
    rfl
   unfold pU
   dsimp only
   by_cases h0:deg=0
   ·rw[if_pos (by rw[hv,hdeg];omega),bB (Yh fuel (E.ag o x) har hT hk hT9 (by omega))]
    exact fin _ (by rw[hts];omega)
   ·rw[if_neg (by rw[hv,hdeg];omega)]
    exact fin _ (by simp only[N];rw[if_neg h0])
end
end Go.Proofs.YtjlbcgddhnjcjaaGreatDoor
end
section
namespace Go.Proofs.YtjlbcgddhnjcjaaGreatDoor
open Go.Sx
section
def eT (U:Nat) (p0:QL) (p1:aY) (p2:Int) (p3:eO):Option (Int):=
 Option.bind (bJ U ((((((p0.1.1,p0.1.2.1,p0.1.2.2)),((p0.2.1.1,p0.2.1.2)),p0.2.2.1,p0.2.2.2)),p1,p2,p3)) (0:Int) (-1:Int)) fun r6=>(some (r6.1))
theorem Ov:aQ Tryz.prog 191:=Tryz.call191
theorem vC (U:Nat) {p0:QL} {p1:aY} {p2:Int} {p3:eO} (bx0:Nat)  (v1:Value)  (v2:Value)  (v3:Value)  (v4:Value)  (z5:mB)  (v6:Value)  (z7:pW)  (v8:Value)  (z9:pW)  (v10:Value) (r:Int) (h:eT U p0 p1 p2 p3=some r):
  aS Tryz.prog 191 #[vP bx0,v8,vI (p2),v10] [bS bx0 [vS (p0.1.1),v1,v2,v3,v4,vI (p0.2.2.1),v6] 218,Sl aH v1 p0.1.2.1,Sl aE v2 p0.1.2.2,Sl bD v3 p0.2.1.1,S2 a_ v4 z5 p0.2.1.2,S2 bD v6 z7 p0.2.2.2,S2 bD v8 z9 p1,Sl a_ v10 p3] (fun x:Unit=>vI (r)) (fun x l=>l) (fun _ l=>l):=by
 refine aS.of Tryz.func191 rfl Tryz.ntmps191 rfl fun c=>?_
 refine sqR<|qkAsg rfl<|dtN<|sqR<|qkMove rfl<|qkMove rfl<|qkMove rfl<|qkMove rfl<|bY (Know.one (aC.sl (aC.fact 6 rfl))) fun ho1=>bY (Know.one ((aC.fact 7 rfl))) fun ho2=>?_
 refine aB (Xv (r:=Value.agg #[Value.pointer (some ⟨bx0,0,none⟩),v8,vI (p2),v10]) rfl rfl rfl rfl (by intro w;simp[Instr.build,Instr.fill,eG,dR,cT,eH,eI,dU,fP,kA ho1,kA ho2])) rfl ?_
 refine aF (aJ.alloc (cs:=[Value.pointer none,kT,vI (0:Int),kT]) rfl rfl) rfl fun b3=>bY (Know.one (aC.sl (aC.fact 6 rfl))) fun ho4=>bY (Know.one ((aC.fact 7 rfl))) fun ho5=>bK 0 (vs:=[vP bx0,v8,vI (p2),v10]) rfl rfl (cK rfl (cK ho4 (cK rfl (cK ho5 rfl)))) rfl rfl rfl<|dtN<|sqR<|bnE h fun r6 w7 h=>aF (aJ.callQ yU (BJ U b3 bx0 v1 v2 v3 v4 z5 v6 z7 v8 z9 v10 r6 w7) rfl (aD.cons (aC.res 0 rfl) (lH [0,1,2,3,4,5,6,7] rfl))) rfl fun x8=>qkMove rfl<|qkExt rfl<|qkExt rfl<|qkAsg rfl<|qkAsg rfl<|dtN<|sqR<|qkMove rfl<|qkAsg rfl<|dtN<|aR ?_
 cases h
 exact vT rfl
end
section
def i_ (U:Nat) (p0:QL) (p1:aY) (p2:Int) (p3:Int):Option (Bool):=
 ck (0<=p3∧p3<(List.length p0.1.2.2:Int)) (Option.bind (eT U ((((p0.1.1,p0.1.2.1,p0.1.2.2)),((p0.2.1.1,p0.2.1.2)),p0.2.2.1,p0.2.2.2)) p1 p2 ((at' p0.1.2.2 p3).2.1.2)) fun r2=>(some (decide (r2≠(0:Int)))))
theorem Vl:aQ Tryz.prog 158:=Tryz.call158
theorem Bg (U:Nat) {p0:QL} {p1:aY} {p2:Int} {p3:Int} (bx0:Nat)  (v1:Value)  (v2:Value)  (v3:Value)  (v4:Value)  (z5:mB)  (v6:Value)  (z7:pW)  (v8:Value)  (z9:pW) (r:Bool) (h:i_ U p0 p1 p2 p3=some r):
  aS Tryz.prog 158 #[vP bx0,v8,vI (p2),vI (p3)] [bS bx0 [vS (p0.1.1),v1,v2,v3,v4,vI (p0.2.2.1),v6] 218,Sl aH v1 p0.1.2.1,Sl aE v2 p0.1.2.2,Sl bD v3 p0.2.1.1,S2 a_ v4 z5 p0.2.1.2,S2 bD v6 z7 p0.2.2.2,S2 bD v8 z9 p1] (fun x:Unit=>vB (r)) (fun x l=>l) (fun _ l=>l):=by
 refine aS.of Tryz.func158 rfl Tryz.ntmps158 rfl fun c=>?_
 refine sqR<|qkAsg rfl<|dtN<|sqR<|qkMove rfl<|qkMove rfl<|qkMove rfl<|qkMove rfl<|aB (bP rfl) rfl<|qkFld rfl<|qkFld rfl<|aB (c_ rfl (aC.fact 0 rfl) rfl rfl rfl) rfl<|qkMove rfl<|ckE h fun j1 h=>aB (aX rfl rfl (aC.fact 2 rfl) rfl rfl j1) rfl<|aB (nT rfl rfl rfl rfl rfl) rfl<|aB (pY rfl (aC.fact 2 rfl) rfl rfl rfl xJ j1) rfl<|bnE h fun r2 w3 h=>aF (aJ.callQ Ov (vC U bx0 v1 v2 v3 v4 z5 v6 z7 v8 z9 ((at' p0.1.2.2 p3).2.1.1) r2 w3) rfl (aD.cons (aC.fact 0 rfl) (aD.cons (aC.fact 1 rfl) (aD.cons (aC.fact 2 rfl) (aD.cons (aC.fact 3 rfl) (aD.cons (aC.fact 4 rfl) (aD.cons (aC.fact 5 rfl) (aD.cons (aC.fact 6 rfl) (aD.cons (tQ (aC.fact 2 rfl) xL j1.1 j1.2) .nil))))))))) rfl fun x4=>qkNeq rfl<|qkAsg rfl<|dtN<|aR ?_
 cases h
 exact kH rfl
end
section
def lW  (a1:Unit):Option (Int):=
 some (-1:Int)
def iX (U:Nat) (p0:Fe) (p1:aY) (p2:Int) (a5:Int) (ag4:(Int)->Option (Int)):Option (Int):=
 if a5<(List.length p0.1.2.2:Int)then(Option.bind (i_ U ((((p0.2.1.1.1,p0.2.1.1.2.1,p0.2.1.1.2.2)),((p0.2.1.2.1.1,p0.2.1.2.1.2)),p0.2.1.2.2.1,p0.2.1.2.2.2)) p1 p2 a5) fun r9=>(if r9=true then(some (a5))else(ag4 (wI .i64 (a5+(1:Int))))))else(lW  (()))
def dV (U:Nat) (p0:Fe) (p1:aY) (p2:Int):Option (Int):=
 bE (iX U p0 p1 p2) U (0:Int)
theorem Oq:aQ Tryz.prog 116:=Tryz.call116
theorem wR (U:Nat) {p0:Fe} {p1:aY} {p2:Int} (bx0:Nat)  (v1:Value)  (v2:Value)  (bx3:Nat)  (v4:Value)  (v5:Value)  (v6:Value)  (v7:Value)  (z8:mB)  (v9:Value)  (z10:pW)  (v11:Value)  (z12:mB)  (v13:Value)  (z14:pW) (r:Int) (h:dV U p0 p1 p2=some r):
  aS Tryz.prog 116 #[vP bx0,v13,vI (p2)] [bS bx0 [vS (p0.1.1),v1,v2,vP bx3,v11] 170,Sl aH v1 p0.1.2.1,Sl aE v2 p0.1.2.2,bS bx3 [vS (p0.2.1.1.1),v4,v5,v6,v7,vI (p0.2.1.2.2.1),v9] 218,Sl aH v4 p0.2.1.1.2.1,Sl aE v5 p0.2.1.1.2.2,Sl bD v6 p0.2.1.2.1.1,S2 a_ v7 z8 p0.2.1.2.1.2,S2 bD v9 z10 p0.2.1.2.2.2,S2 a_ v11 z12 p0.2.2,S2 bD v13 z14 p1] (fun x:Unit=>vI (r)) (fun x l=>l) (fun _ l=>l):=by
 refine aS.of Tryz.func116 rfl Tryz.ntmps116 rfl fun c=>?_
 unfold dV at h
 refine sqR<|qkAsg rfl<|dtN<|aG<|midU (fun a1=>lW  a1=some r) (fun a1 b2=>[]) (fun a1 b2=>[]) ?_ ?_
 ·refine sqR<|qkMove rfl<|aB (bP rfl) rfl<|qkFld rfl<|qkFld rfl<|aB (c_ rfl (aC.fact 0 rfl) rfl rfl rfl) rfl<|qkLen (aC.fact 2 rfl) rfl<|qkMove rfl<|dtN<|aO<|loopL (iX U p0 p1 p2) (fun a5 b6=>[(0,vP bx0),(1,v13),(2,vI (p2)),(13,vI (List.length p0.1.2.2:Int)),(14,vI (a5))]) (fun a5 b6=>[]) (0:Int) () h SF (aV.refl _) ?_
  intro k7 a5 b6 h
  refine sqR<|qkLss rfl<|dtN<|aG ?_
  refine eF h rfl (fun h=>?_) fun h=>?_
  ·refine cJ<|aG<|aO<|sqR<|qkMove rfl<|qkAsg rfl<|dtN<|sqR<|qkMove rfl<|aB (bP rfl) rfl<|qkFld rfl<|aB (c_ rfl (aC.fact 0 rfl) rfl rfl rfl) rfl<|qkMove rfl<|qkMove rfl<|qkMove rfl<|bnE h fun r9 w10 h=>aF (aJ.callQ Vl (Bg U bx3 v4 v5 v6 v7 z8 v9 z10 v13 z14 r9 w10) rfl (lH [3,4,5,6,7,8,10] rfl)) rfl fun x11=>dtN ?_
   refine z_ h rfl (fun _ h=>?_) fun _ h=>?_
   ·refine sqR<|qkMove rfl<|qkAsg rfl<|dtN<|aR<|bL<|aI<|aI<|bL<|aI ?_
    cases h
    exact kH rfl
   refine dD<|inT<|aK<|qkAdd rfl<|qkMove rfl<|dtN ?_
   exact xV (wI .i64 (a5+(1:Int))) () h SF rfl
  refine eZ ?_
  exact fM () (()) h SF rfl
 intro a1 b2 h
 unfold lW at h
 refine sqR<|qkAsg rfl<|dtN<|aR ?_
 cases h
 exact kH rfl
end
section
def sN (p0:Int) (p1:dL) (p2:Int) (a3:Bool):Option (Int):=
 if a3=true then(some (p2))else(if p0=(3:Int)then(some (-1:Int))else(if p2<p1.1 then(some (p1.1))else(some (p1.2))))
def uL (U:Nat) (p0:Int) (p1:dL) (p2:Int):Option (Int):=
 if p1.1<=p2 then(sN p0 p1 p2 (decide (p2<=p1.2)))else(sN p0 p1 p2 (false))
theorem XQ:aQ Tryz.prog 77:=Tryz.call77
theorem HE (U:Nat) {p0:Int} {p1:dL} {p2:Int} (r:Int) (h:uL U p0 p1 p2=some r):
  aS Tryz.prog 77 #[vI (p0),Value.agg #[vI (p1.1),vI (p1.2)],vI (p2)] [] (fun x:Unit=>vI (r)) (fun x l=>l) (fun _ l=>l):=by
 refine aS.of Tryz.func77 rfl Tryz.ntmps77 rfl fun c=>?_
 refine sqR<|aF (aJ.box (cs:=[vI (p1.1),vI (p1.2)]) rfl rfl) rfl fun b1=>qkAsg rfl<|dtN<|aG<|aO<|aG<|midU (fun a3=>sN p0 p1 p2 a3=some r) (fun a3 b4=>[(0,vI (p0)),(2,vI (p2)),(4,vP b1),(7,vB (a3))]) (fun a3 b4=>[bS b1 [vI (p1.1),vI (p1.2)] 114]) ?_ ?_
 ·refine aK<|qkMove rfl ?_
  refine aB (nD (i:=0) rfl rfl rfl rfl rfl (by decide)) rfl ?_
  refine qkLd 0 rfl<|aB (Bt rfl rfl) rfl<|qkMove rfl ?_
  refine AW h rfl (fun _ h=>?_) fun _ h=>?_
  ·refine gyMove rfl ?_
   refine aN rfl (nD (i:=1) rfl rfl rfl rfl rfl (by decide)) rfl ?_
   refine aN rfl (eX 0 rfl rfl rfl rfl rfl) rfl<|aN rfl (zX rfl rfl) rfl<|qkPkT rfl<|qkAsg rfl<|dtN ?_
   exact fM (decide (p2<=p1.2)) () h SF rfl
  refine gdSkip rfl<|gdSkip rfl<|gdSkip rfl<|gdSkip rfl<|qkPkF rfl<|qkAsg rfl<|dtN ?_
  exact fM (false) () h SF rfl
 intro a3 b4 h
 refine z_ h rfl (fun _ h=>?_) fun _ h=>?_
 ·refine sqR<|qkMove rfl<|qkAsg rfl<|dtN<|aR<|bL<|aI ?_
  cases h
  exact vT rfl
 refine sqR<|qkMove rfl<|qkEql rfl<|qkAsg rfl<|dtN ?_
 refine eF h rfl (fun h=>?_) fun h=>?_
 ·refine sqR<|qkAsg rfl<|dtN<|aR<|bL<|aI ?_
  cases h
  exact vT rfl
 refine sqR<|qkMove rfl ?_
 refine aB (nD (i:=0) rfl rfl rfl rfl rfl (by decide)) rfl ?_
 refine qkLd 0 rfl<|qkLss rfl<|qkAsg rfl<|dtN ?_
 refine eF h rfl (fun h=>?_) fun h=>?_
 ·refine sqR ?_
  refine aB (nD (i:=0) rfl rfl rfl rfl rfl (by decide)) rfl ?_
  refine qkLd 0 rfl<|qkAsg rfl<|dtN<|aR<|bL<|aI ?_
  cases h
  exact vT rfl
 refine dD<|inT<|sqR ?_
 refine aB (nD (i:=1) rfl rfl rfl rfl rfl (by decide)) rfl ?_
 refine qkLd 0 rfl<|qkAsg rfl<|dtN<|aR ?_
 cases h
 exact vT rfl
end
section
def lV  (a5:aL):Option aL:=
 some (a5)
def iW (U:Nat) (p0:Fe) (p1:aY) (p2:Int) (p3:Int) (a11:oJ) (ag10:sJ->Option aL):Option aL:=
 if a11.1<(List.length ((at' p0.1.2.2 p3).2.2.2):Int)then(ck (0<=a11.1∧a11.1<(List.length ((at' p0.1.2.2 p3).2.2.2):Int)) (Option.bind (eT U ((((p0.2.1.1.1,p0.2.1.1.2.1,p0.2.1.1.2.2)),((p0.2.1.2.1.1,p0.2.1.2.1.2)),p0.2.1.2.2.1,p0.2.1.2.2.2)) p1 p2 ((at' ((at' p0.1.2.2 p3).2.2.2) a11.1).2.2)) fun r18=>(ck (0<=((at' ((at' p0.1.2.2 p3).2.2.2) a11.1).1)∧((at' ((at' p0.1.2.2 p3).2.2.2) a11.1).1)<(List.length p0.1.2.1:Int)) (ck (0<=p2∧p2<(List.length p0.2.2:Int)) (ck (0<=((at' ((at' p0.1.2.2 p3).2.2.2) a11.1).1)∧((at' ((at' p0.1.2.2 p3).2.2.2) a11.1).1)<(List.length (at' p0.2.2 p2):Int)) (Option.bind (uL U ((at' p0.1.2.1 ((at' ((at' p0.1.2.2 p3).2.2.2) a11.1).1)).2.1) ((((at' (at' p0.2.2 p2) ((at' ((at' p0.1.2.2 p3).2.2.2) a11.1).1)).1),((at' (at' p0.2.2 p2) ((at' ((at' p0.1.2.2 p3).2.2.2) a11.1).1)).2))) r18) fun r24=>(ck (0<=((at' ((at' p0.1.2.2 p3).2.2.2) a11.1).1)∧((at' ((at' p0.1.2.2 p3).2.2.2) a11.1).1)<(List.length a11.2:Int)) (ag10 ((wI .i64 (a11.1+(1:Int))),(List.set a11.2 (Int.toNat ((at' ((at' p0.1.2.2 p3).2.2.2) a11.1).1)) r24))))))))))else(lV  (a11.2))
def jS (U:Nat) (p0:Fe) (p1:aY) (p2:Int) (p3:Int):Option aL:=
 ck (0<=p2∧p2<(List.length p1:Int)) (ck ((List.length ([]:aL):Int)+(List.length (at' p1 p2):Int)<=1099511627) (ck (0<=p3∧p3<(List.length p0.1.2.2:Int)) (bE (iW U p0 p1 p2 p3) U ((0:Int),(([]:aL)++(at' p1 p2))))))
theorem Vn:aQ Tryz.prog 186:=Tryz.call186
theorem BK (U:Nat) {p0:Fe} {p1:aY} {p2:Int} {p3:Int} (bx0:Nat)  (v1:Value)  (v2:Value)  (bx3:Nat)  (v4:Value)  (v5:Value)  (v6:Value)  (v7:Value)  (z8:mB)  (v9:Value)  (z10:pW)  (v11:Value)  (z12:mB)  (v13:Value)  (z14:pW) (r:aL) (h:jS U p0 p1 p2 p3=some r):
  aS Tryz.prog 186 #[vP bx0,v13,vI (p2),vI (p3)] [bS bx0 [vS (p0.1.1),v1,v2,vP bx3,v11] 170,Sl aH v1 p0.1.2.1,Sl aE v2 p0.1.2.2,bS bx3 [vS (p0.2.1.1.1),v4,v5,v6,v7,vI (p0.2.1.2.2.1),v9] 218,Sl aH v4 p0.2.1.1.2.1,Sl aE v5 p0.2.1.1.2.2,Sl bD v6 p0.2.1.2.1.1,S2 a_ v7 z8 p0.2.1.2.1.2,S2 bD v9 z10 p0.2.1.2.2.2,S2 a_ v11 z12 p0.2.2,S2 bD v13 z14 p1] (fun x:Value=>x) (fun x l=>Ar bO x r::l) (fun _ l=>l):=by
 refine aS.of Tryz.func186 rfl Tryz.ntmps186 rfl fun c=>?_
 refine sqR<|qkAsg rfl<|dtN<|sqR<|qkMove rfl<|qkMove rfl<|ckE h fun j1 h=>aB (cP rfl rfl (aC.fact 10 rfl) rfl rfl j1) rfl<|aB (cQ rfl (aC.fact 10 rfl) rfl rfl j1) rfl<|iR (iF bO)<|ckE h fun j3 h=>aF (fN 0 cE rfl rfl rfl (aC.el (aC.fact 10 rfl) j1.1 j1.2) rfl rfl rfl rfl j3 rfl) rfl fun u2=>qkAsg rfl<|dtN<|aG<|midU (fun a5=>lV  a5=some r) (fun a5 b6=>[(9,u2)]) (fun a5 b6=>[Ar bO u2 a5]) ?_ ?_
 ·refine sqR<|qkMove rfl<|aB (bP rfl) rfl<|qkFld rfl<|qkFld rfl<|aB (c_ rfl (aC.fact 0 rfl) rfl rfl rfl) rfl<|qkMove rfl<|ckE h fun j7 h=>aB (aX rfl rfl (aC.fact 2 rfl) rfl rfl j7) rfl<|aB (nT rfl rfl rfl rfl rfl) rfl<|aB (pY rfl (aC.fact 2 rfl) rfl rfl rfl xK j7) rfl<|aB (fI rfl (tQ (aC.fact 2 rfl) eW j7.1 j7.2) rfl) rfl<|qkMove rfl<|dtN<|aO<|loopL (iW U p0 p1 p2 p3) (fun a11 b12=>[(0,vP bx0),(1,v13),(2,vI (p2)),(9,u2),(26,(at' p0.1.2.2 p3).2.2.1),(27,vI (List.length ((at' p0.1.2.2 p3).2.2.2):Int)),(28,vI (a11.1))]) (fun a11 b12=>[Ar bO u2 a11.2]) ((0:Int),(([]:aL)++(at' p1 p2))) () h SF (aV.refl _) ?_
  intro k13 a11 b12 h
  refine sqR<|qkLss rfl<|dtN<|aG ?_
  refine eF h rfl (fun h=>?_) fun h=>?_
  ·refine cJ<|aG<|aO<|sqR<|ckE h fun j15 h=>aB (aX rfl rfl (tQ (aC.fact 2 rfl) eW j7.1 j7.2) rfl rfl j15) rfl<|aB (Na (cs:=[vI ((at' ((at' p0.1.2.2 p3).2.2.2) a11.1).1),(at' ((at' p0.1.2.2 p3).2.2.2) a11.1).2.1]) rfl (tQ (aC.fact 2 rfl) eW j7.1 j7.2) Ia rfl rfl rfl rfl j15) rfl<|aF (aJ.alloc (cs:=[vI (0:Int),kT]) rfl rfl) rfl fun b16=>bY (Know.one ((tQ (tQ (aC.fact 2 rfl) eW j7.1 j7.2) AV j15.1 j15.2))) fun ho17=>bK 0 (vs:=[vI ((at' ((at' p0.1.2.2 p3).2.2.2) a11.1).1),(at' ((at' p0.1.2.2 p3).2.2.2) a11.1).2.1]) rfl rfl (cK rfl (cK ho17 rfl)) rfl rfl rfl<|dtN<|aG ?_
   refine JR.start [0,1,3,7,0,0,0,64,255,511] 8 mixedOrders (by decide +kernel) ?_
   refine JR.open (by exact rfl) ?_
   refine jkMove rfl<|jqN rfl (bP rfl)<|jkFld rfl<|bI rfl .nil (oK 0 rfl) (c_ rfl (aC.fact 0 rfl) rfl rfl rfl) aM.z<|jkMove rfl<|jkMove rfl<|jkFld rfl<|jkLd 0 rfl<|bH 8 rfl rfl<|bnE h fun r18 w19 h=>aF (aJ.callQ Ov (vC U bx3 v4 v5 v6 v7 z8 v9 z10 v13 z14 ((at' ((at' p0.1.2.2 p3).2.2.2) a11.1).2.1) r18 w19) rfl (aD.cons (aC.fact 3 rfl) (aD.cons (aC.fact 4 rfl) (aD.cons (aC.fact 5 rfl) (aD.cons (aC.fact 6 rfl) (aD.cons (aC.fact 7 rfl) (aD.cons (aC.fact 8 rfl) (aD.cons (aC.fact 10 rfl) (aD.cons (tQ (tQ (aC.fact 2 rfl) eW j7.1 j7.2) AV j15.1 j15.2) .nil))))))))) rfl fun x20=>qkAsg rfl<|dtN ?_
   refine JR.start [0,0,2,0,8,24,56,120,0,256,1016,2040,4088,0,8192,24576,57344,0,253952,516096,0,1048576,4186112,8380416,0,33554424,67108863,134217727] 26 mixedOrders (by decide +kernel) ?_
   refine JR.open (by exact rfl) ?_
   refine jkMove rfl<|jkFld rfl<|jkLd 0 rfl<|jkMove rfl<|jqN rfl (bP rfl)<|jkFld rfl<|jkFld rfl<|bI rfl .nil (oK 0 rfl) (c_ rfl (aC.fact 0 rfl) rfl rfl rfl) aM.z<|jkFld rfl<|jkLd 0 rfl<|ckE h fun j21 h=>bI rfl .nil (oK 1 rfl) (aX rfl rfl (aC.fact 0 rfl) rfl rfl j21) aM.z<|jqN rfl (nT rfl rfl rfl rfl rfl)<|bI rfl .nil (oK 1 rfl) (pY rfl (aC.fact 0 rfl) rfl rfl rfl u_ j21) aM.z<|jkMove rfl<|jqN rfl (bP rfl)<|jkFld rfl<|bI rfl .nil (oK 0 rfl) (c_ rfl (aC.fact 0 rfl) rfl rfl rfl) aM.z<|jkMove rfl<|ckE h fun j22 h=>bI rfl .nil (oK 9 rfl) (cP rfl rfl (aC.fact 0 rfl) rfl rfl j22) aM.z<|bI rfl .nil (oK 9 rfl) (cQ rfl (aC.fact 0 rfl) rfl rfl j22) aM.z<|jkFld rfl<|jkLd 0 rfl<|ckE h fun j23 h=>bI rfl .nil (oK 9 rfl) (aX rfl rfl (aC.el (aC.fact 0 rfl) j22.1 j22.2) rfl rfl j23) aM.z<|bI rfl .nil (oK 9 rfl) (hZ (cs:=[vI ((at' (at' p0.2.2 p2) ((at' ((at' p0.1.2.2 p3).2.2.2) a11.1).1)).1),vI ((at' (at' p0.2.2 p2) ((at' ((at' p0.1.2.2 p3).2.2.2) a11.1).1)).2)]) rfl (aC.el (aC.fact 0 rfl) j22.1 j22.2) bG rfl rfl rfl rfl j23) aM.z<|jkMove rfl<|bnE h fun r24 w25 h=>JR.loud rfl rfl rfl (aJ.callQ XQ (HE U  r24 w25) rfl .nil) rfl (fun x26=>(m_ [([0],[])] rfl)) fun x26=>bH 26 rfl rfl<|ckE h fun j27 h=>aB (aX rfl rfl (aP (aC.res 1 rfl) cE) rfl rfl j27) rfl<|uA 1 r24 j27 rfl rfl rfl rfl rfl rfl rfl<|dK<|inT<|aK<|qkAdd rfl<|qkMove rfl<|dtN ?_
   exact mO ((wI .i64 (a11.1+(1:Int))),(List.set a11.2 (Int.toNat ((at' ((at' p0.1.2.2 p3).2.2.2) a11.1).1)) r24)) () h SF (aV.ix [1] rfl rfl) (aD.refl _ _)
  refine eZ ?_
  exact fM (a11.2) () h SF rfl
 intro a5 b6 h
 unfold lV at h
 refine sqR<|qkMove rfl<|qkAsg rfl<|dtN<|aR ?_
 cases h
 exact gC (u2) rfl rfl (RV.tmp rfl) (aV.refl _) aD.nil
end
section
def lX  (a6:aY):Option aY:=
 some (a6)
def iY (a12:Int×aY) (ag11:(Int×aY)->Option aY) (a18:aY):Option aY:=
 ag11 ((wI .i64 (a12.1+(1:Int))),a18)
def fX (U:Nat) (p0:Fe) (p1:aY) (p2:Int) (a12:Int×aY) (ag11:(Int×aY)->Option aY):Option aY:=
 if a12.1<(List.length p1:Int)then(ck (0<=a12.1) (if(cY .u32 (qA .u32 p2 a12.1) (1:Int))=(1:Int)then(Option.bind (dV U ((((p0.1.1,p0.1.2.1,p0.1.2.2)),((((p0.2.1.1.1,p0.2.1.1.2.1,p0.2.1.1.2.2)),((p0.2.1.2.1.1,p0.2.1.2.1.2)),p0.2.1.2.2.1,p0.2.1.2.2.2)),p0.2.2)) p1 a12.1) fun r22=>(Option.bind (jS U ((((p0.1.1,p0.1.2.1,p0.1.2.2)),((((p0.2.1.1.1,p0.2.1.1.2.1,p0.2.1.1.2.2)),((p0.2.1.2.1.1,p0.2.1.2.1.2)),p0.2.1.2.2.1,p0.2.1.2.2.2)),p0.2.2)) p1 a12.1 r22) fun r25=>(ck (0<=a12.1∧a12.1<(List.length a12.2:Int)) (iY a12 ag11 (List.set a12.2 (Int.toNat a12.1) r25)))))else(iY a12 ag11 (a12.2))))else(lX  (a12.2))
def gS (U:Nat) (p0:Fe) (p1:aY) (p2:Int):Option aY:=
 Option.bind (sB U p1) fun r1=>(bE (fX U p0 p1 p2) U ((0:Int),r1))
theorem Vf:aQ Tryz.prog 150:=Tryz.call150
theorem BL (U:Nat) {p0:Fe} {p1:aY} {p2:Int} (bx0:Nat)  (v1:Value)  (v2:Value)  (bx3:Nat)  (v4:Value)  (v5:Value)  (v6:Value)  (v7:Value)  (z8:mB)  (v9:Value)  (z10:pW)  (v11:Value)  (z12:mB)  (v13:Value)  (z14:pW) (r:aY) (h:gS U p0 p1 p2=some r):
  aS Tryz.prog 150 #[vP bx0,v13,vU (p2)] [bS bx0 [vS (p0.1.1),v1,v2,vP bx3,v11] 170,Sl aH v1 p0.1.2.1,Sl aE v2 p0.1.2.2,bS bx3 [vS (p0.2.1.1.1),v4,v5,v6,v7,vI (p0.2.1.2.2.1),v9] 218,Sl aH v4 p0.2.1.1.2.1,Sl aE v5 p0.2.1.1.2.2,Sl bD v6 p0.2.1.2.1.1,S2 a_ v7 z8 p0.2.1.2.1.2,S2 bD v9 z10 p0.2.1.2.2.2,S2 a_ v11 z12 p0.2.2,S2 bD v13 z14 p1] (fun x:CP=>x.1) (fun x l=>Ar cR.raw x.1 x.2::gZ bO x.2 r::l) (fun _ l=>l):=by
 refine aS.of Tryz.func150 rfl Tryz.ntmps150 rfl fun c=>?_
 refine sqR<|qkAsg rfl<|dtN<|sqR<|qkMove rfl<|bnE h fun r1 w2 h=>aF (aJ.callQ On (CL U v13 z14 r1 w2) rfl (lH [10] rfl)) rfl fun x3=>qkAsg rfl<|dtN<|aG<|midL (B:=f_) (fun a6=>lX  a6=some r) (fun a6 b7=>[(7,x3.1)]) (fun a6 b7=>[Ar cR.raw x3.1 b7,gZ bO b7 a6]) ?_ ?_
 ·refine sqR<|qkMove rfl<|aB (iL rfl (aC.fact 10 rfl) rfl) rfl<|qkMove rfl<|dtN<|aO<|loopL (B:=f_) (fX U p0 p1 p2) (fun a12 b13=>[(0,vP bx0),(1,v13),(2,vU (p2)),(7,x3.1),(12,vI (List.length p1:Int)),(13,vI (a12.1))]) (fun a12 b13=>[Ar cR.raw x3.1 b13,gZ bO b13 a12.2]) ((0:Int),r1) (x3.2) h SF (aV.refl _) ?_
  intro k14 a12 b13 h
  refine sqR<|qkLss rfl<|dtN<|aG ?_
  refine eF h rfl (fun h=>?_) fun h=>?_
  ·refine cJ<|aG<|midL (B:=f_) (fun a18=>iY a12 (bE (fX U p0 p1 p2) k14) a18=some r) (fun a18 b19=>[(0,vP bx0),(1,v13),(2,vU (p2)),(7,x3.1),(12,vI (List.length p1:Int)),(13,vI (a12.1))]) (fun a18 b19=>[Ar cR.raw x3.1 b19,gZ bO b19 a18]) ?_ ?_
   ·refine aO<|sqR<|qkMove rfl<|qkAsg rfl<|dtN<|sqR<|qkMove rfl<|qkMove rfl<|ckE h fun j20 h=>aB (DF rfl rfl j20) rfl<|qkAnd rfl<|qkEql rfl<|dtN ?_
    refine eF h rfl (fun h=>?_) fun h=>?_
    ·refine aK<|qkMove rfl<|qkMove rfl<|qkMove rfl<|qkMove rfl<|qkMove rfl<|qkMove rfl<|qkMove rfl<|qkMove rfl<|bnE h fun r22 w23 h=>aF (aJ.callQ Oq (wR U bx0 v1 v2 bx3 v4 v5 v6 v7 z8 v9 z10 v11 z12 v13 z14 r22 w23) rfl (lH [0,1,2,3,4,5,6,7,8,9,10] rfl)) rfl fun x24=>bnE h fun r25 w26 h=>aF (aJ.callQ Vn (BK U bx0 v1 v2 bx3 v4 v5 v6 v7 z8 v9 z10 v11 z12 v13 z14 r25 w26) rfl (lH [0,1,2,3,4,5,6,7,8,9,10] rfl)) rfl fun x27=>ckE h fun j28 h=>aB (cP rfl rfl (bA (i:=1) (j:=2) rfl rfl cE) rfl rfl j28) rfl<|bY (Know.one ((aP (aC.res 0 rfl) cE))) fun ho29=>iR (vF (k:=a12.1) 2 0 rfl rfl rfl j28) ?_
     refine oM 0 1 ⟨j28.1,by first|exact j28.2|simpa using j28.2⟩ rfl rfl rfl rfl rfl (by simp) ho29 rfl ?_
     refine dK<|inT ?_
     exact fM (List.set a12.2 (Int.toNat a12.1) r25) (List.set b13 (Int.toNat a12.1) x27) h SF rfl
    refine dD<|inT ?_
    exact fM (a12.2) (b13) h SF rfl
   intro a18 b19 h
   unfold iY at h
   refine aK<|qkAdd rfl<|qkMove rfl<|dtN ?_
   exact xV ((wI .i64 (a12.1+(1:Int))),a18) (b19) h SF rfl
  refine eZ ?_
  exact fM (a12.2) (b13) h SF rfl
 intro a6 b7 h
 unfold lX at h
 refine sqR<|qkMove rfl<|qkAsg rfl<|dtN<|aR ?_
 cases h
 exact gC (x3.1,b7) rfl rfl (RV.tmp rfl) (aV.refl _) aD.nil
end
section
def wG  (a2:Int):Option (Int):=
 some (a2)
def sH (a7:dL) (ag6:eK->Option (Int)) (a12:Int):Option (Int):=
 ag6 (a12,(wI .i64 (a7.2+(1:Int))))
def pR (p0:Int) (g1:Int->Option Bool) (a7:dL) (ag6:eK->Option (Int)):Option (Int):=
 if a7.2<p0 then(Option.bind (g1 a7.2) fun r14=>(if r14=true then(ck (0<=a7.2) (sH a7 ag6 (EC .u32 a7.1 (uX .u32 (1:Int) a7.2))))else(sH a7 ag6 (a7.1))))else(wG  (a7.1))
def xR (U:Nat) (p0:Int) (g1:Int->Option Bool):Option (Int):=
 bE (pR p0 g1) U ((0:Int),(0:Int))
theorem UZ:aQ Tryz.prog 114:=Tryz.call114
theorem Kp (U:Nat) {p0:Int} {g1:Int->Option Bool} (f1:FuncId) (cs1:f_) (Lf:List aU) (hb_g1:aQ Tryz.prog f1) (hm_g1:∀(y0:Int) (r:Bool),g1 y0=some r->aS Tryz.prog f1 ([vI (y0)]++cs1).toArray Lf (fun _:Unit=>vB (r)) (fun _ l=>l) (fun _ l=>l)) (r:Int) (h:xR U p0 g1=some r):
  aS Tryz.prog 114 #[vI (p0),Value.func (.func f1) #[] (cs1).toArray] ([]++Lf) (fun x:Unit=>vU (r)) (fun x l=>l) (fun _ l=>l):=by
 refine aS.of Tryz.func114 rfl Tryz.ntmps114 rfl fun c=>?_
 unfold xR at h
 refine sqR<|qkAsg rfl<|dtN<|sqR<|qkAsg rfl<|dtN<|aG<|tI (B:=Unit) (fun a2=>wG  a2=some r) (fun a2 b3=>[(5,vU (a2))]) (fun a2 b3=>[]) (fun a2 b3=>([]++Lf)) ?_ ?_
 ·refine sqR<|qkMove rfl<|qkMove rfl<|dtN<|aO<|Ap (B:=Unit) (pR p0 g1) (fun a7 b8=>[(1,Value.func (.func f1) #[] (cs1).toArray),(5,vU (a7.1)),(7,vI (p0)),(8,vI (a7.2))]) (fun a7 b8=>[]) (fun a7 b8=>([]++Lf)) ((0:Int),(0:Int)) () h SF (aV.refl _) (aD.refl _ _) ?_
  intro k9 a7 b8 h
  refine sqR<|qkLss rfl<|dtN<|aG ?_
  refine eF h rfl (fun h=>?_) fun h=>?_
  ·refine cJ<|aG<|tI (B:=Unit) (fun a12=>sH a7 (bE (pR p0 g1) k9) a12=some r) (fun a12 b13=>[(1,Value.func (.func f1) #[] (cs1).toArray),(5,vU (a12)),(7,vI (p0)),(8,vI (a7.2))]) (fun a12 b13=>[]) (fun a12 b13=>([]++Lf)) ?_ ?_
   ·refine aO<|sqR<|qkMove rfl<|qkAsg rfl<|dtN<|sqR<|qkMove rfl<|qkMove rfl<|bnE h fun r14 w15 h=>aF (qG (vs:=[vI (a7.2)]) (cs:=cs1) hb_g1 rfl (hm_g1 a7.2 r14 w15) rfl (aD.tail _) (fun _ _=>rfl)) rfl fun x16=>dtN ?_
    refine z_ h rfl (fun _ h=>?_) fun _ h=>?_
    ·refine aK<|qkMove rfl<|qkMove rfl<|ckE h fun j18 h=>aB (DD rfl rfl j18) rfl<|aB (Lg rfl rfl) rfl<|qkAsg rfl<|dK<|inT ?_
     exact fM (EC .u32 a7.1 (uX .u32 (1:Int) a7.2)) () h SF rfl
    refine dD<|inT ?_
    exact fM (a7.1) () h SF rfl
   intro a12 b13 h
   unfold sH at h
   refine aK<|qkAdd rfl<|qkMove rfl<|dtN ?_
   exact xV (a12,(wI .i64 (a7.2+(1:Int)))) () h SF rfl
  refine eZ ?_
  exact fM (a7.1) () h SF rfl
 intro a2 b3 h
 unfold wG at h
 refine sqR<|qkMove rfl<|qkAsg rfl<|dtN<|aR ?_
 cases h
 exact kH rfl
end
section
def iO (U:Nat) (p0:Int) (p1:Fe) (p2:aY):Option (Bool):=
 Option.bind (dV U ((((p1.1.1,p1.1.2.1,p1.1.2.2)),((((p1.2.1.1.1,p1.2.1.1.2.1,p1.2.1.1.2.2)),((p1.2.1.2.1.1,p1.2.1.2.1.2)),p1.2.1.2.2.1,p1.2.1.2.2.2)),p1.2.2)) p2 p0) fun r1=>(some (decide ((0:Int)<=r1)))
theorem U_:aQ Tryz.prog 115:=Tryz.call115
theorem yQ (U:Nat) {p0:Int} {p1:Fe} {p2:aY} (bx0:Nat)  (bx1:Nat)  (v2:Value)  (v3:Value)  (bx4:Nat)  (v5:Value)  (v6:Value)  (v7:Value)  (v8:Value)  (z9:mB)  (v10:Value)  (z11:pW)  (v12:Value)  (z13:mB)  (bx14:Nat)  (v15:Value)  (z16:pW) (r:Bool) (h:iO U p0 p1 p2=some r):
  aS Tryz.prog 115 #[vI (p0),vP bx0,vP bx14] [bS bx0 [vP bx1] 103,bS bx1 [vS (p1.1.1),v2,v3,vP bx4,v12] 170,Sl aH v2 p1.1.2.1,Sl aE v3 p1.1.2.2,bS bx4 [vS (p1.2.1.1.1),v5,v6,v7,v8,vI (p1.2.1.2.2.1),v10] 218,Sl aH v5 p1.2.1.1.2.1,Sl aE v6 p1.2.1.1.2.2,Sl bD v7 p1.2.1.2.1.1,S2 a_ v8 z9 p1.2.1.2.1.2,S2 bD v10 z11 p1.2.1.2.2.2,S2 a_ v12 z13 p1.2.2,bS bx14 [v15] 38,S2 bD v15 z16 p2] (fun x:Unit=>vB (r)) (fun x l=>l) (fun _ l=>l):=by
 refine aS.of Tryz.func115 rfl Tryz.ntmps115 rfl fun c=>?_
 refine sqR<|qkAsg rfl<|dtN<|sqR<|aB (c_ rfl (aC.fact 0 rfl) rfl rfl rfl) rfl<|aB (c_ rfl (aC.fact 11 rfl) rfl rfl rfl) rfl<|qkMove rfl<|bnE h fun r1 w2 h=>aF (aJ.callQ Oq (wR U bx1 v2 v3 bx4 v5 v6 v7 v8 z9 v10 z11 v12 z13 v15 z16 r1 w2) rfl (lH [1,2,3,4,5,6,7,8,9,10,12] rfl)) rfl fun x3=>aB (Bt rfl rfl) rfl<|qkAsg rfl<|dtN<|aR ?_
 cases h
 exact kH rfl
end
section
def dC (U:Nat) (p0:Fe) (p1:aY):Option (Int):=
 Option.bind (xR U (List.length p0.2.2:Int) (fun y0=>iO U y0 ((((p0.1.1,p0.1.2.1,p0.1.2.2)),((((p0.2.1.1.1,p0.2.1.1.2.1,p0.2.1.1.2.2)),((p0.2.1.2.1.1,p0.2.1.2.1.2)),p0.2.1.2.2.1,p0.2.1.2.2.2)),p0.2.2)) p1)) fun r4=>(some (r4))
theorem Sk:aQ Tryz.prog 80:=Tryz.call80
theorem tW (U:Nat) {p0:Fe} {p1:aY} (bx0:Nat)  (v1:Value)  (v2:Value)  (bx3:Nat)  (v4:Value)  (v5:Value)  (v6:Value)  (v7:Value)  (z8:mB)  (v9:Value)  (z10:pW)  (v11:Value)  (z12:mB)  (v13:Value)  (z14:pW) (r:Int) (h:dC U p0 p1=some r):
  aS Tryz.prog 80 #[vP bx0,v13] [bS bx0 [vS (p0.1.1),v1,v2,vP bx3,v11] 170,Sl aH v1 p0.1.2.1,Sl aE v2 p0.1.2.2,bS bx3 [vS (p0.2.1.1.1),v4,v5,v6,v7,vI (p0.2.1.2.2.1),v9] 218,Sl aH v4 p0.2.1.1.2.1,Sl aE v5 p0.2.1.1.2.2,Sl bD v6 p0.2.1.2.1.1,S2 a_ v7 z8 p0.2.1.2.1.2,S2 bD v9 z10 p0.2.1.2.2.2,S2 a_ v11 z12 p0.2.2,S2 bD v13 z14 p1] (fun x:Unit=>vU (r)) (fun x l=>l) (fun _ l=>l):=by
 refine aS.of Tryz.func80 rfl Tryz.ntmps80 rfl fun c=>?_
 refine sqR<|aF (aJ.box (cs:=[vP bx0]) rfl rfl) rfl fun b1=>bY (Know.one (aC.sl (aC.fact 10 rfl))) fun ho3=>?_
 refine aF (aJ.box (cs:=[v13]) rfl (by rw[kA ho3])) rfl fun b2=>?_
 refine qkAsg rfl<|dtN<|sqR<|qkLd 1 rfl<|aB (bP rfl) rfl<|qkFld rfl<|aB (c_ rfl (aC.fact 0 rfl) rfl rfl rfl) rfl<|aB (iL rfl (aC.fact 9 rfl) rfl) rfl<|aB (Ay (cs:=[.tmp 2,.tmp 3]) (vs:=[vP b1,vP b2]) rfl) rfl<|bnE h fun r4 w5 h=>aF (aJ.callQ UZ (Kp U 115 [vP b1,vP b2] [bS b1 [vP bx0] 103,bS bx0 [vS (p0.1.1),v1,v2,vP bx3,v11] 170,Sl aH v1 p0.1.2.1,Sl aE v2 p0.1.2.2,bS bx3 [vS (p0.2.1.1.1),v4,v5,v6,v7,vI (p0.2.1.2.2.1),v9] 218,Sl aH v4 p0.2.1.1.2.1,Sl aE v5 p0.2.1.1.2.2,Sl bD v6 p0.2.1.2.1.1,S2 a_ v7 z8 p0.2.1.2.1.2,S2 bD v9 z10 p0.2.1.2.2.2,S2 a_ v11 z12 p0.2.2,bS b2 [v13] 38,S2 bD v13 z14 p1] U_ (fun y0 r h=>yQ U b1 bx0 v1 v2 bx3 v4 v5 v6 v7 z8 v9 z10 v11 z12 b2 v13 z14 r h) r4 w5) rfl (aD.cons (aC.res 1 rfl) (aD.cons (aC.fact 0 rfl) (aD.cons (aC.fact 1 rfl) (aD.cons (aC.fact 2 rfl) (aD.cons (aC.fact 3 rfl) (aD.cons (aC.fact 4 rfl) (aD.cons (aC.fact 5 rfl) (aD.cons (aC.fact 6 rfl) (aD.cons (aC.fact 7 rfl) (aD.cons (aC.fact 8 rfl) (aD.cons (aC.fact 9 rfl) (aD.cons (aC.res 0 rfl) (lH [10] rfl)))))))))))))) rfl fun x6=>qkAsg rfl<|dtN<|aR ?_
 cases h
 exact vT rfl
end
end Go.Proofs.YtjlbcgddhnjcjaaGreatDoor
end
section
namespace Go.Proofs.YtjlbcgddhnjcjaaGreatDoor
open Go Go.Sx
section
abbrev RL:=E×List (Nat×E)
abbrev zW:=zV×GR×Int×aY
def Da (R:List RL):Ji:=R.map fun r=>(r.1.ts,r.2.map fun s=>((s.1:Int),s.2.ts))
def IM (nv:Nat) (e:E):Bool:=e.wf nv false&&decide (e.depth<=100)&&decide (e.ts.length<=800)
def xA (nv:Nat) (R:List RL):Bool:=decide (R.length<=20)&&R.all fun r=>IM nv r.1&&decide (r.2.length<=20)&&r.2.all fun s=>decide (s.1<nv)&&IM nv s.2
instance:Inhabited E:=⟨.lf 1 0⟩
def Oj (g:GR) (v i:Nat):Int:=zL (row g (iN (row g v) i).1.toNat) (v:Int)
def eL (g:GR):aY:=(List.range g.2.length).map fun v=>(List.range (row g v).length).map (Oj g v)
def vA (S:zW) (c:aY) (v:Nat) (e:E):Int:=e.den (WW (S,c,(v:Int),[])) (row S.2.1 v).length (-1)
def rO (S:zW) (R:List RL) (c:aY) (v:Nat):Int:=AF (R.map fun r=>vA S c v r.1)
def Ng (kind:Int) (b:dL) (x:Int):Int:=if b.1<=x∧x<=b.2 then x else if kind=3 then -1 else if x<b.1 then b.1 else b.2
def QI (S:zW) (vars:List Dz) (c:aY) (v:Nat) (st:aL) (s:Nat×E):aL:=st.set s.1 (Ng (at' vars (s.1:Int)).2.1 (GM S.2.1 vars v s.1) (vA S c v s.2))
def Ag (S:zW) (vars:List Dz) (R:List RL) (c:aY) (v:Nat) (i:Int):aL:=(at' R i).2.foldl (QI S vars c v) (at' c (v:Int))
def Zc (S:zW) (R:List RL) (c:aY):Nat:=j_ (fun v=>decide (0<=rO S R c v)) S.2.1.2.length
def jU (S:zW) (vars:List Dz) (R:List RL) (c:aY) (t:Nat):aY:=(List.range c.length).map fun v=>if t.testBit v=true then Ag S vars R c v (rO S R c v)else at' c (v:Int)
structure rY (g:GR) (nv:Nat) (c:aY):Prop where
 len:c.length=g.2.length
 row:∀v:Nat,v<g.2.length->(at' c (v:Int)).length=nv
theorem KP.shape {g:GR} {c:aY} {vars:List Dz} (h:KP g c vars):rY g vars.length c:=⟨h.len,h.row⟩
section
variable {S:zW} {nv:Nat} {c:List (List Int)} {v:Nat}
theorem wok (hS:S.2.2.2=eL S.2.1) (hV:VG S.2.1) (hc:rY S.2.1 nv c) (hv:v<S.2.1.2.length) (ts:List (Int×Int)):WOk (S,c,(v:Int),ts) nv S.2.1.2.length v:=by
 refine⟨rfl,hv,rfl,hV.len,hc.len,hc.row,fun u hu i hi=> ?_,by show S.2.2.2.length=_;rw[hS];simp[eL],fun u hu=>by
  show(at' S.2.2.2 (u:Int)).length=_
  rw[hS,eL,yA _ hu,List.length_map,List.length_range]⟩
 obtain⟨w,h1,h2⟩:=hV.to hu hi
 show 0<=(iN (row S.2.1 u) i).1∧(iN (row S.2.1 u) i).1<_
 rw[h2];omega
theorem Mw (hS:S.2.2.2=eL S.2.1) (hV:VG S.2.1) (hc:rY S.2.1 nv c) (hv:v<S.2.1.2.length) {e:E} (he:IM nv e=true):eT 1000 S c (v:Int) e.ts=some (vA S c v e):=by
 simp only[IM,Bool.and_eq_true,decide_eq_true_eq]at he
 have h24:=hV.n24
 have hdeg:=(hV.node v hv).deg
 unfold eT
 have:=Uq (wok hS hV hc hv e.ts) (deg:=(row S.2.1 v).length) rfl (by omega) he.2 e false 1000 0 (-1) [] [] (by simp) rfl he.1.1 (fun h=>by cases h) (by omega)
 rw[bB (show bJ 1000 _ (0:Int) (-1)=_ from this)]
 rfl
end
section
variable {p:zV} {g:GR} {gr:Int} {R:List RL} {nv:Nat} {c:List (List Int)} {v:Nat}
theorem Ea (hz:p.2.2.map wN=Da R):p.2.2.length=R.length:=by simpa [Da]using congrArg List.length hz
theorem Pf (hz:p.2.2.map wN=Da R) {i:Nat} (hi:i<R.length):wN (at' p.2.2 (i:Int))=((at' R (i:Int)).1.ts,(at' R (i:Int)).2.map fun s=>((s.1:Int),s.2.ts)):=by
 have hl:=Ea hz
 have:=congrArg (fun q=>q[i]?) hz
 simp only[Da,List.getElem?_map,List.getElem?_eq_getElem hi,List.getElem?_eq_getElem (show i<p.2.2.length by omega),Option.map_some,Option.some.injEq]at this
 rw[kC hi,kC (show i<p.2.2.length by omega)];exact this
theorem Pm (hR:xA nv R=true) {i:Nat} (hi:i<R.length):IM nv (at' R (i:Int)).1=true∧(at' R (i:Int)).2.length<=20∧∀s∈(at' R (i:Int)).2,s.1<nv∧IM nv s.2=true:=by
 simp only[xA,Bool.and_eq_true,List.all_eq_true,decide_eq_true_eq]at hR
 have:=hR.2 (at' R (i:Int)) (by rw[kC hi];exact List.getElem_mem hi)
 exact⟨this.1.1,this.1.2,fun s hs=>this.2 s hs⟩
theorem Wt (hR:xA nv R=true):R.length<=20:=by
 simp only[xA,Bool.and_eq_true,decide_eq_true_eq]at hR
 exact hR.1
theorem Td (hV:VG g) (hc:rY g nv c) (hv:v<g.2.length) (hz:p.2.2.map wN=Da R) (hR:xA nv R=true) {i:Nat} (hi:i<R.length):i_ 1000 (p,g,gr,eL g) c (v:Int) (i:Int)=some (nz (vA (p,g,gr,eL g) c v (at' R (i:Int)).1)):=by
 have hl:=Ea hz
 have e:(at' p.2.2 (i:Int)).2.1.2=(at' R (i:Int)).1.ts:=congrArg Prod.fst (Pf hz hi)
 unfold i_
 dsimp only
 rw[cN (by omega),e]
 rw[bB (show eT 1000 _ c (v:Int) _=_ from Mw (S:=(p,g,gr,eL g)) rfl hV hc hv (Pm hR hi).1)]
 rfl
theorem Pn (hV:VG g) (hc:rY g nv c) (hv:v<g.2.length) (hz:p.2.2.map wN=Da R) (hR:xA nv R=true) (tab:List (List (Int×Int))):dV 1000 (p,(p,g,gr,eL g),tab) c (v:Int)=some (rO (p,g,gr,eL g) R c v):=by
 have hl:=Ea hz
 have h20:=Wt hR
 let l:=R.map fun r=>vA (p,g,gr,eL g) c v r.1
 have hll:l.length=R.length:=by simp[l]
 have hat:∀i,i<R.length->at' l (i:Int)=vA (p,g,gr,eL g) c v (at' R (i:Int)).1:=fun i hi=>by
  rw[kC (by omega),kC hi];simp[l]
 have stp:∀(k:Nat) ag,k<R.length->iX 1000 (p,(p,g,gr,eL g),tab) c (v:Int) (k:Int) ag=if nz (at' l (k:Int))=true then some (k:Int)else ag (((k+1:Nat):Int)):=by
  intro k ag hk
  unfold iX
  dsimp only
  rw[if_pos (by omega),bB (show i_ 1000 _ c (v:Int) (k:Int)=_ from Td hV hc hv hz hR hk),hat k hk,eB (by omega)]
 unfold dV rO
 by_cases hx:∃i,i<R.length∧at' l (i:Int)≠0
 ·obtain⟨i,hi,h0⟩:=hx
  obtain⟨m,h1,h2,h3⟩:=IU (p:=fun i=>at' l (i:Int)≠0) i h0
  have h3:∀j,j<m->at' l (j:Int)=0:=fun j hj=>Decidable.not_not.1 (h3 j hj)
  rw[show AF _=(m:Int)from yX (l:=l) (by omega) h2 h3]
  exact dJ (K:=some (m:Int)) m (fun k=>(k:Int)) (fun k ag hk=>by rw[stp k ag (by omega),if_neg (by simp[nz,h3 k hk])]) (fun ag=>by rw[stp m ag (by omega),if_pos (by simpa [nz]using h2)]) 1000 (by omega)
 ·have hx:∀j,j<l.length->at' l (j:Int)=0:=fun j hj=>Decidable.not_not.1 fun e=>hx ⟨j,by omega,e⟩
  rw[show AF _=(-1:Int)from yW (l:=l) hx]
  exact dJ (K:=some (-1)) R.length (fun k=>(k:Int)) (fun k ag hk=>by rw[stp k ag hk,if_neg (by simp[nz,hx k (by omega)])]) (fun ag=>by
   unfold iX lW
   dsimp only
   rw[if_neg (by omega)]) 1000 (by omega)
theorem Hz (S:zW) (R:List RL) (c:List (List Int)) (v:Nat):rO S R c v = -1∨∃i:Nat,rO S R c v=(i:Int)∧i<R.length∧vA S c v (at' R (i:Int)).1≠0:=by
 let l:=R.map fun r=>vA S c v r.1
 by_cases hx:∃i,i<l.length∧at' l (i:Int)≠0
 ·obtain⟨i,hi,h0⟩:=hx
  obtain⟨m,h1,h2,h3⟩:=IU (p:=fun i=>at' l (i:Int)≠0) i h0
  have h3:∀j,j<m->at' l (j:Int)=0:=fun j hj=>Decidable.not_not.1 (h3 j hj)
  have hm:m<R.length:=by simp[l]at hi;omega
  refine .inr ⟨m,yX (l:=l) (by omega) h2 h3,hm,?_⟩
  have:at' l (m:Int)=vA S c v (at' R (m:Int)).1:=by rw[kC (by simpa [l]using hm),kC hm];simp[l]
  rw[<-this];exact h2
 ·exact .inl (yW (l:=l) fun j hj=>Decidable.not_not.1 fun e=>hx ⟨j,hj,e⟩)
theorem HA {S:zW} {R:List RL} {c:List (List Int)} {v:Nat}:rO S R c v = -1↔∀i:Nat,i<R.length->vA S c v (at' R (i:Int)).1=0:=by
 let l:=R.map fun r=>vA S c v r.1
 have hat:∀i,i<R.length->at' l (i:Int)=vA S c v (at' R (i:Int)).1:=fun i hi=>by rw[kC (by simpa [l]using hi),kC hi];simp[l]
 constructor
 ·intro h i hi
  refine Decidable.not_not.1 fun e=> ?_
  obtain⟨m,h1,h2,h3⟩:=IU (p:=fun i=>at' l (i:Int)≠0) i (by rw[hat i hi];exact e)
  have h3:∀j,j<m->at' l (j:Int)=0:=fun j hj=>Decidable.not_not.1 (h3 j hj)
  have:rO S R c v=(m:Int):=yX (l:=l) (by simp[l];omega) h2 h3
  omega
 ·intro h
  exact yW (l:=l) fun j hj=>by rw[hat j (by simpa [l]using hj)];exact h j (by simpa [l]using hj)
theorem Nl (hV:VG g) (hc:rY g nv c) (hz:p.2.2.map wN=Da R) (hR:xA nv R=true) {tab:List (List (Int×Int))} (ht:tab.length=g.2.length):dC 1000 (p,(p,g,gr,eL g),tab) c=some ((Zc (p,g,gr,eL g) R c:Nat):Int):=by
 have h24:=hV.n24
 unfold dC xR
 let q:Nat->Bool:=fun v=>decide (0<=rO (p,g,gr,eL g) R c v)
 have:=dJ (step:=pR (tab.length:Int) (fun y0=>iO 1000 y0 (p,(p,g,gr,eL g),tab) c)) (K:=some ((j_ q g.2.length:Nat):Int)) g.2.length (fun k=>(((j_ q k:Nat):Int),(k:Int))) (fun k ag hk=>by
  have hm:=yZ q (k:=k) (by omega)
  unfold pR sH iO
  dsimp only
  rw[if_pos (by omega),bB (show Option.bind (dV 1000 _ c (k:Int)) _=some (q k) by rw[bB (show dV 1000 _ c (k:Int)=_ from Pn hV hc hk hz hR tab)]),eB (by omega)]
  cases hq:q k with
  |true=>
   rw[if_pos rfl,cN (by omega),ED hm (by omega)]
   simp only[j_,hq,if_true]
  |false=>
   rw[if_neg (by decide)]
   simp only[j_,hq];rfl) (fun ag=>by
  unfold pR wG
  dsimp only
  rw[if_neg (by omega)]) 1000 (by omega)
 rw[bB (show bE _ 1000 ((0:Int),(0:Int))=_ from this)]
 rfl
end
end
section
theorem Sp (f:Nat) (k:Int) (b:dL) (x:Int):uL f k b x=some (Ng k b x):=by
 unfold uL sN Ng
 by_cases h1:b.1<=x
 ·by_cases h2:x<=b.2
  ·simp only[h1,h2,and_self,if_true,decide_true]
  ·simp only[h1,h2,and_false,if_true,if_false,decide_false,Bool.false_eq_true]
   split
   ·rfl
   ·split<;>rfl
 ·simp only[h1,false_and,if_false,Bool.false_eq_true]
  split
  ·rfl
  ·split<;>rfl
theorem Mf {S:zW} {vars:List Dz} {c:aY} {v:Nat} (l:List (Nat×E)) (st:aL):(l.foldl (QI S vars c v) st).length=st.length:=by
 induction l generalizing st with
 |nil=>rfl
 |cons s l ih=>rw[List.foldl_cons,ih];simp[QI]
theorem IY {S:zW} {vars:List Dz} {R:List RL} {c:aY} {v:Nat} {i:Int}:(Ag S vars R c v i).length=(at' c (v:Int)).length:=Mf _ _
section
variable {p:zV} {g:GR} {gr:Int} {R:List RL} {c:List (List Int)} {v:Nat}
theorem Wi (hV:VG g) (hp:Bq g p.2.1) (hc:rY g p.2.1.length c) (hv:v<g.2.length) (hz:p.2.2.map wN=Da R) (hR:xA p.2.1.length R=true) {i:Nat} (hi:i<R.length):
  jS 1000 (p,(p,g,gr,eL g),AR g p.2.1) c (v:Int) (i:Int)=some (Ag (p,g,gr,eL g) p.2.1 R c v (i:Int)):=by
 have h24:=hV.n24
 have hcl:=hc.len
 have hrow:=hc.row v hv
 have hvl:=hp.len
 have hl:=Ea hz
 have hpa:=Pf hz hi
 obtain⟨-,hs20,hsets⟩:=Pm hR hi
 have htab:(AR g p.2.1).length=g.2.length:=by simp[AR]
 have htv:at' (AR g p.2.1) (v:Int)=Cu g p.2.1 v:=yA _ hv
 have hrt:(Cu g p.2.1 v).length=p.2.1.length:=by simp[Cu]
 have e2:(at' p.2.2 (i:Int)).2.2.2.map (fun s=>(s.1,s.2.2))=(at' R (i:Int)).2.map fun s=>((s.1:Int),s.2.ts):=congrArg Prod.snd hpa
 have hsl:(at' p.2.2 (i:Int)).2.2.2.length=(at' R (i:Int)).2.length:=by simpa using congrArg List.length e2
 unfold jS
 dsimp only
 rw[cN (by omega),cN (by simp;omega),cN (by omega),List.nil_append]
 unfold Ag
 let sets:=(at' R (i:Int)).2
 have:=dJ (step:=iW 1000 (p,(p,g,gr,eL g),AR g p.2.1) c (v:Int) (i:Int)) (K:=some (sets.foldl (QI (p,g,gr,eL g) p.2.1 c v) (at' c (v:Int)))) sets.length (fun k=>((k:Int),(sets.take k).foldl (QI (p,g,gr,eL g) p.2.1 c v) (at' c (v:Int)))) (fun k ag hk=>by
  have hk2:k<(at' p.2.2 (i:Int)).2.2.2.length:=by rw[hsl];exact hk
  have ek:((at' (at' p.2.2 (i:Int)).2.2.2 (k:Int)).1,(at' (at' p.2.2 (i:Int)).2.2.2 (k:Int)).2.2)=(((at' sets (k:Int)).1:Int),(at' sets (k:Int)).2.ts):=by
   have:=congrArg (fun q=>q[k]?) e2
   simp only[List.getElem?_map,List.getElem?_eq_getElem hk2,List.getElem?_eq_getElem (show k<(at' R (i:Int)).2.length from hk),Option.map_some,Option.some.injEq]at this
   rw[kC hk2,kC hk];exact this
  have ek1:=congrArg Prod.fst ek
  have ek2:=congrArg Prod.snd ek
  dsimp only at ek1 ek2
  obtain⟨hs1,hs2⟩:=hsets (at' sets (k:Int)) (by rw[kC hk];exact List.getElem_mem hk)
  have hstl:((sets.take k).foldl (QI (p,g,gr,eL g) p.2.1 c v) (at' c (v:Int))).length=p.2.1.length:=by rw[Mf,hrow]
  have hcell:at' (Cu g p.2.1 v) ((at' sets (k:Int)).1:Int)=GM g p.2.1 v (at' sets (k:Int)).1:=yA _ hs1
  have hsk:sets.length<=20:=hs20
  unfold iW
  dsimp only
  rw[if_pos (by omega),cN (by omega),ek1,ek2,bB (show eT 1000 _ c (v:Int) _=_ from Mw (S:=(p,g,gr,eL g)) rfl hV hc hv hs2),cN (by omega),cN (by omega),htv,cN (by omega),hcell,bB (Sp 1000 _ _ _),cN (by omega),eB (by omega),Int.toNat_natCast,Aj hk,List.foldl_append]
  rfl) (fun ag=>by
  unfold iW lV
  dsimp only
  rw[if_neg (by show¬(sets.length:Int)<_;rw[hsl];exact Int.lt_irrefl _),List.take_length]) 1000 (by show(at' R (i:Int)).2.length<1000;omega)
 exact this
theorem Wx (hV:VG g) (hp:Bq g p.2.1) (hc:rY g p.2.1.length c) (hz:p.2.2.map wN=Da R) (hR:xA p.2.1.length R=true) {t:Nat} (ht32:t<4294967296) (ht:∀v,t.testBit v=true->0<=rO (p,g,gr,eL g) R c v):
  gS 1000 (p,(p,g,gr,eL g),AR g p.2.1) c (t:Int)=some (jU (p,g,gr,eL g) p.2.1 R c t):=by
 have h24:=hV.n24
 have hcl:=hc.len
 have hvl:=hp.len
 unfold gS
 rw[bB (OC c (by omega) (fun v hv=>by rw[hc.row v (by omega)];omega))]
 let f:Nat->List Int:=fun v=>if t.testBit v=true then Ag (p,g,gr,eL g) p.2.1 R c v (rO (p,g,gr,eL g) R c v)else at' c (v:Int)
 let Q:Nat->List (List Int):=fun k=>(List.range k).map f++c.drop k
 have hQ:∀k,k<=c.length->(Q k).length=c.length:=fun k hk=>by simp[Q];omega
 have hset:∀k,k<c.length->(Q k).set k (f k)=Q (k+1):=fun k hk=>by
  show((List.range k).map f++c.drop k).set k (f k)=(List.range (k+1)).map f++c.drop (k+1)
  rw[List.set_append_right _ _ (by simp),List.length_map,List.length_range,Nat.sub_self,List.drop_eq_getElem_cons hk,List.set_cons_zero,List.range_succ,List.map_append,List.map_singleton,List.append_assoc]
  rfl
 have hkeep:∀k,k<c.length->f k=at' c (k:Int)->Q k=Q (k+1):=fun k hk hf=>by
  show(List.range k).map f++c.drop k=(List.range (k+1)).map f++c.drop (k+1)
  rw[List.range_succ,List.drop_eq_getElem_cons hk,List.map_append,List.map_singleton,hf,kC hk]
  simp
 rw[show c=Q 0 by simp[Q]]
 refine dJ (step:=fX 1000 (p,(p,g,gr,eL g),AR g p.2.1) (Q 0) (t:Int)) (K:=some (jU (p,g,gr,eL g) p.2.1 R (Q 0) t)) c.length (fun k=>((k:Int),Q k)) (fun k ag hk=> ?_) (fun ag=> ?_) 1000 (by omega)
 ·rw[show Q 0=c by simp[Q]]
  unfold fX iY
  dsimp only
  rw[if_pos (by omega),cN (by omega),eB (by omega)]
  by_cases hb:t.testBit k=true
  ·obtain⟨i,hi,hil,_⟩:=(Hz (p,g,gr,eL g) R c k).resolve_left (fun e=>by have:=ht k hb;omega)
   rw[if_pos ((Hf (by omega) ht32).2 hb),bB (show dV 1000 _ c (k:Int)=_ from Pn hV hc (by omega) hz hR _),hi,bB (show jS 1000 _ c (k:Int) (i:Int)=_ from Wi hV hp hc (by omega) hz hR hil),cN (by rw[hQ k (by omega)];omega),Int.toNat_natCast]
   have:Ag (p,g,gr,eL g) p.2.1 R c k (i:Int)=f k:=by simp only[f];rw[if_pos hb,hi]
   rw[this,hset k hk]
  ·rw[if_neg (fun q=>hb ((Hf (by omega) ht32).1 q)),hkeep k hk (by simp only[f];rw[if_neg hb])]
 ·rw[show Q 0=c by simp[Q]]
  unfold fX lX
  dsimp only
  rw[if_neg (by omega)]
  simp[Q,jU,f]
theorem Jf {S:zW} {vars:List Dz} {t:Nat}:(jU S vars R c t).length=c.length:=by simp[jU]
theorem HC {S:zW} {vars:List Dz} {t:Nat} (hv:v<c.length):at' (jU S vars R c t) (v:Int)=if t.testBit v=true then Ag S vars R c v (rO S R c v)else at' c (v:Int):=yA _ hv
theorem rY.step {S:zW} {vars:List Dz} {t:Nat} {nv:Nat} {g:GR} (hc:rY g nv c):rY g nv (jU S vars R c t):=⟨by rw[Jf,hc.len],fun v hv=>by
 rw[HC (by rw[hc.len];exact hv)]
 split
 ·rw[IY,hc.row v hv]
 ·exact hc.row v hv⟩
end
end
end Go.Proofs.YtjlbcgddhnjcjaaGreatDoor
end
section
namespace Go.Proofs.YtjlbcgddhnjcjaaGreatDoor
open Go.Sx
section
def nL  (a1:Unit):Option (Bool):=
 some (true)
def nM (p0:aL) (a5:Int) (ag4:(Int)->Option (Bool)):Option (Bool):=
 if a5<(List.length p0:Int)then(ck (0<=a5∧a5<(List.length p0:Int)) (if(vW .u32 (at' p0 a5) (16777215:Int))≠(0:Int)then(some (false))else(ag4 (wI .i64 (a5+(1:Int))))))else(nL  (()))
def jF (U:Nat) (p0:aL):Option (Bool):=
 bE (nM p0) U (0:Int)
theorem Ou:aQ Tryz.prog 188:=Tryz.call188
theorem yI (U:Nat) {p0:aL} (v0:Value) (r:Bool) (h:jF U p0=some r):
  aS Tryz.prog 188 #[v0] [Sl tJ v0 p0] (fun x:Unit=>vB (r)) (fun x l=>l) (fun _ l=>l):=by
 refine aS.of Tryz.func188 rfl Tryz.ntmps188 rfl fun c=>?_
 unfold jF at h
 refine sqR<|qkAsg rfl<|dtN<|aG<|midU (fun a1=>nL  a1=some r) (fun a1 b2=>[]) (fun a1 b2=>[]) ?_ ?_
 ·refine sqR<|qkMove rfl<|qkLen (aC.fact 0 rfl) rfl<|qkMove rfl<|dtN<|aO<|loopL (nM p0) (fun a5 b6=>[(5,v0),(6,vI (List.length p0:Int)),(7,vI (a5))]) (fun a5 b6=>[]) (0:Int) () h SF (aV.refl _) ?_
  intro k7 a5 b6 h
  refine sqR<|qkLss rfl<|dtN<|aG ?_
  refine eF h rfl (fun h=>?_) fun h=>?_
  ·refine cJ<|aG<|aO<|sqR<|ckE h fun j9 h=>aB (aX rfl rfl (aC.fact 0 rfl) rfl rfl j9) rfl<|aB (bQ rfl (aC.fact 0 rfl) rfl rfl rfl Bn j9) rfl<|qkAsg rfl<|dtN<|sqR<|qkMove rfl<|aB (DC rfl rfl) rfl<|qkNeq rfl<|dtN ?_
   refine eF h rfl (fun h=>?_) fun h=>?_
   ·refine sqR<|qkAsg rfl<|dtN<|aR<|bL<|aI<|aI<|bL<|aI ?_
    cases h
    exact kH rfl
   refine dD<|inT<|aK<|qkAdd rfl<|qkMove rfl<|dtN ?_
   exact xV (wI .i64 (a5+(1:Int))) () h SF rfl
  refine eZ ?_
  exact fM () (()) h SF rfl
 intro a1 b2 h
 unfold nL at h
 refine sqR<|qkAsg rfl<|dtN<|aR ?_
 cases h
 exact kH rfl
end
section
def kW  (a8:Bool):Option (Bool):=
 some (a8)
def gQ (U:Nat) (p0:CO) (a3:Bool):Option (Bool):=
 if a3=true then(some (false))else(if(wI .i64 (p0.2.2.1+(1:Int)))<p0.2.2.2.1 then(some (false))else(if p0.1<=p0.2.1 then(if p0.2.1<=(wI .i64 ((24:Int)*p0.1))then(Option.bind (jF U ([p0.2.2.2.2])) fun r13=>(kW  (r13)))else(kW  (false)))else(kW  (false))))
def pE (U:Nat) (p0:CO):Option (Bool):=
 if p0.1<(0:Int)then(gQ U p0 (true))else(if(4096:Int)<p0.1 then(gQ U p0 (true))else(if p0.2.2.1<(0:Int)then(gQ U p0 (true))else(if p0.2.2.2.1<p0.2.2.1 then(gQ U p0 (true))else(gQ U p0 (decide (p0.1<p0.2.2.2.1))))))
theorem Vo:aQ Tryz.prog 187:=Tryz.call187
theorem FI (U:Nat) {p0:CO} (r:Bool) (h:pE U p0=some r):
  aS Tryz.prog 187 #[Value.agg #[vI (p0.1),vI (p0.2.1),vI (p0.2.2.1),vI (p0.2.2.2.1),vU (p0.2.2.2.2)]] [] (fun x:Unit=>vB (r)) (fun x l=>l) (fun _ l=>l):=by
 refine aS.of Tryz.func187 rfl Tryz.ntmps187 rfl fun c=>?_
 refine sqR<|aF (aJ.box (cs:=[vI (p0.1),vI (p0.2.1),vI (p0.2.2.1),vI (p0.2.2.2.1),vU (p0.2.2.2.2)]) rfl rfl) rfl fun b1=>qkAsg rfl<|dtN<|aG<|aG<|midU (fun a3=>gQ U p0 a3=some r) (fun a3 b4=>[(1,vP b1),(29,vB (a3))]) (fun a3 b4=>[bS b1 [vI (p0.1),vI (p0.2.1),vI (p0.2.2.1),vI (p0.2.2.2.1),vU (p0.2.2.2.2)] 61]) ?_ ?_
 ·refine aK<|qkFld rfl<|qkLd 0 rfl<|qkLss rfl<|qkMove rfl ?_
  refine AW h rfl (fun _ h=>?_) fun _ h=>?_
  ·refine gdSkip rfl<|gdSkip rfl<|gdSkip rfl<|qkPkT rfl<|qkMove rfl<|gdSkip rfl<|gdSkip rfl<|gdSkip rfl<|qkPkT rfl<|qkMove rfl<|gdSkip rfl<|gdSkip rfl<|gdSkip rfl<|gdSkip rfl<|gdSkip rfl<|qkPkT rfl<|qkMove rfl<|gdSkip rfl<|gdSkip rfl<|gdSkip rfl<|gdSkip rfl<|gdSkip rfl<|qkPkT rfl<|dtN ?_
   exact fM (true) () h SF rfl
  refine aN rfl (dY rfl rfl rfl rfl rfl) rfl<|aN rfl (eX 0 rfl rfl rfl rfl rfl) rfl<|aN rfl (rZ rfl rfl) rfl<|qkPkF rfl<|qkMove rfl ?_
  refine AW h rfl (fun _ h=>?_) fun _ h=>?_
  ·refine gdSkip rfl<|gdSkip rfl<|gdSkip rfl<|qkPkT rfl<|qkMove rfl<|gdSkip rfl<|gdSkip rfl<|gdSkip rfl<|gdSkip rfl<|gdSkip rfl<|qkPkT rfl<|qkMove rfl<|gdSkip rfl<|gdSkip rfl<|gdSkip rfl<|gdSkip rfl<|gdSkip rfl<|qkPkT rfl<|dtN ?_
   exact fM (true) () h SF rfl
  refine aN rfl (dY rfl rfl rfl rfl rfl) rfl<|aN rfl (eX 0 rfl rfl rfl rfl rfl) rfl<|aN rfl (Bu rfl rfl) rfl<|qkPkF rfl<|qkMove rfl ?_
  refine AW h rfl (fun _ h=>?_) fun _ h=>?_
  ·refine gdSkip rfl<|gdSkip rfl<|gdSkip rfl<|gdSkip rfl<|gdSkip rfl<|qkPkT rfl<|qkMove rfl<|gdSkip rfl<|gdSkip rfl<|gdSkip rfl<|gdSkip rfl<|gdSkip rfl<|qkPkT rfl<|dtN ?_
   exact fM (true) () h SF rfl
  refine aN rfl (dY rfl rfl rfl rfl rfl) rfl<|aN rfl (eX 0 rfl rfl rfl rfl rfl) rfl<|aN rfl (dY rfl rfl rfl rfl rfl) rfl<|aN rfl (eX 0 rfl rfl rfl rfl rfl) rfl<|aN rfl (rZ rfl rfl) rfl<|qkPkF rfl<|qkMove rfl ?_
  refine AW h rfl (fun _ h=>?_) fun _ h=>?_
  ·refine gdSkip rfl<|gdSkip rfl<|gdSkip rfl<|gdSkip rfl<|gdSkip rfl<|qkPkT rfl<|dtN ?_
   exact fM (true) () h SF rfl
  refine aN rfl (dY rfl rfl rfl rfl rfl) rfl<|aN rfl (eX 0 rfl rfl rfl rfl rfl) rfl<|aN rfl (dY rfl rfl rfl rfl rfl) rfl<|aN rfl (eX 0 rfl rfl rfl rfl rfl) rfl<|aN rfl (rZ rfl rfl) rfl<|qkPkF rfl<|dtN ?_
  exact fM (decide (p0.1<p0.2.2.2.1)) () h SF rfl
 intro a3 b4 h
 refine z_ h rfl (fun _ h=>?_) fun _ h=>?_
 ·refine sqR<|qkAsg rfl<|dtN<|aR<|aI ?_
  cases h
  exact vT rfl
 refine cJ<|aG<|sqR<|qkFld rfl<|qkLd 0 rfl<|qkFld rfl<|qkLd 0 rfl<|qkAdd rfl<|aB (rZ rfl rfl) rfl<|dtN ?_
 refine eF h rfl (fun h=>?_) fun h=>?_
 ·refine sqR<|qkAsg rfl<|dtN<|aR<|aI ?_
  cases h
  exact vT rfl
 refine cJ<|aG<|midU (fun a8=>kW  a8=some r) (fun a8 b9=>[(2,vB (a8))]) (fun a8 b9=>[]) ?_ ?_
 ·refine aK<|qkFld rfl<|qkLd 0 rfl<|qkFld rfl<|qkLd 0 rfl<|aB (zX rfl rfl) rfl<|qkMove rfl ?_
  refine AW h rfl (fun _ h=>?_) fun _ h=>?_
  ·refine aN rfl (dY rfl rfl rfl rfl rfl) rfl<|aN rfl (eX 0 rfl rfl rfl rfl rfl) rfl<|aN rfl (dY rfl rfl rfl rfl rfl) rfl<|aN rfl (eX 0 rfl rfl rfl rfl rfl) rfl<|aN rfl (Az rfl rfl) rfl<|aN rfl (zX rfl rfl) rfl<|qkPkT rfl<|qkMove rfl ?_
   refine AW h rfl (fun _ h=>?_) fun _ h=>?_
   ·refine aN rfl (dY rfl rfl rfl rfl rfl) rfl<|aN rfl (eX 0 rfl rfl rfl rfl rfl) rfl<|pX rfl (cC (e:=g_) ([p0.2.2.2.2]) [(0,vU (p0.2.2.2.2))] rfl rfl rfl rfl (mT (vU (p0.2.2.2.2)) rfl) rfl rfl rfl) rfl fun u12=>bnE h fun r13 w14 h=>pX rfl (aJ.callQ Ou (yI U u12 r13 w14) rfl (aD.cons (aP (aC.res 0 rfl) iP) .nil)) rfl fun x15=>qkPkT rfl<|qkAsg rfl<|dtN ?_
    exact bV (r13) () h SF .nil (aD.refl _ _)
   refine gdSkip rfl<|gdSkip rfl<|gdSkip rfl<|gdSkip rfl<|qkPkF rfl<|qkAsg rfl<|dtN ?_
   exact bV (false) () h SF .nil (aD.refl _ _)
  refine gdSkip rfl<|gdSkip rfl<|gdSkip rfl<|gdSkip rfl<|gdSkip rfl<|gdSkip rfl<|qkPkF rfl<|qkMove rfl<|gdSkip rfl<|gdSkip rfl<|gdSkip rfl<|gdSkip rfl<|qkPkF rfl<|qkAsg rfl<|dtN ?_
  exact bV (false) () h SF .nil (aD.refl _ _)
 intro a8 b9 h
 unfold kW at h
 refine aR ?_
 cases h
 exact kH rfl
end
section
def oP (U:Nat) (p0:Int):Option (Int):=
 ck (0<=(24:Int)) (ck (0<=(qA .u32 p0 (24:Int))∧(qA .u32 p0 (24:Int))<(List.length Ut:Int)) (ck (0<=(16:Int)) (ck (0<=(cY .u32 (qA .u32 p0 (16:Int)) (255:Int))∧(cY .u32 (qA .u32 p0 (16:Int)) (255:Int))<(List.length Ut:Int)) (ck (0<=(8:Int)) (ck (0<=(cY .u32 (qA .u32 p0 (8:Int)) (255:Int))∧(cY .u32 (qA .u32 p0 (8:Int)) (255:Int))<(List.length Ut:Int)) (ck (0<=(cY .u32 p0 (255:Int))∧(cY .u32 p0 (255:Int))<(List.length Ut:Int)) (some (wI .i64 (wI .u8 ((wI .u8 ((wI .u8 ((at' Ut (qA .u32 p0 (24:Int)))+(at' Ut (cY .u32 (qA .u32 p0 (16:Int)) (255:Int)))))+(at' Ut (cY .u32 (qA .u32 p0 (8:Int)) (255:Int)))))+(at' Ut (cY .u32 p0 (255:Int)))))))))))))
theorem Vp:aQ Tryz.prog 189:=Tryz.call189
theorem Dj (U:Nat) {p0:Int} (r:Int) (h:oP U p0=some r):
  aS Tryz.prog 189 #[vU (p0)] [] (fun x:Unit=>vI (r)) (fun x l=>l) (fun _ l=>l):=by
 refine aS.of Tryz.func189 rfl Tryz.ntmps189 rfl fun c=>?_
 refine sqR<|qkAsg rfl<|dtN<|aG ?_
 refine JR.start [0,1,3,0,8,24,56,127,0,256,768,1792,4095,0,8192,24576,65535,131071,262143] 16 mixedOrders (by decide +kernel) ?_
 refine JR.open (by exact rfl) ?_
 refine jkMove rfl<|ckE h fun j1 h=>jqN rfl (DF rfl rfl j1)<|ckE h fun j2 h=>jqN rfl (Ax rfl rfl rfl JL j2)<|jkMove rfl<|ckE h fun j3 h=>jqN rfl (DF rfl rfl j3)<|jqN rfl (La rfl rfl)<|ckE h fun j4 h=>jqN rfl (Ax rfl rfl rfl JL j4)<|jqN rfl (wW rfl rfl)<|jkMove rfl<|ckE h fun j5 h=>jqN rfl (DF rfl rfl j5)<|jqN rfl (La rfl rfl)<|ckE h fun j6 h=>jqN rfl (Ax rfl rfl rfl JL j6)<|jqN rfl (wW rfl rfl)<|jkMove rfl<|jqN rfl (La rfl rfl)<|ckE h fun j7 h=>jqN rfl (Ax rfl rfl rfl JL j7)<|bH 16 rfl rfl<|qkAdd rfl<|aB (Gz rfl rfl rfl) rfl<|qkAsg rfl<|dtN<|aR ?_
 cases h
 exact kH rfl
end
section
def qL (p0:CO) (r12:Int) (a17:dL):Option ((Int×Int×Int×Int×Int)×Int):=
 some ((((wI .i64 (p0.1+(1:Int))),(wI .i64 (p0.2.1+r12)),a17.1,(wI .i64 (p0.2.2.1+(1:Int))),a17.2)),(0:Int))
def qK (U:Nat) (p0:CO) (p1:Int) (p2:Int) (a8:Bool):Option ((Int×Int×Int×Int×Int)×Int):=
 if a8=true then(some ((((0:Int),(0:Int),(0:Int),(0:Int),(0:Int))),(11:Int)))else(if p0.1=(4096:Int)then(some ((((0:Int),(0:Int),(0:Int),(0:Int),(0:Int))),(3:Int)))else(Option.bind (oP U p1) fun r12=>(if(cY .u32 (vW .u32 p0.2.2.2.2 p1) p2)=(0:Int)then(qL p0 r12 ((wI .i64 (p0.2.2.1+(1:Int))),p2))else(qL p0 r12 (p0.2.2.1,(cY .u32 (vW .u32 p0.2.2.2.2 p1) p2))))))
def pP (U:Nat) (p0:CO) (p1:Int) (p2:Int):Option ((Int×Int×Int×Int×Int)×Int):=
 Option.bind (pE U ((p0.1,p0.2.1,p0.2.2.1,p0.2.2.2.1,p0.2.2.2.2))) fun r3=>(if(!r3)=true then(some ((((0:Int),(0:Int),(0:Int),(0:Int),(0:Int))),(7:Int)))else(if p1=(0:Int)then(qK U p0 p1 p2 (true))else(Option.bind (jF U ([p1,p2])) fun r22=>(qK U p0 p1 p2 ((!r22))))))
theorem Vg:aQ Tryz.prog 151:=Tryz.call151
theorem Ii (U:Nat) {p0:CO} {p1:Int} {p2:Int} (r:(Int×Int×Int×Int×Int)×Int) (h:pP U p0 p1 p2=some r):
  aS Tryz.prog 151 #[Value.agg #[vI (p0.1),vI (p0.2.1),vI (p0.2.2.1),vI (p0.2.2.2.1),vU (p0.2.2.2.2)],vU (p1),vU (p2)] [] (fun x:Unit=>Value.tuple #[Value.agg #[vI (r.1.1),vI (r.1.2.1),vI (r.1.2.2.1),vI (r.1.2.2.2.1),vU (r.1.2.2.2.2)],vI (r.2)]) (fun x l=>l) (fun _ l=>l):=by
 refine aS.of Tryz.func151 rfl Tryz.ntmps151 rfl fun c=>?_
 refine sqR<|aF (aJ.box (cs:=[vI (p0.1),vI (p0.2.1),vI (p0.2.2.1),vI (p0.2.2.2.1),vU (p0.2.2.2.2)]) rfl rfl) rfl fun b1=>aF (aJ.alloc (cs:=Xj) rfl rfl) rfl fun b2=>qkAsg rfl<|dtN<|aG<|sqR<|qkLdA 1 rfl<|bnE h fun r3 w4 h=>aF (aJ.callQ Vo (FI U  r3 w4) rfl .nil) rfl fun x5=>aB (rK rfl) rfl<|dtN ?_
 refine z_ h rfl (fun _ h=>?_) fun _ h=>?_
 ·refine sqR ?_
  refine aB (Gy (r:=Value.agg #[vI (0:Int),vI (0:Int),vI (0:Int),vI (0:Int),vU (0:Int)]) (by intro w;simp[Instr.build,Instr.fill,eG,dR,cT,eH,eI,dU,fP])) rfl ?_
  refine bK 0 (vs:=Xj) rfl rfl rfl rfl rfl rfl<|qkAsg rfl<|dtN<|aR<|aI ?_
  cases h
  exact jJ () rfl rfl (RV.cell 0 rfl rfl rfl rfl) (RV.tmp rfl) .nil aD.nil
 refine cJ<|aG<|aG<|midU (fun a8=>qK U p0 p1 p2 a8=some r) (fun a8 b9=>[(1,vU (p1)),(2,vU (p2)),(3,vP b1),(6,vP b2),(20,vB (a8))]) (fun a8 b9=>[bS b2 Xj 61,bS b1 [vI (p0.1),vI (p0.2.1),vI (p0.2.2.1),vI (p0.2.2.2.1),vU (p0.2.2.2.2)] 61]) ?_ ?_
 ·refine aK<|qkMove rfl<|qkEql rfl<|qkMove rfl ?_
  refine AW h rfl (fun _ h=>?_) fun _ h=>?_
  ·refine gdSkip rfl<|gdSkip rfl<|gdSkip rfl<|gdSkip rfl<|gdSkip rfl<|qkPkT rfl<|dtN ?_
   exact fM (true) () h SF rfl
  refine gyMove rfl<|gyMove rfl<|pX rfl (cC (e:=g_) ([p1,p2]) [(0,vU (p1)),(1,vU (p2))] rfl rfl rfl rfl (SU (vU (p1)) (vU (p2)) rfl rfl) rfl rfl rfl) rfl fun u21=>bnE h fun r22 w23 h=>pX rfl (aJ.callQ Ou (yI U u21 r22 w23) rfl (aD.cons (aP (aC.res 0 rfl) iP) .nil)) rfl fun x24=>aN rfl (rK rfl) rfl<|qkPkF rfl<|dtN ?_
  exact bV ((!r22)) () h SF (aV.ix [1,2] rfl rfl) (aD.refl _ _)
 intro a8 b9 h
 refine z_ h rfl (fun _ h=>?_) fun _ h=>?_
 ·refine sqR ?_
  refine aB (Gy (r:=Value.agg #[vI (0:Int),vI (0:Int),vI (0:Int),vI (0:Int),vU (0:Int)]) (by intro w;simp[Instr.build,Instr.fill,eG,dR,cT,eH,eI,dU,fP])) rfl ?_
  refine bK 0 (vs:=Xj) rfl rfl rfl rfl rfl rfl<|qkAsg rfl<|dtN<|aR<|aI ?_
  cases h
  exact jJ () rfl rfl (RV.cell 0 rfl rfl rfl rfl) (RV.tmp rfl) .nil aD.nil
 refine cJ<|aG<|sqR<|qkFld rfl<|qkLd 1 rfl<|qkEql rfl<|dtN ?_
 refine eF h rfl (fun h=>?_) fun h=>?_
 ·refine sqR ?_
  refine aB (Gy (r:=Value.agg #[vI (0:Int),vI (0:Int),vI (0:Int),vI (0:Int),vU (0:Int)]) (by intro w;simp[Instr.build,Instr.fill,eG,dR,cT,eH,eI,dU,fP])) rfl ?_
  refine bK 0 (vs:=Xj) rfl rfl rfl rfl rfl rfl<|qkAsg rfl<|dtN<|aR<|aI ?_
  cases h
  exact jJ () rfl rfl (RV.cell 0 rfl rfl rfl rfl) (RV.tmp rfl) .nil aD.nil
 refine cJ<|sqR<|qkFld rfl<|qkLd 1 rfl<|qkAdd rfl<|qkFld rfl<|iQ 1 rfl rfl rfl rfl rfl rfl<|dtN<|aG ?_
 refine JR.start [0,1,0,4,15,31,63] 4 mixedOrders (by decide +kernel) ?_
 refine JR.open (by exact rfl) ?_
 refine jkFld rfl<|jkLd 1 rfl<|jkMove rfl<|bnE h fun r12 w13 h=>JR.loud rfl rfl rfl (aJ.callQ Vp (Dj U  r12 w13) rfl .nil) rfl (fun x14=>(m_ [([1],[])] rfl)) fun x14=>bH 4 rfl rfl<|qkAdd rfl<|qkFld rfl<|iQ 1 rfl rfl rfl rfl rfl rfl<|dtN<|sqR<|qkFld rfl<|qkLd 1 rfl<|qkAdd rfl<|qkFld rfl<|iQ 1 rfl rfl rfl rfl rfl rfl<|dtN<|sqR<|qkFld rfl<|qkLd 1 rfl<|qkMove rfl<|aB (DC rfl rfl) rfl<|qkMove rfl<|qkAnd rfl<|qkFld rfl<|iQ 1 rfl rfl rfl rfl rfl rfl<|dtN<|aG<|midU (fun a17=>qL p0 r12 a17=some r) (fun a17 b18=>[(3,vP b1),(6,vP b2)]) (fun a17 b18=>[bS b2 Xj 61,bS b1 [vI (wI .i64 (p0.1+(1:Int))),vI (wI .i64 (p0.2.1+r12)),vI (a17.1),vI (wI .i64 (p0.2.2.1+(1:Int))),vU (a17.2)] 61]) ?_ ?_
 ·refine sqR<|qkFld rfl<|qkLd 1 rfl<|qkEql rfl<|dtN ?_
  refine eF h rfl (fun h=>?_) fun h=>?_
  ·refine sqR<|qkFld rfl<|qkLd 1 rfl<|qkFld rfl<|iQ 1 rfl rfl rfl rfl rfl rfl<|dtN<|aK<|qkMove rfl<|qkFld rfl<|iQ 1 rfl rfl rfl rfl rfl rfl<|dtN ?_
   exact fM ((wI .i64 (p0.2.2.1+(1:Int))),p2) () h SF rfl
  refine cJ ?_
  exact fM (p0.2.2.1,(cY .u32 (vW .u32 p0.2.2.2.2 p1) p2)) () h SF rfl
 intro a17 b18 h
 unfold qL at h
 refine sqR<|qkLdA 1 rfl<|bK 0 (vs:=[vI (wI .i64 (p0.1+(1:Int))),vI (wI .i64 (p0.2.1+r12)),vI (a17.1),vI (wI .i64 (p0.2.2.1+(1:Int))),vU (a17.2)]) rfl rfl rfl rfl rfl rfl<|qkAsg rfl<|dtN<|aR ?_
 cases h
 exact jJ () rfl rfl (RV.cell 0 rfl rfl rfl rfl) (RV.tmp rfl) .nil aD.nil
end
end Go.Proofs.YtjlbcgddhnjcjaaGreatDoor
end
section
namespace Go.Proofs.YtjlbcgddhnjcjaaGreatDoor
open Go Go.Sx
section
abbrev CT:=CO
theorem CG (l:aL) (hl:l.length<=900):∃b,jF 1000 l=some b:=by
 unfold jF
 have:=uG (step:=nM l) (Q:=fun _:Bool=>True) (fun i:Int=>∃k:Nat,i=(k:Int)∧k<=l.length) (fun i=>l.length - i.toNat) (fun i ag hI hrec=>by
  obtain⟨k,rfl,hk⟩:=hI
  unfold nM nL
  by_cases hlt:k<l.length
  ·rw[if_pos (by omega),cN (by omega)]
   split
   ·exact⟨_,rfl,trivial⟩
   ·rw[eB (by omega)]
    exact hrec _ ⟨k+1,rfl,by omega⟩ (by omega)
  ·rw[if_neg (by omega)]
   exact⟨_,rfl,trivial⟩) 1000 0 ⟨0,rfl,by omega⟩ (by omega)
 obtain⟨b,hb,_⟩:=this
 exact⟨b,hb⟩
theorem JC (k:CT):∃b,pE 1000 k=some b:=by
 obtain⟨q,hq⟩:=CG [k.2.2.2.2] (by simp)
 have key:∀a,∃b,gQ 1000 k a=some b:=by
  intro a
  unfold gQ kW
  split
  ·exact⟨_,rfl⟩
  ·split
   ·exact⟨_,rfl⟩
   ·split
    ·split
     ·rw[bB hq];exact⟨_,rfl⟩
     ·exact⟨_,rfl⟩
    ·exact⟨_,rfl⟩
 unfold pE
 repeat' split
 all_goals exact key _
theorem QA {t:Nat} (ht:t<4294967296):∃n,oP 1000 (t:Int)=some n:=by
 have hb:(List.length Ut:Int)=256:=by decide +kernel
 have h255:∀a:Nat,a<4294967296->0<=cY .u32 (a:Int) 255∧cY .u32 (a:Int) 255<256:=fun a ha=>by
  rw[show(255:Int)=((255:Nat):Int)from rfl,GD ha (by omega)]
  have:a &&& 255<=255:=Nat.and_le_right
  omega
 have hs:∀k:Nat,k<32->qA .u32 (t:Int) (k:Int)=((t / 2^k:Nat):Int):=fun k hk=>JH hk
 have s24:qA .u32 (t:Int) 24=((t / 2^24:Nat):Int):=hs 24 (by omega)
 have s16:qA .u32 (t:Int) 16=((t / 2^16:Nat):Int):=hs 16 (by omega)
 have s8:qA .u32 (t:Int) 8=((t / 2^8:Nat):Int):=hs 8 (by omega)
 unfold oP
 rw[hb,s24,s16,s8,cN (by decide),cN (by omega),cN (by decide),cN (h255 _ (by omega)),cN (by decide),cN (h255 _ (by omega)),cN (h255 _ ht)]
 exact⟨_,rfl⟩
theorem RJ (k:CT) {t:Nat} (ht:t<4294967296) (e:Int):∃r,pP 1000 k (t:Int) e=some r:=by
 obtain⟨b,hb⟩:=JC k
 obtain⟨q,hq⟩:=CG [(t:Int),e] (by simp)
 obtain⟨n,hn⟩:=QA ht
 have key:∀a,∃r,qK 1000 k (t:Int) e a=some r:=by
  intro a
  unfold qK qL
  split
  ·exact⟨_,rfl⟩
  ·split
   ·exact⟨_,rfl⟩
   ·rw[bB hn]
    split<;>exact⟨_,rfl⟩
 unfold pP
 rw[bB (show pE 1000 _=some b from hb)]
 split
 ·exact⟨_,rfl⟩
 ·split
  ·exact key _
  ·rw[bB hq];exact key _

def bN (p:zV) (g:GR):zW:=(p,g,kL g g.2.length,eL g)
end
section
def vL (S:zW) (R:List RL) (lv:Nat) (c:aY):Nat:=Zc S R c &&& lv
theorem VJ (S:zW) (R:List RL) (c:aY) (v:Nat):(Zc S R c).testBit v=(decide (v<S.2.1.2.length)&&decide (0<=rO S R c v)):=vR _ v _
theorem Cc (S:zW) (R:List RL) (lv:Nat) (c:aY) (v:Nat):(vL S R lv c).testBit v=true↔v<S.2.1.2.length∧0<=rO S R c v∧lv.testBit v=true:=by
 unfold vL
 rw[Nat.testBit_and,VJ,Bool.and_eq_true,Bool.and_eq_true,decide_eq_true_eq,decide_eq_true_eq,and_assoc]
theorem Yf {S:zW} (hV:VG S.2.1) (R:List RL) (c:aY):Zc S R c<4294967296:=yZ _ (by have:=hV.n24;omega)
theorem Yg (S:zW) (R:List RL) (lv:Nat) (c:aY):Q_ S.2.1 (vL S R lv c):=fun i hi=>((Cc S R lv c i).1 hi).1
def Be (ch:mC):aL:=ch.map fun t=>((t:Nat):Int)
end
end Go.Proofs.YtjlbcgddhnjcjaaGreatDoor
end
section
namespace Go.Proofs.YtjlbcgddhnjcjaaGreatDoor
open Go.Sx
section
def oZ  (a2:Bool):Option (Bool):=
 some (a2)
def uK (U:Nat) (p0:Int):Option (Bool):=
 if(1:Int)<=p0 then(oZ  (decide (p0<=(4:Int))))else(oZ  (false))
theorem UW:aQ Tryz.prog 102:=Tryz.call102
theorem HD (U:Nat) {p0:Int} (r:Bool) (h:uK U p0=some r):
  aS Tryz.prog 102 #[vI (p0)] [] (fun x:Unit=>vB (r)) (fun x l=>l) (fun _ l=>l):=by
 refine aS.of Tryz.func102 rfl Tryz.ntmps102 rfl fun c=>?_
 refine sqR<|qkAsg rfl<|dtN<|aG<|midU (fun a2=>oZ  a2=some r) (fun a2 b3=>[(2,vB (a2))]) (fun a2 b3=>[]) ?_ ?_
 ·refine aK<|qkMove rfl<|aB (Bt rfl rfl) rfl<|qkMove rfl ?_
  refine AW h rfl (fun _ h=>?_) fun _ h=>?_
  ·refine gyMove rfl<|aN rfl (zX rfl rfl) rfl<|qkPkT rfl<|qkAsg rfl<|dtN ?_
   exact fM (decide (p0<=(4:Int))) () h SF rfl
  refine gdSkip rfl<|gdSkip rfl<|qkPkF rfl<|qkAsg rfl<|dtN ?_
  exact fM (false) () h SF rfl
 intro a2 b3 h
 unfold oZ at h
 refine aR ?_
 cases h
 exact kH rfl
end
section
def wQ (U:Nat) (p0:Ak) (p1:cW) (p2:Int) (p3:aY) (p4:Int):Option (Int):=
 Option.bind (qP U ((p0.1,p0.2.1,p0.2.2)) ((p1.1,p1.2)) p3) fun r3=>(if r3≠(0:Int)then(some (r3))else(Option.bind (uK U p2) fun r7=>(if(!r7)=true then(some (12:Int))else(if(4096:Int)<p4 then(some (3:Int))else(some (0:Int))))))
theorem XM:aQ Tryz.prog 59:=Tryz.call59
theorem Mj (U:Nat) {p0:Ak} {p1:cW} {p2:Int} {p3:aY} {p4:Int} (v0:Value)  (v1:Value)  (v2:Value)  (v3:Value)  (z4:mB)  (v5:Value)  (z6:pW) (r:Int) (h:wQ U p0 p1 p2 p3 p4=some r):
  aS Tryz.prog 59 #[Value.agg #[vS (p0.1),v0,v1],Value.agg #[v2,v3],vI (p2),v5,vI (p4)] [Sl aH v0 p0.2.1,Sl aE v1 p0.2.2,PF (Value.agg #[vS p0.1,v0,v1]),Sl bD v2 p1.1,S2 a_ v3 z4 p1.2,S2 bD v5 z6 p3] (fun x:Unit=>vI (r)) (fun x l=>l) (fun _ l=>l):=by
 refine aS.of Tryz.func59 rfl Tryz.ntmps59 rfl fun c=>?_
 refine sqR<|aF (aJ.box (cs:=[vS (p0.1),v0,v1]) rfl rfl) rfl fun b1=>aF (aJ.box (cs:=[v2,v3]) rfl rfl) rfl fun b2=>qkAsg rfl<|dtN<|aG<|sqR<|qkLdA 1 rfl<|qkLdA 0 rfl<|qkMove rfl<|bnE h fun r3 w4 h=>aF (aJ.callQ UV (HL U v0 v1 v2 v3 z4 v5 z6 r3 w4) rfl (lH [0,1,2,3,4,5] rfl)) rfl fun x5=>qkAsg rfl<|dtN<|sqR<|qkMove rfl<|qkNeq rfl<|dtN ?_
 refine eF h rfl (fun h=>?_) fun h=>?_
 ·refine sqR<|qkMove rfl<|qkAsg rfl<|dtN<|aR<|aI ?_
  cases h
  exact vT rfl
 refine cJ<|aG<|sqR<|qkMove rfl<|bnE h fun r7 w8 h=>aF (aJ.callQ UW (HD U  r7 w8) rfl .nil) rfl fun x9=>aB (rK rfl) rfl<|dtN ?_
 refine z_ h rfl (fun _ h=>?_) fun _ h=>?_
 ·refine sqR<|qkAsg rfl<|dtN<|aR<|aI ?_
  cases h
  exact vT rfl
 refine cJ<|aG<|sqR<|qkMove rfl<|aB (rZ rfl rfl) rfl<|dtN ?_
 refine eF h rfl (fun h=>?_) fun h=>?_
 ·refine sqR<|qkAsg rfl<|dtN<|aR<|aI ?_
  cases h
  exact vT rfl
 refine cJ<|sqR<|qkAsg rfl<|dtN<|aR ?_
 cases h
 exact vT rfl
end
section
def rD (U:Nat) (p0:aY) (p1:Int) (p2:CO):Option (Unit):=
 some (())
theorem Sg:aQ Tryz.prog 61:=Tryz.call61
theorem Ep (U:Nat) {p0:aY} {p1:Int} {p2:CO} (v0:Value)  (z1:pW) (r:Unit) (h:rD U p0 p1 p2=some r):
  aS Tryz.prog 61 #[v0,vU (p1),Value.agg #[vI (p2.1),vI (p2.2.1),vI (p2.2.2.1),vI (p2.2.2.2.1),vU (p2.2.2.2.2)]] [S2 bD v0 z1 p0] (fun x:Unit=>Value.tuple #[]) (fun x l=>l) (fun _ l=>l):=by
 refine aS.of Tryz.func61 rfl Tryz.ntmps61 rfl fun c=>?_
 unfold rD at h
 refine aK<|aF (aJ.box (cs:=[vI (p2.1),vI (p2.2.1),vI (p2.2.2.1),vI (p2.2.2.2.1),vU (p2.2.2.2.2)]) rfl rfl) rfl fun b1=>dK ?_
 cases h
 exact BW () rfl rfl .normal (.inr rfl) .nil aD.nil
end
section
def sX (U:Nat) (p0:Int):Option ((Int×Int×Int×Int×Int)):=
 some (((0:Int),(0:Int),(0:Int),(0:Int),(cY .u32 p0 (16777215:Int))))
theorem Ve:aQ Tryz.prog 148:=Tryz.call148
theorem FH (U:Nat) {p0:Int} (r:(Int×Int×Int×Int×Int)) (h:sX U p0=some r):
  aS Tryz.prog 148 #[vU (p0)] [] (fun x:Unit=>Value.agg #[vI (r.1),vI (r.2.1),vI (r.2.2.1),vI (r.2.2.2.1),vU (r.2.2.2.2)]) (fun x l=>l) (fun _ l=>l):=by
 refine aS.of Tryz.func148 rfl Tryz.ntmps148 rfl fun c=>?_
 unfold sX at h
 refine sqR<|aF (aJ.alloc (cs:=Xj) rfl rfl) rfl fun b1=>dtN<|sqR<|qkMove rfl<|qkAnd rfl ?_
 refine aB (RE (r:=Value.agg #[vI (0:Int),vI (0:Int),vI (0:Int),vI (0:Int),vU (cY .u32 p0 (16777215:Int))]) rfl (by intro w;simp[Instr.build,Instr.fill,eG,dR,cT,eH,eI,dU,fP])) rfl ?_
 refine bK 0 (vs:=[vI (0:Int),vI (0:Int),vI (0:Int),vI (0:Int),vU (cY .u32 p0 (16777215:Int))]) rfl rfl rfl rfl rfl rfl<|dtN<|aR ?_
 cases h
 exact gC () rfl rfl (RV.cell 0 rfl rfl rfl rfl) .nil aD.nil
end
end Go.Proofs.YtjlbcgddhnjcjaaGreatDoor
end
