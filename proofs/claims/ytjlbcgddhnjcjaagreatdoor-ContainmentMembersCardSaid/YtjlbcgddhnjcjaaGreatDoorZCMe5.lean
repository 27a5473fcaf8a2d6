/- Models and proofs. Conditions: none. -/
import Derived.Test.YtjlbcgddhnjcjaaGreatDoorZCMe2
import Derived.Test.YtjlbcgddhnjcjaaGreatDoorZCMe4
set_option linter.unusedVariables false
set_option linter.unusedSimpArgs false
set_option maxHeartbeats 4000000
set_option maxRecDepth 20000
section
namespace Go.Proofs.YtjlbcgddhnjcjaaGreatDoor
open Go.Sx
section
def mA  (a2:Unit):Option (Bool):=
 some (true)
def fZ (p0:aL) (a7:Int×List (Bool)) (ag6:(Int×List (Bool))->Option (Bool)) (a13:Bool):Option (Bool):=
 if a13=true then(some (false))else(ck ((0<=(at' p0 a7.1)∧(at' p0 a7.1)<((256:Nat):Int))∧List.length a7.2=256) (ag6 ((wI .i64 (a7.1+(1:Int))),(List.set a7.2 (Int.toNat (at' p0 a7.1)) true))))
def eS (p0:aL) (a7:Int×List (Bool)) (ag6:(Int×List (Bool))->Option (Bool)):Option (Bool):=
 if a7.1<(List.length p0:Int)then(ck (0<=a7.1∧a7.1<(List.length p0:Int)) (if(at' p0 a7.1)<(0:Int)then(fZ p0 a7 ag6 (true))else(if(255:Int)<(at' p0 a7.1)then(fZ p0 a7 ag6 (true))else(ck ((0<=(at' p0 a7.1)∧(at' p0 a7.1)<((256:Nat):Int))∧List.length a7.2=256) (fZ p0 a7 ag6 ((at' a7.2 (at' p0 a7.1))))))))else(mA  (()))
def gU (U:Nat) (p0:aL):Option (Bool):=
 bE (eS p0) U ((0:Int),(List.replicate 256 false))
theorem XS:aQ Tryz.prog 95:=Tryz.call95
theorem BN (U:Nat) {p0:aL} (v0:Value) (r:Bool) (h:gU U p0=some r):
  aS Tryz.prog 95 #[v0] [Sl bD v0 p0] (fun x:Unit=>vB (r)) (fun x l=>l) (fun _ l=>l):=by
 refine aS.of Tryz.func95 rfl Tryz.ntmps95 rfl fun c=>?_
 unfold gU at h
 refine sqR<|qkAsg rfl<|dtN<|sqR ?_
 refine aF (aJ.alloc (cs:=cellsOf ZC (List.replicate 256 false)) rfl (by kernel_rfl)) rfl fun b1=>?_
 refine dtN<|aG<|midU (fun a2=>mA  a2=some r) (fun a2 b3=>[]) (fun a2 b3=>[]) ?_ ?_
 ·refine sqR<|qkMove rfl<|qkLen (aC.fact 0 rfl) rfl<|qkMove rfl<|dtN<|aO<|loopL (eS p0) (fun a7 b8=>[(3,vP b1),(6,v0),(7,vI (List.length p0:Int)),(8,vI (a7.1))]) (fun a7 b8=>[bS b1 (cellsOf ZC a7.2) 203]) ((0:Int),(List.replicate 256 false)) () h SF (aV.refl _) ?_
  intro k9 a7 b8 h
  refine sqR<|qkLss rfl<|dtN<|aG ?_
  refine eF h rfl (fun h=>?_) fun h=>?_
  ·refine cJ<|aG<|aO<|sqR<|ckE h fun j11 h=>aB (aX rfl rfl (aC.fact 0 rfl) rfl rfl j11) rfl<|aB (bQ rfl (aC.fact 0 rfl) rfl rfl rfl cZ j11) rfl<|qkAsg rfl<|dtN<|aG<|aG<|midU (fun a13=>fZ p0 a7 (bE (eS p0) k9) a13=some r) (fun a13 b14=>[(3,vP b1),(5,vI (at' p0 a7.1)),(6,v0),(7,vI (List.length p0:Int)),(8,vI (a7.1)),(22,vB (a13))]) (fun a13 b14=>[bS b1 (cellsOf ZC a7.2) 203]) ?_ ?_
   ·refine aK<|qkMove rfl<|qkLss rfl<|qkMove rfl ?_
    refine AW h rfl (fun _ h=>?_) fun _ h=>?_
    ·refine gdSkip rfl<|gdSkip rfl<|qkPkT rfl<|qkMove rfl<|gdSkip rfl<|gdSkip rfl<|gdSkip rfl<|qkPkT rfl<|dtN ?_
     exact fM (true) () h SF rfl
    refine gyMove rfl<|aN rfl (rZ rfl rfl) rfl<|qkPkF rfl<|qkMove rfl ?_
    refine AW h rfl (fun _ h=>?_) fun _ h=>?_
    ·refine gdSkip rfl<|gdSkip rfl<|gdSkip rfl<|qkPkT rfl<|dtN ?_
     exact fM (true) () h SF rfl
    refine gyMove rfl<|ckE h fun j19 h=>aN rfl (nD rfl rfl rfl rfl rfl j19.1) rfl<|aN rfl (PQ (e:=ZC) rfl (aC.res 0 rfl) rfl rfl rfl rfl j19) rfl<|qkPkF rfl<|dtN ?_
    exact fM ((at' a7.2 (at' p0 a7.1))) () h SF rfl
   intro a13 b14 h
   refine z_ h rfl (fun _ h=>?_) fun _ h=>?_
   ·refine sqR<|qkAsg rfl<|dtN<|aR<|aI<|bL<|aI<|aI<|bL<|aI ?_
    cases h
    exact vT rfl
   refine cJ<|aK<|qkMove rfl<|ckE h fun j16 h=>aB (nD rfl rfl rfl rfl rfl j16.1) rfl<|Gr 0 (e:=ZC) true j16 rfl rfl rfl rfl rfl rfl rfl<|dK<|inT<|aK<|qkAdd rfl<|qkMove rfl<|dtN ?_
   exact xV ((wI .i64 (a7.1+(1:Int))),(List.set a7.2 (Int.toNat (at' p0 a7.1)) true)) () h SF rfl
  refine eZ ?_
  exact bV () (()) h SF .nil (aD.refl _ _)
 intro a2 b3 h
 unfold mA at h
 refine sqR<|qkAsg rfl<|dtN<|aR ?_
 cases h
 exact kH rfl
end
section
def tK (a3:(List ((Int×Int)×Int))) (kv6:(Int×Int)×Int) (xa9:Option (Bool)):Option (Bool):=
 if(Option.getD (lA (kv6.1.2,kv6.1.1) a3) (0:Int))≠kv6.2 then(some (false))else(xa9)
def gJ  (a3:(List ((Int×Int)×Int))):Option (Bool):=
 If (tK a3) (some (true)) a3
def lF (a17:FD) (ag16:Jh->Option (Bool)) (a22:(List ((Int×Int)×Int))):Option (Bool):=
 ag16 ((wI .i64 (a17.1+(1:Int))),a22)
def gK (p0:eV) (a17:FD) (a28:FD) (ag27:Jh->Option (Bool)) (a39:Bool):Option (Bool):=
 if a39=true then(some (false))else(if(Option.isSome (lA (a17.1,((at' (at' p0 a17.1) a28.1).1)) a28.2))=true then(some (false))else(ag27 ((wI .i64 (a28.1+(1:Int))),(AL (a17.1,((at' (at' p0 a17.1) a28.1).1)) ((at' (at' p0 a17.1) a28.1).2) a28.2))))
def fJ (p0:eV) (a17:FD) (a28:FD) (ag27:Jh->Option (Bool)) (a35:Bool):Option (Bool):=
 if a35=true then(some (false))else(if((at' (at' p0 a17.1) a28.1).2)<(1:Int)then(gK p0 a17 a28 ag27 (true))else(gK p0 a17 a28 ag27 (decide ((15:Int)<((at' (at' p0 a17.1) a28.1).2)))))
def bW (p0:eV) (a17:FD) (ag16:Jh->Option (Bool)) (a28:FD) (ag27:Jh->Option (Bool)):Option (Bool):=
 if a28.1<(List.length (at' p0 a17.1):Int)then(ck (0<=a28.1∧a28.1<(List.length (at' p0 a17.1):Int)) (if((at' (at' p0 a17.1) a28.1).1)<(0:Int)then(fJ p0 a17 a28 ag27 (true))else(if(List.length p0:Int)<=((at' (at' p0 a17.1) a28.1).1)then(fJ p0 a17 a28 ag27 (true))else(fJ p0 a17 a28 ag27 (decide (((at' (at' p0 a17.1) a28.1).1)=a17.1))))))else(lF a17 ag16 (a28.2))
def cH (U:Nat) (p0:eV) (a17:FD) (ag16:Jh->Option (Bool)):Option (Bool):=
 if a17.1<(List.length p0:Int)then(ck (0<=a17.1∧a17.1<(List.length p0:Int)) (bE (bW p0 a17 ag16) U ((0:Int),a17.2)))else(gJ  (a17.2))
def fE (U:Nat) (p0:eV):Option (Bool):=
 bE (cH U p0) U ((0:Int),([]:List ((Int×Int)×Int)))
theorem XT:aQ Tryz.prog 96:=Tryz.call96
theorem En (U:Nat) {p0:eV} (v0:Value)  (z1:mB) (r:Bool) (h:fE U p0=some r):
  aS Tryz.prog 96 #[v0] [S2 a_ v0 z1 p0] (fun x:Unit=>vB (r)) (fun x l=>l) (fun _ l=>l):=by
 refine aS.of Tryz.func96 rfl Tryz.ntmps96 rfl fun c=>?_
 unfold fE at h
 refine sqR<|qkAsg rfl<|dtN<|sqR<|aF (aJ.makeMap lT Mt) rfl fun b1=>qkAsg rfl<|dtN<|aG<|midU (fun a3=>gJ  a3=some r) (fun a3 b4=>[(3,Value.map (some b1))]) (fun a3 b4=>[Mp lT Mt b1 a3]) ?_ ?_
 ·refine sqR<|qkMove rfl<|aB (iL rfl (aC.fact 0 rfl) rfl) rfl<|qkMove rfl<|dtN<|aO<|loopL (cH U p0) (fun a17 b18=>[(0,v0),(3,Value.map (some b1)),(14,v0),(15,vI (List.length p0:Int)),(16,vI (a17.1))]) (fun a17 b18=>[Mp lT Mt b1 a17.2]) ((0:Int),([]:List ((Int×Int)×Int))) () h SF (aV.refl _) ?_
  intro k19 a17 b18 h
  refine sqR<|qkLss rfl<|dtN<|aG ?_
  refine eF h rfl (fun h=>?_) fun h=>?_
  ·refine cJ<|aG<|midU (fun a22=>lF a17 (bE (cH U p0) k19) a22=some r) (fun a22 b23=>[(0,v0),(3,Value.map (some b1)),(14,v0),(15,vI (List.length p0:Int)),(16,vI (a17.1))]) (fun a22 b23=>[Mp lT Mt b1 a22]) ?_ ?_
   ·refine aO<|sqR<|qkMove rfl<|ckE h fun j24 h=>aB (cP rfl rfl (aC.fact 0 rfl) rfl rfl j24) rfl<|aB (cQ rfl (aC.fact 0 rfl) rfl rfl j24) rfl<|qkAsg rfl<|qkAsg rfl<|dtN<|sqR<|qkMove rfl<|aB (fI rfl (aC.el (aC.fact 0 rfl) j24.1 j24.2) rfl) rfl<|qkMove rfl<|dtN<|aO<|loopL (bW p0 a17 (bE (cH U p0) k19)) (fun a28 b29=>[(0,v0),(3,Value.map (some b1)),(4,vI (a17.1)),(14,v0),(15,vI (List.length p0:Int)),(16,vI (a17.1)),(21,(at' z1 a17.1).1),(22,vI (List.length (at' p0 a17.1):Int)),(23,vI (a28.1))]) (fun a28 b29=>[Mp lT Mt b1 a28.2]) ((0:Int),a17.2) () h SF (aV.refl _) ?_
    intro k30 a28 b29 h
    refine sqR<|qkLss rfl<|dtN<|aG ?_
    refine eF h rfl (fun h=>?_) fun h=>?_
    ·refine cJ<|aG<|aO<|sqR<|ckE h fun j32 h=>aB (aX rfl rfl (aC.el (aC.fact 0 rfl) j24.1 j24.2) rfl rfl j32) rfl<|aB (hZ (cs:=[vI ((at' (at' p0 a17.1) a28.1).1),vI ((at' (at' p0 a17.1) a28.1).2)]) rfl (aC.el (aC.fact 0 rfl) j24.1 j24.2) bG rfl rfl rfl rfl j32) rfl<|aF (aJ.alloc (cs:=QT) rfl rfl) rfl fun b33=>bK 0 (vs:=[vI ((at' (at' p0 a17.1) a28.1).1),vI ((at' (at' p0 a17.1) a28.1).2)]) rfl rfl rfl rfl rfl rfl<|dtN<|aG<|aG<|midU (fun a35=>fJ p0 a17 a28 (bE (bW p0 a17 (bE (cH U p0) k19)) k30) a35=some r) (fun a35 b36=>[(0,v0),(3,Value.map (some b1)),(4,vI (a17.1)),(7,vP b33),(14,v0),(15,vI (List.length p0:Int)),(16,vI (a17.1)),(21,(at' z1 a17.1).1),(22,vI (List.length (at' p0 a17.1):Int)),(23,vI (a28.1)),(42,vB (a35))]) (fun a35 b36=>[bS b33 [vI ((at' (at' p0 a17.1) a28.1).1),vI ((at' (at' p0 a17.1) a28.1).2)] 113,Mp lT Mt b1 a28.2]) ?_ ?_
     ·refine aK<|qkFld rfl<|qkLd 0 rfl<|qkLss rfl<|qkMove rfl ?_
      refine AW h rfl (fun _ h=>?_) fun _ h=>?_
      ·refine gdSkip rfl<|gdSkip rfl<|gdSkip rfl<|gdSkip rfl<|gdSkip rfl<|qkPkT rfl<|qkMove rfl<|gdSkip rfl<|gdSkip rfl<|gdSkip rfl<|gdSkip rfl<|qkPkT rfl<|dtN ?_
       exact fM (true) () h SF rfl
      refine aN rfl (dY rfl rfl rfl rfl rfl) rfl<|aN rfl (eX 0 rfl rfl rfl rfl rfl) rfl<|gyMove rfl<|aN rfl (iL rfl (aC.fact 0 rfl) rfl) rfl<|aN rfl (Bt rfl rfl) rfl<|qkPkF rfl<|qkMove rfl ?_
      refine AW h rfl (fun _ h=>?_) fun _ h=>?_
      ·refine gdSkip rfl<|gdSkip rfl<|gdSkip rfl<|gdSkip rfl<|qkPkT rfl<|dtN ?_
       exact fM (true) () h SF rfl
      refine aN rfl (dY rfl rfl rfl rfl rfl) rfl<|aN rfl (eX 0 rfl rfl rfl rfl rfl) rfl<|gyMove rfl<|aN rfl (Iz rfl rfl) rfl<|qkPkF rfl<|dtN ?_
      exact fM (decide (((at' (at' p0 a17.1) a28.1).1)=a17.1)) () h SF rfl
     intro a35 b36 h
     refine z_ h rfl (fun _ h=>?_) fun _ h=>?_
     ·refine sqR<|qkAsg rfl<|dtN<|aR<|aI<|bL<|aI<|aI<|bL<|bL<|aI<|aI<|bL<|aI ?_
      cases h
      exact vT rfl
     refine cJ<|aG<|aG<|midU (fun a39=>gK p0 a17 a28 (bE (bW p0 a17 (bE (cH U p0) k19)) k30) a39=some r) (fun a39 b40=>[(0,v0),(3,Value.map (some b1)),(4,vI (a17.1)),(7,vP b33),(14,v0),(15,vI (List.length p0:Int)),(16,vI (a17.1)),(21,(at' z1 a17.1).1),(22,vI (List.length (at' p0 a17.1):Int)),(23,vI (a28.1)),(50,vB (a39))]) (fun a39 b40=>[bS b33 [vI ((at' (at' p0 a17.1) a28.1).1),vI ((at' (at' p0 a17.1) a28.1).2)] 113,Mp lT Mt b1 a28.2]) ?_ ?_
     ·refine aK<|qkFld rfl<|qkLd 0 rfl<|qkLss rfl<|qkMove rfl ?_
      refine AW h rfl (fun _ h=>?_) fun _ h=>?_
      ·refine gdSkip rfl<|gdSkip rfl<|gdSkip rfl<|qkPkT rfl<|dtN ?_
       exact fM (true) () h SF rfl
      refine aN rfl (dY rfl rfl rfl rfl rfl) rfl<|aN rfl (eX 0 rfl rfl rfl rfl rfl) rfl<|aN rfl (rZ rfl rfl) rfl<|qkPkF rfl<|dtN ?_
      exact fM (decide ((15:Int)<((at' (at' p0 a17.1) a28.1).2))) () h SF rfl
     intro a39 b40 h
     refine z_ h rfl (fun _ h=>?_) fun _ h=>?_
     ·refine sqR<|qkAsg rfl<|dtN<|aR<|aI<|bL<|aI<|aI<|bL<|bL<|aI<|aI<|bL<|aI ?_
      cases h
      exact vT rfl
     refine cJ<|sqR<|qkMove rfl<|qkFld rfl<|qkLd 0 rfl ?_
     refine aB (Br (r:=Value.agg #[vI (a17.1),vI ((at' (at' p0 a17.1) a28.1).1)]) rfl rfl (by intro w;simp[Instr.build,Instr.fill,eG,dR,cT,eH,eI,dU,fP])) rfl ?_
     refine aF (aJ.alloc (cs:=QT) rfl rfl) rfl fun b42=>bK 0 (vs:=[vI (a17.1),vI ((at' (at' p0 a17.1) a28.1).1)]) rfl rfl rfl rfl rfl rfl<|dtN<|aG<|sqR<|qkMove rfl<|qkLdA 0 rfl ?_
     refine aB (Ld 2 ((a17.1,((at' (at' p0 a17.1) a28.1).1))) (u:=vI (Option.getD (lA (a17.1,((at' (at' p0 a17.1) a28.1).1)) a28.2) (0:Int))) JY rfl rfl rfl rfl rfl (by cases lA ((a17.1,((at' (at' p0 a17.1) a28.1).1))) a28.2<;>rfl)) rfl ?_
     refine qkMove rfl<|qkExt rfl<|qkExt rfl<|qkAsg rfl<|qkAsg rfl<|dtN<|sqR<|qkMove rfl<|dtN ?_
     refine z_ h rfl (fun _ h=>?_) fun _ h=>?_
     ·refine sqR<|qkAsg rfl<|dtN<|aR<|aI<|bL<|aI<|aI<|bL<|bL<|aI<|aI<|bL<|aI ?_
      cases h
      exact vT rfl
     refine cJ<|aK<|qkMove rfl<|qkLdA 0 rfl<|qkFld rfl<|qkLd 1 rfl<|KB 2 ((a17.1,((at' (at' p0 a17.1) a28.1).1))) ((at' (at' p0 a17.1) a28.1).2) JY rfl rfl rfl rfl rfl<|dK<|inT<|aK<|qkAdd rfl<|qkMove rfl<|dtN ?_
     exact mO ((wI .i64 (a28.1+(1:Int))),(AL (a17.1,((at' (at' p0 a17.1) a28.1).1)) ((at' (at' p0 a17.1) a28.1).2) a28.2)) () h SF (aV.ix [2] rfl rfl) (aD.refl _ _)
    refine qE<|eC<|eC<|wK<|inT ?_
    exact fM (a28.2) () h SF rfl
   intro a22 b23 h
   unfold lF at h
   refine aK<|qkAdd rfl<|qkMove rfl<|dtN ?_
   exact xV ((wI .i64 (a17.1+(1:Int))),a22) () h SF rfl
  refine eZ ?_
  exact fM (a17.2) () h SF rfl
 intro a3 b4 h
 unfold gJ at h
 refine aG<|sqR<|qkMove rfl<|aF (aJ.range 0 rfl rfl rfl) rfl fun b5=>dtN<|aO<|UE [(3,Value.map (some b1)),(69,vP b5)] [It b5 b1 (List.length a3) ([]),Mp lT Mt b1 a3] [S2 a_ v0 z1 p0] SF (aV.refl _) (aD.refl _ _) ?_
 refine PL (tK a3) 1 0 (by intro a b x;unfold tK;repeat' split;all_goals first|rfl|contradiction|simp_all) h rfl rfl rfl rfl rfl rfl ?_ ?_
 ·skip
  intro kv6 i7 se8 xa9 hkv10 h
  refine aO<|sqR<|aF (aJ.entry 1 0 hkv10 rfl rfl rfl) rfl fun x11=>qkExt rfl<|qkExt rfl<|aF (aJ.alloc (cs:=QT) rfl rfl) rfl fun b12=>bK 0 (vs:=[vI (kv6.1.1),vI (kv6.1.2)]) rfl rfl rfl rfl rfl rfl<|qkAsg rfl<|dtN<|sqR<|qkMove rfl ?_
  refine aB (nD (i:=1) rfl rfl rfl rfl rfl (by decide)) rfl ?_
  refine qkLd 0 rfl ?_
  refine aB (nD (i:=0) rfl rfl rfl rfl rfl (by decide)) rfl ?_
  refine qkLd 0 rfl ?_
  refine aB (Br (r:=Value.agg #[vI (kv6.1.2),vI (kv6.1.1)]) rfl rfl (by intro w;simp[Instr.build,Instr.fill,eG,dR,cT,eH,eI,dU,fP])) rfl ?_
  refine aB (Ld 2 ((kv6.1.2,kv6.1.1)) (u:=vI (Option.getD (lA (kv6.1.2,kv6.1.1) a3) (0:Int))) JY rfl rfl rfl rfl rfl (by cases lA ((kv6.1.2,kv6.1.1)) a3<;>rfl)) rfl ?_
  refine qkMove rfl<|qkNeq rfl<|dtN ?_
  refine eF h rfl (fun h=>?_) fun h=>?_
  ·refine sqR<|qkAsg rfl<|dtN<|aR<|bL<|aI<|bL<|aI ?_
   cases h
   exact vT rfl
  refine dD<|inT ?_
  exact MQ h SF (aV.ix [1,2] rfl rfl) (aD.refl _ _)
 intro se8 h
 refine wK<|xI<|sqR<|qkAsg rfl<|dtN<|aR ?_
 cases h
 exact vT rfl
end
section
def oD  (a7:Bool):Option (Bool):=
 some (a7)
def oC (U:Nat) (p0:cW) (a3:Bool):Option (Bool):=
 if a3=true then(some (false))else(Option.bind (gU U p0.1) fun r9=>(if r9=true then(Option.bind (fE U p0.2) fun r13=>(oD  (r13)))else(oD  (false))))
def dH (U:Nat) (p0:cW):Option (Bool):=
 if(List.length p0.1:Int)<(1:Int)then(oC U p0 (true))else(if(24:Int)<(List.length p0.1:Int)then(oC U p0 (true))else(oC U p0 (decide ((List.length p0.2:Int)≠(List.length p0.1:Int)))))
theorem EG:aQ Tryz.prog 54:=Tryz.call54
theorem pS (U:Nat) {p0:cW} (v0:Value)  (v1:Value)  (z2:mB) (r:Bool) (h:dH U p0=some r):
  aS Tryz.prog 54 #[Value.agg #[v0,v1]] [Sl bD v0 p0.1,S2 a_ v1 z2 p0.2] (fun x:Unit=>vB (r)) (fun x l=>l) (fun _ l=>l):=by
 refine aS.of Tryz.func54 rfl Tryz.ntmps54 rfl fun c=>?_
 refine sqR<|aF (aJ.box (cs:=[v0,v1]) rfl rfl) rfl fun b1=>qkAsg rfl<|dtN<|sqR<|qkFld rfl<|qkLd 0 rfl<|qkLen (aC.fact 0 rfl) rfl<|qkAsg rfl<|dtN<|aG<|aG<|midU (fun a3=>oC U p0 a3=some r) (fun a3 b4=>[(1,vP b1),(19,vB (a3))]) (fun a3 b4=>[bS b1 [v0,v1] 29]) ?_ ?_
 ·refine aK<|qkMove rfl<|qkLss rfl<|qkMove rfl ?_
  refine AW h rfl (fun _ h=>?_) fun _ h=>?_
  ·refine gdSkip rfl<|gdSkip rfl<|qkPkT rfl<|qkMove rfl<|gdSkip rfl<|gdSkip rfl<|gdSkip rfl<|gdSkip rfl<|gdSkip rfl<|qkPkT rfl<|dtN ?_
   exact fM (true) () h SF rfl
  refine gyMove rfl<|aN rfl (rZ rfl rfl) rfl<|qkPkF rfl<|qkMove rfl ?_
  refine AW h rfl (fun _ h=>?_) fun _ h=>?_
  ·refine gdSkip rfl<|gdSkip rfl<|gdSkip rfl<|gdSkip rfl<|gdSkip rfl<|qkPkT rfl<|dtN ?_
   exact fM (true) () h SF rfl
  refine aN rfl (dY rfl rfl rfl rfl rfl) rfl<|aN rfl (eX 0 rfl rfl rfl rfl rfl) rfl<|aN rfl (iL rfl (aC.fact 1 rfl) rfl) rfl<|gyMove rfl<|aN rfl (IA rfl rfl) rfl<|qkPkF rfl<|dtN ?_
  exact fM (decide ((List.length p0.2:Int)≠(List.length p0.1:Int))) () h SF rfl
 intro a3 b4 h
 refine z_ h rfl (fun _ h=>?_) fun _ h=>?_
 ·refine sqR<|qkAsg rfl<|dtN<|aR<|aI ?_
  cases h
  exact vT rfl
 refine cJ<|aG<|midU (fun a7=>oD  a7=some r) (fun a7 b8=>[(2,vB (a7))]) (fun a7 b8=>[]) ?_ ?_
 ·refine aK<|qkFld rfl<|qkLd 0 rfl<|bnE h fun r9 w10 h=>aF (aJ.callQ XS (BN U v0 r9 w10) rfl (lH [0] rfl)) rfl fun x11=>qkMove rfl ?_
  refine xH (by exact rfl) (by exact rfl) (fun hp12=>?_) (fun hp12=>?_)
  ·have h:=Kw hp12 h
   refine aN rfl (dY rfl rfl rfl rfl rfl) rfl<|aN rfl (eX 0 rfl rfl rfl rfl rfl) rfl<|bnE h fun r13 w14 h=>pX rfl (aJ.callQ XT (En U v1 z2 r13 w14) rfl (lH [1] rfl)) rfl fun x15=>qkPkT rfl<|qkAsg rfl<|dtN ?_
   exact bV (r13) () h SF .nil (aD.refl _ _)
  have h:=Hg hp12 h
  refine gdSkip rfl<|gdSkip rfl<|gdSkip rfl<|qkPkF rfl<|qkAsg rfl<|dtN ?_
  exact bV (false) () h SF .nil (aD.refl _ _)
 intro a7 b8 h
 unfold oD at h
 refine aR ?_
 cases h
 exact kH rfl
end
section
def pK  (a4:Int):Option (Int):=
 some (a4)
def eN (U:Nat) (p0:Int) (p1:Int):Option (Int):=
 if p1<(1:Int)then(some (0:Int))else(ck (p1≠0) (if(Int.tmod p0 p1)<(0:Int)then(pK  (wI .i64 ((Int.tmod p0 p1)+p1)))else(pK  (Int.tmod p0 p1))))
theorem AA:aQ Tryz.prog 15:=Tryz.call15
theorem iC (U:Nat) {p0:Int} {p1:Int} (r:Int) (h:eN U p0 p1=some r):
  aS Tryz.prog 15 #[vI (p0),vI (p1)] [] (fun x:Unit=>vI (r)) (fun x l=>l) (fun _ l=>l):=by
 refine aS.of Tryz.func15 rfl Tryz.ntmps15 rfl fun c=>?_
 refine sqR<|qkAsg rfl<|dtN<|aG<|sqR<|qkMove rfl<|qkLss rfl<|dtN ?_
 refine eF h rfl (fun h=>?_) fun h=>?_
 ·refine sqR<|qkAsg rfl<|dtN<|aR<|aI ?_
  cases h
  exact kH rfl
 refine cJ<|sqR<|qkMove rfl<|qkMove rfl<|ckE h fun j2 h=>aB (Lh rfl rfl j2) rfl<|qkAsg rfl<|dtN<|aG<|midU (fun a4=>pK  a4=some r) (fun a4 b5=>[(0,vI (a4))]) (fun a4 b5=>[]) ?_ ?_
 ·refine sqR<|qkMove rfl<|qkLss rfl<|dtN ?_
  refine eF h rfl (fun h=>?_) fun h=>?_
  ·refine aK<|qkMove rfl<|qkMove rfl<|qkAdd rfl<|qkAsg rfl<|dtN ?_
   exact fM (wI .i64 ((Int.tmod p0 p1)+p1)) () h SF rfl
  refine cJ ?_
  exact fM (Int.tmod p0 p1) () h SF rfl
 intro a4 b5 h
 unfold pK at h
 refine sqR<|qkMove rfl<|qkAsg rfl<|dtN<|aR ?_
 cases h
 exact kH rfl
end
section
def qQ (U:Nat) (p0:aL) (p1:Int):Option (Int):=
 if p1<(List.length p0:Int)then(ck (0<=p1∧p1<(List.length p0:Int)) (some (at' p0 p1)))else(some (0:Int))
theorem GG:aQ Tryz.prog 45:=Tryz.call45
theorem yM (U:Nat) {p0:aL} {p1:Int} (v0:Value) (r:Int) (h:qQ U p0 p1=some r):
  aS Tryz.prog 45 #[v0,vI (p1)] [Sl bD v0 p0] (fun x:Unit=>vI (r)) (fun x l=>l) (fun _ l=>l):=by
 refine aS.of Tryz.func45 rfl Tryz.ntmps45 rfl fun c=>?_
 refine sqR<|qkAsg rfl<|dtN<|aG<|sqR<|qkMove rfl<|qkMove rfl<|qkLen (aC.fact 0 rfl) rfl<|qkLss rfl<|dtN ?_
 refine eF h rfl (fun h=>?_) fun h=>?_
 ·refine sqR<|qkMove rfl<|qkMove rfl<|ckE h fun j2 h=>aB (aX rfl rfl (aC.fact 0 rfl) rfl rfl j2) rfl<|aB (bQ rfl (aC.fact 0 rfl) rfl rfl rfl cZ j2) rfl<|qkAsg rfl<|dtN<|aR<|aI ?_
  cases h
  exact kH rfl
 refine cJ<|sqR<|qkAsg rfl<|dtN<|aR ?_
 cases h
 exact kH rfl
end
section
def mP (r3:Int) (a13:aL):Option qS:=
 some ((a13,(List.replicate (Int.toNat (wI .i64 ((1:Int)+r3))) ([]:eO))))
def qJ (a21:oJ) (ag20:sJ->Option qS) (a32:Int):Option qS:=
 ck ((List.length a21.2:Int)+(List.length ([a32]):Int)<=1099511627) (ag20 ((wI .i64 (a21.1+(1:Int))),(a21.2++[a32])))
def jM (ag40:eK->Option qS) (a47:dL):Option qS:=
 ag40 (a47.1,(wI .i64 (a47.2+(1:Int))))
def jN (a21:oJ) (ag20:sJ->Option qS) (a41:dL) (ag40:eK->Option qS):Option qS:=
 if a41.2<a21.1 then(ck (0<=a41.2∧a41.2<(List.length a21.2:Int)) (if(at' a21.2 a41.2)=a41.1 then(ck ((256:Int)≠0) (jM ag40 ((Int.tmod (wI .i64 (a41.1+(1:Int))) (256:Int)),(-1:Int))))else(jM ag40 (a41.1,a41.2))))else(qJ a21 ag20 (a41.1))
def gO (U:Nat) (p0:Am) (r3:Int) (a21:oJ) (ag20:sJ->Option qS):Option qS:=
 if a21.1<(wI .i64 ((1:Int)+r3))then(Option.bind (qQ U p0.2.2.2.1 a21.1) fun r25=>(Option.bind (eN U r25 (256:Int)) fun r28=>(bE (jN a21 ag20) U (r28,(0:Int)))))else(mP r3 (a21.2))
def kK (U:Nat) (p0:Am) (p1:Int):Option qS:=
 Option.bind (eN U (wI .i64 (p0.1 - (1:Int))) p1) fun r3=>(ck (0<=(wI .i64 ((1:Int)+r3))∧(wI .i64 ((1:Int)+r3))<=1099511627) (bE (gO U p0 r3) U ((0:Int),([]:aL))))
theorem Sd:aQ Tryz.prog 41:=Tryz.call41
theorem xF (U:Nat) {p0:Am} {p1:Int} (v0:Value)  (v1:Value)  (v2:Value) (r:Al) (h:kK U p0 p1=some r):
  aS Tryz.prog 41 #[Value.agg #[vI (p0.1),v0,v1,v2,vB (p0.2.2.2.2.1),vB (p0.2.2.2.2.2)],vI (p1)] [Sl bD v0 p0.2.1,Sl bD v1 p0.2.2.1,Sl bD v2 p0.2.2.2.1] (fun x:Mn=>Value.agg #[x.1,x.2.1]) (fun x l=>Ar bO x.1 r.1::Ar cR.raw x.2.1 x.2.2::gZ bM x.2.2 r.2::l) (fun _ l=>l):=by
 refine aS.of Tryz.func41 rfl Tryz.ntmps41 rfl fun c=>?_
 refine sqR<|aF (aJ.box (cs:=[vI (p0.1),v0,v1,v2,vB (p0.2.2.2.2.1),vB (p0.2.2.2.2.2)]) rfl rfl) rfl fun b1=>aF (aJ.alloc (cs:=[kT,kT]) rfl rfl) rfl fun b2=>dtN<|sqR<|qkFld rfl<|qkLd 1 rfl<|aB (pT rfl rfl) rfl<|qkMove rfl<|bnE h fun r3 w4 h=>aF (aJ.callQ AA (iC U  r3 w4) rfl .nil) rfl fun x5=>qkAdd rfl<|qkAsg rfl<|dtN<|sqR<|qkMove rfl<|ckE h fun j6 h=>iR (wL bM (Int.toNat (wI .i64 ((1:Int)+r3))))<|aF (oO (e:=cR.raw) (kT) rfl rfl rfl rfl j6 rfl rfl rfl) rfl fun u7=>bY (Know.one (aC.sl (bA (i:=0) (j:=1) rfl rfl bG))) fun ho8=>?_
 refine aB (RE (r:=Value.agg #[kT,u7]) rfl (by intro w;simp[Instr.build,Instr.fill,eG,dR,cT,eH,eI,dU,fP,kA ho8])) rfl ?_
 refine aF (aJ.alloc (cs:=[kT,kT]) rfl rfl) rfl fun b9=>bY (Know.one (aC.sl (bA (i:=1) (j:=2) rfl rfl bG))) fun ho10=>bK 0 (vs:=[kT,u7]) rfl rfl (cK rfl (cK ho10 rfl)) rfl rfl rfl<|dtN<|aG<|midL (B:=Value) (fun a13=>mP r3 a13=some r) (fun a13 b14=>[(4,vP b2),(6,vP b9)]) (fun a13 b14=>[bS b9 [b14,u7] 29,Ar cR.raw u7 (List.replicate (Int.toNat (wI .i64 ((1:Int)+r3))) (kT)),gZ bM (List.replicate (Int.toNat (wI .i64 ((1:Int)+r3))) (kT)) (List.replicate (Int.toNat (wI .i64 ((1:Int)+r3))) ([]:eO)),bS b2 [kT,kT] 29,Ar bO b14 a13]) ?_ ?_
 ·refine sqR<|qkAsg rfl<|dtN<|aO<|iR (iF bO)<|loopL (B:=Value) (gO U p0 r3) (fun a21 b22=>[(2,vP b1),(4,vP b2),(5,vI (wI .i64 ((1:Int)+r3))),(6,vP b9),(7,vI (a21.1))]) (fun a21 b22=>[bS b9 [b22,u7] 29,Ar cR.raw u7 (List.replicate (Int.toNat (wI .i64 ((1:Int)+r3))) (kT)),gZ bM (List.replicate (Int.toNat (wI .i64 ((1:Int)+r3))) (kT)) (List.replicate (Int.toNat (wI .i64 ((1:Int)+r3))) ([]:eO)),bS b2 [kT,kT] 29,bS b1 [vI (p0.1),v0,v1,v2,vB (p0.2.2.2.2.1),vB (p0.2.2.2.2.2)] 24,Ar bO b22 a21.2]) ((0:Int),([]:aL)) (kT) h SF (aV.ix [1,2,3,4,5,0] rfl rfl) ?_
  intro k23 a21 b22 h
  refine aG<|sqR<|qkMove rfl<|qkMove rfl<|qkLss rfl<|dtN ?_
  refine eF h rfl (fun h=>?_) fun h=>?_
  ·refine cJ<|aG<|aO<|sqR<|qkFld rfl<|qkLd 4 rfl<|qkMove rfl<|bnE h fun r25 w26 h=>aF (aJ.callQ GG (yM U v2 r25 w26) rfl (lH [2] rfl)) rfl fun x27=>bnE h fun r28 w29 h=>aF (aJ.callQ AA (iC U  r28 w29) rfl .nil) rfl fun x30=>qkAsg rfl<|dtN<|aG<|midU (fun a32=>qJ a21 (bE (gO U p0 r3) k23) a32=some r) (fun a32 b33=>[(2,vP b1),(4,vP b2),(5,vI (wI .i64 ((1:Int)+r3))),(6,vP b9),(7,vI (a21.1)),(8,vI (a32))]) (fun a32 b33=>[bS b9 [b22,u7] 29,Ar cR.raw u7 (List.replicate (Int.toNat (wI .i64 ((1:Int)+r3))) (kT)),gZ bM (List.replicate (Int.toNat (wI .i64 ((1:Int)+r3))) (kT)) (List.replicate (Int.toNat (wI .i64 ((1:Int)+r3))) ([]:eO)),bS b2 [kT,kT] 29,bS b1 [vI (p0.1),v0,v1,v2,vB (p0.2.2.2.2.1),vB (p0.2.2.2.2.2)] 24,Ar bO b22 a21.2]) ?_ ?_
   ·refine sqR<|qkAsg rfl<|dtN<|aO<|loopL (jN a21 (bE (gO U p0 r3) k23)) (fun a41 b42=>[(2,vP b1),(4,vP b2),(5,vI (wI .i64 ((1:Int)+r3))),(6,vP b9),(7,vI (a21.1)),(8,vI (a41.1)),(9,vI (a41.2))]) (fun a41 b42=>[bS b9 [b22,u7] 29,Ar cR.raw u7 (List.replicate (Int.toNat (wI .i64 ((1:Int)+r3))) (kT)),gZ bM (List.replicate (Int.toNat (wI .i64 ((1:Int)+r3))) (kT)) (List.replicate (Int.toNat (wI .i64 ((1:Int)+r3))) ([]:eO)),bS b2 [kT,kT] 29,bS b1 [vI (p0.1),v0,v1,v2,vB (p0.2.2.2.2.1),vB (p0.2.2.2.2.2)] 24,Ar bO b22 a21.2]) (r28,(0:Int)) () h SF (aV.refl _) ?_
    intro k43 a41 b42 h
    refine aG<|sqR<|qkMove rfl<|qkMove rfl<|qkLss rfl<|dtN ?_
    refine eF h rfl (fun h=>?_) fun h=>?_
    ·refine cJ<|aG<|midU (fun a47=>jM (bE (jN a21 (bE (gO U p0 r3) k23)) k43) a47=some r) (fun a47 b48=>[(2,vP b1),(4,vP b2),(5,vI (wI .i64 ((1:Int)+r3))),(6,vP b9),(7,vI (a21.1)),(8,vI (a47.1)),(9,vI (a47.2))]) (fun a47 b48=>[bS b9 [b22,u7] 29,Ar cR.raw u7 (List.replicate (Int.toNat (wI .i64 ((1:Int)+r3))) (kT)),gZ bM (List.replicate (Int.toNat (wI .i64 ((1:Int)+r3))) (kT)) (List.replicate (Int.toNat (wI .i64 ((1:Int)+r3))) ([]:eO)),bS b2 [kT,kT] 29,bS b1 [vI (p0.1),v0,v1,v2,vB (p0.2.2.2.2.1),vB (p0.2.2.2.2.2)] 24,Ar bO b22 a21.2]) ?_ ?_
     ·refine aO<|sqR<|qkFld rfl<|qkLd 0 rfl<|qkMove rfl<|ckE h fun j49 h=>aB (aX rfl rfl (aP (aC.res 5 rfl) cE) rfl rfl j49) rfl<|aB (bQ rfl (aP (aC.res 5 rfl) cE) rfl rfl rfl cZ j49) rfl<|qkMove rfl<|qkEql rfl<|dtN ?_
      refine eF h rfl (fun h=>?_) fun h=>?_
      ·refine aK<|qkMove rfl<|qkAdd rfl<|ckE h fun j51 h=>aB (Lh rfl rfl j51) rfl<|qkAsg rfl<|qkAsg rfl<|dK<|inT ?_
       exact fM ((Int.tmod (wI .i64 (a41.1+(1:Int))) (256:Int)),(-1:Int)) () h SF rfl
      refine dD<|inT ?_
      exact fM (a41.1,a41.2) () h SF rfl
     intro a47 b48 h
     unfold jM at h
     refine aK<|qkMove rfl<|qkAdd rfl<|qkAsg rfl<|dtN ?_
     exact xV (a47.1,(wI .i64 (a47.2+(1:Int)))) () h SF rfl
    refine eZ ?_
    exact fM (a41.1) () h SF rfl
   intro a32 b33 h
   refine aK<|qkFld rfl<|qkLd 0 rfl<|qkMove rfl<|aF (cC (e:=bO) ([a32]) [(0,vI (a32))] rfl rfl rfl rfl (mT (vI (a32)) rfl) rfl rfl rfl) rfl fun u34=>ckE h fun j36 h=>aF (fN 6 cE rfl rfl rfl (aP (aC.res 0 rfl) cE) rfl rfl rfl rfl j36 rfl) rfl fun u35=>qkFld rfl<|bY (Know.one ((aP (aC.res 6 rfl) cE))) fun ho37=>iQ 1 rfl rfl ho37 rfl rfl rfl<|dK<|inT<|aK<|qkMove rfl<|qkAdd rfl<|qkAsg rfl<|dtN ?_
   exact mO ((wI .i64 (a21.1+(1:Int))),(a21.2++[a32])) (u35) h SF (aV.ix [1,2,3,4,5,6] rfl rfl) (aD.refl _ _)
  refine eZ ?_
  exact bV (a21.2) (b22) h SF (aV.ix [0,1,2,3,5] rfl rfl) (aD.refl _ _)
 intro a13 b14 h
 unfold mP at h
 refine sqR<|qkLdA 0 rfl<|bY (Know.one ((aP (aC.res 4 rfl) cE))) fun ho15=>bY (Know.one (aC.sl (bA (i:=1) (j:=2) rfl rfl bG))) fun ho16=>bK 3 (vs:=[b14,u7]) rfl rfl (cK ho15 (cK ho16 rfl)) rfl rfl rfl<|dtN<|aR ?_
 cases h
 exact gC (b14,u7,(List.replicate (Int.toNat (wI .i64 ((1:Int)+r3))) (kT))) rfl rfl (RV.cell 3 rfl rfl rfl rfl) (aV.ix [4,1,2] rfl rfl) aD.nil
end
section
def tG  (a2:Unit):Option (Bool):=
 some (false)
def xD (p0:cW) (p1:Int) (p2:Int) (a6:Int) (ag5:(Int)->Option (Bool)):Option (Bool):=
 ck (0<=p1∧p1<(List.length p0.2:Int)) (if a6<(List.length (at' p0.2 p1):Int)then(ck (0<=p1∧p1<(List.length p0.2:Int)) (ck (0<=a6∧a6<(List.length (at' p0.2 p1):Int)) (if((at' (at' p0.2 p1) a6).1)=p2 then(some (true))else(ag5 (wI .i64 (a6+(1:Int)))))))else(tG  (())))
def lQ (U:Nat) (p0:cW) (p1:Int) (p2:Int):Option (Bool):=
 bE (xD p0 p1 p2) U (0:Int)
theorem Va:aQ Tryz.prog 117:=Tryz.call117
theorem HQ (U:Nat) {p0:cW} {p1:Int} {p2:Int} (v0:Value)  (v1:Value)  (z2:mB) (r:Bool) (h:lQ U p0 p1 p2=some r):
  aS Tryz.prog 117 #[Value.agg #[v0,v1],vI (p1),vI (p2)] [Sl bD v0 p0.1,S2 a_ v1 z2 p0.2] (fun x:Unit=>vB (r)) (fun x l=>l) (fun _ l=>l):=by
 refine aS.of Tryz.func117 rfl Tryz.ntmps117 rfl fun c=>?_
 unfold lQ at h
 refine sqR<|aF (aJ.box (cs:=[v0,v1]) rfl rfl) rfl fun b1=>qkAsg rfl<|dtN<|aG<|midU (fun a2=>tG  a2=some r) (fun a2 b3=>[]) (fun a2 b3=>[]) ?_ ?_
 ·refine sqR<|qkAsg rfl<|dtN<|aO<|loopL (xD p0 p1 p2) (fun a6 b7=>[(1,vI (p1)),(2,vI (p2)),(3,vP b1),(7,vI (a6))]) (fun a6 b7=>[bS b1 [v0,v1] 29]) (0:Int) () h SF (aV.refl _) ?_
  intro k8 a6 b7 h
  refine aG<|sqR<|qkMove rfl<|qkFld rfl<|qkLd 0 rfl<|qkMove rfl<|ckE h fun j9 h=>aB (cP rfl rfl (aC.fact 1 rfl) rfl rfl j9) rfl<|aB (cQ rfl (aC.fact 1 rfl) rfl rfl j9) rfl<|aB (fI rfl (aC.el (aC.fact 1 rfl) j9.1 j9.2) rfl) rfl<|qkLss rfl<|dtN ?_
  refine eF h rfl (fun h=>?_) fun h=>?_
  ·refine cJ<|aG<|aO<|sqR<|qkFld rfl<|qkLd 0 rfl<|qkMove rfl<|ckE h fun j11 h=>aB (cP rfl rfl (aC.fact 1 rfl) rfl rfl j11) rfl<|aB (cQ rfl (aC.fact 1 rfl) rfl rfl j11) rfl<|qkMove rfl<|ckE h fun j12 h=>aB (aX rfl rfl (aC.el (aC.fact 1 rfl) j11.1 j11.2) rfl rfl j12) rfl<|aB (nT rfl rfl rfl rfl rfl) rfl<|aB (pY rfl (aC.el (aC.fact 1 rfl) j11.1 j11.2) rfl rfl rfl Au j12) rfl<|qkMove rfl<|qkEql rfl<|dtN ?_
   refine eF h rfl (fun h=>?_) fun h=>?_
   ·refine sqR<|qkAsg rfl<|dtN<|aR<|bL<|aI<|aI<|bL<|aI ?_
    cases h
    exact vT rfl
   refine dD<|inT<|aK<|qkMove rfl<|qkAdd rfl<|qkAsg rfl<|dtN ?_
   exact xV (wI .i64 (a6+(1:Int))) () h SF rfl
  refine eZ ?_
  exact bV () (()) h SF .nil (aD.refl _ _)
 intro a2 b3 h
 unfold tG at h
 refine sqR<|qkAsg rfl<|dtN<|aR ?_
 cases h
 exact kH rfl
end
section
def nJ (p0:Am) (p1:cW) (p2:Int) (p3:Int) (p4:Int) (a4:Bool):Option (eV):=
 if a4=true then(some (p1.2))else(if p0.2.2.2.2.2=true then(ck (0<=p2∧p2<(List.length p1.2:Int)) (ck ((List.length ([(p3,p4)]):Int)+(List.length (at' p1.2 p2):Int)<=1099511627) (ck (0<=p2∧p2<(List.length p1.2:Int)) (ck (0<=p3∧p3<(List.length (List.set p1.2 (Int.toNat p2) (([(p3,p4)])++(at' p1.2 p2))):Int)) (ck ((List.length ([(p2,p4)]):Int)+(List.length (at' (List.set p1.2 (Int.toNat p2) (([(p3,p4)])++(at' p1.2 p2))) p3):Int)<=1099511627) (ck (0<=p3∧p3<(List.length (List.set p1.2 (Int.toNat p2) (([(p3,p4)])++(at' p1.2 p2))):Int)) (some (List.set (List.set p1.2 (Int.toNat p2) (([(p3,p4)])++(at' p1.2 p2))) (Int.toNat p3) (([(p2,p4)])++(at' (List.set p1.2 (Int.toNat p2) (([(p3,p4)])++(at' p1.2 p2))) p3))))))))))else(ck (0<=p2∧p2<(List.length p1.2:Int)) (ck (0<=p3∧p3<(List.length p1.2:Int)) (ck ((List.length (at' p1.2 p2):Int)+(List.length ([(p3,p4)]):Int)<=1099511627) (ck ((List.length (at' p1.2 p3):Int)+(List.length ([(p2,p4)]):Int)<=1099511627) (ck (Int.toNat p2≠Int.toNat p3) (ck (0<=p2∧p2<(List.length (List.set (List.set p1.2 (Int.toNat p2) ((at' p1.2 p2)++([(p3,p4)]))) (Int.toNat p3) ((at' p1.2 p3)++([(p2,p4)]))):Int)) (ck (0<=p3∧p3<(List.length (List.set (List.set p1.2 (Int.toNat p2) ((at' p1.2 p2)++([(p3,p4)]))) (Int.toNat p3) ((at' p1.2 p3)++([(p2,p4)]))):Int)) (some (List.set (List.set p1.2 (Int.toNat p2) ((at' p1.2 p2)++([(p3,p4)]))) (Int.toNat p3) ((at' p1.2 p3)++([(p2,p4)]))))))))))))
def lK (U:Nat) (p0:Am) (p1:cW) (p2:Int) (p3:Int) (p4:Int):Option (eV):=
 if p2=p3 then(nJ p0 p1 p2 p3 p4 (true))else(Option.bind (lQ U ((p1.1,p1.2)) p2 p3) fun r86=>(nJ p0 p1 p2 p3 p4 (r86)))
theorem Sm:aQ Tryz.prog 81:=Tryz.call81
theorem yG (U:Nat) {p0:Am} {p1:cW} {p2:Int} {p3:Int} {p4:Int} (v0:Value)  (v1:Value)  (v2:Value)  (v3:Value)  (v4:Value)  (w5:f_) (r:eV) (h:lK U p0 p1 p2 p3 p4=some r):
  CW Tryz.prog 81 #[Value.agg #[vI (p0.1),v0,v1,v2,vB (p0.2.2.2.2.1),vB (p0.2.2.2.2.2)],Value.agg #[v3,v4],vI (p2),vI (p3),vI (p4)] [Ar cR.raw v4 w5,gZ bM w5 p1.2] [Sl bD v0 p0.2.1,Sl bD v1 p0.2.2.1,Sl bD v2 p0.2.2.2.1,Sl bD v3 p1.1] (fun x:f_=>Value.tuple #[]) (fun x l=>Ar cR.raw v4 x::gZ bM x r::l):=by
 refine CW.of (vs:=[Value.agg #[vI (p0.1),v0,v1,v2,vB (p0.2.2.2.2.1),vB (p0.2.2.2.2.2)],Value.agg #[v3,v4],vI (p2),vI (p3),vI (p4)]) Tryz.func81 rfl Tryz.ntmps81 rfl fun c=>?_
 refine sqR<|aF (aJ.box (cs:=[vI (p0.1),v0,v1,v2,vB (p0.2.2.2.2.1),vB (p0.2.2.2.2.2)]) rfl rfl) rfl fun b1=>aF (aJ.box (cs:=[v3,v4]) rfl rfl) rfl fun b2=>dtN<|aG<|aG<|tI (B:=Unit) (fun a4=>nJ p0 p1 p2 p3 p4 a4=some r) (fun a4 b5=>[(2,vI (p2)),(3,vI (p3)),(4,vI (p4)),(5,vP b1),(6,vP b2),(20,vB (a4))]) (fun a4 b5=>[bS b2 [v3,v4] 29,bS b1 [vI (p0.1),v0,v1,v2,vB (p0.2.2.2.2.1),vB (p0.2.2.2.2.2)] 24,Ar cR.raw v4 w5,gZ bM w5 p1.2]) (fun a4 b5=>[Sl bD v0 p0.2.1,Sl bD v1 p0.2.2.1,Sl bD v2 p0.2.2.2.1,Sl bD v3 p1.1]) ?_ ?_
 ·refine aK<|qkMove rfl<|qkMove rfl<|qkEql rfl<|qkMove rfl ?_
  refine AW h rfl (fun _ h=>?_) fun _ h=>?_
  ·refine gdSkip rfl<|gdSkip rfl<|gdSkip rfl<|gdSkip rfl<|qkPkT rfl<|dtN ?_
   exact fM (true) () h SF rfl
  refine aN rfl (gH 0 rfl rfl rfl rfl) rfl<|gyMove rfl<|gyMove rfl<|bnE h fun r86 hr87 h=>pX rfl (aJ.callQ Va (HQ U v3 v4 (List.zip w5 p1.2) r86 hr87) rfl (aD.cons (aC.fact 3 rfl) (aD.cons (bA (i:=2) (j:=3) rfl rfl bG) .nil))) rfl fun x88=>qkPkF rfl<|dtN ?_
  exact fM (r86) () h SF rfl
 intro a4 b5 h
 refine z_ h rfl (fun _ h=>?_) fun _ h=>?_
 ·refine aR<|aI ?_
  cases h
  exact BW (w5) rfl rfl .ret (.inl rfl) (aV.ix [2,3] rfl rfl) aD.nil
 refine cJ<|sqR<|qkMove rfl<|qkMove rfl ?_
 refine aB (Br (r:=Value.agg #[vI (p3),vI (p4)]) rfl rfl (by intro w;simp[Instr.build,Instr.fill,eG,dR,cT,eH,eI,dU,fP])) rfl ?_
 refine qkMove rfl<|qkMove rfl ?_
 refine aB (Br (r:=Value.agg #[vI (p2),vI (p4)]) rfl rfl (by intro w;simp[Instr.build,Instr.fill,eG,dR,cT,eH,eI,dU,fP])) rfl ?_
 refine aF (aJ.alloc (cs:=QT) rfl rfl) rfl fun b7=>aF (aJ.alloc (cs:=QT) rfl rfl) rfl fun b8=>bK 1 (vs:=[vI (p3),vI (p4)]) rfl rfl rfl rfl rfl rfl<|bK 0 (vs:=[vI (p2),vI (p4)]) rfl rfl rfl rfl rfl rfl<|dtN<|aG<|sqR<|qkFld rfl<|qkLd 3 rfl<|dtN ?_
 refine z_ h rfl (fun _ h=>?_) fun _ h=>?_
 ·refine aG ?_
  refine JR.start [0,1,0,0,8,0,32,0,224,480,1016,2047,4095] 11 mixedOrders (by decide +kernel) ?_
  refine JR.open (by exact rfl) ?_
  refine jkFld rfl<|jkLd 2 rfl<|jkMove rfl<|jkLdA 1 rfl<|JR.loud rfl rfl rfl (cC (e:=bM) ([((p3,p4))]) [(0,Value.agg #[vI (p3),vI (p4)])] rfl rfl rfl rfl (wP (vI (p3)) (vI (p4))) rfl rfl rfl) rfl (fun u10=>(m_ [([3],[])] rfl)) fun u10=>jqN rfl (dY rfl rfl rfl rfl rfl)<|bI rfl (aV.cons 3 rfl .nil) .nil (eX 0 rfl rfl rfl rfl rfl) (aM.h (aV.ix [2] rfl rfl) .nil aM.z)<|jqN rfl (fO rfl)<|ckE h fun j11 h=>bX (cO 6 rfl) fun hl12=>?_
  refine bI rfl (aV.cons 5 rfl .nil) .nil (iS 0 rfl rfl rfl rfl rfl j11.1 (by have q1:=j11.2;have q2:=hl12;(try simp only[List.length_set]at q1);(try simp only[List.length_set]at q2);(try simp only[List.length_set]);omega)) (aM.h (aV.ix [4] rfl rfl) .nil aM.z) ?_
  refine bX (cO 6 rfl) fun hl13=>bI rfl (aV.cons 5 rfl .nil) .nil (nU 0 rfl rfl hl13 rfl rfl j11) (aM.h (aV.ix [4] rfl rfl) .nil aM.z)<|ckE h fun j15 h=>JR.loud rfl rfl rfl (fN 0 bG rfl rfl rfl (aC.row (j:=6) rfl bG j11.1 j11.2) rfl rfl rfl rfl j15 rfl) rfl (fun u14=>(m_ [([3],[])] rfl)) fun u14=>bH 11 rfl rfl<|ckE h fun j16 h=>aB (cP rfl rfl (bA (i:=5) (j:=6) rfl rfl bG) rfl rfl j16) rfl<|bY (Know.one ((aP (aC.res 0 rfl) bG))) fun ho17=>iR (vF (k:=p2) 6 0 rfl rfl rfl j16) ?_
  refine oM 4 5 ⟨j16.1,by first|exact j16.2|simpa using j16.2⟩ rfl rfl rfl rfl rfl (by simp) ho17 rfl ?_
  refine dtN<|aG ?_
  refine JR.start [0,1,0,0,8,0,32,0,224,480,1016,2047,4095] 11 mixedOrders (by decide +kernel) ?_
  refine JR.open (by exact rfl) ?_
  refine jkFld rfl<|jkLd 2 rfl<|jkMove rfl<|jkLdA 0 rfl<|JR.loud rfl rfl rfl (cC (e:=bM) ([((p2,p4))]) [(0,Value.agg #[vI (p2),vI (p4)])] rfl rfl rfl rfl (wP (vI (p2)) (vI (p4))) rfl rfl rfl) rfl (fun u18=>(m_ [([3],[])] rfl)) fun u18=>jqN rfl (dY rfl rfl rfl rfl rfl)<|bI rfl (aV.cons 3 rfl .nil) .nil (eX 0 rfl rfl rfl rfl rfl) (aM.h (aV.ix [2] rfl rfl) .nil aM.z)<|jqN rfl (fO rfl)<|ckE h fun j19 h=>bX (cO 6 rfl) fun hl20=>?_
  refine bI rfl (aV.cons 5 rfl .nil) .nil (iS 0 rfl rfl rfl rfl rfl j19.1 (by have q1:=j19.2;have q2:=hl20;(try simp only[List.length_set]at q1);(try simp only[List.length_set]at q2);(try simp only[List.length_set]);omega)) (aM.h (aV.ix [4] rfl rfl) .nil aM.z) ?_
  refine bX (cO 6 rfl) fun hl21=>bI rfl (aV.cons 5 rfl .nil) .nil (nU 0 rfl rfl hl21 rfl rfl j19) (aM.h (aV.ix [4] rfl rfl) .nil aM.z)<|ckE h fun j23 h=>JR.loud rfl rfl rfl (fN 0 bG rfl rfl rfl (aC.row (j:=6) rfl bG j19.1 (by first|exact j19.2|simpa using j19.2)) rfl rfl rfl rfl j23 rfl) rfl (fun u22=>(m_ [([3],[])] rfl)) fun u22=>?_
  refine bH 11 rfl rfl<|ckE h fun j24 h=>aB (cP rfl rfl (bA (i:=5) (j:=6) rfl rfl bG) rfl rfl j24) rfl<|bY (Know.one ((aP (aC.res 0 rfl) bG))) fun ho25=>iR (vF (k:=p3) 6 0 rfl rfl rfl j24) ?_
  refine oM 4 5 ⟨j24.1,by first|exact j24.2|simpa using j24.2⟩ rfl rfl rfl rfl rfl (by simp) ho25 rfl ?_
  refine dtN<|aR<|aI ?_
  cases h
  exact BW (List.set (List.set w5 (Int.toNat p2) u14) (Int.toNat p3) u22) rfl rfl .ret (.inl rfl) (aV.ix [4,5] rfl rfl) aD.nil
 refine cJ<|ckE h fun j26 h=>ckE h fun j29 h=>ckE h fun j34 h=>ckE h fun j37 h=>ckE h fun j38 h=>ckE h fun j39 h=>ckE h fun j43 h=>Ey [0,1,0,0,8,0,0,64,0,448,960,0,2048,8128,0,16384,0,114688,245760,0,524288,2097088,4194247,8388551,16777215,33554431] 24 [[0,1,2,3,4,5,6,7,8,9,10,11,14,15,16,17,18,19,12,13,20,21,22,23,24,25],[0,1,2,3,4,5,6,7,8,9,10,11,14,15,16,17,18,19,12,20,13,21,22,23,24,25],[0,1,2,3,4,5,6,7,8,9,10,11,14,15,16,17,18,19,20,12,13,21,22,23,24,25]] mixedOrders (by decide +kernel) (by decide +kernel) ?_
 intro o ho
 simp only[List.mem_cons,List.not_mem_nil,or_false]at ho
 rcases ho with rfl|rfl|rfl
 ·refine jkFld rfl<|jkLd 2 rfl<|jkMove rfl<|jkFld rfl<|jkLd 2 rfl<|jkMove rfl<|jkFld rfl<|jkLd 2 rfl<|jkMove rfl<|bX (cO 5 rfl) fun hl46=>?_
  refine bI rfl (aV.cons 4 rfl .nil) .nil (iS 0 rfl rfl rfl rfl rfl j26.1 (by have q1:=j26.2;have q2:=hl46;(try simp only[List.length_set]at q1);(try simp only[List.length_set]at q2);(try simp only[List.length_set]);omega)) aM.z ?_
  refine bX (cO 5 rfl) fun hl47=>bI rfl (aV.cons 4 rfl .nil) .nil (nU 0 rfl rfl hl47 rfl rfl j26) aM.z<|jkLdA 1 rfl<|jkFld rfl<|jkLd 2 rfl<|jkMove rfl<|bX (cO 5 rfl) fun hl48=>?_
  refine bI rfl (aV.cons 4 rfl .nil) .nil (iS 0 rfl rfl rfl rfl rfl j29.1 (by have q1:=j29.2;have q2:=hl48;(try simp only[List.length_set]at q1);(try simp only[List.length_set]at q2);(try simp only[List.length_set]);omega)) aM.z ?_
  refine bX (cO 5 rfl) fun hl49=>bI rfl (aV.cons 4 rfl .nil) .nil (nU 0 rfl rfl hl49 rfl rfl j29) aM.z<|jkLdA 0 rfl<|JR.loud rfl rfl rfl (cC (e:=bM) ([((p3,p4))]) [(0,Value.agg #[vI (p3),vI (p4)])] rfl rfl rfl rfl (wP (vI (p3)) (vI (p4))) rfl rfl rfl) rfl (fun u50=>(m_ [([1],[]),([5],[]),([5],[]),([3],[]),([5],[]),([5],[]),([3],[]),([3],[]),([3],[])] rfl)) fun u50=>JR.loud rfl rfl rfl (oY 6 bG rfl rfl rfl (aP (aC.res 0 rfl) bG) rfl rfl rfl rfl j26 j34 rfl) rfl (fun u51=>(m_ [([1],[]),([5],[]),([5],[]),([3],[]),([3],[]),([3],[])] rfl)) fun u51=>JR.loud rfl rfl rfl (cC (e:=bM) ([((p2,p4))]) [(0,Value.agg #[vI (p2),vI (p4)])] rfl rfl rfl rfl (wP (vI (p2)) (vI (p4))) rfl rfl rfl) rfl (fun u52=>(m_ [([6],[]),([6],[]),([4],[]),([3],[]),([6],[]),([6],[]),([4],[]),([4],[]),([4],[])] rfl)) fun u52=>JR.loud rfl rfl rfl (wV (j:=p2) 7 bG rfl rfl rfl (aP (aC.res 0 rfl) bG) rfl rfl rfl rfl j29 j37 rfl j38) rfl (fun u53=>(m_ [([4],[]),([4],[])] rfl)) fun u53=>bX (cO 7 rfl) fun hl54=>?_
  refine bI rfl (aV.cons 6 rfl .nil) .nil (iS 0 rfl rfl rfl rfl rfl j39.1 (by have q1:=j39.2;have q2:=hl54;(try simp only[List.length_set]at q1);(try simp only[List.length_set]at q2);(try simp only[List.length_set]);omega)) (hkI rfl) ?_
  refine bX (Aq (k:=p2) (j:=p3) 7 rfl (by omega) ⟨j39.1,by first|exact j39.2|simpa using j39.2⟩) fun ho55=>?_
  refine oW rfl rfl rfl (zE 6 7 ⟨j39.1,by first|exact j39.2|simpa using j39.2⟩ rfl rfl rfl rfl (by simp) ho55 rfl) (fun x56=>(m_ [([4],[])] rfl)) fun x56=>?_
  refine bH 24 rfl rfl<|bY (cO 7 rfl) fun hl57=>?_
  refine aB (iS 6 rfl rfl rfl rfl rfl j43.1 (by have q1:=j43.2;have q2:=hl57;(try simp only[List.length_set]at q1);(try simp only[List.length_set]at q2);(try simp only[List.length_set]);omega)) rfl ?_
  refine bY (yS 7 (k:=p3) rfl ⟨j43.1,by first|exact j43.2|simpa using j43.2⟩) fun ho58=>?_
  refine oM 6 7 ⟨j43.1,by first|exact j43.2|simpa using j43.2⟩ rfl rfl rfl rfl rfl (by simp) ho58 rfl ?_
  refine dK ?_
  cases h
  exact BW (List.set (List.set w5 (Int.toNat p2) u51) (Int.toNat p3) u53) rfl rfl .normal (.inr rfl) (aV.ix [6,7] rfl rfl) aD.nil
 ·refine jkFld rfl<|jkLd 2 rfl<|jkMove rfl<|jkFld rfl<|jkLd 2 rfl<|jkMove rfl<|jkFld rfl<|jkLd 2 rfl<|jkMove rfl<|bX (cO 5 rfl) fun hl59=>?_
  refine bI rfl (aV.cons 4 rfl .nil) .nil (iS 0 rfl rfl rfl rfl rfl j26.1 (by have q1:=j26.2;have q2:=hl59;(try simp only[List.length_set]at q1);(try simp only[List.length_set]at q2);(try simp only[List.length_set]);omega)) aM.z ?_
  refine bX (cO 5 rfl) fun hl60=>bI rfl (aV.cons 4 rfl .nil) .nil (nU 0 rfl rfl hl60 rfl rfl j26) aM.z<|jkLdA 1 rfl<|jkFld rfl<|jkLd 2 rfl<|jkMove rfl<|bX (cO 5 rfl) fun hl61=>?_
  refine bI rfl (aV.cons 4 rfl .nil) .nil (iS 0 rfl rfl rfl rfl rfl j29.1 (by have q1:=j29.2;have q2:=hl61;(try simp only[List.length_set]at q1);(try simp only[List.length_set]at q2);(try simp only[List.length_set]);omega)) aM.z ?_
  refine bX (cO 5 rfl) fun hl62=>bI rfl (aV.cons 4 rfl .nil) .nil (nU 0 rfl rfl hl62 rfl rfl j29) aM.z<|jkLdA 0 rfl<|JR.loud rfl rfl rfl (cC (e:=bM) ([((p3,p4))]) [(0,Value.agg #[vI (p3),vI (p4)])] rfl rfl rfl rfl (wP (vI (p3)) (vI (p4))) rfl rfl rfl) rfl (fun u63=>(m_ [([1],[]),([5],[]),([5],[]),([3],[]),([5],[]),([5],[]),([3],[]),([3],[]),([3],[])] rfl)) fun u63=>JR.loud rfl rfl rfl (cC (e:=bM) ([((p2,p4))]) [(0,Value.agg #[vI (p2),vI (p4)])] rfl rfl rfl rfl (wP (vI (p2)) (vI (p4))) rfl rfl rfl) rfl (fun u64=>(m_ [([6],[]),([6],[]),([4],[]),([3],[]),([6],[]),([6],[]),([4],[]),([4],[]),([4],[])] rfl)) fun u64=>JR.loud rfl rfl rfl (oY 7 bG rfl rfl rfl (aP (aC.res 1 rfl) bG) rfl rfl rfl rfl j26 j34 rfl) rfl (fun u65=>(m_ [([2],[]),([6],[]),([6],[]),([4],[]),([4],[]),([4],[])] rfl)) fun u65=>JR.loud rfl rfl rfl (wV (j:=p2) 7 bG rfl rfl rfl (aP (aC.res 0 rfl) bG) rfl rfl rfl rfl j29 j37 rfl j38) rfl (fun u66=>(m_ [([4],[]),([4],[])] rfl)) fun u66=>bX (cO 7 rfl) fun hl67=>?_
  refine bI rfl (aV.cons 6 rfl .nil) .nil (iS 0 rfl rfl rfl rfl rfl j39.1 (by have q1:=j39.2;have q2:=hl67;(try simp only[List.length_set]at q1);(try simp only[List.length_set]at q2);(try simp only[List.length_set]);omega)) (hkI rfl) ?_
  refine bX (Aq (k:=p2) (j:=p3) 7 rfl (by omega) ⟨j39.1,by first|exact j39.2|simpa using j39.2⟩) fun ho68=>?_
  refine oW rfl rfl rfl (zE 6 7 ⟨j39.1,by first|exact j39.2|simpa using j39.2⟩ rfl rfl rfl rfl (by simp) ho68 rfl) (fun x69=>(m_ [([4],[])] rfl)) fun x69=>?_
  refine bH 24 rfl rfl<|bY (cO 7 rfl) fun hl70=>?_
  refine aB (iS 6 rfl rfl rfl rfl rfl j43.1 (by have q1:=j43.2;have q2:=hl70;(try simp only[List.length_set]at q1);(try simp only[List.length_set]at q2);(try simp only[List.length_set]);omega)) rfl ?_
  refine bY (yS 7 (k:=p3) rfl ⟨j43.1,by first|exact j43.2|simpa using j43.2⟩) fun ho71=>?_
  refine oM 6 7 ⟨j43.1,by first|exact j43.2|simpa using j43.2⟩ rfl rfl rfl rfl rfl (by simp) ho71 rfl ?_
  refine dK ?_
  cases h
  exact BW (List.set (List.set w5 (Int.toNat p2) u65) (Int.toNat p3) u66) rfl rfl .normal (.inr rfl) (aV.ix [6,7] rfl rfl) aD.nil
 refine jkFld rfl<|jkLd 2 rfl<|jkMove rfl<|jkFld rfl<|jkLd 2 rfl<|jkMove rfl<|jkFld rfl<|jkLd 2 rfl<|jkMove rfl<|bX (cO 5 rfl) fun hl72=>?_
 refine bI rfl (aV.cons 4 rfl .nil) .nil (iS 0 rfl rfl rfl rfl rfl j26.1 (by have q1:=j26.2;have q2:=hl72;(try simp only[List.length_set]at q1);(try simp only[List.length_set]at q2);(try simp only[List.length_set]);omega)) aM.z ?_
 refine bX (cO 5 rfl) fun hl73=>bI rfl (aV.cons 4 rfl .nil) .nil (nU 0 rfl rfl hl73 rfl rfl j26) aM.z<|jkLdA 1 rfl<|jkFld rfl<|jkLd 2 rfl<|jkMove rfl<|bX (cO 5 rfl) fun hl74=>?_
 refine bI rfl (aV.cons 4 rfl .nil) .nil (iS 0 rfl rfl rfl rfl rfl j29.1 (by have q1:=j29.2;have q2:=hl74;(try simp only[List.length_set]at q1);(try simp only[List.length_set]at q2);(try simp only[List.length_set]);omega)) aM.z ?_
 refine bX (cO 5 rfl) fun hl75=>bI rfl (aV.cons 4 rfl .nil) .nil (nU 0 rfl rfl hl75 rfl rfl j29) aM.z<|jkLdA 0 rfl<|JR.loud rfl rfl rfl (cC (e:=bM) ([((p2,p4))]) [(0,Value.agg #[vI (p2),vI (p4)])] rfl rfl rfl rfl (wP (vI (p2)) (vI (p4))) rfl rfl rfl) rfl (fun u76=>(m_ [([5],[]),([5],[]),([3],[]),([2],[]),([5],[]),([5],[]),([3],[]),([3],[]),([3],[])] rfl)) fun u76=>JR.loud rfl rfl rfl (cC (e:=bM) ([((p3,p4))]) [(0,Value.agg #[vI (p3),vI (p4)])] rfl rfl rfl rfl (wP (vI (p3)) (vI (p4))) rfl rfl rfl) rfl (fun u77=>(m_ [([2],[]),([6],[]),([6],[]),([4],[]),([6],[]),([6],[]),([4],[]),([4],[]),([4],[])] rfl)) fun u77=>JR.loud rfl rfl rfl (oY 7 bG rfl rfl rfl (aP (aC.res 0 rfl) bG) rfl rfl rfl rfl j26 j34 rfl) rfl (fun u78=>(m_ [([2],[]),([6],[]),([6],[]),([4],[]),([4],[]),([4],[])] rfl)) fun u78=>JR.loud rfl rfl rfl (wV (j:=p2) 7 bG rfl rfl rfl (aP (aC.res 1 rfl) bG) rfl rfl rfl rfl j29 j37 rfl j38) rfl (fun u79=>(m_ [([4],[]),([4],[])] rfl)) fun u79=>bX (cO 7 rfl) fun hl80=>?_
 refine bI rfl (aV.cons 6 rfl .nil) .nil (iS 0 rfl rfl rfl rfl rfl j39.1 (by have q1:=j39.2;have q2:=hl80;(try simp only[List.length_set]at q1);(try simp only[List.length_set]at q2);(try simp only[List.length_set]);omega)) (hkI rfl) ?_
 refine bX (Aq (k:=p2) (j:=p3) 7 rfl (by omega) ⟨j39.1,by first|exact j39.2|simpa using j39.2⟩) fun ho81=>?_
 refine oW rfl rfl rfl (zE 6 7 ⟨j39.1,by first|exact j39.2|simpa using j39.2⟩ rfl rfl rfl rfl (by simp) ho81 rfl) (fun x82=>(m_ [([4],[])] rfl)) fun x82=>?_
 refine bH 24 rfl rfl<|bY (cO 7 rfl) fun hl83=>?_
 refine aB (iS 6 rfl rfl rfl rfl rfl j43.1 (by have q1:=j43.2;have q2:=hl83;(try simp only[List.length_set]at q1);(try simp only[List.length_set]at q2);(try simp only[List.length_set]);omega)) rfl ?_
 refine bY (yS 7 (k:=p3) rfl ⟨j43.1,by first|exact j43.2|simpa using j43.2⟩) fun ho84=>?_
 refine oM 6 7 ⟨j43.1,by first|exact j43.2|simpa using j43.2⟩ rfl rfl rfl rfl rfl (by simp) ho84 rfl ?_
 refine dK ?_
 cases h
 exact BW (List.set (List.set w5 (Int.toNat p2) u78) (Int.toNat p3) u79) rfl rfl .normal (.inr rfl) (aV.ix [6,7] rfl rfl) aD.nil
end
section
def nH (r3:Al) (a11:eV):Option qS:=
 some ((r3.1,a11))
def rR (U:Nat) (p0:Am) (r3:Al) (a19:Int×eV) (ag18:(Int×eV)->Option qS):Option qS:=
 if a19.1<(List.length a19.2:Int)then(Option.bind (qQ U p0.2.1 (wI .i64 (a19.1 - (1:Int)))) fun r23=>(Option.bind (eN U r23 a19.1) fun r26=>(Option.bind (qQ U p0.2.2.1 (wI .i64 (a19.1 - (1:Int)))) fun r29=>(Option.bind (eN U r29 (15:Int)) fun r32=>(Option.bind (lK U ((p0.1,p0.2.1,p0.2.2.1,p0.2.2.2.1,p0.2.2.2.2.1,p0.2.2.2.2.2)) ((r3.1,a19.2)) r26 a19.1 (wI .i64 ((1:Int)+r32))) fun r35=>(ag18 ((wI .i64 (a19.1+(1:Int))),r35)))))))else(nH r3 (a19.2))
def lJ (U:Nat) (p0:Am) (p1:Int):Option qS:=
 Option.bind (kK U ((p0.1,p0.2.1,p0.2.2.1,p0.2.2.2.1,p0.2.2.2.2.1,p0.2.2.2.2.2)) p1) fun r3=>(bE (rR U p0 r3) U ((1:Int),r3.2))
theorem Sf:aQ Tryz.prog 52:=Tryz.call52
theorem yF (U:Nat) {p0:Am} {p1:Int} (v0:Value)  (v1:Value)  (v2:Value) (r:Al) (h:lJ U p0 p1=some r):
  aS Tryz.prog 52 #[Value.agg #[vI (p0.1),v0,v1,v2,vB (p0.2.2.2.2.1),vB (p0.2.2.2.2.2)],vI (p1)] [Sl bD v0 p0.2.1,Sl bD v1 p0.2.2.1,Sl bD v2 p0.2.2.2.1] (fun x:Mn=>Value.agg #[x.1,x.2.1]) (fun x l=>Ar bO x.1 r.1::Ar cR.raw x.2.1 x.2.2::gZ bM x.2.2 r.2::l) (fun _ l=>l):=by
 refine aS.of Tryz.func52 rfl Tryz.ntmps52 rfl fun c=>?_
 refine sqR<|aF (aJ.box (cs:=[vI (p0.1),v0,v1,v2,vB (p0.2.2.2.2.1),vB (p0.2.2.2.2.2)]) rfl rfl) rfl fun b1=>aF (aJ.alloc (cs:=[kT,kT]) rfl rfl) rfl fun b2=>dtN<|sqR<|qkLdA 1 rfl<|qkMove rfl<|bnE h fun r3 w4 h=>aF (aJ.callQ Sd (xF U v0 v1 v2 r3 w4) rfl (lH [0,1,2] rfl)) rfl fun x5=>aF (aJ.alloc (cs:=[kT,kT]) rfl rfl) rfl fun b6=>bY (Know.one ((aP (aC.res 1 rfl) cE))) fun ho7=>bY (Know.one (aC.sl (bA (i:=2) (j:=3) rfl rfl bG))) fun ho8=>bK 0 (vs:=[x5.1,x5.2.1]) rfl rfl (cK ho7 (cK ho8 rfl)) rfl rfl rfl<|dtN<|aG<|midL (B:=f_) (fun a11=>nH r3 a11=some r) (fun a11 b12=>[(4,vP b2),(5,vP b6)]) (fun a11 b12=>[bS b6 [x5.1,x5.2.1] 29,Ar bO x5.1 r3.1,Ar cR.raw x5.2.1 b12,gZ bM b12 a11,bS b2 [kT,kT] 29]) ?_ ?_
 ·refine sqR<|qkAsg rfl<|dtN<|aO<|loopL (B:=f_) (rR U p0 r3) (fun a19 b20=>[(2,vP b1),(4,vP b2),(5,vP b6),(6,vI (a19.1))]) (fun a19 b20=>[bS b6 [x5.1,x5.2.1] 29,Ar bO x5.1 r3.1,Ar cR.raw x5.2.1 b20,gZ bM b20 a19.2,bS b2 [kT,kT] 29,bS b1 [vI (p0.1),v0,v1,v2,vB (p0.2.2.2.2.1),vB (p0.2.2.2.2.2)] 24]) ((1:Int),r3.2) (x5.2.2) h SF (aV.refl _) ?_
  intro k21 a19 b20 h
  refine aG<|sqR<|qkMove rfl<|qkFld rfl<|qkLd 0 rfl<|aB (iL rfl (bA (i:=2) (j:=3) rfl rfl bG) rfl) rfl<|qkLss rfl<|dtN ?_
  refine eF h rfl (fun h=>?_) fun h=>?_
  ·refine cJ<|aG<|aO ?_
   refine JR.start [0,0,0,4,0,16,60,0,252,0,0,1024,0,4096,15868,32252,65020,131071] 17 mixedOrders (by decide +kernel) ?_
   refine JR.open (by exact rfl) ?_
   refine jkLdA 5 rfl<|jkLdA 0 rfl<|jkFld rfl<|jkLd 5 rfl<|jkMove rfl<|jqN rfl (pT rfl rfl)<|bnE h fun r23 w24 h=>JR.loud rfl rfl rfl (aJ.callQ GG (yM U v0 r23 w24) rfl (lH [0] rfl)) rfl (fun x25=>(m_ [([0],[]),([5],[])] rfl)) fun x25=>jqN rfl (fO rfl)<|bnE h fun r26 w27 h=>JR.loud rfl rfl rfl (aJ.callQ AA (iC U  r26 w27) rfl .nil) rfl (fun x28=>(m_ [([0],[]),([5],[])] rfl)) fun x28=>jqN rfl (fO rfl)<|jqN rfl (dY rfl rfl rfl rfl rfl)<|bI rfl (aV.cons 5 rfl .nil) .nil (eX 0 rfl rfl rfl rfl rfl) (aM.h (aV.ix [5] rfl rfl) .nil (aM.h (aV.ix [5] rfl rfl) .nil aM.z))<|jqN rfl (fO rfl)<|jqN rfl (pT rfl rfl)<|bnE h fun r29 w30 h=>JR.loud rfl rfl rfl (aJ.callQ GG (yM U v1 r29 w30) rfl (lH [1] rfl)) rfl (fun x31=>(m_ [([0],[]),([5],[])] rfl)) fun x31=>bnE h fun r32 w33 h=>JR.loud rfl rfl rfl (aJ.callQ AA (iC U  r32 w33) rfl .nil) rfl (fun x34=>(m_ [([0],[]),([5],[])] rfl)) fun x34=>jqN rfl (wW rfl rfl)<|bH 17 rfl rfl<|bnE h fun r35 w36 h=>aF (As (Min:=[Ar cR.raw x5.2.1 b20,gZ bM b20 a19.2]) (Mr:=[bS b6 [x5.1,x5.2.1] 29,Ar bO x5.1 r3.1,bS b2 [kT,kT] 29,bS b1 [vI (p0.1),v0,v1,v2,vB (p0.2.2.2.2.1),vB (p0.2.2.2.2.2)] 24]) Sm (yG U v0 v1 v2 x5.1 x5.2.1 b20 r35 w36) rfl (aV.ix [2,3,0,1,4,5] rfl rfl) (aD.cons (aC.fact 0 rfl) (aD.cons (aC.fact 1 rfl) (aD.cons (aC.fact 2 rfl) (aD.cons (aP (aC.res 1 rfl) cE) .nil)))) (fun _ _=>rfl)) rfl fun x37=>dK<|inT<|aK<|qkMove rfl<|qkAdd rfl<|qkAsg rfl<|dtN ?_
   exact mO ((wI .i64 (a19.1+(1:Int))),r35) (x37) h SF (aV.ix [2,3,0,1,4,5] rfl rfl) (aD.refl _ _)
  refine eZ ?_
  exact bV (a19.2) (b20) h SF (aV.ix [0,1,2,3,4] rfl rfl) (aD.refl _ _)
 intro a11 b12 h
 unfold nH at h
 refine sqR<|qkLdA 0 rfl<|bY (Know.one ((aP (aC.res 1 rfl) cE))) fun ho13=>bY (Know.one (aC.sl (bA (i:=2) (j:=3) rfl rfl bG))) fun ho14=>bK 4 (vs:=[x5.1,x5.2.1]) rfl rfl (cK ho13 (cK ho14 rfl)) rfl rfl rfl<|dtN<|aR ?_
 cases h
 exact gC (x5.1,x5.2.1,b12) rfl rfl (RV.cell 4 rfl rfl rfl rfl) (aV.ix [1,2,3] rfl rfl) aD.nil
end
section
def iB (U:Nat) (p0:Int):Option (Int):=
 if p0=(0:Int)then(some (32:Int))else(ck (0<=(27:Int)) (ck ((0<=(qA .u32 (wI .u32 ((cY .u32 p0 (wI .u32 (0 - p0)))*(125613361:Int))) (27:Int))∧(qA .u32 (wI .u32 ((cY .u32 p0 (wI .u32 (0 - p0)))*(125613361:Int))) (27:Int))<((32:Nat):Int))∧List.length pV=32) (some (wI .i64 (at' pV (qA .u32 (wI .u32 ((cY .u32 p0 (wI .u32 (0 - p0)))*(125613361:Int))) (27:Int)))))))
theorem Se:aQ Tryz.prog 50:=Tryz.call50
theorem uU (U:Nat) {p0:Int} (r:Int) (h:iB U p0=some r):
  aS Tryz.prog 50 #[vU (p0)] [Gb 0 (cellsOf BV pV)] (fun x:Unit=>vI (r)) (fun x l=>l) (fun _ l=>l):=by
 refine aS.of Tryz.func50 rfl Tryz.ntmps50 rfl fun c=>?_
 refine sqR<|qkAsg rfl<|dtN<|aG<|sqR<|qkMove rfl<|qkEql rfl<|dtN ?_
 refine eF h rfl (fun h=>?_) fun h=>?_
 ·refine sqR<|qkAsg rfl<|dtN<|aR<|aI ?_
  cases h
  exact kH rfl
 refine cJ<|sqR<|qkMove rfl<|qkMove rfl<|aB (Oe rfl) rfl<|qkAnd rfl<|aB (Az rfl rfl) rfl<|ckE h fun j2 h=>aB (DF rfl rfl j2) rfl<|ckE h fun j3 h=>aB (Lb rfl rfl rfl rfl rfl j3.1) rfl<|aB (PR (e:=BV) rfl (aC.fact 0 rfl) rfl rfl rfl rfl j3) rfl<|aB (Gz rfl rfl rfl) rfl<|qkAsg rfl<|dtN<|aR ?_
 cases h
 exact kH rfl
end
section
def gV  (a7:Unit):Option (Bool):=
 some (true)
def eY (U:Nat) (p0:aL) (p1:Int) (a18:Int) (ag17:(Int)->Option (Bool)):Option (Bool):=
 if a18≠(0:Int)then(Option.bind (iB U a18) fun r22=>(ck (0<=r22∧r22<(List.length p0:Int)) (if(cY .u32 (at' p0 r22) p1)≠(0:Int)then(some (false))else(ag17 (cY .u32 a18 (wI .u32 (a18 - (1:Int))))))))else(gV  (()))
def kM (U:Nat) (p0:aL) (p1:Int) (a10:Unit):Option (Bool):=
 bE (eY U p0 p1) U (p1)
def fK (U:Nat) (p0:aL) (p1:Int):Option (Bool):=
 kM U p0 p1 (())
theorem Vm:aQ Tryz.prog 185:=Tryz.call185
theorem yE (U:Nat) {p0:aL} {p1:Int} (v0:Value) (r:Bool) (h:fK U p0 p1=some r):
  aS Tryz.prog 185 #[v0,vU (p1)] [Sl tJ v0 p0,Gb 0 (cellsOf BV pV)] (fun x:Unit=>vB (r)) (fun x l=>l) (fun _ l=>l):=by
 refine aS.of Tryz.func185 rfl Tryz.ntmps185 rfl fun c=>?_
 unfold fK at h
 refine iR KW<|sqR<|bY (Know.one ((aC.fact 0 rfl))) fun ho3=>?_
 refine aF (aJ.box (cs:=[v0]) rfl (by rw[kA ho3])) rfl fun b2=>?_
 refine aF (aJ.box (cs:=[vU (p1)]) rfl rfl) rfl fun b4=>aF (aJ.alloc (cs:=[vB (false)]) rfl rfl) rfl fun b5=>dtN<|aG<|MR (A:=Unit) (B:=mC) (fun a7 b8=>⟨16,Ho b8⟩) (fun a7=>gV  a7=some r) (fun a7 b8=>[(4,vP b5)]) (fun a7 b8=>[bS b5 [vB (false)] 4,Js b8]) (fun a7 b8=>[Sl tJ v0 p0,Gb 0 (cellsOf BV pV)]) ?_ ?_
 ·refine sqR<|qkLd 1 rfl<|CV (A:=Unit) (B:=Nat) (vs:=[vU (p1)]) (fun a10=>kM U p0 p1 a10=some r) (fun a10 b11=>Value.func (.func 190) #[] #[vP b11]) (fun a10 b11=>[bS b11 [vU (p1)] 26,bS b5 [vB (false)] 4,bS b4 [vU (p1)] 26,bS b2 [v0] 104,Js ([]:mC)]) (fun a10 b11=>[Sl tJ v0 p0,Gb 0 (cellsOf BV pV)]) (xE.fn (show aQ Tryz.prog 152 from Tryz.call152) rfl) Tryz.func152 rfl Tryz.ntmps152 rfl rfl ?_ ?_
  ·refine sqR<|aF (aJ.box (cs:=[vU (p1)]) rfl rfl) rfl fun b27=>qkAsg rfl<|dtN<|sqR<|aB (Ay (cs:=[.tmp 1]) (vs:=[vP b27]) rfl) rfl<|qkAsg rfl<|dtN<|aR ?_
   exact zD () (b27) h (.inl rfl) (HX.r1 rfl (RV.tmp rfl)) rfl (aV.refl _) (aD.refl _ _)
  intro a10 b11 h
  unfold kM at h
  refine dtN<|aO<|Dt (i:=4) (cs:=[vP b11]) ([]:mC) rfl (show aQ Tryz.prog 190 from Tryz.call190) rfl Tryz.func190 rfl Tryz.ntmps190 rfl fun l12 D13 R14 hR15=>aO<|loopL (eY U p0 p1) (fun a18 b19=>[(0,uW l12),(1,vP b11)]) (fun a18 b19=>[Lp l12 R14 LoopState.ready none,bS b11 [vU (a18)] 26,bS b5 [vB (false)] 4,bS b4 [vU (p1)] 26,bS b2 [v0] 104,Js (List.cons D13 ([]:mC))]) (p1) () h SF (aV.refl _) ?_
  intro k20 a18 b19 h
  refine aG<|sqR<|qkLd 1 rfl<|qkNeq rfl<|dtN ?_
  refine eF h rfl (fun h=>?_) fun h=>?_
  ·refine cJ<|aG<|aO<|sqR<|qkMove rfl<|qkLd 1 rfl<|bnE h fun r22 w23 h=>aF (aJ.callQ Se (uU U  r22 w23) rfl (lH [1] rfl)) rfl fun x24=>KE (us:=[vI (r22)]) (i:=0) hR15 rfl rfl rfl rfl rfl rfl<|aK<|qkAsg rfl<|dtN<|Oa (i:=0) rfl<|aO<|aG ?_
   refine JR.start [0,0,3,7,0,31,63] 5 mixedOrders (by decide +kernel) ?_
   refine JR.open (by exact rfl) ?_
   refine jkLd 4 rfl<|jkMove rfl<|ckE h fun j25 h=>bI rfl .nil (oK 0 rfl) (aX rfl rfl (aC.fact 0 rfl) rfl rfl j25) aM.z<|bI rfl .nil (oK 0 rfl) (bQ rfl (aC.fact 0 rfl) rfl rfl rfl Bn j25) aM.z<|jkLd 3 rfl<|bH 5 rfl rfl<|qkAnd rfl<|qkNeq rfl<|dtN ?_
   refine eF h rfl (fun h=>?_) fun h=>?_
   ·refine sqR<|iQ 2 rfl rfl rfl rfl rfl rfl<|dtN<|aR<|bL<|Rj (i:=0) rfl<|aB (rK rfl) rfl<|dtN<|Ob rfl<|aR<|bL<|aI<|aI<|bL<|UD (i:=0) (.inl rfl) rfl (HX.r0 rfl)<|bL<|aI<|qF (i:=5) (Ds:=(List.cons D13 ([]:mC))) (.inl rfl) rfl ?_
    cases h
    exact gC () rfl rfl (KQ 2 rfl rfl rfl rfl) .nil aD.nil
   refine dD<|Rc<|Gq (i:=0) rfl<|aB (rK rfl) rfl<|dtN<|FS rfl<|dD<|inT<|aK<|qkLd 1 rfl<|qkLd 1 rfl<|aB (pT rfl rfl) rfl<|qkAnd rfl<|iQ 1 rfl rfl rfl rfl rfl rfl<|dtN ?_
   exact xV (cY .u32 a18 (wI .u32 (a18 - (1:Int)))) () h SF rfl
  refine qE<|eC<|eC<|wK<|Ri (i:=0) (.inr rfl) rfl (HX.r0 rfl)<|inT ?_
  exact FU () (List.cons D13 ([]:mC)) rfl h SF (aV.ix [2,5] rfl rfl) (aD.refl _ _)
 intro a7 b8 h
 unfold gV at h
 refine sqR<|iQ 0 rfl rfl rfl rfl rfl rfl<|dtN<|aR<|qF (i:=1) (Ds:=(b8)) (.inl rfl) rfl ?_
 cases h
 exact gC () rfl rfl (KQ 0 rfl rfl rfl rfl) .nil aD.nil
end
section
def jX (U:Nat) (p0:aL) (p1:Int) (p2:Int) (p3:Int) (a2:Bool):Option (Bool):=
 if a2=true then(some (false))else(if p1=(1:Int)then(some (decide ((cY .u32 p3 (wI .u32 (p3 - (1:Int))))=(0:Int))))else(if p1=(2:Int)then(Option.bind (fK U p0 p3) fun r7=>(some (r7)))else(if p1=(4:Int)then(some (decide (p3=p2)))else(some (true)))))
def eJ (U:Nat) (p0:aL) (p1:Int) (p2:Int) (p3:Int):Option (Bool):=
 if p3=(0:Int)then(jX U p0 p1 p2 p3 (true))else(jX U p0 p1 p2 p3 (decide ((vW .u32 p3 p2)≠(0:Int))))
theorem Ot:aQ Tryz.prog 149:=Tryz.call149
theorem uS (U:Nat) {p0:aL} {p1:Int} {p2:Int} {p3:Int} (v0:Value) (r:Bool) (h:eJ U p0 p1 p2 p3=some r):
  aS Tryz.prog 149 #[v0,vI (p1),vU (p2),vU (p3)] [Sl tJ v0 p0,Gb 0 (cellsOf BV pV)] (fun x:Unit=>vB (r)) (fun x l=>l) (fun _ l=>l):=by
 refine aS.of Tryz.func149 rfl Tryz.ntmps149 rfl fun c=>?_
 refine sqR<|qkAsg rfl<|dtN<|aG<|aG<|midU (fun a2=>jX U p0 p1 p2 p3 a2=some r) (fun a2 b3=>[(0,v0),(1,vI (p1)),(2,vU (p2)),(3,vU (p3)),(16,vB (a2))]) (fun a2 b3=>[]) ?_ ?_
 ·refine aK<|qkMove rfl<|qkEql rfl<|qkMove rfl ?_
  refine AW h rfl (fun _ h=>?_) fun _ h=>?_
  ·refine gdSkip rfl<|gdSkip rfl<|gdSkip rfl<|gdSkip rfl<|qkPkT rfl<|dtN ?_
   exact fM (true) () h SF rfl
  refine gyMove rfl<|gyMove rfl<|aN rfl (DC rfl rfl) rfl<|aN rfl (IA rfl rfl) rfl<|qkPkF rfl<|dtN ?_
  exact fM (decide ((vW .u32 p3 p2)≠(0:Int))) () h SF rfl
 intro a2 b3 h
 refine z_ h rfl (fun _ h=>?_) fun _ h=>?_
 ·refine sqR<|qkAsg rfl<|dtN<|aR<|aI ?_
  cases h
  exact kH rfl
 refine cJ<|aG<|sqR<|qkMove rfl<|dtN<|aO<|sqR<|qkEql rfl<|qkAsg rfl<|dtN ?_
 refine eF h rfl (fun h=>?_) fun h=>?_
 ·refine sqR<|qkMove rfl<|qkMove rfl<|aB (pT rfl rfl) rfl<|qkAnd rfl<|qkEql rfl<|qkAsg rfl<|dtN<|aR<|bL<|aI ?_
  cases h
  exact kH rfl
 refine sqR<|qkEql rfl<|qkAsg rfl<|dtN ?_
 refine eF h rfl (fun h=>?_) fun h=>?_
 ·refine sqR<|qkMove rfl<|qkMove rfl<|bnE h fun r7 w8 h=>aF (aJ.callQ Vm (yE U v0 r7 w8) rfl (lH [0,1] rfl)) rfl fun x9=>qkAsg rfl<|dtN<|aR<|bL<|aI ?_
  cases h
  exact kH rfl
 refine sqR<|qkEql rfl<|qkAsg rfl<|dtN ?_
 refine eF h rfl (fun h=>?_) fun h=>?_
 ·refine sqR<|qkMove rfl<|qkMove rfl<|qkEql rfl<|qkAsg rfl<|dtN<|aR<|bL<|aI ?_
  cases h
  exact kH rfl
 refine dD<|inT<|sqR<|qkAsg rfl<|dtN<|aR ?_
 cases h
 exact kH rfl
end
section
def jY  (a12:Int):Option (Int):=
 some (a12)
def gN (a24:dL) (ag23:eK->Option (Int)) (a29:Int):Option (Int):=
 ag23 ((cY .u32 a24.1 (wI .u32 (a24.1 - (1:Int)))),a29)
def dB (U:Nat) (p0:aL) (a24:dL) (ag23:eK->Option (Int)):Option (Int):=
 if a24.1≠(0:Int)then(Option.bind (iB U a24.1) fun r31=>(ck (0<=r31∧r31<(List.length p0:Int)) (if(cY .u32 (at' p0 r31) a24.2)=(0:Int)then(ck (0<=r31) (gN a24 ag23 (EC .u32 a24.2 (uX .u32 (1:Int) r31))))else(gN a24 ag23 (a24.2)))))else(jY  (a24.2))
def nV (U:Nat) (p0:aL) (a5:Int) (a15:Unit):Option (Int):=
 bE (dB U p0) U (a5,(0:Int))
def gM (U:Nat) (p0:aL) (p1:Int) (p2:Int) (a5:Int):Option (Int):=
 if p1=(1:Int)then(some (cY .u32 a5 (wI .u32 (0 - a5))))else(if p1=(2:Int)then(nV U p0 a5 (()))else(if p1=(4:Int)then(some (p2))else(some (a5))))
def cV (U:Nat) (p0:aL) (p1:Int) (p2:Int) (p3:Int):Option (Int):=
 if(cY .u32 p3 p2)=(0:Int)then(gM U p0 p1 p2 (cY .u32 p2 (wI .u32 (0 - p2))))else(gM U p0 p1 p2 (cY .u32 p3 p2))
theorem Om:aQ Tryz.prog 106:=Tryz.call106
theorem uT (U:Nat) {p0:aL} {p1:Int} {p2:Int} {p3:Int} (v0:Value) (r:Int) (h:cV U p0 p1 p2 p3=some r):
  aS Tryz.prog 106 #[v0,vI (p1),vU (p2),vU (p3)] [Sl tJ v0 p0,Gb 0 (cellsOf BV pV)] (fun x:Unit=>vU (r)) (fun x l=>l) (fun _ l=>l):=by
 refine aS.of Tryz.func106 rfl Tryz.ntmps106 rfl fun c=>?_
 refine iR KW<|sqR<|bY (Know.one ((aC.fact 0 rfl))) fun ho3=>?_
 refine aF (aJ.box (cs:=[v0]) rfl (by rw[kA ho3])) rfl fun b2=>?_
 refine qkAsg rfl<|dtN<|sqR<|qkMove rfl<|qkMove rfl<|qkAnd rfl<|qkAsg rfl<|dtN<|aG<|MR (A:=Int) (B:=Unit) (fun a5 b6=>⟨48,Ho ([]:mC)⟩) (fun a5=>gM U p0 p1 p2 a5=some r) (fun a5 b6=>[(1,vI (p1)),(2,vU (p2)),(3,vU (a5)),(4,vP b2),(8,vU (0:Int))]) (fun a5 b6=>[bS b2 [v0] 104,Js ([]:mC)]) (fun a5 b6=>[Sl tJ v0 p0,Gb 0 (cellsOf BV pV)]) ?_ ?_
 ·refine sqR<|qkMove rfl<|qkEql rfl<|dtN ?_
  refine eF h rfl (fun h=>?_) fun h=>?_
  ·refine aK<|qkMove rfl<|qkMove rfl<|aB (Oe rfl) rfl<|qkAnd rfl<|qkAsg rfl<|dtN ?_
   exact FU (cY .u32 p2 (wI .u32 (0 - p2))) () rfl h SF (aV.refl _) (aD.refl _ _)
  refine cJ ?_
  exact FU (cY .u32 p3 p2) () rfl h SF (aV.refl _) (aD.refl _ _)
 intro a5 b6 h
 refine aG<|sqR<|qkMove rfl<|dtN<|aO<|sqR<|qkEql rfl<|qkAsg rfl<|dtN ?_
 refine eF h rfl (fun h=>?_) fun h=>?_
 ·refine sqR<|qkMove rfl<|qkMove rfl<|aB (Oe rfl) rfl<|qkAnd rfl<|qkAsg rfl<|dtN<|aR<|bL<|aI<|qF (i:=1) (Ds:=([]:mC)) (.inl rfl) rfl ?_
  cases h
  exact vT rfl
 refine sqR<|qkEql rfl<|qkAsg rfl<|dtN ?_
 refine eF h rfl (fun h=>?_) fun h=>?_
 ·refine sqR<|aF (aJ.alloc (cs:=[vU (0:Int)]) rfl rfl) rfl fun b9=>iQ 0 rfl rfl rfl rfl rfl rfl<|dtN<|aG<|MR (A:=Int) (B:=mC) (fun a12 b13=>⟨48,Ho b13⟩) (fun a12=>jY  a12=some r) (fun a12 b13=>[(9,vP b9)]) (fun a12 b13=>[bS b9 [vU (a12)] 26,Js b13]) (fun a12 b13=>[Sl tJ v0 p0,Gb 0 (cellsOf BV pV)]) ?_ ?_
  ·refine sqR<|qkMove rfl<|CV (A:=Unit) (B:=Nat) (vs:=[vU (a5)]) (fun a15=>nV U p0 a5 a15=some r) (fun a15 b16=>Value.func (.func 190) #[] #[vP b16]) (fun a15 b16=>[bS b16 [vU (a5)] 26,bS b9 [vU (0:Int)] 26,bS b2 [v0] 104,Js ([]:mC)]) (fun a15 b16=>[Sl tJ v0 p0,Gb 0 (cellsOf BV pV)]) (xE.fn (show aQ Tryz.prog 152 from Tryz.call152) rfl) Tryz.func152 rfl Tryz.ntmps152 rfl rfl ?_ ?_
   ·refine sqR<|aF (aJ.box (cs:=[vU (a5)]) rfl rfl) rfl fun b37=>qkAsg rfl<|dtN<|sqR<|aB (Ay (cs:=[.tmp 1]) (vs:=[vP b37]) rfl) rfl<|qkAsg rfl<|dtN<|aR ?_
    exact zD () (b37) h (.inl rfl) (HX.r1 rfl (RV.tmp rfl)) rfl (aV.refl _) (aD.refl _ _)
   intro a15 b16 h
   unfold nV at h
   refine dtN<|aO<|Dt (i:=3) (cs:=[vP b16]) ([]:mC) rfl (show aQ Tryz.prog 190 from Tryz.call190) rfl Tryz.func190 rfl Tryz.ntmps190 rfl fun Zh D18 R19 hR20=>aO<|loopL (dB U p0) (fun a24 b25=>[(0,uW Zh),(1,vP b16)]) (fun a24 b25=>[Lp Zh R19 LoopState.ready none,bS b16 [vU (a24.1)] 26,bS b9 [vU (a24.2)] 26,bS b2 [v0] 104,Js (List.cons D18 ([]:mC))]) (a5,(0:Int)) () h SF (aV.refl _) ?_
   intro k26 a24 b25 h
   refine aG<|sqR<|qkLd 1 rfl<|qkNeq rfl<|dtN ?_
   refine eF h rfl (fun h=>?_) fun h=>?_
   ·refine cJ<|aG<|midU (fun a29=>gN a24 (bE (dB U p0) k26) a29=some r) (fun a29 b30=>[(0,uW Zh),(1,vP b16)]) (fun a29 b30=>[Lp Zh R19 LoopState.ready none,bS b16 [vU (a24.1)] 26,bS b9 [vU (a29)] 26,bS b2 [v0] 104,Js (List.cons D18 ([]:mC))]) ?_ ?_
    ·refine aO<|sqR<|qkMove rfl<|qkLd 1 rfl<|bnE h fun r31 w32 h=>aF (aJ.callQ Se (uU U  r31 w32) rfl (lH [1] rfl)) rfl fun x33=>KE (us:=[vI (r31)]) (i:=0) hR20 rfl rfl rfl rfl rfl rfl<|aK<|qkAsg rfl<|dtN<|Oa (i:=0) rfl<|aO<|aG ?_
     refine JR.start [0,0,3,7,0,31,63] 5 mixedOrders (by decide +kernel) ?_
     refine JR.open (by exact rfl) ?_
     refine jkLd 3 rfl<|jkMove rfl<|ckE h fun j34 h=>bI rfl .nil (oK 0 rfl) (aX rfl rfl (aC.fact 0 rfl) rfl rfl j34) aM.z<|bI rfl .nil (oK 0 rfl) (bQ rfl (aC.fact 0 rfl) rfl rfl rfl Bn j34) aM.z<|jkLd 2 rfl<|bH 5 rfl rfl<|qkAnd rfl<|qkEql rfl<|dtN ?_
     refine eF h rfl (fun h=>?_) fun h=>?_
     ·refine JR.start [0,0,2,7,15] 3 mixedOrders (by decide +kernel) ?_
      refine JR.open (by exact rfl) ?_
      refine jkLd 2 rfl<|jkMove rfl<|ckE h fun j36 h=>jqN rfl (DD rfl rfl j36)<|bH 3 rfl rfl<|aB (Lg rfl rfl) rfl<|iQ 2 rfl rfl rfl rfl rfl rfl<|dK<|Rc<|Gq (i:=0) rfl<|aB (rK rfl) rfl<|dtN<|FS rfl<|dD<|inT ?_
      exact fM (EC .u32 a24.2 (uX .u32 (1:Int) r31)) () h SF rfl
     refine dD<|Rc<|Gq (i:=0) rfl<|aB (rK rfl) rfl<|dtN<|FS rfl<|dD<|inT ?_
     exact fM (a24.2) () h SF rfl
    intro a29 b30 h
    unfold gN at h
    refine aK<|qkLd 1 rfl<|qkLd 1 rfl<|aB (pT rfl rfl) rfl<|qkAnd rfl<|iQ 1 rfl rfl rfl rfl rfl rfl<|dtN ?_
    exact xV ((cY .u32 a24.1 (wI .u32 (a24.1 - (1:Int)))),a29) () h SF rfl
   refine qE<|eC<|eC<|wK<|Ri (i:=0) (.inr rfl) rfl (HX.r0 rfl)<|inT ?_
   exact FU (a24.2) (List.cons D18 ([]:mC)) rfl h SF (aV.ix [2,4] rfl rfl) (aD.refl _ _)
  intro a12 b13 h
  unfold jY at h
  refine sqR<|qkLd 0 rfl<|qkAsg rfl<|dtN<|aR<|bL<|aI<|qF (i:=1) (Ds:=(b13)) (.inl rfl) rfl ?_
  cases h
  exact vT rfl
 refine sqR<|qkEql rfl<|qkAsg rfl<|dtN ?_
 refine eF h rfl (fun h=>?_) fun h=>?_
 ·refine sqR<|qkMove rfl<|qkAsg rfl<|dtN<|aR<|bL<|aI<|qF (i:=1) (Ds:=([]:mC)) (.inl rfl) rfl ?_
  cases h
  exact vT rfl
 refine dD<|inT<|sqR<|qkMove rfl<|qkAsg rfl<|dtN<|aR<|qF (i:=1) (Ds:=([]:mC)) (.inl rfl) rfl ?_
 cases h
 exact vT rfl
end
end Go.Proofs.YtjlbcgddhnjcjaaGreatDoor
end
section
set_option maxRecDepth 100000
namespace Go.Gx
open Go Go.Sx Go.Proofs Go.Proofs.YtjlbcgddhnjcjaaGreatDoor
noncomputable section
def aab (us:List GV) (H:GH):OR:=a1 us fun x0=>ob (SA H x0) fun p0=>ob (dH 1000 p0) fun r=>TE r H
def aaa (us:List GV) (H:GH):OR:=a2 us fun x0 x1=>ob (ZS H x0) fun p0=>ob (VF .i64 x1) fun p1=>ob (lJ 1000 p0 p1) fun r=>NG r H
def WS (us:List GV) (H:GH):OR:=a4 us fun x0 x1 x2 x3=>ob (SC H x0) fun p0=>ob (VF .i64 x1) fun p1=>ob (VF .u32 x2) fun p2=>ob (VF .u32 x3) fun p3=>ob (eJ 1000 p0 p1 p2 p3) fun r=>TE r H
def WR (us:List GV) (H:GH):OR:=a4 us fun x0 x1 x2 x3=>ob (SC H x0) fun p0=>ob (VF .i64 x1) fun p1=>ob (VF .u32 x2) fun p2=>ob (VF .u32 x3) fun p3=>ob (cV 1000 p0 p1 p2 p3) fun r=>some (.int .u32 r,H)
def S_ (f:Nat) (us:List GV) (H:GH):Option (GV×GH):=bif Nat.beq f 54 then aab us H else bif Nat.beq f 52 then aaa us H else bif Nat.beq f 149 then WS us H else bif Nat.beq f 106 then WR us H else none
abbrev gl:Nat->wJ:=glb 0 (cellsOf BV pV)
def gp:GP:=⟨tX,83,S_,SZ 237⟩
section
variable {T:Nat} {w0:dM (gl T)} {w:World} {ρ:cS} {H H':GH} {g:GV} {us:List GV} {vs:List Value}
theorem VY (h:aab us H=some (g,H')) (R:eD w0 ρ H w) (hr:nG ρ us vs):jH Tryz.prog w0 ρ 54 vs w g H':=by
 obtain⟨x0,rfl,h⟩:=Of h
 obtain⟨p0,hp0,h⟩:=aA.1 h
 obtain⟨r,hm,h⟩:=aA.1 h
 obtain⟨V0,rfl,hv0⟩:=hr.one
 obtain⟨w0a,w0b,z0,rfl,f0a,f0b⟩:=Qe R hv0 hp0
 obtain⟨rfl,rfl⟩:=Hw h
 exact Dg EG (pS 1000 (p0:=p0) w0a w0b z0 r hm) R (List.forall_mem_cons.2 ⟨f0a,List.forall_mem_cons.2 ⟨f0b,fun f hf=>absurd hf List.not_mem_nil⟩⟩) fun ρ=> .bool _
theorem VX (h:aaa us H=some (g,H')) (R:eD w0 ρ H w) (hr:nG ρ us vs):jH Tryz.prog w0 ρ 52 vs w g H':=by
 obtain⟨x0,x1,rfl,h⟩:=Og h
 obtain⟨p0,hp0,h⟩:=aA.1 h
 obtain⟨p1,hp1,h⟩:=aA.1 h
 obtain⟨r,hm,h⟩:=aA.1 h
 obtain⟨V0,vs,rfl,hv0,hr⟩:=hr.of_cons
 obtain⟨V1,rfl,hv1⟩:=hr.one
 obtain⟨w0a,w0b,w0c,rfl,f0a,f0b,f0c⟩:=VE R hv0 hp0
 obtain rfl:=BA hv1 hp1
 obtain⟨h1,h2,h3,rfl,rfl⟩:=LM h
 exact Nu ZV ZW h1 h2 h3 Sf (yF 1000 (p0:=p0) (p1:=p1) w0a w0b w0c r hm) R (List.forall_mem_cons.2 ⟨f0a,List.forall_mem_cons.2 ⟨f0b,List.forall_mem_cons.2 ⟨f0c,fun f hf=>absurd hf List.not_mem_nil⟩⟩⟩)
theorem Tf (h:WS us H=some (g,H')) (R:eD w0 ρ H w) (hr:nG ρ us vs):jH Tryz.prog w0 ρ 149 vs w g H':=by
 obtain⟨x0,x1,x2,x3,rfl,h⟩:=JB h
 obtain⟨p0,hp0,h⟩:=aA.1 h
 obtain⟨p1,hp1,h⟩:=aA.1 h
 obtain⟨p2,hp2,h⟩:=aA.1 h
 obtain⟨p3,hp3,h⟩:=aA.1 h
 obtain⟨r,hm,h⟩:=aA.1 h
 obtain⟨V0,vs,rfl,hv0,hr⟩:=hr.of_cons
 obtain⟨V1,vs,rfl,hv1,hr⟩:=hr.of_cons
 obtain⟨V2,vs,rfl,hv2,hr⟩:=hr.of_cons
 obtain⟨V3,rfl,hv3⟩:=hr.one
 have f0:=Lr R hv0 hp0
 obtain rfl:=BA hv1 hp1
 obtain rfl:=BA hv2 hp2
 obtain rfl:=BA hv3 hp3
 obtain⟨rfl,rfl⟩:=Hw h
 exact Dg Ot (uS 1000 (p0:=p0) (p1:=p1) (p2:=p2) (p3:=p3) V0 r hm) R (List.forall_mem_cons.2 ⟨f0,List.forall_mem_cons.2 ⟨R.glb,fun f hf=>absurd hf List.not_mem_nil⟩⟩) fun ρ=> .bool _
theorem Te (h:WR us H=some (g,H')) (R:eD w0 ρ H w) (hr:nG ρ us vs):jH Tryz.prog w0 ρ 106 vs w g H':=by
 obtain⟨x0,x1,x2,x3,rfl,h⟩:=JB h
 obtain⟨p0,hp0,h⟩:=aA.1 h
 obtain⟨p1,hp1,h⟩:=aA.1 h
 obtain⟨p2,hp2,h⟩:=aA.1 h
 obtain⟨p3,hp3,h⟩:=aA.1 h
 obtain⟨r,hm,h⟩:=aA.1 h
 obtain⟨V0,vs,rfl,hv0,hr⟩:=hr.of_cons
 obtain⟨V1,vs,rfl,hv1,hr⟩:=hr.of_cons
 obtain⟨V2,vs,rfl,hv2,hr⟩:=hr.of_cons
 obtain⟨V3,rfl,hv3⟩:=hr.one
 have f0:=Lr R hv0 hp0
 obtain rfl:=BA hv1 hp1
 obtain rfl:=BA hv2 hp2
 obtain rfl:=BA hv3 hp3
 cases h
 exact Dg Om (uT 1000 (p0:=p0) (p1:=p1) (p2:=p2) (p3:=p3) V0 r hm) R (List.forall_mem_cons.2 ⟨f0,List.forall_mem_cons.2 ⟨R.glb,fun f hf=>absurd hf List.not_mem_nil⟩⟩) fun ρ=> .int _ _
theorem JU {f:Nat} (h:S_ f us H=some (g,H')) (R:eD w0 ρ H w) (hr:nG ρ us vs):jH Tryz.prog w0 ρ f vs w g H':=by
 unfold S_ at h
 cases e0:Nat.beq f 54 with
 |true=>rw[e0]at h;rw[Nat.eq_of_beq_eq_true e0];exact VY h R hr
 |false=>
 rw[e0]at h
 cases e1:Nat.beq f 52 with
 |true=>rw[e1]at h;rw[Nat.eq_of_beq_eq_true e1];exact VX h R hr
 |false=>
 rw[e1]at h
 cases e2:Nat.beq f 149 with
 |true=>rw[e2]at h;rw[Nat.eq_of_beq_eq_true e2];exact Tf h R hr
 |false=>
 rw[e2]at h
 cases e3:Nat.beq f 106 with
 |true=>rw[e3]at h;rw[Nat.eq_of_beq_eq_true e3];exact Te h R hr
 |false=>
 rw[e3]at h
 cases h
end
theorem Yl:ZU Tryz.prog tX=true:=by kernel_rfl
theorem Gk:d_ Tryz.prog tX:=⟨Mo,Yk Yl⟩
theorem YI {gs:wJ} (w0:dM gs):qB Tryz.prog w0 (IE tX 121 Tryz.f121):=Sq Gk mixedOrders Tryz.func121 Tryz.call121 (by kernel_rfl)
theorem Ye (args:Array Value) (w:World) (hs:args.size=2):CallsDIn (FR none) 0 Tryz.prog 120 args .returning w fun e u' w'=>∃v,e = .returned v∧u' = .returning∧Ju w w':=by
 obtain⟨out,h,he⟩:=TF (r:=CC tX (IE tX 121 Tryz.f121) (JK Tryz.f120) (VN tX (IE tX 121 Tryz.f121) (fun _ _ _ _=>none) (So Tryz.f120) 0 ⟨[],0,[]⟩ (Ec [])) (JK Tryz.f120).tail ⟨[(VD Tryz.f120,.inil)],H0⟩) (by kernel_rfl)
 exact PZ (ch:=IE tX 121 Tryz.f121) (lp:=fun _ _ _ _=>none) Gk mixedOrders YI Fw Tryz.func120 rfl rfl rfl (by decide +kernel) (fun ρ w=>by simp[execOp,resolve,invoke,builtin]) (by kernel_rfl) (by kernel_rfl) rfl (by rw[hs];decide +kernel) h he
theorem ZX {gs:wJ} {ext:FuncId->List GV->GH->Option (GV×GH)} (hx:∀(w0:dM gs) {f us H g H'},ext f us H=some (g,H')->∀ρ w vs,eD w0 ρ H w->nG ρ us vs->jH Tryz.prog w0 ρ f vs w g H') (w0:dM gs):PK Tryz.prog ⟨tX,83,ext,SZ 237⟩ EZ.fns w0:=by
 refine⟨Gk,mixedOrders,fun h=> ?_,hx w0,fun h ρ w vs H R hr=>VU Tryz.func237 rfl rfl rfl rfl h ρ w vs H R hr,fun R hc h1 h2=> ?_⟩
 ·obtain⟨e,he,h⟩:=aA.1 (show ob (Pk _) _=some _ from h)
  cases h
  obtain⟨q1,q2,q3⟩:=TQ he
  exact⟨q1,q2,LN q3⟩
 ·exact XZ (tb:=tX) (T1:=3) (T2:=44) (cc:=120) Gk Tryz.func83 Tryz.call83 Tryz.call120 rfl rfl rfl (Oi (by kernel_rfl)) (Oi (by kernel_rfl)) (Ps rfl rfl) (Ps rfl rfl) (Tq rfl rfl) (Tq rfl rfl) Ye R hc h1 h2
theorem Tb {T:Nat} (w0:dM (gl T)):PK Tryz.prog gp EZ.fns w0:=ZX (fun w0 f us H g H' h ρ w vs R hr=>JU h R hr) w0
def gp0:GP:=⟨tX,83,fun _ _ _=>none,SZ 237⟩
theorem adh (w0:dM YG):PK Tryz.prog gp0 EZ.fns w0:=ZX (fun w0 f us H g H' h=>by cases h) w0
end
end Go.Gx
end
section
namespace Go.Gx
open Go Go.Sx Go.RowKit
mutual
def Eg (k:Nat):GV->GV
 | .ptr h o=> .ptr (k+h) o
 | .sl h o l s=> .sl (k+h) o l s
 | .map h=> .map (k+h)
 | .fn f a b=> .fn f (QR k a) (QR k b)
 | .agg cs=> .agg (QR k cs)
 | .tup vs=> .tup (QR k vs)
 | .int a b=> .int a b
 | .bool b=> .bool b
 | .str a b=> .str a b
 | .pnil=> .pnil
 | .snil=> .snil
 | .fnil=> .fnil
 | .inil=> .inil
 | .un=> .un
 | .bad=> .bad
 | .opn h=> .opn (k+h)
def QR (k:Nat):List GV->List GV
 | []=>[]
 |v::r=>Eg k v::QR k r
end
theorem Kj (k:Nat):∀(l:List GV) (i:Nat),(QR k l)[i]? = (l[i]?).map (Eg k)
 | [],i=>rfl
 |v::r,0=>rfl
 |v::r,i+1=>by simpa [QR]using Kj k r i
theorem Cn (k:Nat):∀(l:List GV),(QR k l).length=l.length
 | []=>rfl
 |v::r=>by simp[QR,Cn k r]
def Uu (k:Nat):GO->GO
 | .cells cs=> .cells (QR k cs)
 | .mp es=> .mp (es.map fun e=>(Eg k e.1,Eg k e.2))
def yC (k:Nat) (l:Iv):Iv:={l with o:=Uu k l.o}
theorem Rl.shift {ρ ρ':cS} {k:Nat} (hρ:∀h l,ρ h=some l->ρ' (k+h)=some (yC k l)) {g:GV} {v:Value} (h:Rl ρ g v):Rl ρ' (Eg k g) v:=by
 have lst:∀{us:List GV} {us':f_},(∀(i:Nat) g v,us[i]? = some g->us'[i]? = some v->Rl ρ' (Eg k g) v)->∀(i:Nat) g v,(QR k us)[i]? = some g->us'[i]? = some v->Rl ρ' g v:=by
  intro us us' hh i g v hg hv
  rw[Kj]at hg
  obtain⟨g0,h0,rfl⟩:=Option.map_eq_some_iff.1 hg
  exact hh i g0 v h0 hv
 induction h with
 |int a n=>simp only[Eg];exact .int a n
 |bool b=>simp only[Eg];exact .bool b
 |str s=>simp only[Eg];exact .str s
 |ptr off h=>simp only[Eg];exact .ptr (l:=yC k _) off (hρ _ _ h)
 |pnil=>simp only[Eg];exact .pnil
 |sl h hc ha=>simp only[Eg];exact .sl (l:=yC k _) (hρ _ _ h) hc ha
 |snil=>simp only[Eg];exact .snil
 |map h=>simp only[Eg];exact .map (l:=yC k _) (hρ _ _ h)
 |fn f h1 h2 h3 h4 ih2 ih4=>simp only[Eg];exact .fn f (by rw[Cn];exact h1) (lst ih2) (by rw[Cn];exact h3) (lst ih4)
 |fnil=>simp only[Eg];exact .fnil
 |inil=>simp only[Eg];exact .inil
 |agg h1 h2 h3 ih=>simp only[Eg];exact .agg (by rw[Cn];exact h1) (lst ih) h3
 |tup h1 h2 ih=>simp only[Eg];exact .tup (by rw[Cn];exact h1) (lst ih)
 |un=>simp only[Eg];exact .un
 |bad v=>simp only[Eg];exact .bad v
 |opn v h hx=>simp only[Eg];exact .opn (l:=yC k _) v (hρ _ _ h) hx

abbrev OL:=List (Nat×Nat×GO)
def QQ:OL->Nat->Option (Nat×GO)
 | [],_=>none
 |x::r,h=>if h=x.1 then some x.2 else QQ r h
theorem J_ {os:OL} {h:Nat} {p:Nat×GO} (hl:QQ os h=some p):(h,p)∈os:=by
 induction os with
 |nil=>cases hl
 |cons x r ih=>
  simp only[QQ]at hl
  split at hl
  ·rename_i e;cases hl;subst e;exact List.mem_cons_self
  ·exact List.mem_cons_of_mem _ (ih hl)
noncomputable def LW (k:Nat) (t:Tr (Nat×GO)):OL->Tr (Nat×GO)
 | []=>t
 |x::r=>(LW k t r).set (some (k+x.2.1,Uu k x.2.2)) (k+x.1)
noncomputable def Wo:OL->Tr (Nat×GO)
 | []=> .lf
 |x::r=>(Wo r).set (some x.2) x.1
theorem BG:∀(os:OL) (h:Nat),(Wo os).get h=QQ os h
 | [],h=>rfl
 |x::r,h=>by
  show((Wo r).set (some x.2) x.1).get h=_
  rw[qH]
  simp only[QQ]
  split
  ·rfl
  ·exact BG r h
theorem Hy (k:Nat) (t:Tr (Nat×GO)):∀(os:OL) (h:Nat),(LW k t os).get h=if k<=h then(match QQ os (h - k)with|some p=>some (k+p.1,Uu k p.2)|none=>t.get h)else t.get h
 | [],h=>by simp[LW,QQ]
 | x :: r, h => by
  show((LW k t r).set (some (k+x.2.1,Uu k x.2.2)) (k+x.1)).get h=_
  rw[qH,Hy k t r h]
  by_cases e:h=k+x.1
  ·subst e
   rw[if_pos rfl,if_pos (by omega)]
   simp[QQ]
  ·rw[if_neg e]
   by_cases hk:k<=h
   ·rw[if_pos hk,if_pos hk]
    simp only[QQ]
    rw[if_neg (show¬h - k=x.1 by omega)]
   ·rw[if_neg hk,if_neg hk]
noncomputable def Gf (n:Nat) (os:OL):GH:=⟨n,Wo os⟩
noncomputable def GH.load (H:GH) (n:Nat) (os:OL):GH:=⟨H.n+n,LW H.n H.t os⟩
section
variable {gs:wJ} {w0:dM gs} {w w':World} {ρ ρ2:cS} {H:GH} {n:Nat} {os:OL}
theorem fH {H:GH} {h:Nat} {o:GO}:H.get h=some o↔∃v,H.t.get h=some (v,o):=by
 unfold GH.get
 cases hh:H.t.get h with
 |none=>simp[ob]
 |some p=>obtain⟨a,b⟩:=p;simp[ob]
theorem qD {H:GH} {h v:Nat}:H.ver h=some v↔∃o,H.t.get h=some (v,o):=by
 unfold GH.ver
 cases hh:H.t.get h with
 |none=>simp[ob]
 |some p=>obtain⟨a,b⟩:=p;simp[ob]
theorem eD.sub {H2:GH} (R:eD w0 ρ H w) (hn:H2.n=H.n) (hs:∀h p,H2.t.get h=some p->H.t.get h=some p):eD w0 ρ H2 w:=by
 have g:∀h o,H2.get h=some o->H.get h=some o:=fun h o hg=>by
  obtain⟨v,hv⟩:=fH.1 hg
  exact fH.2 ⟨v,hs _ _ hv⟩
 refine⟨R.ext,fun h o hg=>R.live h o (g h o hg),fun h h' o o' l l' h1 h2=>R.inj h h' o o' l l' (g _ _ h1) (g _ _ h2),fun h hh=>R.fresh h (by omega),fun h hh=>R.dense h (by omega),fun h v l hv hl=> ?_,R.env⟩
 obtain⟨o,ho⟩:=qD.1 hv
 obtain⟨lv,a,b,c⟩:=R.vers h v l (qD.2 ⟨o,hs _ _ ho⟩) hl
 refine⟨lv,a,b,?_⟩
 have h1:=fH.2 ⟨v,ho⟩
 have h2:=g _ _ h1
 rw[c]at h2;cases h2;exact h1
theorem uZ.shift {l:Iv} {o:GO} {ρ':cS} {k:Nat} (hρ:∀h l,ρ2 h=some l->ρ' (k+h)=some (yC k l)) (h:uZ ρ2 w l o):uZ ρ' w (yC k l) (Uu k o):=by
 cases o with
 |cells cs=>
  obtain⟨cur,T,h1,h2,h3,h4⟩:=h
  refine⟨cur,T,h1,h2,by rw[Cn];exact h3,fun i g hg=> ?_⟩
  rw[Kj]at hg
  obtain⟨g0,h0,rfl⟩:=Option.map_eq_some_iff.1 hg
  obtain⟨v,a,b,c⟩:=h4 i g0 h0
  exact⟨v,a,b.shift hρ,c⟩
 |mp es=>
  obtain⟨en,cl,h1,h2,h3⟩:=h
  refine⟨en,cl,h1,by simpa [Uu]using h2,fun i g hg=> ?_⟩
  rw[List.getElem?_map]at hg
  obtain⟨g0,h0,rfl⟩:=Option.map_eq_some_iff.1 hg
  obtain⟨m,a,b,c⟩:=h3 i g0 h0
  exact⟨m,a,b.shift hρ,c.shift hρ⟩
theorem eD.join {gs2:wJ} {hb:Fi gs2 w fun _=>False} (R:eD w0 ρ H w) (R2:eD (dM.of w hb) ρ2 (Gf n os) w'):
  ∃ρ':cS,ρ.le ρ'∧eD w0 ρ' (H.load n os) w'∧∀g v,Rl ρ2 g v->Rl ρ' (Eg H.n g) v:=by
 let ρ':cS:=fun h=>if h<H.n then ρ h else(ρ2 (h - H.n)).map (yC H.n)
 have hle:ρ.le ρ':=fun h l hl=>by
  have hlt:h<H.n:=by
   rcases Nat.lt_or_ge h H.n with q|q
   ·exact q
   ·rw[R.fresh h q]at hl;cases hl
  show(if h<H.n then ρ h else _)=_
  rw[if_pos hlt];exact hl
 have hsh:∀h l,ρ2 h=some l->ρ' (H.n+h)=some (yC H.n l):=fun h l hl=>by
  show(if H.n+h<H.n then _ else _)=_
  rw[if_neg (by omega),show H.n+h - H.n=h by omega,hl];rfl
 have hlow:∀h,h<H.n->ρ' h=ρ h:=fun h hh=>by show(if h<H.n then ρ h else _)=_;rw[if_pos hh]
 have hhigh:∀h,H.n<=h->ρ' h=(ρ2 (h - H.n)).map (yC H.n):=fun h hh=>by show(if h<H.n then ρ h else _)=_;rw[if_neg (by omega)]
 have hnone:∀h,H.n<=h->H.t.get h=none:=fun h hh=>by
  cases hg:H.t.get h with
  |none=>rfl
  |some p=>exact absurd (R.lt (fH.2 ⟨p.1,hg⟩)) (by omega)
 have gl:∀h,h<H.n->(H.load n os).t.get h=H.t.get h:=fun h hh=>by
  show(LW H.n H.t os).get h=_
  rw[Hy,if_neg (by omega)]
 have gh:∀h p,H.n<=h->(H.load n os).t.get h=some p->∃p2,(Gf n os).t.get (h - H.n)=some p2∧p=(H.n+p2.1,Uu H.n p2.2):=fun h p hh hp=>by
  have hp':(LW H.n H.t os).get h=some p:=hp
  rw[Hy,if_pos hh,hnone h hh]at hp'
  cases hk:QQ os (h - H.n)with
  |none=>rw[hk]at hp';cases hp'
  |some p2=>rw[hk]at hp';cases hp';exact⟨p2,(BG os _).trans hk,rfl⟩
 have e2:Ju w w':=R2.ext.ext
 have mine2:∀l:Iv,(dM.of w hb).mine l.b->w.heap.size<=l.b:=fun l h=>by
  rcases h with h|h
  ·exact h
  ·exact h.elim
 have liveL:∀h o,h<H.n->(H.load n os).get h=some o->∃l,ρ h=some l∧w0.mine l.b∧uZ ρ w l o∧H.get h=some o:=fun h o hh hg=>by
  obtain⟨v,hv⟩:=fH.1 hg
  rw[gl h hh]at hv
  have hg':=fH.2 ⟨v,hv⟩
  obtain⟨l,a,b,c⟩:=R.live h o hg'
  exact⟨l,a,b,c,hg'⟩
 have liveH:∀h o,H.n<=h->(H.load n os).get h=some o->∃l o2,ρ2 (h - H.n)=some l∧w.heap.size<=l.b∧uZ ρ2 w' l o2∧o=Uu H.n o2∧(Gf n os).get (h - H.n)=some o2:=fun h o hh hg=>by
  obtain⟨v,hv⟩:=fH.1 hg
  obtain⟨p2,h2,e⟩:=gh h _ hh hv
  cases e
  have hg':(Gf n os).get (h - H.n)=some p2.2:=fH.2 ⟨p2.1,h2⟩
  obtain⟨l,a,b,c⟩:=R2.live _ _ hg'
  exact⟨l,p2.2,a,mine2 l b,c,rfl,hg'⟩
 refine⟨ρ',hle,⟨R.ext.trans e2,fun h o hg=> ?_,fun h h' o o' l l' h1 h2 hl hl' hbb=> ?_,fun h hh=> ?_,fun h hh=> ?_,fun h v l hv hl=> ?_,fun i v e=>let ⟨l,a,b⟩:=R.env i v e;⟨l,hle _ _ a,b⟩⟩,fun g v hg=>hg.shift hsh⟩
 ·rcases Nat.lt_or_ge h H.n with q|q
  ·obtain⟨l,a,b,c,_⟩:=liveL h o q hg
   exact⟨l,by rw[hlow h q];exact a,b,c.move hle (e2.block _ c.lt)⟩
  ·obtain⟨l,o2,a,b,c,rfl,_⟩:=liveH h o q hg
   exact⟨yC H.n l,by rw[hhigh h q,a];rfl,.inl (Nat.le_trans R.ext.size b),c.shift hsh⟩
 ·rcases Nat.lt_or_ge h H.n with q|q<;>rcases Nat.lt_or_ge h' H.n with q'|q'
  ·obtain⟨l1,a1,_,_,g1⟩:=liveL h o q h1
   obtain⟨l2,a2,_,_,g2⟩:=liveL h' o' q' h2
   rw[hlow h q,a1]at hl;rw[hlow h' q',a2]at hl'
   cases hl;cases hl'
   exact R.inj h h' o o' _ _ g1 g2 a1 a2 hbb
  ·obtain⟨l1,a1,_,c1,g1⟩:=liveL h o q h1
   obtain⟨l2,o2,a2,b2,_,rfl,g2⟩:=liveH h' o' q' h2
   rw[hlow h q,a1]at hl;rw[hhigh h' q',a2]at hl'
   cases hl;cases hl'
   have:=c1.lt
   simp only[yC]at hbb
   omega
  ·obtain⟨l1,o1,a1,b1,_,rfl,g1⟩:=liveH h o q h1
   obtain⟨l2,a2,_,c2,g2⟩:=liveL h' o' q' h2
   rw[hhigh h q,a1]at hl;rw[hlow h' q',a2]at hl'
   cases hl;cases hl'
   have:=c2.lt
   simp only[yC]at hbb
   omega
  ·obtain⟨l1,o1,a1,b1,_,rfl,g1⟩:=liveH h o q h1
   obtain⟨l2,o2,a2,b2,_,rfl,g2⟩:=liveH h' o' q' h2
   rw[hhigh h q,a1]at hl;rw[hhigh h' q',a2]at hl'
   cases hl;cases hl'
   have:=R2.inj _ _ _ _ _ _ g1 g2 a1 a2 hbb
   omega
 ·have hh':H.n+n<=h:=hh
  rw[hhigh h (by omega),R2.fresh (h - H.n) (by show n<=_;omega)];rfl
 ·have hh':h<H.n+n:=hh
  rcases Nat.lt_or_ge h H.n with q|q
  ·obtain⟨l,hl⟩:=R.dense h q
   exact⟨l,by rw[hlow h q];exact hl⟩
  ·obtain⟨l,hl⟩:=R2.dense (h - H.n) (by show _<n;omega)
   exact⟨yC H.n l,by rw[hhigh h q,hl];rfl⟩
 ·obtain⟨o,ho⟩:=qD.1 hv
  rcases Nat.lt_or_ge h H.n with q|q
  ·rw[gl h q]at ho
   rw[hlow h q]at hl
   obtain⟨lv,a,b,c⟩:=R.vers h v l (qD.2 ⟨o,ho⟩) hl
   have hg:=fH.2 ⟨v,ho⟩
   obtain⟨l',hl',_,ck⟩:=R.live h o hg
   rw[hl]at hl';cases hl'
   refine⟨lv,hle _ _ a,by rw[e2.block _ ck.lt];exact b,?_⟩
   obtain⟨v2,hv2⟩:=fH.1 c
   exact fH.2 ⟨v2,by rw[gl h q];exact hv2⟩
  ·obtain⟨p2,h2,e⟩:=gh h _ q ho
   cases e
   rw[hhigh h q]at hl
   obtain⟨l2,hl2,rfl⟩:=Option.map_eq_some_iff.1 hl
   obtain⟨lv,a,b,c⟩:=R2.vers (h - H.n) p2.1 l2 (qD.2 ⟨p2.2,h2⟩) hl2
   refine⟨yC H.n lv,hsh _ _ a,b,?_⟩
   have h3:(Gf n os).get (h - H.n)=some p2.2:=fH.2 ⟨p2.1,h2⟩
   rw[c]at h3
   have h4:=Option.some.inj h3
   exact fH.2 ⟨_,by rw[ho,<-h4];rfl⟩
end

theorem SK {a b:Nat×Nat} (h:MG a b=true):a=b:=by
 obtain⟨a1,a2⟩:=a
 obtain⟨b1,b2⟩:=b
 unfold MG at h
 cases h2:Nat.beq a2 b2 with
 |false=>simp[h2]at h
 |true=>
  simp only[h2,cond_true]at h
  rw[Nat.eq_of_beq_eq_true h,Nat.eq_of_beq_eq_true h2]
theorem NM {ρ:cS} {n l:Nat} {x:ByteArray} (e1:n=jW (aZ x)) (e2:l=(aZ x).length):Rl ρ (.str n l) (.string x):=by
 rw[e1,e2];exact .str x
def Ys (us:List GV) (p:Nat×Nat):Bool:=List.casesOn (motive:=fun _=>Bool) us false fun u r=>List.casesOn (motive:=fun _=>Bool) r (Option.casesOn (motive:=fun _=>Bool) (GV.asStr u) false fun s=>MG s p) fun _ _=>false
theorem Ti {us:List GV} {p:Nat×Nat} (h:Ys us p=true):us=[.str p.1 p.2]:=by
 cases us with
 |nil=>cases h
 | cons u r =>
  cases r with
  |cons _ _=>cases h
  | nil =>
   cases hu:GV.asStr u with
   |none=>simp[Ys,hu]at h
   |some s=>
    have:MG s p=true:=by simpa [Ys,hu]using h
    rw[nW hu,SK this]
noncomputable section
def TK (H:GH) (hs:List Nat):Option OL:=List.rec (motive:=fun _=>Option OL) (some []) (fun h _ ih=>ob (H.t.get h) fun p=>ob ih fun r=>some ((h,p.1,p.2)::r)) hs
theorem EX {H:GH}:∀{hs:List Nat} {os:OL},TK H hs=some os->∀x∈os,H.t.get x.1=some x.2
 | [],os,h,x,hx=>by cases h;cases hx
 |h0::hs,os,h,x,hx=>by
  obtain⟨p,hp,h⟩:=aA.1 (show ob (H.t.get h0) (fun p=>ob (TK H hs) fun r=>some ((h0,p.1,p.2)::r))=some os from h)
  obtain⟨r,hr,h⟩:=aA.1 h
  cases h
  rcases List.mem_cons.1 hx with rfl|hx
  ·exact hp
  ·exact EX hr x hx
def OY (T:Dx) (G:GP) (fuel f:Nat) (us:List GV) (hs:List Nat):Option (GV×Nat×OL):=ob (GK T G fuel f us H0) fun r=>ob (TK r.2 hs) fun os=>some (r.1,r.2.n,os)
def shK {R:Type} (k:Nat) (v:GV) (f:GV->R):R:=GV.casesOn (motive_1:=fun _=>R) v (fun a b=>f (.int a b)) (fun b=>f (.bool b)) (fun a b=>f (.str a b)) (fun h o=>sn (Nat.add k h) fun h=>f (.ptr h o)) (f .pnil) (fun h o l s=>sn (Nat.add k h) fun h=>f (.sl h o l s)) (f .snil) (fun h=>sn (Nat.add k h) fun h=>f (.map h)) (fun a b c=>f (Eg k (.fn a b c))) (f .fnil) (f .inil) (fun cs=>f (Eg k (.agg cs))) (fun vs=>f (Eg k (.tup vs))) (f .un) (f .bad) (fun h=>sn (Nat.add k h) fun h=>f (.opn h))
theorem TV {R:Type} (k:Nat) (v:GV) (f:GV->R):shK k v f=f (Eg k v):=by
 cases v<;>simp[shK,tV,Eg]
def YO {R:Type} (k:Nat) (l:List GV):(List GV->R)->R:=List.rec (motive:=fun _=>(List GV->R)->R) (fun f=>f []) (fun x _ ih f=>shK k x fun y=>ih fun r=>f (y::r)) l
theorem Pq {R:Type} (k:Nat):∀(l:List GV) (f:List GV->R),YO k l f=f (QR k l)
 | [],f=>rfl
 |x::l,f=>by
  show shK k x (fun y=>YO k l fun r=>f (y::r))=_
  rw[TV,Pq k l];rfl
def YP {R:Type} (k:Nat) (o:GO) (f:GO->R):R:=GO.casesOn (motive:=fun _=>R) o (fun cs=>YO k cs fun cs=>f (.cells cs)) (fun es=>f (Uu k (.mp es)))
theorem Wv {R:Type} (k:Nat) (o:GO) (f:GO->R):YP k o f=f (Uu k o):=by
 cases o with
 |cells cs=>exact Pq k cs _
 |mp es=>rfl
def YH {R:Type} (k:Nat) (t:Tr (Nat×GO)) (os:OL):(Tr (Nat×GO)->R)->R:=List.rec (motive:=fun _=>(Tr (Nat×GO)->R)->R) (fun f=>f t) (fun x _ ih f=>ih fun t=>sn (Nat.add k x.2.1) fun v=>sn (Nat.add k x.1) fun h=>YP k x.2.2 fun o=>t.setK (some (v,o)) h f) os
theorem Pg {R:Type} (k:Nat) (t:Tr (Nat×GO)):∀(os:OL) (f:Tr (Nat×GO)->R),YH k t os f=f (LW k t os)
 | [],f=>rfl
 |x::os,f=>by
  show YH k t os (fun t=>sn (Nat.add k x.2.1) fun v=>sn (Nat.add k x.1) fun h=>YP k x.2.2 fun o=>t.setK (some (v,o)) h f)=_
  rw[Pg k t os]
  simp only[tV,Wv,Av];rfl
def LB (g:GV) (n:Nat) (os:OL) (H:GH):Option (GV×GH):=sn H.n fun k=>shK k g fun g=>YH k H.t os fun t=>sn (Nat.add k n) fun m=>some (g,⟨m,t⟩)
theorem Tv (g:GV) (n:Nat) (os:OL) (H:GH):LB g n os H=some (Eg H.n g,H.load n os):=by
 unfold LB
 simp only[tV,TV,Pg];rfl
theorem OZ {P:Program} {T:Dx} {G:GP} {gs gs2:wJ} (hobs:gs2.obs=gs.obs) (henv:gs2.env=[]) (hT:Gw T G.tab) (hG:∀w0:dM gs2,PK P G T.fns w0) {fuel f n:Nat} {us:List GV} {vs:List Value} {hs:List Nat} {g:GV} {os:OL} (hm:OY T G fuel f us hs=some (g,n,os)) (hb:aQ P f)
  {w0:dM gs} {w:World} {ρ:cS} {H H':GH} {g':GV} (hv:nG (fun _=>none) us vs) (h:LB g n os H=some (g',H')) (R:eD w0 ρ H w):jH P w0 ρ f vs w g' H':=by
 rw[Tv]at h;cases h
 obtain⟨r,hr,hm⟩:=aA.1 (show ob (GK T G fuel f us H0) _=some (g,n,os)from hm)
 obtain⟨os',hos,hm⟩:=aA.1 hm
 cases hm
 rw[DI hT]at hr
 have hgl:Fi gs2 w fun _=>False:=fun p hp=>⟨(R.glo p (hobs▸hp)).1,id⟩
 rcases DG hG (H':=r.2) (g:=r.1) hr (eD.start (dM.of w hgl) henv) hv with⟨v,w',ρ',hr',_⟩|⟨_,hc⟩
 ·have:=hb vs.toArray w
  rw[show(dM.of w hgl).w=w from rfl,this]at hr';cases hr'
 ·refine .inr ⟨hb _ w,hc.mono ?_⟩
  rintro e w' ⟨v,ρ2,rfl,_,R2,hr2⟩
  have R3:eD (dM.of w hgl) ρ2 (Gf r.2.n os) w':=R2.sub rfl fun h p hp=>by
   have:QQ os h=some p:=(BG os h).symm.trans hp
   exact EX hos _ (J_ this)
  obtain⟨ρ',hle,R4,hsh⟩:=R.join R3
  exact⟨v,ρ',rfl,hle,R4,hsh _ _ hr2⟩
theorem Qv {P:Program} {T:Dx} {G:GP} {gs:wJ} (hT:Gw T G.tab) (hG:∀w0:dM gs,PK P G T.fns w0) {fuel f n:Nat} {us:List GV} {vs:List Value} {hs:List Nat} {g:GV} {os:OL} (hm:OY T G fuel f us hs=some (g,n,os)) (hb:aQ P f)
  (hv:nG (fun _=>none) us vs) (he:gs.env=[]) (b:dM gs):Calls P f vs.toArray b.w fun e w'=>∃v ρ',e = .returned v∧eD b ρ' (Gf n os) w'∧Rl ρ' g v:=by
 obtain⟨r,hr,hm⟩:=aA.1 (show ob (GK T G fuel f us H0) _=some (g,n,os)from hm)
 obtain⟨os',hos,hm⟩:=aA.1 hm
 cases hm
 rw[DI hT]at hr
 rcases DG hG (H':=r.2) (g:=r.1) hr (eD.start b he) hv with⟨v,w',ρ',hr',_⟩|⟨_,hc⟩
 ·have:=hb vs.toArray b.w
  rw[this]at hr';cases hr'
 ·refine hc.mono ?_
  rintro e w' ⟨v,ρ2,rfl,_,R2,hr2⟩
  exact⟨v,ρ2,rfl,R2.sub rfl fun h p hp=>by
   have:QQ os h=some p:=(BG os h).symm.trans hp
   exact EX hos _ (J_ this),hr2⟩
end
theorem NC {P:Program} {gs:Nat->wJ} {L:List aU} (hL:∀w S,(∀h∈L,h.p w S)->∃T,Fi (gs T) w fun _=>False) {f n:Nat} {vs:List Value} {g:GV} {os:OL}
  (h:∀T (b:dM (gs T)),Calls P f vs.toArray b.w fun e w'=>∃v ρ',e = .returned v∧eD b ρ' (Gf n os) w'∧Rl ρ' g v) {A:Type} {ret:A->Value} {LO:A->List aU}
  (hdec:∀T (b:dM (gs T)) (ρ:cS) (w:World) (V:Value),(∀k,b.mine k->b.w.heap.size<=k)->eD b ρ (Gf n os) w->Rl ρ g V->∃x:A,V=ret x∧∀q∈LO x,q.p w (fun k=>b.w.heap.size<=k)):
  aS P f vs.toArray L ret (fun _ l=>l) (fun x l=>LO x++l):=by
 intro w0 S0 hw
 obtain⟨T,hT⟩:=hL w0 S0 hw
 refine(h T (.of w0 hT)).mono ?_
 rintro e w' ⟨v,ρ',rfl,R,hr⟩
 obtain⟨x,rfl,hq⟩:=hdec T (.of w0 hT) ρ' w' v (fun k hk=>hk.elim id False.elim) R hr
 refine⟨x,rfl,R.ext,fun _ _=>False,⟨fun i m hm=>by simp at hm,fun i k h=>h.elim,fun i j k h=>h.elim⟩,fun q hq'=> ?_⟩
 have hq':q∈LO x++[]:=hq'
 rw[List.append_nil]at hq'
 exact aU.wide (hq q hq') (fun k hk=>⟨.inr (.inl hk),fun i h=>h.elim⟩)

noncomputable def FE (s:ByteArray):Nat×Nat:=(jW (aZ s),(aZ s).length)
theorem Lt {a b:ByteArray} (h:FE a=FE b):a=b:=by
 have h1:=SJ a b
 unfold FE at h
 rw[h]at h1
 have h2:MG (jW (aZ b),(aZ b).length) (jW (aZ b),(aZ b).length)=true:=by simp[MG]
 rw[h2]at h1
 have h3:a.toList=b.toList:=eq_of_beq h1.symm
 rw[Lib.toList_data,Lib.toList_data]at h3
 obtain⟨⟨x⟩⟩:=a
 obtain⟨⟨y⟩⟩:=b
 simp only at h3
 rw[h3]
noncomputable def Yc (cs:List GV):Option (Nat×Nat):=List.casesOn (motive:=fun _=>Option (Nat×Nat)) cs none fun c r=>List.casesOn (motive:=fun _=>Option (Nat×Nat)) r c.asStr fun _ _=>none
abbrev YK:dZ ByteArray:=⟨1,Nat.one_pos,fun _ _ cs x=>cs=[.string x],fun h=>by simp[h],fun h _=>h⟩
theorem fW.str {S:Nat->Prop} {ρ:cS} {w:World}:fW S ρ w Yc YK FE:=fun gs vs y hr h _=>by
 cases gs with
 |nil=>cases h
 |cons c gs=>
 cases gs with
 |cons _ _=>cases h
 |nil=>
 have h:c.asStr=some y:=h
 obtain⟨v,vs,rfl,hv,hr⟩:=hr.of_cons
 rw[hr.of_nil]
 rw[nW h]at hv
 obtain⟨x,rfl,e1,e2⟩:=hv.str_inv
 exact⟨x,by unfold FE;rw[<-e1,<-e2],rfl⟩
theorem Wy {ρ:cS} {V:Value} {n l:Nat} {s:ByteArray} (h:Rl ρ (.str n l) V) (e:FE s=(n,l)):V = .string s:=by
 obtain⟨x,rfl,e1,e2⟩:=h.str_inv
 have:FE x=FE s:=by rw[e];unfold FE;rw[<-e1,<-e2]
 rw[Lt this]
theorem Hi {α:Type}:∀a b:α,id a=id b->a=b:=fun _ _ h=>h
theorem BC {α β α' β':Type} {f:α->α'} {g:β->β'} (hf:∀a b,f a=f b->a=b) (hg:∀a b,g a=g b->a=b):∀a b:α×β,(fun z:α×β=>(f z.1,g z.2)) a=(fun z:α×β=>(f z.1,g z.2)) b->a=b:=fun a b h=>by
 obtain⟨a1,a2⟩:=a
 obtain⟨b1,b2⟩:=b
 simp only[Prod.mk.injEq]at h
 rw[hf _ _ h.1,hg _ _ h.2]
theorem Hn {α β:Type} {f:α->β} (hf:∀a b,f a=f b->a=b):∀{xs ys:List α},xs.map f=ys.map f->xs=ys
 | [],[],_=>rfl
 | [],_::_,h=>by simp at h
 |_::_,[],h=>by simp at h
 |a::xs,b::ys,h=>by
  simp only[List.map_cons,List.cons.injEq]at h
  rw[hf _ _ h.1,Hn hf h.2]
end Go.Gx
end
section
set_option maxRecDepth 100000
namespace Go.Gx
open Go Go.Sx Go.Proofs Go.Proofs.YtjlbcgddhnjcjaaGreatDoor
def mu0:List GV:=[.str 2782272544148574329703548915484139416562471587372346629090892429547018860149309682118537811771073185556707760590527461846276004869770941806974104689717583530206048895217444112283498148464 78]
def mg0:GV:=(.agg [(.str 1907970655657516625763 9),(.sl 328 0 1 6),(.sl 491 0 1 3)])
def mo0:OL:=[(328,328,.cells [(.str 99 1),(.int .i64 (.ofNat 1)),(.int .i64 (.ofNat 0)),(.int .i64 (.ofNat 0)),(.int .i64 (.ofNat 1)),(.int .i64 (.ofNat 0))]),
 (410,410,.cells [(.int .i64 (.ofNat 21)),(.int .i64 (.ofNat 0)),(.int .i64 (.ofNat 35)),(.int .i64 (.ofNat 0)),(.int .i64 (.ofNat 12)),(.int .i64 (.ofNat 0)),(.int .i64 (.ofNat 5)),(.int .i64 (.ofNat 0))]),
 (475,475,.cells [(.int .i64 (.ofNat 27)),(.int .i64 (.ofNat 0)),(.int .i64 (.ofNat 12)),(.int .i64 (.ofNat 0))]),
 (483,483,.cells [(.int .i64 (.ofNat 0)),(.sl 475 0 2 2)]),
 (491,491,.cells [(.str 7891302 3),(.sl 410 0 4 2),(.sl 483 0 1 2)])]
set_option maxHeartbeats 4000000 in
theorem me0:OY EZ gp 4000 13 mu0 [328,410,475,483,491]=some (mg0,651,mo0):=by kernel_rfl
noncomputable def He (f:Nat) (us:List GV) (H:GH):Option (GV×GH):=bif Nat.beq f 13 then(bif Ys us (2782272544148574329703548915484139416562471587372346629090892429547018860149309682118537811771073185556707760590527461846276004869770941806974104689717583530206048895217444112283498148464,78)then LB mg0 651 mo0 H else S_ f us H)else S_ f us H
noncomputable def ZZ:GP:=⟨tX,gp.cat,He,gp.exn⟩
theorem EP {T:Nat} {w0:dM (gl T)} {w:World} {ρ:cS} {H H':GH} {g:GV} {us:List GV} {vs:f_} {f:Nat} (h:He f us H=some (g,H')) (R:eD w0 ρ H w) (hr:nG ρ us vs):jH Tryz.prog w0 ρ f vs w g H':=by
 unfold He at h
 cases e1:Nat.beq f 13 with
 |false=>rw[e1]at h;exact JU h R hr
 | true =>
  rw[e1]at h
  cases e2:Ys us (2782272544148574329703548915484139416562471587372346629090892429547018860149309682118537811771073185556707760590527461846276004869770941806974104689717583530206048895217444112283498148464,78)with
  |false=>rw[e2]at h;exact JU h R hr
  |true=>
   rw[e2]at h;rw[Nat.eq_of_beq_eq_true e1]
   rw[Ti e2]at hr
   obtain⟨V,rfl,hv⟩:=hr.one
   obtain⟨x,rfl,e3,e4⟩:=hv.str_inv
   exact OZ (gs:=gl T) (gs2:=gl T) rfl rfl Ee Tb me0 Tryz.call13 (nG.cons (NM e3 e4) .nil) h R
theorem WQ {T:Nat} (w0:dM (gl T)):PK Tryz.prog ZZ EZ.fns w0:=⟨(Tb w0).tab,(Tb w0).mixed,(Tb w0).fns,fun h ρ w vs R hr=>EP h R hr,(Tb w0).exn,(Tb w0).cat⟩
def mu1:List GV:=[.str 389508662282641590667193222818340124320258541324365428891725188086024207717159085315988594649689196209224937564443540662539472250600169891651064703471849739348391035222282332234873775082367041688393518087397133674180373991176283487897321372674739070210027174703280392956383328243748401776 120]
def mg1:GV:=(.agg [(.str 140756725746397274546925161 11),(.sl 410 0 1 6),(.sl 686 0 2 3)])
def Tx:OL:=[(410,410,.cells [(.str 109 1),(.int .i64 (.ofNat 2)),(.int .i64 (.ofNat 0)),(.int .i64 (.ofNat 0)),(.int .i64 (.ofNat 0)),(.int .i64 (.ofNat 0))]),
 (497,497,.cells [(.int .i64 (.ofNat 41)),(.int .i64 (.ofNat 0)),(.int .i64 (.ofNat 5)),(.int .i64 (.ofNat 0)),(.int .i64 (.ofNat 21)),(.int .i64 (.ofNat 0)),(.int .i64 (.ofNat 12)),(.int .i64 (.ofNat 0))]),
 (524,524,.cells [(.int .i64 (.ofNat 3)),(.int .i64 (.ofNat 0))]),
 (532,532,.cells [(.int .i64 (.ofNat 0)),(.sl 524 0 1 2)]),
 (643,643,.cells [(.int .i64 (.ofNat 41)),(.int .i64 (.ofNat 0)),(.int .i64 (.ofNat 19)),(.int .i64 (.ofNat 0)),(.int .i64 (.ofNat 5)),(.int .i64 (.ofNat 0)),(.int .i64 (.ofNat 19)),(.int .i64 (.ofNat 0)),(.int .i64 (.ofNat 21)),(.int .i64 (.ofNat 0)),(.int .i64 (.ofNat 12)),(.int .i64 (.ofNat 0))]),
 (670,670,.cells [(.int .i64 (.ofNat 2)),(.int .i64 (.ofNat 0))]),
 (678,678,.cells [(.int .i64 (.ofNat 0)),(.sl 670 0 1 2)]),
 (686,686,.cells [(.str 435777791340 5),(.sl 497 0 4 2),(.sl 532 0 1 2),(.str 491328400997 5),(.sl 643 0 6 2),(.sl 678 0 1 2)])]
set_option maxHeartbeats 4000000 in
theorem me1:OY EZ ZZ 4000 13 mu1 [410,497,524,532,643,670,678,686]=some (mg1,983,Tx):=by kernel_rfl
noncomputable def Nq (f:Nat) (us:List GV) (H:GH):Option (GV×GH):=bif Nat.beq f 13 then(bif Ys us (389508662282641590667193222818340124320258541324365428891725188086024207717159085315988594649689196209224937564443540662539472250600169891651064703471849739348391035222282332234873775082367041688393518087397133674180373991176283487897321372674739070210027174703280392956383328243748401776,120)then LB mg1 983 Tx H else He f us H)else He f us H
noncomputable def Z_:GP:=⟨tX,gp.cat,Nq,gp.exn⟩
theorem Ql {T:Nat} {w0:dM (gl T)} {w:World} {ρ:cS} {H H':GH} {g:GV} {us:List GV} {vs:f_} {f:Nat} (h:Nq f us H=some (g,H')) (R:eD w0 ρ H w) (hr:nG ρ us vs):jH Tryz.prog w0 ρ f vs w g H':=by
 unfold Nq at h
 cases e1:Nat.beq f 13 with
 |false=>rw[e1]at h;exact EP h R hr
 | true =>
  rw[e1]at h
  cases e2:Ys us (389508662282641590667193222818340124320258541324365428891725188086024207717159085315988594649689196209224937564443540662539472250600169891651064703471849739348391035222282332234873775082367041688393518087397133674180373991176283487897321372674739070210027174703280392956383328243748401776,120)with
  |false=>rw[e2]at h;exact EP h R hr
  |true=>
   rw[e2]at h;rw[Nat.eq_of_beq_eq_true e1]
   rw[Ti e2]at hr
   obtain⟨V,rfl,hv⟩:=hr.one
   obtain⟨x,rfl,e3,e4⟩:=hv.str_inv
   exact OZ (gs:=gl T) (gs2:=gl T) rfl rfl Ee WQ me1 Tryz.call13 (nG.cons (NM e3 e4) .nil) h R
theorem ZY {T:Nat} (w0:dM (gl T)):PK Tryz.prog Z_ EZ.fns w0:=⟨(Tb w0).tab,(Tb w0).mixed,(Tb w0).fns,fun h ρ w vs R hr=>Ql h R hr,(Tb w0).exn,(Tb w0).cat⟩
noncomputable abbrev gp2:GP:=Z_
theorem adi {T:Nat} (w0:dM (gl T)):PK Tryz.prog gp2 EZ.fns w0:=ZY w0
end Go.Gx
end
section
namespace Go.Gx
open Go Go.Sx Go.RowKit
structure Hd (n:Nat) (os:OL) (ρ:cS) (w:World) (S:Nat->Prop):Prop where
 live:∀h o,(Gf n os).get h=some o->∃l,ρ h=some l∧S l.b∧uZ ρ w l o
 inj:∀h h' o o' l l',(Gf n os).get h=some o->(Gf n os).get h'=some o'->ρ h=some l->ρ h'=some l'->l.b=l'.b->h=h'
 fresh:∀h,n<=h->ρ h=none
 dense:∀h,h<n->∃l,ρ h=some l
 vers:∀h v l,(Gf n os).ver h=some v->ρ h=some l->∃lv,ρ v=some lv∧w.heap[l.b]? = some lv.x∧(Gf n os).get h=some lv.o
theorem Hd.mono {n:Nat} {os:OL} {ρ:cS} {w w':World} {S S':Nat->Prop} (H:Hd n os ρ w S) (h:∀k,S k->k<w.heap.size->S' k∧w'.heap[k]? = w.heap[k]?):Hd n os ρ w' S':=by
 refine⟨fun k o hg=> ?_,H.inj,H.fresh,H.dense,fun k v l hv hl=> ?_⟩
 ·obtain⟨l,a,b,c⟩:=H.live k o hg
  obtain⟨d,e⟩:=h _ b c.lt
  exact⟨l,a,d,c.move (cS.le_refl ρ) e⟩
 ·obtain⟨lv,a,b,c⟩:=H.vers k v l hv hl
  obtain⟨o,ho⟩:=qD.1 hv
  obtain⟨l',a',b',c'⟩:=H.live k o (fH.2 ⟨v,ho⟩)
  rw[hl]at a';cases a'
  exact⟨lv,a,by rw[(h _ b' c'.lt).2];exact b,c⟩
theorem eD.hd {gs:wJ} {b:dM gs} {n:Nat} {os:OL} {ρ:cS} {w:World} {S:Nat->Prop} (R:eD b ρ (Gf n os) w) (hS:∀k,b.mine k->S k):Hd n os ρ w S:=
 ⟨fun h o hg=>let ⟨l,a,b,c⟩:=R.live h o hg;⟨l,a,hS _ b,c⟩,R.inj,R.fresh,R.dense,R.vers⟩
def QY (n:Nat) (os:OL) (g:GV) (V:Value):aU where
 p w S:=∃ρ,Hd n os ρ w S∧Rl ρ g V
 mono:=fun⟨ρ,h,r⟩ k=>⟨ρ,h.mono k,r⟩
def Hd.O (n:Nat) (os:OL) (ρ:cS) (k:Nat):Prop:=∃h o l,(Gf n os).get h=some o∧ρ h=some l∧l.b=k
def Hd.base (n:Nat) (os:OL) (ρ:cS) (w:World):dM YG:=⟨w,Hd.O n os ρ,fun _ h=>absurd h List.not_mem_nil⟩
theorem Hd.rel {n:Nat} {os:OL} {ρ:cS} {w:World} {S:Nat->Prop} (H:Hd n os ρ w S):eD (Hd.base n os ρ w) ρ (Gf n os) w:=
 ⟨zT.refl w,fun h o hg=>let ⟨l,a,_,c⟩:=H.live h o hg;⟨l,a,.inr ⟨h,o,l,hg,a,rfl⟩,c⟩,H.inj,H.fresh,H.dense,H.vers,fun i v e=>by simp[Hd.base,YG]at e⟩
noncomputable def CJ (H:GH) (os:OL):Bool:=List.rec (motive:=fun _=>Bool) true (fun x _ ih=>Option.casesOn (motive:=fun _=>Bool) (H.ver x.1) false fun v=>bif Nat.beq v x.2.1 then ih else false) os
theorem Md {H:GH}:∀{os:OL},CJ H os=true->∀x∈os,H.ver x.1=some x.2.1
 | [],_,x,hx=>by cases hx
 | y :: os, h, x, hx => by
  have h:Option.casesOn (motive:=fun _=>Bool) (H.ver y.1) false (fun v=>bif Nat.beq v y.2.1 then CJ H os else false)=true:=h
  cases hv:H.ver y.1 with
  |none=>rw[hv]at h;cases h
  | some v =>
   rw[hv]at h
   obtain⟨h1,h2⟩:=bF.1 (show(bif Nat.beq v y.2.1 then(some (CJ H os))else none)=some true by
    have h:(bif Nat.beq v y.2.1 then CJ H os else false)=true:=h
    cases e:Nat.beq v y.2.1<;>rw[e]at h<;>first|cases h|(show some (CJ H os)=some true;rw[show CJ H os=true from h]))
   rcases List.mem_cons.1 hx with rfl|hx
   ·rw[hv,Nat.eq_of_beq_eq_true h1]
   ·exact Md (Option.some.inj h2) x hx
noncomputable def okV (os:OL) (r:OR):Bool:=Option.casesOn (motive:=fun _=>Bool) r false fun r=>Option.casesOn (motive:=fun _=>Bool) r.1.asB false fun b=>bif b then CJ r.2 os else false
theorem TH {os:OL} {r:OR} (h:okV os r=true):∃H',r=some (.bool true,H')∧CJ H' os=true:=by
 cases r with
 |none=>cases h
 | some r =>
  obtain⟨g,H'⟩:=r
  have h:Option.casesOn (motive:=fun _=>Bool) g.asB false (fun b=>bif b then CJ H' os else false)=true:=h
  cases hb:g.asB with
  |none=>rw[hb]at h;cases h
  |some b=>
   rw[hb]at h
   cases b with
   |false=>cases h
   |true=>exact⟨H',by rw[zF hb],h⟩
theorem Qo {P:Program} {G:GP} {Fs:FT} (hG:∀w0:dM YG,PK P G Fs w0) {fuel f n:Nat} {os:OL} {g:GV} {V:Value} (hb:aQ P f) (h:∃H',Oy G Fs fuel f [g] (Gf n os)=some (.bool true,H')∧CJ H' os=true) {w:World} {S:Nat->Prop} (hw:(QY n os g V).p w S):
  Calls P f #[V] w fun e w'=>e = .returned (.bool true)∧Ju w w':=by
 obtain⟨ρ,hd,hr⟩:=hw
 obtain⟨H',h1,h2⟩:=h
 rcases DG hG h1 hd.rel (.cons hr .nil)with⟨v,w',ρ',hr',_⟩|⟨_,hc⟩
 ·have:=hb #[V] w
  rw[this]at hr';cases hr'
 ·refine hc.mono ?_
  rintro e w' ⟨v,ρ2,rfl,hle,R2,hv⟩
  refine⟨by rw[hv.bool_inv],R2.ext.os,R2.ext.tape,R2.ext.output,R2.ext.size,fun k hk=> ?_⟩
  by_cases ho:Hd.O n os ρ k
  ·obtain⟨i,o,l,hg,hl,rfl⟩:=ho
   obtain⟨v0,hv0⟩:=fH.1 hg
   have hm:(i,v0,o)∈os:=J_ ((BG os i).symm.trans hv0)
   obtain⟨lv,a,b,_⟩:=hd.vers i v0 l (qD.2 ⟨o,hv0⟩) hl
   obtain⟨lv',a',b',_⟩:=R2.vers i v0 l (Md h2 _ hm) (hle _ _ hl)
   have:lv=lv':=by have:=hle _ _ a;rw[a']at this;exact(Option.some.inj this).symm
   subst this
   exact b'.trans b.symm
  ·exact R2.ext.block k hk ho
end Go.Gx
end
section
namespace Go.Proofs.YtjlbcgddhnjcjaaGreatDoor
open Go Go.Sx Go.Gx
set_option maxRecDepth 100000
abbrev rX:=ByteArray×(Value×eO)×(Value×List (Int×(Value×eO)))
def wN (z:rX):eO×List (Int×eO):=(z.2.1.2,z.2.2.2.map fun s=>(s.1,s.2.2))
def zM:ByteArray:=(ByteArray.mk #[112,114,111,103,114,97,109,32,105,110,100,101,112,101,110,100,101,110,116,59,10,118,97,114,32,109,32,58,32,98,111,111,108,59,10,114,117,108,101,32,108,101,97,118,101,58,32,109,32,38,38,32,115,111,109,101,40,113,46,109,41,32,45,62,32,109,32,58,61,32,102,97,108,115,101,59,10,114,117,108,101,32,101,110,116,101,114,58,32,33,109,32,38,38,32,33,115,111,109,101,40,113,46,109,41,32,45,62,32,109,32,58,61,32,116,114,117,101,59,10])
def EY:FC:=[((ByteArray.mk #[109]),(2:Int),(0:Int),(0:Int),(0:Int),(0:Int))]
def Cj:Ji:=[([(41,0),(5,0),(21,0),(12,0)],[(0,[(3,0)])]),([(41,0),(19,0),(5,0),(19,0),(21,0),(12,0)],[(0,[(2,0)])])]
def Xb:List ((Nat×Nat)×eO×List (Int×eO)):=[((435777791340,5),[(41,0),(5,0),(21,0),(12,0)],[(0,[(3,0)])]),((491328400997,5),[(41,0),(19,0),(5,0),(19,0),(21,0),(12,0)],[(0,[(2,0)])])]
def PF (V:Value):aU:=⟨fun w S=>(QY 983 Tx mg1 V).p w S,fun {w w' S S'} h k=>by
 rcases h with h
 ·exact((QY 983 Tx mg1 V).mono h k)⟩
noncomputable def PS {R:Type} (D:Ji) (k:List rX->Option R):Option R:=open Classical in if h:∃r,∀z:List rX,z.map wN=D->k z=some r then some (Classical.choose h)else none
theorem zZ {R:Type} {D:Ji} {k:List rX->Option R} {r:R} (h:PS D k=some r) (z:List rX) (hz:z.map wN=D):k z=some r:=by
 unfold PS at h
 split at h
 ·rename_i e
  rw[<-Option.some.inj h]
  exact Classical.choose_spec e z hz
 cases h
theorem Oh {R:Type} {D:Ji} {k:List rX->Option R} {r:R} (h:∀z:List rX,z.map wN=D->k z=some r):PS D k=some r:=by
 have e:∃r,∀z:List rX,z.map wN=D->k z=some r:=⟨r,h⟩
 unfold PS
 rw[dif_pos e]
 let z:List rX:=D.map fun x=>(ByteArray.empty,(undef,x.1),(undef,x.2.map fun s=>(s.1,(undef,s.2))))
 have hz:z.map wN=D:=by
  show(D.map _).map wN=D
  rw[List.map_map]
  conv=>rhs;rw[<-List.map_id D]
  refine List.map_congr_left fun x _=>?_
  obtain⟨a,b⟩:=x
  simp[wN,Function.comp_def]
 rw[<-Classical.choose_spec e z hz,h z hz]
def mJ (fuel:Nat) (p0:ByteArray):Option Ua:=if p0=zM then some ((ByteArray.mk #[105,110,100,101,112,101,110,100,101,110,116]),EY,Cj)else none
theorem EF:aQ Tryz.prog 13:=Tryz.call13
theorem Si:aQ Tryz.prog 71:=Tryz.call71
theorem LV:FE zM=(389508662282641590667193222818340124320258541324365428891725188086024207717159085315988594649689196209224937564443540662539472250600169891651064703471849739348391035222282332234873775082367041688393518087397133674180373991176283487897321372674739070210027174703280392956383328243748401776,120):=by kernel_rfl
theorem TL:FE (ByteArray.mk #[105,110,100,101,112,101,110,100,101,110,116])=(140756725746397274546925161,11):=by kernel_rfl
theorem TN:Ls (Gf 983 Tx) 6 (dP 1 Yc (dP 1 (dI .i64) (dP 1 (dI .i64) (dP 1 (dI .i64) (dP 1 (dI .i64) (dI .i64)))))) (.sl 410 0 1 6)=some (EY.map fun z=>(FE z.1,z.2.1,z.2.2.1,z.2.2.2.1,z.2.2.2.2.1,z.2.2.2.2.2)):=by kernel_rfl
theorem QD:Ls (Gf 983 Tx) 3 (dP 1 Yc (dP 1 (dS (Gf 983 Tx) 2 (dP 1 (dI .i64) (dI .i64))) (dS (Gf 983 Tx) 2 (dP 1 (dI .i64) (dS (Gf 983 Tx) 2 (dP 1 (dI .i64) (dI .i64))))))) (.sl 686 0 2 3)=some Xb:=by kernel_rfl
theorem Wm:Xb.map (fun y=>(y.2.1,y.2.2))=Cj:=by kernel_rfl
theorem TM (r:Ua) (h:some ((ByteArray.mk #[105,110,100,101,112,101,110,100,101,110,116]),EY,Cj)=some r):aS Tryz.prog 13 #[vS zM] [Gb 0 (cellsOf BV pV)] (fun x:Value×Value×{z:List rX // z.map wN=r.2.2}=>Value.agg #[vS r.1,x.1,x.2.1]) (fun x l=>l) (fun x l=>Sl aH x.1 r.2.1::Sl aE x.2.1 x.2.2.1::PF (Value.agg #[vS r.1,x.1,x.2.1])::l):=by
 cases h
 refine NC (gs:=gl) (LO:=fun x:Value×Value×{z:List rX // z.map wN=Cj}=>[Sl aH x.1 EY,Sl aE x.2.1 x.2.2.1,PF (Value.agg #[vS (ByteArray.mk #[105,110,100,101,112,101,110,100,101,110,116]),x.1,x.2.1])]) Ta (fun T b=>Qv Ee WQ me1 EF (.cons (NM (x:=zM) (congrArg Prod.fst LV).symm (congrArg Prod.snd LV).symm) .nil) rfl b) ?_
 intro T b ρ w V hm R hr
 have w0:=hr
 obtain⟨bs,rfl,hl,_⟩:=hr.agg_inv
 obtain⟨A1,bs,rfl,a1,hl⟩:=hl.of_cons
 obtain⟨A2,bs,rfl,a2,hl⟩:=hl.of_cons
 obtain⟨A3,rfl,a3⟩:=hl.one
 obtain rfl:=Wy a1 TL
 obtain⟨zs,hz,hs⟩:=Ca R hm (fW.pair fW.str (fW.pair (fW.int .i64) (fW.pair (fW.int .i64) (fW.pair (fW.int .i64) (fW.pair (fW.int .i64) (fW.int .i64)))))) a2 TN
 have hzs:zs=EY:=Hn (BC (fun _ _=>Lt) (BC Hi (BC Hi (BC Hi (BC Hi Hi))))) hz
 subst hzs
 obtain⟨ys,hy,ht⟩:=Ca (r:=aE) R hm (fW.pair fW.str (fW.pair (fW.sl R hm (fW.pair (fW.int .i64) (fW.int .i64))) (fW.sl R hm (fW.pair (fW.int .i64) (fW.sl R hm (fW.pair (fW.int .i64) (fW.int .i64))))))) a3 QD
 have hys:ys.map wN=Cj:=by
  rw[<-Wm,<-hy,List.map_map]
  refine List.map_congr_left fun x _=>?_
  simp[wN,Function.comp_def]
 exact⟨(A2,A3,⟨ys,hys⟩),rfl,List.forall_mem_cons.2 ⟨hs,List.forall_mem_cons.2 ⟨ht,List.forall_mem_cons.2 ⟨(⟨ρ,eD.hd R hm,w0⟩),fun q hq=>absurd hq List.not_mem_nil⟩⟩⟩⟩
theorem Uo:okV Tx (GK EZ gp0 4000 71 [mg1] (Gf 983 Tx))=true:=by kernel_rfl
theorem pH (fuel:Nat) {p0:ByteArray} (r:Ua) (h:mJ fuel p0=some r):aS Tryz.prog 13 #[vS p0] [Gb 0 (cellsOf BV pV)] (fun x:Value×Value×{z:List rX // z.map wN=r.2.2}=>Value.agg #[vS r.1,x.1,x.2.1]) (fun x l=>l) (fun x l=>Sl aH x.1 r.2.1::Sl aE x.2.1 x.2.2.1::PF (Value.agg #[vS r.1,x.1,x.2.1])::l):=by
 unfold mJ at h
 by_cases e2:p0=zM
 ·subst e2;exact TM r ((if_pos rfl).symm.trans h)
 rw[if_neg e2]at h
 cases h
theorem LU (f:Nat):mJ f zM=some ((ByteArray.mk #[105,110,100,101,112,101,110,100,101,110,116]),EY,Cj):=by
 unfold mJ
 exact if_pos rfl
def zK (fuel:Nat) (p0:ByteArray×List (ByteArray×Int×Int×Int×Int×Int)×List (rX)):Option Bool:=some true
theorem Ip (fuel:Nat) {p0:ByteArray×List (ByteArray×Int×Int×Int×Int×Int)×List (rX)} (v0 v1:Value) (r:Bool) (h:zK fuel p0=some r):
  aS Tryz.prog 71 #[Value.agg #[vS p0.1,v0,v1]] [Sl aH v0 p0.2.1,Sl aE v1 p0.2.2,PF (Value.agg #[vS p0.1,v0,v1])] (fun x:Unit=>vB (r)) (fun x l=>l) (fun _ l=>l):=by
 cases h
 intro w S hw
 have key:Calls Tryz.prog 71 #[Value.agg #[vS p0.1,v0,v1]] w fun e w'=>e = .returned (.bool true)∧Ju w w':=by
  rcases hw _ (List.mem_of_getElem? (i:=2) rfl)with hp
  ·refine Qo (fuel:=4000) adh Si ?_ hp
   obtain⟨H',h1,h2⟩:=TH Uo
   rw[DI (G:=gp0) Ee]at h1
   exact⟨H',h1,h2⟩
 refine key.mono ?_
 rintro e w' ⟨rfl,he⟩
 exact⟨(),rfl,⟨he.os,he.tape,he.output,he.size,fun k hk _=>he.block k hk⟩,fun _ _=>False,⟨fun i m hm=>by simp at hm,fun i k h=>h.elim,fun i j k h=>h.elim⟩,fun q hq=>by simp at hq⟩
end Go.Proofs.YtjlbcgddhnjcjaaGreatDoor
end
section
namespace Go.Proofs.YtjlbcgddhnjcjaaGreatDoor
open Go Go.Sx
section
abbrev aaL:=BP
abbrev PRG:=ByteArray×(List aaL)×(List rX)
abbrev GRF:=List Int×eV
abbrev SCN:=PRG×GRF×Int×aY
abbrev ZI:=SCN×aY×Int×eO
inductive E where
 |lf (o a:Int)
 |un (o:Int) (x:E)
 |ag (o:Int) (x:E)
 |bi (o:Int) (x y:E)
 |ite (x y z:E)
def E.ts:E->eO
 |lf o a=>[(o,a)]
 |un o x=>(o,0)::x.ts
 |ag o x=>(o,0)::x.ts
 |bi o x y=>(o,0)::(x.ts++y.ts)
 |ite x y z=>(43,0)::(x.ts++(y.ts++z.ts))
def E.depth:E->Nat
 |lf _ _=>1
 |un _ x=>x.depth+1
 |ag _ x=>x.depth+1
 |bi _ x y=>max x.depth y.depth+1
 |ite x y z=>max x.depth (max y.depth z.depth)+1
def E.arOk:E->Bool
 |lf o _=>decide (1<=o)&&decide (o<=17)
 |un o x=>decide (18<=o)&&decide (o<=19)&&x.arOk
 |ag o x=>decide (20<=o)&&decide (o<=29)&&x.arOk
 |bi o x y=>decide (30<=o)&&decide (o<=42)&&x.arOk&&y.arOk
 |ite x y z=>x.arOk&&y.arOk&&z.arOk
theorem JF {α:Type} [Inhabited α] {T pre rest:List α} {x:α} {k:Nat} (hT:T=pre++x::rest) (hk:pre.length=k):at' T (k:Int)=x:=by
 subst hT;exact PV pre rest x k hk
theorem eB {k:Nat} (h:k<1000000):wI .i64 ((k:Int)+1)=((k+1:Nat):Int):=by rw[wr (by omega) (by omega)];rfl

theorem RQ (f:Nat) {o:Int} (h1:1<=o) (h2:o<=43):uQ f o=some (if o<=17 then 0 else if o<=29 then 1 else if o<=42 then 2 else 3):=by
 unfold uQ wH
 rw[if_neg (by omega)]
 simp only[decide_eq_true_eq]
 rw[if_neg (by omega)]
 split
 ·rfl
 ·split
  ·rfl
  ·split<;>rfl
theorem SI {F:Nat} {T pre rest:eO} {t:dL} {k m a:Nat} {fuel:Nat} (hT:T=pre++t::rest) (hk:pre.length=k) (hk2:k<1000) (hm:m<3000) (ha:uQ F t.1=some ((a:Nat):Int)) (ha3:a<=3) (hne:m+a≠0):
  bE (jV F T) (fuel+1) ((k:Int),(m:Int))=if m+a=1 then some (((k+1:Nat):Int))else bE (jV F T) fuel (((k+1:Nat):Int),((m+a - 1:Nat):Int)):=by
 have hl:k<T.length:=by rw[hT];simp;omega
 show jV F T ((k:Int),(m:Int)) (bE (jV F T) fuel)=_
 unfold jV
 dsimp only
 rw[if_pos (by omega),cN (by omega),JF hT hk,bB ha,if_neg (by omega),wr (x:=((a:Nat):Int) - 1) (by omega) (by omega),wr (by omega) (by omega),eB (by omega)]
 by_cases h:m+a=1
 ·rw[if_pos h,if_pos (by omega)]
 ·rw[if_neg h,if_neg (by omega)]
  have:(m:Int)+((a:Int) - 1)=((m+a - 1:Nat):Int):=by omega
  rw[this]
theorem VK (F:Nat) (T:eO) (hT9:T.length<=900):∀(e:E),e.arOk=true->∀(fuel k m:Nat) (pre post:eO),T=pre++(e.ts++post)->pre.length=k->1<=m->m+2*(e.ts++post).length<=1900->e.ts.length<=fuel->
  bE (jV F T) fuel ((k:Int),(m:Int))=if m=1 then some (((k+e.ts.length:Nat):Int))else bE (jV F T) (fuel - e.ts.length) (((k+e.ts.length:Nat):Int),((m - 1:Nat):Int)):=by
 have key:∀{t:dL} {l post pre:eO} {fuel k m:Nat},T=pre++((t::l)++post)->pre.length=k->(t::l).length<=fuel->1<=t.1->t.1<=43->1<=m->m+2*((t::l)++post).length<=1900->∀a:Nat,(if t.1<=17 then 0 else if t.1<=29 then 1 else if t.1<=42 then 2 else 3:Int)=a->a<=3->∃f,fuel=f+1∧
   bE (jV F T) fuel ((k:Int),(m:Int))=if m+a=1 then some (((k+1:Nat):Int))else bE (jV F T) f (((k+1:Nat):Int),((m+a - 1:Nat):Int)):=by
  intro t l post pre fuel k m hT hk hf h1 h2 hm1 hm a ha ha3
  have hlen:=congrArg List.length hT
  simp only[List.length_append,List.length_cons]at hlen hm hf
  obtain⟨f,rfl⟩:∃f,fuel=f+1:=⟨fuel - 1,by omega⟩
  exact⟨f,rfl,SI (rest:=l++post) (by simpa using hT) hk (by omega) (by omega) (by rw[RQ F h1 h2,ha]) ha3 (by omega)⟩
 intro e
 induction e with
 |lf o a=>
  intro hok fuel k m pre post hT hk hm1 hm hf
  simp only[E.arOk,Bool.and_eq_true,decide_eq_true_eq]at hok
  obtain⟨f,rfl,h⟩:=key (t:=(o,a)) (l:=[]) hT hk hf (by dsimp only;omega) (by dsimp only;omega) hm1 hm 0 (by rw[if_pos (by dsimp only;omega)];rfl) (by omega)
  rw[h];rfl
 |un o x ih=>
  intro hok fuel k m pre post hT hk hm1 hm hf
  simp only[E.arOk,Bool.and_eq_true,decide_eq_true_eq]at hok
  obtain⟨f,rfl,h⟩:=key (t:=(o,0)) (l:=x.ts) hT hk hf (by dsimp only;omega) (by dsimp only;omega) hm1 hm 1 (by rw[if_neg (by dsimp only;omega),if_pos (by dsimp only;omega)];rfl) (by omega)
  simp only[E.ts,List.length_cons]at hf hm ⊢
  rw[h,if_neg (by omega)]
  have:=ih hok.2 f (k+1) m (pre++[(o,0)]) post (by rw[hT];simp[E.ts]) (by simp[hk]) hm1 (by simp at hm ⊢;omega) (by omega)
  rw[show m+1 - 1=m by omega,this,show k+1+x.ts.length=k+(x.ts.length+1) by omega,show f+1 - (x.ts.length+1)=f - x.ts.length by omega]
 |ag o x ih=>
  intro hok fuel k m pre post hT hk hm1 hm hf
  simp only[E.arOk,Bool.and_eq_true,decide_eq_true_eq]at hok
  obtain⟨f,rfl,h⟩:=key (t:=(o,0)) (l:=x.ts) hT hk hf (by dsimp only;omega) (by dsimp only;omega) hm1 hm 1 (by rw[if_neg (by dsimp only;omega),if_pos (by dsimp only;omega)];rfl) (by omega)
  simp only[E.ts,List.length_cons]at hf hm ⊢
  rw[h,if_neg (by omega)]
  have:=ih hok.2 f (k+1) m (pre++[(o,0)]) post (by rw[hT];simp[E.ts]) (by simp[hk]) hm1 (by simp at hm ⊢;omega) (by omega)
  rw[show m+1 - 1=m by omega,this,show k+1+x.ts.length=k+(x.ts.length+1) by omega,show f+1 - (x.ts.length+1)=f - x.ts.length by omega]
 |bi o x y ihx ihy=>
  intro hok fuel k m pre post hT hk hm1 hm hf
  simp only[E.arOk,Bool.and_eq_true,decide_eq_true_eq]at hok
  obtain⟨f,rfl,h⟩:=key (t:=(o,0)) (l:=x.ts++y.ts) hT hk hf (by dsimp only;omega) (by dsimp only;omega) hm1 hm 2 (by rw[if_neg (by dsimp only;omega),if_neg (by dsimp only;omega),if_pos (by dsimp only;omega)];rfl) (by omega)
  simp only[E.ts,List.length_cons,List.length_append]at hf hm ⊢
  rw[h,if_neg (by omega)]
  have h1:=ihx hok.1.2 f (k+1) (m+1) (pre++[(o,0)]) (y.ts++post) (by rw[hT];simp[E.ts]) (by simp[hk]) (by omega) (by simp at hm ⊢;omega) (by omega)
  have h2:=ihy hok.2 (f - x.ts.length) (k+1+x.ts.length) m (pre++((o,0)::x.ts)) post (by rw[hT];simp[E.ts]) (by simp[hk];omega) (by omega) (by simp at hm ⊢;omega) (by omega)
  rw[show m+2 - 1=m+1 by omega,h1,if_neg (by omega),show m+1 - 1=m by omega,h2,show k+1+x.ts.length+y.ts.length=k+(x.ts.length+y.ts.length+1) by omega,show f+1 - (x.ts.length+y.ts.length+1)=f - x.ts.length - y.ts.length by omega]
 |ite x y z ihx ihy ihz=>
  intro hok fuel k m pre post hT hk hm1 hm hf
  simp only[E.arOk,Bool.and_eq_true,decide_eq_true_eq]at hok
  obtain⟨f,rfl,h⟩:=key (t:=(43,0)) (l:=x.ts++(y.ts++z.ts)) hT hk hf (by decide) (by decide) hm1 hm 3 rfl (by omega)
  simp only[E.ts,List.length_cons,List.length_append]at hf hm ⊢
  rw[h,if_neg (by omega)]
  have h1:=ihx hok.1.1 f (k+1) (m+2) (pre++[(43,0)]) (y.ts++z.ts++post) (by rw[hT];simp[E.ts]) (by simp[hk]) (by omega) (by simp at hm ⊢;omega) (by omega)
  have h2:=ihy hok.1.2 (f - x.ts.length) (k+1+x.ts.length) (m+1) (pre++((43,0)::x.ts)) (z.ts++post) (by rw[hT];simp[E.ts]) (by simp[hk];omega) (by omega) (by simp at hm ⊢;omega) (by omega)
  have h3:=ihz hok.2 (f - x.ts.length - y.ts.length) (k+1+x.ts.length+y.ts.length) m (pre++((43,0)::(x.ts++y.ts))) post (by rw[hT];simp[E.ts]) (by simp[hk];omega) (by omega) (by simp at hm ⊢;omega) (by omega)
  rw[show m+3 - 1=m+2 by omega,h1,if_neg (by omega),show m+2 - 1=m+1 by omega,h2,if_neg (by omega),show m+1 - 1=m by omega,h3,show k+1+x.ts.length+y.ts.length+z.ts.length=k+(x.ts.length+(y.ts.length+z.ts.length)+1) by omega,show f+1 - (x.ts.length+(y.ts.length+z.ts.length)+1)=f - x.ts.length - y.ts.length - z.ts.length by omega]
theorem Yh (F:Nat) (e:E) (hok:e.arOk=true) {T pre post:eO} {k:Nat} (hT:T=pre++(e.ts++post)) (hk:pre.length=k) (hl:T.length<=800) (hF:e.ts.length<=F):AK F T (k:Int)=some (((k+e.ts.length:Nat):Int)):=by
 have hpos:1<=e.ts.length:=by cases e<;>simp[E.ts]
 have hlen:=congrArg List.length hT
 simp only[List.length_append]at hlen
 unfold AK zB
 rw[if_neg (by omega)]
 simp only[decide_eq_true_eq]
 rw[if_neg (by omega)]
 have:=VK F T (by omega) e hok F k 1 pre post hT hk (by omega) (by simp;omega) hF
 rw[if_pos rfl]at this
 exact this
end
section
def JG (b:Bool):Int:=if b then 1 else 0
theorem sI (f:Nat) (b:Bool):gF f b=some (JG b):=by cases b<;>rfl
theorem Aj {α:Type} [Inhabited α] {l:List α} {k:Nat} (h:k<l.length):l.take (k+1)=l.take k++[at' l (k:Int)]:=by
 rw[List.take_add_one,List.getElem?_eq_getElem h,h_,List.getD_eq_getElem?_getD,List.getElem?_eq_getElem h];rfl
theorem kC {α:Type} [Inhabited α] {l:List α} {k:Nat} (h:k<l.length):at' l (k:Int)=l[k]:=by
 rw[h_,List.getD_eq_getElem?_getD,List.getElem?_eq_getElem h];rfl
theorem IU {p:Nat->Prop}:∀(n:Nat),p n->∃m,m<=n∧p m∧∀j,j<m->¬p j:=by
 intro n
 induction n using Nat.strongRecOn with
 | _ n ih =>
  intro h
  by_cases hm:∃m,m<n∧p m
  ·obtain⟨m,h1,h2⟩:=hm
   obtain⟨k,a,b,c⟩:=ih m h1 h2
   exact⟨k,by omega,b,c⟩
  ·exact⟨n,Nat.le_refl n,h,fun j hj hp=>hm ⟨j,hj,hp⟩⟩
theorem Pb {α:Type} [DecidableEq α]:∀(l1 l2:List α),l1.Nodup->(∀x∈l1,x∈l2)->l1.length<=l2.length
 | [],l2,_,_=>Nat.zero_le _
 |a::l1,l2,h,hs=>by
  have ha:=hs a List.mem_cons_self
  have h:=List.nodup_cons.1 h
  have:=Pb l1 (l2.erase a) h.2 (fun x hx=>(List.mem_erase_of_ne (fun(e:x=a)=>h.1 (by rw[<-e];exact hx))).2 (hs x (List.mem_cons_of_mem _ hx)))
  rw[List.length_erase_of_mem ha]at this
  have hp:0<l2.length:=List.length_pos_of_mem ha
  simp only[List.length_cons];omega
def nz (x:Int):Bool:=decide (x≠0)
theorem Sw (f:Nat) (l:aL) (h:l.length<f) (hl:l.length<=1000):oQ f l=some ((l.countP nz:Nat):Int):=by
 unfold oQ
 have:=dJ (step:=pN l) (K:=some ((l.countP nz:Nat):Int)) l.length (fun k=>(((l.take k).countP nz:Nat),(k:Int))) (fun k ag hk=>by
  have hc:(l.take k).countP nz<=k:=Nat.le_trans List.countP_le_length (by simp;omega)
  unfold pN r_
  dsimp only
  rw[if_pos (by omega),cN (by omega),Aj hk,List.countP_append,eB (by omega),eB (by omega)]
  by_cases h0:at' l (k:Int)=0
  ·rw[if_neg (by simpa using h0)];simp[nz,h0]
  ·rw[if_pos h0];simp[nz,h0]) (fun ag=>by
  unfold pN vY
  dsimp only
  rw[if_neg (by omega),List.take_length]) f h
 exact this
theorem Fp (f:Nat) (l:aL) (x:Int) (h:l.length<f) (hl:l.length<=1000):p_ f l x=some (decide (x∈l)):=by
 have key:∃i:Int,oG f l x=some i∧(0<=i↔x∈l):=by
  by_cases hx:x∈l
  ·obtain⟨i,hi,hix⟩:=List.mem_iff_getElem.1 hx
   have hfirst:∃i,i<l.length∧at' l (i:Int)=x∧∀j,j<i->at' l (j:Int)≠x:=by
    obtain⟨m,h1,h2,h3⟩:=IU (p:=fun i=>at' l (i:Int)=x) i (by rw[kC hi,hix])
    exact⟨m,by omega,h2,h3⟩
   obtain⟨i,hi,h1,h2⟩:=hfirst
   refine⟨i,?_,iff_of_true (by omega) hx⟩
   unfold oG
   exact dJ (step:=iJ l x) (K:=some (i:Int)) i (fun k=>(k:Int)) (fun k ag hk=>by
    unfold iJ
    rw[if_pos (by omega),cN (by omega),if_neg (fun e=>h2 k hk e.symm),eB (by omega)]) (fun ag=>by
    unfold iJ
    rw[if_pos (by omega),cN (by omega),if_pos h1.symm]) f (by omega)
  ·refine⟨-1,?_,iff_of_false (by omega) hx⟩
   unfold oG
   exact dJ (step:=iJ l x) (K:=some (-1)) l.length (fun k=>(k:Int)) (fun k ag hk=>by
    unfold iJ
    rw[if_pos (by omega),cN (by omega),if_neg (fun e=>hx (by rw[e,kC hk];exact List.getElem_mem hk)),eB (by omega)]) (fun ag=>by
    unfold iJ tC
    rw[if_neg (by omega)]) f h
 obtain⟨i,h1,h2⟩:=key
 unfold p_
 rw[bB h1]
 by_cases hx:x∈l
 ·rw[decide_eq_true hx,decide_eq_true (h2.2 hx)]
 ·rw[decide_eq_false hx,decide_eq_false (fun e=>hx (h2.1 e))]
def AF (l:aL):Int:=match l.findIdx? nz with
 |some i=>(i:Int)
 |none=> -1
theorem yX {l:aL} {i:Nat} (hi:i<l.length) (h1:at' l (i:Int)≠0) (h2:∀j,j<i->at' l (j:Int)=0):AF l=i:=by
 have:l.findIdx? nz=some i:=by
  rw[List.findIdx?_eq_some_iff_getElem]
  refine⟨hi,by rw[<-kC hi];simpa [nz]using h1,fun j hj=> ?_⟩
  have:=h2 j hj
  rw[kC (by omega)]at this
  simp[nz,this]
 unfold AF;rw[this]
theorem yW {l:aL} (h:∀j,j<l.length->at' l (j:Int)=0):AF l = -1:=by
 have:l.findIdx? nz=none:=by
  rw[List.findIdx?_eq_none_iff]
  intro x hx
  obtain⟨i,hi,rfl⟩:=List.mem_iff_getElem.1 hx
  have:=h i hi
  rw[kC hi]at this
  simp[nz,this]
 unfold AF;rw[this]
theorem SX (f:Nat) (l:aL) (h:l.length<f) (hl:l.length<=1000):lO f l (fun y0=>nE f y0)=some (AF l):=by
 unfold lO
 by_cases hx:∃i,i<l.length∧at' l (i:Int)≠0
 ·obtain⟨i,hi,h0⟩:=hx
  obtain⟨m,h1,h2,h3⟩:=IU (p:=fun i=>at' l (i:Int)≠0) i h0
  have h3:∀j,j<m->at' l (j:Int)=0:=fun j hj=>Decidable.not_not.1 (h3 j hj)
  rw[yX (by omega) h2 h3]
  exact dJ (step:=eQ l _) (K:=some (m:Int)) m (fun k=>(k:Int)) (fun k ag hk=>by
   unfold eQ nE
   rw[if_pos (by omega),cN (by omega),bB rfl,if_neg (by simp[h3 k hk]),eB (by omega)]) (fun ag=>by
   unfold eQ nE
   rw[if_pos (by omega),cN (by omega),bB rfl,if_pos (by simpa using h2)]) f (by omega)
 ·have hx:∀j,j<l.length->at' l (j:Int)=0:=fun j hj=>Decidable.not_not.1 fun e=>hx ⟨j,hj,e⟩
  rw[yW hx]
  exact dJ (step:=eQ l _) (K:=some (-1)) l.length (fun k=>(k:Int)) (fun k ag hk=>by
   unfold eQ nE
   rw[if_pos (by omega),cN (by omega),bB rfl,if_neg (by simp[hx k hk]),eB (by omega)]) (fun ag=>by
   unfold eQ nQ
   rw[if_neg (by omega)]) f h
def YC (l:aL):Int:=l.foldl min 1073741824
theorem YD (f:Nat) (l:aL) (h:l.length<f) (hl:l.length<=1000):bE (q_ l) f ((1073741824:Int),(0:Int))=some (YC l):=by
 exact dJ (step:=q_ l) (K:=some (YC l)) l.length (fun k=>((l.take k).foldl min 1073741824,(k:Int))) (fun k ag hk=>by
  unfold q_
  dsimp only
  rw[if_pos (by omega),cN (by omega),Aj hk,List.foldl_append,eB (by omega)];rfl) (fun ag=>by
  unfold q_ xO
  dsimp only
  rw[if_neg (by omega),List.take_length];rfl) f h
def LC (l:aL):Nat->Nat->Nat
 |0,k=>k
 |f+1,k=>if((k:Nat):Int)∈l then LC l f (k+1)else k
def ND (l:aL):Nat:=LC l (l.length+1) 0
theorem Tw (l:aL):((ND l:Nat):Int)∉l∧(∀j,j<ND l->((j:Nat):Int)∈l)∧ND l<=l.length:=by
 have key:∀(f k:Nat),(∀j,j<k->((j:Nat):Int)∈l)->(∀j,j<LC l f k->((j:Nat):Int)∈l)∧(LC l f k=k+f∨((LC l f k:Nat):Int)∉l):=by
  intro f
  induction f with
  |zero=>intro k h;exact⟨h,.inl rfl⟩
  | succ f ih =>
   intro k h
   by_cases hk:((k:Nat):Int)∈l
   ·have:=ih (k+1) (fun j hj=>by
     rcases Nat.lt_or_ge j k with q|q
     ·exact h j q
     ·rw[show j=k by omega];exact hk)
    simp only[LC,if_pos hk]
    exact⟨this.1,this.2.imp (fun e=>by omega) id⟩
   ·simp only[LC,if_neg hk]
    exact⟨h,.inr hk⟩
 have hle:∀m,(∀j,j<m->((j:Nat):Int)∈l)->m<=l.length:=fun m h=>by
  have:=Pb ((List.range m).map fun j=>((j:Nat):Int)) l (by
   rw[List.nodup_iff_pairwise_ne,List.pairwise_map]
   exact(List.nodup_iff_pairwise_ne.1 List.nodup_range).imp (fun h e=>h (by omega))) (fun x hx=>by
   obtain⟨j,hj,rfl⟩:=List.mem_map.1 hx
   exact h j (List.mem_range.1 hj))
  simpa using this
 obtain⟨h1,h2⟩:=key (l.length+1) 0 (fun j hj=>by omega)
 have h3:=hle _ h1
 refine⟨?_,h1,h3⟩
 rcases h2 with h2|h2
 ·have:LC l (l.length+1) 0<=l.length:=h3
  omega
 ·exact h2
theorem YB (f:Nat) (l:aL) (h:l.length+2<f) (hl:l.length<=900):x_ f l=some ((ND l:Nat):Int):=by
 obtain⟨h1,h2,h3⟩:=Tw l
 unfold x_
 exact dJ (step:=wO f l) (K:=some ((ND l:Nat):Int)) (ND l) (fun k=>(k:Int)) (fun k ag hk=>by
  unfold wO
  rw[bB (Fp f l (k:Int) (by omega) (by omega)),if_pos (by simpa using h2 k hk),eB (by omega)]) (fun ag=>by
  unfold wO yV
  rw[bB (Fp f l _ (by omega) (by omega)),if_neg (by simpa using h1)]) f (by omega)
def Wz (l:aL):Int:=l.foldl (fun a x=>wI .i64 (a+x)) 0
theorem YS (f:Nat) (l:aL) (h:l.length<f) (hl:l.length<=1000):bE (rA f l) f ((0:Int),(0:Int))=AE f (Wz l):=by
 refine(dJ (step:=rA f l) l.length (fun k=>(Wz (l.take k),(k:Int))) (fun k ag hk=> ?_) (fun ag=> ?_) f h).trans rfl
 ·unfold rA
  dsimp only
  rw[if_pos (by omega),cN (by omega),eB (by omega),Aj hk]
  unfold Wz
  rw[List.foldl_append];rfl
 ·unfold rA
  dsimp only
  rw[if_neg (by omega),List.take_length]
def OJ (o:Int) (l:aL):Int:=
 if o=20 then JG (l.all nz)else if o=21 then JG (l.any nz)else if o=22 then((l.countP nz:Nat):Int)else if o=23 then AF l else if o=24 then YC l else if o=26 then max (-1073741824) (min (Wz l) 1073741824)else((ND l:Nat):Int)
theorem VT (f:Nat) (o:Int) (l:aL) (hf:40<=f) (hl:l.length<=24) (ho:o=20∨o=21∨o=22∨o=23∨o=24∨o=26∨o=27):yY f o l=some (OJ o l):=by
 have hc:=Sw f l (by omega) (by omega)
 unfold yY
 rcases ho with rfl|rfl|rfl|rfl|rfl|rfl|rfl
 ·rw[if_pos rfl,bB hc,bB (sI f _),OJ,if_pos rfl]
  have:(decide (((l.countP nz:Nat):Int)=(l.length:Int)))=l.all nz:=by
   rw[Bool.eq_iff_iff];simp[List.countP_eq_length,Int.ofNat_inj]
  rw[this]
 ·rw[if_neg (by decide),if_pos rfl,bB hc,bB (sI f _),OJ,if_neg (by decide),if_pos rfl]
  have:(decide ((0:Int)<((l.countP nz:Nat):Int)))=l.any nz:=by
   rw[Bool.eq_iff_iff,decide_eq_true_eq,List.any_eq_true,show((0:Int)<((l.countP nz:Nat):Int))↔0<l.countP nz by omega,List.countP_pos_iff]
  rw[this]
 ·rw[if_neg (by decide),if_neg (by decide),if_pos rfl,bB hc];rfl
 ·rw[if_neg (by decide),if_neg (by decide),if_neg (by decide),if_pos rfl,bB (SX f l (by omega) (by omega))];rfl
 ·rw[if_neg (by decide),if_neg (by decide),if_neg (by decide),if_neg (by decide),if_pos rfl,YD f l (by omega) (by omega)];rfl
 ·rw[if_neg (by decide),if_neg (by decide),if_neg (by decide),if_neg (by decide),if_neg (by decide),if_neg (by decide),if_pos rfl,YS f l (by omega) (by omega)];rfl
 ·rw[if_neg (by decide),if_neg (by decide),if_neg (by decide),if_neg (by decide),if_neg (by decide),if_neg (by decide),if_neg (by decide),if_pos rfl,bB (YB f l (by omega) (by omega))];rfl
end
end Go.Proofs.YtjlbcgddhnjcjaaGreatDoor
end
section
namespace Go.Proofs.YtjlbcgddhnjcjaaGreatDoor
open Go.Sx
section
def zJ (U:Nat) (p0:ByteArray):Option ((ByteArray×Int×Int×Int×Int×Int)):=
 some ((p0,(2:Int),(0:Int),(0:Int),(0:Int),(0:Int)))
theorem XG:aQ Tryz.prog 42:=Tryz.call42
theorem Io (U:Nat) {p0:ByteArray} (r:(ByteArray×Int×Int×Int×Int×Int)) (h:zJ U p0=some r):
  aS Tryz.prog 42 #[vS (p0)] [] (fun x:Unit=>Value.agg #[vS (r.1),vI (r.2.1),vI (r.2.2.1),vI (r.2.2.2.1),vI (r.2.2.2.2.1),vI (r.2.2.2.2.2)]) (fun x l=>l) (fun _ l=>l):=by
 refine aS.of Tryz.func42 rfl Tryz.ntmps42 rfl fun c=>?_
 unfold zJ at h
 refine sqR<|aF (aJ.alloc (cs:=vD4) rfl rfl) rfl fun b1=>dtN<|sqR<|qkMove rfl ?_
 refine aB (Br (r:=Value.agg #[vS (p0),vI (2:Int),vI (0:Int),vI (0:Int),vI (0:Int),vI (0:Int)]) rfl rfl (by intro w;simp[Instr.build,Instr.fill,eG,dR,cT,eH,eI,dU,fP])) rfl ?_
 refine bK 0 (vs:=[vS (p0),vI (2:Int),vI (0:Int),vI (0:Int),vI (0:Int),vI (0:Int)]) rfl rfl rfl rfl rfl rfl<|dtN<|aR ?_
 cases h
 exact gC () rfl rfl (RV.cell 0 rfl rfl rfl rfl) .nil aD.nil
end
section
def AJ (U:Nat)  : Option ((List (ByteArray×Int×Int×Int×Int×Int))):=
 Option.bind (zJ U (ByteArray.mk #[109])) fun r1=>(some ([(r1.1,r1.2.1,r1.2.2.1,r1.2.2.2.1,r1.2.2.2.2.1,r1.2.2.2.2.2)]))
theorem XA:aQ Tryz.prog 10:=Tryz.call10
theorem Kn (U:Nat)  (r:(List (ByteArray×Int×Int×Int×Int×Int))) (h:AJ U  = some r):
  aS Tryz.prog 10 #[] [] (fun x:Value=>x) (fun x l=>Ar rP x r::l) (fun _ l=>l):=by
 refine aS.of Tryz.func10 rfl Tryz.ntmps10 rfl fun c=>?_
 refine sqR<|qkAsg rfl<|dtN<|sqR<|bnE h fun r1 w2 h=>aF (aJ.callQ XG (Io U  r1 w2) rfl .nil) rfl fun x3=>aF (cC (e:=rP) ([((r1.1,r1.2.1,r1.2.2.1,r1.2.2.2.1,r1.2.2.2.2.1,r1.2.2.2.2.2))]) [(0,Value.agg #[vS (r1.1),vI (r1.2.1),vI (r1.2.2.1),vI (r1.2.2.2.1),vI (r1.2.2.2.2.1),vI (r1.2.2.2.2.2)])] rfl rfl rfl rfl (SS (vS (r1.1)) (vI (r1.2.1)) (vI (r1.2.2.1)) (vI (r1.2.2.2.1)) (vI (r1.2.2.2.2.1)) (vI (r1.2.2.2.2.2))) rfl rfl rfl) rfl fun u4=>qkAsg rfl<|dtN<|aR ?_
 cases h
 exact gC (u4) rfl rfl (RV.tmp rfl) (aV.refl _) aD.nil
end
section
def qN (U:Nat) (p0:cW):Option (Int):=
 ck (0<=(List.length p0.1:Int)) (some (wI .u32 ((uX .u32 (1:Int) (List.length p0.1:Int)) - (1:Int))))
theorem Ol:aQ Tryz.prog 100:=Tryz.call100
theorem FA (U:Nat) {p0:cW} (v0:Value)  (v1:Value)  (z2:mB) (r:Int) (h:qN U p0=some r):
  aS Tryz.prog 100 #[Value.agg #[v0,v1]] [Sl bD v0 p0.1,S2 a_ v1 z2 p0.2] (fun x:Unit=>vU (r)) (fun x l=>l) (fun _ l=>l):=by
 refine aS.of Tryz.func100 rfl Tryz.ntmps100 rfl fun c=>?_
 refine sqR<|aF (aJ.box (cs:=[v0,v1]) rfl rfl) rfl fun b1=>qkAsg rfl<|dtN<|sqR<|qkFld rfl<|qkLd 0 rfl<|qkLen (aC.fact 0 rfl) rfl<|ckE h fun j2 h=>aB (DD rfl rfl j2) rfl<|aB (pT rfl rfl) rfl<|qkAsg rfl<|dtN<|aR ?_
 cases h
 exact vT rfl
end
section
def tD  (a8:aY):Option aY:=
 some (a8)
def xC (a15:aY×Int) (ag14:(aY×Int)->Option aY) (a21:aL):Option aY:=
 ck ((List.length a15.1:Int)+(List.length ([a21]):Int)<=1099511627) (ag14 ((a15.1++[a21]),(wI .i64 (a15.2+(1:Int)))))
def mL (U:Nat) (p1:FC) (p2:aL) (a15:aY×Int) (a33:aL×Int) (ag32:(aL×Int)->Option aY) (a43:dL):Option aY:=
 Option.bind (qQ U p2 (wI .i64 ((wI .i64 (a15.2*(List.length p1:Int)))+a33.2))) fun r45=>(Option.bind (eN U r45 (wI .i64 ((wI .i64 (a43.2 - a43.1))+(1:Int)))) fun r48=>(ck ((List.length a33.1:Int)+(List.length ([(wI .i64 (a43.1+r48))]):Int)<=1099511627) (ag32 ((a33.1++([(wI .i64 (a43.1+r48))])),(wI .i64 (a33.2+(1:Int)))))))
def mM (U:Nat) (p0:cW) (p1:FC) (p2:aL) (a3:Int) (a15:aY×Int) (ag14:(aY×Int)->Option aY) (a33:aL×Int) (ag32:(aL×Int)->Option aY):Option aY:=
 if a33.2<(List.length p1:Int)then(ck (0<=a33.2∧a33.2<(List.length p1:Int)) (ck (0<=a33.2∧a33.2<(List.length p1:Int)) (ck (0<=a33.2∧a33.2<(List.length p1:Int)) (ck (0<=a33.2∧a33.2<(List.length p1:Int)) (ck (0<=a33.2∧a33.2<(List.length p1:Int)) (if((at' p1 a33.2).2.1)=(2:Int)then(mL U p1 p2 a15 a33 ag32 ((0:Int),(1:Int)))else(if((at' p1 a33.2).2.1)=(3:Int)then(ck (0<=a15.2∧a15.2<(List.length p0.2:Int)) (mL U p1 p2 a15 a33 ag32 ((-1:Int),(wI .i64 ((List.length (at' p0.2 a15.2):Int) - (1:Int))))))else(mL U p1 p2 a15 a33 ag32 (((at' p1 a33.2).2.2.1),(wI .i64 ((wI .i64 (((at' p1 a33.2).2.2.2.1)+(wI .i64 (((at' p1 a33.2).2.2.2.2.1)*(List.length p0.2:Int)))))+(wI .i64 (((at' p1 a33.2).2.2.2.2.2)*a3)))))))))))))else(xC a15 ag14 (a33.1))
def iK (U:Nat) (p0:cW) (p1:FC) (p2:aL) (a3:Int) (a15:aY×Int) (ag14:(aY×Int)->Option aY):Option aY:=
 if a15.2<(List.length p0.2:Int)then(bE (mM U p0 p1 p2 a3 a15 ag14) U (([]:aL),(0:Int)))else(tD  (a15.1))
def pI (U:Nat) (p0:cW) (p1:FC) (p2:aL) (a3:Int):Option aY:=
 bE (iK U p0 p1 p2 a3) U (([]:aY),(0:Int))
def tE (U:Nat) (p0:cW) (p1:FC) (p2:aL) (a61:dL) (ag60:eK->Option aY):Option aY:=
 if a61.2<(List.length p0.2:Int)then(ck (0<=a61.2∧a61.2<(List.length p0.1:Int)) (ag60 ((max a61.1 (at' p0.1 a61.2)),(wI .i64 (a61.2+(1:Int))))))else(pI U p0 p1 p2 (a61.1))
def lP (U:Nat) (p0:cW) (p1:FC) (p2:aL):Option aY:=
 bE (tE U p0 p1 p2) U ((0:Int),(0:Int))
theorem XB:aQ Tryz.prog 14:=Tryz.call14
theorem HP (U:Nat) {p0:cW} {p1:FC} {p2:aL} (v0:Value)  (v1:Value)  (z2:mB)  (v3:Value)  (v4:Value) (r:aY) (h:lP U p0 p1 p2=some r):
  aS Tryz.prog 14 #[Value.agg #[v0,v1],v3,v4] [Sl bD v0 p0.1,S2 a_ v1 z2 p0.2,Sl aH v3 p1,Sl bD v4 p2] (fun x:CP=>x.1) (fun x l=>Ar cR.raw x.1 x.2::gZ bO x.2 r::l) (fun _ l=>l):=by
 refine aS.of Tryz.func14 rfl Tryz.ntmps14 rfl fun c=>?_
 unfold lP at h
 refine sqR<|aF (aJ.box (cs:=[v0,v1]) rfl rfl) rfl fun b1=>qkAsg rfl<|dtN<|sqR<|qkFld rfl<|qkLd 0 rfl<|aB (iL rfl (aC.fact 1 rfl) rfl) rfl<|qkAsg rfl<|qkAsg rfl<|dtN<|aG<|midU (fun a3=>pI U p0 p1 p2 a3=some r) (fun a3 b4=>[(1,v3),(2,v4),(3,vP b1),(7,vI (List.length p0.2:Int)),(8,vI (a3))]) (fun a3 b4=>[bS b1 [v0,v1] 29]) ?_ ?_
 ·refine sqR<|qkAsg rfl<|dtN<|aO<|loopL (tE U p0 p1 p2) (fun a61 b62=>[(1,v3),(2,v4),(3,vP b1),(7,vI (List.length p0.2:Int)),(8,vI (a61.1)),(9,vI (a61.2))]) (fun a61 b62=>[bS b1 [v0,v1] 29]) ((0:Int),(0:Int)) () h SF (aV.refl _) ?_
  intro k63 a61 b62 h
  refine aG<|sqR<|qkMove rfl<|qkMove rfl<|qkLss rfl<|dtN ?_
  refine eF h rfl (fun h=>?_) fun h=>?_
  ·refine cJ<|aG<|aO<|aK<|qkMove rfl<|qkFld rfl<|qkLd 0 rfl<|qkMove rfl<|ckE h fun j65 h=>aB (aX rfl rfl (aC.fact 0 rfl) rfl rfl j65) rfl<|aB (bQ rfl (aC.fact 0 rfl) rfl rfl rfl cZ j65) rfl<|aB (Le rfl rfl) rfl<|qkAsg rfl<|dK<|inT<|aK<|qkMove rfl<|qkAdd rfl<|qkAsg rfl<|dtN ?_
   exact xV ((max a61.1 (at' p0.1 a61.2)),(wI .i64 (a61.2+(1:Int)))) () h SF rfl
  refine eZ ?_
  exact fM (a61.1) () h SF rfl
 intro a3 b4 h
 unfold pI at h
 refine sqR<|qkAsg rfl<|dtN<|aG<|midL (B:=CP) (fun a8=>tD  a8=some r) (fun a8 b9=>[(10,b9.1)]) (fun a8 b9=>[Ar cR.raw b9.1 b9.2,gZ bO b9.2 a8]) ?_ ?_
 ·refine sqR<|qkAsg rfl<|dtN<|aO<|iR (iF cR.raw) (iR (tR bO) ?_)
  refine loopL (B:=CP) (iK U p0 p1 p2 a3) (fun a15 b16=>[(1,v3),(2,v4),(3,vP b1),(7,vI (List.length p0.2:Int)),(8,vI (a3)),(10,b16.1),(11,vI (a15.2))]) (fun a15 b16=>[bS b1 [v0,v1] 29,Ar cR.raw b16.1 b16.2,gZ bO b16.2 a15.1]) (([]:aY),(0:Int)) ((kT),([]:f_)) h SF (aV.ix [2,1,0] rfl rfl) ?_
  intro k17 a15 b16 h
  refine aG<|sqR<|qkMove rfl<|qkMove rfl<|qkLss rfl<|dtN ?_
  refine eF h rfl (fun h=>?_) fun h=>?_
  ·refine cJ<|aG<|aO<|sqR<|qkAsg rfl<|dtN<|aG<|midL (B:=Value) (fun a21=>xC a15 (bE (iK U p0 p1 p2 a3) k17) a21=some r) (fun a21 b22=>[(1,v3),(2,v4),(3,vP b1),(7,vI (List.length p0.2:Int)),(8,vI (a3)),(10,b16.1),(11,vI (a15.2)),(12,b22)]) (fun a21 b22=>[bS b1 [v0,v1] 29,Ar cR.raw b16.1 b16.2,gZ bO b16.2 a15.1,Ar bO b22 a21]) ?_ ?_
   ·refine sqR<|qkAsg rfl<|dtN<|aO<|iR (iF bO)<|loopL (B:=Value) (mM U p0 p1 p2 a3 a15 (bE (iK U p0 p1 p2 a3) k17)) (fun a33 b34=>[(1,v3),(2,v4),(3,vP b1),(7,vI (List.length p0.2:Int)),(8,vI (a3)),(10,b16.1),(11,vI (a15.2)),(12,b34),(13,vI (a33.2))]) (fun a33 b34=>[bS b1 [v0,v1] 29,Ar cR.raw b16.1 b16.2,gZ bO b16.2 a15.1,Ar bO b34 a33.1]) (([]:aL),(0:Int)) (kT) h SF (aV.ix [1,2,3,0] rfl rfl) ?_
    intro k35 a33 b34 h
    refine aG<|sqR<|qkMove rfl<|qkMove rfl<|qkLen (aC.fact 2 rfl) rfl<|qkLss rfl<|dtN ?_
    refine eF h rfl (fun h=>?_) fun h=>?_
    ·refine cJ<|aG<|aO<|aG ?_
     refine JR.start [0,0,3,7,15,0,0,96,224,480,0,0,3072,7168,15360,0,64512,131040,0,0,786432,1835008,3932160,0,16515072,33554400,31,134217727] 27 mixedOrders (by decide +kernel) ?_
     refine JR.open (by exact rfl) ?_
     refine jkMove rfl<|jkMove rfl<|ckE h fun j37 h=>bI rfl .nil (oK 2 rfl) (aX rfl rfl (aC.fact 0 rfl) rfl rfl j37) aM.z<|jqN rfl (nT rfl rfl rfl rfl rfl)<|bI rfl .nil (oK 2 rfl) (pY rfl (aC.fact 0 rfl) rfl rfl rfl A_ j37) aM.z<|jkMove rfl<|jkMove rfl<|ckE h fun j38 h=>bI rfl .nil (oK 2 rfl) (aX rfl rfl (aC.fact 0 rfl) rfl rfl j38) aM.z<|jqN rfl (nT rfl rfl rfl rfl rfl)<|bI rfl .nil (oK 2 rfl) (pY rfl (aC.fact 0 rfl) rfl rfl rfl Ba j38) aM.z<|jkMove rfl<|jkMove rfl<|ckE h fun j39 h=>bI rfl .nil (oK 2 rfl) (aX rfl rfl (aC.fact 0 rfl) rfl rfl j39) aM.z<|jqN rfl (nT rfl rfl rfl rfl rfl)<|bI rfl .nil (oK 2 rfl) (pY rfl (aC.fact 0 rfl) rfl rfl rfl Bb j39) aM.z<|jkMove rfl<|jqN rfl (Az rfl rfl)<|jqN rfl (wW rfl rfl)<|jkMove rfl<|jkMove rfl<|ckE h fun j40 h=>bI rfl .nil (oK 2 rfl) (aX rfl rfl (aC.fact 0 rfl) rfl rfl j40) aM.z<|jqN rfl (nT rfl rfl rfl rfl rfl)<|bI rfl .nil (oK 2 rfl) (pY rfl (aC.fact 0 rfl) rfl rfl rfl Bc j40) aM.z<|jkMove rfl<|jqN rfl (Az rfl rfl)<|jqN rfl (wW rfl rfl)<|jqN rfl (nS rfl)<|bH 27 rfl rfl<|qkAsg rfl<|dtN<|aG<|midU (fun a43=>mL U p1 p2 a15 a33 (bE (mM U p0 p1 p2 a3 a15 (bE (iK U p0 p1 p2 a3) k17)) k35) a43=some r) (fun a43 b44=>[(1,v3),(2,v4),(3,vP b1),(7,vI (List.length p0.2:Int)),(8,vI (a3)),(10,b16.1),(11,vI (a15.2)),(12,b34),(13,vI (a33.2)),(14,vI (a43.1)),(15,vI (a43.2))]) (fun a43 b44=>[bS b1 [v0,v1] 29,Ar cR.raw b16.1 b16.2,gZ bO b16.2 a15.1,Ar bO b34 a33.1]) ?_ ?_
     ·refine sqR<|qkMove rfl<|qkMove rfl<|ckE h fun j54 h=>aB (aX rfl rfl (aC.fact 2 rfl) rfl rfl j54) rfl<|aB (nT rfl rfl rfl rfl rfl) rfl<|aB (pY rfl (aC.fact 2 rfl) rfl rfl rfl u_ j54) rfl<|dtN<|aO<|sqR<|qkEql rfl<|qkAsg rfl<|dtN ?_
      refine eF h rfl (fun h=>?_) fun h=>?_
      ·refine aK<|qkAsg rfl<|qkAsg rfl<|dK<|inT ?_
       exact fM ((0:Int),(1:Int)) () h SF rfl
      refine sqR<|qkEql rfl<|qkAsg rfl<|dtN ?_
      refine eF h rfl (fun h=>?_) fun h=>?_
      ·refine JR.start [0,1,0,7,15,31,63,0,255] 8 mixedOrders (by decide +kernel) ?_
       refine JR.open (by exact rfl) ?_
       refine jkFld rfl<|jkLd 0 rfl<|jkMove rfl<|ckE h fun j57 h=>bI rfl .nil (oK 1 rfl) (cP rfl rfl (aC.fact 0 rfl) rfl rfl j57) aM.z<|bI rfl .nil (oK 1 rfl) (cQ rfl (aC.fact 0 rfl) rfl rfl j57) aM.z<|bI rfl .nil (oK 1 rfl) (fI rfl (aC.el (aC.fact 0 rfl) j57.1 j57.2) rfl) aM.z<|jqN rfl (pT rfl rfl)<|jqN rfl (nS rfl)<|bH 8 rfl rfl<|qkAsg rfl<|dK<|inT ?_
       exact fM ((-1:Int),(wI .i64 ((List.length (at' p0.2 a15.2):Int) - (1:Int)))) () h SF rfl
      refine dD<|inT ?_
      exact fM (((at' p1 a33.2).2.2.1),(wI .i64 ((wI .i64 (((at' p1 a33.2).2.2.2.1)+(wI .i64 (((at' p1 a33.2).2.2.2.2.1)*(List.length p0.2:Int)))))+(wI .i64 (((at' p1 a33.2).2.2.2.2.2)*a3))))) () h SF rfl
     intro a43 b44 h
     refine aK<|qkMove rfl<|qkMove rfl<|qkMove rfl<|qkMove rfl<|qkMove rfl<|qkLen (aC.fact 2 rfl) rfl<|aB (Az rfl rfl) rfl<|qkMove rfl<|qkAdd rfl<|bnE h fun r45 w46 h=>aF (aJ.callQ GG (yM U v4 r45 w46) rfl (lH [3] rfl)) rfl fun x47=>qkMove rfl<|qkMove rfl<|aB (pT rfl rfl) rfl<|qkAdd rfl<|bnE h fun r48 w49 h=>aF (aJ.callQ AA (iC U  r48 w49) rfl .nil) rfl fun x50=>qkAdd rfl<|aF (cC (e:=bO) ([(wI .i64 (a43.1+r48))]) [(0,vI (wI .i64 (a43.1+r48)))] rfl rfl rfl rfl (mT (vI (wI .i64 (a43.1+r48))) rfl) rfl rfl rfl) rfl fun u51=>ckE h fun j53 h=>aF (fN 4 cE rfl rfl rfl (aP (aC.res 0 rfl) cE) rfl rfl rfl rfl j53 rfl) rfl fun u52=>qkAsg rfl<|dK<|inT<|aK<|qkMove rfl<|qkAdd rfl<|qkAsg rfl<|dtN ?_
     exact mO ((a33.1++([(wI .i64 (a43.1+r48))])),(wI .i64 (a33.2+(1:Int)))) (u52) h SF (aV.ix [1,2,3,4] rfl rfl) (aD.refl _ _)
    refine eZ ?_
    exact fM (a33.1) (b34) h SF rfl
   intro a21 b22 h
   refine aK<|qkMove rfl<|qkMove rfl<|iR (tR bO)<|bY (Know.one ((aP (aC.res 4 rfl) cE))) fun ho23=>iR (Gv 0 4 rfl rfl rfl) ?_
   refine aF (cC (e:=cR.raw) [b22] [(0,b22)] rfl rfl rfl rfl (mT (b22) ho23) rfl rfl (by simp[cellsOf,cR.raw,ho23])) rfl fun u24=>?_
   refine bY (cO 4 rfl) fun hl25=>bY (cO 1 rfl) fun hl26=>ckE h fun j27 h=>iR (Fl 4 1 rfl rfl rfl) ?_
   refine aF (aJ.append 2 0 rfl rfl rfl rfl rfl rfl rfl (by have q:=j27;have q1:=hl25;have q2:=hl26;(try simp only[List.length_cons,List.length_nil]at q q1 q2 ⊢);omega) (by have q:=j27;have q1:=hl25;have q2:=hl26;(try simp only[List.length_cons,List.length_nil]at q q1 q2 ⊢);omega) rfl) rfl fun u28=>?_
   refine qkAsg rfl<|dK<|inT<|aK<|qkMove rfl<|qkAdd rfl<|qkAsg rfl<|dtN ?_
   exact mO ((a15.1++[a21]),(wI .i64 (a15.2+(1:Int)))) (u28,(b16.2++[b22])) h SF (aV.ix [1,2,3] rfl rfl) (aD.refl _ _)
  refine eZ ?_
  exact bV (a15.1) (b16.1,b16.2) h SF (aV.ix [1,2] rfl rfl) (aD.refl _ _)
 intro a8 b9 h
 unfold tD at h
 refine sqR<|qkMove rfl<|qkAsg rfl<|dtN<|aR ?_
 cases h
 exact gC (b9.1,b9.2) rfl rfl (RV.tmp rfl) (aV.refl _) aD.nil
end
section
def sU  (a10:aL):Option aL:=
 some (a10)
def pB (a29:Int×aL×aL) (ag28:(Int×aL×aL)->Option aL) (a36:aL×aL):Option aL:=
 ag28 ((wI .i64 (a29.1+(1:Int))),a36.1,a36.2)
def pC (p0:cW) (a16:aL×aL) (ag15:(aL×aL)->Option aL) (a29:Int×aL×aL) (ag28:(Int×aL×aL)->Option aL):Option aL:=
 if a29.1<(List.length (at' p0.2 (at' a16.1 (0:Int))):Int)then(ck (0<=a29.1∧a29.1<(List.length (at' p0.2 (at' a16.1 (0:Int))):Int)) (ck (0<=((at' (at' p0.2 (at' a16.1 (0:Int))) a29.1).1)∧((at' (at' p0.2 (at' a16.1 (0:Int))) a29.1).1)<(List.length a29.2.2:Int)) (if(at' a29.2.2 ((at' (at' p0.2 (at' a16.1 (0:Int))) a29.1).1))<(0:Int)then(ck (0<=(at' a16.1 (0:Int))∧(at' a16.1 (0:Int))<(List.length a29.2.2:Int)) (ck (0<=((at' (at' p0.2 (at' a16.1 (0:Int))) a29.1).1)∧((at' (at' p0.2 (at' a16.1 (0:Int))) a29.1).1)<(List.length a29.2.2:Int)) (ck ((List.length a29.2.1:Int)+(List.length ([((at' (at' p0.2 (at' a16.1 (0:Int))) a29.1).1)]):Int)<=1099511627) (pB a29 ag28 ((a29.2.1++([((at' (at' p0.2 (at' a16.1 (0:Int))) a29.1).1)])),(List.set a29.2.2 (Int.toNat ((at' (at' p0.2 (at' a16.1 (0:Int))) a29.1).1)) (wI .i64 ((at' a29.2.2 (at' a16.1 (0:Int)))+(1:Int)))))))))else(pB a29 ag28 (a29.2.1,a29.2.2)))))else(ag15 (a29.2.1,a29.2.2))
def mH (U:Nat) (p0:cW) (a16:aL×aL) (ag15:(aL×aL)->Option aL):Option aL:=
 if(0:Int)<(List.length a16.1:Int)then(ck (0<=(0:Int)∧(0:Int)<(List.length a16.1:Int)) (ck (0<=(1:Int)∧(1:Int)<=(List.length a16.1:Int)) (ck (0<=(at' a16.1 (0:Int))∧(at' a16.1 (0:Int))<(List.length p0.2:Int)) (bE (pC p0 a16 ag15) U ((0:Int),(List.drop (Int.toNat (1:Int)) a16.1),a16.2)))))else(sU  (a16.2))
def wY (U:Nat) (p0:cW) (p1:Int) (a5:aL):Option aL:=
 ck (0<=p1∧p1<(List.length a5:Int)) (bE (mH U p0) U (([p1]),(List.set a5 (Int.toNat p1) (0:Int))))
def wZ (U:Nat) (p0:cW) (p1:Int) (a50:oJ) (ag49:sJ->Option aL):Option aL:=
 if a50.1<(List.length (List.replicate (Int.toNat (List.length p0.2:Int)) (0:Int)):Int)then(ck (0<=a50.1∧a50.1<(List.length a50.2:Int)) (ag49 ((wI .i64 (a50.1+(1:Int))),(List.set a50.2 (Int.toNat a50.1) (-1:Int)))))else(wY U p0 p1 (a50.2))
def uM (U:Nat) (p0:cW) (p1:Int):Option aL:=
 ck (0<=(List.length p0.2:Int)∧(List.length p0.2:Int)<=1099511627) (bE (wZ U p0 p1) U ((0:Int),(List.replicate (Int.toNat (List.length p0.2:Int)) (0:Int))))
theorem Vb:aQ Tryz.prog 144:=Tryz.call144
theorem HJ (U:Nat) {p0:cW} {p1:Int} (v0:Value)  (v1:Value)  (z2:mB) (r:aL) (h:uM U p0 p1=some r):
  aS Tryz.prog 144 #[Value.agg #[v0,v1],vI (p1)] [Sl bD v0 p0.1,S2 a_ v1 z2 p0.2] (fun x:Value=>x) (fun x l=>Ar bO x r::l) (fun _ l=>l):=by
 refine aS.of Tryz.func144 rfl Tryz.ntmps144 rfl fun c=>?_
 refine sqR<|aF (aJ.box (cs:=[v0,v1]) rfl rfl) rfl fun b1=>qkAsg rfl<|dtN<|sqR<|qkFld rfl<|qkLd 0 rfl<|aB (iL rfl (aC.fact 1 rfl) rfl) rfl<|ckE h fun j2 h=>aF (oO (e:=bO) (0:Int) rfl rfl rfl rfl j2 rfl rfl rfl) rfl fun u3=>qkAsg rfl<|dtN<|aG<|midU (fun a5=>wY U p0 p1 a5=some r) (fun a5 b6=>[(1,vI (p1)),(2,vP b1),(5,u3)]) (fun a5 b6=>[Ar bO u3 a5,bS b1 [v0,v1] 29]) ?_ ?_
 ·refine sqR<|qkMove rfl<|aB (fI rfl (aP (aC.res 0 rfl) cE) rfl) rfl<|qkMove rfl<|dtN<|aO<|loopL (wZ U p0 p1) (fun a50 b51=>[(1,vI (p1)),(2,vP b1),(5,u3),(16,vI (List.length (List.replicate (Int.toNat (List.length p0.2:Int)) (0:Int)):Int)),(17,vI (a50.1))]) (fun a50 b51=>[Ar bO u3 a50.2,bS b1 [v0,v1] 29]) ((0:Int),(List.replicate (Int.toNat (List.length p0.2:Int)) (0:Int))) () h SF (aV.refl _) ?_
  intro k52 a50 b51 h
  refine sqR<|qkLss rfl<|dtN<|aG ?_
  refine eF h rfl (fun h=>?_) fun h=>?_
  ·refine cJ<|aG<|aO<|sqR<|qkMove rfl<|qkAsg rfl<|dtN<|aK<|qkMove rfl<|qkMove rfl<|ckE h fun j54 h=>aB (aX rfl rfl (aP (aC.res 0 rfl) cE) rfl rfl j54) rfl<|uA 0 (-1:Int) j54 rfl rfl rfl rfl rfl rfl rfl<|dK<|inT<|aK<|qkAdd rfl<|qkMove rfl<|dtN ?_
   exact xV ((wI .i64 (a50.1+(1:Int))),(List.set a50.2 (Int.toNat a50.1) (-1:Int))) () h SF rfl
  refine eZ ?_
  exact fM (a50.2) () h SF rfl
 intro a5 b6 h
 refine sqR<|qkMove rfl<|qkMove rfl<|ckE h fun j7 h=>aB (aX rfl rfl (aP (aC.res 0 rfl) cE) rfl rfl j7) rfl<|uA 0 (0:Int) j7 rfl rfl rfl rfl rfl rfl rfl<|dtN<|sqR<|qkMove rfl<|aF (cC (e:=bO) ([p1]) [(0,vI (p1))] rfl rfl rfl rfl (mT (vI (p1)) rfl) rfl rfl rfl) rfl fun u8=>qkAsg rfl<|dtN<|aG<|midU (fun a10=>sU  a10=some r) (fun a10 b11=>[(5,u3)]) (fun a10 b11=>[Ar bO u3 a10]) ?_ ?_
 ·refine aO<|loopL (B:=Value) (mH U p0) (fun a16 b17=>[(2,vP b1),(5,u3),(7,b17)]) (fun a16 b17=>[Ar bO b17 a16.1,Ar bO u3 a16.2,bS b1 [v0,v1] 29]) (([p1]),(List.set a5 (Int.toNat p1) (0:Int))) (u8) h SF (aV.refl _) ?_
  intro k18 a16 b17 h
  refine aG<|sqR<|qkMove rfl<|aB (fI rfl (aP (aC.res 0 rfl) cE) rfl) rfl<|aB (rZ rfl rfl) rfl<|dtN ?_
  refine eF h rfl (fun h=>?_) fun h=>?_
  ·refine cJ<|aO<|sqR<|qkMove rfl<|ckE h fun j20 h=>aB (aX rfl rfl (aP (aC.res 0 rfl) cE) rfl rfl j20) rfl<|aB (bQ rfl (aP (aC.res 0 rfl) cE) rfl rfl rfl cZ j20) rfl<|qkAsg rfl<|dtN<|sqR<|qkMove rfl<|ckE h fun j21 h=>aF (KF 0 j21 rfl rfl rfl rfl rfl rfl) rfl fun u22=>qkAsg rfl<|dtN<|sqR<|qkFld rfl<|qkLd 2 rfl<|qkMove rfl<|ckE h fun j23 h=>aB (cP rfl rfl (aC.fact 1 rfl) rfl rfl j23) rfl<|aB (cQ rfl (aC.fact 1 rfl) rfl rfl j23) rfl<|aB (fI rfl (aC.el (aC.fact 1 rfl) j23.1 j23.2) rfl) rfl<|qkMove rfl<|dtN<|aO<|loopL (B:=Value) (pC p0 a16 (bE (mH U p0) k18)) (fun a29 b30=>[(2,vP b1),(5,u3),(7,b30),(8,vI (at' a16.1 (0:Int))),(41,(at' z2 (at' a16.1 (0:Int))).1),(42,vI (List.length (at' p0.2 (at' a16.1 (0:Int))):Int)),(43,vI (a29.1))]) (fun a29 b30=>[Ar bO b30 a29.2.1,Ar bO u3 a29.2.2,bS b1 [v0,v1] 29]) ((0:Int),(List.drop (Int.toNat (1:Int)) a16.1),a16.2) (u22) h SF (aV.refl _) ?_
   intro k31 a29 b30 h
   refine sqR<|qkLss rfl<|dtN<|aG ?_
   refine eF h rfl (fun h=>?_) fun h=>?_
   ·refine cJ<|aG<|midL (B:=Value) (fun a36=>pB a29 (bE (pC p0 a16 (bE (mH U p0) k18)) k31) a36=some r) (fun a36 b37=>[(2,vP b1),(5,u3),(7,b37),(8,vI (at' a16.1 (0:Int))),(41,(at' z2 (at' a16.1 (0:Int))).1),(42,vI (List.length (at' p0.2 (at' a16.1 (0:Int))):Int)),(43,vI (a29.1))]) (fun a36 b37=>[Ar bO b37 a36.1,Ar bO u3 a36.2,bS b1 [v0,v1] 29]) ?_ ?_
    ·refine aO<|sqR<|ckE h fun j38 h=>aB (aX rfl rfl (aC.el (aC.fact 1 rfl) j23.1 j23.2) rfl rfl j38) rfl<|aB (hZ (cs:=[vI ((at' (at' p0.2 (at' a16.1 (0:Int))) a29.1).1),vI ((at' (at' p0.2 (at' a16.1 (0:Int))) a29.1).2)]) rfl (aC.el (aC.fact 1 rfl) j23.1 j23.2) bG rfl rfl rfl rfl j38) rfl<|aF (aJ.alloc (cs:=QT) rfl rfl) rfl fun b39=>bK 0 (vs:=[vI ((at' (at' p0.2 (at' a16.1 (0:Int))) a29.1).1),vI ((at' (at' p0.2 (at' a16.1 (0:Int))) a29.1).2)]) rfl rfl rfl rfl rfl rfl<|dtN<|sqR<|qkMove rfl<|qkFld rfl<|qkLd 0 rfl<|ckE h fun j40 h=>aB (aX rfl rfl (aP (aC.res 2 rfl) cE) rfl rfl j40) rfl<|aB (bQ rfl (aP (aC.res 2 rfl) cE) rfl rfl rfl cZ j40) rfl<|qkLss rfl<|dtN ?_
     refine eF h rfl (fun h=>?_) fun h=>?_
     ·refine aG ?_
      refine JR.start [0,0,2,0,0,24,56,120,255,511] 8 mixedOrders (by decide +kernel) ?_
      refine JR.open (by exact rfl) ?_
      refine jkMove rfl<|jkFld rfl<|jkLd 0 rfl<|jkMove rfl<|jkMove rfl<|ckE h fun j42 h=>bI rfl (aV.cons 2 rfl .nil) .nil (aX rfl rfl (aP (aC.res 0 rfl) cE) rfl rfl j42) aM.z<|bI rfl (aV.cons 2 rfl .nil) .nil (bQ rfl (aP (aC.res 0 rfl) cE) rfl rfl rfl cZ j42) aM.z<|jqN rfl (wW rfl rfl)<|bH 8 rfl rfl<|ckE h fun j43 h=>aB (aX rfl rfl (aP (aC.res 2 rfl) cE) rfl rfl j43) rfl<|uA 2 (wI .i64 ((at' a29.2.2 (at' a16.1 (0:Int)))+(1:Int))) j43 rfl rfl rfl rfl rfl rfl rfl<|dtN<|aK<|qkMove rfl<|qkFld rfl<|qkLd 0 rfl<|aF (cC (e:=bO) ([((at' (at' p0.2 (at' a16.1 (0:Int))) a29.1).1)]) [(0,vI ((at' (at' p0.2 (at' a16.1 (0:Int))) a29.1).1))] rfl rfl rfl rfl (mT (vI ((at' (at' p0.2 (at' a16.1 (0:Int))) a29.1).1)) rfl) rfl rfl rfl) rfl fun u44=>ckE h fun j46 h=>aF (fN 2 cE rfl rfl rfl (aP (aC.res 0 rfl) cE) rfl rfl rfl rfl j46 rfl) rfl fun u45=>qkAsg rfl<|dK<|inT ?_
      exact bV ((a29.2.1++([((at' (at' p0.2 (at' a16.1 (0:Int))) a29.1).1)])),(List.set a29.2.2 (Int.toNat ((at' (at' p0.2 (at' a16.1 (0:Int))) a29.1).1)) (wI .i64 ((at' a29.2.2 (at' a16.1 (0:Int)))+(1:Int))))) (u45) h SF (aV.ix [2,3,4] rfl rfl) (aD.refl _ _)
     refine dD<|inT ?_
     exact bV (a29.2.1,a29.2.2) (b30) h SF (aV.ix [1,2,3] rfl rfl) (aD.refl _ _)
    intro a36 b37 h
    unfold pB at h
    refine aK<|qkAdd rfl<|qkMove rfl<|dtN ?_
    exact xV ((wI .i64 (a29.1+(1:Int))),a36.1,a36.2) (b37) h SF rfl
   refine qE<|eC<|eC<|wK<|inT ?_
   exact xV (a29.2.1,a29.2.2) (b30) h SF rfl
  refine eZ ?_
  exact bV (a16.2) () h SF (aV.ix [1] rfl rfl) (aD.refl _ _)
 intro a10 b11 h
 unfold sU at h
 refine sqR<|qkMove rfl<|qkAsg rfl<|dtN<|aR ?_
 cases h
 exact gC (u3) rfl rfl (RV.tmp rfl) (aV.refl _) aD.nil
end
section
def sR  (a3:Int):Option (Int):=
 some (a3)
def sS (a8:dL) (ag7:eK->Option (Int)) (a13:Int):Option (Int):=
 ag7 (a13,(wI .i64 (a8.2+(1:Int))))
def pA (a19:dL) (ag18:eK->Option (Int)) (a24:Int):Option (Int):=
 ag18 (a24,(wI .i64 (a19.2+(1:Int))))
def sT (p0:cW) (p1:Int) (a8:dL) (ag7:eK->Option (Int)) (a19:dL) (ag18:eK->Option (Int)):Option (Int):=
 if a19.2<(List.length (at' p0.2 a8.2):Int)then(ck (0<=a19.2∧a19.2<(List.length (at' p0.2 a8.2):Int)) (ck (0<=((at' (at' p0.2 a8.2) a19.2).1)) (if(cY .u32 (qA .u32 p1 ((at' (at' p0.2 a8.2) a19.2).1)) (1:Int))=(1:Int)then(ck (0<=a8.2) (pA a19 ag18 (EC .u32 a19.1 (uX .u32 (1:Int) a8.2))))else(pA a19 ag18 (a19.1)))))else(sS a8 ag7 (a19.1))
def mG (U:Nat) (p0:cW) (p1:Int) (a8:dL) (ag7:eK->Option (Int)):Option (Int):=
 if a8.2<(List.length p0.2:Int)then(ck (0<=a8.2∧a8.2<(List.length p0.2:Int)) (bE (sT p0 p1 a8 ag7) U (a8.1,(0:Int))))else(sR  (a8.1))
def oE (U:Nat) (p0:cW) (p1:Int):Option (Int):=
 bE (mG U p0 p1) U ((0:Int),(0:Int))
theorem Vd:aQ Tryz.prog 147:=Tryz.call147
theorem HG (U:Nat) {p0:cW} {p1:Int} (v0:Value)  (v1:Value)  (z2:mB) (r:Int) (h:oE U p0 p1=some r):
  aS Tryz.prog 147 #[Value.agg #[v0,v1],vU (p1)] [Sl bD v0 p0.1,S2 a_ v1 z2 p0.2] (fun x:Unit=>vU (r)) (fun x l=>l) (fun _ l=>l):=by
 refine aS.of Tryz.func147 rfl Tryz.ntmps147 rfl fun c=>?_
 unfold oE at h
 refine sqR<|aF (aJ.box (cs:=[v0,v1]) rfl rfl) rfl fun b1=>qkAsg rfl<|dtN<|sqR<|qkAsg rfl<|dtN<|aG<|midU (fun a3=>sR  a3=some r) (fun a3 b4=>[(5,vU (a3))]) (fun a3 b4=>[]) ?_ ?_
 ·refine sqR<|qkFld rfl<|qkLd 0 rfl<|aB (iL rfl (aC.fact 1 rfl) rfl) rfl<|qkMove rfl<|dtN<|aO<|loopL (mG U p0 p1) (fun a8 b9=>[(1,vU (p1)),(5,vU (a8.1)),(11,v1),(12,vI (List.length p0.2:Int)),(13,vI (a8.2))]) (fun a8 b9=>[]) ((0:Int),(0:Int)) () h SF .nil ?_
  intro k10 a8 b9 h
  refine sqR<|qkLss rfl<|dtN<|aG ?_
  refine eF h rfl (fun h=>?_) fun h=>?_
  ·refine cJ<|aG<|midU (fun a13=>sS a8 (bE (mG U p0 p1) k10) a13=some r) (fun a13 b14=>[(1,vU (p1)),(5,vU (a13)),(11,v1),(12,vI (List.length p0.2:Int)),(13,vI (a8.2))]) (fun a13 b14=>[]) ?_ ?_
   ·refine aO<|sqR<|qkMove rfl<|ckE h fun j15 h=>aB (cP rfl rfl (aC.fact 1 rfl) rfl rfl j15) rfl<|aB (cQ rfl (aC.fact 1 rfl) rfl rfl j15) rfl<|qkAsg rfl<|qkAsg rfl<|dtN<|sqR<|qkMove rfl<|aB (fI rfl (aC.el (aC.fact 1 rfl) j15.1 j15.2) rfl) rfl<|qkMove rfl<|dtN<|aO<|loopL (sT p0 p1 a8 (bE (mG U p0 p1) k10)) (fun a19 b20=>[(1,vU (p1)),(5,vU (a19.1)),(6,vI (a8.2)),(11,v1),(12,vI (List.length p0.2:Int)),(13,vI (a8.2)),(18,(at' z2 a8.2).1),(19,vI (List.length (at' p0.2 a8.2):Int)),(20,vI (a19.2))]) (fun a19 b20=>[]) (a8.1,(0:Int)) () h SF (aV.refl _) ?_
    intro k21 a19 b20 h
    refine sqR<|qkLss rfl<|dtN<|aG ?_
    refine eF h rfl (fun h=>?_) fun h=>?_
    ·refine cJ<|aG<|midU (fun a24=>pA a19 (bE (sT p0 p1 a8 (bE (mG U p0 p1) k10)) k21) a24=some r) (fun a24 b25=>[(1,vU (p1)),(5,vU (a24)),(6,vI (a8.2)),(11,v1),(12,vI (List.length p0.2:Int)),(13,vI (a8.2)),(18,(at' z2 a8.2).1),(19,vI (List.length (at' p0.2 a8.2):Int)),(20,vI (a19.2))]) (fun a24 b25=>[]) ?_ ?_
     ·refine aO<|sqR<|ckE h fun j26 h=>aB (aX rfl rfl (aC.el (aC.fact 1 rfl) j15.1 j15.2) rfl rfl j26) rfl<|aB (hZ (cs:=[vI ((at' (at' p0.2 a8.2) a19.2).1),vI ((at' (at' p0.2 a8.2) a19.2).2)]) rfl (aC.el (aC.fact 1 rfl) j15.1 j15.2) bG rfl rfl rfl rfl j26) rfl<|aF (aJ.alloc (cs:=QT) rfl rfl) rfl fun b27=>bK 0 (vs:=[vI ((at' (at' p0.2 a8.2) a19.2).1),vI ((at' (at' p0.2 a8.2) a19.2).2)]) rfl rfl rfl rfl rfl rfl<|dtN<|sqR<|qkMove rfl<|qkFld rfl<|qkLd 0 rfl<|ckE h fun j28 h=>aB (DF rfl rfl j28) rfl<|qkAnd rfl<|qkEql rfl<|dtN ?_
      refine eF h rfl (fun h=>?_) fun h=>?_
      ·refine aK<|qkMove rfl<|qkMove rfl<|ckE h fun j30 h=>aB (DD rfl rfl j30) rfl<|aB (Lg rfl rfl) rfl<|qkAsg rfl<|dK<|inT ?_
       exact bV (EC .u32 a19.1 (uX .u32 (1:Int) a8.2)) () h SF .nil (aD.refl _ _)
      refine dD<|inT ?_
      exact bV (a19.1) () h SF .nil (aD.refl _ _)
     intro a24 b25 h
     unfold pA at h
     refine aK<|qkAdd rfl<|qkMove rfl<|dtN ?_
     exact xV (a24,(wI .i64 (a19.2+(1:Int)))) () h SF rfl
    refine qE<|eC<|eC<|wK<|inT ?_
    exact fM (a19.1) () h SF rfl
   intro a13 b14 h
   unfold sS at h
   refine aK<|qkAdd rfl<|qkMove rfl<|dtN ?_
   exact xV (a13,(wI .i64 (a8.2+(1:Int)))) () h SF rfl
  refine eZ ?_
  exact fM (a8.1) () h SF rfl
 intro a3 b4 h
 unfold sR at h
 refine sqR<|qkMove rfl<|qkAsg rfl<|dtN<|aR ?_
 cases h
 exact kH rfl
end
end Go.Proofs.YtjlbcgddhnjcjaaGreatDoor
end
