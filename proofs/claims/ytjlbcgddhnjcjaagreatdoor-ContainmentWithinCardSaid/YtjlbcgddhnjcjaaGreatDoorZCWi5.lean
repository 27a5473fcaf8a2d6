/- Models and proofs. Conditions: none. -/
import Derived.Test.YtjlbcgddhnjcjaaGreatDoorZCWi2
import Derived.Test.YtjlbcgddhnjcjaaGreatDoorZCWi4
set_option linter.unusedVariables false
set_option linter.unusedSimpArgs false
set_option maxHeartbeats 4000000
set_option maxRecDepth 20000
section
namespace Go.Proofs.YtjlbcgddhnjcjaaGreatDoor
open Go.Sx
section
def kV  (a2:Unit):Option (Bool):=
 some (true)
def fO (p0:aL) (a7:Int×List (Bool)) (ag6:(Int×List (Bool))->Option (Bool)) (a13:Bool):Option (Bool):=
 if a13=true then(some (false))else(ck ((0<=(at' p0 a7.1)∧(at' p0 a7.1)<((256:Nat):Int))∧List.length a7.2=256) (ag6 ((wI .i64 (a7.1+(1:Int))),(List.set a7.2 (Int.toNat (at' p0 a7.1)) true))))
def eJ (p0:aL) (a7:Int×List (Bool)) (ag6:(Int×List (Bool))->Option (Bool)):Option (Bool):=
 if a7.1<(List.length p0:Int)then(ck (0<=a7.1∧a7.1<(List.length p0:Int)) (if(at' p0 a7.1)<(0:Int)then(fO p0 a7 ag6 (true))else(if(255:Int)<(at' p0 a7.1)then(fO p0 a7 ag6 (true))else(ck ((0<=(at' p0 a7.1)∧(at' p0 a7.1)<((256:Nat):Int))∧List.length a7.2=256) (fO p0 a7 ag6 ((at' a7.2 (at' p0 a7.1))))))))else(kV  (()))
def gH (U:Nat) (p0:aL):Option (Bool):=
 bD (eJ p0) U ((0:Int),(List.replicate 256 false))
theorem Wa:aN Tryz.prog 95:=Tryz.call95
theorem Ax (U:Nat) {p0:aL} (v0:Value) (r:Bool) (h:gH U p0=some r):
  aT Tryz.prog 95 #[v0] [Sl bK v0 p0] (fun x:Unit=>vB (r)) (fun x l=>l) (fun _ l=>l):=by
 refine aT.of Tryz.func95 rfl Tryz.ntmps95 rfl fun c=>?_
 unfold gH at h
 refine sqR<|qkAsg rfl<|dtN<|sqR ?_
 refine aF (aJ.alloc (cs:=cellsOf XI (List.replicate 256 false)) rfl (by kernel_rfl)) rfl fun b1=>?_
 refine dtN<|aH<|midU (fun a2=>kV  a2=some r) (fun a2 b3=>[]) (fun a2 b3=>[]) ?_ ?_
 ·refine sqR<|qkMove rfl<|qkLen (aC.fact 0 rfl) rfl<|qkMove rfl<|dtN<|aM<|loopL (eJ p0) (fun a7 b8=>[(3,vP b1),(6,v0),(7,vI (List.length p0:Int)),(8,vI (a7.1))]) (fun a7 b8=>[bT b1 (cellsOf XI a7.2) 203]) ((0:Int),(List.replicate 256 false)) () h SF (aW.refl _) ?_
  intro k9 a7 b8 h
  refine sqR<|qkLss rfl<|dtN<|aH ?_
  refine eN h rfl (fun h=>?_) fun h=>?_
  ·refine cF<|aH<|aM<|sqR<|ckE h fun j11 h=>aB (aY rfl rfl (aC.fact 0 rfl) rfl rfl j11) rfl<|aB (bY rfl (aC.fact 0 rfl) rfl rfl rfl eI j11) rfl<|qkAsg rfl<|dtN<|aH<|aH<|midU (fun a13=>fO p0 a7 (bD (eJ p0) k9) a13=some r) (fun a13 b14=>[(3,vP b1),(5,vI (at' p0 a7.1)),(6,v0),(7,vI (List.length p0:Int)),(8,vI (a7.1)),(22,vB (a13))]) (fun a13 b14=>[bT b1 (cellsOf XI a7.2) 203]) ?_ ?_
   ·refine aK<|qkMove rfl<|qkLss rfl<|qkMove rfl ?_
    refine Bi h rfl (fun _ h=>?_) fun _ h=>?_
    ·refine gdSkip rfl<|gdSkip rfl<|qkPkT rfl<|qkMove rfl<|gdSkip rfl<|gdSkip rfl<|gdSkip rfl<|qkPkT rfl<|dtN ?_
     exact iG (true) () h SF rfl
    refine gyMove rfl<|aS rfl (vM rfl rfl) rfl<|qkPkF rfl<|qkMove rfl ?_
    refine Bi h rfl (fun _ h=>?_) fun _ h=>?_
    ·refine gdSkip rfl<|gdSkip rfl<|gdSkip rfl<|qkPkT rfl<|dtN ?_
     exact iG (true) () h SF rfl
    refine gyMove rfl<|ckE h fun j19 h=>aS rfl (iI rfl rfl rfl rfl rfl j19.1) rfl<|aS rfl (Da (e:=XI) rfl (aC.res 0 rfl) rfl rfl rfl rfl j19) rfl<|qkPkF rfl<|dtN ?_
    exact iG ((at' a7.2 (at' p0 a7.1))) () h SF rfl
   intro a13 b14 h
   refine Ab h rfl (fun _ h=>?_) fun _ h=>?_
   ·refine sqR<|qkAsg rfl<|dtN<|aP<|aG<|bJ<|aG<|aG<|bJ<|aG ?_
    cases h
    exact wG rfl
   refine cF<|aK<|qkMove rfl<|ckE h fun j16 h=>aB (iI rfl rfl rfl rfl rfl j16.1) rfl<|BA 0 (e:=XI) true j16 rfl rfl rfl rfl rfl rfl rfl<|dA<|inT<|aK<|qkAdd rfl<|qkMove rfl<|dtN ?_
   exact xO ((wI .i64 (a7.1+(1:Int))),(List.set a7.2 (Int.toNat (at' p0 a7.1)) true)) () h SF rfl
  refine fL ?_
  exact cG () (()) h SF .nil (aD.refl _ _)
 intro a2 b3 h
 unfold kV at h
 refine sqR<|qkAsg rfl<|dtN<|aP ?_
 cases h
 exact kW rfl
end
section
def rF (a3:(List ((Int×Int)×Int))) (kv6:(Int×Int)×Int) (xa9:Option (Bool)):Option (Bool):=
 if(Option.getD (jU (kv6.1.2,kv6.1.1) a3) (0:Int))≠kv6.2 then(some (false))else(xa9)
def fV  (a3:(List ((Int×Int)×Int))):Option (Bool):=
 Gp (rF a3) (some (true)) a3
def kB (a17:D_) (ag16:Hl->Option (Bool)) (a22:(List ((Int×Int)×Int))):Option (Bool):=
 ag16 ((wI .i64 (a17.1+(1:Int))),a22)
def fW (p0:dQ) (a17:D_) (a28:D_) (ag27:Hl->Option (Bool)) (a39:Bool):Option (Bool):=
 if a39=true then(some (false))else(if(Option.isSome (jU (a17.1,((at' (at' p0 a17.1) a28.1).1)) a28.2))=true then(some (false))else(ag27 ((wI .i64 (a28.1+(1:Int))),(yV (a17.1,((at' (at' p0 a17.1) a28.1).1)) ((at' (at' p0 a17.1) a28.1).2) a28.2))))
def eW (p0:dQ) (a17:D_) (a28:D_) (ag27:Hl->Option (Bool)) (a35:Bool):Option (Bool):=
 if a35=true then(some (false))else(if((at' (at' p0 a17.1) a28.1).2)<(1:Int)then(fW p0 a17 a28 ag27 (true))else(fW p0 a17 a28 ag27 (decide ((15:Int)<((at' (at' p0 a17.1) a28.1).2)))))
def bQ (p0:dQ) (a17:D_) (ag16:Hl->Option (Bool)) (a28:D_) (ag27:Hl->Option (Bool)):Option (Bool):=
 if a28.1<(List.length (at' p0 a17.1):Int)then(ck (0<=a28.1∧a28.1<(List.length (at' p0 a17.1):Int)) (if((at' (at' p0 a17.1) a28.1).1)<(0:Int)then(eW p0 a17 a28 ag27 (true))else(if(List.length p0:Int)<=((at' (at' p0 a17.1) a28.1).1)then(eW p0 a17 a28 ag27 (true))else(eW p0 a17 a28 ag27 (decide (((at' (at' p0 a17.1) a28.1).1)=a17.1))))))else(kB a17 ag16 (a28.2))
def b_ (U:Nat) (p0:dQ) (a17:D_) (ag16:Hl->Option (Bool)):Option (Bool):=
 if a17.1<(List.length p0:Int)then(ck (0<=a17.1∧a17.1<(List.length p0:Int)) (bD (bQ p0 a17 ag16) U ((0:Int),a17.2)))else(fV  (a17.2))
def eQ (U:Nat) (p0:dQ):Option (Bool):=
 bD (b_ U p0) U ((0:Int),([]:List ((Int×Int)×Int)))
theorem Wb:aN Tryz.prog 96:=Tryz.call96
theorem CO (U:Nat) {p0:dQ} (v0:Value)  (z1:mT) (r:Bool) (h:eQ U p0=some r):
  aT Tryz.prog 96 #[v0] [S2 aZ v0 z1 p0] (fun x:Unit=>vB (r)) (fun x l=>l) (fun _ l=>l):=by
 refine aT.of Tryz.func96 rfl Tryz.ntmps96 rfl fun c=>?_
 unfold eQ at h
 refine sqR<|qkAsg rfl<|dtN<|sqR<|aF (aJ.makeMap kM Kv) rfl fun b1=>qkAsg rfl<|dtN<|aH<|midU (fun a3=>fV  a3=some r) (fun a3 b4=>[(3,Value.map (some b1))]) (fun a3 b4=>[Mp kM Kv b1 a3]) ?_ ?_
 ·refine sqR<|qkMove rfl<|aB (lN rfl (aC.fact 0 rfl) rfl) rfl<|qkMove rfl<|dtN<|aM<|loopL (b_ U p0) (fun a17 b18=>[(0,v0),(3,Value.map (some b1)),(14,v0),(15,vI (List.length p0:Int)),(16,vI (a17.1))]) (fun a17 b18=>[Mp kM Kv b1 a17.2]) ((0:Int),([]:List ((Int×Int)×Int))) () h SF (aW.refl _) ?_
  intro k19 a17 b18 h
  refine sqR<|qkLss rfl<|dtN<|aH ?_
  refine eN h rfl (fun h=>?_) fun h=>?_
  ·refine cF<|aH<|midU (fun a22=>kB a17 (bD (b_ U p0) k19) a22=some r) (fun a22 b23=>[(0,v0),(3,Value.map (some b1)),(14,v0),(15,vI (List.length p0:Int)),(16,vI (a17.1))]) (fun a22 b23=>[Mp kM Kv b1 a22]) ?_ ?_
   ·refine aM<|sqR<|qkMove rfl<|ckE h fun j24 h=>aB (dL rfl rfl (aC.fact 0 rfl) rfl rfl j24) rfl<|aB (dW rfl (aC.fact 0 rfl) rfl rfl j24) rfl<|qkAsg rfl<|qkAsg rfl<|dtN<|sqR<|qkMove rfl<|aB (jF rfl (aC.el (aC.fact 0 rfl) j24.1 j24.2) rfl) rfl<|qkMove rfl<|dtN<|aM<|loopL (bQ p0 a17 (bD (b_ U p0) k19)) (fun a28 b29=>[(0,v0),(3,Value.map (some b1)),(4,vI (a17.1)),(14,v0),(15,vI (List.length p0:Int)),(16,vI (a17.1)),(21,(at' z1 a17.1).1),(22,vI (List.length (at' p0 a17.1):Int)),(23,vI (a28.1))]) (fun a28 b29=>[Mp kM Kv b1 a28.2]) ((0:Int),a17.2) () h SF (aW.refl _) ?_
    intro k30 a28 b29 h
    refine sqR<|qkLss rfl<|dtN<|aH ?_
    refine eN h rfl (fun h=>?_) fun h=>?_
    ·refine cF<|aH<|aM<|sqR<|ckE h fun j32 h=>aB (aY rfl rfl (aC.el (aC.fact 0 rfl) j24.1 j24.2) rfl rfl j32) rfl<|aB (iJ (cs:=[vI ((at' (at' p0 a17.1) a28.1).1),vI ((at' (at' p0 a17.1) a28.1).2)]) rfl (aC.el (aC.fact 0 rfl) j24.1 j24.2) bI rfl rfl rfl rfl j32) rfl<|aF (aJ.alloc (cs:=Sp) rfl rfl) rfl fun b33=>bB 0 (vs:=[vI ((at' (at' p0 a17.1) a28.1).1),vI ((at' (at' p0 a17.1) a28.1).2)]) rfl rfl rfl rfl rfl rfl<|dtN<|aH<|aH<|midU (fun a35=>eW p0 a17 a28 (bD (bQ p0 a17 (bD (b_ U p0) k19)) k30) a35=some r) (fun a35 b36=>[(0,v0),(3,Value.map (some b1)),(4,vI (a17.1)),(7,vP b33),(14,v0),(15,vI (List.length p0:Int)),(16,vI (a17.1)),(21,(at' z1 a17.1).1),(22,vI (List.length (at' p0 a17.1):Int)),(23,vI (a28.1)),(42,vB (a35))]) (fun a35 b36=>[bT b33 [vI ((at' (at' p0 a17.1) a28.1).1),vI ((at' (at' p0 a17.1) a28.1).2)] 113,Mp kM Kv b1 a28.2]) ?_ ?_
     ·refine aK<|qkFld rfl<|qkLd 0 rfl<|qkLss rfl<|qkMove rfl ?_
      refine Bi h rfl (fun _ h=>?_) fun _ h=>?_
      ·refine gdSkip rfl<|gdSkip rfl<|gdSkip rfl<|gdSkip rfl<|gdSkip rfl<|qkPkT rfl<|qkMove rfl<|gdSkip rfl<|gdSkip rfl<|gdSkip rfl<|gdSkip rfl<|qkPkT rfl<|dtN ?_
       exact iG (true) () h SF rfl
      refine aS rfl (dZ rfl rfl rfl rfl rfl) rfl<|aS rfl (fK 0 rfl rfl rfl rfl rfl) rfl<|gyMove rfl<|aS rfl (lN rfl (aC.fact 0 rfl) rfl) rfl<|aS rfl (Bf rfl rfl) rfl<|qkPkF rfl<|qkMove rfl ?_
      refine Bi h rfl (fun _ h=>?_) fun _ h=>?_
      ·refine gdSkip rfl<|gdSkip rfl<|gdSkip rfl<|gdSkip rfl<|qkPkT rfl<|dtN ?_
       exact iG (true) () h SF rfl
      refine aS rfl (dZ rfl rfl rfl rfl rfl) rfl<|aS rfl (fK 0 rfl rfl rfl rfl rfl) rfl<|gyMove rfl<|aS rfl (Jj rfl rfl) rfl<|qkPkF rfl<|dtN ?_
      exact iG (decide (((at' (at' p0 a17.1) a28.1).1)=a17.1)) () h SF rfl
     intro a35 b36 h
     refine Ab h rfl (fun _ h=>?_) fun _ h=>?_
     ·refine sqR<|qkAsg rfl<|dtN<|aP<|aG<|bJ<|aG<|aG<|bJ<|bJ<|aG<|aG<|bJ<|aG ?_
      cases h
      exact wG rfl
     refine cF<|aH<|aH<|midU (fun a39=>fW p0 a17 a28 (bD (bQ p0 a17 (bD (b_ U p0) k19)) k30) a39=some r) (fun a39 b40=>[(0,v0),(3,Value.map (some b1)),(4,vI (a17.1)),(7,vP b33),(14,v0),(15,vI (List.length p0:Int)),(16,vI (a17.1)),(21,(at' z1 a17.1).1),(22,vI (List.length (at' p0 a17.1):Int)),(23,vI (a28.1)),(50,vB (a39))]) (fun a39 b40=>[bT b33 [vI ((at' (at' p0 a17.1) a28.1).1),vI ((at' (at' p0 a17.1) a28.1).2)] 113,Mp kM Kv b1 a28.2]) ?_ ?_
     ·refine aK<|qkFld rfl<|qkLd 0 rfl<|qkLss rfl<|qkMove rfl ?_
      refine Bi h rfl (fun _ h=>?_) fun _ h=>?_
      ·refine gdSkip rfl<|gdSkip rfl<|gdSkip rfl<|qkPkT rfl<|dtN ?_
       exact iG (true) () h SF rfl
      refine aS rfl (dZ rfl rfl rfl rfl rfl) rfl<|aS rfl (fK 0 rfl rfl rfl rfl rfl) rfl<|aS rfl (vM rfl rfl) rfl<|qkPkF rfl<|dtN ?_
      exact iG (decide ((15:Int)<((at' (at' p0 a17.1) a28.1).2))) () h SF rfl
     intro a39 b40 h
     refine Ab h rfl (fun _ h=>?_) fun _ h=>?_
     ·refine sqR<|qkAsg rfl<|dtN<|aP<|aG<|bJ<|aG<|aG<|bJ<|bJ<|aG<|aG<|bJ<|aG ?_
      cases h
      exact wG rfl
     refine cF<|sqR<|qkMove rfl<|qkFld rfl<|qkLd 0 rfl ?_
     refine aB (zZ (r:=Value.agg #[vI (a17.1),vI ((at' (at' p0 a17.1) a28.1).1)]) rfl rfl (by intro w;simp[Instr.build,Instr.fill,dB,cO,cD,dC,dD,cP,eD])) rfl ?_
     refine aF (aJ.alloc (cs:=Sp) rfl rfl) rfl fun b42=>bB 0 (vs:=[vI (a17.1),vI ((at' (at' p0 a17.1) a28.1).1)]) rfl rfl rfl rfl rfl rfl<|dtN<|aH<|sqR<|qkMove rfl<|qkLdA 0 rfl ?_
     refine aB (Jm 2 ((a17.1,((at' (at' p0 a17.1) a28.1).1))) (u:=vI (Option.getD (jU (a17.1,((at' (at' p0 a17.1) a28.1).1)) a28.2) (0:Int))) Ib rfl rfl rfl rfl rfl (by cases jU ((a17.1,((at' (at' p0 a17.1) a28.1).1))) a28.2<;>rfl)) rfl ?_
     refine qkMove rfl<|qkExt rfl<|qkExt rfl<|qkAsg rfl<|qkAsg rfl<|dtN<|sqR<|qkMove rfl<|dtN ?_
     refine Ab h rfl (fun _ h=>?_) fun _ h=>?_
     ·refine sqR<|qkAsg rfl<|dtN<|aP<|aG<|bJ<|aG<|aG<|bJ<|bJ<|aG<|aG<|bJ<|aG ?_
      cases h
      exact wG rfl
     refine cF<|aK<|qkMove rfl<|qkLdA 0 rfl<|qkFld rfl<|qkLd 1 rfl<|IJ 2 ((a17.1,((at' (at' p0 a17.1) a28.1).1))) ((at' (at' p0 a17.1) a28.1).2) Ib rfl rfl rfl rfl rfl<|dA<|inT<|aK<|qkAdd rfl<|qkMove rfl<|dtN ?_
     exact mA ((wI .i64 (a28.1+(1:Int))),(yV (a17.1,((at' (at' p0 a17.1) a28.1).1)) ((at' (at' p0 a17.1) a28.1).2) a28.2)) () h SF (aW.ix [2] rfl rfl) (aD.refl _ _)
    refine rE<|eS<|eS<|vJ<|inT ?_
    exact iG (a28.2) () h SF rfl
   intro a22 b23 h
   unfold kB at h
   refine aK<|qkAdd rfl<|qkMove rfl<|dtN ?_
   exact xO ((wI .i64 (a17.1+(1:Int))),a22) () h SF rfl
  refine fL ?_
  exact iG (a17.2) () h SF rfl
 intro a3 b4 h
 unfold fV at h
 refine aH<|sqR<|qkMove rfl<|aF (aJ.range 0 rfl rfl rfl) rfl fun b5=>dtN<|aM<|SS [(3,Value.map (some b1)),(69,vP b5)] [It b5 b1 (List.length a3) ([]),Mp kM Kv b1 a3] [S2 aZ v0 z1 p0] SF (aW.refl _) (aD.refl _ _) ?_
 refine NL (rF a3) 1 0 (by intro a b x;unfold rF;repeat' split;all_goals first|rfl|contradiction|simp_all) h rfl rfl rfl rfl rfl rfl ?_ ?_
 ·skip
  intro kv6 i7 se8 xa9 hkv10 h
  refine aM<|sqR<|aF (aJ.entry 1 0 hkv10 rfl rfl rfl) rfl fun x11=>qkExt rfl<|qkExt rfl<|aF (aJ.alloc (cs:=Sp) rfl rfl) rfl fun b12=>bB 0 (vs:=[vI (kv6.1.1),vI (kv6.1.2)]) rfl rfl rfl rfl rfl rfl<|qkAsg rfl<|dtN<|sqR<|qkMove rfl ?_
  refine aB (iI (i:=1) rfl rfl rfl rfl rfl (by decide)) rfl ?_
  refine qkLd 0 rfl ?_
  refine aB (iI (i:=0) rfl rfl rfl rfl rfl (by decide)) rfl ?_
  refine qkLd 0 rfl ?_
  refine aB (zZ (r:=Value.agg #[vI (kv6.1.2),vI (kv6.1.1)]) rfl rfl (by intro w;simp[Instr.build,Instr.fill,dB,cO,cD,dC,dD,cP,eD])) rfl ?_
  refine aB (Jm 2 ((kv6.1.2,kv6.1.1)) (u:=vI (Option.getD (jU (kv6.1.2,kv6.1.1) a3) (0:Int))) Ib rfl rfl rfl rfl rfl (by cases jU ((kv6.1.2,kv6.1.1)) a3<;>rfl)) rfl ?_
  refine qkMove rfl<|qkNeq rfl<|dtN ?_
  refine eN h rfl (fun h=>?_) fun h=>?_
  ·refine sqR<|qkAsg rfl<|dtN<|aP<|bJ<|aG<|bJ<|aG ?_
   cases h
   exact wG rfl
  refine dO<|inT ?_
  exact KQ h SF (aW.ix [1,2] rfl rfl) (aD.refl _ _)
 intro se8 h
 refine vJ<|uU<|sqR<|qkAsg rfl<|dtN<|aP ?_
 cases h
 exact wG rfl
end
section
def mO  (a7:Bool):Option (Bool):=
 some (a7)
def mN (U:Nat) (p0:dN) (a3:Bool):Option (Bool):=
 if a3=true then(some (false))else(Option.bind (gH U p0.1) fun r9=>(if r9=true then(Option.bind (eQ U p0.2) fun r13=>(mO  (r13)))else(mO  (false))))
def e_ (U:Nat) (p0:dN):Option (Bool):=
 if(List.length p0.1:Int)<(1:Int)then(mN U p0 (true))else(if(24:Int)<(List.length p0.1:Int)then(mN U p0 (true))else(mN U p0 (decide ((List.length p0.2:Int)≠(List.length p0.1:Int)))))
theorem HO:aN Tryz.prog 54:=Tryz.call54
theorem tV (U:Nat) {p0:dN} (v0:Value)  (v1:Value)  (z2:mT) (r:Bool) (h:e_ U p0=some r):
  aT Tryz.prog 54 #[Value.agg #[v0,v1]] [Sl bK v0 p0.1,S2 aZ v1 z2 p0.2] (fun x:Unit=>vB (r)) (fun x l=>l) (fun _ l=>l):=by
 refine aT.of Tryz.func54 rfl Tryz.ntmps54 rfl fun c=>?_
 refine sqR<|aF (aJ.box (cs:=[v0,v1]) rfl rfl) rfl fun b1=>qkAsg rfl<|dtN<|sqR<|qkFld rfl<|qkLd 0 rfl<|qkLen (aC.fact 0 rfl) rfl<|qkAsg rfl<|dtN<|aH<|aH<|midU (fun a3=>mN U p0 a3=some r) (fun a3 b4=>[(1,vP b1),(19,vB (a3))]) (fun a3 b4=>[bT b1 [v0,v1] 29]) ?_ ?_
 ·refine aK<|qkMove rfl<|qkLss rfl<|qkMove rfl ?_
  refine Bi h rfl (fun _ h=>?_) fun _ h=>?_
  ·refine gdSkip rfl<|gdSkip rfl<|qkPkT rfl<|qkMove rfl<|gdSkip rfl<|gdSkip rfl<|gdSkip rfl<|gdSkip rfl<|gdSkip rfl<|qkPkT rfl<|dtN ?_
   exact iG (true) () h SF rfl
  refine gyMove rfl<|aS rfl (vM rfl rfl) rfl<|qkPkF rfl<|qkMove rfl ?_
  refine Bi h rfl (fun _ h=>?_) fun _ h=>?_
  ·refine gdSkip rfl<|gdSkip rfl<|gdSkip rfl<|gdSkip rfl<|gdSkip rfl<|qkPkT rfl<|dtN ?_
   exact iG (true) () h SF rfl
  refine aS rfl (dZ rfl rfl rfl rfl rfl) rfl<|aS rfl (fK 0 rfl rfl rfl rfl rfl) rfl<|aS rfl (lN rfl (aC.fact 1 rfl) rfl) rfl<|gyMove rfl<|aS rfl (EU rfl rfl) rfl<|qkPkF rfl<|dtN ?_
  exact iG (decide ((List.length p0.2:Int)≠(List.length p0.1:Int))) () h SF rfl
 intro a3 b4 h
 refine Ab h rfl (fun _ h=>?_) fun _ h=>?_
 ·refine sqR<|qkAsg rfl<|dtN<|aP<|aG ?_
  cases h
  exact wG rfl
 refine cF<|aH<|midU (fun a7=>mO  a7=some r) (fun a7 b8=>[(2,vB (a7))]) (fun a7 b8=>[]) ?_ ?_
 ·refine aK<|qkFld rfl<|qkLd 0 rfl<|bnE h fun r9 w10 h=>aF (aJ.callQ Wa (Ax U v0 r9 w10) rfl (nY [0] rfl)) rfl fun x11=>qkMove rfl ?_
  refine BY (by exact rfl) (by exact rfl) (fun hp12=>?_) (fun hp12=>?_)
  ·have h:=SE hp12 h
   refine aS rfl (dZ rfl rfl rfl rfl rfl) rfl<|aS rfl (fK 0 rfl rfl rfl rfl rfl) rfl<|bnE h fun r13 w14 h=>AD rfl (aJ.callQ Wb (CO U v1 z2 r13 w14) rfl (nY [1] rfl)) rfl fun x15=>qkPkT rfl<|qkAsg rfl<|dtN ?_
   exact cG (r13) () h SF .nil (aD.refl _ _)
  have h:=Ov hp12 h
  refine gdSkip rfl<|gdSkip rfl<|gdSkip rfl<|qkPkF rfl<|qkAsg rfl<|dtN ?_
  exact cG (false) () h SF .nil (aD.refl _ _)
 intro a7 b8 h
 unfold mO at h
 refine aP ?_
 cases h
 exact kW rfl
end
section
def nP  (a4:Int):Option (Int):=
 some (a4)
def eB (U:Nat) (p0:Int) (p1:Int):Option (Int):=
 if p1<(1:Int)then(some (0:Int))else(ck (p1≠0) (if(Int.tmod p0 p1)<(0:Int)then(nP  (wI .i64 ((Int.tmod p0 p1)+p1)))else(nP  (Int.tmod p0 p1))))
theorem yL:aN Tryz.prog 15:=Tryz.call15
theorem gO (U:Nat) {p0:Int} {p1:Int} (r:Int) (h:eB U p0 p1=some r):
  aT Tryz.prog 15 #[vI (p0),vI (p1)] [] (fun x:Unit=>vI (r)) (fun x l=>l) (fun _ l=>l):=by
 refine aT.of Tryz.func15 rfl Tryz.ntmps15 rfl fun c=>?_
 refine sqR<|qkAsg rfl<|dtN<|aH<|sqR<|qkMove rfl<|qkLss rfl<|dtN ?_
 refine eN h rfl (fun h=>?_) fun h=>?_
 ·refine sqR<|qkAsg rfl<|dtN<|aP<|aG ?_
  cases h
  exact kW rfl
 refine cF<|sqR<|qkMove rfl<|qkMove rfl<|ckE h fun j2 h=>aB (Jn rfl rfl j2) rfl<|qkAsg rfl<|dtN<|aH<|midU (fun a4=>nP  a4=some r) (fun a4 b5=>[(0,vI (a4))]) (fun a4 b5=>[]) ?_ ?_
 ·refine sqR<|qkMove rfl<|qkLss rfl<|dtN ?_
  refine eN h rfl (fun h=>?_) fun h=>?_
  ·refine aK<|qkMove rfl<|qkMove rfl<|qkAdd rfl<|qkAsg rfl<|dtN ?_
   exact iG (wI .i64 ((Int.tmod p0 p1)+p1)) () h SF rfl
  refine cF ?_
  exact iG (Int.tmod p0 p1) () h SF rfl
 intro a4 b5 h
 unfold nP at h
 refine sqR<|qkMove rfl<|qkAsg rfl<|dtN<|aP ?_
 cases h
 exact kW rfl
end
section
def oS (U:Nat) (p0:aL) (p1:Int):Option (Int):=
 if p1<(List.length p0:Int)then(ck (0<=p1∧p1<(List.length p0:Int)) (some (at' p0 p1)))else(some (0:Int))
theorem E_:aN Tryz.prog 45:=Tryz.call45
theorem wE (U:Nat) {p0:aL} {p1:Int} (v0:Value) (r:Int) (h:oS U p0 p1=some r):
  aT Tryz.prog 45 #[v0,vI (p1)] [Sl bK v0 p0] (fun x:Unit=>vI (r)) (fun x l=>l) (fun _ l=>l):=by
 refine aT.of Tryz.func45 rfl Tryz.ntmps45 rfl fun c=>?_
 refine sqR<|qkAsg rfl<|dtN<|aH<|sqR<|qkMove rfl<|qkMove rfl<|qkLen (aC.fact 0 rfl) rfl<|qkLss rfl<|dtN ?_
 refine eN h rfl (fun h=>?_) fun h=>?_
 ·refine sqR<|qkMove rfl<|qkMove rfl<|ckE h fun j2 h=>aB (aY rfl rfl (aC.fact 0 rfl) rfl rfl j2) rfl<|aB (bY rfl (aC.fact 0 rfl) rfl rfl rfl eI j2) rfl<|qkAsg rfl<|dtN<|aP<|aG ?_
  cases h
  exact kW rfl
 refine cF<|sqR<|qkAsg rfl<|dtN<|aP ?_
 cases h
 exact kW rfl
end
section
def lF (r3:Int) (a13:aL):Option pK:=
 some ((a13,(List.replicate (Int.toNat (wI .i64 ((1:Int)+r3))) ([]:eM))))
def oK (a21:oU) (ag20:uT->Option pK) (a32:Int):Option pK:=
 ck ((List.length a21.2:Int)+(List.length ([a32]):Int)<=1099511627) (ag20 ((wI .i64 (a21.1+(1:Int))),(a21.2++[a32])))
def iU (ag40:c_->Option pK) (a47:dM):Option pK:=
 ag40 (a47.1,(wI .i64 (a47.2+(1:Int))))
def iV (a21:oU) (ag20:uT->Option pK) (a41:dM) (ag40:c_->Option pK):Option pK:=
 if a41.2<a21.1 then(ck (0<=a41.2∧a41.2<(List.length a21.2:Int)) (if(at' a21.2 a41.2)=a41.1 then(ck ((256:Int)≠0) (iU ag40 ((Int.tmod (wI .i64 (a41.1+(1:Int))) (256:Int)),(-1:Int))))else(iU ag40 (a41.1,a41.2))))else(oK a21 ag20 (a41.1))
def fZ (U:Nat) (p0:zR) (r3:Int) (a21:oU) (ag20:uT->Option pK):Option pK:=
 if a21.1<(wI .i64 ((1:Int)+r3))then(Option.bind (oS U p0.2.2.2.1 a21.1) fun r25=>(Option.bind (eB U r25 (256:Int)) fun r28=>(bD (iV a21 ag20) U (r28,(0:Int)))))else(lF r3 (a21.2))
def lY (U:Nat) (p0:zR) (p1:Int):Option pK:=
 Option.bind (eB U (wI .i64 (p0.1 - (1:Int))) p1) fun r3=>(ck (0<=(wI .i64 ((1:Int)+r3))∧(wI .i64 ((1:Int)+r3))<=1099511627) (bD (fZ U p0 r3) U ((0:Int),([]:aL))))
theorem VT:aN Tryz.prog 41:=Tryz.call41
theorem Bb (U:Nat) {p0:zR} {p1:Int} (v0:Value)  (v1:Value)  (v2:Value) (r:(aL×dQ)) (h:lY U p0 p1=some r):
  aT Tryz.prog 41 #[Value.agg #[vI (p0.1),v0,v1,v2,vB (p0.2.2.2.2.1),vB (p0.2.2.2.2.2)],vI (p1)] [Sl bK v0 p0.2.1,Sl bK v1 p0.2.2.1,Sl bK v2 p0.2.2.2.1] (fun x:Value×Value×List Value=>Value.agg #[x.1,x.2.1]) (fun x l=>Ar bV x.1 r.1::Ar dH.raw x.2.1 x.2.2::jW bR x.2.2 r.2::l) (fun _ l=>l):=by
 refine aT.of Tryz.func41 rfl Tryz.ntmps41 rfl fun c=>?_
 refine sqR<|aF (aJ.box (cs:=[vI (p0.1),v0,v1,v2,vB (p0.2.2.2.2.1),vB (p0.2.2.2.2.2)]) rfl rfl) rfl fun b1=>aF (aJ.alloc (cs:=[kX,kX]) rfl rfl) rfl fun b2=>dtN<|sqR<|qkFld rfl<|qkLd 1 rfl<|aB (nW rfl rfl) rfl<|qkMove rfl<|bnE h fun r3 w4 h=>aF (aJ.callQ yL (gO U  r3 w4) rfl .nil) rfl fun x5=>qkAdd rfl<|qkAsg rfl<|dtN<|sqR<|qkMove rfl<|ckE h fun j6 h=>jC (tZ bR (Int.toNat (wI .i64 ((1:Int)+r3))))<|aF (oG (e:=dH.raw) (kX) rfl rfl rfl rfl j6 rfl rfl rfl) rfl fun u7=>bP (Know.one (aC.sl (bF (i:=0) (j:=1) rfl rfl bI))) fun ho8=>?_
 refine aB (PM (r:=Value.agg #[kX,u7]) rfl (by intro w;simp[Instr.build,Instr.fill,dB,cO,cD,dC,dD,cP,eD,iN ho8])) rfl ?_
 refine aF (aJ.alloc (cs:=[kX,kX]) rfl rfl) rfl fun b9=>bP (Know.one (aC.sl (bF (i:=1) (j:=2) rfl rfl bI))) fun ho10=>bB 0 (vs:=[kX,u7]) rfl rfl (dU rfl (dU ho10 rfl)) rfl rfl rfl<|dtN<|aH<|midL (B:=Value) (fun a13=>lF r3 a13=some r) (fun a13 b14=>[(4,vP b2),(6,vP b9)]) (fun a13 b14=>[bT b9 [b14,u7] 29,Ar dH.raw u7 (List.replicate (Int.toNat (wI .i64 ((1:Int)+r3))) (kX)),jW bR (List.replicate (Int.toNat (wI .i64 ((1:Int)+r3))) (kX)) (List.replicate (Int.toNat (wI .i64 ((1:Int)+r3))) ([]:eM)),bT b2 [kX,kX] 29,Ar bV b14 a13]) ?_ ?_
 ·refine sqR<|qkAsg rfl<|dtN<|aM<|jC (gR bV)<|loopL (B:=Value) (fZ U p0 r3) (fun a21 b22=>[(2,vP b1),(4,vP b2),(5,vI (wI .i64 ((1:Int)+r3))),(6,vP b9),(7,vI (a21.1))]) (fun a21 b22=>[bT b9 [b22,u7] 29,Ar dH.raw u7 (List.replicate (Int.toNat (wI .i64 ((1:Int)+r3))) (kX)),jW bR (List.replicate (Int.toNat (wI .i64 ((1:Int)+r3))) (kX)) (List.replicate (Int.toNat (wI .i64 ((1:Int)+r3))) ([]:eM)),bT b2 [kX,kX] 29,bT b1 [vI (p0.1),v0,v1,v2,vB (p0.2.2.2.2.1),vB (p0.2.2.2.2.2)] 24,Ar bV b22 a21.2]) ((0:Int),([]:aL)) (kX) h SF (aW.ix [1,2,3,4,5,0] rfl rfl) ?_
  intro k23 a21 b22 h
  refine aH<|sqR<|qkMove rfl<|qkMove rfl<|qkLss rfl<|dtN ?_
  refine eN h rfl (fun h=>?_) fun h=>?_
  ·refine cF<|aH<|aM<|sqR<|qkFld rfl<|qkLd 4 rfl<|qkMove rfl<|bnE h fun r25 w26 h=>aF (aJ.callQ E_ (wE U v2 r25 w26) rfl (nY [2] rfl)) rfl fun x27=>bnE h fun r28 w29 h=>aF (aJ.callQ yL (gO U  r28 w29) rfl .nil) rfl fun x30=>qkAsg rfl<|dtN<|aH<|midU (fun a32=>oK a21 (bD (fZ U p0 r3) k23) a32=some r) (fun a32 b33=>[(2,vP b1),(4,vP b2),(5,vI (wI .i64 ((1:Int)+r3))),(6,vP b9),(7,vI (a21.1)),(8,vI (a32))]) (fun a32 b33=>[bT b9 [b22,u7] 29,Ar dH.raw u7 (List.replicate (Int.toNat (wI .i64 ((1:Int)+r3))) (kX)),jW bR (List.replicate (Int.toNat (wI .i64 ((1:Int)+r3))) (kX)) (List.replicate (Int.toNat (wI .i64 ((1:Int)+r3))) ([]:eM)),bT b2 [kX,kX] 29,bT b1 [vI (p0.1),v0,v1,v2,vB (p0.2.2.2.2.1),vB (p0.2.2.2.2.2)] 24,Ar bV b22 a21.2]) ?_ ?_
   ·refine sqR<|qkAsg rfl<|dtN<|aM<|loopL (iV a21 (bD (fZ U p0 r3) k23)) (fun a41 b42=>[(2,vP b1),(4,vP b2),(5,vI (wI .i64 ((1:Int)+r3))),(6,vP b9),(7,vI (a21.1)),(8,vI (a41.1)),(9,vI (a41.2))]) (fun a41 b42=>[bT b9 [b22,u7] 29,Ar dH.raw u7 (List.replicate (Int.toNat (wI .i64 ((1:Int)+r3))) (kX)),jW bR (List.replicate (Int.toNat (wI .i64 ((1:Int)+r3))) (kX)) (List.replicate (Int.toNat (wI .i64 ((1:Int)+r3))) ([]:eM)),bT b2 [kX,kX] 29,bT b1 [vI (p0.1),v0,v1,v2,vB (p0.2.2.2.2.1),vB (p0.2.2.2.2.2)] 24,Ar bV b22 a21.2]) (r28,(0:Int)) () h SF (aW.refl _) ?_
    intro k43 a41 b42 h
    refine aH<|sqR<|qkMove rfl<|qkMove rfl<|qkLss rfl<|dtN ?_
    refine eN h rfl (fun h=>?_) fun h=>?_
    ·refine cF<|aH<|midU (fun a47=>iU (bD (iV a21 (bD (fZ U p0 r3) k23)) k43) a47=some r) (fun a47 b48=>[(2,vP b1),(4,vP b2),(5,vI (wI .i64 ((1:Int)+r3))),(6,vP b9),(7,vI (a21.1)),(8,vI (a47.1)),(9,vI (a47.2))]) (fun a47 b48=>[bT b9 [b22,u7] 29,Ar dH.raw u7 (List.replicate (Int.toNat (wI .i64 ((1:Int)+r3))) (kX)),jW bR (List.replicate (Int.toNat (wI .i64 ((1:Int)+r3))) (kX)) (List.replicate (Int.toNat (wI .i64 ((1:Int)+r3))) ([]:eM)),bT b2 [kX,kX] 29,bT b1 [vI (p0.1),v0,v1,v2,vB (p0.2.2.2.2.1),vB (p0.2.2.2.2.2)] 24,Ar bV b22 a21.2]) ?_ ?_
     ·refine aM<|sqR<|qkFld rfl<|qkLd 0 rfl<|qkMove rfl<|ckE h fun j49 h=>aB (aY rfl rfl (aV (aC.res 5 rfl) cW) rfl rfl j49) rfl<|aB (bY rfl (aV (aC.res 5 rfl) cW) rfl rfl rfl eI j49) rfl<|qkMove rfl<|qkEql rfl<|dtN ?_
      refine eN h rfl (fun h=>?_) fun h=>?_
      ·refine aK<|qkMove rfl<|qkAdd rfl<|ckE h fun j51 h=>aB (Jn rfl rfl j51) rfl<|qkAsg rfl<|qkAsg rfl<|dA<|inT ?_
       exact iG ((Int.tmod (wI .i64 (a41.1+(1:Int))) (256:Int)),(-1:Int)) () h SF rfl
      refine dO<|inT ?_
      exact iG (a41.1,a41.2) () h SF rfl
     intro a47 b48 h
     unfold iU at h
     refine aK<|qkMove rfl<|qkAdd rfl<|qkAsg rfl<|dtN ?_
     exact xO (a47.1,(wI .i64 (a47.2+(1:Int)))) () h SF rfl
    refine fL ?_
    exact iG (a41.1) () h SF rfl
   intro a32 b33 h
   refine aK<|qkFld rfl<|qkLd 0 rfl<|qkMove rfl<|aF (cE (e:=bV) ([a32]) [(0,vI (a32))] rfl rfl rfl rfl (nG (vI (a32)) rfl) rfl rfl rfl) rfl fun u34=>ckE h fun j36 h=>aF (fR 6 cW rfl rfl rfl (aV (aC.res 0 rfl) cW) rfl rfl rfl rfl j36 rfl) rfl fun u35=>qkFld rfl<|bP (Know.one ((aV (aC.res 6 rfl) cW))) fun ho37=>gY 1 rfl rfl ho37 rfl rfl rfl<|dA<|inT<|aK<|qkMove rfl<|qkAdd rfl<|qkAsg rfl<|dtN ?_
   exact mA ((wI .i64 (a21.1+(1:Int))),(a21.2++[a32])) (u35) h SF (aW.ix [1,2,3,4,5,6] rfl rfl) (aD.refl _ _)
  refine fL ?_
  exact cG (a21.2) (b22) h SF (aW.ix [0,1,2,3,5] rfl rfl) (aD.refl _ _)
 intro a13 b14 h
 unfold lF at h
 refine sqR<|qkLdA 0 rfl<|bP (Know.one ((aV (aC.res 4 rfl) cW))) fun ho15=>bP (Know.one (aC.sl (bF (i:=1) (j:=2) rfl rfl bI))) fun ho16=>bB 3 (vs:=[b14,u7]) rfl rfl (dU ho15 (dU ho16 rfl)) rfl rfl rfl<|dtN<|aP ?_
 cases h
 exact gV (b14,u7,(List.replicate (Int.toNat (wI .i64 ((1:Int)+r3))) (kX))) rfl rfl (RV.cell 3 rfl rfl rfl rfl) (aW.ix [4,1,2] rfl rfl) aD.nil
end
section
def rB  (a2:Unit):Option (Bool):=
 some (false)
def uP (p0:dN) (p1:Int) (p2:Int) (a6:Int) (ag5:(Int)->Option (Bool)):Option (Bool):=
 ck (0<=p1∧p1<(List.length p0.2:Int)) (if a6<(List.length (at' p0.2 p1):Int)then(ck (0<=p1∧p1<(List.length p0.2:Int)) (ck (0<=a6∧a6<(List.length (at' p0.2 p1):Int)) (if((at' (at' p0.2 p1) a6).1)=p2 then(some (true))else(ag5 (wI .i64 (a6+(1:Int)))))))else(rB  (())))
def kK (U:Nat) (p0:dN) (p1:Int) (p2:Int):Option (Bool):=
 bD (uP p0 p1 p2) U (0:Int)
theorem Tt:aN Tryz.prog 117:=Tryz.call117
theorem Gd (U:Nat) {p0:dN} {p1:Int} {p2:Int} (v0:Value)  (v1:Value)  (z2:mT) (r:Bool) (h:kK U p0 p1 p2=some r):
  aT Tryz.prog 117 #[Value.agg #[v0,v1],vI (p1),vI (p2)] [Sl bK v0 p0.1,S2 aZ v1 z2 p0.2] (fun x:Unit=>vB (r)) (fun x l=>l) (fun _ l=>l):=by
 refine aT.of Tryz.func117 rfl Tryz.ntmps117 rfl fun c=>?_
 unfold kK at h
 refine sqR<|aF (aJ.box (cs:=[v0,v1]) rfl rfl) rfl fun b1=>qkAsg rfl<|dtN<|aH<|midU (fun a2=>rB  a2=some r) (fun a2 b3=>[]) (fun a2 b3=>[]) ?_ ?_
 ·refine sqR<|qkAsg rfl<|dtN<|aM<|loopL (uP p0 p1 p2) (fun a6 b7=>[(1,vI (p1)),(2,vI (p2)),(3,vP b1),(7,vI (a6))]) (fun a6 b7=>[bT b1 [v0,v1] 29]) (0:Int) () h SF (aW.refl _) ?_
  intro k8 a6 b7 h
  refine aH<|sqR<|qkMove rfl<|qkFld rfl<|qkLd 0 rfl<|qkMove rfl<|ckE h fun j9 h=>aB (dL rfl rfl (aC.fact 1 rfl) rfl rfl j9) rfl<|aB (dW rfl (aC.fact 1 rfl) rfl rfl j9) rfl<|aB (jF rfl (aC.el (aC.fact 1 rfl) j9.1 j9.2) rfl) rfl<|qkLss rfl<|dtN ?_
  refine eN h rfl (fun h=>?_) fun h=>?_
  ·refine cF<|aH<|aM<|sqR<|qkFld rfl<|qkLd 0 rfl<|qkMove rfl<|ckE h fun j11 h=>aB (dL rfl rfl (aC.fact 1 rfl) rfl rfl j11) rfl<|aB (dW rfl (aC.fact 1 rfl) rfl rfl j11) rfl<|qkMove rfl<|ckE h fun j12 h=>aB (aY rfl rfl (aC.el (aC.fact 1 rfl) j11.1 j11.2) rfl rfl j12) rfl<|aB (mD rfl rfl rfl rfl rfl) rfl<|aB (nZ rfl (aC.el (aC.fact 1 rfl) j11.1 j11.2) rfl rfl rfl yE j12) rfl<|qkMove rfl<|qkEql rfl<|dtN ?_
   refine eN h rfl (fun h=>?_) fun h=>?_
   ·refine sqR<|qkAsg rfl<|dtN<|aP<|bJ<|aG<|aG<|bJ<|aG ?_
    cases h
    exact wG rfl
   refine dO<|inT<|aK<|qkMove rfl<|qkAdd rfl<|qkAsg rfl<|dtN ?_
   exact xO (wI .i64 (a6+(1:Int))) () h SF rfl
  refine fL ?_
  exact cG () (()) h SF .nil (aD.refl _ _)
 intro a2 b3 h
 unfold rB at h
 refine sqR<|qkAsg rfl<|dtN<|aP ?_
 cases h
 exact kW rfl
end
section
def lT (p0:zR) (p1:dN) (p2:Int) (p3:Int) (p4:Int) (a4:Bool):Option (dQ):=
 if a4=true then(some (p1.2))else(if p0.2.2.2.2.2=true then(ck (0<=p2∧p2<(List.length p1.2:Int)) (ck ((List.length ([(p3,p4)]):Int)+(List.length (at' p1.2 p2):Int)<=1099511627) (ck (0<=p2∧p2<(List.length p1.2:Int)) (ck (0<=p3∧p3<(List.length (List.set p1.2 (Int.toNat p2) (([(p3,p4)])++(at' p1.2 p2))):Int)) (ck ((List.length ([(p2,p4)]):Int)+(List.length (at' (List.set p1.2 (Int.toNat p2) (([(p3,p4)])++(at' p1.2 p2))) p3):Int)<=1099511627) (ck (0<=p3∧p3<(List.length (List.set p1.2 (Int.toNat p2) (([(p3,p4)])++(at' p1.2 p2))):Int)) (some (List.set (List.set p1.2 (Int.toNat p2) (([(p3,p4)])++(at' p1.2 p2))) (Int.toNat p3) (([(p2,p4)])++(at' (List.set p1.2 (Int.toNat p2) (([(p3,p4)])++(at' p1.2 p2))) p3))))))))))else(ck (0<=p2∧p2<(List.length p1.2:Int)) (ck (0<=p3∧p3<(List.length p1.2:Int)) (ck ((List.length (at' p1.2 p2):Int)+(List.length ([(p3,p4)]):Int)<=1099511627) (ck ((List.length (at' p1.2 p3):Int)+(List.length ([(p2,p4)]):Int)<=1099511627) (ck (Int.toNat p2≠Int.toNat p3) (ck (0<=p2∧p2<(List.length (List.set (List.set p1.2 (Int.toNat p2) ((at' p1.2 p2)++([(p3,p4)]))) (Int.toNat p3) ((at' p1.2 p3)++([(p2,p4)]))):Int)) (ck (0<=p3∧p3<(List.length (List.set (List.set p1.2 (Int.toNat p2) ((at' p1.2 p2)++([(p3,p4)]))) (Int.toNat p3) ((at' p1.2 p3)++([(p2,p4)]))):Int)) (some (List.set (List.set p1.2 (Int.toNat p2) ((at' p1.2 p2)++([(p3,p4)]))) (Int.toNat p3) ((at' p1.2 p3)++([(p2,p4)]))))))))))))
def kF (U:Nat) (p0:zR) (p1:dN) (p2:Int) (p3:Int) (p4:Int):Option (dQ):=
 if p2=p3 then(lT p0 p1 p2 p3 p4 (true))else(Option.bind (kK U ((p1.1,p1.2)) p2 p3) fun r86=>(lT p0 p1 p2 p3 p4 (r86)))
theorem Qf:aN Tryz.prog 81:=Tryz.call81
theorem wB (U:Nat) {p0:zR} {p1:dN} {p2:Int} {p3:Int} {p4:Int} (v0:Value)  (v1:Value)  (v2:Value)  (v3:Value)  (v4:Value)  (w5:fP) (r:dQ) (h:kF U p0 p1 p2 p3 p4=some r):
  BC Tryz.prog 81 #[Value.agg #[vI (p0.1),v0,v1,v2,vB (p0.2.2.2.2.1),vB (p0.2.2.2.2.2)],Value.agg #[v3,v4],vI (p2),vI (p3),vI (p4)] [Ar dH.raw v4 w5,jW bR w5 p1.2] [Sl bK v0 p0.2.1,Sl bK v1 p0.2.2.1,Sl bK v2 p0.2.2.2.1,Sl bK v3 p1.1] (fun x:fP=>Value.tuple #[]) (fun x l=>Ar dH.raw v4 x::jW bR x r::l):=by
 refine BC.of (vs:=[Value.agg #[vI (p0.1),v0,v1,v2,vB (p0.2.2.2.2.1),vB (p0.2.2.2.2.2)],Value.agg #[v3,v4],vI (p2),vI (p3),vI (p4)]) Tryz.func81 rfl Tryz.ntmps81 rfl fun c=>?_
 refine sqR<|aF (aJ.box (cs:=[vI (p0.1),v0,v1,v2,vB (p0.2.2.2.2.1),vB (p0.2.2.2.2.2)]) rfl rfl) rfl fun b1=>aF (aJ.box (cs:=[v3,v4]) rfl rfl) rfl fun b2=>dtN<|aH<|aH<|wW (B:=Unit) (fun a4=>lT p0 p1 p2 p3 p4 a4=some r) (fun a4 b5=>[(2,vI (p2)),(3,vI (p3)),(4,vI (p4)),(5,vP b1),(6,vP b2),(20,vB (a4))]) (fun a4 b5=>[bT b2 [v3,v4] 29,bT b1 [vI (p0.1),v0,v1,v2,vB (p0.2.2.2.2.1),vB (p0.2.2.2.2.2)] 24,Ar dH.raw v4 w5,jW bR w5 p1.2]) (fun a4 b5=>[Sl bK v0 p0.2.1,Sl bK v1 p0.2.2.1,Sl bK v2 p0.2.2.2.1,Sl bK v3 p1.1]) ?_ ?_
 ·refine aK<|qkMove rfl<|qkMove rfl<|qkEql rfl<|qkMove rfl ?_
  refine Bi h rfl (fun _ h=>?_) fun _ h=>?_
  ·refine gdSkip rfl<|gdSkip rfl<|gdSkip rfl<|gdSkip rfl<|qkPkT rfl<|dtN ?_
   exact iG (true) () h SF rfl
  refine aS rfl (oJ 0 rfl rfl rfl rfl) rfl<|gyMove rfl<|gyMove rfl<|bnE h fun r86 hr87 h=>AD rfl (aJ.callQ Tt (Gd U v3 v4 (List.zip w5 p1.2) r86 hr87) rfl (aD.cons (aC.fact 3 rfl) (aD.cons (bF (i:=2) (j:=3) rfl rfl bI) .nil))) rfl fun x88=>qkPkF rfl<|dtN ?_
  exact iG (r86) () h SF rfl
 intro a4 b5 h
 refine Ab h rfl (fun _ h=>?_) fun _ h=>?_
 ·refine aP<|aG ?_
  cases h
  exact AE (w5) rfl rfl .ret (.inl rfl) (aW.ix [2,3] rfl rfl) aD.nil
 refine cF<|sqR<|qkMove rfl<|qkMove rfl ?_
 refine aB (zZ (r:=Value.agg #[vI (p3),vI (p4)]) rfl rfl (by intro w;simp[Instr.build,Instr.fill,dB,cO,cD,dC,dD,cP,eD])) rfl ?_
 refine qkMove rfl<|qkMove rfl ?_
 refine aB (zZ (r:=Value.agg #[vI (p2),vI (p4)]) rfl rfl (by intro w;simp[Instr.build,Instr.fill,dB,cO,cD,dC,dD,cP,eD])) rfl ?_
 refine aF (aJ.alloc (cs:=Sp) rfl rfl) rfl fun b7=>aF (aJ.alloc (cs:=Sp) rfl rfl) rfl fun b8=>bB 1 (vs:=[vI (p3),vI (p4)]) rfl rfl rfl rfl rfl rfl<|bB 0 (vs:=[vI (p2),vI (p4)]) rfl rfl rfl rfl rfl rfl<|dtN<|aH<|sqR<|qkFld rfl<|qkLd 3 rfl<|dtN ?_
 refine Ab h rfl (fun _ h=>?_) fun _ h=>?_
 ·refine aH ?_
  refine JR.start [0,1,0,0,8,0,32,0,224,480,1016,2047,4095] 11 mixedOrders (by decide +kernel) ?_
  refine JR.open (by exact rfl) ?_
  refine jkFld rfl<|jkLd 2 rfl<|jkMove rfl<|jkLdA 1 rfl<|JR.loud rfl rfl rfl (cE (e:=bR) ([((p3,p4))]) [(0,Value.agg #[vI (p3),vI (p4)])] rfl rfl rfl rfl (uC (vI (p3)) (vI (p4))) rfl rfl rfl) rfl (fun u10=>(vG [([3],[])] rfl)) fun u10=>jqN rfl (dZ rfl rfl rfl rfl rfl)<|bH rfl (aW.cons 3 rfl .nil) .nil (fK 0 rfl rfl rfl rfl rfl) (aO.h (aW.ix [2] rfl rfl) .nil aO.z)<|jqN rfl (lO rfl)<|ckE h fun j11 h=>dX (cJ 6 rfl) fun hl12=>?_
  refine bH rfl (aW.cons 5 rfl .nil) .nil (gZ 0 rfl rfl rfl rfl rfl j11.1 (by have q1:=j11.2;have q2:=hl12;(try simp only[List.length_set]at q1);(try simp only[List.length_set]at q2);(try simp only[List.length_set]);omega)) (aO.h (aW.ix [4] rfl rfl) .nil aO.z) ?_
  refine dX (cJ 6 rfl) fun hl13=>bH rfl (aW.cons 5 rfl .nil) .nil (mE 0 rfl rfl hl13 rfl rfl j11) (aO.h (aW.ix [4] rfl rfl) .nil aO.z)<|ckE h fun j15 h=>JR.loud rfl rfl rfl (fR 0 bI rfl rfl rfl (aC.row (j:=6) rfl bI j11.1 j11.2) rfl rfl rfl rfl j15 rfl) rfl (fun u14=>(vG [([3],[])] rfl)) fun u14=>bS 11 rfl rfl<|ckE h fun j16 h=>aB (dL rfl rfl (bF (i:=5) (j:=6) rfl rfl bI) rfl rfl j16) rfl<|bP (Know.one ((aV (aC.res 0 rfl) bI))) fun ho17=>jC (sY (k:=p2) 6 0 rfl rfl rfl j16) ?_
  refine mW 4 5 ⟨j16.1,by first|exact j16.2|simpa using j16.2⟩ rfl rfl rfl rfl rfl (by simp) ho17 rfl ?_
  refine dtN<|aH ?_
  refine JR.start [0,1,0,0,8,0,32,0,224,480,1016,2047,4095] 11 mixedOrders (by decide +kernel) ?_
  refine JR.open (by exact rfl) ?_
  refine jkFld rfl<|jkLd 2 rfl<|jkMove rfl<|jkLdA 0 rfl<|JR.loud rfl rfl rfl (cE (e:=bR) ([((p2,p4))]) [(0,Value.agg #[vI (p2),vI (p4)])] rfl rfl rfl rfl (uC (vI (p2)) (vI (p4))) rfl rfl rfl) rfl (fun u18=>(vG [([3],[])] rfl)) fun u18=>jqN rfl (dZ rfl rfl rfl rfl rfl)<|bH rfl (aW.cons 3 rfl .nil) .nil (fK 0 rfl rfl rfl rfl rfl) (aO.h (aW.ix [2] rfl rfl) .nil aO.z)<|jqN rfl (lO rfl)<|ckE h fun j19 h=>dX (cJ 6 rfl) fun hl20=>?_
  refine bH rfl (aW.cons 5 rfl .nil) .nil (gZ 0 rfl rfl rfl rfl rfl j19.1 (by have q1:=j19.2;have q2:=hl20;(try simp only[List.length_set]at q1);(try simp only[List.length_set]at q2);(try simp only[List.length_set]);omega)) (aO.h (aW.ix [4] rfl rfl) .nil aO.z) ?_
  refine dX (cJ 6 rfl) fun hl21=>bH rfl (aW.cons 5 rfl .nil) .nil (mE 0 rfl rfl hl21 rfl rfl j19) (aO.h (aW.ix [4] rfl rfl) .nil aO.z)<|ckE h fun j23 h=>JR.loud rfl rfl rfl (fR 0 bI rfl rfl rfl (aC.row (j:=6) rfl bI j19.1 (by first|exact j19.2|simpa using j19.2)) rfl rfl rfl rfl j23 rfl) rfl (fun u22=>(vG [([3],[])] rfl)) fun u22=>?_
  refine bS 11 rfl rfl<|ckE h fun j24 h=>aB (dL rfl rfl (bF (i:=5) (j:=6) rfl rfl bI) rfl rfl j24) rfl<|bP (Know.one ((aV (aC.res 0 rfl) bI))) fun ho25=>jC (sY (k:=p3) 6 0 rfl rfl rfl j24) ?_
  refine mW 4 5 ⟨j24.1,by first|exact j24.2|simpa using j24.2⟩ rfl rfl rfl rfl rfl (by simp) ho25 rfl ?_
  refine dtN<|aP<|aG ?_
  cases h
  exact AE (List.set (List.set w5 (Int.toNat p2) u14) (Int.toNat p3) u22) rfl rfl .ret (.inl rfl) (aW.ix [4,5] rfl rfl) aD.nil
 refine cF<|ckE h fun j26 h=>ckE h fun j29 h=>ckE h fun j34 h=>ckE h fun j37 h=>ckE h fun j38 h=>ckE h fun j39 h=>ckE h fun j43 h=>NO [0,1,0,0,8,0,0,64,0,448,960,0,2048,8128,0,16384,0,114688,245760,0,524288,2097088,4194247,8388551,16777215,33554431] 24 [[0,1,2,3,4,5,6,7,8,9,10,11,14,15,16,17,18,19,12,13,20,21,22,23,24,25],[0,1,2,3,4,5,6,7,8,9,10,11,14,15,16,17,18,19,12,20,13,21,22,23,24,25],[0,1,2,3,4,5,6,7,8,9,10,11,14,15,16,17,18,19,20,12,13,21,22,23,24,25]] mixedOrders (by decide +kernel) (by decide +kernel) ?_
 intro o ho
 simp only[List.mem_cons,List.not_mem_nil,or_false]at ho
 rcases ho with rfl|rfl|rfl
 ·refine jkFld rfl<|jkLd 2 rfl<|jkMove rfl<|jkFld rfl<|jkLd 2 rfl<|jkMove rfl<|jkFld rfl<|jkLd 2 rfl<|jkMove rfl<|dX (cJ 5 rfl) fun hl46=>?_
  refine bH rfl (aW.cons 4 rfl .nil) .nil (gZ 0 rfl rfl rfl rfl rfl j26.1 (by have q1:=j26.2;have q2:=hl46;(try simp only[List.length_set]at q1);(try simp only[List.length_set]at q2);(try simp only[List.length_set]);omega)) aO.z ?_
  refine dX (cJ 5 rfl) fun hl47=>bH rfl (aW.cons 4 rfl .nil) .nil (mE 0 rfl rfl hl47 rfl rfl j26) aO.z<|jkLdA 1 rfl<|jkFld rfl<|jkLd 2 rfl<|jkMove rfl<|dX (cJ 5 rfl) fun hl48=>?_
  refine bH rfl (aW.cons 4 rfl .nil) .nil (gZ 0 rfl rfl rfl rfl rfl j29.1 (by have q1:=j29.2;have q2:=hl48;(try simp only[List.length_set]at q1);(try simp only[List.length_set]at q2);(try simp only[List.length_set]);omega)) aO.z ?_
  refine dX (cJ 5 rfl) fun hl49=>bH rfl (aW.cons 4 rfl .nil) .nil (mE 0 rfl rfl hl49 rfl rfl j29) aO.z<|jkLdA 0 rfl<|JR.loud rfl rfl rfl (cE (e:=bR) ([((p3,p4))]) [(0,Value.agg #[vI (p3),vI (p4)])] rfl rfl rfl rfl (uC (vI (p3)) (vI (p4))) rfl rfl rfl) rfl (fun u50=>(vG [([1],[]),([5],[]),([5],[]),([3],[]),([5],[]),([5],[]),([3],[]),([3],[]),([3],[])] rfl)) fun u50=>JR.loud rfl rfl rfl (nD 6 bI rfl rfl rfl (aV (aC.res 0 rfl) bI) rfl rfl rfl rfl j26 j34 rfl) rfl (fun u51=>(vG [([1],[]),([5],[]),([5],[]),([3],[]),([3],[]),([3],[])] rfl)) fun u51=>JR.loud rfl rfl rfl (cE (e:=bR) ([((p2,p4))]) [(0,Value.agg #[vI (p2),vI (p4)])] rfl rfl rfl rfl (uC (vI (p2)) (vI (p4))) rfl rfl rfl) rfl (fun u52=>(vG [([6],[]),([6],[]),([4],[]),([3],[]),([6],[]),([6],[]),([4],[]),([4],[]),([4],[])] rfl)) fun u52=>JR.loud rfl rfl rfl (uH (j:=p2) 7 bI rfl rfl rfl (aV (aC.res 0 rfl) bI) rfl rfl rfl rfl j29 j37 rfl j38) rfl (fun u53=>(vG [([4],[]),([4],[])] rfl)) fun u53=>dX (cJ 7 rfl) fun hl54=>?_
  refine bH rfl (aW.cons 6 rfl .nil) .nil (gZ 0 rfl rfl rfl rfl rfl j39.1 (by have q1:=j39.2;have q2:=hl54;(try simp only[List.length_set]at q1);(try simp only[List.length_set]at q2);(try simp only[List.length_set]);omega)) (Ou rfl) ?_
  refine dX (yD (k:=p2) (j:=p3) 7 rfl (by omega) ⟨j39.1,by first|exact j39.2|simpa using j39.2⟩) fun ho55=>?_
  refine zS rfl rfl rfl (wZ 6 7 ⟨j39.1,by first|exact j39.2|simpa using j39.2⟩ rfl rfl rfl rfl (by simp) ho55 rfl) (fun x56=>(vG [([4],[])] rfl)) fun x56=>?_
  refine bS 24 rfl rfl<|bP (cJ 7 rfl) fun hl57=>?_
  refine aB (gZ 6 rfl rfl rfl rfl rfl j43.1 (by have q1:=j43.2;have q2:=hl57;(try simp only[List.length_set]at q1);(try simp only[List.length_set]at q2);(try simp only[List.length_set]);omega)) rfl ?_
  refine bP (wM 7 (k:=p3) rfl ⟨j43.1,by first|exact j43.2|simpa using j43.2⟩) fun ho58=>?_
  refine mW 6 7 ⟨j43.1,by first|exact j43.2|simpa using j43.2⟩ rfl rfl rfl rfl rfl (by simp) ho58 rfl ?_
  refine dA ?_
  cases h
  exact AE (List.set (List.set w5 (Int.toNat p2) u51) (Int.toNat p3) u53) rfl rfl .normal (.inr rfl) (aW.ix [6,7] rfl rfl) aD.nil
 ·refine jkFld rfl<|jkLd 2 rfl<|jkMove rfl<|jkFld rfl<|jkLd 2 rfl<|jkMove rfl<|jkFld rfl<|jkLd 2 rfl<|jkMove rfl<|dX (cJ 5 rfl) fun hl59=>?_
  refine bH rfl (aW.cons 4 rfl .nil) .nil (gZ 0 rfl rfl rfl rfl rfl j26.1 (by have q1:=j26.2;have q2:=hl59;(try simp only[List.length_set]at q1);(try simp only[List.length_set]at q2);(try simp only[List.length_set]);omega)) aO.z ?_
  refine dX (cJ 5 rfl) fun hl60=>bH rfl (aW.cons 4 rfl .nil) .nil (mE 0 rfl rfl hl60 rfl rfl j26) aO.z<|jkLdA 1 rfl<|jkFld rfl<|jkLd 2 rfl<|jkMove rfl<|dX (cJ 5 rfl) fun hl61=>?_
  refine bH rfl (aW.cons 4 rfl .nil) .nil (gZ 0 rfl rfl rfl rfl rfl j29.1 (by have q1:=j29.2;have q2:=hl61;(try simp only[List.length_set]at q1);(try simp only[List.length_set]at q2);(try simp only[List.length_set]);omega)) aO.z ?_
  refine dX (cJ 5 rfl) fun hl62=>bH rfl (aW.cons 4 rfl .nil) .nil (mE 0 rfl rfl hl62 rfl rfl j29) aO.z<|jkLdA 0 rfl<|JR.loud rfl rfl rfl (cE (e:=bR) ([((p3,p4))]) [(0,Value.agg #[vI (p3),vI (p4)])] rfl rfl rfl rfl (uC (vI (p3)) (vI (p4))) rfl rfl rfl) rfl (fun u63=>(vG [([1],[]),([5],[]),([5],[]),([3],[]),([5],[]),([5],[]),([3],[]),([3],[]),([3],[])] rfl)) fun u63=>JR.loud rfl rfl rfl (cE (e:=bR) ([((p2,p4))]) [(0,Value.agg #[vI (p2),vI (p4)])] rfl rfl rfl rfl (uC (vI (p2)) (vI (p4))) rfl rfl rfl) rfl (fun u64=>(vG [([6],[]),([6],[]),([4],[]),([3],[]),([6],[]),([6],[]),([4],[]),([4],[]),([4],[])] rfl)) fun u64=>JR.loud rfl rfl rfl (nD 7 bI rfl rfl rfl (aV (aC.res 1 rfl) bI) rfl rfl rfl rfl j26 j34 rfl) rfl (fun u65=>(vG [([2],[]),([6],[]),([6],[]),([4],[]),([4],[]),([4],[])] rfl)) fun u65=>JR.loud rfl rfl rfl (uH (j:=p2) 7 bI rfl rfl rfl (aV (aC.res 0 rfl) bI) rfl rfl rfl rfl j29 j37 rfl j38) rfl (fun u66=>(vG [([4],[]),([4],[])] rfl)) fun u66=>dX (cJ 7 rfl) fun hl67=>?_
  refine bH rfl (aW.cons 6 rfl .nil) .nil (gZ 0 rfl rfl rfl rfl rfl j39.1 (by have q1:=j39.2;have q2:=hl67;(try simp only[List.length_set]at q1);(try simp only[List.length_set]at q2);(try simp only[List.length_set]);omega)) (Ou rfl) ?_
  refine dX (yD (k:=p2) (j:=p3) 7 rfl (by omega) ⟨j39.1,by first|exact j39.2|simpa using j39.2⟩) fun ho68=>?_
  refine zS rfl rfl rfl (wZ 6 7 ⟨j39.1,by first|exact j39.2|simpa using j39.2⟩ rfl rfl rfl rfl (by simp) ho68 rfl) (fun x69=>(vG [([4],[])] rfl)) fun x69=>?_
  refine bS 24 rfl rfl<|bP (cJ 7 rfl) fun hl70=>?_
  refine aB (gZ 6 rfl rfl rfl rfl rfl j43.1 (by have q1:=j43.2;have q2:=hl70;(try simp only[List.length_set]at q1);(try simp only[List.length_set]at q2);(try simp only[List.length_set]);omega)) rfl ?_
  refine bP (wM 7 (k:=p3) rfl ⟨j43.1,by first|exact j43.2|simpa using j43.2⟩) fun ho71=>?_
  refine mW 6 7 ⟨j43.1,by first|exact j43.2|simpa using j43.2⟩ rfl rfl rfl rfl rfl (by simp) ho71 rfl ?_
  refine dA ?_
  cases h
  exact AE (List.set (List.set w5 (Int.toNat p2) u65) (Int.toNat p3) u66) rfl rfl .normal (.inr rfl) (aW.ix [6,7] rfl rfl) aD.nil
 refine jkFld rfl<|jkLd 2 rfl<|jkMove rfl<|jkFld rfl<|jkLd 2 rfl<|jkMove rfl<|jkFld rfl<|jkLd 2 rfl<|jkMove rfl<|dX (cJ 5 rfl) fun hl72=>?_
 refine bH rfl (aW.cons 4 rfl .nil) .nil (gZ 0 rfl rfl rfl rfl rfl j26.1 (by have q1:=j26.2;have q2:=hl72;(try simp only[List.length_set]at q1);(try simp only[List.length_set]at q2);(try simp only[List.length_set]);omega)) aO.z ?_
 refine dX (cJ 5 rfl) fun hl73=>bH rfl (aW.cons 4 rfl .nil) .nil (mE 0 rfl rfl hl73 rfl rfl j26) aO.z<|jkLdA 1 rfl<|jkFld rfl<|jkLd 2 rfl<|jkMove rfl<|dX (cJ 5 rfl) fun hl74=>?_
 refine bH rfl (aW.cons 4 rfl .nil) .nil (gZ 0 rfl rfl rfl rfl rfl j29.1 (by have q1:=j29.2;have q2:=hl74;(try simp only[List.length_set]at q1);(try simp only[List.length_set]at q2);(try simp only[List.length_set]);omega)) aO.z ?_
 refine dX (cJ 5 rfl) fun hl75=>bH rfl (aW.cons 4 rfl .nil) .nil (mE 0 rfl rfl hl75 rfl rfl j29) aO.z<|jkLdA 0 rfl<|JR.loud rfl rfl rfl (cE (e:=bR) ([((p2,p4))]) [(0,Value.agg #[vI (p2),vI (p4)])] rfl rfl rfl rfl (uC (vI (p2)) (vI (p4))) rfl rfl rfl) rfl (fun u76=>(vG [([5],[]),([5],[]),([3],[]),([2],[]),([5],[]),([5],[]),([3],[]),([3],[]),([3],[])] rfl)) fun u76=>JR.loud rfl rfl rfl (cE (e:=bR) ([((p3,p4))]) [(0,Value.agg #[vI (p3),vI (p4)])] rfl rfl rfl rfl (uC (vI (p3)) (vI (p4))) rfl rfl rfl) rfl (fun u77=>(vG [([2],[]),([6],[]),([6],[]),([4],[]),([6],[]),([6],[]),([4],[]),([4],[]),([4],[])] rfl)) fun u77=>JR.loud rfl rfl rfl (nD 7 bI rfl rfl rfl (aV (aC.res 0 rfl) bI) rfl rfl rfl rfl j26 j34 rfl) rfl (fun u78=>(vG [([2],[]),([6],[]),([6],[]),([4],[]),([4],[]),([4],[])] rfl)) fun u78=>JR.loud rfl rfl rfl (uH (j:=p2) 7 bI rfl rfl rfl (aV (aC.res 1 rfl) bI) rfl rfl rfl rfl j29 j37 rfl j38) rfl (fun u79=>(vG [([4],[]),([4],[])] rfl)) fun u79=>dX (cJ 7 rfl) fun hl80=>?_
 refine bH rfl (aW.cons 6 rfl .nil) .nil (gZ 0 rfl rfl rfl rfl rfl j39.1 (by have q1:=j39.2;have q2:=hl80;(try simp only[List.length_set]at q1);(try simp only[List.length_set]at q2);(try simp only[List.length_set]);omega)) (Ou rfl) ?_
 refine dX (yD (k:=p2) (j:=p3) 7 rfl (by omega) ⟨j39.1,by first|exact j39.2|simpa using j39.2⟩) fun ho81=>?_
 refine zS rfl rfl rfl (wZ 6 7 ⟨j39.1,by first|exact j39.2|simpa using j39.2⟩ rfl rfl rfl rfl (by simp) ho81 rfl) (fun x82=>(vG [([4],[])] rfl)) fun x82=>?_
 refine bS 24 rfl rfl<|bP (cJ 7 rfl) fun hl83=>?_
 refine aB (gZ 6 rfl rfl rfl rfl rfl j43.1 (by have q1:=j43.2;have q2:=hl83;(try simp only[List.length_set]at q1);(try simp only[List.length_set]at q2);(try simp only[List.length_set]);omega)) rfl ?_
 refine bP (wM 7 (k:=p3) rfl ⟨j43.1,by first|exact j43.2|simpa using j43.2⟩) fun ho84=>?_
 refine mW 6 7 ⟨j43.1,by first|exact j43.2|simpa using j43.2⟩ rfl rfl rfl rfl rfl (by simp) ho84 rfl ?_
 refine dA ?_
 cases h
 exact AE (List.set (List.set w5 (Int.toNat p2) u78) (Int.toNat p3) u79) rfl rfl .normal (.inr rfl) (aW.ix [6,7] rfl rfl) aD.nil
end
section
def lS (r3:(aL×dQ)) (a11:dQ):Option pK:=
 some ((r3.1,a11))
def pO (U:Nat) (p0:zR) (r3:(aL×dQ)) (a19:Int×dQ) (ag18:(Int×dQ)->Option pK):Option pK:=
 if a19.1<(List.length a19.2:Int)then(Option.bind (oS U p0.2.1 (wI .i64 (a19.1 - (1:Int)))) fun r23=>(Option.bind (eB U r23 a19.1) fun r26=>(Option.bind (oS U p0.2.2.1 (wI .i64 (a19.1 - (1:Int)))) fun r29=>(Option.bind (eB U r29 (15:Int)) fun r32=>(Option.bind (kF U ((p0.1,p0.2.1,p0.2.2.1,p0.2.2.2.1,p0.2.2.2.2.1,p0.2.2.2.2.2)) ((r3.1,a19.2)) r26 a19.1 (wI .i64 ((1:Int)+r32))) fun r35=>(ag18 ((wI .i64 (a19.1+(1:Int))),r35)))))))else(lS r3 (a19.2))
def kE (U:Nat) (p0:zR) (p1:Int):Option pK:=
 Option.bind (lY U ((p0.1,p0.2.1,p0.2.2.1,p0.2.2.2.1,p0.2.2.2.2.1,p0.2.2.2.2.2)) p1) fun r3=>(bD (pO U p0 r3) U ((1:Int),r3.2))
theorem Qa:aN Tryz.prog 52:=Tryz.call52
theorem wA (U:Nat) {p0:zR} {p1:Int} (v0:Value)  (v1:Value)  (v2:Value) (r:(aL×dQ)) (h:kE U p0 p1=some r):
  aT Tryz.prog 52 #[Value.agg #[vI (p0.1),v0,v1,v2,vB (p0.2.2.2.2.1),vB (p0.2.2.2.2.2)],vI (p1)] [Sl bK v0 p0.2.1,Sl bK v1 p0.2.2.1,Sl bK v2 p0.2.2.2.1] (fun x:Value×Value×List Value=>Value.agg #[x.1,x.2.1]) (fun x l=>Ar bV x.1 r.1::Ar dH.raw x.2.1 x.2.2::jW bR x.2.2 r.2::l) (fun _ l=>l):=by
 refine aT.of Tryz.func52 rfl Tryz.ntmps52 rfl fun c=>?_
 refine sqR<|aF (aJ.box (cs:=[vI (p0.1),v0,v1,v2,vB (p0.2.2.2.2.1),vB (p0.2.2.2.2.2)]) rfl rfl) rfl fun b1=>aF (aJ.alloc (cs:=[kX,kX]) rfl rfl) rfl fun b2=>dtN<|sqR<|qkLdA 1 rfl<|qkMove rfl<|bnE h fun r3 w4 h=>aF (aJ.callQ VT (Bb U v0 v1 v2 r3 w4) rfl (nY [0,1,2] rfl)) rfl fun x5=>aF (aJ.alloc (cs:=[kX,kX]) rfl rfl) rfl fun b6=>bP (Know.one ((aV (aC.res 1 rfl) cW))) fun ho7=>bP (Know.one (aC.sl (bF (i:=2) (j:=3) rfl rfl bI))) fun ho8=>bB 0 (vs:=[x5.1,x5.2.1]) rfl rfl (dU ho7 (dU ho8 rfl)) rfl rfl rfl<|dtN<|aH<|midL (B:=fP) (fun a11=>lS r3 a11=some r) (fun a11 b12=>[(4,vP b2),(5,vP b6)]) (fun a11 b12=>[bT b6 [x5.1,x5.2.1] 29,Ar bV x5.1 r3.1,Ar dH.raw x5.2.1 b12,jW bR b12 a11,bT b2 [kX,kX] 29]) ?_ ?_
 ·refine sqR<|qkAsg rfl<|dtN<|aM<|loopL (B:=fP) (pO U p0 r3) (fun a19 b20=>[(2,vP b1),(4,vP b2),(5,vP b6),(6,vI (a19.1))]) (fun a19 b20=>[bT b6 [x5.1,x5.2.1] 29,Ar bV x5.1 r3.1,Ar dH.raw x5.2.1 b20,jW bR b20 a19.2,bT b2 [kX,kX] 29,bT b1 [vI (p0.1),v0,v1,v2,vB (p0.2.2.2.2.1),vB (p0.2.2.2.2.2)] 24]) ((1:Int),r3.2) (x5.2.2) h SF (aW.refl _) ?_
  intro k21 a19 b20 h
  refine aH<|sqR<|qkMove rfl<|qkFld rfl<|qkLd 0 rfl<|aB (lN rfl (bF (i:=2) (j:=3) rfl rfl bI) rfl) rfl<|qkLss rfl<|dtN ?_
  refine eN h rfl (fun h=>?_) fun h=>?_
  ·refine cF<|aH<|aM ?_
   refine JR.start [0,0,0,4,0,16,60,0,252,0,0,1024,0,4096,15868,32252,65020,131071] 17 mixedOrders (by decide +kernel) ?_
   refine JR.open (by exact rfl) ?_
   refine jkLdA 5 rfl<|jkLdA 0 rfl<|jkFld rfl<|jkLd 5 rfl<|jkMove rfl<|jqN rfl (nW rfl rfl)<|bnE h fun r23 w24 h=>JR.loud rfl rfl rfl (aJ.callQ E_ (wE U v0 r23 w24) rfl (nY [0] rfl)) rfl (fun x25=>(vG [([0],[]),([5],[])] rfl)) fun x25=>jqN rfl (lO rfl)<|bnE h fun r26 w27 h=>JR.loud rfl rfl rfl (aJ.callQ yL (gO U  r26 w27) rfl .nil) rfl (fun x28=>(vG [([0],[]),([5],[])] rfl)) fun x28=>jqN rfl (lO rfl)<|jqN rfl (dZ rfl rfl rfl rfl rfl)<|bH rfl (aW.cons 5 rfl .nil) .nil (fK 0 rfl rfl rfl rfl rfl) (aO.h (aW.ix [5] rfl rfl) .nil (aO.h (aW.ix [5] rfl rfl) .nil aO.z))<|jqN rfl (lO rfl)<|jqN rfl (nW rfl rfl)<|bnE h fun r29 w30 h=>JR.loud rfl rfl rfl (aJ.callQ E_ (wE U v1 r29 w30) rfl (nY [1] rfl)) rfl (fun x31=>(vG [([0],[]),([5],[])] rfl)) fun x31=>bnE h fun r32 w33 h=>JR.loud rfl rfl rfl (aJ.callQ yL (gO U  r32 w33) rfl .nil) rfl (fun x34=>(vG [([0],[]),([5],[])] rfl)) fun x34=>jqN rfl (uI rfl rfl)<|bS 17 rfl rfl<|bnE h fun r35 w36 h=>aF (BB (Min:=[Ar dH.raw x5.2.1 b20,jW bR b20 a19.2]) (Mr:=[bT b6 [x5.1,x5.2.1] 29,Ar bV x5.1 r3.1,bT b2 [kX,kX] 29,bT b1 [vI (p0.1),v0,v1,v2,vB (p0.2.2.2.2.1),vB (p0.2.2.2.2.2)] 24]) Qf (wB U v0 v1 v2 x5.1 x5.2.1 b20 r35 w36) rfl (aW.ix [2,3,0,1,4,5] rfl rfl) (aD.cons (aC.fact 0 rfl) (aD.cons (aC.fact 1 rfl) (aD.cons (aC.fact 2 rfl) (aD.cons (aV (aC.res 1 rfl) cW) .nil)))) (fun _ _=>rfl)) rfl fun x37=>dA<|inT<|aK<|qkMove rfl<|qkAdd rfl<|qkAsg rfl<|dtN ?_
   exact mA ((wI .i64 (a19.1+(1:Int))),r35) (x37) h SF (aW.ix [2,3,0,1,4,5] rfl rfl) (aD.refl _ _)
  refine fL ?_
  exact cG (a19.2) (b20) h SF (aW.ix [0,1,2,3,4] rfl rfl) (aD.refl _ _)
 intro a11 b12 h
 unfold lS at h
 refine sqR<|qkLdA 0 rfl<|bP (Know.one ((aV (aC.res 1 rfl) cW))) fun ho13=>bP (Know.one (aC.sl (bF (i:=2) (j:=3) rfl rfl bI))) fun ho14=>bB 4 (vs:=[x5.1,x5.2.1]) rfl rfl (dU ho13 (dU ho14 rfl)) rfl rfl rfl<|dtN<|aP ?_
 cases h
 exact gV (x5.1,x5.2.1,b12) rfl rfl (RV.cell 4 rfl rfl rfl rfl) (aW.ix [1,2,3] rfl rfl) aD.nil
end
section
def fF (U:Nat) (p0:Int):Option (Int):=
 if p0=(0:Int)then(some (32:Int))else(ck (0<=(27:Int)) (ck ((0<=(mH .u32 (wI .u32 ((cH .u32 p0 (wI .u32 (0 - p0)))*(125613361:Int))) (27:Int))∧(mH .u32 (wI .u32 ((cH .u32 p0 (wI .u32 (0 - p0)))*(125613361:Int))) (27:Int))<((32:Nat):Int))∧List.length rU=32) (some (wI .i64 (at' rU (mH .u32 (wI .u32 ((cH .u32 p0 (wI .u32 (0 - p0)))*(125613361:Int))) (27:Int)))))))
theorem Lh:aN Tryz.prog 50:=Tryz.call50
theorem nA (U:Nat) {p0:Int} (r:Int) (h:fF U p0=some r):
  aT Tryz.prog 50 #[vU (p0)] [Gb 0 (cellsOf CX rU)] (fun x:Unit=>vI (r)) (fun x l=>l) (fun _ l=>l):=by
 refine aT.of Tryz.func50 rfl Tryz.ntmps50 rfl fun c=>?_
 refine sqR<|qkAsg rfl<|dtN<|aH<|sqR<|qkMove rfl<|qkEql rfl<|dtN ?_
 refine eN h rfl (fun h=>?_) fun h=>?_
 ·refine sqR<|qkAsg rfl<|dtN<|aP<|aG ?_
  cases h
  exact kW rfl
 refine cF<|sqR<|qkMove rfl<|qkMove rfl<|aB (Mj rfl) rfl<|qkAnd rfl<|aB (yK rfl rfl) rfl<|ckE h fun j2 h=>aB (DG rfl rfl j2) rfl<|ckE h fun j3 h=>aB (Jk rfl rfl rfl rfl rfl j3.1) rfl<|aB (NT (e:=CX) rfl (aC.fact 0 rfl) rfl rfl rfl rfl j3) rfl<|aB (ER rfl rfl rfl) rfl<|qkAsg rfl<|dtN<|aP ?_
 cases h
 exact kW rfl
end
section
def gJ  (a7:Unit):Option (Bool):=
 some (true)
def eP (U:Nat) (p0:aL) (p1:Int) (a18:Int) (ag17:(Int)->Option (Bool)):Option (Bool):=
 if a18≠(0:Int)then(Option.bind (fF U a18) fun r22=>(ck (0<=r22∧r22<(List.length p0:Int)) (if(cH .u32 (at' p0 r22) p1)≠(0:Int)then(some (false))else(ag17 (cH .u32 a18 (wI .u32 (a18 - (1:Int))))))))else(gJ  (()))
def jL (U:Nat) (p0:aL) (p1:Int) (a10:Unit):Option (Bool):=
 bD (eP U p0 p1) U (p1)
def eZ (U:Nat) (p0:aL) (p1:Int):Option (Bool):=
 jL U p0 p1 (())
theorem TF:aN Tryz.prog 185:=Tryz.call185
theorem v_ (U:Nat) {p0:aL} {p1:Int} (v0:Value) (r:Bool) (h:eZ U p0 p1=some r):
  aT Tryz.prog 185 #[v0,vU (p1)] [Sl sW v0 p0,Gb 0 (cellsOf CX rU)] (fun x:Unit=>vB (r)) (fun x l=>l) (fun _ l=>l):=by
 refine aT.of Tryz.func185 rfl Tryz.ntmps185 rfl fun c=>?_
 unfold eZ at h
 refine jC Jc<|sqR<|bP (Know.one ((aC.fact 0 rfl))) fun ho3=>?_
 refine aF (aJ.box (cs:=[v0]) rfl (by rw[iN ho3])) rfl fun b2=>?_
 refine aF (aJ.box (cs:=[vU (p1)]) rfl rfl) rfl fun b4=>aF (aJ.alloc (cs:=[vB (false)]) rfl rfl) rfl fun b5=>dtN<|aH<|KR (A:=Unit) (B:=iO) (fun a7 b8=>⟨16,FD b8⟩) (fun a7=>gJ  a7=some r) (fun a7 b8=>[(4,vP b5)]) (fun a7 b8=>[bT b5 [vB (false)] 4,Hw b8]) (fun a7 b8=>[Sl sW v0 p0,Gb 0 (cellsOf CX rU)]) ?_ ?_
 ·refine sqR<|qkLd 1 rfl<|Bz (A:=Unit) (B:=Nat) (vs:=[vU (p1)]) (fun a10=>jL U p0 p1 a10=some r) (fun a10 b11=>Value.func (.func 190) #[] #[vP b11]) (fun a10 b11=>[bT b11 [vU (p1)] 26,bT b5 [vB (false)] 4,bT b4 [vU (p1)] 26,bT b2 [v0] 104,Hw ([]:iO)]) (fun a10 b11=>[Sl sW v0 p0,Gb 0 (cellsOf CX rU)]) (uQ.fn (show aN Tryz.prog 152 from Tryz.call152) rfl) Tryz.func152 rfl Tryz.ntmps152 rfl rfl ?_ ?_
  ·refine sqR<|aF (aJ.box (cs:=[vU (p1)]) rfl rfl) rfl fun b27=>qkAsg rfl<|dtN<|sqR<|aB (yJ (cs:=[.tmp 1]) (vs:=[vP b27]) rfl) rfl<|qkAsg rfl<|dtN<|aP ?_
   exact wX () (b27) h (.inl rfl) (Gk.r1 rfl (RV.tmp rfl)) rfl (aW.refl _) (aD.refl _ _)
  intro a10 b11 h
  unfold jL at h
  refine dtN<|aM<|BZ (i:=4) (cs:=[vP b11]) ([]:iO) rfl (show aN Tryz.prog 190 from Tryz.call190) rfl Tryz.func190 rfl Tryz.ntmps190 rfl fun YK D13 R14 hR15=>aM<|loopL (eP U p0 p1) (fun a18 b19=>[(0,sP YK),(1,vP b11)]) (fun a18 b19=>[Lp YK R14 LoopState.ready none,bT b11 [vU (a18)] 26,bT b5 [vB (false)] 4,bT b4 [vU (p1)] 26,bT b2 [v0] 104,Hw (List.cons D13 ([]:iO))]) (p1) () h SF (aW.refl _) ?_
  intro k20 a18 b19 h
  refine aH<|sqR<|qkLd 1 rfl<|qkNeq rfl<|dtN ?_
  refine eN h rfl (fun h=>?_) fun h=>?_
  ·refine cF<|aH<|aM<|sqR<|qkMove rfl<|qkLd 1 rfl<|bnE h fun r22 w23 h=>aF (aJ.callQ Lh (nA U  r22 w23) rfl (nY [1] rfl)) rfl fun x24=>IM (us:=[vI (r22)]) (i:=0) hR15 rfl rfl rfl rfl rfl rfl<|aK<|qkAsg rfl<|dtN<|Mf (i:=0) rfl<|aM<|aH ?_
   refine JR.start [0,0,3,7,0,31,63] 5 mixedOrders (by decide +kernel) ?_
   refine JR.open (by exact rfl) ?_
   refine jkLd 4 rfl<|jkMove rfl<|ckE h fun j25 h=>bH rfl .nil (qF 0 rfl) (aY rfl rfl (aC.fact 0 rfl) rfl rfl j25) aO.z<|bH rfl .nil (qF 0 rfl) (bY rfl (aC.fact 0 rfl) rfl rfl rfl zV j25) aO.z<|jkLd 3 rfl<|bS 5 rfl rfl<|qkAnd rfl<|qkNeq rfl<|dtN ?_
   refine eN h rfl (fun h=>?_) fun h=>?_
   ·refine sqR<|gY 2 rfl rfl rfl rfl rfl rfl<|dtN<|aP<|bJ<|Ps (i:=0) rfl<|aB (wO rfl) rfl<|dtN<|Mg rfl<|aP<|bJ<|aG<|aG<|bJ<|SR (i:=0) (.inl rfl) rfl (Gk.r0 rfl)<|bJ<|aG<|oE (i:=5) (Ds:=(List.cons D13 ([]:iO))) (.inl rfl) rfl ?_
    cases h
    exact gV () rfl rfl (IX 2 rfl rfl rfl rfl) .nil aD.nil
   refine dO<|Pn<|EM (i:=0) rfl<|aB (wO rfl) rfl<|dtN<|El rfl<|dO<|inT<|aK<|qkLd 1 rfl<|qkLd 1 rfl<|aB (nW rfl rfl) rfl<|qkAnd rfl<|gY 1 rfl rfl rfl rfl rfl rfl<|dtN ?_
   exact xO (cH .u32 a18 (wI .u32 (a18 - (1:Int)))) () h SF rfl
  refine rE<|eS<|eS<|vJ<|Pr (i:=0) (.inr rfl) rfl (Gk.r0 rfl)<|inT ?_
  exact En () (List.cons D13 ([]:iO)) rfl h SF (aW.ix [2,5] rfl rfl) (aD.refl _ _)
 intro a7 b8 h
 unfold gJ at h
 refine sqR<|gY 0 rfl rfl rfl rfl rfl rfl<|dtN<|aP<|oE (i:=1) (Ds:=(b8)) (.inl rfl) rfl ?_
 cases h
 exact gV () rfl rfl (IX 0 rfl rfl rfl rfl) .nil aD.nil
end
section
def jD (U:Nat) (p0:aL) (p1:Int) (p2:Int) (p3:Int) (a2:Bool):Option (Bool):=
 if a2=true then(some (false))else(if p1=(1:Int)then(some (decide ((cH .u32 p3 (wI .u32 (p3 - (1:Int))))=(0:Int))))else(if p1=(2:Int)then(Option.bind (eZ U p0 p3) fun r7=>(some (r7)))else(if p1=(4:Int)then(some (decide (p3=p2)))else(some (true)))))
def dY (U:Nat) (p0:aL) (p1:Int) (p2:Int) (p3:Int):Option (Bool):=
 if p3=(0:Int)then(jD U p0 p1 p2 p3 (true))else(jD U p0 p1 p2 p3 (decide ((rX .u32 p3 p2)≠(0:Int))))
theorem Mz:aN Tryz.prog 149:=Tryz.call149
theorem sM (U:Nat) {p0:aL} {p1:Int} {p2:Int} {p3:Int} (v0:Value) (r:Bool) (h:dY U p0 p1 p2 p3=some r):
  aT Tryz.prog 149 #[v0,vI (p1),vU (p2),vU (p3)] [Sl sW v0 p0,Gb 0 (cellsOf CX rU)] (fun x:Unit=>vB (r)) (fun x l=>l) (fun _ l=>l):=by
 refine aT.of Tryz.func149 rfl Tryz.ntmps149 rfl fun c=>?_
 refine sqR<|qkAsg rfl<|dtN<|aH<|aH<|midU (fun a2=>jD U p0 p1 p2 p3 a2=some r) (fun a2 b3=>[(0,v0),(1,vI (p1)),(2,vU (p2)),(3,vU (p3)),(16,vB (a2))]) (fun a2 b3=>[]) ?_ ?_
 ·refine aK<|qkMove rfl<|qkEql rfl<|qkMove rfl ?_
  refine Bi h rfl (fun _ h=>?_) fun _ h=>?_
  ·refine gdSkip rfl<|gdSkip rfl<|gdSkip rfl<|gdSkip rfl<|qkPkT rfl<|dtN ?_
   exact iG (true) () h SF rfl
  refine gyMove rfl<|gyMove rfl<|aS rfl (Cf rfl rfl) rfl<|aS rfl (EU rfl rfl) rfl<|qkPkF rfl<|dtN ?_
  exact iG (decide ((rX .u32 p3 p2)≠(0:Int))) () h SF rfl
 intro a2 b3 h
 refine Ab h rfl (fun _ h=>?_) fun _ h=>?_
 ·refine sqR<|qkAsg rfl<|dtN<|aP<|aG ?_
  cases h
  exact kW rfl
 refine cF<|aH<|sqR<|qkMove rfl<|dtN<|aM<|sqR<|qkEql rfl<|qkAsg rfl<|dtN ?_
 refine eN h rfl (fun h=>?_) fun h=>?_
 ·refine sqR<|qkMove rfl<|qkMove rfl<|aB (nW rfl rfl) rfl<|qkAnd rfl<|qkEql rfl<|qkAsg rfl<|dtN<|aP<|bJ<|aG ?_
  cases h
  exact kW rfl
 refine sqR<|qkEql rfl<|qkAsg rfl<|dtN ?_
 refine eN h rfl (fun h=>?_) fun h=>?_
 ·refine sqR<|qkMove rfl<|qkMove rfl<|bnE h fun r7 w8 h=>aF (aJ.callQ TF (v_ U v0 r7 w8) rfl (nY [0,1] rfl)) rfl fun x9=>qkAsg rfl<|dtN<|aP<|bJ<|aG ?_
  cases h
  exact kW rfl
 refine sqR<|qkEql rfl<|qkAsg rfl<|dtN ?_
 refine eN h rfl (fun h=>?_) fun h=>?_
 ·refine sqR<|qkMove rfl<|qkMove rfl<|qkEql rfl<|qkAsg rfl<|dtN<|aP<|bJ<|aG ?_
  cases h
  exact kW rfl
 refine dO<|inT<|sqR<|qkAsg rfl<|dtN<|aP ?_
 cases h
 exact kW rfl
end
section
def jE  (a12:Int):Option (Int):=
 some (a12)
def fY (a24:dM) (ag23:c_->Option (Int)) (a29:Int):Option (Int):=
 ag23 ((cH .u32 a24.1 (wI .u32 (a24.1 - (1:Int)))),a29)
def cS (U:Nat) (p0:aL) (a24:dM) (ag23:c_->Option (Int)):Option (Int):=
 if a24.1≠(0:Int)then(Option.bind (fF U a24.1) fun r31=>(ck (0<=r31∧r31<(List.length p0:Int)) (if(cH .u32 (at' p0 r31) a24.2)=(0:Int)then(ck (0<=r31) (fY a24 ag23 (CU .u32 a24.2 (vN .u32 (1:Int) r31))))else(fY a24 ag23 (a24.2)))))else(jE  (a24.2))
def mF (U:Nat) (p0:aL) (a5:Int) (a15:Unit):Option (Int):=
 bD (cS U p0) U (a5,(0:Int))
def fX (U:Nat) (p0:aL) (p1:Int) (p2:Int) (a5:Int):Option (Int):=
 if p1=(1:Int)then(some (cH .u32 a5 (wI .u32 (0 - a5))))else(if p1=(2:Int)then(mF U p0 a5 (()))else(if p1=(4:Int)then(some (p2))else(some (a5))))
def cM (U:Nat) (p0:aL) (p1:Int) (p2:Int) (p3:Int):Option (Int):=
 if(cH .u32 p3 p2)=(0:Int)then(fX U p0 p1 p2 (cH .u32 p2 (wI .u32 (0 - p2))))else(fX U p0 p1 p2 (cH .u32 p3 p2))
theorem Mu:aN Tryz.prog 106:=Tryz.call106
theorem sN (U:Nat) {p0:aL} {p1:Int} {p2:Int} {p3:Int} (v0:Value) (r:Int) (h:cM U p0 p1 p2 p3=some r):
  aT Tryz.prog 106 #[v0,vI (p1),vU (p2),vU (p3)] [Sl sW v0 p0,Gb 0 (cellsOf CX rU)] (fun x:Unit=>vU (r)) (fun x l=>l) (fun _ l=>l):=by
 refine aT.of Tryz.func106 rfl Tryz.ntmps106 rfl fun c=>?_
 refine jC Jc<|sqR<|bP (Know.one ((aC.fact 0 rfl))) fun ho3=>?_
 refine aF (aJ.box (cs:=[v0]) rfl (by rw[iN ho3])) rfl fun b2=>?_
 refine qkAsg rfl<|dtN<|sqR<|qkMove rfl<|qkMove rfl<|qkAnd rfl<|qkAsg rfl<|dtN<|aH<|KR (A:=Int) (B:=Unit) (fun a5 b6=>⟨48,FD ([]:iO)⟩) (fun a5=>fX U p0 p1 p2 a5=some r) (fun a5 b6=>[(1,vI (p1)),(2,vU (p2)),(3,vU (a5)),(4,vP b2),(8,vU (0:Int))]) (fun a5 b6=>[bT b2 [v0] 104,Hw ([]:iO)]) (fun a5 b6=>[Sl sW v0 p0,Gb 0 (cellsOf CX rU)]) ?_ ?_
 ·refine sqR<|qkMove rfl<|qkEql rfl<|dtN ?_
  refine eN h rfl (fun h=>?_) fun h=>?_
  ·refine aK<|qkMove rfl<|qkMove rfl<|aB (Mj rfl) rfl<|qkAnd rfl<|qkAsg rfl<|dtN ?_
   exact En (cH .u32 p2 (wI .u32 (0 - p2))) () rfl h SF (aW.refl _) (aD.refl _ _)
  refine cF ?_
  exact En (cH .u32 p3 p2) () rfl h SF (aW.refl _) (aD.refl _ _)
 intro a5 b6 h
 refine aH<|sqR<|qkMove rfl<|dtN<|aM<|sqR<|qkEql rfl<|qkAsg rfl<|dtN ?_
 refine eN h rfl (fun h=>?_) fun h=>?_
 ·refine sqR<|qkMove rfl<|qkMove rfl<|aB (Mj rfl) rfl<|qkAnd rfl<|qkAsg rfl<|dtN<|aP<|bJ<|aG<|oE (i:=1) (Ds:=([]:iO)) (.inl rfl) rfl ?_
  cases h
  exact wG rfl
 refine sqR<|qkEql rfl<|qkAsg rfl<|dtN ?_
 refine eN h rfl (fun h=>?_) fun h=>?_
 ·refine sqR<|aF (aJ.alloc (cs:=[vU (0:Int)]) rfl rfl) rfl fun b9=>gY 0 rfl rfl rfl rfl rfl rfl<|dtN<|aH<|KR (A:=Int) (B:=iO) (fun a12 b13=>⟨48,FD b13⟩) (fun a12=>jE  a12=some r) (fun a12 b13=>[(9,vP b9)]) (fun a12 b13=>[bT b9 [vU (a12)] 26,Hw b13]) (fun a12 b13=>[Sl sW v0 p0,Gb 0 (cellsOf CX rU)]) ?_ ?_
  ·refine sqR<|qkMove rfl<|Bz (A:=Unit) (B:=Nat) (vs:=[vU (a5)]) (fun a15=>mF U p0 a5 a15=some r) (fun a15 b16=>Value.func (.func 190) #[] #[vP b16]) (fun a15 b16=>[bT b16 [vU (a5)] 26,bT b9 [vU (0:Int)] 26,bT b2 [v0] 104,Hw ([]:iO)]) (fun a15 b16=>[Sl sW v0 p0,Gb 0 (cellsOf CX rU)]) (uQ.fn (show aN Tryz.prog 152 from Tryz.call152) rfl) Tryz.func152 rfl Tryz.ntmps152 rfl rfl ?_ ?_
   ·refine sqR<|aF (aJ.box (cs:=[vU (a5)]) rfl rfl) rfl fun b37=>qkAsg rfl<|dtN<|sqR<|aB (yJ (cs:=[.tmp 1]) (vs:=[vP b37]) rfl) rfl<|qkAsg rfl<|dtN<|aP ?_
    exact wX () (b37) h (.inl rfl) (Gk.r1 rfl (RV.tmp rfl)) rfl (aW.refl _) (aD.refl _ _)
   intro a15 b16 h
   unfold mF at h
   refine dtN<|aM<|BZ (i:=3) (cs:=[vP b16]) ([]:iO) rfl (show aN Tryz.prog 190 from Tryz.call190) rfl Tryz.func190 rfl Tryz.ntmps190 rfl fun Xn D18 R19 hR20=>aM<|loopL (cS U p0) (fun a24 b25=>[(0,sP Xn),(1,vP b16)]) (fun a24 b25=>[Lp Xn R19 LoopState.ready none,bT b16 [vU (a24.1)] 26,bT b9 [vU (a24.2)] 26,bT b2 [v0] 104,Hw (List.cons D18 ([]:iO))]) (a5,(0:Int)) () h SF (aW.refl _) ?_
   intro k26 a24 b25 h
   refine aH<|sqR<|qkLd 1 rfl<|qkNeq rfl<|dtN ?_
   refine eN h rfl (fun h=>?_) fun h=>?_
   ·refine cF<|aH<|midU (fun a29=>fY a24 (bD (cS U p0) k26) a29=some r) (fun a29 b30=>[(0,sP Xn),(1,vP b16)]) (fun a29 b30=>[Lp Xn R19 LoopState.ready none,bT b16 [vU (a24.1)] 26,bT b9 [vU (a29)] 26,bT b2 [v0] 104,Hw (List.cons D18 ([]:iO))]) ?_ ?_
    ·refine aM<|sqR<|qkMove rfl<|qkLd 1 rfl<|bnE h fun r31 w32 h=>aF (aJ.callQ Lh (nA U  r31 w32) rfl (nY [1] rfl)) rfl fun x33=>IM (us:=[vI (r31)]) (i:=0) hR20 rfl rfl rfl rfl rfl rfl<|aK<|qkAsg rfl<|dtN<|Mf (i:=0) rfl<|aM<|aH ?_
     refine JR.start [0,0,3,7,0,31,63] 5 mixedOrders (by decide +kernel) ?_
     refine JR.open (by exact rfl) ?_
     refine jkLd 3 rfl<|jkMove rfl<|ckE h fun j34 h=>bH rfl .nil (qF 0 rfl) (aY rfl rfl (aC.fact 0 rfl) rfl rfl j34) aO.z<|bH rfl .nil (qF 0 rfl) (bY rfl (aC.fact 0 rfl) rfl rfl rfl zV j34) aO.z<|jkLd 2 rfl<|bS 5 rfl rfl<|qkAnd rfl<|qkEql rfl<|dtN ?_
     refine eN h rfl (fun h=>?_) fun h=>?_
     ·refine JR.start [0,0,2,7,15] 3 mixedOrders (by decide +kernel) ?_
      refine JR.open (by exact rfl) ?_
      refine jkLd 2 rfl<|jkMove rfl<|ckE h fun j36 h=>jqN rfl (EV rfl rfl j36)<|bS 3 rfl rfl<|aB (Lb rfl rfl) rfl<|gY 2 rfl rfl rfl rfl rfl rfl<|dA<|Pn<|EM (i:=0) rfl<|aB (wO rfl) rfl<|dtN<|El rfl<|dO<|inT ?_
      exact iG (CU .u32 a24.2 (vN .u32 (1:Int) r31)) () h SF rfl
     refine dO<|Pn<|EM (i:=0) rfl<|aB (wO rfl) rfl<|dtN<|El rfl<|dO<|inT ?_
     exact iG (a24.2) () h SF rfl
    intro a29 b30 h
    unfold fY at h
    refine aK<|qkLd 1 rfl<|qkLd 1 rfl<|aB (nW rfl rfl) rfl<|qkAnd rfl<|gY 1 rfl rfl rfl rfl rfl rfl<|dtN ?_
    exact xO ((cH .u32 a24.1 (wI .u32 (a24.1 - (1:Int)))),a29) () h SF rfl
   refine rE<|eS<|eS<|vJ<|Pr (i:=0) (.inr rfl) rfl (Gk.r0 rfl)<|inT ?_
   exact En (a24.2) (List.cons D18 ([]:iO)) rfl h SF (aW.ix [2,4] rfl rfl) (aD.refl _ _)
  intro a12 b13 h
  unfold jE at h
  refine sqR<|qkLd 0 rfl<|qkAsg rfl<|dtN<|aP<|bJ<|aG<|oE (i:=1) (Ds:=(b13)) (.inl rfl) rfl ?_
  cases h
  exact wG rfl
 refine sqR<|qkEql rfl<|qkAsg rfl<|dtN ?_
 refine eN h rfl (fun h=>?_) fun h=>?_
 ·refine sqR<|qkMove rfl<|qkAsg rfl<|dtN<|aP<|bJ<|aG<|oE (i:=1) (Ds:=([]:iO)) (.inl rfl) rfl ?_
  cases h
  exact wG rfl
 refine dO<|inT<|sqR<|qkMove rfl<|qkAsg rfl<|dtN<|aP<|oE (i:=1) (Ds:=([]:iO)) (.inl rfl) rfl ?_
 cases h
 exact wG rfl
end
end Go.Proofs.YtjlbcgddhnjcjaaGreatDoor
end
section
set_option maxRecDepth 100000
namespace Go.Gx
open Go Go.Sx Go.Proofs Go.Proofs.YtjlbcgddhnjcjaaGreatDoor
noncomputable section
def Yh (us:List GV) (H:GH):OR:=a1 us fun x0=>ob (Qq H x0) fun p0=>ob (e_ 1000 p0) fun r=>Rv r H
def Yg (us:List GV) (H:GH):OR:=a2 us fun x0 x1=>ob (XY H x0) fun p0=>ob (TY .i64 x1) fun p1=>ob (kE 1000 p0 p1) fun r=>LJ r H
def Vg (us:List GV) (H:GH):OR:=a4 us fun x0 x1 x2 x3=>ob (Qs H x0) fun p0=>ob (TY .i64 x1) fun p1=>ob (TY .u32 x2) fun p2=>ob (TY .u32 x3) fun p3=>ob (dY 1000 p0 p1 p2 p3) fun r=>Rv r H
def Vf (us:List GV) (H:GH):OR:=a4 us fun x0 x1 x2 x3=>ob (Qs H x0) fun p0=>ob (TY .i64 x1) fun p1=>ob (TY .u32 x2) fun p2=>ob (TY .u32 x3) fun p3=>ob (cM 1000 p0 p1 p2 p3) fun r=>some (.int .u32 r,H)
def QO (f:Nat) (us:List GV) (H:GH):Option (GV×GH):=bif Nat.beq f 54 then Yh us H else bif Nat.beq f 52 then Yg us H else bif Nat.beq f 149 then Vg us H else bif Nat.beq f 106 then Vf us H else none
abbrev gl:Nat->tX:=glb 0 (cellsOf CX rU)
def gp:GP:=⟨rR,83,QO,QN 237⟩
section
variable {T:Nat} {w0:cV (gl T)} {w:World} {ρ:cK} {H H':GH} {g:GV} {us:List GV} {vs:List Value}
theorem Un (h:Yh us H=some (g,H')) (R:dR w0 ρ H w) (hr:lR ρ us vs):iP Tryz.prog w0 ρ 54 vs w g H':=by
 obtain⟨x0,rfl,h⟩:=Mm h
 obtain⟨p0,hp0,h⟩:=aA.1 h
 obtain⟨r,hm,h⟩:=aA.1 h
 obtain⟨V0,rfl,hv0⟩:=hr.one
 obtain⟨w0a,w0b,z0,rfl,f0a,f0b⟩:=Og R hv0 hp0
 obtain⟨rfl,rfl⟩:=FM h
 exact BK HO (tV 1000 (p0:=p0) w0a w0b z0 r hm) R (List.forall_mem_cons.2 ⟨f0a,List.forall_mem_cons.2 ⟨f0b,fun f hf=>absurd hf List.not_mem_nil⟩⟩) fun ρ=> .bool _
theorem Um (h:Yg us H=some (g,H')) (R:dR w0 ρ H w) (hr:lR ρ us vs):iP Tryz.prog w0 ρ 52 vs w g H':=by
 obtain⟨x0,x1,rfl,h⟩:=Mn h
 obtain⟨p0,hp0,h⟩:=aA.1 h
 obtain⟨p1,hp1,h⟩:=aA.1 h
 obtain⟨r,hm,h⟩:=aA.1 h
 obtain⟨V0,vs,rfl,hv0,hr⟩:=hr.of_cons
 obtain⟨V1,rfl,hv1⟩:=hr.one
 obtain⟨w0a,w0b,w0c,rfl,f0a,f0b,f0c⟩:=TX R hv0 hp0
 obtain rfl:=Ae hv1 hp1
 obtain⟨h1,h2,h3,rfl,rfl⟩:=JN h
 exact Lw Ya Yb h1 h2 h3 Qa (wA 1000 (p0:=p0) (p1:=p1) w0a w0b w0c r hm) R (List.forall_mem_cons.2 ⟨f0a,List.forall_mem_cons.2 ⟨f0b,List.forall_mem_cons.2 ⟨f0c,fun f hf=>absurd hf List.not_mem_nil⟩⟩⟩)
theorem QU (h:Vg us H=some (g,H')) (R:dR w0 ρ H w) (hr:lR ρ us vs):iP Tryz.prog w0 ρ 149 vs w g H':=by
 obtain⟨x0,x1,x2,x3,rfl,h⟩:=HF h
 obtain⟨p0,hp0,h⟩:=aA.1 h
 obtain⟨p1,hp1,h⟩:=aA.1 h
 obtain⟨p2,hp2,h⟩:=aA.1 h
 obtain⟨p3,hp3,h⟩:=aA.1 h
 obtain⟨r,hm,h⟩:=aA.1 h
 obtain⟨V0,vs,rfl,hv0,hr⟩:=hr.of_cons
 obtain⟨V1,vs,rfl,hv1,hr⟩:=hr.of_cons
 obtain⟨V2,vs,rfl,hv2,hr⟩:=hr.of_cons
 obtain⟨V3,rfl,hv3⟩:=hr.one
 have f0:=Jw R hv0 hp0
 obtain rfl:=Ae hv1 hp1
 obtain rfl:=Ae hv2 hp2
 obtain rfl:=Ae hv3 hp3
 obtain⟨rfl,rfl⟩:=FM h
 exact BK Mz (sM 1000 (p0:=p0) (p1:=p1) (p2:=p2) (p3:=p3) V0 r hm) R (List.forall_mem_cons.2 ⟨f0,List.forall_mem_cons.2 ⟨R.glb,fun f hf=>absurd hf List.not_mem_nil⟩⟩) fun ρ=> .bool _
theorem QT (h:Vf us H=some (g,H')) (R:dR w0 ρ H w) (hr:lR ρ us vs):iP Tryz.prog w0 ρ 106 vs w g H':=by
 obtain⟨x0,x1,x2,x3,rfl,h⟩:=HF h
 obtain⟨p0,hp0,h⟩:=aA.1 h
 obtain⟨p1,hp1,h⟩:=aA.1 h
 obtain⟨p2,hp2,h⟩:=aA.1 h
 obtain⟨p3,hp3,h⟩:=aA.1 h
 obtain⟨r,hm,h⟩:=aA.1 h
 obtain⟨V0,vs,rfl,hv0,hr⟩:=hr.of_cons
 obtain⟨V1,vs,rfl,hv1,hr⟩:=hr.of_cons
 obtain⟨V2,vs,rfl,hv2,hr⟩:=hr.of_cons
 obtain⟨V3,rfl,hv3⟩:=hr.one
 have f0:=Jw R hv0 hp0
 obtain rfl:=Ae hv1 hp1
 obtain rfl:=Ae hv2 hp2
 obtain rfl:=Ae hv3 hp3
 cases h
 exact BK Mu (sN 1000 (p0:=p0) (p1:=p1) (p2:=p2) (p3:=p3) V0 r hm) R (List.forall_mem_cons.2 ⟨f0,List.forall_mem_cons.2 ⟨R.glb,fun f hf=>absurd hf List.not_mem_nil⟩⟩) fun ρ=> .int _ _
theorem HY {f:Nat} (h:QO f us H=some (g,H')) (R:dR w0 ρ H w) (hr:lR ρ us vs):iP Tryz.prog w0 ρ f vs w g H':=by
 unfold QO at h
 cases e0:Nat.beq f 54 with
 |true=>rw[e0]at h;rw[Nat.eq_of_beq_eq_true e0];exact Un h R hr
 |false=>
 rw[e0]at h
 cases e1:Nat.beq f 52 with
 |true=>rw[e1]at h;rw[Nat.eq_of_beq_eq_true e1];exact Um h R hr
 |false=>
 rw[e1]at h
 cases e2:Nat.beq f 149 with
 |true=>rw[e2]at h;rw[Nat.eq_of_beq_eq_true e2];exact QU h R hr
 |false=>
 rw[e2]at h
 cases e3:Nat.beq f 106 with
 |true=>rw[e3]at h;rw[Nat.eq_of_beq_eq_true e3];exact QT h R hr
 |false=>
 rw[e3]at h
 cases h
end
theorem Ws:X_ Tryz.prog rR=true:=by kernel_rfl
theorem EG:dK Tryz.prog rR:=⟨Ks,Wr Ws⟩
theorem WP {gs:tX} (w0:cV gs):oB Tryz.prog w0 (GM rR 121 Tryz.f121):=Qi EG mixedOrders Tryz.func121 Tryz.call121 (by kernel_rfl)
theorem Wl (args:Array Value) (w:World) (hs:args.size=2):CallsDIn (FR none) 0 Tryz.prog 120 args .returning w fun e u' w'=>∃v,e = .returned v∧u' = .returning∧Hy w w':=by
 obtain⟨out,h,he⟩:=Rx (r:=Bh rR (GM rR 121 Tryz.f121) (HP Tryz.f120) (Ub rR (GM rR 121 Tryz.f121) (fun _ _ _ _=>none) (Qg Tryz.f120) 0 ⟨[],0,[]⟩ (CC [])) (HP Tryz.f120).tail ⟨[(TW Tryz.f120,.inil)],H0⟩) (by kernel_rfl)
 exact N_ (ch:=GM rR 121 Tryz.f121) (lp:=fun _ _ _ _=>none) EG mixedOrders WP DT Tryz.func120 rfl rfl rfl (by decide +kernel) (fun ρ w=>by simp[execOp,resolve,invoke,builtin]) (by kernel_rfl) (by kernel_rfl) rfl (by rw[hs];decide +kernel) h he
theorem Yc {gs:tX} {ext:FuncId->List GV->GH->Option (GV×GH)} (hx:∀(w0:cV gs) {f us H g H'},ext f us H=some (g,H')->∀ρ w vs,dR w0 ρ H w->lR ρ us vs->iP Tryz.prog w0 ρ f vs w g H') (w0:cV gs):NK Tryz.prog ⟨rR,83,ext,QN 237⟩ Dt.fns w0:=by
 refine⟨EG,mixedOrders,fun h=> ?_,hx w0,fun h ρ w vs H R hr=>Uh Tryz.func237 rfl rfl rfl rfl h ρ w vs H R hr,fun R hc h1 h2=> ?_⟩
 ·obtain⟨e,he,h⟩:=aA.1 (show ob (Nn _) _=some _ from h)
  cases h
  obtain⟨q1,q2,q3⟩:=RQ he
  exact⟨q1,q2,JO q3⟩
 ·exact We (tb:=rR) (T1:=3) (T2:=44) (cc:=120) EG Tryz.func83 Tryz.call83 Tryz.call120 rfl rfl rfl (Ms (by kernel_rfl)) (Ms (by kernel_rfl)) (Nv rfl rfl) (Nv rfl rfl) (Re rfl rfl) (Re rfl rfl) Wl R hc h1 h2
theorem QQ {T:Nat} (w0:cV (gl T)):NK Tryz.prog gp Dt.fns w0:=Yc (fun w0 f us H g H' h ρ w vs R hr=>HY h R hr) w0
def gp0:GP:=⟨rR,83,fun _ _ _=>none,QN 237⟩
theorem abh (w0:cV WN):NK Tryz.prog gp0 Dt.fns w0:=Yc (fun w0 f us H g H' h=>by cases h) w0
end
end Go.Gx
end
section
namespace Go.Gx
open Go Go.Sx Go.RowKit
mutual
def CI (k:Nat):GV->GV
 | .ptr h o=> .ptr (k+h) o
 | .sl h o l s=> .sl (k+h) o l s
 | .map h=> .map (k+h)
 | .fn f a b=> .fn f (Pa k a) (Pa k b)
 | .agg cs=> .agg (Pa k cs)
 | .tup vs=> .tup (Pa k vs)
 | .int a b=> .int a b
 | .bool b=> .bool b
 | .str a b=> .str a b
 | .pnil=> .pnil
 | .snil=> .snil
 | .fnil=> .fnil
 | .inil=> .inil
 | .un=> .un
 | .bad=> .bad
 | .opn h=> .opn (k+h)
def Pa (k:Nat):List GV->List GV
 | []=>[]
 |v::r=>CI k v::Pa k r
end
theorem Iq (k:Nat):∀(l:List GV) (i:Nat),(Pa k l)[i]? = (l[i]?).map (CI k)
 | [],i=>rfl
 |v::r,0=>rfl
 |v::r,i+1=>by simpa [Pa]using Iq k r i
theorem AU (k:Nat):∀(l:List GV),(Pa k l).length=l.length
 | []=>rfl
 |v::r=>by simp[Pa,AU k r]
def SH (k:Nat):GO->GO
 | .cells cs=> .cells (Pa k cs)
 | .mp es=> .mp (es.map fun e=>(CI k e.1,CI k e.2))
def vY (k:Nat) (l:GE):GE:={l with o:=SH k l.o}
theorem Rl.shift {ρ ρ':cK} {k:Nat} (hρ:∀h l,ρ h=some l->ρ' (k+h)=some (vY k l)) {g:GV} {v:Value} (h:Rl ρ g v):Rl ρ' (CI k g) v:=by
 have lst:∀{us:List GV} {us':fP},(∀(i:Nat) g v,us[i]? = some g->us'[i]? = some v->Rl ρ' (CI k g) v)->∀(i:Nat) g v,(Pa k us)[i]? = some g->us'[i]? = some v->Rl ρ' g v:=by
  intro us us' hh i g v hg hv
  rw[Iq]at hg
  obtain⟨g0,h0,rfl⟩:=Option.map_eq_some_iff.1 hg
  exact hh i g0 v h0 hv
 induction h with
 |int a n=>simp only[CI];exact .int a n
 |bool b=>simp only[CI];exact .bool b
 |str s=>simp only[CI];exact .str s
 |ptr off h=>simp only[CI];exact .ptr (l:=vY k _) off (hρ _ _ h)
 |pnil=>simp only[CI];exact .pnil
 |sl h hc ha=>simp only[CI];exact .sl (l:=vY k _) (hρ _ _ h) hc ha
 |snil=>simp only[CI];exact .snil
 |map h=>simp only[CI];exact .map (l:=vY k _) (hρ _ _ h)
 |fn f h1 h2 h3 h4 ih2 ih4=>simp only[CI];exact .fn f (by rw[AU];exact h1) (lst ih2) (by rw[AU];exact h3) (lst ih4)
 |fnil=>simp only[CI];exact .fnil
 |inil=>simp only[CI];exact .inil
 |agg h1 h2 h3 ih=>simp only[CI];exact .agg (by rw[AU];exact h1) (lst ih) h3
 |tup h1 h2 ih=>simp only[CI];exact .tup (by rw[AU];exact h1) (lst ih)
 |un=>simp only[CI];exact .un
 |bad v=>simp only[CI];exact .bad v
 |opn v h hx=>simp only[CI];exact .opn (l:=vY k _) v (hρ _ _ h) hx

abbrev OL:=List (Nat×Nat×GO)
def O_:OL->Nat->Option (Nat×GO)
 | [],_=>none
 |x::r,h=>if h=x.1 then some x.2 else O_ r h
theorem Ic {os:OL} {h:Nat} {p:Nat×GO} (hl:O_ os h=some p):(h,p)∈os:=by
 induction os with
 |nil=>cases hl
 |cons x r ih=>
  simp only[O_]at hl
  split at hl
  ·rename_i e;cases hl;subst e;exact List.mem_cons_self
  ·exact List.mem_cons_of_mem _ (ih hl)
noncomputable def JW (k:Nat) (t:Tr (Nat×GO)):OL->Tr (Nat×GO)
 | []=>t
 |x::r=>(JW k t r).set (some (k+x.2.1,SH k x.2.2)) (k+x.1)
noncomputable def UD:OL->Tr (Nat×GO)
 | []=> .lf
 |x::r=>(UD r).set (some x.2) x.1
theorem Am:∀(os:OL) (h:Nat),(UD os).get h=O_ os h
 | [],h=>rfl
 |x::r,h=>by
  show((UD r).set (some x.2) x.1).get h=_
  rw[oH]
  simp only[O_]
  split
  ·rfl
  ·exact Am r h
theorem FP (k:Nat) (t:Tr (Nat×GO)):∀(os:OL) (h:Nat),(JW k t os).get h=if k<=h then(match O_ os (h - k)with|some p=>some (k+p.1,SH k p.2)|none=>t.get h)else t.get h
 | [],h=>by simp[JW,O_]
 | x :: r, h => by
  show((JW k t r).set (some (k+x.2.1,SH k x.2.2)) (k+x.1)).get h=_
  rw[oH,FP k t r h]
  by_cases e:h=k+x.1
  ·subst e
   rw[if_pos rfl,if_pos (by omega)]
   simp[O_]
  ·rw[if_neg e]
   by_cases hk:k<=h
   ·rw[if_pos hk,if_pos hk]
    simp only[O_]
    rw[if_neg (show¬h - k=x.1 by omega)]
   ·rw[if_neg hk,if_neg hk]
noncomputable def EC (n:Nat) (os:OL):GH:=⟨n,UD os⟩
noncomputable def GH.load (H:GH) (n:Nat) (os:OL):GH:=⟨H.n+n,JW H.n H.t os⟩
section
variable {gs:tX} {w0:cV gs} {w w':World} {ρ ρ2:cK} {H:GH} {n:Nat} {os:OL}
theorem eT {H:GH} {h:Nat} {o:GO}:H.get h=some o↔∃v,H.t.get h=some (v,o):=by
 unfold GH.get
 cases hh:H.t.get h with
 |none=>simp[ob]
 |some p=>obtain⟨a,b⟩:=p;simp[ob]
theorem oD {H:GH} {h v:Nat}:H.ver h=some v↔∃o,H.t.get h=some (v,o):=by
 unfold GH.ver
 cases hh:H.t.get h with
 |none=>simp[ob]
 |some p=>obtain⟨a,b⟩:=p;simp[ob]
theorem dR.sub {H2:GH} (R:dR w0 ρ H w) (hn:H2.n=H.n) (hs:∀h p,H2.t.get h=some p->H.t.get h=some p):dR w0 ρ H2 w:=by
 have g:∀h o,H2.get h=some o->H.get h=some o:=fun h o hg=>by
  obtain⟨v,hv⟩:=eT.1 hg
  exact eT.2 ⟨v,hs _ _ hv⟩
 refine⟨R.ext,fun h o hg=>R.live h o (g h o hg),fun h h' o o' l l' h1 h2=>R.inj h h' o o' l l' (g _ _ h1) (g _ _ h2),fun h hh=>R.fresh h (by omega),fun h hh=>R.dense h (by omega),fun h v l hv hl=> ?_,R.env⟩
 obtain⟨o,ho⟩:=oD.1 hv
 obtain⟨lv,a,b,c⟩:=R.vers h v l (oD.2 ⟨o,hs _ _ ho⟩) hl
 refine⟨lv,a,b,?_⟩
 have h1:=eT.2 ⟨v,ho⟩
 have h2:=g _ _ h1
 rw[c]at h2;cases h2;exact h1
theorem sR.shift {l:GE} {o:GO} {ρ':cK} {k:Nat} (hρ:∀h l,ρ2 h=some l->ρ' (k+h)=some (vY k l)) (h:sR ρ2 w l o):sR ρ' w (vY k l) (SH k o):=by
 cases o with
 |cells cs=>
  obtain⟨cur,T,h1,h2,h3,h4⟩:=h
  refine⟨cur,T,h1,h2,by rw[AU];exact h3,fun i g hg=> ?_⟩
  rw[Iq]at hg
  obtain⟨g0,h0,rfl⟩:=Option.map_eq_some_iff.1 hg
  obtain⟨v,a,b,c⟩:=h4 i g0 h0
  exact⟨v,a,b.shift hρ,c⟩
 |mp es=>
  obtain⟨en,cl,h1,h2,h3⟩:=h
  refine⟨en,cl,h1,by simpa [SH]using h2,fun i g hg=> ?_⟩
  rw[List.getElem?_map]at hg
  obtain⟨g0,h0,rfl⟩:=Option.map_eq_some_iff.1 hg
  obtain⟨m,a,b,c⟩:=h3 i g0 h0
  exact⟨m,a,b.shift hρ,c.shift hρ⟩
theorem dR.join {gs2:tX} {hb:DF gs2 w fun _=>False} (R:dR w0 ρ H w) (R2:dR (cV.of w hb) ρ2 (EC n os) w'):
  ∃ρ':cK,ρ.le ρ'∧dR w0 ρ' (H.load n os) w'∧∀g v,Rl ρ2 g v->Rl ρ' (CI H.n g) v:=by
 let ρ':cK:=fun h=>if h<H.n then ρ h else(ρ2 (h - H.n)).map (vY H.n)
 have hle:ρ.le ρ':=fun h l hl=>by
  have hlt:h<H.n:=by
   rcases Nat.lt_or_ge h H.n with q|q
   ·exact q
   ·rw[R.fresh h q]at hl;cases hl
  show(if h<H.n then ρ h else _)=_
  rw[if_pos hlt];exact hl
 have hsh:∀h l,ρ2 h=some l->ρ' (H.n+h)=some (vY H.n l):=fun h l hl=>by
  show(if H.n+h<H.n then _ else _)=_
  rw[if_neg (by omega),show H.n+h - H.n=h by omega,hl];rfl
 have hlow:∀h,h<H.n->ρ' h=ρ h:=fun h hh=>by show(if h<H.n then ρ h else _)=_;rw[if_pos hh]
 have hhigh:∀h,H.n<=h->ρ' h=(ρ2 (h - H.n)).map (vY H.n):=fun h hh=>by show(if h<H.n then ρ h else _)=_;rw[if_neg (by omega)]
 have hnone:∀h,H.n<=h->H.t.get h=none:=fun h hh=>by
  cases hg:H.t.get h with
  |none=>rfl
  |some p=>exact absurd (R.lt (eT.2 ⟨p.1,hg⟩)) (by omega)
 have gl:∀h,h<H.n->(H.load n os).t.get h=H.t.get h:=fun h hh=>by
  show(JW H.n H.t os).get h=_
  rw[FP,if_neg (by omega)]
 have gh:∀h p,H.n<=h->(H.load n os).t.get h=some p->∃p2,(EC n os).t.get (h - H.n)=some p2∧p=(H.n+p2.1,SH H.n p2.2):=fun h p hh hp=>by
  have hp':(JW H.n H.t os).get h=some p:=hp
  rw[FP,if_pos hh,hnone h hh]at hp'
  cases hk:O_ os (h - H.n)with
  |none=>rw[hk]at hp';cases hp'
  |some p2=>rw[hk]at hp';cases hp';exact⟨p2,(Am os _).trans hk,rfl⟩
 have e2:Hy w w':=R2.ext.ext
 have mine2:∀l:GE,(cV.of w hb).mine l.b->w.heap.size<=l.b:=fun l h=>by
  rcases h with h|h
  ·exact h
  ·exact h.elim
 have liveL:∀h o,h<H.n->(H.load n os).get h=some o->∃l,ρ h=some l∧w0.mine l.b∧sR ρ w l o∧H.get h=some o:=fun h o hh hg=>by
  obtain⟨v,hv⟩:=eT.1 hg
  rw[gl h hh]at hv
  have hg':=eT.2 ⟨v,hv⟩
  obtain⟨l,a,b,c⟩:=R.live h o hg'
  exact⟨l,a,b,c,hg'⟩
 have liveH:∀h o,H.n<=h->(H.load n os).get h=some o->∃l o2,ρ2 (h - H.n)=some l∧w.heap.size<=l.b∧sR ρ2 w' l o2∧o=SH H.n o2∧(EC n os).get (h - H.n)=some o2:=fun h o hh hg=>by
  obtain⟨v,hv⟩:=eT.1 hg
  obtain⟨p2,h2,e⟩:=gh h _ hh hv
  cases e
  have hg':(EC n os).get (h - H.n)=some p2.2:=eT.2 ⟨p2.1,h2⟩
  obtain⟨l,a,b,c⟩:=R2.live _ _ hg'
  exact⟨l,p2.2,a,mine2 l b,c,rfl,hg'⟩
 refine⟨ρ',hle,⟨R.ext.trans e2,fun h o hg=> ?_,fun h h' o o' l l' h1 h2 hl hl' hbb=> ?_,fun h hh=> ?_,fun h hh=> ?_,fun h v l hv hl=> ?_,fun i v e=>let ⟨l,a,b⟩:=R.env i v e;⟨l,hle _ _ a,b⟩⟩,fun g v hg=>hg.shift hsh⟩
 ·rcases Nat.lt_or_ge h H.n with q|q
  ·obtain⟨l,a,b,c,_⟩:=liveL h o q hg
   exact⟨l,by rw[hlow h q];exact a,b,c.move hle (e2.block _ c.lt)⟩
  ·obtain⟨l,o2,a,b,c,rfl,_⟩:=liveH h o q hg
   exact⟨vY H.n l,by rw[hhigh h q,a];rfl,.inl (Nat.le_trans R.ext.size b),c.shift hsh⟩
 ·rcases Nat.lt_or_ge h H.n with q|q<;>rcases Nat.lt_or_ge h' H.n with q'|q'
  ·obtain⟨l1,a1,_,_,g1⟩:=liveL h o q h1
   obtain⟨l2,a2,_,_,g2⟩:=liveL h' o' q' h2
   rw[hlow h q,a1]at hl;rw[hlow h' q',a2]at hl'
   cases hl;cases hl'
   exact R.inj h h' o o' _ _ g1 g2 a1 a2 hbb
  ·obtain⟨l1,a1,_,c1,g1⟩:=liveL h o q h1
   obtain⟨l2,o2,a2,b2,_,rfl,g2⟩:=liveH h' o' q' h2
   rw[hlow h q,a1]at hl;rw[hhigh h' q',a2]at hl'
   cases hl;cases hl'
   have:=c1.lt
   simp only[vY]at hbb
   omega
  ·obtain⟨l1,o1,a1,b1,_,rfl,g1⟩:=liveH h o q h1
   obtain⟨l2,a2,_,c2,g2⟩:=liveL h' o' q' h2
   rw[hhigh h q,a1]at hl;rw[hlow h' q',a2]at hl'
   cases hl;cases hl'
   have:=c2.lt
   simp only[vY]at hbb
   omega
  ·obtain⟨l1,o1,a1,b1,_,rfl,g1⟩:=liveH h o q h1
   obtain⟨l2,o2,a2,b2,_,rfl,g2⟩:=liveH h' o' q' h2
   rw[hhigh h q,a1]at hl;rw[hhigh h' q',a2]at hl'
   cases hl;cases hl'
   have:=R2.inj _ _ _ _ _ _ g1 g2 a1 a2 hbb
   omega
 ·have hh':H.n+n<=h:=hh
  rw[hhigh h (by omega),R2.fresh (h - H.n) (by show n<=_;omega)];rfl
 ·have hh':h<H.n+n:=hh
  rcases Nat.lt_or_ge h H.n with q|q
  ·obtain⟨l,hl⟩:=R.dense h q
   exact⟨l,by rw[hlow h q];exact hl⟩
  ·obtain⟨l,hl⟩:=R2.dense (h - H.n) (by show _<n;omega)
   exact⟨vY H.n l,by rw[hhigh h q,hl];rfl⟩
 ·obtain⟨o,ho⟩:=oD.1 hv
  rcases Nat.lt_or_ge h H.n with q|q
  ·rw[gl h q]at ho
   rw[hlow h q]at hl
   obtain⟨lv,a,b,c⟩:=R.vers h v l (oD.2 ⟨o,ho⟩) hl
   have hg:=eT.2 ⟨v,ho⟩
   obtain⟨l',hl',_,ck⟩:=R.live h o hg
   rw[hl]at hl';cases hl'
   refine⟨lv,hle _ _ a,by rw[e2.block _ ck.lt];exact b,?_⟩
   obtain⟨v2,hv2⟩:=eT.1 c
   exact eT.2 ⟨v2,by rw[gl h q];exact hv2⟩
  ·obtain⟨p2,h2,e⟩:=gh h _ q ho
   cases e
   rw[hhigh h q]at hl
   obtain⟨l2,hl2,rfl⟩:=Option.map_eq_some_iff.1 hl
   obtain⟨lv,a,b,c⟩:=R2.vers (h - H.n) p2.1 l2 (oD.2 ⟨p2.2,h2⟩) hl2
   refine⟨vY H.n lv,hsh _ _ a,b,?_⟩
   have h3:(EC n os).get (h - H.n)=some p2.2:=eT.2 ⟨p2.1,h2⟩
   rw[c]at h3
   have h4:=Option.some.inj h3
   exact eT.2 ⟨_,by rw[ho,<-h4];rfl⟩
end

theorem QA {a b:Nat×Nat} (h:KI a b=true):a=b:=by
 obtain⟨a1,a2⟩:=a
 obtain⟨b1,b2⟩:=b
 unfold KI at h
 cases h2:Nat.beq a2 b2 with
 |false=>simp[h2]at h
 |true=>
  simp only[h2,cond_true]at h
  rw[Nat.eq_of_beq_eq_true h,Nat.eq_of_beq_eq_true h2]
theorem LR {ρ:cK} {n l:Nat} {x:ByteArray} (e1:n=jB (aX x)) (e2:l=(aX x).length):Rl ρ (.str n l) (.string x):=by
 rw[e1,e2];exact .str x
def Wy (us:List GV) (p:Nat×Nat):Bool:=List.casesOn (motive:=fun _=>Bool) us false fun u r=>List.casesOn (motive:=fun _=>Bool) r (Option.casesOn (motive:=fun _=>Bool) (GV.asStr u) false fun s=>KI s p) fun _ _=>false
theorem QW {us:List GV} {p:Nat×Nat} (h:Wy us p=true):us=[.str p.1 p.2]:=by
 cases us with
 |nil=>cases h
 | cons u r =>
  cases r with
  |cons _ _=>cases h
  | nil =>
   cases hu:GV.asStr u with
   |none=>simp[Wy,hu]at h
   |some s=>
    have:KI s p=true:=by simpa [Wy,hu]using h
    rw[mG hu,QA this]
noncomputable section
def RG (H:GH) (hs:List Nat):Option OL:=List.rec (motive:=fun _=>Option OL) (some []) (fun h _ ih=>ob (H.t.get h) fun p=>ob ih fun r=>some ((h,p.1,p.2)::r)) hs
theorem Dq {H:GH}:∀{hs:List Nat} {os:OL},RG H hs=some os->∀x∈os,H.t.get x.1=some x.2
 | [],os,h,x,hx=>by cases h;cases hx
 |h0::hs,os,h,x,hx=>by
  obtain⟨p,hp,h⟩:=aA.1 (show ob (H.t.get h0) (fun p=>ob (RG H hs) fun r=>some ((h0,p.1,p.2)::r))=some os from h)
  obtain⟨r,hr,h⟩:=aA.1 h
  cases h
  rcases List.mem_cons.1 hx with rfl|hx
  ·exact hp
  ·exact Dq hr x hx
def M_ (T:Cd) (G:GP) (fuel f:Nat) (us:List GV) (hs:List Nat):Option (GV×Nat×OL):=ob (Fc T G fuel f us H0) fun r=>ob (RG r.2 hs) fun os=>some (r.1,r.2.n,os)
def Yv {R:Type} (k:Nat) (v:GV) (f:GV->R):R:=GV.casesOn (motive_1:=fun _=>R) v (fun a b=>f (.int a b)) (fun b=>f (.bool b)) (fun a b=>f (.str a b)) (fun h o=>sn (Nat.add k h) fun h=>f (.ptr h o)) (f .pnil) (fun h o l s=>sn (Nat.add k h) fun h=>f (.sl h o l s)) (f .snil) (fun h=>sn (Nat.add k h) fun h=>f (.map h)) (fun a b c=>f (CI k (.fn a b c))) (f .fnil) (f .inil) (fun cs=>f (CI k (.agg cs))) (fun vs=>f (CI k (.tup vs))) (f .un) (f .bad) (fun h=>sn (Nat.add k h) fun h=>f (.opn h))
theorem RZ {R:Type} (k:Nat) (v:GV) (f:GV->R):Yv k v f=f (CI k v):=by
 cases v<;>simp[Yv,rP,CI]
def WW {R:Type} (k:Nat) (l:List GV):(List GV->R)->R:=List.rec (motive:=fun _=>(List GV->R)->R) (fun f=>f []) (fun x _ ih f=>Yv k x fun y=>ih fun r=>f (y::r)) l
theorem Nt {R:Type} (k:Nat):∀(l:List GV) (f:List GV->R),WW k l f=f (Pa k l)
 | [],f=>rfl
 |x::l,f=>by
  show Yv k x (fun y=>WW k l fun r=>f (y::r))=_
  rw[RZ,Nt k l];rfl
def WX {R:Type} (k:Nat) (o:GO) (f:GO->R):R:=GO.casesOn (motive:=fun _=>R) o (fun cs=>WW k cs fun cs=>f (.cells cs)) (fun es=>f (SH k (.mp es)))
theorem UK {R:Type} (k:Nat) (o:GO) (f:GO->R):WX k o f=f (SH k o):=by
 cases o with
 |cells cs=>exact Nt k cs _
 |mp es=>rfl
def WO {R:Type} (k:Nat) (t:Tr (Nat×GO)) (os:OL):(Tr (Nat×GO)->R)->R:=List.rec (motive:=fun _=>(Tr (Nat×GO)->R)->R) (fun f=>f t) (fun x _ ih f=>ih fun t=>sn (Nat.add k x.2.1) fun v=>sn (Nat.add k x.1) fun h=>WX k x.2.2 fun o=>t.setK (some (v,o)) h f) os
theorem Nk {R:Type} (k:Nat) (t:Tr (Nat×GO)):∀(os:OL) (f:Tr (Nat×GO)->R),WO k t os f=f (JW k t os)
 | [],f=>rfl
 |x::os,f=>by
  show WO k t os (fun t=>sn (Nat.add k x.2.1) fun v=>sn (Nat.add k x.1) fun h=>WX k x.2.2 fun o=>t.setK (some (v,o)) h f)=_
  rw[Nk k t os]
  simp only[rP,UK,yG];rfl
def JG (g:GV) (n:Nat) (os:OL) (H:GH):Option (GV×GH):=sn H.n fun k=>Yv k g fun g=>WO k H.t os fun t=>sn (Nat.add k n) fun m=>some (g,⟨m,t⟩)
theorem Rj (g:GV) (n:Nat) (os:OL) (H:GH):JG g n os H=some (CI H.n g,H.load n os):=by
 unfold JG
 simp only[rP,RZ,Nk];rfl
theorem Na {P:Program} {T:Cd} {G:GP} {gs gs2:tX} (hobs:gs2.obs=gs.obs) (henv:gs2.env=[]) (hT:EQ T G.tab) (hG:∀w0:cV gs2,NK P G T.fns w0) {fuel f n:Nat} {us:List GV} {vs:List Value} {hs:List Nat} {g:GV} {os:OL} (hm:M_ T G fuel f us hs=some (g,n,os)) (hb:aN P f)
  {w0:cV gs} {w:World} {ρ:cK} {H H':GH} {g':GV} (hv:lR (fun _=>none) us vs) (h:JG g n os H=some (g',H')) (R:dR w0 ρ H w):iP P w0 ρ f vs w g' H':=by
 rw[Rj]at h;cases h
 obtain⟨r,hr,hm⟩:=aA.1 (show ob (Fc T G fuel f us H0) _=some (g,n,os)from hm)
 obtain⟨os',hos,hm⟩:=aA.1 hm
 cases hm
 rw[Ch hT]at hr
 have hgl:DF gs2 w fun _=>False:=fun p hp=>⟨(R.glo p (hobs▸hp)).1,id⟩
 rcases Cg hG (H':=r.2) (g:=r.1) hr (dR.start (cV.of w hgl) henv) hv with⟨v,w',ρ',hr',_⟩|⟨_,hc⟩
 ·have:=hb vs.toArray w
  rw[show(cV.of w hgl).w=w from rfl,this]at hr';cases hr'
 ·refine .inr ⟨hb _ w,hc.mono ?_⟩
  rintro e w' ⟨v,ρ2,rfl,_,R2,hr2⟩
  have R3:dR (cV.of w hgl) ρ2 (EC r.2.n os) w':=R2.sub rfl fun h p hp=>by
   have:O_ os h=some p:=(Am os h).symm.trans hp
   exact Dq hos _ (Ic this)
  obtain⟨ρ',hle,R4,hsh⟩:=R.join R3
  exact⟨v,ρ',rfl,hle,R4,hsh _ _ hr2⟩
theorem OB {P:Program} {T:Cd} {G:GP} {gs:tX} (hT:EQ T G.tab) (hG:∀w0:cV gs,NK P G T.fns w0) {fuel f n:Nat} {us:List GV} {vs:List Value} {hs:List Nat} {g:GV} {os:OL} (hm:M_ T G fuel f us hs=some (g,n,os)) (hb:aN P f)
  (hv:lR (fun _=>none) us vs) (he:gs.env=[]) (b:cV gs):Calls P f vs.toArray b.w fun e w'=>∃v ρ',e = .returned v∧dR b ρ' (EC n os) w'∧Rl ρ' g v:=by
 obtain⟨r,hr,hm⟩:=aA.1 (show ob (Fc T G fuel f us H0) _=some (g,n,os)from hm)
 obtain⟨os',hos,hm⟩:=aA.1 hm
 cases hm
 rw[Ch hT]at hr
 rcases Cg hG (H':=r.2) (g:=r.1) hr (dR.start b he) hv with⟨v,w',ρ',hr',_⟩|⟨_,hc⟩
 ·have:=hb vs.toArray b.w
  rw[this]at hr';cases hr'
 ·refine hc.mono ?_
  rintro e w' ⟨v,ρ2,rfl,_,R2,hr2⟩
  exact⟨v,ρ2,rfl,R2.sub rfl fun h p hp=>by
   have:O_ os h=some p:=(Am os h).symm.trans hp
   exact Dq hos _ (Ic this),hr2⟩
end
theorem LE {P:Program} {gs:Nat->tX} {L:List aR} (hL:∀w S,(∀h∈L,h.p w S)->∃T,DF (gs T) w fun _=>False) {f n:Nat} {vs:List Value} {g:GV} {os:OL}
  (h:∀T (b:cV (gs T)),Calls P f vs.toArray b.w fun e w'=>∃v ρ',e = .returned v∧dR b ρ' (EC n os) w'∧Rl ρ' g v) {A:Type} {ret:A->Value} {LO:A->List aR}
  (hdec:∀T (b:cV (gs T)) (ρ:cK) (w:World) (V:Value),(∀k,b.mine k->b.w.heap.size<=k)->dR b ρ (EC n os) w->Rl ρ g V->∃x:A,V=ret x∧∀q∈LO x,q.p w (fun k=>b.w.heap.size<=k)):
  aT P f vs.toArray L ret (fun _ l=>l) (fun x l=>LO x++l):=by
 intro w0 S0 hw
 obtain⟨T,hT⟩:=hL w0 S0 hw
 refine(h T (.of w0 hT)).mono ?_
 rintro e w' ⟨v,ρ',rfl,R,hr⟩
 obtain⟨x,rfl,hq⟩:=hdec T (.of w0 hT) ρ' w' v (fun k hk=>hk.elim id False.elim) R hr
 refine⟨x,rfl,R.ext,fun _ _=>False,⟨fun i m hm=>by simp at hm,fun i k h=>h.elim,fun i j k h=>h.elim⟩,fun q hq'=> ?_⟩
 have hq':q∈LO x++[]:=hq'
 rw[List.append_nil]at hq'
 exact aR.wide (hq q hq') (fun k hk=>⟨.inr (.inl hk),fun i h=>h.elim⟩)

noncomputable def Eb (s:ByteArray):Nat×Nat:=(jB (aX s),(aX s).length)
theorem Jy {a b:ByteArray} (h:Eb a=Eb b):a=b:=by
 have h1:=Qz a b
 unfold Eb at h
 rw[h]at h1
 have h2:KI (jB (aX b),(aX b).length) (jB (aX b),(aX b).length)=true:=by simp[KI]
 rw[h2]at h1
 have h3:a.toList=b.toList:=eq_of_beq h1.symm
 rw[Lib.toList_data,Lib.toList_data]at h3
 obtain⟨⟨x⟩⟩:=a
 obtain⟨⟨y⟩⟩:=b
 simp only at h3
 rw[h3]
noncomputable def Wj (cs:List GV):Option (Nat×Nat):=List.casesOn (motive:=fun _=>Option (Nat×Nat)) cs none fun c r=>List.casesOn (motive:=fun _=>Option (Nat×Nat)) r c.asStr fun _ _=>none
abbrev WR:dJ ByteArray:=⟨1,Nat.one_pos,fun _ _ cs x=>cs=[.string x],fun h=>by simp[h],fun h _=>h⟩
theorem fJ.str {S:Nat->Prop} {ρ:cK} {w:World}:fJ S ρ w Wj WR Eb:=fun gs vs y hr h _=>by
 cases gs with
 |nil=>cases h
 |cons c gs=>
 cases gs with
 |cons _ _=>cases h
 |nil=>
 have h:c.asStr=some y:=h
 obtain⟨v,vs,rfl,hv,hr⟩:=hr.of_cons
 rw[hr.of_nil]
 rw[mG h]at hv
 obtain⟨x,rfl,e1,e2⟩:=hv.str_inv
 exact⟨x,by unfold Eb;rw[<-e1,<-e2],rfl⟩
theorem UM {ρ:cK} {V:Value} {n l:Nat} {s:ByteArray} (h:Rl ρ (.str n l) V) (e:Eb s=(n,l)):V = .string s:=by
 obtain⟨x,rfl,e1,e2⟩:=h.str_inv
 have:Eb x=Eb s:=by rw[e];unfold Eb;rw[<-e1,<-e2]
 rw[Jy this]
theorem Fy {α:Type}:∀a b:α,id a=id b->a=b:=fun _ _ h=>h
theorem Ai {α β α' β':Type} {f:α->α'} {g:β->β'} (hf:∀a b,f a=f b->a=b) (hg:∀a b,g a=g b->a=b):∀a b:α×β,(fun z:α×β=>(f z.1,g z.2)) a=(fun z:α×β=>(f z.1,g z.2)) b->a=b:=fun a b h=>by
 obtain⟨a1,a2⟩:=a
 obtain⟨b1,b2⟩:=b
 simp only[Prod.mk.injEq]at h
 rw[hf _ _ h.1,hg _ _ h.2]
theorem FC {α β:Type} {f:α->β} (hf:∀a b,f a=f b->a=b):∀{xs ys:List α},xs.map f=ys.map f->xs=ys
 | [],[],_=>rfl
 | [],_::_,h=>by simp at h
 |_::_,[],h=>by simp at h
 |a::xs,b::ys,h=>by
  simp only[List.map_cons,List.cons.injEq]at h
  rw[hf _ _ h.1,FC hf h.2]
end Go.Gx
end
section
set_option maxRecDepth 100000
namespace Go.Gx
open Go Go.Sx Go.Proofs Go.Proofs.YtjlbcgddhnjcjaaGreatDoor
def mu0:List GV:=[.str 2782272544148574329703548915484139416562471587372346629090892429547018860149309682118537811771073185556707760590527461846276004869770941806974104689717583530206048895217444112283498148464 78]
def mg0:GV:=(.agg [(.str 1907970655657516625763 9),(.sl 328 0 1 6),(.sl 491 0 1 3)])
def mo0:OL:=[(328,328,.cells [(.str 99 1),(.int .i64 (.ofNat 1)),(.int .i64 (.ofNat 0)),(.int .i64 (.ofNat 0)),(.int .i64 (.ofNat 1)),(.int .i64 (.ofNat 0))]),
 (410,410,.cells [(.int .i64 (.ofNat 21)),(.int .i64 (.ofNat 0)),(.int .i64 (.ofNat 35)),(.int .i64 (.ofNat 0)),(.int .i64 (.ofNat 12)),(.int .i64 (.ofNat 0)),(.int .i64 (.ofNat 5)),(.int .i64 (.ofNat 0))]),
 (475,475,.cells [(.int .i64 (.ofNat 27)),(.int .i64 (.ofNat 0)),(.int .i64 (.ofNat 12)),(.int .i64 (.ofNat 0))]),
 (483,483,.cells [(.int .i64 (.ofNat 0)),(.sl 475 0 2 2)]),
 (491,491,.cells [(.str 7891302 3),(.sl 410 0 4 2),(.sl 483 0 1 2)])]
set_option maxHeartbeats 4000000 in
theorem me0:M_ Dt gp 4000 13 mu0 [328,410,475,483,491]=some (mg0,651,mo0):=by kernel_rfl
noncomputable def Fw (f:Nat) (us:List GV) (H:GH):Option (GV×GH):=bif Nat.beq f 13 then(bif Wy us (2782272544148574329703548915484139416562471587372346629090892429547018860149309682118537811771073185556707760590527461846276004869770941806974104689717583530206048895217444112283498148464,78)then JG mg0 651 mo0 H else QO f us H)else QO f us H
noncomputable def Ye:GP:=⟨rR,gp.cat,Fw,gp.exn⟩
theorem Dj {T:Nat} {w0:cV (gl T)} {w:World} {ρ:cK} {H H':GH} {g:GV} {us:List GV} {vs:fP} {f:Nat} (h:Fw f us H=some (g,H')) (R:dR w0 ρ H w) (hr:lR ρ us vs):iP Tryz.prog w0 ρ f vs w g H':=by
 unfold Fw at h
 cases e1:Nat.beq f 13 with
 |false=>rw[e1]at h;exact HY h R hr
 | true =>
  rw[e1]at h
  cases e2:Wy us (2782272544148574329703548915484139416562471587372346629090892429547018860149309682118537811771073185556707760590527461846276004869770941806974104689717583530206048895217444112283498148464,78)with
  |false=>rw[e2]at h;exact HY h R hr
  |true=>
   rw[e2]at h;rw[Nat.eq_of_beq_eq_true e1]
   rw[QW e2]at hr
   obtain⟨V,rfl,hv⟩:=hr.one
   obtain⟨x,rfl,e3,e4⟩:=hv.str_inv
   exact Na (gs:=gl T) (gs2:=gl T) rfl rfl CF QQ me0 Tryz.call13 (lR.cons (LR e3 e4) .nil) h R
theorem Ve {T:Nat} (w0:cV (gl T)):NK Tryz.prog Ye Dt.fns w0:=⟨(QQ w0).tab,(QQ w0).mixed,(QQ w0).fns,fun h ρ w vs R hr=>Dj h R hr,(QQ w0).exn,(QQ w0).cat⟩
def mu1:List GV:=[.str 389508662282641590667193222818340124320258541324365428891725188086024207717159085315988594649689196209224937564443540662539472250600169891651064703471849739348391035222282332234873775082367041688393518087397133674180373991176283487897321372674739070210027174703280392956383328243748401776 120]
def Yn:GV:=(.agg [(.str 140756725746397274546925161 11),(.sl 410 0 1 6),(.sl 686 0 2 3)])
def Rm:OL:=[(410,410,.cells [(.str 109 1),(.int .i64 (.ofNat 2)),(.int .i64 (.ofNat 0)),(.int .i64 (.ofNat 0)),(.int .i64 (.ofNat 0)),(.int .i64 (.ofNat 0))]),
 (497,497,.cells [(.int .i64 (.ofNat 41)),(.int .i64 (.ofNat 0)),(.int .i64 (.ofNat 5)),(.int .i64 (.ofNat 0)),(.int .i64 (.ofNat 21)),(.int .i64 (.ofNat 0)),(.int .i64 (.ofNat 12)),(.int .i64 (.ofNat 0))]),
 (524,524,.cells [(.int .i64 (.ofNat 3)),(.int .i64 (.ofNat 0))]),
 (532,532,.cells [(.int .i64 (.ofNat 0)),(.sl 524 0 1 2)]),
 (643,643,.cells [(.int .i64 (.ofNat 41)),(.int .i64 (.ofNat 0)),(.int .i64 (.ofNat 19)),(.int .i64 (.ofNat 0)),(.int .i64 (.ofNat 5)),(.int .i64 (.ofNat 0)),(.int .i64 (.ofNat 19)),(.int .i64 (.ofNat 0)),(.int .i64 (.ofNat 21)),(.int .i64 (.ofNat 0)),(.int .i64 (.ofNat 12)),(.int .i64 (.ofNat 0))]),
 (670,670,.cells [(.int .i64 (.ofNat 2)),(.int .i64 (.ofNat 0))]),
 (678,678,.cells [(.int .i64 (.ofNat 0)),(.sl 670 0 1 2)]),
 (686,686,.cells [(.str 435777791340 5),(.sl 497 0 4 2),(.sl 532 0 1 2),(.str 491328400997 5),(.sl 643 0 6 2),(.sl 678 0 1 2)])]
set_option maxHeartbeats 4000000 in
theorem me1:M_ Dt Ye 4000 13 mu1 [410,497,524,532,643,670,678,686]=some (Yn,983,Rm):=by kernel_rfl
noncomputable def Ls (f:Nat) (us:List GV) (H:GH):Option (GV×GH):=bif Nat.beq f 13 then(bif Wy us (389508662282641590667193222818340124320258541324365428891725188086024207717159085315988594649689196209224937564443540662539472250600169891651064703471849739348391035222282332234873775082367041688393518087397133674180373991176283487897321372674739070210027174703280392956383328243748401776,120)then JG Yn 983 Rm H else Fw f us H)else Fw f us H
noncomputable def Yf:GP:=⟨rR,gp.cat,Ls,gp.exn⟩
theorem On {T:Nat} {w0:cV (gl T)} {w:World} {ρ:cK} {H H':GH} {g:GV} {us:List GV} {vs:fP} {f:Nat} (h:Ls f us H=some (g,H')) (R:dR w0 ρ H w) (hr:lR ρ us vs):iP Tryz.prog w0 ρ f vs w g H':=by
 unfold Ls at h
 cases e1:Nat.beq f 13 with
 |false=>rw[e1]at h;exact Dj h R hr
 | true =>
  rw[e1]at h
  cases e2:Wy us (389508662282641590667193222818340124320258541324365428891725188086024207717159085315988594649689196209224937564443540662539472250600169891651064703471849739348391035222282332234873775082367041688393518087397133674180373991176283487897321372674739070210027174703280392956383328243748401776,120)with
  |false=>rw[e2]at h;exact Dj h R hr
  |true=>
   rw[e2]at h;rw[Nat.eq_of_beq_eq_true e1]
   rw[QW e2]at hr
   obtain⟨V,rfl,hv⟩:=hr.one
   obtain⟨x,rfl,e3,e4⟩:=hv.str_inv
   exact Na (gs:=gl T) (gs2:=gl T) rfl rfl CF Ve me1 Tryz.call13 (lR.cons (LR e3 e4) .nil) h R
theorem Yd {T:Nat} (w0:cV (gl T)):NK Tryz.prog Yf Dt.fns w0:=⟨(QQ w0).tab,(QQ w0).mixed,(QQ w0).fns,fun h ρ w vs R hr=>On h R hr,(QQ w0).exn,(QQ w0).cat⟩
noncomputable abbrev gp2:GP:=Yf
theorem abi {T:Nat} (w0:cV (gl T)):NK Tryz.prog gp2 Dt.fns w0:=Yd w0
end Go.Gx
end
section
namespace Go.Gx
open Go Go.Sx Go.RowKit
structure Hd (n:Nat) (os:OL) (ρ:cK) (w:World) (S:Nat->Prop):Prop where
 live:∀h o,(EC n os).get h=some o->∃l,ρ h=some l∧S l.b∧sR ρ w l o
 inj:∀h h' o o' l l',(EC n os).get h=some o->(EC n os).get h'=some o'->ρ h=some l->ρ h'=some l'->l.b=l'.b->h=h'
 fresh:∀h,n<=h->ρ h=none
 dense:∀h,h<n->∃l,ρ h=some l
 vers:∀h v l,(EC n os).ver h=some v->ρ h=some l->∃lv,ρ v=some lv∧w.heap[l.b]? = some lv.x∧(EC n os).get h=some lv.o
theorem Hd.mono {n:Nat} {os:OL} {ρ:cK} {w w':World} {S S':Nat->Prop} (H:Hd n os ρ w S) (h:∀k,S k->k<w.heap.size->S' k∧w'.heap[k]? = w.heap[k]?):Hd n os ρ w' S':=by
 refine⟨fun k o hg=> ?_,H.inj,H.fresh,H.dense,fun k v l hv hl=> ?_⟩
 ·obtain⟨l,a,b,c⟩:=H.live k o hg
  obtain⟨d,e⟩:=h _ b c.lt
  exact⟨l,a,d,c.move (cK.le_refl ρ) e⟩
 ·obtain⟨lv,a,b,c⟩:=H.vers k v l hv hl
  obtain⟨o,ho⟩:=oD.1 hv
  obtain⟨l',a',b',c'⟩:=H.live k o (eT.2 ⟨v,ho⟩)
  rw[hl]at a';cases a'
  exact⟨lv,a,by rw[(h _ b' c'.lt).2];exact b,c⟩
theorem dR.hd {gs:tX} {b:cV gs} {n:Nat} {os:OL} {ρ:cK} {w:World} {S:Nat->Prop} (R:dR b ρ (EC n os) w) (hS:∀k,b.mine k->S k):Hd n os ρ w S:=
 ⟨fun h o hg=>let ⟨l,a,b,c⟩:=R.live h o hg;⟨l,a,hS _ b,c⟩,R.inj,R.fresh,R.dense,R.vers⟩
def Pg (n:Nat) (os:OL) (g:GV) (V:Value):aR where
 p w S:=∃ρ,Hd n os ρ w S∧Rl ρ g V
 mono:=fun⟨ρ,h,r⟩ k=>⟨ρ,h.mono k,r⟩
def Hd.O (n:Nat) (os:OL) (ρ:cK) (k:Nat):Prop:=∃h o l,(EC n os).get h=some o∧ρ h=some l∧l.b=k
def Hd.base (n:Nat) (os:OL) (ρ:cK) (w:World):cV WN:=⟨w,Hd.O n os ρ,fun _ h=>absurd h List.not_mem_nil⟩
theorem Hd.rel {n:Nat} {os:OL} {ρ:cK} {w:World} {S:Nat->Prop} (H:Hd n os ρ w S):dR (Hd.base n os ρ w) ρ (EC n os) w:=
 ⟨xL.refl w,fun h o hg=>let ⟨l,a,_,c⟩:=H.live h o hg;⟨l,a,.inr ⟨h,o,l,hg,a,rfl⟩,c⟩,H.inj,H.fresh,H.dense,H.vers,fun i v e=>by simp[Hd.base,WN]at e⟩
noncomputable def Bo (H:GH) (os:OL):Bool:=List.rec (motive:=fun _=>Bool) true (fun x _ ih=>Option.casesOn (motive:=fun _=>Bool) (H.ver x.1) false fun v=>bif Nat.beq v x.2.1 then ih else false) os
theorem Ke {H:GH}:∀{os:OL},Bo H os=true->∀x∈os,H.ver x.1=some x.2.1
 | [],_,x,hx=>by cases hx
 | y :: os, h, x, hx => by
  have h:Option.casesOn (motive:=fun _=>Bool) (H.ver y.1) false (fun v=>bif Nat.beq v y.2.1 then Bo H os else false)=true:=h
  cases hv:H.ver y.1 with
  |none=>rw[hv]at h;cases h
  | some v =>
   rw[hv]at h
   obtain⟨h1,h2⟩:=a_.1 (show(bif Nat.beq v y.2.1 then(some (Bo H os))else none)=some true by
    have h:(bif Nat.beq v y.2.1 then Bo H os else false)=true:=h
    cases e:Nat.beq v y.2.1<;>rw[e]at h<;>first|cases h|(show some (Bo H os)=some true;rw[show Bo H os=true from h]))
   rcases List.mem_cons.1 hx with rfl|hx
   ·rw[hv,Nat.eq_of_beq_eq_true h1]
   ·exact Ke (Option.some.inj h2) x hx
noncomputable def okV (os:OL) (r:OR):Bool:=Option.casesOn (motive:=fun _=>Bool) r false fun r=>Option.casesOn (motive:=fun _=>Bool) r.1.asB false fun b=>bif b then Bo r.2 os else false
theorem Rz {os:OL} {r:OR} (h:okV os r=true):∃H',r=some (.bool true,H')∧Bo H' os=true:=by
 cases r with
 |none=>cases h
 | some r =>
  obtain⟨g,H'⟩:=r
  have h:Option.casesOn (motive:=fun _=>Bool) g.asB false (fun b=>bif b then Bo H' os else false)=true:=h
  cases hb:g.asB with
  |none=>rw[hb]at h;cases h
  |some b=>
   rw[hb]at h
   cases b with
   |false=>cases h
   |true=>exact⟨H',by rw[w_ hb],h⟩
theorem Ot {P:Program} {G:GP} {Fs:FT} (hG:∀w0:cV WN,NK P G Fs w0) {fuel f n:Nat} {os:OL} {g:GV} {V:Value} (hb:aN P f) (h:∃H',ME G Fs fuel f [g] (EC n os)=some (.bool true,H')∧Bo H' os=true) {w:World} {S:Nat->Prop} (hw:(Pg n os g V).p w S):
  Calls P f #[V] w fun e w'=>e = .returned (.bool true)∧Hy w w':=by
 obtain⟨ρ,hd,hr⟩:=hw
 obtain⟨H',h1,h2⟩:=h
 rcases Cg hG h1 hd.rel (.cons hr .nil)with⟨v,w',ρ',hr',_⟩|⟨_,hc⟩
 ·have:=hb #[V] w
  rw[this]at hr';cases hr'
 ·refine hc.mono ?_
  rintro e w' ⟨v,ρ2,rfl,hle,R2,hv⟩
  refine⟨by rw[hv.bool_inv],R2.ext.os,R2.ext.tape,R2.ext.output,R2.ext.size,fun k hk=> ?_⟩
  by_cases ho:Hd.O n os ρ k
  ·obtain⟨i,o,l,hg,hl,rfl⟩:=ho
   obtain⟨v0,hv0⟩:=eT.1 hg
   have hm:(i,v0,o)∈os:=Ic ((Am os i).symm.trans hv0)
   obtain⟨lv,a,b,_⟩:=hd.vers i v0 l (oD.2 ⟨o,hv0⟩) hl
   obtain⟨lv',a',b',_⟩:=R2.vers i v0 l (Ke h2 _ hm) (hle _ _ hl)
   have:lv=lv':=by have:=hle _ _ a;rw[a']at this;exact(Option.some.inj this).symm
   subst this
   exact b'.trans b.symm
  ·exact R2.ext.block k hk ho
end Go.Gx
end
section
namespace Go.Proofs.YtjlbcgddhnjcjaaGreatDoor
open Go Go.Sx Go.Gx
set_option maxRecDepth 100000
abbrev tY:=ByteArray×(Value×eM)×(Value×List (Int×(Value×eM)))
def vQ (z:tY):eM×List (Int×eM):=(z.2.1.2,z.2.2.2.map fun s=>(s.1,s.2.2))
def BM:ByteArray:=(ByteArray.mk #[112,114,111,103,114,97,109,32,105,110,100,101,112,101,110,100,101,110,116,59,10,118,97,114,32,109,32,58,32,98,111,111,108,59,10,114,117,108,101,32,108,101,97,118,101,58,32,109,32,38,38,32,115,111,109,101,40,113,46,109,41,32,45,62,32,109,32,58,61,32,102,97,108,115,101,59,10,114,117,108,101,32,101,110,116,101,114,58,32,33,109,32,38,38,32,33,115,111,109,101,40,113,46,109,41,32,45,62,32,109,32,58,61,32,116,114,117,101,59,10])
def Dr:DZ:=[((ByteArray.mk #[109]),(2:Int),(0:Int),(0:Int),(0:Int),(0:Int))]
def AR:Kr:=[([(41,0),(5,0),(21,0),(12,0)],[(0,[(3,0)])]),([(41,0),(19,0),(5,0),(19,0),(21,0),(12,0)],[(0,[(2,0)])])]
def Vk:List ((Nat×Nat)×eM×List (Int×eM)):=[((435777791340,5),[(41,0),(5,0),(21,0),(12,0)],[(0,[(3,0)])]),((491328400997,5),[(41,0),(19,0),(5,0),(19,0),(21,0),(12,0)],[(0,[(2,0)])])]
def PF (V:Value):aR:=⟨fun w S=>(Pg 983 Rm Yn V).p w S,fun {w w' S S'} h k=>by
 rcases h with h
 ·exact((Pg 983 Rm Yn V).mono h k)⟩
noncomputable def PR {R:Type} (D:Kr) (k:List tY->Option R):Option R:=open Classical in if h:∃r,∀z:List tY,z.map vQ=D->k z=some r then some (Classical.choose h)else none
theorem NU {R:Type} {D:Kr} {k:List tY->Option R} {r:R} (h:PR D k=some r) (z:List tY) (hz:z.map vQ=D):k z=some r:=by
 unfold PR at h
 split at h
 ·rename_i e
  rw[<-Option.some.inj h]
  exact Classical.choose_spec e z hz
 cases h
theorem Td {R:Type} {D:Kr} {k:List tY->Option R} {r:R} (h:∀z:List tY,z.map vQ=D->k z=some r):PR D k=some r:=by
 have e:∃r,∀z:List tY,z.map vQ=D->k z=some r:=⟨r,h⟩
 unfold PR
 rw[dif_pos e]
 let z:List tY:=D.map fun x=>(ByteArray.empty,(undef,x.1),(undef,x.2.map fun s=>(s.1,(undef,s.2))))
 have hz:z.map vQ=D:=by
  show(D.map _).map vQ=D
  rw[List.map_map]
  conv=>rhs;rw[<-List.map_id D]
  refine List.map_congr_left fun x _=>?_
  obtain⟨a,b⟩:=x
  simp[vQ,Function.comp_def]
 rw[<-Classical.choose_spec e z hz,h z hz]
def nM (fuel:Nat) (p0:ByteArray):Option Sd:=if p0=BM then some ((ByteArray.mk #[105,110,100,101,112,101,110,100,101,110,116]),Dr,AR)else none
theorem PX:aN Tryz.prog 13:=Tryz.call13
theorem Qc:aN Tryz.prog 71:=Tryz.call71
theorem JV:Eb BM=(389508662282641590667193222818340124320258541324365428891725188086024207717159085315988594649689196209224937564443540662539472250600169891651064703471849739348391035222282332234873775082367041688393518087397133674180373991176283487897321372674739070210027174703280392956383328243748401776,120):=by kernel_rfl
theorem RH:Eb (ByteArray.mk #[105,110,100,101,112,101,110,100,101,110,116])=(140756725746397274546925161,11):=by kernel_rfl
theorem RN:Jx (EC 983 Rm) 6 (dP 1 Wj (dP 1 (dI .i64) (dP 1 (dI .i64) (dP 1 (dI .i64) (dP 1 (dI .i64) (dI .i64)))))) (.sl 410 0 1 6)=some (Dr.map fun z=>(Eb z.1,z.2.1,z.2.2.1,z.2.2.2.1,z.2.2.2.2.1,z.2.2.2.2.2)):=by kernel_rfl
theorem OJ:Jx (EC 983 Rm) 3 (dP 1 Wj (dP 1 (dS (EC 983 Rm) 2 (dP 1 (dI .i64) (dI .i64))) (dS (EC 983 Rm) 2 (dP 1 (dI .i64) (dS (EC 983 Rm) 2 (dP 1 (dI .i64) (dI .i64))))))) (.sl 686 0 2 3)=some Vk:=by kernel_rfl
theorem UB:Vk.map (fun y=>(y.2.1,y.2.2))=AR:=by kernel_rfl
theorem RI (r:Sd) (h:some ((ByteArray.mk #[105,110,100,101,112,101,110,100,101,110,116]),Dr,AR)=some r):aT Tryz.prog 13 #[vS BM] [Gb 0 (cellsOf CX rU)] (fun x:Value×Value×{z:List tY // z.map vQ=r.2.2}=>Value.agg #[vS r.1,x.1,x.2.1]) (fun x l=>l) (fun x l=>Sl aI x.1 r.2.1::Sl aE x.2.1 x.2.2.1::PF (Value.agg #[vS r.1,x.1,x.2.1])::l):=by
 cases h
 refine LE (gs:=gl) (LO:=fun x:Value×Value×{z:List tY // z.map vQ=AR}=>[Sl aI x.1 Dr,Sl aE x.2.1 x.2.2.1,PF (Value.agg #[vS (ByteArray.mk #[105,110,100,101,112,101,110,100,101,110,116]),x.1,x.2.1])]) QP (fun T b=>OB CF Ve me1 PX (.cons (LR (x:=BM) (congrArg Prod.fst JV).symm (congrArg Prod.snd JV).symm) .nil) rfl b) ?_
 intro T b ρ w V hm R hr
 have w0:=hr
 obtain⟨bs,rfl,hl,_⟩:=hr.agg_inv
 obtain⟨A1,bs,rfl,a1,hl⟩:=hl.of_cons
 obtain⟨A2,bs,rfl,a2,hl⟩:=hl.of_cons
 obtain⟨A3,rfl,a3⟩:=hl.one
 obtain rfl:=UM a1 RH
 obtain⟨zs,hz,hs⟩:=AJ R hm (fJ.pair fJ.str (fJ.pair (fJ.int .i64) (fJ.pair (fJ.int .i64) (fJ.pair (fJ.int .i64) (fJ.pair (fJ.int .i64) (fJ.int .i64)))))) a2 RN
 have hzs:zs=Dr:=FC (Ai (fun _ _=>Jy) (Ai Fy (Ai Fy (Ai Fy (Ai Fy Fy))))) hz
 subst hzs
 obtain⟨ys,hy,ht⟩:=AJ (r:=aE) R hm (fJ.pair fJ.str (fJ.pair (fJ.sl R hm (fJ.pair (fJ.int .i64) (fJ.int .i64))) (fJ.sl R hm (fJ.pair (fJ.int .i64) (fJ.sl R hm (fJ.pair (fJ.int .i64) (fJ.int .i64))))))) a3 OJ
 have hys:ys.map vQ=AR:=by
  rw[<-UB,<-hy,List.map_map]
  refine List.map_congr_left fun x _=>?_
  simp[vQ,Function.comp_def]
 exact⟨(A2,A3,⟨ys,hys⟩),rfl,List.forall_mem_cons.2 ⟨hs,List.forall_mem_cons.2 ⟨ht,List.forall_mem_cons.2 ⟨(⟨ρ,dR.hd R hm,w0⟩),fun q hq=>absurd hq List.not_mem_nil⟩⟩⟩⟩
theorem Sw:okV Rm (Fc Dt gp0 4000 71 [Yn] (EC 983 Rm))=true:=by kernel_rfl
theorem Ei (fuel:Nat) {p0:ByteArray} (r:Sd) (h:nM fuel p0=some r):aT Tryz.prog 13 #[vS p0] [Gb 0 (cellsOf CX rU)] (fun x:Value×Value×{z:List tY // z.map vQ=r.2.2}=>Value.agg #[vS r.1,x.1,x.2.1]) (fun x l=>l) (fun x l=>Sl aI x.1 r.2.1::Sl aE x.2.1 x.2.2.1::PF (Value.agg #[vS r.1,x.1,x.2.1])::l):=by
 unfold nM at h
 by_cases e2:p0=BM
 ·subst e2;exact RI r ((if_pos rfl).symm.trans h)
 rw[if_neg e2]at h
 cases h
theorem RJ (f:Nat):nM f BM=some ((ByteArray.mk #[105,110,100,101,112,101,110,100,101,110,116]),Dr,AR):=by
 unfold nM
 exact if_pos rfl
def xE (fuel:Nat) (p0:ByteArray×List (ByteArray×Int×Int×Int×Int×Int)×List (tY)):Option Bool:=some true
theorem Gy (fuel:Nat) {p0:ByteArray×List (ByteArray×Int×Int×Int×Int×Int)×List (tY)} (v0 v1:Value) (r:Bool) (h:xE fuel p0=some r):
  aT Tryz.prog 71 #[Value.agg #[vS p0.1,v0,v1]] [Sl aI v0 p0.2.1,Sl aE v1 p0.2.2,PF (Value.agg #[vS p0.1,v0,v1])] (fun x:Unit=>vB (r)) (fun x l=>l) (fun _ l=>l):=by
 cases h
 intro w S hw
 have key:Calls Tryz.prog 71 #[Value.agg #[vS p0.1,v0,v1]] w fun e w'=>e = .returned (.bool true)∧Hy w w':=by
  rcases hw _ (List.mem_of_getElem? (i:=2) rfl)with hp
  ·refine Ot (fuel:=4000) abh Qc ?_ hp
   obtain⟨H',h1,h2⟩:=Rz Sw
   rw[Ch (G:=gp0) CF]at h1
   exact⟨H',h1,h2⟩
 refine key.mono ?_
 rintro e w' ⟨rfl,he⟩
 exact⟨(),rfl,⟨he.os,he.tape,he.output,he.size,fun k hk _=>he.block k hk⟩,fun _ _=>False,⟨fun i m hm=>by simp at hm,fun i k h=>h.elim,fun i j k h=>h.elim⟩,fun q hq=>by simp at hq⟩
end Go.Proofs.YtjlbcgddhnjcjaaGreatDoor
end
section
namespace Go.Proofs.YtjlbcgddhnjcjaaGreatDoor
open Go Go.Sx
section
abbrev YP:=Az
abbrev PRG:=ByteArray×(List YP)×(List tY)
abbrev GRF:=List Int×dQ
abbrev SCN:=PRG×GRF×Int×bG
abbrev XO:=SCN×bG×Int×eM
inductive E where
 |lf (o a:Int)
 |un (o:Int) (x:E)
 |ag (o:Int) (x:E)
 |bi (o:Int) (x y:E)
 |ite (x y z:E)
def E.ts:E->eM
 |lf o a=>[(o,a)]
 |un o x=>(o,0)::x.ts
 |ag o x=>(o,0)::x.ts
 |bi o x y=>(o,0)::(x.ts++y.ts)
 |ite x y z=>(43,0)::(x.ts++(y.ts++z.ts))
def E.depth:E->Nat
 |lf _ _=>1
 |un _ x=>x.depth+1
 |ag _ x=>x.depth+1
 |bi _ x y=>max x.depth y.depth+1
 |ite x y z=>max x.depth (max y.depth z.depth)+1
def E.arOk:E->Bool
 |lf o _=>decide (1<=o)&&decide (o<=17)
 |un o x=>decide (18<=o)&&decide (o<=19)&&x.arOk
 |ag o x=>decide (20<=o)&&decide (o<=29)&&x.arOk
 |bi o x y=>decide (30<=o)&&decide (o<=42)&&x.arOk&&y.arOk
 |ite x y z=>x.arOk&&y.arOk&&z.arOk
theorem HK {α:Type} [Inhabited α] {T pre rest:List α} {x:α} {k:Nat} (hT:T=pre++x::rest) (hk:pre.length=k):at' T (k:Int)=x:=by
 subst hT;exact NW pre rest x k hk
theorem eC {k:Nat} (h:k<1000000):wI .i64 ((k:Int)+1)=((k+1:Nat):Int):=by rw[wr (by omega) (by omega)];rfl

theorem PU (f:Nat) {o:Int} (h1:1<=o) (h2:o<=43):sI f o=some (if o<=17 then 0 else if o<=29 then 1 else if o<=42 then 2 else 3):=by
 unfold sI tW
 rw[if_neg (by omega)]
 simp only[decide_eq_true_eq]
 rw[if_neg (by omega)]
 split
 ·rfl
 ·split
  ·rfl
  ·split<;>rfl
theorem Qy {F:Nat} {T pre rest:eM} {t:dM} {k m a:Nat} {fuel:Nat} (hT:T=pre++t::rest) (hk:pre.length=k) (hk2:k<1000) (hm:m<3000) (ha:sI F t.1=some ((a:Nat):Int)) (ha3:a<=3) (hne:m+a≠0):
  bD (jA F T) (fuel+1) ((k:Int),(m:Int))=if m+a=1 then some (((k+1:Nat):Int))else bD (jA F T) fuel (((k+1:Nat):Int),((m+a - 1:Nat):Int)):=by
 have hl:k<T.length:=by rw[hT];simp;omega
 show jA F T ((k:Int),(m:Int)) (bD (jA F T) fuel)=_
 unfold jA
 dsimp only
 rw[if_pos (by omega),cN (by omega),HK hT hk,bA ha,if_neg (by omega),wr (x:=((a:Nat):Int) - 1) (by omega) (by omega),wr (by omega) (by omega),eC (by omega)]
 by_cases h:m+a=1
 ·rw[if_pos h,if_pos (by omega)]
 ·rw[if_neg h,if_neg (by omega)]
  have:(m:Int)+((a:Int) - 1)=((m+a - 1:Nat):Int):=by omega
  rw[this]
theorem T_ (F:Nat) (T:eM) (hT9:T.length<=900):∀(e:E),e.arOk=true->∀(fuel k m:Nat) (pre post:eM),T=pre++(e.ts++post)->pre.length=k->1<=m->m+2*(e.ts++post).length<=1900->e.ts.length<=fuel->
  bD (jA F T) fuel ((k:Int),(m:Int))=if m=1 then some (((k+e.ts.length:Nat):Int))else bD (jA F T) (fuel - e.ts.length) (((k+e.ts.length:Nat):Int),((m - 1:Nat):Int)):=by
 have key:∀{t:dM} {l post pre:eM} {fuel k m:Nat},T=pre++((t::l)++post)->pre.length=k->(t::l).length<=fuel->1<=t.1->t.1<=43->1<=m->m+2*((t::l)++post).length<=1900->∀a:Nat,(if t.1<=17 then 0 else if t.1<=29 then 1 else if t.1<=42 then 2 else 3:Int)=a->a<=3->∃f,fuel=f+1∧
   bD (jA F T) fuel ((k:Int),(m:Int))=if m+a=1 then some (((k+1:Nat):Int))else bD (jA F T) f (((k+1:Nat):Int),((m+a - 1:Nat):Int)):=by
  intro t l post pre fuel k m hT hk hf h1 h2 hm1 hm a ha ha3
  have hlen:=congrArg List.length hT
  simp only[List.length_append,List.length_cons]at hlen hm hf
  obtain⟨f,rfl⟩:∃f,fuel=f+1:=⟨fuel - 1,by omega⟩
  exact⟨f,rfl,Qy (rest:=l++post) (by simpa using hT) hk (by omega) (by omega) (by rw[PU F h1 h2,ha]) ha3 (by omega)⟩
 intro e
 induction e with
 |lf o a=>
  intro hok fuel k m pre post hT hk hm1 hm hf
  simp only[E.arOk,Bool.and_eq_true,decide_eq_true_eq]at hok
  obtain⟨f,rfl,h⟩:=key (t:=(o,a)) (l:=[]) hT hk hf (by dsimp only;omega) (by dsimp only;omega) hm1 hm 0 (by rw[if_pos (by dsimp only;omega)];rfl) (by omega)
  rw[h];rfl
 |un o x ih=>
  intro hok fuel k m pre post hT hk hm1 hm hf
  simp only[E.arOk,Bool.and_eq_true,decide_eq_true_eq]at hok
  obtain⟨f,rfl,h⟩:=key (t:=(o,0)) (l:=x.ts) hT hk hf (by dsimp only;omega) (by dsimp only;omega) hm1 hm 1 (by rw[if_neg (by dsimp only;omega),if_pos (by dsimp only;omega)];rfl) (by omega)
  simp only[E.ts,List.length_cons]at hf hm ⊢
  rw[h,if_neg (by omega)]
  have:=ih hok.2 f (k+1) m (pre++[(o,0)]) post (by rw[hT];simp[E.ts]) (by simp[hk]) hm1 (by simp at hm ⊢;omega) (by omega)
  rw[show m+1 - 1=m by omega,this,show k+1+x.ts.length=k+(x.ts.length+1) by omega,show f+1 - (x.ts.length+1)=f - x.ts.length by omega]
 |ag o x ih=>
  intro hok fuel k m pre post hT hk hm1 hm hf
  simp only[E.arOk,Bool.and_eq_true,decide_eq_true_eq]at hok
  obtain⟨f,rfl,h⟩:=key (t:=(o,0)) (l:=x.ts) hT hk hf (by dsimp only;omega) (by dsimp only;omega) hm1 hm 1 (by rw[if_neg (by dsimp only;omega),if_pos (by dsimp only;omega)];rfl) (by omega)
  simp only[E.ts,List.length_cons]at hf hm ⊢
  rw[h,if_neg (by omega)]
  have:=ih hok.2 f (k+1) m (pre++[(o,0)]) post (by rw[hT];simp[E.ts]) (by simp[hk]) hm1 (by simp at hm ⊢;omega) (by omega)
  rw[show m+1 - 1=m by omega,this,show k+1+x.ts.length=k+(x.ts.length+1) by omega,show f+1 - (x.ts.length+1)=f - x.ts.length by omega]
 |bi o x y ihx ihy=>
  intro hok fuel k m pre post hT hk hm1 hm hf
  simp only[E.arOk,Bool.and_eq_true,decide_eq_true_eq]at hok
  obtain⟨f,rfl,h⟩:=key (t:=(o,0)) (l:=x.ts++y.ts) hT hk hf (by dsimp only;omega) (by dsimp only;omega) hm1 hm 2 (by rw[if_neg (by dsimp only;omega),if_neg (by dsimp only;omega),if_pos (by dsimp only;omega)];rfl) (by omega)
  simp only[E.ts,List.length_cons,List.length_append]at hf hm ⊢
  rw[h,if_neg (by omega)]
  have h1:=ihx hok.1.2 f (k+1) (m+1) (pre++[(o,0)]) (y.ts++post) (by rw[hT];simp[E.ts]) (by simp[hk]) (by omega) (by simp at hm ⊢;omega) (by omega)
  have h2:=ihy hok.2 (f - x.ts.length) (k+1+x.ts.length) m (pre++((o,0)::x.ts)) post (by rw[hT];simp[E.ts]) (by simp[hk];omega) (by omega) (by simp at hm ⊢;omega) (by omega)
  rw[show m+2 - 1=m+1 by omega,h1,if_neg (by omega),show m+1 - 1=m by omega,h2,show k+1+x.ts.length+y.ts.length=k+(x.ts.length+y.ts.length+1) by omega,show f+1 - (x.ts.length+y.ts.length+1)=f - x.ts.length - y.ts.length by omega]
 |ite x y z ihx ihy ihz=>
  intro hok fuel k m pre post hT hk hm1 hm hf
  simp only[E.arOk,Bool.and_eq_true,decide_eq_true_eq]at hok
  obtain⟨f,rfl,h⟩:=key (t:=(43,0)) (l:=x.ts++(y.ts++z.ts)) hT hk hf (by decide) (by decide) hm1 hm 3 rfl (by omega)
  simp only[E.ts,List.length_cons,List.length_append]at hf hm ⊢
  rw[h,if_neg (by omega)]
  have h1:=ihx hok.1.1 f (k+1) (m+2) (pre++[(43,0)]) (y.ts++z.ts++post) (by rw[hT];simp[E.ts]) (by simp[hk]) (by omega) (by simp at hm ⊢;omega) (by omega)
  have h2:=ihy hok.1.2 (f - x.ts.length) (k+1+x.ts.length) (m+1) (pre++((43,0)::x.ts)) (z.ts++post) (by rw[hT];simp[E.ts]) (by simp[hk];omega) (by omega) (by simp at hm ⊢;omega) (by omega)
  have h3:=ihz hok.2 (f - x.ts.length - y.ts.length) (k+1+x.ts.length+y.ts.length) m (pre++((43,0)::(x.ts++y.ts))) post (by rw[hT];simp[E.ts]) (by simp[hk];omega) (by omega) (by simp at hm ⊢;omega) (by omega)
  rw[show m+3 - 1=m+2 by omega,h1,if_neg (by omega),show m+2 - 1=m+1 by omega,h2,if_neg (by omega),show m+1 - 1=m by omega,h3,show k+1+x.ts.length+y.ts.length+z.ts.length=k+(x.ts.length+(y.ts.length+z.ts.length)+1) by omega,show f+1 - (x.ts.length+(y.ts.length+z.ts.length)+1)=f - x.ts.length - y.ts.length - z.ts.length by omega]
theorem Wo (F:Nat) (e:E) (hok:e.arOk=true) {T pre post:eM} {k:Nat} (hT:T=pre++(e.ts++post)) (hk:pre.length=k) (hl:T.length<=800) (hF:e.ts.length<=F):yU F T (k:Int)=some (((k+e.ts.length:Nat):Int)):=by
 have hpos:1<=e.ts.length:=by cases e<;>simp[E.ts]
 have hlen:=congrArg List.length hT
 simp only[List.length_append]at hlen
 unfold yU wU
 rw[if_neg (by omega)]
 simp only[decide_eq_true_eq]
 rw[if_neg (by omega)]
 have:=T_ F T (by omega) e hok F k 1 pre post hT hk (by omega) (by simp;omega) hF
 rw[if_pos rfl]at this
 exact this
end
section
def HL (b:Bool):Int:=if b then 1 else 0
theorem qJ (f:Nat) (b:Bool):fT f b=some (HL b):=by cases b<;>rfl
theorem x_ {α:Type} [Inhabited α] {l:List α} {k:Nat} (h:k<l.length):l.take (k+1)=l.take k++[at' l (k:Int)]:=by
 rw[List.take_add_one,List.getElem?_eq_getElem h,iR,List.getD_eq_getElem?_getD,List.getElem?_eq_getElem h];rfl
theorem jY {α:Type} [Inhabited α] {l:List α} {k:Nat} (h:k<l.length):at' l (k:Int)=l[k]:=by
 rw[iR,List.getD_eq_getElem?_getD,List.getElem?_eq_getElem h];rfl
theorem JC {p:Nat->Prop}:∀(n:Nat),p n->∃m,m<=n∧p m∧∀j,j<m->¬p j:=by
 intro n
 induction n using Nat.strongRecOn with
 | _ n ih =>
  intro h
  by_cases hm:∃m,m<n∧p m
  ·obtain⟨m,h1,h2⟩:=hm
   obtain⟨k,a,b,c⟩:=ih m h1 h2
   exact⟨k,by omega,b,c⟩
  ·exact⟨n,Nat.le_refl n,h,fun j hj hp=>hm ⟨j,hj,hp⟩⟩
theorem Ng {α:Type} [DecidableEq α]:∀(l1 l2:List α),l1.Nodup->(∀x∈l1,x∈l2)->l1.length<=l2.length
 | [],l2,_,_=>Nat.zero_le _
 |a::l1,l2,h,hs=>by
  have ha:=hs a List.mem_cons_self
  have h:=List.nodup_cons.1 h
  have:=Ng l1 (l2.erase a) h.2 (fun x hx=>(List.mem_erase_of_ne (fun(e:x=a)=>h.1 (by rw[<-e];exact hx))).2 (hs x (List.mem_cons_of_mem _ hx)))
  rw[List.length_erase_of_mem ha]at this
  have hp:0<l2.length:=List.length_pos_of_mem ha
  simp only[List.length_cons];omega
def nz (x:Int):Bool:=decide (x≠0)
theorem Qo (f:Nat) (l:aL) (h:l.length<f) (hl:l.length<=1000):mY f l=some ((l.countP nz:Nat):Int):=by
 unfold mY
 have:=dV (step:=nR l) (K:=some ((l.countP nz:Nat):Int)) l.length (fun k=>(((l.take k).countP nz:Nat),(k:Int))) (fun k ag hk=>by
  have hc:(l.take k).countP nz<=k:=Nat.le_trans List.countP_le_length (by simp;omega)
  unfold nR pW
  dsimp only
  rw[if_pos (by omega),cN (by omega),x_ hk,List.countP_append,eC (by omega),eC (by omega)]
  by_cases h0:at' l (k:Int)=0
  ·rw[if_neg (by simpa using h0)];simp[nz,h0]
  ·rw[if_pos h0];simp[nz,h0]) (fun ag=>by
  unfold nR tJ
  dsimp only
  rw[if_neg (by omega),List.take_length]) f h
 exact this
theorem DK (f:Nat) (l:aL) (x:Int) (h:l.length<f) (hl:l.length<=1000):oA f l x=some (decide (x∈l)):=by
 have key:∃i:Int,mP f l x=some i∧(0<=i↔x∈l):=by
  by_cases hx:x∈l
  ·obtain⟨i,hi,hix⟩:=List.mem_iff_getElem.1 hx
   have hfirst:∃i,i<l.length∧at' l (i:Int)=x∧∀j,j<i->at' l (j:Int)≠x:=by
    obtain⟨m,h1,h2,h3⟩:=JC (p:=fun i=>at' l (i:Int)=x) i (by rw[jY hi,hix])
    exact⟨m,by omega,h2,h3⟩
   obtain⟨i,hi,h1,h2⟩:=hfirst
   refine⟨i,?_,iff_of_true (by omega) hx⟩
   unfold mP
   exact dV (step:=gT l x) (K:=some (i:Int)) i (fun k=>(k:Int)) (fun k ag hk=>by
    unfold gT
    rw[if_pos (by omega),cN (by omega),if_neg (fun e=>h2 k hk e.symm),eC (by omega)]) (fun ag=>by
    unfold gT
    rw[if_pos (by omega),cN (by omega),if_pos h1.symm]) f (by omega)
  ·refine⟨-1,?_,iff_of_false (by omega) hx⟩
   unfold mP
   exact dV (step:=gT l x) (K:=some (-1)) l.length (fun k=>(k:Int)) (fun k ag hk=>by
    unfold gT
    rw[if_pos (by omega),cN (by omega),if_neg (fun e=>hx (by rw[e,jY hk];exact List.getElem_mem hk)),eC (by omega)]) (fun ag=>by
    unfold gT qY
    rw[if_neg (by omega)]) f h
 obtain⟨i,h1,h2⟩:=key
 unfold oA
 rw[bA h1]
 by_cases hx:x∈l
 ·rw[decide_eq_true hx,decide_eq_true (h2.2 hx)]
 ·rw[decide_eq_false hx,decide_eq_false (fun e=>hx (h2.1 e))]
def yP (l:aL):Int:=match l.findIdx? nz with
 |some i=>(i:Int)
 |none=> -1
theorem Ag {l:aL} {i:Nat} (hi:i<l.length) (h1:at' l (i:Int)≠0) (h2:∀j,j<i->at' l (j:Int)=0):yP l=i:=by
 have:l.findIdx? nz=some i:=by
  rw[List.findIdx?_eq_some_iff_getElem]
  refine⟨hi,by rw[<-jY hi];simpa [nz]using h1,fun j hj=> ?_⟩
  have:=h2 j hj
  rw[jY (by omega)]at this
  simp[nz,this]
 unfold yP;rw[this]
theorem Af {l:aL} (h:∀j,j<l.length->at' l (j:Int)=0):yP l = -1:=by
 have:l.findIdx? nz=none:=by
  rw[List.findIdx?_eq_none_iff]
  intro x hx
  obtain⟨i,hi,rfl⟩:=List.mem_iff_getElem.1 hx
  have:=h i hi
  rw[jY hi]at this
  simp[nz,this]
 unfold yP;rw[this]
theorem QL (f:Nat) (l:aL) (h:l.length<f) (hl:l.length<=1000):kI f l (fun y0=>lP f y0)=some (yP l):=by
 unfold kI
 by_cases hx:∃i,i<l.length∧at' l (i:Int)≠0
 ·obtain⟨i,hi,h0⟩:=hx
  obtain⟨m,h1,h2,h3⟩:=JC (p:=fun i=>at' l (i:Int)≠0) i h0
  have h3:∀j,j<m->at' l (j:Int)=0:=fun j hj=>Decidable.not_not.1 (h3 j hj)
  rw[Ag (by omega) h2 h3]
  exact dV (step:=eG l _) (K:=some (m:Int)) m (fun k=>(k:Int)) (fun k ag hk=>by
   unfold eG lP
   rw[if_pos (by omega),cN (by omega),bA rfl,if_neg (by simp[h3 k hk]),eC (by omega)]) (fun ag=>by
   unfold eG lP
   rw[if_pos (by omega),cN (by omega),bA rfl,if_pos (by simpa using h2)]) f (by omega)
 ·have hx:∀j,j<l.length->at' l (j:Int)=0:=fun j hj=>Decidable.not_not.1 fun e=>hx ⟨j,hj,e⟩
  rw[Af hx]
  exact dV (step:=eG l _) (K:=some (-1)) l.length (fun k=>(k:Int)) (fun k ag hk=>by
   unfold eG lP
   rw[if_pos (by omega),cN (by omega),bA rfl,if_neg (by simp[hx k hk]),eC (by omega)]) (fun ag=>by
   unfold eG lZ
   rw[if_neg (by omega)]) f h
def WJ (l:aL):Int:=l.foldl min 1073741824
theorem WK (f:Nat) (l:aL) (h:l.length<f) (hl:l.length<=1000):bD (pC l) f ((1073741824:Int),(0:Int))=some (WJ l):=by
 exact dV (step:=pC l) (K:=some (WJ l)) l.length (fun k=>((l.take k).foldl min 1073741824,(k:Int))) (fun k ag hk=>by
  unfold pC
  dsimp only
  rw[if_pos (by omega),cN (by omega),x_ hk,List.foldl_append,eC (by omega)];rfl) (fun ag=>by
  unfold pC uZ
  dsimp only
  rw[if_neg (by omega),List.take_length];rfl) f h
def JH (l:aL):Nat->Nat->Nat
 |0,k=>k
 |f+1,k=>if((k:Nat):Int)∈l then JH l f (k+1)else k
def LF (l:aL):Nat:=JH l (l.length+1) 0
theorem Rk (l:aL):((LF l:Nat):Int)∉l∧(∀j,j<LF l->((j:Nat):Int)∈l)∧LF l<=l.length:=by
 have key:∀(f k:Nat),(∀j,j<k->((j:Nat):Int)∈l)->(∀j,j<JH l f k->((j:Nat):Int)∈l)∧(JH l f k=k+f∨((JH l f k:Nat):Int)∉l):=by
  intro f
  induction f with
  |zero=>intro k h;exact⟨h,.inl rfl⟩
  | succ f ih =>
   intro k h
   by_cases hk:((k:Nat):Int)∈l
   ·have:=ih (k+1) (fun j hj=>by
     rcases Nat.lt_or_ge j k with q|q
     ·exact h j q
     ·rw[show j=k by omega];exact hk)
    simp only[JH,if_pos hk]
    exact⟨this.1,this.2.imp (fun e=>by omega) id⟩
   ·simp only[JH,if_neg hk]
    exact⟨h,.inr hk⟩
 have hle:∀m,(∀j,j<m->((j:Nat):Int)∈l)->m<=l.length:=fun m h=>by
  have:=Ng ((List.range m).map fun j=>((j:Nat):Int)) l (by
   rw[List.nodup_iff_pairwise_ne,List.pairwise_map]
   exact(List.nodup_iff_pairwise_ne.1 List.nodup_range).imp (fun h e=>h (by omega))) (fun x hx=>by
   obtain⟨j,hj,rfl⟩:=List.mem_map.1 hx
   exact h j (List.mem_range.1 hj))
  simpa using this
 obtain⟨h1,h2⟩:=key (l.length+1) 0 (fun j hj=>by omega)
 have h3:=hle _ h1
 refine⟨?_,h1,h3⟩
 rcases h2 with h2|h2
 ·have:JH l (l.length+1) 0<=l.length:=h3
  omega
 ·exact h2
theorem WI (f:Nat) (l:aL) (h:l.length+2<f) (hl:l.length<=900):vW f l=some ((LF l:Nat):Int):=by
 obtain⟨h1,h2,h3⟩:=Rk l
 unfold vW
 exact dV (step:=uB f l) (K:=some ((LF l:Nat):Int)) (LF l) (fun k=>(k:Int)) (fun k ag hk=>by
  unfold uB
  rw[bA (DK f l (k:Int) (by omega) (by omega)),if_pos (by simpa using h2 k hk),eC (by omega)]) (fun ag=>by
  unfold uB wQ
  rw[bA (DK f l _ (by omega) (by omega)),if_neg (by simpa using h1)]) f (by omega)
def UN (l:aL):Int:=l.foldl (fun a x=>wI .i64 (a+x)) 0
theorem WZ (f:Nat) (l:aL) (h:l.length<f) (hl:l.length<=1000):bD (pD f l) f ((0:Int),(0:Int))=yO f (UN l):=by
 refine(dV (step:=pD f l) l.length (fun k=>(UN (l.take k),(k:Int))) (fun k ag hk=> ?_) (fun ag=> ?_) f h).trans rfl
 ·unfold pD
  dsimp only
  rw[if_pos (by omega),cN (by omega),eC (by omega),x_ hk]
  unfold UN
  rw[List.foldl_append];rfl
 ·unfold pD
  dsimp only
  rw[if_neg (by omega),List.take_length]
def MQ (o:Int) (l:aL):Int:=
 if o=20 then HL (l.all nz)else if o=21 then HL (l.any nz)else if o=22 then((l.countP nz:Nat):Int)else if o=23 then yP l else if o=24 then WJ l else if o=26 then max (-1073741824) (min (UN l) 1073741824)else((LF l:Nat):Int)
theorem Ug (f:Nat) (o:Int) (l:aL) (hf:40<=f) (hl:l.length<=24) (ho:o=20∨o=21∨o=22∨o=23∨o=24∨o=26∨o=27):wR f o l=some (MQ o l):=by
 have hc:=Qo f l (by omega) (by omega)
 unfold wR
 rcases ho with rfl|rfl|rfl|rfl|rfl|rfl|rfl
 ·rw[if_pos rfl,bA hc,bA (qJ f _),MQ,if_pos rfl]
  have:(decide (((l.countP nz:Nat):Int)=(l.length:Int)))=l.all nz:=by
   rw[Bool.eq_iff_iff];simp[List.countP_eq_length,Int.ofNat_inj]
  rw[this]
 ·rw[if_neg (by decide),if_pos rfl,bA hc,bA (qJ f _),MQ,if_neg (by decide),if_pos rfl]
  have:(decide ((0:Int)<((l.countP nz:Nat):Int)))=l.any nz:=by
   rw[Bool.eq_iff_iff,decide_eq_true_eq,List.any_eq_true,show((0:Int)<((l.countP nz:Nat):Int))↔0<l.countP nz by omega,List.countP_pos_iff]
  rw[this]
 ·rw[if_neg (by decide),if_neg (by decide),if_pos rfl,bA hc];rfl
 ·rw[if_neg (by decide),if_neg (by decide),if_neg (by decide),if_pos rfl,bA (QL f l (by omega) (by omega))];rfl
 ·rw[if_neg (by decide),if_neg (by decide),if_neg (by decide),if_neg (by decide),if_pos rfl,WK f l (by omega) (by omega)];rfl
 ·rw[if_neg (by decide),if_neg (by decide),if_neg (by decide),if_neg (by decide),if_neg (by decide),if_neg (by decide),if_pos rfl,WZ f l (by omega) (by omega)];rfl
 ·rw[if_neg (by decide),if_neg (by decide),if_neg (by decide),if_neg (by decide),if_neg (by decide),if_neg (by decide),if_neg (by decide),if_pos rfl,bA (WI f l (by omega) (by omega))];rfl
end
end Go.Proofs.YtjlbcgddhnjcjaaGreatDoor
end
section
namespace Go.Proofs.YtjlbcgddhnjcjaaGreatDoor
open Go.Sx
section
def xD (U:Nat) (p0:ByteArray):Option ((ByteArray×Int×Int×Int×Int×Int)):=
 some ((p0,(2:Int),(0:Int),(0:Int),(0:Int),(0:Int)))
theorem VU:aN Tryz.prog 42:=Tryz.call42
theorem Gw (U:Nat) {p0:ByteArray} (r:(ByteArray×Int×Int×Int×Int×Int)) (h:xD U p0=some r):
  aT Tryz.prog 42 #[vS (p0)] [] (fun x:Unit=>Value.agg #[vS (r.1),vI (r.2.1),vI (r.2.2.1),vI (r.2.2.2.1),vI (r.2.2.2.2.1),vI (r.2.2.2.2.2)]) (fun x l=>l) (fun _ l=>l):=by
 refine aT.of Tryz.func42 rfl Tryz.ntmps42 rfl fun c=>?_
 unfold xD at h
 refine sqR<|aF (aJ.alloc (cs:=vD4) rfl rfl) rfl fun b1=>dtN<|sqR<|qkMove rfl ?_
 refine aB (zZ (r:=Value.agg #[vS (p0),vI (2:Int),vI (0:Int),vI (0:Int),vI (0:Int),vI (0:Int)]) rfl rfl (by intro w;simp[Instr.build,Instr.fill,dB,cO,cD,dC,dD,cP,eD])) rfl ?_
 refine bB 0 (vs:=[vS (p0),vI (2:Int),vI (0:Int),vI (0:Int),vI (0:Int),vI (0:Int)]) rfl rfl rfl rfl rfl rfl<|dtN<|aP ?_
 cases h
 exact gV () rfl rfl (RV.cell 0 rfl rfl rfl rfl) .nil aD.nil
end
section
def yT (U:Nat)  : Option ((List (ByteArray×Int×Int×Int×Int×Int))):=
 Option.bind (xD U (ByteArray.mk #[109])) fun r1=>(some ([(r1.1,r1.2.1,r1.2.2.1,r1.2.2.2.1,r1.2.2.2.2.1,r1.2.2.2.2.2)]))
theorem VJ:aN Tryz.prog 10:=Tryz.call10
theorem Iw (U:Nat)  (r:(List (ByteArray×Int×Int×Int×Int×Int))) (h:yT U  = some r):
  aT Tryz.prog 10 #[] [] (fun x:Value=>x) (fun x l=>Ar pL x r::l) (fun _ l=>l):=by
 refine aT.of Tryz.func10 rfl Tryz.ntmps10 rfl fun c=>?_
 refine sqR<|qkAsg rfl<|dtN<|sqR<|bnE h fun r1 w2 h=>aF (aJ.callQ VU (Gw U  r1 w2) rfl .nil) rfl fun x3=>aF (cE (e:=pL) ([((r1.1,r1.2.1,r1.2.2.1,r1.2.2.2.1,r1.2.2.2.2.1,r1.2.2.2.2.2))]) [(0,Value.agg #[vS (r1.1),vI (r1.2.1),vI (r1.2.2.1),vI (r1.2.2.2.1),vI (r1.2.2.2.2.1),vI (r1.2.2.2.2.2)])] rfl rfl rfl rfl (QI (vS (r1.1)) (vI (r1.2.1)) (vI (r1.2.2.1)) (vI (r1.2.2.2.1)) (vI (r1.2.2.2.2.1)) (vI (r1.2.2.2.2.2))) rfl rfl rfl) rfl fun u4=>qkAsg rfl<|dtN<|aP ?_
 cases h
 exact gV (u4) rfl rfl (RV.tmp rfl) (aW.refl _) aD.nil
end
section
def uD (U:Nat) (p0:dN):Option (Int):=
 ck (0<=(List.length p0.1:Int)) (some (wI .u32 ((vN .u32 (1:Int) (List.length p0.1:Int)) - (1:Int))))
theorem Tl:aN Tryz.prog 100:=Tryz.call100
theorem Kl (U:Nat) {p0:dN} (v0:Value)  (v1:Value)  (z2:mT) (r:Int) (h:uD U p0=some r):
  aT Tryz.prog 100 #[Value.agg #[v0,v1]] [Sl bK v0 p0.1,S2 aZ v1 z2 p0.2] (fun x:Unit=>vU (r)) (fun x l=>l) (fun _ l=>l):=by
 refine aT.of Tryz.func100 rfl Tryz.ntmps100 rfl fun c=>?_
 refine sqR<|aF (aJ.box (cs:=[v0,v1]) rfl rfl) rfl fun b1=>qkAsg rfl<|dtN<|sqR<|qkFld rfl<|qkLd 0 rfl<|qkLen (aC.fact 0 rfl) rfl<|ckE h fun j2 h=>aB (EV rfl rfl j2) rfl<|aB (nW rfl rfl) rfl<|qkAsg rfl<|dtN<|aP ?_
 cases h
 exact wG rfl
end
section
def qZ  (a8:bG):Option bG:=
 some (a8)
def uO (a15:bG×Int) (ag14:(bG×Int)->Option bG) (a21:aL):Option bG:=
 ck ((List.length a15.1:Int)+(List.length ([a21]):Int)<=1099511627) (ag14 ((a15.1++[a21]),(wI .i64 (a15.2+(1:Int)))))
def lC (U:Nat) (p1:DZ) (p2:aL) (a15:bG×Int) (a33:aL×Int) (ag32:(aL×Int)->Option bG) (a43:dM):Option bG:=
 Option.bind (oS U p2 (wI .i64 ((wI .i64 (a15.2*(List.length p1:Int)))+a33.2))) fun r45=>(Option.bind (eB U r45 (wI .i64 ((wI .i64 (a43.2 - a43.1))+(1:Int)))) fun r48=>(ck ((List.length a33.1:Int)+(List.length ([(wI .i64 (a43.1+r48))]):Int)<=1099511627) (ag32 ((a33.1++([(wI .i64 (a43.1+r48))])),(wI .i64 (a33.2+(1:Int)))))))
def lD (U:Nat) (p0:dN) (p1:DZ) (p2:aL) (a3:Int) (a15:bG×Int) (ag14:(bG×Int)->Option bG) (a33:aL×Int) (ag32:(aL×Int)->Option bG):Option bG:=
 if a33.2<(List.length p1:Int)then(ck (0<=a33.2∧a33.2<(List.length p1:Int)) (ck (0<=a33.2∧a33.2<(List.length p1:Int)) (ck (0<=a33.2∧a33.2<(List.length p1:Int)) (ck (0<=a33.2∧a33.2<(List.length p1:Int)) (ck (0<=a33.2∧a33.2<(List.length p1:Int)) (if((at' p1 a33.2).2.1)=(2:Int)then(lC U p1 p2 a15 a33 ag32 ((0:Int),(1:Int)))else(if((at' p1 a33.2).2.1)=(3:Int)then(ck (0<=a15.2∧a15.2<(List.length p0.2:Int)) (lC U p1 p2 a15 a33 ag32 ((-1:Int),(wI .i64 ((List.length (at' p0.2 a15.2):Int) - (1:Int))))))else(lC U p1 p2 a15 a33 ag32 (((at' p1 a33.2).2.2.1),(wI .i64 ((wI .i64 (((at' p1 a33.2).2.2.2.1)+(wI .i64 (((at' p1 a33.2).2.2.2.2.1)*(List.length p0.2:Int)))))+(wI .i64 (((at' p1 a33.2).2.2.2.2.2)*a3)))))))))))))else(uO a15 ag14 (a33.1))
def gU (U:Nat) (p0:dN) (p1:DZ) (p2:aL) (a3:Int) (a15:bG×Int) (ag14:(bG×Int)->Option bG):Option bG:=
 if a15.2<(List.length p0.2:Int)then(bD (lD U p0 p1 p2 a3 a15 ag14) U (([]:aL),(0:Int)))else(qZ  (a15.1))
def nN (U:Nat) (p0:dN) (p1:DZ) (p2:aL) (a3:Int):Option bG:=
 bD (gU U p0 p1 p2 a3) U (([]:bG),(0:Int))
def q_ (U:Nat) (p0:dN) (p1:DZ) (p2:aL) (a61:dM) (ag60:c_->Option bG):Option bG:=
 if a61.2<(List.length p0.2:Int)then(ck (0<=a61.2∧a61.2<(List.length p0.1:Int)) (ag60 ((max a61.1 (at' p0.1 a61.2)),(wI .i64 (a61.2+(1:Int))))))else(nN U p0 p1 p2 (a61.1))
def kJ (U:Nat) (p0:dN) (p1:DZ) (p2:aL):Option bG:=
 bD (q_ U p0 p1 p2) U ((0:Int),(0:Int))
theorem VK:aN Tryz.prog 14:=Tryz.call14
theorem Ga (U:Nat) {p0:dN} {p1:DZ} {p2:aL} (v0:Value)  (v1:Value)  (z2:mT)  (v3:Value)  (v4:Value) (r:bG) (h:kJ U p0 p1 p2=some r):
  aT Tryz.prog 14 #[Value.agg #[v0,v1],v3,v4] [Sl bK v0 p0.1,S2 aZ v1 z2 p0.2,Sl aI v3 p1,Sl bK v4 p2] (fun x:Gf=>x.1) (fun x l=>Ar dH.raw x.1 x.2::jW bV x.2 r::l) (fun _ l=>l):=by
 refine aT.of Tryz.func14 rfl Tryz.ntmps14 rfl fun c=>?_
 unfold kJ at h
 refine sqR<|aF (aJ.box (cs:=[v0,v1]) rfl rfl) rfl fun b1=>qkAsg rfl<|dtN<|sqR<|qkFld rfl<|qkLd 0 rfl<|aB (lN rfl (aC.fact 1 rfl) rfl) rfl<|qkAsg rfl<|qkAsg rfl<|dtN<|aH<|midU (fun a3=>nN U p0 p1 p2 a3=some r) (fun a3 b4=>[(1,v3),(2,v4),(3,vP b1),(7,vI (List.length p0.2:Int)),(8,vI (a3))]) (fun a3 b4=>[bT b1 [v0,v1] 29]) ?_ ?_
 ·refine sqR<|qkAsg rfl<|dtN<|aM<|loopL (q_ U p0 p1 p2) (fun a61 b62=>[(1,v3),(2,v4),(3,vP b1),(7,vI (List.length p0.2:Int)),(8,vI (a61.1)),(9,vI (a61.2))]) (fun a61 b62=>[bT b1 [v0,v1] 29]) ((0:Int),(0:Int)) () h SF (aW.refl _) ?_
  intro k63 a61 b62 h
  refine aH<|sqR<|qkMove rfl<|qkMove rfl<|qkLss rfl<|dtN ?_
  refine eN h rfl (fun h=>?_) fun h=>?_
  ·refine cF<|aH<|aM<|aK<|qkMove rfl<|qkFld rfl<|qkLd 0 rfl<|qkMove rfl<|ckE h fun j65 h=>aB (aY rfl rfl (aC.fact 0 rfl) rfl rfl j65) rfl<|aB (bY rfl (aC.fact 0 rfl) rfl rfl rfl eI j65) rfl<|aB (ES rfl rfl) rfl<|qkAsg rfl<|dA<|inT<|aK<|qkMove rfl<|qkAdd rfl<|qkAsg rfl<|dtN ?_
   exact xO ((max a61.1 (at' p0.1 a61.2)),(wI .i64 (a61.2+(1:Int)))) () h SF rfl
  refine fL ?_
  exact iG (a61.1) () h SF rfl
 intro a3 b4 h
 unfold nN at h
 refine sqR<|qkAsg rfl<|dtN<|aH<|midL (B:=Gf) (fun a8=>qZ  a8=some r) (fun a8 b9=>[(10,b9.1)]) (fun a8 b9=>[Ar dH.raw b9.1 b9.2,jW bV b9.2 a8]) ?_ ?_
 ·refine sqR<|qkAsg rfl<|dtN<|aM<|jC (gR dH.raw) (jC (t_ bV) ?_)
  refine loopL (B:=Gf) (gU U p0 p1 p2 a3) (fun a15 b16=>[(1,v3),(2,v4),(3,vP b1),(7,vI (List.length p0.2:Int)),(8,vI (a3)),(10,b16.1),(11,vI (a15.2))]) (fun a15 b16=>[bT b1 [v0,v1] 29,Ar dH.raw b16.1 b16.2,jW bV b16.2 a15.1]) (([]:bG),(0:Int)) ((kX),([]:fP)) h SF (aW.ix [2,1,0] rfl rfl) ?_
  intro k17 a15 b16 h
  refine aH<|sqR<|qkMove rfl<|qkMove rfl<|qkLss rfl<|dtN ?_
  refine eN h rfl (fun h=>?_) fun h=>?_
  ·refine cF<|aH<|aM<|sqR<|qkAsg rfl<|dtN<|aH<|midL (B:=Value) (fun a21=>uO a15 (bD (gU U p0 p1 p2 a3) k17) a21=some r) (fun a21 b22=>[(1,v3),(2,v4),(3,vP b1),(7,vI (List.length p0.2:Int)),(8,vI (a3)),(10,b16.1),(11,vI (a15.2)),(12,b22)]) (fun a21 b22=>[bT b1 [v0,v1] 29,Ar dH.raw b16.1 b16.2,jW bV b16.2 a15.1,Ar bV b22 a21]) ?_ ?_
   ·refine sqR<|qkAsg rfl<|dtN<|aM<|jC (gR bV)<|loopL (B:=Value) (lD U p0 p1 p2 a3 a15 (bD (gU U p0 p1 p2 a3) k17)) (fun a33 b34=>[(1,v3),(2,v4),(3,vP b1),(7,vI (List.length p0.2:Int)),(8,vI (a3)),(10,b16.1),(11,vI (a15.2)),(12,b34),(13,vI (a33.2))]) (fun a33 b34=>[bT b1 [v0,v1] 29,Ar dH.raw b16.1 b16.2,jW bV b16.2 a15.1,Ar bV b34 a33.1]) (([]:aL),(0:Int)) (kX) h SF (aW.ix [1,2,3,0] rfl rfl) ?_
    intro k35 a33 b34 h
    refine aH<|sqR<|qkMove rfl<|qkMove rfl<|qkLen (aC.fact 2 rfl) rfl<|qkLss rfl<|dtN ?_
    refine eN h rfl (fun h=>?_) fun h=>?_
    ·refine cF<|aH<|aM<|aH ?_
     refine JR.start [0,0,3,7,15,0,0,96,224,480,0,0,3072,7168,15360,0,64512,131040,0,0,786432,1835008,3932160,0,16515072,33554400,31,134217727] 27 mixedOrders (by decide +kernel) ?_
     refine JR.open (by exact rfl) ?_
     refine jkMove rfl<|jkMove rfl<|ckE h fun j37 h=>bH rfl .nil (qF 2 rfl) (aY rfl rfl (aC.fact 0 rfl) rfl rfl j37) aO.z<|jqN rfl (mD rfl rfl rfl rfl rfl)<|bH rfl .nil (qF 2 rfl) (nZ rfl (aC.fact 0 rfl) rfl rfl rfl zJ j37) aO.z<|jkMove rfl<|jkMove rfl<|ckE h fun j38 h=>bH rfl .nil (qF 2 rfl) (aY rfl rfl (aC.fact 0 rfl) rfl rfl j38) aO.z<|jqN rfl (mD rfl rfl rfl rfl rfl)<|bH rfl .nil (qF 2 rfl) (nZ rfl (aC.fact 0 rfl) rfl rfl rfl zK j38) aO.z<|jkMove rfl<|jkMove rfl<|ckE h fun j39 h=>bH rfl .nil (qF 2 rfl) (aY rfl rfl (aC.fact 0 rfl) rfl rfl j39) aO.z<|jqN rfl (mD rfl rfl rfl rfl rfl)<|bH rfl .nil (qF 2 rfl) (nZ rfl (aC.fact 0 rfl) rfl rfl rfl zL j39) aO.z<|jkMove rfl<|jqN rfl (yK rfl rfl)<|jqN rfl (uI rfl rfl)<|jkMove rfl<|jkMove rfl<|ckE h fun j40 h=>bH rfl .nil (qF 2 rfl) (aY rfl rfl (aC.fact 0 rfl) rfl rfl j40) aO.z<|jqN rfl (mD rfl rfl rfl rfl rfl)<|bH rfl .nil (qF 2 rfl) (nZ rfl (aC.fact 0 rfl) rfl rfl rfl zM j40) aO.z<|jkMove rfl<|jqN rfl (yK rfl rfl)<|jqN rfl (uI rfl rfl)<|jqN rfl (vL rfl)<|bS 27 rfl rfl<|qkAsg rfl<|dtN<|aH<|midU (fun a43=>lC U p1 p2 a15 a33 (bD (lD U p0 p1 p2 a3 a15 (bD (gU U p0 p1 p2 a3) k17)) k35) a43=some r) (fun a43 b44=>[(1,v3),(2,v4),(3,vP b1),(7,vI (List.length p0.2:Int)),(8,vI (a3)),(10,b16.1),(11,vI (a15.2)),(12,b34),(13,vI (a33.2)),(14,vI (a43.1)),(15,vI (a43.2))]) (fun a43 b44=>[bT b1 [v0,v1] 29,Ar dH.raw b16.1 b16.2,jW bV b16.2 a15.1,Ar bV b34 a33.1]) ?_ ?_
     ·refine sqR<|qkMove rfl<|qkMove rfl<|ckE h fun j54 h=>aB (aY rfl rfl (aC.fact 2 rfl) rfl rfl j54) rfl<|aB (mD rfl rfl rfl rfl rfl) rfl<|aB (nZ rfl (aC.fact 2 rfl) rfl rfl rfl sS j54) rfl<|dtN<|aM<|sqR<|qkEql rfl<|qkAsg rfl<|dtN ?_
      refine eN h rfl (fun h=>?_) fun h=>?_
      ·refine aK<|qkAsg rfl<|qkAsg rfl<|dA<|inT ?_
       exact iG ((0:Int),(1:Int)) () h SF rfl
      refine sqR<|qkEql rfl<|qkAsg rfl<|dtN ?_
      refine eN h rfl (fun h=>?_) fun h=>?_
      ·refine JR.start [0,1,0,7,15,31,63,0,255] 8 mixedOrders (by decide +kernel) ?_
       refine JR.open (by exact rfl) ?_
       refine jkFld rfl<|jkLd 0 rfl<|jkMove rfl<|ckE h fun j57 h=>bH rfl .nil (qF 1 rfl) (dL rfl rfl (aC.fact 0 rfl) rfl rfl j57) aO.z<|bH rfl .nil (qF 1 rfl) (dW rfl (aC.fact 0 rfl) rfl rfl j57) aO.z<|bH rfl .nil (qF 1 rfl) (jF rfl (aC.el (aC.fact 0 rfl) j57.1 j57.2) rfl) aO.z<|jqN rfl (nW rfl rfl)<|jqN rfl (vL rfl)<|bS 8 rfl rfl<|qkAsg rfl<|dA<|inT ?_
       exact iG ((-1:Int),(wI .i64 ((List.length (at' p0.2 a15.2):Int) - (1:Int)))) () h SF rfl
      refine dO<|inT ?_
      exact iG (((at' p1 a33.2).2.2.1),(wI .i64 ((wI .i64 (((at' p1 a33.2).2.2.2.1)+(wI .i64 (((at' p1 a33.2).2.2.2.2.1)*(List.length p0.2:Int)))))+(wI .i64 (((at' p1 a33.2).2.2.2.2.2)*a3))))) () h SF rfl
     intro a43 b44 h
     refine aK<|qkMove rfl<|qkMove rfl<|qkMove rfl<|qkMove rfl<|qkMove rfl<|qkLen (aC.fact 2 rfl) rfl<|aB (yK rfl rfl) rfl<|qkMove rfl<|qkAdd rfl<|bnE h fun r45 w46 h=>aF (aJ.callQ E_ (wE U v4 r45 w46) rfl (nY [3] rfl)) rfl fun x47=>qkMove rfl<|qkMove rfl<|aB (nW rfl rfl) rfl<|qkAdd rfl<|bnE h fun r48 w49 h=>aF (aJ.callQ yL (gO U  r48 w49) rfl .nil) rfl fun x50=>qkAdd rfl<|aF (cE (e:=bV) ([(wI .i64 (a43.1+r48))]) [(0,vI (wI .i64 (a43.1+r48)))] rfl rfl rfl rfl (nG (vI (wI .i64 (a43.1+r48))) rfl) rfl rfl rfl) rfl fun u51=>ckE h fun j53 h=>aF (fR 4 cW rfl rfl rfl (aV (aC.res 0 rfl) cW) rfl rfl rfl rfl j53 rfl) rfl fun u52=>qkAsg rfl<|dA<|inT<|aK<|qkMove rfl<|qkAdd rfl<|qkAsg rfl<|dtN ?_
     exact mA ((a33.1++([(wI .i64 (a43.1+r48))])),(wI .i64 (a33.2+(1:Int)))) (u52) h SF (aW.ix [1,2,3,4] rfl rfl) (aD.refl _ _)
    refine fL ?_
    exact iG (a33.1) (b34) h SF rfl
   intro a21 b22 h
   refine aK<|qkMove rfl<|qkMove rfl<|jC (t_ bV)<|bP (Know.one ((aV (aC.res 4 rfl) cW))) fun ho23=>jC (K_ 0 4 rfl rfl rfl) ?_
   refine aF (cE (e:=dH.raw) [b22] [(0,b22)] rfl rfl rfl rfl (nG (b22) ho23) rfl rfl (by simp[cellsOf,dH.raw,ho23])) rfl fun u24=>?_
   refine bP (cJ 4 rfl) fun hl25=>bP (cJ 1 rfl) fun hl26=>ckE h fun j27 h=>jC (Jb 4 1 rfl rfl rfl) ?_
   refine aF (aJ.append 2 0 rfl rfl rfl rfl rfl rfl rfl (by have q:=j27;have q1:=hl25;have q2:=hl26;(try simp only[List.length_cons,List.length_nil]at q q1 q2 ⊢);omega) (by have q:=j27;have q1:=hl25;have q2:=hl26;(try simp only[List.length_cons,List.length_nil]at q q1 q2 ⊢);omega) rfl) rfl fun u28=>?_
   refine qkAsg rfl<|dA<|inT<|aK<|qkMove rfl<|qkAdd rfl<|qkAsg rfl<|dtN ?_
   exact mA ((a15.1++[a21]),(wI .i64 (a15.2+(1:Int)))) (u28,(b16.2++[b22])) h SF (aW.ix [1,2,3] rfl rfl) (aD.refl _ _)
  refine fL ?_
  exact cG (a15.1) (b16.1,b16.2) h SF (aW.ix [1,2] rfl rfl) (aD.refl _ _)
 intro a8 b9 h
 unfold qZ at h
 refine sqR<|qkMove rfl<|qkAsg rfl<|dtN<|aP ?_
 cases h
 exact gV (b9.1,b9.2) rfl rfl (RV.tmp rfl) (aW.refl _) aD.nil
end
section
def qR  (a10:aL):Option aL:=
 some (a10)
def nH (a29:Int×aL×aL) (ag28:(Int×aL×aL)->Option aL) (a36:aL×aL):Option aL:=
 ag28 ((wI .i64 (a29.1+(1:Int))),a36.1,a36.2)
def nJ (p0:dN) (a16:aL×aL) (ag15:(aL×aL)->Option aL) (a29:Int×aL×aL) (ag28:(Int×aL×aL)->Option aL):Option aL:=
 if a29.1<(List.length (at' p0.2 (at' a16.1 (0:Int))):Int)then(ck (0<=a29.1∧a29.1<(List.length (at' p0.2 (at' a16.1 (0:Int))):Int)) (ck (0<=((at' (at' p0.2 (at' a16.1 (0:Int))) a29.1).1)∧((at' (at' p0.2 (at' a16.1 (0:Int))) a29.1).1)<(List.length a29.2.2:Int)) (if(at' a29.2.2 ((at' (at' p0.2 (at' a16.1 (0:Int))) a29.1).1))<(0:Int)then(ck (0<=(at' a16.1 (0:Int))∧(at' a16.1 (0:Int))<(List.length a29.2.2:Int)) (ck (0<=((at' (at' p0.2 (at' a16.1 (0:Int))) a29.1).1)∧((at' (at' p0.2 (at' a16.1 (0:Int))) a29.1).1)<(List.length a29.2.2:Int)) (ck ((List.length a29.2.1:Int)+(List.length ([((at' (at' p0.2 (at' a16.1 (0:Int))) a29.1).1)]):Int)<=1099511627) (nH a29 ag28 ((a29.2.1++([((at' (at' p0.2 (at' a16.1 (0:Int))) a29.1).1)])),(List.set a29.2.2 (Int.toNat ((at' (at' p0.2 (at' a16.1 (0:Int))) a29.1).1)) (wI .i64 ((at' a29.2.2 (at' a16.1 (0:Int)))+(1:Int)))))))))else(nH a29 ag28 (a29.2.1,a29.2.2)))))else(ag15 (a29.2.1,a29.2.2))
def lA (U:Nat) (p0:dN) (a16:aL×aL) (ag15:(aL×aL)->Option aL):Option aL:=
 if(0:Int)<(List.length a16.1:Int)then(ck (0<=(0:Int)∧(0:Int)<(List.length a16.1:Int)) (ck (0<=(1:Int)∧(1:Int)<=(List.length a16.1:Int)) (ck (0<=(at' a16.1 (0:Int))∧(at' a16.1 (0:Int))<(List.length p0.2:Int)) (bD (nJ p0 a16 ag15) U ((0:Int),(List.drop (Int.toNat (1:Int)) a16.1),a16.2)))))else(qR  (a16.2))
def uK (U:Nat) (p0:dN) (p1:Int) (a5:aL):Option aL:=
 ck (0<=p1∧p1<(List.length a5:Int)) (bD (lA U p0) U (([p1]),(List.set a5 (Int.toNat p1) (0:Int))))
def uL (U:Nat) (p0:dN) (p1:Int) (a50:oU) (ag49:uT->Option aL):Option aL:=
 if a50.1<(List.length (List.replicate (Int.toNat (List.length p0.2:Int)) (0:Int)):Int)then(ck (0<=a50.1∧a50.1<(List.length a50.2:Int)) (ag49 ((wI .i64 (a50.1+(1:Int))),(List.set a50.2 (Int.toNat a50.1) (-1:Int)))))else(uK U p0 p1 (a50.2))
def sG (U:Nat) (p0:dN) (p1:Int):Option aL:=
 ck (0<=(List.length p0.2:Int)∧(List.length p0.2:Int)<=1099511627) (bD (uL U p0 p1) U ((0:Int),(List.replicate (Int.toNat (List.length p0.2:Int)) (0:Int))))
theorem Tu:aN Tryz.prog 144:=Tryz.call144
theorem FX (U:Nat) {p0:dN} {p1:Int} (v0:Value)  (v1:Value)  (z2:mT) (r:aL) (h:sG U p0 p1=some r):
  aT Tryz.prog 144 #[Value.agg #[v0,v1],vI (p1)] [Sl bK v0 p0.1,S2 aZ v1 z2 p0.2] (fun x:Value=>x) (fun x l=>Ar bV x r::l) (fun _ l=>l):=by
 refine aT.of Tryz.func144 rfl Tryz.ntmps144 rfl fun c=>?_
 refine sqR<|aF (aJ.box (cs:=[v0,v1]) rfl rfl) rfl fun b1=>qkAsg rfl<|dtN<|sqR<|qkFld rfl<|qkLd 0 rfl<|aB (lN rfl (aC.fact 1 rfl) rfl) rfl<|ckE h fun j2 h=>aF (oG (e:=bV) (0:Int) rfl rfl rfl rfl j2 rfl rfl rfl) rfl fun u3=>qkAsg rfl<|dtN<|aH<|midU (fun a5=>uK U p0 p1 a5=some r) (fun a5 b6=>[(1,vI (p1)),(2,vP b1),(5,u3)]) (fun a5 b6=>[Ar bV u3 a5,bT b1 [v0,v1] 29]) ?_ ?_
 ·refine sqR<|qkMove rfl<|aB (jF rfl (aV (aC.res 0 rfl) cW) rfl) rfl<|qkMove rfl<|dtN<|aM<|loopL (uL U p0 p1) (fun a50 b51=>[(1,vI (p1)),(2,vP b1),(5,u3),(16,vI (List.length (List.replicate (Int.toNat (List.length p0.2:Int)) (0:Int)):Int)),(17,vI (a50.1))]) (fun a50 b51=>[Ar bV u3 a50.2,bT b1 [v0,v1] 29]) ((0:Int),(List.replicate (Int.toNat (List.length p0.2:Int)) (0:Int))) () h SF (aW.refl _) ?_
  intro k52 a50 b51 h
  refine sqR<|qkLss rfl<|dtN<|aH ?_
  refine eN h rfl (fun h=>?_) fun h=>?_
  ·refine cF<|aH<|aM<|sqR<|qkMove rfl<|qkAsg rfl<|dtN<|aK<|qkMove rfl<|qkMove rfl<|ckE h fun j54 h=>aB (aY rfl rfl (aV (aC.res 0 rfl) cW) rfl rfl j54) rfl<|vK 0 (-1:Int) j54 rfl rfl rfl rfl rfl rfl rfl<|dA<|inT<|aK<|qkAdd rfl<|qkMove rfl<|dtN ?_
   exact xO ((wI .i64 (a50.1+(1:Int))),(List.set a50.2 (Int.toNat a50.1) (-1:Int))) () h SF rfl
  refine fL ?_
  exact iG (a50.2) () h SF rfl
 intro a5 b6 h
 refine sqR<|qkMove rfl<|qkMove rfl<|ckE h fun j7 h=>aB (aY rfl rfl (aV (aC.res 0 rfl) cW) rfl rfl j7) rfl<|vK 0 (0:Int) j7 rfl rfl rfl rfl rfl rfl rfl<|dtN<|sqR<|qkMove rfl<|aF (cE (e:=bV) ([p1]) [(0,vI (p1))] rfl rfl rfl rfl (nG (vI (p1)) rfl) rfl rfl rfl) rfl fun u8=>qkAsg rfl<|dtN<|aH<|midU (fun a10=>qR  a10=some r) (fun a10 b11=>[(5,u3)]) (fun a10 b11=>[Ar bV u3 a10]) ?_ ?_
 ·refine aM<|loopL (B:=Value) (lA U p0) (fun a16 b17=>[(2,vP b1),(5,u3),(7,b17)]) (fun a16 b17=>[Ar bV b17 a16.1,Ar bV u3 a16.2,bT b1 [v0,v1] 29]) (([p1]),(List.set a5 (Int.toNat p1) (0:Int))) (u8) h SF (aW.refl _) ?_
  intro k18 a16 b17 h
  refine aH<|sqR<|qkMove rfl<|aB (jF rfl (aV (aC.res 0 rfl) cW) rfl) rfl<|aB (vM rfl rfl) rfl<|dtN ?_
  refine eN h rfl (fun h=>?_) fun h=>?_
  ·refine cF<|aM<|sqR<|qkMove rfl<|ckE h fun j20 h=>aB (aY rfl rfl (aV (aC.res 0 rfl) cW) rfl rfl j20) rfl<|aB (bY rfl (aV (aC.res 0 rfl) cW) rfl rfl rfl eI j20) rfl<|qkAsg rfl<|dtN<|sqR<|qkMove rfl<|ckE h fun j21 h=>aF (IN 0 j21 rfl rfl rfl rfl rfl rfl) rfl fun u22=>qkAsg rfl<|dtN<|sqR<|qkFld rfl<|qkLd 2 rfl<|qkMove rfl<|ckE h fun j23 h=>aB (dL rfl rfl (aC.fact 1 rfl) rfl rfl j23) rfl<|aB (dW rfl (aC.fact 1 rfl) rfl rfl j23) rfl<|aB (jF rfl (aC.el (aC.fact 1 rfl) j23.1 j23.2) rfl) rfl<|qkMove rfl<|dtN<|aM<|loopL (B:=Value) (nJ p0 a16 (bD (lA U p0) k18)) (fun a29 b30=>[(2,vP b1),(5,u3),(7,b30),(8,vI (at' a16.1 (0:Int))),(41,(at' z2 (at' a16.1 (0:Int))).1),(42,vI (List.length (at' p0.2 (at' a16.1 (0:Int))):Int)),(43,vI (a29.1))]) (fun a29 b30=>[Ar bV b30 a29.2.1,Ar bV u3 a29.2.2,bT b1 [v0,v1] 29]) ((0:Int),(List.drop (Int.toNat (1:Int)) a16.1),a16.2) (u22) h SF (aW.refl _) ?_
   intro k31 a29 b30 h
   refine sqR<|qkLss rfl<|dtN<|aH ?_
   refine eN h rfl (fun h=>?_) fun h=>?_
   ·refine cF<|aH<|midL (B:=Value) (fun a36=>nH a29 (bD (nJ p0 a16 (bD (lA U p0) k18)) k31) a36=some r) (fun a36 b37=>[(2,vP b1),(5,u3),(7,b37),(8,vI (at' a16.1 (0:Int))),(41,(at' z2 (at' a16.1 (0:Int))).1),(42,vI (List.length (at' p0.2 (at' a16.1 (0:Int))):Int)),(43,vI (a29.1))]) (fun a36 b37=>[Ar bV b37 a36.1,Ar bV u3 a36.2,bT b1 [v0,v1] 29]) ?_ ?_
    ·refine aM<|sqR<|ckE h fun j38 h=>aB (aY rfl rfl (aC.el (aC.fact 1 rfl) j23.1 j23.2) rfl rfl j38) rfl<|aB (iJ (cs:=[vI ((at' (at' p0.2 (at' a16.1 (0:Int))) a29.1).1),vI ((at' (at' p0.2 (at' a16.1 (0:Int))) a29.1).2)]) rfl (aC.el (aC.fact 1 rfl) j23.1 j23.2) bI rfl rfl rfl rfl j38) rfl<|aF (aJ.alloc (cs:=Sp) rfl rfl) rfl fun b39=>bB 0 (vs:=[vI ((at' (at' p0.2 (at' a16.1 (0:Int))) a29.1).1),vI ((at' (at' p0.2 (at' a16.1 (0:Int))) a29.1).2)]) rfl rfl rfl rfl rfl rfl<|dtN<|sqR<|qkMove rfl<|qkFld rfl<|qkLd 0 rfl<|ckE h fun j40 h=>aB (aY rfl rfl (aV (aC.res 2 rfl) cW) rfl rfl j40) rfl<|aB (bY rfl (aV (aC.res 2 rfl) cW) rfl rfl rfl eI j40) rfl<|qkLss rfl<|dtN ?_
     refine eN h rfl (fun h=>?_) fun h=>?_
     ·refine aH ?_
      refine JR.start [0,0,2,0,0,24,56,120,255,511] 8 mixedOrders (by decide +kernel) ?_
      refine JR.open (by exact rfl) ?_
      refine jkMove rfl<|jkFld rfl<|jkLd 0 rfl<|jkMove rfl<|jkMove rfl<|ckE h fun j42 h=>bH rfl (aW.cons 2 rfl .nil) .nil (aY rfl rfl (aV (aC.res 0 rfl) cW) rfl rfl j42) aO.z<|bH rfl (aW.cons 2 rfl .nil) .nil (bY rfl (aV (aC.res 0 rfl) cW) rfl rfl rfl eI j42) aO.z<|jqN rfl (uI rfl rfl)<|bS 8 rfl rfl<|ckE h fun j43 h=>aB (aY rfl rfl (aV (aC.res 2 rfl) cW) rfl rfl j43) rfl<|vK 2 (wI .i64 ((at' a29.2.2 (at' a16.1 (0:Int)))+(1:Int))) j43 rfl rfl rfl rfl rfl rfl rfl<|dtN<|aK<|qkMove rfl<|qkFld rfl<|qkLd 0 rfl<|aF (cE (e:=bV) ([((at' (at' p0.2 (at' a16.1 (0:Int))) a29.1).1)]) [(0,vI ((at' (at' p0.2 (at' a16.1 (0:Int))) a29.1).1))] rfl rfl rfl rfl (nG (vI ((at' (at' p0.2 (at' a16.1 (0:Int))) a29.1).1)) rfl) rfl rfl rfl) rfl fun u44=>ckE h fun j46 h=>aF (fR 2 cW rfl rfl rfl (aV (aC.res 0 rfl) cW) rfl rfl rfl rfl j46 rfl) rfl fun u45=>qkAsg rfl<|dA<|inT ?_
      exact cG ((a29.2.1++([((at' (at' p0.2 (at' a16.1 (0:Int))) a29.1).1)])),(List.set a29.2.2 (Int.toNat ((at' (at' p0.2 (at' a16.1 (0:Int))) a29.1).1)) (wI .i64 ((at' a29.2.2 (at' a16.1 (0:Int)))+(1:Int))))) (u45) h SF (aW.ix [2,3,4] rfl rfl) (aD.refl _ _)
     refine dO<|inT ?_
     exact cG (a29.2.1,a29.2.2) (b30) h SF (aW.ix [1,2,3] rfl rfl) (aD.refl _ _)
    intro a36 b37 h
    unfold nH at h
    refine aK<|qkAdd rfl<|qkMove rfl<|dtN ?_
    exact xO ((wI .i64 (a29.1+(1:Int))),a36.1,a36.2) (b37) h SF rfl
   refine rE<|eS<|eS<|vJ<|inT ?_
   exact xO (a29.2.1,a29.2.2) (b30) h SF rfl
  refine fL ?_
  exact cG (a16.2) () h SF (aW.ix [1] rfl rfl) (aD.refl _ _)
 intro a10 b11 h
 unfold qR at h
 refine sqR<|qkMove rfl<|qkAsg rfl<|dtN<|aP ?_
 cases h
 exact gV (u3) rfl rfl (RV.tmp rfl) (aW.refl _) aD.nil
end
section
def pP (p1:dN) (a6:dQ):Option pK:=
 some ((p1.1,a6))
def jI (U:Nat) (p0:zR) (p1:dN) (a14:Int×dQ) (ag13:(Int×dQ)->Option pK) (a18:Bool):Option pK:=
 if a18=true then(ck (0<=a14.1∧a14.1<(List.length p0.2.1:Int)) (Option.bind (eB U (at' p0.2.1 a14.1) (List.length p1.2:Int)) fun r22=>(ck (0<=(wI .i64 (a14.1+(1:Int)))∧(wI .i64 (a14.1+(1:Int)))<(List.length p0.2.1:Int)) (Option.bind (eB U (at' p0.2.1 (wI .i64 (a14.1+(1:Int)))) (List.length p1.2:Int)) fun r26=>(Option.bind (oS U p0.2.2.1 a14.1) fun r29=>(Option.bind (eB U r29 (15:Int)) fun r32=>(Option.bind (kF U ((p0.1,p0.2.1,p0.2.2.1,p0.2.2.2.1,p0.2.2.2.2.1,p0.2.2.2.2.2)) ((p1.1,a14.2)) r22 r26 (wI .i64 ((1:Int)+r32))) fun r35=>(ag13 ((wI .i64 (a14.1+(2:Int))),r35)))))))))else(pP p1 (a14.2))
def lU (U:Nat) (p0:zR) (p1:dN) (a14:Int×dQ) (ag13:(Int×dQ)->Option pK):Option pK:=
 if(wI .i64 (a14.1+(1:Int)))<(List.length p0.2.1:Int)then(jI U p0 p1 a14 ag13 (decide (a14.1<(60:Int))))else(jI U p0 p1 a14 ag13 (false))
def kG (U:Nat) (p0:zR) (p1:dN):Option pK:=
 bD (lU U p0 p1) U ((List.length p1.2:Int),p1.2)
theorem VS:aN Tryz.prog 40:=Tryz.call40
theorem BO (U:Nat) {p0:zR} {p1:dN} (v0:Value)  (v1:Value)  (v2:Value)  (v3:Value)  (v4:Value)  (w5:fP) (r:(aL×dQ)) (h:kG U p0 p1=some r):
  BC Tryz.prog 40 #[Value.agg #[vI (p0.1),v0,v1,v2,vB (p0.2.2.2.2.1),vB (p0.2.2.2.2.2)],Value.agg #[v3,v4]] [Ar bV v3 p1.1,Ar dH.raw v4 w5,jW bR w5 p1.2] [Sl bK v0 p0.2.1,Sl bK v1 p0.2.2.1,Sl bK v2 p0.2.2.2.1] (fun x:Value×Value×List Value=>Value.agg #[x.1,x.2.1]) (fun x l=>Ar bV x.1 r.1::Ar dH.raw x.2.1 x.2.2::jW bR x.2.2 r.2::l):=by
 refine BC.of (vs:=[Value.agg #[vI (p0.1),v0,v1,v2,vB (p0.2.2.2.2.1),vB (p0.2.2.2.2.2)],Value.agg #[v3,v4]]) Tryz.func40 rfl Tryz.ntmps40 rfl fun c=>?_
 unfold kG at h
 refine sqR<|aF (aJ.box (cs:=[vI (p0.1),v0,v1,v2,vB (p0.2.2.2.2.1),vB (p0.2.2.2.2.2)]) rfl rfl) rfl fun b1=>aF (aJ.box (cs:=[v3,v4]) rfl rfl) rfl fun b2=>aF (aJ.alloc (cs:=[kX,kX]) rfl rfl) rfl fun b3=>dtN<|sqR<|qkFld rfl<|qkLd 1 rfl<|aB (lN rfl (bF (i:=4) (j:=5) rfl rfl bI) rfl) rfl<|qkAsg rfl<|dtN<|aH<|wW (B:=fP) (fun a6=>pP p1 a6=some r) (fun a6 b7=>[(3,vP b2),(4,vP b3)]) (fun a6 b7=>[bT b3 [kX,kX] 29,bT b2 [v3,v4] 29,Ar bV v3 p1.1,Ar dH.raw v4 b7,jW bR b7 a6]) (fun a6 b7=>[Sl bK v0 p0.2.1,Sl bK v1 p0.2.2.1,Sl bK v2 p0.2.2.2.1]) ?_ ?_
 ·refine sqR<|qkMove rfl<|qkAsg rfl<|dtN<|aM<|Em (B:=fP) (lU U p0 p1) (fun a14 b15=>[(2,vP b1),(3,vP b2),(4,vP b3),(5,vI (List.length p1.2:Int)),(6,vI (a14.1))]) (fun a14 b15=>[bT b3 [kX,kX] 29,bT b2 [v3,v4] 29,bT b1 [vI (p0.1),v0,v1,v2,vB (p0.2.2.2.2.1),vB (p0.2.2.2.2.2)] 24,Ar bV v3 p1.1,Ar dH.raw v4 b15,jW bR b15 a14.2]) (fun a14 b15=>[Sl bK v0 p0.2.1,Sl bK v1 p0.2.2.1,Sl bK v2 p0.2.2.2.1]) ((List.length p1.2:Int),p1.2) (w5) h SF (aW.refl _) (aD.refl _ _) ?_
  intro k16 a14 b15 h
  refine aH<|aH<|wW (B:=Unit) (fun a18=>jI U p0 p1 a14 (bD (lU U p0 p1) k16) a18=some r) (fun a18 b19=>[(2,vP b1),(3,vP b2),(4,vP b3),(5,vI (List.length p1.2:Int)),(6,vI (a14.1)),(20,vB (a18))]) (fun a18 b19=>[bT b3 [kX,kX] 29,bT b2 [v3,v4] 29,bT b1 [vI (p0.1),v0,v1,v2,vB (p0.2.2.2.2.1),vB (p0.2.2.2.2.2)] 24,Ar bV v3 p1.1,Ar dH.raw v4 b15,jW bR b15 a14.2]) (fun a18 b19=>[Sl bK v0 p0.2.1,Sl bK v1 p0.2.2.1,Sl bK v2 p0.2.2.2.1]) ?_ ?_
  ·refine aK<|qkMove rfl<|qkAdd rfl<|qkFld rfl<|qkLd 2 rfl<|qkLen (aC.fact 0 rfl) rfl<|qkLss rfl<|qkMove rfl ?_
   refine Bi h rfl (fun _ h=>?_) fun _ h=>?_
   ·refine gyMove rfl<|aS rfl (Bg rfl rfl) rfl<|qkPkT rfl<|dtN ?_
    exact iG (decide (a14.1<(60:Int))) () h SF rfl
   refine gdSkip rfl<|gdSkip rfl<|qkPkF rfl<|dtN ?_
   exact iG (false) () h SF rfl
  intro a18 b19 h
  refine Ab h rfl (fun _ h=>?_) fun _ h=>?_
  ·refine cF<|aH<|aM ?_
   refine JR.start [0,0,0,4,0,28,60,0,252,0,512,0,2048,7680,15872,0,65532,0,131072,0,1048572,2097148,4194300,8388607] 23 mixedOrders (by decide +kernel) ?_
   refine JR.open (by exact rfl) ?_
   refine jkLdA 2 rfl<|jkLdA 1 rfl<|jkFld rfl<|jkLd 2 rfl<|jkMove rfl<|ckE h fun j21 h=>bH rfl .nil (qF 0 rfl) (aY rfl rfl (aC.fact 0 rfl) rfl rfl j21) aO.z<|bH rfl .nil (qF 0 rfl) (bY rfl (aC.fact 0 rfl) rfl rfl rfl eI j21) aO.z<|jkMove rfl<|bnE h fun r22 hr23 h=>JR.loud rfl rfl rfl (aJ.callQ yL (gO U  r22 hr23) rfl .nil) rfl (fun x24=>(vG [([1],[]),([2],[])] rfl)) fun x24=>jqN rfl (dZ rfl rfl rfl rfl rfl)<|bH rfl (aW.cons 2 rfl .nil) .nil (fK 0 rfl rfl rfl rfl rfl) (aO.h (aW.ix [2] rfl rfl) .nil aO.z)<|jqN rfl (lO rfl)<|jqN rfl (uI rfl rfl)<|ckE h fun j25 h=>bH rfl .nil (qF 0 rfl) (aY rfl rfl (aC.fact 0 rfl) rfl rfl j25) (aO.h .nil (qF 0 rfl) aO.z)<|bH rfl .nil (qF 0 rfl) (bY rfl (aC.fact 0 rfl) rfl rfl rfl eI j25) (aO.h .nil (qF 0 rfl) aO.z)<|jqN rfl (lO rfl)<|bnE h fun r26 hr27 h=>JR.loud rfl rfl rfl (aJ.callQ yL (gO U  r26 hr27) rfl .nil) rfl (fun x28=>(vG [([1],[]),([2],[])] rfl)) fun x28=>jqN rfl (dZ rfl rfl rfl rfl rfl)<|bH rfl (aW.cons 2 rfl .nil) .nil (fK 0 rfl rfl rfl rfl rfl) (aO.h (aW.ix [2] rfl rfl) .nil (aO.h (aW.ix [2] rfl rfl) .nil aO.z))<|jqN rfl (lO rfl)<|bnE h fun r29 hr30 h=>JR.loud rfl rfl rfl (aJ.callQ E_ (wE U v1 r29 hr30) rfl (nY [1] rfl)) rfl (fun x31=>(vG [([1],[]),([2],[])] rfl)) fun x31=>bnE h fun r32 hr33 h=>JR.loud rfl rfl rfl (aJ.callQ yL (gO U  r32 hr33) rfl .nil) rfl (fun x34=>(vG [([1],[]),([2],[])] rfl)) fun x34=>jqN rfl (uI rfl rfl)<|bS 23 rfl rfl<|bnE h fun r35 hr36 h=>aF (BB (Min:=[Ar dH.raw v4 b15,jW bR b15 a14.2]) (Mr:=[bT b3 [kX,kX] 29,bT b2 [v3,v4] 29,bT b1 [vI (p0.1),v0,v1,v2,vB (p0.2.2.2.2.1),vB (p0.2.2.2.2.2)] 24,Ar bV v3 p1.1]) Qf (wB U v0 v1 v2 v3 v4 b15 r35 hr36) rfl (aW.ix [4,5,0,1,2,3] rfl rfl) (aD.cons (aC.fact 0 rfl) (aD.cons (aC.fact 1 rfl) (aD.cons (aC.fact 2 rfl) (aD.cons (aV (aC.res 3 rfl) cW) .nil)))) (fun _ _=>rfl)) rfl fun x37=>dA<|inT<|aK<|qkMove rfl<|qkAdd rfl<|qkAsg rfl<|dtN ?_
   exact mA ((wI .i64 (a14.1+(2:Int))),r35) (x37) h SF (aW.ix [2,3,4,5,0,1] rfl rfl) (aD.refl _ _)
  refine fL ?_
  exact cG (a14.2) (b15) h SF (aW.ix [0,1,3,4,5] rfl rfl) (aD.refl _ _)
 intro a6 b7 h
 unfold pP at h
 refine sqR<|qkLdA 1 rfl<|bP (Know.one ((aV (aC.res 2 rfl) cW))) fun ho8=>bP (Know.one (aC.sl (bF (i:=3) (j:=4) rfl rfl bI))) fun ho9=>bB 0 (vs:=[v3,v4]) rfl rfl (dU ho8 (dU ho9 rfl)) rfl rfl rfl<|dtN<|aP ?_
 cases h
 exact gV (v3,v4,b7) rfl rfl (RV.cell 0 rfl rfl rfl rfl) (aW.ix [2,3,4] rfl rfl) aD.nil
end
section
def gE (U:Nat) (p0:zR) (p1:Int):Option pK:=
 Option.bind (kE U ((p0.1,p0.2.1,p0.2.2.1,p0.2.2.2.1,p0.2.2.2.2.1,p0.2.2.2.2.2)) p1) fun r3=>(Option.bind (kG U ((p0.1,p0.2.1,p0.2.2.1,p0.2.2.2.1,p0.2.2.2.2.1,p0.2.2.2.2.2)) ((r3.1,r3.2))) fun r6=>(some ((r6.1,r6.2))))
theorem VP:aN Tryz.prog 23:=Tryz.call23
theorem xZ (U:Nat) {p0:zR} {p1:Int} (v0:Value)  (v1:Value)  (v2:Value) (r:(aL×dQ)) (h:gE U p0 p1=some r):
  aT Tryz.prog 23 #[Value.agg #[vI (p0.1),v0,v1,v2,vB (p0.2.2.2.2.1),vB (p0.2.2.2.2.2)],vI (p1)] [Sl bK v0 p0.2.1,Sl bK v1 p0.2.2.1,Sl bK v2 p0.2.2.2.1] (fun x:Value×Value×List Value=>Value.agg #[x.1,x.2.1]) (fun x l=>Ar bV x.1 r.1::Ar dH.raw x.2.1 x.2.2::jW bR x.2.2 r.2::l) (fun _ l=>l):=by
 refine aT.of Tryz.func23 rfl Tryz.ntmps23 rfl fun c=>?_
 refine sqR<|aF (aJ.box (cs:=[vI (p0.1),v0,v1,v2,vB (p0.2.2.2.2.1),vB (p0.2.2.2.2.2)]) rfl rfl) rfl fun b1=>aF (aJ.alloc (cs:=[kX,kX]) rfl rfl) rfl fun b2=>dtN<|aH ?_
 refine JR.start [0,0,0,6,15,31] 4 mixedOrders (by decide +kernel) ?_
 refine JR.open (by exact rfl) ?_
 refine jkLdA 1 rfl<|jkLdA 1 rfl<|jkMove rfl<|bnE h fun r3 w4 h=>JR.loud rfl rfl rfl (aJ.callQ Qa (wA U v0 v1 v2 r3 w4) rfl (nY [0,1,2] rfl)) rfl (fun x5=>(vG [([4],[])] rfl)) fun x5=>bS 4 rfl rfl<|bnE h fun r6 w7 h=>aF (BB (Min:=[Ar bV x5.1 r3.1,Ar dH.raw x5.2.1 x5.2.2,jW bR x5.2.2 r3.2]) (Mr:=[bT b2 [kX,kX] 29,bT b1 [vI (p0.1),v0,v1,v2,vB (p0.2.2.2.2.1),vB (p0.2.2.2.2.2)] 24]) VS (BO U v0 v1 v2 x5.1 x5.2.1 x5.2.2 r6 w7) rfl (aW.refl _) (nY [0,1,2] rfl) (fun _ _=>rfl)) rfl fun x8=>bP (Know.one ((aV (aC.res 0 rfl) cW))) fun ho9=>bP (Know.one (aC.sl (bF (i:=1) (j:=2) rfl rfl bI))) fun ho10=>bB 3 (vs:=[x8.1,x8.2.1]) rfl rfl (dU ho9 (dU ho10 rfl)) rfl rfl rfl<|dtN<|aP ?_
 cases h
 exact gV (x8.1,x8.2.1,x8.2.2) rfl rfl (RV.cell 3 rfl rfl rfl rfl) (aW.ix [0,1,2] rfl rfl) aD.nil
end
end Go.Proofs.YtjlbcgddhnjcjaaGreatDoor
end
