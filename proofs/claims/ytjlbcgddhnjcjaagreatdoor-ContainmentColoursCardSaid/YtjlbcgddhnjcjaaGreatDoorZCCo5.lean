/- Models and proofs. Conditions: none. -/
import Derived.Test.YtjlbcgddhnjcjaaGreatDoorZCCo2
import Derived.Test.YtjlbcgddhnjcjaaGreatDoorZCCo4
set_option linter.unusedVariables false
set_option linter.unusedSimpArgs false
set_option maxHeartbeats 4000000
set_option maxRecDepth 20000
section
namespace Go.Proofs.YtjlbcgddhnjcjaaGreatDoor
open Go.Sx
section
def mU  (a:Unit):Option (Bool):=
 some (true)
def gU (p0:aL) (a:Int×List (Bool)) (c:(Int×List (Bool))->Option (Bool)) (b:Bool):Option (Bool):=
 if b=true then(some (false))else(ck ((0<=(at' p0 a.1)∧(at' p0 a.1)<((256:Nat):Int))∧List.length a.2=256) (c ((wI .i64 (a.1+(1:Int))),(List.set a.2 (Int.toNat (at' p0 a.1)) true))))
def fG (p0:aL) (a:Int×List (Bool)) (b:(Int×List (Bool))->Option (Bool)):Option (Bool):=
 if a.1<(List.length p0:Int)then(ck (0<=a.1∧a.1<(List.length p0:Int)) (if(at' p0 a.1)<(0:Int)then(gU p0 a b (true))else(if(255:Int)<(at' p0 a.1)then(gU p0 a b (true))else(ck ((0<=(at' p0 a.1)∧(at' p0 a.1)<((256:Nat):Int))∧List.length a.2=256) (gU p0 a b ((at' a.2 (at' p0 a.1))))))))else(mU  (()))
def iN (U:Nat) (p0:aL):Option (Bool):=
 bJ (fG p0) U ((0:Int),(List.replicate 256 false))
theorem Zh:aP Tryz.prog 95:=Tryz.call95
theorem CB (U:Nat) {p0:aL} (v0:Value) (r:Bool) (h:iN U p0=some r):
  aU Tryz.prog 95 #[v0] [Sl bI v0 p0] (fun x:Unit=>vB (r)) (fun x l=>l) (fun _ l=>l):=by
 refine aU.of Tryz.func95 rfl Tryz.ntmps95 rfl fun c=>?_
 unfold iN at h
 refine sqR<|qkAsg rfl<|dtN<|sqR ?_
 refine aF (aI.alloc (cs:=cellsOf EBo (List.replicate 256 false)) rfl (by kernel_rfl)) rfl fun b1=>?_
 refine dtN<|aG<|midU (fun a2=>mU  a2=some r) (fun a2 b3=>[]) (fun a2 b3=>[]) ?_ ?_
 ·refine sqR<|qkMove rfl<|qkLen (aB.fact 0 rfl) rfl<|qkMove rfl<|dtN<|aN<|loopL (fG p0) (fun a7 b8=>[(3,vP b1),(6,v0),(7,vI (List.length p0:Int)),(8,vI (a7.1))]) (fun a7 b8=>[bL b1 (cellsOf EBo a7.2) 203]) ((0:Int),(List.replicate 256 false)) () h SF (aR.refl _) ?_
  intro k9 a7 b8 h
  refine sqR<|qkLss rfl<|dtN<|aG ?_
  refine eT h rfl (fun h=>?_) fun h=>?_
  ·refine cJ<|aG<|aN<|sqR<|ckE h fun j11 h=>aA (a_ rfl rfl (aB.fact 0 rfl) rfl rfl j11) rfl<|aA (bV rfl (aB.fact 0 rfl) rfl rfl rfl eD j11) rfl<|qkAsg rfl<|dtN<|aG<|aG<|midU (fun a13=>gU p0 a7 (bJ (fG p0) k9) a13=some r) (fun a13 b14=>[(3,vP b1),(5,vI (at' p0 a7.1)),(6,v0),(7,vI (List.length p0:Int)),(8,vI (a7.1)),(22,vB (a13))]) (fun a13 b14=>[bL b1 (cellsOf EBo a7.2) 203]) ?_ ?_
   ·refine aM<|qkMove rfl<|qkLss rfl<|qkMove rfl ?_
    refine BS h rfl (fun _ h=>?_) fun _ h=>?_
    ·refine gdSkip rfl<|gdSkip rfl<|qkPkT rfl<|qkMove rfl<|gdSkip rfl<|gdSkip rfl<|gdSkip rfl<|qkPkT rfl<|dtN ?_
     exact gR (true) () h SF rfl
    refine gyMove rfl<|aS rfl (vR rfl rfl) rfl<|qkPkF rfl<|qkMove rfl ?_
    refine BS h rfl (fun _ h=>?_) fun _ h=>?_
    ·refine gdSkip rfl<|gdSkip rfl<|gdSkip rfl<|qkPkT rfl<|dtN ?_
     exact gR (true) () h SF rfl
    refine gyMove rfl<|ckE h fun j19 h=>aS rfl (jV rfl rfl rfl rfl rfl j19.1) rfl<|aS rfl (Fw (e:=EBo) rfl (aB.res 0 rfl) rfl rfl rfl rfl j19) rfl<|qkPkF rfl<|dtN ?_
    exact gR ((at' a7.2 (at' p0 a7.1))) () h SF rfl
   intro a13 b14 h
   refine AG h rfl (fun _ h=>?_) fun _ h=>?_
   ·refine sqR<|qkAsg rfl<|dtN<|aQ<|aJ<|bQ<|aJ<|aJ<|bQ<|aJ ?_
    cases h
    exact wN rfl
   refine cJ<|aM<|qkMove rfl<|ckE h fun j16 h=>aA (jV rfl rfl rfl rfl rfl j16.1) rfl<|DO 0 (e:=EBo) true j16 rfl rfl rfl rfl rfl rfl rfl<|dN<|inT<|aM<|qkAdd rfl<|qkMove rfl<|dtN ?_
   exact yX ((wI .i64 (a7.1+(1:Int))),(List.set a7.2 (Int.toNat (at' p0 a7.1)) true)) () h SF rfl
  refine fM ?_
  exact bT () (()) h SF .nil (aD.refl _ _)
 intro a2 b3 h
 unfold mU at h
 refine sqR<|qkAsg rfl<|dtN<|aQ ?_
 cases h
 exact lC rfl
end
section
def uD (c:(List ((Int×Int)×Int))) (a:(Int×Int)×Int) (b:Option (Bool)):Option (Bool):=
 if(Option.getD (lU (a.1.2,a.1.1) c) (0:Int))≠a.2 then(some (false))else(b)
def iB  (a:(List ((Int×Int)×Int))):Option (Bool):=
 Jk (uD a) (some (true)) a
def mB (b:GD) (a:Kj->Option (Bool)) (c:(List ((Int×Int)×Int))):Option (Bool):=
 a ((wI .i64 (b.1+(1:Int))),c)
def iC (p0:fQ) (b:GD) (a:GD) (c:Kj->Option (Bool)) (d:Bool):Option (Bool):=
 if d=true then(some (false))else(if(Option.isSome (lU (b.1,((at' (at' p0 b.1) a.1).1)) a.2))=true then(some (false))else(c ((wI .i64 (a.1+(1:Int))),(Bt (b.1,((at' (at' p0 b.1) a.1).1)) ((at' (at' p0 b.1) a.1).2) a.2))))
def fY (p0:fQ) (a:GD) (b:GD) (c:Kj->Option (Bool)) (d:Bool):Option (Bool):=
 if d=true then(some (false))else(if((at' (at' p0 a.1) b.1).2)<(1:Int)then(iC p0 a b c (true))else(iC p0 a b c (decide ((15:Int)<((at' (at' p0 a.1) b.1).2)))))
def cA (p0:fQ) (a:GD) (d:Kj->Option (Bool)) (b:GD) (c:Kj->Option (Bool)):Option (Bool):=
 if b.1<(List.length (at' p0 a.1):Int)then(ck (0<=b.1∧b.1<(List.length (at' p0 a.1):Int)) (if((at' (at' p0 a.1) b.1).1)<(0:Int)then(fY p0 a b c (true))else(if(List.length p0:Int)<=((at' (at' p0 a.1) b.1).1)then(fY p0 a b c (true))else(fY p0 a b c (decide (((at' (at' p0 a.1) b.1).1)=a.1))))))else(mB a d (b.2))
def cN (U:Nat) (p0:fQ) (a:GD) (b:Kj->Option (Bool)):Option (Bool):=
 if a.1<(List.length p0:Int)then(ck (0<=a.1∧a.1<(List.length p0:Int)) (bJ (cA p0 a b) U ((0:Int),a.2)))else(iB  (a.2))
def fO (U:Nat) (p0:fQ):Option (Bool):=
 bJ (cN U p0) U ((0:Int),([]:List ((Int×Int)×Int)))
theorem Zi:aP Tryz.prog 96:=Tryz.call96
theorem Fj (U:Nat) {p0:fQ} (v0:Value)  (z1:lW) (r:Bool) (h:fO U p0=some r):
  aU Tryz.prog 96 #[v0] [S2 aY v0 z1 p0] (fun x:Unit=>vB (r)) (fun x l=>l) (fun _ l=>l):=by
 refine aU.of Tryz.func96 rfl Tryz.ntmps96 rfl fun c=>?_
 unfold fO at h
 refine sqR<|qkAsg rfl<|dtN<|sqR<|aF (aI.makeMap mM NG) rfl fun b1=>qkAsg rfl<|dtN<|aG<|midU (fun a3=>iB  a3=some r) (fun a3 b4=>[(3,Value.map (some b1))]) (fun a3 b4=>[Mp mM NG b1 a3]) ?_ ?_
 ·refine sqR<|qkMove rfl<|aA (iW rfl (aB.fact 0 rfl) rfl) rfl<|qkMove rfl<|dtN<|aN<|loopL (cN U p0) (fun a17 b18=>[(0,v0),(3,Value.map (some b1)),(14,v0),(15,vI (List.length p0:Int)),(16,vI (a17.1))]) (fun a17 b18=>[Mp mM NG b1 a17.2]) ((0:Int),([]:List ((Int×Int)×Int))) () h SF (aR.refl _) ?_
  intro k19 a17 b18 h
  refine sqR<|qkLss rfl<|dtN<|aG ?_
  refine eT h rfl (fun h=>?_) fun h=>?_
  ·refine cJ<|aG<|midU (fun a22=>mB a17 (bJ (cN U p0) k19) a22=some r) (fun a22 b23=>[(0,v0),(3,Value.map (some b1)),(14,v0),(15,vI (List.length p0:Int)),(16,vI (a17.1))]) (fun a22 b23=>[Mp mM NG b1 a22]) ?_ ?_
   ·refine aN<|sqR<|qkMove rfl<|ckE h fun j24 h=>aA (cY rfl rfl (aB.fact 0 rfl) rfl rfl j24) rfl<|aA (cW rfl (aB.fact 0 rfl) rfl rfl j24) rfl<|qkAsg rfl<|qkAsg rfl<|dtN<|sqR<|qkMove rfl<|aA (fR rfl (aB.el (aB.fact 0 rfl) j24.1 j24.2) rfl) rfl<|qkMove rfl<|dtN<|aN<|loopL (cA p0 a17 (bJ (cN U p0) k19)) (fun a28 b29=>[(0,v0),(3,Value.map (some b1)),(4,vI (a17.1)),(14,v0),(15,vI (List.length p0:Int)),(16,vI (a17.1)),(21,(at' z1 a17.1).1),(22,vI (List.length (at' p0 a17.1):Int)),(23,vI (a28.1))]) (fun a28 b29=>[Mp mM NG b1 a28.2]) ((0:Int),a17.2) () h SF (aR.refl _) ?_
    intro k30 a28 b29 h
    refine sqR<|qkLss rfl<|dtN<|aG ?_
    refine eT h rfl (fun h=>?_) fun h=>?_
    ·refine cJ<|aG<|aN<|sqR<|ckE h fun j32 h=>aA (a_ rfl rfl (aB.el (aB.fact 0 rfl) j24.1 j24.2) rfl rfl j32) rfl<|aA (iA (cs:=[vI ((at' (at' p0 a17.1) a28.1).1),vI ((at' (at' p0 a17.1) a28.1).2)]) rfl (aB.el (aB.fact 0 rfl) j24.1 j24.2) bN rfl rfl rfl rfl j32) rfl<|aF (aI.alloc (cs:=QK) rfl rfl) rfl fun b33=>bE 0 (vs:=[vI ((at' (at' p0 a17.1) a28.1).1),vI ((at' (at' p0 a17.1) a28.1).2)]) rfl rfl rfl rfl rfl rfl<|dtN<|aG<|aG<|midU (fun a35=>fY p0 a17 a28 (bJ (cA p0 a17 (bJ (cN U p0) k19)) k30) a35=some r) (fun a35 b36=>[(0,v0),(3,Value.map (some b1)),(4,vI (a17.1)),(7,vP b33),(14,v0),(15,vI (List.length p0:Int)),(16,vI (a17.1)),(21,(at' z1 a17.1).1),(22,vI (List.length (at' p0 a17.1):Int)),(23,vI (a28.1)),(42,vB (a35))]) (fun a35 b36=>[bL b33 [vI ((at' (at' p0 a17.1) a28.1).1),vI ((at' (at' p0 a17.1) a28.1).2)] 113,Mp mM NG b1 a28.2]) ?_ ?_
     ·refine aM<|qkFld rfl<|qkLd 0 rfl<|qkLss rfl<|qkMove rfl ?_
      refine BS h rfl (fun _ h=>?_) fun _ h=>?_
      ·refine gdSkip rfl<|gdSkip rfl<|gdSkip rfl<|gdSkip rfl<|gdSkip rfl<|qkPkT rfl<|qkMove rfl<|gdSkip rfl<|gdSkip rfl<|gdSkip rfl<|gdSkip rfl<|qkPkT rfl<|dtN ?_
       exact gR (true) () h SF rfl
      refine aS rfl (cZ rfl rfl rfl rfl rfl) rfl<|aS rfl (eF 0 rfl rfl rfl rfl rfl) rfl<|gyMove rfl<|aS rfl (iW rfl (aB.fact 0 rfl) rfl) rfl<|aS rfl (Ce rfl rfl) rfl<|qkPkF rfl<|qkMove rfl ?_
      refine BS h rfl (fun _ h=>?_) fun _ h=>?_
      ·refine gdSkip rfl<|gdSkip rfl<|gdSkip rfl<|gdSkip rfl<|qkPkT rfl<|dtN ?_
       exact gR (true) () h SF rfl
      refine aS rfl (cZ rfl rfl rfl rfl rfl) rfl<|aS rfl (eF 0 rfl rfl rfl rfl rfl) rfl<|gyMove rfl<|aS rfl (Dr rfl rfl) rfl<|qkPkF rfl<|dtN ?_
      exact gR (decide (((at' (at' p0 a17.1) a28.1).1)=a17.1)) () h SF rfl
     intro a35 b36 h
     refine AG h rfl (fun _ h=>?_) fun _ h=>?_
     ·refine sqR<|qkAsg rfl<|dtN<|aQ<|aJ<|bQ<|aJ<|aJ<|bQ<|bQ<|aJ<|aJ<|bQ<|aJ ?_
      cases h
      exact wN rfl
     refine cJ<|aG<|aG<|midU (fun a39=>iC p0 a17 a28 (bJ (cA p0 a17 (bJ (cN U p0) k19)) k30) a39=some r) (fun a39 b40=>[(0,v0),(3,Value.map (some b1)),(4,vI (a17.1)),(7,vP b33),(14,v0),(15,vI (List.length p0:Int)),(16,vI (a17.1)),(21,(at' z1 a17.1).1),(22,vI (List.length (at' p0 a17.1):Int)),(23,vI (a28.1)),(50,vB (a39))]) (fun a39 b40=>[bL b33 [vI ((at' (at' p0 a17.1) a28.1).1),vI ((at' (at' p0 a17.1) a28.1).2)] 113,Mp mM NG b1 a28.2]) ?_ ?_
     ·refine aM<|qkFld rfl<|qkLd 0 rfl<|qkLss rfl<|qkMove rfl ?_
      refine BS h rfl (fun _ h=>?_) fun _ h=>?_
      ·refine gdSkip rfl<|gdSkip rfl<|gdSkip rfl<|qkPkT rfl<|dtN ?_
       exact gR (true) () h SF rfl
      refine aS rfl (cZ rfl rfl rfl rfl rfl) rfl<|aS rfl (eF 0 rfl rfl rfl rfl rfl) rfl<|aS rfl (vR rfl rfl) rfl<|qkPkF rfl<|dtN ?_
      exact gR (decide ((15:Int)<((at' (at' p0 a17.1) a28.1).2))) () h SF rfl
     intro a39 b40 h
     refine AG h rfl (fun _ h=>?_) fun _ h=>?_
     ·refine sqR<|qkAsg rfl<|dtN<|aQ<|aJ<|bQ<|aJ<|aJ<|bQ<|bQ<|aJ<|aJ<|bQ<|aJ ?_
      cases h
      exact wN rfl
     refine cJ<|sqR<|qkMove rfl<|qkFld rfl<|qkLd 0 rfl ?_
     refine aA (DV (r:=Value.agg #[vI (a17.1),vI ((at' (at' p0 a17.1) a28.1).1)]) rfl rfl (by intro w;simp[Instr.build,Instr.fill,c_,cS,cF,dA,dB,cT,eB])) rfl ?_
     refine aF (aI.alloc (cs:=QK) rfl rfl) rfl fun b42=>bE 0 (vs:=[vI (a17.1),vI ((at' (at' p0 a17.1) a28.1).1)]) rfl rfl rfl rfl rfl rfl<|dtN<|aG<|sqR<|qkMove rfl<|qkLdA 0 rfl ?_
     refine aA (Mo 2 ((a17.1,((at' (at' p0 a17.1) a28.1).1))) (u:=vI (Option.getD (lU (a17.1,((at' (at' p0 a17.1) a28.1).1)) a28.2) (0:Int))) Lj rfl rfl rfl rfl rfl (by cases lU ((a17.1,((at' (at' p0 a17.1) a28.1).1))) a28.2<;>rfl)) rfl ?_
     refine qkMove rfl<|qkExt rfl<|qkExt rfl<|qkAsg rfl<|qkAsg rfl<|dtN<|sqR<|qkMove rfl<|dtN ?_
     refine AG h rfl (fun _ h=>?_) fun _ h=>?_
     ·refine sqR<|qkAsg rfl<|dtN<|aQ<|aJ<|bQ<|aJ<|aJ<|bQ<|bQ<|aJ<|aJ<|bQ<|aJ ?_
      cases h
      exact wN rfl
     refine cJ<|aM<|qkMove rfl<|qkLdA 0 rfl<|qkFld rfl<|qkLd 1 rfl<|LR 2 ((a17.1,((at' (at' p0 a17.1) a28.1).1))) ((at' (at' p0 a17.1) a28.1).2) Lj rfl rfl rfl rfl rfl<|dN<|inT<|aM<|qkAdd rfl<|qkMove rfl<|dtN ?_
     exact kZ ((wI .i64 (a28.1+(1:Int))),(Bt (a17.1,((at' (at' p0 a17.1) a28.1).1)) ((at' (at' p0 a17.1) a28.1).2) a28.2)) () h SF (aR.ix [2] rfl rfl) (aD.refl _ _)
    refine oK<|dJ<|dJ<|uF<|inT ?_
    exact gR (a28.2) () h SF rfl
   intro a22 b23 h
   unfold mB at h
   refine aM<|qkAdd rfl<|qkMove rfl<|dtN ?_
   exact yX ((wI .i64 (a17.1+(1:Int))),a22) () h SF rfl
  refine fM ?_
  exact gR (a17.2) () h SF rfl
 intro a3 b4 h
 unfold iB at h
 refine aG<|sqR<|qkMove rfl<|aF (aI.range 0 rfl rfl rfl) rfl fun b5=>dtN<|aN<|V_ [(3,Value.map (some b1)),(69,vP b5)] [It b5 b1 (List.length a3) ([]),Mp mM NG b1 a3] [S2 aY v0 z1 p0] SF (aR.refl _) (aD.refl _ _) ?_
 refine QX (uD a3) 1 0 (by intro a b x;unfold uD;repeat' split;all_goals first|rfl|contradiction|simp_all) h rfl rfl rfl rfl rfl rfl ?_ ?_
 ·skip
  intro kv6 i7 se8 xa9 hkv10 h
  refine aN<|sqR<|aF (aI.entry 1 0 hkv10 rfl rfl rfl) rfl fun x11=>qkExt rfl<|qkExt rfl<|aF (aI.alloc (cs:=QK) rfl rfl) rfl fun b12=>bE 0 (vs:=[vI (kv6.1.1),vI (kv6.1.2)]) rfl rfl rfl rfl rfl rfl<|qkAsg rfl<|dtN<|sqR<|qkMove rfl ?_
  refine aA (jV (i:=1) rfl rfl rfl rfl rfl (by decide)) rfl ?_
  refine qkLd 0 rfl ?_
  refine aA (jV (i:=0) rfl rfl rfl rfl rfl (by decide)) rfl ?_
  refine qkLd 0 rfl ?_
  refine aA (DV (r:=Value.agg #[vI (kv6.1.2),vI (kv6.1.1)]) rfl rfl (by intro w;simp[Instr.build,Instr.fill,c_,cS,cF,dA,dB,cT,eB])) rfl ?_
  refine aA (Mo 2 ((kv6.1.2,kv6.1.1)) (u:=vI (Option.getD (lU (kv6.1.2,kv6.1.1) a3) (0:Int))) Lj rfl rfl rfl rfl rfl (by cases lU ((kv6.1.2,kv6.1.1)) a3<;>rfl)) rfl ?_
  refine qkMove rfl<|qkNeq rfl<|dtN ?_
  refine eT h rfl (fun h=>?_) fun h=>?_
  ·refine sqR<|qkAsg rfl<|dtN<|aQ<|bQ<|aJ<|bQ<|aJ ?_
   cases h
   exact wN rfl
  refine dQ<|inT ?_
  exact NZ h SF (aR.ix [1,2] rfl rfl) (aD.refl _ _)
 intro se8 h
 refine uF<|wR<|sqR<|qkAsg rfl<|dtN<|aQ ?_
 cases h
 exact wN rfl
end
section
def oZ  (a:Bool):Option (Bool):=
 some (a)
def oY (U:Nat) (p0:cU) (b:Bool):Option (Bool):=
 if b=true then(some (false))else(Option.bind (iN U p0.1) fun c=>(if c=true then(Option.bind (fO U p0.2) fun a=>(oZ  (a)))else(oZ  (false))))
def eW (U:Nat) (p0:cU):Option (Bool):=
 if(List.length p0.1:Int)<(1:Int)then(oY U p0 (true))else(if(24:Int)<(List.length p0.1:Int)then(oY U p0 (true))else(oY U p0 (decide ((List.length p0.2:Int)≠(List.length p0.1:Int)))))
theorem HU:aP Tryz.prog 54:=Tryz.call54
theorem tA (U:Nat) {p0:cU} (v0:Value)  (v1:Value)  (z2:lW) (r:Bool) (h:eW U p0=some r):
  aU Tryz.prog 54 #[Value.agg #[v0,v1]] [Sl bI v0 p0.1,S2 aY v1 z2 p0.2] (fun x:Unit=>vB (r)) (fun x l=>l) (fun _ l=>l):=by
 refine aU.of Tryz.func54 rfl Tryz.ntmps54 rfl fun c=>?_
 refine sqR<|aF (aI.box (cs:=[v0,v1]) rfl rfl) rfl fun b1=>qkAsg rfl<|dtN<|sqR<|qkFld rfl<|qkLd 0 rfl<|qkLen (aB.fact 0 rfl) rfl<|qkAsg rfl<|dtN<|aG<|aG<|midU (fun a3=>oY U p0 a3=some r) (fun a3 b4=>[(1,vP b1),(19,vB (a3))]) (fun a3 b4=>[bL b1 [v0,v1] 29]) ?_ ?_
 ·refine aM<|qkMove rfl<|qkLss rfl<|qkMove rfl ?_
  refine BS h rfl (fun _ h=>?_) fun _ h=>?_
  ·refine gdSkip rfl<|gdSkip rfl<|qkPkT rfl<|qkMove rfl<|gdSkip rfl<|gdSkip rfl<|gdSkip rfl<|gdSkip rfl<|gdSkip rfl<|qkPkT rfl<|dtN ?_
   exact gR (true) () h SF rfl
  refine gyMove rfl<|aS rfl (vR rfl rfl) rfl<|qkPkF rfl<|qkMove rfl ?_
  refine BS h rfl (fun _ h=>?_) fun _ h=>?_
  ·refine gdSkip rfl<|gdSkip rfl<|gdSkip rfl<|gdSkip rfl<|gdSkip rfl<|qkPkT rfl<|dtN ?_
   exact gR (true) () h SF rfl
  refine aS rfl (cZ rfl rfl rfl rfl rfl) rfl<|aS rfl (eF 0 rfl rfl rfl rfl rfl) rfl<|aS rfl (iW rfl (aB.fact 1 rfl) rfl) rfl<|gyMove rfl<|aS rfl (HL rfl rfl) rfl<|qkPkF rfl<|dtN ?_
  exact gR (decide ((List.length p0.2:Int)≠(List.length p0.1:Int))) () h SF rfl
 intro a3 b4 h
 refine AG h rfl (fun _ h=>?_) fun _ h=>?_
 ·refine sqR<|qkAsg rfl<|dtN<|aQ<|aJ ?_
  cases h
  exact wN rfl
 refine cJ<|aG<|midU (fun a7=>oZ  a7=some r) (fun a7 b8=>[(2,vB (a7))]) (fun a7 b8=>[]) ?_ ?_
 ·refine aM<|qkFld rfl<|qkLd 0 rfl<|bnE h fun r9 w10 h=>aF (aI.callQ Zh (CB U v0 r9 w10) rfl (lK [0] rfl)) rfl fun x11=>qkMove rfl ?_
  refine zX (by exact rfl) (by exact rfl) (fun hp12=>?_) (fun hp12=>?_)
  ·have h:=JU hp12 h
   refine aS rfl (cZ rfl rfl rfl rfl rfl) rfl<|aS rfl (eF 0 rfl rfl rfl rfl rfl) rfl<|bnE h fun r13 w14 h=>tF rfl (aI.callQ Zi (Fj U v1 z2 r13 w14) rfl (lK [1] rfl)) rfl fun x15=>qkPkT rfl<|qkAsg rfl<|dtN ?_
   exact bT (r13) () h SF .nil (aD.refl _ _)
  have h:=Io hp12 h
  refine gdSkip rfl<|gdSkip rfl<|gdSkip rfl<|qkPkF rfl<|qkAsg rfl<|dtN ?_
  exact bT (false) () h SF .nil (aD.refl _ _)
 intro a7 b8 h
 unfold oZ at h
 refine aQ ?_
 cases h
 exact lC rfl
end
section
def qF  (a:Int):Option (Int):=
 some (a)
def eZ (U:Nat) (p0:Int) (p1:Int):Option (Int):=
 if p1<(1:Int)then(some (0:Int))else(ck (p1≠0) (if(Int.tmod p0 p1)<(0:Int)then(qF  (wI .i64 ((Int.tmod p0 p1)+p1)))else(qF  (Int.tmod p0 p1))))
theorem Bf:aP Tryz.prog 15:=Tryz.call15
theorem jC (U:Nat) {p0:Int} {p1:Int} (r:Int) (h:eZ U p0 p1=some r):
  aU Tryz.prog 15 #[vI (p0),vI (p1)] [] (fun x:Unit=>vI (r)) (fun x l=>l) (fun _ l=>l):=by
 refine aU.of Tryz.func15 rfl Tryz.ntmps15 rfl fun c=>?_
 refine sqR<|qkAsg rfl<|dtN<|aG<|sqR<|qkMove rfl<|qkLss rfl<|dtN ?_
 refine eT h rfl (fun h=>?_) fun h=>?_
 ·refine sqR<|qkAsg rfl<|dtN<|aQ<|aJ ?_
  cases h
  exact lC rfl
 refine cJ<|sqR<|qkMove rfl<|qkMove rfl<|ckE h fun j2 h=>aA (Ms rfl rfl j2) rfl<|qkAsg rfl<|dtN<|aG<|midU (fun a4=>qF  a4=some r) (fun a4 b5=>[(0,vI (a4))]) (fun a4 b5=>[]) ?_ ?_
 ·refine sqR<|qkMove rfl<|qkLss rfl<|dtN ?_
  refine eT h rfl (fun h=>?_) fun h=>?_
  ·refine aM<|qkMove rfl<|qkMove rfl<|qkAdd rfl<|qkAsg rfl<|dtN ?_
   exact gR (wI .i64 ((Int.tmod p0 p1)+p1)) () h SF rfl
  refine cJ ?_
  exact gR (Int.tmod p0 p1) () h SF rfl
 intro a4 b5 h
 unfold qF at h
 refine sqR<|qkMove rfl<|qkAsg rfl<|dtN<|aQ ?_
 cases h
 exact lC rfl
end
section
def rD (U:Nat) (p0:aL) (p1:Int):Option (Int):=
 if p1<(List.length p0:Int)then(ck (0<=p1∧p1<(List.length p0:Int)) (some (at' p0 p1)))else(some (0:Int))
theorem HT:aP Tryz.prog 45:=Tryz.call45
theorem zP (U:Nat) {p0:aL} {p1:Int} (b:Value) (r:Int) (h:rD U p0 p1=some r):
  aU Tryz.prog 45 #[b,vI (p1)] [Sl bI b p0] (fun x:Unit=>vI (r)) (fun x l=>l) (fun _ l=>l):=by
 refine aU.of Tryz.func45 rfl Tryz.ntmps45 rfl fun c=>?_
 refine sqR<|qkAsg rfl<|dtN<|aG<|sqR<|qkMove rfl<|qkMove rfl<|qkLen (aB.fact 0 rfl) rfl<|qkLss rfl<|dtN ?_
 refine eT h rfl (fun h=>?_) fun h=>?_
 ·refine sqR<|qkMove rfl<|qkMove rfl<|ckE h fun a h=>aA (a_ rfl rfl (aB.fact 0 rfl) rfl rfl a) rfl<|aA (bV rfl (aB.fact 0 rfl) rfl rfl rfl eD a) rfl<|qkAsg rfl<|dtN<|aQ<|aJ ?_
  cases h
  exact lC rfl
 refine cJ<|sqR<|qkAsg rfl<|dtN<|aQ ?_
 cases h
 exact lC rfl
end
section
def nL (b:Int) (a:aL):Option rH:=
 some ((a,(List.replicate (Int.toNat (wI .i64 ((1:Int)+b))) ([]:e_))))
def qY (a:rI) (c:yE->Option rH) (b:Int):Option rH:=
 ck ((List.length a.2:Int)+(List.length ([b]):Int)<=1099511627) (c ((wI .i64 (a.1+(1:Int))),(a.2++[b])))
def kD (b:d_->Option rH) (a:eK):Option rH:=
 b (a.1,(wI .i64 (a.2+(1:Int))))
def kE (b:rI) (d:yE->Option rH) (a:eK) (c:d_->Option rH):Option rH:=
 if a.2<b.1 then(ck (0<=a.2∧a.2<(List.length b.2:Int)) (if(at' b.2 a.2)=a.1 then(ck ((256:Int)≠0) (kD c ((Int.tmod (wI .i64 (a.1+(1:Int))) (256:Int)),(-1:Int))))else(kD c (a.1,a.2))))else(qY b d (a.1))
def iG (U:Nat) (p0:AT) (e:Int) (a:rI) (b:yE->Option rH):Option rH:=
 if a.1<(wI .i64 ((1:Int)+e))then(Option.bind (rD U p0.2.2.2.1 a.1) fun c=>(Option.bind (eZ U c (256:Int)) fun d=>(bJ (kE a b) U (d,(0:Int)))))else(nL e (a.2))
def lB (U:Nat) (p0:AT) (p1:Int):Option rH:=
 Option.bind (eZ U (wI .i64 (p0.1 - (1:Int))) p1) fun a=>(ck (0<=(wI .i64 ((1:Int)+a))∧(wI .i64 ((1:Int)+a))<=1099511627) (bJ (iG U p0 a) U ((0:Int),([]:aL))))
theorem To:aP Tryz.prog 41:=Tryz.call41
theorem yD (U:Nat) {p0:AT} {p1:Int} (v0:Value)  (v1:Value)  (v2:Value) (r:CI) (h:lB U p0 p1=some r):
  aU Tryz.prog 41 #[Value.agg #[vI (p0.1),v0,v1,v2,vB (p0.2.2.2.2.1),vB (p0.2.2.2.2.2)],vI (p1)] [Sl bI v0 p0.2.1,Sl bI v1 p0.2.2.1,Sl bI v2 p0.2.2.2.1] (fun x:NC=>Value.agg #[x.1,x.2.1]) (fun x l=>Ar bO x.1 r.1::Ar cE.raw x.2.1 x.2.2::fT bS x.2.2 r.2::l) (fun _ l=>l):=by
 refine aU.of Tryz.func41 rfl Tryz.ntmps41 rfl fun c=>?_
 refine sqR<|aF (aI.box (cs:=[vI (p0.1),v0,v1,v2,vB (p0.2.2.2.2.1),vB (p0.2.2.2.2.2)]) rfl rfl) rfl fun b1=>aF (aI.alloc (cs:=[gM,gM]) rfl rfl) rfl fun b2=>dtN<|sqR<|qkFld rfl<|qkLd 1 rfl<|aA (pO rfl rfl) rfl<|qkMove rfl<|bnE h fun r3 w4 h=>aF (aI.callQ Bf (jC U  r3 w4) rfl .nil) rfl fun x5=>qkAdd rfl<|qkAsg rfl<|dtN<|sqR<|qkMove rfl<|ckE h fun j6 h=>eQ (uH bS (Int.toNat (wI .i64 ((1:Int)+r3))))<|aF (pN (e:=cE.raw) (gM) rfl rfl rfl rfl j6 rfl rfl rfl) rfl fun u7=>bM (Know.one (aB.sl (aV (i:=0) (j:=1) rfl rfl bN))) fun ho8=>?_
 refine aA (SZ (r:=Value.agg #[gM,u7]) rfl (by intro w;simp[Instr.build,Instr.fill,c_,cS,cF,dA,dB,cT,eB,fS ho8])) rfl ?_
 refine aF (aI.alloc (cs:=[gM,gM]) rfl rfl) rfl fun b9=>bM (Know.one (aB.sl (aV (i:=1) (j:=2) rfl rfl bN))) fun ho10=>bE 0 (vs:=[gM,u7]) rfl rfl (bY rfl (bY ho10 rfl)) rfl rfl rfl<|dtN<|aG<|midL (B:=Value) (fun a13=>nL r3 a13=some r) (fun a13 b14=>[(4,vP b2),(6,vP b9)]) (fun a13 b14=>[bL b9 [b14,u7] 29,Ar cE.raw u7 (List.replicate (Int.toNat (wI .i64 ((1:Int)+r3))) (gM)),fT bS (List.replicate (Int.toNat (wI .i64 ((1:Int)+r3))) (gM)) (List.replicate (Int.toNat (wI .i64 ((1:Int)+r3))) ([]:e_)),bL b2 [gM,gM] 29,Ar bO b14 a13]) ?_ ?_
 ·refine sqR<|qkAsg rfl<|dtN<|aN<|eQ (dH bO)<|loopL (B:=Value) (iG U p0 r3) (fun a21 b22=>[(2,vP b1),(4,vP b2),(5,vI (wI .i64 ((1:Int)+r3))),(6,vP b9),(7,vI (a21.1))]) (fun a21 b22=>[bL b9 [b22,u7] 29,Ar cE.raw u7 (List.replicate (Int.toNat (wI .i64 ((1:Int)+r3))) (gM)),fT bS (List.replicate (Int.toNat (wI .i64 ((1:Int)+r3))) (gM)) (List.replicate (Int.toNat (wI .i64 ((1:Int)+r3))) ([]:e_)),bL b2 [gM,gM] 29,bL b1 [vI (p0.1),v0,v1,v2,vB (p0.2.2.2.2.1),vB (p0.2.2.2.2.2)] 24,Ar bO b22 a21.2]) ((0:Int),([]:aL)) (gM) h SF (aR.ix [1,2,3,4,5,0] rfl rfl) ?_
  intro k23 a21 b22 h
  refine aG<|sqR<|qkMove rfl<|qkMove rfl<|qkLss rfl<|dtN ?_
  refine eT h rfl (fun h=>?_) fun h=>?_
  ·refine cJ<|aG<|aN<|sqR<|qkFld rfl<|qkLd 4 rfl<|qkMove rfl<|bnE h fun r25 w26 h=>aF (aI.callQ HT (zP U v2 r25 w26) rfl (lK [2] rfl)) rfl fun x27=>bnE h fun r28 w29 h=>aF (aI.callQ Bf (jC U  r28 w29) rfl .nil) rfl fun x30=>qkAsg rfl<|dtN<|aG<|midU (fun a32=>qY a21 (bJ (iG U p0 r3) k23) a32=some r) (fun a32 b33=>[(2,vP b1),(4,vP b2),(5,vI (wI .i64 ((1:Int)+r3))),(6,vP b9),(7,vI (a21.1)),(8,vI (a32))]) (fun a32 b33=>[bL b9 [b22,u7] 29,Ar cE.raw u7 (List.replicate (Int.toNat (wI .i64 ((1:Int)+r3))) (gM)),fT bS (List.replicate (Int.toNat (wI .i64 ((1:Int)+r3))) (gM)) (List.replicate (Int.toNat (wI .i64 ((1:Int)+r3))) ([]:e_)),bL b2 [gM,gM] 29,bL b1 [vI (p0.1),v0,v1,v2,vB (p0.2.2.2.2.1),vB (p0.2.2.2.2.2)] 24,Ar bO b22 a21.2]) ?_ ?_
   ·refine sqR<|qkAsg rfl<|dtN<|aN<|loopL (kE a21 (bJ (iG U p0 r3) k23)) (fun a41 b42=>[(2,vP b1),(4,vP b2),(5,vI (wI .i64 ((1:Int)+r3))),(6,vP b9),(7,vI (a21.1)),(8,vI (a41.1)),(9,vI (a41.2))]) (fun a41 b42=>[bL b9 [b22,u7] 29,Ar cE.raw u7 (List.replicate (Int.toNat (wI .i64 ((1:Int)+r3))) (gM)),fT bS (List.replicate (Int.toNat (wI .i64 ((1:Int)+r3))) (gM)) (List.replicate (Int.toNat (wI .i64 ((1:Int)+r3))) ([]:e_)),bL b2 [gM,gM] 29,bL b1 [vI (p0.1),v0,v1,v2,vB (p0.2.2.2.2.1),vB (p0.2.2.2.2.2)] 24,Ar bO b22 a21.2]) (r28,(0:Int)) () h SF (aR.refl _) ?_
    intro k43 a41 b42 h
    refine aG<|sqR<|qkMove rfl<|qkMove rfl<|qkLss rfl<|dtN ?_
    refine eT h rfl (fun h=>?_) fun h=>?_
    ·refine cJ<|aG<|midU (fun a47=>kD (bJ (kE a21 (bJ (iG U p0 r3) k23)) k43) a47=some r) (fun a47 b48=>[(2,vP b1),(4,vP b2),(5,vI (wI .i64 ((1:Int)+r3))),(6,vP b9),(7,vI (a21.1)),(8,vI (a47.1)),(9,vI (a47.2))]) (fun a47 b48=>[bL b9 [b22,u7] 29,Ar cE.raw u7 (List.replicate (Int.toNat (wI .i64 ((1:Int)+r3))) (gM)),fT bS (List.replicate (Int.toNat (wI .i64 ((1:Int)+r3))) (gM)) (List.replicate (Int.toNat (wI .i64 ((1:Int)+r3))) ([]:e_)),bL b2 [gM,gM] 29,bL b1 [vI (p0.1),v0,v1,v2,vB (p0.2.2.2.2.1),vB (p0.2.2.2.2.2)] 24,Ar bO b22 a21.2]) ?_ ?_
     ·refine aN<|sqR<|qkFld rfl<|qkLd 0 rfl<|qkMove rfl<|ckE h fun j49 h=>aA (a_ rfl rfl (aO (aB.res 5 rfl) cC) rfl rfl j49) rfl<|aA (bV rfl (aO (aB.res 5 rfl) cC) rfl rfl rfl eD j49) rfl<|qkMove rfl<|qkEql rfl<|dtN ?_
      refine eT h rfl (fun h=>?_) fun h=>?_
      ·refine aM<|qkMove rfl<|qkAdd rfl<|ckE h fun j51 h=>aA (Ms rfl rfl j51) rfl<|qkAsg rfl<|qkAsg rfl<|dN<|inT ?_
       exact gR ((Int.tmod (wI .i64 (a41.1+(1:Int))) (256:Int)),(-1:Int)) () h SF rfl
      refine dQ<|inT ?_
      exact gR (a41.1,a41.2) () h SF rfl
     intro a47 b48 h
     unfold kD at h
     refine aM<|qkMove rfl<|qkAdd rfl<|qkAsg rfl<|dtN ?_
     exact yX (a47.1,(wI .i64 (a47.2+(1:Int)))) () h SF rfl
    refine fM ?_
    exact gR (a41.1) () h SF rfl
   intro a32 b33 h
   refine aM<|qkFld rfl<|qkLd 0 rfl<|qkMove rfl<|aF (bU (e:=bO) ([a32]) [(0,vI (a32))] rfl rfl rfl rfl (iJ (vI (a32)) rfl) rfl rfl rfl) rfl fun u34=>ckE h fun j36 h=>aF (dW 6 cC rfl rfl rfl (aO (aB.res 0 rfl) cC) rfl rfl rfl rfl j36 rfl) rfl fun u35=>qkFld rfl<|bM (Know.one ((aO (aB.res 6 rfl) cC))) fun ho37=>eP 1 rfl rfl ho37 rfl rfl rfl<|dN<|inT<|aM<|qkMove rfl<|qkAdd rfl<|qkAsg rfl<|dtN ?_
   exact kZ ((wI .i64 (a21.1+(1:Int))),(a21.2++[a32])) (u35) h SF (aR.ix [1,2,3,4,5,6] rfl rfl) (aD.refl _ _)
  refine fM ?_
  exact bT (a21.2) (b22) h SF (aR.ix [0,1,2,3,5] rfl rfl) (aD.refl _ _)
 intro a13 b14 h
 unfold nL at h
 refine sqR<|qkLdA 0 rfl<|bM (Know.one ((aO (aB.res 4 rfl) cC))) fun ho15=>bM (Know.one (aB.sl (aV (i:=1) (j:=2) rfl rfl bN))) fun ho16=>bE 3 (vs:=[b14,u7]) rfl rfl (bY ho15 (bY ho16 rfl)) rfl rfl rfl<|dtN<|aQ ?_
 cases h
 exact gY (b14,u7,(List.replicate (Int.toNat (wI .i64 ((1:Int)+r3))) (gM))) rfl rfl (RV.cell 3 rfl rfl rfl rfl) (aR.ix [4,1,2] rfl rfl) aD.nil
end
section
def uA  (a:Unit):Option (Bool):=
 some (false)
def yB (p0:cU) (p1:Int) (p2:Int) (a:Int) (b:(Int)->Option (Bool)):Option (Bool):=
 ck (0<=p1∧p1<(List.length p0.2:Int)) (if a<(List.length (at' p0.2 p1):Int)then(ck (0<=p1∧p1<(List.length p0.2:Int)) (ck (0<=a∧a<(List.length (at' p0.2 p1):Int)) (if((at' (at' p0.2 p1) a).1)=p2 then(some (true))else(b (wI .i64 (a+(1:Int)))))))else(uA  (())))
def mK (U:Nat) (p0:cU) (p1:Int) (p2:Int):Option (Bool):=
 bJ (yB p0 p1 p2) U (0:Int)
theorem Wx:aP Tryz.prog 117:=Tryz.call117
theorem IY (U:Nat) {p0:cU} {p1:Int} {p2:Int} (v0:Value)  (v1:Value)  (z2:lW) (r:Bool) (h:mK U p0 p1 p2=some r):
  aU Tryz.prog 117 #[Value.agg #[v0,v1],vI (p1),vI (p2)] [Sl bI v0 p0.1,S2 aY v1 z2 p0.2] (fun x:Unit=>vB (r)) (fun x l=>l) (fun _ l=>l):=by
 refine aU.of Tryz.func117 rfl Tryz.ntmps117 rfl fun c=>?_
 unfold mK at h
 refine sqR<|aF (aI.box (cs:=[v0,v1]) rfl rfl) rfl fun b1=>qkAsg rfl<|dtN<|aG<|midU (fun a2=>uA  a2=some r) (fun a2 b3=>[]) (fun a2 b3=>[]) ?_ ?_
 ·refine sqR<|qkAsg rfl<|dtN<|aN<|loopL (yB p0 p1 p2) (fun a6 b7=>[(1,vI (p1)),(2,vI (p2)),(3,vP b1),(7,vI (a6))]) (fun a6 b7=>[bL b1 [v0,v1] 29]) (0:Int) () h SF (aR.refl _) ?_
  intro k8 a6 b7 h
  refine aG<|sqR<|qkMove rfl<|qkFld rfl<|qkLd 0 rfl<|qkMove rfl<|ckE h fun j9 h=>aA (cY rfl rfl (aB.fact 1 rfl) rfl rfl j9) rfl<|aA (cW rfl (aB.fact 1 rfl) rfl rfl j9) rfl<|aA (fR rfl (aB.el (aB.fact 1 rfl) j9.1 j9.2) rfl) rfl<|qkLss rfl<|dtN ?_
  refine eT h rfl (fun h=>?_) fun h=>?_
  ·refine cJ<|aG<|aN<|sqR<|qkFld rfl<|qkLd 0 rfl<|qkMove rfl<|ckE h fun j11 h=>aA (cY rfl rfl (aB.fact 1 rfl) rfl rfl j11) rfl<|aA (cW rfl (aB.fact 1 rfl) rfl rfl j11) rfl<|qkMove rfl<|ckE h fun j12 h=>aA (a_ rfl rfl (aB.el (aB.fact 1 rfl) j11.1 j11.2) rfl rfl j12) rfl<|aA (oO rfl rfl rfl rfl rfl) rfl<|aA (qN rfl (aB.el (aB.fact 1 rfl) j11.1 j11.2) rfl rfl rfl A_ j12) rfl<|qkMove rfl<|qkEql rfl<|dtN ?_
   refine eT h rfl (fun h=>?_) fun h=>?_
   ·refine sqR<|qkAsg rfl<|dtN<|aQ<|bQ<|aJ<|aJ<|bQ<|aJ ?_
    cases h
    exact wN rfl
   refine dQ<|inT<|aM<|qkMove rfl<|qkAdd rfl<|qkAsg rfl<|dtN ?_
   exact yX (wI .i64 (a6+(1:Int))) () h SF rfl
  refine fM ?_
  exact bT () (()) h SF .nil (aD.refl _ _)
 intro a2 b3 h
 unfold uA at h
 refine sqR<|qkAsg rfl<|dtN<|aQ ?_
 cases h
 exact lC rfl
end
section
def oE (p0:AT) (p1:cU) (p2:Int) (p3:Int) (p4:Int) (a:Bool):Option (fQ):=
 if a=true then(some (p1.2))else(if p0.2.2.2.2.2=true then(ck (0<=p2∧p2<(List.length p1.2:Int)) (ck ((List.length ([(p3,p4)]):Int)+(List.length (at' p1.2 p2):Int)<=1099511627) (ck (0<=p2∧p2<(List.length p1.2:Int)) (ck (0<=p3∧p3<(List.length (List.set p1.2 (Int.toNat p2) (([(p3,p4)])++(at' p1.2 p2))):Int)) (ck ((List.length ([(p2,p4)]):Int)+(List.length (at' (List.set p1.2 (Int.toNat p2) (([(p3,p4)])++(at' p1.2 p2))) p3):Int)<=1099511627) (ck (0<=p3∧p3<(List.length (List.set p1.2 (Int.toNat p2) (([(p3,p4)])++(at' p1.2 p2))):Int)) (some (List.set (List.set p1.2 (Int.toNat p2) (([(p3,p4)])++(at' p1.2 p2))) (Int.toNat p3) (([(p2,p4)])++(at' (List.set p1.2 (Int.toNat p2) (([(p3,p4)])++(at' p1.2 p2))) p3))))))))))else(ck (0<=p2∧p2<(List.length p1.2:Int)) (ck (0<=p3∧p3<(List.length p1.2:Int)) (ck ((List.length (at' p1.2 p2):Int)+(List.length ([(p3,p4)]):Int)<=1099511627) (ck ((List.length (at' p1.2 p3):Int)+(List.length ([(p2,p4)]):Int)<=1099511627) (ck (Int.toNat p2≠Int.toNat p3) (ck (0<=p2∧p2<(List.length (List.set (List.set p1.2 (Int.toNat p2) ((at' p1.2 p2)++([(p3,p4)]))) (Int.toNat p3) ((at' p1.2 p3)++([(p2,p4)]))):Int)) (ck (0<=p3∧p3<(List.length (List.set (List.set p1.2 (Int.toNat p2) ((at' p1.2 p2)++([(p3,p4)]))) (Int.toNat p3) ((at' p1.2 p3)++([(p2,p4)]))):Int)) (some (List.set (List.set p1.2 (Int.toNat p2) ((at' p1.2 p2)++([(p3,p4)]))) (Int.toNat p3) ((at' p1.2 p3)++([(p2,p4)]))))))))))))
def mF (U:Nat) (p0:AT) (p1:cU) (p2:Int) (p3:Int) (p4:Int):Option (fQ):=
 if p2=p3 then(oE p0 p1 p2 p3 p4 (true))else(Option.bind (mK U ((p1.1,p1.2)) p2 p3) fun a=>(oE p0 p1 p2 p3 p4 (a)))
theorem Tz:aP Tryz.prog 81:=Tryz.call81
theorem zJ (U:Nat) {p0:AT} {p1:cU} {p2:Int} {p3:Int} {p4:Int} (v0:Value)  (v1:Value)  (v2:Value)  (v3:Value)  (v4:Value)  (w5:eV) (r:fQ) (h:mF U p0 p1 p2 p3 p4=some r):
  DR Tryz.prog 81 #[Value.agg #[vI (p0.1),v0,v1,v2,vB (p0.2.2.2.2.1),vB (p0.2.2.2.2.2)],Value.agg #[v3,v4],vI (p2),vI (p3),vI (p4)] [Ar cE.raw v4 w5,fT bS w5 p1.2] [Sl bI v0 p0.2.1,Sl bI v1 p0.2.2.1,Sl bI v2 p0.2.2.2.1,Sl bI v3 p1.1] (fun x:eV=>Value.tuple #[]) (fun x l=>Ar cE.raw v4 x::fT bS x r::l):=by
 refine DR.of (vs:=[Value.agg #[vI (p0.1),v0,v1,v2,vB (p0.2.2.2.2.1),vB (p0.2.2.2.2.2)],Value.agg #[v3,v4],vI (p2),vI (p3),vI (p4)]) Tryz.func81 rfl Tryz.ntmps81 rfl fun c=>?_
 refine sqR<|aF (aI.box (cs:=[vI (p0.1),v0,v1,v2,vB (p0.2.2.2.2.1),vB (p0.2.2.2.2.2)]) rfl rfl) rfl fun b1=>aF (aI.box (cs:=[v3,v4]) rfl rfl) rfl fun b2=>dtN<|aG<|aG<|xQ (B:=Unit) (fun a4=>oE p0 p1 p2 p3 p4 a4=some r) (fun a4 b5=>[(2,vI (p2)),(3,vI (p3)),(4,vI (p4)),(5,vP b1),(6,vP b2),(20,vB (a4))]) (fun a4 b5=>[bL b2 [v3,v4] 29,bL b1 [vI (p0.1),v0,v1,v2,vB (p0.2.2.2.2.1),vB (p0.2.2.2.2.2)] 24,Ar cE.raw v4 w5,fT bS w5 p1.2]) (fun a4 b5=>[Sl bI v0 p0.2.1,Sl bI v1 p0.2.2.1,Sl bI v2 p0.2.2.2.1,Sl bI v3 p1.1]) ?_ ?_
 ·refine aM<|qkMove rfl<|qkMove rfl<|qkEql rfl<|qkMove rfl ?_
  refine BS h rfl (fun _ h=>?_) fun _ h=>?_
  ·refine gdSkip rfl<|gdSkip rfl<|gdSkip rfl<|gdSkip rfl<|qkPkT rfl<|dtN ?_
   exact gR (true) () h SF rfl
  refine aS rfl (eN 0 rfl rfl rfl rfl) rfl<|gyMove rfl<|gyMove rfl<|bnE h fun r86 hr87 h=>tF rfl (aI.callQ Wx (IY U v3 v4 (List.zip w5 p1.2) r86 hr87) rfl (aD.cons (aB.fact 3 rfl) (aD.cons (aV (i:=2) (j:=3) rfl rfl bN) .nil))) rfl fun x88=>qkPkF rfl<|dtN ?_
  exact gR (r86) () h SF rfl
 intro a4 b5 h
 refine AG h rfl (fun _ h=>?_) fun _ h=>?_
 ·refine aQ<|aJ ?_
  cases h
  exact CN (w5) rfl rfl .ret (.inl rfl) (aR.ix [2,3] rfl rfl) aD.nil
 refine cJ<|sqR<|qkMove rfl<|qkMove rfl ?_
 refine aA (DV (r:=Value.agg #[vI (p3),vI (p4)]) rfl rfl (by intro w;simp[Instr.build,Instr.fill,c_,cS,cF,dA,dB,cT,eB])) rfl ?_
 refine qkMove rfl<|qkMove rfl ?_
 refine aA (DV (r:=Value.agg #[vI (p2),vI (p4)]) rfl rfl (by intro w;simp[Instr.build,Instr.fill,c_,cS,cF,dA,dB,cT,eB])) rfl ?_
 refine aF (aI.alloc (cs:=QK) rfl rfl) rfl fun b7=>aF (aI.alloc (cs:=QK) rfl rfl) rfl fun b8=>bE 1 (vs:=[vI (p3),vI (p4)]) rfl rfl rfl rfl rfl rfl<|bE 0 (vs:=[vI (p2),vI (p4)]) rfl rfl rfl rfl rfl rfl<|dtN<|aG<|sqR<|qkFld rfl<|qkLd 3 rfl<|dtN ?_
 refine AG h rfl (fun _ h=>?_) fun _ h=>?_
 ·refine aG ?_
  refine JR.start [0,1,0,0,8,0,32,0,224,480,1016,2047,4095] 11 mixedOrders (by decide +kernel) ?_
  refine JR.open (by exact rfl) ?_
  refine jkFld rfl<|jkLd 2 rfl<|jkMove rfl<|jkLdA 1 rfl<|JR.loud rfl rfl rfl (bU (e:=bS) ([((p3,p4))]) [(0,Value.agg #[vI (p3),vI (p4)])] rfl rfl rfl rfl (xL (vI (p3)) (vI (p4))) rfl rfl rfl) rfl (fun u10=>(mW [([3],[])] rfl)) fun u10=>jqN rfl (cZ rfl rfl rfl rfl rfl)<|bG rfl (aR.cons 3 rfl .nil) .nil (eF 0 rfl rfl rfl rfl rfl) (aK.h (aR.ix [2] rfl rfl) .nil aK.z)<|jqN rfl (dD rfl)<|ckE h fun j11 h=>cB (cQ 6 rfl) fun hl12=>?_
  refine bG rfl (aR.cons 5 rfl .nil) .nil (gH 0 rfl rfl rfl rfl rfl j11.1 (by have q1:=j11.2;have q2:=hl12;(try simp only[List.length_set]at q1);(try simp only[List.length_set]at q2);(try simp only[List.length_set]);omega)) (aK.h (aR.ix [4] rfl rfl) .nil aK.z) ?_
  refine cB (cQ 6 rfl) fun hl13=>bG rfl (aR.cons 5 rfl .nil) .nil (kQ 0 rfl rfl hl13 rfl rfl j11) (aK.h (aR.ix [4] rfl rfl) .nil aK.z)<|ckE h fun j15 h=>JR.loud rfl rfl rfl (dW 0 bN rfl rfl rfl (aB.row (j:=6) rfl bN j11.1 j11.2) rfl rfl rfl rfl j15 rfl) rfl (fun u14=>(mW [([3],[])] rfl)) fun u14=>bD 11 rfl rfl<|ckE h fun j16 h=>aA (cY rfl rfl (aV (i:=5) (j:=6) rfl rfl bN) rfl rfl j16) rfl<|bM (Know.one ((aO (aB.res 0 rfl) bN))) fun ho17=>eQ (wA (k:=p2) 6 0 rfl rfl rfl j16) ?_
  refine nY 4 5 ⟨j16.1,by first|exact j16.2|simpa using j16.2⟩ rfl rfl rfl rfl rfl (by simp) ho17 rfl ?_
  refine dtN<|aG ?_
  refine JR.start [0,1,0,0,8,0,32,0,224,480,1016,2047,4095] 11 mixedOrders (by decide +kernel) ?_
  refine JR.open (by exact rfl) ?_
  refine jkFld rfl<|jkLd 2 rfl<|jkMove rfl<|jkLdA 0 rfl<|JR.loud rfl rfl rfl (bU (e:=bS) ([((p2,p4))]) [(0,Value.agg #[vI (p2),vI (p4)])] rfl rfl rfl rfl (xL (vI (p2)) (vI (p4))) rfl rfl rfl) rfl (fun u18=>(mW [([3],[])] rfl)) fun u18=>jqN rfl (cZ rfl rfl rfl rfl rfl)<|bG rfl (aR.cons 3 rfl .nil) .nil (eF 0 rfl rfl rfl rfl rfl) (aK.h (aR.ix [2] rfl rfl) .nil aK.z)<|jqN rfl (dD rfl)<|ckE h fun j19 h=>cB (cQ 6 rfl) fun hl20=>?_
  refine bG rfl (aR.cons 5 rfl .nil) .nil (gH 0 rfl rfl rfl rfl rfl j19.1 (by have q1:=j19.2;have q2:=hl20;(try simp only[List.length_set]at q1);(try simp only[List.length_set]at q2);(try simp only[List.length_set]);omega)) (aK.h (aR.ix [4] rfl rfl) .nil aK.z) ?_
  refine cB (cQ 6 rfl) fun hl21=>bG rfl (aR.cons 5 rfl .nil) .nil (kQ 0 rfl rfl hl21 rfl rfl j19) (aK.h (aR.ix [4] rfl rfl) .nil aK.z)<|ckE h fun j23 h=>JR.loud rfl rfl rfl (dW 0 bN rfl rfl rfl (aB.row (j:=6) rfl bN j19.1 (by first|exact j19.2|simpa using j19.2)) rfl rfl rfl rfl j23 rfl) rfl (fun u22=>(mW [([3],[])] rfl)) fun u22=>?_
  refine bD 11 rfl rfl<|ckE h fun j24 h=>aA (cY rfl rfl (aV (i:=5) (j:=6) rfl rfl bN) rfl rfl j24) rfl<|bM (Know.one ((aO (aB.res 0 rfl) bN))) fun ho25=>eQ (wA (k:=p3) 6 0 rfl rfl rfl j24) ?_
  refine nY 4 5 ⟨j24.1,by first|exact j24.2|simpa using j24.2⟩ rfl rfl rfl rfl rfl (by simp) ho25 rfl ?_
  refine dtN<|aQ<|aJ ?_
  cases h
  exact CN (List.set (List.set w5 (Int.toNat p2) u14) (Int.toNat p3) u22) rfl rfl .ret (.inl rfl) (aR.ix [4,5] rfl rfl) aD.nil
 refine cJ<|ckE h fun j26 h=>ckE h fun j29 h=>ckE h fun j34 h=>ckE h fun j37 h=>ckE h fun j38 h=>ckE h fun j39 h=>ckE h fun j43 h=>Jw [0,1,0,0,8,0,0,64,0,448,960,0,2048,8128,0,16384,0,114688,245760,0,524288,2097088,4194247,8388551,16777215,33554431] 24 [[0,1,2,3,4,5,6,7,8,9,10,11,14,15,16,17,18,19,12,13,20,21,22,23,24,25],[0,1,2,3,4,5,6,7,8,9,10,11,14,15,16,17,18,19,12,20,13,21,22,23,24,25],[0,1,2,3,4,5,6,7,8,9,10,11,14,15,16,17,18,19,20,12,13,21,22,23,24,25]] mixedOrders (by decide +kernel) (by decide +kernel) ?_
 intro o ho
 simp only[List.mem_cons,List.not_mem_nil,or_false]at ho
 rcases ho with rfl|rfl|rfl
 ·refine jkFld rfl<|jkLd 2 rfl<|jkMove rfl<|jkFld rfl<|jkLd 2 rfl<|jkMove rfl<|jkFld rfl<|jkLd 2 rfl<|jkMove rfl<|cB (cQ 5 rfl) fun hl46=>?_
  refine bG rfl (aR.cons 4 rfl .nil) .nil (gH 0 rfl rfl rfl rfl rfl j26.1 (by have q1:=j26.2;have q2:=hl46;(try simp only[List.length_set]at q1);(try simp only[List.length_set]at q2);(try simp only[List.length_set]);omega)) aK.z ?_
  refine cB (cQ 5 rfl) fun hl47=>bG rfl (aR.cons 4 rfl .nil) .nil (kQ 0 rfl rfl hl47 rfl rfl j26) aK.z<|jkLdA 1 rfl<|jkFld rfl<|jkLd 2 rfl<|jkMove rfl<|cB (cQ 5 rfl) fun hl48=>?_
  refine bG rfl (aR.cons 4 rfl .nil) .nil (gH 0 rfl rfl rfl rfl rfl j29.1 (by have q1:=j29.2;have q2:=hl48;(try simp only[List.length_set]at q1);(try simp only[List.length_set]at q2);(try simp only[List.length_set]);omega)) aK.z ?_
  refine cB (cQ 5 rfl) fun hl49=>bG rfl (aR.cons 4 rfl .nil) .nil (kQ 0 rfl rfl hl49 rfl rfl j29) aK.z<|jkLdA 0 rfl<|JR.loud rfl rfl rfl (bU (e:=bS) ([((p3,p4))]) [(0,Value.agg #[vI (p3),vI (p4)])] rfl rfl rfl rfl (xL (vI (p3)) (vI (p4))) rfl rfl rfl) rfl (fun u50=>(mW [([1],[]),([5],[]),([5],[]),([3],[]),([5],[]),([5],[]),([3],[]),([3],[]),([3],[])] rfl)) fun u50=>JR.loud rfl rfl rfl (mZ 6 bN rfl rfl rfl (aO (aB.res 0 rfl) bN) rfl rfl rfl rfl j26 j34 rfl) rfl (fun u51=>(mW [([1],[]),([5],[]),([5],[]),([3],[]),([3],[]),([3],[])] rfl)) fun u51=>JR.loud rfl rfl rfl (bU (e:=bS) ([((p2,p4))]) [(0,Value.agg #[vI (p2),vI (p4)])] rfl rfl rfl rfl (xL (vI (p2)) (vI (p4))) rfl rfl rfl) rfl (fun u52=>(mW [([6],[]),([6],[]),([4],[]),([3],[]),([6],[]),([6],[]),([4],[]),([4],[]),([4],[])] rfl)) fun u52=>JR.loud rfl rfl rfl (xR (j:=p2) 7 bN rfl rfl rfl (aO (aB.res 0 rfl) bN) rfl rfl rfl rfl j29 j37 rfl j38) rfl (fun u53=>(mW [([4],[]),([4],[])] rfl)) fun u53=>cB (cQ 7 rfl) fun hl54=>?_
  refine bG rfl (aR.cons 6 rfl .nil) .nil (gH 0 rfl rfl rfl rfl rfl j39.1 (by have q1:=j39.2;have q2:=hl54;(try simp only[List.length_set]at q1);(try simp only[List.length_set]at q2);(try simp only[List.length_set]);omega)) (MM rfl) ?_
  refine cB (AY (k:=p2) (j:=p3) 7 rfl (by omega) ⟨j39.1,by first|exact j39.2|simpa using j39.2⟩) fun ho55=>?_
  refine sQ rfl rfl rfl (Al 6 7 ⟨j39.1,by first|exact j39.2|simpa using j39.2⟩ rfl rfl rfl rfl (by simp) ho55 rfl) (fun x56=>(mW [([4],[])] rfl)) fun x56=>?_
  refine bD 24 rfl rfl<|bM (cQ 7 rfl) fun hl57=>?_
  refine aA (gH 6 rfl rfl rfl rfl rfl j43.1 (by have q1:=j43.2;have q2:=hl57;(try simp only[List.length_set]at q1);(try simp only[List.length_set]at q2);(try simp only[List.length_set]);omega)) rfl ?_
  refine bM (xI 7 (k:=p3) rfl ⟨j43.1,by first|exact j43.2|simpa using j43.2⟩) fun ho58=>?_
  refine nY 6 7 ⟨j43.1,by first|exact j43.2|simpa using j43.2⟩ rfl rfl rfl rfl rfl (by simp) ho58 rfl ?_
  refine dN ?_
  cases h
  exact CN (List.set (List.set w5 (Int.toNat p2) u51) (Int.toNat p3) u53) rfl rfl .normal (.inr rfl) (aR.ix [6,7] rfl rfl) aD.nil
 ·refine jkFld rfl<|jkLd 2 rfl<|jkMove rfl<|jkFld rfl<|jkLd 2 rfl<|jkMove rfl<|jkFld rfl<|jkLd 2 rfl<|jkMove rfl<|cB (cQ 5 rfl) fun hl59=>?_
  refine bG rfl (aR.cons 4 rfl .nil) .nil (gH 0 rfl rfl rfl rfl rfl j26.1 (by have q1:=j26.2;have q2:=hl59;(try simp only[List.length_set]at q1);(try simp only[List.length_set]at q2);(try simp only[List.length_set]);omega)) aK.z ?_
  refine cB (cQ 5 rfl) fun hl60=>bG rfl (aR.cons 4 rfl .nil) .nil (kQ 0 rfl rfl hl60 rfl rfl j26) aK.z<|jkLdA 1 rfl<|jkFld rfl<|jkLd 2 rfl<|jkMove rfl<|cB (cQ 5 rfl) fun hl61=>?_
  refine bG rfl (aR.cons 4 rfl .nil) .nil (gH 0 rfl rfl rfl rfl rfl j29.1 (by have q1:=j29.2;have q2:=hl61;(try simp only[List.length_set]at q1);(try simp only[List.length_set]at q2);(try simp only[List.length_set]);omega)) aK.z ?_
  refine cB (cQ 5 rfl) fun hl62=>bG rfl (aR.cons 4 rfl .nil) .nil (kQ 0 rfl rfl hl62 rfl rfl j29) aK.z<|jkLdA 0 rfl<|JR.loud rfl rfl rfl (bU (e:=bS) ([((p3,p4))]) [(0,Value.agg #[vI (p3),vI (p4)])] rfl rfl rfl rfl (xL (vI (p3)) (vI (p4))) rfl rfl rfl) rfl (fun u63=>(mW [([1],[]),([5],[]),([5],[]),([3],[]),([5],[]),([5],[]),([3],[]),([3],[]),([3],[])] rfl)) fun u63=>JR.loud rfl rfl rfl (bU (e:=bS) ([((p2,p4))]) [(0,Value.agg #[vI (p2),vI (p4)])] rfl rfl rfl rfl (xL (vI (p2)) (vI (p4))) rfl rfl rfl) rfl (fun u64=>(mW [([6],[]),([6],[]),([4],[]),([3],[]),([6],[]),([6],[]),([4],[]),([4],[]),([4],[])] rfl)) fun u64=>JR.loud rfl rfl rfl (mZ 7 bN rfl rfl rfl (aO (aB.res 1 rfl) bN) rfl rfl rfl rfl j26 j34 rfl) rfl (fun u65=>(mW [([2],[]),([6],[]),([6],[]),([4],[]),([4],[]),([4],[])] rfl)) fun u65=>JR.loud rfl rfl rfl (xR (j:=p2) 7 bN rfl rfl rfl (aO (aB.res 0 rfl) bN) rfl rfl rfl rfl j29 j37 rfl j38) rfl (fun u66=>(mW [([4],[]),([4],[])] rfl)) fun u66=>cB (cQ 7 rfl) fun hl67=>?_
  refine bG rfl (aR.cons 6 rfl .nil) .nil (gH 0 rfl rfl rfl rfl rfl j39.1 (by have q1:=j39.2;have q2:=hl67;(try simp only[List.length_set]at q1);(try simp only[List.length_set]at q2);(try simp only[List.length_set]);omega)) (MM rfl) ?_
  refine cB (AY (k:=p2) (j:=p3) 7 rfl (by omega) ⟨j39.1,by first|exact j39.2|simpa using j39.2⟩) fun ho68=>?_
  refine sQ rfl rfl rfl (Al 6 7 ⟨j39.1,by first|exact j39.2|simpa using j39.2⟩ rfl rfl rfl rfl (by simp) ho68 rfl) (fun x69=>(mW [([4],[])] rfl)) fun x69=>?_
  refine bD 24 rfl rfl<|bM (cQ 7 rfl) fun hl70=>?_
  refine aA (gH 6 rfl rfl rfl rfl rfl j43.1 (by have q1:=j43.2;have q2:=hl70;(try simp only[List.length_set]at q1);(try simp only[List.length_set]at q2);(try simp only[List.length_set]);omega)) rfl ?_
  refine bM (xI 7 (k:=p3) rfl ⟨j43.1,by first|exact j43.2|simpa using j43.2⟩) fun ho71=>?_
  refine nY 6 7 ⟨j43.1,by first|exact j43.2|simpa using j43.2⟩ rfl rfl rfl rfl rfl (by simp) ho71 rfl ?_
  refine dN ?_
  cases h
  exact CN (List.set (List.set w5 (Int.toNat p2) u65) (Int.toNat p3) u66) rfl rfl .normal (.inr rfl) (aR.ix [6,7] rfl rfl) aD.nil
 refine jkFld rfl<|jkLd 2 rfl<|jkMove rfl<|jkFld rfl<|jkLd 2 rfl<|jkMove rfl<|jkFld rfl<|jkLd 2 rfl<|jkMove rfl<|cB (cQ 5 rfl) fun hl72=>?_
 refine bG rfl (aR.cons 4 rfl .nil) .nil (gH 0 rfl rfl rfl rfl rfl j26.1 (by have q1:=j26.2;have q2:=hl72;(try simp only[List.length_set]at q1);(try simp only[List.length_set]at q2);(try simp only[List.length_set]);omega)) aK.z ?_
 refine cB (cQ 5 rfl) fun hl73=>bG rfl (aR.cons 4 rfl .nil) .nil (kQ 0 rfl rfl hl73 rfl rfl j26) aK.z<|jkLdA 1 rfl<|jkFld rfl<|jkLd 2 rfl<|jkMove rfl<|cB (cQ 5 rfl) fun hl74=>?_
 refine bG rfl (aR.cons 4 rfl .nil) .nil (gH 0 rfl rfl rfl rfl rfl j29.1 (by have q1:=j29.2;have q2:=hl74;(try simp only[List.length_set]at q1);(try simp only[List.length_set]at q2);(try simp only[List.length_set]);omega)) aK.z ?_
 refine cB (cQ 5 rfl) fun hl75=>bG rfl (aR.cons 4 rfl .nil) .nil (kQ 0 rfl rfl hl75 rfl rfl j29) aK.z<|jkLdA 0 rfl<|JR.loud rfl rfl rfl (bU (e:=bS) ([((p2,p4))]) [(0,Value.agg #[vI (p2),vI (p4)])] rfl rfl rfl rfl (xL (vI (p2)) (vI (p4))) rfl rfl rfl) rfl (fun u76=>(mW [([5],[]),([5],[]),([3],[]),([2],[]),([5],[]),([5],[]),([3],[]),([3],[]),([3],[])] rfl)) fun u76=>JR.loud rfl rfl rfl (bU (e:=bS) ([((p3,p4))]) [(0,Value.agg #[vI (p3),vI (p4)])] rfl rfl rfl rfl (xL (vI (p3)) (vI (p4))) rfl rfl rfl) rfl (fun u77=>(mW [([2],[]),([6],[]),([6],[]),([4],[]),([6],[]),([6],[]),([4],[]),([4],[]),([4],[])] rfl)) fun u77=>JR.loud rfl rfl rfl (mZ 7 bN rfl rfl rfl (aO (aB.res 0 rfl) bN) rfl rfl rfl rfl j26 j34 rfl) rfl (fun u78=>(mW [([2],[]),([6],[]),([6],[]),([4],[]),([4],[]),([4],[])] rfl)) fun u78=>JR.loud rfl rfl rfl (xR (j:=p2) 7 bN rfl rfl rfl (aO (aB.res 1 rfl) bN) rfl rfl rfl rfl j29 j37 rfl j38) rfl (fun u79=>(mW [([4],[]),([4],[])] rfl)) fun u79=>cB (cQ 7 rfl) fun hl80=>?_
 refine bG rfl (aR.cons 6 rfl .nil) .nil (gH 0 rfl rfl rfl rfl rfl j39.1 (by have q1:=j39.2;have q2:=hl80;(try simp only[List.length_set]at q1);(try simp only[List.length_set]at q2);(try simp only[List.length_set]);omega)) (MM rfl) ?_
 refine cB (AY (k:=p2) (j:=p3) 7 rfl (by omega) ⟨j39.1,by first|exact j39.2|simpa using j39.2⟩) fun ho81=>?_
 refine sQ rfl rfl rfl (Al 6 7 ⟨j39.1,by first|exact j39.2|simpa using j39.2⟩ rfl rfl rfl rfl (by simp) ho81 rfl) (fun x82=>(mW [([4],[])] rfl)) fun x82=>?_
 refine bD 24 rfl rfl<|bM (cQ 7 rfl) fun hl83=>?_
 refine aA (gH 6 rfl rfl rfl rfl rfl j43.1 (by have q1:=j43.2;have q2:=hl83;(try simp only[List.length_set]at q1);(try simp only[List.length_set]at q2);(try simp only[List.length_set]);omega)) rfl ?_
 refine bM (xI 7 (k:=p3) rfl ⟨j43.1,by first|exact j43.2|simpa using j43.2⟩) fun ho84=>?_
 refine nY 6 7 ⟨j43.1,by first|exact j43.2|simpa using j43.2⟩ rfl rfl rfl rfl rfl (by simp) ho84 rfl ?_
 refine dN ?_
 cases h
 exact CN (List.set (List.set w5 (Int.toNat p2) u78) (Int.toNat p3) u79) rfl rfl .normal (.inr rfl) (aR.ix [6,7] rfl rfl) aD.nil
end
section
def oD (b:CI) (a:fQ):Option rH:=
 some ((b.1,a))
def sJ (U:Nat) (p0:AT) (h:CI) (a:Int×fQ) (b:(Int×fQ)->Option rH):Option rH:=
 if a.1<(List.length a.2:Int)then(Option.bind (rD U p0.2.1 (wI .i64 (a.1 - (1:Int)))) fun c=>(Option.bind (eZ U c a.1) fun d=>(Option.bind (rD U p0.2.2.1 (wI .i64 (a.1 - (1:Int)))) fun e=>(Option.bind (eZ U e (15:Int)) fun f=>(Option.bind (mF U ((p0.1,p0.2.1,p0.2.2.1,p0.2.2.2.1,p0.2.2.2.2.1,p0.2.2.2.2.2)) ((h.1,a.2)) d a.1 (wI .i64 ((1:Int)+f))) fun g=>(b ((wI .i64 (a.1+(1:Int))),g)))))))else(oD h (a.2))
def mE (U:Nat) (p0:AT) (p1:Int):Option rH:=
 Option.bind (lB U ((p0.1,p0.2.1,p0.2.2.1,p0.2.2.2.1,p0.2.2.2.2.1,p0.2.2.2.2.2)) p1) fun a=>(bJ (sJ U p0 a) U ((1:Int),a.2))
theorem Tq:aP Tryz.prog 52:=Tryz.call52
theorem zI (U:Nat) {p0:AT} {p1:Int} (v0:Value)  (v1:Value)  (v2:Value) (r:CI) (h:mE U p0 p1=some r):
  aU Tryz.prog 52 #[Value.agg #[vI (p0.1),v0,v1,v2,vB (p0.2.2.2.2.1),vB (p0.2.2.2.2.2)],vI (p1)] [Sl bI v0 p0.2.1,Sl bI v1 p0.2.2.1,Sl bI v2 p0.2.2.2.1] (fun x:NC=>Value.agg #[x.1,x.2.1]) (fun x l=>Ar bO x.1 r.1::Ar cE.raw x.2.1 x.2.2::fT bS x.2.2 r.2::l) (fun _ l=>l):=by
 refine aU.of Tryz.func52 rfl Tryz.ntmps52 rfl fun c=>?_
 refine sqR<|aF (aI.box (cs:=[vI (p0.1),v0,v1,v2,vB (p0.2.2.2.2.1),vB (p0.2.2.2.2.2)]) rfl rfl) rfl fun b1=>aF (aI.alloc (cs:=[gM,gM]) rfl rfl) rfl fun b2=>dtN<|sqR<|qkLdA 1 rfl<|qkMove rfl<|bnE h fun r3 w4 h=>aF (aI.callQ To (yD U v0 v1 v2 r3 w4) rfl (lK [0,1,2] rfl)) rfl fun x5=>aF (aI.alloc (cs:=[gM,gM]) rfl rfl) rfl fun b6=>bM (Know.one ((aO (aB.res 1 rfl) cC))) fun ho7=>bM (Know.one (aB.sl (aV (i:=2) (j:=3) rfl rfl bN))) fun ho8=>bE 0 (vs:=[x5.1,x5.2.1]) rfl rfl (bY ho7 (bY ho8 rfl)) rfl rfl rfl<|dtN<|aG<|midL (B:=eV) (fun a11=>oD r3 a11=some r) (fun a11 b12=>[(4,vP b2),(5,vP b6)]) (fun a11 b12=>[bL b6 [x5.1,x5.2.1] 29,Ar bO x5.1 r3.1,Ar cE.raw x5.2.1 b12,fT bS b12 a11,bL b2 [gM,gM] 29]) ?_ ?_
 ·refine sqR<|qkAsg rfl<|dtN<|aN<|loopL (B:=eV) (sJ U p0 r3) (fun a19 b20=>[(2,vP b1),(4,vP b2),(5,vP b6),(6,vI (a19.1))]) (fun a19 b20=>[bL b6 [x5.1,x5.2.1] 29,Ar bO x5.1 r3.1,Ar cE.raw x5.2.1 b20,fT bS b20 a19.2,bL b2 [gM,gM] 29,bL b1 [vI (p0.1),v0,v1,v2,vB (p0.2.2.2.2.1),vB (p0.2.2.2.2.2)] 24]) ((1:Int),r3.2) (x5.2.2) h SF (aR.refl _) ?_
  intro k21 a19 b20 h
  refine aG<|sqR<|qkMove rfl<|qkFld rfl<|qkLd 0 rfl<|aA (iW rfl (aV (i:=2) (j:=3) rfl rfl bN) rfl) rfl<|qkLss rfl<|dtN ?_
  refine eT h rfl (fun h=>?_) fun h=>?_
  ·refine cJ<|aG<|aN ?_
   refine JR.start [0,0,0,4,0,16,60,0,252,0,0,1024,0,4096,15868,32252,65020,131071] 17 mixedOrders (by decide +kernel) ?_
   refine JR.open (by exact rfl) ?_
   refine jkLdA 5 rfl<|jkLdA 0 rfl<|jkFld rfl<|jkLd 5 rfl<|jkMove rfl<|jqN rfl (pO rfl rfl)<|bnE h fun r23 w24 h=>JR.loud rfl rfl rfl (aI.callQ HT (zP U v0 r23 w24) rfl (lK [0] rfl)) rfl (fun x25=>(mW [([0],[]),([5],[])] rfl)) fun x25=>jqN rfl (dD rfl)<|bnE h fun r26 w27 h=>JR.loud rfl rfl rfl (aI.callQ Bf (jC U  r26 w27) rfl .nil) rfl (fun x28=>(mW [([0],[]),([5],[])] rfl)) fun x28=>jqN rfl (dD rfl)<|jqN rfl (cZ rfl rfl rfl rfl rfl)<|bG rfl (aR.cons 5 rfl .nil) .nil (eF 0 rfl rfl rfl rfl rfl) (aK.h (aR.ix [5] rfl rfl) .nil (aK.h (aR.ix [5] rfl rfl) .nil aK.z))<|jqN rfl (dD rfl)<|jqN rfl (pO rfl rfl)<|bnE h fun r29 w30 h=>JR.loud rfl rfl rfl (aI.callQ HT (zP U v1 r29 w30) rfl (lK [1] rfl)) rfl (fun x31=>(mW [([0],[]),([5],[])] rfl)) fun x31=>bnE h fun r32 w33 h=>JR.loud rfl rfl rfl (aI.callQ Bf (jC U  r32 w33) rfl .nil) rfl (fun x34=>(mW [([0],[]),([5],[])] rfl)) fun x34=>jqN rfl (wB rfl rfl)<|bD 17 rfl rfl<|bnE h fun r35 w36 h=>aF (AZ (Min:=[Ar cE.raw x5.2.1 b20,fT bS b20 a19.2]) (Mr:=[bL b6 [x5.1,x5.2.1] 29,Ar bO x5.1 r3.1,bL b2 [gM,gM] 29,bL b1 [vI (p0.1),v0,v1,v2,vB (p0.2.2.2.2.1),vB (p0.2.2.2.2.2)] 24]) Tz (zJ U v0 v1 v2 x5.1 x5.2.1 b20 r35 w36) rfl (aR.ix [2,3,0,1,4,5] rfl rfl) (aD.cons (aB.fact 0 rfl) (aD.cons (aB.fact 1 rfl) (aD.cons (aB.fact 2 rfl) (aD.cons (aO (aB.res 1 rfl) cC) .nil)))) (fun _ _=>rfl)) rfl fun x37=>dN<|inT<|aM<|qkMove rfl<|qkAdd rfl<|qkAsg rfl<|dtN ?_
   exact kZ ((wI .i64 (a19.1+(1:Int))),r35) (x37) h SF (aR.ix [2,3,0,1,4,5] rfl rfl) (aD.refl _ _)
  refine fM ?_
  exact bT (a19.2) (b20) h SF (aR.ix [0,1,2,3,4] rfl rfl) (aD.refl _ _)
 intro a11 b12 h
 unfold oD at h
 refine sqR<|qkLdA 0 rfl<|bM (Know.one ((aO (aB.res 1 rfl) cC))) fun ho13=>bM (Know.one (aB.sl (aV (i:=2) (j:=3) rfl rfl bN))) fun ho14=>bE 4 (vs:=[x5.1,x5.2.1]) rfl rfl (bY ho13 (bY ho14 rfl)) rfl rfl rfl<|dtN<|aQ ?_
 cases h
 exact gY (x5.1,x5.2.1,b12) rfl rfl (RV.cell 4 rfl rfl rfl rfl) (aR.ix [1,2,3] rfl rfl) aD.nil
end
section
def i_ (U:Nat) (p0:Int):Option (Int):=
 if p0=(0:Int)then(some (32:Int))else(ck (0<=(27:Int)) (ck ((0<=(nZ .u32 (wI .u32 ((cD .u32 p0 (wI .u32 (0 - p0)))*(125613361:Int))) (27:Int))∧(nZ .u32 (wI .u32 ((cD .u32 p0 (wI .u32 (0 - p0)))*(125613361:Int))) (27:Int))<((32:Nat):Int))∧List.length oA=32) (some (wI .i64 (at' oA (nZ .u32 (wI .u32 ((cD .u32 p0 (wI .u32 (0 - p0)))*(125613361:Int))) (27:Int)))))))
theorem Tp:aP Tryz.prog 50:=Tryz.call50
theorem vJ (U:Nat) {p0:Int} (r:Int) (h:i_ U p0=some r):
  aU Tryz.prog 50 #[vU (p0)] [Gb 0 (cellsOf AV oA)] (fun x:Unit=>vI (r)) (fun x l=>l) (fun _ l=>l):=by
 refine aU.of Tryz.func50 rfl Tryz.ntmps50 rfl fun c=>?_
 refine sqR<|qkAsg rfl<|dtN<|aG<|sqR<|qkMove rfl<|qkEql rfl<|dtN ?_
 refine eT h rfl (fun h=>?_) fun h=>?_
 ·refine sqR<|qkAsg rfl<|dtN<|aQ<|aJ ?_
  cases h
  exact lC rfl
 refine cJ<|sqR<|qkMove rfl<|qkMove rfl<|aA (Pt rfl) rfl<|qkAnd rfl<|aA (Be rfl rfl) rfl<|ckE h fun b h=>aA (Ez rfl rfl b) rfl<|ckE h fun a h=>aA (Mm rfl rfl rfl rfl rfl a.1) rfl<|aA (Rb (e:=AV) rfl (aB.fact 0 rfl) rfl rfl rfl rfl a) rfl<|aA (HG rfl rfl rfl) rfl<|qkAsg rfl<|dtN<|aQ ?_
 cases h
 exact lC rfl
end
section
def iP  (a:Unit):Option (Bool):=
 some (true)
def fL (U:Nat) (p0:aL) (p1:Int) (a:Int) (c:(Int)->Option (Bool)):Option (Bool):=
 if a≠(0:Int)then(Option.bind (i_ U a) fun b=>(ck (0<=b∧b<(List.length p0:Int)) (if(cD .u32 (at' p0 b) p1)≠(0:Int)then(some (false))else(c (cD .u32 a (wI .u32 (a - (1:Int))))))))else(iP  (()))
def lD (U:Nat) (p0:aL) (p1:Int) (a:Unit):Option (Bool):=
 bJ (fL U p0 p1) U (p1)
def fZ (U:Nat) (p0:aL) (p1:Int):Option (Bool):=
 lD U p0 p1 (())
theorem WF:aP Tryz.prog 185:=Tryz.call185
theorem zH (U:Nat) {p0:aL} {p1:Int} (v0:Value) (r:Bool) (h:fZ U p0 p1=some r):
  aU Tryz.prog 185 #[v0,vU (p1)] [Sl pI v0 p0,Gb 0 (cellsOf AV oA)] (fun x:Unit=>vB (r)) (fun x l=>l) (fun _ l=>l):=by
 refine aU.of Tryz.func185 rfl Tryz.ntmps185 rfl fun c=>?_
 unfold fZ at h
 refine eQ HE<|sqR<|bM (Know.one ((aB.fact 0 rfl))) fun ho3=>?_
 refine aF (aI.box (cs:=[v0]) rfl (by rw[fS ho3])) rfl fun b2=>?_
 refine aF (aI.box (cs:=[vU (p1)]) rfl rfl) rfl fun b4=>aF (aI.alloc (cs:=[vB (false)]) rfl rfl) rfl fun b5=>dtN<|aG<|KA (A:=Unit) (B:=f_) (fun a7 b8=>⟨16,Gv b8⟩) (fun a7=>iP  a7=some r) (fun a7 b8=>[(4,vP b5)]) (fun a7 b8=>[bL b5 [vB (false)] 4,GE b8]) (fun a7 b8=>[Sl pI v0 p0,Gb 0 (cellsOf AV oA)]) ?_ ?_
 ·refine sqR<|qkLd 1 rfl<|uQ (A:=Unit) (B:=Nat) (vs:=[vU (p1)]) (fun a10=>lD U p0 p1 a10=some r) (fun a10 b11=>Value.func (.func 190) #[] #[vP b11]) (fun a10 b11=>[bL b11 [vU (p1)] 26,bL b5 [vB (false)] 4,bL b4 [vU (p1)] 26,bL b2 [v0] 104,GE ([]:f_)]) (fun a10 b11=>[Sl pI v0 p0,Gb 0 (cellsOf AV oA)]) (pV.fn (show aP Tryz.prog 152 from Tryz.call152) rfl) Tryz.func152 rfl Tryz.ntmps152 rfl rfl ?_ ?_
  ·refine sqR<|aF (aI.box (cs:=[vU (p1)]) rfl rfl) rfl fun b27=>qkAsg rfl<|dtN<|sqR<|aA (uC (cs:=[.tmp 1]) (vs:=[vP b27]) rfl) rfl<|qkAsg rfl<|dtN<|aQ ?_
   exact oL () (b27) h (.inl rfl) (Df.r1 rfl (RV.tmp rfl)) rfl (aR.refl _) (aD.refl _ _)
  intro a10 b11 h
  unfold lD at h
  refine dtN<|aN<|AX (i:=4) (cs:=[vP b11]) ([]:f_) rfl (show aP Tryz.prog 190 from Tryz.call190) rfl Tryz.func190 rfl Tryz.ntmps190 rfl fun l12 D13 R14 hR15=>aN<|loopL (fL U p0 p1) (fun a18 b19=>[(0,qM l12),(1,vP b11)]) (fun a18 b19=>[Lp l12 R14 LoopState.ready none,bL b11 [vU (a18)] 26,bL b5 [vB (false)] 4,bL b4 [vU (p1)] 26,bL b2 [v0] 104,GE (List.cons D13 ([]:f_))]) (p1) () h SF (aR.refl _) ?_
  intro k20 a18 b19 h
  refine aG<|sqR<|qkLd 1 rfl<|qkNeq rfl<|dtN ?_
  refine eT h rfl (fun h=>?_) fun h=>?_
  ·refine cJ<|aG<|aN<|sqR<|qkMove rfl<|qkLd 1 rfl<|bnE h fun r22 w23 h=>aF (aI.callQ Tp (vJ U  r22 w23) rfl (lK [1] rfl)) rfl fun x24=>Hx (us:=[vI (r22)]) (i:=0) hR15 rfl rfl rfl rfl rfl rfl<|aM<|qkAsg rfl<|dtN<|Kx (i:=0) rfl<|aN<|aG ?_
   refine JR.start [0,0,3,7,0,31,63] 5 mixedOrders (by decide +kernel) ?_
   refine JR.open (by exact rfl) ?_
   refine jkLd 4 rfl<|jkMove rfl<|ckE h fun j25 h=>bG rfl .nil (lX 0 rfl) (a_ rfl rfl (aB.fact 0 rfl) rfl rfl j25) aK.z<|bG rfl .nil (lX 0 rfl) (bV rfl (aB.fact 0 rfl) rfl rfl rfl Am j25) aK.z<|jkLd 3 rfl<|bD 5 rfl rfl<|qkAnd rfl<|qkNeq rfl<|dtN ?_
   refine eT h rfl (fun h=>?_) fun h=>?_
   ·refine sqR<|eP 2 rfl rfl rfl rfl rfl rfl<|dtN<|aQ<|bQ<|SG (i:=0) rfl<|aA (qX rfl) rfl<|dtN<|Pq rfl<|aQ<|bQ<|aJ<|aJ<|bQ<|VZ (i:=0) (.inl rfl) rfl (Df.r0 rfl)<|bQ<|aJ<|pJ (i:=5) (Ds:=(List.cons D13 ([]:f_))) (.inl rfl) rfl ?_
    cases h
    exact gY () rfl rfl (Md 2 rfl rfl rfl rfl) .nil aD.nil
   refine dQ<|LQ<|BY (i:=0) rfl<|aA (qX rfl) rfl<|dtN<|CM rfl<|dQ<|inT<|aM<|qkLd 1 rfl<|qkLd 1 rfl<|aA (pO rfl rfl) rfl<|qkAnd rfl<|eP 1 rfl rfl rfl rfl rfl rfl<|dtN ?_
   exact yX (cD .u32 a18 (wI .u32 (a18 - (1:Int)))) () h SF rfl
  refine oK<|dJ<|dJ<|uF<|N_ (i:=0) (.inr rfl) rfl (Df.r0 rfl)<|inT ?_
  exact Er () (List.cons D13 ([]:f_)) rfl h SF (aR.ix [2,5] rfl rfl) (aD.refl _ _)
 intro a7 b8 h
 unfold iP at h
 refine sqR<|eP 0 rfl rfl rfl rfl rfl rfl<|dtN<|aQ<|pJ (i:=1) (Ds:=(b8)) (.inl rfl) rfl ?_
 cases h
 exact gY () rfl rfl (Md 0 rfl rfl rfl rfl) .nil aD.nil
end
section
def kR (U:Nat) (p0:aL) (p1:Int) (p2:Int) (p3:Int) (a:Bool):Option (Bool):=
 if a=true then(some (false))else(if p1=(1:Int)then(some (decide ((cD .u32 p3 (wI .u32 (p3 - (1:Int))))=(0:Int))))else(if p1=(2:Int)then(Option.bind (fZ U p0 p3) fun b=>(some (b)))else(if p1=(4:Int)then(some (decide (p3=p2)))else(some (true)))))
def dL (U:Nat) (p0:aL) (p1:Int) (p2:Int) (p3:Int):Option (Bool):=
 if p3=(0:Int)then(kR U p0 p1 p2 p3 (true))else(kR U p0 p1 p2 p3 (decide ((uS .u32 p3 p2)≠(0:Int))))
theorem KQ:aP Tryz.prog 149:=Tryz.call149
theorem pS (U:Nat) {p0:aL} {p1:Int} {p2:Int} {p3:Int} (v0:Value) (r:Bool) (h:dL U p0 p1 p2 p3=some r):
  aU Tryz.prog 149 #[v0,vI (p1),vU (p2),vU (p3)] [Sl pI v0 p0,Gb 0 (cellsOf AV oA)] (fun x:Unit=>vB (r)) (fun x l=>l) (fun _ l=>l):=by
 refine aU.of Tryz.func149 rfl Tryz.ntmps149 rfl fun c=>?_
 refine sqR<|qkAsg rfl<|dtN<|aG<|aG<|midU (fun a2=>kR U p0 p1 p2 p3 a2=some r) (fun a2 b3=>[(0,v0),(1,vI (p1)),(2,vU (p2)),(3,vU (p3)),(16,vB (a2))]) (fun a2 b3=>[]) ?_ ?_
 ·refine aM<|qkMove rfl<|qkEql rfl<|qkMove rfl ?_
  refine BS h rfl (fun _ h=>?_) fun _ h=>?_
  ·refine gdSkip rfl<|gdSkip rfl<|gdSkip rfl<|gdSkip rfl<|qkPkT rfl<|dtN ?_
   exact gR (true) () h SF rfl
  refine gyMove rfl<|gyMove rfl<|aS rfl (Cd rfl rfl) rfl<|aS rfl (HL rfl rfl) rfl<|qkPkF rfl<|dtN ?_
  exact gR (decide ((uS .u32 p3 p2)≠(0:Int))) () h SF rfl
 intro a2 b3 h
 refine AG h rfl (fun _ h=>?_) fun _ h=>?_
 ·refine sqR<|qkAsg rfl<|dtN<|aQ<|aJ ?_
  cases h
  exact lC rfl
 refine cJ<|aG<|sqR<|qkMove rfl<|dtN<|aN<|sqR<|qkEql rfl<|qkAsg rfl<|dtN ?_
 refine eT h rfl (fun h=>?_) fun h=>?_
 ·refine sqR<|qkMove rfl<|qkMove rfl<|aA (pO rfl rfl) rfl<|qkAnd rfl<|qkEql rfl<|qkAsg rfl<|dtN<|aQ<|bQ<|aJ ?_
  cases h
  exact lC rfl
 refine sqR<|qkEql rfl<|qkAsg rfl<|dtN ?_
 refine eT h rfl (fun h=>?_) fun h=>?_
 ·refine sqR<|qkMove rfl<|qkMove rfl<|bnE h fun r7 w8 h=>aF (aI.callQ WF (zH U v0 r7 w8) rfl (lK [0,1] rfl)) rfl fun x9=>qkAsg rfl<|dtN<|aQ<|bQ<|aJ ?_
  cases h
  exact lC rfl
 refine sqR<|qkEql rfl<|qkAsg rfl<|dtN ?_
 refine eT h rfl (fun h=>?_) fun h=>?_
 ·refine sqR<|qkMove rfl<|qkMove rfl<|qkEql rfl<|qkAsg rfl<|dtN<|aQ<|bQ<|aJ ?_
  cases h
  exact lC rfl
 refine dQ<|inT<|sqR<|qkAsg rfl<|dtN<|aQ ?_
 cases h
 exact lC rfl
end
section
def kS  (a:Int):Option (Int):=
 some (a)
def iF (a:eK) (b:d_->Option (Int)) (c:Int):Option (Int):=
 b ((cD .u32 a.1 (wI .u32 (a.1 - (1:Int)))),c)
def dX (U:Nat) (p0:aL) (a:eK) (c:d_->Option (Int)):Option (Int):=
 if a.1≠(0:Int)then(Option.bind (i_ U a.1) fun b=>(ck (0<=b∧b<(List.length p0:Int)) (if(cD .u32 (at' p0 b) a.2)=(0:Int)then(ck (0<=b) (iF a c (Em .u32 a.2 (xS .u32 (1:Int) b))))else(iF a c (a.2)))))else(kS  (a.2))
def oP (U:Nat) (p0:aL) (b:Int) (a:Unit):Option (Int):=
 bJ (dX U p0) U (b,(0:Int))
def iD (U:Nat) (p0:aL) (p1:Int) (p2:Int) (a:Int):Option (Int):=
 if p1=(1:Int)then(some (cD .u32 a (wI .u32 (0 - a))))else(if p1=(2:Int)then(oP U p0 a (()))else(if p1=(4:Int)then(some (p2))else(some (a))))
def cO (U:Nat) (p0:aL) (p1:Int) (p2:Int) (p3:Int):Option (Int):=
 if(cD .u32 p3 p2)=(0:Int)then(iD U p0 p1 p2 (cD .u32 p2 (wI .u32 (0 - p2))))else(iD U p0 p1 p2 (cD .u32 p3 p2))
theorem KP:aP Tryz.prog 106:=Tryz.call106
theorem pT (U:Nat) {p0:aL} {p1:Int} {p2:Int} {p3:Int} (v0:Value) (r:Int) (h:cO U p0 p1 p2 p3=some r):
  aU Tryz.prog 106 #[v0,vI (p1),vU (p2),vU (p3)] [Sl pI v0 p0,Gb 0 (cellsOf AV oA)] (fun x:Unit=>vU (r)) (fun x l=>l) (fun _ l=>l):=by
 refine aU.of Tryz.func106 rfl Tryz.ntmps106 rfl fun c=>?_
 refine eQ HE<|sqR<|bM (Know.one ((aB.fact 0 rfl))) fun ho3=>?_
 refine aF (aI.box (cs:=[v0]) rfl (by rw[fS ho3])) rfl fun b2=>?_
 refine qkAsg rfl<|dtN<|sqR<|qkMove rfl<|qkMove rfl<|qkAnd rfl<|qkAsg rfl<|dtN<|aG<|KA (A:=Int) (B:=Unit) (fun a5 b6=>⟨48,Gv ([]:f_)⟩) (fun a5=>iD U p0 p1 p2 a5=some r) (fun a5 b6=>[(1,vI (p1)),(2,vU (p2)),(3,vU (a5)),(4,vP b2),(8,vU (0:Int))]) (fun a5 b6=>[bL b2 [v0] 104,GE ([]:f_)]) (fun a5 b6=>[Sl pI v0 p0,Gb 0 (cellsOf AV oA)]) ?_ ?_
 ·refine sqR<|qkMove rfl<|qkEql rfl<|dtN ?_
  refine eT h rfl (fun h=>?_) fun h=>?_
  ·refine aM<|qkMove rfl<|qkMove rfl<|aA (Pt rfl) rfl<|qkAnd rfl<|qkAsg rfl<|dtN ?_
   exact Er (cD .u32 p2 (wI .u32 (0 - p2))) () rfl h SF (aR.refl _) (aD.refl _ _)
  refine cJ ?_
  exact Er (cD .u32 p3 p2) () rfl h SF (aR.refl _) (aD.refl _ _)
 intro a5 b6 h
 refine aG<|sqR<|qkMove rfl<|dtN<|aN<|sqR<|qkEql rfl<|qkAsg rfl<|dtN ?_
 refine eT h rfl (fun h=>?_) fun h=>?_
 ·refine sqR<|qkMove rfl<|qkMove rfl<|aA (Pt rfl) rfl<|qkAnd rfl<|qkAsg rfl<|dtN<|aQ<|bQ<|aJ<|pJ (i:=1) (Ds:=([]:f_)) (.inl rfl) rfl ?_
  cases h
  exact wN rfl
 refine sqR<|qkEql rfl<|qkAsg rfl<|dtN ?_
 refine eT h rfl (fun h=>?_) fun h=>?_
 ·refine sqR<|aF (aI.alloc (cs:=[vU (0:Int)]) rfl rfl) rfl fun b9=>eP 0 rfl rfl rfl rfl rfl rfl<|dtN<|aG<|KA (A:=Int) (B:=f_) (fun a12 b13=>⟨48,Gv b13⟩) (fun a12=>kS  a12=some r) (fun a12 b13=>[(9,vP b9)]) (fun a12 b13=>[bL b9 [vU (a12)] 26,GE b13]) (fun a12 b13=>[Sl pI v0 p0,Gb 0 (cellsOf AV oA)]) ?_ ?_
  ·refine sqR<|qkMove rfl<|uQ (A:=Unit) (B:=Nat) (vs:=[vU (a5)]) (fun a15=>oP U p0 a5 a15=some r) (fun a15 b16=>Value.func (.func 190) #[] #[vP b16]) (fun a15 b16=>[bL b16 [vU (a5)] 26,bL b9 [vU (0:Int)] 26,bL b2 [v0] 104,GE ([]:f_)]) (fun a15 b16=>[Sl pI v0 p0,Gb 0 (cellsOf AV oA)]) (pV.fn (show aP Tryz.prog 152 from Tryz.call152) rfl) Tryz.func152 rfl Tryz.ntmps152 rfl rfl ?_ ?_
   ·refine sqR<|aF (aI.box (cs:=[vU (a5)]) rfl rfl) rfl fun b37=>qkAsg rfl<|dtN<|sqR<|aA (uC (cs:=[.tmp 1]) (vs:=[vP b37]) rfl) rfl<|qkAsg rfl<|dtN<|aQ ?_
    exact oL () (b37) h (.inl rfl) (Df.r1 rfl (RV.tmp rfl)) rfl (aR.refl _) (aD.refl _ _)
   intro a15 b16 h
   unfold oP at h
   refine dtN<|aN<|AX (i:=3) (cs:=[vP b16]) ([]:f_) rfl (show aP Tryz.prog 190 from Tryz.call190) rfl Tryz.func190 rfl Tryz.ntmps190 rfl fun l17 D18 R19 hR20=>aN<|loopL (dX U p0) (fun a24 b25=>[(0,qM l17),(1,vP b16)]) (fun a24 b25=>[Lp l17 R19 LoopState.ready none,bL b16 [vU (a24.1)] 26,bL b9 [vU (a24.2)] 26,bL b2 [v0] 104,GE (List.cons D18 ([]:f_))]) (a5,(0:Int)) () h SF (aR.refl _) ?_
   intro k26 a24 b25 h
   refine aG<|sqR<|qkLd 1 rfl<|qkNeq rfl<|dtN ?_
   refine eT h rfl (fun h=>?_) fun h=>?_
   ·refine cJ<|aG<|midU (fun a29=>iF a24 (bJ (dX U p0) k26) a29=some r) (fun a29 b30=>[(0,qM l17),(1,vP b16)]) (fun a29 b30=>[Lp l17 R19 LoopState.ready none,bL b16 [vU (a24.1)] 26,bL b9 [vU (a29)] 26,bL b2 [v0] 104,GE (List.cons D18 ([]:f_))]) ?_ ?_
    ·refine aN<|sqR<|qkMove rfl<|qkLd 1 rfl<|bnE h fun r31 w32 h=>aF (aI.callQ Tp (vJ U  r31 w32) rfl (lK [1] rfl)) rfl fun x33=>Hx (us:=[vI (r31)]) (i:=0) hR20 rfl rfl rfl rfl rfl rfl<|aM<|qkAsg rfl<|dtN<|Kx (i:=0) rfl<|aN<|aG ?_
     refine JR.start [0,0,3,7,0,31,63] 5 mixedOrders (by decide +kernel) ?_
     refine JR.open (by exact rfl) ?_
     refine jkLd 3 rfl<|jkMove rfl<|ckE h fun j34 h=>bG rfl .nil (lX 0 rfl) (a_ rfl rfl (aB.fact 0 rfl) rfl rfl j34) aK.z<|bG rfl .nil (lX 0 rfl) (bV rfl (aB.fact 0 rfl) rfl rfl rfl Am j34) aK.z<|jkLd 2 rfl<|bD 5 rfl rfl<|qkAnd rfl<|qkEql rfl<|dtN ?_
     refine eT h rfl (fun h=>?_) fun h=>?_
     ·refine JR.start [0,0,2,7,15] 3 mixedOrders (by decide +kernel) ?_
      refine JR.open (by exact rfl) ?_
      refine jkLd 2 rfl<|jkMove rfl<|ckE h fun j36 h=>jqN rfl (Gj rfl rfl j36)<|bD 3 rfl rfl<|aA (Mq rfl rfl) rfl<|eP 2 rfl rfl rfl rfl rfl rfl<|dN<|LQ<|BY (i:=0) rfl<|aA (qX rfl) rfl<|dtN<|CM rfl<|dQ<|inT ?_
      exact gR (Em .u32 a24.2 (xS .u32 (1:Int) r31)) () h SF rfl
     refine dQ<|LQ<|BY (i:=0) rfl<|aA (qX rfl) rfl<|dtN<|CM rfl<|dQ<|inT ?_
     exact gR (a24.2) () h SF rfl
    intro a29 b30 h
    unfold iF at h
    refine aM<|qkLd 1 rfl<|qkLd 1 rfl<|aA (pO rfl rfl) rfl<|qkAnd rfl<|eP 1 rfl rfl rfl rfl rfl rfl<|dtN ?_
    exact yX ((cD .u32 a24.1 (wI .u32 (a24.1 - (1:Int)))),a29) () h SF rfl
   refine oK<|dJ<|dJ<|uF<|N_ (i:=0) (.inr rfl) rfl (Df.r0 rfl)<|inT ?_
   exact Er (a24.2) (List.cons D18 ([]:f_)) rfl h SF (aR.ix [2,4] rfl rfl) (aD.refl _ _)
  intro a12 b13 h
  unfold kS at h
  refine sqR<|qkLd 0 rfl<|qkAsg rfl<|dtN<|aQ<|bQ<|aJ<|pJ (i:=1) (Ds:=(b13)) (.inl rfl) rfl ?_
  cases h
  exact wN rfl
 refine sqR<|qkEql rfl<|qkAsg rfl<|dtN ?_
 refine eT h rfl (fun h=>?_) fun h=>?_
 ·refine sqR<|qkMove rfl<|qkAsg rfl<|dtN<|aQ<|bQ<|aJ<|pJ (i:=1) (Ds:=([]:f_)) (.inl rfl) rfl ?_
  cases h
  exact wN rfl
 refine dQ<|inT<|sqR<|qkMove rfl<|qkAsg rfl<|dtN<|aQ<|pJ (i:=1) (Ds:=([]:f_)) (.inl rfl) rfl ?_
 cases h
 exact wN rfl
end
end Go.Proofs.YtjlbcgddhnjcjaaGreatDoor
end
section
set_option maxRecDepth 100000
namespace Go.Gx
open Go Go.Sx Go.Proofs Go.Proofs.YtjlbcgddhnjcjaaGreatDoor
noncomputable section
def abl (us:List GV) (H:GH):OR:=a1 us fun a=>ob (TK H a) fun p0=>ob (eW 1000 p0) fun r=>UJ r H
def abk (us:List GV) (H:GH):OR:=a2 us fun a b=>ob (abb H a) fun p0=>ob (WZ .i64 b) fun p1=>ob (mE 1000 p0 p1) fun r=>OQ r H
def Yj (us:List GV) (H:GH):OR:=a4 us fun a b c d=>ob (TM H a) fun p0=>ob (WZ .i64 b) fun p1=>ob (WZ .u32 c) fun p2=>ob (WZ .u32 d) fun p3=>ob (dL 1000 p0 p1 p2 p3) fun r=>UJ r H
def Yi (us:List GV) (H:GH):OR:=a4 us fun a b c d=>ob (TM H a) fun p0=>ob (WZ .i64 b) fun p1=>ob (WZ .u32 c) fun p2=>ob (WZ .u32 d) fun p3=>ob (cO 1000 p0 p1 p2 p3) fun r=>some (.int .u32 r,H)
def Uh (f:Nat) (us:List GV) (H:GH):Option (GV×GH):=bif Nat.beq f 54 then abl us H else bif Nat.beq f 52 then abk us H else bif Nat.beq f 149 then Yj us H else bif Nat.beq f 106 then Yi us H else none
abbrev gl:Nat->xG:=glb 0 (cellsOf AV oA)
def gp:GP:=⟨vL,83,Uh,Ug 237⟩
section
variable {T:Nat} {w0:eL (gl T)} {w:World} {ρ:dG} {H H':GH} {g:GV} {us:List GV} {vs:List Value}
theorem Xs (h:abl us H=some (g,H')) (R:eX w0 ρ H w) (l:pH ρ us vs):kP Tryz.prog w0 ρ 54 vs w g H':=by
 obtain⟨o,rfl,h⟩:=Pu h
 obtain⟨p0,c,h⟩:=aC.1 h
 obtain⟨r,k,h⟩:=aC.1 h
 obtain⟨n,rfl,d⟩:=l.one
 obtain⟨e,i,m,rfl,a,b⟩:=Rq R d c
 obtain⟨rfl,rfl⟩:=ID h
 exact Ec HU (tA 1000 (p0:=p0) e i m r k) R (List.forall_mem_cons.2 ⟨a,List.forall_mem_cons.2 ⟨b,fun f j=>absurd j List.not_mem_nil⟩⟩) fun ρ=> .bool _
theorem Xr (h:abk us H=some (g,H')) (R:eX w0 ρ H w) (i:pH ρ us vs):kP Tryz.prog w0 ρ 52 vs w g H':=by
 obtain⟨x,y,rfl,h⟩:=Pv h
 obtain⟨p0,d,h⟩:=aC.1 h
 obtain⟨p1,e,h⟩:=aC.1 h
 obtain⟨r,t,h⟩:=aC.1 h
 obtain⟨u,vs,rfl,j,i⟩:=i.of_cons
 obtain⟨v,rfl,k⟩:=i.one
 obtain⟨l,m,n,rfl,a,b,c⟩:=WY R j d
 obtain rfl:=Cm k e
 obtain⟨o,p,q,rfl,rfl⟩:=Na h
 exact OE abe abf o p q Tq (zI 1000 (p0:=p0) (p1:=p1) l m n r t) R (List.forall_mem_cons.2 ⟨a,List.forall_mem_cons.2 ⟨b,List.forall_mem_cons.2 ⟨c,fun f s=>absurd s List.not_mem_nil⟩⟩⟩)
theorem Um (h:Yj us H=some (g,H')) (R:eX w0 ρ H w) (a:pH ρ us vs):kP Tryz.prog w0 ρ 149 vs w g H':=by
 obtain⟨u,v,x,y,rfl,h⟩:=KI h
 obtain⟨p0,b,h⟩:=aC.1 h
 obtain⟨p1,c,h⟩:=aC.1 h
 obtain⟨p2,d,h⟩:=aC.1 h
 obtain⟨p3,e,h⟩:=aC.1 h
 obtain⟨r,p,h⟩:=aC.1 h
 obtain⟨m,vs,rfl,i,a⟩:=a.of_cons
 obtain⟨q,vs,rfl,j,a⟩:=a.of_cons
 obtain⟨s,vs,rfl,k,a⟩:=a.of_cons
 obtain⟨t,rfl,l⟩:=a.one
 have n:=MF R i b
 obtain rfl:=Cm j c
 obtain rfl:=Cm k d
 obtain rfl:=Cm l e
 obtain⟨rfl,rfl⟩:=ID h
 exact Ec KQ (pS 1000 (p0:=p0) (p1:=p1) (p2:=p2) (p3:=p3) m r p) R (List.forall_mem_cons.2 ⟨n,List.forall_mem_cons.2 ⟨R.glb,fun f o=>absurd o List.not_mem_nil⟩⟩) fun ρ=> .bool _
theorem Ul (h:Yi us H=some (g,H')) (R:eX w0 ρ H w) (a:pH ρ us vs):kP Tryz.prog w0 ρ 106 vs w g H':=by
 obtain⟨u,v,x,y,rfl,h⟩:=KI h
 obtain⟨p0,b,h⟩:=aC.1 h
 obtain⟨p1,c,h⟩:=aC.1 h
 obtain⟨p2,d,h⟩:=aC.1 h
 obtain⟨p3,e,h⟩:=aC.1 h
 obtain⟨r,p,h⟩:=aC.1 h
 obtain⟨m,vs,rfl,i,a⟩:=a.of_cons
 obtain⟨q,vs,rfl,j,a⟩:=a.of_cons
 obtain⟨s,vs,rfl,k,a⟩:=a.of_cons
 obtain⟨t,rfl,l⟩:=a.one
 have n:=MF R i b
 obtain rfl:=Cm j c
 obtain rfl:=Cm k d
 obtain rfl:=Cm l e
 cases h
 exact Ec KP (pT 1000 (p0:=p0) (p1:=p1) (p2:=p2) (p3:=p3) m r p) R (List.forall_mem_cons.2 ⟨n,List.forall_mem_cons.2 ⟨R.glb,fun f o=>absurd o List.not_mem_nil⟩⟩) fun ρ=> .int _ _
theorem Ld {f:Nat} (h:Uh f us H=some (g,H')) (R:eX w0 ρ H w) (a:pH ρ us vs):kP Tryz.prog w0 ρ f vs w g H':=by
 unfold Uh at h
 cases b:Nat.beq f 54 with
 |true=>rw[b]at h;rw[Nat.eq_of_beq_eq_true b];exact Xs h R a
 |false=>
 rw[b]at h
 cases c:Nat.beq f 52 with
 |true=>rw[c]at h;rw[Nat.eq_of_beq_eq_true c];exact Xr h R a
 |false=>
 rw[c]at h
 cases d:Nat.beq f 149 with
 |true=>rw[d]at h;rw[Nat.eq_of_beq_eq_true d];exact Um h R a
 |false=>
 rw[d]at h
 cases e:Nat.beq f 106 with
 |true=>rw[e]at h;rw[Nat.eq_of_beq_eq_true e];exact Ul h R a
 |false=>
 rw[e]at h
 cases h
end
theorem Zy:abd Tryz.prog vL=true:=by kernel_rfl
theorem Hs:eR Tryz.prog vL:=⟨ND,Zx Zy⟩
theorem ZW {gs:xG} (a:eL gs):qR Tryz.prog a (JH vL 121 Tryz.f121):=TE Hs mixedOrders Tryz.func121 Tryz.call121 (by kernel_rfl)
theorem Zt (args:Array Value) (w:World) (b:args.size=2):CallsDIn (FR none) 0 Tryz.prog 120 args .returning w fun e d w'=>∃v,e = .returned v∧d = .returning∧Kw w w':=by
 obtain⟨c,h,a⟩:=UK (r:=Dv vL (JH vL 121 Tryz.f121) (KU Tryz.f120) (Xe vL (JH vL 121 Tryz.f121) (fun _ _ _ _=>none) (TA Tryz.f120) 0 ⟨[],0,[]⟩ (EW [])) (KU Tryz.f120).tail ⟨[(WX Tryz.f120,.inil)],H0⟩) (by kernel_rfl)
 exact Rj (ch:=JH vL 121 Tryz.f121) (lp:=fun _ _ _ _=>none) Hs mixedOrders ZW Gt Tryz.func120 rfl rfl rfl (by decide +kernel) (fun ρ w=>by simp[execOp,resolve,invoke,builtin]) (by kernel_rfl) (by kernel_rfl) rfl (by rw[b];decide +kernel) h a
theorem abg {gs:xG} {a:FuncId->List GV->GH->Option (GV×GH)} (k:∀(b:eL gs) {f us H g H'},a f us H=some (g,H')->∀ρ w vs,eX b ρ H w->pH ρ us vs->kP Tryz.prog b ρ f vs w g H') (b:eL gs):So Tryz.prog ⟨vL,83,a,Ug 237⟩ IJ.fns b:=by
 refine⟨Hs,mixedOrders,fun h=> ?_,k b,fun h ρ w vs H R j=>Xl Tryz.func237 rfl rfl rfl rfl h ρ w vs H R j,fun R hc c d=> ?_⟩
 ·obtain⟨e,i,h⟩:=aC.1 (show ob (Qw _) _=some _ from h)
  cases h
  obtain⟨l,m,n⟩:=UY i
  exact⟨l,m,Nb n⟩
 ·exact Zm (tb:=vL) (T1:=3) (T2:=44) (cc:=120) Hs Tryz.func83 Tryz.call83 Tryz.call120 rfl rfl rfl (Px (by kernel_rfl)) (Px (by kernel_rfl)) (QD rfl rfl) (QD rfl rfl) (Uv rfl rfl) (Uv rfl rfl) Zt R hc c d
theorem ZC {T:Nat} (a:eL (gl T)):So Tryz.prog gp IJ.fns a:=abg (fun a f us H g H' h ρ w vs R b=>Ld h R b) a
def gp0:GP:=⟨vL,83,fun _ _ _=>none,Ug 237⟩
theorem aer (a:eL ZU):So Tryz.prog gp0 IJ.fns a:=abg (fun a f us H g H' h=>by cases h) a
end
end Go.Gx
end
section
namespace Go.Gx
open Go Go.Sx Go.RowKit
mutual
def Fa (k:Nat):GV->GV
 | .ptr h o=> .ptr (k+h) o
 | .sl h o l s=> .sl (k+h) o l s
 | .map h=> .map (k+h)
 | .fn f a b=> .fn f (Sq k a) (Sq k b)
 | .agg cs=> .agg (Sq k cs)
 | .tup vs=> .tup (Sq k vs)
 | .int a b=> .int a b
 | .bool b=> .bool b
 | .str a b=> .str a b
 | .pnil=> .pnil
 | .snil=> .snil
 | .fnil=> .fnil
 | .inil=> .inil
 | .un=> .un
 | .bad=> .bad
 | .opn h=> .opn (k+h)
def Sq (k:Nat):List GV->List GV
 | []=>[]
 |v::r=>Fa k v::Sq k r
end
theorem Lw (k:Nat):∀(l:List GV) (i:Nat),(Sq k l)[i]? = (l[i]?).map (Fa k)
 | [],i=>rfl
 |v::r,0=>rfl
 |v::r,i+1=>by simpa [Sq]using Lw k r i
theorem Db (k:Nat):∀(l:List GV),(Sq k l).length=l.length
 | []=>rfl
 |v::r=>by simp[Sq,Db k r]
def VQ (k:Nat):GO->GO
 | .cells cs=> .cells (Sq k cs)
 | .mp es=> .mp (es.map fun e=>(Fa k e.1,Fa k e.2))
def zF (k:Nat) (l:Jy):Jy:={l with o:=VQ k l.o}
theorem Rl.shift {ρ e:dG} {k:Nat} (c:∀h l,ρ h=some l->e (k+h)=some (zF k l)) {g:GV} {v:Value} (h:Rl ρ g v):Rl e (Fa k g) v:=by
 have d:∀{us:List GV} {j:eV},(∀(i:Nat) g v,us[i]? = some g->j[i]? = some v->Rl e (Fa k g) v)->∀(i:Nat) g v,(Sq k us)[i]? = some g->j[i]? = some v->Rl e g v:=by
  intro us j A i g v w B
  rw[Lw]at w
  obtain⟨x,y,rfl⟩:=Option.map_eq_some_iff.1 w
  exact A i x v y B
 induction h with
 |int a n=>simp only[Fa];exact .int a n
 |bool b=>simp only[Fa];exact .bool b
 |str s=>simp only[Fa];exact .str s
 |ptr t h=>simp only[Fa];exact .ptr (l:=zF k _) t (c _ _ h)
 |pnil=>simp only[Fa];exact .pnil
 |sl h hc z=>simp only[Fa];exact .sl (l:=zF k _) (c _ _ h) hc z
 |snil=>simp only[Fa];exact .snil
 |map h=>simp only[Fa];exact .map (l:=zF k _) (c _ _ h)
 |fn f m u o D q r=>simp only[Fa];exact .fn f (by rw[Db];exact m) (d q) (by rw[Db];exact o) (d r)
 |fnil=>simp only[Fa];exact .fnil
 |inil=>simp only[Fa];exact .inil
 |agg m u o p=>simp only[Fa];exact .agg (by rw[Db];exact m) (d p) o
 |tup m u p=>simp only[Fa];exact .tup (by rw[Db];exact m) (d p)
 |un=>simp only[Fa];exact .un
 |bad v=>simp only[Fa];exact .bad v
 |opn v h C=>simp only[Fa];exact .opn (l:=zF k _) v (c _ _ h) C

abbrev OL:=List (Nat×Nat×GO)
def Sp:OL->Nat->Option (Nat×GO)
 | [],_=>none
 |x::r,h=>if h=x.1 then some x.2 else Sp r h
theorem Lk {os:OL} {h:Nat} {p:Nat×GO} (a:Sp os h=some p):(h,p)∈os:=by
 induction os with
 |nil=>cases a
 |cons x r b=>
  simp only[Sp]at a
  split at a
  ·rename_i e;cases a;subst e;exact List.mem_cons_self
  ·exact List.mem_cons_of_mem _ (b a)
noncomputable def Nj (k:Nat) (t:Tr (Nat×GO)):OL->Tr (Nat×GO)
 | []=>t
 |x::r=>(Nj k t r).set (some (k+x.2.1,VQ k x.2.2)) (k+x.1)
noncomputable def XJ:OL->Tr (Nat×GO)
 | []=> .lf
 |x::r=>(XJ r).set (some x.2) x.1
theorem Cr:∀(os:OL) (h:Nat),(XJ os).get h=Sp os h
 | [],h=>rfl
 |x::r,h=>by
  show((XJ r).set (some x.2) x.1).get h=_
  rw[qV]
  simp only[Sp]
  split
  ·rfl
  ·exact Cr r h
theorem IG (k:Nat) (t:Tr (Nat×GO)):∀(os:OL) (h:Nat),(Nj k t os).get h=if k<=h then(match Sp os (h - k)with|some p=>some (k+p.1,VQ k p.2)|none=>t.get h)else t.get h
 | [],h=>by simp[Nj,Sp]
 | x :: r, h => by
  show((Nj k t r).set (some (k+x.2.1,VQ k x.2.2)) (k+x.1)).get h=_
  rw[qV,IG k t r h]
  by_cases e:h=k+x.1
  ·subst e
   rw[if_pos rfl,if_pos (by omega)]
   simp[Sp]
  ·rw[if_neg e]
   by_cases a:k<=h
   ·rw[if_pos a,if_pos a]
    simp only[Sp]
    rw[if_neg (show¬h - k=x.1 by omega)]
   ·rw[if_neg a,if_neg a]
noncomputable def Hl (n:Nat) (os:OL):GH:=⟨n,XJ os⟩
noncomputable def GH.load (H:GH) (n:Nat) (os:OL):GH:=⟨H.n+n,Nj H.n H.t os⟩
section
variable {gs:xG} {w0:eL gs} {w w':World} {ρ ρ2:dG} {H:GH} {n:Nat} {os:OL}
theorem fU {H:GH} {h:Nat} {o:GO}:H.get h=some o↔∃v,H.t.get h=some (v,o):=by
 unfold GH.get
 cases c:H.t.get h with
 |none=>simp[ob]
 |some p=>obtain⟨a,b⟩:=p;simp[ob]
theorem qT {H:GH} {h v:Nat}:H.ver h=some v↔∃o,H.t.get h=some (v,o):=by
 unfold GH.ver
 cases c:H.t.get h with
 |none=>simp[ob]
 |some p=>obtain⟨a,b⟩:=p;simp[ob]
theorem eX.sub {d:GH} (R:eX w0 ρ H w) (z:d.n=H.n) (m:∀h p,d.t.get h=some p->H.t.get h=some p):eX w0 ρ d w:=by
 have g:∀h o,d.get h=some o->H.get h=some o:=fun h o i=>by
  obtain⟨v,j⟩:=fU.1 i
  exact fU.2 ⟨v,m _ _ j⟩
 refine⟨R.ext,fun h o i=>R.live h o (g h o i),fun h q o y l u e f=>R.inj h q o y l u (g _ _ e) (g _ _ f),fun h r=>R.fresh h (by omega),fun h r=>R.dense h (by omega),fun h v l j s=> ?_,R.env⟩
 obtain⟨o,k⟩:=qT.1 j
 obtain⟨x,a,b,c⟩:=R.vers h v l (qT.2 ⟨o,m _ _ k⟩) s
 refine⟨x,a,b,?_⟩
 have e:=fU.2 ⟨v,k⟩
 have f:=g _ _ e
 rw[c]at f;cases f;exact e
theorem vO.shift {l:Jy} {o:GO} {f:dG} {k:Nat} (d:∀h l,ρ2 h=some l->f (k+h)=some (zF k l)) (h:vO ρ2 w l o):vO f w (zF k l) (VQ k o):=by
 cases o with
 |cells cs=>
  obtain⟨j,T,r,s,t,x⟩:=h
  refine⟨j,T,r,s,by rw[Db];exact t,fun i g e=> ?_⟩
  rw[Lw]at e
  obtain⟨p,q,rfl⟩:=Option.map_eq_some_iff.1 e
  obtain⟨v,a,b,c⟩:=x i p q
  exact⟨v,a,b.shift d,c⟩
 |mp y=>
  obtain⟨en,u,r,s,t⟩:=h
  refine⟨en,u,r,by simpa [VQ]using s,fun i g e=> ?_⟩
  rw[List.getElem?_map]at e
  obtain⟨p,q,rfl⟩:=Option.map_eq_some_iff.1 e
  obtain⟨m,a,b,c⟩:=t i p q
  exact⟨m,a,b.shift d,c.shift d⟩
theorem eX.join {gs2:xG} {hb:Gf gs2 w fun _=>False} (R:eX w0 ρ H w) (L:eX (eL.of w hb) ρ2 (Hl n os) w'):
  ∃s:dG,ρ.le s∧eX w0 s (H.load n os) w'∧∀g v,Rl ρ2 g v->Rl s (Fa H.n g) v:=by
 let s:dG:=fun h=>if h<H.n then ρ h else(ρ2 (h - H.n)).map (zF H.n)
 have F:ρ.le s:=fun h l f=>by
  have aa:h<H.n:=by
   rcases Nat.lt_or_ge h H.n with q|q
   ·exact q
   ·rw[R.fresh h q]at f;cases f
  show(if h<H.n then ρ h else _)=_
  rw[if_pos aa];exact f
 have J:∀h l,ρ2 h=some l->s (H.n+h)=some (zF H.n l):=fun h l f=>by
  show(if H.n+h<H.n then _ else _)=_
  rw[if_neg (by omega),show H.n+h - H.n=h by omega,f];rfl
 have k:∀h,h<H.n->s h=ρ h:=fun h u=>by show(if h<H.n then ρ h else _)=_;rw[if_pos u]
 have d:∀h,H.n<=h->s h=(ρ2 (h - H.n)).map (zF H.n):=fun h u=>by show(if h<H.n then ρ h else _)=_;rw[if_neg (by omega)]
 have I:∀h,H.n<=h->H.t.get h=none:=fun h u=>by
  cases x:H.t.get h with
  |none=>rfl
  |some p=>exact absurd (R.lt (fU.2 ⟨p.1,x⟩)) (by omega)
 have W:∀h,h<H.n->(H.load n os).t.get h=H.t.get h:=fun h u=>by
  show(Nj H.n H.t os).get h=_
  rw[IG,if_neg (by omega)]
 have gh:∀h p,H.n<=h->(H.load n os).t.get h=some p->∃p2,(Hl n os).t.get (h - H.n)=some p2∧p=(H.n+p2.1,VQ H.n p2.2):=fun h p u hp=>by
  have z:(Nj H.n H.t os).get h=some p:=hp
  rw[IG,if_pos u,I h u]at z
  cases Y:Sp os (h - H.n)with
  |none=>rw[Y]at z;cases z
  |some p2=>rw[Y]at z;cases z;exact⟨p2,(Cr os _).trans Y,rfl⟩
 have V:Kw w w':=L.ext.ext
 have K:∀l:Jy,(eL.of w hb).mine l.b->w.heap.size<=l.b:=fun l h=>by
  rcases h with h|h
  ·exact h
  ·exact h.elim
 have r:∀h o,h<H.n->(H.load n os).get h=some o->∃l,ρ h=some l∧w0.mine l.b∧vO ρ w l o∧H.get h=some o:=fun h o u x=>by
  obtain⟨v,M⟩:=fU.1 x
  rw[W h u]at M
  have y:=fU.2 ⟨v,M⟩
  obtain⟨l,a,b,c⟩:=R.live h o y
  exact⟨l,a,b,c,y⟩
 have m:∀h o,H.n<=h->(H.load n os).get h=some o->∃l N,ρ2 (h - H.n)=some l∧w.heap.size<=l.b∧vO ρ2 w' l N∧o=VQ H.n N∧(Hl n os).get (h - H.n)=some N:=fun h o u x=>by
  obtain⟨v,M⟩:=fU.1 x
  obtain⟨p2,D,e⟩:=gh h _ u M
  cases e
  have y:(Hl n os).get (h - H.n)=some p2.2:=fU.2 ⟨p2.1,D⟩
  obtain⟨l,a,b,c⟩:=L.live _ _ y
  exact⟨l,p2.2,a,K l b,c,rfl,y⟩
 refine⟨s,F,⟨R.ext.trans V,fun h o x=> ?_,fun h A o T l l' U D f j E=> ?_,fun h u=> ?_,fun h u=> ?_,fun h v l M f=> ?_,fun i v e=>let ⟨l,a,b⟩:=R.env i v e;⟨l,F _ _ a,b⟩⟩,fun g v x=>x.shift J⟩
 ·rcases Nat.lt_or_ge h H.n with q|q
  ·obtain⟨l,a,b,c,_⟩:=r h o q x
   exact⟨l,by rw[k h q];exact a,b,c.move F (V.block _ c.lt)⟩
  ·obtain⟨l,N,a,b,c,rfl,_⟩:=m h o q x
   exact⟨zF H.n l,by rw[d h q,a];rfl,.inl (Nat.le_trans R.ext.size b),c.shift J⟩
 ·rcases Nat.lt_or_ge h H.n with q|q<;>rcases Nat.lt_or_ge A H.n with G|G
  ·obtain⟨l1,B,_,_,O⟩:=r h o q U
   obtain⟨S,C,_,_,P⟩:=r A T G D
   rw[k h q,B]at f;rw[k A G,C]at j
   cases f;cases j
   exact R.inj h A o T _ _ O P B C E
  ·obtain⟨l1,B,_,c1,O⟩:=r h o q U
   obtain⟨S,N,C,b2,_,rfl,P⟩:=m A T G D
   rw[k h q,B]at f;rw[d A G,C]at j
   cases f;cases j
   have:=c1.lt
   simp only[zF]at E
   omega
  ·obtain⟨l1,o1,B,b1,_,rfl,O⟩:=m h o q U
   obtain⟨S,C,_,c2,P⟩:=r A T G D
   rw[d h q,B]at f;rw[k A G,C]at j
   cases f;cases j
   have:=c2.lt
   simp only[zF]at E
   omega
  ·obtain⟨l1,o1,B,b1,_,rfl,O⟩:=m h o q U
   obtain⟨S,N,C,b2,_,rfl,P⟩:=m A T G D
   rw[d h q,B]at f;rw[d A G,C]at j
   cases f;cases j
   have:=L.inj _ _ _ _ _ _ O P B C E
   omega
 ·have X:H.n+n<=h:=u
  rw[d h (by omega),L.fresh (h - H.n) (by show n<=_;omega)];rfl
 ·have X:h<H.n+n:=u
  rcases Nat.lt_or_ge h H.n with q|q
  ·obtain⟨l,f⟩:=R.dense h q
   exact⟨l,by rw[k h q];exact f⟩
  ·obtain⟨l,f⟩:=L.dense (h - H.n) (by show _<n;omega)
   exact⟨zF H.n l,by rw[d h q,f];rfl⟩
 ·obtain⟨o,Q⟩:=qT.1 M
  rcases Nat.lt_or_ge h H.n with q|q
  ·rw[W h q]at Q
   rw[k h q]at f
   obtain⟨lv,a,b,c⟩:=R.vers h v l (qT.2 ⟨o,Q⟩) f
   have x:=fU.2 ⟨v,Q⟩
   obtain⟨l',j,_,ck⟩:=R.live h o x
   rw[f]at j;cases j
   refine⟨lv,F _ _ a,by rw[V.block _ ck.lt];exact b,?_⟩
   obtain⟨v2,ab⟩:=fU.1 c
   exact fU.2 ⟨v2,by rw[W h q];exact ab⟩
  ·obtain⟨p2,D,e⟩:=gh h _ q Q
   cases e
   rw[d h q]at f
   obtain⟨S,Z,rfl⟩:=Option.map_eq_some_iff.1 f
   obtain⟨lv,a,b,c⟩:=L.vers (h - H.n) p2.1 S (qT.2 ⟨p2.2,D⟩) Z
   refine⟨zF H.n lv,J _ _ a,b,?_⟩
   have h3:(Hl n os).get (h - H.n)=some p2.2:=fU.2 ⟨p2.1,D⟩
   rw[c]at h3
   have h4:=Option.some.inj h3
   exact fU.2 ⟨_,by rw[Q,<-h4];rfl⟩
end

theorem TV {a b:Nat×Nat} (h:NS a b=true):a=b:=by
 obtain⟨f,d⟩:=a
 obtain⟨g,e⟩:=b
 unfold NS at h
 cases c:Nat.beq d e with
 |false=>simp[c]at h
 |true=>
  simp only[c,cond_true]at h
  rw[Nat.eq_of_beq_eq_true h,Nat.eq_of_beq_eq_true c]
theorem UX {ρ:dG} {n l:Nat} {x:ByteArray} (a:n=kO (bF x)) (b:l=(bF x).length):Rl ρ (.str n l) (.string x):=by
 rw[a,b];exact .str x
def isS (us:List GV) (p:Nat×Nat):Bool:=List.casesOn (motive:=fun _=>Bool) us false fun u r=>List.casesOn (motive:=fun _=>Bool) r (Option.casesOn (motive:=fun _=>Bool) (GV.asStr u) false fun s=>NS s p) fun _ _=>false
theorem ZH {us:List GV} {p:Nat×Nat} (h:isS us p=true):us=[.str p.1 p.2]:=by
 cases us with
 |nil=>cases h
 | cons u r =>
  cases r with
  |cons _ _=>cases h
  | nil =>
   cases a:GV.asStr u with
   |none=>simp[isS,a]at h
   |some s=>
    have:NS s p=true:=by simpa [isS,a]using h
    rw[oQ a,TV this]
noncomputable section
def UR (H:GH) (a:List Nat):Option OL:=List.rec (motive:=fun _=>Option OL) (some []) (fun h _ b=>ob (H.t.get h) fun p=>ob b fun r=>some ((h,p.1,p.2)::r)) a
theorem FV {H:GH}:∀{b:List Nat} {os:OL},UR H b=some os->∀x∈os,H.t.get x.1=some x.2
 | [],os,h,x,a=>by cases h;cases a
 |h0::b,os,h,x,a=>by
  obtain⟨p,c,h⟩:=aC.1 (show ob (H.t.get h0) (fun p=>ob (UR H b) fun r=>some ((h0,p.1,p.2)::r))=some os from h)
  obtain⟨r,d,h⟩:=aC.1 h
  cases h
  rcases List.mem_cons.1 a with rfl|a
  ·exact c
  ·exact FV d x a
def UA (T:Ew) (G:GP) (fuel f:Nat) (us:List GV) (a:List Nat):Option (GV×Nat×OL):=ob (HX T G fuel f us H0) fun r=>ob (UR r.2 a) fun os=>some (r.1,r.2.n,os)
def shK {R:Type} (k:Nat) (v:GV) (f:GV->R):R:=GV.casesOn (motive_1:=fun _=>R) v (fun a b=>f (.int a b)) (fun b=>f (.bool b)) (fun a b=>f (.str a b)) (fun h o=>sn (Nat.add k h) fun h=>f (.ptr h o)) (f .pnil) (fun h o l s=>sn (Nat.add k h) fun h=>f (.sl h o l s)) (f .snil) (fun h=>sn (Nat.add k h) fun h=>f (.map h)) (fun a b c=>f (Fa k (.fn a b c))) (f .fnil) (f .inil) (fun cs=>f (Fa k (.agg cs))) (fun vs=>f (Fa k (.tup vs))) (f .un) (f .bad) (fun h=>sn (Nat.add k h) fun h=>f (.opn h))
theorem Vf {R:Type} (k:Nat) (v:GV) (f:GV->R):shK k v f=f (Fa k v):=by
 cases v<;>simp[shK,uN,Fa]
def aab {R:Type} (k:Nat) (l:List GV):(List GV->R)->R:=List.rec (motive:=fun _=>(List GV->R)->R) (fun f=>f []) (fun x _ a f=>shK k x fun y=>a fun r=>f (y::r)) l
theorem QA {R:Type} (k:Nat):∀(l:List GV) (f:List GV->R),aab k l f=f (Sq k l)
 | [],f=>rfl
 |x::l,f=>by
  show shK k x (fun y=>aab k l fun r=>f (y::r))=_
  rw[Vf,QA k l];rfl
def aac {R:Type} (k:Nat) (o:GO) (f:GO->R):R:=GO.casesOn (motive:=fun _=>R) o (fun cs=>aab k cs fun cs=>f (.cells cs)) (fun a=>f (VQ k (.mp a)))
theorem XQ {R:Type} (k:Nat) (o:GO) (f:GO->R):aac k o f=f (VQ k o):=by
 cases o with
 |cells cs=>exact QA k cs _
 |mp a=>rfl
def ZV {R:Type} (k:Nat) (t:Tr (Nat×GO)) (os:OL):(Tr (Nat×GO)->R)->R:=List.rec (motive:=fun _=>(Tr (Nat×GO)->R)->R) (fun f=>f t) (fun x _ a f=>a fun t=>sn (Nat.add k x.2.1) fun v=>sn (Nat.add k x.1) fun h=>aac k x.2.2 fun o=>t.setK (some (v,o)) h f) os
theorem Qr {R:Type} (k:Nat) (t:Tr (Nat×GO)):∀(os:OL) (f:Tr (Nat×GO)->R),ZV k t os f=f (Nj k t os)
 | [],f=>rfl
 |x::os,f=>by
  show ZV k t os (fun t=>sn (Nat.add k x.2.1) fun v=>sn (Nat.add k x.1) fun h=>aac k x.2.2 fun o=>t.setK (some (v,o)) h f)=_
  rw[Qr k t os]
  simp only[uN,XQ,Ba];rfl
def Qg (g:GV) (n:Nat) (os:OL) (H:GH):Option (GV×GH):=sn H.n fun k=>shK k g fun g=>ZV k H.t os fun t=>sn (Nat.add k n) fun m=>some (g,⟨m,t⟩)
theorem Uz (g:GV) (n:Nat) (os:OL) (H:GH):Qg g n os H=some (Fa H.n g,H.load n os):=by
 unfold Qg
 simp only[uN,Vf,Qr];rfl
theorem XD {P:Program} {T:Ew} {G:GP} {gs gs2:xG} (d:gs2.obs=gs.obs) (b:gs2.env=[]) (D:HF T G.tab) (C:∀k:eL gs2,So P G T.fns k) {fuel f n:Nat} {us:List GV} {vs:List Value} {E:List Nat} {g:GV} {os:OL} (c:UA T G fuel f us E=some (g,n,os)) (x:aP P f)
  {k:eL gs} {w:World} {ρ:dG} {H H':GH} {u:GV} (F:pH (fun _=>none) us vs) (h:Qg g n os H=some (u,H')) (R:eX k ρ H w):kP P k ρ f vs w u H':=by
 rw[Uz]at h;cases h
 obtain⟨r,y,c⟩:=aC.1 (show ob (HX T G fuel f us H0) _=some (g,n,os)from c)
 obtain⟨I,m,c⟩:=aC.1 c
 cases c
 rw[EC D]at y
 have a:Gf gs2 w fun _=>False:=fun p o=>⟨(R.glo p (d▸o)).1,id⟩
 rcases EB C (H':=r.2) (g:=r.1) y (eX.start (eL.of w a) b) F with⟨v,w',j,i,_⟩|⟨_,hc⟩
 ·have:=x vs.toArray w
  rw[show(eL.of w a).w=w from rfl,this]at i;cases i
 ·refine .inr ⟨x _ w,hc.mono ?_⟩
  rintro e w' ⟨v,t,rfl,_,z,q⟩
  have A:eX (eL.of w a) t (Hl r.2.n os) w':=z.sub rfl fun h p o=>by
   have:Sp os h=some p:=(Cr os h).symm.trans o
   exact FV m _ (Lk this)
  obtain⟨j,l,B,s⟩:=R.join A
  exact⟨v,j,rfl,l,B,s _ _ q⟩
theorem RJ {P:Program} {T:Ew} {G:GP} {gs:xG} (q:HF T G.tab) (o:∀A:eL gs,So P G T.fns A) {fuel f n:Nat} {us:List GV} {vs:List Value} {x:List Nat} {g:GV} {os:OL} (c:UA T G fuel f us x=some (g,n,os)) (s:aP P f)
  (y:pH (fun _=>none) us vs) (t:gs.env=[]) (b:eL gs):Calls P f vs.toArray b.w fun e w'=>∃v a,e = .returned v∧eX b a (Hl n os) w'∧Rl a g v:=by
 obtain⟨r,l,c⟩:=aC.1 (show ob (HX T G fuel f us H0) _=some (g,n,os)from c)
 obtain⟨z,i,c⟩:=aC.1 c
 cases c
 rw[EC q]at l
 rcases EB o (H':=r.2) (g:=r.1) l (eX.start b t) y with⟨v,w',a,d,_⟩|⟨_,hc⟩
 ·have:=s vs.toArray b.w
  rw[this]at d;cases d
 ·refine hc.mono ?_
  rintro e w' ⟨v,k,rfl,_,m,j⟩
  exact⟨v,k,rfl,m.sub rfl fun h p u=>by
   have:Sp os h=some p:=(Cr os h).symm.trans u
   exact FV i _ (Lk this),j⟩
end
theorem OO {P:Program} {gs:Nat->xG} {L:List aX} (y:∀w S,(∀h∈L,h.p w S)->∃T,Gf (gs T) w fun _=>False) {f n:Nat} {vs:List Value} {g:GV} {os:OL}
  (h:∀T (b:eL (gs T)),Calls P f vs.toArray b.w fun e w'=>∃v c,e = .returned v∧eX b c (Hl n os) w'∧Rl c g v) {A:Type} {o:A->Value} {LO:A->List aX}
  (d:∀T (b:eL (gs T)) (ρ:dG) (w:World) (V:Value),(∀k,b.mine k->b.w.heap.size<=k)->eX b ρ (Hl n os) w->Rl ρ g V->∃x:A,V=o x∧∀q∈LO x,q.p w (fun k=>b.w.heap.size<=k)):
  aU P f vs.toArray L o (fun _ l=>l) (fun x l=>LO x++l):=by
 intro s u D
 obtain⟨T,t⟩:=y s u D
 refine(h T (.of s t)).mono ?_
 rintro e w' ⟨v,c,rfl,R,C⟩
 obtain⟨x,rfl,B⟩:=d T (.of s t) c w' v (fun k r=>r.elim id False.elim) R C
 refine⟨x,rfl,R.ext,fun _ _=>False,⟨fun i m z=>by simp at z,fun i k h=>h.elim,fun i j k h=>h.elim⟩,fun q a=> ?_⟩
 have a:q∈LO x++[]:=a
 rw[List.append_nil]at a
 exact aX.wide (B q a) (fun k r=>⟨.inr (.inl r),fun i h=>h.elim⟩)

noncomputable def GI (s:ByteArray):Nat×Nat:=(kO (bF s),(bF s).length)
theorem MJ {a b:ByteArray} (h:GI a=GI b):a=b:=by
 have c:=TU a b
 unfold GI at h
 rw[h]at c
 have e:NS (kO (bF b),(bF b).length) (kO (bF b),(bF b).length)=true:=by simp[NS]
 rw[e]at c
 have d:a.toList=b.toList:=eq_of_beq c.symm
 rw[Lib.toList_data,Lib.toList_data]at d
 obtain⟨⟨x⟩⟩:=a
 obtain⟨⟨y⟩⟩:=b
 simp only at d
 rw[d]
noncomputable def Zr (cs:List GV):Option (Nat×Nat):=List.casesOn (motive:=fun _=>Option (Nat×Nat)) cs none fun c r=>List.casesOn (motive:=fun _=>Option (Nat×Nat)) r c.asStr fun _ _=>none
abbrev ZY:eM ByteArray:=⟨1,Nat.one_pos,fun _ _ cs x=>cs=[.string x],fun h=>by simp[h],fun h _=>h⟩
theorem gO.str {S:Nat->Prop} {ρ:dG} {w:World}:gO S ρ w Zr ZY GI:=fun gs vs y a h _=>by
 cases gs with
 |nil=>cases h
 |cons c gs=>
 cases gs with
 |cons _ _=>cases h
 |nil=>
 have h:c.asStr=some y:=h
 obtain⟨v,vs,rfl,b,a⟩:=a.of_cons
 rw[a.of_nil]
 rw[oQ h]at b
 obtain⟨x,rfl,d,e⟩:=b.str_inv
 exact⟨x,by unfold GI;rw[<-d,<-e],rfl⟩
theorem XS {ρ:dG} {V:Value} {n l:Nat} {s:ByteArray} (h:Rl ρ (.str n l) V) (e:GI s=(n,l)):V = .string s:=by
 obtain⟨x,rfl,a,b⟩:=h.str_inv
 have:GI x=GI s:=by rw[e];unfold GI;rw[<-a,<-b]
 rw[MJ this]
theorem Iq {c:Type}:∀a b:c,id a=id b->a=b:=fun _ _ h=>h
theorem Co {c d e i:Type} {f:c->e} {g:d->i} (j:∀a b,f a=f b->a=b) (k:∀a b,g a=g b->a=b):∀a b:c×d,(fun z:c×d=>(f z.1,g z.2)) a=(fun z:c×d=>(f z.1,g z.2)) b->a=b:=fun a b h=>by
 obtain⟨l,m⟩:=a
 obtain⟨n,o⟩:=b
 simp only[Prod.mk.injEq]at h
 rw[j _ _ h.1,k _ _ h.2]
theorem Iw {d e:Type} {f:d->e} (c:∀a b,f a=f b->a=b):∀{xs ys:List d},xs.map f=ys.map f->xs=ys
 | [],[],_=>rfl
 | [],_::_,h=>by simp at h
 |_::_,[],h=>by simp at h
 |a::xs,b::ys,h=>by
  simp only[List.map_cons,List.cons.injEq]at h
  rw[c _ _ h.1,Iw c h.2]
end Go.Gx
end
section
set_option maxRecDepth 100000
namespace Go.Gx
open Go Go.Sx Go.Proofs Go.Proofs.YtjlbcgddhnjcjaaGreatDoor
def mu0:List GV:=[.str 2782272544148574329703548915484139416562471587372346629090892429547018860149309682118537811771073185556707760590527461846276004869770941806974104689717583530206048895217444112283498148464 78]
def mg0:GV:=(.agg [(.str 1907970655657516625763 9),(.sl 328 0 1 6),(.sl 491 0 1 3)])
def UB:OL:=[(328,328,.cells [(.str 99 1),(.int .i64 (.ofNat 1)),(.int .i64 (.ofNat 0)),(.int .i64 (.ofNat 0)),(.int .i64 (.ofNat 1)),(.int .i64 (.ofNat 0))]),
 (410,410,.cells [(.int .i64 (.ofNat 21)),(.int .i64 (.ofNat 0)),(.int .i64 (.ofNat 35)),(.int .i64 (.ofNat 0)),(.int .i64 (.ofNat 12)),(.int .i64 (.ofNat 0)),(.int .i64 (.ofNat 5)),(.int .i64 (.ofNat 0))]),
 (475,475,.cells [(.int .i64 (.ofNat 27)),(.int .i64 (.ofNat 0)),(.int .i64 (.ofNat 12)),(.int .i64 (.ofNat 0))]),
 (483,483,.cells [(.int .i64 (.ofNat 0)),(.sl 475 0 2 2)]),
 (491,491,.cells [(.str 7891302 3),(.sl 410 0 4 2),(.sl 483 0 1 2)])]
set_option maxHeartbeats 4000000 in
theorem me0:UA IJ gp 4000 13 mu0 [328,410,475,483,491]=some (mg0,651,UB):=by kernel_rfl
noncomputable def OB (f:Nat) (us:List GV) (H:GH):Option (GV×GH):=bif Nat.beq f 13 then(bif isS us (2782272544148574329703548915484139416562471587372346629090892429547018860149309682118537811771073185556707760590527461846276004869770941806974104689717583530206048895217444112283498148464,78)then Qg mg0 651 UB H else Uh f us H)else Uh f us H
noncomputable def abi:GP:=⟨vL,gp.cat,OB,gp.exn⟩
theorem Rz {T:Nat} {d:eL (gl T)} {w:World} {ρ:dG} {H H':GH} {g:GV} {us:List GV} {vs:eV} {f:Nat} (h:OB f us H=some (g,H')) (R:eX d ρ H w) (a:pH ρ us vs):kP Tryz.prog d ρ f vs w g H':=by
 unfold OB at h
 cases b:Nat.beq f 13 with
 |false=>rw[b]at h;exact Ld h R a
 | true =>
  rw[b]at h
  cases c:isS us (2782272544148574329703548915484139416562471587372346629090892429547018860149309682118537811771073185556707760590527461846276004869770941806974104689717583530206048895217444112283498148464,78)with
  |false=>rw[c]at h;exact Ld h R a
  |true=>
   rw[c]at h;rw[Nat.eq_of_beq_eq_true b]
   rw[ZH c]at a
   obtain⟨V,rfl,j⟩:=a.one
   obtain⟨x,rfl,e,i⟩:=j.str_inv
   exact XD (gs:=gl T) (gs2:=gl T) rfl rfl Hp ZC me0 Tryz.call13 (pH.cons (UX e i) .nil) h R
theorem abh {T:Nat} (a:eL (gl T)):So Tryz.prog abi IJ.fns a:=⟨(ZC a).tab,(ZC a).mixed,(ZC a).fns,fun h ρ w vs R b=>Rz h R b,(ZC a).exn,(ZC a).cat⟩
noncomputable abbrev gp2:GP:=abi
theorem aes {T:Nat} (a:eL (gl T)):So Tryz.prog gp2 IJ.fns a:=abh a
end Go.Gx
end
section
namespace Go.Gx
open Go Go.Sx Go.RowKit
structure Hd (n:Nat) (os:OL) (ρ:dG) (w:World) (S:Nat->Prop):Prop where
 live:∀h o,(Hl n os).get h=some o->∃l,ρ h=some l∧S l.b∧vO ρ w l o
 inj:∀h h' o o' l l',(Hl n os).get h=some o->(Hl n os).get h'=some o'->ρ h=some l->ρ h'=some l'->l.b=l'.b->h=h'
 fresh:∀h,n<=h->ρ h=none
 dense:∀h,h<n->∃l,ρ h=some l
 vers:∀h v l,(Hl n os).ver h=some v->ρ h=some l->∃lv,ρ v=some lv∧w.heap[l.b]? = some lv.x∧(Hl n os).get h=some lv.o
theorem Hd.mono {n:Nat} {os:OL} {ρ:dG} {w w':World} {S f:Nat->Prop} (H:Hd n os ρ w S) (h:∀k,S k->k<w.heap.size->f k∧w'.heap[k]? = w.heap[k]?):Hd n os ρ w' f:=by
 refine⟨fun k o q=> ?_,H.inj,H.fresh,H.dense,fun k v l j i=> ?_⟩
 ·obtain⟨l,a,b,c⟩:=H.live k o q
  obtain⟨d,e⟩:=h _ b c.lt
  exact⟨l,a,d,c.move (dG.le_refl ρ) e⟩
 ·obtain⟨s,a,b,c⟩:=H.vers k v l j i
  obtain⟨o,r⟩:=qT.1 j
  obtain⟨t,g,m,p⟩:=H.live k o (fU.2 ⟨v,r⟩)
  rw[i]at g;cases g
  exact⟨s,a,by rw[(h _ m p.lt).2];exact b,c⟩
theorem eX.hd {gs:xG} {b:eL gs} {n:Nat} {os:OL} {ρ:dG} {w:World} {S:Nat->Prop} (R:eX b ρ (Hl n os) w) (d:∀k,b.mine k->S k):Hd n os ρ w S:=
 ⟨fun h o e=>let ⟨l,a,b,c⟩:=R.live h o e;⟨l,a,d _ b,c⟩,R.inj,R.fresh,R.dense,R.vers⟩
def Sw (n:Nat) (os:OL) (g:GV) (V:Value):aX where
 p w S:=∃ρ,Hd n os ρ w S∧Rl ρ g V
 mono:=fun⟨ρ,h,r⟩ k=>⟨ρ,h.mono k,r⟩
def Hd.O (n:Nat) (os:OL) (ρ:dG) (k:Nat):Prop:=∃h o l,(Hl n os).get h=some o∧ρ h=some l∧l.b=k
def Hd.base (n:Nat) (os:OL) (ρ:dG) (w:World):eL ZU:=⟨w,Hd.O n os ρ,fun _ h=>absurd h List.not_mem_nil⟩
theorem Hd.rel {n:Nat} {os:OL} {ρ:dG} {w:World} {S:Nat->Prop} (H:Hd n os ρ w S):eX (Hd.base n os ρ w) ρ (Hl n os) w:=
 ⟨AC.refl w,fun h o b=>let ⟨l,a,_,c⟩:=H.live h o b;⟨l,a,.inr ⟨h,o,l,b,a,rfl⟩,c⟩,H.inj,H.fresh,H.dense,H.vers,fun i v e=>by simp[Hd.base,ZU]at e⟩
noncomputable def DC (H:GH) (os:OL):Bool:=List.rec (motive:=fun _=>Bool) true (fun x _ a=>Option.casesOn (motive:=fun _=>Bool) (H.ver x.1) false fun v=>bif Nat.beq v x.2.1 then a else false) os
theorem Nq {H:GH}:∀{os:OL},DC H os=true->∀x∈os,H.ver x.1=some x.2.1
 | [],_,x,a=>by cases a
 | y :: os, h, x, a => by
  have h:Option.casesOn (motive:=fun _=>Bool) (H.ver y.1) false (fun v=>bif Nat.beq v y.2.1 then DC H os else false)=true:=h
  cases b:H.ver y.1 with
  |none=>rw[b]at h;cases h
  | some v =>
   rw[b]at h
   obtain⟨c,d⟩:=bK.1 (show(bif Nat.beq v y.2.1 then(some (DC H os))else none)=some true by
    have h:(bif Nat.beq v y.2.1 then DC H os else false)=true:=h
    cases e:Nat.beq v y.2.1<;>rw[e]at h<;>first|cases h|(show some (DC H os)=some true;rw[show DC H os=true from h]))
   rcases List.mem_cons.1 a with rfl|a
   ·rw[b,Nat.eq_of_beq_eq_true c]
   ·exact Nq (Option.some.inj d) x a
noncomputable def okV (os:OL) (r:OR):Bool:=Option.casesOn (motive:=fun _=>Bool) r false fun r=>Option.casesOn (motive:=fun _=>Bool) r.1.asB false fun b=>bif b then DC r.2 os else false
theorem UM {os:OL} {r:OR} (h:okV os r=true):∃H',r=some (.bool true,H')∧DC H' os=true:=by
 cases r with
 |none=>cases h
 | some r =>
  obtain⟨g,H'⟩:=r
  have h:Option.casesOn (motive:=fun _=>Bool) g.asB false (fun b=>bif b then DC H' os else false)=true:=h
  cases a:g.asB with
  |none=>rw[a]at h;cases h
  |some b=>
   rw[a]at h
   cases b with
   |false=>cases h
   |true=>exact⟨H',by rw[Ao a],h⟩
theorem RD {P:Program} {G:GP} {s:FT} (C:∀M:eL ZU,So P G s M) {fuel f n:Nat} {os:OL} {g:GV} {V:Value} (D:aP P f) (h:∃H',PN G s fuel f [g] (Hl n os)=some (.bool true,H')∧DC H' os=true) {w:World} {S:Nat->Prop} (K:(Sw n os g V).p w S):
  Calls P f #[V] w fun e w'=>e = .returned (.bool true)∧Kw w w':=by
 obtain⟨ρ,t,I⟩:=K
 obtain⟨H',A,B⟩:=h
 rcases EB C A t.rel (.cons I .nil)with⟨v,w',N,j,_⟩|⟨_,hc⟩
 ·have:=D #[V] w
  rw[this]at j;cases j
 ·refine hc.mono ?_
  rintro e w' ⟨v,Q,rfl,d,c,J⟩
  refine⟨by rw[J.bool_inv],c.ext.os,c.ext.tape,c.ext.output,c.ext.size,fun k F=> ?_⟩
  by_cases x:Hd.O n os ρ k
  ·obtain⟨i,o,l,E,u,rfl⟩:=x
   obtain⟨r,m⟩:=fU.1 E
   have H:(i,r,o)∈os:=Lk ((Cr os i).symm.trans m)
   obtain⟨L,a,b,_⟩:=t.vers i r l (qT.2 ⟨o,m⟩) u
   obtain⟨q,y,z,_⟩:=c.vers i r l (Nq B _ H) (d _ _ u)
   have:L=q:=by have:=d _ _ a;rw[y]at this;exact(Option.some.inj this).symm
   subst this
   exact z.trans b.symm
  ·exact c.ext.block k F x
end Go.Gx
end
section
namespace Go.Proofs.YtjlbcgddhnjcjaaGreatDoor
open Go Go.Sx Go.Gx
set_option maxRecDepth 100000
abbrev pW:=ByteArray×(Value×e_)×(Value×List (Int×(Value×e_)))
def uX (z:pW):e_×List (Int×e_):=(z.2.1.2,z.2.2.2.map fun s=>(s.1,s.2.2))
def wL:ByteArray:=(ByteArray.mk #[112,114,111,103,114,97,109,32,99,111,108,111,117,114,105,110,103,59,10,118,97,114,32,99,32,58,32,48,32,46,46,32,110,59,10,114,117,108,101,32,102,105,120,58,32,115,111,109,101,40,113,46,99,32,61,61,32,99,41,32,45,62,32,99,32,58,61,32,109,101,120,40,113,46,99,41,59,10])
def FW:GC:=[((ByteArray.mk #[99]),(1:Int),(0:Int),(0:Int),(1:Int),(0:Int))]
def CZ:Kl:=[([(21,0),(35,0),(12,0),(5,0)],[(0,[(27,0),(12,0)])])]
def Yp:List ((Nat×Nat)×e_×List (Int×e_)):=[((7891302,3),[(21,0),(35,0),(12,0),(5,0)],[(0,[(27,0),(12,0)])])]
def PF (V:Value):aX:=⟨fun w S=>(Sw 651 UB mg0 V).p w S,fun {w w' S S'} h k=>by
 rcases h with h
 ·exact((Sw 651 UB mg0 V).mono h k)⟩
noncomputable def Om {R:Type} (D:Kl) (k:List pW->Option R):Option R:=open Classical in if h:∃r,∀z:List pW,z.map uX=D->k z=some r then some (Classical.choose h)else none
theorem yT {R:Type} {D:Kl} {k:List pW->Option R} {r:R} (h:Om D k=some r) (z:List pW) (a:z.map uX=D):k z=some r:=by
 unfold Om at h
 split at h
 ·rename_i e
  rw[<-Option.some.inj h]
  exact Classical.choose_spec e z a
 cases h
theorem KL {R:Type} {D:Kl} {k:List pW->Option R} {r:R} (h:∀z:List pW,z.map uX=D->k z=some r):Om D k=some r:=by
 have e:∃r,∀z:List pW,z.map uX=D->k z=some r:=⟨r,h⟩
 unfold Om
 rw[dif_pos e]
 let z:List pW:=D.map fun x=>(ByteArray.empty,(undef,x.1),(undef,x.2.map fun s=>(s.1,(undef,s.2))))
 have c:z.map uX=D:=by
  show(D.map _).map uX=D
  rw[List.map_map]
  conv=>rhs;rw[<-List.map_id D]
  refine List.map_congr_left fun x _=>?_
  obtain⟨a,b⟩:=x
  simp[uX,Function.comp_def]
 rw[<-Classical.choose_spec e z c,h z c]
def kY (fuel:Nat) (p0:ByteArray):Option Vo:=if p0=wL then some ((ByteArray.mk #[99,111,108,111,117,114,105,110,103]),FW,CZ)else none
theorem DX:aP Tryz.prog 13:=Tryz.call13
theorem Tx:aP Tryz.prog 71:=Tryz.call71
theorem Ni:GI wL=(2782272544148574329703548915484139416562471587372346629090892429547018860149309682118537811771073185556707760590527461846276004869770941806974104689717583530206048895217444112283498148464,78):=by kernel_rfl
theorem US:GI (ByteArray.mk #[99,111,108,111,117,114,105,110,103])=(1907970655657516625763,9):=by kernel_rfl
theorem UU:MG (Hl 651 UB) 6 (dP 1 Zr (dP 1 (dI .i64) (dP 1 (dI .i64) (dP 1 (dI .i64) (dP 1 (dI .i64) (dI .i64)))))) (.sl 328 0 1 6)=some (FW.map fun z=>(GI z.1,z.2.1,z.2.2.1,z.2.2.2.1,z.2.2.2.2.1,z.2.2.2.2.2)):=by kernel_rfl
theorem RU:MG (Hl 651 UB) 3 (dP 1 Zr (dP 1 (dS (Hl 651 UB) 2 (dP 1 (dI .i64) (dI .i64))) (dS (Hl 651 UB) 2 (dP 1 (dI .i64) (dS (Hl 651 UB) 2 (dP 1 (dI .i64) (dI .i64))))))) (.sl 491 0 1 3)=some Yp:=by kernel_rfl
theorem XH:Yp.map (fun y=>(y.2.1,y.2.2))=CZ:=by kernel_rfl
theorem UT (r:Vo) (h:some ((ByteArray.mk #[99,111,108,111,117,114,105,110,103]),FW,CZ)=some r):aU Tryz.prog 13 #[vS wL] [Gb 0 (cellsOf AV oA)] (fun x:Value×Value×{z:List pW // z.map uX=r.2.2}=>Value.agg #[vS r.1,x.1,x.2.1]) (fun x l=>l) (fun x l=>Sl aH x.1 r.2.1::Sl aE x.2.1 x.2.2.1::PF (Value.agg #[vS r.1,x.1,x.2.1])::l):=by
 cases h
 refine OO (gs:=gl) (LO:=fun x:Value×Value×{z:List pW // z.map uX=CZ}=>[Sl aH x.1 FW,Sl aE x.2.1 x.2.2.1,PF (Value.agg #[vS (ByteArray.mk #[99,111,108,111,117,114,105,110,103]),x.1,x.2.1])]) Ui (fun T b=>RJ Hp ZC me0 DX (.cons (UX (x:=wL) (congrArg Prod.fst Ni).symm (congrArg Prod.snd Ni).symm) .nil) rfl b) ?_
 intro T b ρ w V a R g
 have v:=g
 obtain⟨f,rfl,c,_⟩:=g.agg_inv
 obtain⟨A,f,rfl,k,c⟩:=c.of_cons
 obtain⟨i,f,rfl,m,c⟩:=c.of_cons
 obtain⟨j,rfl,n⟩:=c.one
 obtain rfl:=XS k US
 obtain⟨y,u,p⟩:=CR R a (gO.pair gO.str (gO.pair (gO.int .i64) (gO.pair (gO.int .i64) (gO.pair (gO.int .i64) (gO.pair (gO.int .i64) (gO.int .i64)))))) m UU
 have e:y=FW:=Iw (Co (fun _ _=>MJ) (Co Iq (Co Iq (Co Iq (Co Iq Iq))))) u
 subst e
 obtain⟨ys,t,s⟩:=CR (r:=aE) R a (gO.pair gO.str (gO.pair (gO.sl R a (gO.pair (gO.int .i64) (gO.int .i64))) (gO.sl R a (gO.pair (gO.int .i64) (gO.sl R a (gO.pair (gO.int .i64) (gO.int .i64))))))) n RU
 have d:ys.map uX=CZ:=by
  rw[<-XH,<-t,List.map_map]
  refine List.map_congr_left fun x _=>?_
  simp[uX,Function.comp_def]
 exact⟨(i,j,⟨ys,d⟩),rfl,List.forall_mem_cons.2 ⟨p,List.forall_mem_cons.2 ⟨s,List.forall_mem_cons.2 ⟨(⟨ρ,eX.hd R a,v⟩),fun q o=>absurd o List.not_mem_nil⟩⟩⟩⟩
theorem VD:okV UB (HX IJ gp0 4000 71 [mg0] (Hl 651 UB))=true:=by kernel_rfl
theorem nG (fuel:Nat) {p0:ByteArray} (r:Vo) (h:kY fuel p0=some r):aU Tryz.prog 13 #[vS p0] [Gb 0 (cellsOf AV oA)] (fun x:Value×Value×{z:List pW // z.map uX=r.2.2}=>Value.agg #[vS r.1,x.1,x.2.1]) (fun x l=>l) (fun x l=>Sl aH x.1 r.2.1::Sl aE x.2.1 x.2.2.1::PF (Value.agg #[vS r.1,x.1,x.2.1])::l):=by
 unfold kY at h
 by_cases a:p0=wL
 ·subst a;exact UT r ((if_pos rfl).symm.trans h)
 rw[if_neg a]at h
 cases h
theorem IF (f:Nat):kY f wL=some ((ByteArray.mk #[99,111,108,111,117,114,105,110,103]),FW,CZ):=by
 unfold kY
 exact if_pos rfl
def Av (fuel:Nat) (p0:ByteArray×List (ByteArray×Int×Int×Int×Int×Int)×List (pW)):Option Bool:=some true
theorem Jr (fuel:Nat) {p0:ByteArray×List (ByteArray×Int×Int×Int×Int×Int)×List (pW)} (b c:Value) (r:Bool) (h:Av fuel p0=some r):
  aU Tryz.prog 71 #[Value.agg #[vS p0.1,b,c]] [Sl aH b p0.2.1,Sl aE c p0.2.2,PF (Value.agg #[vS p0.1,b,c])] (fun x:Unit=>vB (r)) (fun x l=>l) (fun _ l=>l):=by
 cases h
 intro w S t
 have d:Calls Tryz.prog 71 #[Value.agg #[vS p0.1,b,c]] w fun e w'=>e = .returned (.bool true)∧Kw w w':=by
  rcases t _ (List.mem_of_getElem? (i:=2) rfl)with p
  ·refine RD (fuel:=4000) aer Tx ?_ p
   obtain⟨H',f,g⟩:=UM VD
   rw[EC (G:=gp0) Hp]at f
   exact⟨H',f,g⟩
 refine d.mono ?_
 rintro e w' ⟨rfl,a⟩
 exact⟨(),rfl,⟨a.os,a.tape,a.output,a.size,fun k n _=>a.block k n⟩,fun _ _=>False,⟨fun i m o=>by simp at o,fun i k h=>h.elim,fun i j k h=>h.elim⟩,fun q s=>by simp at s⟩
end Go.Proofs.YtjlbcgddhnjcjaaGreatDoor
end
section
namespace Go.Proofs.YtjlbcgddhnjcjaaGreatDoor
open Go Go.Sx
section
abbrev abW:=CF
abbrev PRG:=ByteArray×(List abW)×(List pW)
abbrev GRF:=List Int×fQ
abbrev SCN:=PRG×GRF×Int×aT
abbrev WLK:=SCN×aT×Int×e_
inductive E where
 |lf (o a:Int)
 |un (o:Int) (x:E)
 |ag (o:Int) (x:E)
 |bi (o:Int) (x y:E)
 |ite (x y z:E)
def E.ts:E->e_
 |lf o a=>[(o,a)]
 |un o x=>(o,0)::x.ts
 |ag o x=>(o,0)::x.ts
 |bi o x y=>(o,0)::(x.ts++y.ts)
 |ite x y z=>(43,0)::(x.ts++(y.ts++z.ts))
def E.depth:E->Nat
 |lf _ _=>1
 |un _ x=>x.depth+1
 |ag _ x=>x.depth+1
 |bi _ x y=>max x.depth y.depth+1
 |ite x y z=>max x.depth (max y.depth z.depth)+1
def E.arOk:E->Bool
 |lf o _=>decide (1<=o)&&decide (o<=17)
 |un o x=>decide (18<=o)&&decide (o<=19)&&x.arOk
 |ag o x=>decide (20<=o)&&decide (o<=29)&&x.arOk
 |bi o x y=>decide (30<=o)&&decide (o<=42)&&x.arOk&&y.arOk
 |ite x y z=>x.arOk&&y.arOk&&z.arOk
theorem KN {a:Type} [Inhabited a] {T pre rest:List a} {x:a} {k:Nat} (b:T=pre++x::rest) (c:pre.length=k):at' T (k:Int)=x:=by
 subst b;exact Re pre rest x k c
theorem dO {k:Nat} (h:k<1000000):wI .i64 ((k:Int)+1)=((k+1:Nat):Int):=by rw[wr (by omega) (by omega)];rfl

theorem Tf (f:Nat) {o:Int} (a:1<=o) (b:o<=43):vF f o=some (if o<=17 then 0 else if o<=29 then 1 else if o<=42 then 2 else 3):=by
 unfold vF xF
 rw[if_neg (by omega)]
 simp only[decide_eq_true_eq]
 rw[if_neg (by omega)]
 split
 ·rfl
 ·split
  ·rfl
  ·split<;>rfl
theorem TT {F:Nat} {T pre rest:e_} {t:eK} {k m a:Nat} {fuel:Nat} (b:T=pre++t::rest) (e:pre.length=k) (f:k<1000) (j:m<3000) (c:vF F t.1=some ((a:Nat):Int)) (d:a<=3) (g:m+a≠0):
  bJ (kM F T) (fuel+1) ((k:Int),(m:Int))=if m+a=1 then some (((k+1:Nat):Int))else bJ (kM F T) fuel (((k+1:Nat):Int),((m+a - 1:Nat):Int)):=by
 have i:k<T.length:=by rw[b];simp;omega
 show kM F T ((k:Int),(m:Int)) (bJ (kM F T) fuel)=_
 unfold kM
 dsimp only
 rw[if_pos (by omega),cP (by omega),KN b e,bA c,if_neg (by omega),wr (x:=((a:Nat):Int) - 1) (by omega) (by omega),wr (by omega) (by omega),dO (by omega)]
 by_cases h:m+a=1
 ·rw[if_pos h,if_pos (by omega)]
 ·rw[if_neg h,if_neg (by omega)]
  have:(m:Int)+((a:Int) - 1)=((m+a - 1:Nat):Int):=by omega
  rw[this]
theorem Xc (F:Nat) (T:e_) (D:T.length<=900):∀(e:E),e.arOk=true->∀(fuel k m:Nat) (pre b:e_),T=pre++(e.ts++b)->pre.length=k->1<=m->m+2*(e.ts++b).length<=1900->e.ts.length<=fuel->
  bJ (kM F T) fuel ((k:Int),(m:Int))=if m=1 then some (((k+e.ts.length:Nat):Int))else bJ (kM F T) (fuel - e.ts.length) (((k+e.ts.length:Nat):Int),((m - 1:Nat):Int)):=by
 have p:∀{t:eK} {l b pre:e_} {fuel k m:Nat},T=pre++((t::l)++b)->pre.length=k->(t::l).length<=fuel->1<=t.1->t.1<=43->1<=m->m+2*((t::l)++b).length<=1900->∀a:Nat,(if t.1<=17 then 0 else if t.1<=29 then 1 else if t.1<=42 then 2 else 3:Int)=a->a<=3->∃f,fuel=f+1∧
   bJ (kM F T) fuel ((k:Int),(m:Int))=if m+a=1 then some (((k+1:Nat):Int))else bJ (kM F T) f (((k+1:Nat):Int),((m+a - 1:Nat):Int)):=by
  intro t l b pre fuel k m i j n s u d g a G w
  have v:=congrArg List.length i
  simp only[List.length_append,List.length_cons]at v g n
  obtain⟨f,rfl⟩:∃f,fuel=f+1:=⟨fuel - 1,by omega⟩
  exact⟨f,rfl,TT (rest:=l++b) (by simpa using i) j (by omega) (by omega) (by rw[Tf F s u,G]) w (by omega)⟩
 intro e
 induction e with
 |lf o a=>
  intro c fuel k m pre b i j d g n
  simp only[E.arOk,Bool.and_eq_true,decide_eq_true_eq]at c
  obtain⟨f,rfl,h⟩:=p (t:=(o,a)) (l:=[]) i j n (by dsimp only;omega) (by dsimp only;omega) d g 0 (by rw[if_pos (by dsimp only;omega)];rfl) (by omega)
  rw[h];rfl
 |un o x A=>
  intro c fuel k m pre b i j d g n
  simp only[E.arOk,Bool.and_eq_true,decide_eq_true_eq]at c
  obtain⟨f,rfl,h⟩:=p (t:=(o,0)) (l:=x.ts) i j n (by dsimp only;omega) (by dsimp only;omega) d g 1 (by rw[if_neg (by dsimp only;omega),if_pos (by dsimp only;omega)];rfl) (by omega)
  simp only[E.ts,List.length_cons]at n g ⊢
  rw[h,if_neg (by omega)]
  have:=A c.2 f (k+1) m (pre++[(o,0)]) b (by rw[i];simp[E.ts]) (by simp[j]) d (by simp at g ⊢;omega) (by omega)
  rw[show m+1 - 1=m by omega,this,show k+1+x.ts.length=k+(x.ts.length+1) by omega,show f+1 - (x.ts.length+1)=f - x.ts.length by omega]
 |ag o x A=>
  intro c fuel k m pre b i j d g n
  simp only[E.arOk,Bool.and_eq_true,decide_eq_true_eq]at c
  obtain⟨f,rfl,h⟩:=p (t:=(o,0)) (l:=x.ts) i j n (by dsimp only;omega) (by dsimp only;omega) d g 1 (by rw[if_neg (by dsimp only;omega),if_pos (by dsimp only;omega)];rfl) (by omega)
  simp only[E.ts,List.length_cons]at n g ⊢
  rw[h,if_neg (by omega)]
  have:=A c.2 f (k+1) m (pre++[(o,0)]) b (by rw[i];simp[E.ts]) (by simp[j]) d (by simp at g ⊢;omega) (by omega)
  rw[show m+1 - 1=m by omega,this,show k+1+x.ts.length=k+(x.ts.length+1) by omega,show f+1 - (x.ts.length+1)=f - x.ts.length by omega]
 |bi o x y q r=>
  intro c fuel k m pre b i j d g n
  simp only[E.arOk,Bool.and_eq_true,decide_eq_true_eq]at c
  obtain⟨f,rfl,h⟩:=p (t:=(o,0)) (l:=x.ts++y.ts) i j n (by dsimp only;omega) (by dsimp only;omega) d g 2 (by rw[if_neg (by dsimp only;omega),if_neg (by dsimp only;omega),if_pos (by dsimp only;omega)];rfl) (by omega)
  simp only[E.ts,List.length_cons,List.length_append]at n g ⊢
  rw[h,if_neg (by omega)]
  have s:=q c.1.2 f (k+1) (m+1) (pre++[(o,0)]) (y.ts++b) (by rw[i];simp[E.ts]) (by simp[j]) (by omega) (by simp at g ⊢;omega) (by omega)
  have u:=r c.2 (f - x.ts.length) (k+1+x.ts.length) m (pre++((o,0)::x.ts)) b (by rw[i];simp[E.ts]) (by simp[j];omega) (by omega) (by simp at g ⊢;omega) (by omega)
  rw[show m+2 - 1=m+1 by omega,s,if_neg (by omega),show m+1 - 1=m by omega,u,show k+1+x.ts.length+y.ts.length=k+(x.ts.length+y.ts.length+1) by omega,show f+1 - (x.ts.length+y.ts.length+1)=f - x.ts.length - y.ts.length by omega]
 |ite x y z q r B=>
  intro c fuel k m pre b i j d g n
  simp only[E.arOk,Bool.and_eq_true,decide_eq_true_eq]at c
  obtain⟨f,rfl,h⟩:=p (t:=(43,0)) (l:=x.ts++(y.ts++z.ts)) i j n (by decide) (by decide) d g 3 rfl (by omega)
  simp only[E.ts,List.length_cons,List.length_append]at n g ⊢
  rw[h,if_neg (by omega)]
  have s:=q c.1.1 f (k+1) (m+2) (pre++[(43,0)]) (y.ts++z.ts++b) (by rw[i];simp[E.ts]) (by simp[j]) (by omega) (by simp at g ⊢;omega) (by omega)
  have u:=r c.1.2 (f - x.ts.length) (k+1+x.ts.length) (m+1) (pre++((43,0)::x.ts)) (z.ts++b) (by rw[i];simp[E.ts]) (by simp[j];omega) (by omega) (by simp at g ⊢;omega) (by omega)
  have C:=B c.2 (f - x.ts.length - y.ts.length) (k+1+x.ts.length+y.ts.length) m (pre++((43,0)::(x.ts++y.ts))) b (by rw[i];simp[E.ts]) (by simp[j];omega) (by omega) (by simp at g ⊢;omega) (by omega)
  rw[show m+3 - 1=m+2 by omega,s,if_neg (by omega),show m+2 - 1=m+1 by omega,u,if_neg (by omega),show m+1 - 1=m by omega,C,show k+1+x.ts.length+y.ts.length+z.ts.length=k+(x.ts.length+(y.ts.length+z.ts.length)+1) by omega,show f+1 - (x.ts.length+(y.ts.length+z.ts.length)+1)=f - x.ts.length - y.ts.length - z.ts.length by omega]
theorem Zu (F:Nat) (e:E) (c:e.arOk=true) {T pre a:e_} {k:Nat} (d:T=pre++(e.ts++a)) (h:pre.length=k) (i:T.length<=800) (g:e.ts.length<=F):Br F T (k:Int)=some (((k+e.ts.length:Nat):Int)):=by
 have f:1<=e.ts.length:=by cases e<;>simp[E.ts]
 have b:=congrArg List.length d
 simp only[List.length_append]at b
 unfold Br Aj
 rw[if_neg (by omega)]
 simp only[decide_eq_true_eq]
 rw[if_neg (by omega)]
 have:=Xc F T (by omega) e c F k 1 pre a d h (by omega) (by simp;omega) g
 rw[if_pos rfl]at this
 exact this
end
section
def Fz (b:Bool):Int:=if b then 1 else 0
theorem tC (f:Nat) (b:Bool):hZ f b=some (Fz b):=by cases b<;>rfl
theorem AS {a:Type} [Inhabited a] {l:List a} {k:Nat} (h:k<l.length):l.take (k+1)=l.take k++[at' l (k:Int)]:=by
 rw[List.take_add_one,List.getElem?_eq_getElem h,iX,List.getD_eq_getElem?_getD,List.getElem?_eq_getElem h];rfl
theorem kF {a:Type} [Inhabited a] {l:List a} {k:Nat} (h:k<l.length):at' l (k:Int)=l[k]:=by
 rw[iX,List.getD_eq_getElem?_getD,List.getElem?_eq_getElem h];rfl
theorem JX {p:Nat->Prop}:∀(n:Nat),p n->∃m,m<=n∧p m∧∀j,j<m->¬p j:=by
 intro n
 induction n using Nat.strongRecOn with
 | _ n ih =>
  intro h
  by_cases hm:∃m,m<n∧p m
  ·obtain⟨m,h1,h2⟩:=hm
   obtain⟨k,a,b,c⟩:=ih m h1 h2
   exact⟨k,by omega,b,c⟩
  ·exact⟨n,Nat.le_refl n,h,fun j hj hp=>hm ⟨j,hj,hp⟩⟩
theorem Qk {g:Type} [DecidableEq g]:∀(c b:List g),c.Nodup->(∀x∈c,x∈b)->c.length<=b.length
 | [],b,_,_=>Nat.zero_le _
 |a::c,b,h,hs=>by
  have d:=hs a List.mem_cons_self
  have h:=List.nodup_cons.1 h
  have:=Qk c (b.erase a) h.2 (fun x f=>(List.mem_erase_of_ne (fun(e:x=a)=>h.1 (by rw[<-e];exact f))).2 (hs x (List.mem_cons_of_mem _ f)))
  rw[List.length_erase_of_mem d]at this
  have i:0<b.length:=List.length_pos_of_mem d
  simp only[List.length_cons];omega
def nz (x:Int):Bool:=decide (x≠0)
theorem TI (f:Nat) (l:aL) (h:l.length<f) (d:l.length<=1000):pQ f l=some ((l.countP nz:Nat):Int):=by
 unfold pQ
 have:=dV (step:=qH l) (K:=some ((l.countP nz:Nat):Int)) l.length (fun k=>(((l.take k).countP nz:Nat),(k:Int))) (fun k b c=>by
  have hc:(l.take k).countP nz<=k:=Nat.le_trans List.countP_le_length (by simp;omega)
  unfold qH sR
  dsimp only
  rw[if_pos (by omega),cP (by omega),AS c,List.countP_append,dO (by omega),dO (by omega)]
  by_cases a:at' l (k:Int)=0
  ·rw[if_neg (by simpa using a)];simp[nz,a]
  ·rw[if_pos a];simp[nz,a]) (fun b=>by
  unfold qH wV
  dsimp only
  rw[if_neg (by omega),List.take_length]) f h
 exact this
theorem Gm (f:Nat) (l:aL) (x:Int) (h:l.length<f) (hl:l.length<=1000):qP f l x=some (decide (x∈l)):=by
 have key:∃i:Int,pD f l x=some i∧(0<=i↔x∈l):=by
  by_cases hx:x∈l
  ·obtain⟨i,hi,hix⟩:=List.mem_iff_getElem.1 hx
   have hfirst:∃i,i<l.length∧at' l (i:Int)=x∧∀j,j<i->at' l (j:Int)≠x:=by
    obtain⟨m,h1,h2,h3⟩:=JX (p:=fun i=>at' l (i:Int)=x) i (by rw[kF hi,hix])
    exact⟨m,by omega,h2,h3⟩
   obtain⟨i,hi,h1,h2⟩:=hfirst
   refine⟨i,?_,iff_of_true (by omega) hx⟩
   unfold pD
   exact dV (step:=jH l x) (K:=some (i:Int)) i (fun k=>(k:Int)) (fun k ag hk=>by
    unfold jH
    rw[if_pos (by omega),cP (by omega),if_neg (fun e=>h2 k hk e.symm),dO (by omega)]) (fun ag=>by
    unfold jH
    rw[if_pos (by omega),cP (by omega),if_pos h1.symm]) f (by omega)
  ·refine⟨-1,?_,iff_of_false (by omega) hx⟩
   unfold pD
   exact dV (step:=jH l x) (K:=some (-1)) l.length (fun k=>(k:Int)) (fun k ag hk=>by
    unfold jH
    rw[if_pos (by omega),cP (by omega),if_neg (fun e=>hx (by rw[e,kF hk];exact List.getElem_mem hk)),dO (by omega)]) (fun ag=>by
    unfold jH tX
    rw[if_neg (by omega)]) f h
 obtain⟨i,h1,h2⟩:=key
 unfold qP
 rw[bA h1]
 by_cases hx:x∈l
 ·rw[decide_eq_true hx,decide_eq_true (h2.2 hx)]
 ·rw[decide_eq_false hx,decide_eq_false (fun e=>hx (h2.1 e))]
def Bm (l:aL):Int:=match l.findIdx? nz with
 |some i=>(i:Int)
 |none=> -1
theorem Ac {l:aL} {i:Nat} (a:i<l.length) (b:at' l (i:Int)≠0) (c:∀j,j<i->at' l (j:Int)=0):Bm l=i:=by
 have:l.findIdx? nz=some i:=by
  rw[List.findIdx?_eq_some_iff_getElem]
  refine⟨a,by rw[<-kF a];simpa [nz]using b,fun j d=> ?_⟩
  have:=c j d
  rw[kF (by omega)]at this
  simp[nz,this]
 unfold Bm;rw[this]
theorem Ab {l:aL} (h:∀j,j<l.length->at' l (j:Int)=0):Bm l = -1:=by
 have:l.findIdx? nz=none:=by
  rw[List.findIdx?_eq_none_iff]
  intro x b
  obtain⟨i,a,rfl⟩:=List.mem_iff_getElem.1 b
  have:=h i a
  rw[kF a]at this
  simp[nz,this]
 unfold Bm;rw[this]
theorem Ue (f:Nat) (l:aL) (h:l.length<f) (hl:l.length<=1000):mI f l (fun y0=>n_ f y0)=some (Bm l):=by
 unfold mI
 by_cases hx:∃i,i<l.length∧at' l (i:Int)≠0
 ·obtain⟨i,hi,h0⟩:=hx
  obtain⟨m,h1,h2,h3⟩:=JX (p:=fun i=>at' l (i:Int)≠0) i h0
  have h3:∀j,j<m->at' l (j:Int)=0:=fun j hj=>Decidable.not_not.1 (h3 j hj)
  rw[Ac (by omega) h2 h3]
  exact dV (step:=fD l _) (K:=some (m:Int)) m (fun k=>(k:Int)) (fun k ag hk=>by
   unfold fD n_
   rw[if_pos (by omega),cP (by omega),bA rfl,if_neg (by simp[h3 k hk]),dO (by omega)]) (fun ag=>by
   unfold fD n_
   rw[if_pos (by omega),cP (by omega),bA rfl,if_pos (by simpa using h2)]) f (by omega)
 ·have hx:∀j,j<l.length->at' l (j:Int)=0:=fun j hj=>Decidable.not_not.1 fun e=>hx ⟨j,hj,e⟩
  rw[Ab hx]
  exact dV (step:=fD l _) (K:=some (-1)) l.length (fun k=>(k:Int)) (fun k ag hk=>by
   unfold fD n_
   rw[if_pos (by omega),cP (by omega),bA rfl,if_neg (by simp[hx k hk]),dO (by omega)]) (fun ag=>by
   unfold fD oJ
   rw[if_neg (by omega)]) f h
def ZR (l:aL):Int:=l.foldl min 1073741824
theorem ZS (f:Nat) (l:aL) (h:l.length<f) (c:l.length<=1000):bJ (rS l) f ((1073741824:Int),(0:Int))=some (ZR l):=by
 exact dV (step:=rS l) (K:=some (ZR l)) l.length (fun k=>((l.take k).foldl min 1073741824,(k:Int))) (fun k a b=>by
  unfold rS
  dsimp only
  rw[if_pos (by omega),cP (by omega),AS b,List.foldl_append,dO (by omega)];rfl) (fun a=>by
  unfold rS yM
  dsimp only
  rw[if_neg (by omega),List.take_length];rfl) f h
def MU (l:aL):Nat->Nat->Nat
 |0,k=>k
 |f+1,k=>if((k:Nat):Int)∈l then MU l f (k+1)else k
def Ed (l:aL):Nat:=MU l (l.length+1) 0
theorem AN (l:aL):((Ed l:Nat):Int)∉l∧(∀j,j<Ed l->((j:Nat):Int)∈l)∧Ed l<=l.length:=by
 have key:∀(f k:Nat),(∀j,j<k->((j:Nat):Int)∈l)->(∀j,j<MU l f k->((j:Nat):Int)∈l)∧(MU l f k=k+f∨((MU l f k:Nat):Int)∉l):=by
  intro f
  induction f with
  |zero=>intro k h;exact⟨h,.inl rfl⟩
  | succ f ih =>
   intro k h
   by_cases hk:((k:Nat):Int)∈l
   ·have:=ih (k+1) (fun j hj=>by
     rcases Nat.lt_or_ge j k with q|q
     ·exact h j q
     ·rw[show j=k by omega];exact hk)
    simp only[MU,if_pos hk]
    exact⟨this.1,this.2.imp (fun e=>by omega) id⟩
   ·simp only[MU,if_neg hk]
    exact⟨h,.inr hk⟩
 have hle:∀m,(∀j,j<m->((j:Nat):Int)∈l)->m<=l.length:=fun m h=>by
  have:=Qk ((List.range m).map fun j=>((j:Nat):Int)) l (by
   rw[List.nodup_iff_pairwise_ne,List.pairwise_map]
   exact(List.nodup_iff_pairwise_ne.1 List.nodup_range).imp (fun h e=>h (by omega))) (fun x hx=>by
   obtain⟨j,hj,rfl⟩:=List.mem_map.1 hx
   exact h j (List.mem_range.1 hj))
  simpa using this
 obtain⟨h1,h2⟩:=key (l.length+1) 0 (fun j hj=>by omega)
 have h3:=hle _ h1
 refine⟨?_,h1,h3⟩
 rcases h2 with h2|h2
 ·have:MU l (l.length+1) 0<=l.length:=h3
  omega
 ·exact h2
theorem ZQ (f:Nat) (l:aL) (h:l.length+2<f) (hl:l.length<=900):zB f l=some ((Ed l:Nat):Int):=by
 obtain⟨h1,h2,h3⟩:=AN l
 unfold zB
 exact dV (step:=xK f l) (K:=some ((Ed l:Nat):Int)) (Ed l) (fun k=>(k:Int)) (fun k ag hk=>by
  unfold xK
  rw[bA (Gm f l (k:Int) (by omega) (by omega)),if_pos (by simpa using h2 k hk),dO (by omega)]) (fun ag=>by
  unfold xK Aa
  rw[bA (Gm f l _ (by omega) (by omega)),if_neg (by simpa using h1)]) f (by omega)
def XT (l:aL):Int:=l.foldl (fun a x=>wI .i64 (a+x)) 0
theorem aae (f:Nat) (l:aL) (h:l.length<f) (c:l.length<=1000):bJ (rT f l) f ((0:Int),(0:Int))=Bl f (XT l):=by
 refine(dV (step:=rT f l) l.length (fun k=>(XT (l.take k),(k:Int))) (fun k a b=> ?_) (fun a=> ?_) f h).trans rfl
 ·unfold rT
  dsimp only
  rw[if_pos (by omega),cP (by omega),dO (by omega),AS b]
  unfold XT
  rw[List.foldl_append];rfl
 ·unfold rT
  dsimp only
  rw[if_neg (by omega),List.take_length]
def PX (o:Int) (l:aL):Int:=
 if o=20 then Fz (l.all nz)else if o=21 then Fz (l.any nz)else if o=22 then((l.countP nz:Nat):Int)else if o=23 then Bm l else if o=24 then ZR l else if o=26 then max (-1073741824) (min (XT l) 1073741824)else((Ed l:Nat):Int)
theorem Xj (f:Nat) (o:Int) (l:aL) (hf:40<=f) (hl:l.length<=24) (ho:o=20∨o=21∨o=22∨o=23∨o=24∨o=26∨o=27):Ad f o l=some (PX o l):=by
 have hc:=TI f l (by omega) (by omega)
 unfold Ad
 rcases ho with rfl|rfl|rfl|rfl|rfl|rfl|rfl
 ·rw[if_pos rfl,bA hc,bA (tC f _),PX,if_pos rfl]
  have:(decide (((l.countP nz:Nat):Int)=(l.length:Int)))=l.all nz:=by
   rw[Bool.eq_iff_iff];simp[List.countP_eq_length,Int.ofNat_inj]
  rw[this]
 ·rw[if_neg (by decide),if_pos rfl,bA hc,bA (tC f _),PX,if_neg (by decide),if_pos rfl]
  have:(decide ((0:Int)<((l.countP nz:Nat):Int)))=l.any nz:=by
   rw[Bool.eq_iff_iff,decide_eq_true_eq,List.any_eq_true,show((0:Int)<((l.countP nz:Nat):Int))↔0<l.countP nz by omega,List.countP_pos_iff]
  rw[this]
 ·rw[if_neg (by decide),if_neg (by decide),if_pos rfl,bA hc];rfl
 ·rw[if_neg (by decide),if_neg (by decide),if_neg (by decide),if_pos rfl,bA (Ue f l (by omega) (by omega))];rfl
 ·rw[if_neg (by decide),if_neg (by decide),if_neg (by decide),if_neg (by decide),if_pos rfl,ZS f l (by omega) (by omega)];rfl
 ·rw[if_neg (by decide),if_neg (by decide),if_neg (by decide),if_neg (by decide),if_neg (by decide),if_neg (by decide),if_pos rfl,aae f l (by omega) (by omega)];rfl
 ·rw[if_neg (by decide),if_neg (by decide),if_neg (by decide),if_neg (by decide),if_neg (by decide),if_neg (by decide),if_neg (by decide),if_pos rfl,bA (ZQ f l (by omega) (by omega))];rfl
end
end Go.Proofs.YtjlbcgddhnjcjaaGreatDoor
end
section
namespace Go.Proofs.YtjlbcgddhnjcjaaGreatDoor
open Go.Sx
section
def rC (U:Nat) (p0:cU):Option (Int):=
 ck (0<=(List.length p0.1:Int)) (some (wI .u32 ((xS .u32 (1:Int) (List.length p0.1:Int)) - (1:Int))))
theorem Py:aP Tryz.prog 100:=Tryz.call100
theorem Gz (U:Nat) {p0:cU} (a:Value)  (b:Value)  (e:lW) (r:Int) (h:rC U p0=some r):
  aU Tryz.prog 100 #[Value.agg #[a,b]] [Sl bI a p0.1,S2 aY b e p0.2] (fun x:Unit=>vU (r)) (fun x l=>l) (fun _ l=>l):=by
 refine aU.of Tryz.func100 rfl Tryz.ntmps100 rfl fun c=>?_
 refine sqR<|aF (aI.box (cs:=[a,b]) rfl rfl) rfl fun f=>qkAsg rfl<|dtN<|sqR<|qkFld rfl<|qkLd 0 rfl<|qkLen (aB.fact 0 rfl) rfl<|ckE h fun d h=>aA (Gj rfl rfl d) rfl<|aA (pO rfl rfl) rfl<|qkAsg rfl<|dtN<|aQ ?_
 cases h
 exact wN rfl
end
section
def zC (U:Nat) (p0:ByteArray) (p1:Int) (p2:Int) (p3:Int):Option ((ByteArray×Int×Int×Int×Int×Int)):=
 some ((p0,(1:Int),(0:Int),p1,p2,p3))
theorem YZ:aP Tryz.prog 43:=Tryz.call43
theorem IU (U:Nat) {p0:ByteArray} {p1:Int} {p2:Int} {p3:Int} (r:(ByteArray×Int×Int×Int×Int×Int)) (h:zC U p0 p1 p2 p3=some r):
  aU Tryz.prog 43 #[vS (p0),vI (p1),vI (p2),vI (p3)] [] (fun x:Unit=>Value.agg #[vS (r.1),vI (r.2.1),vI (r.2.2.1),vI (r.2.2.2.1),vI (r.2.2.2.2.1),vI (r.2.2.2.2.2)]) (fun x l=>l) (fun _ l=>l):=by
 refine aU.of Tryz.func43 rfl Tryz.ntmps43 rfl fun c=>?_
 unfold zC at h
 refine sqR<|aF (aI.alloc (cs:=vD4) rfl rfl) rfl fun a=>dtN<|sqR<|qkMove rfl<|qkMove rfl<|qkMove rfl<|qkMove rfl ?_
 refine aA (Y.bld5 (r:=Value.agg #[vS (p0),vI (1:Int),vI (0:Int),vI (p1),vI (p2),vI (p3)]) rfl rfl rfl rfl rfl (by intro w;simp[Instr.build,Instr.fill,c_,cS,cF,dA,dB,cT,eB])) rfl ?_
 refine bE 0 (vs:=[vS (p0),vI (1:Int),vI (0:Int),vI (p1),vI (p2),vI (p3)]) rfl rfl rfl rfl rfl rfl<|dtN<|aQ ?_
 cases h
 exact gY () rfl rfl (RV.cell 0 rfl rfl rfl rfl) .nil aD.nil
end
section
def Bq (U:Nat)  : Option ((List (ByteArray×Int×Int×Int×Int×Int))):=
 Option.bind (zC U (ByteArray.mk #[99]) (0:Int) (1:Int) (0:Int)) fun a=>(some ([(a.1,a.2.1,a.2.2.1,a.2.2.2.1,a.2.2.2.2.1,a.2.2.2.2.2)]))
theorem YP:aP Tryz.prog 12:=Tryz.call12
theorem LB (U:Nat)  (r:(List (ByteArray×Int×Int×Int×Int×Int))) (h:Bq U  = some r):
  aU Tryz.prog 12 #[] [] (fun x:Value=>x) (fun x l=>Ar sH x r::l) (fun _ l=>l):=by
 refine aU.of Tryz.func12 rfl Tryz.ntmps12 rfl fun c=>?_
 refine sqR<|qkAsg rfl<|dtN<|sqR<|bnE h fun a d h=>aF (aI.callQ YZ (IU U  a d) rfl .nil) rfl fun f=>aF (bU (e:=sH) ([((a.1,a.2.1,a.2.2.1,a.2.2.2.1,a.2.2.2.2.1,a.2.2.2.2.2))]) [(0,Value.agg #[vS (a.1),vI (a.2.1),vI (a.2.2.1),vI (a.2.2.2.1),vI (a.2.2.2.2.1),vI (a.2.2.2.2.2)])] rfl rfl rfl rfl (Ub (vS (a.1)) (vI (a.2.1)) (vI (a.2.2.1)) (vI (a.2.2.2.1)) (vI (a.2.2.2.2.1)) (vI (a.2.2.2.2.2))) rfl rfl rfl) rfl fun b=>qkAsg rfl<|dtN<|aQ ?_
 cases h
 exact gY (b) rfl rfl (RV.tmp rfl) (aR.refl _) aD.nil
end
section
def tY  (a:aT):Option aT:=
 some (a)
def yA (a:aT×Int) (c:(aT×Int)->Option aT) (b:aL):Option aT:=
 ck ((List.length a.1:Int)+(List.length ([b]):Int)<=1099511627) (c ((a.1++[b]),(wI .i64 (a.2+(1:Int)))))
def nH (U:Nat) (p1:GC) (p2:aL) (e:aT×Int) (a:aL×Int) (c:(aL×Int)->Option aT) (b:eK):Option aT:=
 Option.bind (rD U p2 (wI .i64 ((wI .i64 (e.2*(List.length p1:Int)))+a.2))) fun f=>(Option.bind (eZ U f (wI .i64 ((wI .i64 (b.2 - b.1))+(1:Int)))) fun d=>(ck ((List.length a.1:Int)+(List.length ([(wI .i64 (b.1+d))]):Int)<=1099511627) (c ((a.1++([(wI .i64 (b.1+d))])),(wI .i64 (a.2+(1:Int)))))))
def nJ (U:Nat) (p0:cU) (p1:GC) (p2:aL) (e:Int) (b:aT×Int) (d:(aT×Int)->Option aT) (a:aL×Int) (c:(aL×Int)->Option aT):Option aT:=
 if a.2<(List.length p1:Int)then(ck (0<=a.2∧a.2<(List.length p1:Int)) (ck (0<=a.2∧a.2<(List.length p1:Int)) (ck (0<=a.2∧a.2<(List.length p1:Int)) (ck (0<=a.2∧a.2<(List.length p1:Int)) (ck (0<=a.2∧a.2<(List.length p1:Int)) (if((at' p1 a.2).2.1)=(2:Int)then(nH U p1 p2 b a c ((0:Int),(1:Int)))else(if((at' p1 a.2).2.1)=(3:Int)then(ck (0<=b.2∧b.2<(List.length p0.2:Int)) (nH U p1 p2 b a c ((-1:Int),(wI .i64 ((List.length (at' p0.2 b.2):Int) - (1:Int))))))else(nH U p1 p2 b a c (((at' p1 a.2).2.2.1),(wI .i64 ((wI .i64 (((at' p1 a.2).2.2.2.1)+(wI .i64 (((at' p1 a.2).2.2.2.2.1)*(List.length p0.2:Int)))))+(wI .i64 (((at' p1 a.2).2.2.2.2.2)*e)))))))))))))else(yA b d (a.1))
def jI (U:Nat) (p0:cU) (p1:GC) (p2:aL) (c:Int) (a:aT×Int) (b:(aT×Int)->Option aT):Option aT:=
 if a.2<(List.length p0.2:Int)then(bJ (nJ U p0 p1 p2 c a b) U (([]:aL),(0:Int)))else(tY  (a.1))
def qD (U:Nat) (p0:cU) (p1:GC) (p2:aL) (a:Int):Option aT:=
 bJ (jI U p0 p1 p2 a) U (([]:aT),(0:Int))
def tZ (U:Nat) (p0:cU) (p1:GC) (p2:aL) (a:eK) (b:d_->Option aT):Option aT:=
 if a.2<(List.length p0.2:Int)then(ck (0<=a.2∧a.2<(List.length p0.1:Int)) (b ((max a.1 (at' p0.1 a.2)),(wI .i64 (a.2+(1:Int))))))else(qD U p0 p1 p2 (a.1))
def mJ (U:Nat) (p0:cU) (p1:GC) (p2:aL):Option aT:=
 bJ (tZ U p0 p1 p2) U ((0:Int),(0:Int))
theorem YQ:aP Tryz.prog 14:=Tryz.call14
theorem IX (U:Nat) {p0:cU} {p1:GC} {p2:aL} (v0:Value)  (v1:Value)  (z2:lW)  (v3:Value)  (v4:Value) (r:aT) (h:mJ U p0 p1 p2=some r):
  aU Tryz.prog 14 #[Value.agg #[v0,v1],v3,v4] [Sl bI v0 p0.1,S2 aY v1 z2 p0.2,Sl aH v3 p1,Sl bI v4 p2] (fun x:CG=>x.1) (fun x l=>Ar cE.raw x.1 x.2::fT bO x.2 r::l) (fun _ l=>l):=by
 refine aU.of Tryz.func14 rfl Tryz.ntmps14 rfl fun c=>?_
 unfold mJ at h
 refine sqR<|aF (aI.box (cs:=[v0,v1]) rfl rfl) rfl fun b1=>qkAsg rfl<|dtN<|sqR<|qkFld rfl<|qkLd 0 rfl<|aA (iW rfl (aB.fact 1 rfl) rfl) rfl<|qkAsg rfl<|qkAsg rfl<|dtN<|aG<|midU (fun a3=>qD U p0 p1 p2 a3=some r) (fun a3 b4=>[(1,v3),(2,v4),(3,vP b1),(7,vI (List.length p0.2:Int)),(8,vI (a3))]) (fun a3 b4=>[bL b1 [v0,v1] 29]) ?_ ?_
 ·refine sqR<|qkAsg rfl<|dtN<|aN<|loopL (tZ U p0 p1 p2) (fun a61 b62=>[(1,v3),(2,v4),(3,vP b1),(7,vI (List.length p0.2:Int)),(8,vI (a61.1)),(9,vI (a61.2))]) (fun a61 b62=>[bL b1 [v0,v1] 29]) ((0:Int),(0:Int)) () h SF (aR.refl _) ?_
  intro k63 a61 b62 h
  refine aG<|sqR<|qkMove rfl<|qkMove rfl<|qkLss rfl<|dtN ?_
  refine eT h rfl (fun h=>?_) fun h=>?_
  ·refine cJ<|aG<|aN<|aM<|qkMove rfl<|qkFld rfl<|qkLd 0 rfl<|qkMove rfl<|ckE h fun j65 h=>aA (a_ rfl rfl (aB.fact 0 rfl) rfl rfl j65) rfl<|aA (bV rfl (aB.fact 0 rfl) rfl rfl rfl eD j65) rfl<|aA (HK rfl rfl) rfl<|qkAsg rfl<|dN<|inT<|aM<|qkMove rfl<|qkAdd rfl<|qkAsg rfl<|dtN ?_
   exact yX ((max a61.1 (at' p0.1 a61.2)),(wI .i64 (a61.2+(1:Int)))) () h SF rfl
  refine fM ?_
  exact gR (a61.1) () h SF rfl
 intro a3 b4 h
 unfold qD at h
 refine sqR<|qkAsg rfl<|dtN<|aG<|midL (B:=CG) (fun a8=>tY  a8=some r) (fun a8 b9=>[(10,b9.1)]) (fun a8 b9=>[Ar cE.raw b9.1 b9.2,fT bO b9.2 a8]) ?_ ?_
 ·refine sqR<|qkAsg rfl<|dtN<|aN<|eQ (dH cE.raw) (eQ (pL bO) ?_)
  refine loopL (B:=CG) (jI U p0 p1 p2 a3) (fun a15 b16=>[(1,v3),(2,v4),(3,vP b1),(7,vI (List.length p0.2:Int)),(8,vI (a3)),(10,b16.1),(11,vI (a15.2))]) (fun a15 b16=>[bL b1 [v0,v1] 29,Ar cE.raw b16.1 b16.2,fT bO b16.2 a15.1]) (([]:aT),(0:Int)) ((gM),([]:eV)) h SF (aR.ix [2,1,0] rfl rfl) ?_
  intro k17 a15 b16 h
  refine aG<|sqR<|qkMove rfl<|qkMove rfl<|qkLss rfl<|dtN ?_
  refine eT h rfl (fun h=>?_) fun h=>?_
  ·refine cJ<|aG<|aN<|sqR<|qkAsg rfl<|dtN<|aG<|midL (B:=Value) (fun a21=>yA a15 (bJ (jI U p0 p1 p2 a3) k17) a21=some r) (fun a21 b22=>[(1,v3),(2,v4),(3,vP b1),(7,vI (List.length p0.2:Int)),(8,vI (a3)),(10,b16.1),(11,vI (a15.2)),(12,b22)]) (fun a21 b22=>[bL b1 [v0,v1] 29,Ar cE.raw b16.1 b16.2,fT bO b16.2 a15.1,Ar bO b22 a21]) ?_ ?_
   ·refine sqR<|qkAsg rfl<|dtN<|aN<|eQ (dH bO)<|loopL (B:=Value) (nJ U p0 p1 p2 a3 a15 (bJ (jI U p0 p1 p2 a3) k17)) (fun a33 b34=>[(1,v3),(2,v4),(3,vP b1),(7,vI (List.length p0.2:Int)),(8,vI (a3)),(10,b16.1),(11,vI (a15.2)),(12,b34),(13,vI (a33.2))]) (fun a33 b34=>[bL b1 [v0,v1] 29,Ar cE.raw b16.1 b16.2,fT bO b16.2 a15.1,Ar bO b34 a33.1]) (([]:aL),(0:Int)) (gM) h SF (aR.ix [1,2,3,0] rfl rfl) ?_
    intro k35 a33 b34 h
    refine aG<|sqR<|qkMove rfl<|qkMove rfl<|qkLen (aB.fact 2 rfl) rfl<|qkLss rfl<|dtN ?_
    refine eT h rfl (fun h=>?_) fun h=>?_
    ·refine cJ<|aG<|aN<|aG ?_
     refine JR.start [0,0,3,7,15,0,0,96,224,480,0,0,3072,7168,15360,0,64512,131040,0,0,786432,1835008,3932160,0,16515072,33554400,31,134217727] 27 mixedOrders (by decide +kernel) ?_
     refine JR.open (by exact rfl) ?_
     refine jkMove rfl<|jkMove rfl<|ckE h fun j37 h=>bG rfl .nil (lX 2 rfl) (a_ rfl rfl (aB.fact 0 rfl) rfl rfl j37) aK.z<|jqN rfl (oO rfl rfl rfl rfl rfl)<|bG rfl .nil (lX 2 rfl) (qN rfl (aB.fact 0 rfl) rfl rfl rfl BN j37) aK.z<|jkMove rfl<|jkMove rfl<|ckE h fun j38 h=>bG rfl .nil (lX 2 rfl) (a_ rfl rfl (aB.fact 0 rfl) rfl rfl j38) aK.z<|jqN rfl (oO rfl rfl rfl rfl rfl)<|bG rfl .nil (lX 2 rfl) (qN rfl (aB.fact 0 rfl) rfl rfl rfl BO j38) aK.z<|jkMove rfl<|jkMove rfl<|ckE h fun j39 h=>bG rfl .nil (lX 2 rfl) (a_ rfl rfl (aB.fact 0 rfl) rfl rfl j39) aK.z<|jqN rfl (oO rfl rfl rfl rfl rfl)<|bG rfl .nil (lX 2 rfl) (qN rfl (aB.fact 0 rfl) rfl rfl rfl BP j39) aK.z<|jkMove rfl<|jqN rfl (Be rfl rfl)<|jqN rfl (wB rfl rfl)<|jkMove rfl<|jkMove rfl<|ckE h fun j40 h=>bG rfl .nil (lX 2 rfl) (a_ rfl rfl (aB.fact 0 rfl) rfl rfl j40) aK.z<|jqN rfl (oO rfl rfl rfl rfl rfl)<|bG rfl .nil (lX 2 rfl) (qN rfl (aB.fact 0 rfl) rfl rfl rfl BQ j40) aK.z<|jkMove rfl<|jqN rfl (Be rfl rfl)<|jqN rfl (wB rfl rfl)<|jqN rfl (iV rfl)<|bD 27 rfl rfl<|qkAsg rfl<|dtN<|aG<|midU (fun a43=>nH U p1 p2 a15 a33 (bJ (nJ U p0 p1 p2 a3 a15 (bJ (jI U p0 p1 p2 a3) k17)) k35) a43=some r) (fun a43 b44=>[(1,v3),(2,v4),(3,vP b1),(7,vI (List.length p0.2:Int)),(8,vI (a3)),(10,b16.1),(11,vI (a15.2)),(12,b34),(13,vI (a33.2)),(14,vI (a43.1)),(15,vI (a43.2))]) (fun a43 b44=>[bL b1 [v0,v1] 29,Ar cE.raw b16.1 b16.2,fT bO b16.2 a15.1,Ar bO b34 a33.1]) ?_ ?_
     ·refine sqR<|qkMove rfl<|qkMove rfl<|ckE h fun j54 h=>aA (a_ rfl rfl (aB.fact 2 rfl) rfl rfl j54) rfl<|aA (oO rfl rfl rfl rfl rfl) rfl<|aA (qN rfl (aB.fact 2 rfl) rfl rfl rfl vQ j54) rfl<|dtN<|aN<|sqR<|qkEql rfl<|qkAsg rfl<|dtN ?_
      refine eT h rfl (fun h=>?_) fun h=>?_
      ·refine aM<|qkAsg rfl<|qkAsg rfl<|dN<|inT ?_
       exact gR ((0:Int),(1:Int)) () h SF rfl
      refine sqR<|qkEql rfl<|qkAsg rfl<|dtN ?_
      refine eT h rfl (fun h=>?_) fun h=>?_
      ·refine JR.start [0,1,0,7,15,31,63,0,255] 8 mixedOrders (by decide +kernel) ?_
       refine JR.open (by exact rfl) ?_
       refine jkFld rfl<|jkLd 0 rfl<|jkMove rfl<|ckE h fun j57 h=>bG rfl .nil (lX 1 rfl) (cY rfl rfl (aB.fact 0 rfl) rfl rfl j57) aK.z<|bG rfl .nil (lX 1 rfl) (cW rfl (aB.fact 0 rfl) rfl rfl j57) aK.z<|bG rfl .nil (lX 1 rfl) (fR rfl (aB.el (aB.fact 0 rfl) j57.1 j57.2) rfl) aK.z<|jqN rfl (pO rfl rfl)<|jqN rfl (iV rfl)<|bD 8 rfl rfl<|qkAsg rfl<|dN<|inT ?_
       exact gR ((-1:Int),(wI .i64 ((List.length (at' p0.2 a15.2):Int) - (1:Int)))) () h SF rfl
      refine dQ<|inT ?_
      exact gR (((at' p1 a33.2).2.2.1),(wI .i64 ((wI .i64 (((at' p1 a33.2).2.2.2.1)+(wI .i64 (((at' p1 a33.2).2.2.2.2.1)*(List.length p0.2:Int)))))+(wI .i64 (((at' p1 a33.2).2.2.2.2.2)*a3))))) () h SF rfl
     intro a43 b44 h
     refine aM<|qkMove rfl<|qkMove rfl<|qkMove rfl<|qkMove rfl<|qkMove rfl<|qkLen (aB.fact 2 rfl) rfl<|aA (Be rfl rfl) rfl<|qkMove rfl<|qkAdd rfl<|bnE h fun r45 w46 h=>aF (aI.callQ HT (zP U v4 r45 w46) rfl (lK [3] rfl)) rfl fun x47=>qkMove rfl<|qkMove rfl<|aA (pO rfl rfl) rfl<|qkAdd rfl<|bnE h fun r48 w49 h=>aF (aI.callQ Bf (jC U  r48 w49) rfl .nil) rfl fun x50=>qkAdd rfl<|aF (bU (e:=bO) ([(wI .i64 (a43.1+r48))]) [(0,vI (wI .i64 (a43.1+r48)))] rfl rfl rfl rfl (iJ (vI (wI .i64 (a43.1+r48))) rfl) rfl rfl rfl) rfl fun u51=>ckE h fun j53 h=>aF (dW 4 cC rfl rfl rfl (aO (aB.res 0 rfl) cC) rfl rfl rfl rfl j53 rfl) rfl fun u52=>qkAsg rfl<|dN<|inT<|aM<|qkMove rfl<|qkAdd rfl<|qkAsg rfl<|dtN ?_
     exact kZ ((a33.1++([(wI .i64 (a43.1+r48))])),(wI .i64 (a33.2+(1:Int)))) (u52) h SF (aR.ix [1,2,3,4] rfl rfl) (aD.refl _ _)
    refine fM ?_
    exact gR (a33.1) (b34) h SF rfl
   intro a21 b22 h
   refine aM<|qkMove rfl<|qkMove rfl<|eQ (pL bO)<|bM (Know.one ((aO (aB.res 4 rfl) cC))) fun ho23=>eQ (HC 0 4 rfl rfl rfl) ?_
   refine aF (bU (e:=cE.raw) [b22] [(0,b22)] rfl rfl rfl rfl (iJ (b22) ho23) rfl rfl (by simp[cellsOf,cE.raw,ho23])) rfl fun u24=>?_
   refine bM (cQ 4 rfl) fun hl25=>bM (cQ 1 rfl) fun hl26=>ckE h fun j27 h=>eQ (Gi 4 1 rfl rfl rfl) ?_
   refine aF (aI.append 2 0 rfl rfl rfl rfl rfl rfl rfl (by have q:=j27;have q1:=hl25;have q2:=hl26;(try simp only[List.length_cons,List.length_nil]at q q1 q2 ⊢);omega) (by have q:=j27;have q1:=hl25;have q2:=hl26;(try simp only[List.length_cons,List.length_nil]at q q1 q2 ⊢);omega) rfl) rfl fun u28=>?_
   refine qkAsg rfl<|dN<|inT<|aM<|qkMove rfl<|qkAdd rfl<|qkAsg rfl<|dtN ?_
   exact kZ ((a15.1++[a21]),(wI .i64 (a15.2+(1:Int)))) (u28,(b16.2++[b22])) h SF (aR.ix [1,2,3] rfl rfl) (aD.refl _ _)
  refine fM ?_
  exact bT (a15.1) (b16.1,b16.2) h SF (aR.ix [1,2] rfl rfl) (aD.refl _ _)
 intro a8 b9 h
 unfold tY at h
 refine sqR<|qkMove rfl<|qkAsg rfl<|dtN<|aQ ?_
 cases h
 exact gY (b9.1,b9.2) rfl rfl (RV.tmp rfl) (aR.refl _) aD.nil
end
section
def tP  (a:aL):Option aL:=
 some (a)
def pY (c:Int×aL×aL) (b:(Int×aL×aL)->Option aL) (a:aL×aL):Option aL:=
 b ((wI .i64 (c.1+(1:Int))),a.1,a.2)
def pZ (p0:cU) (b:aL×aL) (d:(aL×aL)->Option aL) (a:Int×aL×aL) (c:(Int×aL×aL)->Option aL):Option aL:=
 if a.1<(List.length (at' p0.2 (at' b.1 (0:Int))):Int)then(ck (0<=a.1∧a.1<(List.length (at' p0.2 (at' b.1 (0:Int))):Int)) (ck (0<=((at' (at' p0.2 (at' b.1 (0:Int))) a.1).1)∧((at' (at' p0.2 (at' b.1 (0:Int))) a.1).1)<(List.length a.2.2:Int)) (if(at' a.2.2 ((at' (at' p0.2 (at' b.1 (0:Int))) a.1).1))<(0:Int)then(ck (0<=(at' b.1 (0:Int))∧(at' b.1 (0:Int))<(List.length a.2.2:Int)) (ck (0<=((at' (at' p0.2 (at' b.1 (0:Int))) a.1).1)∧((at' (at' p0.2 (at' b.1 (0:Int))) a.1).1)<(List.length a.2.2:Int)) (ck ((List.length a.2.1:Int)+(List.length ([((at' (at' p0.2 (at' b.1 (0:Int))) a.1).1)]):Int)<=1099511627) (pY a c ((a.2.1++([((at' (at' p0.2 (at' b.1 (0:Int))) a.1).1)])),(List.set a.2.2 (Int.toNat ((at' (at' p0.2 (at' b.1 (0:Int))) a.1).1)) (wI .i64 ((at' a.2.2 (at' b.1 (0:Int)))+(1:Int)))))))))else(pY a c (a.2.1,a.2.2)))))else(d (a.2.1,a.2.2))
def nC (U:Nat) (p0:cU) (a:aL×aL) (b:(aL×aL)->Option aL):Option aL:=
 if(0:Int)<(List.length a.1:Int)then(ck (0<=(0:Int)∧(0:Int)<(List.length a.1:Int)) (ck (0<=(1:Int)∧(1:Int)<=(List.length a.1:Int)) (ck (0<=(at' a.1 (0:Int))∧(at' a.1 (0:Int))<(List.length p0.2:Int)) (bJ (pZ p0 a b) U ((0:Int),(List.drop (Int.toNat (1:Int)) a.1),a.2)))))else(tP  (a.2))
def xV (U:Nat) (p0:cU) (p1:Int) (a:aL):Option aL:=
 ck (0<=p1∧p1<(List.length a:Int)) (bJ (nC U p0) U (([p1]),(List.set a (Int.toNat p1) (0:Int))))
def xW (U:Nat) (p0:cU) (p1:Int) (a:rI) (b:yE->Option aL):Option aL:=
 if a.1<(List.length (List.replicate (Int.toNat (List.length p0.2:Int)) (0:Int)):Int)then(ck (0<=a.1∧a.1<(List.length a.2:Int)) (b ((wI .i64 (a.1+(1:Int))),(List.set a.2 (Int.toNat a.1) (-1:Int)))))else(xV U p0 p1 (a.2))
def vC (U:Nat) (p0:cU) (p1:Int):Option aL:=
 ck (0<=(List.length p0.2:Int)∧(List.length p0.2:Int)<=1099511627) (bJ (xW U p0 p1) U ((0:Int),(List.replicate (Int.toNat (List.length p0.2:Int)) (0:Int))))
theorem Wy:aP Tryz.prog 144:=Tryz.call144
theorem IQ (U:Nat) {p0:cU} {p1:Int} (v0:Value)  (v1:Value)  (z2:lW) (r:aL) (h:vC U p0 p1=some r):
  aU Tryz.prog 144 #[Value.agg #[v0,v1],vI (p1)] [Sl bI v0 p0.1,S2 aY v1 z2 p0.2] (fun x:Value=>x) (fun x l=>Ar bO x r::l) (fun _ l=>l):=by
 refine aU.of Tryz.func144 rfl Tryz.ntmps144 rfl fun c=>?_
 refine sqR<|aF (aI.box (cs:=[v0,v1]) rfl rfl) rfl fun b1=>qkAsg rfl<|dtN<|sqR<|qkFld rfl<|qkLd 0 rfl<|aA (iW rfl (aB.fact 1 rfl) rfl) rfl<|ckE h fun j2 h=>aF (pN (e:=bO) (0:Int) rfl rfl rfl rfl j2 rfl rfl rfl) rfl fun u3=>qkAsg rfl<|dtN<|aG<|midU (fun a5=>xV U p0 p1 a5=some r) (fun a5 b6=>[(1,vI (p1)),(2,vP b1),(5,u3)]) (fun a5 b6=>[Ar bO u3 a5,bL b1 [v0,v1] 29]) ?_ ?_
 ·refine sqR<|qkMove rfl<|aA (fR rfl (aO (aB.res 0 rfl) cC) rfl) rfl<|qkMove rfl<|dtN<|aN<|loopL (xW U p0 p1) (fun a50 b51=>[(1,vI (p1)),(2,vP b1),(5,u3),(16,vI (List.length (List.replicate (Int.toNat (List.length p0.2:Int)) (0:Int)):Int)),(17,vI (a50.1))]) (fun a50 b51=>[Ar bO u3 a50.2,bL b1 [v0,v1] 29]) ((0:Int),(List.replicate (Int.toNat (List.length p0.2:Int)) (0:Int))) () h SF (aR.refl _) ?_
  intro k52 a50 b51 h
  refine sqR<|qkLss rfl<|dtN<|aG ?_
  refine eT h rfl (fun h=>?_) fun h=>?_
  ·refine cJ<|aG<|aN<|sqR<|qkMove rfl<|qkAsg rfl<|dtN<|aM<|qkMove rfl<|qkMove rfl<|ckE h fun j54 h=>aA (a_ rfl rfl (aO (aB.res 0 rfl) cC) rfl rfl j54) rfl<|xH 0 (-1:Int) j54 rfl rfl rfl rfl rfl rfl rfl<|dN<|inT<|aM<|qkAdd rfl<|qkMove rfl<|dtN ?_
   exact yX ((wI .i64 (a50.1+(1:Int))),(List.set a50.2 (Int.toNat a50.1) (-1:Int))) () h SF rfl
  refine fM ?_
  exact gR (a50.2) () h SF rfl
 intro a5 b6 h
 refine sqR<|qkMove rfl<|qkMove rfl<|ckE h fun j7 h=>aA (a_ rfl rfl (aO (aB.res 0 rfl) cC) rfl rfl j7) rfl<|xH 0 (0:Int) j7 rfl rfl rfl rfl rfl rfl rfl<|dtN<|sqR<|qkMove rfl<|aF (bU (e:=bO) ([p1]) [(0,vI (p1))] rfl rfl rfl rfl (iJ (vI (p1)) rfl) rfl rfl rfl) rfl fun u8=>qkAsg rfl<|dtN<|aG<|midU (fun a10=>tP  a10=some r) (fun a10 b11=>[(5,u3)]) (fun a10 b11=>[Ar bO u3 a10]) ?_ ?_
 ·refine aN<|loopL (B:=Value) (nC U p0) (fun a16 b17=>[(2,vP b1),(5,u3),(7,b17)]) (fun a16 b17=>[Ar bO b17 a16.1,Ar bO u3 a16.2,bL b1 [v0,v1] 29]) (([p1]),(List.set a5 (Int.toNat p1) (0:Int))) (u8) h SF (aR.refl _) ?_
  intro k18 a16 b17 h
  refine aG<|sqR<|qkMove rfl<|aA (fR rfl (aO (aB.res 0 rfl) cC) rfl) rfl<|aA (vR rfl rfl) rfl<|dtN ?_
  refine eT h rfl (fun h=>?_) fun h=>?_
  ·refine cJ<|aN<|sqR<|qkMove rfl<|ckE h fun j20 h=>aA (a_ rfl rfl (aO (aB.res 0 rfl) cC) rfl rfl j20) rfl<|aA (bV rfl (aO (aB.res 0 rfl) cC) rfl rfl rfl eD j20) rfl<|qkAsg rfl<|dtN<|sqR<|qkMove rfl<|ckE h fun j21 h=>aF (LX 0 j21 rfl rfl rfl rfl rfl rfl) rfl fun u22=>qkAsg rfl<|dtN<|sqR<|qkFld rfl<|qkLd 2 rfl<|qkMove rfl<|ckE h fun j23 h=>aA (cY rfl rfl (aB.fact 1 rfl) rfl rfl j23) rfl<|aA (cW rfl (aB.fact 1 rfl) rfl rfl j23) rfl<|aA (fR rfl (aB.el (aB.fact 1 rfl) j23.1 j23.2) rfl) rfl<|qkMove rfl<|dtN<|aN<|loopL (B:=Value) (pZ p0 a16 (bJ (nC U p0) k18)) (fun a29 b30=>[(2,vP b1),(5,u3),(7,b30),(8,vI (at' a16.1 (0:Int))),(41,(at' z2 (at' a16.1 (0:Int))).1),(42,vI (List.length (at' p0.2 (at' a16.1 (0:Int))):Int)),(43,vI (a29.1))]) (fun a29 b30=>[Ar bO b30 a29.2.1,Ar bO u3 a29.2.2,bL b1 [v0,v1] 29]) ((0:Int),(List.drop (Int.toNat (1:Int)) a16.1),a16.2) (u22) h SF (aR.refl _) ?_
   intro k31 a29 b30 h
   refine sqR<|qkLss rfl<|dtN<|aG ?_
   refine eT h rfl (fun h=>?_) fun h=>?_
   ·refine cJ<|aG<|midL (B:=Value) (fun a36=>pY a29 (bJ (pZ p0 a16 (bJ (nC U p0) k18)) k31) a36=some r) (fun a36 b37=>[(2,vP b1),(5,u3),(7,b37),(8,vI (at' a16.1 (0:Int))),(41,(at' z2 (at' a16.1 (0:Int))).1),(42,vI (List.length (at' p0.2 (at' a16.1 (0:Int))):Int)),(43,vI (a29.1))]) (fun a36 b37=>[Ar bO b37 a36.1,Ar bO u3 a36.2,bL b1 [v0,v1] 29]) ?_ ?_
    ·refine aN<|sqR<|ckE h fun j38 h=>aA (a_ rfl rfl (aB.el (aB.fact 1 rfl) j23.1 j23.2) rfl rfl j38) rfl<|aA (iA (cs:=[vI ((at' (at' p0.2 (at' a16.1 (0:Int))) a29.1).1),vI ((at' (at' p0.2 (at' a16.1 (0:Int))) a29.1).2)]) rfl (aB.el (aB.fact 1 rfl) j23.1 j23.2) bN rfl rfl rfl rfl j38) rfl<|aF (aI.alloc (cs:=QK) rfl rfl) rfl fun b39=>bE 0 (vs:=[vI ((at' (at' p0.2 (at' a16.1 (0:Int))) a29.1).1),vI ((at' (at' p0.2 (at' a16.1 (0:Int))) a29.1).2)]) rfl rfl rfl rfl rfl rfl<|dtN<|sqR<|qkMove rfl<|qkFld rfl<|qkLd 0 rfl<|ckE h fun j40 h=>aA (a_ rfl rfl (aO (aB.res 2 rfl) cC) rfl rfl j40) rfl<|aA (bV rfl (aO (aB.res 2 rfl) cC) rfl rfl rfl eD j40) rfl<|qkLss rfl<|dtN ?_
     refine eT h rfl (fun h=>?_) fun h=>?_
     ·refine aG ?_
      refine JR.start [0,0,2,0,0,24,56,120,255,511] 8 mixedOrders (by decide +kernel) ?_
      refine JR.open (by exact rfl) ?_
      refine jkMove rfl<|jkFld rfl<|jkLd 0 rfl<|jkMove rfl<|jkMove rfl<|ckE h fun j42 h=>bG rfl (aR.cons 2 rfl .nil) .nil (a_ rfl rfl (aO (aB.res 0 rfl) cC) rfl rfl j42) aK.z<|bG rfl (aR.cons 2 rfl .nil) .nil (bV rfl (aO (aB.res 0 rfl) cC) rfl rfl rfl eD j42) aK.z<|jqN rfl (wB rfl rfl)<|bD 8 rfl rfl<|ckE h fun j43 h=>aA (a_ rfl rfl (aO (aB.res 2 rfl) cC) rfl rfl j43) rfl<|xH 2 (wI .i64 ((at' a29.2.2 (at' a16.1 (0:Int)))+(1:Int))) j43 rfl rfl rfl rfl rfl rfl rfl<|dtN<|aM<|qkMove rfl<|qkFld rfl<|qkLd 0 rfl<|aF (bU (e:=bO) ([((at' (at' p0.2 (at' a16.1 (0:Int))) a29.1).1)]) [(0,vI ((at' (at' p0.2 (at' a16.1 (0:Int))) a29.1).1))] rfl rfl rfl rfl (iJ (vI ((at' (at' p0.2 (at' a16.1 (0:Int))) a29.1).1)) rfl) rfl rfl rfl) rfl fun u44=>ckE h fun j46 h=>aF (dW 2 cC rfl rfl rfl (aO (aB.res 0 rfl) cC) rfl rfl rfl rfl j46 rfl) rfl fun u45=>qkAsg rfl<|dN<|inT ?_
      exact bT ((a29.2.1++([((at' (at' p0.2 (at' a16.1 (0:Int))) a29.1).1)])),(List.set a29.2.2 (Int.toNat ((at' (at' p0.2 (at' a16.1 (0:Int))) a29.1).1)) (wI .i64 ((at' a29.2.2 (at' a16.1 (0:Int)))+(1:Int))))) (u45) h SF (aR.ix [2,3,4] rfl rfl) (aD.refl _ _)
     refine dQ<|inT ?_
     exact bT (a29.2.1,a29.2.2) (b30) h SF (aR.ix [1,2,3] rfl rfl) (aD.refl _ _)
    intro a36 b37 h
    unfold pY at h
    refine aM<|qkAdd rfl<|qkMove rfl<|dtN ?_
    exact yX ((wI .i64 (a29.1+(1:Int))),a36.1,a36.2) (b37) h SF rfl
   refine oK<|dJ<|dJ<|uF<|inT ?_
   exact yX (a29.2.1,a29.2.2) (b30) h SF rfl
  refine fM ?_
  exact bT (a16.2) () h SF (aR.ix [1] rfl rfl) (aD.refl _ _)
 intro a10 b11 h
 unfold tP at h
 refine sqR<|qkMove rfl<|qkAsg rfl<|dtN<|aQ ?_
 cases h
 exact gY (u3) rfl rfl (RV.tmp rfl) (aR.refl _) aD.nil
end
section
def sK (p1:cU) (a:fQ):Option rH:=
 some ((p1.1,a))
def k_ (U:Nat) (p0:AT) (p1:cU) (a:Int×fQ) (b:(Int×fQ)->Option rH) (c:Bool):Option rH:=
 if c=true then(ck (0<=a.1∧a.1<(List.length p0.2.1:Int)) (Option.bind (eZ U (at' p0.2.1 a.1) (List.length p1.2:Int)) fun d=>(ck (0<=(wI .i64 (a.1+(1:Int)))∧(wI .i64 (a.1+(1:Int)))<(List.length p0.2.1:Int)) (Option.bind (eZ U (at' p0.2.1 (wI .i64 (a.1+(1:Int)))) (List.length p1.2:Int)) fun e=>(Option.bind (rD U p0.2.2.1 a.1) fun f=>(Option.bind (eZ U f (15:Int)) fun g=>(Option.bind (mF U ((p0.1,p0.2.1,p0.2.2.1,p0.2.2.2.1,p0.2.2.2.2.1,p0.2.2.2.2.2)) ((p1.1,a.2)) d e (wI .i64 ((1:Int)+g))) fun h=>(b ((wI .i64 (a.1+(2:Int))),h)))))))))else(sK p1 (a.2))
def oF (U:Nat) (p0:AT) (p1:cU) (a:Int×fQ) (b:(Int×fQ)->Option rH):Option rH:=
 if(wI .i64 (a.1+(1:Int)))<(List.length p0.2.1:Int)then(k_ U p0 p1 a b (decide (a.1<(60:Int))))else(k_ U p0 p1 a b (false))
def jY (U:Nat) (p0:AT) (p1:cU):Option rH:=
 bJ (oF U p0 p1) U ((List.length p1.2:Int),p1.2)
theorem Tn:aP Tryz.prog 40:=Tryz.call40
theorem zK (U:Nat) {p0:AT} {p1:cU} (v0:Value)  (v1:Value)  (v2:Value)  (v3:Value)  (v4:Value)  (w5:eV) (r:CI) (h:jY U p0 p1=some r):
  DR Tryz.prog 40 #[Value.agg #[vI (p0.1),v0,v1,v2,vB (p0.2.2.2.2.1),vB (p0.2.2.2.2.2)],Value.agg #[v3,v4]] [Ar bO v3 p1.1,Ar cE.raw v4 w5,fT bS w5 p1.2] [Sl bI v0 p0.2.1,Sl bI v1 p0.2.2.1,Sl bI v2 p0.2.2.2.1] (fun x:NC=>Value.agg #[x.1,x.2.1]) (fun x l=>Ar bO x.1 r.1::Ar cE.raw x.2.1 x.2.2::fT bS x.2.2 r.2::l):=by
 refine DR.of (vs:=[Value.agg #[vI (p0.1),v0,v1,v2,vB (p0.2.2.2.2.1),vB (p0.2.2.2.2.2)],Value.agg #[v3,v4]]) Tryz.func40 rfl Tryz.ntmps40 rfl fun c=>?_
 unfold jY at h
 refine sqR<|aF (aI.box (cs:=[vI (p0.1),v0,v1,v2,vB (p0.2.2.2.2.1),vB (p0.2.2.2.2.2)]) rfl rfl) rfl fun b1=>aF (aI.box (cs:=[v3,v4]) rfl rfl) rfl fun b2=>aF (aI.alloc (cs:=[gM,gM]) rfl rfl) rfl fun b3=>dtN<|sqR<|qkFld rfl<|qkLd 1 rfl<|aA (iW rfl (aV (i:=4) (j:=5) rfl rfl bN) rfl) rfl<|qkAsg rfl<|dtN<|aG<|xQ (B:=eV) (fun a6=>sK p1 a6=some r) (fun a6 b7=>[(3,vP b2),(4,vP b3)]) (fun a6 b7=>[bL b3 [gM,gM] 29,bL b2 [v3,v4] 29,Ar bO v3 p1.1,Ar cE.raw v4 b7,fT bS b7 a6]) (fun a6 b7=>[Sl bI v0 p0.2.1,Sl bI v1 p0.2.2.1,Sl bI v2 p0.2.2.2.1]) ?_ ?_
 ·refine sqR<|qkMove rfl<|qkAsg rfl<|dtN<|aN<|Ep (B:=eV) (oF U p0 p1) (fun a14 b15=>[(2,vP b1),(3,vP b2),(4,vP b3),(5,vI (List.length p1.2:Int)),(6,vI (a14.1))]) (fun a14 b15=>[bL b3 [gM,gM] 29,bL b2 [v3,v4] 29,bL b1 [vI (p0.1),v0,v1,v2,vB (p0.2.2.2.2.1),vB (p0.2.2.2.2.2)] 24,Ar bO v3 p1.1,Ar cE.raw v4 b15,fT bS b15 a14.2]) (fun a14 b15=>[Sl bI v0 p0.2.1,Sl bI v1 p0.2.2.1,Sl bI v2 p0.2.2.2.1]) ((List.length p1.2:Int),p1.2) (w5) h SF (aR.refl _) (aD.refl _ _) ?_
  intro k16 a14 b15 h
  refine aG<|aG<|xQ (B:=Unit) (fun a18=>k_ U p0 p1 a14 (bJ (oF U p0 p1) k16) a18=some r) (fun a18 b19=>[(2,vP b1),(3,vP b2),(4,vP b3),(5,vI (List.length p1.2:Int)),(6,vI (a14.1)),(20,vB (a18))]) (fun a18 b19=>[bL b3 [gM,gM] 29,bL b2 [v3,v4] 29,bL b1 [vI (p0.1),v0,v1,v2,vB (p0.2.2.2.2.1),vB (p0.2.2.2.2.2)] 24,Ar bO v3 p1.1,Ar cE.raw v4 b15,fT bS b15 a14.2]) (fun a18 b19=>[Sl bI v0 p0.2.1,Sl bI v1 p0.2.2.1,Sl bI v2 p0.2.2.2.1]) ?_ ?_
  ·refine aM<|qkMove rfl<|qkAdd rfl<|qkFld rfl<|qkLd 2 rfl<|qkLen (aB.fact 0 rfl) rfl<|qkLss rfl<|qkMove rfl ?_
   refine BS h rfl (fun _ h=>?_) fun _ h=>?_
   ·refine gyMove rfl<|aS rfl (Cg rfl rfl) rfl<|qkPkT rfl<|dtN ?_
    exact gR (decide (a14.1<(60:Int))) () h SF rfl
   refine gdSkip rfl<|gdSkip rfl<|qkPkF rfl<|dtN ?_
   exact gR (false) () h SF rfl
  intro a18 b19 h
  refine AG h rfl (fun _ h=>?_) fun _ h=>?_
  ·refine cJ<|aG<|aN ?_
   refine JR.start [0,0,0,4,0,28,60,0,252,0,512,0,2048,7680,15872,0,65532,0,131072,0,1048572,2097148,4194300,8388607] 23 mixedOrders (by decide +kernel) ?_
   refine JR.open (by exact rfl) ?_
   refine jkLdA 2 rfl<|jkLdA 1 rfl<|jkFld rfl<|jkLd 2 rfl<|jkMove rfl<|ckE h fun j21 h=>bG rfl .nil (lX 0 rfl) (a_ rfl rfl (aB.fact 0 rfl) rfl rfl j21) aK.z<|bG rfl .nil (lX 0 rfl) (bV rfl (aB.fact 0 rfl) rfl rfl rfl eD j21) aK.z<|jkMove rfl<|bnE h fun r22 hr23 h=>JR.loud rfl rfl rfl (aI.callQ Bf (jC U  r22 hr23) rfl .nil) rfl (fun x24=>(mW [([1],[]),([2],[])] rfl)) fun x24=>jqN rfl (cZ rfl rfl rfl rfl rfl)<|bG rfl (aR.cons 2 rfl .nil) .nil (eF 0 rfl rfl rfl rfl rfl) (aK.h (aR.ix [2] rfl rfl) .nil aK.z)<|jqN rfl (dD rfl)<|jqN rfl (wB rfl rfl)<|ckE h fun j25 h=>bG rfl .nil (lX 0 rfl) (a_ rfl rfl (aB.fact 0 rfl) rfl rfl j25) (aK.h .nil (lX 0 rfl) aK.z)<|bG rfl .nil (lX 0 rfl) (bV rfl (aB.fact 0 rfl) rfl rfl rfl eD j25) (aK.h .nil (lX 0 rfl) aK.z)<|jqN rfl (dD rfl)<|bnE h fun r26 hr27 h=>JR.loud rfl rfl rfl (aI.callQ Bf (jC U  r26 hr27) rfl .nil) rfl (fun x28=>(mW [([1],[]),([2],[])] rfl)) fun x28=>jqN rfl (cZ rfl rfl rfl rfl rfl)<|bG rfl (aR.cons 2 rfl .nil) .nil (eF 0 rfl rfl rfl rfl rfl) (aK.h (aR.ix [2] rfl rfl) .nil (aK.h (aR.ix [2] rfl rfl) .nil aK.z))<|jqN rfl (dD rfl)<|bnE h fun r29 hr30 h=>JR.loud rfl rfl rfl (aI.callQ HT (zP U v1 r29 hr30) rfl (lK [1] rfl)) rfl (fun x31=>(mW [([1],[]),([2],[])] rfl)) fun x31=>bnE h fun r32 hr33 h=>JR.loud rfl rfl rfl (aI.callQ Bf (jC U  r32 hr33) rfl .nil) rfl (fun x34=>(mW [([1],[]),([2],[])] rfl)) fun x34=>jqN rfl (wB rfl rfl)<|bD 23 rfl rfl<|bnE h fun r35 hr36 h=>aF (AZ (Min:=[Ar cE.raw v4 b15,fT bS b15 a14.2]) (Mr:=[bL b3 [gM,gM] 29,bL b2 [v3,v4] 29,bL b1 [vI (p0.1),v0,v1,v2,vB (p0.2.2.2.2.1),vB (p0.2.2.2.2.2)] 24,Ar bO v3 p1.1]) Tz (zJ U v0 v1 v2 v3 v4 b15 r35 hr36) rfl (aR.ix [4,5,0,1,2,3] rfl rfl) (aD.cons (aB.fact 0 rfl) (aD.cons (aB.fact 1 rfl) (aD.cons (aB.fact 2 rfl) (aD.cons (aO (aB.res 3 rfl) cC) .nil)))) (fun _ _=>rfl)) rfl fun x37=>dN<|inT<|aM<|qkMove rfl<|qkAdd rfl<|qkAsg rfl<|dtN ?_
   exact kZ ((wI .i64 (a14.1+(2:Int))),r35) (x37) h SF (aR.ix [2,3,4,5,0,1] rfl rfl) (aD.refl _ _)
  refine fM ?_
  exact bT (a14.2) (b15) h SF (aR.ix [0,1,3,4,5] rfl rfl) (aD.refl _ _)
 intro a6 b7 h
 unfold sK at h
 refine sqR<|qkLdA 1 rfl<|bM (Know.one ((aO (aB.res 2 rfl) cC))) fun ho8=>bM (Know.one (aB.sl (aV (i:=3) (j:=4) rfl rfl bN))) fun ho9=>bE 0 (vs:=[v3,v4]) rfl rfl (bY ho8 (bY ho9 rfl)) rfl rfl rfl<|dtN<|aQ ?_
 cases h
 exact gY (v3,v4,b7) rfl rfl (RV.cell 0 rfl rfl rfl rfl) (aR.ix [2,3,4] rfl rfl) aD.nil
end
section
def kT (U:Nat) (p0:AT) (p1:Int):Option rH:=
 Option.bind (mE U ((p0.1,p0.2.1,p0.2.2.1,p0.2.2.2.1,p0.2.2.2.2.1,p0.2.2.2.2.2)) p1) fun a=>(Option.bind (jY U ((p0.1,p0.2.1,p0.2.2.1,p0.2.2.2.1,p0.2.2.2.2.1,p0.2.2.2.2.2)) ((a.1,a.2))) fun b=>(some ((b.1,b.2))))
theorem YS:aP Tryz.prog 23:=Tryz.call23
theorem AR (U:Nat) {p0:AT} {p1:Int} (b:Value)  (d:Value)  (e:Value) (r:CI) (h:kT U p0 p1=some r):
  aU Tryz.prog 23 #[Value.agg #[vI (p0.1),b,d,e,vB (p0.2.2.2.2.1),vB (p0.2.2.2.2.2)],vI (p1)] [Sl bI b p0.2.1,Sl bI d p0.2.2.1,Sl bI e p0.2.2.2.1] (fun x:NC=>Value.agg #[x.1,x.2.1]) (fun x l=>Ar bO x.1 r.1::Ar cE.raw x.2.1 x.2.2::fT bS x.2.2 r.2::l) (fun _ l=>l):=by
 refine aU.of Tryz.func23 rfl Tryz.ntmps23 rfl fun c=>?_
 refine sqR<|aF (aI.box (cs:=[vI (p0.1),b,d,e,vB (p0.2.2.2.2.1),vB (p0.2.2.2.2.2)]) rfl rfl) rfl fun n=>aF (aI.alloc (cs:=[gM,gM]) rfl rfl) rfl fun o=>dtN<|aG ?_
 refine JR.start [0,0,0,6,15,31] 4 mixedOrders (by decide +kernel) ?_
 refine JR.open (by exact rfl) ?_
 refine jkLdA 1 rfl<|jkLdA 1 rfl<|jkMove rfl<|bnE h fun m q h=>JR.loud rfl rfl rfl (aI.callQ Tq (zI U b d e m q) rfl (lK [0,1,2] rfl)) rfl (fun a=>(mW [([4],[])] rfl)) fun a=>bD 4 rfl rfl<|bnE h fun p s h=>aF (AZ (Min:=[Ar bO a.1 m.1,Ar cE.raw a.2.1 a.2.2,fT bS a.2.2 m.2]) (Mr:=[bL o [gM,gM] 29,bL n [vI (p0.1),b,d,e,vB (p0.2.2.2.2.1),vB (p0.2.2.2.2.2)] 24]) Tn (zK U b d e a.1 a.2.1 a.2.2 p s) rfl (aR.refl _) (lK [0,1,2] rfl) (fun _ _=>rfl)) rfl fun g=>bM (Know.one ((aO (aB.res 0 rfl) cC))) fun k=>bM (Know.one (aB.sl (aV (i:=1) (j:=2) rfl rfl bN))) fun f=>bE 3 (vs:=[g.1,g.2.1]) rfl rfl (bY k (bY f rfl)) rfl rfl rfl<|dtN<|aQ ?_
 cases h
 exact gY (g.1,g.2.1,g.2.2) rfl rfl (RV.cell 3 rfl rfl rfl rfl) (aR.ix [0,1,2] rfl rfl) aD.nil
end
section
def mA (U:Nat) (p0:cU) (p1:Int) (a:Bool):Option aL:=
 if a=true then(some ([]:aL))else(Option.bind (vC U ((p0.1,p0.2)) p1) fun b=>(some (b)))
def nU (U:Nat) (p0:cU) (p1:Int):Option aL:=
 Option.bind (eW U ((p0.1,p0.2))) fun r9=>(if(!r9)=true then(mA U p0 p1 (true))else(if p1<(0:Int)then(mA U p0 p1 (true))else(mA U p0 p1 (decide ((List.length p0.2:Int)<=p1)))))
theorem Zg:aP Tryz.prog 91:=Tryz.call91
theorem Fi (U:Nat) {p0:cU} {p1:Int} (v0:Value)  (v1:Value)  (z2:lW) (r:aL) (h:nU U p0 p1=some r):
  aU Tryz.prog 91 #[Value.agg #[v0,v1],vI (p1)] [Sl bI v0 p0.1,S2 aY v1 z2 p0.2] (fun x:Value=>x) (fun x l=>Ar bO x r::l) (fun _ l=>l):=by
 refine aU.of Tryz.func91 rfl Tryz.ntmps91 rfl fun c=>?_
 refine sqR<|aF (aI.box (cs:=[v0,v1]) rfl rfl) rfl fun b1=>qkAsg rfl<|dtN<|aG<|aG<|midU (fun a3=>mA U p0 p1 a3=some r) (fun a3 b4=>[(1,vI (p1)),(2,vP b1),(18,vB (a3))]) (fun a3 b4=>[bL b1 [v0,v1] 29]) ?_ ?_
 ·refine aM<|qkLdA 0 rfl<|bnE h fun r9 w10 h=>aF (aI.callQ HU (tA U v0 v1 z2 r9 w10) rfl (lK [0,1] rfl)) rfl fun x11=>aA (qX rfl) rfl<|qkMove rfl ?_
  refine zX (by exact rfl) (by exact rfl) (fun hp12=>?_) (fun hp12=>?_)
  ·have h:=JU hp12 h
   refine gdSkip rfl<|gdSkip rfl<|qkPkT rfl<|qkMove rfl<|gdSkip rfl<|gdSkip rfl<|gdSkip rfl<|gdSkip rfl<|gdSkip rfl<|qkPkT rfl<|dtN ?_
   exact gR (true) () h SF rfl
  have h:=Io hp12 h
  refine gyMove rfl<|aS rfl (Cg rfl rfl) rfl<|qkPkF rfl<|qkMove rfl ?_
  refine BS h rfl (fun _ h=>?_) fun _ h=>?_
  ·refine gdSkip rfl<|gdSkip rfl<|gdSkip rfl<|gdSkip rfl<|gdSkip rfl<|qkPkT rfl<|dtN ?_
   exact gR (true) () h SF rfl
  refine gyMove rfl<|aS rfl (cZ rfl rfl rfl rfl rfl) rfl<|aS rfl (eF 0 rfl rfl rfl rfl rfl) rfl<|aS rfl (iW rfl (aB.fact 1 rfl) rfl) rfl<|aS rfl (Ce rfl rfl) rfl<|qkPkF rfl<|dtN ?_
  exact gR (decide ((List.length p0.2:Int)<=p1)) () h SF rfl
 intro a3 b4 h
 refine AG h rfl (fun _ h=>?_) fun _ h=>?_
 ·refine sqR<|qkAsg rfl<|dtN<|aQ<|aJ<|eQ (dH bO) ?_
  cases h
  exact gY (gM) rfl rfl (RV.tmp rfl) (aR.ix [0] rfl rfl) aD.nil
 refine cJ<|sqR<|qkLdA 0 rfl<|qkMove rfl<|bnE h fun r6 w7 h=>aF (aI.callQ Wy (IQ U v0 v1 z2 r6 w7) rfl (lK [0,1] rfl)) rfl fun x8=>qkAsg rfl<|dtN<|aQ ?_
 cases h
 exact gY (x8) rfl rfl (RV.tmp rfl) (aR.ix [0] rfl rfl) aD.nil
end
end Go.Proofs.YtjlbcgddhnjcjaaGreatDoor
end
