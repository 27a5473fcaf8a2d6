/- Models and proofs. Conditions: none. -/
import Derived.Test.YtigggfnchamobaaGreatDoorZCMe2
import Derived.Test.YtigggfnchamobaaGreatDoorZCMe4
import Derived.Test.YtigggfnchamobaaGreatDoorZCMe1
set_option linter.unusedVariables false
set_option linter.unusedSimpArgs false
set_option maxHeartbeats 4000000
set_option maxRecDepth 20000
section
namespace Go.Proofs.YtigggfnchamobaaGreatDoor
open Go.Sx
def oO (a3:(List ((Int×Int)×Int))) (kv6:(Int×Int)×Int) (xa9:Option (Bool)):Option (Bool):=
 if(Option.getD (k_ (kv6.1.2,kv6.1.1) a3) (0:Int))≠kv6.2 then(some (false))else(xa9)
def gQ  (a3:(List ((Int×Int)×Int))):Option (Bool):=
 GU (oO a3) (some (true)) a3
def lF (a17:Int×(List ((Int×Int)×Int))) (ag16:(Int×(List ((Int×Int)×Int)))->Option (Bool)) (a22:(List ((Int×Int)×Int))):Option (Bool):=
 ag16 ((wI .i64 (a17.1+(1:Int))),a22)
def fM (p0:List (List (Int×Int))) (a17:Int×(List ((Int×Int)×Int))) (a28:Int×(List ((Int×Int)×Int))) (ag27:(Int×(List ((Int×Int)×Int)))->Option (Bool)) (a39:Bool):Option (Bool):=
 if a39=true then(some (false))else(if(Option.isSome (k_ (a17.1,((at' (at' p0 a17.1) a28.1).1)) a28.2))=true then(some (false))else(ag27 ((wI .i64 (a28.1+(1:Int))),(zT (a17.1,((at' (at' p0 a17.1) a28.1).1)) ((at' (at' p0 a17.1) a28.1).2) a28.2))))
def eR (p0:List (List (Int×Int))) (a17:Int×(List ((Int×Int)×Int))) (a28:Int×(List ((Int×Int)×Int))) (ag27:(Int×(List ((Int×Int)×Int)))->Option (Bool)) (a35:Bool):Option (Bool):=
 if a35=true then(some (false))else(if((at' (at' p0 a17.1) a28.1).2)<(1:Int)then(fM p0 a17 a28 ag27 (true))else(fM p0 a17 a28 ag27 (decide ((15:Int)<((at' (at' p0 a17.1) a28.1).2)))))
def bV (p0:List (List (Int×Int))) (a17:Int×(List ((Int×Int)×Int))) (ag16:(Int×(List ((Int×Int)×Int)))->Option (Bool)) (a28:Int×(List ((Int×Int)×Int))) (ag27:(Int×(List ((Int×Int)×Int)))->Option (Bool)):Option (Bool):=
 if a28.1<(List.length (at' p0 a17.1):Int)then(ck (0<=a28.1∧a28.1<(List.length (at' p0 a17.1):Int)) (if((at' (at' p0 a17.1) a28.1).1)<(0:Int)then(eR p0 a17 a28 ag27 (true))else(if(List.length p0:Int)<=((at' (at' p0 a17.1) a28.1).1)then(eR p0 a17 a28 ag27 (true))else(eR p0 a17 a28 ag27 (decide (((at' (at' p0 a17.1) a28.1).1)=a17.1))))))else(lF a17 ag16 (a28.2))
def cB (fuel:Nat) (p0:List (List (Int×Int))) (a17:Int×(List ((Int×Int)×Int))) (ag16:(Int×(List ((Int×Int)×Int)))->Option (Bool)):Option (Bool):=
 if a17.1<(List.length p0:Int)then(ck (0<=a17.1∧a17.1<(List.length p0:Int)) (bG (bV p0 a17 ag16) fuel ((0:Int),a17.2)))else(gQ  (a17.2))
def fG (fuel:Nat) (p0:List (List (Int×Int))):Option (Bool):=
 bG (cB fuel p0) fuel ((0:Int),([]:List ((Int×Int)×Int)))
theorem VY:aR Tryz.prog 59:=Tryz.call59
theorem Dm (fuel:Nat) {p0:List (List (Int×Int))} (v0:Value)  (z1:List (Value×List (Int×Int))) (r:Bool) (h:fG fuel p0=some r):
  aV Tryz.prog 59 #[v0] [S2 aZ v0 z1 p0] (fun x:Unit=>Value.bool (r)) (fun x l=>l) (fun _ l=>l):=by
 refine aV.of Tryz.func59 rfl Tryz.ntmps59 rfl fun c=>?_
 unfold fG at h
 refine sqR<|qkAsg rfl<|dtN<|sqR<|aG (aM.makeMap lR KU) rfl fun b1=>qkAsg rfl<|dtN<|aL<|midU (fun a3=>gQ  a3=some r) (fun a3 b4=>[(3,Value.map (some b1))]) (fun a3 b4=>[Mp lR KU b1 a3]) ?_ ?_
 ·refine sqR<|qkMove rfl<|aB (iX rfl (aC.fact 0 rfl) rfl) rfl<|qkMove rfl<|dtN<|aQ<|loopL (cB fuel p0) (fun a17 b18=>[(0,v0),(3,Value.map (some b1)),(14,v0),(15,vI (List.length p0:Int)),(16,vI (a17.1))]) (fun a17 b18=>[Mp lR KU b1 a17.2]) ((0:Int),([]:List ((Int×Int)×Int))) () h SF (aK.refl _) ?_
  clear h
  intro k19 a17 b18 h
  unfold cB at h
  refine sqR<|qkLss rfl<|dtN<|aL ?_
  refine eL h rfl (fun h=>?_) fun h=>?_
  ·refine iV<|aL<|midU (fun a22=>lF a17 (bG (cB fuel p0) k19) a22=some r) (fun a22 b23=>[(0,v0),(3,Value.map (some b1)),(14,v0),(15,vI (List.length p0:Int)),(16,vI (a17.1))]) (fun a22 b23=>[Mp lR KU b1 a22]) ?_ ?_
   ·refine aQ<|sqR<|qkMove rfl ?_
    have⟨j24,h⟩:=aH h
    refine aB (cO rfl rfl (aC.fact 0 rfl) rfl rfl j24) rfl<|aB (cM rfl (aC.fact 0 rfl) rfl rfl j24) rfl<|qkAsg rfl<|qkAsg rfl<|dtN<|sqR<|qkMove rfl<|aB (b_ rfl (aC.el (aC.fact 0 rfl) j24.1 j24.2) rfl) rfl<|qkMove rfl<|dtN<|aQ<|loopL (bV p0 a17 (bG (cB fuel p0) k19)) (fun a28 b29=>[(0,v0),(3,Value.map (some b1)),(4,vI (a17.1)),(14,v0),(15,vI (List.length p0:Int)),(16,vI (a17.1)),(21,(at' z1 a17.1).1),(22,vI (List.length (at' p0 a17.1):Int)),(23,vI (a28.1))]) (fun a28 b29=>[Mp lR KU b1 a28.2]) ((0:Int),a17.2) () h SF (aK.refl _) ?_
    clear h
    intro k30 a28 b29 h
    unfold bV at h
    refine sqR<|qkLss rfl<|dtN<|aL ?_
    refine eL h rfl (fun h=>?_) fun h=>?_
    ·refine iV<|aL<|aQ<|sqR ?_
     have⟨j32,h⟩:=aH h
     refine aB (a_ rfl rfl (aC.el (aC.fact 0 rfl) j24.1 j24.2) rfl rfl j32) rfl<|aB (fZ (cs:=[vI ((at' (at' p0 a17.1) a28.1).1),vI ((at' (at' p0 a17.1) a28.1).2)]) rfl (aC.el (aC.fact 0 rfl) j24.1 j24.2) bJ rfl rfl rfl rfl j32) rfl<|aG (aM.alloc (cs:=[vI (0:Int),vI (0:Int)]) rfl rfl) rfl fun b33=>bI 0 (vs:=[vI ((at' (at' p0 a17.1) a28.1).1),vI ((at' (at' p0 a17.1) a28.1).2)]) rfl rfl rfl rfl rfl rfl<|dtN<|aL<|aL<|midU (fun a35=>eR p0 a17 a28 (bG (bV p0 a17 (bG (cB fuel p0) k19)) k30) a35=some r) (fun a35 b36=>[(0,v0),(3,Value.map (some b1)),(4,vI (a17.1)),(7,vP b33),(14,v0),(15,vI (List.length p0:Int)),(16,vI (a17.1)),(21,(at' z1 a17.1).1),(22,vI (List.length (at' p0 a17.1):Int)),(23,vI (a28.1)),(42,Value.bool (a35))]) (fun a35 b36=>[bO b33 [vI ((at' (at' p0 a17.1) a28.1).1),vI ((at' (at' p0 a17.1) a28.1).2)] 72,Mp lR KU b1 a28.2]) ?_ ?_
     ·refine aO<|qkFld rfl<|qkLd 0 rfl<|qkLss rfl<|qkMove rfl ?_
      refine Cy h rfl (fun _ h=>?_) fun _ h=>?_
      ·refine gdSkip rfl<|gdSkip rfl<|gdSkip rfl<|gdSkip rfl<|gdSkip rfl<|aB (bW rfl rfl) rfl<|qkMove rfl<|gdSkip rfl<|gdSkip rfl<|gdSkip rfl<|gdSkip rfl<|aB (bW rfl rfl) rfl<|dtN ?_
       exact iJ (true) () h SF rfl
      refine aT rfl (dD rfl rfl rfl rfl rfl) rfl<|aT rfl (dO 0 rfl rfl rfl rfl rfl) rfl<|gyMove rfl<|aT rfl (iX rfl (aC.fact 0 rfl) rfl) rfl<|aT rfl (Ef rfl rfl) rfl<|aB (cA rfl rfl) rfl<|qkMove rfl ?_
      refine Cy h rfl (fun _ h=>?_) fun _ h=>?_
      ·refine gdSkip rfl<|gdSkip rfl<|gdSkip rfl<|gdSkip rfl<|aB (bW rfl rfl) rfl<|dtN ?_
       exact iJ (true) () h SF rfl
      refine aT rfl (dD rfl rfl rfl rfl rfl) rfl<|aT rfl (dO 0 rfl rfl rfl rfl rfl) rfl<|gyMove rfl<|aT rfl (JK rfl rfl) rfl<|aB (cA rfl rfl) rfl<|dtN ?_
      exact iJ (decide (((at' (at' p0 a17.1) a28.1).1)=a17.1)) () h SF rfl
     clear h
     intro a35 b36 h
     unfold eR at h
     refine zJ h rfl (fun _ h=>?_) fun _ h=>?_
     ·refine sqR<|qkAsg rfl<|dtN<|aS<|aJ<|bK<|aJ<|aJ<|bK<|bK<|aJ<|aJ<|bK<|aJ ?_
      cases h
      exact vJ rfl
     refine iV<|aL<|aL<|midU (fun a39=>fM p0 a17 a28 (bG (bV p0 a17 (bG (cB fuel p0) k19)) k30) a39=some r) (fun a39 b40=>[(0,v0),(3,Value.map (some b1)),(4,vI (a17.1)),(7,vP b33),(14,v0),(15,vI (List.length p0:Int)),(16,vI (a17.1)),(21,(at' z1 a17.1).1),(22,vI (List.length (at' p0 a17.1):Int)),(23,vI (a28.1)),(50,Value.bool (a39))]) (fun a39 b40=>[bO b33 [vI ((at' (at' p0 a17.1) a28.1).1),vI ((at' (at' p0 a17.1) a28.1).2)] 72,Mp lR KU b1 a28.2]) ?_ ?_
     ·refine aO<|qkFld rfl<|qkLd 0 rfl<|qkLss rfl<|qkMove rfl ?_
      refine Cy h rfl (fun _ h=>?_) fun _ h=>?_
      ·refine gdSkip rfl<|gdSkip rfl<|gdSkip rfl<|aB (bW rfl rfl) rfl<|dtN ?_
       exact iJ (true) () h SF rfl
      refine aT rfl (dD rfl rfl rfl rfl rfl) rfl<|aT rfl (dO 0 rfl rfl rfl rfl rfl) rfl<|aT rfl (tT rfl rfl) rfl<|aB (cA rfl rfl) rfl<|dtN ?_
      exact iJ (decide ((15:Int)<((at' (at' p0 a17.1) a28.1).2))) () h SF rfl
     clear h
     intro a39 b40 h
     unfold fM at h
     refine zJ h rfl (fun _ h=>?_) fun _ h=>?_
     ·refine sqR<|qkAsg rfl<|dtN<|aS<|aJ<|bK<|aJ<|aJ<|bK<|bK<|aJ<|aJ<|bK<|aJ ?_
      cases h
      exact vJ rfl
     refine iV<|sqR<|qkMove rfl<|qkFld rfl<|qkLd 0 rfl ?_
     refine aB (AF (r:=Value.agg #[Value.int .i64 (a17.1),Value.int .i64 ((at' (at' p0 a17.1) a28.1).1)]) rfl rfl (by intro w;simp[Instr.build,Instr.fill,eN,dU,cY,eO,eP,dV,fS])) rfl ?_
     refine aG (aM.alloc (cs:=[vI (0:Int),vI (0:Int)]) rfl rfl) rfl fun b42=>bI 0 (vs:=[vI (a17.1),vI ((at' (at' p0 a17.1) a28.1).1)]) rfl rfl rfl rfl rfl rfl<|dtN<|aL<|sqR<|qkMove rfl<|qkLdA 0 rfl ?_
     refine aB (JM 2 ((a17.1,((at' (at' p0 a17.1) a28.1).1))) (u:=vI (Option.getD (k_ (a17.1,((at' (at' p0 a17.1) a28.1).1)) a28.2) (0:Int))) IK rfl rfl rfl rfl rfl (by cases k_ ((a17.1,((at' (at' p0 a17.1) a28.1).1))) a28.2<;>rfl)) rfl ?_
     refine qkMove rfl<|aB (bF rfl rfl) rfl<|aB (bF rfl rfl) rfl<|qkAsg rfl<|qkAsg rfl<|dtN<|sqR<|qkMove rfl<|dtN ?_
     refine zJ h rfl (fun _ h=>?_) fun _ h=>?_
     ·refine sqR<|qkAsg rfl<|dtN<|aS<|aJ<|bK<|aJ<|aJ<|bK<|bK<|aJ<|aJ<|bK<|aJ ?_
      cases h
      exact vJ rfl
     refine iV<|aO<|qkMove rfl<|qkLdA 0 rfl<|qkFld rfl<|qkLd 1 rfl<|Jo 2 ((a17.1,((at' (at' p0 a17.1) a28.1).1))) ((at' (at' p0 a17.1) a28.1).2) IK rfl rfl rfl rfl rfl<|dY<|inT<|aO<|qkAdd rfl<|qkMove rfl<|dtN ?_
     exact nN ((wI .i64 (a28.1+(1:Int))),(zT (a17.1,((at' (at' p0 a17.1) a28.1).1)) ((at' (at' p0 a17.1) a28.1).2) a28.2)) () h SF (aK.ix [2] rfl rfl) (aA.refl _ _)
    refine nO<|cX<|cX<|tA<|inT ?_
    exact iJ (a28.2) () h SF rfl
   clear h
   intro a22 b23 h
   unfold lF at h
   refine aO<|qkAdd rfl<|qkMove rfl<|dtN ?_
   exact xK ((wI .i64 (a17.1+(1:Int))),a22) () h SF rfl
  refine xO ?_
  exact iJ (a17.2) () h SF rfl
 clear h
 intro a3 b4 h
 unfold gQ at h
 refine aL<|sqR<|qkMove rfl<|aG (aM.range 0 rfl rfl rfl) rfl fun b5=>dtN<|aQ<|SR [(3,Value.map (some b1)),(69,vP b5)] [It b5 b1 (List.length a3) ([]),Mp lR KU b1 a3] [S2 aZ v0 z1 p0] SF (aK.refl _) (aA.refl _ _) ?_
 refine Oa (oO a3) 1 0 (by intro a b x;unfold oO;repeat' split;all_goals first|rfl|contradiction|simp_all) h rfl rfl rfl rfl rfl rfl ?_ ?_
 ·clear h
  intro kv6 i7 se8 xa9 hkv10 h
  unfold oO at h
  refine aQ<|sqR<|aG (aM.entry 1 0 hkv10 rfl rfl rfl) rfl fun x11=>aB (bF rfl rfl) rfl<|aB (bF rfl rfl) rfl<|aG (aM.alloc (cs:=[vI (0:Int),vI (0:Int)]) rfl rfl) rfl fun b12=>bI 0 (vs:=[vI (kv6.1.1),vI (kv6.1.2)]) rfl rfl rfl rfl rfl rfl<|qkAsg rfl<|dtN<|sqR<|qkMove rfl ?_
  refine aB (mS (i:=1) rfl rfl rfl rfl rfl (by decide)) rfl ?_
  refine qkLd 0 rfl ?_
  refine aB (mS (i:=0) rfl rfl rfl rfl rfl (by decide)) rfl ?_
  refine qkLd 0 rfl ?_
  refine aB (AF (r:=Value.agg #[Value.int .i64 (kv6.1.2),Value.int .i64 (kv6.1.1)]) rfl rfl (by intro w;simp[Instr.build,Instr.fill,eN,dU,cY,eO,eP,dV,fS])) rfl ?_
  refine aB (JM 2 ((kv6.1.2,kv6.1.1)) (u:=vI (Option.getD (k_ (kv6.1.2,kv6.1.1) a3) (0:Int))) IK rfl rfl rfl rfl rfl (by cases k_ ((kv6.1.2,kv6.1.1)) a3<;>rfl)) rfl ?_
  refine qkMove rfl<|aB (kR rfl rfl) rfl<|dtN ?_
  refine eL h rfl (fun h=>?_) fun h=>?_
  ·refine sqR<|qkAsg rfl<|dtN<|aS<|bK<|aJ<|bK<|aJ ?_
   cases h
   exact vJ rfl
  refine cU<|inT ?_
  exact Ln h SF (aK.ix [1,2] rfl rfl) (aA.refl _ _)
 clear h
 intro se8 h
 refine tA<|xR<|sqR<|qkAsg rfl<|dtN<|aS ?_
 cases h
 exact vJ rfl
end Go.Proofs.YtigggfnchamobaaGreatDoor
end
section
namespace Go.Proofs.YtigggfnchamobaaGreatDoor
open Go.Sx
def nZ  (a7:Bool):Option (Bool):=
 some (a7)
def lE (fuel:Nat) (p0:List (Int)×(List (List (Int×Int)))) (a3:Bool):Option (Bool):=
 if a3=true then(some (false))else(Option.bind (hZ fuel p0.1) fun r9=>(if r9=true then(Option.bind (fG fuel p0.2) fun r13=>(nZ  (r13)))else(nZ  (false))))
def eI (fuel:Nat) (p0:List (Int)×(List (List (Int×Int)))):Option (Bool):=
 if(List.length p0.1:Int)<(1:Int)then(lE fuel p0 (true))else(if(24:Int)<(List.length p0.1:Int)then(lE fuel p0 (true))else(lE fuel p0 (decide ((List.length p0.2:Int)≠(List.length p0.1:Int)))))
theorem FE:aR Tryz.prog 40:=Tryz.call40
theorem rY (fuel:Nat) {p0:List (Int)×(List (List (Int×Int)))} (v0:Value)  (v1:Value)  (z2:List (Value×List (Int×Int))) (r:Bool) (h:eI fuel p0=some r):
  aV Tryz.prog 40 #[Value.agg #[v0,v1]] [Sl bM v0 p0.1,S2 aZ v1 z2 p0.2] (fun x:Unit=>Value.bool (r)) (fun x l=>l) (fun _ l=>l):=by
 refine aV.of Tryz.func40 rfl Tryz.ntmps40 rfl fun c=>?_
 unfold eI at h
 refine sqR<|aG (aM.box (cs:=[v0,v1]) rfl rfl) rfl fun b1=>qkAsg rfl<|dtN<|sqR<|qkFld rfl<|qkLd 0 rfl<|aB (b_ rfl (aC.fact 0 rfl) rfl) rfl<|qkAsg rfl<|dtN<|aL<|aL<|midU (fun a3=>lE fuel p0 a3=some r) (fun a3 b4=>[(1,vP b1),(19,Value.bool (a3))]) (fun a3 b4=>[bO b1 [v0,v1] 28]) ?_ ?_
 ·refine aO<|qkMove rfl<|qkLss rfl<|qkMove rfl ?_
  refine Cy h rfl (fun _ h=>?_) fun _ h=>?_
  ·refine gdSkip rfl<|gdSkip rfl<|aB (bW rfl rfl) rfl<|qkMove rfl<|gdSkip rfl<|gdSkip rfl<|gdSkip rfl<|gdSkip rfl<|gdSkip rfl<|aB (bW rfl rfl) rfl<|dtN ?_
   exact iJ (true) () h SF rfl
  refine gyMove rfl<|aT rfl (tT rfl rfl) rfl<|aB (cA rfl rfl) rfl<|qkMove rfl ?_
  refine Cy h rfl (fun _ h=>?_) fun _ h=>?_
  ·refine gdSkip rfl<|gdSkip rfl<|gdSkip rfl<|gdSkip rfl<|gdSkip rfl<|aB (bW rfl rfl) rfl<|dtN ?_
   exact iJ (true) () h SF rfl
  refine aT rfl (dD rfl rfl rfl rfl rfl) rfl<|aT rfl (dO 0 rfl rfl rfl rfl rfl) rfl<|aT rfl (iX rfl (aC.fact 1 rfl) rfl) rfl<|gyMove rfl<|aT rfl (kR rfl rfl) rfl<|aB (cA rfl rfl) rfl<|dtN ?_
  exact iJ (decide ((List.length p0.2:Int)≠(List.length p0.1:Int))) () h SF rfl
 clear h
 intro a3 b4 h
 unfold lE at h
 refine zJ h rfl (fun _ h=>?_) fun _ h=>?_
 ·refine sqR<|qkAsg rfl<|dtN<|aS<|aJ ?_
  cases h
  exact vJ rfl
 refine iV<|aL<|midU (fun a7=>nZ  a7=some r) (fun a7 b8=>[(2,Value.bool (a7))]) (fun a7 b8=>[]) ?_ ?_
 ·refine aO<|qkFld rfl<|qkLd 0 rfl ?_
  have⟨r9,w10,h⟩:=fE h
  refine aG (aM.callQ VX (A_ fuel v0 r9 w10) rfl (aA.cons (aC.fact 0 rfl) .nil)) rfl fun x11=>qkMove rfl ?_
  refine Bf (by exact rfl) (by exact rfl) (fun hp12=>?_) (fun hp12=>?_)
  ·have h:=Jj hp12 h
   refine aT rfl (dD rfl rfl rfl rfl rfl) rfl<|aT rfl (dO 0 rfl rfl rfl rfl rfl) rfl ?_
   have⟨r13,w14,h⟩:=fE h
   refine qT rfl (aM.callQ VY (Dm fuel v1 z2 r13 w14) rfl (aA.cons (aC.fact 1 rfl) .nil)) rfl fun x15=>aB (bW rfl rfl) rfl<|qkAsg rfl<|dtN ?_
   exact cF (r13) () h SF .nil (aA.refl _ _)
  have h:=IE hp12 h
  refine gdSkip rfl<|gdSkip rfl<|gdSkip rfl<|aB (cA rfl rfl) rfl<|qkAsg rfl<|dtN ?_
  exact cF (false) () h SF .nil (aA.refl _ _)
 clear h
 intro a7 b8 h
 unfold nZ at h
 refine aS ?_
 cases h
 exact lP rfl
end Go.Proofs.YtigggfnchamobaaGreatDoor
end
section
namespace Go.Proofs.YtigggfnchamobaaGreatDoor
open Go.Sx
def pM  (a4:Int):Option (Int):=
 some (a4)
def eV (fuel:Nat) (p0:Int) (p1:Int):Option (Int):=
 if p1<(1:Int)then(some (0:Int))else(ck (p1≠0) (if(Int.tmod p0 p1)<(0:Int)then(pM  (wI .i64 ((Int.tmod p0 p1)+p1)))else(pM  (Int.tmod p0 p1))))
theorem AJ:aR Tryz.prog 29:=Tryz.call29
theorem jU (fuel:Nat) {p0:Int} {p1:Int} (r:Int) (h:eV fuel p0 p1=some r):
  aV Tryz.prog 29 #[vI (p0),vI (p1)] [] (fun x:Unit=>vI (r)) (fun x l=>l) (fun _ l=>l):=by
 refine aV.of Tryz.func29 rfl Tryz.ntmps29 rfl fun c=>?_
 unfold eV at h
 refine sqR<|qkAsg rfl<|dtN<|aL<|sqR<|qkMove rfl<|qkLss rfl<|dtN ?_
 refine eL h rfl (fun h=>?_) fun h=>?_
 ·refine sqR<|qkAsg rfl<|dtN<|aS<|aJ ?_
  cases h
  exact lP rfl
 refine iV<|sqR<|qkMove rfl<|qkMove rfl ?_
 have⟨j2,h⟩:=aH h
 refine aB (JO rfl rfl j2) rfl<|qkAsg rfl<|dtN<|aL<|midU (fun a4=>pM  a4=some r) (fun a4 b5=>[(0,vI (a4))]) (fun a4 b5=>[]) ?_ ?_
 ·refine sqR<|qkMove rfl<|qkLss rfl<|dtN ?_
  refine eL h rfl (fun h=>?_) fun h=>?_
  ·refine aO<|qkMove rfl<|qkMove rfl<|qkAdd rfl<|qkAsg rfl<|dtN ?_
   exact iJ (wI .i64 ((Int.tmod p0 p1)+p1)) () h SF rfl
  refine iV ?_
  exact iJ (Int.tmod p0 p1) () h SF rfl
 clear h
 intro a4 b5 h
 unfold pM at h
 refine sqR<|qkMove rfl<|qkAsg rfl<|dtN<|aS ?_
 cases h
 exact lP rfl
end Go.Proofs.YtigggfnchamobaaGreatDoor
end
section
namespace Go.Proofs.YtigggfnchamobaaGreatDoor
open Go.Sx
def oT (fuel:Nat) (p0:List (Int)) (p1:Int):Option (Int):=
 if p1<(List.length p0:Int)then(ck (0<=p1∧p1<(List.length p0:Int)) (some (at' p0 p1)))else(some (0:Int))
theorem FD:aR Tryz.prog 30:=Tryz.call30
theorem xI (fuel:Nat) {p0:List (Int)} {p1:Int} (v0:Value) (r:Int) (h:oT fuel p0 p1=some r):
  aV Tryz.prog 30 #[v0,vI (p1)] [Sl bM v0 p0] (fun x:Unit=>vI (r)) (fun x l=>l) (fun _ l=>l):=by
 refine aV.of Tryz.func30 rfl Tryz.ntmps30 rfl fun c=>?_
 unfold oT at h
 refine sqR<|qkAsg rfl<|dtN<|aL<|sqR<|qkMove rfl<|qkMove rfl<|aB (b_ rfl (aC.fact 0 rfl) rfl) rfl<|qkLss rfl<|dtN ?_
 refine eL h rfl (fun h=>?_) fun h=>?_
 ·refine sqR<|qkMove rfl<|qkMove rfl ?_
  have⟨j2,h⟩:=aH h
  refine aB (a_ rfl rfl (aC.fact 0 rfl) rfl rfl j2) rfl<|aB (bS rfl (aC.fact 0 rfl) rfl rfl rfl dB j2) rfl<|qkAsg rfl<|dtN<|aS<|aJ ?_
  cases h
  exact lP rfl
 refine iV<|sqR<|qkAsg rfl<|dtN<|aS ?_
 cases h
 exact lP rfl
end Go.Proofs.YtigggfnchamobaaGreatDoor
end
section
namespace Go.Proofs.YtigggfnchamobaaGreatDoor
open Go.Sx
def mF (r3:Int) (a13:List (Int)):Option ((List (Int)×(List (List (Int×Int))))):=
 some ((a13,(List.replicate (Int.toNat (wI .i64 ((1:Int)+r3))) ([]:List (Int×Int)))))
def mG (a21:Int×List (Int)) (ag20:(Int×List (Int))->Option ((List (Int)×(List (List (Int×Int)))))) (a32:Int):Option ((List (Int)×(List (List (Int×Int))))):=
 ck ((List.length a21.2:Int)+(List.length ([a32]):Int)<=1099511627) (ag20 ((wI .i64 (a21.1+(1:Int))),(a21.2++[a32])))
def jK (ag40:(Int×Int)->Option ((List (Int)×(List (List (Int×Int)))))) (a47:Int×Int):Option ((List (Int)×(List (List (Int×Int))))):=
 ag40 (a47.1,(wI .i64 (a47.2+(1:Int))))
def gU (a21:Int×List (Int)) (ag20:(Int×List (Int))->Option ((List (Int)×(List (List (Int×Int)))))) (a41:Int×Int) (ag40:(Int×Int)->Option ((List (Int)×(List (List (Int×Int)))))):Option ((List (Int)×(List (List (Int×Int))))):=
 if a41.2<a21.1 then(ck (0<=a41.2∧a41.2<(List.length a21.2:Int)) (if(at' a21.2 a41.2)=a41.1 then(ck ((256:Int)≠0) (jK ag40 ((Int.tmod (wI .i64 (a41.1+(1:Int))) (256:Int)),(-1:Int))))else(jK ag40 (a41.1,a41.2))))else(mG a21 ag20 (a41.1))
def fK (fuel:Nat) (p0:Int×List (Int)×List (Int)×List (Int)×Bool×Bool) (r3:Int) (a21:Int×List (Int)) (ag20:(Int×List (Int))->Option ((List (Int)×(List (List (Int×Int)))))):Option ((List (Int)×(List (List (Int×Int))))):=
 if a21.1<(wI .i64 ((1:Int)+r3))then(Option.bind (oT fuel p0.2.2.2.1 a21.1) fun r25=>(Option.bind (eV fuel r25 (256:Int)) fun r28=>(bG (gU a21 ag20) fuel (r28,(0:Int)))))else(mF r3 (a21.2))
def iI (fuel:Nat) (p0:Int×List (Int)×List (Int)×List (Int)×Bool×Bool) (p1:Int):Option ((List (Int)×(List (List (Int×Int))))):=
 Option.bind (eV fuel (wI .i64 (p0.1 - (1:Int))) p1) fun r3=>(ck (0<=(wI .i64 ((1:Int)+r3))∧(wI .i64 ((1:Int)+r3))<=1099511627) (bG (fK fuel p0 r3) fuel ((0:Int),([]:List Int))))
theorem Qi:aR Tryz.prog 39:=Tryz.call39
theorem wD (fuel:Nat) {p0:Int×List (Int)×List (Int)×List (Int)×Bool×Bool} {p1:Int} (v0:Value)  (v1:Value)  (v2:Value) (r:(List (Int)×(List (List (Int×Int))))) (h:iI fuel p0 p1=some r):
  aV Tryz.prog 39 #[Value.agg #[vI (p0.1),v0,v1,v2,Value.bool (p0.2.2.2.2.1),Value.bool (p0.2.2.2.2.2)],vI (p1)] [Sl bM v0 p0.2.1,Sl bM v1 p0.2.2.1,Sl bM v2 p0.2.2.2.1] (fun x:Value×Value×List Value=>Value.agg #[x.1,x.2.1]) (fun x l=>Ar bY x.1 r.1::Ar dJ.raw x.2.1 x.2.2::jG bR x.2.2 r.2::l) (fun _ l=>l):=by
 refine aV.of Tryz.func39 rfl Tryz.ntmps39 rfl fun c=>?_
 unfold iI at h
 refine sqR<|aG (aM.box (cs:=[vI (p0.1),v0,v1,v2,Value.bool (p0.2.2.2.2.1),Value.bool (p0.2.2.2.2.2)]) rfl rfl) rfl fun b1=>aG (aM.alloc (cs:=[Value.slice none 0 0,Value.slice none 0 0]) rfl rfl) rfl fun b2=>dtN<|sqR<|qkFld rfl<|qkLd 1 rfl<|aB (qE rfl rfl) rfl<|qkMove rfl ?_
 have⟨r3,w4,h⟩:=fE h
 refine aG (aM.callQ AJ (jU fuel  r3 w4) rfl .nil) rfl fun x5=>qkAdd rfl<|qkAsg rfl<|dtN<|sqR<|qkMove rfl ?_
 have⟨j6,h⟩:=aH h
 refine jJ (vO bR (Int.toNat (wI .i64 ((1:Int)+r3))))<|aG (oH (e:=dJ.raw) (Value.slice none 0 0) rfl rfl rfl rfl j6 rfl rfl rfl) rfl fun u7=>bZ (Know.one (aC.sl (bD (i:=0) (j:=1) rfl rfl bJ))) fun ho8=>?_
 refine aB (PT (r:=Value.agg #[Value.slice none 0 0,u7]) rfl (by intro w;simp[Instr.build,Instr.fill,eN,dU,cY,eO,eP,dV,fS,jD ho8])) rfl ?_
 refine aG (aM.alloc (cs:=[Value.slice none 0 0,Value.slice none 0 0]) rfl rfl) rfl fun b9=>bZ (Know.one (aC.sl (bD (i:=1) (j:=2) rfl rfl bJ))) fun ho10=>bI 0 (vs:=[Value.slice none 0 0,u7]) rfl rfl (cR rfl (cR ho10 rfl)) rfl rfl rfl<|dtN<|aL<|midL (B:=Value) (fun a13=>mF r3 a13=some r) (fun a13 b14=>[(4,vP b2),(6,vP b9)]) (fun a13 b14=>[bO b9 [b14,u7] 28,Ar dJ.raw u7 (List.replicate (Int.toNat (wI .i64 ((1:Int)+r3))) (Value.slice none 0 0)),jG bR (List.replicate (Int.toNat (wI .i64 ((1:Int)+r3))) (Value.slice none 0 0)) (List.replicate (Int.toNat (wI .i64 ((1:Int)+r3))) ([]:List (Int×Int))),bO b2 [Value.slice none 0 0,Value.slice none 0 0] 28,Ar bY b14 a13]) ?_ ?_
 ·refine sqR<|qkAsg rfl<|dtN<|aQ<|jJ (iW bY)<|loopL (B:=Value) (fK fuel p0 r3) (fun a21 b22=>[(2,vP b1),(4,vP b2),(5,vI (wI .i64 ((1:Int)+r3))),(6,vP b9),(7,vI (a21.1))]) (fun a21 b22=>[bO b9 [b22,u7] 28,Ar dJ.raw u7 (List.replicate (Int.toNat (wI .i64 ((1:Int)+r3))) (Value.slice none 0 0)),jG bR (List.replicate (Int.toNat (wI .i64 ((1:Int)+r3))) (Value.slice none 0 0)) (List.replicate (Int.toNat (wI .i64 ((1:Int)+r3))) ([]:List (Int×Int))),bO b2 [Value.slice none 0 0,Value.slice none 0 0] 28,bO b1 [vI (p0.1),v0,v1,v2,Value.bool (p0.2.2.2.2.1),Value.bool (p0.2.2.2.2.2)] 24,Ar bY b22 a21.2]) ((0:Int),([]:List Int)) (Value.slice none 0 0) h SF (aK.ix [1,2,3,4,5,0] rfl rfl) ?_
  clear h
  intro k23 a21 b22 h
  unfold fK at h
  refine aL<|sqR<|qkMove rfl<|qkMove rfl<|qkLss rfl<|dtN ?_
  refine eL h rfl (fun h=>?_) fun h=>?_
  ·refine iV<|aL<|aQ<|sqR<|qkFld rfl<|qkLd 4 rfl<|qkMove rfl ?_
   have⟨r25,w26,h⟩:=fE h
   refine aG (aM.callQ FD (xI fuel v2 r25 w26) rfl (aA.cons (aC.fact 2 rfl) .nil)) rfl fun x27=>?_
   have⟨r28,w29,h⟩:=fE h
   refine aG (aM.callQ AJ (jU fuel  r28 w29) rfl .nil) rfl fun x30=>qkAsg rfl<|dtN<|aL<|midU (fun a32=>mG a21 (bG (fK fuel p0 r3) k23) a32=some r) (fun a32 b33=>[(2,vP b1),(4,vP b2),(5,vI (wI .i64 ((1:Int)+r3))),(6,vP b9),(7,vI (a21.1)),(8,vI (a32))]) (fun a32 b33=>[bO b9 [b22,u7] 28,Ar dJ.raw u7 (List.replicate (Int.toNat (wI .i64 ((1:Int)+r3))) (Value.slice none 0 0)),jG bR (List.replicate (Int.toNat (wI .i64 ((1:Int)+r3))) (Value.slice none 0 0)) (List.replicate (Int.toNat (wI .i64 ((1:Int)+r3))) ([]:List (Int×Int))),bO b2 [Value.slice none 0 0,Value.slice none 0 0] 28,bO b1 [vI (p0.1),v0,v1,v2,Value.bool (p0.2.2.2.2.1),Value.bool (p0.2.2.2.2.2)] 24,Ar bY b22 a21.2]) ?_ ?_
   ·refine sqR<|qkAsg rfl<|dtN<|aQ<|loopL (gU a21 (bG (fK fuel p0 r3) k23)) (fun a41 b42=>[(2,vP b1),(4,vP b2),(5,vI (wI .i64 ((1:Int)+r3))),(6,vP b9),(7,vI (a21.1)),(8,vI (a41.1)),(9,vI (a41.2))]) (fun a41 b42=>[bO b9 [b22,u7] 28,Ar dJ.raw u7 (List.replicate (Int.toNat (wI .i64 ((1:Int)+r3))) (Value.slice none 0 0)),jG bR (List.replicate (Int.toNat (wI .i64 ((1:Int)+r3))) (Value.slice none 0 0)) (List.replicate (Int.toNat (wI .i64 ((1:Int)+r3))) ([]:List (Int×Int))),bO b2 [Value.slice none 0 0,Value.slice none 0 0] 28,bO b1 [vI (p0.1),v0,v1,v2,Value.bool (p0.2.2.2.2.1),Value.bool (p0.2.2.2.2.2)] 24,Ar bY b22 a21.2]) (r28,(0:Int)) () h SF (aK.refl _) ?_
    clear h
    intro k43 a41 b42 h
    unfold gU at h
    refine aL<|sqR<|qkMove rfl<|qkMove rfl<|qkLss rfl<|dtN ?_
    refine eL h rfl (fun h=>?_) fun h=>?_
    ·refine iV<|aL<|midU (fun a47=>jK (bG (gU a21 (bG (fK fuel p0 r3) k23)) k43) a47=some r) (fun a47 b48=>[(2,vP b1),(4,vP b2),(5,vI (wI .i64 ((1:Int)+r3))),(6,vP b9),(7,vI (a21.1)),(8,vI (a47.1)),(9,vI (a47.2))]) (fun a47 b48=>[bO b9 [b22,u7] 28,Ar dJ.raw u7 (List.replicate (Int.toNat (wI .i64 ((1:Int)+r3))) (Value.slice none 0 0)),jG bR (List.replicate (Int.toNat (wI .i64 ((1:Int)+r3))) (Value.slice none 0 0)) (List.replicate (Int.toNat (wI .i64 ((1:Int)+r3))) ([]:List (Int×Int))),bO b2 [Value.slice none 0 0,Value.slice none 0 0] 28,bO b1 [vI (p0.1),v0,v1,v2,Value.bool (p0.2.2.2.2.1),Value.bool (p0.2.2.2.2.2)] 24,Ar bY b22 a21.2]) ?_ ?_
     ·refine aQ<|sqR<|qkFld rfl<|qkLd 0 rfl<|qkMove rfl ?_
      have⟨j49,h⟩:=aH h
      refine aB (a_ rfl rfl (aU (aC.res 5 rfl) cI) rfl rfl j49) rfl<|aB (bS rfl (aU (aC.res 5 rfl) cI) rfl rfl rfl dB j49) rfl<|qkMove rfl<|qkEql rfl<|dtN ?_
      refine eL h rfl (fun h=>?_) fun h=>?_
      ·refine aO<|qkMove rfl<|qkAdd rfl ?_
       have⟨j51,h⟩:=aH h
       refine aB (JO rfl rfl j51) rfl<|qkAsg rfl<|qkAsg rfl<|dY<|inT ?_
       exact iJ ((Int.tmod (wI .i64 (a41.1+(1:Int))) (256:Int)),(-1:Int)) () h SF rfl
      refine cU<|inT ?_
      exact iJ (a41.1,a41.2) () h SF rfl
     clear h
     intro a47 b48 h
     unfold jK at h
     refine aO<|qkMove rfl<|qkAdd rfl<|qkAsg rfl<|dtN ?_
     exact xK (a47.1,(wI .i64 (a47.2+(1:Int)))) () h SF rfl
    refine xO ?_
    exact iJ (a41.1) () h SF rfl
   clear h
   intro a32 b33 h
   unfold mG at h
   refine aO<|qkFld rfl<|qkLd 0 rfl<|qkMove rfl<|aG (cE (e:=bY) ([a32]) [(0,vI (a32))] rfl rfl rfl rfl (mM (vI (a32)) rfl) rfl rfl rfl) rfl fun u34=>?_
   have⟨j36,h⟩:=aH h
   refine aG (gM 6 cI rfl rfl rfl (aU (aC.res 0 rfl) cI) rfl rfl rfl rfl j36 rfl) rfl fun u35=>qkFld rfl<|bZ (Know.one ((aU (aC.res 6 rfl) cI))) fun ho37=>eJ 1 rfl rfl ho37 rfl rfl rfl<|dY<|inT<|aO<|qkMove rfl<|qkAdd rfl<|qkAsg rfl<|dtN ?_
   exact nN ((wI .i64 (a21.1+(1:Int))),(a21.2++[a32])) (u35) h SF (aK.ix [1,2,3,4,5,6] rfl rfl) (aA.refl _ _)
  refine xO ?_
  exact cF (a21.2) (b22) h SF (aK.ix [0,1,2,3,5] rfl rfl) (aA.refl _ _)
 clear h
 intro a13 b14 h
 unfold mF at h
 refine sqR<|qkLdA 0 rfl<|bZ (Know.one ((aU (aC.res 4 rfl) cI))) fun ho15=>bZ (Know.one (aC.sl (bD (i:=1) (j:=2) rfl rfl bJ))) fun ho16=>bI 3 (vs:=[b14,u7]) rfl rfl (cR ho15 (cR ho16 rfl)) rfl rfl rfl<|dtN<|aS ?_
 cases h
 exact fQ (b14,u7,(List.replicate (Int.toNat (wI .i64 ((1:Int)+r3))) (Value.slice none 0 0))) rfl rfl (RV.cell 3 rfl rfl rfl rfl) (aK.ix [4,1,2] rfl rfl) aA.nil
end Go.Proofs.YtigggfnchamobaaGreatDoor
end
section
namespace Go.Proofs.YtigggfnchamobaaGreatDoor
open Go.Sx
def sP  (a2:Unit):Option (Bool):=
 some (false)
def sQ (p0:List (Int)×(List (List (Int×Int)))) (p1:Int) (p2:Int) (a6:Int) (ag5:(Int)->Option (Bool)):Option (Bool):=
 ck (0<=p1∧p1<(List.length p0.2:Int)) (if a6<(List.length (at' p0.2 p1):Int)then(ck (0<=p1∧p1<(List.length p0.2:Int)) (ck (0<=a6∧a6<(List.length (at' p0.2 p1):Int)) (if((at' (at' p0.2 p1) a6).1)=p2 then(some (true))else(ag5 (wI .i64 (a6+(1:Int)))))))else(sP  (())))
def lN (fuel:Nat) (p0:List (Int)×(List (List (Int×Int)))) (p1:Int) (p2:Int):Option (Bool):=
 bG (sQ p0 p1 p2) fuel (0:Int)
theorem VZ:aR Tryz.prog 60:=Tryz.call60
theorem GI (fuel:Nat) {p0:List (Int)×(List (List (Int×Int)))} {p1:Int} {p2:Int} (v0:Value)  (v1:Value)  (z2:List (Value×List (Int×Int))) (r:Bool) (h:lN fuel p0 p1 p2=some r):
  aV Tryz.prog 60 #[Value.agg #[v0,v1],vI (p1),vI (p2)] [Sl bM v0 p0.1,S2 aZ v1 z2 p0.2] (fun x:Unit=>Value.bool (r)) (fun x l=>l) (fun _ l=>l):=by
 refine aV.of Tryz.func60 rfl Tryz.ntmps60 rfl fun c=>?_
 unfold lN at h
 refine sqR<|aG (aM.box (cs:=[v0,v1]) rfl rfl) rfl fun b1=>qkAsg rfl<|dtN<|aL<|midU (fun a2=>sP  a2=some r) (fun a2 b3=>[]) (fun a2 b3=>[]) ?_ ?_
 ·refine sqR<|qkAsg rfl<|dtN<|aQ<|loopL (sQ p0 p1 p2) (fun a6 b7=>[(1,vI (p1)),(2,vI (p2)),(3,vP b1),(7,vI (a6))]) (fun a6 b7=>[bO b1 [v0,v1] 28]) (0:Int) () h SF (aK.refl _) ?_
  clear h
  intro k8 a6 b7 h
  unfold sQ at h
  refine aL<|sqR<|qkMove rfl<|qkFld rfl<|qkLd 0 rfl<|qkMove rfl ?_
  have⟨j9,h⟩:=aH h
  refine aB (cO rfl rfl (aC.fact 1 rfl) rfl rfl j9) rfl<|aB (cM rfl (aC.fact 1 rfl) rfl rfl j9) rfl<|aB (b_ rfl (aC.el (aC.fact 1 rfl) j9.1 j9.2) rfl) rfl<|qkLss rfl<|dtN ?_
  refine eL h rfl (fun h=>?_) fun h=>?_
  ·refine iV<|aL<|aQ<|sqR<|qkFld rfl<|qkLd 0 rfl<|qkMove rfl ?_
   have⟨j11,h⟩:=aH h
   refine aB (cO rfl rfl (aC.fact 1 rfl) rfl rfl j11) rfl<|aB (cM rfl (aC.fact 1 rfl) rfl rfl j11) rfl<|qkMove rfl ?_
   have⟨j12,h⟩:=aH h
   refine aB (a_ rfl rfl (aC.el (aC.fact 1 rfl) j11.1 j11.2) rfl rfl j12) rfl<|aB (nQ rfl rfl rfl rfl rfl) rfl<|aB (pT rfl (aC.el (aC.fact 1 rfl) j11.1 j11.2) rfl rfl rfl zF j12) rfl<|qkMove rfl<|qkEql rfl<|dtN ?_
   refine eL h rfl (fun h=>?_) fun h=>?_
   ·refine sqR<|qkAsg rfl<|dtN<|aS<|bK<|aJ<|aJ<|bK<|aJ ?_
    cases h
    exact vJ rfl
   refine cU<|inT<|aO<|qkMove rfl<|qkAdd rfl<|qkAsg rfl<|dtN ?_
   exact xK (wI .i64 (a6+(1:Int))) () h SF rfl
  refine xO ?_
  exact cF () (()) h SF .nil (aA.refl _ _)
 clear h
 intro a2 b3 h
 unfold sP at h
 refine sqR<|qkAsg rfl<|dtN<|aS ?_
 cases h
 exact lP rfl
end Go.Proofs.YtigggfnchamobaaGreatDoor
end
section
namespace Go.Proofs.YtigggfnchamobaaGreatDoor
open Go.Sx
def kH (p0:Int×List (Int)×List (Int)×List (Int)×Bool×Bool) (p1:List (Int)×(List (List (Int×Int)))) (p2:Int) (p3:Int) (p4:Int) (a4:Bool):Option ((List (List (Int×Int)))):=
 if a4=true then(some (p1.2))else(if p0.2.2.2.2.2=true then(ck (0<=p2∧p2<(List.length p1.2:Int)) (ck ((List.length ([(p3,p4)]):Int)+(List.length (at' p1.2 p2):Int)<=1099511627) (ck (0<=p2∧p2<(List.length p1.2:Int)) (ck (0<=p3∧p3<(List.length (List.set p1.2 (Int.toNat p2) (([(p3,p4)])++(at' p1.2 p2))):Int)) (ck ((List.length ([(p2,p4)]):Int)+(List.length (at' (List.set p1.2 (Int.toNat p2) (([(p3,p4)])++(at' p1.2 p2))) p3):Int)<=1099511627) (ck (0<=p3∧p3<(List.length (List.set p1.2 (Int.toNat p2) (([(p3,p4)])++(at' p1.2 p2))):Int)) (some (List.set (List.set p1.2 (Int.toNat p2) (([(p3,p4)])++(at' p1.2 p2))) (Int.toNat p3) (([(p2,p4)])++(at' (List.set p1.2 (Int.toNat p2) (([(p3,p4)])++(at' p1.2 p2))) p3))))))))))else(ck (0<=p2∧p2<(List.length p1.2:Int)) (ck (0<=p3∧p3<(List.length p1.2:Int)) (ck ((List.length (at' p1.2 p2):Int)+(List.length ([(p3,p4)]):Int)<=1099511627) (ck ((List.length (at' p1.2 p3):Int)+(List.length ([(p2,p4)]):Int)<=1099511627) (ck (Int.toNat p2≠Int.toNat p3) (ck (0<=p2∧p2<(List.length (List.set (List.set p1.2 (Int.toNat p2) ((at' p1.2 p2)++([(p3,p4)]))) (Int.toNat p3) ((at' p1.2 p3)++([(p2,p4)]))):Int)) (ck (0<=p3∧p3<(List.length (List.set (List.set p1.2 (Int.toNat p2) ((at' p1.2 p2)++([(p3,p4)]))) (Int.toNat p3) ((at' p1.2 p3)++([(p2,p4)]))):Int)) (some (List.set (List.set p1.2 (Int.toNat p2) ((at' p1.2 p2)++([(p3,p4)]))) (Int.toNat p3) ((at' p1.2 p3)++([(p2,p4)]))))))))))))
def i_ (fuel:Nat) (p0:Int×List (Int)×List (Int)×List (Int)×Bool×Bool) (p1:List (Int)×(List (List (Int×Int)))) (p2:Int) (p3:Int) (p4:Int):Option ((List (List (Int×Int)))):=
 if p2=p3 then(kH p0 p1 p2 p3 p4 (true))else(Option.bind (lN fuel ((p1.1,p1.2)) p2 p3) fun r86=>(kH p0 p1 p2 p3 p4 (r86)))
theorem Qk:aR Tryz.prog 44:=Tryz.call44
theorem xE (fuel:Nat) {p0:Int×List (Int)×List (Int)×List (Int)×Bool×Bool} {p1:List (Int)×(List (List (Int×Int)))} {p2:Int} {p3:Int} {p4:Int} (v0:Value)  (v1:Value)  (v2:Value)  (v3:Value)  (v4:Value)  (w5:List Value) (r:(List (List (Int×Int)))) (h:i_ fuel p0 p1 p2 p3 p4=some r):
  Cb Tryz.prog 44 #[Value.agg #[vI (p0.1),v0,v1,v2,Value.bool (p0.2.2.2.2.1),Value.bool (p0.2.2.2.2.2)],Value.agg #[v3,v4],vI (p2),vI (p3),vI (p4)] [Ar dJ.raw v4 w5,jG bR w5 p1.2] [Sl bM v0 p0.2.1,Sl bM v1 p0.2.2.1,Sl bM v2 p0.2.2.2.1,Sl bM v3 p1.1] (fun x:List Value=>Value.tuple #[]) (fun x l=>Ar dJ.raw v4 x::jG bR x r::l):=by
 refine Cb.of (vs:=[Value.agg #[vI (p0.1),v0,v1,v2,Value.bool (p0.2.2.2.2.1),Value.bool (p0.2.2.2.2.2)],Value.agg #[v3,v4],vI (p2),vI (p3),vI (p4)]) Tryz.func44 rfl Tryz.ntmps44 rfl fun c=>?_
 unfold i_ at h
 refine sqR<|aG (aM.box (cs:=[vI (p0.1),v0,v1,v2,Value.bool (p0.2.2.2.2.1),Value.bool (p0.2.2.2.2.2)]) rfl rfl) rfl fun b1=>aG (aM.box (cs:=[v3,v4]) rfl rfl) rfl fun b2=>dtN<|aL<|aL<|Ca (B:=Unit) (fun a4=>kH p0 p1 p2 p3 p4 a4=some r) (fun a4 b5=>[(2,vI (p2)),(3,vI (p3)),(4,vI (p4)),(5,vP b1),(6,vP b2),(20,Value.bool (a4))]) (fun a4 b5=>[bO b2 [v3,v4] 28,bO b1 [vI (p0.1),v0,v1,v2,Value.bool (p0.2.2.2.2.1),Value.bool (p0.2.2.2.2.2)] 24,Ar dJ.raw v4 w5,jG bR w5 p1.2]) (fun a4 b5=>[Sl bM v0 p0.2.1,Sl bM v1 p0.2.2.1,Sl bM v2 p0.2.2.2.1,Sl bM v3 p1.1]) ?_ ?_
 ·refine aO<|qkMove rfl<|qkMove rfl<|qkEql rfl<|qkMove rfl ?_
  refine Cy h rfl (fun _ h=>?_) fun _ h=>?_
  ·refine gdSkip rfl<|gdSkip rfl<|gdSkip rfl<|gdSkip rfl<|aB (bW rfl rfl) rfl<|dtN ?_
   exact iJ (true) () h SF rfl
  refine aT rfl (lB 0 rfl rfl rfl rfl) rfl<|gyMove rfl<|gyMove rfl ?_
  have⟨r86,hr87,h⟩:=fE h
  refine qT rfl (aM.callQ VZ (GI fuel v3 v4 (List.zip w5 p1.2) r86 hr87) rfl (aA.cons (aC.fact 3 rfl) (aA.cons (bD (i:=2) (j:=3) rfl rfl bJ) .nil))) rfl fun x88=>aB (cA rfl rfl) rfl<|dtN ?_
  exact iJ (r86) () h SF rfl
 clear h
 intro a4 b5 h
 unfold kH at h
 refine zJ h rfl (fun _ h=>?_) fun _ h=>?_
 ·refine aS<|aJ ?_
  cases h
  exact Bg (w5) rfl rfl .ret (.inl rfl) (aK.ix [2,3] rfl rfl) aA.nil
 refine iV<|sqR<|qkMove rfl<|qkMove rfl ?_
 refine aB (AF (r:=Value.agg #[Value.int .i64 (p3),Value.int .i64 (p4)]) rfl rfl (by intro w;simp[Instr.build,Instr.fill,eN,dU,cY,eO,eP,dV,fS])) rfl ?_
 refine qkMove rfl<|qkMove rfl ?_
 refine aB (AF (r:=Value.agg #[Value.int .i64 (p2),Value.int .i64 (p4)]) rfl rfl (by intro w;simp[Instr.build,Instr.fill,eN,dU,cY,eO,eP,dV,fS])) rfl ?_
 refine aG (aM.alloc (cs:=[vI (0:Int),vI (0:Int)]) rfl rfl) rfl fun b7=>aG (aM.alloc (cs:=[vI (0:Int),vI (0:Int)]) rfl rfl) rfl fun b8=>bI 1 (vs:=[vI (p3),vI (p4)]) rfl rfl rfl rfl rfl rfl<|bI 0 (vs:=[vI (p2),vI (p4)]) rfl rfl rfl rfl rfl rfl<|dtN<|aL<|sqR<|qkFld rfl<|qkLd 3 rfl<|dtN ?_
 refine zJ h rfl (fun _ h=>?_) fun _ h=>?_
 ·refine aL ?_
  refine JR.start [0,1,0,0,8,0,32,0,224,480,1016,2047,4095] 11 mixedOrders (by decide +kernel) ?_
  refine JR.open (by exact rfl) ?_
  refine jkFld rfl<|jkLd 2 rfl<|jkMove rfl<|jkLdA 1 rfl<|JR.loud rfl rfl rfl (cE (e:=bR) ([((p3,p4))]) [(0,Value.agg #[vI (p3),vI (p4)])] rfl rfl rfl rfl (vQ (vI (p3)) (vI (p4))) rfl rfl rfl) rfl (fun u10=>(aF.b rfl (aF.h .nil .nil (aF.h (aK.ix [3] rfl rfl) .nil (aF.h .nil .nil aF.z))))) fun u10=>aN rfl .nil .nil (dD rfl rfl rfl rfl rfl) (aD.h .nil .nil aD.z)<|aN rfl (aK.cons 3 rfl .nil) .nil (dO 0 rfl rfl rfl rfl rfl) (aD.h (aK.ix [2] rfl rfl) .nil aD.z)<|aN rfl .nil .nil (dQ rfl) (aD.h .nil .nil aD.z) ?_
  have⟨j11,h⟩:=aH h
  refine bP (bX 6 rfl) fun hl12=>?_
  refine aN rfl (aK.cons 5 rfl .nil) .nil (fD 0 rfl rfl rfl rfl rfl j11.1 (by have q1:=j11.2;have q2:=hl12;(try simp only[List.length_set]at q1);(try simp only[List.length_set]at q2);(try simp only[List.length_set]);omega)) (aD.h (aK.ix [4] rfl rfl) .nil aD.z) ?_
  refine bP (bX 6 rfl) fun hl13=>aN rfl (aK.cons 5 rfl .nil) .nil (gR 0 rfl rfl hl13 rfl rfl j11) (aD.h (aK.ix [4] rfl rfl) .nil aD.z) ?_
  have⟨j15,h⟩:=aH h
  refine JR.loud rfl rfl rfl (gM 0 bJ rfl rfl rfl (aC.row (j:=6) rfl bJ j11.1 j11.2) rfl rfl rfl rfl j15 rfl) rfl (fun u14=>(aF.b rfl (aF.b rfl (aF.b rfl (aF.b rfl (aF.b rfl (aF.b rfl (aF.h .nil .nil (aF.h (aK.ix [3] rfl rfl) .nil (aF.h .nil .nil aF.z)))))))))) fun u14=>bL 11 rfl rfl ?_
  have⟨j16,h⟩:=aH h
  refine aB (cO rfl rfl (bD (i:=5) (j:=6) rfl rfl bJ) rfl rfl j16) rfl<|bZ (Know.one ((aU (aC.res 0 rfl) bJ))) fun ho17=>jJ (uT (k:=p2) 6 0 rfl rfl rfl j16) ?_
  refine oG 4 5 ⟨j16.1,by first|exact j16.2|simpa using j16.2⟩ rfl rfl rfl rfl rfl (by simp) ho17 rfl ?_
  refine dtN<|aL ?_
  refine JR.start [0,1,0,0,8,0,32,0,224,480,1016,2047,4095] 11 mixedOrders (by decide +kernel) ?_
  refine JR.open (by exact rfl) ?_
  refine jkFld rfl<|jkLd 2 rfl<|jkMove rfl<|jkLdA 0 rfl<|JR.loud rfl rfl rfl (cE (e:=bR) ([((p2,p4))]) [(0,Value.agg #[vI (p2),vI (p4)])] rfl rfl rfl rfl (vQ (vI (p2)) (vI (p4))) rfl rfl rfl) rfl (fun u18=>(aF.b rfl (aF.h .nil .nil (aF.h (aK.ix [3] rfl rfl) .nil (aF.h .nil .nil aF.z))))) fun u18=>aN rfl .nil .nil (dD rfl rfl rfl rfl rfl) (aD.h .nil .nil aD.z)<|aN rfl (aK.cons 3 rfl .nil) .nil (dO 0 rfl rfl rfl rfl rfl) (aD.h (aK.ix [2] rfl rfl) .nil aD.z)<|aN rfl .nil .nil (dQ rfl) (aD.h .nil .nil aD.z) ?_
  have⟨j19,h⟩:=aH h
  refine bP (bX 6 rfl) fun hl20=>?_
  refine aN rfl (aK.cons 5 rfl .nil) .nil (fD 0 rfl rfl rfl rfl rfl j19.1 (by have q1:=j19.2;have q2:=hl20;(try simp only[List.length_set]at q1);(try simp only[List.length_set]at q2);(try simp only[List.length_set]);omega)) (aD.h (aK.ix [4] rfl rfl) .nil aD.z) ?_
  refine bP (bX 6 rfl) fun hl21=>aN rfl (aK.cons 5 rfl .nil) .nil (gR 0 rfl rfl hl21 rfl rfl j19) (aD.h (aK.ix [4] rfl rfl) .nil aD.z) ?_
  have⟨j23,h⟩:=aH h
  refine JR.loud rfl rfl rfl (gM 0 bJ rfl rfl rfl (aC.row (j:=6) rfl bJ j19.1 (by first|exact j19.2|simpa using j19.2)) rfl rfl rfl rfl j23 rfl) rfl (fun u22=>(aF.b rfl (aF.b rfl (aF.b rfl (aF.b rfl (aF.b rfl (aF.b rfl (aF.h .nil .nil (aF.h (aK.ix [3] rfl rfl) .nil (aF.h .nil .nil aF.z)))))))))) fun u22=>?_
  refine bL 11 rfl rfl ?_
  have⟨j24,h⟩:=aH h
  refine aB (cO rfl rfl (bD (i:=5) (j:=6) rfl rfl bJ) rfl rfl j24) rfl<|bZ (Know.one ((aU (aC.res 0 rfl) bJ))) fun ho25=>jJ (uT (k:=p3) 6 0 rfl rfl rfl j24) ?_
  refine oG 4 5 ⟨j24.1,by first|exact j24.2|simpa using j24.2⟩ rfl rfl rfl rfl rfl (by simp) ho25 rfl ?_
  refine dtN<|aS<|aJ ?_
  cases h
  exact Bg (List.set (List.set w5 (Int.toNat p2) u14) (Int.toNat p3) u22) rfl rfl .ret (.inl rfl) (aK.ix [4,5] rfl rfl) aA.nil
 refine iV ?_
 have⟨j26,h⟩:=aH h
 have⟨j29,h⟩:=aH h
 have⟨j34,h⟩:=aH h
 have⟨j37,h⟩:=aH h
 have⟨j38,h⟩:=aH h
 have⟨j39,h⟩:=aH h
 have⟨j43,h⟩:=aH h
 refine Hg [0,1,0,0,8,0,0,64,0,448,960,0,2048,8128,0,16384,0,114688,245760,0,524288,2097088,4194247,8388551,16777215,33554431] 24 [[0,1,2,3,4,5,6,7,8,9,10,11,14,15,16,17,18,19,12,13,20,21,22,23,24,25],[0,1,2,3,4,5,6,7,8,9,10,11,14,15,16,17,18,19,12,20,13,21,22,23,24,25],[0,1,2,3,4,5,6,7,8,9,10,11,14,15,16,17,18,19,20,12,13,21,22,23,24,25]] mixedOrders (by decide +kernel) (by decide +kernel) ?_
 intro o ho
 simp only[List.mem_cons,List.not_mem_nil,or_false]at ho
 rcases ho with rfl|rfl|rfl
 ·refine jkFld rfl<|jkLd 2 rfl<|jkMove rfl<|jkFld rfl<|jkLd 2 rfl<|jkMove rfl<|jkFld rfl<|jkLd 2 rfl<|jkMove rfl<|bP (bX 5 rfl) fun hl46=>?_
  refine aN rfl (aK.cons 4 rfl .nil) .nil (fD 0 rfl rfl rfl rfl rfl j26.1 (by have q1:=j26.2;have q2:=hl46;(try simp only[List.length_set]at q1);(try simp only[List.length_set]at q2);(try simp only[List.length_set]);omega)) aD.z ?_
  refine bP (bX 5 rfl) fun hl47=>aN rfl (aK.cons 4 rfl .nil) .nil (gR 0 rfl rfl hl47 rfl rfl j26) aD.z<|jkLdA 1 rfl<|jkFld rfl<|jkLd 2 rfl<|jkMove rfl<|bP (bX 5 rfl) fun hl48=>?_
  refine aN rfl (aK.cons 4 rfl .nil) .nil (fD 0 rfl rfl rfl rfl rfl j29.1 (by have q1:=j29.2;have q2:=hl48;(try simp only[List.length_set]at q1);(try simp only[List.length_set]at q2);(try simp only[List.length_set]);omega)) aD.z ?_
  refine bP (bX 5 rfl) fun hl49=>aN rfl (aK.cons 4 rfl .nil) .nil (gR 0 rfl rfl hl49 rfl rfl j29) aD.z<|jkLdA 0 rfl<|JR.loud rfl rfl rfl (cE (e:=bR) ([((p3,p4))]) [(0,Value.agg #[vI (p3),vI (p4)])] rfl rfl rfl rfl (vQ (vI (p3)) (vI (p4))) rfl rfl rfl) rfl (fun u50=>(aF.h (aK.ix [1] rfl rfl) .nil (aF.h (aK.ix [5] rfl rfl) .nil (aF.h (aK.ix [5] rfl rfl) .nil (aF.h .nil .nil (aF.h (aK.ix [3] rfl rfl) .nil (aF.h .nil .nil (aF.b rfl (aF.h (aK.ix [5] rfl rfl) .nil (aF.h (aK.ix [5] rfl rfl) .nil (aF.h .nil .nil (aF.h (aK.ix [3] rfl rfl) .nil (aF.h .nil .nil (aF.h .nil .nil (aF.h (aK.ix [3] rfl rfl) .nil (aF.h .nil .nil (aF.h .nil .nil (aF.h (aK.ix [3] rfl rfl) .nil (aF.h .nil .nil aF.z))))))))))))))))))) fun u50=>JR.loud rfl rfl rfl (oW 6 bJ rfl rfl rfl (aU (aC.res 0 rfl) bJ) rfl rfl rfl rfl j26 j34 rfl) rfl (fun u51=>(aF.h (aK.ix [1] rfl rfl) .nil (aF.h (aK.ix [5] rfl rfl) .nil (aF.h (aK.ix [5] rfl rfl) .nil (aF.h .nil .nil (aF.h (aK.ix [3] rfl rfl) .nil (aF.h .nil .nil (aF.b rfl (aF.b rfl (aF.b rfl (aF.b rfl (aF.b rfl (aF.b rfl (aF.h .nil .nil (aF.h (aK.ix [3] rfl rfl) .nil (aF.h .nil .nil (aF.h .nil .nil (aF.h (aK.ix [3] rfl rfl) .nil (aF.h .nil .nil aF.z))))))))))))))))))) fun u51=>JR.loud rfl rfl rfl (cE (e:=bR) ([((p2,p4))]) [(0,Value.agg #[vI (p2),vI (p4)])] rfl rfl rfl rfl (vQ (vI (p2)) (vI (p4))) rfl rfl rfl) rfl (fun u52=>(aF.b rfl (aF.h (aK.ix [6] rfl rfl) .nil (aF.h (aK.ix [6] rfl rfl) .nil (aF.h .nil .nil (aF.h (aK.ix [4] rfl rfl) .nil (aF.h .nil .nil (aF.h (aK.ix [3] rfl rfl) .nil (aF.h (aK.ix [6] rfl rfl) .nil (aF.h (aK.ix [6] rfl rfl) .nil (aF.h .nil .nil (aF.h (aK.ix [4] rfl rfl) .nil (aF.h .nil .nil (aF.h .nil .nil (aF.h (aK.ix [4] rfl rfl) .nil (aF.h .nil .nil (aF.h .nil .nil (aF.h (aK.ix [4] rfl rfl) .nil (aF.h .nil .nil aF.z))))))))))))))))))) fun u52=>JR.loud rfl rfl rfl (vX (j:=p2) 7 bJ rfl rfl rfl (aU (aC.res 0 rfl) bJ) rfl rfl rfl rfl j29 j37 rfl j38) rfl (fun u53=>(aF.b rfl (aF.b rfl (aF.b rfl (aF.b rfl (aF.b rfl (aF.b rfl (aF.b rfl (aF.b rfl (aF.b rfl (aF.b rfl (aF.b rfl (aF.b rfl (aF.h .nil .nil (aF.h (aK.ix [4] rfl rfl) .nil (aF.h .nil .nil (aF.h .nil .nil (aF.h (aK.ix [4] rfl rfl) .nil (aF.h .nil .nil aF.z))))))))))))))))))) fun u53=>bP (bX 7 rfl) fun hl54=>?_
  refine aN rfl (aK.cons 6 rfl .nil) .nil (fD 0 rfl rfl rfl rfl rfl j39.1 (by have q1:=j39.2;have q2:=hl54;(try simp only[List.length_set]at q1);(try simp only[List.length_set]at q2);(try simp only[List.length_set]);omega)) (aD.b rfl (aD.b rfl (aD.b rfl (aD.b rfl aD.z)))) ?_
  refine bP (zD (k:=p2) (j:=p3) 7 rfl (by omega) ⟨j39.1,by first|exact j39.2|simpa using j39.2⟩) fun ho55=>?_
  refine rR rfl rfl rfl (yB 6 7 ⟨j39.1,by first|exact j39.2|simpa using j39.2⟩ rfl rfl rfl rfl (by simp) ho55 rfl) (fun x56=>(aF.b rfl (aF.b rfl (aF.b rfl (aF.b rfl (aF.b rfl (aF.b rfl (aF.b rfl (aF.b rfl (aF.b rfl (aF.b rfl (aF.b rfl (aF.b rfl (aF.b rfl (aF.h .nil .nil (aF.h (aK.ix [4] rfl rfl) .nil (aF.h .nil .nil (aF.b rfl (aF.b rfl (aF.b rfl aF.z)))))))))))))))))))) fun x56=>?_
  refine bL 24 rfl rfl<|bZ (bX 7 rfl) fun hl57=>?_
  refine aB (fD 6 rfl rfl rfl rfl rfl j43.1 (by have q1:=j43.2;have q2:=hl57;(try simp only[List.length_set]at q1);(try simp only[List.length_set]at q2);(try simp only[List.length_set]);omega)) rfl ?_
  refine bZ (xS 7 (k:=p3) rfl ⟨j43.1,by first|exact j43.2|simpa using j43.2⟩) fun ho58=>?_
  refine oG 6 7 ⟨j43.1,by first|exact j43.2|simpa using j43.2⟩ rfl rfl rfl rfl rfl (by simp) ho58 rfl ?_
  refine dY ?_
  cases h
  exact Bg (List.set (List.set w5 (Int.toNat p2) u51) (Int.toNat p3) u53) rfl rfl .normal (.inr rfl) (aK.ix [6,7] rfl rfl) aA.nil
 ·refine jkFld rfl<|jkLd 2 rfl<|jkMove rfl<|jkFld rfl<|jkLd 2 rfl<|jkMove rfl<|jkFld rfl<|jkLd 2 rfl<|jkMove rfl<|bP (bX 5 rfl) fun hl59=>?_
  refine aN rfl (aK.cons 4 rfl .nil) .nil (fD 0 rfl rfl rfl rfl rfl j26.1 (by have q1:=j26.2;have q2:=hl59;(try simp only[List.length_set]at q1);(try simp only[List.length_set]at q2);(try simp only[List.length_set]);omega)) aD.z ?_
  refine bP (bX 5 rfl) fun hl60=>aN rfl (aK.cons 4 rfl .nil) .nil (gR 0 rfl rfl hl60 rfl rfl j26) aD.z<|jkLdA 1 rfl<|jkFld rfl<|jkLd 2 rfl<|jkMove rfl<|bP (bX 5 rfl) fun hl61=>?_
  refine aN rfl (aK.cons 4 rfl .nil) .nil (fD 0 rfl rfl rfl rfl rfl j29.1 (by have q1:=j29.2;have q2:=hl61;(try simp only[List.length_set]at q1);(try simp only[List.length_set]at q2);(try simp only[List.length_set]);omega)) aD.z ?_
  refine bP (bX 5 rfl) fun hl62=>aN rfl (aK.cons 4 rfl .nil) .nil (gR 0 rfl rfl hl62 rfl rfl j29) aD.z<|jkLdA 0 rfl<|JR.loud rfl rfl rfl (cE (e:=bR) ([((p3,p4))]) [(0,Value.agg #[vI (p3),vI (p4)])] rfl rfl rfl rfl (vQ (vI (p3)) (vI (p4))) rfl rfl rfl) rfl (fun u63=>(aF.h (aK.ix [1] rfl rfl) .nil (aF.h (aK.ix [5] rfl rfl) .nil (aF.h (aK.ix [5] rfl rfl) .nil (aF.h .nil .nil (aF.h (aK.ix [3] rfl rfl) .nil (aF.h .nil .nil (aF.b rfl (aF.h (aK.ix [5] rfl rfl) .nil (aF.h (aK.ix [5] rfl rfl) .nil (aF.h .nil .nil (aF.h (aK.ix [3] rfl rfl) .nil (aF.h .nil .nil (aF.h .nil .nil (aF.h (aK.ix [3] rfl rfl) .nil (aF.h .nil .nil (aF.h .nil .nil (aF.h (aK.ix [3] rfl rfl) .nil (aF.h .nil .nil aF.z))))))))))))))))))) fun u63=>JR.loud rfl rfl rfl (cE (e:=bR) ([((p2,p4))]) [(0,Value.agg #[vI (p2),vI (p4)])] rfl rfl rfl rfl (vQ (vI (p2)) (vI (p4))) rfl rfl rfl) rfl (fun u64=>(aF.b rfl (aF.h (aK.ix [6] rfl rfl) .nil (aF.h (aK.ix [6] rfl rfl) .nil (aF.h .nil .nil (aF.h (aK.ix [4] rfl rfl) .nil (aF.h .nil .nil (aF.h (aK.ix [3] rfl rfl) .nil (aF.h (aK.ix [6] rfl rfl) .nil (aF.h (aK.ix [6] rfl rfl) .nil (aF.h .nil .nil (aF.h (aK.ix [4] rfl rfl) .nil (aF.h .nil .nil (aF.h .nil .nil (aF.h (aK.ix [4] rfl rfl) .nil (aF.h .nil .nil (aF.h .nil .nil (aF.h (aK.ix [4] rfl rfl) .nil (aF.h .nil .nil aF.z))))))))))))))))))) fun u64=>JR.loud rfl rfl rfl (oW 7 bJ rfl rfl rfl (aU (aC.res 1 rfl) bJ) rfl rfl rfl rfl j26 j34 rfl) rfl (fun u65=>(aF.h (aK.ix [2] rfl rfl) .nil (aF.h (aK.ix [6] rfl rfl) .nil (aF.h (aK.ix [6] rfl rfl) .nil (aF.h .nil .nil (aF.h (aK.ix [4] rfl rfl) .nil (aF.h .nil .nil (aF.b rfl (aF.b rfl (aF.b rfl (aF.b rfl (aF.b rfl (aF.b rfl (aF.h .nil .nil (aF.h (aK.ix [4] rfl rfl) .nil (aF.h .nil .nil (aF.h .nil .nil (aF.h (aK.ix [4] rfl rfl) .nil (aF.h .nil .nil aF.z))))))))))))))))))) fun u65=>JR.loud rfl rfl rfl (vX (j:=p2) 7 bJ rfl rfl rfl (aU (aC.res 0 rfl) bJ) rfl rfl rfl rfl j29 j37 rfl j38) rfl (fun u66=>(aF.b rfl (aF.b rfl (aF.b rfl (aF.b rfl (aF.b rfl (aF.b rfl (aF.b rfl (aF.b rfl (aF.b rfl (aF.b rfl (aF.b rfl (aF.b rfl (aF.h .nil .nil (aF.h (aK.ix [4] rfl rfl) .nil (aF.h .nil .nil (aF.h .nil .nil (aF.h (aK.ix [4] rfl rfl) .nil (aF.h .nil .nil aF.z))))))))))))))))))) fun u66=>bP (bX 7 rfl) fun hl67=>?_
  refine aN rfl (aK.cons 6 rfl .nil) .nil (fD 0 rfl rfl rfl rfl rfl j39.1 (by have q1:=j39.2;have q2:=hl67;(try simp only[List.length_set]at q1);(try simp only[List.length_set]at q2);(try simp only[List.length_set]);omega)) (aD.b rfl (aD.b rfl (aD.b rfl (aD.b rfl aD.z)))) ?_
  refine bP (zD (k:=p2) (j:=p3) 7 rfl (by omega) ⟨j39.1,by first|exact j39.2|simpa using j39.2⟩) fun ho68=>?_
  refine rR rfl rfl rfl (yB 6 7 ⟨j39.1,by first|exact j39.2|simpa using j39.2⟩ rfl rfl rfl rfl (by simp) ho68 rfl) (fun x69=>(aF.b rfl (aF.b rfl (aF.b rfl (aF.b rfl (aF.b rfl (aF.b rfl (aF.b rfl (aF.b rfl (aF.b rfl (aF.b rfl (aF.b rfl (aF.b rfl (aF.b rfl (aF.h .nil .nil (aF.h (aK.ix [4] rfl rfl) .nil (aF.h .nil .nil (aF.b rfl (aF.b rfl (aF.b rfl aF.z)))))))))))))))))))) fun x69=>?_
  refine bL 24 rfl rfl<|bZ (bX 7 rfl) fun hl70=>?_
  refine aB (fD 6 rfl rfl rfl rfl rfl j43.1 (by have q1:=j43.2;have q2:=hl70;(try simp only[List.length_set]at q1);(try simp only[List.length_set]at q2);(try simp only[List.length_set]);omega)) rfl ?_
  refine bZ (xS 7 (k:=p3) rfl ⟨j43.1,by first|exact j43.2|simpa using j43.2⟩) fun ho71=>?_
  refine oG 6 7 ⟨j43.1,by first|exact j43.2|simpa using j43.2⟩ rfl rfl rfl rfl rfl (by simp) ho71 rfl ?_
  refine dY ?_
  cases h
  exact Bg (List.set (List.set w5 (Int.toNat p2) u65) (Int.toNat p3) u66) rfl rfl .normal (.inr rfl) (aK.ix [6,7] rfl rfl) aA.nil
 refine jkFld rfl<|jkLd 2 rfl<|jkMove rfl<|jkFld rfl<|jkLd 2 rfl<|jkMove rfl<|jkFld rfl<|jkLd 2 rfl<|jkMove rfl<|bP (bX 5 rfl) fun hl72=>?_
 refine aN rfl (aK.cons 4 rfl .nil) .nil (fD 0 rfl rfl rfl rfl rfl j26.1 (by have q1:=j26.2;have q2:=hl72;(try simp only[List.length_set]at q1);(try simp only[List.length_set]at q2);(try simp only[List.length_set]);omega)) aD.z ?_
 refine bP (bX 5 rfl) fun hl73=>aN rfl (aK.cons 4 rfl .nil) .nil (gR 0 rfl rfl hl73 rfl rfl j26) aD.z<|jkLdA 1 rfl<|jkFld rfl<|jkLd 2 rfl<|jkMove rfl<|bP (bX 5 rfl) fun hl74=>?_
 refine aN rfl (aK.cons 4 rfl .nil) .nil (fD 0 rfl rfl rfl rfl rfl j29.1 (by have q1:=j29.2;have q2:=hl74;(try simp only[List.length_set]at q1);(try simp only[List.length_set]at q2);(try simp only[List.length_set]);omega)) aD.z ?_
 refine bP (bX 5 rfl) fun hl75=>aN rfl (aK.cons 4 rfl .nil) .nil (gR 0 rfl rfl hl75 rfl rfl j29) aD.z<|jkLdA 0 rfl<|JR.loud rfl rfl rfl (cE (e:=bR) ([((p2,p4))]) [(0,Value.agg #[vI (p2),vI (p4)])] rfl rfl rfl rfl (vQ (vI (p2)) (vI (p4))) rfl rfl rfl) rfl (fun u76=>(aF.b rfl (aF.h (aK.ix [5] rfl rfl) .nil (aF.h (aK.ix [5] rfl rfl) .nil (aF.h .nil .nil (aF.h (aK.ix [3] rfl rfl) .nil (aF.h .nil .nil (aF.h (aK.ix [2] rfl rfl) .nil (aF.h (aK.ix [5] rfl rfl) .nil (aF.h (aK.ix [5] rfl rfl) .nil (aF.h .nil .nil (aF.h (aK.ix [3] rfl rfl) .nil (aF.h .nil .nil (aF.h .nil .nil (aF.h (aK.ix [3] rfl rfl) .nil (aF.h .nil .nil (aF.h .nil .nil (aF.h (aK.ix [3] rfl rfl) .nil (aF.h .nil .nil aF.z))))))))))))))))))) fun u76=>JR.loud rfl rfl rfl (cE (e:=bR) ([((p3,p4))]) [(0,Value.agg #[vI (p3),vI (p4)])] rfl rfl rfl rfl (vQ (vI (p3)) (vI (p4))) rfl rfl rfl) rfl (fun u77=>(aF.h (aK.ix [2] rfl rfl) .nil (aF.h (aK.ix [6] rfl rfl) .nil (aF.h (aK.ix [6] rfl rfl) .nil (aF.h .nil .nil (aF.h (aK.ix [4] rfl rfl) .nil (aF.h .nil .nil (aF.b rfl (aF.h (aK.ix [6] rfl rfl) .nil (aF.h (aK.ix [6] rfl rfl) .nil (aF.h .nil .nil (aF.h (aK.ix [4] rfl rfl) .nil (aF.h .nil .nil (aF.h .nil .nil (aF.h (aK.ix [4] rfl rfl) .nil (aF.h .nil .nil (aF.h .nil .nil (aF.h (aK.ix [4] rfl rfl) .nil (aF.h .nil .nil aF.z))))))))))))))))))) fun u77=>JR.loud rfl rfl rfl (oW 7 bJ rfl rfl rfl (aU (aC.res 0 rfl) bJ) rfl rfl rfl rfl j26 j34 rfl) rfl (fun u78=>(aF.h (aK.ix [2] rfl rfl) .nil (aF.h (aK.ix [6] rfl rfl) .nil (aF.h (aK.ix [6] rfl rfl) .nil (aF.h .nil .nil (aF.h (aK.ix [4] rfl rfl) .nil (aF.h .nil .nil (aF.b rfl (aF.b rfl (aF.b rfl (aF.b rfl (aF.b rfl (aF.b rfl (aF.h .nil .nil (aF.h (aK.ix [4] rfl rfl) .nil (aF.h .nil .nil (aF.h .nil .nil (aF.h (aK.ix [4] rfl rfl) .nil (aF.h .nil .nil aF.z))))))))))))))))))) fun u78=>JR.loud rfl rfl rfl (vX (j:=p2) 7 bJ rfl rfl rfl (aU (aC.res 1 rfl) bJ) rfl rfl rfl rfl j29 j37 rfl j38) rfl (fun u79=>(aF.b rfl (aF.b rfl (aF.b rfl (aF.b rfl (aF.b rfl (aF.b rfl (aF.b rfl (aF.b rfl (aF.b rfl (aF.b rfl (aF.b rfl (aF.b rfl (aF.h .nil .nil (aF.h (aK.ix [4] rfl rfl) .nil (aF.h .nil .nil (aF.h .nil .nil (aF.h (aK.ix [4] rfl rfl) .nil (aF.h .nil .nil aF.z))))))))))))))))))) fun u79=>bP (bX 7 rfl) fun hl80=>?_
 refine aN rfl (aK.cons 6 rfl .nil) .nil (fD 0 rfl rfl rfl rfl rfl j39.1 (by have q1:=j39.2;have q2:=hl80;(try simp only[List.length_set]at q1);(try simp only[List.length_set]at q2);(try simp only[List.length_set]);omega)) (aD.b rfl (aD.b rfl (aD.b rfl (aD.b rfl aD.z)))) ?_
 refine bP (zD (k:=p2) (j:=p3) 7 rfl (by omega) ⟨j39.1,by first|exact j39.2|simpa using j39.2⟩) fun ho81=>?_
 refine rR rfl rfl rfl (yB 6 7 ⟨j39.1,by first|exact j39.2|simpa using j39.2⟩ rfl rfl rfl rfl (by simp) ho81 rfl) (fun x82=>(aF.b rfl (aF.b rfl (aF.b rfl (aF.b rfl (aF.b rfl (aF.b rfl (aF.b rfl (aF.b rfl (aF.b rfl (aF.b rfl (aF.b rfl (aF.b rfl (aF.b rfl (aF.h .nil .nil (aF.h (aK.ix [4] rfl rfl) .nil (aF.h .nil .nil (aF.b rfl (aF.b rfl (aF.b rfl aF.z)))))))))))))))))))) fun x82=>?_
 refine bL 24 rfl rfl<|bZ (bX 7 rfl) fun hl83=>?_
 refine aB (fD 6 rfl rfl rfl rfl rfl j43.1 (by have q1:=j43.2;have q2:=hl83;(try simp only[List.length_set]at q1);(try simp only[List.length_set]at q2);(try simp only[List.length_set]);omega)) rfl ?_
 refine bZ (xS 7 (k:=p3) rfl ⟨j43.1,by first|exact j43.2|simpa using j43.2⟩) fun ho84=>?_
 refine oG 6 7 ⟨j43.1,by first|exact j43.2|simpa using j43.2⟩ rfl rfl rfl rfl rfl (by simp) ho84 rfl ?_
 refine dY ?_
 cases h
 exact Bg (List.set (List.set w5 (Int.toNat p2) u78) (Int.toNat p3) u79) rfl rfl .normal (.inr rfl) (aK.ix [6,7] rfl rfl) aA.nil
end Go.Proofs.YtigggfnchamobaaGreatDoor
end
section
namespace Go.Proofs.YtigggfnchamobaaGreatDoor
open Go.Sx
def mZ (r3:(List (Int)×(List (List (Int×Int))))) (a11:(List (List (Int×Int)))):Option ((List (Int)×(List (List (Int×Int))))):=
 some ((r3.1,a11))
def m_ (fuel:Nat) (p0:Int×List (Int)×List (Int)×List (Int)×Bool×Bool) (r3:(List (Int)×(List (List (Int×Int))))) (a19:Int×(List (List (Int×Int)))) (ag18:(Int×(List (List (Int×Int))))->Option ((List (Int)×(List (List (Int×Int)))))):Option ((List (Int)×(List (List (Int×Int))))):=
 if a19.1<(List.length a19.2:Int)then(Option.bind (oT fuel p0.2.1 (wI .i64 (a19.1 - (1:Int)))) fun r23=>(Option.bind (eV fuel r23 a19.1) fun r26=>(Option.bind (oT fuel p0.2.2.1 (wI .i64 (a19.1 - (1:Int)))) fun r29=>(Option.bind (eV fuel r29 (15:Int)) fun r32=>(Option.bind (i_ fuel ((p0.1,p0.2.1,p0.2.2.1,p0.2.2.2.1,p0.2.2.2.2.1,p0.2.2.2.2.2)) ((r3.1,a19.2)) r26 a19.1 (wI .i64 ((1:Int)+r32))) fun r35=>(ag18 ((wI .i64 (a19.1+(1:Int))),r35)))))))else(mZ r3 (a19.2))
def iZ (fuel:Nat) (p0:Int×List (Int)×List (Int)×List (Int)×Bool×Bool) (p1:Int):Option ((List (Int)×(List (List (Int×Int))))):=
 Option.bind (iI fuel ((p0.1,p0.2.1,p0.2.2.1,p0.2.2.2.1,p0.2.2.2.2.1,p0.2.2.2.2.2)) p1) fun r3=>(bG (m_ fuel p0 r3) fuel ((1:Int),r3.2))
theorem Qh:aR Tryz.prog 27:=Tryz.call27
theorem xD (fuel:Nat) {p0:Int×List (Int)×List (Int)×List (Int)×Bool×Bool} {p1:Int} (v0:Value)  (v1:Value)  (v2:Value) (r:(List (Int)×(List (List (Int×Int))))) (h:iZ fuel p0 p1=some r):
  aV Tryz.prog 27 #[Value.agg #[vI (p0.1),v0,v1,v2,Value.bool (p0.2.2.2.2.1),Value.bool (p0.2.2.2.2.2)],vI (p1)] [Sl bM v0 p0.2.1,Sl bM v1 p0.2.2.1,Sl bM v2 p0.2.2.2.1] (fun x:Value×Value×List Value=>Value.agg #[x.1,x.2.1]) (fun x l=>Ar bY x.1 r.1::Ar dJ.raw x.2.1 x.2.2::jG bR x.2.2 r.2::l) (fun _ l=>l):=by
 refine aV.of Tryz.func27 rfl Tryz.ntmps27 rfl fun c=>?_
 unfold iZ at h
 refine sqR<|aG (aM.box (cs:=[vI (p0.1),v0,v1,v2,Value.bool (p0.2.2.2.2.1),Value.bool (p0.2.2.2.2.2)]) rfl rfl) rfl fun b1=>aG (aM.alloc (cs:=[Value.slice none 0 0,Value.slice none 0 0]) rfl rfl) rfl fun b2=>dtN<|sqR<|qkLdA 1 rfl<|qkMove rfl ?_
 have⟨r3,w4,h⟩:=fE h
 refine aG (aM.callQ Qi (wD fuel v0 v1 v2 r3 w4) rfl (aA.cons (aC.fact 0 rfl) (aA.cons (aC.fact 1 rfl) (aA.cons (aC.fact 2 rfl) .nil)))) rfl fun x5=>aG (aM.alloc (cs:=[Value.slice none 0 0,Value.slice none 0 0]) rfl rfl) rfl fun b6=>bZ (Know.one ((aU (aC.res 1 rfl) cI))) fun ho7=>bZ (Know.one (aC.sl (bD (i:=2) (j:=3) rfl rfl bJ))) fun ho8=>bI 0 (vs:=[x5.1,x5.2.1]) rfl rfl (cR ho7 (cR ho8 rfl)) rfl rfl rfl<|dtN<|aL<|midL (B:=List Value) (fun a11=>mZ r3 a11=some r) (fun a11 b12=>[(4,vP b2),(5,vP b6)]) (fun a11 b12=>[bO b6 [x5.1,x5.2.1] 28,Ar bY x5.1 r3.1,Ar dJ.raw x5.2.1 b12,jG bR b12 a11,bO b2 [Value.slice none 0 0,Value.slice none 0 0] 28]) ?_ ?_
 ·refine sqR<|qkAsg rfl<|dtN<|aQ<|loopL (B:=List Value) (m_ fuel p0 r3) (fun a19 b20=>[(2,vP b1),(4,vP b2),(5,vP b6),(6,vI (a19.1))]) (fun a19 b20=>[bO b6 [x5.1,x5.2.1] 28,Ar bY x5.1 r3.1,Ar dJ.raw x5.2.1 b20,jG bR b20 a19.2,bO b2 [Value.slice none 0 0,Value.slice none 0 0] 28,bO b1 [vI (p0.1),v0,v1,v2,Value.bool (p0.2.2.2.2.1),Value.bool (p0.2.2.2.2.2)] 24]) ((1:Int),r3.2) (x5.2.2) h SF (aK.refl _) ?_
  clear h
  intro k21 a19 b20 h
  unfold m_ at h
  refine aL<|sqR<|qkMove rfl<|qkFld rfl<|qkLd 0 rfl<|aB (iX rfl (bD (i:=2) (j:=3) rfl rfl bJ) rfl) rfl<|qkLss rfl<|dtN ?_
  refine eL h rfl (fun h=>?_) fun h=>?_
  ·refine iV<|aL<|aQ ?_
   refine JR.start [0,0,0,4,0,16,60,0,252,0,0,1024,0,4096,15868,32252,65020,131071] 17 mixedOrders (by decide +kernel) ?_
   refine JR.open (by exact rfl) ?_
   refine jkLdA 5 rfl<|jkLdA 0 rfl<|jkFld rfl<|jkLd 5 rfl<|jkMove rfl<|aN rfl .nil .nil (qE rfl rfl) aD.z ?_
   have⟨r23,w24,h⟩:=fE h
   refine JR.loud rfl rfl rfl (aM.callQ FD (xI fuel v0 r23 w24) rfl (aA.cons (aC.fact 0 rfl) .nil)) rfl (fun x25=>(aF.b rfl (aF.b rfl (aF.b rfl (aF.b rfl (aF.h (aK.ix [0] rfl rfl) .nil (aF.h (aK.ix [5] rfl rfl) .nil aF.z))))))) fun x25=>aN rfl .nil .nil (dQ rfl) (aD.h .nil .nil aD.z) ?_
   have⟨r26,w27,h⟩:=fE h
   refine JR.loud rfl rfl rfl (aM.callQ AJ (jU fuel  r26 w27) rfl .nil) rfl (fun x28=>(aF.b rfl (aF.b rfl (aF.b rfl (aF.b rfl (aF.b rfl (aF.h (aK.ix [0] rfl rfl) .nil (aF.h (aK.ix [5] rfl rfl) .nil aF.z)))))))) fun x28=>aN rfl .nil .nil (dQ rfl) (aD.h .nil .nil (aD.h .nil .nil aD.z))<|aN rfl .nil .nil (dD rfl rfl rfl rfl rfl) (aD.h .nil .nil (aD.h .nil .nil aD.z))<|aN rfl (aK.cons 5 rfl .nil) .nil (dO 0 rfl rfl rfl rfl rfl) (aD.h (aK.ix [5] rfl rfl) .nil (aD.h (aK.ix [5] rfl rfl) .nil aD.z))<|aN rfl .nil .nil (dQ rfl) (aD.h .nil .nil (aD.h .nil .nil aD.z))<|aN rfl .nil .nil (qE rfl rfl) (aD.h .nil .nil (aD.h .nil .nil aD.z)) ?_
   have⟨r29,w30,h⟩:=fE h
   refine JR.loud rfl rfl rfl (aM.callQ FD (xI fuel v1 r29 w30) rfl (aA.cons (aC.fact 1 rfl) .nil)) rfl (fun x31=>(aF.b rfl (aF.b rfl (aF.b rfl (aF.b rfl (aF.h .nil .nil (aF.b rfl (aF.b rfl (aF.b rfl (aF.b rfl (aF.b rfl (aF.h (aK.ix [0] rfl rfl) .nil (aF.h (aK.ix [5] rfl rfl) .nil aF.z))))))))))))) fun x31=>?_
   have⟨r32,w33,h⟩:=fE h
   refine JR.loud rfl rfl rfl (aM.callQ AJ (jU fuel  r32 w33) rfl .nil) rfl (fun x34=>(aF.b rfl (aF.b rfl (aF.b rfl (aF.b rfl (aF.h .nil .nil (aF.b rfl (aF.b rfl (aF.b rfl (aF.b rfl (aF.b rfl (aF.h (aK.ix [0] rfl rfl) .nil (aF.h (aK.ix [5] rfl rfl) .nil aF.z))))))))))))) fun x34=>aN rfl .nil .nil (pS rfl rfl) (aD.b rfl (aD.b rfl (aD.b rfl (aD.b rfl aD.z))))<|bL 17 rfl rfl ?_
   have⟨r35,w36,h⟩:=fE h
   refine aG (zE (Min:=[Ar dJ.raw x5.2.1 b20,jG bR b20 a19.2]) (Mr:=[bO b6 [x5.1,x5.2.1] 28,Ar bY x5.1 r3.1,bO b2 [Value.slice none 0 0,Value.slice none 0 0] 28,bO b1 [vI (p0.1),v0,v1,v2,Value.bool (p0.2.2.2.2.1),Value.bool (p0.2.2.2.2.2)] 24]) Qk (xE fuel v0 v1 v2 x5.1 x5.2.1 b20 r35 w36) rfl (aK.ix [2,3,0,1,4,5] rfl rfl) (aA.cons (aC.fact 0 rfl) (aA.cons (aC.fact 1 rfl) (aA.cons (aC.fact 2 rfl) (aA.cons (aU (aC.res 1 rfl) cI) .nil)))) (fun _ _=>rfl)) rfl fun x37=>dY<|inT<|aO<|qkMove rfl<|qkAdd rfl<|qkAsg rfl<|dtN ?_
   exact nN ((wI .i64 (a19.1+(1:Int))),r35) (x37) h SF (aK.ix [2,3,0,1,4,5] rfl rfl) (aA.refl _ _)
  refine xO ?_
  exact cF (a19.2) (b20) h SF (aK.ix [0,1,2,3,4] rfl rfl) (aA.refl _ _)
 clear h
 intro a11 b12 h
 unfold mZ at h
 refine sqR<|qkLdA 0 rfl<|bZ (Know.one ((aU (aC.res 1 rfl) cI))) fun ho13=>bZ (Know.one (aC.sl (bD (i:=2) (j:=3) rfl rfl bJ))) fun ho14=>bI 4 (vs:=[x5.1,x5.2.1]) rfl rfl (cR ho13 (cR ho14 rfl)) rfl rfl rfl<|dtN<|aS ?_
 cases h
 exact fQ (x5.1,x5.2.1,b12) rfl rfl (RV.cell 4 rfl rfl rfl rfl) (aK.ix [1,2,3] rfl rfl) aA.nil
end Go.Proofs.YtigggfnchamobaaGreatDoor
end
section
namespace Go.Proofs.YtigggfnchamobaaGreatDoor
open Go.Sx
def mH  (a3:Unit):Option (Bool):=
 some (true)
def mI (a7:Int) (ag6:(Int)->Option (Bool)) (a11:Unit):Option (Bool):=
 ag6 (wI .i64 (a7+(1:Int)))
def jM (a17:Int) (ag16:(Int)->Option (Bool)) (a28:Bool):Option (Bool):=
 if a28=true then(some (false))else(ag16 (wI .i64 (a17+(1:Int))))
def gV (p1:List (List (Int))) (a7:Int) (a17:Int) (ag16:(Int)->Option (Bool)) (a25:Int×Int):Option (Bool):=
 if(at' (at' p1 a7) a17)<a25.1 then(jM a17 ag16 (true))else(jM a17 ag16 (decide (a25.2<(at' (at' p1 a7) a17))))
def dA (p0:List (Int)×(List (List (Int×Int)))) (p1:List (List (Int))) (p2:List (Int)) (a7:Int) (ag6:(Int)->Option (Bool)) (a17:Int) (ag16:(Int)->Option (Bool)):Option (Bool):=
 if a17<(List.length (at' p1 a7):Int)then(ck (0<=a17∧a17<(List.length (at' p1 a7):Int)) (ck (0<=a17∧a17<(List.length p2:Int)) (if(at' p2 a17)=(-1:Int)then(ck (0<=a7∧a7<(List.length p0.2:Int)) (gV p1 a7 a17 ag16 ((-1:Int),(wI .i64 ((List.length (at' p0.2 a7):Int) - (1:Int))))))else(gV p1 a7 a17 ag16 ((0:Int),(at' p2 a17))))))else(mI a7 ag6 (()))
def cQ (fuel:Nat) (p0:List (Int)×(List (List (Int×Int)))) (p1:List (List (Int))) (p2:List (Int)) (a7:Int) (ag6:(Int)->Option (Bool)):Option (Bool):=
 if a7<(List.length p1:Int)then(ck (0<=a7∧a7<(List.length p1:Int)) (if(List.length (at' p1 a7):Int)≠(List.length p2:Int)then(some (false))else(bG (dA p0 p1 p2 a7 ag6) fuel (0:Int))))else(mH  (()))
def eX (fuel:Nat) (p0:List (Int)×(List (List (Int×Int)))) (p1:List (List (Int))) (p2:List (Int)):Option (Bool):=
 if(List.length p1:Int)≠(List.length p0.1:Int)then(some (false))else(bG (cQ fuel p0 p1 p2) fuel (0:Int))
theorem LE:aR Tryz.prog 34:=Tryz.call34
theorem rQ (fuel:Nat) {p0:List (Int)×(List (List (Int×Int)))} {p1:List (List (Int))} {p2:List (Int)} (v0:Value)  (v1:Value)  (z2:List (Value×List (Int×Int)))  (v3:Value)  (z4:List (Value×List (Int)))  (v5:Value) (r:Bool) (h:eX fuel p0 p1 p2=some r):
  aV Tryz.prog 34 #[Value.agg #[v0,v1],v3,v5] [Sl bM v0 p0.1,S2 aZ v1 z2 p0.2,S2 bM v3 z4 p1,Sl bM v5 p2] (fun x:Unit=>Value.bool (r)) (fun x l=>l) (fun _ l=>l):=by
 refine aV.of Tryz.func34 rfl Tryz.ntmps34 rfl fun c=>?_
 unfold eX at h
 refine sqR<|aG (aM.box (cs:=[v0,v1]) rfl rfl) rfl fun b1=>qkAsg rfl<|dtN<|aL<|sqR<|qkMove rfl<|aB (iX rfl (aC.fact 2 rfl) rfl) rfl<|qkFld rfl<|qkLd 0 rfl<|aB (b_ rfl (aC.fact 0 rfl) rfl) rfl<|aB (kR rfl rfl) rfl<|dtN ?_
 refine eL h rfl (fun h=>?_) fun h=>?_
 ·refine sqR<|qkAsg rfl<|dtN<|aS<|aJ ?_
  cases h
  exact vJ rfl
 refine iV<|aL<|midU (fun a3=>mH  a3=some r) (fun a3 b4=>[]) (fun a3 b4=>[]) ?_ ?_
 ·refine sqR<|qkMove rfl<|aB (iX rfl (aC.fact 2 rfl) rfl) rfl<|qkMove rfl<|dtN<|aQ<|loopL (cQ fuel p0 p1 p2) (fun a7 b8=>[(2,v5),(3,vP b1),(19,v3),(20,vI (List.length p1:Int)),(21,vI (a7))]) (fun a7 b8=>[bO b1 [v0,v1] 28]) (0:Int) () h SF (aK.refl _) ?_
  clear h
  intro k9 a7 b8 h
  unfold cQ at h
  refine sqR<|qkLss rfl<|dtN<|aL ?_
  refine eL h rfl (fun h=>?_) fun h=>?_
  ·refine iV<|aL<|midU (fun a11=>mI a7 (bG (cQ fuel p0 p1 p2) k9) a11=some r) (fun a11 b12=>[(2,v5),(3,vP b1),(19,v3),(20,vI (List.length p1:Int)),(21,vI (a7))]) (fun a11 b12=>[bO b1 [v0,v1] 28]) ?_ ?_
   ·refine aQ<|sqR<|qkMove rfl ?_
    have⟨j13,h⟩:=aH h
    refine aB (cO rfl rfl (aC.fact 2 rfl) rfl rfl j13) rfl<|aB (cM rfl (aC.fact 2 rfl) rfl rfl j13) rfl<|qkAsg rfl<|qkAsg rfl<|dtN<|aL<|sqR<|qkMove rfl<|aB (b_ rfl (aC.el (aC.fact 2 rfl) j13.1 j13.2) rfl) rfl<|qkMove rfl<|aB (b_ rfl (aC.fact 3 rfl) rfl) rfl<|aB (kR rfl rfl) rfl<|dtN ?_
    refine eL h rfl (fun h=>?_) fun h=>?_
    ·refine sqR<|qkAsg rfl<|dtN<|aS<|aJ<|bK<|aJ<|aJ<|bK<|aJ ?_
     cases h
     exact vJ rfl
    refine iV<|sqR<|qkMove rfl<|aB (b_ rfl (aC.el (aC.fact 2 rfl) j13.1 j13.2) rfl) rfl<|qkMove rfl<|dtN<|aQ<|loopL (dA p0 p1 p2 a7 (bG (cQ fuel p0 p1 p2) k9)) (fun a17 b18=>[(2,v5),(3,vP b1),(7,vI (a7)),(19,v3),(20,vI (List.length p1:Int)),(21,vI (a7)),(31,(at' z4 a7).1),(32,vI (List.length (at' p1 a7):Int)),(33,vI (a17))]) (fun a17 b18=>[bO b1 [v0,v1] 28]) (0:Int) () h SF (aK.refl _) ?_
    clear h
    intro k19 a17 b18 h
    unfold dA at h
    refine sqR<|qkLss rfl<|dtN<|aL ?_
    refine eL h rfl (fun h=>?_) fun h=>?_
    ·refine iV<|aL<|aQ<|sqR<|qkMove rfl ?_
     have⟨j21,h⟩:=aH h
     refine aB (a_ rfl rfl (aC.el (aC.fact 2 rfl) j13.1 j13.2) rfl rfl j21) rfl<|aB (bS rfl (aC.el (aC.fact 2 rfl) j13.1 j13.2) rfl rfl rfl dB j21) rfl<|qkAsg rfl<|qkAsg rfl<|dtN<|aL ?_
     refine JR.start [0,0,3,7,0,31] 5 mixedOrders (by decide +kernel) ?_
     refine JR.open (by exact rfl) ?_
     refine jkMove rfl<|jkMove rfl ?_
     have⟨j22,h⟩:=aH h
     refine aN rfl .nil (cV.cons (List.mem_of_getElem? (i:=3) rfl) .nil) (a_ rfl rfl (aC.fact 0 rfl) rfl rfl j22) aD.z<|aN rfl .nil (cV.cons (List.mem_of_getElem? (i:=3) rfl) .nil) (bS rfl (aC.fact 0 rfl) rfl rfl rfl dB j22) aD.z<|aN rfl .nil .nil (tS rfl) aD.z<|bL 5 rfl rfl<|qkAsg rfl<|dtN<|aL<|midU (fun a25=>gV p1 a7 a17 (bG (dA p0 p1 p2 a7 (bG (cQ fuel p0 p1 p2) k9)) k19) a25=some r) (fun a25 b26=>[(2,v5),(3,vP b1),(7,vI (a7)),(10,vI (at' (at' p1 a7) a17)),(11,vI (a25.1)),(12,vI (a25.2)),(19,v3),(20,vI (List.length p1:Int)),(21,vI (a7)),(31,(at' z4 a7).1),(32,vI (List.length (at' p1 a7):Int)),(33,vI (a17))]) (fun a25 b26=>[bO b1 [v0,v1] 28]) ?_ ?_
     ·refine sqR<|qkMove rfl<|qkEql rfl<|dtN ?_
      refine eL h rfl (fun h=>?_) fun h=>?_
      ·refine JR.start [0,1,0,7,15,31,63,0,255] 8 mixedOrders (by decide +kernel) ?_
       refine JR.open (by exact rfl) ?_
       refine jkFld rfl<|jkLd 0 rfl<|jkMove rfl ?_
       have⟨j33,h⟩:=aH h
       refine aN rfl .nil (cV.cons (List.mem_of_getElem? (i:=1) rfl) .nil) (cO rfl rfl (aC.fact 0 rfl) rfl rfl j33) aD.z<|aN rfl .nil (cV.cons (List.mem_of_getElem? (i:=1) rfl) .nil) (cM rfl (aC.fact 0 rfl) rfl rfl j33) aD.z<|aN rfl .nil (cV.cons (List.mem_of_getElem? (i:=1) rfl) .nil) (b_ rfl (aC.el (aC.fact 0 rfl) j33.1 j33.2) rfl) aD.z<|aN rfl .nil .nil (qE rfl rfl) aD.z<|aN rfl .nil .nil (tS rfl) aD.z<|bL 8 rfl rfl<|qkAsg rfl<|dtN ?_
       exact iJ ((-1:Int),(wI .i64 ((List.length (at' p0.2 a7):Int) - (1:Int)))) () h SF rfl
      refine iV ?_
      exact iJ ((0:Int),(at' p2 a17)) () h SF rfl
     clear h
     intro a25 b26 h
     unfold gV at h
     refine aL<|midU (fun a28=>jM a17 (bG (dA p0 p1 p2 a7 (bG (cQ fuel p0 p1 p2) k9)) k19) a28=some r) (fun a28 b29=>[(2,v5),(3,vP b1),(7,vI (a7)),(19,v3),(20,vI (List.length p1:Int)),(21,vI (a7)),(31,(at' z4 a7).1),(32,vI (List.length (at' p1 a7):Int)),(33,vI (a17)),(58,Value.bool (a28))]) (fun a28 b29=>[bO b1 [v0,v1] 28]) ?_ ?_
     ·refine aO<|qkMove rfl<|qkMove rfl<|qkLss rfl<|qkMove rfl ?_
      refine Cy h rfl (fun _ h=>?_) fun _ h=>?_
      ·refine gdSkip rfl<|gdSkip rfl<|gdSkip rfl<|aB (bW rfl rfl) rfl<|dtN ?_
       exact iJ (true) () h SF rfl
      refine gyMove rfl<|gyMove rfl<|aT rfl (tT rfl rfl) rfl<|aB (cA rfl rfl) rfl<|dtN ?_
      exact iJ (decide (a25.2<(at' (at' p1 a7) a17))) () h SF rfl
     clear h
     intro a28 b29 h
     unfold jM at h
     refine zJ h rfl (fun _ h=>?_) fun _ h=>?_
     ·refine sqR<|qkAsg rfl<|dtN<|aS<|bK<|aJ<|aJ<|bK<|bK<|aJ<|aJ<|bK<|aJ ?_
      cases h
      exact vJ rfl
     refine cU<|inT<|aO<|qkAdd rfl<|qkMove rfl<|dtN ?_
     exact xK (wI .i64 (a17+(1:Int))) () h SF rfl
    refine nO<|cX<|cX<|tA<|inT ?_
    exact iJ () (()) h SF rfl
   clear h
   intro a11 b12 h
   unfold mI at h
   refine aO<|qkAdd rfl<|qkMove rfl<|dtN ?_
   exact xK (wI .i64 (a7+(1:Int))) () h SF rfl
  refine xO ?_
  exact cF () (()) h SF .nil (aA.refl _ _)
 clear h
 intro a3 b4 h
 unfold mH at h
 refine sqR<|qkAsg rfl<|dtN<|aS ?_
 cases h
 exact lP rfl
end Go.Proofs.YtigggfnchamobaaGreatDoor
end
section
namespace Go.Proofs.YtigggfnchamobaaGreatDoor
open Go.Sx
def pU  (a12:Unit):Option (Bool):=
 some (true)
def pW (a23:Int) (ag22:(Int)->Option (Bool)) (a27:Unit):Option (Bool):=
 ag22 (wI .i64 (a23+(1:Int)))
def mK (a32:Int) (ag31:(Int)->Option (Bool)) (a40:Bool):Option (Bool):=
 if a40=true then(some (false))else(ag31 (wI .i64 (a32+(1:Int))))
def fF (p0:List (Int)×(List (List (Int×Int)))) (p1:List (List (Int))) (p2:Int) (a23:Int) (ag22:(Int)->Option (Bool)) (a32:Int) (ag31:(Int)->Option (Bool)):Option (Bool):=
 if a32<(List.length (at' p0.2 a23):Int)then(ck (0<=a32∧a32<(List.length (at' p0.2 a23):Int)) (ck (0<=a23) (if(c_ .u32 (oZ .u32 p2 a23) (1:Int))=(0:Int)then(ck (0<=a23∧a23<(List.length p1:Int)) (ck (0<=(0:Int)∧(0:Int)<(List.length (at' p1 a23):Int)) (ck (0<=((at' (at' p0.2 a23) a32).1)∧((at' (at' p0.2 a23) a32).1)<(List.length p1:Int)) (ck (0<=(0:Int)∧(0:Int)<(List.length (at' p1 ((at' (at' p0.2 a23) a32).1)):Int)) (mK a32 ag31 (decide ((at' (at' p1 a23) (0:Int))=(at' (at' p1 ((at' (at' p0.2 a23) a32).1)) (0:Int)))))))))else(mK a32 ag31 (false)))))else(pW a23 ag22 (()))
def eH (fuel:Nat) (p0:List (Int)×(List (List (Int×Int)))) (p1:List (List (Int))) (p2:Int) (a23:Int) (ag22:(Int)->Option (Bool)):Option (Bool):=
 if a23<(List.length p0.2:Int)then(ck (0<=a23∧a23<(List.length p0.2:Int)) (bG (fF p0 p1 p2 a23 ag22) fuel (0:Int)))else(pU  (()))
def pV (fuel:Nat) (p0:List (Int)×(List (List (Int×Int)))) (p1:List (List (Int))) (p2:Int) (a15:Unit):Option (Bool):=
 bG (eH fuel p0 p1 p2) fuel (0:Int)
def mJ (fuel:Nat) (p0:List (Int)×(List (List (Int×Int)))) (p1:List (List (Int))) (p2:Int) (a8:Bool):Option (Bool):=
 if a8=true then(some (false))else(pV fuel p0 p1 p2 (()))
def kY (fuel:Nat) (p0:List (Int)×(List (List (Int×Int)))) (p1:List (List (Int))) (p2:Int):Option (Bool):=
 Option.bind (eI fuel ((p0.1,p0.2))) fun r50=>(if(!r50)=true then(mJ fuel p0 p1 p2 (true))else(Option.bind (eX fuel ((p0.1,p0.2)) p1 ([(List.length p0.1:Int)])) fun r55=>(mJ fuel p0 p1 p2 ((!r55)))))
theorem VO:aR Tryz.prog 22:=Tryz.call22
theorem Ea (fuel:Nat) {p0:List (Int)×(List (List (Int×Int)))} {p1:List (List (Int))} {p2:Int} (v0:Value)  (v1:Value)  (z2:List (Value×List (Int×Int)))  (v3:Value)  (z4:List (Value×List (Int))) (r:Bool) (h:kY fuel p0 p1 p2=some r):
  aV Tryz.prog 22 #[Value.agg #[v0,v1],v3,vU (p2)] [Sl bM v0 p0.1,S2 aZ v1 z2 p0.2,S2 bM v3 z4 p1] (fun x:Unit=>Value.bool (r)) (fun x l=>l) (fun _ l=>l):=by
 refine aV.of Tryz.func22 rfl Tryz.ntmps22 rfl fun c=>?_
 unfold kY at h
 refine jJ AC<|sqR<|aG (aM.box (cs:=[v0,v1]) rfl rfl) rfl fun b2=>bZ (Know.one (aC.sl (aC.fact 2 rfl))) fun ho4=>?_
 refine aG (aM.box (cs:=[v3]) rfl (by rw[jD ho4])) rfl fun b3=>?_
 refine aG (aM.box (cs:=[vU (p2)]) rfl rfl) rfl fun b5=>aG (aM.alloc (cs:=[Value.bool (false)]) rfl rfl) rfl fun b6=>dtN<|aL<|aL<|vW (A:=Bool) (B:=Unit) (fun a8 b9=>⟨47,uO ([]:List Nat)⟩) (fun a8=>mJ fuel p0 p1 p2 a8=some r) (fun a8 b9=>[(3,vP b2),(4,vP b3),(5,vP b5),(6,vP b6),(21,Value.bool (a8))]) (fun a8 b9=>[bO b6 [Value.bool (false)] 4,bO b5 [vU (p2)] 25,bO b3 [v3] 36,bO b2 [v0,v1] 28,xL ([]:List Nat)]) (fun a8 b9=>[Sl bM v0 p0.1,S2 aZ v1 z2 p0.2,S2 bM v3 z4 p1]) ?_ ?_
 ·refine aO<|qkLdA 3 rfl ?_
  have⟨r50,w51,h⟩:=fE h
  refine aG (aM.callQ FE (rY fuel v0 v1 z2 r50 w51) rfl (aA.cons (aC.fact 0 rfl) (aA.cons (aC.fact 1 rfl) .nil))) rfl fun x52=>aB (oD rfl) rfl<|qkMove rfl ?_
  refine Bf (by exact rfl) (by exact rfl) (fun hp53=>?_) (fun hp53=>?_)
  ·have h:=Jj hp53 h
   refine gdSkip rfl<|gdSkip rfl<|gdSkip rfl<|gdSkip rfl<|gdSkip rfl<|gdSkip rfl<|gdSkip rfl<|gdSkip rfl<|aB (bW rfl rfl) rfl<|dtN ?_
   exact lS (true) () rfl h SF (aK.refl _) (aA.refl _ _)
  have h:=IE hp53 h
  refine aT rfl (lB 3 rfl rfl rfl rfl) rfl<|aT rfl (dO 2 rfl rfl rfl rfl rfl) rfl<|aT rfl (dD rfl rfl rfl rfl rfl) rfl<|aT rfl (dO 3 rfl rfl rfl rfl rfl) rfl<|aT rfl (b_ rfl (aC.fact 0 rfl) rfl) rfl<|qT rfl (cE (e:=bY) ([(List.length p0.1:Int)]) [(0,vI (List.length p0.1:Int))] rfl rfl rfl rfl (mM (vI (List.length p0.1:Int)) rfl) rfl rfl rfl) rfl fun u54=>?_
  have⟨r55,w56,h⟩:=fE h
  refine qT rfl (aM.callQ LE (rQ fuel v0 v1 z2 v3 z4 u54 r55 w56) rfl (aA.cons (aC.fact 0 rfl) (aA.cons (aC.fact 1 rfl) (aA.cons (aC.fact 2 rfl) (aA.cons (aU (aC.res 0 rfl) cI) .nil))))) rfl fun x57=>aT rfl (oD rfl) rfl<|aB (cA rfl rfl) rfl<|dtN ?_
  exact lS ((!r55)) () rfl h SF (aK.ix [1,2,3,4,5] rfl rfl) (aA.refl _ _)
 clear h
 intro a8 b9 h
 unfold mJ at h
 refine zJ h rfl (fun _ h=>?_) fun _ h=>?_
 ·refine sqR<|eJ 0 rfl rfl rfl rfl rfl rfl<|dtN<|aS<|aJ<|gE (i:=4) (Ds:=([]:List Nat)) (.inl rfl) rfl ?_
  cases h
  exact fQ () rfl rfl (AA 0 rfl rfl rfl rfl) .nil aA.nil
 refine iV<|aL<|vW (A:=Unit) (B:=List Nat) (fun a12 b13=>⟨47,uO b13⟩) (fun a12=>pU  a12=some r) (fun a12 b13=>[(6,vP b6)]) (fun a12 b13=>[bO b6 [Value.bool (false)] 4,xL b13]) (fun a12 b13=>[Sl bM v0 p0.1,S2 aZ v1 z2 p0.2,S2 bM v3 z4 p1]) ?_ ?_
 ·refine sqR<|qkLdA 3 rfl<|yA (A:=Unit) (B:=Nat) (vs:=[Value.agg #[v0,v1]]) (fun a15=>pV fuel p0 p1 p2 a15=some r) (fun a15 b16=>Value.func (.func 50) #[] #[vP b16]) (fun a15 b16=>[bO b16 [v0,v1] 28,bO b6 [Value.bool (false)] 4,bO b5 [vU (p2)] 25,bO b3 [v3] 36,xL ([]:List Nat)]) (fun a15 b16=>[Sl bM v0 p0.1,S2 aZ v1 z2 p0.2,S2 bM v3 z4 p1]) (tO.fn (show aR Tryz.prog 35 from Tryz.call35) rfl) Tryz.func35 rfl Tryz.ntmps35 rfl rfl ?_ ?_
  ·refine sqR<|aG (aM.box (cs:=[v0,v1]) rfl rfl) rfl fun b49=>qkAsg rfl<|dtN<|sqR<|aB (sS (cs:=[.tmp 1]) (vs:=[vP b49]) rfl) rfl<|qkAsg rfl<|dtN<|aS ?_
   exact uR () (b49) h (.inl rfl) (CI.r1 rfl (RV.tmp rfl)) rfl (aK.ix [0,1,2,3,5] rfl rfl) (aA.refl _ _)
  clear h
  intro a15 b16 h
  unfold pV at h
  refine dtN<|aQ<|tP (i:=4) (cs:=[vP b16]) ([]:List Nat) rfl (show aR Tryz.prog 50 from Tryz.call50) rfl Tryz.func50 rfl Tryz.ntmps50 rfl fun Ns D18 R19 hR20=>sqR<|qkFld rfl<|qkLd 1 rfl<|aB (iX rfl (aC.fact 1 rfl) rfl) rfl<|qkMove rfl<|dtN<|aQ<|loopL (eH fuel p0 p1 p2) (fun a23 b24=>[(0,kG Ns),(8,v1),(9,vI (List.length p0.2:Int)),(10,vI (a23))]) (fun a23 b24=>[Lp Ns R19 LoopState.ready none,bO b16 [v0,v1] 28,bO b6 [Value.bool (false)] 4,bO b5 [vU (p2)] 25,bO b3 [v3] 36,xL (List.cons D18 ([]:List Nat))]) (0:Int) () h SF (aK.refl _) ?_
  clear h
  intro k25 a23 b24 h
  unfold eH at h
  refine sqR<|qkLss rfl<|dtN<|aL ?_
  refine eL h rfl (fun h=>?_) fun h=>?_
  ·refine iV<|aL<|midU (fun a27=>pW a23 (bG (eH fuel p0 p1 p2) k25) a27=some r) (fun a27 b28=>[(0,kG Ns),(8,v1),(9,vI (List.length p0.2:Int)),(10,vI (a23))]) (fun a27 b28=>[Lp Ns R19 LoopState.ready none,bO b16 [v0,v1] 28,bO b6 [Value.bool (false)] 4,bO b5 [vU (p2)] 25,bO b3 [v3] 36,xL (List.cons D18 ([]:List Nat))]) ?_ ?_
   ·refine aQ<|sqR<|qkMove rfl ?_
    have⟨j29,h⟩:=aH h
    refine aB (cO rfl rfl (aC.fact 1 rfl) rfl rfl j29) rfl<|aB (cM rfl (aC.fact 1 rfl) rfl rfl j29) rfl<|qkAsg rfl<|qkAsg rfl<|dtN<|sqR<|qkMove rfl<|aB (b_ rfl (aC.el (aC.fact 1 rfl) j29.1 j29.2) rfl) rfl<|qkMove rfl<|dtN<|aQ<|loopL (fF p0 p1 p2 a23 (bG (eH fuel p0 p1 p2) k25)) (fun a32 b33=>[(0,kG Ns),(3,vI (a23)),(8,v1),(9,vI (List.length p0.2:Int)),(10,vI (a23)),(15,(at' z2 a23).1),(16,vI (List.length (at' p0.2 a23):Int)),(17,vI (a32))]) (fun a32 b33=>[Lp Ns R19 LoopState.ready none,bO b16 [v0,v1] 28,bO b6 [Value.bool (false)] 4,bO b5 [vU (p2)] 25,bO b3 [v3] 36,xL (List.cons D18 ([]:List Nat))]) (0:Int) () h SF (aK.refl _) ?_
    clear h
    intro k34 a32 b33 h
    unfold fF at h
    refine sqR<|qkLss rfl<|dtN<|aL ?_
    refine eL h rfl (fun h=>?_) fun h=>?_
    ·refine iV<|aL<|aQ<|sqR ?_
     have⟨j36,h⟩:=aH h
     refine aB (a_ rfl rfl (aC.el (aC.fact 1 rfl) j29.1 j29.2) rfl rfl j36) rfl<|aB (fZ (cs:=[vI ((at' (at' p0.2 a23) a32).1),vI ((at' (at' p0.2 a23) a32).2)]) rfl (aC.el (aC.fact 1 rfl) j29.1 j29.2) bJ rfl rfl rfl rfl j36) rfl<|aG (aM.alloc (cs:=[vI (0:Int),vI (0:Int)]) rfl rfl) rfl fun b37=>bI 0 (vs:=[vI ((at' (at' p0.2 a23) a32).1),vI ((at' (at' p0.2 a23) a32).2)]) rfl rfl rfl rfl rfl rfl<|dtN<|sqR<|qkMove rfl<|qkMove rfl<|qkLdA 0 rfl<|Ax (us:=[vI (a23),Value.agg #[vI ((at' (at' p0.2 a23) a32).1),vI ((at' (at' p0.2 a23) a32).2)]]) (i:=1) hR20 rfl rfl rfl rfl rfl rfl<|sqR<|qkAsg rfl<|dtN<|aO<|aG (aM.alloc (cs:=[vI (0:Int),vI (0:Int)]) rfl rfl) rfl fun b38=>bI 0 (vs:=[vI ((at' (at' p0.2 a23) a32).1),vI ((at' (at' p0.2 a23) a32).2)]) rfl rfl rfl rfl rfl rfl<|dtN<|CE (i:=2) rfl<|aQ<|aL<|midU (fun a40=>mK a32 (bG (fF p0 p1 p2 a23 (bG (eH fuel p0 p1 p2) k25)) k34) a40=some r) (fun a40 b41=>[(6,vP b6),(46,Value.bool (a40))]) (fun a40 b41=>[Lp Ns R19 LoopState.busy none,bO b16 [v0,v1] 28,bO b6 [Value.bool (false)] 4,bO b5 [vU (p2)] 25,bO b3 [v3] 36,xL (List.cons D18 ([]:List Nat))]) ?_ ?_
     ·refine JR.start [0,0,3,7,15,31,63,63,255,511,1023,2047,63,63,8255,28735,61503,127039,258111,524287,1048575] 19 mixedOrders (by decide +kernel) ?_
      refine JR.open (by exact rfl) ?_
      refine jkLd 5 rfl<|jkMove rfl ?_
      have⟨j43,h⟩:=aH h
      refine aN rfl .nil .nil (AG rfl rfl j43) aD.z<|aN rfl .nil .nil (oY rfl rfl) aD.z<|aN rfl .nil .nil (JK rfl rfl) aD.z<|jkMove rfl ?_
      refine yJ (by exact rfl) (by exact rfl) (by exact rfl) (fun hp44=>?_) (fun hp44=>?_)
      ·have h:=Jj hp44 h
       refine bU rfl (aK.cons 6 rfl .nil) .nil (dO 0 rfl rfl rfl rfl rfl) aD.z<|bU rfl .nil .nil (dQ rfl) aD.z ?_
       have⟨j45,h⟩:=aH h
       refine bU rfl .nil (cV.cons (List.mem_of_getElem? (i:=2) rfl) .nil) (cO rfl rfl (aC.fact 0 rfl) rfl rfl j45) aD.z<|bU rfl .nil (cV.cons (List.mem_of_getElem? (i:=2) rfl) .nil) (cM rfl (aC.fact 0 rfl) rfl rfl j45) aD.z ?_
       have⟨j46,h⟩:=aH h
       refine bU rfl .nil (cV.cons (List.mem_of_getElem? (i:=2) rfl) .nil) (a_ rfl rfl (aC.el (aC.fact 0 rfl) j45.1 j45.2) rfl rfl j46) aD.z<|bU rfl .nil (cV.cons (List.mem_of_getElem? (i:=2) rfl) .nil) (bS rfl (aC.el (aC.fact 0 rfl) j45.1 j45.2) rfl rfl rfl dB j46) aD.z<|bU rfl (aK.cons 6 rfl .nil) .nil (dO 0 rfl rfl rfl rfl rfl) aD.z<|bU rfl .nil .nil (dD rfl rfl rfl rfl rfl) aD.z<|bU rfl (aK.cons 0 rfl .nil) .nil (dO 0 rfl rfl rfl rfl rfl) aD.z ?_
       have⟨j47,h⟩:=aH h
       refine bU rfl .nil (cV.cons (List.mem_of_getElem? (i:=2) rfl) .nil) (cO rfl rfl (aC.fact 0 rfl) rfl rfl j47) aD.z<|bU rfl .nil (cV.cons (List.mem_of_getElem? (i:=2) rfl) .nil) (cM rfl (aC.fact 0 rfl) rfl rfl j47) aD.z ?_
       have⟨j48,h⟩:=aH h
       refine bU rfl .nil (cV.cons (List.mem_of_getElem? (i:=2) rfl) .nil) (a_ rfl rfl (aC.el (aC.fact 0 rfl) j47.1 j47.2) rfl rfl j48) aD.z<|bU rfl .nil (cV.cons (List.mem_of_getElem? (i:=2) rfl) .nil) (bS rfl (aC.el (aC.fact 0 rfl) j47.1 j47.2) rfl rfl rfl dB j48) aD.z<|bL 19 rfl rfl<|aT rfl (JK rfl rfl) rfl<|aB (bW rfl rfl) rfl<|dtN ?_
       exact cF (decide ((at' (at' p1 a23) (0:Int))=(at' (at' p1 ((at' (at' p0.2 a23) a32).1)) (0:Int)))) () h SF (aK.ix [2,3,4,5,6,7] rfl rfl) (aA.refl _ _)
      have h:=Uo hp44 h
      refine aY rfl rfl rfl rfl<|aY rfl rfl rfl rfl<|aY rfl rfl rfl rfl<|aY rfl rfl rfl rfl<|aY rfl rfl rfl rfl<|aY rfl rfl rfl rfl<|aY rfl rfl rfl rfl<|aY rfl rfl rfl rfl<|aY rfl rfl rfl rfl<|aY rfl rfl rfl rfl<|aY rfl rfl rfl rfl<|aY rfl rfl rfl rfl<|aY rfl rfl rfl rfl<|bL 19 rfl rfl<|gdSkip rfl<|aB (cA rfl rfl) rfl<|dtN ?_
      exact cF (false) () h SF (aK.ix [2,3,4,5,6,7] rfl rfl) (aA.refl _ _)
     clear h
     intro a40 b41 h
     unfold mK at h
     refine zJ h rfl (fun _ h=>?_) fun _ h=>?_
     ·refine sqR<|eJ 2 rfl rfl rfl rfl rfl rfl<|dtN<|aS<|bK<|Jq (i:=0) rfl<|aB (oD rfl) rfl<|dtN<|If rfl<|aS<|bK<|aJ<|aJ<|bK<|bK<|aJ<|aJ<|bK<|MG (i:=0) (.inl rfl) rfl (CI.r0 rfl)<|bK<|aJ<|gE (i:=5) (Ds:=(List.cons D18 ([]:List Nat))) (.inl rfl) rfl ?_
      cases h
      exact fQ () rfl rfl (AA 2 rfl rfl rfl rfl) .nil aA.nil
     refine cU<|Ag<|vN (i:=0) rfl<|aB (oD rfl) rfl<|dtN<|wE rfl<|cU<|inT<|aO<|qkAdd rfl<|qkMove rfl<|dtN ?_
     exact xK (wI .i64 (a32+(1:Int))) () h SF rfl
    refine nO<|cX<|cX<|tA<|inT ?_
    exact iJ () (()) h SF rfl
   clear h
   intro a27 b28 h
   unfold pW at h
   refine aO<|qkAdd rfl<|qkMove rfl<|dtN ?_
   exact xK (wI .i64 (a23+(1:Int))) () h SF rfl
  refine nO<|cX<|cX<|tA<|Ff (i:=0) (.inr rfl) rfl (CI.r0 rfl)<|inT ?_
  exact lS () (List.cons D18 ([]:List Nat)) rfl h SF (aK.ix [2,5] rfl rfl) (aA.refl _ _)
 clear h
 intro a12 b13 h
 unfold pU at h
 refine sqR<|eJ 0 rfl rfl rfl rfl rfl rfl<|dtN<|aS<|gE (i:=1) (Ds:=(b13)) (.inl rfl) rfl ?_
 cases h
 exact fQ () rfl rfl (AA 0 rfl rfl rfl rfl) .nil aA.nil
end Go.Proofs.YtigggfnchamobaaGreatDoor
end
section
namespace Go.Proofs.YtigggfnchamobaaGreatDoor
open Go.Sx
def v_  (a10:List (Int)):Option (List (Int)):=
 some (a10)
def sG (a29:Int×List (Int)×List (Int)) (ag28:(Int×List (Int)×List (Int))->Option (List (Int))) (a36:List (Int)×List (Int)):Option (List (Int)):=
 ag28 ((wI .i64 (a29.1+(1:Int))),a36.1,a36.2)
def sH (p0:List (Int)×(List (List (Int×Int)))) (a16:List (Int)×List (Int)) (ag15:(List (Int)×List (Int))->Option (List (Int))) (a29:Int×List (Int)×List (Int)) (ag28:(Int×List (Int)×List (Int))->Option (List (Int))):Option (List (Int)):=
 if a29.1<(List.length (at' p0.2 (at' a16.1 (0:Int))):Int)then(ck (0<=a29.1∧a29.1<(List.length (at' p0.2 (at' a16.1 (0:Int))):Int)) (ck (0<=((at' (at' p0.2 (at' a16.1 (0:Int))) a29.1).1)∧((at' (at' p0.2 (at' a16.1 (0:Int))) a29.1).1)<(List.length a29.2.2:Int)) (if(at' a29.2.2 ((at' (at' p0.2 (at' a16.1 (0:Int))) a29.1).1))<(0:Int)then(ck (0<=(at' a16.1 (0:Int))∧(at' a16.1 (0:Int))<(List.length a29.2.2:Int)) (ck (0<=((at' (at' p0.2 (at' a16.1 (0:Int))) a29.1).1)∧((at' (at' p0.2 (at' a16.1 (0:Int))) a29.1).1)<(List.length a29.2.2:Int)) (ck ((List.length a29.2.1:Int)+(List.length ([((at' (at' p0.2 (at' a16.1 (0:Int))) a29.1).1)]):Int)<=1099511627) (sG a29 ag28 ((a29.2.1++([((at' (at' p0.2 (at' a16.1 (0:Int))) a29.1).1)])),(List.set a29.2.2 (Int.toNat ((at' (at' p0.2 (at' a16.1 (0:Int))) a29.1).1)) (wI .i64 ((at' a29.2.2 (at' a16.1 (0:Int)))+(1:Int)))))))))else(sG a29 ag28 (a29.2.1,a29.2.2)))))else(ag15 (a29.2.1,a29.2.2))
def pD (fuel:Nat) (p0:List (Int)×(List (List (Int×Int)))) (a16:List (Int)×List (Int)) (ag15:(List (Int)×List (Int))->Option (List (Int))):Option (List (Int)):=
 if(0:Int)<(List.length a16.1:Int)then(ck (0<=(0:Int)∧(0:Int)<(List.length a16.1:Int)) (ck (0<=(1:Int)∧(1:Int)<=(List.length a16.1:Int)) (ck (0<=(at' a16.1 (0:Int))∧(at' a16.1 (0:Int))<(List.length p0.2:Int)) (bG (sH p0 a16 ag15) fuel ((0:Int),(List.drop (Int.toNat (1:Int)) a16.1),a16.2)))))else(v_  (a16.2))
def vZ (fuel:Nat) (p0:List (Int)×(List (List (Int×Int)))) (p1:Int) (a5:List (Int)):Option (List (Int)):=
 ck (0<=p1∧p1<(List.length a5:Int)) (bG (pD fuel p0) fuel (([p1]),(List.set a5 (Int.toNat p1) (0:Int))))
def wA (fuel:Nat) (p0:List (Int)×(List (List (Int×Int)))) (p1:Int) (a50:Int×List (Int)) (ag49:(Int×List (Int))->Option (List (Int))):Option (List (Int)):=
 if a50.1<(List.length (List.replicate (Int.toNat (List.length p0.2:Int)) (0:Int)):Int)then(ck (0<=a50.1∧a50.1<(List.length a50.2:Int)) (ag49 ((wI .i64 (a50.1+(1:Int))),(List.set a50.2 (Int.toNat a50.1) (-1:Int)))))else(vZ fuel p0 p1 (a50.2))
def wX (fuel:Nat) (p0:List (Int)×(List (List (Int×Int)))) (p1:Int):Option (List (Int)):=
 ck (0<=(List.length p0.2:Int)∧(List.length p0.2:Int)<=1099511627) (bG (wA fuel p0 p1) fuel ((0:Int),(List.replicate (Int.toNat (List.length p0.2:Int)) (0:Int))))
theorem V_:aR Tryz.prog 77:=Tryz.call77
theorem GB (fuel:Nat) {p0:List (Int)×(List (List (Int×Int)))} {p1:Int} (v0:Value)  (v1:Value)  (z2:List (Value×List (Int×Int))) (r:List (Int)) (h:wX fuel p0 p1=some r):
  aV Tryz.prog 77 #[Value.agg #[v0,v1],vI (p1)] [Sl bM v0 p0.1,S2 aZ v1 z2 p0.2] (fun x:Value=>x) (fun x l=>Ar bY x r::l) (fun _ l=>l):=by
 refine aV.of Tryz.func77 rfl Tryz.ntmps77 rfl fun c=>?_
 unfold wX at h
 refine sqR<|aG (aM.box (cs:=[v0,v1]) rfl rfl) rfl fun b1=>qkAsg rfl<|dtN<|sqR<|qkFld rfl<|qkLd 0 rfl<|aB (iX rfl (aC.fact 1 rfl) rfl) rfl ?_
 have⟨j2,h⟩:=aH h
 refine aG (oH (e:=bY) (0:Int) rfl rfl rfl rfl j2 rfl rfl rfl) rfl fun u3=>qkAsg rfl<|dtN<|aL<|midU (fun a5=>vZ fuel p0 p1 a5=some r) (fun a5 b6=>[(1,vI (p1)),(2,vP b1),(5,u3)]) (fun a5 b6=>[Ar bY u3 a5,bO b1 [v0,v1] 28]) ?_ ?_
 ·refine sqR<|qkMove rfl<|aB (b_ rfl (aU (aC.res 0 rfl) cI) rfl) rfl<|qkMove rfl<|dtN<|aQ<|loopL (wA fuel p0 p1) (fun a50 b51=>[(1,vI (p1)),(2,vP b1),(5,u3),(16,vI (List.length (List.replicate (Int.toNat (List.length p0.2:Int)) (0:Int)):Int)),(17,vI (a50.1))]) (fun a50 b51=>[Ar bY u3 a50.2,bO b1 [v0,v1] 28]) ((0:Int),(List.replicate (Int.toNat (List.length p0.2:Int)) (0:Int))) () h SF (aK.refl _) ?_
  clear h
  intro k52 a50 b51 h
  unfold wA at h
  refine sqR<|qkLss rfl<|dtN<|aL ?_
  refine eL h rfl (fun h=>?_) fun h=>?_
  ·refine iV<|aL<|aQ<|sqR<|qkMove rfl<|qkAsg rfl<|dtN<|aO<|qkMove rfl<|qkMove rfl ?_
   have⟨j54,h⟩:=aH h
   refine aB (a_ rfl rfl (aU (aC.res 0 rfl) cI) rfl rfl j54) rfl<|tQ 0 (-1:Int) j54 rfl rfl rfl rfl rfl rfl rfl<|dY<|inT<|aO<|qkAdd rfl<|qkMove rfl<|dtN ?_
   exact xK ((wI .i64 (a50.1+(1:Int))),(List.set a50.2 (Int.toNat a50.1) (-1:Int))) () h SF rfl
  refine xO ?_
  exact iJ (a50.2) () h SF rfl
 clear h
 intro a5 b6 h
 unfold vZ at h
 refine sqR<|qkMove rfl<|qkMove rfl ?_
 have⟨j7,h⟩:=aH h
 refine aB (a_ rfl rfl (aU (aC.res 0 rfl) cI) rfl rfl j7) rfl<|tQ 0 (0:Int) j7 rfl rfl rfl rfl rfl rfl rfl<|dtN<|sqR<|qkMove rfl<|aG (cE (e:=bY) ([p1]) [(0,vI (p1))] rfl rfl rfl rfl (mM (vI (p1)) rfl) rfl rfl rfl) rfl fun u8=>qkAsg rfl<|dtN<|aL<|midU (fun a10=>v_  a10=some r) (fun a10 b11=>[(5,u3)]) (fun a10 b11=>[Ar bY u3 a10]) ?_ ?_
 ·refine aQ<|loopL (B:=Value) (pD fuel p0) (fun a16 b17=>[(2,vP b1),(5,u3),(7,b17)]) (fun a16 b17=>[Ar bY b17 a16.1,Ar bY u3 a16.2,bO b1 [v0,v1] 28]) (([p1]),(List.set a5 (Int.toNat p1) (0:Int))) (u8) h SF (aK.refl _) ?_
  clear h
  intro k18 a16 b17 h
  unfold pD at h
  refine aL<|sqR<|qkMove rfl<|aB (b_ rfl (aU (aC.res 0 rfl) cI) rfl) rfl<|aB (tT rfl rfl) rfl<|dtN ?_
  refine eL h rfl (fun h=>?_) fun h=>?_
  ·refine iV<|aQ<|sqR<|qkMove rfl ?_
   have⟨j20,h⟩:=aH h
   refine aB (a_ rfl rfl (aU (aC.res 0 rfl) cI) rfl rfl j20) rfl<|aB (bS rfl (aU (aC.res 0 rfl) cI) rfl rfl rfl dB j20) rfl<|qkAsg rfl<|dtN<|sqR<|qkMove rfl ?_
   have⟨j21,h⟩:=aH h
   refine aG (Js 0 j21 rfl rfl rfl rfl rfl rfl) rfl fun u22=>qkAsg rfl<|dtN<|sqR<|qkFld rfl<|qkLd 2 rfl<|qkMove rfl ?_
   have⟨j23,h⟩:=aH h
   refine aB (cO rfl rfl (aC.fact 1 rfl) rfl rfl j23) rfl<|aB (cM rfl (aC.fact 1 rfl) rfl rfl j23) rfl<|aB (b_ rfl (aC.el (aC.fact 1 rfl) j23.1 j23.2) rfl) rfl<|qkMove rfl<|dtN<|aQ<|loopL (B:=Value) (sH p0 a16 (bG (pD fuel p0) k18)) (fun a29 b30=>[(2,vP b1),(5,u3),(7,b30),(8,vI (at' a16.1 (0:Int))),(41,(at' z2 (at' a16.1 (0:Int))).1),(42,vI (List.length (at' p0.2 (at' a16.1 (0:Int))):Int)),(43,vI (a29.1))]) (fun a29 b30=>[Ar bY b30 a29.2.1,Ar bY u3 a29.2.2,bO b1 [v0,v1] 28]) ((0:Int),(List.drop (Int.toNat (1:Int)) a16.1),a16.2) (u22) h SF (aK.refl _) ?_
   clear h
   intro k31 a29 b30 h
   unfold sH at h
   refine sqR<|qkLss rfl<|dtN<|aL ?_
   refine eL h rfl (fun h=>?_) fun h=>?_
   ·refine iV<|aL<|midL (B:=Value) (fun a36=>sG a29 (bG (sH p0 a16 (bG (pD fuel p0) k18)) k31) a36=some r) (fun a36 b37=>[(2,vP b1),(5,u3),(7,b37),(8,vI (at' a16.1 (0:Int))),(41,(at' z2 (at' a16.1 (0:Int))).1),(42,vI (List.length (at' p0.2 (at' a16.1 (0:Int))):Int)),(43,vI (a29.1))]) (fun a36 b37=>[Ar bY b37 a36.1,Ar bY u3 a36.2,bO b1 [v0,v1] 28]) ?_ ?_
    ·refine aQ<|sqR ?_
     have⟨j38,h⟩:=aH h
     refine aB (a_ rfl rfl (aC.el (aC.fact 1 rfl) j23.1 j23.2) rfl rfl j38) rfl<|aB (fZ (cs:=[vI ((at' (at' p0.2 (at' a16.1 (0:Int))) a29.1).1),vI ((at' (at' p0.2 (at' a16.1 (0:Int))) a29.1).2)]) rfl (aC.el (aC.fact 1 rfl) j23.1 j23.2) bJ rfl rfl rfl rfl j38) rfl<|aG (aM.alloc (cs:=[vI (0:Int),vI (0:Int)]) rfl rfl) rfl fun b39=>bI 0 (vs:=[vI ((at' (at' p0.2 (at' a16.1 (0:Int))) a29.1).1),vI ((at' (at' p0.2 (at' a16.1 (0:Int))) a29.1).2)]) rfl rfl rfl rfl rfl rfl<|dtN<|sqR<|qkMove rfl<|qkFld rfl<|qkLd 0 rfl ?_
     have⟨j40,h⟩:=aH h
     refine aB (a_ rfl rfl (aU (aC.res 2 rfl) cI) rfl rfl j40) rfl<|aB (bS rfl (aU (aC.res 2 rfl) cI) rfl rfl rfl dB j40) rfl<|qkLss rfl<|dtN ?_
     refine eL h rfl (fun h=>?_) fun h=>?_
     ·refine aL ?_
      refine JR.start [0,0,2,0,0,24,56,120,255,511] 8 mixedOrders (by decide +kernel) ?_
      refine JR.open (by exact rfl) ?_
      refine jkMove rfl<|jkFld rfl<|jkLd 0 rfl<|jkMove rfl<|jkMove rfl ?_
      have⟨j42,h⟩:=aH h
      refine aN rfl (aK.cons 2 rfl .nil) .nil (a_ rfl rfl (aU (aC.res 0 rfl) cI) rfl rfl j42) aD.z<|aN rfl (aK.cons 2 rfl .nil) .nil (bS rfl (aU (aC.res 0 rfl) cI) rfl rfl rfl dB j42) aD.z<|aN rfl .nil .nil (pS rfl rfl) aD.z<|bL 8 rfl rfl ?_
      have⟨j43,h⟩:=aH h
      refine aB (a_ rfl rfl (aU (aC.res 2 rfl) cI) rfl rfl j43) rfl<|tQ 2 (wI .i64 ((at' a29.2.2 (at' a16.1 (0:Int)))+(1:Int))) j43 rfl rfl rfl rfl rfl rfl rfl<|dtN<|aO<|qkMove rfl<|qkFld rfl<|qkLd 0 rfl<|aG (cE (e:=bY) ([((at' (at' p0.2 (at' a16.1 (0:Int))) a29.1).1)]) [(0,vI ((at' (at' p0.2 (at' a16.1 (0:Int))) a29.1).1))] rfl rfl rfl rfl (mM (vI ((at' (at' p0.2 (at' a16.1 (0:Int))) a29.1).1)) rfl) rfl rfl rfl) rfl fun u44=>?_
      have⟨j46,h⟩:=aH h
      refine aG (gM 2 cI rfl rfl rfl (aU (aC.res 0 rfl) cI) rfl rfl rfl rfl j46 rfl) rfl fun u45=>qkAsg rfl<|dY<|inT ?_
      exact cF ((a29.2.1++([((at' (at' p0.2 (at' a16.1 (0:Int))) a29.1).1)])),(List.set a29.2.2 (Int.toNat ((at' (at' p0.2 (at' a16.1 (0:Int))) a29.1).1)) (wI .i64 ((at' a29.2.2 (at' a16.1 (0:Int)))+(1:Int))))) (u45) h SF (aK.ix [2,3,4] rfl rfl) (aA.refl _ _)
     refine cU<|inT ?_
     exact cF (a29.2.1,a29.2.2) (b30) h SF (aK.ix [1,2,3] rfl rfl) (aA.refl _ _)
    clear h
    intro a36 b37 h
    unfold sG at h
    refine aO<|qkAdd rfl<|qkMove rfl<|dtN ?_
    exact xK ((wI .i64 (a29.1+(1:Int))),a36.1,a36.2) (b37) h SF rfl
   refine nO<|cX<|cX<|tA<|inT ?_
   exact xK (a29.2.1,a29.2.2) (b30) h SF rfl
  refine xO ?_
  exact cF (a16.2) () h SF (aK.ix [1] rfl rfl) (aA.refl _ _)
 clear h
 intro a10 b11 h
 unfold v_ at h
 refine sqR<|qkMove rfl<|qkAsg rfl<|dtN<|aS ?_
 cases h
 exact fQ (u3) rfl rfl (RV.tmp rfl) (aK.refl _) aA.nil
end Go.Proofs.YtigggfnchamobaaGreatDoor
end
section
namespace Go.Proofs.YtigggfnchamobaaGreatDoor
open Go.Sx
def sY  (a6:Unit):Option (Bool):=
 some (true)
def sZ (r8:List (Int)) (a13:Int) (ag12:(Int)->Option (Bool)):Option (Bool):=
 if a13<(List.length r8:Int)then(ck (0<=a13∧a13<(List.length r8:Int)) (if(at' r8 a13)<(0:Int)then(some (false))else(ag12 (wI .i64 (a13+(1:Int))))))else(sY  (()))
def uE (fuel:Nat) (p0:List (Int)×(List (List (Int×Int)))):Option (Bool):=
 Option.bind (eI fuel ((p0.1,p0.2))) fun r2=>(if(!r2)=true then(some (false))else(Option.bind (wX fuel ((p0.1,p0.2)) (0:Int)) fun r8=>(bG (sZ r8) fuel (0:Int))))
theorem VV:aR Tryz.prog 49:=Tryz.call49
theorem Dl (fuel:Nat) {p0:List (Int)×(List (List (Int×Int)))} (v0:Value)  (v1:Value)  (z2:List (Value×List (Int×Int))) (r:Bool) (h:uE fuel p0=some r):
  aV Tryz.prog 49 #[Value.agg #[v0,v1]] [Sl bM v0 p0.1,S2 aZ v1 z2 p0.2] (fun x:Unit=>Value.bool (r)) (fun x l=>l) (fun _ l=>l):=by
 refine aV.of Tryz.func49 rfl Tryz.ntmps49 rfl fun c=>?_
 unfold uE at h
 refine sqR<|aG (aM.box (cs:=[v0,v1]) rfl rfl) rfl fun b1=>qkAsg rfl<|dtN<|aL<|sqR<|qkLdA 0 rfl ?_
 have⟨r2,w3,h⟩:=fE h
 refine aG (aM.callQ FE (rY fuel v0 v1 z2 r2 w3) rfl (aA.cons (aC.fact 0 rfl) (aA.cons (aC.fact 1 rfl) .nil))) rfl fun x4=>aB (oD rfl) rfl<|dtN ?_
 refine zJ h rfl (fun _ h=>?_) fun _ h=>?_
 ·refine sqR<|qkAsg rfl<|dtN<|aS<|aJ ?_
  cases h
  exact vJ rfl
 refine iV<|aL<|midU (fun a6=>sY  a6=some r) (fun a6 b7=>[]) (fun a6 b7=>[]) ?_ ?_
 ·refine sqR<|qkLdA 0 rfl ?_
  have⟨r8,w9,h⟩:=fE h
  refine aG (aM.callQ V_ (GB fuel v0 v1 z2 r8 w9) rfl (aA.cons (aC.fact 0 rfl) (aA.cons (aC.fact 1 rfl) .nil))) rfl fun x10=>aB (b_ rfl (aU (aC.res 0 rfl) cI) rfl) rfl<|qkMove rfl<|dtN<|aQ<|loopL (sZ r8) (fun a13 b14=>[(9,x10),(10,vI (List.length r8:Int)),(11,vI (a13))]) (fun a13 b14=>[Ar bY x10 r8]) (0:Int) () h SF (aK.ix [0] rfl rfl) ?_
  clear h
  intro k15 a13 b14 h
  unfold sZ at h
  refine sqR<|qkLss rfl<|dtN<|aL ?_
  refine eL h rfl (fun h=>?_) fun h=>?_
  ·refine iV<|aL<|aQ<|sqR ?_
   have⟨j17,h⟩:=aH h
   refine aB (a_ rfl rfl (aU (aC.res 0 rfl) cI) rfl rfl j17) rfl<|aB (bS rfl (aU (aC.res 0 rfl) cI) rfl rfl rfl dB j17) rfl<|qkAsg rfl<|dtN<|sqR<|qkMove rfl<|qkLss rfl<|dtN ?_
   refine eL h rfl (fun h=>?_) fun h=>?_
   ·refine sqR<|qkAsg rfl<|dtN<|aS<|bK<|aJ<|aJ<|bK<|aJ ?_
    cases h
    exact vJ rfl
   refine cU<|inT<|aO<|qkAdd rfl<|qkMove rfl<|dtN ?_
   exact xK (wI .i64 (a13+(1:Int))) () h SF rfl
  refine xO ?_
  exact cF () (()) h SF .nil (aA.refl _ _)
 clear h
 intro a6 b7 h
 unfold sY at h
 refine sqR<|qkAsg rfl<|dtN<|aS ?_
 cases h
 exact lP rfl
end Go.Proofs.YtigggfnchamobaaGreatDoor
end
section
namespace Go.Proofs.YtigggfnchamobaaGreatDoor
open Go.Sx
def DO (fuel:Nat) (p0:List (Int)×(List (List (Int×Int)))):Option (Bool):=
 Option.bind (uE fuel ((p0.1,p0.2))) fun r2=>(some (r2))
theorem VR:aR Tryz.prog 33:=Tryz.call33
theorem Pd (fuel:Nat) {p0:List (Int)×(List (List (Int×Int)))} (v0:Value)  (v1:Value)  (z2:List (Value×List (Int×Int))) (r:Bool) (h:DO fuel p0=some r):
  aV Tryz.prog 33 #[Value.agg #[v0,v1]] [Sl bM v0 p0.1,S2 aZ v1 z2 p0.2] (fun x:Unit=>Value.bool (r)) (fun x l=>l) (fun _ l=>l):=by
 refine aV.of Tryz.func33 rfl Tryz.ntmps33 rfl fun c=>?_
 unfold DO at h
 refine sqR<|aG (aM.box (cs:=[v0,v1]) rfl rfl) rfl fun b1=>qkAsg rfl<|dtN<|sqR<|qkLdA 0 rfl ?_
 have⟨r2,w3,h⟩:=fE h
 refine aG (aM.callQ VV (Dl fuel v0 v1 z2 r2 w3) rfl (aA.cons (aC.fact 0 rfl) (aA.cons (aC.fact 1 rfl) .nil))) rfl fun x4=>qkAsg rfl<|dtN<|aS ?_
 cases h
 exact vJ rfl
end Go.Proofs.YtigggfnchamobaaGreatDoor
end
section
namespace Go.Proofs.YtigggfnchamobaaGreatDoor
open Go.Sx
def sU  (a17:List (Int)):Option (List (Int)):=
 some (a17)
def sV (a23:Int×List (Int)) (ag22:(Int×List (Int))->Option (List (Int))) (a29:List (Int)):Option (List (Int)):=
 ag22 ((wI .i64 (a23.1+(1:Int))),a29)
def sX (a41:Int×List (Int)) (ag40:(Int×List (Int))->Option (List (Int))) (a46:List (Int)):Option (List (Int)):=
 ag40 ((wI .i64 (a41.1+(1:Int))),a46)
def oJ (a52:Int×List (Int)) (ag51:(Int×List (Int))->Option (List (Int))) (a57:List (Int)):Option (List (Int)):=
 ag51 ((wI .i64 (a52.1+(1:Int))),a57)
def oK (p0:List (Int)×(List (List (Int×Int)))) (p2:Int) (a41:Int×List (Int)) (ag40:(Int×List (Int))->Option (List (Int))) (a52:Int×List (Int)) (ag51:(Int×List (Int))->Option (List (Int))):Option (List (Int)):=
 if a52.1<(List.length (at' p0.2 a41.1):Int)then(ck (0<=a52.1∧a52.1<(List.length (at' p0.2 a41.1):Int)) (ck (0<=a41.1) (if(c_ .u32 (oZ .u32 p2 a41.1) (1:Int))=(0:Int)then(ck (0<=a41.1∧a41.1<(List.length a52.2:Int)) (ck (0<=((at' (at' p0.2 a41.1) a52.1).1)∧((at' (at' p0.2 a41.1) a52.1).1)<(List.length a52.2:Int)) (ck (0<=a41.1∧a41.1<(List.length a52.2:Int)) (oJ a52 ag51 (List.set a52.2 (Int.toNat a41.1) (min (at' a52.2 a41.1) (wI .i64 ((at' a52.2 ((at' (at' p0.2 a41.1) a52.1).1))+(1:Int)))))))))else(oJ a52 ag51 (a52.2)))))else(sX a41 ag40 (a52.2))
def iY (fuel:Nat) (p0:List (Int)×(List (List (Int×Int)))) (p2:Int) (a23:Int×List (Int)) (ag22:(Int×List (Int))->Option (List (Int))) (a41:Int×List (Int)) (ag40:(Int×List (Int))->Option (List (Int))):Option (List (Int)):=
 if a41.1<(List.length p0.2:Int)then(ck (0<=a41.1∧a41.1<(List.length p0.2:Int)) (bG (oK p0 p2 a41 ag40) fuel ((0:Int),a41.2)))else(sV a23 ag22 (a41.2))
def sW (fuel:Nat) (p0:List (Int)×(List (List (Int×Int)))) (p2:Int) (a23:Int×List (Int)) (ag22:(Int×List (Int))->Option (List (Int))) (a32:Unit):Option (List (Int)):=
 bG (iY fuel p0 p2 a23 ag22) fuel ((0:Int),a23.2)
def eQ (fuel:Nat) (p0:List (Int)×(List (List (Int×Int)))) (p2:Int) (a23:Int×List (Int)) (ag22:(Int×List (Int))->Option (List (Int))):Option (List (Int)):=
 if a23.1<(List.length p0.1:Int)then(sW fuel p0 p2 a23 ag22 (()))else(sU  (a23.2))
def sT (fuel:Nat) (p0:List (Int)×(List (List (Int×Int)))) (p2:Int) (a13:List (Int)):Option (List (Int)):=
 bG (eQ fuel p0 p2) fuel ((0:Int),a13)
def lD (a71:Int×List (Int)) (ag70:(Int×List (Int))->Option (List (Int))) (a76:List (Int)):Option (List (Int)):=
 ag70 ((wI .i64 (a71.1+(1:Int))),a76)
def oL (fuel:Nat) (p0:List (Int)×(List (List (Int×Int)))) (p1:List (List (Int))) (p2:Int) (a71:Int×List (Int)) (ag70:(Int×List (Int))->Option (List (Int))):Option (List (Int)):=
 if a71.1<(List.length (List.replicate (Int.toNat (List.length p0.1:Int)) (0:Int)):Int)then(ck (0<=a71.1) (if(c_ .u32 (oZ .u32 p2 a71.1) (1:Int))=(1:Int)then(ck (0<=a71.1∧a71.1<(List.length p1:Int)) (ck (0<=(0:Int)∧(0:Int)<(List.length (at' p1 a71.1):Int)) (ck (0<=a71.1∧a71.1<(List.length a71.2:Int)) (lD a71 ag70 (List.set a71.2 (Int.toNat a71.1) (at' (at' p1 a71.1) (0:Int)))))))else(if(0:Int)<a71.1 then(ck (0<=a71.1∧a71.1<(List.length a71.2:Int)) (lD a71 ag70 (List.set a71.2 (Int.toNat a71.1) (List.length p0.1:Int))))else(lD a71 ag70 (a71.2)))))else(sT fuel p0 p2 (a71.2))
def oI (fuel:Nat) (p0:List (Int)×(List (List (Int×Int)))) (p1:List (List (Int))) (p2:Int) (a5:Bool):Option (List (Int)):=
 if a5=true then(some ([]:List Int))else(ck (0<=(List.length p0.1:Int)∧(List.length p0.1:Int)<=1099511627) (bG (oL fuel p0 p1 p2) fuel ((0:Int),(List.replicate (Int.toNat (List.length p0.1:Int)) (0:Int)))))
def uC (fuel:Nat) (p0:List (Int)×(List (List (Int×Int)))) (p1:List (List (Int))) (p2:Int):Option (List (Int)):=
 Option.bind (DO fuel ((p0.1,p0.2))) fun r85=>(if(!r85)=true then(oI fuel p0 p1 p2 (true))else(Option.bind (eX fuel ((p0.1,p0.2)) p1 ([(List.length p0.1:Int),(-1:Int)])) fun r90=>(oI fuel p0 p1 p2 ((!r90)))))
theorem VK:aR Tryz.prog 12:=Tryz.call12
theorem Dh (fuel:Nat) {p0:List (Int)×(List (List (Int×Int)))} {p1:List (List (Int))} {p2:Int} (v0:Value)  (v1:Value)  (z2:List (Value×List (Int×Int)))  (v3:Value)  (z4:List (Value×List (Int))) (r:List (Int)) (h:uC fuel p0 p1 p2=some r):
  aV Tryz.prog 12 #[Value.agg #[v0,v1],v3,vU (p2)] [Sl bM v0 p0.1,S2 aZ v1 z2 p0.2,S2 bM v3 z4 p1] (fun x:Value=>x) (fun x l=>Ar bY x r::l) (fun _ l=>l):=by
 refine aV.of Tryz.func12 rfl Tryz.ntmps12 rfl fun c=>?_
 unfold uC at h
 refine jJ AC<|sqR<|aG (aM.box (cs:=[v0,v1]) rfl rfl) rfl fun b2=>aG (aM.box (cs:=[vU (p2)]) rfl rfl) rfl fun b3=>qkAsg rfl<|dtN<|sqR<|qkFld rfl<|qkLd 1 rfl<|aB (b_ rfl (aC.fact 0 rfl) rfl) rfl<|qkAsg rfl<|dtN<|aL<|aL<|vW (A:=Bool) (B:=Unit) (fun a5 b6=>⟨84,uO ([]:List Nat)⟩) (fun a5=>oI fuel p0 p1 p2 a5=some r) (fun a5 b6=>[(1,v3),(3,vP b2),(5,vP b3),(6,Value.slice none 0 0),(7,vI (List.length p0.1:Int)),(25,Value.bool (a5))]) (fun a5 b6=>[bO b3 [vU (p2)] 25,bO b2 [v0,v1] 28,xL ([]:List Nat)]) (fun a5 b6=>[Sl bM v0 p0.1,S2 aZ v1 z2 p0.2,S2 bM v3 z4 p1]) ?_ ?_
 ·refine aO<|qkLdA 1 rfl ?_
  have⟨r85,w86,h⟩:=fE h
  refine aG (aM.callQ VR (Pd fuel v0 v1 z2 r85 w86) rfl (aA.cons (aC.fact 0 rfl) (aA.cons (aC.fact 1 rfl) .nil))) rfl fun x87=>aB (oD rfl) rfl<|qkMove rfl ?_
  refine Bf (by exact rfl) (by exact rfl) (fun hp88=>?_) (fun hp88=>?_)
  ·have h:=Jj hp88 h
   refine gdSkip rfl<|gdSkip rfl<|gdSkip rfl<|gdSkip rfl<|gdSkip rfl<|gdSkip rfl<|aB (bW rfl rfl) rfl<|dtN ?_
   exact lS (true) () rfl h SF (aK.refl _) (aA.refl _ _)
  have h:=IE hp88 h
  refine aT rfl (lB 1 rfl rfl rfl rfl) rfl<|gyMove rfl<|gyMove rfl<|qT rfl (cE (e:=bY) ([(List.length p0.1:Int),(-1:Int)]) [(0,vI (List.length p0.1:Int)),(1,vI (-1:Int))] rfl rfl rfl rfl (Kd (vI (List.length p0.1:Int)) (vI (-1:Int)) rfl rfl) rfl rfl rfl) rfl fun u89=>?_
  have⟨r90,w91,h⟩:=fE h
  refine qT rfl (aM.callQ LE (rQ fuel v0 v1 z2 v3 z4 u89 r90 w91) rfl (aA.cons (aC.fact 0 rfl) (aA.cons (aC.fact 1 rfl) (aA.cons (aC.fact 2 rfl) (aA.cons (aU (aC.res 0 rfl) cI) .nil))))) rfl fun x92=>aT rfl (oD rfl) rfl<|aB (cA rfl rfl) rfl<|dtN ?_
  exact lS ((!r90)) () rfl h SF (aK.ix [1,2,3] rfl rfl) (aA.refl _ _)
 clear h
 intro a5 b6 h
 unfold oI at h
 refine zJ h rfl (fun _ h=>?_) fun _ h=>?_
 ·refine sqR<|qkAsg rfl<|dtN<|aS<|aJ<|gE (i:=2) (Ds:=([]:List Nat)) (.inl rfl) rfl<|jJ (iW bY) ?_
  cases h
  exact fQ (Value.slice none 0 0) rfl rfl (RV.tmp rfl) (aK.ix [0] rfl rfl) aA.nil
 refine iV<|sqR<|qkMove rfl ?_
 have⟨j8,h⟩:=aH h
 refine aG (oH (e:=bY) (0:Int) rfl rfl rfl rfl j8 rfl rfl rfl) rfl fun u9=>aG (aM.alloc (cs:=[Value.slice none 0 0]) rfl rfl) rfl fun b10=>bZ (Know.one ((aU (aC.res 1 rfl) cI))) fun ho11=>eJ 0 rfl rfl ho11 rfl rfl rfl<|dtN<|aL<|vW (A:=List (Int)) (B:=Unit) (fun a13 b14=>⟨84,uO ([]:List Nat)⟩) (fun a13=>sT fuel p0 p2 a13=some r) (fun a13 b14=>[(3,vP b2),(5,vP b3),(6,Value.slice none 0 0),(7,vI (List.length p0.1:Int)),(8,vP b10)]) (fun a13 b14=>[bO b10 [u9] 22,Ar bY u9 a13,bO b3 [vU (p2)] 25,bO b2 [v0,v1] 28,xL ([]:List Nat)]) (fun a13 b14=>[Sl bM v0 p0.1,S2 aZ v1 z2 p0.2,S2 bM v3 z4 p1]) ?_ ?_
 ·refine sqR<|qkLd 0 rfl<|aB (b_ rfl (aU (aC.res 1 rfl) cI) rfl) rfl<|qkMove rfl<|dtN<|aQ<|ME (A:=Int×List (Int)) (B:=Unit) (fun a71 b72=>⟨84,uO ([]:List Nat)⟩) (oL fuel p0 p1 p2) (fun a71 b72=>[(1,v3),(3,vP b2),(5,vP b3),(6,Value.slice none 0 0),(7,vI (List.length p0.1:Int)),(8,vP b10),(29,vI (List.length (List.replicate (Int.toNat (List.length p0.1:Int)) (0:Int)):Int)),(30,vI (a71.1))]) (fun a71 b72=>[bO b10 [u9] 22,Ar bY u9 a71.2,bO b3 [vU (p2)] 25,bO b2 [v0,v1] 28,xL ([]:List Nat)]) (fun a71 b72=>[Sl bM v0 p0.1,S2 aZ v1 z2 p0.2,S2 bM v3 z4 p1]) ((0:Int),(List.replicate (Int.toNat (List.length p0.1:Int)) (0:Int))) () rfl h SF (aK.refl _) (aA.refl _ _) ?_
  clear h
  intro k73 a71 b72 h
  unfold oL at h
  refine sqR<|qkLss rfl<|dtN<|aL ?_
  refine eL h rfl (fun h=>?_) fun h=>?_
  ·refine iV<|aL<|vW (A:=List (Int)) (B:=Unit) (fun a76 b77=>⟨84,uO ([]:List Nat)⟩) (fun a76=>lD a71 (bG (oL fuel p0 p1 p2) k73) a76=some r) (fun a76 b77=>[(1,v3),(3,vP b2),(5,vP b3),(6,Value.slice none 0 0),(7,vI (List.length p0.1:Int)),(8,vP b10),(29,vI (List.length (List.replicate (Int.toNat (List.length p0.1:Int)) (0:Int)):Int)),(30,vI (a71.1))]) (fun a76 b77=>[bO b10 [u9] 22,Ar bY u9 a76,bO b3 [vU (p2)] 25,bO b2 [v0,v1] 28,xL ([]:List Nat)]) (fun a76 b77=>[Sl bM v0 p0.1,S2 aZ v1 z2 p0.2,S2 bM v3 z4 p1]) ?_ ?_
   ·refine aQ<|sqR<|qkMove rfl<|qkAsg rfl<|dtN<|aQ<|sqR<|qkLd 2 rfl<|qkMove rfl ?_
    have⟨j78,h⟩:=aH h
    refine aB (AG rfl rfl j78) rfl<|aB (oY rfl rfl) rfl<|qkEql rfl<|qkAsg rfl<|dtN ?_
    refine eL h rfl (fun h=>?_) fun h=>?_
    ·refine JR.start [0,0,0,0,12,28,60,124,255,511] 8 mixedOrders (by decide +kernel) ?_
     refine JR.open (by exact rfl) ?_
     refine jkLd 0 rfl<|jkMove rfl<|jkMove rfl<|jkMove rfl ?_
     have⟨j80,h⟩:=aH h
     refine aN rfl .nil (cV.cons (List.mem_of_getElem? (i:=2) rfl) .nil) (cO rfl rfl (aC.fact 0 rfl) rfl rfl j80) aD.z<|aN rfl .nil (cV.cons (List.mem_of_getElem? (i:=2) rfl) .nil) (cM rfl (aC.fact 0 rfl) rfl rfl j80) aD.z ?_
     have⟨j81,h⟩:=aH h
     refine aN rfl .nil (cV.cons (List.mem_of_getElem? (i:=2) rfl) .nil) (a_ rfl rfl (aC.el (aC.fact 0 rfl) j80.1 j80.2) rfl rfl j81) aD.z<|aN rfl .nil (cV.cons (List.mem_of_getElem? (i:=2) rfl) .nil) (bS rfl (aC.el (aC.fact 0 rfl) j80.1 j80.2) rfl rfl rfl dB j81) aD.z<|bL 8 rfl rfl ?_
     have⟨j82,h⟩:=aH h
     refine aB (a_ rfl rfl (aU (aC.res 1 rfl) cI) rfl rfl j82) rfl<|tQ 1 (at' (at' p1 a71.1) (0:Int)) j82 rfl rfl rfl rfl rfl rfl rfl<|dY<|Ag<|inT ?_
     exact lS (List.set a71.2 (Int.toNat a71.1) (at' (at' p1 a71.1) (0:Int))) () rfl h SF (aK.refl _) (aA.refl _ _)
    refine sqR<|qkMove rfl<|aB (tT rfl rfl) rfl<|qkAsg rfl<|dtN ?_
    refine eL h rfl (fun h=>?_) fun h=>?_
    ·refine aO<|qkLd 0 rfl<|qkMove rfl<|qkMove rfl ?_
     have⟨j84,h⟩:=aH h
     refine aB (a_ rfl rfl (aU (aC.res 1 rfl) cI) rfl rfl j84) rfl<|tQ 1 (List.length p0.1:Int) j84 rfl rfl rfl rfl rfl rfl rfl<|dY<|Ag<|inT ?_
     exact lS (List.set a71.2 (Int.toNat a71.1) (List.length p0.1:Int)) () rfl h SF (aK.refl _) (aA.refl _ _)
    refine cU<|Ag<|inT ?_
    exact lS (a71.2) () rfl h SF (aK.refl _) (aA.refl _ _)
   clear h
   intro a76 b77 h
   unfold lD at h
   refine aO<|qkAdd rfl<|qkMove rfl<|dtN ?_
   exact Jn ((wI .i64 (a71.1+(1:Int))),a76) () rfl h SF (aK.refl _) (aA.refl _ _)
  refine xO ?_
  exact lS (a71.2) () rfl h SF (aK.refl _) (aA.refl _ _)
 clear h
 intro a13 b14 h
 unfold sT at h
 refine aL<|vW (A:=List (Int)) (B:=List Nat) (fun a17 b18=>⟨84,uO b18⟩) (fun a17=>sU  a17=some r) (fun a17 b18=>[(8,vP b10)]) (fun a17 b18=>[bO b10 [u9] 22,Ar bY u9 a17,xL b18]) (fun a17 b18=>[Sl bM v0 p0.1,S2 aZ v1 z2 p0.2,S2 bM v3 z4 p1]) ?_ ?_
 ·refine sqR<|qkMove rfl<|qkMove rfl<|dtN<|aQ<|ME (A:=Int×List (Int)) (B:=List Nat) (fun a23 b24=>⟨84,uO b24⟩) (eQ fuel p0 p2) (fun a23 b24=>[(3,vP b2),(5,vP b3),(6,Value.slice none 0 0),(8,vP b10),(56,vI (List.length p0.1:Int)),(57,vI (a23.1))]) (fun a23 b24=>[bO b10 [u9] 22,Ar bY u9 a23.2,bO b3 [vU (p2)] 25,bO b2 [v0,v1] 28,xL b24]) (fun a23 b24=>[Sl bM v0 p0.1,S2 aZ v1 z2 p0.2,S2 bM v3 z4 p1]) ((0:Int),a13) ([]:List Nat) rfl h SF (aK.refl _) (aA.refl _ _) ?_
  clear h
  intro k25 a23 b24 h
  unfold eQ at h
  refine sqR<|qkLss rfl<|dtN<|aL ?_
  refine eL h rfl (fun h=>?_) fun h=>?_
  ·refine iV<|aL<|vW (A:=List (Int)) (B:=List Nat) (fun a29 b30=>⟨84,uO b30⟩) (fun a29=>sV a23 (bG (eQ fuel p0 p2) k25) a29=some r) (fun a29 b30=>[(3,vP b2),(5,vP b3),(6,Value.slice none 0 0),(8,vP b10),(56,vI (List.length p0.1:Int)),(57,vI (a23.1))]) (fun a29 b30=>[bO b10 [u9] 22,Ar bY u9 a29,bO b3 [vU (p2)] 25,bO b2 [v0,v1] 28,xL b30]) (fun a29 b30=>[Sl bM v0 p0.1,S2 aZ v1 z2 p0.2,S2 bM v3 z4 p1]) ?_ ?_
   ·refine aQ<|sqR<|qkLdA 3 rfl<|yA (A:=Unit) (B:=Nat) (vs:=[Value.agg #[v0,v1]]) (fun a32=>sW fuel p0 p2 a23 (bG (eQ fuel p0 p2) k25) a32=some r) (fun a32 b33=>Value.func (.func 50) #[] #[vP b33]) (fun a32 b33=>[bO b33 [v0,v1] 28,bO b10 [u9] 22,Ar bY u9 a23.2,bO b3 [vU (p2)] 25,bO b2 [v0,v1] 28,xL b24]) (fun a32 b33=>[Sl bM v0 p0.1,S2 aZ v1 z2 p0.2,S2 bM v3 z4 p1]) (tO.fn (show aR Tryz.prog 35 from Tryz.call35) rfl) Tryz.func35 rfl Tryz.ntmps35 rfl rfl ?_ ?_
    ·refine sqR<|aG (aM.box (cs:=[v0,v1]) rfl rfl) rfl fun b67=>qkAsg rfl<|dtN<|sqR<|aB (sS (cs:=[.tmp 1]) (vs:=[vP b67]) rfl) rfl<|qkAsg rfl<|dtN<|aS ?_
     exact uR () (b67) h (.inl rfl) (CI.r1 rfl (RV.tmp rfl)) rfl (aK.refl _) (aA.refl _ _)
    clear h
    intro a32 b33 h
    unfold sW at h
    refine dtN<|aQ<|tP (i:=5) (cs:=[vP b33]) b24 rfl (show aR Tryz.prog 50 from Tryz.call50) rfl Tryz.func50 rfl Tryz.ntmps50 rfl fun SH D35 R36 hR37=>sqR<|qkFld rfl<|qkLd 1 rfl<|aB (iX rfl (aC.fact 1 rfl) rfl) rfl<|qkMove rfl<|dtN<|aQ<|loopL (iY fuel p0 p2 a23 (bG (eQ fuel p0 p2) k25)) (fun a41 b42=>[(0,kG SH),(8,v1),(9,vI (List.length p0.2:Int)),(10,vI (a41.1))]) (fun a41 b42=>[Lp SH R36 LoopState.ready none,bO b33 [v0,v1] 28,bO b10 [u9] 22,Ar bY u9 a41.2,bO b3 [vU (p2)] 25,bO b2 [v0,v1] 28,xL (List.cons D35 b24)]) ((0:Int),a23.2) () h SF (aK.refl _) ?_
    clear h
    intro k43 a41 b42 h
    unfold iY at h
    refine sqR<|qkLss rfl<|dtN<|aL ?_
    refine eL h rfl (fun h=>?_) fun h=>?_
    ·refine iV<|aL<|midU (fun a46=>sX a41 (bG (iY fuel p0 p2 a23 (bG (eQ fuel p0 p2) k25)) k43) a46=some r) (fun a46 b47=>[(0,kG SH),(8,v1),(9,vI (List.length p0.2:Int)),(10,vI (a41.1))]) (fun a46 b47=>[Lp SH R36 LoopState.ready none,bO b33 [v0,v1] 28,bO b10 [u9] 22,Ar bY u9 a46,bO b3 [vU (p2)] 25,bO b2 [v0,v1] 28,xL (List.cons D35 b24)]) ?_ ?_
     ·refine aQ<|sqR<|qkMove rfl ?_
      have⟨j48,h⟩:=aH h
      refine aB (cO rfl rfl (aC.fact 1 rfl) rfl rfl j48) rfl<|aB (cM rfl (aC.fact 1 rfl) rfl rfl j48) rfl<|qkAsg rfl<|qkAsg rfl<|dtN<|sqR<|qkMove rfl<|aB (b_ rfl (aC.el (aC.fact 1 rfl) j48.1 j48.2) rfl) rfl<|qkMove rfl<|dtN<|aQ<|loopL (oK p0 p2 a41 (bG (iY fuel p0 p2 a23 (bG (eQ fuel p0 p2) k25)) k43)) (fun a52 b53=>[(0,kG SH),(3,vI (a41.1)),(8,v1),(9,vI (List.length p0.2:Int)),(10,vI (a41.1)),(15,(at' z2 a41.1).1),(16,vI (List.length (at' p0.2 a41.1):Int)),(17,vI (a52.1))]) (fun a52 b53=>[Lp SH R36 LoopState.ready none,bO b33 [v0,v1] 28,bO b10 [u9] 22,Ar bY u9 a52.2,bO b3 [vU (p2)] 25,bO b2 [v0,v1] 28,xL (List.cons D35 b24)]) ((0:Int),a41.2) () h SF (aK.refl _) ?_
      clear h
      intro k54 a52 b53 h
      unfold oK at h
      refine sqR<|qkLss rfl<|dtN<|aL ?_
      refine eL h rfl (fun h=>?_) fun h=>?_
      ·refine iV<|aL<|midU (fun a57=>oJ a52 (bG (oK p0 p2 a41 (bG (iY fuel p0 p2 a23 (bG (eQ fuel p0 p2) k25)) k43)) k54) a57=some r) (fun a57 b58=>[(0,kG SH),(3,vI (a41.1)),(8,v1),(9,vI (List.length p0.2:Int)),(10,vI (a41.1)),(15,(at' z2 a41.1).1),(16,vI (List.length (at' p0.2 a41.1):Int)),(17,vI (a52.1))]) (fun a57 b58=>[Lp SH R36 LoopState.ready none,bO b33 [v0,v1] 28,bO b10 [u9] 22,Ar bY u9 a57,bO b3 [vU (p2)] 25,bO b2 [v0,v1] 28,xL (List.cons D35 b24)]) ?_ ?_
       ·refine aQ<|sqR ?_
        have⟨j59,h⟩:=aH h
        refine aB (a_ rfl rfl (aC.el (aC.fact 1 rfl) j48.1 j48.2) rfl rfl j59) rfl<|aB (fZ (cs:=[vI ((at' (at' p0.2 a41.1) a52.1).1),vI ((at' (at' p0.2 a41.1) a52.1).2)]) rfl (aC.el (aC.fact 1 rfl) j48.1 j48.2) bJ rfl rfl rfl rfl j59) rfl<|aG (aM.alloc (cs:=[vI (0:Int),vI (0:Int)]) rfl rfl) rfl fun b60=>bI 0 (vs:=[vI ((at' (at' p0.2 a41.1) a52.1).1),vI ((at' (at' p0.2 a41.1) a52.1).2)]) rfl rfl rfl rfl rfl rfl<|dtN<|sqR<|qkMove rfl<|qkMove rfl<|qkLdA 0 rfl<|Ax (us:=[vI (a41.1),Value.agg #[vI ((at' (at' p0.2 a41.1) a52.1).1),vI ((at' (at' p0.2 a41.1) a52.1).2)]]) (i:=1) hR37 rfl rfl rfl rfl rfl rfl<|sqR<|qkAsg rfl<|dtN<|aO<|aG (aM.alloc (cs:=[vI (0:Int),vI (0:Int)]) rfl rfl) rfl fun b61=>bI 0 (vs:=[vI ((at' (at' p0.2 a41.1) a52.1).1),vI ((at' (at' p0.2 a41.1) a52.1).2)]) rfl rfl rfl rfl rfl rfl<|dtN<|CE (i:=2) rfl<|aQ<|sqR<|qkLd 6 rfl<|qkMove rfl ?_
        have⟨j62,h⟩:=aH h
        refine aB (AG rfl rfl j62) rfl<|aB (oY rfl rfl) rfl<|qkEql rfl<|dtN ?_
        refine eL h rfl (fun h=>?_) fun h=>?_
        ·refine JR.start [0,0,0,0,12,28,0,0,128,448,960,1984,4092,8191,16383] 13 mixedOrders (by decide +kernel) ?_
         refine JR.open (by exact rfl) ?_
         refine jkLd 4 rfl<|jkMove rfl<|jkLd 4 rfl<|jkMove rfl ?_
         have⟨j64,h⟩:=aH h
         refine aN rfl (aK.cons 5 rfl .nil) .nil (a_ rfl rfl (aU (aC.res 0 rfl) cI) rfl rfl j64) aD.z<|aN rfl (aK.cons 5 rfl .nil) .nil (bS rfl (aU (aC.res 0 rfl) cI) rfl rfl rfl dB j64) aD.z<|jkLd 4 rfl<|jkFld rfl<|jkLd 0 rfl ?_
         have⟨j65,h⟩:=aH h
         refine aN rfl (aK.cons 5 rfl .nil) .nil (a_ rfl rfl (aU (aC.res 0 rfl) cI) rfl rfl j65) aD.z<|aN rfl (aK.cons 5 rfl .nil) .nil (bS rfl (aU (aC.res 0 rfl) cI) rfl rfl rfl dB j65) aD.z<|aN rfl .nil .nil (pS rfl rfl) aD.z<|aN rfl .nil .nil (PW rfl rfl) aD.z<|bL 13 rfl rfl ?_
         have⟨j66,h⟩:=aH h
         refine aB (a_ rfl rfl (aU (aC.res 5 rfl) cI) rfl rfl j66) rfl<|tQ 5 (min (at' a52.2 a41.1) (wI .i64 ((at' a52.2 ((at' (at' p0.2 a41.1) a52.1).1))+(1:Int)))) j66 rfl rfl rfl rfl rfl rfl rfl<|dY<|Ag<|vN (i:=2) rfl<|aB (oD rfl) rfl<|dtN<|wE rfl<|cU<|inT ?_
         exact cF (List.set a52.2 (Int.toNat a41.1) (min (at' a52.2 a41.1) (wI .i64 ((at' a52.2 ((at' (at' p0.2 a41.1) a52.1).1))+(1:Int))))) () h SF (aK.ix [2,3,4,5,6,7,8] rfl rfl) (aA.refl _ _)
        refine cU<|Ag<|vN (i:=2) rfl<|aB (oD rfl) rfl<|dtN<|wE rfl<|cU<|inT ?_
        exact cF (a52.2) () h SF (aK.ix [2,3,4,5,6,7,8] rfl rfl) (aA.refl _ _)
       clear h
       intro a57 b58 h
       unfold oJ at h
       refine aO<|qkAdd rfl<|qkMove rfl<|dtN ?_
       exact xK ((wI .i64 (a52.1+(1:Int))),a57) () h SF rfl
      refine nO<|cX<|cX<|tA<|inT ?_
      exact iJ (a52.2) () h SF rfl
     clear h
     intro a46 b47 h
     unfold sX at h
     refine aO<|qkAdd rfl<|qkMove rfl<|dtN ?_
     exact xK ((wI .i64 (a41.1+(1:Int))),a46) () h SF rfl
    refine nO<|cX<|cX<|tA<|Ff (i:=0) (.inr rfl) rfl (CI.r0 rfl)<|Ag<|inT ?_
    exact lS (a41.2) (List.cons D35 b24) rfl h SF (aK.ix [2,3,4,5,6] rfl rfl) (aA.refl _ _)
   clear h
   intro a29 b30 h
   unfold sV at h
   refine aO<|qkAdd rfl<|qkMove rfl<|dtN ?_
   exact Jn ((wI .i64 (a23.1+(1:Int))),a29) (b30) rfl h SF (aK.refl _) (aA.refl _ _)
  refine xO ?_
  exact lS (a23.2) (b24) rfl h SF (aK.ix [0,1,4] rfl rfl) (aA.refl _ _)
 clear h
 intro a17 b18 h
 unfold sU at h
 refine sqR<|qkLd 0 rfl<|qkAsg rfl<|dtN<|aS<|gE (i:=2) (Ds:=(b18)) (.inl rfl) rfl ?_
 cases h
 exact fQ (u9) rfl rfl (RV.tmp rfl) (aK.ix [1] rfl rfl) aA.nil
end Go.Proofs.YtigggfnchamobaaGreatDoor
end
section
set_option maxRecDepth 100000
namespace Go.Gx
open Go Go.Sx Go.Proofs Go.Proofs.YtigggfnchamobaaGreatDoor
noncomputable section
def Yj (us:List GV) (H:GH):OR:=a1 us fun x0=>ob (Iy H x0) fun p0=>ob (eI 1000 p0) fun r=>Ry r H
def Yi (us:List GV) (H:GH):OR:=a2 us fun x0 x1=>ob (XY H x0) fun p0=>ob (XZ .i64 x1) fun p1=>ob (iZ 1000 p0 p1) fun r=>Mg r H
def Yh (us:List GV) (H:GH):OR:=a3 us fun x0 x1 x2=>ob (Iy H x0) fun p0=>ob (QB H x1) fun p1=>ob (XZ .u32 x2) fun p2=>ob (kY 1000 p0 p1 p2) fun r=>Ry r H
def Yg (us:List GV) (H:GH):OR:=a3 us fun x0 x1 x2=>ob (Iy H x0) fun p0=>ob (QB H x1) fun p1=>ob (XZ .u32 x2) fun p2=>ob (uC 1000 p0 p1 p2) fun r=>Rz r H
def QU (f:Nat) (us:List GV) (H:GH):Option (GV×GH):=bif Nat.beq f 40 then Yj us H else bif Nat.beq f 27 then Yi us H else bif Nat.beq f 22 then Yh us H else bif Nat.beq f 12 then Yg us H else none
abbrev gl:Nat->vM:=glb 0 (cellsOf Fb vT)
def gp:GP:=⟨tI,46,QU,QT 162⟩
section
variable {T:Nat} {w0:dN (gl T)} {w:World} {ρ:cW} {H H':GH} {g:GV} {us:List GV} {vs:List Value}
theorem Ul (h:Yj us H=some (g,H')) (R:eK w0 ρ H w) (hr:mY ρ us vs):iP Tryz.prog w0 ρ 40 vs w g H':=by
 obtain⟨x0,rfl,h⟩:=ML h
 obtain⟨p0,hp0,h⟩:=aE.1 h
 obtain⟨r,hm,h⟩:=aE.1 h
 obtain⟨V0,rfl,hv0⟩:=hr.one
 obtain⟨w0a,w0b,z0,rfl,f0a,f0b⟩:=DD R hv0 hp0
 obtain⟨rfl,rfl⟩:=Gr h
 exact Ga FE (rY 1000 (p0:=p0) w0a w0b z0 r hm) R (List.forall_mem_cons.2 ⟨f0a,List.forall_mem_cons.2 ⟨f0b,fun f hf=>absurd hf List.not_mem_nil⟩⟩) fun ρ=> .bool _
theorem Uk (h:Yi us H=some (g,H')) (R:eK w0 ρ H w) (hr:mY ρ us vs):iP Tryz.prog w0 ρ 27 vs w g H':=by
 obtain⟨x0,x1,rfl,h⟩:=MM h
 obtain⟨p0,hp0,h⟩:=aE.1 h
 obtain⟨p1,hp1,h⟩:=aE.1 h
 obtain⟨r,hm,h⟩:=aE.1 h
 obtain⟨V0,vs,rfl,hv0,hr⟩:=hr.of_cons
 obtain⟨V1,rfl,hv1⟩:=hr.one
 obtain⟨w0a,w0b,w0c,rfl,f0a,f0b,f0c⟩:=TW R hv0 hp0
 obtain rfl:=Iz hv1 hp1
 obtain⟨h1,h2,h3,rfl,rfl⟩:=Ks h
 exact LX Vd Yb h1 h2 h3 Qh (xD 1000 (p0:=p0) (p1:=p1) w0a w0b w0c r hm) R (List.forall_mem_cons.2 ⟨f0a,List.forall_mem_cons.2 ⟨f0b,List.forall_mem_cons.2 ⟨f0c,fun f hf=>absurd hf List.not_mem_nil⟩⟩⟩)
theorem Uj (h:Yh us H=some (g,H')) (R:eK w0 ρ H w) (hr:mY ρ us vs):iP Tryz.prog w0 ρ 22 vs w g H':=by
 obtain⟨x0,x1,x2,rfl,h⟩:=Il h
 obtain⟨p0,hp0,h⟩:=aE.1 h
 obtain⟨p1,hp1,h⟩:=aE.1 h
 obtain⟨p2,hp2,h⟩:=aE.1 h
 obtain⟨r,hm,h⟩:=aE.1 h
 obtain⟨V0,vs,rfl,hv0,hr⟩:=hr.of_cons
 obtain⟨V1,vs,rfl,hv1,hr⟩:=hr.of_cons
 obtain⟨V2,rfl,hv2⟩:=hr.one
 obtain⟨w0a,w0b,z0,rfl,f0a,f0b⟩:=DD R hv0 hp0
 obtain⟨z1,f1⟩:=J_ R hv1 hp1
 obtain rfl:=Iz hv2 hp2
 obtain⟨rfl,rfl⟩:=Gr h
 exact Ga VO (Ea 1000 (p0:=p0) (p1:=p1) (p2:=p2) w0a w0b z0 V1 z1 r hm) R (List.forall_mem_cons.2 ⟨f0a,List.forall_mem_cons.2 ⟨f0b,List.forall_mem_cons.2 ⟨f1,fun f hf=>absurd hf List.not_mem_nil⟩⟩⟩) fun ρ=> .bool _
theorem Ui (h:Yg us H=some (g,H')) (R:eK w0 ρ H w) (hr:mY ρ us vs):iP Tryz.prog w0 ρ 12 vs w g H':=by
 obtain⟨x0,x1,x2,rfl,h⟩:=Il h
 obtain⟨p0,hp0,h⟩:=aE.1 h
 obtain⟨p1,hp1,h⟩:=aE.1 h
 obtain⟨p2,hp2,h⟩:=aE.1 h
 obtain⟨r,hm,h⟩:=aE.1 h
 obtain⟨V0,vs,rfl,hv0,hr⟩:=hr.of_cons
 obtain⟨V1,vs,rfl,hv1,hr⟩:=hr.of_cons
 obtain⟨V2,rfl,hv2⟩:=hr.one
 obtain⟨w0a,w0b,z0,rfl,f0a,f0b⟩:=DD R hv0 hp0
 obtain⟨z1,f1⟩:=J_ R hv1 hp1
 obtain rfl:=Iz hv2 hp2
 obtain⟨h1,rfl,rfl⟩:=Mh h
 exact Um Vd h1 VK (Dh 1000 (p0:=p0) (p1:=p1) (p2:=p2) w0a w0b z0 V1 z1 r hm) R (List.forall_mem_cons.2 ⟨f0a,List.forall_mem_cons.2 ⟨f0b,List.forall_mem_cons.2 ⟨f1,fun f hf=>absurd hf List.not_mem_nil⟩⟩⟩)
theorem ID {f:Nat} (h:QU f us H=some (g,H')) (R:eK w0 ρ H w) (hr:mY ρ us vs):iP Tryz.prog w0 ρ f vs w g H':=by
 unfold QU at h
 cases e0:Nat.beq f 40 with
 |true=>rw[e0]at h;rw[Nat.eq_of_beq_eq_true e0];exact Ul h R hr
 |false=>
 rw[e0]at h
 cases e1:Nat.beq f 27 with
 |true=>rw[e1]at h;rw[Nat.eq_of_beq_eq_true e1];exact Uk h R hr
 |false=>
 rw[e1]at h
 cases e2:Nat.beq f 22 with
 |true=>rw[e2]at h;rw[Nat.eq_of_beq_eq_true e2];exact Uj h R hr
 |false=>
 rw[e2]at h
 cases e3:Nat.beq f 12 with
 |true=>rw[e3]at h;rw[Nat.eq_of_beq_eq_true e3];exact Ui h R hr
 |false=>
 rw[e3]at h
 cases h
end
theorem Wv:Ya Tryz.prog tI=true:=by kernel_rfl
theorem EZ:eB Tryz.prog tI:=⟨KQ,Wu Wv⟩
theorem WS {gs:vM} (w0:dN gs):pZ Tryz.prog w0 (Hr tI 64 Tryz.f64):=Qr EZ mixedOrders Tryz.func64 Tryz.call64 (by kernel_rfl)
theorem Wo (args:Array Value) (w:World) (hs:args.size=2):CallsDIn (FR none) 0 Tryz.prog 63 args .returning w fun e u' w'=>∃v,e = .returned v∧u' = .returning∧Ic w w':=by
 obtain⟨out,h,he⟩:=RA (r:=BN tI (Hr tI 64 Tryz.f64) (Iv Tryz.f63) (T_ tI (Hr tI 64 Tryz.f64) (fun _ _ _ _=>none) (Qp Tryz.f63) 0 ⟨[],0,[]⟩ (Da [])) (Iv Tryz.f63).tail ⟨[(TU Tryz.f63,.inil)],H0⟩) (by kernel_rfl)
 exact Ot (ch:=Hr tI 64 Tryz.f64) (lp:=fun _ _ _ _=>none) EZ mixedOrders WS Eo Tryz.func63 rfl rfl rfl (by decide +kernel) (fun ρ w=>by simp[execOp,resolve,invoke,builtin]) (by kernel_rfl) (by kernel_rfl) rfl (by rw[hs];decide +kernel) h he
theorem Yc {gs:vM} {ext:FuncId->List GV->GH->Option (GV×GH)} (hx:∀(w0:dN gs) {f us H g H'},ext f us H=some (g,H')->∀ρ w vs,eK w0 ρ H w->mY ρ us vs->iP Tryz.prog w0 ρ f vs w g H') (w0:dN gs):N_ Tryz.prog ⟨tI,46,ext,QT 162⟩ DX.fns w0:=by
 refine⟨EZ,mixedOrders,fun h=> ?_,hx w0,fun h ρ w vs H R hr=>Uf Tryz.func162 rfl rfl rfl rfl h ρ w vs H R hr,fun R hc h1 h2=> ?_⟩
 ·obtain⟨e,he,h⟩:=aE.1 (show ob (NG _) _=some _ from h)
  cases h
  obtain⟨q1,q2,q3⟩:=RR he
  exact⟨q1,q2,Kt q3⟩
 ·exact Wi (tb:=tI) (T1:=3) (T2:=45) (cc:=63) EZ Tryz.func46 Tryz.call46 Tryz.call63 rfl rfl rfl (MP (by kernel_rfl)) (MP (by kernel_rfl)) (NM rfl rfl) (NM rfl rfl) (Rj rfl rfl) (Rj rfl rfl) Wo R hc h1 h2
theorem QW {T:Nat} (w0:dN (gl T)):N_ Tryz.prog gp DX.fns w0:=Yc (fun w0 f us H g H' h ρ w vs R hr=>ID h R hr) w0
def gp0:GP:=⟨tI,46,fun _ _ _=>none,QT 162⟩
theorem aax (w0:dN WQ):N_ Tryz.prog gp0 DX.fns w0:=Yc (fun w0 f us H g H' h=>by cases h) w0
end
end Go.Gx
end
section
namespace Go.Gx
open Go Go.Sx Go.RowKit
mutual
def De (k:Nat):GV->GV
 | .ptr h o=> .ptr (k+h) o
 | .sl h o l s=> .sl (k+h) o l s
 | .map h=> .map (k+h)
 | .fn f a b=> .fn f (Pn k a) (Pn k b)
 | .agg cs=> .agg (Pn k cs)
 | .tup vs=> .tup (Pn k vs)
 | .int a b=> .int a b
 | .bool b=> .bool b
 | .str a b=> .str a b
 | .pnil=> .pnil
 | .snil=> .snil
 | .fnil=> .fnil
 | .inil=> .inil
 | .un=> .un
 | .bad=> .bad
 | .opn h=> .opn (k+h)
def Pn (k:Nat):List GV->List GV
 | []=>[]
 |v::r=>De k v::Pn k r
end
theorem IY (k:Nat):∀(l:List GV) (i:Nat),(Pn k l)[i]? = (l[i]?).map (De k)
 | [],i=>rfl
 |v::r,0=>rfl
 |v::r,i+1=>by simpa [Pn]using IY k r i
theorem BA (k:Nat):∀(l:List GV),(Pn k l).length=l.length
 | []=>rfl
 |v::r=>by simp[Pn,BA k r]
def SI (k:Nat):GO->GO
 | .cells cs=> .cells (Pn k cs)
 | .mp es=> .mp (es.map fun e=>(De k e.1,De k e.2))
def xA (k:Nat) (l:Hi):Hi:={l with o:=SI k l.o}
theorem Rl.shift {ρ ρ':cW} {k:Nat} (hρ:∀h l,ρ h=some l->ρ' (k+h)=some (xA k l)) {g:GV} {v:Value} (h:Rl ρ g v):Rl ρ' (De k g) v:=by
 have lst:∀{us:List GV} {us':List Value},(∀(i:Nat) g v,us[i]? = some g->us'[i]? = some v->Rl ρ' (De k g) v)->∀(i:Nat) g v,(Pn k us)[i]? = some g->us'[i]? = some v->Rl ρ' g v:=by
  intro us us' hh i g v hg hv
  rw[IY]at hg
  obtain⟨g0,h0,rfl⟩:=Option.map_eq_some_iff.1 hg
  exact hh i g0 v h0 hv
 induction h with
 |int a n=>simp only[De];exact .int a n
 |bool b=>simp only[De];exact .bool b
 |str s=>simp only[De];exact .str s
 |ptr off h=>simp only[De];exact .ptr (l:=xA k _) off (hρ _ _ h)
 |pnil=>simp only[De];exact .pnil
 |sl h hc ha=>simp only[De];exact .sl (l:=xA k _) (hρ _ _ h) hc ha
 |snil=>simp only[De];exact .snil
 |map h=>simp only[De];exact .map (l:=xA k _) (hρ _ _ h)
 |fn f h1 h2 h3 h4 ih2 ih4=>simp only[De];exact .fn f (by rw[BA];exact h1) (lst ih2) (by rw[BA];exact h3) (lst ih4)
 |fnil=>simp only[De];exact .fnil
 |inil=>simp only[De];exact .inil
 |agg h1 h2 h3 ih=>simp only[De];exact .agg (by rw[BA];exact h1) (lst ih) h3
 |tup h1 h2 ih=>simp only[De];exact .tup (by rw[BA];exact h1) (lst ih)
 |un=>simp only[De];exact .un
 |bad v=>simp only[De];exact .bad v
 |opn v h hx=>simp only[De];exact .opn (l:=xA k _) v (hρ _ _ h) hx

abbrev OL:=List (Nat×Nat×GO)
def Pm:OL->Nat->Option (Nat×GO)
 | [],_=>none
 |x::r,h=>if h=x.1 then some x.2 else Pm r h
theorem IL {os:OL} {h:Nat} {p:Nat×GO} (hl:Pm os h=some p):(h,p)∈os:=by
 induction os with
 |nil=>cases hl
 |cons x r ih=>
  simp only[Pm]at hl
  split at hl
  ·rename_i e;cases hl;subst e;exact List.mem_cons_self
  ·exact List.mem_cons_of_mem _ (ih hl)
noncomputable def Kz (k:Nat) (t:Tr (Nat×GO)):OL->Tr (Nat×GO)
 | []=>t
 |x::r=>(Kz k t r).set (some (k+x.2.1,SI k x.2.2)) (k+x.1)
noncomputable def UD:OL->Tr (Nat×GO)
 | []=> .lf
 |x::r=>(UD r).set (some x.2) x.1
theorem AT:∀(os:OL) (h:Nat),(UD os).get h=Pm os h
 | [],h=>rfl
 |x::r,h=>by
  show((UD r).set (some x.2) x.1).get h=_
  rw[qC]
  simp only[Pm]
  split
  ·rfl
  ·exact AT r h
theorem Gt (k:Nat) (t:Tr (Nat×GO)):∀(os:OL) (h:Nat),(Kz k t os).get h=if k<=h then(match Pm os (h - k)with|some p=>some (k+p.1,SI k p.2)|none=>t.get h)else t.get h
 | [],h=>by simp[Kz,Pm]
 | x :: r, h => by
  show((Kz k t r).set (some (k+x.2.1,SI k x.2.2)) (k+x.1)).get h=_
  rw[qC,Gt k t r h]
  by_cases e:h=k+x.1
  ·subst e
   rw[if_pos rfl,if_pos (by omega)]
   simp[Pm]
  ·rw[if_neg e]
   by_cases hk:k<=h
   ·rw[if_pos hk,if_pos hk]
    simp only[Pm]
    rw[if_neg (show¬h - k=x.1 by omega)]
   ·rw[if_neg hk,if_neg hk]
noncomputable def EV (n:Nat) (os:OL):GH:=⟨n,UD os⟩
noncomputable def GH.load (H:GH) (n:Nat) (os:OL):GH:=⟨H.n+n,Kz H.n H.t os⟩
section
variable {gs:vM} {w0:dN gs} {w w':World} {ρ ρ2:cW} {H:GH} {n:Nat} {os:OL}
theorem fJ {H:GH} {h:Nat} {o:GO}:H.get h=some o↔∃v,H.t.get h=some (v,o):=by
 unfold GH.get
 cases hh:H.t.get h with
 |none=>simp[ob]
 |some p=>obtain⟨a,b⟩:=p;simp[ob]
theorem qA {H:GH} {h v:Nat}:H.ver h=some v↔∃o,H.t.get h=some (v,o):=by
 unfold GH.ver
 cases hh:H.t.get h with
 |none=>simp[ob]
 |some p=>obtain⟨a,b⟩:=p;simp[ob]
theorem eK.sub {H2:GH} (R:eK w0 ρ H w) (hn:H2.n=H.n) (hs:∀h p,H2.t.get h=some p->H.t.get h=some p):eK w0 ρ H2 w:=by
 have g:∀h o,H2.get h=some o->H.get h=some o:=fun h o hg=>by
  obtain⟨v,hv⟩:=fJ.1 hg
  exact fJ.2 ⟨v,hs _ _ hv⟩
 refine⟨R.ext,fun h o hg=>R.live h o (g h o hg),fun h h' o o' l l' h1 h2=>R.inj h h' o o' l l' (g _ _ h1) (g _ _ h2),fun h hh=>R.fresh h (by omega),fun h hh=>R.dense h (by omega),fun h v l hv hl=> ?_,R.env⟩
 obtain⟨o,ho⟩:=qA.1 hv
 obtain⟨lv,a,b,c⟩:=R.vers h v l (qA.2 ⟨o,hs _ _ ho⟩) hl
 refine⟨lv,a,b,?_⟩
 have h1:=fJ.2 ⟨v,ho⟩
 have h2:=g _ _ h1
 rw[c]at h2;cases h2;exact h1
theorem uL.shift {l:Hi} {o:GO} {ρ':cW} {k:Nat} (hρ:∀h l,ρ2 h=some l->ρ' (k+h)=some (xA k l)) (h:uL ρ2 w l o):uL ρ' w (xA k l) (SI k o):=by
 cases o with
 |cells cs=>
  obtain⟨cur,T,h1,h2,h3,h4⟩:=h
  refine⟨cur,T,h1,h2,by rw[BA];exact h3,fun i g hg=> ?_⟩
  rw[IY]at hg
  obtain⟨g0,h0,rfl⟩:=Option.map_eq_some_iff.1 hg
  obtain⟨v,a,b,c⟩:=h4 i g0 h0
  exact⟨v,a,b.shift hρ,c⟩
 |mp es=>
  obtain⟨en,cl,h1,h2,h3⟩:=h
  refine⟨en,cl,h1,by simpa [SI]using h2,fun i g hg=> ?_⟩
  rw[List.getElem?_map]at hg
  obtain⟨g0,h0,rfl⟩:=Option.map_eq_some_iff.1 hg
  obtain⟨m,a,b,c⟩:=h3 i g0 h0
  exact⟨m,a,b.shift hρ,c.shift hρ⟩
theorem eK.join {gs2:vM} {hb:Ee gs2 w fun _=>False} (R:eK w0 ρ H w) (R2:eK (dN.of w hb) ρ2 (EV n os) w'):
  ∃ρ':cW,ρ.le ρ'∧eK w0 ρ' (H.load n os) w'∧∀g v,Rl ρ2 g v->Rl ρ' (De H.n g) v:=by
 let ρ':cW:=fun h=>if h<H.n then ρ h else(ρ2 (h - H.n)).map (xA H.n)
 have hle:ρ.le ρ':=fun h l hl=>by
  have hlt:h<H.n:=by
   rcases Nat.lt_or_ge h H.n with q|q
   ·exact q
   ·rw[R.fresh h q]at hl;cases hl
  show(if h<H.n then ρ h else _)=_
  rw[if_pos hlt];exact hl
 have hsh:∀h l,ρ2 h=some l->ρ' (H.n+h)=some (xA H.n l):=fun h l hl=>by
  show(if H.n+h<H.n then _ else _)=_
  rw[if_neg (by omega),show H.n+h - H.n=h by omega,hl];rfl
 have hlow:∀h,h<H.n->ρ' h=ρ h:=fun h hh=>by show(if h<H.n then ρ h else _)=_;rw[if_pos hh]
 have hhigh:∀h,H.n<=h->ρ' h=(ρ2 (h - H.n)).map (xA H.n):=fun h hh=>by show(if h<H.n then ρ h else _)=_;rw[if_neg (by omega)]
 have hnone:∀h,H.n<=h->H.t.get h=none:=fun h hh=>by
  cases hg:H.t.get h with
  |none=>rfl
  |some p=>exact absurd (R.lt (fJ.2 ⟨p.1,hg⟩)) (by omega)
 have gl:∀h,h<H.n->(H.load n os).t.get h=H.t.get h:=fun h hh=>by
  show(Kz H.n H.t os).get h=_
  rw[Gt,if_neg (by omega)]
 have gh:∀h p,H.n<=h->(H.load n os).t.get h=some p->∃p2,(EV n os).t.get (h - H.n)=some p2∧p=(H.n+p2.1,SI H.n p2.2):=fun h p hh hp=>by
  have hp':(Kz H.n H.t os).get h=some p:=hp
  rw[Gt,if_pos hh,hnone h hh]at hp'
  cases hk:Pm os (h - H.n)with
  |none=>rw[hk]at hp';cases hp'
  |some p2=>rw[hk]at hp';cases hp';exact⟨p2,(AT os _).trans hk,rfl⟩
 have e2:Ic w w':=R2.ext.ext
 have mine2:∀l:Hi,(dN.of w hb).mine l.b->w.heap.size<=l.b:=fun l h=>by
  rcases h with h|h
  ·exact h
  ·exact h.elim
 have liveL:∀h o,h<H.n->(H.load n os).get h=some o->∃l,ρ h=some l∧w0.mine l.b∧uL ρ w l o∧H.get h=some o:=fun h o hh hg=>by
  obtain⟨v,hv⟩:=fJ.1 hg
  rw[gl h hh]at hv
  have hg':=fJ.2 ⟨v,hv⟩
  obtain⟨l,a,b,c⟩:=R.live h o hg'
  exact⟨l,a,b,c,hg'⟩
 have liveH:∀h o,H.n<=h->(H.load n os).get h=some o->∃l o2,ρ2 (h - H.n)=some l∧w.heap.size<=l.b∧uL ρ2 w' l o2∧o=SI H.n o2∧(EV n os).get (h - H.n)=some o2:=fun h o hh hg=>by
  obtain⟨v,hv⟩:=fJ.1 hg
  obtain⟨p2,h2,e⟩:=gh h _ hh hv
  cases e
  have hg':(EV n os).get (h - H.n)=some p2.2:=fJ.2 ⟨p2.1,h2⟩
  obtain⟨l,a,b,c⟩:=R2.live _ _ hg'
  exact⟨l,p2.2,a,mine2 l b,c,rfl,hg'⟩
 refine⟨ρ',hle,⟨R.ext.trans e2,fun h o hg=> ?_,fun h h' o o' l l' h1 h2 hl hl' hbb=> ?_,fun h hh=> ?_,fun h hh=> ?_,fun h v l hv hl=> ?_,fun i v e=>let ⟨l,a,b⟩:=R.env i v e;⟨l,hle _ _ a,b⟩⟩,fun g v hg=>hg.shift hsh⟩
 ·rcases Nat.lt_or_ge h H.n with q|q
  ·obtain⟨l,a,b,c,_⟩:=liveL h o q hg
   exact⟨l,by rw[hlow h q];exact a,b,c.move hle (e2.block _ c.lt)⟩
  ·obtain⟨l,o2,a,b,c,rfl,_⟩:=liveH h o q hg
   exact⟨xA H.n l,by rw[hhigh h q,a];rfl,.inl (Nat.le_trans R.ext.size b),c.shift hsh⟩
 ·rcases Nat.lt_or_ge h H.n with q|q<;>rcases Nat.lt_or_ge h' H.n with q'|q'
  ·obtain⟨l1,a1,_,_,g1⟩:=liveL h o q h1
   obtain⟨l2,a2,_,_,g2⟩:=liveL h' o' q' h2
   rw[hlow h q,a1]at hl;rw[hlow h' q',a2]at hl'
   cases hl;cases hl'
   exact R.inj h h' o o' _ _ g1 g2 a1 a2 hbb
  ·obtain⟨l1,a1,_,c1,g1⟩:=liveL h o q h1
   obtain⟨l2,o2,a2,b2,_,rfl,g2⟩:=liveH h' o' q' h2
   rw[hlow h q,a1]at hl;rw[hhigh h' q',a2]at hl'
   cases hl;cases hl'
   have:=c1.lt
   simp only[xA]at hbb
   omega
  ·obtain⟨l1,o1,a1,b1,_,rfl,g1⟩:=liveH h o q h1
   obtain⟨l2,a2,_,c2,g2⟩:=liveL h' o' q' h2
   rw[hhigh h q,a1]at hl;rw[hlow h' q',a2]at hl'
   cases hl;cases hl'
   have:=c2.lt
   simp only[xA]at hbb
   omega
  ·obtain⟨l1,o1,a1,b1,_,rfl,g1⟩:=liveH h o q h1
   obtain⟨l2,o2,a2,b2,_,rfl,g2⟩:=liveH h' o' q' h2
   rw[hhigh h q,a1]at hl;rw[hhigh h' q',a2]at hl'
   cases hl;cases hl'
   have:=R2.inj _ _ _ _ _ _ g1 g2 a1 a2 hbb
   omega
 ·have hh':H.n+n<=h:=hh
  rw[hhigh h (by omega),R2.fresh (h - H.n) (by show n<=_;omega)];rfl
 ·have hh':h<H.n+n:=hh
  rcases Nat.lt_or_ge h H.n with q|q
  ·obtain⟨l,hl⟩:=R.dense h q
   exact⟨l,by rw[hlow h q];exact hl⟩
  ·obtain⟨l,hl⟩:=R2.dense (h - H.n) (by show _<n;omega)
   exact⟨xA H.n l,by rw[hhigh h q,hl];rfl⟩
 ·obtain⟨o,ho⟩:=qA.1 hv
  rcases Nat.lt_or_ge h H.n with q|q
  ·rw[gl h q]at ho
   rw[hlow h q]at hl
   obtain⟨lv,a,b,c⟩:=R.vers h v l (qA.2 ⟨o,ho⟩) hl
   have hg:=fJ.2 ⟨v,ho⟩
   obtain⟨l',hl',_,ck⟩:=R.live h o hg
   rw[hl]at hl';cases hl'
   refine⟨lv,hle _ _ a,by rw[e2.block _ ck.lt];exact b,?_⟩
   obtain⟨v2,hv2⟩:=fJ.1 c
   exact fJ.2 ⟨v2,by rw[gl h q];exact hv2⟩
  ·obtain⟨p2,h2,e⟩:=gh h _ q ho
   cases e
   rw[hhigh h q]at hl
   obtain⟨l2,hl2,rfl⟩:=Option.map_eq_some_iff.1 hl
   obtain⟨lv,a,b,c⟩:=R2.vers (h - H.n) p2.1 l2 (qA.2 ⟨p2.2,h2⟩) hl2
   refine⟨xA H.n lv,hsh _ _ a,b,?_⟩
   have h3:(EV n os).get (h - H.n)=some p2.2:=fJ.2 ⟨p2.1,h2⟩
   rw[c]at h3
   have h4:=Option.some.inj h3
   exact fJ.2 ⟨_,by rw[ho,<-h4];rfl⟩
end

theorem QJ {a b:Nat×Nat} (h:Lg a b=true):a=b:=by
 obtain⟨a1,a2⟩:=a
 obtain⟨b1,b2⟩:=b
 unfold Lg at h
 cases h2:Nat.beq a2 b2 with
 |false=>simp[h2]at h
 |true=>
  simp only[h2,cond_true]at h
  rw[Nat.eq_of_beq_eq_true h,Nat.eq_of_beq_eq_true h2]
theorem Mn {ρ:cW} {n l:Nat} {x:ByteArray} (e1:n=jW (bB x)) (e2:l=(bB x).length):Rl ρ (.str n l) (.string x):=by
 rw[e1,e2];exact .str x
def WB (us:List GV) (p:Nat×Nat):Bool:=List.casesOn (motive:=fun _=>Bool) us false fun u r=>List.casesOn (motive:=fun _=>Bool) r (Option.casesOn (motive:=fun _=>Bool) (GV.asStr u) false fun s=>Lg s p) fun _ _=>false
theorem Q_ {us:List GV} {p:Nat×Nat} (h:WB us p=true):us=[.str p.1 p.2]:=by
 cases us with
 |nil=>cases h
 | cons u r =>
  cases r with
  |cons _ _=>cases h
  | nil =>
   cases hu:GV.asStr u with
   |none=>simp[WB,hu]at h
   |some s=>
    have:Lg s p=true:=by simpa [WB,hu]using h
    rw[nT hu,QJ this]
noncomputable section
def RH (H:GH) (hs:List Nat):Option OL:=List.rec (motive:=fun _=>Option OL) (some []) (fun h _ ih=>ob (H.t.get h) fun p=>ob ih fun r=>some ((h,p.1,p.2)::r)) hs
theorem DV {H:GH}:∀{hs:List Nat} {os:OL},RH H hs=some os->∀x∈os,H.t.get x.1=some x.2
 | [],os,h,x,hx=>by cases h;cases hx
 |h0::hs,os,h,x,hx=>by
  obtain⟨p,hp,h⟩:=aE.1 (show ob (H.t.get h0) (fun p=>ob (RH H hs) fun r=>some ((h0,p.1,p.2)::r))=some os from h)
  obtain⟨r,hr,h⟩:=aE.1 h
  cases h
  rcases List.mem_cons.1 hx with rfl|hx
  ·exact hp
  ·exact DV hr x hx
def Nv (T:CK) (G:GP) (fuel f:Nat) (us:List GV) (hs:List Nat):Option (GV×Nat×OL):=ob (FI T G fuel f us H0) fun r=>ob (RH r.2 hs) fun os=>some (r.1,r.2.n,os)
def Yz {R:Type} (k:Nat) (v:GV) (f:GV->R):R:=GV.casesOn (motive_1:=fun _=>R) v (fun a b=>f (.int a b)) (fun b=>f (.bool b)) (fun a b=>f (.str a b)) (fun h o=>sn (Nat.add k h) fun h=>f (.ptr h o)) (f .pnil) (fun h o l s=>sn (Nat.add k h) fun h=>f (.sl h o l s)) (f .snil) (fun h=>sn (Nat.add k h) fun h=>f (.map h)) (fun a b c=>f (De k (.fn a b c))) (f .fnil) (f .inil) (fun cs=>f (De k (.agg cs))) (fun vs=>f (De k (.tup vs))) (f .un) (f .bad) (fun h=>sn (Nat.add k h) fun h=>f (.opn h))
theorem Sa {R:Type} (k:Nat) (v:GV) (f:GV->R):Yz k v f=f (De k v):=by
 cases v<;>simp[Yz,rW,De]
def WY {R:Type} (k:Nat) (l:List GV):(List GV->R)->R:=List.rec (motive:=fun _=>(List GV->R)->R) (fun f=>f []) (fun x _ ih f=>Yz k x fun y=>ih fun r=>f (y::r)) l
theorem NK {R:Type} (k:Nat):∀(l:List GV) (f:List GV->R),WY k l f=f (Pn k l)
 | [],f=>rfl
 |x::l,f=>by
  show Yz k x (fun y=>WY k l fun r=>f (y::r))=_
  rw[Sa,NK k l];rfl
def WZ {R:Type} (k:Nat) (o:GO) (f:GO->R):R:=GO.casesOn (motive:=fun _=>R) o (fun cs=>WY k cs fun cs=>f (.cells cs)) (fun es=>f (SI k (.mp es)))
theorem UL {R:Type} (k:Nat) (o:GO) (f:GO->R):WZ k o f=f (SI k o):=by
 cases o with
 |cells cs=>exact NK k cs _
 |mp es=>rfl
def WR {R:Type} (k:Nat) (t:Tr (Nat×GO)) (os:OL):(Tr (Nat×GO)->R)->R:=List.rec (motive:=fun _=>(Tr (Nat×GO)->R)->R) (fun f=>f t) (fun x _ ih f=>ih fun t=>sn (Nat.add k x.2.1) fun v=>sn (Nat.add k x.1) fun h=>WZ k x.2.2 fun o=>t.setK (some (v,o)) h f) os
theorem ND {R:Type} (k:Nat) (t:Tr (Nat×GO)):∀(os:OL) (f:Tr (Nat×GO)->R),WR k t os f=f (Kz k t os)
 | [],f=>rfl
 |x::os,f=>by
  show WR k t os (fun t=>sn (Nat.add k x.2.1) fun v=>sn (Nat.add k x.1) fun h=>WZ k x.2.2 fun o=>t.setK (some (v,o)) h f)=_
  rw[ND k t os]
  simp only[rW,UL,zG];rfl
def Kk (g:GV) (n:Nat) (os:OL) (H:GH):Option (GV×GH):=sn H.n fun k=>Yz k g fun g=>WR k H.t os fun t=>sn (Nat.add k n) fun m=>some (g,⟨m,t⟩)
theorem Ro (g:GV) (n:Nat) (os:OL) (H:GH):Kk g n os H=some (De H.n g,H.load n os):=by
 unfold Kk
 simp only[rW,Sa,ND];rfl
theorem Nw {P:Program} {T:CK} {G:GP} {gs gs2:vM} (hobs:gs2.obs=gs.obs) (henv:gs2.env=[]) (hT:Fo T G.tab) (hG:∀w0:dN gs2,N_ P G T.fns w0) {fuel f n:Nat} {us:List GV} {vs:List Value} {hs:List Nat} {g:GV} {os:OL} (hm:Nv T G fuel f us hs=some (g,n,os)) (hb:aR P f)
  {w0:dN gs} {w:World} {ρ:cW} {H H':GH} {g':GV} (hv:mY (fun _=>none) us vs) (h:Kk g n os H=some (g',H')) (R:eK w0 ρ H w):iP P w0 ρ f vs w g' H':=by
 rw[Ro]at h;cases h
 obtain⟨r,hr,hm⟩:=aE.1 (show ob (FI T G fuel f us H0) _=some (g,n,os)from hm)
 obtain⟨os',hos,hm⟩:=aE.1 hm
 cases hm
 rw[CN hT]at hr
 have hgl:Ee gs2 w fun _=>False:=fun p hp=>⟨(R.glo p (hobs▸hp)).1,id⟩
 rcases CM hG (H':=r.2) (g:=r.1) hr (eK.start (dN.of w hgl) henv) hv with⟨v,w',ρ',hr',_⟩|⟨_,hc⟩
 ·have:=hb vs.toArray w
  rw[show(dN.of w hgl).w=w from rfl,this]at hr';cases hr'
 ·refine .inr ⟨hb _ w,hc.mono ?_⟩
  rintro e w' ⟨v,ρ2,rfl,_,R2,hr2⟩
  have R3:eK (dN.of w hgl) ρ2 (EV r.2.n os) w':=R2.sub rfl fun h p hp=>by
   have:Pm os h=some p:=(AT os h).symm.trans hp
   exact DV hos _ (IL this)
  obtain⟨ρ',hle,R4,hsh⟩:=R.join R3
  exact⟨v,ρ',rfl,hle,R4,hsh _ _ hr2⟩
theorem OS {P:Program} {T:CK} {G:GP} {gs:vM} (hT:Fo T G.tab) (hG:∀w0:dN gs,N_ P G T.fns w0) {fuel f n:Nat} {us:List GV} {vs:List Value} {hs:List Nat} {g:GV} {os:OL} (hm:Nv T G fuel f us hs=some (g,n,os)) (hb:aR P f)
  (hv:mY (fun _=>none) us vs) (he:gs.env=[]) (b:dN gs):Calls P f vs.toArray b.w fun e w'=>∃v ρ',e = .returned v∧eK b ρ' (EV n os) w'∧Rl ρ' g v:=by
 obtain⟨r,hr,hm⟩:=aE.1 (show ob (FI T G fuel f us H0) _=some (g,n,os)from hm)
 obtain⟨os',hos,hm⟩:=aE.1 hm
 cases hm
 rw[CN hT]at hr
 rcases CM hG (H':=r.2) (g:=r.1) hr (eK.start b he) hv with⟨v,w',ρ',hr',_⟩|⟨_,hc⟩
 ·have:=hb vs.toArray b.w
  rw[this]at hr';cases hr'
 ·refine hc.mono ?_
  rintro e w' ⟨v,ρ2,rfl,_,R2,hr2⟩
  exact⟨v,ρ2,rfl,R2.sub rfl fun h p hp=>by
   have:Pm os h=some p:=(AT os h).symm.trans hp
   exact DV hos _ (IL this),hr2⟩
end
theorem Md {P:Program} {gs:Nat->vM} {L:List aW} (hL:∀w S,(∀h∈L,h.p w S)->∃T,Ee (gs T) w fun _=>False) {f n:Nat} {vs:List Value} {g:GV} {os:OL}
  (h:∀T (b:dN (gs T)),Calls P f vs.toArray b.w fun e w'=>∃v ρ',e = .returned v∧eK b ρ' (EV n os) w'∧Rl ρ' g v) {A:Type} {ret:A->Value} {LO:A->List aW}
  (hdec:∀T (b:dN (gs T)) (ρ:cW) (w:World) (V:Value),(∀k,b.mine k->b.w.heap.size<=k)->eK b ρ (EV n os) w->Rl ρ g V->∃x:A,V=ret x∧∀q∈LO x,q.p w (fun k=>b.w.heap.size<=k)):
  aV P f vs.toArray L ret (fun _ l=>l) (fun x l=>LO x++l):=by
 intro w0 S0 hw
 obtain⟨T,hT⟩:=hL w0 S0 hw
 refine(h T (.of w0 hT)).mono ?_
 rintro e w' ⟨v,ρ',rfl,R,hr⟩
 obtain⟨x,rfl,hq⟩:=hdec T (.of w0 hT) ρ' w' v (fun k hk=>hk.elim id False.elim) R hr
 refine⟨x,rfl,R.ext,fun _ _=>False,⟨fun i m hm=>by simp at hm,fun i k h=>h.elim,fun i j k h=>h.elim⟩,fun q hq'=> ?_⟩
 have hq':q∈LO x++[]:=hq'
 rw[List.append_nil]at hq'
 exact aW.wide (hq q hq') (fun k hk=>⟨.inr (.inl hk),fun i h=>h.elim⟩)

noncomputable def Ev (s:ByteArray):Nat×Nat:=(jW (bB s),(bB s).length)
theorem Kb {a b:ByteArray} (h:Ev a=Ev b):a=b:=by
 have h1:=QI a b
 unfold Ev at h
 rw[h]at h1
 have h2:Lg (jW (bB b),(bB b).length) (jW (bB b),(bB b).length)=true:=by simp[Lg]
 rw[h2]at h1
 have h3:a.toList=b.toList:=eq_of_beq h1.symm
 rw[Lib.toList_data,Lib.toList_data]at h3
 obtain⟨⟨x⟩⟩:=a
 obtain⟨⟨y⟩⟩:=b
 simp only at h3
 rw[h3]
noncomputable def Wm (cs:List GV):Option (Nat×Nat):=List.casesOn (motive:=fun _=>Option (Nat×Nat)) cs none fun c r=>List.casesOn (motive:=fun _=>Option (Nat×Nat)) r c.asStr fun _ _=>none
abbrev WU:d_ ByteArray:=⟨1,Nat.one_pos,fun _ _ cs x=>cs=[.string x],fun h=>by simp[h],fun h _=>h⟩
theorem fV.str {S:Nat->Prop} {ρ:cW} {w:World}:fV S ρ w Wm WU Ev:=fun gs vs y hr h _=>by
 cases gs with
 |nil=>cases h
 |cons c gs=>
 cases gs with
 |cons _ _=>cases h
 |nil=>
 have h:c.asStr=some y:=h
 obtain⟨v,vs,rfl,hv,hr⟩:=hr.of_cons
 rw[hr.of_nil]
 rw[nT h]at hv
 obtain⟨x,rfl,e1,e2⟩:=hv.str_inv
 exact⟨x,by unfold Ev;rw[<-e1,<-e2],rfl⟩
theorem UN {ρ:cW} {V:Value} {n l:Nat} {s:ByteArray} (h:Rl ρ (.str n l) V) (e:Ev s=(n,l)):V = .string s:=by
 obtain⟨x,rfl,e1,e2⟩:=h.str_inv
 have:Ev x=Ev s:=by rw[e];unfold Ev;rw[<-e1,<-e2]
 rw[Kb this]
theorem Ge {α:Type}:∀a b:α,id a=id b->a=b:=fun _ _ h=>h
theorem AP {α β α' β':Type} {f:α->α'} {g:β->β'} (hf:∀a b,f a=f b->a=b) (hg:∀a b,g a=g b->a=b):∀a b:α×β,(fun z:α×β=>(f z.1,g z.2)) a=(fun z:α×β=>(f z.1,g z.2)) b->a=b:=fun a b h=>by
 obtain⟨a1,a2⟩:=a
 obtain⟨b1,b2⟩:=b
 simp only[Prod.mk.injEq]at h
 rw[hf _ _ h.1,hg _ _ h.2]
theorem Gj {α β:Type} {f:α->β} (hf:∀a b,f a=f b->a=b):∀{xs ys:List α},xs.map f=ys.map f->xs=ys
 | [],[],_=>rfl
 | [],_::_,h=>by simp at h
 |_::_,[],h=>by simp at h
 |a::xs,b::ys,h=>by
  simp only[List.map_cons,List.cons.injEq]at h
  rw[hf _ _ h.1,Gj hf h.2]
end Go.Gx
end
section
set_option maxRecDepth 100000
namespace Go.Gx
open Go Go.Sx Go.Proofs Go.Proofs.YtigggfnchamobaaGreatDoor
def mu0:List GV:=[.str 6706143830449764899556809608818904919804074884937111603718476495539622089622860971527792587791047894922729163212717263328395231852300855536488424978955807703755604513825873373095632290149847090083112304426652546340939400726262280257803792487332445892473582856512649637013408585975292850644760247287299230258062944610265801223788397479914840704983105145953743025358843726328641031619437354017789814719882883570583131354112070717477863523377784965938515931160728579383844655360852857429048595849656685311997067516701048769715945338084683118784715135226216982869351630641616464718832441949492048937096570154901286325463543707328254906190863546417377904 270]
def mg0:GV:=(.agg [(.str 7562850 3),(.sl 1176 0 2 6),(.sl 2078 0 2 3)])
def mo0:OL:=[(1176,1176,.cells [(.str 100 1),(.int .i64 (.ofNat 1)),(.int .i64 (.ofNat 0)),(.int .i64 (.ofNat 0)),(.int .i64 (.ofNat 1)),(.int .i64 (.ofNat 0)),(.str 112 1),(.int .i64 (.ofNat 3)),(.int .i64 (.ofNat 0)),(.int .i64 (.ofNat 0)),(.int .i64 (.ofNat 0)),(.int .i64 (.ofNat 0))]),
 (1300,1300,.cells [(.int .i64 (.ofNat 41)),(.int .i64 (.ofNat 0)),(.int .i64 (.ofNat 10)),(.int .i64 (.ofNat 0)),(.int .i64 (.ofNat 42)),(.int .i64 (.ofNat 0)),(.int .i64 (.ofNat 36)),(.int .i64 (.ofNat 0)),(.int .i64 (.ofNat 5)),(.int .i64 (.ofNat 0)),(.int .i64 (.ofNat 1)),(.int .i64 (.ofNat 0)),(.int .i64 (.ofNat 36)),(.int .i64 (.ofNat 0)),(.int .i64 (.ofNat 5)),(.int .i64 (.ofNat 1)),(.int .i64 (.ofNat 4)),(.int .i64 (.ofNat 0))]),
 (1326,1326,.cells [(.int .i64 (.ofNat 1)),(.int .i64 (.ofNat 0))]),
 (1359,1359,.cells [(.int .i64 (.ofNat 4)),(.int .i64 (.ofNat 0))]),
 (1367,1367,.cells [(.int .i64 (.ofNat 0)),(.sl 1326 0 1 2),(.int .i64 (.ofNat 1)),(.sl 1359 0 1 2)]),
 (1755,1755,.cells [(.int .i64 (.ofNat 41)),(.int .i64 (.ofNat 0)),(.int .i64 (.ofNat 19)),(.int .i64 (.ofNat 0)),(.int .i64 (.ofNat 10)),(.int .i64 (.ofNat 0)),(.int .i64 (.ofNat 42)),(.int .i64 (.ofNat 0)),(.int .i64 (.ofNat 36)),(.int .i64 (.ofNat 0)),(.int .i64 (.ofNat 5)),(.int .i64 (.ofNat 0)),(.int .i64 (.ofNat 43)),(.int .i64 (.ofNat 0)),(.int .i64 (.ofNat 37)),(.int .i64 (.ofNat 0)),(.int .i64 (.ofNat 24)),(.int .i64 (.ofNat 0)),(.int .i64 (.ofNat 12)),(.int .i64 (.ofNat 0)),(.int .i64 (.ofNat 6)),(.int .i64 (.ofNat 0)),(.int .i64 (.ofNat 33)),(.int .i64 (.ofNat 0)),(.int .i64 (.ofNat 24)),(.int .i64 (.ofNat 0)),(.int .i64 (.ofNat 12)),(.int .i64 (.ofNat 0)),(.int .i64 (.ofNat 1)),(.int .i64 (.ofNat 1)),(.int .i64 (.ofNat 6)),(.int .i64 (.ofNat 0)),(.int .i64 (.ofNat 36)),(.int .i64 (.ofNat 0)),(.int .i64 (.ofNat 5)),(.int .i64 (.ofNat 1)),(.int .i64 (.ofNat 23)),(.int .i64 (.ofNat 0)),(.int .i64 (.ofNat 35)),(.int .i64 (.ofNat 0)),(.int .i64 (.ofNat 12)),(.int .i64 (.ofNat 0)),(.int .i64 (.ofNat 24)),(.int .i64 (.ofNat 0)),(.int .i64 (.ofNat 12)),(.int .i64 (.ofNat 0))]),
 (1936,1936,.cells [(.int .i64 (.ofNat 43)),(.int .i64 (.ofNat 0)),(.int .i64 (.ofNat 37)),(.int .i64 (.ofNat 0)),(.int .i64 (.ofNat 24)),(.int .i64 (.ofNat 0)),(.int .i64 (.ofNat 12)),(.int .i64 (.ofNat 0)),(.int .i64 (.ofNat 6)),(.int .i64 (.ofNat 0)),(.int .i64 (.ofNat 33)),(.int .i64 (.ofNat 0)),(.int .i64 (.ofNat 24)),(.int .i64 (.ofNat 0)),(.int .i64 (.ofNat 12)),(.int .i64 (.ofNat 0)),(.int .i64 (.ofNat 1)),(.int .i64 (.ofNat 1)),(.int .i64 (.ofNat 6)),(.int .i64 (.ofNat 0))]),
 (2062,2062,.cells [(.int .i64 (.ofNat 23)),(.int .i64 (.ofNat 0)),(.int .i64 (.ofNat 35)),(.int .i64 (.ofNat 0)),(.int .i64 (.ofNat 12)),(.int .i64 (.ofNat 0)),(.int .i64 (.ofNat 24)),(.int .i64 (.ofNat 0)),(.int .i64 (.ofNat 12)),(.int .i64 (.ofNat 0))]),
 (2070,2070,.cells [(.int .i64 (.ofNat 0)),(.sl 1936 0 10 2),(.int .i64 (.ofNat 1)),(.sl 2062 0 5 2)]),
 (2078,2078,.cells [(.str 7368564 3),(.sl 1300 0 9 2),(.sl 1367 0 2 2),(.str 7827308 3),(.sl 1755 0 23 2),(.sl 2070 0 2 2)])]
set_option maxHeartbeats 4000000 in
theorem me0:Nv DX gp 4000 8 mu0 [1176,1300,1326,1359,1367,1755,1936,2062,2070,2078]=some (mg0,3136,mo0):=by kernel_rfl
noncomputable def FZ (f:Nat) (us:List GV) (H:GH):Option (GV×GH):=bif Nat.beq f 8 then(bif WB us (6706143830449764899556809608818904919804074884937111603718476495539622089622860971527792587791047894922729163212717263328395231852300855536488424978955807703755604513825873373095632290149847090083112304426652546340939400726262280257803792487332445892473582856512649637013408585975292850644760247287299230258062944610265801223788397479914840704983105145953743025358843726328641031619437354017789814719882883570583131354112070717477863523377784965938515931160728579383844655360852857429048595849656685311997067516701048769715945338084683118784715135226216982869351630641616464718832441949492048937096570154901286325463543707328254906190863546417377904,270)then Kk mg0 3136 mo0 H else QU f us H)else QU f us H
noncomputable def Ye:GP:=⟨tI,gp.cat,FZ,gp.exn⟩
theorem DK {T:Nat} {w0:dN (gl T)} {w:World} {ρ:cW} {H H':GH} {g:GV} {us:List GV} {vs:List Value} {f:Nat} (h:FZ f us H=some (g,H')) (R:eK w0 ρ H w) (hr:mY ρ us vs):iP Tryz.prog w0 ρ f vs w g H':=by
 unfold FZ at h
 cases e1:Nat.beq f 8 with
 |false=>rw[e1]at h;exact ID h R hr
 | true =>
  rw[e1]at h
  cases e2:WB us (6706143830449764899556809608818904919804074884937111603718476495539622089622860971527792587791047894922729163212717263328395231852300855536488424978955807703755604513825873373095632290149847090083112304426652546340939400726262280257803792487332445892473582856512649637013408585975292850644760247287299230258062944610265801223788397479914840704983105145953743025358843726328641031619437354017789814719882883570583131354112070717477863523377784965938515931160728579383844655360852857429048595849656685311997067516701048769715945338084683118784715135226216982869351630641616464718832441949492048937096570154901286325463543707328254906190863546417377904,270)with
  |false=>rw[e2]at h;exact ID h R hr
  |true=>
   rw[e2]at h;rw[Nat.eq_of_beq_eq_true e1]
   rw[Q_ e2]at hr
   obtain⟨V,rfl,hv⟩:=hr.one
   obtain⟨x,rfl,e3,e4⟩:=hv.str_inv
   exact Nw (gs:=gl T) (gs2:=gl T) rfl rfl Dc QW me0 Tryz.call8 (mY.cons (Mn e3 e4) .nil) h R
theorem Ve {T:Nat} (w0:dN (gl T)):N_ Tryz.prog Ye DX.fns w0:=⟨(QW w0).tab,(QW w0).mixed,(QW w0).fns,fun h ρ w vs R hr=>DK h R hr,(QW w0).exn,(QW w0).cat⟩
def mu1:List GV:=[.str 389508662282641590667193222818340124320258541324365428891725188086024207717159085315988594649689196209224937564443540662539472250600169891651064703471849739348391035222282332234873775082367041688393518087397133674180373991176283487897321372674739070210027174703280392956383328243748401776 120]
def Yq:GV:=(.agg [(.str 140756725746397274546925161 11),(.sl 410 0 1 6),(.sl 686 0 2 3)])
def Rq:OL:=[(410,410,.cells [(.str 109 1),(.int .i64 (.ofNat 2)),(.int .i64 (.ofNat 0)),(.int .i64 (.ofNat 0)),(.int .i64 (.ofNat 0)),(.int .i64 (.ofNat 0))]),
 (497,497,.cells [(.int .i64 (.ofNat 41)),(.int .i64 (.ofNat 0)),(.int .i64 (.ofNat 5)),(.int .i64 (.ofNat 0)),(.int .i64 (.ofNat 21)),(.int .i64 (.ofNat 0)),(.int .i64 (.ofNat 12)),(.int .i64 (.ofNat 0))]),
 (524,524,.cells [(.int .i64 (.ofNat 3)),(.int .i64 (.ofNat 0))]),
 (532,532,.cells [(.int .i64 (.ofNat 0)),(.sl 524 0 1 2)]),
 (643,643,.cells [(.int .i64 (.ofNat 41)),(.int .i64 (.ofNat 0)),(.int .i64 (.ofNat 19)),(.int .i64 (.ofNat 0)),(.int .i64 (.ofNat 5)),(.int .i64 (.ofNat 0)),(.int .i64 (.ofNat 19)),(.int .i64 (.ofNat 0)),(.int .i64 (.ofNat 21)),(.int .i64 (.ofNat 0)),(.int .i64 (.ofNat 12)),(.int .i64 (.ofNat 0))]),
 (670,670,.cells [(.int .i64 (.ofNat 2)),(.int .i64 (.ofNat 0))]),
 (678,678,.cells [(.int .i64 (.ofNat 0)),(.sl 670 0 1 2)]),
 (686,686,.cells [(.str 435777791340 5),(.sl 497 0 4 2),(.sl 532 0 1 2),(.str 491328400997 5),(.sl 643 0 6 2),(.sl 678 0 1 2)])]
set_option maxHeartbeats 4000000 in
theorem me1:Nv DX Ye 4000 8 mu1 [410,497,524,532,643,670,678,686]=some (Yq,983,Rq):=by kernel_rfl
noncomputable def LU (f:Nat) (us:List GV) (H:GH):Option (GV×GH):=bif Nat.beq f 8 then(bif WB us (389508662282641590667193222818340124320258541324365428891725188086024207717159085315988594649689196209224937564443540662539472250600169891651064703471849739348391035222282332234873775082367041688393518087397133674180373991176283487897321372674739070210027174703280392956383328243748401776,120)then Kk Yq 983 Rq H else FZ f us H)else FZ f us H
noncomputable def Yf:GP:=⟨tI,gp.cat,LU,gp.exn⟩
theorem OG {T:Nat} {w0:dN (gl T)} {w:World} {ρ:cW} {H H':GH} {g:GV} {us:List GV} {vs:List Value} {f:Nat} (h:LU f us H=some (g,H')) (R:eK w0 ρ H w) (hr:mY ρ us vs):iP Tryz.prog w0 ρ f vs w g H':=by
 unfold LU at h
 cases e1:Nat.beq f 8 with
 |false=>rw[e1]at h;exact DK h R hr
 | true =>
  rw[e1]at h
  cases e2:WB us (389508662282641590667193222818340124320258541324365428891725188086024207717159085315988594649689196209224937564443540662539472250600169891651064703471849739348391035222282332234873775082367041688393518087397133674180373991176283487897321372674739070210027174703280392956383328243748401776,120)with
  |false=>rw[e2]at h;exact DK h R hr
  |true=>
   rw[e2]at h;rw[Nat.eq_of_beq_eq_true e1]
   rw[Q_ e2]at hr
   obtain⟨V,rfl,hv⟩:=hr.one
   obtain⟨x,rfl,e3,e4⟩:=hv.str_inv
   exact Nw (gs:=gl T) (gs2:=gl T) rfl rfl Dc Ve me1 Tryz.call8 (mY.cons (Mn e3 e4) .nil) h R
theorem Yd {T:Nat} (w0:dN (gl T)):N_ Tryz.prog Yf DX.fns w0:=⟨(QW w0).tab,(QW w0).mixed,(QW w0).fns,fun h ρ w vs R hr=>OG h R hr,(QW w0).exn,(QW w0).cat⟩
noncomputable abbrev gp2:GP:=Yf
theorem aay {T:Nat} (w0:dN (gl T)):N_ Tryz.prog gp2 DX.fns w0:=Yd w0
end Go.Gx
end
section
namespace Go.Gx
open Go Go.Sx Go.RowKit
structure Hd (n:Nat) (os:OL) (ρ:cW) (w:World) (S:Nat->Prop):Prop where
 live:∀h o,(EV n os).get h=some o->∃l,ρ h=some l∧S l.b∧uL ρ w l o
 inj:∀h h' o o' l l',(EV n os).get h=some o->(EV n os).get h'=some o'->ρ h=some l->ρ h'=some l'->l.b=l'.b->h=h'
 fresh:∀h,n<=h->ρ h=none
 dense:∀h,h<n->∃l,ρ h=some l
 vers:∀h v l,(EV n os).ver h=some v->ρ h=some l->∃lv,ρ v=some lv∧w.heap[l.b]? = some lv.x∧(EV n os).get h=some lv.o
theorem Hd.mono {n:Nat} {os:OL} {ρ:cW} {w w':World} {S S':Nat->Prop} (H:Hd n os ρ w S) (h:∀k,S k->k<w.heap.size->S' k∧w'.heap[k]? = w.heap[k]?):Hd n os ρ w' S':=by
 refine⟨fun k o hg=> ?_,H.inj,H.fresh,H.dense,fun k v l hv hl=> ?_⟩
 ·obtain⟨l,a,b,c⟩:=H.live k o hg
  obtain⟨d,e⟩:=h _ b c.lt
  exact⟨l,a,d,c.move (cW.le_refl ρ) e⟩
 ·obtain⟨lv,a,b,c⟩:=H.vers k v l hv hl
  obtain⟨o,ho⟩:=qA.1 hv
  obtain⟨l',a',b',c'⟩:=H.live k o (fJ.2 ⟨v,ho⟩)
  rw[hl]at a';cases a'
  exact⟨lv,a,by rw[(h _ b' c'.lt).2];exact b,c⟩
theorem eK.hd {gs:vM} {b:dN gs} {n:Nat} {os:OL} {ρ:cW} {w:World} {S:Nat->Prop} (R:eK b ρ (EV n os) w) (hS:∀k,b.mine k->S k):Hd n os ρ w S:=
 ⟨fun h o hg=>let ⟨l,a,b,c⟩:=R.live h o hg;⟨l,a,hS _ b,c⟩,R.inj,R.fresh,R.dense,R.vers⟩
def Pt (n:Nat) (os:OL) (g:GV) (V:Value):aW where
 p w S:=∃ρ,Hd n os ρ w S∧Rl ρ g V
 mono:=fun⟨ρ,h,r⟩ k=>⟨ρ,h.mono k,r⟩
def Hd.O (n:Nat) (os:OL) (ρ:cW) (k:Nat):Prop:=∃h o l,(EV n os).get h=some o∧ρ h=some l∧l.b=k
def Hd.base (n:Nat) (os:OL) (ρ:cW) (w:World):dN WQ:=⟨w,Hd.O n os ρ,fun _ h=>absurd h List.not_mem_nil⟩
theorem Hd.rel {n:Nat} {os:OL} {ρ:cW} {w:World} {S:Nat->Prop} (H:Hd n os ρ w S):eK (Hd.base n os ρ w) ρ (EV n os) w:=
 ⟨yK.refl w,fun h o hg=>let ⟨l,a,_,c⟩:=H.live h o hg;⟨l,a,.inr ⟨h,o,l,hg,a,rfl⟩,c⟩,H.inj,H.fresh,H.dense,H.vers,fun i v e=>by simp[Hd.base,WQ]at e⟩
noncomputable def BU (H:GH) (os:OL):Bool:=List.rec (motive:=fun _=>Bool) true (fun x _ ih=>Option.casesOn (motive:=fun _=>Bool) (H.ver x.1) false fun v=>bif Nat.beq v x.2.1 then ih else false) os
theorem KG {H:GH}:∀{os:OL},BU H os=true->∀x∈os,H.ver x.1=some x.2.1
 | [],_,x,hx=>by cases hx
 | y :: os, h, x, hx => by
  have h:Option.casesOn (motive:=fun _=>Bool) (H.ver y.1) false (fun v=>bif Nat.beq v y.2.1 then BU H os else false)=true:=h
  cases hv:H.ver y.1 with
  |none=>rw[hv]at h;cases h
  | some v =>
   rw[hv]at h
   obtain⟨h1,h2⟩:=bE.1 (show(bif Nat.beq v y.2.1 then(some (BU H os))else none)=some true by
    have h:(bif Nat.beq v y.2.1 then BU H os else false)=true:=h
    cases e:Nat.beq v y.2.1<;>rw[e]at h<;>first|cases h|(show some (BU H os)=some true;rw[show BU H os=true from h]))
   rcases List.mem_cons.1 hx with rfl|hx
   ·rw[hv,Nat.eq_of_beq_eq_true h1]
   ·exact KG (Option.some.inj h2) x hx
noncomputable def okV (os:OL) (r:OR):Bool:=Option.casesOn (motive:=fun _=>Bool) r false fun r=>Option.casesOn (motive:=fun _=>Bool) r.1.asB false fun b=>bif b then BU r.2 os else false
theorem RD {os:OL} {r:OR} (h:okV os r=true):∃H',r=some (.bool true,H')∧BU H' os=true:=by
 cases r with
 |none=>cases h
 | some r =>
  obtain⟨g,H'⟩:=r
  have h:Option.casesOn (motive:=fun _=>Bool) g.asB false (fun b=>bif b then BU H' os else false)=true:=h
  cases hb:g.asB with
  |none=>rw[hb]at h;cases h
  |some b=>
   rw[hb]at h
   cases b with
   |false=>cases h
   |true=>exact⟨H',by rw[yC hb],h⟩
theorem OJ {P:Program} {G:GP} {Fs:FT} (hG:∀w0:dN WQ,N_ P G Fs w0) {fuel f n:Nat} {os:OL} {g:GV} {V:Value} (hb:aR P f) (h:∃H',M_ G Fs fuel f [g] (EV n os)=some (.bool true,H')∧BU H' os=true) {w:World} {S:Nat->Prop} (hw:(Pt n os g V).p w S):
  Calls P f #[V] w fun e w'=>e = .returned (.bool true)∧Ic w w':=by
 obtain⟨ρ,hd,hr⟩:=hw
 obtain⟨H',h1,h2⟩:=h
 rcases CM hG h1 hd.rel (.cons hr .nil)with⟨v,w',ρ',hr',_⟩|⟨_,hc⟩
 ·have:=hb #[V] w
  rw[this]at hr';cases hr'
 ·refine hc.mono ?_
  rintro e w' ⟨v,ρ2,rfl,hle,R2,hv⟩
  refine⟨by rw[hv.bool_inv],R2.ext.os,R2.ext.tape,R2.ext.output,R2.ext.size,fun k hk=> ?_⟩
  by_cases ho:Hd.O n os ρ k
  ·obtain⟨i,o,l,hg,hl,rfl⟩:=ho
   obtain⟨v0,hv0⟩:=fJ.1 hg
   have hm:(i,v0,o)∈os:=IL ((AT os i).symm.trans hv0)
   obtain⟨lv,a,b,_⟩:=hd.vers i v0 l (qA.2 ⟨o,hv0⟩) hl
   obtain⟨lv',a',b',_⟩:=R2.vers i v0 l (KG h2 _ hm) (hle _ _ hl)
   have:lv=lv':=by have:=hle _ _ a;rw[a']at this;exact(Option.some.inj this).symm
   subst this
   exact b'.trans b.symm
  ·exact R2.ext.block k hk ho
end Go.Gx
end
section
namespace Go.Proofs.YtigggfnchamobaaGreatDoor
open Go Go.Sx Go.Gx
set_option maxRecDepth 100000
abbrev wC:=ByteArray×(Value×List (Int×Int))×(Value×List (Int×(Value×List (Int×Int))))
def xN (z:wC):List (Int×Int)×List (Int×List (Int×Int)):=(z.2.1.2,z.2.2.2.map fun s=>(s.1,s.2.2))
def Co:ByteArray:=(ByteArray.mk #[112,114,111,103,114,97,109,32,105,110,100,101,112,101,110,100,101,110,116,59,10,118,97,114,32,109,32,58,32,98,111,111,108,59,10,114,117,108,101,32,108,101,97,118,101,58,32,109,32,38,38,32,115,111,109,101,40,113,46,109,41,32,45,62,32,109,32,58,61,32,102,97,108,115,101,59,10,114,117,108,101,32,101,110,116,101,114,58,32,33,109,32,38,38,32,33,115,111,109,101,40,113,46,109,41,32,45,62,32,109,32,58,61,32,116,114,117,101,59,10])
def DW:List (ByteArray×Int×Int×Int×Int×Int):=[((ByteArray.mk #[109]),(2:Int),(0:Int),(0:Int),(0:Int),(0:Int))]
def Bw:List (List (Int×Int)×List (Int×List (Int×Int))):=[([(41,0),(5,0),(21,0),(12,0)],[(0,[(3,0)])]),([(41,0),(19,0),(5,0),(19,0),(21,0),(12,0)],[(0,[(2,0)])])]
def Vk:List ((Nat×Nat)×List (Int×Int)×List (Int×List (Int×Int))):=[((435777791340,5),[(41,0),(5,0),(21,0),(12,0)],[(0,[(3,0)])]),((491328400997,5),[(41,0),(19,0),(5,0),(19,0),(21,0),(12,0)],[(0,[(2,0)])])]
def PF (V:Value):aW:=⟨fun w S=>(Pt 983 Rq Yq V).p w S,fun {w w' S S'} h k=>by
 rcases h with h
 ·exact((Pt 983 Rq Yq V).mono h k)⟩
noncomputable def PZ {R:Type} (D:List (List (Int×Int)×List (Int×List (Int×Int)))) (k:List wC->Option R):Option R:=open Classical in if h:∃r,∀z:List wC,z.map xN=D->k z=some r then some (Classical.choose h)else none
theorem yP {R:Type} {D:List (List (Int×Int)×List (Int×List (Int×Int)))} {k:List wC->Option R} {r:R} (h:PZ D k=some r) (z:List wC) (hz:z.map xN=D):k z=some r:=by
 unfold PZ at h
 split at h
 ·rename_i e
  rw[<-Option.some.inj h]
  exact Classical.choose_spec e z hz
 cases h
theorem Te {R:Type} {D:List (List (Int×Int)×List (Int×List (Int×Int)))} {k:List wC->Option R} {r:R} (h:∀z:List wC,z.map xN=D->k z=some r):PZ D k=some r:=by
 have e:∃r,∀z:List wC,z.map xN=D->k z=some r:=⟨r,h⟩
 unfold PZ
 rw[dif_pos e]
 let z:List wC:=D.map fun x=>(ByteArray.empty,(undef,x.1),(undef,x.2.map fun s=>(s.1,(undef,s.2))))
 have hz:z.map xN=D:=by
  show(D.map _).map xN=D
  rw[List.map_map]
  conv=>rhs;rw[<-List.map_id D]
  refine List.map_congr_left fun x _=>?_
  obtain⟨a,b⟩:=x
  simp[xN,Function.comp_def]
 rw[<-Classical.choose_spec e z hz,h z hz]
def pG (fuel:Nat) (p0:ByteArray):Option (ByteArray×List (ByteArray×Int×Int×Int×Int×Int)×List (List (Int×Int)×List (Int×List (Int×Int)))):=if p0=Co then some ((ByteArray.mk #[105,110,100,101,112,101,110,100,101,110,116]),DW,Bw)else none
theorem Ho:aR Tryz.prog 8:=Tryz.call8
theorem MU:aR Tryz.prog 131:=Tryz.call131
theorem Ky:Ev Co=(389508662282641590667193222818340124320258541324365428891725188086024207717159085315988594649689196209224937564443540662539472250600169891651064703471849739348391035222282332234873775082367041688393518087397133674180373991176283487897321372674739070210027174703280392956383328243748401776,120):=by kernel_rfl
theorem RI:Ev (ByteArray.mk #[105,110,100,101,112,101,110,100,101,110,116])=(140756725746397274546925161,11):=by kernel_rfl
theorem RO:Ka (EV 983 Rq) 6 (dP 1 Wm (dP 1 (dI .i64) (dP 1 (dI .i64) (dP 1 (dI .i64) (dP 1 (dI .i64) (dI .i64)))))) (.sl 410 0 1 6)=some (DW.map fun z=>(Ev z.1,z.2.1,z.2.2.1,z.2.2.2.1,z.2.2.2.2.1,z.2.2.2.2.2)):=by kernel_rfl
theorem OZ:Ka (EV 983 Rq) 3 (dP 1 Wm (dP 1 (dS (EV 983 Rq) 2 (dP 1 (dI .i64) (dI .i64))) (dS (EV 983 Rq) 2 (dP 1 (dI .i64) (dS (EV 983 Rq) 2 (dP 1 (dI .i64) (dI .i64))))))) (.sl 686 0 2 3)=some Vk:=by kernel_rfl
theorem UB:Vk.map (fun y=>(y.2.1,y.2.2))=Bw:=by kernel_rfl
theorem RJ (r:(ByteArray×List (ByteArray×Int×Int×Int×Int×Int)×List (List (Int×Int)×List (Int×List (Int×Int))))) (h:some ((ByteArray.mk #[105,110,100,101,112,101,110,100,101,110,116]),DW,Bw)=some r):aV Tryz.prog 8 #[Value.string Co] [Gb 0 (cellsOf Fb vT)] (fun x:Value×Value×{z:List wC // z.map xN=r.2.2}=>Value.agg #[Value.string r.1,x.1,x.2.1]) (fun x l=>l) (fun x l=>Sl aP x.1 r.2.1::Sl aI x.2.1 x.2.2.1::PF (Value.agg #[Value.string r.1,x.1,x.2.1])::l):=by
 cases h
 refine Md (gs:=gl) (LO:=fun x:Value×Value×{z:List wC // z.map xN=Bw}=>[Sl aP x.1 DW,Sl aI x.2.1 x.2.2.1,PF (Value.agg #[Value.string (ByteArray.mk #[105,110,100,101,112,101,110,100,101,110,116]),x.1,x.2.1])]) QV (fun T b=>OS Dc Ve me1 Ho (.cons (Mn (x:=Co) (congrArg Prod.fst Ky).symm (congrArg Prod.snd Ky).symm) .nil) rfl b) ?_
 intro T b ρ w V hm R hr
 have w0:=hr
 obtain⟨bs,rfl,hl,_⟩:=hr.agg_inv
 obtain⟨A1,bs,rfl,a1,hl⟩:=hl.of_cons
 obtain⟨A2,bs,rfl,a2,hl⟩:=hl.of_cons
 obtain⟨A3,rfl,a3⟩:=hl.one
 obtain rfl:=UN a1 RI
 obtain⟨zs,hz,hs⟩:=Bl R hm (fV.pair fV.str (fV.pair (fV.int .i64) (fV.pair (fV.int .i64) (fV.pair (fV.int .i64) (fV.pair (fV.int .i64) (fV.int .i64)))))) a2 RO
 have hzs:zs=DW:=Gj (AP (fun _ _=>Kb) (AP Ge (AP Ge (AP Ge (AP Ge Ge))))) hz
 subst hzs
 obtain⟨ys,hy,ht⟩:=Bl (r:=aI) R hm (fV.pair fV.str (fV.pair (fV.sl R hm (fV.pair (fV.int .i64) (fV.int .i64))) (fV.sl R hm (fV.pair (fV.int .i64) (fV.sl R hm (fV.pair (fV.int .i64) (fV.int .i64))))))) a3 OZ
 have hys:ys.map xN=Bw:=by
  rw[<-UB,<-hy,List.map_map]
  refine List.map_congr_left fun x _=>?_
  simp[xN,Function.comp_def]
 exact⟨(A2,A3,⟨ys,hys⟩),rfl,List.forall_mem_cons.2 ⟨hs,List.forall_mem_cons.2 ⟨ht,List.forall_mem_cons.2 ⟨(⟨ρ,eK.hd R hm,w0⟩),fun q hq=>absurd hq List.not_mem_nil⟩⟩⟩⟩
theorem Sy:okV Rq (FI DX gp0 4000 131 [Yq] (EV 983 Rq))=true:=by kernel_rfl
theorem pI (fuel:Nat) {p0:ByteArray} (r:(ByteArray×List (ByteArray×Int×Int×Int×Int×Int)×List (List (Int×Int)×List (Int×List (Int×Int))))) (h:pG fuel p0=some r):aV Tryz.prog 8 #[Value.string p0] [Gb 0 (cellsOf Fb vT)] (fun x:Value×Value×{z:List wC // z.map xN=r.2.2}=>Value.agg #[Value.string r.1,x.1,x.2.1]) (fun x l=>l) (fun x l=>Sl aP x.1 r.2.1::Sl aI x.2.1 x.2.2.1::PF (Value.agg #[Value.string r.1,x.1,x.2.1])::l):=by
 unfold pG at h
 by_cases e2:p0=Co
 ·subst e2;exact RJ r ((if_pos rfl).symm.trans h)
 rw[if_neg e2]at h
 cases h
theorem RN (f:Nat):pG f Co=some ((ByteArray.mk #[105,110,100,101,112,101,110,100,101,110,116]),DW,Bw):=by
 unfold pG
 exact if_pos rfl
def yH (fuel:Nat) (p0:ByteArray×List (ByteArray×Int×Int×Int×Int×Int)×List (wC)):Option Bool:=some true
theorem Hc (fuel:Nat) {p0:ByteArray×List (ByteArray×Int×Int×Int×Int×Int)×List (wC)} (v0 v1:Value) (r:Bool) (h:yH fuel p0=some r):
  aV Tryz.prog 131 #[Value.agg #[Value.string p0.1,v0,v1]] [Sl aP v0 p0.2.1,Sl aI v1 p0.2.2,PF (Value.agg #[Value.string p0.1,v0,v1])] (fun x:Unit=>Value.bool (r)) (fun x l=>l) (fun _ l=>l):=by
 cases h
 intro w S hw
 have key:Calls Tryz.prog 131 #[Value.agg #[Value.string p0.1,v0,v1]] w fun e w'=>e = .returned (.bool true)∧Ic w w':=by
  rcases hw _ (List.mem_of_getElem? (i:=2) rfl)with hp
  ·refine OJ (fuel:=4000) aax MU ?_ hp
   obtain⟨H',h1,h2⟩:=RD Sy
   rw[CN (G:=gp0) Dc]at h1
   exact⟨H',h1,h2⟩
 refine key.mono ?_
 rintro e w' ⟨rfl,he⟩
 exact⟨(),rfl,⟨he.os,he.tape,he.output,he.size,fun k hk _=>he.block k hk⟩,fun _ _=>False,⟨fun i m hm=>by simp at hm,fun i k h=>h.elim,fun i j k h=>h.elim⟩,fun q hq=>by simp at hq⟩
end Go.Proofs.YtigggfnchamobaaGreatDoor
end
section
namespace Go.Proofs.YtigggfnchamobaaGreatDoor
open Go Go.Sx
abbrev YU:=ByteArray×Int×Int×Int×Int×Int
abbrev PRG:=ByteArray×(List YU)×(List wC)
abbrev GRF:=List Int×List (List (Int×Int))
abbrev SCN:=PRG×GRF×Int×List (List Int)
abbrev XO:=SCN×List (List Int)×Int×List (Int×Int)
inductive E where
 |lf (o a:Int)
 |un (o:Int) (x:E)
 |ag (o:Int) (x:E)
 |bi (o:Int) (x y:E)
 |ite (x y z:E)
def E.ts:E->List (Int×Int)
 |lf o a=>[(o,a)]
 |un o x=>(o,0)::x.ts
 |ag o x=>(o,0)::x.ts
 |bi o x y=>(o,0)::(x.ts++y.ts)
 |ite x y z=>(43,0)::(x.ts++(y.ts++z.ts))
def E.depth:E->Nat
 |lf _ _=>1
 |un _ x=>x.depth+1
 |ag _ x=>x.depth+1
 |bi _ x y=>max x.depth y.depth+1
 |ite x y z=>max x.depth (max y.depth z.depth)+1
def E.arOk:E->Bool
 |lf o _=>decide (1<=o)&&decide (o<=17)
 |un o x=>decide (18<=o)&&decide (o<=19)&&x.arOk
 |ag o x=>decide (20<=o)&&decide (o<=29)&&x.arOk
 |bi o x y=>decide (30<=o)&&decide (o<=42)&&x.arOk&&y.arOk
 |ite x y z=>x.arOk&&y.arOk&&z.arOk
theorem Ip {α:Type} [Inhabited α] {T pre rest:List α} {x:α} {k:Nat} (hT:T=pre++x::rest) (hk:pre.length=k):at' T (k:Int)=x:=by
 subst hT;exact Om pre rest x k hk
theorem eW {k:Nat} (h:k<1000000):wI .i64 ((k:Int)+1)=((k+1:Nat):Int):=by rw[wr (by omega) (by omega)];rfl

theorem Qb (f:Nat) {o:Int} (h1:1<=o) (h2:o<=43):qZ f o=some (if o<=17 then 0 else if o<=29 then 1 else if o<=42 then 2 else 3):=by
 unfold qZ rZ
 rw[if_neg (by omega)]
 simp only[decide_eq_true_eq]
 rw[if_neg (by omega)]
 split
 ·rfl
 ·split
  ·rfl
  ·split<;>rfl
theorem QG {F:Nat} {T pre rest:List (Int×Int)} {t:Int×Int} {k m a:Nat} {fuel:Nat} (hT:T=pre++t::rest) (hk:pre.length=k) (hk2:k<1000) (hm:m<3000) (ha:qZ F t.1=some ((a:Nat):Int)) (ha3:a<=3) (hne:m+a≠0):
  bG (iN F T) (fuel+1) ((k:Int),(m:Int))=if m+a=1 then some (((k+1:Nat):Int))else bG (iN F T) fuel (((k+1:Nat):Int),((m+a - 1:Nat):Int)):=by
 have hl:k<T.length:=by rw[hT];simp;omega
 show iN F T ((k:Int),(m:Int)) (bG (iN F T) fuel)=_
 unfold iN
 dsimp only
 rw[if_pos (by omega),dK (by omega),Ip hT hk,bH ha,if_neg (by omega),wr (x:=((a:Nat):Int) - 1) (by omega) (by omega),wr (by omega) (by omega),eW (by omega)]
 by_cases h:m+a=1
 ·rw[if_pos h,if_pos (by omega)]
 ·rw[if_neg h,if_neg (by omega)]
  have:(m:Int)+((a:Int) - 1)=((m+a - 1:Nat):Int):=by omega
  rw[this]
theorem TY (F:Nat) (T:List (Int×Int)) (hT9:T.length<=900):∀(e:E),e.arOk=true->∀(fuel k m:Nat) (pre post:List (Int×Int)),T=pre++(e.ts++post)->pre.length=k->1<=m->m+2*(e.ts++post).length<=1900->e.ts.length<=fuel->
  bG (iN F T) fuel ((k:Int),(m:Int))=if m=1 then some (((k+e.ts.length:Nat):Int))else bG (iN F T) (fuel - e.ts.length) (((k+e.ts.length:Nat):Int),((m - 1:Nat):Int)):=by
 have key:∀{t:Int×Int} {l post pre:List (Int×Int)} {fuel k m:Nat},T=pre++((t::l)++post)->pre.length=k->(t::l).length<=fuel->1<=t.1->t.1<=43->1<=m->m+2*((t::l)++post).length<=1900->∀a:Nat,(if t.1<=17 then 0 else if t.1<=29 then 1 else if t.1<=42 then 2 else 3:Int)=a->a<=3->∃f,fuel=f+1∧
   bG (iN F T) fuel ((k:Int),(m:Int))=if m+a=1 then some (((k+1:Nat):Int))else bG (iN F T) f (((k+1:Nat):Int),((m+a - 1:Nat):Int)):=by
  intro t l post pre fuel k m hT hk hf h1 h2 hm1 hm a ha ha3
  have hlen:=congrArg List.length hT
  simp only[List.length_append,List.length_cons]at hlen hm hf
  obtain⟨f,rfl⟩:∃f,fuel=f+1:=⟨fuel - 1,by omega⟩
  exact⟨f,rfl,QG (rest:=l++post) (by simpa using hT) hk (by omega) (by omega) (by rw[Qb F h1 h2,ha]) ha3 (by omega)⟩
 intro e
 induction e with
 |lf o a=>
  intro hok fuel k m pre post hT hk hm1 hm hf
  simp only[E.arOk,Bool.and_eq_true,decide_eq_true_eq]at hok
  obtain⟨f,rfl,h⟩:=key (t:=(o,a)) (l:=[]) hT hk hf (by dsimp only;omega) (by dsimp only;omega) hm1 hm 0 (by rw[if_pos (by dsimp only;omega)];rfl) (by omega)
  rw[h];rfl
 |un o x ih=>
  intro hok fuel k m pre post hT hk hm1 hm hf
  simp only[E.arOk,Bool.and_eq_true,decide_eq_true_eq]at hok
  obtain⟨f,rfl,h⟩:=key (t:=(o,0)) (l:=x.ts) hT hk hf (by dsimp only;omega) (by dsimp only;omega) hm1 hm 1 (by rw[if_neg (by dsimp only;omega),if_pos (by dsimp only;omega)];rfl) (by omega)
  simp only[E.ts,List.length_cons]at hf hm ⊢
  rw[h,if_neg (by omega)]
  have:=ih hok.2 f (k+1) m (pre++[(o,0)]) post (by rw[hT];simp[E.ts]) (by simp[hk]) hm1 (by simp at hm ⊢;omega) (by omega)
  rw[show m+1 - 1=m by omega,this,show k+1+x.ts.length=k+(x.ts.length+1) by omega,show f+1 - (x.ts.length+1)=f - x.ts.length by omega]
 |ag o x ih=>
  intro hok fuel k m pre post hT hk hm1 hm hf
  simp only[E.arOk,Bool.and_eq_true,decide_eq_true_eq]at hok
  obtain⟨f,rfl,h⟩:=key (t:=(o,0)) (l:=x.ts) hT hk hf (by dsimp only;omega) (by dsimp only;omega) hm1 hm 1 (by rw[if_neg (by dsimp only;omega),if_pos (by dsimp only;omega)];rfl) (by omega)
  simp only[E.ts,List.length_cons]at hf hm ⊢
  rw[h,if_neg (by omega)]
  have:=ih hok.2 f (k+1) m (pre++[(o,0)]) post (by rw[hT];simp[E.ts]) (by simp[hk]) hm1 (by simp at hm ⊢;omega) (by omega)
  rw[show m+1 - 1=m by omega,this,show k+1+x.ts.length=k+(x.ts.length+1) by omega,show f+1 - (x.ts.length+1)=f - x.ts.length by omega]
 |bi o x y ihx ihy=>
  intro hok fuel k m pre post hT hk hm1 hm hf
  simp only[E.arOk,Bool.and_eq_true,decide_eq_true_eq]at hok
  obtain⟨f,rfl,h⟩:=key (t:=(o,0)) (l:=x.ts++y.ts) hT hk hf (by dsimp only;omega) (by dsimp only;omega) hm1 hm 2 (by rw[if_neg (by dsimp only;omega),if_neg (by dsimp only;omega),if_pos (by dsimp only;omega)];rfl) (by omega)
  simp only[E.ts,List.length_cons,List.length_append]at hf hm ⊢
  rw[h,if_neg (by omega)]
  have h1:=ihx hok.1.2 f (k+1) (m+1) (pre++[(o,0)]) (y.ts++post) (by rw[hT];simp[E.ts]) (by simp[hk]) (by omega) (by simp at hm ⊢;omega) (by omega)
  have h2:=ihy hok.2 (f - x.ts.length) (k+1+x.ts.length) m (pre++((o,0)::x.ts)) post (by rw[hT];simp[E.ts]) (by simp[hk];omega) (by omega) (by simp at hm ⊢;omega) (by omega)
  rw[show m+2 - 1=m+1 by omega,h1,if_neg (by omega),show m+1 - 1=m by omega,h2,show k+1+x.ts.length+y.ts.length=k+(x.ts.length+y.ts.length+1) by omega,show f+1 - (x.ts.length+y.ts.length+1)=f - x.ts.length - y.ts.length by omega]
 |ite x y z ihx ihy ihz=>
  intro hok fuel k m pre post hT hk hm1 hm hf
  simp only[E.arOk,Bool.and_eq_true,decide_eq_true_eq]at hok
  obtain⟨f,rfl,h⟩:=key (t:=(43,0)) (l:=x.ts++(y.ts++z.ts)) hT hk hf (by decide) (by decide) hm1 hm 3 rfl (by omega)
  simp only[E.ts,List.length_cons,List.length_append]at hf hm ⊢
  rw[h,if_neg (by omega)]
  have h1:=ihx hok.1.1 f (k+1) (m+2) (pre++[(43,0)]) (y.ts++z.ts++post) (by rw[hT];simp[E.ts]) (by simp[hk]) (by omega) (by simp at hm ⊢;omega) (by omega)
  have h2:=ihy hok.1.2 (f - x.ts.length) (k+1+x.ts.length) (m+1) (pre++((43,0)::x.ts)) (z.ts++post) (by rw[hT];simp[E.ts]) (by simp[hk];omega) (by omega) (by simp at hm ⊢;omega) (by omega)
  have h3:=ihz hok.2 (f - x.ts.length - y.ts.length) (k+1+x.ts.length+y.ts.length) m (pre++((43,0)::(x.ts++y.ts))) post (by rw[hT];simp[E.ts]) (by simp[hk];omega) (by omega) (by simp at hm ⊢;omega) (by omega)
  rw[show m+3 - 1=m+2 by omega,h1,if_neg (by omega),show m+2 - 1=m+1 by omega,h2,if_neg (by omega),show m+1 - 1=m by omega,h3,show k+1+x.ts.length+y.ts.length+z.ts.length=k+(x.ts.length+(y.ts.length+z.ts.length)+1) by omega,show f+1 - (x.ts.length+(y.ts.length+z.ts.length)+1)=f - x.ts.length - y.ts.length - z.ts.length by omega]
theorem Wr (F:Nat) (e:E) (hok:e.arOk=true) {T pre post:List (Int×Int)} {k:Nat} (hT:T=pre++(e.ts++post)) (hk:pre.length=k) (hl:T.length<=800) (hF:e.ts.length<=F):wY F T (k:Int)=some (((k+e.ts.length:Nat):Int)):=by
 have hpos:1<=e.ts.length:=by cases e<;>simp[E.ts]
 have hlen:=congrArg List.length hT
 simp only[List.length_append]at hlen
 unfold wY vV
 rw[if_neg (by omega)]
 simp only[decide_eq_true_eq]
 rw[if_neg (by omega)]
 have:=TY F T (by omega) e hok F k 1 pre post hT hk (by omega) (by simp;omega) hF
 rw[if_pos rfl]at this
 exact this
end Go.Proofs.YtigggfnchamobaaGreatDoor
end
section
namespace Go.Proofs.YtigggfnchamobaaGreatDoor
open Go Go.Sx
def Iq (b:Bool):Int:=if b then 1 else 0
theorem r_ (f:Nat) (b:Bool):fU f b=some (Iq b):=by cases b<;>rfl
theorem BB {α:Type} [Inhabited α] {l:List α} {k:Nat} (h:k<l.length):l.take (k+1)=l.take k++[at' l (k:Int)]:=by
 rw[List.take_add_one,List.getElem?_eq_getElem h,jH,List.getD_eq_getElem?_getD,List.getElem?_eq_getElem h];rfl
theorem kA {α:Type} [Inhabited α] {l:List α} {k:Nat} (h:k<l.length):at' l (k:Int)=l[k]:=by
 rw[jH,List.getD_eq_getElem?_getD,List.getElem?_eq_getElem h];rfl
theorem HE {p:Nat->Prop}:∀(n:Nat),p n->∃m,m<=n∧p m∧∀j,j<m->¬p j:=by
 intro n
 induction n using Nat.strongRecOn with
 | _ n ih =>
  intro h
  by_cases hm:∃m,m<n∧p m
  ·obtain⟨m,h1,h2⟩:=hm
   obtain⟨k,a,b,c⟩:=ih m h1 h2
   exact⟨k,by omega,b,c⟩
  ·exact⟨n,Nat.le_refl n,h,fun j hj hp=>hm ⟨j,hj,hp⟩⟩
theorem Nz {α:Type} [DecidableEq α]:∀(l1 l2:List α),l1.Nodup->(∀x∈l1,x∈l2)->l1.length<=l2.length
 | [],l2,_,_=>Nat.zero_le _
 |a::l1,l2,h,hs=>by
  have ha:=hs a List.mem_cons_self
  have h:=List.nodup_cons.1 h
  have:=Nz l1 (l2.erase a) h.2 (fun x hx=>(List.mem_erase_of_ne (fun(e:x=a)=>h.1 (by rw[<-e];exact hx))).2 (hs x (List.mem_cons_of_mem _ hx)))
  rw[List.length_erase_of_mem ha]at this
  have hp:0<l2.length:=List.length_pos_of_mem ha
  simp only[List.length_cons];omega
def nz (x:Int):Bool:=decide (x≠0)
theorem Qz (f:Nat) (l:List Int) (h:l.length<f) (hl:l.length<=1000):oP f l=some ((l.countP nz:Nat):Int):=by
 unfold oP
 have:=dW (step:=mT l) (K:=some ((l.countP nz:Nat):Int)) l.length (fun k=>(((l.take k).countP nz:Nat),(k:Int))) (fun k ag hk=>by
  have hc:(l.take k).countP nz<=k:=Nat.le_trans List.countP_le_length (by simp;omega)
  unfold mT rT
  dsimp only
  rw[if_pos (by omega),dK (by omega),BB hk,List.countP_append,eW (by omega),eW (by omega)]
  by_cases h0:at' l (k:Int)=0
  ·rw[if_neg (by simpa using h0)];simp[nz,h0]
  ·rw[if_pos h0];simp[nz,h0]) (fun ag=>by
  unfold mT vE
  dsimp only
  rw[if_neg (by omega),List.take_length]) f h
 exact this
theorem Ej (f:Nat) (l:List Int) (x:Int) (h:l.length<f) (hl:l.length<=1000):mP f l x=some (decide (x∈l)):=by
 have key:∃i:Int,oB f l x=some i∧(0<=i↔x∈l):=by
  by_cases hx:x∈l
  ·obtain⟨i,hi,hix⟩:=List.mem_iff_getElem.1 hx
   have hfirst:∃i,i<l.length∧at' l (i:Int)=x∧∀j,j<i->at' l (j:Int)≠x:=by
    obtain⟨m,h1,h2,h3⟩:=HE (p:=fun i=>at' l (i:Int)=x) i (by rw[kA hi,hix])
    exact⟨m,by omega,h2,h3⟩
   obtain⟨i,hi,h1,h2⟩:=hfirst
   refine⟨i,?_,iff_of_true (by omega) hx⟩
   unfold oB
   exact dW (step:=gN l x) (K:=some (i:Int)) i (fun k=>(k:Int)) (fun k ag hk=>by
    unfold gN
    rw[if_pos (by omega),dK (by omega),if_neg (fun e=>h2 k hk e.symm),eW (by omega)]) (fun ag=>by
    unfold gN
    rw[if_pos (by omega),dK (by omega),if_pos h1.symm]) f (by omega)
  ·refine⟨-1,?_,iff_of_false (by omega) hx⟩
   unfold oB
   exact dW (step:=gN l x) (K:=some (-1)) l.length (fun k=>(k:Int)) (fun k ag hk=>by
    unfold gN
    rw[if_pos (by omega),dK (by omega),if_neg (fun e=>hx (by rw[e,kA hk];exact List.getElem_mem hk)),eW (by omega)]) (fun ag=>by
    unfold gN sL
    rw[if_neg (by omega)]) f h
 obtain⟨i,h1,h2⟩:=key
 unfold mP
 rw[bH h1]
 by_cases hx:x∈l
 ·rw[decide_eq_true hx,decide_eq_true (h2.2 hx)]
 ·rw[decide_eq_false hx,decide_eq_false (fun e=>hx (h2.1 e))]
def zO (l:List Int):Int:=match l.findIdx? nz with
 |some i=>(i:Int)
 |none=> -1
theorem xX {l:List Int} {i:Nat} (hi:i<l.length) (h1:at' l (i:Int)≠0) (h2:∀j,j<i->at' l (j:Int)=0):zO l=i:=by
 have:l.findIdx? nz=some i:=by
  rw[List.findIdx?_eq_some_iff_getElem]
  refine⟨hi,by rw[<-kA hi];simpa [nz]using h1,fun j hj=> ?_⟩
  have:=h2 j hj
  rw[kA (by omega)]at this
  simp[nz,this]
 unfold zO;rw[this]
theorem xW {l:List Int} (h:∀j,j<l.length->at' l (j:Int)=0):zO l = -1:=by
 have:l.findIdx? nz=none:=by
  rw[List.findIdx?_eq_none_iff]
  intro x hx
  obtain⟨i,hi,rfl⟩:=List.mem_iff_getElem.1 hx
  have:=h i hi
  rw[kA hi]at this
  simp[nz,this]
 unfold zO;rw[this]
theorem QR (f:Nat) (l:List Int) (h:l.length<f) (hl:l.length<=1000):lL f l (fun y0=>mV f y0)=some (zO l):=by
 unfold lL
 by_cases hx:∃i,i<l.length∧at' l (i:Int)≠0
 ·obtain⟨i,hi,h0⟩:=hx
  obtain⟨m,h1,h2,h3⟩:=HE (p:=fun i=>at' l (i:Int)≠0) i h0
  have h3:∀j,j<m->at' l (j:Int)=0:=fun j hj=>Decidable.not_not.1 (h3 j hj)
  rw[xX (by omega) h2 h3]
  exact dW (step:=eG l _) (K:=some (m:Int)) m (fun k=>(k:Int)) (fun k ag hk=>by
   unfold eG mV
   rw[if_pos (by omega),dK (by omega),bH rfl,if_neg (by simp[h3 k hk]),eW (by omega)]) (fun ag=>by
   unfold eG mV
   rw[if_pos (by omega),dK (by omega),bH rfl,if_pos (by simpa using h2)]) f (by omega)
 ·have hx:∀j,j<l.length->at' l (j:Int)=0:=fun j hj=>Decidable.not_not.1 fun e=>hx ⟨j,hj,e⟩
  rw[xW hx]
  exact dW (step:=eG l _) (K:=some (-1)) l.length (fun k=>(k:Int)) (fun k ag hk=>by
   unfold eG mV
   rw[if_pos (by omega),dK (by omega),bH rfl,if_neg (by simp[hx k hk]),eW (by omega)]) (fun ag=>by
   unfold eG nM
   rw[if_neg (by omega)]) f h
def WM (l:List Int):Int:=l.foldl min 1073741824
theorem WN (f:Nat) (l:List Int) (h:l.length<f) (hl:l.length<=1000):bG (oM l) f ((1073741824:Int),(0:Int))=some (WM l):=by
 exact dW (step:=oM l) (K:=some (WM l)) l.length (fun k=>((l.take k).foldl min 1073741824,(k:Int))) (fun k ag hk=>by
  unfold oM
  dsimp only
  rw[if_pos (by omega),dK (by omega),BB hk,List.foldl_append,eW (by omega)];rfl) (fun ag=>by
  unfold oM wL
  dsimp only
  rw[if_neg (by omega),List.take_length];rfl) f h
def Kl (l:List Int):Nat->Nat->Nat
 |0,k=>k
 |f+1,k=>if((k:Nat):Int)∈l then Kl l f (k+1)else k
def Me (l:List Int):Nat:=Kl l (l.length+1) 0
theorem Rp (l:List Int):((Me l:Nat):Int)∉l∧(∀j,j<Me l->((j:Nat):Int)∈l)∧Me l<=l.length:=by
 have key:∀(f k:Nat),(∀j,j<k->((j:Nat):Int)∈l)->(∀j,j<Kl l f k->((j:Nat):Int)∈l)∧(Kl l f k=k+f∨((Kl l f k:Nat):Int)∉l):=by
  intro f
  induction f with
  |zero=>intro k h;exact⟨h,.inl rfl⟩
  | succ f ih =>
   intro k h
   by_cases hk:((k:Nat):Int)∈l
   ·have:=ih (k+1) (fun j hj=>by
     rcases Nat.lt_or_ge j k with q|q
     ·exact h j q
     ·rw[show j=k by omega];exact hk)
    simp only[Kl,if_pos hk]
    exact⟨this.1,this.2.imp (fun e=>by omega) id⟩
   ·simp only[Kl,if_neg hk]
    exact⟨h,.inr hk⟩
 have hle:∀m,(∀j,j<m->((j:Nat):Int)∈l)->m<=l.length:=fun m h=>by
  have:=Nz ((List.range m).map fun j=>((j:Nat):Int)) l (by
   rw[List.nodup_iff_pairwise_ne,List.pairwise_map]
   exact(List.nodup_iff_pairwise_ne.1 List.nodup_range).imp (fun h e=>h (by omega))) (fun x hx=>by
   obtain⟨j,hj,rfl⟩:=List.mem_map.1 hx
   exact h j (List.mem_range.1 hj))
  simpa using this
 obtain⟨h1,h2⟩:=key (l.length+1) 0 (fun j hj=>by omega)
 have h3:=hle _ h1
 refine⟨?_,h1,h3⟩
 rcases h2 with h2|h2
 ·have:Kl l (l.length+1) 0<=l.length:=h3
  omega
 ·exact h2
theorem WL (f:Nat) (l:List Int) (h:l.length+2<f) (hl:l.length<=900):wW f l=some ((Me l:Nat):Int):=by
 obtain⟨h1,h2,h3⟩:=Rp l
 unfold wW
 exact dW (step:=tE f l) (K:=some ((Me l:Nat):Int)) (Me l) (fun k=>(k:Int)) (fun k ag hk=>by
  unfold tE
  rw[bH (Ej f l (k:Int) (by omega) (by omega)),if_pos (by simpa using h2 k hk),eW (by omega)]) (fun ag=>by
  unfold tE xV
  rw[bH (Ej f l _ (by omega) (by omega)),if_neg (by simpa using h1)]) f (by omega)
def Nj (o:Int) (l:List Int):Int:=
 if o=20 then Iq (l.all nz)else if o=21 then Iq (l.any nz)else if o=22 then((l.countP nz:Nat):Int)else if o=23 then zO l else if o=24 then WM l else((Me l:Nat):Int)
theorem Ue (f:Nat) (o:Int) (l:List Int) (hf:40<=f) (hl:l.length<=24) (ho:o=20∨o=21∨o=22∨o=23∨o=24∨o=27):vR f o l=some (Nj o l):=by
 have hc:=Qz f l (by omega) (by omega)
 unfold vR
 rcases ho with rfl|rfl|rfl|rfl|rfl|rfl
 ·rw[if_pos rfl,bH hc,bH (r_ f _),Nj,if_pos rfl]
  have:(decide (((l.countP nz:Nat):Int)=(l.length:Int)))=l.all nz:=by
   rw[Bool.eq_iff_iff];simp[List.countP_eq_length,Int.ofNat_inj]
  rw[this]
 ·rw[if_neg (by decide),if_pos rfl,bH hc,bH (r_ f _),Nj,if_neg (by decide),if_pos rfl]
  have:(decide ((0:Int)<((l.countP nz:Nat):Int)))=l.any nz:=by
   rw[Bool.eq_iff_iff,decide_eq_true_eq,List.any_eq_true,show((0:Int)<((l.countP nz:Nat):Int))↔0<l.countP nz by omega,List.countP_pos_iff]
  rw[this]
 ·rw[if_neg (by decide),if_neg (by decide),if_pos rfl,bH hc];rfl
 ·rw[if_neg (by decide),if_neg (by decide),if_neg (by decide),if_pos rfl,bH (QR f l (by omega) (by omega))];rfl
 ·rw[if_neg (by decide),if_neg (by decide),if_neg (by decide),if_neg (by decide),if_pos rfl,WN f l (by omega) (by omega)];rfl
 ·rw[if_neg (by decide),if_neg (by decide),if_neg (by decide),if_neg (by decide),if_neg (by decide),if_neg (by decide),if_neg (by decide),if_pos rfl,bH (WL f l (by omega) (by omega))];rfl
end Go.Proofs.YtigggfnchamobaaGreatDoor
end
