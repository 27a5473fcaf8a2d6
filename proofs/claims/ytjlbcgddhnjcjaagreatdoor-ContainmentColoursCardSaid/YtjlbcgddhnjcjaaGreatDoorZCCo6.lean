/- Models and proofs. Conditions: none. -/
import Derived.Test.YtjlbcgddhnjcjaaGreatDoorZCCo5
import Derived.Test.YtjlbcgddhnjcjaaGreatDoorZCCo2
import Derived.KernelRfl
set_option linter.unusedVariables false
set_option linter.unusedSimpArgs false
set_option maxHeartbeats 4000000
set_option maxRecDepth 20000
section
namespace Go.Proofs.YtjlbcgddhnjcjaaGreatDoor
open Go.Sx
section
def lI  (a:aL):Option aL:=
 some (a)
def gC (b:rI) (a:yE->Option aL) (c:aL):Option aL:=
 a ((wI .i64 (b.1+(1:Int))),c)
def gE (b:rI) (a:yE->Option aL) (c:aL):Option aL:=
 a ((wI .i64 (b.1+(1:Int))),c)
def gF (d:aL) (a:rI) (b:yE->Option aL) (c:Bool):Option aL:=
 if c=true then(ck (0<=a.1∧a.1<(List.length a.2:Int)) (gE a b (List.set a.2 (Int.toNat a.1) (at' d a.1))))else(gE a b (a.2))
def dK (e:rI) (d:yE->Option aL) (b:aL) (a:rI) (c:yE->Option aL):Option aL:=
 if a.1<(List.length b:Int)then(ck (0<=a.1∧a.1<(List.length b:Int)) (if(0:Int)<=(at' b a.1)then(ck (0<=a.1∧a.1<(List.length a.2:Int)) (if(at' a.2 a.1)<(0:Int)then(gF b a c (true))else(ck (0<=a.1∧a.1<(List.length a.2:Int)) (gF b a c (decide ((at' b a.1)<(at' a.2 a.1)))))))else(gF b a c (false))))else(gC e d (a.2))
def cM (U:Nat) (p0:cU) (p1:Int) (a:rI) (b:yE->Option aL):Option aL:=
 if a.1<(List.length p0.1:Int)then(ck (0<=a.1) (if(cD .u32 (nZ .u32 p1 a.1) (1:Int))=(0:Int)then(gC a b (a.2))else(Option.bind (nU U ((p0.1,p0.2)) a.1) fun c=>(bJ (dK a b c) U ((0:Int),a.2)))))else(lI  (a.2))
def lH (U:Nat) (p0:cU) (p1:Int) (a:aL):Option aL:=
 bJ (cM U p0 p1) U ((0:Int),a)
def iZ (U:Nat) (p0:cU) (p1:Int) (a:rI) (b:yE->Option aL):Option aL:=
 if a.1<(List.length (List.replicate (Int.toNat (List.length p0.1:Int)) (0:Int)):Int)then(ck (0<=a.1∧a.1<(List.length a.2:Int)) (b ((wI .i64 (a.1+(1:Int))),(List.set a.2 (Int.toNat a.1) (-1:Int)))))else(lH U p0 p1 (a.2))
def jU (U:Nat) (p0:cU) (p1:Int):Option aL:=
 ck (0<=(List.length p0.1:Int)∧(List.length p0.1:Int)<=1099511627) (bJ (iZ U p0 p1) U ((0:Int),(List.replicate (Int.toNat (List.length p0.1:Int)) (0:Int))))
theorem Za:aP Tryz.prog 49:=Tryz.call49
theorem BW (U:Nat) {p0:cU} {p1:Int} (v0:Value)  (v1:Value)  (z2:lW) (r:aL) (h:jU U p0 p1=some r):
  aU Tryz.prog 49 #[Value.agg #[v0,v1],vU (p1)] [Sl bI v0 p0.1,S2 aY v1 z2 p0.2] (fun x:Value=>x) (fun x l=>Ar bO x r::l) (fun _ l=>l):=by
 refine aU.of Tryz.func49 rfl Tryz.ntmps49 rfl fun c=>?_
 refine sqR<|aF (aI.box (cs:=[v0,v1]) rfl rfl) rfl fun b1=>qkAsg rfl<|dtN<|sqR<|qkFld rfl<|qkLd 0 rfl<|qkLen (aB.fact 0 rfl) rfl<|ckE h fun j2 h=>aF (pN (e:=bO) (0:Int) rfl rfl rfl rfl j2 rfl rfl rfl) rfl fun u3=>qkAsg rfl<|dtN<|aG<|midU (fun a5=>lH U p0 p1 a5=some r) (fun a5 b6=>[(1,vU (p1)),(2,vP b1),(5,u3)]) (fun a5 b6=>[Ar bO u3 a5,bL b1 [v0,v1] 29]) ?_ ?_
 ·refine sqR<|qkMove rfl<|aA (fR rfl (aO (aB.res 0 rfl) cC) rfl) rfl<|qkMove rfl<|dtN<|aN<|loopL (iZ U p0 p1) (fun a48 b49=>[(1,vU (p1)),(2,vP b1),(5,u3),(15,vI (List.length (List.replicate (Int.toNat (List.length p0.1:Int)) (0:Int)):Int)),(16,vI (a48.1))]) (fun a48 b49=>[Ar bO u3 a48.2,bL b1 [v0,v1] 29]) ((0:Int),(List.replicate (Int.toNat (List.length p0.1:Int)) (0:Int))) () h SF (aR.refl _) ?_
  intro k50 a48 b49 h
  refine sqR<|qkLss rfl<|dtN<|aG ?_
  refine eT h rfl (fun h=>?_) fun h=>?_
  ·refine cJ<|aG<|aN<|sqR<|qkMove rfl<|qkAsg rfl<|dtN<|aM<|qkMove rfl<|qkMove rfl<|ckE h fun j52 h=>aA (a_ rfl rfl (aO (aB.res 0 rfl) cC) rfl rfl j52) rfl<|xH 0 (-1:Int) j52 rfl rfl rfl rfl rfl rfl rfl<|dN<|inT<|aM<|qkAdd rfl<|qkMove rfl<|dtN ?_
   exact yX ((wI .i64 (a48.1+(1:Int))),(List.set a48.2 (Int.toNat a48.1) (-1:Int))) () h SF rfl
  refine fM ?_
  exact gR (a48.2) () h SF rfl
 intro a5 b6 h
 unfold lH at h
 refine aG<|midU (fun a8=>lI  a8=some r) (fun a8 b9=>[(5,u3)]) (fun a8 b9=>[Ar bO u3 a8]) ?_ ?_
 ·refine sqR<|qkFld rfl<|qkLd 1 rfl<|qkLen (aB.fact 0 rfl) rfl<|qkMove rfl<|dtN<|aN<|loopL (cM U p0 p1) (fun a13 b14=>[(1,vU (p1)),(2,vP b1),(5,u3),(25,vI (List.length p0.1:Int)),(26,vI (a13.1))]) (fun a13 b14=>[Ar bO u3 a13.2,bL b1 [v0,v1] 29]) ((0:Int),a5) () h SF (aR.refl _) ?_
  intro k15 a13 b14 h
  refine sqR<|qkLss rfl<|dtN<|aG ?_
  refine eT h rfl (fun h=>?_) fun h=>?_
  ·refine cJ<|aG<|midU (fun a18=>gC a13 (bJ (cM U p0 p1) k15) a18=some r) (fun a18 b19=>[(1,vU (p1)),(2,vP b1),(5,u3),(25,vI (List.length p0.1:Int)),(26,vI (a13.1))]) (fun a18 b19=>[Ar bO u3 a18,bL b1 [v0,v1] 29]) ?_ ?_
   ·refine aN<|sqR<|qkMove rfl<|qkAsg rfl<|dtN<|aG<|sqR<|qkMove rfl<|qkMove rfl<|ckE h fun j20 h=>aA (Ez rfl rfl j20) rfl<|qkAnd rfl<|qkEql rfl<|dtN ?_
    refine eT h rfl (fun h=>?_) fun h=>?_
    ·refine oK<|dJ<|uF<|wR ?_
     exact gR (a13.2) () h SF rfl
    refine cJ<|sqR<|qkLdA 1 rfl<|qkMove rfl<|bnE h fun r22 w23 h=>aF (aI.callQ Zg (Fi U v0 v1 z2 r22 w23) rfl (lK [0,1] rfl)) rfl fun x24=>aA (fR rfl (aO (aB.res 0 rfl) cC) rfl) rfl<|qkMove rfl<|dtN<|aN<|loopL (dK a13 (bJ (cM U p0 p1) k15) r22) (fun a28 b29=>[(1,vU (p1)),(2,vP b1),(5,u3),(25,vI (List.length p0.1:Int)),(26,vI (a13.1)),(36,x24),(37,vI (List.length r22:Int)),(38,vI (a28.1))]) (fun a28 b29=>[Ar bO x24 r22,Ar bO u3 a28.2,bL b1 [v0,v1] 29]) ((0:Int),a13.2) () h SF (aR.refl _) ?_
    intro k30 a28 b29 h
    refine sqR<|qkLss rfl<|dtN<|aG ?_
    refine eT h rfl (fun h=>?_) fun h=>?_
    ·refine cJ<|aG<|midU (fun a33=>gE a28 (bJ (dK a13 (bJ (cM U p0 p1) k15) r22) k30) a33=some r) (fun a33 b34=>[(1,vU (p1)),(2,vP b1),(5,u3),(25,vI (List.length p0.1:Int)),(26,vI (a13.1)),(36,x24),(37,vI (List.length r22:Int)),(38,vI (a28.1))]) (fun a33 b34=>[Ar bO x24 r22,Ar bO u3 a33,bL b1 [v0,v1] 29]) ?_ ?_
     ·refine aN<|sqR<|qkMove rfl<|ckE h fun j35 h=>aA (a_ rfl rfl (aO (aB.res 0 rfl) cC) rfl rfl j35) rfl<|aA (bV rfl (aO (aB.res 0 rfl) cC) rfl rfl rfl eD j35) rfl<|qkAsg rfl<|qkAsg rfl<|dtN<|aG<|midU (fun a37=>gF r22 a28 (bJ (dK a13 (bJ (cM U p0 p1) k15) r22) k30) a37=some r) (fun a37 b38=>[(1,vU (p1)),(2,vP b1),(5,u3),(8,vI (a28.1)),(9,vI (at' r22 a28.1)),(25,vI (List.length p0.1:Int)),(26,vI (a13.1)),(36,x24),(37,vI (List.length r22:Int)),(38,vI (a28.1)),(59,vB (a37))]) (fun a37 b38=>[Ar bO x24 r22,Ar bO u3 a28.2,bL b1 [v0,v1] 29]) ?_ ?_
      ·refine aM<|qkMove rfl<|aA (Ce rfl rfl) rfl<|qkMove rfl ?_
       refine BS h rfl (fun _ h=>?_) fun _ h=>?_
       ·refine gyMove rfl<|gyMove rfl<|ckE h fun j42 h=>aS rfl (a_ rfl rfl (aO (aB.res 1 rfl) cC) rfl rfl j42) rfl<|aS rfl (bV rfl (aO (aB.res 1 rfl) cC) rfl rfl rfl eD j42) rfl<|aS rfl (Cg rfl rfl) rfl<|gyMove rfl ?_
        refine BS h rfl (fun _ h=>?_) fun _ h=>?_
        ·refine gdSkip rfl<|gdSkip rfl<|gdSkip rfl<|gdSkip rfl<|gdSkip rfl<|gdSkip rfl<|aS rfl (zZ rfl rfl) rfl<|qkPkT rfl<|dtN ?_
         exact gR (true) () h SF rfl
        refine gyMove rfl<|gyMove rfl<|gyMove rfl<|ckE h fun j44 h=>aS rfl (a_ rfl rfl (aO (aB.res 1 rfl) cC) rfl rfl j44) rfl<|aS rfl (bV rfl (aO (aB.res 1 rfl) cC) rfl rfl rfl eD j44) rfl<|aS rfl (Cg rfl rfl) rfl<|aS rfl (tH rfl rfl) rfl<|qkPkT rfl<|dtN ?_
        exact gR (decide ((at' r22 a28.1)<(at' a28.2 a28.1))) () h SF rfl
       refine gdSkip rfl<|gdSkip rfl<|gdSkip rfl<|gdSkip rfl<|gdSkip rfl<|gdSkip rfl<|LS (h:= ?_)
       refine LS (h:= ?_)
       refine LS (h:= ?_)
       refine LS (h:= ?_)
       refine LS (h:= ?_)
       refine LS (h:= ?_)
       refine gdSkip rfl<|qkPkF rfl<|dtN ?_
       exact gR (false) () h SF rfl
      intro a37 b38 h
      refine AG h rfl (fun _ h=>?_) fun _ h=>?_
      ·refine aM<|qkMove rfl<|qkMove rfl<|qkMove rfl<|ckE h fun j40 h=>aA (a_ rfl rfl (aO (aB.res 1 rfl) cC) rfl rfl j40) rfl<|xH 1 (at' r22 a28.1) j40 rfl rfl rfl rfl rfl rfl rfl<|dN<|inT ?_
       exact gR (List.set a28.2 (Int.toNat a28.1) (at' r22 a28.1)) () h SF rfl
      refine dQ<|inT ?_
      exact gR (a28.2) () h SF rfl
     intro a33 b34 h
     unfold gE at h
     refine aM<|qkAdd rfl<|qkMove rfl<|dtN ?_
     exact yX ((wI .i64 (a28.1+(1:Int))),a33) () h SF rfl
    refine oK<|dJ<|dJ<|uF<|inT ?_
    exact bT (a28.2) () h SF (aR.ix [1,2] rfl rfl) (aD.refl _ _)
   intro a18 b19 h
   unfold gC at h
   refine aM<|qkAdd rfl<|qkMove rfl<|dtN ?_
   exact yX ((wI .i64 (a13.1+(1:Int))),a18) () h SF rfl
  refine fM ?_
  exact bT (a13.2) () h SF (aR.ix [0] rfl rfl) (aD.refl _ _)
 intro a8 b9 h
 unfold lI at h
 refine sqR<|qkMove rfl<|qkAsg rfl<|dtN<|aQ ?_
 cases h
 exact gY (u3) rfl rfl (RV.tmp rfl) (aR.refl _) aD.nil
end
section
def mS  (a:Int):Option (Int):=
 some (a)
def jR (b:eK) (a:d_->Option (Int)) (c:Int):Option (Int):=
 a (c,(wI .i64 (b.2+(1:Int))))
def mT (a:eK) (b:d_->Option (Int)) (c:Bool):Option (Int):=
 if c=true then(ck (0<=a.2) (jR a b (Em .u32 a.1 (xS .u32 (1:Int) a.2))))else(jR a b (a.1))
def gT (p2:Int) (c:aL) (a:eK) (b:d_->Option (Int)):Option (Int):=
 if a.2<(List.length c:Int)then(ck (0<=a.2∧a.2<(List.length c:Int)) (if(0:Int)<=(at' c a.2)then(mT a b (decide ((at' c a.2)<=p2)))else(mT a b (false))))else(mS  (a.1))
def mR (U:Nat) (p0:cU) (p1:Int) (p2:Int) (a:Bool):Option (Int):=
 if a=true then(some (0:Int))else(Option.bind (jU U ((p0.1,p0.2)) p1) fun b=>(bJ (gT p2 b) U ((0:Int),(0:Int))))
def kK (U:Nat) (p0:cU) (p1:Int) (p2:Int):Option (Int):=
 Option.bind (eW U ((p0.1,p0.2))) fun r29=>(if(!r29)=true then(mR U p0 p1 p2 (true))else(mR U p0 p1 p2 (decide (p2<(0:Int)))))
theorem YT:aP Tryz.prog 25:=Tryz.call25
theorem Cz (U:Nat) {p0:cU} {p1:Int} {p2:Int} (v0:Value)  (v1:Value)  (z2:lW) (r:Int) (h:kK U p0 p1 p2=some r):
  aU Tryz.prog 25 #[Value.agg #[v0,v1],vU (p1),vI (p2)] [Sl bI v0 p0.1,S2 aY v1 z2 p0.2] (fun x:Unit=>vU (r)) (fun x l=>l) (fun _ l=>l):=by
 refine aU.of Tryz.func25 rfl Tryz.ntmps25 rfl fun c=>?_
 refine sqR<|aF (aI.box (cs:=[v0,v1]) rfl rfl) rfl fun b1=>qkAsg rfl<|dtN<|aG<|aG<|midU (fun a3=>mR U p0 p1 p2 a3=some r) (fun a3 b4=>[(1,vU (p1)),(2,vI (p2)),(3,vP b1),(16,vB (a3))]) (fun a3 b4=>[bL b1 [v0,v1] 29]) ?_ ?_
 ·refine aM<|qkLdA 0 rfl<|bnE h fun r29 w30 h=>aF (aI.callQ HU (tA U v0 v1 z2 r29 w30) rfl (lK [0,1] rfl)) rfl fun x31=>aA (qX rfl) rfl<|qkMove rfl ?_
  refine zX (by exact rfl) (by exact rfl) (fun hp32=>?_) (fun hp32=>?_)
  ·have h:=JU hp32 h
   refine gdSkip rfl<|gdSkip rfl<|qkPkT rfl<|dtN ?_
   exact gR (true) () h SF rfl
  have h:=Io hp32 h
  refine gyMove rfl<|aS rfl (Cg rfl rfl) rfl<|qkPkF rfl<|dtN ?_
  exact gR (decide (p2<(0:Int))) () h SF rfl
 intro a3 b4 h
 refine AG h rfl (fun _ h=>?_) fun _ h=>?_
 ·refine sqR<|qkAsg rfl<|dtN<|aQ<|aJ ?_
  cases h
  exact wN rfl
 refine cJ<|sqR<|qkAsg rfl<|dtN<|aG<|midU (fun a7=>mS  a7=some r) (fun a7 b8=>[(7,vU (a7))]) (fun a7 b8=>[]) ?_ ?_
 ·refine sqR<|qkLdA 0 rfl<|qkMove rfl<|bnE h fun r9 w10 h=>aF (aI.callQ Za (BW U v0 v1 z2 r9 w10) rfl (lK [0,1] rfl)) rfl fun x11=>aA (fR rfl (aO (aB.res 0 rfl) cC) rfl) rfl<|qkMove rfl<|dtN<|aN<|loopL (gT p2 r9) (fun a15 b16=>[(2,vI (p2)),(7,vU (a15.1)),(19,x11),(20,vI (List.length r9:Int)),(21,vI (a15.2))]) (fun a15 b16=>[Ar bO x11 r9]) ((0:Int),(0:Int)) () h SF (aR.ix [0] rfl rfl) ?_
  intro k17 a15 b16 h
  refine sqR<|qkLss rfl<|dtN<|aG ?_
  refine eT h rfl (fun h=>?_) fun h=>?_
  ·refine cJ<|aG<|midU (fun a20=>jR a15 (bJ (gT p2 r9) k17) a20=some r) (fun a20 b21=>[(2,vI (p2)),(7,vU (a20)),(19,x11),(20,vI (List.length r9:Int)),(21,vI (a15.2))]) (fun a20 b21=>[Ar bO x11 r9]) ?_ ?_
   ·refine aN<|sqR<|qkMove rfl<|ckE h fun j22 h=>aA (a_ rfl rfl (aO (aB.res 0 rfl) cC) rfl rfl j22) rfl<|aA (bV rfl (aO (aB.res 0 rfl) cC) rfl rfl rfl eD j22) rfl<|qkAsg rfl<|qkAsg rfl<|dtN<|aG<|midU (fun a24=>mT a15 (bJ (gT p2 r9) k17) a24=some r) (fun a24 b25=>[(2,vI (p2)),(7,vU (a15.1)),(8,vI (a15.2)),(19,x11),(20,vI (List.length r9:Int)),(21,vI (a15.2)),(32,vB (a24))]) (fun a24 b25=>[Ar bO x11 r9]) ?_ ?_
    ·refine aM<|qkMove rfl<|aA (Ce rfl rfl) rfl<|qkMove rfl ?_
     refine BS h rfl (fun _ h=>?_) fun _ h=>?_
     ·refine gyMove rfl<|gyMove rfl<|aS rfl (zY rfl rfl) rfl<|qkPkT rfl<|dtN ?_
      exact gR (decide ((at' r9 a15.2)<=p2)) () h SF rfl
     refine gdSkip rfl<|gdSkip rfl<|gdSkip rfl<|qkPkF rfl<|dtN ?_
     exact gR (false) () h SF rfl
    intro a24 b25 h
    refine AG h rfl (fun _ h=>?_) fun _ h=>?_
    ·refine aM<|qkMove rfl<|qkMove rfl<|ckE h fun j27 h=>aA (Gj rfl rfl j27) rfl<|aA (Mq rfl rfl) rfl<|qkAsg rfl<|dN<|inT ?_
     exact gR (Em .u32 a15.1 (xS .u32 (1:Int) a15.2)) () h SF rfl
    refine dQ<|inT ?_
    exact gR (a15.1) () h SF rfl
   intro a20 b21 h
   unfold jR at h
   refine aM<|qkAdd rfl<|qkMove rfl<|dtN ?_
   exact yX (a20,(wI .i64 (a15.2+(1:Int)))) () h SF rfl
  refine fM ?_
  exact bT (a15.1) () h SF .nil (aD.refl _ _)
 intro a7 b8 h
 unfold mS at h
 refine sqR<|qkMove rfl<|qkAsg rfl<|dtN<|aQ ?_
 cases h
 exact lC rfl
end
section
def Jm  (a:Unit):Option (Int):=
 some (-1:Int)
def Aw (p0:cU) (p1:Int) (p2:Int) (a:Int) (b:(Int)->Option (Int)):Option (Int):=
 ck (0<=p1∧p1<(List.length p0.2:Int)) (if a<(List.length (at' p0.2 p1):Int)then(ck (0<=p1∧p1<(List.length p0.2:Int)) (ck (0<=a∧a<(List.length (at' p0.2 p1):Int)) (if((at' (at' p0.2 p1) a).1)=p2 then(some (a))else(b (wI .i64 (a+(1:Int)))))))else(Jm  (())))
def EN (fuel:Nat) (p0:cU) (p1:Int) (p2:Int):Option (Int):=
 bJ (Aw p0 p1 p2) fuel (0:Int)
end
section
def xU  (a:Unit):Option (Int):=
 some (-1:Int)
def tO (p0:cU) (p1:Int) (p2:Int) (a:Int) (b:(Int)->Option (Int)):Option (Int):=
 if a<(List.length (at' p0.2 p1):Int)then(ck (0<=a∧a<(List.length (at' p0.2 p1):Int)) (if((at' (at' p0.2 p1) a).1)=p2 then(some (a))else(b (wI .i64 (a+(1:Int))))))else(xU  (()))
def mG (U:Nat) (p0:cU) (p1:Int) (p2:Int):Option (Int):=
 ck (0<=p1∧p1<(List.length p0.2:Int)) (bJ (tO p0 p1 p2) U (0:Int))
theorem Tw:aP Tryz.prog 67:=Tryz.call67
theorem CC (U:Nat) {p0:cU} {p1:Int} {p2:Int} (v0:Value)  (v1:Value)  (z2:lW) (r:Int) (h:mG U p0 p1 p2=some r):
  aU Tryz.prog 67 #[Value.agg #[v0,v1],vI (p1),vI (p2)] [Sl bI v0 p0.1,S2 aY v1 z2 p0.2] (fun x:Unit=>vI (r)) (fun x l=>l) (fun _ l=>l):=by
 refine aU.of Tryz.func67 rfl Tryz.ntmps67 rfl fun c=>?_
 refine sqR<|aF (aI.box (cs:=[v0,v1]) rfl rfl) rfl fun b1=>qkAsg rfl<|dtN<|aG<|midU (fun a2=>xU  a2=some r) (fun a2 b3=>[]) (fun a2 b3=>[]) ?_ ?_
 ·refine sqR<|qkFld rfl<|qkLd 0 rfl<|qkMove rfl<|ckE h fun j4 h=>aA (cY rfl rfl (aB.fact 1 rfl) rfl rfl j4) rfl<|aA (cW rfl (aB.fact 1 rfl) rfl rfl j4) rfl<|aA (fR rfl (aB.el (aB.fact 1 rfl) j4.1 j4.2) rfl) rfl<|qkMove rfl<|dtN<|aN<|loopL (tO p0 p1 p2) (fun a7 b8=>[(2,vI (p2)),(13,(at' z2 p1).1),(14,vI (List.length (at' p0.2 p1):Int)),(15,vI (a7))]) (fun a7 b8=>[]) (0:Int) () h SF .nil ?_
  intro k9 a7 b8 h
  refine sqR<|qkLss rfl<|dtN<|aG ?_
  refine eT h rfl (fun h=>?_) fun h=>?_
  ·refine cJ<|aG<|aN<|sqR<|qkMove rfl<|ckE h fun j11 h=>aA (a_ rfl rfl (aB.el (aB.fact 1 rfl) j4.1 j4.2) rfl rfl j11) rfl<|aA (iA (cs:=[vI ((at' (at' p0.2 p1) a7).1),vI ((at' (at' p0.2 p1) a7).2)]) rfl (aB.el (aB.fact 1 rfl) j4.1 j4.2) bN rfl rfl rfl rfl j11) rfl<|aF (aI.alloc (cs:=QK) rfl rfl) rfl fun b12=>qkAsg rfl<|bE 0 (vs:=[vI ((at' (at' p0.2 p1) a7).1),vI ((at' (at' p0.2 p1) a7).2)]) rfl rfl rfl rfl rfl rfl<|dtN<|sqR<|qkFld rfl<|qkLd 0 rfl<|qkMove rfl<|qkEql rfl<|dtN ?_
   refine eT h rfl (fun h=>?_) fun h=>?_
   ·refine sqR<|qkMove rfl<|qkAsg rfl<|dtN<|aQ<|bQ<|aJ<|aJ<|bQ<|aJ ?_
    cases h
    exact wN rfl
   refine dQ<|inT<|aM<|qkAdd rfl<|qkMove rfl<|dtN ?_
   exact kZ (wI .i64 (a7+(1:Int))) () h SF .nil (aD.refl _ _)
  refine fM ?_
  exact gR () (()) h SF rfl
 intro a2 b3 h
 unfold xU at h
 refine sqR<|qkAsg rfl<|dtN<|aQ ?_
 cases h
 exact lC rfl
end
section
def nR (U:Nat) (p0:AT) (p1:Int):Option rH:=
 if(!p0.2.2.2.2.1)=true then(Option.bind (kT U ((p0.1,p0.2.1,p0.2.2.1,p0.2.2.2.1,p0.2.2.2.2.1,p0.2.2.2.2.2)) p1) fun b=>(some ((b.1,b.2))))else(Option.bind (lB U ((p0.1,p0.2.1,p0.2.2.1,p0.2.2.2.1,p0.2.2.2.2.1,p0.2.2.2.2.2)) p1) fun c=>(Option.bind (jY U ((p0.1,p0.2.1,p0.2.2.1,p0.2.2.2.1,p0.2.2.2.2.1,p0.2.2.2.2.2)) ((c.1,c.2))) fun a=>(some ((a.1,a.2)))))
theorem aaZ:aP Tryz.prog 8:=Tryz.call8
theorem Fe (U:Nat) {p0:AT} {p1:Int} (d:Value)  (e:Value)  (f:Value) (r:CI) (h:nR U p0 p1=some r):
  aU Tryz.prog 8 #[Value.agg #[vI (p0.1),d,e,f,vB (p0.2.2.2.2.1),vB (p0.2.2.2.2.2)],vI (p1)] [Sl bI d p0.2.1,Sl bI e p0.2.2.1,Sl bI f p0.2.2.2.1] (fun x:NC=>Value.agg #[x.1,x.2.1]) (fun x l=>Ar bO x.1 r.1::Ar cE.raw x.2.1 x.2.2::fT bS x.2.2 r.2::l) (fun _ l=>l):=by
 refine aU.of Tryz.func8 rfl Tryz.ntmps8 rfl fun c=>?_
 refine sqR<|aF (aI.box (cs:=[vI (p0.1),d,e,f,vB (p0.2.2.2.2.1),vB (p0.2.2.2.2.2)]) rfl rfl) rfl fun u=>aF (aI.alloc (cs:=[gM,gM]) rfl rfl) rfl fun v=>dtN<|aG<|sqR<|qkFld rfl<|qkLd 1 rfl<|aA (qX rfl) rfl<|dtN ?_
 refine AG h rfl (fun _ h=>?_) fun _ h=>?_
 ·refine sqR<|qkLdA 1 rfl<|qkMove rfl<|bnE h fun w y h=>aF (aI.callQ YS (AR U d e f w y) rfl (lK [0,1,2] rfl)) rfl fun m=>bM (Know.one ((aO (aB.res 0 rfl) cC))) fun n=>bM (Know.one (aB.sl (aV (i:=1) (j:=2) rfl rfl bN))) fun o=>bE 3 (vs:=[m.1,m.2.1]) rfl rfl (bY n (bY o rfl)) rfl rfl rfl<|dtN<|aQ<|aJ ?_
  cases h
  exact gY (m.1,m.2.1,m.2.2) rfl rfl (RV.cell 3 rfl rfl rfl rfl) (aR.ix [0,1,2] rfl rfl) aD.nil
 refine cJ<|aG ?_
 refine JR.start [0,0,0,6,15,31] 4 mixedOrders (by decide +kernel) ?_
 refine JR.open (by exact rfl) ?_
 refine jkLdA 1 rfl<|jkLdA 1 rfl<|jkMove rfl<|bnE h fun q s h=>JR.loud rfl rfl rfl (aI.callQ To (yD U d e f q s) rfl (lK [0,1,2] rfl)) rfl (fun a=>(mW [([4],[])] rfl)) fun a=>bD 4 rfl rfl<|bnE h fun p t h=>aF (AZ (Min:=[Ar bO a.1 q.1,Ar cE.raw a.2.1 a.2.2,fT bS a.2.2 q.2]) (Mr:=[bL v [gM,gM] 29,bL u [vI (p0.1),d,e,f,vB (p0.2.2.2.2.1),vB (p0.2.2.2.2.2)] 24]) Tn (zK U d e f a.1 a.2.1 a.2.2 p t) rfl (aR.refl _) (lK [0,1,2] rfl) (fun _ _=>rfl)) rfl fun b=>bM (Know.one ((aO (aB.res 0 rfl) cC))) fun g=>bM (Know.one (aB.sl (aV (i:=1) (j:=2) rfl rfl bN))) fun k=>bE 3 (vs:=[b.1,b.2.1]) rfl rfl (bY g (bY k rfl)) rfl rfl rfl<|dtN<|aQ ?_
 cases h
 exact gY (b.1,b.2.1,b.2.2) rfl rfl (RV.cell 3 rfl rfl rfl rfl) (aR.ix [0,1,2] rfl rfl) aD.nil
end
section
def nM  (a:Unit):Option (Bool):=
 some (true)
def nN (c:Int) (a:(Int)->Option (Bool)) (b:Unit):Option (Bool):=
 a (wI .i64 (c+(1:Int)))
def nO (b:Int) (a:(Int)->Option (Bool)) (c:Bool):Option (Bool):=
 if c=true then(some (false))else(a (wI .i64 (b+(1:Int))))
def kG (p1:aT) (d:Int) (a:Int) (b:(Int)->Option (Bool)) (c:eK):Option (Bool):=
 if(at' (at' p1 d) a)<c.1 then(nO a b (true))else(nO a b (decide (c.2<(at' (at' p1 d) a))))
def eH (p0:cU) (p1:aT) (p2:aL) (b:Int) (d:(Int)->Option (Bool)) (a:Int) (c:(Int)->Option (Bool)):Option (Bool):=
 if a<(List.length (at' p1 b):Int)then(ck (0<=a∧a<(List.length (at' p1 b):Int)) (ck (0<=a∧a<(List.length p2:Int)) (if(at' p2 a)=(-1:Int)then(ck (0<=b∧b<(List.length p0.2:Int)) (kG p1 b a c ((-1:Int),(wI .i64 ((List.length (at' p0.2 b):Int) - (1:Int))))))else(kG p1 b a c ((0:Int),(at' p2 a))))))else(nN b d (()))
def dM (U:Nat) (p0:cU) (p1:aT) (p2:aL) (a:Int) (b:(Int)->Option (Bool)):Option (Bool):=
 if a<(List.length p1:Int)then(ck (0<=a∧a<(List.length p1:Int)) (if(List.length (at' p1 a):Int)≠(List.length p2:Int)then(some (false))else(bJ (eH p0 p1 p2 a b) U (0:Int))))else(nM  (()))
def jE (U:Nat) (p0:cU) (p1:aT) (p2:aL):Option (Bool):=
 if(List.length p1:Int)≠(List.length p0.1:Int)then(some (false))else(bJ (dM U p0 p1 p2) U (0:Int))
theorem Zj:aP Tryz.prog 98:=Tryz.call98
theorem Dl (U:Nat) {p0:cU} {p1:aT} {p2:aL} (v0:Value)  (v1:Value)  (z2:lW)  (v3:Value)  (z4:oC)  (v5:Value) (r:Bool) (h:jE U p0 p1 p2=some r):
  aU Tryz.prog 98 #[Value.agg #[v0,v1],v3,v5] [Sl bI v0 p0.1,S2 aY v1 z2 p0.2,S2 bI v3 z4 p1,Sl bI v5 p2] (fun x:Unit=>vB (r)) (fun x l=>l) (fun _ l=>l):=by
 refine aU.of Tryz.func98 rfl Tryz.ntmps98 rfl fun c=>?_
 refine sqR<|aF (aI.box (cs:=[v0,v1]) rfl rfl) rfl fun b1=>qkAsg rfl<|dtN<|aG<|sqR<|qkMove rfl<|aA (iW rfl (aB.fact 2 rfl) rfl) rfl<|qkFld rfl<|qkLd 0 rfl<|qkLen (aB.fact 0 rfl) rfl<|qkNeq rfl<|dtN ?_
 refine eT h rfl (fun h=>?_) fun h=>?_
 ·refine sqR<|qkAsg rfl<|dtN<|aQ<|aJ ?_
  cases h
  exact wN rfl
 refine cJ<|aG<|midU (fun a3=>nM  a3=some r) (fun a3 b4=>[]) (fun a3 b4=>[]) ?_ ?_
 ·refine sqR<|qkMove rfl<|aA (iW rfl (aB.fact 2 rfl) rfl) rfl<|qkMove rfl<|dtN<|aN<|loopL (dM U p0 p1 p2) (fun a7 b8=>[(2,v5),(3,vP b1),(19,v3),(20,vI (List.length p1:Int)),(21,vI (a7))]) (fun a7 b8=>[bL b1 [v0,v1] 29]) (0:Int) () h SF (aR.refl _) ?_
  intro k9 a7 b8 h
  refine sqR<|qkLss rfl<|dtN<|aG ?_
  refine eT h rfl (fun h=>?_) fun h=>?_
  ·refine cJ<|aG<|midU (fun a11=>nN a7 (bJ (dM U p0 p1 p2) k9) a11=some r) (fun a11 b12=>[(2,v5),(3,vP b1),(19,v3),(20,vI (List.length p1:Int)),(21,vI (a7))]) (fun a11 b12=>[bL b1 [v0,v1] 29]) ?_ ?_
   ·refine aN<|sqR<|qkMove rfl<|ckE h fun j13 h=>aA (cY rfl rfl (aB.fact 2 rfl) rfl rfl j13) rfl<|aA (cW rfl (aB.fact 2 rfl) rfl rfl j13) rfl<|qkAsg rfl<|qkAsg rfl<|dtN<|aG<|sqR<|qkMove rfl<|aA (fR rfl (aB.el (aB.fact 2 rfl) j13.1 j13.2) rfl) rfl<|qkMove rfl<|qkLen (aB.fact 3 rfl) rfl<|qkNeq rfl<|dtN ?_
    refine eT h rfl (fun h=>?_) fun h=>?_
    ·refine sqR<|qkAsg rfl<|dtN<|aQ<|aJ<|bQ<|aJ<|aJ<|bQ<|aJ ?_
     cases h
     exact wN rfl
    refine cJ<|sqR<|qkMove rfl<|aA (fR rfl (aB.el (aB.fact 2 rfl) j13.1 j13.2) rfl) rfl<|qkMove rfl<|dtN<|aN<|loopL (eH p0 p1 p2 a7 (bJ (dM U p0 p1 p2) k9)) (fun a17 b18=>[(2,v5),(3,vP b1),(7,vI (a7)),(19,v3),(20,vI (List.length p1:Int)),(21,vI (a7)),(31,(at' z4 a7).1),(32,vI (List.length (at' p1 a7):Int)),(33,vI (a17))]) (fun a17 b18=>[bL b1 [v0,v1] 29]) (0:Int) () h SF (aR.refl _) ?_
    intro k19 a17 b18 h
    refine sqR<|qkLss rfl<|dtN<|aG ?_
    refine eT h rfl (fun h=>?_) fun h=>?_
    ·refine cJ<|aG<|aN<|sqR<|qkMove rfl<|ckE h fun j21 h=>aA (a_ rfl rfl (aB.el (aB.fact 2 rfl) j13.1 j13.2) rfl rfl j21) rfl<|aA (bV rfl (aB.el (aB.fact 2 rfl) j13.1 j13.2) rfl rfl rfl eD j21) rfl<|qkAsg rfl<|qkAsg rfl<|dtN<|aG ?_
     refine JR.start [0,0,3,7,0,31] 5 mixedOrders (by decide +kernel) ?_
     refine JR.open (by exact rfl) ?_
     refine jkMove rfl<|jkMove rfl<|ckE h fun j22 h=>bG rfl .nil (lX 3 rfl) (a_ rfl rfl (aB.fact 0 rfl) rfl rfl j22) aK.z<|bG rfl .nil (lX 3 rfl) (bV rfl (aB.fact 0 rfl) rfl rfl rfl eD j22) aK.z<|jqN rfl (iV rfl)<|bD 5 rfl rfl<|qkAsg rfl<|dtN<|aG<|midU (fun a25=>kG p1 a7 a17 (bJ (eH p0 p1 p2 a7 (bJ (dM U p0 p1 p2) k9)) k19) a25=some r) (fun a25 b26=>[(2,v5),(3,vP b1),(7,vI (a7)),(10,vI (at' (at' p1 a7) a17)),(11,vI (a25.1)),(12,vI (a25.2)),(19,v3),(20,vI (List.length p1:Int)),(21,vI (a7)),(31,(at' z4 a7).1),(32,vI (List.length (at' p1 a7):Int)),(33,vI (a17))]) (fun a25 b26=>[bL b1 [v0,v1] 29]) ?_ ?_
     ·refine sqR<|qkMove rfl<|qkEql rfl<|dtN ?_
      refine eT h rfl (fun h=>?_) fun h=>?_
      ·refine JR.start [0,1,0,7,15,31,63,0,255] 8 mixedOrders (by decide +kernel) ?_
       refine JR.open (by exact rfl) ?_
       refine jkFld rfl<|jkLd 0 rfl<|jkMove rfl<|ckE h fun j33 h=>bG rfl .nil (lX 1 rfl) (cY rfl rfl (aB.fact 0 rfl) rfl rfl j33) aK.z<|bG rfl .nil (lX 1 rfl) (cW rfl (aB.fact 0 rfl) rfl rfl j33) aK.z<|bG rfl .nil (lX 1 rfl) (fR rfl (aB.el (aB.fact 0 rfl) j33.1 j33.2) rfl) aK.z<|jqN rfl (pO rfl rfl)<|jqN rfl (iV rfl)<|bD 8 rfl rfl<|qkAsg rfl<|dtN ?_
       exact gR ((-1:Int),(wI .i64 ((List.length (at' p0.2 a7):Int) - (1:Int)))) () h SF rfl
      refine cJ ?_
      exact gR ((0:Int),(at' p2 a17)) () h SF rfl
     intro a25 b26 h
     refine aG<|midU (fun a28=>nO a17 (bJ (eH p0 p1 p2 a7 (bJ (dM U p0 p1 p2) k9)) k19) a28=some r) (fun a28 b29=>[(2,v5),(3,vP b1),(7,vI (a7)),(19,v3),(20,vI (List.length p1:Int)),(21,vI (a7)),(31,(at' z4 a7).1),(32,vI (List.length (at' p1 a7):Int)),(33,vI (a17)),(58,vB (a28))]) (fun a28 b29=>[bL b1 [v0,v1] 29]) ?_ ?_
     ·refine aM<|qkMove rfl<|qkMove rfl<|qkLss rfl<|qkMove rfl ?_
      refine BS h rfl (fun _ h=>?_) fun _ h=>?_
      ·refine gdSkip rfl<|gdSkip rfl<|gdSkip rfl<|qkPkT rfl<|dtN ?_
       exact gR (true) () h SF rfl
      refine gyMove rfl<|gyMove rfl<|aS rfl (vR rfl rfl) rfl<|qkPkF rfl<|dtN ?_
      exact gR (decide (a25.2<(at' (at' p1 a7) a17))) () h SF rfl
     intro a28 b29 h
     refine AG h rfl (fun _ h=>?_) fun _ h=>?_
     ·refine sqR<|qkAsg rfl<|dtN<|aQ<|bQ<|aJ<|aJ<|bQ<|bQ<|aJ<|aJ<|bQ<|aJ ?_
      cases h
      exact wN rfl
     refine dQ<|inT<|aM<|qkAdd rfl<|qkMove rfl<|dtN ?_
     exact yX (wI .i64 (a17+(1:Int))) () h SF rfl
    refine oK<|dJ<|dJ<|uF<|inT ?_
    exact gR () (()) h SF rfl
   intro a11 b12 h
   unfold nN at h
   refine aM<|qkAdd rfl<|qkMove rfl<|dtN ?_
   exact yX (wI .i64 (a7+(1:Int))) () h SF rfl
  refine fM ?_
  exact bT () (()) h SF .nil (aD.refl _ _)
 intro a3 b4 h
 unfold nM at h
 refine sqR<|qkAsg rfl<|dtN<|aQ ?_
 cases h
 exact lC rfl
end
end Go.Proofs.YtjlbcgddhnjcjaaGreatDoor
end
section
section
namespace Go.Proofs.YtjlbcgddhnjcjaaGreatDoor
open Go.Sx
section
theorem P_ {R:Type} {step:Int->(Int->Option R)->Option R} {K:Option R} {bad:R} (N:Nat) (p:Nat->Prop)
  (q:∀(k:Nat) b,k<N->p k->step k b=b ((k:Int)+1)) (g:∀(k:Nat) b,k<N->¬p k->step k b=some bad) (i:∀b,step N b=K):
  ∀(fuel:Nat),N<fuel->((∀k,k<N->p k)->bJ step fuel 0=K)∧(¬(∀k,k<N->p k)->bJ step fuel 0=some bad):=by
 intro fuel o
 have r:∀(d a fuel:Nat),a+d=N->d<fuel->((∀k,a<=k->k<N->p k)->bJ step fuel (a:Int)=K)∧(¬(∀k,a<=k->k<N->p k)->bJ step fuel (a:Int)=some bad):=by
  intro d
  induction d with
  |zero=>
   intro a fuel u o
   obtain rfl:a=N:=by omega
   cases fuel with
   |zero=>omega
   |succ f=>exact⟨fun _=>i _,fun h=>absurd (fun k l c=>by omega) h⟩
  | succ d ih =>
   intro a fuel u o
   cases fuel with
   |zero=>omega
   | succ f =>
    obtain⟨s,t⟩:=ih (a+1) f (by omega) (by omega)
    have e:((a+1:Nat):Int)=(a:Int)+1:=by omega
    rw[e]at s t
    by_cases m:p a
    ·have v:bJ step (f+1) (a:Int)=bJ step f ((a:Int)+1):=q a _ (by omega) m
     rw[v]
     refine⟨fun h=>s fun k l c=>h k (by omega) c,fun h=>t fun n=>h fun k l c=> ?_⟩
     by_cases j:k=a
     ·subst j;exact m
     ·exact n k (by omega) c
    ·exact⟨fun h=>absurd (h a (Nat.le_refl _) (by omega)) m,fun _=>g a _ (by omega) m⟩
 obtain⟨l,c⟩:=r N 0 fuel (by omega) o
 exact⟨fun h=>l fun k _ j=>h k j,fun h=>c fun n=>h fun k j=>n k (by omega) j⟩
abbrev GR:=List Int×fQ
abbrev row (g:GR) (v:Nat):e_:=at' g.2 (v:Int)
abbrev Xt (g:GR) (v:Nat):Int:=at' g.1 (v:Int)
abbrev jJ (l:e_) (i:Nat):eK:=at' l (i:Int)
def light (g:GR):Prop:=g.1.length<=30∧g.2.length<=30∧∀v,v<g.2.length->(row g v).length<=30
def HA (l:e_) (v n i:Nat):Prop:=(0<=(jJ l i).1∧(jJ l i).1<=(n:Int) - 1)∧(jJ l i).1≠v∧(1<=(jJ l i).2∧(jJ l i).2<=15)∧∀k,k<i->(jJ l k).1≠(jJ l i).1
def tG (l:e_) (v n:Nat):Prop:=∀i,i<l.length->HA l v n i
def zD (l:e_) (u:Int):Int:=match l.findIdx? (fun x=>decide (x.1=u))with
 |some i=>i
 |none=> -1
theorem Ng {l:e_} {u:Int} (i:Nat) (b:i<l.length) (d:(jJ l i).1=u) (c:∀k,k<i->(jJ l k).1≠u):zD l u=i:=by
 have:l.findIdx? (fun x=>decide (x.1=u))=some i:=by
  rw[List.findIdx?_eq_some_iff_getElem]
  have e:∀k (a:k<l.length),jJ l k=l[k]:=fun k a=>by rw[jJ,iX,List.getD_eq_getElem?_getD,List.getElem?_eq_getElem a];rfl
  refine⟨b,by rw[<-e i b];simpa using d,fun k a=> ?_⟩
  have:=c k a
  rw[e k (by omega)]at this
  simpa using this
 rw[zD,this]
theorem Nf {l:e_} {u:Int} (b:∀k,k<l.length->(jJ l k).1≠u):zD l u = -1:=by
 have:l.findIdx? (fun x=>decide (x.1=u))=none:=by
  rw[List.findIdx?_eq_none_iff]
  intro x c
  obtain⟨k,a,rfl⟩:=List.getElem_of_mem c
  have:=b k a
  rw[jJ,iX,List.getD_eq_getElem?_getD,List.getElem?_eq_getElem a]at this
  simpa using this
 rw[zD,this]
theorem ER (l:e_) (u:Int):(∃i,i<l.length∧(jJ l i).1=u∧(∀k,k<i->(jJ l k).1≠u)∧zD l u=i)∨((∀k,k<l.length->(jJ l k).1≠u)∧zD l u = -1):=by
 by_cases h:∀k,k<l.length->(jJ l k).1≠u
 ·exact .inr ⟨h,Nf h⟩
 ·left
  have f:∃k,k<l.length∧(jJ l k).1=u:=by
   apply Classical.byContradiction
   intro hc
   exact h fun k g e=>hc ⟨k,g,e⟩
  obtain⟨k,g,n⟩:=f
  have:∀m,(∃k,k<=m∧k<l.length∧(jJ l k).1=u)->∃i,i<l.length∧(jJ l i).1=u∧∀k,k<i->(jJ l k).1≠u:=by
   intro m
   induction m with
   |zero=>rintro⟨k,d,a,b⟩;exact⟨k,a,b,fun j o=>by omega⟩
   |succ m p=>
    rintro⟨k,d,a,b⟩
    by_cases c:∃j,j<=m∧j<l.length∧(jJ l j).1=u
    ·exact p c
    ·exact⟨k,a,b,fun j o e=>c ⟨j,by omega,by omega,e⟩⟩
  obtain⟨i,d,a,b⟩:=this k ⟨k,Nat.le_refl _,g,n⟩
  exact⟨i,d,a,b,Ng i d a b⟩
theorem ZX (g:GR) (v:Nat) (u:Int) (hv:v<g.2.length) (hl:(row g v).length<=30):EN 1000 g v u=some (zD (row g v) u):=by
 unfold EN
 rcases ER (row g v) u with⟨i,hi,hu,hf,he⟩|⟨hf,he⟩
 ·rw[he]
  refine EK (fun x:Int=>∃k:Nat,x=k∧k<=i) (fun x=>31 - x.toNat) ?_ 1000 _ ⟨0,rfl,by omega⟩ (by omega)
  rintro x ag ⟨k,rfl,hk⟩ hag
  unfold Aw
  rw[cP (by omega),if_pos (show(k:Int)<((row g v).length:Int) by omega),cP (by omega),cP (show 0<=(k:Int)∧(k:Int)<((row g v).length:Int) by omega)]
  by_cases e:k=i
  ·subst e;exact if_pos hu
  ·rw[if_neg (hf k (by omega)),wr (by omega) (by omega)]
   exact hag _ ⟨k+1,by omega,by omega⟩ (by omega)
 ·rw[he]
  refine EK (fun x:Int=>∃k:Nat,x=k∧k<=(row g v).length) (fun x=>31 - x.toNat) ?_ 1000 _ ⟨0,rfl,by omega⟩ (by omega)
  rintro x ag ⟨k,rfl,hk⟩ hag
  unfold Aw
  rw[cP (by omega)]
  by_cases e:k<(row g v).length
  ·rw[if_pos (show(k:Int)<((row g v).length:Int) by omega),cP (by omega),cP (show 0<=(k:Int)∧(k:Int)<((row g v).length:Int) by omega),if_neg (hf k e),wr (by omega) (by omega)]
   exact hag _ ⟨k+1,by omega,by omega⟩ (by omega)
  ·rw[if_neg (show¬(k:Int)<((row g v).length:Int) by omega)];rfl
end
section
theorem EL {X R:Type} {step:X->(X->Option R)->Option R} {K:X->Option R} {bad:R} (N:Nat) (p:Nat->Prop) (I:Nat->X->Prop)
  (s:∀(k:Nat) x e,k<N->I k x->p k->∃b,I (k+1) b∧step x e=e b) (i:∀(k:Nat) x e,k<N->I k x->¬p k->step x e=some bad) (j:∀x e,I N x->step x e=K x):
  ∀(fuel:Nat) (x:X),I 0 x->N<fuel->((∀k,k<N->p k)->∃b,I N b∧bJ step fuel x=K b)∧(¬(∀k,k<N->p k)->bJ step fuel x=some bad):=by
 intro fuel x c r
 have u:∀(d a fuel:Nat) (x:X),a+d=N->d<fuel->I a x->((∀k,a<=k->k<N->p k)->∃b,I N b∧bJ step fuel x=K b)∧(¬(∀k,a<=k->k<N->p k)->bJ step fuel x=some bad):=by
  intro d
  induction d with
  |zero=>
   intro a fuel x v r c
   obtain rfl:a=N:=by omega
   cases fuel with
   |zero=>omega
   |succ f=>exact⟨fun _=>⟨x,c,j _ _ c⟩,fun h=>absurd (fun k m g=>by omega) h⟩
  | succ d ih =>
   intro a fuel x v r c
   cases fuel with
   |zero=>omega
   | succ f =>
    by_cases n:p a
    ·obtain⟨b,q,t⟩:=s a x (bJ step f) (by omega) c n
     have t:bJ step (f+1) x=bJ step f b:=t
     obtain⟨w,y⟩:=ih (a+1) f b (by omega) (by omega) q
     rw[t]
     refine⟨fun h=>w fun k m g=>h k (by omega) g,fun h=>y fun o=>h fun k m g=> ?_⟩
     by_cases l:k=a
     ·subst l;exact n
     ·exact o k (by omega) g
    ·exact⟨fun h=>absurd (h a (Nat.le_refl _) (by omega)) n,fun _=>i a x _ (by omega) c n⟩
 obtain⟨m,g⟩:=u N 0 fuel x (by omega) r c
 exact⟨fun h=>m fun k _ l=>h k l,fun h=>g fun o=>h fun k l=>o k (by omega) l⟩
def JA (g:GR) (v i:Nat):Prop:=∃j,j<(at' g.2 (jJ (row g v) i).1).length∧(jJ (at' g.2 (jJ (row g v) i).1) j).1=v∧(jJ (at' g.2 (jJ (row g v) i).1) j).2=(jJ (row g v) i).2
structure YF (g:GR) (v:Nat):Prop where
 id:0<=Xt g v∧Xt g v<=255
 deg:(row g v).length<g.2.length
 links:tG (row g v) v g.2.length
 ids:∀k,k<v->Xt g k≠Xt g v
structure VG (g:GR):Prop where
 n1:1<=g.2.length
 n24:g.2.length<=24
 len:g.1.length=g.2.length
 node:∀v,v<g.2.length->YF g v
 sym:∀v,v<g.2.length->∀i,i<(row g v).length->JA g v i
theorem sL {a:Type} [Inhabited a] (l:List a) (i k:Nat) (y:a) (b:i<l.length):at' (l.set i y) (k:Int)=if k=i then y else at' l (k:Int):=by
 rw[iX,iX,List.getD_eq_getElem?_getD,List.getD_eq_getElem?_getD,List.getElem?_set]
 by_cases h:i=k
 ·rw[if_pos h,if_pos h.symm,if_pos (by omega)];rfl
 ·rw[if_neg h,if_neg (Ne.symm h)]
def Sy (l:aL) (k:Nat):Prop:=(0<=at' l (k:Int)∧at' l (k:Int)<=255)∧∀j,j<k->at' l (j:Int)≠at' l (k:Int)
theorem tI (l:aL) (hl:l.length<=30):((∀k,k<l.length->Sy l k)->iN 1000 l=some true)∧(¬(∀k,k<l.length->Sy l k)->iN 1000 l=some false):=by
 unfold iN
 have key:=EL (step:=fG l) (K:=fun _=>some true) (bad:=false) l.length (Sy l) (fun k x=>x.1=(k:Int)∧x.2.length=256∧∀z:Nat,z<256->(at' x.2 (z:Int)=true↔∃j,j<k∧at' l (j:Int)=(z:Int))) ?_ ?_ ?_ 1000 ((0:Int),(List.replicate 256 false)) ⟨rfl,List.length_replicate ..,fun z hz=> ?_⟩ (by omega)
 ·exact⟨fun h=>by obtain⟨x,_,hx⟩:=key.1 h;exact hx,key.2⟩
 ·rintro k ⟨x1,x2⟩ ag hk ⟨hx,hlen,hs⟩ ⟨hr,hd⟩
  dsimp only at hx hlen hs
  subst hx
  obtain⟨z,hz⟩:∃z:Nat,at' l (k:Int)=z:=⟨(at' l (k:Int)).toNat,by omega⟩
  have hz2:z<256:=by omega
  have hno:¬at' x2 (z:Int)=true:=by
   rw[hs z hz2]
   rintro⟨j,hj,he⟩
   exact hd j hj (he.trans hz.symm)
  refine⟨((k:Int)+1,x2.set z true),⟨by simp,by simp[hlen],fun y hy=> ?_⟩,?_⟩
  ·dsimp only
   rw[sL _ _ _ _ (by omega)]
   by_cases hyz:y=z
   ·subst hyz
    rw[if_pos rfl]
    exact⟨fun _=>⟨k,by omega,hz⟩,fun _=>rfl⟩
   ·rw[if_neg hyz,hs y hy]
    constructor
    ·rintro⟨j,hj,he⟩;exact⟨j,by omega,he⟩
    ·rintro⟨j,hj,he⟩
     by_cases hjk:j=k
     ·subst hjk;rw[hz]at he;omega
     ·exact⟨j,by omega,he⟩
  ·unfold fG gU
   dsimp only
   rw[if_pos (by omega),cP (by omega),hz,if_neg (by omega),if_neg (by omega),cP ⟨by omega,hlen⟩,if_neg hno,cP ⟨by omega,hlen⟩,wr (by omega) (by omega)]
   rfl
 ·rintro k ⟨x1,x2⟩ ag hk ⟨hx,hlen,hs⟩ hp
  dsimp only at hx hlen hs
  subst hx
  unfold fG gU
  dsimp only
  rw[if_pos (by omega),cP (by omega)]
  by_cases h1:at' l (k:Int)<0
  ·rw[if_pos h1,if_pos rfl]
  rw[if_neg h1]
  by_cases h2:255<at' l (k:Int)
  ·rw[if_pos h2,if_pos rfl]
  rw[if_neg h2]
  obtain⟨z,hz⟩:∃z:Nat,at' l (k:Int)=z:=⟨(at' l (k:Int)).toNat,by omega⟩
  rw[hz,cP ⟨by omega,hlen⟩,if_pos]
  rw[hs z (by omega)]
  apply Classical.byContradiction
  intro hc
  exact hp ⟨by omega,fun j hj he=>hc ⟨j,hj,he.trans hz⟩⟩
 ·rintro⟨x1,x2⟩ ag ⟨hx,_,_⟩
  dsimp only at hx
  subst hx
  unfold fG mU
  dsimp only
  rw[if_neg (by omega)]
 ·rw[show at' (List.replicate 256 false) (z:Int)=false by rw[iX,List.getD_eq_getElem?_getD,List.getElem?_replicate,if_pos hz];rfl]
  exact⟨fun h=>(by cases h),fun⟨j,hj,_⟩=>(by omega)⟩
theorem RN {d e:Type} [DecidableEq d] (k c:d) (v:e):∀l:List (d×e),lU c (Bt k v l)=if c=k then some v else lU c l
 | []=>by simp only[Bt,lU]
 | x :: xs => by
  simp only[Bt]
  by_cases h:k=x.1
  ·rw[if_pos h];simp only[lU]
   by_cases a:c=k
   ·rw[if_pos a,if_pos a]
   ·rw[if_neg a,if_neg a,if_neg (fun b=>a (b.trans h.symm))]
  ·rw[if_neg h];simp only[lU]
   by_cases a:c=x.1
   ·rw[if_pos a,if_neg (fun b=>h (b.symm.trans a)),if_pos a]
   ·rw[if_neg a,RN k c v xs]
    by_cases b:c=k
    ·rw[if_pos b,if_pos b]
    ·rw[if_neg b,if_neg b,if_neg a]
theorem MS {a b:Type} [DecidableEq a] {k:a} {v:b} {z:a×b} {l:List (a×b)} (c:lU k l=none):z∈Bt k v l↔z=(k,v)∨z∈l:=by
 rw[FS k v l c]
 simp[or_comm]
theorem FQ {a c:Type} [DecidableEq a] {k:a}:∀{l:List (a×c)},(∀v,(k,v)∉l)->lU k l=none
 | [],_=>rfl
 |x::xs,h=>by
  simp only[lU]
  rw[if_neg (fun e=>h x.2 (by rw[e];exact List.mem_cons_self ..))]
  exact FQ fun v b=>h v (List.mem_cons_of_mem _ b)
theorem sU {κ ν:Type} [DecidableEq κ] {k:κ} {v:ν}:∀{l:List (κ×ν)},lU k l=none->(k,v)∉l
 | [],_=>by simp
 | x :: xs, h => by
  simp only[lU]at h
  by_cases e:k=x.1
  ·rw[if_pos e]at h;cases h
  ·rw[if_neg e]at h
   intro hm
   rcases List.mem_cons.1 hm with h2|h2
   ·exact e (by rw[<-h2])
   ·exact sU h h2
theorem AO {a b:Type} [DecidableEq a] {k:a} {v:b}:∀{l:List (a×b)},lU k l=some v->(k,v)∈l
 |x::xs,h=>by
  simp only[lU]at h
  by_cases e:k=x.1
  ·rw[if_pos e]at h;cases h;rw[e];exact List.mem_cons_self ..
  ·rw[if_neg e]at h;exact List.mem_cons_of_mem _ (AO h)
theorem IB {a b:Type} (p:a×b->Prop) [DecidablePred p]:∀l:List (a×b),Jk (fun d x=>if p d then some false else x) (some true) l=some (decide (∀z∈l,¬p z))
 | []=>by simp[Jk]
 |x::xs=>by
  show(if p x then some false else Jk _ (some true) xs)=_
  rw[IB p xs]
  by_cases h:p x
  ·rw[if_pos h];congr 1;symm;exact decide_eq_false fun c=>c x (List.mem_cons_self ..) h
  ·rw[if_neg h];congr 1;apply decide_eq_decide.2;simp[h]
def Me (ps:fQ) (v i:Nat) (z:(Int×Int)×Int):Prop:=∃a b:Nat,(a<v∨(a=v∧b<i))∧b<(at' ps (a:Int)).length∧z=(((a:Int),(jJ (at' ps (a:Int)) b).1),(jJ (at' ps (a:Int)) b).2)
def JB (ps:fQ):Prop:=(∀v,v<ps.length->tG (at' ps (v:Int)) v ps.length)∧∀v,v<ps.length->∀i,i<(at' ps (v:Int)).length->JA ([],ps) v i
theorem Fc (ps:fQ) (hn:ps.length<=30) (hd:∀v,v<ps.length->(at' ps (v:Int)).length<=30):(JB ps->fO 1000 ps=some true)∧(¬JB ps->fO 1000 ps=some false):=by
 unfold fO
 have inner:∀(v:Nat) (m:List ((Int×Int)×Int)) ag,v<ps.length->(∀z,z∈m↔Me ps v 0 z)->
   (tG (at' ps (v:Int)) v ps.length->∃m',(∀z,z∈m'↔Me ps (v+1) 0 z)∧bJ (cA ps ((v:Int),m) ag) 1000 ((0:Int),m)=ag ((v:Int)+1,m'))∧
   (¬tG (at' ps (v:Int)) v ps.length->bJ (cA ps ((v:Int),m) ag) 1000 ((0:Int),m)=some false):=by
  intro v m ag hv hm
  have hdv:=hd v hv
  have key:=EL (step:=cA ps ((v:Int),m) ag) (K:=fun x=>ag ((v:Int)+1,x.2)) (bad:=false) (at' ps (v:Int)).length (HA (at' ps (v:Int)) v ps.length) (fun i x=>x.1=(i:Int)∧∀z,z∈x.2↔Me ps v i z) ?_ ?_ ?_ 1000 ((0:Int),m) ⟨rfl,hm⟩ (by omega)
  ·refine⟨fun h=> ?_,fun h=>key.2 h⟩
   obtain⟨x,⟨hx1,hx2⟩,hx⟩:=key.1 h
   refine⟨x.2,fun z=>(hx2 z).trans ⟨?_,?_⟩,hx⟩
   ·rintro⟨a,b,h1,h2,h3⟩;exact⟨a,b,by omega,h2,h3⟩
   ·rintro⟨a,b,h1,h2,h3⟩
    refine⟨a,b,?_,h2,h3⟩
    by_cases ha:a=v
    ·subst ha;exact .inr ⟨rfl,h2⟩
    ·omega
  ·rintro i ⟨x1,x2⟩ ag2 hi ⟨hx,hs⟩ ⟨p1,p2,p3,p4⟩
   dsimp only at hx hs
   subst hx
   have hg:lU (((v:Int),(jJ (at' ps (v:Int)) i).1)) x2=none:=by
    apply FQ
    intro w hw
    obtain⟨a,b,h1,h2,h3⟩:=(hs _).1 hw
    simp only[Prod.mk.injEq]at h3
    obtain⟨⟨h4,h5⟩,_⟩:=h3
    have:a=v:=by omega
    subst this
    have hb:b<i:=by omega
    exact p4 b hb h5.symm
   refine⟨((i:Int)+1,Bt (((v:Int),(jJ (at' ps (v:Int)) i).1)) (jJ (at' ps (v:Int)) i).2 x2),⟨by simp,fun z=> ?_⟩,?_⟩
   ·dsimp only
    rw[MS hg,hs]
    constructor
    ·rintro(rfl|⟨a,b,h1,h2,h3⟩)
     ·exact⟨v,i,.inr ⟨rfl,by omega⟩,hi,rfl⟩
     ·exact⟨a,b,by omega,h2,h3⟩
    ·rintro⟨a,b,h1,h2,h3⟩
     by_cases hab:a=v∧b=i
     ·left;rw[h3,hab.1,hab.2]
     ·right;exact⟨a,b,by omega,h2,h3⟩
   ·replace p1:0<=(at' (at' ps (v:Int)) (i:Int)).1∧(at' (at' ps (v:Int)) (i:Int)).1<=(ps.length:Int) - 1:=p1
    replace p3:1<=(at' (at' ps (v:Int)) (i:Int)).2∧(at' (at' ps (v:Int)) (i:Int)).2<=15:=p3
    unfold cA fY iC
    dsimp only
    rw[if_pos (by omega),cP (by omega),if_neg (by omega),if_neg (by omega),if_neg (by rw[decide_eq_false p2];simp),if_neg (by omega),if_neg (by rw[decide_eq_false (by omega)];simp),hg,if_neg (by simp),wr (by omega) (by omega)]
  ·rintro i ⟨x1,x2⟩ ag2 hi ⟨hx,hs⟩ hp
   dsimp only at hx hs
   subst hx
   unfold cA fY iC
   dsimp only
   rw[if_pos (by omega),cP (by omega)]
   by_cases h1:(jJ (at' ps (v:Int)) i).1<0
   ·rw[if_pos h1,if_pos rfl]
   rw[if_neg h1]
   by_cases h2:(ps.length:Int)<=(jJ (at' ps (v:Int)) i).1
   ·rw[if_pos h2,if_pos rfl]
   rw[if_neg h2]
   by_cases h3:(jJ (at' ps (v:Int)) i).1=v
   ·rw[if_pos (decide_eq_true h3)]
   rw[if_neg (by rw[decide_eq_false h3];simp)]
   by_cases h4:(jJ (at' ps (v:Int)) i).2<1
   ·rw[if_pos h4,if_pos rfl]
   rw[if_neg h4]
   by_cases h5:15<(jJ (at' ps (v:Int)) i).2
   ·rw[if_pos (decide_eq_true h5)]
   rw[if_neg (by rw[decide_eq_false h5];simp)]
   have:∃k,k<i∧(jJ (at' ps (v:Int)) k).1=(jJ (at' ps (v:Int)) i).1:=by
    apply Classical.byContradiction
    intro hc
    exact hp ⟨by omega,h3,by omega,fun k hk he=>hc ⟨k,hk,he⟩⟩
   obtain⟨k,hk,he⟩:=this
   have hin:=(hs _).2 ⟨v,k,.inr ⟨rfl,hk⟩,by omega,rfl⟩
   rw[if_pos]
   rw[<-he]
   cases hg:lU (((v:Int),(jJ (at' ps (v:Int)) k).1)) x2 with
   |some w=>rfl
   | none => exact absurd hin (by
     intro hin
     exact sU hg hin)
  ·rintro⟨x1,x2⟩ ag2 ⟨hx,hs⟩
   dsimp only at hx hs
   subst hx
   unfold cA mB
   dsimp only
   rw[if_neg (by omega),wr (by omega) (by omega)]
 have outer:=EL (step:=cN 1000 ps) (K:=fun x=>iB x.2) (bad:=false) ps.length (fun v=>tG (at' ps (v:Int)) v ps.length) (fun v x=>x.1=(v:Int)∧∀z,z∈x.2↔Me ps v 0 z) ?_ ?_ ?_ 1000 ((0:Int),[]) ⟨rfl,fun z=>⟨fun h=>(by cases h),fun⟨a,b,h1,_⟩=>(by omega)⟩⟩ (by omega)
 rotate_left
 ·rintro v ⟨x1,x2⟩ ag hv ⟨hx,hs⟩ hp
  dsimp only at hx hs
  subst hx
  obtain⟨m',h1,h2⟩:=(inner v x2 ag hv hs).1 hp
  refine⟨((v:Int)+1,m'),⟨by simp,h1⟩,?_⟩
  ·unfold cN
   dsimp only
   rw[if_pos (by omega),cP (by omega)]
   exact h2
 ·rintro v ⟨x1,x2⟩ ag hv ⟨hx,hs⟩ hp
  dsimp only at hx hs
  subst hx
  unfold cN
  dsimp only
  rw[if_pos (by omega),cP (by omega)]
  exact(inner v x2 ag hv hs).2 hp
 ·rintro⟨x1,x2⟩ ag ⟨hx,hs⟩
  dsimp only at hx hs
  subst hx
  unfold cN
  dsimp only
  rw[if_neg (by omega)]
 by_cases hL:∀v,v<ps.length->tG (at' ps (v:Int)) v ps.length
 rotate_left
 ·exact⟨fun h=>absurd h.1 hL,fun _=>outer.2 hL⟩
 obtain⟨⟨x1,x2⟩,⟨hx,hs⟩,he⟩:=outer.1 hL
 rw[he]
 dsimp only at hs ⊢
 have hk:iB x2=some (decide (∀z∈x2,¬(Option.getD (lU (z.1.2,z.1.1) x2) (0:Int))≠z.2)):=IB (fun z:(Int×Int)×Int=>(Option.getD (lU (z.1.2,z.1.1) x2) (0:Int))≠z.2) x2
 rw[hk]
 have hiff:(∀z∈x2,¬(Option.getD (lU (z.1.2,z.1.1) x2) (0:Int))≠z.2)↔∀v,v<ps.length->∀i,i<(at' ps (v:Int)).length->JA ([],ps) v i:=by
  constructor
  ·intro h v hv i hi
   have hw:=(hL v hv i hi).2.2.1
   have hin:=(hs (((v:Int),(jJ (at' ps (v:Int)) i).1),(jJ (at' ps (v:Int)) i).2)).2 ⟨v,i,.inl hv,hi,rfl⟩
   have h2:=Decidable.not_not.1 (h _ hin)
   dsimp only at h2
   cases hg:lU ((jJ (at' ps (v:Int)) i).1,(v:Int)) x2 with
   |none=>rw[hg]at h2;simp only[Option.getD]at h2;omega
   | some w =>
    rw[hg]at h2;simp only[Option.getD]at h2
    obtain⟨a,b,h3,h4,h5⟩:=(hs _).1 (AO hg)
    simp only[Prod.mk.injEq]at h5
    obtain⟨⟨h6,h7⟩,h8⟩:=h5
    refine⟨b,?_,?_,?_⟩
    ·show b<(at' ps (jJ (at' ps (v:Int)) i).1).length
     rw[h6];exact h4
    ·show(jJ (at' ps (jJ (at' ps (v:Int)) i).1) b).1=v
     rw[h6];exact h7.symm
    ·show(jJ (at' ps (jJ (at' ps (v:Int)) i).1) b).2=(jJ (at' ps (v:Int)) i).2
     rw[h6,<-h8];exact h2
  ·intro h z hz hne
   obtain⟨a,b,h3,h4,rfl⟩:=(hs z).1 hz
   have ha:a<ps.length:=by omega
   apply hne
   obtain⟨j,hj1,hj2,hj3⟩:=h a ha b h4
   have hu:=(hL a ha b h4).1
   obtain⟨u,hu'⟩:∃u:Nat,(jJ (at' ps (a:Int)) b).1=u:=⟨(jJ (at' ps (a:Int)) b).1.toNat,by omega⟩
   replace hj1:j<(at' ps (jJ (at' ps (a:Int)) b).1).length:=hj1
   replace hj2:(jJ (at' ps (jJ (at' ps (a:Int)) b).1) j).1=a:=hj2
   replace hj3:(jJ (at' ps (jJ (at' ps (a:Int)) b).1) j).2=(jJ (at' ps (a:Int)) b).2:=hj3
   rw[hu']at hj1 hj2 hj3
   have hun:u<ps.length:=by omega
   dsimp only
   rw[hu',<-hj3]
   have hin:=(hs (((u:Int),(jJ (at' ps (u:Int)) j).1),(jJ (at' ps (u:Int)) j).2)).2 ⟨u,j,.inl hun,hj1,rfl⟩
   rw[hj2]at hin
   cases hg:lU ((u:Int),(a:Int)) x2 with
   |none=>exact absurd hin (sU hg)
   | some w =>
    obtain⟨a',b',h3',h4',h5⟩:=(hs _).1 (AO hg)
    simp only[Prod.mk.injEq]at h5
    obtain⟨⟨h6,h7⟩,h8⟩:=h5
    have:a'=u:=by omega
    subst this
    have hbj:b'=j:=by
     rcases Nat.lt_trichotomy b' j with hl|hl|hl
     ·exact absurd (h7.symm.trans hj2.symm) ((hL a' hun j hj1).2.2.2 b' hl)
     ·exact hl
     ·exact absurd (hj2.trans h7) ((hL a' hun b' h4').2.2.2 j hl)
    subst hbj
    exact h8
 by_cases hS:∀v,v<ps.length->∀i,i<(at' ps (v:Int)).length->JA ([],ps) v i
 ·rw[decide_eq_true (hiff.2 hS)]
  exact⟨fun _=>rfl,fun h=>absurd ⟨hL,hS⟩ h⟩
 ·rw[decide_eq_false (fun h=>hS (hiff.1 h))]
  exact⟨fun h=>absurd h.2 hS,fun _=>rfl⟩
theorem Ls:∀(N:Nat) (f:Nat->Nat) (k:Nat),(∀i,i<k->f i<N)->(∀i j,i<j->j<k->f i≠f j)->k<=N
 |0,f,k,h,_=>by
  cases k with
  |zero=>omega
  |succ k=>exact absurd (h 0 (by omega)) (by omega)
 | N + 1, f, k, h, hd => by
  by_cases b:∃a,a<k∧f a=N
  ·obtain⟨a,g,l⟩:=b
   have:=Ls N (fun i=>if i<a then f i else f (i+1)) (k - 1) (fun i c=>by
    split
    ·have:=h i (by omega);have:=hd i a (by omega) g;omega
    ·have:=h (i+1) (by omega);have:=hd a (i+1) (by omega) (by omega);omega) (fun i j d m=>by
    split<;>split
    ·exact hd i j d (by omega)
    ·exact hd i (j+1) (by omega) (by omega)
    ·omega
    ·exact hd (i+1) (j+1) (by omega) (by omega))
   omega
  ·have:=Ls N f k (fun i c=>by
    have:=h i c
    have:f i≠N:=fun e=>b ⟨i,c,e⟩
    omega) hd
   omega
theorem Ow {l:e_} {v n:Nat} (b:v<n) (h:tG l v n):l.length<n:=by
 have:=Ls n (fun i=>if i=l.length then v else(jJ l i).1.toNat) (l.length+1) (fun i e=>by
  split
  ·exact b
  ·have:=(h i (by omega)).1;omega) (fun i j a f=>by
  rw[if_neg (by omega)]
  have c:=(h i (by omega)).1
  split
  ·have:=(h i (by omega)).2.1;omega
  ·have d:=(h j (by omega)).1
   have:=(h j (by omega)).2.2.2 i a
   omega)
 omega
theorem VE (g:GR) (j:light g):(VG g->eW 1000 g=some true)∧(¬VG g->eW 1000 g=some false):=by
 obtain⟨e,f,i⟩:=j
 unfold eW oY oZ
 by_cases l:g.1.length<1
 ·rw[if_pos (by omega)]
  exact⟨fun h=>by have:=h.n1;have:=h.len;omega,fun _=>rfl⟩
 rw[if_neg (by omega)]
 by_cases m:24<g.1.length
 ·rw[if_pos (by omega)]
  exact⟨fun h=>by have:=h.n24;have:=h.len;omega,fun _=>rfl⟩
 rw[if_neg (by omega)]
 by_cases d:g.1.length=g.2.length
 rotate_left
 ·rw[decide_eq_true (by omega)]
  exact⟨fun h=>absurd h.len d,fun _=>rfl⟩
 rw[decide_eq_false (by omega),if_neg (by simp)]
 by_cases b:∀k,k<g.1.length->Sy g.1 k
 rotate_left
 ·rw[(tI g.1 e).2 b,bA rfl]
  exact⟨fun h=>absurd (fun k n=>⟨(h.node k (by omega)).id,(h.node k (by omega)).ids⟩) b,fun _=>rfl⟩
 rw[(tI g.1 e).1 b,bA rfl,if_pos rfl]
 by_cases a:JB g.2
 ·rw[(Fc g.2 f i).1 a]
  exact⟨fun _=>rfl,fun h=>absurd ⟨by omega,by omega,d,fun v c=>⟨(b v (by omega)).1,Ow c (a.1 v c),a.1 v c,(b v (by omega)).2⟩,a.2⟩ h⟩
 ·rw[(Fc g.2 f i).2 a]
  exact⟨fun h=>absurd ⟨fun v c=>(h.node v c).links,h.sym⟩ a,fun _=>rfl⟩
theorem VG.light {g:GR} (h:VG g):light g:=⟨by have:=h.n24;have:=h.len;omega,by have:=h.n24;omega,fun v a=>by have:=(h.node v a).deg;have:=h.n24;omega⟩
end
section
abbrev D (d:aL) (v:Nat):Int:=at' d (v:Int)
def El (g:GR) (v u:Nat):Prop:=∃i,i<(row g v).length∧(jJ (row g v) i).1=(u:Int)
theorem VG.port {g:GR} (h:VG g) {v i:Nat} (b:v<g.2.length) (a:i<(row g v).length):∃u:Nat,u<g.2.length∧(jJ (row g v) i).1=(u:Int)∧El g v u:=by
 have c:=((h.node v b).links i a).1
 exact⟨(jJ (row g v) i).1.toNat,by omega,by omega,i,a,by omega⟩
theorem VG.back {g:GR} (h:VG g) {v u:Nat} (f:v<g.2.length) (c:El g v u):El g u v:=by
 obtain⟨i,d,e⟩:=c
 obtain⟨j,b,a,_⟩:=h.sym v f i d
 rw[e]at b a
 exact⟨j,b,a⟩
theorem VG.adj_lt {g:GR} (h:VG g) {v u:Nat} (c:v<g.2.length) (a:El g v u):u<g.2.length:=by
 obtain⟨i,b,d⟩:=a
 have:=((h.node v c).links i b).1
 omega
def ED (d:aL):Nat:=d.countP fun x=>decide (x<0)
structure NV (g:GR) (s:Nat) (d:aL):Prop where
 len:d.length=g.2.length
 lo:∀v,v<g.2.length -> -1<=D d v
 zero:∀v,v<g.2.length->(D d v=0↔v=s)
 near:∀v,v<g.2.length->0<D d v->∃u,u<g.2.length∧El g v u∧D d u=D d v - 1
 hi:∀v,v<g.2.length->D d v+(ED d:Int)<=(g.2.length:Int)
structure Qu (g:GR) (q d:aL) (b:Int) (done:Nat->Prop):Prop where
 mem:∀y∈q,∃v,v<g.2.length∧y=((v:Nat):Int)∧0<=D d v
 top:∀v,v<g.2.length->D d v<=b
 sort:q.Pairwise fun a c=>at' d a<=at' d c
 done:∀v,v<g.2.length->0<=D d v->((v:Nat):Int)∉q->done v->∀u,u<g.2.length->El g v u->0<=D d u∧D d u<=D d v+1
theorem Jt {d:aL} {v:Nat} (h:v<d.length):D d v=d[v]:=by
 rw[D,iX,List.getD_eq_getElem?_getD,List.getElem?_eq_getElem h];rfl
theorem Ia {d:aL} {u:Nat} {x:Int} (a:u<d.length) (b:D d u<0) (e:0<=x):ED (d.set u x)+1=ED d:=by
 unfold ED
 rw[List.countP_set a]
 have c:0<d.countP fun x=>decide (x<0):=by
  rw[List.countP_pos_iff]
  exact⟨d[u],List.getElem_mem a,by rw[<-Jt a];simpa using b⟩
 rw[Jt a]at b
 rw[if_pos (by simpa using b),if_neg (by simp;omega)]
 omega
theorem assign {g:GR} {s:Nat} {q d:aL} {b:Int} {done:Nat->Prop} (E:VG g) (l:NV g s d) {x u:Nat} (m:Qu g q d (D d x+1) done) (B:x<g.2.length) (K:0<=D d x) (J:u<g.2.length) (t:D d u<0) (F:El g x u):
  NV g s (d.set u (D d x+1))∧Qu g (q++[(u:Int)]) (d.set u (D d x+1)) (D d x+1) done:=by
 have o:=l.len
 have e:∀v,D (d.set u (D d x+1)) v=if v=u then D d x+1 else D d v:=fun v=>sL _ _ _ _ (by omega)
 have G:=Ia (x:=D d x+1) (by omega:u<d.length) t (by omega)
 refine⟨⟨by simp[o],fun v f=> ?_,fun v f=> ?_,fun v f=> ?_,fun v f=> ?_⟩,⟨fun y j=> ?_,fun v f=> ?_,?_,fun v f k n H w A i=> ?_⟩⟩
 ·rw[e];split
  ·omega
  ·exact l.lo v f
 ·rw[e];split
  ·rename_i h;subst h
   have:=(l.zero v f)
   constructor
   ·intro;omega
   ·intro h;have:=this.2 h;omega
  ·exact l.zero v f
 ·rw[e];split
  ·rename_i h;subst h
   intro _
   refine⟨x,B,E.back B F,?_⟩
   rw[e,if_neg (by intro h;subst h;omega)];omega
  ·intro k
   obtain⟨w,A,i,I⟩:=l.near v f k
   refine⟨w,A,i,?_⟩
   rw[e,if_neg (by intro h;subst h;omega)];exact I
 ·rw[e];split
  ·have:=l.hi x B;omega
  ·have:=l.hi v f;omega
 ·rcases List.mem_append.1 j with j|j
  ·obtain⟨v,f,rfl,k⟩:=m.mem y j
   refine⟨v,f,rfl,?_⟩
   rw[e];split<;>omega
  ·simp only[List.mem_singleton]at j
   refine⟨u,J,j,?_⟩
   rw[e,if_pos rfl];omega
 ·rw[e];split
  ·omega
  ·exact m.top v f
 ·rw[List.pairwise_append]
  have n:∀y∈q,at' (d.set u (D d x+1)) y=at' d y:=by
   intro y j
   obtain⟨v,f,rfl,k⟩:=m.mem y j
   have:=e v
   rw[if_neg (by intro h;subst h;omega)]at this
   exact this
  refine⟨m.sort.imp_of_mem fun {a c} h1 r h=> ?_,List.pairwise_singleton ..,fun y j z C=> ?_⟩
  ·rw[n a h1,n c r];exact h
  ·simp only[List.mem_singleton]at C
   subst C
   rw[n y j]
   have r:=e u
   rw[if_pos rfl]at r
   obtain⟨v,f,rfl,k⟩:=m.mem y j
   have:=m.top v f
   show D d v<=D (d.set u (D d x+1)) u
   omega
 ·have p:v≠u:=by
   rintro rfl
   exact n (by simp)
  rw[e,if_neg p]at k
  rw[e v,if_neg p]
  have:=m.done v f k (fun h=>n (List.mem_append_left _ h)) H w A i
  rw[e w,if_neg (by rintro rfl;omega)]
  exact this
theorem Lv {g:GR} (C:VG g) {s x:Nat} (H:x<g.2.length) (rest c:aL) (Q:List Int×aL->Option aL) (r:aL->Prop)
  (n:NV g s c) (ae:0<=D c x) (l:Qu g rest c (D c x+1) (fun v=>v≠x)) (hm:rest.length+ED c<=g.2.length)
  (J:∀q d,NV g s d->D d x=D c x->Qu g q d (D d x+1) (fun _=>True)->q.length+ED d=rest.length+ED c->(∀y∈q,D c x<=at' d y)->OK r (Q (q,d)))
  (j:∀y∈rest,D c x<=at' c y):
  OK r (bJ (pZ g ((x:Int)::rest,c) Q) 1000 ((0:Int),rest,c)):=by
 have T:=(C.node x H).deg
 have aa:=C.n24
 refine wW (fun z:Int×List Int×aL=>∃k:Nat,z.1=k∧k<=(row g x).length∧NV g s z.2.2∧D z.2.2 x=D c x∧Qu g z.2.1 z.2.2 (D c x+1) (fun v=>v≠x)∧z.2.1.length+ED z.2.2=rest.length+ED c∧(∀i,i<k->∀u:Nat,(jJ (row g x) i).1=u->0<=D z.2.2 u)∧(∀y∈z.2.1,D c x<=at' z.2.2 y)) (fun z=>31 - z.1.toNat) ?_ 1000 _ ⟨0,rfl,by omega,n,rfl,l,rfl,fun i K=>by omega,j⟩ (by simp)
 rintro⟨z1,q,d⟩ W ⟨k,V,hk,n,e,l,t,E,j⟩ o
 dsimp only at V n e l t E j
 subst V
 have U:=n.len
 have Z:at' ((x:Int)::rest) 0=(x:Int):=rfl
 unfold pZ pY
 dsimp only
 rw[Z]
 by_cases M:k<(row g x).length
 ·rw[if_pos (show(k:Int)<((row g x).length:Int) by omega),cP (show 0<=(k:Int)∧(k:Int)<((row g x).length:Int) by omega)]
  obtain⟨u,F,N,f⟩:=C.port H M
  rw[show at' (at' g.2 (x:Int)) (k:Int)=jJ (row g x) k from rfl,N,cP (by omega)]
  have ac:=n.hi x H
  by_cases a:at' d (u:Int)<0
  ·have I:Qu g q d (D d x+1) (fun v=>v≠x):=by rw[e];exact l
   obtain⟨X,Y⟩:=assign (b:=0) C n I H (by omega) F a f
   have ab:=Ia (x:=D d x+1) (by omega:u<d.length) a (by omega)
   have m:∀v,D (d.set u (D d x+1)) v=if v=u then D d x+1 else D d v:=fun v=>sL _ _ _ _ (by omega)
   have P:x≠u:=by rintro rfl;have:D d x<0:=a;omega
   rw[if_pos a,cP (by omega),cP (by omega),cP (by simp only[List.length_singleton];omega),wr (x:=(k:Int)+1) (by omega) (by omega),wr (x:=at' d (x:Int)+1) (by show -9223372036854775808<=D d x+1;omega) (by show D d x+1<=_;omega)]
   refine o _ ⟨k+1,by simp,by omega,X,?_,?_,?_,?_,?_⟩ (by dsimp only;omega)
   ·show D (d.set u (D d x+1)) x=_
    rw[m,if_neg P];exact e
   ·rw[<-e];exact Y
   ·show(q++[(u:Int)]).length+ED (d.set u (D d x+1))=_
    simp only[List.length_append,List.length_singleton]
    omega
   ·intro i K w O
    show 0<=D (d.set u (D d x+1)) w
    rw[m]
    split
    ·omega
    ·by_cases p:i=k
     ·subst p;omega
     ·exact E i (by omega) w O
   ·intro y A
    show D c x<=at' (d.set u (D d x+1)) y
    rcases List.mem_append.1 A with A|A
    ·have h1:=j y A
     obtain⟨v,G,rfl,R⟩:=l.mem y A
     have S:=m v
     rw[if_neg (by intro h;subst h;have:D d v<0:=a;omega)]at S
     rw[show at' (d.set u (D d x+1)) (v:Int)=D d v from S]
     exact h1
    ·simp only[List.mem_singleton]at A
     subst A
     rw[show at' (d.set u (D d x+1)) (u:Int)=D d x+1 from(m u).trans (if_pos rfl)]
     omega
  ·rw[if_neg a,wr (by omega) (by omega)]
   refine o _ ⟨k+1,by simp,by omega,n,e,l,t,?_,j⟩ (by dsimp only;omega)
   intro i K w O
   by_cases p:i=k
   ·subst p
    have:w=u:=by omega
    subst this
    show 0<=at' d (w:Int)
    omega
   ·exact E i (by omega) w O
 ·rw[if_neg (show¬(k:Int)<((row g x).length:Int) by omega)]
  have ad:k=(row g x).length:=by omega
  refine J q d n e ⟨l.mem,fun v G=>by rw[e];exact l.top v G,l.sort,fun v G R hq _ u F f=> ?_⟩ t j
  by_cases B:v=x
  ·subst B
   obtain⟨i,K,L⟩:=f
   exact⟨E i (by omega) u L,by rw[e];exact l.top u F⟩
  ·exact l.done v G R hq B u F f
structure Dd (g:GR) (s:Nat) (d:aL):Prop where
 len:d.length=g.2.length
 lo:∀v,v<g.2.length -> -1<=D d v
 zero:∀v,v<g.2.length->(D d v=0↔v=s)
 near:∀v,v<g.2.length->0<D d v->∃u,u<g.2.length∧El g v u∧D d u=D d v - 1
 next:∀v,v<g.2.length->0<=D d v->∀u,u<g.2.length->El g v u->0<=D d u∧D d u<=D d v+1
 hi:∀v,v<g.2.length->D d v<=(g.2.length:Int)
theorem Ns {g:GR} (hV:VG g) {s:Nat} (d0:aL) (q0:aL) (hC:NV g s d0) (hQ:Qu g q0 d0 (match q0 with|[]=>1000|y::_=>at' d0 y+1) (fun _=>True)) (hm:q0.length+ED d0<=g.2.length):
  OK (Dd g s) (bJ (nC 1000 g) 1000 (q0,d0)):=by
 have h24:=hV.n24
 refine wW (fun z:List Int×aL=>NV g s z.2∧Qu g z.1 z.2 (match z.1 with|[]=>1000|y::_=>at' z.2 y+1) (fun _=>True)∧z.1.length+ED z.2<=g.2.length) (fun z=>z.1.length+ED z.2) ?_ 1000 _ ⟨hC,hQ,hm⟩ (by dsimp only;omega)
 rintro⟨q,d⟩ ag ⟨hC,hQ,hm⟩ hag
 dsimp only at hC hQ hm
 unfold nC tP
 dsimp only
 cases q with
 |nil=>
  rw[if_neg (by simp)]
  exact⟨d,rfl,hC.len,hC.lo,hC.zero,hC.near,fun v hv h0 u hu hadj=>hQ.done v hv h0 (by simp) trivial u hu hadj,fun v hv=>by have:=hC.hi v hv;omega⟩
 | cons y rest =>
  obtain⟨x,hx,rfl,hx0⟩:=hQ.mem y (List.mem_cons_self ..)
  have e0:at' ((x:Int)::rest) 0=(x:Int):=rfl
  rw[if_pos (by simp only[List.length_cons];omega),cP (by simp only[List.length_cons];omega),cP (by simp only[List.length_cons];omega),e0,cP (by omega)]
  have hs:=List.pairwise_cons.1 hQ.sort
  simp only[List.length_cons]at hm
  refine Lv hV hx rest d ag _ hC hx0 ⟨fun z hz=>hQ.mem z (List.mem_cons_of_mem _ hz),hQ.top,hs.2,fun v hv h0 hq hvx u hu hadj=>hQ.done v hv h0 (fun h=> ?_) trivial u hu hadj⟩ (by omega) (fun q' d' c1 c2 c3 c4 c5=> ?_) hs.1
  ·rcases List.mem_cons.1 h with h|h
   ·exact hvx (by omega)
   ·exact hq h
  ·refine hag (q',d') ⟨c1,⟨c3.mem,fun v hv=> ?_,c3.sort,c3.done⟩,by dsimp only;omega⟩ (by simp only[List.length_cons];omega)
   dsimp only
   have ht:=c3.top v hv
   cases q' with
   |nil=>
    dsimp only
    have:=c1.hi x hx
    omega
   |cons z zs=>
    dsimp only
    have:=c5 z (List.mem_cons_self ..)
    omega
theorem Sa {g:GR} (hV:VG g) {s:Nat} (hs:s<g.2.length):OK (Dd g s) (vC 1000 g (s:Int)):=by
 have h24:=hV.n24
 unfold vC
 rw[cP (by omega)]
 refine wW (fun z:rI=>∃k:Nat,z.1=k∧k<=g.2.length∧z.2.length=g.2.length∧∀v,v<k->D z.2 v = -1) (fun z=>31 - z.1.toNat) ?_ 1000 _ ⟨0,rfl,by omega,by simp,fun v hv=>by omega⟩ (by simp)
 rintro⟨z1,d⟩ ag ⟨k,hz,hk,hlen,hd⟩ hag
 dsimp only at hz hlen hd
 subst hz
 unfold xW
 simp only[List.length_replicate,Int.toNat_natCast]
 by_cases hlt:k<g.2.length
 ·rw[if_pos (by omega),cP (by omega),wr (by omega) (by omega)]
  refine hag _ ⟨k+1,by simp,by omega,by simp[hlen],fun v hv=> ?_⟩ (by dsimp only;omega)
  show at' (d.set k (-1)) (v:Int) = -1
  rw[sL _ _ _ _ (by omega)]
  split
  ·rfl
  ·exact hd v (by omega)
 ·rw[if_neg (by omega)]
  unfold xV
  rw[cP (by omega)]
  have hd':∀v,v<g.2.length->D d v = -1:=fun v hv=>hd v (by omega)
  have hat:∀v,D (d.set s 0) v=if v=s then 0 else D d v:=fun v=>sL _ _ _ _ (by omega)
  have hcn:=Ia (x:=0) (by omega:s<d.length) (by rw[hd' s hs];omega) (by omega)
  have hcl:ED d<=d.length:=List.countP_le_length ..
  refine Ns hV _ _ ⟨by simp[hlen],fun v hv=> ?_,fun v hv=> ?_,fun v hv=> ?_,fun v hv=> ?_⟩ ⟨fun y hy=> ?_,fun v hv=> ?_,List.pairwise_singleton ..,fun v hv h0 hq=> ?_⟩ ?_
  ·rw[Int.toNat_natCast,hat];split
   ·omega
   ·rw[hd' v hv];omega
  ·rw[Int.toNat_natCast,hat];split
   ·rename_i h;exact⟨fun _=>h,fun _=>rfl⟩
   ·rename_i h;rw[hd' v hv];exact⟨fun h2=>by omega,fun h2=>absurd h2 h⟩
  ·rw[Int.toNat_natCast,hat];split
   ·omega
   ·rw[hd' v hv];omega
  ·rw[Int.toNat_natCast,hat];split
   ·omega
   ·rw[hd' v hv];omega
  ·simp only[List.mem_singleton]at hy
   refine⟨s,hs,hy,?_⟩
   rw[Int.toNat_natCast,hat,if_pos rfl];omega
  ·rw[Int.toNat_natCast]
   have h2:at' (d.set s 0) (s:Int)=0:=(hat s).trans (if_pos rfl)
   show D (d.set s 0) v<=at' (d.set s 0) (s:Int)+1
   rw[h2,hat];split
   ·omega
   ·rw[hd' v hv];omega
  ·rw[Int.toNat_natCast,hat,if_neg (by rintro rfl;exact hq (by simp)),hd' v hv]at h0
   omega
  ·rw[Int.toNat_natCast]
   simp only[List.length_singleton]
   omega
end
section
theorem KZ {g:GR} (a:VG g) {s:Nat} (e:s<g.2.length):OK (Dd g s) (nU 1000 g (s:Int)):=by
 unfold nU mA
 rw[(VE g a.light).1 a,bA rfl,if_neg (by simp),if_neg (by omega),decide_eq_false (by omega),if_neg (by simp)]
 obtain⟨d,c,b⟩:=Sa a e
 rw[c]
 exact⟨d,rfl,b⟩
end
section
def BR (g:GR) (s:Nat):Nat->Nat->Prop
 |0,v=>v=s∧s<g.2.length
 |k+1,v=>∃u,BR g s k u∧El g u v
theorem BR.lt {g:GR} (a:VG g) {s:Nat}:∀{k v:Nat},BR g s k v->v<g.2.length
 |0,_,h=>by obtain⟨rfl,h⟩:=h;exact h
 |_+1,_,h=>by obtain⟨u,b,c⟩:=h;exact a.adj_lt (BR.lt a b) c
theorem Dd.le {g:GR} (a:VG g) {s:Nat} {d:aL} (h:Dd g s d):∀{k v:Nat},BR g s k v->0<=D d v∧D d v<=k
 |0,v,hw=>by
  obtain⟨rfl,i⟩:=hw
  have:=(h.zero v i).2 rfl
  omega
 |k+1,v,hw=>by
  obtain⟨u,b,c⟩:=hw
  have e:=BR.lt a b
  have f:=Dd.le a h b
  have j:=h.next u e f.1 v (a.adj_lt e c) c
  omega
theorem Ju {g:GR} (b:VG g) {s:Nat} {d:aL} (h:Dd g s d):∀(k v:Nat),v<g.2.length->D d v=k->BR g s k v
 |0,v,hv,he=>by
  have:=(h.zero v hv).1 he
  exact⟨this,by omega⟩
 |k+1,v,hv,he=>by
  obtain⟨u,c,a,e⟩:=h.near v hv (by omega)
  exact⟨u,Ju b h k u c (by omega),b.back hv a⟩
theorem Dd.pos {g:GR} (a:VG g) {s:Nat} {d:aL} (h:Dd g s d) {v:Nat} (b:v<g.2.length) (c:0<=D d v):BR g s (D d v).toNat v:=
 Ju a h _ v b (by omega)
end
section
section
theorem Kc (g:GR) (v:Nat) (u:Int) (hv:v<g.2.length) (hl:(row g v).length<=30):mG 1000 g v u=some (zD (row g v) u):=by
 unfold mG
 rw[cP (by omega)]
 rcases ER (row g v) u with⟨i,hi,hu,hf,he⟩|⟨hf,he⟩
 ·rw[he]
  refine EK (fun x:Int=>∃k:Nat,x=k∧k<=i) (fun x=>31 - x.toNat) ?_ 1000 _ ⟨0,rfl,by omega⟩ (by omega)
  rintro x ag ⟨k,rfl,hk⟩ hag
  unfold tO
  rw[if_pos (show(k:Int)<((row g v).length:Int) by omega),cP (show 0<=(k:Int)∧(k:Int)<((row g v).length:Int) by omega)]
  by_cases e:k=i
  ·subst e;exact if_pos hu
  ·rw[if_neg (hf k (by omega)),wr (by omega) (by omega)]
   exact hag _ ⟨k+1,by omega,by omega⟩ (by omega)
 ·rw[he]
  refine EK (fun x:Int=>∃k:Nat,x=k∧k<=(row g v).length) (fun x=>31 - x.toNat) ?_ 1000 _ ⟨0,rfl,by omega⟩ (by omega)
  rintro x ag ⟨k,rfl,hk⟩ hag
  unfold tO
  by_cases e:k<(row g v).length
  ·rw[if_pos (show(k:Int)<((row g v).length:Int) by omega),cP (show 0<=(k:Int)∧(k:Int)<((row g v).length:Int) by omega),if_neg (hf k e),wr (by omega) (by omega)]
   exact hag _ ⟨k+1,by omega,by omega⟩ (by omega)
  ·rw[if_neg (show¬(k:Int)<((row g v).length:Int) by omega)];rfl
end
end
section
def aad (f:Nat->Nat):Nat->Nat
 |0=>0
 |k+1=>aad f k+f k
theorem Vj {f:Nat->Nat}:∀{n:Nat} (v:Nat),v<n->f v<=aad f n
 |0,v,h=>by omega
 |n+1,v,h=>by
  show f v<=aad f n+f n
  by_cases e:v=n
  ·subst e;omega
  ·have:=Vj (f:=f) (n:=n) v (by omega);omega
open Classical in
noncomputable def ind (p:Prop):Nat:=if p then 1 else 0
end
section
theorem NR (a:Nat) (h:a<4294967296):IntKind.u32.wrap (a:Int)=a:=by rw[<-DK];exact if_pos ⟨by omega,by omega⟩
def SO (x:Int):Nat:=(BitVec.ofInt 32 x).toNat
theorem KD (x:Int):SO x<4294967296:=(BitVec.ofInt 32 x).isLt
theorem wT {a:Nat} (h:a<4294967296):SO (a:Int)=a:=by
 unfold SO;rw[BitVec.ofInt_natCast,BitVec.toNat_ofNat];exact Nat.mod_eq_of_lt h
theorem Hc (x y:Int):cD .u32 x y=((SO x &&& SO y:Nat):Int):=by
 show IntKind.u32.wrap (((BitVec.ofInt 32 x &&& BitVec.ofInt 32 y).toNat:Nat):Int)=_
 rw[BitVec.toNat_and]
 exact NR _ (Nat.lt_of_le_of_lt Nat.and_le_left (KD x))
theorem YN (x y:Int):Em .u32 x y=((SO x ||| SO y:Nat):Int):=by
 show IntKind.u32.wrap (((BitVec.ofInt 32 x ||| BitVec.ofInt 32 y).toNat:Nat):Int)=_
 rw[BitVec.toNat_or]
 exact NR _ (Nat.or_lt_two_pow (n:=32) (KD x) (KD y))
theorem ES {k:Nat} (a:k<32):2^k<4294967296:=Nat.pow_lt_pow_right (n:=32) (by omega) a
theorem Yg {k:Nat} (a:k<32):xS .u32 1 (k:Int)=((2^k:Nat):Int):=by
 show IntKind.u32.wrap (1*2^(min ((k:Int).toNat) 32))=_
 rw[Int.toNat_natCast,Nat.min_eq_left (by omega),Int.one_mul,show(2:Int)^k=((2^k:Nat):Int) by simp]
 exact NR _ (ES a)
theorem KO {a k:Nat} (b:k<32):nZ .u32 (a:Int) (k:Int)=((a / 2^k:Nat):Int):=by
 show Int.fdiv (a:Int) (2^(min ((k:Int).toNat) 32))=_
 rw[Int.toNat_natCast,Nat.min_eq_left (by omega),show(2:Int)^k=((2^k:Nat):Int) by simp,Int.fdiv_eq_ediv_of_nonneg _ (Int.natCast_nonneg _)]
 simp
theorem Le {a k:Nat} (d:k<32) (c:a<4294967296):cD .u32 (nZ .u32 (a:Int) (k:Int)) 1=1↔a.testBit k=true:=by
 have b:SO 1=1:=wT (a:=1) (by omega)
 rw[KO d,Hc,wT (Nat.lt_of_le_of_lt (Nat.div_le_self _ _) c),b,Nat.and_one_is_mod,Nat.testBit_eq_decide_div_mod_eq,decide_eq_true_eq]
 omega
def Hw (g:GR) (s:Nat):Prop:=(∀v,s.testBit v=true->v<g.2.length)∧∀v u,s.testBit v=true->s.testBit u=true->¬El g v u
theorem Td {g:GR} (a:VG g):rC 1000 g=some ((2^g.2.length - 1:Nat):Int):=by
 have c:=a.n24
 have d:=a.len
 have e:=ES (show g.2.length<32 by omega)
 have b:1<=2^g.2.length:=Nat.one_le_two_pow
 unfold rC
 rw[cP (by omega),d,Yg (by omega),show((2^g.2.length:Nat):Int) - 1=((2^g.2.length - 1:Nat):Int) by omega]
 congr 1
 exact if_pos ⟨by omega,by omega⟩
theorem aeH {k:Nat} (a:k<32):wI .u64 (k:Int)=k:=by
 show IntKind.u64.wrap (k:Int)=k
 have:∀j:Fin 32,IntKind.u64.wrap ((j.1:Nat):Int)=(j.1:Nat):=by decide
 exact this ⟨k,a⟩
end
section
def T (e:aL) (k v w:Nat):Int:=if 0<=D e w∧(D e w<k∨(D e w=k∧w<v))then D e w else -1
end
section
section
theorem Uo {X R:Type} {step:X->(X->Option R)->Option R} {K:X->Option R} {bad:R} (N:Nat) (p:Nat->Prop) (I:Nat->X->Prop) (B:Nat)
  (s:∀(k:Nat) x o,k<N->k<B->I k x->p k->∃b,I (k+1) b∧step x o=o b) (j:∀(k:Nat) x o,k<N->k<B->I k x->¬p k->step x o=some bad) (r:∀x o,I N x->N<B->step x o=K x):
  ∀(fuel:Nat) (x:X),I 0 x->B<=fuel->(N<B∨∃k,k<N∧k<B∧¬p k)->((∀k,k<N->p k)->∃b,I N b∧bJ step fuel x=K b)∧(¬(∀k,k<N->p k)->bJ step fuel x=some bad):=by
 intro fuel x c u hB
 have q:∀(d a fuel:Nat) (x:X),I a x->a+d<N->a+d<B->¬p (a+d)->d<fuel->bJ step fuel x=some bad:=by
  intro d
  induction d with
  |zero=>
   intro a fuel x c i e g u
   obtain⟨f,rfl⟩:∃f,fuel=f+1:=⟨fuel - 1,by omega⟩
   exact j a x _ i e c g
  | succ d w =>
   intro a fuel x c i e g u
   obtain⟨f,rfl⟩:∃f,fuel=f+1:=⟨fuel - 1,by omega⟩
   by_cases t:p a
   ·obtain⟨b,m,n⟩:=s a x (bJ step f) (by omega) (by omega) c t
    have n:bJ step (f+1) x=bJ step f b:=n
    rw[n]
    exact w (a+1) f b m (by omega) (by omega) (by rw[show a+1+d=a+(d+1) by omega];exact g) (by omega)
   ·exact j a x _ (by omega) (by omega) c t
 have l:∀(d a fuel:Nat) (x:X),I a x->a+d=N->N<B->(∀k,a<=k->k<N->p k)->d<fuel->∃b,I N b∧bJ step fuel x=K b:=by
  intro d
  induction d with
  |zero=>
   intro a fuel x c i e g u
   obtain⟨f,rfl⟩:∃f,fuel=f+1:=⟨fuel - 1,by omega⟩
   obtain rfl:a=N:=by omega
   exact⟨x,c,r x _ c e⟩
  |succ d w=>
   intro a fuel x c i e g u
   obtain⟨f,rfl⟩:∃f,fuel=f+1:=⟨fuel - 1,by omega⟩
   obtain⟨b,m,n⟩:=s a x (bJ step f) (by omega) (by omega) c (g a (Nat.le_refl _) (by omega))
   have n:bJ step (f+1) x=bJ step f b:=n
   rw[n]
   exact w (a+1) f b m (by omega) e (fun k i e=>g k (by omega) e) (by omega)
 constructor
 ·intro h
  rcases hB with hB|⟨k,i,_,e⟩
  ·exact l N 0 fuel x c (by omega) hB (fun k _ v=>h k v) (by omega)
  ·exact absurd (h k i) e
 ·intro h
  have:∃k,k<N∧k<B∧¬p k:=by
   rcases hB with hB|hB
   ·apply Classical.byContradiction
    intro hc
    exact h fun k v=>Classical.byContradiction fun g=>hc ⟨k,v,by omega,g⟩
   ·exact hB
  obtain⟨k,i,e,y⟩:=this
  exact q k 0 fuel x c (by omega) (by omega) (by rw[Nat.zero_add];exact y) (by omega)
theorem RY {ps:fQ} (o:ps.length<=30) {v:Nat} (p:v<ps.length):(at' ps (v:Int)).length<1000∨∃k,k<(at' ps (v:Int)).length∧k<1000∧¬HA (at' ps (v:Int)) v ps.length k:=by
 by_cases h:(at' ps (v:Int)).length<1000
 ·exact .inl h
 ·right
  apply Classical.byContradiction
  intro hc
  have a:∀k,k<40->HA (at' ps (v:Int)) v ps.length k:=fun k n=>Classical.byContradiction fun f=>hc ⟨k,by omega,by omega,f⟩
  have:=Ls ps.length (fun i=>(jJ (at' ps (v:Int)) i).1.toNat) 40 (fun i e=>by have:=(a i e).1;omega) (fun i j b c m=>by
   have g:=(a i (by omega)).1
   have l:=(a j c).1
   have d:=(a j c).2.2.2 i b
   exact d (by omega))
  omega
theorem DD (ps:fQ) (hn:ps.length<=30):(JB ps->fO 1000 ps=some true)∧(¬JB ps->fO 1000 ps=some false):=by
 unfold fO
 have inner:∀(v:Nat) (m:List ((Int×Int)×Int)) ag,v<ps.length->(∀z,z∈m↔Me ps v 0 z)->
   (tG (at' ps (v:Int)) v ps.length->∃m',(∀z,z∈m'↔Me ps (v+1) 0 z)∧bJ (cA ps ((v:Int),m) ag) 1000 ((0:Int),m)=ag ((v:Int)+1,m'))∧
   (¬tG (at' ps (v:Int)) v ps.length->bJ (cA ps ((v:Int),m) ag) 1000 ((0:Int),m)=some false):=by
  intro v m ag hv hm
  have hbnd:=RY hn hv
  have key:=Uo (step:=cA ps ((v:Int),m) ag) (K:=fun x=>ag ((v:Int)+1,x.2)) (bad:=false) (at' ps (v:Int)).length (HA (at' ps (v:Int)) v ps.length) (fun i x=>x.1=(i:Int)∧∀z,z∈x.2↔Me ps v i z) 1000 ?_ ?_ ?_ 1000 ((0:Int),m) ⟨rfl,hm⟩ (by omega) hbnd
  ·refine⟨fun h=> ?_,fun h=>key.2 h⟩
   obtain⟨x,⟨hx1,hx2⟩,hx⟩:=key.1 h
   refine⟨x.2,fun z=>(hx2 z).trans ⟨?_,?_⟩,hx⟩
   ·rintro⟨a,b,h1,h2,h3⟩;exact⟨a,b,by omega,h2,h3⟩
   ·rintro⟨a,b,h1,h2,h3⟩
    refine⟨a,b,?_,h2,h3⟩
    by_cases ha:a=v
    ·subst ha;exact .inr ⟨rfl,h2⟩
    ·omega
  ·rintro i ⟨x1,x2⟩ ag2 hi hi2 ⟨hx,hs⟩ ⟨p1,p2,p3,p4⟩
   dsimp only at hx hs
   subst hx
   have hg:lU (((v:Int),(jJ (at' ps (v:Int)) i).1)) x2=none:=by
    apply FQ
    intro w hw
    obtain⟨a,b,h1,h2,h3⟩:=(hs _).1 hw
    simp only[Prod.mk.injEq]at h3
    obtain⟨⟨h4,h5⟩,_⟩:=h3
    have:a=v:=by omega
    subst this
    have hb:b<i:=by omega
    exact p4 b hb h5.symm
   refine⟨((i:Int)+1,Bt (((v:Int),(jJ (at' ps (v:Int)) i).1)) (jJ (at' ps (v:Int)) i).2 x2),⟨by simp,fun z=> ?_⟩,?_⟩
   ·dsimp only
    rw[MS hg,hs]
    constructor
    ·rintro(rfl|⟨a,b,h1,h2,h3⟩)
     ·exact⟨v,i,.inr ⟨rfl,by omega⟩,hi,rfl⟩
     ·exact⟨a,b,by omega,h2,h3⟩
    ·rintro⟨a,b,h1,h2,h3⟩
     by_cases hab:a=v∧b=i
     ·left;rw[h3,hab.1,hab.2]
     ·right;exact⟨a,b,by omega,h2,h3⟩
   ·replace p1:0<=(at' (at' ps (v:Int)) (i:Int)).1∧(at' (at' ps (v:Int)) (i:Int)).1<=(ps.length:Int) - 1:=p1
    replace p3:1<=(at' (at' ps (v:Int)) (i:Int)).2∧(at' (at' ps (v:Int)) (i:Int)).2<=15:=p3
    unfold cA fY iC
    dsimp only
    rw[if_pos (by omega),cP (by omega),if_neg (by omega),if_neg (by omega),if_neg (by rw[decide_eq_false p2];simp),if_neg (by omega),if_neg (by rw[decide_eq_false (by omega)];simp),hg,if_neg (by simp),wr (by omega) (by omega)]
  ·rintro i ⟨x1,x2⟩ ag2 hi hi2 ⟨hx,hs⟩ hp
   dsimp only at hx hs
   subst hx
   unfold cA fY iC
   dsimp only
   rw[if_pos (by omega),cP (by omega)]
   by_cases h1:(jJ (at' ps (v:Int)) i).1<0
   ·rw[if_pos h1,if_pos rfl]
   rw[if_neg h1]
   by_cases h2:(ps.length:Int)<=(jJ (at' ps (v:Int)) i).1
   ·rw[if_pos h2,if_pos rfl]
   rw[if_neg h2]
   by_cases h3:(jJ (at' ps (v:Int)) i).1=v
   ·rw[if_pos (decide_eq_true h3)]
   rw[if_neg (by rw[decide_eq_false h3];simp)]
   by_cases h4:(jJ (at' ps (v:Int)) i).2<1
   ·rw[if_pos h4,if_pos rfl]
   rw[if_neg h4]
   by_cases h5:15<(jJ (at' ps (v:Int)) i).2
   ·rw[if_pos (decide_eq_true h5)]
   rw[if_neg (by rw[decide_eq_false h5];simp)]
   have:∃k,k<i∧(jJ (at' ps (v:Int)) k).1=(jJ (at' ps (v:Int)) i).1:=by
    apply Classical.byContradiction
    intro hc
    exact hp ⟨by omega,h3,by omega,fun k hk he=>hc ⟨k,hk,he⟩⟩
   obtain⟨k,hk,he⟩:=this
   have hin:=(hs _).2 ⟨v,k,.inr ⟨rfl,hk⟩,by omega,rfl⟩
   rw[if_pos]
   rw[<-he]
   cases hg:lU (((v:Int),(jJ (at' ps (v:Int)) k).1)) x2 with
   |some w=>rfl
   | none => exact absurd hin (by
     intro hin
     exact sU hg hin)
  ·rintro⟨x1,x2⟩ ag2 ⟨hx,hs⟩ _
   dsimp only at hx hs
   subst hx
   unfold cA mB
   dsimp only
   rw[if_neg (by omega),wr (by omega) (by omega)]
 have outer:=EL (step:=cN 1000 ps) (K:=fun x=>iB x.2) (bad:=false) ps.length (fun v=>tG (at' ps (v:Int)) v ps.length) (fun v x=>x.1=(v:Int)∧∀z,z∈x.2↔Me ps v 0 z) ?_ ?_ ?_ 1000 ((0:Int),[]) ⟨rfl,fun z=>⟨fun h=>(by cases h),fun⟨a,b,h1,_⟩=>(by omega)⟩⟩ (by omega)
 rotate_left
 ·rintro v ⟨x1,x2⟩ ag hv ⟨hx,hs⟩ hp
  dsimp only at hx hs
  subst hx
  obtain⟨m',h1,h2⟩:=(inner v x2 ag hv hs).1 hp
  refine⟨((v:Int)+1,m'),⟨by simp,h1⟩,?_⟩
  ·unfold cN
   dsimp only
   rw[if_pos (by omega),cP (by omega)]
   exact h2
 ·rintro v ⟨x1,x2⟩ ag hv ⟨hx,hs⟩ hp
  dsimp only at hx hs
  subst hx
  unfold cN
  dsimp only
  rw[if_pos (by omega),cP (by omega)]
  exact(inner v x2 ag hv hs).2 hp
 ·rintro⟨x1,x2⟩ ag ⟨hx,hs⟩
  dsimp only at hx hs
  subst hx
  unfold cN
  dsimp only
  rw[if_neg (by omega)]
 by_cases hL:∀v,v<ps.length->tG (at' ps (v:Int)) v ps.length
 rotate_left
 ·exact⟨fun h=>absurd h.1 hL,fun _=>outer.2 hL⟩
 obtain⟨⟨x1,x2⟩,⟨hx,hs⟩,he⟩:=outer.1 hL
 rw[he]
 dsimp only at hs ⊢
 have hk:iB x2=some (decide (∀z∈x2,¬(Option.getD (lU (z.1.2,z.1.1) x2) (0:Int))≠z.2)):=IB (fun z:(Int×Int)×Int=>(Option.getD (lU (z.1.2,z.1.1) x2) (0:Int))≠z.2) x2
 rw[hk]
 have hiff:(∀z∈x2,¬(Option.getD (lU (z.1.2,z.1.1) x2) (0:Int))≠z.2)↔∀v,v<ps.length->∀i,i<(at' ps (v:Int)).length->JA ([],ps) v i:=by
  constructor
  ·intro h v hv i hi
   have hw:=(hL v hv i hi).2.2.1
   have hin:=(hs (((v:Int),(jJ (at' ps (v:Int)) i).1),(jJ (at' ps (v:Int)) i).2)).2 ⟨v,i,.inl hv,hi,rfl⟩
   have h2:=Decidable.not_not.1 (h _ hin)
   dsimp only at h2
   cases hg:lU ((jJ (at' ps (v:Int)) i).1,(v:Int)) x2 with
   |none=>rw[hg]at h2;simp only[Option.getD]at h2;omega
   | some w =>
    rw[hg]at h2;simp only[Option.getD]at h2
    obtain⟨a,b,h3,h4,h5⟩:=(hs _).1 (AO hg)
    simp only[Prod.mk.injEq]at h5
    obtain⟨⟨h6,h7⟩,h8⟩:=h5
    refine⟨b,?_,?_,?_⟩
    ·show b<(at' ps (jJ (at' ps (v:Int)) i).1).length
     rw[h6];exact h4
    ·show(jJ (at' ps (jJ (at' ps (v:Int)) i).1) b).1=v
     rw[h6];exact h7.symm
    ·show(jJ (at' ps (jJ (at' ps (v:Int)) i).1) b).2=(jJ (at' ps (v:Int)) i).2
     rw[h6,<-h8];exact h2
  ·intro h z hz hne
   obtain⟨a,b,h3,h4,rfl⟩:=(hs z).1 hz
   have ha:a<ps.length:=by omega
   apply hne
   obtain⟨j,hj1,hj2,hj3⟩:=h a ha b h4
   have hu:=(hL a ha b h4).1
   obtain⟨u,hu'⟩:∃u:Nat,(jJ (at' ps (a:Int)) b).1=u:=⟨(jJ (at' ps (a:Int)) b).1.toNat,by omega⟩
   replace hj1:j<(at' ps (jJ (at' ps (a:Int)) b).1).length:=hj1
   replace hj2:(jJ (at' ps (jJ (at' ps (a:Int)) b).1) j).1=a:=hj2
   replace hj3:(jJ (at' ps (jJ (at' ps (a:Int)) b).1) j).2=(jJ (at' ps (a:Int)) b).2:=hj3
   rw[hu']at hj1 hj2 hj3
   have hun:u<ps.length:=by omega
   dsimp only
   rw[hu',<-hj3]
   have hin:=(hs (((u:Int),(jJ (at' ps (u:Int)) j).1),(jJ (at' ps (u:Int)) j).2)).2 ⟨u,j,.inl hun,hj1,rfl⟩
   rw[hj2]at hin
   cases hg:lU ((u:Int),(a:Int)) x2 with
   |none=>exact absurd hin (sU hg)
   | some w =>
    obtain⟨a',b',h3',h4',h5⟩:=(hs _).1 (AO hg)
    simp only[Prod.mk.injEq]at h5
    obtain⟨⟨h6,h7⟩,h8⟩:=h5
    have:a'=u:=by omega
    subst this
    have hbj:b'=j:=by
     rcases Nat.lt_trichotomy b' j with hl|hl|hl
     ·exact absurd (h7.symm.trans hj2.symm) ((hL a' hun j hj1).2.2.2 b' hl)
     ·exact hl
     ·exact absurd (hj2.trans h7) ((hL a' hun b' h4').2.2.2 j hl)
    subst hbj
    exact h8
 by_cases hS:∀v,v<ps.length->∀i,i<(at' ps (v:Int)).length->JA ([],ps) v i
 ·rw[decide_eq_true (hiff.2 hS)]
  exact⟨fun _=>rfl,fun h=>absurd ⟨hL,hS⟩ h⟩
 ·rw[decide_eq_false (fun h=>hS (hiff.1 h))]
  exact⟨fun h=>absurd h.2 hS,fun _=>rfl⟩
theorem Gd (g:GR):(VG g->eW 1000 g=some true)∧(¬VG g->eW 1000 g=some false):=by
 unfold eW oY oZ
 by_cases e:g.1.length<1
 ·rw[if_pos (by omega)]
  exact⟨fun h=>by have:=h.n1;have:=h.len;omega,fun _=>rfl⟩
 rw[if_neg (by omega)]
 by_cases f:24<g.1.length
 ·rw[if_pos (by omega)]
  exact⟨fun h=>by have:=h.n24;have:=h.len;omega,fun _=>rfl⟩
 rw[if_neg (by omega)]
 by_cases d:g.1.length=g.2.length
 rotate_left
 ·rw[decide_eq_true (by omega)]
  exact⟨fun h=>absurd h.len d,fun _=>rfl⟩
 rw[decide_eq_false (by omega),if_neg (by simp)]
 by_cases b:∀k,k<g.1.length->Sy g.1 k
 rotate_left
 ·rw[(tI g.1 (by omega)).2 b,bA rfl]
  exact⟨fun h=>absurd (fun k i=>⟨(h.node k (by omega)).id,(h.node k (by omega)).ids⟩) b,fun _=>rfl⟩
 rw[(tI g.1 (by omega)).1 b,bA rfl,if_pos rfl]
 by_cases a:JB g.2
 ·rw[(DD g.2 (by omega)).1 a]
  exact⟨fun _=>rfl,fun h=>absurd ⟨by omega,by omega,d,fun v c=>⟨(b v (by omega)).1,Ow c (a.1 v c),a.1 v c,(b v (by omega)).2⟩,a.2⟩ h⟩
 ·rw[(DD g.2 (by omega)).2 a]
  exact⟨fun h=>absurd ⟨fun v c=>(h.node v c).links,h.sym⟩ a,fun _=>rfl⟩
end
end
section
abbrev Oc:=AT
theorem sB (v m:Int) (f:1<=m) (g:m<=4611686018427387904):eZ 1000 v m=some (v%m):=by
 unfold eZ qF
 rw[if_neg (by omega),cP (by omega)]
 have c:=Int.tmod_eq_emod (a:=v) (b:=m)
 have e:=Int.emod_nonneg v (show m≠0 by omega)
 have h:=Int.emod_lt_of_pos v (show 0<m by omega)
 by_cases hc:0<=v∨m∣v
 ·rw[if_pos hc]at c
  have d:v.tmod m=v%m:=by simpa using c
  rw[d,if_neg (by omega)]
 ·rw[if_neg hc]at c
  have:(m.natAbs:Int)=m:=by omega
  rw[c,if_pos (by omega),wr (by omega) (by omega)]
  congr 1;omega
theorem Mv (l:aL) (i:Int) (h:0<=i):rD 1000 l i=some (at' l i):=by
 unfold rD
 by_cases a:i<(l.length:Int)
 ·rw[if_pos a,cP ⟨h,a⟩]
 ·rw[if_neg a]
  unfold at'
  rw[List.getD_eq_getElem?_getD,List.getElem?_eq_none (by omega)];rfl

theorem MZ {i:Type} [DecidableEq i]:∀(e c:List i),e.Nodup->(∀x∈e,x∈c)->e.length<=c.length
 | [],_,_,_=>Nat.zero_le _
 | a :: t, c, hn, hs => by
  have b:=List.nodup_cons.1 hn
  have f:=hs a (List.mem_cons_self ..)
  have:=MZ t (c.erase a) b.2 fun x h=>by
   have d:x≠a:=fun j=>b.1 (j▸h)
   exact(List.mem_erase_of_ne d).2 (hs x (List.mem_cons_of_mem _ h))
  rw[List.length_erase_of_mem f]at this
  have g:0<c.length:=List.length_pos_of_mem f
  simp only[List.length_cons]
  omega
theorem Vl (d:Int) (c:aL) (t:Nat) (k:t<=200) (h:∀s,s<t->(d+(s:Int))%256∈c):t<=c.length:=by
 have:=MZ ((List.range t).map fun s:Nat=>(d+(s:Int))%256) c (by
  rw[List.nodup_iff_pairwise_ne,List.pairwise_map]
  refine List.Pairwise.imp_of_mem ?_ List.pairwise_lt_range
  intro a b e g f
  rw[List.mem_range]at e g
  omega) (fun x j=>by
  obtain⟨s,i,rfl⟩:=List.mem_map.1 j
  exact h s (List.mem_range.1 i))
 simpa using this

structure Hv (ids:aL):Prop where
 rng:∀y∈ids,0<=y∧y<=255
 nd:ids.Nodup
theorem Hv.snoc {c:aL} {y:Int} (h:Hv c) (j:0<=y∧y<=255) (i:y∉c):Hv (c++[y]):=by
 refine⟨fun z d=> ?_,?_⟩
 ·rcases List.mem_append.1 d with d|d
  ·exact h.rng z d
  ·rw[List.mem_singleton.1 d];exact j
 ·rw[List.nodup_append]
  refine⟨h.nd,by simp,?_⟩
  intro a e b f
  rw[List.mem_singleton.1 f]
  exact fun g=>i (g▸e)
theorem AM {a:Type} [Inhabited a] {l:List a} {i:Nat} (h:i<l.length):at' l (i:Int)∈l:=by
 rw[iX,List.getD_eq_getElem?_getD,List.getElem?_eq_getElem h]
 exact List.getElem_mem h
theorem Fy {a:Type} [Inhabited a] {l:List a} {x:a} (h:x∈l):∃i,i<l.length∧at' l ((i:Nat):Int)=x:=by
 obtain⟨i,b,c⟩:=List.getElem_of_mem h
 refine⟨i,b,?_⟩
 rw[iX,List.getD_eq_getElem?_getD,List.getElem?_eq_getElem b]
 exact c
theorem Uf {Q:List Int×fQ->Prop} {ids:aL} (hl:ids.length<=24) (id0:Int) (ag:rI->Option (List Int×fQ))
  (hag:∀y,0<=y->y<=255->y∉ids->OK Q (ag ((ids.length:Int)+1,ids++[y]))):OK Q (bJ (kE ((ids.length:Int),ids) ag) 1000 (id0%256,0)):=by
 refine wW (fun s:eK=>∃(t u:Nat),s.1=(id0+(t:Int))%256∧s.2=u∧u<=ids.length∧t<=ids.length∧(∀k,k<t->(id0+(k:Int))%256∈ids)∧∀j,j<u->at' ids (j:Int)≠s.1)
  (fun s=>(ids.length - ((s.1 - id0)%256).toNat)*30+(ids.length - s.2.toNat)) ?_ 1000 _ ⟨0,0,by simp,rfl,by omega,by omega,fun k hk=>by omega,fun j hj=>by omega⟩ ?_
 ·rintro⟨i,j⟩ ag' ⟨t,u,h1,h2,h3,h4,h5,h6⟩ hrec
  dsimp only at h1 h2 h6
  subst h2
  unfold kE qY kD
  dsimp only
  by_cases hu:(u:Int)<(ids.length:Int)
  ·rw[if_pos hu,cP (by omega)]
   by_cases he:at' ids (u:Int)=i
   ·rw[if_pos he,cP (by decide)]
    have hin:(id0+(t:Int))%256∈ids:=by rw[<-h1,<-he];exact AM (by omega)
    have hall:∀k,k<t+1->(id0+(k:Int))%256∈ids:=fun k hk=>by
     rcases Nat.lt_succ_iff_lt_or_eq.1 hk with h|h
     ·exact h5 k h
     ·subst h;exact hin
    have ht:=Vl id0 ids (t+1) (by omega) hall
    have hi:0<=i∧i<=255:=by omega
    rw[wr (by omega) (by omega),Int.tmod_eq_emod_of_nonneg (by omega),wr (by omega) (by omega)]
    refine hrec _ ⟨t+1,0,?_,by simp,by omega,ht,hall,fun j hj=>by omega⟩ ?_
    ·dsimp only;omega
    ·dsimp only
     have e1:((i+1)%256 - id0)%256=(t:Int)+1:=by omega
     have e2:(i - id0)%256=(t:Int):=by omega
     rw[e1,e2];omega
   ·rw[if_neg he,wr (by omega) (by omega)]
    refine hrec _ ⟨t,u+1,h1,by dsimp only;omega,by omega,h4,h5,fun j hj=> ?_⟩ ?_
    ·rcases Nat.lt_succ_iff_lt_or_eq.1 hj with h|h
     ·exact h6 j h
     ·subst h;exact he
    ·dsimp only;omega
  ·rw[if_neg hu]
   rw[cP (by simp;omega),wr (by omega) (by omega)]
   refine hag i (by omega) (by omega) fun hm=> ?_
   obtain⟨k,hk,hke⟩:=Fy hm
   exact h6 k (by omega) hke
 ·dsimp only
  have e:(id0%256 - id0)%256=0:=by omega
  rw[e];omega
theorem MY (x:Oc) (most:Nat) (h1:1<=most) (h24:most<=24):OK (fun g:GR=>Hv g.1∧g.2=List.replicate g.1.length []∧1<=g.1.length∧g.1.length<=most) (lB 1000 x (most:Int)):=by
 unfold lB
 rw[bA (sB _ _ (by omega) (by omega))]
 generalize hr:(wI .i64 (x.1 - 1))%(most:Int)=r
 have hr0:0<=r:=by rw[<-hr];exact Int.emod_nonneg _ (by omega)
 have hr1:r<most:=by rw[<-hr];exact Int.emod_lt_of_pos _ (by omega)
 have hw:wI .i64 (1+r)=1+r:=wr (by omega) (by omega)
 rw[hw,cP (by omega)]
 refine wW (fun s:rI=>s.1=(s.2.length:Int)∧(s.2.length:Int)<=1+r∧Hv s.2) (fun s=>(1+r - s.1).toNat) ?_ 1000 _ ⟨rfl,by simp;omega,⟨fun y hy=>by simp at hy,List.nodup_nil⟩⟩ (by dsimp only;omega)
 rintro⟨v,ids⟩ ag ⟨ha,hb,hc⟩ hrec
 dsimp only at ha hb hc
 subst ha
 unfold iG nL
 dsimp only
 rw[hw]
 by_cases hv:(ids.length:Int)<1+r
 ·rw[if_pos hv,bA (Mv _ _ (by omega)),bA (sB _ _ (by decide) (by decide))]
  exact Uf (by omega) _ ag fun y y0 y1 y2=>hrec _ ⟨by simp,by simp;omega,hc.snoc ⟨y0,y1⟩ y2⟩ (by dsimp only;omega)
 ·rw[if_neg hv]
  refine⟨_,rfl,hc,?_,by dsimp only;omega,by dsimp only;omega⟩
  dsimp only
  congr 1;omega

structure VM (ids:aL) (P:fQ):Prop where
 n1:1<=P.length
 n24:P.length<=24
 len:ids.length=P.length
 ok:Hv ids
 nd:∀v:Nat,v<P.length->((at' P (v:Int)).map Prod.fst).Nodup
 lk:∀v:Nat,v<P.length->∀x∈at' P (v:Int),(0<=x.1∧x.1<=(P.length:Int) - 1)∧x.1≠(v:Int)∧(1<=x.2∧x.2<=15)∧((v:Int),x.2)∈at' P x.1
theorem UH {d:Type} [Inhabited d] {l:List d} (h:l.Nodup) {i j:Nat} (b:i<l.length) (c:j<l.length) (a:i<j):at' l (i:Int)≠at' l (j:Int):=by
 rw[iX,iX,List.getD_eq_getElem?_getD,List.getD_eq_getElem?_getD,List.getElem?_eq_getElem b,List.getElem?_eq_getElem c]
 exact List.pairwise_iff_getElem.1 (List.nodup_iff_pairwise_ne.1 h) i j b c a
theorem VM.vg {ids:aL} {P:fQ} (h:VM ids P):VG (ids,P):=by
 have hlen:=h.len
 have links:∀v,v<P.length->tG (row (ids,P) v) v P.length:=by
  intro v hv i hi
  have hm:jJ (row (ids,P) v) i∈at' P (v:Int):=AM hi
  obtain⟨a1,a2,a3,_⟩:=h.lk v hv _ hm
  refine⟨a1,a2,a3,fun k hk=> ?_⟩
  have hk2:k<(row (ids,P) v).length:=by omega
  have:=List.pairwise_iff_getElem.1 (List.nodup_iff_pairwise_ne.1 (h.nd v hv)) k i (by simpa using hk2) (by simpa using hi) hk
  rw[List.getElem_map,List.getElem_map]at this
  have e:∀j (hj:j<(row (ids,P) v).length),jJ (row (ids,P) v) j=(at' P (v:Int))[j]'hj:=fun j hj=>by
   unfold jJ
   rw[iX,List.getD_eq_getElem?_getD,List.getElem?_eq_getElem hj];rfl
  rw[e k hk2,e i hi]
  exact this
 refine⟨h.n1,h.n24,h.len,fun v hv=>⟨?_,Ow hv (links v hv),links v hv,fun k hk=> ?_⟩,fun v hv i hi=> ?_⟩
 ·exact h.ok.rng _ (AM (by dsimp only at hv ⊢;omega))
 ·exact UH h.ok.nd (by dsimp only at hv ⊢;omega) (by dsimp only at hv ⊢;omega) hk
 ·have hm:jJ (row (ids,P) v) i∈at' P (v:Int):=AM hi
  obtain⟨_,_,_,a4⟩:=h.lk v hv _ hm
  obtain⟨j,hj,he⟩:=Fy a4
  exact⟨j,hj,by unfold jJ;rw[he],by unfold jJ;rw[he]⟩
theorem VM.start {a:aL} (h:Hv a) (d:1<=a.length) (b:a.length<=24):VM a (List.replicate a.length []):=by
 have e:∀v:Nat,at' (List.replicate a.length ([]:e_)) (v:Int)=[]:=fun v=>by
  rw[iX,List.getD_eq_getElem?_getD,List.getElem?_replicate]
  split<;>rfl
 refine⟨by simpa using d,by simpa using b,by simp,h,fun v _=>by rw[e];exact List.nodup_nil,fun v _ x c=> ?_⟩
 rw[e]at c
 cases c
def mX (P:fQ) (v u:Nat):Prop:=∃x∈at' P (v:Int),x.1=(u:Int)
theorem J_ (ids:aL) (P:fQ) (a b:Nat) (ha:a<P.length) (hl:(at' P (a:Int)).length<=900):(mX P a b->mK 1000 (ids,P) a b=some true)∧(¬mX P a b->mK 1000 (ids,P) a b=some false):=by
 have step:∀(r:Bool),(r=true->mX P a b)->(r=false->¬mX P a b)->mK 1000 (ids,P) a b=some r:=by
  intro r ht hf
  unfold mK
  refine EK (fun i:Int=>∃k:Nat,i=k∧k<=(at' P (a:Int)).length∧∀j,j<k->(at' (at' P (a:Int)) ((j:Nat):Int)).1≠(b:Int)) (fun i=>(at' P (a:Int)).length - i.toNat) ?_ 1000 0 ⟨0,rfl,by omega,fun j hj=>by omega⟩ (by omega)
  rintro i ag ⟨k,rfl,hk,hno⟩ hrec
  unfold yB uA
  dsimp only
  rw[cP (by omega)]
  by_cases hi:(k:Int)<((at' P (a:Int)).length:Int)
  ·rw[if_pos hi,cP (by omega),cP (by omega)]
   by_cases he:(at' (at' P (a:Int)) (k:Int)).1=(b:Int)
   ·rw[if_pos he]
    cases r with
    |true=>rfl
    |false=>exact absurd ⟨_,AM (by omega),he⟩ (hf rfl)
   ·rw[if_neg he,wr (by omega) (by omega)]
    refine hrec _ ⟨k+1,by omega,by omega,fun j hj=> ?_⟩ (by omega)
    rcases Nat.lt_succ_iff_lt_or_eq.1 hj with h|h
    ·exact hno j h
    ·subst h;exact he
  ·rw[if_neg hi]
   cases r with
   |false=>rfl
   |true=>
    obtain⟨x,hx,he⟩:=ht rfl
    obtain⟨j,hj,hje⟩:=Fy hx
    exact absurd (by rw[hje];exact he) (hno j (by omega))
 exact⟨fun h=>step true (fun _=>h) (fun hc=>by cases hc),fun h=>step false (fun hc=>by cases hc) (fun _=>h)⟩
theorem Wo (P:fQ) (a b:Nat) (x y:e_) (d:a<P.length) (e:b<P.length) (v:Nat):at' ((P.set a x).set b y) (v:Int)=if v=b then y else if v=a then x else at' P (v:Int):=by
 rw[iX,iX,List.getD_eq_getElem?_getD,List.getD_eq_getElem?_getD,List.getElem?_set,List.getElem?_set]
 by_cases h:v=b
 ·subst h;rw[if_pos rfl,if_pos rfl,if_pos (by simpa using e)];rfl
 ·rw[if_neg (fun hc=>h hc.symm),if_neg h]
  by_cases c:v=a
  ·subst c;rw[if_pos rfl,if_pos rfl,if_pos d];rfl
  ·rw[if_neg (fun hc=>c hc.symm),if_neg c]
theorem VM.add {m:aL} {P:fQ} (h:VM m P) {a b:Nat} {w:Int} (I:a<P.length) (t:b<P.length) (p:a≠b) (A:¬mX P a b) (C:1<=w∧w<=15)
  {x y:e_} (D:x.Perm (((b:Int),w)::at' P (a:Int))) (E:y.Perm (((a:Int),w)::at' P (b:Int))):
  VM m ((P.set a x).set b y)∧(∀v u,mX P v u->mX ((P.set a x).set b y) v u)∧mX ((P.set a x).set b y) a b:=by
 have q:¬mX P b a:=by
  rintro⟨z,g,i⟩
  obtain⟨_,_,_,l⟩:=h.lk b t z g
  rw[i]at l
  exact A ⟨_,l,rfl⟩
 have B:=Wo P a b x y I t
 have k:((P.set a x).set b y).length=P.length:=by simp
 have d:∀(v:Nat) (z:eK),z∈at' ((P.set a x).set b y) (v:Int)↔z∈at' P (v:Int)∨(v=b∧z=((a:Int),w))∨(v=a∧z=((b:Int),w)):=by
  intro v z
  rw[B v]
  by_cases f:v=b
  ·subst f
   rw[if_pos rfl,E.mem_iff,List.mem_cons]
   constructor
   ·rintro(c|c)
    ·exact .inr (.inl ⟨rfl,c⟩)
    ·exact .inl c
   ·rintro(c|⟨_,c⟩|⟨e,_⟩)
    ·exact .inr c
    ·exact .inl c
    ·exact absurd e.symm p
  ·rw[if_neg f]
   by_cases c:v=a
   ·subst c
    rw[if_pos rfl,D.mem_iff,List.mem_cons]
    constructor
    ·rintro(e|e)
     ·exact .inr (.inr ⟨rfl,e⟩)
     ·exact .inl e
    ·rintro(e|⟨n,_⟩|⟨_,e⟩)
     ·exact .inr e
     ·exact absurd n f
     ·exact .inl e
   ·rw[if_neg c]
    exact⟨.inl,fun e=>e.elim id fun n=>n.elim (fun o=>absurd o.1 f) fun o=>absurd o.1 c⟩
 refine⟨⟨by rw[k];exact h.n1,by rw[k];exact h.n24,by rw[k];exact h.len,h.ok,fun v j=> ?_,fun v j z g=> ?_⟩,fun v u r=> ?_,?_⟩
 ·rw[k]at j
  rw[B v]
  by_cases f:v=b
  ·subst f
   rw[if_pos rfl,(E.map Prod.fst).nodup_iff,List.map_cons,List.nodup_cons]
   exact⟨fun hc=>by obtain⟨z,g,i⟩:=List.mem_map.1 hc;exact q ⟨z,g,i⟩,h.nd v j⟩
  ·rw[if_neg f]
   by_cases c:v=a
   ·subst c
    rw[if_pos rfl,(D.map Prod.fst).nodup_iff,List.map_cons,List.nodup_cons]
    exact⟨fun hc=>by obtain⟨z,g,i⟩:=List.mem_map.1 hc;exact A ⟨z,g,i⟩,h.nd v j⟩
   ·rw[if_neg c];exact h.nd v j
 ·rw[k]at j ⊢
  rcases(d v z).1 g with f|⟨rfl,rfl⟩|⟨rfl,rfl⟩
  ·obtain⟨F,G,H,s⟩:=h.lk v j z f
   refine⟨F,G,H,?_⟩
   obtain⟨u,J⟩:∃u:Nat,z.1=u:=⟨z.1.toNat,by omega⟩
   rw[J]at s ⊢
   exact(d u _).2 (.inl s)
  ·exact⟨by dsimp only;omega,by dsimp only;omega,C,(d a _).2 (.inr (.inr ⟨rfl,rfl⟩))⟩
  ·exact⟨by dsimp only;omega,by dsimp only;omega,C,(d b _).2 (.inr (.inl ⟨rfl,rfl⟩))⟩
 ·obtain⟨z,g,i⟩:=r
  exact⟨z,(d v z).2 (.inl g),i⟩
 ·exact⟨_,(d a _).2 (.inr (.inr ⟨rfl,rfl⟩)),rfl⟩
theorem Qf (x:Oc) {ids:aL} {P:fQ} (h:VM ids P) {a b:Nat} {w:Int} (ha:a<P.length) (hb:b<P.length) (hw:1<=w∧w<=15):
  ∃P',mF 1000 x (ids,P) a b w=some P'∧VM ids P'∧P'.length=P.length∧(∀v u,mX P v u->mX P' v u)∧(a≠b->mX P' a b):=by
 have h24:=h.n24
 have dg:∀v:Nat,v<P.length->(at' P (v:Int)).length<24:=fun v hv=>by
  have:=(h.vg.node v hv).deg
  have e:(at' P (v:Int)).length=(row (ids,P) v).length:=rfl
  dsimp only at this
  omega
 have da:=dg a ha
 have db:=dg b hb
 unfold mF
 by_cases hab:a=b
 ·subst hab
  rw[if_pos rfl]
  exact⟨P,rfl,h,rfl,fun _ _ h=>h,fun hc=>absurd rfl hc⟩
 rw[if_neg (by omega)]
 by_cases hn:mX P a b
 ·rw[bA ((J_ ids P a b ha (by omega)).1 hn)]
  exact⟨P,rfl,h,rfl,fun _ _ h=>h,fun _=>hn⟩
 rw[bA ((J_ ids P a b ha (by omega)).2 hn)]
 unfold oE
 rw[if_neg (by simp)]
 dsimp only
 cases hbk:x.2.2.2.2.2 with
 | true =>
  rw[if_pos rfl]
  have e:at' (P.set (Int.toNat (a:Int)) ([((b:Int),w)]++at' P (a:Int))) (b:Int)=at' P (b:Int):=by
   rw[iX,List.getD_eq_getElem?_getD,List.getElem?_set,if_neg (by simpa using hab),iX,List.getD_eq_getElem?_getD]
  rw[e]
  rw[cP (by omega),cP (by simp;omega),cP (by omega),cP (by simp;omega),cP (by simp;omega),cP (by simp;omega)]
  obtain⟨h1,h2,h3⟩:=h.add ha hb hab hn hw (List.Perm.refl _) (List.Perm.refl _)
  exact⟨_,rfl,h1,by simp,h2,fun _=>h3⟩
 |false=>
  rw[if_neg (by simp)]
  rw[cP (by omega),cP (by omega),cP (by simp;omega),cP (by simp;omega),cP (by simpa using hab),cP (by simp;omega),cP (by simp;omega)]
  obtain⟨h1,h2,h3⟩:=h.add ha hb hab hn hw (x:=at' P (a:Int)++[((b:Int),w)]) (y:=at' P (b:Int)++[((a:Int),w)]) List.perm_append_comm List.perm_append_comm
  exact⟨_,rfl,h1,by simp,h2,fun _=>h3⟩
theorem Kq (v:Int):wI .i64 (1+v%15)=1+v%15∧1<=1+v%15∧1+v%15<=15:=by
 have:=Int.emod_nonneg v (show(15:Int)≠0 by decide)
 have:=Int.emod_lt_of_pos v (show(0:Int)<15 by decide)
 exact⟨wr (by omega) (by omega),by omega,by omega⟩

theorem XU (x:Oc) (most:Nat) (h1:1<=most) (h24:most<=24):
  OK (fun g:GR=>VM g.1 g.2∧g.2.length<=most∧∀v:Nat,1<=v->v<g.2.length->∃u:Nat,u<v∧mX g.2 u v) (mE 1000 x (most:Int)):=by
 unfold mE
 obtain⟨⟨ids,P0⟩,e0,hid,hP,hn1,hn2⟩:=MY x most h1 h24
 dsimp only at hP hid hn1 hn2
 rw[bA e0]
 dsimp only
 subst hP
 have hst:=VM.start hid hn1 (by omega)
 refine wW (fun s:Int×fQ=>∃k:Nat,s.1=k∧1<=k∧k<=ids.length∧VM ids s.2∧s.2.length=ids.length∧∀v:Nat,1<=v->v<k->∃u:Nat,u<v∧mX s.2 u v) (fun s=>ids.length - s.1.toNat) ?_ 1000 _ ⟨1,rfl,by omega,hn1,hst,by simp,fun v hv hv2=>by omega⟩ (by dsimp only;omega)
 rintro⟨i,P⟩ ag ⟨k,hk,hk1,hk2,hV,hL,hT⟩ hrec
 dsimp only at hk hV hL hT
 subst hk
 unfold sJ oD
 dsimp only
 by_cases hi:(k:Int)<(P.length:Int)
 ·rw[if_pos hi,wr (by omega) (by omega),bA (Mv _ _ (by omega)),bA (sB _ _ (by omega) (by omega)),bA (Mv _ _ (by omega)),bA (sB _ _ (by decide) (by decide))]
  obtain⟨w1,w2,w3⟩:=Kq (at' x.2.2.1 ((k:Int) - 1))
  rw[w1]
  generalize hu:at' x.2.1 ((k:Int) - 1)%(k:Int)=u
  have u0:0<=u:=by rw[<-hu];exact Int.emod_nonneg _ (by omega)
  have u1:u<k:=by rw[<-hu];exact Int.emod_lt_of_pos _ (by omega)
  obtain⟨u,rfl⟩:∃n:Nat,u=n:=⟨u.toNat,by omega⟩
  obtain⟨P',e1,v1,v2,v3,v4⟩:=Qf x hV (a:=u) (b:=k) (by omega) (by omega) ⟨w2,w3⟩
  rw[bA e1,wr (by omega) (by omega)]
  refine hrec _ ⟨k+1,by dsimp only;omega,by omega,by omega,v1,by dsimp only;omega,fun v hv hv2=> ?_⟩ (by dsimp only;omega)
  by_cases hvk:v=k
  ·subst hvk;exact⟨u,by omega,v4 (by omega)⟩
  ·obtain⟨u',hu1,hu2⟩:=hT v hv (by omega)
   exact⟨u',hu1,v3 _ _ hu2⟩
 ·rw[if_neg hi]
  exact⟨_,rfl,hV,by dsimp only;omega,fun v hv hv2=>hT v hv (by dsimp only at hv2;omega)⟩
theorem Qi (x:Oc) {ids:aL} {P:fQ} (h:VM ids P):OK (fun g:GR=>VM g.1 g.2∧g.1=ids∧g.2.length=P.length∧∀v u,mX P v u->mX g.2 v u) (jY 1000 x (ids,P)):=by
 unfold jY
 have h24:=h.n24
 have hp1:=h.n1
 refine wW (fun s:Int×fQ=>∃k:Nat,s.1=k∧k<=100∧VM ids s.2∧s.2.length=P.length∧∀v u,mX P v u->mX s.2 v u) (fun s=>200 - s.1.toNat) ?_ 1000 _ ⟨P.length,rfl,by omega,h,rfl,fun _ _ h=>h⟩ (by dsimp only;omega)
 rintro⟨i,Q⟩ ag ⟨k,hk,hk2,hV,hL,hN⟩ hrec
 dsimp only at hk hV hL hN
 subst hk
 have done:∀b:Bool,b=false->OK (fun g:GR=>VM g.1 g.2∧g.1=ids∧g.2.length=P.length∧∀v u,mX P v u->mX g.2 v u) (k_ 1000 x (ids,P) ((k:Int),Q) ag b):=by
  rintro b rfl
  exact⟨_,rfl,hV,rfl,hL,hN⟩
 unfold oF
 dsimp only
 rw[wr (by omega) (by omega)]
 by_cases h1:(k:Int)+1<(x.2.1.length:Int)
 rotate_left
 ·rw[if_neg h1];exact done _ rfl
 rw[if_pos h1]
 by_cases h2:(k:Int)<60
 rotate_left
 ·exact done _ (decide_eq_false h2)
 rw[decide_eq_true h2]
 unfold k_
 dsimp only
 rw[if_pos rfl,cP (by omega),bA (sB _ _ (by omega) (by omega)),wr (by omega) (by omega),cP (by omega),bA (sB _ _ (by omega) (by omega)),bA (Mv _ _ (by omega)),bA (sB _ _ (by decide) (by decide))]
 obtain⟨w1,w2,w3⟩:=Kq (at' x.2.2.1 (k:Int))
 rw[w1]
 generalize hu:at' x.2.1 (k:Int)%(P.length:Int)=u
 have u0:0<=u:=by rw[<-hu];exact Int.emod_nonneg _ (by omega)
 have u1:u<P.length:=by rw[<-hu];exact Int.emod_lt_of_pos _ (by omega)
 obtain⟨u,rfl⟩:∃n:Nat,u=n:=⟨u.toNat,by omega⟩
 generalize ht:at' x.2.1 ((k:Int)+1)%(P.length:Int)=t
 have t0:0<=t:=by rw[<-ht];exact Int.emod_nonneg _ (by omega)
 have t1:t<P.length:=by rw[<-ht];exact Int.emod_lt_of_pos _ (by omega)
 obtain⟨t,rfl⟩:∃n:Nat,t=n:=⟨t.toNat,by omega⟩
 obtain⟨P',e1,v1,v2,v3,v4⟩:=Qf x hV (a:=u) (b:=t) (by omega) (by omega) ⟨w2,w3⟩
 rw[bA e1,wr (by omega) (by omega)]
 exact hrec _ ⟨k+2,by dsimp only;omega,by omega,v1,by dsimp only;omega,fun v u hvu=>v3 _ _ (hN v u hvu)⟩ (by dsimp only;omega)
theorem KX (x:Oc) (a:Nat) (m:1<=a) (c:a<=24):
  OK (fun g:GR=>VM g.1 g.2∧g.2.length<=a∧∀v:Nat,1<=v->v<g.2.length->∃u:Nat,u<v∧mX g.2 u v) (kT 1000 x (a:Int)):=by
 unfold kT
 obtain⟨⟨s,P⟩,k,o,n,i⟩:=XU x a m c
 obtain⟨⟨j,t⟩,l,b,p,d,h⟩:=Qi x o
 rw[bA k,bA l]
 dsimp only at n i b p d h
 refine⟨_,rfl,b,by dsimp only;omega,fun v r f=> ?_⟩
 obtain⟨u,q,e⟩:=i v r (by dsimp only at f;omega)
 exact⟨u,q,h _ _ e⟩
theorem YK (x:Oc) (a:Nat) (k:1<=a) (b:a<=24):OK (fun g:GR=>VM g.1 g.2∧g.2.length<=a) (nR 1000 x (a:Int)):=by
 unfold nR
 cases m:x.2.2.2.2.1 with
 |false=>
  obtain⟨⟨j,P⟩,h,r,p,_⟩:=KX x a k b
  rw[if_pos (by rfl)]
  rw[<-m]at *
  rw[bA h]
  exact⟨_,rfl,r,p⟩
 |true=>
  obtain⟨⟨j,P⟩,h,e,l,f,i⟩:=MY x a k b
  dsimp only at l e f i
  subst l
  obtain⟨⟨n,t⟩,o,d,s,c,q⟩:=Qi x (VM.start e f (by omega))
  dsimp only at d s c q
  rw[if_neg (by simp)]
  rw[<-m]at *
  rw[bA h,bA o]
  exact⟨_,rfl,d,by simp at c ⊢;omega⟩
end
end Go.Proofs.YtjlbcgddhnjcjaaGreatDoor
end
section
namespace Go.Proofs.YtjlbcgddhnjcjaaGreatDoor
open Go Go.Sx
section
abbrev val (c:aT) (v x:Nat):Int:=at' (at' c (v:Int)) (x:Int)
def Dp (g:GR) (b:Int) (v:Nat) (a:Int):Prop:=if b = -1 then -1<=a∧a<=((row g v).length:Int) - 1 else 0<=a∧a<=b
instance (g:GR) (top:Int) (v:Nat) (a:Int):Decidable (Dp g top v a):=by unfold Dp;infer_instance
structure Cf (g:GR) (c:aT) (tops:aL):Prop where
 len:c.length=g.2.length
 row:∀v,v<g.2.length->(at' c (v:Int)).length=tops.length
 ok:∀v,v<g.2.length->∀x,x<tops.length->Dp g (at' tops (x:Int)) v (val c v x)
theorem FG {g:GR} (hV:VG g) (c:aT) (tops:aL) (ht:tops.length<=900):(Cf g c tops->jE 1000 g c tops=some true)∧(¬Cf g c tops->jE 1000 g c tops=some false):=by
 have h24:=hV.n24
 have hlen:=hV.len
 unfold jE
 by_cases h1:c.length=g.2.length
 rotate_left
 ·rw[if_pos (by omega)]
  exact⟨fun h=>absurd h.len h1,fun _=>rfl⟩
 rw[if_neg (by omega)]
 have inner:∀(v:Nat) (ag:Int->Option Bool),v<g.2.length->(at' c (v:Int)).length=tops.length->((∀x,x<tops.length->Dp g (at' tops (x:Int)) v (val c v x))->bJ (eH g c tops v ag) 1000 0=ag ((v:Int)+1))∧(¬(∀x,x<tops.length->Dp g (at' tops (x:Int)) v (val c v x))->bJ (eH g c tops v ag) 1000 0=some false):=by
  intro v ag hv hr
  have hdeg:(at' g.2 (v:Int)).length<g.2.length:=(hV.node v hv).deg
  have fin:∀(x:Nat) (ag2:Int->Option Bool) (lo hi a:Int),x<tops.length->at' (at' c (v:Int)) (x:Int)=a->kG c v x ag2 (lo,hi)=if lo<=a∧a<=hi then ag2 ((x:Int)+1)else some false:=by
   intro x ag2 lo hi a hx ha
   unfold kG nO
   rw[ha]
   have hw:wI .i64 ((x:Int)+1)=(x:Int)+1:=wr (by omega) (by omega)
   by_cases a1:lo<=a
   ·by_cases a2:a<=hi
    ·simp[a1,a2,hw,show¬a<lo by omega,show¬hi<a by omega]
    ·simp[a1,a2,hw,show¬a<lo by omega,show hi<a by omega]
   ·simp[a1,hw,show a<lo by omega]
  have body:∀(x:Nat) (ag2:Int->Option Bool),x<tops.length->eH g c tops v ag x ag2=if Dp g (at' tops (x:Int)) v (val c v x)then ag2 ((x:Int)+1)else some false:=by
   intro x ag2 hx
   unfold eH
   rw[if_pos (by omega),cP (by omega),cP (by omega)]
   unfold Dp
   by_cases ht1:at' tops (x:Int) = -1
   ·rw[if_pos ht1,cP (by omega),fin x ag2 _ _ _ hx rfl,wr (by omega) (by omega)]
    simp only[ht1,if_true]
   ·rw[if_neg ht1,fin x ag2 _ _ _ hx rfl]
    simp only[ht1,if_false]
  refine P_ tops.length _ (fun x ag2 hx hp=> ?_) (fun x ag2 hx hp=> ?_) (fun ag2=> ?_) 1000 (by omega)
  ·rw[body x ag2 hx,if_pos hp]
  ·rw[body x ag2 hx,if_neg hp]
  ·unfold eH nN
   rw[if_neg (by omega),wr (by omega) (by omega)]
 have outer:=P_ (step:=dM 1000 g c tops) (K:=some true) (bad:=false) g.2.length (fun v=>(at' c (v:Int)).length=tops.length∧∀x,x<tops.length->Dp g (at' tops (x:Int)) v (val c v x)) (fun v ag hv hp=> ?_) (fun v ag hv hp=> ?_) (fun ag=> ?_) 1000 (by omega)
 ·exact⟨fun h=>outer.1 fun v hv=>⟨h.row v hv,h.ok v hv⟩,fun h=>outer.2 fun h'=>h ⟨h1,fun v hv=>(h' v hv).1,fun v hv=>(h' v hv).2⟩⟩
 ·unfold dM
  rw[if_pos (by omega),cP (by omega),if_neg (by have:=hp.1;omega)]
  exact(inner v ag hv hp.1).1 hp.2
 ·unfold dM
  rw[if_pos (by omega),cP (by omega)]
  by_cases hr:(at' c (v:Int)).length=tops.length
  ·rw[if_neg (by omega)]
   exact(inner v ag hv hr).2 fun h=>hp ⟨hr,h⟩
  ·rw[if_pos (by omega)]
 ·unfold dM nM
  rw[if_neg (by omega)]

def gQ (g:GR):Nat->Int
 |0=>0
 |k+1=>max (gQ g k) (at' g.1 (k:Int))
theorem Ix {g:GR} (a:VG g):∀k,k<=g.2.length->0<=gQ g k∧gQ g k<=255
 |0,_=>by simp[gQ]
 |k+1,h=>by
  have b:=Ix a k (by omega)
  have c:0<=at' g.1 (k:Int)∧at' g.1 (k:Int)<=255:=(a.node k (by omega)).id
  simp only[gQ];omega
abbrev Dg:=CF
def Cc (x:Dg):Prop:=(0<=x.2.2.2.1∧x.2.2.2.1<=100000)∧(0<=x.2.2.2.2.1∧x.2.2.2.2.1<=100000)∧(0<=x.2.2.2.2.2∧x.2.2.2.2.2<=100000)
def lo (g:GR) (x:Dg) (v:Nat):Int:=if x.2.1=2 then 0 else if x.2.1=3 then -1 else x.2.2.1
def hi (g:GR) (x:Dg) (v:Nat):Int:=if x.2.1=2 then 1 else if x.2.1=3 then((row g v).length:Int) - 1 else x.2.2.2.1+x.2.2.2.2.1*(g.2.length:Int)+x.2.2.2.2.2*gQ g g.1.length
structure G_ (g:GR) (c:aT) (vars:List Dg):Prop where
 len:c.length=g.2.length
 row:∀v,v<g.2.length->(at' c (v:Int)).length=vars.length
 ok:∀v,v<g.2.length->∀x,x<vars.length->lo g (at' vars (x:Int)) v<=val c v x∧val c v x<=hi g (at' vars (x:Int)) v
theorem XK {g:GR} {c:aT} {vars:List Dg} {b:aL} (e:vars.length=b.length) (h:∀v x,v<g.2.length->x<b.length->∀a,(lo g (at' vars (x:Int)) v<=a∧a<=hi g (at' vars (x:Int)) v)↔Dp g (at' b (x:Int)) v a):G_ g c vars↔Cf g c b:=
  ⟨fun k=>⟨k.len,fun v d=>by rw[k.row v d,e],fun v d x f=>(h v x d f _).1 (k.ok v d x (by omega))⟩,
   fun k=>⟨k.len,fun v d=>by rw[k.row v d,e],fun v d x f=>(h v x d (by omega) _).2 (k.ok v d x (by omega))⟩⟩
end
section

def Ib (a b:Nat):Nat:=(BitVec.ofInt 32 (a:Int) &&& ~~~ BitVec.ofInt 32 (b:Int)).toNat
theorem TP (a b:Nat):Ib a b<4294967296:=(BitVec.ofInt 32 (a:Int) &&& ~~~ BitVec.ofInt 32 (b:Int)).isLt
theorem FB {a i:Nat} (b:a<4294967296) (h:a.testBit i=true):i<32:=by
 apply Classical.byContradiction
 intro hc
 rw[Nat.testBit_lt_two_pow (Nat.lt_of_lt_of_le b (Nat.pow_le_pow_right (n:=2) (by omega) (show 32<=i by omega)))]at h
 cases h
theorem FH {a b:Nat} (d:a<4294967296) (e:b<4294967296) (i:Nat):(Ib a b).testBit i=(a.testBit i && !b.testBit i):=by
 have:=BitVec.getLsbD_and (x:=BitVec.ofInt 32 (a:Int)) (y:= ~~~ BitVec.ofInt 32 (b:Int)) (i:=i)
 rw[BitVec.getLsbD_not]at this
 have h:(Ib a b).testBit i=((SO (a:Int)).testBit i&&(decide (i<32) && !(SO (b:Int)).testBit i)):=this
 rw[wT d,wT e]at h
 rw[h]
 cases c:a.testBit i with
 |false=>simp
 |true=>simp[FB d c]
theorem HP (a b:Nat):uS .u32 (a:Int) (b:Int)=(Ib a b:Int):=NR _ (TP a b)
theorem Gk {a b:Nat} (c:a<4294967296) (d:b<4294967296):cD .u32 (a:Int) (b:Int)=((a &&& b:Nat):Int):=by rw[Hc,wT c,wT d]
theorem aaU {a b:Nat} (c:a<4294967296) (d:b<4294967296):Em .u32 (a:Int) (b:Int)=((a ||| b:Nat):Int):=by rw[YN,wT c,wT d]
theorem Qp {a b:Nat} (c:a<4294967296) (d:b<4294967296):a ||| b<4294967296:=Nat.or_lt_two_pow (n:=32) c d
theorem On {a b:Nat} (c:a<4294967296):a &&& b<4294967296:=Nat.lt_of_le_of_lt Nat.and_le_left c
theorem FA {a k:Nat} (c:a<4294967296) (b:k<32):Em .u32 (a:Int) (xS .u32 1 (k:Int))=((a ||| 2^k:Nat):Int):=by rw[Yg b,aaU c (ES b)]
theorem UG {a k:Nat} (d:k<32) (c:a<4294967296):cD .u32 (nZ .u32 (a:Int) (k:Int)) 1=0↔a.testBit k=false:=by
 have b:SO 1=1:=wT (a:=1) (by omega)
 rw[KO d,Hc,wT (Nat.lt_of_le_of_lt (Nat.div_le_self _ _) c),b,Nat.and_one_is_mod,Nat.testBit_eq_decide_div_mod_eq,decide_eq_false_iff_not]
 omega
theorem Af (p:Nat->Bool) {k:Nat} (a:k<=32):j_ p k<4294967296:=Nat.lt_of_lt_of_le (MR p k) (Nat.pow_le_pow_right (n:=2) (by omega) a)
theorem Lo {a b:Nat} (h:∀i,a.testBit i=b.testBit i):a=b:=Nat.eq_of_testBit_eq h
def Ol (q:Bool) (m v:Nat):Nat:=if q then m ||| 2^v else m
theorem Wk {q:Bool} {m v:Nat} (a:m<4294967296) (b:v<32):Ol q m v<4294967296:=by
 unfold Ol;split
 ·exact Qp a (ES b)
 ·exact a
theorem XG (m v:Nat):(m ||| 2^v) ||| 2^v=m ||| 2^v:=by rw[Nat.or_assoc,Nat.or_self]
theorem Js {i:Nat} (h:i<1000000):wI .i64 ((i:Int)+1)=(i:Int)+1:=wr (by omega) (by omega)

def vT (g:GR) (c:aT) (v i:Nat):Bool:=decide (val c v 0=at' (at' c (jJ (row g v) i).1) 0)
theorem VG.to {g:GR} (c:VG g) {v i:Nat} (e:v<g.2.length) (d:i<(row g v).length):∃u:Nat,u<g.2.length∧(jJ (row g v) i).1=(u:Int):=by
 obtain⟨u,a,b,_⟩:=c.port e d
 exact⟨u,a,b⟩

def gG:List Dg:=[(ByteArray.mk #[99],1,0,0,1,0)]
theorem aak:Bq 1000=some gG:=rfl
theorem QB:∀x,x<gG.length->Cc (at' gG (x:Int)):=by
 intro x a
 obtain rfl:x=0:=by simp[gG]at a;exact a
 exact⟨by decide,by decide,by decide⟩
theorem Yq {g:GR} (f:VG g) {c:aT}:G_ g c gG↔Cf g c [(g.2.length:Int)]:=by
 refine XK rfl fun v x h b a=> ?_
 obtain rfl:x=0:=by simp at b;exact b
 have d:at' gG ((0:Nat):Int)=(ByteArray.mk #[99],1,0,0,1,0):=rfl
 have e:at' [(g.2.length:Int)] ((0:Nat):Int)=(g.2.length:Int):=rfl
 rw[d,e]
 unfold lo hi Dp
 simp only[show¬((1:Int)=2) by decide,show¬((1:Int)=3) by decide,if_false]
 rw[if_neg (by omega)]
 omega
end
section
theorem Wl {n i:Nat}:(2^n - 1).testBit i=decide (i<n):=Nat.testBit_two_pow_sub_one n i

def GU:List Dg:=[(ByteArray.mk #[109],2,0,0,0,0)]
end
section
theorem Hr {a:Type} [Inhabited a] (l:List a) (x:a) {i:Nat} (b:i<l.length+1):at' (l++[x]) (i:Int)=if i<l.length then at' l (i:Int)else x:=by
 rw[iX,iX]
 by_cases h:i<l.length
 ·rw[if_pos h,List.getD_eq_getElem?_getD,List.getD_eq_getElem?_getD,List.getElem?_append_left h]
 ·have:i=l.length:=by omega
  subst this
  rw[if_neg h];simp
def SX (g:GR) (vars:List Dg) (v:Nat) (l:aL):Prop:=∀x,x<l.length->lo g (at' vars (x:Int)) v<=at' l (x:Int)∧at' l (x:Int)<=hi g (at' vars (x:Int)) v
theorem Rp {g:GR} (D:VG g) (vars:List Dg) (d:aL) (ht:vars.length<=900) (S:∀x,x<vars.length->Cc (at' vars (x:Int)) ∧ -100000<=(at' vars (x:Int)).2.2.1∧(at' vars (x:Int)).2.2.1<=(at' vars (x:Int)).2.2.2.1):
  OK (fun c=>G_ g c vars) (mJ 1000 g vars d):=by
 have O:=D.n24
 have A:=D.len
 have N:mJ 1000 g vars d=qD 1000 g vars d (gQ g g.2.length):=by
  unfold mJ
  refine dV (F:=fun k:Nat=>((gQ g k,(k:Int)):eK)) g.2.length (fun k u hk=> ?_) (fun u=> ?_) 1000 (by omega)
  ·unfold tZ
   simp only
   rw[if_pos (by omega),cP (by omega),wr (by omega) (by omega)]
   rfl
  ·unfold tZ
   simp only
   rw[if_neg (by omega)]
 rw[N]
 obtain⟨J,V⟩:=Ix D g.2.length (by omega)
 unfold qD
 have H:=rA (step:=jI 1000 g vars d (gQ g g.2.length)) (K:=fun x=>some x.1) g.2.length (fun v x=>x.2=(v:Int)∧x.1.length=v∧∀w,w<v->(at' x.1 (w:Int)).length=vars.length∧SX g vars w (at' x.1 (w:Int))) (fun v x u q o=> ?_) (fun x u o=> ?_) 1000 (([]:aT),(0:Int)) ⟨rfl,rfl,fun w T=>by omega⟩ (by omega)
 ·obtain⟨⟨c,i⟩,⟨_,p,n⟩,G⟩:=H
  exact⟨c,G,p,fun v q=>(n v q).1,fun v q x B=>(n v q).2 x (by rw[(n v q).1];exact B)⟩
 ·obtain⟨c,i⟩:=x
  obtain⟨rfl,p,n⟩:=o
  simp only at p n
  have I:(at' g.2 (v:Int)).length<g.2.length:=(D.node v q).deg
  unfold jI
  simp only
  rw[if_pos (by omega)]
  have C:=rA (step:=nJ 1000 g vars d (gQ g g.2.length) (c,(v:Int)) u) (K:=fun y=>u (c++[y.1],(v:Int)+1)) vars.length (fun x y=>y.2=(x:Int)∧y.1.length=x∧SX g vars v y.1) (fun x y h B o=> ?_) (fun y h o=> ?_) 1000 (([]:aL),(0:Int)) ⟨rfl,rfl,fun x B=>by simp at B⟩ (by omega)
  ·obtain⟨⟨l,j⟩,⟨_,f,s⟩,G⟩:=C
   refine⟨(c++[l],(v:Int)+1),⟨by simp,by simp[p],fun w T=> ?_⟩,G⟩
   simp only
   rw[Hr c l (by omega),p]
   by_cases e:w<v
   ·rw[if_pos e];exact n w e
   ·rw[if_neg e]
    have:w=v:=by omega
    subst this
    exact⟨f,s⟩
  ·obtain⟨l,j⟩:=y
   obtain⟨rfl,f,s⟩:=o
   simp only at f s
   obtain⟨⟨s1,L,M⟩,s4,s5⟩:=S x B
   have m:∀a b:Int,a=lo g (at' vars (x:Int)) v->b=hi g (at' vars (x:Int)) v -> -100000<=a->a<=b+1->b<=100000000->(a<=b∨(a = -1∧b = -1))->∃E,(E.2=((x+1:Nat):Int)∧E.1.length=x+1∧SX g vars v E.1)∧nH 1000 vars d (c,(v:Int)) (l,(x:Int)) h (a,b)=h E:=by
    intro a b P R W X Y Z
    have Q:a<=b:=by omega
    unfold nH
    simp only
    have w1:wI .i64 ((v:Int)*(vars.length:Int))=(v:Int)*(vars.length:Int):=by
     have p1:0<=(v:Int)*(vars.length:Int):=Int.mul_nonneg (by omega) (by omega)
     have p2:(v:Int)*(vars.length:Int)<=24*900:=Int.mul_le_mul (by omega) (by omega) (by omega) (by omega)
     exact wr (by omega) (by omega)
    have p1:0<=(v:Int)*(vars.length:Int):=Int.mul_nonneg (by omega) (by omega)
    have p2:(v:Int)*(vars.length:Int)<=24*900:=Int.mul_le_mul (by omega) (by omega) (by omega) (by omega)
    rw[w1,wr (x:=(v:Int)*(vars.length:Int)+(x:Int)) (by omega) (by omega),Mv _ _ (by omega),bA rfl,wr (x:=b - a) (by omega) (by omega),wr (x:=b - a+1) (by omega) (by omega),sB _ _ (by omega) (by omega),bA rfl]
    have r1:=Int.emod_nonneg (at' d ((v:Int)*(vars.length:Int)+(x:Int))) (b:=b - a+1) (by omega)
    have r2:=Int.emod_lt_of_pos (at' d ((v:Int)*(vars.length:Int)+(x:Int))) (b:=b - a+1) (by omega)
    generalize at' d ((v:Int)*(vars.length:Int)+(x:Int))%(b - a+1)=r at r1 r2
    rw[wr (x:=a+r) (by omega) (by omega),cP (by simp;omega),wr (by omega) (by omega)]
    refine⟨_,⟨by simp,by simp[f],fun z U=> ?_⟩,rfl⟩
    simp only[List.length_append,List.length_cons,List.length_nil,f]at U
    simp only
    rw[Hr l _ (by omega),f]
    by_cases e:z<x
    ·rw[if_pos e];exact s z (by omega)
    ·rw[if_neg e]
     have:z=x:=by omega
     subst this
     rw[<-P,<-R];omega
   unfold nJ
   simp only
   rw[if_pos (by omega),cP (by omega),cP (by omega),cP (by omega),cP (by omega),cP (by omega)]
   by_cases t2:(at' vars (x:Int)).2.1=2
   ·rw[if_pos t2]
    exact m 0 1 (by unfold lo;rw[if_pos t2]) (by unfold hi;rw[if_pos t2]) (by omega) (by omega) (by omega) (by omega)
   ·rw[if_neg t2]
    by_cases t:(at' vars (x:Int)).2.1=3
    ·rw[if_pos t,cP (by omega),wr (by omega) (by omega)]
     exact m (-1) _ (by unfold lo;rw[if_neg t2,if_pos t]) (by unfold hi;rw[if_neg t2,if_pos t]) (by omega) (by omega) (by omega) (by omega)
    ·rw[if_neg t]
     have W:0<=(at' vars (x:Int)).2.2.2.2.1*(g.2.length:Int):=Int.mul_nonneg L.1 (by omega)
     have X:(at' vars (x:Int)).2.2.2.2.1*(g.2.length:Int)<=100000*24:=Int.mul_le_mul L.2 (by omega) (by omega) (by omega)
     have Y:0<=(at' vars (x:Int)).2.2.2.2.2*gQ g g.2.length:=Int.mul_nonneg M.1 J
     have Z:(at' vars (x:Int)).2.2.2.2.2*gQ g g.2.length<=100000*255:=Int.mul_le_mul M.2 V J (by omega)
     rw[wr (x:=(at' vars (x:Int)).2.2.2.2.1*(g.2.length:Int)) (by omega) (by omega),wr (x:=(at' vars (x:Int)).2.2.2.2.2*gQ g g.2.length) (by omega) (by omega),wr (x:=(at' vars (x:Int)).2.2.2.1+(at' vars (x:Int)).2.2.2.2.1*(g.2.length:Int)) (by omega) (by omega),wr (by omega) (by omega)]
     exact m _ _ (by unfold lo;rw[if_neg t2,if_neg t]) (by unfold hi;rw[if_neg t2,if_neg t,A]) (by omega) (by omega) (by omega) (by omega)
  ·obtain⟨l,j⟩:=y
   obtain⟨rfl,f,s⟩:=o
   simp only at f s
   unfold nJ yA
   simp only
   rw[if_neg (by omega),cP (by simp;omega),wr (by omega) (by omega)]
 ·obtain⟨c,i⟩:=x
  obtain⟨rfl,p,n⟩:=o
  unfold jI tY
  simp only
  rw[if_neg (by omega)]
end
section
def Jf (g:GR) (s r v:Nat):Prop:=∃f,s.testBit f=true∧∃m,m<=r∧BR g f m v
theorem Jf.lt {g:GR} (a:VG g) {s r v:Nat} (h:Jf g s r v):v<g.2.length:=by
 obtain⟨f,_,m,_,b⟩:=h
 exact BR.lt a b
theorem BR.from {g:GR} {s:Nat}:∀{k v:Nat},BR g s k v->s<g.2.length
 |0,_,h=>h.2
 |_+1,_,h=>by obtain⟨u,a,_⟩:=h;exact BR.from a
theorem JF {g:GR} {s v:Nat}:Jf g s 0 v↔s.testBit v=true∧v<g.2.length:=by
 constructor
 ·rintro⟨f,c,m,e,d⟩
  obtain rfl:m=0:=by omega
  obtain⟨rfl,h⟩:=d
  exact⟨c,h⟩
 ·rintro⟨a,b⟩
  exact⟨v,a,0,by omega,rfl,b⟩
theorem JE {g:GR} (c:VG g) {s r v:Nat}:Jf g s (r+1) v↔Jf g s r v∨(v<g.2.length∧∃u,El g v u∧Jf g s r u):=by
 constructor
 ·rintro⟨f,a,m,i,b⟩
  by_cases h:m<=r
  ·exact .inl ⟨f,a,m,h,b⟩
  ·obtain⟨k,rfl⟩:∃k,m=k+1:=⟨m - 1,by omega⟩
   obtain⟨u,d,e⟩:=b
   have j:=BR.lt c d
   exact .inr ⟨c.adj_lt j e,u,c.back j e,f,a,k,by omega,d⟩
 ·rintro(⟨f,a,m,i,b⟩|⟨n,u,l,f,a,m,i,b⟩)
  ·exact⟨f,a,m,by omega,b⟩
  ·exact⟨f,a,m+1,by omega,u,b,c.back n l⟩
structure Nr (g:GR) (s k:Nat) (l:aL):Prop where
 len:l.length=g.2.length
 lo:∀v,v<g.2.length -> -1<=D l v
 hi:∀v,v<g.2.length->D l v<=(g.2.length:Int)
 near:∀v,v<g.2.length->0<=D l v->∃f,f<k∧s.testBit f=true∧BR g f (D l v).toNat v
 le:∀v f m,f<k->s.testBit f=true->BR g f m v->0<=D l v∧D l v<=m
theorem Nr.ball {g:GR} (i:VG g) {s:Nat} {l:aL} (h:Nr g s g.2.length l) {v r:Nat} (d:v<g.2.length):(0<=D l v∧D l v<=(r:Int))↔Jf g s r v:=by
 constructor
 ·rintro⟨c,e⟩
  obtain⟨f,j,b,a⟩:=h.near v d c
  exact⟨f,b,_,by omega,a⟩
 ·rintro⟨f,b,m,k,a⟩
  have:=h.le v f m (BR.from a) b a
  omega
end
section
def low (a b:Int):Int:=if 0<=b∧(a<0∨b<a)then b else a
theorem Nr.skip {g:GR} {s k:Nat} {l:aL} (h:Nr g s k l) (a:s.testBit k=false):Nr g s (k+1) l where
 len:=h.len
 lo:=h.lo
 hi:=h.hi
 near v hv h0:=by
  obtain⟨f,b,r⟩:=h.near v hv h0
  exact⟨f,by omega,r⟩
 le v f m b hbf hw:=by
  by_cases e:f=k
  ·subst e;rw[a]at hbf;cases hbf
  ·exact h.le v f m (by omega) hbf hw
theorem Nr.step {g:GR} (c:VG g) {s k:Nat} {l j d:aL} (h:Nr g s k l) (n:s.testBit k=true) (i:Dd g k d) (p:j.length=g.2.length) (b:∀v,v<g.2.length->D j v=low (D l v) (D d v)):Nr g s (k+1) j where
 len:=p
 lo v a:=by
  have:=h.lo v a
  rw[b v a];unfold low;split<;>omega
 hi v a:=by
  have:=h.hi v a
  have:=i.hi v a
  rw[b v a];unfold low;split<;>omega
 near v a h0:=by
  rw[b v a]at h0 ⊢
  unfold low at h0 ⊢
  by_cases hc:0<=D d v∧(D l v<0∨D d v<D l v)
  ·rw[if_pos hc]at h0 ⊢
   exact⟨k,by omega,n,Dd.pos c i a hc.1⟩
  ·rw[if_neg hc]at h0 ⊢
   obtain⟨f,o,r⟩:=h.near v a h0
   exact⟨f,by omega,r⟩
 le v f m o hbf hw:=by
  have a:=BR.lt c hw
  rw[b v a]
  unfold low
  by_cases e:f=k
  ·subst e
   have:=Dd.le c i hw
   split<;>omega
  ·have:=h.le v f m (by omega) hbf hw
   split<;>omega
theorem Nr.start {g:GR} {s:Nat} {l:aL} (a:l.length=g.2.length) (h:∀v,v<g.2.length->D l v = -1):Nr g s 0 l where
 len:=a
 lo v hv:=by rw[h v hv];omega
 hi v hv:=by rw[h v hv];omega
 near v hv h0:=by rw[h v hv]at h0;omega
 le v f m hf:=by omega
theorem Jl {g:GR} (H:VG g) {k:Nat} {l d:aL} (P:k<g.2.length) (M:l.length=g.2.length) (I:Dd g k d) (t:rI->Option aL):
  ∃E,E.length=g.2.length∧(∀v,v<g.2.length->D E v=low (D l v) (D d v))∧bJ (dK ((k:Int),l) t d) 1000 ((0:Int),l)=t ((k:Int)+1,E):=by
 have G:=H.n24
 have J:=I.len
 have C:=rA (step:=dK ((k:Int),l) t d) (K:=fun x=>t ((k:Int)+1,x.2)) g.2.length
  (fun i x=>x.1=(i:Int)∧x.2.length=g.2.length∧∀v,v<g.2.length->D x.2 v=if v<i then low (D l v) (D d v)else D l v)
  (fun i x w L z=> ?_) (fun x w z=> ?_) 1000 ((0:Int),l) ⟨rfl,M,fun v o=>by rw[if_neg (by omega)]⟩ (by omega)
 ·obtain⟨O,⟨N,A,B⟩,e⟩:=C
  exact⟨O.2,A,fun v o=>by rw[B v o,if_pos o],e⟩
 ·obtain⟨a,b⟩:=x
  obtain⟨r,u,s⟩:=z
  dsimp only at r u s
  subst r
  have m:D b i=D l i:=by rw[s i L,if_neg (by omega)]
  have f:at' b (i:Int)=at' l (i:Int):=m
  by_cases hc:0<=D d i∧(D l i<0∨D d i<D l i)
  ·refine⟨((i:Int)+1,b.set i (D d i)),⟨by push_cast;rfl,by simp[u],fun v o=> ?_⟩,?_⟩
   ·show at' (b.set i (D d i)) (v:Int)=_
    rw[sL _ _ _ _ (by omega)]
    by_cases e:v=i
    ·subst e;rw[if_pos rfl,if_pos (by omega)];unfold low;rw[if_pos hc]
    ·rw[if_neg e]
     have:=s v o
     by_cases q:v<i
     ·rw[if_pos (by omega)];rw[if_pos q]at this;exact this
     ·rw[if_neg (by omega)];rw[if_neg q]at this;exact this
   ·unfold dK gF gE
    obtain⟨p,F⟩:=hc
    have h:0<=at' d (i:Int):=p
    dsimp only
    rw[if_pos (by omega),cP (by omega),if_pos h,cP (by omega)]
    by_cases y:D l i<0
    ·have j:at' l (i:Int)<0:=y
     rw[f,if_pos j,if_pos rfl,cP (by omega),Js (by omega)];rfl
    ·have j:¬at' l (i:Int)<0:=y
     have n:at' d (i:Int)<at' l (i:Int):=by rcases F with c|c;exact absurd c y;exact c
     rw[f,if_neg j,cP (by omega),decide_eq_true n,if_pos rfl,cP (by omega),Js (by omega)];rfl
  ·refine⟨((i:Int)+1,b),⟨by push_cast;rfl,u,fun v o=> ?_⟩,?_⟩
   ·have:=s v o
    by_cases e:v=i
    ·subst e;rw[if_pos (by omega)];unfold low;rw[if_neg hc];exact m
    ·by_cases q:v<i
     ·rw[if_pos (by omega)];rw[if_pos q]at this;exact this
     ·rw[if_neg (by omega)];rw[if_neg q]at this;exact this
   ·unfold dK gF gE
    dsimp only
    rw[if_pos (by omega),cP (by omega)]
    by_cases p:0<=D d i
    ·have h:0<=at' d (i:Int):=p
     have j:¬at' l (i:Int)<0:=fun c=>hc ⟨p,.inl c⟩
     have n:¬at' d (i:Int)<at' l (i:Int):=fun c=>hc ⟨p,.inr c⟩
     rw[if_pos h,cP (by omega),f,if_neg j,cP (by omega),decide_eq_false n,if_neg (by simp),Js (by omega)]
    ·have h:¬0<=at' d (i:Int):=p
     rw[if_neg h,if_neg (by simp),Js (by omega)]
 ·obtain⟨a,b⟩:=x
  obtain⟨r,u,s⟩:=z
  dsimp only at r
  subst r
  unfold dK gC
  dsimp only
  rw[if_neg (by omega),Js (by omega)]
theorem OP {g:GR} (o:VG g) {s:Nat} (E:s<4294967296):∃l,jU 1000 g (s:Int)=some l∧Nr g s g.2.length l:=by
 have H:=o.n24
 have q:g.1.length=g.2.length:=o.len
 have L:(List.replicate (Int.toNat (g.1.length:Int)) (0:Int)).length=g.2.length:=by simp[q]
 have r:∀w,Nr g s 0 w->∃l,Nr g s g.2.length l∧bJ (cM 1000 g (s:Int)) 1000 ((0:Int),w)=some l:=by
  intro w G
  have m:=rA (step:=cM 1000 g (s:Int)) (K:=fun x=>some x.2) g.2.length (fun k x=>x.1=(k:Int)∧Nr g s k x.2) (fun k x t z j=> ?_) (fun x t j=> ?_) 1000 ((0:Int),w) ⟨rfl,G⟩ (by omega)
  ·obtain⟨B,⟨_,h⟩,e⟩:=m
   exact⟨B.2,h,e⟩
  ·obtain⟨a,b⟩:=x
   obtain⟨f,i⟩:=j
   dsimp only at f i
   subst f
   by_cases u:s.testBit k=true
   ·obtain⟨d,I,C⟩:=KZ o z
    obtain⟨N,A,y,e⟩:=Jl o z i.len C t
    refine⟨((k:Int)+1,N),⟨by push_cast;rfl,Nr.step o i u C A y⟩,?_⟩
    unfold cM
    dsimp only
    rw[if_pos (by omega),cP (by omega),if_neg (fun c=>by rw[(UG (by omega) E).1 c]at u;cases u)]
    show Option.bind (nU 1000 g (k:Int)) _=_
    rw[I,bA rfl]
    exact e
   ·have p:s.testBit k=false:=by simpa using u
    refine⟨((k:Int)+1,b),⟨by push_cast;rfl,Nr.skip i p⟩,?_⟩
    unfold cM gC
    dsimp only
    rw[if_pos (by omega),cP (by omega),if_pos ((UG (by omega) E).2 p),Js (by omega)]
  ·obtain⟨a,b⟩:=x
   obtain⟨f,i⟩:=j
   dsimp only at f
   subst f
   unfold cM lI
   dsimp only
   rw[if_neg (by omega)]
 unfold jU
 rw[cP (by omega)]
 have m:=rA (step:=iZ 1000 g (s:Int)) (K:=fun x=>lH 1000 g (s:Int) x.2) g.2.length
  (fun k x=>x.1=(k:Int)∧x.2.length=g.2.length∧∀v,v<k->D x.2 v = -1) (fun k x t z j=> ?_) (fun x t j=> ?_) 1000 ((0:Int),List.replicate (Int.toNat (g.1.length:Int)) (0:Int)) ⟨rfl,L,fun v M=>by omega⟩ (by omega)
 ·obtain⟨B,⟨_,i,n⟩,e⟩:=m
  obtain⟨l,J,F⟩:=r B.2 (Nr.start i n)
  exact⟨l,by rw[e];exact F,J⟩
 ·obtain⟨a,b⟩:=x
  obtain⟨f,i,n⟩:=j
  dsimp only at f i n
  subst f
  refine⟨((k:Int)+1,b.set k (-1)),⟨by push_cast;rfl,by simp[i],fun v M=> ?_⟩,?_⟩
  ·show at' (b.set k (-1)) (v:Int) = -1
   rw[sL _ _ _ _ (by omega)]
   by_cases e:v=k
   ·rw[if_pos e]
   ·rw[if_neg e];exact n v (by omega)
  ·unfold iZ
   dsimp only
   rw[if_pos (by omega),cP (by omega),Js (by omega)]
   rfl
 ·obtain⟨a,b⟩:=x
  obtain⟨f,i,n⟩:=j
  dsimp only at f
  subst f
  unfold iZ
  dsimp only
  rw[if_neg (by omega)]
theorem RX {g:GR} (hV:VG g) {s r:Nat} (hs:s<4294967296):∃m:Nat,m<4294967296∧kK 1000 g (s:Int) (r:Int)=some (m:Int)∧∀v,m.testBit v=true↔Jf g s r v:=by
 have h24:=hV.n24
 obtain⟨l,hl,hN⟩:=OP hV hs
 have hll:=hN.len
 let p:Nat->Bool:=fun v=>decide (0<=D l v∧D l v<=(r:Int))
 refine⟨j_ p g.2.length,Af p (by omega),?_,fun v=> ?_⟩
 ·unfold kK mR
  rw[(Gd g).1 hV,bA rfl,if_neg (by simp),decide_eq_false (by omega),if_neg (by simp)]
  show Option.bind (jU 1000 g (s:Int)) _=_
  rw[hl,bA rfl]
  refine dV (F:=fun v:Nat=>(((j_ p v:Nat):Int),(v:Int))) g.2.length (fun v ag hv=> ?_) (fun ag=> ?_) 1000 (by omega)
  ·have hm:=Af p (k:=v) (by omega)
   unfold gT mT jR
   dsimp only
   rw[if_pos (by omega),cP (by omega)]
   by_cases c1:0<=D l v
   ·have c1':0<=at' l (v:Int):=c1
    rw[if_pos c1']
    by_cases c2:D l v<=(r:Int)
    ·have c2':at' l (v:Int)<=(r:Int):=c2
     have hp:p v=true:=decide_eq_true ⟨c1,c2⟩
     rw[decide_eq_true c2',if_pos rfl,cP (by omega),FA hm (by omega),Js (by omega)]
     simp[j_,hp]
    ·have c2':¬at' l (v:Int)<=(r:Int):=c2
     have hp:p v=false:=decide_eq_false (fun c=>c2 c.2)
     rw[decide_eq_false c2',if_neg (by simp),Js (by omega)]
     simp[j_,hp]
   ·have c1':¬0<=at' l (v:Int):=c1
    have hp:p v=false:=decide_eq_false (fun c=>c1 c.1)
    rw[if_neg c1',if_neg (by simp),Js (by omega)]
    simp[j_,hp]
  ·unfold gT mS
   dsimp only
   rw[if_neg (by omega)]
 ·rw[AL]
  constructor
  ·intro h
   rw[Bool.and_eq_true,decide_eq_true_eq]at h
   exact(hN.ball hV h.1).1 (of_decide_eq_true h.2)
  ·intro h
   have hv:=h.lt hV
   rw[Bool.and_eq_true,decide_eq_true_eq]
   exact⟨hv,decide_eq_true ((hN.ball hV hv).2 h)⟩
end
end Go.Proofs.YtjlbcgddhnjcjaaGreatDoor
end
end
section
namespace Go.Proofs.YtjlbcgddhnjcjaaGreatDoor
open Go.Sx
def rQ  (a:aL):Option aL:=
 some (a)
def rR (a:rI) (c:yE->Option aL) (b:aL):Option aL:=
 c ((wI .i64 (a.1+(1:Int))),b)
def oS (p0:cU) (a:rI) (d:yE->Option aL) (b:rI) (c:yE->Option aL):Option aL:=
 if b.1<(List.length (at' p0.2 a.1):Int)then(ck (0<=b.1∧b.1<(List.length (at' p0.2 a.1):Int)) (ck (0<=a.1∧a.1<(List.length b.2:Int)) (ck (0<=((at' (at' p0.2 a.1) b.1).1)) (ck (0<=a.1∧a.1<(List.length b.2:Int)) (c ((wI .i64 (b.1+(1:Int))),(List.set b.2 (Int.toNat a.1) (Em .u32 (at' b.2 a.1) (xS .u32 (1:Int) ((at' (at' p0.2 a.1) b.1).1))))))))))else(rR a d (b.2))
def jX (U:Nat) (p0:cU) (a:rI) (b:yE->Option aL):Option aL:=
 if a.1<(List.length p0.2:Int)then(ck (0<=a.1∧a.1<(List.length p0.2:Int)) (bJ (oS p0 a b) U ((0:Int),a.2)))else(rQ  (a.2))
def g_ (U:Nat) (p0:cU):Option aL:=
 ck (0<=(List.length p0.2:Int)∧(List.length p0.2:Int)<=1099511627) (bJ (jX U p0) U ((0:Int),(List.replicate (Int.toNat (List.length p0.2:Int)) (0:Int))))
theorem Pz:aP Tryz.prog 103:=Tryz.call103
theorem BK (U:Nat) {p0:cU} (v0:Value)  (v1:Value)  (z2:lW) (r:aL) (h:g_ U p0=some r):
  aU Tryz.prog 103 #[Value.agg #[v0,v1]] [Sl bI v0 p0.1,S2 aY v1 z2 p0.2] (fun x:Value=>x) (fun x l=>Ar gK x r::l) (fun _ l=>l):=by
 refine aU.of Tryz.func103 rfl Tryz.ntmps103 rfl fun c=>?_
 refine sqR<|aF (aI.box (cs:=[v0,v1]) rfl rfl) rfl fun b1=>qkAsg rfl<|dtN<|sqR<|qkFld rfl<|qkLd 0 rfl<|aA (iW rfl (aB.fact 1 rfl) rfl) rfl<|ckE h fun j2 h=>aF (pN (e:=gK) (0:Int) rfl rfl rfl rfl j2 rfl rfl rfl) rfl fun u3=>qkAsg rfl<|dtN<|aG<|midU (fun a5=>rQ  a5=some r) (fun a5 b6=>[(3,u3)]) (fun a5 b6=>[Ar gK u3 a5]) ?_ ?_
 ·refine sqR<|qkFld rfl<|qkLd 1 rfl<|aA (iW rfl (aB.fact 1 rfl) rfl) rfl<|qkMove rfl<|dtN<|aN<|loopL (jX U p0) (fun a10 b11=>[(3,u3),(13,v1),(14,vI (List.length p0.2:Int)),(15,vI (a10.1))]) (fun a10 b11=>[Ar gK u3 a10.2]) ((0:Int),(List.replicate (Int.toNat (List.length p0.2:Int)) (0:Int))) () h SF (aR.ix [0] rfl rfl) ?_
  intro k12 a10 b11 h
  refine sqR<|qkLss rfl<|dtN<|aG ?_
  refine eT h rfl (fun h=>?_) fun h=>?_
  ·refine cJ<|aG<|midU (fun a15=>rR a10 (bJ (jX U p0) k12) a15=some r) (fun a15 b16=>[(3,u3),(13,v1),(14,vI (List.length p0.2:Int)),(15,vI (a10.1))]) (fun a15 b16=>[Ar gK u3 a15]) ?_ ?_
   ·refine aN<|sqR<|qkMove rfl<|ckE h fun j17 h=>aA (cY rfl rfl (aB.fact 1 rfl) rfl rfl j17) rfl<|aA (cW rfl (aB.fact 1 rfl) rfl rfl j17) rfl<|qkAsg rfl<|qkAsg rfl<|dtN<|sqR<|qkMove rfl<|aA (fR rfl (aB.el (aB.fact 1 rfl) j17.1 j17.2) rfl) rfl<|qkMove rfl<|dtN<|aN<|loopL (oS p0 a10 (bJ (jX U p0) k12)) (fun a21 b22=>[(3,u3),(4,vI (a10.1)),(13,v1),(14,vI (List.length p0.2:Int)),(15,vI (a10.1)),(20,(at' z2 a10.1).1),(21,vI (List.length (at' p0.2 a10.1):Int)),(22,vI (a21.1))]) (fun a21 b22=>[Ar gK u3 a21.2]) ((0:Int),a10.2) () h SF (aR.refl _) ?_
    intro k23 a21 b22 h
    refine sqR<|qkLss rfl<|dtN<|aG ?_
    refine eT h rfl (fun h=>?_) fun h=>?_
    ·refine cJ<|aG<|aN<|sqR<|ckE h fun j25 h=>aA (a_ rfl rfl (aB.el (aB.fact 1 rfl) j17.1 j17.2) rfl rfl j25) rfl<|aA (iA (cs:=[vI ((at' (at' p0.2 a10.1) a21.1).1),vI ((at' (at' p0.2 a10.1) a21.1).2)]) rfl (aB.el (aB.fact 1 rfl) j17.1 j17.2) bN rfl rfl rfl rfl j25) rfl<|aF (aI.alloc (cs:=QK) rfl rfl) rfl fun b26=>bE 0 (vs:=[vI ((at' (at' p0.2 a10.1) a21.1).1),vI ((at' (at' p0.2 a10.1) a21.1).2)]) rfl rfl rfl rfl rfl rfl<|dtN ?_
     refine JR.start [0,0,3,7,0,16,48,127,255,511] 7 mixedOrders (by decide +kernel) ?_
     refine JR.open (by exact rfl) ?_
     refine jkMove rfl<|jkMove rfl<|ckE h fun j27 h=>bG rfl (aR.cons 1 rfl .nil) .nil (a_ rfl rfl (aO (aB.res 0 rfl) fJ) rfl rfl j27) aK.z<|bG rfl (aR.cons 1 rfl .nil) .nil (bV rfl (aO (aB.res 0 rfl) fJ) rfl rfl rfl Am j27) aK.z<|jkFld rfl<|jkLd 0 rfl<|ckE h fun j28 h=>jqN rfl (Gj rfl rfl j28)<|bD 7 rfl rfl<|aA (Mq rfl rfl) rfl<|ckE h fun j29 h=>aA (a_ rfl rfl (aO (aB.res 1 rfl) fJ) rfl rfl j29) rfl<|xH 1 (Em .u32 (at' a21.2 a10.1) (xS .u32 (1:Int) ((at' (at' p0.2 a10.1) a21.1).1))) j29 rfl rfl rfl rfl rfl rfl rfl<|dN<|inT<|aM<|qkAdd rfl<|qkMove rfl<|dtN ?_
     exact kZ ((wI .i64 (a21.1+(1:Int))),(List.set a21.2 (Int.toNat a10.1) (Em .u32 (at' a21.2 a10.1) (xS .u32 (1:Int) ((at' (at' p0.2 a10.1) a21.1).1))))) () h SF (aR.ix [1] rfl rfl) (aD.refl _ _)
    refine oK<|dJ<|dJ<|uF<|inT ?_
    exact gR (a21.2) () h SF rfl
   intro a15 b16 h
   unfold rR at h
   refine aM<|qkAdd rfl<|qkMove rfl<|dtN ?_
   exact yX ((wI .i64 (a10.1+(1:Int))),a15) () h SF rfl
  refine fM ?_
  exact gR (a10.2) () h SF rfl
 intro a5 b6 h
 unfold rQ at h
 refine sqR<|qkMove rfl<|qkAsg rfl<|dtN<|aQ ?_
 cases h
 exact gY (u3) rfl rfl (RV.tmp rfl) (aR.refl _) aD.nil
end Go.Proofs.YtjlbcgddhnjcjaaGreatDoor
end
section
namespace Go.Proofs.YtjlbcgddhnjcjaaGreatDoor
open Go Go.Sx
section
structure QZ (m k:Nat):Prop where
 bit:m.testBit k=true
 low:∀j,j<k->m.testBit j=false
theorem Iv {m:Nat} (h:m≠0):∃k,QZ m k:=by
 obtain⟨i,c⟩:=Nat.exists_testBit_of_ne_zero h
 obtain⟨k,_,a,b⟩:=JX (p:=fun i=>m.testBit i=true) i c
 exact⟨k,a,fun j d=>by simpa using b j d⟩
theorem Nh {m k:Nat} (h:QZ m k) (i:Nat):(m - 1).testBit i=if i<k then true else if i=k then false else m.testBit i:=by
 have b:m=2^(k+1)*(m / 2^(k+1))+2^k:=by
  refine Nat.eq_of_testBit_eq fun i=> ?_
  have a:2^k<2^(k+1):=Nat.pow_lt_pow_right (by omega) (by omega)
  rw[Nat.testBit_two_pow_mul_add _ a,Nat.testBit_two_pow,Nat.testBit_div_two_pow]
  rcases Nat.lt_trichotomy i k with q|q|q
  ·rw[if_pos (by omega),h.low i q,decide_eq_false (by omega)]
  ·subst q;rw[if_pos (by omega),h.bit,decide_eq_true rfl]
  ·rw[if_neg (by omega),show i - (k+1)+(k+1)=i by omega]
 have c:0<2^k:=Nat.pow_pos (by omega)
 have a:2^k - 1<2^(k+1):=by rw[Nat.pow_succ];omega
 have e:m - 1=2^(k+1)*(m / 2^(k+1))+(2^k - 1):=by omega
 rw[e,Nat.testBit_two_pow_mul_add _ a,Nat.testBit_two_pow_sub_one,Nat.testBit_div_two_pow]
 rcases Nat.lt_trichotomy i k with q|q|q
 ·rw[if_pos (by omega),if_pos q,decide_eq_true q]
 ·subst q;rw[if_pos (by omega),if_neg (by omega),if_pos rfl,decide_eq_false (by omega)]
 ·rw[if_neg (by omega),if_neg (by omega),if_neg (by omega),show i - (k+1)+(k+1)=i by omega]
theorem aez {m:Nat} (b:m<4294967296) (a:m≠0):wI .u32 (0 - (m:Int))=((4294967296 - m:Nat):Int):=by
 rw[DK]
 have:IntKind.u32.wrap (0 - (m:Int))=(0 - (m:Int))%4294967296:=rfl
 rw[this];omega
theorem abz {m:Nat} (b:m<4294967296) (a:m≠0):wI .u32 ((m:Int) - 1)=((m - 1:Nat):Int):=by
 rw[show(m:Int) - 1=((m - 1:Nat):Int) by omega,DK,NR _ (by omega)]
theorem ZN {m k:Nat} (a:m<4294967296) (h:QZ m k):cD .u32 (m:Int) (wI .u32 (0 - (m:Int)))=((2^k:Nat):Int):=by
 have b:m≠0:=fun e=>by have:=h.bit;rw[e]at this;simp at this
 have c:k<32:=FB a h.bit
 rw[aez a b,Gk a (by omega)]
 congr 1
 refine Nat.eq_of_testBit_eq fun i=> ?_
 rw[Nat.testBit_and,show 4294967296 - m=2^32 - ((m - 1)+1) by omega,Nat.testBit_two_pow_sub_succ (by omega),Nat.testBit_two_pow,Nh h]
 rcases Nat.lt_trichotomy i k with q|q|q
 ·rw[h.low i q,decide_eq_false (show¬k=i by omega)];rfl
 ·subst q;rw[h.bit,if_neg (by omega),if_pos rfl,decide_eq_true c,decide_eq_true rfl];rfl
 ·rw[if_neg (by omega),if_neg (by omega),decide_eq_false (show¬k=i by omega)]
  cases m.testBit i<;>simp
theorem Ou {m k:Nat} (a:m<4294967296) (h:QZ m k):∃b:Nat,cD .u32 (m:Int) (wI .u32 ((m:Int) - 1))=(b:Int)∧b<4294967296∧∀i,b.testBit i=(m.testBit i&&decide (i≠k)):=by
 have c:m≠0:=fun e=>by have:=h.bit;rw[e]at this;simp at this
 refine⟨m &&& (m - 1),by rw[abz a c,Gk a (by omega)],On a,fun i=> ?_⟩
 rw[Nat.testBit_and,Nh h]
 rcases Nat.lt_trichotomy i k with q|q|q
 ·rw[h.low i q];rfl
 ·subst q;simp
 ·rw[if_neg (by omega),if_neg (by omega)]
  have:decide (i≠k)=true:=decide_eq_true (by omega)
  rw[this];cases m.testBit i<;>rfl
theorem aah:∀k:Fin 32,((0:Int)<=nZ .u32 (wI .u32 ((((2^k.val:Nat):Int))*125613361)) 27∧nZ .u32 (wI .u32 ((((2^k.val:Nat):Int))*125613361)) 27<((32:Nat):Int))∧wI .i64 (at' oA (nZ .u32 (wI .u32 ((((2^k.val:Nat):Int))*125613361)) 27))=(k.val:Int):=by decide +kernel
theorem Yu (f:Nat) {m k:Nat} (a:m<4294967296) (h:QZ m k):i_ f (m:Int)=some (k:Int):=by
 have d:m≠0:=fun e=>by have:=h.bit;rw[e]at this;simp at this
 obtain⟨b,c⟩:=aah ⟨k,FB a h.bit⟩
 unfold i_
 rw[if_neg (by omega),cP (by decide),ZN a h,cP ⟨b,rfl⟩,c]

structure Ma (g:GR) (r:aL):Prop where
 len:r.length=g.2.length
 at':∀v:Nat,v<g.2.length->∃m:Nat,Go.Sx.at' r (v:Int)=(m:Int)∧m<4294967296∧∀u,m.testBit u=true↔El g v u
theorem UE {g:GR} (I:VG g):∃r,g_ 1000 g=some r∧Ma g r:=by
 have R:=I.n24
 unfold g_
 rw[cP (by omega)]
 obtain⟨⟨a,r⟩,⟨y,B,C⟩,J⟩:=rA (step:=jX 1000 g) (K:=fun z=>some z.2) g.2.length
  (fun k z=>z.1=(k:Int)∧z.2.length=g.2.length∧∀v:Nat,v<g.2.length->∃m:Nat,Go.Sx.at' z.2 (v:Int)=(m:Int)∧m<4294967296∧∀u,m.testBit u=true↔v<k∧El g v u) (fun k z E M G=>by
  obtain⟨a,r⟩:=z
  obtain⟨y,B,C⟩:=G
  dsimp only at y B C
  subst y
  have O:=(I.node k M).deg
  obtain⟨⟨b,U⟩,⟨s,d,c⟩,J⟩:=rA (step:=oS g ((k:Int),r) E) (K:=fun z=>E (((k+1:Nat):Int),z.2)) (row g k).length
   (fun j z=>z.1=(j:Int)∧z.2.length=g.2.length∧∀v:Nat,v<g.2.length->∃m:Nat,Go.Sx.at' z.2 (v:Int)=(m:Int)∧m<4294967296∧∀u,m.testBit u=true↔(v<k∧El g v u)∨(v=k∧∃i,i<j∧(jJ (row g k) i).1=(u:Int))) (fun j z F S H=>by
   obtain⟨b,q⟩:=z
   obtain⟨s,d,c⟩:=H
   dsimp only at s d c
   subst s
   obtain⟨w,V,x,N⟩:=I.port M S
   obtain⟨m,T,l,t⟩:=c k M
   refine⟨(((j+1:Nat):Int),q.set k (((m ||| 2^w:Nat)):Int)),⟨rfl,by simpa using d,fun v f=> ?_⟩,?_⟩
   ·show∃P,Go.Sx.at' (q.set k _) (v:Int)=_∧_
    rw[sL q k v _ (by omega)]
    by_cases e:v=k
    ·subst e
     refine⟨_,if_pos rfl,Qp l (ES (by omega)),fun u=> ?_⟩
     rw[Nat.testBit_or,Nat.testBit_two_pow,Bool.or_eq_true,t u,decide_eq_true_eq]
     constructor
     ·rintro((h|⟨_,i,A,h⟩)|h)
      ·exact .inl h
      ·exact .inr ⟨rfl,i,by omega,h⟩
      ·exact .inr ⟨rfl,j,by omega,by rw[x,h]⟩
     ·rintro(h|⟨_,i,A,h⟩)
      ·exact .inl (.inl h)
      ·by_cases L:i=j
       ·subst L;right;rw[x]at h;omega
       ·exact .inl (.inr ⟨rfl,i,by omega,h⟩)
    ·obtain⟨P,n,o,p⟩:=c v f
     refine⟨P,by rw[if_neg e];exact n,o,fun u=> ?_⟩
     rw[p u]
     constructor
     ·rintro(h|⟨h,_⟩)
      ·exact .inl h
      ·exact absurd h e
     ·rintro(h|⟨h,_⟩)
      ·exact .inl h
      ·exact absurd h e
   ·unfold oS
    dsimp only
    rw[if_pos (show(j:Int)<((row g k).length:Int) by omega),cP (show 0<=(j:Int)∧(j:Int)<((row g k).length:Int) by omega),cP (by omega),show Go.Sx.at' (Go.Sx.at' g.2 (k:Int)) (j:Int)=jJ (row g k) j from rfl,x,cP (by omega),cP (by omega),T,FA l (by omega),dO (by omega),Int.toNat_natCast]) (fun z F H=>by
   obtain⟨b,q⟩:=z
   obtain⟨s,d,c⟩:=H
   dsimp only at s d c
   subst s
   unfold oS rR
   dsimp only
   rw[if_neg (show¬((row g k).length:Int)<((row g k).length:Int) by omega),dO (by omega)]) 1000 ((0:Int),r) ⟨rfl,B,fun v f=>by
    obtain⟨m,n,o,p⟩:=C v f
    refine⟨m,n,o,fun u=> ?_⟩
    rw[p u]
    constructor
    ·exact fun h=> .inl h
    ·rintro(h|⟨_,i,A,_⟩)
     ·exact h
     ·omega⟩ (by omega)
  dsimp only at s d c
  refine⟨(((k+1:Nat):Int),U),⟨rfl,d,fun v f=> ?_⟩,?_⟩
  ·obtain⟨m,n,o,p⟩:=c v f
   refine⟨m,n,o,fun u=> ?_⟩
   rw[p u]
   constructor
   ·rintro(⟨Q,D⟩|⟨rfl,i,A,h⟩)
    ·exact⟨by omega,D⟩
    ·exact⟨by omega,i,A,h⟩
   ·rintro⟨Q,D⟩
    by_cases e:v=k
    ·subst e
     obtain⟨i,A,h⟩:=D
     exact .inr ⟨rfl,i,A,h⟩
    ·exact .inl ⟨by omega,D⟩
  ·unfold jX
   dsimp only
   rw[if_pos (by omega),cP (by omega)]
   exact J) (fun z E G=>by
  obtain⟨a,r⟩:=z
  obtain⟨y,B,C⟩:=G
  dsimp only at y
  subst y
  unfold jX rQ
  dsimp only
  rw[if_neg (by omega)]) 1000 ((0:Int),List.replicate (Int.toNat (g.2.length:Int)) (0:Int)) ⟨rfl,by simp,fun v f=>⟨0,by
   rw[Int.toNat_natCast,kF (by simpa using f)];simp,by omega,fun u=>by simp⟩⟩ (by omega)
 refine⟨r,J,B,fun v f=> ?_⟩
 obtain⟨m,n,o,p⟩:=C v f
 exact⟨m,n,o,fun u=>by rw[p u];exact⟨fun h=>h.2,fun h=>⟨f,h⟩⟩⟩
end
section
def Pp (g:GR) (m:Nat):Prop:=∀i,m.testBit i=true->i<g.2.length
theorem Pp.lt {g:GR} (b:VG g) {m:Nat} (h:Pp g m):m<16777216:=by
 have a:=b.n24
 refine Nat.lt_of_lt_of_le (Nat.lt_pow_two_of_testBit (n:=24) m fun i d=> ?_) (Nat.le_refl _)
 cases c:m.testBit i with
 |false=>rfl
 |true=>have:=h i c;omega
theorem aaY {m:Nat} (h:∀i,i<32->m.testBit i=false) (b:m<4294967296):m=0:=by
 refine Nat.eq_of_testBit_eq fun i=> ?_
 rw[Nat.zero_testBit]
 rcases Nat.lt_or_ge i 32 with q|q
 ·exact h i q
 ·cases a:m.testBit i with
  |false=>rfl
  |true=>have:=FB b a;omega
theorem OG {g:GR} (hV:VG g) {r:aL} (hN:Ma g r) {t:Nat} (ht:Pp g t) (hi:∀v u,t.testBit v=true->t.testBit u=true->¬El g v u) (F:Nat):∀(d s fuel rest:Nat),s+d=32->rest<4294967296->(∀i,i<s->rest.testBit i=false)->(∀i,rest.testBit i=true->t.testBit i=true)->d<fuel->
  bJ (fL F r (t:Int)) fuel (rest:Int)=some true:=by
 have h24:=hV.n24
 have ht32:t<4294967296:=by have:=ht.lt hV;omega
 intro d
 induction d using Nat.strongRecOn with
 | _ d ih =>
  intro s fuel rest hs hr hlow hsub hf
  obtain⟨fuel,rfl⟩:∃f,fuel=f+1:=⟨fuel - 1,by omega⟩
  show fL F r (t:Int) (rest:Int) (bJ _ fuel)=_
  unfold fL iP
  by_cases h0:rest=0
  ·rw[if_neg (by omega)]
  obtain⟨k,hk⟩:=Iv h0
  have hkn:=ht k (hsub k hk.bit)
  have hks:s<=k:=by
   rcases Nat.lt_or_ge k s with q|q
   ·have:=hk.bit;rw[hlow k q]at this;cases this
   ·exact q
  obtain⟨m,hm,hm32,hbits⟩:=hN.at' k hkn
  rw[if_pos (by omega),bA (Yu F hr hk),cP (by have:=hN.len;omega),hm,Gk hm32 ht32]
  have hz:m &&& t=0:=by
   refine aaY (fun i _=> ?_) (On hm32)
   rw[Nat.testBit_and]
   cases h1:m.testBit i with
   |false=>rfl
   |true=>
    cases h2:t.testBit i with
    |false=>rfl
    |true=>exact absurd ((hbits i).1 h1) (hi k i (hsub k hk.bit) h2)
  rw[hz,if_neg (by simp)]
  obtain⟨m',e1,e2,e3⟩:=Ou hr hk
  rw[e1]
  have hk32:k<32:=by omega
  refine ih (32 - (k+1)) (by omega) (k+1) fuel m' (by omega) e2 (fun i hi=> ?_) (fun i hi=> ?_) (by omega)
  ·rw[e3]
   by_cases e:i=k
   ·simp[e]
   ·rw[hk.low i (by omega)];rfl
  ·rw[e3,Bool.and_eq_true]at hi
   exact hsub i hi.1
theorem GJ {g:GR} (hV:VG g) {r:aL} (hN:Ma g r) {t:Nat} (ht:Pp g t) (hi:∀v u,t.testBit v=true->t.testBit u=true->¬El g v u):fZ 1000 r (t:Int)=some true:=
 OG hV hN ht hi 1000 32 0 1000 t (by omega) (by have:=ht.lt hV;omega) (fun i hi=>by omega) (fun i h=>h) (by omega)
theorem ML {g:GR} (hV:VG g) {r:aL} (hN:Ma g r) {W:Nat} (hW:Pp g W) (F:Nat):∀(d s fuel rest t:Nat),s+d=32->rest<4294967296->t<4294967296->(∀i,i<s->rest.testBit i=false)->(∀i,rest.testBit i=true->W.testBit i=true)->(∀i,t.testBit i=true->W.testBit i=true)->(∀v u,t.testBit v=true->t.testBit u=true->¬El g v u)->(W≠0->t≠0∨rest=W)->d<fuel->
  ∃t':Nat,bJ (dX F r) fuel ((rest:Int),(t:Int))=some (t':Int)∧t'<4294967296∧(∀i,t'.testBit i=true->W.testBit i=true)∧(∀v u,t'.testBit v=true->t'.testBit u=true->¬El g v u)∧(W≠0->t'≠0):=by
 have h24:=hV.n24
 intro d
 induction d using Nat.strongRecOn with
 | _ d ih =>
  intro s fuel rest t hs hr ht32 hlow hsub htW hind hne hf
  obtain⟨fuel,rfl⟩:∃f,fuel=f+1:=⟨fuel - 1,by omega⟩
  have hun:bJ (dX F r) (fuel+1) ((rest:Int),(t:Int))=dX F r ((rest:Int),(t:Int)) (bJ (dX F r) fuel):=rfl
  rw[hun]
  unfold dX kS iF
  dsimp only
  by_cases h0:rest=0
  ·rw[if_neg (by omega)]
   refine⟨t,rfl,ht32,htW,hind,fun hw=> ?_⟩
   rcases hne hw with h|h
   ·exact h
   ·exact absurd (h.symm.trans h0) hw
  obtain⟨k,hk⟩:=Iv h0
  have hkW:=hsub k hk.bit
  have hkn:=hW k hkW
  have hks:s<=k:=by
   rcases Nat.lt_or_ge k s with q|q
   ·have:=hk.bit;rw[hlow k q]at this;cases this
   ·exact q
  obtain⟨m,hm,hm32,hbits⟩:=hN.at' k hkn
  obtain⟨m',e1,e2,e3⟩:=Ou hr hk
  have hk32:k<32:=by omega
  have low':∀i,i<k+1->m'.testBit i=false:=fun i hi=>by
   rw[e3]
   by_cases e:i=k
   ·simp[e]
   ·rw[hk.low i (by omega)];rfl
  have sub':∀i,m'.testBit i=true->W.testBit i=true:=fun i hi=>by
   rw[e3,Bool.and_eq_true]at hi
   exact hsub i hi.1
  rw[if_pos (by omega),bA (Yu F hr hk),cP (by have:=hN.len;omega),hm,Gk hm32 ht32,e1]
  by_cases hz:m &&& t=0
  ·rw[hz,if_pos (by rfl),cP (by omega),FA ht32 hk32]
   have hkt:(t ||| 2^k).testBit k=true:=by rw[Nat.testBit_or,Nat.testBit_two_pow];simp
   have nadj:∀u,t.testBit u=true->¬El g k u:=fun u hu ha=>by
    have:=congrArg (fun q=>q.testBit u) hz
    simp only[Nat.testBit_and,Nat.zero_testBit,(hbits u).2 ha,hu]at this
    cases this
   refine ih (32 - (k+1)) (by omega) (k+1) fuel m' (t ||| 2^k) (by omega) e2 (Qp ht32 (ES hk32)) low' sub' (fun i hi=> ?_) (fun v u hv hu=> ?_) (fun _=> .inl fun e=>by rw[e]at hkt;simp at hkt) (by omega)
   ·rw[Nat.testBit_or,Nat.testBit_two_pow,Bool.or_eq_true,decide_eq_true_eq]at hi
    rcases hi with hi|rfl
    ·exact htW i hi
    ·exact hkW
   ·rw[Nat.testBit_or,Nat.testBit_two_pow,Bool.or_eq_true,decide_eq_true_eq]at hv hu
    rcases hv with hv|rfl
    ·rcases hu with hu|rfl
     ·exact hind v u hv hu
     ·exact fun ha=>nadj v hv (hV.back (hW v (htW v hv)) ha)
    ·rcases hu with hu|rfl
     ·exact nadj u hu
     ·rintro⟨i,hi,he⟩
      exact((hV.node k hkn).links i hi).2.1 he
  ·rw[if_neg (by omega)]
   refine ih (32 - (k+1)) (by omega) (k+1) fuel m' t (by omega) e2 ht32 low' sub' htW hind (fun _=> .inl fun e=> ?_) (by omega)
   rw[e]at hz
   exact hz (Nat.and_zero m)
theorem II {g:GR} (hV:VG g) {r:aL} (hN:Ma g r) {kind:Int} (hk1:1<=kind) (hk4:kind<=4) {e w:Nat} (he:Pp g e) (hw:w<4294967296):
  ∃t:Nat,cO 1000 r kind (e:Int) (w:Int)=some (t:Int)∧(∀i,t.testBit i=true->e.testBit i=true)∧(e≠0->t≠0∧dL 1000 r kind (e:Int) (t:Int)=some true∧(kind<=2->∀v u,t.testBit v=true->t.testBit u=true->¬El g v u)∧(kind=4->t=e)):=by
 have he24:=he.lt hV
 have he32:e<4294967296:=by omega
 -- the wish
 obtain⟨W,hW,hW32,hWe,hW0,hWm⟩:∃W:Nat,cO 1000 r kind (e:Int) (w:Int)=iD 1000 r kind (e:Int) (W:Int)∧W<4294967296∧(∀i,W.testBit i=true->e.testBit i=true)∧(e≠0->W≠0)∧(e=0->W=0):=by
  unfold cO
  rw[Gk hw he32]
  by_cases h0:w &&& e=0
  ·rw[h0,if_pos (show((0:Nat):Int)=0 from rfl)]
   by_cases hee:e=0
   ·refine⟨0,by rw[hee];rfl,by omega,fun i h=>by simp at h,fun h=>absurd hee h,fun _=>rfl⟩
   ·obtain⟨k,hk⟩:=Iv hee
    have hk32:=FB he32 hk.bit
    refine⟨2^k,by rw[ZN he32 hk],ES hk32,fun i h=> ?_,fun _=>Nat.ne_of_gt (Nat.pow_pos (by omega)),fun h=>absurd h hee⟩
    rw[Nat.testBit_two_pow,decide_eq_true_eq]at h
    rw[<-h];exact hk.bit
  ·rw[if_neg (by omega)]
   refine⟨w &&& e,rfl,On hw,fun i h=> ?_,fun _=>h0,fun h=>by rw[h];exact Nat.and_zero w⟩
   rw[Nat.testBit_and,Bool.and_eq_true]at h
   exact h.2
 have hWG:Pp g W:=fun i hi=>he i (hWe i hi)
 have permits:∀(t:Nat),t≠0->t<4294967296->(∀i,t.testBit i=true->e.testBit i=true)->∀b,(if kind=1 then some (decide ((cD .u32 (t:Int) (wI .u32 ((t:Int) - 1)))=0))else if kind=2 then(Option.bind (fZ 1000 r (t:Int)) fun r7=>some r7)else if kind=4 then some (decide ((t:Int)=(e:Int)))else some true)=some b->dL 1000 r kind (e:Int) (t:Int)=some b:=by
  intro t h0 h32 hsub b hb
  unfold dL kR
  have hd:Ib t e=0:=by
   refine Nat.eq_of_testBit_eq fun i=> ?_
   rw[FH h32 he32,Nat.zero_testBit]
   cases h1:t.testBit i with
   |false=>rfl
   |true=>rw[hsub i h1];rfl
  rw[if_neg (by omega),HP,hd,if_neg (by simp)]
  exact hb
 rw[hW]
 unfold iD
 by_cases k1:kind=1
 ·rw[if_pos k1]
  by_cases hw0:W=0
  ·refine⟨0,by rw[hw0];rfl,fun i h=>by simp at h,fun h=>absurd hw0 (hW0 h)⟩
  ·obtain⟨k,hk⟩:=Iv hw0
   have hk32:=FB hW32 hk.bit
   have hL:QZ (2^k) k:=⟨by rw[Nat.testBit_two_pow];simp,fun j hj=>by rw[Nat.testBit_two_pow];exact decide_eq_false (by omega)⟩
   refine⟨2^k,by rw[ZN hW32 hk],fun i h=> ?_,fun hee=>⟨Nat.ne_of_gt (Nat.pow_pos (by omega)),?_,fun _ v u hv hu hadj=> ?_,fun h=>by omega⟩⟩
   ·rw[Nat.testBit_two_pow,decide_eq_true_eq]at h
    rw[<-h];exact hWe k hk.bit
   ·refine permits _ (Nat.ne_of_gt (Nat.pow_pos (by omega))) (ES hk32) (fun i h=> ?_) true ?_
    ·rw[Nat.testBit_two_pow,decide_eq_true_eq]at h
     rw[<-h];exact hWe k hk.bit
    ·obtain⟨m',e1,e2,e3⟩:=Ou (ES hk32) hL
     rw[if_pos k1,e1]
     have:m'=0:=Nat.eq_of_testBit_eq fun i=>by
      rw[e3,Nat.testBit_two_pow,Nat.zero_testBit]
      by_cases q:k=i
      ·simp[q]
      ·simp[q]
     rw[this];rfl
   ·rw[Nat.testBit_two_pow,decide_eq_true_eq]at hv hu
    subst hv;subst hu
    obtain⟨i,hi,he⟩:=hadj
    exact((hV.node k (hWG k hk.bit)).links i hi).2.1 he
 rw[if_neg k1]
 by_cases k2:kind=2
 ·rw[if_pos k2]
  obtain⟨t,h1,h2,h3,h4,h5⟩:=ML hV hN hWG 1000 32 0 1000 W 0 (by omega) hW32 (by omega) (fun i hi=>by omega) (fun i h=>h) (fun i h=>by simp at h) (fun v u h=>by simp at h) (fun _=> .inr rfl) (by omega)
  refine⟨t,h1,fun i h=>hWe i (h3 i h),fun hee=>⟨h5 (hW0 hee),?_,fun _=>h4,fun h=>by omega⟩⟩
  refine permits t (h5 (hW0 hee)) h2 (fun i h=>hWe i (h3 i h)) true ?_
  rw[if_neg k1,if_pos k2,bA (GJ hV hN (fun i h=>hWG i (h3 i h)) h4)]
 rw[if_neg k2]
 by_cases k4:kind=4
 ·rw[if_pos k4]
  refine⟨e,rfl,fun i h=>h,fun hee=>⟨hee,permits e hee he32 (fun i h=>h) true ?_,fun h=>by omega,fun _=>rfl⟩⟩
  rw[if_neg k1,if_neg k2,if_pos k4];simp
 ·rw[if_neg k4]
  refine⟨W,rfl,hWe,fun hee=>⟨hW0 hee,permits W (hW0 hee) hW32 hWe true ?_,fun h=>by omega,fun h=>absurd h k4⟩⟩
  rw[if_neg k1,if_neg k2,if_neg k4]
end
end Go.Proofs.YtjlbcgddhnjcjaaGreatDoor
end
section
namespace Go.Proofs.YtjlbcgddhnjcjaaGreatDoor
open Go.Sx
section
def xD  (a:Int):Option (Int):=
 some (a)
def sZ (p0:aL) (a:eK) (b:d_->Option (Int)):Option (Int):=
 if a.2<(List.length p0:Int)then(ck (0<=a.2∧a.2<(List.length p0:Int)) (b ((max a.1 (at' p0 a.2)),(wI .i64 (a.2+(1:Int))))))else(xD  (a.1))
def yO (U:Nat) (p0:aL):Option (Int):=
 if(List.length p0:Int)<(1:Int)then(none)else(ck (0<=(0:Int)∧(0:Int)<(List.length p0:Int)) (bJ (sZ p0) U ((at' p0 (0:Int)),(1:Int))))
theorem WA:aP Tryz.prog 155:=Tryz.call155
theorem LC (U:Nat) {p0:aL} (v0:Value) (r:Int) (h:yO U p0=some r):
  aU Tryz.prog 155 #[v0] [Sl bI v0 p0] (fun x:Unit=>vI (r)) (fun x l=>l) (fun _ l=>l):=by
 refine aU.of Tryz.func155 rfl Tryz.ntmps155 rfl fun c=>?_
 refine sqR<|qkAsg rfl<|dtN<|aG<|sqR<|qkMove rfl<|qkLen (aB.fact 0 rfl) rfl<|qkLss rfl<|dtN ?_
 refine eT h rfl (fun h=>?_) fun h=>?_
 ·refine aM ?_
  cases h
 refine cJ<|sqR<|qkMove rfl<|ckE h fun j2 h=>aA (a_ rfl rfl (aB.fact 0 rfl) rfl rfl j2) rfl<|aA (bV rfl (aB.fact 0 rfl) rfl rfl rfl eD j2) rfl<|qkAsg rfl<|dtN<|aG<|midU (fun a4=>xD  a4=some r) (fun a4 b5=>[(3,vI (a4))]) (fun a4 b5=>[]) ?_ ?_
 ·refine sqR<|qkAsg rfl<|dtN<|aN<|loopL (sZ p0) (fun a9 b10=>[(0,v0),(3,vI (a9.1)),(4,vI (a9.2))]) (fun a9 b10=>[]) ((at' p0 (0:Int)),(1:Int)) () h SF (aR.refl _) ?_
  intro k11 a9 b10 h
  refine aG<|sqR<|qkMove rfl<|qkMove rfl<|qkLen (aB.fact 0 rfl) rfl<|qkLss rfl<|dtN ?_
  refine eT h rfl (fun h=>?_) fun h=>?_
  ·refine cJ<|aG<|aN<|aM<|qkMove rfl<|qkMove rfl<|qkMove rfl<|ckE h fun j13 h=>aA (a_ rfl rfl (aB.fact 0 rfl) rfl rfl j13) rfl<|aA (bV rfl (aB.fact 0 rfl) rfl rfl rfl eD j13) rfl<|aA (HK rfl rfl) rfl<|qkAsg rfl<|dN<|inT<|aM<|qkMove rfl<|qkAdd rfl<|qkAsg rfl<|dtN ?_
   exact yX ((max a9.1 (at' p0 a9.2)),(wI .i64 (a9.2+(1:Int)))) () h SF rfl
  refine fM ?_
  exact gR (a9.1) () h SF rfl
 intro a4 b5 h
 unfold xD at h
 refine sqR<|qkMove rfl<|qkAsg rfl<|dtN<|aQ ?_
 cases h
 exact lC rfl
end
section
def nS (U:Nat) (p0:CF) (p1:cU) (p2:Int):Option d_:=
 Option.bind (yO U p1.1) fun a=>(some (p0.2.2.1,(wI .i64 ((wI .i64 (p0.2.2.2.1+(wI .i64 (p0.2.2.2.2.1*(List.length p1.1:Int)))))+(wI .i64 (p0.2.2.2.2.2*a))))))
theorem Wz:aP Tryz.prog 154:=Tryz.call154
theorem Ff (U:Nat) {p0:CF} {p1:cU} {p2:Int} (a:Value)  (b:Value)  (g:lW) (r:eK) (h:nS U p0 p1 p2=some r):
  aU Tryz.prog 154 #[Value.agg #[vS (p0.1),vI (p0.2.1),vI (p0.2.2.1),vI (p0.2.2.2.1),vI (p0.2.2.2.2.1),vI (p0.2.2.2.2.2)],Value.agg #[a,b],vI (p2)] [Sl bI a p1.1,S2 aY b g p1.2] (fun x:Unit=>Value.tuple #[vI (r.1),vI (r.2)]) (fun x l=>l) (fun _ l=>l):=by
 refine aU.of Tryz.func154 rfl Tryz.ntmps154 rfl fun c=>?_
 refine sqR<|aF (aI.box (cs:=[vS (p0.1),vI (p0.2.1),vI (p0.2.2.1),vI (p0.2.2.2.1),vI (p0.2.2.2.2.1),vI (p0.2.2.2.2.2)]) rfl rfl) rfl fun i=>aF (aI.box (cs:=[a,b]) rfl rfl) rfl fun j=>qkAsg rfl<|qkAsg rfl<|dtN<|aG ?_
 refine JR.start [0,1,0,4,0,16,0,64,192,496,1020,0,2048,0,8192,24576,63488,131068,57347,524287] 19 mixedOrders (by decide +kernel) ?_
 refine JR.open (by exact rfl) ?_
 refine jkFld rfl<|jkLd 1 rfl<|jkFld rfl<|jkLd 1 rfl<|jkFld rfl<|jkLd 1 rfl<|jkFld rfl<|jkLd 0 rfl<|bG rfl .nil (lX 0 rfl) (fR rfl (aB.fact 0 rfl) rfl) aK.z<|jqN rfl (Be rfl rfl)<|jqN rfl (wB rfl rfl)<|jkFld rfl<|jkLd 1 rfl<|jkFld rfl<|jkLd 0 rfl<|bnE h fun d e h=>JR.loud rfl rfl rfl (aI.callQ WA (LC U a d e) rfl (lK [0] rfl)) rfl (fun f=>(mW [([1],[]),([],[0]),([0],[]),([1],[]),([1],[]),([1],[])] rfl)) fun f=>jqN rfl (Be rfl rfl)<|jqN rfl (wB rfl rfl)<|jqN rfl (iV rfl)<|bD 19 rfl rfl<|qkAsg rfl<|dtN<|aQ ?_
 cases h
 exact iO () rfl rfl (RV.tmp rfl) (RV.tmp rfl) .nil aD.nil
end
section
def qO (U:Nat) (p0:CF) (p1:cU) (p2:Int):Option d_:=
 some ((0:Int),(1:Int))
theorem WB:aP Tryz.prog 156:=Tryz.call156
theorem Fg (U:Nat) {p0:CF} {p1:cU} {p2:Int} (a:Value)  (b:Value)  (d:lW) (r:eK) (h:qO U p0 p1 p2=some r):
  aU Tryz.prog 156 #[Value.agg #[vS (p0.1),vI (p0.2.1),vI (p0.2.2.1),vI (p0.2.2.2.1),vI (p0.2.2.2.2.1),vI (p0.2.2.2.2.2)],Value.agg #[a,b],vI (p2)] [Sl bI a p1.1,S2 aY b d p1.2] (fun x:Unit=>Value.tuple #[vI (r.1),vI (r.2)]) (fun x l=>l) (fun _ l=>l):=by
 refine aU.of Tryz.func156 rfl Tryz.ntmps156 rfl fun c=>?_
 unfold qO at h
 refine sqR<|aF (aI.box (cs:=[vS (p0.1),vI (p0.2.1),vI (p0.2.2.1),vI (p0.2.2.2.1),vI (p0.2.2.2.2.1),vI (p0.2.2.2.2.2)]) rfl rfl) rfl fun e=>aF (aI.box (cs:=[a,b]) rfl rfl) rfl fun f=>qkAsg rfl<|qkAsg rfl<|dtN<|sqR<|qkAsg rfl<|qkAsg rfl<|dtN<|aQ ?_
 cases h
 exact iO () rfl rfl (RV.tmp rfl) (RV.tmp rfl) .nil aD.nil
end
section
def nT (U:Nat) (p0:CF) (p1:cU) (p2:Int):Option d_:=
 ck (0<=p2∧p2<(List.length p1.2:Int)) (some ((-1:Int),(wI .i64 ((List.length (at' p1.2 p2):Int) - (1:Int)))))
theorem WC:aP Tryz.prog 157:=Tryz.call157
theorem Fh (U:Nat) {p0:CF} {p1:cU} {p2:Int} (b:Value)  (d:Value)  (e:lW) (r:eK) (h:nT U p0 p1 p2=some r):
  aU Tryz.prog 157 #[Value.agg #[vS (p0.1),vI (p0.2.1),vI (p0.2.2.1),vI (p0.2.2.2.1),vI (p0.2.2.2.2.1),vI (p0.2.2.2.2.2)],Value.agg #[b,d],vI (p2)] [Sl bI b p1.1,S2 aY d e p1.2] (fun x:Unit=>Value.tuple #[vI (r.1),vI (r.2)]) (fun x l=>l) (fun _ l=>l):=by
 refine aU.of Tryz.func157 rfl Tryz.ntmps157 rfl fun c=>?_
 refine sqR<|aF (aI.box (cs:=[vS (p0.1),vI (p0.2.1),vI (p0.2.2.1),vI (p0.2.2.2.1),vI (p0.2.2.2.2.1),vI (p0.2.2.2.2.2)]) rfl rfl) rfl fun f=>aF (aI.box (cs:=[b,d]) rfl rfl) rfl fun g=>qkAsg rfl<|qkAsg rfl<|dtN<|aG ?_
 refine JR.start [0,1,0,7,15,31,63,0,255] 8 mixedOrders (by decide +kernel) ?_
 refine JR.open (by exact rfl) ?_
 refine jkFld rfl<|jkLd 0 rfl<|jkMove rfl<|ckE h fun a h=>bG rfl .nil (lX 1 rfl) (cY rfl rfl (aB.fact 0 rfl) rfl rfl a) aK.z<|bG rfl .nil (lX 1 rfl) (cW rfl (aB.fact 0 rfl) rfl rfl a) aK.z<|bG rfl .nil (lX 1 rfl) (fR rfl (aB.el (aB.fact 0 rfl) a.1 a.2) rfl) aK.z<|jqN rfl (pO rfl rfl)<|jqN rfl (iV rfl)<|bD 8 rfl rfl<|qkAsg rfl<|dtN<|aQ ?_
 cases h
 exact iO () rfl rfl (RV.tmp rfl) (RV.tmp rfl) .nil aD.nil
end
section
def wE  (a:Unit):Option d_:=
 some ((0:Int),(-1:Int))
def lQ (c:Int) (a:(Int)->Option d_) (b:Unit):Option d_:=
 a (wI .i64 (c+(1:Int)))
def eC (U:Nat) (p0:CF) (p1:cU) (p2:Int) (a:Int) (b:(Int)->Option d_):Option d_:=
 if a<(List.length ([((1:Int),(154:Nat)),((2:Int),(156:Nat)),((3:Int),(157:Nat))]):Int)then(ck (0<=a∧a<(List.length ([((1:Int),(154:Nat)),((2:Int),(156:Nat)),((3:Int),(157:Nat))]):Int)) (if a=(0:Int)then(if(1:Int)=p0.2.1 then(Option.bind (nS U ((p0.1,p0.2.1,p0.2.2.1,p0.2.2.2.1,p0.2.2.2.2.1,p0.2.2.2.2.2)) ((p1.1,p1.2)) p2) fun c=>(some (c.1,c.2)))else(lQ a b (())))else(if a=(1:Int)then(if(2:Int)=p0.2.1 then(Option.bind (qO U ((p0.1,p0.2.1,p0.2.2.1,p0.2.2.2.1,p0.2.2.2.2.1,p0.2.2.2.2.2)) ((p1.1,p1.2)) p2) fun d=>(some (d.1,d.2)))else(lQ a b (())))else(if(3:Int)=p0.2.1 then(Option.bind (nT U ((p0.1,p0.2.1,p0.2.2.1,p0.2.2.2.1,p0.2.2.2.2.1,p0.2.2.2.2.2)) ((p1.1,p1.2)) p2) fun e=>(some (e.1,e.2)))else(lQ a b (()))))))else(wE  (()))
def jG (U:Nat) (p0:CF) (p1:cU) (p2:Int):Option d_:=
 bJ (eC U p0 p1 p2) U (0:Int)
theorem PC:aP Tryz.prog 111:=Tryz.call111
theorem BL (U:Nat) {p0:CF} {p1:cU} {p2:Int} (v0:Value)  (v1:Value)  (z2:lW) (r:eK) (h:jG U p0 p1 p2=some r):
  aU Tryz.prog 111 #[Value.agg #[vS (p0.1),vI (p0.2.1),vI (p0.2.2.1),vI (p0.2.2.2.1),vI (p0.2.2.2.2.1),vI (p0.2.2.2.2.2)],Value.agg #[v0,v1],vI (p2)] [Sl bI v0 p1.1,S2 aY v1 z2 p1.2] (fun x:Unit=>Value.tuple #[vI (r.1),vI (r.2)]) (fun x l=>l) (fun _ l=>l):=by
 refine aU.of Tryz.func111 rfl Tryz.ntmps111 rfl fun c=>?_
 unfold jG at h
 refine sqR<|aF (aI.box (cs:=[vS (p0.1),vI (p0.2.1),vI (p0.2.2.1),vI (p0.2.2.2.1),vI (p0.2.2.2.2.1),vI (p0.2.2.2.2.2)]) rfl rfl) rfl fun b1=>aF (aI.box (cs:=[v0,v1]) rfl rfl) rfl fun b2=>qkAsg rfl<|qkAsg rfl<|dtN<|sqR ?_
 refine aA (DV (r:=Value.agg #[vI (1:Int),Value.func (.func 154) #[] #[]]) rfl rfl (by intro w;simp[Instr.build,Instr.fill,c_,cS,cF,dA,dB,cT,eB])) rfl ?_
 refine aA (DV (r:=Value.agg #[vI (2:Int),Value.func (.func 156) #[] #[]]) rfl rfl (by intro w;simp[Instr.build,Instr.fill,c_,cS,cF,dA,dB,cT,eB])) rfl ?_
 refine aA (DV (r:=Value.agg #[vI (3:Int),Value.func (.func 157) #[] #[]]) rfl rfl (by intro w;simp[Instr.build,Instr.fill,c_,cS,cF,dA,dB,cT,eB])) rfl ?_
 refine aF (bU (e:=GX) ([(((1:Int),((154:Nat)))),(((2:Int),((156:Nat)))),(((3:Int),((157:Nat))))]) [(0,Value.agg #[vI (1:Int),Value.func (.func 154) #[] #[]]),(1,Value.agg #[vI (2:Int),Value.func (.func 156) #[] #[]]),(2,Value.agg #[vI (3:Int),Value.func (.func 157) #[] #[]])] rfl rfl rfl rfl (Ud (vI (1:Int)) (Value.func (.func 154) #[] #[]) (vI (2:Int)) (Value.func (.func 156) #[] #[]) (vI (3:Int)) (Value.func (.func 157) #[] #[])) rfl rfl rfl) rfl fun u3=>qkAsg rfl<|dtN<|aG<|midU (fun a4=>wE  a4=some r) (fun a4 b5=>[]) (fun a4 b5=>[]) ?_ ?_
 ·refine sqR<|qkMove rfl<|aA (fR rfl (aO (aB.res 0 rfl) zW) rfl) rfl<|qkMove rfl<|dtN<|aN<|loopL (eC U p0 p1 p2) (fun a8 b9=>[(2,vI (p2)),(3,vP b1),(4,vP b2),(15,u3),(16,vI (List.length ([((1:Int),(154:Nat)),((2:Int),(156:Nat)),((3:Int),(157:Nat))]):Int)),(17,vI (a8))]) (fun a8 b9=>[Ar GX u3 ([((1:Int),(154:Nat)),((2:Int),(156:Nat)),((3:Int),(157:Nat))]),bL b2 [v0,v1] 29,bL b1 [vS (p0.1),vI (p0.2.1),vI (p0.2.2.1),vI (p0.2.2.2.1),vI (p0.2.2.2.2.1),vI (p0.2.2.2.2.2)] 84]) (0:Int) () h SF (aR.refl _) ?_
  intro k10 a8 b9 h
  refine sqR<|qkLss rfl<|dtN<|aG ?_
  refine eT h rfl (fun h=>?_) fun h=>?_
  ·refine cJ<|aG<|midU (fun a12=>lQ a8 (bJ (eC U p0 p1 p2) k10) a12=some r) (fun a12 b13=>[(2,vI (p2)),(3,vP b1),(4,vP b2),(15,u3),(16,vI (List.length ([((1:Int),(154:Nat)),((2:Int),(156:Nat)),((3:Int),(157:Nat))]):Int)),(17,vI (a8))]) (fun a12 b13=>[Ar GX u3 ([((1:Int),(154:Nat)),((2:Int),(156:Nat)),((3:Int),(157:Nat))]),bL b2 [v0,v1] 29,bL b1 [vS (p0.1),vI (p0.2.1),vI (p0.2.2.1),vI (p0.2.2.2.1),vI (p0.2.2.2.2.1),vI (p0.2.2.2.2.2)] 84]) ?_ ?_
   ·refine aN<|sqR<|ckE h fun j14 h=>aA (a_ rfl rfl (aO (aB.res 0 rfl) zW) rfl rfl j14) rfl ?_
    by_cases hq15:a8=(0:Int)
    ·have h:=JU hq15 h
     refine aA (iA (cs:=[vI (1:Int),Value.func (.func 154) #[] #[]]) rfl (aO (aB.res 0 rfl) zW) zW (by rw[hq15];rfl) rfl rfl rfl j14) rfl ?_
     refine aF (aI.alloc (cs:=[vI (0:Int),Value.nilFunc]) rfl rfl) rfl fun b16=>bE 0 (vs:=[vI (1:Int),Value.func (.func 154) #[] #[]]) rfl rfl rfl rfl rfl rfl<|dtN<|sqR<|qkFld rfl<|qkLd 0 rfl<|qkFld rfl<|qkLd 3 rfl<|qkEql rfl<|dtN ?_
     refine eT h rfl (fun h=>?_) fun h=>?_
     ·refine sqR<|qkFld rfl<|qkLd 0 rfl<|qkLdA 3 rfl<|qkLdA 2 rfl<|qkMove rfl<|bnE h fun r18 w19 h=>aF (qU (vs:=[Value.agg #[vS (p0.1),vI (p0.2.1),vI (p0.2.2.1),vI (p0.2.2.2.1),vI (p0.2.2.2.2.1),vI (p0.2.2.2.2.2)],Value.agg #[v0,v1],vI (p2)]) (cs:=[]) Wz rfl (Ff U v0 v1 z2 r18 w19) rfl (lK [0,1] rfl) (fun _ _=>rfl)) rfl fun x20=>qkExt rfl<|qkExt rfl<|qkAsg rfl<|qkAsg rfl<|dtN<|aQ<|bQ<|aJ<|aJ<|bQ<|aJ ?_
      cases h
      exact iO () rfl rfl (RV.tmp rfl) (RV.tmp rfl) .nil aD.nil
     refine dQ<|inT ?_
     exact bT () (()) h SF (aR.ix [1,2,3] rfl rfl) (aD.refl _ _)
    have h:=Xu hq15 h
    by_cases hq21:a8=(1:Int)
    ·have h:=JU hq21 h
     refine aA (iA (cs:=[vI (2:Int),Value.func (.func 156) #[] #[]]) rfl (aO (aB.res 0 rfl) zW) zW (by rw[hq21];rfl) rfl rfl rfl j14) rfl ?_
     refine aF (aI.alloc (cs:=[vI (0:Int),Value.nilFunc]) rfl rfl) rfl fun b22=>bE 0 (vs:=[vI (2:Int),Value.func (.func 156) #[] #[]]) rfl rfl rfl rfl rfl rfl<|dtN<|sqR<|qkFld rfl<|qkLd 0 rfl<|qkFld rfl<|qkLd 3 rfl<|qkEql rfl<|dtN ?_
     refine eT h rfl (fun h=>?_) fun h=>?_
     ·refine sqR<|qkFld rfl<|qkLd 0 rfl<|qkLdA 3 rfl<|qkLdA 2 rfl<|qkMove rfl<|bnE h fun r24 w25 h=>aF (qU (vs:=[Value.agg #[vS (p0.1),vI (p0.2.1),vI (p0.2.2.1),vI (p0.2.2.2.1),vI (p0.2.2.2.2.1),vI (p0.2.2.2.2.2)],Value.agg #[v0,v1],vI (p2)]) (cs:=[]) WB rfl (Fg U v0 v1 z2 r24 w25) rfl (lK [0,1] rfl) (fun _ _=>rfl)) rfl fun x26=>qkExt rfl<|qkExt rfl<|qkAsg rfl<|qkAsg rfl<|dtN<|aQ<|bQ<|aJ<|aJ<|bQ<|aJ ?_
      cases h
      exact iO () rfl rfl (RV.tmp rfl) (RV.tmp rfl) .nil aD.nil
     refine dQ<|inT ?_
     exact bT () (()) h SF (aR.ix [1,2,3] rfl rfl) (aD.refl _ _)
    have h:=Xu hq21 h
    have hq27:a8=(2:Int):=by have q:=j14;simp only[List.length_cons,List.length_nil]at q;omega
    refine aA (iA (cs:=[vI (3:Int),Value.func (.func 157) #[] #[]]) rfl (aO (aB.res 0 rfl) zW) zW (by rw[hq27];rfl) rfl rfl rfl j14) rfl ?_
    refine aF (aI.alloc (cs:=[vI (0:Int),Value.nilFunc]) rfl rfl) rfl fun b28=>bE 0 (vs:=[vI (3:Int),Value.func (.func 157) #[] #[]]) rfl rfl rfl rfl rfl rfl<|dtN<|sqR<|qkFld rfl<|qkLd 0 rfl<|qkFld rfl<|qkLd 3 rfl<|qkEql rfl<|dtN ?_
    refine eT h rfl (fun h=>?_) fun h=>?_
    ·refine sqR<|qkFld rfl<|qkLd 0 rfl<|qkLdA 3 rfl<|qkLdA 2 rfl<|qkMove rfl<|bnE h fun r30 w31 h=>aF (qU (vs:=[Value.agg #[vS (p0.1),vI (p0.2.1),vI (p0.2.2.1),vI (p0.2.2.2.1),vI (p0.2.2.2.2.1),vI (p0.2.2.2.2.2)],Value.agg #[v0,v1],vI (p2)]) (cs:=[]) WC rfl (Fh U v0 v1 z2 r30 w31) rfl (lK [0,1] rfl) (fun _ _=>rfl)) rfl fun x32=>qkExt rfl<|qkExt rfl<|qkAsg rfl<|qkAsg rfl<|dtN<|aQ<|bQ<|aJ<|aJ<|bQ<|aJ ?_
     cases h
     exact iO () rfl rfl (RV.tmp rfl) (RV.tmp rfl) .nil aD.nil
    refine dQ<|inT ?_
    exact bT () (()) h SF (aR.ix [1,2,3] rfl rfl) (aD.refl _ _)
   intro a12 b13 h
   unfold lQ at h
   refine aM<|qkAdd rfl<|qkMove rfl<|dtN ?_
   exact yX (wI .i64 (a8+(1:Int))) () h SF rfl
  refine fM ?_
  exact bT () (()) h SF .nil (aD.refl _ _)
 intro a4 b5 h
 unfold wE at h
 refine sqR<|qkAsg rfl<|qkAsg rfl<|dtN<|aQ ?_
 cases h
 exact iO () rfl rfl (RV.tmp rfl) (RV.tmp rfl) (aR.refl _) aD.nil
end
section
def uV  (a:Unit):Option (Int):=
 some (0:Int)
def oT (b:Int) (a:(Int)->Option (Int)) (c:Unit):Option (Int):=
 a (wI .i64 (b+(1:Int)))
def uW (b:Int) (a:(Int)->Option (Int)) (c:Bool):Option (Int):=
 if c=true then(some (9:Int))else(oT b a (()))
def l_ (U:Nat) (p0:tD) (p1:cU) (a:Int) (b:(Int)->Option (Int)):Option (Int):=
 if a<(List.length p0.2.1:Int)then(ck (0<=a∧a<(List.length p0.2.1:Int)) (if((at' p0.2.1 a).2.1)≠(1:Int)then(oT a b (()))else(Option.bind (jG U ((((at' p0.2.1 a).1),((at' p0.2.1 a).2.1),((at' p0.2.1 a).2.2.1),((at' p0.2.1 a).2.2.2.1),((at' p0.2.1 a).2.2.2.2.1),((at' p0.2.1 a).2.2.2.2.2))) ((p1.1,p1.2)) (0:Int)) fun c=>(if c.2<c.1 then(uW a b (true))else(uW a b (decide ((4096:Int)<(wI .i64 ((wI .i64 (c.2 - c.1))+(1:Int))))))))))else(uV  (()))
def sS (U:Nat) (p0:tD) (p1:cU):Option (Int):=
 Option.bind (Av U ((p0.1,p0.2.1,p0.2.2))) fun r3=>(if(!r3)=true then(some (8:Int))else(Option.bind (eW U ((p1.1,p1.2))) fun r7=>(if(!r7)=true then(some (1:Int))else(bJ (l_ U p0 p1) U (0:Int)))))
theorem Zd:aP Tryz.prog 72:=Tryz.call72
theorem Jn (U:Nat) {p0:tD} {p1:cU} (v0:Value)  (v1:Value)  (v2:Value)  (v3:Value)  (z4:lW) (r:Int) (h:sS U p0 p1=some r):
  aU Tryz.prog 72 #[Value.agg #[vS (p0.1),v0,v1],Value.agg #[v2,v3]] [Sl aH v0 p0.2.1,Sl aE v1 p0.2.2,PF (Value.agg #[vS p0.1,v0,v1]),Sl bI v2 p1.1,S2 aY v3 z4 p1.2] (fun x:Unit=>vI (r)) (fun x l=>l) (fun _ l=>l):=by
 refine aU.of Tryz.func72 rfl Tryz.ntmps72 rfl fun c=>?_
 refine sqR<|aF (aI.box (cs:=[vS (p0.1),v0,v1]) rfl rfl) rfl fun b1=>aF (aI.box (cs:=[v2,v3]) rfl rfl) rfl fun b2=>qkAsg rfl<|dtN<|aG<|sqR<|qkLdA 1 rfl<|bnE h fun r3 w4 h=>aF (aI.callQ Tx (Jr U v0 v1 r3 w4) rfl (lK [0,1,2] rfl)) rfl fun x5=>aA (qX rfl) rfl<|dtN ?_
 refine AG h rfl (fun _ h=>?_) fun _ h=>?_
 ·refine sqR<|qkAsg rfl<|dtN<|aQ<|aJ ?_
  cases h
  exact wN rfl
 refine cJ<|aG<|sqR<|qkLdA 0 rfl<|bnE h fun r7 w8 h=>aF (aI.callQ HU (tA U v2 v3 z4 r7 w8) rfl (lK [3,4] rfl)) rfl fun x9=>aA (qX rfl) rfl<|dtN ?_
 refine AG h rfl (fun _ h=>?_) fun _ h=>?_
 ·refine sqR<|qkAsg rfl<|dtN<|aQ<|aJ ?_
  cases h
  exact wN rfl
 refine cJ<|aG<|midU (fun a11=>uV  a11=some r) (fun a11 b12=>[]) (fun a11 b12=>[]) ?_ ?_
 ·refine sqR<|qkFld rfl<|qkLd 1 rfl<|qkLen (aB.fact 0 rfl) rfl<|qkMove rfl<|dtN<|aN<|loopL (l_ U p0 p1) (fun a15 b16=>[(3,vP b2),(16,v0),(17,vI (List.length p0.2.1:Int)),(18,vI (a15))]) (fun a15 b16=>[bL b2 [v2,v3] 29]) (0:Int) () h SF (aR.ix [0] rfl rfl) ?_
  intro k17 a15 b16 h
  refine sqR<|qkLss rfl<|dtN<|aG ?_
  refine eT h rfl (fun h=>?_) fun h=>?_
  ·refine cJ<|aG<|midU (fun a19=>oT a15 (bJ (l_ U p0 p1) k17) a19=some r) (fun a19 b20=>[(3,vP b2),(16,v0),(17,vI (List.length p0.2.1:Int)),(18,vI (a15))]) (fun a19 b20=>[bL b2 [v2,v3] 29]) ?_ ?_
   ·refine aN<|sqR<|ckE h fun j21 h=>aA (a_ rfl rfl (aB.fact 0 rfl) rfl rfl j21) rfl<|aA (iA (cs:=[vS ((at' p0.2.1 a15).1),vI ((at' p0.2.1 a15).2.1),vI ((at' p0.2.1 a15).2.2.1),vI ((at' p0.2.1 a15).2.2.2.1),vI ((at' p0.2.1 a15).2.2.2.2.1),vI ((at' p0.2.1 a15).2.2.2.2.2)]) rfl (aB.fact 0 rfl) sI rfl rfl rfl rfl j21) rfl<|aF (aI.alloc (cs:=vD4) rfl rfl) rfl fun b22=>bE 0 (vs:=[vS ((at' p0.2.1 a15).1),vI ((at' p0.2.1 a15).2.1),vI ((at' p0.2.1 a15).2.2.1),vI ((at' p0.2.1 a15).2.2.2.1),vI ((at' p0.2.1 a15).2.2.2.2.1),vI ((at' p0.2.1 a15).2.2.2.2.2)]) rfl rfl rfl rfl rfl rfl<|dtN<|aG<|sqR<|qkFld rfl<|qkLd 0 rfl<|qkNeq rfl<|dtN ?_
    refine eT h rfl (fun h=>?_) fun h=>?_
    ·refine oK<|dJ<|uF<|wR ?_
     exact bT () (()) h SF (aR.ix [1] rfl rfl) (aD.refl _ _)
    refine cJ<|sqR<|qkLdA 0 rfl<|qkLdA 1 rfl<|bnE h fun r24 w25 h=>aF (aI.callQ PC (BL U v2 v3 z4 r24 w25) rfl (lK [3,4] rfl)) rfl fun x26=>qkMove rfl<|qkExt rfl<|qkExt rfl<|qkAsg rfl<|qkAsg rfl<|dtN<|aG<|midU (fun a28=>uW a15 (bJ (l_ U p0 p1) k17) a28=some r) (fun a28 b29=>[(3,vP b2),(16,v0),(17,vI (List.length p0.2.1:Int)),(18,vI (a15)),(40,vB (a28))]) (fun a28 b29=>[bL b2 [v2,v3] 29]) ?_ ?_
    ·refine aM<|qkMove rfl<|qkMove rfl<|qkLss rfl<|qkMove rfl ?_
     refine BS h rfl (fun _ h=>?_) fun _ h=>?_
     ·refine gdSkip rfl<|gdSkip rfl<|gdSkip rfl<|gdSkip rfl<|gdSkip rfl<|qkPkT rfl<|dtN ?_
      exact bT (true) () h SF (aR.ix [1] rfl rfl) (aD.refl _ _)
     refine gyMove rfl<|gyMove rfl<|aS rfl (pO rfl rfl) rfl<|aS rfl (wB rfl rfl) rfl<|aS rfl (vR rfl rfl) rfl<|qkPkF rfl<|dtN ?_
     exact bT (decide ((4096:Int)<(wI .i64 ((wI .i64 (r24.2 - r24.1))+(1:Int))))) () h SF (aR.ix [1] rfl rfl) (aD.refl _ _)
    intro a28 b29 h
    refine AG h rfl (fun _ h=>?_) fun _ h=>?_
    ·refine sqR<|qkAsg rfl<|dtN<|aQ<|bQ<|aJ<|aJ<|bQ<|aJ ?_
     cases h
     exact wN rfl
    refine dQ<|inT ?_
    exact gR () (()) h SF rfl
   intro a19 b20 h
   unfold oT at h
   refine aM<|qkAdd rfl<|qkMove rfl<|dtN ?_
   exact yX (wI .i64 (a15+(1:Int))) () h SF rfl
  refine fM ?_
  exact bT () (()) h SF .nil (aD.refl _ _)
 intro a11 b12 h
 unfold uV at h
 refine sqR<|qkAsg rfl<|dtN<|aQ ?_
 cases h
 exact lC rfl
end
section
def tU  (a:Unit):Option (Bool):=
 some (true)
def tV (c:Int) (b:(Int)->Option (Bool)) (a:Bool):Option (Bool):=
 if a=true then(some (false))else(b (wI .i64 (c+(1:Int))))
def nF (p0:e_) (p1:aL) (a:Int) (b:(Int)->Option (Bool)):Option (Bool):=
 if a<(List.length p1:Int)then(ck (0<=a∧a<(List.length p1:Int)) (ck (0<=a∧a<(List.length p0:Int)) (if(at' p1 a)<((at' p0 a).1)then(tV a b (true))else(ck (0<=a∧a<(List.length p0:Int)) (tV a b (decide (((at' p0 a).2)<(at' p1 a))))))))else(tU  (()))
def vD (U:Nat) (p0:e_) (p1:aL):Option (Bool):=
 if(List.length p1:Int)≠(List.length p0:Int)then(some (false))else(bJ (nF p0 p1) U (0:Int))
theorem Wu:aP Tryz.prog 112:=Tryz.call112
theorem IT (U:Nat) {p0:e_} {p1:aL} (v0:Value)  (v1:Value) (r:Bool) (h:vD U p0 p1=some r):
  aU Tryz.prog 112 #[v0,v1] [Sl aY v0 p0,Sl bI v1 p1] (fun x:Unit=>vB (r)) (fun x l=>l) (fun _ l=>l):=by
 refine aU.of Tryz.func112 rfl Tryz.ntmps112 rfl fun c=>?_
 refine sqR<|qkAsg rfl<|dtN<|aG<|sqR<|qkMove rfl<|qkLen (aB.fact 1 rfl) rfl<|qkMove rfl<|qkLen (aB.fact 0 rfl) rfl<|qkNeq rfl<|dtN ?_
 refine eT h rfl (fun h=>?_) fun h=>?_
 ·refine sqR<|qkAsg rfl<|dtN<|aQ<|aJ ?_
  cases h
  exact lC rfl
 refine cJ<|aG<|midU (fun a2=>tU  a2=some r) (fun a2 b3=>[]) (fun a2 b3=>[]) ?_ ?_
 ·refine sqR<|qkMove rfl<|qkLen (aB.fact 1 rfl) rfl<|qkMove rfl<|dtN<|aN<|loopL (nF p0 p1) (fun a6 b7=>[(0,v0),(12,v1),(13,vI (List.length p1:Int)),(14,vI (a6))]) (fun a6 b7=>[]) (0:Int) () h SF (aR.refl _) ?_
  intro k8 a6 b7 h
  refine sqR<|qkLss rfl<|dtN<|aG ?_
  refine eT h rfl (fun h=>?_) fun h=>?_
  ·refine cJ<|aG<|aN<|sqR<|qkMove rfl<|ckE h fun j10 h=>aA (a_ rfl rfl (aB.fact 1 rfl) rfl rfl j10) rfl<|aA (bV rfl (aB.fact 1 rfl) rfl rfl rfl eD j10) rfl<|qkAsg rfl<|qkAsg rfl<|dtN<|aG<|midU (fun a12=>tV a6 (bJ (nF p0 p1) k8) a12=some r) (fun a12 b13=>[(0,v0),(12,v1),(13,vI (List.length p1:Int)),(14,vI (a6)),(34,vB (a12))]) (fun a12 b13=>[]) ?_ ?_
   ·refine aM<|qkMove rfl<|qkMove rfl<|qkMove rfl<|ckE h fun j15 h=>aA (a_ rfl rfl (aB.fact 0 rfl) rfl rfl j15) rfl ?_
    refine aA (CP (i:=0) rfl rfl rfl rfl rfl (by decide)) rfl ?_
    refine aA (qN rfl (aB.fact 0 rfl) rfl rfl rfl A_ j15) rfl<|qkLss rfl<|qkMove rfl ?_
    refine BS h rfl (fun _ h=>?_) fun _ h=>?_
    ·refine gdSkip rfl<|gdSkip rfl<|gdSkip rfl<|gdSkip rfl<|gdSkip rfl<|gdSkip rfl<|gdSkip rfl<|qkPkT rfl<|dtN ?_
     exact gR (true) () h SF rfl
    refine gyMove rfl<|gyMove rfl<|gyMove rfl<|ckE h fun j17 h=>aS rfl (a_ rfl rfl (aB.fact 0 rfl) rfl rfl j17) rfl ?_
    refine aS rfl (CP (i:=1) rfl rfl rfl rfl rfl (by decide)) rfl ?_
    refine aS rfl (qN rfl (aB.fact 0 rfl) rfl rfl rfl Oe j17) rfl<|aS rfl (vR rfl rfl) rfl<|qkPkF rfl<|dtN ?_
    exact gR (decide (((at' p0 a6).2)<(at' p1 a6))) () h SF rfl
   intro a12 b13 h
   refine AG h rfl (fun _ h=>?_) fun _ h=>?_
   ·refine sqR<|qkAsg rfl<|dtN<|aQ<|bQ<|aJ<|aJ<|bQ<|aJ ?_
    cases h
    exact lC rfl
   refine dQ<|inT<|aM<|qkAdd rfl<|qkMove rfl<|dtN ?_
   exact yX (wI .i64 (a6+(1:Int))) () h SF rfl
  refine fM ?_
  exact gR () (()) h SF rfl
 intro a2 b3 h
 unfold tU at h
 refine sqR<|qkAsg rfl<|dtN<|aQ ?_
 cases h
 exact lC rfl
end
section
def rY  (a:Unit):Option (Bool):=
 some (true)
def pF (U:Nat) (p0:fQ) (p1:aT) (a6:Int) (ag5:(Int)->Option (Bool)):Option (Bool):=
 if a6<(List.length p0:Int)then(ck (0<=a6∧a6<(List.length p0:Int)) (ck (0<=a6∧a6<(List.length p1:Int)) (Option.bind (vD U (at' p0 a6) (at' p1 a6)) fun r12=>(if(!r12)=true then(some (false))else(ag5 (wI .i64 (a6+(1:Int))))))))else(rY  (()))
def tT (U:Nat) (p0:fQ) (p1:aT):Option (Bool):=
 if(List.length p1:Int)≠(List.length p0:Int)then(some (false))else(bJ (pF U p0 p1) U (0:Int))
theorem Ze:aP Tryz.prog 73:=Tryz.call73
theorem GT (U:Nat) {p0:fQ} {p1:aT} (v0:Value)  (z1:lW)  (v2:Value)  (z3:oC) (r:Bool) (h:tT U p0 p1=some r):
  aU Tryz.prog 73 #[v0,v2] [S2 aY v0 z1 p0,S2 bI v2 z3 p1] (fun x:Unit=>vB (r)) (fun x l=>l) (fun _ l=>l):=by
 refine aU.of Tryz.func73 rfl Tryz.ntmps73 rfl fun c=>?_
 refine sqR<|qkAsg rfl<|dtN<|aG<|sqR<|qkMove rfl<|aA (iW rfl (aB.fact 1 rfl) rfl) rfl<|qkMove rfl<|aA (iW rfl (aB.fact 0 rfl) rfl) rfl<|qkNeq rfl<|dtN ?_
 refine eT h rfl (fun h=>?_) fun h=>?_
 ·refine sqR<|qkAsg rfl<|dtN<|aQ<|aJ ?_
  cases h
  exact lC rfl
 refine cJ<|aG<|midU (fun a2=>rY  a2=some r) (fun a2 b3=>[]) (fun a2 b3=>[]) ?_ ?_
 ·refine sqR<|qkMove rfl<|aA (iW rfl (aB.fact 0 rfl) rfl) rfl<|qkMove rfl<|dtN<|aN<|loopL (pF U p0 p1) (fun a6 b7=>[(1,v2),(12,v0),(13,vI (List.length p0:Int)),(14,vI (a6))]) (fun a6 b7=>[]) (0:Int) () h SF (aR.refl _) ?_
  intro k8 a6 b7 h
  refine sqR<|qkLss rfl<|dtN<|aG ?_
  refine eT h rfl (fun h=>?_) fun h=>?_
  ·refine cJ<|aG<|aN<|sqR<|qkMove rfl<|ckE h fun j10 h=>aA (cY rfl rfl (aB.fact 0 rfl) rfl rfl j10) rfl<|aA (cW rfl (aB.fact 0 rfl) rfl rfl j10) rfl<|qkAsg rfl<|qkAsg rfl<|dtN<|sqR<|qkMove rfl<|qkMove rfl<|qkMove rfl<|ckE h fun j11 h=>aA (cY rfl rfl (aB.fact 1 rfl) rfl rfl j11) rfl<|aA (cW rfl (aB.fact 1 rfl) rfl rfl j11) rfl<|bnE h fun r12 w13 h=>aF (aI.callQ Wu (IT U ((at' z1 a6).1) ((at' z3 a6).1) r12 w13) rfl (aD.cons (aB.el (aB.fact 0 rfl) j10.1 j10.2) (aD.cons (aB.el (aB.fact 1 rfl) j11.1 j11.2) .nil))) rfl fun x14=>aA (qX rfl) rfl<|dtN ?_
   refine AG h rfl (fun _ h=>?_) fun _ h=>?_
   ·refine sqR<|qkAsg rfl<|dtN<|aQ<|bQ<|aJ<|aJ<|bQ<|aJ ?_
    cases h
    exact lC rfl
   refine dQ<|inT<|aM<|qkAdd rfl<|qkMove rfl<|dtN ?_
   exact yX (wI .i64 (a6+(1:Int))) () h SF rfl
  refine fM ?_
  exact gR () (()) h SF rfl
 intro a2 b3 h
 unfold rY at h
 refine sqR<|qkAsg rfl<|dtN<|aQ ?_
 cases h
 exact lC rfl
end
end Go.Proofs.YtjlbcgddhnjcjaaGreatDoor
end
