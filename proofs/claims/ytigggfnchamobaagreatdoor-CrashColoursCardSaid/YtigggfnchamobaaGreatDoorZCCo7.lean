/- Models of functions with their proofs, by program (gen/xt.py), and plain laws, in one text. Conditions: none. -/
import Derived.Test.YtigggfnchamobaaGreatDoorZCCo2
import Derived.Test.YtigggfnchamobaaGreatDoorZCCo5
import Derived.Test.YtigggfnchamobaaGreatDoorZCCo6
set_option linter.unusedVariables false
set_option linter.unusedSimpArgs false
set_option maxHeartbeats 4000000
set_option maxRecDepth 20000
section
namespace Go.Proofs.YtigggfnchamobaaGreatDoor
open Go.Sx
def rX  (a2:Unit):Option (Bool):=
 some (true)
def oV (a6:Int) (ag5:(Int)->Option (Bool)) (a12:Bool):Option (Bool):=
 if a12=true then(some (false))else(ag5 (wI .i64 (a6+(1:Int))))
def j_ (p0:List (Int×Int)) (p1:List (Int)) (a6:Int) (ag5:(Int)->Option (Bool)):Option (Bool):=
 if a6<(List.length p1:Int)then(ck (0<=a6∧a6<(List.length p1:Int)) (ck (0<=a6∧a6<(List.length p0:Int)) (if(at' p1 a6)<((at' p0 a6).1)then(oV a6 ag5 (true))else(ck (0<=a6∧a6<(List.length p0:Int)) (oV a6 ag5 (decide (((at' p0 a6).2)<(at' p1 a6))))))))else(rX  (()))
def qB (fuel:Nat) (p0:List (Int×Int)) (p1:List (Int)):Option (Bool):=
 if(List.length p1:Int)≠(List.length p0:Int)then(some (false))else(bK (j_ p0 p1) fuel (0:Int))
theorem RQ:aV Tryz.prog 132:=Tryz.call132
theorem Fy (fuel:Nat) {p0:List (Int×Int)} {p1:List (Int)} (v0:Value)  (v1:Value) (r:Bool) (h:qB fuel p0 p1=some r):
  bA Tryz.prog 132 #[v0,v1] [Sl aK v0 p0,Sl aR v1 p1] (fun x:Unit=>Value.bool (r)) (fun x l=>l) (fun _ l=>l):=by
 refine bA.of (vs:=[v0,v1]) Tryz.func132 rfl Tryz.ntmps132 rfl fun c=>?_
 unfold qB at h
 refine sqR<|qkAsg rfl<|dtN<|aO<|sqR<|qkMove rfl<|aB (cB rfl (aC.fact 1 rfl) rfl) rfl<|qkMove rfl<|aB (cB rfl (aC.fact 0 rfl) rfl) rfl<|aB (mM rfl rfl) rfl<|dtN ?_
 refine eR h rfl (fun _ h=>?_) fun _ h=>?_
 ·refine sqR<|qkAsg rfl<|dtN<|aX<|aM ?_
  cases h
  exact lN rfl
 refine aW<|aI<|aO<|bL (A:=Unit) (B:=Unit) (fun a2=>rX  a2=some r) (fun a2 b3=>[]) (fun a2 b3=>[]) (fun a2 b3=>[Sl aK v0 p0,Sl aR v1 p1]) ?_ ?_
 ·refine sqR<|qkMove rfl<|aB (cB rfl (aC.fact 1 rfl) rfl) rfl<|qkMove rfl<|dtN<|aU<|bY (A:=Int) (B:=Unit) (j_ p0 p1) (fun a6 b7=>[(0,v0),(12,v1),(13,Value.int .i64 (List.length p1:Int)),(14,Value.int .i64 (a6))]) (fun a6 b7=>[]) (fun a6 b7=>[Sl aK v0 p0,Sl aR v1 p1]) (0:Int) (()) h SF (aP.refl _) (aA.refl _ _) ?_
  clear h
  intro k8 a6 b7 h
  unfold j_ at h
  refine sqR<|qkLss rfl<|dtN<|aO ?_
  refine eR h rfl (fun _ h=>?_) fun _ h=>?_
  ·refine aW<|aI<|aO<|aU<|sqR<|qkMove rfl ?_
   have⟨hc10,h⟩:=aN h
   refine aB (bE rfl rfl (aC.fact 1 rfl) rfl rfl hc10) rfl<|aB (bZ rfl (aC.fact 1 rfl) rfl rfl rfl dU hc10) rfl<|qkAsg rfl<|qkAsg rfl<|dtN<|aO<|bL (A:=Bool) (B:=Unit) (fun a12=>oV a6 (bK (j_ p0 p1) k8) a12=some r) (fun a12 b13=>[(0,v0),(12,v1),(13,Value.int .i64 (List.length p1:Int)),(14,Value.int .i64 (a6)),(34,Value.bool (a12))]) (fun a12 b13=>[]) (fun a12 b13=>[Sl aK v0 p0,Sl aR v1 p1]) ?_ ?_
   ·refine aS<|qkMove rfl<|qkMove rfl<|qkMove rfl ?_
    have⟨hc15,h⟩:=aN h
    refine aB (bE rfl rfl (aC.fact 0 rfl) rfl rfl hc15) rfl ?_
    refine aB (AD (i:=0) rfl rfl rfl rfl rfl (by decide)) rfl ?_
    refine aB (pI rfl (aC.fact 0 rfl) rfl rfl rfl yK hc15) rfl<|qkLss rfl<|qkMove rfl ?_
    refine Bg h rfl (fun _ h=>?_) fun _ h=>?_
    ·refine gdSkip rfl<|gdSkip rfl<|gdSkip rfl<|gdSkip rfl<|gdSkip rfl<|gdSkip rfl<|gdSkip rfl<|aB (cI rfl rfl) rfl<|dtN ?_
     exact jA (true) (()) h SF rfl
    refine gyMove rfl<|gyMove rfl<|gyMove rfl ?_
    have⟨hc17,h⟩:=aN h
    refine a_ rfl (bE rfl rfl (aC.fact 0 rfl) rfl rfl hc17) rfl ?_
    refine a_ rfl (AD (i:=1) rfl rfl rfl rfl rfl (by decide)) rfl ?_
    refine a_ rfl (pI rfl (aC.fact 0 rfl) rfl rfl rfl Kq hc17) rfl<|a_ rfl (tC rfl rfl) rfl<|aB (cX rfl rfl) rfl<|dtN ?_
    exact jA (decide (((at' p0 a6).2)<(at' p1 a6))) (()) h SF rfl
   clear h
   intro a12 b13 h
   unfold oV at h
   refine zN h rfl (fun _ h=>?_) fun _ h=>?_
   ·refine sqR<|qkAsg rfl<|dtN<|aX<|bP<|aM<|aM<|bP<|aM ?_
    cases h
    exact lN rfl
   refine aW<|bV<|aI<|aS<|qkAdd rfl<|qkMove rfl<|dtN ?_
   exact xG (wI .i64 (a6+(1:Int))) (()) h SF rfl
  refine cE<|aY<|aY<|dJ<|aI ?_
  exact jA (()) (()) h SF rfl
 clear h
 intro a2 b3 h
 unfold rX at h
 refine sqR<|qkAsg rfl<|dtN<|aX ?_
 cases h
 exact lN rfl
end Go.Proofs.YtigggfnchamobaaGreatDoor
end
section
namespace Go.Proofs.YtigggfnchamobaaGreatDoor
open Go.Sx
def qO  (a2:Unit):Option (Bool):=
 some (true)
def kR (fuel:Nat) (p0:List (List (Int×Int))) (p1:List (List (Int))) (a6:Int) (ag5:(Int)->Option (Bool)):Option (Bool):=
 if a6<(List.length p0:Int)then(ck (0<=a6∧a6<(List.length p0:Int)) (ck (0<=a6∧a6<(List.length p1:Int)) (Option.bind (qB fuel (at' p0 a6) (at' p1 a6)) fun r12=>(if(!r12)=true then(some (false))else(ag5 (wI .i64 (a6+(1:Int))))))))else(qO  (()))
def oT (fuel:Nat) (p0:List (List (Int×Int))) (p1:List (List (Int))):Option (Bool):=
 if(List.length p1:Int)≠(List.length p0:Int)then(some (false))else(bK (kR fuel p0 p1) fuel (0:Int))
theorem RH:aV Tryz.prog 109:=Tryz.call109
theorem DS (fuel:Nat) {p0:List (List (Int×Int))} {p1:List (List (Int))} (v0:Value)  (z1:List (Value×List (Int×Int)))  (v2:Value)  (z3:List (Value×List (Int))) (r:Bool) (h:oT fuel p0 p1=some r):
  bA Tryz.prog 109 #[v0,v2] [S2 aK v0 z1 p0,S2 aR v2 z3 p1] (fun x:Unit=>Value.bool (r)) (fun x l=>l) (fun _ l=>l):=by
 refine bA.of (vs:=[v0,v2]) Tryz.func109 rfl Tryz.ntmps109 rfl fun c=>?_
 unfold oT at h
 refine sqR<|qkAsg rfl<|dtN<|aO<|sqR<|qkMove rfl<|aB (jX rfl (aC.fact 1 rfl) rfl) rfl<|qkMove rfl<|aB (jX rfl (aC.fact 0 rfl) rfl) rfl<|aB (mM rfl rfl) rfl<|dtN ?_
 refine eR h rfl (fun _ h=>?_) fun _ h=>?_
 ·refine sqR<|qkAsg rfl<|dtN<|aX<|aM ?_
  cases h
  exact lN rfl
 refine aW<|aI<|aO<|bL (A:=Unit) (B:=Unit) (fun a2=>qO  a2=some r) (fun a2 b3=>[]) (fun a2 b3=>[]) (fun a2 b3=>[S2 aK v0 z1 p0,S2 aR v2 z3 p1]) ?_ ?_
 ·refine sqR<|qkMove rfl<|aB (jX rfl (aC.fact 0 rfl) rfl) rfl<|qkMove rfl<|dtN<|aU<|bY (A:=Int) (B:=Unit) (kR fuel p0 p1) (fun a6 b7=>[(1,v2),(12,v0),(13,Value.int .i64 (List.length p0:Int)),(14,Value.int .i64 (a6))]) (fun a6 b7=>[]) (fun a6 b7=>[S2 aK v0 z1 p0,S2 aR v2 z3 p1]) (0:Int) (()) h SF (aP.refl _) (aA.refl _ _) ?_
  clear h
  intro k8 a6 b7 h
  unfold kR at h
  refine sqR<|qkLss rfl<|dtN<|aO ?_
  refine eR h rfl (fun _ h=>?_) fun _ h=>?_
  ·refine aW<|aI<|aO<|aU<|sqR<|qkMove rfl ?_
   have⟨hc10,h⟩:=aN h
   refine aB (cS rfl rfl (aC.fact 0 rfl) rfl rfl hc10) rfl<|aB (cT rfl (aC.fact 0 rfl) rfl rfl hc10) rfl<|qkAsg rfl<|qkAsg rfl<|dtN<|sqR<|qkMove rfl<|qkMove rfl<|qkMove rfl ?_
   have⟨hc11,h⟩:=aN h
   refine aB (cS rfl rfl (aC.fact 1 rfl) rfl rfl hc11) rfl<|aB (cT rfl (aC.fact 1 rfl) rfl rfl hc11) rfl ?_
   have⟨r12,hr13,h⟩:=fJ h
   refine aL (aJ RQ (Fy fuel ((at' z1 a6).1) ((at' z3 a6).1) r12 hr13) rfl (aA.cons (aC.el (aC.fact 0 rfl) hc10.1 hc10.2) (aA.cons (aC.el (aC.fact 1 rfl) hc11.1 hc11.2) .nil)) (fun _ _=>rfl)) rfl fun x14=>aB (qR rfl) rfl<|dtN ?_
   refine zN h rfl (fun _ h=>?_) fun _ h=>?_
   ·refine sqR<|qkAsg rfl<|dtN<|aX<|bP<|aM<|aM<|bP<|aM ?_
    cases h
    exact lN rfl
   refine aW<|bV<|aI<|aS<|qkAdd rfl<|qkMove rfl<|dtN ?_
   exact xG (wI .i64 (a6+(1:Int))) (()) h SF rfl
  refine cE<|aY<|aY<|dJ<|aI ?_
  exact jA (()) (()) h SF rfl
 clear h
 intro a2 b3 h
 unfold qO at h
 refine sqR<|qkAsg rfl<|dtN<|aX ?_
 cases h
 exact lN rfl
end Go.Proofs.YtigggfnchamobaaGreatDoor
end
section
namespace Go.Proofs.YtigggfnchamobaaGreatDoor
open Go.Sx
def nS (fuel:Nat) (p0:ByteArray×(List (ByteArray×Int×Int×Int×Int×Int))×(List (ByteArray×(Value×List (Int×Int))×(Value×List (Int×(Value×List (Int×Int))))))) (p1:List (Int)×(List (List (Int×Int)))) (p2:List (List (Int))):Option (Int):=
 Option.bind (pC fuel ((p0.1,p0.2.1,p0.2.2)) ((p1.1,p1.2))) fun r3=>(if r3≠(0:Int)then(some (r3))else(Option.bind (jM fuel ((p0.1,p0.2.1,p0.2.2)) ((p1.1,p1.2))) fun r7=>(Option.bind (oT fuel r7 p2) fun r10=>(if(!r10)=true then(some (10:Int))else(some (0:Int))))))
theorem Uz:aV Tryz.prog 78:=Tryz.call78
theorem Fx (fuel:Nat) {p0:ByteArray×(List (ByteArray×Int×Int×Int×Int×Int))×(List (ByteArray×(Value×List (Int×Int))×(Value×List (Int×(Value×List (Int×Int))))))} {p1:List (Int)×(List (List (Int×Int)))} {p2:List (List (Int))} (v0:Value)  (v1:Value)  (v2:Value)  (v3:Value)  (z4:List (Value×List (Int×Int)))  (v5:Value)  (z6:List (Value×List (Int))) (r:Int) (h:nS fuel p0 p1 p2=some r):
  bA Tryz.prog 78 #[Value.agg #[Value.string (p0.1),v0,v1],Value.agg #[v2,v3],v5] [Sl aH v0 p0.2.1,Sl aG v1 p0.2.2,PF (Value.agg #[Value.string p0.1,v0,v1]),Sl aR v2 p1.1,S2 aK v3 z4 p1.2,S2 aR v5 z6 p2] (fun x:Unit=>Value.int .i64 (r)) (fun x l=>l) (fun _ l=>l):=by
 refine bA.of (vs:=[Value.agg #[Value.string (p0.1),v0,v1],Value.agg #[v2,v3],v5]) Tryz.func78 rfl Tryz.ntmps78 rfl fun c=>?_
 unfold nS at h
 refine sqR<|aL (aQ.box (cs:=[Value.string (p0.1),v0,v1]) rfl rfl) rfl fun b1=>aL (aQ.box (cs:=[v2,v3]) rfl rfl) rfl fun b2=>qkAsg rfl<|dtN<|aO<|sqR<|qkLdA 1 rfl<|qkLdA 0 rfl ?_
 have⟨r3,hr4,h⟩:=fJ h
 refine aL (aJ RG (FN fuel v0 v1 v2 v3 z4 r3 hr4) rfl (aA.cons (aC.fact 0 rfl) (aA.cons (aC.fact 1 rfl) (aA.cons (aC.fact 2 rfl) (aA.cons (aC.fact 3 rfl) (aA.cons (aC.fact 4 rfl) .nil))))) (fun _ _=>rfl)) rfl fun x5=>qkAsg rfl<|dtN<|sqR<|qkMove rfl<|aB (mM rfl rfl) rfl<|dtN ?_
 refine eR h rfl (fun _ h=>?_) fun _ h=>?_
 ·refine sqR<|qkMove rfl<|qkAsg rfl<|dtN<|aX<|aM ?_
  cases h
  exact u_ rfl
 refine aW<|aI<|aO<|sqR<|qkLdA 1 rfl<|qkLdA 0 rfl ?_
 have⟨r7,hr8,h⟩:=fJ h
 refine aL (aJ O_ (Au fuel v0 v1 v2 v3 z4 r7 hr8) rfl (aA.cons (aC.fact 0 rfl) (aA.cons (aC.fact 1 rfl) (aA.cons (aC.fact 2 rfl) (aA.cons (aC.fact 3 rfl) (aA.cons (aC.fact 4 rfl) .nil))))) (fun _ _=>rfl)) rfl fun x9=>qkMove rfl ?_
 have⟨r10,hr11,h⟩:=fJ h
 refine aL (aJ RH (DS fuel x9.1 (List.zip x9.2 r7) v5 z6 r10 hr11) rfl (aA.cons (bH (i:=0) (j:=1) rfl rfl bO) (aA.cons (aC.fact 5 rfl) .nil)) (fun _ _=>rfl)) rfl fun x12=>aB (qR rfl) rfl<|dtN ?_
 refine zN h rfl (fun _ h=>?_) fun _ h=>?_
 ·refine sqR<|qkAsg rfl<|dtN<|aX<|aM ?_
  cases h
  exact u_ rfl
 refine aW<|aI<|sqR<|qkAsg rfl<|dtN<|aX ?_
 cases h
 exact u_ rfl
end Go.Proofs.YtigggfnchamobaaGreatDoor
end
section
namespace Go.Proofs.YtigggfnchamobaaGreatDoor
open Go.Sx
def tR  (a5:List (List (Int))):Option (List (List (Int))):=
 some (a5)
def nU (p0:List (List (Int))) (a11:Int×List (List (Int))) (ag10:(Int×List (List (Int)))->Option (List (List (Int)))):Option (List (List (Int))):=
 if a11.1<(List.length p0:Int)then(ck (0<=a11.1∧a11.1<(List.length p0:Int)) (ck ((List.length ([]:List Int):Int)+(List.length (at' p0 a11.1):Int)<=1099511627) (ck (0<=a11.1∧a11.1<(List.length a11.2:Int)) (ag10 ((wI .i64 (a11.1+(1:Int))),(List.set a11.2 (Int.toNat a11.1) (([]:List Int)++(at' p0 a11.1))))))))else(tR  (a11.2))
def pE (fuel:Nat) (p0:List (List (Int))):Option (List (List (Int))):=
 ck (0<=(List.length p0:Int)∧(List.length p0:Int)<=1099511627) (bK (nU p0) fuel ((0:Int),(List.replicate (Int.toNat (List.length p0:Int)) ([]:List Int))))
theorem LE:aV Tryz.prog 110:=Tryz.call110
theorem Bo (fuel:Nat) {p0:List (List (Int))} (v0:Value)  (z1:List (Value×List (Int))) (r:List (List (Int))) (h:pE fuel p0=some r):
  bA Tryz.prog 110 #[v0] [S2 aR v0 z1 p0] (fun x:Value×List Value=>x.1) (fun x l=>Ar dK.raw x.1 x.2::jP cA x.2 r::l) (fun _ l=>l):=by
 refine bA.of (vs:=[v0]) Tryz.func110 rfl Tryz.ntmps110 rfl fun c=>?_
 unfold pE at h
 refine sqR<|qkAsg rfl<|dtN<|sqR<|qkMove rfl<|aB (jX rfl (aC.fact 0 rfl) rfl) rfl ?_
 have⟨hc1,h⟩:=aN h
 refine jR (uT cA (Int.toNat (List.length p0:Int)))<|aL (nZ (e:=dK.raw) (Value.slice none 0 0) rfl rfl rfl rfl hc1 rfl rfl rfl) rfl fun u2=>qkAsg rfl<|dtN<|aO<|bL (A:=List (List (Int))) (B:=List Value) (fun a5=>tR  a5=some r) (fun a5 b6=>[(3,u2)]) (fun a5 b6=>[Ar dK.raw u2 b6,jP cA b6 a5]) (fun a5 b6=>[S2 aR v0 z1 p0]) ?_ ?_
 ·refine sqR<|qkMove rfl<|aB (jX rfl (aC.fact 0 rfl) rfl) rfl<|qkMove rfl<|dtN<|aU<|bY (A:=Int×List (List (Int))) (B:=List Value) (nU p0) (fun a11 b12=>[(3,u2),(9,v0),(10,Value.int .i64 (List.length p0:Int)),(11,Value.int .i64 (a11.1))]) (fun a11 b12=>[Ar dK.raw u2 b12,jP cA b12 a11.2]) (fun a11 b12=>[S2 aR v0 z1 p0]) ((0:Int),(List.replicate (Int.toNat (List.length p0:Int)) ([]:List Int))) (List.replicate (Int.toNat (List.length p0:Int)) (Value.slice none 0 0)) h SF (aP.refl _) (aA.refl _ _) ?_
  clear h
  intro k13 a11 b12 h
  unfold nU at h
  refine sqR<|qkLss rfl<|dtN<|aO ?_
  refine eR h rfl (fun _ h=>?_) fun _ h=>?_
  ·refine aW<|aI<|aO<|aU<|sqR<|qkMove rfl ?_
   have⟨hc15,h⟩:=aN h
   refine aB (cS rfl rfl (aC.fact 0 rfl) rfl rfl hc15) rfl<|aB (cT rfl (aC.fact 0 rfl) rfl rfl hc15) rfl<|qkAsg rfl<|qkAsg rfl<|dtN<|aS<|qkMove rfl<|qkMove rfl<|qkMove rfl<|jR (iU cA) ?_
   have⟨hc17,h⟩:=aN h
   refine aL (gH 0 cR rfl rfl rfl (aC.el (aC.fact 0 rfl) hc15.1 hc15.2) rfl rfl rfl rfl hc17 rfl) rfl fun u16=>?_
   have⟨hc18,h⟩:=aN h
   refine aB (cS rfl rfl (bH (i:=1) (j:=2) rfl rfl cR) rfl rfl hc18) rfl<|b_ (Know.one ((aZ (aC.res 0 rfl) cR))) fun ho19=>jR (uB (k:=a11.1) 2 0 rfl rfl rfl hc18) ?_
   refine nY 0 1 ⟨hc18.1,by first|exact hc18.2|simpa using hc18.2⟩ rfl rfl rfl rfl rfl (by simp) ho19 rfl ?_
   refine eD<|bV<|aI<|aS<|qkAdd rfl<|qkMove rfl<|dtN ?_
   exact xG ((wI .i64 (a11.1+(1:Int))),(List.set a11.2 (Int.toNat a11.1) (([]:List Int)++(at' p0 a11.1)))) (List.set b12 (Int.toNat a11.1) u16) h SF rfl
  refine cE<|aY<|aY<|dJ<|aI ?_
  exact jA (a11.2) (b12) h SF rfl
 clear h
 intro a5 b6 h
 unfold tR at h
 refine sqR<|qkMove rfl<|qkAsg rfl<|dtN<|aX ?_
 cases h
 exact fO (u2,b6) rfl rfl (RV.tmp rfl) (aP.refl _) aA.nil
end Go.Proofs.YtigggfnchamobaaGreatDoor
end
section
namespace Go.Proofs.YtigggfnchamobaaGreatDoor
open Go Go.Sx
abbrev DL:=ByteArray×(List DY)×(List vI)
structure Bw (g:GR) (vars:List DY):Prop where
 len:vars.length<=20
 small:∀x,x<vars.length->Ab (at' vars (x:Int))
 kind:∀x,x<vars.length->(at' vars (x:Int)).2.1=1∨(at' vars (x:Int)).2.1=2∨(at' vars (x:Int)).2.1=3
 range:∀x,x<vars.length->(at' vars (x:Int)).2.1=1 -> -100000<=lo g (at' vars (x:Int)) 0∧lo g (at' vars (x:Int)) 0<=hi g (at' vars (x:Int)) 0∧hi g (at' vars (x:Int)) 0 - lo g (at' vars (x:Int)) 0+1<=4096
theorem Vf {g:GR} (hV:VG g):tQ 1000 g.1=some (jW g g.1.length):=by
 have h24:=hV.n24
 have hlen:=hV.len
 have h1:=hV.n1
 have hid:0<=at' g.1 ((0:Nat):Int):=(hV.node 0 (by omega)).id.1
 unfold tQ
 rw[if_neg (by omega),dV (by omega)]
 have:=eI (step:=pF g.1) (K:=some (jW g g.1.length)) (g.1.length - 1) (fun k=>(jW g (k+1),((k+1:Nat):Int))) (fun k ag hk=>by
  unfold pF
  dsimp only
  rw[if_pos (by omega),dV (by omega),eT (by omega)];rfl) (fun ag=>by
  unfold pF uP
  dsimp only
  rw[if_neg (by omega),show g.1.length - 1+1=g.1.length by omega]) 1000 (by omega)
 have e:jW g (0+1)=at' g.1 (0:Int):=by
  show max (jW g 0) (at' g.1 ((0:Nat):Int))=_
  simp only[jW]
  have:at' g.1 ((0:Nat):Int)=at' g.1 (0:Int):=rfl
  omega
 rw[e]at this
 exact this
theorem Gh {g:GR} (hV:VG g) {x:DY} (hs:Ab x) (hk:x.2.1=1∨x.2.1=2∨x.2.1=3) {v:Nat} (hv:v<g.2.length):iK 1000 x g (v:Int)=some (lo g x v,hi g x v):=by
 obtain⟨⟨s1,s2⟩,⟨s3,s4⟩,s5,s6⟩:=hs
 have h24:=hV.n24
 have hlen:=hV.len
 have hm:=Fg hV g.1.length (by omega)
 have p1:0<=x.2.2.2.2.1*(g.1.length:Int):=Int.mul_nonneg s3 (by omega)
 have p2:x.2.2.2.2.1*(g.1.length:Int)<=100000*24:=Int.mul_le_mul s4 (by omega) (by omega) (by omega)
 have p3:0<=x.2.2.2.2.2*jW g g.1.length:=Int.mul_nonneg s5 hm.1
 have p4:x.2.2.2.2.2*jW g g.1.length<=100000*255:=Int.mul_le_mul s6 hm.2 hm.1 (by omega)
 have b1:jU 1000 x g (v:Int)=some (x.2.2.1,x.2.2.2.1+x.2.2.2.2.1*(g.2.length:Int)+x.2.2.2.2.2*jW g g.1.length):=by
  unfold jU
  rw[bN (Vf hV),wr (x:=x.2.2.2.2.1*_) (by omega) (by omega),wr (x:=x.2.2.2.2.2*_) (by omega) (by omega),wr (x:=x.2.2.2.1+_) (by omega) (by omega),wr (by omega) (by omega),hlen]
 have b3:jV 1000 x g (v:Int)=some (-1,((row g v).length:Int) - 1):=by
  have hdeg:=(hV.node v hv).deg
  unfold jV
  rw[dV (by omega)]
  show some ((-1:Int),wI .i64 (((row g v).length:Int) - 1))=_
  rw[wr (by omega) (by omega)]
 have it:∀(f:Nat) (a:Int),bK (dC 1000 x g (v:Int)) (f+1) a=dC 1000 x g (v:Int) a (bK (dC 1000 x g (v:Int)) f):=fun f a=>rfl
 have st:∀(f:Nat) (a:Int),a=0∨a=1∨a=2->bK (dC 1000 x g (v:Int)) (f+1) a=if a=0 then(if 1=x.2.1 then jU 1000 x g (v:Int)else bK (dC 1000 x g (v:Int)) f 1)else if a=1 then(if 2=x.2.1 then pM 1000 x g (v:Int)else bK (dC 1000 x g (v:Int)) f 2)else(if 3=x.2.1 then jV 1000 x g (v:Int)else bK (dC 1000 x g (v:Int)) f 3):=by
  intro f a ha
  rw[it]
  generalize bK (dC 1000 x g (v:Int)) f=G
  unfold dC kQ
  rcases ha with rfl|rfl|rfl
  ·rw[if_pos (by decide),dV (by decide),if_pos rfl,if_pos rfl]
   split
   ·rw[b1];rfl
   ·rfl
  ·rw[if_pos (by decide),dV (by decide),if_neg (show¬(1:Int)=0 by decide),if_pos rfl,if_neg (show¬(1:Int)=0 by decide),if_pos rfl]
   split
   ·rfl
   ·rfl
  ·rw[if_pos (by decide),dV (by decide),if_neg (show¬(2:Int)=0 by decide),if_neg (show¬(2:Int)=1 by decide),if_neg (show¬(2:Int)=0 by decide),if_neg (show¬(2:Int)=1 by decide)]
   split
   ·rw[b3];rfl
   ·rfl
 unfold iK lo hi
 rcases hk with h|h|h
 ·rw[st 999 0 (.inl rfl),if_pos rfl,if_pos h.symm,b1,h,if_neg (by decide),if_neg (by decide),if_neg (by decide),if_neg (by decide)]
 ·rw[st 999 0 (.inl rfl),if_pos rfl,if_neg (by omega),st 998 1 (.inr (.inl rfl)),if_neg (by decide),if_pos rfl,if_pos h.symm,h,if_pos rfl,if_pos rfl];rfl
 ·rw[st 999 0 (.inl rfl),if_pos rfl,if_neg (by omega),st 998 1 (.inr (.inl rfl)),if_neg (by decide),if_pos rfl,if_neg (by omega),st 997 2 (.inr (.inr rfl)),if_neg (by decide),if_neg (by decide),if_pos h.symm,b3,h,if_neg (by decide),if_pos rfl,if_neg (by decide),if_pos rfl]

def Be (g:GR) (vars:List DY) (v x:Nat):Int×Int:=(lo g (at' vars (x:Int)) v,hi g (at' vars (x:Int)) v)
def A_ (g:GR) (vars:List DY) (v:Nat):List (Int×Int):=(List.range vars.length).map (Be g vars v)
def zG (g:GR) (vars:List DY):List (List (Int×Int)):=(List.range g.2.length).map (A_ g vars)
theorem x_ {α:Type} [Inhabited α] (f:Nat->α) {n k:Nat} (h:k<n):at' ((List.range n).map f) (k:Int)=f k:=by
 rw[jY (by simpa using h)];simp
theorem uO {α:Type} (f:Nat->α) (z:α) (n k:Nat) (h:k<n):((List.range k).map f++List.replicate (n - k) z).set k (f k)=(List.range (k+1)).map f++List.replicate (n - (k+1)) z:=by
 rw[show n - k=(n - (k+1))+1 by omega,List.replicate_succ,List.set_append_right _ _ (by simp),List.range_succ]
 simp
theorem JP {g:GR} (hV:VG g) {p:DL} (hp:Bw g p.2.1):jM 1000 p g=some (zG g p.2.1):=by
 have h24:=hV.n24
 have hlen:=hV.len
 have hvl:=hp.len
 let vars:=p.2.1
 let Q:Nat->List (List (Int×Int)):=fun k=>(List.range k).map (A_ g vars)++List.replicate (g.2.length - k) []
 have hQl:∀k,k<=g.2.length->(Q k).length=g.2.length:=fun k hk=>by simp[Q];omega
 let R:Nat->Nat->List (Int×Int):=fun k j=>(List.range j).map (Be g vars k)++List.replicate (vars.length - j) (0,0)
 have hRl:∀k j,j<=vars.length->(R k j).length=vars.length:=fun k j hj=>by simp[R];omega
 unfold jM
 rw[dV (by omega)]
 rw[show List.replicate (Int.toNat (g.1.length:Int)) ([]:List (Int×Int))=Q 0 by simp[Q,hlen]]
 refine eI (step:=iJ 1000 p g) (K:=some (zG g vars)) g.2.length (fun k=>((k:Int),Q k)) (fun k ag hk=> ?_) (fun ag=> ?_) 1000 (by omega)
 ·unfold iJ
  dsimp only
  rw[if_pos (by simp;omega),dV (by omega),dV (by rw[hQl k (by omega)];omega)]
  refine Eq.trans (?_:_=bK (jZ 1000 p g ((k:Int),Q k) ag) 1000 ((0:Int),(Q k).set k (R k 0))) ?_
  ·rw[Int.toNat_natCast,Int.toNat_natCast];simp[R,vars]
  refine eI (step:=jZ 1000 p g ((k:Int),Q k) ag) (K:=ag (((k+1:Nat):Int),Q (k+1))) vars.length (fun j=>((j:Int),(Q k).set k (R k j))) (fun j ag2 hj=> ?_) (fun ag2=> ?_) 1000 (by show p.2.1.length<1000;omega)
  ·have hj':j<p.2.1.length:=hj
   have hb:=Gh hV (hp.small j hj) (hp.kind j hj) hk
   have hq:k<(Q k).length:=by rw[hQl k (by omega)];exact hk
   have a1:∀X:List (Int×Int),at' ((Q k).set k X) (k:Int)=X:=fun X=>by rw[Bz _ _ _ _ hq,if_pos rfl]
   have hRj:j<(R k j).length:=by rw[hRl k j (by omega)];exact hj
   unfold jZ
   dsimp only
   rw[if_pos (by omega),dV (by omega),dV (by simp only[List.length_set];omega),dV (by simp only[List.length_set];omega),bN (show iK 1000 _ g (k:Int)=_ from hb),Int.toNat_natCast,Int.toNat_natCast]
   simp only[a1,List.set_set]
   rw[dV (by omega),dV (by simp only[List.length_set];omega),eT (by omega)]
   have:(R k j).set j (lo g (at' p.2.1 (j:Int)) k,hi g (at' p.2.1 (j:Int)) k)=R k (j+1):=uO (Be g vars k) (0,0) vars.length j hj
   rw[Bz _ _ _ _ hRj,if_pos rfl]
   dsimp only
   rw[this]
  ·unfold jZ rS
   dsimp only
   rw[if_neg (show¬((vars.length:Nat):Int)<(p.2.1.length:Int)from Int.lt_irrefl _),eT (by omega)]
   have e1:R k vars.length=A_ g vars k:=by simp[R,A_]
   have e2:(Q k).set k (A_ g vars k)=Q (k+1):=uO (A_ g vars) [] g.2.length k hk
   rw[e1,e2]
 ·unfold iJ rR
  dsimp only
  rw[if_neg (by simp;omega)]
  simp[Q,zG]
theorem SD {g:GR} (hV:VG g) {p:DL} (hp:Bw g p.2.1):pC 1000 p g=some 0:=by
 have h1:=hV.n1
 have hvl:=hp.len
 unfold pC
 rw[bN (show xL 1000 _=some true from rfl),if_neg (by decide),bN (show eV 1000 g=some true from(Dv g).1 hV),if_neg (by decide)]
 refine eI (step:=jK 1000 p g) (K:=some 0) p.2.1.length (fun k=>(k:Int)) (fun k ag hk=> ?_) (fun ag=> ?_) 1000 (by omega)
 ·unfold jK nK pX nK
  rw[if_pos (by omega),dV (by omega),eT (by omega)]
  by_cases hk1:(at' p.2.1 (k:Int)).2.1=1
  ·obtain⟨r1,r2,r3⟩:=hp.range k hk hk1
   have hb:=Gh hV (hp.small k hk) (hp.kind k hk) (v:=0) (by omega)
   rw[if_neg (by simpa using hk1),bN (show iK 1000 _ g (0:Int)=_ from hb)]
   dsimp only
   rw[if_neg (by omega),wr (x:=hi g (at' p.2.1 (k:Int)) 0 - lo g (at' p.2.1 (k:Int)) 0) (by omega) (by omega),wr (by omega) (by omega),if_neg (by rw[decide_eq_true_eq];omega)]
  ·rw[if_pos hk1]
 ·unfold jK tF
  rw[if_neg (by omega)]

theorem QD {g:GR} {vars:List DY} (hl:vars.length<=20) {v:Nat} {l:List Int} (h1:l.length=vars.length) (h2:∀x,x<vars.length->lo g (at' vars (x:Int)) v<=at' l (x:Int)∧at' l (x:Int)<=hi g (at' vars (x:Int)) v):qB 1000 (A_ g vars v) l=some true:=by
 have hr:(A_ g vars v).length=vars.length:=by simp[A_]
 unfold qB
 rw[if_neg (by rw[hr,h1];simp)]
 refine eI (step:=j_ (A_ g vars v) l) (K:=some true) l.length (fun k=>(k:Int)) (fun k ag hk=> ?_) (fun ag=> ?_) 1000 (by omega)
 ·have hc:at' (A_ g vars v) (k:Int)=Be g vars v k:=x_ _ (by omega)
  have:=h2 k (by omega)
  unfold j_ oV
  rw[if_pos (by omega),dV (by omega),dV (by omega),hc]
  rw[if_neg (show¬at' l (k:Int)<(Be g vars v k).1 from Int.not_lt.2 this.1),dV (by omega),if_neg (by rw[decide_eq_true_eq];exact Int.not_lt.2 this.2),eT (by omega)]
 ·unfold j_ rX
  rw[if_neg (by omega)]
theorem Pe {g:GR} (hV:VG g) {p:DL} (hp:Bw g p.2.1) {c:List (List Int)} (hc:Tw g c p.2.1):nS 1000 p g c=some 0:=by
 have h24:=hV.n24
 have ht:(zG g p.2.1).length=g.2.length:=by simp[zG]
 have hcl:=hc.len
 unfold nS
 rw[bN (show pC 1000 _ _=some 0 from SD hV hp),if_neg (by decide),bN (show jM 1000 _ _=_ from JP hV hp)]
 have:oT 1000 (zG g p.2.1) c=some true:=by
  unfold oT
  rw[if_neg (by rw[ht,hcl];simp)]
  refine eI (step:=kR 1000 (zG g p.2.1) c) (K:=some true) g.2.length (fun k=>(k:Int)) (fun k ag hk=> ?_) (fun ag=> ?_) 1000 (by omega)
  ·have hr:at' (zG g p.2.1) (k:Int)=A_ g p.2.1 k:=x_ _ hk
   unfold kR
   rw[if_pos (by omega),dV (by omega),dV (by omega),hr,bN (QD hp.len (hc.row k hk) (hc.ok k hk)),if_neg (by decide),eT (by omega)]
  ·unfold kR qO
   rw[if_neg (by omega)]
 rw[bN this,if_neg (by decide)]
theorem LU (c:List (List Int)) (h:c.length<=900) (hr:∀v,v<c.length->(at' c (v:Int)).length<=1000):pE 1000 c=some c:=by
 unfold pE
 rw[dV (by omega)]
 let Q:Nat->List (List Int):=fun k=>(List.range k).map (fun v:Nat=>at' c (v:Int))++List.replicate (c.length - k) []
 rw[show List.replicate (Int.toNat (c.length:Int)) ([]:List Int)=Q 0 by simp[Q]]
 refine eI (step:=nU c) (K:=some c) c.length (fun k=>((k:Int),Q k)) (fun k ag hk=> ?_) (fun ag=> ?_) 1000 (by omega)
 ·have hQ:(Q k).length=c.length:=by simp[Q];omega
  have:=hr k hk
  unfold nU
  dsimp only
  rw[if_pos (by omega),dV (by omega),dV (by simp;omega),dV (by omega),eT (by omega),Int.toNat_natCast,List.nil_append]
  have:(Q k).set k (at' c (k:Int))=Q (k+1):=uO (fun v:Nat=>at' c (v:Int)) [] c.length k hk
  rw[this]
 ·unfold nU tR
  dsimp only
  rw[if_neg (by omega)]
  congr 1
  refine List.ext_getElem (by simp[Q]) fun i h1 h2=> ?_
  simp[Q,jY h2]
end Go.Proofs.YtigggfnchamobaaGreatDoor
end
section
namespace Go.Proofs.YtigggfnchamobaaGreatDoor
open Go Go.Sx
def WV (x:Int):Int:=max (-1073741824) (min x 1073741824)
def Zg (o x:Int):Int:=if o=18 then wI .i64 (0 - x)else IT (decide (x=0))
def Ta (a b:Int):Int:=if b=0 then 0 else if Int.tmod a b≠0∧((decide (a<0))!=(decide (b<0)))=true then wI .i64 (wI .i64 (Int.tdiv a b) - 1)else wI .i64 (Int.tdiv a b)
def UI (o x y:Int):Bool:=if o=35 then decide (x=y)else if o=36 then decide (x≠y)else if o=37 then decide (x<y)else if o=38 then decide (x<=y)else if o=39 then decide (y<x)else decide (y<=x)
def Xv (o x y:Int):Int:=
 if o=30 then WV (wI .i64 (x*y))else if o=31 then WV (Ta x y)else if o=32 then(if y=0 then 0 else WV (wI .i64 (x - wI .i64 (y*Ta x y))))else if o=33 then WV (wI .i64 (x+y))else if o=34 then WV (wI .i64 (x - y))
 else if o=41 then IT (decide (x≠0)&&decide (y≠0))else if o=42 then IT (decide (x≠0)||decide (y≠0))else IT (UI o x y)
theorem QI (f:Nat) (o x:Int):tO f o x=some (Zg o x):=by
 unfold tO Zg
 split
 ·rfl
 ·rw[bN (rK f _)]
theorem Qt (f:Nat) (a b:Int):lT f a b=some (Ta a b):=by
 unfold lT Ta
 by_cases hb:b=0
 ·rw[if_pos hb,if_pos hb]
 ·rw[if_neg hb,if_neg hb,dV hb,dV hb]
  by_cases h1:Int.tmod a b=0
  ·rw[if_neg (by simpa using h1),if_neg (by simp[h1])];rfl
  ·rw[if_pos h1]
   unfold nO nN
   by_cases h2:((decide (a<0))!=(decide (b<0)))=true
   ·rw[if_pos h2,if_pos ⟨h1,h2⟩]
   ·rw[if_neg h2,if_neg (fun q=>h2 q.2)]
theorem UJ (f:Nat) (o x y:Int):oS f o x y=some (UI o x y):=by
 unfold oS UI
 repeat' split
 all_goals rfl
theorem Ng (f:Nat) (o x y:Int):rE f o x y=some (Xv o x y):=by
 unfold rE Xv
 by_cases h:o=30
 ·rw[if_pos h,if_pos h];rfl
 rw[if_neg h,if_neg h]
 by_cases h:o=31
 ·rw[if_pos h,if_pos h,bN (Qt f x y)];rfl
 rw[if_neg h,if_neg h]
 by_cases h:o=32
 ·rw[if_pos h,if_pos h]
  by_cases hy:y=0
  ·rw[if_pos hy,if_pos hy]
  ·rw[if_neg hy,if_neg hy,bN (Qt f x y)];rfl
 rw[if_neg h,if_neg h]
 by_cases h:o=33
 ·rw[if_pos h,if_pos h];rfl
 rw[if_neg h,if_neg h]
 by_cases h:o=34
 ·rw[if_pos h,if_pos h];rfl
 rw[if_neg h,if_neg h]
 by_cases h:o=41
 ·rw[if_pos h,if_pos h]
  by_cases hx:x=0
  ·rw[if_neg (by simpa using hx),bN (rK f _)];simp[hx,nL]
  ·rw[if_pos hx,bN (rK f _)];simp[hx,nL]
 rw[if_neg h,if_neg h]
 by_cases h:o=42
 ·rw[if_pos h,if_pos h]
  by_cases hx:x=0
  ·rw[if_neg (by simpa using hx),bN (rK f _)];simp[hx,nM]
  ·rw[if_pos hx,bN (rK f _)];simp[hx,nM]
 rw[if_neg h,if_neg h,bN (UJ f o x y),bN (rK f _)]
def E.den (L:Int->Int->Int->Int) (deg:Nat):E->Int->Int
 |lf o a,p=>L o a p
 |un o x,p=>Zg o (x.den L deg p)
 |ag o x,_=>LZ o ((List.range deg).map fun q=>x.den L deg ((q:Nat):Int))
 |bi o x y,p=>Xv o (x.den L deg p) (y.den L deg p)
 |ite x y z,p=>if x.den L deg p≠0 then y.den L deg p else z.den L deg p
def E.wf (nv:Nat):Bool->E->Bool
 |b,lf o a=>decide (1<=o)&&decide (o<=16)&&(b||decide (o<=10))&&((decide (o≠5)&&decide (o≠12))||(decide (0<=a)&&decide (a<(nv:Int))))
 |b,un o x=>decide (18<=o)&&decide (o<=19)&&x.wf nv b
 |_,ag o x=>(decide (o=20)||decide (o=21)||decide (o=22)||decide (o=23)||decide (o=24)||decide (o=27))&&x.wf nv true
 |b,bi o x y=>decide (30<=o)&&decide (o<=42)&&x.wf nv b&&y.wf nv b
 |b,ite x y z=>x.wf nv b&&y.wf nv b&&z.wf nv b
theorem Rg {nv:Nat}:∀{e:E} {b:Bool},e.wf nv b=true->e.arOk=true:=by
 intro e
 induction e with
 |lf o a=>intro b h;simp[E.wf,E.arOk]at h ⊢;omega
 |un o x ih=>intro b h;simp[E.wf,E.arOk]at h ⊢;exact⟨h.1,ih h.2⟩
 |ag o x ih=>intro b h;simp[E.wf,E.arOk]at h ⊢;exact⟨by omega,ih h.2⟩
 |bi o x y ihx ihy=>intro b h;simp[E.wf,E.arOk]at h ⊢;exact⟨⟨h.1.1,ihx h.1.2⟩,ihy h.2⟩
 |ite x y z ihx ihy ihz=>intro b h;simp[E.wf,E.arOk]at h ⊢;exact⟨⟨ihx h.1.1,ihy h.1.2⟩,ihz h.2⟩
def Qd (W:Wl) (p:Int):Int:=(at' (at' W.1.2.1.2 W.2.2.1) p).1
def TF (W:Wl) (o a p:Int):Int:=
 if o=1 then a else if o=2 then 1 else if o=3 then 0 else if o=4 then -1 else if o=5 then at' (at' W.2.1 W.2.2.1) a else if o=12 then at' (at' W.2.1 (Qd W p)) a
 else if o=6 then(W.1.2.1.1.length:Int)else if o=7 then W.1.2.2.1 else if o=8 then at' W.1.2.1.1 W.2.2.1 else if o=9 then((at' W.1.2.1.2 W.2.2.1).length:Int)else if o=10 then IT (decide (W.2.2.1=0))else if o=11 then p
 else if o=13 then at' W.1.2.1.1 (Qd W p)else if o=14 then((at' W.1.2.1.2 (Qd W p)).length:Int)else if o=15 then IT (decide (Qd W p=0))else(at' (at' W.1.2.1.2 W.2.2.1) p).2
structure Xt (W:Wl) (nv n v:Nat):Prop where
 node:W.2.2.1=(v:Int)
 lt:v<n
 ports:W.1.2.1.2.length=n
 ids:W.1.2.1.1.length=n
 c:W.2.1.length=n
 row:∀u:Nat,u<n->(at' W.2.1 (u:Int)).length=nv
 to:∀u:Nat,u<n->∀i:Nat,i<(at' W.1.2.1.2 (u:Int)).length->0<=(at' (at' W.1.2.1.2 (u:Int)) (i:Int)).1∧(at' (at' W.1.2.1.2 (u:Int)) (i:Int)).1<(n:Int)
def Oq (b:Bool) (deg:Nat) (p:Int):Prop:=b=true->∃q:Nat,p=(q:Int)∧q<deg
theorem SU {W:Wl} {nv n v:Nat} (h:Xt W nv n v) (f:Nat) {b:Bool} {o a p:Int} (hw:(E.lf o a).wf nv b=true) (hp:Oq b (at' W.1.2.1.2 (v:Int)).length p):iF f W (o,a) p=some (TF W o a p):=by
 obtain⟨hv,hlt,h1,h2,h3,h4,h5⟩:=h
 simp only[E.wf,Bool.and_eq_true,Bool.or_eq_true,decide_eq_true_eq]at hw
 obtain⟨⟨⟨w1,w2⟩,w3⟩,w4⟩:=hw
 have hvr:(at' W.2.1 (v:Int)).length=nv:=h4 v hlt
 unfold iF TF Qd
 dsimp only
 rw[hv]
 by_cases e:o=1
 ·simp only[if_pos e]
 simp only[if_neg e]
 by_cases e:o=2
 ·simp only[if_pos e]
 simp only[if_neg e]
 by_cases e:o=3
 ·simp only[if_pos e]
 simp only[if_neg e]
 by_cases e:o=4
 ·simp only[if_pos e]
 simp only[if_neg e]
 by_cases e:o=5
 ·simp only[if_pos e]
  rw[dV (by omega),dV (by omega)]
 simp only[if_neg e]
 by_cases e:o=12
 ·have hb:b=true:=by
   rcases w3 with w3|w3
   ·exact w3
   ·omega
  obtain⟨q,rfl,hq⟩:=hp hb
  have h6:=h5 v hlt q hq
  obtain⟨u,hu⟩:∃u:Nat,(at' (at' W.1.2.1.2 (v:Int)) (q:Int)).1=(u:Int):=⟨_,(Int.toNat_of_nonneg h6.1).symm⟩
  simp only[if_pos e]
  rw[hu]at h6 ⊢
  have h7:=h4 u (by omega)
  rw[dV (by omega),dV (by omega),dV (by omega),dV (by omega)]
 simp only[if_neg e]
 unfold l_
 dsimp only
 by_cases e:o=6
 ·simp only[if_pos e];rfl
 simp only[if_neg e]
 by_cases e:o=7
 ·simp only[if_pos e];rfl
 simp only[if_neg e]
 by_cases e:o=8
 ·simp only[if_pos e]
  rw[dV (by omega)];rfl
 simp only[if_neg e]
 by_cases e:o=9
 ·simp only[if_pos e]
  rw[dV (by omega)];rfl
 simp only[if_neg e]
 by_cases e:o=10
 ·simp only[if_pos e]
  rw[bN (rK f _)];rfl
 simp only[if_neg e]
 by_cases e:o=11
 ·simp only[if_pos e];rfl
 simp only[if_neg e]
 have hb:b=true:=by
  rcases w3 with w3|w3
  ·exact w3
  ·omega
 obtain⟨q,rfl,hq⟩:=hp hb
 have h6:=h5 v hlt q hq
 rw[dV (by omega),dV (by omega)]
 by_cases e:o=13
 ·simp only[if_pos e]
  rw[dV (by omega)];rfl
 simp only[if_neg e]
 by_cases e:o=14
 ·simp only[if_pos e]
  rw[dV (by omega)];rfl
 simp only[if_neg e]
 by_cases e:o=15
 ·simp only[if_pos e]
  rw[bN (rK f _)];rfl
 simp only[if_neg e]
 by_cases e:o=16
 ·simp only[if_pos e];rfl
 omega
theorem QW {W:Wl} {nv n v:Nat} (h:Xt W nv n v) {deg:Nat} (hdeg:(at' W.1.2.1.2 (v:Int)).length=deg) (hd24:deg<=24) (hT9:W.2.2.2.length<=800):
  ∀(e:E) (b:Bool) (fuel k:Nat) (p:Int) (pre post:List (Int×Int)),W.2.2.2=pre++(e.ts++post)->pre.length=k->e.wf nv b=true->Oq b deg p->e.depth+850<=fuel->
   bQ fuel W (k:Int) p=some (e.den (TF W) deg p,(((k+e.ts.length:Nat)):Int)):=by
 obtain⟨hv,hlt,h1,h2,h3,h4,h5⟩:=id h
 have start:∀{t:Int×Int} {l pre post:List (Int×Int)} {k:Nat},W.2.2.2=pre++((t::l)++post)->pre.length=k->at' W.2.2.2 (k:Int)=t∧(k:Int)<(W.2.2.2.length:Int):=by
  intro t l pre post k hT hk
  refine⟨Hn (rest:=l++post) (by simpa using hT) hk,?_⟩
  rw[hT];simp;omega
 intro e
 induction e with
 |lf o a=>
  intro b fuel k p pre post hT hk hw hp hf
  obtain⟨fuel,rfl⟩:∃f,fuel=f+1:=⟨fuel - 1,by omega⟩
  obtain⟨ht,hlk⟩:=start (l:=[]) hT hk
  show cD (bQ fuel) fuel W (k:Int) p=_
  unfold cD
  rw[dV ⟨by omega,hlk⟩,ht]
  dsimp only
  have hw':=hw
  simp only[E.wf,Bool.and_eq_true,Bool.or_eq_true,decide_eq_true_eq]at hw'
  have hl:=SU h fuel hw (hdeg▸hp)
  rw[if_pos (by omega),bN (show iF fuel _ (o,a) p=some (TF W o a p)from hl),eT (by omega)]
  rfl
 |un o x ih=>
  intro b fuel k p pre post hT hk hw hp hf
  obtain⟨fuel,rfl⟩:∃f,fuel=f+1:=⟨fuel - 1,by omega⟩
  obtain⟨ht,hlk⟩:=start (l:=x.ts) hT hk
  show cD (bQ fuel) fuel W (k:Int) p=_
  unfold cD
  rw[dV ⟨by omega,hlk⟩,ht]
  dsimp only
  simp only[E.wf,Bool.and_eq_true,decide_eq_true_eq]at hw
  simp only[E.depth]at hf
  have hx:=ih b fuel (k+1) p (pre++[(o,0)]) post (by rw[hT];simp[E.ts]) (by simp[hk]) hw.2 hp (by omega)
  rw[if_neg (by omega),if_pos (by omega),eT (by omega),bN (show bQ fuel _ _ p=_ from hx),bN (QI fuel _ _)]
  simp only[E.den,E.ts,List.length_cons]
  rw[show k+1+x.ts.length=k+(x.ts.length+1) by omega]
 |bi o x y ihx ihy=>
  intro b fuel k p pre post hT hk hw hp hf
  obtain⟨fuel,rfl⟩:∃f,fuel=f+1:=⟨fuel - 1,by omega⟩
  obtain⟨ht,hlk⟩:=start (l:=x.ts++y.ts) hT hk
  show cD (bQ fuel) fuel W (k:Int) p=_
  unfold cD
  rw[dV ⟨by omega,hlk⟩,ht]
  dsimp only
  simp only[E.wf,Bool.and_eq_true,decide_eq_true_eq]at hw
  simp only[E.depth]at hf
  have hx:=ihx b fuel (k+1) p (pre++[(o,0)]) (y.ts++post) (by rw[hT];simp[E.ts]) (by simp[hk]) hw.1.2 hp (by omega)
  have hy:=ihy b fuel (k+1+x.ts.length) p (pre++(o,0)::x.ts) post (by rw[hT];simp[E.ts]) (by simp[hk];omega) hw.2 hp (by omega)
  rw[if_neg (by omega),if_neg (by omega),if_neg (by omega),if_pos (by omega),eT (by omega),bN (show bQ fuel _ _ p=_ from hx),bN (show bQ fuel _ _ p=_ from hy),bN (Ng fuel _ _ _)]
  simp only[E.den,E.ts,List.length_cons,List.length_append]
  rw[show k+1+x.ts.length+y.ts.length=k+(x.ts.length+y.ts.length+1) by omega]
 |ite x y z ihx ihy ihz=>
  intro b fuel k p pre post hT hk hw hp hf
  obtain⟨fuel,rfl⟩:∃f,fuel=f+1:=⟨fuel - 1,by omega⟩
  obtain⟨ht,hlk⟩:=start (l:=x.ts++(y.ts++z.ts)) hT hk
  show cD (bQ fuel) fuel W (k:Int) p=_
  unfold cD
  rw[dV ⟨by omega,hlk⟩,ht]
  dsimp only
  simp only[E.wf,Bool.and_eq_true]at hw
  simp only[E.depth]at hf
  have hx:=ihx b fuel (k+1) p (pre++[(43,0)]) (y.ts++z.ts++post) (by rw[hT];simp[E.ts]) (by simp[hk]) hw.1.1 hp (by omega)
  have hy:=ihy b fuel (k+1+x.ts.length) p (pre++(43,0)::x.ts) (z.ts++post) (by rw[hT];simp[E.ts]) (by simp[hk];omega) hw.1.2 hp (by omega)
  have hz:=ihz b fuel (k+1+x.ts.length+y.ts.length) p (pre++(43,0)::(x.ts++y.ts)) post (by rw[hT];simp[E.ts]) (by simp[hk];omega) hw.2 hp (by omega)
  rw[if_neg (by decide),if_neg (by decide),if_neg (by decide),if_neg (by decide),eT (by omega),bN (show bQ fuel _ _ p=_ from hx),bN (show bQ fuel _ _ p=_ from hy),bN (show bQ fuel _ _ p=_ from hz)]
  simp only[E.den,E.ts,List.length_cons,List.length_append]
  rw[show k+1+x.ts.length+y.ts.length+z.ts.length=k+(x.ts.length+(y.ts.length+z.ts.length)+1) by omega]
  split<;>rfl
 | ag o x ih =>
  intro b fuel k p pre post hT hk hw hp hf
  obtain⟨fuel,rfl⟩:∃f,fuel=f+1:=⟨fuel - 1,by omega⟩
  obtain⟨ht,hlk⟩:=start (l:=x.ts) hT hk
  have har:=Rg hw
  have hwx:=hw
  simp only[E.wf,Bool.and_eq_true,Bool.or_eq_true,decide_eq_true_eq]at hwx
  simp only[E.depth]at hf
  have hts:(E.ag o x).ts.length=x.ts.length+1:=rfl
  have hlen:=congrArg List.length hT
  simp only[List.length_append]at hlen
  show cD (bQ fuel) fuel W (k:Int) p=_
  unfold cD
  rw[dV ⟨by omega,hlk⟩,ht]
  dsimp only
  rw[if_neg (by omega),if_neg (by omega),if_pos (by omega),dV (by omega)]
  let D:Nat->Int:=fun q=>x.den (TF W) deg ((q:Nat):Int)
  let V:Nat->List Int:=fun q=>(List.range q).map D++List.replicate (24 - q) 0
  have hVl:∀q,q<=24->(V q).length=24:=fun q hq=>by simp[V];omega
  have hset:∀q,q<24->(V q).set q (D q)=V (q+1):=fun q hq=>by
   show((List.range q).map D++List.replicate (24 - q) 0).set q (D q)=(List.range (q+1)).map D++List.replicate (24 - (q+1)) 0
   rw[show 24 - q=(24 - (q+1))+1 by omega,List.replicate_succ,List.set_append_right _ _ (by simp),List.range_succ]
   simp
  let N:Nat->Int:=fun q=>if q=0 then 0 else(((k+1+x.ts.length:Nat)):Int)
  refine Eq.trans (eI (step:=gA fuel W (k:Int) (bQ fuel)) (K:=some ((E.ag o x).den (TF W) deg p,(((k+(E.ag o x).ts.length:Nat)):Int))) deg (fun q=>(N q,(q:Int),V q)) (fun q ag hq=> ?_) (fun ag=> ?_) fuel (by omega)) rfl
  ·unfold gA
   dsimp only
   have hx:=ih true fuel (k+1) ((q:Nat):Int) (pre++[(o,0)]) post (by rw[hT];simp[E.ts]) (by simp[hk]) hwx.2 (fun _=>⟨q,rfl,hq⟩) (by omega)
   rw[if_pos (by rw[hv,hdeg];omega),eT (by omega),bN (show bQ fuel _ _ _=_ from hx),dV ⟨by omega,hVl q (by omega)⟩,eT (by omega),Int.toNat_natCast]
   show ag (_,_,(V q).set q (D q))=_
   rw[hset q (by omega)]
   simp only[N]
   rw[if_neg (by omega)]
  ·unfold gA
   dsimp only
   rw[if_neg (by rw[hv,hdeg];omega)]
   have hfold:List.take deg (V deg)=(List.range deg).map D:=by
    show List.take deg ((List.range deg).map D++_)=_
    exact List.take_left' (by simp)
   have fin:∀y:Int,y=(((k+1+x.ts.length:Nat)):Int)->f_ fuel W (k:Int) (N deg,V deg) y=some ((E.ag o x).den (TF W) deg p,(((k+(E.ag o x).ts.length:Nat)):Int)):=by
    rintro y rfl
    unfold f_
    dsimp only
    rw[hv,hdeg,dV ⟨by omega,by omega,by rw[hVl deg hd24];omega⟩,ht,Int.toNat_natCast,hfold,bN (SE fuel o _ (by omega) (by simp;omega) (by omega))]
    unfold lF
    rw[hts,show k+1+x.ts.length=k+(x.ts.length+1) by omega]
    rfl
   unfold lG
   dsimp only
   by_cases h0:deg=0
   ·rw[if_pos (by rw[hv,hdeg];omega),bN (UP fuel (E.ag o x) har hT hk hT9 (by omega))]
    exact fin _ (by rw[hts];omega)
   ·rw[if_neg (by rw[hv,hdeg];omega)]
    exact fin _ (by simp only[N];rw[if_neg h0])
end Go.Proofs.YtigggfnchamobaaGreatDoor
end
section
namespace Go.Proofs.YtigggfnchamobaaGreatDoor
open Go.Sx
def d_ (fuel:Nat) (p0:(ByteArray×(List (ByteArray×Int×Int×Int×Int×Int))×(List (ByteArray×(Value×List (Int×Int))×(Value×List (Int×(Value×List (Int×Int)))))))×(List (Int)×(List (List (Int×Int))))×Int×List (List (Int))) (p1:List (List (Int))) (p2:Int) (p3:List (Int×Int)):Option (Int):=
 Option.bind (bQ fuel ((((((p0.1.1,p0.1.2.1,p0.1.2.2)),((p0.2.1.1,p0.2.1.2)),p0.2.2.1,p0.2.2.2)),p1,p2,p3)) (0:Int) (-1:Int)) fun r6=>(some (r6.1))
theorem LM:aV Tryz.prog 144:=Tryz.call144
theorem tY (fuel:Nat) {p0:(ByteArray×(List (ByteArray×Int×Int×Int×Int×Int))×(List (ByteArray×(Value×List (Int×Int))×(Value×List (Int×(Value×List (Int×Int)))))))×(List (Int)×(List (List (Int×Int))))×Int×List (List (Int))} {p1:List (List (Int))} {p2:Int} {p3:List (Int×Int)} (bx0:Nat)  (v1:Value)  (v2:Value)  (v3:Value)  (v4:Value)  (z5:List (Value×List (Int×Int)))  (v6:Value)  (z7:List (Value×List (Int)))  (v8:Value)  (z9:List (Value×List (Int)))  (v10:Value) (r:Int) (h:d_ fuel p0 p1 p2 p3=some r):
  bA Tryz.prog 144 #[Value.pointer (some ⟨bx0,0,none⟩),v8,Value.int .i64 (p2),v10] [bR bx0 [Value.string (p0.1.1),v1,v2,v3,v4,Value.int .i64 (p0.2.2.1),v6] 178,Sl aH v1 p0.1.2.1,Sl aG v2 p0.1.2.2,Sl aR v3 p0.2.1.1,S2 aK v4 z5 p0.2.1.2,S2 aR v6 z7 p0.2.2.2,S2 aR v8 z9 p1,Sl aK v10 p3] (fun x:Unit=>Value.int .i64 (r)) (fun x l=>l) (fun _ l=>l):=by
 refine bA.of (vs:=[Value.pointer (some ⟨bx0,0,none⟩),v8,Value.int .i64 (p2),v10]) Tryz.func144 rfl Tryz.ntmps144 rfl fun c=>?_
 unfold d_ at h
 refine sqR<|qkAsg rfl<|dtN<|sqR<|qkMove rfl<|qkMove rfl<|qkMove rfl<|qkMove rfl<|b_ (Know.one (aC.sl (aC.fact 6 rfl))) fun ho1=>b_ (Know.one ((aC.fact 7 rfl))) fun ho2=>?_
 refine aB (Uc (r:=Value.agg #[Value.pointer (some ⟨bx0,0,none⟩),v8,Value.int .i64 (p2),v10]) rfl rfl rfl rfl (by intro w;simp[Instr.build,Instr.fill,eK,dN,c_,eL,eM,dO,fQ,jB ho1,jB ho2])) rfl ?_
 refine aL (aQ.alloc (cs:=[Value.pointer none,Value.slice none 0 0,Value.int .i64 (0:Int),Value.slice none 0 0]) rfl rfl) rfl fun b3=>b_ (Know.one (aC.sl (aC.fact 6 rfl))) fun ho4=>b_ (Know.one ((aC.fact 7 rfl))) fun ho5=>bM 0 (vs:=[Value.pointer (some ⟨bx0,0,none⟩),v8,Value.int .i64 (p2),v10]) rfl rfl (cQ rfl (cQ ho4 (cQ rfl (cQ ho5 rfl)))) rfl rfl rfl<|dtN<|sqR ?_
 have⟨r6,hr7,h⟩:=fJ h
 refine aL (aJ wY (Aq fuel b3 bx0 v1 v2 v3 v4 z5 v6 z7 v8 z9 v10 r6 hr7) rfl (aA.cons (aC.res 0 rfl) (aA.cons (aC.fact 0 rfl) (aA.cons (aC.fact 1 rfl) (aA.cons (aC.fact 2 rfl) (aA.cons (aC.fact 3 rfl) (aA.cons (aC.fact 4 rfl) (aA.cons (aC.fact 5 rfl) (aA.cons (aC.fact 6 rfl) (aA.cons (aC.fact 7 rfl) .nil))))))))) (fun _ _=>rfl)) rfl fun x8=>qkMove rfl<|aB (bJ rfl rfl) rfl<|aB (bJ rfl rfl) rfl<|qkAsg rfl<|qkAsg rfl<|dtN<|sqR<|qkMove rfl<|qkAsg rfl<|dtN<|aX ?_
 cases h
 exact u_ rfl
end Go.Proofs.YtigggfnchamobaaGreatDoor
end
section
namespace Go.Proofs.YtigggfnchamobaaGreatDoor
open Go.Sx
def gG (fuel:Nat) (p0:(ByteArray×(List (ByteArray×Int×Int×Int×Int×Int))×(List (ByteArray×(Value×List (Int×Int))×(Value×List (Int×(Value×List (Int×Int)))))))×(List (Int)×(List (List (Int×Int))))×Int×List (List (Int))) (p1:List (List (Int))) (p2:Int) (p3:Int):Option (Bool):=
 ck (0<=p3∧p3<(List.length p0.1.2.2:Int)) (Option.bind (d_ fuel ((((p0.1.1,p0.1.2.1,p0.1.2.2)),((p0.2.1.1,p0.2.1.2)),p0.2.2.1,p0.2.2.2)) p1 p2 ((at' p0.1.2.2 p3).2.1.2)) fun r2=>(some (decide (r2≠(0:Int)))))
theorem RO:aV Tryz.prog 118:=Tryz.call118
theorem zV (fuel:Nat) {p0:(ByteArray×(List (ByteArray×Int×Int×Int×Int×Int))×(List (ByteArray×(Value×List (Int×Int))×(Value×List (Int×(Value×List (Int×Int)))))))×(List (Int)×(List (List (Int×Int))))×Int×List (List (Int))} {p1:List (List (Int))} {p2:Int} {p3:Int} (bx0:Nat)  (v1:Value)  (v2:Value)  (v3:Value)  (v4:Value)  (z5:List (Value×List (Int×Int)))  (v6:Value)  (z7:List (Value×List (Int)))  (v8:Value)  (z9:List (Value×List (Int))) (r:Bool) (h:gG fuel p0 p1 p2 p3=some r):
  bA Tryz.prog 118 #[Value.pointer (some ⟨bx0,0,none⟩),v8,Value.int .i64 (p2),Value.int .i64 (p3)] [bR bx0 [Value.string (p0.1.1),v1,v2,v3,v4,Value.int .i64 (p0.2.2.1),v6] 178,Sl aH v1 p0.1.2.1,Sl aG v2 p0.1.2.2,Sl aR v3 p0.2.1.1,S2 aK v4 z5 p0.2.1.2,S2 aR v6 z7 p0.2.2.2,S2 aR v8 z9 p1] (fun x:Unit=>Value.bool (r)) (fun x l=>l) (fun _ l=>l):=by
 refine bA.of (vs:=[Value.pointer (some ⟨bx0,0,none⟩),v8,Value.int .i64 (p2),Value.int .i64 (p3)]) Tryz.func118 rfl Tryz.ntmps118 rfl fun c=>?_
 unfold gG at h
 refine sqR<|qkAsg rfl<|dtN<|sqR<|qkMove rfl<|qkMove rfl<|qkMove rfl<|qkMove rfl<|aB (bT rfl) rfl<|qkFld rfl<|qkFld rfl<|aB (dG rfl (aC.fact 0 rfl) rfl rfl rfl) rfl<|qkMove rfl ?_
 have⟨hc1,h⟩:=aN h
 refine aB (bE rfl rfl (aC.fact 2 rfl) rfl rfl hc1) rfl<|aB (nE rfl rfl rfl rfl rfl) rfl<|aB (pI rfl (aC.fact 2 rfl) rfl rfl rfl vO hc1) rfl ?_
 have⟨r2,hr3,h⟩:=fJ h
 refine aL (aJ LM (tY fuel bx0 v1 v2 v3 v4 z5 v6 z7 v8 z9 ((at' p0.1.2.2 p3).2.1.1) r2 hr3) rfl (aA.cons (aC.fact 0 rfl) (aA.cons (aC.fact 1 rfl) (aA.cons (aC.fact 2 rfl) (aA.cons (aC.fact 3 rfl) (aA.cons (aC.fact 4 rfl) (aA.cons (aC.fact 5 rfl) (aA.cons (aC.fact 6 rfl) (aA.cons (sM (aC.fact 2 rfl) vQ hc1.1 hc1.2) .nil)))))))) (fun _ _=>rfl)) rfl fun x4=>aB (mM rfl rfl) rfl<|qkAsg rfl<|dtN<|aX ?_
 cases h
 exact lN rfl
end Go.Proofs.YtigggfnchamobaaGreatDoor
end
section
namespace Go.Proofs.YtigggfnchamobaaGreatDoor
open Go.Sx
def lI  (a1:Unit):Option (Int):=
 some (-1:Int)
def gE (fuel:Nat) (p0:(ByteArray×(List (ByteArray×Int×Int×Int×Int×Int))×(List (ByteArray×(Value×List (Int×Int))×(Value×List (Int×(Value×List (Int×Int)))))))×((ByteArray×(List (ByteArray×Int×Int×Int×Int×Int))×(List (ByteArray×(Value×List (Int×Int))×(Value×List (Int×(Value×List (Int×Int)))))))×(List (Int)×(List (List (Int×Int))))×Int×List (List (Int)))×(List (List (Int×Int)))) (p1:List (List (Int))) (p2:Int) (a5:Int) (ag4:(Int)->Option (Int)):Option (Int):=
 if a5<(List.length p0.1.2.2:Int)then(Option.bind (gG fuel ((((p0.2.1.1.1,p0.2.1.1.2.1,p0.2.1.1.2.2)),((p0.2.1.2.1.1,p0.2.1.2.1.2)),p0.2.1.2.2.1,p0.2.1.2.2.2)) p1 p2 a5) fun r9=>(if r9=true then(some (a5))else(ag4 (wI .i64 (a5+(1:Int))))))else(lI  (()))
def dR (fuel:Nat) (p0:(ByteArray×(List (ByteArray×Int×Int×Int×Int×Int))×(List (ByteArray×(Value×List (Int×Int))×(Value×List (Int×(Value×List (Int×Int)))))))×((ByteArray×(List (ByteArray×Int×Int×Int×Int×Int))×(List (ByteArray×(Value×List (Int×Int))×(Value×List (Int×(Value×List (Int×Int)))))))×(List (Int)×(List (List (Int×Int))))×Int×List (List (Int)))×(List (List (Int×Int)))) (p1:List (List (Int))) (p2:Int):Option (Int):=
 bK (gE fuel p0 p1 p2) fuel (0:Int)
theorem Pa:aV Tryz.prog 88:=Tryz.call88
theorem uX (fuel:Nat) {p0:(ByteArray×(List (ByteArray×Int×Int×Int×Int×Int))×(List (ByteArray×(Value×List (Int×Int))×(Value×List (Int×(Value×List (Int×Int)))))))×((ByteArray×(List (ByteArray×Int×Int×Int×Int×Int))×(List (ByteArray×(Value×List (Int×Int))×(Value×List (Int×(Value×List (Int×Int)))))))×(List (Int)×(List (List (Int×Int))))×Int×List (List (Int)))×(List (List (Int×Int)))} {p1:List (List (Int))} {p2:Int} (bx0:Nat)  (v1:Value)  (v2:Value)  (bx3:Nat)  (v4:Value)  (v5:Value)  (v6:Value)  (v7:Value)  (z8:List (Value×List (Int×Int)))  (v9:Value)  (z10:List (Value×List (Int)))  (v11:Value)  (z12:List (Value×List (Int×Int)))  (v13:Value)  (z14:List (Value×List (Int))) (r:Int) (h:dR fuel p0 p1 p2=some r):
  bA Tryz.prog 88 #[Value.pointer (some ⟨bx0,0,none⟩),v13,Value.int .i64 (p2)] [bR bx0 [Value.string (p0.1.1),v1,v2,Value.pointer (some ⟨bx3,0,none⟩),v11] 140,Sl aH v1 p0.1.2.1,Sl aG v2 p0.1.2.2,bR bx3 [Value.string (p0.2.1.1.1),v4,v5,v6,v7,Value.int .i64 (p0.2.1.2.2.1),v9] 178,Sl aH v4 p0.2.1.1.2.1,Sl aG v5 p0.2.1.1.2.2,Sl aR v6 p0.2.1.2.1.1,S2 aK v7 z8 p0.2.1.2.1.2,S2 aR v9 z10 p0.2.1.2.2.2,S2 aK v11 z12 p0.2.2,S2 aR v13 z14 p1] (fun x:Unit=>Value.int .i64 (r)) (fun x l=>l) (fun _ l=>l):=by
 refine bA.of (vs:=[Value.pointer (some ⟨bx0,0,none⟩),v13,Value.int .i64 (p2)]) Tryz.func88 rfl Tryz.ntmps88 rfl fun c=>?_
 unfold dR at h
 refine sqR<|qkAsg rfl<|dtN<|aO<|bL (A:=Unit) (B:=Unit) (fun a1=>lI  a1=some r) (fun a1 b2=>[]) (fun a1 b2=>[]) (fun a1 b2=>[bR bx0 [Value.string (p0.1.1),v1,v2,Value.pointer (some ⟨bx3,0,none⟩),v11] 140,Sl aH v1 p0.1.2.1,Sl aG v2 p0.1.2.2,bR bx3 [Value.string (p0.2.1.1.1),v4,v5,v6,v7,Value.int .i64 (p0.2.1.2.2.1),v9] 178,Sl aH v4 p0.2.1.1.2.1,Sl aG v5 p0.2.1.1.2.2,Sl aR v6 p0.2.1.2.1.1,S2 aK v7 z8 p0.2.1.2.1.2,S2 aR v9 z10 p0.2.1.2.2.2,S2 aK v11 z12 p0.2.2,S2 aR v13 z14 p1]) ?_ ?_
 ·refine sqR<|qkMove rfl<|aB (bT rfl) rfl<|qkFld rfl<|qkFld rfl<|aB (dG rfl (aC.fact 0 rfl) rfl rfl rfl) rfl<|aB (cB rfl (aC.fact 2 rfl) rfl) rfl<|qkMove rfl<|dtN<|aU<|bY (A:=Int) (B:=Unit) (gE fuel p0 p1 p2) (fun a5 b6=>[(0,Value.pointer (some ⟨bx0,0,none⟩)),(1,v13),(2,Value.int .i64 (p2)),(13,Value.int .i64 (List.length p0.1.2.2:Int)),(14,Value.int .i64 (a5))]) (fun a5 b6=>[]) (fun a5 b6=>[bR bx0 [Value.string (p0.1.1),v1,v2,Value.pointer (some ⟨bx3,0,none⟩),v11] 140,Sl aH v1 p0.1.2.1,Sl aG v2 p0.1.2.2,bR bx3 [Value.string (p0.2.1.1.1),v4,v5,v6,v7,Value.int .i64 (p0.2.1.2.2.1),v9] 178,Sl aH v4 p0.2.1.1.2.1,Sl aG v5 p0.2.1.1.2.2,Sl aR v6 p0.2.1.2.1.1,S2 aK v7 z8 p0.2.1.2.1.2,S2 aR v9 z10 p0.2.1.2.2.2,S2 aK v11 z12 p0.2.2,S2 aR v13 z14 p1]) (0:Int) (()) h SF (aP.refl _) (aA.refl _ _) ?_
  clear h
  intro k7 a5 b6 h
  unfold gE at h
  refine sqR<|qkLss rfl<|dtN<|aO ?_
  refine eR h rfl (fun _ h=>?_) fun _ h=>?_
  ·refine aW<|aI<|aO<|aU<|sqR<|qkMove rfl<|qkAsg rfl<|dtN<|sqR<|qkMove rfl<|aB (bT rfl) rfl<|qkFld rfl<|aB (dG rfl (aC.fact 0 rfl) rfl rfl rfl) rfl<|qkMove rfl<|qkMove rfl<|qkMove rfl ?_
   have⟨r9,hr10,h⟩:=fJ h
   refine aL (aJ RO (zV fuel bx3 v4 v5 v6 v7 z8 v9 z10 v13 z14 r9 hr10) rfl (aA.cons (aC.fact 3 rfl) (aA.cons (aC.fact 4 rfl) (aA.cons (aC.fact 5 rfl) (aA.cons (aC.fact 6 rfl) (aA.cons (aC.fact 7 rfl) (aA.cons (aC.fact 8 rfl) (aA.cons (aC.fact 10 rfl) .nil))))))) (fun _ _=>rfl)) rfl fun x11=>dtN ?_
   refine zN h rfl (fun _ h=>?_) fun _ h=>?_
   ·refine sqR<|qkMove rfl<|qkAsg rfl<|dtN<|aX<|bP<|aM<|aM<|bP<|aM ?_
    cases h
    exact lN rfl
   refine aW<|bV<|aI<|aS<|qkAdd rfl<|qkMove rfl<|dtN ?_
   exact xG (wI .i64 (a5+(1:Int))) (()) h SF rfl
  refine cE<|aY<|aY<|dJ<|aI ?_
  exact jA (()) (()) h SF rfl
 clear h
 intro a1 b2 h
 unfold lI at h
 refine sqR<|qkAsg rfl<|dtN<|aX ?_
 cases h
 exact lN rfl
end Go.Proofs.YtigggfnchamobaaGreatDoor
end
section
namespace Go.Proofs.YtigggfnchamobaaGreatDoor
open Go.Sx
def oM (p0:Int) (p1:Int×Int) (p2:Int) (a3:Bool):Option (Int):=
 if a3=true then(some (p2))else(if p0=(3:Int)then(some (-1:Int))else(if p2<p1.1 then(some (p1.1))else(some (p1.2))))
def qA (fuel:Nat) (p0:Int) (p1:Int×Int) (p2:Int):Option (Int):=
 if p1.1<=p2 then(oM p0 p1 p2 (decide (p2<=p1.2)))else(oM p0 p1 p2 (false))
theorem Sc:aV Tryz.prog 160:=Tryz.call160
theorem Fu (fuel:Nat) {p0:Int} {p1:Int×Int} {p2:Int} (r:Int) (h:qA fuel p0 p1 p2=some r):
  bA Tryz.prog 160 #[Value.int .i64 (p0),Value.agg #[Value.int .i64 (p1.1),Value.int .i64 (p1.2)],Value.int .i64 (p2)] [] (fun x:Unit=>Value.int .i64 (r)) (fun x l=>l) (fun _ l=>l):=by
 refine bA.of (vs:=[Value.int .i64 (p0),Value.agg #[Value.int .i64 (p1.1),Value.int .i64 (p1.2)],Value.int .i64 (p2)]) Tryz.func160 rfl Tryz.ntmps160 rfl fun c=>?_
 unfold qA at h
 refine sqR<|aL (aQ.box (cs:=[Value.int .i64 (p1.1),Value.int .i64 (p1.2)]) rfl rfl) rfl fun b1=>qkAsg rfl<|dtN<|aO<|aU<|aO<|bL (A:=Bool) (B:=Unit) (fun a3=>oM p0 p1 p2 a3=some r) (fun a3 b4=>[(0,Value.int .i64 (p0)),(2,Value.int .i64 (p2)),(4,Value.pointer (some ⟨b1,0,none⟩)),(7,Value.bool (a3))]) (fun a3 b4=>[bR b1 [Value.int .i64 (p1.1),Value.int .i64 (p1.2)] 145]) (fun a3 b4=>[]) ?_ ?_
 ·refine aS<|qkMove rfl ?_
  refine aB (mF (i:=0) rfl rfl rfl rfl rfl (by decide)) rfl ?_
  refine qkLd 0 rfl<|aB (Dy rfl rfl) rfl<|qkMove rfl ?_
  refine Bg h rfl (fun _ h=>?_) fun _ h=>?_
  ·refine gyMove rfl ?_
   refine a_ rfl (mF (i:=1) rfl rfl rfl rfl rfl (by decide)) rfl ?_
   refine a_ rfl (eJ 0 rfl rfl rfl rfl rfl) rfl<|a_ rfl (zM rfl rfl) rfl<|aB (cI rfl rfl) rfl<|qkAsg rfl<|dtN ?_
   exact jA (decide (p2<=p1.2)) (()) h SF rfl
  refine gdSkip rfl<|gdSkip rfl<|gdSkip rfl<|gdSkip rfl<|aB (cX rfl rfl) rfl<|qkAsg rfl<|dtN ?_
  exact jA (false) (()) h SF rfl
 clear h
 intro a3 b4 h
 unfold oM at h
 refine zN h rfl (fun _ h=>?_) fun _ h=>?_
 ·refine sqR<|qkMove rfl<|qkAsg rfl<|dtN<|aX<|bP<|aM ?_
  cases h
  exact u_ rfl
 refine sqR<|qkMove rfl<|qkEql rfl<|qkAsg rfl<|dtN ?_
 refine eR h rfl (fun _ h=>?_) fun _ h=>?_
 ·refine sqR<|qkAsg rfl<|dtN<|aX<|bP<|aM ?_
  cases h
  exact u_ rfl
 refine sqR<|qkMove rfl ?_
 refine aB (mF (i:=0) rfl rfl rfl rfl rfl (by decide)) rfl ?_
 refine qkLd 0 rfl<|qkLss rfl<|qkAsg rfl<|dtN ?_
 refine eR h rfl (fun _ h=>?_) fun _ h=>?_
 ·refine sqR ?_
  refine aB (mF (i:=0) rfl rfl rfl rfl rfl (by decide)) rfl ?_
  refine qkLd 0 rfl<|qkAsg rfl<|dtN<|aX<|bP<|aM ?_
  cases h
  exact u_ rfl
 refine aW<|bV<|aI<|sqR ?_
 refine aB (mF (i:=1) rfl rfl rfl rfl rfl (by decide)) rfl ?_
 refine qkLd 0 rfl<|qkAsg rfl<|dtN<|aX ?_
 cases h
 exact u_ rfl
end Go.Proofs.YtigggfnchamobaaGreatDoor
end
section
namespace Go.Proofs.YtigggfnchamobaaGreatDoor
open Go.Sx
def lH  (a5:List (Int)):Option (List (Int)):=
 some (a5)
def gC (fuel:Nat) (p0:(ByteArray×(List (ByteArray×Int×Int×Int×Int×Int))×(List (ByteArray×(Value×List (Int×Int))×(Value×List (Int×(Value×List (Int×Int)))))))×((ByteArray×(List (ByteArray×Int×Int×Int×Int×Int))×(List (ByteArray×(Value×List (Int×Int))×(Value×List (Int×(Value×List (Int×Int)))))))×(List (Int)×(List (List (Int×Int))))×Int×List (List (Int)))×(List (List (Int×Int)))) (p1:List (List (Int))) (p2:Int) (p3:Int) (a11:Int×List (Int)) (ag10:(Int×List (Int))->Option (List (Int))):Option (List (Int)):=
 if a11.1<(List.length ((at' p0.1.2.2 p3).2.2.2):Int)then(ck (0<=a11.1∧a11.1<(List.length ((at' p0.1.2.2 p3).2.2.2):Int)) (Option.bind (d_ fuel ((((p0.2.1.1.1,p0.2.1.1.2.1,p0.2.1.1.2.2)),((p0.2.1.2.1.1,p0.2.1.2.1.2)),p0.2.1.2.2.1,p0.2.1.2.2.2)) p1 p2 ((at' ((at' p0.1.2.2 p3).2.2.2) a11.1).2.2)) fun r18=>(ck (0<=((at' ((at' p0.1.2.2 p3).2.2.2) a11.1).1)∧((at' ((at' p0.1.2.2 p3).2.2.2) a11.1).1)<(List.length p0.1.2.1:Int)) (ck (0<=p2∧p2<(List.length p0.2.2:Int)) (ck (0<=((at' ((at' p0.1.2.2 p3).2.2.2) a11.1).1)∧((at' ((at' p0.1.2.2 p3).2.2.2) a11.1).1)<(List.length (at' p0.2.2 p2):Int)) (Option.bind (qA fuel ((at' p0.1.2.1 ((at' ((at' p0.1.2.2 p3).2.2.2) a11.1).1)).2.1) ((((at' (at' p0.2.2 p2) ((at' ((at' p0.1.2.2 p3).2.2.2) a11.1).1)).1),((at' (at' p0.2.2 p2) ((at' ((at' p0.1.2.2 p3).2.2.2) a11.1).1)).2))) r18) fun r24=>(ck (0<=((at' ((at' p0.1.2.2 p3).2.2.2) a11.1).1)∧((at' ((at' p0.1.2.2 p3).2.2.2) a11.1).1)<(List.length a11.2:Int)) (ag10 ((wI .i64 (a11.1+(1:Int))),(List.set a11.2 (Int.toNat ((at' ((at' p0.1.2.2 p3).2.2.2) a11.1).1)) r24))))))))))else(lH  (a11.2))
def gV (fuel:Nat) (p0:(ByteArray×(List (ByteArray×Int×Int×Int×Int×Int))×(List (ByteArray×(Value×List (Int×Int))×(Value×List (Int×(Value×List (Int×Int)))))))×((ByteArray×(List (ByteArray×Int×Int×Int×Int×Int))×(List (ByteArray×(Value×List (Int×Int))×(Value×List (Int×(Value×List (Int×Int)))))))×(List (Int)×(List (List (Int×Int))))×Int×List (List (Int)))×(List (List (Int×Int)))) (p1:List (List (Int))) (p2:Int) (p3:Int):Option (List (Int)):=
 ck (0<=p2∧p2<(List.length p1:Int)) (ck ((List.length ([]:List Int):Int)+(List.length (at' p1 p2):Int)<=1099511627) (ck (0<=p3∧p3<(List.length p0.1.2.2:Int)) (bK (gC fuel p0 p1 p2 p3) fuel ((0:Int),(([]:List Int)++(at' p1 p2))))))
theorem RT:aV Tryz.prog 134:=Tryz.call134
theorem As (fuel:Nat) {p0:(ByteArray×(List (ByteArray×Int×Int×Int×Int×Int))×(List (ByteArray×(Value×List (Int×Int))×(Value×List (Int×(Value×List (Int×Int)))))))×((ByteArray×(List (ByteArray×Int×Int×Int×Int×Int))×(List (ByteArray×(Value×List (Int×Int))×(Value×List (Int×(Value×List (Int×Int)))))))×(List (Int)×(List (List (Int×Int))))×Int×List (List (Int)))×(List (List (Int×Int)))} {p1:List (List (Int))} {p2:Int} {p3:Int} (bx0:Nat)  (v1:Value)  (v2:Value)  (bx3:Nat)  (v4:Value)  (v5:Value)  (v6:Value)  (v7:Value)  (z8:List (Value×List (Int×Int)))  (v9:Value)  (z10:List (Value×List (Int)))  (v11:Value)  (z12:List (Value×List (Int×Int)))  (v13:Value)  (z14:List (Value×List (Int))) (r:List (Int)) (h:gV fuel p0 p1 p2 p3=some r):
  bA Tryz.prog 134 #[Value.pointer (some ⟨bx0,0,none⟩),v13,Value.int .i64 (p2),Value.int .i64 (p3)] [bR bx0 [Value.string (p0.1.1),v1,v2,Value.pointer (some ⟨bx3,0,none⟩),v11] 140,Sl aH v1 p0.1.2.1,Sl aG v2 p0.1.2.2,bR bx3 [Value.string (p0.2.1.1.1),v4,v5,v6,v7,Value.int .i64 (p0.2.1.2.2.1),v9] 178,Sl aH v4 p0.2.1.1.2.1,Sl aG v5 p0.2.1.1.2.2,Sl aR v6 p0.2.1.2.1.1,S2 aK v7 z8 p0.2.1.2.1.2,S2 aR v9 z10 p0.2.1.2.2.2,S2 aK v11 z12 p0.2.2,S2 aR v13 z14 p1] (fun x:Value=>x) (fun x l=>Ar cA x r::l) (fun _ l=>l):=by
 refine bA.of (vs:=[Value.pointer (some ⟨bx0,0,none⟩),v13,Value.int .i64 (p2),Value.int .i64 (p3)]) Tryz.func134 rfl Tryz.ntmps134 rfl fun c=>?_
 unfold gV at h
 refine sqR<|qkAsg rfl<|dtN<|sqR<|qkMove rfl<|qkMove rfl ?_
 have⟨hc1,h⟩:=aN h
 refine aB (cS rfl rfl (aC.fact 10 rfl) rfl rfl hc1) rfl<|aB (cT rfl (aC.fact 10 rfl) rfl rfl hc1) rfl<|jR (iU cA) ?_
 have⟨hc3,h⟩:=aN h
 refine aL (gH 0 cR rfl rfl rfl (aC.el (aC.fact 10 rfl) hc1.1 hc1.2) rfl rfl rfl rfl hc3 rfl) rfl fun u2=>qkAsg rfl<|dtN<|aO<|bL (A:=List (Int)) (B:=Unit) (fun a5=>lH  a5=some r) (fun a5 b6=>[(9,u2)]) (fun a5 b6=>[Ar cA u2 a5]) (fun a5 b6=>[bR bx0 [Value.string (p0.1.1),v1,v2,Value.pointer (some ⟨bx3,0,none⟩),v11] 140,Sl aH v1 p0.1.2.1,Sl aG v2 p0.1.2.2,bR bx3 [Value.string (p0.2.1.1.1),v4,v5,v6,v7,Value.int .i64 (p0.2.1.2.2.1),v9] 178,Sl aH v4 p0.2.1.1.2.1,Sl aG v5 p0.2.1.1.2.2,Sl aR v6 p0.2.1.2.1.1,S2 aK v7 z8 p0.2.1.2.1.2,S2 aR v9 z10 p0.2.1.2.2.2,S2 aK v11 z12 p0.2.2,S2 aR v13 z14 p1]) ?_ ?_
 ·refine sqR<|qkMove rfl<|aB (bT rfl) rfl<|qkFld rfl<|qkFld rfl<|aB (dG rfl (aC.fact 0 rfl) rfl rfl rfl) rfl<|qkMove rfl ?_
  have⟨hc7,h⟩:=aN h
  refine aB (bE rfl rfl (aC.fact 2 rfl) rfl rfl hc7) rfl<|aB (nE rfl rfl rfl rfl rfl) rfl<|aB (pI rfl (aC.fact 2 rfl) rfl rfl rfl vP hc7) rfl<|aB (cB rfl (sM (aC.fact 2 rfl) e_ hc7.1 hc7.2) rfl) rfl<|qkMove rfl<|dtN<|aU<|bY (A:=Int×List (Int)) (B:=Unit) (gC fuel p0 p1 p2 p3) (fun a11 b12=>[(0,Value.pointer (some ⟨bx0,0,none⟩)),(1,v13),(2,Value.int .i64 (p2)),(9,u2),(26,(at' p0.1.2.2 p3).2.2.1),(27,Value.int .i64 (List.length ((at' p0.1.2.2 p3).2.2.2):Int)),(28,Value.int .i64 (a11.1))]) (fun a11 b12=>[Ar cA u2 a11.2]) (fun a11 b12=>[bR bx0 [Value.string (p0.1.1),v1,v2,Value.pointer (some ⟨bx3,0,none⟩),v11] 140,Sl aH v1 p0.1.2.1,Sl aG v2 p0.1.2.2,bR bx3 [Value.string (p0.2.1.1.1),v4,v5,v6,v7,Value.int .i64 (p0.2.1.2.2.1),v9] 178,Sl aH v4 p0.2.1.1.2.1,Sl aG v5 p0.2.1.1.2.2,Sl aR v6 p0.2.1.2.1.1,S2 aK v7 z8 p0.2.1.2.1.2,S2 aR v9 z10 p0.2.1.2.2.2,S2 aK v11 z12 p0.2.2,S2 aR v13 z14 p1]) ((0:Int),(([]:List Int)++(at' p1 p2))) (()) h SF (aP.refl _) (aA.refl _ _) ?_
  clear h
  intro k13 a11 b12 h
  unfold gC at h
  refine sqR<|qkLss rfl<|dtN<|aO ?_
  refine eR h rfl (fun _ h=>?_) fun _ h=>?_
  ·refine aW<|aI<|aO<|aU<|sqR ?_
   have⟨hc15,h⟩:=aN h
   refine aB (bE rfl rfl (sM (aC.fact 2 rfl) e_ hc7.1 hc7.2) rfl rfl hc15) rfl<|aB (Kv (cs:=[Value.int .i64 ((at' ((at' p0.1.2.2 p3).2.2.2) a11.1).1),(at' ((at' p0.1.2.2 p3).2.2.2) a11.1).2.1]) rfl (sM (aC.fact 2 rfl) e_ hc7.1 hc7.2) FJ rfl rfl rfl rfl hc15) rfl<|aL (aQ.alloc (cs:=[Value.int .i64 (0:Int),Value.slice none 0 0]) rfl rfl) rfl fun b16=>b_ (Know.one ((sM (sM (aC.fact 2 rfl) e_ hc7.1 hc7.2) zL hc15.1 hc15.2))) fun ho17=>bM 0 (vs:=[Value.int .i64 ((at' ((at' p0.1.2.2 p3).2.2.2) a11.1).1),(at' ((at' p0.1.2.2 p3).2.2.2) a11.1).2.1]) rfl rfl (cQ rfl (cQ ho17 rfl)) rfl rfl rfl<|dtN<|aO ?_
   refine JR.start [0,1,3,7,0,0,0,64,255,511] 8 mixedOrders (by decide +kernel) ?_
   refine JR.open (by exact rfl) ?_
   refine jkMove rfl<|aT rfl .nil .nil (bT rfl) aF.z<|jkFld rfl<|aT rfl .nil (cW.cons (List.mem_of_getElem? (i:=0) rfl) .nil) (dG rfl (aC.fact 0 rfl) rfl rfl rfl) aF.z<|jkMove rfl<|jkMove rfl<|jkFld rfl<|jkLd 0 rfl<|bS 8 rfl rfl ?_
   have⟨r18,hr19,h⟩:=fJ h
   refine aL (aJ LM (tY fuel bx3 v4 v5 v6 v7 z8 v9 z10 v13 z14 ((at' ((at' p0.1.2.2 p3).2.2.2) a11.1).2.1) r18 hr19) rfl (aA.cons (aC.fact 3 rfl) (aA.cons (aC.fact 4 rfl) (aA.cons (aC.fact 5 rfl) (aA.cons (aC.fact 6 rfl) (aA.cons (aC.fact 7 rfl) (aA.cons (aC.fact 8 rfl) (aA.cons (aC.fact 10 rfl) (aA.cons (sM (sM (aC.fact 2 rfl) e_ hc7.1 hc7.2) zL hc15.1 hc15.2) .nil)))))))) (fun _ _=>rfl)) rfl fun x20=>qkAsg rfl<|dtN ?_
   refine JR.start [0,0,2,0,8,24,56,120,0,256,1016,2040,4088,0,8192,24576,57344,0,253952,516096,0,1048576,4186112,8380416,0,33554424,67108863,134217727] 26 mixedOrders (by decide +kernel) ?_
   refine JR.open (by exact rfl) ?_
   refine jkMove rfl<|jkFld rfl<|jkLd 0 rfl<|jkMove rfl<|aT rfl .nil .nil (bT rfl) aF.z<|jkFld rfl<|jkFld rfl<|aT rfl .nil (cW.cons (List.mem_of_getElem? (i:=0) rfl) .nil) (dG rfl (aC.fact 0 rfl) rfl rfl rfl) aF.z<|jkFld rfl<|jkLd 0 rfl ?_
   have⟨hc21,h⟩:=aN h
   refine aT rfl .nil (cW.cons (List.mem_of_getElem? (i:=1) rfl) .nil) (bE rfl rfl (aC.fact 0 rfl) rfl rfl hc21) aF.z<|aT rfl .nil .nil (nE rfl rfl rfl rfl rfl) aF.z<|aT rfl .nil (cW.cons (List.mem_of_getElem? (i:=1) rfl) .nil) (pI rfl (aC.fact 0 rfl) rfl rfl rfl tX hc21) aF.z<|jkMove rfl<|aT rfl .nil .nil (bT rfl) aF.z<|jkFld rfl<|aT rfl .nil (cW.cons (List.mem_of_getElem? (i:=0) rfl) .nil) (dG rfl (aC.fact 0 rfl) rfl rfl rfl) aF.z<|jkMove rfl ?_
   have⟨hc22,h⟩:=aN h
   refine aT rfl .nil (cW.cons (List.mem_of_getElem? (i:=9) rfl) .nil) (cS rfl rfl (aC.fact 0 rfl) rfl rfl hc22) aF.z<|aT rfl .nil (cW.cons (List.mem_of_getElem? (i:=9) rfl) .nil) (cT rfl (aC.fact 0 rfl) rfl rfl hc22) aF.z<|jkFld rfl<|jkLd 0 rfl ?_
   have⟨hc23,h⟩:=aN h
   refine aT rfl .nil (cW.cons (List.mem_of_getElem? (i:=9) rfl) .nil) (bE rfl rfl (aC.el (aC.fact 0 rfl) hc22.1 hc22.2) rfl rfl hc23) aF.z<|aT rfl .nil (cW.cons (List.mem_of_getElem? (i:=9) rfl) .nil) (gM (cs:=[Value.int .i64 ((at' (at' p0.2.2 p2) ((at' ((at' p0.1.2.2 p3).2.2.2) a11.1).1)).1),Value.int .i64 ((at' (at' p0.2.2 p2) ((at' ((at' p0.1.2.2 p3).2.2.2) a11.1).1)).2)]) rfl (aC.el (aC.fact 0 rfl) hc22.1 hc22.2) bO rfl rfl rfl rfl hc23) aF.z<|jkMove rfl ?_
   have⟨r24,hr25,h⟩:=fJ h
   refine JR.loud rfl rfl rfl (aJ Sc (Fu fuel  r24 hr25) rfl .nil (fun _ _=>rfl)) rfl (fun x26=>(aE.b rfl (aE.b rfl (aE.b rfl (aE.b rfl (aE.b rfl (aE.b rfl (aE.b rfl (aE.b rfl (aE.b rfl (aE.b rfl (aE.b rfl (aE.b rfl (aE.b rfl (aE.b rfl (aE.b rfl (aE.b rfl (aE.b rfl (aE.b rfl (aE.b rfl (aE.b rfl (aE.b rfl (aE.b rfl (aE.h (aP.ix [0] rfl rfl) .nil (aE.h .nil .nil (aE.h .nil .nil aE.z)))))))))))))))))))))))))) fun x26=>bS 26 rfl rfl ?_
   have⟨hc27,h⟩:=aN h
   refine aB (bE rfl rfl (aZ (aC.res 1 rfl) cR) rfl rfl hc27) rfl<|s_ 1 r24 hc27 rfl rfl rfl rfl rfl rfl rfl<|eD<|bV<|aI<|aS<|qkAdd rfl<|qkMove rfl<|dtN ?_
   exact nC ((wI .i64 (a11.1+(1:Int))),(List.set a11.2 (Int.toNat ((at' ((at' p0.1.2.2 p3).2.2.2) a11.1).1)) r24)) (()) h SF (aP.ix [1] rfl rfl) (aA.refl _ _)
  refine cE<|aY<|aY<|dJ<|aI ?_
  exact jA (a11.2) (()) h SF rfl
 clear h
 intro a5 b6 h
 unfold lH at h
 refine sqR<|qkMove rfl<|qkAsg rfl<|dtN<|aX ?_
 cases h
 exact fO (u2) rfl rfl (RV.tmp rfl) (aP.refl _) aA.nil
end Go.Proofs.YtigggfnchamobaaGreatDoor
end
section
namespace Go.Proofs.YtigggfnchamobaaGreatDoor
open Go.Sx
def lJ  (a6:List (List (Int))):Option (List (List (Int))):=
 some (a6)
def iP (a12:Int×List (List (Int))) (ag11:(Int×List (List (Int)))->Option (List (List (Int)))) (a18:List (List (Int))):Option (List (List (Int))):=
 ag11 ((wI .i64 (a12.1+(1:Int))),a18)
def eW (fuel:Nat) (p0:(ByteArray×(List (ByteArray×Int×Int×Int×Int×Int))×(List (ByteArray×(Value×List (Int×Int))×(Value×List (Int×(Value×List (Int×Int)))))))×((ByteArray×(List (ByteArray×Int×Int×Int×Int×Int))×(List (ByteArray×(Value×List (Int×Int))×(Value×List (Int×(Value×List (Int×Int)))))))×(List (Int)×(List (List (Int×Int))))×Int×List (List (Int)))×(List (List (Int×Int)))) (p1:List (List (Int))) (p2:Int) (a12:Int×List (List (Int))) (ag11:(Int×List (List (Int)))->Option (List (List (Int)))):Option (List (List (Int))):=
 if a12.1<(List.length p1:Int)then(ck (0<=a12.1) (if(dD .u32 (pH .u32 p2 a12.1) (1:Int))=(1:Int)then(Option.bind (dR fuel ((((p0.1.1,p0.1.2.1,p0.1.2.2)),((((p0.2.1.1.1,p0.2.1.1.2.1,p0.2.1.1.2.2)),((p0.2.1.2.1.1,p0.2.1.2.1.2)),p0.2.1.2.2.1,p0.2.1.2.2.2)),p0.2.2)) p1 a12.1) fun r22=>(Option.bind (gV fuel ((((p0.1.1,p0.1.2.1,p0.1.2.2)),((((p0.2.1.1.1,p0.2.1.1.2.1,p0.2.1.1.2.2)),((p0.2.1.2.1.1,p0.2.1.2.1.2)),p0.2.1.2.2.1,p0.2.1.2.2.2)),p0.2.2)) p1 a12.1 r22) fun r25=>(ck (0<=a12.1∧a12.1<(List.length a12.2:Int)) (iP a12 ag11 (List.set a12.2 (Int.toNat a12.1) r25)))))else(iP a12 ag11 (a12.2))))else(lJ  (a12.2))
def fL (fuel:Nat) (p0:(ByteArray×(List (ByteArray×Int×Int×Int×Int×Int))×(List (ByteArray×(Value×List (Int×Int))×(Value×List (Int×(Value×List (Int×Int)))))))×((ByteArray×(List (ByteArray×Int×Int×Int×Int×Int))×(List (ByteArray×(Value×List (Int×Int))×(Value×List (Int×(Value×List (Int×Int)))))))×(List (Int)×(List (List (Int×Int))))×Int×List (List (Int)))×(List (List (Int×Int)))) (p1:List (List (Int))) (p2:Int):Option (List (List (Int))):=
 Option.bind (pE fuel p1) fun r1=>(bK (eW fuel p0 p1 p2) fuel ((0:Int),r1))
theorem RK:aV Tryz.prog 113:=Tryz.call113
theorem At (fuel:Nat) {p0:(ByteArray×(List (ByteArray×Int×Int×Int×Int×Int))×(List (ByteArray×(Value×List (Int×Int))×(Value×List (Int×(Value×List (Int×Int)))))))×((ByteArray×(List (ByteArray×Int×Int×Int×Int×Int))×(List (ByteArray×(Value×List (Int×Int))×(Value×List (Int×(Value×List (Int×Int)))))))×(List (Int)×(List (List (Int×Int))))×Int×List (List (Int)))×(List (List (Int×Int)))} {p1:List (List (Int))} {p2:Int} (bx0:Nat)  (v1:Value)  (v2:Value)  (bx3:Nat)  (v4:Value)  (v5:Value)  (v6:Value)  (v7:Value)  (z8:List (Value×List (Int×Int)))  (v9:Value)  (z10:List (Value×List (Int)))  (v11:Value)  (z12:List (Value×List (Int×Int)))  (v13:Value)  (z14:List (Value×List (Int))) (r:List (List (Int))) (h:fL fuel p0 p1 p2=some r):
  bA Tryz.prog 113 #[Value.pointer (some ⟨bx0,0,none⟩),v13,Value.int .u32 (p2)] [bR bx0 [Value.string (p0.1.1),v1,v2,Value.pointer (some ⟨bx3,0,none⟩),v11] 140,Sl aH v1 p0.1.2.1,Sl aG v2 p0.1.2.2,bR bx3 [Value.string (p0.2.1.1.1),v4,v5,v6,v7,Value.int .i64 (p0.2.1.2.2.1),v9] 178,Sl aH v4 p0.2.1.1.2.1,Sl aG v5 p0.2.1.1.2.2,Sl aR v6 p0.2.1.2.1.1,S2 aK v7 z8 p0.2.1.2.1.2,S2 aR v9 z10 p0.2.1.2.2.2,S2 aK v11 z12 p0.2.2,S2 aR v13 z14 p1] (fun x:Value×List Value=>x.1) (fun x l=>Ar dK.raw x.1 x.2::jP cA x.2 r::l) (fun _ l=>l):=by
 refine bA.of (vs:=[Value.pointer (some ⟨bx0,0,none⟩),v13,Value.int .u32 (p2)]) Tryz.func113 rfl Tryz.ntmps113 rfl fun c=>?_
 unfold fL at h
 refine sqR<|qkAsg rfl<|dtN<|sqR<|qkMove rfl ?_
 have⟨r1,hr2,h⟩:=fJ h
 refine aL (aJ LE (Bo fuel v13 z14 r1 hr2) rfl (aA.cons (aC.fact 10 rfl) .nil) (fun _ _=>rfl)) rfl fun x3=>qkAsg rfl<|dtN<|aO<|bL (A:=List (List (Int))) (B:=List Value) (fun a6=>lJ  a6=some r) (fun a6 b7=>[(7,x3.1)]) (fun a6 b7=>[Ar dK.raw x3.1 b7,jP cA b7 a6]) (fun a6 b7=>[bR bx0 [Value.string (p0.1.1),v1,v2,Value.pointer (some ⟨bx3,0,none⟩),v11] 140,Sl aH v1 p0.1.2.1,Sl aG v2 p0.1.2.2,bR bx3 [Value.string (p0.2.1.1.1),v4,v5,v6,v7,Value.int .i64 (p0.2.1.2.2.1),v9] 178,Sl aH v4 p0.2.1.1.2.1,Sl aG v5 p0.2.1.1.2.2,Sl aR v6 p0.2.1.2.1.1,S2 aK v7 z8 p0.2.1.2.1.2,S2 aR v9 z10 p0.2.1.2.2.2,S2 aK v11 z12 p0.2.2,S2 aR v13 z14 p1]) ?_ ?_
 ·refine sqR<|qkMove rfl<|aB (jX rfl (aC.fact 10 rfl) rfl) rfl<|qkMove rfl<|dtN<|aU<|bY (A:=Int×List (List (Int))) (B:=List Value) (eW fuel p0 p1 p2) (fun a12 b13=>[(0,Value.pointer (some ⟨bx0,0,none⟩)),(1,v13),(2,Value.int .u32 (p2)),(7,x3.1),(12,Value.int .i64 (List.length p1:Int)),(13,Value.int .i64 (a12.1))]) (fun a12 b13=>[Ar dK.raw x3.1 b13,jP cA b13 a12.2]) (fun a12 b13=>[bR bx0 [Value.string (p0.1.1),v1,v2,Value.pointer (some ⟨bx3,0,none⟩),v11] 140,Sl aH v1 p0.1.2.1,Sl aG v2 p0.1.2.2,bR bx3 [Value.string (p0.2.1.1.1),v4,v5,v6,v7,Value.int .i64 (p0.2.1.2.2.1),v9] 178,Sl aH v4 p0.2.1.1.2.1,Sl aG v5 p0.2.1.1.2.2,Sl aR v6 p0.2.1.2.1.1,S2 aK v7 z8 p0.2.1.2.1.2,S2 aR v9 z10 p0.2.1.2.2.2,S2 aK v11 z12 p0.2.2,S2 aR v13 z14 p1]) ((0:Int),r1) (x3.2) h SF (aP.refl _) (aA.refl _ _) ?_
  clear h
  intro k14 a12 b13 h
  unfold eW at h
  refine sqR<|qkLss rfl<|dtN<|aO ?_
  refine eR h rfl (fun _ h=>?_) fun _ h=>?_
  ·refine aW<|aI<|aO<|bL (A:=List (List (Int))) (B:=List Value) (fun a18=>iP a12 (bK (eW fuel p0 p1 p2) k14) a18=some r) (fun a18 b19=>[(0,Value.pointer (some ⟨bx0,0,none⟩)),(1,v13),(2,Value.int .u32 (p2)),(7,x3.1),(12,Value.int .i64 (List.length p1:Int)),(13,Value.int .i64 (a12.1))]) (fun a18 b19=>[Ar dK.raw x3.1 b19,jP cA b19 a18]) (fun a18 b19=>[bR bx0 [Value.string (p0.1.1),v1,v2,Value.pointer (some ⟨bx3,0,none⟩),v11] 140,Sl aH v1 p0.1.2.1,Sl aG v2 p0.1.2.2,bR bx3 [Value.string (p0.2.1.1.1),v4,v5,v6,v7,Value.int .i64 (p0.2.1.2.2.1),v9] 178,Sl aH v4 p0.2.1.1.2.1,Sl aG v5 p0.2.1.1.2.2,Sl aR v6 p0.2.1.2.1.1,S2 aK v7 z8 p0.2.1.2.1.2,S2 aR v9 z10 p0.2.1.2.2.2,S2 aK v11 z12 p0.2.2,S2 aR v13 z14 p1]) ?_ ?_
   ·refine aU<|sqR<|qkMove rfl<|qkAsg rfl<|dtN<|sqR<|qkMove rfl<|qkMove rfl ?_
    have⟨hc20,h⟩:=aN h
    refine aB (Bd rfl rfl hc20) rfl<|aB (pU rfl rfl) rfl<|qkEql rfl<|dtN ?_
    refine eR h rfl (fun _ h=>?_) fun _ h=>?_
    ·refine aS<|qkMove rfl<|qkMove rfl<|qkMove rfl<|qkMove rfl<|qkMove rfl<|qkMove rfl<|qkMove rfl<|qkMove rfl ?_
     have⟨r22,hr23,h⟩:=fJ h
     refine aL (aJ Pa (uX fuel bx0 v1 v2 bx3 v4 v5 v6 v7 z8 v9 z10 v11 z12 v13 z14 r22 hr23) rfl (aA.cons (aC.fact 0 rfl) (aA.cons (aC.fact 1 rfl) (aA.cons (aC.fact 2 rfl) (aA.cons (aC.fact 3 rfl) (aA.cons (aC.fact 4 rfl) (aA.cons (aC.fact 5 rfl) (aA.cons (aC.fact 6 rfl) (aA.cons (aC.fact 7 rfl) (aA.cons (aC.fact 8 rfl) (aA.cons (aC.fact 9 rfl) (aA.cons (aC.fact 10 rfl) .nil))))))))))) (fun _ _=>rfl)) rfl fun x24=>?_
     have⟨r25,hr26,h⟩:=fJ h
     refine aL (aJ RT (As fuel bx0 v1 v2 bx3 v4 v5 v6 v7 z8 v9 z10 v11 z12 v13 z14 r25 hr26) rfl (aA.cons (aC.fact 0 rfl) (aA.cons (aC.fact 1 rfl) (aA.cons (aC.fact 2 rfl) (aA.cons (aC.fact 3 rfl) (aA.cons (aC.fact 4 rfl) (aA.cons (aC.fact 5 rfl) (aA.cons (aC.fact 6 rfl) (aA.cons (aC.fact 7 rfl) (aA.cons (aC.fact 8 rfl) (aA.cons (aC.fact 9 rfl) (aA.cons (aC.fact 10 rfl) .nil))))))))))) (fun _ _=>rfl)) rfl fun x27=>?_
     have⟨hc28,h⟩:=aN h
     refine aB (cS rfl rfl (bH (i:=1) (j:=2) rfl rfl cR) rfl rfl hc28) rfl<|b_ (Know.one ((aZ (aC.res 0 rfl) cR))) fun ho29=>jR (uB (k:=a12.1) 2 0 rfl rfl rfl hc28) ?_
     refine nY 0 1 ⟨hc28.1,by first|exact hc28.2|simpa using hc28.2⟩ rfl rfl rfl rfl rfl (by simp) ho29 rfl ?_
     refine eD<|bV<|aI ?_
     exact jA (List.set a12.2 (Int.toNat a12.1) r25) (List.set b13 (Int.toNat a12.1) x27) h SF rfl
    refine aW<|bV<|aI ?_
    exact jA (a12.2) (b13) h SF rfl
   clear h
   intro a18 b19 h
   unfold iP at h
   refine aS<|qkAdd rfl<|qkMove rfl<|dtN ?_
   exact xG ((wI .i64 (a12.1+(1:Int))),a18) (b19) h SF rfl
  refine cE<|aY<|aY<|dJ<|aI ?_
  exact jA (a12.2) (b13) h SF rfl
 clear h
 intro a6 b7 h
 unfold lJ at h
 refine sqR<|qkMove rfl<|qkAsg rfl<|dtN<|aX ?_
 cases h
 exact fO (x3.1,b7) rfl rfl (RV.tmp rfl) (aP.refl _) aA.nil
end Go.Proofs.YtigggfnchamobaaGreatDoor
end
section
namespace Go.Proofs.YtigggfnchamobaaGreatDoor
open Go.Sx
def uQ  (a2:Int):Option (Int):=
 some (a2)
def rI (a7:Int×Int) (ag6:(Int×Int)->Option (Int)) (a12:Int):Option (Int):=
 ag6 (a12,(wI .i64 (a7.2+(1:Int))))
def mK (p0:Int) (g1:Int->Option Bool) (a7:Int×Int) (ag6:(Int×Int)->Option (Int)):Option (Int):=
 if a7.2<p0 then(Option.bind (g1 a7.2) fun r14=>(if r14=true then(ck (0<=a7.2) (rI a7 ag6 (Ho .u32 a7.1 (yP .u32 (1:Int) a7.2))))else(rI a7 ag6 (a7.1))))else(uQ  (a7.1))
def vV (fuel:Nat) (p0:Int) (g1:Int->Option Bool):Option (Int):=
 bK (mK p0 g1) fuel ((0:Int),(0:Int))
theorem UD:aV Tryz.prog 86:=Tryz.call86
theorem Ib (fuel:Nat) {p0:Int} {g1:Int->Option Bool} (f1:FuncId) (cs1:List Value) (Lf:List bD) (hb_g1:aV Tryz.prog f1) (hm_g1:∀(y0:Int) (r:Bool),g1 y0=some r->bA Tryz.prog f1 ([Value.int .i64 (y0)]++cs1).toArray Lf (fun _:Unit=>Value.bool (r)) (fun _ l=>l) (fun _ l=>l)) (r:Int) (h:vV fuel p0 g1=some r):
  bA Tryz.prog 86 #[Value.int .i64 (p0),Value.func (.func f1) #[] (cs1).toArray] ([]++Lf) (fun x:Unit=>Value.int .u32 (r)) (fun x l=>l) (fun _ l=>l):=by
 refine bA.of (vs:=[Value.int .i64 (p0),Value.func (.func f1) #[] (cs1).toArray]) Tryz.func86 rfl Tryz.ntmps86 rfl fun c=>?_
 unfold vV at h
 refine sqR<|qkAsg rfl<|dtN<|sqR<|qkAsg rfl<|dtN<|aO<|bL (A:=Int) (B:=Unit) (fun a2=>uQ  a2=some r) (fun a2 b3=>[(5,Value.int .u32 (a2))]) (fun a2 b3=>[]) (fun a2 b3=>([]++Lf)) ?_ ?_
 ·refine sqR<|qkMove rfl<|qkMove rfl<|dtN<|aU<|bY (A:=Int×Int) (B:=Unit) (mK p0 g1) (fun a7 b8=>[(1,Value.func (.func f1) #[] (cs1).toArray),(5,Value.int .u32 (a7.1)),(7,Value.int .i64 (p0)),(8,Value.int .i64 (a7.2))]) (fun a7 b8=>[]) (fun a7 b8=>([]++Lf)) ((0:Int),(0:Int)) (()) h SF (aP.refl _) (aA.refl _ _) ?_
  clear h
  intro k9 a7 b8 h
  unfold mK at h
  refine sqR<|qkLss rfl<|dtN<|aO ?_
  refine eR h rfl (fun _ h=>?_) fun _ h=>?_
  ·refine aW<|aI<|aO<|bL (A:=Int) (B:=Unit) (fun a12=>rI a7 (bK (mK p0 g1) k9) a12=some r) (fun a12 b13=>[(1,Value.func (.func f1) #[] (cs1).toArray),(5,Value.int .u32 (a12)),(7,Value.int .i64 (p0)),(8,Value.int .i64 (a7.2))]) (fun a12 b13=>[]) (fun a12 b13=>([]++Lf)) ?_ ?_
   ·refine aU<|sqR<|qkMove rfl<|qkAsg rfl<|dtN<|sqR<|qkMove rfl<|qkMove rfl ?_
    have⟨r14,hr15,h⟩:=fJ h
    refine aL (pR (vs:=[Value.int .i64 (a7.2)]) (cs:=cs1) hb_g1 rfl (hm_g1 a7.2 r14 hr15) rfl (aA.tail _) (fun _ _=>rfl)) rfl fun x16=>dtN ?_
    refine zN h rfl (fun _ h=>?_) fun _ h=>?_
    ·refine aS<|qkMove rfl<|qkMove rfl ?_
     have⟨hc18,h⟩:=aN h
     refine aB (IR rfl rfl hc18) rfl<|aB (Rs rfl rfl) rfl<|qkAsg rfl<|eD<|bV<|aI ?_
     exact jA (Ho .u32 a7.1 (yP .u32 (1:Int) a7.2)) (()) h SF rfl
    refine aW<|bV<|aI ?_
    exact jA (a7.1) (()) h SF rfl
   clear h
   intro a12 b13 h
   unfold rI at h
   refine aS<|qkAdd rfl<|qkMove rfl<|dtN ?_
   exact xG (a12,(wI .i64 (a7.2+(1:Int)))) (()) h SF rfl
  refine cE<|aY<|aY<|dJ<|aI ?_
  exact jA (a7.1) (()) h SF rfl
 clear h
 intro a2 b3 h
 unfold uQ at h
 refine sqR<|qkMove rfl<|qkAsg rfl<|dtN<|aX ?_
 cases h
 exact lN rfl
end Go.Proofs.YtigggfnchamobaaGreatDoor
end
section
namespace Go.Proofs.YtigggfnchamobaaGreatDoor
open Go.Sx
def fV (fuel:Nat) (p0:Int) (p1:(ByteArray×(List (ByteArray×Int×Int×Int×Int×Int))×(List (ByteArray×(Value×List (Int×Int))×(Value×List (Int×(Value×List (Int×Int)))))))×((ByteArray×(List (ByteArray×Int×Int×Int×Int×Int))×(List (ByteArray×(Value×List (Int×Int))×(Value×List (Int×(Value×List (Int×Int)))))))×(List (Int)×(List (List (Int×Int))))×Int×List (List (Int)))×(List (List (Int×Int)))) (p2:List (List (Int))):Option (Bool):=
 Option.bind (dR fuel ((((p1.1.1,p1.1.2.1,p1.1.2.2)),((((p1.2.1.1.1,p1.2.1.1.2.1,p1.2.1.1.2.2)),((p1.2.1.2.1.1,p1.2.1.2.1.2)),p1.2.1.2.2.1,p1.2.1.2.2.2)),p1.2.2)) p2 p0) fun r1=>(some (decide ((0:Int)<=r1)))
theorem UE:aV Tryz.prog 87:=Tryz.call87
theorem wU (fuel:Nat) {p0:Int} {p1:(ByteArray×(List (ByteArray×Int×Int×Int×Int×Int))×(List (ByteArray×(Value×List (Int×Int))×(Value×List (Int×(Value×List (Int×Int)))))))×((ByteArray×(List (ByteArray×Int×Int×Int×Int×Int))×(List (ByteArray×(Value×List (Int×Int))×(Value×List (Int×(Value×List (Int×Int)))))))×(List (Int)×(List (List (Int×Int))))×Int×List (List (Int)))×(List (List (Int×Int)))} {p2:List (List (Int))} (bx0:Nat)  (bx1:Nat)  (v2:Value)  (v3:Value)  (bx4:Nat)  (v5:Value)  (v6:Value)  (v7:Value)  (v8:Value)  (z9:List (Value×List (Int×Int)))  (v10:Value)  (z11:List (Value×List (Int)))  (v12:Value)  (z13:List (Value×List (Int×Int)))  (bx14:Nat)  (v15:Value)  (z16:List (Value×List (Int))) (r:Bool) (h:fV fuel p0 p1 p2=some r):
  bA Tryz.prog 87 #[Value.int .i64 (p0),Value.pointer (some ⟨bx0,0,none⟩),Value.pointer (some ⟨bx14,0,none⟩)] [bR bx0 [Value.pointer (some ⟨bx1,0,none⟩)] 93,bR bx1 [Value.string (p1.1.1),v2,v3,Value.pointer (some ⟨bx4,0,none⟩),v12] 140,Sl aH v2 p1.1.2.1,Sl aG v3 p1.1.2.2,bR bx4 [Value.string (p1.2.1.1.1),v5,v6,v7,v8,Value.int .i64 (p1.2.1.2.2.1),v10] 178,Sl aH v5 p1.2.1.1.2.1,Sl aG v6 p1.2.1.1.2.2,Sl aR v7 p1.2.1.2.1.1,S2 aK v8 z9 p1.2.1.2.1.2,S2 aR v10 z11 p1.2.1.2.2.2,S2 aK v12 z13 p1.2.2,bR bx14 [v15] 36,S2 aR v15 z16 p2] (fun x:Unit=>Value.bool (r)) (fun x l=>l) (fun _ l=>l):=by
 refine bA.of (vs:=[Value.int .i64 (p0),Value.pointer (some ⟨bx0,0,none⟩),Value.pointer (some ⟨bx14,0,none⟩)]) Tryz.func87 rfl Tryz.ntmps87 rfl fun c=>?_
 unfold fV at h
 refine sqR<|qkAsg rfl<|dtN<|sqR<|aB (dG rfl (aC.fact 0 rfl) rfl rfl rfl) rfl<|aB (dG rfl (aC.fact 11 rfl) rfl rfl rfl) rfl<|qkMove rfl ?_
 have⟨r1,hr2,h⟩:=fJ h
 refine aL (aJ Pa (uX fuel bx1 v2 v3 bx4 v5 v6 v7 v8 z9 v10 z11 v12 z13 v15 z16 r1 hr2) rfl (aA.cons (aC.fact 1 rfl) (aA.cons (aC.fact 2 rfl) (aA.cons (aC.fact 3 rfl) (aA.cons (aC.fact 4 rfl) (aA.cons (aC.fact 5 rfl) (aA.cons (aC.fact 6 rfl) (aA.cons (aC.fact 7 rfl) (aA.cons (aC.fact 8 rfl) (aA.cons (aC.fact 9 rfl) (aA.cons (aC.fact 10 rfl) (aA.cons (aC.fact 12 rfl) .nil))))))))))) (fun _ _=>rfl)) rfl fun x3=>aB (Dy rfl rfl) rfl<|qkAsg rfl<|dtN<|aX ?_
 cases h
 exact lN rfl
end Go.Proofs.YtigggfnchamobaaGreatDoor
end
section
namespace Go.Proofs.YtigggfnchamobaaGreatDoor
open Go.Sx
def cV (fuel:Nat) (p0:(ByteArray×(List (ByteArray×Int×Int×Int×Int×Int))×(List (ByteArray×(Value×List (Int×Int))×(Value×List (Int×(Value×List (Int×Int)))))))×((ByteArray×(List (ByteArray×Int×Int×Int×Int×Int))×(List (ByteArray×(Value×List (Int×Int))×(Value×List (Int×(Value×List (Int×Int)))))))×(List (Int)×(List (List (Int×Int))))×Int×List (List (Int)))×(List (List (Int×Int)))) (p1:List (List (Int))):Option (Int):=
 Option.bind (vV fuel (List.length p0.2.2:Int) (fun y0=>fV fuel y0 ((((p0.1.1,p0.1.2.1,p0.1.2.2)),((((p0.2.1.1.1,p0.2.1.1.2.1,p0.2.1.1.2.2)),((p0.2.1.2.1.1,p0.2.1.2.1.2)),p0.2.1.2.2.1,p0.2.1.2.2.2)),p0.2.2)) p1)) fun r4=>(some (r4))
theorem OZ:aV Tryz.prog 57:=Tryz.call57
theorem sV (fuel:Nat) {p0:(ByteArray×(List (ByteArray×Int×Int×Int×Int×Int))×(List (ByteArray×(Value×List (Int×Int))×(Value×List (Int×(Value×List (Int×Int)))))))×((ByteArray×(List (ByteArray×Int×Int×Int×Int×Int))×(List (ByteArray×(Value×List (Int×Int))×(Value×List (Int×(Value×List (Int×Int)))))))×(List (Int)×(List (List (Int×Int))))×Int×List (List (Int)))×(List (List (Int×Int)))} {p1:List (List (Int))} (bx0:Nat)  (v1:Value)  (v2:Value)  (bx3:Nat)  (v4:Value)  (v5:Value)  (v6:Value)  (v7:Value)  (z8:List (Value×List (Int×Int)))  (v9:Value)  (z10:List (Value×List (Int)))  (v11:Value)  (z12:List (Value×List (Int×Int)))  (v13:Value)  (z14:List (Value×List (Int))) (r:Int) (h:cV fuel p0 p1=some r):
  bA Tryz.prog 57 #[Value.pointer (some ⟨bx0,0,none⟩),v13] [bR bx0 [Value.string (p0.1.1),v1,v2,Value.pointer (some ⟨bx3,0,none⟩),v11] 140,Sl aH v1 p0.1.2.1,Sl aG v2 p0.1.2.2,bR bx3 [Value.string (p0.2.1.1.1),v4,v5,v6,v7,Value.int .i64 (p0.2.1.2.2.1),v9] 178,Sl aH v4 p0.2.1.1.2.1,Sl aG v5 p0.2.1.1.2.2,Sl aR v6 p0.2.1.2.1.1,S2 aK v7 z8 p0.2.1.2.1.2,S2 aR v9 z10 p0.2.1.2.2.2,S2 aK v11 z12 p0.2.2,S2 aR v13 z14 p1] (fun x:Unit=>Value.int .u32 (r)) (fun x l=>l) (fun _ l=>l):=by
 refine bA.of (vs:=[Value.pointer (some ⟨bx0,0,none⟩),v13]) Tryz.func57 rfl Tryz.ntmps57 rfl fun c=>?_
 unfold cV at h
 refine sqR<|aL (aQ.box (cs:=[Value.pointer (some ⟨bx0,0,none⟩)]) rfl rfl) rfl fun b1=>b_ (Know.one (aC.sl (aC.fact 10 rfl))) fun ho3=>?_
 refine aL (aQ.box (cs:=[v13]) rfl (by rw[jB ho3])) rfl fun b2=>?_
 refine qkAsg rfl<|dtN<|sqR<|qkLd 1 rfl<|aB (bT rfl) rfl<|qkFld rfl<|aB (dG rfl (aC.fact 0 rfl) rfl rfl rfl) rfl<|aB (jX rfl (aC.fact 9 rfl) rfl) rfl<|aB (uD (cs:=[.tmp 2,.tmp 3]) (vs:=[Value.pointer (some ⟨b1,0,none⟩),Value.pointer (some ⟨b2,0,none⟩)]) rfl) rfl ?_
 have⟨r4,hr5,h⟩:=fJ h
 refine aL (aJ UD (Ib fuel 87 [Value.pointer (some ⟨b1,0,none⟩),Value.pointer (some ⟨b2,0,none⟩)] [bR b1 [Value.pointer (some ⟨bx0,0,none⟩)] 93,bR bx0 [Value.string (p0.1.1),v1,v2,Value.pointer (some ⟨bx3,0,none⟩),v11] 140,Sl aH v1 p0.1.2.1,Sl aG v2 p0.1.2.2,bR bx3 [Value.string (p0.2.1.1.1),v4,v5,v6,v7,Value.int .i64 (p0.2.1.2.2.1),v9] 178,Sl aH v4 p0.2.1.1.2.1,Sl aG v5 p0.2.1.1.2.2,Sl aR v6 p0.2.1.2.1.1,S2 aK v7 z8 p0.2.1.2.1.2,S2 aR v9 z10 p0.2.1.2.2.2,S2 aK v11 z12 p0.2.2,bR b2 [v13] 36,S2 aR v13 z14 p1] UE (fun y0 r h=>wU fuel b1 bx0 v1 v2 bx3 v4 v5 v6 v7 z8 v9 z10 v11 z12 b2 v13 z14 r h) r4 hr5) rfl (aA.cons (aC.res 1 rfl) (aA.cons (aC.fact 0 rfl) (aA.cons (aC.fact 1 rfl) (aA.cons (aC.fact 2 rfl) (aA.cons (aC.fact 3 rfl) (aA.cons (aC.fact 4 rfl) (aA.cons (aC.fact 5 rfl) (aA.cons (aC.fact 6 rfl) (aA.cons (aC.fact 7 rfl) (aA.cons (aC.fact 8 rfl) (aA.cons (aC.fact 9 rfl) (aA.cons (aC.res 0 rfl) (aA.cons (aC.fact 10 rfl) .nil))))))))))))) (fun _ _=>rfl)) rfl fun x6=>qkAsg rfl<|dtN<|aX ?_
 cases h
 exact u_ rfl
end Go.Proofs.YtigggfnchamobaaGreatDoor
end
section
namespace Go.Proofs.YtigggfnchamobaaGreatDoor
open Go Go.Sx
abbrev RL:=E×List (Nat×E)
abbrev xQ:=DL×GR×Int×List (List Int)
def EP (R:List RL):List (List (Int×Int)×List (Int×List (Int×Int))):=R.map fun r=>(r.1.ts,r.2.map fun s=>((s.1:Int),s.2.ts))
def Gp (nv:Nat) (e:E):Bool:=e.wf nv false&&decide (e.depth<=100)&&decide (e.ts.length<=800)
def wH (nv:Nat) (R:List RL):Bool:=decide (R.length<=20)&&R.all fun r=>Gp nv r.1&&decide (r.2.length<=20)&&r.2.all fun s=>decide (s.1<nv)&&Gp nv s.2
instance:Inhabited E:=⟨.lf 1 0⟩
def vJ (S:xQ) (c:List (List Int)) (v:Nat) (e:E):Int:=e.den (TF (S,c,(v:Int),[])) (row S.2.1 v).length (-1)
def uW (S:xQ) (R:List RL) (c:List (List Int)) (v:Nat):Int:=yU (R.map fun r=>vJ S c v r.1)
def CW (kind:Int) (b:Int×Int) (x:Int):Int:=if b.1<=x∧x<=b.2 then x else if kind=3 then -1 else if x<b.1 then b.1 else b.2
def NP (S:xQ) (vars:List DY) (c:List (List Int)) (v:Nat) (st:List Int) (s:Nat×E):List Int:=st.set s.1 (CW (at' vars (s.1:Int)).2.1 (Be S.2.1 vars v s.1) (vJ S c v s.2))
def Bj (S:xQ) (vars:List DY) (R:List RL) (c:List (List Int)) (v:Nat) (i:Int):List Int:=(at' R i).2.foldl (NP S vars c v) (at' c (v:Int))
def VC (S:xQ) (R:List RL) (c:List (List Int)):Nat:=xB (fun v=>decide (0<=uW S R c v)) S.2.1.2.length
def sU (S:xQ) (vars:List DY) (R:List RL) (c:List (List Int)) (t:Nat):List (List Int):=(List.range c.length).map fun v=>if t.testBit v=true then Bj S vars R c v (uW S R c v)else at' c (v:Int)
structure tA (g:GR) (nv:Nat) (c:List (List Int)):Prop where
 len:c.length=g.2.length
 row:∀v:Nat,v<g.2.length->(at' c (v:Int)).length=nv
theorem Tw.shape {g:GR} {c:List (List Int)} {vars:List DY} (h:Tw g c vars):tA g vars.length c:=⟨h.len,h.row⟩
section
variable {S:xQ} {nv:Nat} {c:List (List Int)} {v:Nat}
theorem wok (hV:VG S.2.1) (hc:tA S.2.1 nv c) (hv:v<S.2.1.2.length) (ts:List (Int×Int)):Xt (S,c,(v:Int),ts) nv S.2.1.2.length v:=by
 refine⟨rfl,hv,rfl,hV.len,hc.len,hc.row,fun u hu i hi=> ?_⟩
 obtain⟨w,h1,h2⟩:=hV.to hu hi
 show 0<=(iS (row S.2.1 u) i).1∧(iS (row S.2.1 u) i).1<_
 rw[h2];omega
theorem JZ (hV:VG S.2.1) (hc:tA S.2.1 nv c) (hv:v<S.2.1.2.length) {e:E} (he:Gp nv e=true):d_ 1000 S c (v:Int) e.ts=some (vJ S c v e):=by
 simp only[Gp,Bool.and_eq_true,decide_eq_true_eq]at he
 have h24:=hV.n24
 have hdeg:=(hV.node v hv).deg
 unfold d_
 have:=QW (wok hV hc hv e.ts) (deg:=(row S.2.1 v).length) rfl (by omega) he.2 e false 1000 0 (-1) [] [] (by simp) rfl he.1.1 (fun h=>by cases h) (by omega)
 rw[bN (show bQ 1000 _ (0:Int) (-1)=_ from this)]
 rfl
end
section
variable {p:DL} {g:GR} {gr:Int} {bk:List (List Int)} {R:List RL} {nv:Nat} {c:List (List Int)} {v:Nat}
theorem Cs (hz:p.2.2.map wT=EP R):p.2.2.length=R.length:=by simpa [EP]using congrArg List.length hz
theorem Mt (hz:p.2.2.map wT=EP R) {i:Nat} (hi:i<R.length):wT (at' p.2.2 (i:Int))=((at' R (i:Int)).1.ts,(at' R (i:Int)).2.map fun s=>((s.1:Int),s.2.ts)):=by
 have hl:=Cs hz
 have:=congrArg (fun q=>q[i]?) hz
 simp only[EP,List.getElem?_map,List.getElem?_eq_getElem hi,List.getElem?_eq_getElem (show i<p.2.2.length by omega),Option.map_some,Option.some.injEq]at this
 rw[jY hi,jY (show i<p.2.2.length by omega)];exact this
theorem Mz (hR:wH nv R=true) {i:Nat} (hi:i<R.length):Gp nv (at' R (i:Int)).1=true∧(at' R (i:Int)).2.length<=20∧∀s∈(at' R (i:Int)).2,s.1<nv∧Gp nv s.2=true:=by
 simp only[wH,Bool.and_eq_true,List.all_eq_true,decide_eq_true_eq]at hR
 have:=hR.2 (at' R (i:Int)) (by rw[jY hi];exact List.getElem_mem hi)
 exact⟨this.1.1,this.1.2,fun s hs=>this.2 s hs⟩
theorem Tg (hR:wH nv R=true):R.length<=20:=by
 simp only[wH,Bool.and_eq_true,decide_eq_true_eq]at hR
 exact hR.1
theorem PM (hV:VG g) (hc:tA g nv c) (hv:v<g.2.length) (hz:p.2.2.map wT=EP R) (hR:wH nv R=true) {i:Nat} (hi:i<R.length):gG 1000 (p,g,gr,bk) c (v:Int) (i:Int)=some (nz (vJ (p,g,gr,bk) c v (at' R (i:Int)).1)):=by
 have hl:=Cs hz
 have e:(at' p.2.2 (i:Int)).2.1.2=(at' R (i:Int)).1.ts:=congrArg Prod.fst (Mt hz hi)
 unfold gG
 dsimp only
 rw[dV (by omega),e]
 rw[bN (show d_ 1000 _ c (v:Int) _=_ from JZ (S:=(p,g,gr,bk)) hV hc hv (Mz hR hi).1)]
 rfl
theorem MA (hV:VG g) (hc:tA g nv c) (hv:v<g.2.length) (hz:p.2.2.map wT=EP R) (hR:wH nv R=true) (tab:List (List (Int×Int))):dR 1000 (p,(p,g,gr,bk),tab) c (v:Int)=some (uW (p,g,gr,bk) R c v):=by
 have hl:=Cs hz
 have h20:=Tg hR
 let l:=R.map fun r=>vJ (p,g,gr,bk) c v r.1
 have hll:l.length=R.length:=by simp[l]
 have hat:∀i,i<R.length->at' l (i:Int)=vJ (p,g,gr,bk) c v (at' R (i:Int)).1:=fun i hi=>by
  rw[jY (by omega),jY hi];simp[l]
 have stp:∀(k:Nat) ag,k<R.length->gE 1000 (p,(p,g,gr,bk),tab) c (v:Int) (k:Int) ag=if nz (at' l (k:Int))=true then some (k:Int)else ag (((k+1:Nat):Int)):=by
  intro k ag hk
  unfold gE
  dsimp only
  rw[if_pos (by omega),bN (show gG 1000 _ c (v:Int) (k:Int)=_ from PM hV hc hv hz hR hk),hat k hk,eT (by omega)]
 unfold dR uW
 by_cases hx:∃i,i<R.length∧at' l (i:Int)≠0
 ·obtain⟨i,hi,h0⟩:=hx
  obtain⟨m,h1,h2,h3⟩:=Gw (p:=fun i=>at' l (i:Int)≠0) i h0
  have h3:∀j,j<m->at' l (j:Int)=0:=fun j hj=>Decidable.not_not.1 (h3 j hj)
  rw[show yU _=(m:Int)from xA (l:=l) (by omega) h2 h3]
  exact eI (K:=some (m:Int)) m (fun k=>(k:Int)) (fun k ag hk=>by rw[stp k ag (by omega),if_neg (by simp[nz,h3 k hk])]) (fun ag=>by rw[stp m ag (by omega),if_pos (by simpa [nz]using h2)]) 1000 (by omega)
 ·have hx:∀j,j<l.length->at' l (j:Int)=0:=fun j hj=>Decidable.not_not.1 fun e=>hx ⟨j,by omega,e⟩
  rw[show yU _=(-1:Int)from w_ (l:=l) hx]
  exact eI (K:=some (-1)) R.length (fun k=>(k:Int)) (fun k ag hk=>by rw[stp k ag hk,if_neg (by simp[nz,hx k (by omega)])]) (fun ag=>by
   unfold gE lI
   dsimp only
   rw[if_neg (by omega)]) 1000 (by omega)
theorem Cy (S:xQ) (R:List RL) (c:List (List Int)) (v:Nat):uW S R c v = -1∨∃i:Nat,uW S R c v=(i:Int)∧i<R.length∧vJ S c v (at' R (i:Int)).1≠0:=by
 let l:=R.map fun r=>vJ S c v r.1
 by_cases hx:∃i,i<l.length∧at' l (i:Int)≠0
 ·obtain⟨i,hi,h0⟩:=hx
  obtain⟨m,h1,h2,h3⟩:=Gw (p:=fun i=>at' l (i:Int)≠0) i h0
  have h3:∀j,j<m->at' l (j:Int)=0:=fun j hj=>Decidable.not_not.1 (h3 j hj)
  have hm:m<R.length:=by simp[l]at hi;omega
  refine .inr ⟨m,xA (l:=l) (by omega) h2 h3,hm,?_⟩
  have:at' l (m:Int)=vJ S c v (at' R (m:Int)).1:=by rw[jY (by simpa [l]using hm),jY hm];simp[l]
  rw[<-this];exact h2
 ·exact .inl (w_ (l:=l) fun j hj=>Decidable.not_not.1 fun e=>hx ⟨j,hj,e⟩)
theorem Ld {S:xQ} {R:List RL} {c:List (List Int)} {v:Nat}:uW S R c v = -1↔∀i:Nat,i<R.length->vJ S c v (at' R (i:Int)).1=0:=by
 let l:=R.map fun r=>vJ S c v r.1
 have hat:∀i,i<R.length->at' l (i:Int)=vJ S c v (at' R (i:Int)).1:=fun i hi=>by rw[jY (by simpa [l]using hi),jY hi];simp[l]
 constructor
 ·intro h i hi
  refine Decidable.not_not.1 fun e=> ?_
  obtain⟨m,h1,h2,h3⟩:=Gw (p:=fun i=>at' l (i:Int)≠0) i (by rw[hat i hi];exact e)
  have h3:∀j,j<m->at' l (j:Int)=0:=fun j hj=>Decidable.not_not.1 (h3 j hj)
  have:uW S R c v=(m:Int):=xA (l:=l) (by simp[l];omega) h2 h3
  omega
 ·intro h
  exact w_ (l:=l) fun j hj=>by rw[hat j (by simpa [l]using hj)];exact h j (by simpa [l]using hj)
theorem KE (hV:VG g) (hc:tA g nv c) (hz:p.2.2.map wT=EP R) (hR:wH nv R=true) {tab:List (List (Int×Int))} (ht:tab.length=g.2.length):cV 1000 (p,(p,g,gr,bk),tab) c=some ((VC (p,g,gr,bk) R c:Nat):Int):=by
 have h24:=hV.n24
 unfold cV vV
 let q:Nat->Bool:=fun v=>decide (0<=uW (p,g,gr,bk) R c v)
 have:=eI (step:=mK (tab.length:Int) (fun y0=>fV 1000 y0 (p,(p,g,gr,bk),tab) c)) (K:=some ((xB q g.2.length:Nat):Int)) g.2.length (fun k=>(((xB q k:Nat):Int),(k:Int))) (fun k ag hk=>by
  have hm:=Mi q (k:=k) (by omega)
  unfold mK rI fV
  dsimp only
  rw[if_pos (by omega),bN (show Option.bind (dR 1000 _ c (k:Int)) _=some (q k) by rw[bN (show dR 1000 _ c (k:Int)=_ from MA hV hc hk hz hR tab)]),eT (by omega)]
  cases hq:q k with
  |true=>
   rw[if_pos rfl,dV (by omega),Kz hm (by omega)]
   simp only[xB,hq,if_true]
  |false=>
   rw[if_neg (by decide)]
   simp only[xB,hq];rfl) (fun ag=>by
  unfold mK uQ
  dsimp only
  rw[if_neg (by omega)]) 1000 (by omega)
 rw[bN (show bK _ 1000 ((0:Int),(0:Int))=_ from this)]
 rfl
end
end Go.Proofs.YtigggfnchamobaaGreatDoor
end
section
namespace Go.Proofs.YtigggfnchamobaaGreatDoor
open Go Go.Sx
theorem Pc (f:Nat) (k:Int) (b:Int×Int) (x:Int):qA f k b x=some (CW k b x):=by
 unfold qA oM CW
 by_cases h1:b.1<=x
 ·by_cases h2:x<=b.2
  ·simp only[h1,h2,and_self,if_true,decide_true]
  ·simp only[h1,h2,and_false,if_true,if_false,decide_false,Bool.false_eq_true]
   split
   ·rfl
   ·split<;>rfl
 ·simp only[h1,false_and,if_false,Bool.false_eq_true]
  split
  ·rfl
  ·split<;>rfl
theorem JJ {S:xQ} {vars:List DY} {c:List (List Int)} {v:Nat} (l:List (Nat×E)) (st:List Int):(l.foldl (NP S vars c v) st).length=st.length:=by
 induction l generalizing st with
 |nil=>rfl
 |cons s l ih=>rw[List.foldl_cons,ih];simp[NP]
theorem GB {S:xQ} {vars:List DY} {R:List RL} {c:List (List Int)} {v:Nat} {i:Int}:(Bj S vars R c v i).length=(at' c (v:Int)).length:=JJ _ _
section
variable {p:DL} {g:GR} {gr:Int} {bk:List (List Int)} {R:List RL} {c:List (List Int)} {v:Nat}
theorem SY (hV:VG g) (hp:Bw g p.2.1) (hc:tA g p.2.1.length c) (hv:v<g.2.length) (hz:p.2.2.map wT=EP R) (hR:wH p.2.1.length R=true) {i:Nat} (hi:i<R.length):
  gV 1000 (p,(p,g,gr,bk),zG g p.2.1) c (v:Int) (i:Int)=some (Bj (p,g,gr,bk) p.2.1 R c v (i:Int)):=by
 have h24:=hV.n24
 have hcl:=hc.len
 have hrow:=hc.row v hv
 have hvl:=hp.len
 have hl:=Cs hz
 have hpa:=Mt hz hi
 obtain⟨-,hs20,hsets⟩:=Mz hR hi
 have htab:(zG g p.2.1).length=g.2.length:=by simp[zG]
 have htv:at' (zG g p.2.1) (v:Int)=A_ g p.2.1 v:=x_ _ hv
 have hrt:(A_ g p.2.1 v).length=p.2.1.length:=by simp[A_]
 have e2:(at' p.2.2 (i:Int)).2.2.2.map (fun s=>(s.1,s.2.2))=(at' R (i:Int)).2.map fun s=>((s.1:Int),s.2.ts):=congrArg Prod.snd hpa
 have hsl:(at' p.2.2 (i:Int)).2.2.2.length=(at' R (i:Int)).2.length:=by simpa using congrArg List.length e2
 unfold gV
 dsimp only
 rw[dV (by omega),dV (by simp;omega),dV (by omega),List.nil_append]
 unfold Bj
 let sets:=(at' R (i:Int)).2
 have:=eI (step:=gC 1000 (p,(p,g,gr,bk),zG g p.2.1) c (v:Int) (i:Int)) (K:=some (sets.foldl (NP (p,g,gr,bk) p.2.1 c v) (at' c (v:Int)))) sets.length (fun k=>((k:Int),(sets.take k).foldl (NP (p,g,gr,bk) p.2.1 c v) (at' c (v:Int)))) (fun k ag hk=>by
  have hk2:k<(at' p.2.2 (i:Int)).2.2.2.length:=by rw[hsl];exact hk
  have ek:((at' (at' p.2.2 (i:Int)).2.2.2 (k:Int)).1,(at' (at' p.2.2 (i:Int)).2.2.2 (k:Int)).2.2)=(((at' sets (k:Int)).1:Int),(at' sets (k:Int)).2.ts):=by
   have:=congrArg (fun q=>q[k]?) e2
   simp only[List.getElem?_map,List.getElem?_eq_getElem hk2,List.getElem?_eq_getElem (show k<(at' R (i:Int)).2.length from hk),Option.map_some,Option.some.injEq]at this
   rw[jY hk2,jY hk];exact this
  have ek1:=congrArg Prod.fst ek
  have ek2:=congrArg Prod.snd ek
  dsimp only at ek1 ek2
  obtain⟨hs1,hs2⟩:=hsets (at' sets (k:Int)) (by rw[jY hk];exact List.getElem_mem hk)
  have hstl:((sets.take k).foldl (NP (p,g,gr,bk) p.2.1 c v) (at' c (v:Int))).length=p.2.1.length:=by rw[JJ,hrow]
  have hcell:at' (A_ g p.2.1 v) ((at' sets (k:Int)).1:Int)=Be g p.2.1 v (at' sets (k:Int)).1:=x_ _ hs1
  have hsk:sets.length<=20:=hs20
  unfold gC
  dsimp only
  rw[if_pos (by omega),dV (by omega),ek1,ek2,bN (show d_ 1000 _ c (v:Int) _=_ from JZ (S:=(p,g,gr,bk)) hV hc hv hs2),dV (by omega),dV (by omega),htv,dV (by omega),hcell,bN (Pc 1000 _ _ _),dV (by omega),eT (by omega),Int.toNat_natCast,AS hk,List.foldl_append]
  rfl) (fun ag=>by
  unfold gC lH
  dsimp only
  rw[if_neg (by show¬(sets.length:Int)<_;rw[hsl];exact Int.lt_irrefl _),List.take_length]) 1000 (by show(at' R (i:Int)).2.length<1000;omega)
 exact this
theorem Tk (hV:VG g) (hp:Bw g p.2.1) (hc:tA g p.2.1.length c) (hz:p.2.2.map wT=EP R) (hR:wH p.2.1.length R=true) {t:Nat} (ht32:t<4294967296) (ht:∀v,t.testBit v=true->0<=uW (p,g,gr,bk) R c v):
  fL 1000 (p,(p,g,gr,bk),zG g p.2.1) c (t:Int)=some (sU (p,g,gr,bk) p.2.1 R c t):=by
 have h24:=hV.n24
 have hcl:=hc.len
 have hvl:=hp.len
 unfold fL
 rw[bN (LU c (by omega) (fun v hv=>by rw[hc.row v (by omega)];omega))]
 let f:Nat->List Int:=fun v=>if t.testBit v=true then Bj (p,g,gr,bk) p.2.1 R c v (uW (p,g,gr,bk) R c v)else at' c (v:Int)
 let Q:Nat->List (List Int):=fun k=>(List.range k).map f++c.drop k
 have hQ:∀k,k<=c.length->(Q k).length=c.length:=fun k hk=>by simp[Q];omega
 have hset:∀k,k<c.length->(Q k).set k (f k)=Q (k+1):=fun k hk=>by
  show((List.range k).map f++c.drop k).set k (f k)=(List.range (k+1)).map f++c.drop (k+1)
  rw[List.set_append_right _ _ (by simp),List.length_map,List.length_range,Nat.sub_self,List.drop_eq_getElem_cons hk,List.set_cons_zero,List.range_succ,List.map_append,List.map_singleton,List.append_assoc]
  rfl
 have hkeep:∀k,k<c.length->f k=at' c (k:Int)->Q k=Q (k+1):=fun k hk hf=>by
  show(List.range k).map f++c.drop k=(List.range (k+1)).map f++c.drop (k+1)
  rw[List.range_succ,List.drop_eq_getElem_cons hk,List.map_append,List.map_singleton,hf,jY hk]
  simp
 rw[show c=Q 0 by simp[Q]]
 refine eI (step:=eW 1000 (p,(p,g,gr,bk),zG g p.2.1) (Q 0) (t:Int)) (K:=some (sU (p,g,gr,bk) p.2.1 R (Q 0) t)) c.length (fun k=>((k:Int),Q k)) (fun k ag hk=> ?_) (fun ag=> ?_) 1000 (by omega)
 ·rw[show Q 0=c by simp[Q]]
  unfold eW iP
  dsimp only
  rw[if_pos (by omega),dV (by omega),eT (by omega)]
  by_cases hb:t.testBit k=true
  ·obtain⟨i,hi,hil,_⟩:=(Cy (p,g,gr,bk) R c k).resolve_left (fun e=>by have:=ht k hb;omega)
   rw[if_pos ((KL (by omega) ht32).2 hb),bN (show dR 1000 _ c (k:Int)=_ from MA hV hc (by omega) hz hR _),hi,bN (show gV 1000 _ c (k:Int) (i:Int)=_ from SY hV hp hc (by omega) hz hR hil),dV (by rw[hQ k (by omega)];omega),Int.toNat_natCast]
   have:Bj (p,g,gr,bk) p.2.1 R c k (i:Int)=f k:=by simp only[f];rw[if_pos hb,hi]
   rw[this,hset k hk]
  ·rw[if_neg (fun q=>hb ((KL (by omega) ht32).1 q)),hkeep k hk (by simp only[f];rw[if_neg hb])]
 ·rw[show Q 0=c by simp[Q]]
  unfold eW lJ
  dsimp only
  rw[if_neg (by omega)]
  simp[Q,sU,f]
theorem GJ {S:xQ} {vars:List DY} {t:Nat}:(sU S vars R c t).length=c.length:=by simp[sU]
theorem JL {S:xQ} {vars:List DY} {t:Nat} (hv:v<c.length):at' (sU S vars R c t) (v:Int)=if t.testBit v=true then Bj S vars R c v (uW S R c v)else at' c (v:Int):=x_ _ hv
theorem tA.step {S:xQ} {vars:List DY} {t:Nat} {nv:Nat} {g:GR} (hc:tA g nv c):tA g nv (sU S vars R c t):=⟨by rw[GJ,hc.len],fun v hv=>by
 rw[JL (by rw[hc.len];exact hv)]
 split
 ·rw[GB,hc.row v hv]
 ·exact hc.row v hv⟩
end
end Go.Proofs.YtigggfnchamobaaGreatDoor
end
section
namespace Go.Proofs.YtigggfnchamobaaGreatDoor
open Go.Sx
def oL  (a2:Bool):Option (Bool):=
 some (a2)
def p_ (fuel:Nat) (p0:Int):Option (Bool):=
 if(1:Int)<=p0 then(oL  (decide (p0<=(4:Int))))else(oL  (false))
theorem UA:aV Tryz.prog 79:=Tryz.call79
theorem Ft (fuel:Nat) {p0:Int} (r:Bool) (h:p_ fuel p0=some r):
  bA Tryz.prog 79 #[Value.int .i64 (p0)] [] (fun x:Unit=>Value.bool (r)) (fun x l=>l) (fun _ l=>l):=by
 refine bA.of (vs:=[Value.int .i64 (p0)]) Tryz.func79 rfl Tryz.ntmps79 rfl fun c=>?_
 unfold p_ at h
 refine sqR<|qkAsg rfl<|dtN<|aO<|bL (A:=Bool) (B:=Unit) (fun a2=>oL  a2=some r) (fun a2 b3=>[(2,Value.bool (a2))]) (fun a2 b3=>[]) (fun a2 b3=>[]) ?_ ?_
 ·refine aS<|qkMove rfl<|aB (Dy rfl rfl) rfl<|qkMove rfl ?_
  refine Bg h rfl (fun _ h=>?_) fun _ h=>?_
  ·refine gyMove rfl<|a_ rfl (zM rfl rfl) rfl<|aB (cI rfl rfl) rfl<|qkAsg rfl<|dtN ?_
   exact jA (decide (p0<=(4:Int))) (()) h SF rfl
  refine gdSkip rfl<|gdSkip rfl<|aB (cX rfl rfl) rfl<|qkAsg rfl<|dtN ?_
  exact jA (false) (()) h SF rfl
 clear h
 intro a2 b3 h
 unfold oL at h
 refine aX ?_
 cases h
 exact lN rfl
end Go.Proofs.YtigggfnchamobaaGreatDoor
end
section
namespace Go.Proofs.YtigggfnchamobaaGreatDoor
open Go.Sx
def sS (fuel:Nat) (p0:ByteArray×(List (ByteArray×Int×Int×Int×Int×Int))×(List (ByteArray×(Value×List (Int×Int))×(Value×List (Int×(Value×List (Int×Int))))))) (p1:List (Int)×(List (List (Int×Int)))) (p2:Int) (p3:List (List (Int))) (p4:Int):Option (Int):=
 Option.bind (nS fuel ((p0.1,p0.2.1,p0.2.2)) ((p1.1,p1.2)) p3) fun r3=>(if r3≠(0:Int)then(some (r3))else(Option.bind (p_ fuel p2) fun r7=>(if(!r7)=true then(some (12:Int))else(if(4096:Int)<p4 then(some (3:Int))else(some (0:Int))))))
theorem Uu:aV Tryz.prog 51:=Tryz.call51
theorem JO (fuel:Nat) {p0:ByteArray×(List (ByteArray×Int×Int×Int×Int×Int))×(List (ByteArray×(Value×List (Int×Int))×(Value×List (Int×(Value×List (Int×Int))))))} {p1:List (Int)×(List (List (Int×Int)))} {p2:Int} {p3:List (List (Int))} {p4:Int} (v0:Value)  (v1:Value)  (v2:Value)  (v3:Value)  (z4:List (Value×List (Int×Int)))  (v5:Value)  (z6:List (Value×List (Int))) (r:Int) (h:sS fuel p0 p1 p2 p3 p4=some r):
  bA Tryz.prog 51 #[Value.agg #[Value.string (p0.1),v0,v1],Value.agg #[v2,v3],Value.int .i64 (p2),v5,Value.int .i64 (p4)] [Sl aH v0 p0.2.1,Sl aG v1 p0.2.2,PF (Value.agg #[Value.string p0.1,v0,v1]),Sl aR v2 p1.1,S2 aK v3 z4 p1.2,S2 aR v5 z6 p3] (fun x:Unit=>Value.int .i64 (r)) (fun x l=>l) (fun _ l=>l):=by
 refine bA.of (vs:=[Value.agg #[Value.string (p0.1),v0,v1],Value.agg #[v2,v3],Value.int .i64 (p2),v5,Value.int .i64 (p4)]) Tryz.func51 rfl Tryz.ntmps51 rfl fun c=>?_
 unfold sS at h
 refine sqR<|aL (aQ.box (cs:=[Value.string (p0.1),v0,v1]) rfl rfl) rfl fun b1=>aL (aQ.box (cs:=[v2,v3]) rfl rfl) rfl fun b2=>qkAsg rfl<|dtN<|aO<|sqR<|qkLdA 1 rfl<|qkLdA 0 rfl<|qkMove rfl ?_
 have⟨r3,hr4,h⟩:=fJ h
 refine aL (aJ Uz (Fx fuel v0 v1 v2 v3 z4 v5 z6 r3 hr4) rfl (aA.cons (aC.fact 0 rfl) (aA.cons (aC.fact 1 rfl) (aA.cons (aC.fact 2 rfl) (aA.cons (aC.fact 3 rfl) (aA.cons (aC.fact 4 rfl) (aA.cons (aC.fact 5 rfl) .nil)))))) (fun _ _=>rfl)) rfl fun x5=>qkAsg rfl<|dtN<|sqR<|qkMove rfl<|aB (mM rfl rfl) rfl<|dtN ?_
 refine eR h rfl (fun _ h=>?_) fun _ h=>?_
 ·refine sqR<|qkMove rfl<|qkAsg rfl<|dtN<|aX<|aM ?_
  cases h
  exact u_ rfl
 refine aW<|aI<|aO<|sqR<|qkMove rfl ?_
 have⟨r7,hr8,h⟩:=fJ h
 refine aL (aJ UA (Ft fuel  r7 hr8) rfl .nil (fun _ _=>rfl)) rfl fun x9=>aB (qR rfl) rfl<|dtN ?_
 refine zN h rfl (fun _ h=>?_) fun _ h=>?_
 ·refine sqR<|qkAsg rfl<|dtN<|aX<|aM ?_
  cases h
  exact u_ rfl
 refine aW<|aI<|aO<|sqR<|qkMove rfl<|aB (tC rfl rfl) rfl<|dtN ?_
 refine eR h rfl (fun _ h=>?_) fun _ h=>?_
 ·refine sqR<|qkAsg rfl<|dtN<|aX<|aM ?_
  cases h
  exact u_ rfl
 refine aW<|aI<|sqR<|qkAsg rfl<|dtN<|aX ?_
 cases h
 exact u_ rfl
end Go.Proofs.YtigggfnchamobaaGreatDoor
end
section
namespace Go.Proofs.YtigggfnchamobaaGreatDoor
open Go.Sx
def qM (fuel:Nat) (p0:List (List (Int))) (p1:Int) (p2:Int×Int×Int×Int×Int):Option (Unit):=
 some (())
theorem OY:aV Tryz.prog 53:=Tryz.call53
theorem CK (fuel:Nat) {p0:List (List (Int))} {p1:Int} {p2:Int×Int×Int×Int×Int} (v0:Value)  (z1:List (Value×List (Int))) (r:Unit) (h:qM fuel p0 p1 p2=some r):
  bA Tryz.prog 53 #[v0,Value.int .u32 (p1),Value.agg #[Value.int .i64 (p2.1),Value.int .i64 (p2.2.1),Value.int .i64 (p2.2.2.1),Value.int .i64 (p2.2.2.2.1),Value.int .u32 (p2.2.2.2.2)]] [S2 aR v0 z1 p0] (fun x:Unit=>Value.tuple #[]) (fun x l=>l) (fun _ l=>l):=by
 refine bA.of (vs:=[v0,Value.int .u32 (p1),Value.agg #[Value.int .i64 (p2.1),Value.int .i64 (p2.2.1),Value.int .i64 (p2.2.2.1),Value.int .i64 (p2.2.2.2.1),Value.int .u32 (p2.2.2.2.2)]]) Tryz.func53 rfl Tryz.ntmps53 rfl fun c=>?_
 unfold qM at h
 refine aS<|aL (aQ.box (cs:=[Value.int .i64 (p2.1),Value.int .i64 (p2.2.1),Value.int .i64 (p2.2.2.1),Value.int .i64 (p2.2.2.2.1),Value.int .u32 (p2.2.2.2.2)]) rfl rfl) rfl fun b1=>eD ?_
 cases h
 exact AB (()) rfl rfl .normal (.inr rfl) .nil aA.nil
end Go.Proofs.YtigggfnchamobaaGreatDoor
end
section
namespace Go.Proofs.YtigggfnchamobaaGreatDoor
open Go.Sx
def rW (fuel:Nat) (p0:Int):Option ((Int×Int×Int×Int×Int)):=
 some (((0:Int),(0:Int),(0:Int),(0:Int),(dD .u32 p0 (16777215:Int))))
theorem RI:aV Tryz.prog 111:=Tryz.call111
theorem DO (fuel:Nat) {p0:Int} (r:(Int×Int×Int×Int×Int)) (h:rW fuel p0=some r):
  bA Tryz.prog 111 #[Value.int .u32 (p0)] [] (fun x:Unit=>Value.agg #[Value.int .i64 (r.1),Value.int .i64 (r.2.1),Value.int .i64 (r.2.2.1),Value.int .i64 (r.2.2.2.1),Value.int .u32 (r.2.2.2.2)]) (fun x l=>l) (fun _ l=>l):=by
 refine bA.of (vs:=[Value.int .u32 (p0)]) Tryz.func111 rfl Tryz.ntmps111 rfl fun c=>?_
 unfold rW at h
 refine sqR<|aL (aQ.alloc (cs:=[Value.int .i64 (0:Int),Value.int .i64 (0:Int),Value.int .i64 (0:Int),Value.int .i64 (0:Int),Value.int .u32 (0:Int)]) rfl rfl) rfl fun b1=>dtN<|sqR<|qkMove rfl<|aB (pU rfl rfl) rfl ?_
 refine aB (OA (r:=Value.agg #[Value.int .i64 (0:Int),Value.int .i64 (0:Int),Value.int .i64 (0:Int),Value.int .i64 (0:Int),Value.int .u32 (dD .u32 p0 (16777215:Int))]) rfl (by intro w;simp[Instr.build,Instr.fill,eK,dN,c_,eL,eM,dO,fQ])) rfl ?_
 refine bM 0 (vs:=[Value.int .i64 (0:Int),Value.int .i64 (0:Int),Value.int .i64 (0:Int),Value.int .i64 (0:Int),Value.int .u32 (dD .u32 p0 (16777215:Int))]) rfl rfl rfl rfl rfl rfl<|dtN<|aX ?_
 cases h
 exact fO (()) rfl rfl (RV.cell 0 rfl rfl rfl rfl) .nil aA.nil
end Go.Proofs.YtigggfnchamobaaGreatDoor
end
section
namespace Go.Proofs.YtigggfnchamobaaGreatDoor
open Go.Sx
def mS  (a1:Unit):Option (Bool):=
 some (true)
def kF (p0:List (Int)) (a5:Int) (ag4:(Int)->Option (Bool)):Option (Bool):=
 if a5<(List.length p0:Int)then(ck (0<=a5∧a5<(List.length p0:Int)) (if(vR .u32 (at' p0 a5) (16777215:Int))≠(0:Int)then(some (false))else(ag4 (wI .i64 (a5+(1:Int))))))else(mS  (()))
def iZ (fuel:Nat) (p0:List (Int)):Option (Bool):=
 bK (kF p0) fuel (0:Int)
theorem LJ:aV Tryz.prog 136:=Tryz.call136
theorem wP (fuel:Nat) {p0:List (Int)} (v0:Value) (r:Bool) (h:iZ fuel p0=some r):
  bA Tryz.prog 136 #[v0] [Sl jE v0 p0] (fun x:Unit=>Value.bool (r)) (fun x l=>l) (fun _ l=>l):=by
 refine bA.of (vs:=[v0]) Tryz.func136 rfl Tryz.ntmps136 rfl fun c=>?_
 unfold iZ at h
 refine sqR<|qkAsg rfl<|dtN<|aO<|bL (A:=Unit) (B:=Unit) (fun a1=>mS  a1=some r) (fun a1 b2=>[]) (fun a1 b2=>[]) (fun a1 b2=>[Sl jE v0 p0]) ?_ ?_
 ·refine sqR<|qkMove rfl<|aB (cB rfl (aC.fact 0 rfl) rfl) rfl<|qkMove rfl<|dtN<|aU<|bY (A:=Int) (B:=Unit) (kF p0) (fun a5 b6=>[(5,v0),(6,Value.int .i64 (List.length p0:Int)),(7,Value.int .i64 (a5))]) (fun a5 b6=>[]) (fun a5 b6=>[Sl jE v0 p0]) (0:Int) (()) h SF (aP.refl _) (aA.refl _ _) ?_
  clear h
  intro k7 a5 b6 h
  unfold kF at h
  refine sqR<|qkLss rfl<|dtN<|aO ?_
  refine eR h rfl (fun _ h=>?_) fun _ h=>?_
  ·refine aW<|aI<|aO<|aU<|sqR ?_
   have⟨hc9,h⟩:=aN h
   refine aB (bE rfl rfl (aC.fact 0 rfl) rfl rfl hc9) rfl<|aB (bZ rfl (aC.fact 0 rfl) rfl rfl rfl Bv hc9) rfl<|qkAsg rfl<|dtN<|sqR<|qkMove rfl<|aB (Ez rfl rfl) rfl<|aB (mM rfl rfl) rfl<|dtN ?_
   refine eR h rfl (fun _ h=>?_) fun _ h=>?_
   ·refine sqR<|qkAsg rfl<|dtN<|aX<|bP<|aM<|aM<|bP<|aM ?_
    cases h
    exact lN rfl
   refine aW<|bV<|aI<|aS<|qkAdd rfl<|qkMove rfl<|dtN ?_
   exact xG (wI .i64 (a5+(1:Int))) (()) h SF rfl
  refine cE<|aY<|aY<|dJ<|aI ?_
  exact jA (()) (()) h SF rfl
 clear h
 intro a1 b2 h
 unfold mS at h
 refine sqR<|qkAsg rfl<|dtN<|aX ?_
 cases h
 exact lN rfl
end Go.Proofs.YtigggfnchamobaaGreatDoor
end
section
namespace Go.Proofs.YtigggfnchamobaaGreatDoor
open Go.Sx
def kO  (a8:Bool):Option (Bool):=
 some (a8)
def fP (fuel:Nat) (p0:Int×Int×Int×Int×Int) (a3:Bool):Option (Bool):=
 if a3=true then(some (false))else(if(wI .i64 (p0.2.2.1+(1:Int)))<p0.2.2.2.1 then(some (false))else(if p0.1<=p0.2.1 then(if p0.2.1<=(wI .i64 ((24:Int)*p0.1))then(Option.bind (iZ fuel ([p0.2.2.2.2])) fun r13=>(kO  (r13)))else(kO  (false)))else(kO  (false))))
def lR (fuel:Nat) (p0:Int×Int×Int×Int×Int):Option (Bool):=
 if p0.1<(0:Int)then(fP fuel p0 (true))else(if(4096:Int)<p0.1 then(fP fuel p0 (true))else(if p0.2.2.1<(0:Int)then(fP fuel p0 (true))else(if p0.2.2.2.1<p0.2.2.1 then(fP fuel p0 (true))else(fP fuel p0 (decide (p0.1<p0.2.2.2.1))))))
theorem RU:aV Tryz.prog 135:=Tryz.call135
theorem DP (fuel:Nat) {p0:Int×Int×Int×Int×Int} (r:Bool) (h:lR fuel p0=some r):
  bA Tryz.prog 135 #[Value.agg #[Value.int .i64 (p0.1),Value.int .i64 (p0.2.1),Value.int .i64 (p0.2.2.1),Value.int .i64 (p0.2.2.2.1),Value.int .u32 (p0.2.2.2.2)]] [] (fun x:Unit=>Value.bool (r)) (fun x l=>l) (fun _ l=>l):=by
 refine bA.of (vs:=[Value.agg #[Value.int .i64 (p0.1),Value.int .i64 (p0.2.1),Value.int .i64 (p0.2.2.1),Value.int .i64 (p0.2.2.2.1),Value.int .u32 (p0.2.2.2.2)]]) Tryz.func135 rfl Tryz.ntmps135 rfl fun c=>?_
 unfold lR at h
 refine sqR<|aL (aQ.box (cs:=[Value.int .i64 (p0.1),Value.int .i64 (p0.2.1),Value.int .i64 (p0.2.2.1),Value.int .i64 (p0.2.2.2.1),Value.int .u32 (p0.2.2.2.2)]) rfl rfl) rfl fun b1=>qkAsg rfl<|dtN<|aO<|aO<|bL (A:=Bool) (B:=Unit) (fun a3=>fP fuel p0 a3=some r) (fun a3 b4=>[(1,Value.pointer (some ⟨b1,0,none⟩)),(29,Value.bool (a3))]) (fun a3 b4=>[bR b1 [Value.int .i64 (p0.1),Value.int .i64 (p0.2.1),Value.int .i64 (p0.2.2.1),Value.int .i64 (p0.2.2.2.1),Value.int .u32 (p0.2.2.2.2)] 42]) (fun a3 b4=>[]) ?_ ?_
 ·refine aS<|qkFld rfl<|qkLd 0 rfl<|qkLss rfl<|qkMove rfl ?_
  refine Bg h rfl (fun _ h=>?_) fun _ h=>?_
  ·refine gdSkip rfl<|gdSkip rfl<|gdSkip rfl<|aB (cI rfl rfl) rfl<|qkMove rfl<|gdSkip rfl<|gdSkip rfl<|gdSkip rfl<|aB (cI rfl rfl) rfl<|qkMove rfl<|gdSkip rfl<|gdSkip rfl<|gdSkip rfl<|gdSkip rfl<|gdSkip rfl<|aB (cI rfl rfl) rfl<|qkMove rfl<|gdSkip rfl<|gdSkip rfl<|gdSkip rfl<|gdSkip rfl<|gdSkip rfl<|aB (cI rfl rfl) rfl<|dtN ?_
   exact jA (true) (()) h SF rfl
  refine a_ rfl (eF rfl rfl rfl rfl rfl) rfl<|a_ rfl (eJ 0 rfl rfl rfl rfl rfl) rfl<|a_ rfl (tC rfl rfl) rfl<|aB (cX rfl rfl) rfl<|qkMove rfl ?_
  refine Bg h rfl (fun _ h=>?_) fun _ h=>?_
  ·refine gdSkip rfl<|gdSkip rfl<|gdSkip rfl<|aB (cI rfl rfl) rfl<|qkMove rfl<|gdSkip rfl<|gdSkip rfl<|gdSkip rfl<|gdSkip rfl<|gdSkip rfl<|aB (cI rfl rfl) rfl<|qkMove rfl<|gdSkip rfl<|gdSkip rfl<|gdSkip rfl<|gdSkip rfl<|gdSkip rfl<|aB (cI rfl rfl) rfl<|dtN ?_
   exact jA (true) (()) h SF rfl
  refine a_ rfl (eF rfl rfl rfl rfl rfl) rfl<|a_ rfl (eJ 0 rfl rfl rfl rfl rfl) rfl<|a_ rfl (Ge rfl rfl) rfl<|aB (cX rfl rfl) rfl<|qkMove rfl ?_
  refine Bg h rfl (fun _ h=>?_) fun _ h=>?_
  ·refine gdSkip rfl<|gdSkip rfl<|gdSkip rfl<|gdSkip rfl<|gdSkip rfl<|aB (cI rfl rfl) rfl<|qkMove rfl<|gdSkip rfl<|gdSkip rfl<|gdSkip rfl<|gdSkip rfl<|gdSkip rfl<|aB (cI rfl rfl) rfl<|dtN ?_
   exact jA (true) (()) h SF rfl
  refine a_ rfl (eF rfl rfl rfl rfl rfl) rfl<|a_ rfl (eJ 0 rfl rfl rfl rfl rfl) rfl<|a_ rfl (eF rfl rfl rfl rfl rfl) rfl<|a_ rfl (eJ 0 rfl rfl rfl rfl rfl) rfl<|a_ rfl (tC rfl rfl) rfl<|aB (cX rfl rfl) rfl<|qkMove rfl ?_
  refine Bg h rfl (fun _ h=>?_) fun _ h=>?_
  ·refine gdSkip rfl<|gdSkip rfl<|gdSkip rfl<|gdSkip rfl<|gdSkip rfl<|aB (cI rfl rfl) rfl<|dtN ?_
   exact jA (true) (()) h SF rfl
  refine a_ rfl (eF rfl rfl rfl rfl rfl) rfl<|a_ rfl (eJ 0 rfl rfl rfl rfl rfl) rfl<|a_ rfl (eF rfl rfl rfl rfl rfl) rfl<|a_ rfl (eJ 0 rfl rfl rfl rfl rfl) rfl<|a_ rfl (tC rfl rfl) rfl<|aB (cX rfl rfl) rfl<|dtN ?_
  exact jA (decide (p0.1<p0.2.2.2.1)) (()) h SF rfl
 clear h
 intro a3 b4 h
 unfold fP at h
 refine zN h rfl (fun _ h=>?_) fun _ h=>?_
 ·refine sqR<|qkAsg rfl<|dtN<|aX<|aM ?_
  cases h
  exact u_ rfl
 refine aW<|aI<|aO<|sqR<|qkFld rfl<|qkLd 0 rfl<|qkFld rfl<|qkLd 0 rfl<|qkAdd rfl<|aB (tC rfl rfl) rfl<|dtN ?_
 refine eR h rfl (fun _ h=>?_) fun _ h=>?_
 ·refine sqR<|qkAsg rfl<|dtN<|aX<|aM ?_
  cases h
  exact u_ rfl
 refine aW<|aI<|aO<|bL (A:=Bool) (B:=Unit) (fun a8=>kO  a8=some r) (fun a8 b9=>[(2,Value.bool (a8))]) (fun a8 b9=>[]) (fun a8 b9=>[]) ?_ ?_
 ·refine aS<|qkFld rfl<|qkLd 0 rfl<|qkFld rfl<|qkLd 0 rfl<|aB (zM rfl rfl) rfl<|qkMove rfl ?_
  refine Bg h rfl (fun _ h=>?_) fun _ h=>?_
  ·refine a_ rfl (eF rfl rfl rfl rfl rfl) rfl<|a_ rfl (eJ 0 rfl rfl rfl rfl rfl) rfl<|a_ rfl (eF rfl rfl rfl rfl rfl) rfl<|a_ rfl (eJ 0 rfl rfl rfl rfl rfl) rfl<|a_ rfl (yO rfl rfl) rfl<|a_ rfl (zM rfl rfl) rfl<|aB (cI rfl rfl) rfl<|qkMove rfl ?_
   refine Bg h rfl (fun _ h=>?_) fun _ h=>?_
   ·refine a_ rfl (eF rfl rfl rfl rfl rfl) rfl<|a_ rfl (eJ 0 rfl rfl rfl rfl rfl) rfl<|rM rfl (cJ (e:=jO) ([p0.2.2.2.2]) [(0,Value.int .u32 (p0.2.2.2.2))] rfl rfl rfl rfl (nP (Value.int .u32 (p0.2.2.2.2)) rfl) rfl rfl rfl) rfl fun u12=>?_
    have⟨r13,hr14,h⟩:=fJ h
    refine rM rfl (aJ LJ (wP fuel u12 r13 hr14) rfl (aA.cons (aZ (aC.res 0 rfl) kM) .nil) (fun _ _=>rfl)) rfl fun x15=>aB (cI rfl rfl) rfl<|qkAsg rfl<|dtN ?_
    exact cM (r13) (()) h SF .nil (aA.refl _ _)
   refine gdSkip rfl<|gdSkip rfl<|gdSkip rfl<|gdSkip rfl<|aB (cX rfl rfl) rfl<|qkAsg rfl<|dtN ?_
   exact cM (false) (()) h SF .nil (aA.refl _ _)
  refine gdSkip rfl<|gdSkip rfl<|gdSkip rfl<|gdSkip rfl<|gdSkip rfl<|gdSkip rfl<|aB (cX rfl rfl) rfl<|qkMove rfl<|gdSkip rfl<|gdSkip rfl<|gdSkip rfl<|gdSkip rfl<|aB (cX rfl rfl) rfl<|qkAsg rfl<|dtN ?_
  exact cM (false) (()) h SF .nil (aA.refl _ _)
 clear h
 intro a8 b9 h
 unfold kO at h
 refine aX ?_
 cases h
 exact lN rfl
end Go.Proofs.YtigggfnchamobaaGreatDoor
end
section
namespace Go.Proofs.YtigggfnchamobaaGreatDoor
open Go.Sx
def lA (fuel:Nat) (p0:Int):Option (Int):=
 ck (0<=(24:Int)) (ck (0<=(pH .u32 p0 (24:Int))∧(pH .u32 p0 (24:Int))<(List.length QZ:Int)) (ck (0<=(16:Int)) (ck (0<=(dD .u32 (pH .u32 p0 (16:Int)) (255:Int))∧(dD .u32 (pH .u32 p0 (16:Int)) (255:Int))<(List.length QZ:Int)) (ck (0<=(8:Int)) (ck (0<=(dD .u32 (pH .u32 p0 (8:Int)) (255:Int))∧(dD .u32 (pH .u32 p0 (8:Int)) (255:Int))<(List.length QZ:Int)) (ck (0<=(dD .u32 p0 (255:Int))∧(dD .u32 p0 (255:Int))<(List.length QZ:Int)) (some (wI .i64 (wI .u8 ((wI .u8 ((wI .u8 ((at' QZ (pH .u32 p0 (24:Int)))+(at' QZ (dD .u32 (pH .u32 p0 (16:Int)) (255:Int)))))+(at' QZ (dD .u32 (pH .u32 p0 (8:Int)) (255:Int)))))+(at' QZ (dD .u32 p0 (255:Int)))))))))))))
theorem RX:aV Tryz.prog 137:=Tryz.call137
theorem BM (fuel:Nat) {p0:Int} (r:Int) (h:lA fuel p0=some r):
  bA Tryz.prog 137 #[Value.int .u32 (p0)] [] (fun x:Unit=>Value.int .i64 (r)) (fun x l=>l) (fun _ l=>l):=by
 refine bA.of (vs:=[Value.int .u32 (p0)]) Tryz.func137 rfl Tryz.ntmps137 rfl fun c=>?_
 unfold lA at h
 refine sqR<|qkAsg rfl<|dtN<|aO ?_
 refine JR.start [0,1,3,0,8,24,56,127,0,256,768,1792,4095,0,8192,24576,65535,131071,262143] 16 mixedOrders (by decide +kernel) ?_
 refine JR.open (by exact rfl) ?_
 refine jkMove rfl ?_
 have⟨hc1,h⟩:=aN h
 refine aT rfl .nil .nil (Bd rfl rfl hc1) aF.z ?_
 have⟨hc2,h⟩:=aN h
 refine aT rfl .nil .nil (yN rfl rfl rfl Hu hc2) aF.z<|jkMove rfl ?_
 have⟨hc3,h⟩:=aN h
 refine aT rfl .nil .nil (Bd rfl rfl hc3) aF.z<|aT rfl .nil .nil (pU rfl rfl) aF.z ?_
 have⟨hc4,h⟩:=aN h
 refine aT rfl .nil .nil (yN rfl rfl rfl Hu hc4) aF.z<|aT rfl .nil .nil (pG rfl rfl) aF.z<|jkMove rfl ?_
 have⟨hc5,h⟩:=aN h
 refine aT rfl .nil .nil (Bd rfl rfl hc5) aF.z<|aT rfl .nil .nil (pU rfl rfl) aF.z ?_
 have⟨hc6,h⟩:=aN h
 refine aT rfl .nil .nil (yN rfl rfl rfl Hu hc6) aF.z<|aT rfl .nil .nil (pG rfl rfl) aF.z<|jkMove rfl<|aT rfl .nil .nil (pU rfl rfl) aF.z ?_
 have⟨hc7,h⟩:=aN h
 refine aT rfl .nil .nil (yN rfl rfl rfl Hu hc7) aF.z<|bS 16 rfl rfl<|qkAdd rfl<|aB (Hj rfl rfl rfl) rfl<|qkAsg rfl<|dtN<|aX ?_
 cases h
 exact lN rfl
end Go.Proofs.YtigggfnchamobaaGreatDoor
end
section
namespace Go.Proofs.YtigggfnchamobaaGreatDoor
open Go.Sx
def pW (p0:Int×Int×Int×Int×Int) (r12:Int) (a17:Int×Int):Option ((Int×Int×Int×Int×Int)×Int):=
 some ((((wI .i64 (p0.1+(1:Int))),(wI .i64 (p0.2.1+r12)),a17.1,(wI .i64 (p0.2.2.1+(1:Int))),a17.2)),(0:Int))
def nH (fuel:Nat) (p0:Int×Int×Int×Int×Int) (p1:Int) (p2:Int) (a8:Bool):Option ((Int×Int×Int×Int×Int)×Int):=
 if a8=true then(some ((((0:Int),(0:Int),(0:Int),(0:Int),(0:Int))),(11:Int)))else(if p0.1=(4096:Int)then(some ((((0:Int),(0:Int),(0:Int),(0:Int),(0:Int))),(3:Int)))else(Option.bind (lA fuel p1) fun r12=>(if(dD .u32 (vR .u32 p0.2.2.2.2 p1) p2)=(0:Int)then(pW p0 r12 ((wI .i64 (p0.2.2.1+(1:Int))),p2))else(pW p0 r12 (p0.2.2.1,(dD .u32 (vR .u32 p0.2.2.2.2 p1) p2))))))
def mI (fuel:Nat) (p0:Int×Int×Int×Int×Int) (p1:Int) (p2:Int):Option ((Int×Int×Int×Int×Int)×Int):=
 Option.bind (lR fuel ((p0.1,p0.2.1,p0.2.2.1,p0.2.2.2.1,p0.2.2.2.2))) fun r3=>(if(!r3)=true then(some ((((0:Int),(0:Int),(0:Int),(0:Int),(0:Int))),(7:Int)))else(if p1=(0:Int)then(nH fuel p0 p1 p2 (true))else(Option.bind (iZ fuel ([p1,p2])) fun r22=>(nH fuel p0 p1 p2 ((!r22))))))
theorem RM:aV Tryz.prog 114:=Tryz.call114
theorem FM (fuel:Nat) {p0:Int×Int×Int×Int×Int} {p1:Int} {p2:Int} (r:(Int×Int×Int×Int×Int)×Int) (h:mI fuel p0 p1 p2=some r):
  bA Tryz.prog 114 #[Value.agg #[Value.int .i64 (p0.1),Value.int .i64 (p0.2.1),Value.int .i64 (p0.2.2.1),Value.int .i64 (p0.2.2.2.1),Value.int .u32 (p0.2.2.2.2)],Value.int .u32 (p1),Value.int .u32 (p2)] [] (fun x:Unit=>Value.tuple #[Value.agg #[Value.int .i64 (r.1.1),Value.int .i64 (r.1.2.1),Value.int .i64 (r.1.2.2.1),Value.int .i64 (r.1.2.2.2.1),Value.int .u32 (r.1.2.2.2.2)],Value.int .i64 (r.2)]) (fun x l=>l) (fun _ l=>l):=by
 refine bA.of (vs:=[Value.agg #[Value.int .i64 (p0.1),Value.int .i64 (p0.2.1),Value.int .i64 (p0.2.2.1),Value.int .i64 (p0.2.2.2.1),Value.int .u32 (p0.2.2.2.2)],Value.int .u32 (p1),Value.int .u32 (p2)]) Tryz.func114 rfl Tryz.ntmps114 rfl fun c=>?_
 unfold mI at h
 refine sqR<|aL (aQ.box (cs:=[Value.int .i64 (p0.1),Value.int .i64 (p0.2.1),Value.int .i64 (p0.2.2.1),Value.int .i64 (p0.2.2.2.1),Value.int .u32 (p0.2.2.2.2)]) rfl rfl) rfl fun b1=>aL (aQ.alloc (cs:=[Value.int .i64 (0:Int),Value.int .i64 (0:Int),Value.int .i64 (0:Int),Value.int .i64 (0:Int),Value.int .u32 (0:Int)]) rfl rfl) rfl fun b2=>qkAsg rfl<|dtN<|aO<|sqR<|qkLdA 1 rfl ?_
 have⟨r3,hr4,h⟩:=fJ h
 refine aL (aJ RU (DP fuel  r3 hr4) rfl .nil (fun _ _=>rfl)) rfl fun x5=>aB (qR rfl) rfl<|dtN ?_
 refine zN h rfl (fun _ h=>?_) fun _ h=>?_
 ·refine sqR ?_
  refine aB (EA (r:=Value.agg #[Value.int .i64 (0:Int),Value.int .i64 (0:Int),Value.int .i64 (0:Int),Value.int .i64 (0:Int),Value.int .u32 (0:Int)]) (by intro w;simp[Instr.build,Instr.fill,eK,dN,c_,eL,eM,dO,fQ])) rfl ?_
  refine bM 0 (vs:=[Value.int .i64 (0:Int),Value.int .i64 (0:Int),Value.int .i64 (0:Int),Value.int .i64 (0:Int),Value.int .u32 (0:Int)]) rfl rfl rfl rfl rfl rfl<|qkAsg rfl<|dtN<|aX<|aM ?_
  cases h
  exact jD (()) rfl rfl (RV.cell 0 rfl rfl rfl rfl) (RV.tmp rfl) .nil aA.nil
 refine aW<|aI<|aO<|aO<|bL (A:=Bool) (B:=Unit) (fun a8=>nH fuel p0 p1 p2 a8=some r) (fun a8 b9=>[(1,Value.int .u32 (p1)),(2,Value.int .u32 (p2)),(3,Value.pointer (some ⟨b1,0,none⟩)),(6,Value.pointer (some ⟨b2,0,none⟩)),(20,Value.bool (a8))]) (fun a8 b9=>[bR b2 [Value.int .i64 (0:Int),Value.int .i64 (0:Int),Value.int .i64 (0:Int),Value.int .i64 (0:Int),Value.int .u32 (0:Int)] 42,bR b1 [Value.int .i64 (p0.1),Value.int .i64 (p0.2.1),Value.int .i64 (p0.2.2.1),Value.int .i64 (p0.2.2.2.1),Value.int .u32 (p0.2.2.2.2)] 42]) (fun a8 b9=>[]) ?_ ?_
 ·refine aS<|qkMove rfl<|qkEql rfl<|qkMove rfl ?_
  refine Bg h rfl (fun _ h=>?_) fun _ h=>?_
  ·refine gdSkip rfl<|gdSkip rfl<|gdSkip rfl<|gdSkip rfl<|gdSkip rfl<|aB (cI rfl rfl) rfl<|dtN ?_
   exact jA (true) (()) h SF rfl
  refine gyMove rfl<|gyMove rfl<|rM rfl (cJ (e:=jO) ([p1,p2]) [(0,Value.int .u32 (p1)),(1,Value.int .u32 (p2))] rfl rfl rfl rfl (Jf (Value.int .u32 (p1)) (Value.int .u32 (p2)) rfl rfl) rfl rfl rfl) rfl fun u21=>?_
  have⟨r22,hr23,h⟩:=fJ h
  refine rM rfl (aJ LJ (wP fuel u21 r22 hr23) rfl (aA.cons (aZ (aC.res 0 rfl) kM) .nil) (fun _ _=>rfl)) rfl fun x24=>a_ rfl (qR rfl) rfl<|aB (cX rfl rfl) rfl<|dtN ?_
  exact cM ((!r22)) (()) h SF (aP.ix [1,2] rfl rfl) (aA.refl _ _)
 clear h
 intro a8 b9 h
 unfold nH at h
 refine zN h rfl (fun _ h=>?_) fun _ h=>?_
 ·refine sqR ?_
  refine aB (EA (r:=Value.agg #[Value.int .i64 (0:Int),Value.int .i64 (0:Int),Value.int .i64 (0:Int),Value.int .i64 (0:Int),Value.int .u32 (0:Int)]) (by intro w;simp[Instr.build,Instr.fill,eK,dN,c_,eL,eM,dO,fQ])) rfl ?_
  refine bM 0 (vs:=[Value.int .i64 (0:Int),Value.int .i64 (0:Int),Value.int .i64 (0:Int),Value.int .i64 (0:Int),Value.int .u32 (0:Int)]) rfl rfl rfl rfl rfl rfl<|qkAsg rfl<|dtN<|aX<|aM ?_
  cases h
  exact jD (()) rfl rfl (RV.cell 0 rfl rfl rfl rfl) (RV.tmp rfl) .nil aA.nil
 refine aW<|aI<|aO<|sqR<|qkFld rfl<|qkLd 1 rfl<|qkEql rfl<|dtN ?_
 refine eR h rfl (fun _ h=>?_) fun _ h=>?_
 ·refine sqR ?_
  refine aB (EA (r:=Value.agg #[Value.int .i64 (0:Int),Value.int .i64 (0:Int),Value.int .i64 (0:Int),Value.int .i64 (0:Int),Value.int .u32 (0:Int)]) (by intro w;simp[Instr.build,Instr.fill,eK,dN,c_,eL,eM,dO,fQ])) rfl ?_
  refine bM 0 (vs:=[Value.int .i64 (0:Int),Value.int .i64 (0:Int),Value.int .i64 (0:Int),Value.int .i64 (0:Int),Value.int .u32 (0:Int)]) rfl rfl rfl rfl rfl rfl<|qkAsg rfl<|dtN<|aX<|aM ?_
  cases h
  exact jD (()) rfl rfl (RV.cell 0 rfl rfl rfl rfl) (RV.tmp rfl) .nil aA.nil
 refine aW<|aI<|sqR<|qkFld rfl<|qkLd 1 rfl<|qkAdd rfl<|qkFld rfl<|fH 1 rfl rfl rfl rfl rfl rfl<|dtN<|aO ?_
 refine JR.start [0,1,0,4,15,31,63] 4 mixedOrders (by decide +kernel) ?_
 refine JR.open (by exact rfl) ?_
 refine jkFld rfl<|jkLd 1 rfl<|jkMove rfl ?_
 have⟨r12,hr13,h⟩:=fJ h
 refine JR.loud rfl rfl rfl (aJ RX (BM fuel  r12 hr13) rfl .nil (fun _ _=>rfl)) rfl (fun x14=>(aE.b rfl (aE.h (aP.ix [1] rfl rfl) .nil (aE.h .nil .nil aE.z)))) fun x14=>bS 4 rfl rfl<|qkAdd rfl<|qkFld rfl<|fH 1 rfl rfl rfl rfl rfl rfl<|dtN<|sqR<|qkFld rfl<|qkLd 1 rfl<|qkAdd rfl<|qkFld rfl<|fH 1 rfl rfl rfl rfl rfl rfl<|dtN<|sqR<|qkFld rfl<|qkLd 1 rfl<|qkMove rfl<|aB (Ez rfl rfl) rfl<|qkMove rfl<|aB (pU rfl rfl) rfl<|qkFld rfl<|fH 1 rfl rfl rfl rfl rfl rfl<|dtN<|aO<|bL (A:=Int×Int) (B:=Unit) (fun a17=>pW p0 r12 a17=some r) (fun a17 b18=>[(3,Value.pointer (some ⟨b1,0,none⟩)),(6,Value.pointer (some ⟨b2,0,none⟩))]) (fun a17 b18=>[bR b2 [Value.int .i64 (0:Int),Value.int .i64 (0:Int),Value.int .i64 (0:Int),Value.int .i64 (0:Int),Value.int .u32 (0:Int)] 42,bR b1 [Value.int .i64 (wI .i64 (p0.1+(1:Int))),Value.int .i64 (wI .i64 (p0.2.1+r12)),Value.int .i64 (a17.1),Value.int .i64 (wI .i64 (p0.2.2.1+(1:Int))),Value.int .u32 (a17.2)] 42]) (fun a17 b18=>[]) ?_ ?_
 ·refine sqR<|qkFld rfl<|qkLd 1 rfl<|qkEql rfl<|dtN ?_
  refine eR h rfl (fun _ h=>?_) fun _ h=>?_
  ·refine sqR<|qkFld rfl<|qkLd 1 rfl<|qkFld rfl<|fH 1 rfl rfl rfl rfl rfl rfl<|dtN<|aS<|qkMove rfl<|qkFld rfl<|fH 1 rfl rfl rfl rfl rfl rfl<|dtN ?_
   exact jA ((wI .i64 (p0.2.2.1+(1:Int))),p2) (()) h SF rfl
  refine aW<|aI ?_
  exact jA (p0.2.2.1,(dD .u32 (vR .u32 p0.2.2.2.2 p1) p2)) (()) h SF rfl
 clear h
 intro a17 b18 h
 unfold pW at h
 refine sqR<|qkLdA 1 rfl<|bM 0 (vs:=[Value.int .i64 (wI .i64 (p0.1+(1:Int))),Value.int .i64 (wI .i64 (p0.2.1+r12)),Value.int .i64 (a17.1),Value.int .i64 (wI .i64 (p0.2.2.1+(1:Int))),Value.int .u32 (a17.2)]) rfl rfl rfl rfl rfl rfl<|qkAsg rfl<|dtN<|aX ?_
 cases h
 exact jD (()) rfl rfl (RV.cell 0 rfl rfl rfl rfl) (RV.tmp rfl) .nil aA.nil
end Go.Proofs.YtigggfnchamobaaGreatDoor
end
section
namespace Go.Proofs.YtigggfnchamobaaGreatDoor
open Go.Sx
def qZ  (a37:Int×Int×Int×Int×Int×Int×List (Int)×List (Int)×List (List (Int))):Option ((List (Int)×List (Int)×List (List (Int))×(Int×Int×Int×Int×Int))×Int):=
 some (((a37.2.2.2.2.2.2.1,a37.2.2.2.2.2.2.2.1,a37.2.2.2.2.2.2.2.2,((a37.1,a37.2.1,a37.2.2.1,a37.2.2.2.1,a37.2.2.2.2.1)))),a37.2.2.2.2.2.1)
def mW  (a59:List (Int)×List (Int)×List (List (Int))×Int×Int×Int×Int×Int×Int):Option ((List (Int)×List (Int)×List (List (Int))×(Int×Int×Int×Int×Int))×Int):=
 qZ  (a59.2.2.2.1,a59.2.2.2.2.1,a59.2.2.2.2.2.1,a59.2.2.2.2.2.2.1,a59.2.2.2.2.2.2.2.1,a59.2.2.2.2.2.2.2.2,a59.1,a59.2.1,a59.2.2.1)
def kG  (a96:List (Int)×Int×Int×Int×Int×Int×List (List (Int))×List (Int)):Option ((List (Int)×List (Int)×List (List (Int))×(Int×Int×Int×Int×Int))×Int):=
 mW  (a96.2.2.2.2.2.2.2,a96.1,a96.2.2.2.2.2.2.1,a96.2.1,a96.2.2.1,a96.2.2.2.1,a96.2.2.2.2.1,a96.2.2.2.2.2.1,(0:Int))
def mX (fuel:Nat) (p0:ByteArray×(List (ByteArray×Int×Int×Int×Int×Int))×(List (ByteArray×(Value×List (Int×Int))×(Value×List (Int×(Value×List (Int×Int))))))) (p1:List (Int)×(List (List (Int×Int)))) (p2:Int) (p4:Int) (a20:Int×List (Int)×(List (List (Int×Int)))×Int×List (List (Int))) (a119:Int×List (Int)×Int×Int×Int×Int×Int×Int×List (List (Int))×List (Int)) (ag118:(Int×List (Int)×Int×Int×Int×Int×Int×Int×List (List (Int))×List (Int))->Option ((List (Int)×List (Int)×List (List (Int))×(Int×Int×Int×Int×Int))×Int)) (a124:Int):Option ((List (Int)×List (Int)×List (List (Int))×(Int×Int×Int×Int×Int))×Int):=
 if¬(a119.1≠(0:Int))then(kG  (a119.2.1,a119.2.2.2.1,a119.2.2.2.2.1,a119.2.2.2.2.2.1,a119.2.2.2.2.2.2.1,a119.2.2.2.2.2.2.2.1,a119.2.2.2.2.2.2.2.2.1,a119.2.2.2.2.2.2.2.2.2))else(Option.bind (eP fuel a20.2.1 p2 a119.1 a124) fun r127=>(if(!r127)=true then(mW  (([]:List Int),([]:List Int),([]:List (List Int)),(0:Int),(0:Int),(0:Int),(0:Int),(0:Int),(11:Int)))else(Option.bind (fL fuel ((((p0.1,p0.2.1,p0.2.2)),((((p0.1,p0.2.1,p0.2.2)),((p1.1,p1.2)),a20.2.2.2.1,a20.2.2.2.2)),a20.2.2.1)) a119.2.2.2.2.2.2.2.2.1 a124) fun r131=>(Option.bind (cV fuel ((((p0.1,p0.2.1,p0.2.2)),((((p0.1,p0.2.1,p0.2.2)),((p1.1,p1.2)),a20.2.2.2.1,a20.2.2.2.2)),a20.2.2.1)) r131) fun r134=>(Option.bind (mI fuel ((a119.2.2.2.1,a119.2.2.2.2.1,a119.2.2.2.2.2.1,a119.2.2.2.2.2.2.1,a119.2.2.2.2.2.2.2.1)) a124 (dD .u32 r134 p4)) fun r137=>(Option.bind (qM fuel r131 (dD .u32 r134 p4) ((r137.1.1,r137.1.2.1,r137.1.2.2.1,r137.1.2.2.2.1,r137.1.2.2.2.2))) fun r140=>(ck ((List.length a119.2.2.2.2.2.2.2.2.2:Int)+(List.length ([a124]):Int)<=1099511627) (ck ((List.length a119.2.1:Int)+(List.length ([(dD .u32 r134 p4)]):Int)<=1099511627) (ag118 ((dD .u32 r134 p4),(a119.2.1++([(dD .u32 r134 p4)])),(wI .i64 (a119.2.2.1+(1:Int))),r137.1.1,r137.1.2.1,r137.1.2.2.1,r137.1.2.2.2.1,r137.1.2.2.2.2,r131,(a119.2.2.2.2.2.2.2.2.2++[a124])))))))))))
def iH (fuel:Nat) (p0:ByteArray×(List (ByteArray×Int×Int×Int×Int×Int))×(List (ByteArray×(Value×List (Int×Int))×(Value×List (Int×(Value×List (Int×Int))))))) (p1:List (Int)×(List (List (Int×Int)))) (p2:Int) (p4:Int) (p5:List (Int)) (a20:Int×List (Int)×(List (List (Int×Int)))×Int×List (List (Int))) (a119:Int×List (Int)×Int×Int×Int×Int×Int×Int×List (List (Int))×List (Int)) (ag118:(Int×List (Int)×Int×Int×Int×Int×Int×Int×List (List (Int))×List (Int))->Option ((List (Int)×List (Int)×List (List (Int))×(Int×Int×Int×Int×Int))×Int)):Option ((List (Int)×List (Int)×List (List (Int))×(Int×Int×Int×Int×Int))×Int):=
 if a119.2.2.1<(List.length p5:Int)then(ck (0<=a119.2.2.1∧a119.2.2.1<(List.length p5:Int)) (Option.bind (eQ fuel a20.2.1 p2 a119.1 (at' p5 a119.2.2.1)) fun r152=>(mX fuel p0 p1 p2 p4 a20 a119 ag118 (r152))))else(kG  (a119.2.1,a119.2.2.2.1,a119.2.2.2.2.1,a119.2.2.2.2.2.1,a119.2.2.2.2.2.2.1,a119.2.2.2.2.2.2.2.1,a119.2.2.2.2.2.2.2.2.1,a119.2.2.2.2.2.2.2.2.2))
def mV (fuel:Nat) (p0:ByteArray×(List (ByteArray×Int×Int×Int×Int×Int))×(List (ByteArray×(Value×List (Int×Int))×(Value×List (Int×(Value×List (Int×Int))))))) (p1:List (Int)×(List (List (Int×Int)))) (p2:Int) (p3:List (List (Int))) (p4:Int) (p5:List (Int)) (a20:Int×List (Int)×(List (List (Int×Int)))×Int×List (List (Int))):Option ((List (Int)×List (Int)×List (List (Int))×(Int×Int×Int×Int×Int))×Int):=
 Option.bind (pE fuel p3) fun r67=>(Option.bind (cV fuel ((((p0.1,p0.2.1,p0.2.2)),((((p0.1,p0.2.1,p0.2.2)),((p1.1,p1.2)),a20.2.2.2.1,a20.2.2.2.2)),a20.2.2.1)) r67) fun r70=>(Option.bind (rW fuel (dD .u32 r70 p4)) fun r73=>(Option.bind (qM fuel r67 (dD .u32 r70 p4) ((r73.1,r73.2.1,r73.2.2.1,r73.2.2.2.1,r73.2.2.2.2))) fun r77=>(ck ((List.length ([]:List Int):Int)+(List.length ([(dD .u32 r70 p4)]):Int)<=1099511627) (bK (iH fuel p0 p1 p2 p4 p5 a20) fuel ((dD .u32 r70 p4),(([]:List Int)++([(dD .u32 r70 p4)])),(0:Int),r73.1,r73.2.1,r73.2.2.1,r73.2.2.2.1,r73.2.2.2.2,r67,([]:List Int)))))))
def mY (fuel:Nat) (p0:ByteArray×(List (ByteArray×Int×Int×Int×Int×Int))×(List (ByteArray×(Value×List (Int×Int))×(Value×List (Int×(Value×List (Int×Int))))))) (p1:List (Int)×(List (List (Int×Int)))) (p2:Int) (p3:List (List (Int))) (p4:Int) (p5:List (Int)) (a167:(List (List (Int×Int)))×Int×List (List (Int))):Option ((List (Int)×List (Int)×List (List (Int))×(Int×Int×Int×Int×Int))×Int):=
 Option.bind (lS fuel ((p1.1,p1.2))) fun r169=>(Option.bind (sR fuel ((p1.1,p1.2))) fun r172=>(mV fuel p0 p1 p2 p3 p4 p5 (r172,r169,a167.1,a167.2.1,a167.2.2)))
def mZ (fuel:Nat) (p0:ByteArray×(List (ByteArray×Int×Int×Int×Int×Int))×(List (ByteArray×(Value×List (Int×Int))×(Value×List (Int×(Value×List (Int×Int))))))) (p1:List (Int)×(List (List (Int×Int)))) (p2:Int) (p3:List (List (Int))) (p4:Int) (p5:List (Int)) (a184:Int×List (List (Int))):Option ((List (Int)×List (Int)×List (List (Int))×(Int×Int×Int×Int×Int))×Int):=
 Option.bind (jM fuel ((p0.1,p0.2.1,p0.2.2)) ((p1.1,p1.2))) fun r186=>(mY fuel p0 p1 p2 p3 p4 p5 (r186,a184.1,a184.2))
def kH (fuel:Nat) (p0:ByteArray×(List (ByteArray×Int×Int×Int×Int×Int))×(List (ByteArray×(Value×List (Int×Int))×(Value×List (Int×(Value×List (Int×Int))))))) (p1:List (Int)×(List (List (Int×Int)))) (p2:Int) (p3:List (List (Int))) (p4:Int) (p5:List (Int)) (a200:Int×List (List (Int))):Option ((List (Int)×List (Int)×List (List (Int))×(Int×Int×Int×Int×Int))×Int):=
 mZ fuel p0 p1 p2 p3 p4 p5 (a200.1,a200.2)
def m_ (p1:List (Int)×(List (List (Int×Int)))) (a207:Int×Int×List (List (Int))) (ag206:(Int×Int×List (List (Int)))->Option ((List (Int)×List (Int)×List (List (Int))×(Int×Int×Int×Int×Int))×Int)) (a213:List (List (Int))):Option ((List (Int)×List (Int)×List (List (Int))×(Int×Int×Int×Int×Int))×Int):=
 ag206 ((wI .i64 (a207.1+(1:Int))),(max a207.2.1 (at' p1.1 a207.1)),a213)
def fY (fuel:Nat) (p1:List (Int)×(List (List (Int×Int)))) (a207:Int×Int×List (List (Int))) (ag206:(Int×Int×List (List (Int)))->Option ((List (Int)×List (Int)×List (List (Int))×(Int×Int×Int×Int×Int))×Int)) (a221:Int×List (List (Int))) (ag220:(Int×List (List (Int)))->Option ((List (Int)×List (Int)×List (List (Int))×(Int×Int×Int×Int×Int))×Int)):Option ((List (Int)×List (Int)×List (List (Int))×(Int×Int×Int×Int×Int))×Int):=
 if a221.1<(List.length (at' p1.2 a207.1):Int)then(ck (0<=a221.1∧a221.1<(List.length (at' p1.2 a207.1):Int)) (ck (0<=a207.1∧a207.1<(List.length a221.2:Int)) (Option.bind (nR fuel ((p1.1,p1.2)) ((at' (at' p1.2 a207.1) a221.1).1) a207.1) fun r230=>(ck ((List.length (at' a221.2 a207.1):Int)+(List.length ([r230]):Int)<=1099511627) (ck (0<=a207.1∧a207.1<(List.length (List.set a221.2 (Int.toNat a207.1) ((at' a221.2 a207.1)++[r230])):Int)) (ag220 ((wI .i64 (a221.1+(1:Int))),(List.set a221.2 (Int.toNat a207.1) ((at' a221.2 a207.1)++[r230])))))))))else(m_ p1 a207 ag206 (a221.2))
def eB (fuel:Nat) (p0:ByteArray×(List (ByteArray×Int×Int×Int×Int×Int))×(List (ByteArray×(Value×List (Int×Int))×(Value×List (Int×(Value×List (Int×Int))))))) (p1:List (Int)×(List (List (Int×Int)))) (p2:Int) (p3:List (List (Int))) (p4:Int) (p5:List (Int)) (a207:Int×Int×List (List (Int))) (ag206:(Int×Int×List (List (Int)))->Option ((List (Int)×List (Int)×List (List (Int))×(Int×Int×Int×Int×Int))×Int)):Option ((List (Int)×List (Int)×List (List (Int))×(Int×Int×Int×Int×Int))×Int):=
 if a207.1<(List.length p1.2:Int)then(ck (0<=a207.1∧a207.1<(List.length p1.2:Int)) (ck (0<=a207.1∧a207.1<(List.length p1.1:Int)) (bK (fY fuel p1 a207 ag206) fuel ((0:Int),a207.2.2))))else(kH fuel p0 p1 p2 p3 p4 p5 (a207.2.1,a207.2.2))
def i_ (fuel:Nat) (p0:ByteArray×(List (ByteArray×Int×Int×Int×Int×Int))×(List (ByteArray×(Value×List (Int×Int))×(Value×List (Int×(Value×List (Int×Int))))))) (p1:List (Int)×(List (List (Int×Int)))) (p2:Int) (p3:List (List (Int))) (p4:Int) (p5:List (Int)):Option ((List (Int)×List (Int)×List (List (Int))×(Int×Int×Int×Int×Int))×Int):=
 Option.bind (sS fuel ((p0.1,p0.2.1,p0.2.2)) ((p1.1,p1.2)) p2 p3 (List.length p5:Int)) fun r4=>(if r4≠(0:Int)then(some (((([]:List Int),([]:List Int),([]:List (List Int)),(((0:Int),(0:Int),(0:Int),(0:Int),(0:Int))))),r4))else(ck (0<=(List.length p1.2:Int)∧(List.length p1.2:Int)<=1099511627) (bK (eB fuel p0 p1 p2 p3 p4 p5) fuel ((0:Int),(0:Int),(List.replicate (Int.toNat (List.length p1.2:Int)) ([]:List Int))))))
theorem Ur:aV Tryz.prog 36:=Tryz.call36
theorem BN (fuel:Nat) {p0:ByteArray×(List (ByteArray×Int×Int×Int×Int×Int))×(List (ByteArray×(Value×List (Int×Int))×(Value×List (Int×(Value×List (Int×Int))))))} {p1:List (Int)×(List (List (Int×Int)))} {p2:Int} {p3:List (List (Int))} {p4:Int} {p5:List (Int)} (v0:Value)  (v1:Value)  (v2:Value)  (v3:Value)  (z4:List (Value×List (Int×Int)))  (v5:Value)  (z6:List (Value×List (Int)))  (v7:Value) (r:(List (Int)×List (Int)×List (List (Int))×(Int×Int×Int×Int×Int))×Int) (h:i_ fuel p0 p1 p2 p3 p4 p5=some r):
  bA Tryz.prog 36 #[Value.agg #[Value.string (p0.1),v0,v1],Value.agg #[v2,v3],Value.int .i64 (p2),v5,Value.int .u32 (p4),v7] [Sl aH v0 p0.2.1,Sl aG v1 p0.2.2,PF (Value.agg #[Value.string p0.1,v0,v1]),Sl aR v2 p1.1,S2 aK v3 z4 p1.2,S2 aR v5 z6 p3,Sl jE v7 p5,Gb 0 (cellsOf yF mP)] (fun x:Value×Value×Value×List Value=>Value.tuple #[Value.agg #[x.1,x.2.1,x.2.2.1,Value.int .i64 (r.1.2.2.2.1),Value.int .i64 (r.1.2.2.2.2.1),Value.int .i64 (r.1.2.2.2.2.2.1),Value.int .i64 (r.1.2.2.2.2.2.2.1),Value.int .u32 (r.1.2.2.2.2.2.2.2)],Value.int .i64 (r.2)]) (fun x l=>Ar jO x.1 r.1.1::Ar jO x.2.1 r.1.2.1::Ar dK.raw x.2.2.1 x.2.2.2::jP cA x.2.2.2 r.1.2.2.1::l) (fun _ l=>l):=by
 refine bA.of (vs:=[Value.agg #[Value.string (p0.1),v0,v1],Value.agg #[v2,v3],Value.int .i64 (p2),v5,Value.int .u32 (p4),v7]) Tryz.func36 rfl Tryz.ntmps36 rfl fun c=>?_
 unfold i_ at h
 refine sqR<|aL (aQ.box (cs:=[Value.string (p0.1),v0,v1]) rfl rfl) rfl fun b1=>aL (aQ.box (cs:=[v2,v3]) rfl rfl) rfl fun b2=>aL (aQ.alloc (cs:=[Value.slice none 0 0,Value.slice none 0 0,Value.slice none 0 0,Value.int .i64 (0:Int),Value.int .i64 (0:Int),Value.int .i64 (0:Int),Value.int .i64 (0:Int),Value.int .u32 (0:Int)]) rfl rfl) rfl fun b3=>qkAsg rfl<|dtN<|aO<|sqR<|qkLdA 2 rfl<|qkLdA 1 rfl<|qkMove rfl<|qkMove rfl<|qkMove rfl<|aB (cB rfl (aC.fact 6 rfl) rfl) rfl ?_
 have⟨r4,hr5,h⟩:=fJ h
 refine aL (aJ Uu (JO fuel v0 v1 v2 v3 z4 v5 z6 r4 hr5) rfl (aA.cons (aC.fact 0 rfl) (aA.cons (aC.fact 1 rfl) (aA.cons (aC.fact 2 rfl) (aA.cons (aC.fact 3 rfl) (aA.cons (aC.fact 4 rfl) (aA.cons (aC.fact 5 rfl) .nil)))))) (fun _ _=>rfl)) rfl fun x6=>qkAsg rfl<|dtN<|sqR<|qkMove rfl<|aB (mM rfl rfl) rfl<|dtN ?_
 refine eR h rfl (fun _ h=>?_) fun _ h=>?_
 ·refine sqR ?_
  refine aB (EA (r:=Value.agg #[Value.slice none 0 0,Value.slice none 0 0,Value.slice none 0 0,Value.int .i64 (0:Int),Value.int .i64 (0:Int),Value.int .i64 (0:Int),Value.int .i64 (0:Int),Value.int .u32 (0:Int)]) (by intro w;simp[Instr.build,Instr.fill,eK,dN,c_,eL,eM,dO,fQ])) rfl ?_
  refine qkMove rfl<|bM 0 (vs:=[Value.slice none 0 0,Value.slice none 0 0,Value.slice none 0 0,Value.int .i64 (0:Int),Value.int .i64 (0:Int),Value.int .i64 (0:Int),Value.int .i64 (0:Int),Value.int .u32 (0:Int)]) rfl rfl rfl rfl rfl rfl<|qkAsg rfl<|dtN<|aX<|aM<|jR (iU jO)<|jR (iU jO)<|jR (iU dK.raw) (jR (wX cA) ?_)
  cases h
  exact jD ((Value.slice none 0 0),(Value.slice none 0 0),(Value.slice none 0 0),([]:List Value)) rfl rfl (RV.cell 4 rfl rfl rfl rfl) (RV.tmp rfl) (aP.ix [2,3,1,0] rfl rfl) aA.nil
 refine aW<|aI<|sqR<|qkLdA 2 rfl<|qkLdA 1 rfl<|qkMove rfl<|yH (A:=Int×List (Int)×(List (List (Int×Int)))×Int×List (List (Int))) (B:=Nat×Value×Nat×Value×List Value×Value×List Value) (vs:=[Value.agg #[Value.string (p0.1),v0,v1],Value.agg #[v2,v3],Value.int .i64 (p2),Value.func (.func 53) #[] #[]]) (fun a20=>mV fuel p0 p1 p2 p3 p4 p5 a20=some r) (fun a20 b21=>Value.agg #[Value.pointer (some ⟨b21.1,0,none⟩),b21.2.1,Value.int .i64 (p2),Value.int .u32 (a20.1),Value.func (.func 53) #[] #[]]) (fun a20 b21=>[Ar jO b21.2.1 a20.2.1,bR b21.1 [Value.string (p0.1),v0,v1,Value.pointer (some ⟨b21.2.2.1,0,none⟩),b21.2.2.2.1] 140,Ar dK.raw b21.2.2.2.1 b21.2.2.2.2.1,jP bU b21.2.2.2.2.1 a20.2.2.1,bR b21.2.2.1 [Value.string (p0.1),v0,v1,v2,v3,Value.int .i64 (a20.2.2.2.1),b21.2.2.2.2.2.1] 178,Ar dK.raw b21.2.2.2.2.2.1 b21.2.2.2.2.2.2,jP cA b21.2.2.2.2.2.2 a20.2.2.2.2,bR b3 [Value.slice none 0 0,Value.slice none 0 0,Value.slice none 0 0,Value.int .i64 (0:Int),Value.int .i64 (0:Int),Value.int .i64 (0:Int),Value.int .i64 (0:Int),Value.int .u32 (0:Int)] 44]) (fun a20 b21=>[Sl aH v0 p0.2.1,Sl aG v1 p0.2.2,PF (Value.agg #[Value.string p0.1,v0,v1]),Sl aR v2 p1.1,S2 aK v3 z4 p1.2,S2 aR v5 z6 p3,Sl jE v7 p5,Gb 0 (cellsOf yF mP)]) (tV.fn (show aV Tryz.prog 52 from Tryz.call52) rfl) Tryz.func52 rfl Tryz.ntmps52 rfl rfl ?_ ?_
 ·refine sqR<|aL (aQ.box (cs:=[Value.string (p0.1),v0,v1]) rfl rfl) rfl fun b155=>aL (aQ.box (cs:=[v2,v3]) rfl rfl) rfl fun b156=>aL (aQ.alloc (cs:=[Value.pointer none,Value.slice none 0 0,Value.int .i64 (0:Int),Value.int .u32 (0:Int),Value.nilFunc]) rfl rfl) rfl fun b157=>dtN<|aO ?_
  refine JR.start [0,0,3,0,15,0,0,95,0,511,1023] 9 mixedOrders (by decide +kernel) ?_
  refine JR.open (by exact rfl) ?_
  refine jkLdA 2 rfl<|jkLdA 1 rfl<|Lw (A:=(List (List (Int×Int)))×Int×List (List (Int))) (B:=Nat×Nat×Value×List Value×Value×List Value) (vs:=[Value.agg #[Value.string (p0.1),v0,v1],Value.agg #[v2,v3]]) (fun a167=>mY fuel p0 p1 p2 p3 p4 p5 a167=some r) (fun a167 b168=>Value.pointer (some ⟨b168.1,0,none⟩)) (fun a167 b168=>[bR b168.1 [Value.string (p0.1),v0,v1,Value.pointer (some ⟨b168.2.1,0,none⟩),b168.2.2.1] 140,Ar dK.raw b168.2.2.1 b168.2.2.2.1,jP bU b168.2.2.2.1 a167.1,bR b168.2.1 [Value.string (p0.1),v0,v1,v2,v3,Value.int .i64 (a167.2.1),b168.2.2.2.2.1] 178,Ar dK.raw b168.2.2.2.2.1 b168.2.2.2.2.2,jP cA b168.2.2.2.2.2 a167.2.2,bR b157 [Value.pointer none,Value.slice none 0 0,Value.int .i64 (0:Int),Value.int .u32 (0:Int),Value.nilFunc] 97,bR b156 [v2,v3] 28,bR b155 [Value.string (p0.1),v0,v1] 33,bR b3 [Value.slice none 0 0,Value.slice none 0 0,Value.slice none 0 0,Value.int .i64 (0:Int),Value.int .i64 (0:Int),Value.int .i64 (0:Int),Value.int .i64 (0:Int),Value.int .u32 (0:Int)] 44]) (fun a167 b168=>[Sl aH v0 p0.2.1,Sl aG v1 p0.2.2,PF (Value.agg #[Value.string p0.1,v0,v1]),Sl aR v2 p1.1,S2 aK v3 z4 p1.2,S2 aR v5 z6 p3,Sl jE v7 p5,Gb 0 (cellsOf yF mP)]) rfl rfl rfl (tV.fn (show aV Tryz.prog 56 from Tryz.call56) rfl) Tryz.func56 rfl Tryz.ntmps56 rfl rfl (fun _ _=>(aE.b rfl (aE.b rfl aE.z))) ?_ ?_
  ·refine sqR<|aL (aQ.box (cs:=[Value.string (p0.1),v0,v1]) rfl rfl) rfl fun b177=>aL (aQ.box (cs:=[v2,v3]) rfl rfl) rfl fun b178=>qkAsg rfl<|dtN<|aO ?_
   refine JR.start [0,0,0,6,0,0,62,127,255,511] 7 mixedOrders (by decide +kernel) ?_
   refine JR.open (by exact rfl) ?_
   refine jkLdA 1 rfl<|jkLdA 1 rfl<|jkLdA 0 rfl<|Lw (A:=Int×List (List (Int))) (B:=Nat×Value×List Value) (vs:=[Value.agg #[Value.string (p0.1),v0,v1],Value.agg #[v2,v3]]) (fun a184=>mZ fuel p0 p1 p2 p3 p4 p5 a184=some r) (fun a184 b185=>Value.pointer (some ⟨b185.1,0,none⟩)) (fun a184 b185=>[bR b185.1 [Value.string (p0.1),v0,v1,v2,v3,Value.int .i64 (a184.1),b185.2.1] 178,Ar dK.raw b185.2.1 b185.2.2,jP cA b185.2.2 a184.2,bR b178 [v2,v3] 28,bR b177 [Value.string (p0.1),v0,v1] 33,bR b157 [Value.pointer none,Value.slice none 0 0,Value.int .i64 (0:Int),Value.int .u32 (0:Int),Value.nilFunc] 97,bR b156 [v2,v3] 28,bR b155 [Value.string (p0.1),v0,v1] 33,bR b3 [Value.slice none 0 0,Value.slice none 0 0,Value.slice none 0 0,Value.int .i64 (0:Int),Value.int .i64 (0:Int),Value.int .i64 (0:Int),Value.int .i64 (0:Int),Value.int .u32 (0:Int)] 44]) (fun a184 b185=>[Sl aH v0 p0.2.1,Sl aG v1 p0.2.2,PF (Value.agg #[Value.string p0.1,v0,v1]),Sl aR v2 p1.1,S2 aK v3 z4 p1.2,S2 aR v5 z6 p3,Sl jE v7 p5,Gb 0 (cellsOf yF mP)]) rfl rfl rfl (tV.fn (show aV Tryz.prog 84 from Tryz.call84) rfl) Tryz.func84 rfl Tryz.ntmps84 rfl rfl (fun _ _=>(aE.b rfl (aE.b rfl (aE.h (aP.ix [4] rfl rfl) .nil aE.z)))) ?_ ?_
   ·refine sqR<|aL (aQ.box (cs:=[Value.string (p0.1),v0,v1]) rfl rfl) rfl fun b191=>aL (aQ.box (cs:=[v2,v3]) rfl rfl) rfl fun b192=>qkAsg rfl<|dtN<|aO ?_
    refine JR.start [0,0,0,4,12,28,63,127,255] 6 mixedOrders (by decide +kernel) ?_
    refine JR.open (by exact rfl) ?_
    refine jkLdA 1 rfl<|jkLdA 0 rfl<|jkFld rfl<|jkLd 0 rfl<|aT rfl .nil (cW.cons (List.mem_of_getElem? (i:=4) rfl) .nil) (jX rfl (aC.fact 0 rfl) rfl) aF.z ?_
    have⟨hc193,h⟩:=aN h
    refine JR.stp (uT cA (Int.toNat (List.length p1.2:Int)))<|JR.loud rfl rfl rfl (nZ (e:=dK.raw) (Value.slice none 0 0) rfl rfl rfl rfl hc193 rfl rfl rfl) rfl (fun u194=>(aE.b rfl (aE.b rfl (aE.b rfl (aE.h (aP.ix [2] rfl rfl) .nil (aE.h (aP.ix [3] rfl rfl) .nil aE.z)))))) fun u194=>bS 6 rfl rfl<|b_ (Know.one (aC.sl (bH (i:=0) (j:=1) rfl rfl cR))) fun ho195=>?_
    refine aB (OB (r:=Value.agg #[Value.string (p0.1),v0,v1,v2,v3,Value.int .i64 (0:Int),u194]) rfl rfl rfl (by intro w;simp[Instr.build,Instr.fill,eK,dN,c_,eL,eM,dO,fQ,jB ho195])) rfl ?_
    refine aL (aQ.box (cs:=[Value.string (p0.1),v0,v1,v2,v3,Value.int .i64 (0:Int),u194]) rfl rfl) rfl fun b196=>qkAsg rfl<|dtN<|aO<|bL (A:=Int×List (List (Int))) (B:=List Value) (fun a200=>kH fuel p0 p1 p2 p3 p4 p5 a200=some r) (fun a200 b201=>[(5,Value.pointer (some ⟨b196,0,none⟩))]) (fun a200 b201=>[bR b196 [Value.string (p0.1),v0,v1,v2,v3,Value.int .i64 (a200.1),u194] 178,Ar dK.raw u194 b201,jP cA b201 a200.2,bR b178 [v2,v3] 28,bR b177 [Value.string (p0.1),v0,v1] 33,bR b157 [Value.pointer none,Value.slice none 0 0,Value.int .i64 (0:Int),Value.int .u32 (0:Int),Value.nilFunc] 97,bR b156 [v2,v3] 28,bR b155 [Value.string (p0.1),v0,v1] 33,bR b3 [Value.slice none 0 0,Value.slice none 0 0,Value.slice none 0 0,Value.int .i64 (0:Int),Value.int .i64 (0:Int),Value.int .i64 (0:Int),Value.int .i64 (0:Int),Value.int .u32 (0:Int)] 44]) (fun a200 b201=>[Sl aH v0 p0.2.1,Sl aG v1 p0.2.2,PF (Value.agg #[Value.string p0.1,v0,v1]),Sl aR v2 p1.1,S2 aK v3 z4 p1.2,S2 aR v5 z6 p3,Sl jE v7 p5,Gb 0 (cellsOf yF mP)]) ?_ ?_
    ·refine sqR<|qkFld rfl<|qkLd 3 rfl<|aB (jX rfl (aC.fact 4 rfl) rfl) rfl<|qkMove rfl<|dtN<|aU<|bY (A:=Int×Int×List (List (Int))) (B:=List Value) (eB fuel p0 p1 p2 p3 p4 p5) (fun a207 b208=>[(3,Value.pointer (some ⟨b192,0,none⟩)),(5,Value.pointer (some ⟨b196,0,none⟩)),(19,v3),(20,Value.int .i64 (List.length p1.2:Int)),(21,Value.int .i64 (a207.1))]) (fun a207 b208=>[bR b196 [Value.string (p0.1),v0,v1,v2,v3,Value.int .i64 (a207.2.1),u194] 178,Ar dK.raw u194 b208,jP cA b208 a207.2.2,bR b192 [v2,v3] 28,bR b178 [v2,v3] 28,bR b177 [Value.string (p0.1),v0,v1] 33,bR b157 [Value.pointer none,Value.slice none 0 0,Value.int .i64 (0:Int),Value.int .u32 (0:Int),Value.nilFunc] 97,bR b156 [v2,v3] 28,bR b155 [Value.string (p0.1),v0,v1] 33,bR b3 [Value.slice none 0 0,Value.slice none 0 0,Value.slice none 0 0,Value.int .i64 (0:Int),Value.int .i64 (0:Int),Value.int .i64 (0:Int),Value.int .i64 (0:Int),Value.int .u32 (0:Int)] 44]) (fun a207 b208=>[Sl aH v0 p0.2.1,Sl aG v1 p0.2.2,PF (Value.agg #[Value.string p0.1,v0,v1]),Sl aR v2 p1.1,S2 aK v3 z4 p1.2,S2 aR v5 z6 p3,Sl jE v7 p5,Gb 0 (cellsOf yF mP)]) ((0:Int),(0:Int),(List.replicate (Int.toNat (List.length p1.2:Int)) ([]:List Int))) (List.replicate (Int.toNat (List.length p1.2:Int)) (Value.slice none 0 0)) h SF (aP.ix [0,1,2,3,5,6,7,8,9,10] rfl rfl) (aA.refl _ _) ?_
     clear h
     intro k209 a207 b208 h
     unfold eB at h
     refine sqR<|qkLss rfl<|dtN<|aO ?_
     refine eR h rfl (fun _ h=>?_) fun _ h=>?_
     ·refine aW<|aI<|aO<|bL (A:=List (List (Int))) (B:=List Value) (fun a213=>m_ p1 a207 (bK (eB fuel p0 p1 p2 p3 p4 p5) k209) a213=some r) (fun a213 b214=>[(3,Value.pointer (some ⟨b192,0,none⟩)),(5,Value.pointer (some ⟨b196,0,none⟩)),(19,v3),(20,Value.int .i64 (List.length p1.2:Int)),(21,Value.int .i64 (a207.1))]) (fun a213 b214=>[bR b196 [Value.string (p0.1),v0,v1,v2,v3,Value.int .i64 (max a207.2.1 (at' p1.1 a207.1)),u194] 178,Ar dK.raw u194 b214,jP cA b214 a213,bR b192 [v2,v3] 28,bR b178 [v2,v3] 28,bR b177 [Value.string (p0.1),v0,v1] 33,bR b157 [Value.pointer none,Value.slice none 0 0,Value.int .i64 (0:Int),Value.int .u32 (0:Int),Value.nilFunc] 97,bR b156 [v2,v3] 28,bR b155 [Value.string (p0.1),v0,v1] 33,bR b3 [Value.slice none 0 0,Value.slice none 0 0,Value.slice none 0 0,Value.int .i64 (0:Int),Value.int .i64 (0:Int),Value.int .i64 (0:Int),Value.int .i64 (0:Int),Value.int .u32 (0:Int)] 44]) (fun a213 b214=>[Sl aH v0 p0.2.1,Sl aG v1 p0.2.2,PF (Value.agg #[Value.string p0.1,v0,v1]),Sl aR v2 p1.1,S2 aK v3 z4 p1.2,S2 aR v5 z6 p3,Sl jE v7 p5,Gb 0 (cellsOf yF mP)]) ?_ ?_
      ·refine aU<|sqR<|qkMove rfl ?_
       have⟨hc215,h⟩:=aN h
       refine aB (cS rfl rfl (aC.fact 4 rfl) rfl rfl hc215) rfl<|aB (cT rfl (aC.fact 4 rfl) rfl rfl hc215) rfl<|qkAsg rfl<|qkAsg rfl<|dtN<|aO ?_
       refine JR.start [0,0,2,6,14,0,32,0,224,480,1022,2047,4095,8191] 11 mixedOrders (by decide +kernel) ?_
       refine JR.open (by exact rfl) ?_
       refine jkMove rfl<|jkMove rfl<|aT rfl .nil .nil (bT rfl) aF.z<|jkFld rfl<|jkLd 0 rfl<|jkFld rfl<|jkLd 3 rfl<|jkMove rfl ?_
       have⟨hc216,h⟩:=aN h
       refine aT rfl .nil (cW.cons (List.mem_of_getElem? (i:=3) rfl) .nil) (bE rfl rfl (aC.fact 0 rfl) rfl rfl hc216) aF.z<|aT rfl .nil (cW.cons (List.mem_of_getElem? (i:=3) rfl) .nil) (bZ rfl (aC.fact 0 rfl) rfl rfl rfl dU hc216) aF.z<|aT rfl .nil .nil (IP rfl rfl) aF.z<|bS 11 rfl rfl<|aB (bT rfl) rfl<|qkFld rfl<|fH 0 rfl rfl rfl rfl rfl rfl<|dtN<|sqR<|qkMove rfl<|aB (cB rfl (aC.el (aC.fact 4 rfl) hc215.1 hc215.2) rfl) rfl<|qkMove rfl<|dtN<|aU<|bY (A:=Int×List (List (Int))) (B:=List Value) (fY fuel p1 a207 (bK (eB fuel p0 p1 p2 p3 p4 p5) k209)) (fun a221 b222=>[(3,Value.pointer (some ⟨b192,0,none⟩)),(5,Value.pointer (some ⟨b196,0,none⟩)),(6,Value.int .i64 (a207.1)),(19,v3),(20,Value.int .i64 (List.length p1.2:Int)),(21,Value.int .i64 (a207.1)),(39,(at' z4 a207.1).1),(40,Value.int .i64 (List.length (at' p1.2 a207.1):Int)),(41,Value.int .i64 (a221.1))]) (fun a221 b222=>[bR b196 [Value.string (p0.1),v0,v1,v2,v3,Value.int .i64 (max a207.2.1 (at' p1.1 a207.1)),u194] 178,Ar dK.raw u194 b222,jP cA b222 a221.2,bR b192 [v2,v3] 28,bR b178 [v2,v3] 28,bR b177 [Value.string (p0.1),v0,v1] 33,bR b157 [Value.pointer none,Value.slice none 0 0,Value.int .i64 (0:Int),Value.int .u32 (0:Int),Value.nilFunc] 97,bR b156 [v2,v3] 28,bR b155 [Value.string (p0.1),v0,v1] 33,bR b3 [Value.slice none 0 0,Value.slice none 0 0,Value.slice none 0 0,Value.int .i64 (0:Int),Value.int .i64 (0:Int),Value.int .i64 (0:Int),Value.int .i64 (0:Int),Value.int .u32 (0:Int)] 44]) (fun a221 b222=>[Sl aH v0 p0.2.1,Sl aG v1 p0.2.2,PF (Value.agg #[Value.string p0.1,v0,v1]),Sl aR v2 p1.1,S2 aK v3 z4 p1.2,S2 aR v5 z6 p3,Sl jE v7 p5,Gb 0 (cellsOf yF mP)]) ((0:Int),a207.2.2) (b208) h SF (aP.refl _) (aA.refl _ _) ?_
       clear h
       intro k223 a221 b222 h
       unfold fY at h
       refine sqR<|qkLss rfl<|dtN<|aO ?_
       refine eR h rfl (fun _ h=>?_) fun _ h=>?_
       ·refine aW<|aI<|aO<|aU<|sqR ?_
        have⟨hc225,h⟩:=aN h
        refine aB (bE rfl rfl (aC.el (aC.fact 4 rfl) hc215.1 hc215.2) rfl rfl hc225) rfl<|aB (gM (cs:=[Value.int .i64 ((at' (at' p1.2 a207.1) a221.1).1),Value.int .i64 ((at' (at' p1.2 a207.1) a221.1).2)]) rfl (aC.el (aC.fact 4 rfl) hc215.1 hc215.2) bO rfl rfl rfl rfl hc225) rfl<|aL (aQ.alloc (cs:=[Value.int .i64 (0:Int),Value.int .i64 (0:Int)]) rfl rfl) rfl fun b226=>bM 0 (vs:=[Value.int .i64 ((at' (at' p1.2 a207.1) a221.1).1),Value.int .i64 ((at' (at' p1.2 a207.1) a221.1).2)]) rfl rfl rfl rfl rfl rfl<|dtN ?_
        refine JR.start [0,1,3,7,0,0,32,96,224,0,992,2016,0,0,8192,0,61440,126976,262112,524287,1048575] 19 mixedOrders (by decide +kernel) ?_
        refine JR.open (by exact rfl) ?_
        refine jkMove rfl<|aT rfl .nil .nil (bT rfl) aF.z<|jkFld rfl<|jkLd 1 rfl<|jkMove rfl<|jkMove rfl<|aT rfl .nil .nil (bT rfl) aF.z<|jkFld rfl<|jkLd 1 rfl<|jkMove rfl ?_
        have⟨hc227,h⟩:=aN h
        refine cH (cY 3 rfl) fun hl228=>?_
        refine aT rfl (aP.cons 2 rfl .nil) .nil (iO 0 rfl rfl rfl rfl rfl hc227.1 (by have q1:=hc227.2;have q2:=hl228;(try simp only[List.length_set]at q1);(try simp only[List.length_set]at q2);(try simp only[List.length_set]);omega)) aF.z ?_
        refine cH (cY 3 rfl) fun hl229=>aT rfl (aP.cons 2 rfl .nil) .nil (nF 0 rfl rfl hl229 rfl rfl hc227) aF.z<|jkLdA 4 rfl<|jkFld rfl<|jkLd 0 rfl<|jkMove rfl ?_
        have⟨r230,hr231,h⟩:=fJ h
        refine JR.loud rfl rfl rfl (aJ RN (Fv fuel v2 v3 z4 r230 hr231) rfl (aA.cons (aC.fact 3 rfl) (aA.cons (aC.fact 4 rfl) .nil)) (fun _ _=>rfl)) rfl (fun x232=>(aE.b rfl (aE.b rfl (aE.b rfl (aE.b rfl (aE.h (aP.ix [2] rfl rfl) .nil (aE.h (aP.ix [2] rfl rfl) .nil (aE.h .nil .nil (aE.h (aP.ix [1] rfl rfl) .nil (aE.h .nil .nil (aE.h .nil .nil (aE.h .nil .nil (aE.h .nil .nil (aE.h (aP.ix [1] rfl rfl) .nil (aE.h .nil .nil (aE.h .nil .nil (aE.h .nil .nil aE.z))))))))))))))))) fun x232=>JR.loud rfl rfl rfl (cJ (e:=cA) ([r230]) [(0,Value.int .i64 (r230))] rfl rfl rfl rfl (nP (Value.int .i64 (r230)) rfl) rfl rfl rfl) rfl (fun u233=>(aE.b rfl (aE.b rfl (aE.b rfl (aE.b rfl (aE.h (aP.ix [3] rfl rfl) .nil (aE.h (aP.ix [3] rfl rfl) .nil (aE.h .nil .nil (aE.h (aP.ix [2] rfl rfl) .nil (aE.h .nil .nil (aE.h .nil .nil (aE.h .nil .nil (aE.h .nil .nil (aE.h (aP.ix [2] rfl rfl) .nil (aE.h .nil .nil (aE.h .nil .nil (aE.h .nil .nil aE.z))))))))))))))))) fun u233=>?_
        have⟨hc235,h⟩:=aN h
        refine JR.loud rfl rfl rfl (oK 4 cR rfl rfl rfl (aZ (aC.res 0 rfl) cR) rfl rfl rfl rfl hc227 hc235 rfl) rfl (fun u234=>(aE.b rfl (aE.b rfl (aE.b rfl (aE.b rfl (aE.b rfl (aE.b rfl (aE.b rfl (aE.b rfl (aE.b rfl (aE.b rfl (aE.b rfl (aE.h .nil .nil (aE.h (aP.ix [2] rfl rfl) .nil (aE.h .nil .nil (aE.h .nil .nil (aE.h .nil .nil aE.z))))))))))))))))) fun u234=>bS 19 rfl rfl ?_
        have⟨hc236,h⟩:=aN h
        refine b_ (cY 4 rfl) fun hl237=>?_
        refine aB (iO 3 rfl rfl rfl rfl rfl hc236.1 (by have q1:=hc236.2;have q2:=hl237;(try simp only[List.length_set]at q1);(try simp only[List.length_set]at q2);(try simp only[List.length_set]);omega)) rfl ?_
        refine b_ (wW 4 (k:=a207.1) rfl ⟨hc236.1,by first|exact hc236.2|simpa using hc236.2⟩) fun ho238=>?_
        refine nY 3 4 ⟨hc236.1,by first|exact hc236.2|simpa using hc236.2⟩ rfl rfl rfl rfl rfl (by simp) ho238 rfl ?_
        refine eD<|bV<|aI<|aS<|qkAdd rfl<|qkMove rfl<|dtN ?_
        exact nC ((wI .i64 (a221.1+(1:Int))),(List.set a221.2 (Int.toNat a207.1) ((at' a221.2 a207.1)++[r230]))) (List.set b222 (Int.toNat a207.1) u234) h SF (aP.ix [2,3,4,5,6,7,8,9,10,11] rfl rfl) (aA.refl _ _)
       refine cE<|aY<|aY<|dJ<|bV<|aI ?_
       exact jA (a221.2) (b222) h SF rfl
      clear h
      intro a213 b214 h
      unfold m_ at h
      refine aS<|qkAdd rfl<|qkMove rfl<|dtN ?_
      exact xG ((wI .i64 (a207.1+(1:Int))),(max a207.2.1 (at' p1.1 a207.1)),a213) (b214) h SF rfl
     refine cE<|aY<|aY<|dJ<|aI ?_
     exact cM (a207.2.1,a207.2.2) (b208) h SF (aP.ix [0,1,2,4,5,6,7,8,9] rfl rfl) (aA.refl _ _)
    clear h
    intro a200 b201 h
    unfold kH at h
    refine sqR<|qkMove rfl<|qkAsg rfl<|dtN<|aX ?_
    exact vA (a200.1,a200.2) (b196,u194,b201) h (.inl rfl) (CR.r1 rfl (RV.tmp rfl)) rfl (aP.refl _) (aA.refl _ _)
   clear h
   intro a184 b185 h
   unfold mZ at h
   refine aT rfl (aP.cons 4 rfl .nil) .nil (mG 0 rfl rfl rfl rfl) (aF.h (aP.ix [1] rfl rfl) .nil aF.z)<|aT rfl (aP.cons 3 rfl .nil) .nil (mG 0 rfl rfl rfl rfl) (aF.h (aP.ix [0] rfl rfl) .nil aF.z) ?_
   have⟨r186,hr187,h⟩:=fJ h
   refine JR.loud rfl rfl rfl (aJ O_ (Au fuel v0 v1 v2 v3 z4 r186 hr187) rfl (aA.cons (aC.fact 0 rfl) (aA.cons (aC.fact 1 rfl) (aA.cons (aC.fact 2 rfl) (aA.cons (aC.fact 3 rfl) (aA.cons (aC.fact 4 rfl) .nil))))) (fun _ _=>rfl)) rfl (fun x188=>(aE.b rfl (aE.b rfl (aE.b rfl (aE.b rfl (aE.h (aP.ix [6] rfl rfl) .nil aE.z)))))) fun x188=>bS 7 rfl rfl<|b_ (Know.one (aC.sl (bH (i:=0) (j:=1) rfl rfl bO))) fun ho189=>?_
   refine aB (OB (r:=Value.agg #[Value.string (p0.1),v0,v1,Value.pointer (some ⟨b185.1,0,none⟩),x188.1]) rfl rfl rfl (by intro w;simp[Instr.build,Instr.fill,eK,dN,c_,eL,eM,dO,fQ,jB ho189])) rfl ?_
   refine aL (aQ.box (cs:=[Value.string (p0.1),v0,v1,Value.pointer (some ⟨b185.1,0,none⟩),x188.1]) rfl rfl) rfl fun b190=>qkAsg rfl<|dtN<|aX ?_
   exact vA (r186,a184.1,a184.2) (b190,b185.1,x188.1,x188.2,b185.2.1,b185.2.2) h (.inl rfl) (CR.r1 rfl (RV.tmp rfl)) rfl (aP.ix [0,1,2,3,4,5,8,9,10,11] rfl rfl) (aA.refl _ _)
  clear h
  intro a167 b168 h
  unfold mY at h
  refine aT rfl (aP.cons 7 rfl .nil) .nil (mG 0 rfl rfl rfl rfl) (aF.h (aP.ix [1] rfl rfl) .nil aF.z) ?_
  have⟨r169,hr170,h⟩:=fJ h
  refine JR.loud rfl rfl rfl (aJ UB (DQ fuel v2 v3 z4 r169 hr170) rfl (aA.cons (aC.fact 3 rfl) (aA.cons (aC.fact 4 rfl) .nil)) (fun _ _=>rfl)) rfl (fun x171=>(aE.b rfl (aE.b rfl (aE.b rfl aE.z)))) fun x171=>aT rfl .nil .nil (lP rfl) (aF.h .nil .nil (aF.h .nil .nil aF.z))<|aT rfl (aP.cons 8 rfl .nil) .nil (mG 0 rfl rfl rfl rfl) (aF.h (aP.ix [7] rfl rfl) .nil (aF.h (aP.ix [1] rfl rfl) .nil aF.z)) ?_
  have⟨r172,hr173,h⟩:=fJ h
  refine JR.loud rfl rfl rfl (aJ Us (JN fuel v2 v3 z4 r172 hr173) rfl (aA.cons (aC.fact 3 rfl) (aA.cons (aC.fact 4 rfl) .nil)) (fun _ _=>rfl)) rfl (fun x174=>(aE.b rfl (aE.h .nil .nil (aE.b rfl (aE.b rfl (aE.b rfl aE.z)))))) fun x174=>aT rfl .nil .nil (lP rfl) (aF.h .nil .nil (aF.h .nil .nil (aF.h .nil .nil aF.z)))<|bS 9 rfl rfl<|b_ (Know.one ((aZ (aC.res 0 rfl) kM))) fun ho175=>?_
  refine aB (Y.bld5 (r:=Value.agg #[Value.pointer (some ⟨b168.1,0,none⟩),x171,Value.int .i64 (p2),Value.int .u32 (r172),Value.func (.func 53) #[] #[]]) rfl rfl rfl rfl rfl (by intro w;simp[Instr.build,Instr.fill,eK,dN,c_,eL,eM,dO,fQ,jB ho175])) rfl ?_
  refine b_ (Know.one ((aZ (aC.res 0 rfl) kM))) fun ho176=>bM 7 (vs:=[Value.pointer (some ⟨b168.1,0,none⟩),x171,Value.int .i64 (p2),Value.int .u32 (r172),Value.func (.func 53) #[] #[]]) rfl rfl (cQ rfl (cQ ho176 (cQ rfl (cQ rfl (cQ rfl rfl))))) rfl rfl rfl<|dtN<|aX ?_
  exact vA (r172,r169,a167.1,a167.2.1,a167.2.2) (b168.1,x171,b168.2.1,b168.2.2.1,b168.2.2.2.1,b168.2.2.2.2.1,b168.2.2.2.2.2) h (.inl rfl) (CR.r1 rfl (RV.cell 7 rfl rfl rfl rfl)) rfl (aP.ix [0,1,2,3,4,5,6,10] rfl rfl) (aA.refl _ _)
 clear h
 intro a20 b21 h
 unfold mV at h
 refine aL (aQ.alloc (cs:=[Value.pointer none,Value.slice none 0 0,Value.int .i64 (0:Int),Value.int .u32 (0:Int),Value.nilFunc]) rfl rfl) rfl fun b22=>b_ (Know.one ((aZ (aC.res 1 rfl) kM))) fun ho23=>bM 0 (vs:=[Value.pointer (some ⟨b21.1,0,none⟩),b21.2.1,Value.int .i64 (p2),Value.int .u32 (a20.1),Value.func (.func 53) #[] #[]]) rfl rfl (cQ rfl (cQ ho23 (cQ rfl (cQ rfl (cQ rfl rfl))))) rfl rfl rfl<|dtN<|sqR<|qkMove rfl<|qkFld rfl<|fH 0 rfl rfl rfl rfl rfl rfl<|dtN<|sqR<|qkLdA 0 rfl<|qkMove rfl<|qkMove rfl<|yH (A:=Int×Int×Int×Int×Int×Int×List (Int)×List (Int)×List (List (Int))) (B:=Value×Value×Value×List Value) (vs:=[Value.agg #[Value.pointer (some ⟨b21.1,0,none⟩),b21.2.1,Value.int .i64 (p2),Value.int .u32 (p4),Value.func (.func 53) #[] #[]],v5,v7]) (fun a37=>qZ  a37=some r) (fun a37 b38=>Value.tuple #[Value.agg #[b38.1,b38.2.1,b38.2.2.1,Value.int .i64 (a37.1),Value.int .i64 (a37.2.1),Value.int .i64 (a37.2.2.1),Value.int .i64 (a37.2.2.2.1),Value.int .u32 (a37.2.2.2.2.1)],Value.int .i64 (a37.2.2.2.2.2.1)]) (fun a37 b38=>[bR b3 [Value.slice none 0 0,Value.slice none 0 0,Value.slice none 0 0,Value.int .i64 (0:Int),Value.int .i64 (0:Int),Value.int .i64 (0:Int),Value.int .i64 (0:Int),Value.int .u32 (0:Int)] 44,Ar jO b38.1 a37.2.2.2.2.2.2.1,Ar jO b38.2.1 a37.2.2.2.2.2.2.2.1,Ar dK.raw b38.2.2.1 b38.2.2.2,jP cA b38.2.2.2 a37.2.2.2.2.2.2.2.2]) (fun a37 b38=>[Sl aH v0 p0.2.1,Sl aG v1 p0.2.2,PF (Value.agg #[Value.string p0.1,v0,v1]),Sl aR v2 p1.1,S2 aK v3 z4 p1.2,S2 aR v5 z6 p3,Sl jE v7 p5,Gb 0 (cellsOf yF mP)]) (tV.fn (show aV Tryz.prog 54 from Tryz.call54) rfl) Tryz.func54 rfl Tryz.ntmps54 rfl rfl ?_ ?_
 ·refine sqR<|aL (aQ.box (cs:=[Value.pointer (some ⟨b21.1,0,none⟩),b21.2.1,Value.int .i64 (p2),Value.int .u32 (p4),Value.func (.func 53) #[] #[]]) rfl rfl) rfl fun b42=>b_ (Know.one ((aC.fact 6 rfl))) fun ho44=>?_
  refine aL (aQ.box (cs:=[v7]) rfl (by rw[jB ho44])) rfl fun b43=>?_
  refine aL (aQ.alloc (cs:=[Value.slice none 0 0,Value.slice none 0 0,Value.slice none 0 0,Value.int .i64 (0:Int),Value.int .i64 (0:Int),Value.int .i64 (0:Int),Value.int .i64 (0:Int),Value.int .u32 (0:Int)]) rfl rfl) rfl fun b45=>qkAsg rfl<|dtN<|sqR<|qkLdA 2 rfl<|qkMove rfl<|qkLd 1 rfl<|aB (cB rfl (aC.fact 6 rfl) rfl) rfl<|aB (uD (cs:=[.tmp 3,.tmp 5]) (vs:=[Value.pointer (some ⟨b42,0,none⟩),Value.pointer (some ⟨b43,0,none⟩)]) rfl) rfl<|yH (A:=List (Int)×List (Int)×List (List (Int))×Int×Int×Int×Int×Int×Int) (B:=Value×Value×Value×List Value) (vs:=[Value.agg #[Value.pointer (some ⟨b21.1,0,none⟩),b21.2.1,Value.int .i64 (p2),Value.int .u32 (p4),Value.func (.func 53) #[] #[]],v5,Value.int .i64 (List.length p5:Int),Value.func (.func 82) #[] #[Value.pointer (some ⟨b42,0,none⟩),Value.pointer (some ⟨b43,0,none⟩)]]) (fun a59=>mW  a59=some r) (fun a59 b60=>Value.tuple #[Value.agg #[b60.1,b60.2.1,b60.2.2.1,Value.int .i64 (a59.2.2.2.1),Value.int .i64 (a59.2.2.2.2.1),Value.int .i64 (a59.2.2.2.2.2.1),Value.int .i64 (a59.2.2.2.2.2.2.1),Value.int .u32 (a59.2.2.2.2.2.2.2.1)],Value.int .i64 (a59.2.2.2.2.2.2.2.2)]) (fun a59 b60=>[bR b45 [Value.slice none 0 0,Value.slice none 0 0,Value.slice none 0 0,Value.int .i64 (0:Int),Value.int .i64 (0:Int),Value.int .i64 (0:Int),Value.int .i64 (0:Int),Value.int .u32 (0:Int)] 44,bR b3 [Value.slice none 0 0,Value.slice none 0 0,Value.slice none 0 0,Value.int .i64 (0:Int),Value.int .i64 (0:Int),Value.int .i64 (0:Int),Value.int .i64 (0:Int),Value.int .u32 (0:Int)] 44,Ar jO b60.1 a59.1,Ar jO b60.2.1 a59.2.1,Ar dK.raw b60.2.2.1 b60.2.2.2,jP cA b60.2.2.2 a59.2.2.1]) (fun a59 b60=>[Sl aH v0 p0.2.1,Sl aG v1 p0.2.2,PF (Value.agg #[Value.string p0.1,v0,v1]),Sl aR v2 p1.1,S2 aK v3 z4 p1.2,S2 aR v5 z6 p3,Sl jE v7 p5,Gb 0 (cellsOf yF mP)]) (tV.fn (show aV Tryz.prog 81 from Tryz.call81) rfl) Tryz.func81 rfl Tryz.ntmps81 rfl rfl ?_ ?_
  ·refine sqR<|aL (aQ.box (cs:=[Value.pointer (some ⟨b21.1,0,none⟩),b21.2.1,Value.int .i64 (p2),Value.int .u32 (p4),Value.func (.func 53) #[] #[]]) rfl rfl) rfl fun b64=>aL (aQ.alloc (cs:=[Value.slice none 0 0,Value.slice none 0 0,Value.slice none 0 0,Value.int .i64 (0:Int),Value.int .i64 (0:Int),Value.int .i64 (0:Int),Value.int .i64 (0:Int),Value.int .u32 (0:Int)]) rfl rfl) rfl fun b65=>qkAsg rfl<|dtN<|sqR<|aL (aQ.alloc (cs:=[Value.slice none 0 0,Value.slice none 0 0,Value.slice none 0 0,Value.int .i64 (0:Int),Value.int .i64 (0:Int),Value.int .i64 (0:Int),Value.int .i64 (0:Int),Value.int .u32 (0:Int)]) rfl rfl) rfl fun b66=>dtN<|sqR<|qkMove rfl ?_
   have⟨r67,hr68,h⟩:=fJ h
   refine aL (aJ LE (Bo fuel v5 z6 r67 hr68) rfl (aA.cons (aC.fact 5 rfl) .nil) (fun _ _=>rfl)) rfl fun x69=>qkAsg rfl<|dtN<|aO ?_
   refine JR.start [0,1,0,7,0,16,63,127] 6 mixedOrders (by decide +kernel) ?_
   refine JR.open (by exact rfl) ?_
   refine jkFld rfl<|jkLd 4 rfl<|jkMove rfl ?_
   have⟨r70,hr71,h⟩:=fJ h
   refine JR.loud rfl rfl rfl (aJ OZ (sV fuel b21.1 v0 v1 b21.2.2.1 v0 v1 v2 v3 z4 b21.2.2.2.2.2.1 (List.zip b21.2.2.2.2.2.2 a20.2.2.2.2) b21.2.2.2.1 (List.zip b21.2.2.2.2.1 a20.2.2.1) x69.1 (List.zip x69.2 r67) r70 hr71) rfl (aA.cons (aC.res 10 rfl) (aA.cons (aC.fact 0 rfl) (aA.cons (aC.fact 1 rfl) (aA.cons (aC.res 13 rfl) (aA.cons (aC.fact 0 rfl) (aA.cons (aC.fact 1 rfl) (aA.cons (aC.fact 3 rfl) (aA.cons (aC.fact 4 rfl) (aA.cons (bH (i:=14) (j:=15) rfl rfl cR) (aA.cons (bH (i:=11) (j:=12) rfl rfl bO) (aA.cons (bH (i:=0) (j:=1) rfl rfl cR) .nil))))))))))) (fun _ _=>rfl)) rfl (fun x72=>(aE.b rfl (aE.b rfl (aE.b rfl aE.z)))) fun x72=>aT rfl .nil .nil (eF rfl rfl rfl rfl rfl) (aF.h .nil .nil aF.z)<|aT rfl (aP.cons 4 rfl .nil) .nil (eJ 0 rfl rfl rfl rfl rfl) (aF.h (aP.ix [4] rfl rfl) .nil aF.z)<|bS 6 rfl rfl<|aB (pU rfl rfl) rfl<|qkAsg rfl<|dtN<|sqR<|qkMove rfl ?_
   have⟨r73,hr74,h⟩:=fJ h
   refine aL (aJ RI (DO fuel  r73 hr74) rfl .nil (fun _ _=>rfl)) rfl fun x75=>aL (aQ.alloc (cs:=[Value.int .i64 (0:Int),Value.int .i64 (0:Int),Value.int .i64 (0:Int),Value.int .i64 (0:Int),Value.int .u32 (0:Int)]) rfl rfl) rfl fun b76=>bM 0 (vs:=[Value.int .i64 (r73.1),Value.int .i64 (r73.2.1),Value.int .i64 (r73.2.2.1),Value.int .i64 (r73.2.2.2.1),Value.int .u32 (r73.2.2.2.2)]) rfl rfl rfl rfl rfl rfl<|dtN<|sqR<|qkFld rfl<|qkLd 5 rfl<|qkMove rfl<|qkMove rfl<|qkLdA 0 rfl ?_
   have⟨r77,hr78,h⟩:=fJ h
   refine aL (pR (vs:=[x69.1,Value.int .u32 (dD .u32 r70 p4),Value.agg #[Value.int .i64 (r73.1),Value.int .i64 (r73.2.1),Value.int .i64 (r73.2.2.1),Value.int .i64 (r73.2.2.2.1),Value.int .u32 (r73.2.2.2.2)]]) (cs:=[]) OY rfl (CK fuel x69.1 (List.zip x69.2 r67) r77 hr78) rfl (aA.cons (bH (i:=1) (j:=2) rfl rfl cR) .nil) (fun _ _=>rfl)) rfl fun x79=>dtN<|sqR<|qkFld rfl<|qkLd 3 rfl<|qkMove rfl<|aL (cJ (e:=jO) ([(dD .u32 r70 p4)]) [(0,Value.int .u32 (dD .u32 r70 p4))] rfl rfl rfl rfl (nP (Value.int .u32 (dD .u32 r70 p4)) rfl) rfl rfl rfl) rfl fun u80=>jR (iU jO) ?_
   have⟨hc82,h⟩:=aN h
   refine aL (gH 0 kM rfl rfl rfl (aZ (aC.res 1 rfl) kM) rfl rfl rfl rfl hc82 rfl) rfl fun u81=>qkFld rfl<|b_ (Know.one ((aZ (aC.res 0 rfl) kM))) fun ho83=>fH 5 rfl rfl ho83 rfl rfl rfl<|dtN<|aO<|bL (A:=List (Int)×Int×Int×Int×Int×Int×List (List (Int))×List (Int)) (B:=Value×List Value×Value×Value) (fun a96=>kG  a96=some r) (fun a96 b97=>[(1,b97.1),(8,Value.pointer (some ⟨b65,0,none⟩)),(10,Value.pointer (some ⟨b66,0,none⟩)),(12,Value.pointer (some ⟨b76,0,none⟩))]) (fun a96 b97=>[Ar jO b97.2.2.2 a96.1,bR b76 [Value.int .i64 (a96.2.1),Value.int .i64 (a96.2.2.1),Value.int .i64 (a96.2.2.2.1),Value.int .i64 (a96.2.2.2.2.1),Value.int .u32 (a96.2.2.2.2.2.1)] 42,Ar dK.raw b97.1 b97.2.1,jP cA b97.2.1 a96.2.2.2.2.2.2.1,bR b66 [b97.2.2.1,b97.2.2.2,Value.slice none 0 0,Value.int .i64 (0:Int),Value.int .i64 (0:Int),Value.int .i64 (0:Int),Value.int .i64 (0:Int),Value.int .u32 (0:Int)] 44,bR b65 [Value.slice none 0 0,Value.slice none 0 0,Value.slice none 0 0,Value.int .i64 (0:Int),Value.int .i64 (0:Int),Value.int .i64 (0:Int),Value.int .i64 (0:Int),Value.int .u32 (0:Int)] 44,bR b45 [Value.slice none 0 0,Value.slice none 0 0,Value.slice none 0 0,Value.int .i64 (0:Int),Value.int .i64 (0:Int),Value.int .i64 (0:Int),Value.int .i64 (0:Int),Value.int .u32 (0:Int)] 44,bR b3 [Value.slice none 0 0,Value.slice none 0 0,Value.slice none 0 0,Value.int .i64 (0:Int),Value.int .i64 (0:Int),Value.int .i64 (0:Int),Value.int .i64 (0:Int),Value.int .u32 (0:Int)] 44,Ar jO b97.2.2.1 a96.2.2.2.2.2.2.2]) (fun a96 b97=>[Sl aH v0 p0.2.1,Sl aG v1 p0.2.2,PF (Value.agg #[Value.string p0.1,v0,v1]),Sl aR v2 p1.1,S2 aK v3 z4 p1.2,S2 aR v5 z6 p3,Sl jE v7 p5,Gb 0 (cellsOf yF mP)]) ?_ ?_
   ·refine sqR<|qkMove rfl<|qkMove rfl<|dtN<|aU<|jR (iU jO)<|bY (A:=Int×List (Int)×Int×Int×Int×Int×Int×Int×List (List (Int))×List (Int)) (B:=Value×List Value×Value×Value) (iH fuel p0 p1 p2 p4 p5 a20) (fun a119 b120=>[(1,b120.1),(3,Value.func (.func 82) #[] #[Value.pointer (some ⟨b42,0,none⟩),Value.pointer (some ⟨b43,0,none⟩)]),(4,Value.pointer (some ⟨b64,0,none⟩)),(8,Value.pointer (some ⟨b65,0,none⟩)),(10,Value.pointer (some ⟨b66,0,none⟩)),(11,Value.int .u32 (a119.1)),(12,Value.pointer (some ⟨b76,0,none⟩)),(39,Value.int .i64 (List.length p5:Int)),(40,Value.int .i64 (a119.2.2.1))]) (fun a119 b120=>[Ar jO b120.2.2.2 a119.2.1,bR b76 [Value.int .i64 (a119.2.2.2.1),Value.int .i64 (a119.2.2.2.2.1),Value.int .i64 (a119.2.2.2.2.2.1),Value.int .i64 (a119.2.2.2.2.2.2.1),Value.int .u32 (a119.2.2.2.2.2.2.2.1)] 42,Ar dK.raw b120.1 b120.2.1,jP cA b120.2.1 a119.2.2.2.2.2.2.2.2.1,bR b66 [b120.2.2.1,b120.2.2.2,Value.slice none 0 0,Value.int .i64 (0:Int),Value.int .i64 (0:Int),Value.int .i64 (0:Int),Value.int .i64 (0:Int),Value.int .u32 (0:Int)] 44,bR b65 [Value.slice none 0 0,Value.slice none 0 0,Value.slice none 0 0,Value.int .i64 (0:Int),Value.int .i64 (0:Int),Value.int .i64 (0:Int),Value.int .i64 (0:Int),Value.int .u32 (0:Int)] 44,bR b64 [Value.pointer (some ⟨b21.1,0,none⟩),b21.2.1,Value.int .i64 (p2),Value.int .u32 (p4),Value.func (.func 53) #[] #[]] 97,bR b45 [Value.slice none 0 0,Value.slice none 0 0,Value.slice none 0 0,Value.int .i64 (0:Int),Value.int .i64 (0:Int),Value.int .i64 (0:Int),Value.int .i64 (0:Int),Value.int .u32 (0:Int)] 44,bR b43 [v7] 40,bR b42 [Value.pointer (some ⟨b21.1,0,none⟩),b21.2.1,Value.int .i64 (p2),Value.int .u32 (p4),Value.func (.func 53) #[] #[]] 97,Ar jO b21.2.1 a20.2.1,bR b21.1 [Value.string (p0.1),v0,v1,Value.pointer (some ⟨b21.2.2.1,0,none⟩),b21.2.2.2.1] 140,Ar dK.raw b21.2.2.2.1 b21.2.2.2.2.1,jP bU b21.2.2.2.2.1 a20.2.2.1,bR b21.2.2.1 [Value.string (p0.1),v0,v1,v2,v3,Value.int .i64 (a20.2.2.2.1),b21.2.2.2.2.2.1] 178,Ar dK.raw b21.2.2.2.2.2.1 b21.2.2.2.2.2.2,jP cA b21.2.2.2.2.2.2 a20.2.2.2.2,bR b3 [Value.slice none 0 0,Value.slice none 0 0,Value.slice none 0 0,Value.int .i64 (0:Int),Value.int .i64 (0:Int),Value.int .i64 (0:Int),Value.int .i64 (0:Int),Value.int .u32 (0:Int)] 44,Ar jO b120.2.2.1 a119.2.2.2.2.2.2.2.2.2]) (fun a119 b120=>[Sl aH v0 p0.2.1,Sl aG v1 p0.2.2,PF (Value.agg #[Value.string p0.1,v0,v1]),Sl aR v2 p1.1,S2 aK v3 z4 p1.2,S2 aR v5 z6 p3,Sl jE v7 p5,Gb 0 (cellsOf yF mP)]) ((dD .u32 r70 p4),(([]:List Int)++([(dD .u32 r70 p4)])),(0:Int),r73.1,r73.2.1,r73.2.2.1,r73.2.2.2.1,r73.2.2.2.2,r67,([]:List Int)) (x69.1,x69.2,(Value.slice none 0 0),u81) h SF (aP.ix [1,3,4,5,6,7,8,9,10,11,13,14,15,16,17,18,19,20,0] rfl rfl) (aA.refl _ _) ?_
    clear h
    intro k121 a119 b120 h
    unfold iH at h
    refine sqR<|qkLss rfl<|dtN<|aO ?_
    refine eR h rfl (fun _ h=>?_) fun _ h=>?_
    ·refine aW<|aI<|aO<|aU<|sqR<|qkMove rfl<|qkAsg rfl<|dtN<|sqR<|qkMove rfl<|qkMove rfl<|qkMove rfl<|yH (A:=Int) (B:=Unit) (vs:=[Value.int .i64 (a119.2.2.1),Value.int .u32 (a119.1),Value.pointer (some ⟨b42,0,none⟩),Value.pointer (some ⟨b43,0,none⟩)]) (fun a124=>mX fuel p0 p1 p2 p4 a20 a119 (bK (iH fuel p0 p1 p2 p4 p5 a20) k121) a124=some r) (fun a124 b125=>Value.tuple #[Value.int .u32 (a124),Value.bool (decide (a119.1≠(0:Int)))]) (fun a124 b125=>[Ar jO b120.2.2.2 a119.2.1,bR b76 [Value.int .i64 (a119.2.2.2.1),Value.int .i64 (a119.2.2.2.2.1),Value.int .i64 (a119.2.2.2.2.2.1),Value.int .i64 (a119.2.2.2.2.2.2.1),Value.int .u32 (a119.2.2.2.2.2.2.2.1)] 42,Ar dK.raw b120.1 b120.2.1,jP cA b120.2.1 a119.2.2.2.2.2.2.2.2.1,bR b66 [b120.2.2.1,b120.2.2.2,Value.slice none 0 0,Value.int .i64 (0:Int),Value.int .i64 (0:Int),Value.int .i64 (0:Int),Value.int .i64 (0:Int),Value.int .u32 (0:Int)] 44,bR b65 [Value.slice none 0 0,Value.slice none 0 0,Value.slice none 0 0,Value.int .i64 (0:Int),Value.int .i64 (0:Int),Value.int .i64 (0:Int),Value.int .i64 (0:Int),Value.int .u32 (0:Int)] 44,bR b64 [Value.pointer (some ⟨b21.1,0,none⟩),b21.2.1,Value.int .i64 (p2),Value.int .u32 (p4),Value.func (.func 53) #[] #[]] 97,bR b45 [Value.slice none 0 0,Value.slice none 0 0,Value.slice none 0 0,Value.int .i64 (0:Int),Value.int .i64 (0:Int),Value.int .i64 (0:Int),Value.int .i64 (0:Int),Value.int .u32 (0:Int)] 44,bR b43 [v7] 40,bR b42 [Value.pointer (some ⟨b21.1,0,none⟩),b21.2.1,Value.int .i64 (p2),Value.int .u32 (p4),Value.func (.func 53) #[] #[]] 97,Ar jO b21.2.1 a20.2.1,bR b21.1 [Value.string (p0.1),v0,v1,Value.pointer (some ⟨b21.2.2.1,0,none⟩),b21.2.2.2.1] 140,Ar dK.raw b21.2.2.2.1 b21.2.2.2.2.1,jP bU b21.2.2.2.2.1 a20.2.2.1,bR b21.2.2.1 [Value.string (p0.1),v0,v1,v2,v3,Value.int .i64 (a20.2.2.2.1),b21.2.2.2.2.2.1] 178,Ar dK.raw b21.2.2.2.2.2.1 b21.2.2.2.2.2.2,jP cA b21.2.2.2.2.2.2 a20.2.2.2.2,bR b3 [Value.slice none 0 0,Value.slice none 0 0,Value.slice none 0 0,Value.int .i64 (0:Int),Value.int .i64 (0:Int),Value.int .i64 (0:Int),Value.int .i64 (0:Int),Value.int .u32 (0:Int)] 44,Ar jO b120.2.2.1 a119.2.2.2.2.2.2.2.2.2]) (fun a124 b125=>[Sl aH v0 p0.2.1,Sl aG v1 p0.2.2,PF (Value.agg #[Value.string p0.1,v0,v1]),Sl aR v2 p1.1,S2 aK v3 z4 p1.2,S2 aR v5 z6 p3,Sl jE v7 p5,Gb 0 (cellsOf yF mP)]) (MT (us:=[Value.int .i64 (a119.2.2.1),Value.int .u32 (a119.1)]) (cs:=[Value.pointer (some ⟨b42,0,none⟩),Value.pointer (some ⟨b43,0,none⟩)]) (show aV Tryz.prog 82 from Tryz.call82) rfl rfl rfl) Tryz.func82 rfl Tryz.ntmps82 rfl rfl ?_ ?_
     ·refine sqR<|qkAsg rfl<|qkAsg rfl<|dtN<|aO ?_
      refine JR.start [0,1,0,4,0,0,0,96,224,511,0,1024,1023,8191] 13 mixedOrders (by decide +kernel) ?_
      refine JR.open (by exact rfl) ?_
      refine jkFld rfl<|jkLd 9 rfl<|jkFld rfl<|jkLd 9 rfl<|jkMove rfl<|jkLd 8 rfl<|jkMove rfl ?_
      have⟨hc151,h⟩:=aN h
      refine aT rfl .nil (cW.cons (List.mem_of_getElem? (i:=6) rfl) .nil) (bE rfl rfl (aC.fact 0 rfl) rfl rfl hc151) aF.z<|aT rfl .nil (cW.cons (List.mem_of_getElem? (i:=6) rfl) .nil) (bZ rfl (aC.fact 0 rfl) rfl rfl rfl Bv hc151) aF.z ?_
      have⟨r152,hr153,h⟩:=fJ h
      refine JR.loud rfl rfl rfl (aJ UC (zE fuel b21.2.1 r152 hr153) rfl (aA.cons (aZ (aC.res 10 rfl) kM) (aA.cons (aC.fact 7 rfl) .nil)) (fun _ _=>rfl)) rfl (fun x154=>(aE.b rfl (aE.b rfl (aE.b rfl (aE.b rfl (aE.b rfl (aE.b rfl (aE.b rfl (aE.b rfl (aE.b rfl aE.z)))))))))) fun x154=>aT rfl .nil .nil (lP rfl) (aF.h .nil .nil aF.z)<|aT rfl .nil .nil (mM rfl rfl) (aF.h .nil .nil aF.z)<|aT rfl .nil .nil (tB rfl) (aF.b rfl aF.z)<|bS 13 rfl rfl<|qkAsg rfl<|dtN<|aX ?_
      exact vA (r152) (()) h (.inl rfl) (CR.r2 rfl (RV.tmp rfl) (RV.tmp rfl)) rfl (aP.refl _) (aA.refl _ _)
     clear h
     intro a124 b125 h
     unfold mX at h
     refine qkMove rfl<|aB (bJ rfl rfl) rfl<|aB (bJ rfl rfl) rfl<|qkAsg rfl<|qkAsg rfl<|dtN<|aO<|sqR<|qkMove rfl<|aB (Ue rfl) rfl<|dtN ?_
     refine eR h rfl (fun _ h=>?_) fun _ h=>?_
     ·refine cE<|aY<|Ri rfl<|aY<|aY<|dJ<|aI ?_
      exact cM (a119.2.1,a119.2.2.2.1,a119.2.2.2.2.1,a119.2.2.2.2.2.1,a119.2.2.2.2.2.2.1,a119.2.2.2.2.2.2.2.1,a119.2.2.2.2.2.2.2.2.1,a119.2.2.2.2.2.2.2.2.2) (b120.1,b120.2.1,b120.2.2.1,b120.2.2.2) h SF (aP.ix [0,1,2,3,4,5,7,17,18] rfl rfl) (aA.refl _ _)
     refine aW<|aI<|aO<|sqR<|qkFld rfl<|qkLd 6 rfl<|qkFld rfl<|qkLd 6 rfl<|qkMove rfl<|qkMove rfl ?_
     have⟨r127,hr128,h⟩:=fJ h
     refine aL (aJ RJ (zD fuel b21.2.1 r127 hr128) rfl (aA.cons (aZ (aC.res 10 rfl) kM) (aA.cons (aC.fact 7 rfl) .nil)) (fun _ _=>rfl)) rfl fun x129=>aB (qR rfl) rfl<|dtN ?_
     refine zN h rfl (fun _ h=>?_) fun _ h=>?_
     ·refine sqR ?_
      refine aB (EA (r:=Value.agg #[Value.slice none 0 0,Value.slice none 0 0,Value.slice none 0 0,Value.int .i64 (0:Int),Value.int .i64 (0:Int),Value.int .i64 (0:Int),Value.int .i64 (0:Int),Value.int .u32 (0:Int)]) (by intro w;simp[Instr.build,Instr.fill,eK,dN,c_,eL,eM,dO,fQ])) rfl ?_
      refine bM 5 (vs:=[Value.slice none 0 0,Value.slice none 0 0,Value.slice none 0 0,Value.int .i64 (0:Int),Value.int .i64 (0:Int),Value.int .i64 (0:Int),Value.int .i64 (0:Int),Value.int .u32 (0:Int)]) rfl rfl rfl rfl rfl rfl<|qkAsg rfl<|dtN<|aX<|aM<|bP<|aM<|aM<|bP<|aM<|jR (iU jO)<|jR (iU jO)<|jR (iU dK.raw) (jR (wX cA) ?_)
      exact vA (([]:List Int),([]:List Int),([]:List (List Int)),(0:Int),(0:Int),(0:Int),(0:Int),(0:Int),(11:Int)) ((Value.slice none 0 0),(Value.slice none 0 0),(Value.slice none 0 0),([]:List Value)) h (.inl rfl) (CR.r2 rfl (RV.cell 9 rfl rfl rfl rfl) (RV.tmp rfl)) rfl (aP.ix [11,21,2,3,1,0] rfl rfl) (aA.refl _ _)
     refine aW<|aI<|sqR<|qkFld rfl<|qkLd 6 rfl<|qkMove rfl<|qkMove rfl ?_
     have⟨r131,hr132,h⟩:=fJ h
     refine aL (aJ RK (At fuel b21.1 v0 v1 b21.2.2.1 v0 v1 v2 v3 z4 b21.2.2.2.2.2.1 (List.zip b21.2.2.2.2.2.2 a20.2.2.2.2) b21.2.2.2.1 (List.zip b21.2.2.2.2.1 a20.2.2.1) b120.1 (List.zip b120.2.1 a119.2.2.2.2.2.2.2.2.1) r131 hr132) rfl (aA.cons (aC.res 11 rfl) (aA.cons (aC.fact 0 rfl) (aA.cons (aC.fact 1 rfl) (aA.cons (aC.res 14 rfl) (aA.cons (aC.fact 0 rfl) (aA.cons (aC.fact 1 rfl) (aA.cons (aC.fact 3 rfl) (aA.cons (aC.fact 4 rfl) (aA.cons (bH (i:=15) (j:=16) rfl rfl cR) (aA.cons (bH (i:=12) (j:=13) rfl rfl bO) (aA.cons (bH (i:=2) (j:=3) rfl rfl cR) .nil))))))))))) (fun _ _=>rfl)) rfl fun x133=>qkAsg rfl<|dtN<|aO ?_
     refine JR.start [0,1,0,7,0,16,63,127] 6 mixedOrders (by decide +kernel) ?_
     refine JR.open (by exact rfl) ?_
     refine jkFld rfl<|jkLd 8 rfl<|jkMove rfl ?_
     have⟨r134,hr135,h⟩:=fJ h
     refine JR.loud rfl rfl rfl (aJ OZ (sV fuel b21.1 v0 v1 b21.2.2.1 v0 v1 v2 v3 z4 b21.2.2.2.2.2.1 (List.zip b21.2.2.2.2.2.2 a20.2.2.2.2) b21.2.2.2.1 (List.zip b21.2.2.2.2.1 a20.2.2.1) x133.1 (List.zip x133.2 r131) r134 hr135) rfl (aA.cons (aC.res 13 rfl) (aA.cons (aC.fact 0 rfl) (aA.cons (aC.fact 1 rfl) (aA.cons (aC.res 16 rfl) (aA.cons (aC.fact 0 rfl) (aA.cons (aC.fact 1 rfl) (aA.cons (aC.fact 3 rfl) (aA.cons (aC.fact 4 rfl) (aA.cons (bH (i:=17) (j:=18) rfl rfl cR) (aA.cons (bH (i:=14) (j:=15) rfl rfl bO) (aA.cons (bH (i:=0) (j:=1) rfl rfl cR) .nil))))))))))) (fun _ _=>rfl)) rfl (fun x136=>(aE.b rfl (aE.b rfl (aE.b rfl aE.z)))) fun x136=>aT rfl .nil .nil (eF rfl rfl rfl rfl rfl) (aF.h .nil .nil aF.z)<|aT rfl (aP.cons 8 rfl .nil) .nil (eJ 0 rfl rfl rfl rfl rfl) (aF.h (aP.ix [8] rfl rfl) .nil aF.z)<|bS 6 rfl rfl<|aB (pU rfl rfl) rfl<|qkAsg rfl<|dtN<|sqR<|qkLdA 3 rfl<|qkMove rfl<|qkMove rfl ?_
     have⟨r137,hr138,h⟩:=fJ h
     refine aL (aJ RM (FM fuel  r137 hr138) rfl .nil (fun _ _=>rfl)) rfl fun x139=>qkMove rfl<|aB (bJ rfl rfl) rfl<|aB (bJ rfl rfl) rfl<|bM 3 (vs:=[Value.int .i64 (r137.1.1),Value.int .i64 (r137.1.2.1),Value.int .i64 (r137.1.2.2.1),Value.int .i64 (r137.1.2.2.2.1),Value.int .u32 (r137.1.2.2.2.2)]) rfl rfl rfl rfl rfl rfl<|dtN<|sqR<|qkFld rfl<|qkLd 8 rfl<|qkMove rfl<|qkMove rfl<|qkLdA 3 rfl ?_
     have⟨r140,hr141,h⟩:=fJ h
     refine aL (pR (vs:=[x133.1,Value.int .u32 (dD .u32 r134 p4),Value.agg #[Value.int .i64 (r137.1.1),Value.int .i64 (r137.1.2.1),Value.int .i64 (r137.1.2.2.1),Value.int .i64 (r137.1.2.2.2.1),Value.int .u32 (r137.1.2.2.2.2)]]) (cs:=[]) OY rfl (CK fuel x133.1 (List.zip x133.2 r131) r140 hr141) rfl (aA.cons (bH (i:=0) (j:=1) rfl rfl cR) .nil) (fun _ _=>rfl)) rfl fun x142=>dtN<|sqR<|qkFld rfl<|qkLd 6 rfl<|qkMove rfl<|aL (cJ (e:=jO) ([a124]) [(0,Value.int .u32 (a124))] rfl rfl rfl rfl (nP (Value.int .u32 (a124)) rfl) rfl rfl rfl) rfl fun u143=>?_
     have⟨hc145,h⟩:=aN h
     refine aL (gH 21 kM rfl rfl rfl (aZ (aC.res 0 rfl) kM) rfl rfl rfl rfl hc145 rfl) rfl fun u144=>qkFld rfl<|b_ (Know.one ((aZ (aC.res 21 rfl) kM))) fun ho146=>fH 7 rfl rfl ho146 rfl rfl rfl<|dtN<|aS<|qkFld rfl<|qkLd 7 rfl<|qkMove rfl<|aL (cJ (e:=jO) ([(dD .u32 r134 p4)]) [(0,Value.int .u32 (dD .u32 r134 p4))] rfl rfl rfl rfl (nP (Value.int .u32 (dD .u32 r134 p4)) rfl) rfl rfl rfl) rfl fun u147=>?_
     have⟨hc149,h⟩:=aN h
     refine aL (gH 4 kM rfl rfl rfl (aZ (aC.res 0 rfl) kM) rfl rfl rfl rfl hc149 rfl) rfl fun u148=>qkFld rfl<|b_ (Know.one ((aZ (aC.res 4 rfl) kM))) fun ho150=>fH 8 rfl rfl ho150 rfl rfl rfl<|eD<|bV<|aI<|aS<|qkAdd rfl<|qkMove rfl<|dtN ?_
     exact nC ((dD .u32 r134 p4),(a119.2.1++([(dD .u32 r134 p4)])),(wI .i64 (a119.2.2.1+(1:Int))),r137.1.1,r137.1.2.1,r137.1.2.2.1,r137.1.2.2.2.1,r137.1.2.2.2.2,r131,(a119.2.2.2.2.2.2.2.2.2++[a124])) (x133.1,x133.2,u144,u148) h SF (aP.ix [4,5,2,3,8,9,10,11,12,13,14,15,16,17,18,19,20,21,22] rfl rfl) (aA.refl _ _)
    refine cE<|aY<|aY<|dJ<|aI ?_
    exact cM (a119.2.1,a119.2.2.2.1,a119.2.2.2.2.1,a119.2.2.2.2.2.1,a119.2.2.2.2.2.2.1,a119.2.2.2.2.2.2.2.1,a119.2.2.2.2.2.2.2.2.1,a119.2.2.2.2.2.2.2.2.2) (b120.1,b120.2.1,b120.2.2.1,b120.2.2.2) h SF (aP.ix [0,1,2,3,4,5,7,17,18] rfl rfl) (aA.refl _ _)
   clear h
   intro a96 b97 h
   unfold kG at h
   refine aO ?_
   refine JR.start [0,0,1,5,15,31] 4 mixedOrders (by decide +kernel) ?_
   refine JR.open (by exact rfl) ?_
   refine jkMove rfl<|jkLdA 1 rfl<|jkFld rfl<|cH (Know.one (aC.sl (bH (i:=2) (j:=3) rfl rfl cR))) fun ho99=>rB rfl rfl rfl (Ir 4 rfl rfl ho99 rfl rfl rfl) (fun x98=>(aE.b rfl (aE.h (aP.ix [1] rfl rfl) .nil (aE.b rfl aE.z)))) fun x98=>bS 4 rfl rfl<|qkFld rfl<|Lu (Ew 4 (us:=[Value.int .i64 (a96.2.1),Value.int .i64 (a96.2.2.1),Value.int .i64 (a96.2.2.2.1),Value.int .i64 (a96.2.2.2.2.1),Value.int .u32 (a96.2.2.2.2.2.1)]) rfl rfl rfl rfl rfl rfl rfl rfl rfl) fun x100=>dtN<|sqR<|qkLdA 4 rfl<|b_ (Know.one ((aZ (aC.res 8 rfl) kM))) fun ho101=>b_ (Know.one ((aZ (aC.res 0 rfl) kM))) fun ho102=>b_ (Know.one (aC.sl (bH (i:=2) (j:=3) rfl rfl cR))) fun ho103=>bM 5 (vs:=[b97.2.2.1,b97.2.2.2,b97.1,Value.int .i64 (a96.2.1),Value.int .i64 (a96.2.2.1),Value.int .i64 (a96.2.2.2.1),Value.int .i64 (a96.2.2.2.2.1),Value.int .u32 (a96.2.2.2.2.2.1)]) rfl rfl (cQ ho101 (cQ ho102 (cQ ho103 (cQ rfl (cQ rfl (cQ rfl (cQ rfl (cQ rfl rfl)))))))) rfl rfl rfl<|qkAsg rfl<|dtN<|aX ?_
   exact vA (a96.2.2.2.2.2.2.2,a96.1,a96.2.2.2.2.2.2.1,a96.2.1,a96.2.2.1,a96.2.2.2.1,a96.2.2.2.2.1,a96.2.2.2.2.2.1,(0:Int)) (b97.2.2.1,b97.2.2.2,b97.1,b97.2.1) h (.inl rfl) (CR.r2 rfl (RV.cell 5 rfl rfl rfl rfl) (RV.tmp rfl)) rfl (aP.ix [6,7,8,0,2,3] rfl rfl) (aA.refl _ _)
  clear h
  intro a59 b60 h
  unfold mW at h
  refine aB (bJ rfl rfl) rfl<|aB (bJ rfl rfl) rfl<|b_ (Know.one ((aZ (aC.res 2 rfl) kM))) fun ho61=>b_ (Know.one ((aZ (aC.res 3 rfl) kM))) fun ho62=>b_ (Know.one (aC.sl (bH (i:=4) (j:=5) rfl rfl cR))) fun ho63=>bM 0 (vs:=[b60.1,b60.2.1,b60.2.2.1,Value.int .i64 (a59.2.2.2.1),Value.int .i64 (a59.2.2.2.2.1),Value.int .i64 (a59.2.2.2.2.2.1),Value.int .i64 (a59.2.2.2.2.2.2.1),Value.int .u32 (a59.2.2.2.2.2.2.2.1)]) rfl rfl (cQ ho61 (cQ ho62 (cQ ho63 (cQ rfl (cQ rfl (cQ rfl (cQ rfl (cQ rfl rfl)))))))) rfl rfl rfl<|qkAsg rfl<|dtN<|aX ?_
  exact vA (a59.2.2.2.1,a59.2.2.2.2.1,a59.2.2.2.2.2.1,a59.2.2.2.2.2.2.1,a59.2.2.2.2.2.2.2.1,a59.2.2.2.2.2.2.2.2,a59.1,a59.2.1,a59.2.2.1) (b60.1,b60.2.1,b60.2.2.1,b60.2.2.2) h (.inl rfl) (CR.r2 rfl (RV.cell 0 rfl rfl rfl rfl) (RV.tmp rfl)) rfl (aP.ix [1,2,3,4,5] rfl rfl) (aA.refl _ _)
 clear h
 intro a37 b38 h
 unfold qZ at h
 refine aB (bJ rfl rfl) rfl<|aB (bJ rfl rfl) rfl<|b_ (Know.one ((aZ (aC.res 1 rfl) kM))) fun ho39=>b_ (Know.one ((aZ (aC.res 2 rfl) kM))) fun ho40=>b_ (Know.one (aC.sl (bH (i:=3) (j:=4) rfl rfl cR))) fun ho41=>bM 0 (vs:=[b38.1,b38.2.1,b38.2.2.1,Value.int .i64 (a37.1),Value.int .i64 (a37.2.1),Value.int .i64 (a37.2.2.1),Value.int .i64 (a37.2.2.2.1),Value.int .u32 (a37.2.2.2.2.1)]) rfl rfl (cQ ho39 (cQ ho40 (cQ ho41 (cQ rfl (cQ rfl (cQ rfl (cQ rfl (cQ rfl rfl)))))))) rfl rfl rfl<|qkAsg rfl<|dtN<|aX ?_
 cases h
 exact jD (b38.1,b38.2.1,b38.2.2.1,b38.2.2.2) rfl rfl (RV.cell 0 rfl rfl rfl rfl) (RV.tmp rfl) (aP.ix [1,2,3,4] rfl rfl) aA.nil
end Go.Proofs.YtigggfnchamobaaGreatDoor
end
section
namespace Go.Proofs.YtigggfnchamobaaGreatDoor
open Go Go.Sx
abbrev CT:=Int×Int×Int×Int×Int
theorem Bk (l:List Int) (hl:l.length<=900):∃b,iZ 1000 l=some b:=by
 unfold iZ
 have:=AM (step:=kF l) (Q:=fun _:Bool=>True) (fun i:Int=>∃k:Nat,i=(k:Int)∧k<=l.length) (fun i=>l.length - i.toNat) (fun i ag hI hrec=>by
  obtain⟨k,rfl,hk⟩:=hI
  unfold kF mS
  by_cases hlt:k<l.length
  ·rw[if_pos (by omega),dV (by omega)]
   split
   ·exact⟨_,rfl,trivial⟩
   ·rw[eT (by omega)]
    exact hrec _ ⟨k+1,rfl,by omega⟩ (by omega)
  ·rw[if_neg (by omega)]
   exact⟨_,rfl,trivial⟩) 1000 0 ⟨0,rfl,by omega⟩ (by omega)
 obtain⟨b,hb,_⟩:=this
 exact⟨b,hb⟩
theorem Hl (k:CT):∃b,lR 1000 k=some b:=by
 obtain⟨q,hq⟩:=Bk [k.2.2.2.2] (by simp)
 have key:∀a,∃b,fP 1000 k a=some b:=by
  intro a
  unfold fP kO
  split
  ·exact⟨_,rfl⟩
  ·split
   ·exact⟨_,rfl⟩
   ·split
    ·split
     ·rw[bN hq];exact⟨_,rfl⟩
     ·exact⟨_,rfl⟩
    ·exact⟨_,rfl⟩
 unfold lR
 repeat' split
 all_goals exact key _
theorem NK {t:Nat} (ht:t<4294967296):∃n,lA 1000 (t:Int)=some n:=by
 have hb:(List.length QZ:Int)=256:=by decide +kernel
 have h255:∀a:Nat,a<4294967296->0<=dD .u32 (a:Int) 255∧dD .u32 (a:Int) 255<256:=fun a ha=>by
  rw[show(255:Int)=((255:Nat):Int)from rfl,ED ha (by omega)]
  have:a &&& 255<=255:=Nat.and_le_right
  omega
 have hs:∀k:Nat,k<32->pH .u32 (t:Int) (k:Int)=((t / 2^k:Nat):Int):=fun k hk=>Hp hk
 have s24:pH .u32 (t:Int) 24=((t / 2^24:Nat):Int):=hs 24 (by omega)
 have s16:pH .u32 (t:Int) 16=((t / 2^16:Nat):Int):=hs 16 (by omega)
 have s8:pH .u32 (t:Int) 8=((t / 2^8:Nat):Int):=hs 8 (by omega)
 unfold lA
 rw[hb,s24,s16,s8,dV (by decide),dV (by omega),dV (by decide),dV (h255 _ (by omega)),dV (by decide),dV (h255 _ (by omega)),dV (h255 _ ht)]
 exact⟨_,rfl⟩
theorem OF (k:CT) {t:Nat} (ht:t<4294967296) (e:Int):∃r,mI 1000 k (t:Int) e=some r:=by
 obtain⟨b,hb⟩:=Hl k
 obtain⟨q,hq⟩:=Bk [(t:Int),e] (by simp)
 obtain⟨n,hn⟩:=NK ht
 have key:∀a,∃r,nH 1000 k (t:Int) e a=some r:=by
  intro a
  unfold nH pW
  split
  ·exact⟨_,rfl⟩
  ·split
   ·exact⟨_,rfl⟩
   ·rw[bN hn]
    split<;>exact⟨_,rfl⟩
 unfold mI
 rw[bN (show lR 1000 _=some b from hb)]
 split
 ·exact⟨_,rfl⟩
 ·split
  ·exact key _
  ·rw[bN hq];exact key _

def LD (g:GR) (v i:Nat):Int:=yZ (row g (iS (row g v) i).1.toNat) (v:Int)
def BA (g:GR):List (List Int):=(List.range g.2.length).map fun v=>(List.range (row g v).length).map (LD g v)
def fN (p:DL) (g:GR):xQ:=(p,g,jW g g.2.length,BA g)
theorem Qz {g:GR} (hV:VG g) (p:DL) (kind:Int) (c:List (List Int)) (lv:Int) (ws:List Int):
  bK (eB 1000 p g kind c lv ws) 1000 ((0:Int),(0:Int),(List.replicate (Int.toNat (List.length g.2:Int)) ([]:List Int)))=kH 1000 p g kind c lv ws (jW g g.2.length,BA g):=by
 have h24:=hV.n24
 have hlen:=hV.len
 let f:Nat->List Int:=fun v=>(List.range (row g v).length).map (LD g v)
 let Q:Nat->List (List Int):=fun k=>(List.range k).map f++List.replicate (g.2.length - k) []
 have hQ:∀k,k<=g.2.length->(Q k).length=g.2.length:=fun k hk=>by simp[Q];omega
 rw[show List.replicate (Int.toNat (List.length g.2:Int)) ([]:List Int)=Q 0 by simp[Q]]
 refine eI (step:=eB 1000 p g kind c lv ws) g.2.length (fun k=>((k:Int),jW g k,Q k)) (fun k ag hk=> ?_) (fun ag=> ?_) 1000 (by omega)
 ·have hdeg:=(hV.node k hk).deg
  have hq:k<(Q k).length:=by rw[hQ k (by omega)];exact hk
  unfold eB
  dsimp only
  rw[if_pos (by omega),dV (by omega),dV (by omega)]
  let Rw:Nat->List Int:=fun j=>(List.range j).map (LD g k)
  have e0:Q k=(Q k).set k (Rw 0):=by
   have:at' (Q k) (k:Int)=Rw 0:=by
    rw[jY hq];simp[Q,Rw]
   rw[<-this]
   exact(BL (Q k) (k:Int) (by simpa using hq) (by omega)).symm
  rw[show(Q k)=(Q k).set k (Rw 0)from e0]
  have hgen:∀A:List (List Int),A.length=g.2.length->bK (fY 1000 g ((k:Int),jW g k,(Q k).set k (Rw 0)) ag) 1000 ((0:Int),A.set k (Rw 0))=ag (((k+1:Nat):Int),jW g (k+1),A.set k (f k)):=by
   intro A hA
   refine eI (step:=fY 1000 g ((k:Int),jW g k,(Q k).set k (Rw 0)) ag) (K:=ag (((k+1:Nat):Int),jW g (k+1),A.set k (f k))) (row g k).length (fun j=>((j:Int),A.set k (Rw j))) (fun j ag2 hj=> ?_) (fun ag2=> ?_) 1000 (by omega)
   ·obtain⟨u,hu,hue⟩:=hV.to hk hj
    have hdu:=(hV.node u hu).deg
    have a1:at' (A.set k (Rw j)) (k:Int)=Rw j:=by rw[Bz _ _ _ _ (by omega),if_pos rfl]
    have hRl:(Rw j).length=j:=by simp[Rw]
    unfold fY
    dsimp only
    rw[if_pos (show(j:Int)<((row g k).length:Int) by omega),dV (show 0<=(j:Int)∧(j:Int)<((row g k).length:Int) by omega),dV (by simp only[List.length_set];omega),show at' (at' g.2 (k:Int)) (j:Int)=iS (row g k) j from rfl,hue,bN (show nR 1000 _ (u:Int) (k:Int)=_ from NM g u (k:Int) hu (by omega)),a1,dV (by rw[hRl];simp;omega),dV (by simp only[List.length_set];omega),eT (by omega),Int.toNat_natCast,List.set_set]
    have:Rw j++[yZ (row g u) (k:Int)]=Rw (j+1):=by
     simp only[Rw];rw[List.range_succ,List.map_append,List.map_singleton,LD,hue,Int.toNat_natCast]
    rw[this]
   ·unfold fY m_
    dsimp only
    rw[if_neg (show¬((row g k).length:Int)<((row g k).length:Int)from Int.lt_irrefl _),eT (by omega)]
    rfl
  have:=hgen (Q k) (hQ k (by omega))
  rw[uO f [] g.2.length k hk]at this
  exact this
 ·unfold eB
  dsimp only
  rw[if_neg (by omega)]
  simp[Q,BA,f]
end Go.Proofs.YtigggfnchamobaaGreatDoor
end
section
namespace Go.Proofs.YtigggfnchamobaaGreatDoor
open Go Go.Sx
def AX (S:xQ) (R:List RL) (lv:Nat) (c:List (List Int)):Nat:=VC S R c &&& lv
theorem Su (S:xQ) (R:List RL) (c:List (List Int)) (v:Nat):(VC S R c).testBit v=(decide (v<S.2.1.2.length)&&decide (0<=uW S R c v)):=GA _ v _
theorem Ea (S:xQ) (R:List RL) (lv:Nat) (c:List (List Int)) (v:Nat):(AX S R lv c).testBit v=true↔v<S.2.1.2.length∧0<=uW S R c v∧lv.testBit v=true:=by
 unfold AX
 rw[Nat.testBit_and,Su,Bool.and_eq_true,Bool.and_eq_true,decide_eq_true_eq,decide_eq_true_eq,and_assoc]
theorem UN {S:xQ} (hV:VG S.2.1) (R:List RL) (c:List (List Int)):VC S R c<4294967296:=Mi _ (by have:=hV.n24;omega)
theorem UO (S:xQ) (R:List RL) (lv:Nat) (c:List (List Int)):Of S.2.1 (AX S R lv c):=fun i hi=>((Ea S R lv c i).1 hi).1
def BH (ch:List Nat):List Int:=ch.map fun t=>((t:Nat):Int)
section
variable {p:DL} {g:GR} {R:List RL}
theorem Nw (hV:VG g) (hp:Bw g p.2.1) (hz:p.2.2.map wT=EP R) (hR:wH p.2.1.length R=true) {kind:Int} (hk1:1<=kind) (hk4:kind<=4) {c0:List (List Int)} (hc0:Tw g c0 p.2.1) {lv:Nat} (hlv:lv<4294967296) {ws:List Int} (hws:ws.length<=900) (hw:∀k:Nat,k<ws.length->∃m:Nat,at' ws (k:Int)=(m:Int)∧m<4294967296)
  (P:Nat->List (List Int)->List Nat->CT->Prop) (h0:P 0 c0 [] (0,0,0,0,dD .u32 ((AX (fN p g) R lv c0:Nat):Int) 16777215))
  (hstep:∀k c ch cnt t cnt' err,k<ws.length->tA g p.2.1.length c->P k c ch cnt->AX (fN p g) R lv c≠0->t≠0->(∀i,t.testBit i=true->(AX (fN p g) R lv c).testBit i=true)->(kind=2->∀v u,t.testBit v=true->t.testBit u=true->¬Ig g v u)->(kind=4->t=AX (fN p g) R lv c)->
   mI 1000 cnt (t:Int) ((AX (fN p g) R lv (sU (fN p g) p.2.1 R c t):Nat):Int)=some (cnt',err)->P (k+1) (sU (fN p g) p.2.1 R c t) (ch++[t]) cnt'):
  ∃k c ch cnt ens,i_ 1000 p g kind c0 (lv:Int) ws=some ((BH ch,ens,c,cnt),0)∧P k c ch cnt∧tA g p.2.1.length c∧k<=ws.length∧ch.length=k∧ens.length=k+1∧at' ens (k:Int)=((AX (fN p g) R lv c:Nat):Int)∧(k=ws.length∨AX (fN p g) R lv c=0):=by
 have h24:=hV.n24
 have hvl:=hp.len
 let S:=fN p g
 have hVS:VG S.2.1:=hV
 obtain⟨net,hnet,hN⟩:=Vj hV
 have hcheck:sS 1000 p g kind c0 (ws.length:Int)=some 0:=by
  unfold sS
  rw[bN (show nS 1000 _ _ c0=_ from Pe hV hp hc0),if_neg (by decide)]
  have:p_ 1000 kind=some true:=by
   unfold p_ oL
   rw[if_pos hk1,decide_eq_true hk4]
  rw[bN this,if_neg (by decide),if_neg (by omega)]
 unfold i_
 rw[bN (show sS 1000 _ _ kind c0 _=_ from hcheck),if_neg (by decide),dV (by omega),Qz hV p kind c0 (lv:Int) ws]
 unfold kH mZ
 rw[bN (show jM 1000 _ _=_ from JP hV hp)]
 unfold mY
 rw[bN (show lS 1000 _=_ from hnet),bN (show sR 1000 _=_ from Uf hV)]
 have hen:∀c,tA g p.2.1.length c->cV 1000 (p,(p,g,jW g g.2.length,BA g),zG g p.2.1) c=some ((VC S R c:Nat):Int):=fun c hc=>KE hV hc hz hR (by simp[zG])
 have hand:∀c,dD .u32 ((VC S R c:Nat):Int) (lv:Int)=((AX S R lv c:Nat):Int):=fun c=>ED (UN hVS R c) hlv
 unfold mV
 dsimp only
 rw[bN (LU c0 (by rw[hc0.len];omega) (fun v hv=>by rw[hc0.row v (by rw[<-hc0.len];exact hv)];omega)),bN (show cV 1000 _ c0=_ from hen c0 hc0.shape),hand,bN (show rW 1000 _=some (0,0,0,0,dD .u32 ((AX S R lv c0:Nat):Int) 16777215)from rfl),bN (show qM 1000 _ _ _=some ()from rfl),dV (by simp),List.nil_append]
 let A20:Int×List Int×(List (List (Int×Int)))×Int×List (List Int):=(((2^g.2.length - 1:Nat):Int),net,zG g p.2.1,jW g g.2.length,BA g)
 have fin:∀k c ch cnt ens,P k c ch cnt->tA g p.2.1.length c->k<=ws.length->ch.length=k->ens.length=k+1->at' ens (k:Int)=((AX S R lv c:Nat):Int)->(k=ws.length∨AX S R lv c=0)->
   OK (fun r:(List Int×List Int×List (List Int)×CT)×Int=>∃k c ch cnt ens,r=((BH ch,ens,c,cnt),0)∧P k c ch cnt∧tA g p.2.1.length c∧k<=ws.length∧ch.length=k∧ens.length=k+1∧at' ens (k:Int)=((AX S R lv c:Nat):Int)∧(k=ws.length∨AX S R lv c=0)) (kG (ens,cnt.1,cnt.2.1,cnt.2.2.1,cnt.2.2.2.1,cnt.2.2.2.2,c,BH ch)):=
  fun k c ch cnt ens a1 a2 a3 a4 a5 a6 a7=>⟨_,rfl,k,c,ch,cnt,ens,rfl,a1,a2,a3,a4,a5,a6,a7⟩
 have key:=AM (step:=iH 1000 p g kind (lv:Int) ws A20) (Q:=fun r:(List Int×List Int×List (List Int)×CT)×Int=>∃k c ch cnt ens,r=((BH ch,ens,c,cnt),0)∧P k c ch cnt∧tA g p.2.1.length c∧k<=ws.length∧ch.length=k∧ens.length=k+1∧at' ens (k:Int)=((AX S R lv c:Nat):Int)∧(k=ws.length∨AX S R lv c=0))
  (fun x=>∃(k:Nat) (c:List (List Int)) (ch:List Nat) (cnt:CT) (ens:List Int),x=(((AX S R lv c:Nat):Int),ens,(k:Int),cnt.1,cnt.2.1,cnt.2.2.1,cnt.2.2.2.1,cnt.2.2.2.2,c,BH ch)∧P k c ch cnt∧tA g p.2.1.length c∧k<=ws.length∧ch.length=k∧ens.length=k+1∧at' ens (k:Int)=((AX S R lv c:Nat):Int)) (fun x=>ws.length - x.2.2.1.toNat) (fun x ag hI hrec=>by
  obtain⟨k,c,ch,cnt,ens,rfl,b1,b2,b3,b4,b5,b6⟩:=hI
  unfold iH
  dsimp only
  by_cases hlt:k<ws.length
  rotate_left
  ·rw[if_neg (by omega)]
   exact fin k c ch cnt ens b1 b2 b3 b4 b5 b6 (.inl (by omega))
  obtain⟨w,hwe,hw32⟩:=hw k hlt
  have hin:Of g (AX S R lv c):=UO S R lv c
  obtain⟨t,ht,hsub,hne⟩:=KZ hV hN hk1 hk4 hin hw32
  rw[if_pos (by omega),dV (by omega),hwe,bN (show eQ 1000 net kind _ _=_ from ht)]
  unfold mX
  dsimp only
  by_cases he0:AX S R lv c=0
  ·rw[if_pos (by omega)]
   exact fin k c ch cnt ens b1 b2 b3 b4 b5 b6 (.inr he0)
  obtain⟨ht0,hperm,hk2,hk4'⟩:=hne he0
  have ht32:t<4294967296:=by have:=Of.lt hV (fun i hi=>hin i (hsub i hi));omega
  rw[if_neg (by omega),bN (show eP 1000 net kind _ _=_ from hperm),if_neg (by decide)]
  have hst:fL 1000 (p,(p,g,jW g g.2.length,BA g),zG g p.2.1) c (t:Int)=some (sU S p.2.1 R c t):=Tk (gr:=jW g g.2.length) (bk:=BA g) hV hp b2 hz hR ht32 (fun v hv=>((Ea S R lv c v).1 (hsub v hv)).2.1)
  have hsh:tA g p.2.1.length (sU S p.2.1 R c t):=b2.step
  obtain⟨⟨cnt',err⟩,hadd⟩:=OF cnt ht32 ((AX S R lv (sU S p.2.1 R c t):Nat):Int)
  rw[bN (show fL 1000 _ c (t:Int)=_ from hst),bN (show cV 1000 _ _=_ from hen _ hsh),hand,bN (show mI 1000 _ (t:Int) _=_ from hadd),bN (show qM 1000 _ _ _=some ()from rfl),dV (by simp[BH];omega),dV (by simp;omega),eT (by omega)]
  refine hrec _ ⟨k+1,sU S p.2.1 R c t,ch++[t],cnt',ens++[((AX S R lv (sU S p.2.1 R c t):Nat):Int)],by simp[BH],hstep k c ch cnt t cnt' err hlt b2 b1 he0 ht0 hsub hk2 hk4' hadd,hsh,by omega,by simp[b4],by simp[b5],?_⟩ (by dsimp only;omega)
  exact Hn (pre:=ens) (rest:=[]) (by simp) b5) 1000 (((AX S R lv c0:Nat):Int),[((AX S R lv c0:Nat):Int)],(0:Int),0,0,0,0,dD .u32 ((AX S R lv c0:Nat):Int) 16777215,c0,[])
  ⟨0,c0,[],(0,0,0,0,dD .u32 ((AX S R lv c0:Nat):Int) 16777215),[((AX S R lv c0:Nat):Int)],rfl,h0,hc0.shape,by omega,rfl,rfl,rfl⟩ (by dsimp only;omega)
 obtain⟨r,hr,k,c,ch,cnt,ens,rfl,hrest⟩:=key
 exact⟨k,c,ch,cnt,ens,hr,hrest⟩
end
end Go.Proofs.YtigggfnchamobaaGreatDoor
end
