/- Models of functions with their proofs, by program (gen/xt.py), and plain laws, in one text. Conditions: none. -/
import Derived.Test.YtigggfnchamobaaGreatDoorZCCo5
import Derived.Test.YtigggfnchamobaaGreatDoorZCCo2
import Derived.Test.YtigggfnchamobaaGreatDoorZCCo4
import Derived.Test.YtigggfnchamobaaGreatDoorZCCo1
import Derived.KernelRfl
set_option linter.unusedVariables false
set_option linter.unusedSimpArgs false
set_option maxHeartbeats 4000000
set_option maxRecDepth 20000
section
namespace Go.Proofs.YtigggfnchamobaaGreatDoor
open Go.Sx
def rZ  (a8:List (List (Int))):Option (List (List (Int))):=
 some (a8)
def r_ (a15:List (List (Int))×Int) (ag14:(List (List (Int))×Int)->Option (List (List (Int)))) (a21:List (Int)):Option (List (List (Int))):=
 ck ((List.length a15.1:Int)+(List.length ([a21]):Int)<=1099511627) (ag14 ((a15.1++[a21]),(wI .i64 (a15.2+(1:Int)))))
def kA (fuel:Nat) (p1:List (ByteArray×Int×Int×Int×Int×Int)) (p2:List (Int)) (a15:List (List (Int))×Int) (a33:List (Int)×Int) (ag32:(List (Int)×Int)->Option (List (List (Int)))) (a43:Int×Int):Option (List (List (Int))):=
 Option.bind (oH fuel p2 (wI .i64 ((wI .i64 (a15.2*(List.length p1:Int)))+a33.2))) fun r45=>(Option.bind (eS fuel r45 (wI .i64 ((wI .i64 (a43.2 - a43.1))+(1:Int)))) fun r48=>(ck ((List.length a33.1:Int)+(List.length ([(wI .i64 (a43.1+r48))]):Int)<=1099511627) (ag32 ((a33.1++([(wI .i64 (a43.1+r48))])),(wI .i64 (a33.2+(1:Int)))))))
def kB (fuel:Nat) (p0:List (Int)×(List (List (Int×Int)))) (p1:List (ByteArray×Int×Int×Int×Int×Int)) (p2:List (Int)) (a3:Int) (a15:List (List (Int))×Int) (ag14:(List (List (Int))×Int)->Option (List (List (Int)))) (a33:List (Int)×Int) (ag32:(List (Int)×Int)->Option (List (List (Int)))):Option (List (List (Int))):=
 if a33.2<(List.length p1:Int)then(ck (0<=a33.2∧a33.2<(List.length p1:Int)) (ck (0<=a33.2∧a33.2<(List.length p1:Int)) (ck (0<=a33.2∧a33.2<(List.length p1:Int)) (ck (0<=a33.2∧a33.2<(List.length p1:Int)) (ck (0<=a33.2∧a33.2<(List.length p1:Int)) (if((at' p1 a33.2).2.1)=(2:Int)then(kA fuel p1 p2 a15 a33 ag32 ((0:Int),(1:Int)))else(if((at' p1 a33.2).2.1)=(3:Int)then(ck (0<=a15.2∧a15.2<(List.length p0.2:Int)) (kA fuel p1 p2 a15 a33 ag32 ((-1:Int),(wI .i64 ((List.length (at' p0.2 a15.2):Int) - (1:Int))))))else(kA fuel p1 p2 a15 a33 ag32 (((at' p1 a33.2).2.2.1),(wI .i64 ((wI .i64 (((at' p1 a33.2).2.2.2.1)+(wI .i64 (((at' p1 a33.2).2.2.2.2.1)*(List.length p0.2:Int)))))+(wI .i64 (((at' p1 a33.2).2.2.2.2.2)*a3)))))))))))))else(r_ a15 ag14 (a33.1))
def gK (fuel:Nat) (p0:List (Int)×(List (List (Int×Int)))) (p1:List (ByteArray×Int×Int×Int×Int×Int)) (p2:List (Int)) (a3:Int) (a15:List (List (Int))×Int) (ag14:(List (List (Int))×Int)->Option (List (List (Int)))):Option (List (List (Int))):=
 if a15.2<(List.length p0.2:Int)then(bK (kB fuel p0 p1 p2 a3 a15 ag14) fuel (([]:List Int),(0:Int)))else(rZ  (a15.1))
def oY (fuel:Nat) (p0:List (Int)×(List (List (Int×Int)))) (p1:List (ByteArray×Int×Int×Int×Int×Int)) (p2:List (Int)) (a3:Int):Option (List (List (Int))):=
 bK (gK fuel p0 p1 p2 a3) fuel (([]:List (List Int)),(0:Int))
def oZ (fuel:Nat) (p0:List (Int)×(List (List (Int×Int)))) (p1:List (ByteArray×Int×Int×Int×Int×Int)) (p2:List (Int)) (a61:Int×Int) (ag60:(Int×Int)->Option (List (List (Int)))):Option (List (List (Int))):=
 if a61.2<(List.length p0.2:Int)then(ck (0<=a61.2∧a61.2<(List.length p0.1:Int)) (ag60 ((max a61.1 (at' p0.1 a61.2)),(wI .i64 (a61.2+(1:Int))))))else(oY fuel p0 p1 p2 (a61.1))
def lC (fuel:Nat) (p0:List (Int)×(List (List (Int×Int)))) (p1:List (ByteArray×Int×Int×Int×Int×Int)) (p2:List (Int)):Option (List (List (Int))):=
 bK (oZ fuel p0 p1 p2) fuel ((0:Int),(0:Int))
theorem Uk:aV Tryz.prog 10:=Tryz.call10
theorem FB (fuel:Nat) {p0:List (Int)×(List (List (Int×Int)))} {p1:List (ByteArray×Int×Int×Int×Int×Int)} {p2:List (Int)} (v0:Value)  (v1:Value)  (z2:List (Value×List (Int×Int)))  (v3:Value)  (v4:Value) (r:List (List (Int))) (h:lC fuel p0 p1 p2=some r):
  bA Tryz.prog 10 #[Value.agg #[v0,v1],v3,v4] [Sl aR v0 p0.1,S2 aK v1 z2 p0.2,Sl aH v3 p1,Sl aR v4 p2] (fun x:Value×List Value=>x.1) (fun x l=>Ar dK.raw x.1 x.2::jP cA x.2 r::l) (fun _ l=>l):=by
 refine bA.of (vs:=[Value.agg #[v0,v1],v3,v4]) Tryz.func10 rfl Tryz.ntmps10 rfl fun c=>?_
 unfold lC at h
 refine sqR<|aL (aQ.box (cs:=[v0,v1]) rfl rfl) rfl fun b1=>qkAsg rfl<|dtN<|sqR<|qkFld rfl<|qkLd 0 rfl<|aB (jX rfl (aC.fact 1 rfl) rfl) rfl<|qkAsg rfl<|qkAsg rfl<|dtN<|aO<|bL (A:=Int) (B:=Unit) (fun a3=>oY fuel p0 p1 p2 a3=some r) (fun a3 b4=>[(1,v3),(2,v4),(3,Value.pointer (some ⟨b1,0,none⟩)),(7,Value.int .i64 (List.length p0.2:Int)),(8,Value.int .i64 (a3))]) (fun a3 b4=>[bR b1 [v0,v1] 28]) (fun a3 b4=>[Sl aR v0 p0.1,S2 aK v1 z2 p0.2,Sl aH v3 p1,Sl aR v4 p2]) ?_ ?_
 ·refine sqR<|qkAsg rfl<|dtN<|aU<|bY (A:=Int×Int) (B:=Unit) (oZ fuel p0 p1 p2) (fun a61 b62=>[(1,v3),(2,v4),(3,Value.pointer (some ⟨b1,0,none⟩)),(7,Value.int .i64 (List.length p0.2:Int)),(8,Value.int .i64 (a61.1)),(9,Value.int .i64 (a61.2))]) (fun a61 b62=>[bR b1 [v0,v1] 28]) (fun a61 b62=>[Sl aR v0 p0.1,S2 aK v1 z2 p0.2,Sl aH v3 p1,Sl aR v4 p2]) ((0:Int),(0:Int)) (()) h SF (aP.refl _) (aA.refl _ _) ?_
  clear h
  intro k63 a61 b62 h
  unfold oZ at h
  refine aO<|sqR<|qkMove rfl<|qkMove rfl<|qkLss rfl<|dtN ?_
  refine eR h rfl (fun _ h=>?_) fun _ h=>?_
  ·refine aW<|aI<|aO<|aU<|aS<|qkMove rfl<|qkFld rfl<|qkLd 0 rfl<|qkMove rfl ?_
   have⟨hc65,h⟩:=aN h
   refine aB (bE rfl rfl (aC.fact 0 rfl) rfl rfl hc65) rfl<|aB (bZ rfl (aC.fact 0 rfl) rfl rfl rfl dU hc65) rfl<|aB (IP rfl rfl) rfl<|qkAsg rfl<|eD<|bV<|aI<|aS<|qkMove rfl<|qkAdd rfl<|qkAsg rfl<|dtN ?_
   exact xG ((max a61.1 (at' p0.1 a61.2)),(wI .i64 (a61.2+(1:Int)))) (()) h SF rfl
  refine cE<|aY<|aY<|dJ<|aI ?_
  exact jA (a61.1) (()) h SF rfl
 clear h
 intro a3 b4 h
 unfold oY at h
 refine sqR<|qkAsg rfl<|dtN<|aO<|bL (A:=List (List (Int))) (B:=Value×List Value) (fun a8=>rZ  a8=some r) (fun a8 b9=>[(10,b9.1)]) (fun a8 b9=>[Ar dK.raw b9.1 b9.2,jP cA b9.2 a8]) (fun a8 b9=>[Sl aR v0 p0.1,S2 aK v1 z2 p0.2,Sl aH v3 p1,Sl aR v4 p2]) ?_ ?_
 ·refine sqR<|qkAsg rfl<|dtN<|aU<|jR (iU dK.raw) (jR (wX cA) ?_)
  refine bY (A:=List (List (Int))×Int) (B:=Value×List Value) (gK fuel p0 p1 p2 a3) (fun a15 b16=>[(1,v3),(2,v4),(3,Value.pointer (some ⟨b1,0,none⟩)),(7,Value.int .i64 (List.length p0.2:Int)),(8,Value.int .i64 (a3)),(10,b16.1),(11,Value.int .i64 (a15.2))]) (fun a15 b16=>[bR b1 [v0,v1] 28,Ar dK.raw b16.1 b16.2,jP cA b16.2 a15.1]) (fun a15 b16=>[Sl aR v0 p0.1,S2 aK v1 z2 p0.2,Sl aH v3 p1,Sl aR v4 p2]) (([]:List (List Int)),(0:Int)) ((Value.slice none 0 0),([]:List Value)) h SF (aP.ix [2,1,0] rfl rfl) (aA.refl _ _) ?_
  clear h
  intro k17 a15 b16 h
  unfold gK at h
  refine aO<|sqR<|qkMove rfl<|qkMove rfl<|qkLss rfl<|dtN ?_
  refine eR h rfl (fun _ h=>?_) fun _ h=>?_
  ·refine aW<|aI<|aO<|aU<|sqR<|qkAsg rfl<|dtN<|aO<|bL (A:=List (Int)) (B:=Value) (fun a21=>r_ a15 (bK (gK fuel p0 p1 p2 a3) k17) a21=some r) (fun a21 b22=>[(1,v3),(2,v4),(3,Value.pointer (some ⟨b1,0,none⟩)),(7,Value.int .i64 (List.length p0.2:Int)),(8,Value.int .i64 (a3)),(10,b16.1),(11,Value.int .i64 (a15.2)),(12,b22)]) (fun a21 b22=>[bR b1 [v0,v1] 28,Ar dK.raw b16.1 b16.2,jP cA b16.2 a15.1,Ar cA b22 a21]) (fun a21 b22=>[Sl aR v0 p0.1,S2 aK v1 z2 p0.2,Sl aH v3 p1,Sl aR v4 p2]) ?_ ?_
   ·refine sqR<|qkAsg rfl<|dtN<|aU<|jR (iU cA)<|bY (A:=List (Int)×Int) (B:=Value) (kB fuel p0 p1 p2 a3 a15 (bK (gK fuel p0 p1 p2 a3) k17)) (fun a33 b34=>[(1,v3),(2,v4),(3,Value.pointer (some ⟨b1,0,none⟩)),(7,Value.int .i64 (List.length p0.2:Int)),(8,Value.int .i64 (a3)),(10,b16.1),(11,Value.int .i64 (a15.2)),(12,b34),(13,Value.int .i64 (a33.2))]) (fun a33 b34=>[bR b1 [v0,v1] 28,Ar dK.raw b16.1 b16.2,jP cA b16.2 a15.1,Ar cA b34 a33.1]) (fun a33 b34=>[Sl aR v0 p0.1,S2 aK v1 z2 p0.2,Sl aH v3 p1,Sl aR v4 p2]) (([]:List Int),(0:Int)) (Value.slice none 0 0) h SF (aP.ix [1,2,3,0] rfl rfl) (aA.refl _ _) ?_
    clear h
    intro k35 a33 b34 h
    unfold kB at h
    refine aO<|sqR<|qkMove rfl<|qkMove rfl<|aB (cB rfl (aC.fact 2 rfl) rfl) rfl<|qkLss rfl<|dtN ?_
    refine eR h rfl (fun _ h=>?_) fun _ h=>?_
    ·refine aW<|aI<|aO<|aU<|aO ?_
     refine JR.start [0,0,3,7,15,0,0,96,224,480,0,0,3072,7168,15360,0,64512,131040,0,0,786432,1835008,3932160,0,16515072,33554400,31,134217727] 27 mixedOrders (by decide +kernel) ?_
     refine JR.open (by exact rfl) ?_
     refine jkMove rfl<|jkMove rfl ?_
     have⟨hc37,h⟩:=aN h
     refine aT rfl .nil (cW.cons (List.mem_of_getElem? (i:=2) rfl) .nil) (bE rfl rfl (aC.fact 0 rfl) rfl rfl hc37) aF.z<|aT rfl .nil .nil (nE rfl rfl rfl rfl rfl) aF.z<|aT rfl .nil (cW.cons (List.mem_of_getElem? (i:=2) rfl) .nil) (pI rfl (aC.fact 0 rfl) rfl rfl rfl zR hc37) aF.z<|jkMove rfl<|jkMove rfl ?_
     have⟨hc38,h⟩:=aN h
     refine aT rfl .nil (cW.cons (List.mem_of_getElem? (i:=2) rfl) .nil) (bE rfl rfl (aC.fact 0 rfl) rfl rfl hc38) aF.z<|aT rfl .nil .nil (nE rfl rfl rfl rfl rfl) aF.z<|aT rfl .nil (cW.cons (List.mem_of_getElem? (i:=2) rfl) .nil) (pI rfl (aC.fact 0 rfl) rfl rfl rfl zS hc38) aF.z<|jkMove rfl<|jkMove rfl ?_
     have⟨hc39,h⟩:=aN h
     refine aT rfl .nil (cW.cons (List.mem_of_getElem? (i:=2) rfl) .nil) (bE rfl rfl (aC.fact 0 rfl) rfl rfl hc39) aF.z<|aT rfl .nil .nil (nE rfl rfl rfl rfl rfl) aF.z<|aT rfl .nil (cW.cons (List.mem_of_getElem? (i:=2) rfl) .nil) (pI rfl (aC.fact 0 rfl) rfl rfl rfl zT hc39) aF.z<|jkMove rfl<|aT rfl .nil .nil (yO rfl rfl) aF.z<|aT rfl .nil .nil (pG rfl rfl) aF.z<|jkMove rfl<|jkMove rfl ?_
     have⟨hc40,h⟩:=aN h
     refine aT rfl .nil (cW.cons (List.mem_of_getElem? (i:=2) rfl) .nil) (bE rfl rfl (aC.fact 0 rfl) rfl rfl hc40) aF.z<|aT rfl .nil .nil (nE rfl rfl rfl rfl rfl) aF.z<|aT rfl .nil (cW.cons (List.mem_of_getElem? (i:=2) rfl) .nil) (pI rfl (aC.fact 0 rfl) rfl rfl rfl zU hc40) aF.z<|jkMove rfl<|aT rfl .nil .nil (yO rfl rfl) aF.z<|aT rfl .nil .nil (pG rfl rfl) aF.z<|aT rfl .nil .nil (tB rfl) aF.z<|bS 27 rfl rfl<|qkAsg rfl<|dtN<|aO<|bL (A:=Int×Int) (B:=Unit) (fun a43=>kA fuel p1 p2 a15 a33 (bK (kB fuel p0 p1 p2 a3 a15 (bK (gK fuel p0 p1 p2 a3) k17)) k35) a43=some r) (fun a43 b44=>[(1,v3),(2,v4),(3,Value.pointer (some ⟨b1,0,none⟩)),(7,Value.int .i64 (List.length p0.2:Int)),(8,Value.int .i64 (a3)),(10,b16.1),(11,Value.int .i64 (a15.2)),(12,b34),(13,Value.int .i64 (a33.2)),(14,Value.int .i64 (a43.1)),(15,Value.int .i64 (a43.2))]) (fun a43 b44=>[bR b1 [v0,v1] 28,Ar dK.raw b16.1 b16.2,jP cA b16.2 a15.1,Ar cA b34 a33.1]) (fun a43 b44=>[Sl aR v0 p0.1,S2 aK v1 z2 p0.2,Sl aH v3 p1,Sl aR v4 p2]) ?_ ?_
     ·refine sqR<|qkMove rfl<|qkMove rfl ?_
      have⟨hc54,h⟩:=aN h
      refine aB (bE rfl rfl (aC.fact 2 rfl) rfl rfl hc54) rfl<|aB (nE rfl rfl rfl rfl rfl) rfl<|aB (pI rfl (aC.fact 2 rfl) rfl rfl rfl tX hc54) rfl<|dtN<|aU<|sqR<|qkEql rfl<|qkAsg rfl<|dtN ?_
      refine eR h rfl (fun _ h=>?_) fun _ h=>?_
      ·refine aS<|qkAsg rfl<|qkAsg rfl<|eD<|bV<|aI ?_
       exact jA ((0:Int),(1:Int)) (()) h SF rfl
      refine sqR<|qkEql rfl<|qkAsg rfl<|dtN ?_
      refine eR h rfl (fun _ h=>?_) fun _ h=>?_
      ·refine JR.start [0,1,0,7,15,31,63,0,255] 8 mixedOrders (by decide +kernel) ?_
       refine JR.open (by exact rfl) ?_
       refine jkFld rfl<|jkLd 0 rfl<|jkMove rfl ?_
       have⟨hc57,h⟩:=aN h
       refine aT rfl .nil (cW.cons (List.mem_of_getElem? (i:=1) rfl) .nil) (cS rfl rfl (aC.fact 0 rfl) rfl rfl hc57) aF.z<|aT rfl .nil (cW.cons (List.mem_of_getElem? (i:=1) rfl) .nil) (cT rfl (aC.fact 0 rfl) rfl rfl hc57) aF.z<|aT rfl .nil (cW.cons (List.mem_of_getElem? (i:=1) rfl) .nil) (cB rfl (aC.el (aC.fact 0 rfl) hc57.1 hc57.2) rfl) aF.z<|aT rfl .nil .nil (pV rfl rfl) aF.z<|aT rfl .nil .nil (tB rfl) aF.z<|bS 8 rfl rfl<|qkAsg rfl<|eD<|bV<|aI ?_
       exact jA ((-1:Int),(wI .i64 ((List.length (at' p0.2 a15.2):Int) - (1:Int)))) (()) h SF rfl
      refine aW<|bV<|aI ?_
      exact jA (((at' p1 a33.2).2.2.1),(wI .i64 ((wI .i64 (((at' p1 a33.2).2.2.2.1)+(wI .i64 (((at' p1 a33.2).2.2.2.2.1)*(List.length p0.2:Int)))))+(wI .i64 (((at' p1 a33.2).2.2.2.2.2)*a3))))) (()) h SF rfl
     clear h
     intro a43 b44 h
     unfold kA at h
     refine aS<|qkMove rfl<|qkMove rfl<|qkMove rfl<|qkMove rfl<|qkMove rfl<|aB (cB rfl (aC.fact 2 rfl) rfl) rfl<|aB (yO rfl rfl) rfl<|qkMove rfl<|qkAdd rfl ?_
     have⟨r45,hr46,h⟩:=fJ h
     refine aL (aJ EH (wR fuel v4 r45 hr46) rfl (aA.cons (aC.fact 3 rfl) .nil) (fun _ _=>rfl)) rfl fun x47=>qkMove rfl<|qkMove rfl<|aB (pV rfl rfl) rfl<|qkAdd rfl ?_
     have⟨r48,hr49,h⟩:=fJ h
     refine aL (aJ Ad (jN fuel  r48 hr49) rfl .nil (fun _ _=>rfl)) rfl fun x50=>qkAdd rfl<|aL (cJ (e:=cA) ([(wI .i64 (a43.1+r48))]) [(0,Value.int .i64 (wI .i64 (a43.1+r48)))] rfl rfl rfl rfl (nP (Value.int .i64 (wI .i64 (a43.1+r48))) rfl) rfl rfl rfl) rfl fun u51=>?_
     have⟨hc53,h⟩:=aN h
     refine aL (gH 4 cR rfl rfl rfl (aZ (aC.res 0 rfl) cR) rfl rfl rfl rfl hc53 rfl) rfl fun u52=>qkAsg rfl<|eD<|bV<|aI<|aS<|qkMove rfl<|qkAdd rfl<|qkAsg rfl<|dtN ?_
     exact nC ((a33.1++([(wI .i64 (a43.1+r48))])),(wI .i64 (a33.2+(1:Int)))) (u52) h SF (aP.ix [1,2,3,4] rfl rfl) (aA.refl _ _)
    refine cE<|aY<|aY<|dJ<|aI ?_
    exact jA (a33.1) (b34) h SF rfl
   clear h
   intro a21 b22 h
   unfold r_ at h
   refine aS<|qkMove rfl<|qkMove rfl<|jR (wX cA)<|b_ (Know.one ((aZ (aC.res 4 rfl) cR))) fun ho23=>jR (Ku 0 4 rfl rfl rfl) ?_
   refine aL (cJ (e:=dK.raw) [b22] [(0,b22)] rfl rfl rfl rfl (nP (b22) ho23) rfl rfl (by simp[cellsOf,dK.raw,ho23])) rfl fun u24=>?_
   refine b_ (cY 4 rfl) fun hl25=>b_ (cY 1 rfl) fun hl26=>?_
   have⟨hc27,h⟩:=aN h
   refine jR (IE 4 1 rfl rfl rfl) ?_
   refine aL (aQ.append 2 0 rfl rfl rfl rfl rfl rfl rfl (by have q:=hc27;have q1:=hl25;have q2:=hl26;(try simp only[List.length_cons,List.length_nil]at q q1 q2 ⊢);omega) (by have q:=hc27;have q1:=hl25;have q2:=hl26;(try simp only[List.length_cons,List.length_nil]at q q1 q2 ⊢);omega) rfl) rfl fun u28=>?_
   refine qkAsg rfl<|eD<|bV<|aI<|aS<|qkMove rfl<|qkAdd rfl<|qkAsg rfl<|dtN ?_
   exact nC ((a15.1++[a21]),(wI .i64 (a15.2+(1:Int)))) (u28,(b16.2++[b22])) h SF (aP.ix [1,2,3] rfl rfl) (aA.refl _ _)
  refine cE<|aY<|aY<|dJ<|aI ?_
  exact cM (a15.1) (b16.1,b16.2) h SF (aP.ix [1,2] rfl rfl) (aA.refl _ _)
 clear h
 intro a8 b9 h
 unfold rZ at h
 refine sqR<|qkMove rfl<|qkAsg rfl<|dtN<|aX ?_
 cases h
 exact fO (b9.1,b9.2) rfl rfl (RV.tmp rfl) (aP.refl _) aA.nil
end Go.Proofs.YtigggfnchamobaaGreatDoor
end
section
namespace Go.Proofs.YtigggfnchamobaaGreatDoor
open Go.Sx
def wE (fuel:Nat) (p0:ByteArray) (p1:Int) (p2:Int) (p3:Int):Option ((ByteArray×Int×Int×Int×Int×Int)):=
 some ((p0,(1:Int),(0:Int),p1,p2,p3))
theorem Up:aV Tryz.prog 31:=Tryz.call31
theorem Fz (fuel:Nat) {p0:ByteArray} {p1:Int} {p2:Int} {p3:Int} (r:(ByteArray×Int×Int×Int×Int×Int)) (h:wE fuel p0 p1 p2 p3=some r):
  bA Tryz.prog 31 #[Value.string (p0),Value.int .i64 (p1),Value.int .i64 (p2),Value.int .i64 (p3)] [] (fun x:Unit=>Value.agg #[Value.string (r.1),Value.int .i64 (r.2.1),Value.int .i64 (r.2.2.1),Value.int .i64 (r.2.2.2.1),Value.int .i64 (r.2.2.2.2.1),Value.int .i64 (r.2.2.2.2.2)]) (fun x l=>l) (fun _ l=>l):=by
 refine bA.of (vs:=[Value.string (p0),Value.int .i64 (p1),Value.int .i64 (p2),Value.int .i64 (p3)]) Tryz.func31 rfl Tryz.ntmps31 rfl fun c=>?_
 unfold wE at h
 refine sqR<|aL (aQ.alloc (cs:=[Value.string (ByteArray.mk #[]),Value.int .i64 (0:Int),Value.int .i64 (0:Int),Value.int .i64 (0:Int),Value.int .i64 (0:Int),Value.int .i64 (0:Int)]) rfl rfl) rfl fun b1=>dtN<|sqR<|qkMove rfl<|qkMove rfl<|qkMove rfl<|qkMove rfl ?_
 refine aB (Y.bld5 (r:=Value.agg #[Value.string (p0),Value.int .i64 (1:Int),Value.int .i64 (0:Int),Value.int .i64 (p1),Value.int .i64 (p2),Value.int .i64 (p3)]) rfl rfl rfl rfl rfl (by intro w;simp[Instr.build,Instr.fill,eK,dN,c_,eL,eM,dO,fQ])) rfl ?_
 refine bM 0 (vs:=[Value.string (p0),Value.int .i64 (1:Int),Value.int .i64 (0:Int),Value.int .i64 (p1),Value.int .i64 (p2),Value.int .i64 (p3)]) rfl rfl rfl rfl rfl rfl<|dtN<|aX ?_
 cases h
 exact fO (()) rfl rfl (RV.cell 0 rfl rfl rfl rfl) .nil aA.nil
end Go.Proofs.YtigggfnchamobaaGreatDoor
end
section
namespace Go.Proofs.YtigggfnchamobaaGreatDoor
open Go.Sx
def vD  (a2:Unit):Option (Int):=
 some (-1:Int)
def oP (p0:List (Int)×(List (List (Int×Int)))) (p1:Int) (p2:Int) (a7:Int) (ag6:(Int)->Option (Int)):Option (Int):=
 if a7<(List.length (at' p0.2 p1):Int)then(ck (0<=a7∧a7<(List.length (at' p0.2 p1):Int)) (if((at' (at' p0.2 p1) a7).1)=p2 then(some (a7))else(ag6 (wI .i64 (a7+(1:Int))))))else(vD  (()))
def nR (fuel:Nat) (p0:List (Int)×(List (List (Int×Int)))) (p1:Int) (p2:Int):Option (Int):=
 ck (0<=p1∧p1<(List.length p0.2:Int)) (bK (oP p0 p1 p2) fuel (0:Int))
theorem RN:aV Tryz.prog 116:=Tryz.call116
theorem Fv (fuel:Nat) {p0:List (Int)×(List (List (Int×Int)))} {p1:Int} {p2:Int} (v0:Value)  (v1:Value)  (z2:List (Value×List (Int×Int))) (r:Int) (h:nR fuel p0 p1 p2=some r):
  bA Tryz.prog 116 #[Value.agg #[v0,v1],Value.int .i64 (p1),Value.int .i64 (p2)] [Sl aR v0 p0.1,S2 aK v1 z2 p0.2] (fun x:Unit=>Value.int .i64 (r)) (fun x l=>l) (fun _ l=>l):=by
 refine bA.of (vs:=[Value.agg #[v0,v1],Value.int .i64 (p1),Value.int .i64 (p2)]) Tryz.func116 rfl Tryz.ntmps116 rfl fun c=>?_
 unfold nR at h
 refine sqR<|aL (aQ.box (cs:=[v0,v1]) rfl rfl) rfl fun b1=>qkAsg rfl<|dtN<|aO<|bL (A:=Unit) (B:=Unit) (fun a2=>vD  a2=some r) (fun a2 b3=>[]) (fun a2 b3=>[]) (fun a2 b3=>[Sl aR v0 p0.1,S2 aK v1 z2 p0.2]) ?_ ?_
 ·refine sqR<|qkFld rfl<|qkLd 0 rfl<|qkMove rfl ?_
  have⟨hc4,h⟩:=aN h
  refine aB (cS rfl rfl (aC.fact 1 rfl) rfl rfl hc4) rfl<|aB (cT rfl (aC.fact 1 rfl) rfl rfl hc4) rfl<|aB (cB rfl (aC.el (aC.fact 1 rfl) hc4.1 hc4.2) rfl) rfl<|qkMove rfl<|dtN<|aU<|bY (A:=Int) (B:=Unit) (oP p0 p1 p2) (fun a7 b8=>[(2,Value.int .i64 (p2)),(13,(at' z2 p1).1),(14,Value.int .i64 (List.length (at' p0.2 p1):Int)),(15,Value.int .i64 (a7))]) (fun a7 b8=>[]) (fun a7 b8=>[Sl aR v0 p0.1,S2 aK v1 z2 p0.2]) (0:Int) (()) h SF .nil (aA.refl _ _) ?_
  clear h
  intro k9 a7 b8 h
  unfold oP at h
  refine sqR<|qkLss rfl<|dtN<|aO ?_
  refine eR h rfl (fun _ h=>?_) fun _ h=>?_
  ·refine aW<|aI<|aO<|aU<|sqR<|qkMove rfl ?_
   have⟨hc11,h⟩:=aN h
   refine aB (bE rfl rfl (aC.el (aC.fact 1 rfl) hc4.1 hc4.2) rfl rfl hc11) rfl<|aB (gM (cs:=[Value.int .i64 ((at' (at' p0.2 p1) a7).1),Value.int .i64 ((at' (at' p0.2 p1) a7).2)]) rfl (aC.el (aC.fact 1 rfl) hc4.1 hc4.2) bO rfl rfl rfl rfl hc11) rfl<|aL (aQ.alloc (cs:=[Value.int .i64 (0:Int),Value.int .i64 (0:Int)]) rfl rfl) rfl fun b12=>qkAsg rfl<|bM 0 (vs:=[Value.int .i64 ((at' (at' p0.2 p1) a7).1),Value.int .i64 ((at' (at' p0.2 p1) a7).2)]) rfl rfl rfl rfl rfl rfl<|dtN<|sqR<|qkFld rfl<|qkLd 0 rfl<|qkMove rfl<|qkEql rfl<|dtN ?_
   refine eR h rfl (fun _ h=>?_) fun _ h=>?_
   ·refine sqR<|qkMove rfl<|qkAsg rfl<|dtN<|aX<|bP<|aM<|aM<|bP<|aM ?_
    cases h
    exact u_ rfl
   refine aW<|bV<|aI<|aS<|qkAdd rfl<|qkMove rfl<|dtN ?_
   exact nC (wI .i64 (a7+(1:Int))) (()) h SF .nil (aA.refl _ _)
  refine cE<|aY<|aY<|dJ<|aI ?_
  exact jA (()) (()) h SF rfl
 clear h
 intro a2 b3 h
 unfold vD at h
 refine sqR<|qkAsg rfl<|dtN<|aX ?_
 cases h
 exact lN rfl
end Go.Proofs.YtigggfnchamobaaGreatDoor
end
section
namespace Go.Proofs.YtigggfnchamobaaGreatDoor
open Go.Sx
def qV (p1:List (Int)×(List (List (Int×Int)))) (a6:(List (List (Int×Int)))):Option ((List (Int)×(List (List (Int×Int))))):=
 some ((p1.1,a6))
def iC (fuel:Nat) (p0:Int×List (Int)×List (Int)×List (Int)×Bool×Bool) (p1:List (Int)×(List (List (Int×Int)))) (a14:Int×(List (List (Int×Int)))) (ag13:(Int×(List (List (Int×Int))))->Option ((List (Int)×(List (List (Int×Int)))))) (a18:Bool):Option ((List (Int)×(List (List (Int×Int))))):=
 if a18=true then(ck (0<=a14.1∧a14.1<(List.length p0.2.1:Int)) (Option.bind (eS fuel (at' p0.2.1 a14.1) (List.length p1.2:Int)) fun r22=>(ck (0<=(wI .i64 (a14.1+(1:Int)))∧(wI .i64 (a14.1+(1:Int)))<(List.length p0.2.1:Int)) (Option.bind (eS fuel (at' p0.2.1 (wI .i64 (a14.1+(1:Int)))) (List.length p1.2:Int)) fun r26=>(Option.bind (oH fuel p0.2.2.1 a14.1) fun r29=>(Option.bind (eS fuel r29 (15:Int)) fun r32=>(Option.bind (iX fuel ((p0.1,p0.2.1,p0.2.2.1,p0.2.2.2.1,p0.2.2.2.2.1,p0.2.2.2.2.2)) ((p1.1,a14.2)) r22 r26 (wI .i64 ((1:Int)+r32))) fun r35=>(ag13 ((wI .i64 (a14.1+(2:Int))),r35)))))))))else(qV p1 (a14.2))
def kE (fuel:Nat) (p0:Int×List (Int)×List (Int)×List (Int)×Bool×Bool) (p1:List (Int)×(List (List (Int×Int)))) (a14:Int×(List (List (Int×Int)))) (ag13:(Int×(List (List (Int×Int))))->Option ((List (Int)×(List (List (Int×Int)))))):Option ((List (Int)×(List (List (Int×Int))))):=
 if(wI .i64 (a14.1+(1:Int)))<(List.length p0.2.1:Int)then(iC fuel p0 p1 a14 ag13 (decide (a14.1<(60:Int))))else(iC fuel p0 p1 a14 ag13 (false))
def iY (fuel:Nat) (p0:Int×List (Int)×List (Int)×List (Int)×Bool×Bool) (p1:List (Int)×(List (List (Int×Int)))):Option ((List (Int)×(List (List (Int×Int))))):=
 bK (kE fuel p0 p1) fuel ((List.length p1.2:Int),p1.2)
theorem OT:aV Tryz.prog 26:=Tryz.call26
theorem wO (fuel:Nat) {p0:Int×List (Int)×List (Int)×List (Int)×Bool×Bool} {p1:List (Int)×(List (List (Int×Int)))} (v0:Value)  (v1:Value)  (v2:Value)  (v3:Value)  (v4:Value)  (w5:List Value) (r:(List (Int)×(List (List (Int×Int))))) (h:iY fuel p0 p1=some r):
  Bu Tryz.prog 26 #[Value.agg #[Value.int .i64 (p0.1),v0,v1,v2,Value.bool (p0.2.2.2.2.1),Value.bool (p0.2.2.2.2.2)],Value.agg #[v3,v4]] [Ar cA v3 p1.1,Ar dK.raw v4 w5,jP bU w5 p1.2] [Sl aR v0 p0.2.1,Sl aR v1 p0.2.2.1,Sl aR v2 p0.2.2.2.1] (fun x:Value×Value×List Value=>Value.agg #[x.1,x.2.1]) (fun x l=>Ar cA x.1 r.1::Ar dK.raw x.2.1 x.2.2::jP bU x.2.2 r.2::l):=by
 refine Bu.of (vs:=[Value.agg #[Value.int .i64 (p0.1),v0,v1,v2,Value.bool (p0.2.2.2.2.1),Value.bool (p0.2.2.2.2.2)],Value.agg #[v3,v4]]) Tryz.func26 rfl Tryz.ntmps26 rfl fun c=>?_
 unfold iY at h
 refine sqR<|aL (aQ.box (cs:=[Value.int .i64 (p0.1),v0,v1,v2,Value.bool (p0.2.2.2.2.1),Value.bool (p0.2.2.2.2.2)]) rfl rfl) rfl fun b1=>aL (aQ.box (cs:=[v3,v4]) rfl rfl) rfl fun b2=>aL (aQ.alloc (cs:=[Value.slice none 0 0,Value.slice none 0 0]) rfl rfl) rfl fun b3=>dtN<|sqR<|qkFld rfl<|qkLd 1 rfl<|aB (jX rfl (bH (i:=4) (j:=5) rfl rfl bO) rfl) rfl<|qkAsg rfl<|dtN<|aO<|bL (A:=(List (List (Int×Int)))) (B:=List Value) (fun a6=>qV p1 a6=some r) (fun a6 b7=>[(3,Value.pointer (some ⟨b2,0,none⟩)),(4,Value.pointer (some ⟨b3,0,none⟩))]) (fun a6 b7=>[bR b3 [Value.slice none 0 0,Value.slice none 0 0] 28,bR b2 [v3,v4] 28,Ar cA v3 p1.1,Ar dK.raw v4 b7,jP bU b7 a6]) (fun a6 b7=>[Sl aR v0 p0.2.1,Sl aR v1 p0.2.2.1,Sl aR v2 p0.2.2.2.1]) ?_ ?_
 ·refine sqR<|qkMove rfl<|qkAsg rfl<|dtN<|aU<|bY (A:=Int×(List (List (Int×Int)))) (B:=List Value) (kE fuel p0 p1) (fun a14 b15=>[(2,Value.pointer (some ⟨b1,0,none⟩)),(3,Value.pointer (some ⟨b2,0,none⟩)),(4,Value.pointer (some ⟨b3,0,none⟩)),(5,Value.int .i64 (List.length p1.2:Int)),(6,Value.int .i64 (a14.1))]) (fun a14 b15=>[bR b3 [Value.slice none 0 0,Value.slice none 0 0] 28,bR b2 [v3,v4] 28,bR b1 [Value.int .i64 (p0.1),v0,v1,v2,Value.bool (p0.2.2.2.2.1),Value.bool (p0.2.2.2.2.2)] 24,Ar cA v3 p1.1,Ar dK.raw v4 b15,jP bU b15 a14.2]) (fun a14 b15=>[Sl aR v0 p0.2.1,Sl aR v1 p0.2.2.1,Sl aR v2 p0.2.2.2.1]) ((List.length p1.2:Int),p1.2) (w5) h SF (aP.refl _) (aA.refl _ _) ?_
  clear h
  intro k16 a14 b15 h
  unfold kE at h
  refine aO<|aO<|bL (A:=Bool) (B:=Unit) (fun a18=>iC fuel p0 p1 a14 (bK (kE fuel p0 p1) k16) a18=some r) (fun a18 b19=>[(2,Value.pointer (some ⟨b1,0,none⟩)),(3,Value.pointer (some ⟨b2,0,none⟩)),(4,Value.pointer (some ⟨b3,0,none⟩)),(5,Value.int .i64 (List.length p1.2:Int)),(6,Value.int .i64 (a14.1)),(20,Value.bool (a18))]) (fun a18 b19=>[bR b3 [Value.slice none 0 0,Value.slice none 0 0] 28,bR b2 [v3,v4] 28,bR b1 [Value.int .i64 (p0.1),v0,v1,v2,Value.bool (p0.2.2.2.2.1),Value.bool (p0.2.2.2.2.2)] 24,Ar cA v3 p1.1,Ar dK.raw v4 b15,jP bU b15 a14.2]) (fun a18 b19=>[Sl aR v0 p0.2.1,Sl aR v1 p0.2.2.1,Sl aR v2 p0.2.2.2.1]) ?_ ?_
  ·refine aS<|qkMove rfl<|qkAdd rfl<|qkFld rfl<|qkLd 2 rfl<|aB (cB rfl (aC.fact 0 rfl) rfl) rfl<|qkLss rfl<|qkMove rfl ?_
   refine Bg h rfl (fun _ h=>?_) fun _ h=>?_
   ·refine gyMove rfl<|a_ rfl (Ge rfl rfl) rfl<|aB (cI rfl rfl) rfl<|dtN ?_
    exact jA (decide (a14.1<(60:Int))) (()) h SF rfl
   refine gdSkip rfl<|gdSkip rfl<|aB (cX rfl rfl) rfl<|dtN ?_
   exact jA (false) (()) h SF rfl
  clear h
  intro a18 b19 h
  unfold iC at h
  refine zN h rfl (fun _ h=>?_) fun _ h=>?_
  ·refine aW<|aI<|aO<|aU ?_
   refine JR.start [0,0,0,4,0,28,60,0,252,0,512,0,2048,7680,15872,0,65532,0,131072,0,1048572,2097148,4194300,8388607] 23 mixedOrders (by decide +kernel) ?_
   refine JR.open (by exact rfl) ?_
   refine jkLdA 2 rfl<|jkLdA 1 rfl<|jkFld rfl<|jkLd 2 rfl<|jkMove rfl ?_
   have⟨hc21,h⟩:=aN h
   refine aT rfl .nil (cW.cons (List.mem_of_getElem? (i:=0) rfl) .nil) (bE rfl rfl (aC.fact 0 rfl) rfl rfl hc21) aF.z<|aT rfl .nil (cW.cons (List.mem_of_getElem? (i:=0) rfl) .nil) (bZ rfl (aC.fact 0 rfl) rfl rfl rfl dU hc21) aF.z<|jkMove rfl ?_
   have⟨r22,hr23,h⟩:=fJ h
   refine JR.loud rfl rfl rfl (aJ Ad (jN fuel  r22 hr23) rfl .nil (fun _ _=>rfl)) rfl (fun x24=>(aE.b rfl (aE.b rfl (aE.b rfl (aE.b rfl (aE.b rfl (aE.b rfl (aE.h (aP.ix [1] rfl rfl) .nil (aE.h (aP.ix [2] rfl rfl) .nil aE.z))))))))) fun x24=>aT rfl .nil .nil (eF rfl rfl rfl rfl rfl) (aF.h .nil .nil aF.z)<|aT rfl (aP.cons 2 rfl .nil) .nil (eJ 0 rfl rfl rfl rfl rfl) (aF.h (aP.ix [2] rfl rfl) .nil aF.z)<|aT rfl .nil .nil (lP rfl) (aF.h .nil .nil aF.z)<|aT rfl .nil .nil (pG rfl rfl) (aF.h .nil .nil aF.z) ?_
   have⟨hc25,h⟩:=aN h
   refine aT rfl .nil (cW.cons (List.mem_of_getElem? (i:=0) rfl) .nil) (bE rfl rfl (aC.fact 0 rfl) rfl rfl hc25) (aF.h .nil (cW.cons (List.mem_of_getElem? (i:=0) rfl) .nil) aF.z)<|aT rfl .nil (cW.cons (List.mem_of_getElem? (i:=0) rfl) .nil) (bZ rfl (aC.fact 0 rfl) rfl rfl rfl dU hc25) (aF.h .nil (cW.cons (List.mem_of_getElem? (i:=0) rfl) .nil) aF.z)<|aT rfl .nil .nil (lP rfl) (aF.h .nil .nil aF.z) ?_
   have⟨r26,hr27,h⟩:=fJ h
   refine JR.loud rfl rfl rfl (aJ Ad (jN fuel  r26 hr27) rfl .nil (fun _ _=>rfl)) rfl (fun x28=>(aE.b rfl (aE.b rfl (aE.b rfl (aE.b rfl (aE.b rfl (aE.b rfl (aE.b rfl (aE.b rfl (aE.b rfl (aE.b rfl (aE.b rfl (aE.b rfl (aE.b rfl (aE.h (aP.ix [1] rfl rfl) .nil (aE.h (aP.ix [2] rfl rfl) .nil aE.z)))))))))))))))) fun x28=>aT rfl .nil .nil (eF rfl rfl rfl rfl rfl) (aF.h .nil .nil (aF.h .nil .nil aF.z))<|aT rfl (aP.cons 2 rfl .nil) .nil (eJ 0 rfl rfl rfl rfl rfl) (aF.h (aP.ix [2] rfl rfl) .nil (aF.h (aP.ix [2] rfl rfl) .nil aF.z))<|aT rfl .nil .nil (lP rfl) (aF.h .nil .nil (aF.h .nil .nil aF.z)) ?_
   have⟨r29,hr30,h⟩:=fJ h
   refine JR.loud rfl rfl rfl (aJ EH (wR fuel v1 r29 hr30) rfl (aA.cons (aC.fact 1 rfl) .nil) (fun _ _=>rfl)) rfl (fun x31=>(aE.b rfl (aE.b rfl (aE.b rfl (aE.b rfl (aE.b rfl (aE.b rfl (aE.b rfl (aE.b rfl (aE.b rfl (aE.b rfl (aE.b rfl (aE.b rfl (aE.b rfl (aE.b rfl (aE.b rfl (aE.b rfl (aE.h (aP.ix [1] rfl rfl) .nil (aE.h (aP.ix [2] rfl rfl) .nil aE.z))))))))))))))))))) fun x31=>?_
   have⟨r32,hr33,h⟩:=fJ h
   refine JR.loud rfl rfl rfl (aJ Ad (jN fuel  r32 hr33) rfl .nil (fun _ _=>rfl)) rfl (fun x34=>(aE.b rfl (aE.b rfl (aE.b rfl (aE.b rfl (aE.b rfl (aE.b rfl (aE.b rfl (aE.b rfl (aE.b rfl (aE.b rfl (aE.b rfl (aE.b rfl (aE.b rfl (aE.b rfl (aE.b rfl (aE.b rfl (aE.h (aP.ix [1] rfl rfl) .nil (aE.h (aP.ix [2] rfl rfl) .nil aE.z))))))))))))))))))) fun x34=>aT rfl .nil .nil (pG rfl rfl) (aF.b rfl (aF.b rfl (aF.b rfl (aF.b rfl aF.z))))<|bS 23 rfl rfl ?_
   have⟨r35,hr36,h⟩:=fJ h
   refine aL (yJ (Min:=[Ar dK.raw v4 b15,jP bU b15 a14.2]) (Mr:=[bR b3 [Value.slice none 0 0,Value.slice none 0 0] 28,bR b2 [v3,v4] 28,bR b1 [Value.int .i64 (p0.1),v0,v1,v2,Value.bool (p0.2.2.2.2.1),Value.bool (p0.2.2.2.2.2)] 24,Ar cA v3 p1.1]) OX (wN fuel v0 v1 v2 v3 v4 b15 r35 hr36) rfl (aP.ix [4,5,0,1,2,3] rfl rfl) (aA.cons (aC.fact 0 rfl) (aA.cons (aC.fact 1 rfl) (aA.cons (aC.fact 2 rfl) (aA.cons (aZ (aC.res 3 rfl) cR) .nil)))) (fun _ _=>rfl)) rfl fun x37=>eD<|bV<|aI<|aS<|qkMove rfl<|qkAdd rfl<|qkAsg rfl<|dtN ?_
   exact nC ((wI .i64 (a14.1+(2:Int))),r35) (x37) h SF (aP.ix [2,3,4,5,0,1] rfl rfl) (aA.refl _ _)
  refine cE<|aY<|aY<|dJ<|aI ?_
  exact cM (a14.2) (b15) h SF (aP.ix [0,1,3,4,5] rfl rfl) (aA.refl _ _)
 clear h
 intro a6 b7 h
 unfold qV at h
 refine sqR<|qkLdA 1 rfl<|b_ (Know.one ((aZ (aC.res 2 rfl) cR))) fun ho8=>b_ (Know.one (aC.sl (bH (i:=3) (j:=4) rfl rfl bO))) fun ho9=>bM 0 (vs:=[v3,v4]) rfl rfl (cQ ho8 (cQ ho9 rfl)) rfl rfl rfl<|dtN<|aX ?_
 cases h
 exact fO (v3,v4,b7) rfl rfl (RV.cell 0 rfl rfl rfl rfl) (aP.ix [2,3,4] rfl rfl) aA.nil
end Go.Proofs.YtigggfnchamobaaGreatDoor
end
section
namespace Go.Proofs.YtigggfnchamobaaGreatDoor
open Go.Sx
def gW (fuel:Nat) (p0:Int×List (Int)×List (Int)×List (Int)×Bool×Bool) (p1:Int):Option ((List (Int)×(List (List (Int×Int))))):=
 Option.bind (iW fuel ((p0.1,p0.2.1,p0.2.2.1,p0.2.2.2.1,p0.2.2.2.2.1,p0.2.2.2.2.2)) p1) fun r3=>(Option.bind (iY fuel ((p0.1,p0.2.1,p0.2.2.1,p0.2.2.2.1,p0.2.2.2.2.1,p0.2.2.2.2.2)) ((r3.1,r3.2))) fun r6=>(some ((r6.1,r6.2))))
theorem Wq:aV Tryz.prog 7:=Tryz.call7
theorem yA (fuel:Nat) {p0:Int×List (Int)×List (Int)×List (Int)×Bool×Bool} {p1:Int} (v0:Value)  (v1:Value)  (v2:Value) (r:(List (Int)×(List (List (Int×Int))))) (h:gW fuel p0 p1=some r):
  bA Tryz.prog 7 #[Value.agg #[Value.int .i64 (p0.1),v0,v1,v2,Value.bool (p0.2.2.2.2.1),Value.bool (p0.2.2.2.2.2)],Value.int .i64 (p1)] [Sl aR v0 p0.2.1,Sl aR v1 p0.2.2.1,Sl aR v2 p0.2.2.2.1] (fun x:Value×Value×List Value=>Value.agg #[x.1,x.2.1]) (fun x l=>Ar cA x.1 r.1::Ar dK.raw x.2.1 x.2.2::jP bU x.2.2 r.2::l) (fun _ l=>l):=by
 refine bA.of (vs:=[Value.agg #[Value.int .i64 (p0.1),v0,v1,v2,Value.bool (p0.2.2.2.2.1),Value.bool (p0.2.2.2.2.2)],Value.int .i64 (p1)]) Tryz.func7 rfl Tryz.ntmps7 rfl fun c=>?_
 unfold gW at h
 refine sqR<|aL (aQ.box (cs:=[Value.int .i64 (p0.1),v0,v1,v2,Value.bool (p0.2.2.2.2.1),Value.bool (p0.2.2.2.2.2)]) rfl rfl) rfl fun b1=>aL (aQ.alloc (cs:=[Value.slice none 0 0,Value.slice none 0 0]) rfl rfl) rfl fun b2=>dtN<|aO ?_
 refine JR.start [0,0,0,6,15,31] 4 mixedOrders (by decide +kernel) ?_
 refine JR.open (by exact rfl) ?_
 refine jkLdA 1 rfl<|jkLdA 1 rfl<|jkMove rfl ?_
 have⟨r3,hr4,h⟩:=fJ h
 refine JR.loud rfl rfl rfl (aJ OU (wM fuel v0 v1 v2 r3 hr4) rfl (aA.cons (aC.fact 0 rfl) (aA.cons (aC.fact 1 rfl) (aA.cons (aC.fact 2 rfl) .nil))) (fun _ _=>rfl)) rfl (fun x5=>(aE.b rfl (aE.b rfl (aE.h (aP.ix [4] rfl rfl) .nil aE.z)))) fun x5=>bS 4 rfl rfl ?_
 have⟨r6,hr7,h⟩:=fJ h
 refine aL (yJ (Min:=[Ar cA x5.1 r3.1,Ar dK.raw x5.2.1 x5.2.2,jP bU x5.2.2 r3.2]) (Mr:=[bR b2 [Value.slice none 0 0,Value.slice none 0 0] 28,bR b1 [Value.int .i64 (p0.1),v0,v1,v2,Value.bool (p0.2.2.2.2.1),Value.bool (p0.2.2.2.2.2)] 24]) OT (wO fuel v0 v1 v2 x5.1 x5.2.1 x5.2.2 r6 hr7) rfl (aP.refl _) (aA.cons (aC.fact 0 rfl) (aA.cons (aC.fact 1 rfl) (aA.cons (aC.fact 2 rfl) .nil))) (fun _ _=>rfl)) rfl fun x8=>b_ (Know.one ((aZ (aC.res 0 rfl) cR))) fun ho9=>b_ (Know.one (aC.sl (bH (i:=1) (j:=2) rfl rfl bO))) fun ho10=>bM 3 (vs:=[x8.1,x8.2.1]) rfl rfl (cQ ho9 (cQ ho10 rfl)) rfl rfl rfl<|dtN<|aX ?_
 cases h
 exact fO (x8.1,x8.2.1,x8.2.2) rfl rfl (RV.cell 3 rfl rfl rfl rfl) (aP.ix [0,1,2] rfl rfl) aA.nil
end Go.Proofs.YtigggfnchamobaaGreatDoor
end
section
namespace Go.Proofs.YtigggfnchamobaaGreatDoor
open Go.Sx
def jT (fuel:Nat) (p0:Int×List (Int)×List (Int)×List (Int)×Bool×Bool) (p1:Int):Option ((List (Int)×(List (List (Int×Int))))):=
 if(!p0.2.2.2.2.1)=true then(Option.bind (gW fuel ((p0.1,p0.2.1,p0.2.2.1,p0.2.2.2.1,p0.2.2.2.2.1,p0.2.2.2.2.2)) p1) fun r4=>(some ((r4.1,r4.2))))else(Option.bind (iG fuel ((p0.1,p0.2.1,p0.2.2.1,p0.2.2.2.1,p0.2.2.2.2.1,p0.2.2.2.2.2)) p1) fun r9=>(Option.bind (iY fuel ((p0.1,p0.2.1,p0.2.2.1,p0.2.2.2.1,p0.2.2.2.2.1,p0.2.2.2.2.2)) ((r9.1,r9.2))) fun r12=>(some ((r12.1,r12.2)))))
theorem Um:aV Tryz.prog 17:=Tryz.call17
theorem CC (fuel:Nat) {p0:Int×List (Int)×List (Int)×List (Int)×Bool×Bool} {p1:Int} (v0:Value)  (v1:Value)  (v2:Value) (r:(List (Int)×(List (List (Int×Int))))) (h:jT fuel p0 p1=some r):
  bA Tryz.prog 17 #[Value.agg #[Value.int .i64 (p0.1),v0,v1,v2,Value.bool (p0.2.2.2.2.1),Value.bool (p0.2.2.2.2.2)],Value.int .i64 (p1)] [Sl aR v0 p0.2.1,Sl aR v1 p0.2.2.1,Sl aR v2 p0.2.2.2.1] (fun x:Value×Value×List Value=>Value.agg #[x.1,x.2.1]) (fun x l=>Ar cA x.1 r.1::Ar dK.raw x.2.1 x.2.2::jP bU x.2.2 r.2::l) (fun _ l=>l):=by
 refine bA.of (vs:=[Value.agg #[Value.int .i64 (p0.1),v0,v1,v2,Value.bool (p0.2.2.2.2.1),Value.bool (p0.2.2.2.2.2)],Value.int .i64 (p1)]) Tryz.func17 rfl Tryz.ntmps17 rfl fun c=>?_
 unfold jT at h
 refine sqR<|aL (aQ.box (cs:=[Value.int .i64 (p0.1),v0,v1,v2,Value.bool (p0.2.2.2.2.1),Value.bool (p0.2.2.2.2.2)]) rfl rfl) rfl fun b1=>aL (aQ.alloc (cs:=[Value.slice none 0 0,Value.slice none 0 0]) rfl rfl) rfl fun b2=>dtN<|aO<|sqR<|qkFld rfl<|qkLd 1 rfl<|aB (qR rfl) rfl<|dtN ?_
 refine zN h rfl (fun _ h=>?_) fun _ h=>?_
 ·refine sqR<|qkLdA 1 rfl<|qkMove rfl ?_
  have⟨r4,hr5,h⟩:=fJ h
  refine aL (aJ Wq (yA fuel v0 v1 v2 r4 hr5) rfl (aA.cons (aC.fact 0 rfl) (aA.cons (aC.fact 1 rfl) (aA.cons (aC.fact 2 rfl) .nil))) (fun _ _=>rfl)) rfl fun x6=>b_ (Know.one ((aZ (aC.res 0 rfl) cR))) fun ho7=>b_ (Know.one (aC.sl (bH (i:=1) (j:=2) rfl rfl bO))) fun ho8=>bM 3 (vs:=[x6.1,x6.2.1]) rfl rfl (cQ ho7 (cQ ho8 rfl)) rfl rfl rfl<|dtN<|aX<|aM ?_
  cases h
  exact fO (x6.1,x6.2.1,x6.2.2) rfl rfl (RV.cell 3 rfl rfl rfl rfl) (aP.ix [0,1,2] rfl rfl) aA.nil
 refine aW<|aI<|aO ?_
 refine JR.start [0,0,0,6,15,31] 4 mixedOrders (by decide +kernel) ?_
 refine JR.open (by exact rfl) ?_
 refine jkLdA 1 rfl<|jkLdA 1 rfl<|jkMove rfl ?_
 have⟨r9,hr10,h⟩:=fJ h
 refine JR.loud rfl rfl rfl (aJ OW (vL fuel v0 v1 v2 r9 hr10) rfl (aA.cons (aC.fact 0 rfl) (aA.cons (aC.fact 1 rfl) (aA.cons (aC.fact 2 rfl) .nil))) (fun _ _=>rfl)) rfl (fun x11=>(aE.b rfl (aE.b rfl (aE.h (aP.ix [4] rfl rfl) .nil aE.z)))) fun x11=>bS 4 rfl rfl ?_
 have⟨r12,hr13,h⟩:=fJ h
 refine aL (yJ (Min:=[Ar cA x11.1 r9.1,Ar dK.raw x11.2.1 x11.2.2,jP bU x11.2.2 r9.2]) (Mr:=[bR b2 [Value.slice none 0 0,Value.slice none 0 0] 28,bR b1 [Value.int .i64 (p0.1),v0,v1,v2,Value.bool (p0.2.2.2.2.1),Value.bool (p0.2.2.2.2.2)] 24]) OT (wO fuel v0 v1 v2 x11.1 x11.2.1 x11.2.2 r12 hr13) rfl (aP.refl _) (aA.cons (aC.fact 0 rfl) (aA.cons (aC.fact 1 rfl) (aA.cons (aC.fact 2 rfl) .nil))) (fun _ _=>rfl)) rfl fun x14=>b_ (Know.one ((aZ (aC.res 0 rfl) cR))) fun ho15=>b_ (Know.one (aC.sl (bH (i:=1) (j:=2) rfl rfl bO))) fun ho16=>bM 3 (vs:=[x14.1,x14.2.1]) rfl rfl (cQ ho15 (cQ ho16 rfl)) rfl rfl rfl<|dtN<|aX ?_
 cases h
 exact fO (x14.1,x14.2.1,x14.2.2) rfl rfl (RV.cell 3 rfl rfl rfl rfl) (aP.ix [0,1,2] rfl rfl) aA.nil
end Go.Proofs.YtigggfnchamobaaGreatDoor
end
section
namespace Go.Proofs.YtigggfnchamobaaGreatDoor
open Go.Sx
def vU (fuel:Nat)  : Option ((List (ByteArray×Int×Int×Int×Int×Int))):=
 Option.bind (wE fuel (ByteArray.mk #[99]) (0:Int) (1:Int) (0:Int)) fun r1=>(some ([(r1.1,r1.2.1,r1.2.2.1,r1.2.2.2.1,r1.2.2.2.2.1,r1.2.2.2.2.2)]))
theorem Un:aV Tryz.prog 18:=Tryz.call18
theorem H_ (fuel:Nat)  (r:(List (ByteArray×Int×Int×Int×Int×Int))) (h:vU fuel  = some r):
  bA Tryz.prog 18 #[] [] (fun x:Value=>x) (fun x l=>Ar qT x r::l) (fun _ l=>l):=by
 refine bA.of (vs:=[]) Tryz.func18 rfl Tryz.ntmps18 rfl fun c=>?_
 unfold vU at h
 refine sqR<|qkAsg rfl<|dtN<|sqR ?_
 have⟨r1,hr2,h⟩:=fJ h
 refine aL (aJ Up (Fz fuel  r1 hr2) rfl .nil (fun _ _=>rfl)) rfl fun x3=>aL (cJ (e:=qT) ([((r1.1,r1.2.1,r1.2.2.1,r1.2.2.2.1,r1.2.2.2.2.1,r1.2.2.2.2.2))]) [(0,Value.agg #[Value.string (r1.1),Value.int .i64 (r1.2.1),Value.int .i64 (r1.2.2.1),Value.int .i64 (r1.2.2.2.1),Value.int .i64 (r1.2.2.2.2.1),Value.int .i64 (r1.2.2.2.2.2)])] rfl rfl rfl rfl (PC (Value.string (r1.1)) (Value.int .i64 (r1.2.1)) (Value.int .i64 (r1.2.2.1)) (Value.int .i64 (r1.2.2.2.1)) (Value.int .i64 (r1.2.2.2.2.1)) (Value.int .i64 (r1.2.2.2.2.2))) rfl rfl rfl) rfl fun u4=>qkAsg rfl<|dtN<|aX ?_
 cases h
 exact fO (u4) rfl rfl (RV.tmp rfl) (aP.refl _) aA.nil
end Go.Proofs.YtigggfnchamobaaGreatDoor
end
section
namespace Go.Proofs.YtigggfnchamobaaGreatDoor
open Go.Sx
def sR (fuel:Nat) (p0:List (Int)×(List (List (Int×Int)))):Option (Int):=
 ck (0<=(List.length p0.1:Int)) (some (wI .u32 ((yP .u32 (1:Int) (List.length p0.1:Int)) - (1:Int))))
theorem Us:aV Tryz.prog 43:=Tryz.call43
theorem JN (fuel:Nat) {p0:List (Int)×(List (List (Int×Int)))} (v0:Value)  (v1:Value)  (z2:List (Value×List (Int×Int))) (r:Int) (h:sR fuel p0=some r):
  bA Tryz.prog 43 #[Value.agg #[v0,v1]] [Sl aR v0 p0.1,S2 aK v1 z2 p0.2] (fun x:Unit=>Value.int .u32 (r)) (fun x l=>l) (fun _ l=>l):=by
 refine bA.of (vs:=[Value.agg #[v0,v1]]) Tryz.func43 rfl Tryz.ntmps43 rfl fun c=>?_
 unfold sR at h
 refine sqR<|aL (aQ.box (cs:=[v0,v1]) rfl rfl) rfl fun b1=>qkAsg rfl<|dtN<|sqR<|qkFld rfl<|qkLd 0 rfl<|aB (cB rfl (aC.fact 0 rfl) rfl) rfl ?_
 have⟨hc2,h⟩:=aN h
 refine aB (IR rfl rfl hc2) rfl<|aB (pV rfl rfl) rfl<|qkAsg rfl<|dtN<|aX ?_
 cases h
 exact u_ rfl
end Go.Proofs.YtigggfnchamobaaGreatDoor
end
section
section
namespace Go.Proofs.YtigggfnchamobaaGreatDoor
open Go.Sx
theorem Ei {R:Type} {step:Int->(Int->Option R)->Option R} {K:Option R} {bad:R} (N:Nat) (p:Nat->Prop)
  (hok:∀(k:Nat) ag,k<N->p k->step k ag=ag ((k:Int)+1)) (hbad:∀(k:Nat) ag,k<N->¬p k->step k ag=some bad) (hend:∀ag,step N ag=K):
  ∀(fuel:Nat),N<fuel->((∀k,k<N->p k)->bK step fuel 0=K)∧(¬(∀k,k<N->p k)->bK step fuel 0=some bad):=by
 intro fuel hf
 have key:∀(d a fuel:Nat),a+d=N->d<fuel->((∀k,a<=k->k<N->p k)->bK step fuel (a:Int)=K)∧(¬(∀k,a<=k->k<N->p k)->bK step fuel (a:Int)=some bad):=by
  intro d
  induction d with
  |zero=>
   intro a fuel ha hf
   obtain rfl:a=N:=by omega
   cases fuel with
   |zero=>omega
   |succ f=>exact⟨fun _=>hend _,fun h=>absurd (fun k h1 h2=>by omega) h⟩
  | succ d ih =>
   intro a fuel ha hf
   cases fuel with
   |zero=>omega
   | succ f =>
    obtain⟨i1,i2⟩:=ih (a+1) f (by omega) (by omega)
    have e:((a+1:Nat):Int)=(a:Int)+1:=by omega
    rw[e]at i1 i2
    by_cases hp:p a
    ·have hs:bK step (f+1) (a:Int)=bK step f ((a:Int)+1):=hok a _ (by omega) hp
     rw[hs]
     refine⟨fun h=>i1 fun k h1 h2=>h k (by omega) h2,fun h=>i2 fun h'=>h fun k h1 h2=> ?_⟩
     by_cases hk:k=a
     ·subst hk;exact hp
     ·exact h' k (by omega) h2
    ·exact⟨fun h=>absurd (h a (Nat.le_refl _) (by omega)) hp,fun _=>hbad a _ (by omega) hp⟩
 obtain⟨h1,h2⟩:=key N 0 fuel (by omega) hf
 exact⟨fun h=>h1 fun k _ hk=>h k hk,fun h=>h2 fun h'=>h fun k hk=>h' k (by omega) hk⟩
abbrev GR:=List Int×List (List (Int×Int))
abbrev row (g:GR) (v:Nat):List (Int×Int):=at' g.2 (v:Int)
abbrev SP (g:GR) (v:Nat):Int:=at' g.1 (v:Int)
abbrev iS (l:List (Int×Int)) (i:Nat):Int×Int:=at' l (i:Int)
def WL (g:GR):Prop:=g.1.length<=30∧g.2.length<=30∧∀v,v<g.2.length->(row g v).length<=30
def Ev (l:List (Int×Int)) (v n i:Nat):Prop:=(0<=(iS l i).1∧(iS l i).1<=(n:Int) - 1)∧(iS l i).1≠v∧(1<=(iS l i).2∧(iS l i).2<=15)∧∀k,k<i->(iS l k).1≠(iS l i).1
def rO (l:List (Int×Int)) (v n:Nat):Prop:=∀i,i<l.length->Ev l v n i
def yZ (l:List (Int×Int)) (u:Int):Int:=match l.findIdx? (fun x=>decide (x.1=u))with
 |some i=>i
 |none=> -1
theorem Jy {l:List (Int×Int)} {u:Int} (i:Nat) (hi:i<l.length) (hu:(iS l i).1=u) (hf:∀k,k<i->(iS l k).1≠u):yZ l u=i:=by
 have:l.findIdx? (fun x=>decide (x.1=u))=some i:=by
  rw[List.findIdx?_eq_some_iff_getElem]
  have e:∀k (hk:k<l.length),iS l k=l[k]:=fun k hk=>by rw[iS,jF,List.getD_eq_getElem?_getD,List.getElem?_eq_getElem hk];rfl
  refine⟨hi,by rw[<-e i hi];simpa using hu,fun k hk=> ?_⟩
  have:=hf k hk
  rw[e k (by omega)]at this
  simpa using this
 rw[yZ,this]
theorem Jx {l:List (Int×Int)} {u:Int} (hf:∀k,k<l.length->(iS l k).1≠u):yZ l u = -1:=by
 have:l.findIdx? (fun x=>decide (x.1=u))=none:=by
  rw[List.findIdx?_eq_none_iff]
  intro x hx
  obtain⟨k,hk,rfl⟩:=List.getElem_of_mem hx
  have:=hf k hk
  rw[iS,jF,List.getD_eq_getElem?_getD,List.getElem?_eq_getElem hk]at this
  simpa using this
 rw[yZ,this]
theorem HS (l:List (Int×Int)) (u:Int):(∃i,i<l.length∧(iS l i).1=u∧(∀k,k<i->(iS l k).1≠u)∧yZ l u=i)∨((∀k,k<l.length->(iS l k).1≠u)∧yZ l u = -1):=by
 by_cases h:∀k,k<l.length->(iS l k).1≠u
 ·exact .inr ⟨h,Jx h⟩
 ·left
  have hex:∃k,k<l.length∧(iS l k).1=u:=by
   apply Classical.byContradiction
   intro hc
   exact h fun k hk he=>hc ⟨k,hk,he⟩
  obtain⟨k,hk,hku⟩:=hex
  have:∀m,(∃k,k<=m∧k<l.length∧(iS l k).1=u)->∃i,i<l.length∧(iS l i).1=u∧∀k,k<i->(iS l k).1≠u:=by
   intro m
   induction m with
   |zero=>rintro⟨k,h1,h2,h3⟩;exact⟨k,h2,h3,fun j hj=>by omega⟩
   |succ m ih=>
    rintro⟨k,h1,h2,h3⟩
    by_cases hlt:∃j,j<=m∧j<l.length∧(iS l j).1=u
    ·exact ih hlt
    ·exact⟨k,h2,h3,fun j hj he=>hlt ⟨j,by omega,by omega,he⟩⟩
  obtain⟨i,h1,h2,h3⟩:=this k ⟨k,Nat.le_refl _,hk,hku⟩
  exact⟨i,h1,h2,h3,Jy i h1 h2 h3⟩
end Go.Proofs.YtigggfnchamobaaGreatDoor
end
section
namespace Go.Proofs.YtigggfnchamobaaGreatDoor
open Go.Sx
theorem Ck {X R:Type} {step:X->(X->Option R)->Option R} {K:X->Option R} {bad:R} (N:Nat) (p:Nat->Prop) (I:Nat->X->Prop)
  (hok:∀(k:Nat) x ag,k<N->I k x->p k->∃x',I (k+1) x'∧step x ag=ag x') (hbad:∀(k:Nat) x ag,k<N->I k x->¬p k->step x ag=some bad) (hend:∀x ag,I N x->step x ag=K x):
  ∀(fuel:Nat) (x:X),I 0 x->N<fuel->((∀k,k<N->p k)->∃x',I N x'∧bK step fuel x=K x')∧(¬(∀k,k<N->p k)->bK step fuel x=some bad):=by
 intro fuel x hI hf
 have key:∀(d a fuel:Nat) (x:X),a+d=N->d<fuel->I a x->((∀k,a<=k->k<N->p k)->∃x',I N x'∧bK step fuel x=K x')∧(¬(∀k,a<=k->k<N->p k)->bK step fuel x=some bad):=by
  intro d
  induction d with
  |zero=>
   intro a fuel x ha hf hI
   obtain rfl:a=N:=by omega
   cases fuel with
   |zero=>omega
   |succ f=>exact⟨fun _=>⟨x,hI,hend _ _ hI⟩,fun h=>absurd (fun k h1 h2=>by omega) h⟩
  | succ d ih =>
   intro a fuel x ha hf hI
   cases fuel with
   |zero=>omega
   | succ f =>
    by_cases hp:p a
    ·obtain⟨x',hI',hs⟩:=hok a x (bK step f) (by omega) hI hp
     have hs:bK step (f+1) x=bK step f x':=hs
     obtain⟨i1,i2⟩:=ih (a+1) f x' (by omega) (by omega) hI'
     rw[hs]
     refine⟨fun h=>i1 fun k h1 h2=>h k (by omega) h2,fun h=>i2 fun h'=>h fun k h1 h2=> ?_⟩
     by_cases hk:k=a
     ·subst hk;exact hp
     ·exact h' k (by omega) h2
    ·exact⟨fun h=>absurd (h a (Nat.le_refl _) (by omega)) hp,fun _=>hbad a x _ (by omega) hI hp⟩
 obtain⟨h1,h2⟩:=key N 0 fuel x (by omega) hf hI
 exact⟨fun h=>h1 fun k _ hk=>h k hk,fun h=>h2 fun h'=>h fun k hk=>h' k (by omega) hk⟩
def Gc (g:GR) (v i:Nat):Prop:=∃j,j<(at' g.2 (iS (row g v) i).1).length∧(iS (at' g.2 (iS (row g v) i).1) j).1=v∧(iS (at' g.2 (iS (row g v) i).1) j).2=(iS (row g v) i).2
structure T_ (g:GR) (v:Nat):Prop where
 id:0<=SP g v∧SP g v<=255
 deg:(row g v).length<g.2.length
 links:rO (row g v) v g.2.length
 ids:∀k,k<v->SP g k≠SP g v
structure VG (g:GR):Prop where
 n1:1<=g.2.length
 n24:g.2.length<=24
 len:g.1.length=g.2.length
 node:∀v,v<g.2.length->T_ g v
 sym:∀v,v<g.2.length->∀i,i<(row g v).length->Gc g v i
theorem Bz {α:Type} [Inhabited α] (l:List α) (i k:Nat) (y:α) (hi:i<l.length):at' (l.set i y) (k:Int)=if k=i then y else at' l (k:Int):=by
 rw[jF,jF,List.getD_eq_getElem?_getD,List.getD_eq_getElem?_getD,List.getElem?_set]
 by_cases h:i=k
 ·rw[if_pos h,if_pos h.symm,if_pos (by omega)];rfl
 ·rw[if_neg h,if_neg (Ne.symm h)]
def Oe (l:List Int) (k:Nat):Prop:=(0<=at' l (k:Int)∧at' l (k:Int)<=255)∧∀j,j<k->at' l (j:Int)≠at' l (k:Int)
theorem rQ (l:List Int) (hl:l.length<=30):((∀k,k<l.length->Oe l k)->gZ 1000 l=some true)∧(¬(∀k,k<l.length->Oe l k)->gZ 1000 l=some false):=by
 unfold gZ
 have key:=Ck (step:=dZ l) (K:=fun _=>some true) (bad:=false) l.length (Oe l) (fun k x=>x.1=(k:Int)∧x.2.length=256∧∀z:Nat,z<256->(at' x.2 (z:Int)=true↔∃j,j<k∧at' l (j:Int)=(z:Int))) ?_ ?_ ?_ 1000 ((0:Int),(List.replicate 256 false)) ⟨rfl,List.length_replicate ..,fun z hz=> ?_⟩ (by omega)
 ·exact⟨fun h=>by obtain⟨x,_,hx⟩:=key.1 h;exact hx,key.2⟩
 ·rintro k ⟨x1,x2⟩ ag hk ⟨hx,hlen,hs⟩ ⟨hr,hd⟩
  dsimp only at hx hlen hs
  subst hx
  obtain⟨z,hz⟩:∃z:Nat,at' l (k:Int)=z:=⟨(at' l (k:Int)).toNat,by omega⟩
  have hz2:z<256:=by omega
  have hno:¬at' x2 (z:Int)=true:=by
   rw[hs z hz2]
   rintro⟨j,hj,he⟩
   exact hd j hj (he.trans hz.symm)
  refine⟨((k:Int)+1,x2.set z true),⟨by simp,by simp[hlen],fun y hy=> ?_⟩,?_⟩
  ·dsimp only
   rw[Bz _ _ _ _ (by omega)]
   by_cases hyz:y=z
   ·subst hyz
    rw[if_pos rfl]
    exact⟨fun _=>⟨k,by omega,hz⟩,fun _=>rfl⟩
   ·rw[if_neg hyz,hs y hy]
    constructor
    ·rintro⟨j,hj,he⟩;exact⟨j,by omega,he⟩
    ·rintro⟨j,hj,he⟩
     by_cases hjk:j=k
     ·subst hjk;rw[hz]at he;omega
     ·exact⟨j,by omega,he⟩
  ·unfold dZ eX
   dsimp only
   rw[if_pos (by omega),dV (by omega),hz,if_neg (by omega),if_neg (by omega),dV ⟨by omega,hlen⟩,if_neg hno,dV ⟨by omega,hlen⟩,wr (by omega) (by omega)]
   rfl
 ·rintro k ⟨x1,x2⟩ ag hk ⟨hx,hlen,hs⟩ hp
  dsimp only at hx hlen hs
  subst hx
  unfold dZ eX
  dsimp only
  rw[if_pos (by omega),dV (by omega)]
  by_cases h1:at' l (k:Int)<0
  ·rw[if_pos h1,if_pos rfl]
  rw[if_neg h1]
  by_cases h2:255<at' l (k:Int)
  ·rw[if_pos h2,if_pos rfl]
  rw[if_neg h2]
  obtain⟨z,hz⟩:∃z:Nat,at' l (k:Int)=z:=⟨(at' l (k:Int)).toNat,by omega⟩
  rw[hz,dV ⟨by omega,hlen⟩,if_pos]
  rw[hs z (by omega)]
  apply Classical.byContradiction
  intro hc
  exact hp ⟨by omega,fun j hj he=>hc ⟨j,hj,he.trans hz⟩⟩
 ·rintro⟨x1,x2⟩ ag ⟨hx,_,_⟩
  dsimp only at hx
  subst hx
  unfold dZ lK
  dsimp only
  rw[if_neg (by omega)]
 ·rw[show at' (List.replicate 256 false) (z:Int)=false by rw[jF,List.getD_eq_getElem?_getD,List.getElem?_replicate,if_pos hz];rfl]
  exact⟨fun h=>(by cases h),fun⟨j,hj,_⟩=>(by omega)⟩
theorem NH {κ ν:Type} [DecidableEq κ] (k k':κ) (v:ν):∀l:List (κ×ν),kS k' (yY k v l)=if k'=k then some v else kS k' l
 | []=>by simp only[yY,kS]
 | x :: xs => by
  simp only[yY]
  by_cases h:k=x.1
  ·rw[if_pos h];simp only[kS]
   by_cases h2:k'=k
   ·rw[if_pos h2,if_pos h2]
   ·rw[if_neg h2,if_neg h2,if_neg (fun h3=>h2 (h3.trans h.symm))]
  ·rw[if_neg h];simp only[kS]
   by_cases h2:k'=x.1
   ·rw[if_pos h2,if_neg (fun h3=>h (h3.symm.trans h2)),if_pos h2]
   ·rw[if_neg h2,NH k k' v xs]
    by_cases h3:k'=k
    ·rw[if_pos h3,if_pos h3]
    ·rw[if_neg h3,if_neg h3,if_neg h2]
theorem Jl {κ ν:Type} [DecidableEq κ] {k:κ} {v:ν} {z:κ×ν} {l:List (κ×ν)} (h0:kS k l=none):z∈yY k v l↔z=(k,v)∨z∈l:=by
 rw[Dj k v l h0]
 simp[or_comm]
theorem Di {κ ν:Type} [DecidableEq κ] {k:κ}:∀{l:List (κ×ν)},(∀v,(k,v)∉l)->kS k l=none
 | [],_=>rfl
 |x::xs,h=>by
  simp only[kS]
  rw[if_neg (fun e=>h x.2 (by rw[e];exact List.mem_cons_self ..))]
  exact Di fun v hv=>h v (List.mem_cons_of_mem _ hv)
theorem rF {κ ν:Type} [DecidableEq κ] {k:κ} {v:ν}:∀{l:List (κ×ν)},kS k l=none->(k,v)∉l
 | [],_=>by simp
 | x :: xs, h => by
  simp only[kS]at h
  by_cases e:k=x.1
  ·rw[if_pos e]at h;cases h
  ·rw[if_neg e]at h
   intro hm
   rcases List.mem_cons.1 hm with h2|h2
   ·exact e (by rw[<-h2])
   ·exact rF h h2
theorem xY {κ ν:Type} [DecidableEq κ] {k:κ} {v:ν}:∀{l:List (κ×ν)},kS k l=some v->(k,v)∈l
 |x::xs,h=>by
  simp only[kS]at h
  by_cases e:k=x.1
  ·rw[if_pos e]at h;cases h;rw[e];exact List.mem_cons_self ..
  ·rw[if_neg e]at h;exact List.mem_cons_of_mem _ (xY h)
theorem Fk {κ ν:Type} (p:κ×ν->Prop) [DecidablePred p]:∀l:List (κ×ν),FL (fun kv x=>if p kv then some false else x) (some true) l=some (decide (∀z∈l,¬p z))
 | []=>by simp[FL]
 |x::xs=>by
  show(if p x then some false else FL _ (some true) xs)=_
  rw[Fk p xs]
  by_cases h:p x
  ·rw[if_pos h];congr 1;symm;exact decide_eq_false fun h2=>h2 x (List.mem_cons_self ..) h
  ·rw[if_neg h];congr 1;apply decide_eq_decide.2;simp[h]
def IA (ps:List (List (Int×Int))) (v i:Nat) (z:(Int×Int)×Int):Prop:=∃a b:Nat,(a<v∨(a=v∧b<i))∧b<(at' ps (a:Int)).length∧z=(((a:Int),(iS (at' ps (a:Int)) b).1),(iS (at' ps (a:Int)) b).2)
def Gd (ps:List (List (Int×Int))):Prop:=(∀v,v<ps.length->rO (at' ps (v:Int)) v ps.length)∧∀v,v<ps.length->∀i,i<(at' ps (v:Int)).length->Gc ([],ps) v i
theorem CB (ps:List (List (Int×Int))) (hn:ps.length<=30) (hd:∀v,v<ps.length->(at' ps (v:Int)).length<=30):(Gd ps->fD 1000 ps=some true)∧(¬Gd ps->fD 1000 ps=some false):=by
 unfold fD
 have inner:∀(v:Nat) (m:List ((Int×Int)×Int)) ag,v<ps.length->(∀z,z∈m↔IA ps v 0 z)->
   (rO (at' ps (v:Int)) v ps.length->∃m',(∀z,z∈m'↔IA ps (v+1) 0 z)∧bK (bX ps ((v:Int),m) ag) 1000 ((0:Int),m)=ag ((v:Int)+1,m'))∧
   (¬rO (at' ps (v:Int)) v ps.length->bK (bX ps ((v:Int),m) ag) 1000 ((0:Int),m)=some false):=by
  intro v m ag hv hm
  have hdv:=hd v hv
  have key:=Ck (step:=bX ps ((v:Int),m) ag) (K:=fun x=>ag ((v:Int)+1,x.2)) (bad:=false) (at' ps (v:Int)).length (Ev (at' ps (v:Int)) v ps.length) (fun i x=>x.1=(i:Int)∧∀z,z∈x.2↔IA ps v i z) ?_ ?_ ?_ 1000 ((0:Int),m) ⟨rfl,hm⟩ (by omega)
  ·refine⟨fun h=> ?_,fun h=>key.2 h⟩
   obtain⟨x,⟨hx1,hx2⟩,hx⟩:=key.1 h
   refine⟨x.2,fun z=>(hx2 z).trans ⟨?_,?_⟩,hx⟩
   ·rintro⟨a,b,h1,h2,h3⟩;exact⟨a,b,by omega,h2,h3⟩
   ·rintro⟨a,b,h1,h2,h3⟩
    refine⟨a,b,?_,h2,h3⟩
    by_cases ha:a=v
    ·subst ha;exact .inr ⟨rfl,h2⟩
    ·omega
  ·rintro i ⟨x1,x2⟩ ag2 hi ⟨hx,hs⟩ ⟨p1,p2,p3,p4⟩
   dsimp only at hx hs
   subst hx
   have hg:kS (((v:Int),(iS (at' ps (v:Int)) i).1)) x2=none:=by
    apply Di
    intro w hw
    obtain⟨a,b,h1,h2,h3⟩:=(hs _).1 hw
    simp only[Prod.mk.injEq]at h3
    obtain⟨⟨h4,h5⟩,_⟩:=h3
    have:a=v:=by omega
    subst this
    have hb:b<i:=by omega
    exact p4 b hb h5.symm
   refine⟨((i:Int)+1,yY (((v:Int),(iS (at' ps (v:Int)) i).1)) (iS (at' ps (v:Int)) i).2 x2),⟨by simp,fun z=> ?_⟩,?_⟩
   ·dsimp only
    rw[Jl hg,hs]
    constructor
    ·rintro(rfl|⟨a,b,h1,h2,h3⟩)
     ·exact⟨v,i,.inr ⟨rfl,by omega⟩,hi,rfl⟩
     ·exact⟨a,b,by omega,h2,h3⟩
    ·rintro⟨a,b,h1,h2,h3⟩
     by_cases hab:a=v∧b=i
     ·left;rw[h3,hab.1,hab.2]
     ·right;exact⟨a,b,by omega,h2,h3⟩
   ·replace p1:0<=(at' (at' ps (v:Int)) (i:Int)).1∧(at' (at' ps (v:Int)) (i:Int)).1<=(ps.length:Int) - 1:=p1
    replace p3:1<=(at' (at' ps (v:Int)) (i:Int)).2∧(at' (at' ps (v:Int)) (i:Int)).2<=15:=p3
    unfold bX eO fK
    dsimp only
    rw[if_pos (by omega),dV (by omega),if_neg (by omega),if_neg (by omega),if_neg (by rw[decide_eq_false p2];simp),if_neg (by omega),if_neg (by rw[decide_eq_false (by omega)];simp),hg,if_neg (by simp),wr (by omega) (by omega)]
  ·rintro i ⟨x1,x2⟩ ag2 hi ⟨hx,hs⟩ hp
   dsimp only at hx hs
   subst hx
   unfold bX eO fK
   dsimp only
   rw[if_pos (by omega),dV (by omega)]
   by_cases h1:(iS (at' ps (v:Int)) i).1<0
   ·rw[if_pos h1,if_pos rfl]
   rw[if_neg h1]
   by_cases h2:(ps.length:Int)<=(iS (at' ps (v:Int)) i).1
   ·rw[if_pos h2,if_pos rfl]
   rw[if_neg h2]
   by_cases h3:(iS (at' ps (v:Int)) i).1=v
   ·rw[if_pos (decide_eq_true h3)]
   rw[if_neg (by rw[decide_eq_false h3];simp)]
   by_cases h4:(iS (at' ps (v:Int)) i).2<1
   ·rw[if_pos h4,if_pos rfl]
   rw[if_neg h4]
   by_cases h5:15<(iS (at' ps (v:Int)) i).2
   ·rw[if_pos (decide_eq_true h5)]
   rw[if_neg (by rw[decide_eq_false h5];simp)]
   have:∃k,k<i∧(iS (at' ps (v:Int)) k).1=(iS (at' ps (v:Int)) i).1:=by
    apply Classical.byContradiction
    intro hc
    exact hp ⟨by omega,h3,by omega,fun k hk he=>hc ⟨k,hk,he⟩⟩
   obtain⟨k,hk,he⟩:=this
   have hin:=(hs _).2 ⟨v,k,.inr ⟨rfl,hk⟩,by omega,rfl⟩
   rw[if_pos]
   rw[<-he]
   cases hg:kS (((v:Int),(iS (at' ps (v:Int)) k).1)) x2 with
   |some w=>rfl
   | none => exact absurd hin (by
     intro hin
     exact rF hg hin)
  ·rintro⟨x1,x2⟩ ag2 ⟨hx,hs⟩
   dsimp only at hx hs
   subst hx
   unfold bX kX
   dsimp only
   rw[if_neg (by omega),wr (by omega) (by omega)]
 have outer:=Ck (step:=cC 1000 ps) (K:=fun x=>gN x.2) (bad:=false) ps.length (fun v=>rO (at' ps (v:Int)) v ps.length) (fun v x=>x.1=(v:Int)∧∀z,z∈x.2↔IA ps v 0 z) ?_ ?_ ?_ 1000 ((0:Int),[]) ⟨rfl,fun z=>⟨fun h=>(by cases h),fun⟨a,b,h1,_⟩=>(by omega)⟩⟩ (by omega)
 rotate_left
 ·rintro v ⟨x1,x2⟩ ag hv ⟨hx,hs⟩ hp
  dsimp only at hx hs
  subst hx
  obtain⟨m',h1,h2⟩:=(inner v x2 ag hv hs).1 hp
  refine⟨((v:Int)+1,m'),⟨by simp,h1⟩,?_⟩
  ·unfold cC
   dsimp only
   rw[if_pos (by omega),dV (by omega)]
   exact h2
 ·rintro v ⟨x1,x2⟩ ag hv ⟨hx,hs⟩ hp
  dsimp only at hx hs
  subst hx
  unfold cC
  dsimp only
  rw[if_pos (by omega),dV (by omega)]
  exact(inner v x2 ag hv hs).2 hp
 ·rintro⟨x1,x2⟩ ag ⟨hx,hs⟩
  dsimp only at hx hs
  subst hx
  unfold cC
  dsimp only
  rw[if_neg (by omega)]
 by_cases hL:∀v,v<ps.length->rO (at' ps (v:Int)) v ps.length
 rotate_left
 ·exact⟨fun h=>absurd h.1 hL,fun _=>outer.2 hL⟩
 obtain⟨⟨x1,x2⟩,⟨hx,hs⟩,he⟩:=outer.1 hL
 rw[he]
 dsimp only at hs ⊢
 have hk:gN x2=some (decide (∀z∈x2,¬(Option.getD (kS (z.1.2,z.1.1) x2) (0:Int))≠z.2)):=Fk (fun z:(Int×Int)×Int=>(Option.getD (kS (z.1.2,z.1.1) x2) (0:Int))≠z.2) x2
 rw[hk]
 have hiff:(∀z∈x2,¬(Option.getD (kS (z.1.2,z.1.1) x2) (0:Int))≠z.2)↔∀v,v<ps.length->∀i,i<(at' ps (v:Int)).length->Gc ([],ps) v i:=by
  constructor
  ·intro h v hv i hi
   have hw:=(hL v hv i hi).2.2.1
   have hin:=(hs (((v:Int),(iS (at' ps (v:Int)) i).1),(iS (at' ps (v:Int)) i).2)).2 ⟨v,i,.inl hv,hi,rfl⟩
   have h2:=Decidable.not_not.1 (h _ hin)
   dsimp only at h2
   cases hg:kS ((iS (at' ps (v:Int)) i).1,(v:Int)) x2 with
   |none=>rw[hg]at h2;simp only[Option.getD]at h2;omega
   | some w =>
    rw[hg]at h2;simp only[Option.getD]at h2
    obtain⟨a,b,h3,h4,h5⟩:=(hs _).1 (xY hg)
    simp only[Prod.mk.injEq]at h5
    obtain⟨⟨h6,h7⟩,h8⟩:=h5
    refine⟨b,?_,?_,?_⟩
    ·show b<(at' ps (iS (at' ps (v:Int)) i).1).length
     rw[h6];exact h4
    ·show(iS (at' ps (iS (at' ps (v:Int)) i).1) b).1=v
     rw[h6];exact h7.symm
    ·show(iS (at' ps (iS (at' ps (v:Int)) i).1) b).2=(iS (at' ps (v:Int)) i).2
     rw[h6,<-h8];exact h2
  ·intro h z hz hne
   obtain⟨a,b,h3,h4,rfl⟩:=(hs z).1 hz
   have ha:a<ps.length:=by omega
   apply hne
   obtain⟨j,hj1,hj2,hj3⟩:=h a ha b h4
   have hu:=(hL a ha b h4).1
   obtain⟨u,hu'⟩:∃u:Nat,(iS (at' ps (a:Int)) b).1=u:=⟨(iS (at' ps (a:Int)) b).1.toNat,by omega⟩
   replace hj1:j<(at' ps (iS (at' ps (a:Int)) b).1).length:=hj1
   replace hj2:(iS (at' ps (iS (at' ps (a:Int)) b).1) j).1=a:=hj2
   replace hj3:(iS (at' ps (iS (at' ps (a:Int)) b).1) j).2=(iS (at' ps (a:Int)) b).2:=hj3
   rw[hu']at hj1 hj2 hj3
   have hun:u<ps.length:=by omega
   dsimp only
   rw[hu',<-hj3]
   have hin:=(hs (((u:Int),(iS (at' ps (u:Int)) j).1),(iS (at' ps (u:Int)) j).2)).2 ⟨u,j,.inl hun,hj1,rfl⟩
   rw[hj2]at hin
   cases hg:kS ((u:Int),(a:Int)) x2 with
   |none=>exact absurd hin (rF hg)
   | some w =>
    obtain⟨a',b',h3',h4',h5⟩:=(hs _).1 (xY hg)
    simp only[Prod.mk.injEq]at h5
    obtain⟨⟨h6,h7⟩,h8⟩:=h5
    have:a'=u:=by omega
    subst this
    have hbj:b'=j:=by
     rcases Nat.lt_trichotomy b' j with hl|hl|hl
     ·exact absurd (h7.symm.trans hj2.symm) ((hL a' hun j hj1).2.2.2 b' hl)
     ·exact hl
     ·exact absurd (hj2.trans h7) ((hL a' hun b' h4').2.2.2 j hl)
    subst hbj
    exact h8
 by_cases hS:∀v,v<ps.length->∀i,i<(at' ps (v:Int)).length->Gc ([],ps) v i
 ·rw[decide_eq_true (hiff.2 hS)]
  exact⟨fun _=>rfl,fun h=>absurd ⟨hL,hS⟩ h⟩
 ·rw[decide_eq_false (fun h=>hS (hiff.1 h))]
  exact⟨fun h=>absurd h.2 hS,fun _=>rfl⟩
theorem HR:∀(N:Nat) (f:Nat->Nat) (k:Nat),(∀i,i<k->f i<N)->(∀i j,i<j->j<k->f i≠f j)->k<=N
 |0,f,k,h,_=>by
  cases k with
  |zero=>omega
  |succ k=>exact absurd (h 0 (by omega)) (by omega)
 | N + 1, f, k, h, hd => by
  by_cases hex:∃a,a<k∧f a=N
  ·obtain⟨a,ha,hfa⟩:=hex
   have:=HR N (fun i=>if i<a then f i else f (i+1)) (k - 1) (fun i hi=>by
    split
    ·have:=h i (by omega);have:=hd i a (by omega) ha;omega
    ·have:=h (i+1) (by omega);have:=hd a (i+1) (by omega) (by omega);omega) (fun i j hij hj=>by
    split<;>split
    ·exact hd i j hij (by omega)
    ·exact hd i (j+1) (by omega) (by omega)
    ·omega
    ·exact hd (i+1) (j+1) (by omega) (by omega))
   omega
  ·have:=HR N f k (fun i hi=>by
    have:=h i hi
    have:f i≠N:=fun e=>hex ⟨i,hi,e⟩
    omega) hd
   omega
theorem KC {l:List (Int×Int)} {v n:Nat} (hv:v<n) (h:rO l v n):l.length<n:=by
 have:=HR n (fun i=>if i=l.length then v else(iS l i).1.toNat) (l.length+1) (fun i hi=>by
  split
  ·exact hv
  ·have:=(h i (by omega)).1;omega) (fun i j hij hj=>by
  rw[if_neg (by omega)]
  have h1:=(h i (by omega)).1
  split
  ·have:=(h i (by omega)).2.1;omega
  ·have h2:=(h j (by omega)).1
   have:=(h j (by omega)).2.2.2 i hij
   omega)
 omega
theorem Xd (g:GR) (hl:WL g):(VG g->eV 1000 g=some true)∧(¬VG g->eV 1000 g=some false):=by
 obtain⟨l1,l2,l3⟩:=hl
 unfold eV kW nQ
 by_cases h1:g.1.length<1
 ·rw[if_pos (by omega)]
  exact⟨fun h=>by have:=h.n1;have:=h.len;omega,fun _=>rfl⟩
 rw[if_neg (by omega)]
 by_cases h2:24<g.1.length
 ·rw[if_pos (by omega)]
  exact⟨fun h=>by have:=h.n24;have:=h.len;omega,fun _=>rfl⟩
 rw[if_neg (by omega)]
 by_cases h3:g.1.length=g.2.length
 rotate_left
 ·rw[decide_eq_true (by omega)]
  exact⟨fun h=>absurd h.len h3,fun _=>rfl⟩
 rw[decide_eq_false (by omega),if_neg (by simp)]
 by_cases h4:∀k,k<g.1.length->Oe g.1 k
 rotate_left
 ·rw[(rQ g.1 l1).2 h4,bN rfl]
  exact⟨fun h=>absurd (fun k hk=>⟨(h.node k (by omega)).id,(h.node k (by omega)).ids⟩) h4,fun _=>rfl⟩
 rw[(rQ g.1 l1).1 h4,bN rfl,if_pos rfl]
 by_cases h5:Gd g.2
 ·rw[(CB g.2 l2 l3).1 h5]
  exact⟨fun _=>rfl,fun h=>absurd ⟨by omega,by omega,h3,fun v hv=>⟨(h4 v (by omega)).1,KC hv (h5.1 v hv),h5.1 v hv,(h4 v (by omega)).2⟩,h5.2⟩ h⟩
 ·rw[(CB g.2 l2 l3).2 h5]
  exact⟨fun h=>absurd ⟨fun v hv=>(h.node v hv).links,h.sym⟩ h5,fun _=>rfl⟩
end Go.Proofs.YtigggfnchamobaaGreatDoor
end
section
namespace Go.Proofs.YtigggfnchamobaaGreatDoor
open Go.Sx
abbrev D (d:List Int) (v:Nat):Int:=at' d (v:Int)
def Ig (g:GR) (v u:Nat):Prop:=∃i,i<(row g v).length∧(iS (row g v) i).1=(u:Int)
theorem VG.port {g:GR} (h:VG g) {v i:Nat} (hv:v<g.2.length) (hi:i<(row g v).length):∃u:Nat,u<g.2.length∧(iS (row g v) i).1=(u:Int)∧Ig g v u:=by
 have hu:=((h.node v hv).links i hi).1
 exact⟨(iS (row g v) i).1.toNat,by omega,by omega,i,hi,by omega⟩
theorem VG.back {g:GR} (h:VG g) {v u:Nat} (hv:v<g.2.length) (ha:Ig g v u):Ig g u v:=by
 obtain⟨i,hi,hu⟩:=ha
 obtain⟨j,hj,hjv,_⟩:=h.sym v hv i hi
 rw[hu]at hj hjv
 exact⟨j,hj,hjv⟩
def Sr (d:List Int):Nat:=d.countP fun x=>decide (x<0)
structure Wc (g:GR) (s:Nat) (d:List Int):Prop where
 len:d.length=g.2.length
 lo:∀v,v<g.2.length -> -1<=D d v
 zero:∀v,v<g.2.length->(D d v=0↔v=s)
 near:∀v,v<g.2.length->0<D d v->∃u,u<g.2.length∧Ig g v u∧D d u=D d v - 1
 hi:∀v,v<g.2.length->D d v+(Sr d:Int)<=(g.2.length:Int)
structure Qu (g:GR) (q d:List Int) (b:Int) (done:Nat->Prop):Prop where
 mem:∀y∈q,∃v,v<g.2.length∧y=((v:Nat):Int)∧0<=D d v
 top:∀v,v<g.2.length->D d v<=b
 sort:q.Pairwise fun a c=>at' d a<=at' d c
 done:∀v,v<g.2.length->0<=D d v->((v:Nat):Int)∉q->done v->∀u,u<g.2.length->Ig g v u->0<=D d u∧D d u<=D d v+1
theorem FW {d:List Int} {v:Nat} (h:v<d.length):D d v=d[v]:=by
 rw[D,jF,List.getD_eq_getElem?_getD,List.getElem?_eq_getElem h];rfl
theorem Pj {d:List Int} {u:Nat} {x:Int} (hu:u<d.length) (hn:D d u<0) (hx:0<=x):Sr (d.set u x)+1=Sr d:=by
 unfold Sr
 rw[List.countP_set hu]
 have hp:0<d.countP fun x=>decide (x<0):=by
  rw[List.countP_pos_iff]
  exact⟨d[u],List.getElem_mem hu,by rw[<-FW hu];simpa using hn⟩
 rw[FW hu]at hn
 rw[if_pos (by simpa using hn),if_neg (by simp;omega)]
 omega
theorem assign {g:GR} {s:Nat} {q d:List Int} {b:Int} {done:Nat->Prop} (hV:VG g) (hC:Wc g s d) {x u:Nat} (hQ:Qu g q d (D d x+1) done) (hx:x<g.2.length) (hx0:0<=D d x) (hu:u<g.2.length) (hun:D d u<0) (ha:Ig g x u):
  Wc g s (d.set u (D d x+1))∧Qu g (q++[(u:Int)]) (d.set u (D d x+1)) (D d x+1) done:=by
 have hlen:=hC.len
 have hat:∀v,D (d.set u (D d x+1)) v=if v=u then D d x+1 else D d v:=fun v=>Bz _ _ _ _ (by omega)
 have hcn:=Pj (x:=D d x+1) (by omega:u<d.length) hun (by omega)
 refine⟨⟨by simp[hlen],fun v hv=> ?_,fun v hv=> ?_,fun v hv=> ?_,fun v hv=> ?_⟩,⟨fun y hy=> ?_,fun v hv=> ?_,?_,fun v hv h0 hq hd w hw hadj=> ?_⟩⟩
 ·rw[hat];split
  ·omega
  ·exact hC.lo v hv
 ·rw[hat];split
  ·rename_i h;subst h
   have:=(hC.zero v hv)
   constructor
   ·intro;omega
   ·intro h;have:=this.2 h;omega
  ·exact hC.zero v hv
 ·rw[hat];split
  ·rename_i h;subst h
   intro _
   refine⟨x,hx,hV.back hx ha,?_⟩
   rw[hat,if_neg (by intro h;subst h;omega)];omega
  ·intro h0
   obtain⟨w,hw,hadj,he⟩:=hC.near v hv h0
   refine⟨w,hw,hadj,?_⟩
   rw[hat,if_neg (by intro h;subst h;omega)];exact he
 ·rw[hat];split
  ·have:=hC.hi x hx;omega
  ·have:=hC.hi v hv;omega
 ·rcases List.mem_append.1 hy with hy|hy
  ·obtain⟨v,hv,rfl,h0⟩:=hQ.mem y hy
   refine⟨v,hv,rfl,?_⟩
   rw[hat];split<;>omega
  ·simp only[List.mem_singleton]at hy
   refine⟨u,hu,hy,?_⟩
   rw[hat,if_pos rfl];omega
 ·rw[hat];split
  ·omega
  ·exact hQ.top v hv
 ·rw[List.pairwise_append]
  have hq:∀y∈q,at' (d.set u (D d x+1)) y=at' d y:=by
   intro y hy
   obtain⟨v,hv,rfl,h0⟩:=hQ.mem y hy
   have:=hat v
   rw[if_neg (by intro h;subst h;omega)]at this
   exact this
  refine⟨hQ.sort.imp_of_mem fun {a c} h1 h2 h=> ?_,List.pairwise_singleton ..,fun y hy z hz=> ?_⟩
  ·rw[hq a h1,hq c h2];exact h
  ·simp only[List.mem_singleton]at hz
   subst hz
   rw[hq y hy]
   have h2:=hat u
   rw[if_pos rfl]at h2
   obtain⟨v,hv,rfl,h0⟩:=hQ.mem y hy
   have:=hQ.top v hv
   show D d v<=D (d.set u (D d x+1)) u
   omega
 ·have hvu:v≠u:=by
   rintro rfl
   exact hq (by simp)
  rw[hat,if_neg hvu]at h0
  rw[hat v,if_neg hvu]
  have:=hQ.done v hv h0 (fun h=>hq (List.mem_append_left _ h)) hd w hw hadj
  rw[hat w,if_neg (by rintro rfl;omega)]
  exact this
end Go.Proofs.YtigggfnchamobaaGreatDoor
end
section
namespace Go.Proofs.YtigggfnchamobaaGreatDoor
open Go.Sx
end Go.Proofs.YtigggfnchamobaaGreatDoor
end
section
namespace Go.Proofs.YtigggfnchamobaaGreatDoor
open Go.Sx
end Go.Proofs.YtigggfnchamobaaGreatDoor
end
section
namespace Go.Proofs.YtigggfnchamobaaGreatDoor
open Go.Sx
end Go.Proofs.YtigggfnchamobaaGreatDoor
end
section
namespace Go.Proofs.YtigggfnchamobaaGreatDoor
open Go.Sx
theorem NM (g:GR) (v:Nat) (u:Int) (hv:v<g.2.length) (hl:(row g v).length<=30):nR 1000 g v u=some (yZ (row g v) u):=by
 unfold nR
 rw[dV (by omega)]
 rcases HS (row g v) u with⟨i,hi,hu,hf,he⟩|⟨hf,he⟩
 ·rw[he]
  refine HE (fun x:Int=>∃k:Nat,x=k∧k<=i) (fun x=>31 - x.toNat) ?_ 1000 _ ⟨0,rfl,by omega⟩ (by omega)
  rintro x ag ⟨k,rfl,hk⟩ hag
  unfold oP
  rw[if_pos (show(k:Int)<((row g v).length:Int) by omega),dV (show 0<=(k:Int)∧(k:Int)<((row g v).length:Int) by omega)]
  by_cases e:k=i
  ·subst e;exact if_pos hu
  ·rw[if_neg (hf k (by omega)),wr (by omega) (by omega)]
   exact hag _ ⟨k+1,by omega,by omega⟩ (by omega)
 ·rw[he]
  refine HE (fun x:Int=>∃k:Nat,x=k∧k<=(row g v).length) (fun x=>31 - x.toNat) ?_ 1000 _ ⟨0,rfl,by omega⟩ (by omega)
  rintro x ag ⟨k,rfl,hk⟩ hag
  unfold oP
  by_cases e:k<(row g v).length
  ·rw[if_pos (show(k:Int)<((row g v).length:Int) by omega),dV (show 0<=(k:Int)∧(k:Int)<((row g v).length:Int) by omega),if_neg (hf k e),wr (by omega) (by omega)]
   exact hag _ ⟨k+1,by omega,by omega⟩ (by omega)
  ·rw[if_neg (show¬(k:Int)<((row g v).length:Int) by omega)];rfl
end Go.Proofs.YtigggfnchamobaaGreatDoor
end
section
namespace Go.Proofs.YtigggfnchamobaaGreatDoor
open Go.Sx
def Zf (f:Nat->Nat):Nat->Nat
 |0=>0
 |k+1=>Zf f k+f k
open Classical in
noncomputable def ind (p:Prop):Nat:=if p then 1 else 0
end Go.Proofs.YtigggfnchamobaaGreatDoor
end
section
namespace Go.Proofs.YtigggfnchamobaaGreatDoor
open Go.Sx
theorem GX (a:Nat) (h:a<4294967296):IntKind.u32.wrap (a:Int)=a:=by rw[<-Bq];exact if_pos ⟨by omega,by omega⟩
def Ly (x:Int):Nat:=(BitVec.ofInt 32 x).toNat
theorem Hg (x:Int):Ly x<4294967296:=(BitVec.ofInt 32 x).isLt
theorem rP {a:Nat} (h:a<4294967296):Ly (a:Int)=a:=by
 unfold Ly;rw[BitVec.ofInt_natCast,BitVec.toNat_ofNat];exact Nat.mod_eq_of_lt h
theorem DZ (x y:Int):dD .u32 x y=((Ly x &&& Ly y:Nat):Int):=by
 show IntKind.u32.wrap (((BitVec.ofInt 32 x &&& BitVec.ofInt 32 y).toNat:Nat):Int)=_
 rw[BitVec.toNat_and]
 exact GX _ (Nat.lt_of_le_of_lt Nat.and_le_left (Hg x))
theorem Uj (x y:Int):Ho .u32 x y=((Ly x ||| Ly y:Nat):Int):=by
 show IntKind.u32.wrap (((BitVec.ofInt 32 x ||| BitVec.ofInt 32 y).toNat:Nat):Int)=_
 rw[BitVec.toNat_or]
 exact GX _ (Nat.or_lt_two_pow (n:=32) (Hg x) (Hg y))
theorem DI {k:Nat} (hk:k<32):2^k<4294967296:=Nat.pow_lt_pow_right (n:=32) (by omega) hk
theorem Tz {k:Nat} (hk:k<32):yP .u32 1 (k:Int)=((2^k:Nat):Int):=by
 show IntKind.u32.wrap (1*2^(min ((k:Int).toNat) 32))=_
 rw[Int.toNat_natCast,Nat.min_eq_left (by omega),Int.one_mul,show(2:Int)^k=((2^k:Nat):Int) by simp]
 exact GX _ (DI hk)
theorem Hp {a k:Nat} (hk:k<32):pH .u32 (a:Int) (k:Int)=((a / 2^k:Nat):Int):=by
 show Int.fdiv (a:Int) (2^(min ((k:Int).toNat) 32))=_
 rw[Int.toNat_natCast,Nat.min_eq_left (by omega),show(2:Int)^k=((2^k:Nat):Int) by simp,Int.fdiv_eq_ediv_of_nonneg _ (Int.natCast_nonneg _)]
 simp
theorem KL {a k:Nat} (hk:k<32) (ha:a<4294967296):dD .u32 (pH .u32 (a:Int) (k:Int)) 1=1↔a.testBit k=true:=by
 have h1:Ly 1=1:=rP (a:=1) (by omega)
 rw[Hp hk,DZ,rP (Nat.lt_of_le_of_lt (Nat.div_le_self _ _) ha),h1,Nat.and_one_is_mod,Nat.testBit_eq_decide_div_mod_eq,decide_eq_true_eq]
 omega
def Es (g:GR) (s:Nat):Prop:=(∀v,s.testBit v=true->v<g.2.length)∧∀v u,s.testBit v=true->s.testBit u=true->¬Ig g v u
theorem Uf {g:GR} (hV:VG g):sR 1000 g=some ((2^g.2.length - 1:Nat):Int):=by
 have h24:=hV.n24
 have hl:=hV.len
 have hp:=DI (show g.2.length<32 by omega)
 have hpos:1<=2^g.2.length:=Nat.one_le_two_pow
 unfold sR
 rw[dV (by omega),hl,Tz (by omega),show((2^g.2.length:Nat):Int) - 1=((2^g.2.length - 1:Nat):Int) by omega]
 congr 1
 exact if_pos ⟨by omega,by omega⟩
theorem Zi {k:Nat} (hk:k<32):wI .u64 (k:Int)=k:=by
 show IntKind.u64.wrap (k:Int)=k
 have:∀j:Fin 32,IntKind.u64.wrap ((j.1:Nat):Int)=(j.1:Nat):=by decide
 exact this ⟨k,hk⟩
end Go.Proofs.YtigggfnchamobaaGreatDoor
end
section
namespace Go.Proofs.YtigggfnchamobaaGreatDoor
open Go.Sx
def T (e:List Int) (k v w:Nat):Int:=if 0<=D e w∧(D e w<k∨(D e w=k∧w<v))then D e w else -1
end Go.Proofs.YtigggfnchamobaaGreatDoor
end
section
namespace Go.Proofs.YtigggfnchamobaaGreatDoor
open Go.Sx
end Go.Proofs.YtigggfnchamobaaGreatDoor
end
section
namespace Go.Proofs.YtigggfnchamobaaGreatDoor
open Go.Sx
theorem PQ {X R:Type} {step:X->(X->Option R)->Option R} {K:X->Option R} {bad:R} (N:Nat) (p:Nat->Prop) (I:Nat->X->Prop) (B:Nat)
  (hok:∀(k:Nat) x ag,k<N->k<B->I k x->p k->∃x',I (k+1) x'∧step x ag=ag x') (hbad:∀(k:Nat) x ag,k<N->k<B->I k x->¬p k->step x ag=some bad) (hend:∀x ag,I N x->N<B->step x ag=K x):
  ∀(fuel:Nat) (x:X),I 0 x->B<=fuel->(N<B∨∃k,k<N∧k<B∧¬p k)->((∀k,k<N->p k)->∃x',I N x'∧bK step fuel x=K x')∧(¬(∀k,k<N->p k)->bK step fuel x=some bad):=by
 intro fuel x hI hf hB
 have bads:∀(d a fuel:Nat) (x:X),I a x->a+d<N->a+d<B->¬p (a+d)->d<fuel->bK step fuel x=some bad:=by
  intro d
  induction d with
  |zero=>
   intro a fuel x hI h1 h2 hp hf
   obtain⟨f,rfl⟩:∃f,fuel=f+1:=⟨fuel - 1,by omega⟩
   exact hbad a x _ h1 h2 hI hp
  | succ d ih =>
   intro a fuel x hI h1 h2 hp hf
   obtain⟨f,rfl⟩:∃f,fuel=f+1:=⟨fuel - 1,by omega⟩
   by_cases hpa:p a
   ·obtain⟨x',hI',hs⟩:=hok a x (bK step f) (by omega) (by omega) hI hpa
    have hs:bK step (f+1) x=bK step f x':=hs
    rw[hs]
    exact ih (a+1) f x' hI' (by omega) (by omega) (by rw[show a+1+d=a+(d+1) by omega];exact hp) (by omega)
   ·exact hbad a x _ (by omega) (by omega) hI hpa
 have goods:∀(d a fuel:Nat) (x:X),I a x->a+d=N->N<B->(∀k,a<=k->k<N->p k)->d<fuel->∃x',I N x'∧bK step fuel x=K x':=by
  intro d
  induction d with
  |zero=>
   intro a fuel x hI h1 h2 hp hf
   obtain⟨f,rfl⟩:∃f,fuel=f+1:=⟨fuel - 1,by omega⟩
   obtain rfl:a=N:=by omega
   exact⟨x,hI,hend x _ hI h2⟩
  |succ d ih=>
   intro a fuel x hI h1 h2 hp hf
   obtain⟨f,rfl⟩:∃f,fuel=f+1:=⟨fuel - 1,by omega⟩
   obtain⟨x',hI',hs⟩:=hok a x (bK step f) (by omega) (by omega) hI (hp a (Nat.le_refl _) (by omega))
   have hs:bK step (f+1) x=bK step f x':=hs
   rw[hs]
   exact ih (a+1) f x' hI' (by omega) h2 (fun k h1 h2=>hp k (by omega) h2) (by omega)
 constructor
 ·intro h
  rcases hB with hB|⟨k,h1,_,h2⟩
  ·exact goods N 0 fuel x hI (by omega) hB (fun k _ hk=>h k hk) (by omega)
  ·exact absurd (h k h1) h2
 ·intro h
  have:∃k,k<N∧k<B∧¬p k:=by
   rcases hB with hB|hB
   ·apply Classical.byContradiction
    intro hc
    exact h fun k hk=>Classical.byContradiction fun hp=>hc ⟨k,hk,by omega,hp⟩
   ·exact hB
  obtain⟨k,h1,h2,h3⟩:=this
  exact bads k 0 fuel x hI (by omega) (by omega) (by rw[Nat.zero_add];exact h3) (by omega)
theorem NO {ps:List (List (Int×Int))} (hn:ps.length<=30) {v:Nat} (hv:v<ps.length):(at' ps (v:Int)).length<1000∨∃k,k<(at' ps (v:Int)).length∧k<1000∧¬Ev (at' ps (v:Int)) v ps.length k:=by
 by_cases h:(at' ps (v:Int)).length<1000
 ·exact .inl h
 ·right
  apply Classical.byContradiction
  intro hc
  have hok:∀k,k<40->Ev (at' ps (v:Int)) v ps.length k:=fun k hk=>Classical.byContradiction fun hp=>hc ⟨k,by omega,by omega,hp⟩
  have:=HR ps.length (fun i=>(iS (at' ps (v:Int)) i).1.toNat) 40 (fun i hi=>by have:=(hok i hi).1;omega) (fun i j hij hj he=>by
   have h1:=(hok i (by omega)).1
   have h2:=(hok j hj).1
   have h3:=(hok j hj).2.2.2 i hij
   exact h3 (by omega))
  omega
theorem Bn (ps:List (List (Int×Int))) (hn:ps.length<=30):(Gd ps->fD 1000 ps=some true)∧(¬Gd ps->fD 1000 ps=some false):=by
 unfold fD
 have inner:∀(v:Nat) (m:List ((Int×Int)×Int)) ag,v<ps.length->(∀z,z∈m↔IA ps v 0 z)->
   (rO (at' ps (v:Int)) v ps.length->∃m',(∀z,z∈m'↔IA ps (v+1) 0 z)∧bK (bX ps ((v:Int),m) ag) 1000 ((0:Int),m)=ag ((v:Int)+1,m'))∧
   (¬rO (at' ps (v:Int)) v ps.length->bK (bX ps ((v:Int),m) ag) 1000 ((0:Int),m)=some false):=by
  intro v m ag hv hm
  have hbnd:=NO hn hv
  have key:=PQ (step:=bX ps ((v:Int),m) ag) (K:=fun x=>ag ((v:Int)+1,x.2)) (bad:=false) (at' ps (v:Int)).length (Ev (at' ps (v:Int)) v ps.length) (fun i x=>x.1=(i:Int)∧∀z,z∈x.2↔IA ps v i z) 1000 ?_ ?_ ?_ 1000 ((0:Int),m) ⟨rfl,hm⟩ (by omega) hbnd
  ·refine⟨fun h=> ?_,fun h=>key.2 h⟩
   obtain⟨x,⟨hx1,hx2⟩,hx⟩:=key.1 h
   refine⟨x.2,fun z=>(hx2 z).trans ⟨?_,?_⟩,hx⟩
   ·rintro⟨a,b,h1,h2,h3⟩;exact⟨a,b,by omega,h2,h3⟩
   ·rintro⟨a,b,h1,h2,h3⟩
    refine⟨a,b,?_,h2,h3⟩
    by_cases ha:a=v
    ·subst ha;exact .inr ⟨rfl,h2⟩
    ·omega
  ·rintro i ⟨x1,x2⟩ ag2 hi hi2 ⟨hx,hs⟩ ⟨p1,p2,p3,p4⟩
   dsimp only at hx hs
   subst hx
   have hg:kS (((v:Int),(iS (at' ps (v:Int)) i).1)) x2=none:=by
    apply Di
    intro w hw
    obtain⟨a,b,h1,h2,h3⟩:=(hs _).1 hw
    simp only[Prod.mk.injEq]at h3
    obtain⟨⟨h4,h5⟩,_⟩:=h3
    have:a=v:=by omega
    subst this
    have hb:b<i:=by omega
    exact p4 b hb h5.symm
   refine⟨((i:Int)+1,yY (((v:Int),(iS (at' ps (v:Int)) i).1)) (iS (at' ps (v:Int)) i).2 x2),⟨by simp,fun z=> ?_⟩,?_⟩
   ·dsimp only
    rw[Jl hg,hs]
    constructor
    ·rintro(rfl|⟨a,b,h1,h2,h3⟩)
     ·exact⟨v,i,.inr ⟨rfl,by omega⟩,hi,rfl⟩
     ·exact⟨a,b,by omega,h2,h3⟩
    ·rintro⟨a,b,h1,h2,h3⟩
     by_cases hab:a=v∧b=i
     ·left;rw[h3,hab.1,hab.2]
     ·right;exact⟨a,b,by omega,h2,h3⟩
   ·replace p1:0<=(at' (at' ps (v:Int)) (i:Int)).1∧(at' (at' ps (v:Int)) (i:Int)).1<=(ps.length:Int) - 1:=p1
    replace p3:1<=(at' (at' ps (v:Int)) (i:Int)).2∧(at' (at' ps (v:Int)) (i:Int)).2<=15:=p3
    unfold bX eO fK
    dsimp only
    rw[if_pos (by omega),dV (by omega),if_neg (by omega),if_neg (by omega),if_neg (by rw[decide_eq_false p2];simp),if_neg (by omega),if_neg (by rw[decide_eq_false (by omega)];simp),hg,if_neg (by simp),wr (by omega) (by omega)]
  ·rintro i ⟨x1,x2⟩ ag2 hi hi2 ⟨hx,hs⟩ hp
   dsimp only at hx hs
   subst hx
   unfold bX eO fK
   dsimp only
   rw[if_pos (by omega),dV (by omega)]
   by_cases h1:(iS (at' ps (v:Int)) i).1<0
   ·rw[if_pos h1,if_pos rfl]
   rw[if_neg h1]
   by_cases h2:(ps.length:Int)<=(iS (at' ps (v:Int)) i).1
   ·rw[if_pos h2,if_pos rfl]
   rw[if_neg h2]
   by_cases h3:(iS (at' ps (v:Int)) i).1=v
   ·rw[if_pos (decide_eq_true h3)]
   rw[if_neg (by rw[decide_eq_false h3];simp)]
   by_cases h4:(iS (at' ps (v:Int)) i).2<1
   ·rw[if_pos h4,if_pos rfl]
   rw[if_neg h4]
   by_cases h5:15<(iS (at' ps (v:Int)) i).2
   ·rw[if_pos (decide_eq_true h5)]
   rw[if_neg (by rw[decide_eq_false h5];simp)]
   have:∃k,k<i∧(iS (at' ps (v:Int)) k).1=(iS (at' ps (v:Int)) i).1:=by
    apply Classical.byContradiction
    intro hc
    exact hp ⟨by omega,h3,by omega,fun k hk he=>hc ⟨k,hk,he⟩⟩
   obtain⟨k,hk,he⟩:=this
   have hin:=(hs _).2 ⟨v,k,.inr ⟨rfl,hk⟩,by omega,rfl⟩
   rw[if_pos]
   rw[<-he]
   cases hg:kS (((v:Int),(iS (at' ps (v:Int)) k).1)) x2 with
   |some w=>rfl
   | none => exact absurd hin (by
     intro hin
     exact rF hg hin)
  ·rintro⟨x1,x2⟩ ag2 ⟨hx,hs⟩ _
   dsimp only at hx hs
   subst hx
   unfold bX kX
   dsimp only
   rw[if_neg (by omega),wr (by omega) (by omega)]
 have outer:=Ck (step:=cC 1000 ps) (K:=fun x=>gN x.2) (bad:=false) ps.length (fun v=>rO (at' ps (v:Int)) v ps.length) (fun v x=>x.1=(v:Int)∧∀z,z∈x.2↔IA ps v 0 z) ?_ ?_ ?_ 1000 ((0:Int),[]) ⟨rfl,fun z=>⟨fun h=>(by cases h),fun⟨a,b,h1,_⟩=>(by omega)⟩⟩ (by omega)
 rotate_left
 ·rintro v ⟨x1,x2⟩ ag hv ⟨hx,hs⟩ hp
  dsimp only at hx hs
  subst hx
  obtain⟨m',h1,h2⟩:=(inner v x2 ag hv hs).1 hp
  refine⟨((v:Int)+1,m'),⟨by simp,h1⟩,?_⟩
  ·unfold cC
   dsimp only
   rw[if_pos (by omega),dV (by omega)]
   exact h2
 ·rintro v ⟨x1,x2⟩ ag hv ⟨hx,hs⟩ hp
  dsimp only at hx hs
  subst hx
  unfold cC
  dsimp only
  rw[if_pos (by omega),dV (by omega)]
  exact(inner v x2 ag hv hs).2 hp
 ·rintro⟨x1,x2⟩ ag ⟨hx,hs⟩
  dsimp only at hx hs
  subst hx
  unfold cC
  dsimp only
  rw[if_neg (by omega)]
 by_cases hL:∀v,v<ps.length->rO (at' ps (v:Int)) v ps.length
 rotate_left
 ·exact⟨fun h=>absurd h.1 hL,fun _=>outer.2 hL⟩
 obtain⟨⟨x1,x2⟩,⟨hx,hs⟩,he⟩:=outer.1 hL
 rw[he]
 dsimp only at hs ⊢
 have hk:gN x2=some (decide (∀z∈x2,¬(Option.getD (kS (z.1.2,z.1.1) x2) (0:Int))≠z.2)):=Fk (fun z:(Int×Int)×Int=>(Option.getD (kS (z.1.2,z.1.1) x2) (0:Int))≠z.2) x2
 rw[hk]
 have hiff:(∀z∈x2,¬(Option.getD (kS (z.1.2,z.1.1) x2) (0:Int))≠z.2)↔∀v,v<ps.length->∀i,i<(at' ps (v:Int)).length->Gc ([],ps) v i:=by
  constructor
  ·intro h v hv i hi
   have hw:=(hL v hv i hi).2.2.1
   have hin:=(hs (((v:Int),(iS (at' ps (v:Int)) i).1),(iS (at' ps (v:Int)) i).2)).2 ⟨v,i,.inl hv,hi,rfl⟩
   have h2:=Decidable.not_not.1 (h _ hin)
   dsimp only at h2
   cases hg:kS ((iS (at' ps (v:Int)) i).1,(v:Int)) x2 with
   |none=>rw[hg]at h2;simp only[Option.getD]at h2;omega
   | some w =>
    rw[hg]at h2;simp only[Option.getD]at h2
    obtain⟨a,b,h3,h4,h5⟩:=(hs _).1 (xY hg)
    simp only[Prod.mk.injEq]at h5
    obtain⟨⟨h6,h7⟩,h8⟩:=h5
    refine⟨b,?_,?_,?_⟩
    ·show b<(at' ps (iS (at' ps (v:Int)) i).1).length
     rw[h6];exact h4
    ·show(iS (at' ps (iS (at' ps (v:Int)) i).1) b).1=v
     rw[h6];exact h7.symm
    ·show(iS (at' ps (iS (at' ps (v:Int)) i).1) b).2=(iS (at' ps (v:Int)) i).2
     rw[h6,<-h8];exact h2
  ·intro h z hz hne
   obtain⟨a,b,h3,h4,rfl⟩:=(hs z).1 hz
   have ha:a<ps.length:=by omega
   apply hne
   obtain⟨j,hj1,hj2,hj3⟩:=h a ha b h4
   have hu:=(hL a ha b h4).1
   obtain⟨u,hu'⟩:∃u:Nat,(iS (at' ps (a:Int)) b).1=u:=⟨(iS (at' ps (a:Int)) b).1.toNat,by omega⟩
   replace hj1:j<(at' ps (iS (at' ps (a:Int)) b).1).length:=hj1
   replace hj2:(iS (at' ps (iS (at' ps (a:Int)) b).1) j).1=a:=hj2
   replace hj3:(iS (at' ps (iS (at' ps (a:Int)) b).1) j).2=(iS (at' ps (a:Int)) b).2:=hj3
   rw[hu']at hj1 hj2 hj3
   have hun:u<ps.length:=by omega
   dsimp only
   rw[hu',<-hj3]
   have hin:=(hs (((u:Int),(iS (at' ps (u:Int)) j).1),(iS (at' ps (u:Int)) j).2)).2 ⟨u,j,.inl hun,hj1,rfl⟩
   rw[hj2]at hin
   cases hg:kS ((u:Int),(a:Int)) x2 with
   |none=>exact absurd hin (rF hg)
   | some w =>
    obtain⟨a',b',h3',h4',h5⟩:=(hs _).1 (xY hg)
    simp only[Prod.mk.injEq]at h5
    obtain⟨⟨h6,h7⟩,h8⟩:=h5
    have:a'=u:=by omega
    subst this
    have hbj:b'=j:=by
     rcases Nat.lt_trichotomy b' j with hl|hl|hl
     ·exact absurd (h7.symm.trans hj2.symm) ((hL a' hun j hj1).2.2.2 b' hl)
     ·exact hl
     ·exact absurd (hj2.trans h7) ((hL a' hun b' h4').2.2.2 j hl)
    subst hbj
    exact h8
 by_cases hS:∀v,v<ps.length->∀i,i<(at' ps (v:Int)).length->Gc ([],ps) v i
 ·rw[decide_eq_true (hiff.2 hS)]
  exact⟨fun _=>rfl,fun h=>absurd ⟨hL,hS⟩ h⟩
 ·rw[decide_eq_false (fun h=>hS (hiff.1 h))]
  exact⟨fun h=>absurd h.2 hS,fun _=>rfl⟩
theorem Dv (g:GR):(VG g->eV 1000 g=some true)∧(¬VG g->eV 1000 g=some false):=by
 unfold eV kW nQ
 by_cases h1:g.1.length<1
 ·rw[if_pos (by omega)]
  exact⟨fun h=>by have:=h.n1;have:=h.len;omega,fun _=>rfl⟩
 rw[if_neg (by omega)]
 by_cases h2:24<g.1.length
 ·rw[if_pos (by omega)]
  exact⟨fun h=>by have:=h.n24;have:=h.len;omega,fun _=>rfl⟩
 rw[if_neg (by omega)]
 by_cases h3:g.1.length=g.2.length
 rotate_left
 ·rw[decide_eq_true (by omega)]
  exact⟨fun h=>absurd h.len h3,fun _=>rfl⟩
 rw[decide_eq_false (by omega),if_neg (by simp)]
 by_cases h4:∀k,k<g.1.length->Oe g.1 k
 rotate_left
 ·rw[(rQ g.1 (by omega)).2 h4,bN rfl]
  exact⟨fun h=>absurd (fun k hk=>⟨(h.node k (by omega)).id,(h.node k (by omega)).ids⟩) h4,fun _=>rfl⟩
 rw[(rQ g.1 (by omega)).1 h4,bN rfl,if_pos rfl]
 by_cases h5:Gd g.2
 ·rw[(Bn g.2 (by omega)).1 h5]
  exact⟨fun _=>rfl,fun h=>absurd ⟨by omega,by omega,h3,fun v hv=>⟨(h4 v (by omega)).1,KC hv (h5.1 v hv),h5.1 v hv,(h4 v (by omega)).2⟩,h5.2⟩ h⟩
 ·rw[(Bn g.2 (by omega)).2 h5]
  exact⟨fun h=>absurd ⟨fun v hv=>(h.node v hv).links,h.sym⟩ h5,fun _=>rfl⟩
end Go.Proofs.YtigggfnchamobaaGreatDoor
end
section
namespace Go.Proofs.YtigggfnchamobaaGreatDoor
open Go.Sx
abbrev Ko:=Int×List (Int)×List (Int)×List (Int)×Bool×Bool
theorem sX (v m:Int) (h1:1<=m) (h2:m<=4611686018427387904):eS 1000 v m=some (v%m):=by
 unfold eS pA
 rw[if_neg (by omega),dV (by omega)]
 have hm:=Int.tmod_eq_emod (a:=v) (b:=m)
 have h0:=Int.emod_nonneg v (show m≠0 by omega)
 have h3:=Int.emod_lt_of_pos v (show 0<m by omega)
 by_cases hc:0<=v∨m∣v
 ·rw[if_pos hc]at hm
  have hm':v.tmod m=v%m:=by simpa using hm
  rw[hm',if_neg (by omega)]
 ·rw[if_neg hc]at hm
  have:(m.natAbs:Int)=m:=by omega
  rw[hm,if_pos (by omega),wr (by omega) (by omega)]
  congr 1;omega
theorem IS (l:List Int) (i:Int) (h:0<=i):oH 1000 l i=some (at' l i):=by
 unfold oH
 by_cases hi:i<(l.length:Int)
 ·rw[if_pos hi,dV ⟨h,hi⟩]
 ·rw[if_neg hi]
  unfold at'
  rw[List.getD_eq_getElem?_getD,List.getElem?_eq_none (by omega)];rfl

theorem Js {α:Type} [DecidableEq α]:∀(l1 l2:List α),l1.Nodup->(∀x∈l1,x∈l2)->l1.length<=l2.length
 | [],_,_,_=>Nat.zero_le _
 | a :: t, l2, hn, hs => by
  have hn':=List.nodup_cons.1 hn
  have ha:=hs a (List.mem_cons_self ..)
  have:=Js t (l2.erase a) hn'.2 fun x hx=>by
   have hne:x≠a:=fun he=>hn'.1 (he▸hx)
   exact(List.mem_erase_of_ne hne).2 (hs x (List.mem_cons_of_mem _ hx))
  rw[List.length_erase_of_mem ha]at this
  have hpos:0<l2.length:=List.length_pos_of_mem ha
  simp only[List.length_cons]
  omega
theorem QG (id0:Int) (ids:List Int) (t:Nat) (ht:t<=200) (h:∀s,s<t->(id0+(s:Int))%256∈ids):t<=ids.length:=by
 have:=Js ((List.range t).map fun s:Nat=>(id0+(s:Int))%256) ids (by
  rw[List.nodup_iff_pairwise_ne,List.pairwise_map]
  refine List.Pairwise.imp_of_mem ?_ List.pairwise_lt_range
  intro a b ha hb hab
  rw[List.mem_range]at ha hb
  omega) (fun x hx=>by
  obtain⟨s,hs,rfl⟩:=List.mem_map.1 hx
  exact h s (List.mem_range.1 hs))
 simpa using this

structure Er (ids:List Int):Prop where
 rng:∀y∈ids,0<=y∧y<=255
 nd:ids.Nodup
theorem Er.snoc {ids:List Int} {y:Int} (h:Er ids) (hy:0<=y∧y<=255) (hn:y∉ids):Er (ids++[y]):=by
 refine⟨fun z hz=> ?_,?_⟩
 ·rcases List.mem_append.1 hz with hz|hz
  ·exact h.rng z hz
  ·rw[List.mem_singleton.1 hz];exact hy
 ·rw[List.nodup_append]
  refine⟨h.nd,by simp,?_⟩
  intro a ha b hb
  rw[List.mem_singleton.1 hb]
  exact fun he=>hn (he▸ha)
theorem xX {α:Type} [Inhabited α] {l:List α} {i:Nat} (h:i<l.length):at' l (i:Int)∈l:=by
 rw[jF,List.getD_eq_getElem?_getD,List.getElem?_eq_getElem h]
 exact List.getElem_mem h
theorem CU {α:Type} [Inhabited α] {l:List α} {x:α} (h:x∈l):∃i,i<l.length∧at' l ((i:Nat):Int)=x:=by
 obtain⟨i,hi,he⟩:=List.getElem_of_mem h
 refine⟨i,hi,?_⟩
 rw[jF,List.getD_eq_getElem?_getD,List.getElem?_eq_getElem hi]
 exact he
theorem PG {Q:List Int×List (List (Int×Int))->Prop} {ids:List Int} (hl:ids.length<=24) (id0:Int) (ag:Int×List Int->Option (List Int×List (List (Int×Int))))
  (hag:∀y,0<=y->y<=255->y∉ids->OK Q (ag ((ids.length:Int)+1,ids++[y]))):OK Q (bK (gR ((ids.length:Int),ids) ag) 1000 (id0%256,0)):=by
 refine AM (fun s:Int×Int=>∃(t u:Nat),s.1=(id0+(t:Int))%256∧s.2=u∧u<=ids.length∧t<=ids.length∧(∀k,k<t->(id0+(k:Int))%256∈ids)∧∀j,j<u->at' ids (j:Int)≠s.1)
  (fun s=>(ids.length - ((s.1 - id0)%256).toNat)*30+(ids.length - s.2.toNat)) ?_ 1000 _ ⟨0,0,by simp,rfl,by omega,by omega,fun k hk=>by omega,fun j hj=>by omega⟩ ?_
 ·rintro⟨i,j⟩ ag' ⟨t,u,h1,h2,h3,h4,h5,h6⟩ hrec
  dsimp only at h1 h2 h6
  subst h2
  unfold gR lV jH
  dsimp only
  by_cases hu:(u:Int)<(ids.length:Int)
  ·rw[if_pos hu,dV (by omega)]
   by_cases he:at' ids (u:Int)=i
   ·rw[if_pos he,dV (by decide)]
    have hin:(id0+(t:Int))%256∈ids:=by rw[<-h1,<-he];exact xX (by omega)
    have hall:∀k,k<t+1->(id0+(k:Int))%256∈ids:=fun k hk=>by
     rcases Nat.lt_succ_iff_lt_or_eq.1 hk with h|h
     ·exact h5 k h
     ·subst h;exact hin
    have ht:=QG id0 ids (t+1) (by omega) hall
    have hi:0<=i∧i<=255:=by omega
    rw[wr (by omega) (by omega),Int.tmod_eq_emod_of_nonneg (by omega),wr (by omega) (by omega)]
    refine hrec _ ⟨t+1,0,?_,by simp,by omega,ht,hall,fun j hj=>by omega⟩ ?_
    ·dsimp only;omega
    ·dsimp only
     have e1:((i+1)%256 - id0)%256=(t:Int)+1:=by omega
     have e2:(i - id0)%256=(t:Int):=by omega
     rw[e1,e2];omega
   ·rw[if_neg he,wr (by omega) (by omega)]
    refine hrec _ ⟨t,u+1,h1,by dsimp only;omega,by omega,h4,h5,fun j hj=> ?_⟩ ?_
    ·rcases Nat.lt_succ_iff_lt_or_eq.1 hj with h|h
     ·exact h6 j h
     ·subst h;exact he
    ·dsimp only;omega
  ·rw[if_neg hu]
   rw[dV (by simp;omega),wr (by omega) (by omega)]
   refine hag i (by omega) (by omega) fun hm=> ?_
   obtain⟨k,hk,hke⟩:=CU hm
   exact h6 k (by omega) hke
 ·dsimp only
  have e:(id0%256 - id0)%256=0:=by omega
  rw[e];omega
theorem Jr (x:Ko) (most:Nat) (h1:1<=most) (h24:most<=24):OK (fun g:GR=>Er g.1∧g.2=List.replicate g.1.length []∧1<=g.1.length∧g.1.length<=most) (iG 1000 x (most:Int)):=by
 unfold iG
 rw[bN (sX _ _ (by omega) (by omega))]
 generalize hr:(wI .i64 (x.1 - 1))%(most:Int)=r
 have hr0:0<=r:=by rw[<-hr];exact Int.emod_nonneg _ (by omega)
 have hr1:r<most:=by rw[<-hr];exact Int.emod_lt_of_pos _ (by omega)
 have hw:wI .i64 (1+r)=1+r:=wr (by omega) (by omega)
 rw[hw,dV (by omega)]
 refine AM (fun s:Int×List Int=>s.1=(s.2.length:Int)∧(s.2.length:Int)<=1+r∧Er s.2) (fun s=>(1+r - s.1).toNat) ?_ 1000 _ ⟨rfl,by simp;omega,⟨fun y hy=>by simp at hy,List.nodup_nil⟩⟩ (by dsimp only;omega)
 rintro⟨v,ids⟩ ag ⟨ha,hb,hc⟩ hrec
 dsimp only at ha hb hc
 subst ha
 unfold fI lU
 dsimp only
 rw[hw]
 by_cases hv:(ids.length:Int)<1+r
 ·rw[if_pos hv,bN (IS _ _ (by omega)),bN (sX _ _ (by decide) (by decide))]
  exact PG (by omega) _ ag fun y y0 y1 y2=>hrec _ ⟨by simp,by simp;omega,hc.snoc ⟨y0,y1⟩ y2⟩ (by dsimp only;omega)
 ·rw[if_neg hv]
  refine⟨_,rfl,hc,?_,by dsimp only;omega,by dsimp only;omega⟩
  dsimp only
  congr 1;omega

structure VM (ids:List Int) (P:List (List (Int×Int))):Prop where
 n1:1<=P.length
 n24:P.length<=24
 len:ids.length=P.length
 ok:Er ids
 nd:∀v:Nat,v<P.length->((at' P (v:Int)).map Prod.fst).Nodup
 lk:∀v:Nat,v<P.length->∀x∈at' P (v:Int),(0<=x.1∧x.1<=(P.length:Int) - 1)∧x.1≠(v:Int)∧(1<=x.2∧x.2<=15)∧((v:Int),x.2)∈at' P x.1
theorem Qf {α:Type} [Inhabited α] {l:List α} (h:l.Nodup) {i j:Nat} (hi:i<l.length) (hj:j<l.length) (hij:i<j):at' l (i:Int)≠at' l (j:Int):=by
 rw[jF,jF,List.getD_eq_getElem?_getD,List.getD_eq_getElem?_getD,List.getElem?_eq_getElem hi,List.getElem?_eq_getElem hj]
 exact List.pairwise_iff_getElem.1 (List.nodup_iff_pairwise_ne.1 h) i j hi hj hij
theorem VM.vg {ids:List Int} {P:List (List (Int×Int))} (h:VM ids P):VG (ids,P):=by
 have hlen:=h.len
 have links:∀v,v<P.length->rO (row (ids,P) v) v P.length:=by
  intro v hv i hi
  have hm:iS (row (ids,P) v) i∈at' P (v:Int):=xX hi
  obtain⟨a1,a2,a3,_⟩:=h.lk v hv _ hm
  refine⟨a1,a2,a3,fun k hk=> ?_⟩
  have hk2:k<(row (ids,P) v).length:=by omega
  have:=List.pairwise_iff_getElem.1 (List.nodup_iff_pairwise_ne.1 (h.nd v hv)) k i (by simpa using hk2) (by simpa using hi) hk
  rw[List.getElem_map,List.getElem_map]at this
  have e:∀j (hj:j<(row (ids,P) v).length),iS (row (ids,P) v) j=(at' P (v:Int))[j]'hj:=fun j hj=>by
   unfold iS
   rw[jF,List.getD_eq_getElem?_getD,List.getElem?_eq_getElem hj];rfl
  rw[e k hk2,e i hi]
  exact this
 refine⟨h.n1,h.n24,h.len,fun v hv=>⟨?_,KC hv (links v hv),links v hv,fun k hk=> ?_⟩,fun v hv i hi=> ?_⟩
 ·exact h.ok.rng _ (xX (by dsimp only at hv ⊢;omega))
 ·exact Qf h.ok.nd (by dsimp only at hv ⊢;omega) (by dsimp only at hv ⊢;omega) hk
 ·have hm:iS (row (ids,P) v) i∈at' P (v:Int):=xX hi
  obtain⟨_,_,_,a4⟩:=h.lk v hv _ hm
  obtain⟨j,hj,he⟩:=CU a4
  exact⟨j,hj,by unfold iS;rw[he],by unfold iS;rw[he]⟩
theorem VM.start {ids:List Int} (h:Er ids) (h1:1<=ids.length) (h24:ids.length<=24):VM ids (List.replicate ids.length []):=by
 have e:∀v:Nat,at' (List.replicate ids.length ([]:List (Int×Int))) (v:Int)=[]:=fun v=>by
  rw[jF,List.getD_eq_getElem?_getD,List.getElem?_replicate]
  split<;>rfl
 refine⟨by simpa using h1,by simpa using h24,by simp,h,fun v _=>by rw[e];exact List.nodup_nil,fun v _ x hx=> ?_⟩
 rw[e]at hx
 cases hx
def lO (P:List (List (Int×Int))) (v u:Nat):Prop:=∃x∈at' P (v:Int),x.1=(u:Int)
theorem Gz (ids:List Int) (P:List (List (Int×Int))) (a b:Nat) (ha:a<P.length) (hl:(at' P (a:Int)).length<=900):(lO P a b->lD 1000 (ids,P) a b=some true)∧(¬lO P a b->lD 1000 (ids,P) a b=some false):=by
 have step:∀(r:Bool),(r=true->lO P a b)->(r=false->¬lO P a b)->lD 1000 (ids,P) a b=some r:=by
  intro r ht hf
  unfold lD
  refine HE (fun i:Int=>∃k:Nat,i=k∧k<=(at' P (a:Int)).length∧∀j,j<k->(at' (at' P (a:Int)) ((j:Nat):Int)).1≠(b:Int)) (fun i=>(at' P (a:Int)).length - i.toNat) ?_ 1000 0 ⟨0,rfl,by omega,fun j hj=>by omega⟩ (by omega)
  rintro i ag ⟨k,rfl,hk,hno⟩ hrec
  unfold sC sB
  dsimp only
  rw[dV (by omega)]
  by_cases hi:(k:Int)<((at' P (a:Int)).length:Int)
  ·rw[if_pos hi,dV (by omega),dV (by omega)]
   by_cases he:(at' (at' P (a:Int)) (k:Int)).1=(b:Int)
   ·rw[if_pos he]
    cases r with
    |true=>rfl
    |false=>exact absurd ⟨_,xX (by omega),he⟩ (hf rfl)
   ·rw[if_neg he,wr (by omega) (by omega)]
    refine hrec _ ⟨k+1,by omega,by omega,fun j hj=> ?_⟩ (by omega)
    rcases Nat.lt_succ_iff_lt_or_eq.1 hj with h|h
    ·exact hno j h
    ·subst h;exact he
  ·rw[if_neg hi]
   cases r with
   |false=>rfl
   |true=>
    obtain⟨x,hx,he⟩:=ht rfl
    obtain⟨j,hj,hje⟩:=CU hx
    exact absurd (by rw[hje];exact he) (hno j (by omega))
 exact⟨fun h=>step true (fun _=>h) (fun hc=>by cases hc),fun h=>step false (fun hc=>by cases hc) (fun _=>h)⟩
theorem RB (P:List (List (Int×Int))) (a b:Nat) (x y:List (Int×Int)) (ha:a<P.length) (hb:b<P.length) (v:Nat):at' ((P.set a x).set b y) (v:Int)=if v=b then y else if v=a then x else at' P (v:Int):=by
 rw[jF,jF,List.getD_eq_getElem?_getD,List.getD_eq_getElem?_getD,List.getElem?_set,List.getElem?_set]
 by_cases h:v=b
 ·subst h;rw[if_pos rfl,if_pos rfl,if_pos (by simpa using hb)];rfl
 ·rw[if_neg (fun hc=>h hc.symm),if_neg h]
  by_cases h2:v=a
  ·subst h2;rw[if_pos rfl,if_pos rfl,if_pos ha];rfl
  ·rw[if_neg (fun hc=>h2 hc.symm),if_neg h2]
theorem VM.add {ids:List Int} {P:List (List (Int×Int))} (h:VM ids P) {a b:Nat} {w:Int} (ha:a<P.length) (hb:b<P.length) (hab:a≠b) (hn:¬lO P a b) (hw:1<=w∧w<=15)
  {x y:List (Int×Int)} (hx:x.Perm (((b:Int),w)::at' P (a:Int))) (hy:y.Perm (((a:Int),w)::at' P (b:Int))):
  VM ids ((P.set a x).set b y)∧(∀v u,lO P v u->lO ((P.set a x).set b y) v u)∧lO ((P.set a x).set b y) a b:=by
 have hn2:¬lO P b a:=by
  rintro⟨z,hz,he⟩
  obtain⟨_,_,_,hb4⟩:=h.lk b hb z hz
  rw[he]at hb4
  exact hn ⟨_,hb4,rfl⟩
 have hr:=RB P a b x y ha hb
 have hL:((P.set a x).set b y).length=P.length:=by simp
 have mem:∀(v:Nat) (z:Int×Int),z∈at' ((P.set a x).set b y) (v:Int)↔z∈at' P (v:Int)∨(v=b∧z=((a:Int),w))∨(v=a∧z=((b:Int),w)):=by
  intro v z
  rw[hr v]
  by_cases h1:v=b
  ·subst h1
   rw[if_pos rfl,hy.mem_iff,List.mem_cons]
   constructor
   ·rintro(h2|h2)
    ·exact .inr (.inl ⟨rfl,h2⟩)
    ·exact .inl h2
   ·rintro(h2|⟨_,h2⟩|⟨h3,_⟩)
    ·exact .inr h2
    ·exact .inl h2
    ·exact absurd h3.symm hab
  ·rw[if_neg h1]
   by_cases h2:v=a
   ·subst h2
    rw[if_pos rfl,hx.mem_iff,List.mem_cons]
    constructor
    ·rintro(h3|h3)
     ·exact .inr (.inr ⟨rfl,h3⟩)
     ·exact .inl h3
    ·rintro(h3|⟨h4,_⟩|⟨_,h3⟩)
     ·exact .inr h3
     ·exact absurd h4 h1
     ·exact .inl h3
   ·rw[if_neg h2]
    exact⟨.inl,fun h3=>h3.elim id fun h4=>h4.elim (fun h5=>absurd h5.1 h1) fun h5=>absurd h5.1 h2⟩
 refine⟨⟨by rw[hL];exact h.n1,by rw[hL];exact h.n24,by rw[hL];exact h.len,h.ok,fun v hv=> ?_,fun v hv z hz=> ?_⟩,fun v u hvu=> ?_,?_⟩
 ·rw[hL]at hv
  rw[hr v]
  by_cases h1:v=b
  ·subst h1
   rw[if_pos rfl,(hy.map Prod.fst).nodup_iff,List.map_cons,List.nodup_cons]
   exact⟨fun hc=>by obtain⟨z,hz,he⟩:=List.mem_map.1 hc;exact hn2 ⟨z,hz,he⟩,h.nd v hv⟩
  ·rw[if_neg h1]
   by_cases h2:v=a
   ·subst h2
    rw[if_pos rfl,(hx.map Prod.fst).nodup_iff,List.map_cons,List.nodup_cons]
    exact⟨fun hc=>by obtain⟨z,hz,he⟩:=List.mem_map.1 hc;exact hn ⟨z,hz,he⟩,h.nd v hv⟩
   ·rw[if_neg h2];exact h.nd v hv
 ·rw[hL]at hv ⊢
  rcases(mem v z).1 hz with h1|⟨rfl,rfl⟩|⟨rfl,rfl⟩
  ·obtain⟨b1,b2,b3,b4⟩:=h.lk v hv z h1
   refine⟨b1,b2,b3,?_⟩
   obtain⟨u,hu⟩:∃u:Nat,z.1=u:=⟨z.1.toNat,by omega⟩
   rw[hu]at b4 ⊢
   exact(mem u _).2 (.inl b4)
  ·exact⟨by dsimp only;omega,by dsimp only;omega,hw,(mem a _).2 (.inr (.inr ⟨rfl,rfl⟩))⟩
  ·exact⟨by dsimp only;omega,by dsimp only;omega,hw,(mem b _).2 (.inr (.inl ⟨rfl,rfl⟩))⟩
 ·obtain⟨z,hz,he⟩:=hvu
  exact⟨z,(mem v z).2 (.inl hz),he⟩
 ·exact⟨_,(mem a _).2 (.inr (.inr ⟨rfl,rfl⟩)),rfl⟩
theorem Mh (x:Ko) {ids:List Int} {P:List (List (Int×Int))} (h:VM ids P) {a b:Nat} {w:Int} (ha:a<P.length) (hb:b<P.length) (hw:1<=w∧w<=15):
  ∃P',iX 1000 x (ids,P) a b w=some P'∧VM ids P'∧P'.length=P.length∧(∀v u,lO P v u->lO P' v u)∧(a≠b->lO P' a b):=by
 have h24:=h.n24
 have dg:∀v:Nat,v<P.length->(at' P (v:Int)).length<24:=fun v hv=>by
  have:=(h.vg.node v hv).deg
  have e:(at' P (v:Int)).length=(row (ids,P) v).length:=rfl
  dsimp only at this
  omega
 have da:=dg a ha
 have db:=dg b hb
 unfold iX
 by_cases hab:a=b
 ·subst hab
  rw[if_pos rfl]
  exact⟨P,rfl,h,rfl,fun _ _ h=>h,fun hc=>absurd rfl hc⟩
 rw[if_neg (by omega)]
 by_cases hn:lO P a b
 ·rw[bN ((Gz ids P a b ha (by omega)).1 hn)]
  exact⟨P,rfl,h,rfl,fun _ _ h=>h,fun _=>hn⟩
 rw[bN ((Gz ids P a b ha (by omega)).2 hn)]
 unfold kD
 rw[if_neg (by simp)]
 dsimp only
 cases hbk:x.2.2.2.2.2 with
 | true =>
  rw[if_pos rfl]
  have e:at' (P.set (Int.toNat (a:Int)) ([((b:Int),w)]++at' P (a:Int))) (b:Int)=at' P (b:Int):=by
   rw[jF,List.getD_eq_getElem?_getD,List.getElem?_set,if_neg (by simpa using hab),jF,List.getD_eq_getElem?_getD]
  rw[e]
  rw[dV (by omega),dV (by simp;omega),dV (by omega),dV (by simp;omega),dV (by simp;omega),dV (by simp;omega)]
  obtain⟨h1,h2,h3⟩:=h.add ha hb hab hn hw (List.Perm.refl _) (List.Perm.refl _)
  exact⟨_,rfl,h1,by simp,h2,fun _=>h3⟩
 |false=>
  rw[if_neg (by simp)]
  rw[dV (by omega),dV (by omega),dV (by simp;omega),dV (by simp;omega),dV (by simpa using hab),dV (by simp;omega),dV (by simp;omega)]
  obtain⟨h1,h2,h3⟩:=h.add ha hb hab hn hw (x:=at' P (a:Int)++[((b:Int),w)]) (y:=at' P (b:Int)++[((a:Int),w)]) List.perm_append_comm List.perm_append_comm
  exact⟨_,rfl,h1,by simp,h2,fun _=>h3⟩
theorem GT (v:Int):wI .i64 (1+v%15)=1+v%15∧1<=1+v%15∧1+v%15<=15:=by
 have:=Int.emod_nonneg v (show(15:Int)≠0 by decide)
 have:=Int.emod_lt_of_pos v (show(0:Int)<15 by decide)
 exact⟨wr (by omega) (by omega),by omega,by omega⟩

theorem Tm (x:Ko) (most:Nat) (h1:1<=most) (h24:most<=24):
  OK (fun g:GR=>VM g.1 g.2∧g.2.length<=most∧∀v:Nat,1<=v->v<g.2.length->∃u:Nat,u<v∧lO g.2 u v) (iW 1000 x (most:Int)):=by
 unfold iW
 obtain⟨⟨ids,P0⟩,e0,hid,hP,hn1,hn2⟩:=Jr x most h1 h24
 dsimp only at hP hid hn1 hn2
 rw[bN e0]
 dsimp only
 subst hP
 have hst:=VM.start hid hn1 (by omega)
 refine AM (fun s:Int×List (List (Int×Int))=>∃k:Nat,s.1=k∧1<=k∧k<=ids.length∧VM ids s.2∧s.2.length=ids.length∧∀v:Nat,1<=v->v<k->∃u:Nat,u<v∧lO s.2 u v) (fun s=>ids.length - s.1.toNat) ?_ 1000 _ ⟨1,rfl,by omega,hn1,hst,by simp,fun v hv hv2=>by omega⟩ (by dsimp only;omega)
 rintro⟨i,P⟩ ag ⟨k,hk,hk1,hk2,hV,hL,hT⟩ hrec
 dsimp only at hk hV hL hT
 subst hk
 unfold mR mQ
 dsimp only
 by_cases hi:(k:Int)<(P.length:Int)
 ·rw[if_pos hi,wr (by omega) (by omega),bN (IS _ _ (by omega)),bN (sX _ _ (by omega) (by omega)),bN (IS _ _ (by omega)),bN (sX _ _ (by decide) (by decide))]
  obtain⟨w1,w2,w3⟩:=GT (at' x.2.2.1 ((k:Int) - 1))
  rw[w1]
  generalize hu:at' x.2.1 ((k:Int) - 1)%(k:Int)=u
  have u0:0<=u:=by rw[<-hu];exact Int.emod_nonneg _ (by omega)
  have u1:u<k:=by rw[<-hu];exact Int.emod_lt_of_pos _ (by omega)
  obtain⟨u,rfl⟩:∃n:Nat,u=n:=⟨u.toNat,by omega⟩
  obtain⟨P',e1,v1,v2,v3,v4⟩:=Mh x hV (a:=u) (b:=k) (by omega) (by omega) ⟨w2,w3⟩
  rw[bN e1,wr (by omega) (by omega)]
  refine hrec _ ⟨k+1,by dsimp only;omega,by omega,by omega,v1,by dsimp only;omega,fun v hv hv2=> ?_⟩ (by dsimp only;omega)
  by_cases hvk:v=k
  ·subst hvk;exact⟨u,by omega,v4 (by omega)⟩
  ·obtain⟨u',hu1,hu2⟩:=hT v hv (by omega)
   exact⟨u',hu1,v3 _ _ hu2⟩
 ·rw[if_neg hi]
  exact⟨_,rfl,hV,by dsimp only;omega,fun v hv hv2=>hT v hv (by dsimp only at hv2;omega)⟩
theorem Mm (x:Ko) {ids:List Int} {P:List (List (Int×Int))} (h:VM ids P):OK (fun g:GR=>VM g.1 g.2∧g.1=ids∧g.2.length=P.length∧∀v u,lO P v u->lO g.2 v u) (iY 1000 x (ids,P)):=by
 unfold iY
 have h24:=h.n24
 have hp1:=h.n1
 refine AM (fun s:Int×List (List (Int×Int))=>∃k:Nat,s.1=k∧k<=100∧VM ids s.2∧s.2.length=P.length∧∀v u,lO P v u->lO s.2 v u) (fun s=>200 - s.1.toNat) ?_ 1000 _ ⟨P.length,rfl,by omega,h,rfl,fun _ _ h=>h⟩ (by dsimp only;omega)
 rintro⟨i,Q⟩ ag ⟨k,hk,hk2,hV,hL,hN⟩ hrec
 dsimp only at hk hV hL hN
 subst hk
 have done:∀b:Bool,b=false->OK (fun g:GR=>VM g.1 g.2∧g.1=ids∧g.2.length=P.length∧∀v u,lO P v u->lO g.2 v u) (iC 1000 x (ids,P) ((k:Int),Q) ag b):=by
  rintro b rfl
  exact⟨_,rfl,hV,rfl,hL,hN⟩
 unfold kE
 dsimp only
 rw[wr (by omega) (by omega)]
 by_cases h1:(k:Int)+1<(x.2.1.length:Int)
 rotate_left
 ·rw[if_neg h1];exact done _ rfl
 rw[if_pos h1]
 by_cases h2:(k:Int)<60
 rotate_left
 ·exact done _ (decide_eq_false h2)
 rw[decide_eq_true h2]
 unfold iC
 dsimp only
 rw[if_pos rfl,dV (by omega),bN (sX _ _ (by omega) (by omega)),wr (by omega) (by omega),dV (by omega),bN (sX _ _ (by omega) (by omega)),bN (IS _ _ (by omega)),bN (sX _ _ (by decide) (by decide))]
 obtain⟨w1,w2,w3⟩:=GT (at' x.2.2.1 (k:Int))
 rw[w1]
 generalize hu:at' x.2.1 (k:Int)%(P.length:Int)=u
 have u0:0<=u:=by rw[<-hu];exact Int.emod_nonneg _ (by omega)
 have u1:u<P.length:=by rw[<-hu];exact Int.emod_lt_of_pos _ (by omega)
 obtain⟨u,rfl⟩:∃n:Nat,u=n:=⟨u.toNat,by omega⟩
 generalize ht:at' x.2.1 ((k:Int)+1)%(P.length:Int)=t
 have t0:0<=t:=by rw[<-ht];exact Int.emod_nonneg _ (by omega)
 have t1:t<P.length:=by rw[<-ht];exact Int.emod_lt_of_pos _ (by omega)
 obtain⟨t,rfl⟩:∃n:Nat,t=n:=⟨t.toNat,by omega⟩
 obtain⟨P',e1,v1,v2,v3,v4⟩:=Mh x hV (a:=u) (b:=t) (by omega) (by omega) ⟨w2,w3⟩
 rw[bN e1,wr (by omega) (by omega)]
 exact hrec _ ⟨k+2,by dsimp only;omega,by omega,v1,by dsimp only;omega,fun v u hvu=>v3 _ _ (hN v u hvu)⟩ (by dsimp only;omega)
theorem Hw (x:Ko) (most:Nat) (h1:1<=most) (h24:most<=24):
  OK (fun g:GR=>VM g.1 g.2∧g.2.length<=most∧∀v:Nat,1<=v->v<g.2.length->∃u:Nat,u<v∧lO g.2 u v) (gW 1000 x (most:Int)):=by
 unfold gW
 obtain⟨⟨ids,P⟩,e0,hV,hL,hT⟩:=Tm x most h1 h24
 obtain⟨⟨ids',P'⟩,e1,hV',hi,hL',hN⟩:=Mm x hV
 rw[bN e0,bN e1]
 dsimp only at hL hT hV' hi hL' hN
 refine⟨_,rfl,hV',by dsimp only;omega,fun v hv hv2=> ?_⟩
 obtain⟨u,hu,hu2⟩:=hT v hv (by dsimp only at hv2;omega)
 exact⟨u,hu,hN _ _ hu2⟩
theorem Ug (x:Ko) (most:Nat) (h1:1<=most) (h24:most<=24):OK (fun g:GR=>VM g.1 g.2∧g.2.length<=most) (jT 1000 x (most:Int)):=by
 unfold jT
 cases hb:x.2.2.2.2.1 with
 |false=>
  obtain⟨⟨ids,P⟩,e0,hV,hL,_⟩:=Hw x most h1 h24
  rw[if_pos (by rfl)]
  rw[<-hb]at *
  rw[bN e0]
  exact⟨_,rfl,hV,hL⟩
 |true=>
  obtain⟨⟨ids,P⟩,e0,hid,hP,hn1,hn2⟩:=Jr x most h1 h24
  dsimp only at hP hid hn1 hn2
  subst hP
  obtain⟨⟨ids',P'⟩,e1,hV',hi,hL',hN⟩:=Mm x (VM.start hid hn1 (by omega))
  dsimp only at hV' hi hL' hN
  rw[if_neg (by simp)]
  rw[<-hb]at *
  rw[bN e0,bN e1]
  exact⟨_,rfl,hV',by simp at hL' ⊢;omega⟩
end Go.Proofs.YtigggfnchamobaaGreatDoor
end
section
namespace Go.Proofs.YtigggfnchamobaaGreatDoor
open Go Go.Sx
abbrev val (c:List (List Int)) (v x:Nat):Int:=at' (at' c (v:Int)) (x:Int)
def Bb (g:GR) (top:Int) (v:Nat) (a:Int):Prop:=if top = -1 then -1<=a∧a<=((row g v).length:Int) - 1 else 0<=a∧a<=top
instance (g:GR) (top:Int) (v:Nat) (a:Int):Decidable (Bb g top v a):=by unfold Bb;infer_instance
structure Cf (g:GR) (c:List (List Int)) (tops:List Int):Prop where
 len:c.length=g.2.length
 row:∀v,v<g.2.length->(at' c (v:Int)).length=tops.length
 ok:∀v,v<g.2.length->∀x,x<tops.length->Bb g (at' tops (x:Int)) v (val c v x)
theorem CY {g:GR} (hV:VG g) (c:List (List Int)) (tops:List Int) (ht:tops.length<=900):(Cf g c tops->fX 1000 g c tops=some true)∧(¬Cf g c tops->fX 1000 g c tops=some false):=by
 have h24:=hV.n24
 have hlen:=hV.len
 unfold fX
 by_cases h1:c.length=g.2.length
 rotate_left
 ·rw[if_pos (by omega)]
  exact⟨fun h=>absurd h.len h1,fun _=>rfl⟩
 rw[if_neg (by omega)]
 have inner:∀(v:Nat) (ag:Int->Option Bool),v<g.2.length->(at' c (v:Int)).length=tops.length->((∀x,x<tops.length->Bb g (at' tops (x:Int)) v (val c v x))->bK (dB g c tops v ag) 1000 0=ag ((v:Int)+1))∧(¬(∀x,x<tops.length->Bb g (at' tops (x:Int)) v (val c v x))->bK (dB g c tops v ag) 1000 0=some false):=by
  intro v ag hv hr
  have hdeg:(at' g.2 (v:Int)).length<g.2.length:=(hV.node v hv).deg
  have fin:∀(x:Nat) (ag2:Int->Option Bool) (lo hi a:Int),x<tops.length->at' (at' c (v:Int)) (x:Int)=a->gS c v x ag2 (lo,hi)=if lo<=a∧a<=hi then ag2 ((x:Int)+1)else some false:=by
   intro x ag2 lo hi a hx ha
   unfold gS jJ
   rw[ha]
   have hw:wI .i64 ((x:Int)+1)=(x:Int)+1:=wr (by omega) (by omega)
   by_cases a1:lo<=a
   ·by_cases a2:a<=hi
    ·simp[a1,a2,hw,show¬a<lo by omega,show¬hi<a by omega]
    ·simp[a1,a2,hw,show¬a<lo by omega,show hi<a by omega]
   ·simp[a1,hw,show a<lo by omega]
  have body:∀(x:Nat) (ag2:Int->Option Bool),x<tops.length->dB g c tops v ag x ag2=if Bb g (at' tops (x:Int)) v (val c v x)then ag2 ((x:Int)+1)else some false:=by
   intro x ag2 hx
   unfold dB
   rw[if_pos (by omega),dV (by omega),dV (by omega)]
   unfold Bb
   by_cases ht1:at' tops (x:Int) = -1
   ·rw[if_pos ht1,dV (by omega),fin x ag2 _ _ _ hx rfl,wr (by omega) (by omega)]
    simp only[ht1,if_true]
   ·rw[if_neg ht1,fin x ag2 _ _ _ hx rfl]
    simp only[ht1,if_false]
  refine Ei tops.length _ (fun x ag2 hx hp=> ?_) (fun x ag2 hx hp=> ?_) (fun ag2=> ?_) 1000 (by omega)
  ·rw[body x ag2 hx,if_pos hp]
  ·rw[body x ag2 hx,if_neg hp]
  ·unfold dB lX
   rw[if_neg (by omega),wr (by omega) (by omega)]
 have outer:=Ei (step:=cP 1000 g c tops) (K:=some true) (bad:=false) g.2.length (fun v=>(at' c (v:Int)).length=tops.length∧∀x,x<tops.length->Bb g (at' tops (x:Int)) v (val c v x)) (fun v ag hv hp=> ?_) (fun v ag hv hp=> ?_) (fun ag=> ?_) 1000 (by omega)
 ·exact⟨fun h=>outer.1 fun v hv=>⟨h.row v hv,h.ok v hv⟩,fun h=>outer.2 fun h'=>h ⟨h1,fun v hv=>(h' v hv).1,fun v hv=>(h' v hv).2⟩⟩
 ·unfold cP
  rw[if_pos (by omega),dV (by omega),if_neg (by have:=hp.1;omega)]
  exact(inner v ag hv hp.1).1 hp.2
 ·unfold cP
  rw[if_pos (by omega),dV (by omega)]
  by_cases hr:(at' c (v:Int)).length=tops.length
  ·rw[if_neg (by omega)]
   exact(inner v ag hv hr).2 fun h=>hp ⟨hr,h⟩
  ·rw[if_pos (by omega)]
 ·unfold cP lW
  rw[if_neg (by omega)]

def jW (g:GR):Nat->Int
 |0=>0
 |k+1=>max (jW g k) (at' g.1 (k:Int))
theorem Fg {g:GR} (hV:VG g):∀k,k<=g.2.length->0<=jW g k∧jW g k<=255
 |0,_=>by simp[jW]
 |k+1,h=>by
  have h1:=Fg hV k (by omega)
  have h2:0<=at' g.1 (k:Int)∧at' g.1 (k:Int)<=255:=(hV.node k (by omega)).id
  simp only[jW];omega
abbrev DY:=ByteArray×Int×Int×Int×Int×Int
def Ab (x:DY):Prop:=(0<=x.2.2.2.1∧x.2.2.2.1<=100000)∧(0<=x.2.2.2.2.1∧x.2.2.2.2.1<=100000)∧(0<=x.2.2.2.2.2∧x.2.2.2.2.2<=100000)
def lo (g:GR) (x:DY) (v:Nat):Int:=if x.2.1=2 then 0 else if x.2.1=3 then -1 else x.2.2.1
def hi (g:GR) (x:DY) (v:Nat):Int:=if x.2.1=2 then 1 else if x.2.1=3 then((row g v).length:Int) - 1 else x.2.2.2.1+x.2.2.2.2.1*(g.2.length:Int)+x.2.2.2.2.2*jW g g.1.length
structure Tw (g:GR) (c:List (List Int)) (vars:List DY):Prop where
 len:c.length=g.2.length
 row:∀v,v<g.2.length->(at' c (v:Int)).length=vars.length
 ok:∀v,v<g.2.length->∀x,x<vars.length->lo g (at' vars (x:Int)) v<=val c v x∧val c v x<=hi g (at' vars (x:Int)) v
theorem Tc {g:GR} {c:List (List Int)} {vars:List DY} {tops:List Int} (hl:vars.length=tops.length) (h:∀v x,v<g.2.length->x<tops.length->∀a,(lo g (at' vars (x:Int)) v<=a∧a<=hi g (at' vars (x:Int)) v)↔Bb g (at' tops (x:Int)) v a):Tw g c vars↔Cf g c tops:=
  ⟨fun k=>⟨k.len,fun v hv=>by rw[k.row v hv,hl],fun v hv x hx=>(h v x hv hx _).1 (k.ok v hv x (by omega))⟩,
   fun k=>⟨k.len,fun v hv=>by rw[k.row v hv,hl],fun v hv x hx=>(h v x hv (by omega) _).2 (k.ok v hv x (by omega))⟩⟩
end Go.Proofs.YtigggfnchamobaaGreatDoor
end
section
namespace Go.Proofs.YtigggfnchamobaaGreatDoor
open Go Go.Sx

def Jc (a b:Nat):Nat:=(BitVec.ofInt 32 (a:Int) &&& ~~~ BitVec.ofInt 32 (b:Int)).toNat
theorem Ps (a b:Nat):Jc a b<4294967296:=(BitVec.ofInt 32 (a:Int) &&& ~~~ BitVec.ofInt 32 (b:Int)).isLt
theorem CV {a i:Nat} (ha:a<4294967296) (h:a.testBit i=true):i<32:=by
 apply Classical.byContradiction
 intro hc
 rw[Nat.testBit_lt_two_pow (Nat.lt_of_lt_of_le ha (Nat.pow_le_pow_right (n:=2) (by omega) (show 32<=i by omega)))]at h
 cases h
theorem Nr {a b:Nat} (ha:a<4294967296) (hb:b<4294967296) (i:Nat):(Jc a b).testBit i=(a.testBit i && !b.testBit i):=by
 have:=BitVec.getLsbD_and (x:=BitVec.ofInt 32 (a:Int)) (y:= ~~~ BitVec.ofInt 32 (b:Int)) (i:=i)
 rw[BitVec.getLsbD_not]at this
 have h:(Jc a b).testBit i=((Ly (a:Int)).testBit i&&(decide (i<32) && !(Ly (b:Int)).testBit i)):=this
 rw[rP ha,rP hb]at h
 rw[h]
 cases hai:a.testBit i with
 |false=>simp
 |true=>simp[CV ha hai]
theorem ON (a b:Nat):vR .u32 (a:Int) (b:Int)=(Jc a b:Int):=GX _ (Ps a b)
theorem ED {a b:Nat} (ha:a<4294967296) (hb:b<4294967296):dD .u32 (a:Int) (b:Int)=((a &&& b:Nat):Int):=by rw[DZ,rP ha,rP hb]
theorem Xu {a b:Nat} (ha:a<4294967296) (hb:b<4294967296):Ho .u32 (a:Int) (b:Int)=((a ||| b:Nat):Int):=by rw[Uj,rP ha,rP hb]
theorem TH {a b:Nat} (ha:a<4294967296) (hb:b<4294967296):a ||| b<4294967296:=Nat.or_lt_two_pow (n:=32) ha hb
theorem Kx {a b:Nat} (ha:a<4294967296):a &&& b<4294967296:=Nat.lt_of_le_of_lt Nat.and_le_left ha
theorem Kz {a k:Nat} (ha:a<4294967296) (hk:k<32):Ho .u32 (a:Int) (yP .u32 1 (k:Int))=((a ||| 2^k:Nat):Int):=by rw[Tz hk,Xu ha (DI hk)]
theorem TG {a k:Nat} (hk:k<32) (ha:a<4294967296):dD .u32 (pH .u32 (a:Int) (k:Int)) 1=0↔a.testBit k=false:=by
 have h1:Ly 1=1:=rP (a:=1) (by omega)
 rw[Hp hk,DZ,rP (Nat.lt_of_le_of_lt (Nat.div_le_self _ _) ha),h1,Nat.and_one_is_mod,Nat.testBit_eq_decide_div_mod_eq,decide_eq_false_iff_not]
 omega
theorem Mi (p:Nat->Bool) {k:Nat} (hk:k<=32):xB p k<4294967296:=Nat.lt_of_lt_of_le (Jk p k) (Nat.pow_le_pow_right (n:=2) (by omega) hk)
theorem Xg {i:Nat} (h:i<1000000):wI .i64 ((i:Int)+1)=(i:Int)+1:=wr (by omega) (by omega)

def Cd (g:GR) (c:List (List Int)) (v i:Nat):Bool:=decide (val c v 0=at' (at' c (iS (row g v) i).1) 0)
def Oa (g:GR) (c:List (List Int)) (d:Nat):Prop:=VG g∧Cf g c [(g.2.length:Int)]∧∀v,v<g.2.length->d.testBit v=false->∀i,i<(row g v).length->Cd g c v i=false
theorem VG.to {g:GR} (hV:VG g) {v i:Nat} (hv:v<g.2.length) (hi:i<(row g v).length):∃u:Nat,u<g.2.length∧(iS (row g v) i).1=(u:Int):=by
 obtain⟨u,h1,h2,_⟩:=hV.port hv hi
 exact⟨u,h1,h2⟩
theorem IZ (g:GR) (c:List (List Int)) {d:Nat} (hd:d<4294967296):(Oa g c d->gX 1000 g c (d:Int)=some true)∧(¬Oa g c d->gX 1000 g c (d:Int)=some false):=by
 unfold gX
 by_cases hV:VG g
 rotate_left
 ·rw[(Dv g).2 hV,bN rfl,if_pos (by simp)]
  exact⟨fun h=>absurd h.1 hV,fun _=>rfl⟩
 rw[(Dv g).1 hV,bN rfl,if_neg (by simp)]
 have h24:=hV.n24
 have hlen:=hV.len
 rw[hlen]
 have hcf:=CY hV c [(g.2.length:Int)] (by simp)
 by_cases hC:Cf g c [(g.2.length:Int)]
 rotate_left
 ·rw[hcf.2 hC,bN rfl]
  exact⟨fun h=>absurd h.2.1 hC,fun _=>rfl⟩
 rw[hcf.1 hC,bN rfl]
 unfold lY
 rw[if_neg (by simp)]
 unfold pK
 have hrow:∀u:Nat,u<g.2.length->(at' c (u:Int)).length=1:=fun u hu=>hC.row u hu
 have hcl:=hC.len
 have inner:∀(v:Nat) (ag:Int->Option Bool),v<g.2.length->((∀i,i<(row g v).length->(d.testBit v=false->Cd g c v i=false))->bK (fC g c (d:Int) v ag) 1000 0=ag ((v:Int)+1))∧(¬(∀i,i<(row g v).length->(d.testBit v=false->Cd g c v i=false))->bK (fC g c (d:Int) v ag) 1000 0=some false):=by
  intro v ag hv
  have hdeg:(at' g.2 (v:Int)).length<g.2.length:=(hV.node v hv).deg
  have body:∀(i:Nat) (ag2:Int->Option Bool),i<(row g v).length->fC g c (d:Int) v ag i ag2=if d.testBit v=false∧Cd g c v i=true then some false else ag2 ((i:Int)+1):=by
   intro i ag2 hi
   obtain⟨u,hu,hue⟩:=hV.to hv hi
   have hue':(at' (at' g.2 (v:Int)) (i:Int)).1=(u:Int):=hue
   have hi':i<(at' g.2 (v:Int)).length:=hi
   have h1:=hrow v hv
   have h2:=hrow u hu
   unfold fC lZ
   rw[if_pos (by omega),dV (by omega),dV (by omega),hue']
   have hcls:Cd g c v i=decide (at' (at' c (v:Int)) 0=at' (at' c (u:Int)) 0):=by unfold Cd;rw[show iS (row g v) i=at' (at' g.2 (v:Int)) (i:Int)from rfl,hue'];rfl
   by_cases hb:d.testBit v=false
   ·rw[if_pos ((TG (by omega) hd).2 hb),dV (by omega),dV (by omega),dV (by omega),dV (by omega),Xg (by omega),hcls]
    by_cases hq:at' (at' c (v:Int)) 0=at' (at' c (u:Int)) 0<;>simp[hq,hb]
   ·rw[if_neg (fun h=>hb ((TG (by omega) hd).1 h)),Xg (by omega)]
    simp[hb]
  refine Ei (row g v).length _ (fun i ag2 hi hp=> ?_) (fun i ag2 hi hp=> ?_) (fun ag2=> ?_) 1000 (by have:(row g v).length<g.2.length:=hdeg;omega)
  ·rw[body i ag2 hi,if_neg (fun h=>by rw[hp h.1]at h;cases h.2)]
  ·rw[body i ag2 hi,if_pos]
   exact⟨Classical.byContradiction fun h=>hp fun h'=>absurd h' h,by cases hc:Cd g c v i with
    |true=>rfl
    |false=>exact absurd (fun _=>hc) hp⟩
  ·unfold fC pL
   rw[if_neg (by show¬(((row g v).length:Nat):Int)<((row g v).length:Int);omega),wr (by omega) (by omega)]
 have outer:=Ei (step:=eG 1000 g c (d:Int)) (K:=some true) (bad:=false) g.2.length (fun v=>∀i,i<(row g v).length->(d.testBit v=false->Cd g c v i=false)) (fun v ag hv hp=> ?_) (fun v ag hv hp=> ?_) (fun ag=> ?_) 1000 (by omega)
 ·exact⟨fun h=>outer.1 fun v hv i hi hb=>h.2.2 v hv hb i hi,fun h=>outer.2 fun h'=>h ⟨hV,hC,fun v hv hb i hi=>h' v hv i hi hb⟩⟩
 ·unfold eG
  rw[if_pos (by omega),dV (by omega)]
  exact(inner v ag hv).1 hp
 ·unfold eG
  rw[if_pos (by omega),dV (by omega)]
  exact(inner v ag hv).2 hp
 ·unfold eG pJ
  rw[if_neg (by omega)]

def q_:List DY:=[(ByteArray.mk #[99],1,0,0,1,0)]
theorem Vz:vU 1000=some q_:=rfl
theorem MD:∀x,x<q_.length->Ab (at' q_ (x:Int)):=by
 intro x hx
 obtain rfl:x=0:=by simp[q_]at hx;exact hx
 exact⟨by decide,by decide,by decide⟩
theorem WS {g:GR} (hV:VG g) {c:List (List Int)}:Tw g c q_↔Cf g c [(g.2.length:Int)]:=by
 refine Tc rfl fun v x hv hx a=> ?_
 obtain rfl:x=0:=by simp at hx;exact hx
 have e1:at' q_ ((0:Nat):Int)=(ByteArray.mk #[99],1,0,0,1,0):=rfl
 have e2:at' [(g.2.length:Int)] ((0:Nat):Int)=(g.2.length:Int):=rfl
 rw[e1,e2]
 unfold lo hi Bb
 simp only[show¬((1:Int)=2) by decide,show¬((1:Int)=3) by decide,if_false]
 rw[if_neg (by omega)]
 omega
end Go.Proofs.YtigggfnchamobaaGreatDoor
end
section
namespace Go.Proofs.YtigggfnchamobaaGreatDoor
open Go Go.Sx

end Go.Proofs.YtigggfnchamobaaGreatDoor
end
section
namespace Go.Proofs.YtigggfnchamobaaGreatDoor
open Go Go.Sx



def d0 (g:GR) (c:List (List Int)) (d v:Nat):Int:=if d.testBit v=true then at' (at' c (v:Int)) 0 else if v=0 then 0 else(g.2.length:Int)
def start (g:GR) (c:List (List Int)) (d:Nat):List Int:=(List.range g.2.length).map (d0 g c d)



end Go.Proofs.YtigggfnchamobaaGreatDoor
end
section
namespace Go.Proofs.YtigggfnchamobaaGreatDoor
open Go Go.Sx
theorem HY {α:Type} [Inhabited α] (l:List α) (x:α) {i:Nat} (hi:i<l.length+1):at' (l++[x]) (i:Int)=if i<l.length then at' l (i:Int)else x:=by
 rw[jF,jF]
 by_cases h:i<l.length
 ·rw[if_pos h,List.getD_eq_getElem?_getD,List.getD_eq_getElem?_getD,List.getElem?_append_left h]
 ·have:i=l.length:=by omega
  subst this
  rw[if_neg h];simp
def Oy (g:GR) (vars:List DY) (v:Nat) (l:List Int):Prop:=∀x,x<l.length->lo g (at' vars (x:Int)) v<=at' l (x:Int)∧at' l (x:Int)<=hi g (at' vars (x:Int)) v
theorem Np {g:GR} (hV:VG g) (vars:List DY) (raw:List Int) (ht:vars.length<=900) (hs:∀x,x<vars.length->Ab (at' vars (x:Int)) ∧ -100000<=(at' vars (x:Int)).2.2.1∧(at' vars (x:Int)).2.2.1<=(at' vars (x:Int)).2.2.2.1):
  OK (fun c=>Tw g c vars) (lC 1000 g vars raw):=by
 have h24:=hV.n24
 have hlen:=hV.len
 have e1:lC 1000 g vars raw=oY 1000 g vars raw (jW g g.2.length):=by
  unfold lC
  refine eI (F:=fun k:Nat=>((jW g k,(k:Int)):Int×Int)) g.2.length (fun k ag hk=> ?_) (fun ag=> ?_) 1000 (by omega)
  ·unfold oZ
   simp only
   rw[if_pos (by omega),dV (by omega),wr (by omega) (by omega)]
   rfl
  ·unfold oZ
   simp only
   rw[if_neg (by omega)]
 rw[e1]
 obtain⟨m1,m2⟩:=Fg hV g.2.length (by omega)
 unfold oY
 have key:=Aj (step:=gK 1000 g vars raw (jW g g.2.length)) (K:=fun x=>some x.1) g.2.length (fun v x=>x.2=(v:Int)∧x.1.length=v∧∀w,w<v->(at' x.1 (w:Int)).length=vars.length∧Oy g vars w (at' x.1 (w:Int))) (fun v x ag hv hI=> ?_) (fun x ag hI=> ?_) 1000 (([]:List (List Int)),(0:Int)) ⟨rfl,rfl,fun w hw=>by omega⟩ (by omega)
 ·obtain⟨⟨c,i⟩,⟨_,h2,h3⟩,he⟩:=key
  exact⟨c,he,h2,fun v hv=>(h3 v hv).1,fun v hv x hx=>(h3 v hv).2 x (by rw[(h3 v hv).1];exact hx)⟩
 ·obtain⟨c,i⟩:=x
  obtain⟨rfl,h2,h3⟩:=hI
  simp only at h2 h3
  have hdeg:(at' g.2 (v:Int)).length<g.2.length:=(hV.node v hv).deg
  unfold gK
  simp only
  rw[if_pos (by omega)]
  have key2:=Aj (step:=kB 1000 g vars raw (jW g g.2.length) (c,(v:Int)) ag) (K:=fun y=>ag (c++[y.1],(v:Int)+1)) vars.length (fun x y=>y.2=(x:Int)∧y.1.length=x∧Oy g vars v y.1) (fun x y ag2 hx hI=> ?_) (fun y ag2 hI=> ?_) 1000 (([]:List Int),(0:Int)) ⟨rfl,rfl,fun x hx=>by simp at hx⟩ (by omega)
  ·obtain⟨⟨l,j⟩,⟨_,k2,k3⟩,he⟩:=key2
   refine⟨(c++[l],(v:Int)+1),⟨by simp,by simp[h2],fun w hw=> ?_⟩,he⟩
   simp only
   rw[HY c l (by omega),h2]
   by_cases e:w<v
   ·rw[if_pos e];exact h3 w e
   ·rw[if_neg e]
    have:w=v:=by omega
    subst this
    exact⟨k2,k3⟩
  ·obtain⟨l,j⟩:=y
   obtain⟨rfl,k2,k3⟩:=hI
   simp only at k2 k3
   obtain⟨⟨s1,s2,s3⟩,s4,s5⟩:=hs x hx
   have fin:∀a b:Int,a=lo g (at' vars (x:Int)) v->b=hi g (at' vars (x:Int)) v -> -100000<=a->a<=b+1->b<=100000000->(a<=b∨(a = -1∧b = -1))->∃y',(y'.2=((x+1:Nat):Int)∧y'.1.length=x+1∧Oy g vars v y'.1)∧kA 1000 vars raw (c,(v:Int)) (l,(x:Int)) ag2 (a,b)=ag2 y':=by
    intro a b ha hb q1 q2 q3 q4
    have hab:a<=b:=by omega
    unfold kA
    simp only
    have w1:wI .i64 ((v:Int)*(vars.length:Int))=(v:Int)*(vars.length:Int):=by
     have p1:0<=(v:Int)*(vars.length:Int):=Int.mul_nonneg (by omega) (by omega)
     have p2:(v:Int)*(vars.length:Int)<=24*900:=Int.mul_le_mul (by omega) (by omega) (by omega) (by omega)
     exact wr (by omega) (by omega)
    have p1:0<=(v:Int)*(vars.length:Int):=Int.mul_nonneg (by omega) (by omega)
    have p2:(v:Int)*(vars.length:Int)<=24*900:=Int.mul_le_mul (by omega) (by omega) (by omega) (by omega)
    rw[w1,wr (x:=(v:Int)*(vars.length:Int)+(x:Int)) (by omega) (by omega),IS _ _ (by omega),bN rfl,wr (x:=b - a) (by omega) (by omega),wr (x:=b - a+1) (by omega) (by omega),sX _ _ (by omega) (by omega),bN rfl]
    have r1:=Int.emod_nonneg (at' raw ((v:Int)*(vars.length:Int)+(x:Int))) (b:=b - a+1) (by omega)
    have r2:=Int.emod_lt_of_pos (at' raw ((v:Int)*(vars.length:Int)+(x:Int))) (b:=b - a+1) (by omega)
    generalize at' raw ((v:Int)*(vars.length:Int)+(x:Int))%(b - a+1)=r at r1 r2
    rw[wr (x:=a+r) (by omega) (by omega),dV (by simp;omega),wr (by omega) (by omega)]
    refine⟨_,⟨by simp,by simp[k2],fun z hz=> ?_⟩,rfl⟩
    simp only[List.length_append,List.length_cons,List.length_nil,k2]at hz
    simp only
    rw[HY l _ (by omega),k2]
    by_cases e:z<x
    ·rw[if_pos e];exact k3 z (by omega)
    ·rw[if_neg e]
     have:z=x:=by omega
     subst this
     rw[<-ha,<-hb];omega
   unfold kB
   simp only
   rw[if_pos (by omega),dV (by omega),dV (by omega),dV (by omega),dV (by omega),dV (by omega)]
   by_cases t2:(at' vars (x:Int)).2.1=2
   ·rw[if_pos t2]
    exact fin 0 1 (by unfold lo;rw[if_pos t2]) (by unfold hi;rw[if_pos t2]) (by omega) (by omega) (by omega) (by omega)
   ·rw[if_neg t2]
    by_cases t3:(at' vars (x:Int)).2.1=3
    ·rw[if_pos t3,dV (by omega),wr (by omega) (by omega)]
     exact fin (-1) _ (by unfold lo;rw[if_neg t2,if_pos t3]) (by unfold hi;rw[if_neg t2,if_pos t3]) (by omega) (by omega) (by omega) (by omega)
    ·rw[if_neg t3]
     have q1:0<=(at' vars (x:Int)).2.2.2.2.1*(g.2.length:Int):=Int.mul_nonneg s2.1 (by omega)
     have q2:(at' vars (x:Int)).2.2.2.2.1*(g.2.length:Int)<=100000*24:=Int.mul_le_mul s2.2 (by omega) (by omega) (by omega)
     have q3:0<=(at' vars (x:Int)).2.2.2.2.2*jW g g.2.length:=Int.mul_nonneg s3.1 m1
     have q4:(at' vars (x:Int)).2.2.2.2.2*jW g g.2.length<=100000*255:=Int.mul_le_mul s3.2 m2 m1 (by omega)
     rw[wr (x:=(at' vars (x:Int)).2.2.2.2.1*(g.2.length:Int)) (by omega) (by omega),wr (x:=(at' vars (x:Int)).2.2.2.2.2*jW g g.2.length) (by omega) (by omega),wr (x:=(at' vars (x:Int)).2.2.2.1+(at' vars (x:Int)).2.2.2.2.1*(g.2.length:Int)) (by omega) (by omega),wr (by omega) (by omega)]
     exact fin _ _ (by unfold lo;rw[if_neg t2,if_neg t3]) (by unfold hi;rw[if_neg t2,if_neg t3,hlen]) (by omega) (by omega) (by omega) (by omega)
  ·obtain⟨l,j⟩:=y
   obtain⟨rfl,k2,k3⟩:=hI
   simp only at k2 k3
   unfold kB r_
   simp only
   rw[if_neg (by omega),dV (by simp;omega),wr (by omega) (by omega)]
 ·obtain⟨c,i⟩:=x
  obtain⟨rfl,h2,h3⟩:=hI
  unfold gK rZ
  simp only
  rw[if_neg (by omega)]
end Go.Proofs.YtigggfnchamobaaGreatDoor
end
end
section
namespace Go.Proofs.YtigggfnchamobaaGreatDoor
open Go.Sx
def fR (fuel:Nat) (p0:Int):Option (Int):=
 if p0=(0:Int)then(some (32:Int))else(ck (0<=(27:Int)) (ck ((0<=(pH .u32 (wI .u32 ((dD .u32 p0 (wI .u32 (0 - p0)))*(125613361:Int))) (27:Int))∧(pH .u32 (wI .u32 ((dD .u32 p0 (wI .u32 (0 - p0)))*(125613361:Int))) (27:Int))<((32:Nat):Int))∧List.length mP=32) (some (wI .i64 (at' mP (pH .u32 (wI .u32 ((dD .u32 p0 (wI .u32 (0 - p0)))*(125613361:Int))) (27:Int)))))))
theorem LK:aV Tryz.prog 139:=Tryz.call139
theorem tS (fuel:Nat) {p0:Int} (r:Int) (h:fR fuel p0=some r):
  bA Tryz.prog 139 #[Value.int .u32 (p0)] [Gb 0 (cellsOf yF mP)] (fun x:Unit=>Value.int .i64 (r)) (fun x l=>l) (fun _ l=>l):=by
 refine bA.of (vs:=[Value.int .u32 (p0)]) Tryz.func139 rfl Tryz.ntmps139 rfl fun c=>?_
 unfold fR at h
 refine sqR<|qkAsg rfl<|dtN<|aO<|sqR<|qkMove rfl<|qkEql rfl<|dtN ?_
 refine eR h rfl (fun _ h=>?_) fun _ h=>?_
 ·refine sqR<|qkAsg rfl<|dtN<|aX<|aM ?_
  cases h
  exact lN rfl
 refine aW<|aI<|sqR<|qkMove rfl<|qkMove rfl<|aB (Lz rfl) rfl<|aB (pU rfl rfl) rfl<|aB (yO rfl rfl) rfl ?_
 have⟨hc2,h⟩:=aN h
 refine aB (Bd rfl rfl hc2) rfl ?_
 have⟨hc3,h⟩:=aN h
 refine aB (IL rfl rfl rfl rfl rfl hc3.1) rfl<|aB (Nc (e:=yF) rfl (aC.fact 0 rfl) rfl rfl rfl rfl hc3) rfl<|aB (Hj rfl rfl rfl) rfl<|qkAsg rfl<|dtN<|aX ?_
 cases h
 exact lN rfl
end Go.Proofs.YtigggfnchamobaaGreatDoor
end
section
namespace Go.Proofs.YtigggfnchamobaaGreatDoor
open Go.Sx
def jS  (a12:Int):Option (Int):=
 some (a12)
def gQ (a24:Int×Int) (ag23:(Int×Int)->Option (Int)) (a29:Int):Option (Int):=
 ag23 ((dD .u32 a24.1 (wI .u32 (a24.1 - (1:Int)))),a29)
def cU (fuel:Nat) (p0:List (Int)) (a24:Int×Int) (ag23:(Int×Int)->Option (Int)):Option (Int):=
 if a24.1≠(0:Int)then(Option.bind (fR fuel a24.1) fun r31=>(ck (0<=r31∧r31<(List.length p0:Int)) (if(dD .u32 (at' p0 r31) a24.2)=(0:Int)then(ck (0<=r31) (gQ a24 ag23 (Ho .u32 a24.2 (yP .u32 (1:Int) r31))))else(gQ a24 ag23 (a24.2)))))else(jS  (a24.2))
def nG (fuel:Nat) (p0:List (Int)) (a5:Int) (a15:Unit):Option (Int):=
 bK (cU fuel p0) fuel (a5,(0:Int))
def fF (fuel:Nat) (p0:List (Int)) (p1:Int) (p2:Int) (a5:Int):Option (Int):=
 if p1=(1:Int)then(some (dD .u32 a5 (wI .u32 (0 - a5))))else(if p1=(2:Int)then(nG fuel p0 a5 (()))else(if p1=(4:Int)then(some (p2))else(some (a5))))
def eQ (fuel:Nat) (p0:List (Int)) (p1:Int) (p2:Int) (p3:Int):Option (Int):=
 if(dD .u32 p3 p2)=(0:Int)then(fF fuel p0 p1 p2 (dD .u32 p2 (wI .u32 (0 - p2))))else(fF fuel p0 p1 p2 (dD .u32 p3 p2))
theorem UC:aV Tryz.prog 83:=Tryz.call83
theorem zE (fuel:Nat) {p0:List (Int)} {p1:Int} {p2:Int} {p3:Int} (v0:Value) (r:Int) (h:eQ fuel p0 p1 p2 p3=some r):
  bA Tryz.prog 83 #[v0,Value.int .i64 (p1),Value.int .u32 (p2),Value.int .u32 (p3)] [Sl jE v0 p0,Gb 0 (cellsOf yF mP)] (fun x:Unit=>Value.int .u32 (r)) (fun x l=>l) (fun _ l=>l):=by
 refine bA.of (vs:=[v0,Value.int .i64 (p1),Value.int .u32 (p2),Value.int .u32 (p3)]) Tryz.func83 rfl Tryz.ntmps83 rfl fun c=>?_
 unfold eQ at h
 refine jR BY<|sqR<|b_ (Know.one ((aC.fact 0 rfl))) fun ho3=>?_
 refine aL (aQ.box (cs:=[v0]) rfl (by rw[jB ho3])) rfl fun b2=>?_
 refine qkAsg rfl<|dtN<|sqR<|qkMove rfl<|qkMove rfl<|aB (pU rfl rfl) rfl<|qkAsg rfl<|dtN<|aO<|xE (A:=Int) (B:=Unit) (fun a5 b6=>⟨48,vK ([]:List Nat)⟩) (fun a5=>fF fuel p0 p1 p2 a5=some r) (fun a5 b6=>[(1,Value.int .i64 (p1)),(2,Value.int .u32 (p2)),(3,Value.int .u32 (a5)),(4,Value.pointer (some ⟨b2,0,none⟩)),(8,Value.int .u32 (0:Int))]) (fun a5 b6=>[bR b2 [v0] 94,zK ([]:List Nat)]) (fun a5 b6=>[Sl jE v0 p0,Gb 0 (cellsOf yF mP)]) ?_ ?_
 ·refine sqR<|qkMove rfl<|qkEql rfl<|dtN ?_
  refine eR h rfl (fun _ h=>?_) fun _ h=>?_
  ·refine aS<|qkMove rfl<|qkMove rfl<|aB (Lz rfl) rfl<|aB (pU rfl rfl) rfl<|qkAsg rfl<|dtN ?_
   exact nX (dD .u32 p2 (wI .u32 (0 - p2))) (()) rfl h SF (aP.refl _) (aA.refl _ _)
  refine aW<|aI ?_
  exact nX (dD .u32 p3 p2) (()) rfl h SF (aP.refl _) (aA.refl _ _)
 clear h
 intro a5 b6 h
 unfold fF at h
 refine aO<|sqR<|qkMove rfl<|dtN<|aU<|sqR<|qkEql rfl<|qkAsg rfl<|dtN ?_
 refine eR h rfl (fun _ h=>?_) fun _ h=>?_
 ·refine sqR<|qkMove rfl<|qkMove rfl<|aB (Lz rfl) rfl<|aB (pU rfl rfl) rfl<|qkAsg rfl<|dtN<|aX<|bP<|aM<|iI (i:=1) (Ds:=([]:List Nat)) (.inl rfl) rfl ?_
  cases h
  exact u_ rfl
 refine sqR<|qkEql rfl<|qkAsg rfl<|dtN ?_
 refine eR h rfl (fun _ h=>?_) fun _ h=>?_
 ·refine sqR<|aL (aQ.alloc (cs:=[Value.int .u32 (0:Int)]) rfl rfl) rfl fun b9=>fH 0 rfl rfl rfl rfl rfl rfl<|dtN<|aO<|xE (A:=Int) (B:=List Nat) (fun a12 b13=>⟨48,vK b13⟩) (fun a12=>jS  a12=some r) (fun a12 b13=>[(9,Value.pointer (some ⟨b9,0,none⟩))]) (fun a12 b13=>[bR b9 [Value.int .u32 (a12)] 25,zK b13]) (fun a12 b13=>[Sl jE v0 p0,Gb 0 (cellsOf yF mP)]) ?_ ?_
  ·refine sqR<|qkMove rfl<|yH (A:=Unit) (B:=Nat) (vs:=[Value.int .u32 (a5)]) (fun a15=>nG fuel p0 a5 a15=some r) (fun a15 b16=>Value.func (.func 138) #[] #[Value.pointer (some ⟨b16,0,none⟩)]) (fun a15 b16=>[bR b16 [Value.int .u32 (a5)] 25,bR b9 [Value.int .u32 (0:Int)] 25,bR b2 [v0] 94,zK ([]:List Nat)]) (fun a15 b16=>[Sl jE v0 p0,Gb 0 (cellsOf yF mP)]) (tV.fn (show aV Tryz.prog 115 from Tryz.call115) rfl) Tryz.func115 rfl Tryz.ntmps115 rfl rfl ?_ ?_
   ·refine sqR<|aL (aQ.box (cs:=[Value.int .u32 (a5)]) rfl rfl) rfl fun b37=>qkAsg rfl<|dtN<|sqR<|aB (uD (cs:=[.tmp 1]) (vs:=[Value.pointer (some ⟨b37,0,none⟩)]) rfl) rfl<|qkAsg rfl<|dtN<|aX ?_
    exact vA (()) (b37) h (.inl rfl) (CR.r1 rfl (RV.tmp rfl)) rfl (aP.refl _) (aA.refl _ _)
   clear h
   intro a15 b16 h
   unfold nG at h
   refine dtN<|aU<|vN (i:=3) (cs:=[Value.pointer (some ⟨b16,0,none⟩)]) ([]:List Nat) rfl (show aV Tryz.prog 138 from Tryz.call138) rfl Tryz.func138 rfl Tryz.ntmps138 rfl fun Mf D18 R19 hR20=>aU<|bY (A:=Int×Int) (B:=Unit) (cU fuel p0) (fun a24 b25=>[(0,mL Mf),(1,Value.pointer (some ⟨b16,0,none⟩))]) (fun a24 b25=>[Lp Mf R19 LoopState.ready none,bR b16 [Value.int .u32 (a24.1)] 25,bR b9 [Value.int .u32 (a24.2)] 25,bR b2 [v0] 94,zK (List.cons D18 ([]:List Nat))]) (fun a24 b25=>[Sl jE v0 p0,Gb 0 (cellsOf yF mP)]) (a5,(0:Int)) (()) h SF (aP.refl _) (aA.refl _ _) ?_
   clear h
   intro k26 a24 b25 h
   unfold cU at h
   refine aO<|sqR<|qkLd 1 rfl<|aB (mM rfl rfl) rfl<|dtN ?_
   refine eR h rfl (fun _ h=>?_) fun _ h=>?_
   ·refine aW<|aI<|aO<|bL (A:=Int) (B:=Unit) (fun a29=>gQ a24 (bK (cU fuel p0) k26) a29=some r) (fun a29 b30=>[(0,mL Mf),(1,Value.pointer (some ⟨b16,0,none⟩))]) (fun a29 b30=>[Lp Mf R19 LoopState.ready none,bR b16 [Value.int .u32 (a24.1)] 25,bR b9 [Value.int .u32 (a29)] 25,bR b2 [v0] 94,zK (List.cons D18 ([]:List Nat))]) (fun a29 b30=>[Sl jE v0 p0,Gb 0 (cellsOf yF mP)]) ?_ ?_
    ·refine aU<|sqR<|qkMove rfl<|qkLd 1 rfl ?_
     have⟨r31,hr32,h⟩:=fJ h
     refine aL (aJ LK (tS fuel  r31 hr32) rfl (aA.cons (aC.fact 1 rfl) .nil) (fun _ _=>rfl)) rfl fun x33=>BU (us:=[Value.int .i64 (r31)]) (i:=0) hR20 rfl rfl rfl rfl rfl rfl<|aS<|qkAsg rfl<|dtN<|DV (i:=0) rfl<|aU<|aO ?_
     refine JR.start [0,0,3,7,0,31,63] 5 mixedOrders (by decide +kernel) ?_
     refine JR.open (by exact rfl) ?_
     refine jkLd 3 rfl<|jkMove rfl ?_
     have⟨hc34,h⟩:=aN h
     refine aT rfl .nil (cW.cons (List.mem_of_getElem? (i:=0) rfl) .nil) (bE rfl rfl (aC.fact 0 rfl) rfl rfl hc34) aF.z<|aT rfl .nil (cW.cons (List.mem_of_getElem? (i:=0) rfl) .nil) (bZ rfl (aC.fact 0 rfl) rfl rfl rfl Bv hc34) aF.z<|jkLd 2 rfl<|bS 5 rfl rfl<|aB (pU rfl rfl) rfl<|qkEql rfl<|dtN ?_
     refine eR h rfl (fun _ h=>?_) fun _ h=>?_
     ·refine JR.start [0,0,2,7,15] 3 mixedOrders (by decide +kernel) ?_
      refine JR.open (by exact rfl) ?_
      refine jkLd 2 rfl<|jkMove rfl ?_
      have⟨hc36,h⟩:=aN h
      refine aT rfl .nil .nil (IR rfl rfl hc36) aF.z<|bS 3 rfl rfl<|aB (Rs rfl rfl) rfl<|fH 2 rfl rfl rfl rfl rfl rfl<|eD<|bV<|xN (i:=0) rfl<|aB (qR rfl) rfl<|dtN<|yG rfl<|aW<|bV<|aI ?_
      exact jA (Ho .u32 a24.2 (yP .u32 (1:Int) r31)) (()) h SF rfl
     refine aW<|bV<|xN (i:=0) rfl<|aB (qR rfl) rfl<|dtN<|yG rfl<|aW<|bV<|aI ?_
     exact jA (a24.2) (()) h SF rfl
    clear h
    intro a29 b30 h
    unfold gQ at h
    refine aS<|qkLd 1 rfl<|qkLd 1 rfl<|aB (pV rfl rfl) rfl<|aB (pU rfl rfl) rfl<|fH 1 rfl rfl rfl rfl rfl rfl<|dtN ?_
    exact xG ((dD .u32 a24.1 (wI .u32 (a24.1 - (1:Int)))),a29) (()) h SF rfl
   refine cE<|aY<|aY<|dJ<|He (i:=0) (.inr rfl) rfl (CR.r0 rfl)<|bV<|aI ?_
   exact nX (a24.2) (List.cons D18 ([]:List Nat)) rfl h SF (aP.ix [2,4] rfl rfl) (aA.refl _ _)
  clear h
  intro a12 b13 h
  unfold jS at h
  refine sqR<|qkLd 0 rfl<|qkAsg rfl<|dtN<|aX<|bP<|aM<|iI (i:=1) (Ds:=(b13)) (.inl rfl) rfl ?_
  cases h
  exact u_ rfl
 refine sqR<|qkEql rfl<|qkAsg rfl<|dtN ?_
 refine eR h rfl (fun _ h=>?_) fun _ h=>?_
 ·refine sqR<|qkMove rfl<|qkAsg rfl<|dtN<|aX<|bP<|aM<|iI (i:=1) (Ds:=([]:List Nat)) (.inl rfl) rfl ?_
  cases h
  exact u_ rfl
 refine aW<|bV<|aI<|sqR<|qkMove rfl<|qkAsg rfl<|dtN<|aX<|iI (i:=1) (Ds:=([]:List Nat)) (.inl rfl) rfl ?_
 cases h
 exact u_ rfl
end Go.Proofs.YtigggfnchamobaaGreatDoor
end
section
namespace Go.Proofs.YtigggfnchamobaaGreatDoor
open Go.Sx
def g_  (a7:Unit):Option (Bool):=
 some (true)
def dW (fuel:Nat) (p0:List (Int)) (p1:Int) (a18:Int) (ag17:(Int)->Option (Bool)):Option (Bool):=
 if a18≠(0:Int)then(Option.bind (fR fuel a18) fun r22=>(ck (0<=r22∧r22<(List.length p0:Int)) (if(dD .u32 (at' p0 r22) p1)≠(0:Int)then(some (false))else(ag17 (dD .u32 a18 (wI .u32 (a18 - (1:Int))))))))else(g_  (()))
def kI (fuel:Nat) (p0:List (Int)) (p1:Int) (a10:Unit):Option (Bool):=
 bK (dW fuel p0 p1) fuel (p1)
def fM (fuel:Nat) (p0:List (Int)) (p1:Int):Option (Bool):=
 kI fuel p0 p1 (())
theorem RR:aV Tryz.prog 133:=Tryz.call133
theorem wL (fuel:Nat) {p0:List (Int)} {p1:Int} (v0:Value) (r:Bool) (h:fM fuel p0 p1=some r):
  bA Tryz.prog 133 #[v0,Value.int .u32 (p1)] [Sl jE v0 p0,Gb 0 (cellsOf yF mP)] (fun x:Unit=>Value.bool (r)) (fun x l=>l) (fun _ l=>l):=by
 refine bA.of (vs:=[v0,Value.int .u32 (p1)]) Tryz.func133 rfl Tryz.ntmps133 rfl fun c=>?_
 unfold fM at h
 refine jR BY<|sqR<|b_ (Know.one ((aC.fact 0 rfl))) fun ho3=>?_
 refine aL (aQ.box (cs:=[v0]) rfl (by rw[jB ho3])) rfl fun b2=>?_
 refine aL (aQ.box (cs:=[Value.int .u32 (p1)]) rfl rfl) rfl fun b4=>aL (aQ.alloc (cs:=[Value.bool (false)]) rfl rfl) rfl fun b5=>dtN<|aO<|xE (A:=Unit) (B:=List Nat) (fun a7 b8=>⟨16,vK b8⟩) (fun a7=>g_  a7=some r) (fun a7 b8=>[(4,Value.pointer (some ⟨b5,0,none⟩))]) (fun a7 b8=>[bR b5 [Value.bool (false)] 4,zK b8]) (fun a7 b8=>[Sl jE v0 p0,Gb 0 (cellsOf yF mP)]) ?_ ?_
 ·refine sqR<|qkLd 1 rfl<|yH (A:=Unit) (B:=Nat) (vs:=[Value.int .u32 (p1)]) (fun a10=>kI fuel p0 p1 a10=some r) (fun a10 b11=>Value.func (.func 138) #[] #[Value.pointer (some ⟨b11,0,none⟩)]) (fun a10 b11=>[bR b11 [Value.int .u32 (p1)] 25,bR b5 [Value.bool (false)] 4,bR b4 [Value.int .u32 (p1)] 25,bR b2 [v0] 94,zK ([]:List Nat)]) (fun a10 b11=>[Sl jE v0 p0,Gb 0 (cellsOf yF mP)]) (tV.fn (show aV Tryz.prog 115 from Tryz.call115) rfl) Tryz.func115 rfl Tryz.ntmps115 rfl rfl ?_ ?_
  ·refine sqR<|aL (aQ.box (cs:=[Value.int .u32 (p1)]) rfl rfl) rfl fun b27=>qkAsg rfl<|dtN<|sqR<|aB (uD (cs:=[.tmp 1]) (vs:=[Value.pointer (some ⟨b27,0,none⟩)]) rfl) rfl<|qkAsg rfl<|dtN<|aX ?_
   exact vA (()) (b27) h (.inl rfl) (CR.r1 rfl (RV.tmp rfl)) rfl (aP.refl _) (aA.refl _ _)
  clear h
  intro a10 b11 h
  unfold kI at h
  refine dtN<|aU<|vN (i:=4) (cs:=[Value.pointer (some ⟨b11,0,none⟩)]) ([]:List Nat) rfl (show aV Tryz.prog 138 from Tryz.call138) rfl Tryz.func138 rfl Tryz.ntmps138 rfl fun Xm D13 R14 hR15=>aU<|bY (A:=Int) (B:=Unit) (dW fuel p0 p1) (fun a18 b19=>[(0,mL Xm),(1,Value.pointer (some ⟨b11,0,none⟩))]) (fun a18 b19=>[Lp Xm R14 LoopState.ready none,bR b11 [Value.int .u32 (a18)] 25,bR b5 [Value.bool (false)] 4,bR b4 [Value.int .u32 (p1)] 25,bR b2 [v0] 94,zK (List.cons D13 ([]:List Nat))]) (fun a18 b19=>[Sl jE v0 p0,Gb 0 (cellsOf yF mP)]) (p1) (()) h SF (aP.refl _) (aA.refl _ _) ?_
  clear h
  intro k20 a18 b19 h
  unfold dW at h
  refine aO<|sqR<|qkLd 1 rfl<|aB (mM rfl rfl) rfl<|dtN ?_
  refine eR h rfl (fun _ h=>?_) fun _ h=>?_
  ·refine aW<|aI<|aO<|aU<|sqR<|qkMove rfl<|qkLd 1 rfl ?_
   have⟨r22,hr23,h⟩:=fJ h
   refine aL (aJ LK (tS fuel  r22 hr23) rfl (aA.cons (aC.fact 1 rfl) .nil) (fun _ _=>rfl)) rfl fun x24=>BU (us:=[Value.int .i64 (r22)]) (i:=0) hR15 rfl rfl rfl rfl rfl rfl<|aS<|qkAsg rfl<|dtN<|DV (i:=0) rfl<|aU<|aO ?_
   refine JR.start [0,0,3,7,0,31,63] 5 mixedOrders (by decide +kernel) ?_
   refine JR.open (by exact rfl) ?_
   refine jkLd 4 rfl<|jkMove rfl ?_
   have⟨hc25,h⟩:=aN h
   refine aT rfl .nil (cW.cons (List.mem_of_getElem? (i:=0) rfl) .nil) (bE rfl rfl (aC.fact 0 rfl) rfl rfl hc25) aF.z<|aT rfl .nil (cW.cons (List.mem_of_getElem? (i:=0) rfl) .nil) (bZ rfl (aC.fact 0 rfl) rfl rfl rfl Bv hc25) aF.z<|jkLd 3 rfl<|bS 5 rfl rfl<|aB (pU rfl rfl) rfl<|aB (mM rfl rfl) rfl<|dtN ?_
   refine eR h rfl (fun _ h=>?_) fun _ h=>?_
   ·refine sqR<|fH 2 rfl rfl rfl rfl rfl rfl<|dtN<|aX<|bP<|Io (i:=0) rfl<|aB (qR rfl) rfl<|dtN<|Hb rfl<|aX<|bP<|aM<|aM<|bP<|Lv (i:=0) (.inl rfl) rfl (CR.r0 rfl)<|bP<|aM<|iI (i:=5) (Ds:=(List.cons D13 ([]:List Nat))) (.inl rfl) rfl ?_
    cases h
    exact fO (()) rfl rfl (z_ 2 rfl rfl rfl rfl) .nil aA.nil
   refine aW<|bV<|xN (i:=0) rfl<|aB (qR rfl) rfl<|dtN<|yG rfl<|aW<|bV<|aI<|aS<|qkLd 1 rfl<|qkLd 1 rfl<|aB (pV rfl rfl) rfl<|aB (pU rfl rfl) rfl<|fH 1 rfl rfl rfl rfl rfl rfl<|dtN ?_
   exact xG (dD .u32 a18 (wI .u32 (a18 - (1:Int)))) (()) h SF rfl
  refine cE<|aY<|aY<|dJ<|He (i:=0) (.inr rfl) rfl (CR.r0 rfl)<|bV<|aI ?_
  exact nX (()) (List.cons D13 ([]:List Nat)) rfl h SF (aP.ix [2,5] rfl rfl) (aA.refl _ _)
 clear h
 intro a7 b8 h
 unfold g_ at h
 refine sqR<|fH 0 rfl rfl rfl rfl rfl rfl<|dtN<|aX<|iI (i:=1) (Ds:=(b8)) (.inl rfl) rfl ?_
 cases h
 exact fO (()) rfl rfl (z_ 0 rfl rfl rfl rfl) .nil aA.nil
end Go.Proofs.YtigggfnchamobaaGreatDoor
end
section
namespace Go.Proofs.YtigggfnchamobaaGreatDoor
open Go.Sx
def gO (fuel:Nat) (p0:List (Int)) (p1:Int) (p2:Int) (p3:Int) (a2:Bool):Option (Bool):=
 if a2=true then(some (false))else(if p1=(1:Int)then(some (decide ((dD .u32 p3 (wI .u32 (p3 - (1:Int))))=(0:Int))))else(if p1=(2:Int)then(Option.bind (fM fuel p0 p3) fun r7=>(some (r7)))else(if p1=(4:Int)then(some (decide (p3=p2)))else(some (true)))))
def eP (fuel:Nat) (p0:List (Int)) (p1:Int) (p2:Int) (p3:Int):Option (Bool):=
 if p3=(0:Int)then(gO fuel p0 p1 p2 p3 (true))else(gO fuel p0 p1 p2 p3 (decide ((vR .u32 p3 p2)≠(0:Int))))
theorem RJ:aV Tryz.prog 112:=Tryz.call112
theorem zD (fuel:Nat) {p0:List (Int)} {p1:Int} {p2:Int} {p3:Int} (v0:Value) (r:Bool) (h:eP fuel p0 p1 p2 p3=some r):
  bA Tryz.prog 112 #[v0,Value.int .i64 (p1),Value.int .u32 (p2),Value.int .u32 (p3)] [Sl jE v0 p0,Gb 0 (cellsOf yF mP)] (fun x:Unit=>Value.bool (r)) (fun x l=>l) (fun _ l=>l):=by
 refine bA.of (vs:=[v0,Value.int .i64 (p1),Value.int .u32 (p2),Value.int .u32 (p3)]) Tryz.func112 rfl Tryz.ntmps112 rfl fun c=>?_
 unfold eP at h
 refine sqR<|qkAsg rfl<|dtN<|aO<|aO<|bL (A:=Bool) (B:=Unit) (fun a2=>gO fuel p0 p1 p2 p3 a2=some r) (fun a2 b3=>[(0,v0),(1,Value.int .i64 (p1)),(2,Value.int .u32 (p2)),(3,Value.int .u32 (p3)),(16,Value.bool (a2))]) (fun a2 b3=>[]) (fun a2 b3=>[Sl jE v0 p0,Gb 0 (cellsOf yF mP)]) ?_ ?_
 ·refine aS<|qkMove rfl<|qkEql rfl<|qkMove rfl ?_
  refine Bg h rfl (fun _ h=>?_) fun _ h=>?_
  ·refine gdSkip rfl<|gdSkip rfl<|gdSkip rfl<|gdSkip rfl<|aB (cI rfl rfl) rfl<|dtN ?_
   exact jA (true) (()) h SF rfl
  refine gyMove rfl<|gyMove rfl<|a_ rfl (Ez rfl rfl) rfl<|a_ rfl (mM rfl rfl) rfl<|aB (cX rfl rfl) rfl<|dtN ?_
  exact jA (decide ((vR .u32 p3 p2)≠(0:Int))) (()) h SF rfl
 clear h
 intro a2 b3 h
 unfold gO at h
 refine zN h rfl (fun _ h=>?_) fun _ h=>?_
 ·refine sqR<|qkAsg rfl<|dtN<|aX<|aM ?_
  cases h
  exact lN rfl
 refine aW<|aI<|aO<|sqR<|qkMove rfl<|dtN<|aU<|sqR<|qkEql rfl<|qkAsg rfl<|dtN ?_
 refine eR h rfl (fun _ h=>?_) fun _ h=>?_
 ·refine sqR<|qkMove rfl<|qkMove rfl<|aB (pV rfl rfl) rfl<|aB (pU rfl rfl) rfl<|qkEql rfl<|qkAsg rfl<|dtN<|aX<|bP<|aM ?_
  cases h
  exact lN rfl
 refine sqR<|qkEql rfl<|qkAsg rfl<|dtN ?_
 refine eR h rfl (fun _ h=>?_) fun _ h=>?_
 ·refine sqR<|qkMove rfl<|qkMove rfl ?_
  have⟨r7,hr8,h⟩:=fJ h
  refine aL (aJ RR (wL fuel v0 r7 hr8) rfl (aA.cons (aC.fact 0 rfl) (aA.cons (aC.fact 1 rfl) .nil)) (fun _ _=>rfl)) rfl fun x9=>qkAsg rfl<|dtN<|aX<|bP<|aM ?_
  cases h
  exact lN rfl
 refine sqR<|qkEql rfl<|qkAsg rfl<|dtN ?_
 refine eR h rfl (fun _ h=>?_) fun _ h=>?_
 ·refine sqR<|qkMove rfl<|qkMove rfl<|qkEql rfl<|qkAsg rfl<|dtN<|aX<|bP<|aM ?_
  cases h
  exact lN rfl
 refine aW<|bV<|aI<|sqR<|qkAsg rfl<|dtN<|aX ?_
 cases h
 exact lN rfl
end Go.Proofs.YtigggfnchamobaaGreatDoor
end
section
namespace Go.Proofs.YtigggfnchamobaaGreatDoor
open Go.Sx
def qJ  (a5:List (Int)):Option (List (Int)):=
 some (a5)
def qK (a10:Int×List (Int)) (ag9:(Int×List (Int))->Option (List (Int))) (a15:List (Int)):Option (List (Int)):=
 ag9 ((wI .i64 (a10.1+(1:Int))),a15)
def kP (p0:List (Int)×(List (List (Int×Int)))) (a10:Int×List (Int)) (ag9:(Int×List (Int))->Option (List (Int))) (a21:Int×List (Int)) (ag20:(Int×List (Int))->Option (List (Int))):Option (List (Int)):=
 if a21.1<(List.length (at' p0.2 a10.1):Int)then(ck (0<=a21.1∧a21.1<(List.length (at' p0.2 a10.1):Int)) (ck (0<=a10.1∧a10.1<(List.length a21.2:Int)) (ck (0<=((at' (at' p0.2 a10.1) a21.1).1)) (ck (0<=a10.1∧a10.1<(List.length a21.2:Int)) (ag20 ((wI .i64 (a21.1+(1:Int))),(List.set a21.2 (Int.toNat a10.1) (Ho .u32 (at' a21.2 a10.1) (yP .u32 (1:Int) ((at' (at' p0.2 a10.1) a21.1).1))))))))))else(qK a10 ag9 (a21.2))
def gT (fuel:Nat) (p0:List (Int)×(List (List (Int×Int)))) (a10:Int×List (Int)) (ag9:(Int×List (Int))->Option (List (Int))):Option (List (Int)):=
 if a10.1<(List.length p0.2:Int)then(ck (0<=a10.1∧a10.1<(List.length p0.2:Int)) (bK (kP p0 a10 ag9) fuel ((0:Int),a10.2)))else(qJ  (a10.2))
def lS (fuel:Nat) (p0:List (Int)×(List (List (Int×Int)))):Option (List (Int)):=
 ck (0<=(List.length p0.2:Int)∧(List.length p0.2:Int)<=1099511627) (bK (gT fuel p0) fuel ((0:Int),(List.replicate (Int.toNat (List.length p0.2:Int)) (0:Int))))
theorem UB:aV Tryz.prog 80:=Tryz.call80
theorem DQ (fuel:Nat) {p0:List (Int)×(List (List (Int×Int)))} (v0:Value)  (v1:Value)  (z2:List (Value×List (Int×Int))) (r:List (Int)) (h:lS fuel p0=some r):
  bA Tryz.prog 80 #[Value.agg #[v0,v1]] [Sl aR v0 p0.1,S2 aK v1 z2 p0.2] (fun x:Value=>x) (fun x l=>Ar jO x r::l) (fun _ l=>l):=by
 refine bA.of (vs:=[Value.agg #[v0,v1]]) Tryz.func80 rfl Tryz.ntmps80 rfl fun c=>?_
 unfold lS at h
 refine sqR<|aL (aQ.box (cs:=[v0,v1]) rfl rfl) rfl fun b1=>qkAsg rfl<|dtN<|sqR<|qkFld rfl<|qkLd 0 rfl<|aB (jX rfl (aC.fact 1 rfl) rfl) rfl ?_
 have⟨hc2,h⟩:=aN h
 refine aL (nZ (e:=jO) (0:Int) rfl rfl rfl rfl hc2 rfl rfl rfl) rfl fun u3=>qkAsg rfl<|dtN<|aO<|bL (A:=List (Int)) (B:=Unit) (fun a5=>qJ  a5=some r) (fun a5 b6=>[(3,u3)]) (fun a5 b6=>[Ar jO u3 a5]) (fun a5 b6=>[Sl aR v0 p0.1,S2 aK v1 z2 p0.2]) ?_ ?_
 ·refine sqR<|qkFld rfl<|qkLd 1 rfl<|aB (jX rfl (aC.fact 1 rfl) rfl) rfl<|qkMove rfl<|dtN<|aU<|bY (A:=Int×List (Int)) (B:=Unit) (gT fuel p0) (fun a10 b11=>[(3,u3),(13,v1),(14,Value.int .i64 (List.length p0.2:Int)),(15,Value.int .i64 (a10.1))]) (fun a10 b11=>[Ar jO u3 a10.2]) (fun a10 b11=>[Sl aR v0 p0.1,S2 aK v1 z2 p0.2]) ((0:Int),(List.replicate (Int.toNat (List.length p0.2:Int)) (0:Int))) (()) h SF (aP.ix [0] rfl rfl) (aA.refl _ _) ?_
  clear h
  intro k12 a10 b11 h
  unfold gT at h
  refine sqR<|qkLss rfl<|dtN<|aO ?_
  refine eR h rfl (fun _ h=>?_) fun _ h=>?_
  ·refine aW<|aI<|aO<|bL (A:=List (Int)) (B:=Unit) (fun a15=>qK a10 (bK (gT fuel p0) k12) a15=some r) (fun a15 b16=>[(3,u3),(13,v1),(14,Value.int .i64 (List.length p0.2:Int)),(15,Value.int .i64 (a10.1))]) (fun a15 b16=>[Ar jO u3 a15]) (fun a15 b16=>[Sl aR v0 p0.1,S2 aK v1 z2 p0.2]) ?_ ?_
   ·refine aU<|sqR<|qkMove rfl ?_
    have⟨hc17,h⟩:=aN h
    refine aB (cS rfl rfl (aC.fact 1 rfl) rfl rfl hc17) rfl<|aB (cT rfl (aC.fact 1 rfl) rfl rfl hc17) rfl<|qkAsg rfl<|qkAsg rfl<|dtN<|sqR<|qkMove rfl<|aB (cB rfl (aC.el (aC.fact 1 rfl) hc17.1 hc17.2) rfl) rfl<|qkMove rfl<|dtN<|aU<|bY (A:=Int×List (Int)) (B:=Unit) (kP p0 a10 (bK (gT fuel p0) k12)) (fun a21 b22=>[(3,u3),(4,Value.int .i64 (a10.1)),(13,v1),(14,Value.int .i64 (List.length p0.2:Int)),(15,Value.int .i64 (a10.1)),(20,(at' z2 a10.1).1),(21,Value.int .i64 (List.length (at' p0.2 a10.1):Int)),(22,Value.int .i64 (a21.1))]) (fun a21 b22=>[Ar jO u3 a21.2]) (fun a21 b22=>[Sl aR v0 p0.1,S2 aK v1 z2 p0.2]) ((0:Int),a10.2) (()) h SF (aP.refl _) (aA.refl _ _) ?_
    clear h
    intro k23 a21 b22 h
    unfold kP at h
    refine sqR<|qkLss rfl<|dtN<|aO ?_
    refine eR h rfl (fun _ h=>?_) fun _ h=>?_
    ·refine aW<|aI<|aO<|aU<|sqR ?_
     have⟨hc25,h⟩:=aN h
     refine aB (bE rfl rfl (aC.el (aC.fact 1 rfl) hc17.1 hc17.2) rfl rfl hc25) rfl<|aB (gM (cs:=[Value.int .i64 ((at' (at' p0.2 a10.1) a21.1).1),Value.int .i64 ((at' (at' p0.2 a10.1) a21.1).2)]) rfl (aC.el (aC.fact 1 rfl) hc17.1 hc17.2) bO rfl rfl rfl rfl hc25) rfl<|aL (aQ.alloc (cs:=[Value.int .i64 (0:Int),Value.int .i64 (0:Int)]) rfl rfl) rfl fun b26=>bM 0 (vs:=[Value.int .i64 ((at' (at' p0.2 a10.1) a21.1).1),Value.int .i64 ((at' (at' p0.2 a10.1) a21.1).2)]) rfl rfl rfl rfl rfl rfl<|dtN ?_
     refine JR.start [0,0,3,7,0,16,48,127,255,511] 7 mixedOrders (by decide +kernel) ?_
     refine JR.open (by exact rfl) ?_
     refine jkMove rfl<|jkMove rfl ?_
     have⟨hc27,h⟩:=aN h
     refine aT rfl (aP.cons 1 rfl .nil) .nil (bE rfl rfl (aZ (aC.res 0 rfl) kM) rfl rfl hc27) aF.z<|aT rfl (aP.cons 1 rfl .nil) .nil (bZ rfl (aZ (aC.res 0 rfl) kM) rfl rfl rfl Bv hc27) aF.z<|jkFld rfl<|jkLd 0 rfl ?_
     have⟨hc28,h⟩:=aN h
     refine aT rfl .nil .nil (IR rfl rfl hc28) aF.z<|bS 7 rfl rfl<|aB (Rs rfl rfl) rfl ?_
     have⟨hc29,h⟩:=aN h
     refine aB (bE rfl rfl (aZ (aC.res 1 rfl) kM) rfl rfl hc29) rfl<|s_ 1 (Ho .u32 (at' a21.2 a10.1) (yP .u32 (1:Int) ((at' (at' p0.2 a10.1) a21.1).1))) hc29 rfl rfl rfl rfl rfl rfl rfl<|eD<|bV<|aI<|aS<|qkAdd rfl<|qkMove rfl<|dtN ?_
     exact nC ((wI .i64 (a21.1+(1:Int))),(List.set a21.2 (Int.toNat a10.1) (Ho .u32 (at' a21.2 a10.1) (yP .u32 (1:Int) ((at' (at' p0.2 a10.1) a21.1).1))))) (()) h SF (aP.ix [1] rfl rfl) (aA.refl _ _)
    refine cE<|aY<|aY<|dJ<|bV<|aI ?_
    exact jA (a21.2) (()) h SF rfl
   clear h
   intro a15 b16 h
   unfold qK at h
   refine aS<|qkAdd rfl<|qkMove rfl<|dtN ?_
   exact xG ((wI .i64 (a10.1+(1:Int))),a15) (()) h SF rfl
  refine cE<|aY<|aY<|dJ<|aI ?_
  exact jA (a10.2) (()) h SF rfl
 clear h
 intro a5 b6 h
 unfold qJ at h
 refine sqR<|qkMove rfl<|qkAsg rfl<|dtN<|aX ?_
 cases h
 exact fO (u3) rfl rfl (RV.tmp rfl) (aP.refl _) aA.nil
end Go.Proofs.YtigggfnchamobaaGreatDoor
end
section
namespace Go.Proofs.YtigggfnchamobaaGreatDoor
open Go Go.Sx
structure MY (m k:Nat):Prop where
 bit:m.testBit k=true
 low:∀j,j<k->m.testBit j=false
theorem Fe {m:Nat} (h:m≠0):∃k,MY m k:=by
 obtain⟨i,hi⟩:=Nat.exists_testBit_of_ne_zero h
 obtain⟨k,_,h1,h2⟩:=Gw (p:=fun i=>m.testBit i=true) i hi
 exact⟨k,h1,fun j hj=>by simpa using h2 j hj⟩
theorem Jz {m k:Nat} (h:MY m k) (i:Nat):(m - 1).testBit i=if i<k then true else if i=k then false else m.testBit i:=by
 have hm:m=2^(k+1)*(m / 2^(k+1))+2^k:=by
  refine Nat.eq_of_testBit_eq fun i=> ?_
  have hlt:2^k<2^(k+1):=Nat.pow_lt_pow_right (by omega) (by omega)
  rw[Nat.testBit_two_pow_mul_add _ hlt,Nat.testBit_two_pow,Nat.testBit_div_two_pow]
  rcases Nat.lt_trichotomy i k with q|q|q
  ·rw[if_pos (by omega),h.low i q,decide_eq_false (by omega)]
  ·subst q;rw[if_pos (by omega),h.bit,decide_eq_true rfl]
  ·rw[if_neg (by omega),show i - (k+1)+(k+1)=i by omega]
 have hp:0<2^k:=Nat.pow_pos (by omega)
 have hlt:2^k - 1<2^(k+1):=by rw[Nat.pow_succ];omega
 have e:m - 1=2^(k+1)*(m / 2^(k+1))+(2^k - 1):=by omega
 rw[e,Nat.testBit_two_pow_mul_add _ hlt,Nat.testBit_two_pow_sub_one,Nat.testBit_div_two_pow]
 rcases Nat.lt_trichotomy i k with q|q|q
 ·rw[if_pos (by omega),if_pos q,decide_eq_true q]
 ·subst q;rw[if_pos (by omega),if_neg (by omega),if_pos rfl,decide_eq_false (by omega)]
 ·rw[if_neg (by omega),if_neg (by omega),if_neg (by omega),show i - (k+1)+(k+1)=i by omega]
theorem Zb {m:Nat} (hm:m<4294967296) (h0:m≠0):wI .u32 (0 - (m:Int))=((4294967296 - m:Nat):Int):=by
 rw[Bq]
 have:IntKind.u32.wrap (0 - (m:Int))=(0 - (m:Int))%4294967296:=rfl
 rw[this];omega
theorem WR {m:Nat} (hm:m<4294967296) (h0:m≠0):wI .u32 ((m:Int) - 1)=((m - 1:Nat):Int):=by
 rw[show(m:Int) - 1=((m - 1:Nat):Int) by omega,Bq,GX _ (by omega)]
theorem Vd {m k:Nat} (hm:m<4294967296) (h:MY m k):dD .u32 (m:Int) (wI .u32 (0 - (m:Int)))=((2^k:Nat):Int):=by
 have h0:m≠0:=fun e=>by have:=h.bit;rw[e]at this;simp at this
 have hk:k<32:=CV hm h.bit
 rw[Zb hm h0,ED hm (by omega)]
 congr 1
 refine Nat.eq_of_testBit_eq fun i=> ?_
 rw[Nat.testBit_and,show 4294967296 - m=2^32 - ((m - 1)+1) by omega,Nat.testBit_two_pow_sub_succ (by omega),Nat.testBit_two_pow,Jz h]
 rcases Nat.lt_trichotomy i k with q|q|q
 ·rw[h.low i q,decide_eq_false (show¬k=i by omega)];rfl
 ·subst q;rw[h.bit,if_neg (by omega),if_pos rfl,decide_eq_true hk,decide_eq_true rfl];rfl
 ·rw[if_neg (by omega),if_neg (by omega),decide_eq_false (show¬k=i by omega)]
  cases m.testBit i<;>simp
theorem KA {m k:Nat} (hm:m<4294967296) (h:MY m k):∃m':Nat,dD .u32 (m:Int) (wI .u32 ((m:Int) - 1))=(m':Int)∧m'<4294967296∧∀i,m'.testBit i=(m.testBit i&&decide (i≠k)):=by
 have h0:m≠0:=fun e=>by have:=h.bit;rw[e]at this;simp at this
 refine⟨m &&& (m - 1),by rw[WR hm h0,ED hm (by omega)],Kx hm,fun i=> ?_⟩
 rw[Nat.testBit_and,Jz h]
 rcases Nat.lt_trichotomy i k with q|q|q
 ·rw[h.low i q];rfl
 ·subst q;simp
 ·rw[if_neg (by omega),if_neg (by omega)]
  have:decide (i≠k)=true:=decide_eq_true (by omega)
  rw[this];cases m.testBit i<;>rfl
theorem Vw:∀k:Fin 32,((0:Int)<=pH .u32 (wI .u32 ((((2^k.val:Nat):Int))*125613361)) 27∧pH .u32 (wI .u32 ((((2^k.val:Nat):Int))*125613361)) 27<((32:Nat):Int))∧wI .i64 (at' mP (pH .u32 (wI .u32 ((((2^k.val:Nat):Int))*125613361)) 27))=(k.val:Int):=by decide +kernel
theorem TK (f:Nat) {m k:Nat} (hm:m<4294967296) (h:MY m k):fR f (m:Int)=some (k:Int):=by
 have h0:m≠0:=fun e=>by have:=h.bit;rw[e]at this;simp at this
 obtain⟨h1,h2⟩:=Vw ⟨k,CV hm h.bit⟩
 unfold fR
 rw[if_neg (by omega),dV (by decide),Vd hm h,dV ⟨h1,rfl⟩,h2]

structure Iw (g:GR) (r:List Int):Prop where
 len:r.length=g.2.length
 at':∀v:Nat,v<g.2.length->∃m:Nat,Go.Sx.at' r (v:Int)=(m:Int)∧m<4294967296∧∀u,m.testBit u=true↔Ig g v u
theorem Vj {g:GR} (hV:VG g):∃r,lS 1000 g=some r∧Iw g r:=by
 have h24:=hV.n24
 unfold lS
 rw[dV (by omega)]
 obtain⟨⟨a,r⟩,⟨ha,hl,hr⟩,he⟩:=Aj (step:=gT 1000 g) (K:=fun z=>some z.2) g.2.length
  (fun k z=>z.1=(k:Int)∧z.2.length=g.2.length∧∀v:Nat,v<g.2.length->∃m:Nat,Go.Sx.at' z.2 (v:Int)=(m:Int)∧m<4294967296∧∀u,m.testBit u=true↔v<k∧Ig g v u) (fun k z ag hk hI=>by
  obtain⟨a,r⟩:=z
  obtain⟨ha,hl,hr⟩:=hI
  dsimp only at ha hl hr
  subst ha
  have hdeg:=(hV.node k hk).deg
  obtain⟨⟨b,r'⟩,⟨hb,hl',hr'⟩,he⟩:=Aj (step:=kP g ((k:Int),r) ag) (K:=fun z=>ag (((k+1:Nat):Int),z.2)) (row g k).length
   (fun j z=>z.1=(j:Int)∧z.2.length=g.2.length∧∀v:Nat,v<g.2.length->∃m:Nat,Go.Sx.at' z.2 (v:Int)=(m:Int)∧m<4294967296∧∀u,m.testBit u=true↔(v<k∧Ig g v u)∨(v=k∧∃i,i<j∧(iS (row g k) i).1=(u:Int))) (fun j z ag2 hj hJ=>by
   obtain⟨b,q⟩:=z
   obtain⟨hb,hl',hr'⟩:=hJ
   dsimp only at hb hl' hr'
   subst hb
   obtain⟨w,hw,hwe,hadj⟩:=hV.port hk hj
   obtain⟨m,hm,hm32,hbits⟩:=hr' k hk
   refine⟨(((j+1:Nat):Int),q.set k (((m ||| 2^w:Nat)):Int)),⟨rfl,by simpa using hl',fun v hv=> ?_⟩,?_⟩
   ·show∃m',Go.Sx.at' (q.set k _) (v:Int)=_∧_
    rw[Bz q k v _ (by omega)]
    by_cases e:v=k
    ·subst e
     refine⟨_,if_pos rfl,TH hm32 (DI (by omega)),fun u=> ?_⟩
     rw[Nat.testBit_or,Nat.testBit_two_pow,Bool.or_eq_true,hbits u,decide_eq_true_eq]
     constructor
     ·rintro((h|⟨_,i,hi,h⟩)|h)
      ·exact .inl h
      ·exact .inr ⟨rfl,i,by omega,h⟩
      ·exact .inr ⟨rfl,j,by omega,by rw[hwe,h]⟩
     ·rintro(h|⟨_,i,hi,h⟩)
      ·exact .inl (.inl h)
      ·by_cases hij:i=j
       ·subst hij;right;rw[hwe]at h;omega
       ·exact .inl (.inr ⟨rfl,i,by omega,h⟩)
    ·obtain⟨m',a1,a2,a3⟩:=hr' v hv
     refine⟨m',by rw[if_neg e];exact a1,a2,fun u=> ?_⟩
     rw[a3 u]
     constructor
     ·rintro(h|⟨h,_⟩)
      ·exact .inl h
      ·exact absurd h e
     ·rintro(h|⟨h,_⟩)
      ·exact .inl h
      ·exact absurd h e
   ·unfold kP
    dsimp only
    rw[if_pos (show(j:Int)<((row g k).length:Int) by omega),dV (show 0<=(j:Int)∧(j:Int)<((row g k).length:Int) by omega),dV (by omega),show Go.Sx.at' (Go.Sx.at' g.2 (k:Int)) (j:Int)=iS (row g k) j from rfl,hwe,dV (by omega),dV (by omega),hm,Kz hm32 (by omega),eT (by omega),Int.toNat_natCast]) (fun z ag2 hJ=>by
   obtain⟨b,q⟩:=z
   obtain⟨hb,hl',hr'⟩:=hJ
   dsimp only at hb hl' hr'
   subst hb
   unfold kP qK
   dsimp only
   rw[if_neg (show¬((row g k).length:Int)<((row g k).length:Int) by omega),eT (by omega)]) 1000 ((0:Int),r) ⟨rfl,hl,fun v hv=>by
    obtain⟨m,a1,a2,a3⟩:=hr v hv
    refine⟨m,a1,a2,fun u=> ?_⟩
    rw[a3 u]
    constructor
    ·exact fun h=> .inl h
    ·rintro(h|⟨_,i,hi,_⟩)
     ·exact h
     ·omega⟩ (by omega)
  dsimp only at hb hl' hr'
  refine⟨(((k+1:Nat):Int),r'),⟨rfl,hl',fun v hv=> ?_⟩,?_⟩
  ·obtain⟨m,a1,a2,a3⟩:=hr' v hv
   refine⟨m,a1,a2,fun u=> ?_⟩
   rw[a3 u]
   constructor
   ·rintro(⟨h1,h2⟩|⟨rfl,i,hi,h⟩)
    ·exact⟨by omega,h2⟩
    ·exact⟨by omega,i,hi,h⟩
   ·rintro⟨h1,h2⟩
    by_cases e:v=k
    ·subst e
     obtain⟨i,hi,h⟩:=h2
     exact .inr ⟨rfl,i,hi,h⟩
    ·exact .inl ⟨by omega,h2⟩
  ·unfold gT
   dsimp only
   rw[if_pos (by omega),dV (by omega)]
   exact he) (fun z ag hI=>by
  obtain⟨a,r⟩:=z
  obtain⟨ha,hl,hr⟩:=hI
  dsimp only at ha
  subst ha
  unfold gT qJ
  dsimp only
  rw[if_neg (by omega)]) 1000 ((0:Int),List.replicate (Int.toNat (g.2.length:Int)) (0:Int)) ⟨rfl,by simp,fun v hv=>⟨0,by
   rw[Int.toNat_natCast,jY (by simpa using hv)];simp,by omega,fun u=>by simp⟩⟩ (by omega)
 refine⟨r,he,hl,fun v hv=> ?_⟩
 obtain⟨m,a1,a2,a3⟩:=hr v hv
 exact⟨m,a1,a2,fun u=>by rw[a3 u];exact⟨fun h=>h.2,fun h=>⟨hv,h⟩⟩⟩
end Go.Proofs.YtigggfnchamobaaGreatDoor
end
section
namespace Go.Proofs.YtigggfnchamobaaGreatDoor
open Go Go.Sx
def Of (g:GR) (m:Nat):Prop:=∀i,m.testBit i=true->i<g.2.length
theorem Of.lt {g:GR} (hV:VG g) {m:Nat} (h:Of g m):m<16777216:=by
 have h24:=hV.n24
 refine Nat.lt_of_lt_of_le (Nat.lt_pow_two_of_testBit (n:=24) m fun i hi=> ?_) (Nat.le_refl _)
 cases hb:m.testBit i with
 |false=>rfl
 |true=>have:=h i hb;omega
theorem Wp {m:Nat} (h:∀i,i<32->m.testBit i=false) (hm:m<4294967296):m=0:=by
 refine Nat.eq_of_testBit_eq fun i=> ?_
 rw[Nat.zero_testBit]
 rcases Nat.lt_or_ge i 32 with q|q
 ·exact h i q
 ·cases hb:m.testBit i with
  |false=>rfl
  |true=>have:=CV hm hb;omega
theorem KO {g:GR} (hV:VG g) {r:List Int} (hN:Iw g r) {t:Nat} (ht:Of g t) (hi:∀v u,t.testBit v=true->t.testBit u=true->¬Ig g v u) (F:Nat):∀(d s fuel rest:Nat),s+d=32->rest<4294967296->(∀i,i<s->rest.testBit i=false)->(∀i,rest.testBit i=true->t.testBit i=true)->d<fuel->
  bK (dW F r (t:Int)) fuel (rest:Int)=some true:=by
 have h24:=hV.n24
 have ht32:t<4294967296:=by have:=ht.lt hV;omega
 intro d
 induction d using Nat.strongRecOn with
 | _ d ih =>
  intro s fuel rest hs hr hlow hsub hf
  obtain⟨fuel,rfl⟩:∃f,fuel=f+1:=⟨fuel - 1,by omega⟩
  show dW F r (t:Int) (rest:Int) (bK _ fuel)=_
  unfold dW g_
  by_cases h0:rest=0
  ·rw[if_neg (by omega)]
  obtain⟨k,hk⟩:=Fe h0
  have hkn:=ht k (hsub k hk.bit)
  have hks:s<=k:=by
   rcases Nat.lt_or_ge k s with q|q
   ·have:=hk.bit;rw[hlow k q]at this;cases this
   ·exact q
  obtain⟨m,hm,hm32,hbits⟩:=hN.at' k hkn
  rw[if_pos (by omega),bN (TK F hr hk),dV (by have:=hN.len;omega),hm,ED hm32 ht32]
  have hz:m &&& t=0:=by
   refine Wp (fun i _=> ?_) (Kx hm32)
   rw[Nat.testBit_and]
   cases h1:m.testBit i with
   |false=>rfl
   |true=>
    cases h2:t.testBit i with
    |false=>rfl
    |true=>exact absurd ((hbits i).1 h1) (hi k i (hsub k hk.bit) h2)
  rw[hz,if_neg (by simp)]
  obtain⟨m',e1,e2,e3⟩:=KA hr hk
  rw[e1]
  have hk32:k<32:=by omega
  refine ih (32 - (k+1)) (by omega) (k+1) fuel m' (by omega) e2 (fun i hi=> ?_) (fun i hi=> ?_) (by omega)
  ·rw[e3]
   by_cases e:i=k
   ·simp[e]
   ·rw[hk.low i (by omega)];rfl
  ·rw[e3,Bool.and_eq_true]at hi
   exact hsub i hi.1
theorem DN {g:GR} (hV:VG g) {r:List Int} (hN:Iw g r) {t:Nat} (ht:Of g t) (hi:∀v u,t.testBit v=true->t.testBit u=true->¬Ig g v u):fM 1000 r (t:Int)=some true:=
 KO hV hN ht hi 1000 32 0 1000 t (by omega) (by have:=ht.lt hV;omega) (fun i hi=>by omega) (fun i h=>h) (by omega)
theorem Jg {g:GR} (hV:VG g) {r:List Int} (hN:Iw g r) {W:Nat} (hW:Of g W) (F:Nat):∀(d s fuel rest t:Nat),s+d=32->rest<4294967296->t<4294967296->(∀i,i<s->rest.testBit i=false)->(∀i,rest.testBit i=true->W.testBit i=true)->(∀i,t.testBit i=true->W.testBit i=true)->(∀v u,t.testBit v=true->t.testBit u=true->¬Ig g v u)->(W≠0->t≠0∨rest=W)->d<fuel->
  ∃t':Nat,bK (cU F r) fuel ((rest:Int),(t:Int))=some (t':Int)∧t'<4294967296∧(∀i,t'.testBit i=true->W.testBit i=true)∧(∀v u,t'.testBit v=true->t'.testBit u=true->¬Ig g v u)∧(W≠0->t'≠0):=by
 have h24:=hV.n24
 intro d
 induction d using Nat.strongRecOn with
 | _ d ih =>
  intro s fuel rest t hs hr ht32 hlow hsub htW hind hne hf
  obtain⟨fuel,rfl⟩:∃f,fuel=f+1:=⟨fuel - 1,by omega⟩
  have hun:bK (cU F r) (fuel+1) ((rest:Int),(t:Int))=cU F r ((rest:Int),(t:Int)) (bK (cU F r) fuel):=rfl
  rw[hun]
  unfold cU jS gQ
  dsimp only
  by_cases h0:rest=0
  ·rw[if_neg (by omega)]
   refine⟨t,rfl,ht32,htW,hind,fun hw=> ?_⟩
   rcases hne hw with h|h
   ·exact h
   ·exact absurd (h.symm.trans h0) hw
  obtain⟨k,hk⟩:=Fe h0
  have hkW:=hsub k hk.bit
  have hkn:=hW k hkW
  have hks:s<=k:=by
   rcases Nat.lt_or_ge k s with q|q
   ·have:=hk.bit;rw[hlow k q]at this;cases this
   ·exact q
  obtain⟨m,hm,hm32,hbits⟩:=hN.at' k hkn
  obtain⟨m',e1,e2,e3⟩:=KA hr hk
  have hk32:k<32:=by omega
  have low':∀i,i<k+1->m'.testBit i=false:=fun i hi=>by
   rw[e3]
   by_cases e:i=k
   ·simp[e]
   ·rw[hk.low i (by omega)];rfl
  have sub':∀i,m'.testBit i=true->W.testBit i=true:=fun i hi=>by
   rw[e3,Bool.and_eq_true]at hi
   exact hsub i hi.1
  rw[if_pos (by omega),bN (TK F hr hk),dV (by have:=hN.len;omega),hm,ED hm32 ht32,e1]
  by_cases hz:m &&& t=0
  ·rw[hz,if_pos (by rfl),dV (by omega),Kz ht32 hk32]
   have hkt:(t ||| 2^k).testBit k=true:=by rw[Nat.testBit_or,Nat.testBit_two_pow];simp
   have nadj:∀u,t.testBit u=true->¬Ig g k u:=fun u hu ha=>by
    have:=congrArg (fun q=>q.testBit u) hz
    simp only[Nat.testBit_and,Nat.zero_testBit,(hbits u).2 ha,hu]at this
    cases this
   refine ih (32 - (k+1)) (by omega) (k+1) fuel m' (t ||| 2^k) (by omega) e2 (TH ht32 (DI hk32)) low' sub' (fun i hi=> ?_) (fun v u hv hu=> ?_) (fun _=> .inl fun e=>by rw[e]at hkt;simp at hkt) (by omega)
   ·rw[Nat.testBit_or,Nat.testBit_two_pow,Bool.or_eq_true,decide_eq_true_eq]at hi
    rcases hi with hi|rfl
    ·exact htW i hi
    ·exact hkW
   ·rw[Nat.testBit_or,Nat.testBit_two_pow,Bool.or_eq_true,decide_eq_true_eq]at hv hu
    rcases hv with hv|rfl
    ·rcases hu with hu|rfl
     ·exact hind v u hv hu
     ·exact fun ha=>nadj v hv (hV.back (hW v (htW v hv)) ha)
    ·rcases hu with hu|rfl
     ·exact nadj u hu
     ·rintro⟨i,hi,he⟩
      exact((hV.node k hkn).links i hi).2.1 he
  ·rw[if_neg (by omega)]
   refine ih (32 - (k+1)) (by omega) (k+1) fuel m' t (by omega) e2 ht32 low' sub' htW hind (fun _=> .inl fun e=> ?_) (by omega)
   rw[e]at hz
   exact hz (Nat.and_zero m)
theorem KZ {g:GR} (hV:VG g) {r:List Int} (hN:Iw g r) {kind:Int} (hk1:1<=kind) (hk4:kind<=4) {e w:Nat} (he:Of g e) (hw:w<4294967296):
  ∃t:Nat,eQ 1000 r kind (e:Int) (w:Int)=some (t:Int)∧(∀i,t.testBit i=true->e.testBit i=true)∧(e≠0->t≠0∧eP 1000 r kind (e:Int) (t:Int)=some true∧(kind=2->∀v u,t.testBit v=true->t.testBit u=true->¬Ig g v u)∧(kind=4->t=e)):=by
 have he24:=he.lt hV
 have he32:e<4294967296:=by omega
 -- the wish
 obtain⟨W,hW,hW32,hWe,hW0,hWm⟩:∃W:Nat,eQ 1000 r kind (e:Int) (w:Int)=fF 1000 r kind (e:Int) (W:Int)∧W<4294967296∧(∀i,W.testBit i=true->e.testBit i=true)∧(e≠0->W≠0)∧(e=0->W=0):=by
  unfold eQ
  rw[ED hw he32]
  by_cases h0:w &&& e=0
  ·rw[h0,if_pos (show((0:Nat):Int)=0 from rfl)]
   by_cases hee:e=0
   ·refine⟨0,by rw[hee];rfl,by omega,fun i h=>by simp at h,fun h=>absurd hee h,fun _=>rfl⟩
   ·obtain⟨k,hk⟩:=Fe hee
    have hk32:=CV he32 hk.bit
    refine⟨2^k,by rw[Vd he32 hk],DI hk32,fun i h=> ?_,fun _=>Nat.ne_of_gt (Nat.pow_pos (by omega)),fun h=>absurd h hee⟩
    rw[Nat.testBit_two_pow,decide_eq_true_eq]at h
    rw[<-h];exact hk.bit
  ·rw[if_neg (by omega)]
   refine⟨w &&& e,rfl,Kx hw,fun i h=> ?_,fun _=>h0,fun h=>by rw[h];exact Nat.and_zero w⟩
   rw[Nat.testBit_and,Bool.and_eq_true]at h
   exact h.2
 have hWG:Of g W:=fun i hi=>he i (hWe i hi)
 have permits:∀(t:Nat),t≠0->t<4294967296->(∀i,t.testBit i=true->e.testBit i=true)->∀b,(if kind=1 then some (decide ((dD .u32 (t:Int) (wI .u32 ((t:Int) - 1)))=0))else if kind=2 then(Option.bind (fM 1000 r (t:Int)) fun r7=>some r7)else if kind=4 then some (decide ((t:Int)=(e:Int)))else some true)=some b->eP 1000 r kind (e:Int) (t:Int)=some b:=by
  intro t h0 h32 hsub b hb
  unfold eP gO
  have hd:Jc t e=0:=by
   refine Nat.eq_of_testBit_eq fun i=> ?_
   rw[Nr h32 he32,Nat.zero_testBit]
   cases h1:t.testBit i with
   |false=>rfl
   |true=>rw[hsub i h1];rfl
  rw[if_neg (by omega),ON,hd,if_neg (by simp)]
  exact hb
 rw[hW]
 unfold fF
 by_cases k1:kind=1
 ·rw[if_pos k1]
  by_cases hw0:W=0
  ·refine⟨0,by rw[hw0];rfl,fun i h=>by simp at h,fun h=>absurd hw0 (hW0 h)⟩
  ·obtain⟨k,hk⟩:=Fe hw0
   have hk32:=CV hW32 hk.bit
   have hL:MY (2^k) k:=⟨by rw[Nat.testBit_two_pow];simp,fun j hj=>by rw[Nat.testBit_two_pow];exact decide_eq_false (by omega)⟩
   refine⟨2^k,by rw[Vd hW32 hk],fun i h=> ?_,fun hee=>⟨Nat.ne_of_gt (Nat.pow_pos (by omega)),?_,fun h=>by omega,fun h=>by omega⟩⟩
   ·rw[Nat.testBit_two_pow,decide_eq_true_eq]at h
    rw[<-h];exact hWe k hk.bit
   ·refine permits _ (Nat.ne_of_gt (Nat.pow_pos (by omega))) (DI hk32) (fun i h=> ?_) true ?_
    ·rw[Nat.testBit_two_pow,decide_eq_true_eq]at h
     rw[<-h];exact hWe k hk.bit
    ·obtain⟨m',e1,e2,e3⟩:=KA (DI hk32) hL
     rw[if_pos k1,e1]
     have:m'=0:=Nat.eq_of_testBit_eq fun i=>by
      rw[e3,Nat.testBit_two_pow,Nat.zero_testBit]
      by_cases q:k=i
      ·simp[q]
      ·simp[q]
     rw[this];rfl
 rw[if_neg k1]
 by_cases k2:kind=2
 ·rw[if_pos k2]
  obtain⟨t,h1,h2,h3,h4,h5⟩:=Jg hV hN hWG 1000 32 0 1000 W 0 (by omega) hW32 (by omega) (fun i hi=>by omega) (fun i h=>h) (fun i h=>by simp at h) (fun v u h=>by simp at h) (fun _=> .inr rfl) (by omega)
  refine⟨t,h1,fun i h=>hWe i (h3 i h),fun hee=>⟨h5 (hW0 hee),?_,fun _=>h4,fun h=>by omega⟩⟩
  refine permits t (h5 (hW0 hee)) h2 (fun i h=>hWe i (h3 i h)) true ?_
  rw[if_neg k1,if_pos k2,bN (DN hV hN (fun i h=>hWG i (h3 i h)) h4)]
 rw[if_neg k2]
 by_cases k4:kind=4
 ·rw[if_pos k4]
  refine⟨e,rfl,fun i h=>h,fun hee=>⟨hee,permits e hee he32 (fun i h=>h) true ?_,fun h=>absurd h k2,fun _=>rfl⟩⟩
  rw[if_neg k1,if_neg k2,if_pos k4];simp
 ·rw[if_neg k4]
  refine⟨W,rfl,hWe,fun hee=>⟨hW0 hee,permits W (hW0 hee) hW32 hWe true ?_,fun h=>absurd h k2,fun h=>absurd h k4⟩⟩
  rw[if_neg k1,if_neg k2,if_neg k4]
end Go.Proofs.YtigggfnchamobaaGreatDoor
end
section
namespace Go.Proofs.YtigggfnchamobaaGreatDoor
open Go.Sx
def uP  (a4:Int):Option (Int):=
 some (a4)
def pF (p0:List (Int)) (a9:Int×Int) (ag8:(Int×Int)->Option (Int)):Option (Int):=
 if a9.2<(List.length p0:Int)then(ck (0<=a9.2∧a9.2<(List.length p0:Int)) (ag8 ((max a9.1 (at' p0 a9.2)),(wI .i64 (a9.2+(1:Int))))))else(uP  (a9.1))
def tQ (fuel:Nat) (p0:List (Int)):Option (Int):=
 if(List.length p0:Int)<(1:Int)then(none)else(ck (0<=(0:Int)∧(0:Int)<(List.length p0:Int)) (bK (pF p0) fuel ((at' p0 (0:Int)),(1:Int))))
theorem RZ:aV Tryz.prog 141:=Tryz.call141
theorem Ia (fuel:Nat) {p0:List (Int)} (v0:Value) (r:Int) (h:tQ fuel p0=some r):
  bA Tryz.prog 141 #[v0] [Sl aR v0 p0] (fun x:Unit=>Value.int .i64 (r)) (fun x l=>l) (fun _ l=>l):=by
 refine bA.of (vs:=[v0]) Tryz.func141 rfl Tryz.ntmps141 rfl fun c=>?_
 unfold tQ at h
 refine sqR<|qkAsg rfl<|dtN<|aO<|sqR<|qkMove rfl<|aB (cB rfl (aC.fact 0 rfl) rfl) rfl<|qkLss rfl<|dtN ?_
 refine eR h rfl (fun _ h=>?_) fun _ h=>?_
 ·refine aS ?_
  cases h
 refine aW<|aI<|sqR<|qkMove rfl ?_
 have⟨hc2,h⟩:=aN h
 refine aB (bE rfl rfl (aC.fact 0 rfl) rfl rfl hc2) rfl<|aB (bZ rfl (aC.fact 0 rfl) rfl rfl rfl dU hc2) rfl<|qkAsg rfl<|dtN<|aO<|bL (A:=Int) (B:=Unit) (fun a4=>uP  a4=some r) (fun a4 b5=>[(3,Value.int .i64 (a4))]) (fun a4 b5=>[]) (fun a4 b5=>[Sl aR v0 p0]) ?_ ?_
 ·refine sqR<|qkAsg rfl<|dtN<|aU<|bY (A:=Int×Int) (B:=Unit) (pF p0) (fun a9 b10=>[(0,v0),(3,Value.int .i64 (a9.1)),(4,Value.int .i64 (a9.2))]) (fun a9 b10=>[]) (fun a9 b10=>[Sl aR v0 p0]) ((at' p0 (0:Int)),(1:Int)) (()) h SF (aP.refl _) (aA.refl _ _) ?_
  clear h
  intro k11 a9 b10 h
  unfold pF at h
  refine aO<|sqR<|qkMove rfl<|qkMove rfl<|aB (cB rfl (aC.fact 0 rfl) rfl) rfl<|qkLss rfl<|dtN ?_
  refine eR h rfl (fun _ h=>?_) fun _ h=>?_
  ·refine aW<|aI<|aO<|aU<|aS<|qkMove rfl<|qkMove rfl<|qkMove rfl ?_
   have⟨hc13,h⟩:=aN h
   refine aB (bE rfl rfl (aC.fact 0 rfl) rfl rfl hc13) rfl<|aB (bZ rfl (aC.fact 0 rfl) rfl rfl rfl dU hc13) rfl<|aB (IP rfl rfl) rfl<|qkAsg rfl<|eD<|bV<|aI<|aS<|qkMove rfl<|qkAdd rfl<|qkAsg rfl<|dtN ?_
   exact xG ((max a9.1 (at' p0 a9.2)),(wI .i64 (a9.2+(1:Int)))) (()) h SF rfl
  refine cE<|aY<|aY<|dJ<|aI ?_
  exact jA (a9.1) (()) h SF rfl
 clear h
 intro a4 b5 h
 unfold uP at h
 refine sqR<|qkMove rfl<|qkAsg rfl<|dtN<|aX ?_
 cases h
 exact lN rfl
end Go.Proofs.YtigggfnchamobaaGreatDoor
end
section
namespace Go.Proofs.YtigggfnchamobaaGreatDoor
open Go.Sx
def jU (fuel:Nat) (p0:ByteArray×Int×Int×Int×Int×Int) (p1:List (Int)×(List (List (Int×Int)))) (p2:Int):Option (Int×Int):=
 Option.bind (tQ fuel p1.1) fun r3=>(some (p0.2.2.1,(wI .i64 ((wI .i64 (p0.2.2.2.1+(wI .i64 (p0.2.2.2.2.1*(List.length p1.1:Int)))))+(wI .i64 (p0.2.2.2.2.2*r3))))))
theorem RY:aV Tryz.prog 140:=Tryz.call140
theorem CE (fuel:Nat) {p0:ByteArray×Int×Int×Int×Int×Int} {p1:List (Int)×(List (List (Int×Int)))} {p2:Int} (v0:Value)  (v1:Value)  (z2:List (Value×List (Int×Int))) (r:Int×Int) (h:jU fuel p0 p1 p2=some r):
  bA Tryz.prog 140 #[Value.agg #[Value.string (p0.1),Value.int .i64 (p0.2.1),Value.int .i64 (p0.2.2.1),Value.int .i64 (p0.2.2.2.1),Value.int .i64 (p0.2.2.2.2.1),Value.int .i64 (p0.2.2.2.2.2)],Value.agg #[v0,v1],Value.int .i64 (p2)] [Sl aR v0 p1.1,S2 aK v1 z2 p1.2] (fun x:Unit=>Value.tuple #[Value.int .i64 (r.1),Value.int .i64 (r.2)]) (fun x l=>l) (fun _ l=>l):=by
 refine bA.of (vs:=[Value.agg #[Value.string (p0.1),Value.int .i64 (p0.2.1),Value.int .i64 (p0.2.2.1),Value.int .i64 (p0.2.2.2.1),Value.int .i64 (p0.2.2.2.2.1),Value.int .i64 (p0.2.2.2.2.2)],Value.agg #[v0,v1],Value.int .i64 (p2)]) Tryz.func140 rfl Tryz.ntmps140 rfl fun c=>?_
 unfold jU at h
 refine sqR<|aL (aQ.box (cs:=[Value.string (p0.1),Value.int .i64 (p0.2.1),Value.int .i64 (p0.2.2.1),Value.int .i64 (p0.2.2.2.1),Value.int .i64 (p0.2.2.2.2.1),Value.int .i64 (p0.2.2.2.2.2)]) rfl rfl) rfl fun b1=>aL (aQ.box (cs:=[v0,v1]) rfl rfl) rfl fun b2=>qkAsg rfl<|qkAsg rfl<|dtN<|aO ?_
 refine JR.start [0,1,0,4,0,16,0,64,192,496,1020,0,2048,0,8192,24576,63488,131068,57347,524287] 19 mixedOrders (by decide +kernel) ?_
 refine JR.open (by exact rfl) ?_
 refine jkFld rfl<|jkLd 1 rfl<|jkFld rfl<|jkLd 1 rfl<|jkFld rfl<|jkLd 1 rfl<|jkFld rfl<|jkLd 0 rfl<|aT rfl .nil (cW.cons (List.mem_of_getElem? (i:=0) rfl) .nil) (cB rfl (aC.fact 0 rfl) rfl) aF.z<|aT rfl .nil .nil (yO rfl rfl) aF.z<|aT rfl .nil .nil (pG rfl rfl) aF.z<|jkFld rfl<|jkLd 1 rfl<|jkFld rfl<|jkLd 0 rfl ?_
 have⟨r3,hr4,h⟩:=fJ h
 refine JR.loud rfl rfl rfl (aJ RZ (Ia fuel v0 r3 hr4) rfl (aA.cons (aC.fact 0 rfl) .nil) (fun _ _=>rfl)) rfl (fun x5=>(aE.b rfl (aE.b rfl (aE.h (aP.ix [1] rfl rfl) .nil (aE.h .nil .nil (aE.h .nil .nil (aE.h .nil .nil (aE.h .nil (cW.cons (List.mem_of_getElem? (i:=0) rfl) .nil) (aE.h (aP.ix [0] rfl rfl) .nil (aE.h .nil .nil (aE.h (aP.ix [1] rfl rfl) .nil (aE.h .nil .nil (aE.h (aP.ix [1] rfl rfl) .nil (aE.h .nil .nil (aE.h (aP.ix [1] rfl rfl) .nil (aE.h .nil .nil aE.z)))))))))))))))) fun x5=>aT rfl .nil .nil (yO rfl rfl) (aF.b rfl aF.z)<|aT rfl .nil .nil (pG rfl rfl) (aF.b rfl aF.z)<|aT rfl .nil .nil (tB rfl) (aF.b rfl aF.z)<|bS 19 rfl rfl<|qkAsg rfl<|dtN<|aX ?_
 cases h
 exact jD (()) rfl rfl (RV.tmp rfl) (RV.tmp rfl) .nil aA.nil
end Go.Proofs.YtigggfnchamobaaGreatDoor
end
section
namespace Go.Proofs.YtigggfnchamobaaGreatDoor
open Go.Sx
def pM (fuel:Nat) (p0:ByteArray×Int×Int×Int×Int×Int) (p1:List (Int)×(List (List (Int×Int)))) (p2:Int):Option (Int×Int):=
 some ((0:Int),(1:Int))
theorem R_:aV Tryz.prog 142:=Tryz.call142
theorem CF (fuel:Nat) {p0:ByteArray×Int×Int×Int×Int×Int} {p1:List (Int)×(List (List (Int×Int)))} {p2:Int} (v0:Value)  (v1:Value)  (z2:List (Value×List (Int×Int))) (r:Int×Int) (h:pM fuel p0 p1 p2=some r):
  bA Tryz.prog 142 #[Value.agg #[Value.string (p0.1),Value.int .i64 (p0.2.1),Value.int .i64 (p0.2.2.1),Value.int .i64 (p0.2.2.2.1),Value.int .i64 (p0.2.2.2.2.1),Value.int .i64 (p0.2.2.2.2.2)],Value.agg #[v0,v1],Value.int .i64 (p2)] [Sl aR v0 p1.1,S2 aK v1 z2 p1.2] (fun x:Unit=>Value.tuple #[Value.int .i64 (r.1),Value.int .i64 (r.2)]) (fun x l=>l) (fun _ l=>l):=by
 refine bA.of (vs:=[Value.agg #[Value.string (p0.1),Value.int .i64 (p0.2.1),Value.int .i64 (p0.2.2.1),Value.int .i64 (p0.2.2.2.1),Value.int .i64 (p0.2.2.2.2.1),Value.int .i64 (p0.2.2.2.2.2)],Value.agg #[v0,v1],Value.int .i64 (p2)]) Tryz.func142 rfl Tryz.ntmps142 rfl fun c=>?_
 unfold pM at h
 refine sqR<|aL (aQ.box (cs:=[Value.string (p0.1),Value.int .i64 (p0.2.1),Value.int .i64 (p0.2.2.1),Value.int .i64 (p0.2.2.2.1),Value.int .i64 (p0.2.2.2.2.1),Value.int .i64 (p0.2.2.2.2.2)]) rfl rfl) rfl fun b1=>aL (aQ.box (cs:=[v0,v1]) rfl rfl) rfl fun b2=>qkAsg rfl<|qkAsg rfl<|dtN<|sqR<|qkAsg rfl<|qkAsg rfl<|dtN<|aX ?_
 cases h
 exact jD (()) rfl rfl (RV.tmp rfl) (RV.tmp rfl) .nil aA.nil
end Go.Proofs.YtigggfnchamobaaGreatDoor
end
section
namespace Go.Proofs.YtigggfnchamobaaGreatDoor
open Go.Sx
def jV (fuel:Nat) (p0:ByteArray×Int×Int×Int×Int×Int) (p1:List (Int)×(List (List (Int×Int)))) (p2:Int):Option (Int×Int):=
 ck (0<=p2∧p2<(List.length p1.2:Int)) (some ((-1:Int),(wI .i64 ((List.length (at' p1.2 p2):Int) - (1:Int)))))
theorem Sa:aV Tryz.prog 143:=Tryz.call143
theorem CG (fuel:Nat) {p0:ByteArray×Int×Int×Int×Int×Int} {p1:List (Int)×(List (List (Int×Int)))} {p2:Int} (v0:Value)  (v1:Value)  (z2:List (Value×List (Int×Int))) (r:Int×Int) (h:jV fuel p0 p1 p2=some r):
  bA Tryz.prog 143 #[Value.agg #[Value.string (p0.1),Value.int .i64 (p0.2.1),Value.int .i64 (p0.2.2.1),Value.int .i64 (p0.2.2.2.1),Value.int .i64 (p0.2.2.2.2.1),Value.int .i64 (p0.2.2.2.2.2)],Value.agg #[v0,v1],Value.int .i64 (p2)] [Sl aR v0 p1.1,S2 aK v1 z2 p1.2] (fun x:Unit=>Value.tuple #[Value.int .i64 (r.1),Value.int .i64 (r.2)]) (fun x l=>l) (fun _ l=>l):=by
 refine bA.of (vs:=[Value.agg #[Value.string (p0.1),Value.int .i64 (p0.2.1),Value.int .i64 (p0.2.2.1),Value.int .i64 (p0.2.2.2.1),Value.int .i64 (p0.2.2.2.2.1),Value.int .i64 (p0.2.2.2.2.2)],Value.agg #[v0,v1],Value.int .i64 (p2)]) Tryz.func143 rfl Tryz.ntmps143 rfl fun c=>?_
 unfold jV at h
 refine sqR<|aL (aQ.box (cs:=[Value.string (p0.1),Value.int .i64 (p0.2.1),Value.int .i64 (p0.2.2.1),Value.int .i64 (p0.2.2.2.1),Value.int .i64 (p0.2.2.2.2.1),Value.int .i64 (p0.2.2.2.2.2)]) rfl rfl) rfl fun b1=>aL (aQ.box (cs:=[v0,v1]) rfl rfl) rfl fun b2=>qkAsg rfl<|qkAsg rfl<|dtN<|aO ?_
 refine JR.start [0,1,0,7,15,31,63,0,255] 8 mixedOrders (by decide +kernel) ?_
 refine JR.open (by exact rfl) ?_
 refine jkFld rfl<|jkLd 0 rfl<|jkMove rfl ?_
 have⟨hc3,h⟩:=aN h
 refine aT rfl .nil (cW.cons (List.mem_of_getElem? (i:=1) rfl) .nil) (cS rfl rfl (aC.fact 0 rfl) rfl rfl hc3) aF.z<|aT rfl .nil (cW.cons (List.mem_of_getElem? (i:=1) rfl) .nil) (cT rfl (aC.fact 0 rfl) rfl rfl hc3) aF.z<|aT rfl .nil (cW.cons (List.mem_of_getElem? (i:=1) rfl) .nil) (cB rfl (aC.el (aC.fact 0 rfl) hc3.1 hc3.2) rfl) aF.z<|aT rfl .nil .nil (pV rfl rfl) aF.z<|aT rfl .nil .nil (tB rfl) aF.z<|bS 8 rfl rfl<|qkAsg rfl<|dtN<|aX ?_
 cases h
 exact jD (()) rfl rfl (RV.tmp rfl) (RV.tmp rfl) .nil aA.nil
end Go.Proofs.YtigggfnchamobaaGreatDoor
end
section
namespace Go.Proofs.YtigggfnchamobaaGreatDoor
open Go.Sx
def uF  (a4:Unit):Option (Int×Int):=
 some ((0:Int),(-1:Int))
def kQ (a8:Int) (ag7:(Int)->Option (Int×Int)) (a12:Unit):Option (Int×Int):=
 ag7 (wI .i64 (a8+(1:Int)))
def dC (fuel:Nat) (p0:ByteArray×Int×Int×Int×Int×Int) (p1:List (Int)×(List (List (Int×Int)))) (p2:Int) (a8:Int) (ag7:(Int)->Option (Int×Int)):Option (Int×Int):=
 if a8<(List.length ([((1:Int),(140:Nat)),((2:Int),(142:Nat)),((3:Int),(143:Nat))]):Int)then(ck (0<=a8∧a8<(List.length ([((1:Int),(140:Nat)),((2:Int),(142:Nat)),((3:Int),(143:Nat))]):Int)) (if a8=(0:Int)then(if(1:Int)=p0.2.1 then(Option.bind (jU fuel ((p0.1,p0.2.1,p0.2.2.1,p0.2.2.2.1,p0.2.2.2.2.1,p0.2.2.2.2.2)) ((p1.1,p1.2)) p2) fun r18=>(some (r18.1,r18.2)))else(kQ a8 ag7 (())))else(if a8=(1:Int)then(if(2:Int)=p0.2.1 then(Option.bind (pM fuel ((p0.1,p0.2.1,p0.2.2.1,p0.2.2.2.1,p0.2.2.2.2.1,p0.2.2.2.2.2)) ((p1.1,p1.2)) p2) fun r24=>(some (r24.1,r24.2)))else(kQ a8 ag7 (())))else(if(3:Int)=p0.2.1 then(Option.bind (jV fuel ((p0.1,p0.2.1,p0.2.2.1,p0.2.2.2.1,p0.2.2.2.2.1,p0.2.2.2.2.2)) ((p1.1,p1.2)) p2) fun r30=>(some (r30.1,r30.2)))else(kQ a8 ag7 (()))))))else(uF  (()))
def iK (fuel:Nat) (p0:ByteArray×Int×Int×Int×Int×Int) (p1:List (Int)×(List (List (Int×Int)))) (p2:Int):Option (Int×Int):=
 bK (dC fuel p0 p1 p2) fuel (0:Int)
theorem LF:aV Tryz.prog 117:=Tryz.call117
theorem zP (fuel:Nat) {p0:ByteArray×Int×Int×Int×Int×Int} {p1:List (Int)×(List (List (Int×Int)))} {p2:Int} (v0:Value)  (v1:Value)  (z2:List (Value×List (Int×Int))) (r:Int×Int) (h:iK fuel p0 p1 p2=some r):
  bA Tryz.prog 117 #[Value.agg #[Value.string (p0.1),Value.int .i64 (p0.2.1),Value.int .i64 (p0.2.2.1),Value.int .i64 (p0.2.2.2.1),Value.int .i64 (p0.2.2.2.2.1),Value.int .i64 (p0.2.2.2.2.2)],Value.agg #[v0,v1],Value.int .i64 (p2)] [Sl aR v0 p1.1,S2 aK v1 z2 p1.2] (fun x:Unit=>Value.tuple #[Value.int .i64 (r.1),Value.int .i64 (r.2)]) (fun x l=>l) (fun _ l=>l):=by
 refine bA.of (vs:=[Value.agg #[Value.string (p0.1),Value.int .i64 (p0.2.1),Value.int .i64 (p0.2.2.1),Value.int .i64 (p0.2.2.2.1),Value.int .i64 (p0.2.2.2.2.1),Value.int .i64 (p0.2.2.2.2.2)],Value.agg #[v0,v1],Value.int .i64 (p2)]) Tryz.func117 rfl Tryz.ntmps117 rfl fun c=>?_
 unfold iK at h
 refine sqR<|aL (aQ.box (cs:=[Value.string (p0.1),Value.int .i64 (p0.2.1),Value.int .i64 (p0.2.2.1),Value.int .i64 (p0.2.2.2.1),Value.int .i64 (p0.2.2.2.2.1),Value.int .i64 (p0.2.2.2.2.2)]) rfl rfl) rfl fun b1=>aL (aQ.box (cs:=[v0,v1]) rfl rfl) rfl fun b2=>qkAsg rfl<|qkAsg rfl<|dtN<|sqR ?_
 refine aB (By (r:=Value.agg #[Value.int .i64 (1:Int),Value.func (.func 140) #[] #[]]) rfl rfl (by intro w;simp[Instr.build,Instr.fill,eK,dN,c_,eL,eM,dO,fQ])) rfl ?_
 refine aB (By (r:=Value.agg #[Value.int .i64 (2:Int),Value.func (.func 142) #[] #[]]) rfl rfl (by intro w;simp[Instr.build,Instr.fill,eK,dN,c_,eL,eM,dO,fQ])) rfl ?_
 refine aB (By (r:=Value.agg #[Value.int .i64 (3:Int),Value.func (.func 143) #[] #[]]) rfl rfl (by intro w;simp[Instr.build,Instr.fill,eK,dN,c_,eL,eM,dO,fQ])) rfl ?_
 refine aL (cJ (e:=DU) ([(((1:Int),((140:Nat)))),(((2:Int),((142:Nat)))),(((3:Int),((143:Nat))))]) [(0,Value.agg #[Value.int .i64 (1:Int),Value.func (.func 140) #[] #[]]),(1,Value.agg #[Value.int .i64 (2:Int),Value.func (.func 142) #[] #[]]),(2,Value.agg #[Value.int .i64 (3:Int),Value.func (.func 143) #[] #[]])] rfl rfl rfl rfl (PD (Value.int .i64 (1:Int)) (Value.func (.func 140) #[] #[]) (Value.int .i64 (2:Int)) (Value.func (.func 142) #[] #[]) (Value.int .i64 (3:Int)) (Value.func (.func 143) #[] #[])) rfl rfl rfl) rfl fun u3=>qkAsg rfl<|dtN<|aO<|bL (A:=Unit) (B:=Unit) (fun a4=>uF  a4=some r) (fun a4 b5=>[]) (fun a4 b5=>[]) (fun a4 b5=>[Sl aR v0 p1.1,S2 aK v1 z2 p1.2]) ?_ ?_
 ·refine sqR<|qkMove rfl<|aB (cB rfl (aZ (aC.res 0 rfl) wV) rfl) rfl<|qkMove rfl<|dtN<|aU<|bY (A:=Int) (B:=Unit) (dC fuel p0 p1 p2) (fun a8 b9=>[(2,Value.int .i64 (p2)),(3,Value.pointer (some ⟨b1,0,none⟩)),(4,Value.pointer (some ⟨b2,0,none⟩)),(15,u3),(16,Value.int .i64 (List.length ([((1:Int),(140:Nat)),((2:Int),(142:Nat)),((3:Int),(143:Nat))]):Int)),(17,Value.int .i64 (a8))]) (fun a8 b9=>[Ar DU u3 ([((1:Int),(140:Nat)),((2:Int),(142:Nat)),((3:Int),(143:Nat))]),bR b2 [v0,v1] 28,bR b1 [Value.string (p0.1),Value.int .i64 (p0.2.1),Value.int .i64 (p0.2.2.1),Value.int .i64 (p0.2.2.2.1),Value.int .i64 (p0.2.2.2.2.1),Value.int .i64 (p0.2.2.2.2.2)] 60]) (fun a8 b9=>[Sl aR v0 p1.1,S2 aK v1 z2 p1.2]) (0:Int) (()) h SF (aP.refl _) (aA.refl _ _) ?_
  clear h
  intro k10 a8 b9 h
  unfold dC at h
  refine sqR<|qkLss rfl<|dtN<|aO ?_
  refine eR h rfl (fun _ h=>?_) fun _ h=>?_
  ·refine aW<|aI<|aO<|bL (A:=Unit) (B:=Unit) (fun a12=>kQ a8 (bK (dC fuel p0 p1 p2) k10) a12=some r) (fun a12 b13=>[(2,Value.int .i64 (p2)),(3,Value.pointer (some ⟨b1,0,none⟩)),(4,Value.pointer (some ⟨b2,0,none⟩)),(15,u3),(16,Value.int .i64 (List.length ([((1:Int),(140:Nat)),((2:Int),(142:Nat)),((3:Int),(143:Nat))]):Int)),(17,Value.int .i64 (a8))]) (fun a12 b13=>[Ar DU u3 ([((1:Int),(140:Nat)),((2:Int),(142:Nat)),((3:Int),(143:Nat))]),bR b2 [v0,v1] 28,bR b1 [Value.string (p0.1),Value.int .i64 (p0.2.1),Value.int .i64 (p0.2.2.1),Value.int .i64 (p0.2.2.2.1),Value.int .i64 (p0.2.2.2.2.1),Value.int .i64 (p0.2.2.2.2.2)] 60]) (fun a12 b13=>[Sl aR v0 p1.1,S2 aK v1 z2 p1.2]) ?_ ?_
   ·refine aU<|sqR ?_
    have⟨hc14,h⟩:=aN h
    refine aB (bE rfl rfl (aZ (aC.res 0 rfl) wV) rfl rfl hc14) rfl ?_
    by_cases hq15:a8=(0:Int)
    ·have h:=Q_ hq15 h
     refine aB (gM (cs:=[Value.int .i64 (1:Int),Value.func (.func 140) #[] #[]]) rfl (aZ (aC.res 0 rfl) wV) wV (by rw[hq15];rfl) rfl rfl rfl hc14) rfl ?_
     refine aL (aQ.alloc (cs:=[Value.int .i64 (0:Int),Value.nilFunc]) rfl rfl) rfl fun b16=>bM 0 (vs:=[Value.int .i64 (1:Int),Value.func (.func 140) #[] #[]]) rfl rfl rfl rfl rfl rfl<|dtN<|sqR<|qkFld rfl<|qkLd 0 rfl<|qkFld rfl<|qkLd 3 rfl<|qkEql rfl<|dtN ?_
     refine eR h rfl (fun _ h=>?_) fun _ h=>?_
     ·refine sqR<|qkFld rfl<|qkLd 0 rfl<|qkLdA 3 rfl<|qkLdA 2 rfl<|qkMove rfl ?_
      have⟨r18,hr19,h⟩:=fJ h
      refine aL (pR (vs:=[Value.agg #[Value.string (p0.1),Value.int .i64 (p0.2.1),Value.int .i64 (p0.2.2.1),Value.int .i64 (p0.2.2.2.1),Value.int .i64 (p0.2.2.2.2.1),Value.int .i64 (p0.2.2.2.2.2)],Value.agg #[v0,v1],Value.int .i64 (p2)]) (cs:=[]) RY rfl (CE fuel v0 v1 z2 r18 hr19) rfl (aA.cons (aC.fact 0 rfl) (aA.cons (aC.fact 1 rfl) .nil)) (fun _ _=>rfl)) rfl fun x20=>aB (bJ rfl rfl) rfl<|aB (bJ rfl rfl) rfl<|qkAsg rfl<|qkAsg rfl<|dtN<|aX<|bP<|aM<|aM<|bP<|aM ?_
      cases h
      exact jD (()) rfl rfl (RV.tmp rfl) (RV.tmp rfl) .nil aA.nil
     refine aW<|bV<|aI ?_
     exact cM (()) (()) h SF (aP.ix [1,2,3] rfl rfl) (aA.refl _ _)
    have h:=WG hq15 h
    by_cases hq21:a8=(1:Int)
    ·have h:=Q_ hq21 h
     refine aB (gM (cs:=[Value.int .i64 (2:Int),Value.func (.func 142) #[] #[]]) rfl (aZ (aC.res 0 rfl) wV) wV (by rw[hq21];rfl) rfl rfl rfl hc14) rfl ?_
     refine aL (aQ.alloc (cs:=[Value.int .i64 (0:Int),Value.nilFunc]) rfl rfl) rfl fun b22=>bM 0 (vs:=[Value.int .i64 (2:Int),Value.func (.func 142) #[] #[]]) rfl rfl rfl rfl rfl rfl<|dtN<|sqR<|qkFld rfl<|qkLd 0 rfl<|qkFld rfl<|qkLd 3 rfl<|qkEql rfl<|dtN ?_
     refine eR h rfl (fun _ h=>?_) fun _ h=>?_
     ·refine sqR<|qkFld rfl<|qkLd 0 rfl<|qkLdA 3 rfl<|qkLdA 2 rfl<|qkMove rfl ?_
      have⟨r24,hr25,h⟩:=fJ h
      refine aL (pR (vs:=[Value.agg #[Value.string (p0.1),Value.int .i64 (p0.2.1),Value.int .i64 (p0.2.2.1),Value.int .i64 (p0.2.2.2.1),Value.int .i64 (p0.2.2.2.2.1),Value.int .i64 (p0.2.2.2.2.2)],Value.agg #[v0,v1],Value.int .i64 (p2)]) (cs:=[]) R_ rfl (CF fuel v0 v1 z2 r24 hr25) rfl (aA.cons (aC.fact 0 rfl) (aA.cons (aC.fact 1 rfl) .nil)) (fun _ _=>rfl)) rfl fun x26=>aB (bJ rfl rfl) rfl<|aB (bJ rfl rfl) rfl<|qkAsg rfl<|qkAsg rfl<|dtN<|aX<|bP<|aM<|aM<|bP<|aM ?_
      cases h
      exact jD (()) rfl rfl (RV.tmp rfl) (RV.tmp rfl) .nil aA.nil
     refine aW<|bV<|aI ?_
     exact cM (()) (()) h SF (aP.ix [1,2,3] rfl rfl) (aA.refl _ _)
    have h:=WG hq21 h
    have hq27:a8=(2:Int):=by have q:=hc14;simp only[List.length_cons,List.length_nil]at q;omega
    refine aB (gM (cs:=[Value.int .i64 (3:Int),Value.func (.func 143) #[] #[]]) rfl (aZ (aC.res 0 rfl) wV) wV (by rw[hq27];rfl) rfl rfl rfl hc14) rfl ?_
    refine aL (aQ.alloc (cs:=[Value.int .i64 (0:Int),Value.nilFunc]) rfl rfl) rfl fun b28=>bM 0 (vs:=[Value.int .i64 (3:Int),Value.func (.func 143) #[] #[]]) rfl rfl rfl rfl rfl rfl<|dtN<|sqR<|qkFld rfl<|qkLd 0 rfl<|qkFld rfl<|qkLd 3 rfl<|qkEql rfl<|dtN ?_
    refine eR h rfl (fun _ h=>?_) fun _ h=>?_
    ·refine sqR<|qkFld rfl<|qkLd 0 rfl<|qkLdA 3 rfl<|qkLdA 2 rfl<|qkMove rfl ?_
     have⟨r30,hr31,h⟩:=fJ h
     refine aL (pR (vs:=[Value.agg #[Value.string (p0.1),Value.int .i64 (p0.2.1),Value.int .i64 (p0.2.2.1),Value.int .i64 (p0.2.2.2.1),Value.int .i64 (p0.2.2.2.2.1),Value.int .i64 (p0.2.2.2.2.2)],Value.agg #[v0,v1],Value.int .i64 (p2)]) (cs:=[]) Sa rfl (CG fuel v0 v1 z2 r30 hr31) rfl (aA.cons (aC.fact 0 rfl) (aA.cons (aC.fact 1 rfl) .nil)) (fun _ _=>rfl)) rfl fun x32=>aB (bJ rfl rfl) rfl<|aB (bJ rfl rfl) rfl<|qkAsg rfl<|qkAsg rfl<|dtN<|aX<|bP<|aM<|aM<|bP<|aM ?_
     cases h
     exact jD (()) rfl rfl (RV.tmp rfl) (RV.tmp rfl) .nil aA.nil
    refine aW<|bV<|aI ?_
    exact cM (()) (()) h SF (aP.ix [1,2,3] rfl rfl) (aA.refl _ _)
   clear h
   intro a12 b13 h
   unfold kQ at h
   refine aS<|qkAdd rfl<|qkMove rfl<|dtN ?_
   exact xG (wI .i64 (a8+(1:Int))) (()) h SF rfl
  refine cE<|aY<|aY<|dJ<|aI ?_
  exact cM (()) (()) h SF .nil (aA.refl _ _)
 clear h
 intro a4 b5 h
 unfold uF at h
 refine sqR<|qkAsg rfl<|qkAsg rfl<|dtN<|aX ?_
 cases h
 exact jD (()) rfl rfl (RV.tmp rfl) (RV.tmp rfl) (aP.refl _) aA.nil
end Go.Proofs.YtigggfnchamobaaGreatDoor
end
section
namespace Go.Proofs.YtigggfnchamobaaGreatDoor
open Go.Sx
def rR  (a7:(List (List (Int×Int)))):Option ((List (List (Int×Int)))):=
 some (a7)
def rS (a13:Int×(List (List (Int×Int)))) (ag12:(Int×(List (List (Int×Int))))->Option ((List (List (Int×Int))))) (a19:(List (List (Int×Int)))):Option ((List (List (Int×Int)))):=
 ag12 ((wI .i64 (a13.1+(1:Int))),a19)
def jZ (fuel:Nat) (p0:ByteArray×(List (ByteArray×Int×Int×Int×Int×Int))×(List (ByteArray×(Value×List (Int×Int))×(Value×List (Int×(Value×List (Int×Int))))))) (p1:List (Int)×(List (List (Int×Int)))) (a13:Int×(List (List (Int×Int)))) (ag12:(Int×(List (List (Int×Int))))->Option ((List (List (Int×Int))))) (a28:Int×(List (List (Int×Int)))) (ag27:(Int×(List (List (Int×Int))))->Option ((List (List (Int×Int))))):Option ((List (List (Int×Int)))):=
 if a28.1<(List.length p0.2.1:Int)then(ck (0<=a28.1∧a28.1<(List.length p0.2.1:Int)) (ck (0<=a13.1∧a13.1<(List.length a28.2:Int)) (ck (0<=a13.1∧a13.1<(List.length a28.2:Int)) (Option.bind (iK fuel ((((at' p0.2.1 a28.1).1),((at' p0.2.1 a28.1).2.1),((at' p0.2.1 a28.1).2.2.1),((at' p0.2.1 a28.1).2.2.2.1),((at' p0.2.1 a28.1).2.2.2.2.1),((at' p0.2.1 a28.1).2.2.2.2.2))) ((p1.1,p1.2)) a13.1) fun r40=>(ck (0<=a28.1∧a28.1<(List.length (at' a28.2 a13.1):Int)) (ck (0<=a28.1∧a28.1<(List.length (at' (List.set a28.2 (Int.toNat a13.1) (List.set (at' a28.2 a13.1) (Int.toNat a28.1) (r40.1,((at' (at' a28.2 a13.1) a28.1).2)))) a13.1):Int)) (ag27 ((wI .i64 (a28.1+(1:Int))),(List.set (List.set a28.2 (Int.toNat a13.1) (List.set (at' a28.2 a13.1) (Int.toNat a28.1) (r40.1,((at' (at' a28.2 a13.1) a28.1).2)))) (Int.toNat a13.1) (List.set (at' (List.set a28.2 (Int.toNat a13.1) (List.set (at' a28.2 a13.1) (Int.toNat a28.1) (r40.1,((at' (at' a28.2 a13.1) a28.1).2)))) a13.1) (Int.toNat a28.1) (((at' (at' (List.set a28.2 (Int.toNat a13.1) (List.set (at' a28.2 a13.1) (Int.toNat a28.1) (r40.1,((at' (at' a28.2 a13.1) a28.1).2)))) a13.1) a28.1).1),r40.2)))))))))))else(rS a13 ag12 (a28.2))
def iJ (fuel:Nat) (p0:ByteArray×(List (ByteArray×Int×Int×Int×Int×Int))×(List (ByteArray×(Value×List (Int×Int))×(Value×List (Int×(Value×List (Int×Int))))))) (p1:List (Int)×(List (List (Int×Int)))) (a13:Int×(List (List (Int×Int)))) (ag12:(Int×(List (List (Int×Int))))->Option ((List (List (Int×Int))))):Option ((List (List (Int×Int)))):=
 if a13.1<(List.length (List.replicate (Int.toNat (List.length p1.1:Int)) ([]:List (Int×Int))):Int)then(ck (0<=(List.length p0.2.1:Int)∧(List.length p0.2.1:Int)<=1099511627) (ck (0<=a13.1∧a13.1<(List.length a13.2:Int)) (bK (jZ fuel p0 p1 a13 ag12) fuel ((0:Int),(List.set a13.2 (Int.toNat a13.1) (List.replicate (Int.toNat (List.length p0.2.1:Int)) ((0:Int),(0:Int))))))))else(rR  (a13.2))
def jM (fuel:Nat) (p0:ByteArray×(List (ByteArray×Int×Int×Int×Int×Int))×(List (ByteArray×(Value×List (Int×Int))×(Value×List (Int×(Value×List (Int×Int))))))) (p1:List (Int)×(List (List (Int×Int)))):Option ((List (List (Int×Int)))):=
 ck (0<=(List.length p1.1:Int)∧(List.length p1.1:Int)<=1099511627) (bK (iJ fuel p0 p1) fuel ((0:Int),(List.replicate (Int.toNat (List.length p1.1:Int)) ([]:List (Int×Int)))))
theorem O_:aV Tryz.prog 85:=Tryz.call85
theorem Au (fuel:Nat) {p0:ByteArray×(List (ByteArray×Int×Int×Int×Int×Int))×(List (ByteArray×(Value×List (Int×Int))×(Value×List (Int×(Value×List (Int×Int))))))} {p1:List (Int)×(List (List (Int×Int)))} (v0:Value)  (v1:Value)  (v2:Value)  (v3:Value)  (z4:List (Value×List (Int×Int))) (r:(List (List (Int×Int)))) (h:jM fuel p0 p1=some r):
  bA Tryz.prog 85 #[Value.agg #[Value.string (p0.1),v0,v1],Value.agg #[v2,v3]] [Sl aH v0 p0.2.1,Sl aG v1 p0.2.2,PF (Value.agg #[Value.string p0.1,v0,v1]),Sl aR v2 p1.1,S2 aK v3 z4 p1.2] (fun x:Value×List Value=>x.1) (fun x l=>Ar dK.raw x.1 x.2::jP bU x.2 r::l) (fun _ l=>l):=by
 refine bA.of (vs:=[Value.agg #[Value.string (p0.1),v0,v1],Value.agg #[v2,v3]]) Tryz.func85 rfl Tryz.ntmps85 rfl fun c=>?_
 unfold jM at h
 refine sqR<|aL (aQ.box (cs:=[Value.string (p0.1),v0,v1]) rfl rfl) rfl fun b1=>aL (aQ.box (cs:=[v2,v3]) rfl rfl) rfl fun b2=>qkAsg rfl<|dtN<|sqR<|qkFld rfl<|qkLd 0 rfl<|aB (cB rfl (aC.fact 3 rfl) rfl) rfl ?_
 have⟨hc3,h⟩:=aN h
 refine jR (uT bU (Int.toNat (List.length p1.1:Int)))<|aL (nZ (e:=dK.raw) (Value.slice none 0 0) rfl rfl rfl rfl hc3 rfl rfl rfl) rfl fun u4=>qkAsg rfl<|dtN<|aO<|bL (A:=(List (List (Int×Int)))) (B:=List Value) (fun a7=>rR  a7=some r) (fun a7 b8=>[(5,u4)]) (fun a7 b8=>[Ar dK.raw u4 b8,jP bU b8 a7]) (fun a7 b8=>[Sl aH v0 p0.2.1,Sl aG v1 p0.2.2,PF (Value.agg #[Value.string p0.1,v0,v1]),Sl aR v2 p1.1,S2 aK v3 z4 p1.2]) ?_ ?_
 ·refine sqR<|qkMove rfl<|aB (jX rfl (bH (i:=0) (j:=1) rfl rfl bO) rfl) rfl<|qkMove rfl<|dtN<|aU<|bY (A:=Int×(List (List (Int×Int)))) (B:=List Value) (iJ fuel p0 p1) (fun a13 b14=>[(2,Value.pointer (some ⟨b1,0,none⟩)),(3,Value.pointer (some ⟨b2,0,none⟩)),(5,u4),(14,Value.int .i64 (List.length (List.replicate (Int.toNat (List.length p1.1:Int)) ([]:List (Int×Int))):Int)),(15,Value.int .i64 (a13.1))]) (fun a13 b14=>[Ar dK.raw u4 b14,jP bU b14 a13.2,bR b2 [v2,v3] 28,bR b1 [Value.string (p0.1),v0,v1] 33]) (fun a13 b14=>[Sl aH v0 p0.2.1,Sl aG v1 p0.2.2,PF (Value.agg #[Value.string p0.1,v0,v1]),Sl aR v2 p1.1,S2 aK v3 z4 p1.2]) ((0:Int),(List.replicate (Int.toNat (List.length p1.1:Int)) ([]:List (Int×Int)))) (List.replicate (Int.toNat (List.length p1.1:Int)) (Value.slice none 0 0)) h SF (aP.refl _) (aA.refl _ _) ?_
  clear h
  intro k15 a13 b14 h
  unfold iJ at h
  refine sqR<|qkLss rfl<|dtN<|aO ?_
  refine eR h rfl (fun _ h=>?_) fun _ h=>?_
  ·refine aW<|aI<|aO<|bL (A:=(List (List (Int×Int)))) (B:=List Value) (fun a19=>rS a13 (bK (iJ fuel p0 p1) k15) a19=some r) (fun a19 b20=>[(2,Value.pointer (some ⟨b1,0,none⟩)),(3,Value.pointer (some ⟨b2,0,none⟩)),(5,u4),(14,Value.int .i64 (List.length (List.replicate (Int.toNat (List.length p1.1:Int)) ([]:List (Int×Int))):Int)),(15,Value.int .i64 (a13.1))]) (fun a19 b20=>[Ar dK.raw u4 b20,jP bU b20 a19,bR b2 [v2,v3] 28,bR b1 [Value.string (p0.1),v0,v1] 33]) (fun a19 b20=>[Sl aH v0 p0.2.1,Sl aG v1 p0.2.2,PF (Value.agg #[Value.string p0.1,v0,v1]),Sl aR v2 p1.1,S2 aK v3 z4 p1.2]) ?_ ?_
   ·refine aU<|sqR<|qkMove rfl<|qkAsg rfl<|dtN<|sqR<|qkMove rfl<|qkMove rfl<|qkFld rfl<|qkLd 3 rfl<|aB (cB rfl (aC.fact 0 rfl) rfl) rfl ?_
    have⟨hc21,h⟩:=aN h
    refine aL (nZ (e:=bU) (((0:Int),(0:Int))) rfl rfl rfl rfl hc21 rfl rfl rfl) rfl fun u22=>?_
    have⟨hc23,h⟩:=aN h
    refine aB (cS rfl rfl (bH (i:=1) (j:=2) rfl rfl bO) rfl rfl hc23) rfl<|b_ (Know.one ((aZ (aC.res 0 rfl) bO))) fun ho24=>jR (uB (k:=a13.1) 2 0 rfl rfl rfl hc23) ?_
    refine nY 0 1 ⟨hc23.1,by first|exact hc23.2|simpa using hc23.2⟩ rfl rfl rfl rfl rfl (by simp) ho24 rfl ?_
    refine dtN<|sqR<|qkFld rfl<|qkLd 3 rfl<|aB (cB rfl (aC.fact 0 rfl) rfl) rfl<|qkMove rfl<|dtN<|aU<|bY (A:=Int×(List (List (Int×Int)))) (B:=Unit) (jZ fuel p0 p1 a13 (bK (iJ fuel p0 p1) k15)) (fun a28 b29=>[(2,Value.pointer (some ⟨b1,0,none⟩)),(3,Value.pointer (some ⟨b2,0,none⟩)),(5,u4),(6,Value.int .i64 (a13.1)),(14,Value.int .i64 (List.length (List.replicate (Int.toNat (List.length p1.1:Int)) ([]:List (Int×Int))):Int)),(15,Value.int .i64 (a13.1)),(26,v0),(27,Value.int .i64 (List.length p0.2.1:Int)),(28,Value.int .i64 (a28.1))]) (fun a28 b29=>[Ar dK.raw u4 (List.set b14 (Int.toNat a13.1) u22),jP bU (List.set b14 (Int.toNat a13.1) u22) a28.2,bR b2 [v2,v3] 28,bR b1 [Value.string (p0.1),v0,v1] 33]) (fun a28 b29=>[Sl aH v0 p0.2.1,Sl aG v1 p0.2.2,PF (Value.agg #[Value.string p0.1,v0,v1]),Sl aR v2 p1.1,S2 aK v3 z4 p1.2]) ((0:Int),(List.set a13.2 (Int.toNat a13.1) (List.replicate (Int.toNat (List.length p0.2.1:Int)) ((0:Int),(0:Int))))) (()) h SF (aP.refl _) (aA.refl _ _) ?_
    clear h
    intro k30 a28 b29 h
    unfold jZ at h
    refine sqR<|qkLss rfl<|dtN<|aO ?_
    refine eR h rfl (fun _ h=>?_) fun _ h=>?_
    ·refine aW<|aI<|aO<|aU<|sqR<|qkMove rfl ?_
     have⟨hc32,h⟩:=aN h
     refine aB (bE rfl rfl (aC.fact 0 rfl) rfl rfl hc32) rfl<|aB (gM (cs:=[Value.string ((at' p0.2.1 a28.1).1),Value.int .i64 ((at' p0.2.1 a28.1).2.1),Value.int .i64 ((at' p0.2.1 a28.1).2.2.1),Value.int .i64 ((at' p0.2.1 a28.1).2.2.2.1),Value.int .i64 ((at' p0.2.1 a28.1).2.2.2.2.1),Value.int .i64 ((at' p0.2.1 a28.1).2.2.2.2.2)]) rfl (aC.fact 0 rfl) qU rfl rfl rfl rfl hc32) rfl<|aL (aQ.alloc (cs:=[Value.string (ByteArray.mk #[]),Value.int .i64 (0:Int),Value.int .i64 (0:Int),Value.int .i64 (0:Int),Value.int .i64 (0:Int),Value.int .i64 (0:Int)]) rfl rfl) rfl fun b33=>qkAsg rfl<|bM 0 (vs:=[Value.string ((at' p0.2.1 a28.1).1),Value.int .i64 ((at' p0.2.1 a28.1).2.1),Value.int .i64 ((at' p0.2.1 a28.1).2.2.1),Value.int .i64 ((at' p0.2.1 a28.1).2.2.2.1),Value.int .i64 ((at' p0.2.1 a28.1).2.2.2.2.1),Value.int .i64 ((at' p0.2.1 a28.1).2.2.2.2.2)]) rfl rfl rfl rfl rfl rfl<|dtN ?_
     refine JR.start [0,0,3,7,0,0,0,96,224,0,0,0,0,7168,15360,31744,31744,31,196095,458239,992,2097151,4194303] 21 mixedOrders (by decide +kernel) ?_
     refine JR.open (by exact rfl) ?_
     refine jkMove rfl<|jkMove rfl ?_
     have⟨hc34,h⟩:=aN h
     refine cH (cY 2 rfl) fun hl35=>?_
     refine aT rfl (aP.cons 1 rfl .nil) .nil (iO 0 rfl rfl rfl rfl rfl hc34.1 (by have q1:=hc34.2;have q2:=hl35;(try simp only[List.length_set]at q1);(try simp only[List.length_set]at q2);(try simp only[List.length_set]);omega)) aF.z ?_
     refine cH (cY 2 rfl) fun hl36=>aT rfl (aP.cons 1 rfl .nil) .nil (nF 0 rfl rfl hl36 rfl rfl hc34) aF.z<|jkMove rfl<|jkMove rfl<|jkMove rfl ?_
     have⟨hc37,h⟩:=aN h
     refine cH (cY 2 rfl) fun hl38=>?_
     refine aT rfl (aP.cons 1 rfl .nil) .nil (iO 0 rfl rfl rfl rfl rfl hc37.1 (by have q1:=hc37.2;have q2:=hl38;(try simp only[List.length_set]at q1);(try simp only[List.length_set]at q2);(try simp only[List.length_set]);omega)) aF.z ?_
     refine cH (cY 2 rfl) fun hl39=>aT rfl (aP.cons 1 rfl .nil) .nil (nF 0 rfl rfl hl39 rfl rfl hc37) aF.z<|jkMove rfl<|jkLdA 0 rfl<|jkLdA 3 rfl<|jkMove rfl ?_
     have⟨r40,hr41,h⟩:=fJ h
     refine JR.loud rfl rfl rfl (aJ LF (zP fuel v2 v3 z4 r40 hr41) rfl (aA.cons (aC.fact 3 rfl) (aA.cons (aC.fact 4 rfl) .nil)) (fun _ _=>rfl)) rfl (fun x42=>(aE.b rfl (aE.b rfl (aE.b rfl (aE.h .nil .nil (aE.h (aP.ix [1] rfl rfl) .nil (aE.h (aP.ix [1] rfl rfl) .nil (aE.h .nil .nil (aE.h .nil .nil (aE.h .nil .nil (aE.h (aP.ix [1] rfl rfl) .nil (aE.h (aP.ix [1] rfl rfl) .nil (aE.h .nil .nil (aE.h .nil .nil aE.z)))))))))))))) fun x42=>aT rfl .nil .nil (lP rfl) (aF.b rfl aF.z)<|aT rfl .nil .nil (bJ rfl rfl) (aF.b rfl aF.z)<|aT rfl .nil .nil (bJ rfl rfl) (aF.b rfl aF.z) ?_
     have⟨hc43,h⟩:=aN h
     refine cH (Know.len (aC.row (j:=2) rfl bO hc34.1 hc34.2)) fun hl44=>aT rfl .nil .nil (IM rfl rfl hl44 rfl rfl hc43) (aF.h .nil .nil aF.z) ?_
     refine aT rfl .nil .nil (AD (i:=0) rfl rfl rfl rfl rfl (by decide)) (aF.b rfl aF.z) ?_
     refine rB rfl rfl rfl (zZ (us:=[Value.int .i64 (r40.1)]) (o:=0) (k:=a13.1) 2 ((r40.1,((at' (at' a28.2 a13.1) a28.1).2))) ⟨hc34.1,by first|exact hc34.2|simpa using hc34.2⟩ hc43 rfl rfl rfl rfl rfl rfl rfl rfl rfl rfl) (fun x45=>(aE.b rfl (aE.b rfl (aE.h .nil .nil (aE.b rfl (aE.b rfl (aE.b rfl (aE.b rfl (aE.b rfl (aE.h .nil .nil (aE.b rfl (aE.b rfl (aE.b rfl (aE.b rfl (aE.b rfl (aE.b rfl (aE.b rfl (aE.b rfl (aE.b rfl aE.z))))))))))))))))))) fun x45=>?_
     have⟨hc46,h⟩:=aN h
     refine cH (Know.len (aC.row (j:=2) rfl bO hc37.1 (by first|exact hc37.2|simpa using hc37.2))) fun hl47=>?_
     refine aT rfl .nil .nil (IM rfl rfl hl47 rfl rfl hc46) (aF.h .nil .nil (aF.h .nil .nil aF.z))<|bS 21 rfl rfl ?_
     refine aB (AD (i:=1) rfl rfl rfl rfl rfl (by decide)) rfl ?_
     refine Lu (zZ (us:=[Value.int .i64 (r40.2)]) (o:=1) (k:=a13.1) 2 ((((at' (at' (List.set a28.2 (Int.toNat a13.1) (List.set (at' a28.2 a13.1) (Int.toNat a28.1) (r40.1,((at' (at' a28.2 a13.1) a28.1).2)))) a13.1) a28.1).1),r40.2)) ⟨hc37.1,by first|exact hc37.2|simpa using hc37.2⟩ hc46 rfl rfl rfl rfl rfl rfl rfl rfl rfl rfl) fun x48=>eD<|bV<|aI<|aS<|qkAdd rfl<|qkMove rfl<|dtN ?_
     exact nC ((wI .i64 (a28.1+(1:Int))),(List.set (List.set a28.2 (Int.toNat a13.1) (List.set (at' a28.2 a13.1) (Int.toNat a28.1) (r40.1,((at' (at' a28.2 a13.1) a28.1).2)))) (Int.toNat a13.1) (List.set (at' (List.set a28.2 (Int.toNat a13.1) (List.set (at' a28.2 a13.1) (Int.toNat a28.1) (r40.1,((at' (at' a28.2 a13.1) a28.1).2)))) a13.1) (Int.toNat a28.1) (((at' (at' (List.set a28.2 (Int.toNat a13.1) (List.set (at' a28.2 a13.1) (Int.toNat a28.1) (r40.1,((at' (at' a28.2 a13.1) a28.1).2)))) a13.1) a28.1).1),r40.2)))) (()) h SF (aP.ix [1,2,3,4] rfl rfl) (aA.refl _ _)
    refine cE<|aY<|aY<|dJ<|bV<|aI ?_
    exact jA (a28.2) (List.set b14 (Int.toNat a13.1) u22) h SF rfl
   clear h
   intro a19 b20 h
   unfold rS at h
   refine aS<|qkAdd rfl<|qkMove rfl<|dtN ?_
   exact xG ((wI .i64 (a13.1+(1:Int))),a19) (b20) h SF rfl
  refine cE<|aY<|aY<|dJ<|aI ?_
  exact cM (a13.2) (b14) h SF (aP.ix [0,1] rfl rfl) (aA.refl _ _)
 clear h
 intro a7 b8 h
 unfold rR at h
 refine sqR<|qkMove rfl<|qkAsg rfl<|dtN<|aX ?_
 cases h
 exact fO (u4,b8) rfl rfl (RV.tmp rfl) (aP.refl _) aA.nil
end Go.Proofs.YtigggfnchamobaaGreatDoor
end
section
namespace Go.Proofs.YtigggfnchamobaaGreatDoor
open Go.Sx
def tF  (a11:Unit):Option (Int):=
 some (0:Int)
def nK (a15:Int) (ag14:(Int)->Option (Int)) (a19:Unit):Option (Int):=
 ag14 (wI .i64 (a15+(1:Int)))
def pX (a15:Int) (ag14:(Int)->Option (Int)) (a28:Bool):Option (Int):=
 if a28=true then(some (9:Int))else(nK a15 ag14 (()))
def jK (fuel:Nat) (p0:ByteArray×(List (ByteArray×Int×Int×Int×Int×Int))×(List (ByteArray×(Value×List (Int×Int))×(Value×List (Int×(Value×List (Int×Int))))))) (p1:List (Int)×(List (List (Int×Int)))) (a15:Int) (ag14:(Int)->Option (Int)):Option (Int):=
 if a15<(List.length p0.2.1:Int)then(ck (0<=a15∧a15<(List.length p0.2.1:Int)) (if((at' p0.2.1 a15).2.1)≠(1:Int)then(nK a15 ag14 (()))else(Option.bind (iK fuel ((((at' p0.2.1 a15).1),((at' p0.2.1 a15).2.1),((at' p0.2.1 a15).2.2.1),((at' p0.2.1 a15).2.2.2.1),((at' p0.2.1 a15).2.2.2.2.1),((at' p0.2.1 a15).2.2.2.2.2))) ((p1.1,p1.2)) (0:Int)) fun r24=>(if r24.2<r24.1 then(pX a15 ag14 (true))else(pX a15 ag14 (decide ((4096:Int)<(wI .i64 ((wI .i64 (r24.2 - r24.1))+(1:Int))))))))))else(tF  (()))
def pC (fuel:Nat) (p0:ByteArray×(List (ByteArray×Int×Int×Int×Int×Int))×(List (ByteArray×(Value×List (Int×Int))×(Value×List (Int×(Value×List (Int×Int))))))) (p1:List (Int)×(List (List (Int×Int)))):Option (Int):=
 Option.bind (xL fuel ((p0.1,p0.2.1,p0.2.2))) fun r3=>(if(!r3)=true then(some (8:Int))else(Option.bind (eV fuel ((p1.1,p1.2))) fun r7=>(if(!r7)=true then(some (1:Int))else(bK (jK fuel p0 p1) fuel (0:Int)))))
theorem RG:aV Tryz.prog 108:=Tryz.call108
theorem FN (fuel:Nat) {p0:ByteArray×(List (ByteArray×Int×Int×Int×Int×Int))×(List (ByteArray×(Value×List (Int×Int))×(Value×List (Int×(Value×List (Int×Int))))))} {p1:List (Int)×(List (List (Int×Int)))} (v0:Value)  (v1:Value)  (v2:Value)  (v3:Value)  (z4:List (Value×List (Int×Int))) (r:Int) (h:pC fuel p0 p1=some r):
  bA Tryz.prog 108 #[Value.agg #[Value.string (p0.1),v0,v1],Value.agg #[v2,v3]] [Sl aH v0 p0.2.1,Sl aG v1 p0.2.2,PF (Value.agg #[Value.string p0.1,v0,v1]),Sl aR v2 p1.1,S2 aK v3 z4 p1.2] (fun x:Unit=>Value.int .i64 (r)) (fun x l=>l) (fun _ l=>l):=by
 refine bA.of (vs:=[Value.agg #[Value.string (p0.1),v0,v1],Value.agg #[v2,v3]]) Tryz.func108 rfl Tryz.ntmps108 rfl fun c=>?_
 unfold pC at h
 refine sqR<|aL (aQ.box (cs:=[Value.string (p0.1),v0,v1]) rfl rfl) rfl fun b1=>aL (aQ.box (cs:=[v2,v3]) rfl rfl) rfl fun b2=>qkAsg rfl<|dtN<|aO<|sqR<|qkLdA 1 rfl ?_
 have⟨r3,hr4,h⟩:=fJ h
 refine aL (aJ LG (FV fuel v0 v1 r3 hr4) rfl (aA.cons (aC.fact 0 rfl) (aA.cons (aC.fact 1 rfl) (aA.cons (aC.fact 2 rfl) .nil))) (fun _ _=>rfl)) rfl fun x5=>aB (qR rfl) rfl<|dtN ?_
 refine zN h rfl (fun _ h=>?_) fun _ h=>?_
 ·refine sqR<|qkAsg rfl<|dtN<|aX<|aM ?_
  cases h
  exact u_ rfl
 refine aW<|aI<|aO<|sqR<|qkLdA 0 rfl ?_
 have⟨r7,hr8,h⟩:=fJ h
 refine aL (aJ Hs (uR fuel v2 v3 z4 r7 hr8) rfl (aA.cons (aC.fact 3 rfl) (aA.cons (aC.fact 4 rfl) .nil)) (fun _ _=>rfl)) rfl fun x9=>aB (qR rfl) rfl<|dtN ?_
 refine zN h rfl (fun _ h=>?_) fun _ h=>?_
 ·refine sqR<|qkAsg rfl<|dtN<|aX<|aM ?_
  cases h
  exact u_ rfl
 refine aW<|aI<|aO<|bL (A:=Unit) (B:=Unit) (fun a11=>tF  a11=some r) (fun a11 b12=>[]) (fun a11 b12=>[]) (fun a11 b12=>[Sl aH v0 p0.2.1,Sl aG v1 p0.2.2,PF (Value.agg #[Value.string p0.1,v0,v1]),Sl aR v2 p1.1,S2 aK v3 z4 p1.2]) ?_ ?_
 ·refine sqR<|qkFld rfl<|qkLd 1 rfl<|aB (cB rfl (aC.fact 0 rfl) rfl) rfl<|qkMove rfl<|dtN<|aU<|bY (A:=Int) (B:=Unit) (jK fuel p0 p1) (fun a15 b16=>[(3,Value.pointer (some ⟨b2,0,none⟩)),(16,v0),(17,Value.int .i64 (List.length p0.2.1:Int)),(18,Value.int .i64 (a15))]) (fun a15 b16=>[bR b2 [v2,v3] 28]) (fun a15 b16=>[Sl aH v0 p0.2.1,Sl aG v1 p0.2.2,PF (Value.agg #[Value.string p0.1,v0,v1]),Sl aR v2 p1.1,S2 aK v3 z4 p1.2]) (0:Int) (()) h SF (aP.ix [0] rfl rfl) (aA.refl _ _) ?_
  clear h
  intro k17 a15 b16 h
  unfold jK at h
  refine sqR<|qkLss rfl<|dtN<|aO ?_
  refine eR h rfl (fun _ h=>?_) fun _ h=>?_
  ·refine aW<|aI<|aO<|bL (A:=Unit) (B:=Unit) (fun a19=>nK a15 (bK (jK fuel p0 p1) k17) a19=some r) (fun a19 b20=>[(3,Value.pointer (some ⟨b2,0,none⟩)),(16,v0),(17,Value.int .i64 (List.length p0.2.1:Int)),(18,Value.int .i64 (a15))]) (fun a19 b20=>[bR b2 [v2,v3] 28]) (fun a19 b20=>[Sl aH v0 p0.2.1,Sl aG v1 p0.2.2,PF (Value.agg #[Value.string p0.1,v0,v1]),Sl aR v2 p1.1,S2 aK v3 z4 p1.2]) ?_ ?_
   ·refine aU<|sqR ?_
    have⟨hc21,h⟩:=aN h
    refine aB (bE rfl rfl (aC.fact 0 rfl) rfl rfl hc21) rfl<|aB (gM (cs:=[Value.string ((at' p0.2.1 a15).1),Value.int .i64 ((at' p0.2.1 a15).2.1),Value.int .i64 ((at' p0.2.1 a15).2.2.1),Value.int .i64 ((at' p0.2.1 a15).2.2.2.1),Value.int .i64 ((at' p0.2.1 a15).2.2.2.2.1),Value.int .i64 ((at' p0.2.1 a15).2.2.2.2.2)]) rfl (aC.fact 0 rfl) qU rfl rfl rfl rfl hc21) rfl<|aL (aQ.alloc (cs:=[Value.string (ByteArray.mk #[]),Value.int .i64 (0:Int),Value.int .i64 (0:Int),Value.int .i64 (0:Int),Value.int .i64 (0:Int),Value.int .i64 (0:Int)]) rfl rfl) rfl fun b22=>bM 0 (vs:=[Value.string ((at' p0.2.1 a15).1),Value.int .i64 ((at' p0.2.1 a15).2.1),Value.int .i64 ((at' p0.2.1 a15).2.2.1),Value.int .i64 ((at' p0.2.1 a15).2.2.2.1),Value.int .i64 ((at' p0.2.1 a15).2.2.2.2.1),Value.int .i64 ((at' p0.2.1 a15).2.2.2.2.2)]) rfl rfl rfl rfl rfl rfl<|dtN<|aO<|sqR<|qkFld rfl<|qkLd 0 rfl<|aB (mM rfl rfl) rfl<|dtN ?_
    refine eR h rfl (fun _ h=>?_) fun _ h=>?_
    ·refine cE<|aY<|dJ<|aI ?_
     exact cM (()) (()) h SF (aP.ix [1] rfl rfl) (aA.refl _ _)
    refine aW<|aI<|sqR<|qkLdA 0 rfl<|qkLdA 1 rfl ?_
    have⟨r24,hr25,h⟩:=fJ h
    refine aL (aJ LF (zP fuel v2 v3 z4 r24 hr25) rfl (aA.cons (aC.fact 3 rfl) (aA.cons (aC.fact 4 rfl) .nil)) (fun _ _=>rfl)) rfl fun x26=>qkMove rfl<|aB (bJ rfl rfl) rfl<|aB (bJ rfl rfl) rfl<|qkAsg rfl<|qkAsg rfl<|dtN<|aO<|bL (A:=Bool) (B:=Unit) (fun a28=>pX a15 (bK (jK fuel p0 p1) k17) a28=some r) (fun a28 b29=>[(3,Value.pointer (some ⟨b2,0,none⟩)),(16,v0),(17,Value.int .i64 (List.length p0.2.1:Int)),(18,Value.int .i64 (a15)),(40,Value.bool (a28))]) (fun a28 b29=>[bR b2 [v2,v3] 28]) (fun a28 b29=>[Sl aH v0 p0.2.1,Sl aG v1 p0.2.2,PF (Value.agg #[Value.string p0.1,v0,v1]),Sl aR v2 p1.1,S2 aK v3 z4 p1.2]) ?_ ?_
    ·refine aS<|qkMove rfl<|qkMove rfl<|qkLss rfl<|qkMove rfl ?_
     refine Bg h rfl (fun _ h=>?_) fun _ h=>?_
     ·refine gdSkip rfl<|gdSkip rfl<|gdSkip rfl<|gdSkip rfl<|gdSkip rfl<|aB (cI rfl rfl) rfl<|dtN ?_
      exact cM (true) (()) h SF (aP.ix [1] rfl rfl) (aA.refl _ _)
     refine gyMove rfl<|gyMove rfl<|a_ rfl (pV rfl rfl) rfl<|a_ rfl (pG rfl rfl) rfl<|a_ rfl (tC rfl rfl) rfl<|aB (cX rfl rfl) rfl<|dtN ?_
     exact cM (decide ((4096:Int)<(wI .i64 ((wI .i64 (r24.2 - r24.1))+(1:Int))))) (()) h SF (aP.ix [1] rfl rfl) (aA.refl _ _)
    clear h
    intro a28 b29 h
    unfold pX at h
    refine zN h rfl (fun _ h=>?_) fun _ h=>?_
    ·refine sqR<|qkAsg rfl<|dtN<|aX<|bP<|aM<|aM<|bP<|aM ?_
     cases h
     exact u_ rfl
    refine aW<|bV<|aI ?_
    exact jA (()) (()) h SF rfl
   clear h
   intro a19 b20 h
   unfold nK at h
   refine aS<|qkAdd rfl<|qkMove rfl<|dtN ?_
   exact xG (wI .i64 (a15+(1:Int))) (()) h SF rfl
  refine cE<|aY<|aY<|dJ<|aI ?_
  exact cM (()) (()) h SF .nil (aA.refl _ _)
 clear h
 intro a11 b12 h
 unfold tF at h
 refine sqR<|qkAsg rfl<|dtN<|aX ?_
 cases h
 exact lN rfl
end Go.Proofs.YtigggfnchamobaaGreatDoor
end
