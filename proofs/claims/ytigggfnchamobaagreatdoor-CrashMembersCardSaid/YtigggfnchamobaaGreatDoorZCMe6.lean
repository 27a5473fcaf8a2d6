/- Models and proofs. Conditions: none. -/
import Derived.Test.YtigggfnchamobaaGreatDoorZCMe5
import Derived.Test.YtigggfnchamobaaGreatDoorZCMe2
import Derived.Test.YtigggfnchamobaaGreatDoorZCMe4
import Derived.Test.YtigggfnchamobaaGreatDoorZCMe1
import Derived.KernelRfl
set_option linter.unusedVariables false
set_option linter.unusedSimpArgs false
set_option maxHeartbeats 4000000
set_option maxRecDepth 20000
section
namespace Go.Proofs.YtigggfnchamobaaGreatDoor
open Go.Sx
def sM  (a8:List (List (Int))):Option (List (List (Int))):=
 some (a8)
def sN (a15:List (List (Int))×Int) (ag14:(List (List (Int))×Int)->Option (List (List (Int)))) (a21:List (Int)):Option (List (List (Int))):=
 ck ((List.length a15.1:Int)+(List.length ([a21]):Int)<=1099511627) (ag14 ((a15.1++[a21]),(wI .i64 (a15.2+(1:Int)))))
def kD (fuel:Nat) (p1:List (ByteArray×Int×Int×Int×Int×Int)) (p2:List (Int)) (a15:List (List (Int))×Int) (a33:List (Int)×Int) (ag32:(List (Int)×Int)->Option (List (List (Int)))) (a43:Int×Int):Option (List (List (Int))):=
 Option.bind (oT fuel p2 (wI .i64 ((wI .i64 (a15.2*(List.length p1:Int)))+a33.2))) fun r45=>(Option.bind (eV fuel r45 (wI .i64 ((wI .i64 (a43.2 - a43.1))+(1:Int)))) fun r48=>(ck ((List.length a33.1:Int)+(List.length ([(wI .i64 (a43.1+r48))]):Int)<=1099511627) (ag32 ((a33.1++([(wI .i64 (a43.1+r48))])),(wI .i64 (a33.2+(1:Int)))))))
def kE (fuel:Nat) (p0:List (Int)×(List (List (Int×Int)))) (p1:List (ByteArray×Int×Int×Int×Int×Int)) (p2:List (Int)) (a3:Int) (a15:List (List (Int))×Int) (ag14:(List (List (Int))×Int)->Option (List (List (Int)))) (a33:List (Int)×Int) (ag32:(List (Int)×Int)->Option (List (List (Int)))):Option (List (List (Int))):=
 if a33.2<(List.length p1:Int)then(ck (0<=a33.2∧a33.2<(List.length p1:Int)) (ck (0<=a33.2∧a33.2<(List.length p1:Int)) (ck (0<=a33.2∧a33.2<(List.length p1:Int)) (ck (0<=a33.2∧a33.2<(List.length p1:Int)) (ck (0<=a33.2∧a33.2<(List.length p1:Int)) (if((at' p1 a33.2).2.1)=(2:Int)then(kD fuel p1 p2 a15 a33 ag32 ((0:Int),(1:Int)))else(if((at' p1 a33.2).2.1)=(3:Int)then(ck (0<=a15.2∧a15.2<(List.length p0.2:Int)) (kD fuel p1 p2 a15 a33 ag32 ((-1:Int),(wI .i64 ((List.length (at' p0.2 a15.2):Int) - (1:Int))))))else(kD fuel p1 p2 a15 a33 ag32 (((at' p1 a33.2).2.2.1),(wI .i64 ((wI .i64 (((at' p1 a33.2).2.2.2.1)+(wI .i64 (((at' p1 a33.2).2.2.2.2.1)*(List.length p0.2:Int)))))+(wI .i64 (((at' p1 a33.2).2.2.2.2.2)*a3)))))))))))))else(sN a15 ag14 (a33.1))
def gO (fuel:Nat) (p0:List (Int)×(List (List (Int×Int)))) (p1:List (ByteArray×Int×Int×Int×Int×Int)) (p2:List (Int)) (a3:Int) (a15:List (List (Int))×Int) (ag14:(List (List (Int))×Int)->Option (List (List (Int)))):Option (List (List (Int))):=
 if a15.2<(List.length p0.2:Int)then(bG (kE fuel p0 p1 p2 a3 a15 ag14) fuel (([]:List Int),(0:Int)))else(sM  (a15.1))
def pJ (fuel:Nat) (p0:List (Int)×(List (List (Int×Int)))) (p1:List (ByteArray×Int×Int×Int×Int×Int)) (p2:List (Int)) (a3:Int):Option (List (List (Int))):=
 bG (gO fuel p0 p1 p2 a3) fuel (([]:List (List Int)),(0:Int))
def pK (fuel:Nat) (p0:List (Int)×(List (List (Int×Int)))) (p1:List (ByteArray×Int×Int×Int×Int×Int)) (p2:List (Int)) (a61:Int×Int) (ag60:(Int×Int)->Option (List (List (Int)))):Option (List (List (Int))):=
 if a61.2<(List.length p0.2:Int)then(ck (0<=a61.2∧a61.2<(List.length p0.1:Int)) (ag60 ((max a61.1 (at' p0.1 a61.2)),(wI .i64 (a61.2+(1:Int))))))else(pJ fuel p0 p1 p2 (a61.1))
def lM (fuel:Nat) (p0:List (Int)×(List (List (Int×Int)))) (p1:List (ByteArray×Int×Int×Int×Int×Int)) (p2:List (Int)):Option (List (List (Int))):=
 bG (pK fuel p0 p1 p2) fuel ((0:Int),(0:Int))
theorem VJ:aR Tryz.prog 10:=Tryz.call10
theorem GG (fuel:Nat) {p0:List (Int)×(List (List (Int×Int)))} {p1:List (ByteArray×Int×Int×Int×Int×Int)} {p2:List (Int)} (v0:Value)  (v1:Value)  (z2:List (Value×List (Int×Int)))  (v3:Value)  (v4:Value) (r:List (List (Int))) (h:lM fuel p0 p1 p2=some r):
  aV Tryz.prog 10 #[Value.agg #[v0,v1],v3,v4] [Sl bM v0 p0.1,S2 aZ v1 z2 p0.2,Sl aP v3 p1,Sl bM v4 p2] (fun x:Value×List Value=>x.1) (fun x l=>Ar dJ.raw x.1 x.2::jG bY x.2 r::l) (fun _ l=>l):=by
 refine aV.of Tryz.func10 rfl Tryz.ntmps10 rfl fun c=>?_
 unfold lM at h
 refine sqR<|aG (aM.box (cs:=[v0,v1]) rfl rfl) rfl fun b1=>qkAsg rfl<|dtN<|sqR<|qkFld rfl<|qkLd 0 rfl<|aB (iX rfl (aC.fact 1 rfl) rfl) rfl<|qkAsg rfl<|qkAsg rfl<|dtN<|aL<|midU (fun a3=>pJ fuel p0 p1 p2 a3=some r) (fun a3 b4=>[(1,v3),(2,v4),(3,vP b1),(7,vI (List.length p0.2:Int)),(8,vI (a3))]) (fun a3 b4=>[bO b1 [v0,v1] 28]) ?_ ?_
 ·refine sqR<|qkAsg rfl<|dtN<|aQ<|loopL (pK fuel p0 p1 p2) (fun a61 b62=>[(1,v3),(2,v4),(3,vP b1),(7,vI (List.length p0.2:Int)),(8,vI (a61.1)),(9,vI (a61.2))]) (fun a61 b62=>[bO b1 [v0,v1] 28]) ((0:Int),(0:Int)) () h SF (aK.refl _) ?_
  clear h
  intro k63 a61 b62 h
  unfold pK at h
  refine aL<|sqR<|qkMove rfl<|qkMove rfl<|qkLss rfl<|dtN ?_
  refine eL h rfl (fun h=>?_) fun h=>?_
  ·refine iV<|aL<|aQ<|aO<|qkMove rfl<|qkFld rfl<|qkLd 0 rfl<|qkMove rfl ?_
   have⟨j65,h⟩:=aH h
   refine aB (a_ rfl rfl (aC.fact 0 rfl) rfl rfl j65) rfl<|aB (bS rfl (aC.fact 0 rfl) rfl rfl rfl dB j65) rfl<|aB (JN rfl rfl) rfl<|qkAsg rfl<|dY<|inT<|aO<|qkMove rfl<|qkAdd rfl<|qkAsg rfl<|dtN ?_
   exact xK ((max a61.1 (at' p0.1 a61.2)),(wI .i64 (a61.2+(1:Int)))) () h SF rfl
  refine xO ?_
  exact iJ (a61.1) () h SF rfl
 clear h
 intro a3 b4 h
 unfold pJ at h
 refine sqR<|qkAsg rfl<|dtN<|aL<|midL (B:=Value×List Value) (fun a8=>sM  a8=some r) (fun a8 b9=>[(10,b9.1)]) (fun a8 b9=>[Ar dJ.raw b9.1 b9.2,jG bY b9.2 a8]) ?_ ?_
 ·refine sqR<|qkAsg rfl<|dtN<|aQ<|jJ (iW dJ.raw) (jJ (xT bY) ?_)
  refine loopL (B:=Value×List Value) (gO fuel p0 p1 p2 a3) (fun a15 b16=>[(1,v3),(2,v4),(3,vP b1),(7,vI (List.length p0.2:Int)),(8,vI (a3)),(10,b16.1),(11,vI (a15.2))]) (fun a15 b16=>[bO b1 [v0,v1] 28,Ar dJ.raw b16.1 b16.2,jG bY b16.2 a15.1]) (([]:List (List Int)),(0:Int)) ((Value.slice none 0 0),([]:List Value)) h SF (aK.ix [2,1,0] rfl rfl) ?_
  clear h
  intro k17 a15 b16 h
  unfold gO at h
  refine aL<|sqR<|qkMove rfl<|qkMove rfl<|qkLss rfl<|dtN ?_
  refine eL h rfl (fun h=>?_) fun h=>?_
  ·refine iV<|aL<|aQ<|sqR<|qkAsg rfl<|dtN<|aL<|midL (B:=Value) (fun a21=>sN a15 (bG (gO fuel p0 p1 p2 a3) k17) a21=some r) (fun a21 b22=>[(1,v3),(2,v4),(3,vP b1),(7,vI (List.length p0.2:Int)),(8,vI (a3)),(10,b16.1),(11,vI (a15.2)),(12,b22)]) (fun a21 b22=>[bO b1 [v0,v1] 28,Ar dJ.raw b16.1 b16.2,jG bY b16.2 a15.1,Ar bY b22 a21]) ?_ ?_
   ·refine sqR<|qkAsg rfl<|dtN<|aQ<|jJ (iW bY)<|loopL (B:=Value) (kE fuel p0 p1 p2 a3 a15 (bG (gO fuel p0 p1 p2 a3) k17)) (fun a33 b34=>[(1,v3),(2,v4),(3,vP b1),(7,vI (List.length p0.2:Int)),(8,vI (a3)),(10,b16.1),(11,vI (a15.2)),(12,b34),(13,vI (a33.2))]) (fun a33 b34=>[bO b1 [v0,v1] 28,Ar dJ.raw b16.1 b16.2,jG bY b16.2 a15.1,Ar bY b34 a33.1]) (([]:List Int),(0:Int)) (Value.slice none 0 0) h SF (aK.ix [1,2,3,0] rfl rfl) ?_
    clear h
    intro k35 a33 b34 h
    unfold kE at h
    refine aL<|sqR<|qkMove rfl<|qkMove rfl<|aB (b_ rfl (aC.fact 2 rfl) rfl) rfl<|qkLss rfl<|dtN ?_
    refine eL h rfl (fun h=>?_) fun h=>?_
    ·refine iV<|aL<|aQ<|aL ?_
     refine JR.start [0,0,3,7,15,0,0,96,224,480,0,0,3072,7168,15360,0,64512,131040,0,0,786432,1835008,3932160,0,16515072,33554400,31,134217727] 27 mixedOrders (by decide +kernel) ?_
     refine JR.open (by exact rfl) ?_
     refine jkMove rfl<|jkMove rfl ?_
     have⟨j37,h⟩:=aH h
     refine aN rfl .nil (cV.cons (List.mem_of_getElem? (i:=2) rfl) .nil) (a_ rfl rfl (aC.fact 0 rfl) rfl rfl j37) aD.z<|aN rfl .nil .nil (nQ rfl rfl rfl rfl rfl) aD.z<|aN rfl .nil (cV.cons (List.mem_of_getElem? (i:=2) rfl) .nil) (pT rfl (aC.fact 0 rfl) rfl rfl rfl An j37) aD.z<|jkMove rfl<|jkMove rfl ?_
     have⟨j38,h⟩:=aH h
     refine aN rfl .nil (cV.cons (List.mem_of_getElem? (i:=2) rfl) .nil) (a_ rfl rfl (aC.fact 0 rfl) rfl rfl j38) aD.z<|aN rfl .nil .nil (nQ rfl rfl rfl rfl rfl) aD.z<|aN rfl .nil (cV.cons (List.mem_of_getElem? (i:=2) rfl) .nil) (pT rfl (aC.fact 0 rfl) rfl rfl rfl Ao j38) aD.z<|jkMove rfl<|jkMove rfl ?_
     have⟨j39,h⟩:=aH h
     refine aN rfl .nil (cV.cons (List.mem_of_getElem? (i:=2) rfl) .nil) (a_ rfl rfl (aC.fact 0 rfl) rfl rfl j39) aD.z<|aN rfl .nil .nil (nQ rfl rfl rfl rfl rfl) aD.z<|aN rfl .nil (cV.cons (List.mem_of_getElem? (i:=2) rfl) .nil) (pT rfl (aC.fact 0 rfl) rfl rfl rfl Ap j39) aD.z<|jkMove rfl<|aN rfl .nil .nil (tU rfl rfl) aD.z<|aN rfl .nil .nil (pS rfl rfl) aD.z<|jkMove rfl<|jkMove rfl ?_
     have⟨j40,h⟩:=aH h
     refine aN rfl .nil (cV.cons (List.mem_of_getElem? (i:=2) rfl) .nil) (a_ rfl rfl (aC.fact 0 rfl) rfl rfl j40) aD.z<|aN rfl .nil .nil (nQ rfl rfl rfl rfl rfl) aD.z<|aN rfl .nil (cV.cons (List.mem_of_getElem? (i:=2) rfl) .nil) (pT rfl (aC.fact 0 rfl) rfl rfl rfl Aq j40) aD.z<|jkMove rfl<|aN rfl .nil .nil (tU rfl rfl) aD.z<|aN rfl .nil .nil (pS rfl rfl) aD.z<|aN rfl .nil .nil (tS rfl) aD.z<|bL 27 rfl rfl<|qkAsg rfl<|dtN<|aL<|midU (fun a43=>kD fuel p1 p2 a15 a33 (bG (kE fuel p0 p1 p2 a3 a15 (bG (gO fuel p0 p1 p2 a3) k17)) k35) a43=some r) (fun a43 b44=>[(1,v3),(2,v4),(3,vP b1),(7,vI (List.length p0.2:Int)),(8,vI (a3)),(10,b16.1),(11,vI (a15.2)),(12,b34),(13,vI (a33.2)),(14,vI (a43.1)),(15,vI (a43.2))]) (fun a43 b44=>[bO b1 [v0,v1] 28,Ar dJ.raw b16.1 b16.2,jG bY b16.2 a15.1,Ar bY b34 a33.1]) ?_ ?_
     ·refine sqR<|qkMove rfl<|qkMove rfl ?_
      have⟨j54,h⟩:=aH h
      refine aB (a_ rfl rfl (aC.fact 2 rfl) rfl rfl j54) rfl<|aB (nQ rfl rfl rfl rfl rfl) rfl<|aB (pT rfl (aC.fact 2 rfl) rfl rfl rfl uM j54) rfl<|dtN<|aQ<|sqR<|qkEql rfl<|qkAsg rfl<|dtN ?_
      refine eL h rfl (fun h=>?_) fun h=>?_
      ·refine aO<|qkAsg rfl<|qkAsg rfl<|dY<|inT ?_
       exact iJ ((0:Int),(1:Int)) () h SF rfl
      refine sqR<|qkEql rfl<|qkAsg rfl<|dtN ?_
      refine eL h rfl (fun h=>?_) fun h=>?_
      ·refine JR.start [0,1,0,7,15,31,63,0,255] 8 mixedOrders (by decide +kernel) ?_
       refine JR.open (by exact rfl) ?_
       refine jkFld rfl<|jkLd 0 rfl<|jkMove rfl ?_
       have⟨j57,h⟩:=aH h
       refine aN rfl .nil (cV.cons (List.mem_of_getElem? (i:=1) rfl) .nil) (cO rfl rfl (aC.fact 0 rfl) rfl rfl j57) aD.z<|aN rfl .nil (cV.cons (List.mem_of_getElem? (i:=1) rfl) .nil) (cM rfl (aC.fact 0 rfl) rfl rfl j57) aD.z<|aN rfl .nil (cV.cons (List.mem_of_getElem? (i:=1) rfl) .nil) (b_ rfl (aC.el (aC.fact 0 rfl) j57.1 j57.2) rfl) aD.z<|aN rfl .nil .nil (qE rfl rfl) aD.z<|aN rfl .nil .nil (tS rfl) aD.z<|bL 8 rfl rfl<|qkAsg rfl<|dY<|inT ?_
       exact iJ ((-1:Int),(wI .i64 ((List.length (at' p0.2 a15.2):Int) - (1:Int)))) () h SF rfl
      refine cU<|inT ?_
      exact iJ (((at' p1 a33.2).2.2.1),(wI .i64 ((wI .i64 (((at' p1 a33.2).2.2.2.1)+(wI .i64 (((at' p1 a33.2).2.2.2.2.1)*(List.length p0.2:Int)))))+(wI .i64 (((at' p1 a33.2).2.2.2.2.2)*a3))))) () h SF rfl
     clear h
     intro a43 b44 h
     unfold kD at h
     refine aO<|qkMove rfl<|qkMove rfl<|qkMove rfl<|qkMove rfl<|qkMove rfl<|aB (b_ rfl (aC.fact 2 rfl) rfl) rfl<|aB (tU rfl rfl) rfl<|qkMove rfl<|qkAdd rfl ?_
     have⟨r45,w46,h⟩:=fE h
     refine aG (aM.callQ FD (xI fuel v4 r45 w46) rfl (aA.cons (aC.fact 3 rfl) .nil)) rfl fun x47=>qkMove rfl<|qkMove rfl<|aB (qE rfl rfl) rfl<|qkAdd rfl ?_
     have⟨r48,w49,h⟩:=fE h
     refine aG (aM.callQ AJ (jU fuel  r48 w49) rfl .nil) rfl fun x50=>qkAdd rfl<|aG (cE (e:=bY) ([(wI .i64 (a43.1+r48))]) [(0,vI (wI .i64 (a43.1+r48)))] rfl rfl rfl rfl (mM (vI (wI .i64 (a43.1+r48))) rfl) rfl rfl rfl) rfl fun u51=>?_
     have⟨j53,h⟩:=aH h
     refine aG (gM 4 cI rfl rfl rfl (aU (aC.res 0 rfl) cI) rfl rfl rfl rfl j53 rfl) rfl fun u52=>qkAsg rfl<|dY<|inT<|aO<|qkMove rfl<|qkAdd rfl<|qkAsg rfl<|dtN ?_
     exact nN ((a33.1++([(wI .i64 (a43.1+r48))])),(wI .i64 (a33.2+(1:Int)))) (u52) h SF (aK.ix [1,2,3,4] rfl rfl) (aA.refl _ _)
    refine xO ?_
    exact iJ (a33.1) (b34) h SF rfl
   clear h
   intro a21 b22 h
   unfold sN at h
   refine aO<|qkMove rfl<|qkMove rfl<|jJ (xT bY)<|bZ (Know.one ((aU (aC.res 4 rfl) cI))) fun ho23=>jJ (Ly 0 4 rfl rfl rfl) ?_
   refine aG (cE (e:=dJ.raw) [b22] [(0,b22)] rfl rfl rfl rfl (mM (b22) ho23) rfl rfl (by simp[cellsOf,dJ.raw,ho23])) rfl fun u24=>?_
   refine bZ (bX 4 rfl) fun hl25=>bZ (bX 1 rfl) fun hl26=>?_
   have⟨j27,h⟩:=aH h
   refine jJ (JF 4 1 rfl rfl rfl) ?_
   refine aG (aM.append 2 0 rfl rfl rfl rfl rfl rfl rfl (by have q:=j27;have q1:=hl25;have q2:=hl26;(try simp only[List.length_cons,List.length_nil]at q q1 q2 ⊢);omega) (by have q:=j27;have q1:=hl25;have q2:=hl26;(try simp only[List.length_cons,List.length_nil]at q q1 q2 ⊢);omega) rfl) rfl fun u28=>?_
   refine qkAsg rfl<|dY<|inT<|aO<|qkMove rfl<|qkAdd rfl<|qkAsg rfl<|dtN ?_
   exact nN ((a15.1++[a21]),(wI .i64 (a15.2+(1:Int)))) (u28,(b16.2++[b22])) h SF (aK.ix [1,2,3] rfl rfl) (aA.refl _ _)
  refine xO ?_
  exact cF (a15.1) (b16.1,b16.2) h SF (aK.ix [1,2] rfl rfl) (aA.refl _ _)
 clear h
 intro a8 b9 h
 unfold sM at h
 refine sqR<|qkMove rfl<|qkAsg rfl<|dtN<|aS ?_
 cases h
 exact fQ (b9.1,b9.2) rfl rfl (RV.tmp rfl) (aK.refl _) aA.nil
end Go.Proofs.YtigggfnchamobaaGreatDoor
end
section
namespace Go.Proofs.YtigggfnchamobaaGreatDoor
open Go.Sx
def vY  (a2:Unit):Option (Int):=
 some (-1:Int)
def pC (p0:List (Int)×(List (List (Int×Int)))) (p1:Int) (p2:Int) (a7:Int) (ag6:(Int)->Option (Int)):Option (Int):=
 if a7<(List.length (at' p0.2 p1):Int)then(ck (0<=a7∧a7<(List.length (at' p0.2 p1):Int)) (if((at' (at' p0.2 p1) a7).1)=p2 then(some (a7))else(ag6 (wI .i64 (a7+(1:Int))))))else(vY  (()))
def n_ (fuel:Nat) (p0:List (Int)×(List (List (Int×Int)))) (p1:Int) (p2:Int):Option (Int):=
 ck (0<=p1∧p1<(List.length p0.2:Int)) (bG (pC p0 p1 p2) fuel (0:Int))
theorem Tt:aR Tryz.prog 116:=Tryz.call116
theorem GA (fuel:Nat) {p0:List (Int)×(List (List (Int×Int)))} {p1:Int} {p2:Int} (v0:Value)  (v1:Value)  (z2:List (Value×List (Int×Int))) (r:Int) (h:n_ fuel p0 p1 p2=some r):
  aV Tryz.prog 116 #[Value.agg #[v0,v1],vI (p1),vI (p2)] [Sl bM v0 p0.1,S2 aZ v1 z2 p0.2] (fun x:Unit=>vI (r)) (fun x l=>l) (fun _ l=>l):=by
 refine aV.of Tryz.func116 rfl Tryz.ntmps116 rfl fun c=>?_
 unfold n_ at h
 refine sqR<|aG (aM.box (cs:=[v0,v1]) rfl rfl) rfl fun b1=>qkAsg rfl<|dtN<|aL<|midU (fun a2=>vY  a2=some r) (fun a2 b3=>[]) (fun a2 b3=>[]) ?_ ?_
 ·refine sqR<|qkFld rfl<|qkLd 0 rfl<|qkMove rfl ?_
  have⟨j4,h⟩:=aH h
  refine aB (cO rfl rfl (aC.fact 1 rfl) rfl rfl j4) rfl<|aB (cM rfl (aC.fact 1 rfl) rfl rfl j4) rfl<|aB (b_ rfl (aC.el (aC.fact 1 rfl) j4.1 j4.2) rfl) rfl<|qkMove rfl<|dtN<|aQ<|loopL (pC p0 p1 p2) (fun a7 b8=>[(2,vI (p2)),(13,(at' z2 p1).1),(14,vI (List.length (at' p0.2 p1):Int)),(15,vI (a7))]) (fun a7 b8=>[]) (0:Int) () h SF .nil ?_
  clear h
  intro k9 a7 b8 h
  unfold pC at h
  refine sqR<|qkLss rfl<|dtN<|aL ?_
  refine eL h rfl (fun h=>?_) fun h=>?_
  ·refine iV<|aL<|aQ<|sqR<|qkMove rfl ?_
   have⟨j11,h⟩:=aH h
   refine aB (a_ rfl rfl (aC.el (aC.fact 1 rfl) j4.1 j4.2) rfl rfl j11) rfl<|aB (fZ (cs:=[vI ((at' (at' p0.2 p1) a7).1),vI ((at' (at' p0.2 p1) a7).2)]) rfl (aC.el (aC.fact 1 rfl) j4.1 j4.2) bJ rfl rfl rfl rfl j11) rfl<|aG (aM.alloc (cs:=[vI (0:Int),vI (0:Int)]) rfl rfl) rfl fun b12=>qkAsg rfl<|bI 0 (vs:=[vI ((at' (at' p0.2 p1) a7).1),vI ((at' (at' p0.2 p1) a7).2)]) rfl rfl rfl rfl rfl rfl<|dtN<|sqR<|qkFld rfl<|qkLd 0 rfl<|qkMove rfl<|qkEql rfl<|dtN ?_
   refine eL h rfl (fun h=>?_) fun h=>?_
   ·refine sqR<|qkMove rfl<|qkAsg rfl<|dtN<|aS<|bK<|aJ<|aJ<|bK<|aJ ?_
    cases h
    exact vJ rfl
   refine cU<|inT<|aO<|qkAdd rfl<|qkMove rfl<|dtN ?_
   exact nN (wI .i64 (a7+(1:Int))) () h SF .nil (aA.refl _ _)
  refine xO ?_
  exact iJ () (()) h SF rfl
 clear h
 intro a2 b3 h
 unfold vY at h
 refine sqR<|qkAsg rfl<|dtN<|aS ?_
 cases h
 exact lP rfl
end Go.Proofs.YtigggfnchamobaaGreatDoor
end
section
namespace Go.Proofs.YtigggfnchamobaaGreatDoor
open Go.Sx
def rJ (p1:List (Int)×(List (List (Int×Int)))) (a6:(List (List (Int×Int)))):Option ((List (Int)×(List (List (Int×Int))))):=
 some ((p1.1,a6))
def iF (fuel:Nat) (p0:Int×List (Int)×List (Int)×List (Int)×Bool×Bool) (p1:List (Int)×(List (List (Int×Int)))) (a14:Int×(List (List (Int×Int)))) (ag13:(Int×(List (List (Int×Int))))->Option ((List (Int)×(List (List (Int×Int)))))) (a18:Bool):Option ((List (Int)×(List (List (Int×Int))))):=
 if a18=true then(ck (0<=a14.1∧a14.1<(List.length p0.2.1:Int)) (Option.bind (eV fuel (at' p0.2.1 a14.1) (List.length p1.2:Int)) fun r22=>(ck (0<=(wI .i64 (a14.1+(1:Int)))∧(wI .i64 (a14.1+(1:Int)))<(List.length p0.2.1:Int)) (Option.bind (eV fuel (at' p0.2.1 (wI .i64 (a14.1+(1:Int)))) (List.length p1.2:Int)) fun r26=>(Option.bind (oT fuel p0.2.2.1 a14.1) fun r29=>(Option.bind (eV fuel r29 (15:Int)) fun r32=>(Option.bind (i_ fuel ((p0.1,p0.2.1,p0.2.2.1,p0.2.2.2.1,p0.2.2.2.2.1,p0.2.2.2.2.2)) ((p1.1,a14.2)) r22 r26 (wI .i64 ((1:Int)+r32))) fun r35=>(ag13 ((wI .i64 (a14.1+(2:Int))),r35)))))))))else(rJ p1 (a14.2))
def kI (fuel:Nat) (p0:Int×List (Int)×List (Int)×List (Int)×Bool×Bool) (p1:List (Int)×(List (List (Int×Int)))) (a14:Int×(List (List (Int×Int)))) (ag13:(Int×(List (List (Int×Int))))->Option ((List (Int)×(List (List (Int×Int)))))):Option ((List (Int)×(List (List (Int×Int))))):=
 if(wI .i64 (a14.1+(1:Int)))<(List.length p0.2.1:Int)then(iF fuel p0 p1 a14 ag13 (decide (a14.1<(60:Int))))else(iF fuel p0 p1 a14 ag13 (false))
def jA (fuel:Nat) (p0:Int×List (Int)×List (Int)×List (Int)×Bool×Bool) (p1:List (Int)×(List (List (Int×Int)))):Option ((List (Int)×(List (List (Int×Int))))):=
 bG (kI fuel p0 p1) fuel ((List.length p1.2:Int),p1.2)
theorem Qg:aR Tryz.prog 26:=Tryz.call26
theorem xF (fuel:Nat) {p0:Int×List (Int)×List (Int)×List (Int)×Bool×Bool} {p1:List (Int)×(List (List (Int×Int)))} (v0:Value)  (v1:Value)  (v2:Value)  (v3:Value)  (v4:Value)  (w5:List Value) (r:(List (Int)×(List (List (Int×Int))))) (h:jA fuel p0 p1=some r):
  Cb Tryz.prog 26 #[Value.agg #[vI (p0.1),v0,v1,v2,Value.bool (p0.2.2.2.2.1),Value.bool (p0.2.2.2.2.2)],Value.agg #[v3,v4]] [Ar bY v3 p1.1,Ar dJ.raw v4 w5,jG bR w5 p1.2] [Sl bM v0 p0.2.1,Sl bM v1 p0.2.2.1,Sl bM v2 p0.2.2.2.1] (fun x:Value×Value×List Value=>Value.agg #[x.1,x.2.1]) (fun x l=>Ar bY x.1 r.1::Ar dJ.raw x.2.1 x.2.2::jG bR x.2.2 r.2::l):=by
 refine Cb.of (vs:=[Value.agg #[vI (p0.1),v0,v1,v2,Value.bool (p0.2.2.2.2.1),Value.bool (p0.2.2.2.2.2)],Value.agg #[v3,v4]]) Tryz.func26 rfl Tryz.ntmps26 rfl fun c=>?_
 unfold jA at h
 refine sqR<|aG (aM.box (cs:=[vI (p0.1),v0,v1,v2,Value.bool (p0.2.2.2.2.1),Value.bool (p0.2.2.2.2.2)]) rfl rfl) rfl fun b1=>aG (aM.box (cs:=[v3,v4]) rfl rfl) rfl fun b2=>aG (aM.alloc (cs:=[Value.slice none 0 0,Value.slice none 0 0]) rfl rfl) rfl fun b3=>dtN<|sqR<|qkFld rfl<|qkLd 1 rfl<|aB (iX rfl (bD (i:=4) (j:=5) rfl rfl bJ) rfl) rfl<|qkAsg rfl<|dtN<|aL<|Ca (B:=List Value) (fun a6=>rJ p1 a6=some r) (fun a6 b7=>[(3,vP b2),(4,vP b3)]) (fun a6 b7=>[bO b3 [Value.slice none 0 0,Value.slice none 0 0] 28,bO b2 [v3,v4] 28,Ar bY v3 p1.1,Ar dJ.raw v4 b7,jG bR b7 a6]) (fun a6 b7=>[Sl bM v0 p0.2.1,Sl bM v1 p0.2.2.1,Sl bM v2 p0.2.2.2.1]) ?_ ?_
 ·refine sqR<|qkMove rfl<|qkAsg rfl<|dtN<|aQ<|EF (B:=List Value) (kI fuel p0 p1) (fun a14 b15=>[(2,vP b1),(3,vP b2),(4,vP b3),(5,vI (List.length p1.2:Int)),(6,vI (a14.1))]) (fun a14 b15=>[bO b3 [Value.slice none 0 0,Value.slice none 0 0] 28,bO b2 [v3,v4] 28,bO b1 [vI (p0.1),v0,v1,v2,Value.bool (p0.2.2.2.2.1),Value.bool (p0.2.2.2.2.2)] 24,Ar bY v3 p1.1,Ar dJ.raw v4 b15,jG bR b15 a14.2]) (fun a14 b15=>[Sl bM v0 p0.2.1,Sl bM v1 p0.2.2.1,Sl bM v2 p0.2.2.2.1]) ((List.length p1.2:Int),p1.2) (w5) h SF (aK.refl _) (aA.refl _ _) ?_
  clear h
  intro k16 a14 b15 h
  unfold kI at h
  refine aL<|aL<|Ca (B:=Unit) (fun a18=>iF fuel p0 p1 a14 (bG (kI fuel p0 p1) k16) a18=some r) (fun a18 b19=>[(2,vP b1),(3,vP b2),(4,vP b3),(5,vI (List.length p1.2:Int)),(6,vI (a14.1)),(20,Value.bool (a18))]) (fun a18 b19=>[bO b3 [Value.slice none 0 0,Value.slice none 0 0] 28,bO b2 [v3,v4] 28,bO b1 [vI (p0.1),v0,v1,v2,Value.bool (p0.2.2.2.2.1),Value.bool (p0.2.2.2.2.2)] 24,Ar bY v3 p1.1,Ar dJ.raw v4 b15,jG bR b15 a14.2]) (fun a18 b19=>[Sl bM v0 p0.2.1,Sl bM v1 p0.2.2.1,Sl bM v2 p0.2.2.2.1]) ?_ ?_
  ·refine aO<|qkMove rfl<|qkAdd rfl<|qkFld rfl<|qkLd 2 rfl<|aB (b_ rfl (aC.fact 0 rfl) rfl) rfl<|qkLss rfl<|qkMove rfl ?_
   refine Cy h rfl (fun _ h=>?_) fun _ h=>?_
   ·refine gyMove rfl<|aT rfl (Hm rfl rfl) rfl<|aB (bW rfl rfl) rfl<|dtN ?_
    exact iJ (decide (a14.1<(60:Int))) () h SF rfl
   refine gdSkip rfl<|gdSkip rfl<|aB (cA rfl rfl) rfl<|dtN ?_
   exact iJ (false) () h SF rfl
  clear h
  intro a18 b19 h
  unfold iF at h
  refine zJ h rfl (fun _ h=>?_) fun _ h=>?_
  ·refine iV<|aL<|aQ ?_
   refine JR.start [0,0,0,4,0,28,60,0,252,0,512,0,2048,7680,15872,0,65532,0,131072,0,1048572,2097148,4194300,8388607] 23 mixedOrders (by decide +kernel) ?_
   refine JR.open (by exact rfl) ?_
   refine jkLdA 2 rfl<|jkLdA 1 rfl<|jkFld rfl<|jkLd 2 rfl<|jkMove rfl ?_
   have⟨j21,h⟩:=aH h
   refine aN rfl .nil (cV.cons (List.mem_of_getElem? (i:=0) rfl) .nil) (a_ rfl rfl (aC.fact 0 rfl) rfl rfl j21) aD.z<|aN rfl .nil (cV.cons (List.mem_of_getElem? (i:=0) rfl) .nil) (bS rfl (aC.fact 0 rfl) rfl rfl rfl dB j21) aD.z<|jkMove rfl ?_
   have⟨r22,hr23,h⟩:=fE h
   refine JR.loud rfl rfl rfl (aM.callQ AJ (jU fuel  r22 hr23) rfl .nil) rfl (fun x24=>(aF.b rfl (aF.b rfl (aF.b rfl (aF.b rfl (aF.b rfl (aF.b rfl (aF.h (aK.ix [1] rfl rfl) .nil (aF.h (aK.ix [2] rfl rfl) .nil aF.z))))))))) fun x24=>aN rfl .nil .nil (dD rfl rfl rfl rfl rfl) (aD.h .nil .nil aD.z)<|aN rfl (aK.cons 2 rfl .nil) .nil (dO 0 rfl rfl rfl rfl rfl) (aD.h (aK.ix [2] rfl rfl) .nil aD.z)<|aN rfl .nil .nil (dQ rfl) (aD.h .nil .nil aD.z)<|aN rfl .nil .nil (pS rfl rfl) (aD.h .nil .nil aD.z) ?_
   have⟨j25,h⟩:=aH h
   refine aN rfl .nil (cV.cons (List.mem_of_getElem? (i:=0) rfl) .nil) (a_ rfl rfl (aC.fact 0 rfl) rfl rfl j25) (aD.h .nil (cV.cons (List.mem_of_getElem? (i:=0) rfl) .nil) aD.z)<|aN rfl .nil (cV.cons (List.mem_of_getElem? (i:=0) rfl) .nil) (bS rfl (aC.fact 0 rfl) rfl rfl rfl dB j25) (aD.h .nil (cV.cons (List.mem_of_getElem? (i:=0) rfl) .nil) aD.z)<|aN rfl .nil .nil (dQ rfl) (aD.h .nil .nil aD.z) ?_
   have⟨r26,hr27,h⟩:=fE h
   refine JR.loud rfl rfl rfl (aM.callQ AJ (jU fuel  r26 hr27) rfl .nil) rfl (fun x28=>(aF.b rfl (aF.b rfl (aF.b rfl (aF.b rfl (aF.b rfl (aF.b rfl (aF.b rfl (aF.b rfl (aF.b rfl (aF.b rfl (aF.b rfl (aF.b rfl (aF.b rfl (aF.h (aK.ix [1] rfl rfl) .nil (aF.h (aK.ix [2] rfl rfl) .nil aF.z)))))))))))))))) fun x28=>aN rfl .nil .nil (dD rfl rfl rfl rfl rfl) (aD.h .nil .nil (aD.h .nil .nil aD.z))<|aN rfl (aK.cons 2 rfl .nil) .nil (dO 0 rfl rfl rfl rfl rfl) (aD.h (aK.ix [2] rfl rfl) .nil (aD.h (aK.ix [2] rfl rfl) .nil aD.z))<|aN rfl .nil .nil (dQ rfl) (aD.h .nil .nil (aD.h .nil .nil aD.z)) ?_
   have⟨r29,hr30,h⟩:=fE h
   refine JR.loud rfl rfl rfl (aM.callQ FD (xI fuel v1 r29 hr30) rfl (aA.cons (aC.fact 1 rfl) .nil)) rfl (fun x31=>(aF.b rfl (aF.b rfl (aF.b rfl (aF.b rfl (aF.b rfl (aF.b rfl (aF.b rfl (aF.b rfl (aF.b rfl (aF.b rfl (aF.b rfl (aF.b rfl (aF.b rfl (aF.b rfl (aF.b rfl (aF.b rfl (aF.h (aK.ix [1] rfl rfl) .nil (aF.h (aK.ix [2] rfl rfl) .nil aF.z))))))))))))))))))) fun x31=>?_
   have⟨r32,hr33,h⟩:=fE h
   refine JR.loud rfl rfl rfl (aM.callQ AJ (jU fuel  r32 hr33) rfl .nil) rfl (fun x34=>(aF.b rfl (aF.b rfl (aF.b rfl (aF.b rfl (aF.b rfl (aF.b rfl (aF.b rfl (aF.b rfl (aF.b rfl (aF.b rfl (aF.b rfl (aF.b rfl (aF.b rfl (aF.b rfl (aF.b rfl (aF.b rfl (aF.h (aK.ix [1] rfl rfl) .nil (aF.h (aK.ix [2] rfl rfl) .nil aF.z))))))))))))))))))) fun x34=>aN rfl .nil .nil (pS rfl rfl) (aD.b rfl (aD.b rfl (aD.b rfl (aD.b rfl aD.z))))<|bL 23 rfl rfl ?_
   have⟨r35,hr36,h⟩:=fE h
   refine aG (zE (Min:=[Ar dJ.raw v4 b15,jG bR b15 a14.2]) (Mr:=[bO b3 [Value.slice none 0 0,Value.slice none 0 0] 28,bO b2 [v3,v4] 28,bO b1 [vI (p0.1),v0,v1,v2,Value.bool (p0.2.2.2.2.1),Value.bool (p0.2.2.2.2.2)] 24,Ar bY v3 p1.1]) Qk (xE fuel v0 v1 v2 v3 v4 b15 r35 hr36) rfl (aK.ix [4,5,0,1,2,3] rfl rfl) (aA.cons (aC.fact 0 rfl) (aA.cons (aC.fact 1 rfl) (aA.cons (aC.fact 2 rfl) (aA.cons (aU (aC.res 3 rfl) cI) .nil)))) (fun _ _=>rfl)) rfl fun x37=>dY<|inT<|aO<|qkMove rfl<|qkAdd rfl<|qkAsg rfl<|dtN ?_
   exact nN ((wI .i64 (a14.1+(2:Int))),r35) (x37) h SF (aK.ix [2,3,4,5,0,1] rfl rfl) (aA.refl _ _)
  refine xO ?_
  exact cF (a14.2) (b15) h SF (aK.ix [0,1,3,4,5] rfl rfl) (aA.refl _ _)
 clear h
 intro a6 b7 h
 unfold rJ at h
 refine sqR<|qkLdA 1 rfl<|bZ (Know.one ((aU (aC.res 2 rfl) cI))) fun ho8=>bZ (Know.one (aC.sl (bD (i:=3) (j:=4) rfl rfl bJ))) fun ho9=>bI 0 (vs:=[v3,v4]) rfl rfl (cR ho8 (cR ho9 rfl)) rfl rfl rfl<|dtN<|aS ?_
 cases h
 exact fQ (v3,v4,b7) rfl rfl (RV.cell 0 rfl rfl rfl rfl) (aK.ix [2,3,4] rfl rfl) aA.nil
end Go.Proofs.YtigggfnchamobaaGreatDoor
end
section
namespace Go.Proofs.YtigggfnchamobaaGreatDoor
open Go.Sx
def gZ (fuel:Nat) (p0:Int×List (Int)×List (Int)×List (Int)×Bool×Bool) (p1:Int):Option ((List (Int)×(List (List (Int×Int))))):=
 Option.bind (iZ fuel ((p0.1,p0.2.1,p0.2.2.1,p0.2.2.2.1,p0.2.2.2.2.1,p0.2.2.2.2.2)) p1) fun r3=>(Option.bind (jA fuel ((p0.1,p0.2.1,p0.2.2.1,p0.2.2.2.1,p0.2.2.2.2.1,p0.2.2.2.2.2)) ((r3.1,r3.2))) fun r6=>(some ((r6.1,r6.2))))
theorem XV:aR Tryz.prog 7:=Tryz.call7
theorem y_ (fuel:Nat) {p0:Int×List (Int)×List (Int)×List (Int)×Bool×Bool} {p1:Int} (v0:Value)  (v1:Value)  (v2:Value) (r:(List (Int)×(List (List (Int×Int))))) (h:gZ fuel p0 p1=some r):
  aV Tryz.prog 7 #[Value.agg #[vI (p0.1),v0,v1,v2,Value.bool (p0.2.2.2.2.1),Value.bool (p0.2.2.2.2.2)],vI (p1)] [Sl bM v0 p0.2.1,Sl bM v1 p0.2.2.1,Sl bM v2 p0.2.2.2.1] (fun x:Value×Value×List Value=>Value.agg #[x.1,x.2.1]) (fun x l=>Ar bY x.1 r.1::Ar dJ.raw x.2.1 x.2.2::jG bR x.2.2 r.2::l) (fun _ l=>l):=by
 refine aV.of Tryz.func7 rfl Tryz.ntmps7 rfl fun c=>?_
 unfold gZ at h
 refine sqR<|aG (aM.box (cs:=[vI (p0.1),v0,v1,v2,Value.bool (p0.2.2.2.2.1),Value.bool (p0.2.2.2.2.2)]) rfl rfl) rfl fun b1=>aG (aM.alloc (cs:=[Value.slice none 0 0,Value.slice none 0 0]) rfl rfl) rfl fun b2=>dtN<|aL ?_
 refine JR.start [0,0,0,6,15,31] 4 mixedOrders (by decide +kernel) ?_
 refine JR.open (by exact rfl) ?_
 refine jkLdA 1 rfl<|jkLdA 1 rfl<|jkMove rfl ?_
 have⟨r3,w4,h⟩:=fE h
 refine JR.loud rfl rfl rfl (aM.callQ Qh (xD fuel v0 v1 v2 r3 w4) rfl (aA.cons (aC.fact 0 rfl) (aA.cons (aC.fact 1 rfl) (aA.cons (aC.fact 2 rfl) .nil)))) rfl (fun x5=>(aF.b rfl (aF.b rfl (aF.h (aK.ix [4] rfl rfl) .nil aF.z)))) fun x5=>bL 4 rfl rfl ?_
 have⟨r6,w7,h⟩:=fE h
 refine aG (zE (Min:=[Ar bY x5.1 r3.1,Ar dJ.raw x5.2.1 x5.2.2,jG bR x5.2.2 r3.2]) (Mr:=[bO b2 [Value.slice none 0 0,Value.slice none 0 0] 28,bO b1 [vI (p0.1),v0,v1,v2,Value.bool (p0.2.2.2.2.1),Value.bool (p0.2.2.2.2.2)] 24]) Qg (xF fuel v0 v1 v2 x5.1 x5.2.1 x5.2.2 r6 w7) rfl (aK.refl _) (aA.cons (aC.fact 0 rfl) (aA.cons (aC.fact 1 rfl) (aA.cons (aC.fact 2 rfl) .nil))) (fun _ _=>rfl)) rfl fun x8=>bZ (Know.one ((aU (aC.res 0 rfl) cI))) fun ho9=>bZ (Know.one (aC.sl (bD (i:=1) (j:=2) rfl rfl bJ))) fun ho10=>bI 3 (vs:=[x8.1,x8.2.1]) rfl rfl (cR ho9 (cR ho10 rfl)) rfl rfl rfl<|dtN<|aS ?_
 cases h
 exact fQ (x8.1,x8.2.1,x8.2.2) rfl rfl (RV.cell 3 rfl rfl rfl rfl) (aK.ix [0,1,2] rfl rfl) aA.nil
end Go.Proofs.YtigggfnchamobaaGreatDoor
end
section
namespace Go.Proofs.YtigggfnchamobaaGreatDoor
open Go.Sx
def jY (fuel:Nat) (p0:Int×List (Int)×List (Int)×List (Int)×Bool×Bool) (p1:Int):Option ((List (Int)×(List (List (Int×Int))))):=
 if(!p0.2.2.2.2.1)=true then(Option.bind (gZ fuel ((p0.1,p0.2.1,p0.2.2.1,p0.2.2.2.1,p0.2.2.2.2.1,p0.2.2.2.2.2)) p1) fun r4=>(some ((r4.1,r4.2))))else(Option.bind (iI fuel ((p0.1,p0.2.1,p0.2.2.1,p0.2.2.2.1,p0.2.2.2.2.1,p0.2.2.2.2.2)) p1) fun r9=>(Option.bind (jA fuel ((p0.1,p0.2.1,p0.2.2.1,p0.2.2.2.1,p0.2.2.2.2.1,p0.2.2.2.2.2)) ((r9.1,r9.2))) fun r12=>(some ((r12.1,r12.2)))))
theorem VL:aR Tryz.prog 17:=Tryz.call17
theorem Dg (fuel:Nat) {p0:Int×List (Int)×List (Int)×List (Int)×Bool×Bool} {p1:Int} (v0:Value)  (v1:Value)  (v2:Value) (r:(List (Int)×(List (List (Int×Int))))) (h:jY fuel p0 p1=some r):
  aV Tryz.prog 17 #[Value.agg #[vI (p0.1),v0,v1,v2,Value.bool (p0.2.2.2.2.1),Value.bool (p0.2.2.2.2.2)],vI (p1)] [Sl bM v0 p0.2.1,Sl bM v1 p0.2.2.1,Sl bM v2 p0.2.2.2.1] (fun x:Value×Value×List Value=>Value.agg #[x.1,x.2.1]) (fun x l=>Ar bY x.1 r.1::Ar dJ.raw x.2.1 x.2.2::jG bR x.2.2 r.2::l) (fun _ l=>l):=by
 refine aV.of Tryz.func17 rfl Tryz.ntmps17 rfl fun c=>?_
 unfold jY at h
 refine sqR<|aG (aM.box (cs:=[vI (p0.1),v0,v1,v2,Value.bool (p0.2.2.2.2.1),Value.bool (p0.2.2.2.2.2)]) rfl rfl) rfl fun b1=>aG (aM.alloc (cs:=[Value.slice none 0 0,Value.slice none 0 0]) rfl rfl) rfl fun b2=>dtN<|aL<|sqR<|qkFld rfl<|qkLd 1 rfl<|aB (oD rfl) rfl<|dtN ?_
 refine zJ h rfl (fun _ h=>?_) fun _ h=>?_
 ·refine sqR<|qkLdA 1 rfl<|qkMove rfl ?_
  have⟨r4,w5,h⟩:=fE h
  refine aG (aM.callQ XV (y_ fuel v0 v1 v2 r4 w5) rfl (aA.cons (aC.fact 0 rfl) (aA.cons (aC.fact 1 rfl) (aA.cons (aC.fact 2 rfl) .nil)))) rfl fun x6=>bZ (Know.one ((aU (aC.res 0 rfl) cI))) fun ho7=>bZ (Know.one (aC.sl (bD (i:=1) (j:=2) rfl rfl bJ))) fun ho8=>bI 3 (vs:=[x6.1,x6.2.1]) rfl rfl (cR ho7 (cR ho8 rfl)) rfl rfl rfl<|dtN<|aS<|aJ ?_
  cases h
  exact fQ (x6.1,x6.2.1,x6.2.2) rfl rfl (RV.cell 3 rfl rfl rfl rfl) (aK.ix [0,1,2] rfl rfl) aA.nil
 refine iV<|aL ?_
 refine JR.start [0,0,0,6,15,31] 4 mixedOrders (by decide +kernel) ?_
 refine JR.open (by exact rfl) ?_
 refine jkLdA 1 rfl<|jkLdA 1 rfl<|jkMove rfl ?_
 have⟨r9,w10,h⟩:=fE h
 refine JR.loud rfl rfl rfl (aM.callQ Qi (wD fuel v0 v1 v2 r9 w10) rfl (aA.cons (aC.fact 0 rfl) (aA.cons (aC.fact 1 rfl) (aA.cons (aC.fact 2 rfl) .nil)))) rfl (fun x11=>(aF.b rfl (aF.b rfl (aF.h (aK.ix [4] rfl rfl) .nil aF.z)))) fun x11=>bL 4 rfl rfl ?_
 have⟨r12,w13,h⟩:=fE h
 refine aG (zE (Min:=[Ar bY x11.1 r9.1,Ar dJ.raw x11.2.1 x11.2.2,jG bR x11.2.2 r9.2]) (Mr:=[bO b2 [Value.slice none 0 0,Value.slice none 0 0] 28,bO b1 [vI (p0.1),v0,v1,v2,Value.bool (p0.2.2.2.2.1),Value.bool (p0.2.2.2.2.2)] 24]) Qg (xF fuel v0 v1 v2 x11.1 x11.2.1 x11.2.2 r12 w13) rfl (aK.refl _) (aA.cons (aC.fact 0 rfl) (aA.cons (aC.fact 1 rfl) (aA.cons (aC.fact 2 rfl) .nil))) (fun _ _=>rfl)) rfl fun x14=>bZ (Know.one ((aU (aC.res 0 rfl) cI))) fun ho15=>bZ (Know.one (aC.sl (bD (i:=1) (j:=2) rfl rfl bJ))) fun ho16=>bI 3 (vs:=[x14.1,x14.2.1]) rfl rfl (cR ho15 (cR ho16 rfl)) rfl rfl rfl<|dtN<|aS ?_
 cases h
 exact fQ (x14.1,x14.2.1,x14.2.2) rfl rfl (RV.cell 3 rfl rfl rfl rfl) (aK.ix [0,1,2] rfl rfl) aA.nil
end Go.Proofs.YtigggfnchamobaaGreatDoor
end
section
namespace Go.Proofs.YtigggfnchamobaaGreatDoor
open Go.Sx
def yG (fuel:Nat) (p0:ByteArray):Option ((ByteArray×Int×Int×Int×Int×Int)):=
 some ((p0,(2:Int),(0:Int),(0:Int),(0:Int),(0:Int)))
theorem VT:aR Tryz.prog 41:=Tryz.call41
theorem Hb (fuel:Nat) {p0:ByteArray} (r:(ByteArray×Int×Int×Int×Int×Int)) (h:yG fuel p0=some r):
  aV Tryz.prog 41 #[Value.string (p0)] [] (fun x:Unit=>Value.agg #[Value.string (r.1),vI (r.2.1),vI (r.2.2.1),vI (r.2.2.2.1),vI (r.2.2.2.2.1),vI (r.2.2.2.2.2)]) (fun x l=>l) (fun _ l=>l):=by
 refine aV.of Tryz.func41 rfl Tryz.ntmps41 rfl fun c=>?_
 unfold yG at h
 refine sqR<|aG (aM.alloc (cs:=[Value.string (ByteArray.mk #[]),vI (0:Int),vI (0:Int),vI (0:Int),vI (0:Int),vI (0:Int)]) rfl rfl) rfl fun b1=>dtN<|sqR<|qkMove rfl ?_
 refine aB (AF (r:=Value.agg #[Value.string (p0),Value.int .i64 (2:Int),Value.int .i64 (0:Int),Value.int .i64 (0:Int),Value.int .i64 (0:Int),Value.int .i64 (0:Int)]) rfl rfl (by intro w;simp[Instr.build,Instr.fill,eN,dU,cY,eO,eP,dV,fS])) rfl ?_
 refine bI 0 (vs:=[Value.string (p0),vI (2:Int),vI (0:Int),vI (0:Int),vI (0:Int),vI (0:Int)]) rfl rfl rfl rfl rfl rfl<|dtN<|aS ?_
 cases h
 exact fQ () rfl rfl (RV.cell 0 rfl rfl rfl rfl) .nil aA.nil
end Go.Proofs.YtigggfnchamobaaGreatDoor
end
section
namespace Go.Proofs.YtigggfnchamobaaGreatDoor
open Go.Sx
def wM (fuel:Nat)  : Option ((List (ByteArray×Int×Int×Int×Int×Int))):=
 Option.bind (yG fuel (ByteArray.mk #[109])) fun r1=>(some ([(r1.1,r1.2.1,r1.2.2.1,r1.2.2.2.1,r1.2.2.2.2.1,r1.2.2.2.2.2)]))
theorem VP:aR Tryz.prog 23:=Tryz.call23
theorem Jc (fuel:Nat)  (r:(List (ByteArray×Int×Int×Int×Int×Int))) (h:wM fuel  = some r):
  aV Tryz.prog 23 #[] [] (fun x:Value=>x) (fun x l=>Ar rF x r::l) (fun _ l=>l):=by
 refine aV.of Tryz.func23 rfl Tryz.ntmps23 rfl fun c=>?_
 unfold wM at h
 refine sqR<|qkAsg rfl<|dtN<|sqR ?_
 have⟨r1,w2,h⟩:=fE h
 refine aG (aM.callQ VT (Hb fuel  r1 w2) rfl .nil) rfl fun x3=>aG (cE (e:=rF) ([((r1.1,r1.2.1,r1.2.2.1,r1.2.2.2.1,r1.2.2.2.2.1,r1.2.2.2.2.2))]) [(0,Value.agg #[Value.string (r1.1),vI (r1.2.1),vI (r1.2.2.1),vI (r1.2.2.2.1),vI (r1.2.2.2.2.1),vI (r1.2.2.2.2.2)])] rfl rfl rfl rfl (QP (Value.string (r1.1)) (vI (r1.2.1)) (vI (r1.2.2.1)) (vI (r1.2.2.2.1)) (vI (r1.2.2.2.2.1)) (vI (r1.2.2.2.2.2))) rfl rfl rfl) rfl fun u4=>qkAsg rfl<|dtN<|aS ?_
 cases h
 exact fQ (u4) rfl rfl (RV.tmp rfl) (aK.refl _) aA.nil
end Go.Proofs.YtigggfnchamobaaGreatDoor
end
section
namespace Go.Proofs.YtigggfnchamobaaGreatDoor
open Go.Sx
def nE  (a2:Int):Option (Int):=
 some (a2)
def kK (p0:List (List (Int))) (p1:Int) (a7:Int×Int) (ag6:(Int×Int)->Option (Int)):Option (Int):=
 if a7.2<(List.length p0:Int)then(ck (0<=a7.2∧a7.2<(List.length p0:Int)) (ck (0<=p1∧p1<(List.length (at' p0 a7.2):Int)) (ck (0<=a7.2) (ag6 ((Fy .u32 a7.1 (wJ .u32 (wI .u32 (at' (at' p0 a7.2) p1)) a7.2)),(wI .i64 (a7.2+(1:Int))))))))else(nE  (a7.1))
def lK (fuel:Nat) (p0:List (List (Int))) (p1:Int):Option (Int):=
 bG (kK p0 p1) fuel ((0:Int),(0:Int))
theorem VU:aR Tryz.prog 42:=Tryz.call42
theorem Cs (fuel:Nat) {p0:List (List (Int))} {p1:Int} (v0:Value)  (z1:List (Value×List (Int))) (r:Int) (h:lK fuel p0 p1=some r):
  aV Tryz.prog 42 #[v0,vI (p1)] [S2 bM v0 z1 p0] (fun x:Unit=>vU (r)) (fun x l=>l) (fun _ l=>l):=by
 refine aV.of Tryz.func42 rfl Tryz.ntmps42 rfl fun c=>?_
 unfold lK at h
 refine sqR<|qkAsg rfl<|dtN<|sqR<|qkAsg rfl<|dtN<|aL<|midU (fun a2=>nE  a2=some r) (fun a2 b3=>[(5,vU (a2))]) (fun a2 b3=>[]) ?_ ?_
 ·refine sqR<|qkMove rfl<|aB (iX rfl (aC.fact 0 rfl) rfl) rfl<|qkMove rfl<|dtN<|aQ<|loopL (kK p0 p1) (fun a7 b8=>[(1,vI (p1)),(5,vU (a7.1)),(8,v0),(9,vI (List.length p0:Int)),(10,vI (a7.2))]) (fun a7 b8=>[]) ((0:Int),(0:Int)) () h SF (aK.refl _) ?_
  clear h
  intro k9 a7 b8 h
  unfold kK at h
  refine sqR<|qkLss rfl<|dtN<|aL ?_
  refine eL h rfl (fun h=>?_) fun h=>?_
  ·refine iV<|aL<|aQ<|sqR<|qkMove rfl ?_
   have⟨j11,h⟩:=aH h
   refine aB (cO rfl rfl (aC.fact 0 rfl) rfl rfl j11) rfl<|aB (cM rfl (aC.fact 0 rfl) rfl rfl j11) rfl<|qkAsg rfl<|qkAsg rfl<|dtN<|aO<|qkMove rfl<|qkMove rfl<|qkMove rfl ?_
   have⟨j12,h⟩:=aH h
   refine aB (a_ rfl rfl (aC.el (aC.fact 0 rfl) j11.1 j11.2) rfl rfl j12) rfl<|aB (bS rfl (aC.el (aC.fact 0 rfl) j11.1 j11.2) rfl rfl rfl dB j12) rfl<|aB (Fq rfl rfl rfl) rfl<|qkMove rfl ?_
   have⟨j13,h⟩:=aH h
   refine aB (Ft rfl rfl j13) rfl<|aB (Oj rfl rfl) rfl<|qkAsg rfl<|dY<|inT<|aO<|qkAdd rfl<|qkMove rfl<|dtN ?_
   exact xK ((Fy .u32 a7.1 (wJ .u32 (wI .u32 (at' (at' p0 a7.2) p1)) a7.2)),(wI .i64 (a7.2+(1:Int)))) () h SF rfl
  refine xO ?_
  exact iJ (a7.1) () h SF rfl
 clear h
 intro a2 b3 h
 unfold nE at h
 refine sqR<|qkMove rfl<|qkAsg rfl<|dtN<|aS ?_
 cases h
 exact lP rfl
end Go.Proofs.YtigggfnchamobaaGreatDoor
end
section
namespace Go.Proofs.YtigggfnchamobaaGreatDoor
open Go.Sx
def qL (fuel:Nat) (p0:List (Int)×(List (List (Int×Int)))):Option (Int):=
 ck (0<=(List.length p0.1:Int)) (some (wI .u32 ((wJ .u32 (1:Int) (List.length p0.1:Int)) - (1:Int))))
theorem Qj:aR Tryz.prog 43:=Tryz.call43
theorem Es (fuel:Nat) {p0:List (Int)×(List (List (Int×Int)))} (v0:Value)  (v1:Value)  (z2:List (Value×List (Int×Int))) (r:Int) (h:qL fuel p0=some r):
  aV Tryz.prog 43 #[Value.agg #[v0,v1]] [Sl bM v0 p0.1,S2 aZ v1 z2 p0.2] (fun x:Unit=>vU (r)) (fun x l=>l) (fun _ l=>l):=by
 refine aV.of Tryz.func43 rfl Tryz.ntmps43 rfl fun c=>?_
 unfold qL at h
 refine sqR<|aG (aM.box (cs:=[v0,v1]) rfl rfl) rfl fun b1=>qkAsg rfl<|dtN<|sqR<|qkFld rfl<|qkLd 0 rfl<|aB (b_ rfl (aC.fact 0 rfl) rfl) rfl ?_
 have⟨j2,h⟩:=aH h
 refine aB (Ft rfl rfl j2) rfl<|aB (qE rfl rfl) rfl<|qkAsg rfl<|dtN<|aS ?_
 cases h
 exact vJ rfl
end Go.Proofs.YtigggfnchamobaaGreatDoor
end
section
namespace Go.Proofs.YtigggfnchamobaaGreatDoor
open Go.Sx
def jO (fuel:Nat) (p0:List (Int)×(List (List (Int×Int)))) (p2:Int) (r7:Int) (a14:Int):Option (Bool):=
 Option.bind (qL fuel ((p0.1,p0.2))) fun r16=>(some (decide ((c_ .u32 a14 (sC .u32 r16 p2))=(sC .u32 (sC .u32 r16 p2) r7))))
def mL (a29:Int×Int) (ag28:(Int×Int)->Option (Bool)) (a34:Int):Option (Bool):=
 ag28 ((wI .i64 (a29.1+(1:Int))),a34)
def jQ (a40:Int×Int) (ag39:(Int×Int)->Option (Bool)) (a45:Int):Option (Bool):=
 ag39 ((wI .i64 (a40.1+(1:Int))),a45)
def fL (p0:List (Int)×(List (List (Int×Int)))) (r7:Int) (a29:Int×Int) (ag28:(Int×Int)->Option (Bool)) (a40:Int×Int) (ag39:(Int×Int)->Option (Bool)):Option (Bool):=
 if a40.1<(List.length (at' p0.2 a29.1):Int)then(ck (0<=a40.1∧a40.1<(List.length (at' p0.2 a29.1):Int)) (ck (0<=((at' (at' p0.2 a29.1) a40.1).1)) (if(c_ .u32 (oZ .u32 r7 ((at' (at' p0.2 a29.1) a40.1).1)) (1:Int))=(1:Int)then(ck (0<=a29.1) (jQ a40 ag39 (Fy .u32 a40.2 (wJ .u32 (1:Int) a29.1))))else(jQ a40 ag39 (a40.2)))))else(mL a29 ag28 (a40.2))
def eM (fuel:Nat) (p0:List (Int)×(List (List (Int×Int)))) (p2:Int) (r7:Int) (a29:Int×Int) (ag28:(Int×Int)->Option (Bool)):Option (Bool):=
 if a29.1<(List.length p0.2:Int)then(ck (0<=a29.1∧a29.1<(List.length p0.2:Int)) (bG (fL p0 r7 a29 ag28) fuel ((0:Int),a29.2)))else(jO fuel p0 p2 r7 (a29.2))
def jP (fuel:Nat) (p0:List (Int)×(List (List (Int×Int)))) (p2:Int) (r7:Int) (a20:Unit):Option (Bool):=
 bG (eM fuel p0 p2 r7) fuel ((0:Int),(0:Int))
def jN (fuel:Nat) (p0:List (Int)×(List (List (Int×Int)))) (p1:List (List (Int))) (p2:Int) (a4:Bool):Option (Bool):=
 if a4=true then(some (false))else(Option.bind (lK fuel p1 (0:Int)) fun r7=>(jP fuel p0 p2 r7 (())))
def f_ (fuel:Nat) (p0:List (Int)×(List (List (Int×Int)))) (p1:List (List (Int))) (p2:Int):Option (Bool):=
 Option.bind (eI fuel ((p0.1,p0.2))) fun r54=>(if(!r54)=true then(jN fuel p0 p1 p2 (true))else(Option.bind (eX fuel ((p0.1,p0.2)) p1 ([(1:Int)])) fun r59=>(jN fuel p0 p1 p2 ((!r59)))))
theorem VQ:aR Tryz.prog 25:=Tryz.call25
theorem BL (fuel:Nat) {p0:List (Int)×(List (List (Int×Int)))} {p1:List (List (Int))} {p2:Int} (v0:Value)  (v1:Value)  (z2:List (Value×List (Int×Int)))  (v3:Value)  (z4:List (Value×List (Int))) (r:Bool) (h:f_ fuel p0 p1 p2=some r):
  aV Tryz.prog 25 #[Value.agg #[v0,v1],v3,vU (p2)] [Sl bM v0 p0.1,S2 aZ v1 z2 p0.2,S2 bM v3 z4 p1] (fun x:Unit=>Value.bool (r)) (fun x l=>l) (fun _ l=>l):=by
 refine aV.of Tryz.func25 rfl Tryz.ntmps25 rfl fun c=>?_
 unfold f_ at h
 refine jJ AC<|sqR<|aG (aM.box (cs:=[v0,v1]) rfl rfl) rfl fun b2=>qkAsg rfl<|dtN<|aL<|aL<|vW (A:=Bool) (B:=Unit) (fun a4 b5=>⟨49,uO ([]:List Nat)⟩) (fun a4=>jN fuel p0 p1 p2 a4=some r) (fun a4 b5=>[(1,v3),(2,vU (p2)),(3,vP b2),(6,Value.bool (false)),(21,Value.bool (a4))]) (fun a4 b5=>[bO b2 [v0,v1] 28,xL ([]:List Nat)]) (fun a4 b5=>[Sl bM v0 p0.1,S2 aZ v1 z2 p0.2,S2 bM v3 z4 p1]) ?_ ?_
 ·refine aO<|qkLdA 0 rfl ?_
  have⟨r54,w55,h⟩:=fE h
  refine aG (aM.callQ FE (rY fuel v0 v1 z2 r54 w55) rfl (aA.cons (aC.fact 0 rfl) (aA.cons (aC.fact 1 rfl) .nil))) rfl fun x56=>aB (oD rfl) rfl<|qkMove rfl ?_
  refine Bf (by exact rfl) (by exact rfl) (fun hp57=>?_) (fun hp57=>?_)
  ·have h:=Jj hp57 h
   refine gdSkip rfl<|gdSkip rfl<|gdSkip rfl<|gdSkip rfl<|gdSkip rfl<|aB (bW rfl rfl) rfl<|dtN ?_
   exact lS (true) () rfl h SF (aK.refl _) (aA.refl _ _)
  have h:=IE hp57 h
  refine aT rfl (lB 0 rfl rfl rfl rfl) rfl<|gyMove rfl<|qT rfl (cE (e:=bY) ([(1:Int)]) [(0,vI (1:Int))] rfl rfl rfl rfl (mM (vI (1:Int)) rfl) rfl rfl rfl) rfl fun u58=>?_
  have⟨r59,w60,h⟩:=fE h
  refine qT rfl (aM.callQ LE (rQ fuel v0 v1 z2 v3 z4 u58 r59 w60) rfl (aA.cons (aC.fact 0 rfl) (aA.cons (aC.fact 1 rfl) (aA.cons (aC.fact 2 rfl) (aA.cons (aU (aC.res 0 rfl) cI) .nil))))) rfl fun x61=>aT rfl (oD rfl) rfl<|aB (cA rfl rfl) rfl<|dtN ?_
  exact lS ((!r59)) () rfl h SF (aK.ix [1,2] rfl rfl) (aA.refl _ _)
 clear h
 intro a4 b5 h
 unfold jN at h
 refine zJ h rfl (fun _ h=>?_) fun _ h=>?_
 ·refine sqR<|qkAsg rfl<|dtN<|aS<|aJ<|gE (i:=1) (Ds:=([]:List Nat)) (.inl rfl) rfl ?_
  cases h
  exact vJ rfl
 refine iV<|sqR<|qkMove rfl ?_
 have⟨r7,w8,h⟩:=fE h
 refine aG (aM.callQ VU (Cs fuel v3 z4 r7 w8) rfl (aA.cons (aC.fact 2 rfl) .nil)) rfl fun x9=>aG (aM.alloc (cs:=[vU (0:Int)]) rfl rfl) rfl fun b10=>eJ 0 rfl rfl rfl rfl rfl rfl<|dtN<|sqR<|aG (aM.alloc (cs:=[vU (0:Int)]) rfl rfl) rfl fun b11=>eJ 0 rfl rfl rfl rfl rfl rfl<|dtN<|aL<|vW (A:=Int) (B:=List Nat) (fun a14 b15=>⟨49,uO b15⟩) (fun a14=>jO fuel p0 p2 r7 a14=some r) (fun a14 b15=>[(2,vU (p2)),(3,vP b2),(7,vP b10),(8,vP b11)]) (fun a14 b15=>[bO b11 [vU (a14)] 25,bO b10 [vU (r7)] 25,bO b2 [v0,v1] 28,xL b15]) (fun a14 b15=>[Sl bM v0 p0.1,S2 aZ v1 z2 p0.2,S2 bM v3 z4 p1]) ?_ ?_
 ·refine sqR<|qkLdA 2 rfl<|yA (A:=Unit) (B:=Nat) (vs:=[Value.agg #[v0,v1]]) (fun a20=>jP fuel p0 p2 r7 a20=some r) (fun a20 b21=>Value.func (.func 50) #[] #[vP b21]) (fun a20 b21=>[bO b21 [v0,v1] 28,bO b11 [vU (0:Int)] 25,bO b10 [vU (r7)] 25,bO b2 [v0,v1] 28,xL ([]:List Nat)]) (fun a20 b21=>[Sl bM v0 p0.1,S2 aZ v1 z2 p0.2,S2 bM v3 z4 p1]) (tO.fn (show aR Tryz.prog 35 from Tryz.call35) rfl) Tryz.func35 rfl Tryz.ntmps35 rfl rfl ?_ ?_
  ·refine sqR<|aG (aM.box (cs:=[v0,v1]) rfl rfl) rfl fun b53=>qkAsg rfl<|dtN<|sqR<|aB (sS (cs:=[.tmp 1]) (vs:=[vP b53]) rfl) rfl<|qkAsg rfl<|dtN<|aS ?_
   exact uR () (b53) h (.inl rfl) (CI.r1 rfl (RV.tmp rfl)) rfl (aK.refl _) (aA.refl _ _)
  clear h
  intro a20 b21 h
  unfold jP at h
  refine dtN<|aQ<|tP (i:=4) (cs:=[vP b21]) ([]:List Nat) rfl (show aR Tryz.prog 50 from Tryz.call50) rfl Tryz.func50 rfl Tryz.ntmps50 rfl fun SG D23 R24 hR25=>sqR<|qkFld rfl<|qkLd 1 rfl<|aB (iX rfl (aC.fact 1 rfl) rfl) rfl<|qkMove rfl<|dtN<|aQ<|loopL (eM fuel p0 p2 r7) (fun a29 b30=>[(0,kG SG),(8,v1),(9,vI (List.length p0.2:Int)),(10,vI (a29.1))]) (fun a29 b30=>[Lp SG R24 LoopState.ready none,bO b21 [v0,v1] 28,bO b11 [vU (a29.2)] 25,bO b10 [vU (r7)] 25,bO b2 [v0,v1] 28,xL (List.cons D23 ([]:List Nat))]) ((0:Int),(0:Int)) () h SF (aK.refl _) ?_
  clear h
  intro k31 a29 b30 h
  unfold eM at h
  refine sqR<|qkLss rfl<|dtN<|aL ?_
  refine eL h rfl (fun h=>?_) fun h=>?_
  ·refine iV<|aL<|midU (fun a34=>mL a29 (bG (eM fuel p0 p2 r7) k31) a34=some r) (fun a34 b35=>[(0,kG SG),(8,v1),(9,vI (List.length p0.2:Int)),(10,vI (a29.1))]) (fun a34 b35=>[Lp SG R24 LoopState.ready none,bO b21 [v0,v1] 28,bO b11 [vU (a34)] 25,bO b10 [vU (r7)] 25,bO b2 [v0,v1] 28,xL (List.cons D23 ([]:List Nat))]) ?_ ?_
   ·refine aQ<|sqR<|qkMove rfl ?_
    have⟨j36,h⟩:=aH h
    refine aB (cO rfl rfl (aC.fact 1 rfl) rfl rfl j36) rfl<|aB (cM rfl (aC.fact 1 rfl) rfl rfl j36) rfl<|qkAsg rfl<|qkAsg rfl<|dtN<|sqR<|qkMove rfl<|aB (b_ rfl (aC.el (aC.fact 1 rfl) j36.1 j36.2) rfl) rfl<|qkMove rfl<|dtN<|aQ<|loopL (fL p0 r7 a29 (bG (eM fuel p0 p2 r7) k31)) (fun a40 b41=>[(0,kG SG),(3,vI (a29.1)),(8,v1),(9,vI (List.length p0.2:Int)),(10,vI (a29.1)),(15,(at' z2 a29.1).1),(16,vI (List.length (at' p0.2 a29.1):Int)),(17,vI (a40.1))]) (fun a40 b41=>[Lp SG R24 LoopState.ready none,bO b21 [v0,v1] 28,bO b11 [vU (a40.2)] 25,bO b10 [vU (r7)] 25,bO b2 [v0,v1] 28,xL (List.cons D23 ([]:List Nat))]) ((0:Int),a29.2) () h SF (aK.refl _) ?_
    clear h
    intro k42 a40 b41 h
    unfold fL at h
    refine sqR<|qkLss rfl<|dtN<|aL ?_
    refine eL h rfl (fun h=>?_) fun h=>?_
    ·refine iV<|aL<|midU (fun a45=>jQ a40 (bG (fL p0 r7 a29 (bG (eM fuel p0 p2 r7) k31)) k42) a45=some r) (fun a45 b46=>[(0,kG SG),(3,vI (a29.1)),(8,v1),(9,vI (List.length p0.2:Int)),(10,vI (a29.1)),(15,(at' z2 a29.1).1),(16,vI (List.length (at' p0.2 a29.1):Int)),(17,vI (a40.1))]) (fun a45 b46=>[Lp SG R24 LoopState.ready none,bO b21 [v0,v1] 28,bO b11 [vU (a45)] 25,bO b10 [vU (r7)] 25,bO b2 [v0,v1] 28,xL (List.cons D23 ([]:List Nat))]) ?_ ?_
     ·refine aQ<|sqR ?_
      have⟨j47,h⟩:=aH h
      refine aB (a_ rfl rfl (aC.el (aC.fact 1 rfl) j36.1 j36.2) rfl rfl j47) rfl<|aB (fZ (cs:=[vI ((at' (at' p0.2 a29.1) a40.1).1),vI ((at' (at' p0.2 a29.1) a40.1).2)]) rfl (aC.el (aC.fact 1 rfl) j36.1 j36.2) bJ rfl rfl rfl rfl j47) rfl<|aG (aM.alloc (cs:=[vI (0:Int),vI (0:Int)]) rfl rfl) rfl fun b48=>bI 0 (vs:=[vI ((at' (at' p0.2 a29.1) a40.1).1),vI ((at' (at' p0.2 a29.1) a40.1).2)]) rfl rfl rfl rfl rfl rfl<|dtN<|sqR<|qkMove rfl<|qkMove rfl<|qkLdA 0 rfl<|Ax (us:=[vI (a29.1),Value.agg #[vI ((at' (at' p0.2 a29.1) a40.1).1),vI ((at' (at' p0.2 a29.1) a40.1).2)]]) (i:=1) hR25 rfl rfl rfl rfl rfl rfl<|sqR<|qkAsg rfl<|dtN<|aO<|aG (aM.alloc (cs:=[vI (0:Int),vI (0:Int)]) rfl rfl) rfl fun b49=>bI 0 (vs:=[vI ((at' (at' p0.2 a29.1) a40.1).1),vI ((at' (at' p0.2 a29.1) a40.1).2)]) rfl rfl rfl rfl rfl rfl<|dtN<|CE (i:=2) rfl<|aQ<|sqR<|qkLd 5 rfl<|qkFld rfl<|qkLd 0 rfl ?_
      have⟨j50,h⟩:=aH h
      refine aB (AG rfl rfl j50) rfl<|aB (oY rfl rfl) rfl<|qkEql rfl<|dtN ?_
      refine eL h rfl (fun h=>?_) fun h=>?_
      ·refine JR.start [0,0,2,7,15] 3 mixedOrders (by decide +kernel) ?_
       refine JR.open (by exact rfl) ?_
       refine jkLd 4 rfl<|jkMove rfl ?_
       have⟨j52,h⟩:=aH h
       refine aN rfl .nil .nil (Ft rfl rfl j52) aD.z<|bL 3 rfl rfl<|aB (Oj rfl rfl) rfl<|eJ 4 rfl rfl rfl rfl rfl rfl<|dY<|Ag<|vN (i:=2) rfl<|aB (oD rfl) rfl<|dtN<|wE rfl<|cU<|inT ?_
       exact cF (Fy .u32 a40.2 (wJ .u32 (1:Int) a29.1)) () h SF (aK.ix [2,3,4,5,6,7] rfl rfl) (aA.refl _ _)
      refine cU<|Ag<|vN (i:=2) rfl<|aB (oD rfl) rfl<|dtN<|wE rfl<|cU<|inT ?_
      exact cF (a40.2) () h SF (aK.ix [2,3,4,5,6,7] rfl rfl) (aA.refl _ _)
     clear h
     intro a45 b46 h
     unfold jQ at h
     refine aO<|qkAdd rfl<|qkMove rfl<|dtN ?_
     exact xK ((wI .i64 (a40.1+(1:Int))),a45) () h SF rfl
    refine nO<|cX<|cX<|tA<|inT ?_
    exact iJ (a40.2) () h SF rfl
   clear h
   intro a34 b35 h
   unfold mL at h
   refine aO<|qkAdd rfl<|qkMove rfl<|dtN ?_
   exact xK ((wI .i64 (a29.1+(1:Int))),a34) () h SF rfl
  refine nO<|cX<|cX<|tA<|Ff (i:=0) (.inr rfl) rfl (CI.r0 rfl)<|inT ?_
  exact lS (a29.2) (List.cons D23 ([]:List Nat)) rfl h SF (aK.ix [2,3,4,5] rfl rfl) (aA.refl _ _)
 clear h
 intro a14 b15 h
 unfold jO at h
 refine sqR<|qkLdA 2 rfl ?_
 have⟨r16,w17,h⟩:=fE h
 refine aG (aM.callQ Qj (Es fuel v0 v1 z2 r16 w17) rfl (aA.cons (aC.fact 0 rfl) (aA.cons (aC.fact 1 rfl) .nil))) rfl fun x18=>qkMove rfl<|aB (AE rfl rfl) rfl<|qkAsg rfl<|dtN<|sqR<|qkLd 0 rfl<|qkMove rfl<|aB (oY rfl rfl) rfl<|qkMove rfl<|qkLd 1 rfl<|aB (AE rfl rfl) rfl<|qkEql rfl<|qkAsg rfl<|dtN<|aS<|gE (i:=3) (Ds:=(b15)) (.inl rfl) rfl ?_
 cases h
 exact vJ rfl
end Go.Proofs.YtigggfnchamobaaGreatDoor
end
section
section
namespace Go.Proofs.YtigggfnchamobaaGreatDoor
open Go.Sx
theorem EU {R:Type} {step:Int->(Int->Option R)->Option R} {K:Option R} {bad:R} (N:Nat) (p:Nat->Prop)
  (hok:∀(k:Nat) ag,k<N->p k->step k ag=ag ((k:Int)+1)) (hbad:∀(k:Nat) ag,k<N->¬p k->step k ag=some bad) (hend:∀ag,step N ag=K):
  ∀(fuel:Nat),N<fuel->((∀k,k<N->p k)->bG step fuel 0=K)∧(¬(∀k,k<N->p k)->bG step fuel 0=some bad):=by
 intro fuel hf
 have key:∀(d a fuel:Nat),a+d=N->d<fuel->((∀k,a<=k->k<N->p k)->bG step fuel (a:Int)=K)∧(¬(∀k,a<=k->k<N->p k)->bG step fuel (a:Int)=some bad):=by
  intro d
  induction d with
  |zero=>
   intro a fuel ha hf
   obtain rfl:a=N:=by omega
   cases fuel with
   |zero=>omega
   |succ f=>exact⟨fun _=>hend _,fun h=>absurd (fun k h1 h2=>by omega) h⟩
  | succ d ih =>
   intro a fuel ha hf
   cases fuel with
   |zero=>omega
   | succ f =>
    obtain⟨i1,i2⟩:=ih (a+1) f (by omega) (by omega)
    have e:((a+1:Nat):Int)=(a:Int)+1:=by omega
    rw[e]at i1 i2
    by_cases hp:p a
    ·have hs:bG step (f+1) (a:Int)=bG step f ((a:Int)+1):=hok a _ (by omega) hp
     rw[hs]
     refine⟨fun h=>i1 fun k h1 h2=>h k (by omega) h2,fun h=>i2 fun h'=>h fun k h1 h2=> ?_⟩
     by_cases hk:k=a
     ·subst hk;exact hp
     ·exact h' k (by omega) h2
    ·exact⟨fun h=>absurd (h a (Nat.le_refl _) (by omega)) hp,fun _=>hbad a _ (by omega) hp⟩
 obtain⟨h1,h2⟩:=key N 0 fuel (by omega) hf
 exact⟨fun h=>h1 fun k _ hk=>h k hk,fun h=>h2 fun h'=>h fun k hk=>h' k (by omega) hk⟩
abbrev GR:=List Int×List (List (Int×Int))
abbrev row (g:GR) (v:Nat):List (Int×Int):=at' g.2 (v:Int)
abbrev Un (g:GR) (v:Nat):Int:=at' g.1 (v:Int)
abbrev iO (l:List (Int×Int)) (i:Nat):Int×Int:=at' l (i:Int)
def Yo (g:GR):Prop:=g.1.length<=30∧g.2.length<=30∧∀v,v<g.2.length->(row g v).length<=30
def Fj (l:List (Int×Int)) (v n i:Nat):Prop:=(0<=(iO l i).1∧(iO l i).1<=(n:Int) - 1)∧(iO l i).1≠v∧(1<=(iO l i).2∧(iO l i).2<=15)∧∀k,k<i->(iO l k).1≠(iO l i).1
def sA (l:List (Int×Int)) (v n:Nat):Prop:=∀i,i<l.length->Fj l v n i
def zU (l:List (Int×Int)) (u:Int):Int:=match l.findIdx? (fun x=>decide (x.1=u))with
 |some i=>i
 |none=> -1
theorem Kw {l:List (Int×Int)} {u:Int} (i:Nat) (hi:i<l.length) (hu:(iO l i).1=u) (hf:∀k,k<i->(iO l k).1≠u):zU l u=i:=by
 have:l.findIdx? (fun x=>decide (x.1=u))=some i:=by
  rw[List.findIdx?_eq_some_iff_getElem]
  have e:∀k (hk:k<l.length),iO l k=l[k]:=fun k hk=>by rw[iO,jH,List.getD_eq_getElem?_getD,List.getElem?_eq_getElem hk];rfl
  refine⟨hi,by rw[<-e i hi];simpa using hu,fun k hk=> ?_⟩
  have:=hf k hk
  rw[e k (by omega)]at this
  simpa using this
 rw[zU,this]
theorem Kv {l:List (Int×Int)} {u:Int} (hf:∀k,k<l.length->(iO l k).1≠u):zU l u = -1:=by
 have:l.findIdx? (fun x=>decide (x.1=u))=none:=by
  rw[List.findIdx?_eq_none_iff]
  intro x hx
  obtain⟨k,hk,rfl⟩:=List.getElem_of_mem hx
  have:=hf k hk
  rw[iO,jH,List.getD_eq_getElem?_getD,List.getElem?_eq_getElem hk]at this
  simpa using this
 rw[zU,this]
theorem IV (l:List (Int×Int)) (u:Int):(∃i,i<l.length∧(iO l i).1=u∧(∀k,k<i->(iO l k).1≠u)∧zU l u=i)∨((∀k,k<l.length->(iO l k).1≠u)∧zU l u = -1):=by
 by_cases h:∀k,k<l.length->(iO l k).1≠u
 ·exact .inr ⟨h,Kv h⟩
 ·left
  have hex:∃k,k<l.length∧(iO l k).1=u:=by
   apply Classical.byContradiction
   intro hc
   exact h fun k hk he=>hc ⟨k,hk,he⟩
  obtain⟨k,hk,hku⟩:=hex
  have:∀m,(∃k,k<=m∧k<l.length∧(iO l k).1=u)->∃i,i<l.length∧(iO l i).1=u∧∀k,k<i->(iO l k).1≠u:=by
   intro m
   induction m with
   |zero=>rintro⟨k,h1,h2,h3⟩;exact⟨k,h2,h3,fun j hj=>by omega⟩
   |succ m ih=>
    rintro⟨k,h1,h2,h3⟩
    by_cases hlt:∃j,j<=m∧j<l.length∧(iO l j).1=u
    ·exact ih hlt
    ·exact⟨k,h2,h3,fun j hj he=>hlt ⟨j,by omega,by omega,he⟩⟩
  obtain⟨i,h1,h2,h3⟩:=this k ⟨k,Nat.le_refl _,hk,hku⟩
  exact⟨i,h1,h2,h3,Kw i h1 h2 h3⟩
end Go.Proofs.YtigggfnchamobaaGreatDoor
end
section
namespace Go.Proofs.YtigggfnchamobaaGreatDoor
open Go.Sx
theorem CV {X R:Type} {step:X->(X->Option R)->Option R} {K:X->Option R} {bad:R} (N:Nat) (p:Nat->Prop) (I:Nat->X->Prop)
  (hok:∀(k:Nat) x ag,k<N->I k x->p k->∃x',I (k+1) x'∧step x ag=ag x') (hbad:∀(k:Nat) x ag,k<N->I k x->¬p k->step x ag=some bad) (hend:∀x ag,I N x->step x ag=K x):
  ∀(fuel:Nat) (x:X),I 0 x->N<fuel->((∀k,k<N->p k)->∃x',I N x'∧bG step fuel x=K x')∧(¬(∀k,k<N->p k)->bG step fuel x=some bad):=by
 intro fuel x hI hf
 have key:∀(d a fuel:Nat) (x:X),a+d=N->d<fuel->I a x->((∀k,a<=k->k<N->p k)->∃x',I N x'∧bG step fuel x=K x')∧(¬(∀k,a<=k->k<N->p k)->bG step fuel x=some bad):=by
  intro d
  induction d with
  |zero=>
   intro a fuel x ha hf hI
   obtain rfl:a=N:=by omega
   cases fuel with
   |zero=>omega
   |succ f=>exact⟨fun _=>⟨x,hI,hend _ _ hI⟩,fun h=>absurd (fun k h1 h2=>by omega) h⟩
  | succ d ih =>
   intro a fuel x ha hf hI
   cases fuel with
   |zero=>omega
   | succ f =>
    by_cases hp:p a
    ·obtain⟨x',hI',hs⟩:=hok a x (bG step f) (by omega) hI hp
     have hs:bG step (f+1) x=bG step f x':=hs
     obtain⟨i1,i2⟩:=ih (a+1) f x' (by omega) (by omega) hI'
     rw[hs]
     refine⟨fun h=>i1 fun k h1 h2=>h k (by omega) h2,fun h=>i2 fun h'=>h fun k h1 h2=> ?_⟩
     by_cases hk:k=a
     ·subst hk;exact hp
     ·exact h' k (by omega) h2
    ·exact⟨fun h=>absurd (h a (Nat.le_refl _) (by omega)) hp,fun _=>hbad a x _ (by omega) hI hp⟩
 obtain⟨h1,h2⟩:=key N 0 fuel x (by omega) hf hI
 exact⟨fun h=>h1 fun k _ hk=>h k hk,fun h=>h2 fun h'=>h fun k hk=>h' k (by omega) hk⟩
def Hk (g:GR) (v i:Nat):Prop:=∃j,j<(at' g.2 (iO (row g v) i).1).length∧(iO (at' g.2 (iO (row g v) i).1) j).1=v∧(iO (at' g.2 (iO (row g v) i).1) j).2=(iO (row g v) i).2
structure Vy (g:GR) (v:Nat):Prop where
 id:0<=Un g v∧Un g v<=255
 deg:(row g v).length<g.2.length
 links:sA (row g v) v g.2.length
 ids:∀k,k<v->Un g k≠Un g v
structure VG (g:GR):Prop where
 n1:1<=g.2.length
 n24:g.2.length<=24
 len:g.1.length=g.2.length
 node:∀v,v<g.2.length->Vy g v
 sym:∀v,v<g.2.length->∀i,i<(row g v).length->Hk g v i
theorem AI {α:Type} [Inhabited α] (l:List α) (i k:Nat) (y:α) (hi:i<l.length):at' (l.set i y) (k:Int)=if k=i then y else at' l (k:Int):=by
 rw[jH,jH,List.getD_eq_getElem?_getD,List.getD_eq_getElem?_getD,List.getElem?_set]
 by_cases h:i=k
 ·rw[if_pos h,if_pos h.symm,if_pos (by omega)];rfl
 ·rw[if_neg h,if_neg (Ne.symm h)]
def Pu (l:List Int) (k:Nat):Prop:=(0<=at' l (k:Int)∧at' l (k:Int)<=255)∧∀j,j<k->at' l (j:Int)≠at' l (k:Int)
theorem sD (l:List Int) (hl:l.length<=30):((∀k,k<l.length->Pu l k)->hZ 1000 l=some true)∧(¬(∀k,k<l.length->Pu l k)->hZ 1000 l=some false):=by
 unfold hZ
 have key:=CV (step:=eC l) (K:=fun _=>some true) (bad:=false) l.length (Pu l) (fun k x=>x.1=(k:Int)∧x.2.length=256∧∀z:Nat,z<256->(at' x.2 (z:Int)=true↔∃j,j<k∧at' l (j:Int)=(z:Int))) ?_ ?_ ?_ 1000 ((0:Int),(List.replicate 256 false)) ⟨rfl,List.length_replicate ..,fun z hz=> ?_⟩ (by omega)
 ·exact⟨fun h=>by obtain⟨x,_,hx⟩:=key.1 h;exact hx,key.2⟩
 ·rintro k ⟨x1,x2⟩ ag hk ⟨hx,hlen,hs⟩ ⟨hr,hd⟩
  dsimp only at hx hlen hs
  subst hx
  obtain⟨z,hz⟩:∃z:Nat,at' l (k:Int)=z:=⟨(at' l (k:Int)).toNat,by omega⟩
  have hz2:z<256:=by omega
  have hno:¬at' x2 (z:Int)=true:=by
   rw[hs z hz2]
   rintro⟨j,hj,he⟩
   exact hd j hj (he.trans hz.symm)
  refine⟨((k:Int)+1,x2.set z true),⟨by simp,by simp[hlen],fun y hy=> ?_⟩,?_⟩
  ·dsimp only
   rw[AI _ _ _ _ (by omega)]
   by_cases hyz:y=z
   ·subst hyz
    rw[if_pos rfl]
    exact⟨fun _=>⟨k,by omega,hz⟩,fun _=>rfl⟩
   ·rw[if_neg hyz,hs y hy]
    constructor
    ·rintro⟨j,hj,he⟩;exact⟨j,by omega,he⟩
    ·rintro⟨j,hj,he⟩
     by_cases hjk:j=k
     ·subst hjk;rw[hz]at he;omega
     ·exact⟨j,by omega,he⟩
  ·unfold eC eZ
   dsimp only
   rw[if_pos (by omega),dK (by omega),hz,if_neg (by omega),if_neg (by omega),dK ⟨by omega,hlen⟩,if_neg hno,dK ⟨by omega,hlen⟩,wr (by omega) (by omega)]
   rfl
 ·rintro k ⟨x1,x2⟩ ag hk ⟨hx,hlen,hs⟩ hp
  dsimp only at hx hlen hs
  subst hx
  unfold eC eZ
  dsimp only
  rw[if_pos (by omega),dK (by omega)]
  by_cases h1:at' l (k:Int)<0
  ·rw[if_pos h1,if_pos rfl]
  rw[if_neg h1]
  by_cases h2:255<at' l (k:Int)
  ·rw[if_pos h2,if_pos rfl]
  rw[if_neg h2]
  obtain⟨z,hz⟩:∃z:Nat,at' l (k:Int)=z:=⟨(at' l (k:Int)).toNat,by omega⟩
  rw[hz,dK ⟨by omega,hlen⟩,if_pos]
  rw[hs z (by omega)]
  apply Classical.byContradiction
  intro hc
  exact hp ⟨by omega,fun j hj he=>hc ⟨j,hj,he.trans hz⟩⟩
 ·rintro⟨x1,x2⟩ ag ⟨hx,_,_⟩
  dsimp only at hx
  subst hx
  unfold eC lY
  dsimp only
  rw[if_neg (by omega)]
 ·rw[show at' (List.replicate 256 false) (z:Int)=false by rw[jH,List.getD_eq_getElem?_getD,List.getElem?_replicate,if_pos hz];rfl]
  exact⟨fun h=>(by cases h),fun⟨j,hj,_⟩=>(by omega)⟩
theorem OT {κ ν:Type} [DecidableEq κ] (k k':κ) (v:ν):∀l:List (κ×ν),k_ k' (zT k v l)=if k'=k then some v else k_ k' l
 | []=>by simp only[zT,k_]
 | x :: xs => by
  simp only[zT]
  by_cases h:k=x.1
  ·rw[if_pos h];simp only[k_]
   by_cases h2:k'=k
   ·rw[if_pos h2,if_pos h2]
   ·rw[if_neg h2,if_neg h2,if_neg (fun h3=>h2 (h3.trans h.symm))]
  ·rw[if_neg h];simp only[k_]
   by_cases h2:k'=x.1
   ·rw[if_pos h2,if_neg (fun h3=>h (h3.symm.trans h2)),if_pos h2]
   ·rw[if_neg h2,OT k k' v xs]
    by_cases h3:k'=k
    ·rw[if_pos h3,if_pos h3]
    ·rw[if_neg h3,if_neg h3,if_neg h2]
theorem Kj {κ ν:Type} [DecidableEq κ] {k:κ} {v:ν} {z:κ×ν} {l:List (κ×ν)} (h0:k_ k l=none):z∈zT k v l↔z=(k,v)∨z∈l:=by
 rw[DT k v l h0]
 simp[or_comm]
theorem DR {κ ν:Type} [DecidableEq κ] {k:κ}:∀{l:List (κ×ν)},(∀v,(k,v)∉l)->k_ k l=none
 | [],_=>rfl
 |x::xs,h=>by
  simp only[k_]
  rw[if_neg (fun e=>h x.2 (by rw[e];exact List.mem_cons_self ..))]
  exact DR fun v hv=>h v (List.mem_cons_of_mem _ hv)
theorem rV {κ ν:Type} [DecidableEq κ] {k:κ} {v:ν}:∀{l:List (κ×ν)},k_ k l=none->(k,v)∉l
 | [],_=>by simp
 | x :: xs, h => by
  simp only[k_]at h
  by_cases e:k=x.1
  ·rw[if_pos e]at h;cases h
  ·rw[if_neg e]at h
   intro hm
   rcases List.mem_cons.1 hm with h2|h2
   ·exact e (by rw[<-h2])
   ·exact rV h h2
theorem yX {κ ν:Type} [DecidableEq κ] {k:κ} {v:ν}:∀{l:List (κ×ν)},k_ k l=some v->(k,v)∈l
 |x::xs,h=>by
  simp only[k_]at h
  by_cases e:k=x.1
  ·rw[if_pos e]at h;cases h;rw[e];exact List.mem_cons_self ..
  ·rw[if_neg e]at h;exact List.mem_cons_of_mem _ (yX h)
theorem Gp {κ ν:Type} (p:κ×ν->Prop) [DecidablePred p]:∀l:List (κ×ν),GU (fun kv x=>if p kv then some false else x) (some true) l=some (decide (∀z∈l,¬p z))
 | []=>by simp[GU]
 |x::xs=>by
  show(if p x then some false else GU _ (some true) xs)=_
  rw[Gp p xs]
  by_cases h:p x
  ·rw[if_pos h];congr 1;symm;exact decide_eq_false fun h2=>h2 x (List.mem_cons_self ..) h
  ·rw[if_neg h];congr 1;apply decide_eq_decide.2;simp[h]
def JB (ps:List (List (Int×Int))) (v i:Nat) (z:(Int×Int)×Int):Prop:=∃a b:Nat,(a<v∨(a=v∧b<i))∧b<(at' ps (a:Int)).length∧z=(((a:Int),(iO (at' ps (a:Int)) b).1),(iO (at' ps (a:Int)) b).2)
def Hl (ps:List (List (Int×Int))):Prop:=(∀v,v<ps.length->sA (at' ps (v:Int)) v ps.length)∧∀v,v<ps.length->∀i,i<(at' ps (v:Int)).length->Hk ([],ps) v i
theorem Df (ps:List (List (Int×Int))) (hn:ps.length<=30) (hd:∀v,v<ps.length->(at' ps (v:Int)).length<=30):(Hl ps->fG 1000 ps=some true)∧(¬Hl ps->fG 1000 ps=some false):=by
 unfold fG
 have inner:∀(v:Nat) (m:List ((Int×Int)×Int)) ag,v<ps.length->(∀z,z∈m↔JB ps v 0 z)->
   (sA (at' ps (v:Int)) v ps.length->∃m',(∀z,z∈m'↔JB ps (v+1) 0 z)∧bG (bV ps ((v:Int),m) ag) 1000 ((0:Int),m)=ag ((v:Int)+1,m'))∧
   (¬sA (at' ps (v:Int)) v ps.length->bG (bV ps ((v:Int),m) ag) 1000 ((0:Int),m)=some false):=by
  intro v m ag hv hm
  have hdv:=hd v hv
  have key:=CV (step:=bV ps ((v:Int),m) ag) (K:=fun x=>ag ((v:Int)+1,x.2)) (bad:=false) (at' ps (v:Int)).length (Fj (at' ps (v:Int)) v ps.length) (fun i x=>x.1=(i:Int)∧∀z,z∈x.2↔JB ps v i z) ?_ ?_ ?_ 1000 ((0:Int),m) ⟨rfl,hm⟩ (by omega)
  ·refine⟨fun h=> ?_,fun h=>key.2 h⟩
   obtain⟨x,⟨hx1,hx2⟩,hx⟩:=key.1 h
   refine⟨x.2,fun z=>(hx2 z).trans ⟨?_,?_⟩,hx⟩
   ·rintro⟨a,b,h1,h2,h3⟩;exact⟨a,b,by omega,h2,h3⟩
   ·rintro⟨a,b,h1,h2,h3⟩
    refine⟨a,b,?_,h2,h3⟩
    by_cases ha:a=v
    ·subst ha;exact .inr ⟨rfl,h2⟩
    ·omega
  ·rintro i ⟨x1,x2⟩ ag2 hi ⟨hx,hs⟩ ⟨p1,p2,p3,p4⟩
   dsimp only at hx hs
   subst hx
   have hg:k_ (((v:Int),(iO (at' ps (v:Int)) i).1)) x2=none:=by
    apply DR
    intro w hw
    obtain⟨a,b,h1,h2,h3⟩:=(hs _).1 hw
    simp only[Prod.mk.injEq]at h3
    obtain⟨⟨h4,h5⟩,_⟩:=h3
    have:a=v:=by omega
    subst this
    have hb:b<i:=by omega
    exact p4 b hb h5.symm
   refine⟨((i:Int)+1,zT (((v:Int),(iO (at' ps (v:Int)) i).1)) (iO (at' ps (v:Int)) i).2 x2),⟨by simp,fun z=> ?_⟩,?_⟩
   ·dsimp only
    rw[Kj hg,hs]
    constructor
    ·rintro(rfl|⟨a,b,h1,h2,h3⟩)
     ·exact⟨v,i,.inr ⟨rfl,by omega⟩,hi,rfl⟩
     ·exact⟨a,b,by omega,h2,h3⟩
    ·rintro⟨a,b,h1,h2,h3⟩
     by_cases hab:a=v∧b=i
     ·left;rw[h3,hab.1,hab.2]
     ·right;exact⟨a,b,by omega,h2,h3⟩
   ·replace p1:0<=(at' (at' ps (v:Int)) (i:Int)).1∧(at' (at' ps (v:Int)) (i:Int)).1<=(ps.length:Int) - 1:=p1
    replace p3:1<=(at' (at' ps (v:Int)) (i:Int)).2∧(at' (at' ps (v:Int)) (i:Int)).2<=15:=p3
    unfold bV eR fM
    dsimp only
    rw[if_pos (by omega),dK (by omega),if_neg (by omega),if_neg (by omega),if_neg (by rw[decide_eq_false p2];simp),if_neg (by omega),if_neg (by rw[decide_eq_false (by omega)];simp),hg,if_neg (by simp),wr (by omega) (by omega)]
  ·rintro i ⟨x1,x2⟩ ag2 hi ⟨hx,hs⟩ hp
   dsimp only at hx hs
   subst hx
   unfold bV eR fM
   dsimp only
   rw[if_pos (by omega),dK (by omega)]
   by_cases h1:(iO (at' ps (v:Int)) i).1<0
   ·rw[if_pos h1,if_pos rfl]
   rw[if_neg h1]
   by_cases h2:(ps.length:Int)<=(iO (at' ps (v:Int)) i).1
   ·rw[if_pos h2,if_pos rfl]
   rw[if_neg h2]
   by_cases h3:(iO (at' ps (v:Int)) i).1=v
   ·rw[if_pos (decide_eq_true h3)]
   rw[if_neg (by rw[decide_eq_false h3];simp)]
   by_cases h4:(iO (at' ps (v:Int)) i).2<1
   ·rw[if_pos h4,if_pos rfl]
   rw[if_neg h4]
   by_cases h5:15<(iO (at' ps (v:Int)) i).2
   ·rw[if_pos (decide_eq_true h5)]
   rw[if_neg (by rw[decide_eq_false h5];simp)]
   have:∃k,k<i∧(iO (at' ps (v:Int)) k).1=(iO (at' ps (v:Int)) i).1:=by
    apply Classical.byContradiction
    intro hc
    exact hp ⟨by omega,h3,by omega,fun k hk he=>hc ⟨k,hk,he⟩⟩
   obtain⟨k,hk,he⟩:=this
   have hin:=(hs _).2 ⟨v,k,.inr ⟨rfl,hk⟩,by omega,rfl⟩
   rw[if_pos]
   rw[<-he]
   cases hg:k_ (((v:Int),(iO (at' ps (v:Int)) k).1)) x2 with
   |some w=>rfl
   | none => exact absurd hin (by
     intro hin
     exact rV hg hin)
  ·rintro⟨x1,x2⟩ ag2 ⟨hx,hs⟩
   dsimp only at hx hs
   subst hx
   unfold bV lF
   dsimp only
   rw[if_neg (by omega),wr (by omega) (by omega)]
 have outer:=CV (step:=cB 1000 ps) (K:=fun x=>gQ x.2) (bad:=false) ps.length (fun v=>sA (at' ps (v:Int)) v ps.length) (fun v x=>x.1=(v:Int)∧∀z,z∈x.2↔JB ps v 0 z) ?_ ?_ ?_ 1000 ((0:Int),[]) ⟨rfl,fun z=>⟨fun h=>(by cases h),fun⟨a,b,h1,_⟩=>(by omega)⟩⟩ (by omega)
 rotate_left
 ·rintro v ⟨x1,x2⟩ ag hv ⟨hx,hs⟩ hp
  dsimp only at hx hs
  subst hx
  obtain⟨m',h1,h2⟩:=(inner v x2 ag hv hs).1 hp
  refine⟨((v:Int)+1,m'),⟨by simp,h1⟩,?_⟩
  ·unfold cB
   dsimp only
   rw[if_pos (by omega),dK (by omega)]
   exact h2
 ·rintro v ⟨x1,x2⟩ ag hv ⟨hx,hs⟩ hp
  dsimp only at hx hs
  subst hx
  unfold cB
  dsimp only
  rw[if_pos (by omega),dK (by omega)]
  exact(inner v x2 ag hv hs).2 hp
 ·rintro⟨x1,x2⟩ ag ⟨hx,hs⟩
  dsimp only at hx hs
  subst hx
  unfold cB
  dsimp only
  rw[if_neg (by omega)]
 by_cases hL:∀v,v<ps.length->sA (at' ps (v:Int)) v ps.length
 rotate_left
 ·exact⟨fun h=>absurd h.1 hL,fun _=>outer.2 hL⟩
 obtain⟨⟨x1,x2⟩,⟨hx,hs⟩,he⟩:=outer.1 hL
 rw[he]
 dsimp only at hs ⊢
 have hk:gQ x2=some (decide (∀z∈x2,¬(Option.getD (k_ (z.1.2,z.1.1) x2) (0:Int))≠z.2)):=Gp (fun z:(Int×Int)×Int=>(Option.getD (k_ (z.1.2,z.1.1) x2) (0:Int))≠z.2) x2
 rw[hk]
 have hiff:(∀z∈x2,¬(Option.getD (k_ (z.1.2,z.1.1) x2) (0:Int))≠z.2)↔∀v,v<ps.length->∀i,i<(at' ps (v:Int)).length->Hk ([],ps) v i:=by
  constructor
  ·intro h v hv i hi
   have hw:=(hL v hv i hi).2.2.1
   have hin:=(hs (((v:Int),(iO (at' ps (v:Int)) i).1),(iO (at' ps (v:Int)) i).2)).2 ⟨v,i,.inl hv,hi,rfl⟩
   have h2:=Decidable.not_not.1 (h _ hin)
   dsimp only at h2
   cases hg:k_ ((iO (at' ps (v:Int)) i).1,(v:Int)) x2 with
   |none=>rw[hg]at h2;simp only[Option.getD]at h2;omega
   | some w =>
    rw[hg]at h2;simp only[Option.getD]at h2
    obtain⟨a,b,h3,h4,h5⟩:=(hs _).1 (yX hg)
    simp only[Prod.mk.injEq]at h5
    obtain⟨⟨h6,h7⟩,h8⟩:=h5
    refine⟨b,?_,?_,?_⟩
    ·show b<(at' ps (iO (at' ps (v:Int)) i).1).length
     rw[h6];exact h4
    ·show(iO (at' ps (iO (at' ps (v:Int)) i).1) b).1=v
     rw[h6];exact h7.symm
    ·show(iO (at' ps (iO (at' ps (v:Int)) i).1) b).2=(iO (at' ps (v:Int)) i).2
     rw[h6,<-h8];exact h2
  ·intro h z hz hne
   obtain⟨a,b,h3,h4,rfl⟩:=(hs z).1 hz
   have ha:a<ps.length:=by omega
   apply hne
   obtain⟨j,hj1,hj2,hj3⟩:=h a ha b h4
   have hu:=(hL a ha b h4).1
   obtain⟨u,hu'⟩:∃u:Nat,(iO (at' ps (a:Int)) b).1=u:=⟨(iO (at' ps (a:Int)) b).1.toNat,by omega⟩
   replace hj1:j<(at' ps (iO (at' ps (a:Int)) b).1).length:=hj1
   replace hj2:(iO (at' ps (iO (at' ps (a:Int)) b).1) j).1=a:=hj2
   replace hj3:(iO (at' ps (iO (at' ps (a:Int)) b).1) j).2=(iO (at' ps (a:Int)) b).2:=hj3
   rw[hu']at hj1 hj2 hj3
   have hun:u<ps.length:=by omega
   dsimp only
   rw[hu',<-hj3]
   have hin:=(hs (((u:Int),(iO (at' ps (u:Int)) j).1),(iO (at' ps (u:Int)) j).2)).2 ⟨u,j,.inl hun,hj1,rfl⟩
   rw[hj2]at hin
   cases hg:k_ ((u:Int),(a:Int)) x2 with
   |none=>exact absurd hin (rV hg)
   | some w =>
    obtain⟨a',b',h3',h4',h5⟩:=(hs _).1 (yX hg)
    simp only[Prod.mk.injEq]at h5
    obtain⟨⟨h6,h7⟩,h8⟩:=h5
    have:a'=u:=by omega
    subst this
    have hbj:b'=j:=by
     rcases Nat.lt_trichotomy b' j with hl|hl|hl
     ·exact absurd (h7.symm.trans hj2.symm) ((hL a' hun j hj1).2.2.2 b' hl)
     ·exact hl
     ·exact absurd (hj2.trans h7) ((hL a' hun b' h4').2.2.2 j hl)
    subst hbj
    exact h8
 by_cases hS:∀v,v<ps.length->∀i,i<(at' ps (v:Int)).length->Hk ([],ps) v i
 ·rw[decide_eq_true (hiff.2 hS)]
  exact⟨fun _=>rfl,fun h=>absurd ⟨hL,hS⟩ h⟩
 ·rw[decide_eq_false (fun h=>hS (hiff.1 h))]
  exact⟨fun h=>absurd h.2 hS,fun _=>rfl⟩
theorem IU:∀(N:Nat) (f:Nat->Nat) (k:Nat),(∀i,i<k->f i<N)->(∀i j,i<j->j<k->f i≠f j)->k<=N
 |0,f,k,h,_=>by
  cases k with
  |zero=>omega
  |succ k=>exact absurd (h 0 (by omega)) (by omega)
 | N + 1, f, k, h, hd => by
  by_cases hex:∃a,a<k∧f a=N
  ·obtain⟨a,ha,hfa⟩:=hex
   have:=IU N (fun i=>if i<a then f i else f (i+1)) (k - 1) (fun i hi=>by
    split
    ·have:=h i (by omega);have:=hd i a (by omega) ha;omega
    ·have:=h (i+1) (by omega);have:=hd a (i+1) (by omega) (by omega);omega) (fun i j hij hj=>by
    split<;>split
    ·exact hd i j hij (by omega)
    ·exact hd i (j+1) (by omega) (by omega)
    ·omega
    ·exact hd (i+1) (j+1) (by omega) (by omega))
   omega
  ·have:=IU N f k (fun i hi=>by
    have:=h i hi
    have:f i≠N:=fun e=>hex ⟨i,hi,e⟩
    omega) hd
   omega
theorem LM {l:List (Int×Int)} {v n:Nat} (hv:v<n) (h:sA l v n):l.length<n:=by
 have:=IU n (fun i=>if i=l.length then v else(iO l i).1.toNat) (l.length+1) (fun i hi=>by
  split
  ·exact hv
  ·have:=(h i (by omega)).1;omega) (fun i j hij hj=>by
  rw[if_neg (by omega)]
  have h1:=(h i (by omega)).1
  split
  ·have:=(h i (by omega)).2.1;omega
  ·have h2:=(h j (by omega)).1
   have:=(h j (by omega)).2.2.2 i hij
   omega)
 omega
theorem YH (g:GR) (hl:Yo g):(VG g->eI 1000 g=some true)∧(¬VG g->eI 1000 g=some false):=by
 obtain⟨l1,l2,l3⟩:=hl
 unfold eI lE nZ
 by_cases h1:g.1.length<1
 ·rw[if_pos (by omega)]
  exact⟨fun h=>by have:=h.n1;have:=h.len;omega,fun _=>rfl⟩
 rw[if_neg (by omega)]
 by_cases h2:24<g.1.length
 ·rw[if_pos (by omega)]
  exact⟨fun h=>by have:=h.n24;have:=h.len;omega,fun _=>rfl⟩
 rw[if_neg (by omega)]
 by_cases h3:g.1.length=g.2.length
 rotate_left
 ·rw[decide_eq_true (by omega)]
  exact⟨fun h=>absurd h.len h3,fun _=>rfl⟩
 rw[decide_eq_false (by omega),if_neg (by simp)]
 by_cases h4:∀k,k<g.1.length->Pu g.1 k
 rotate_left
 ·rw[(sD g.1 l1).2 h4,bH rfl]
  exact⟨fun h=>absurd (fun k hk=>⟨(h.node k (by omega)).id,(h.node k (by omega)).ids⟩) h4,fun _=>rfl⟩
 rw[(sD g.1 l1).1 h4,bH rfl,if_pos rfl]
 by_cases h5:Hl g.2
 ·rw[(Df g.2 l2 l3).1 h5]
  exact⟨fun _=>rfl,fun h=>absurd ⟨by omega,by omega,h3,fun v hv=>⟨(h4 v (by omega)).1,LM hv (h5.1 v hv),h5.1 v hv,(h4 v (by omega)).2⟩,h5.2⟩ h⟩
 ·rw[(Df g.2 l2 l3).2 h5]
  exact⟨fun h=>absurd ⟨fun v hv=>(h.node v hv).links,h.sym⟩ h5,fun _=>rfl⟩
end Go.Proofs.YtigggfnchamobaaGreatDoor
end
section
namespace Go.Proofs.YtigggfnchamobaaGreatDoor
open Go.Sx
abbrev D (d:List Int) (v:Nat):Int:=at' d (v:Int)
def Ia (g:GR) (v u:Nat):Prop:=∃i,i<(row g v).length∧(iO (row g v) i).1=(u:Int)
theorem VG.port {g:GR} (h:VG g) {v i:Nat} (hv:v<g.2.length) (hi:i<(row g v).length):∃u:Nat,u<g.2.length∧(iO (row g v) i).1=(u:Int)∧Ia g v u:=by
 have hu:=((h.node v hv).links i hi).1
 exact⟨(iO (row g v) i).1.toNat,by omega,by omega,i,hi,by omega⟩
theorem VG.back {g:GR} (h:VG g) {v u:Nat} (hv:v<g.2.length) (ha:Ia g v u):Ia g u v:=by
 obtain⟨i,hi,hu⟩:=ha
 obtain⟨j,hj,hjv,_⟩:=h.sym v hv i hi
 rw[hu]at hj hjv
 exact⟨j,hj,hjv⟩
def TV (d:List Int):Nat:=d.countP fun x=>decide (x<0)
structure XF (g:GR) (s:Nat) (d:List Int):Prop where
 len:d.length=g.2.length
 lo:∀v,v<g.2.length -> -1<=D d v
 zero:∀v,v<g.2.length->(D d v=0↔v=s)
 near:∀v,v<g.2.length->0<D d v->∃u,u<g.2.length∧Ia g v u∧D d u=D d v - 1
 hi:∀v,v<g.2.length->D d v+(TV d:Int)<=(g.2.length:Int)
structure Qu (g:GR) (q d:List Int) (b:Int) (done:Nat->Prop):Prop where
 mem:∀y∈q,∃v,v<g.2.length∧y=((v:Nat):Int)∧0<=D d v
 top:∀v,v<g.2.length->D d v<=b
 sort:q.Pairwise fun a c=>at' d a<=at' d c
 done:∀v,v<g.2.length->0<=D d v->((v:Nat):Int)∉q->done v->∀u,u<g.2.length->Ia g v u->0<=D d u∧D d u<=D d v+1
theorem He {d:List Int} {v:Nat} (h:v<d.length):D d v=d[v]:=by
 rw[D,jH,List.getD_eq_getElem?_getD,List.getElem?_eq_getElem h];rfl
theorem Qx {d:List Int} {u:Nat} {x:Int} (hu:u<d.length) (hn:D d u<0) (hx:0<=x):TV (d.set u x)+1=TV d:=by
 unfold TV
 rw[List.countP_set hu]
 have hp:0<d.countP fun x=>decide (x<0):=by
  rw[List.countP_pos_iff]
  exact⟨d[u],List.getElem_mem hu,by rw[<-He hu];simpa using hn⟩
 rw[He hu]at hn
 rw[if_pos (by simpa using hn),if_neg (by simp;omega)]
 omega
theorem assign {g:GR} {s:Nat} {q d:List Int} {b:Int} {done:Nat->Prop} (hV:VG g) (hC:XF g s d) {x u:Nat} (hQ:Qu g q d (D d x+1) done) (hx:x<g.2.length) (hx0:0<=D d x) (hu:u<g.2.length) (hun:D d u<0) (ha:Ia g x u):
  XF g s (d.set u (D d x+1))∧Qu g (q++[(u:Int)]) (d.set u (D d x+1)) (D d x+1) done:=by
 have hlen:=hC.len
 have hat:∀v,D (d.set u (D d x+1)) v=if v=u then D d x+1 else D d v:=fun v=>AI _ _ _ _ (by omega)
 have hcn:=Qx (x:=D d x+1) (by omega:u<d.length) hun (by omega)
 refine⟨⟨by simp[hlen],fun v hv=> ?_,fun v hv=> ?_,fun v hv=> ?_,fun v hv=> ?_⟩,⟨fun y hy=> ?_,fun v hv=> ?_,?_,fun v hv h0 hq hd w hw hadj=> ?_⟩⟩
 ·rw[hat];split
  ·omega
  ·exact hC.lo v hv
 ·rw[hat];split
  ·rename_i h;subst h
   have:=(hC.zero v hv)
   constructor
   ·intro;omega
   ·intro h;have:=this.2 h;omega
  ·exact hC.zero v hv
 ·rw[hat];split
  ·rename_i h;subst h
   intro _
   refine⟨x,hx,hV.back hx ha,?_⟩
   rw[hat,if_neg (by intro h;subst h;omega)];omega
  ·intro h0
   obtain⟨w,hw,hadj,he⟩:=hC.near v hv h0
   refine⟨w,hw,hadj,?_⟩
   rw[hat,if_neg (by intro h;subst h;omega)];exact he
 ·rw[hat];split
  ·have:=hC.hi x hx;omega
  ·have:=hC.hi v hv;omega
 ·rcases List.mem_append.1 hy with hy|hy
  ·obtain⟨v,hv,rfl,h0⟩:=hQ.mem y hy
   refine⟨v,hv,rfl,?_⟩
   rw[hat];split<;>omega
  ·simp only[List.mem_singleton]at hy
   refine⟨u,hu,hy,?_⟩
   rw[hat,if_pos rfl];omega
 ·rw[hat];split
  ·omega
  ·exact hQ.top v hv
 ·rw[List.pairwise_append]
  have hq:∀y∈q,at' (d.set u (D d x+1)) y=at' d y:=by
   intro y hy
   obtain⟨v,hv,rfl,h0⟩:=hQ.mem y hy
   have:=hat v
   rw[if_neg (by intro h;subst h;omega)]at this
   exact this
  refine⟨hQ.sort.imp_of_mem fun {a c} h1 h2 h=> ?_,List.pairwise_singleton ..,fun y hy z hz=> ?_⟩
  ·rw[hq a h1,hq c h2];exact h
  ·simp only[List.mem_singleton]at hz
   subst hz
   rw[hq y hy]
   have h2:=hat u
   rw[if_pos rfl]at h2
   obtain⟨v,hv,rfl,h0⟩:=hQ.mem y hy
   have:=hQ.top v hv
   show D d v<=D (d.set u (D d x+1)) u
   omega
 ·have hvu:v≠u:=by
   rintro rfl
   exact hq (by simp)
  rw[hat,if_neg hvu]at h0
  rw[hat v,if_neg hvu]
  have:=hQ.done v hv h0 (fun h=>hq (List.mem_append_left _ h)) hd w hw hadj
  rw[hat w,if_neg (by rintro rfl;omega)]
  exact this
end Go.Proofs.YtigggfnchamobaaGreatDoor
end
section
namespace Go.Proofs.YtigggfnchamobaaGreatDoor
open Go.Sx
end Go.Proofs.YtigggfnchamobaaGreatDoor
end
section
namespace Go.Proofs.YtigggfnchamobaaGreatDoor
open Go.Sx
end Go.Proofs.YtigggfnchamobaaGreatDoor
end
section
namespace Go.Proofs.YtigggfnchamobaaGreatDoor
open Go.Sx
end Go.Proofs.YtigggfnchamobaaGreatDoor
end
section
namespace Go.Proofs.YtigggfnchamobaaGreatDoor
open Go.Sx
theorem OY (g:GR) (v:Nat) (u:Int) (hv:v<g.2.length) (hl:(row g v).length<=30):n_ 1000 g v u=some (zU (row g v) u):=by
 unfold n_
 rw[dK (by omega)]
 rcases IV (row g v) u with⟨i,hi,hu,hf,he⟩|⟨hf,he⟩
 ·rw[he]
  refine IG (fun x:Int=>∃k:Nat,x=k∧k<=i) (fun x=>31 - x.toNat) ?_ 1000 _ ⟨0,rfl,by omega⟩ (by omega)
  rintro x ag ⟨k,rfl,hk⟩ hag
  unfold pC
  rw[if_pos (show(k:Int)<((row g v).length:Int) by omega),dK (show 0<=(k:Int)∧(k:Int)<((row g v).length:Int) by omega)]
  by_cases e:k=i
  ·subst e;exact if_pos hu
  ·rw[if_neg (hf k (by omega)),wr (by omega) (by omega)]
   exact hag _ ⟨k+1,by omega,by omega⟩ (by omega)
 ·rw[he]
  refine IG (fun x:Int=>∃k:Nat,x=k∧k<=(row g v).length) (fun x=>31 - x.toNat) ?_ 1000 _ ⟨0,rfl,by omega⟩ (by omega)
  rintro x ag ⟨k,rfl,hk⟩ hag
  unfold pC
  by_cases e:k<(row g v).length
  ·rw[if_pos (show(k:Int)<((row g v).length:Int) by omega),dK (show 0<=(k:Int)∧(k:Int)<((row g v).length:Int) by omega),if_neg (hf k e),wr (by omega) (by omega)]
   exact hag _ ⟨k+1,by omega,by omega⟩ (by omega)
  ·rw[if_neg (show¬(k:Int)<((row g v).length:Int) by omega)];rfl
end Go.Proofs.YtigggfnchamobaaGreatDoor
end
section
namespace Go.Proofs.YtigggfnchamobaaGreatDoor
open Go.Sx
def aaI (f:Nat->Nat):Nat->Nat
 |0=>0
 |k+1=>aaI f k+f k
open Classical in
noncomputable def ind (p:Prop):Nat:=if p then 1 else 0
end Go.Proofs.YtigggfnchamobaaGreatDoor
end
section
namespace Go.Proofs.YtigggfnchamobaaGreatDoor
open Go.Sx
theorem HZ (a:Nat) (h:a<4294967296):IntKind.u32.wrap (a:Int)=a:=by rw[<-BY];exact if_pos ⟨by omega,by omega⟩
def MJ (x:Int):Nat:=(BitVec.ofInt 32 x).toNat
theorem Ii (x:Int):MJ x<4294967296:=(BitVec.ofInt 32 x).isLt
theorem sB {a:Nat} (h:a<4294967296):MJ (a:Int)=a:=by
 unfold MJ;rw[BitVec.ofInt_natCast,BitVec.toNat_ofNat];exact Nat.mod_eq_of_lt h
theorem EJ (x y:Int):c_ .u32 x y=((MJ x &&& MJ y:Nat):Int):=by
 show IntKind.u32.wrap (((BitVec.ofInt 32 x &&& BitVec.ofInt 32 y).toNat:Nat):Int)=_
 rw[BitVec.toNat_and]
 exact HZ _ (Nat.lt_of_le_of_lt Nat.and_le_left (Ii x))
theorem VI (x y:Int):Fy .u32 x y=((MJ x ||| MJ y:Nat):Int):=by
 show IntKind.u32.wrap (((BitVec.ofInt 32 x ||| BitVec.ofInt 32 y).toNat:Nat):Int)=_
 rw[BitVec.toNat_or]
 exact HZ _ (Nat.or_lt_two_pow (n:=32) (Ii x) (Ii y))
theorem BR {k:Nat} (hk:k<32):2^k<4294967296:=Nat.pow_lt_pow_right (n:=32) (by omega) hk
theorem Va {k:Nat} (hk:k<32):wJ .u32 1 (k:Int)=((2^k:Nat):Int):=by
 show IntKind.u32.wrap (1*2^(min ((k:Int).toNat) 32))=_
 rw[Int.toNat_natCast,Nat.min_eq_left (by omega),Int.one_mul,show(2:Int)^k=((2^k:Nat):Int) by simp]
 exact HZ _ (BR hk)
theorem Ir {a k:Nat} (hk:k<32):oZ .u32 (a:Int) (k:Int)=((a / 2^k:Nat):Int):=by
 show Int.fdiv (a:Int) (2^(min ((k:Int).toNat) 32))=_
 rw[Int.toNat_natCast,Nat.min_eq_left (by omega),show(2:Int)^k=((2^k:Nat):Int) by simp,Int.fdiv_eq_ediv_of_nonneg _ (Int.natCast_nonneg _)]
 simp
theorem F_ {a k:Nat} (hk:k<32) (ha:a<4294967296):c_ .u32 (oZ .u32 (a:Int) (k:Int)) 1=1↔a.testBit k=true:=by
 have h1:MJ 1=1:=sB (a:=1) (by omega)
 rw[Ir hk,EJ,sB (Nat.lt_of_le_of_lt (Nat.div_le_self _ _) ha),h1,Nat.and_one_is_mod,Nat.testBit_eq_decide_div_mod_eq,decide_eq_true_eq]
 omega
def Fe (g:GR) (s:Nat):Prop:=(∀v,s.testBit v=true->v<g.2.length)∧∀v u,s.testBit v=true->s.testBit u=true->¬Ia g v u
theorem P_ {g:GR} (hV:VG g):qL 1000 g=some ((2^g.2.length - 1:Nat):Int):=by
 have h24:=hV.n24
 have hl:=hV.len
 have hp:=BR (show g.2.length<32 by omega)
 have hpos:1<=2^g.2.length:=Nat.one_le_two_pow
 unfold qL
 rw[dK (by omega),hl,Va (by omega),show((2^g.2.length:Nat):Int) - 1=((2^g.2.length - 1:Nat):Int) by omega]
 congr 1
 exact if_pos ⟨by omega,by omega⟩
theorem aaK {k:Nat} (hk:k<32):wI .u64 (k:Int)=k:=by
 show IntKind.u64.wrap (k:Int)=k
 have:∀j:Fin 32,IntKind.u64.wrap ((j.1:Nat):Int)=(j.1:Nat):=by decide
 exact this ⟨k,hk⟩
end Go.Proofs.YtigggfnchamobaaGreatDoor
end
section
namespace Go.Proofs.YtigggfnchamobaaGreatDoor
open Go.Sx
def T (e:List Int) (k v w:Nat):Int:=if 0<=D e w∧(D e w<k∨(D e w=k∧w<v))then D e w else -1
end Go.Proofs.YtigggfnchamobaaGreatDoor
end
section
namespace Go.Proofs.YtigggfnchamobaaGreatDoor
open Go.Sx
end Go.Proofs.YtigggfnchamobaaGreatDoor
end
section
namespace Go.Proofs.YtigggfnchamobaaGreatDoor
open Go.Sx
theorem Ra {X R:Type} {step:X->(X->Option R)->Option R} {K:X->Option R} {bad:R} (N:Nat) (p:Nat->Prop) (I:Nat->X->Prop) (B:Nat)
  (hok:∀(k:Nat) x ag,k<N->k<B->I k x->p k->∃x',I (k+1) x'∧step x ag=ag x') (hbad:∀(k:Nat) x ag,k<N->k<B->I k x->¬p k->step x ag=some bad) (hend:∀x ag,I N x->N<B->step x ag=K x):
  ∀(fuel:Nat) (x:X),I 0 x->B<=fuel->(N<B∨∃k,k<N∧k<B∧¬p k)->((∀k,k<N->p k)->∃x',I N x'∧bG step fuel x=K x')∧(¬(∀k,k<N->p k)->bG step fuel x=some bad):=by
 intro fuel x hI hf hB
 have bads:∀(d a fuel:Nat) (x:X),I a x->a+d<N->a+d<B->¬p (a+d)->d<fuel->bG step fuel x=some bad:=by
  intro d
  induction d with
  |zero=>
   intro a fuel x hI h1 h2 hp hf
   obtain⟨f,rfl⟩:∃f,fuel=f+1:=⟨fuel - 1,by omega⟩
   exact hbad a x _ h1 h2 hI hp
  | succ d ih =>
   intro a fuel x hI h1 h2 hp hf
   obtain⟨f,rfl⟩:∃f,fuel=f+1:=⟨fuel - 1,by omega⟩
   by_cases hpa:p a
   ·obtain⟨x',hI',hs⟩:=hok a x (bG step f) (by omega) (by omega) hI hpa
    have hs:bG step (f+1) x=bG step f x':=hs
    rw[hs]
    exact ih (a+1) f x' hI' (by omega) (by omega) (by rw[show a+1+d=a+(d+1) by omega];exact hp) (by omega)
   ·exact hbad a x _ (by omega) (by omega) hI hpa
 have goods:∀(d a fuel:Nat) (x:X),I a x->a+d=N->N<B->(∀k,a<=k->k<N->p k)->d<fuel->∃x',I N x'∧bG step fuel x=K x':=by
  intro d
  induction d with
  |zero=>
   intro a fuel x hI h1 h2 hp hf
   obtain⟨f,rfl⟩:∃f,fuel=f+1:=⟨fuel - 1,by omega⟩
   obtain rfl:a=N:=by omega
   exact⟨x,hI,hend x _ hI h2⟩
  |succ d ih=>
   intro a fuel x hI h1 h2 hp hf
   obtain⟨f,rfl⟩:∃f,fuel=f+1:=⟨fuel - 1,by omega⟩
   obtain⟨x',hI',hs⟩:=hok a x (bG step f) (by omega) (by omega) hI (hp a (Nat.le_refl _) (by omega))
   have hs:bG step (f+1) x=bG step f x':=hs
   rw[hs]
   exact ih (a+1) f x' hI' (by omega) h2 (fun k h1 h2=>hp k (by omega) h2) (by omega)
 constructor
 ·intro h
  rcases hB with hB|⟨k,h1,_,h2⟩
  ·exact goods N 0 fuel x hI (by omega) hB (fun k _ hk=>h k hk) (by omega)
  ·exact absurd (h k h1) h2
 ·intro h
  have:∃k,k<N∧k<B∧¬p k:=by
   rcases hB with hB|hB
   ·apply Classical.byContradiction
    intro hc
    exact h fun k hk=>Classical.byContradiction fun hp=>hc ⟨k,hk,by omega,hp⟩
   ·exact hB
  obtain⟨k,h1,h2,h3⟩:=this
  exact bads k 0 fuel x hI (by omega) (by omega) (by rw[Nat.zero_add];exact h3) (by omega)
theorem O_ {ps:List (List (Int×Int))} (hn:ps.length<=30) {v:Nat} (hv:v<ps.length):(at' ps (v:Int)).length<1000∨∃k,k<(at' ps (v:Int)).length∧k<1000∧¬Fj (at' ps (v:Int)) v ps.length k:=by
 by_cases h:(at' ps (v:Int)).length<1000
 ·exact .inl h
 ·right
  apply Classical.byContradiction
  intro hc
  have hok:∀k,k<40->Fj (at' ps (v:Int)) v ps.length k:=fun k hk=>Classical.byContradiction fun hp=>hc ⟨k,by omega,by omega,hp⟩
  have:=IU ps.length (fun i=>(iO (at' ps (v:Int)) i).1.toNat) 40 (fun i hi=>by have:=(hok i hi).1;omega) (fun i j hij hj he=>by
   have h1:=(hok i (by omega)).1
   have h2:=(hok j hj).1
   have h3:=(hok j hj).2.2.2 i hij
   exact h3 (by omega))
  omega
theorem BV (ps:List (List (Int×Int))) (hn:ps.length<=30):(Hl ps->fG 1000 ps=some true)∧(¬Hl ps->fG 1000 ps=some false):=by
 unfold fG
 have inner:∀(v:Nat) (m:List ((Int×Int)×Int)) ag,v<ps.length->(∀z,z∈m↔JB ps v 0 z)->
   (sA (at' ps (v:Int)) v ps.length->∃m',(∀z,z∈m'↔JB ps (v+1) 0 z)∧bG (bV ps ((v:Int),m) ag) 1000 ((0:Int),m)=ag ((v:Int)+1,m'))∧
   (¬sA (at' ps (v:Int)) v ps.length->bG (bV ps ((v:Int),m) ag) 1000 ((0:Int),m)=some false):=by
  intro v m ag hv hm
  have hbnd:=O_ hn hv
  have key:=Ra (step:=bV ps ((v:Int),m) ag) (K:=fun x=>ag ((v:Int)+1,x.2)) (bad:=false) (at' ps (v:Int)).length (Fj (at' ps (v:Int)) v ps.length) (fun i x=>x.1=(i:Int)∧∀z,z∈x.2↔JB ps v i z) 1000 ?_ ?_ ?_ 1000 ((0:Int),m) ⟨rfl,hm⟩ (by omega) hbnd
  ·refine⟨fun h=> ?_,fun h=>key.2 h⟩
   obtain⟨x,⟨hx1,hx2⟩,hx⟩:=key.1 h
   refine⟨x.2,fun z=>(hx2 z).trans ⟨?_,?_⟩,hx⟩
   ·rintro⟨a,b,h1,h2,h3⟩;exact⟨a,b,by omega,h2,h3⟩
   ·rintro⟨a,b,h1,h2,h3⟩
    refine⟨a,b,?_,h2,h3⟩
    by_cases ha:a=v
    ·subst ha;exact .inr ⟨rfl,h2⟩
    ·omega
  ·rintro i ⟨x1,x2⟩ ag2 hi hi2 ⟨hx,hs⟩ ⟨p1,p2,p3,p4⟩
   dsimp only at hx hs
   subst hx
   have hg:k_ (((v:Int),(iO (at' ps (v:Int)) i).1)) x2=none:=by
    apply DR
    intro w hw
    obtain⟨a,b,h1,h2,h3⟩:=(hs _).1 hw
    simp only[Prod.mk.injEq]at h3
    obtain⟨⟨h4,h5⟩,_⟩:=h3
    have:a=v:=by omega
    subst this
    have hb:b<i:=by omega
    exact p4 b hb h5.symm
   refine⟨((i:Int)+1,zT (((v:Int),(iO (at' ps (v:Int)) i).1)) (iO (at' ps (v:Int)) i).2 x2),⟨by simp,fun z=> ?_⟩,?_⟩
   ·dsimp only
    rw[Kj hg,hs]
    constructor
    ·rintro(rfl|⟨a,b,h1,h2,h3⟩)
     ·exact⟨v,i,.inr ⟨rfl,by omega⟩,hi,rfl⟩
     ·exact⟨a,b,by omega,h2,h3⟩
    ·rintro⟨a,b,h1,h2,h3⟩
     by_cases hab:a=v∧b=i
     ·left;rw[h3,hab.1,hab.2]
     ·right;exact⟨a,b,by omega,h2,h3⟩
   ·replace p1:0<=(at' (at' ps (v:Int)) (i:Int)).1∧(at' (at' ps (v:Int)) (i:Int)).1<=(ps.length:Int) - 1:=p1
    replace p3:1<=(at' (at' ps (v:Int)) (i:Int)).2∧(at' (at' ps (v:Int)) (i:Int)).2<=15:=p3
    unfold bV eR fM
    dsimp only
    rw[if_pos (by omega),dK (by omega),if_neg (by omega),if_neg (by omega),if_neg (by rw[decide_eq_false p2];simp),if_neg (by omega),if_neg (by rw[decide_eq_false (by omega)];simp),hg,if_neg (by simp),wr (by omega) (by omega)]
  ·rintro i ⟨x1,x2⟩ ag2 hi hi2 ⟨hx,hs⟩ hp
   dsimp only at hx hs
   subst hx
   unfold bV eR fM
   dsimp only
   rw[if_pos (by omega),dK (by omega)]
   by_cases h1:(iO (at' ps (v:Int)) i).1<0
   ·rw[if_pos h1,if_pos rfl]
   rw[if_neg h1]
   by_cases h2:(ps.length:Int)<=(iO (at' ps (v:Int)) i).1
   ·rw[if_pos h2,if_pos rfl]
   rw[if_neg h2]
   by_cases h3:(iO (at' ps (v:Int)) i).1=v
   ·rw[if_pos (decide_eq_true h3)]
   rw[if_neg (by rw[decide_eq_false h3];simp)]
   by_cases h4:(iO (at' ps (v:Int)) i).2<1
   ·rw[if_pos h4,if_pos rfl]
   rw[if_neg h4]
   by_cases h5:15<(iO (at' ps (v:Int)) i).2
   ·rw[if_pos (decide_eq_true h5)]
   rw[if_neg (by rw[decide_eq_false h5];simp)]
   have:∃k,k<i∧(iO (at' ps (v:Int)) k).1=(iO (at' ps (v:Int)) i).1:=by
    apply Classical.byContradiction
    intro hc
    exact hp ⟨by omega,h3,by omega,fun k hk he=>hc ⟨k,hk,he⟩⟩
   obtain⟨k,hk,he⟩:=this
   have hin:=(hs _).2 ⟨v,k,.inr ⟨rfl,hk⟩,by omega,rfl⟩
   rw[if_pos]
   rw[<-he]
   cases hg:k_ (((v:Int),(iO (at' ps (v:Int)) k).1)) x2 with
   |some w=>rfl
   | none => exact absurd hin (by
     intro hin
     exact rV hg hin)
  ·rintro⟨x1,x2⟩ ag2 ⟨hx,hs⟩ _
   dsimp only at hx hs
   subst hx
   unfold bV lF
   dsimp only
   rw[if_neg (by omega),wr (by omega) (by omega)]
 have outer:=CV (step:=cB 1000 ps) (K:=fun x=>gQ x.2) (bad:=false) ps.length (fun v=>sA (at' ps (v:Int)) v ps.length) (fun v x=>x.1=(v:Int)∧∀z,z∈x.2↔JB ps v 0 z) ?_ ?_ ?_ 1000 ((0:Int),[]) ⟨rfl,fun z=>⟨fun h=>(by cases h),fun⟨a,b,h1,_⟩=>(by omega)⟩⟩ (by omega)
 rotate_left
 ·rintro v ⟨x1,x2⟩ ag hv ⟨hx,hs⟩ hp
  dsimp only at hx hs
  subst hx
  obtain⟨m',h1,h2⟩:=(inner v x2 ag hv hs).1 hp
  refine⟨((v:Int)+1,m'),⟨by simp,h1⟩,?_⟩
  ·unfold cB
   dsimp only
   rw[if_pos (by omega),dK (by omega)]
   exact h2
 ·rintro v ⟨x1,x2⟩ ag hv ⟨hx,hs⟩ hp
  dsimp only at hx hs
  subst hx
  unfold cB
  dsimp only
  rw[if_pos (by omega),dK (by omega)]
  exact(inner v x2 ag hv hs).2 hp
 ·rintro⟨x1,x2⟩ ag ⟨hx,hs⟩
  dsimp only at hx hs
  subst hx
  unfold cB
  dsimp only
  rw[if_neg (by omega)]
 by_cases hL:∀v,v<ps.length->sA (at' ps (v:Int)) v ps.length
 rotate_left
 ·exact⟨fun h=>absurd h.1 hL,fun _=>outer.2 hL⟩
 obtain⟨⟨x1,x2⟩,⟨hx,hs⟩,he⟩:=outer.1 hL
 rw[he]
 dsimp only at hs ⊢
 have hk:gQ x2=some (decide (∀z∈x2,¬(Option.getD (k_ (z.1.2,z.1.1) x2) (0:Int))≠z.2)):=Gp (fun z:(Int×Int)×Int=>(Option.getD (k_ (z.1.2,z.1.1) x2) (0:Int))≠z.2) x2
 rw[hk]
 have hiff:(∀z∈x2,¬(Option.getD (k_ (z.1.2,z.1.1) x2) (0:Int))≠z.2)↔∀v,v<ps.length->∀i,i<(at' ps (v:Int)).length->Hk ([],ps) v i:=by
  constructor
  ·intro h v hv i hi
   have hw:=(hL v hv i hi).2.2.1
   have hin:=(hs (((v:Int),(iO (at' ps (v:Int)) i).1),(iO (at' ps (v:Int)) i).2)).2 ⟨v,i,.inl hv,hi,rfl⟩
   have h2:=Decidable.not_not.1 (h _ hin)
   dsimp only at h2
   cases hg:k_ ((iO (at' ps (v:Int)) i).1,(v:Int)) x2 with
   |none=>rw[hg]at h2;simp only[Option.getD]at h2;omega
   | some w =>
    rw[hg]at h2;simp only[Option.getD]at h2
    obtain⟨a,b,h3,h4,h5⟩:=(hs _).1 (yX hg)
    simp only[Prod.mk.injEq]at h5
    obtain⟨⟨h6,h7⟩,h8⟩:=h5
    refine⟨b,?_,?_,?_⟩
    ·show b<(at' ps (iO (at' ps (v:Int)) i).1).length
     rw[h6];exact h4
    ·show(iO (at' ps (iO (at' ps (v:Int)) i).1) b).1=v
     rw[h6];exact h7.symm
    ·show(iO (at' ps (iO (at' ps (v:Int)) i).1) b).2=(iO (at' ps (v:Int)) i).2
     rw[h6,<-h8];exact h2
  ·intro h z hz hne
   obtain⟨a,b,h3,h4,rfl⟩:=(hs z).1 hz
   have ha:a<ps.length:=by omega
   apply hne
   obtain⟨j,hj1,hj2,hj3⟩:=h a ha b h4
   have hu:=(hL a ha b h4).1
   obtain⟨u,hu'⟩:∃u:Nat,(iO (at' ps (a:Int)) b).1=u:=⟨(iO (at' ps (a:Int)) b).1.toNat,by omega⟩
   replace hj1:j<(at' ps (iO (at' ps (a:Int)) b).1).length:=hj1
   replace hj2:(iO (at' ps (iO (at' ps (a:Int)) b).1) j).1=a:=hj2
   replace hj3:(iO (at' ps (iO (at' ps (a:Int)) b).1) j).2=(iO (at' ps (a:Int)) b).2:=hj3
   rw[hu']at hj1 hj2 hj3
   have hun:u<ps.length:=by omega
   dsimp only
   rw[hu',<-hj3]
   have hin:=(hs (((u:Int),(iO (at' ps (u:Int)) j).1),(iO (at' ps (u:Int)) j).2)).2 ⟨u,j,.inl hun,hj1,rfl⟩
   rw[hj2]at hin
   cases hg:k_ ((u:Int),(a:Int)) x2 with
   |none=>exact absurd hin (rV hg)
   | some w =>
    obtain⟨a',b',h3',h4',h5⟩:=(hs _).1 (yX hg)
    simp only[Prod.mk.injEq]at h5
    obtain⟨⟨h6,h7⟩,h8⟩:=h5
    have:a'=u:=by omega
    subst this
    have hbj:b'=j:=by
     rcases Nat.lt_trichotomy b' j with hl|hl|hl
     ·exact absurd (h7.symm.trans hj2.symm) ((hL a' hun j hj1).2.2.2 b' hl)
     ·exact hl
     ·exact absurd (hj2.trans h7) ((hL a' hun b' h4').2.2.2 j hl)
    subst hbj
    exact h8
 by_cases hS:∀v,v<ps.length->∀i,i<(at' ps (v:Int)).length->Hk ([],ps) v i
 ·rw[decide_eq_true (hiff.2 hS)]
  exact⟨fun _=>rfl,fun h=>absurd ⟨hL,hS⟩ h⟩
 ·rw[decide_eq_false (fun h=>hS (hiff.1 h))]
  exact⟨fun h=>absurd h.2 hS,fun _=>rfl⟩
theorem zB (g:GR):(VG g->eI 1000 g=some true)∧(¬VG g->eI 1000 g=some false):=by
 unfold eI lE nZ
 by_cases h1:g.1.length<1
 ·rw[if_pos (by omega)]
  exact⟨fun h=>by have:=h.n1;have:=h.len;omega,fun _=>rfl⟩
 rw[if_neg (by omega)]
 by_cases h2:24<g.1.length
 ·rw[if_pos (by omega)]
  exact⟨fun h=>by have:=h.n24;have:=h.len;omega,fun _=>rfl⟩
 rw[if_neg (by omega)]
 by_cases h3:g.1.length=g.2.length
 rotate_left
 ·rw[decide_eq_true (by omega)]
  exact⟨fun h=>absurd h.len h3,fun _=>rfl⟩
 rw[decide_eq_false (by omega),if_neg (by simp)]
 by_cases h4:∀k,k<g.1.length->Pu g.1 k
 rotate_left
 ·rw[(sD g.1 (by omega)).2 h4,bH rfl]
  exact⟨fun h=>absurd (fun k hk=>⟨(h.node k (by omega)).id,(h.node k (by omega)).ids⟩) h4,fun _=>rfl⟩
 rw[(sD g.1 (by omega)).1 h4,bH rfl,if_pos rfl]
 by_cases h5:Hl g.2
 ·rw[(BV g.2 (by omega)).1 h5]
  exact⟨fun _=>rfl,fun h=>absurd ⟨by omega,by omega,h3,fun v hv=>⟨(h4 v (by omega)).1,LM hv (h5.1 v hv),h5.1 v hv,(h4 v (by omega)).2⟩,h5.2⟩ h⟩
 ·rw[(BV g.2 (by omega)).2 h5]
  exact⟨fun h=>absurd ⟨fun v hv=>(h.node v hv).links,h.sym⟩ h5,fun _=>rfl⟩
end Go.Proofs.YtigggfnchamobaaGreatDoor
end
section
namespace Go.Proofs.YtigggfnchamobaaGreatDoor
open Go.Sx
abbrev Lr:=Int×List (Int)×List (Int)×List (Int)×Bool×Bool
theorem tJ (v m:Int) (h1:1<=m) (h2:m<=4611686018427387904):eV 1000 v m=some (v%m):=by
 unfold eV pM
 rw[if_neg (by omega),dK (by omega)]
 have hm:=Int.tmod_eq_emod (a:=v) (b:=m)
 have h0:=Int.emod_nonneg v (show m≠0 by omega)
 have h3:=Int.emod_lt_of_pos v (show 0<m by omega)
 by_cases hc:0<=v∨m∣v
 ·rw[if_pos hc]at hm
  have hm':v.tmod m=v%m:=by simpa using hm
  rw[hm',if_neg (by omega)]
 ·rw[if_neg hc]at hm
  have:(m.natAbs:Int)=m:=by omega
  rw[hm,if_pos (by omega),wr (by omega) (by omega)]
  congr 1;omega
theorem JQ (l:List Int) (i:Int) (h:0<=i):oT 1000 l i=some (at' l i):=by
 unfold oT
 by_cases hi:i<(l.length:Int)
 ·rw[if_pos hi,dK ⟨h,hi⟩]
 ·rw[if_neg hi]
  unfold at'
  rw[List.getD_eq_getElem?_getD,List.getElem?_eq_none (by omega)];rfl

theorem Kq {α:Type} [DecidableEq α]:∀(l1 l2:List α),l1.Nodup->(∀x∈l1,x∈l2)->l1.length<=l2.length
 | [],_,_,_=>Nat.zero_le _
 | a :: t, l2, hn, hs => by
  have hn':=List.nodup_cons.1 hn
  have ha:=hs a (List.mem_cons_self ..)
  have:=Kq t (l2.erase a) hn'.2 fun x hx=>by
   have hne:x≠a:=fun he=>hn'.1 (he▸hx)
   exact(List.mem_erase_of_ne hne).2 (hs x (List.mem_cons_of_mem _ hx))
  rw[List.length_erase_of_mem ha]at this
  have hpos:0<l2.length:=List.length_pos_of_mem ha
  simp only[List.length_cons]
  omega
theorem Se (id0:Int) (ids:List Int) (t:Nat) (ht:t<=200) (h:∀s,s<t->(id0+(s:Int))%256∈ids):t<=ids.length:=by
 have:=Kq ((List.range t).map fun s:Nat=>(id0+(s:Int))%256) ids (by
  rw[List.nodup_iff_pairwise_ne,List.pairwise_map]
  refine List.Pairwise.imp_of_mem ?_ List.pairwise_lt_range
  intro a b ha hb hab
  rw[List.mem_range]at ha hb
  omega) (fun x hx=>by
  obtain⟨s,hs,rfl⟩:=List.mem_map.1 hx
  exact h s (List.mem_range.1 hs))
 simpa using this

structure Fc (ids:List Int):Prop where
 rng:∀y∈ids,0<=y∧y<=255
 nd:ids.Nodup
theorem Fc.snoc {ids:List Int} {y:Int} (h:Fc ids) (hy:0<=y∧y<=255) (hn:y∉ids):Fc (ids++[y]):=by
 refine⟨fun z hz=> ?_,?_⟩
 ·rcases List.mem_append.1 hz with hz|hz
  ·exact h.rng z hz
  ·rw[List.mem_singleton.1 hz];exact hy
 ·rw[List.nodup_append]
  refine⟨h.nd,by simp,?_⟩
  intro a ha b hb
  rw[List.mem_singleton.1 hb]
  exact fun he=>hn (he▸ha)
theorem yW {α:Type} [Inhabited α] {l:List α} {i:Nat} (h:i<l.length):at' l (i:Int)∈l:=by
 rw[jH,List.getD_eq_getElem?_getD,List.getElem?_eq_getElem h]
 exact List.getElem_mem h
theorem Dw {α:Type} [Inhabited α] {l:List α} {x:α} (h:x∈l):∃i,i<l.length∧at' l ((i:Nat):Int)=x:=by
 obtain⟨i,hi,he⟩:=List.getElem_of_mem h
 refine⟨i,hi,?_⟩
 rw[jH,List.getD_eq_getElem?_getD,List.getElem?_eq_getElem hi]
 exact he
theorem QS {Q:List Int×List (List (Int×Int))->Prop} {ids:List Int} (hl:ids.length<=24) (id0:Int) (ag:Int×List Int->Option (List Int×List (List (Int×Int))))
  (hag:∀y,0<=y->y<=255->y∉ids->OK Q (ag ((ids.length:Int)+1,ids++[y]))):OK Q (bG (gU ((ids.length:Int),ids) ag) 1000 (id0%256,0)):=by
 refine Bt (fun s:Int×Int=>∃(t u:Nat),s.1=(id0+(t:Int))%256∧s.2=u∧u<=ids.length∧t<=ids.length∧(∀k,k<t->(id0+(k:Int))%256∈ids)∧∀j,j<u->at' ids (j:Int)≠s.1)
  (fun s=>(ids.length - ((s.1 - id0)%256).toNat)*30+(ids.length - s.2.toNat)) ?_ 1000 _ ⟨0,0,by simp,rfl,by omega,by omega,fun k hk=>by omega,fun j hj=>by omega⟩ ?_
 ·rintro⟨i,j⟩ ag' ⟨t,u,h1,h2,h3,h4,h5,h6⟩ hrec
  dsimp only at h1 h2 h6
  subst h2
  unfold gU mG jK
  dsimp only
  by_cases hu:(u:Int)<(ids.length:Int)
  ·rw[if_pos hu,dK (by omega)]
   by_cases he:at' ids (u:Int)=i
   ·rw[if_pos he,dK (by decide)]
    have hin:(id0+(t:Int))%256∈ids:=by rw[<-h1,<-he];exact yW (by omega)
    have hall:∀k,k<t+1->(id0+(k:Int))%256∈ids:=fun k hk=>by
     rcases Nat.lt_succ_iff_lt_or_eq.1 hk with h|h
     ·exact h5 k h
     ·subst h;exact hin
    have ht:=Se id0 ids (t+1) (by omega) hall
    have hi:0<=i∧i<=255:=by omega
    rw[wr (by omega) (by omega),Int.tmod_eq_emod_of_nonneg (by omega),wr (by omega) (by omega)]
    refine hrec _ ⟨t+1,0,?_,by simp,by omega,ht,hall,fun j hj=>by omega⟩ ?_
    ·dsimp only;omega
    ·dsimp only
     have e1:((i+1)%256 - id0)%256=(t:Int)+1:=by omega
     have e2:(i - id0)%256=(t:Int):=by omega
     rw[e1,e2];omega
   ·rw[if_neg he,wr (by omega) (by omega)]
    refine hrec _ ⟨t,u+1,h1,by dsimp only;omega,by omega,h4,h5,fun j hj=> ?_⟩ ?_
    ·rcases Nat.lt_succ_iff_lt_or_eq.1 hj with h|h
     ·exact h6 j h
     ·subst h;exact he
    ·dsimp only;omega
  ·rw[if_neg hu]
   rw[dK (by simp;omega),wr (by omega) (by omega)]
   refine hag i (by omega) (by omega) fun hm=> ?_
   obtain⟨k,hk,hke⟩:=Dw hm
   exact h6 k (by omega) hke
 ·dsimp only
  have e:(id0%256 - id0)%256=0:=by omega
  rw[e];omega
theorem Kp (x:Lr) (most:Nat) (h1:1<=most) (h24:most<=24):OK (fun g:GR=>Fc g.1∧g.2=List.replicate g.1.length []∧1<=g.1.length∧g.1.length<=most) (iI 1000 x (most:Int)):=by
 unfold iI
 rw[bH (tJ _ _ (by omega) (by omega))]
 generalize hr:(wI .i64 (x.1 - 1))%(most:Int)=r
 have hr0:0<=r:=by rw[<-hr];exact Int.emod_nonneg _ (by omega)
 have hr1:r<most:=by rw[<-hr];exact Int.emod_lt_of_pos _ (by omega)
 have hw:wI .i64 (1+r)=1+r:=wr (by omega) (by omega)
 rw[hw,dK (by omega)]
 refine Bt (fun s:Int×List Int=>s.1=(s.2.length:Int)∧(s.2.length:Int)<=1+r∧Fc s.2) (fun s=>(1+r - s.1).toNat) ?_ 1000 _ ⟨rfl,by simp;omega,⟨fun y hy=>by simp at hy,List.nodup_nil⟩⟩ (by dsimp only;omega)
 rintro⟨v,ids⟩ ag ⟨ha,hb,hc⟩ hrec
 dsimp only at ha hb hc
 subst ha
 unfold fK mF
 dsimp only
 rw[hw]
 by_cases hv:(ids.length:Int)<1+r
 ·rw[if_pos hv,bH (JQ _ _ (by omega)),bH (tJ _ _ (by decide) (by decide))]
  exact QS (by omega) _ ag fun y y0 y1 y2=>hrec _ ⟨by simp,by simp;omega,hc.snoc ⟨y0,y1⟩ y2⟩ (by dsimp only;omega)
 ·rw[if_neg hv]
  refine⟨_,rfl,hc,?_,by dsimp only;omega,by dsimp only;omega⟩
  dsimp only
  congr 1;omega

structure VM (ids:List Int) (P:List (List (Int×Int))):Prop where
 n1:1<=P.length
 n24:P.length<=24
 len:ids.length=P.length
 ok:Fc ids
 nd:∀v:Nat,v<P.length->((at' P (v:Int)).map Prod.fst).Nodup
 lk:∀v:Nat,v<P.length->∀x∈at' P (v:Int),(0<=x.1∧x.1<=(P.length:Int) - 1)∧x.1≠(v:Int)∧(1<=x.2∧x.2<=15)∧((v:Int),x.2)∈at' P x.1
theorem Rv {α:Type} [Inhabited α] {l:List α} (h:l.Nodup) {i j:Nat} (hi:i<l.length) (hj:j<l.length) (hij:i<j):at' l (i:Int)≠at' l (j:Int):=by
 rw[jH,jH,List.getD_eq_getElem?_getD,List.getD_eq_getElem?_getD,List.getElem?_eq_getElem hi,List.getElem?_eq_getElem hj]
 exact List.pairwise_iff_getElem.1 (List.nodup_iff_pairwise_ne.1 h) i j hi hj hij
theorem VM.vg {ids:List Int} {P:List (List (Int×Int))} (h:VM ids P):VG (ids,P):=by
 have hlen:=h.len
 have links:∀v,v<P.length->sA (row (ids,P) v) v P.length:=by
  intro v hv i hi
  have hm:iO (row (ids,P) v) i∈at' P (v:Int):=yW hi
  obtain⟨a1,a2,a3,_⟩:=h.lk v hv _ hm
  refine⟨a1,a2,a3,fun k hk=> ?_⟩
  have hk2:k<(row (ids,P) v).length:=by omega
  have:=List.pairwise_iff_getElem.1 (List.nodup_iff_pairwise_ne.1 (h.nd v hv)) k i (by simpa using hk2) (by simpa using hi) hk
  rw[List.getElem_map,List.getElem_map]at this
  have e:∀j (hj:j<(row (ids,P) v).length),iO (row (ids,P) v) j=(at' P (v:Int))[j]'hj:=fun j hj=>by
   unfold iO
   rw[jH,List.getD_eq_getElem?_getD,List.getElem?_eq_getElem hj];rfl
  rw[e k hk2,e i hi]
  exact this
 refine⟨h.n1,h.n24,h.len,fun v hv=>⟨?_,LM hv (links v hv),links v hv,fun k hk=> ?_⟩,fun v hv i hi=> ?_⟩
 ·exact h.ok.rng _ (yW (by dsimp only at hv ⊢;omega))
 ·exact Rv h.ok.nd (by dsimp only at hv ⊢;omega) (by dsimp only at hv ⊢;omega) hk
 ·have hm:iO (row (ids,P) v) i∈at' P (v:Int):=yW hi
  obtain⟨_,_,_,a4⟩:=h.lk v hv _ hm
  obtain⟨j,hj,he⟩:=Dw a4
  exact⟨j,hj,by unfold iO;rw[he],by unfold iO;rw[he]⟩
theorem VM.start {ids:List Int} (h:Fc ids) (h1:1<=ids.length) (h24:ids.length<=24):VM ids (List.replicate ids.length []):=by
 have e:∀v:Nat,at' (List.replicate ids.length ([]:List (Int×Int))) (v:Int)=[]:=fun v=>by
  rw[jH,List.getD_eq_getElem?_getD,List.getElem?_replicate]
  split<;>rfl
 refine⟨by simpa using h1,by simpa using h24,by simp,h,fun v _=>by rw[e];exact List.nodup_nil,fun v _ x hx=> ?_⟩
 rw[e]at hx
 cases hx
def mA (P:List (List (Int×Int))) (v u:Nat):Prop:=∃x∈at' P (v:Int),x.1=(u:Int)
theorem HG (ids:List Int) (P:List (List (Int×Int))) (a b:Nat) (ha:a<P.length) (hl:(at' P (a:Int)).length<=900):(mA P a b->lN 1000 (ids,P) a b=some true)∧(¬mA P a b->lN 1000 (ids,P) a b=some false):=by
 have step:∀(r:Bool),(r=true->mA P a b)->(r=false->¬mA P a b)->lN 1000 (ids,P) a b=some r:=by
  intro r ht hf
  unfold lN
  refine IG (fun i:Int=>∃k:Nat,i=k∧k<=(at' P (a:Int)).length∧∀j,j<k->(at' (at' P (a:Int)) ((j:Nat):Int)).1≠(b:Int)) (fun i=>(at' P (a:Int)).length - i.toNat) ?_ 1000 0 ⟨0,rfl,by omega,fun j hj=>by omega⟩ (by omega)
  rintro i ag ⟨k,rfl,hk,hno⟩ hrec
  unfold sQ sP
  dsimp only
  rw[dK (by omega)]
  by_cases hi:(k:Int)<((at' P (a:Int)).length:Int)
  ·rw[if_pos hi,dK (by omega),dK (by omega)]
   by_cases he:(at' (at' P (a:Int)) (k:Int)).1=(b:Int)
   ·rw[if_pos he]
    cases r with
    |true=>rfl
    |false=>exact absurd ⟨_,yW (by omega),he⟩ (hf rfl)
   ·rw[if_neg he,wr (by omega) (by omega)]
    refine hrec _ ⟨k+1,by omega,by omega,fun j hj=> ?_⟩ (by omega)
    rcases Nat.lt_succ_iff_lt_or_eq.1 hj with h|h
    ·exact hno j h
    ·subst h;exact he
  ·rw[if_neg hi]
   cases r with
   |false=>rfl
   |true=>
    obtain⟨x,hx,he⟩:=ht rfl
    obtain⟨j,hj,hje⟩:=Dw hx
    exact absurd (by rw[hje];exact he) (hno j (by omega))
 exact⟨fun h=>step true (fun _=>h) (fun hc=>by cases hc),fun h=>step false (fun hc=>by cases hc) (fun _=>h)⟩
theorem Ti (P:List (List (Int×Int))) (a b:Nat) (x y:List (Int×Int)) (ha:a<P.length) (hb:b<P.length) (v:Nat):at' ((P.set a x).set b y) (v:Int)=if v=b then y else if v=a then x else at' P (v:Int):=by
 rw[jH,jH,List.getD_eq_getElem?_getD,List.getD_eq_getElem?_getD,List.getElem?_set,List.getElem?_set]
 by_cases h:v=b
 ·subst h;rw[if_pos rfl,if_pos rfl,if_pos (by simpa using hb)];rfl
 ·rw[if_neg (fun hc=>h hc.symm),if_neg h]
  by_cases h2:v=a
  ·subst h2;rw[if_pos rfl,if_pos rfl,if_pos ha];rfl
  ·rw[if_neg (fun hc=>h2 hc.symm),if_neg h2]
theorem VM.add {ids:List Int} {P:List (List (Int×Int))} (h:VM ids P) {a b:Nat} {w:Int} (ha:a<P.length) (hb:b<P.length) (hab:a≠b) (hn:¬mA P a b) (hw:1<=w∧w<=15)
  {x y:List (Int×Int)} (hx:x.Perm (((b:Int),w)::at' P (a:Int))) (hy:y.Perm (((a:Int),w)::at' P (b:Int))):
  VM ids ((P.set a x).set b y)∧(∀v u,mA P v u->mA ((P.set a x).set b y) v u)∧mA ((P.set a x).set b y) a b:=by
 have hn2:¬mA P b a:=by
  rintro⟨z,hz,he⟩
  obtain⟨_,_,_,hb4⟩:=h.lk b hb z hz
  rw[he]at hb4
  exact hn ⟨_,hb4,rfl⟩
 have hr:=Ti P a b x y ha hb
 have hL:((P.set a x).set b y).length=P.length:=by simp
 have mem:∀(v:Nat) (z:Int×Int),z∈at' ((P.set a x).set b y) (v:Int)↔z∈at' P (v:Int)∨(v=b∧z=((a:Int),w))∨(v=a∧z=((b:Int),w)):=by
  intro v z
  rw[hr v]
  by_cases h1:v=b
  ·subst h1
   rw[if_pos rfl,hy.mem_iff,List.mem_cons]
   constructor
   ·rintro(h2|h2)
    ·exact .inr (.inl ⟨rfl,h2⟩)
    ·exact .inl h2
   ·rintro(h2|⟨_,h2⟩|⟨h3,_⟩)
    ·exact .inr h2
    ·exact .inl h2
    ·exact absurd h3.symm hab
  ·rw[if_neg h1]
   by_cases h2:v=a
   ·subst h2
    rw[if_pos rfl,hx.mem_iff,List.mem_cons]
    constructor
    ·rintro(h3|h3)
     ·exact .inr (.inr ⟨rfl,h3⟩)
     ·exact .inl h3
    ·rintro(h3|⟨h4,_⟩|⟨_,h3⟩)
     ·exact .inr h3
     ·exact absurd h4 h1
     ·exact .inl h3
   ·rw[if_neg h2]
    exact⟨.inl,fun h3=>h3.elim id fun h4=>h4.elim (fun h5=>absurd h5.1 h1) fun h5=>absurd h5.1 h2⟩
 refine⟨⟨by rw[hL];exact h.n1,by rw[hL];exact h.n24,by rw[hL];exact h.len,h.ok,fun v hv=> ?_,fun v hv z hz=> ?_⟩,fun v u hvu=> ?_,?_⟩
 ·rw[hL]at hv
  rw[hr v]
  by_cases h1:v=b
  ·subst h1
   rw[if_pos rfl,(hy.map Prod.fst).nodup_iff,List.map_cons,List.nodup_cons]
   exact⟨fun hc=>by obtain⟨z,hz,he⟩:=List.mem_map.1 hc;exact hn2 ⟨z,hz,he⟩,h.nd v hv⟩
  ·rw[if_neg h1]
   by_cases h2:v=a
   ·subst h2
    rw[if_pos rfl,(hx.map Prod.fst).nodup_iff,List.map_cons,List.nodup_cons]
    exact⟨fun hc=>by obtain⟨z,hz,he⟩:=List.mem_map.1 hc;exact hn ⟨z,hz,he⟩,h.nd v hv⟩
   ·rw[if_neg h2];exact h.nd v hv
 ·rw[hL]at hv ⊢
  rcases(mem v z).1 hz with h1|⟨rfl,rfl⟩|⟨rfl,rfl⟩
  ·obtain⟨b1,b2,b3,b4⟩:=h.lk v hv z h1
   refine⟨b1,b2,b3,?_⟩
   obtain⟨u,hu⟩:∃u:Nat,z.1=u:=⟨z.1.toNat,by omega⟩
   rw[hu]at b4 ⊢
   exact(mem u _).2 (.inl b4)
  ·exact⟨by dsimp only;omega,by dsimp only;omega,hw,(mem a _).2 (.inr (.inr ⟨rfl,rfl⟩))⟩
  ·exact⟨by dsimp only;omega,by dsimp only;omega,hw,(mem b _).2 (.inr (.inl ⟨rfl,rfl⟩))⟩
 ·obtain⟨z,hz,he⟩:=hvu
  exact⟨z,(mem v z).2 (.inl hz),he⟩
 ·exact⟨_,(mem a _).2 (.inr (.inr ⟨rfl,rfl⟩)),rfl⟩
theorem Nu (x:Lr) {ids:List Int} {P:List (List (Int×Int))} (h:VM ids P) {a b:Nat} {w:Int} (ha:a<P.length) (hb:b<P.length) (hw:1<=w∧w<=15):
  ∃P',i_ 1000 x (ids,P) a b w=some P'∧VM ids P'∧P'.length=P.length∧(∀v u,mA P v u->mA P' v u)∧(a≠b->mA P' a b):=by
 have h24:=h.n24
 have dg:∀v:Nat,v<P.length->(at' P (v:Int)).length<24:=fun v hv=>by
  have:=(h.vg.node v hv).deg
  have e:(at' P (v:Int)).length=(row (ids,P) v).length:=rfl
  dsimp only at this
  omega
 have da:=dg a ha
 have db:=dg b hb
 unfold i_
 by_cases hab:a=b
 ·subst hab
  rw[if_pos rfl]
  exact⟨P,rfl,h,rfl,fun _ _ h=>h,fun hc=>absurd rfl hc⟩
 rw[if_neg (by omega)]
 by_cases hn:mA P a b
 ·rw[bH ((HG ids P a b ha (by omega)).1 hn)]
  exact⟨P,rfl,h,rfl,fun _ _ h=>h,fun _=>hn⟩
 rw[bH ((HG ids P a b ha (by omega)).2 hn)]
 unfold kH
 rw[if_neg (by simp)]
 dsimp only
 cases hbk:x.2.2.2.2.2 with
 | true =>
  rw[if_pos rfl]
  have e:at' (P.set (Int.toNat (a:Int)) ([((b:Int),w)]++at' P (a:Int))) (b:Int)=at' P (b:Int):=by
   rw[jH,List.getD_eq_getElem?_getD,List.getElem?_set,if_neg (by simpa using hab),jH,List.getD_eq_getElem?_getD]
  rw[e]
  rw[dK (by omega),dK (by simp;omega),dK (by omega),dK (by simp;omega),dK (by simp;omega),dK (by simp;omega)]
  obtain⟨h1,h2,h3⟩:=h.add ha hb hab hn hw (List.Perm.refl _) (List.Perm.refl _)
  exact⟨_,rfl,h1,by simp,h2,fun _=>h3⟩
 |false=>
  rw[if_neg (by simp)]
  rw[dK (by omega),dK (by omega),dK (by simp;omega),dK (by simp;omega),dK (by simpa using hab),dK (by simp;omega),dK (by simp;omega)]
  obtain⟨h1,h2,h3⟩:=h.add ha hb hab hn hw (x:=at' P (a:Int)++[((b:Int),w)]) (y:=at' P (b:Int)++[((a:Int),w)]) List.perm_append_comm List.perm_append_comm
  exact⟨_,rfl,h1,by simp,h2,fun _=>h3⟩
theorem HW (v:Int):wI .i64 (1+v%15)=1+v%15∧1<=1+v%15∧1+v%15<=15:=by
 have:=Int.emod_nonneg v (show(15:Int)≠0 by decide)
 have:=Int.emod_lt_of_pos v (show(0:Int)<15 by decide)
 exact⟨wr (by omega) (by omega),by omega,by omega⟩

theorem UO (x:Lr) (most:Nat) (h1:1<=most) (h24:most<=24):
  OK (fun g:GR=>VM g.1 g.2∧g.2.length<=most∧∀v:Nat,1<=v->v<g.2.length->∃u:Nat,u<v∧mA g.2 u v) (iZ 1000 x (most:Int)):=by
 unfold iZ
 obtain⟨⟨ids,P0⟩,e0,hid,hP,hn1,hn2⟩:=Kp x most h1 h24
 dsimp only at hP hid hn1 hn2
 rw[bH e0]
 dsimp only
 subst hP
 have hst:=VM.start hid hn1 (by omega)
 refine Bt (fun s:Int×List (List (Int×Int))=>∃k:Nat,s.1=k∧1<=k∧k<=ids.length∧VM ids s.2∧s.2.length=ids.length∧∀v:Nat,1<=v->v<k->∃u:Nat,u<v∧mA s.2 u v) (fun s=>ids.length - s.1.toNat) ?_ 1000 _ ⟨1,rfl,by omega,hn1,hst,by simp,fun v hv hv2=>by omega⟩ (by dsimp only;omega)
 rintro⟨i,P⟩ ag ⟨k,hk,hk1,hk2,hV,hL,hT⟩ hrec
 dsimp only at hk hV hL hT
 subst hk
 unfold m_ mZ
 dsimp only
 by_cases hi:(k:Int)<(P.length:Int)
 ·rw[if_pos hi,wr (by omega) (by omega),bH (JQ _ _ (by omega)),bH (tJ _ _ (by omega) (by omega)),bH (JQ _ _ (by omega)),bH (tJ _ _ (by decide) (by decide))]
  obtain⟨w1,w2,w3⟩:=HW (at' x.2.2.1 ((k:Int) - 1))
  rw[w1]
  generalize hu:at' x.2.1 ((k:Int) - 1)%(k:Int)=u
  have u0:0<=u:=by rw[<-hu];exact Int.emod_nonneg _ (by omega)
  have u1:u<k:=by rw[<-hu];exact Int.emod_lt_of_pos _ (by omega)
  obtain⟨u,rfl⟩:∃n:Nat,u=n:=⟨u.toNat,by omega⟩
  obtain⟨P',e1,v1,v2,v3,v4⟩:=Nu x hV (a:=u) (b:=k) (by omega) (by omega) ⟨w2,w3⟩
  rw[bH e1,wr (by omega) (by omega)]
  refine hrec _ ⟨k+1,by dsimp only;omega,by omega,by omega,v1,by dsimp only;omega,fun v hv hv2=> ?_⟩ (by dsimp only;omega)
  by_cases hvk:v=k
  ·subst hvk;exact⟨u,by omega,v4 (by omega)⟩
  ·obtain⟨u',hu1,hu2⟩:=hT v hv (by omega)
   exact⟨u',hu1,v3 _ _ hu2⟩
 ·rw[if_neg hi]
  exact⟨_,rfl,hV,by dsimp only;omega,fun v hv hv2=>hT v hv (by dsimp only at hv2;omega)⟩
theorem Nx (x:Lr) {ids:List Int} {P:List (List (Int×Int))} (h:VM ids P):OK (fun g:GR=>VM g.1 g.2∧g.1=ids∧g.2.length=P.length∧∀v u,mA P v u->mA g.2 v u) (jA 1000 x (ids,P)):=by
 unfold jA
 have h24:=h.n24
 have hp1:=h.n1
 refine Bt (fun s:Int×List (List (Int×Int))=>∃k:Nat,s.1=k∧k<=100∧VM ids s.2∧s.2.length=P.length∧∀v u,mA P v u->mA s.2 v u) (fun s=>200 - s.1.toNat) ?_ 1000 _ ⟨P.length,rfl,by omega,h,rfl,fun _ _ h=>h⟩ (by dsimp only;omega)
 rintro⟨i,Q⟩ ag ⟨k,hk,hk2,hV,hL,hN⟩ hrec
 dsimp only at hk hV hL hN
 subst hk
 have done:∀b:Bool,b=false->OK (fun g:GR=>VM g.1 g.2∧g.1=ids∧g.2.length=P.length∧∀v u,mA P v u->mA g.2 v u) (iF 1000 x (ids,P) ((k:Int),Q) ag b):=by
  rintro b rfl
  exact⟨_,rfl,hV,rfl,hL,hN⟩
 unfold kI
 dsimp only
 rw[wr (by omega) (by omega)]
 by_cases h1:(k:Int)+1<(x.2.1.length:Int)
 rotate_left
 ·rw[if_neg h1];exact done _ rfl
 rw[if_pos h1]
 by_cases h2:(k:Int)<60
 rotate_left
 ·exact done _ (decide_eq_false h2)
 rw[decide_eq_true h2]
 unfold iF
 dsimp only
 rw[if_pos rfl,dK (by omega),bH (tJ _ _ (by omega) (by omega)),wr (by omega) (by omega),dK (by omega),bH (tJ _ _ (by omega) (by omega)),bH (JQ _ _ (by omega)),bH (tJ _ _ (by decide) (by decide))]
 obtain⟨w1,w2,w3⟩:=HW (at' x.2.2.1 (k:Int))
 rw[w1]
 generalize hu:at' x.2.1 (k:Int)%(P.length:Int)=u
 have u0:0<=u:=by rw[<-hu];exact Int.emod_nonneg _ (by omega)
 have u1:u<P.length:=by rw[<-hu];exact Int.emod_lt_of_pos _ (by omega)
 obtain⟨u,rfl⟩:∃n:Nat,u=n:=⟨u.toNat,by omega⟩
 generalize ht:at' x.2.1 ((k:Int)+1)%(P.length:Int)=t
 have t0:0<=t:=by rw[<-ht];exact Int.emod_nonneg _ (by omega)
 have t1:t<P.length:=by rw[<-ht];exact Int.emod_lt_of_pos _ (by omega)
 obtain⟨t,rfl⟩:∃n:Nat,t=n:=⟨t.toNat,by omega⟩
 obtain⟨P',e1,v1,v2,v3,v4⟩:=Nu x hV (a:=u) (b:=t) (by omega) (by omega) ⟨w2,w3⟩
 rw[bH e1,wr (by omega) (by omega)]
 exact hrec _ ⟨k+2,by dsimp only;omega,by omega,v1,by dsimp only;omega,fun v u hvu=>v3 _ _ (hN v u hvu)⟩ (by dsimp only;omega)
theorem Ix (x:Lr) (most:Nat) (h1:1<=most) (h24:most<=24):
  OK (fun g:GR=>VM g.1 g.2∧g.2.length<=most∧∀v:Nat,1<=v->v<g.2.length->∃u:Nat,u<v∧mA g.2 u v) (gZ 1000 x (most:Int)):=by
 unfold gZ
 obtain⟨⟨ids,P⟩,e0,hV,hL,hT⟩:=UO x most h1 h24
 obtain⟨⟨ids',P'⟩,e1,hV',hi,hL',hN⟩:=Nx x hV
 rw[bH e0,bH e1]
 dsimp only at hL hT hV' hi hL' hN
 refine⟨_,rfl,hV',by dsimp only;omega,fun v hv hv2=> ?_⟩
 obtain⟨u,hu,hu2⟩:=hT v hv (by dsimp only at hv2;omega)
 exact⟨u,hu,hN _ _ hu2⟩
theorem VE (x:Lr) (most:Nat) (h1:1<=most) (h24:most<=24):OK (fun g:GR=>VM g.1 g.2∧g.2.length<=most) (jY 1000 x (most:Int)):=by
 unfold jY
 cases hb:x.2.2.2.2.1 with
 |false=>
  obtain⟨⟨ids,P⟩,e0,hV,hL,_⟩:=Ix x most h1 h24
  rw[if_pos (by rfl)]
  rw[<-hb]at *
  rw[bH e0]
  exact⟨_,rfl,hV,hL⟩
 |true=>
  obtain⟨⟨ids,P⟩,e0,hid,hP,hn1,hn2⟩:=Kp x most h1 h24
  dsimp only at hP hid hn1 hn2
  subst hP
  obtain⟨⟨ids',P'⟩,e1,hV',hi,hL',hN⟩:=Nx x (VM.start hid hn1 (by omega))
  dsimp only at hV' hi hL' hN
  rw[if_neg (by simp)]
  rw[<-hb]at *
  rw[bH e0,bH e1]
  exact⟨_,rfl,hV',by simp at hL' ⊢;omega⟩
end Go.Proofs.YtigggfnchamobaaGreatDoor
end
section
namespace Go.Proofs.YtigggfnchamobaaGreatDoor
open Go Go.Sx
abbrev val (c:List (List Int)) (v x:Nat):Int:=at' (at' c (v:Int)) (x:Int)
def Aw (g:GR) (top:Int) (v:Nat) (a:Int):Prop:=if top = -1 then -1<=a∧a<=((row g v).length:Int) - 1 else 0<=a∧a<=top
instance (g:GR) (top:Int) (v:Nat) (a:Int):Decidable (Aw g top v a):=by unfold Aw;infer_instance
structure Cf (g:GR) (c:List (List Int)) (tops:List Int):Prop where
 len:c.length=g.2.length
 row:∀v,v<g.2.length->(at' c (v:Int)).length=tops.length
 ok:∀v,v<g.2.length->∀x,x<tops.length->Aw g (at' tops (x:Int)) v (val c v x)
theorem yQ {g:GR} (hV:VG g) (c:List (List Int)) (tops:List Int) (ht:tops.length<=900):(Cf g c tops->eX 1000 g c tops=some true)∧(¬Cf g c tops->eX 1000 g c tops=some false):=by
 have h24:=hV.n24
 have hlen:=hV.len
 unfold eX
 by_cases h1:c.length=g.2.length
 rotate_left
 ·rw[if_pos (by omega)]
  exact⟨fun h=>absurd h.len h1,fun _=>rfl⟩
 rw[if_neg (by omega)]
 have inner:∀(v:Nat) (ag:Int->Option Bool),v<g.2.length->(at' c (v:Int)).length=tops.length->((∀x,x<tops.length->Aw g (at' tops (x:Int)) v (val c v x))->bG (dA g c tops v ag) 1000 0=ag ((v:Int)+1))∧(¬(∀x,x<tops.length->Aw g (at' tops (x:Int)) v (val c v x))->bG (dA g c tops v ag) 1000 0=some false):=by
  intro v ag hv hr
  have hdeg:(at' g.2 (v:Int)).length<g.2.length:=(hV.node v hv).deg
  have fin:∀(x:Nat) (ag2:Int->Option Bool) (lo hi a:Int),x<tops.length->at' (at' c (v:Int)) (x:Int)=a->gV c v x ag2 (lo,hi)=if lo<=a∧a<=hi then ag2 ((x:Int)+1)else some false:=by
   intro x ag2 lo hi a hx ha
   unfold gV jM
   rw[ha]
   have hw:wI .i64 ((x:Int)+1)=(x:Int)+1:=wr (by omega) (by omega)
   by_cases a1:lo<=a
   ·by_cases a2:a<=hi
    ·simp[a1,a2,hw,show¬a<lo by omega,show¬hi<a by omega]
    ·simp[a1,a2,hw,show¬a<lo by omega,show hi<a by omega]
   ·simp[a1,hw,show a<lo by omega]
  have body:∀(x:Nat) (ag2:Int->Option Bool),x<tops.length->dA g c tops v ag x ag2=if Aw g (at' tops (x:Int)) v (val c v x)then ag2 ((x:Int)+1)else some false:=by
   intro x ag2 hx
   unfold dA
   rw[if_pos (by omega),dK (by omega),dK (by omega)]
   unfold Aw
   by_cases ht1:at' tops (x:Int) = -1
   ·rw[if_pos ht1,dK (by omega),fin x ag2 _ _ _ hx rfl,wr (by omega) (by omega)]
    simp only[ht1,if_true]
   ·rw[if_neg ht1,fin x ag2 _ _ _ hx rfl]
    simp only[ht1,if_false]
  refine EU tops.length _ (fun x ag2 hx hp=> ?_) (fun x ag2 hx hp=> ?_) (fun ag2=> ?_) 1000 (by omega)
  ·rw[body x ag2 hx,if_pos hp]
  ·rw[body x ag2 hx,if_neg hp]
  ·unfold dA mI
   rw[if_neg (by omega),wr (by omega) (by omega)]
 have outer:=EU (step:=cQ 1000 g c tops) (K:=some true) (bad:=false) g.2.length (fun v=>(at' c (v:Int)).length=tops.length∧∀x,x<tops.length->Aw g (at' tops (x:Int)) v (val c v x)) (fun v ag hv hp=> ?_) (fun v ag hv hp=> ?_) (fun ag=> ?_) 1000 (by omega)
 ·exact⟨fun h=>outer.1 fun v hv=>⟨h.row v hv,h.ok v hv⟩,fun h=>outer.2 fun h'=>h ⟨h1,fun v hv=>(h' v hv).1,fun v hv=>(h' v hv).2⟩⟩
 ·unfold cQ
  rw[if_pos (by omega),dK (by omega),if_neg (by have:=hp.1;omega)]
  exact(inner v ag hv hp.1).1 hp.2
 ·unfold cQ
  rw[if_pos (by omega),dK (by omega)]
  by_cases hr:(at' c (v:Int)).length=tops.length
  ·rw[if_neg (by omega)]
   exact(inner v ag hv hr).2 fun h=>hp ⟨hr,h⟩
  ·rw[if_pos (by omega)]
 ·unfold cQ mH
  rw[if_neg (by omega)]

def kL (g:GR):Nat->Int
 |0=>0
 |k+1=>max (kL g k) (at' g.1 (k:Int))
theorem Gk {g:GR} (hV:VG g):∀k,k<=g.2.length->0<=kL g k∧kL g k<=255
 |0,_=>by simp[kL]
 |k+1,h=>by
  have h1:=Gk hV k (by omega)
  have h2:0<=at' g.1 (k:Int)∧at' g.1 (k:Int)<=255:=(hV.node k (by omega)).id
  simp only[kL];omega
abbrev EI:=ByteArray×Int×Int×Int×Int×Int
def AD (x:EI):Prop:=(0<=x.2.2.2.1∧x.2.2.2.1<=100000)∧(0<=x.2.2.2.2.1∧x.2.2.2.2.1<=100000)∧(0<=x.2.2.2.2.2∧x.2.2.2.2.2<=100000)
def lo (g:GR) (x:EI) (v:Nat):Int:=if x.2.1=2 then 0 else if x.2.1=3 then -1 else x.2.2.1
def hi (g:GR) (x:EI) (v:Nat):Int:=if x.2.1=2 then 1 else if x.2.1=3 then((row g v).length:Int) - 1 else x.2.2.2.1+x.2.2.2.2.1*(g.2.length:Int)+x.2.2.2.2.2*kL g g.1.length
structure UZ (g:GR) (c:List (List Int)) (vars:List EI):Prop where
 len:c.length=g.2.length
 row:∀v,v<g.2.length->(at' c (v:Int)).length=vars.length
 ok:∀v,v<g.2.length->∀x,x<vars.length->lo g (at' vars (x:Int)) v<=val c v x∧val c v x<=hi g (at' vars (x:Int)) v
theorem UE {g:GR} {c:List (List Int)} {vars:List EI} {tops:List Int} (hl:vars.length=tops.length) (h:∀v x,v<g.2.length->x<tops.length->∀a,(lo g (at' vars (x:Int)) v<=a∧a<=hi g (at' vars (x:Int)) v)↔Aw g (at' tops (x:Int)) v a):UZ g c vars↔Cf g c tops:=
  ⟨fun k=>⟨k.len,fun v hv=>by rw[k.row v hv,hl],fun v hv x hx=>(h v x hv hx _).1 (k.ok v hv x (by omega))⟩,
   fun k=>⟨k.len,fun v hv=>by rw[k.row v hv,hl],fun v hv x hx=>(h v x hv (by omega) _).2 (k.ok v hv x (by omega))⟩⟩
end Go.Proofs.YtigggfnchamobaaGreatDoor
end
section
namespace Go.Proofs.YtigggfnchamobaaGreatDoor
open Go Go.Sx

def AN (a b:Nat):Nat:=(BitVec.ofInt 32 (a:Int) &&& ~~~ BitVec.ofInt 32 (b:Int)).toNat
theorem CP (a b:Nat):AN a b<4294967296:=(BitVec.ofInt 32 (a:Int) &&& ~~~ BitVec.ofInt 32 (b:Int)).isLt
theorem Dx {a i:Nat} (ha:a<4294967296) (h:a.testBit i=true):i<32:=by
 apply Classical.byContradiction
 intro hc
 rw[Nat.testBit_lt_two_pow (Nat.lt_of_lt_of_le ha (Nat.pow_le_pow_right (n:=2) (by omega) (show 32<=i by omega)))]at h
 cases h
theorem yR {a b:Nat} (ha:a<4294967296) (hb:b<4294967296) (i:Nat):(AN a b).testBit i=(a.testBit i && !b.testBit i):=by
 have:=BitVec.getLsbD_and (x:=BitVec.ofInt 32 (a:Int)) (y:= ~~~ BitVec.ofInt 32 (b:Int)) (i:=i)
 rw[BitVec.getLsbD_not]at this
 have h:(AN a b).testBit i=((MJ (a:Int)).testBit i&&(decide (i<32) && !(MJ (b:Int)).testBit i)):=this
 rw[sB ha,sB hb]at h
 rw[h]
 cases hai:a.testBit i with
 |false=>simp
 |true=>simp[Dx ha hai]
theorem Fx (a b:Nat):sC .u32 (a:Int) (b:Int)=(AN a b:Int):=HZ _ (CP a b)
theorem Eg {a b:Nat} (ha:a<4294967296) (hb:b<4294967296):c_ .u32 (a:Int) (b:Int)=((a &&& b:Nat):Int):=by rw[EJ,sB ha,sB hb]
theorem XQ {a b:Nat} (ha:a<4294967296) (hb:b<4294967296):Fy .u32 (a:Int) (b:Int)=((a ||| b:Nat):Int):=by rw[VI,sB ha,sB hb]
theorem RF {a b:Nat} (ha:a<4294967296) (hb:b<4294967296):a ||| b<4294967296:=Nat.or_lt_two_pow (n:=32) ha hb
theorem LC {a b:Nat} (ha:a<4294967296):a &&& b<4294967296:=Nat.lt_of_le_of_lt Nat.and_le_left ha
theorem Fz {a k:Nat} (ha:a<4294967296) (hk:k<32):Fy .u32 (a:Int) (wJ .u32 1 (k:Int))=((a ||| 2^k:Nat):Int):=by rw[Va hk,XQ ha (BR hk)]
theorem Vj {a k:Nat} (hk:k<32) (ha:a<4294967296):c_ .u32 (oZ .u32 (a:Int) (k:Int)) 1=0↔a.testBit k=false:=by
 have h1:MJ 1=1:=sB (a:=1) (by omega)
 rw[Ir hk,EJ,sB (Nat.lt_of_le_of_lt (Nat.div_le_self _ _) ha),h1,Nat.and_one_is_mod,Nat.testBit_eq_decide_div_mod_eq,decide_eq_false_iff_not]
 omega
theorem zS (p:Nat->Bool) {k:Nat} (hk:k<=32):kS p k<4294967296:=Nat.lt_of_lt_of_le (Ki p k) (Nat.pow_le_pow_right (n:=2) (by omega) hk)
theorem Uy {a b:Nat} (h:∀i,a.testBit i=b.testBit i):a=b:=Nat.eq_of_testBit_eq h
def LB (q:Bool) (m v:Nat):Nat:=if q then m ||| 2^v else m
theorem Td {q:Bool} {m v:Nat} (hm:m<4294967296) (hv:v<32):LB q m v<4294967296:=by
 unfold LB;split
 ·exact RF hm (BR hv)
 ·exact hm
theorem UA (m v:Nat):(m ||| 2^v) ||| 2^v=m ||| 2^v:=by rw[Nat.or_assoc,Nat.or_self]
theorem SB {i:Nat} (h:i<1000000):wI .i64 ((i:Int)+1)=(i:Int)+1:=wr (by omega) (by omega)

def Ei (g:GR) (c:List (List Int)) (v i:Nat):Bool:=decide (val c v 0=at' (at' c (iO (row g v) i).1) 0)
def UX (g:GR) (c:List (List Int)) (d:Nat):Prop:=VG g∧Cf g c [(g.2.length:Int)]∧∀v,v<g.2.length->d.testBit v=false->∀i,i<(row g v).length->Ei g c v i=false
theorem VG.to {g:GR} (hV:VG g) {v i:Nat} (hv:v<g.2.length) (hi:i<(row g v).length):∃u:Nat,u<g.2.length∧(iO (row g v) i).1=(u:Int):=by
 obtain⟨u,h1,h2,_⟩:=hV.port hv hi
 exact⟨u,h1,h2⟩
theorem Vb (g:GR) (c:List (List Int)) {d:Nat} (hd:d<4294967296):(UX g c d->kY 1000 g c (d:Int)=some true)∧(¬UX g c d->kY 1000 g c (d:Int)=some false):=by
 unfold kY
 by_cases hV:VG g
 rotate_left
 ·rw[(zB g).2 hV,bH rfl,if_pos (by simp)]
  exact⟨fun h=>absurd h.1 hV,fun _=>rfl⟩
 rw[(zB g).1 hV,bH rfl,if_neg (by simp)]
 have h24:=hV.n24
 have hlen:=hV.len
 rw[hlen]
 have hcf:=yQ hV c [(g.2.length:Int)] (by simp)
 by_cases hC:Cf g c [(g.2.length:Int)]
 rotate_left
 ·rw[hcf.2 hC,bH rfl]
  exact⟨fun h=>absurd h.2.1 hC,fun _=>rfl⟩
 rw[hcf.1 hC,bH rfl]
 unfold mJ
 rw[if_neg (by simp)]
 unfold pV
 have hrow:∀u:Nat,u<g.2.length->(at' c (u:Int)).length=1:=fun u hu=>hC.row u hu
 have hcl:=hC.len
 have inner:∀(v:Nat) (ag:Int->Option Bool),v<g.2.length->((∀i,i<(row g v).length->(d.testBit v=false->Ei g c v i=false))->bG (fF g c (d:Int) v ag) 1000 0=ag ((v:Int)+1))∧(¬(∀i,i<(row g v).length->(d.testBit v=false->Ei g c v i=false))->bG (fF g c (d:Int) v ag) 1000 0=some false):=by
  intro v ag hv
  have hdeg:(at' g.2 (v:Int)).length<g.2.length:=(hV.node v hv).deg
  have body:∀(i:Nat) (ag2:Int->Option Bool),i<(row g v).length->fF g c (d:Int) v ag i ag2=if d.testBit v=false∧Ei g c v i=true then some false else ag2 ((i:Int)+1):=by
   intro i ag2 hi
   obtain⟨u,hu,hue⟩:=hV.to hv hi
   have hue':(at' (at' g.2 (v:Int)) (i:Int)).1=(u:Int):=hue
   have hi':i<(at' g.2 (v:Int)).length:=hi
   have h1:=hrow v hv
   have h2:=hrow u hu
   unfold fF mK
   rw[if_pos (by omega),dK (by omega),dK (by omega),hue']
   have hcls:Ei g c v i=decide (at' (at' c (v:Int)) 0=at' (at' c (u:Int)) 0):=by unfold Ei;rw[show iO (row g v) i=at' (at' g.2 (v:Int)) (i:Int)from rfl,hue'];rfl
   by_cases hb:d.testBit v=false
   ·rw[if_pos ((Vj (by omega) hd).2 hb),dK (by omega),dK (by omega),dK (by omega),dK (by omega),SB (by omega),hcls]
    by_cases hq:at' (at' c (v:Int)) 0=at' (at' c (u:Int)) 0<;>simp[hq,hb]
   ·rw[if_neg (fun h=>hb ((Vj (by omega) hd).1 h)),SB (by omega)]
    simp[hb]
  refine EU (row g v).length _ (fun i ag2 hi hp=> ?_) (fun i ag2 hi hp=> ?_) (fun ag2=> ?_) 1000 (by have:(row g v).length<g.2.length:=hdeg;omega)
  ·rw[body i ag2 hi,if_neg (fun h=>by rw[hp h.1]at h;cases h.2)]
  ·rw[body i ag2 hi,if_pos]
   exact⟨Classical.byContradiction fun h=>hp fun h'=>absurd h' h,by cases hc:Ei g c v i with
    |true=>rfl
    |false=>exact absurd (fun _=>hc) hp⟩
  ·unfold fF pW
   rw[if_neg (by show¬(((row g v).length:Nat):Int)<((row g v).length:Int);omega),wr (by omega) (by omega)]
 have outer:=EU (step:=eH 1000 g c (d:Int)) (K:=some true) (bad:=false) g.2.length (fun v=>∀i,i<(row g v).length->(d.testBit v=false->Ei g c v i=false)) (fun v ag hv hp=> ?_) (fun v ag hv hp=> ?_) (fun ag=> ?_) 1000 (by omega)
 ·exact⟨fun h=>outer.1 fun v hv i hi hb=>h.2.2 v hv hb i hi,fun h=>outer.2 fun h'=>h ⟨hV,hC,fun v hv hb i hi=>h' v hv i hi hb⟩⟩
 ·unfold eH
  rw[if_pos (by omega),dK (by omega)]
  exact(inner v ag hv).1 hp
 ·unfold eH
  rw[if_pos (by omega),dK (by omega)]
  exact(inner v ag hv).2 hp
 ·unfold eH pU
  rw[if_neg (by omega)]

end Go.Proofs.YtigggfnchamobaaGreatDoor
end
section
namespace Go.Proofs.YtigggfnchamobaaGreatDoor
open Go Go.Sx
def wO (c:List (List Int)) (v:Nat):Bool:=decide (val c v 0=1)
def HL (g:GR) (s:Nat) (v i:Nat):Bool:=s.testBit (iO (row g v) i).1.toNat
def MD (g:GR) (c:List (List Int)) (d:Nat):Prop:=VG g∧Cf g c [1]∧∀v,v<g.2.length->d.testBit v=false->((∃i,i<(row g v).length∧wO c (iO (row g v) i).1.toNat=true)↔wO c v=false)
theorem Vi {g:GR} {c:List (List Int)} (hC:Cf g c [1]) {v:Nat} (hv:v<g.2.length):0<=at' (at' c (v:Int)) 0∧at' (at' c (v:Int)) 0<=1:=by
 have h:=hC.ok v hv 0 (by simp)
 have e:at' [(1:Int)] ((0:Nat):Int)=1:=rfl
 unfold Aw at h
 rw[e,if_neg (by omega)]at h
 exact h
theorem UP {g:GR} {c:List (List Int)} (hV:VG g) (hC:Cf g c [1]):lK 1000 c 0=some ((kS (wO c) g.2.length:Nat):Int):=by
 have h24:=hV.n24
 have hcl:=hC.len
 have hrow:∀u:Nat,u<g.2.length->(at' c (u:Int)).length=1:=fun u hu=>hC.row u hu
 unfold lK
 refine dW (F:=fun v:Nat=>(((kS (wO c) v:Nat):Int),(v:Int))) g.2.length (fun v ag hv=> ?_) (fun ag=> ?_) 1000 (by omega)
 ·have h1:=hrow v hv
  have h01:=Vi hC hv
  unfold kK
  simp only
  rw[if_pos (by omega),dK (by omega),dK (by omega),dK (by omega),SB (by omega)]
  have hm:=zS (wO c) (k:=v) (by omega)
  have hmb:wO c v=decide (at' (at' c (v:Int)) 0=1):=rfl
  have hcase:at' (at' c (v:Int)) 0=0∨at' (at' c (v:Int)) 0=1:=by omega
  rcases hcase with h|h
  ·rw[h,show wI .u32 (0:Int)=0 from rfl,show wJ .u32 (0:Int) (v:Int)=0 by
    show IntKind.u32.wrap (0*_)=0
    rw[Int.zero_mul];rfl,show(0:Int)=((0:Nat):Int)from rfl,XQ hm (by omega),Nat.or_zero]
   rw[h]at hmb
   simp[kS,hmb]
  ·rw[h,show wI .u32 (1:Int)=1 from rfl,Fz hm (by omega)]
   rw[h]at hmb
   simp[kS,hmb]
 ·unfold kK nE
  simp only
  rw[if_neg (by omega)]
abbrev Oz (g:GR) (c:List (List Int)):Nat:=kS (fun v=>xM (HL g (kS (wO c) g.2.length) v) (row g v).length) g.2.length
theorem JZ {g:GR} {c:List (List Int)} (hV:VG g) {v:Nat} (hv:v<g.2.length):(Oz g c).testBit v=true↔∃i,i<(row g v).length∧wO c (iO (row g v) i).1.toNat=true:=by
 rw[vA]
 simp only[hv,decide_true,Bool.true_and]
 rw[JP]
 constructor
 ·rintro⟨i,hi,h⟩
  unfold HL at h
  rw[vA]at h
  simp only[Bool.and_eq_true]at h
  exact⟨i,hi,h.2⟩
 ·rintro⟨i,hi,h⟩
  obtain⟨u,hu,hue⟩:=hV.to hv hi
  refine⟨i,hi,?_⟩
  unfold HL
  rw[vA,h,hue]
  simpa using hu
theorem LK {g:GR} {c:List (List Int)} (hV:VG g) (d:Int):jP 1000 g d ((kS (wO c) g.2.length:Nat):Int) ()=jO 1000 g d ((kS (wO c) g.2.length:Nat):Int) ((Oz g c:Nat):Int):=by
 have h24:=hV.n24
 have hs:=zS (wO c) (k:=g.2.length) (by omega)
 unfold jP Oz
 generalize hS:kS (wO c) g.2.length=s at hs
 refine dW (F:=fun v:Nat=>((v:Int),((kS (fun v=>xM (HL g s v) (row g v).length) v:Nat):Int))) g.2.length (fun v ag hv=> ?_) (fun ag=> ?_) 1000 (by omega)
 ·unfold eM
  simp only
  rw[if_pos (by omega),dK (by omega)]
  have hdeg:(at' g.2 (v:Int)).length<g.2.length:=(hV.node v hv).deg
  have hm:=zS (fun v=>xM (HL g s v) (row g v).length) (k:=v) (by omega)
  have key:=dW (step:=fL g (s:Int) ((v:Int),((kS (fun v=>xM (HL g s v) (row g v).length) v:Nat):Int)) ag) (K:=ag ((v:Int)+1,((LB (xM (HL g s v) (row g v).length) (kS (fun v=>xM (HL g s v) (row g v).length) v) v:Nat):Int))) (F:=fun i:Nat=>((i:Int),((LB (xM (HL g s v) i) (kS (fun v=>xM (HL g s v) (row g v).length) v) v:Nat):Int))) (row g v).length (fun i ag2 hi=> ?_) (fun ag2=> ?_) 1000 (by show(at' g.2 (v:Int)).length<1000;omega)
  ·exact key
  ·obtain⟨u,hu,hue⟩:=hV.to hv hi
   have hue':(at' (at' g.2 (v:Int)) (i:Int)).1=(u:Int):=hue
   have hi':i<(at' g.2 (v:Int)).length:=hi
   unfold fL jQ
   simp only
   rw[if_pos (by omega),dK (by omega),hue',dK (by omega),SB (by omega)]
   have hnb:HL g s v i=s.testBit u:=by unfold HL;rw[hue];rfl
   have ha:=Td (q:=xM (HL g s v) i) hm (show v<32 by omega)
   by_cases hq:s.testBit u=true
   ·rw[if_pos ((F_ (by omega) hs).2 hq),dK (by omega),Fz ha (by omega)]
    have:xM (HL g s v) (i+1)=true:=by simp[xM,hnb,hq]
    have e:LB (xM (HL g s v) i) (kS (fun v=>xM (HL g s v) (row g v).length) v) v ||| 2^v=LB true (kS (fun v=>xM (HL g s v) (row g v).length) v) v:=by
     unfold LB
     split
     ·exact UA _ _
     ·rfl
    rw[this,e];rfl
   ·rw[if_neg fun h=>hq ((F_ (by omega) hs).1 h)]
    have:xM (HL g s v) (i+1)=xM (HL g s v) i:=by simp[xM,hnb,hq]
    simp only[this]
    rfl
  ·unfold fL mL
   simp only
   rw[if_neg (by show¬(((row g v).length:Nat):Int)<((row g v).length:Int);omega),SB (by omega)]
 ·unfold eM
  simp only
  rw[if_neg (by omega)]
theorem MN {n i:Nat}:(2^n - 1).testBit i=decide (i<n):=Nat.testBit_two_pow_sub_one n i
theorem Gd (g:GR) (c:List (List Int)) {d:Nat} (hd:d<4294967296):(MD g c d->f_ 1000 g c (d:Int)=some true)∧(¬MD g c d->f_ 1000 g c (d:Int)=some false):=by
 unfold f_
 by_cases hV:VG g
 rotate_left
 ·rw[(zB g).2 hV,bH rfl,if_pos (by simp)]
  exact⟨fun h=>absurd h.1 hV,fun _=>rfl⟩
 rw[(zB g).1 hV,bH rfl,if_neg (by simp)]
 have h24:=hV.n24
 have hcf:=yQ hV c [1] (by simp)
 by_cases hC:Cf g c [1]
 rotate_left
 ·rw[hcf.2 hC,bH rfl]
  exact⟨fun h=>absurd h.2.1 hC,fun _=>rfl⟩
 rw[hcf.1 hC,bH rfl]
 unfold jN
 rw[if_neg (by simp),UP hV hC,bH rfl,LK hV]
 unfold jO
 rw[P_ hV,bH rfl]
 have hp:=BR (show g.2.length<32 by omega)
 have hm:=zS (wO c) (k:=g.2.length) (by omega)
 have hc:=zS (fun v=>xM (HL g (kS (wO c) g.2.length) v) (row g v).length) (k:=g.2.length) (by omega)
 have ha:2^g.2.length - 1<4294967296:=by omega
 rw[Fx,Eg hc (CP _ _),Fx]
 have key:(((Oz g c &&& AN (2^g.2.length - 1) d:Nat):Int)=((AN (AN (2^g.2.length - 1) d) (kS (wO c) g.2.length):Nat):Int))↔MD g c d:=by
  constructor
  ·intro h
   have h:Oz g c &&& AN (2^g.2.length - 1) d=AN (AN (2^g.2.length - 1) d) (kS (wO c) g.2.length):=Int.ofNat.inj h
   refine⟨hV,hC,fun v hv hb=> ?_⟩
   have hb2:=congrArg (fun a=>Nat.testBit a v) h
   simp only[Nat.testBit_and,yR ha hd,yR (CP _ _) hm,MN,hv,hb,vA (wO c),decide_true,Bool.true_and,Bool.not_false,Bool.and_true]at hb2
   rw[<-JZ hV hv,hb2]
   cases wO c v<;>simp
  ·rintro⟨_,_,h⟩
   congr 1
   refine Uy fun v=> ?_
   simp only[Nat.testBit_and,yR ha hd,yR (CP _ _) hm,MN,vA (wO c)]
   by_cases hv:v<g.2.length
   ·cases hb:d.testBit v with
    |true=>simp
    | false =>
     have h1:=h v hv hb
     rw[<-JZ hV hv]at h1
     simp only[hv,decide_true,Bool.true_and,Bool.not_false,Bool.and_true]
     cases hmv:wO c v with
     |true=>
      rw[hmv]at h1
      cases hcv:(Oz g c).testBit v with
      |true=>have:=h1.1 hcv;cases this
      |false=>rfl
     |false=>rw[h1.2 hmv];rfl
   ·simp[hv]
 exact⟨fun h=>by rw[decide_eq_true (key.2 h)],fun h=>by rw[decide_eq_false fun h'=>h (key.1 h')]⟩

def pY:List EI:=[(ByteArray.mk #[109],2,0,0,0,0)]
theorem Xe:wM 1000=some pY:=rfl
theorem NL:∀x,x<pY.length->AD (at' pY (x:Int)):=by
 intro x hx
 obtain rfl:x=0:=by simp[pY]at hx;exact hx
 exact⟨by decide,by decide,by decide⟩
theorem Yw {g:GR} {c:List (List Int)}:UZ g c pY↔Cf g c [1]:=by
 refine UE rfl fun v x hv hx a=> ?_
 obtain rfl:x=0:=by simp at hx;exact hx
 have e1:at' pY ((0:Nat):Int)=(ByteArray.mk #[109],2,0,0,0,0):=rfl
 have e2:at' [(1:Int)] ((0:Nat):Int)=1:=rfl
 rw[e1,e2]
 unfold lo hi Aw
 simp
end Go.Proofs.YtigggfnchamobaaGreatDoor
end
section
namespace Go.Proofs.YtigggfnchamobaaGreatDoor
open Go Go.Sx



def d0 (g:GR) (c:List (List Int)) (d v:Nat):Int:=if d.testBit v=true then at' (at' c (v:Int)) 0 else if v=0 then 0 else(g.2.length:Int)
def start (g:GR) (c:List (List Int)) (d:Nat):List Int:=(List.range g.2.length).map (d0 g c d)



end Go.Proofs.YtigggfnchamobaaGreatDoor
end
section
namespace Go.Proofs.YtigggfnchamobaaGreatDoor
open Go Go.Sx
theorem Ja {α:Type} [Inhabited α] (l:List α) (x:α) {i:Nat} (hi:i<l.length+1):at' (l++[x]) (i:Int)=if i<l.length then at' l (i:Int)else x:=by
 rw[jH,jH]
 by_cases h:i<l.length
 ·rw[if_pos h,List.getD_eq_getElem?_getD,List.getD_eq_getElem?_getD,List.getElem?_append_left h]
 ·have:i=l.length:=by omega
  subst this
  rw[if_neg h];simp
def PR (g:GR) (vars:List EI) (v:Nat) (l:List Int):Prop:=∀x,x<l.length->lo g (at' vars (x:Int)) v<=at' l (x:Int)∧at' l (x:Int)<=hi g (at' vars (x:Int)) v
theorem Oy {g:GR} (hV:VG g) (vars:List EI) (raw:List Int) (ht:vars.length<=900) (hs:∀x,x<vars.length->AD (at' vars (x:Int)) ∧ -100000<=(at' vars (x:Int)).2.2.1∧(at' vars (x:Int)).2.2.1<=(at' vars (x:Int)).2.2.2.1):
  OK (fun c=>UZ g c vars) (lM 1000 g vars raw):=by
 have h24:=hV.n24
 have hlen:=hV.len
 have e1:lM 1000 g vars raw=pJ 1000 g vars raw (kL g g.2.length):=by
  unfold lM
  refine dW (F:=fun k:Nat=>((kL g k,(k:Int)):Int×Int)) g.2.length (fun k ag hk=> ?_) (fun ag=> ?_) 1000 (by omega)
  ·unfold pK
   simp only
   rw[if_pos (by omega),dK (by omega),wr (by omega) (by omega)]
   rfl
  ·unfold pK
   simp only
   rw[if_neg (by omega)]
 rw[e1]
 obtain⟨m1,m2⟩:=Gk hV g.2.length (by omega)
 unfold pJ
 have key:=AQ (step:=gO 1000 g vars raw (kL g g.2.length)) (K:=fun x=>some x.1) g.2.length (fun v x=>x.2=(v:Int)∧x.1.length=v∧∀w,w<v->(at' x.1 (w:Int)).length=vars.length∧PR g vars w (at' x.1 (w:Int))) (fun v x ag hv hI=> ?_) (fun x ag hI=> ?_) 1000 (([]:List (List Int)),(0:Int)) ⟨rfl,rfl,fun w hw=>by omega⟩ (by omega)
 ·obtain⟨⟨c,i⟩,⟨_,h2,h3⟩,he⟩:=key
  exact⟨c,he,h2,fun v hv=>(h3 v hv).1,fun v hv x hx=>(h3 v hv).2 x (by rw[(h3 v hv).1];exact hx)⟩
 ·obtain⟨c,i⟩:=x
  obtain⟨rfl,h2,h3⟩:=hI
  simp only at h2 h3
  have hdeg:(at' g.2 (v:Int)).length<g.2.length:=(hV.node v hv).deg
  unfold gO
  simp only
  rw[if_pos (by omega)]
  have key2:=AQ (step:=kE 1000 g vars raw (kL g g.2.length) (c,(v:Int)) ag) (K:=fun y=>ag (c++[y.1],(v:Int)+1)) vars.length (fun x y=>y.2=(x:Int)∧y.1.length=x∧PR g vars v y.1) (fun x y ag2 hx hI=> ?_) (fun y ag2 hI=> ?_) 1000 (([]:List Int),(0:Int)) ⟨rfl,rfl,fun x hx=>by simp at hx⟩ (by omega)
  ·obtain⟨⟨l,j⟩,⟨_,k2,k3⟩,he⟩:=key2
   refine⟨(c++[l],(v:Int)+1),⟨by simp,by simp[h2],fun w hw=> ?_⟩,he⟩
   simp only
   rw[Ja c l (by omega),h2]
   by_cases e:w<v
   ·rw[if_pos e];exact h3 w e
   ·rw[if_neg e]
    have:w=v:=by omega
    subst this
    exact⟨k2,k3⟩
  ·obtain⟨l,j⟩:=y
   obtain⟨rfl,k2,k3⟩:=hI
   simp only at k2 k3
   obtain⟨⟨s1,s2,s3⟩,s4,s5⟩:=hs x hx
   have fin:∀a b:Int,a=lo g (at' vars (x:Int)) v->b=hi g (at' vars (x:Int)) v -> -100000<=a->a<=b+1->b<=100000000->(a<=b∨(a = -1∧b = -1))->∃y',(y'.2=((x+1:Nat):Int)∧y'.1.length=x+1∧PR g vars v y'.1)∧kD 1000 vars raw (c,(v:Int)) (l,(x:Int)) ag2 (a,b)=ag2 y':=by
    intro a b ha hb q1 q2 q3 q4
    have hab:a<=b:=by omega
    unfold kD
    simp only
    have w1:wI .i64 ((v:Int)*(vars.length:Int))=(v:Int)*(vars.length:Int):=by
     have p1:0<=(v:Int)*(vars.length:Int):=Int.mul_nonneg (by omega) (by omega)
     have p2:(v:Int)*(vars.length:Int)<=24*900:=Int.mul_le_mul (by omega) (by omega) (by omega) (by omega)
     exact wr (by omega) (by omega)
    have p1:0<=(v:Int)*(vars.length:Int):=Int.mul_nonneg (by omega) (by omega)
    have p2:(v:Int)*(vars.length:Int)<=24*900:=Int.mul_le_mul (by omega) (by omega) (by omega) (by omega)
    rw[w1,wr (x:=(v:Int)*(vars.length:Int)+(x:Int)) (by omega) (by omega),JQ _ _ (by omega),bH rfl,wr (x:=b - a) (by omega) (by omega),wr (x:=b - a+1) (by omega) (by omega),tJ _ _ (by omega) (by omega),bH rfl]
    have r1:=Int.emod_nonneg (at' raw ((v:Int)*(vars.length:Int)+(x:Int))) (b:=b - a+1) (by omega)
    have r2:=Int.emod_lt_of_pos (at' raw ((v:Int)*(vars.length:Int)+(x:Int))) (b:=b - a+1) (by omega)
    generalize at' raw ((v:Int)*(vars.length:Int)+(x:Int))%(b - a+1)=r at r1 r2
    rw[wr (x:=a+r) (by omega) (by omega),dK (by simp;omega),wr (by omega) (by omega)]
    refine⟨_,⟨by simp,by simp[k2],fun z hz=> ?_⟩,rfl⟩
    simp only[List.length_append,List.length_cons,List.length_nil,k2]at hz
    simp only
    rw[Ja l _ (by omega),k2]
    by_cases e:z<x
    ·rw[if_pos e];exact k3 z (by omega)
    ·rw[if_neg e]
     have:z=x:=by omega
     subst this
     rw[<-ha,<-hb];omega
   unfold kE
   simp only
   rw[if_pos (by omega),dK (by omega),dK (by omega),dK (by omega),dK (by omega),dK (by omega)]
   by_cases t2:(at' vars (x:Int)).2.1=2
   ·rw[if_pos t2]
    exact fin 0 1 (by unfold lo;rw[if_pos t2]) (by unfold hi;rw[if_pos t2]) (by omega) (by omega) (by omega) (by omega)
   ·rw[if_neg t2]
    by_cases t3:(at' vars (x:Int)).2.1=3
    ·rw[if_pos t3,dK (by omega),wr (by omega) (by omega)]
     exact fin (-1) _ (by unfold lo;rw[if_neg t2,if_pos t3]) (by unfold hi;rw[if_neg t2,if_pos t3]) (by omega) (by omega) (by omega) (by omega)
    ·rw[if_neg t3]
     have q1:0<=(at' vars (x:Int)).2.2.2.2.1*(g.2.length:Int):=Int.mul_nonneg s2.1 (by omega)
     have q2:(at' vars (x:Int)).2.2.2.2.1*(g.2.length:Int)<=100000*24:=Int.mul_le_mul s2.2 (by omega) (by omega) (by omega)
     have q3:0<=(at' vars (x:Int)).2.2.2.2.2*kL g g.2.length:=Int.mul_nonneg s3.1 m1
     have q4:(at' vars (x:Int)).2.2.2.2.2*kL g g.2.length<=100000*255:=Int.mul_le_mul s3.2 m2 m1 (by omega)
     rw[wr (x:=(at' vars (x:Int)).2.2.2.2.1*(g.2.length:Int)) (by omega) (by omega),wr (x:=(at' vars (x:Int)).2.2.2.2.2*kL g g.2.length) (by omega) (by omega),wr (x:=(at' vars (x:Int)).2.2.2.1+(at' vars (x:Int)).2.2.2.2.1*(g.2.length:Int)) (by omega) (by omega),wr (by omega) (by omega)]
     exact fin _ _ (by unfold lo;rw[if_neg t2,if_neg t3]) (by unfold hi;rw[if_neg t2,if_neg t3,hlen]) (by omega) (by omega) (by omega) (by omega)
  ·obtain⟨l,j⟩:=y
   obtain⟨rfl,k2,k3⟩:=hI
   simp only at k2 k3
   unfold kE sN
   simp only
   rw[if_neg (by omega),dK (by simp;omega),wr (by omega) (by omega)]
 ·obtain⟨c,i⟩:=x
  obtain⟨rfl,h2,h3⟩:=hI
  unfold gO sM
  simp only
  rw[if_neg (by omega)]
end Go.Proofs.YtigggfnchamobaaGreatDoor
end
end
section
namespace Go.Proofs.YtigggfnchamobaaGreatDoor
open Go.Sx
def fT (fuel:Nat) (p0:Int):Option (Int):=
 if p0=(0:Int)then(some (32:Int))else(ck (0<=(27:Int)) (ck ((0<=(oZ .u32 (wI .u32 ((c_ .u32 p0 (wI .u32 (0 - p0)))*(125613361:Int))) (27:Int))∧(oZ .u32 (wI .u32 ((c_ .u32 p0 (wI .u32 (0 - p0)))*(125613361:Int))) (27:Int))<((32:Nat):Int))∧List.length vT=32) (some (wI .i64 (at' vT (oZ .u32 (wI .u32 ((c_ .u32 p0 (wI .u32 (0 - p0)))*(125613361:Int))) (27:Int)))))))
theorem MW:aR Tryz.prog 139:=Tryz.call139
theorem uH (fuel:Nat) {p0:Int} (r:Int) (h:fT fuel p0=some r):
  aV Tryz.prog 139 #[vU (p0)] [Gb 0 (cellsOf Fb vT)] (fun x:Unit=>vI (r)) (fun x l=>l) (fun _ l=>l):=by
 refine aV.of Tryz.func139 rfl Tryz.ntmps139 rfl fun c=>?_
 unfold fT at h
 refine sqR<|qkAsg rfl<|dtN<|aL<|sqR<|qkMove rfl<|qkEql rfl<|dtN ?_
 refine eL h rfl (fun h=>?_) fun h=>?_
 ·refine sqR<|qkAsg rfl<|dtN<|aS<|aJ ?_
  cases h
  exact lP rfl
 refine iV<|sqR<|qkMove rfl<|qkMove rfl<|aB (MK rfl) rfl<|aB (oY rfl rfl) rfl<|aB (tU rfl rfl) rfl ?_
 have⟨j2,h⟩:=aH h
 refine aB (AG rfl rfl j2) rfl ?_
 have⟨j3,h⟩:=aH h
 refine aB (JL rfl rfl rfl rfl rfl j3.1) rfl<|aB (Oi (e:=Fb) rfl (aC.fact 0 rfl) rfl rfl rfl rfl j3) rfl<|aB (Fq rfl rfl rfl) rfl<|qkAsg rfl<|dtN<|aS ?_
 cases h
 exact lP rfl
end Go.Proofs.YtigggfnchamobaaGreatDoor
end
section
namespace Go.Proofs.YtigggfnchamobaaGreatDoor
open Go.Sx
def jX  (a12:Int):Option (Int):=
 some (a12)
def gT (a24:Int×Int) (ag23:(Int×Int)->Option (Int)) (a29:Int):Option (Int):=
 ag23 ((c_ .u32 a24.1 (wI .u32 (a24.1 - (1:Int)))),a29)
def cS (fuel:Nat) (p0:List (Int)) (a24:Int×Int) (ag23:(Int×Int)->Option (Int)):Option (Int):=
 if a24.1≠(0:Int)then(Option.bind (fT fuel a24.1) fun r31=>(ck (0<=r31∧r31<(List.length p0:Int)) (if(c_ .u32 (at' p0 r31) a24.2)=(0:Int)then(ck (0<=r31) (gT a24 ag23 (Fy .u32 a24.2 (wJ .u32 (1:Int) r31))))else(gT a24 ag23 (a24.2)))))else(jX  (a24.2))
def nR (fuel:Nat) (p0:List (Int)) (a5:Int) (a15:Unit):Option (Int):=
 bG (cS fuel p0) fuel (a5,(0:Int))
def fI (fuel:Nat) (p0:List (Int)) (p1:Int) (p2:Int) (a5:Int):Option (Int):=
 if p1=(1:Int)then(some (c_ .u32 a5 (wI .u32 (0 - a5))))else(if p1=(2:Int)then(nR fuel p0 a5 (()))else(if p1=(4:Int)then(some (p2))else(some (a5))))
def eT (fuel:Nat) (p0:List (Int)) (p1:Int) (p2:Int) (p3:Int):Option (Int):=
 if(c_ .u32 p3 p2)=(0:Int)then(fI fuel p0 p1 p2 (c_ .u32 p2 (wI .u32 (0 - p2))))else(fI fuel p0 p1 p2 (c_ .u32 p3 p2))
theorem Wd:aR Tryz.prog 83:=Tryz.call83
theorem z_ (fuel:Nat) {p0:List (Int)} {p1:Int} {p2:Int} {p3:Int} (v0:Value) (r:Int) (h:eT fuel p0 p1 p2 p3=some r):
  aV Tryz.prog 83 #[v0,vI (p1),vU (p2),vU (p3)] [Sl wR v0 p0,Gb 0 (cellsOf Fb vT)] (fun x:Unit=>vU (r)) (fun x l=>l) (fun _ l=>l):=by
 refine aV.of Tryz.func83 rfl Tryz.ntmps83 rfl fun c=>?_
 unfold eT at h
 refine jJ AC<|sqR<|bZ (Know.one ((aC.fact 0 rfl))) fun ho3=>?_
 refine aG (aM.box (cs:=[v0]) rfl (by rw[jD ho3])) rfl fun b2=>?_
 refine qkAsg rfl<|dtN<|sqR<|qkMove rfl<|qkMove rfl<|aB (oY rfl rfl) rfl<|qkAsg rfl<|dtN<|aL<|vW (A:=Int) (B:=Unit) (fun a5 b6=>⟨48,uO ([]:List Nat)⟩) (fun a5=>fI fuel p0 p1 p2 a5=some r) (fun a5 b6=>[(1,vI (p1)),(2,vU (p2)),(3,vU (a5)),(4,vP b2),(8,vU (0:Int))]) (fun a5 b6=>[bO b2 [v0] 94,xL ([]:List Nat)]) (fun a5 b6=>[Sl wR v0 p0,Gb 0 (cellsOf Fb vT)]) ?_ ?_
 ·refine sqR<|qkMove rfl<|qkEql rfl<|dtN ?_
  refine eL h rfl (fun h=>?_) fun h=>?_
  ·refine aO<|qkMove rfl<|qkMove rfl<|aB (MK rfl) rfl<|aB (oY rfl rfl) rfl<|qkAsg rfl<|dtN ?_
   exact lS (c_ .u32 p2 (wI .u32 (0 - p2))) () rfl h SF (aK.refl _) (aA.refl _ _)
  refine iV ?_
  exact lS (c_ .u32 p3 p2) () rfl h SF (aK.refl _) (aA.refl _ _)
 clear h
 intro a5 b6 h
 unfold fI at h
 refine aL<|sqR<|qkMove rfl<|dtN<|aQ<|sqR<|qkEql rfl<|qkAsg rfl<|dtN ?_
 refine eL h rfl (fun h=>?_) fun h=>?_
 ·refine sqR<|qkMove rfl<|qkMove rfl<|aB (MK rfl) rfl<|aB (oY rfl rfl) rfl<|qkAsg rfl<|dtN<|aS<|bK<|aJ<|gE (i:=1) (Ds:=([]:List Nat)) (.inl rfl) rfl ?_
  cases h
  exact vJ rfl
 refine sqR<|qkEql rfl<|qkAsg rfl<|dtN ?_
 refine eL h rfl (fun h=>?_) fun h=>?_
 ·refine sqR<|aG (aM.alloc (cs:=[vU (0:Int)]) rfl rfl) rfl fun b9=>eJ 0 rfl rfl rfl rfl rfl rfl<|dtN<|aL<|vW (A:=Int) (B:=List Nat) (fun a12 b13=>⟨48,uO b13⟩) (fun a12=>jX  a12=some r) (fun a12 b13=>[(9,vP b9)]) (fun a12 b13=>[bO b9 [vU (a12)] 25,xL b13]) (fun a12 b13=>[Sl wR v0 p0,Gb 0 (cellsOf Fb vT)]) ?_ ?_
  ·refine sqR<|qkMove rfl<|yA (A:=Unit) (B:=Nat) (vs:=[vU (a5)]) (fun a15=>nR fuel p0 a5 a15=some r) (fun a15 b16=>Value.func (.func 138) #[] #[vP b16]) (fun a15 b16=>[bO b16 [vU (a5)] 25,bO b9 [vU (0:Int)] 25,bO b2 [v0] 94,xL ([]:List Nat)]) (fun a15 b16=>[Sl wR v0 p0,Gb 0 (cellsOf Fb vT)]) (tO.fn (show aR Tryz.prog 115 from Tryz.call115) rfl) Tryz.func115 rfl Tryz.ntmps115 rfl rfl ?_ ?_
   ·refine sqR<|aG (aM.box (cs:=[vU (a5)]) rfl rfl) rfl fun b37=>qkAsg rfl<|dtN<|sqR<|aB (sS (cs:=[.tmp 1]) (vs:=[vP b37]) rfl) rfl<|qkAsg rfl<|dtN<|aS ?_
    exact uR () (b37) h (.inl rfl) (CI.r1 rfl (RV.tmp rfl)) rfl (aK.refl _) (aA.refl _ _)
   clear h
   intro a15 b16 h
   unfold nR at h
   refine dtN<|aQ<|tP (i:=3) (cs:=[vP b16]) ([]:List Nat) rfl (show aR Tryz.prog 138 from Tryz.call138) rfl Tryz.func138 rfl Tryz.ntmps138 rfl fun Ns D18 R19 hR20=>aQ<|loopL (cS fuel p0) (fun a24 b25=>[(0,kG Ns),(1,vP b16)]) (fun a24 b25=>[Lp Ns R19 LoopState.ready none,bO b16 [vU (a24.1)] 25,bO b9 [vU (a24.2)] 25,bO b2 [v0] 94,xL (List.cons D18 ([]:List Nat))]) (a5,(0:Int)) () h SF (aK.refl _) ?_
   clear h
   intro k26 a24 b25 h
   unfold cS at h
   refine aL<|sqR<|qkLd 1 rfl<|aB (kR rfl rfl) rfl<|dtN ?_
   refine eL h rfl (fun h=>?_) fun h=>?_
   ·refine iV<|aL<|midU (fun a29=>gT a24 (bG (cS fuel p0) k26) a29=some r) (fun a29 b30=>[(0,kG Ns),(1,vP b16)]) (fun a29 b30=>[Lp Ns R19 LoopState.ready none,bO b16 [vU (a24.1)] 25,bO b9 [vU (a29)] 25,bO b2 [v0] 94,xL (List.cons D18 ([]:List Nat))]) ?_ ?_
    ·refine aQ<|sqR<|qkMove rfl<|qkLd 1 rfl ?_
     have⟨r31,w32,h⟩:=fE h
     refine aG (aM.callQ MW (uH fuel  r31 w32) rfl (aA.cons (aC.fact 1 rfl) .nil)) rfl fun x33=>Ax (us:=[vI (r31)]) (i:=0) hR20 rfl rfl rfl rfl rfl rfl<|aO<|qkAsg rfl<|dtN<|CE (i:=0) rfl<|aQ<|aL ?_
     refine JR.start [0,0,3,7,0,31,63] 5 mixedOrders (by decide +kernel) ?_
     refine JR.open (by exact rfl) ?_
     refine jkLd 3 rfl<|jkMove rfl ?_
     have⟨j34,h⟩:=aH h
     refine aN rfl .nil (cV.cons (List.mem_of_getElem? (i:=0) rfl) .nil) (a_ rfl rfl (aC.fact 0 rfl) rfl rfl j34) aD.z<|aN rfl .nil (cV.cons (List.mem_of_getElem? (i:=0) rfl) .nil) (bS rfl (aC.fact 0 rfl) rfl rfl rfl Cc j34) aD.z<|jkLd 2 rfl<|bL 5 rfl rfl<|aB (oY rfl rfl) rfl<|qkEql rfl<|dtN ?_
     refine eL h rfl (fun h=>?_) fun h=>?_
     ·refine JR.start [0,0,2,7,15] 3 mixedOrders (by decide +kernel) ?_
      refine JR.open (by exact rfl) ?_
      refine jkLd 2 rfl<|jkMove rfl ?_
      have⟨j36,h⟩:=aH h
      refine aN rfl .nil .nil (Ft rfl rfl j36) aD.z<|bL 3 rfl rfl<|aB (Oj rfl rfl) rfl<|eJ 2 rfl rfl rfl rfl rfl rfl<|dY<|Ag<|vN (i:=0) rfl<|aB (oD rfl) rfl<|dtN<|wE rfl<|cU<|inT ?_
      exact iJ (Fy .u32 a24.2 (wJ .u32 (1:Int) r31)) () h SF rfl
     refine cU<|Ag<|vN (i:=0) rfl<|aB (oD rfl) rfl<|dtN<|wE rfl<|cU<|inT ?_
     exact iJ (a24.2) () h SF rfl
    clear h
    intro a29 b30 h
    unfold gT at h
    refine aO<|qkLd 1 rfl<|qkLd 1 rfl<|aB (qE rfl rfl) rfl<|aB (oY rfl rfl) rfl<|eJ 1 rfl rfl rfl rfl rfl rfl<|dtN ?_
    exact xK ((c_ .u32 a24.1 (wI .u32 (a24.1 - (1:Int)))),a29) () h SF rfl
   refine nO<|cX<|cX<|tA<|Ff (i:=0) (.inr rfl) rfl (CI.r0 rfl)<|inT ?_
   exact lS (a24.2) (List.cons D18 ([]:List Nat)) rfl h SF (aK.ix [2,4] rfl rfl) (aA.refl _ _)
  clear h
  intro a12 b13 h
  unfold jX at h
  refine sqR<|qkLd 0 rfl<|qkAsg rfl<|dtN<|aS<|bK<|aJ<|gE (i:=1) (Ds:=(b13)) (.inl rfl) rfl ?_
  cases h
  exact vJ rfl
 refine sqR<|qkEql rfl<|qkAsg rfl<|dtN ?_
 refine eL h rfl (fun h=>?_) fun h=>?_
 ·refine sqR<|qkMove rfl<|qkAsg rfl<|dtN<|aS<|bK<|aJ<|gE (i:=1) (Ds:=([]:List Nat)) (.inl rfl) rfl ?_
  cases h
  exact vJ rfl
 refine cU<|inT<|sqR<|qkMove rfl<|qkAsg rfl<|dtN<|aS<|gE (i:=1) (Ds:=([]:List Nat)) (.inl rfl) rfl ?_
 cases h
 exact vJ rfl
end Go.Proofs.YtigggfnchamobaaGreatDoor
end
section
namespace Go.Proofs.YtigggfnchamobaaGreatDoor
open Go.Sx
def h_  (a7:Unit):Option (Bool):=
 some (true)
def dZ (fuel:Nat) (p0:List (Int)) (p1:Int) (a18:Int) (ag17:(Int)->Option (Bool)):Option (Bool):=
 if a18≠(0:Int)then(Option.bind (fT fuel a18) fun r22=>(ck (0<=r22∧r22<(List.length p0:Int)) (if(c_ .u32 (at' p0 r22) p1)≠(0:Int)then(some (false))else(ag17 (c_ .u32 a18 (wI .u32 (a18 - (1:Int))))))))else(h_  (()))
def kO (fuel:Nat) (p0:List (Int)) (p1:Int) (a10:Unit):Option (Bool):=
 bG (dZ fuel p0 p1) fuel (p1)
def fO (fuel:Nat) (p0:List (Int)) (p1:Int):Option (Bool):=
 kO fuel p0 p1 (())
theorem Tx:aR Tryz.prog 133:=Tryz.call133
theorem xC (fuel:Nat) {p0:List (Int)} {p1:Int} (v0:Value) (r:Bool) (h:fO fuel p0 p1=some r):
  aV Tryz.prog 133 #[v0,vU (p1)] [Sl wR v0 p0,Gb 0 (cellsOf Fb vT)] (fun x:Unit=>Value.bool (r)) (fun x l=>l) (fun _ l=>l):=by
 refine aV.of Tryz.func133 rfl Tryz.ntmps133 rfl fun c=>?_
 unfold fO at h
 refine jJ AC<|sqR<|bZ (Know.one ((aC.fact 0 rfl))) fun ho3=>?_
 refine aG (aM.box (cs:=[v0]) rfl (by rw[jD ho3])) rfl fun b2=>?_
 refine aG (aM.box (cs:=[vU (p1)]) rfl rfl) rfl fun b4=>aG (aM.alloc (cs:=[Value.bool (false)]) rfl rfl) rfl fun b5=>dtN<|aL<|vW (A:=Unit) (B:=List Nat) (fun a7 b8=>⟨16,uO b8⟩) (fun a7=>h_  a7=some r) (fun a7 b8=>[(4,vP b5)]) (fun a7 b8=>[bO b5 [Value.bool (false)] 4,xL b8]) (fun a7 b8=>[Sl wR v0 p0,Gb 0 (cellsOf Fb vT)]) ?_ ?_
 ·refine sqR<|qkLd 1 rfl<|yA (A:=Unit) (B:=Nat) (vs:=[vU (p1)]) (fun a10=>kO fuel p0 p1 a10=some r) (fun a10 b11=>Value.func (.func 138) #[] #[vP b11]) (fun a10 b11=>[bO b11 [vU (p1)] 25,bO b5 [Value.bool (false)] 4,bO b4 [vU (p1)] 25,bO b2 [v0] 94,xL ([]:List Nat)]) (fun a10 b11=>[Sl wR v0 p0,Gb 0 (cellsOf Fb vT)]) (tO.fn (show aR Tryz.prog 115 from Tryz.call115) rfl) Tryz.func115 rfl Tryz.ntmps115 rfl rfl ?_ ?_
  ·refine sqR<|aG (aM.box (cs:=[vU (p1)]) rfl rfl) rfl fun b27=>qkAsg rfl<|dtN<|sqR<|aB (sS (cs:=[.tmp 1]) (vs:=[vP b27]) rfl) rfl<|qkAsg rfl<|dtN<|aS ?_
   exact uR () (b27) h (.inl rfl) (CI.r1 rfl (RV.tmp rfl)) rfl (aK.refl _) (aA.refl _ _)
  clear h
  intro a10 b11 h
  unfold kO at h
  refine dtN<|aQ<|tP (i:=4) (cs:=[vP b11]) ([]:List Nat) rfl (show aR Tryz.prog 138 from Tryz.call138) rfl Tryz.func138 rfl Tryz.ntmps138 rfl fun YQ D13 R14 hR15=>aQ<|loopL (dZ fuel p0 p1) (fun a18 b19=>[(0,kG YQ),(1,vP b11)]) (fun a18 b19=>[Lp YQ R14 LoopState.ready none,bO b11 [vU (a18)] 25,bO b5 [Value.bool (false)] 4,bO b4 [vU (p1)] 25,bO b2 [v0] 94,xL (List.cons D13 ([]:List Nat))]) (p1) () h SF (aK.refl _) ?_
  clear h
  intro k20 a18 b19 h
  unfold dZ at h
  refine aL<|sqR<|qkLd 1 rfl<|aB (kR rfl rfl) rfl<|dtN ?_
  refine eL h rfl (fun h=>?_) fun h=>?_
  ·refine iV<|aL<|aQ<|sqR<|qkMove rfl<|qkLd 1 rfl ?_
   have⟨r22,w23,h⟩:=fE h
   refine aG (aM.callQ MW (uH fuel  r22 w23) rfl (aA.cons (aC.fact 1 rfl) .nil)) rfl fun x24=>Ax (us:=[vI (r22)]) (i:=0) hR15 rfl rfl rfl rfl rfl rfl<|aO<|qkAsg rfl<|dtN<|CE (i:=0) rfl<|aQ<|aL ?_
   refine JR.start [0,0,3,7,0,31,63] 5 mixedOrders (by decide +kernel) ?_
   refine JR.open (by exact rfl) ?_
   refine jkLd 4 rfl<|jkMove rfl ?_
   have⟨j25,h⟩:=aH h
   refine aN rfl .nil (cV.cons (List.mem_of_getElem? (i:=0) rfl) .nil) (a_ rfl rfl (aC.fact 0 rfl) rfl rfl j25) aD.z<|aN rfl .nil (cV.cons (List.mem_of_getElem? (i:=0) rfl) .nil) (bS rfl (aC.fact 0 rfl) rfl rfl rfl Cc j25) aD.z<|jkLd 3 rfl<|bL 5 rfl rfl<|aB (oY rfl rfl) rfl<|aB (kR rfl rfl) rfl<|dtN ?_
   refine eL h rfl (fun h=>?_) fun h=>?_
   ·refine sqR<|eJ 2 rfl rfl rfl rfl rfl rfl<|dtN<|aS<|bK<|Jq (i:=0) rfl<|aB (oD rfl) rfl<|dtN<|If rfl<|aS<|bK<|aJ<|aJ<|bK<|MG (i:=0) (.inl rfl) rfl (CI.r0 rfl)<|bK<|aJ<|gE (i:=5) (Ds:=(List.cons D13 ([]:List Nat))) (.inl rfl) rfl ?_
    cases h
    exact fQ () rfl rfl (AA 2 rfl rfl rfl rfl) .nil aA.nil
   refine cU<|Ag<|vN (i:=0) rfl<|aB (oD rfl) rfl<|dtN<|wE rfl<|cU<|inT<|aO<|qkLd 1 rfl<|qkLd 1 rfl<|aB (qE rfl rfl) rfl<|aB (oY rfl rfl) rfl<|eJ 1 rfl rfl rfl rfl rfl rfl<|dtN ?_
   exact xK (c_ .u32 a18 (wI .u32 (a18 - (1:Int)))) () h SF rfl
  refine nO<|cX<|cX<|tA<|Ff (i:=0) (.inr rfl) rfl (CI.r0 rfl)<|inT ?_
  exact lS () (List.cons D13 ([]:List Nat)) rfl h SF (aK.ix [2,5] rfl rfl) (aA.refl _ _)
 clear h
 intro a7 b8 h
 unfold h_ at h
 refine sqR<|eJ 0 rfl rfl rfl rfl rfl rfl<|dtN<|aS<|gE (i:=1) (Ds:=(b8)) (.inl rfl) rfl ?_
 cases h
 exact fQ () rfl rfl (AA 0 rfl rfl rfl rfl) .nil aA.nil
end Go.Proofs.YtigggfnchamobaaGreatDoor
end
section
namespace Go.Proofs.YtigggfnchamobaaGreatDoor
open Go.Sx
def gS (fuel:Nat) (p0:List (Int)) (p1:Int) (p2:Int) (p3:Int) (a2:Bool):Option (Bool):=
 if a2=true then(some (false))else(if p1=(1:Int)then(some (decide ((c_ .u32 p3 (wI .u32 (p3 - (1:Int))))=(0:Int))))else(if p1=(2:Int)then(Option.bind (fO fuel p0 p3) fun r7=>(some (r7)))else(if p1=(4:Int)then(some (decide (p3=p2)))else(some (true)))))
def eS (fuel:Nat) (p0:List (Int)) (p1:Int) (p2:Int) (p3:Int):Option (Bool):=
 if p3=(0:Int)then(gS fuel p0 p1 p2 p3 (true))else(gS fuel p0 p1 p2 p3 (decide ((sC .u32 p3 p2)≠(0:Int))))
theorem Tp:aR Tryz.prog 112:=Tryz.call112
theorem zZ (fuel:Nat) {p0:List (Int)} {p1:Int} {p2:Int} {p3:Int} (v0:Value) (r:Bool) (h:eS fuel p0 p1 p2 p3=some r):
  aV Tryz.prog 112 #[v0,vI (p1),vU (p2),vU (p3)] [Sl wR v0 p0,Gb 0 (cellsOf Fb vT)] (fun x:Unit=>Value.bool (r)) (fun x l=>l) (fun _ l=>l):=by
 refine aV.of Tryz.func112 rfl Tryz.ntmps112 rfl fun c=>?_
 unfold eS at h
 refine sqR<|qkAsg rfl<|dtN<|aL<|aL<|midU (fun a2=>gS fuel p0 p1 p2 p3 a2=some r) (fun a2 b3=>[(0,v0),(1,vI (p1)),(2,vU (p2)),(3,vU (p3)),(16,Value.bool (a2))]) (fun a2 b3=>[]) ?_ ?_
 ·refine aO<|qkMove rfl<|qkEql rfl<|qkMove rfl ?_
  refine Cy h rfl (fun _ h=>?_) fun _ h=>?_
  ·refine gdSkip rfl<|gdSkip rfl<|gdSkip rfl<|gdSkip rfl<|aB (bW rfl rfl) rfl<|dtN ?_
   exact iJ (true) () h SF rfl
  refine gyMove rfl<|gyMove rfl<|aT rfl (AE rfl rfl) rfl<|aT rfl (kR rfl rfl) rfl<|aB (cA rfl rfl) rfl<|dtN ?_
  exact iJ (decide ((sC .u32 p3 p2)≠(0:Int))) () h SF rfl
 clear h
 intro a2 b3 h
 unfold gS at h
 refine zJ h rfl (fun _ h=>?_) fun _ h=>?_
 ·refine sqR<|qkAsg rfl<|dtN<|aS<|aJ ?_
  cases h
  exact lP rfl
 refine iV<|aL<|sqR<|qkMove rfl<|dtN<|aQ<|sqR<|qkEql rfl<|qkAsg rfl<|dtN ?_
 refine eL h rfl (fun h=>?_) fun h=>?_
 ·refine sqR<|qkMove rfl<|qkMove rfl<|aB (qE rfl rfl) rfl<|aB (oY rfl rfl) rfl<|qkEql rfl<|qkAsg rfl<|dtN<|aS<|bK<|aJ ?_
  cases h
  exact lP rfl
 refine sqR<|qkEql rfl<|qkAsg rfl<|dtN ?_
 refine eL h rfl (fun h=>?_) fun h=>?_
 ·refine sqR<|qkMove rfl<|qkMove rfl ?_
  have⟨r7,w8,h⟩:=fE h
  refine aG (aM.callQ Tx (xC fuel v0 r7 w8) rfl (aA.cons (aC.fact 0 rfl) (aA.cons (aC.fact 1 rfl) .nil))) rfl fun x9=>qkAsg rfl<|dtN<|aS<|bK<|aJ ?_
  cases h
  exact lP rfl
 refine sqR<|qkEql rfl<|qkAsg rfl<|dtN ?_
 refine eL h rfl (fun h=>?_) fun h=>?_
 ·refine sqR<|qkMove rfl<|qkMove rfl<|qkEql rfl<|qkAsg rfl<|dtN<|aS<|bK<|aJ ?_
  cases h
  exact lP rfl
 refine cU<|inT<|sqR<|qkAsg rfl<|dtN<|aS ?_
 cases h
 exact lP rfl
end Go.Proofs.YtigggfnchamobaaGreatDoor
end
section
namespace Go.Proofs.YtigggfnchamobaaGreatDoor
open Go.Sx
def qW  (a5:List (Int)):Option (List (Int)):=
 some (a5)
def qX (a10:Int×List (Int)) (ag9:(Int×List (Int))->Option (List (Int))) (a15:List (Int)):Option (List (Int)):=
 ag9 ((wI .i64 (a10.1+(1:Int))),a15)
def kW (p0:List (Int)×(List (List (Int×Int)))) (a10:Int×List (Int)) (ag9:(Int×List (Int))->Option (List (Int))) (a21:Int×List (Int)) (ag20:(Int×List (Int))->Option (List (Int))):Option (List (Int)):=
 if a21.1<(List.length (at' p0.2 a10.1):Int)then(ck (0<=a21.1∧a21.1<(List.length (at' p0.2 a10.1):Int)) (ck (0<=a10.1∧a10.1<(List.length a21.2:Int)) (ck (0<=((at' (at' p0.2 a10.1) a21.1).1)) (ck (0<=a10.1∧a10.1<(List.length a21.2:Int)) (ag20 ((wI .i64 (a21.1+(1:Int))),(List.set a21.2 (Int.toNat a10.1) (Fy .u32 (at' a21.2 a10.1) (wJ .u32 (1:Int) ((at' (at' p0.2 a10.1) a21.1).1))))))))))else(qX a10 ag9 (a21.2))
def gW (fuel:Nat) (p0:List (Int)×(List (List (Int×Int)))) (a10:Int×List (Int)) (ag9:(Int×List (Int))->Option (List (Int))):Option (List (Int)):=
 if a10.1<(List.length p0.2:Int)then(ck (0<=a10.1∧a10.1<(List.length p0.2:Int)) (bG (kW p0 a10 ag9) fuel ((0:Int),a10.2)))else(qW  (a10.2))
def mD (fuel:Nat) (p0:List (Int)×(List (List (Int×Int)))):Option (List (Int)):=
 ck (0<=(List.length p0.2:Int)∧(List.length p0.2:Int)<=1099511627) (bG (gW fuel p0) fuel ((0:Int),(List.replicate (Int.toNat (List.length p0.2:Int)) (0:Int))))
theorem Wc:aR Tryz.prog 80:=Tryz.call80
theorem EA (fuel:Nat) {p0:List (Int)×(List (List (Int×Int)))} (v0:Value)  (v1:Value)  (z2:List (Value×List (Int×Int))) (r:List (Int)) (h:mD fuel p0=some r):
  aV Tryz.prog 80 #[Value.agg #[v0,v1]] [Sl bM v0 p0.1,S2 aZ v1 z2 p0.2] (fun x:Value=>x) (fun x l=>Ar jV x r::l) (fun _ l=>l):=by
 refine aV.of Tryz.func80 rfl Tryz.ntmps80 rfl fun c=>?_
 unfold mD at h
 refine sqR<|aG (aM.box (cs:=[v0,v1]) rfl rfl) rfl fun b1=>qkAsg rfl<|dtN<|sqR<|qkFld rfl<|qkLd 0 rfl<|aB (iX rfl (aC.fact 1 rfl) rfl) rfl ?_
 have⟨j2,h⟩:=aH h
 refine aG (oH (e:=jV) (0:Int) rfl rfl rfl rfl j2 rfl rfl rfl) rfl fun u3=>qkAsg rfl<|dtN<|aL<|midU (fun a5=>qW  a5=some r) (fun a5 b6=>[(3,u3)]) (fun a5 b6=>[Ar jV u3 a5]) ?_ ?_
 ·refine sqR<|qkFld rfl<|qkLd 1 rfl<|aB (iX rfl (aC.fact 1 rfl) rfl) rfl<|qkMove rfl<|dtN<|aQ<|loopL (gW fuel p0) (fun a10 b11=>[(3,u3),(13,v1),(14,vI (List.length p0.2:Int)),(15,vI (a10.1))]) (fun a10 b11=>[Ar jV u3 a10.2]) ((0:Int),(List.replicate (Int.toNat (List.length p0.2:Int)) (0:Int))) () h SF (aK.ix [0] rfl rfl) ?_
  clear h
  intro k12 a10 b11 h
  unfold gW at h
  refine sqR<|qkLss rfl<|dtN<|aL ?_
  refine eL h rfl (fun h=>?_) fun h=>?_
  ·refine iV<|aL<|midU (fun a15=>qX a10 (bG (gW fuel p0) k12) a15=some r) (fun a15 b16=>[(3,u3),(13,v1),(14,vI (List.length p0.2:Int)),(15,vI (a10.1))]) (fun a15 b16=>[Ar jV u3 a15]) ?_ ?_
   ·refine aQ<|sqR<|qkMove rfl ?_
    have⟨j17,h⟩:=aH h
    refine aB (cO rfl rfl (aC.fact 1 rfl) rfl rfl j17) rfl<|aB (cM rfl (aC.fact 1 rfl) rfl rfl j17) rfl<|qkAsg rfl<|qkAsg rfl<|dtN<|sqR<|qkMove rfl<|aB (b_ rfl (aC.el (aC.fact 1 rfl) j17.1 j17.2) rfl) rfl<|qkMove rfl<|dtN<|aQ<|loopL (kW p0 a10 (bG (gW fuel p0) k12)) (fun a21 b22=>[(3,u3),(4,vI (a10.1)),(13,v1),(14,vI (List.length p0.2:Int)),(15,vI (a10.1)),(20,(at' z2 a10.1).1),(21,vI (List.length (at' p0.2 a10.1):Int)),(22,vI (a21.1))]) (fun a21 b22=>[Ar jV u3 a21.2]) ((0:Int),a10.2) () h SF (aK.refl _) ?_
    clear h
    intro k23 a21 b22 h
    unfold kW at h
    refine sqR<|qkLss rfl<|dtN<|aL ?_
    refine eL h rfl (fun h=>?_) fun h=>?_
    ·refine iV<|aL<|aQ<|sqR ?_
     have⟨j25,h⟩:=aH h
     refine aB (a_ rfl rfl (aC.el (aC.fact 1 rfl) j17.1 j17.2) rfl rfl j25) rfl<|aB (fZ (cs:=[vI ((at' (at' p0.2 a10.1) a21.1).1),vI ((at' (at' p0.2 a10.1) a21.1).2)]) rfl (aC.el (aC.fact 1 rfl) j17.1 j17.2) bJ rfl rfl rfl rfl j25) rfl<|aG (aM.alloc (cs:=[vI (0:Int),vI (0:Int)]) rfl rfl) rfl fun b26=>bI 0 (vs:=[vI ((at' (at' p0.2 a10.1) a21.1).1),vI ((at' (at' p0.2 a10.1) a21.1).2)]) rfl rfl rfl rfl rfl rfl<|dtN ?_
     refine JR.start [0,0,3,7,0,16,48,127,255,511] 7 mixedOrders (by decide +kernel) ?_
     refine JR.open (by exact rfl) ?_
     refine jkMove rfl<|jkMove rfl ?_
     have⟨j27,h⟩:=aH h
     refine aN rfl (aK.cons 1 rfl .nil) .nil (a_ rfl rfl (aU (aC.res 0 rfl) kU) rfl rfl j27) aD.z<|aN rfl (aK.cons 1 rfl .nil) .nil (bS rfl (aU (aC.res 0 rfl) kU) rfl rfl rfl Cc j27) aD.z<|jkFld rfl<|jkLd 0 rfl ?_
     have⟨j28,h⟩:=aH h
     refine aN rfl .nil .nil (Ft rfl rfl j28) aD.z<|bL 7 rfl rfl<|aB (Oj rfl rfl) rfl ?_
     have⟨j29,h⟩:=aH h
     refine aB (a_ rfl rfl (aU (aC.res 1 rfl) kU) rfl rfl j29) rfl<|tQ 1 (Fy .u32 (at' a21.2 a10.1) (wJ .u32 (1:Int) ((at' (at' p0.2 a10.1) a21.1).1))) j29 rfl rfl rfl rfl rfl rfl rfl<|dY<|inT<|aO<|qkAdd rfl<|qkMove rfl<|dtN ?_
     exact nN ((wI .i64 (a21.1+(1:Int))),(List.set a21.2 (Int.toNat a10.1) (Fy .u32 (at' a21.2 a10.1) (wJ .u32 (1:Int) ((at' (at' p0.2 a10.1) a21.1).1))))) () h SF (aK.ix [1] rfl rfl) (aA.refl _ _)
    refine nO<|cX<|cX<|tA<|inT ?_
    exact iJ (a21.2) () h SF rfl
   clear h
   intro a15 b16 h
   unfold qX at h
   refine aO<|qkAdd rfl<|qkMove rfl<|dtN ?_
   exact xK ((wI .i64 (a10.1+(1:Int))),a15) () h SF rfl
  refine xO ?_
  exact iJ (a10.2) () h SF rfl
 clear h
 intro a5 b6 h
 unfold qW at h
 refine sqR<|qkMove rfl<|qkAsg rfl<|dtN<|aS ?_
 cases h
 exact fQ (u3) rfl rfl (RV.tmp rfl) (aK.refl _) aA.nil
end Go.Proofs.YtigggfnchamobaaGreatDoor
end
section
namespace Go.Proofs.YtigggfnchamobaaGreatDoor
open Go Go.Sx
structure Od (m k:Nat):Prop where
 bit:m.testBit k=true
 low:∀j,j<k->m.testBit j=false
theorem Gi {m:Nat} (h:m≠0):∃k,Od m k:=by
 obtain⟨i,hi⟩:=Nat.exists_testBit_of_ne_zero h
 obtain⟨k,_,h1,h2⟩:=HE (p:=fun i=>m.testBit i=true) i hi
 exact⟨k,h1,fun j hj=>by simpa using h2 j hj⟩
theorem Kx {m k:Nat} (h:Od m k) (i:Nat):(m - 1).testBit i=if i<k then true else if i=k then false else m.testBit i:=by
 have hm:m=2^(k+1)*(m / 2^(k+1))+2^k:=by
  refine Nat.eq_of_testBit_eq fun i=> ?_
  have hlt:2^k<2^(k+1):=Nat.pow_lt_pow_right (by omega) (by omega)
  rw[Nat.testBit_two_pow_mul_add _ hlt,Nat.testBit_two_pow,Nat.testBit_div_two_pow]
  rcases Nat.lt_trichotomy i k with q|q|q
  ·rw[if_pos (by omega),h.low i q,decide_eq_false (by omega)]
  ·subst q;rw[if_pos (by omega),h.bit,decide_eq_true rfl]
  ·rw[if_neg (by omega),show i - (k+1)+(k+1)=i by omega]
 have hp:0<2^k:=Nat.pow_pos (by omega)
 have hlt:2^k - 1<2^(k+1):=by rw[Nat.pow_succ];omega
 have e:m - 1=2^(k+1)*(m / 2^(k+1))+(2^k - 1):=by omega
 rw[e,Nat.testBit_two_pow_mul_add _ hlt,Nat.testBit_two_pow_sub_one,Nat.testBit_div_two_pow]
 rcases Nat.lt_trichotomy i k with q|q|q
 ·rw[if_pos (by omega),if_pos q,decide_eq_true q]
 ·subst q;rw[if_pos (by omega),if_neg (by omega),if_pos rfl,decide_eq_false (by omega)]
 ·rw[if_neg (by omega),if_neg (by omega),if_neg (by omega),show i - (k+1)+(k+1)=i by omega]
theorem aaE {m:Nat} (hm:m<4294967296) (h0:m≠0):wI .u32 (0 - (m:Int))=((4294967296 - m:Nat):Int):=by
 rw[BY]
 have:IntKind.u32.wrap (0 - (m:Int))=(0 - (m:Int))%4294967296:=rfl
 rw[this];omega
theorem Yv {m:Nat} (hm:m<4294967296) (h0:m≠0):wI .u32 ((m:Int) - 1)=((m - 1:Nat):Int):=by
 rw[show(m:Int) - 1=((m - 1:Nat):Int) by omega,BY,HZ _ (by omega)]
theorem WI {m k:Nat} (hm:m<4294967296) (h:Od m k):c_ .u32 (m:Int) (wI .u32 (0 - (m:Int)))=((2^k:Nat):Int):=by
 have h0:m≠0:=fun e=>by have:=h.bit;rw[e]at this;simp at this
 have hk:k<32:=Dx hm h.bit
 rw[aaE hm h0,Eg hm (by omega)]
 congr 1
 refine Nat.eq_of_testBit_eq fun i=> ?_
 rw[Nat.testBit_and,show 4294967296 - m=2^32 - ((m - 1)+1) by omega,Nat.testBit_two_pow_sub_succ (by omega),Nat.testBit_two_pow,Kx h]
 rcases Nat.lt_trichotomy i k with q|q|q
 ·rw[h.low i q,decide_eq_false (show¬k=i by omega)];rfl
 ·subst q;rw[h.bit,if_neg (by omega),if_pos rfl,decide_eq_true hk,decide_eq_true rfl];rfl
 ·rw[if_neg (by omega),if_neg (by omega),decide_eq_false (show¬k=i by omega)]
  cases m.testBit i<;>simp
theorem LG {m k:Nat} (hm:m<4294967296) (h:Od m k):∃m':Nat,c_ .u32 (m:Int) (wI .u32 ((m:Int) - 1))=(m':Int)∧m'<4294967296∧∀i,m'.testBit i=(m.testBit i&&decide (i≠k)):=by
 have h0:m≠0:=fun e=>by have:=h.bit;rw[e]at this;simp at this
 refine⟨m &&& (m - 1),by rw[Yv hm h0,Eg hm (by omega)],LC hm,fun i=> ?_⟩
 rw[Nat.testBit_and,Kx h]
 rcases Nat.lt_trichotomy i k with q|q|q
 ·rw[h.low i q];rfl
 ·subst q;simp
 ·rw[if_neg (by omega),if_neg (by omega)]
  have:decide (i≠k)=true:=decide_eq_true (by omega)
  rw[this];cases m.testBit i<;>rfl
theorem Xc:∀k:Fin 32,((0:Int)<=oZ .u32 (wI .u32 ((((2^k.val:Nat):Int))*125613361)) 27∧oZ .u32 (wI .u32 ((((2^k.val:Nat):Int))*125613361)) 27<((32:Nat):Int))∧wI .i64 (at' vT (oZ .u32 (wI .u32 ((((2^k.val:Nat):Int))*125613361)) 27))=(k.val:Int):=by decide +kernel
theorem Vm (f:Nat) {m k:Nat} (hm:m<4294967296) (h:Od m k):fT f (m:Int)=some (k:Int):=by
 have h0:m≠0:=fun e=>by have:=h.bit;rw[e]at this;simp at this
 obtain⟨h1,h2⟩:=Xc ⟨k,Dx hm h.bit⟩
 unfold fT
 rw[if_neg (by omega),dK (by decide),WI hm h,dK ⟨h1,rfl⟩,h2]

structure Jx (g:GR) (r:List Int):Prop where
 len:r.length=g.2.length
 at':∀v:Nat,v<g.2.length->∃m:Nat,Go.Sx.at' r (v:Int)=(m:Int)∧m<4294967296∧∀u,m.testBit u=true↔Ia g v u
theorem WO {g:GR} (hV:VG g):∃r,mD 1000 g=some r∧Jx g r:=by
 have h24:=hV.n24
 unfold mD
 rw[dK (by omega)]
 obtain⟨⟨a,r⟩,⟨ha,hl,hr⟩,he⟩:=AQ (step:=gW 1000 g) (K:=fun z=>some z.2) g.2.length
  (fun k z=>z.1=(k:Int)∧z.2.length=g.2.length∧∀v:Nat,v<g.2.length->∃m:Nat,Go.Sx.at' z.2 (v:Int)=(m:Int)∧m<4294967296∧∀u,m.testBit u=true↔v<k∧Ia g v u) (fun k z ag hk hI=>by
  obtain⟨a,r⟩:=z
  obtain⟨ha,hl,hr⟩:=hI
  dsimp only at ha hl hr
  subst ha
  have hdeg:=(hV.node k hk).deg
  obtain⟨⟨b,r'⟩,⟨hb,hl',hr'⟩,he⟩:=AQ (step:=kW g ((k:Int),r) ag) (K:=fun z=>ag (((k+1:Nat):Int),z.2)) (row g k).length
   (fun j z=>z.1=(j:Int)∧z.2.length=g.2.length∧∀v:Nat,v<g.2.length->∃m:Nat,Go.Sx.at' z.2 (v:Int)=(m:Int)∧m<4294967296∧∀u,m.testBit u=true↔(v<k∧Ia g v u)∨(v=k∧∃i,i<j∧(iO (row g k) i).1=(u:Int))) (fun j z ag2 hj hJ=>by
   obtain⟨b,q⟩:=z
   obtain⟨hb,hl',hr'⟩:=hJ
   dsimp only at hb hl' hr'
   subst hb
   obtain⟨w,hw,hwe,hadj⟩:=hV.port hk hj
   obtain⟨m,hm,hm32,hbits⟩:=hr' k hk
   refine⟨(((j+1:Nat):Int),q.set k (((m ||| 2^w:Nat)):Int)),⟨rfl,by simpa using hl',fun v hv=> ?_⟩,?_⟩
   ·show∃m',Go.Sx.at' (q.set k _) (v:Int)=_∧_
    rw[AI q k v _ (by omega)]
    by_cases e:v=k
    ·subst e
     refine⟨_,if_pos rfl,RF hm32 (BR (by omega)),fun u=> ?_⟩
     rw[Nat.testBit_or,Nat.testBit_two_pow,Bool.or_eq_true,hbits u,decide_eq_true_eq]
     constructor
     ·rintro((h|⟨_,i,hi,h⟩)|h)
      ·exact .inl h
      ·exact .inr ⟨rfl,i,by omega,h⟩
      ·exact .inr ⟨rfl,j,by omega,by rw[hwe,h]⟩
     ·rintro(h|⟨_,i,hi,h⟩)
      ·exact .inl (.inl h)
      ·by_cases hij:i=j
       ·subst hij;right;rw[hwe]at h;omega
       ·exact .inl (.inr ⟨rfl,i,by omega,h⟩)
    ·obtain⟨m',a1,a2,a3⟩:=hr' v hv
     refine⟨m',by rw[if_neg e];exact a1,a2,fun u=> ?_⟩
     rw[a3 u]
     constructor
     ·rintro(h|⟨h,_⟩)
      ·exact .inl h
      ·exact absurd h e
     ·rintro(h|⟨h,_⟩)
      ·exact .inl h
      ·exact absurd h e
   ·unfold kW
    dsimp only
    rw[if_pos (show(j:Int)<((row g k).length:Int) by omega),dK (show 0<=(j:Int)∧(j:Int)<((row g k).length:Int) by omega),dK (by omega),show Go.Sx.at' (Go.Sx.at' g.2 (k:Int)) (j:Int)=iO (row g k) j from rfl,hwe,dK (by omega),dK (by omega),hm,Fz hm32 (by omega),eW (by omega),Int.toNat_natCast]) (fun z ag2 hJ=>by
   obtain⟨b,q⟩:=z
   obtain⟨hb,hl',hr'⟩:=hJ
   dsimp only at hb hl' hr'
   subst hb
   unfold kW qX
   dsimp only
   rw[if_neg (show¬((row g k).length:Int)<((row g k).length:Int) by omega),eW (by omega)]) 1000 ((0:Int),r) ⟨rfl,hl,fun v hv=>by
    obtain⟨m,a1,a2,a3⟩:=hr v hv
    refine⟨m,a1,a2,fun u=> ?_⟩
    rw[a3 u]
    constructor
    ·exact fun h=> .inl h
    ·rintro(h|⟨_,i,hi,_⟩)
     ·exact h
     ·omega⟩ (by omega)
  dsimp only at hb hl' hr'
  refine⟨(((k+1:Nat):Int),r'),⟨rfl,hl',fun v hv=> ?_⟩,?_⟩
  ·obtain⟨m,a1,a2,a3⟩:=hr' v hv
   refine⟨m,a1,a2,fun u=> ?_⟩
   rw[a3 u]
   constructor
   ·rintro(⟨h1,h2⟩|⟨rfl,i,hi,h⟩)
    ·exact⟨by omega,h2⟩
    ·exact⟨by omega,i,hi,h⟩
   ·rintro⟨h1,h2⟩
    by_cases e:v=k
    ·subst e
     obtain⟨i,hi,h⟩:=h2
     exact .inr ⟨rfl,i,hi,h⟩
    ·exact .inl ⟨by omega,h2⟩
  ·unfold gW
   dsimp only
   rw[if_pos (by omega),dK (by omega)]
   exact he) (fun z ag hI=>by
  obtain⟨a,r⟩:=z
  obtain⟨ha,hl,hr⟩:=hI
  dsimp only at ha
  subst ha
  unfold gW qW
  dsimp only
  rw[if_neg (by omega)]) 1000 ((0:Int),List.replicate (Int.toNat (g.2.length:Int)) (0:Int)) ⟨rfl,by simp,fun v hv=>⟨0,by
   rw[Int.toNat_natCast,kA (by simpa using hv)];simp,by omega,fun u=>by simp⟩⟩ (by omega)
 refine⟨r,he,hl,fun v hv=> ?_⟩
 obtain⟨m,a1,a2,a3⟩:=hr v hv
 exact⟨m,a1,a2,fun u=>by rw[a3 u];exact⟨fun h=>h.2,fun h=>⟨hv,h⟩⟩⟩
end Go.Proofs.YtigggfnchamobaaGreatDoor
end
section
namespace Go.Proofs.YtigggfnchamobaaGreatDoor
open Go Go.Sx
def Pv (g:GR) (m:Nat):Prop:=∀i,m.testBit i=true->i<g.2.length
theorem Pv.lt {g:GR} (hV:VG g) {m:Nat} (h:Pv g m):m<16777216:=by
 have h24:=hV.n24
 refine Nat.lt_of_lt_of_le (Nat.lt_pow_two_of_testBit (n:=24) m fun i hi=> ?_) (Nat.le_refl _)
 cases hb:m.testBit i with
 |false=>rfl
 |true=>have:=h i hb;omega
theorem XU {m:Nat} (h:∀i,i<32->m.testBit i=false) (hm:m<4294967296):m=0:=by
 refine Nat.eq_of_testBit_eq fun i=> ?_
 rw[Nat.zero_testBit]
 rcases Nat.lt_or_ge i 32 with q|q
 ·exact h i q
 ·cases hb:m.testBit i with
  |false=>rfl
  |true=>have:=Dx hm hb;omega
theorem LZ {g:GR} (hV:VG g) {r:List Int} (hN:Jx g r) {t:Nat} (ht:Pv g t) (hi:∀v u,t.testBit v=true->t.testBit u=true->¬Ia g v u) (F:Nat):∀(d s fuel rest:Nat),s+d=32->rest<4294967296->(∀i,i<s->rest.testBit i=false)->(∀i,rest.testBit i=true->t.testBit i=true)->d<fuel->
  bG (dZ F r (t:Int)) fuel (rest:Int)=some true:=by
 have h24:=hV.n24
 have ht32:t<4294967296:=by have:=ht.lt hV;omega
 intro d
 induction d using Nat.strongRecOn with
 | _ d ih =>
  intro s fuel rest hs hr hlow hsub hf
  obtain⟨fuel,rfl⟩:∃f,fuel=f+1:=⟨fuel - 1,by omega⟩
  show dZ F r (t:Int) (rest:Int) (bG _ fuel)=_
  unfold dZ h_
  by_cases h0:rest=0
  ·rw[if_neg (by omega)]
  obtain⟨k,hk⟩:=Gi h0
  have hkn:=ht k (hsub k hk.bit)
  have hks:s<=k:=by
   rcases Nat.lt_or_ge k s with q|q
   ·have:=hk.bit;rw[hlow k q]at this;cases this
   ·exact q
  obtain⟨m,hm,hm32,hbits⟩:=hN.at' k hkn
  rw[if_pos (by omega),bH (Vm F hr hk),dK (by have:=hN.len;omega),hm,Eg hm32 ht32]
  have hz:m &&& t=0:=by
   refine XU (fun i _=> ?_) (LC hm32)
   rw[Nat.testBit_and]
   cases h1:m.testBit i with
   |false=>rfl
   |true=>
    cases h2:t.testBit i with
    |false=>rfl
    |true=>exact absurd ((hbits i).1 h1) (hi k i (hsub k hk.bit) h2)
  rw[hz,if_neg (by simp)]
  obtain⟨m',e1,e2,e3⟩:=LG hr hk
  rw[e1]
  have hk32:k<32:=by omega
  refine ih (32 - (k+1)) (by omega) (k+1) fuel m' (by omega) e2 (fun i hi=> ?_) (fun i hi=> ?_) (by omega)
  ·rw[e3]
   by_cases e:i=k
   ·simp[e]
   ·rw[hk.low i (by omega)];rfl
  ·rw[e3,Bool.and_eq_true]at hi
   exact hsub i hi.1
theorem Ew {g:GR} (hV:VG g) {r:List Int} (hN:Jx g r) {t:Nat} (ht:Pv g t) (hi:∀v u,t.testBit v=true->t.testBit u=true->¬Ia g v u):fO 1000 r (t:Int)=some true:=
 LZ hV hN ht hi 1000 32 0 1000 t (by omega) (by have:=ht.lt hV;omega) (fun i hi=>by omega) (fun i h=>h) (by omega)
theorem Ke {g:GR} (hV:VG g) {r:List Int} (hN:Jx g r) {W:Nat} (hW:Pv g W) (F:Nat):∀(d s fuel rest t:Nat),s+d=32->rest<4294967296->t<4294967296->(∀i,i<s->rest.testBit i=false)->(∀i,rest.testBit i=true->W.testBit i=true)->(∀i,t.testBit i=true->W.testBit i=true)->(∀v u,t.testBit v=true->t.testBit u=true->¬Ia g v u)->(W≠0->t≠0∨rest=W)->d<fuel->
  ∃t':Nat,bG (cS F r) fuel ((rest:Int),(t:Int))=some (t':Int)∧t'<4294967296∧(∀i,t'.testBit i=true->W.testBit i=true)∧(∀v u,t'.testBit v=true->t'.testBit u=true->¬Ia g v u)∧(W≠0->t'≠0):=by
 have h24:=hV.n24
 intro d
 induction d using Nat.strongRecOn with
 | _ d ih =>
  intro s fuel rest t hs hr ht32 hlow hsub htW hind hne hf
  obtain⟨fuel,rfl⟩:∃f,fuel=f+1:=⟨fuel - 1,by omega⟩
  have hun:bG (cS F r) (fuel+1) ((rest:Int),(t:Int))=cS F r ((rest:Int),(t:Int)) (bG (cS F r) fuel):=rfl
  rw[hun]
  unfold cS jX gT
  dsimp only
  by_cases h0:rest=0
  ·rw[if_neg (by omega)]
   refine⟨t,rfl,ht32,htW,hind,fun hw=> ?_⟩
   rcases hne hw with h|h
   ·exact h
   ·exact absurd (h.symm.trans h0) hw
  obtain⟨k,hk⟩:=Gi h0
  have hkW:=hsub k hk.bit
  have hkn:=hW k hkW
  have hks:s<=k:=by
   rcases Nat.lt_or_ge k s with q|q
   ·have:=hk.bit;rw[hlow k q]at this;cases this
   ·exact q
  obtain⟨m,hm,hm32,hbits⟩:=hN.at' k hkn
  obtain⟨m',e1,e2,e3⟩:=LG hr hk
  have hk32:k<32:=by omega
  have low':∀i,i<k+1->m'.testBit i=false:=fun i hi=>by
   rw[e3]
   by_cases e:i=k
   ·simp[e]
   ·rw[hk.low i (by omega)];rfl
  have sub':∀i,m'.testBit i=true->W.testBit i=true:=fun i hi=>by
   rw[e3,Bool.and_eq_true]at hi
   exact hsub i hi.1
  rw[if_pos (by omega),bH (Vm F hr hk),dK (by have:=hN.len;omega),hm,Eg hm32 ht32,e1]
  by_cases hz:m &&& t=0
  ·rw[hz,if_pos (by rfl),dK (by omega),Fz ht32 hk32]
   have hkt:(t ||| 2^k).testBit k=true:=by rw[Nat.testBit_or,Nat.testBit_two_pow];simp
   have nadj:∀u,t.testBit u=true->¬Ia g k u:=fun u hu ha=>by
    have:=congrArg (fun q=>q.testBit u) hz
    simp only[Nat.testBit_and,Nat.zero_testBit,(hbits u).2 ha,hu]at this
    cases this
   refine ih (32 - (k+1)) (by omega) (k+1) fuel m' (t ||| 2^k) (by omega) e2 (RF ht32 (BR hk32)) low' sub' (fun i hi=> ?_) (fun v u hv hu=> ?_) (fun _=> .inl fun e=>by rw[e]at hkt;simp at hkt) (by omega)
   ·rw[Nat.testBit_or,Nat.testBit_two_pow,Bool.or_eq_true,decide_eq_true_eq]at hi
    rcases hi with hi|rfl
    ·exact htW i hi
    ·exact hkW
   ·rw[Nat.testBit_or,Nat.testBit_two_pow,Bool.or_eq_true,decide_eq_true_eq]at hv hu
    rcases hv with hv|rfl
    ·rcases hu with hu|rfl
     ·exact hind v u hv hu
     ·exact fun ha=>nadj v hv (hV.back (hW v (htW v hv)) ha)
    ·rcases hu with hu|rfl
     ·exact nadj u hu
     ·rintro⟨i,hi,he⟩
      exact((hV.node k hkn).links i hi).2.1 he
  ·rw[if_neg (by omega)]
   refine ih (32 - (k+1)) (by omega) (k+1) fuel m' t (by omega) e2 ht32 low' sub' htW hind (fun _=> .inl fun e=> ?_) (by omega)
   rw[e]at hz
   exact hz (Nat.and_zero m)
theorem Mk {g:GR} (hV:VG g) {r:List Int} (hN:Jx g r) {kind:Int} (hk1:1<=kind) (hk4:kind<=4) {e w:Nat} (he:Pv g e) (hw:w<4294967296):
  ∃t:Nat,eT 1000 r kind (e:Int) (w:Int)=some (t:Int)∧(∀i,t.testBit i=true->e.testBit i=true)∧(e≠0->t≠0∧eS 1000 r kind (e:Int) (t:Int)=some true∧(kind=2->∀v u,t.testBit v=true->t.testBit u=true->¬Ia g v u)∧(kind=4->t=e)):=by
 have he24:=he.lt hV
 have he32:e<4294967296:=by omega
 -- the wish
 obtain⟨W,hW,hW32,hWe,hW0,hWm⟩:∃W:Nat,eT 1000 r kind (e:Int) (w:Int)=fI 1000 r kind (e:Int) (W:Int)∧W<4294967296∧(∀i,W.testBit i=true->e.testBit i=true)∧(e≠0->W≠0)∧(e=0->W=0):=by
  unfold eT
  rw[Eg hw he32]
  by_cases h0:w &&& e=0
  ·rw[h0,if_pos (show((0:Nat):Int)=0 from rfl)]
   by_cases hee:e=0
   ·refine⟨0,by rw[hee];rfl,by omega,fun i h=>by simp at h,fun h=>absurd hee h,fun _=>rfl⟩
   ·obtain⟨k,hk⟩:=Gi hee
    have hk32:=Dx he32 hk.bit
    refine⟨2^k,by rw[WI he32 hk],BR hk32,fun i h=> ?_,fun _=>Nat.ne_of_gt (Nat.pow_pos (by omega)),fun h=>absurd h hee⟩
    rw[Nat.testBit_two_pow,decide_eq_true_eq]at h
    rw[<-h];exact hk.bit
  ·rw[if_neg (by omega)]
   refine⟨w &&& e,rfl,LC hw,fun i h=> ?_,fun _=>h0,fun h=>by rw[h];exact Nat.and_zero w⟩
   rw[Nat.testBit_and,Bool.and_eq_true]at h
   exact h.2
 have hWG:Pv g W:=fun i hi=>he i (hWe i hi)
 have permits:∀(t:Nat),t≠0->t<4294967296->(∀i,t.testBit i=true->e.testBit i=true)->∀b,(if kind=1 then some (decide ((c_ .u32 (t:Int) (wI .u32 ((t:Int) - 1)))=0))else if kind=2 then(Option.bind (fO 1000 r (t:Int)) fun r7=>some r7)else if kind=4 then some (decide ((t:Int)=(e:Int)))else some true)=some b->eS 1000 r kind (e:Int) (t:Int)=some b:=by
  intro t h0 h32 hsub b hb
  unfold eS gS
  have hd:AN t e=0:=by
   refine Nat.eq_of_testBit_eq fun i=> ?_
   rw[yR h32 he32,Nat.zero_testBit]
   cases h1:t.testBit i with
   |false=>rfl
   |true=>rw[hsub i h1];rfl
  rw[if_neg (by omega),Fx,hd,if_neg (by simp)]
  exact hb
 rw[hW]
 unfold fI
 by_cases k1:kind=1
 ·rw[if_pos k1]
  by_cases hw0:W=0
  ·refine⟨0,by rw[hw0];rfl,fun i h=>by simp at h,fun h=>absurd hw0 (hW0 h)⟩
  ·obtain⟨k,hk⟩:=Gi hw0
   have hk32:=Dx hW32 hk.bit
   have hL:Od (2^k) k:=⟨by rw[Nat.testBit_two_pow];simp,fun j hj=>by rw[Nat.testBit_two_pow];exact decide_eq_false (by omega)⟩
   refine⟨2^k,by rw[WI hW32 hk],fun i h=> ?_,fun hee=>⟨Nat.ne_of_gt (Nat.pow_pos (by omega)),?_,fun h=>by omega,fun h=>by omega⟩⟩
   ·rw[Nat.testBit_two_pow,decide_eq_true_eq]at h
    rw[<-h];exact hWe k hk.bit
   ·refine permits _ (Nat.ne_of_gt (Nat.pow_pos (by omega))) (BR hk32) (fun i h=> ?_) true ?_
    ·rw[Nat.testBit_two_pow,decide_eq_true_eq]at h
     rw[<-h];exact hWe k hk.bit
    ·obtain⟨m',e1,e2,e3⟩:=LG (BR hk32) hL
     rw[if_pos k1,e1]
     have:m'=0:=Nat.eq_of_testBit_eq fun i=>by
      rw[e3,Nat.testBit_two_pow,Nat.zero_testBit]
      by_cases q:k=i
      ·simp[q]
      ·simp[q]
     rw[this];rfl
 rw[if_neg k1]
 by_cases k2:kind=2
 ·rw[if_pos k2]
  obtain⟨t,h1,h2,h3,h4,h5⟩:=Ke hV hN hWG 1000 32 0 1000 W 0 (by omega) hW32 (by omega) (fun i hi=>by omega) (fun i h=>h) (fun i h=>by simp at h) (fun v u h=>by simp at h) (fun _=> .inr rfl) (by omega)
  refine⟨t,h1,fun i h=>hWe i (h3 i h),fun hee=>⟨h5 (hW0 hee),?_,fun _=>h4,fun h=>by omega⟩⟩
  refine permits t (h5 (hW0 hee)) h2 (fun i h=>hWe i (h3 i h)) true ?_
  rw[if_neg k1,if_pos k2,bH (Ew hV hN (fun i h=>hWG i (h3 i h)) h4)]
 rw[if_neg k2]
 by_cases k4:kind=4
 ·rw[if_pos k4]
  refine⟨e,rfl,fun i h=>h,fun hee=>⟨hee,permits e hee he32 (fun i h=>h) true ?_,fun h=>absurd h k2,fun _=>rfl⟩⟩
  rw[if_neg k1,if_neg k2,if_pos k4];simp
 ·rw[if_neg k4]
  refine⟨W,rfl,hWe,fun hee=>⟨hW0 hee,permits W (hW0 hee) hW32 hWe true ?_,fun h=>absurd h k2,fun h=>absurd h k4⟩⟩
  rw[if_neg k1,if_neg k2,if_neg k4]
end Go.Proofs.YtigggfnchamobaaGreatDoor
end
section
namespace Go.Proofs.YtigggfnchamobaaGreatDoor
open Go.Sx
def vK  (a4:Int):Option (Int):=
 some (a4)
def pR (p0:List (Int)) (a9:Int×Int) (ag8:(Int×Int)->Option (Int)):Option (Int):=
 if a9.2<(List.length p0:Int)then(ck (0<=a9.2∧a9.2<(List.length p0:Int)) (ag8 ((max a9.1 (at' p0 a9.2)),(wI .i64 (a9.2+(1:Int))))))else(vK  (a9.1))
def uF (fuel:Nat) (p0:List (Int)):Option (Int):=
 if(List.length p0:Int)<(1:Int)then(none)else(ck (0<=(0:Int)∧(0:Int)<(List.length p0:Int)) (bG (pR p0) fuel ((at' p0 (0:Int)),(1:Int))))
theorem TE:aR Tryz.prog 141:=Tryz.call141
theorem Jd (fuel:Nat) {p0:List (Int)} (v0:Value) (r:Int) (h:uF fuel p0=some r):
  aV Tryz.prog 141 #[v0] [Sl bM v0 p0] (fun x:Unit=>vI (r)) (fun x l=>l) (fun _ l=>l):=by
 refine aV.of Tryz.func141 rfl Tryz.ntmps141 rfl fun c=>?_
 unfold uF at h
 refine sqR<|qkAsg rfl<|dtN<|aL<|sqR<|qkMove rfl<|aB (b_ rfl (aC.fact 0 rfl) rfl) rfl<|qkLss rfl<|dtN ?_
 refine eL h rfl (fun h=>?_) fun h=>?_
 ·refine aO ?_
  cases h
 refine iV<|sqR<|qkMove rfl ?_
 have⟨j2,h⟩:=aH h
 refine aB (a_ rfl rfl (aC.fact 0 rfl) rfl rfl j2) rfl<|aB (bS rfl (aC.fact 0 rfl) rfl rfl rfl dB j2) rfl<|qkAsg rfl<|dtN<|aL<|midU (fun a4=>vK  a4=some r) (fun a4 b5=>[(3,vI (a4))]) (fun a4 b5=>[]) ?_ ?_
 ·refine sqR<|qkAsg rfl<|dtN<|aQ<|loopL (pR p0) (fun a9 b10=>[(0,v0),(3,vI (a9.1)),(4,vI (a9.2))]) (fun a9 b10=>[]) ((at' p0 (0:Int)),(1:Int)) () h SF (aK.refl _) ?_
  clear h
  intro k11 a9 b10 h
  unfold pR at h
  refine aL<|sqR<|qkMove rfl<|qkMove rfl<|aB (b_ rfl (aC.fact 0 rfl) rfl) rfl<|qkLss rfl<|dtN ?_
  refine eL h rfl (fun h=>?_) fun h=>?_
  ·refine iV<|aL<|aQ<|aO<|qkMove rfl<|qkMove rfl<|qkMove rfl ?_
   have⟨j13,h⟩:=aH h
   refine aB (a_ rfl rfl (aC.fact 0 rfl) rfl rfl j13) rfl<|aB (bS rfl (aC.fact 0 rfl) rfl rfl rfl dB j13) rfl<|aB (JN rfl rfl) rfl<|qkAsg rfl<|dY<|inT<|aO<|qkMove rfl<|qkAdd rfl<|qkAsg rfl<|dtN ?_
   exact xK ((max a9.1 (at' p0 a9.2)),(wI .i64 (a9.2+(1:Int)))) () h SF rfl
  refine xO ?_
  exact iJ (a9.1) () h SF rfl
 clear h
 intro a4 b5 h
 unfold vK at h
 refine sqR<|qkMove rfl<|qkAsg rfl<|dtN<|aS ?_
 cases h
 exact lP rfl
end Go.Proofs.YtigggfnchamobaaGreatDoor
end
section
namespace Go.Proofs.YtigggfnchamobaaGreatDoor
open Go.Sx
def jZ (fuel:Nat) (p0:ByteArray×Int×Int×Int×Int×Int) (p1:List (Int)×(List (List (Int×Int)))) (p2:Int):Option (Int×Int):=
 Option.bind (uF fuel p1.1) fun r3=>(some (p0.2.2.1,(wI .i64 ((wI .i64 (p0.2.2.2.1+(wI .i64 (p0.2.2.2.2.1*(List.length p1.1:Int)))))+(wI .i64 (p0.2.2.2.2.2*r3))))))
theorem TD:aR Tryz.prog 140:=Tryz.call140
theorem Di (fuel:Nat) {p0:ByteArray×Int×Int×Int×Int×Int} {p1:List (Int)×(List (List (Int×Int)))} {p2:Int} (v0:Value)  (v1:Value)  (z2:List (Value×List (Int×Int))) (r:Int×Int) (h:jZ fuel p0 p1 p2=some r):
  aV Tryz.prog 140 #[Value.agg #[Value.string (p0.1),vI (p0.2.1),vI (p0.2.2.1),vI (p0.2.2.2.1),vI (p0.2.2.2.2.1),vI (p0.2.2.2.2.2)],Value.agg #[v0,v1],vI (p2)] [Sl bM v0 p1.1,S2 aZ v1 z2 p1.2] (fun x:Unit=>Value.tuple #[vI (r.1),vI (r.2)]) (fun x l=>l) (fun _ l=>l):=by
 refine aV.of Tryz.func140 rfl Tryz.ntmps140 rfl fun c=>?_
 unfold jZ at h
 refine sqR<|aG (aM.box (cs:=[Value.string (p0.1),vI (p0.2.1),vI (p0.2.2.1),vI (p0.2.2.2.1),vI (p0.2.2.2.2.1),vI (p0.2.2.2.2.2)]) rfl rfl) rfl fun b1=>aG (aM.box (cs:=[v0,v1]) rfl rfl) rfl fun b2=>qkAsg rfl<|qkAsg rfl<|dtN<|aL ?_
 refine JR.start [0,1,0,4,0,16,0,64,192,496,1020,0,2048,0,8192,24576,63488,131068,57347,524287] 19 mixedOrders (by decide +kernel) ?_
 refine JR.open (by exact rfl) ?_
 refine jkFld rfl<|jkLd 1 rfl<|jkFld rfl<|jkLd 1 rfl<|jkFld rfl<|jkLd 1 rfl<|jkFld rfl<|jkLd 0 rfl<|aN rfl .nil (cV.cons (List.mem_of_getElem? (i:=0) rfl) .nil) (b_ rfl (aC.fact 0 rfl) rfl) aD.z<|aN rfl .nil .nil (tU rfl rfl) aD.z<|aN rfl .nil .nil (pS rfl rfl) aD.z<|jkFld rfl<|jkLd 1 rfl<|jkFld rfl<|jkLd 0 rfl ?_
 have⟨r3,w4,h⟩:=fE h
 refine JR.loud rfl rfl rfl (aM.callQ TE (Jd fuel v0 r3 w4) rfl (aA.cons (aC.fact 0 rfl) .nil)) rfl (fun x5=>(aF.b rfl (aF.b rfl (aF.h (aK.ix [1] rfl rfl) .nil (aF.h .nil .nil (aF.h .nil .nil (aF.h .nil .nil (aF.h .nil (cV.cons (List.mem_of_getElem? (i:=0) rfl) .nil) (aF.h (aK.ix [0] rfl rfl) .nil (aF.h .nil .nil (aF.h (aK.ix [1] rfl rfl) .nil (aF.h .nil .nil (aF.h (aK.ix [1] rfl rfl) .nil (aF.h .nil .nil (aF.h (aK.ix [1] rfl rfl) .nil (aF.h .nil .nil aF.z)))))))))))))))) fun x5=>aN rfl .nil .nil (tU rfl rfl) (aD.b rfl aD.z)<|aN rfl .nil .nil (pS rfl rfl) (aD.b rfl aD.z)<|aN rfl .nil .nil (tS rfl) (aD.b rfl aD.z)<|bL 19 rfl rfl<|qkAsg rfl<|dtN<|aS ?_
 cases h
 exact jF () rfl rfl (RV.tmp rfl) (RV.tmp rfl) .nil aA.nil
end Go.Proofs.YtigggfnchamobaaGreatDoor
end
section
namespace Go.Proofs.YtigggfnchamobaaGreatDoor
open Go.Sx
def pX (fuel:Nat) (p0:ByteArray×Int×Int×Int×Int×Int) (p1:List (Int)×(List (List (Int×Int)))) (p2:Int):Option (Int×Int):=
 some ((0:Int),(1:Int))
theorem TF:aR Tryz.prog 142:=Tryz.call142
theorem Dj (fuel:Nat) {p0:ByteArray×Int×Int×Int×Int×Int} {p1:List (Int)×(List (List (Int×Int)))} {p2:Int} (v0:Value)  (v1:Value)  (z2:List (Value×List (Int×Int))) (r:Int×Int) (h:pX fuel p0 p1 p2=some r):
  aV Tryz.prog 142 #[Value.agg #[Value.string (p0.1),vI (p0.2.1),vI (p0.2.2.1),vI (p0.2.2.2.1),vI (p0.2.2.2.2.1),vI (p0.2.2.2.2.2)],Value.agg #[v0,v1],vI (p2)] [Sl bM v0 p1.1,S2 aZ v1 z2 p1.2] (fun x:Unit=>Value.tuple #[vI (r.1),vI (r.2)]) (fun x l=>l) (fun _ l=>l):=by
 refine aV.of Tryz.func142 rfl Tryz.ntmps142 rfl fun c=>?_
 unfold pX at h
 refine sqR<|aG (aM.box (cs:=[Value.string (p0.1),vI (p0.2.1),vI (p0.2.2.1),vI (p0.2.2.2.1),vI (p0.2.2.2.2.1),vI (p0.2.2.2.2.2)]) rfl rfl) rfl fun b1=>aG (aM.box (cs:=[v0,v1]) rfl rfl) rfl fun b2=>qkAsg rfl<|qkAsg rfl<|dtN<|sqR<|qkAsg rfl<|qkAsg rfl<|dtN<|aS ?_
 cases h
 exact jF () rfl rfl (RV.tmp rfl) (RV.tmp rfl) .nil aA.nil
end Go.Proofs.YtigggfnchamobaaGreatDoor
end
section
namespace Go.Proofs.YtigggfnchamobaaGreatDoor
open Go.Sx
def j_ (fuel:Nat) (p0:ByteArray×Int×Int×Int×Int×Int) (p1:List (Int)×(List (List (Int×Int)))) (p2:Int):Option (Int×Int):=
 ck (0<=p2∧p2<(List.length p1.2:Int)) (some ((-1:Int),(wI .i64 ((List.length (at' p1.2 p2):Int) - (1:Int)))))
theorem TG:aR Tryz.prog 143:=Tryz.call143
theorem Dk (fuel:Nat) {p0:ByteArray×Int×Int×Int×Int×Int} {p1:List (Int)×(List (List (Int×Int)))} {p2:Int} (v0:Value)  (v1:Value)  (z2:List (Value×List (Int×Int))) (r:Int×Int) (h:j_ fuel p0 p1 p2=some r):
  aV Tryz.prog 143 #[Value.agg #[Value.string (p0.1),vI (p0.2.1),vI (p0.2.2.1),vI (p0.2.2.2.1),vI (p0.2.2.2.2.1),vI (p0.2.2.2.2.2)],Value.agg #[v0,v1],vI (p2)] [Sl bM v0 p1.1,S2 aZ v1 z2 p1.2] (fun x:Unit=>Value.tuple #[vI (r.1),vI (r.2)]) (fun x l=>l) (fun _ l=>l):=by
 refine aV.of Tryz.func143 rfl Tryz.ntmps143 rfl fun c=>?_
 unfold j_ at h
 refine sqR<|aG (aM.box (cs:=[Value.string (p0.1),vI (p0.2.1),vI (p0.2.2.1),vI (p0.2.2.2.1),vI (p0.2.2.2.2.1),vI (p0.2.2.2.2.2)]) rfl rfl) rfl fun b1=>aG (aM.box (cs:=[v0,v1]) rfl rfl) rfl fun b2=>qkAsg rfl<|qkAsg rfl<|dtN<|aL ?_
 refine JR.start [0,1,0,7,15,31,63,0,255] 8 mixedOrders (by decide +kernel) ?_
 refine JR.open (by exact rfl) ?_
 refine jkFld rfl<|jkLd 0 rfl<|jkMove rfl ?_
 have⟨j3,h⟩:=aH h
 refine aN rfl .nil (cV.cons (List.mem_of_getElem? (i:=1) rfl) .nil) (cO rfl rfl (aC.fact 0 rfl) rfl rfl j3) aD.z<|aN rfl .nil (cV.cons (List.mem_of_getElem? (i:=1) rfl) .nil) (cM rfl (aC.fact 0 rfl) rfl rfl j3) aD.z<|aN rfl .nil (cV.cons (List.mem_of_getElem? (i:=1) rfl) .nil) (b_ rfl (aC.el (aC.fact 0 rfl) j3.1 j3.2) rfl) aD.z<|aN rfl .nil .nil (qE rfl rfl) aD.z<|aN rfl .nil .nil (tS rfl) aD.z<|bL 8 rfl rfl<|qkAsg rfl<|dtN<|aS ?_
 cases h
 exact jF () rfl rfl (RV.tmp rfl) (RV.tmp rfl) .nil aA.nil
end Go.Proofs.YtigggfnchamobaaGreatDoor
end
section
namespace Go.Proofs.YtigggfnchamobaaGreatDoor
open Go.Sx
def uV  (a4:Unit):Option (Int×Int):=
 some ((0:Int),(-1:Int))
def kX (a8:Int) (ag7:(Int)->Option (Int×Int)) (a12:Unit):Option (Int×Int):=
 ag7 (wI .i64 (a8+(1:Int)))
def dC (fuel:Nat) (p0:ByteArray×Int×Int×Int×Int×Int) (p1:List (Int)×(List (List (Int×Int)))) (p2:Int) (a8:Int) (ag7:(Int)->Option (Int×Int)):Option (Int×Int):=
 if a8<(List.length ([((1:Int),(140:Nat)),((2:Int),(142:Nat)),((3:Int),(143:Nat))]):Int)then(ck (0<=a8∧a8<(List.length ([((1:Int),(140:Nat)),((2:Int),(142:Nat)),((3:Int),(143:Nat))]):Int)) (if a8=(0:Int)then(if(1:Int)=p0.2.1 then(Option.bind (jZ fuel ((p0.1,p0.2.1,p0.2.2.1,p0.2.2.2.1,p0.2.2.2.2.1,p0.2.2.2.2.2)) ((p1.1,p1.2)) p2) fun r18=>(some (r18.1,r18.2)))else(kX a8 ag7 (())))else(if a8=(1:Int)then(if(2:Int)=p0.2.1 then(Option.bind (pX fuel ((p0.1,p0.2.1,p0.2.2.1,p0.2.2.2.1,p0.2.2.2.2.1,p0.2.2.2.2.2)) ((p1.1,p1.2)) p2) fun r24=>(some (r24.1,r24.2)))else(kX a8 ag7 (())))else(if(3:Int)=p0.2.1 then(Option.bind (j_ fuel ((p0.1,p0.2.1,p0.2.2.1,p0.2.2.2.1,p0.2.2.2.2.1,p0.2.2.2.2.2)) ((p1.1,p1.2)) p2) fun r30=>(some (r30.1,r30.2)))else(kX a8 ag7 (()))))))else(uV  (()))
def iM (fuel:Nat) (p0:ByteArray×Int×Int×Int×Int×Int) (p1:List (Int)×(List (List (Int×Int)))) (p2:Int):Option (Int×Int):=
 bG (dC fuel p0 p1 p2) fuel (0:Int)
theorem MS:aR Tryz.prog 117:=Tryz.call117
theorem Al (fuel:Nat) {p0:ByteArray×Int×Int×Int×Int×Int} {p1:List (Int)×(List (List (Int×Int)))} {p2:Int} (v0:Value)  (v1:Value)  (z2:List (Value×List (Int×Int))) (r:Int×Int) (h:iM fuel p0 p1 p2=some r):
  aV Tryz.prog 117 #[Value.agg #[Value.string (p0.1),vI (p0.2.1),vI (p0.2.2.1),vI (p0.2.2.2.1),vI (p0.2.2.2.2.1),vI (p0.2.2.2.2.2)],Value.agg #[v0,v1],vI (p2)] [Sl bM v0 p1.1,S2 aZ v1 z2 p1.2] (fun x:Unit=>Value.tuple #[vI (r.1),vI (r.2)]) (fun x l=>l) (fun _ l=>l):=by
 refine aV.of Tryz.func117 rfl Tryz.ntmps117 rfl fun c=>?_
 unfold iM at h
 refine sqR<|aG (aM.box (cs:=[Value.string (p0.1),vI (p0.2.1),vI (p0.2.2.1),vI (p0.2.2.2.1),vI (p0.2.2.2.2.1),vI (p0.2.2.2.2.2)]) rfl rfl) rfl fun b1=>aG (aM.box (cs:=[v0,v1]) rfl rfl) rfl fun b2=>qkAsg rfl<|qkAsg rfl<|dtN<|sqR ?_
 refine aB (AF (r:=Value.agg #[Value.int .i64 (1:Int),Value.func (.func 140) #[] #[]]) rfl rfl (by intro w;simp[Instr.build,Instr.fill,eN,dU,cY,eO,eP,dV,fS])) rfl ?_
 refine aB (AF (r:=Value.agg #[Value.int .i64 (2:Int),Value.func (.func 142) #[] #[]]) rfl rfl (by intro w;simp[Instr.build,Instr.fill,eN,dU,cY,eO,eP,dV,fS])) rfl ?_
 refine aB (AF (r:=Value.agg #[Value.int .i64 (3:Int),Value.func (.func 143) #[] #[]]) rfl rfl (by intro w;simp[Instr.build,Instr.fill,eN,dU,cY,eO,eP,dV,fS])) rfl ?_
 refine aG (cE (e:=EE) ([(((1:Int),((140:Nat)))),(((2:Int),((142:Nat)))),(((3:Int),((143:Nat))))]) [(0,Value.agg #[vI (1:Int),Value.func (.func 140) #[] #[]]),(1,Value.agg #[vI (2:Int),Value.func (.func 142) #[] #[]]),(2,Value.agg #[vI (3:Int),Value.func (.func 143) #[] #[]])] rfl rfl rfl rfl (QQ (vI (1:Int)) (Value.func (.func 140) #[] #[]) (vI (2:Int)) (Value.func (.func 142) #[] #[]) (vI (3:Int)) (Value.func (.func 143) #[] #[])) rfl rfl rfl) rfl fun u3=>qkAsg rfl<|dtN<|aL<|midU (fun a4=>uV  a4=some r) (fun a4 b5=>[]) (fun a4 b5=>[]) ?_ ?_
 ·refine sqR<|qkMove rfl<|aB (b_ rfl (aU (aC.res 0 rfl) xQ) rfl) rfl<|qkMove rfl<|dtN<|aQ<|loopL (dC fuel p0 p1 p2) (fun a8 b9=>[(2,vI (p2)),(3,vP b1),(4,vP b2),(15,u3),(16,vI (List.length ([((1:Int),(140:Nat)),((2:Int),(142:Nat)),((3:Int),(143:Nat))]):Int)),(17,vI (a8))]) (fun a8 b9=>[Ar EE u3 ([((1:Int),(140:Nat)),((2:Int),(142:Nat)),((3:Int),(143:Nat))]),bO b2 [v0,v1] 28,bO b1 [Value.string (p0.1),vI (p0.2.1),vI (p0.2.2.1),vI (p0.2.2.2.1),vI (p0.2.2.2.2.1),vI (p0.2.2.2.2.2)] 60]) (0:Int) () h SF (aK.refl _) ?_
  clear h
  intro k10 a8 b9 h
  unfold dC at h
  refine sqR<|qkLss rfl<|dtN<|aL ?_
  refine eL h rfl (fun h=>?_) fun h=>?_
  ·refine iV<|aL<|midU (fun a12=>kX a8 (bG (dC fuel p0 p1 p2) k10) a12=some r) (fun a12 b13=>[(2,vI (p2)),(3,vP b1),(4,vP b2),(15,u3),(16,vI (List.length ([((1:Int),(140:Nat)),((2:Int),(142:Nat)),((3:Int),(143:Nat))]):Int)),(17,vI (a8))]) (fun a12 b13=>[Ar EE u3 ([((1:Int),(140:Nat)),((2:Int),(142:Nat)),((3:Int),(143:Nat))]),bO b2 [v0,v1] 28,bO b1 [Value.string (p0.1),vI (p0.2.1),vI (p0.2.2.1),vI (p0.2.2.2.1),vI (p0.2.2.2.2.1),vI (p0.2.2.2.2.2)] 60]) ?_ ?_
   ·refine aQ<|sqR ?_
    have⟨j14,h⟩:=aH h
    refine aB (a_ rfl rfl (aU (aC.res 0 rfl) xQ) rfl rfl j14) rfl ?_
    by_cases hq15:a8=(0:Int)
    ·have h:=Jj hq15 h
     refine aB (fZ (cs:=[vI (1:Int),Value.func (.func 140) #[] #[]]) rfl (aU (aC.res 0 rfl) xQ) xQ (by rw[hq15];rfl) rfl rfl rfl j14) rfl ?_
     refine aG (aM.alloc (cs:=[vI (0:Int),Value.nilFunc]) rfl rfl) rfl fun b16=>bI 0 (vs:=[vI (1:Int),Value.func (.func 140) #[] #[]]) rfl rfl rfl rfl rfl rfl<|dtN<|sqR<|qkFld rfl<|qkLd 0 rfl<|qkFld rfl<|qkLd 3 rfl<|qkEql rfl<|dtN ?_
     refine eL h rfl (fun h=>?_) fun h=>?_
     ·refine sqR<|qkFld rfl<|qkLd 0 rfl<|qkLdA 3 rfl<|qkLdA 2 rfl<|qkMove rfl ?_
      have⟨r18,w19,h⟩:=fE h
      refine aG (qB (vs:=[Value.agg #[Value.string (p0.1),vI (p0.2.1),vI (p0.2.2.1),vI (p0.2.2.2.1),vI (p0.2.2.2.2.1),vI (p0.2.2.2.2.2)],Value.agg #[v0,v1],vI (p2)]) (cs:=[]) TD rfl (Di fuel v0 v1 z2 r18 w19) rfl (aA.cons (aC.fact 0 rfl) (aA.cons (aC.fact 1 rfl) .nil)) (fun _ _=>rfl)) rfl fun x20=>aB (bF rfl rfl) rfl<|aB (bF rfl rfl) rfl<|qkAsg rfl<|qkAsg rfl<|dtN<|aS<|bK<|aJ<|aJ<|bK<|aJ ?_
      cases h
      exact jF () rfl rfl (RV.tmp rfl) (RV.tmp rfl) .nil aA.nil
     refine cU<|inT ?_
     exact cF () (()) h SF (aK.ix [1,2,3] rfl rfl) (aA.refl _ _)
    have h:=Uo hq15 h
    by_cases hq21:a8=(1:Int)
    ·have h:=Jj hq21 h
     refine aB (fZ (cs:=[vI (2:Int),Value.func (.func 142) #[] #[]]) rfl (aU (aC.res 0 rfl) xQ) xQ (by rw[hq21];rfl) rfl rfl rfl j14) rfl ?_
     refine aG (aM.alloc (cs:=[vI (0:Int),Value.nilFunc]) rfl rfl) rfl fun b22=>bI 0 (vs:=[vI (2:Int),Value.func (.func 142) #[] #[]]) rfl rfl rfl rfl rfl rfl<|dtN<|sqR<|qkFld rfl<|qkLd 0 rfl<|qkFld rfl<|qkLd 3 rfl<|qkEql rfl<|dtN ?_
     refine eL h rfl (fun h=>?_) fun h=>?_
     ·refine sqR<|qkFld rfl<|qkLd 0 rfl<|qkLdA 3 rfl<|qkLdA 2 rfl<|qkMove rfl ?_
      have⟨r24,w25,h⟩:=fE h
      refine aG (qB (vs:=[Value.agg #[Value.string (p0.1),vI (p0.2.1),vI (p0.2.2.1),vI (p0.2.2.2.1),vI (p0.2.2.2.2.1),vI (p0.2.2.2.2.2)],Value.agg #[v0,v1],vI (p2)]) (cs:=[]) TF rfl (Dj fuel v0 v1 z2 r24 w25) rfl (aA.cons (aC.fact 0 rfl) (aA.cons (aC.fact 1 rfl) .nil)) (fun _ _=>rfl)) rfl fun x26=>aB (bF rfl rfl) rfl<|aB (bF rfl rfl) rfl<|qkAsg rfl<|qkAsg rfl<|dtN<|aS<|bK<|aJ<|aJ<|bK<|aJ ?_
      cases h
      exact jF () rfl rfl (RV.tmp rfl) (RV.tmp rfl) .nil aA.nil
     refine cU<|inT ?_
     exact cF () (()) h SF (aK.ix [1,2,3] rfl rfl) (aA.refl _ _)
    have h:=Uo hq21 h
    have hq27:a8=(2:Int):=by have q:=j14;simp only[List.length_cons,List.length_nil]at q;omega
    refine aB (fZ (cs:=[vI (3:Int),Value.func (.func 143) #[] #[]]) rfl (aU (aC.res 0 rfl) xQ) xQ (by rw[hq27];rfl) rfl rfl rfl j14) rfl ?_
    refine aG (aM.alloc (cs:=[vI (0:Int),Value.nilFunc]) rfl rfl) rfl fun b28=>bI 0 (vs:=[vI (3:Int),Value.func (.func 143) #[] #[]]) rfl rfl rfl rfl rfl rfl<|dtN<|sqR<|qkFld rfl<|qkLd 0 rfl<|qkFld rfl<|qkLd 3 rfl<|qkEql rfl<|dtN ?_
    refine eL h rfl (fun h=>?_) fun h=>?_
    ·refine sqR<|qkFld rfl<|qkLd 0 rfl<|qkLdA 3 rfl<|qkLdA 2 rfl<|qkMove rfl ?_
     have⟨r30,w31,h⟩:=fE h
     refine aG (qB (vs:=[Value.agg #[Value.string (p0.1),vI (p0.2.1),vI (p0.2.2.1),vI (p0.2.2.2.1),vI (p0.2.2.2.2.1),vI (p0.2.2.2.2.2)],Value.agg #[v0,v1],vI (p2)]) (cs:=[]) TG rfl (Dk fuel v0 v1 z2 r30 w31) rfl (aA.cons (aC.fact 0 rfl) (aA.cons (aC.fact 1 rfl) .nil)) (fun _ _=>rfl)) rfl fun x32=>aB (bF rfl rfl) rfl<|aB (bF rfl rfl) rfl<|qkAsg rfl<|qkAsg rfl<|dtN<|aS<|bK<|aJ<|aJ<|bK<|aJ ?_
     cases h
     exact jF () rfl rfl (RV.tmp rfl) (RV.tmp rfl) .nil aA.nil
    refine cU<|inT ?_
    exact cF () (()) h SF (aK.ix [1,2,3] rfl rfl) (aA.refl _ _)
   clear h
   intro a12 b13 h
   unfold kX at h
   refine aO<|qkAdd rfl<|qkMove rfl<|dtN ?_
   exact xK (wI .i64 (a8+(1:Int))) () h SF rfl
  refine xO ?_
  exact cF () (()) h SF .nil (aA.refl _ _)
 clear h
 intro a4 b5 h
 unfold uV at h
 refine sqR<|qkAsg rfl<|qkAsg rfl<|dtN<|aS ?_
 cases h
 exact jF () rfl rfl (RV.tmp rfl) (RV.tmp rfl) (aK.refl _) aA.nil
end Go.Proofs.YtigggfnchamobaaGreatDoor
end
