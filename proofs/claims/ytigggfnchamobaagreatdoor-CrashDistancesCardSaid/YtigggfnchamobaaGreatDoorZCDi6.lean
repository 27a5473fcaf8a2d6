/- Models and proofs. Conditions: none. -/
import Derived.Test.YtigggfnchamobaaGreatDoorZCDi5
import Derived.Test.YtigggfnchamobaaGreatDoorZCDi2
import Derived.Test.YtigggfnchamobaaGreatDoorZCDi4
import Derived.Test.YtigggfnchamobaaGreatDoorZCDi1
import Derived.KernelRfl
set_option linter.unusedVariables false
set_option linter.unusedSimpArgs false
set_option maxHeartbeats 4000000
set_option maxRecDepth 20000
section
namespace Go.Proofs.YtigggfnchamobaaGreatDoor
open Go.Sx
section
def sE  (a8:aX):Option aX:=
 some (a8)
def vQ (a15:aX×Int) (ag14:(aX×Int)->Option aX) (a21:aL):Option aX:=
 ck ((List.length a15.1:Int)+(List.length ([a21]):Int)<=1099511627) (ag14 ((a15.1++[a21]),(wI .i64 (a15.2+(1:Int)))))
def lP (U:Nat) (p1:EI) (p2:aL) (a15:aX×Int) (a33:aL×Int) (ag32:(aL×Int)->Option aX) (a43:eZ):Option aX:=
 Option.bind (pY U p2 (wI .i64 ((wI .i64 (a15.2*(List.length p1:Int)))+a33.2))) fun r45=>(Option.bind (eY U r45 (wI .i64 ((wI .i64 (a43.2 - a43.1))+(1:Int)))) fun r48=>(ck ((List.length a33.1:Int)+(List.length ([(wI .i64 (a43.1+r48))]):Int)<=1099511627) (ag32 ((a33.1++([(wI .i64 (a43.1+r48))])),(wI .i64 (a33.2+(1:Int)))))))
def lQ (U:Nat) (p0:cM) (p1:EI) (p2:aL) (a3:Int) (a15:aX×Int) (ag14:(aX×Int)->Option aX) (a33:aL×Int) (ag32:(aL×Int)->Option aX):Option aX:=
 if a33.2<(List.length p1:Int)then(ck (0<=a33.2∧a33.2<(List.length p1:Int)) (ck (0<=a33.2∧a33.2<(List.length p1:Int)) (ck (0<=a33.2∧a33.2<(List.length p1:Int)) (ck (0<=a33.2∧a33.2<(List.length p1:Int)) (ck (0<=a33.2∧a33.2<(List.length p1:Int)) (if((at' p1 a33.2).2.1)=(2:Int)then(lP U p1 p2 a15 a33 ag32 ((0:Int),(1:Int)))else(if((at' p1 a33.2).2.1)=(3:Int)then(ck (0<=a15.2∧a15.2<(List.length p0.2:Int)) (lP U p1 p2 a15 a33 ag32 ((-1:Int),(wI .i64 ((List.length (at' p0.2 a15.2):Int) - (1:Int))))))else(lP U p1 p2 a15 a33 ag32 (((at' p1 a33.2).2.2.1),(wI .i64 ((wI .i64 (((at' p1 a33.2).2.2.2.1)+(wI .i64 (((at' p1 a33.2).2.2.2.2.1)*(List.length p0.2:Int)))))+(wI .i64 (((at' p1 a33.2).2.2.2.2.2)*a3)))))))))))))else(vQ a15 ag14 (a33.1))
def iB (U:Nat) (p0:cM) (p1:EI) (p2:aL) (a3:Int) (a15:aX×Int) (ag14:(aX×Int)->Option aX):Option aX:=
 if a15.2<(List.length p0.2:Int)then(bE (lQ U p0 p1 p2 a3 a15 ag14) U (([]:aL),(0:Int)))else(sE  (a15.1))
def oQ (U:Nat) (p0:cM) (p1:EI) (p2:aL) (a3:Int):Option aX:=
 bE (iB U p0 p1 p2 a3) U (([]:aX),(0:Int))
def sF (U:Nat) (p0:cM) (p1:EI) (p2:aL) (a61:eZ) (ag60:gO->Option aX):Option aX:=
 if a61.2<(List.length p0.2:Int)then(ck (0<=a61.2∧a61.2<(List.length p0.1:Int)) (ag60 ((max a61.1 (at' p0.1 a61.2)),(wI .i64 (a61.2+(1:Int))))))else(oQ U p0 p1 p2 (a61.1))
def lA (U:Nat) (p0:cM) (p1:EI) (p2:aL):Option aX:=
 bE (sF U p0 p1 p2) U ((0:Int),(0:Int))
theorem WK:aO Tryz.prog 10:=Tryz.call10
theorem GZ (U:Nat) {p0:cM} {p1:EI} {p2:aL} (v0:Value)  (v1:Value)  (z2:mB)  (v3:Value)  (v4:Value) (r:aX) (h:lA U p0 p1 p2=some r):
  aT Tryz.prog 10 #[Value.agg #[v0,v1],v3,v4] [Sl bD v0 p0.1,S2 aV v1 z2 p0.2,Sl aG v3 p1,Sl bD v4 p2] (fun x:Value×List Value=>x.1) (fun x l=>Ar cZ.raw x.1 x.2::jK bU x.2 r::l) (fun _ l=>l):=by
 refine aT.of Tryz.func10 rfl Tryz.ntmps10 rfl fun c=>?_
 unfold lA at h
 refine sqR<|aF (aJ.box (cs:=[v0,v1]) rfl rfl) rfl fun b1=>qkAsg rfl<|dtN<|sqR<|qkFld rfl<|qkLd 0 rfl<|aB (iM rfl (aC.fact 1 rfl) rfl) rfl<|qkAsg rfl<|qkAsg rfl<|dtN<|aI<|midU (fun a3=>oQ U p0 p1 p2 a3=some r) (fun a3 b4=>[(1,v3),(2,v4),(3,vP b1),(7,vI (List.length p0.2:Int)),(8,vI (a3))]) (fun a3 b4=>[bM b1 [v0,v1] 28]) ?_ ?_
 ·refine sqR<|qkAsg rfl<|dtN<|aN<|loopL (sF U p0 p1 p2) (fun a61 b62=>[(1,v3),(2,v4),(3,vP b1),(7,vI (List.length p0.2:Int)),(8,vI (a61.1)),(9,vI (a61.2))]) (fun a61 b62=>[bM b1 [v0,v1] 28]) ((0:Int),(0:Int)) () h SF (aQ.refl _) ?_
  intro k63 a61 b62 h
  refine aI<|sqR<|qkMove rfl<|qkMove rfl<|qkLss rfl<|dtN ?_
  refine eB h rfl (fun h=>?_) fun h=>?_
  ·refine cI<|aI<|aN<|aM<|qkMove rfl<|qkFld rfl<|qkLd 0 rfl<|qkMove rfl<|ckE h fun j65 h=>aB (aY rfl rfl (aC.fact 0 rfl) rfl rfl j65) rfl<|aB (bT rfl (aC.fact 0 rfl) rfl rfl rfl dO j65) rfl<|aB (HE rfl rfl) rfl<|qkAsg rfl<|dY<|inT<|aM<|qkMove rfl<|qkAdd rfl<|qkAsg rfl<|dtN ?_
   exact yF ((max a61.1 (at' p0.1 a61.2)),(wI .i64 (a61.2+(1:Int)))) () h SF rfl
  refine vT ?_
  exact jV (a61.1) () h SF rfl
 intro a3 b4 h
 unfold oQ at h
 refine sqR<|qkAsg rfl<|dtN<|aI<|midL (B:=Value×List Value) (fun a8=>sE  a8=some r) (fun a8 b9=>[(10,b9.1)]) (fun a8 b9=>[Ar cZ.raw b9.1 b9.2,jK bU b9.2 a8]) ?_ ?_
 ·refine sqR<|qkAsg rfl<|dtN<|aN<|jN (iL cZ.raw) (jN (xH bU) ?_)
  refine loopL (B:=Value×List Value) (iB U p0 p1 p2 a3) (fun a15 b16=>[(1,v3),(2,v4),(3,vP b1),(7,vI (List.length p0.2:Int)),(8,vI (a3)),(10,b16.1),(11,vI (a15.2))]) (fun a15 b16=>[bM b1 [v0,v1] 28,Ar cZ.raw b16.1 b16.2,jK bU b16.2 a15.1]) (([]:aX),(0:Int)) ((kK),([]:fJ)) h SF (aQ.ix [2,1,0] rfl rfl) ?_
  intro k17 a15 b16 h
  refine aI<|sqR<|qkMove rfl<|qkMove rfl<|qkLss rfl<|dtN ?_
  refine eB h rfl (fun h=>?_) fun h=>?_
  ·refine cI<|aI<|aN<|sqR<|qkAsg rfl<|dtN<|aI<|midL (B:=Value) (fun a21=>vQ a15 (bE (iB U p0 p1 p2 a3) k17) a21=some r) (fun a21 b22=>[(1,v3),(2,v4),(3,vP b1),(7,vI (List.length p0.2:Int)),(8,vI (a3)),(10,b16.1),(11,vI (a15.2)),(12,b22)]) (fun a21 b22=>[bM b1 [v0,v1] 28,Ar cZ.raw b16.1 b16.2,jK bU b16.2 a15.1,Ar bU b22 a21]) ?_ ?_
   ·refine sqR<|qkAsg rfl<|dtN<|aN<|jN (iL bU)<|loopL (B:=Value) (lQ U p0 p1 p2 a3 a15 (bE (iB U p0 p1 p2 a3) k17)) (fun a33 b34=>[(1,v3),(2,v4),(3,vP b1),(7,vI (List.length p0.2:Int)),(8,vI (a3)),(10,b16.1),(11,vI (a15.2)),(12,b34),(13,vI (a33.2))]) (fun a33 b34=>[bM b1 [v0,v1] 28,Ar cZ.raw b16.1 b16.2,jK bU b16.2 a15.1,Ar bU b34 a33.1]) (([]:aL),(0:Int)) (kK) h SF (aQ.ix [1,2,3,0] rfl rfl) ?_
    intro k35 a33 b34 h
    refine aI<|sqR<|qkMove rfl<|qkMove rfl<|qkLen (aC.fact 2 rfl) rfl<|qkLss rfl<|dtN ?_
    refine eB h rfl (fun h=>?_) fun h=>?_
    ·refine cI<|aI<|aN<|aI ?_
     refine JR.start [0,0,3,7,15,0,0,96,224,480,0,0,3072,7168,15360,0,64512,131040,0,0,786432,1835008,3932160,0,16515072,33554400,31,134217727] 27 mixedOrders (by decide +kernel) ?_
     refine JR.open (by exact rfl) ?_
     refine jkMove rfl<|jkMove rfl<|ckE h fun j37 h=>bG rfl .nil (mJ 2 rfl) (aY rfl rfl (aC.fact 0 rfl) rfl rfl j37) aK.z<|jqN rfl (mX rfl rfl rfl rfl rfl)<|bG rfl .nil (mJ 2 rfl) (pA rfl (aC.fact 0 rfl) rfl rfl rfl An j37) aK.z<|jkMove rfl<|jkMove rfl<|ckE h fun j38 h=>bG rfl .nil (mJ 2 rfl) (aY rfl rfl (aC.fact 0 rfl) rfl rfl j38) aK.z<|jqN rfl (mX rfl rfl rfl rfl rfl)<|bG rfl .nil (mJ 2 rfl) (pA rfl (aC.fact 0 rfl) rfl rfl rfl Ao j38) aK.z<|jkMove rfl<|jkMove rfl<|ckE h fun j39 h=>bG rfl .nil (mJ 2 rfl) (aY rfl rfl (aC.fact 0 rfl) rfl rfl j39) aK.z<|jqN rfl (mX rfl rfl rfl rfl rfl)<|bG rfl .nil (mJ 2 rfl) (pA rfl (aC.fact 0 rfl) rfl rfl rfl Ap j39) aK.z<|jkMove rfl<|jqN rfl (zG rfl rfl)<|jqN rfl (pQ rfl rfl)<|jkMove rfl<|jkMove rfl<|ckE h fun j40 h=>bG rfl .nil (mJ 2 rfl) (aY rfl rfl (aC.fact 0 rfl) rfl rfl j40) aK.z<|jqN rfl (mX rfl rfl rfl rfl rfl)<|bG rfl .nil (mJ 2 rfl) (pA rfl (aC.fact 0 rfl) rfl rfl rfl Aq j40) aK.z<|jkMove rfl<|jqN rfl (zG rfl rfl)<|jqN rfl (pQ rfl rfl)<|jqN rfl (sY rfl)<|bO 27 rfl rfl<|qkAsg rfl<|dtN<|aI<|midU (fun a43=>lP U p1 p2 a15 a33 (bE (lQ U p0 p1 p2 a3 a15 (bE (iB U p0 p1 p2 a3) k17)) k35) a43=some r) (fun a43 b44=>[(1,v3),(2,v4),(3,vP b1),(7,vI (List.length p0.2:Int)),(8,vI (a3)),(10,b16.1),(11,vI (a15.2)),(12,b34),(13,vI (a33.2)),(14,vI (a43.1)),(15,vI (a43.2))]) (fun a43 b44=>[bM b1 [v0,v1] 28,Ar cZ.raw b16.1 b16.2,jK bU b16.2 a15.1,Ar bU b34 a33.1]) ?_ ?_
     ·refine sqR<|qkMove rfl<|qkMove rfl<|ckE h fun j54 h=>aB (aY rfl rfl (aC.fact 2 rfl) rfl rfl j54) rfl<|aB (mX rfl rfl rfl rfl rfl) rfl<|aB (pA rfl (aC.fact 2 rfl) rfl rfl rfl tU j54) rfl<|dtN<|aN<|sqR<|qkEql rfl<|qkAsg rfl<|dtN ?_
      refine eB h rfl (fun h=>?_) fun h=>?_
      ·refine aM<|qkAsg rfl<|qkAsg rfl<|dY<|inT ?_
       exact jV ((0:Int),(1:Int)) () h SF rfl
      refine sqR<|qkEql rfl<|qkAsg rfl<|dtN ?_
      refine eB h rfl (fun h=>?_) fun h=>?_
      ·refine JR.start [0,1,0,7,15,31,63,0,255] 8 mixedOrders (by decide +kernel) ?_
       refine JR.open (by exact rfl) ?_
       refine jkFld rfl<|jkLd 0 rfl<|jkMove rfl<|ckE h fun j57 h=>bG rfl .nil (mJ 1 rfl) (cK rfl rfl (aC.fact 0 rfl) rfl rfl j57) aK.z<|bG rfl .nil (mJ 1 rfl) (cJ rfl (aC.fact 0 rfl) rfl rfl j57) aK.z<|bG rfl .nil (mJ 1 rfl) (fR rfl (aC.el (aC.fact 0 rfl) j57.1 j57.2) rfl) aK.z<|jqN rfl (pR rfl rfl)<|jqN rfl (sY rfl)<|bO 8 rfl rfl<|qkAsg rfl<|dY<|inT ?_
       exact jV ((-1:Int),(wI .i64 ((List.length (at' p0.2 a15.2):Int) - (1:Int)))) () h SF rfl
      refine cU<|inT ?_
      exact jV (((at' p1 a33.2).2.2.1),(wI .i64 ((wI .i64 (((at' p1 a33.2).2.2.2.1)+(wI .i64 (((at' p1 a33.2).2.2.2.2.1)*(List.length p0.2:Int)))))+(wI .i64 (((at' p1 a33.2).2.2.2.2.2)*a3))))) () h SF rfl
     intro a43 b44 h
     refine aM<|qkMove rfl<|qkMove rfl<|qkMove rfl<|qkMove rfl<|qkMove rfl<|qkLen (aC.fact 2 rfl) rfl<|aB (zG rfl rfl) rfl<|qkMove rfl<|qkAdd rfl<|bnE h fun r45 w46 h=>aF (aJ.callQ FV (xC U v4 r45 w46) rfl (oI [3] rfl)) rfl fun x47=>qkMove rfl<|qkMove rfl<|aB (pR rfl rfl) rfl<|qkAdd rfl<|bnE h fun r48 w49 h=>aF (aJ.callQ AH (jI U  r48 w49) rfl .nil) rfl fun x50=>qkAdd rfl<|aF (bX (e:=bU) ([(wI .i64 (a43.1+r48))]) [(0,vI (wI .i64 (a43.1+r48)))] rfl rfl rfl rfl (lX (vI (wI .i64 (a43.1+r48))) rfl) rfl rfl rfl) rfl fun u51=>ckE h fun j53 h=>aF (fT 4 cP rfl rfl rfl (aU (aC.res 0 rfl) cP) rfl rfl rfl rfl j53 rfl) rfl fun u52=>qkAsg rfl<|dY<|inT<|aM<|qkMove rfl<|qkAdd rfl<|qkAsg rfl<|dtN ?_
     exact lS ((a33.1++([(wI .i64 (a43.1+r48))])),(wI .i64 (a33.2+(1:Int)))) (u52) h SF (aQ.ix [1,2,3,4] rfl rfl) (aD.refl _ _)
    refine vT ?_
    exact jV (a33.1) (b34) h SF rfl
   intro a21 b22 h
   refine aM<|qkMove rfl<|qkMove rfl<|jN (xH bU)<|bQ (Know.one ((aU (aC.res 4 rfl) cP))) fun ho23=>jN (Mc 0 4 rfl rfl rfl) ?_
   refine aF (bX (e:=cZ.raw) [b22] [(0,b22)] rfl rfl rfl rfl (lX (b22) ho23) rfl rfl (by simp[cellsOf,cZ.raw,ho23])) rfl fun u24=>?_
   refine bQ (bW 4 rfl) fun hl25=>bQ (bW 1 rfl) fun hl26=>ckE h fun j27 h=>jN (Kf 4 1 rfl rfl rfl) ?_
   refine aF (aJ.append 2 0 rfl rfl rfl rfl rfl rfl rfl (by have q:=j27;have q1:=hl25;have q2:=hl26;(try simp only[List.length_cons,List.length_nil]at q q1 q2 ⊢);omega) (by have q:=j27;have q1:=hl25;have q2:=hl26;(try simp only[List.length_cons,List.length_nil]at q q1 q2 ⊢);omega) rfl) rfl fun u28=>?_
   refine qkAsg rfl<|dY<|inT<|aM<|qkMove rfl<|qkAdd rfl<|qkAsg rfl<|dtN ?_
   exact lS ((a15.1++[a21]),(wI .i64 (a15.2+(1:Int)))) (u28,(b16.2++[b22])) h SF (aQ.ix [1,2,3] rfl rfl) (aD.refl _ _)
  refine vT ?_
  exact bY (a15.1) (b16.1,b16.2) h SF (aQ.ix [1,2] rfl rfl) (aD.refl _ _)
 intro a8 b9 h
 unfold sE at h
 refine sqR<|qkMove rfl<|qkAsg rfl<|dtN<|aP ?_
 cases h
 exact fS (b9.1,b9.2) rfl rfl (RV.tmp rfl) (aQ.refl _) aD.nil
end
section
def wS (U:Nat) (p0:ByteArray) (p1:Int) (p2:Int) (p3:Int):Option ((ByteArray×Int×Int×Int×Int×Int)):=
 some ((p0,(1:Int),(0:Int),p1,p2,p3))
theorem WP:aO Tryz.prog 31:=Tryz.call31
theorem GW (U:Nat) {p0:ByteArray} {p1:Int} {p2:Int} {p3:Int} (r:Ou) (h:wS U p0 p1 p2 p3=some r):
  aT Tryz.prog 31 #[vS (p0),vI (p1),vI (p2),vI (p3)] [] (fun x:Unit=>Value.agg #[vS (r.1),vI (r.2.1),vI (r.2.2.1),vI (r.2.2.2.1),vI (r.2.2.2.2.1),vI (r.2.2.2.2.2)]) (fun x l=>l) (fun _ l=>l):=by
 refine aT.of Tryz.func31 rfl Tryz.ntmps31 rfl fun c=>?_
 unfold wS at h
 refine sqR<|aF (aJ.alloc (cs:=ZY) rfl rfl) rfl fun b1=>dtN<|sqR<|qkMove rfl<|qkMove rfl<|qkMove rfl<|qkMove rfl ?_
 refine aB (Y.bld5 (r:=Value.agg #[vS (p0),vI (1:Int),vI (0:Int),vI (p1),vI (p2),vI (p3)]) rfl rfl rfl rfl rfl (by intro w;simp[Instr.build,Instr.fill,dA,cN,cF,dB,dC,cO,d_])) rfl ?_
 refine bH 0 (vs:=[vS (p0),vI (1:Int),vI (0:Int),vI (p1),vI (p2),vI (p3)]) rfl rfl rfl rfl rfl rfl<|dtN<|aP ?_
 cases h
 exact fS () rfl rfl (RV.cell 0 rfl rfl rfl rfl) .nil aD.nil
end
section
def vN (U:Nat) (p0:ByteArray):Option ((ByteArray×Int×Int×Int×Int×Int)):=
 some ((p0,(3:Int),(0:Int),(0:Int),(0:Int),(0:Int)))
theorem WQ:aO Tryz.prog 32:=Tryz.call32
theorem EU (U:Nat) {p0:ByteArray} (r:Ou) (h:vN U p0=some r):
  aT Tryz.prog 32 #[vS (p0)] [] (fun x:Unit=>Value.agg #[vS (r.1),vI (r.2.1),vI (r.2.2.1),vI (r.2.2.2.1),vI (r.2.2.2.2.1),vI (r.2.2.2.2.2)]) (fun x l=>l) (fun _ l=>l):=by
 refine aT.of Tryz.func32 rfl Tryz.ntmps32 rfl fun c=>?_
 unfold vN at h
 refine sqR<|aF (aJ.alloc (cs:=ZY) rfl rfl) rfl fun b1=>dtN<|sqR<|qkMove rfl ?_
 refine aB (AE (r:=Value.agg #[vS (p0),vI (3:Int),vI (0:Int),vI (0:Int),vI (0:Int),vI (0:Int)]) rfl rfl (by intro w;simp[Instr.build,Instr.fill,dA,cN,cF,dB,dC,cO,d_])) rfl ?_
 refine bH 0 (vs:=[vS (p0),vI (3:Int),vI (0:Int),vI (0:Int),vI (0:Int),vI (0:Int)]) rfl rfl rfl rfl rfl rfl<|dtN<|aP ?_
 cases h
 exact fS () rfl rfl (RV.cell 0 rfl rfl rfl rfl) .nil aD.nil
end
section
def zP (U:Nat)  : Option ((List (ByteArray×Int×Int×Int×Int×Int))):=
 Option.bind (wS U (ByteArray.mk #[100]) (0:Int) (1:Int) (0:Int)) fun r1=>(Option.bind (vN U (ByteArray.mk #[112])) fun r4=>(some ([(r1.1,r1.2.1,r1.2.2.1,r1.2.2.2.1,r1.2.2.2.2.1,r1.2.2.2.2.2),(r4.1,r4.2.1,r4.2.2.1,r4.2.2.2.1,r4.2.2.2.2.1,r4.2.2.2.2.2)])))
theorem WL:aO Tryz.prog 11:=Tryz.call11
theorem Jz (U:Nat)  (r:(List (ByteArray×Int×Int×Int×Int×Int))) (h:zP U  = some r):
  aT Tryz.prog 11 #[] [] (fun x:Value=>x) (fun x l=>Ar qP x r::l) (fun _ l=>l):=by
 refine aT.of Tryz.func11 rfl Tryz.ntmps11 rfl fun c=>?_
 refine sqR<|qkAsg rfl<|dtN<|sqR<|bnE h fun r1 w2 h=>aF (aJ.callQ WP (GW U  r1 w2) rfl .nil) rfl fun x3=>bnE h fun r4 w5 h=>aF (aJ.callQ WQ (EU U  r4 w5) rfl .nil) rfl fun x6=>aF (bX (e:=qP) ([((r1.1,r1.2.1,r1.2.2.1,r1.2.2.2.1,r1.2.2.2.2.1,r1.2.2.2.2.2)),((r4.1,r4.2.1,r4.2.2.1,r4.2.2.2.1,r4.2.2.2.2.1,r4.2.2.2.2.2))]) [(0,Value.agg #[vS (r1.1),vI (r1.2.1),vI (r1.2.2.1),vI (r1.2.2.2.1),vI (r1.2.2.2.2.1),vI (r1.2.2.2.2.2)]),(1,Value.agg #[vS (r4.1),vI (r4.2.1),vI (r4.2.2.1),vI (r4.2.2.2.1),vI (r4.2.2.2.2.1),vI (r4.2.2.2.2.2)])] rfl rfl rfl rfl (RG (vS (r1.1)) (vI (r1.2.1)) (vI (r1.2.2.1)) (vI (r1.2.2.2.1)) (vI (r1.2.2.2.2.1)) (vI (r1.2.2.2.2.2)) (vS (r4.1)) (vI (r4.2.1)) (vI (r4.2.2.1)) (vI (r4.2.2.2.1)) (vI (r4.2.2.2.2.1)) (vI (r4.2.2.2.2.2))) rfl rfl rfl) rfl fun u7=>qkAsg rfl<|dtN<|aP ?_
 cases h
 exact fS (u7) rfl rfl (RV.tmp rfl) (aQ.refl _) aD.nil
end
section
def vJ  (a2:Unit):Option (Int):=
 some (-1:Int)
def rU (p0:cM) (p1:Int) (p2:Int) (a7:Int) (ag6:(Int)->Option (Int)):Option (Int):=
 if a7<(List.length (at' p0.2 p1):Int)then(ck (0<=a7∧a7<(List.length (at' p0.2 p1):Int)) (if((at' (at' p0.2 p1) a7).1)=p2 then(some (a7))else(ag6 (wI .i64 (a7+(1:Int))))))else(vJ  (()))
def kX (U:Nat) (p0:cM) (p1:Int) (p2:Int):Option (Int):=
 ck (0<=p1∧p1<(List.length p0.2:Int)) (bE (rU p0 p1 p2) U (0:Int))
theorem Nu:aO Tryz.prog 116:=Tryz.call116
theorem AY (U:Nat) {p0:cM} {p1:Int} {p2:Int} (v0:Value)  (v1:Value)  (z2:mB) (r:Int) (h:kX U p0 p1 p2=some r):
  aT Tryz.prog 116 #[Value.agg #[v0,v1],vI (p1),vI (p2)] [Sl bD v0 p0.1,S2 aV v1 z2 p0.2] (fun x:Unit=>vI (r)) (fun x l=>l) (fun _ l=>l):=by
 refine aT.of Tryz.func116 rfl Tryz.ntmps116 rfl fun c=>?_
 refine sqR<|aF (aJ.box (cs:=[v0,v1]) rfl rfl) rfl fun b1=>qkAsg rfl<|dtN<|aI<|midU (fun a2=>vJ  a2=some r) (fun a2 b3=>[]) (fun a2 b3=>[]) ?_ ?_
 ·refine sqR<|qkFld rfl<|qkLd 0 rfl<|qkMove rfl<|ckE h fun j4 h=>aB (cK rfl rfl (aC.fact 1 rfl) rfl rfl j4) rfl<|aB (cJ rfl (aC.fact 1 rfl) rfl rfl j4) rfl<|aB (fR rfl (aC.el (aC.fact 1 rfl) j4.1 j4.2) rfl) rfl<|qkMove rfl<|dtN<|aN<|loopL (rU p0 p1 p2) (fun a7 b8=>[(2,vI (p2)),(13,(at' z2 p1).1),(14,vI (List.length (at' p0.2 p1):Int)),(15,vI (a7))]) (fun a7 b8=>[]) (0:Int) () h SF .nil ?_
  intro k9 a7 b8 h
  refine sqR<|qkLss rfl<|dtN<|aI ?_
  refine eB h rfl (fun h=>?_) fun h=>?_
  ·refine cI<|aI<|aN<|sqR<|qkMove rfl<|ckE h fun j11 h=>aB (aY rfl rfl (aC.el (aC.fact 1 rfl) j4.1 j4.2) rfl rfl j11) rfl<|aB (fL (cs:=[vI ((at' (at' p0.2 p1) a7).1),vI ((at' (at' p0.2 p1) a7).2)]) rfl (aC.el (aC.fact 1 rfl) j4.1 j4.2) bJ rfl rfl rfl rfl j11) rfl<|aF (aJ.alloc (cs:=LN) rfl rfl) rfl fun b12=>qkAsg rfl<|bH 0 (vs:=[vI ((at' (at' p0.2 p1) a7).1),vI ((at' (at' p0.2 p1) a7).2)]) rfl rfl rfl rfl rfl rfl<|dtN<|sqR<|qkFld rfl<|qkLd 0 rfl<|qkMove rfl<|qkEql rfl<|dtN ?_
   refine eB h rfl (fun h=>?_) fun h=>?_
   ·refine sqR<|qkMove rfl<|qkAsg rfl<|dtN<|aP<|bK<|aH<|aH<|bK<|aH ?_
    cases h
    exact tV rfl
   refine cU<|inT<|aM<|qkAdd rfl<|qkMove rfl<|dtN ?_
   exact lS (wI .i64 (a7+(1:Int))) () h SF .nil (aD.refl _ _)
  refine vT ?_
  exact jV () (()) h SF rfl
 intro a2 b3 h
 unfold vJ at h
 refine sqR<|qkAsg rfl<|dtN<|aP ?_
 cases h
 exact lI rfl
end
section
def qT (p1:cM) (a6:eF):Option qN:=
 some ((p1.1,a6))
def jW (U:Nat) (p0:Aw) (p1:cM) (a14:Int×eF) (ag13:(Int×eF)->Option qN) (a18:Bool):Option qN:=
 if a18=true then(ck (0<=a14.1∧a14.1<(List.length p0.2.1:Int)) (Option.bind (eY U (at' p0.2.1 a14.1) (List.length p1.2:Int)) fun r22=>(ck (0<=(wI .i64 (a14.1+(1:Int)))∧(wI .i64 (a14.1+(1:Int)))<(List.length p0.2.1:Int)) (Option.bind (eY U (at' p0.2.1 (wI .i64 (a14.1+(1:Int)))) (List.length p1.2:Int)) fun r26=>(Option.bind (pY U p0.2.2.1 a14.1) fun r29=>(Option.bind (eY U r29 (15:Int)) fun r32=>(Option.bind (kV U ((p0.1,p0.2.1,p0.2.2.1,p0.2.2.2.1,p0.2.2.2.2.1,p0.2.2.2.2.2)) ((p1.1,a14.2)) r22 r26 (wI .i64 ((1:Int)+r32))) fun r35=>(ag13 ((wI .i64 (a14.1+(2:Int))),r35)))))))))else(qT p1 (a14.2))
def mM (U:Nat) (p0:Aw) (p1:cM) (a14:Int×eF) (ag13:(Int×eF)->Option qN):Option qN:=
 if(wI .i64 (a14.1+(1:Int)))<(List.length p0.2.1:Int)then(jW U p0 p1 a14 ag13 (decide (a14.1<(60:Int))))else(jW U p0 p1 a14 ag13 (false))
def kW (U:Nat) (p0:Aw) (p1:cM):Option qN:=
 bE (mM U p0 p1) U ((List.length p1.2:Int),p1.2)
theorem WO:aO Tryz.prog 26:=Tryz.call26
theorem Co (U:Nat) {p0:Aw} {p1:cM} (v0:Value)  (v1:Value)  (v2:Value)  (v3:Value)  (v4:Value)  (w5:fJ) (r:BY) (h:kW U p0 p1=some r):
  Cb Tryz.prog 26 #[Value.agg #[vI (p0.1),v0,v1,v2,vB (p0.2.2.2.2.1),vB (p0.2.2.2.2.2)],Value.agg #[v3,v4]] [Ar bU v3 p1.1,Ar cZ.raw v4 w5,jK bS w5 p1.2] [Sl bD v0 p0.2.1,Sl bD v1 p0.2.2.1,Sl bD v2 p0.2.2.2.1] (fun x:Value×Value×List Value=>Value.agg #[x.1,x.2.1]) (fun x l=>Ar bU x.1 r.1::Ar cZ.raw x.2.1 x.2.2::jK bS x.2.2 r.2::l):=by
 refine Cb.of (vs:=[Value.agg #[vI (p0.1),v0,v1,v2,vB (p0.2.2.2.2.1),vB (p0.2.2.2.2.2)],Value.agg #[v3,v4]]) Tryz.func26 rfl Tryz.ntmps26 rfl fun c=>?_
 unfold kW at h
 refine sqR<|aF (aJ.box (cs:=[vI (p0.1),v0,v1,v2,vB (p0.2.2.2.2.1),vB (p0.2.2.2.2.2)]) rfl rfl) rfl fun b1=>aF (aJ.box (cs:=[v3,v4]) rfl rfl) rfl fun b2=>aF (aJ.alloc (cs:=[kK,kK]) rfl rfl) rfl fun b3=>dtN<|sqR<|qkFld rfl<|qkLd 1 rfl<|aB (iM rfl (bF (i:=4) (j:=5) rfl rfl bJ) rfl) rfl<|qkAsg rfl<|dtN<|aI<|vF (B:=fJ) (fun a6=>qT p1 a6=some r) (fun a6 b7=>[(3,vP b2),(4,vP b3)]) (fun a6 b7=>[bM b3 [kK,kK] 28,bM b2 [v3,v4] 28,Ar bU v3 p1.1,Ar cZ.raw v4 b7,jK bS b7 a6]) (fun a6 b7=>[Sl bD v0 p0.2.1,Sl bD v1 p0.2.2.1,Sl bD v2 p0.2.2.2.1]) ?_ ?_
 ·refine sqR<|qkMove rfl<|qkAsg rfl<|dtN<|aN<|CF (B:=fJ) (mM U p0 p1) (fun a14 b15=>[(2,vP b1),(3,vP b2),(4,vP b3),(5,vI (List.length p1.2:Int)),(6,vI (a14.1))]) (fun a14 b15=>[bM b3 [kK,kK] 28,bM b2 [v3,v4] 28,bM b1 [vI (p0.1),v0,v1,v2,vB (p0.2.2.2.2.1),vB (p0.2.2.2.2.2)] 24,Ar bU v3 p1.1,Ar cZ.raw v4 b15,jK bS b15 a14.2]) (fun a14 b15=>[Sl bD v0 p0.2.1,Sl bD v1 p0.2.2.1,Sl bD v2 p0.2.2.2.1]) ((List.length p1.2:Int),p1.2) (w5) h SF (aQ.refl _) (aD.refl _ _) ?_
  intro k16 a14 b15 h
  refine aI<|aI<|vF (B:=Unit) (fun a18=>jW U p0 p1 a14 (bE (mM U p0 p1) k16) a18=some r) (fun a18 b19=>[(2,vP b1),(3,vP b2),(4,vP b3),(5,vI (List.length p1.2:Int)),(6,vI (a14.1)),(20,vB (a18))]) (fun a18 b19=>[bM b3 [kK,kK] 28,bM b2 [v3,v4] 28,bM b1 [vI (p0.1),v0,v1,v2,vB (p0.2.2.2.2.1),vB (p0.2.2.2.2.2)] 24,Ar bU v3 p1.1,Ar cZ.raw v4 b15,jK bS b15 a14.2]) (fun a18 b19=>[Sl bD v0 p0.2.1,Sl bD v1 p0.2.2.1,Sl bD v2 p0.2.2.2.1]) ?_ ?_
  ·refine aM<|qkMove rfl<|qkAdd rfl<|qkFld rfl<|qkLd 2 rfl<|qkLen (aC.fact 0 rfl) rfl<|qkLss rfl<|qkMove rfl ?_
   refine Cv h rfl (fun _ h=>?_) fun _ h=>?_
   ·refine gyMove rfl<|aR rfl (Kn rfl rfl) rfl<|qkPkT rfl<|dtN ?_
    exact jV (decide (a14.1<(60:Int))) () h SF rfl
   refine gdSkip rfl<|gdSkip rfl<|qkPkF rfl<|dtN ?_
   exact jV (false) () h SF rfl
  intro a18 b19 h
  refine As h rfl (fun _ h=>?_) fun _ h=>?_
  ·refine cI<|aI<|aN ?_
   refine JR.start [0,0,0,4,0,28,60,0,252,0,512,0,2048,7680,15872,0,65532,0,131072,0,1048572,2097148,4194300,8388607] 23 mixedOrders (by decide +kernel) ?_
   refine JR.open (by exact rfl) ?_
   refine jkLdA 2 rfl<|jkLdA 1 rfl<|jkFld rfl<|jkLd 2 rfl<|jkMove rfl<|ckE h fun j21 h=>bG rfl .nil (mJ 0 rfl) (aY rfl rfl (aC.fact 0 rfl) rfl rfl j21) aK.z<|bG rfl .nil (mJ 0 rfl) (bT rfl (aC.fact 0 rfl) rfl rfl rfl dO j21) aK.z<|jkMove rfl<|bnE h fun r22 hr23 h=>JR.loud rfl rfl rfl (aJ.callQ AH (jI U  r22 hr23) rfl .nil) rfl (fun x24=>(rA [([1],[]),([2],[])] rfl)) fun x24=>jqN rfl (c_ rfl rfl rfl rfl rfl)<|bG rfl (aQ.cons 2 rfl .nil) .nil (dX 0 rfl rfl rfl rfl rfl) (aK.h (aQ.ix [2] rfl rfl) .nil aK.z)<|jqN rfl (kM rfl)<|jqN rfl (pQ rfl rfl)<|ckE h fun j25 h=>bG rfl .nil (mJ 0 rfl) (aY rfl rfl (aC.fact 0 rfl) rfl rfl j25) (aK.h .nil (mJ 0 rfl) aK.z)<|bG rfl .nil (mJ 0 rfl) (bT rfl (aC.fact 0 rfl) rfl rfl rfl dO j25) (aK.h .nil (mJ 0 rfl) aK.z)<|jqN rfl (kM rfl)<|bnE h fun r26 hr27 h=>JR.loud rfl rfl rfl (aJ.callQ AH (jI U  r26 hr27) rfl .nil) rfl (fun x28=>(rA [([1],[]),([2],[])] rfl)) fun x28=>jqN rfl (c_ rfl rfl rfl rfl rfl)<|bG rfl (aQ.cons 2 rfl .nil) .nil (dX 0 rfl rfl rfl rfl rfl) (aK.h (aQ.ix [2] rfl rfl) .nil (aK.h (aQ.ix [2] rfl rfl) .nil aK.z))<|jqN rfl (kM rfl)<|bnE h fun r29 hr30 h=>JR.loud rfl rfl rfl (aJ.callQ FV (xC U v1 r29 hr30) rfl (oI [1] rfl)) rfl (fun x31=>(rA [([1],[]),([2],[])] rfl)) fun x31=>bnE h fun r32 hr33 h=>JR.loud rfl rfl rfl (aJ.callQ AH (jI U  r32 hr33) rfl .nil) rfl (fun x34=>(rA [([1],[]),([2],[])] rfl)) fun x34=>jqN rfl (pQ rfl rfl)<|bO 23 rfl rfl<|bnE h fun r35 hr36 h=>aF (Ca (Min:=[Ar cZ.raw v4 b15,jK bS b15 a14.2]) (Mr:=[bM b3 [kK,kK] 28,bM b2 [v3,v4] 28,bM b1 [vI (p0.1),v0,v1,v2,vB (p0.2.2.2.2.1),vB (p0.2.2.2.2.2)] 24,Ar bU v3 p1.1]) QX (wX U v0 v1 v2 v3 v4 b15 r35 hr36) rfl (aQ.ix [4,5,0,1,2,3] rfl rfl) (aD.cons (aC.fact 0 rfl) (aD.cons (aC.fact 1 rfl) (aD.cons (aC.fact 2 rfl) (aD.cons (aU (aC.res 3 rfl) cP) .nil)))) (fun _ _=>rfl)) rfl fun x37=>dY<|inT<|aM<|qkMove rfl<|qkAdd rfl<|qkAsg rfl<|dtN ?_
   exact lS ((wI .i64 (a14.1+(2:Int))),r35) (x37) h SF (aQ.ix [2,3,4,5,0,1] rfl rfl) (aD.refl _ _)
  refine vT ?_
  exact bY (a14.2) (b15) h SF (aQ.ix [0,1,3,4,5] rfl rfl) (aD.refl _ _)
 intro a6 b7 h
 unfold qT at h
 refine sqR<|qkLdA 1 rfl<|bQ (Know.one ((aU (aC.res 2 rfl) cP))) fun ho8=>bQ (Know.one (aC.sl (bF (i:=3) (j:=4) rfl rfl bJ))) fun ho9=>bH 0 (vs:=[v3,v4]) rfl rfl (dK ho8 (dK ho9 rfl)) rfl rfl rfl<|dtN<|aP ?_
 cases h
 exact fS (v3,v4,b7) rfl rfl (RV.cell 0 rfl rfl rfl rfl) (aQ.ix [2,3,4] rfl rfl) aD.nil
end
section
def gF (U:Nat) (p0:Aw) (p1:Int):Option qN:=
 Option.bind (kU U ((p0.1,p0.2.1,p0.2.2.1,p0.2.2.2.1,p0.2.2.2.2.1,p0.2.2.2.2.2)) p1) fun r3=>(Option.bind (kW U ((p0.1,p0.2.1,p0.2.2.1,p0.2.2.2.1,p0.2.2.2.2.1,p0.2.2.2.2.2)) ((r3.1,r3.2))) fun r6=>(some ((r6.1,r6.2))))
theorem YZ:aO Tryz.prog 7:=Tryz.call7
theorem yW (U:Nat) {p0:Aw} {p1:Int} (v0:Value)  (v1:Value)  (v2:Value) (r:BY) (h:gF U p0 p1=some r):
  aT Tryz.prog 7 #[Value.agg #[vI (p0.1),v0,v1,v2,vB (p0.2.2.2.2.1),vB (p0.2.2.2.2.2)],vI (p1)] [Sl bD v0 p0.2.1,Sl bD v1 p0.2.2.1,Sl bD v2 p0.2.2.2.1] (fun x:Value×Value×List Value=>Value.agg #[x.1,x.2.1]) (fun x l=>Ar bU x.1 r.1::Ar cZ.raw x.2.1 x.2.2::jK bS x.2.2 r.2::l) (fun _ l=>l):=by
 refine aT.of Tryz.func7 rfl Tryz.ntmps7 rfl fun c=>?_
 refine sqR<|aF (aJ.box (cs:=[vI (p0.1),v0,v1,v2,vB (p0.2.2.2.2.1),vB (p0.2.2.2.2.2)]) rfl rfl) rfl fun b1=>aF (aJ.alloc (cs:=[kK,kK]) rfl rfl) rfl fun b2=>dtN<|aI ?_
 refine JR.start [0,0,0,6,15,31] 4 mixedOrders (by decide +kernel) ?_
 refine JR.open (by exact rfl) ?_
 refine jkLdA 1 rfl<|jkLdA 1 rfl<|jkMove rfl<|bnE h fun r3 w4 h=>JR.loud rfl rfl rfl (aJ.callQ QV (wW U v0 v1 v2 r3 w4) rfl (oI [0,1,2] rfl)) rfl (fun x5=>(rA [([4],[])] rfl)) fun x5=>bO 4 rfl rfl<|bnE h fun r6 w7 h=>aF (Ca (Min:=[Ar bU x5.1 r3.1,Ar cZ.raw x5.2.1 x5.2.2,jK bS x5.2.2 r3.2]) (Mr:=[bM b2 [kK,kK] 28,bM b1 [vI (p0.1),v0,v1,v2,vB (p0.2.2.2.2.1),vB (p0.2.2.2.2.2)] 24]) WO (Co U v0 v1 v2 x5.1 x5.2.1 x5.2.2 r6 w7) rfl (aQ.refl _) (oI [0,1,2] rfl) (fun _ _=>rfl)) rfl fun x8=>bQ (Know.one ((aU (aC.res 0 rfl) cP))) fun ho9=>bQ (Know.one (aC.sl (bF (i:=1) (j:=2) rfl rfl bJ))) fun ho10=>bH 3 (vs:=[x8.1,x8.2.1]) rfl rfl (dK ho9 (dK ho10 rfl)) rfl rfl rfl<|dtN<|aP ?_
 cases h
 exact fS (x8.1,x8.2.1,x8.2.2) rfl rfl (RV.cell 3 rfl rfl rfl rfl) (aQ.ix [0,1,2] rfl rfl) aD.nil
end
section
def vA (U:Nat) (p0:cM):Option (Int):=
 ck (0<=(List.length p0.1:Int)) (some (wI .u32 ((zH .u32 (1:Int) (List.length p0.1:Int)) - (1:Int))))
theorem WW:aO Tryz.prog 43:=Tryz.call43
theorem Ln (U:Nat) {p0:cM} (v0:Value)  (v1:Value)  (z2:mB) (r:Int) (h:vA U p0=some r):
  aT Tryz.prog 43 #[Value.agg #[v0,v1]] [Sl bD v0 p0.1,S2 aV v1 z2 p0.2] (fun x:Unit=>vU (r)) (fun x l=>l) (fun _ l=>l):=by
 refine aT.of Tryz.func43 rfl Tryz.ntmps43 rfl fun c=>?_
 refine sqR<|aF (aJ.box (cs:=[v0,v1]) rfl rfl) rfl fun b1=>qkAsg rfl<|dtN<|sqR<|qkFld rfl<|qkLd 0 rfl<|qkLen (aC.fact 0 rfl) rfl<|ckE h fun j2 h=>aB (Kp rfl rfl j2) rfl<|aB (pR rfl rfl) rfl<|qkAsg rfl<|dtN<|aP ?_
 cases h
 exact tV rfl
end
end Go.Proofs.YtigggfnchamobaaGreatDoor
end
section
section
namespace Go.Proofs.YtigggfnchamobaaGreatDoor
open Go.Sx
section
theorem De {R:Type} {step:Int->(Int->Option R)->Option R} {K:Option R} {bad:R} (N:Nat) (p:Nat->Prop)
  (hok:∀(k:Nat) ag,k<N->p k->step k ag=ag ((k:Int)+1)) (hbad:∀(k:Nat) ag,k<N->¬p k->step k ag=some bad) (hend:∀ag,step N ag=K):
  ∀(fuel:Nat),N<fuel->((∀k,k<N->p k)->bE step fuel 0=K)∧(¬(∀k,k<N->p k)->bE step fuel 0=some bad):=by
 intro fuel hf
 have key:∀(d a fuel:Nat),a+d=N->d<fuel->((∀k,a<=k->k<N->p k)->bE step fuel (a:Int)=K)∧(¬(∀k,a<=k->k<N->p k)->bE step fuel (a:Int)=some bad):=by
  intro d
  induction d with
  |zero=>
   intro a fuel ha hf
   obtain rfl:a=N:=by omega
   cases fuel with
   |zero=>omega
   |succ f=>exact⟨fun _=>hend _,fun h=>absurd (fun k h1 h2=>by omega) h⟩
  | succ d ih =>
   intro a fuel ha hf
   cases fuel with
   |zero=>omega
   | succ f =>
    obtain⟨i1,i2⟩:=ih (a+1) f (by omega) (by omega)
    have e:((a+1:Nat):Int)=(a:Int)+1:=by omega
    rw[e]at i1 i2
    by_cases hp:p a
    ·have hs:bE step (f+1) (a:Int)=bE step f ((a:Int)+1):=hok a _ (by omega) hp
     rw[hs]
     refine⟨fun h=>i1 fun k h1 h2=>h k (by omega) h2,fun h=>i2 fun h'=>h fun k h1 h2=> ?_⟩
     by_cases hk:k=a
     ·subst hk;exact hp
     ·exact h' k (by omega) h2
    ·exact⟨fun h=>absurd (h a (Nat.le_refl _) (by omega)) hp,fun _=>hbad a _ (by omega) hp⟩
 obtain⟨h1,h2⟩:=key N 0 fuel (by omega) hf
 exact⟨fun h=>h1 fun k _ hk=>h k hk,fun h=>h2 fun h'=>h fun k hk=>h' k (by omega) hk⟩
abbrev GR:=List Int×eF
abbrev row (g:GR) (v:Nat):eD:=at' g.2 (v:Int)
abbrev Vf (g:GR) (v:Nat):Int:=at' g.1 (v:Int)
abbrev gR (l:eD) (i:Nat):eZ:=at' l (i:Int)
def light (g:GR):Prop:=g.1.length<=30∧g.2.length<=30∧∀v,v<g.2.length->(row g v).length<=30
def FG (l:eD) (v n i:Nat):Prop:=(0<=(gR l i).1∧(gR l i).1<=(n:Int) - 1)∧(gR l i).1≠v∧(1<=(gR l i).2∧(gR l i).2<=15)∧∀k,k<i->(gR l k).1≠(gR l i).1
def rP (l:eD) (v n:Nat):Prop:=∀i,i<l.length->FG l v n i
def yC (l:eD) (u:Int):Int:=match l.findIdx? (fun x=>decide (x.1=u))with
 |some i=>i
 |none=> -1
theorem KX {l:eD} {u:Int} (i:Nat) (hi:i<l.length) (hu:(gR l i).1=u) (hf:∀k,k<i->(gR l k).1≠u):yC l u=i:=by
 have:l.findIdx? (fun x=>decide (x.1=u))=some i:=by
  rw[List.findIdx?_eq_some_iff_getElem]
  have e:∀k (hk:k<l.length),gR l k=l[k]:=fun k hk=>by rw[gR,i_,List.getD_eq_getElem?_getD,List.getElem?_eq_getElem hk];rfl
  refine⟨hi,by rw[<-e i hi];simpa using hu,fun k hk=> ?_⟩
  have:=hf k hk
  rw[e k (by omega)]at this
  simpa using this
 rw[yC,this]
theorem KW {l:eD} {u:Int} (hf:∀k,k<l.length->(gR l k).1≠u):yC l u = -1:=by
 have:l.findIdx? (fun x=>decide (x.1=u))=none:=by
  rw[List.findIdx?_eq_none_iff]
  intro x hx
  obtain⟨k,hk,rfl⟩:=List.getElem_of_mem hx
  have:=hf k hk
  rw[gR,i_,List.getD_eq_getElem?_getD,List.getElem?_eq_getElem hk]at this
  simpa using this
 rw[yC,this]
theorem Jq (l:eD) (u:Int):(∃i,i<l.length∧(gR l i).1=u∧(∀k,k<i->(gR l k).1≠u)∧yC l u=i)∨((∀k,k<l.length->(gR l k).1≠u)∧yC l u = -1):=by
 by_cases h:∀k,k<l.length->(gR l k).1≠u
 ·exact .inr ⟨h,KW h⟩
 ·left
  have hex:∃k,k<l.length∧(gR l k).1=u:=by
   apply Classical.byContradiction
   intro hc
   exact h fun k hk he=>hc ⟨k,hk,he⟩
  obtain⟨k,hk,hku⟩:=hex
  have:∀m,(∃k,k<=m∧k<l.length∧(gR l k).1=u)->∃i,i<l.length∧(gR l i).1=u∧∀k,k<i->(gR l k).1≠u:=by
   intro m
   induction m with
   |zero=>rintro⟨k,h1,h2,h3⟩;exact⟨k,h2,h3,fun j hj=>by omega⟩
   |succ m ih=>
    rintro⟨k,h1,h2,h3⟩
    by_cases hlt:∃j,j<=m∧j<l.length∧(gR l j).1=u
    ·exact ih hlt
    ·exact⟨k,h2,h3,fun j hj he=>hlt ⟨j,by omega,by omega,he⟩⟩
  obtain⟨i,h1,h2,h3⟩:=this k ⟨k,Nat.le_refl _,hk,hku⟩
  exact⟨i,h1,h2,h3,KX i h1 h2 h3⟩
end
section
theorem Df {X R:Type} {step:X->(X->Option R)->Option R} {K:X->Option R} {bad:R} (N:Nat) (p:Nat->Prop) (I:Nat->X->Prop)
  (hok:∀(k:Nat) x ag,k<N->I k x->p k->∃x',I (k+1) x'∧step x ag=ag x') (hbad:∀(k:Nat) x ag,k<N->I k x->¬p k->step x ag=some bad) (hend:∀x ag,I N x->step x ag=K x):
  ∀(fuel:Nat) (x:X),I 0 x->N<fuel->((∀k,k<N->p k)->∃x',I N x'∧bE step fuel x=K x')∧(¬(∀k,k<N->p k)->bE step fuel x=some bad):=by
 intro fuel x hI hf
 have key:∀(d a fuel:Nat) (x:X),a+d=N->d<fuel->I a x->((∀k,a<=k->k<N->p k)->∃x',I N x'∧bE step fuel x=K x')∧(¬(∀k,a<=k->k<N->p k)->bE step fuel x=some bad):=by
  intro d
  induction d with
  |zero=>
   intro a fuel x ha hf hI
   obtain rfl:a=N:=by omega
   cases fuel with
   |zero=>omega
   |succ f=>exact⟨fun _=>⟨x,hI,hend _ _ hI⟩,fun h=>absurd (fun k h1 h2=>by omega) h⟩
  | succ d ih =>
   intro a fuel x ha hf hI
   cases fuel with
   |zero=>omega
   | succ f =>
    by_cases hp:p a
    ·obtain⟨x',hI',hs⟩:=hok a x (bE step f) (by omega) hI hp
     have hs:bE step (f+1) x=bE step f x':=hs
     obtain⟨i1,i2⟩:=ih (a+1) f x' (by omega) (by omega) hI'
     rw[hs]
     refine⟨fun h=>i1 fun k h1 h2=>h k (by omega) h2,fun h=>i2 fun h'=>h fun k h1 h2=> ?_⟩
     by_cases hk:k=a
     ·subst hk;exact hp
     ·exact h' k (by omega) h2
    ·exact⟨fun h=>absurd (h a (Nat.le_refl _) (by omega)) hp,fun _=>hbad a x _ (by omega) hI hp⟩
 obtain⟨h1,h2⟩:=key N 0 fuel x (by omega) hf hI
 exact⟨fun h=>h1 fun k _ hk=>h k hk,fun h=>h2 fun h'=>h fun k hk=>h' k (by omega) hk⟩
def HC (g:GR) (v i:Nat):Prop:=∃j,j<(at' g.2 (gR (row g v) i).1).length∧(gR (at' g.2 (gR (row g v) i).1) j).1=v∧(gR (at' g.2 (gR (row g v) i).1) j).2=(gR (row g v) i).2
structure Wz (g:GR) (v:Nat):Prop where
 id:0<=Vf g v∧Vf g v<=255
 deg:(row g v).length<g.2.length
 links:rP (row g v) v g.2.length
 ids:∀k,k<v->Vf g k≠Vf g v
structure VG (g:GR):Prop where
 n1:1<=g.2.length
 n24:g.2.length<=24
 len:g.1.length=g.2.length
 node:∀v,v<g.2.length->Wz g v
 sym:∀v,v<g.2.length->∀i,i<(row g v).length->HC g v i
theorem wK {α:Type} [Inhabited α] (l:List α) (i k:Nat) (y:α) (hi:i<l.length):at' (l.set i y) (k:Int)=if k=i then y else at' l (k:Int):=by
 rw[i_,i_,List.getD_eq_getElem?_getD,List.getD_eq_getElem?_getD,List.getElem?_set]
 by_cases h:i=k
 ·rw[if_pos h,if_pos h.symm,if_pos (by omega)];rfl
 ·rw[if_neg h,if_neg (Ne.symm h)]
def Qn (l:aL) (k:Nat):Prop:=(0<=at' l (k:Int)∧at' l (k:Int)<=255)∧∀j,j<k->at' l (j:Int)≠at' l (k:Int)
theorem rQ (l:aL) (hl:l.length<=30):((∀k,k<l.length->Qn l k)->gH 1000 l=some true)∧(¬(∀k,k<l.length->Qn l k)->gH 1000 l=some false):=by
 unfold gH
 have key:=Df (step:=eI l) (K:=fun _=>some true) (bad:=false) l.length (Qn l) (fun k x=>x.1=(k:Int)∧x.2.length=256∧∀z:Nat,z<256->(at' x.2 (z:Int)=true↔∃j,j<k∧at' l (j:Int)=(z:Int))) ?_ ?_ ?_ 1000 ((0:Int),(List.replicate 256 false)) ⟨rfl,List.length_replicate ..,fun z hz=> ?_⟩ (by omega)
 ·exact⟨fun h=>by obtain⟨x,_,hx⟩:=key.1 h;exact hx,key.2⟩
 ·rintro k ⟨x1,x2⟩ ag hk ⟨hx,hlen,hs⟩ ⟨hr,hd⟩
  dsimp only at hx hlen hs
  subst hx
  obtain⟨z,hz⟩:∃z:Nat,at' l (k:Int)=z:=⟨(at' l (k:Int)).toNat,by omega⟩
  have hz2:z<256:=by omega
  have hno:¬at' x2 (z:Int)=true:=by
   rw[hs z hz2]
   rintro⟨j,hj,he⟩
   exact hd j hj (he.trans hz.symm)
  refine⟨((k:Int)+1,x2.set z true),⟨by simp,by simp[hlen],fun y hy=> ?_⟩,?_⟩
  ·dsimp only
   rw[wK _ _ _ _ (by omega)]
   by_cases hyz:y=z
   ·subst hyz
    rw[if_pos rfl]
    exact⟨fun _=>⟨k,by omega,hz⟩,fun _=>rfl⟩
   ·rw[if_neg hyz,hs y hy]
    constructor
    ·rintro⟨j,hj,he⟩;exact⟨j,by omega,he⟩
    ·rintro⟨j,hj,he⟩
     by_cases hjk:j=k
     ·subst hjk;rw[hz]at he;omega
     ·exact⟨j,by omega,he⟩
  ·unfold eI fQ
   dsimp only
   rw[if_pos (by omega),cL (by omega),hz,if_neg (by omega),if_neg (by omega),cL ⟨by omega,hlen⟩,if_neg hno,cL ⟨by omega,hlen⟩,wr (by omega) (by omega)]
   rfl
 ·rintro k ⟨x1,x2⟩ ag hk ⟨hx,hlen,hs⟩ hp
  dsimp only at hx hlen hs
  subst hx
  unfold eI fQ
  dsimp only
  rw[if_pos (by omega),cL (by omega)]
  by_cases h1:at' l (k:Int)<0
  ·rw[if_pos h1,if_pos rfl]
  rw[if_neg h1]
  by_cases h2:255<at' l (k:Int)
  ·rw[if_pos h2,if_pos rfl]
  rw[if_neg h2]
  obtain⟨z,hz⟩:∃z:Nat,at' l (k:Int)=z:=⟨(at' l (k:Int)).toNat,by omega⟩
  rw[hz,cL ⟨by omega,hlen⟩,if_pos]
  rw[hs z (by omega)]
  apply Classical.byContradiction
  intro hc
  exact hp ⟨by omega,fun j hj he=>hc ⟨j,hj,he.trans hz⟩⟩
 ·rintro⟨x1,x2⟩ ag ⟨hx,_,_⟩
  dsimp only at hx
  subst hx
  unfold eI lH
  dsimp only
  rw[if_neg (by omega)]
 ·rw[show at' (List.replicate 256 false) (z:Int)=false by rw[i_,List.getD_eq_getElem?_getD,List.getElem?_replicate,if_pos hz];rfl]
  exact⟨fun h=>(by cases h),fun⟨j,hj,_⟩=>(by omega)⟩
theorem PD {κ ν:Type} [DecidableEq κ] (k k':κ) (v:ν):∀l:List (κ×ν),kI k' (zR k v l)=if k'=k then some v else kI k' l
 | []=>by simp only[zR,kI]
 | x :: xs => by
  simp only[zR]
  by_cases h:k=x.1
  ·rw[if_pos h];simp only[kI]
   by_cases h2:k'=k
   ·rw[if_pos h2,if_pos h2]
   ·rw[if_neg h2,if_neg h2,if_neg (fun h3=>h2 (h3.trans h.symm))]
  ·rw[if_neg h];simp only[kI]
   by_cases h2:k'=x.1
   ·rw[if_pos h2,if_neg (fun h3=>h (h3.symm.trans h2)),if_pos h2]
   ·rw[if_neg h2,PD k k' v xs]
    by_cases h3:k'=k
    ·rw[if_pos h3,if_pos h3]
    ·rw[if_neg h3,if_neg h3,if_neg h2]
theorem KL {κ ν:Type} [DecidableEq κ] {k:κ} {v:ν} {z:κ×ν} {l:List (κ×ν)} (h0:kI k l=none):z∈zR k v l↔z=(k,v)∨z∈l:=by
 rw[Ed k v l h0]
 simp[or_comm]
theorem Ec {κ ν:Type} [DecidableEq κ] {k:κ}:∀{l:List (κ×ν)},(∀v,(k,v)∉l)->kI k l=none
 | [],_=>rfl
 |x::xs,h=>by
  simp only[kI]
  rw[if_neg (fun e=>h x.2 (by rw[e];exact List.mem_cons_self ..))]
  exact Ec fun v hv=>h v (List.mem_cons_of_mem _ hv)
theorem rF {κ ν:Type} [DecidableEq κ] {k:κ} {v:ν}:∀{l:List (κ×ν)},kI k l=none->(k,v)∉l
 | [],_=>by simp
 | x :: xs, h => by
  simp only[kI]at h
  by_cases e:k=x.1
  ·rw[if_pos e]at h;cases h
  ·rw[if_neg e]at h
   intro hm
   rcases List.mem_cons.1 hm with h2|h2
   ·exact e (by rw[<-h2])
   ·exact rF h h2
theorem yU {κ ν:Type} [DecidableEq κ] {k:κ} {v:ν}:∀{l:List (κ×ν)},kI k l=some v->(k,v)∈l
 |x::xs,h=>by
  simp only[kI]at h
  by_cases e:k=x.1
  ·rw[if_pos e]at h;cases h;rw[e];exact List.mem_cons_self ..
  ·rw[if_neg e]at h;exact List.mem_cons_of_mem _ (yU h)
theorem Gz {κ ν:Type} (p:κ×ν->Prop) [DecidablePred p]:∀l:List (κ×ν),Hn (fun kv x=>if p kv then some false else x) (some true) l=some (decide (∀z∈l,¬p z))
 | []=>by simp[Hn]
 |x::xs=>by
  show(if p x then some false else Hn _ (some true) xs)=_
  rw[Gz p xs]
  by_cases h:p x
  ·rw[if_pos h];congr 1;symm;exact decide_eq_false fun h2=>h2 x (List.mem_cons_self ..) h
  ·rw[if_neg h];congr 1;apply decide_eq_decide.2;simp[h]
def Ka (ps:eF) (v i:Nat) (z:(Int×Int)×Int):Prop:=∃a b:Nat,(a<v∨(a=v∧b<i))∧b<(at' ps (a:Int)).length∧z=(((a:Int),(gR (at' ps (a:Int)) b).1),(gR (at' ps (a:Int)) b).2)
def HD (ps:eF):Prop:=(∀v,v<ps.length->rP (at' ps (v:Int)) v ps.length)∧∀v,v<ps.length->∀i,i<(at' ps (v:Int)).length->HC ([],ps) v i
theorem Dr (ps:eF) (hn:ps.length<=30) (hd:∀v,v<ps.length->(at' ps (v:Int)).length<=30):(HD ps->eO 1000 ps=some true)∧(¬HD ps->eO 1000 ps=some false):=by
 unfold eO
 have inner:∀(v:Nat) (m:List ((Int×Int)×Int)) ag,v<ps.length->(∀z,z∈m↔Ka ps v 0 z)->
   (rP (at' ps (v:Int)) v ps.length->∃m',(∀z,z∈m'↔Ka ps (v+1) 0 z)∧bE (bR ps ((v:Int),m) ag) 1000 ((0:Int),m)=ag ((v:Int)+1,m'))∧
   (¬rP (at' ps (v:Int)) v ps.length->bE (bR ps ((v:Int),m) ag) 1000 ((0:Int),m)=some false):=by
  intro v m ag hv hm
  have hdv:=hd v hv
  have key:=Df (step:=bR ps ((v:Int),m) ag) (K:=fun x=>ag ((v:Int)+1,x.2)) (bad:=false) (at' ps (v:Int)).length (FG (at' ps (v:Int)) v ps.length) (fun i x=>x.1=(i:Int)∧∀z,z∈x.2↔Ka ps v i z) ?_ ?_ ?_ 1000 ((0:Int),m) ⟨rfl,hm⟩ (by omega)
  ·refine⟨fun h=> ?_,fun h=>key.2 h⟩
   obtain⟨x,⟨hx1,hx2⟩,hx⟩:=key.1 h
   refine⟨x.2,fun z=>(hx2 z).trans ⟨?_,?_⟩,hx⟩
   ·rintro⟨a,b,h1,h2,h3⟩;exact⟨a,b,by omega,h2,h3⟩
   ·rintro⟨a,b,h1,h2,h3⟩
    refine⟨a,b,?_,h2,h3⟩
    by_cases ha:a=v
    ·subst ha;exact .inr ⟨rfl,h2⟩
    ·omega
  ·rintro i ⟨x1,x2⟩ ag2 hi ⟨hx,hs⟩ ⟨p1,p2,p3,p4⟩
   dsimp only at hx hs
   subst hx
   have hg:kI (((v:Int),(gR (at' ps (v:Int)) i).1)) x2=none:=by
    apply Ec
    intro w hw
    obtain⟨a,b,h1,h2,h3⟩:=(hs _).1 hw
    simp only[Prod.mk.injEq]at h3
    obtain⟨⟨h4,h5⟩,_⟩:=h3
    have:a=v:=by omega
    subst this
    have hb:b<i:=by omega
    exact p4 b hb h5.symm
   refine⟨((i:Int)+1,zR (((v:Int),(gR (at' ps (v:Int)) i).1)) (gR (at' ps (v:Int)) i).2 x2),⟨by simp,fun z=> ?_⟩,?_⟩
   ·dsimp only
    rw[KL hg,hs]
    constructor
    ·rintro(rfl|⟨a,b,h1,h2,h3⟩)
     ·exact⟨v,i,.inr ⟨rfl,by omega⟩,hi,rfl⟩
     ·exact⟨a,b,by omega,h2,h3⟩
    ·rintro⟨a,b,h1,h2,h3⟩
     by_cases hab:a=v∧b=i
     ·left;rw[h3,hab.1,hab.2]
     ·right;exact⟨a,b,by omega,h2,h3⟩
   ·replace p1:0<=(at' (at' ps (v:Int)) (i:Int)).1∧(at' (at' ps (v:Int)) (i:Int)).1<=(ps.length:Int) - 1:=p1
    replace p3:1<=(at' (at' ps (v:Int)) (i:Int)).2∧(at' (at' ps (v:Int)) (i:Int)).2<=15:=p3
    unfold bR eV fW
    dsimp only
    rw[if_pos (by omega),cL (by omega),if_neg (by omega),if_neg (by omega),if_neg (by rw[decide_eq_false p2];simp),if_neg (by omega),if_neg (by rw[decide_eq_false (by omega)];simp),hg,if_neg (by simp),wr (by omega) (by omega)]
  ·rintro i ⟨x1,x2⟩ ag2 hi ⟨hx,hs⟩ hp
   dsimp only at hx hs
   subst hx
   unfold bR eV fW
   dsimp only
   rw[if_pos (by omega),cL (by omega)]
   by_cases h1:(gR (at' ps (v:Int)) i).1<0
   ·rw[if_pos h1,if_pos rfl]
   rw[if_neg h1]
   by_cases h2:(ps.length:Int)<=(gR (at' ps (v:Int)) i).1
   ·rw[if_pos h2,if_pos rfl]
   rw[if_neg h2]
   by_cases h3:(gR (at' ps (v:Int)) i).1=v
   ·rw[if_pos (decide_eq_true h3)]
   rw[if_neg (by rw[decide_eq_false h3];simp)]
   by_cases h4:(gR (at' ps (v:Int)) i).2<1
   ·rw[if_pos h4,if_pos rfl]
   rw[if_neg h4]
   by_cases h5:15<(gR (at' ps (v:Int)) i).2
   ·rw[if_pos (decide_eq_true h5)]
   rw[if_neg (by rw[decide_eq_false h5];simp)]
   have:∃k,k<i∧(gR (at' ps (v:Int)) k).1=(gR (at' ps (v:Int)) i).1:=by
    apply Classical.byContradiction
    intro hc
    exact hp ⟨by omega,h3,by omega,fun k hk he=>hc ⟨k,hk,he⟩⟩
   obtain⟨k,hk,he⟩:=this
   have hin:=(hs _).2 ⟨v,k,.inr ⟨rfl,hk⟩,by omega,rfl⟩
   rw[if_pos]
   rw[<-he]
   cases hg:kI (((v:Int),(gR (at' ps (v:Int)) k).1)) x2 with
   |some w=>rfl
   | none => exact absurd hin (by
     intro hin
     exact rF hg hin)
  ·rintro⟨x1,x2⟩ ag2 ⟨hx,hs⟩
   dsimp only at hx hs
   subst hx
   unfold bR kR
   dsimp only
   rw[if_neg (by omega),wr (by omega) (by omega)]
 have outer:=Df (step:=cA 1000 ps) (K:=fun x=>fV x.2) (bad:=false) ps.length (fun v=>rP (at' ps (v:Int)) v ps.length) (fun v x=>x.1=(v:Int)∧∀z,z∈x.2↔Ka ps v 0 z) ?_ ?_ ?_ 1000 ((0:Int),[]) ⟨rfl,fun z=>⟨fun h=>(by cases h),fun⟨a,b,h1,_⟩=>(by omega)⟩⟩ (by omega)
 rotate_left
 ·rintro v ⟨x1,x2⟩ ag hv ⟨hx,hs⟩ hp
  dsimp only at hx hs
  subst hx
  obtain⟨m',h1,h2⟩:=(inner v x2 ag hv hs).1 hp
  refine⟨((v:Int)+1,m'),⟨by simp,h1⟩,?_⟩
  ·unfold cA
   dsimp only
   rw[if_pos (by omega),cL (by omega)]
   exact h2
 ·rintro v ⟨x1,x2⟩ ag hv ⟨hx,hs⟩ hp
  dsimp only at hx hs
  subst hx
  unfold cA
  dsimp only
  rw[if_pos (by omega),cL (by omega)]
  exact(inner v x2 ag hv hs).2 hp
 ·rintro⟨x1,x2⟩ ag ⟨hx,hs⟩
  dsimp only at hx hs
  subst hx
  unfold cA
  dsimp only
  rw[if_neg (by omega)]
 by_cases hL:∀v,v<ps.length->rP (at' ps (v:Int)) v ps.length
 rotate_left
 ·exact⟨fun h=>absurd h.1 hL,fun _=>outer.2 hL⟩
 obtain⟨⟨x1,x2⟩,⟨hx,hs⟩,he⟩:=outer.1 hL
 rw[he]
 dsimp only at hs ⊢
 have hk:fV x2=some (decide (∀z∈x2,¬(Option.getD (kI (z.1.2,z.1.1) x2) (0:Int))≠z.2)):=Gz (fun z:(Int×Int)×Int=>(Option.getD (kI (z.1.2,z.1.1) x2) (0:Int))≠z.2) x2
 rw[hk]
 have hiff:(∀z∈x2,¬(Option.getD (kI (z.1.2,z.1.1) x2) (0:Int))≠z.2)↔∀v,v<ps.length->∀i,i<(at' ps (v:Int)).length->HC ([],ps) v i:=by
  constructor
  ·intro h v hv i hi
   have hw:=(hL v hv i hi).2.2.1
   have hin:=(hs (((v:Int),(gR (at' ps (v:Int)) i).1),(gR (at' ps (v:Int)) i).2)).2 ⟨v,i,.inl hv,hi,rfl⟩
   have h2:=Decidable.not_not.1 (h _ hin)
   dsimp only at h2
   cases hg:kI ((gR (at' ps (v:Int)) i).1,(v:Int)) x2 with
   |none=>rw[hg]at h2;simp only[Option.getD]at h2;omega
   | some w =>
    rw[hg]at h2;simp only[Option.getD]at h2
    obtain⟨a,b,h3,h4,h5⟩:=(hs _).1 (yU hg)
    simp only[Prod.mk.injEq]at h5
    obtain⟨⟨h6,h7⟩,h8⟩:=h5
    refine⟨b,?_,?_,?_⟩
    ·show b<(at' ps (gR (at' ps (v:Int)) i).1).length
     rw[h6];exact h4
    ·show(gR (at' ps (gR (at' ps (v:Int)) i).1) b).1=v
     rw[h6];exact h7.symm
    ·show(gR (at' ps (gR (at' ps (v:Int)) i).1) b).2=(gR (at' ps (v:Int)) i).2
     rw[h6,<-h8];exact h2
  ·intro h z hz hne
   obtain⟨a,b,h3,h4,rfl⟩:=(hs z).1 hz
   have ha:a<ps.length:=by omega
   apply hne
   obtain⟨j,hj1,hj2,hj3⟩:=h a ha b h4
   have hu:=(hL a ha b h4).1
   obtain⟨u,hu'⟩:∃u:Nat,(gR (at' ps (a:Int)) b).1=u:=⟨(gR (at' ps (a:Int)) b).1.toNat,by omega⟩
   replace hj1:j<(at' ps (gR (at' ps (a:Int)) b).1).length:=hj1
   replace hj2:(gR (at' ps (gR (at' ps (a:Int)) b).1) j).1=a:=hj2
   replace hj3:(gR (at' ps (gR (at' ps (a:Int)) b).1) j).2=(gR (at' ps (a:Int)) b).2:=hj3
   rw[hu']at hj1 hj2 hj3
   have hun:u<ps.length:=by omega
   dsimp only
   rw[hu',<-hj3]
   have hin:=(hs (((u:Int),(gR (at' ps (u:Int)) j).1),(gR (at' ps (u:Int)) j).2)).2 ⟨u,j,.inl hun,hj1,rfl⟩
   rw[hj2]at hin
   cases hg:kI ((u:Int),(a:Int)) x2 with
   |none=>exact absurd hin (rF hg)
   | some w =>
    obtain⟨a',b',h3',h4',h5⟩:=(hs _).1 (yU hg)
    simp only[Prod.mk.injEq]at h5
    obtain⟨⟨h6,h7⟩,h8⟩:=h5
    have:a'=u:=by omega
    subst this
    have hbj:b'=j:=by
     rcases Nat.lt_trichotomy b' j with hl|hl|hl
     ·exact absurd (h7.symm.trans hj2.symm) ((hL a' hun j hj1).2.2.2 b' hl)
     ·exact hl
     ·exact absurd (hj2.trans h7) ((hL a' hun b' h4').2.2.2 j hl)
    subst hbj
    exact h8
 by_cases hS:∀v,v<ps.length->∀i,i<(at' ps (v:Int)).length->HC ([],ps) v i
 ·rw[decide_eq_true (hiff.2 hS)]
  exact⟨fun _=>rfl,fun h=>absurd ⟨hL,hS⟩ h⟩
 ·rw[decide_eq_false (fun h=>hS (hiff.1 h))]
  exact⟨fun h=>absurd h.2 hS,fun _=>rfl⟩
theorem Jp:∀(N:Nat) (f:Nat->Nat) (k:Nat),(∀i,i<k->f i<N)->(∀i j,i<j->j<k->f i≠f j)->k<=N
 |0,f,k,h,_=>by
  cases k with
  |zero=>omega
  |succ k=>exact absurd (h 0 (by omega)) (by omega)
 | N + 1, f, k, h, hd => by
  by_cases hex:∃a,a<k∧f a=N
  ·obtain⟨a,ha,hfa⟩:=hex
   have:=Jp N (fun i=>if i<a then f i else f (i+1)) (k - 1) (fun i hi=>by
    split
    ·have:=h i (by omega);have:=hd i a (by omega) ha;omega
    ·have:=h (i+1) (by omega);have:=hd a (i+1) (by omega) (by omega);omega) (fun i j hij hj=>by
    split<;>split
    ·exact hd i j hij (by omega)
    ·exact hd i (j+1) (by omega) (by omega)
    ·omega
    ·exact hd (i+1) (j+1) (by omega) (by omega))
   omega
  ·have:=Jp N f k (fun i hi=>by
    have:=h i hi
    have:f i≠N:=fun e=>hex ⟨i,hi,e⟩
    omega) hd
   omega
theorem Ms {l:eD} {v n:Nat} (hv:v<n) (h:rP l v n):l.length<n:=by
 have:=Jp n (fun i=>if i=l.length then v else(gR l i).1.toNat) (l.length+1) (fun i hi=>by
  split
  ·exact hv
  ·have:=(h i (by omega)).1;omega) (fun i j hij hj=>by
  rw[if_neg (by omega)]
  have h1:=(h i (by omega)).1
  split
  ·have:=(h i (by omega)).2.1;omega
  ·have h2:=(h j (by omega)).1
   have:=(h j (by omega)).2.2.2 i hij
   omega)
 omega
theorem Tv (g:GR) (hl:light g):(VG g->fC 1000 g=some true)∧(¬VG g->fC 1000 g=some false):=by
 obtain⟨l1,l2,l3⟩:=hl
 unfold fC nH nJ
 by_cases h1:g.1.length<1
 ·rw[if_pos (by omega)]
  exact⟨fun h=>by have:=h.n1;have:=h.len;omega,fun _=>rfl⟩
 rw[if_neg (by omega)]
 by_cases h2:24<g.1.length
 ·rw[if_pos (by omega)]
  exact⟨fun h=>by have:=h.n24;have:=h.len;omega,fun _=>rfl⟩
 rw[if_neg (by omega)]
 by_cases h3:g.1.length=g.2.length
 rotate_left
 ·rw[decide_eq_true (by omega)]
  exact⟨fun h=>absurd h.len h3,fun _=>rfl⟩
 rw[decide_eq_false (by omega),if_neg (by simp)]
 by_cases h4:∀k,k<g.1.length->Qn g.1 k
 rotate_left
 ·rw[(rQ g.1 l1).2 h4,bB rfl]
  exact⟨fun h=>absurd (fun k hk=>⟨(h.node k (by omega)).id,(h.node k (by omega)).ids⟩) h4,fun _=>rfl⟩
 rw[(rQ g.1 l1).1 h4,bB rfl,if_pos rfl]
 by_cases h5:HD g.2
 ·rw[(Dr g.2 l2 l3).1 h5]
  exact⟨fun _=>rfl,fun h=>absurd ⟨by omega,by omega,h3,fun v hv=>⟨(h4 v (by omega)).1,Ms hv (h5.1 v hv),h5.1 v hv,(h4 v (by omega)).2⟩,h5.2⟩ h⟩
 ·rw[(Dr g.2 l2 l3).2 h5]
  exact⟨fun h=>absurd ⟨fun v hv=>(h.node v hv).links,h.sym⟩ h5,fun _=>rfl⟩
theorem VG.light {g:GR} (h:VG g):light g:=⟨by have:=h.n24;have:=h.len;omega,by have:=h.n24;omega,fun v hv=>by have:=(h.node v hv).deg;have:=h.n24;omega⟩
end
section
abbrev D (d:aL) (v:Nat):Int:=at' d (v:Int)
def Hi (g:GR) (v u:Nat):Prop:=∃i,i<(row g v).length∧(gR (row g v) i).1=(u:Int)
theorem VG.port {g:GR} (h:VG g) {v i:Nat} (hv:v<g.2.length) (hi:i<(row g v).length):∃u:Nat,u<g.2.length∧(gR (row g v) i).1=(u:Int)∧Hi g v u:=by
 have hu:=((h.node v hv).links i hi).1
 exact⟨(gR (row g v) i).1.toNat,by omega,by omega,i,hi,by omega⟩
theorem VG.back {g:GR} (h:VG g) {v u:Nat} (hv:v<g.2.length) (ha:Hi g v u):Hi g u v:=by
 obtain⟨i,hi,hu⟩:=ha
 obtain⟨j,hj,hjv,_⟩:=h.sym v hv i hi
 rw[hu]at hj hjv
 exact⟨j,hj,hjv⟩
theorem VG.adj_lt {g:GR} (h:VG g) {v u:Nat} (hv:v<g.2.length) (ha:Hi g v u):u<g.2.length:=by
 obtain⟨i,hi,hu⟩:=ha
 have:=((h.node v hv).links i hi).1
 omega
def CV (d:aL):Nat:=d.countP fun x=>decide (x<0)
structure LQ (g:GR) (s:Nat) (d:aL):Prop where
 len:d.length=g.2.length
 lo:∀v,v<g.2.length -> -1<=D d v
 zero:∀v,v<g.2.length->(D d v=0↔v=s)
 near:∀v,v<g.2.length->0<D d v->∃u,u<g.2.length∧Hi g v u∧D d u=D d v - 1
 hi:∀v,v<g.2.length->D d v+(CV d:Int)<=(g.2.length:Int)
structure Qu (g:GR) (q d:aL) (b:Int) (done:Nat->Prop):Prop where
 mem:∀y∈q,∃v,v<g.2.length∧y=((v:Nat):Int)∧0<=D d v
 top:∀v,v<g.2.length->D d v<=b
 sort:q.Pairwise fun a c=>at' d a<=at' d c
 done:∀v,v<g.2.length->0<=D d v->((v:Nat):Int)∉q->done v->∀u,u<g.2.length->Hi g v u->0<=D d u∧D d u<=D d v+1
theorem DI {d:aL} {v:Nat} (h:v<d.length):D d v=d[v]:=by
 rw[D,i_,List.getD_eq_getElem?_getD,List.getElem?_eq_getElem h];rfl
theorem Gc {d:aL} {u:Nat} {x:Int} (hu:u<d.length) (hn:D d u<0) (hx:0<=x):CV (d.set u x)+1=CV d:=by
 unfold CV
 rw[List.countP_set hu]
 have hp:0<d.countP fun x=>decide (x<0):=by
  rw[List.countP_pos_iff]
  exact⟨d[u],List.getElem_mem hu,by rw[<-DI hu];simpa using hn⟩
 rw[DI hu]at hn
 rw[if_pos (by simpa using hn),if_neg (by simp;omega)]
 omega
theorem assign {g:GR} {s:Nat} {q d:aL} {b:Int} {done:Nat->Prop} (hV:VG g) (hC:LQ g s d) {x u:Nat} (hQ:Qu g q d (D d x+1) done) (hx:x<g.2.length) (hx0:0<=D d x) (hu:u<g.2.length) (hun:D d u<0) (ha:Hi g x u):
  LQ g s (d.set u (D d x+1))∧Qu g (q++[(u:Int)]) (d.set u (D d x+1)) (D d x+1) done:=by
 have hlen:=hC.len
 have hat:∀v,D (d.set u (D d x+1)) v=if v=u then D d x+1 else D d v:=fun v=>wK _ _ _ _ (by omega)
 have hcn:=Gc (x:=D d x+1) (by omega:u<d.length) hun (by omega)
 refine⟨⟨by simp[hlen],fun v hv=> ?_,fun v hv=> ?_,fun v hv=> ?_,fun v hv=> ?_⟩,⟨fun y hy=> ?_,fun v hv=> ?_,?_,fun v hv h0 hq hd w hw hadj=> ?_⟩⟩
 ·rw[hat];split
  ·omega
  ·exact hC.lo v hv
 ·rw[hat];split
  ·rename_i h;subst h
   have:=(hC.zero v hv)
   constructor
   ·intro;omega
   ·intro h;have:=this.2 h;omega
  ·exact hC.zero v hv
 ·rw[hat];split
  ·rename_i h;subst h
   intro _
   refine⟨x,hx,hV.back hx ha,?_⟩
   rw[hat,if_neg (by intro h;subst h;omega)];omega
  ·intro h0
   obtain⟨w,hw,hadj,he⟩:=hC.near v hv h0
   refine⟨w,hw,hadj,?_⟩
   rw[hat,if_neg (by intro h;subst h;omega)];exact he
 ·rw[hat];split
  ·have:=hC.hi x hx;omega
  ·have:=hC.hi v hv;omega
 ·rcases List.mem_append.1 hy with hy|hy
  ·obtain⟨v,hv,rfl,h0⟩:=hQ.mem y hy
   refine⟨v,hv,rfl,?_⟩
   rw[hat];split<;>omega
  ·simp only[List.mem_singleton]at hy
   refine⟨u,hu,hy,?_⟩
   rw[hat,if_pos rfl];omega
 ·rw[hat];split
  ·omega
  ·exact hQ.top v hv
 ·rw[List.pairwise_append]
  have hq:∀y∈q,at' (d.set u (D d x+1)) y=at' d y:=by
   intro y hy
   obtain⟨v,hv,rfl,h0⟩:=hQ.mem y hy
   have:=hat v
   rw[if_neg (by intro h;subst h;omega)]at this
   exact this
  refine⟨hQ.sort.imp_of_mem fun {a c} h1 h2 h=> ?_,List.pairwise_singleton ..,fun y hy z hz=> ?_⟩
  ·rw[hq a h1,hq c h2];exact h
  ·simp only[List.mem_singleton]at hz
   subst hz
   rw[hq y hy]
   have h2:=hat u
   rw[if_pos rfl]at h2
   obtain⟨v,hv,rfl,h0⟩:=hQ.mem y hy
   have:=hQ.top v hv
   show D d v<=D (d.set u (D d x+1)) u
   omega
 ·have hvu:v≠u:=by
   rintro rfl
   exact hq (by simp)
  rw[hat,if_neg hvu]at h0
  rw[hat v,if_neg hvu]
  have:=hQ.done v hv h0 (fun h=>hq (List.mem_append_left _ h)) hd w hw hadj
  rw[hat w,if_neg (by rintro rfl;omega)]
  exact this
theorem Jt {g:GR} (hV:VG g) {s x:Nat} (hx:x<g.2.length) (rest d0:aL) (ag:List Int×aL->Option aL) (r:aL->Prop)
  (hC:LQ g s d0) (hx0:0<=D d0 x) (hQ:Qu g rest d0 (D d0 x+1) (fun v=>v≠x)) (hm:rest.length+CV d0<=g.2.length)
  (hag:∀q d,LQ g s d->D d x=D d0 x->Qu g q d (D d x+1) (fun _=>True)->q.length+CV d=rest.length+CV d0->(∀y∈q,D d0 x<=at' d y)->OK r (ag (q,d)))
  (hge:∀y∈rest,D d0 x<=at' d0 y):
  OK r (bE (oH g ((x:Int)::rest,d0) ag) 1000 ((0:Int),rest,d0)):=by
 have hdeg:=(hV.node x hx).deg
 have h24:=hV.n24
 refine wD (fun z:Int×List Int×aL=>∃k:Nat,z.1=k∧k<=(row g x).length∧LQ g s z.2.2∧D z.2.2 x=D d0 x∧Qu g z.2.1 z.2.2 (D d0 x+1) (fun v=>v≠x)∧z.2.1.length+CV z.2.2=rest.length+CV d0∧(∀i,i<k->∀u:Nat,(gR (row g x) i).1=u->0<=D z.2.2 u)∧(∀y∈z.2.1,D d0 x<=at' z.2.2 y)) (fun z=>31 - z.1.toNat) ?_ 1000 _ ⟨0,rfl,by omega,hC,rfl,hQ,rfl,fun i hi=>by omega,hge⟩ (by simp)
 rintro⟨z1,q,d⟩ ag2 ⟨k,hz,hk,hC,hdx,hQ,hm2,hp,hge⟩ hag2
 dsimp only at hz hC hdx hQ hm2 hp hge
 subst hz
 have hlen:=hC.len
 have e0:at' ((x:Int)::rest) 0=(x:Int):=rfl
 unfold oH oG
 dsimp only
 rw[e0]
 by_cases hlt:k<(row g x).length
 ·rw[if_pos (show(k:Int)<((row g x).length:Int) by omega),cL (show 0<=(k:Int)∧(k:Int)<((row g x).length:Int) by omega)]
  obtain⟨u,hu,hue,hadj⟩:=hV.port hx hlt
  rw[show at' (at' g.2 (x:Int)) (k:Int)=gR (row g x) k from rfl,hue,cL (by omega)]
  have hhi:=hC.hi x hx
  by_cases hneg:at' d (u:Int)<0
  ·have hQ':Qu g q d (D d x+1) (fun v=>v≠x):=by rw[hdx];exact hQ
   obtain⟨c1,c2⟩:=assign (b:=0) hV hC hQ' hx (by omega) hu hneg hadj
   have hcn:=Gc (x:=D d x+1) (by omega:u<d.length) hneg (by omega)
   have hat:∀v,D (d.set u (D d x+1)) v=if v=u then D d x+1 else D d v:=fun v=>wK _ _ _ _ (by omega)
   have hxu:x≠u:=by rintro rfl;have:D d x<0:=hneg;omega
   rw[if_pos hneg,cL (by omega),cL (by omega),cL (by simp only[List.length_singleton];omega),wr (x:=(k:Int)+1) (by omega) (by omega),wr (x:=at' d (x:Int)+1) (by show -9223372036854775808<=D d x+1;omega) (by show D d x+1<=_;omega)]
   refine hag2 _ ⟨k+1,by simp,by omega,c1,?_,?_,?_,?_,?_⟩ (by dsimp only;omega)
   ·show D (d.set u (D d x+1)) x=_
    rw[hat,if_neg hxu];exact hdx
   ·rw[<-hdx];exact c2
   ·show(q++[(u:Int)]).length+CV (d.set u (D d x+1))=_
    simp only[List.length_append,List.length_singleton]
    omega
   ·intro i hi w hw
    show 0<=D (d.set u (D d x+1)) w
    rw[hat]
    split
    ·omega
    ·by_cases hik:i=k
     ·subst hik;omega
     ·exact hp i (by omega) w hw
   ·intro y hy
    show D d0 x<=at' (d.set u (D d x+1)) y
    rcases List.mem_append.1 hy with hy|hy
    ·have h1:=hge y hy
     obtain⟨v,hv,rfl,h0⟩:=hQ.mem y hy
     have h2:=hat v
     rw[if_neg (by intro h;subst h;have:D d v<0:=hneg;omega)]at h2
     rw[show at' (d.set u (D d x+1)) (v:Int)=D d v from h2]
     exact h1
    ·simp only[List.mem_singleton]at hy
     subst hy
     rw[show at' (d.set u (D d x+1)) (u:Int)=D d x+1 from(hat u).trans (if_pos rfl)]
     omega
  ·rw[if_neg hneg,wr (by omega) (by omega)]
   refine hag2 _ ⟨k+1,by simp,by omega,hC,hdx,hQ,hm2,?_,hge⟩ (by dsimp only;omega)
   intro i hi w hw
   by_cases hik:i=k
   ·subst hik
    have:w=u:=by omega
    subst this
    show 0<=at' d (w:Int)
    omega
   ·exact hp i (by omega) w hw
 ·rw[if_neg (show¬(k:Int)<((row g x).length:Int) by omega)]
  have hke:k=(row g x).length:=by omega
  refine hag q d hC hdx ⟨hQ.mem,fun v hv=>by rw[hdx];exact hQ.top v hv,hQ.sort,fun v hv h0 hq _ u hu hadj=> ?_⟩ hm2 hge
  by_cases hvx:v=x
  ·subst hvx
   obtain⟨i,hi,hie⟩:=hadj
   exact⟨hp i (by omega) u hie,by rw[hdx];exact hQ.top u hu⟩
  ·exact hQ.done v hv h0 hq hvx u hu hadj
structure Cz (g:GR) (s:Nat) (d:aL):Prop where
 len:d.length=g.2.length
 lo:∀v,v<g.2.length -> -1<=D d v
 zero:∀v,v<g.2.length->(D d v=0↔v=s)
 near:∀v,v<g.2.length->0<D d v->∃u,u<g.2.length∧Hi g v u∧D d u=D d v - 1
 next:∀v,v<g.2.length->0<=D d v->∀u,u<g.2.length->Hi g v u->0<=D d u∧D d u<=D d v+1
 hi:∀v,v<g.2.length->D d v<=(g.2.length:Int)
theorem Lj {g:GR} (hV:VG g) {s:Nat} (d0:aL) (q0:aL) (hC:LQ g s d0) (hQ:Qu g q0 d0 (match q0 with|[]=>1000|y::_=>at' d0 y+1) (fun _=>True)) (hm:q0.length+CV d0<=g.2.length):
  OK (Cz g s) (bE (lM 1000 g) 1000 (q0,d0)):=by
 have h24:=hV.n24
 refine wD (fun z:List Int×aL=>LQ g s z.2∧Qu g z.1 z.2 (match z.1 with|[]=>1000|y::_=>at' z.2 y+1) (fun _=>True)∧z.1.length+CV z.2<=g.2.length) (fun z=>z.1.length+CV z.2) ?_ 1000 _ ⟨hC,hQ,hm⟩ (by dsimp only;omega)
 rintro⟨q,d⟩ ag ⟨hC,hQ,hm⟩ hag
 dsimp only at hC hQ hm
 unfold lM rV
 dsimp only
 cases q with
 |nil=>
  rw[if_neg (by simp)]
  exact⟨d,rfl,hC.len,hC.lo,hC.zero,hC.near,fun v hv h0 u hu hadj=>hQ.done v hv h0 (by simp) trivial u hu hadj,fun v hv=>by have:=hC.hi v hv;omega⟩
 | cons y rest =>
  obtain⟨x,hx,rfl,hx0⟩:=hQ.mem y (List.mem_cons_self ..)
  have e0:at' ((x:Int)::rest) 0=(x:Int):=rfl
  rw[if_pos (by simp only[List.length_cons];omega),cL (by simp only[List.length_cons];omega),cL (by simp only[List.length_cons];omega),e0,cL (by omega)]
  have hs:=List.pairwise_cons.1 hQ.sort
  simp only[List.length_cons]at hm
  refine Jt hV hx rest d ag _ hC hx0 ⟨fun z hz=>hQ.mem z (List.mem_cons_of_mem _ hz),hQ.top,hs.2,fun v hv h0 hq hvx u hu hadj=>hQ.done v hv h0 (fun h=> ?_) trivial u hu hadj⟩ (by omega) (fun q' d' c1 c2 c3 c4 c5=> ?_) hs.1
  ·rcases List.mem_cons.1 h with h|h
   ·exact hvx (by omega)
   ·exact hq h
  ·refine hag (q',d') ⟨c1,⟨c3.mem,fun v hv=> ?_,c3.sort,c3.done⟩,by dsimp only;omega⟩ (by simp only[List.length_cons];omega)
   dsimp only
   have ht:=c3.top v hv
   cases q' with
   |nil=>
    dsimp only
    have:=c1.hi x hx
    omega
   |cons z zs=>
    dsimp only
    have:=c5 z (List.mem_cons_self ..)
    omega
theorem PP {g:GR} (hV:VG g) {s:Nat} (hs:s<g.2.length):OK (Cz g s) (pU 1000 g (s:Int)):=by
 have h24:=hV.n24
 unfold pU
 rw[cL (by omega)]
 refine wD (fun z:mI=>∃k:Nat,z.1=k∧k<=g.2.length∧z.2.length=g.2.length∧∀v,v<k->D z.2 v = -1) (fun z=>31 - z.1.toNat) ?_ 1000 _ ⟨0,rfl,by omega,by simp,fun v hv=>by omega⟩ (by simp)
 rintro⟨z1,d⟩ ag ⟨k,hz,hk,hlen,hd⟩ hag
 dsimp only at hz hlen hd
 subst hz
 unfold vL
 simp only[List.length_replicate,Int.toNat_natCast]
 by_cases hlt:k<g.2.length
 ·rw[if_pos (by omega),cL (by omega),wr (by omega) (by omega)]
  refine hag _ ⟨k+1,by simp,by omega,by simp[hlen],fun v hv=> ?_⟩ (by dsimp only;omega)
  show at' (d.set k (-1)) (v:Int) = -1
  rw[wK _ _ _ _ (by omega)]
  split
  ·rfl
  ·exact hd v (by omega)
 ·rw[if_neg (by omega)]
  unfold vK
  rw[cL (by omega)]
  have hd':∀v,v<g.2.length->D d v = -1:=fun v hv=>hd v (by omega)
  have hat:∀v,D (d.set s 0) v=if v=s then 0 else D d v:=fun v=>wK _ _ _ _ (by omega)
  have hcn:=Gc (x:=0) (by omega:s<d.length) (by rw[hd' s hs];omega) (by omega)
  have hcl:CV d<=d.length:=List.countP_le_length ..
  refine Lj hV _ _ ⟨by simp[hlen],fun v hv=> ?_,fun v hv=> ?_,fun v hv=> ?_,fun v hv=> ?_⟩ ⟨fun y hy=> ?_,fun v hv=> ?_,List.pairwise_singleton ..,fun v hv h0 hq=> ?_⟩ ?_
  ·rw[Int.toNat_natCast,hat];split
   ·omega
   ·rw[hd' v hv];omega
  ·rw[Int.toNat_natCast,hat];split
   ·rename_i h;exact⟨fun _=>h,fun _=>rfl⟩
   ·rename_i h;rw[hd' v hv];exact⟨fun h2=>by omega,fun h2=>absurd h2 h⟩
  ·rw[Int.toNat_natCast,hat];split
   ·omega
   ·rw[hd' v hv];omega
  ·rw[Int.toNat_natCast,hat];split
   ·omega
   ·rw[hd' v hv];omega
  ·simp only[List.mem_singleton]at hy
   refine⟨s,hs,hy,?_⟩
   rw[Int.toNat_natCast,hat,if_pos rfl];omega
  ·rw[Int.toNat_natCast]
   have h2:at' (d.set s 0) (s:Int)=0:=(hat s).trans (if_pos rfl)
   show D (d.set s 0) v<=at' (d.set s 0) (s:Int)+1
   rw[h2,hat];split
   ·omega
   ·rw[hd' v hv];omega
  ·rw[Int.toNat_natCast,hat,if_neg (by rintro rfl;exact hq (by simp)),hd' v hv]at h0
   omega
  ·rw[Int.toNat_natCast]
   simp only[List.length_singleton]
   omega
end
section
section
def vH (g:GR) (s:Nat):Nat->Nat->Prop
 |0,v=>v=s∧s<g.2.length
 |k+1,v=>∃u,vH g s k u∧Hi g u v
theorem vH.lt {g:GR} (hV:VG g) {s:Nat}:∀{k v:Nat},vH g s k v->v<g.2.length
 |0,_,h=>by obtain⟨rfl,h⟩:=h;exact h
 |_+1,_,h=>by obtain⟨u,h1,h2⟩:=h;exact hV.adj_lt (vH.lt hV h1) h2
theorem vH.trans {g:GR} {s t:Nat} {k:Nat} (h:vH g s k t):∀{m v:Nat},vH g t m v->vH g s (k+m) v
 |0,_,h2=>by obtain⟨rfl,_⟩:=h2;exact h
 |_+1,_,h2=>by obtain⟨u,h3,h4⟩:=h2;exact⟨u,vH.trans h h3,h4⟩
theorem FK {g:GR} (hV:VG g) {s:Nat}:∀{k v:Nat},vH g s k v->vH g v k s
 |0,_,h=>by obtain⟨rfl,h⟩:=h;exact⟨rfl,h⟩
 |k+1,v,h=>by
  obtain⟨u,h1,h2⟩:=h
  have hu:=vH.lt hV h1
  have h3:vH g v 1 u:=⟨v,⟨rfl,hV.adj_lt hu h2⟩,hV.back hu h2⟩
  have:=vH.trans h3 (FK hV h1)
  rwa[Nat.add_comm]at this
theorem Cz.le {g:GR} (hV:VG g) {s:Nat} {d:aL} (h:Cz g s d):∀{k v:Nat},vH g s k v->0<=D d v∧D d v<=k
 |0,v,hw=>by
  obtain⟨rfl,hs⟩:=hw
  have:=(h.zero v hs).2 rfl
  omega
 |k+1,v,hw=>by
  obtain⟨u,h1,h2⟩:=hw
  have hu:=vH.lt hV h1
  have h3:=Cz.le hV h h1
  have h4:=h.next u hu h3.1 v (hV.adj_lt hu h2) h2
  omega
theorem Hv {g:GR} (hV:VG g) {s:Nat} {d:aL} (h:Cz g s d):∀(k v:Nat),v<g.2.length->D d v=k->vH g s k v
 |0,v,hv,he=>by
  have:=(h.zero v hv).1 he
  exact⟨this,by omega⟩
 |k+1,v,hv,he=>by
  obtain⟨u,hu,hadj,hd⟩:=h.near v hv (by omega)
  exact⟨u,Hv hV h k u hu (by omega),hV.back hv hadj⟩
theorem Cz.pos {g:GR} (hV:VG g) {s:Nat} {d:aL} (h:Cz g s d) {v:Nat} (hv:v<g.2.length) (h0:0<=D d v):vH g s (D d v).toNat v:=
 Hv hV h _ v hv (by omega)
end
end
section
def Qj (g:GR):Prop:=∀u v,u<g.2.length->v<g.2.length->∃k,vH g u k v
theorem CW {g:GR} (hV:VG g):(Qj g->jT 1000 g=some true)∧(¬Qj g->jT 1000 g=some false):=by
 have h1:=hV.n1
 have h24:=hV.n24
 unfold jT
 obtain⟨d,hd,hD⟩:=PP hV (s:=0) (by omega)
 have hlen:=hD.len
 rw[(Tv g hV.light).1 hV,bB rfl,if_neg (by simp),show pU 1000 (g.1,g.2) 0=some d from hd,bB rfl]
 have key:=De (step:=iV d) (K:=some true) (bad:=false) d.length (fun v=>0<=D d v) (fun k ag hk hp=> ?_) (fun k ag hk hp=> ?_) (fun ag=> ?_) 1000 (by omega)
 ·have hiff:(∀v,v<d.length->0<=D d v)↔Qj g:=by
   constructor
   ·intro h u v hu hv
    exact⟨_,vH.trans (FK hV (Cz.pos hV hD hu (h u (by omega)))) (Cz.pos hV hD hv (h v (by omega)))⟩
   ·intro h v hv
    obtain⟨k,hk⟩:=h 0 v (by omega) (by omega)
    exact(Cz.le hV hD hk).1
  exact⟨fun h=>key.1 (hiff.2 h),fun h=>key.2 fun h2=>h (hiff.1 h2)⟩
 ·unfold iV
  rw[if_pos (by omega),cL (by omega),if_neg (show¬D d k<0 by omega),wr (by omega) (by omega)]
 ·unfold iV
  rw[if_pos (by omega),cL (by omega),if_pos (show D d k<0 by omega)]
 ·unfold iV nZ
  rw[if_neg (by omega)]
end
section
theorem Ib (g:GR) (v:Nat) (u:Int) (hv:v<g.2.length) (hl:(row g v).length<=30):kX 1000 g v u=some (yC (row g v) u):=by
 unfold kX
 rw[cL (by omega)]
 rcases Jq (row g v) u with⟨i,hi,hu,hf,he⟩|⟨hf,he⟩
 ·rw[he]
  refine Jc (fun x:Int=>∃k:Nat,x=k∧k<=i) (fun x=>31 - x.toNat) ?_ 1000 _ ⟨0,rfl,by omega⟩ (by omega)
  rintro x ag ⟨k,rfl,hk⟩ hag
  unfold rU
  rw[if_pos (show(k:Int)<((row g v).length:Int) by omega),cL (show 0<=(k:Int)∧(k:Int)<((row g v).length:Int) by omega)]
  by_cases e:k=i
  ·subst e;exact if_pos hu
  ·rw[if_neg (hf k (by omega)),wr (by omega) (by omega)]
   exact hag _ ⟨k+1,by omega,by omega⟩ (by omega)
 ·rw[he]
  refine Jc (fun x:Int=>∃k:Nat,x=k∧k<=(row g v).length) (fun x=>31 - x.toNat) ?_ 1000 _ ⟨0,rfl,by omega⟩ (by omega)
  rintro x ag ⟨k,rfl,hk⟩ hag
  unfold rU
  by_cases e:k<(row g v).length
  ·rw[if_pos (show(k:Int)<((row g v).length:Int) by omega),cL (show 0<=(k:Int)∧(k:Int)<((row g v).length:Int) by omega),if_neg (hf k e),wr (by omega) (by omega)]
   exact hag _ ⟨k+1,by omega,by omega⟩ (by omega)
  ·rw[if_neg (show¬(k:Int)<((row g v).length:Int) by omega)];rfl
end
section
def abO (f:Nat->Nat):Nat->Nat
 |0=>0
 |k+1=>abO f k+f k
open Classical in
noncomputable def ind (p:Prop):Nat:=if p then 1 else 0
end
section
theorem Hg (a:Nat) (h:a<4294967296):IntKind.u32.wrap (a:Int)=a:=by rw[<-Bc];exact if_pos ⟨by omega,by omega⟩
def Hk (x:Int):Nat:=(BitVec.ofInt 32 x).toNat
theorem FI (x:Int):Hk x<4294967296:=(BitVec.ofInt 32 x).isLt
theorem o_ {a:Nat} (h:a<4294967296):Hk (a:Int)=a:=by
 unfold Hk;rw[BitVec.ofInt_natCast,BitVec.toNat_ofNat];exact Nat.mod_eq_of_lt h
theorem Fb (x y:Int):cS .u32 x y=((Hk x &&& Hk y:Nat):Int):=by
 show IntKind.u32.wrap (((BitVec.ofInt 32 x &&& BitVec.ofInt 32 y).toNat:Nat):Int)=_
 rw[BitVec.toNat_and]
 exact Hg _ (Nat.lt_of_le_of_lt Nat.and_le_left (FI x))
theorem WJ (x y:Int):IM .u32 x y=((Hk x ||| Hk y:Nat):Int):=by
 show IntKind.u32.wrap (((BitVec.ofInt 32 x ||| BitVec.ofInt 32 y).toNat:Nat):Int)=_
 rw[BitVec.toNat_or]
 exact Hg _ (Nat.or_lt_two_pow (n:=32) (FI x) (FI y))
theorem QS (x y:Int):qB .u32 x y=0↔∀i,(Hk x).testBit i=true->(Hk y).testBit i=true:=by
 have e:qB .u32 x y=(((BitVec.ofInt 32 x &&& ~~~ BitVec.ofInt 32 y).toNat:Nat):Int):=Hg _ (BitVec.ofInt 32 x &&& ~~~ BitVec.ofInt 32 y).isLt
 have hb:∀i,(BitVec.ofInt 32 x &&& ~~~ BitVec.ofInt 32 y).toNat.testBit i=((Hk x).testBit i&&(decide (i<32) && !(Hk y).testBit i)):=by
  intro i
  have:=BitVec.getLsbD_and (x:=BitVec.ofInt 32 x) (y:= ~~~ BitVec.ofInt 32 y) (i:=i)
  rw[BitVec.getLsbD_not]at this
  exact this
 have hx:∀i,(Hk x).testBit i=true->i<32:=by
  intro i hi
  apply Classical.byContradiction
  intro hc
  rw[Nat.testBit_lt_two_pow (Nat.lt_of_lt_of_le (FI x) (Nat.pow_le_pow_right (n:=2) (by omega) (show 32<=i by omega)))]at hi
  cases hi
 rw[e]
 constructor
 ·intro h i hi
  have h0:(BitVec.ofInt 32 x &&& ~~~ BitVec.ofInt 32 y).toNat=0:=by omega
  have:=hb i
  rw[h0,Nat.zero_testBit,hi,decide_eq_true (hx i hi)]at this
  simpa using this
 ·intro h
  have:(BitVec.ofInt 32 x &&& ~~~ BitVec.ofInt 32 y).toNat=0:=by
   apply Nat.eq_of_testBit_eq
   intro i
   rw[hb i,Nat.zero_testBit]
   cases hi:(Hk x).testBit i with
   |false=>rfl
   |true=>rw[h i hi];simp
  omega
theorem EG {k:Nat} (hk:k<32):2^k<4294967296:=Nat.pow_lt_pow_right (n:=32) (by omega) hk
theorem V_ {k:Nat} (hk:k<32):zH .u32 1 (k:Int)=((2^k:Nat):Int):=by
 show IntKind.u32.wrap (1*2^(min ((k:Int).toNat) 32))=_
 rw[Int.toNat_natCast,Nat.min_eq_left (by omega),Int.one_mul,show(2:Int)^k=((2^k:Nat):Int) by simp]
 exact Hg _ (EG hk)
theorem Fc {a k:Nat} (hk:k<32):nU .u32 (a:Int) (k:Int)=((a / 2^k:Nat):Int):=by
 show Int.fdiv (a:Int) (2^(min ((k:Int).toNat) 32))=_
 rw[Int.toNat_natCast,Nat.min_eq_left (by omega),show(2:Int)^k=((2^k:Nat):Int) by simp,Int.fdiv_eq_ediv_of_nonneg _ (Int.natCast_nonneg _)]
 simp
theorem I_ {a k:Nat} (hk:k<32) (ha:a<4294967296):cS .u32 (nU .u32 (a:Int) (k:Int)) 1=1↔a.testBit k=true:=by
 have h1:Hk 1=1:=o_ (a:=1) (by omega)
 rw[Fc hk,Fb,o_ (Nat.lt_of_le_of_lt (Nat.div_le_self _ _) ha),h1,Nat.and_one_is_mod,Nat.testBit_eq_decide_div_mod_eq,decide_eq_true_eq]
 omega
def FC (g:GR) (s:Nat):Prop:=(∀v,s.testBit v=true->v<g.2.length)∧∀v u,s.testBit v=true->s.testBit u=true->¬Hi g v u
theorem WG {g:GR} (hV:VG g):vA 1000 g=some ((2^g.2.length - 1:Nat):Int):=by
 have h24:=hV.n24
 have hl:=hV.len
 have hp:=EG (show g.2.length<32 by omega)
 have hpos:1<=2^g.2.length:=Nat.one_le_two_pow
 unfold vA
 rw[cL (by omega),hl,V_ (by omega),show((2^g.2.length:Nat):Int) - 1=((2^g.2.length - 1:Nat):Int) by omega]
 congr 1
 exact if_pos ⟨by omega,by omega⟩
end
section
def T (e:aL) (k v w:Nat):Int:=if 0<=D e w∧(D e w<k∨(D e w=k∧w<v))then D e w else -1
end
section
section
theorem RZ {X R:Type} {step:X->(X->Option R)->Option R} {K:X->Option R} {bad:R} (N:Nat) (p:Nat->Prop) (I:Nat->X->Prop) (B:Nat)
  (hok:∀(k:Nat) x ag,k<N->k<B->I k x->p k->∃x',I (k+1) x'∧step x ag=ag x') (hbad:∀(k:Nat) x ag,k<N->k<B->I k x->¬p k->step x ag=some bad) (hend:∀x ag,I N x->N<B->step x ag=K x):
  ∀(fuel:Nat) (x:X),I 0 x->B<=fuel->(N<B∨∃k,k<N∧k<B∧¬p k)->((∀k,k<N->p k)->∃x',I N x'∧bE step fuel x=K x')∧(¬(∀k,k<N->p k)->bE step fuel x=some bad):=by
 intro fuel x hI hf hB
 have bads:∀(d a fuel:Nat) (x:X),I a x->a+d<N->a+d<B->¬p (a+d)->d<fuel->bE step fuel x=some bad:=by
  intro d
  induction d with
  |zero=>
   intro a fuel x hI h1 h2 hp hf
   obtain⟨f,rfl⟩:∃f,fuel=f+1:=⟨fuel - 1,by omega⟩
   exact hbad a x _ h1 h2 hI hp
  | succ d ih =>
   intro a fuel x hI h1 h2 hp hf
   obtain⟨f,rfl⟩:∃f,fuel=f+1:=⟨fuel - 1,by omega⟩
   by_cases hpa:p a
   ·obtain⟨x',hI',hs⟩:=hok a x (bE step f) (by omega) (by omega) hI hpa
    have hs:bE step (f+1) x=bE step f x':=hs
    rw[hs]
    exact ih (a+1) f x' hI' (by omega) (by omega) (by rw[show a+1+d=a+(d+1) by omega];exact hp) (by omega)
   ·exact hbad a x _ (by omega) (by omega) hI hpa
 have goods:∀(d a fuel:Nat) (x:X),I a x->a+d=N->N<B->(∀k,a<=k->k<N->p k)->d<fuel->∃x',I N x'∧bE step fuel x=K x':=by
  intro d
  induction d with
  |zero=>
   intro a fuel x hI h1 h2 hp hf
   obtain⟨f,rfl⟩:∃f,fuel=f+1:=⟨fuel - 1,by omega⟩
   obtain rfl:a=N:=by omega
   exact⟨x,hI,hend x _ hI h2⟩
  |succ d ih=>
   intro a fuel x hI h1 h2 hp hf
   obtain⟨f,rfl⟩:∃f,fuel=f+1:=⟨fuel - 1,by omega⟩
   obtain⟨x',hI',hs⟩:=hok a x (bE step f) (by omega) (by omega) hI (hp a (Nat.le_refl _) (by omega))
   have hs:bE step (f+1) x=bE step f x':=hs
   rw[hs]
   exact ih (a+1) f x' hI' (by omega) h2 (fun k h1 h2=>hp k (by omega) h2) (by omega)
 constructor
 ·intro h
  rcases hB with hB|⟨k,h1,_,h2⟩
  ·exact goods N 0 fuel x hI (by omega) hB (fun k _ hk=>h k hk) (by omega)
  ·exact absurd (h k h1) h2
 ·intro h
  have:∃k,k<N∧k<B∧¬p k:=by
   rcases hB with hB|hB
   ·apply Classical.byContradiction
    intro hc
    exact h fun k hk=>Classical.byContradiction fun hp=>hc ⟨k,hk,by omega,hp⟩
   ·exact hB
  obtain⟨k,h1,h2,h3⟩:=this
  exact bads k 0 fuel x hI (by omega) (by omega) (by rw[Nat.zero_add];exact h3) (by omega)
theorem PM {ps:eF} (hn:ps.length<=30) {v:Nat} (hv:v<ps.length):(at' ps (v:Int)).length<1000∨∃k,k<(at' ps (v:Int)).length∧k<1000∧¬FG (at' ps (v:Int)) v ps.length k:=by
 by_cases h:(at' ps (v:Int)).length<1000
 ·exact .inl h
 ·right
  apply Classical.byContradiction
  intro hc
  have hok:∀k,k<40->FG (at' ps (v:Int)) v ps.length k:=fun k hk=>Classical.byContradiction fun hp=>hc ⟨k,by omega,by omega,hp⟩
  have:=Jp ps.length (fun i=>(gR (at' ps (v:Int)) i).1.toNat) 40 (fun i hi=>by have:=(hok i hi).1;omega) (fun i j hij hj he=>by
   have h1:=(hok i (by omega)).1
   have h2:=(hok j hj).1
   have h3:=(hok j hj).2.2.2 i hij
   exact h3 (by omega))
  omega
theorem BU (ps:eF) (hn:ps.length<=30):(HD ps->eO 1000 ps=some true)∧(¬HD ps->eO 1000 ps=some false):=by
 unfold eO
 have inner:∀(v:Nat) (m:List ((Int×Int)×Int)) ag,v<ps.length->(∀z,z∈m↔Ka ps v 0 z)->
   (rP (at' ps (v:Int)) v ps.length->∃m',(∀z,z∈m'↔Ka ps (v+1) 0 z)∧bE (bR ps ((v:Int),m) ag) 1000 ((0:Int),m)=ag ((v:Int)+1,m'))∧
   (¬rP (at' ps (v:Int)) v ps.length->bE (bR ps ((v:Int),m) ag) 1000 ((0:Int),m)=some false):=by
  intro v m ag hv hm
  have hbnd:=PM hn hv
  have key:=RZ (step:=bR ps ((v:Int),m) ag) (K:=fun x=>ag ((v:Int)+1,x.2)) (bad:=false) (at' ps (v:Int)).length (FG (at' ps (v:Int)) v ps.length) (fun i x=>x.1=(i:Int)∧∀z,z∈x.2↔Ka ps v i z) 1000 ?_ ?_ ?_ 1000 ((0:Int),m) ⟨rfl,hm⟩ (by omega) hbnd
  ·refine⟨fun h=> ?_,fun h=>key.2 h⟩
   obtain⟨x,⟨hx1,hx2⟩,hx⟩:=key.1 h
   refine⟨x.2,fun z=>(hx2 z).trans ⟨?_,?_⟩,hx⟩
   ·rintro⟨a,b,h1,h2,h3⟩;exact⟨a,b,by omega,h2,h3⟩
   ·rintro⟨a,b,h1,h2,h3⟩
    refine⟨a,b,?_,h2,h3⟩
    by_cases ha:a=v
    ·subst ha;exact .inr ⟨rfl,h2⟩
    ·omega
  ·rintro i ⟨x1,x2⟩ ag2 hi hi2 ⟨hx,hs⟩ ⟨p1,p2,p3,p4⟩
   dsimp only at hx hs
   subst hx
   have hg:kI (((v:Int),(gR (at' ps (v:Int)) i).1)) x2=none:=by
    apply Ec
    intro w hw
    obtain⟨a,b,h1,h2,h3⟩:=(hs _).1 hw
    simp only[Prod.mk.injEq]at h3
    obtain⟨⟨h4,h5⟩,_⟩:=h3
    have:a=v:=by omega
    subst this
    have hb:b<i:=by omega
    exact p4 b hb h5.symm
   refine⟨((i:Int)+1,zR (((v:Int),(gR (at' ps (v:Int)) i).1)) (gR (at' ps (v:Int)) i).2 x2),⟨by simp,fun z=> ?_⟩,?_⟩
   ·dsimp only
    rw[KL hg,hs]
    constructor
    ·rintro(rfl|⟨a,b,h1,h2,h3⟩)
     ·exact⟨v,i,.inr ⟨rfl,by omega⟩,hi,rfl⟩
     ·exact⟨a,b,by omega,h2,h3⟩
    ·rintro⟨a,b,h1,h2,h3⟩
     by_cases hab:a=v∧b=i
     ·left;rw[h3,hab.1,hab.2]
     ·right;exact⟨a,b,by omega,h2,h3⟩
   ·replace p1:0<=(at' (at' ps (v:Int)) (i:Int)).1∧(at' (at' ps (v:Int)) (i:Int)).1<=(ps.length:Int) - 1:=p1
    replace p3:1<=(at' (at' ps (v:Int)) (i:Int)).2∧(at' (at' ps (v:Int)) (i:Int)).2<=15:=p3
    unfold bR eV fW
    dsimp only
    rw[if_pos (by omega),cL (by omega),if_neg (by omega),if_neg (by omega),if_neg (by rw[decide_eq_false p2];simp),if_neg (by omega),if_neg (by rw[decide_eq_false (by omega)];simp),hg,if_neg (by simp),wr (by omega) (by omega)]
  ·rintro i ⟨x1,x2⟩ ag2 hi hi2 ⟨hx,hs⟩ hp
   dsimp only at hx hs
   subst hx
   unfold bR eV fW
   dsimp only
   rw[if_pos (by omega),cL (by omega)]
   by_cases h1:(gR (at' ps (v:Int)) i).1<0
   ·rw[if_pos h1,if_pos rfl]
   rw[if_neg h1]
   by_cases h2:(ps.length:Int)<=(gR (at' ps (v:Int)) i).1
   ·rw[if_pos h2,if_pos rfl]
   rw[if_neg h2]
   by_cases h3:(gR (at' ps (v:Int)) i).1=v
   ·rw[if_pos (decide_eq_true h3)]
   rw[if_neg (by rw[decide_eq_false h3];simp)]
   by_cases h4:(gR (at' ps (v:Int)) i).2<1
   ·rw[if_pos h4,if_pos rfl]
   rw[if_neg h4]
   by_cases h5:15<(gR (at' ps (v:Int)) i).2
   ·rw[if_pos (decide_eq_true h5)]
   rw[if_neg (by rw[decide_eq_false h5];simp)]
   have:∃k,k<i∧(gR (at' ps (v:Int)) k).1=(gR (at' ps (v:Int)) i).1:=by
    apply Classical.byContradiction
    intro hc
    exact hp ⟨by omega,h3,by omega,fun k hk he=>hc ⟨k,hk,he⟩⟩
   obtain⟨k,hk,he⟩:=this
   have hin:=(hs _).2 ⟨v,k,.inr ⟨rfl,hk⟩,by omega,rfl⟩
   rw[if_pos]
   rw[<-he]
   cases hg:kI (((v:Int),(gR (at' ps (v:Int)) k).1)) x2 with
   |some w=>rfl
   | none => exact absurd hin (by
     intro hin
     exact rF hg hin)
  ·rintro⟨x1,x2⟩ ag2 ⟨hx,hs⟩ _
   dsimp only at hx hs
   subst hx
   unfold bR kR
   dsimp only
   rw[if_neg (by omega),wr (by omega) (by omega)]
 have outer:=Df (step:=cA 1000 ps) (K:=fun x=>fV x.2) (bad:=false) ps.length (fun v=>rP (at' ps (v:Int)) v ps.length) (fun v x=>x.1=(v:Int)∧∀z,z∈x.2↔Ka ps v 0 z) ?_ ?_ ?_ 1000 ((0:Int),[]) ⟨rfl,fun z=>⟨fun h=>(by cases h),fun⟨a,b,h1,_⟩=>(by omega)⟩⟩ (by omega)
 rotate_left
 ·rintro v ⟨x1,x2⟩ ag hv ⟨hx,hs⟩ hp
  dsimp only at hx hs
  subst hx
  obtain⟨m',h1,h2⟩:=(inner v x2 ag hv hs).1 hp
  refine⟨((v:Int)+1,m'),⟨by simp,h1⟩,?_⟩
  ·unfold cA
   dsimp only
   rw[if_pos (by omega),cL (by omega)]
   exact h2
 ·rintro v ⟨x1,x2⟩ ag hv ⟨hx,hs⟩ hp
  dsimp only at hx hs
  subst hx
  unfold cA
  dsimp only
  rw[if_pos (by omega),cL (by omega)]
  exact(inner v x2 ag hv hs).2 hp
 ·rintro⟨x1,x2⟩ ag ⟨hx,hs⟩
  dsimp only at hx hs
  subst hx
  unfold cA
  dsimp only
  rw[if_neg (by omega)]
 by_cases hL:∀v,v<ps.length->rP (at' ps (v:Int)) v ps.length
 rotate_left
 ·exact⟨fun h=>absurd h.1 hL,fun _=>outer.2 hL⟩
 obtain⟨⟨x1,x2⟩,⟨hx,hs⟩,he⟩:=outer.1 hL
 rw[he]
 dsimp only at hs ⊢
 have hk:fV x2=some (decide (∀z∈x2,¬(Option.getD (kI (z.1.2,z.1.1) x2) (0:Int))≠z.2)):=Gz (fun z:(Int×Int)×Int=>(Option.getD (kI (z.1.2,z.1.1) x2) (0:Int))≠z.2) x2
 rw[hk]
 have hiff:(∀z∈x2,¬(Option.getD (kI (z.1.2,z.1.1) x2) (0:Int))≠z.2)↔∀v,v<ps.length->∀i,i<(at' ps (v:Int)).length->HC ([],ps) v i:=by
  constructor
  ·intro h v hv i hi
   have hw:=(hL v hv i hi).2.2.1
   have hin:=(hs (((v:Int),(gR (at' ps (v:Int)) i).1),(gR (at' ps (v:Int)) i).2)).2 ⟨v,i,.inl hv,hi,rfl⟩
   have h2:=Decidable.not_not.1 (h _ hin)
   dsimp only at h2
   cases hg:kI ((gR (at' ps (v:Int)) i).1,(v:Int)) x2 with
   |none=>rw[hg]at h2;simp only[Option.getD]at h2;omega
   | some w =>
    rw[hg]at h2;simp only[Option.getD]at h2
    obtain⟨a,b,h3,h4,h5⟩:=(hs _).1 (yU hg)
    simp only[Prod.mk.injEq]at h5
    obtain⟨⟨h6,h7⟩,h8⟩:=h5
    refine⟨b,?_,?_,?_⟩
    ·show b<(at' ps (gR (at' ps (v:Int)) i).1).length
     rw[h6];exact h4
    ·show(gR (at' ps (gR (at' ps (v:Int)) i).1) b).1=v
     rw[h6];exact h7.symm
    ·show(gR (at' ps (gR (at' ps (v:Int)) i).1) b).2=(gR (at' ps (v:Int)) i).2
     rw[h6,<-h8];exact h2
  ·intro h z hz hne
   obtain⟨a,b,h3,h4,rfl⟩:=(hs z).1 hz
   have ha:a<ps.length:=by omega
   apply hne
   obtain⟨j,hj1,hj2,hj3⟩:=h a ha b h4
   have hu:=(hL a ha b h4).1
   obtain⟨u,hu'⟩:∃u:Nat,(gR (at' ps (a:Int)) b).1=u:=⟨(gR (at' ps (a:Int)) b).1.toNat,by omega⟩
   replace hj1:j<(at' ps (gR (at' ps (a:Int)) b).1).length:=hj1
   replace hj2:(gR (at' ps (gR (at' ps (a:Int)) b).1) j).1=a:=hj2
   replace hj3:(gR (at' ps (gR (at' ps (a:Int)) b).1) j).2=(gR (at' ps (a:Int)) b).2:=hj3
   rw[hu']at hj1 hj2 hj3
   have hun:u<ps.length:=by omega
   dsimp only
   rw[hu',<-hj3]
   have hin:=(hs (((u:Int),(gR (at' ps (u:Int)) j).1),(gR (at' ps (u:Int)) j).2)).2 ⟨u,j,.inl hun,hj1,rfl⟩
   rw[hj2]at hin
   cases hg:kI ((u:Int),(a:Int)) x2 with
   |none=>exact absurd hin (rF hg)
   | some w =>
    obtain⟨a',b',h3',h4',h5⟩:=(hs _).1 (yU hg)
    simp only[Prod.mk.injEq]at h5
    obtain⟨⟨h6,h7⟩,h8⟩:=h5
    have:a'=u:=by omega
    subst this
    have hbj:b'=j:=by
     rcases Nat.lt_trichotomy b' j with hl|hl|hl
     ·exact absurd (h7.symm.trans hj2.symm) ((hL a' hun j hj1).2.2.2 b' hl)
     ·exact hl
     ·exact absurd (hj2.trans h7) ((hL a' hun b' h4').2.2.2 j hl)
    subst hbj
    exact h8
 by_cases hS:∀v,v<ps.length->∀i,i<(at' ps (v:Int)).length->HC ([],ps) v i
 ·rw[decide_eq_true (hiff.2 hS)]
  exact⟨fun _=>rfl,fun h=>absurd ⟨hL,hS⟩ h⟩
 ·rw[decide_eq_false (fun h=>hS (hiff.1 h))]
  exact⟨fun h=>absurd h.2 hS,fun _=>rfl⟩
theorem BA (g:GR):(VG g->fC 1000 g=some true)∧(¬VG g->fC 1000 g=some false):=by
 unfold fC nH nJ
 by_cases h1:g.1.length<1
 ·rw[if_pos (by omega)]
  exact⟨fun h=>by have:=h.n1;have:=h.len;omega,fun _=>rfl⟩
 rw[if_neg (by omega)]
 by_cases h2:24<g.1.length
 ·rw[if_pos (by omega)]
  exact⟨fun h=>by have:=h.n24;have:=h.len;omega,fun _=>rfl⟩
 rw[if_neg (by omega)]
 by_cases h3:g.1.length=g.2.length
 rotate_left
 ·rw[decide_eq_true (by omega)]
  exact⟨fun h=>absurd h.len h3,fun _=>rfl⟩
 rw[decide_eq_false (by omega),if_neg (by simp)]
 by_cases h4:∀k,k<g.1.length->Qn g.1 k
 rotate_left
 ·rw[(rQ g.1 (by omega)).2 h4,bB rfl]
  exact⟨fun h=>absurd (fun k hk=>⟨(h.node k (by omega)).id,(h.node k (by omega)).ids⟩) h4,fun _=>rfl⟩
 rw[(rQ g.1 (by omega)).1 h4,bB rfl,if_pos rfl]
 by_cases h5:HD g.2
 ·rw[(BU g.2 (by omega)).1 h5]
  exact⟨fun _=>rfl,fun h=>absurd ⟨by omega,by omega,h3,fun v hv=>⟨(h4 v (by omega)).1,Ms hv (h5.1 v hv),h5.1 v hv,(h4 v (by omega)).2⟩,h5.2⟩ h⟩
 ·rw[(BU g.2 (by omega)).2 h5]
  exact⟨fun h=>absurd ⟨fun v hv=>(h.node v hv).links,h.sym⟩ h5,fun _=>rfl⟩
end
end
section
abbrev OO:=Aw
theorem sS (v m:Int) (h1:1<=m) (h2:m<=4611686018427387904):eY 1000 v m=some (v%m):=by
 unfold eY oT
 rw[if_neg (by omega),cL (by omega)]
 have hm:=Int.tmod_eq_emod (a:=v) (b:=m)
 have h0:=Int.emod_nonneg v (show m≠0 by omega)
 have h3:=Int.emod_lt_of_pos v (show 0<m by omega)
 by_cases hc:0<=v∨m∣v
 ·rw[if_pos hc]at hm
  have hm':v.tmod m=v%m:=by simpa using hm
  rw[hm',if_neg (by omega)]
 ·rw[if_neg hc]at hm
  have:(m.natAbs:Int)=m:=by omega
  rw[hm,if_pos (by omega),wr (by omega) (by omega)]
  congr 1;omega
theorem Kq (l:aL) (i:Int) (h:0<=i):pY 1000 l i=some (at' l i):=by
 unfold pY
 by_cases hi:i<(l.length:Int)
 ·rw[if_pos hi,cL ⟨h,hi⟩]
 ·rw[if_neg hi]
  unfold at'
  rw[List.getD_eq_getElem?_getD,List.getElem?_eq_none (by omega)];rfl

theorem KQ {α:Type} [DecidableEq α]:∀(l1 l2:List α),l1.Nodup->(∀x∈l1,x∈l2)->l1.length<=l2.length
 | [],_,_,_=>Nat.zero_le _
 | a :: t, l2, hn, hs => by
  have hn':=List.nodup_cons.1 hn
  have ha:=hs a (List.mem_cons_self ..)
  have:=KQ t (l2.erase a) hn'.2 fun x hx=>by
   have hne:x≠a:=fun he=>hn'.1 (he▸hx)
   exact(List.mem_erase_of_ne hne).2 (hs x (List.mem_cons_of_mem _ hx))
  rw[List.length_erase_of_mem ha]at this
  have hpos:0<l2.length:=List.length_pos_of_mem ha
  simp only[List.length_cons]
  omega
theorem Tb (id0:Int) (ids:aL) (t:Nat) (ht:t<=200) (h:∀s,s<t->(id0+(s:Int))%256∈ids):t<=ids.length:=by
 have:=KQ ((List.range t).map fun s:Nat=>(id0+(s:Int))%256) ids (by
  rw[List.nodup_iff_pairwise_ne,List.pairwise_map]
  refine List.Pairwise.imp_of_mem ?_ List.pairwise_lt_range
  intro a b ha hb hab
  rw[List.mem_range]at ha hb
  omega) (fun x hx=>by
  obtain⟨s,hs,rfl⟩:=List.mem_map.1 hx
  exact h s (List.mem_range.1 hs))
 simpa using this

structure FB (ids:aL):Prop where
 rng:∀y∈ids,0<=y∧y<=255
 nd:ids.Nodup
theorem FB.snoc {ids:aL} {y:Int} (h:FB ids) (hy:0<=y∧y<=255) (hn:y∉ids):FB (ids++[y]):=by
 refine⟨fun z hz=> ?_,?_⟩
 ·rcases List.mem_append.1 hz with hz|hz
  ·exact h.rng z hz
  ·rw[List.mem_singleton.1 hz];exact hy
 ·rw[List.nodup_append]
  refine⟨h.nd,by simp,?_⟩
  intro a ha b hb
  rw[List.mem_singleton.1 hb]
  exact fun he=>hn (he▸ha)
theorem yT {α:Type} [Inhabited α] {l:List α} {i:Nat} (h:i<l.length):at' l (i:Int)∈l:=by
 rw[i_,List.getD_eq_getElem?_getD,List.getElem?_eq_getElem h]
 exact List.getElem_mem h
theorem Bi {α:Type} [Inhabited α] {l:List α} {x:α} (h:x∈l):∃i,i<l.length∧at' l ((i:Nat):Int)=x:=by
 obtain⟨i,hi,he⟩:=List.getElem_of_mem h
 refine⟨i,hi,?_⟩
 rw[i_,List.getD_eq_getElem?_getD,List.getElem?_eq_getElem hi]
 exact he
theorem RJ {Q:List Int×eF->Prop} {ids:aL} (hl:ids.length<=24) (id0:Int) (ag:mI->Option (List Int×eF))
  (hag:∀y,0<=y->y<=255->y∉ids->OK Q (ag ((ids.length:Int)+1,ids++[y]))):OK Q (bE (jD ((ids.length:Int),ids) ag) 1000 (id0%256,0)):=by
 refine wD (fun s:eZ=>∃(t u:Nat),s.1=(id0+(t:Int))%256∧s.2=u∧u<=ids.length∧t<=ids.length∧(∀k,k<t->(id0+(k:Int))%256∈ids)∧∀j,j<u->at' ids (j:Int)≠s.1)
  (fun s=>(ids.length - ((s.1 - id0)%256).toNat)*30+(ids.length - s.2.toNat)) ?_ 1000 _ ⟨0,0,by simp,rfl,by omega,by omega,fun k hk=>by omega,fun j hj=>by omega⟩ ?_
 ·rintro⟨i,j⟩ ag' ⟨t,u,h1,h2,h3,h4,h5,h6⟩ hrec
  dsimp only at h1 h2 h6
  subst h2
  unfold jD pS jC
  dsimp only
  by_cases hu:(u:Int)<(ids.length:Int)
  ·rw[if_pos hu,cL (by omega)]
   by_cases he:at' ids (u:Int)=i
   ·rw[if_pos he,cL (by decide)]
    have hin:(id0+(t:Int))%256∈ids:=by rw[<-h1,<-he];exact yT (by omega)
    have hall:∀k,k<t+1->(id0+(k:Int))%256∈ids:=fun k hk=>by
     rcases Nat.lt_succ_iff_lt_or_eq.1 hk with h|h
     ·exact h5 k h
     ·subst h;exact hin
    have ht:=Tb id0 ids (t+1) (by omega) hall
    have hi:0<=i∧i<=255:=by omega
    rw[wr (by omega) (by omega),Int.tmod_eq_emod_of_nonneg (by omega),wr (by omega) (by omega)]
    refine hrec _ ⟨t+1,0,?_,by simp,by omega,ht,hall,fun j hj=>by omega⟩ ?_
    ·dsimp only;omega
    ·dsimp only
     have e1:((i+1)%256 - id0)%256=(t:Int)+1:=by omega
     have e2:(i - id0)%256=(t:Int):=by omega
     rw[e1,e2];omega
   ·rw[if_neg he,wr (by omega) (by omega)]
    refine hrec _ ⟨t,u+1,h1,by dsimp only;omega,by omega,h4,h5,fun j hj=> ?_⟩ ?_
    ·rcases Nat.lt_succ_iff_lt_or_eq.1 hj with h|h
     ·exact h6 j h
     ·subst h;exact he
    ·dsimp only;omega
  ·rw[if_neg hu]
   rw[cL (by simp;omega),wr (by omega) (by omega)]
   refine hag i (by omega) (by omega) fun hm=> ?_
   obtain⟨k,hk,hke⟩:=Bi hm
   exact h6 k (by omega) hke
 ·dsimp only
  have e:(id0%256 - id0)%256=0:=by omega
  rw[e];omega
theorem Su (x:OO) (most:Nat) (h1:1<=most) (h24:most<=24):OK (fun g:GR=>FB g.1∧g.2=List.replicate g.1.length []∧1<=g.1.length∧g.1.length<=most) (mO 1000 x (most:Int)):=by
 unfold mO
 rw[bB (sS _ _ (by omega) (by omega))]
 generalize hr:(wI .i64 (x.1 - 1))%(most:Int)=r
 have hr0:0<=r:=by rw[<-hr];exact Int.emod_nonneg _ (by omega)
 have hr1:r<most:=by rw[<-hr];exact Int.emod_lt_of_pos _ (by omega)
 have hw:wI .i64 (1+r)=1+r:=wr (by omega) (by omega)
 rw[hw,cL (by omega)]
 refine wD (fun s:mI=>s.1=(s.2.length:Int)∧(s.2.length:Int)<=1+r∧FB s.2) (fun s=>(1+r - s.1).toNat) ?_ 1000 _ ⟨rfl,by simp;omega,⟨fun y hy=>by simp at hy,List.nodup_nil⟩⟩ (by dsimp only;omega)
 rintro⟨v,ids⟩ ag ⟨ha,hb,hc⟩ hrec
 dsimp only at ha hb hc
 subst ha
 unfold f_ lT
 dsimp only
 rw[hw]
 by_cases hv:(ids.length:Int)<1+r
 ·rw[if_pos hv,bB (Kq _ _ (by omega)),bB (sS _ _ (by decide) (by decide))]
  exact RJ (by omega) _ ag fun y y0 y1 y2=>hrec _ ⟨by simp,by simp;omega,hc.snoc ⟨y0,y1⟩ y2⟩ (by dsimp only;omega)
 ·rw[if_neg hv]
  refine⟨_,rfl,hc,?_,by dsimp only;omega,by dsimp only;omega⟩
  dsimp only
  congr 1;omega

structure VM (ids:aL) (P:eF):Prop where
 n1:1<=P.length
 n24:P.length<=24
 len:ids.length=P.length
 ok:FB ids
 nd:∀v:Nat,v<P.length->((at' P (v:Int)).map Prod.fst).Nodup
 lk:∀v:Nat,v<P.length->∀x∈at' P (v:Int),(0<=x.1∧x.1<=(P.length:Int) - 1)∧x.1≠(v:Int)∧(1<=x.2∧x.2<=15)∧((v:Int),x.2)∈at' P x.1
theorem Sv {α:Type} [Inhabited α] {l:List α} (h:l.Nodup) {i j:Nat} (hi:i<l.length) (hj:j<l.length) (hij:i<j):at' l (i:Int)≠at' l (j:Int):=by
 rw[i_,i_,List.getD_eq_getElem?_getD,List.getD_eq_getElem?_getD,List.getElem?_eq_getElem hi,List.getElem?_eq_getElem hj]
 exact List.pairwise_iff_getElem.1 (List.nodup_iff_pairwise_ne.1 h) i j hi hj hij
theorem VM.vg {ids:aL} {P:eF} (h:VM ids P):VG (ids,P):=by
 have hlen:=h.len
 have links:∀v,v<P.length->rP (row (ids,P) v) v P.length:=by
  intro v hv i hi
  have hm:gR (row (ids,P) v) i∈at' P (v:Int):=yT hi
  obtain⟨a1,a2,a3,_⟩:=h.lk v hv _ hm
  refine⟨a1,a2,a3,fun k hk=> ?_⟩
  have hk2:k<(row (ids,P) v).length:=by omega
  have:=List.pairwise_iff_getElem.1 (List.nodup_iff_pairwise_ne.1 (h.nd v hv)) k i (by simpa using hk2) (by simpa using hi) hk
  rw[List.getElem_map,List.getElem_map]at this
  have e:∀j (hj:j<(row (ids,P) v).length),gR (row (ids,P) v) j=(at' P (v:Int))[j]'hj:=fun j hj=>by
   unfold gR
   rw[i_,List.getD_eq_getElem?_getD,List.getElem?_eq_getElem hj];rfl
  rw[e k hk2,e i hi]
  exact this
 refine⟨h.n1,h.n24,h.len,fun v hv=>⟨?_,Ms hv (links v hv),links v hv,fun k hk=> ?_⟩,fun v hv i hi=> ?_⟩
 ·exact h.ok.rng _ (yT (by dsimp only at hv ⊢;omega))
 ·exact Sv h.ok.nd (by dsimp only at hv ⊢;omega) (by dsimp only at hv ⊢;omega) hk
 ·have hm:gR (row (ids,P) v) i∈at' P (v:Int):=yT hi
  obtain⟨_,_,_,a4⟩:=h.lk v hv _ hm
  obtain⟨j,hj,he⟩:=Bi a4
  exact⟨j,hj,by unfold gR;rw[he],by unfold gR;rw[he]⟩
theorem VM.start {ids:aL} (h:FB ids) (h1:1<=ids.length) (h24:ids.length<=24):VM ids (List.replicate ids.length []):=by
 have e:∀v:Nat,at' (List.replicate ids.length ([]:eD)) (v:Int)=[]:=fun v=>by
  rw[i_,List.getD_eq_getElem?_getD,List.getElem?_replicate]
  split<;>rfl
 refine⟨by simpa using h1,by simpa using h24,by simp,h,fun v _=>by rw[e];exact List.nodup_nil,fun v _ x hx=> ?_⟩
 rw[e]at hx
 cases hx
def kL (P:eF) (v u:Nat):Prop:=∃x∈at' P (v:Int),x.1=(u:Int)
theorem HY (ids:aL) (P:eF) (a b:Nat) (ha:a<P.length) (hl:(at' P (a:Int)).length<=900):(kL P a b->lB 1000 (ids,P) a b=some true)∧(¬kL P a b->lB 1000 (ids,P) a b=some false):=by
 have step:∀(r:Bool),(r=true->kL P a b)->(r=false->¬kL P a b)->lB 1000 (ids,P) a b=some r:=by
  intro r ht hf
  unfold lB
  refine Jc (fun i:Int=>∃k:Nat,i=k∧k<=(at' P (a:Int)).length∧∀j,j<k->(at' (at' P (a:Int)) ((j:Nat):Int)).1≠(b:Int)) (fun i=>(at' P (a:Int)).length - i.toNat) ?_ 1000 0 ⟨0,rfl,by omega,fun j hj=>by omega⟩ (by omega)
  rintro i ag ⟨k,rfl,hk,hno⟩ hrec
  unfold vR sH
  dsimp only
  rw[cL (by omega)]
  by_cases hi:(k:Int)<((at' P (a:Int)).length:Int)
  ·rw[if_pos hi,cL (by omega),cL (by omega)]
   by_cases he:(at' (at' P (a:Int)) (k:Int)).1=(b:Int)
   ·rw[if_pos he]
    cases r with
    |true=>rfl
    |false=>exact absurd ⟨_,yT (by omega),he⟩ (hf rfl)
   ·rw[if_neg he,wr (by omega) (by omega)]
    refine hrec _ ⟨k+1,by omega,by omega,fun j hj=> ?_⟩ (by omega)
    rcases Nat.lt_succ_iff_lt_or_eq.1 hj with h|h
    ·exact hno j h
    ·subst h;exact he
  ·rw[if_neg hi]
   cases r with
   |false=>rfl
   |true=>
    obtain⟨x,hx,he⟩:=ht rfl
    obtain⟨j,hj,hje⟩:=Bi hx
    exact absurd (by rw[hje];exact he) (hno j (by omega))
 exact⟨fun h=>step true (fun _=>h) (fun hc=>by cases hc),fun h=>step false (fun hc=>by cases hc) (fun _=>h)⟩
theorem Ud (P:eF) (a b:Nat) (x y:eD) (ha:a<P.length) (hb:b<P.length) (v:Nat):at' ((P.set a x).set b y) (v:Int)=if v=b then y else if v=a then x else at' P (v:Int):=by
 rw[i_,i_,List.getD_eq_getElem?_getD,List.getD_eq_getElem?_getD,List.getElem?_set,List.getElem?_set]
 by_cases h:v=b
 ·subst h;rw[if_pos rfl,if_pos rfl,if_pos (by simpa using hb)];rfl
 ·rw[if_neg (fun hc=>h hc.symm),if_neg h]
  by_cases h2:v=a
  ·subst h2;rw[if_pos rfl,if_pos rfl,if_pos ha];rfl
  ·rw[if_neg (fun hc=>h2 hc.symm),if_neg h2]
theorem VM.add {ids:aL} {P:eF} (h:VM ids P) {a b:Nat} {w:Int} (ha:a<P.length) (hb:b<P.length) (hab:a≠b) (hn:¬kL P a b) (hw:1<=w∧w<=15)
  {x y:eD} (hx:x.Perm (((b:Int),w)::at' P (a:Int))) (hy:y.Perm (((a:Int),w)::at' P (b:Int))):
  VM ids ((P.set a x).set b y)∧(∀v u,kL P v u->kL ((P.set a x).set b y) v u)∧kL ((P.set a x).set b y) a b:=by
 have hn2:¬kL P b a:=by
  rintro⟨z,hz,he⟩
  obtain⟨_,_,_,hb4⟩:=h.lk b hb z hz
  rw[he]at hb4
  exact hn ⟨_,hb4,rfl⟩
 have hr:=Ud P a b x y ha hb
 have hL:((P.set a x).set b y).length=P.length:=by simp
 have mem:∀(v:Nat) (z:eZ),z∈at' ((P.set a x).set b y) (v:Int)↔z∈at' P (v:Int)∨(v=b∧z=((a:Int),w))∨(v=a∧z=((b:Int),w)):=by
  intro v z
  rw[hr v]
  by_cases h1:v=b
  ·subst h1
   rw[if_pos rfl,hy.mem_iff,List.mem_cons]
   constructor
   ·rintro(h2|h2)
    ·exact .inr (.inl ⟨rfl,h2⟩)
    ·exact .inl h2
   ·rintro(h2|⟨_,h2⟩|⟨h3,_⟩)
    ·exact .inr h2
    ·exact .inl h2
    ·exact absurd h3.symm hab
  ·rw[if_neg h1]
   by_cases h2:v=a
   ·subst h2
    rw[if_pos rfl,hx.mem_iff,List.mem_cons]
    constructor
    ·rintro(h3|h3)
     ·exact .inr (.inr ⟨rfl,h3⟩)
     ·exact .inl h3
    ·rintro(h3|⟨h4,_⟩|⟨_,h3⟩)
     ·exact .inr h3
     ·exact absurd h4 h1
     ·exact .inl h3
   ·rw[if_neg h2]
    exact⟨.inl,fun h3=>h3.elim id fun h4=>h4.elim (fun h5=>absurd h5.1 h1) fun h5=>absurd h5.1 h2⟩
 refine⟨⟨by rw[hL];exact h.n1,by rw[hL];exact h.n24,by rw[hL];exact h.len,h.ok,fun v hv=> ?_,fun v hv z hz=> ?_⟩,fun v u hvu=> ?_,?_⟩
 ·rw[hL]at hv
  rw[hr v]
  by_cases h1:v=b
  ·subst h1
   rw[if_pos rfl,(hy.map Prod.fst).nodup_iff,List.map_cons,List.nodup_cons]
   exact⟨fun hc=>by obtain⟨z,hz,he⟩:=List.mem_map.1 hc;exact hn2 ⟨z,hz,he⟩,h.nd v hv⟩
  ·rw[if_neg h1]
   by_cases h2:v=a
   ·subst h2
    rw[if_pos rfl,(hx.map Prod.fst).nodup_iff,List.map_cons,List.nodup_cons]
    exact⟨fun hc=>by obtain⟨z,hz,he⟩:=List.mem_map.1 hc;exact hn ⟨z,hz,he⟩,h.nd v hv⟩
   ·rw[if_neg h2];exact h.nd v hv
 ·rw[hL]at hv ⊢
  rcases(mem v z).1 hz with h1|⟨rfl,rfl⟩|⟨rfl,rfl⟩
  ·obtain⟨b1,b2,b3,b4⟩:=h.lk v hv z h1
   refine⟨b1,b2,b3,?_⟩
   obtain⟨u,hu⟩:∃u:Nat,z.1=u:=⟨z.1.toNat,by omega⟩
   rw[hu]at b4 ⊢
   exact(mem u _).2 (.inl b4)
  ·exact⟨by dsimp only;omega,by dsimp only;omega,hw,(mem a _).2 (.inr (.inr ⟨rfl,rfl⟩))⟩
  ·exact⟨by dsimp only;omega,by dsimp only;omega,hw,(mem b _).2 (.inr (.inl ⟨rfl,rfl⟩))⟩
 ·obtain⟨z,hz,he⟩:=hvu
  exact⟨z,(mem v z).2 (.inl hz),he⟩
 ·exact⟨_,(mem a _).2 (.inr (.inr ⟨rfl,rfl⟩)),rfl⟩
theorem NX (x:OO) {ids:aL} {P:eF} (h:VM ids P) {a b:Nat} {w:Int} (ha:a<P.length) (hb:b<P.length) (hw:1<=w∧w<=15):
  ∃P',kV 1000 x (ids,P) a b w=some P'∧VM ids P'∧P'.length=P.length∧(∀v u,kL P v u->kL P' v u)∧(a≠b->kL P' a b):=by
 have h24:=h.n24
 have dg:∀v:Nat,v<P.length->(at' P (v:Int)).length<24:=fun v hv=>by
  have:=(h.vg.node v hv).deg
  have e:(at' P (v:Int)).length=(row (ids,P) v).length:=rfl
  dsimp only at this
  omega
 have da:=dg a ha
 have db:=dg b hb
 unfold kV
 by_cases hab:a=b
 ·subst hab
  rw[if_pos rfl]
  exact⟨P,rfl,h,rfl,fun _ _ h=>h,fun hc=>absurd rfl hc⟩
 rw[if_neg (by omega)]
 by_cases hn:kL P a b
 ·rw[bB ((HY ids P a b ha (by omega)).1 hn)]
  exact⟨P,rfl,h,rfl,fun _ _ h=>h,fun _=>hn⟩
 rw[bB ((HY ids P a b ha (by omega)).2 hn)]
 unfold mL
 rw[if_neg (by simp)]
 dsimp only
 cases hbk:x.2.2.2.2.2 with
 | true =>
  rw[if_pos rfl]
  have e:at' (P.set (Int.toNat (a:Int)) ([((b:Int),w)]++at' P (a:Int))) (b:Int)=at' P (b:Int):=by
   rw[i_,List.getD_eq_getElem?_getD,List.getElem?_set,if_neg (by simpa using hab),i_,List.getD_eq_getElem?_getD]
  rw[e]
  rw[cL (by omega),cL (by simp;omega),cL (by omega),cL (by simp;omega),cL (by simp;omega),cL (by simp;omega)]
  obtain⟨h1,h2,h3⟩:=h.add ha hb hab hn hw (List.Perm.refl _) (List.Perm.refl _)
  exact⟨_,rfl,h1,by simp,h2,fun _=>h3⟩
 |false=>
  rw[if_neg (by simp)]
  rw[cL (by omega),cL (by omega),cL (by simp;omega),cL (by simp;omega),cL (by simpa using hab),cL (by simp;omega),cL (by simp;omega)]
  obtain⟨h1,h2,h3⟩:=h.add ha hb hab hn hw (x:=at' P (a:Int)++[((b:Int),w)]) (y:=at' P (b:Int)++[((a:Int),w)]) List.perm_append_comm List.perm_append_comm
  exact⟨_,rfl,h1,by simp,h2,fun _=>h3⟩
theorem Ir (v:Int):wI .i64 (1+v%15)=1+v%15∧1<=1+v%15∧1+v%15<=15:=by
 have:=Int.emod_nonneg v (show(15:Int)≠0 by decide)
 have:=Int.emod_lt_of_pos v (show(0:Int)<15 by decide)
 exact⟨wr (by omega) (by omega),by omega,by omega⟩

theorem VK (x:OO) (most:Nat) (h1:1<=most) (h24:most<=24):
  OK (fun g:GR=>VM g.1 g.2∧g.2.length<=most∧∀v:Nat,1<=v->v<g.2.length->∃u:Nat,u<v∧kL g.2 u v) (kU 1000 x (most:Int)):=by
 unfold kU
 obtain⟨⟨ids,P0⟩,e0,hid,hP,hn1,hn2⟩:=Su x most h1 h24
 dsimp only at hP hid hn1 hn2
 rw[bB e0]
 dsimp only
 subst hP
 have hst:=VM.start hid hn1 (by omega)
 refine wD (fun s:Int×eF=>∃k:Nat,s.1=k∧1<=k∧k<=ids.length∧VM ids s.2∧s.2.length=ids.length∧∀v:Nat,1<=v->v<k->∃u:Nat,u<v∧kL s.2 u v) (fun s=>ids.length - s.1.toNat) ?_ 1000 _ ⟨1,rfl,by omega,hn1,hst,by simp,fun v hv hv2=>by omega⟩ (by dsimp only;omega)
 rintro⟨i,P⟩ ag ⟨k,hk,hk1,hk2,hV,hL,hT⟩ hrec
 dsimp only at hk hV hL hT
 subst hk
 unfold qS mK
 dsimp only
 by_cases hi:(k:Int)<(P.length:Int)
 ·rw[if_pos hi,wr (by omega) (by omega),bB (Kq _ _ (by omega)),bB (sS _ _ (by omega) (by omega)),bB (Kq _ _ (by omega)),bB (sS _ _ (by decide) (by decide))]
  obtain⟨w1,w2,w3⟩:=Ir (at' x.2.2.1 ((k:Int) - 1))
  rw[w1]
  generalize hu:at' x.2.1 ((k:Int) - 1)%(k:Int)=u
  have u0:0<=u:=by rw[<-hu];exact Int.emod_nonneg _ (by omega)
  have u1:u<k:=by rw[<-hu];exact Int.emod_lt_of_pos _ (by omega)
  obtain⟨u,rfl⟩:∃n:Nat,u=n:=⟨u.toNat,by omega⟩
  obtain⟨P',e1,v1,v2,v3,v4⟩:=NX x hV (a:=u) (b:=k) (by omega) (by omega) ⟨w2,w3⟩
  rw[bB e1,wr (by omega) (by omega)]
  refine hrec _ ⟨k+1,by dsimp only;omega,by omega,by omega,v1,by dsimp only;omega,fun v hv hv2=> ?_⟩ (by dsimp only;omega)
  by_cases hvk:v=k
  ·subst hvk;exact⟨u,by omega,v4 (by omega)⟩
  ·obtain⟨u',hu1,hu2⟩:=hT v hv (by omega)
   exact⟨u',hu1,v3 _ _ hu2⟩
 ·rw[if_neg hi]
  exact⟨_,rfl,hV,by dsimp only;omega,fun v hv hv2=>hT v hv (by dsimp only at hv2;omega)⟩
theorem Vq (x:OO) {ids:aL} {P:eF} (h:VM ids P):OK (fun g:GR=>VM g.1 g.2∧g.1=ids∧g.2.length=P.length∧∀v u,kL P v u->kL g.2 v u) (kW 1000 x (ids,P)):=by
 unfold kW
 have h24:=h.n24
 have hp1:=h.n1
 refine wD (fun s:Int×eF=>∃k:Nat,s.1=k∧k<=100∧VM ids s.2∧s.2.length=P.length∧∀v u,kL P v u->kL s.2 v u) (fun s=>200 - s.1.toNat) ?_ 1000 _ ⟨P.length,rfl,by omega,h,rfl,fun _ _ h=>h⟩ (by dsimp only;omega)
 rintro⟨i,Q⟩ ag ⟨k,hk,hk2,hV,hL,hN⟩ hrec
 dsimp only at hk hV hL hN
 subst hk
 have done:∀b:Bool,b=false->OK (fun g:GR=>VM g.1 g.2∧g.1=ids∧g.2.length=P.length∧∀v u,kL P v u->kL g.2 v u) (jW 1000 x (ids,P) ((k:Int),Q) ag b):=by
  rintro b rfl
  exact⟨_,rfl,hV,rfl,hL,hN⟩
 unfold mM
 dsimp only
 rw[wr (by omega) (by omega)]
 by_cases h1:(k:Int)+1<(x.2.1.length:Int)
 rotate_left
 ·rw[if_neg h1];exact done _ rfl
 rw[if_pos h1]
 by_cases h2:(k:Int)<60
 rotate_left
 ·exact done _ (decide_eq_false h2)
 rw[decide_eq_true h2]
 unfold jW
 dsimp only
 rw[if_pos rfl,cL (by omega),bB (sS _ _ (by omega) (by omega)),wr (by omega) (by omega),cL (by omega),bB (sS _ _ (by omega) (by omega)),bB (Kq _ _ (by omega)),bB (sS _ _ (by decide) (by decide))]
 obtain⟨w1,w2,w3⟩:=Ir (at' x.2.2.1 (k:Int))
 rw[w1]
 generalize hu:at' x.2.1 (k:Int)%(P.length:Int)=u
 have u0:0<=u:=by rw[<-hu];exact Int.emod_nonneg _ (by omega)
 have u1:u<P.length:=by rw[<-hu];exact Int.emod_lt_of_pos _ (by omega)
 obtain⟨u,rfl⟩:∃n:Nat,u=n:=⟨u.toNat,by omega⟩
 generalize ht:at' x.2.1 ((k:Int)+1)%(P.length:Int)=t
 have t0:0<=t:=by rw[<-ht];exact Int.emod_nonneg _ (by omega)
 have t1:t<P.length:=by rw[<-ht];exact Int.emod_lt_of_pos _ (by omega)
 obtain⟨t,rfl⟩:∃n:Nat,t=n:=⟨t.toNat,by omega⟩
 obtain⟨P',e1,v1,v2,v3,v4⟩:=NX x hV (a:=u) (b:=t) (by omega) (by omega) ⟨w2,w3⟩
 rw[bB e1,wr (by omega) (by omega)]
 exact hrec _ ⟨k+2,by dsimp only;omega,by omega,v1,by dsimp only;omega,fun v u hvu=>v3 _ _ (hN v u hvu)⟩ (by dsimp only;omega)
theorem IS (x:OO) (most:Nat) (h1:1<=most) (h24:most<=24):
  OK (fun g:GR=>VM g.1 g.2∧g.2.length<=most∧∀v:Nat,1<=v->v<g.2.length->∃u:Nat,u<v∧kL g.2 u v) (gF 1000 x (most:Int)):=by
 unfold gF
 obtain⟨⟨ids,P⟩,e0,hV,hL,hT⟩:=VK x most h1 h24
 obtain⟨⟨ids',P'⟩,e1,hV',hi,hL',hN⟩:=Vq x hV
 rw[bB e0,bB e1]
 dsimp only at hL hT hV' hi hL' hN
 refine⟨_,rfl,hV',by dsimp only;omega,fun v hv hv2=> ?_⟩
 obtain⟨u,hu,hu2⟩:=hT v hv (by dsimp only at hv2;omega)
 exact⟨u,hu,hN _ _ hu2⟩
end
end Go.Proofs.YtigggfnchamobaaGreatDoor
end
section
namespace Go.Proofs.YtigggfnchamobaaGreatDoor
open Go Go.Sx
section
abbrev val (c:aX) (v x:Nat):Int:=at' (at' c (v:Int)) (x:Int)
def Af (g:GR) (top:Int) (v:Nat) (a:Int):Prop:=if top = -1 then -1<=a∧a<=((row g v).length:Int) - 1 else 0<=a∧a<=top
instance (g:GR) (top:Int) (v:Nat) (a:Int):Decidable (Af g top v a):=by unfold Af;infer_instance
structure Cf (g:GR) (c:aX) (tops:aL):Prop where
 len:c.length=g.2.length
 row:∀v,v<g.2.length->(at' c (v:Int)).length=tops.length
 ok:∀v,v<g.2.length->∀x,x<tops.length->Af g (at' tops (x:Int)) v (val c v x)
theorem yO {g:GR} (hV:VG g) (c:aX) (tops:aL) (ht:tops.length<=900):(Cf g c tops->gW 1000 g c tops=some true)∧(¬Cf g c tops->gW 1000 g c tops=some false):=by
 have h24:=hV.n24
 have hlen:=hV.len
 unfold gW
 by_cases h1:c.length=g.2.length
 rotate_left
 ·rw[if_pos (by omega)]
  exact⟨fun h=>absurd h.len h1,fun _=>rfl⟩
 rw[if_neg (by omega)]
 have inner:∀(v:Nat) (ag:Int->Option Bool),v<g.2.length->(at' c (v:Int)).length=tops.length->((∀x,x<tops.length->Af g (at' tops (x:Int)) v (val c v x))->bE (dL g c tops v ag) 1000 0=ag ((v:Int)+1))∧(¬(∀x,x<tops.length->Af g (at' tops (x:Int)) v (val c v x))->bE (dL g c tops v ag) 1000 0=some false):=by
  intro v ag hv hr
  have hdeg:(at' g.2 (v:Int)).length<g.2.length:=(hV.node v hv).deg
  have fin:∀(x:Nat) (ag2:Int->Option Bool) (lo hi a:Int),x<tops.length->at' (at' c (v:Int)) (x:Int)=a->jF c v x ag2 (lo,hi)=if lo<=a∧a<=hi then ag2 ((x:Int)+1)else some false:=by
   intro x ag2 lo hi a hx ha
   unfold jF lW
   rw[ha]
   have hw:wI .i64 ((x:Int)+1)=(x:Int)+1:=wr (by omega) (by omega)
   by_cases a1:lo<=a
   ·by_cases a2:a<=hi
    ·simp[a1,a2,hw,show¬a<lo by omega,show¬hi<a by omega]
    ·simp[a1,a2,hw,show¬a<lo by omega,show hi<a by omega]
   ·simp[a1,hw,show a<lo by omega]
  have body:∀(x:Nat) (ag2:Int->Option Bool),x<tops.length->dL g c tops v ag x ag2=if Af g (at' tops (x:Int)) v (val c v x)then ag2 ((x:Int)+1)else some false:=by
   intro x ag2 hx
   unfold dL
   rw[if_pos (by omega),cL (by omega),cL (by omega)]
   unfold Af
   by_cases ht1:at' tops (x:Int) = -1
   ·rw[if_pos ht1,cL (by omega),fin x ag2 _ _ _ hx rfl,wr (by omega) (by omega)]
    simp only[ht1,if_true]
   ·rw[if_neg ht1,fin x ag2 _ _ _ hx rfl]
    simp only[ht1,if_false]
  refine De tops.length _ (fun x ag2 hx hp=> ?_) (fun x ag2 hx hp=> ?_) (fun ag2=> ?_) 1000 (by omega)
  ·rw[body x ag2 hx,if_pos hp]
  ·rw[body x ag2 hx,if_neg hp]
  ·unfold dL lV
   rw[if_neg (by omega),wr (by omega) (by omega)]
 have outer:=De (step:=cT 1000 g c tops) (K:=some true) (bad:=false) g.2.length (fun v=>(at' c (v:Int)).length=tops.length∧∀x,x<tops.length->Af g (at' tops (x:Int)) v (val c v x)) (fun v ag hv hp=> ?_) (fun v ag hv hp=> ?_) (fun ag=> ?_) 1000 (by omega)
 ·exact⟨fun h=>outer.1 fun v hv=>⟨h.row v hv,h.ok v hv⟩,fun h=>outer.2 fun h'=>h ⟨h1,fun v hv=>(h' v hv).1,fun v hv=>(h' v hv).2⟩⟩
 ·unfold cT
  rw[if_pos (by omega),cL (by omega),if_neg (by have:=hp.1;omega)]
  exact(inner v ag hv hp.1).1 hp.2
 ·unfold cT
  rw[if_pos (by omega),cL (by omega)]
  by_cases hr:(at' c (v:Int)).length=tops.length
  ·rw[if_neg (by omega)]
   exact(inner v ag hv hr).2 fun h=>hp ⟨hr,h⟩
  ·rw[if_pos (by omega)]
 ·unfold cT lU
  rw[if_neg (by omega)]

def gJ (g:GR):Nat->Int
 |0=>0
 |k+1=>max (gJ g k) (at' g.1 (k:Int))
theorem Gu {g:GR} (hV:VG g):∀k,k<=g.2.length->0<=gJ g k∧gJ g k<=255
 |0,_=>by simp[gJ]
 |k+1,h=>by
  have h1:=Gu hV k (by omega)
  have h2:0<=at' g.1 (k:Int)∧at' g.1 (k:Int)<=255:=(hV.node k (by omega)).id
  simp only[gJ];omega
abbrev Fa:=Ba
def AD (x:Fa):Prop:=(0<=x.2.2.2.1∧x.2.2.2.1<=100000)∧(0<=x.2.2.2.2.1∧x.2.2.2.2.1<=100000)∧(0<=x.2.2.2.2.2∧x.2.2.2.2.2<=100000)
def lo (g:GR) (x:Fa) (v:Nat):Int:=if x.2.1=2 then 0 else if x.2.1=3 then -1 else x.2.2.1
def hi (g:GR) (x:Fa) (v:Nat):Int:=if x.2.1=2 then 1 else if x.2.1=3 then((row g v).length:Int) - 1 else x.2.2.2.1+x.2.2.2.2.1*(g.2.length:Int)+x.2.2.2.2.2*gJ g g.1.length
structure JG (g:GR) (c:aX) (vars:List Fa):Prop where
 len:c.length=g.2.length
 row:∀v,v<g.2.length->(at' c (v:Int)).length=vars.length
 ok:∀v,v<g.2.length->∀x,x<vars.length->lo g (at' vars (x:Int)) v<=val c v x∧val c v x<=hi g (at' vars (x:Int)) v
theorem Vy {g:GR} {c:aX} {vars:List Fa} {tops:aL} (hl:vars.length=tops.length) (h:∀v x,v<g.2.length->x<tops.length->∀a,(lo g (at' vars (x:Int)) v<=a∧a<=hi g (at' vars (x:Int)) v)↔Af g (at' tops (x:Int)) v a):JG g c vars↔Cf g c tops:=
  ⟨fun k=>⟨k.len,fun v hv=>by rw[k.row v hv,hl],fun v hv x hx=>(h v x hv hx _).1 (k.ok v hv x (by omega))⟩,
   fun k=>⟨k.len,fun v hv=>by rw[k.row v hv,hl],fun v hv x hx=>(h v x hv (by omega) _).2 (k.ok v hv x (by omega))⟩⟩
end
section

def BM (a b:Nat):Nat:=(BitVec.ofInt 32 (a:Int) &&& ~~~ BitVec.ofInt 32 (b:Int)).toNat
theorem KA (a b:Nat):BM a b<4294967296:=(BitVec.ofInt 32 (a:Int) &&& ~~~ BitVec.ofInt 32 (b:Int)).isLt
theorem DR {a i:Nat} (ha:a<4294967296) (h:a.testBit i=true):i<32:=by
 apply Classical.byContradiction
 intro hc
 rw[Nat.testBit_lt_two_pow (Nat.lt_of_lt_of_le ha (Nat.pow_le_pow_right (n:=2) (by omega) (show 32<=i by omega)))]at h
 cases h
theorem DV {a b:Nat} (ha:a<4294967296) (hb:b<4294967296) (i:Nat):(BM a b).testBit i=(a.testBit i && !b.testBit i):=by
 have:=BitVec.getLsbD_and (x:=BitVec.ofInt 32 (a:Int)) (y:= ~~~ BitVec.ofInt 32 (b:Int)) (i:=i)
 rw[BitVec.getLsbD_not]at this
 have h:(BM a b).testBit i=((Hk (a:Int)).testBit i&&(decide (i<32) && !(Hk (b:Int)).testBit i)):=this
 rw[o_ ha,o_ hb]at h
 rw[h]
 cases hai:a.testBit i with
 |false=>simp
 |true=>simp[DR ha hai]
theorem FS (a b:Nat):qB .u32 (a:Int) (b:Int)=(BM a b:Int):=Hg _ (KA a b)
theorem BL {a b:Nat} (ha:a<4294967296) (hb:b<4294967296):cS .u32 (a:Int) (b:Int)=((a &&& b:Nat):Int):=by rw[Fb,o_ ha,o_ hb]
theorem aac {a b:Nat} (ha:a<4294967296) (hb:b<4294967296):IM .u32 (a:Int) (b:Int)=((a ||| b:Nat):Int):=by rw[WJ,o_ ha,o_ hb]
theorem Wh {a b:Nat} (ha:a<4294967296) (hb:b<4294967296):a ||| b<4294967296:=Nat.or_lt_two_pow (n:=32) ha hb
theorem Mg {a b:Nat} (ha:a<4294967296):a &&& b<4294967296:=Nat.lt_of_le_of_lt Nat.and_le_left ha
theorem Mi {a k:Nat} (ha:a<4294967296) (hk:k<32):IM .u32 (a:Int) (zH .u32 1 (k:Int))=((a ||| 2^k:Nat):Int):=by rw[V_ hk,aac ha (EG hk)]
theorem Oa {a k:Nat} (hk:k<32) (ha:a<4294967296):cS .u32 (nU .u32 (a:Int) (k:Int)) 1=0↔a.testBit k=false:=by
 have h1:Hk 1=1:=o_ (a:=1) (by omega)
 rw[Fc hk,Fb,o_ (Nat.lt_of_le_of_lt (Nat.div_le_self _ _) ha),h1,Nat.and_one_is_mod,Nat.testBit_eq_decide_div_mod_eq,decide_eq_false_iff_not]
 omega
theorem NY (p:Nat->Bool) {k:Nat} (hk:k<=32):xN p k<4294967296:=Nat.lt_of_lt_of_le (KJ p k) (Nat.pow_le_pow_right (n:=2) (by omega) hk)
theorem PZ {i:Nat} (h:i<1000000):wI .i64 ((i:Int)+1)=(i:Int)+1:=wr (by omega) (by omega)

def Ev (g:GR) (c:aX) (v i:Nat):Bool:=decide (val c v 0=at' (at' c (gR (row g v) i).1) 0)
def VV (g:GR) (c:aX) (d:Nat):Prop:=VG g∧Cf g c [(g.2.length:Int)]∧∀v,v<g.2.length->d.testBit v=false->∀i,i<(row g v).length->Ev g c v i=false
theorem VG.to {g:GR} (hV:VG g) {v i:Nat} (hv:v<g.2.length) (hi:i<(row g v).length):∃u:Nat,u<g.2.length∧(gR (row g v) i).1=(u:Int):=by
 obtain⟨u,h1,h2,_⟩:=hV.port hv hi
 exact⟨u,h1,h2⟩
theorem Wb (g:GR) (c:aX) {d:Nat} (hd:d<4294967296):(VV g c d->nM 1000 g c (d:Int)=some true)∧(¬VV g c d->nM 1000 g c (d:Int)=some false):=by
 unfold nM
 by_cases hV:VG g
 rotate_left
 ·rw[(BA g).2 hV,bB rfl,if_pos (by simp)]
  exact⟨fun h=>absurd h.1 hV,fun _=>rfl⟩
 rw[(BA g).1 hV,bB rfl,if_neg (by simp)]
 have h24:=hV.n24
 have hlen:=hV.len
 rw[hlen]
 have hcf:=yO hV c [(g.2.length:Int)] (by simp)
 by_cases hC:Cf g c [(g.2.length:Int)]
 rotate_left
 ·rw[hcf.2 hC,bB rfl]
  exact⟨fun h=>absurd h.2.1 hC,fun _=>rfl⟩
 rw[hcf.1 hC,bB rfl]
 unfold pB
 rw[if_neg (by simp)]
 unfold pD
 have hrow:∀u:Nat,u<g.2.length->(at' c (u:Int)).length=1:=fun u hu=>hC.row u hu
 have hcl:=hC.len
 have inner:∀(v:Nat) (ag:Int->Option Bool),v<g.2.length->((∀i,i<(row g v).length->(d.testBit v=false->Ev g c v i=false))->bE (fO g c (d:Int) v ag) 1000 0=ag ((v:Int)+1))∧(¬(∀i,i<(row g v).length->(d.testBit v=false->Ev g c v i=false))->bE (fO g c (d:Int) v ag) 1000 0=some false):=by
  intro v ag hv
  have hdeg:(at' g.2 (v:Int)).length<g.2.length:=(hV.node v hv).deg
  have body:∀(i:Nat) (ag2:Int->Option Bool),i<(row g v).length->fO g c (d:Int) v ag i ag2=if d.testBit v=false∧Ev g c v i=true then some false else ag2 ((i:Int)+1):=by
   intro i ag2 hi
   obtain⟨u,hu,hue⟩:=hV.to hv hi
   have hue':(at' (at' g.2 (v:Int)) (i:Int)).1=(u:Int):=hue
   have hi':i<(at' g.2 (v:Int)).length:=hi
   have h1:=hrow v hv
   have h2:=hrow u hu
   unfold fO pF
   rw[if_pos (by omega),cL (by omega),cL (by omega),hue']
   have hcls:Ev g c v i=decide (at' (at' c (v:Int)) 0=at' (at' c (u:Int)) 0):=by unfold Ev;rw[show gR (row g v) i=at' (at' g.2 (v:Int)) (i:Int)from rfl,hue'];rfl
   by_cases hb:d.testBit v=false
   ·rw[if_pos ((Oa (by omega) hd).2 hb),cL (by omega),cL (by omega),cL (by omega),cL (by omega),PZ (by omega),hcls]
    by_cases hq:at' (at' c (v:Int)) 0=at' (at' c (u:Int)) 0<;>simp[hq,hb]
   ·rw[if_neg (fun h=>hb ((Oa (by omega) hd).1 h)),PZ (by omega)]
    simp[hb]
  refine De (row g v).length _ (fun i ag2 hi hp=> ?_) (fun i ag2 hi hp=> ?_) (fun ag2=> ?_) 1000 (by have:(row g v).length<g.2.length:=hdeg;omega)
  ·rw[body i ag2 hi,if_neg (fun h=>by rw[hp h.1]at h;cases h.2)]
  ·rw[body i ag2 hi,if_pos]
   exact⟨Classical.byContradiction fun h=>hp fun h'=>absurd h' h,by cases hc:Ev g c v i with
    |true=>rfl
    |false=>exact absurd (fun _=>hc) hp⟩
  ·unfold fO pE
   rw[if_neg (by show¬(((row g v).length:Nat):Int)<((row g v).length:Int);omega),wr (by omega) (by omega)]
 have outer:=De (step:=eN 1000 g c (d:Int)) (K:=some true) (bad:=false) g.2.length (fun v=>∀i,i<(row g v).length->(d.testBit v=false->Ev g c v i=false)) (fun v ag hv hp=> ?_) (fun v ag hv hp=> ?_) (fun ag=> ?_) 1000 (by omega)
 ·exact⟨fun h=>outer.1 fun v hv i hi hb=>h.2.2 v hv hb i hi,fun h=>outer.2 fun h'=>h ⟨hV,hC,fun v hv hb i hi=>h' v hv i hi hb⟩⟩
 ·unfold eN
  rw[if_pos (by omega),cL (by omega)]
  exact(inner v ag hv).1 hp
 ·unfold eN
  rw[if_pos (by omega),cL (by omega)]
  exact(inner v ag hv).2 hp
 ·unfold eN pC
  rw[if_neg (by omega)]

end
section

end
section

def ZN (g:GR):Prop:=VG g∧Qj g
theorem Xz (g:GR):(ZN g->yS 1000 g=some true)∧(¬ZN g->yS 1000 g=some false):=by
 unfold yS
 by_cases hV:VG g
 ·refine⟨fun h=> ?_,fun h=> ?_⟩
  ·rw[(CW hV).1 h.2];rfl
  ·rw[(CW hV).2 fun hc=>h ⟨hV,hc⟩];rfl
 ·refine⟨fun h=>absurd h.1 hV,fun _=> ?_⟩
  unfold jT
  rw[(BA g).2 hV];rfl

structure DG (g:GR) (c:aX):Prop where
 v:VG g
 c:Cf g c [(g.2.length:Int),-1]
theorem DG.len {g:GR} {c:aX} (h:DG g c):c.length=g.2.length:=h.c.len
theorem DG.row {g:GR} {c:aX} (h:DG g c) {v:Nat} (hv:v<g.2.length):(at' c (v:Int)).length=2:=h.c.row v hv
theorem DG.val0 {g:GR} {c:aX} (h:DG g c) {v:Nat} (hv:v<g.2.length):0<=at' (at' c (v:Int)) 0∧at' (at' c (v:Int)) 0<=g.2.length:=by
 have h:=h.c.ok v hv 0 (by simp)
 have e:at' [(g.2.length:Int),-1] ((0:Nat):Int)=g.2.length:=rfl
 unfold Af at h
 rw[e,if_neg (by omega)]at h
 exact h
inductive Wk (g:GR) (c:aX) (d:Nat):Nat->Nat->Int->Prop
 |dead {v:Nat} (hv:v<g.2.length) (hd:d.testBit v=true):Wk g c d 0 v (at' (at' c (v:Int)) 0)
 |root (hd:d.testBit 0=false):Wk g c d 0 0 0
 |init {v:Nat} (h0:0<v) (hv:v<g.2.length) (hd:d.testBit v=false):Wk g c d 0 v (g.2.length:Int)
 |step {v i u k:Nat} {m:Int} (h0:0<v) (hv:v<g.2.length) (hd:d.testBit v=false) (hi:i<(row g v).length) (hu:(gR (row g v) i).1=(u:Int)) (h:Wk g c d k u m):Wk g c d (k+1) v (m+1)
theorem Wk.ge {g:GR} {c:aX} {d:Nat} (hG:DG g c) {k v:Nat} {m:Int} (h:Wk g c d k v m):(k:Int)<=m:=by
 induction h with
 |dead hv hd=>have:=hG.val0 hv;omega
 |root hd=>omega
 |init h0 hv hd=>omega
 |step h0 hv hd hi hu h ih=>omega
structure Qd (g:GR) (c:aX) (d:Nat) (l:aL):Prop where
 len:l.length=g.2.length
 ok:∀v,v<g.2.length->∃k,Wk g c d k v (D l v)
def TG (g:GR) (c:aX) (d:Nat) (k:Nat) (l:aL):Prop:=∀j v m,j<=k->Wk g c d j v m->D l v<=m
theorem Wk.lt {g:GR} {c:aX} {d:Nat} (hn:0<g.2.length) {k v:Nat} {m:Int} (h:Wk g c d k v m):v<g.2.length:=by
 cases h with
 |dead hv hd=>exact hv
 |root hd=>exact hn
 |init h0 hv hd=>exact hv
 |step h0 hv hd hi hu h=>exact hv
theorem TG.all {g:GR} {c:aX} {d:Nat} (hG:DG g c) {k:Nat} {l:aL} (hk:g.2.length<=k) (h:TG g c d k l) {j v:Nat} {m:Int} (hw:Wk g c d j v m):D l v<=m:=by
 rcases Nat.lt_or_ge k j with hj|hj
 ·have hge:=hw.ge hG
  cases hw with
  |dead hv hd=>omega
  |root hd=>omega
  |init h0 hv hd=>omega
  |step h0 hv hd hi hu hs=>
   have:=h 0 v _ (Nat.zero_le _) (.init h0 hv hd)
   omega
 ·exact h j v m hj hw

def d0 (g:GR) (c:aX) (d v:Nat):Int:=if d.testBit v=true then at' (at' c (v:Int)) 0 else if v=0 then 0 else(g.2.length:Int)
def start (g:GR) (c:aX) (d:Nat):aL:=(List.range g.2.length).map (d0 g c d)
theorem GK {g:GR} {c:aX} {d v:Nat} (hv:v<g.2.length):D (start g c d) v=d0 g c d v:=by
 have h:v<(start g c d).length:=by simp[start,hv]
 rw[DI h];simp[start]
theorem PT {g:GR} {c:aX} {d:Nat}:Qd g c d (start g c d):=by
 refine⟨by simp[start],fun v hv=> ?_⟩
 rw[GK hv]
 unfold d0
 by_cases hd:d.testBit v=true
 ·rw[if_pos hd];exact⟨0,.dead hv hd⟩
 ·have hd':d.testBit v=false:=by simpa using hd
  rw[if_neg hd]
  by_cases h0:v=0
  ·subst h0;rw[if_pos rfl];exact⟨0,.root hd'⟩
  ·rw[if_neg h0];exact⟨0,.init (by omega) hv hd'⟩
theorem PS {g:GR} {c:aX} {d:Nat} (hn:0<g.2.length):TG g c d 0 (start g c d):=by
 intro j v m hj hw
 obtain rfl:j=0:=by omega
 rw[GK (hw.lt hn)]
 unfold d0
 cases hw with
 |dead hv hd=>rw[if_pos hd];exact Int.le_refl _
 |root hd=>rw[if_neg (by rw[hd];simp),if_pos rfl];exact Int.le_refl _
 |init h0 hv hd=>rw[if_neg (by rw[hd];simp),if_neg (by omega)];exact Int.le_refl _

structure Kb (g:GR) (c:aX) (d:Nat) (l0:aL) (v i:Nat) (l:aL):Prop where
 snd:Qd g c d l
 le:∀w,w<g.2.length->D l w<=D l0 w
 done:∀w j u:Nat,0<w->w<g.2.length->d.testBit w=false->j<(row g w).length->(gR (row g w) j).1=(u:Int)->(w<v∨(w=v∧j<i))->D l w<=D l0 u+1
theorem Qd.zero {g:GR} {c:aX} {d:Nat} (hG:DG g c) {l:aL} (s:Qd g c d l) {v:Nat} (hv:v<g.2.length):0<=D l v:=by
 obtain⟨k,hw⟩:=s.ok v hv
 have:=hw.ge hG
 omega
theorem Qd.root {g:GR} {c:aX} {d:Nat} (hG:DG g c) {l:aL} (s:Qd g c d l) (hd:d.testBit 0=false):D l 0=0:=by
 obtain⟨k,hw⟩:=s.ok 0 (by have:=hG.v.n1;omega)
 generalize hm:D l 0=m at hw
 cases hw with
 |dead hv hd'=>rw[hd]at hd';cases hd'
 |root hd=>rfl
 |init h0 hv hd=>omega
 |step h0=>omega
theorem Kb.relax {g:GR} {c:aX} {d:Nat} (hG:DG g c) {l0 l:aL} {v i u:Nat} (h:Kb g c d l0 v i l) (hv:v<g.2.length) (hd:d.testBit v=false) (hi:i<(row g v).length) (hu:(gR (row g v) i).1=(u:Int)) (hun:u<g.2.length):
  Kb g c d l0 v (i+1) (l.set v (min (D l v) (D l u+1))):=by
 have hl:=h.snd.len
 have hat:∀w,D (l.set v (min (D l v) (D l u+1))) w=if w=v then min (D l v) (D l u+1)else D l w:=fun w=>wK l v w _ (by omega)
 have hle:∀w,w<g.2.length->D (l.set v (min (D l v) (D l u+1))) w<=D l w:=fun w hw=>by
  rw[hat w]
  by_cases e:w=v
  ·subst e;rw[if_pos rfl];omega
  ·rw[if_neg e];exact Int.le_refl _
 refine⟨⟨by simp[hl],fun w hw=> ?_⟩,fun w hw=>Int.le_trans (hle w hw) (h.le w hw),fun w j x h0 hw hdw hj hx hp=> ?_⟩
 ·rw[hat w]
  by_cases e:w=v
  ·subst e
   rw[if_pos rfl]
   obtain⟨k,hk⟩:=h.snd.ok w hw
   obtain⟨k',hk'⟩:=h.snd.ok u hun
   by_cases hm:D l w<=D l u+1
   ·rw[Int.min_eq_left hm];exact⟨k,hk⟩
   ·by_cases h0:w=0
    ·subst h0
     have:=h.snd.root hG hd
     have:=h.snd.zero hG hun
     omega
    ·rw[Int.min_eq_right (by omega)]
     exact⟨k'+1,.step (by omega) hw hd hi hu hk'⟩
  ·rw[if_neg e];exact h.snd.ok w hw
 ·by_cases e:w=v∧j=i
  ·obtain⟨rfl,rfl⟩:=e
   rw[hat w,if_pos rfl]
   rw[hu]at hx
   have hx':u=x:=by omega
   subst hx'
   have:=h.le u hun
   omega
  ·have:=h.done w j x h0 hw hdw hj hx (by omega)
   have:=hle w hw
   omega
theorem Kb.skip {g:GR} {c:aX} {d:Nat} {l0 l:aL} {v i:Nat} (h:Kb g c d l0 v i l) (hd:d.testBit v=true):Kb g c d l0 v (i+1) l:=
 ⟨h.snd,h.le,fun w j x h0 hw hdw hj hx hp=>by
  by_cases e:w=v
  ·subst e;rw[hd]at hdw;cases hdw
  ·exact h.done w j x h0 hw hdw hj hx (by omega)⟩
theorem Kb.next {g:GR} {c:aX} {d:Nat} {l0 l:aL} {v:Nat} (h:Kb g c d l0 v (row g v).length l):Kb g c d l0 (v+1) 0 l:=
 ⟨h.snd,h.le,fun w j x h0 hw hdw hj hx hp=>by
  by_cases e:w=v
  ·subst e;exact h.done w j x h0 hw hdw hj hx (.inr ⟨rfl,hj⟩)
  ·exact h.done w j x h0 hw hdw hj hx (by omega)⟩
theorem Kb.first {g:GR} {c:aX} {d:Nat} {l0:aL} (s:Qd g c d l0) {v:Nat} (hv:v<=1):Kb g c d l0 v 0 l0:=
 ⟨s,fun w hw=>Int.le_refl _,fun w j x h0 hw hdw hj hx hp=>by omega⟩
theorem Kb.last {g:GR} {c:aX} {d:Nat} {l0 l:aL} (hn:0<g.2.length) {k:Nat} (h:Kb g c d l0 g.2.length 0 l) (hc:TG g c d k l0):TG g c d (k+1) l:=by
 intro j v m hj hw
 cases hw with
 |dead hv hd=>exact Int.le_trans (h.le _ hv) (hc 0 _ _ (Nat.zero_le _) (.dead hv hd))
 |root hd=>exact Int.le_trans (h.le _ hn) (hc 0 _ _ (Nat.zero_le _) (.root hd))
 |init h0 hv hd=>exact Int.le_trans (h.le _ hv) (hc 0 _ _ (Nat.zero_le _) (.init h0 hv hd))
 |step h0 hv hd hi hu hs=>
  have h1:=h.done _ _ _ h0 hv hd hi hu (.inl hv)
  have h2:=hc _ _ _ (by omega) hs
  omega
theorem PR {g:GR} {c:aX} {d:Nat} (hG:DG g c) {l0 l:aL} {v i:Nat} (h:Kb g c d l0 v i l) (h0:∀w,w<g.2.length->D l0 w<=1000) {w:Nat} (hw:w<g.2.length):0<=D l w∧D l w<=1000:=
 ⟨h.snd.zero hG hw,Int.le_trans (h.le w hw) (h0 w hw)⟩

theorem SQ {g:GR} {c:aX} {d:Nat} (hd:d<4294967296) (hG:DG g c) {l0:aL} (s:Qd g c d l0) (h0:∀w,w<g.2.length->D l0 w<=1000) (r:Nat) (ag:mI->Option aL) (hr:r<100):
  ∃l,Kb g c d l0 g.2.length 0 l∧kO 1000 g (d:Int) ((r:Int),l0) ag ()=ag ((r:Int)+1,l):=by
 have hV:=hG.v
 have h24:=hV.n24
 unfold kO
 have key2:=u_ (step:=eT 1000 g (d:Int) ((r:Int),l0) ag) (K:=fun x=>ag ((r:Int)+1,x.2)) g.2.length (fun v x=>∃l,x=((v:Int),l)∧Kb g c d l0 v 0 l) (fun v x ag2 hv hI=> ?_) (fun x ag2 hI=> ?_) 1000 ((0:Int),l0) ⟨l0,rfl,.first s (by omega)⟩ (by omega)
 ·obtain⟨x,⟨l,rfl,hl⟩,he⟩:=key2
  exact⟨l,hl,he⟩
 ·obtain⟨l,rfl,hl⟩:=hI
  have hdeg:(at' g.2 (v:Int)).length<g.2.length:=(hV.node v hv).deg
  unfold eT
  simp only
  rw[if_pos (by omega),cL (by omega)]
  have key4:=u_ (step:=iR g (d:Int) ((v:Int),l) ag2) (K:=fun y=>ag2 ((v:Int)+1,y.2)) (row g v).length (fun i y=>∃l,y=((i:Int),l)∧Kb g c d l0 v i l) (fun i y ag3 hi hI=> ?_) (fun y ag3 hI=> ?_) 1000 ((0:Int),l) ⟨l,rfl,hl⟩ (by show(at' g.2 (v:Int)).length<1000;omega)
  ·obtain⟨y,⟨l2,rfl,hl2⟩,he2⟩:=key4
   exact⟨_,⟨l2,rfl,hl2.next⟩,he2⟩
  ·obtain⟨l3,rfl,hl3⟩:=hI
   obtain⟨u,hu,hue⟩:=hV.to hv hi
   have hue':(at' (at' g.2 (v:Int)) (i:Int)).1=(u:Int):=hue
   have hi':i<(at' g.2 (v:Int)).length:=hi
   have hlen:=hl3.snd.len
   have hb:=PR hG hl3 h0 hu
   unfold iR kP
   simp only
   rw[if_pos (by omega),cL (by omega),cL (by omega),PZ (by omega),hue']
   cases hq:d.testBit v with
   |false=>
    rw[if_pos ((Oa (by omega) hd).2 hq),cL (by omega),cL (by omega),cL (by omega)]
    have hu2:0<=at' l3 (u:Int)∧at' l3 (u:Int)<=1000:=hb
    rw[wr (by omega) (by omega),Int.toNat_natCast]
    exact⟨_,⟨_,rfl,hl3.relax hG hv hq hi hue hu⟩,rfl⟩
   |true=>
    rw[if_neg fun h=>by rw[(Oa (by omega) hd).1 h]at hq;cases hq]
    exact⟨_,⟨_,rfl,hl3.skip hq⟩,rfl⟩
  ·obtain⟨l3,rfl,hl3⟩:=hI
   unfold iR nY
   simp only
   rw[if_neg (by show¬(((row g v).length:Nat):Int)<((row g v).length:Int);omega),PZ (by omega)]
 ·obtain⟨l,rfl,hl⟩:=hI
  unfold eT nX
  simp only
  rw[if_neg (by omega),PZ (by omega)]
theorem S_ {g:GR} {c:aX} {d:Nat} (hG:DG g c) {w:Nat} (hw:w<g.2.length):D (start g c d) w<=(g.2.length:Int):=by
 rw[GK hw]
 unfold d0
 have:=hG.val0 hw
 split
 ·omega
 ·split<;>omega
theorem PL {g:GR} {c:aX} {d:Nat} (hd:d<4294967296) (hG:DG g c):∃l,Qd g c d l∧TG g c d g.2.length l∧iP 1000 g (d:Int) (start g c d)=some l:=by
 have hV:=hG.v
 have h24:=hV.n24
 have h1:=hV.n1
 have hlen:=hV.len
 unfold iP
 have key2:=u_ (step:=cX 1000 g (d:Int)) (K:=fun x=>some x.2) g.2.length (fun r x=>∃l,x=((r:Int),l)∧Qd g c d l∧TG g c d r l∧∀w,w<g.2.length->D l w<=1000) (fun r x ag hr hI=> ?_) (fun x ag hI=> ?_) 1000 ((0:Int),start g c d) ⟨_,rfl,PT,PS (by omega),fun w hw=>by have:=S_ hG (d:=d) hw;omega⟩ (by omega)
 ·obtain⟨x,⟨l,rfl,hl,hc,hs⟩,he⟩:=key2
  exact⟨l,hl,hc,he⟩
 ·obtain⟨l,rfl,hl,hc,hs⟩:=hI
  unfold cX
  simp only
  rw[if_pos (by omega)]
  obtain⟨l2,h2,he⟩:=SQ hd hG hl hs r ag (by omega)
  exact⟨_,⟨l2,rfl,h2.snd,h2.last (by omega) hc,fun w hw=>Int.le_trans (h2.le w hw) (hs w hw)⟩,he⟩
 ·obtain⟨l,rfl,hl,hc,hs⟩:=hI
  unfold cX nW
  simp only
  rw[if_neg (by omega)]
theorem Nb {g:GR} {c:aX} {d k:Nat} (hk:k<g.2.length):(start g c d).take k++[d0 g c d k]=(start g c d).take (k+1):=by
 have h:k<(start g c d).length:=by simp[start,hk]
 rw[List.take_succ_eq_append_getElem h]
 congr 2
 simp[start]
theorem Hl {g:GR} {c:aX} {d:Nat} (hd:d<4294967296) (hF:ZN g) (hC:Cf g c [(g.2.length:Int),-1]):∃l,Qd g c d l∧TG g c d g.2.length l∧jS 1000 g c (d:Int)=some l:=by
 have hV:=hF.1
 have hG:DG g c:=⟨hV,hC⟩
 have h24:=hV.n24
 have hlen:=hV.len
 have hcl:=hG.len
 obtain⟨l,h1,h2,h3⟩:=PL hd hG
 refine⟨l,h1,h2,?_⟩
 unfold jS
 rw[(Xz g).1 hF,bB rfl,if_neg (by simp),hlen,(yO hV c _ (by simp)).1 hC,bB rfl]
 unfold nV
 rw[if_neg (by simp),hlen,cL (by omega),<-h3,Int.toNat_natCast]
 have hrep:(List.replicate g.2.length (0:Int)).length=g.2.length:=List.length_replicate
 have key:=dR (step:=iS 1000 g c (d:Int)) (K:=iP 1000 g (d:Int) (start g c d)) (F:=fun v:Nat=>((v:Int),(start g c d).take v++List.replicate (g.2.length - v) (0:Int))) g.2.length (fun v ag hv=> ?_) (fun ag=> ?_) 1000 (by omega)
 ·exact key
 ·have hsl:(start g c d).length=g.2.length:=by simp[start]
  have htl:((start g c d).take v).length=v:=by rw[List.length_take];omega
  have hrow:=hG.row hv
  unfold iS iQ
  simp only
  rw[hlen,Int.toNat_natCast,hrep,if_pos (by omega),cL (by omega),PZ (by omega)]
  have hset:∀y:Int,((start g c d).take v++List.replicate (g.2.length - v) (0:Int)).set v y=(start g c d).take v++y::List.replicate (g.2.length - (v+1)) (0:Int):=fun y=>by
   rw[show g.2.length - v=(g.2.length - (v+1))+1 by omega,List.replicate_succ]
   exact Yb _ _ _ _ _ htl
  have hl:((start g c d).take v++List.replicate (g.2.length - v) (0:Int)).length=g.2.length:=by simp[hsl];omega
  have hfin:∀y:Int,y=d0 g c d v->(start g c d).take v++y::List.replicate (g.2.length - (v+1)) (0:Int)=(start g c d).take (v+1)++List.replicate (g.2.length - (v+1)) (0:Int):=fun y hy=>by
   rw[hy,<-Nb hv];simp
  cases hq:d.testBit v with
  |true=>
   rw[if_pos ((I_ (by omega) hd).2 hq),cL (by omega),cL (by omega),cL (by omega),Int.toNat_natCast,hset,hfin _ (by unfold d0;rw[if_pos hq])]
   rfl
  | false =>
   rw[if_neg fun h=>by rw[(I_ (by omega) hd).1 h]at hq;cases hq]
   by_cases h0:v=0
   ·subst h0
    rw[if_neg (by omega)]
    have:List.take 0 (start g c d)++List.replicate (g.2.length - 0) (0:Int)=List.take (0+1) (start g c d)++List.replicate (g.2.length - (0+1)) 0:=by
     rw[<-hfin 0 (by unfold d0;rw[if_neg (by rw[hq];simp),if_pos rfl])]
     rw[show g.2.length - 0=(g.2.length - (0+1))+1 by omega,List.replicate_succ]
    rw[this];rfl
   ·rw[if_pos (by omega),cL (by omega),Int.toNat_natCast,hset,hfin _ (by unfold d0;rw[if_neg (by rw[hq];simp),if_neg h0])]
    rfl
 ·unfold iS
  simp only
  rw[hlen,Int.toNat_natCast,hrep,if_neg (by omega)]
  congr 1
  have hsl:(start g c d).length=g.2.length:=by simp[start]
  rw[Nat.sub_self,List.replicate_zero,List.append_nil,List.take_of_length_le (by omega)]

def fX:List Fa:=[(ByteArray.mk #[100],1,0,0,1,0),(ByteArray.mk #[112],3,0,0,0,0)]
theorem Yj:zP 1000=some fX:=rfl
theorem Oq:∀x,x<fX.length->AD (at' fX (x:Int)):=by
 intro x hx
 have hx:x<2:=hx
 match x,hx with
 |0,_=>exact⟨by decide,by decide,by decide⟩
 |1,_=>exact⟨by decide,by decide,by decide⟩
theorem ZA {g:GR} (hV:VG g) {c:aX}:JG g c fX↔Cf g c [(g.2.length:Int),-1]:=by
 refine Vy rfl fun v x hv hx a=> ?_
 have hx:x<2:=hx
 match x,hx with
 |0,_=>
  have e1:at' fX ((0:Nat):Int)=(ByteArray.mk #[100],1,0,0,1,0):=rfl
  have e2:at' [(g.2.length:Int),-1] ((0:Nat):Int)=(g.2.length:Int):=rfl
  rw[e1,e2]
  unfold lo hi Af
  simp only[show¬((1:Int)=2) by decide,show¬((1:Int)=3) by decide,if_false]
  rw[if_neg (by omega)]
  omega
 |1,_=>
  have e1:at' fX ((1:Nat):Int)=(ByteArray.mk #[112],3,0,0,0,0):=rfl
  have e2:at' [(g.2.length:Int),-1] ((1:Nat):Int) = -1:=rfl
  rw[e1,e2]
  unfold lo hi Af
  simp
end
section
theorem Jx {α:Type} [Inhabited α] (l:List α) (x:α) {i:Nat} (hi:i<l.length+1):at' (l++[x]) (i:Int)=if i<l.length then at' l (i:Int)else x:=by
 rw[i_,i_]
 by_cases h:i<l.length
 ·rw[if_pos h,List.getD_eq_getElem?_getD,List.getD_eq_getElem?_getD,List.getElem?_append_left h]
 ·have:i=l.length:=by omega
  subst this
  rw[if_neg h];simp
def QF (g:GR) (vars:List Fa) (v:Nat) (l:aL):Prop:=∀x,x<l.length->lo g (at' vars (x:Int)) v<=at' l (x:Int)∧at' l (x:Int)<=hi g (at' vars (x:Int)) v
theorem Ph {g:GR} (hV:VG g) (vars:List Fa) (raw:aL) (ht:vars.length<=900) (hs:∀x,x<vars.length->AD (at' vars (x:Int)) ∧ -100000<=(at' vars (x:Int)).2.2.1∧(at' vars (x:Int)).2.2.1<=(at' vars (x:Int)).2.2.2.1):
  OK (fun c=>JG g c vars) (lA 1000 g vars raw):=by
 have h24:=hV.n24
 have hlen:=hV.len
 have e1:lA 1000 g vars raw=oQ 1000 g vars raw (gJ g g.2.length):=by
  unfold lA
  refine dR (F:=fun k:Nat=>((gJ g k,(k:Int)):eZ)) g.2.length (fun k ag hk=> ?_) (fun ag=> ?_) 1000 (by omega)
  ·unfold sF
   simp only
   rw[if_pos (by omega),cL (by omega),wr (by omega) (by omega)]
   rfl
  ·unfold sF
   simp only
   rw[if_neg (by omega)]
 rw[e1]
 obtain⟨m1,m2⟩:=Gu hV g.2.length (by omega)
 unfold oQ
 have key:=u_ (step:=iB 1000 g vars raw (gJ g g.2.length)) (K:=fun x=>some x.1) g.2.length (fun v x=>x.2=(v:Int)∧x.1.length=v∧∀w,w<v->(at' x.1 (w:Int)).length=vars.length∧QF g vars w (at' x.1 (w:Int))) (fun v x ag hv hI=> ?_) (fun x ag hI=> ?_) 1000 (([]:aX),(0:Int)) ⟨rfl,rfl,fun w hw=>by omega⟩ (by omega)
 ·obtain⟨⟨c,i⟩,⟨_,h2,h3⟩,he⟩:=key
  exact⟨c,he,h2,fun v hv=>(h3 v hv).1,fun v hv x hx=>(h3 v hv).2 x (by rw[(h3 v hv).1];exact hx)⟩
 ·obtain⟨c,i⟩:=x
  obtain⟨rfl,h2,h3⟩:=hI
  simp only at h2 h3
  have hdeg:(at' g.2 (v:Int)).length<g.2.length:=(hV.node v hv).deg
  unfold iB
  simp only
  rw[if_pos (by omega)]
  have key2:=u_ (step:=lQ 1000 g vars raw (gJ g g.2.length) (c,(v:Int)) ag) (K:=fun y=>ag (c++[y.1],(v:Int)+1)) vars.length (fun x y=>y.2=(x:Int)∧y.1.length=x∧QF g vars v y.1) (fun x y ag2 hx hI=> ?_) (fun y ag2 hI=> ?_) 1000 (([]:aL),(0:Int)) ⟨rfl,rfl,fun x hx=>by simp at hx⟩ (by omega)
  ·obtain⟨⟨l,j⟩,⟨_,k2,k3⟩,he⟩:=key2
   refine⟨(c++[l],(v:Int)+1),⟨by simp,by simp[h2],fun w hw=> ?_⟩,he⟩
   simp only
   rw[Jx c l (by omega),h2]
   by_cases e:w<v
   ·rw[if_pos e];exact h3 w e
   ·rw[if_neg e]
    have:w=v:=by omega
    subst this
    exact⟨k2,k3⟩
  ·obtain⟨l,j⟩:=y
   obtain⟨rfl,k2,k3⟩:=hI
   simp only at k2 k3
   obtain⟨⟨s1,s2,s3⟩,s4,s5⟩:=hs x hx
   have fin:∀a b:Int,a=lo g (at' vars (x:Int)) v->b=hi g (at' vars (x:Int)) v -> -100000<=a->a<=b+1->b<=100000000->(a<=b∨(a = -1∧b = -1))->∃y',(y'.2=((x+1:Nat):Int)∧y'.1.length=x+1∧QF g vars v y'.1)∧lP 1000 vars raw (c,(v:Int)) (l,(x:Int)) ag2 (a,b)=ag2 y':=by
    intro a b ha hb q1 q2 q3 q4
    have hab:a<=b:=by omega
    unfold lP
    simp only
    have w1:wI .i64 ((v:Int)*(vars.length:Int))=(v:Int)*(vars.length:Int):=by
     have p1:0<=(v:Int)*(vars.length:Int):=Int.mul_nonneg (by omega) (by omega)
     have p2:(v:Int)*(vars.length:Int)<=24*900:=Int.mul_le_mul (by omega) (by omega) (by omega) (by omega)
     exact wr (by omega) (by omega)
    have p1:0<=(v:Int)*(vars.length:Int):=Int.mul_nonneg (by omega) (by omega)
    have p2:(v:Int)*(vars.length:Int)<=24*900:=Int.mul_le_mul (by omega) (by omega) (by omega) (by omega)
    rw[w1,wr (x:=(v:Int)*(vars.length:Int)+(x:Int)) (by omega) (by omega),Kq _ _ (by omega),bB rfl,wr (x:=b - a) (by omega) (by omega),wr (x:=b - a+1) (by omega) (by omega),sS _ _ (by omega) (by omega),bB rfl]
    have r1:=Int.emod_nonneg (at' raw ((v:Int)*(vars.length:Int)+(x:Int))) (b:=b - a+1) (by omega)
    have r2:=Int.emod_lt_of_pos (at' raw ((v:Int)*(vars.length:Int)+(x:Int))) (b:=b - a+1) (by omega)
    generalize at' raw ((v:Int)*(vars.length:Int)+(x:Int))%(b - a+1)=r at r1 r2
    rw[wr (x:=a+r) (by omega) (by omega),cL (by simp;omega),wr (by omega) (by omega)]
    refine⟨_,⟨by simp,by simp[k2],fun z hz=> ?_⟩,rfl⟩
    simp only[List.length_append,List.length_cons,List.length_nil,k2]at hz
    simp only
    rw[Jx l _ (by omega),k2]
    by_cases e:z<x
    ·rw[if_pos e];exact k3 z (by omega)
    ·rw[if_neg e]
     have:z=x:=by omega
     subst this
     rw[<-ha,<-hb];omega
   unfold lQ
   simp only
   rw[if_pos (by omega),cL (by omega),cL (by omega),cL (by omega),cL (by omega),cL (by omega)]
   by_cases t2:(at' vars (x:Int)).2.1=2
   ·rw[if_pos t2]
    exact fin 0 1 (by unfold lo;rw[if_pos t2]) (by unfold hi;rw[if_pos t2]) (by omega) (by omega) (by omega) (by omega)
   ·rw[if_neg t2]
    by_cases t3:(at' vars (x:Int)).2.1=3
    ·rw[if_pos t3,cL (by omega),wr (by omega) (by omega)]
     exact fin (-1) _ (by unfold lo;rw[if_neg t2,if_pos t3]) (by unfold hi;rw[if_neg t2,if_pos t3]) (by omega) (by omega) (by omega) (by omega)
    ·rw[if_neg t3]
     have q1:0<=(at' vars (x:Int)).2.2.2.2.1*(g.2.length:Int):=Int.mul_nonneg s2.1 (by omega)
     have q2:(at' vars (x:Int)).2.2.2.2.1*(g.2.length:Int)<=100000*24:=Int.mul_le_mul s2.2 (by omega) (by omega) (by omega)
     have q3:0<=(at' vars (x:Int)).2.2.2.2.2*gJ g g.2.length:=Int.mul_nonneg s3.1 m1
     have q4:(at' vars (x:Int)).2.2.2.2.2*gJ g g.2.length<=100000*255:=Int.mul_le_mul s3.2 m2 m1 (by omega)
     rw[wr (x:=(at' vars (x:Int)).2.2.2.2.1*(g.2.length:Int)) (by omega) (by omega),wr (x:=(at' vars (x:Int)).2.2.2.2.2*gJ g g.2.length) (by omega) (by omega),wr (x:=(at' vars (x:Int)).2.2.2.1+(at' vars (x:Int)).2.2.2.2.1*(g.2.length:Int)) (by omega) (by omega),wr (by omega) (by omega)]
     exact fin _ _ (by unfold lo;rw[if_neg t2,if_neg t3]) (by unfold hi;rw[if_neg t2,if_neg t3,hlen]) (by omega) (by omega) (by omega) (by omega)
  ·obtain⟨l,j⟩:=y
   obtain⟨rfl,k2,k3⟩:=hI
   simp only at k2 k3
   unfold lQ vQ
   simp only
   rw[if_neg (by omega),cL (by simp;omega),wr (by omega) (by omega)]
 ·obtain⟨c,i⟩:=x
  obtain⟨rfl,h2,h3⟩:=hI
  unfold iB sE
  simp only
  rw[if_neg (by omega)]
end
end Go.Proofs.YtigggfnchamobaaGreatDoor
end
end
section
namespace Go.Proofs.YtigggfnchamobaaGreatDoor
open Go.Sx
section
def gS (U:Nat) (p0:Int):Option (Int):=
 if p0=(0:Int)then(some (32:Int))else(ck (0<=(27:Int)) (ck ((0<=(nU .u32 (wI .u32 ((cS .u32 p0 (wI .u32 (0 - p0)))*(125613361:Int))) (27:Int))∧(nU .u32 (wI .u32 ((cS .u32 p0 (wI .u32 (0 - p0)))*(125613361:Int))) (27:Int))<((32:Nat):Int))∧List.length rK=32) (some (wI .i64 (at' rK (nU .u32 (wI .u32 ((cS .u32 p0 (wI .u32 (0 - p0)))*(125613361:Int))) (27:Int)))))))
theorem Ny:aO Tryz.prog 139:=Tryz.call139
theorem tM (U:Nat) {p0:Int} (r:Int) (h:gS U p0=some r):
  aT Tryz.prog 139 #[vU (p0)] [Gb 0 (cellsOf CB rK)] (fun x:Unit=>vI (r)) (fun x l=>l) (fun _ l=>l):=by
 refine aT.of Tryz.func139 rfl Tryz.ntmps139 rfl fun c=>?_
 refine sqR<|qkAsg rfl<|dtN<|aI<|sqR<|qkMove rfl<|qkEql rfl<|dtN ?_
 refine eB h rfl (fun h=>?_) fun h=>?_
 ·refine sqR<|qkAsg rfl<|dtN<|aP<|aH ?_
  cases h
  exact lI rfl
 refine cI<|sqR<|qkMove rfl<|qkMove rfl<|aB (Np rfl) rfl<|qkAnd rfl<|aB (zG rfl rfl) rfl<|ckE h fun j2 h=>aB (CQ rfl rfl j2) rfl<|ckE h fun j3 h=>aB (Kl rfl rfl rfl rfl rfl j3.1) rfl<|aB (OV (e:=CB) rfl (aC.fact 0 rfl) rfl rfl rfl rfl j3) rfl<|aB (Md rfl rfl rfl) rfl<|qkAsg rfl<|dtN<|aP ?_
 cases h
 exact lI rfl
end
section
def jQ  (a12:Int):Option (Int):=
 some (a12)
def fZ (a24:eZ) (ag23:gO->Option (Int)) (a29:Int):Option (Int):=
 ag23 ((cS .u32 a24.1 (wI .u32 (a24.1 - (1:Int)))),a29)
def cY (U:Nat) (p0:aL) (a24:eZ) (ag23:gO->Option (Int)):Option (Int):=
 if a24.1≠(0:Int)then(Option.bind (gS U a24.1) fun r31=>(ck (0<=r31∧r31<(List.length p0:Int)) (if(cS .u32 (at' p0 r31) a24.2)=(0:Int)then(ck (0<=r31) (fZ a24 ag23 (IM .u32 a24.2 (zH .u32 (1:Int) r31))))else(fZ a24 ag23 (a24.2)))))else(jQ  (a24.2))
def mY (U:Nat) (p0:aL) (a5:Int) (a15:Unit):Option (Int):=
 bE (cY U p0) U (a5,(0:Int))
def fY (U:Nat) (p0:aL) (p1:Int) (p2:Int) (a5:Int):Option (Int):=
 if p1=(1:Int)then(some (cS .u32 a5 (wI .u32 (0 - a5))))else(if p1=(2:Int)then(mY U p0 a5 (()))else(if p1=(4:Int)then(some (p2))else(some (a5))))
def fF (U:Nat) (p0:aL) (p1:Int) (p2:Int) (p3:Int):Option (Int):=
 if(cS .u32 p3 p2)=(0:Int)then(fY U p0 p1 p2 (cS .u32 p2 (wI .u32 (0 - p2))))else(fY U p0 p1 p2 (cS .u32 p3 p2))
theorem Xf:aO Tryz.prog 83:=Tryz.call83
theorem zY (U:Nat) {p0:aL} {p1:Int} {p2:Int} {p3:Int} (v0:Value) (r:Int) (h:fF U p0 p1 p2 p3=some r):
  aT Tryz.prog 83 #[v0,vI (p1),vU (p2),vU (p3)] [Sl yK v0 p0,Gb 0 (cellsOf CB rK)] (fun x:Unit=>vU (r)) (fun x l=>l) (fun _ l=>l):=by
 refine aT.of Tryz.func83 rfl Tryz.ntmps83 rfl fun c=>?_
 refine jN CM<|sqR<|bQ (Know.one ((aC.fact 0 rfl))) fun ho3=>?_
 refine aF (aJ.box (cs:=[v0]) rfl (by rw[gK ho3])) rfl fun b2=>?_
 refine qkAsg rfl<|dtN<|sqR<|qkMove rfl<|qkMove rfl<|qkAnd rfl<|qkAsg rfl<|dtN<|aI<|xT (A:=Int) (B:=Unit) (fun a5 b6=>⟨48,vV ([]:eC)⟩) (fun a5=>fY U p0 p1 p2 a5=some r) (fun a5 b6=>[(1,vI (p1)),(2,vU (p2)),(3,vU (a5)),(4,vP b2),(8,vU (0:Int))]) (fun a5 b6=>[bM b2 [v0] 94,Ae ([]:eC)]) (fun a5 b6=>[Sl yK v0 p0,Gb 0 (cellsOf CB rK)]) ?_ ?_
 ·refine sqR<|qkMove rfl<|qkEql rfl<|dtN ?_
  refine eB h rfl (fun h=>?_) fun h=>?_
  ·refine aM<|qkMove rfl<|qkMove rfl<|aB (Np rfl) rfl<|qkAnd rfl<|qkAsg rfl<|dtN ?_
   exact nS (cS .u32 p2 (wI .u32 (0 - p2))) () rfl h SF (aQ.refl _) (aD.refl _ _)
  refine cI ?_
  exact nS (cS .u32 p3 p2) () rfl h SF (aQ.refl _) (aD.refl _ _)
 intro a5 b6 h
 refine aI<|sqR<|qkMove rfl<|dtN<|aN<|sqR<|qkEql rfl<|qkAsg rfl<|dtN ?_
 refine eB h rfl (fun h=>?_) fun h=>?_
 ·refine sqR<|qkMove rfl<|qkMove rfl<|aB (Np rfl) rfl<|qkAnd rfl<|qkAsg rfl<|dtN<|aP<|bK<|aH<|gY (i:=1) (Ds:=([]:eC)) (.inl rfl) rfl ?_
  cases h
  exact tV rfl
 refine sqR<|qkEql rfl<|qkAsg rfl<|dtN ?_
 refine eB h rfl (fun h=>?_) fun h=>?_
 ·refine sqR<|aF (aJ.alloc (cs:=[vU (0:Int)]) rfl rfl) rfl fun b9=>eK 0 rfl rfl rfl rfl rfl rfl<|dtN<|aI<|xT (A:=Int) (B:=eC) (fun a12 b13=>⟨48,vV b13⟩) (fun a12=>jQ  a12=some r) (fun a12 b13=>[(9,vP b9)]) (fun a12 b13=>[bM b9 [vU (a12)] 25,Ae b13]) (fun a12 b13=>[Sl yK v0 p0,Gb 0 (cellsOf CB rK)]) ?_ ?_
  ·refine sqR<|qkMove rfl<|xS (A:=Unit) (B:=Nat) (vs:=[vU (a5)]) (fun a15=>mY U p0 a5 a15=some r) (fun a15 b16=>Value.func (.func 138) #[] #[vP b16]) (fun a15 b16=>[bM b16 [vU (a5)] 25,bM b9 [vU (0:Int)] 25,bM b2 [v0] 94,Ae ([]:eC)]) (fun a15 b16=>[Sl yK v0 p0,Gb 0 (cellsOf CB rK)]) (sL.fn (show aO Tryz.prog 115 from Tryz.call115) rfl) Tryz.func115 rfl Tryz.ntmps115 rfl rfl ?_ ?_
   ·refine sqR<|aF (aJ.box (cs:=[vU (a5)]) rfl rfl) rfl fun b37=>qkAsg rfl<|dtN<|sqR<|aB (t_ (cs:=[.tmp 1]) (vs:=[vP b37]) rfl) rfl<|qkAsg rfl<|dtN<|aP ?_
    exact sW () (b37) h (.inl rfl) (CK.r1 rfl (RV.tmp rfl)) rfl (aQ.refl _) (aD.refl _ _)
   intro a15 b16 h
   unfold mY at h
   refine dtN<|aN<|vX (i:=3) (cs:=[vP b16]) ([]:eC) rfl (show aO Tryz.prog 138 from Tryz.call138) rfl Tryz.func138 rfl Tryz.ntmps138 rfl fun NV D18 R19 hR20=>aN<|loopL (cY U p0) (fun a24 b25=>[(0,mG NV),(1,vP b16)]) (fun a24 b25=>[Lp NV R19 LoopState.ready none,bM b16 [vU (a24.1)] 25,bM b9 [vU (a24.2)] 25,bM b2 [v0] 94,Ae (List.cons D18 ([]:eC))]) (a5,(0:Int)) () h SF (aQ.refl _) ?_
   intro k26 a24 b25 h
   refine aI<|sqR<|qkLd 1 rfl<|qkNeq rfl<|dtN ?_
   refine eB h rfl (fun h=>?_) fun h=>?_
   ·refine cI<|aI<|midU (fun a29=>fZ a24 (bE (cY U p0) k26) a29=some r) (fun a29 b30=>[(0,mG NV),(1,vP b16)]) (fun a29 b30=>[Lp NV R19 LoopState.ready none,bM b16 [vU (a24.1)] 25,bM b9 [vU (a29)] 25,bM b2 [v0] 94,Ae (List.cons D18 ([]:eC))]) ?_ ?_
    ·refine aN<|sqR<|qkMove rfl<|qkLd 1 rfl<|bnE h fun r31 w32 h=>aF (aJ.callQ Ny (tM U  r31 w32) rfl (oI [1] rfl)) rfl fun x33=>CG (us:=[vI (r31)]) (i:=0) hR20 rfl rfl rfl rfl rfl rfl<|aM<|qkAsg rfl<|dtN<|EY (i:=0) rfl<|aN<|aI ?_
     refine JR.start [0,0,3,7,0,31,63] 5 mixedOrders (by decide +kernel) ?_
     refine JR.open (by exact rfl) ?_
     refine jkLd 3 rfl<|jkMove rfl<|ckE h fun j34 h=>bG rfl .nil (mJ 0 rfl) (aY rfl rfl (aC.fact 0 rfl) rfl rfl j34) aK.z<|bG rfl .nil (mJ 0 rfl) (bT rfl (aC.fact 0 rfl) rfl rfl rfl DL j34) aK.z<|jkLd 2 rfl<|bO 5 rfl rfl<|qkAnd rfl<|qkEql rfl<|dtN ?_
     refine eB h rfl (fun h=>?_) fun h=>?_
     ·refine JR.start [0,0,2,7,15] 3 mixedOrders (by decide +kernel) ?_
      refine JR.open (by exact rfl) ?_
      refine jkLd 2 rfl<|jkMove rfl<|ckE h fun j36 h=>jqN rfl (Kp rfl rfl j36)<|bO 3 rfl rfl<|aB (TU rfl rfl) rfl<|eK 2 rfl rfl rfl rfl rfl rfl<|dY<|BJ<|yH (i:=0) rfl<|aB (qL rfl) rfl<|dtN<|y_ rfl<|cU<|inT ?_
      exact jV (IM .u32 a24.2 (zH .u32 (1:Int) r31)) () h SF rfl
     refine cU<|BJ<|yH (i:=0) rfl<|aB (qL rfl) rfl<|dtN<|y_ rfl<|cU<|inT ?_
     exact jV (a24.2) () h SF rfl
    intro a29 b30 h
    unfold fZ at h
    refine aM<|qkLd 1 rfl<|qkLd 1 rfl<|aB (pR rfl rfl) rfl<|qkAnd rfl<|eK 1 rfl rfl rfl rfl rfl rfl<|dtN ?_
    exact yF ((cS .u32 a24.1 (wI .u32 (a24.1 - (1:Int)))),a29) () h SF rfl
   refine oY<|dH<|dH<|tS<|IB (i:=0) (.inr rfl) rfl (CK.r0 rfl)<|inT ?_
   exact nS (a24.2) (List.cons D18 ([]:eC)) rfl h SF (aQ.ix [2,4] rfl rfl) (aD.refl _ _)
  intro a12 b13 h
  unfold jQ at h
  refine sqR<|qkLd 0 rfl<|qkAsg rfl<|dtN<|aP<|bK<|aH<|gY (i:=1) (Ds:=(b13)) (.inl rfl) rfl ?_
  cases h
  exact tV rfl
 refine sqR<|qkEql rfl<|qkAsg rfl<|dtN ?_
 refine eB h rfl (fun h=>?_) fun h=>?_
 ·refine sqR<|qkMove rfl<|qkAsg rfl<|dtN<|aP<|bK<|aH<|gY (i:=1) (Ds:=([]:eC)) (.inl rfl) rfl ?_
  cases h
  exact tV rfl
 refine cU<|inT<|sqR<|qkMove rfl<|qkAsg rfl<|dtN<|aP<|gY (i:=1) (Ds:=([]:eC)) (.inl rfl) rfl ?_
 cases h
 exact tV rfl
end
section
def gM  (a7:Unit):Option (Bool):=
 some (true)
def eM (U:Nat) (p0:aL) (p1:Int) (a18:Int) (ag17:(Int)->Option (Bool)):Option (Bool):=
 if a18≠(0:Int)then(Option.bind (gS U a18) fun r22=>(ck (0<=r22∧r22<(List.length p0:Int)) (if(cS .u32 (at' p0 r22) p1)≠(0:Int)then(some (false))else(ag17 (cS .u32 a18 (wI .u32 (a18 - (1:Int))))))))else(gM  (()))
def kC (U:Nat) (p0:aL) (p1:Int) (a10:Unit):Option (Bool):=
 bE (eM U p0 p1) U (p1)
def eW (U:Nat) (p0:aL) (p1:Int):Option (Bool):=
 kC U p0 p1 (())
theorem Uq:aO Tryz.prog 133:=Tryz.call133
theorem wV (U:Nat) {p0:aL} {p1:Int} (v0:Value) (r:Bool) (h:eW U p0 p1=some r):
  aT Tryz.prog 133 #[v0,vU (p1)] [Sl yK v0 p0,Gb 0 (cellsOf CB rK)] (fun x:Unit=>vB (r)) (fun x l=>l) (fun _ l=>l):=by
 refine aT.of Tryz.func133 rfl Tryz.ntmps133 rfl fun c=>?_
 unfold eW at h
 refine jN CM<|sqR<|bQ (Know.one ((aC.fact 0 rfl))) fun ho3=>?_
 refine aF (aJ.box (cs:=[v0]) rfl (by rw[gK ho3])) rfl fun b2=>?_
 refine aF (aJ.box (cs:=[vU (p1)]) rfl rfl) rfl fun b4=>aF (aJ.alloc (cs:=[vB (false)]) rfl rfl) rfl fun b5=>dtN<|aI<|xT (A:=Unit) (B:=eC) (fun a7 b8=>⟨16,vV b8⟩) (fun a7=>gM  a7=some r) (fun a7 b8=>[(4,vP b5)]) (fun a7 b8=>[bM b5 [vB (false)] 4,Ae b8]) (fun a7 b8=>[Sl yK v0 p0,Gb 0 (cellsOf CB rK)]) ?_ ?_
 ·refine sqR<|qkLd 1 rfl<|xS (A:=Unit) (B:=Nat) (vs:=[vU (p1)]) (fun a10=>kC U p0 p1 a10=some r) (fun a10 b11=>Value.func (.func 138) #[] #[vP b11]) (fun a10 b11=>[bM b11 [vU (p1)] 25,bM b5 [vB (false)] 4,bM b4 [vU (p1)] 25,bM b2 [v0] 94,Ae ([]:eC)]) (fun a10 b11=>[Sl yK v0 p0,Gb 0 (cellsOf CB rK)]) (sL.fn (show aO Tryz.prog 115 from Tryz.call115) rfl) Tryz.func115 rfl Tryz.ntmps115 rfl rfl ?_ ?_
  ·refine sqR<|aF (aJ.box (cs:=[vU (p1)]) rfl rfl) rfl fun b27=>qkAsg rfl<|dtN<|sqR<|aB (t_ (cs:=[.tmp 1]) (vs:=[vP b27]) rfl) rfl<|qkAsg rfl<|dtN<|aP ?_
   exact sW () (b27) h (.inl rfl) (CK.r1 rfl (RV.tmp rfl)) rfl (aQ.refl _) (aD.refl _ _)
  intro a10 b11 h
  unfold kC at h
  refine dtN<|aN<|vX (i:=4) (cs:=[vP b11]) ([]:eC) rfl (show aO Tryz.prog 138 from Tryz.call138) rfl Tryz.func138 rfl Tryz.ntmps138 rfl fun ZU D13 R14 hR15=>aN<|loopL (eM U p0 p1) (fun a18 b19=>[(0,mG ZU),(1,vP b11)]) (fun a18 b19=>[Lp ZU R14 LoopState.ready none,bM b11 [vU (a18)] 25,bM b5 [vB (false)] 4,bM b4 [vU (p1)] 25,bM b2 [v0] 94,Ae (List.cons D13 ([]:eC))]) (p1) () h SF (aQ.refl _) ?_
  intro k20 a18 b19 h
  refine aI<|sqR<|qkLd 1 rfl<|qkNeq rfl<|dtN ?_
  refine eB h rfl (fun h=>?_) fun h=>?_
  ·refine cI<|aI<|aN<|sqR<|qkMove rfl<|qkLd 1 rfl<|bnE h fun r22 w23 h=>aF (aJ.callQ Ny (tM U  r22 w23) rfl (oI [1] rfl)) rfl fun x24=>CG (us:=[vI (r22)]) (i:=0) hR15 rfl rfl rfl rfl rfl rfl<|aM<|qkAsg rfl<|dtN<|EY (i:=0) rfl<|aN<|aI ?_
   refine JR.start [0,0,3,7,0,31,63] 5 mixedOrders (by decide +kernel) ?_
   refine JR.open (by exact rfl) ?_
   refine jkLd 4 rfl<|jkMove rfl<|ckE h fun j25 h=>bG rfl .nil (mJ 0 rfl) (aY rfl rfl (aC.fact 0 rfl) rfl rfl j25) aK.z<|bG rfl .nil (mJ 0 rfl) (bT rfl (aC.fact 0 rfl) rfl rfl rfl DL j25) aK.z<|jkLd 3 rfl<|bO 5 rfl rfl<|qkAnd rfl<|qkNeq rfl<|dtN ?_
   refine eB h rfl (fun h=>?_) fun h=>?_
   ·refine sqR<|eK 2 rfl rfl rfl rfl rfl rfl<|dtN<|aP<|bK<|JO (i:=0) rfl<|aB (qL rfl) rfl<|dtN<|Iz rfl<|aP<|bK<|aH<|aH<|bK<|Nn (i:=0) (.inl rfl) rfl (CK.r0 rfl)<|bK<|aH<|gY (i:=5) (Ds:=(List.cons D13 ([]:eC))) (.inl rfl) rfl ?_
    cases h
    exact fS () rfl rfl (AB 2 rfl rfl rfl rfl) .nil aD.nil
   refine cU<|BJ<|yH (i:=0) rfl<|aB (qL rfl) rfl<|dtN<|y_ rfl<|cU<|inT<|aM<|qkLd 1 rfl<|qkLd 1 rfl<|aB (pR rfl rfl) rfl<|qkAnd rfl<|eK 1 rfl rfl rfl rfl rfl rfl<|dtN ?_
   exact yF (cS .u32 a18 (wI .u32 (a18 - (1:Int)))) () h SF rfl
  refine oY<|dH<|dH<|tS<|IB (i:=0) (.inr rfl) rfl (CK.r0 rfl)<|inT ?_
  exact nS () (List.cons D13 ([]:eC)) rfl h SF (aQ.ix [2,5] rfl rfl) (aD.refl _ _)
 intro a7 b8 h
 unfold gM at h
 refine sqR<|eK 0 rfl rfl rfl rfl rfl rfl<|dtN<|aP<|gY (i:=1) (Ds:=(b8)) (.inl rfl) rfl ?_
 cases h
 exact fS () rfl rfl (AB 0 rfl rfl rfl rfl) .nil aD.nil
end
section
def jP (U:Nat) (p0:aL) (p1:Int) (p2:Int) (p3:Int) (a2:Bool):Option (Bool):=
 if a2=true then(some (false))else(if p1=(1:Int)then(some (decide ((cS .u32 p3 (wI .u32 (p3 - (1:Int))))=(0:Int))))else(if p1=(2:Int)then(Option.bind (eW U p0 p3) fun r7=>(some (r7)))else(if p1=(4:Int)then(some (decide (p3=p2)))else(some (true)))))
def fE (U:Nat) (p0:aL) (p1:Int) (p2:Int) (p3:Int):Option (Bool):=
 if p3=(0:Int)then(jP U p0 p1 p2 p3 (true))else(jP U p0 p1 p2 p3 (decide ((qB .u32 p3 p2)≠(0:Int))))
theorem Uk:aO Tryz.prog 112:=Tryz.call112
theorem zX (U:Nat) {p0:aL} {p1:Int} {p2:Int} {p3:Int} (v0:Value) (r:Bool) (h:fE U p0 p1 p2 p3=some r):
  aT Tryz.prog 112 #[v0,vI (p1),vU (p2),vU (p3)] [Sl yK v0 p0,Gb 0 (cellsOf CB rK)] (fun x:Unit=>vB (r)) (fun x l=>l) (fun _ l=>l):=by
 refine aT.of Tryz.func112 rfl Tryz.ntmps112 rfl fun c=>?_
 refine sqR<|qkAsg rfl<|dtN<|aI<|aI<|midU (fun a2=>jP U p0 p1 p2 p3 a2=some r) (fun a2 b3=>[(0,v0),(1,vI (p1)),(2,vU (p2)),(3,vU (p3)),(16,vB (a2))]) (fun a2 b3=>[]) ?_ ?_
 ·refine aM<|qkMove rfl<|qkEql rfl<|qkMove rfl ?_
  refine Cv h rfl (fun _ h=>?_) fun _ h=>?_
  ·refine gdSkip rfl<|gdSkip rfl<|gdSkip rfl<|gdSkip rfl<|qkPkT rfl<|dtN ?_
   exact jV (true) () h SF rfl
  refine gyMove rfl<|gyMove rfl<|aR rfl (CP rfl rfl) rfl<|aR rfl (AF rfl rfl) rfl<|qkPkF rfl<|dtN ?_
  exact jV (decide ((qB .u32 p3 p2)≠(0:Int))) () h SF rfl
 intro a2 b3 h
 refine As h rfl (fun _ h=>?_) fun _ h=>?_
 ·refine sqR<|qkAsg rfl<|dtN<|aP<|aH ?_
  cases h
  exact lI rfl
 refine cI<|aI<|sqR<|qkMove rfl<|dtN<|aN<|sqR<|qkEql rfl<|qkAsg rfl<|dtN ?_
 refine eB h rfl (fun h=>?_) fun h=>?_
 ·refine sqR<|qkMove rfl<|qkMove rfl<|aB (pR rfl rfl) rfl<|qkAnd rfl<|qkEql rfl<|qkAsg rfl<|dtN<|aP<|bK<|aH ?_
  cases h
  exact lI rfl
 refine sqR<|qkEql rfl<|qkAsg rfl<|dtN ?_
 refine eB h rfl (fun h=>?_) fun h=>?_
 ·refine sqR<|qkMove rfl<|qkMove rfl<|bnE h fun r7 w8 h=>aF (aJ.callQ Uq (wV U v0 r7 w8) rfl (oI [0,1] rfl)) rfl fun x9=>qkAsg rfl<|dtN<|aP<|bK<|aH ?_
  cases h
  exact lI rfl
 refine sqR<|qkEql rfl<|qkAsg rfl<|dtN ?_
 refine eB h rfl (fun h=>?_) fun h=>?_
 ·refine sqR<|qkMove rfl<|qkMove rfl<|qkEql rfl<|qkAsg rfl<|dtN<|aP<|bK<|aH ?_
  cases h
  exact lI rfl
 refine cU<|inT<|sqR<|qkAsg rfl<|dtN<|aP ?_
 cases h
 exact lI rfl
end
section
def qE  (a5:aL):Option aL:=
 some (a5)
def qF (a10:mI) (ag9:sR->Option aL) (a15:aL):Option aL:=
 ag9 ((wI .i64 (a10.1+(1:Int))),a15)
def nC (p0:cM) (a10:mI) (ag9:sR->Option aL) (a21:mI) (ag20:sR->Option aL):Option aL:=
 if a21.1<(List.length (at' p0.2 a10.1):Int)then(ck (0<=a21.1∧a21.1<(List.length (at' p0.2 a10.1):Int)) (ck (0<=a10.1∧a10.1<(List.length a21.2:Int)) (ck (0<=((at' (at' p0.2 a10.1) a21.1).1)) (ck (0<=a10.1∧a10.1<(List.length a21.2:Int)) (ag20 ((wI .i64 (a21.1+(1:Int))),(List.set a21.2 (Int.toNat a10.1) (IM .u32 (at' a21.2 a10.1) (zH .u32 (1:Int) ((at' (at' p0.2 a10.1) a21.1).1))))))))))else(qF a10 ag9 (a21.2))
def iU (U:Nat) (p0:cM) (a10:mI) (ag9:sR->Option aL):Option aL:=
 if a10.1<(List.length p0.2:Int)then(ck (0<=a10.1∧a10.1<(List.length p0.2:Int)) (bE (nC p0 a10 ag9) U ((0:Int),a10.2)))else(qE  (a10.2))
def oK (U:Nat) (p0:cM):Option aL:=
 ck (0<=(List.length p0.2:Int)∧(List.length p0.2:Int)<=1099511627) (bE (iU U p0) U ((0:Int),(List.replicate (Int.toNat (List.length p0.2:Int)) (0:Int))))
theorem Xe:aO Tryz.prog 80:=Tryz.call80
theorem EQ (U:Nat) {p0:cM} (v0:Value)  (v1:Value)  (z2:mB) (r:aL) (h:oK U p0=some r):
  aT Tryz.prog 80 #[Value.agg #[v0,v1]] [Sl bD v0 p0.1,S2 aV v1 z2 p0.2] (fun x:Value=>x) (fun x l=>Ar jL x r::l) (fun _ l=>l):=by
 refine aT.of Tryz.func80 rfl Tryz.ntmps80 rfl fun c=>?_
 refine sqR<|aF (aJ.box (cs:=[v0,v1]) rfl rfl) rfl fun b1=>qkAsg rfl<|dtN<|sqR<|qkFld rfl<|qkLd 0 rfl<|aB (iM rfl (aC.fact 1 rfl) rfl) rfl<|ckE h fun j2 h=>aF (nT (e:=jL) (0:Int) rfl rfl rfl rfl j2 rfl rfl rfl) rfl fun u3=>qkAsg rfl<|dtN<|aI<|midU (fun a5=>qE  a5=some r) (fun a5 b6=>[(3,u3)]) (fun a5 b6=>[Ar jL u3 a5]) ?_ ?_
 ·refine sqR<|qkFld rfl<|qkLd 1 rfl<|aB (iM rfl (aC.fact 1 rfl) rfl) rfl<|qkMove rfl<|dtN<|aN<|loopL (iU U p0) (fun a10 b11=>[(3,u3),(13,v1),(14,vI (List.length p0.2:Int)),(15,vI (a10.1))]) (fun a10 b11=>[Ar jL u3 a10.2]) ((0:Int),(List.replicate (Int.toNat (List.length p0.2:Int)) (0:Int))) () h SF (aQ.ix [0] rfl rfl) ?_
  intro k12 a10 b11 h
  refine sqR<|qkLss rfl<|dtN<|aI ?_
  refine eB h rfl (fun h=>?_) fun h=>?_
  ·refine cI<|aI<|midU (fun a15=>qF a10 (bE (iU U p0) k12) a15=some r) (fun a15 b16=>[(3,u3),(13,v1),(14,vI (List.length p0.2:Int)),(15,vI (a10.1))]) (fun a15 b16=>[Ar jL u3 a15]) ?_ ?_
   ·refine aN<|sqR<|qkMove rfl<|ckE h fun j17 h=>aB (cK rfl rfl (aC.fact 1 rfl) rfl rfl j17) rfl<|aB (cJ rfl (aC.fact 1 rfl) rfl rfl j17) rfl<|qkAsg rfl<|qkAsg rfl<|dtN<|sqR<|qkMove rfl<|aB (fR rfl (aC.el (aC.fact 1 rfl) j17.1 j17.2) rfl) rfl<|qkMove rfl<|dtN<|aN<|loopL (nC p0 a10 (bE (iU U p0) k12)) (fun a21 b22=>[(3,u3),(4,vI (a10.1)),(13,v1),(14,vI (List.length p0.2:Int)),(15,vI (a10.1)),(20,(at' z2 a10.1).1),(21,vI (List.length (at' p0.2 a10.1):Int)),(22,vI (a21.1))]) (fun a21 b22=>[Ar jL u3 a21.2]) ((0:Int),a10.2) () h SF (aQ.refl _) ?_
    intro k23 a21 b22 h
    refine sqR<|qkLss rfl<|dtN<|aI ?_
    refine eB h rfl (fun h=>?_) fun h=>?_
    ·refine cI<|aI<|aN<|sqR<|ckE h fun j25 h=>aB (aY rfl rfl (aC.el (aC.fact 1 rfl) j17.1 j17.2) rfl rfl j25) rfl<|aB (fL (cs:=[vI ((at' (at' p0.2 a10.1) a21.1).1),vI ((at' (at' p0.2 a10.1) a21.1).2)]) rfl (aC.el (aC.fact 1 rfl) j17.1 j17.2) bJ rfl rfl rfl rfl j25) rfl<|aF (aJ.alloc (cs:=LN) rfl rfl) rfl fun b26=>bH 0 (vs:=[vI ((at' (at' p0.2 a10.1) a21.1).1),vI ((at' (at' p0.2 a10.1) a21.1).2)]) rfl rfl rfl rfl rfl rfl<|dtN ?_
     refine JR.start [0,0,3,7,0,16,48,127,255,511] 7 mixedOrders (by decide +kernel) ?_
     refine JR.open (by exact rfl) ?_
     refine jkMove rfl<|jkMove rfl<|ckE h fun j27 h=>bG rfl (aQ.cons 1 rfl .nil) .nil (aY rfl rfl (aU (aC.res 0 rfl) nQ) rfl rfl j27) aK.z<|bG rfl (aQ.cons 1 rfl .nil) .nil (bT rfl (aU (aC.res 0 rfl) nQ) rfl rfl rfl DL j27) aK.z<|jkFld rfl<|jkLd 0 rfl<|ckE h fun j28 h=>jqN rfl (Kp rfl rfl j28)<|bO 7 rfl rfl<|aB (TU rfl rfl) rfl<|ckE h fun j29 h=>aB (aY rfl rfl (aU (aC.res 1 rfl) nQ) rfl rfl j29) rfl<|uT 1 (IM .u32 (at' a21.2 a10.1) (zH .u32 (1:Int) ((at' (at' p0.2 a10.1) a21.1).1))) j29 rfl rfl rfl rfl rfl rfl rfl<|dY<|inT<|aM<|qkAdd rfl<|qkMove rfl<|dtN ?_
     exact lS ((wI .i64 (a21.1+(1:Int))),(List.set a21.2 (Int.toNat a10.1) (IM .u32 (at' a21.2 a10.1) (zH .u32 (1:Int) ((at' (at' p0.2 a10.1) a21.1).1))))) () h SF (aQ.ix [1] rfl rfl) (aD.refl _ _)
    refine oY<|dH<|dH<|tS<|inT ?_
    exact jV (a21.2) () h SF rfl
   intro a15 b16 h
   unfold qF at h
   refine aM<|qkAdd rfl<|qkMove rfl<|dtN ?_
   exact yF ((wI .i64 (a10.1+(1:Int))),a15) () h SF rfl
  refine vT ?_
  exact jV (a10.2) () h SF rfl
 intro a5 b6 h
 unfold qE at h
 refine sqR<|qkMove rfl<|qkAsg rfl<|dtN<|aP ?_
 cases h
 exact fS (u3) rfl rfl (RV.tmp rfl) (aQ.refl _) aD.nil
end
end Go.Proofs.YtigggfnchamobaaGreatDoor
end
section
namespace Go.Proofs.YtigggfnchamobaaGreatDoor
open Go Go.Sx
section
structure ON (m k:Nat):Prop where
 bit:m.testBit k=true
 low:∀j,j<k->m.testBit j=false
theorem Ji {m:Nat} (h:m≠0):∃k,ON m k:=by
 obtain⟨i,hi⟩:=Nat.exists_testBit_of_ne_zero h
 obtain⟨k,_,h1,h2⟩:=HW (p:=fun i=>m.testBit i=true) i hi
 exact⟨k,h1,fun j hj=>by simpa using h2 j hj⟩
theorem KY {m k:Nat} (h:ON m k) (i:Nat):(m - 1).testBit i=if i<k then true else if i=k then false else m.testBit i:=by
 have hm:m=2^(k+1)*(m / 2^(k+1))+2^k:=by
  refine Nat.eq_of_testBit_eq fun i=> ?_
  have hlt:2^k<2^(k+1):=Nat.pow_lt_pow_right (by omega) (by omega)
  rw[Nat.testBit_two_pow_mul_add _ hlt,Nat.testBit_two_pow,Nat.testBit_div_two_pow]
  rcases Nat.lt_trichotomy i k with q|q|q
  ·rw[if_pos (by omega),h.low i q,decide_eq_false (by omega)]
  ·subst q;rw[if_pos (by omega),h.bit,decide_eq_true rfl]
  ·rw[if_neg (by omega),show i - (k+1)+(k+1)=i by omega]
 have hp:0<2^k:=Nat.pow_pos (by omega)
 have hlt:2^k - 1<2^(k+1):=by rw[Nat.pow_succ];omega
 have e:m - 1=2^(k+1)*(m / 2^(k+1))+(2^k - 1):=by omega
 rw[e,Nat.testBit_two_pow_mul_add _ hlt,Nat.testBit_two_pow_sub_one,Nat.testBit_div_two_pow]
 rcases Nat.lt_trichotomy i k with q|q|q
 ·rw[if_pos (by omega),if_pos q,decide_eq_true q]
 ·subst q;rw[if_pos (by omega),if_neg (by omega),if_pos rfl,decide_eq_false (by omega)]
 ·rw[if_neg (by omega),if_neg (by omega),if_neg (by omega),show i - (k+1)+(k+1)=i by omega]
theorem abL {m:Nat} (hm:m<4294967296) (h0:m≠0):wI .u32 (0 - (m:Int))=((4294967296 - m:Nat):Int):=by
 rw[Bc]
 have:IntKind.u32.wrap (0 - (m:Int))=(0 - (m:Int))%4294967296:=rfl
 rw[this];omega
theorem Zz {m:Nat} (hm:m<4294967296) (h0:m≠0):wI .u32 ((m:Int) - 1)=((m - 1:Nat):Int):=by
 rw[show(m:Int) - 1=((m - 1:Nat):Int) by omega,Bc,Hg _ (by omega)]
theorem XN {m k:Nat} (hm:m<4294967296) (h:ON m k):cS .u32 (m:Int) (wI .u32 (0 - (m:Int)))=((2^k:Nat):Int):=by
 have h0:m≠0:=fun e=>by have:=h.bit;rw[e]at this;simp at this
 have hk:k<32:=DR hm h.bit
 rw[abL hm h0,BL hm (by omega)]
 congr 1
 refine Nat.eq_of_testBit_eq fun i=> ?_
 rw[Nat.testBit_and,show 4294967296 - m=2^32 - ((m - 1)+1) by omega,Nat.testBit_two_pow_sub_succ (by omega),Nat.testBit_two_pow,KY h]
 rcases Nat.lt_trichotomy i k with q|q|q
 ·rw[h.low i q,decide_eq_false (show¬k=i by omega)];rfl
 ·subst q;rw[h.bit,if_neg (by omega),if_pos rfl,decide_eq_true hk,decide_eq_true rfl];rfl
 ·rw[if_neg (by omega),if_neg (by omega),decide_eq_false (show¬k=i by omega)]
  cases m.testBit i<;>simp
theorem Mo {m k:Nat} (hm:m<4294967296) (h:ON m k):∃m':Nat,cS .u32 (m:Int) (wI .u32 ((m:Int) - 1))=(m':Int)∧m'<4294967296∧∀i,m'.testBit i=(m.testBit i&&decide (i≠k)):=by
 have h0:m≠0:=fun e=>by have:=h.bit;rw[e]at this;simp at this
 refine⟨m &&& (m - 1),by rw[Zz hm h0,BL hm (by omega)],Mg hm,fun i=> ?_⟩
 rw[Nat.testBit_and,KY h]
 rcases Nat.lt_trichotomy i k with q|q|q
 ·rw[h.low i q];rfl
 ·subst q;simp
 ·rw[if_neg (by omega),if_neg (by omega)]
  have:decide (i≠k)=true:=decide_eq_true (by omega)
  rw[this];cases m.testBit i<;>rfl
theorem Yh:∀k:Fin 32,((0:Int)<=nU .u32 (wI .u32 ((((2^k.val:Nat):Int))*125613361)) 27∧nU .u32 (wI .u32 ((((2^k.val:Nat):Int))*125613361)) 27<((32:Nat):Int))∧wI .i64 (at' rK (nU .u32 (wI .u32 ((((2^k.val:Nat):Int))*125613361)) 27))=(k.val:Int):=by decide +kernel
theorem Wl (f:Nat) {m k:Nat} (hm:m<4294967296) (h:ON m k):gS f (m:Int)=some (k:Int):=by
 have h0:m≠0:=fun e=>by have:=h.bit;rw[e]at this;simp at this
 obtain⟨h1,h2⟩:=Yh ⟨k,DR hm h.bit⟩
 unfold gS
 rw[if_neg (by omega),cL (by decide),XN hm h,cL ⟨h1,rfl⟩,h2]

structure JX (g:GR) (r:aL):Prop where
 len:r.length=g.2.length
 at':∀v:Nat,v<g.2.length->∃m:Nat,Go.Sx.at' r (v:Int)=(m:Int)∧m<4294967296∧∀u,m.testBit u=true↔Hi g v u
theorem XT {g:GR} (hV:VG g):∃r,oK 1000 g=some r∧JX g r:=by
 have h24:=hV.n24
 unfold oK
 rw[cL (by omega)]
 obtain⟨⟨a,r⟩,⟨ha,hl,hr⟩,he⟩:=u_ (step:=iU 1000 g) (K:=fun z=>some z.2) g.2.length
  (fun k z=>z.1=(k:Int)∧z.2.length=g.2.length∧∀v:Nat,v<g.2.length->∃m:Nat,Go.Sx.at' z.2 (v:Int)=(m:Int)∧m<4294967296∧∀u,m.testBit u=true↔v<k∧Hi g v u) (fun k z ag hk hI=>by
  obtain⟨a,r⟩:=z
  obtain⟨ha,hl,hr⟩:=hI
  dsimp only at ha hl hr
  subst ha
  have hdeg:=(hV.node k hk).deg
  obtain⟨⟨b,r'⟩,⟨hb,hl',hr'⟩,he⟩:=u_ (step:=nC g ((k:Int),r) ag) (K:=fun z=>ag (((k+1:Nat):Int),z.2)) (row g k).length
   (fun j z=>z.1=(j:Int)∧z.2.length=g.2.length∧∀v:Nat,v<g.2.length->∃m:Nat,Go.Sx.at' z.2 (v:Int)=(m:Int)∧m<4294967296∧∀u,m.testBit u=true↔(v<k∧Hi g v u)∨(v=k∧∃i,i<j∧(gR (row g k) i).1=(u:Int))) (fun j z ag2 hj hJ=>by
   obtain⟨b,q⟩:=z
   obtain⟨hb,hl',hr'⟩:=hJ
   dsimp only at hb hl' hr'
   subst hb
   obtain⟨w,hw,hwe,hadj⟩:=hV.port hk hj
   obtain⟨m,hm,hm32,hbits⟩:=hr' k hk
   refine⟨(((j+1:Nat):Int),q.set k (((m ||| 2^w:Nat)):Int)),⟨rfl,by simpa using hl',fun v hv=> ?_⟩,?_⟩
   ·show∃m',Go.Sx.at' (q.set k _) (v:Int)=_∧_
    rw[wK q k v _ (by omega)]
    by_cases e:v=k
    ·subst e
     refine⟨_,if_pos rfl,Wh hm32 (EG (by omega)),fun u=> ?_⟩
     rw[Nat.testBit_or,Nat.testBit_two_pow,Bool.or_eq_true,hbits u,decide_eq_true_eq]
     constructor
     ·rintro((h|⟨_,i,hi,h⟩)|h)
      ·exact .inl h
      ·exact .inr ⟨rfl,i,by omega,h⟩
      ·exact .inr ⟨rfl,j,by omega,by rw[hwe,h]⟩
     ·rintro(h|⟨_,i,hi,h⟩)
      ·exact .inl (.inl h)
      ·by_cases hij:i=j
       ·subst hij;right;rw[hwe]at h;omega
       ·exact .inl (.inr ⟨rfl,i,by omega,h⟩)
    ·obtain⟨m',a1,a2,a3⟩:=hr' v hv
     refine⟨m',by rw[if_neg e];exact a1,a2,fun u=> ?_⟩
     rw[a3 u]
     constructor
     ·rintro(h|⟨h,_⟩)
      ·exact .inl h
      ·exact absurd h e
     ·rintro(h|⟨h,_⟩)
      ·exact .inl h
      ·exact absurd h e
   ·unfold nC
    dsimp only
    rw[if_pos (show(j:Int)<((row g k).length:Int) by omega),cL (show 0<=(j:Int)∧(j:Int)<((row g k).length:Int) by omega),cL (by omega),show Go.Sx.at' (Go.Sx.at' g.2 (k:Int)) (j:Int)=gR (row g k) j from rfl,hwe,cL (by omega),cL (by omega),hm,Mi hm32 (by omega),dU (by omega),Int.toNat_natCast]) (fun z ag2 hJ=>by
   obtain⟨b,q⟩:=z
   obtain⟨hb,hl',hr'⟩:=hJ
   dsimp only at hb hl' hr'
   subst hb
   unfold nC qF
   dsimp only
   rw[if_neg (show¬((row g k).length:Int)<((row g k).length:Int) by omega),dU (by omega)]) 1000 ((0:Int),r) ⟨rfl,hl,fun v hv=>by
    obtain⟨m,a1,a2,a3⟩:=hr v hv
    refine⟨m,a1,a2,fun u=> ?_⟩
    rw[a3 u]
    constructor
    ·exact fun h=> .inl h
    ·rintro(h|⟨_,i,hi,_⟩)
     ·exact h
     ·omega⟩ (by omega)
  dsimp only at hb hl' hr'
  refine⟨(((k+1:Nat):Int),r'),⟨rfl,hl',fun v hv=> ?_⟩,?_⟩
  ·obtain⟨m,a1,a2,a3⟩:=hr' v hv
   refine⟨m,a1,a2,fun u=> ?_⟩
   rw[a3 u]
   constructor
   ·rintro(⟨h1,h2⟩|⟨rfl,i,hi,h⟩)
    ·exact⟨by omega,h2⟩
    ·exact⟨by omega,i,hi,h⟩
   ·rintro⟨h1,h2⟩
    by_cases e:v=k
    ·subst e
     obtain⟨i,hi,h⟩:=h2
     exact .inr ⟨rfl,i,hi,h⟩
    ·exact .inl ⟨by omega,h2⟩
  ·unfold iU
   dsimp only
   rw[if_pos (by omega),cL (by omega)]
   exact he) (fun z ag hI=>by
  obtain⟨a,r⟩:=z
  obtain⟨ha,hl,hr⟩:=hI
  dsimp only at ha
  subst ha
  unfold iU qE
  dsimp only
  rw[if_neg (by omega)]) 1000 ((0:Int),List.replicate (Int.toNat (g.2.length:Int)) (0:Int)) ⟨rfl,by simp,fun v hv=>⟨0,by
   rw[Int.toNat_natCast,kD (by simpa using hv)];simp,by omega,fun u=>by simp⟩⟩ (by omega)
 refine⟨r,he,hl,fun v hv=> ?_⟩
 obtain⟨m,a1,a2,a3⟩:=hr v hv
 exact⟨m,a1,a2,fun u=>by rw[a3 u];exact⟨fun h=>h.2,fun h=>⟨hv,h⟩⟩⟩
end
section
def OI (g:GR) (m:Nat):Prop:=∀i,m.testBit i=true->i<g.2.length
theorem OI.lt {g:GR} (hV:VG g) {m:Nat} (h:OI g m):m<16777216:=by
 have h24:=hV.n24
 refine Nat.lt_of_lt_of_le (Nat.lt_pow_two_of_testBit (n:=24) m fun i hi=> ?_) (Nat.le_refl _)
 cases hb:m.testBit i with
 |false=>rfl
 |true=>have:=h i hb;omega
theorem YY {m:Nat} (h:∀i,i<32->m.testBit i=false) (hm:m<4294967296):m=0:=by
 refine Nat.eq_of_testBit_eq fun i=> ?_
 rw[Nat.zero_testBit]
 rcases Nat.lt_or_ge i 32 with q|q
 ·exact h i q
 ·cases hb:m.testBit i with
  |false=>rfl
  |true=>have:=DR hm hb;omega
theorem ME {g:GR} (hV:VG g) {r:aL} (hN:JX g r) {t:Nat} (ht:OI g t) (hi:∀v u,t.testBit v=true->t.testBit u=true->¬Hi g v u) (F:Nat):∀(d s fuel rest:Nat),s+d=32->rest<4294967296->(∀i,i<s->rest.testBit i=false)->(∀i,rest.testBit i=true->t.testBit i=true)->d<fuel->
  bE (eM F r (t:Int)) fuel (rest:Int)=some true:=by
 have h24:=hV.n24
 have ht32:t<4294967296:=by have:=ht.lt hV;omega
 intro d
 induction d using Nat.strongRecOn with
 | _ d ih =>
  intro s fuel rest hs hr hlow hsub hf
  obtain⟨fuel,rfl⟩:∃f,fuel=f+1:=⟨fuel - 1,by omega⟩
  show eM F r (t:Int) (rest:Int) (bE _ fuel)=_
  unfold eM gM
  by_cases h0:rest=0
  ·rw[if_neg (by omega)]
  obtain⟨k,hk⟩:=Ji h0
  have hkn:=ht k (hsub k hk.bit)
  have hks:s<=k:=by
   rcases Nat.lt_or_ge k s with q|q
   ·have:=hk.bit;rw[hlow k q]at this;cases this
   ·exact q
  obtain⟨m,hm,hm32,hbits⟩:=hN.at' k hkn
  rw[if_pos (by omega),bB (Wl F hr hk),cL (by have:=hN.len;omega),hm,BL hm32 ht32]
  have hz:m &&& t=0:=by
   refine YY (fun i _=> ?_) (Mg hm32)
   rw[Nat.testBit_and]
   cases h1:m.testBit i with
   |false=>rfl
   |true=>
    cases h2:t.testBit i with
    |false=>rfl
    |true=>exact absurd ((hbits i).1 h1) (hi k i (hsub k hk.bit) h2)
  rw[hz,if_neg (by simp)]
  obtain⟨m',e1,e2,e3⟩:=Mo hr hk
  rw[e1]
  have hk32:k<32:=by omega
  refine ih (32 - (k+1)) (by omega) (k+1) fuel m' (by omega) e2 (fun i hi=> ?_) (fun i hi=> ?_) (by omega)
  ·rw[e3]
   by_cases e:i=k
   ·simp[e]
   ·rw[hk.low i (by omega)];rfl
  ·rw[e3,Bool.and_eq_true]at hi
   exact hsub i hi.1
theorem EM {g:GR} (hV:VG g) {r:aL} (hN:JX g r) {t:Nat} (ht:OI g t) (hi:∀v u,t.testBit v=true->t.testBit u=true->¬Hi g v u):eW 1000 r (t:Int)=some true:=
 ME hV hN ht hi 1000 32 0 1000 t (by omega) (by have:=ht.lt hV;omega) (fun i hi=>by omega) (fun i h=>h) (by omega)
theorem KE {g:GR} (hV:VG g) {r:aL} (hN:JX g r) {W:Nat} (hW:OI g W) (F:Nat):∀(d s fuel rest t:Nat),s+d=32->rest<4294967296->t<4294967296->(∀i,i<s->rest.testBit i=false)->(∀i,rest.testBit i=true->W.testBit i=true)->(∀i,t.testBit i=true->W.testBit i=true)->(∀v u,t.testBit v=true->t.testBit u=true->¬Hi g v u)->(W≠0->t≠0∨rest=W)->d<fuel->
  ∃t':Nat,bE (cY F r) fuel ((rest:Int),(t:Int))=some (t':Int)∧t'<4294967296∧(∀i,t'.testBit i=true->W.testBit i=true)∧(∀v u,t'.testBit v=true->t'.testBit u=true->¬Hi g v u)∧(W≠0->t'≠0):=by
 have h24:=hV.n24
 intro d
 induction d using Nat.strongRecOn with
 | _ d ih =>
  intro s fuel rest t hs hr ht32 hlow hsub htW hind hne hf
  obtain⟨fuel,rfl⟩:∃f,fuel=f+1:=⟨fuel - 1,by omega⟩
  have hun:bE (cY F r) (fuel+1) ((rest:Int),(t:Int))=cY F r ((rest:Int),(t:Int)) (bE (cY F r) fuel):=rfl
  rw[hun]
  unfold cY jQ fZ
  dsimp only
  by_cases h0:rest=0
  ·rw[if_neg (by omega)]
   refine⟨t,rfl,ht32,htW,hind,fun hw=> ?_⟩
   rcases hne hw with h|h
   ·exact h
   ·exact absurd (h.symm.trans h0) hw
  obtain⟨k,hk⟩:=Ji h0
  have hkW:=hsub k hk.bit
  have hkn:=hW k hkW
  have hks:s<=k:=by
   rcases Nat.lt_or_ge k s with q|q
   ·have:=hk.bit;rw[hlow k q]at this;cases this
   ·exact q
  obtain⟨m,hm,hm32,hbits⟩:=hN.at' k hkn
  obtain⟨m',e1,e2,e3⟩:=Mo hr hk
  have hk32:k<32:=by omega
  have low':∀i,i<k+1->m'.testBit i=false:=fun i hi=>by
   rw[e3]
   by_cases e:i=k
   ·simp[e]
   ·rw[hk.low i (by omega)];rfl
  have sub':∀i,m'.testBit i=true->W.testBit i=true:=fun i hi=>by
   rw[e3,Bool.and_eq_true]at hi
   exact hsub i hi.1
  rw[if_pos (by omega),bB (Wl F hr hk),cL (by have:=hN.len;omega),hm,BL hm32 ht32,e1]
  by_cases hz:m &&& t=0
  ·rw[hz,if_pos (by rfl),cL (by omega),Mi ht32 hk32]
   have hkt:(t ||| 2^k).testBit k=true:=by rw[Nat.testBit_or,Nat.testBit_two_pow];simp
   have nadj:∀u,t.testBit u=true->¬Hi g k u:=fun u hu ha=>by
    have:=congrArg (fun q=>q.testBit u) hz
    simp only[Nat.testBit_and,Nat.zero_testBit,(hbits u).2 ha,hu]at this
    cases this
   refine ih (32 - (k+1)) (by omega) (k+1) fuel m' (t ||| 2^k) (by omega) e2 (Wh ht32 (EG hk32)) low' sub' (fun i hi=> ?_) (fun v u hv hu=> ?_) (fun _=> .inl fun e=>by rw[e]at hkt;simp at hkt) (by omega)
   ·rw[Nat.testBit_or,Nat.testBit_two_pow,Bool.or_eq_true,decide_eq_true_eq]at hi
    rcases hi with hi|rfl
    ·exact htW i hi
    ·exact hkW
   ·rw[Nat.testBit_or,Nat.testBit_two_pow,Bool.or_eq_true,decide_eq_true_eq]at hv hu
    rcases hv with hv|rfl
    ·rcases hu with hu|rfl
     ·exact hind v u hv hu
     ·exact fun ha=>nadj v hv (hV.back (hW v (htW v hv)) ha)
    ·rcases hu with hu|rfl
     ·exact nadj u hu
     ·rintro⟨i,hi,he⟩
      exact((hV.node k hkn).links i hi).2.1 he
  ·rw[if_neg (by omega)]
   refine ih (32 - (k+1)) (by omega) (k+1) fuel m' t (by omega) e2 ht32 low' sub' htW hind (fun _=> .inl fun e=> ?_) (by omega)
   rw[e]at hz
   exact hz (Nat.and_zero m)
theorem MS {g:GR} (hV:VG g) {r:aL} (hN:JX g r) {kind:Int} (hk1:1<=kind) (hk4:kind<=4) {e w:Nat} (he:OI g e) (hw:w<4294967296):
  ∃t:Nat,fF 1000 r kind (e:Int) (w:Int)=some (t:Int)∧(∀i,t.testBit i=true->e.testBit i=true)∧(e≠0->t≠0∧fE 1000 r kind (e:Int) (t:Int)=some true∧(kind=2->∀v u,t.testBit v=true->t.testBit u=true->¬Hi g v u)∧(kind=4->t=e)):=by
 have he24:=he.lt hV
 have he32:e<4294967296:=by omega
 -- the wish
 obtain⟨W,hW,hW32,hWe,hW0,hWm⟩:∃W:Nat,fF 1000 r kind (e:Int) (w:Int)=fY 1000 r kind (e:Int) (W:Int)∧W<4294967296∧(∀i,W.testBit i=true->e.testBit i=true)∧(e≠0->W≠0)∧(e=0->W=0):=by
  unfold fF
  rw[BL hw he32]
  by_cases h0:w &&& e=0
  ·rw[h0,if_pos (show((0:Nat):Int)=0 from rfl)]
   by_cases hee:e=0
   ·refine⟨0,by rw[hee];rfl,by omega,fun i h=>by simp at h,fun h=>absurd hee h,fun _=>rfl⟩
   ·obtain⟨k,hk⟩:=Ji hee
    have hk32:=DR he32 hk.bit
    refine⟨2^k,by rw[XN he32 hk],EG hk32,fun i h=> ?_,fun _=>Nat.ne_of_gt (Nat.pow_pos (by omega)),fun h=>absurd h hee⟩
    rw[Nat.testBit_two_pow,decide_eq_true_eq]at h
    rw[<-h];exact hk.bit
  ·rw[if_neg (by omega)]
   refine⟨w &&& e,rfl,Mg hw,fun i h=> ?_,fun _=>h0,fun h=>by rw[h];exact Nat.and_zero w⟩
   rw[Nat.testBit_and,Bool.and_eq_true]at h
   exact h.2
 have hWG:OI g W:=fun i hi=>he i (hWe i hi)
 have permits:∀(t:Nat),t≠0->t<4294967296->(∀i,t.testBit i=true->e.testBit i=true)->∀b,(if kind=1 then some (decide ((cS .u32 (t:Int) (wI .u32 ((t:Int) - 1)))=0))else if kind=2 then(Option.bind (eW 1000 r (t:Int)) fun r7=>some r7)else if kind=4 then some (decide ((t:Int)=(e:Int)))else some true)=some b->fE 1000 r kind (e:Int) (t:Int)=some b:=by
  intro t h0 h32 hsub b hb
  unfold fE jP
  have hd:BM t e=0:=by
   refine Nat.eq_of_testBit_eq fun i=> ?_
   rw[DV h32 he32,Nat.zero_testBit]
   cases h1:t.testBit i with
   |false=>rfl
   |true=>rw[hsub i h1];rfl
  rw[if_neg (by omega),FS,hd,if_neg (by simp)]
  exact hb
 rw[hW]
 unfold fY
 by_cases k1:kind=1
 ·rw[if_pos k1]
  by_cases hw0:W=0
  ·refine⟨0,by rw[hw0];rfl,fun i h=>by simp at h,fun h=>absurd hw0 (hW0 h)⟩
  ·obtain⟨k,hk⟩:=Ji hw0
   have hk32:=DR hW32 hk.bit
   have hL:ON (2^k) k:=⟨by rw[Nat.testBit_two_pow];simp,fun j hj=>by rw[Nat.testBit_two_pow];exact decide_eq_false (by omega)⟩
   refine⟨2^k,by rw[XN hW32 hk],fun i h=> ?_,fun hee=>⟨Nat.ne_of_gt (Nat.pow_pos (by omega)),?_,fun h=>by omega,fun h=>by omega⟩⟩
   ·rw[Nat.testBit_two_pow,decide_eq_true_eq]at h
    rw[<-h];exact hWe k hk.bit
   ·refine permits _ (Nat.ne_of_gt (Nat.pow_pos (by omega))) (EG hk32) (fun i h=> ?_) true ?_
    ·rw[Nat.testBit_two_pow,decide_eq_true_eq]at h
     rw[<-h];exact hWe k hk.bit
    ·obtain⟨m',e1,e2,e3⟩:=Mo (EG hk32) hL
     rw[if_pos k1,e1]
     have:m'=0:=Nat.eq_of_testBit_eq fun i=>by
      rw[e3,Nat.testBit_two_pow,Nat.zero_testBit]
      by_cases q:k=i
      ·simp[q]
      ·simp[q]
     rw[this];rfl
 rw[if_neg k1]
 by_cases k2:kind=2
 ·rw[if_pos k2]
  obtain⟨t,h1,h2,h3,h4,h5⟩:=KE hV hN hWG 1000 32 0 1000 W 0 (by omega) hW32 (by omega) (fun i hi=>by omega) (fun i h=>h) (fun i h=>by simp at h) (fun v u h=>by simp at h) (fun _=> .inr rfl) (by omega)
  refine⟨t,h1,fun i h=>hWe i (h3 i h),fun hee=>⟨h5 (hW0 hee),?_,fun _=>h4,fun h=>by omega⟩⟩
  refine permits t (h5 (hW0 hee)) h2 (fun i h=>hWe i (h3 i h)) true ?_
  rw[if_neg k1,if_pos k2,bB (EM hV hN (fun i h=>hWG i (h3 i h)) h4)]
 rw[if_neg k2]
 by_cases k4:kind=4
 ·rw[if_pos k4]
  refine⟨e,rfl,fun i h=>h,fun hee=>⟨hee,permits e hee he32 (fun i h=>h) true ?_,fun h=>absurd h k2,fun _=>rfl⟩⟩
  rw[if_neg k1,if_neg k2,if_pos k4];simp
 ·rw[if_neg k4]
  refine⟨W,rfl,hWe,fun hee=>⟨hW0 hee,permits W (hW0 hee) hW32 hWe true ?_,fun h=>absurd h k2,fun h=>absurd h k4⟩⟩
  rw[if_neg k1,if_neg k2,if_neg k4]
end
end Go.Proofs.YtigggfnchamobaaGreatDoor
end
section
namespace Go.Proofs.YtigggfnchamobaaGreatDoor
open Go.Sx
section
def uO  (a4:Int):Option (Int):=
 some (a4)
def rH (p0:aL) (a9:eZ) (ag8:gO->Option (Int)):Option (Int):=
 if a9.2<(List.length p0:Int)then(ck (0<=a9.2∧a9.2<(List.length p0:Int)) (ag8 ((max a9.1 (at' p0 a9.2)),(wI .i64 (a9.2+(1:Int))))))else(uO  (a9.1))
def wF (U:Nat) (p0:aL):Option (Int):=
 if(List.length p0:Int)<(1:Int)then(none)else(ck (0<=(0:Int)∧(0:Int)<(List.length p0:Int)) (bE (rH p0) U ((at' p0 (0:Int)),(1:Int))))
theorem Uv:aO Tryz.prog 141:=Tryz.call141
theorem JA (U:Nat) {p0:aL} (v0:Value) (r:Int) (h:wF U p0=some r):
  aT Tryz.prog 141 #[v0] [Sl bD v0 p0] (fun x:Unit=>vI (r)) (fun x l=>l) (fun _ l=>l):=by
 refine aT.of Tryz.func141 rfl Tryz.ntmps141 rfl fun c=>?_
 refine sqR<|qkAsg rfl<|dtN<|aI<|sqR<|qkMove rfl<|qkLen (aC.fact 0 rfl) rfl<|qkLss rfl<|dtN ?_
 refine eB h rfl (fun h=>?_) fun h=>?_
 ·refine aM ?_
  cases h
 refine cI<|sqR<|qkMove rfl<|ckE h fun j2 h=>aB (aY rfl rfl (aC.fact 0 rfl) rfl rfl j2) rfl<|aB (bT rfl (aC.fact 0 rfl) rfl rfl rfl dO j2) rfl<|qkAsg rfl<|dtN<|aI<|midU (fun a4=>uO  a4=some r) (fun a4 b5=>[(3,vI (a4))]) (fun a4 b5=>[]) ?_ ?_
 ·refine sqR<|qkAsg rfl<|dtN<|aN<|loopL (rH p0) (fun a9 b10=>[(0,v0),(3,vI (a9.1)),(4,vI (a9.2))]) (fun a9 b10=>[]) ((at' p0 (0:Int)),(1:Int)) () h SF (aQ.refl _) ?_
  intro k11 a9 b10 h
  refine aI<|sqR<|qkMove rfl<|qkMove rfl<|qkLen (aC.fact 0 rfl) rfl<|qkLss rfl<|dtN ?_
  refine eB h rfl (fun h=>?_) fun h=>?_
  ·refine cI<|aI<|aN<|aM<|qkMove rfl<|qkMove rfl<|qkMove rfl<|ckE h fun j13 h=>aB (aY rfl rfl (aC.fact 0 rfl) rfl rfl j13) rfl<|aB (bT rfl (aC.fact 0 rfl) rfl rfl rfl dO j13) rfl<|aB (HE rfl rfl) rfl<|qkAsg rfl<|dY<|inT<|aM<|qkMove rfl<|qkAdd rfl<|qkAsg rfl<|dtN ?_
   exact yF ((max a9.1 (at' p0 a9.2)),(wI .i64 (a9.2+(1:Int)))) () h SF rfl
  refine vT ?_
  exact jV (a9.1) () h SF rfl
 intro a4 b5 h
 unfold uO at h
 refine sqR<|qkMove rfl<|qkAsg rfl<|dtN<|aP ?_
 cases h
 exact lI rfl
end
section
def lY (U:Nat) (p0:Ba) (p1:cM) (p2:Int):Option gO:=
 Option.bind (wF U p1.1) fun r3=>(some (p0.2.2.1,(wI .i64 ((wI .i64 (p0.2.2.2.1+(wI .i64 (p0.2.2.2.2.1*(List.length p1.1:Int)))))+(wI .i64 (p0.2.2.2.2.2*r3))))))
theorem Uu:aO Tryz.prog 140:=Tryz.call140
theorem Dt (U:Nat) {p0:Ba} {p1:cM} {p2:Int} (v0:Value)  (v1:Value)  (z2:mB) (r:eZ) (h:lY U p0 p1 p2=some r):
  aT Tryz.prog 140 #[Value.agg #[vS (p0.1),vI (p0.2.1),vI (p0.2.2.1),vI (p0.2.2.2.1),vI (p0.2.2.2.2.1),vI (p0.2.2.2.2.2)],Value.agg #[v0,v1],vI (p2)] [Sl bD v0 p1.1,S2 aV v1 z2 p1.2] (fun x:Unit=>Value.tuple #[vI (r.1),vI (r.2)]) (fun x l=>l) (fun _ l=>l):=by
 refine aT.of Tryz.func140 rfl Tryz.ntmps140 rfl fun c=>?_
 refine sqR<|aF (aJ.box (cs:=[vS (p0.1),vI (p0.2.1),vI (p0.2.2.1),vI (p0.2.2.2.1),vI (p0.2.2.2.2.1),vI (p0.2.2.2.2.2)]) rfl rfl) rfl fun b1=>aF (aJ.box (cs:=[v0,v1]) rfl rfl) rfl fun b2=>qkAsg rfl<|qkAsg rfl<|dtN<|aI ?_
 refine JR.start [0,1,0,4,0,16,0,64,192,496,1020,0,2048,0,8192,24576,63488,131068,57347,524287] 19 mixedOrders (by decide +kernel) ?_
 refine JR.open (by exact rfl) ?_
 refine jkFld rfl<|jkLd 1 rfl<|jkFld rfl<|jkLd 1 rfl<|jkFld rfl<|jkLd 1 rfl<|jkFld rfl<|jkLd 0 rfl<|bG rfl .nil (mJ 0 rfl) (fR rfl (aC.fact 0 rfl) rfl) aK.z<|jqN rfl (zG rfl rfl)<|jqN rfl (pQ rfl rfl)<|jkFld rfl<|jkLd 1 rfl<|jkFld rfl<|jkLd 0 rfl<|bnE h fun r3 w4 h=>JR.loud rfl rfl rfl (aJ.callQ Uv (JA U v0 r3 w4) rfl (oI [0] rfl)) rfl (fun x5=>(rA [([1],[]),([],[0]),([0],[]),([1],[]),([1],[]),([1],[])] rfl)) fun x5=>jqN rfl (zG rfl rfl)<|jqN rfl (pQ rfl rfl)<|jqN rfl (sY rfl)<|bO 19 rfl rfl<|qkAsg rfl<|dtN<|aP ?_
 cases h
 exact iZ () rfl rfl (RV.tmp rfl) (RV.tmp rfl) .nil aD.nil
end
section
def pH (U:Nat) (p0:Ba) (p1:cM) (p2:Int):Option gO:=
 some ((0:Int),(1:Int))
theorem Uw:aO Tryz.prog 142:=Tryz.call142
theorem Du (U:Nat) {p0:Ba} {p1:cM} {p2:Int} (v0:Value)  (v1:Value)  (z2:mB) (r:eZ) (h:pH U p0 p1 p2=some r):
  aT Tryz.prog 142 #[Value.agg #[vS (p0.1),vI (p0.2.1),vI (p0.2.2.1),vI (p0.2.2.2.1),vI (p0.2.2.2.2.1),vI (p0.2.2.2.2.2)],Value.agg #[v0,v1],vI (p2)] [Sl bD v0 p1.1,S2 aV v1 z2 p1.2] (fun x:Unit=>Value.tuple #[vI (r.1),vI (r.2)]) (fun x l=>l) (fun _ l=>l):=by
 refine aT.of Tryz.func142 rfl Tryz.ntmps142 rfl fun c=>?_
 unfold pH at h
 refine sqR<|aF (aJ.box (cs:=[vS (p0.1),vI (p0.2.1),vI (p0.2.2.1),vI (p0.2.2.2.1),vI (p0.2.2.2.2.1),vI (p0.2.2.2.2.2)]) rfl rfl) rfl fun b1=>aF (aJ.box (cs:=[v0,v1]) rfl rfl) rfl fun b2=>qkAsg rfl<|qkAsg rfl<|dtN<|sqR<|qkAsg rfl<|qkAsg rfl<|dtN<|aP ?_
 cases h
 exact iZ () rfl rfl (RV.tmp rfl) (RV.tmp rfl) .nil aD.nil
end
section
def lZ (U:Nat) (p0:Ba) (p1:cM) (p2:Int):Option gO:=
 ck (0<=p2∧p2<(List.length p1.2:Int)) (some ((-1:Int),(wI .i64 ((List.length (at' p1.2 p2):Int) - (1:Int)))))
theorem Ux:aO Tryz.prog 143:=Tryz.call143
theorem Dv (U:Nat) {p0:Ba} {p1:cM} {p2:Int} (v0:Value)  (v1:Value)  (z2:mB) (r:eZ) (h:lZ U p0 p1 p2=some r):
  aT Tryz.prog 143 #[Value.agg #[vS (p0.1),vI (p0.2.1),vI (p0.2.2.1),vI (p0.2.2.2.1),vI (p0.2.2.2.2.1),vI (p0.2.2.2.2.2)],Value.agg #[v0,v1],vI (p2)] [Sl bD v0 p1.1,S2 aV v1 z2 p1.2] (fun x:Unit=>Value.tuple #[vI (r.1),vI (r.2)]) (fun x l=>l) (fun _ l=>l):=by
 refine aT.of Tryz.func143 rfl Tryz.ntmps143 rfl fun c=>?_
 refine sqR<|aF (aJ.box (cs:=[vS (p0.1),vI (p0.2.1),vI (p0.2.2.1),vI (p0.2.2.2.1),vI (p0.2.2.2.2.1),vI (p0.2.2.2.2.2)]) rfl rfl) rfl fun b1=>aF (aJ.box (cs:=[v0,v1]) rfl rfl) rfl fun b2=>qkAsg rfl<|qkAsg rfl<|dtN<|aI ?_
 refine JR.start [0,1,0,7,15,31,63,0,255] 8 mixedOrders (by decide +kernel) ?_
 refine JR.open (by exact rfl) ?_
 refine jkFld rfl<|jkLd 0 rfl<|jkMove rfl<|ckE h fun j3 h=>bG rfl .nil (mJ 1 rfl) (cK rfl rfl (aC.fact 0 rfl) rfl rfl j3) aK.z<|bG rfl .nil (mJ 1 rfl) (cJ rfl (aC.fact 0 rfl) rfl rfl j3) aK.z<|bG rfl .nil (mJ 1 rfl) (fR rfl (aC.el (aC.fact 0 rfl) j3.1 j3.2) rfl) aK.z<|jqN rfl (pR rfl rfl)<|jqN rfl (sY rfl)<|bO 8 rfl rfl<|qkAsg rfl<|dtN<|aP ?_
 cases h
 exact iZ () rfl rfl (RV.tmp rfl) (RV.tmp rfl) .nil aD.nil
end
section
def uB  (a4:Unit):Option gO:=
 some ((0:Int),(-1:Int))
def kH (a8:Int) (ag7:(Int)->Option gO) (a12:Unit):Option gO:=
 ag7 (wI .i64 (a8+(1:Int)))
def dG (U:Nat) (p0:Ba) (p1:cM) (p2:Int) (a8:Int) (ag7:(Int)->Option gO):Option gO:=
 if a8<(List.length ([((1:Int),(140:Nat)),((2:Int),(142:Nat)),((3:Int),(143:Nat))]):Int)then(ck (0<=a8∧a8<(List.length ([((1:Int),(140:Nat)),((2:Int),(142:Nat)),((3:Int),(143:Nat))]):Int)) (if a8=(0:Int)then(if(1:Int)=p0.2.1 then(Option.bind (lY U ((p0.1,p0.2.1,p0.2.2.1,p0.2.2.2.1,p0.2.2.2.2.1,p0.2.2.2.2.2)) ((p1.1,p1.2)) p2) fun r18=>(some (r18.1,r18.2)))else(kH a8 ag7 (())))else(if a8=(1:Int)then(if(2:Int)=p0.2.1 then(Option.bind (pH U ((p0.1,p0.2.1,p0.2.2.1,p0.2.2.2.1,p0.2.2.2.2.1,p0.2.2.2.2.2)) ((p1.1,p1.2)) p2) fun r24=>(some (r24.1,r24.2)))else(kH a8 ag7 (())))else(if(3:Int)=p0.2.1 then(Option.bind (lZ U ((p0.1,p0.2.1,p0.2.2.1,p0.2.2.2.1,p0.2.2.2.2.1,p0.2.2.2.2.2)) ((p1.1,p1.2)) p2) fun r30=>(some (r30.1,r30.2)))else(kH a8 ag7 (()))))))else(uB  (()))
def g_ (U:Nat) (p0:Ba) (p1:cM) (p2:Int):Option gO:=
 bE (dG U p0 p1 p2) U (0:Int)
theorem Nv:aO Tryz.prog 117:=Tryz.call117
theorem Al (U:Nat) {p0:Ba} {p1:cM} {p2:Int} (v0:Value)  (v1:Value)  (z2:mB) (r:eZ) (h:g_ U p0 p1 p2=some r):
  aT Tryz.prog 117 #[Value.agg #[vS (p0.1),vI (p0.2.1),vI (p0.2.2.1),vI (p0.2.2.2.1),vI (p0.2.2.2.2.1),vI (p0.2.2.2.2.2)],Value.agg #[v0,v1],vI (p2)] [Sl bD v0 p1.1,S2 aV v1 z2 p1.2] (fun x:Unit=>Value.tuple #[vI (r.1),vI (r.2)]) (fun x l=>l) (fun _ l=>l):=by
 refine aT.of Tryz.func117 rfl Tryz.ntmps117 rfl fun c=>?_
 unfold g_ at h
 refine sqR<|aF (aJ.box (cs:=[vS (p0.1),vI (p0.2.1),vI (p0.2.2.1),vI (p0.2.2.2.1),vI (p0.2.2.2.2.1),vI (p0.2.2.2.2.2)]) rfl rfl) rfl fun b1=>aF (aJ.box (cs:=[v0,v1]) rfl rfl) rfl fun b2=>qkAsg rfl<|qkAsg rfl<|dtN<|sqR ?_
 refine aB (AE (r:=Value.agg #[vI (1:Int),Value.func (.func 140) #[] #[]]) rfl rfl (by intro w;simp[Instr.build,Instr.fill,dA,cN,cF,dB,dC,cO,d_])) rfl ?_
 refine aB (AE (r:=Value.agg #[vI (2:Int),Value.func (.func 142) #[] #[]]) rfl rfl (by intro w;simp[Instr.build,Instr.fill,dA,cN,cF,dB,dC,cO,d_])) rfl ?_
 refine aB (AE (r:=Value.agg #[vI (3:Int),Value.func (.func 143) #[] #[]]) rfl rfl (by intro w;simp[Instr.build,Instr.fill,dA,cN,cF,dB,dC,cO,d_])) rfl ?_
 refine aF (bX (e:=EX) ([(((1:Int),((140:Nat)))),(((2:Int),((142:Nat)))),(((3:Int),((143:Nat))))]) [(0,Value.agg #[vI (1:Int),Value.func (.func 140) #[] #[]]),(1,Value.agg #[vI (2:Int),Value.func (.func 142) #[] #[]]),(2,Value.agg #[vI (3:Int),Value.func (.func 143) #[] #[]])] rfl rfl rfl rfl (RH (vI (1:Int)) (Value.func (.func 140) #[] #[]) (vI (2:Int)) (Value.func (.func 142) #[] #[]) (vI (3:Int)) (Value.func (.func 143) #[] #[])) rfl rfl rfl) rfl fun u3=>qkAsg rfl<|dtN<|aI<|midU (fun a4=>uB  a4=some r) (fun a4 b5=>[]) (fun a4 b5=>[]) ?_ ?_
 ·refine sqR<|qkMove rfl<|aB (fR rfl (aU (aC.res 0 rfl) xF) rfl) rfl<|qkMove rfl<|dtN<|aN<|loopL (dG U p0 p1 p2) (fun a8 b9=>[(2,vI (p2)),(3,vP b1),(4,vP b2),(15,u3),(16,vI (List.length ([((1:Int),(140:Nat)),((2:Int),(142:Nat)),((3:Int),(143:Nat))]):Int)),(17,vI (a8))]) (fun a8 b9=>[Ar EX u3 ([((1:Int),(140:Nat)),((2:Int),(142:Nat)),((3:Int),(143:Nat))]),bM b2 [v0,v1] 28,bM b1 [vS (p0.1),vI (p0.2.1),vI (p0.2.2.1),vI (p0.2.2.2.1),vI (p0.2.2.2.2.1),vI (p0.2.2.2.2.2)] 60]) (0:Int) () h SF (aQ.refl _) ?_
  intro k10 a8 b9 h
  refine sqR<|qkLss rfl<|dtN<|aI ?_
  refine eB h rfl (fun h=>?_) fun h=>?_
  ·refine cI<|aI<|midU (fun a12=>kH a8 (bE (dG U p0 p1 p2) k10) a12=some r) (fun a12 b13=>[(2,vI (p2)),(3,vP b1),(4,vP b2),(15,u3),(16,vI (List.length ([((1:Int),(140:Nat)),((2:Int),(142:Nat)),((3:Int),(143:Nat))]):Int)),(17,vI (a8))]) (fun a12 b13=>[Ar EX u3 ([((1:Int),(140:Nat)),((2:Int),(142:Nat)),((3:Int),(143:Nat))]),bM b2 [v0,v1] 28,bM b1 [vS (p0.1),vI (p0.2.1),vI (p0.2.2.1),vI (p0.2.2.2.1),vI (p0.2.2.2.2.1),vI (p0.2.2.2.2.2)] 60]) ?_ ?_
   ·refine aN<|sqR<|ckE h fun j14 h=>aB (aY rfl rfl (aU (aC.res 0 rfl) xF) rfl rfl j14) rfl ?_
    by_cases hq15:a8=(0:Int)
    ·have h:=RY hq15 h
     refine aB (fL (cs:=[vI (1:Int),Value.func (.func 140) #[] #[]]) rfl (aU (aC.res 0 rfl) xF) xF (by rw[hq15];rfl) rfl rfl rfl j14) rfl ?_
     refine aF (aJ.alloc (cs:=[vI (0:Int),Value.nilFunc]) rfl rfl) rfl fun b16=>bH 0 (vs:=[vI (1:Int),Value.func (.func 140) #[] #[]]) rfl rfl rfl rfl rfl rfl<|dtN<|sqR<|qkFld rfl<|qkLd 0 rfl<|qkFld rfl<|qkLd 3 rfl<|qkEql rfl<|dtN ?_
     refine eB h rfl (fun h=>?_) fun h=>?_
     ·refine sqR<|qkFld rfl<|qkLd 0 rfl<|qkLdA 3 rfl<|qkLdA 2 rfl<|qkMove rfl<|bnE h fun r18 w19 h=>aF (pN (vs:=[Value.agg #[vS (p0.1),vI (p0.2.1),vI (p0.2.2.1),vI (p0.2.2.2.1),vI (p0.2.2.2.2.1),vI (p0.2.2.2.2.2)],Value.agg #[v0,v1],vI (p2)]) (cs:=[]) Uu rfl (Dt U v0 v1 z2 r18 w19) rfl (oI [0,1] rfl) (fun _ _=>rfl)) rfl fun x20=>qkExt rfl<|qkExt rfl<|qkAsg rfl<|qkAsg rfl<|dtN<|aP<|bK<|aH<|aH<|bK<|aH ?_
      cases h
      exact iZ () rfl rfl (RV.tmp rfl) (RV.tmp rfl) .nil aD.nil
     refine cU<|inT ?_
     exact bY () (()) h SF (aQ.ix [1,2,3] rfl rfl) (aD.refl _ _)
    have h:=Yq hq15 h
    by_cases hq21:a8=(1:Int)
    ·have h:=RY hq21 h
     refine aB (fL (cs:=[vI (2:Int),Value.func (.func 142) #[] #[]]) rfl (aU (aC.res 0 rfl) xF) xF (by rw[hq21];rfl) rfl rfl rfl j14) rfl ?_
     refine aF (aJ.alloc (cs:=[vI (0:Int),Value.nilFunc]) rfl rfl) rfl fun b22=>bH 0 (vs:=[vI (2:Int),Value.func (.func 142) #[] #[]]) rfl rfl rfl rfl rfl rfl<|dtN<|sqR<|qkFld rfl<|qkLd 0 rfl<|qkFld rfl<|qkLd 3 rfl<|qkEql rfl<|dtN ?_
     refine eB h rfl (fun h=>?_) fun h=>?_
     ·refine sqR<|qkFld rfl<|qkLd 0 rfl<|qkLdA 3 rfl<|qkLdA 2 rfl<|qkMove rfl<|bnE h fun r24 w25 h=>aF (pN (vs:=[Value.agg #[vS (p0.1),vI (p0.2.1),vI (p0.2.2.1),vI (p0.2.2.2.1),vI (p0.2.2.2.2.1),vI (p0.2.2.2.2.2)],Value.agg #[v0,v1],vI (p2)]) (cs:=[]) Uw rfl (Du U v0 v1 z2 r24 w25) rfl (oI [0,1] rfl) (fun _ _=>rfl)) rfl fun x26=>qkExt rfl<|qkExt rfl<|qkAsg rfl<|qkAsg rfl<|dtN<|aP<|bK<|aH<|aH<|bK<|aH ?_
      cases h
      exact iZ () rfl rfl (RV.tmp rfl) (RV.tmp rfl) .nil aD.nil
     refine cU<|inT ?_
     exact bY () (()) h SF (aQ.ix [1,2,3] rfl rfl) (aD.refl _ _)
    have h:=Yq hq21 h
    have hq27:a8=(2:Int):=by have q:=j14;simp only[List.length_cons,List.length_nil]at q;omega
    refine aB (fL (cs:=[vI (3:Int),Value.func (.func 143) #[] #[]]) rfl (aU (aC.res 0 rfl) xF) xF (by rw[hq27];rfl) rfl rfl rfl j14) rfl ?_
    refine aF (aJ.alloc (cs:=[vI (0:Int),Value.nilFunc]) rfl rfl) rfl fun b28=>bH 0 (vs:=[vI (3:Int),Value.func (.func 143) #[] #[]]) rfl rfl rfl rfl rfl rfl<|dtN<|sqR<|qkFld rfl<|qkLd 0 rfl<|qkFld rfl<|qkLd 3 rfl<|qkEql rfl<|dtN ?_
    refine eB h rfl (fun h=>?_) fun h=>?_
    ·refine sqR<|qkFld rfl<|qkLd 0 rfl<|qkLdA 3 rfl<|qkLdA 2 rfl<|qkMove rfl<|bnE h fun r30 w31 h=>aF (pN (vs:=[Value.agg #[vS (p0.1),vI (p0.2.1),vI (p0.2.2.1),vI (p0.2.2.2.1),vI (p0.2.2.2.2.1),vI (p0.2.2.2.2.2)],Value.agg #[v0,v1],vI (p2)]) (cs:=[]) Ux rfl (Dv U v0 v1 z2 r30 w31) rfl (oI [0,1] rfl) (fun _ _=>rfl)) rfl fun x32=>qkExt rfl<|qkExt rfl<|qkAsg rfl<|qkAsg rfl<|dtN<|aP<|bK<|aH<|aH<|bK<|aH ?_
     cases h
     exact iZ () rfl rfl (RV.tmp rfl) (RV.tmp rfl) .nil aD.nil
    refine cU<|inT ?_
    exact bY () (()) h SF (aQ.ix [1,2,3] rfl rfl) (aD.refl _ _)
   intro a12 b13 h
   unfold kH at h
   refine aM<|qkAdd rfl<|qkMove rfl<|dtN ?_
   exact yF (wI .i64 (a8+(1:Int))) () h SF rfl
  refine vT ?_
  exact bY () (()) h SF .nil (aD.refl _ _)
 intro a4 b5 h
 unfold uB at h
 refine sqR<|qkAsg rfl<|qkAsg rfl<|dtN<|aP ?_
 cases h
 exact iZ () rfl rfl (RV.tmp rfl) (RV.tmp rfl) (aQ.refl _) aD.nil
end
end Go.Proofs.YtigggfnchamobaaGreatDoor
end
