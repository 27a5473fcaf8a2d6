/- Models and proofs. Conditions: none. -/
import Derived.Test.YtjkjpdonlpdcaaaGreatDoorZTFaArCo2
import Derived.Test.YtjkjpdonlpdcaaaGreatDoorZTFaArCo5
import Derived.KernelRfl
set_option linter.unusedVariables false
set_option linter.unusedSimpArgs false
set_option maxHeartbeats 4000000
set_option maxRecDepth 20000
namespace Go.Proofs.YtjkjpdonlpdcaaaGreatDoor
open Go.Sx
def oJ  (a:Unit):Option (Bool):=
 some (true)
def oK (c:Int) (a:(Int)->Option (Bool)) (b:Unit):Option (Bool):=
 a (wI .i64 (c+(1:Int)))
def oL (b:Int) (a:(Int)->Option (Bool)) (c:Bool):Option (Bool):=
 if c=true then(some (false))else(a (wI .i64 (b+(1:Int))))
def lD (e:bE) (d:Int) (a:Int) (b:(Int)->Option (Bool)) (c:dQ):Option (Bool):=
 if(at' (at' e d) a)<c.1 then(oL a b (true))else(oL a b (decide (c.2<(at' (at' e d) a))))
def eJ (g:dJ) (d:bE) (f:aS) (b:Int) (e:(Int)->Option (Bool)) (a:Int) (c:(Int)->Option (Bool)):Option (Bool):=
 if a<(List.length (at' d b):Int)then(ck (0<=a∧a<(List.length (at' d b):Int)) (ck (0<=a∧a<(List.length f:Int)) (if(at' f a)=(-1:Int)then(ck (0<=b∧b<(List.length g.2:Int)) (lD d b a c ((-1:Int),(wI .i64 ((List.length (at' g.2 b):Int) - (1:Int))))))else(lD d b a c ((0:Int),(at' f a))))))else(oK b e (()))
def dN (U:Nat) (e:dJ) (b:bE) (d:aS) (a:Int) (c:(Int)->Option (Bool)):Option (Bool):=
 if a<(List.length b:Int)then(ck (0<=a∧a<(List.length b:Int)) (if(List.length (at' b a):Int)≠(List.length d:Int)then(some (false))else(bP (eJ e b d a c) U (0:Int))))else(oJ  (()))
def fQ (U:Nat) (a:dJ) (b:bE) (c:aS):Option (Bool):=
 if(List.length b:Int)≠(List.length a.1:Int)then(some (false))else(bP (dN U a b c) U (0:Int))
theorem Uk:aR Tryz.prog 36:=Tryz.call36
theorem yT (U:Nat) {g:dJ} {e:bE} {j:aS} (o:Value)  (p:Value)  (H:mV)  (q:Value)  (E:pA)  (s:Value) (r:Bool) (h:fQ U g e j=some r):
  aW Tryz.prog 36 #[Value.agg #[o,p],q,s] [Sl bJ o g.1,S2 bG p H g.2,S2 bJ q E e,Sl bJ s j] (λx:Unit=>vB (r)) (λx l=>l) (λ_ l=>l):=by
 refine aW.of Tryz.func36 Z Tryz.ntmps36 Z λc=>?_;refine aP<|aH (aL.box (cs:=[o,p]) Z Z) Z λk=>aC Z<|aN<|aM<|aP<|aA Z<|aD (kE Z (aF.fact 2 Z) Z) Z<|bV Z<|dO 0 Z<|jS (aF.fact 0 Z) Z<|p_ Z<|aN ?_;refine dK h Z (λh=>?_) λh=>?_
 ·refine aP<|aC Z<|aN<|aV<|aK ?_;cases h;exact wD Z
 refine cT<|aM<|fF (λC=>oJ  C=some r) (λC F=>[]) (λC F=>[]) ?_ ?_
 ·refine aP<|aA Z<|aD (kE Z (aF.fact 2 Z) Z) Z<|aA Z<|aN<|aT<|fJ (dN U g e j) (λa G=>[(2,s),(3,vP k),(19,q),(20,vI (List.length e:Int)),(21,vI (a))]) (λa G=>[bX k [o,p] 27]) (0:Int) () h SF (bA.refl _) ?_;intro D a G h;refine aP<|cW Z<|aN<|aM ?_;refine dK h Z (λh=>?_) λh=>?_
  ·refine cT<|aM<|fF (λm=>oK a (bP (dN U g e j) D) m=some r) (λm t=>[(2,s),(3,vP k),(19,q),(20,vI (List.length e:Int)),(21,vI (a))]) (λm t=>[bX k [o,p] 27]) ?_ ?_
   ·refine aT<|aP<|aA Z<|eH h λd h=>aD (cV Z Z (aF.fact 2 Z) Z Z d) Z<|aD (cX Z (aF.fact 2 Z) Z Z d) Z<|aC Z<|aC Z<|aN<|aM<|aP<|aA Z<|aD (kR Z (aF.el (aF.fact 2 Z) d.1 d.2) Z) Z<|aA Z<|jS (aF.fact 3 Z) Z<|p_ Z<|aN ?_;refine dK h Z (λh=>?_) λh=>?_
    ·refine aP<|aC Z<|aN<|aV<|aK<|bS<|aK<|aK<|bS<|aK ?_;cases h;exact wD Z
    refine cT<|aP<|aA Z<|aD (kR Z (aF.el (aF.fact 2 Z) d.1 d.2) Z) Z<|aA Z<|aN<|aT<|fJ (eJ g e j a (bP (dN U g e j) D)) (λb u=>[(2,s),(3,vP k),(7,vI (a)),(19,q),(20,vI (List.length e:Int)),(21,vI (a)),(31,(at' E a).1),(32,vI (List.length (at' e a):Int)),(33,vI (b))]) (λb u=>[bX k [o,p] 27]) (0:Int) () h SF (bA.refl _) ?_;intro B b u h;refine aP<|cW Z<|aN<|aM ?_;refine dK h Z (λh=>?_) λh=>?_
    ·refine cT<|aM<|aT<|aP<|aA Z<|eH h λy h=>aD (bK Z Z (aF.el (aF.fact 2 Z) d.1 d.2) Z Z y) Z<|aD (cQ Z (aF.el (aF.fact 2 Z) d.1 d.2) Z Z Z fG y) Z<|aC Z<|aC Z<|aN<|aM ?_;refine JR.start [0,0,3,7,0,31] 5 mixedOrders (by decide +kernel) ?_;refine JR.open (by exact rfl) ?_;refine bD Z<|bD Z<|eH h λA h=>bL Z .nil (nW 3 Z) (bK Z Z (aF.fact 0 Z) Z Z A) aO.z<|bL Z .nil (nW 3 Z) (cQ Z (aF.fact 0 Z) Z Z Z fG A) aO.z<|iB Z (vG Z)<|bQ 5 Z Z<|aC Z<|aN<|aM<|fF (λf=>lD e a b (bP (eJ g e j a (bP (dN U g e j) D)) B) f=some r) (λf v=>[(2,s),(3,vP k),(7,vI (a)),(10,vI (at' (at' e a) b)),(11,vI (f.1)),(12,vI (f.2)),(19,q),(20,vI (List.length e:Int)),(21,vI (a)),(31,(at' E a).1),(32,vI (List.length (at' e a):Int)),(33,vI (b))]) (λf v=>[bX k [o,p] 27]) ?_ ?_
     ·refine aP<|aA Z<|bR Z<|aN ?_;refine dK h Z (λh=>?_) λh=>?_
      ·refine JR.start [0,1,0,7,15,31,63,0,255] 8 mixedOrders (by decide +kernel) ?_;refine JR.open (by exact rfl) ?_;refine cH Z<|gU 0 Z<|bD Z<|eH h λn h=>bL Z .nil (nW 1 Z) (cV Z Z (aF.fact 0 Z) Z Z n) aO.z<|bL Z .nil (nW 1 Z) (cX Z (aF.fact 0 Z) Z Z n) aO.z<|bL Z .nil (nW 1 Z) (kR Z (aF.el (aF.fact 0 Z) n.1 n.2) Z) aO.z<|iB Z (q_ Z Z)<|iB Z (vG Z)<|bQ 8 Z Z<|aC Z<|aN ?_;exact iP ((-1:Int),(wI .i64 ((List.length (at' g.2 a):Int) - (1:Int)))) () h SF Z
      refine cT ?_;exact iP ((0:Int),(at' j b)) () h SF Z
     intro f v h;refine aM<|fF (λi=>oL b (bP (eJ g e j a (bP (dN U g e j) D)) B) i=some r) (λi w=>[(2,s),(3,vP k),(7,vI (a)),(19,q),(20,vI (List.length e:Int)),(21,vI (a)),(31,(at' E a).1),(32,vI (List.length (at' e a):Int)),(33,vI (b)),(58,vB (i))]) (λi w=>[bX k [o,p] 27]) ?_ ?_
     ·refine aQ<|aA Z<|aA Z<|cW Z<|aA Z ?_;refine CP h Z (λ_ h=>?_) λ_ h=>?_
      ·refine aI Z<|aI Z<|aI Z<|eR Z<|aN ?_;exact iP (true) () h SF Z
      refine eP Z<|eP Z<|aU Z (zO Z Z) Z<|eY Z<|aN ?_;exact iP (decide (f.2<(at' (at' e a) b))) () h SF Z
     intro i w h;refine BF h Z (λ_ h=>?_) λ_ h=>?_
     ·refine aP<|aC Z<|aN<|aV<|bS<|aK<|aK<|bS<|bS<|aK<|aK<|bS<|aK ?_;cases h;exact wD Z
     refine dR<|oP<|aQ<|cJ Z<|aA Z<|aN ?_;exact AX (wI .i64 (b+(1:Int))) () h SF Z
    refine sW<|eZ<|eZ<|yR<|oP ?_;exact iP () (()) h SF Z
   intro m t h;unfold oK at h;refine aQ<|cJ Z<|aA Z<|aN ?_;exact AX (wI .i64 (a+(1:Int))) () h SF Z
  refine gX ?_;exact b_ () (()) h SF .nil (aE.refl _ _)
 intro C F h;unfold oJ at h;refine aP<|aC Z<|aN<|aV ?_;cases h;exact lL Z
def AO (U:Nat) (a:ByteArray):Option ((ByteArray×Int×Int×Int×Int×Int)):=
 some ((a,(2:Int),(0:Int),(0:Int),(0:Int),(0:Int)))
theorem WZ:aR Tryz.prog 127:=Tryz.call127
theorem JS (U:Nat) {a:ByteArray} (r:Rz) (h:AO U a=some r):
  aW Tryz.prog 127 #[vS (a)] [] (λx:Unit=>Value.agg #[vS (r.1),vI (r.2.1),vI (r.2.2.1),vI (r.2.2.2.1),vI (r.2.2.2.2.1),vI (r.2.2.2.2.2)]) (λx l=>l) (λ_ l=>l):=by
 refine aW.of Tryz.func127 Z Tryz.ntmps127 Z λc=>?_;unfold AO at h;refine aP<|aH (aL.alloc (cs:=vD5) Z Z) Z λb=>aN<|aP<|aA Z ?_;refine aD (BC (r:=Value.agg #[vS (a),vI (2:Int),vI (0:Int),vI (0:Int),vI (0:Int),vI (0:Int)]) Z Z (by intro w;simp[Instr.build,Instr.fill,dV,cY,cM,dW,dX,cZ,eT])) Z ?_;refine bO 0 (vs:=[vS (a),vI (2:Int),vI (0:Int),vI (0:Int),vI (0:Int),vI (0:Int)]) Z Z Z Z Z Z<|aN<|aV ?_;cases h;exact jE () Z Z (RV.cell 0 Z Z Z Z) .nil aE.nil
def BP (U:Nat)  : Option VW:=
 Option.bind (AO U (ByteArray.mk #[109])) λa=>(some ([(a.1,a.2.1,a.2.2.1,a.2.2.2.1,a.2.2.2.2.1,a.2.2.2.2.2)]))
theorem aae:aR Tryz.prog 76:=Tryz.call76
theorem Ma (U:Nat)  (r:VX) (h:BP U  = some r):
  aW Tryz.prog 76 #[] [] (λx:Value=>x) (λx l=>Ar jY x r::l) (λ_ l=>l):=by
 refine aW.of Tryz.func76 Z Tryz.ntmps76 Z λc=>?_;refine aP<|aC Z<|aN<|aP<|fE h λa d h=>aH (aL.callQ WZ (JS U  a d) Z .nil) Z λf=>aH (cP (e:=jY) ([((a.1,a.2.1,a.2.2.1,a.2.2.2.1,a.2.2.2.2.1,a.2.2.2.2.2))]) [(0,Value.agg #[vS (a.1),vI (a.2.1),vI (a.2.2.1),vI (a.2.2.2.1),vI (a.2.2.2.2.1),vI (a.2.2.2.2.2)])] Z Z Z Z (Nk (vS (a.1)) (vI (a.2.1)) (vI (a.2.2.1)) (vI (a.2.2.2.1)) (vI (a.2.2.2.2.1)) (vI (a.2.2.2.2.2))) Z Z Z) Z λb=>aC Z<|aN<|aV ?_;cases h;exact jE (b) Z Z (RV.tmp Z) (bA.refl _) aE.nil
def zW (U:Nat) (a:ByteArray) (b:Int) (c:Int) (d:Int):Option ((ByteArray×Int×Int×Int×Int×Int)):=
 some ((a,(1:Int),(0:Int),b,c,d))
theorem Z_:aR Tryz.prog 33:=Tryz.call33
theorem Jq (U:Nat) {a:ByteArray} {b:Int} {d:Int} {e:Int} (r:Rz) (h:zW U a b d e=some r):
  aW Tryz.prog 33 #[vS (a),vI (b),vI (d),vI (e)] [] (λx:Unit=>Value.agg #[vS (r.1),vI (r.2.1),vI (r.2.2.1),vI (r.2.2.2.1),vI (r.2.2.2.2.1),vI (r.2.2.2.2.2)]) (λx l=>l) (λ_ l=>l):=by
 refine aW.of Tryz.func33 Z Tryz.ntmps33 Z λc=>?_;unfold zW at h;refine aP<|aH (aL.alloc (cs:=vD5) Z Z) Z λf=>aN<|aP<|aA Z<|aA Z<|aA Z<|aA Z ?_;refine aD (Y.bld5 (r:=Value.agg #[vS (a),vI (1:Int),vI (0:Int),vI (b),vI (d),vI (e)]) Z Z Z Z Z (by intro w;simp[Instr.build,Instr.fill,dV,cY,cM,dW,dX,cZ,eT])) Z ?_;refine bO 0 (vs:=[vS (a),vI (1:Int),vI (0:Int),vI (b),vI (d),vI (e)]) Z Z Z Z Z Z<|aN<|aV ?_;cases h;exact jE () Z Z (RV.cell 0 Z Z Z Z) .nil aE.nil
def BQ (U:Nat)  : Option VW:=
 Option.bind (zW U (ByteArray.mk #[99]) (0:Int) (1:Int) (0:Int)) λa=>(some ([(a.1,a.2.1,a.2.2.1,a.2.2.2.1,a.2.2.2.2.1,a.2.2.2.2.2)]))
theorem aaf:aR Tryz.prog 77:=Tryz.call77
theorem Mb (U:Nat)  (r:VX) (h:BQ U  = some r):
  aW Tryz.prog 77 #[] [] (λx:Value=>x) (λx l=>Ar jY x r::l) (λ_ l=>l):=by
 refine aW.of Tryz.func77 Z Tryz.ntmps77 Z λc=>?_;refine aP<|aC Z<|aN<|aP<|fE h λa d h=>aH (aL.callQ Z_ (Jq U  a d) Z .nil) Z λf=>aH (cP (e:=jY) ([((a.1,a.2.1,a.2.2.1,a.2.2.2.1,a.2.2.2.2.1,a.2.2.2.2.2))]) [(0,Value.agg #[vS (a.1),vI (a.2.1),vI (a.2.2.1),vI (a.2.2.2.1),vI (a.2.2.2.2.1),vI (a.2.2.2.2.2)])] Z Z Z Z (Nk (vS (a.1)) (vI (a.2.1)) (vI (a.2.2.1)) (vI (a.2.2.2.1)) (vI (a.2.2.2.2.1)) (vI (a.2.2.2.2.2))) Z Z Z) Z λb=>aC Z<|aN<|aV ?_;cases h;exact jE (b) Z Z (RV.tmp Z) (bA.refl _) aE.nil
def uI  (a:bE):Option bE:=
 some (a)
def yP (a:bE×Int) (c:(bE×Int)->Option bE) (b:aS):Option bE:=
 ck ((List.length a.1:Int)+(List.length ([b]):Int)<=1099511627) (c ((a.1++[b]),(wI .i64 (a.2+(1:Int)))))
def oD (U:Nat) (g:FW) (h:aS) (e:bE×Int) (a:aS×Int) (c:(aS×Int)->Option bE) (b:dQ):Option bE:=
 Option.bind (rZ U h (wI .i64 ((wI .i64 (e.2*(List.length g:Int)))+a.2))) λf=>(Option.bind (fK U f (wI .i64 ((wI .i64 (b.2 - b.1))+(1:Int)))) λd=>(ck ((List.length a.1:Int)+(List.length ([(wI .i64 (b.1+d))]):Int)<=1099511627) (c ((a.1++([(wI .i64 (b.1+d))])),(wI .i64 (a.2+(1:Int)))))))
def oE (U:Nat) (f:dJ) (c:FW) (g:aS) (h:Int) (b:bE×Int) (e:(bE×Int)->Option bE) (a:aS×Int) (d:(aS×Int)->Option bE):Option bE:=
 if a.2<(List.length c:Int)then(ck (0<=a.2∧a.2<(List.length c:Int)) (ck (0<=a.2∧a.2<(List.length c:Int)) (ck (0<=a.2∧a.2<(List.length c:Int)) (ck (0<=a.2∧a.2<(List.length c:Int)) (ck (0<=a.2∧a.2<(List.length c:Int)) (if((at' c a.2).2.1)=(2:Int)then(oD U c g b a d ((0:Int),(1:Int)))else(if((at' c a.2).2.1)=(3:Int)then(ck (0<=b.2∧b.2<(List.length f.2:Int)) (oD U c g b a d ((-1:Int),(wI .i64 ((List.length (at' f.2 b.2):Int) - (1:Int))))))else(oD U c g b a d (((at' c a.2).2.2.1),(wI .i64 ((wI .i64 (((at' c a.2).2.2.2.1)+(wI .i64 (((at' c a.2).2.2.2.2.1)*(List.length f.2:Int)))))+(wI .i64 (((at' c a.2).2.2.2.2.2)*h)))))))))))))else(yP b e (a.1))
def kD (U:Nat) (c:dJ) (e:FW) (f:aS) (d:Int) (a:bE×Int) (b:(bE×Int)->Option bE):Option bE:=
 if a.2<(List.length c.2:Int)then(bP (oE U c e f d a b) U (([]:aS),(0:Int)))else(uI  (a.1))
def qQ (U:Nat) (b:dJ) (c:FW) (d:aS) (a:Int):Option bE:=
 bP (kD U b c d a) U (([]:bE),(0:Int))
def uJ (U:Nat) (c:dJ) (d:FW) (e:aS) (a:dQ) (b:dY->Option bE):Option bE:=
 if a.2<(List.length c.2:Int)then(ck (0<=a.2∧a.2<(List.length c.1:Int)) (b ((max a.1 (at' c.1 a.2)),(wI .i64 (a.2+(1:Int))))))else(qQ U c d e (a.1))
def lI (U:Nat) (a:dJ) (b:FW) (c:aS):Option bE:=
 bP (uJ U a b c) U ((0:Int),(0:Int))
theorem MY:aR Tryz.prog 9:=Tryz.call9
theorem sA (U:Nat) {g:dJ} {n:FW} {s:aS} (v:Value)  (w:Value)  (z2:mV)  (F:Value)  (y:Value) (r:bE) (h:lI U g n s=some r):
  aW Tryz.prog 9 #[Value.agg #[v,w],F,y] [Sl bJ v g.1,S2 bG w z2 g.2,Sl aJ F n,Sl bJ y s] (λx:Hx=>x.1) (λx l=>Ar dD.raw x.1 x.2::jH cI x.2 r::l) (λ_ l=>l):=by
 refine aW.of Tryz.func9 Z Tryz.ntmps9 Z λc=>?_;unfold lI at h;refine aP<|aH (aL.box (cs:=[v,w]) Z Z) Z λp=>aC Z<|aN<|aP<|bV Z<|dO 0 Z<|aD (kE Z (aF.fact 1 Z) Z) Z<|aC Z<|aC Z<|aN<|aM<|fF (λk=>qQ U g n s k=some r) (λk b4=>[(1,F),(2,y),(3,vP p),(7,vI (List.length g.2:Int)),(8,vI (k))]) (λk b4=>[bX p [v,w] 27]) ?_ ?_
 ·refine aP<|aC Z<|aN<|aT<|fJ (uJ U g n s) (λi J=>[(1,F),(2,y),(3,vP p),(7,vI (List.length g.2:Int)),(8,vI (i.1)),(9,vI (i.2))]) (λi J=>[bX p [v,w] 27]) ((0:Int),(0:Int)) () h SF (bA.refl _) ?_;intro ac i J h;refine aM<|aP<|aA Z<|aA Z<|cW Z<|aN ?_;refine dK h Z (λh=>?_) λh=>?_
  ·refine cT<|aM<|aT<|aQ<|aA Z<|bV Z<|dO 0 Z<|aA Z<|eH h λQ h=>aD (bK Z Z (aF.fact 0 Z) Z Z Q) Z<|aD (cQ Z (aF.fact 0 Z) Z Z Z fG Q) Z<|aD (Ir Z Z) Z<|aC Z<|eN<|oP<|aQ<|aA Z<|cJ Z<|aC Z<|aN ?_;exact AX ((max i.1 (at' g.1 i.2)),(wI .i64 (i.2+(1:Int)))) () h SF Z
  refine gX ?_;exact iP (i.1) () h SF Z
 intro k b4 h;unfold qQ at h;refine aP<|aC Z<|aN<|aM<|EF (B:=Hx) (λH=>uI  H=some r) (λH A=>[(10,A.1)]) (λH A=>[Ar dD.raw A.1 A.2,jH cI A.2 H]) ?_ ?_
 ·refine aP<|aC Z<|aN<|aT<|jK (iD dD.raw) (jK (rR cI) ?_);refine fJ (B:=Hx) (kD U g n s k) (λb a=>[(1,F),(2,y),(3,vP p),(7,vI (List.length g.2:Int)),(8,vI (k)),(10,a.1),(11,vI (b.2))]) (λb a=>[bX p [v,w] 27,Ar dD.raw a.1 a.2,jH cI a.2 b.1]) (([]:bE),(0:Int)) ((lX),([]:gQ)) h SF (bA.ix [2,1,0] Z Z) ?_;intro G b a h;refine aM<|aP<|aA Z<|aA Z<|cW Z<|aN ?_;refine dK h Z (λh=>?_) λh=>?_
  ·refine cT<|aM<|aT<|aP<|aC Z<|aN<|aM<|EF (B:=Value) (λo=>yP b (bP (kD U g n s k) G) o=some r) (λo j=>[(1,F),(2,y),(3,vP p),(7,vI (List.length g.2:Int)),(8,vI (k)),(10,a.1),(11,vI (b.2)),(12,j)]) (λo j=>[bX p [v,w] 27,Ar dD.raw a.1 a.2,jH cI a.2 b.1,Ar cI j o]) ?_ ?_
   ·refine aP<|aC Z<|aN<|aT<|jK (iD cI)<|fJ (B:=Value) (oE U g n s k b (bP (kD U g n s k) G)) (λd m=>[(1,F),(2,y),(3,vP p),(7,vI (List.length g.2:Int)),(8,vI (k)),(10,a.1),(11,vI (b.2)),(12,m),(13,vI (d.2))]) (λd m=>[bX p [v,w] 27,Ar dD.raw a.1 a.2,jH cI a.2 b.1,Ar cI m d.1]) (([]:aS),(0:Int)) (lX) h SF (bA.ix [1,2,3,0] Z Z) ?_;intro S d m h;refine aM<|aP<|aA Z<|aA Z<|jS (aF.fact 2 Z) Z<|cW Z<|aN ?_;refine dK h Z (λh=>?_) λh=>?_
    ·refine cT<|aM<|aT<|aM ?_;refine JR.start [0,0,3,7,15,0,0,96,224,480,0,0,3072,7168,15360,0,64512,131040,0,0,786432,1835008,3932160,0,16515072,33554400,31,134217727] 27 mixedOrders (by decide +kernel) ?_;refine JR.open (by exact rfl) ?_;refine bD Z<|bD Z<|eH h λL h=>bL Z .nil (nW 2 Z) (bK Z Z (aF.fact 0 Z) Z Z L) aO.z<|iB Z (lO Z Z Z Z Z)<|bL Z .nil (nW 2 Z) (oH Z (aF.fact 0 Z) Z Z Z Cq L) aO.z<|bD Z<|bD Z<|eH h λM h=>bL Z .nil (nW 2 Z) (bK Z Z (aF.fact 0 Z) Z Z M) aO.z<|iB Z (lO Z Z Z Z Z)<|bL Z .nil (nW 2 Z) (oH Z (aF.fact 0 Z) Z Z Z Cr M) aO.z<|bD Z<|bD Z<|eH h λN h=>bL Z .nil (nW 2 Z) (bK Z Z (aF.fact 0 Z) Z Z N) aO.z<|iB Z (lO Z Z Z Z Z)<|bL Z .nil (nW 2 Z) (oH Z (aF.fact 0 Z) Z Z Z Cs N) aO.z<|bD Z<|iB Z (yG Z Z)<|iB Z (zN Z Z)<|bD Z<|bD Z<|eH h λO h=>bL Z .nil (nW 2 Z) (bK Z Z (aF.fact 0 Z) Z Z O) aO.z<|iB Z (lO Z Z Z Z Z)<|bL Z .nil (nW 2 Z) (oH Z (aF.fact 0 Z) Z Z Z Ct O) aO.z<|bD Z<|iB Z (yG Z Z)<|iB Z (zN Z Z)<|iB Z (vG Z)<|bQ 27 Z Z<|aC Z<|aN<|aM<|fF (λf=>oD U n s b d (bP (oE U g n s k b (bP (kD U g n s k) G)) S) f=some r) (λf I=>[(1,F),(2,y),(3,vP p),(7,vI (List.length g.2:Int)),(8,vI (k)),(10,a.1),(11,vI (b.2)),(12,m),(13,vI (d.2)),(14,vI (f.1)),(15,vI (f.2))]) (λf I=>[bX p [v,w] 27,Ar dD.raw a.1 a.2,jH cI a.2 b.1,Ar cI m d.1]) ?_ ?_
     ·refine aP<|aA Z<|aA Z<|eH h λP h=>aD (bK Z Z (aF.fact 2 Z) Z Z P) Z<|aD (lO Z Z Z Z Z) Z<|aD (oH Z (aF.fact 2 Z) Z Z Z qZ P) Z<|aN<|aT<|aP<|bR Z<|aC Z<|aN ?_;refine dK h Z (λh=>?_) λh=>?_
      ·refine aQ<|aC Z<|aC Z<|eN<|oP ?_;exact iP ((0:Int),(1:Int)) () h SF Z
      refine aP<|bR Z<|aC Z<|aN ?_;refine dK h Z (λh=>?_) λh=>?_
      ·refine JR.start [0,1,0,7,15,31,63,0,255] 8 mixedOrders (by decide +kernel) ?_;refine JR.open (by exact rfl) ?_;refine cH Z<|gU 0 Z<|bD Z<|eH h λu h=>bL Z .nil (nW 1 Z) (cV Z Z (aF.fact 0 Z) Z Z u) aO.z<|bL Z .nil (nW 1 Z) (cX Z (aF.fact 0 Z) Z Z u) aO.z<|bL Z .nil (nW 1 Z) (kR Z (aF.el (aF.fact 0 Z) u.1 u.2) Z) aO.z<|iB Z (q_ Z Z)<|iB Z (vG Z)<|bQ 8 Z Z<|aC Z<|eN<|oP ?_;exact iP ((-1:Int),(wI .i64 ((List.length (at' g.2 b.2):Int) - (1:Int)))) () h SF Z
      refine dR<|oP ?_;exact iP (((at' n d.2).2.2.1),(wI .i64 ((wI .i64 (((at' n d.2).2.2.2.1)+(wI .i64 (((at' n d.2).2.2.2.2.1)*(List.length g.2:Int)))))+(wI .i64 (((at' n d.2).2.2.2.2.2)*k))))) () h SF Z
     intro f I h;refine aQ<|aA Z<|aA Z<|aA Z<|aA Z<|aA Z<|jS (aF.fact 2 Z) Z<|aD (yG Z Z) Z<|aA Z<|cJ Z<|fE h λW aa h=>aH (aL.callQ Ix (Af U y W aa) Z (mK [3] Z)) Z λaf=>aA Z<|aA Z<|aD (q_ Z Z) Z<|cJ Z<|fE h λt ab h=>aH (aL.callQ BE (jT U  t ab) Z .nil) Z λag=>cJ Z<|aH (cP (e:=cI) ([(wI .i64 (f.1+t))]) [(0,vI (wI .i64 (f.1+t)))] Z Z Z Z (qL (vI (wI .i64 (f.1+t))) Z) Z Z Z) Z λae=>eH h λR h=>aH (iL 4 dL Z Z Z (a_ (aF.res 0 Z) dL) Z Z Z Z R Z) Z λY=>aC Z<|eN<|oP<|aQ<|aA Z<|cJ Z<|aC Z<|aN ?_;exact mW ((d.1++([(wI .i64 (f.1+t))])),(wI .i64 (d.2+(1:Int)))) (Y) h SF (bA.ix [1,2,3,4] Z Z) (aE.refl _ _)
    refine gX ?_;exact iP (d.1) (m) h SF Z
   intro o j h;refine aQ<|aA Z<|aA Z<|jK (rR cI)<|bZ (Know.one ((a_ (aF.res 4 Z) dL))) λE=>jK (OO 0 4 Z Z Z) ?_;refine aH (cP (e:=dD.raw) [j] [(0,j)] Z Z Z Z (qL (j) E) Z Z (by simp[cellsOf,dD.raw,E])) Z λad=>?_;refine bZ (cO 4 Z) λC=>bZ (cO 1 Z) λD=>eH h λK h=>jK (MM 4 1 Z Z Z) ?_;refine aH (aL.append 2 0 Z Z Z Z Z Z Z (by have q:=K;have T:=C;have V:=D;(try simp only[List.length_cons,List.length_nil]at q T V ⊢);omega) (by have q:=K;have T:=C;have V:=D;(try simp only[List.length_cons,List.length_nil]at q T V ⊢);omega) Z) Z λX=>?_;refine aC Z<|eN<|oP<|aQ<|aA Z<|cJ Z<|aC Z<|aN ?_;exact mW ((b.1++[o]),(wI .i64 (b.2+(1:Int)))) (X,(a.2++[j])) h SF (bA.ix [1,2,3] Z Z) (aE.refl _ _)
  refine gX ?_;exact b_ (b.1) (a.1,a.2) h SF (bA.ix [1,2] Z Z) (aE.refl _ _)
 intro H A h;unfold uI at h;refine aP<|aA Z<|aC Z<|aN<|aV ?_;cases h;exact jE (A.1,A.2) Z Z (RV.tmp Z) (bA.refl _) aE.nil
end Go.Proofs.YtjkjpdonlpdcaaaGreatDoor
namespace Go.Proofs.YtjkjpdonlpdcaaaGreatDoor
open Go.Sx
theorem QP {R:Type} {step:Int->(Int->Option R)->Option R} {K:Option R} {bad:R} (N:Nat) (p:Nat->Prop)
  (r:∀(k:Nat) c,k<N->p k->step k c=c ((k:Int)+1)) (i:∀(k:Nat) c,k<N->¬p k->step k c=some bad) (j:∀c,step N c=K):
  ∀(b:Nat),N<b->((∀k,k<N->p k)->bP step b 0=K)∧(¬(∀k,k<N->p k)->bP step b 0=some bad):=by
 intro b q;have s:∀(d a b:Nat),a+d=N->d<b->((∀k,a<=k->k<N->p k)->bP step b (a:Int)=K)∧(¬(∀k,a<=k->k<N->p k)->bP step b (a:Int)=some bad):=by
  intro d
  induction d with
  |zero=>
   intro a b v q;obtain rfl:a=N:=by omega
   cases b with
   |zero=>omega
   |succ f=>exact⟨λ_=>j _,λh=>absurd (λk m g=>by omega) h⟩
  | succ d ih =>
   intro a b v q;cases b with
   |zero=>omega
   | succ f =>
    obtain⟨t,u⟩:=ih (a+1) f (by omega) (by omega);have e:((a+1:Nat):Int)=(a:Int)+1:=by omega
    rw[e]at t u;by_cases n:p a
    ·have w:bP step (f+1) (a:Int)=bP step f ((a:Int)+1):=r a _ (by omega) n;rw[w];refine⟨λh=>t λk m g=>h k (by omega) g,λh=>u λo=>h λk m g=> ?_⟩
     by_cases l:k=a
     ·subst l;exact n
     ·exact o k (by omega) g
    ·exact⟨λh=>absurd (h a (Nat.le_refl _) (by omega)) n,λ_=>i a _ (by omega) n⟩
 obtain⟨m,g⟩:=s N 0 b (by omega) q;exact⟨λh=>m λk _ l=>h k l,λh=>g λo=>h λk l=>o k (by omega) l⟩
abbrev GR:=List Int×fL
abbrev row (g:GR) (v:Nat):fD:=at' g.2 (v:Int)
abbrev Yi (g:GR) (v:Nat):Int:=at' g.1 (v:Int)
abbrev jA (l:fD) (i:Nat):dQ:=at' l (i:Int)
def acW (g:GR):Prop:=g.1.length<=30∧g.2.length<=30∧∀v,v<g.2.length->(row g v).length<=30
def Ik (l:fD) (v n i:Nat):Prop:=(0<=(jA l i).1∧(jA l i).1<=(n:Int) - 1)∧(jA l i).1≠v∧(1<=(jA l i).2∧(jA l i).2<=15)∧∀k,k<i->(jA l k).1≠(jA l i).1
def tS (l:fD) (v n:Nat):Prop:=∀i,i<l.length->Ik l v n i
def BV (l:fD) (u:Int):Int:=match l.findIdx? (λx=>decide (x.1=u))with
 |some i=>i
 |none=> -1
theorem NE {l:fD} {u:Int} (i:Nat) (b:i<l.length) (d:(jA l i).1=u) (c:∀k,k<i->(jA l k).1≠u):BV l u=i:=by
 have:l.findIdx? (λx=>decide (x.1=u))=some i:=by
  rw[List.findIdx?_eq_some_iff_getElem];have e:∀k (a:k<l.length),jA l k=l[k]:=λk a=>by rw[jA,jM,List.getD_eq_getElem?_getD,List.getElem?_eq_getElem a];rfl
  refine⟨b,by rw[<-e i b];simpa using d,λk a=> ?_⟩
  have:=c k a;rw[e k (by omega)]at this;simpa using this
 rw[BV,this]
theorem ND {l:fD} {u:Int} (b:∀k,k<l.length->(jA l k).1≠u):BV l u = -1:=by
 have:l.findIdx? (λx=>decide (x.1=u))=none:=by
  rw[List.findIdx?_eq_none_iff];intro x c;obtain⟨k,a,rfl⟩:=List.getElem_of_mem c;have:=b k a;rw[jA,jM,List.getD_eq_getElem?_getD,List.getElem?_eq_getElem a]at this;simpa using this
 rw[BV,this]
theorem LS (l:fD) (u:Int):(∃i,i<l.length∧(jA l i).1=u∧(∀k,k<i->(jA l k).1≠u)∧BV l u=i)∨((∀k,k<l.length->(jA l k).1≠u)∧BV l u = -1):=by
 by_cases h:∀k,k<l.length->(jA l k).1≠u
 ·exact .inr ⟨h,ND h⟩
 ·left;have f:∃k,k<l.length∧(jA l k).1=u:=by
   apply Classical.byContradiction;intro o;exact h λk g e=>o ⟨k,g,e⟩
  obtain⟨k,g,n⟩:=f;have:∀m,(∃k,k<=m∧k<l.length∧(jA l k).1=u)->∃i,i<l.length∧(jA l i).1=u∧∀k,k<i->(jA l k).1≠u:=by
   intro m
   induction m with
   |zero=>rintro⟨k,d,a,b⟩;exact⟨k,a,b,λj p=>by omega⟩
   |succ m q=>
    rintro⟨k,d,a,b⟩;by_cases c:∃j,j<=m∧j<l.length∧(jA l j).1=u
    ·exact q c
    ·exact⟨k,a,b,λj p e=>c ⟨j,by omega,by omega,e⟩⟩
  obtain⟨i,d,a,b⟩:=this k ⟨k,Nat.le_refl _,g,n⟩;exact⟨i,d,a,b,NE i d a b⟩
theorem Fx {X R:Type} {step:X->(X->Option R)->Option R} {K:X->Option R} {bad:R} (N:Nat) (p:Nat->Prop) (I:Nat->X->Prop)
  (t:∀(k:Nat) x g,k<N->I k x->p k->∃c,I (k+1) c∧step x g=g c) (j:∀(k:Nat) x g,k<N->I k x->¬p k->step x g=some bad) (l:∀x g,I N x->step x g=K x):
  ∀(b:Nat) (x:X),I 0 x->N<b->((∀k,k<N->p k)->∃c,I N c∧bP step b x=K c)∧(¬(∀k,k<N->p k)->bP step b x=some bad):=by
 intro b x e s;have v:∀(d a b:Nat) (x:X),a+d=N->d<b->I a x->((∀k,a<=k->k<N->p k)->∃c,I N c∧bP step b x=K c)∧(¬(∀k,a<=k->k<N->p k)->bP step b x=some bad):=by
  intro d
  induction d with
  |zero=>
   intro a b x w s e;obtain rfl:a=N:=by omega
   cases b with
   |zero=>omega
   |succ f=>exact⟨λ_=>⟨x,e,l _ _ e⟩,λh=>absurd (λk n i=>by omega) h⟩
  | succ d ih =>
   intro a b x w s e;cases b with
   |zero=>omega
   | succ f =>
    by_cases o:p a
    ·obtain⟨c,r,u⟩:=t a x (bP step f) (by omega) e o;have u:bP step (f+1) x=bP step f c:=u;obtain⟨y,z⟩:=ih (a+1) f c (by omega) (by omega) r;rw[u];refine⟨λh=>y λk n i=>h k (by omega) i,λh=>z λq=>h λk n i=> ?_⟩
     by_cases m:k=a
     ·subst m;exact o
     ·exact q k (by omega) i
    ·exact⟨λh=>absurd (h a (Nat.le_refl _) (by omega)) o,λ_=>j a x _ (by omega) e o⟩
 obtain⟨n,i⟩:=v N 0 b x (by omega) s e;exact⟨λh=>n λk _ m=>h k m,λh=>i λq=>h λk m=>q k (by omega) m⟩
def J_ (g:GR) (v i:Nat):Prop:=∃j,j<(at' g.2 (jA (row g v) i).1).length∧(jA (at' g.2 (jA (row g v) i).1) j).1=v∧(jA (at' g.2 (jA (row g v) i).1) j).2=(jA (row g v) i).2
structure ZK (g:GR) (v:Nat):Prop where
 id:0<=Yi g v∧Yi g v<=255
 deg:(row g v).length<g.2.length
 links:tS (row g v) v g.2.length
 ids:∀k,k<v->Yi g k≠Yi g v
structure VG (g:GR):Prop where
 n1:1<=g.2.length
 n24:g.2.length<=24
 len:g.1.length=g.2.length
 node:∀v,v<g.2.length->ZK g v
 sym:∀v,v<g.2.length->∀i,i<(row g v).length->J_ g v i
theorem uO {a:Type} [Inhabited a] (l:List a) (i k:Nat) (y:a) (b:i<l.length):at' (l.set i y) (k:Int)=if k=i then y else at' l (k:Int):=by
 rw[jM,jM,List.getD_eq_getElem?_getD,List.getD_eq_getElem?_getD,List.getElem?_set];by_cases h:i=k
 ·rw[if_pos h,if_pos h.symm,if_pos (by omega)];rfl
 ·rw[if_neg h,if_neg (Ne.symm h)]
def Tt (l:aS) (k:Nat):Prop:=(0<=at' l (k:Int)∧at' l (k:Int)<=255)∧∀j,j<k->at' l (j:Int)≠at' l (k:Int)
theorem tT (l:aS) (C:l.length<=30):((∀k,k<l.length->Tt l k)->jD 1000 l=some true)∧(¬(∀k,k<l.length->Tt l k)->jD 1000 l=some false):=by
 unfold jD;have i:=Fx (step:=fS l) (K:=λ_=>some true) (bad:=false) l.length (Tt l) (λk x=>x.1=(k:Int)∧x.2.length=256∧∀z:Nat,z<256->(at' x.2 (z:Int)=true↔∃j,j<k∧at' l (j:Int)=(z:Int))) ?_ ?_ ?_ 1000 ((0:Int),(List.replicate 256 false)) ⟨rfl,List.length_replicate ..,λz c=> ?_⟩ (by omega)
 ·exact⟨λh=>by obtain⟨x,_,b⟩:=i.1 h;exact b,i.2⟩
 ·rintro k ⟨t,m⟩ q w ⟨b,a,f⟩ ⟨D,v⟩;dsimp only at b a f;subst b;obtain⟨z,c⟩:∃z:Nat,at' l (k:Int)=z:=⟨(at' l (k:Int)).toNat,by omega⟩
  have p:z<256:=by omega
  have o:¬at' m (z:Int)=true:=by
   rw[f z p];rintro⟨j,e,d⟩;exact v j e (d.trans c.symm)
  refine⟨((k:Int)+1,m.set z true),⟨by simp,by simp[a],λy B=> ?_⟩,?_⟩
  ·dsimp only;rw[uO _ _ _ _ (by omega)];by_cases g:y=z
   ·subst g;rw[if_pos Z];exact⟨λ_=>⟨k,by omega,c⟩,λ_=>rfl⟩
   ·rw[if_neg g,f y B];constructor
    ·rintro⟨j,e,d⟩;exact⟨j,by omega,d⟩
    ·rintro⟨j,e,d⟩;by_cases n:j=k
     ·subst n;rw[c]at d;omega
     ·exact⟨j,by omega,d⟩
  ·unfold fS iG;dsimp only;rw[if_pos (by omega),cS (by omega),c,if_neg (by omega),if_neg (by omega),cS ⟨by omega,a⟩,if_neg o,cS ⟨by omega,a⟩,wr (by omega) (by omega)];rfl
 ·rintro k ⟨t,m⟩ q w ⟨b,a,f⟩ A;dsimp only at b a f;subst b;unfold fS iG;dsimp only;rw[if_pos (by omega),cS (by omega)];by_cases r:at' l (k:Int)<0
  ·rw[if_pos r,if_pos Z]
  rw[if_neg r];by_cases s:255<at' l (k:Int)
  ·rw[if_pos s,if_pos Z]
  rw[if_neg s];obtain⟨z,c⟩:∃z:Nat,at' l (k:Int)=z:=⟨(at' l (k:Int)).toNat,by omega⟩
  rw[c,cS ⟨by omega,a⟩,if_pos];rw[f z (by omega)];apply Classical.byContradiction;intro u;exact A ⟨by omega,λj e d=>u ⟨j,e,d.trans c⟩⟩
 ·rintro⟨t,m⟩ q ⟨b,_,_⟩;dsimp only at b;subst b;unfold fS nV;dsimp only;rw[if_neg (by omega)]
 ·rw[show at' (List.replicate 256 false) (z:Int)=false by rw[jM,List.getD_eq_getElem?_getD,List.getElem?_replicate,if_pos c];rfl];exact⟨λh=>(by cases h),fun⟨j,e,_⟩=>(by omega)⟩
theorem SR {d e:Type} [DecidableEq d] (k c:d) (v:e):∀l:List (d×e),mT c (BU k v l)=if c=k then some v else mT c l
 | []=>by simp only[BU,mT]
 | x :: xs => by
  simp only[BU];by_cases h:k=x.1
  ·rw[if_pos h];simp only[mT];by_cases a:c=k
   ·rw[if_pos a,if_pos a]
   ·rw[if_neg a,if_neg a,if_neg (λb=>a (b.trans h.symm))]
  ·rw[if_neg h];simp only[mT];by_cases a:c=x.1
   ·rw[if_pos a,if_neg (λb=>h (b.symm.trans a)),if_pos a]
   ·rw[if_neg a,SR k c v xs];by_cases b:c=k
    ·rw[if_pos b,if_pos b]
    ·rw[if_neg b,if_neg b,if_neg a]
theorem Nq {a b:Type} [DecidableEq a] {k:a} {v:b} {z:a×b} {l:List (a×b)} (c:mT k l=none):z∈BU k v l↔z=(k,v)∨z∈l:=by
 rw[GG k v l c];simp[or_comm]
theorem GD {a c:Type} [DecidableEq a] {k:a}:∀{l:List (a×c)},(∀v,(k,v)∉l)->mT k l=none
 | [],_=>rfl
 |x::xs,h=>by
  simp only[mT];rw[if_neg (λe=>h x.2 (by rw[e];exact List.mem_cons_self ..))];exact GD λv b=>h v (List.mem_cons_of_mem _ b)
theorem tH {b c:Type} [DecidableEq b] {k:b} {v:c}:∀{l:List (b×c)},mT k l=none->(k,v)∉l
 | [],_=>by simp
 | x :: xs, h => by
  simp only[mT]at h;by_cases e:k=x.1
  ·rw[if_pos e]at h;cases h
  ·rw[if_neg e]at h;intro d;rcases List.mem_cons.1 d with a|a
   ·exact e (by rw[<-a])
   ·exact tH h a
theorem Bi {a b:Type} [DecidableEq a] {k:a} {v:b}:∀{l:List (a×b)},mT k l=some v->(k,v)∈l
 |x::xs,h=>by
  simp only[mT]at h;by_cases e:k=x.1
  ·rw[if_pos e]at h;cases h;rw[e];exact List.mem_cons_self ..
  ·rw[if_neg e]at h;exact List.mem_cons_of_mem _ (Bi h)
theorem Jc {a b:Type} (p:a×b->Prop) [DecidablePred p]:∀l:List (a×b),JM (λd x=>if p d then some false else x) (some true) l=some (decide (∀z∈l,¬p z))
 | []=>by simp[JM]
 |x::xs=>by
  show(if p x then some false else JM _ (some true) xs)=_;rw[Jc p xs];by_cases h:p x
  ·rw[if_pos h];congr 1;symm;exact decide_eq_false λc=>c x (List.mem_cons_self ..) h
  ·rw[if_neg h];congr 1;apply decide_eq_decide.2;simp[h]
def MH (c:fL) (v i:Nat) (z:(Int×Int)×Int):Prop:=∃a b:Nat,(a<v∨(a=v∧b<i))∧b<(at' c (a:Int)).length∧z=(((a:Int),(jA (at' c (a:Int)) b).1),(jA (at' c (a:Int)) b).2)
def Ka (a:fL):Prop:=(∀v,v<a.length->tS (at' a (v:Int)) v a.length)∧∀v,v<a.length->∀i,i<(at' a (v:Int)).length->J_ ([],a) v i
theorem FI (c:fL) (hn:c.length<=30) (hd:∀v,v<c.length->(at' c (v:Int)).length<=30):(Ka c->fW 1000 c=some true)∧(¬Ka c->fW 1000 c=some false):=by
 unfold fW;have s:∀(v:Nat) (m:List ((Int×Int)×Int)) p,v<c.length->(∀z,z∈m↔MH c v 0 z)->
   (tS (at' c (v:Int)) v c.length->∃X,(∀z,z∈X↔MH c (v+1) 0 z)∧bP (cB c ((v:Int),m) p) 1000 ((0:Int),m)=p ((v:Int)+1,X))∧
   (¬tS (at' c (v:Int)) v c.length->bP (cB c ((v:Int),m) p) 1000 ((0:Int),m)=some false):=by
  intro v m p F hm;have af:=hd v F;have R:=Fx (step:=cB c ((v:Int),m) p) (K:=λx=>p ((v:Int)+1,x.2)) (bad:=false) (at' c (v:Int)).length (Ik (at' c (v:Int)) v c.length) (λi x=>x.1=(i:Int)∧∀z,z∈x.2↔MH c v i z) ?_ ?_ ?_ 1000 ((0:Int),m) ⟨rfl,hm⟩ (by omega)
  ·refine⟨λh=> ?_,λh=>R.2 h⟩
   obtain⟨x,⟨ah,ad⟩,f⟩:=R.1 h;refine⟨x.2,λz=>(ad z).trans ⟨?_,?_⟩,f⟩
   ·rintro⟨a,b,y,e,l⟩;exact⟨a,b,by omega,e,l⟩
   ·rintro⟨a,b,y,e,l⟩;refine⟨a,b,?_,e,l⟩
    by_cases W:a=v
    ·subst W;exact .inr ⟨rfl,e⟩
    ·omega
  ·rintro i ⟨H,g⟩ I M ⟨f,d⟩ ⟨p1,p2,p3,p4⟩;dsimp only at f d;subst f;have q:mT (((v:Int),(jA (at' c (v:Int)) i).1)) g=none:=by
    apply GD;intro w hw;obtain⟨a,b,y,e,l⟩:=(d _).1 hw;simp only[Prod.mk.injEq]at l;obtain⟨⟨C,A⟩,_⟩:=l;have:a=v:=by omega
    subst this;have hb:b<i:=by omega
    exact p4 b hb A.symm
   refine⟨((i:Int)+1,BU (((v:Int),(jA (at' c (v:Int)) i).1)) (jA (at' c (v:Int)) i).2 g),⟨by simp,λz=> ?_⟩,?_⟩
   ·dsimp only;rw[Nq q,d];constructor
    ·rintro(rfl|⟨a,b,y,e,l⟩)
     ·exact⟨v,i,.inr ⟨rfl,by omega⟩,M,rfl⟩
     ·exact⟨a,b,by omega,e,l⟩
    ·rintro⟨a,b,y,e,l⟩;by_cases J:a=v∧b=i
     ·left;rw[l,J.1,J.2]
     ·right;exact⟨a,b,by omega,e,l⟩
   ·replace p1:0<=(at' (at' c (v:Int)) (i:Int)).1∧(at' (at' c (v:Int)) (i:Int)).1<=(c.length:Int) - 1:=p1;replace p3:1<=(at' (at' c (v:Int)) (i:Int)).2∧(at' (at' c (v:Int)) (i:Int)).2<=15:=p3;unfold cB gG iU;dsimp only;rw[if_pos (by omega),cS (by omega),if_neg (by omega),if_neg (by omega),if_neg (by rw[decide_eq_false p2];simp),if_neg (by omega),if_neg (by rw[decide_eq_false (by omega)];simp),q,if_neg (by simp),wr (by omega) (by omega)]
  ·rintro i ⟨H,g⟩ I M ⟨f,d⟩ P;dsimp only at f d;subst f;unfold cB gG iU;dsimp only;rw[if_pos (by omega),cS (by omega)];by_cases y:(jA (at' c (v:Int)) i).1<0
   ·rw[if_pos y,if_pos Z]
   rw[if_neg y];by_cases e:(c.length:Int)<=(jA (at' c (v:Int)) i).1
   ·rw[if_pos e,if_pos Z]
   rw[if_neg e];by_cases l:(jA (at' c (v:Int)) i).1=v
   ·rw[if_pos (decide_eq_true l)]
   rw[if_neg (by rw[decide_eq_false l];simp)];by_cases C:(jA (at' c (v:Int)) i).2<1
   ·rw[if_pos C,if_pos Z]
   rw[if_neg C];by_cases A:15<(jA (at' c (v:Int)) i).2
   ·rw[if_pos (decide_eq_true A)]
   rw[if_neg (by rw[decide_eq_false A];simp)];have:∃k,k<i∧(jA (at' c (v:Int)) k).1=(jA (at' c (v:Int)) i).1:=by
    apply Classical.byContradiction;intro hc;exact P ⟨by omega,l,by omega,λk N L=>hc ⟨k,N,L⟩⟩
   obtain⟨k,N,L⟩:=this;have n:=(d _).2 ⟨v,k,.inr ⟨rfl,N⟩,by omega,rfl⟩;rw[if_pos];rw[<-L];cases q:mT (((v:Int),(jA (at' c (v:Int)) k).1)) g with
   |some w=>rfl
   | none => exact absurd n (by
     intro n;exact tH q n)
  ·rintro⟨H,g⟩ I ⟨f,d⟩;dsimp only at f d;subst f;unfold cB nD;dsimp only;rw[if_neg (by omega),wr (by omega) (by omega)]
 have t:=Fx (step:=cN 1000 c) (K:=λx=>iS x.2) (bad:=false) c.length (λv=>tS (at' c (v:Int)) v c.length) (λv x=>x.1=(v:Int)∧∀z,z∈x.2↔MH c v 0 z) ?_ ?_ ?_ 1000 ((0:Int),[]) ⟨rfl,λz=>⟨λh=>(by cases h),fun⟨a,b,y,_⟩=>(by omega)⟩⟩ (by omega)
 rotate_left
 ·rintro v ⟨H,g⟩ p F ⟨f,d⟩ P;dsimp only at f d;subst f;obtain⟨X,y,e⟩:=(s v g p F d).1 P;refine⟨((v:Int)+1,X),⟨by simp,y⟩,?_⟩
  ·unfold cN;dsimp only;rw[if_pos (by omega),cS (by omega)];exact e
 ·rintro v ⟨H,g⟩ p F ⟨f,d⟩ P;dsimp only at f d;subst f;unfold cN;dsimp only;rw[if_pos (by omega),cS (by omega)];exact(s v g p F d).2 P
 ·rintro⟨H,g⟩ p ⟨f,d⟩;dsimp only at f d;subst f;unfold cN;dsimp only;rw[if_neg (by omega)]
 by_cases D:∀v,v<c.length->tS (at' c (v:Int)) v c.length
 rotate_left
 ·exact⟨λh=>absurd h.1 D,λ_=>t.2 D⟩
 obtain⟨⟨H,g⟩,⟨f,d⟩,L⟩:=t.1 D;rw[L];dsimp only at d ⊢;have N:iS g=some (decide (∀z∈g,¬(Option.getD (mT (z.1.2,z.1.1) g) (0:Int))≠z.2)):=Jc (λz:(Int×Int)×Int=>(Option.getD (mT (z.1.2,z.1.1) g) (0:Int))≠z.2) g;rw[N];have E:(∀z∈g,¬(Option.getD (mT (z.1.2,z.1.1) g) (0:Int))≠z.2)↔∀v,v<c.length->∀i,i<(at' c (v:Int)).length->J_ ([],c) v i:=by
  constructor
  ·intro h v F i M;have hw:=(D v F i M).2.2.1;have n:=(d (((v:Int),(jA (at' c (v:Int)) i).1),(jA (at' c (v:Int)) i).2)).2 ⟨v,i,.inl F,M,rfl⟩;have e:=Decidable.not_not.1 (h _ n);dsimp only at e;cases q:mT ((jA (at' c (v:Int)) i).1,(v:Int)) g with
   |none=>rw[q]at e;simp only[Option.getD]at e;omega
   | some w =>
    rw[q]at e;simp only[Option.getD]at e;obtain⟨a,b,l,C,A⟩:=(d _).1 (Bi q);simp only[Prod.mk.injEq]at A;obtain⟨⟨T,U⟩,h8⟩:=A;refine⟨b,?_,?_,?_⟩
    ·show b<(at' c (jA (at' c (v:Int)) i).1).length;rw[T];exact C
    ·show(jA (at' c (jA (at' c (v:Int)) i).1) b).1=v;rw[T];exact U.symm
    ·show(jA (at' c (jA (at' c (v:Int)) i).1) b).2=(jA (at' c (v:Int)) i).2;rw[T,<-h8];exact e
  ·intro h z hz ac;obtain⟨a,b,l,C,rfl⟩:=(d z).1 hz;have W:a<c.length:=by omega
   apply ac;obtain⟨j,r,o,B⟩:=h a W b C;have hu:=(D a W b C).1;obtain⟨u,Q⟩:∃u:Nat,(jA (at' c (a:Int)) b).1=u:=⟨(jA (at' c (a:Int)) b).1.toNat,by omega⟩
   replace r:j<(at' c (jA (at' c (a:Int)) b).1).length:=r;replace o:(jA (at' c (jA (at' c (a:Int)) b).1) j).1=a:=o;replace B:(jA (at' c (jA (at' c (a:Int)) b).1) j).2=(jA (at' c (a:Int)) b).2:=B;rw[Q]at r o B;have G:u<c.length:=by omega
   dsimp only;rw[Q,<-B];have n:=(d (((u:Int),(jA (at' c (u:Int)) j).1),(jA (at' c (u:Int)) j).2)).2 ⟨u,j,.inl G,r,rfl⟩;rw[o]at n;cases q:mT ((u:Int),(a:Int)) g with
   |none=>exact absurd n (tH q)
   | some w =>
    obtain⟨Y,S,ae,aa,A⟩:=(d _).1 (Bi q);simp only[Prod.mk.injEq]at A;obtain⟨⟨T,U⟩,h8⟩:=A;have:Y=u:=by omega
    subst this;have ab:S=j:=by
     rcases Nat.lt_trichotomy S j with O|O|O
     ·exact absurd (U.symm.trans o.symm) ((D Y G j r).2.2.2 S O)
     ·exact O
     ·exact absurd (o.trans U) ((D Y G S aa).2.2.2 j O)
    subst ab;exact h8
 by_cases V:∀v,v<c.length->∀i,i<(at' c (v:Int)).length->J_ ([],c) v i
 ·rw[decide_eq_true (E.2 V)];exact⟨λ_=>rfl,λh=>absurd ⟨D,V⟩ h⟩
 ·rw[decide_eq_false (λh=>V (E.1 h))];exact⟨λh=>absurd h.2 V,λ_=>rfl⟩
theorem LR:∀(N:Nat) (f:Nat->Nat) (k:Nat),(∀i,i<k->f i<N)->(∀i j,i<j->j<k->f i≠f j)->k<=N
 |0,f,k,h,_=>by
  cases k with
  |zero=>omega
  |succ k=>exact absurd (h 0 (by omega)) (by omega)
 | N + 1, f, k, h, hd => by
  by_cases b:∃a,a<k∧f a=N
  ·obtain⟨a,g,l⟩:=b;have:=LR N (λi=>if i<a then f i else f (i+1)) (k - 1) (λi c=>by
    split
    ·have:=h i (by omega);have:=hd i a (by omega) g;omega
    ·have:=h (i+1) (by omega);have:=hd a (i+1) (by omega) (by omega);omega) (λi j d m=>by
    split<;>split
    ·exact hd i j d (by omega)
    ·exact hd i (j+1) (by omega) (by omega)
    ·omega
    ·exact hd (i+1) (j+1) (by omega) (by omega))
   omega
  ·have:=LR N f k (λi c=>by
    have:=h i c;have:f i≠N:=λe=>b ⟨i,c,e⟩;omega) hd
   omega
theorem Pf {l:fD} {v n:Nat} (b:v<n) (h:tS l v n):l.length<n:=by
 have:=LR n (λi=>if i=l.length then v else(jA l i).1.toNat) (l.length+1) (λi e=>by
  split
  ·exact b
  ·have:=(h i (by omega)).1;omega) (λi j a f=>by
  rw[if_neg (by omega)];have c:=(h i (by omega)).1;split
  ·have:=(h i (by omega)).2.1;omega
  ·have d:=(h j (by omega)).1;have:=(h j (by omega)).2.2.2 i a;omega)
 omega
theorem adu (g:GR) (j:acW g):(VG g->eC 1000 g=some true)∧(¬VG g->eC 1000 g=some false):=by
 obtain⟨e,f,i⟩:=j;unfold eC pT pU;by_cases l:g.1.length<1
 ·rw[if_pos (by omega)];exact⟨λh=>by have:=h.n1;have:=h.len;omega,λ_=>rfl⟩
 rw[if_neg (by omega)];by_cases m:24<g.1.length
 ·rw[if_pos (by omega)];exact⟨λh=>by have:=h.n24;have:=h.len;omega,λ_=>rfl⟩
 rw[if_neg (by omega)];by_cases d:g.1.length=g.2.length
 rotate_left
 ·rw[decide_eq_true (by omega)];exact⟨λh=>absurd h.len d,λ_=>rfl⟩
 rw[decide_eq_false (by omega),if_neg (by simp)];by_cases b:∀k,k<g.1.length->Tt g.1 k
 rotate_left
 ·rw[(tT g.1 e).2 b,bF Z];exact⟨λh=>absurd (λk n=>⟨(h.node k (by omega)).id,(h.node k (by omega)).ids⟩) b,λ_=>rfl⟩
 rw[(tT g.1 e).1 b,bF Z,if_pos Z];by_cases a:Ka g.2
 ·rw[(FI g.2 f i).1 a];exact⟨λ_=>rfl,λh=>absurd ⟨by omega,by omega,d,λv c=>⟨(b v (by omega)).1,Pf c (a.1 v c),a.1 v c,(b v (by omega)).2⟩,a.2⟩ h⟩
 ·rw[(FI g.2 f i).2 a];exact⟨λh=>absurd ⟨λv c=>(h.node v c).links,h.sym⟩ a,λ_=>rfl⟩
abbrev D (d:aS) (v:Nat):Int:=at' d (v:Int)
def Cc (g:GR) (v u:Nat):Prop:=∃i,i<(row g v).length∧(jA (row g v) i).1=(u:Int)
theorem VG.port {g:GR} (h:VG g) {v i:Nat} (b:v<g.2.length) (a:i<(row g v).length):∃u:Nat,u<g.2.length∧(jA (row g v) i).1=(u:Int)∧Cc g v u:=by
 have c:=((h.node v b).links i a).1;exact⟨(jA (row g v) i).1.toNat,by omega,by omega,i,a,by omega⟩
theorem VG.back {g:GR} (h:VG g) {v u:Nat} (f:v<g.2.length) (c:Cc g v u):Cc g u v:=by
 obtain⟨i,d,e⟩:=c;obtain⟨j,b,a,_⟩:=h.sym v f i d;rw[e]at b a;exact⟨j,b,a⟩
theorem VG.adj_lt {g:GR} (h:VG g) {v u:Nat} (c:v<g.2.length) (a:Cc g v u):u<g.2.length:=by
 obtain⟨i,b,d⟩:=a;have:=((h.node v c).links i b).1;omega
def Fo (d:aS):Nat:=d.countP λx=>decide (x<0)
structure Ox (g:GR) (s:Nat) (d:aS):Prop where
 len:d.length=g.2.length
 lo:∀v,v<g.2.length -> -1<=D d v
 zero:∀v,v<g.2.length->(D d v=0↔v=s)
 near:∀v,v<g.2.length->0<D d v->∃u,u<g.2.length∧Cc g v u∧D d u=D d v - 1
 hi:∀v,v<g.2.length->D d v+(Fo d:Int)<=(g.2.length:Int)
structure Qu (g:GR) (q d:aS) (b:Int) (done:Nat->Prop):Prop where
 mem:∀y∈q,∃v,v<g.2.length∧y=((v:Nat):Int)∧0<=D d v
 top:∀v,v<g.2.length->D d v<=b
 sort:q.Pairwise λa c=>at' d a<=at' d c
 done:∀v,v<g.2.length->0<=D d v->((v:Nat):Int)∉q->done v->∀u,u<g.2.length->Cc g v u->0<=D d u∧D d u<=D d v+1
theorem JV {d:aS} {v:Nat} (h:v<d.length):D d v=d[v]:=by
 rw[D,jM,List.getD_eq_getElem?_getD,List.getElem?_eq_getElem h];rfl
theorem IE {d:aS} {u:Nat} {x:Int} (a:u<d.length) (b:D d u<0) (e:0<=x):Fo (d.set u x)+1=Fo d:=by
 unfold Fo;rw[List.countP_set a];have c:0<d.countP λx=>decide (x<0):=by
  rw[List.countP_pos_iff];exact⟨d[u],List.getElem_mem a,by rw[<-JV a];simpa using b⟩
 rw[JV a]at b;rw[if_pos (by simpa using b),if_neg (by simp;omega)];omega
theorem assign {g:GR} {s:Nat} {q d:aS} {b:Int} {done:Nat->Prop} (E:VG g) (l:Ox g s d) {x u:Nat} (m:Qu g q d (D d x+1) done) (B:x<g.2.length) (K:0<=D d x) (J:u<g.2.length) (t:D d u<0) (F:Cc g x u):
  Ox g s (d.set u (D d x+1))∧Qu g (q++[(u:Int)]) (d.set u (D d x+1)) (D d x+1) done:=by
 have o:=l.len;have e:∀v,D (d.set u (D d x+1)) v=if v=u then D d x+1 else D d v:=λv=>uO _ _ _ _ (by omega);have G:=IE (x:=D d x+1) (by omega:u<d.length) t (by omega);refine⟨⟨by simp[o],λv f=> ?_,λv f=> ?_,λv f=> ?_,λv f=> ?_⟩,⟨λy j=> ?_,λv f=> ?_,?_,λv f k n H w A i=> ?_⟩⟩
 ·rw[e];split
  ·omega
  ·exact l.lo v f
 ·rw[e];split
  ·rename_i h;subst h;have:=(l.zero v f)
   constructor
   ·intro;omega
   ·intro h;have:=this.2 h;omega
  ·exact l.zero v f
 ·rw[e];split
  ·rename_i h;subst h;intro _;refine⟨x,B,E.back B F,?_⟩
   rw[e,if_neg (by intro h;subst h;omega)];omega
  ·intro k;obtain⟨w,A,i,I⟩:=l.near v f k;refine⟨w,A,i,?_⟩
   rw[e,if_neg (by intro h;subst h;omega)];exact I
 ·rw[e];split
  ·have:=l.hi x B;omega
  ·have:=l.hi v f;omega
 ·rcases List.mem_append.1 j with j|j
  ·obtain⟨v,f,rfl,k⟩:=m.mem y j;refine⟨v,f,rfl,?_⟩
   rw[e];split<;>omega
  ·simp only[List.mem_singleton]at j;refine⟨u,J,j,?_⟩
   rw[e,if_pos Z];omega
 ·rw[e];split
  ·omega
  ·exact m.top v f
 ·rw[List.pairwise_append];have n:∀y∈q,at' (d.set u (D d x+1)) y=at' d y:=by
   intro y j;obtain⟨v,f,rfl,k⟩:=m.mem y j;have:=e v;rw[if_neg (by intro h;subst h;omega)]at this;exact this
  refine⟨m.sort.imp_of_mem λ{a c} h1 r h=> ?_,List.pairwise_singleton ..,λy j z C=> ?_⟩
  ·rw[n a h1,n c r];exact h
  ·simp only[List.mem_singleton]at C;subst C;rw[n y j];have r:=e u;rw[if_pos Z]at r;obtain⟨v,f,rfl,k⟩:=m.mem y j;have:=m.top v f;show D d v<=D (d.set u (D d x+1)) u;omega
 ·have p:v≠u:=by
   rintro rfl;exact n (by simp)
  rw[e,if_neg p]at k;rw[e v,if_neg p];have:=m.done v f k (λh=>n (List.mem_append_left _ h)) H w A i;rw[e w,if_neg (by rintro rfl;omega)];exact this
theorem LW {g:GR} (E:VG g) {s x:Nat} (I:x<g.2.length) (a e:aS) (R:List Int×aS->Option aS) (r:aS->Prop)
  (o:Ox g s e) (ae:0<=D e x) (m:Qu g a e (D e x+1) (λv=>v≠x)) (hm:a.length+Fo e<=g.2.length)
  (K:∀q d,Ox g s d->D d x=D e x->Qu g q d (D d x+1) (λ_=>True)->q.length+Fo d=a.length+Fo e->(∀y∈q,D e x<=at' d y)->OK r (R (q,d)))
  (l:∀y∈a,D e x<=at' e y):
  OK r (bP (yK g ((x:Int)::a,e) R) 1000 ((0:Int),a,e)):=by
 have U:=(E.node x I).deg;have aa:=E.n24;refine vM (λz:Int×List Int×aS=>∃k:Nat,z.1=k∧k<=(row g x).length∧Ox g s z.2.2∧D z.2.2 x=D e x∧Qu g z.2.1 z.2.2 (D e x+1) (λv=>v≠x)∧z.2.1.length+Fo z.2.2=a.length+Fo e∧(∀i,i<k->∀u:Nat,(jA (row g x) i).1=u->0<=D z.2.2 u)∧(∀y∈z.2.1,D e x<=at' z.2.2 y)) (λz=>31 - z.1.toNat) ?_ 1000 _ ⟨0,rfl,by omega,o,rfl,m,rfl,λi L=>by omega,l⟩ (by simp);rintro⟨z1,q,d⟩ X ⟨k,W,hk,o,f,m,A,F,l⟩ p;dsimp only at W o f m A F l;subst W;have V:=o.len;have e0:at' ((x:Int)::a) 0=(x:Int):=rfl;unfold yK yI;dsimp only;rw[e0];by_cases N:k<(row g x).length
 ·rw[if_pos (show(k:Int)<((row g x).length:Int) by omega),cS (show 0<=(k:Int)∧(k:Int)<((row g x).length:Int) by omega)];obtain⟨u,G,O,j⟩:=E.port I N;rw[show at' (at' g.2 (x:Int)) (k:Int)=jA (row g x) k from rfl,O,cS (by omega)];have ac:=o.hi x I;by_cases c:at' d (u:Int)<0
  ·have J:Qu g q d (D d x+1) (λv=>v≠x):=by rw[f];exact m
   obtain⟨Y,c2⟩:=assign (b:=0) E o J I (by omega) G c j;have ab:=IE (x:=D d x+1) (by omega:u<d.length) c (by omega);have n:∀v,D (d.set u (D d x+1)) v=if v=u then D d x+1 else D d v:=λv=>uO _ _ _ _ (by omega);have Q:x≠u:=by rintro rfl;have:D d x<0:=c;omega
   rw[if_pos c,cS (by omega),cS (by omega),cS (by simp only[List.length_singleton];omega),wr (x:=(k:Int)+1) (by omega) (by omega),wr (x:=at' d (x:Int)+1) (by show -9223372036854775808<=D d x+1;omega) (by show D d x+1<=_;omega)];refine p _ ⟨k+1,by simp,by omega,Y,?_,?_,?_,?_,?_⟩ (by dsimp only;omega)
   ·show D (d.set u (D d x+1)) x=_;rw[n,if_neg Q];exact f
   ·rw[<-f];exact c2
   ·show(q++[(u:Int)]).length+Fo (d.set u (D d x+1))=_;simp only[List.length_append,List.length_singleton];omega
   ·intro i L w P;show 0<=D (d.set u (D d x+1)) w;rw[n];split
    ·omega
    ·by_cases t:i=k
     ·subst t;omega
     ·exact F i (by omega) w P
   ·intro y B;show D e x<=at' (d.set u (D d x+1)) y;rcases List.mem_append.1 B with B|B
    ·have h1:=l y B;obtain⟨v,H,rfl,S⟩:=m.mem y B;have T:=n v;rw[if_neg (by intro h;subst h;have:D d v<0:=c;omega)]at T;rw[show at' (d.set u (D d x+1)) (v:Int)=D d v from T];exact h1
    ·simp only[List.mem_singleton]at B;subst B;rw[show at' (d.set u (D d x+1)) (u:Int)=D d x+1 from(n u).trans (if_pos Z)];omega
  ·rw[if_neg c,wr (by omega) (by omega)];refine p _ ⟨k+1,by simp,by omega,o,f,m,A,?_,l⟩ (by dsimp only;omega);intro i L w P;by_cases t:i=k
   ·subst t;have:w=u:=by omega
    subst this;show 0<=at' d (w:Int);omega
   ·exact F i (by omega) w P
 ·rw[if_neg (show¬(k:Int)<((row g x).length:Int) by omega)];have ad:k=(row g x).length:=by omega
  refine K q d o f ⟨m.mem,λv H=>by rw[f];exact m.top v H,m.sort,λv H S hq _ u G j=> ?_⟩ A l;by_cases C:v=x
  ·subst C;obtain⟨i,L,M⟩:=j;exact⟨F i (by omega) u M,by rw[f];exact m.top u G⟩
  ·exact m.done v H S hq C u G j
structure ach (g:GR) (s:Nat) (d:aS):Prop where
 len:d.length=g.2.length
 lo:∀v,v<g.2.length -> -1<=D d v
 zero:∀v,v<g.2.length->(D d v=0↔v=s)
 near:∀v,v<g.2.length->0<D d v->∃u,u<g.2.length∧Cc g v u∧D d u=D d v - 1
 next:∀v,v<g.2.length->0<=D d v->∀u,u<g.2.length->Cc g v u->0<=D d u∧D d u<=D d v+1
 hi:∀v,v<g.2.length->D d v<=(g.2.length:Int)
theorem NT {g:GR} (t:VG g) {s:Nat} (f:aS) (k:aS) (b:Ox g s f) (c:Qu g k f (match k with|[]=>1000|y::_=>at' f y+1) (λ_=>True)) (j:k.length+Fo f<=g.2.length):
  OK (ach g s) (bP (yJ 1000 g) 1000 (k,f)):=by
 have G:=t.n24;refine vM (λz:List Int×aS=>Ox g s z.2∧Qu g z.1 z.2 (match z.1 with|[]=>1000|y::_=>at' z.2 y+1) (λ_=>True)∧z.1.length+Fo z.2<=g.2.length) (λz=>z.1.length+Fo z.2) ?_ 1000 _ ⟨b,c,j⟩ (by dsimp only;omega);rintro⟨q,d⟩ C ⟨b,c,j⟩ m;dsimp only at b c j;unfold yJ Ci;dsimp only;cases q with
 |nil=>
  rw[if_neg (by simp)];exact⟨d,rfl,b.len,b.lo,b.zero,b.near,λv e l u n a=>c.done v e l (by simp) trivial u n a,λv e=>by have:=b.hi v e;omega⟩
 | cons y rest =>
  obtain⟨x,A,rfl,p⟩:=c.mem y (List.mem_cons_self ..);have F:at' ((x:Int)::rest) 0=(x:Int):=rfl;rw[if_pos (by simp only[List.length_cons];omega),cS (by simp only[List.length_cons];omega),cS (by simp only[List.length_cons];omega),F,cS (by omega)];have w:=List.pairwise_cons.1 c.sort;simp only[List.length_cons]at j;refine LW t A rest d C _ b p ⟨λz I=>c.mem z (List.mem_cons_of_mem _ I),c.top,w.2,λv e l H o u n a=>c.done v e l (λh=> ?_) trivial u n a⟩ (by omega) (λB E r J i K D=> ?_) w.1
  ·rcases List.mem_cons.1 h with h|h
   ·exact o (by omega)
   ·exact H h
  ·refine m (B,E) ⟨r,⟨i.mem,λv e=> ?_,i.sort,i.done⟩,by dsimp only;omega⟩ (by simp only[List.length_cons];omega);dsimp only;have L:=i.top v e;cases B with
   |nil=>
    dsimp only;have:=r.hi x A;omega
   |cons z M=>
    dsimp only;have:=D z (List.mem_cons_self ..);omega
theorem abD {g:GR} (l:VG g) {s:Nat} (m:s<g.2.length):OK (ach g s) (CS 1000 g (s:Int)):=by
 have q:=l.n24;unfold CS;rw[cS (by omega)];refine vM (λz:Aj=>∃k:Nat,z.1=k∧k<=g.2.length∧z.2.length=g.2.length∧∀v,v<k->D z.2 v = -1) (λz=>31 - z.1.toNat) ?_ 1000 _ ⟨0,rfl,by omega,by simp,λv c=>by omega⟩ (by simp);rintro⟨C,d⟩ A ⟨k,o,B,e,j⟩ i;dsimp only at o e j;subst o;unfold Cj;simp only[List.length_replicate,Int.toNat_natCast];by_cases u:k<g.2.length
 ·rw[if_pos (by omega),cS (by omega),wr (by omega) (by omega)];refine i _ ⟨k+1,by simp,by omega,by simp[e],λv c=> ?_⟩ (by dsimp only;omega);show at' (d.set k (-1)) (v:Int) = -1;rw[uO _ _ _ _ (by omega)];split
  ·rfl
  ·exact j v (by omega)
 ·rw[if_neg (by omega)];unfold Ch;rw[cS (by omega)];have b:∀v,v<g.2.length->D d v = -1:=λv c=>j v (by omega);have a:∀v,D (d.set s 0) v=if v=s then 0 else D d v:=λv=>uO _ _ _ _ (by omega);have t:=IE (x:=0) (by omega:s<d.length) (by rw[b s m];omega) (by omega);have r:Fo d<=d.length:=List.countP_le_length ..;refine NT l _ _ ⟨by simp[e],λv c=> ?_,λv c=> ?_,λv c=> ?_,λv c=> ?_⟩ ⟨λy n=> ?_,λv c=> ?_,List.pairwise_singleton ..,λv c p w=> ?_⟩ ?_
  ·rw[Int.toNat_natCast,a];split
   ·omega
   ·rw[b v c];omega
  ·rw[Int.toNat_natCast,a];split
   ·rename_i h;exact⟨λ_=>h,λ_=>rfl⟩
   ·rename_i h;rw[b v c];exact⟨λf=>by omega,λf=>absurd f h⟩
  ·rw[Int.toNat_natCast,a];split
   ·omega
   ·rw[b v c];omega
  ·rw[Int.toNat_natCast,a];split
   ·omega
   ·rw[b v c];omega
  ·simp only[List.mem_singleton]at n;refine⟨s,m,n,?_⟩
   rw[Int.toNat_natCast,a,if_pos Z];omega
  ·rw[Int.toNat_natCast];have f:at' (d.set s 0) (s:Int)=0:=(a s).trans (if_pos Z);show D (d.set s 0) v<=at' (d.set s 0) (s:Int)+1;rw[f,a];split
   ·omega
   ·rw[b v c];omega
  ·rw[Int.toNat_natCast,a,if_neg (by rintro rfl;exact w (by simp)),b v c]at p;omega
  ·rw[Int.toNat_natCast];simp only[List.length_singleton];omega
def Sd (g:GR) (s:Nat):Nat->Nat->Prop
 |0,v=>v=s∧s<g.2.length
 |k+1,v=>∃u,Sd g s k u∧Cc g u v
theorem Sd.lt {g:GR} (a:VG g) {s:Nat}:∀{k v:Nat},Sd g s k v->v<g.2.length
 |0,_,h=>by obtain⟨rfl,h⟩:=h;exact h
 |_+1,_,h=>by obtain⟨u,b,c⟩:=h;exact a.adj_lt (Sd.lt a b) c
theorem SY (g:GR) (v:Nat) (u:Int) (m:v<g.2.length) (l:(row g v).length<=30):rY 1000 g v u=some (BV (row g v) u):=by
 unfold rY;rw[cS (by omega)];rcases LS (row g v) u with⟨i,j,h,c,b⟩|⟨c,b⟩
 ·rw[b];refine LA (λx:Int=>∃k:Nat,x=k∧k<=i) (λx=>31 - x.toNat) ?_ 1000 _ ⟨0,rfl,by omega⟩ (by omega);rintro x d ⟨k,rfl,f⟩ a;unfold tX;rw[if_pos (show(k:Int)<((row g v).length:Int) by omega),cS (show 0<=(k:Int)∧(k:Int)<((row g v).length:Int) by omega)];by_cases e:k=i
  ·subst e;exact if_pos h
  ·rw[if_neg (c k (by omega)),wr (by omega) (by omega)];exact a _ ⟨k+1,by omega,by omega⟩ (by omega)
 ·rw[b];refine LA (λx:Int=>∃k:Nat,x=k∧k<=(row g v).length) (λx=>31 - x.toNat) ?_ 1000 _ ⟨0,rfl,by omega⟩ (by omega);rintro x d ⟨k,rfl,f⟩ a;unfold tX;by_cases e:k<(row g v).length
  ·rw[if_pos (show(k:Int)<((row g v).length:Int) by omega),cS (show 0<=(k:Int)∧(k:Int)<((row g v).length:Int) by omega),if_neg (c k e),wr (by omega) (by omega)];exact a _ ⟨k+1,by omega,by omega⟩ (by omega)
  ·rw[if_neg (show¬(k:Int)<((row g v).length:Int) by omega)];rfl
section
def agC (f:Nat->Nat):Nat->Nat
 |0=>0
 |k+1=>agC f k+f k
open Classical in
noncomputable def ind (p:Prop):Nat:=if p then 1 else 0
end
theorem KS (a:Nat) (h:a<4294967296):IntKind.u32.wrap (a:Int)=a:=by rw[<-Cp];exact if_pos ⟨by omega,by omega⟩
def Mj (x:Int):Nat:=(BitVec.ofInt 32 x).toNat
theorem Im (x:Int):Mj x<4294967296:=(BitVec.ofInt 32 x).isLt
theorem rF {a:Nat} (h:a<4294967296):Mj (a:Int)=a:=by
 unfold Mj;rw[BitVec.ofInt_natCast,BitVec.toNat_ofNat];exact Nat.mod_eq_of_lt h
theorem HP (x y:Int):dA .u32 x y=((Mj x &&& Mj y:Nat):Int):=by
 show IntKind.u32.wrap (((BitVec.ofInt 32 x &&& BitVec.ofInt 32 y).toNat:Nat):Int)=_;rw[BitVec.toNat_and];exact KS _ (Nat.lt_of_le_of_lt Nat.and_le_left (Im x))
theorem Ud (x y:Int):Ec .u32 x y=((Mj x ||| Mj y:Nat):Int):=by
 show IntKind.u32.wrap (((BitVec.ofInt 32 x ||| BitVec.ofInt 32 y).toNat:Nat):Int)=_;rw[BitVec.toNat_or];exact KS _ (Nat.or_lt_two_pow (n:=32) (Im x) (Im y))
theorem Uc (x y:Int):sF .u32 x y=0↔∀i,(Mj x).testBit i=true->(Mj y).testBit i=true:=by
 have e:sF .u32 x y=(((BitVec.ofInt 32 x &&& ~~~ BitVec.ofInt 32 y).toNat:Nat):Int):=KS _ (BitVec.ofInt 32 x &&& ~~~ BitVec.ofInt 32 y).isLt;have b:∀i,(BitVec.ofInt 32 x &&& ~~~ BitVec.ofInt 32 y).toNat.testBit i=((Mj x).testBit i&&(decide (i<32) && !(Mj y).testBit i)):=by
  intro i;have:=BitVec.getLsbD_and (x:=BitVec.ofInt 32 x) (y:= ~~~ BitVec.ofInt 32 y) (i:=i);rw[BitVec.getLsbD_not]at this;exact this
 have d:∀i,(Mj x).testBit i=true->i<32:=by
  intro i a;apply Classical.byContradiction;intro f;rw[Nat.testBit_lt_two_pow (Nat.lt_of_lt_of_le (Im x) (Nat.pow_le_pow_right (n:=2) (by omega) (show 32<=i by omega)))]at a;cases a
 rw[e];constructor
 ·intro h i a;have c:(BitVec.ofInt 32 x &&& ~~~ BitVec.ofInt 32 y).toNat=0:=by omega
  have:=b i;rw[c,Nat.zero_testBit,a,decide_eq_true (d i a)]at this;simpa using this
 ·intro h;have:(BitVec.ofInt 32 x &&& ~~~ BitVec.ofInt 32 y).toNat=0:=by
   apply Nat.eq_of_testBit_eq;intro i;rw[b i,Nat.zero_testBit];cases a:(Mj x).testBit i with
   |false=>rfl
   |true=>rw[h i a];simp
  omega
theorem Ck {k:Nat} (a:k<32):2^k<4294967296:=Nat.pow_lt_pow_right (n:=32) (by omega) a
theorem Ue {k:Nat} (a:k<32):wC .u32 1 (k:Int)=((2^k:Nat):Int):=by
 show IntKind.u32.wrap (1*2^(min ((k:Int).toNat) 32))=_;rw[Int.toNat_natCast,Nat.min_eq_left (by omega),Int.one_mul,show(2:Int)^k=((2^k:Nat):Int) by simp];exact KS _ (Ck a)
theorem Fi {a k:Nat} (b:k<32):lY .u32 (a:Int) (k:Int)=((a / 2^k:Nat):Int):=by
 show Int.fdiv (a:Int) (2^(min ((k:Int).toNat) 32))=_;rw[Int.toNat_natCast,Nat.min_eq_left (by omega),show(2:Int)^k=((2^k:Nat):Int) by simp,Int.fdiv_eq_ediv_of_nonneg _ (Int.natCast_nonneg _)];simp
theorem Gy {a k:Nat} (d:k<32) (c:a<4294967296):dA .u32 (lY .u32 (a:Int) (k:Int)) 1=1↔a.testBit k=true:=by
 have b:Mj 1=1:=rF (a:=1) (by omega);rw[Fi d,HP,rF (Nat.lt_of_le_of_lt (Nat.div_le_self _ _) c),b,Nat.and_one_is_mod,Nat.testBit_eq_decide_div_mod_eq,decide_eq_true_eq];omega
theorem Si {g:GR} (y:VG g) {s:Nat} (G:s<4294967296):OK (λr:Int=>∃m:Nat,r=m∧m<4294967296∧∀v,m.testBit v=true↔v<g.2.length∧∃u,Cc g v u∧s.testBit u=true) (pV 1000 g (s:Int)):=by
 have J:=y.n24;unfold pV;refine vM (λz:dQ=>∃k:Nat,z.2=k∧k<=g.2.length∧∃m:Nat,z.1=m∧m<4294967296∧∀v,m.testBit v=true↔v<k∧∃u,Cc g v u∧s.testBit u=true) (λz=>31 - z.2.toNat) ?_ 1000 _ ⟨0,rfl,by omega,0,rfl,by omega,λv=>by simp⟩ (by simp);rintro⟨a,z⟩ L ⟨k,w,N,m,t,b,p⟩ A;dsimp only at w t;subst w t;unfold oA tY;dsimp only;by_cases o:k<g.2.length
 rotate_left
 ·rw[if_neg (by omega)];have D:k=g.2.length:=by omega
  subst D;exact⟨_,rfl,m,rfl,b,p⟩
 have F:=(y.node k o).deg;rw[if_pos (by omega),cS (by omega)];refine vM (λz:dQ=>∃i:Nat,z.2=i∧i<=(row g k).length∧∃m:Nat,z.1=m∧m<4294967296∧∀v,m.testBit v=true↔(v<k∧∃u,Cc g v u∧s.testBit u=true)∨(v=k∧∃j,j<i∧s.testBit (jA (row g k) j).1.toNat=true)) (λz=>31 - z.2.toNat) ?_ 1000 _ ⟨0,rfl,by omega,m,rfl,b,λv=>by rw[p v];exact⟨.inl,λh=>h.elim id fun⟨_,j,l,_⟩=>absurd l (by omega)⟩⟩ (by simp);rintro⟨a,z⟩ H ⟨i,w,M,m,t,b,p⟩ f;dsimp only at w t;subst w t;unfold t_ tZ qM;dsimp only;by_cases B:i<(row g k).length
 ·obtain⟨u,K,d,e⟩:=y.port o B;rw[if_pos (show(i:Int)<((row g k).length:Int) by omega),cS (show 0<=(i:Int)∧(i:Int)<((row g k).length:Int) by omega),show at' (at' g.2 (k:Int)) (i:Int)=jA (row g k) i from rfl,d,cS (by omega),wr (by omega) (by omega)];by_cases c:s.testBit u=true
  ·rw[if_pos ((Gy (by omega) G).2 c),cS (by omega),Ue (by omega),Ud,rF b,rF (Ck (by omega))];refine f _ ⟨i+1,by simp,by omega,_,rfl,Nat.or_lt_two_pow (n:=32) b (Ck (by omega)),λv=> ?_⟩ (by dsimp only;omega);rw[Nat.testBit_or,Nat.testBit_two_pow,Bool.or_eq_true,p v,decide_eq_true_eq];constructor
   ·rintro((h|⟨rfl,j,l,h⟩)|rfl)
    ·exact .inl h
    ·exact .inr ⟨rfl,j,by omega,h⟩
    ·exact .inr ⟨rfl,i,by omega,by rw[d];exact c⟩
   ·rintro(h|⟨rfl,_⟩)
    ·exact .inl (.inl h)
    ·exact .inr Z
  ·rw[if_neg (λh=>c ((Gy (by omega) G).1 h))];refine f _ ⟨i+1,by simp,by omega,m,rfl,b,λv=> ?_⟩ (by dsimp only;omega);rw[p v];constructor
   ·rintro(h|⟨rfl,j,l,h⟩)
    ·exact .inl h
    ·exact .inr ⟨rfl,j,by omega,h⟩
   ·rintro(h|⟨rfl,j,l,h⟩)
    ·exact .inl h
    ·by_cases C:j=i
     ·subst C;rw[d]at h;exact absurd h c
     ·exact .inr ⟨rfl,j,by omega,h⟩
 ·rw[if_neg (show¬(i:Int)<((row g k).length:Int) by omega),wr (by omega) (by omega)];refine A _ ⟨k+1,by simp,by omega,m,rfl,b,λv=> ?_⟩ (by dsimp only;omega);rw[p v];constructor
  ·rintro(⟨I,x⟩|⟨rfl,j,l,h⟩)
   ·exact⟨by omega,x⟩
   ·obtain⟨u,K,d,e⟩:=y.port o (show j<(row g v).length by omega);rw[d]at h;exact⟨by omega,u,e,h⟩
  ·rintro⟨I,u,⟨j,l,q⟩,x⟩;by_cases E:v=k
   ·subst E;exact .inr ⟨rfl,j,by omega,by rw[q];exact x⟩
   ·exact .inl ⟨by omega,u,⟨j,l,q⟩,x⟩
def Ih (g:GR) (s:Nat):Prop:=(∀v,s.testBit v=true->v<g.2.length)∧∀v u,s.testBit v=true->s.testBit u=true->¬Cc g v u
theorem TX {g:GR} (a:VG g):rX 1000 g=some ((2^g.2.length - 1:Nat):Int):=by
 have c:=a.n24;have d:=a.len;have e:=Ck (show g.2.length<32 by omega);have b:1<=2^g.2.length:=Nat.one_le_two_pow;unfold rX;rw[cS (by omega),d,Ue (by omega),show((2^g.2.length:Nat):Int) - 1=((2^g.2.length - 1:Nat):Int) by omega];congr 1;exact if_pos ⟨by omega,by omega⟩
theorem agG {k:Nat} (a:k<32):wI .u64 (k:Int)=k:=by
 show IntKind.u64.wrap (k:Int)=k;have:∀j:Fin 32,IntKind.u64.wrap ((j.1:Nat):Int)=(j.1:Nat):=by decide
 exact this ⟨k,a⟩
def T (e:aS) (k v w:Nat):Int:=if 0<=D e w∧(D e w<k∨(D e w=k∧w<v))then D e w else -1
theorem Va {X R:Type} {step:X->(X->Option R)->Option R} {K:X->Option R} {bad:R} (N:Nat) (p:Nat->Prop) (I:Nat->X->Prop) (B:Nat)
  (t:∀(k:Nat) x q,k<N->k<B->I k x->p k->∃c,I (k+1) c∧step x q=q c) (l:∀(k:Nat) x q,k<N->k<B->I k x->¬p k->step x q=some bad) (s:∀x q,I N x->N<B->step x q=K x):
  ∀(b:Nat) (x:X),I 0 x->B<=b->(N<B∨∃k,k<N∧k<B∧¬p k)->((∀k,k<N->p k)->∃c,I N c∧bP step b x=K c)∧(¬(∀k,k<N->p k)->bP step b x=some bad):=by
 intro b x e v hB;have r:∀(d a b:Nat) (x:X),I a x->a+d<N->a+d<B->¬p (a+d)->d<b->bP step b x=some bad:=by
  intro d
  induction d with
  |zero=>
   intro a b x e j g i v;obtain⟨f,rfl⟩:∃f,b=f+1:=⟨b - 1,by omega⟩
   exact l a x _ j g e i
  | succ d y =>
   intro a b x e j g i v;obtain⟨f,rfl⟩:∃f,b=f+1:=⟨b - 1,by omega⟩
   by_cases u:p a
   ·obtain⟨c,n,o⟩:=t a x (bP step f) (by omega) (by omega) e u;have o:bP step (f+1) x=bP step f c:=o;rw[o];exact y (a+1) f c n (by omega) (by omega) (by rw[show a+1+d=a+(d+1) by omega];exact i) (by omega)
   ·exact l a x _ (by omega) (by omega) e u
 have m:∀(d a b:Nat) (x:X),I a x->a+d=N->N<B->(∀k,a<=k->k<N->p k)->d<b->∃c,I N c∧bP step b x=K c:=by
  intro d
  induction d with
  |zero=>
   intro a b x e j g i v;obtain⟨f,rfl⟩:∃f,b=f+1:=⟨b - 1,by omega⟩
   obtain rfl:a=N:=by omega
   exact⟨x,e,s x _ e g⟩
  |succ d y=>
   intro a b x e j g i v;obtain⟨f,rfl⟩:∃f,b=f+1:=⟨b - 1,by omega⟩
   obtain⟨c,n,o⟩:=t a x (bP step f) (by omega) (by omega) e (i a (Nat.le_refl _) (by omega));have o:bP step (f+1) x=bP step f c:=o;rw[o];exact y (a+1) f c n (by omega) g (λk j g=>i k (by omega) g) (by omega)
 constructor
 ·intro h;rcases hB with hB|⟨k,j,_,g⟩
  ·exact m N 0 b x e (by omega) hB (λk _ w=>h k w) (by omega)
  ·exact absurd (h k j) g
 ·intro h;have:∃k,k<N∧k<B∧¬p k:=by
   rcases hB with hB|hB
   ·apply Classical.byContradiction;intro A;exact h λk w=>Classical.byContradiction λi=>A ⟨k,w,by omega,i⟩
   ·exact hB
  obtain⟨k,j,g,z⟩:=this;exact r k 0 b x e (by omega) (by omega) (by rw[Nat.zero_add];exact z) (by omega)
theorem Ta {a:fL} (q:a.length<=30) {v:Nat} (r:v<a.length):(at' a (v:Int)).length<1000∨∃k,k<(at' a (v:Int)).length∧k<1000∧¬Ik (at' a (v:Int)) v a.length k:=by
 by_cases h:(at' a (v:Int)).length<1000
 ·exact .inl h
 ·right;apply Classical.byContradiction;intro f;have b:∀k,k<40->Ik (at' a (v:Int)) v a.length k:=λk p=>Classical.byContradiction λl=>f ⟨k,by omega,by omega,l⟩;have:=LR a.length (λi=>(jA (at' a (v:Int)) i).1.toNat) 40 (λi g=>by have:=(b i g).1;omega) (λi j c d o=>by
   have m:=(b i (by omega)).1;have n:=(b j d).1;have e:=(b j d).2.2.2 i c;exact e (by omega))
  omega
theorem Ej (c:fL) (hn:c.length<=30):(Ka c->fW 1000 c=some true)∧(¬Ka c->fW 1000 c=some false):=by
 unfold fW;have s:∀(v:Nat) (m:List ((Int×Int)×Int)) p,v<c.length->(∀z,z∈m↔MH c v 0 z)->
   (tS (at' c (v:Int)) v c.length->∃Y,(∀z,z∈Y↔MH c (v+1) 0 z)∧bP (cB c ((v:Int),m) p) 1000 ((0:Int),m)=p ((v:Int)+1,Y))∧
   (¬tS (at' c (v:Int)) v c.length->bP (cB c ((v:Int),m) p) 1000 ((0:Int),m)=some false):=by
  intro v m p F hm;have L:=Ta hn F;have S:=Va (step:=cB c ((v:Int),m) p) (K:=λx=>p ((v:Int)+1,x.2)) (bad:=false) (at' c (v:Int)).length (Ik (at' c (v:Int)) v c.length) (λi x=>x.1=(i:Int)∧∀z,z∈x.2↔MH c v i z) 1000 ?_ ?_ ?_ 1000 ((0:Int),m) ⟨rfl,hm⟩ (by omega) L
  ·refine⟨λh=> ?_,λh=>S.2 h⟩
   obtain⟨x,⟨ah,ae⟩,f⟩:=S.1 h;refine⟨x.2,λz=>(ae z).trans ⟨?_,?_⟩,f⟩
   ·rintro⟨a,b,y,e,l⟩;exact⟨a,b,by omega,e,l⟩
   ·rintro⟨a,b,y,e,l⟩;refine⟨a,b,?_,e,l⟩
    by_cases X:a=v
    ·subst X;exact .inr ⟨rfl,e⟩
    ·omega
  ·rintro i ⟨H,g⟩ I N ac ⟨f,d⟩ ⟨p1,p2,p3,p4⟩;dsimp only at f d;subst f;have q:mT (((v:Int),(jA (at' c (v:Int)) i).1)) g=none:=by
    apply GD;intro w hw;obtain⟨a,b,y,e,l⟩:=(d _).1 hw;simp only[Prod.mk.injEq]at l;obtain⟨⟨C,A⟩,_⟩:=l;have:a=v:=by omega
    subst this;have hb:b<i:=by omega
    exact p4 b hb A.symm
   refine⟨((i:Int)+1,BU (((v:Int),(jA (at' c (v:Int)) i).1)) (jA (at' c (v:Int)) i).2 g),⟨by simp,λz=> ?_⟩,?_⟩
   ·dsimp only;rw[Nq q,d];constructor
    ·rintro(rfl|⟨a,b,y,e,l⟩)
     ·exact⟨v,i,.inr ⟨rfl,by omega⟩,N,rfl⟩
     ·exact⟨a,b,by omega,e,l⟩
    ·rintro⟨a,b,y,e,l⟩;by_cases J:a=v∧b=i
     ·left;rw[l,J.1,J.2]
     ·right;exact⟨a,b,by omega,e,l⟩
   ·replace p1:0<=(at' (at' c (v:Int)) (i:Int)).1∧(at' (at' c (v:Int)) (i:Int)).1<=(c.length:Int) - 1:=p1;replace p3:1<=(at' (at' c (v:Int)) (i:Int)).2∧(at' (at' c (v:Int)) (i:Int)).2<=15:=p3;unfold cB gG iU;dsimp only;rw[if_pos (by omega),cS (by omega),if_neg (by omega),if_neg (by omega),if_neg (by rw[decide_eq_false p2];simp),if_neg (by omega),if_neg (by rw[decide_eq_false (by omega)];simp),q,if_neg (by simp),wr (by omega) (by omega)]
  ·rintro i ⟨H,g⟩ I N ac ⟨f,d⟩ Q;dsimp only at f d;subst f;unfold cB gG iU;dsimp only;rw[if_pos (by omega),cS (by omega)];by_cases y:(jA (at' c (v:Int)) i).1<0
   ·rw[if_pos y,if_pos Z]
   rw[if_neg y];by_cases e:(c.length:Int)<=(jA (at' c (v:Int)) i).1
   ·rw[if_pos e,if_pos Z]
   rw[if_neg e];by_cases l:(jA (at' c (v:Int)) i).1=v
   ·rw[if_pos (decide_eq_true l)]
   rw[if_neg (by rw[decide_eq_false l];simp)];by_cases C:(jA (at' c (v:Int)) i).2<1
   ·rw[if_pos C,if_pos Z]
   rw[if_neg C];by_cases A:15<(jA (at' c (v:Int)) i).2
   ·rw[if_pos (decide_eq_true A)]
   rw[if_neg (by rw[decide_eq_false A];simp)];have:∃k,k<i∧(jA (at' c (v:Int)) k).1=(jA (at' c (v:Int)) i).1:=by
    apply Classical.byContradiction;intro hc;exact Q ⟨by omega,l,by omega,λk O M=>hc ⟨k,O,M⟩⟩
   obtain⟨k,O,M⟩:=this;have n:=(d _).2 ⟨v,k,.inr ⟨rfl,O⟩,by omega,rfl⟩;rw[if_pos];rw[<-M];cases q:mT (((v:Int),(jA (at' c (v:Int)) k).1)) g with
   |some w=>rfl
   | none => exact absurd n (by
     intro n;exact tH q n)
  ·rintro⟨H,g⟩ I ⟨f,d⟩ _;dsimp only at f d;subst f;unfold cB nD;dsimp only;rw[if_neg (by omega),wr (by omega) (by omega)]
 have t:=Fx (step:=cN 1000 c) (K:=λx=>iS x.2) (bad:=false) c.length (λv=>tS (at' c (v:Int)) v c.length) (λv x=>x.1=(v:Int)∧∀z,z∈x.2↔MH c v 0 z) ?_ ?_ ?_ 1000 ((0:Int),[]) ⟨rfl,λz=>⟨λh=>(by cases h),fun⟨a,b,y,_⟩=>(by omega)⟩⟩ (by omega)
 rotate_left
 ·rintro v ⟨H,g⟩ p F ⟨f,d⟩ Q;dsimp only at f d;subst f;obtain⟨Y,y,e⟩:=(s v g p F d).1 Q;refine⟨((v:Int)+1,Y),⟨by simp,y⟩,?_⟩
  ·unfold cN;dsimp only;rw[if_pos (by omega),cS (by omega)];exact e
 ·rintro v ⟨H,g⟩ p F ⟨f,d⟩ Q;dsimp only at f d;subst f;unfold cN;dsimp only;rw[if_pos (by omega),cS (by omega)];exact(s v g p F d).2 Q
 ·rintro⟨H,g⟩ p ⟨f,d⟩;dsimp only at f d;subst f;unfold cN;dsimp only;rw[if_neg (by omega)]
 by_cases D:∀v,v<c.length->tS (at' c (v:Int)) v c.length
 rotate_left
 ·exact⟨λh=>absurd h.1 D,λ_=>t.2 D⟩
 obtain⟨⟨H,g⟩,⟨f,d⟩,M⟩:=t.1 D;rw[M];dsimp only at d ⊢;have O:iS g=some (decide (∀z∈g,¬(Option.getD (mT (z.1.2,z.1.1) g) (0:Int))≠z.2)):=Jc (λz:(Int×Int)×Int=>(Option.getD (mT (z.1.2,z.1.1) g) (0:Int))≠z.2) g;rw[O];have E:(∀z∈g,¬(Option.getD (mT (z.1.2,z.1.1) g) (0:Int))≠z.2)↔∀v,v<c.length->∀i,i<(at' c (v:Int)).length->J_ ([],c) v i:=by
  constructor
  ·intro h v F i N;have hw:=(D v F i N).2.2.1;have n:=(d (((v:Int),(jA (at' c (v:Int)) i).1),(jA (at' c (v:Int)) i).2)).2 ⟨v,i,.inl F,N,rfl⟩;have e:=Decidable.not_not.1 (h _ n);dsimp only at e;cases q:mT ((jA (at' c (v:Int)) i).1,(v:Int)) g with
   |none=>rw[q]at e;simp only[Option.getD]at e;omega
   | some w =>
    rw[q]at e;simp only[Option.getD]at e;obtain⟨a,b,l,C,A⟩:=(d _).1 (Bi q);simp only[Prod.mk.injEq]at A;obtain⟨⟨U,V⟩,h8⟩:=A;refine⟨b,?_,?_,?_⟩
    ·show b<(at' c (jA (at' c (v:Int)) i).1).length;rw[U];exact C
    ·show(jA (at' c (jA (at' c (v:Int)) i).1) b).1=v;rw[U];exact V.symm
    ·show(jA (at' c (jA (at' c (v:Int)) i).1) b).2=(jA (at' c (v:Int)) i).2;rw[U,<-h8];exact e
  ·intro h z hz ad;obtain⟨a,b,l,C,rfl⟩:=(d z).1 hz;have X:a<c.length:=by omega
   apply ad;obtain⟨j,r,o,B⟩:=h a X b C;have hu:=(D a X b C).1;obtain⟨u,R⟩:∃u:Nat,(jA (at' c (a:Int)) b).1=u:=⟨(jA (at' c (a:Int)) b).1.toNat,by omega⟩
   replace r:j<(at' c (jA (at' c (a:Int)) b).1).length:=r;replace o:(jA (at' c (jA (at' c (a:Int)) b).1) j).1=a:=o;replace B:(jA (at' c (jA (at' c (a:Int)) b).1) j).2=(jA (at' c (a:Int)) b).2:=B;rw[R]at r o B;have G:u<c.length:=by omega
   dsimp only;rw[R,<-B];have n:=(d (((u:Int),(jA (at' c (u:Int)) j).1),(jA (at' c (u:Int)) j).2)).2 ⟨u,j,.inl G,r,rfl⟩;rw[o]at n;cases q:mT ((u:Int),(a:Int)) g with
   |none=>exact absurd n (tH q)
   | some w =>
    obtain⟨a',T,af,aa,A⟩:=(d _).1 (Bi q);simp only[Prod.mk.injEq]at A;obtain⟨⟨U,V⟩,h8⟩:=A;have:a'=u:=by omega
    subst this;have ab:T=j:=by
     rcases Nat.lt_trichotomy T j with P|P|P
     ·exact absurd (V.symm.trans o.symm) ((D a' G j r).2.2.2 T P)
     ·exact P
     ·exact absurd (o.trans V) ((D a' G T aa).2.2.2 j P)
    subst ab;exact h8
 by_cases W:∀v,v<c.length->∀i,i<(at' c (v:Int)).length->J_ ([],c) v i
 ·rw[decide_eq_true (E.2 W)];exact⟨λ_=>rfl,λh=>absurd ⟨D,W⟩ h⟩
 ·rw[decide_eq_false (λh=>W (E.1 h))];exact⟨λh=>absurd h.2 W,λ_=>rfl⟩
theorem DN (g:GR):(VG g->eC 1000 g=some true)∧(¬VG g->eC 1000 g=some false):=by
 unfold eC pT pU;by_cases e:g.1.length<1
 ·rw[if_pos (by omega)];exact⟨λh=>by have:=h.n1;have:=h.len;omega,λ_=>rfl⟩
 rw[if_neg (by omega)];by_cases f:24<g.1.length
 ·rw[if_pos (by omega)];exact⟨λh=>by have:=h.n24;have:=h.len;omega,λ_=>rfl⟩
 rw[if_neg (by omega)];by_cases d:g.1.length=g.2.length
 rotate_left
 ·rw[decide_eq_true (by omega)];exact⟨λh=>absurd h.len d,λ_=>rfl⟩
 rw[decide_eq_false (by omega),if_neg (by simp)];by_cases b:∀k,k<g.1.length->Tt g.1 k
 rotate_left
 ·rw[(tT g.1 (by omega)).2 b,bF Z];exact⟨λh=>absurd (λk i=>⟨(h.node k (by omega)).id,(h.node k (by omega)).ids⟩) b,λ_=>rfl⟩
 rw[(tT g.1 (by omega)).1 b,bF Z,if_pos Z];by_cases a:Ka g.2
 ·rw[(Ej g.2 (by omega)).1 a];exact⟨λ_=>rfl,λh=>absurd ⟨by omega,by omega,d,λv c=>⟨(b v (by omega)).1,Pf c (a.1 v c),a.1 v c,(b v (by omega)).2⟩,a.2⟩ h⟩
 ·rw[(Ej g.2 (by omega)).2 a];exact⟨λh=>absurd ⟨λv c=>(h.node v c).links,h.sym⟩ a,λ_=>rfl⟩
abbrev OG:=AU
theorem sS (v m:Int) (g:1<=m) (h:m<=4611686018427387904):fK 1000 v m=some (v%m):=by
 unfold fK qS;rw[if_neg (by omega),cS (by omega)];have c:=Int.tmod_eq_emod (a:=v) (b:=m);have f:=Int.emod_nonneg v (show m≠0 by omega);have i:=Int.emod_lt_of_pos v (show 0<m by omega);by_cases e:0<=v∨m∣v
 ·rw[if_pos e]at c;have d:v.tmod m=v%m:=by simpa using c
  rw[d,if_neg (by omega)]
 ·rw[if_neg e]at c;have:(m.natAbs:Int)=m:=by omega
  rw[c,if_pos (by omega),wr (by omega) (by omega)];congr 1;omega
theorem MX (l:aS) (i:Int) (h:0<=i):rZ 1000 l i=some (at' l i):=by
 unfold rZ;by_cases a:i<(l.length:Int)
 ·rw[if_pos a,cS ⟨h,a⟩]
 ·rw[if_neg a];unfold at';rw[List.getD_eq_getElem?_getD,List.getElem?_eq_none (by omega)];rfl
theorem Nx {i:Type} [DecidableEq i]:∀(e c:List i),e.Nodup->(∀x∈e,x∈c)->e.length<=c.length
 | [],_,_,_=>Nat.zero_le _
 | a :: t, c, hn, hs => by
  have b:=List.nodup_cons.1 hn;have f:=hs a (List.mem_cons_self ..);have:=Nx t (c.erase a) b.2 λx h=>by
   have d:x≠a:=λj=>b.1 (j▸h);exact(List.mem_erase_of_ne d).2 (hs x (List.mem_cons_of_mem _ h))
  rw[List.length_erase_of_mem f]at this;have g:0<c.length:=List.length_pos_of_mem f;simp only[List.length_cons];omega
theorem VV (d:Int) (c:aS) (t:Nat) (k:t<=200) (h:∀s,s<t->(d+(s:Int))%256∈c):t<=c.length:=by
 have:=Nx ((List.range t).map λs:Nat=>(d+(s:Int))%256) c (by
  rw[List.nodup_iff_pairwise_ne,List.pairwise_map];refine List.Pairwise.imp_of_mem ?_ List.pairwise_lt_range;intro a b e g f;rw[List.mem_range]at e g;omega) (λx j=>by
  obtain⟨s,i,rfl⟩:=List.mem_map.1 j;exact h s (List.mem_range.1 i))
 simpa using this
structure Ig (ids:aS):Prop where
 rng:∀y∈ids,0<=y∧y<=255
 nd:ids.Nodup
theorem Ig.snoc {c:aS} {y:Int} (h:Ig c) (j:0<=y∧y<=255) (i:y∉c):Ig (c++[y]):=by
 refine⟨λz d=> ?_,?_⟩
 ·rcases List.mem_append.1 d with d|d
  ·exact h.rng z d
  ·rw[List.mem_singleton.1 d];exact j
 ·rw[List.nodup_append];refine⟨h.nd,by simp,?_⟩
  intro a e b f;rw[List.mem_singleton.1 f];exact λg=>i (g▸e)
theorem Bg {a:Type} [Inhabited a] {l:List a} {i:Nat} (h:i<l.length):at' l (i:Int)∈l:=by
 rw[jM,List.getD_eq_getElem?_getD,List.getElem?_eq_getElem h];exact List.getElem_mem h
theorem Gj {a:Type} [Inhabited a] {l:List a} {x:a} (h:x∈l):∃i,i<l.length∧at' l ((i:Nat):Int)=x:=by
 obtain⟨i,b,c⟩:=List.getElem_of_mem h;refine⟨i,b,?_⟩
 rw[jM,List.getD_eq_getElem?_getD,List.getElem?_eq_getElem b];exact c
theorem UT {Q:List Int×fL->Prop} {a:aS} (H:a.length<=24) (b:Int) (r:Aj->Option (List Int×fL))
  (m:∀y,0<=y->y<=255->y∉a->OK Q (r ((a.length:Int)+1,a++[y]))):OK Q (bP (lA ((a.length:Int),a) r) 1000 (b%256,0)):=by
 refine vM (λs:dQ=>∃(t u:Nat),s.1=(b+(t:Int))%256∧s.2=u∧u<=a.length∧t<=a.length∧(∀k,k<t->(b+(k:Int))%256∈a)∧∀j,j<u->at' a (j:Int)≠s.1)
  (λs=>(a.length - ((s.1 - b)%256).toNat)*30+(a.length - s.2.toNat)) ?_ 1000 _ ⟨0,0,by simp,rfl,by omega,by omega,λk p=>by omega,λj o=>by omega⟩ ?_
 ·rintro⟨i,j⟩ z ⟨t,u,g,v,F,C,w,l⟩ d;dsimp only at g v l;subst v;unfold lA rU k_;dsimp only;by_cases x:(u:Int)<(a.length:Int)
  ·rw[if_pos x,cS (by omega)];by_cases f:at' a (u:Int)=i
   ·rw[if_pos f,cS (by decide)];have n:(b+(t:Int))%256∈a:=by rw[<-g,<-f];exact Bg (by omega)
    have c:∀k,k<t+1->(b+(k:Int))%256∈a:=λk p=>by
     rcases Nat.lt_succ_iff_lt_or_eq.1 p with h|h
     ·exact w k h
     ·subst h;exact n
    have E:=VV b a (t+1) (by omega) c;have G:0<=i∧i<=255:=by omega
    rw[wr (by omega) (by omega),Int.tmod_eq_emod_of_nonneg (by omega),wr (by omega) (by omega)];refine d _ ⟨t+1,0,?_,by simp,by omega,E,c,λj o=>by omega⟩ ?_
    ·dsimp only;omega
    ·dsimp only;have A:((i+1)%256 - b)%256=(t:Int)+1:=by omega
     have B:(i - b)%256=(t:Int):=by omega
     rw[A,B];omega
   ·rw[if_neg f,wr (by omega) (by omega)];refine d _ ⟨t,u+1,g,by dsimp only;omega,by omega,C,w,λj o=> ?_⟩ ?_
    ·rcases Nat.lt_succ_iff_lt_or_eq.1 o with h|h
     ·exact l j h
     ·subst h;exact f
    ·dsimp only;omega
  ·rw[if_neg x];rw[cS (by simp;omega),wr (by omega) (by omega)];refine m i (by omega) (by omega) λD=> ?_;obtain⟨k,p,q⟩:=Gj D;exact l k (by omega) q
 ·dsimp only;have e:(b%256 - b)%256=0:=by omega
  rw[e];omega
theorem Nw (x:OG) (a:Nat) (u:1<=a) (k:a<=24):OK (λg:GR=>Ig g.1∧g.2=List.replicate g.1.length []∧1<=g.1.length∧g.1.length<=a) (mE 1000 x (a:Int)):=by
 unfold mE;rw[bF (sS _ _ (by omega) (by omega))];generalize f:(wI .i64 (x.1 - 1))%(a:Int)=r;have m:0<=r:=by rw[<-f];exact Int.emod_nonneg _ (by omega)
 have n:r<a:=by rw[<-f];exact Int.emod_lt_of_pos _ (by omega)
 have i:wI .i64 (1+r)=1+r:=wr (by omega) (by omega);rw[i,cS (by omega)];refine vM (λs:Aj=>s.1=(s.2.length:Int)∧(s.2.length:Int)<=1+r∧Ig s.2) (λs=>(1+r - s.1).toNat) ?_ 1000 _ ⟨rfl,by simp;omega,⟨λy o=>by simp at o,List.nodup_nil⟩⟩ (by dsimp only;omega);rintro⟨v,d⟩ j ⟨e,l,c⟩ b;dsimp only at e l c;subst e;unfold iZ oI;dsimp only;rw[i];by_cases h:(d.length:Int)<1+r
 ·rw[if_pos h,bF (MX _ _ (by omega)),bF (sS _ _ (by decide) (by decide))];exact UT (by omega) _ j λy p q t=>b _ ⟨by simp,by simp;omega,c.snoc ⟨p,q⟩ t⟩ (by dsimp only;omega)
 ·rw[if_neg h];refine⟨_,rfl,c,?_,by dsimp only;omega,by dsimp only;omega⟩
  dsimp only;congr 1;omega
structure VM (ids:aS) (P:fL):Prop where
 n1:1<=P.length
 n24:P.length<=24
 len:ids.length=P.length
 ok:Ig ids
 nd:∀v:Nat,v<P.length->((at' P (v:Int)).map Prod.fst).Nodup
 lk:∀v:Nat,v<P.length->∀x∈at' P (v:Int),(0<=x.1∧x.1<=(P.length:Int) - 1)∧x.1≠(v:Int)∧(1<=x.2∧x.2<=15)∧((v:Int),x.2)∈at' P x.1
theorem Vr {d:Type} [Inhabited d] {l:List d} (h:l.Nodup) {i j:Nat} (b:i<l.length) (c:j<l.length) (a:i<j):at' l (i:Int)≠at' l (j:Int):=by
 rw[jM,jM,List.getD_eq_getElem?_getD,List.getD_eq_getElem?_getD,List.getElem?_eq_getElem b,List.getElem?_eq_getElem c];exact List.pairwise_iff_getElem.1 (List.nodup_iff_pairwise_ne.1 h) i j b c a
theorem VM.vg {ids:aS} {P:fL} (h:VM ids P):VG (ids,P):=by
 have hlen:=h.len;have links:∀v,v<P.length->tS (row (ids,P) v) v P.length:=by
  intro v hv i hi;have hm:jA (row (ids,P) v) i∈at' P (v:Int):=Bg hi;obtain⟨a1,a2,a3,_⟩:=h.lk v hv _ hm;refine⟨a1,a2,a3,λk hk=> ?_⟩
  have hk2:k<(row (ids,P) v).length:=by omega
  have:=List.pairwise_iff_getElem.1 (List.nodup_iff_pairwise_ne.1 (h.nd v hv)) k i (by simpa using hk2) (by simpa using hi) hk;rw[List.getElem_map,List.getElem_map]at this;have e:∀j (hj:j<(row (ids,P) v).length),jA (row (ids,P) v) j=(at' P (v:Int))[j]'hj:=λj hj=>by
   unfold jA;rw[jM,List.getD_eq_getElem?_getD,List.getElem?_eq_getElem hj];rfl
  rw[e k hk2,e i hi];exact this
 refine⟨h.n1,h.n24,h.len,λv hv=>⟨?_,Pf hv (links v hv),links v hv,λk hk=> ?_⟩,λv hv i hi=> ?_⟩
 ·exact h.ok.rng _ (Bg (by dsimp only at hv ⊢;omega))
 ·exact Vr h.ok.nd (by dsimp only at hv ⊢;omega) (by dsimp only at hv ⊢;omega) hk
 ·have hm:jA (row (ids,P) v) i∈at' P (v:Int):=Bg hi;obtain⟨_,_,_,a4⟩:=h.lk v hv _ hm;obtain⟨j,hj,he⟩:=Gj a4;exact⟨j,hj,by unfold jA;rw[he],by unfold jA;rw[he]⟩
theorem VM.start {a:aS} (h:Ig a) (d:1<=a.length) (b:a.length<=24):VM a (List.replicate a.length []):=by
 have e:∀v:Nat,at' (List.replicate a.length ([]:fD)) (v:Int)=[]:=λv=>by
  rw[jM,List.getD_eq_getElem?_getD,List.getElem?_replicate];split<;>rfl
 refine⟨by simpa using d,by simpa using b,by simp,h,λv _=>by rw[e];exact List.nodup_nil,λv _ x c=> ?_⟩
 rw[e]at c;cases c
def nX (P:fL) (v u:Nat):Prop:=∃x∈at' P (v:Int),x.1=(u:Int)
theorem Kz (d:aS) (P:fL) (a b:Nat) (u:a<P.length) (w:(at' P (a:Int)).length<=900):(nX P a b->nM 1000 (d,P) a b=some true)∧(¬nX P a b->nM 1000 (d,P) a b=some false):=by
 have c:∀(r:Bool),(r=true->nX P a b)->(r=false->¬nX P a b)->nM 1000 (d,P) a b=some r:=by
  intro r q p;unfold nM;refine LA (λi:Int=>∃k:Nat,i=k∧k<=(at' P (a:Int)).length∧∀j,j<k->(at' (at' P (a:Int)) ((j:Nat):Int)).1≠(b:Int)) (λi=>(at' P (a:Int)).length - i.toNat) ?_ 1000 0 ⟨0,rfl,by omega,λj m=>by omega⟩ (by omega);rintro i t ⟨k,rfl,v,f⟩ g;unfold yQ uL;dsimp only;rw[cS (by omega)];by_cases o:(k:Int)<((at' P (a:Int)).length:Int)
  ·rw[if_pos o,cS (by omega),cS (by omega)];by_cases e:(at' (at' P (a:Int)) (k:Int)).1=(b:Int)
   ·rw[if_pos e];cases r with
    |true=>rfl
    |false=>exact absurd ⟨_,Bg (by omega),e⟩ (p Z)
   ·rw[if_neg e,wr (by omega) (by omega)];refine g _ ⟨k+1,by omega,by omega,λj m=> ?_⟩ (by omega);rcases Nat.lt_succ_iff_lt_or_eq.1 m with h|h
    ·exact f j h
    ·subst h;exact e
  ·rw[if_neg o];cases r with
   |false=>rfl
   |true=>
    obtain⟨x,s,e⟩:=q Z;obtain⟨j,m,n⟩:=Gj s;exact absurd (by rw[n];exact e) (f j (by omega))
 exact⟨λh=>c true (λ_=>h) (λl=>by cases l),λh=>c false (λl=>by cases l) (λ_=>h)⟩
theorem WP (P:fL) (a b:Nat) (x y:fD) (e:a<P.length) (f:b<P.length) (v:Nat):at' ((P.set a x).set b y) (v:Int)=if v=b then y else if v=a then x else at' P (v:Int):=by
 rw[jM,jM,List.getD_eq_getElem?_getD,List.getD_eq_getElem?_getD,List.getElem?_set,List.getElem?_set];by_cases h:v=b
 ·subst h;rw[if_pos Z,if_pos Z,if_pos (by simpa using f)];rfl
 ·rw[if_neg (λd=>h d.symm),if_neg h];by_cases c:v=a
  ·subst c;rw[if_pos Z,if_pos Z,if_pos e];rfl
  ·rw[if_neg (λd=>c d.symm),if_neg c]
theorem VM.add {m:aS} {P:fL} (h:VM m P) {a b:Nat} {w:Int} (J:a<P.length) (A:b<P.length) (p:a≠b) (B:¬nX P a b) (D:1<=w∧w<=15)
  {x y:fD} (E:x.Perm (((b:Int),w)::at' P (a:Int))) (F:y.Perm (((a:Int),w)::at' P (b:Int))):
  VM m ((P.set a x).set b y)∧(∀v u,nX P v u->nX ((P.set a x).set b y) v u)∧nX ((P.set a x).set b y) a b:=by
 have r:¬nX P b a:=by
  rintro⟨z,g,i⟩;obtain⟨_,_,_,l⟩:=h.lk b A z g;rw[i]at l;exact B ⟨_,l,rfl⟩
 have C:=WP P a b x y J A;have k:((P.set a x).set b y).length=P.length:=by simp
 have d:∀(v:Nat) (z:dQ),z∈at' ((P.set a x).set b y) (v:Int)↔z∈at' P (v:Int)∨(v=b∧z=((a:Int),w))∨(v=a∧z=((b:Int),w)):=by
  intro v z;rw[C v];by_cases f:v=b
  ·subst f;rw[if_pos Z,F.mem_iff,List.mem_cons];constructor
   ·rintro(c|c)
    ·exact .inr (.inl ⟨rfl,c⟩)
    ·exact .inl c
   ·rintro(c|⟨_,c⟩|⟨e,_⟩)
    ·exact .inr c
    ·exact .inl c
    ·exact absurd e.symm p
  ·rw[if_neg f];by_cases c:v=a
   ·subst c;rw[if_pos Z,E.mem_iff,List.mem_cons];constructor
    ·rintro(e|e)
     ·exact .inr (.inr ⟨rfl,e⟩)
     ·exact .inl e
    ·rintro(e|⟨n,_⟩|⟨_,e⟩)
     ·exact .inr e
     ·exact absurd n f
     ·exact .inl e
   ·rw[if_neg c];exact⟨.inl,λe=>e.elim id λn=>n.elim (λo=>absurd o.1 f) λo=>absurd o.1 c⟩
 refine⟨⟨by rw[k];exact h.n1,by rw[k];exact h.n24,by rw[k];exact h.len,h.ok,λv j=> ?_,λv j z g=> ?_⟩,λv u s=> ?_,?_⟩
 ·rw[k]at j;rw[C v];by_cases f:v=b
  ·subst f;rw[if_pos Z,(F.map Prod.fst).nodup_iff,List.map_cons,List.nodup_cons];exact⟨λq=>by obtain⟨z,g,i⟩:=List.mem_map.1 q;exact r ⟨z,g,i⟩,h.nd v j⟩
  ·rw[if_neg f];by_cases c:v=a
   ·subst c;rw[if_pos Z,(E.map Prod.fst).nodup_iff,List.map_cons,List.nodup_cons];exact⟨λq=>by obtain⟨z,g,i⟩:=List.mem_map.1 q;exact B ⟨z,g,i⟩,h.nd v j⟩
   ·rw[if_neg c];exact h.nd v j
 ·rw[k]at j ⊢;rcases(d v z).1 g with f|⟨rfl,rfl⟩|⟨rfl,rfl⟩
  ·obtain⟨G,H,I,t⟩:=h.lk v j z f;refine⟨G,H,I,?_⟩
   obtain⟨u,K⟩:∃u:Nat,z.1=u:=⟨z.1.toNat,by omega⟩
   rw[K]at t ⊢;exact(d u _).2 (.inl t)
  ·exact⟨by dsimp only;omega,by dsimp only;omega,D,(d a _).2 (.inr (.inr ⟨rfl,rfl⟩))⟩
  ·exact⟨by dsimp only;omega,by dsimp only;omega,D,(d b _).2 (.inr (.inl ⟨rfl,rfl⟩))⟩
 ·obtain⟨z,g,i⟩:=s;exact⟨z,(d v z).2 (.inl g),i⟩
 ·exact⟨_,(d a _).2 (.inr (.inr ⟨rfl,rfl⟩)),rfl⟩
theorem QV (x:OG) {c:aS} {P:fL} (h:VM c P) {a b:Nat} {w:Int} (g:a<P.length) (m:b<P.length) (o:1<=w∧w<=15):
  ∃f,nH 1000 x (c,P) a b w=some f∧VM c f∧f.length=P.length∧(∀v u,nX P v u->nX f v u)∧(a≠b->nX f a b):=by
 have p:=h.n24;have n:∀v:Nat,v<P.length->(at' P (v:Int)).length<24:=λv s=>by
  have:=(h.vg.node v s).deg;have e:(at' P (v:Int)).length=(row (c,P) v).length:=rfl;dsimp only at this;omega
 have t:=n a g;have z:=n b m;unfold nH;by_cases d:a=b
 ·subst d;rw[if_pos Z];exact⟨P,rfl,h,rfl,λ_ _ h=>h,λr=>absurd Z r⟩
 rw[if_neg (by omega)];by_cases i:nX P a b
 ·rw[bF ((Kz c P a b g (by omega)).1 i)];exact⟨P,rfl,h,rfl,λ_ _ h=>h,λ_=>i⟩
 rw[bF ((Kz c P a b g (by omega)).2 i)];unfold pD;rw[if_neg (by simp)];dsimp only;cases q:x.2.2.2.2.2 with
 | true =>
  rw[if_pos Z];have e:at' (P.set (Int.toNat (a:Int)) ([((b:Int),w)]++at' P (a:Int))) (b:Int)=at' P (b:Int):=by
   rw[jM,List.getD_eq_getElem?_getD,List.getElem?_set,if_neg (by simpa using d),jM,List.getD_eq_getElem?_getD]
  rw[e];rw[cS (by omega),cS (by simp;omega),cS (by omega),cS (by simp;omega),cS (by simp;omega),cS (by simp;omega)];obtain⟨j,k,l⟩:=h.add g m d i o (List.Perm.refl _) (List.Perm.refl _);exact⟨_,rfl,j,by simp,k,λ_=>l⟩
 |false=>
  rw[if_neg (by simp)];rw[cS (by omega),cS (by omega),cS (by simp;omega),cS (by simp;omega),cS (by simpa using d),cS (by simp;omega),cS (by simp;omega)];obtain⟨j,k,l⟩:=h.add g m d i o (x:=at' P (a:Int)++[((b:Int),w)]) (y:=at' P (b:Int)++[((a:Int),w)]) List.perm_append_comm List.perm_append_comm;exact⟨_,rfl,j,by simp,k,λ_=>l⟩
theorem KO (v:Int):wI .i64 (1+v%15)=1+v%15∧1<=1+v%15∧1+v%15<=15:=by
 have:=Int.emod_nonneg v (show(15:Int)≠0 by decide);have:=Int.emod_lt_of_pos v (show(0:Int)<15 by decide);exact⟨wr (by omega) (by omega),by omega,by omega⟩
theorem YP (x:OG) (c:Nat) (F:1<=c) (m:c<=24):
  OK (λg:GR=>VM g.1 g.2∧g.2.length<=c∧∀v:Nat,1<=v->v<g.2.length->∃u:Nat,u<v∧nX g.2 u v) (nG 1000 x (c:Int)):=by
 unfold nG;obtain⟨⟨d,S⟩,D,h,z,e,q⟩:=Nw x c F m;dsimp only at z h e q;rw[bF D];dsimp only;subst z;have r:=VM.start h e (by omega);refine vM (λs:Int×fL=>∃k:Nat,s.1=k∧1<=k∧k<=d.length∧VM d s.2∧s.2.length=d.length∧∀v:Nat,1<=v->v<k->∃u:Nat,u<v∧nX s.2 u v) (λs=>d.length - s.1.toNat) ?_ 1000 _ ⟨1,rfl,by omega,e,r,by simp,λv l f=>by omega⟩ (by dsimp only;omega);rintro⟨i,P⟩ T ⟨k,B,H,I,p,G,o⟩ j;dsimp only at B p G o;subst B;unfold sY pB;dsimp only;by_cases A:(k:Int)<(P.length:Int)
 ·rw[if_pos A,wr (by omega) (by omega),bF (MX _ _ (by omega)),bF (sS _ _ (by omega) (by omega)),bF (MX _ _ (by omega)),bF (sS _ _ (by decide) (by decide))];obtain⟨N,O,Q⟩:=KO (at' x.2.2.1 ((k:Int) - 1));rw[N];generalize C:at' x.2.1 ((k:Int) - 1)%(k:Int)=u;have U:0<=u:=by rw[<-C];exact Int.emod_nonneg _ (by omega)
  have V:u<k:=by rw[<-C];exact Int.emod_lt_of_pos _ (by omega)
  obtain⟨u,rfl⟩:∃n:Nat,u=n:=⟨u.toNat,by omega⟩
  obtain⟨R,E,K,W,L,M⟩:=QV x p (a:=u) (b:=k) (by omega) (by omega) ⟨O,Q⟩;rw[bF E,wr (by omega) (by omega)];refine j _ ⟨k+1,by dsimp only;omega,by omega,by omega,K,by dsimp only;omega,λv l f=> ?_⟩ (by dsimp only;omega);by_cases y:v=k
  ·subst y;exact⟨u,by omega,M (by omega)⟩
  ·obtain⟨J,t,w⟩:=o v l (by omega);exact⟨J,t,L _ _ w⟩
 ·rw[if_neg A];exact⟨_,rfl,p,by dsimp only;omega,λv l f=>o v l (by dsimp only at f;omega)⟩
theorem QX (x:OG) {c:aS} {P:fL} (h:VM c P):OK (λg:GR=>VM g.1 g.2∧g.1=c∧g.2.length=P.length∧∀v u,nX P v u->nX g.2 v u) (kV 1000 x (c,P)):=by
 unfold kV;have z:=h.n24;have B:=h.n1;refine vM (λs:Int×fL=>∃k:Nat,s.1=k∧k<=100∧VM c s.2∧s.2.length=P.length∧∀v u,nX P v u->nX s.2 v u) (λs=>200 - s.1.toNat) ?_ 1000 _ ⟨P.length,rfl,by omega,h,rfl,λ_ _ h=>h⟩ (by dsimp only;omega);rintro⟨i,Q⟩ w ⟨k,p,A,f,o,e⟩ d;dsimp only at p f o e;subst p;have done:∀b:Bool,b=false->OK (λg:GR=>VM g.1 g.2∧g.1=c∧g.2.length=P.length∧∀v u,nX P v u->nX g.2 v u) (mB 1000 x (c,P) ((k:Int),Q) w b):=by
  rintro b rfl;exact⟨_,rfl,f,rfl,o,e⟩
 unfold pE;dsimp only;rw[wr (by omega) (by omega)];by_cases l:(k:Int)+1<(x.2.1.length:Int)
 rotate_left
 ·rw[if_neg l];exact done _ Z
 rw[if_pos l];by_cases m:(k:Int)<60
 rotate_left
 ·exact done _ (decide_eq_false m)
 rw[decide_eq_true m];unfold mB;dsimp only;rw[if_pos Z,cS (by omega),bF (sS _ _ (by omega) (by omega)),wr (by omega) (by omega),cS (by omega),bF (sS _ _ (by omega) (by omega)),bF (MX _ _ (by omega)),bF (sS _ _ (by decide) (by decide))];obtain⟨E,F,G⟩:=KO (at' x.2.2.1 (k:Int));rw[E];generalize r:at' x.2.1 (k:Int)%(P.length:Int)=u;have K:0<=u:=by rw[<-r];exact Int.emod_nonneg _ (by omega)
 have L:u<P.length:=by rw[<-r];exact Int.emod_lt_of_pos _ (by omega)
 obtain⟨u,rfl⟩:∃n:Nat,u=n:=⟨u.toNat,by omega⟩
 generalize q:at' x.2.1 ((k:Int)+1)%(P.length:Int)=t;have I:0<=t:=by rw[<-q];exact Int.emod_nonneg _ (by omega)
 have J:t<P.length:=by rw[<-q];exact Int.emod_lt_of_pos _ (by omega)
 obtain⟨t,rfl⟩:∃n:Nat,t=n:=⟨t.toNat,by omega⟩
 obtain⟨H,y,C,M,D,N⟩:=QV x f (a:=u) (b:=t) (by omega) (by omega) ⟨F,G⟩;rw[bF y,wr (by omega) (by omega)];exact d _ ⟨k+2,by dsimp only;omega,by omega,C,by dsimp only;omega,λv u j=>D _ _ (e v u j)⟩ (by dsimp only;omega)
theorem Lq (x:OG) (a:Nat) (m:1<=a) (c:a<=24):
  OK (λg:GR=>VM g.1 g.2∧g.2.length<=a∧∀v:Nat,1<=v->v<g.2.length->∃u:Nat,u<v∧nX g.2 u v) (lS 1000 x (a:Int)):=by
 unfold lS;obtain⟨⟨s,P⟩,k,o,n,i⟩:=YP x a m c;obtain⟨⟨j,t⟩,l,b,p,d,h⟩:=QX x o;rw[bF k,bF l];dsimp only at n i b p d h;refine⟨_,rfl,b,by dsimp only;omega,λv r f=> ?_⟩
 obtain⟨u,q,e⟩:=i v r (by dsimp only at f;omega);exact⟨u,q,h _ _ e⟩
theorem ZP (x:OG) (a:Nat) (k:1<=a) (b:a<=24):OK (λg:GR=>VM g.1 g.2∧g.2.length<=a) (oQ 1000 x (a:Int)):=by
 unfold oQ;cases m:x.2.2.2.2.1 with
 |false=>
  obtain⟨⟨j,P⟩,h,r,p,_⟩:=Lq x a k b;rw[if_pos (by rfl)];rw[<-m]at *
  rw[bF h];exact⟨_,rfl,r,p⟩
 |true=>
  obtain⟨⟨j,P⟩,h,e,l,f,i⟩:=Nw x a k b;dsimp only at l e f i;subst l;obtain⟨⟨n,t⟩,o,d,s,c,q⟩:=QX x (VM.start e f (by omega));dsimp only at d s c q;rw[if_neg (by simp)];rw[<-m]at *
  rw[bF h,bF o];exact⟨_,rfl,d,by simp at c ⊢;omega⟩
end Go.Proofs.YtjkjpdonlpdcaaaGreatDoor
namespace Go.Proofs.YtjkjpdonlpdcaaaGreatDoor
open Go Go.Sx
abbrev val (c:bE) (v x:Nat):Int:=at' (at' c (v:Int)) (x:Int)
def Cd (g:GR) (b:Int) (v:Nat) (a:Int):Prop:=if b = -1 then -1<=a∧a<=((row g v).length:Int) - 1 else 0<=a∧a<=b
instance (g:GR) (top:Int) (v:Nat) (a:Int):Decidable (Cd g top v a):=by unfold Cd;infer_instance
structure Cf (g:GR) (c:bE) (tops:aS):Prop where
 len:c.length=g.2.length
 row:∀v,v<g.2.length->(at' c (v:Int)).length=tops.length
 ok:∀v,v<g.2.length->∀x,x<tops.length->Cd g (at' tops (x:Int)) v (val c v x)
theorem Bb {g:GR} (s:VG g) (c:bE) (b:aS) (E:b.length<=900):(Cf g c b->fQ 1000 g c b=some true)∧(¬Cf g c b->fQ 1000 g c b=some false):=by
 have C:=s.n24;have B:=s.len;unfold fQ;by_cases z:c.length=g.2.length
 rotate_left
 ·rw[if_pos (by omega)];exact⟨λh=>absurd h.len z,λ_=>rfl⟩
 rw[if_neg (by omega)];have f:∀(v:Nat) (j:Int->Option Bool),v<g.2.length->(at' c (v:Int)).length=b.length->((∀x,x<b.length->Cd g (at' b (x:Int)) v (val c v x))->bP (eJ g c b v j) 1000 0=j ((v:Int)+1))∧(¬(∀x,x<b.length->Cd g (at' b (x:Int)) v (val c v x))->bP (eJ g c b v j) 1000 0=some false):=by
  intro v j e t;have A:(at' g.2 (v:Int)).length<g.2.length:=(s.node v e).deg;have q:∀(x:Nat) (d:Int->Option Bool) (o p a:Int),x<b.length->at' (at' c (v:Int)) (x:Int)=a->lD c v x d (o,p)=if o<=a∧a<=p then d ((x:Int)+1)else some false:=by
   intro x d o p a n D;unfold lD oL;rw[D];have u:wI .i64 ((x:Int)+1)=(x:Int)+1:=wr (by omega) (by omega);by_cases r:o<=a
   ·by_cases w:a<=p
    ·simp[r,w,u,show¬a<o by omega,show¬p<a by omega]
    ·simp[r,w,u,show¬a<o by omega,show p<a by omega]
   ·simp[r,u,show a<o by omega]
  have m:∀(x:Nat) (d:Int->Option Bool),x<b.length->eJ g c b v j x d=if Cd g (at' b (x:Int)) v (val c v x)then d ((x:Int)+1)else some false:=by
   intro x d n;unfold eJ;rw[if_pos (by omega),cS (by omega),cS (by omega)];unfold Cd;by_cases l:at' b (x:Int) = -1
   ·rw[if_pos l,cS (by omega),q x d _ _ _ n Z,wr (by omega) (by omega)];simp only[l,if_true]
   ·rw[if_neg l,q x d _ _ _ n Z];simp only[l,if_false]
  refine QP b.length _ (λx d n k=> ?_) (λx d n k=> ?_) (λd=> ?_) 1000 (by omega)
  ·rw[m x d n,if_pos k]
  ·rw[m x d n,if_neg k]
  ·unfold eJ oK;rw[if_neg (by omega),wr (by omega) (by omega)]
 have i:=QP (step:=dN 1000 g c b) (K:=some true) (bad:=false) g.2.length (λv=>(at' c (v:Int)).length=b.length∧∀x,x<b.length->Cd g (at' b (x:Int)) v (val c v x)) (λv j e k=> ?_) (λv j e k=> ?_) (λj=> ?_) 1000 (by omega)
 ·exact⟨λh=>i.1 λv e=>⟨h.row v e,h.ok v e⟩,λh=>i.2 λy=>h ⟨z,λv e=>(y v e).1,λv e=>(y v e).2⟩⟩
 ·unfold dN;rw[if_pos (by omega),cS (by omega),if_neg (by have:=k.1;omega)];exact(f v j e k.1).1 k.2
 ·unfold dN;rw[if_pos (by omega),cS (by omega)];by_cases t:(at' c (v:Int)).length=b.length
  ·rw[if_neg (by omega)];exact(f v j e t).2 λh=>k ⟨t,h⟩
  ·rw[if_pos (by omega)]
 ·unfold dN oJ;rw[if_neg (by omega)]
def lU (g:GR):Nat->Int
 |0=>0
 |k+1=>max (lU g k) (at' g.1 (k:Int))
theorem IY {g:GR} (a:VG g):∀k,k<=g.2.length->0<=lU g k∧lU g k<=255
 |0,_=>by simp[lU]
 |k+1,h=>by
  have b:=IY a k (by omega);have c:0<=at' g.1 (k:Int)∧at' g.1 (k:Int)<=255:=(a.node k (by omega)).id;simp only[lU];omega
abbrev EU:=Dh
def zM (x:EU):Prop:=(-100000<=x.2.2.2.1∧x.2.2.2.1<=100000)∧(0<=x.2.2.2.2.1∧x.2.2.2.2.1<=100000)∧(0<=x.2.2.2.2.2∧x.2.2.2.2.2<=100000)
def lo (g:GR) (x:EU) (v:Nat):Int:=if x.2.1=2 then 0 else if x.2.1=3 then -1 else x.2.2.1
def hi (g:GR) (x:EU) (v:Nat):Int:=if x.2.1=2 then 1 else if x.2.1=3 then((row g v).length:Int) - 1 else x.2.2.2.1+x.2.2.2.2.1*(g.2.length:Int)+x.2.2.2.2.2*lU g g.1.length
structure FY (g:GR) (c:bE) (vars:List EU):Prop where
 len:c.length=g.2.length
 row:∀v,v<g.2.length->(at' c (v:Int)).length=vars.length
 ok:∀v,v<g.2.length->∀x,x<vars.length->lo g (at' vars (x:Int)) v<=val c v x∧val c v x<=hi g (at' vars (x:Int)) v
theorem Rj {g:GR} {c:bE} {d:List EU} {b:aS} (f:d.length=b.length) (h:∀v x,v<g.2.length->x<b.length->∀a,(lo g (at' d (x:Int)) v<=a∧a<=hi g (at' d (x:Int)) v)↔Cd g (at' b (x:Int)) v a):FY g c d↔Cf g c b:=
  ⟨λk=>⟨k.len,λv e=>by rw[k.row v e,f],λv e x i=>(h v x e i _).1 (k.ok v e x (by omega))⟩,
   λk=>⟨k.len,λv e=>by rw[k.row v e,f],λv e x i=>(h v x e (by omega) _).2 (k.ok v e x (by omega))⟩⟩
def Bc (a b:Nat):Nat:=(BitVec.ofInt 32 (a:Int) &&& ~~~ BitVec.ofInt 32 (b:Int)).toNat
theorem IF (a b:Nat):Bc a b<4294967296:=(BitVec.ofInt 32 (a:Int) &&& ~~~ BitVec.ofInt 32 (b:Int)).isLt
theorem Gm {a i:Nat} (b:a<4294967296) (h:a.testBit i=true):i<32:=by
 apply Classical.byContradiction;intro c;rw[Nat.testBit_lt_two_pow (Nat.lt_of_lt_of_le b (Nat.pow_le_pow_right (n:=2) (by omega) (show 32<=i by omega)))]at h;cases h
theorem Gp {a b:Nat} (d:a<4294967296) (e:b<4294967296) (i:Nat):(Bc a b).testBit i=(a.testBit i && !b.testBit i):=by
 have:=BitVec.getLsbD_and (x:=BitVec.ofInt 32 (a:Int)) (y:= ~~~ BitVec.ofInt 32 (b:Int)) (i:=i);rw[BitVec.getLsbD_not]at this;have h:(Bc a b).testBit i=((Mj (a:Int)).testBit i&&(decide (i<32) && !(Mj (b:Int)).testBit i)):=this;rw[rF d,rF e]at h;rw[h];cases c:a.testBit i with
 |false=>simp
 |true=>simp[Gm d c]
theorem Fh (a b:Nat):sF .u32 (a:Int) (b:Int)=(Bc a b:Int):=KS _ (IF a b)
theorem Cg {a b:Nat} (c:a<4294967296) (d:b<4294967296):dA .u32 (a:Int) (b:Int)=((a &&& b:Nat):Int):=by rw[HP,rF c,rF d]
theorem ZS {a b:Nat} (c:a<4294967296) (d:b<4294967296):Ec .u32 (a:Int) (b:Int)=((a ||| b:Nat):Int):=by rw[Ud,rF c,rF d]
theorem Re {a b:Nat} (c:a<4294967296) (d:b<4294967296):a ||| b<4294967296:=Nat.or_lt_two_pow (n:=32) c d
theorem OT {a b:Nat} (c:a<4294967296):a &&& b<4294967296:=Nat.lt_of_le_of_lt Nat.and_le_left c
theorem Gl {a k:Nat} (c:a<4294967296) (b:k<32):Ec .u32 (a:Int) (wC .u32 1 (k:Int))=((a ||| 2^k:Nat):Int):=by rw[Ue b,ZS c (Ck b)]
theorem ada {a k:Nat} (d:k<32) (c:a<4294967296):dA .u32 (lY .u32 (a:Int) (k:Int)) 1=0↔a.testBit k=false:=by
 have b:Mj 1=1:=rF (a:=1) (by omega);rw[Fi d,HP,rF (Nat.lt_of_le_of_lt (Nat.div_le_self _ _) c),b,Nat.and_one_is_mod,Nat.testBit_eq_decide_div_mod_eq,decide_eq_false_iff_not];omega
theorem BS (p:Nat->Bool) {k:Nat} (a:k<=32):kP p k<4294967296:=Nat.lt_of_lt_of_le (Np p k) (Nat.pow_le_pow_right (n:=2) (by omega) a)
theorem QY {a b:Nat} (h:∀i,a.testBit i=b.testBit i):a=b:=Nat.eq_of_testBit_eq h
def OS (q:Bool) (m v:Nat):Nat:=if q then m ||| 2^v else m
theorem WL {q:Bool} {m v:Nat} (a:m<4294967296) (b:v<32):OS q m v<4294967296:=by
 unfold OS;split
 ·exact Re a (Ck b)
 ·exact a
theorem Yz (m v:Nat):(m ||| 2^v) ||| 2^v=m ||| 2^v:=by rw[Nat.or_assoc,Nat.or_self]
theorem agF {i:Nat} (h:i<1000000):wI .i64 ((i:Int)+1)=(i:Int)+1:=wr (by omega) (by omega)
def wK (g:GR) (c:bE) (v i:Nat):Bool:=decide (val c v 0=at' (at' c (jA (row g v) i).1) 0)
theorem VG.to {g:GR} (c:VG g) {v i:Nat} (e:v<g.2.length) (d:i<(row g v).length):∃u:Nat,u<g.2.length∧(jA (row g v) i).1=(u:Int):=by
 obtain⟨u,a,b,_⟩:=c.port e d;exact⟨u,a,b⟩
def oV:List EU:=[(ByteArray.mk #[99],1,0,0,1,0)]
theorem abq:BQ 1000=some oV:=rfl
theorem Rt:∀x,x<oV.length->zM (at' oV (x:Int)):=by
 intro x a;obtain rfl:x=0:=by simp[oV]at a;exact a
 exact⟨by decide,by decide,by decide⟩
theorem adg {g:GR} (f:VG g) {c:bE}:FY g c oV↔Cf g c [(g.2.length:Int)]:=by
 refine Rj Z λv x h b a=> ?_;obtain rfl:x=0:=by simp at b;exact b
 have d:at' oV ((0:Nat):Int)=(ByteArray.mk #[99],1,0,0,1,0):=rfl;have e:at' [(g.2.length:Int)] ((0:Nat):Int)=(g.2.length:Int):=rfl;rw[d,e];unfold lo hi Cd;simp only[show¬((1:Int)=2) by decide,show¬((1:Int)=3) by decide,if_false];rw[if_neg (by omega)];omega
def JL (c:bE) (v:Nat):Bool:=decide (val c v 0=1)
theorem Zk {g:GR} {c:bE} (a:Cf g c [1]) {v:Nat} (b:v<g.2.length):0<=at' (at' c (v:Int)) 0∧at' (at' c (v:Int)) 0<=1:=by
 have h:=a.ok v b 0 (by simp);have e:at' [(1:Int)] ((0:Nat):Int)=1:=rfl;unfold Cd at h;rw[e,if_neg (by omega)]at h;exact h
theorem YQ {g:GR} {c:bE} (n:VG g) (e:Cf g c [1]):nJ 1000 c 0=some ((kP (JL c) g.2.length:Nat):Int):=by
 have m:=n.n24;have o:=e.len;have d:∀u:Nat,u<g.2.length->(at' c (u:Int)).length=1:=λu p=>e.row u p;unfold nJ;refine eF (F:=λv:Nat=>(((kP (JL c) v:Nat):Int),(v:Int))) g.2.length (λv j i=> ?_) (λj=> ?_) 1000 (by omega)
 ·have q:=d v i;have l:=Zk e i;unfold pH;simp only;rw[if_pos (by omega),cS (by omega),cS (by omega),cS (by omega),agF (by omega)];have f:=BS (JL c) (k:=v) (by omega);have a:JL c v=decide (at' (at' c (v:Int)) 0=1):=rfl;have b:at' (at' c (v:Int)) 0=0∨at' (at' c (v:Int)) 0=1:=by omega
  rcases b with h|h
  ·rw[h,show wI .u32 (0:Int)=0 from rfl,show wC .u32 (0:Int) (v:Int)=0 by
    show IntKind.u32.wrap (0*_)=0;rw[Int.zero_mul];rfl,show(0:Int)=((0:Nat):Int)from rfl,ZS f (by omega),Nat.or_zero]
   rw[h]at a;simp[kP,a]
  ·rw[h,show wI .u32 (1:Int)=1 from rfl,Gl f (by omega)];rw[h]at a;simp[kP,a]
 ·unfold pH pG;simp only;rw[if_neg (by omega)]
theorem Li {n i:Nat}:(2^n - 1).testBit i=decide (i<n):=Nat.testBit_two_pow_sub_one n i
def mA:List EU:=[(ByteArray.mk #[109],2,0,0,0,0)]
theorem abp:BP 1000=some mA:=rfl
theorem Rs:∀x,x<mA.length->zM (at' mA (x:Int)):=by
 intro x a;obtain rfl:x=0:=by simp[mA]at a;exact a
 exact⟨by decide,by decide,by decide⟩
theorem adf {g:GR} {c:bE}:FY g c mA↔Cf g c [1]:=by
 refine Rj Z λv x f b a=> ?_;obtain rfl:x=0:=by simp at b;exact b
 have d:at' mA ((0:Nat):Int)=(ByteArray.mk #[109],2,0,0,0,0):=rfl;have e:at' [(1:Int)] ((0:Nat):Int)=1:=rfl;rw[d,e];unfold lo hi Cd;simp
def d0 (g:GR) (c:bE) (d v:Nat):Int:=if d.testBit v=true then at' (at' c (v:Int)) 0 else if v=0 then 0 else(g.2.length:Int)
def start (g:GR) (c:bE) (d:Nat):aS:=(List.range g.2.length).map (d0 g c d)
theorem H_ {a:Type} [Inhabited a] (l:List a) (x:a) {i:Nat} (b:i<l.length+1):at' (l++[x]) (i:Int)=if i<l.length then at' l (i:Int)else x:=by
 rw[jM,jM];by_cases h:i<l.length
 ·rw[if_pos h,List.getD_eq_getElem?_getD,List.getD_eq_getElem?_getD,List.getElem?_append_left h]
 ·have:i=l.length:=by omega
  subst this;rw[if_neg h];simp
def TO (g:GR) (a:List EU) (v:Nat) (l:aS):Prop:=∀x,x<l.length->lo g (at' a (x:Int)) v<=at' l (x:Int)∧at' l (x:Int)<=hi g (at' a (x:Int)) v
theorem Ki {g:GR} (G:VG g) (d:List EU) (f:aS) (ht:d.length<=900) (U:∀x,x<d.length->zM (at' d (x:Int)) ∧ -100000<=(at' d (x:Int)).2.2.1∧(at' d (x:Int)).2.2.1<=(at' d (x:Int)).2.2.2.1):
  OK (λc=>FY g c d) (lI 1000 g d f):=by
 have Q:=G.n24;have C:=G.len;have P:lI 1000 g d f=qQ 1000 g d f (lU g g.2.length):=by
  unfold lI;refine eF (F:=λk:Nat=>((lU g k,(k:Int)):dQ)) g.2.length (λk B hk=> ?_) (λB=> ?_) 1000 (by omega)
  ·unfold uJ;simp only;rw[if_pos (by omega),cS (by omega),wr (by omega) (by omega)];rfl
  ·unfold uJ;simp only;rw[if_neg (by omega)]
 rw[P];obtain⟨M,X⟩:=IY G g.2.length (by omega);unfold qQ;have J:=vL (step:=kD 1000 g d f (lU g g.2.length)) (K:=λx=>some x.1) g.2.length (λv x=>x.2=(v:Int)∧x.1.length=v∧∀w,w<v->(at' x.1 (w:Int)).length=d.length∧TO g d w (at' x.1 (w:Int))) (λv x B t q=> ?_) (λx B q=> ?_) 1000 (([]:bE),(0:Int)) ⟨rfl,rfl,λw V=>by omega⟩ (by omega)
 ·obtain⟨⟨c,i⟩,⟨_,s,p⟩,I⟩:=J;exact⟨c,I,s,λv t=>(p v t).1,λv t x D=>(p v t).2 x (by rw[(p v t).1];exact D)⟩
 ·obtain⟨c,i⟩:=x;obtain⟨rfl,s,p⟩:=q;simp only at s p;have L:(at' g.2 (v:Int)).length<g.2.length:=(G.node v t).deg;unfold kD;simp only;rw[if_pos (by omega)];have E:=vL (step:=oE 1000 g d f (lU g g.2.length) (c,(v:Int)) B) (K:=λy=>B (c++[y.1],(v:Int)+1)) d.length (λx y=>y.2=(x:Int)∧y.1.length=x∧TO g d v y.1) (λx y n D q=> ?_) (λy n q=> ?_) 1000 (([]:aS),(0:Int)) ⟨rfl,rfl,λx D=>by simp at D⟩ (by omega)
  ·obtain⟨⟨l,j⟩,⟨_,h,u⟩,I⟩:=E;refine⟨(c++[l],(v:Int)+1),⟨by simp,by simp[s],λw V=> ?_⟩,I⟩
   simp only;rw[H_ c l (by omega),s];by_cases e:w<v
   ·rw[if_pos e];exact p w e
   ·rw[if_neg e];have:w=v:=by omega
    subst this;exact⟨h,u⟩
  ·obtain⟨l,j⟩:=y;obtain⟨rfl,h,u⟩:=q;simp only at h u;obtain⟨⟨s1,N,O⟩,s4,s5⟩:=U x D;have o:∀a b:Int,a=lo g (at' d (x:Int)) v->b=hi g (at' d (x:Int)) v -> -100000<=a->a<=b+1->b<=100000000->(a<=b∨(a = -1∧b = -1))->∃H,(H.2=((x+1:Nat):Int)∧H.1.length=x+1∧TO g d v H.1)∧oD 1000 d f (c,(v:Int)) (l,(x:Int)) n (a,b)=n H:=by
    intro a b R T q1 q2 q3 q4;have S:a<=b:=by omega
    unfold oD;simp only;have w1:wI .i64 ((v:Int)*(d.length:Int))=(v:Int)*(d.length:Int):=by
     have Y:0<=(v:Int)*(d.length:Int):=Int.mul_nonneg (by omega) (by omega);have p2:(v:Int)*(d.length:Int)<=24*900:=Int.mul_le_mul (by omega) (by omega) (by omega) (by omega);exact wr (by omega) (by omega)
    have Y:0<=(v:Int)*(d.length:Int):=Int.mul_nonneg (by omega) (by omega);have p2:(v:Int)*(d.length:Int)<=24*900:=Int.mul_le_mul (by omega) (by omega) (by omega) (by omega);rw[w1,wr (x:=(v:Int)*(d.length:Int)+(x:Int)) (by omega) (by omega),MX _ _ (by omega),bF Z,wr (x:=b - a) (by omega) (by omega),wr (x:=b - a+1) (by omega) (by omega),sS _ _ (by omega) (by omega),bF Z];have r1:=Int.emod_nonneg (at' f ((v:Int)*(d.length:Int)+(x:Int))) (b:=b - a+1) (by omega);have r2:=Int.emod_lt_of_pos (at' f ((v:Int)*(d.length:Int)+(x:Int))) (b:=b - a+1) (by omega);generalize at' f ((v:Int)*(d.length:Int)+(x:Int))%(b - a+1)=r at r1 r2;rw[wr (x:=a+r) (by omega) (by omega),cS (by simp;omega),wr (by omega) (by omega)];refine⟨_,⟨by simp,by simp[h],λz W=> ?_⟩,rfl⟩
    simp only[List.length_append,List.length_cons,List.length_nil,h]at W;simp only;rw[H_ l _ (by omega),h];by_cases e:z<x
    ·rw[if_pos e];exact u z (by omega)
    ·rw[if_neg e];have:z=x:=by omega
     subst this;rw[<-R,<-T];omega
   unfold oE;simp only;rw[if_pos (by omega),cS (by omega),cS (by omega),cS (by omega),cS (by omega),cS (by omega)];by_cases m:(at' d (x:Int)).2.1=2
   ·rw[if_pos m];exact o 0 1 (by unfold lo;rw[if_pos m]) (by unfold hi;rw[if_pos m]) (by omega) (by omega) (by omega) (by omega)
   ·rw[if_neg m];by_cases A:(at' d (x:Int)).2.1=3
    ·rw[if_pos A,cS (by omega),wr (by omega) (by omega)];exact o (-1) _ (by unfold lo;rw[if_neg m,if_pos A]) (by unfold hi;rw[if_neg m,if_pos A]) (by omega) (by omega) (by omega) (by omega)
    ·rw[if_neg A];have q1:0<=(at' d (x:Int)).2.2.2.2.1*(g.2.length:Int):=Int.mul_nonneg N.1 (by omega);have q2:(at' d (x:Int)).2.2.2.2.1*(g.2.length:Int)<=100000*24:=Int.mul_le_mul N.2 (by omega) (by omega) (by omega);have q3:0<=(at' d (x:Int)).2.2.2.2.2*lU g g.2.length:=Int.mul_nonneg O.1 M;have q4:(at' d (x:Int)).2.2.2.2.2*lU g g.2.length<=100000*255:=Int.mul_le_mul O.2 X M (by omega);rw[wr (x:=(at' d (x:Int)).2.2.2.2.1*(g.2.length:Int)) (by omega) (by omega),wr (x:=(at' d (x:Int)).2.2.2.2.2*lU g g.2.length) (by omega) (by omega),wr (x:=(at' d (x:Int)).2.2.2.1+(at' d (x:Int)).2.2.2.2.1*(g.2.length:Int)) (by omega) (by omega),wr (by omega) (by omega)];exact o _ _ (by unfold lo;rw[if_neg m,if_neg A]) (by unfold hi;rw[if_neg m,if_neg A,C]) (by omega) (by omega) (by omega) (by omega)
  ·obtain⟨l,j⟩:=y;obtain⟨rfl,h,u⟩:=q;simp only at h u;unfold oE yP;simp only;rw[if_neg (by omega),cS (by simp;omega),wr (by omega) (by omega)]
 ·obtain⟨c,i⟩:=x;obtain⟨rfl,s,p⟩:=q;unfold kD uI;simp only;rw[if_neg (by omega)]
def JE (g:GR) (s r v:Nat):Prop:=∃f,s.testBit f=true∧∃m,m<=r∧Sd g f m v
theorem uV {g:GR} {s v:Nat}:JE g s 0 v↔s.testBit v=true∧v<g.2.length:=by
 constructor
 ·rintro⟨f,c,m,e,d⟩;obtain rfl:m=0:=by omega
  obtain⟨rfl,h⟩:=d;exact⟨c,h⟩
 ·rintro⟨a,b⟩;exact⟨v,a,0,by omega,rfl,b⟩
theorem qU {g:GR} (c:VG g) {s r v:Nat}:JE g s (r+1) v↔JE g s r v∨(v<g.2.length∧∃u,Cc g v u∧JE g s r u):=by
 constructor
 ·rintro⟨f,a,m,i,b⟩;by_cases h:m<=r
  ·exact .inl ⟨f,a,m,h,b⟩
  ·obtain⟨k,rfl⟩:∃k,m=k+1:=⟨m - 1,by omega⟩
   obtain⟨u,d,e⟩:=b;have j:=Sd.lt c d;exact .inr ⟨c.adj_lt j e,u,c.back j e,f,a,k,by omega,d⟩
 ·rintro(⟨f,a,m,i,b⟩|⟨n,u,l,f,a,m,i,b⟩)
  ·exact⟨f,a,m,by omega,b⟩
  ·exact⟨f,a,m+1,by omega,u,b,c.back n l⟩
def low (a b:Int):Int:=if 0<=b∧(a<0∨b<a)then b else a
end Go.Proofs.YtjkjpdonlpdcaaaGreatDoor
namespace Go.Proofs.YtjkjpdonlpdcaaaGreatDoor
open Go.Sx
def sI  (a:aS):Option aS:=
 some (a)
def sJ (a:Aj) (c:(Int×aS)->Option aS) (b:aS):Option aS:=
 c ((wI .i64 (a.1+(1:Int))),b)
def pO (d:dJ) (a:Aj) (e:(Int×aS)->Option aS) (b:Aj) (c:(Int×aS)->Option aS):Option aS:=
 if b.1<(List.length (at' d.2 a.1):Int)then(ck (0<=b.1∧b.1<(List.length (at' d.2 a.1):Int)) (ck (0<=a.1∧a.1<(List.length b.2:Int)) (ck (0<=((at' (at' d.2 a.1) b.1).1)) (ck (0<=a.1∧a.1<(List.length b.2:Int)) (c ((wI .i64 (b.1+(1:Int))),(List.set b.2 (Int.toNat a.1) (Ec .u32 (at' b.2 a.1) (wC .u32 (1:Int) ((at' (at' d.2 a.1) b.1).1))))))))))else(sJ a e (b.2))
def kU (U:Nat) (c:dJ) (a:Aj) (b:(Int×aS)->Option aS):Option aS:=
 if a.1<(List.length c.2:Int)then(ck (0<=a.1∧a.1<(List.length c.2:Int)) (bP (pO c a b) U ((0:Int),a.2)))else(sI  (a.2))
def oB (U:Nat) (a:dJ):Option aS:=
 ck (0<=(List.length a.2:Int)∧(List.length a.2:Int)<=1099511627) (bP (kU U a) U ((0:Int),(List.replicate (Int.toNat (List.length a.2:Int)) (0:Int))))
theorem WV:aR Tryz.prog 104:=Tryz.call104
theorem HD (U:Nat) {d:dJ} (v:Value)  (j:Value)  (y:mV) (r:aS) (h:oB U d=some r):
  aW Tryz.prog 104 #[Value.agg #[v,j]] [Sl bJ v d.1,S2 bG j y d.2] (λx:Value=>x) (λx l=>Ar lM x r::l) (λ_ l=>l):=by
 refine aW.of Tryz.func104 Z Tryz.ntmps104 Z λc=>?_;refine aP<|aH (aL.box (cs:=[v,j]) Z Z) Z λD=>aC Z<|aN<|aP<|bV Z<|dO 0 Z<|aD (kE Z (aF.fact 1 Z) Z) Z<|eH h λB h=>aH (wP (e:=lM) (0:Int) Z Z Z Z B Z Z Z) Z λi=>aC Z<|aN<|aM<|fF (λk=>sI  k=some r) (λk w=>[(3,i)]) (λk w=>[Ar lM i k]) ?_ ?_
 ·refine aP<|bV Z<|dO 1 Z<|aD (kE Z (aF.fact 1 Z) Z) Z<|aA Z<|aN<|aT<|fJ (kU U d) (λa m=>[(3,i),(13,j),(14,vI (List.length d.2:Int)),(15,vI (a.1))]) (λa m=>[Ar lM i a.2]) ((0:Int),(List.replicate (Int.toNat (List.length d.2:Int)) (0:Int))) () h SF (bA.ix [0] Z Z) ?_;intro t a m h;refine aP<|cW Z<|aN<|aM ?_;refine dK h Z (λh=>?_) λh=>?_
  ·refine cT<|aM<|fF (λg=>sJ a (bP (kU U d) t) g=some r) (λg n=>[(3,i),(13,j),(14,vI (List.length d.2:Int)),(15,vI (a.1))]) (λg n=>[Ar lM i g]) ?_ ?_
   ·refine aT<|aP<|aA Z<|eH h λf h=>aD (cV Z Z (aF.fact 1 Z) Z Z f) Z<|aD (cX Z (aF.fact 1 Z) Z Z f) Z<|aC Z<|aC Z<|aN<|aP<|aA Z<|aD (kR Z (aF.el (aF.fact 1 Z) f.1 f.2) Z) Z<|aA Z<|aN<|aT<|fJ (pO d a (bP (kU U d) t)) (λb o=>[(3,i),(4,vI (a.1)),(13,j),(14,vI (List.length d.2:Int)),(15,vI (a.1)),(20,(at' y a.1).1),(21,vI (List.length (at' d.2 a.1):Int)),(22,vI (b.1))]) (λb o=>[Ar lM i b.2]) ((0:Int),a.2) () h SF (bA.refl _) ?_;intro C b o h;refine aP<|cW Z<|aN<|aM ?_;refine dK h Z (λh=>?_) λh=>?_
    ·refine cT<|aM<|aT<|aP<|eH h λp h=>aD (bK Z Z (aF.el (aF.fact 1 Z) f.1 f.2) Z Z p) Z<|aD (g_ (cs:=[vI ((at' (at' d.2 a.1) b.1).1),vI ((at' (at' d.2 a.1) b.1).2)]) Z (aF.el (aF.fact 1 Z) f.1 f.2) bI Z Z Z Z p) Z<|aH (aL.alloc (cs:=Ti) Z Z) Z λA=>bO 0 (vs:=[vI ((at' (at' d.2 a.1) b.1).1),vI ((at' (at' d.2 a.1) b.1).2)]) Z Z Z Z Z Z<|aN ?_;refine JR.start [0,0,3,7,0,16,48,127,255,511] 7 mixedOrders (by decide +kernel) ?_;refine JR.open (by exact rfl) ?_;refine bD Z<|bD Z<|eH h λq h=>bL Z (bA.cons 1 Z .nil) .nil (bK Z Z (a_ (aF.res 0 Z) kZ) Z Z q) aO.z<|bL Z (bA.cons 1 Z .nil) .nil (cQ Z (a_ (aF.res 0 Z) kZ) Z Z Z CE q) aO.z<|cH Z<|gU 0 Z<|eH h λu h=>iB Z (Ff Z Z u)<|bQ 7 Z Z<|aD (Le Z Z) Z<|eH h λs h=>aD (bK Z Z (a_ (aF.res 1 Z) kZ) Z Z s) Z<|Mw 1 (Ec .u32 (at' b.2 a.1) (wC .u32 (1:Int) ((at' (at' d.2 a.1) b.1).1))) s Z Z Z Z Z Z Z<|eN<|oP<|aQ<|cJ Z<|aA Z<|aN ?_;exact mW ((wI .i64 (b.1+(1:Int))),(List.set b.2 (Int.toNat a.1) (Ec .u32 (at' b.2 a.1) (wC .u32 (1:Int) ((at' (at' d.2 a.1) b.1).1))))) () h SF (bA.ix [1] Z Z) (aE.refl _ _)
    refine sW<|eZ<|eZ<|yR<|oP ?_;exact iP (b.2) () h SF Z
   intro g n h;unfold sJ at h;refine aQ<|cJ Z<|aA Z<|aN ?_;exact AX ((wI .i64 (a.1+(1:Int))),g) () h SF Z
  refine gX ?_;exact iP (a.2) () h SF Z
 intro k w h;unfold sI at h;refine aP<|aA Z<|aC Z<|aN<|aV ?_;cases h;exact jE (i) Z Z (RV.tmp Z) (bA.refl _) aE.nil
end Go.Proofs.YtjkjpdonlpdcaaaGreatDoor
namespace Go.Proofs.YtjkjpdonlpdcaaaGreatDoor
open Go Go.Sx
structure R_ (m k:Nat):Prop where
 bit:m.testBit k=true
 low:∀j,j<k->m.testBit j=false
theorem GB {m:Nat} (h:m≠0):∃k,R_ m k:=by
 obtain⟨i,c⟩:=Nat.exists_testBit_of_ne_zero h;obtain⟨k,_,a,b⟩:=Kv (p:=λi=>m.testBit i=true) i c;exact⟨k,a,λj d=>by simpa using b j d⟩
theorem NF {m k:Nat} (h:R_ m k) (i:Nat):(m - 1).testBit i=if i<k then true else if i=k then false else m.testBit i:=by
 have b:m=2^(k+1)*(m / 2^(k+1))+2^k:=by
  refine Nat.eq_of_testBit_eq λi=> ?_;have a:2^k<2^(k+1):=Nat.pow_lt_pow_right (by omega) (by omega);rw[Nat.testBit_two_pow_mul_add _ a,Nat.testBit_two_pow,Nat.testBit_div_two_pow];rcases Nat.lt_trichotomy i k with q|q|q
  ·rw[if_pos (by omega),h.low i q,decide_eq_false (by omega)]
  ·subst q;rw[if_pos (by omega),h.bit,decide_eq_true Z]
  ·rw[if_neg (by omega),show i - (k+1)+(k+1)=i by omega]
 have c:0<2^k:=Nat.pow_pos (by omega);have a:2^k - 1<2^(k+1):=by rw[Nat.pow_succ];omega
 have e:m - 1=2^(k+1)*(m / 2^(k+1))+(2^k - 1):=by omega
 rw[e,Nat.testBit_two_pow_mul_add _ a,Nat.testBit_two_pow_sub_one,Nat.testBit_div_two_pow];rcases Nat.lt_trichotomy i k with q|q|q
 ·rw[if_pos (by omega),if_pos q,decide_eq_true q]
 ·subst q;rw[if_pos (by omega),if_neg (by omega),if_pos Z,decide_eq_false (by omega)]
 ·rw[if_neg (by omega),if_neg (by omega),if_neg (by omega),show i - (k+1)+(k+1)=i by omega]
theorem agx {m:Nat} (b:m<4294967296) (a:m≠0):wI .u32 (0 - (m:Int))=((4294967296 - m:Nat):Int):=by
 rw[Cp];have:IntKind.u32.wrap (0 - (m:Int))=(0 - (m:Int))%4294967296:=rfl;rw[this];omega
theorem ade {m:Nat} (b:m<4294967296) (a:m≠0):wI .u32 ((m:Int) - 1)=((m - 1:Nat):Int):=by
 rw[show(m:Int) - 1=((m - 1:Nat):Int) by omega,Cp,KS _ (by omega)]
theorem aaP {m k:Nat} (a:m<4294967296) (h:R_ m k):dA .u32 (m:Int) (wI .u32 (0 - (m:Int)))=((2^k:Nat):Int):=by
 have b:m≠0:=λe=>by have:=h.bit;rw[e]at this;simp at this
 have c:k<32:=Gm a h.bit;rw[agx a b,Cg a (by omega)];congr 1;refine Nat.eq_of_testBit_eq λi=> ?_;rw[Nat.testBit_and,show 4294967296 - m=2^32 - ((m - 1)+1) by omega,Nat.testBit_two_pow_sub_succ (by omega),Nat.testBit_two_pow,NF h];rcases Nat.lt_trichotomy i k with q|q|q
 ·rw[h.low i q,decide_eq_false (show¬k=i by omega)];rfl
 ·subst q;rw[h.bit,if_neg (by omega),if_pos Z,decide_eq_true c,decide_eq_true Z];rfl
 ·rw[if_neg (by omega),if_neg (by omega),decide_eq_false (show¬k=i by omega)];cases m.testBit i<;>simp
theorem Pa {m k:Nat} (a:m<4294967296) (h:R_ m k):∃b:Nat,dA .u32 (m:Int) (wI .u32 ((m:Int) - 1))=(b:Int)∧b<4294967296∧∀i,b.testBit i=(m.testBit i&&decide (i≠k)):=by
 have c:m≠0:=λe=>by have:=h.bit;rw[e]at this;simp at this
 refine⟨m &&& (m - 1),by rw[ade a c,Cg a (by omega)],OT a,λi=> ?_⟩
 rw[Nat.testBit_and,NF h];rcases Nat.lt_trichotomy i k with q|q|q
 ·rw[h.low i q];rfl
 ·subst q;simp
 ·rw[if_neg (by omega),if_neg (by omega)];have:decide (i≠k)=true:=decide_eq_true (by omega);rw[this];cases m.testBit i<;>rfl
theorem abl:∀k:Fin 32,((0:Int)<=lY .u32 (wI .u32 ((((2^k.val:Nat):Int))*125613361)) 27∧lY .u32 (wI .u32 ((((2^k.val:Nat):Int))*125613361)) 27<((32:Nat):Int))∧wI .i64 (at' qP (lY .u32 (wI .u32 ((((2^k.val:Nat):Int))*125613361)) 27))=(k.val:Int):=by decide +kernel
theorem Zv (f:Nat) {m k:Nat} (a:m<4294967296) (h:R_ m k):jO f (m:Int)=some (k:Int):=by
 have d:m≠0:=λe=>by have:=h.bit;rw[e]at this;simp at this
 obtain⟨b,c⟩:=abl ⟨k,Gm a h.bit⟩;unfold jO;rw[if_neg (by omega),cS (by decide),aaP a h,cS ⟨b,rfl⟩,c]
structure MC (g:GR) (r:aS):Prop where
 len:r.length=g.2.length
 at':∀v:Nat,v<g.2.length->∃m:Nat,Go.Sx.at' r (v:Int)=(m:Int)∧m<4294967296∧∀u,m.testBit u=true↔Cc g v u
theorem aaV {g:GR} (I:VG g):∃r,oB 1000 g=some r∧MC g r:=by
 have R:=I.n24;unfold oB;rw[cS (by omega)];obtain⟨⟨a,r⟩,⟨y,B,C⟩,J⟩:=vL (step:=kU 1000 g) (K:=λz=>some z.2) g.2.length
  (λk z=>z.1=(k:Int)∧z.2.length=g.2.length∧∀v:Nat,v<g.2.length->∃m:Nat,Go.Sx.at' z.2 (v:Int)=(m:Int)∧m<4294967296∧∀u,m.testBit u=true↔v<k∧Cc g v u) (λk z E M G=>by
  obtain⟨a,r⟩:=z;obtain⟨y,B,C⟩:=G;dsimp only at y B C;subst y;have O:=(I.node k M).deg;obtain⟨⟨b,U⟩,⟨s,d,c⟩,J⟩:=vL (step:=pO g ((k:Int),r) E) (K:=λz=>E (((k+1:Nat):Int),z.2)) (row g k).length
   (λj z=>z.1=(j:Int)∧z.2.length=g.2.length∧∀v:Nat,v<g.2.length->∃m:Nat,Go.Sx.at' z.2 (v:Int)=(m:Int)∧m<4294967296∧∀u,m.testBit u=true↔(v<k∧Cc g v u)∨(v=k∧∃i,i<j∧(jA (row g k) i).1=(u:Int))) (λj z F S H=>by
   obtain⟨b,q⟩:=z;obtain⟨s,d,c⟩:=H;dsimp only at s d c;subst s;obtain⟨w,V,x,N⟩:=I.port M S;obtain⟨m,T,l,t⟩:=c k M;refine⟨(((j+1:Nat):Int),q.set k (((m ||| 2^w:Nat)):Int)),⟨rfl,by simpa using d,λv f=> ?_⟩,?_⟩
   ·show∃P,Go.Sx.at' (q.set k _) (v:Int)=_∧_;rw[uO q k v _ (by omega)];by_cases e:v=k
    ·subst e;refine⟨_,if_pos Z,Re l (Ck (by omega)),λu=> ?_⟩
     rw[Nat.testBit_or,Nat.testBit_two_pow,Bool.or_eq_true,t u,decide_eq_true_eq];constructor
     ·rintro((h|⟨_,i,A,h⟩)|h)
      ·exact .inl h
      ·exact .inr ⟨rfl,i,by omega,h⟩
      ·exact .inr ⟨rfl,j,by omega,by rw[x,h]⟩
     ·rintro(h|⟨_,i,A,h⟩)
      ·exact .inl (.inl h)
      ·by_cases L:i=j
       ·subst L;right;rw[x]at h;omega
       ·exact .inl (.inr ⟨rfl,i,by omega,h⟩)
    ·obtain⟨P,n,o,p⟩:=c v f;refine⟨P,by rw[if_neg e];exact n,o,λu=> ?_⟩
     rw[p u];constructor
     ·rintro(h|⟨h,_⟩)
      ·exact .inl h
      ·exact absurd h e
     ·rintro(h|⟨h,_⟩)
      ·exact .inl h
      ·exact absurd h e
   ·unfold pO;dsimp only;rw[if_pos (show(j:Int)<((row g k).length:Int) by omega),cS (show 0<=(j:Int)∧(j:Int)<((row g k).length:Int) by omega),cS (by omega),show Go.Sx.at' (Go.Sx.at' g.2 (k:Int)) (j:Int)=jA (row g k) j from rfl,x,cS (by omega),cS (by omega),T,Gl l (by omega),dG (by omega),Int.toNat_natCast]) (λz F H=>by
   obtain⟨b,q⟩:=z;obtain⟨s,d,c⟩:=H;dsimp only at s d c;subst s;unfold pO sJ;dsimp only;rw[if_neg (show¬((row g k).length:Int)<((row g k).length:Int) by omega),dG (by omega)]) 1000 ((0:Int),r) ⟨rfl,B,λv f=>by
    obtain⟨m,n,o,p⟩:=C v f;refine⟨m,n,o,λu=> ?_⟩
    rw[p u];constructor
    ·exact λh=> .inl h
    ·rintro(h|⟨_,i,A,_⟩)
     ·exact h
     ·omega⟩ (by omega)
  dsimp only at s d c;refine⟨(((k+1:Nat):Int),U),⟨rfl,d,λv f=> ?_⟩,?_⟩
  ·obtain⟨m,n,o,p⟩:=c v f;refine⟨m,n,o,λu=> ?_⟩
   rw[p u];constructor
   ·rintro(⟨Q,D⟩|⟨rfl,i,A,h⟩)
    ·exact⟨by omega,D⟩
    ·exact⟨by omega,i,A,h⟩
   ·rintro⟨Q,D⟩;by_cases e:v=k
    ·subst e;obtain⟨i,A,h⟩:=D;exact .inr ⟨rfl,i,A,h⟩
    ·exact .inl ⟨by omega,D⟩
  ·unfold kU;dsimp only;rw[if_pos (by omega),cS (by omega)];exact J) (λz E G=>by
  obtain⟨a,r⟩:=z;obtain⟨y,B,C⟩:=G;dsimp only at y;subst y;unfold kU sI;dsimp only;rw[if_neg (by omega)]) 1000 ((0:Int),List.replicate (Int.toNat (g.2.length:Int)) (0:Int)) ⟨rfl,by simp,λv f=>⟨0,by
   rw[Int.toNat_natCast,lC (by simpa using f)];simp,by omega,λu=>by simp⟩⟩ (by omega)
 refine⟨r,J,B,λv f=> ?_⟩
 obtain⟨m,n,o,p⟩:=C v f;exact⟨m,n,o,λu=>by rw[p u];exact⟨λh=>h.2,λh=>⟨f,h⟩⟩⟩
def JB (g:GR) (m:Nat):Prop:=∀i,m.testBit i=true->i<g.2.length
theorem JB.lt {g:GR} (b:VG g) {m:Nat} (h:JB g m):m<16777216:=by
 have a:=b.n24;refine Nat.lt_of_lt_of_le (Nat.lt_pow_two_of_testBit (n:=24) m λi d=> ?_) (Nat.le_refl _);cases c:m.testBit i with
 |false=>rfl
 |true=>have:=h i c;omega
theorem acv {m:Nat} (h:∀i,i<32->m.testBit i=false) (b:m<4294967296):m=0:=by
 refine Nat.eq_of_testBit_eq λi=> ?_;rw[Nat.zero_testBit];rcases Nat.lt_or_ge i 32 with q|q
 ·exact h i q
 ·cases a:m.testBit i with
  |false=>rfl
  |true=>have:=Gm b a;omega
theorem Pv {g:GR} (z:VG g) {r:aS} (y:MC g r) {t:Nat} (C:JB g t) (n:∀v u,t.testBit v=true->t.testBit u=true->¬Cc g v u) (F:Nat):∀(d s a b:Nat),s+d=32->b<4294967296->(∀i,i<s->b.testBit i=false)->(∀i,b.testBit i=true->t.testBit i=true)->d<a->
  bP (fV F r (t:Int)) a (b:Int)=some true:=by
 have J:=z.n24;have p:t<4294967296:=by have:=C.lt z;omega
 intro d
 induction d using Nat.strongRecOn with
 | _ d ih =>
  intro s a b P B o c O;obtain⟨a,rfl⟩:∃f,a=f+1:=⟨a - 1,by omega⟩
  show fV F r (t:Int) (b:Int) (bP _ a)=_;unfold fV jF;by_cases G:b=0
  ·rw[if_neg (by omega)]
  obtain⟨k,l⟩:=GB G;have w:=C k (c k l.bit);have K:s<=k:=by
   rcases Nat.lt_or_ge k s with q|q
   ·have:=l.bit;rw[o k q]at this;cases this
   ·exact q
  obtain⟨m,L,h,j⟩:=y.at' k w;rw[if_pos (by omega),bF (Zv F B l),cS (by have:=y.len;omega),L,Cg h p];have M:m &&& t=0:=by
   refine acv (λi _=> ?_) (OT h);rw[Nat.testBit_and];cases H:m.testBit i with
   |false=>rfl
   |true=>
    cases I:t.testBit i with
    |false=>rfl
    |true=>exact absurd ((j i).1 H) (n k i (c k l.bit) I)
  rw[M,if_neg (by simp)];obtain⟨N,D,E,x⟩:=Pa B l;rw[D];have A:k<32:=by omega
  refine ih (32 - (k+1)) (by omega) (k+1) a N (by omega) E (λi n=> ?_) (λi n=> ?_) (by omega)
  ·rw[x];by_cases e:i=k
   ·simp[e]
   ·rw[l.low i (by omega)];rfl
  ·rw[x,Bool.and_eq_true]at n;exact c i n.1
theorem Hz {g:GR} (a:VG g) {r:aS} (d:MC g r) {t:Nat} (c:JB g t) (b:∀v u,t.testBit v=true->t.testBit u=true->¬Cc g v u):gH 1000 r (t:Int)=some true:=
 Pv a d c b 1000 32 0 1000 t (by omega) (by have:=c.lt a;omega) (λi b=>by omega) (λi h=>h) (by omega)
theorem Nl {g:GR} (M:VG g) {r:aS} (T:MC g r) {W:Nat} (U:JB g W) (F:Nat):∀(d s a b t:Nat),s+d=32->b<4294967296->t<4294967296->(∀i,i<s->b.testBit i=false)->(∀i,b.testBit i=true->W.testBit i=true)->(∀i,t.testBit i=true->W.testBit i=true)->(∀v u,t.testBit v=true->t.testBit u=true->¬Cc g v u)->(W≠0->t≠0∨b=W)->d<a->
  ∃C:Nat,bP (dZ F r) a ((b:Int),(t:Int))=some (C:Int)∧C<4294967296∧(∀i,C.testBit i=true->W.testBit i=true)∧(∀v u,C.testBit v=true->C.testBit u=true->¬Cc g v u)∧(W≠0->C≠0):=by
 have aa:=M.n24;intro d
 induction d using Nat.strongRecOn with
 | _ d ih =>
  intro s a b t hs V c I w n j O hf;obtain⟨a,rfl⟩:∃f,a=f+1:=⟨a - 1,by omega⟩
  have P:bP (dZ F r) (a+1) ((b:Int),(t:Int))=dZ F r ((b:Int),(t:Int)) (bP (dZ F r) a):=rfl;rw[P];unfold dZ lR iY;dsimp only;by_cases S:b=0
  ·rw[if_neg (by omega)];refine⟨t,rfl,c,n,j,λX=> ?_⟩
   rcases O X with h|h
   ·exact h
   ·exact absurd (h.symm.trans S) X
  obtain⟨k,D⟩:=GB S;have E:=w k D.bit;have G:=U k E;have ab:s<=k:=by
   rcases Nat.lt_or_ge k s with q|q
   ·have:=D.bit;rw[I k q]at this;cases this
   ·exact q
  obtain⟨m,hm,J,A⟩:=T.at' k G;obtain⟨L,Y,Q,R⟩:=Pa V D;have p:k<32:=by omega
  have x:∀i,i<k+1->L.testBit i=false:=λi l=>by
   rw[R];by_cases e:i=k
   ·simp[e]
   ·rw[D.low i (by omega)];rfl
  have z:∀i,L.testBit i=true->W.testBit i=true:=λi l=>by
   rw[R,Bool.and_eq_true]at l;exact w i l.1
  rw[if_pos (by omega),bF (Zv F V D),cS (by have:=T.len;omega),hm,Cg J c,Y];by_cases K:m &&& t=0
  ·rw[K,if_pos (by rfl),cS (by omega),Gl c p];have H:(t ||| 2^k).testBit k=true:=by rw[Nat.testBit_or,Nat.testBit_two_pow];simp
   have y:∀u,t.testBit u=true->¬Cc g k u:=λu o N=>by
    have:=congrArg (λq=>q.testBit u) K;simp only[Nat.testBit_and,Nat.zero_testBit,(A u).2 N,o]at this;cases this
   refine ih (32 - (k+1)) (by omega) (k+1) a L (t ||| 2^k) (by omega) Q (Re c (Ck p)) x z (λi l=> ?_) (λv u B o=> ?_) (λ_=> .inl λe=>by rw[e]at H;simp at H) (by omega)
   ·rw[Nat.testBit_or,Nat.testBit_two_pow,Bool.or_eq_true,decide_eq_true_eq]at l;rcases l with l|rfl
    ·exact n i l
    ·exact E
   ·rw[Nat.testBit_or,Nat.testBit_two_pow,Bool.or_eq_true,decide_eq_true_eq]at B o;rcases B with B|rfl
    ·rcases o with o|rfl
     ·exact j v u B o
     ·exact λN=>y v B (M.back (U v (n v B)) N)
    ·rcases o with o|rfl
     ·exact y u o
     ·rintro⟨i,l,he⟩;exact((M.node k G).links i l).2.1 he
  ·rw[if_neg (by omega)];refine ih (32 - (k+1)) (by omega) (k+1) a L t (by omega) Q c x z n j (λ_=> .inl λe=> ?_) (by omega);rw[e]at K;exact K (Nat.and_zero m)
theorem PK {g:GR} (hV:VG g) {r:aS} (hN:MC g r) {kind:Int} (hk1:1<=kind) (hk4:kind<=4) {e w:Nat} (he:JB g e) (hw:w<4294967296):
  ∃t:Nat,eM 1000 r kind (e:Int) (w:Int)=some (t:Int)∧(∀i,t.testBit i=true->e.testBit i=true)∧(e≠0->t≠0∧fC 1000 r kind (e:Int) (t:Int)=some true∧(kind<=2->∀v u,t.testBit v=true->t.testBit u=true->¬Cc g v u)∧(kind=4->t=e)):=by
 have he24:=he.lt hV;have he32:e<4294967296:=by omega
 -- the wish
 obtain⟨W,hW,hW32,hWe,hW0,hWm⟩:∃W:Nat,eM 1000 r kind (e:Int) (w:Int)=iX 1000 r kind (e:Int) (W:Int)∧W<4294967296∧(∀i,W.testBit i=true->e.testBit i=true)∧(e≠0->W≠0)∧(e=0->W=0):=by
  unfold eM;rw[Cg hw he32];by_cases h0:w &&& e=0
  ·rw[h0,if_pos (show((0:Nat):Int)=0 from rfl)];by_cases hee:e=0
   ·refine⟨0,by rw[hee];rfl,by omega,λi h=>by simp at h,λh=>absurd hee h,λ_=>rfl⟩
   ·obtain⟨k,hk⟩:=GB hee;have hk32:=Gm he32 hk.bit;refine⟨2^k,by rw[aaP he32 hk],Ck hk32,λi h=> ?_,λ_=>Nat.ne_of_gt (Nat.pow_pos (by omega)),λh=>absurd h hee⟩
    rw[Nat.testBit_two_pow,decide_eq_true_eq]at h;rw[<-h];exact hk.bit
  ·rw[if_neg (by omega)];refine⟨w &&& e,rfl,OT hw,λi h=> ?_,λ_=>h0,λh=>by rw[h];exact Nat.and_zero w⟩
   rw[Nat.testBit_and,Bool.and_eq_true]at h;exact h.2
 have hWG:JB g W:=λi hi=>he i (hWe i hi);have permits:∀(t:Nat),t≠0->t<4294967296->(∀i,t.testBit i=true->e.testBit i=true)->∀b,(if kind=1 then some (decide ((dA .u32 (t:Int) (wI .u32 ((t:Int) - 1)))=0))else if kind=2 then(Option.bind (gH 1000 r (t:Int)) λr7=>some r7)else if kind=4 then some (decide ((t:Int)=(e:Int)))else some true)=some b->fC 1000 r kind (e:Int) (t:Int)=some b:=by
  intro t h0 h32 hsub b hb;unfold fC lQ;have hd:Bc t e=0:=by
   refine Nat.eq_of_testBit_eq λi=> ?_;rw[Gp h32 he32,Nat.zero_testBit];cases h1:t.testBit i with
   |false=>rfl
   |true=>rw[hsub i h1];rfl
  rw[if_neg (by omega),Fh,hd,if_neg (by simp)];exact hb
 rw[hW];unfold iX;by_cases k1:kind=1
 ·rw[if_pos k1];by_cases hw0:W=0
  ·refine⟨0,by rw[hw0];rfl,λi h=>by simp at h,λh=>absurd hw0 (hW0 h)⟩
  ·obtain⟨k,hk⟩:=GB hw0;have hk32:=Gm hW32 hk.bit;have hL:R_ (2^k) k:=⟨by rw[Nat.testBit_two_pow];simp,λj hj=>by rw[Nat.testBit_two_pow];exact decide_eq_false (by omega)⟩
   refine⟨2^k,by rw[aaP hW32 hk],λi h=> ?_,λhee=>⟨Nat.ne_of_gt (Nat.pow_pos (by omega)),?_,λ_ v u hv hu hadj=> ?_,λh=>by omega⟩⟩
   ·rw[Nat.testBit_two_pow,decide_eq_true_eq]at h;rw[<-h];exact hWe k hk.bit
   ·refine permits _ (Nat.ne_of_gt (Nat.pow_pos (by omega))) (Ck hk32) (λi h=> ?_) true ?_
    ·rw[Nat.testBit_two_pow,decide_eq_true_eq]at h;rw[<-h];exact hWe k hk.bit
    ·obtain⟨m',e1,e2,e3⟩:=Pa (Ck hk32) hL;rw[if_pos k1,e1];have:m'=0:=Nat.eq_of_testBit_eq λi=>by
      rw[e3,Nat.testBit_two_pow,Nat.zero_testBit];by_cases q:k=i
      ·simp[q]
      ·simp[q]
     rw[this];rfl
   ·rw[Nat.testBit_two_pow,decide_eq_true_eq]at hv hu;subst hv;subst hu;obtain⟨i,hi,he⟩:=hadj;exact((hV.node k (hWG k hk.bit)).links i hi).2.1 he
 rw[if_neg k1];by_cases k2:kind=2
 ·rw[if_pos k2];obtain⟨t,h1,h2,h3,h4,h5⟩:=Nl hV hN hWG 1000 32 0 1000 W 0 (by omega) hW32 (by omega) (λi hi=>by omega) (λi h=>h) (λi h=>by simp at h) (λv u h=>by simp at h) (λ_=> .inr Z) (by omega);refine⟨t,h1,λi h=>hWe i (h3 i h),λhee=>⟨h5 (hW0 hee),?_,λ_=>h4,λh=>by omega⟩⟩
  refine permits t (h5 (hW0 hee)) h2 (λi h=>hWe i (h3 i h)) true ?_;rw[if_neg k1,if_pos k2,bF (Hz hV hN (λi h=>hWG i (h3 i h)) h4)]
 rw[if_neg k2];by_cases k4:kind=4
 ·rw[if_pos k4];refine⟨e,rfl,λi h=>h,λhee=>⟨hee,permits e hee he32 (λi h=>h) true ?_,λh=>by omega,λ_=>rfl⟩⟩
  rw[if_neg k1,if_neg k2,if_pos k4];simp
 ·rw[if_neg k4];refine⟨W,rfl,hWe,λhee=>⟨hW0 hee,permits W (hW0 hee) hW32 hWe true ?_,λh=>by omega,λh=>absurd h k4⟩⟩
  rw[if_neg k1,if_neg k2,if_neg k4]
end Go.Proofs.YtjkjpdonlpdcaaaGreatDoor
namespace Go.Proofs.YtjkjpdonlpdcaaaGreatDoor
open Go.Sx
def xO  (a:Int):Option (Int):=
 some (a)
def tM (c:aS) (a:dQ) (b:dY->Option (Int)):Option (Int):=
 if a.2<(List.length c:Int)then(ck (0<=a.2∧a.2<(List.length c:Int)) (b ((max a.1 (at' c a.2)),(wI .i64 (a.2+(1:Int))))))else(xO  (a.1))
def zB (U:Nat) (a:aS):Option (Int):=
 if(List.length a:Int)<(1:Int)then(none)else(ck (0<=(0:Int)∧(0:Int)<(List.length a:Int)) (bP (tM a) U ((at' a (0:Int)),(1:Int))))
theorem aaa:aR Tryz.prog 37:=Tryz.call37
theorem Mc (U:Nat) {f:aS} (g:Value) (r:Int) (h:zB U f=some r):
  aW Tryz.prog 37 #[g] [Sl bJ g f] (λx:Unit=>vI (r)) (λx l=>l) (λ_ l=>l):=by
 refine aW.of Tryz.func37 Z Tryz.ntmps37 Z λc=>?_;refine aP<|aC Z<|aN<|aM<|aP<|aA Z<|jS (aF.fact 0 Z) Z<|cW Z<|aN ?_;refine dK h Z (λh=>?_) λh=>?_
 ·refine aQ ?_;cases h
 refine cT<|aP<|aA Z<|eH h λj h=>aD (bK Z Z (aF.fact 0 Z) Z Z j) Z<|aD (cQ Z (aF.fact 0 Z) Z Z Z fG j) Z<|aC Z<|aN<|aM<|fF (λb=>xO  b=some r) (λb i=>[(3,vI (b))]) (λb i=>[]) ?_ ?_
 ·refine aP<|aC Z<|aN<|aT<|fJ (tM f) (λa d=>[(0,g),(3,vI (a.1)),(4,vI (a.2))]) (λa d=>[]) ((at' f (0:Int)),(1:Int)) () h SF (bA.refl _) ?_;intro k a d h;refine aM<|aP<|aA Z<|aA Z<|jS (aF.fact 0 Z) Z<|cW Z<|aN ?_;refine dK h Z (λh=>?_) λh=>?_
  ·refine cT<|aM<|aT<|aQ<|aA Z<|aA Z<|aA Z<|eH h λe h=>aD (bK Z Z (aF.fact 0 Z) Z Z e) Z<|aD (cQ Z (aF.fact 0 Z) Z Z Z fG e) Z<|aD (Ir Z Z) Z<|aC Z<|eN<|oP<|aQ<|aA Z<|cJ Z<|aC Z<|aN ?_;exact AX ((max a.1 (at' f a.2)),(wI .i64 (a.2+(1:Int)))) () h SF Z
  refine gX ?_;exact iP (a.1) () h SF Z
 intro b i h;unfold xO at h;refine aP<|aA Z<|aC Z<|aN<|aV ?_;cases h;exact lL Z
def oS (U:Nat) (a:Dh) (b:dJ) (d:Int):Option dY:=
 Option.bind (zB U b.1) λc=>(some (a.2.2.1,(wI .i64 ((wI .i64 (a.2.2.2.1+(wI .i64 (a.2.2.2.2.1*(List.length b.1:Int)))))+(wI .i64 (a.2.2.2.2.2*c))))))
theorem Xq:aR Tryz.prog 217:=Tryz.call217
theorem FL (U:Nat) {a:Dh} {d:dJ} {f:Int} (b:Value)  (e:Value)  (k:mV) (r:dQ) (h:oS U a d f=some r):
  aW Tryz.prog 217 #[Value.agg #[vS (a.1),vI (a.2.1),vI (a.2.2.1),vI (a.2.2.2.1),vI (a.2.2.2.2.1),vI (a.2.2.2.2.2)],Value.agg #[b,e],vI (f)] [Sl bJ b d.1,S2 bG e k d.2] (λx:Unit=>Value.tuple #[vI (r.1),vI (r.2)]) (λx l=>l) (λ_ l=>l):=by
 refine aW.of Tryz.func217 Z Tryz.ntmps217 Z λc=>?_;refine aP<|aH (aL.box (cs:=[vS (a.1),vI (a.2.1),vI (a.2.2.1),vI (a.2.2.2.1),vI (a.2.2.2.2.1),vI (a.2.2.2.2.2)]) Z Z) Z λm=>aH (aL.box (cs:=[b,e]) Z Z) Z λn=>aC Z<|aC Z<|aN<|aM ?_;refine JR.start [0,1,0,4,0,16,0,64,192,496,1020,0,2048,0,8192,24576,63488,131068,57347,524287] 19 mixedOrders (by decide +kernel) ?_;refine JR.open (by exact rfl) ?_;refine cH Z<|gU 1 Z<|cH Z<|gU 1 Z<|cH Z<|gU 1 Z<|cH Z<|gU 0 Z<|bL Z .nil (nW 0 Z) (kR Z (aF.fact 0 Z) Z) aO.z<|iB Z (yG Z Z)<|iB Z (zN Z Z)<|cH Z<|gU 1 Z<|cH Z<|gU 0 Z<|fE h λg i h=>JR.loud Z Z Z (aL.callQ aaa (Mc U b g i) Z (mK [0] Z)) Z (λj=>(mP [([1],[]),([],[0]),([0],[]),([1],[]),([1],[]),([1],[])] Z)) λj=>iB Z (yG Z Z)<|iB Z (zN Z Z)<|iB Z (vG Z)<|bQ 19 Z Z<|aC Z<|aN<|aV ?_;cases h;exact iA () Z Z (RV.tmp Z) (RV.tmp Z) .nil aE.nil
def rH (U:Nat) (a:Dh) (b:dJ) (c:Int):Option dY:=
 some ((0:Int),(1:Int))
theorem Xr:aR Tryz.prog 218:=Tryz.call218
theorem FM (U:Nat) {a:Dh} {b:dJ} {f:Int} (d:Value)  (e:Value)  (g:mV) (r:dQ) (h:rH U a b f=some r):
  aW Tryz.prog 218 #[Value.agg #[vS (a.1),vI (a.2.1),vI (a.2.2.1),vI (a.2.2.2.1),vI (a.2.2.2.2.1),vI (a.2.2.2.2.2)],Value.agg #[d,e],vI (f)] [Sl bJ d b.1,S2 bG e g b.2] (λx:Unit=>Value.tuple #[vI (r.1),vI (r.2)]) (λx l=>l) (λ_ l=>l):=by
 refine aW.of Tryz.func218 Z Tryz.ntmps218 Z λc=>?_;unfold rH at h;refine aP<|aH (aL.box (cs:=[vS (a.1),vI (a.2.1),vI (a.2.2.1),vI (a.2.2.2.1),vI (a.2.2.2.2.1),vI (a.2.2.2.2.2)]) Z Z) Z λi=>aH (aL.box (cs:=[d,e]) Z Z) Z λj=>aC Z<|aC Z<|aN<|aP<|aC Z<|aC Z<|aN<|aV ?_;cases h;exact iA () Z Z (RV.tmp Z) (RV.tmp Z) .nil aE.nil
def oT (U:Nat) (c:Dh) (b:dJ) (a:Int):Option dY:=
 ck (0<=a∧a<(List.length b.2:Int)) (some ((-1:Int),(wI .i64 ((List.length (at' b.2 a):Int) - (1:Int)))))
theorem Xs:aR Tryz.prog 219:=Tryz.call219
theorem FN (U:Nat) {a:Dh} {d:dJ} {g:Int} (e:Value)  (f:Value)  (i:mV) (r:dQ) (h:oT U a d g=some r):
  aW Tryz.prog 219 #[Value.agg #[vS (a.1),vI (a.2.1),vI (a.2.2.1),vI (a.2.2.2.1),vI (a.2.2.2.2.1),vI (a.2.2.2.2.2)],Value.agg #[e,f],vI (g)] [Sl bJ e d.1,S2 bG f i d.2] (λx:Unit=>Value.tuple #[vI (r.1),vI (r.2)]) (λx l=>l) (λ_ l=>l):=by
 refine aW.of Tryz.func219 Z Tryz.ntmps219 Z λc=>?_;refine aP<|aH (aL.box (cs:=[vS (a.1),vI (a.2.1),vI (a.2.2.1),vI (a.2.2.2.1),vI (a.2.2.2.2.1),vI (a.2.2.2.2.2)]) Z Z) Z λj=>aH (aL.box (cs:=[e,f]) Z Z) Z λk=>aC Z<|aC Z<|aN<|aM ?_;refine JR.start [0,1,0,7,15,31,63,0,255] 8 mixedOrders (by decide +kernel) ?_;refine JR.open (by exact rfl) ?_;refine cH Z<|gU 0 Z<|bD Z<|eH h λb h=>bL Z .nil (nW 1 Z) (cV Z Z (aF.fact 0 Z) Z Z b) aO.z<|bL Z .nil (nW 1 Z) (cX Z (aF.fact 0 Z) Z Z b) aO.z<|bL Z .nil (nW 1 Z) (kR Z (aF.el (aF.fact 0 Z) b.1 b.2) Z) aO.z<|iB Z (q_ Z Z)<|iB Z (vG Z)<|bQ 8 Z Z<|aC Z<|aN<|aV ?_;cases h;exact iA () Z Z (RV.tmp Z) (RV.tmp Z) .nil aE.nil
def wV  (a:Unit):Option dY:=
 some ((0:Int),(-1:Int))
def mQ (c:Int) (a:(Int)->Option dY) (b:Unit):Option dY:=
 a (wI .i64 (c+(1:Int)))
def eI (U:Nat) (a:Dh) (d:dJ) (h:Int) (b:Int) (c:(Int)->Option dY):Option dY:=
 if b<(List.length ([((1:Int),(217:Nat)),((2:Int),(218:Nat)),((3:Int),(219:Nat))]):Int)then(ck (0<=b∧b<(List.length ([((1:Int),(217:Nat)),((2:Int),(218:Nat)),((3:Int),(219:Nat))]):Int)) (if b=(0:Int)then(if(1:Int)=a.2.1 then(Option.bind (oS U ((a.1,a.2.1,a.2.2.1,a.2.2.2.1,a.2.2.2.2.1,a.2.2.2.2.2)) ((d.1,d.2)) h) λe=>(some (e.1,e.2)))else(mQ b c (())))else(if b=(1:Int)then(if(2:Int)=a.2.1 then(Option.bind (rH U ((a.1,a.2.1,a.2.2.1,a.2.2.2.1,a.2.2.2.2.1,a.2.2.2.2.2)) ((d.1,d.2)) h) λf=>(some (f.1,f.2)))else(mQ b c (())))else(if(3:Int)=a.2.1 then(Option.bind (oT U ((a.1,a.2.1,a.2.2.1,a.2.2.2.1,a.2.2.2.2.1,a.2.2.2.2.2)) ((d.1,d.2)) h) λg=>(some (g.1,g.2)))else(mQ b c (()))))))else(wV  (()))
def kB (U:Nat) (a:Dh) (b:dJ) (c:Int):Option dY:=
 bP (eI U a b c) U (0:Int)
theorem Qq:aR Tryz.prog 162:=Tryz.call162
theorem Cn (U:Nat) {a:Dh} {p:dJ} {m:Int} (g:Value)  (i:Value)  (y:mV) (r:dQ) (h:kB U a p m=some r):
  aW Tryz.prog 162 #[Value.agg #[vS (a.1),vI (a.2.1),vI (a.2.2.1),vI (a.2.2.2.1),vI (a.2.2.2.2.1),vI (a.2.2.2.2.2)],Value.agg #[g,i],vI (m)] [Sl bJ g p.1,S2 bG i y p.2] (λx:Unit=>Value.tuple #[vI (r.1),vI (r.2)]) (λx l=>l) (λ_ l=>l):=by
 refine aW.of Tryz.func162 Z Tryz.ntmps162 Z λc=>?_;unfold kB at h;refine aP<|aH (aL.box (cs:=[vS (a.1),vI (a.2.1),vI (a.2.2.1),vI (a.2.2.2.1),vI (a.2.2.2.2.1),vI (a.2.2.2.2.2)]) Z Z) Z λt=>aH (aL.box (cs:=[g,i]) Z Z) Z λu=>aC Z<|aC Z<|aN<|aP ?_;refine aD (BC (r:=Value.agg #[vI (1:Int),Value.func (.func 217) #[] #[]]) Z Z (by intro w;simp[Instr.build,Instr.fill,dV,cY,cM,dW,dX,cZ,eT])) Z ?_;refine aD (BC (r:=Value.agg #[vI (2:Int),Value.func (.func 218) #[] #[]]) Z Z (by intro w;simp[Instr.build,Instr.fill,dV,cY,cM,dW,dX,cZ,eT])) Z ?_;refine aD (BC (r:=Value.agg #[vI (3:Int),Value.func (.func 219) #[] #[]]) Z Z (by intro w;simp[Instr.build,Instr.fill,dV,cY,cM,dW,dX,cZ,eT])) Z ?_;refine aH (cP (e:=HL) ([(((1:Int),((217:Nat)))),(((2:Int),((218:Nat)))),(((3:Int),((219:Nat))))]) [(0,Value.agg #[vI (1:Int),Value.func (.func 217) #[] #[]]),(1,Value.agg #[vI (2:Int),Value.func (.func 218) #[] #[]]),(2,Value.agg #[vI (3:Int),Value.func (.func 219) #[] #[]])] Z Z Z Z (UR (vI (1:Int)) (Value.func (.func 217) #[] #[]) (vI (2:Int)) (Value.func (.func 218) #[] #[]) (vI (3:Int)) (Value.func (.func 219) #[] #[])) Z Z Z) Z λv=>aC Z<|aN<|aM<|fF (λs=>wV  s=some r) (λs G=>[]) (λs G=>[]) ?_ ?_
 ·refine aP<|aA Z<|aD (kR Z (a_ (aF.res 0 Z) An) Z) Z<|aA Z<|aN<|aT<|fJ (eI U a p m) (λk H=>[(2,vI (m)),(3,vP t),(4,vP u),(15,v),(16,vI (List.length ([((1:Int),(217:Nat)),((2:Int),(218:Nat)),((3:Int),(219:Nat))]):Int)),(17,vI (k))]) (λk H=>[Ar HL v ([((1:Int),(217:Nat)),((2:Int),(218:Nat)),((3:Int),(219:Nat))]),bX u [g,i] 27,bX t [vS (a.1),vI (a.2.1),vI (a.2.2.1),vI (a.2.2.2.1),vI (a.2.2.2.2.1),vI (a.2.2.2.2.2)] 85]) (0:Int) () h SF (bA.refl _) ?_;intro z k H h;refine aP<|cW Z<|aN<|aM ?_;refine dK h Z (λh=>?_) λh=>?_
  ·refine cT<|aM<|fF (λj=>mQ k (bP (eI U a p m) z) j=some r) (λj n=>[(2,vI (m)),(3,vP t),(4,vP u),(15,v),(16,vI (List.length ([((1:Int),(217:Nat)),((2:Int),(218:Nat)),((3:Int),(219:Nat))]):Int)),(17,vI (k))]) (λj n=>[Ar HL v ([((1:Int),(217:Nat)),((2:Int),(218:Nat)),((3:Int),(219:Nat))]),bX u [g,i] 27,bX t [vS (a.1),vI (a.2.1),vI (a.2.2.1),vI (a.2.2.2.1),vI (a.2.2.2.2.1),vI (a.2.2.2.2.2)] 85]) ?_ ?_
   ·refine aT<|aP<|eH h λf h=>aD (bK Z Z (a_ (aF.res 0 Z) An) Z Z f) Z ?_;by_cases b:k=(0:Int)
    ·have h:=Pu b h;refine aD (g_ (cs:=[vI (1:Int),Value.func (.func 217) #[] #[]]) Z (a_ (aF.res 0 Z) An) An (by rw[b];rfl) Z Z Z f) Z ?_;refine aH (aL.alloc (cs:=[vI (0:Int),Value.nilFunc]) Z Z) Z λI=>bO 0 (vs:=[vI (1:Int),Value.func (.func 217) #[] #[]]) Z Z Z Z Z Z<|aN<|aP<|bV Z<|dO 0 Z<|bV Z<|dO 3 Z<|bR Z<|aN ?_;refine dK h Z (λh=>?_) λh=>?_
     ·refine aP<|bV Z<|dO 0 Z<|dC 3 Z<|dC 2 Z<|aA Z<|fE h λA D h=>aH (rP (vs:=[Value.agg #[vS (a.1),vI (a.2.1),vI (a.2.2.1),vI (a.2.2.2.1),vI (a.2.2.2.2.1),vI (a.2.2.2.2.2)],Value.agg #[g,i],vI (m)]) (cs:=[]) Xq Z (FL U g i y A D) Z (mK [0,1] Z) (λ_ _=>rfl)) Z λL=>gA Z<|gA Z<|aC Z<|aC Z<|aN<|aV<|bS<|aK<|aK<|bS<|aK ?_;cases h;exact iA () Z Z (RV.tmp Z) (RV.tmp Z) .nil aE.nil
     refine dR<|oP ?_;exact b_ () (()) h SF (bA.ix [1,2,3] Z Z) (aE.refl _ _)
    have h:=ifN b h;by_cases d:k=(1:Int)
    ·have h:=Pu d h;refine aD (g_ (cs:=[vI (2:Int),Value.func (.func 218) #[] #[]]) Z (a_ (aF.res 0 Z) An) An (by rw[d];rfl) Z Z Z f) Z ?_;refine aH (aL.alloc (cs:=[vI (0:Int),Value.nilFunc]) Z Z) Z λJ=>bO 0 (vs:=[vI (2:Int),Value.func (.func 218) #[] #[]]) Z Z Z Z Z Z<|aN<|aP<|bV Z<|dO 0 Z<|bV Z<|dO 3 Z<|bR Z<|aN ?_;refine dK h Z (λh=>?_) λh=>?_
     ·refine aP<|bV Z<|dO 0 Z<|dC 3 Z<|dC 2 Z<|aA Z<|fE h λB E h=>aH (rP (vs:=[Value.agg #[vS (a.1),vI (a.2.1),vI (a.2.2.1),vI (a.2.2.2.1),vI (a.2.2.2.2.1),vI (a.2.2.2.2.2)],Value.agg #[g,i],vI (m)]) (cs:=[]) Xr Z (FM U g i y B E) Z (mK [0,1] Z) (λ_ _=>rfl)) Z λM=>gA Z<|gA Z<|aC Z<|aC Z<|aN<|aV<|bS<|aK<|aK<|bS<|aK ?_;cases h;exact iA () Z Z (RV.tmp Z) (RV.tmp Z) .nil aE.nil
     refine dR<|oP ?_;exact b_ () (()) h SF (bA.ix [1,2,3] Z Z) (aE.refl _ _)
    have h:=ifN d h;have o:k=(2:Int):=by have q:=f;simp only[List.length_cons,List.length_nil]at q;omega
    refine aD (g_ (cs:=[vI (3:Int),Value.func (.func 219) #[] #[]]) Z (a_ (aF.res 0 Z) An) An (by rw[o];rfl) Z Z Z f) Z ?_;refine aH (aL.alloc (cs:=[vI (0:Int),Value.nilFunc]) Z Z) Z λK=>bO 0 (vs:=[vI (3:Int),Value.func (.func 219) #[] #[]]) Z Z Z Z Z Z<|aN<|aP<|bV Z<|dO 0 Z<|bV Z<|dO 3 Z<|bR Z<|aN ?_;refine dK h Z (λh=>?_) λh=>?_
    ·refine aP<|bV Z<|dO 0 Z<|dC 3 Z<|dC 2 Z<|aA Z<|fE h λC F h=>aH (rP (vs:=[Value.agg #[vS (a.1),vI (a.2.1),vI (a.2.2.1),vI (a.2.2.2.1),vI (a.2.2.2.2.1),vI (a.2.2.2.2.2)],Value.agg #[g,i],vI (m)]) (cs:=[]) Xs Z (FN U g i y C F) Z (mK [0,1] Z) (λ_ _=>rfl)) Z λN=>gA Z<|gA Z<|aC Z<|aC Z<|aN<|aV<|bS<|aK<|aK<|bS<|aK ?_;cases h;exact iA () Z Z (RV.tmp Z) (RV.tmp Z) .nil aE.nil
    refine dR<|oP ?_;exact b_ () (()) h SF (bA.ix [1,2,3] Z Z) (aE.refl _ _)
   intro j n h;unfold mQ at h;refine aQ<|cJ Z<|aA Z<|aN ?_;exact AX (wI .i64 (k+(1:Int))) () h SF Z
  refine gX ?_;exact b_ () (()) h SF .nil (aE.refl _ _)
 intro s G h;unfold wV at h;refine aP<|aC Z<|aC Z<|aN<|aV ?_;cases h;exact iA () Z Z (RV.tmp Z) (RV.tmp Z) (bA.refl _) aE.nil
def tV  (a:fL):Option (fL):=
 some (a)
def tW (b:Int×fL) (a:(Int×fL)->Option (fL)) (c:fL):Option (fL):=
 a ((wI .i64 (b.1+(1:Int))),c)
def n_ (U:Nat) (d:yB) (g:dJ) (b:Int×fL) (e:(Int×fL)->Option (fL)) (a:Int×fL) (f:(Int×fL)->Option (fL)):Option (fL):=
 if a.1<(List.length d.2.1:Int)then(ck (0<=a.1∧a.1<(List.length d.2.1:Int)) (ck (0<=b.1∧b.1<(List.length a.2:Int)) (ck (0<=b.1∧b.1<(List.length a.2:Int)) (Option.bind (kB U ((((at' d.2.1 a.1).1),((at' d.2.1 a.1).2.1),((at' d.2.1 a.1).2.2.1),((at' d.2.1 a.1).2.2.2.1),((at' d.2.1 a.1).2.2.2.2.1),((at' d.2.1 a.1).2.2.2.2.2))) ((g.1,g.2)) b.1) λc=>(ck (0<=a.1∧a.1<(List.length (at' a.2 b.1):Int)) (ck (0<=a.1∧a.1<(List.length (at' (List.set a.2 (Int.toNat b.1) (List.set (at' a.2 b.1) (Int.toNat a.1) (c.1,((at' (at' a.2 b.1) a.1).2)))) b.1):Int)) (f ((wI .i64 (a.1+(1:Int))),(List.set (List.set a.2 (Int.toNat b.1) (List.set (at' a.2 b.1) (Int.toNat a.1) (c.1,((at' (at' a.2 b.1) a.1).2)))) (Int.toNat b.1) (List.set (at' (List.set a.2 (Int.toNat b.1) (List.set (at' a.2 b.1) (Int.toNat a.1) (c.1,((at' (at' a.2 b.1) a.1).2)))) b.1) (Int.toNat a.1) (((at' (at' (List.set a.2 (Int.toNat b.1) (List.set (at' a.2 b.1) (Int.toNat a.1) (c.1,((at' (at' a.2 b.1) a.1).2)))) b.1) a.1).1),c.2)))))))))))else(tW b e (a.2))
def lZ (U:Nat) (c:yB) (d:dJ) (a:Int×fL) (b:(Int×fL)->Option (fL)):Option (fL):=
 if a.1<(List.length (List.replicate (Int.toNat (List.length d.1:Int)) ([]:fD)):Int)then(ck (0<=(List.length c.2.1:Int)∧(List.length c.2.1:Int)<=1099511627) (ck (0<=a.1∧a.1<(List.length a.2:Int)) (bP (n_ U c d a b) U ((0:Int),(List.set a.2 (Int.toNat a.1) (List.replicate (Int.toNat (List.length c.2.1:Int)) ((0:Int),(0:Int))))))))else(tV  (a.2))
def jP (U:Nat) (b:yB) (a:dJ):Option (fL):=
 ck (0<=(List.length a.1:Int)∧(List.length a.1:Int)<=1099511627) (bP (lZ U b a) U ((0:Int),(List.replicate (Int.toNat (List.length a.1:Int)) ([]:fD))))
theorem OX:aR Tryz.prog 97:=Tryz.call97
theorem Ad (U:Nat) {d:yB} {q:dJ} (v:Value)  (y:Value)  (A:Value)  (C:Value)  (z4:mV) (r:fL) (h:jP U d q=some r):
  aW Tryz.prog 97 #[Value.agg #[vS (d.1),v,y],Value.agg #[A,C]] [Sl aJ v d.2.1,Sl aG y d.2.2,PF (Value.agg #[vS d.1,v,y]),Sl bJ A q.1,S2 bG C z4 q.2] (λx:Hx=>x.1) (λx l=>Ar dD.raw x.1 x.2::jH bU x.2 r::l) (λ_ l=>l):=by
 refine aW.of Tryz.func97 Z Tryz.ntmps97 Z λc=>?_;refine aP<|aH (aL.box (cs:=[vS (d.1),v,y]) Z Z) Z λD=>aH (aL.box (cs:=[A,C]) Z Z) Z λE=>aC Z<|aN<|aP<|bV Z<|dO 0 Z<|jS (aF.fact 3 Z) Z<|eH h λj3 h=>jK (xT bU (Int.toNat (List.length q.1:Int)))<|aH (wP (e:=dD.raw) (lX) Z Z Z Z j3 Z Z Z) Z λu=>aC Z<|aN<|aM<|EF (B:=gQ) (λF=>tV  F=some r) (λF H=>[(5,u)]) (λF H=>[Ar dD.raw u H,jH bU H F]) ?_ ?_
 ·refine aP<|aA Z<|aD (kE Z (aX (i:=0) (j:=1) Z Z bI) Z) Z<|aA Z<|aN<|aT<|fJ (B:=gQ) (lZ U d q) (λb m=>[(2,vP D),(3,vP E),(5,u),(14,vI (List.length (List.replicate (Int.toNat (List.length q.1:Int)) ([]:fD)):Int)),(15,vI (b.1))]) (λb m=>[Ar dD.raw u m,jH bU m b.2,bX E [A,C] 27,bX D [vS (d.1),v,y] 42]) ((0:Int),(List.replicate (Int.toNat (List.length q.1:Int)) ([]:fD))) (List.replicate (Int.toNat (List.length q.1:Int)) (lX)) h SF (bA.refl _) ?_;intro S b m h;refine aP<|cW Z<|aN<|aM ?_;refine dK h Z (λh=>?_) λh=>?_
  ·refine cT<|aM<|EF (B:=gQ) (λp=>tW b (bP (lZ U d q) S) p=some r) (λp s=>[(2,vP D),(3,vP E),(5,u),(14,vI (List.length (List.replicate (Int.toNat (List.length q.1:Int)) ([]:fD)):Int)),(15,vI (b.1))]) (λp s=>[Ar dD.raw u s,jH bU s p,bX E [A,C] 27,bX D [vS (d.1),v,y] 42]) ?_ ?_
   ·refine aT<|aP<|aA Z<|aC Z<|aN<|aP<|aA Z<|aA Z<|bV Z<|dO 3 Z<|jS (aF.fact 0 Z) Z<|eH h λT h=>aH (wP (e:=bU) (((0:Int),(0:Int))) Z Z Z Z T Z Z Z) Z λw=>eH h λt h=>aD (cV Z Z (aX (i:=1) (j:=2) Z Z bI) Z Z t) Z<|bZ (Know.one ((a_ (aF.res 0 Z) bI))) λO=>jK (wR (k:=b.1) 2 0 Z Z Z t) ?_;refine qE 0 1 ⟨t.1,by first|exact t.2|simpa using t.2⟩ Z Z Z Z Z (by simp) O Z ?_;refine aN<|aP<|bV Z<|dO 3 Z<|jS (aF.fact 0 Z) Z<|aA Z<|aN<|aT<|fJ (n_ U d q b (bP (lZ U d q) S)) (λa G=>[(2,vP D),(3,vP E),(5,u),(6,vI (b.1)),(14,vI (List.length (List.replicate (Int.toNat (List.length q.1:Int)) ([]:fD)):Int)),(15,vI (b.1)),(26,v),(27,vI (List.length d.2.1:Int)),(28,vI (a.1))]) (λa G=>[Ar dD.raw u (List.set m (Int.toNat b.1) w),jH bU (List.set m (Int.toNat b.1) w) a.2,bX E [A,C] 27,bX D [vS (d.1),v,y] 42]) ((0:Int),(List.set b.2 (Int.toNat b.1) (List.replicate (Int.toNat (List.length d.2.1:Int)) ((0:Int),(0:Int))))) () h SF (bA.refl _) ?_;intro ac a G h;refine aP<|cW Z<|aN<|aM ?_;refine dK h Z (λh=>?_) λh=>?_
    ·refine cT<|aM<|aT<|aP<|aA Z<|eH h λP h=>aD (bK Z Z (aF.fact 0 Z) Z Z P) Z<|aD (g_ (cs:=[vS ((at' d.2.1 a.1).1),vI ((at' d.2.1 a.1).2.1),vI ((at' d.2.1 a.1).2.2.1),vI ((at' d.2.1 a.1).2.2.2.1),vI ((at' d.2.1 a.1).2.2.2.2.1),vI ((at' d.2.1 a.1).2.2.2.2.2)]) Z (aF.fact 0 Z) gZ Z Z Z Z P) Z<|aH (aL.alloc (cs:=vD5) Z Z) Z λab=>aC Z<|bO 0 (vs:=[vS ((at' d.2.1 a.1).1),vI ((at' d.2.1 a.1).2.1),vI ((at' d.2.1 a.1).2.2.1),vI ((at' d.2.1 a.1).2.2.2.1),vI ((at' d.2.1 a.1).2.2.2.2.1),vI ((at' d.2.1 a.1).2.2.2.2.2)]) Z Z Z Z Z Z<|aN ?_;refine JR.start [0,0,3,7,0,0,0,96,224,0,0,0,0,7168,15360,31744,31744,31,196095,458239,992,2097151,4194303] 21 mixedOrders (by decide +kernel) ?_;refine JR.open (by exact rfl) ?_;refine bD Z<|bD Z<|eH h λn h=>cA (cO 2 Z) λI=>?_;refine bL Z (bA.cons 1 Z .nil) .nil (iW 0 Z Z Z Z Z n.1 (by have V:=n.2;have W:=I;(try simp only[List.length_set]at V);(try simp only[List.length_set]at W);(try simp only[List.length_set]);omega)) aO.z ?_;refine cA (cO 2 Z) λJ=>bL Z (bA.cons 1 Z .nil) .nil (lP 0 Z Z J Z Z n) aO.z<|bD Z<|bD Z<|bD Z<|eH h λg h=>cA (cO 2 Z) λK=>?_;refine bL Z (bA.cons 1 Z .nil) .nil (iW 0 Z Z Z Z Z g.1 (by have V:=g.2;have W:=K;(try simp only[List.length_set]at V);(try simp only[List.length_set]at W);(try simp only[List.length_set]);omega)) aO.z ?_;refine cA (cO 2 Z) λL=>bL Z (bA.cons 1 Z .nil) .nil (lP 0 Z Z L Z Z g) aO.z<|bD Z<|fP 0 Z<|fP 3 Z<|bD Z<|fE h λf X h=>JR.loud Z Z Z (aL.callQ Qq (Cn U A C z4 f X) Z (mK [3,4] Z)) Z (λY=>(mP [([1],[]),([1],[]),([1],[]),([1],[])] Z)) λY=>iB Z (gR Z)<|iB Z (fN Z Z)<|iB Z (fN Z Z)<|eH h λQ h=>cA (Know.len (aF.row (j:=2) Z bI n.1 n.2)) λM=>iB Z (Iq Z Z M Z Z Q) ?_;refine iB Z (Dq (i:=0) Z Z Z Z Z (by decide)) ?_;refine pJ Z Z Z (zK (us:=[vI (f.1)]) (o:=0) (k:=b.1) 2 ((f.1,((at' (at' a.2 b.1) a.1).2))) ⟨n.1,by first|exact n.2|simpa using n.2⟩ Q Z Z Z Z Z Z Z Z Z Z) (λaa=>(mP [] Z)) λaa=>eH h λR h=>cA (Know.len (aF.row (j:=2) Z bI g.1 (by first|exact g.2|simpa using g.2))) λN=>?_;refine iB Z (Iq Z Z N Z Z R)<|bQ 21 Z Z ?_;refine aD (Dq (i:=1) Z Z Z Z Z (by decide)) Z ?_;refine KZ (zK (us:=[vI (f.2)]) (o:=1) (k:=b.1) 2 ((((at' (at' (List.set a.2 (Int.toNat b.1) (List.set (at' a.2 b.1) (Int.toNat a.1) (f.1,((at' (at' a.2 b.1) a.1).2)))) b.1) a.1).1),f.2)) ⟨g.1,by first|exact g.2|simpa using g.2⟩ R Z Z Z Z Z Z Z Z Z Z) λad=>eN<|oP<|aQ<|cJ Z<|aA Z<|aN ?_;exact mW ((wI .i64 (a.1+(1:Int))),(List.set (List.set a.2 (Int.toNat b.1) (List.set (at' a.2 b.1) (Int.toNat a.1) (f.1,((at' (at' a.2 b.1) a.1).2)))) (Int.toNat b.1) (List.set (at' (List.set a.2 (Int.toNat b.1) (List.set (at' a.2 b.1) (Int.toNat a.1) (f.1,((at' (at' a.2 b.1) a.1).2)))) b.1) (Int.toNat a.1) (((at' (at' (List.set a.2 (Int.toNat b.1) (List.set (at' a.2 b.1) (Int.toNat a.1) (f.1,((at' (at' a.2 b.1) a.1).2)))) b.1) a.1).1),f.2)))) () h SF (bA.ix [1,2,3,4] Z Z) (aE.refl _ _)
    refine sW<|eZ<|eZ<|yR<|oP ?_;exact iP (a.2) (List.set m (Int.toNat b.1) w) h SF Z
   intro p s h;unfold tW at h;refine aQ<|cJ Z<|aA Z<|aN ?_;exact AX ((wI .i64 (b.1+(1:Int))),p) (s) h SF Z
  refine gX ?_;exact b_ (b.2) (m) h SF (bA.ix [0,1] Z Z) (aE.refl _ _)
 intro F H h;unfold tV at h;refine aP<|aA Z<|aC Z<|aN<|aV ?_;cases h;exact jE (u,H) Z Z (RV.tmp Z) (bA.refl _) aE.nil
def vJ  (a:Unit):Option (Int):=
 some (0:Int)
def pP (b:Int) (a:(Int)->Option (Int)) (c:Unit):Option (Int):=
 a (wI .i64 (b+(1:Int)))
def vK (b:Int) (a:(Int)->Option (Int)) (c:Bool):Option (Int):=
 if c=true then(some (9:Int))else(pP b a (()))
def nC (U:Nat) (c:yB) (e:dJ) (a:Int) (b:(Int)->Option (Int)):Option (Int):=
 if a<(List.length c.2.1:Int)then(ck (0<=a∧a<(List.length c.2.1:Int)) (if((at' c.2.1 a).2.1)≠(1:Int)then(pP a b (()))else(Option.bind (kB U ((((at' c.2.1 a).1),((at' c.2.1 a).2.1),((at' c.2.1 a).2.2.1),((at' c.2.1 a).2.2.2.1),((at' c.2.1 a).2.2.2.2.1),((at' c.2.1 a).2.2.2.2.2))) ((e.1,e.2)) (0:Int)) λd=>(if d.2<d.1 then(vK a b (true))else(vK a b (decide ((4096:Int)<(wI .i64 ((wI .i64 (d.2 - d.1))+(1:Int))))))))))else(vJ  (()))
def tG (U:Nat) (a:yB) (b:dJ):Option (Int):=
 Option.bind (AP U ((a.1,a.2.1,a.2.2))) λc=>(if(!c)=true then(some (8:Int))else(Option.bind (eC U ((b.1,b.2))) λd=>(if(!d)=true then(some (1:Int))else(bP (nC U a b) U (0:Int)))))
theorem Xf:aR Tryz.prog 160:=Tryz.call160
theorem JO (U:Nat) {b:yB} {n:dJ} (g:Value)  (v:Value)  (i:Value)  (j:Value)  (y:mV) (r:Int) (h:tG U b n=some r):
  aW Tryz.prog 160 #[Value.agg #[vS (b.1),g,v],Value.agg #[i,j]] [Sl aJ g b.2.1,Sl aG v b.2.2,PF (Value.agg #[vS b.1,g,v]),Sl bJ i n.1,S2 bG j y n.2] (λx:Unit=>vI (r)) (λx l=>l) (λ_ l=>l):=by
 refine aW.of Tryz.func160 Z Tryz.ntmps160 Z λc=>?_;refine aP<|aH (aL.box (cs:=[vS (b.1),g,v]) Z Z) Z λF=>aH (aL.box (cs:=[i,j]) Z Z) Z λm=>aC Z<|aN<|aM<|aP<|dC 1 Z<|fE h λA C h=>aH (aL.callQ Ll (JU U g v A C) Z (mK [0,1,2] Z)) Z λG=>aD (wG Z) Z<|aN ?_;refine BF h Z (λ_ h=>?_) λ_ h=>?_
 ·refine aP<|aC Z<|aN<|aV<|aK ?_;cases h;exact wD Z
 refine cT<|aM<|aP<|dC 0 Z<|fE h λB D h=>aH (aL.callQ Iy (tP U i j y B D) Z (mK [3,4] Z)) Z λH=>aD (wG Z) Z<|aN ?_;refine BF h Z (λ_ h=>?_) λ_ h=>?_
 ·refine aP<|aC Z<|aN<|aV<|aK ?_;cases h;exact wD Z
 refine cT<|aM<|fF (λe=>vJ  e=some r) (λe o=>[]) (λe o=>[]) ?_ ?_
 ·refine aP<|bV Z<|dO 1 Z<|jS (aF.fact 0 Z) Z<|aA Z<|aN<|aT<|fJ (nC U b n) (λa p=>[(3,vP m),(16,g),(17,vI (List.length b.2.1:Int)),(18,vI (a))]) (λa p=>[bX m [i,j] 27]) (0:Int) () h SF (bA.ix [0] Z Z) ?_;intro u a p h;refine aP<|cW Z<|aN<|aM ?_;refine dK h Z (λh=>?_) λh=>?_
  ·refine cT<|aM<|fF (λf=>pP a (bP (nC U b n) u) f=some r) (λf q=>[(3,vP m),(16,g),(17,vI (List.length b.2.1:Int)),(18,vI (a))]) (λf q=>[bX m [i,j] 27]) ?_ ?_
   ·refine aT<|aP<|eH h λt h=>aD (bK Z Z (aF.fact 0 Z) Z Z t) Z<|aD (g_ (cs:=[vS ((at' b.2.1 a).1),vI ((at' b.2.1 a).2.1),vI ((at' b.2.1 a).2.2.1),vI ((at' b.2.1 a).2.2.2.1),vI ((at' b.2.1 a).2.2.2.2.1),vI ((at' b.2.1 a).2.2.2.2.2)]) Z (aF.fact 0 Z) gZ Z Z Z Z t) Z<|aH (aL.alloc (cs:=vD5) Z Z) Z λz=>bO 0 (vs:=[vS ((at' b.2.1 a).1),vI ((at' b.2.1 a).2.1),vI ((at' b.2.1 a).2.2.1),vI ((at' b.2.1 a).2.2.2.1),vI ((at' b.2.1 a).2.2.2.2.1),vI ((at' b.2.1 a).2.2.2.2.2)]) Z Z Z Z Z Z<|aN<|aM<|aP<|bV Z<|dO 0 Z<|p_ Z<|aN ?_;refine dK h Z (λh=>?_) λh=>?_
    ·refine sW<|eZ<|yR<|Aq ?_;exact b_ () (()) h SF (bA.ix [1] Z Z) (aE.refl _ _)
    refine cT<|aP<|dC 0 Z<|dC 1 Z<|fE h λk w h=>aH (aL.callQ Qq (Cn U i j y k w) Z (mK [3,4] Z)) Z λE=>aA Z<|gA Z<|gA Z<|aC Z<|aC Z<|aN<|aM<|fF (λd=>vK a (bP (nC U b n) u) d=some r) (λd s=>[(3,vP m),(16,g),(17,vI (List.length b.2.1:Int)),(18,vI (a)),(40,vB (d))]) (λd s=>[bX m [i,j] 27]) ?_ ?_
    ·refine aQ<|aA Z<|aA Z<|cW Z<|aA Z ?_;refine CP h Z (λ_ h=>?_) λ_ h=>?_
     ·refine aI Z<|aI Z<|aI Z<|aI Z<|aI Z<|eR Z<|aN ?_;exact b_ (true) () h SF (bA.ix [1] Z Z) (aE.refl _ _)
     refine eP Z<|eP Z<|aU Z (q_ Z Z) Z<|aU Z (zN Z Z) Z<|aU Z (zO Z Z) Z<|eY Z<|aN ?_;exact b_ (decide ((4096:Int)<(wI .i64 ((wI .i64 (k.2 - k.1))+(1:Int))))) () h SF (bA.ix [1] Z Z) (aE.refl _ _)
    intro d s h;refine BF h Z (λ_ h=>?_) λ_ h=>?_
    ·refine aP<|aC Z<|aN<|aV<|bS<|aK<|aK<|bS<|aK ?_;cases h;exact wD Z
    refine dR<|oP ?_;exact iP () (()) h SF Z
   intro f q h;unfold pP at h;refine aQ<|cJ Z<|aA Z<|aN ?_;exact AX (wI .i64 (a+(1:Int))) () h SF Z
  refine gX ?_;exact b_ () (()) h SF .nil (aE.refl _ _)
 intro e o h;unfold vJ at h;refine aP<|aC Z<|aN<|aV ?_;cases h;exact lL Z
def uE  (a:Unit):Option (Bool):=
 some (true)
def uF (c:Int) (b:(Int)->Option (Bool)) (a:Bool):Option (Bool):=
 if a=true then(some (false))else(b (wI .i64 (c+(1:Int))))
def oC (c:fD) (d:aS) (a:Int) (b:(Int)->Option (Bool)):Option (Bool):=
 if a<(List.length d:Int)then(ck (0<=a∧a<(List.length d:Int)) (ck (0<=a∧a<(List.length c:Int)) (if(at' d a)<((at' c a).1)then(uF a b (true))else(ck (0<=a∧a<(List.length c:Int)) (uF a b (decide (((at' c a).2)<(at' d a))))))))else(uE  (()))
def vV (U:Nat) (a:fD) (b:aS):Option (Bool):=
 if(List.length b:Int)≠(List.length a:Int)then(some (false))else(bP (oC a b) U (0:Int))
theorem Xp:aR Tryz.prog 216:=Tryz.call216
theorem Jp (U:Nat) {k:fD} {d:aS} (n:Value)  (o:Value) (r:Bool) (h:vV U k d=some r):
  aW Tryz.prog 216 #[n,o] [Sl bG n k,Sl bJ o d] (λx:Unit=>vB (r)) (λx l=>l) (λ_ l=>l):=by
 refine aW.of Tryz.func216 Z Tryz.ntmps216 Z λc=>?_;refine aP<|aC Z<|aN<|aM<|aP<|aA Z<|jS (aF.fact 1 Z) Z<|aA Z<|jS (aF.fact 0 Z) Z<|p_ Z<|aN ?_;refine dK h Z (λh=>?_) λh=>?_
 ·refine aP<|aC Z<|aN<|aV<|aK ?_;cases h;exact lL Z
 refine cT<|aM<|fF (λm=>uE  m=some r) (λm p=>[]) (λm p=>[]) ?_ ?_
 ·refine aP<|aA Z<|jS (aF.fact 1 Z) Z<|aA Z<|aN<|aT<|fJ (oC k d) (λb q=>[(0,n),(12,o),(13,vI (List.length d:Int)),(14,vI (b))]) (λb q=>[]) (0:Int) () h SF (bA.refl _) ?_;intro s b q h;refine aP<|cW Z<|aN<|aM ?_;refine dK h Z (λh=>?_) λh=>?_
  ·refine cT<|aM<|aT<|aP<|aA Z<|eH h λf h=>aD (bK Z Z (aF.fact 1 Z) Z Z f) Z<|aD (cQ Z (aF.fact 1 Z) Z Z Z fG f) Z<|aC Z<|aC Z<|aN<|aM<|fF (λa=>uF b (bP (oC k d) s) a=some r) (λa e=>[(0,n),(12,o),(13,vI (List.length d:Int)),(14,vI (b)),(34,vB (a))]) (λa e=>[]) ?_ ?_
   ·refine aQ<|aA Z<|aA Z<|aA Z<|eH h λg h=>aD (bK Z Z (aF.fact 0 Z) Z Z g) Z ?_;refine aD (Dq (i:=0) Z Z Z Z Z (by decide)) Z ?_;refine aD (oH Z (aF.fact 0 Z) Z Z Z Bz g) Z<|cW Z<|aA Z ?_;refine CP h Z (λ_ h=>?_) λ_ h=>?_
    ·refine aI Z<|aI Z<|aI Z<|aI Z<|aI Z<|aI Z<|aI Z<|eR Z<|aN ?_;exact iP (true) () h SF Z
    refine eP Z<|eP Z<|eP Z<|eH h λj h=>aU Z (bK Z Z (aF.fact 0 Z) Z Z j) Z ?_;refine aU Z (Dq (i:=1) Z Z Z Z Z (by decide)) Z ?_;refine aU Z (oH Z (aF.fact 0 Z) Z Z Z OI j) Z<|aU Z (zO Z Z) Z<|eY Z<|aN ?_;exact iP (decide (((at' k b).2)<(at' d b))) () h SF Z
   intro a e h;refine BF h Z (λ_ h=>?_) λ_ h=>?_
   ·refine aP<|aC Z<|aN<|aV<|bS<|aK<|aK<|bS<|aK ?_;cases h;exact lL Z
   refine dR<|oP<|aQ<|cJ Z<|aA Z<|aN ?_;exact AX (wI .i64 (b+(1:Int))) () h SF Z
  refine gX ?_;exact iP () (()) h SF Z
 intro m p h;unfold uE at h;refine aP<|aC Z<|aN<|aV ?_;cases h;exact lL Z
def sP  (a:Unit):Option (Bool):=
 some (true)
def pZ (U:Nat) (c:fL) (e:bE) (a:Int) (b:(Int)->Option (Bool)):Option (Bool):=
 if a<(List.length c:Int)then(ck (0<=a∧a<(List.length c:Int)) (ck (0<=a∧a<(List.length e:Int)) (Option.bind (vV U (at' c a) (at' e a)) λd=>(if(!d)=true then(some (false))else(b (wI .i64 (a+(1:Int))))))))else(sP  (()))
def uD (U:Nat) (a:fL) (b:bE):Option (Bool):=
 if(List.length b:Int)≠(List.length a:Int)then(some (false))else(bP (pZ U a b) U (0:Int))
theorem Xg:aR Tryz.prog 161:=Tryz.call161
theorem HG (U:Nat) {f:fL} {g:bE} (j:Value)  (p:mV)  (k:Value)  (q:pA) (r:Bool) (h:uD U f g=some r):
  aW Tryz.prog 161 #[j,k] [S2 bG j p f,S2 bJ k q g] (λx:Unit=>vB (r)) (λx l=>l) (λ_ l=>l):=by
 refine aW.of Tryz.func161 Z Tryz.ntmps161 Z λc=>?_;refine aP<|aC Z<|aN<|aM<|aP<|aA Z<|aD (kE Z (aF.fact 1 Z) Z) Z<|aA Z<|aD (kE Z (aF.fact 0 Z) Z) Z<|p_ Z<|aN ?_;refine dK h Z (λh=>?_) λh=>?_
 ·refine aP<|aC Z<|aN<|aV<|aK ?_;cases h;exact lL Z
 refine cT<|aM<|fF (λe=>sP  e=some r) (λe n=>[]) (λe n=>[]) ?_ ?_
 ·refine aP<|aA Z<|aD (kE Z (aF.fact 0 Z) Z) Z<|aA Z<|aN<|aT<|fJ (pZ U f g) (λd o=>[(1,k),(12,j),(13,vI (List.length f:Int)),(14,vI (d))]) (λd o=>[]) (0:Int) () h SF (bA.refl _) ?_;intro t d o h;refine aP<|cW Z<|aN<|aM ?_;refine dK h Z (λh=>?_) λh=>?_
  ·refine cT<|aM<|aT<|aP<|aA Z<|eH h λa h=>aD (cV Z Z (aF.fact 0 Z) Z Z a) Z<|aD (cX Z (aF.fact 0 Z) Z Z a) Z<|aC Z<|aC Z<|aN<|aP<|aA Z<|aA Z<|aA Z<|eH h λb h=>aD (cV Z Z (aF.fact 1 Z) Z Z b) Z<|aD (cX Z (aF.fact 1 Z) Z Z b) Z<|fE h λi m h=>aH (aL.callQ Xp (Jp U ((at' p d).1) ((at' q d).1) i m) Z (aE.cons (aF.el (aF.fact 0 Z) a.1 a.2) (aE.cons (aF.el (aF.fact 1 Z) b.1 b.2) .nil))) Z λs=>aD (wG Z) Z<|aN ?_;refine BF h Z (λ_ h=>?_) λ_ h=>?_
   ·refine aP<|aC Z<|aN<|aV<|bS<|aK<|aK<|bS<|aK ?_;cases h;exact lL Z
   refine dR<|oP<|aQ<|cJ Z<|aA Z<|aN ?_;exact AX (wI .i64 (d+(1:Int))) () h SF Z
  refine gX ?_;exact iP () (()) h SF Z
 intro e n h;unfold sP at h;refine aP<|aC Z<|aN<|aV ?_;cases h;exact lL Z
def nK (U:Nat) (a:yB) (b:dJ) (e:bE):Option (Int):=
 Option.bind (tG U ((a.1,a.2.1,a.2.2)) ((b.1,b.2))) λd=>(if d≠(0:Int)then(some (d))else(Option.bind (jP U ((a.1,a.2.1,a.2.2)) ((b.1,b.2))) λf=>(Option.bind (uD U f e) λc=>(if(!c)=true then(some (10:Int))else(some (0:Int))))))
theorem Un:aR Tryz.prog 96:=Tryz.call96
theorem De (U:Nat) {a:yB} {g:dJ} {p:bE} (b:Value)  (d:Value)  (e:Value)  (f:Value)  (o:mV)  (m:Value)  (t:pA) (r:Int) (h:nK U a g p=some r):
  aW Tryz.prog 96 #[Value.agg #[vS (a.1),b,d],Value.agg #[e,f],m] [Sl aJ b a.2.1,Sl aG d a.2.2,PF (Value.agg #[vS a.1,b,d]),Sl bJ e g.1,S2 bG f o g.2,S2 bJ m t p] (λx:Unit=>vI (r)) (λx l=>l) (λ_ l=>l):=by
 refine aW.of Tryz.func96 Z Tryz.ntmps96 Z λc=>?_;refine aP<|aH (aL.box (cs:=[vS (a.1),b,d]) Z Z) Z λz=>aH (aL.box (cs:=[e,f]) Z Z) Z λA=>aC Z<|aN<|aM<|aP<|dC 1 Z<|dC 0 Z<|fE h λu v h=>aH (aL.callQ Xf (JO U b d e f o u v) Z (mK [0,1,2,3,4] Z)) Z λB=>aC Z<|aN<|aP<|aA Z<|p_ Z<|aN ?_;refine dK h Z (λh=>?_) λh=>?_
 ·refine aP<|aA Z<|aC Z<|aN<|aV<|aK ?_;cases h;exact wD Z
 refine cT<|aM<|aP<|dC 1 Z<|dC 0 Z<|fE h λq w h=>aH (aL.callQ OX (Ad U b d e f o q w) Z (mK [0,1,2,3,4] Z)) Z λs=>aA Z<|fE h λk n h=>aH (aL.callQ Xg (HG U s.1 (List.zip s.2 q) m t k n) Z (aE.cons (aX (i:=0) (j:=1) Z Z bI) (mK [5] Z))) Z λy=>aD (wG Z) Z<|aN ?_;refine BF h Z (λ_ h=>?_) λ_ h=>?_
 ·refine aP<|aC Z<|aN<|aV<|aK ?_;cases h;exact wD Z
 refine cT<|aP<|aC Z<|aN<|aV ?_;cases h;exact wD Z
def vY  (a:bE):Option bE:=
 some (a)
def r_ (c:bE) (a:Int×bE) (b:(Int×bE)->Option bE):Option bE:=
 if a.1<(List.length c:Int)then(ck (0<=a.1∧a.1<(List.length c:Int)) (ck ((List.length ([]:aS):Int)+(List.length (at' c a.1):Int)<=1099511627) (ck (0<=a.1∧a.1<(List.length a.2:Int)) (b ((wI .i64 (a.1+(1:Int))),(List.set a.2 (Int.toNat a.1) (([]:aS)++(at' c a.1))))))))else(vY  (a.2))
def qW (U:Nat) (a:bE):Option bE:=
 ck (0<=(List.length a:Int)∧(List.length a:Int)<=1099511627) (bP (r_ a) U ((0:Int),(List.replicate (Int.toNat (List.length a:Int)) ([]:aS))))
theorem OY:aR Tryz.prog 98:=Tryz.call98
theorem AT (U:Nat) {g:bE} (t:Value)  (w:pA) (r:bE) (h:qW U g=some r):
  aW Tryz.prog 98 #[t] [S2 bJ t w g] (λx:Hx=>x.1) (λx l=>Ar dD.raw x.1 x.2::jH cI x.2 r::l) (λ_ l=>l):=by
 refine aW.of Tryz.func98 Z Tryz.ntmps98 Z λc=>?_;refine aP<|aC Z<|aN<|aP<|aA Z<|aD (kE Z (aF.fact 0 Z) Z) Z<|eH h λu h=>jK (xT cI (Int.toNat (List.length g:Int)))<|aH (wP (e:=dD.raw) (lX) Z Z Z Z u Z Z Z) Z λp=>aC Z<|aN<|aM<|EF (B:=gQ) (λm=>vY  m=some r) (λm n=>[(3,p)]) (λm n=>[Ar dD.raw p n,jH cI n m]) ?_ ?_
 ·refine aP<|aA Z<|aD (kE Z (aF.fact 0 Z) Z) Z<|aA Z<|aN<|aT<|fJ (B:=gQ) (r_ g) (λa b=>[(3,p),(9,t),(10,vI (List.length g:Int)),(11,vI (a.1))]) (λa b=>[Ar dD.raw p b,jH cI b a.2]) ((0:Int),(List.replicate (Int.toNat (List.length g:Int)) ([]:aS))) (List.replicate (Int.toNat (List.length g:Int)) (lX)) h SF (bA.refl _) ?_;intro v a b h;refine aP<|cW Z<|aN<|aM ?_;refine dK h Z (λh=>?_) λh=>?_
  ·refine cT<|aM<|aT<|aP<|aA Z<|eH h λf h=>aD (cV Z Z (aF.fact 0 Z) Z Z f) Z<|aD (cX Z (aF.fact 0 Z) Z Z f) Z<|aC Z<|aC Z<|aN<|aQ<|aA Z<|aA Z<|aA Z<|jK (iD cI)<|eH h λq h=>aH (iL 0 dL Z Z Z (aF.el (aF.fact 0 Z) f.1 f.2) Z Z Z Z q Z) Z λs=>eH h λd h=>aD (cV Z Z (aX (i:=1) (j:=2) Z Z dL) Z Z d) Z<|bZ (Know.one ((a_ (aF.res 0 Z) dL))) λo=>jK (wR (k:=a.1) 2 0 Z Z Z d) ?_;refine qE 0 1 ⟨d.1,by first|exact d.2|simpa using d.2⟩ Z Z Z Z Z (by simp) o Z ?_;refine eN<|oP<|aQ<|cJ Z<|aA Z<|aN ?_;exact AX ((wI .i64 (a.1+(1:Int))),(List.set a.2 (Int.toNat a.1) (([]:aS)++(at' g a.1)))) (List.set b (Int.toNat a.1) s) h SF Z
  refine gX ?_;exact iP (a.2) (b) h SF Z
 intro m n h;unfold vY at h;refine aP<|aA Z<|aC Z<|aN<|aV ?_;cases h;exact jE (p,n) Z Z (RV.tmp Z) (bA.refl _) aE.nil
end Go.Proofs.YtjkjpdonlpdcaaaGreatDoor