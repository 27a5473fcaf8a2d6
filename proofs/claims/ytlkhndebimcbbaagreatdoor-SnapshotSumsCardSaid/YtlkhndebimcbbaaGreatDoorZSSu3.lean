/- Models and proofs. Conditions: none. -/
import Derived.Test.YtlkhndebimcbbaaGreatDoorZSSu2
import Derived.Test.YtlkhndebimcbbaaGreatDoorZSSu1
import Derived.KernelRfl
set_option linter.unusedVariables false
set_option linter.unusedSimpArgs false
set_option maxHeartbeats 4000000
set_option maxRecDepth 20000
namespace Go.Proofs.YtlkhndebimcbbaaGreatDoor
open Go.Sx
def oP (b:(aO×fO)) (a:fO):Option sZ:=
 some ((b.1,a))
def tC (U:Nat) (b:Dt) (i:(aO×fO)) (a:Int×fO) (c:(Int×fO)->Option sZ):Option sZ:=
 if a.1<(List.length a.2:Int)then(Option.bind (rY U b.2.1 (wI .i64 (a.1 - (1:Int)))) λd=>(Option.bind (gW U d a.1) λe=>(Option.bind (rY U b.2.2.1 (wI .i64 (a.1 - (1:Int)))) λf=>(Option.bind (gW U f (15:Int)) λg=>(Option.bind (mN U ((b.1,b.2.1,b.2.2.1,b.2.2.2.1,b.2.2.2.2.1,b.2.2.2.2.2)) ((i.1,a.2)) e a.1 (wI .i64 ((1:Int)+g))) λh=>(c ((wI .i64 (a.1+(1:Int))),h)))))))else(oP i (a.2))
def mM (U:Nat) (a:Dt) (c:Int):Option sZ:=
 Option.bind (oU U ((a.1,a.2.1,a.2.2.1,a.2.2.2.1,a.2.2.2.2.1,a.2.2.2.2.2)) c) λb=>(bL (tC U a b) U ((1:Int),b.2))
theorem WX:aU Tryz.prog 22:=Tryz.call22
theorem AR (U:Nat) {p0:Dt} {p1:Int} (g:Value)  (k:Value)  (n:Value) (r:(aO×fO)) (h:mM U p0 p1=some r):
  aY Tryz.prog 22 #[Value.agg #[vI (p0.1),g,k,n,vB (p0.2.2.2.2.1),vB (p0.2.2.2.2.2)],vI (p1)] [Sl bO g p0.2.1,Sl bO k p0.2.2.1,Sl bO n p0.2.2.2.1] (λx:Value×Value×List Value=>Value.agg #[x.1,x.2.1]) (λx l=>Ar bX x.1 r.1::Ar cQ.raw x.2.1 x.2.2::jZ b_ x.2.2 r.2::l) (λ_ l=>l):=by
 refine aY.of Tryz.func22 Z Tryz.ntmps22 Z λc=>?_;refine aW<|aH (aN.box (cs:=[vI (p0.1),g,k,n,vB (p0.2.2.2.2.1),vB (p0.2.2.2.2.2)]) Z Z) Z λu=>aH (aN.alloc (cs:=[lH,lH]) Z Z) Z λo=>aM<|aW<|eQ 1 Z<|aA Z<|fU h λm P h=>aH (aN.callQ adm (EW U g k n m P) Z (oO [0,1,2] Z)) Z λa=>aH (aN.alloc (cs:=[lH,lH]) Z Z) Z λp=>cF (Know.one ((bF (aF.res 1 Z) dC))) λv=>cF (Know.one (aF.sl (bV (i:=2) (j:=3) Z Z bU))) λw=>bT 0 (vs:=[a.1,a.2.1]) Z Z (kW v (kW w Z)) Z Z Z<|aM<|aK<|ER (B:=fT) (λe=>oP m e=some r) (λe f=>[(4,vP o),(5,vP p)]) (λe f=>[bY p [a.1,a.2.1] 28,Ar bX a.1 m.1,Ar cQ.raw a.2.1 f,jZ b_ f e,bY o [lH,lH] 28]) ?_ ?_
 ·refine aW<|aE Z<|aM<|aT<|eV (B:=fT) (tC U p0 m) (λd b=>[(2,vP u),(4,vP o),(5,vP p),(6,vI (d.1))]) (λd b=>[bY p [a.1,a.2.1] 28,Ar bX a.1 m.1,Ar cQ.raw a.2.1 b,jZ b_ b d.2,bY o [lH,lH] 28,bY u [vI (p0.1),g,k,n,vB (p0.2.2.2.2.1),vB (p0.2.2.2.2.2)] 24]) ((1:Int),m.2) (a.2.2) h SF (aZ.refl _) ?_;intro O d b h;refine aK<|aW<|aA Z<|bW Z<|dN 0 Z<|aB (gQ Z (bV (i:=2) (j:=3) Z Z bU) Z) Z<|cY Z<|aM ?_;refine fJ h Z (λh=>?_) λh=>?_
  ·refine cU<|aK<|aT ?_;refine JR.start [0,0,0,4,0,16,60,0,252,0,0,1024,0,4096,15868,32252,65020,131071] 17 mixedOrders (by decide +kernel) ?_;refine JR.open (by exact rfl) ?_;refine nU 5 Z<|nU 0 Z<|dD Z<|jO 5 Z<|bH Z<|iX Z (qX Z Z)<|fU h λy E h=>JR.loud Z Z Z (aN.callQ JD (AW U g y E) Z (oO [0] Z)) Z (λJ=>(vY [([0],[]),([5],[])] Z)) λJ=>iX Z (fH Z)<|fU h λA F h=>JR.loud Z Z Z (aN.callQ DJ (lF U  A F) Z .nil) Z (λK=>(vY [([0],[]),([5],[])] Z)) λK=>iX Z (fH Z)<|iX Z (eN Z Z Z Z Z)<|bK Z (aZ.cons 5 Z .nil) .nil (gE 0 Z Z Z Z Z) (aL.h (aZ.ix [5] Z Z) .nil (aL.h (aZ.ix [5] Z Z) .nil aL.z))<|iX Z (fH Z)<|iX Z (qX Z Z)<|fU h λC G h=>JR.loud Z Z Z (aN.callQ JD (AW U k C G) Z (oO [1] Z)) Z (λL=>(vY [([0],[]),([5],[])] Z)) λL=>fU h λD H h=>JR.loud Z Z Z (aN.callQ DJ (lF U  D H) Z .nil) Z (λM=>(vY [([0],[]),([5],[])] Z)) λM=>iX Z (y_ Z Z)<|bQ 17 Z Z<|fU h λt I h=>aH (Fu (Min:=[Ar cQ.raw a.2.1 b,jZ b_ b d.2]) (Mr:=[bY p [a.1,a.2.1] 28,Ar bX a.1 m.1,bY o [lH,lH] 28,bY u [vI (p0.1),g,k,n,vB (p0.2.2.2.2.1),vB (p0.2.2.2.2.2)] 24]) WZ (AS U g k n a.1 a.2.1 b t I) Z (aZ.ix [2,3,0,1,4,5] Z Z) (aG.cons (aF.fact 0 Z) (aG.cons (aF.fact 1 Z) (aG.cons (aF.fact 2 Z) (aG.cons (bF (aF.res 1 Z) dC) .nil)))) (λ_ _=>rfl)) Z λN=>eM<|oD<|aS<|aA Z<|cL Z<|aE Z<|aM ?_;exact nR ((wI .i64 (d.1+(1:Int))),t) (N) h SF (aZ.ix [2,3,0,1,4,5] Z Z) (aG.refl _ _)
  refine fV ?_;exact cK (d.2) (b) h SF (aZ.ix [0,1,2,3,4] Z Z) (aG.refl _ _)
 intro e f h;unfold oP at h;refine aW<|eQ 0 Z<|cF (Know.one ((bF (aF.res 1 Z) dC))) λq=>cF (Know.one (aF.sl (bV (i:=2) (j:=3) Z Z bU))) λs=>bT 4 (vs:=[a.1,a.2.1]) Z Z (kW q (kW s Z)) Z Z Z<|aM<|aV ?_;cases h;exact hZ (a.1,a.2.1,f) Z Z (RV.cell 4 Z Z Z Z) (aZ.ix [1,2,3] Z Z) aG.nil
def Bi  (a:Int):Option (Int):=
 some (a)
def Bj (c:aO) (a:fF) (b:iQ->Option (Int)):Option (Int):=
 if a.2<(List.length c:Int)then(ck (0<=a.2∧a.2<(List.length c:Int)) (b ((max a.1 (at' c a.2)),(wI .i64 (a.2+(1:Int))))))else(Bi  (a.1))
def sP (a:Nat) (b:aO):Option (Int):=
 bL (Bj b) a ((-1:Int),(0:Int))
def nC (a:Nat) (b:cG) (d:Int) (c:Bool):Option (Int):=
 if c=true then(some (-1:Int))else(Option.bind (jQ a ((b.1,b.2)) d) λe=>(Option.bind (sP a e) λf=>(some (f))))
def nY (a:Nat) (b:cG) (c:Int):Option (Int):=
 Option.bind (eL a ((b.1,b.2))) λd=>(if(!d)=true then(nC a b c (true))else(if c<(0:Int)then(nC a b c (true))else(nC a b c (decide ((List.length b.2:Int)<=c)))))
def rW (U:Nat) (a:ByteArray) (b:Int) (c:Int) (d:Int):Option ((ByteArray×Int×Int×Int×Int×Int)):=
 some ((a,(1:Int),(0:Int),b,c,d))
theorem Rm:aU Tryz.prog 26:=Tryz.call26
theorem AV (U:Nat) {a:ByteArray} {b:Int} {d:Int} {e:Int} (r:Qn) (h:rW U a b d e=some r):
  aY Tryz.prog 26 #[vS (a),vI (b),vI (d),vI (e)] [] (λx:Unit=>Value.agg #[vS (r.1),vI (r.2.1),vI (r.2.2.1),vI (r.2.2.2.1),vI (r.2.2.2.2.1),vI (r.2.2.2.2.2)]) (λx l=>l) (λ_ l=>l):=by
 refine aY.of Tryz.func26 Z Tryz.ntmps26 Z λc=>?_;unfold rW at h;refine aW<|aH (aN.alloc (cs:=vD3) Z Z) Z λf=>aM<|aW<|aA Z<|aA Z<|aA Z<|aA Z ?_;refine aB (Y.bld5 (r:=Value.agg #[vS (a),vI (1:Int),vI (0:Int),vI (b),vI (d),vI (e)]) Z Z Z Z Z (by intro w;simp[Instr.build,Instr.fill,eX,dY,dH,eY,eZ,dZ,gK])) Z ?_;refine bT 0 (vs:=[vS (a),vI (1:Int),vI (0:Int),vI (b),vI (d),vI (e)]) Z Z Z Z Z Z<|aM<|aV ?_;cases h;exact hZ () Z Z (RV.cell 0 Z Z Z Z) .nil aG.nil
def zG (U:Nat) (a:ByteArray):Option ((ByteArray×Int×Int×Int×Int×Int)):=
 some ((a,(3:Int),(0:Int),(0:Int),(0:Int),(0:Int)))
theorem adw:aU Tryz.prog 74:=Tryz.call74
theorem ID (U:Nat) {a:ByteArray} (r:Qn) (h:zG U a=some r):
  aY Tryz.prog 74 #[vS (a)] [] (λx:Unit=>Value.agg #[vS (r.1),vI (r.2.1),vI (r.2.2.1),vI (r.2.2.2.1),vI (r.2.2.2.2.1),vI (r.2.2.2.2.2)]) (λx l=>l) (λ_ l=>l):=by
 refine aY.of Tryz.func74 Z Tryz.ntmps74 Z λc=>?_;unfold zG at h;refine aW<|aH (aN.alloc (cs:=vD3) Z Z) Z λb=>aM<|aW<|aA Z ?_;refine aB (Cm (r:=Value.agg #[vS (a),vI (3:Int),vI (0:Int),vI (0:Int),vI (0:Int),vI (0:Int)]) Z Z (by intro w;simp[Instr.build,Instr.fill,eX,dY,dH,eY,eZ,dZ,gK])) Z ?_;refine bT 0 (vs:=[vS (a),vI (3:Int),vI (0:Int),vI (0:Int),vI (0:Int),vI (0:Int)]) Z Z Z Z Z Z<|aM<|aV ?_;cases h;exact hZ () Z Z (RV.cell 0 Z Z Z Z) .nil aG.nil
def Gz (U:Nat)  : Option Zl:=
 Option.bind (rW U (ByteArray.mk #[100]) (0:Int) (1:Int) (0:Int)) λa=>(Option.bind (zG U (ByteArray.mk #[112])) λb=>(some ([(a.1,a.2.1,a.2.2.1,a.2.2.2.1,a.2.2.2.2.1,a.2.2.2.2.2),(b.1,b.2.1,b.2.2.1,b.2.2.2.1,b.2.2.2.2.1,b.2.2.2.2.2)])))
theorem adn:aU Tryz.prog 44:=Tryz.call44
theorem NJ (U:Nat)  (r:Zm) (h:Gz U  = some r):
  aY Tryz.prog 44 #[] [] (λx:Value=>x) (λx l=>Ar iD x r::l) (λ_ l=>l):=by
 refine aY.of Tryz.func44 Z Tryz.ntmps44 Z λc=>?_;refine aW<|aE Z<|aM<|aW<|fU h λa f h=>aH (aN.callQ Rm (AV U  a f) Z .nil) Z λi=>fU h λb g h=>aH (aN.callQ adw (ID U  b g) Z .nil) Z λj=>aH (cA (e:=iD) ([((a.1,a.2.1,a.2.2.1,a.2.2.2.1,a.2.2.2.2.1,a.2.2.2.2.2)),((b.1,b.2.1,b.2.2.1,b.2.2.2.1,b.2.2.2.2.1,b.2.2.2.2.2))]) [(0,Value.agg #[vS (a.1),vI (a.2.1),vI (a.2.2.1),vI (a.2.2.2.1),vI (a.2.2.2.2.1),vI (a.2.2.2.2.2)]),(1,Value.agg #[vS (b.1),vI (b.2.1),vI (b.2.2.1),vI (b.2.2.2.1),vI (b.2.2.2.2.1),vI (b.2.2.2.2.2)])] Z Z Z Z (JX (vS (a.1)) (vI (a.2.1)) (vI (a.2.2.1)) (vI (a.2.2.2.1)) (vI (a.2.2.2.2.1)) (vI (a.2.2.2.2.2)) (vS (b.1)) (vI (b.2.1)) (vI (b.2.2.1)) (vI (b.2.2.2.1)) (vI (b.2.2.2.2.1)) (vI (b.2.2.2.2.2))) Z Z Z) Z λd=>aE Z<|aM<|aV ?_;cases h;exact hZ (d) Z Z (RV.tmp Z) (aZ.refl _) aG.nil
def rP  (a:Unit):Option (Bool):=
 some (true)
def k_ (c:Int) (a:(Int)->Option (Bool)) (b:Unit):Option (Bool):=
 a (wI .i64 (c+(1:Int)))
def gS (b:Int) (a:(Int)->Option (Bool)) (c:Bool):Option (Bool):=
 if c=true then(some (false))else(a (wI .i64 (b+(1:Int))))
def gR (e:bE) (d:Int) (a:Int) (b:(Int)->Option (Bool)) (c:fF):Option (Bool):=
 if(at' (at' e d) a)<c.1 then(gS a b (true))else(gS a b (decide (c.2<(at' (at' e d) a))))
def cW (g:cG) (d:bE) (f:aO) (b:Int) (e:(Int)->Option (Bool)) (a:Int) (c:(Int)->Option (Bool)):Option (Bool):=
 if a<(List.length (at' d b):Int)then(ck (0<=a∧a<(List.length (at' d b):Int)) (ck (0<=a∧a<(List.length f:Int)) (if(at' f a)=(-1:Int)then(ck (0<=b∧b<(List.length g.2:Int)) (gR d b a c ((-1:Int),(wI .i64 ((List.length (at' g.2 b):Int) - (1:Int))))))else(gR d b a c ((0:Int),(at' f a))))))else(k_ b e (()))
def fL (U:Nat) (e:cG) (b:bE) (d:aO) (a:Int) (c:(Int)->Option (Bool)):Option (Bool):=
 if a<(List.length b:Int)then(ck (0<=a∧a<(List.length b:Int)) (if(List.length (at' b a):Int)≠(List.length d:Int)then(some (false))else(bL (cW e b d a c) U (0:Int))))else(rP  (()))
def dK (U:Nat) (a:cG) (b:bE) (c:aO):Option (Bool):=
 if(List.length b:Int)≠(List.length a.1:Int)then(some (false))else(bL (fL U a b c) U (0:Int))
theorem Rn:aU Tryz.prog 54:=Tryz.call54
theorem tJ (U:Nat) {g:cG} {e:bE} {j:aO} (o:Value)  (p:Value)  (H:lJ)  (q:Value)  (E:qF)  (s:Value) (r:Bool) (h:dK U g e j=some r):
  aY Tryz.prog 54 #[Value.agg #[o,p],q,s] [Sl bO o g.1,S2 bA p H g.2,S2 bO q E e,Sl bO s j] (λx:Unit=>vB (r)) (λx l=>l) (λ_ l=>l):=by
 refine aY.of Tryz.func54 Z Tryz.ntmps54 Z λc=>?_;refine aW<|aH (aN.box (cs:=[o,p]) Z Z) Z λk=>aE Z<|aM<|aK<|aW<|aA Z<|aB (gQ Z (aF.fact 2 Z) Z) Z<|bW Z<|dN 0 Z<|kT (aF.fact 0 Z) Z<|qO Z<|aM ?_;refine fJ h Z (λh=>?_) λh=>?_
 ·refine aW<|aE Z<|aM<|aV<|aI ?_;cases h;exact vN Z
 refine cU<|aK<|eS (λC=>rP  C=some r) (λC F=>[]) (λC F=>[]) ?_ ?_
 ·refine aW<|aA Z<|aB (gQ Z (aF.fact 2 Z) Z) Z<|aA Z<|aM<|aT<|eV (fL U g e j) (λa G=>[(2,s),(3,vP k),(19,q),(20,vI (List.length e:Int)),(21,vI (a))]) (λa G=>[bY k [o,p] 28]) (0:Int) () h SF (aZ.refl _) ?_;intro D a G h;refine aW<|cY Z<|aM<|aK ?_;refine fJ h Z (λh=>?_) λh=>?_
  ·refine cU<|aK<|eS (λm=>k_ a (bL (fL U g e j) D) m=some r) (λm t=>[(2,s),(3,vP k),(19,q),(20,vI (List.length e:Int)),(21,vI (a))]) (λm t=>[bY k [o,p] 28]) ?_ ?_
   ·refine aT<|aW<|aA Z<|dB h λd h=>aB (cC Z Z (aF.fact 2 Z) Z Z d) Z<|aB (cE Z (aF.fact 2 Z) Z Z d) Z<|aE Z<|aE Z<|aM<|aK<|aW<|aA Z<|aB (h_ Z (aF.el (aF.fact 2 Z) d.1 d.2) Z) Z<|aA Z<|kT (aF.fact 3 Z) Z<|qO Z<|aM ?_;refine fJ h Z (λh=>?_) λh=>?_
    ·refine aW<|aE Z<|aM<|aV<|aI<|bP<|aI<|aI<|bP<|aI ?_;cases h;exact vN Z
    refine cU<|aW<|aA Z<|aB (h_ Z (aF.el (aF.fact 2 Z) d.1 d.2) Z) Z<|aA Z<|aM<|aT<|eV (cW g e j a (bL (fL U g e j) D)) (λb u=>[(2,s),(3,vP k),(7,vI (a)),(19,q),(20,vI (List.length e:Int)),(21,vI (a)),(31,(at' E a).1),(32,vI (List.length (at' e a):Int)),(33,vI (b))]) (λb u=>[bY k [o,p] 28]) (0:Int) () h SF (aZ.refl _) ?_;intro B b u h;refine aW<|cY Z<|aM<|aK ?_;refine fJ h Z (λh=>?_) λh=>?_
    ·refine cU<|aK<|aT<|aW<|aA Z<|dB h λy h=>aB (bB Z Z (aF.el (aF.fact 2 Z) d.1 d.2) Z Z y) Z<|aB (bS Z (aF.el (aF.fact 2 Z) d.1 d.2) Z Z Z cX y) Z<|aE Z<|aE Z<|aM<|aK ?_;refine JR.start [0,0,3,7,0,31] 5 mixedOrders (by decide +kernel) ?_;refine JR.open (by exact rfl) ?_;refine bH Z<|bH Z<|dB h λA h=>bK Z .nil (lE 3 Z) (bB Z Z (aF.fact 0 Z) Z Z A) aL.z<|bK Z .nil (lE 3 Z) (bS Z (aF.fact 0 Z) Z Z Z cX A) aL.z<|iX Z (mE Z)<|bQ 5 Z Z<|aE Z<|aM<|aK<|eS (λf=>gR e a b (bL (cW g e j a (bL (fL U g e j) D)) B) f=some r) (λf v=>[(2,s),(3,vP k),(7,vI (a)),(10,vI (at' (at' e a) b)),(11,vI (f.1)),(12,vI (f.2)),(19,q),(20,vI (List.length e:Int)),(21,vI (a)),(31,(at' E a).1),(32,vI (List.length (at' e a):Int)),(33,vI (b))]) (λf v=>[bY k [o,p] 28]) ?_ ?_
     ·refine aW<|aA Z<|cT Z<|aM ?_;refine fJ h Z (λh=>?_) λh=>?_
      ·refine JR.start [0,1,0,7,15,31,63,0,255] 8 mixedOrders (by decide +kernel) ?_;refine JR.open (by exact rfl) ?_;refine dD Z<|jO 0 Z<|bH Z<|dB h λn h=>bK Z .nil (lE 1 Z) (cC Z Z (aF.fact 0 Z) Z Z n) aL.z<|bK Z .nil (lE 1 Z) (cE Z (aF.fact 0 Z) Z Z n) aL.z<|bK Z .nil (lE 1 Z) (h_ Z (aF.el (aF.fact 0 Z) n.1 n.2) Z) aL.z<|iX Z (qX Z Z)<|iX Z (mE Z)<|bQ 8 Z Z<|aE Z<|aM ?_;exact jG ((-1:Int),(wI .i64 ((List.length (at' g.2 a):Int) - (1:Int)))) () h SF Z
      refine cU ?_;exact jG ((0:Int),(at' j b)) () h SF Z
     intro f v h;refine aK<|eS (λi=>gS b (bL (cW g e j a (bL (fL U g e j) D)) B) i=some r) (λi w=>[(2,s),(3,vP k),(7,vI (a)),(19,q),(20,vI (List.length e:Int)),(21,vI (a)),(31,(at' E a).1),(32,vI (List.length (at' e a):Int)),(33,vI (b)),(58,vB (i))]) (λi w=>[bY k [o,p] 28]) ?_ ?_
     ·refine aS<|aA Z<|aA Z<|cY Z<|aA Z ?_;refine FG h Z (λ_ h=>?_) λ_ h=>?_
      ·refine aP Z<|aP Z<|aP Z<|fM Z<|aM ?_;exact jG (true) () h SF Z
      refine eR Z<|eR Z<|aX Z (yP Z Z) Z<|iI Z<|aM ?_;exact jG (decide (f.2<(at' (at' e a) b))) () h SF Z
     intro i w h;refine BM h Z (λ_ h=>?_) λ_ h=>?_
     ·refine aW<|aE Z<|aM<|aV<|bP<|aI<|aI<|bP<|bP<|aI<|aI<|bP<|aI ?_;cases h;exact vN Z
     refine dO<|oD<|aS<|cL Z<|aA Z<|aM ?_;exact Al (wI .i64 (b+(1:Int))) () h SF Z
    refine s_<|fW<|fW<|zO<|oD ?_;exact jG () (()) h SF Z
   intro m t h;unfold k_ at h;refine aS<|cL Z<|aA Z<|aM ?_;exact Al (wI .i64 (a+(1:Int))) () h SF Z
  refine fV ?_;exact cK () (()) h SF .nil (aG.refl _ _)
 intro C F h;unfold rP at h;refine aW<|aE Z<|aM<|aV ?_;cases h;exact lP Z
def e_ (U:Nat) (a:Dt) (d:Int):Option sZ:=
 Option.bind (mM U ((a.1,a.2.1,a.2.2.1,a.2.2.2.1,a.2.2.2.2.1,a.2.2.2.2.2)) d) λb=>(Option.bind (mO U ((a.1,a.2.1,a.2.2.1,a.2.2.2.1,a.2.2.2.2.1,a.2.2.2.2.2)) ((b.1,b.2))) λc=>(some ((c.1,c.2))))
theorem agr:aU Tryz.prog 6:=Tryz.call6
theorem Cc (U:Nat) {a:Dt} {o:Int} (d:Value)  (e:Value)  (f:Value) (r:(aO×fO)) (h:e_ U a o=some r):
  aY Tryz.prog 6 #[Value.agg #[vI (a.1),d,e,f,vB (a.2.2.2.2.1),vB (a.2.2.2.2.2)],vI (o)] [Sl bO d a.2.1,Sl bO e a.2.2.1,Sl bO f a.2.2.2.1] (λx:Value×Value×List Value=>Value.agg #[x.1,x.2.1]) (λx l=>Ar bX x.1 r.1::Ar cQ.raw x.2.1 x.2.2::jZ b_ x.2.2 r.2::l) (λ_ l=>l):=by
 refine aY.of Tryz.func6 Z Tryz.ntmps6 Z λc=>?_;refine aW<|aH (aN.box (cs:=[vI (a.1),d,e,f,vB (a.2.2.2.2.1),vB (a.2.2.2.2.2)]) Z Z) Z λp=>aH (aN.alloc (cs:=[lH,lH]) Z Z) Z λq=>aM<|aK ?_;refine JR.start [0,0,0,6,15,31] 4 mixedOrders (by decide +kernel) ?_;refine JR.open (by exact rfl) ?_;refine nU 1 Z<|nU 1 Z<|bH Z<|fU h λn t h=>JR.loud Z Z Z (aN.callQ WX (AR U d e f n t) Z (oO [0,1,2] Z)) Z (λb=>(vY [([4],[])] Z)) λb=>bQ 4 Z Z<|fU h λs u h=>aH (Fu (Min:=[Ar bX b.1 n.1,Ar cQ.raw b.2.1 b.2.2,jZ b_ b.2.2 n.2]) (Mr:=[bY q [lH,lH] 28,bY p [vI (a.1),d,e,f,vB (a.2.2.2.2.1),vB (a.2.2.2.2.2)] 24]) adf (FP U d e f b.1 b.2.1 b.2.2 s u) Z (aZ.refl _) (oO [0,1,2] Z) (λ_ _=>rfl)) Z λk=>cF (Know.one ((bF (aF.res 0 Z) dC))) λm=>cF (Know.one (aF.sl (bV (i:=1) (j:=2) Z Z bU))) λg=>bT 3 (vs:=[k.1,k.2.1]) Z Z (kW m (kW g Z)) Z Z Z<|aM<|aV ?_;cases h;exact hZ (k.1,k.2.1,k.2.2) Z Z (RV.cell 3 Z Z Z Z) (aZ.ix [0,1,2] Z Z) aG.nil
def uQ  (a:bE):Option bE:=
 some (a)
def zM (a:bE×Int) (c:(bE×Int)->Option bE) (b:aO):Option bE:=
 ck ((List.length a.1:Int)+(List.length ([b]):Int)<=1099511627) (c ((a.1++[b]),(wI .i64 (a.2+(1:Int)))))
def nO (U:Nat) (g:Ip) (h:aO) (e:bE×Int) (a:aO×Int) (c:(aO×Int)->Option bE) (b:fF):Option bE:=
 Option.bind (rY U h (wI .i64 ((wI .i64 (e.2*(List.length g:Int)))+a.2))) λf=>(Option.bind (gW U f (wI .i64 ((wI .i64 (b.2 - b.1))+(1:Int)))) λd=>(ck ((List.length a.1:Int)+(List.length ([(wI .i64 (b.1+d))]):Int)<=1099511627) (c ((a.1++([(wI .i64 (b.1+d))])),(wI .i64 (a.2+(1:Int)))))))
def nP (U:Nat) (f:cG) (c:Ip) (g:aO) (h:Int) (b:bE×Int) (e:(bE×Int)->Option bE) (a:aO×Int) (d:(aO×Int)->Option bE):Option bE:=
 if a.2<(List.length c:Int)then(ck (0<=a.2∧a.2<(List.length c:Int)) (ck (0<=a.2∧a.2<(List.length c:Int)) (ck (0<=a.2∧a.2<(List.length c:Int)) (ck (0<=a.2∧a.2<(List.length c:Int)) (ck (0<=a.2∧a.2<(List.length c:Int)) (if((at' c a.2).2.1)=(2:Int)then(nO U c g b a d ((0:Int),(1:Int)))else(if((at' c a.2).2.1)=(3:Int)then(ck (0<=b.2∧b.2<(List.length f.2:Int)) (nO U c g b a d ((-1:Int),(wI .i64 ((List.length (at' f.2 b.2):Int) - (1:Int))))))else(nO U c g b a d (((at' c a.2).2.2.1),(wI .i64 ((wI .i64 (((at' c a.2).2.2.2.1)+(wI .i64 (((at' c a.2).2.2.2.2.1)*(List.length f.2:Int)))))+(wI .i64 (((at' c a.2).2.2.2.2.2)*h)))))))))))))else(zM b e (a.1))
def jX (U:Nat) (c:cG) (e:Ip) (f:aO) (d:Int) (a:bE×Int) (b:(bE×Int)->Option bE):Option bE:=
 if a.2<(List.length c.2:Int)then(bL (nP U c e f d a b) U (([]:aO),(0:Int)))else(uQ  (a.1))
def qQ (U:Nat) (b:cG) (c:Ip) (d:aO) (a:Int):Option bE:=
 bL (jX U b c d a) U (([]:bE),(0:Int))
def uR (U:Nat) (c:cG) (d:Ip) (e:aO) (a:fF) (b:iQ->Option bE):Option bE:=
 if a.2<(List.length c.2:Int)then(ck (0<=a.2∧a.2<(List.length c.1:Int)) (b ((max a.1 (at' c.1 a.2)),(wI .i64 (a.2+(1:Int))))))else(qQ U c d e (a.1))
def mR (U:Nat) (a:cG) (b:Ip) (c:aO):Option bE:=
 bL (uR U a b c) U ((0:Int),(0:Int))
theorem ags:aU Tryz.prog 7:=Tryz.call7
theorem KO (U:Nat) {g:cG} {n:Ip} {s:aO} (v:Value)  (w:Value)  (z2:lJ)  (F:Value)  (y:Value) (r:bE) (h:mR U g n s=some r):
  aY Tryz.prog 7 #[Value.agg #[v,w],F,y] [Sl bO v g.1,S2 bA w z2 g.2,Sl aR F n,Sl bO y s] (λx:Is=>x.1) (λx l=>Ar cQ.raw x.1 x.2::jZ bX x.2 r::l) (λ_ l=>l):=by
 refine aY.of Tryz.func7 Z Tryz.ntmps7 Z λc=>?_;unfold mR at h;refine aW<|aH (aN.box (cs:=[v,w]) Z Z) Z λp=>aE Z<|aM<|aW<|bW Z<|dN 0 Z<|aB (gQ Z (aF.fact 1 Z) Z) Z<|aE Z<|aE Z<|aM<|aK<|eS (λk=>qQ U g n s k=some r) (λk b4=>[(1,F),(2,y),(3,vP p),(7,vI (List.length g.2:Int)),(8,vI (k))]) (λk b4=>[bY p [v,w] 28]) ?_ ?_
 ·refine aW<|aE Z<|aM<|aT<|eV (uR U g n s) (λi J=>[(1,F),(2,y),(3,vP p),(7,vI (List.length g.2:Int)),(8,vI (i.1)),(9,vI (i.2))]) (λi J=>[bY p [v,w] 28]) ((0:Int),(0:Int)) () h SF (aZ.refl _) ?_;intro ac i J h;refine aK<|aW<|aA Z<|aA Z<|cY Z<|aM ?_;refine fJ h Z (λh=>?_) λh=>?_
  ·refine cU<|aK<|aT<|aS<|aA Z<|bW Z<|dN 0 Z<|aA Z<|dB h λQ h=>aB (bB Z Z (aF.fact 0 Z) Z Z Q) Z<|aB (bS Z (aF.fact 0 Z) Z Z Z cX Q) Z<|aB (OE Z Z) Z<|aE Z<|eM<|oD<|aS<|aA Z<|cL Z<|aE Z<|aM ?_;exact Al ((max i.1 (at' g.1 i.2)),(wI .i64 (i.2+(1:Int)))) () h SF Z
  refine fV ?_;exact jG (i.1) () h SF Z
 intro k b4 h;unfold qQ at h;refine aW<|aE Z<|aM<|aK<|ER (B:=Is) (λH=>uQ  H=some r) (λH A=>[(10,A.1)]) (λH A=>[Ar cQ.raw A.1 A.2,jZ bX A.2 H]) ?_ ?_
 ·refine aW<|aE Z<|aM<|aT<|jL (iK cQ.raw) (jL (Dz bX) ?_);refine eV (B:=Is) (jX U g n s k) (λb a=>[(1,F),(2,y),(3,vP p),(7,vI (List.length g.2:Int)),(8,vI (k)),(10,a.1),(11,vI (b.2))]) (λb a=>[bY p [v,w] 28,Ar cQ.raw a.1 a.2,jZ bX a.2 b.1]) (([]:bE),(0:Int)) ((lH),([]:fT)) h SF (aZ.ix [2,1,0] Z Z) ?_;intro G b a h;refine aK<|aW<|aA Z<|aA Z<|cY Z<|aM ?_;refine fJ h Z (λh=>?_) λh=>?_
  ·refine cU<|aK<|aT<|aW<|aE Z<|aM<|aK<|ER (B:=Value) (λo=>zM b (bL (jX U g n s k) G) o=some r) (λo j=>[(1,F),(2,y),(3,vP p),(7,vI (List.length g.2:Int)),(8,vI (k)),(10,a.1),(11,vI (b.2)),(12,j)]) (λo j=>[bY p [v,w] 28,Ar cQ.raw a.1 a.2,jZ bX a.2 b.1,Ar bX j o]) ?_ ?_
   ·refine aW<|aE Z<|aM<|aT<|jL (iK bX)<|eV (B:=Value) (nP U g n s k b (bL (jX U g n s k) G)) (λd m=>[(1,F),(2,y),(3,vP p),(7,vI (List.length g.2:Int)),(8,vI (k)),(10,a.1),(11,vI (b.2)),(12,m),(13,vI (d.2))]) (λd m=>[bY p [v,w] 28,Ar cQ.raw a.1 a.2,jZ bX a.2 b.1,Ar bX m d.1]) (([]:aO),(0:Int)) (lH) h SF (aZ.ix [1,2,3,0] Z Z) ?_;intro S d m h;refine aK<|aW<|aA Z<|aA Z<|kT (aF.fact 2 Z) Z<|cY Z<|aM ?_;refine fJ h Z (λh=>?_) λh=>?_
    ·refine cU<|aK<|aT<|aK ?_;refine JR.start [0,0,3,7,15,0,0,96,224,480,0,0,3072,7168,15360,0,64512,131040,0,0,786432,1835008,3932160,0,16515072,33554400,31,134217727] 27 mixedOrders (by decide +kernel) ?_;refine JR.open (by exact rfl) ?_;refine bH Z<|bH Z<|dB h λL h=>bK Z .nil (lE 2 Z) (bB Z Z (aF.fact 0 Z) Z Z L) aL.z<|iX Z (nH Z Z Z Z Z)<|bK Z .nil (lE 2 Z) (pY Z (aF.fact 0 Z) Z Z Z Dn L) aL.z<|bH Z<|bH Z<|dB h λM h=>bK Z .nil (lE 2 Z) (bB Z Z (aF.fact 0 Z) Z Z M) aL.z<|iX Z (nH Z Z Z Z Z)<|bK Z .nil (lE 2 Z) (pY Z (aF.fact 0 Z) Z Z Z Do M) aL.z<|bH Z<|bH Z<|dB h λN h=>bK Z .nil (lE 2 Z) (bB Z Z (aF.fact 0 Z) Z Z N) aL.z<|iX Z (nH Z Z Z Z Z)<|bK Z .nil (lE 2 Z) (pY Z (aF.fact 0 Z) Z Z Z Dp N) aL.z<|bH Z<|iX Z (By Z Z)<|iX Z (y_ Z Z)<|bH Z<|bH Z<|dB h λO h=>bK Z .nil (lE 2 Z) (bB Z Z (aF.fact 0 Z) Z Z O) aL.z<|iX Z (nH Z Z Z Z Z)<|bK Z .nil (lE 2 Z) (pY Z (aF.fact 0 Z) Z Z Z Dq O) aL.z<|bH Z<|iX Z (By Z Z)<|iX Z (y_ Z Z)<|iX Z (mE Z)<|bQ 27 Z Z<|aE Z<|aM<|aK<|eS (λf=>nO U n s b d (bL (nP U g n s k b (bL (jX U g n s k) G)) S) f=some r) (λf I=>[(1,F),(2,y),(3,vP p),(7,vI (List.length g.2:Int)),(8,vI (k)),(10,a.1),(11,vI (b.2)),(12,m),(13,vI (d.2)),(14,vI (f.1)),(15,vI (f.2))]) (λf I=>[bY p [v,w] 28,Ar cQ.raw a.1 a.2,jZ bX a.2 b.1,Ar bX m d.1]) ?_ ?_
     ·refine aW<|aA Z<|aA Z<|dB h λP h=>aB (bB Z Z (aF.fact 2 Z) Z Z P) Z<|aB (nH Z Z Z Z Z) Z<|aB (pY Z (aF.fact 2 Z) Z Z Z xF P) Z<|aM<|aT<|aW<|cT Z<|aE Z<|aM ?_;refine fJ h Z (λh=>?_) λh=>?_
      ·refine aS<|aE Z<|aE Z<|eM<|oD ?_;exact jG ((0:Int),(1:Int)) () h SF Z
      refine aW<|cT Z<|aE Z<|aM ?_;refine fJ h Z (λh=>?_) λh=>?_
      ·refine JR.start [0,1,0,7,15,31,63,0,255] 8 mixedOrders (by decide +kernel) ?_;refine JR.open (by exact rfl) ?_;refine dD Z<|jO 0 Z<|bH Z<|dB h λu h=>bK Z .nil (lE 1 Z) (cC Z Z (aF.fact 0 Z) Z Z u) aL.z<|bK Z .nil (lE 1 Z) (cE Z (aF.fact 0 Z) Z Z u) aL.z<|bK Z .nil (lE 1 Z) (h_ Z (aF.el (aF.fact 0 Z) u.1 u.2) Z) aL.z<|iX Z (qX Z Z)<|iX Z (mE Z)<|bQ 8 Z Z<|aE Z<|eM<|oD ?_;exact jG ((-1:Int),(wI .i64 ((List.length (at' g.2 b.2):Int) - (1:Int)))) () h SF Z
      refine dO<|oD ?_;exact jG (((at' n d.2).2.2.1),(wI .i64 ((wI .i64 (((at' n d.2).2.2.2.1)+(wI .i64 (((at' n d.2).2.2.2.2.1)*(List.length g.2:Int)))))+(wI .i64 (((at' n d.2).2.2.2.2.2)*k))))) () h SF Z
     intro f I h;refine aS<|aA Z<|aA Z<|aA Z<|aA Z<|aA Z<|kT (aF.fact 2 Z) Z<|aB (By Z Z) Z<|aA Z<|cL Z<|fU h λW aa h=>aH (aN.callQ JD (AW U y W aa) Z (oO [3] Z)) Z λaf=>aA Z<|aA Z<|aB (qX Z Z) Z<|cL Z<|fU h λt ab h=>aH (aN.callQ DJ (lF U  t ab) Z .nil) Z λag=>cL Z<|aH (cA (e:=bX) ([(wI .i64 (f.1+t))]) [(0,vI (wI .i64 (f.1+t)))] Z Z Z Z (nT (vI (wI .i64 (f.1+t))) Z) Z Z Z) Z λae=>dB h λR h=>aH (eW 4 dC Z Z Z (bF (aF.res 0 Z) dC) Z Z Z Z R Z) Z λY=>aE Z<|eM<|oD<|aS<|aA Z<|cL Z<|aE Z<|aM ?_;exact nR ((d.1++([(wI .i64 (f.1+t))])),(wI .i64 (d.2+(1:Int)))) (Y) h SF (aZ.ix [1,2,3,4] Z Z) (aG.refl _ _)
    refine fV ?_;exact jG (d.1) (m) h SF Z
   intro o j h;refine aS<|aA Z<|aA Z<|jL (Dz bX)<|cF (Know.one ((bF (aF.res 4 Z) dC))) λE=>jL (Ra 0 4 Z Z Z) ?_;refine aH (cA (e:=cQ.raw) [j] [(0,j)] Z Z Z Z (nT (j) E) Z Z (by simp[cellsOf,cQ.raw,E])) Z λad=>?_;refine cF (dA 4 Z) λC=>cF (dA 1 Z) λD=>dB h λK h=>jL (Ow 4 1 Z Z Z) ?_;refine aH (aN.append 2 0 Z Z Z Z Z Z Z (by have q:=K;have T:=C;have V:=D;(try simp only[List.length_cons,List.length_nil]at q T V ⊢);omega) (by have q:=K;have T:=C;have V:=D;(try simp only[List.length_cons,List.length_nil]at q T V ⊢);omega) Z) Z λX=>?_;refine aE Z<|eM<|oD<|aS<|aA Z<|cL Z<|aE Z<|aM ?_;exact nR ((b.1++[o]),(wI .i64 (b.2+(1:Int)))) (X,(a.2++[j])) h SF (aZ.ix [1,2,3] Z Z) (aG.refl _ _)
  refine fV ?_;exact cK (b.1) (a.1,a.2) h SF (aZ.ix [1,2] Z Z) (aG.refl _ _)
 intro H A h;unfold uQ at h;refine aW<|aA Z<|aE Z<|aM<|aV ?_;cases h;exact hZ (A.1,A.2) Z Z (RV.tmp Z) (aZ.refl _) aG.nil
def yS (U:Nat) (a:cG):Option (Int):=
 ck (0<=(List.length a.1:Int)) (some (wI .u32 ((Co .u32 (1:Int) (List.length a.1:Int)) - (1:Int))))
theorem adz:aU Tryz.prog 77:=Tryz.call77
theorem Qf (U:Nat) {a:cG} (b:Value)  (d:Value)  (f:lJ) (r:Int) (h:yS U a=some r):
  aY Tryz.prog 77 #[Value.agg #[b,d]] [Sl bO b a.1,S2 bA d f a.2] (λx:Unit=>vU (r)) (λx l=>l) (λ_ l=>l):=by
 refine aY.of Tryz.func77 Z Tryz.ntmps77 Z λc=>?_;refine aW<|aH (aN.box (cs:=[b,d]) Z Z) Z λg=>aE Z<|aM<|aW<|bW Z<|dN 0 Z<|kT (aF.fact 0 Z) Z<|dB h λe h=>aB (OG Z Z e) Z<|aB (qX Z Z) Z<|aE Z<|aM<|aV ?_;cases h;exact vN Z
def mI (U:Nat) (a:cG) (c:Int) (b:Bool):Option aO:=
 if b=true then(some ([]:aO))else(Option.bind (jQ U ((a.1,a.2)) c) λd=>(some (d)))
def nX (U:Nat) (a:cG) (b:Int):Option aO:=
 Option.bind (gX U ((a.1,a.2))) λc=>(if(!c)=true then(mI U a b (true))else(if b<(0:Int)then(mI U a b (true))else(mI U a b (decide ((List.length a.2:Int)<=b)))))
theorem adC:aU Tryz.prog 85:=Tryz.call85
theorem G_ (U:Nat) {f:cG} {g:Int} (b:Value)  (d:Value)  (j:lJ) (r:aO) (h:nX U f g=some r):
  aY Tryz.prog 85 #[Value.agg #[b,d],vI (g)] [Sl bO b f.1,S2 bA d j f.2] (λx:Value=>x) (λx l=>Ar bX x r::l) (λ_ l=>l):=by
 refine aY.of Tryz.func85 Z Tryz.ntmps85 Z λc=>?_;refine aW<|aH (aN.box (cs:=[b,d]) Z Z) Z λk=>aE Z<|aM<|aK<|aK<|eS (λe=>mI U f g e=some r) (λe m=>[(1,vI (g)),(2,vP k),(18,vB (e))]) (λe m=>[bY k [b,d] 28]) ?_ ?_
 ·refine aS<|eQ 0 Z<|fU h λo i h=>aH (aN.callQ MY (yH U b d j o i) Z (oO [0,1] Z)) Z λq=>aB (tK Z) Z<|aA Z ?_;refine Bc (by exact rfl) (by exact rfl) (λa=>?_) (λa=>?_)
  ·have h:=Pd a h;refine aP Z<|aP Z<|fM Z<|aA Z<|aP Z<|aP Z<|aP Z<|aP Z<|aP Z<|fM Z<|aM ?_;exact jG (true) () h SF Z
  have h:=Lc a h;refine eR Z<|aX Z (Lv Z Z) Z<|iI Z<|aA Z ?_;refine FG h Z (λ_ h=>?_) λ_ h=>?_
  ·refine aP Z<|aP Z<|aP Z<|aP Z<|aP Z<|fM Z<|aM ?_;exact jG (true) () h SF Z
  refine eR Z<|aX Z (eN Z Z Z Z Z) Z<|aX Z (gE 0 Z Z Z Z Z) Z<|aX Z (gQ Z (aF.fact 1 Z) Z) Z<|aX Z (E_ Z Z) Z<|iI Z<|aM ?_;exact jG (decide ((List.length f.2:Int)<=g)) () h SF Z
 intro e m h;refine BM h Z (λ_ h=>?_) λ_ h=>?_
 ·refine aW<|aE Z<|aM<|aV<|aI<|jL (iK bX) ?_;cases h;exact hZ (lH) Z Z (RV.tmp Z) (aZ.ix [0] Z Z) aG.nil
 refine cU<|aW<|eQ 0 Z<|aA Z<|fU h λn p h=>aH (aN.callQ Xb (Em U b d j n p) Z (oO [0,1] Z)) Z λs=>aE Z<|aM<|aV ?_;cases h;exact hZ (s) Z Z (RV.tmp Z) (aZ.ix [0] Z Z) aG.nil
def zB  (a:Unit):Option (Int):=
 some (-1:Int)
def uF (c:cG) (d:Int) (e:Int) (a:Int) (b:(Int)->Option (Int)):Option (Int):=
 if a<(List.length (at' c.2 d):Int)then(ck (0<=a∧a<(List.length (at' c.2 d):Int)) (if((at' (at' c.2 d) a).1)=e then(some (a))else(b (wI .i64 (a+(1:Int))))))else(zB  (()))
def rT (U:Nat) (b:cG) (a:Int) (c:Int):Option (Int):=
 ck (0<=a∧a<(List.length b.2:Int)) (bL (uF b a c) U (0:Int))
theorem adG:aU Tryz.prog 90:=Tryz.call90
theorem KH (U:Nat) {a:cG} {b:Int} {i:Int} (j:Value)  (k:Value)  (o:lJ) (r:Int) (h:rT U a b i=some r):
  aY Tryz.prog 90 #[Value.agg #[j,k],vI (b),vI (i)] [Sl bO j a.1,S2 bA k o a.2] (λx:Unit=>vI (r)) (λx l=>l) (λ_ l=>l):=by
 refine aY.of Tryz.func90 Z Tryz.ntmps90 Z λc=>?_;refine aW<|aH (aN.box (cs:=[j,k]) Z Z) Z λq=>aE Z<|aM<|aK<|eS (λg=>zB  g=some r) (λg m=>[]) (λg m=>[]) ?_ ?_
 ·refine aW<|bW Z<|dN 0 Z<|aA Z<|dB h λe h=>aB (cC Z Z (aF.fact 1 Z) Z Z e) Z<|aB (cE Z (aF.fact 1 Z) Z Z e) Z<|aB (h_ Z (aF.el (aF.fact 1 Z) e.1 e.2) Z) Z<|aA Z<|aM<|aT<|eV (uF a b i) (λd n=>[(2,vI (i)),(13,(at' o b).1),(14,vI (List.length (at' a.2 b):Int)),(15,vI (d))]) (λd n=>[]) (0:Int) () h SF .nil ?_;intro s d n h;refine aW<|cY Z<|aM<|aK ?_;refine fJ h Z (λh=>?_) λh=>?_
  ·refine cU<|aK<|aT<|aW<|aA Z<|dB h λf h=>aB (bB Z Z (aF.el (aF.fact 1 Z) e.1 e.2) Z Z f) Z<|aB (jM (cs:=[vI ((at' (at' a.2 b) d).1),vI ((at' (at' a.2 b) d).2)]) Z (aF.el (aF.fact 1 Z) e.1 e.2) bU Z Z Z Z f) Z<|aH (aN.alloc (cs:=V_) Z Z) Z λp=>aE Z<|bT 0 (vs:=[vI ((at' (at' a.2 b) d).1),vI ((at' (at' a.2 b) d).2)]) Z Z Z Z Z Z<|aM<|aW<|bW Z<|dN 0 Z<|aA Z<|cT Z<|aM ?_;refine fJ h Z (λh=>?_) λh=>?_
   ·refine aW<|aA Z<|aE Z<|aM<|aV<|bP<|aI<|aI<|bP<|aI ?_;cases h;exact vN Z
   refine dO<|oD<|aS<|cL Z<|aA Z<|aM ?_;exact nR (wI .i64 (d+(1:Int))) () h SF .nil (aG.refl _ _)
  refine fV ?_;exact jG () (()) h SF Z
 intro g m h;unfold zB at h;refine aW<|aE Z<|aM<|aV ?_;cases h;exact lP Z
end Go.Proofs.YtlkhndebimcbbaaGreatDoor
namespace Go.Sx
theorem Ac {X R:Type} {b:X->(X->Option R)->Option R} {r:R} (I:X->Prop) (e:X->Nat)
  (h:∀x f,I x->(∀c,I c->e c<e x->f c=some r)->b x f=some r):∀(a:Nat) (x:X),I x->e x<a->bL b a x=some r:=by
 intro a
 induction a with
 |zero=>intro x _ j;omega
 |succ k l=>
  intro x g j;exact h x _ g λc d i=>l c d (by omega)
def OK {R:Type} (Q:R->Prop) (o:Option R):Prop:=∃r,o=some r∧Q r
theorem wG {X R:Type} {step:X->(X->Option R)->Option R} {Q:R->Prop} (I:X->Prop) (d:X->Nat)
  (h:∀x e,I x->(∀b,I b->d b<d x->OK Q (e b))->OK Q (step x e)):∀(a:Nat) (x:X),I x->d x<a->OK Q (bL step a x):=by
 intro a
 induction a with
 |zero=>intro x _ i;omega
 |succ k j=>
  intro x f i;exact h x _ f λb c g=>j b c (by omega)
theorem bZ {b:Type} {p:Prop} [Decidable p] (a:p) (x:Option b):ck p x=x:=if_pos a
theorem wr {x:Int} (a : -9223372036854775808<=x) (b:x<=9223372036854775807):wI .i64 x=x:=if_pos ⟨a,b⟩
theorem bG {a b:Type} {x:Option a} {y:a} {f:a->Option b} (h:x=some y):x.bind f=f y:=by rw[h];rfl
theorem Ss {a:Type} (l r:List a) (x y:a) (i:Nat) (h:l.length=i):(l++x::r).set i y=l++y::r:=by
 rw[List.set_append_right _ _ (by omega)];simp[<-h]
theorem UV {a:Type} [Inhabited a] (l r:List a) (x:a) (i:Nat) (h:l.length=i):at' (l++x::r) (i:Int)=x:=by
 rw[fP,List.getD_eq_getElem?_getD,List.getElem?_append_right (by omega)];simp[<-h]
theorem dU {X R:Type} {step:X->(X->Option R)->Option R} {K:Option R} (N:Nat) (F:Nat->X) (c:∀(k:Nat) g,k<N->step (F k) g=g (F (k+1))) (e:∀g,step (F N) g=K):∀b,N<b->bL step b (F 0)=K:=by
 have i:∀(d a b:Nat),a+d=N->d<b->bL step b (F a)=K:=by
  intro d
  induction d with
  |zero=>
   intro a b j h;obtain rfl:a=N:=by omega
   obtain⟨f,rfl⟩:∃f,b=f+1:=⟨b - 1,by omega⟩
   exact e _
  |succ d l=>
   intro a b j h;obtain⟨f,rfl⟩:∃f,b=f+1:=⟨b - 1,by omega⟩
   show step (F a) (bL step f)=K;rw[c a _ (by omega)];exact l (a+1) f (by omega) (by omega)
 exact λb h=>i N 0 b (by omega) h
theorem uX {X R:Type} {step:X->(X->Option R)->Option R} {K bad:Option R} (N:Nat) (p:Nat->Prop) (F:Nat->X) (r:∀(k:Nat) c,k<N->p k->step (F k) c=c (F (k+1))) (i:∀(k:Nat) c,k<N->¬p k->step (F k) c=bad) (j:∀c,step (F N) c=K):
  ∀b,N<b->((∀k,k<N->p k)->bL step b (F 0)=K)∧(¬(∀k,k<N->p k)->bL step b (F 0)=bad):=by
 have s:∀(d a b:Nat),a+d=N->d<b->((∀k,a<=k->k<N->p k)->bL step b (F a)=K)∧(¬(∀k,a<=k->k<N->p k)->bL step b (F a)=bad):=by
  intro d
  induction d with
  |zero=>
   intro a b t q;obtain rfl:a=N:=by omega
   obtain⟨f,rfl⟩:∃f,b=f+1:=⟨b - 1,by omega⟩
   exact⟨λ_=>j _,λh=>absurd (λk m g=>by omega) h⟩
  | succ d ih =>
   intro a b t q;obtain⟨f,rfl⟩:∃f,b=f+1:=⟨b - 1,by omega⟩
   obtain⟨u,v⟩:=ih (a+1) f (by omega) (by omega);have e:bL step (f+1) (F a)=step (F a) (bL step f):=rfl;rw[e];by_cases n:p a
   ·rw[r a _ (by omega) n];refine⟨λh=>u λk m g=>h k (by omega) g,λh=>v λo=>h λk m g=> ?_⟩
    by_cases l:k=a
    ·subst l;exact n
    ·exact o k (by omega) g
   ·exact⟨λh=>absurd (h a (Nat.le_refl _) (by omega)) n,λ_=>i a _ (by omega) n⟩
 intro b q;obtain⟨m,g⟩:=s N 0 b (by omega) q;exact⟨λh=>m λk _ l=>h k l,λh=>g λo=>h λk l=>o k (by omega) l⟩
theorem BW {X R:Type} {step:X->(X->Option R)->Option R} {K:X->Option R} (N:Nat) (I:Nat->X->Prop) (e:∀(k:Nat) x i,k<N->I k x->∃c,I (k+1) c∧step x i=i c) (h:∀x i,I N x->step x i=K x):∀b x,I 0 x->N<b->∃c,I N c∧bL step b x=K c:=by
 have m:∀(d a b:Nat) (x:X),a+d=N->d<b->I a x->∃c,I N c∧bL step b x=K c:=by
  intro d
  induction d with
  |zero=>
   intro a b x p l g;obtain rfl:a=N:=by omega
   obtain⟨f,rfl⟩:∃f,b=f+1:=⟨b - 1,by omega⟩
   exact⟨x,g,h _ _ g⟩
  |succ d r=>
   intro a b x p l g;obtain⟨f,rfl⟩:∃f,b=f+1:=⟨b - 1,by omega⟩
   obtain⟨c,j,q⟩:=e a x (bL step f) (by omega) g;obtain⟨s,n,o⟩:=r (a+1) f c (by omega) (by omega) j;exact⟨s,n,by rw[<-o];exact q⟩
 exact λb x g l=>m N 0 b x (by omega) l g
def aag (q:Nat->Bool):Nat->Bool
 |0=>false
 |k+1=>aag q k||q k
theorem WN {q:Nat->Bool}:∀{k:Nat},aag q k=true↔∃i,i<k∧q i=true
 |0=>by simp[aag]
 | k + 1 => by
  simp only[aag,Bool.or_eq_true,WN (k:=k)];constructor
  ·rintro(⟨i,b,a⟩|h)
   ·exact⟨i,by omega,a⟩
   ·exact⟨k,by omega,h⟩
  ·rintro⟨i,b,a⟩;by_cases e:i=k
   ·subst e;exact .inr a
   ·exact .inl ⟨i,by omega,a⟩
def Bm (p:Nat->Bool):Nat->Nat
 |0=>0
 |k+1=>if p k then Bm p k ||| 2^k else Bm p k
theorem Pp (p:Nat->Bool):∀k,Bm p k<2^k
 |0=>by simp[Bm]
 |k+1=>by
  have h:=Pp p k;simp only[Bm];split
  ·exact Nat.or_lt_two_pow (by omega) (Nat.pow_lt_pow_right (by omega) (by omega))
  ·omega
theorem LX (p:Nat->Bool) (j:Nat):∀k,(Bm p k).testBit j=(decide (j<k)&&p j)
 |0=>by simp[Bm]
 | k + 1 => by
  have h:=LX p j k;simp only[Bm];by_cases e:j=k
  ·subst e;cases c:p j<;>simp[h,c]
  ·have a:decide (j<k+1)=decide (j<k):=decide_eq_decide.2 (by omega);have b:¬k=j:=λh=>e h.symm;split
   ·rw[Nat.testBit_or,h,Nat.testBit_two_pow,a];simp[b]
   ·rw[h,a]
end Go.Sx
namespace Go.Proofs.YtlkhndebimcbbaaGreatDoor
open Go.Sx
theorem CB {R:Type} {step:Int->(Int->Option R)->Option R} {K:Option R} {bad:R} (N:Nat) (p:Nat->Prop)
  (r:∀(k:Nat) c,k<N->p k->step k c=c ((k:Int)+1)) (i:∀(k:Nat) c,k<N->¬p k->step k c=some bad) (j:∀c,step N c=K):
  ∀(b:Nat),N<b->((∀k,k<N->p k)->bL step b 0=K)∧(¬(∀k,k<N->p k)->bL step b 0=some bad):=by
 intro b q;have s:∀(d a b:Nat),a+d=N->d<b->((∀k,a<=k->k<N->p k)->bL step b (a:Int)=K)∧(¬(∀k,a<=k->k<N->p k)->bL step b (a:Int)=some bad):=by
  intro d
  induction d with
  |zero=>
   intro a b v q;obtain rfl:a=N:=by omega
   cases b with
   |zero=>omega
   |succ f=>exact⟨λ_=>j _,λh=>absurd (λk m g=>by omega) h⟩
  | succ d ih =>
   intro a b v q;cases b with
   |zero=>omega
   | succ f =>
    obtain⟨t,u⟩:=ih (a+1) f (by omega) (by omega);have e:((a+1:Nat):Int)=(a:Int)+1:=by omega
    rw[e]at t u;by_cases n:p a
    ·have w:bL step (f+1) (a:Int)=bL step f ((a:Int)+1):=r a _ (by omega) n;rw[w];refine⟨λh=>t λk m g=>h k (by omega) g,λh=>u λo=>h λk m g=> ?_⟩
     by_cases l:k=a
     ·subst l;exact n
     ·exact o k (by omega) g
    ·exact⟨λh=>absurd (h a (Nat.le_refl _) (by omega)) n,λ_=>i a _ (by omega) n⟩
 obtain⟨m,g⟩:=s N 0 b (by omega) q;exact⟨λh=>m λk _ l=>h k l,λh=>g λo=>h λk l=>o k (by omega) l⟩
abbrev GR:=List Int×fO
theorem yU (a:Nat) (v c d:Int):uY a v c d=some (decide (c<=v∧v<=d)):=by
 unfold uY DZ;by_cases h:c<=v
 ·rw[if_pos h];congr 1;exact decide_eq_decide.2 ⟨λb=>⟨h,b⟩,λb=>b.2⟩
 ·rw[if_neg h,decide_eq_false (λb=>h b.1)]
abbrev row (g:GR) (v:Nat):fN:=at' g.2 (v:Int)
abbrev Lb (g:GR) (v:Nat):Int:=at' g.1 (v:Int)
abbrev fK (l:fN) (i:Nat):fF:=at' l (i:Int)
def light (g:GR):Prop:=g.1.length<=30∧g.2.length<=30∧∀v,v<g.2.length->(row g v).length<=30
def Hm (l:fN) (v n i:Nat):Prop:=(0<=(fK l i).1∧(fK l i).1<=(n:Int) - 1)∧(fK l i).1≠v∧(1<=(fK l i).2∧(fK l i).2<=15)∧∀k,k<i->(fK l k).1≠(fK l i).1
def pX (l:fN) (v n:Nat):Prop:=∀i,i<l.length->Hm l v n i
theorem BC (l:fN) (v n:Nat) (o:l.length<=30) (p:n<=30):(pX l v n->qD 1000 l v n=some true)∧(¬pX l v n->qD 1000 l v n=some false):=by
 unfold qD;have a:∀(i:Nat) (b:Int->Option Bool),i<l.length->((∀k,k<i->(fK l k).1≠(fK l i).1)->bL (jT l i b) 1000 0=b ((i:Int)+1))∧(¬(∀k,k<i->(fK l k).1≠(fK l i).1)->bL (jT l i b) 1000 0=some false):=by
  intro i b h;refine CB i _ (λk d m c=> ?_) (λk d m c=> ?_) (λd=> ?_) 1000 (by omega)
  ·unfold jT;rw[if_pos (by omega),bZ (by omega),bZ (by omega),if_neg c,wr (by omega) (by omega)]
  ·unfold jT;rw[if_pos (by omega),bZ (by omega),bZ (by omega),if_pos (Decidable.not_not.1 c)]
  ·unfold jT zS;rw[if_neg (by omega),wr (by omega) (by omega)]
 refine CB l.length (Hm l v n) (λi b h c=> ?_) (λi b h c=> ?_) (λb=> ?_) 1000 (by omega)
 ·obtain⟨e,f,g,j⟩:=c;unfold oW lU;rw[if_pos (by omega),bZ (by omega),wr (x:=(n:Int) - 1) (by omega) (by omega),yU,decide_eq_true e,bG Z,if_neg (by simp),bZ (by omega),if_neg f,bZ (by omega),yU,decide_eq_true g,bG Z,if_neg (by simp)];exact(a i b h).1 j
 ·unfold oW lU;rw[if_pos (by omega),bZ (by omega),wr (x:=(n:Int) - 1) (by omega) (by omega),yU];by_cases e:0<=(fK l i).1∧(fK l i).1<=(n:Int) - 1
  ·rw[decide_eq_true e,bG Z,if_neg (by simp),bZ (by omega)];by_cases f:(fK l i).1=v
   ·rw[if_pos f];rfl
   ·rw[if_neg f,bZ (by omega),yU];by_cases g:1<=(fK l i).2∧(fK l i).2<=15
    ·rw[decide_eq_true g,bG Z,if_neg (by simp)];exact(a i b h).2 λj=>c ⟨e,f,g,j⟩
    ·rw[decide_eq_false g];rfl
  ·rw[decide_eq_false e];rfl
 ·unfold oW zR;rw[if_neg (by omega)]
def AB (l:fN) (u:Int):Int:=match l.findIdx? (λx=>decide (x.1=u))with
 |some i=>i
 |none=> -1
theorem Ik {l:fN} {u:Int} (i:Nat) (b:i<l.length) (d:(fK l i).1=u) (c:∀k,k<i->(fK l k).1≠u):AB l u=i:=by
 have:l.findIdx? (λx=>decide (x.1=u))=some i:=by
  rw[List.findIdx?_eq_some_iff_getElem];have e:∀k (a:k<l.length),fK l k=l[k]:=λk a=>by rw[fK,fP,List.getD_eq_getElem?_getD,List.getElem?_eq_getElem a];rfl
  refine⟨b,by rw[<-e i b];simpa using d,λk a=> ?_⟩
  have:=c k a;rw[e k (by omega)]at this;simpa using this
 rw[AB,this]
theorem PH {l:fN} {u:Int} (b:∀k,k<l.length->(fK l k).1≠u):AB l u = -1:=by
 have:l.findIdx? (λx=>decide (x.1=u))=none:=by
  rw[List.findIdx?_eq_none_iff];intro x c;obtain⟨k,a,rfl⟩:=List.getElem_of_mem c;have:=b k a;rw[fK,fP,List.getD_eq_getElem?_getD,List.getElem?_eq_getElem a]at this;simpa using this
 rw[AB,this]
theorem CK (l:fN) (u:Int):(∃i,i<l.length∧(fK l i).1=u∧(∀k,k<i->(fK l k).1≠u)∧AB l u=i)∨((∀k,k<l.length->(fK l k).1≠u)∧AB l u = -1):=by
 by_cases h:∀k,k<l.length->(fK l k).1≠u
 ·exact .inr ⟨h,PH h⟩
 ·left;have f:∃k,k<l.length∧(fK l k).1=u:=by
   apply Classical.byContradiction;intro o;exact h λk g e=>o ⟨k,g,e⟩
  obtain⟨k,g,n⟩:=f;have:∀m,(∃k,k<=m∧k<l.length∧(fK l k).1=u)->∃i,i<l.length∧(fK l i).1=u∧∀k,k<i->(fK l k).1≠u:=by
   intro m
   induction m with
   |zero=>rintro⟨k,d,a,b⟩;exact⟨k,a,b,λj p=>by omega⟩
   |succ m q=>
    rintro⟨k,d,a,b⟩;by_cases c:∃j,j<=m∧j<l.length∧(fK l j).1=u
    ·exact q c
    ·exact⟨k,a,b,λj p e=>c ⟨j,by omega,by omega,e⟩⟩
  obtain⟨i,d,a,b⟩:=this k ⟨k,Nat.le_refl _,g,n⟩;exact⟨i,d,a,b,Ik i d a b⟩
theorem Sj (g:GR) (v:Nat) (u:Int) (m:v<g.2.length) (l:(row g v).length<=30):CE 1000 g v u=some (AB (row g v) u):=by
 unfold CE;rcases CK (row g v) u with⟨i,j,h,c,b⟩|⟨c,b⟩
 ·rw[b];refine Ac (λx:Int=>∃k:Nat,x=k∧k<=i) (λx=>31 - x.toNat) ?_ 1000 _ ⟨0,rfl,by omega⟩ (by omega);rintro x d ⟨k,rfl,f⟩ a;unfold BF;rw[bZ (by omega),if_pos (show(k:Int)<((row g v).length:Int) by omega),bZ (by omega),bZ (show 0<=(k:Int)∧(k:Int)<((row g v).length:Int) by omega)];by_cases e:k=i
  ·subst e;exact if_pos h
  ·rw[if_neg (c k (by omega)),wr (by omega) (by omega)];exact a _ ⟨k+1,by omega,by omega⟩ (by omega)
 ·rw[b];refine Ac (λx:Int=>∃k:Nat,x=k∧k<=(row g v).length) (λx=>31 - x.toNat) ?_ 1000 _ ⟨0,rfl,by omega⟩ (by omega);rintro x d ⟨k,rfl,f⟩ a;unfold BF;rw[bZ (by omega)];by_cases e:k<(row g v).length
  ·rw[if_pos (show(k:Int)<((row g v).length:Int) by omega),bZ (by omega),bZ (show 0<=(k:Int)∧(k:Int)<((row g v).length:Int) by omega),if_neg (c k e),wr (by omega) (by omega)];exact a _ ⟨k+1,by omega,by omega⟩ (by omega)
  ·rw[if_neg (show¬(k:Int)<((row g v).length:Int) by omega)];rfl
theorem Gv {X R:Type} {step:X->(X->Option R)->Option R} {K:X->Option R} {bad:R} (N:Nat) (p:Nat->Prop) (I:Nat->X->Prop)
  (t:∀(k:Nat) x g,k<N->I k x->p k->∃c,I (k+1) c∧step x g=g c) (j:∀(k:Nat) x g,k<N->I k x->¬p k->step x g=some bad) (l:∀x g,I N x->step x g=K x):
  ∀(b:Nat) (x:X),I 0 x->N<b->((∀k,k<N->p k)->∃c,I N c∧bL step b x=K c)∧(¬(∀k,k<N->p k)->bL step b x=some bad):=by
 intro b x e s;have v:∀(d a b:Nat) (x:X),a+d=N->d<b->I a x->((∀k,a<=k->k<N->p k)->∃c,I N c∧bL step b x=K c)∧(¬(∀k,a<=k->k<N->p k)->bL step b x=some bad):=by
  intro d
  induction d with
  |zero=>
   intro a b x w s e;obtain rfl:a=N:=by omega
   cases b with
   |zero=>omega
   |succ f=>exact⟨λ_=>⟨x,e,l _ _ e⟩,λh=>absurd (λk n i=>by omega) h⟩
  | succ d ih =>
   intro a b x w s e;cases b with
   |zero=>omega
   | succ f =>
    by_cases o:p a
    ·obtain⟨c,r,u⟩:=t a x (bL step f) (by omega) e o;have u:bL step (f+1) x=bL step f c:=u;obtain⟨y,z⟩:=ih (a+1) f c (by omega) (by omega) r;rw[u];refine⟨λh=>y λk n i=>h k (by omega) i,λh=>z λq=>h λk n i=> ?_⟩
     by_cases m:k=a
     ·subst m;exact o
     ·exact q k (by omega) i
    ·exact⟨λh=>absurd (h a (Nat.le_refl _) (by omega)) o,λ_=>j a x _ (by omega) e o⟩
 obtain⟨n,i⟩:=v N 0 b x (by omega) s e;exact⟨λh=>n λk _ m=>h k m,λh=>i λq=>h λk m=>q k (by omega) m⟩
def Dd (g:GR) (v i:Nat):Prop:=∃j,j<(at' g.2 (fK (row g v) i).1).length∧(fK (at' g.2 (fK (row g v) i).1) j).1=v∧(fK (at' g.2 (fK (row g v) i).1) j).2=(fK (row g v) i).2
structure QW (g:GR) (v:Nat):Prop where
 id:0<=Lb g v∧Lb g v<=255
 deg:(row g v).length<g.2.length
 links:pX (row g v) v g.2.length
 ids:∀k,k<v->Lb g k≠Lb g v
structure VG (g:GR):Prop where
 n1:1<=g.2.length
 n24:g.2.length<=24
 len:g.1.length=g.2.length
 node:∀v,v<g.2.length->QW g v
 sym:∀v,v<g.2.length->∀i,i<(row g v).length->Dd g v i
theorem PN (g:GR) (N:light g):(VG g->yB 1000 g=some true)∧(¬VG g->yB 1000 g=some false):=by
 obtain⟨S,H,t⟩:=N;unfold yB;rw[yU,bG Z];by_cases z:1<=g.2.length∧g.2.length<=24
 rotate_left
 ·rw[decide_eq_false (by omega)];exact⟨λh=>absurd ⟨h.n1,h.n24⟩ z,λ_=>rfl⟩
 rw[decide_eq_true (by omega),if_neg (by simp)];by_cases I:g.1.length=g.2.length
 rotate_left
 ·rw[decide_eq_true (by omega)];exact⟨λh=>absurd h.len I,λ_=>rfl⟩
 rw[decide_eq_false (by omega)];unfold AK;rw[if_neg (by simp)];have o:∀(v:Nat) (b:Int->Option Bool),v<g.2.length->((∀k,k<v->Lb g k≠Lb g v)->bL (pT g v b) 1000 0=b ((v:Int)+1))∧(¬(∀k,k<v->Lb g k≠Lb g v)->bL (pT g v b) 1000 0=some false):=by
  intro v b d;refine CB v _ (λk a C c=> ?_) (λk a C c=> ?_) (λa=> ?_) 1000 (by omega)
  ·unfold pT;rw[if_pos (by omega),bZ (by omega),bZ (by omega),if_neg c,wr (by omega) (by omega)]
  ·unfold pT;rw[if_pos (by omega),bZ (by omega),bZ (by omega),if_pos (Decidable.not_not.1 c)]
  ·unfold pT Eb;rw[if_neg (by omega),wr (by omega) (by omega)]
 have l:=CB (step:=sB 1000 g) (K:=AL 1000 g ()) (bad:=false) g.2.length (QW g) (λv b d c=> ?_) (λv b d c=> ?_) (λb=> ?_) 1000 (by omega)
 rotate_left
 ·unfold sB r_;rw[if_pos (by omega),bZ (by omega),yU,decide_eq_true c.id,bG Z,if_neg (by simp),bZ (by omega),if_neg (show¬((g.2.length:Int)<=((row g v).length:Int))from by have:=c.deg;omega),bZ (by omega),(BC (row g v) v g.2.length (t v d) H).1 c.links,bG Z,if_neg (by simp)];exact(o v b d).1 c.ids
 ·unfold sB r_;rw[if_pos (by omega),bZ (by omega),yU];by_cases x:0<=Lb g v∧Lb g v<=255
  rotate_left
  ·rw[decide_eq_false x];rfl
  rw[decide_eq_true x,bG Z,if_neg (by simp),bZ (by omega)];by_cases J:(row g v).length<g.2.length
  rotate_left
  ·rw[if_pos (show(g.2.length:Int)<=((row g v).length:Int) by omega)];rfl
  rw[if_neg (show¬(g.2.length:Int)<=((row g v).length:Int) by omega),bZ (by omega)];by_cases y:pX (row g v) v g.2.length
  rotate_left
  ·rw[(BC (row g v) v g.2.length (t v d) H).2 y];rfl
  rw[(BC (row g v) v g.2.length (t v d) H).1 y,bG Z,if_neg (by simp)];exact(o v b d).2 λL=>c ⟨x,J,y,L⟩
 ·unfold sB;rw[if_neg (by omega)]
 by_cases q:∀v,v<g.2.length->QW g v
 rotate_left
 ·exact⟨λh=>absurd h.node q,λ_=>l.2 q⟩
 rw[l.1 q];unfold AL;have f:∀(v:Nat) (b:Int->Option Bool),v<g.2.length->((∀i,i<(row g v).length->Dd g v i)->bL (mU 1000 g v b) 1000 0=b ((v:Int)+1))∧(¬(∀i,i<(row g v).length->Dd g v i)->bL (mU 1000 g v b) 1000 0=some false):=by
  intro v b d;have P:=t v d;have n:∀(i:Nat) a,i<(row g v).length->(Dd g v i->mU 1000 g v b i a=a ((i:Int)+1))∧(¬Dd g v i->mU 1000 g v b i a=some false):=by
   intro i a r;unfold mU;rw[bZ (by omega),if_pos (show(i:Int)<((row g v).length:Int) by omega),bZ (by omega),bZ (show 0<=(i:Int)∧(i:Int)<((row g v).length:Int) by omega)];have R:=((q v d).links i r).1;obtain⟨u,G⟩:∃u:Nat,(fK (row g v) i).1=u:=⟨(fK (row g v) i).1.toNat,by omega⟩
   have p:u<g.2.length:=by omega
   unfold Dd;rw[show(at' (at' g.2 (v:Int)) (i:Int))=fK (row g v) i from rfl,G,Sj g u v p (t u p),bG Z];have F:=(q u p).links;rcases CK (row g u) v with⟨j,w,m,B,A⟩|⟨M,A⟩
   ·rw[A,if_neg (by omega),bZ (by omega),bZ (show 0<=(j:Int)∧(j:Int)<((at' g.2 (u:Int)).length:Int)from⟨by omega,by have:j<(row g u).length:=w;exact_mod_cast this⟩)];unfold AM;constructor
    ·rintro⟨k,C,s,E⟩;have D:k=j:=by
      rcases Nat.lt_trichotomy k j with h|h|h
      ·exact absurd s (B k h)
      ·exact h
      ·exact absurd (m.trans s.symm) ((F k C).2.2.2 j h)
     subst D;rw[if_neg (by rw[decide_eq_false];simp;exact λh=>h E),wr (by omega) (by omega)]
    ·intro h;rw[if_pos];exact decide_eq_true λQ=>h ⟨j,w,m,Q⟩
   ·rw[A,if_pos (by decide)];exact⟨fun⟨j,w,m,_⟩=>absurd m (M j w),λ_=>rfl⟩
  refine CB (row g v).length _ (λi a r c=>(n i a r).1 c) (λi a r c=>(n i a r).2 c) (λa=> ?_) 1000 (by omega);unfold mU Ea;rw[bZ (by omega),if_neg (show¬(((row g v).length:Nat):Int)<((row g v).length:Int) by omega),wr (by omega) (by omega)]
 have e:=CB (step:=sA 1000 g) (K:=some true) (bad:=false) g.2.length (λv=>∀i,i<(row g v).length->Dd g v i) (λv b d c=> ?_) (λv b d c=> ?_) (λb=> ?_) 1000 (by omega)
 ·exact⟨λh=>e.1 h.sym,λh=>e.2 λO=>h ⟨z.1,z.2,I,q,O⟩⟩
 ·unfold sA;rw[if_pos (by omega)];exact(f v b d).1 c
 ·unfold sA;rw[if_pos (by omega)];exact(f v b d).2 c
 ·unfold sA D_;rw[if_neg (by omega)]
theorem tE {a:Type} [Inhabited a] (l:List a) (i k:Nat) (y:a) (b:i<l.length):at' (l.set i y) (k:Int)=if k=i then y else at' l (k:Int):=by
 rw[fP,fP,List.getD_eq_getElem?_getD,List.getD_eq_getElem?_getD,List.getElem?_set];by_cases h:i=k
 ·rw[if_pos h,if_pos h.symm,if_pos (by omega)];rfl
 ·rw[if_neg h,if_neg (Ne.symm h)]
def Wg (l:aO) (k:Nat):Prop:=(0<=at' l (k:Int)∧at' l (k:Int)<=255)∧∀j,j<k->at' l (j:Int)≠at' l (k:Int)
theorem uA (l:aO) (C:l.length<=30):((∀k,k<l.length->Wg l k)->jF 1000 l=some true)∧(¬(∀k,k<l.length->Wg l k)->jF 1000 l=some false):=by
 unfold jF;have i:=Gv (step:=f_ l) (K:=λ_=>some true) (bad:=false) l.length (Wg l) (λk x=>x.1=(k:Int)∧x.2.length=256∧∀z:Nat,z<256->(at' x.2 (z:Int)=true↔∃j,j<k∧at' l (j:Int)=(z:Int))) ?_ ?_ ?_ 1000 ((0:Int),(List.replicate 256 false)) ⟨rfl,List.length_replicate ..,λz c=> ?_⟩ (by omega)
 ·exact⟨λh=>by obtain⟨x,_,b⟩:=i.1 h;exact b,i.2⟩
 ·rintro k ⟨t,m⟩ q w ⟨b,a,f⟩ ⟨D,v⟩;dsimp only at b a f;subst b;obtain⟨z,c⟩:∃z:Nat,at' l (k:Int)=z:=⟨(at' l (k:Int)).toNat,by omega⟩
  have p:z<256:=by omega
  have o:¬at' m (z:Int)=true:=by
   rw[f z p];rintro⟨j,e,d⟩;exact v j e (d.trans c.symm)
  refine⟨((k:Int)+1,m.set z true),⟨by simp,by simp[a],λy B=> ?_⟩,?_⟩
  ·dsimp only;rw[tE _ _ _ _ (by omega)];by_cases g:y=z
   ·subst g;rw[if_pos Z];exact⟨λ_=>⟨k,by omega,c⟩,λ_=>rfl⟩
   ·rw[if_neg g,f y B];constructor
    ·rintro⟨j,e,d⟩;exact⟨j,by omega,d⟩
    ·rintro⟨j,e,d⟩;by_cases n:j=k
     ·subst n;rw[c]at d;omega
     ·exact⟨j,by omega,d⟩
  ·unfold f_ iM;dsimp only;rw[if_pos (by omega),bZ (by omega),c,if_neg (by omega),if_neg (by omega),bZ ⟨by omega,a⟩,if_neg o,bZ ⟨by omega,a⟩,wr (by omega) (by omega)];rfl
 ·rintro k ⟨t,m⟩ q w ⟨b,a,f⟩ A;dsimp only at b a f;subst b;unfold f_ iM;dsimp only;rw[if_pos (by omega),bZ (by omega)];by_cases r:at' l (k:Int)<0
  ·rw[if_pos r,if_pos Z]
  rw[if_neg r];by_cases s:255<at' l (k:Int)
  ·rw[if_pos s,if_pos Z]
  rw[if_neg s];obtain⟨z,c⟩:∃z:Nat,at' l (k:Int)=z:=⟨(at' l (k:Int)).toNat,by omega⟩
  rw[c,bZ ⟨by omega,a⟩,if_pos];rw[f z (by omega)];apply Classical.byContradiction;intro u;exact A ⟨by omega,λj e d=>u ⟨j,e,d.trans c⟩⟩
 ·rintro⟨t,m⟩ q ⟨b,_,_⟩;dsimp only at b;subst b;unfold f_ nA;dsimp only;rw[if_neg (by omega)]
 ·rw[show at' (List.replicate 256 false) (z:Int)=false by rw[fP,List.getD_eq_getElem?_getD,List.getElem?_replicate,if_pos c];rfl];exact⟨λh=>(by cases h),fun⟨j,e,_⟩=>(by omega)⟩
theorem Vy {d e:Type} [DecidableEq d] (k c:d) (v:e):∀l:List (d×e),mA c (CJ k v l)=if c=k then some v else mA c l
 | []=>by simp only[CJ,mA]
 | x :: xs => by
  simp only[CJ];by_cases h:k=x.1
  ·rw[if_pos h];simp only[mA];by_cases a:c=k
   ·rw[if_pos a,if_pos a]
   ·rw[if_neg a,if_neg a,if_neg (λb=>a (b.trans h.symm))]
  ·rw[if_neg h];simp only[mA];by_cases a:c=x.1
   ·rw[if_pos a,if_neg (λb=>h (b.symm.trans a)),if_pos a]
   ·rw[if_neg a,Vy k c v xs];by_cases b:c=k
    ·rw[if_pos b,if_pos b]
    ·rw[if_neg b,if_neg b,if_neg a]
theorem Pq {a b:Type} [DecidableEq a] {k:a} {v:b} {z:a×b} {l:List (a×b)} (c:mA k l=none):z∈CJ k v l↔z=(k,v)∨z∈l:=by
 rw[HF k v l c];simp[or_comm]
theorem HE {a c:Type} [DecidableEq a] {k:a}:∀{l:List (a×c)},(∀v,(k,v)∉l)->mA k l=none
 | [],_=>rfl
 |x::xs,h=>by
  simp only[mA];rw[if_neg (λe=>h x.2 (by rw[e];exact List.mem_cons_self ..))];exact HE λv b=>h v (List.mem_cons_of_mem _ b)
theorem tQ {b c:Type} [DecidableEq b] {k:b} {v:c}:∀{l:List (b×c)},mA k l=none->(k,v)∉l
 | [],_=>by simp
 | x :: xs, h => by
  simp only[mA]at h;by_cases e:k=x.1
  ·rw[if_pos e]at h;cases h
  ·rw[if_neg e]at h;intro d;rcases List.mem_cons.1 d with a|a
   ·exact e (by rw[<-a])
   ·exact tQ h a
theorem BZ {a b:Type} [DecidableEq a] {k:a} {v:b}:∀{l:List (a×b)},mA k l=some v->(k,v)∈l
 |x::xs,h=>by
  simp only[mA]at h;by_cases e:k=x.1
  ·rw[if_pos e]at h;cases h;rw[e];exact List.mem_cons_self ..
  ·rw[if_neg e]at h;exact List.mem_cons_of_mem _ (BZ h)
theorem Kp {a b:Type} (p:a×b->Prop) [DecidablePred p]:∀l:List (a×b),Le (λd x=>if p d then some false else x) (some true) l=some (decide (∀z∈l,¬p z))
 | []=>by simp[Le]
 |x::xs=>by
  show(if p x then some false else Le _ (some true) xs)=_;rw[Kp p xs];by_cases h:p x
  ·rw[if_pos h];congr 1;symm;exact decide_eq_false λc=>c x (List.mem_cons_self ..) h
  ·rw[if_neg h];congr 1;apply decide_eq_decide.2;simp[h]
def Oq (c:fO) (v i:Nat) (z:(Int×Int)×Int):Prop:=∃a b:Nat,(a<v∨(a=v∧b<i))∧b<(at' c (a:Int)).length∧z=(((a:Int),(fK (at' c (a:Int)) b).1),(fK (at' c (a:Int)) b).2)
def Lu (a:fO):Prop:=(∀v,v<a.length->pX (at' a (v:Int)) v a.length)∧∀v,v<a.length->∀i,i<(at' a (v:Int)).length->Dd ([],a) v i
theorem GW (c:fO) (hn:c.length<=30) (hd:∀v,v<c.length->(at' c (v:Int)).length<=30):(Lu c->gH 1000 c=some true)∧(¬Lu c->gH 1000 c=some false):=by
 unfold gH;have s:∀(v:Nat) (m:List ((Int×Int)×Int)) p,v<c.length->(∀z,z∈m↔Oq c v 0 z)->
   (pX (at' c (v:Int)) v c.length->∃X,(∀z,z∈X↔Oq c (v+1) 0 z)∧bL (cH c ((v:Int),m) p) 1000 ((0:Int),m)=p ((v:Int)+1,X))∧
   (¬pX (at' c (v:Int)) v c.length->bL (cH c ((v:Int),m) p) 1000 ((0:Int),m)=some false):=by
  intro v m p F hm;have af:=hd v F;have R:=Gv (step:=cH c ((v:Int),m) p) (K:=λx=>p ((v:Int)+1,x.2)) (bad:=false) (at' c (v:Int)).length (Hm (at' c (v:Int)) v c.length) (λi x=>x.1=(i:Int)∧∀z,z∈x.2↔Oq c v i z) ?_ ?_ ?_ 1000 ((0:Int),m) ⟨rfl,hm⟩ (by omega)
  ·refine⟨λh=> ?_,λh=>R.2 h⟩
   obtain⟨x,⟨ah,ad⟩,f⟩:=R.1 h;refine⟨x.2,λz=>(ad z).trans ⟨?_,?_⟩,f⟩
   ·rintro⟨a,b,y,e,l⟩;exact⟨a,b,by omega,e,l⟩
   ·rintro⟨a,b,y,e,l⟩;refine⟨a,b,?_,e,l⟩
    by_cases W:a=v
    ·subst W;exact .inr ⟨rfl,e⟩
    ·omega
  ·rintro i ⟨H,g⟩ I M ⟨f,d⟩ ⟨p1,p2,p3,p4⟩;dsimp only at f d;subst f;have q:mA (((v:Int),(fK (at' c (v:Int)) i).1)) g=none:=by
    apply HE;intro w hw;obtain⟨a,b,y,e,l⟩:=(d _).1 hw;simp only[Prod.mk.injEq]at l;obtain⟨⟨C,A⟩,_⟩:=l;have:a=v:=by omega
    subst this;have hb:b<i:=by omega
    exact p4 b hb A.symm
   refine⟨((i:Int)+1,CJ (((v:Int),(fK (at' c (v:Int)) i).1)) (fK (at' c (v:Int)) i).2 g),⟨by simp,λz=> ?_⟩,?_⟩
   ·dsimp only;rw[Pq q,d];constructor
    ·rintro(rfl|⟨a,b,y,e,l⟩)
     ·exact⟨v,i,.inr ⟨rfl,by omega⟩,M,rfl⟩
     ·exact⟨a,b,by omega,e,l⟩
    ·rintro⟨a,b,y,e,l⟩;by_cases J:a=v∧b=i
     ·left;rw[l,J.1,J.2]
     ·right;exact⟨a,b,by omega,e,l⟩
   ·replace p1:0<=(at' (at' c (v:Int)) (i:Int)).1∧(at' (at' c (v:Int)) (i:Int)).1<=(c.length:Int) - 1:=p1;replace p3:1<=(at' (at' c (v:Int)) (i:Int)).2∧(at' (at' c (v:Int)) (i:Int)).2<=15:=p3;unfold cH gT iW;dsimp only;rw[if_pos (by omega),bZ (by omega),if_neg (by omega),if_neg (by omega),if_neg (by rw[decide_eq_false p2];simp),if_neg (by omega),if_neg (by rw[decide_eq_false (by omega)];simp),q,if_neg (by simp),wr (by omega) (by omega)]
  ·rintro i ⟨H,g⟩ I M ⟨f,d⟩ P;dsimp only at f d;subst f;unfold cH gT iW;dsimp only;rw[if_pos (by omega),bZ (by omega)];by_cases y:(fK (at' c (v:Int)) i).1<0
   ·rw[if_pos y,if_pos Z]
   rw[if_neg y];by_cases e:(c.length:Int)<=(fK (at' c (v:Int)) i).1
   ·rw[if_pos e,if_pos Z]
   rw[if_neg e];by_cases l:(fK (at' c (v:Int)) i).1=v
   ·rw[if_pos (decide_eq_true l)]
   rw[if_neg (by rw[decide_eq_false l];simp)];by_cases C:(fK (at' c (v:Int)) i).2<1
   ·rw[if_pos C,if_pos Z]
   rw[if_neg C];by_cases A:15<(fK (at' c (v:Int)) i).2
   ·rw[if_pos (decide_eq_true A)]
   rw[if_neg (by rw[decide_eq_false A];simp)];have:∃k,k<i∧(fK (at' c (v:Int)) k).1=(fK (at' c (v:Int)) i).1:=by
    apply Classical.byContradiction;intro hc;exact P ⟨by omega,l,by omega,λk N L=>hc ⟨k,N,L⟩⟩
   obtain⟨k,N,L⟩:=this;have n:=(d _).2 ⟨v,k,.inr ⟨rfl,N⟩,by omega,rfl⟩;rw[if_pos];rw[<-L];cases q:mA (((v:Int),(fK (at' c (v:Int)) k).1)) g with
   |some w=>rfl
   | none => exact absurd n (by
     intro n;exact tQ q n)
  ·rintro⟨H,g⟩ I ⟨f,d⟩;dsimp only at f d;subst f;unfold cH mJ;dsimp only;rw[if_neg (by omega),wr (by omega) (by omega)]
 have t:=Gv (step:=cS 1000 c) (K:=λx=>iV x.2) (bad:=false) c.length (λv=>pX (at' c (v:Int)) v c.length) (λv x=>x.1=(v:Int)∧∀z,z∈x.2↔Oq c v 0 z) ?_ ?_ ?_ 1000 ((0:Int),[]) ⟨rfl,λz=>⟨λh=>(by cases h),fun⟨a,b,y,_⟩=>(by omega)⟩⟩ (by omega)
 rotate_left
 ·rintro v ⟨H,g⟩ p F ⟨f,d⟩ P;dsimp only at f d;subst f;obtain⟨X,y,e⟩:=(s v g p F d).1 P;refine⟨((v:Int)+1,X),⟨by simp,y⟩,?_⟩
  ·unfold cS;dsimp only;rw[if_pos (by omega),bZ (by omega)];exact e
 ·rintro v ⟨H,g⟩ p F ⟨f,d⟩ P;dsimp only at f d;subst f;unfold cS;dsimp only;rw[if_pos (by omega),bZ (by omega)];exact(s v g p F d).2 P
 ·rintro⟨H,g⟩ p ⟨f,d⟩;dsimp only at f d;subst f;unfold cS;dsimp only;rw[if_neg (by omega)]
 by_cases D:∀v,v<c.length->pX (at' c (v:Int)) v c.length
 rotate_left
 ·exact⟨λh=>absurd h.1 D,λ_=>t.2 D⟩
 obtain⟨⟨H,g⟩,⟨f,d⟩,L⟩:=t.1 D;rw[L];dsimp only at d ⊢;have N:iV g=some (decide (∀z∈g,¬(Option.getD (mA (z.1.2,z.1.1) g) (0:Int))≠z.2)):=Kp (λz:(Int×Int)×Int=>(Option.getD (mA (z.1.2,z.1.1) g) (0:Int))≠z.2) g;rw[N];have E:(∀z∈g,¬(Option.getD (mA (z.1.2,z.1.1) g) (0:Int))≠z.2)↔∀v,v<c.length->∀i,i<(at' c (v:Int)).length->Dd ([],c) v i:=by
  constructor
  ·intro h v F i M;have hw:=(D v F i M).2.2.1;have n:=(d (((v:Int),(fK (at' c (v:Int)) i).1),(fK (at' c (v:Int)) i).2)).2 ⟨v,i,.inl F,M,rfl⟩;have e:=Decidable.not_not.1 (h _ n);dsimp only at e;cases q:mA ((fK (at' c (v:Int)) i).1,(v:Int)) g with
   |none=>rw[q]at e;simp only[Option.getD]at e;omega
   | some w =>
    rw[q]at e;simp only[Option.getD]at e;obtain⟨a,b,l,C,A⟩:=(d _).1 (BZ q);simp only[Prod.mk.injEq]at A;obtain⟨⟨T,U⟩,h8⟩:=A;refine⟨b,?_,?_,?_⟩
    ·show b<(at' c (fK (at' c (v:Int)) i).1).length;rw[T];exact C
    ·show(fK (at' c (fK (at' c (v:Int)) i).1) b).1=v;rw[T];exact U.symm
    ·show(fK (at' c (fK (at' c (v:Int)) i).1) b).2=(fK (at' c (v:Int)) i).2;rw[T,<-h8];exact e
  ·intro h z hz ac;obtain⟨a,b,l,C,rfl⟩:=(d z).1 hz;have W:a<c.length:=by omega
   apply ac;obtain⟨j,r,o,B⟩:=h a W b C;have hu:=(D a W b C).1;obtain⟨u,Q⟩:∃u:Nat,(fK (at' c (a:Int)) b).1=u:=⟨(fK (at' c (a:Int)) b).1.toNat,by omega⟩
   replace r:j<(at' c (fK (at' c (a:Int)) b).1).length:=r;replace o:(fK (at' c (fK (at' c (a:Int)) b).1) j).1=a:=o;replace B:(fK (at' c (fK (at' c (a:Int)) b).1) j).2=(fK (at' c (a:Int)) b).2:=B;rw[Q]at r o B;have G:u<c.length:=by omega
   dsimp only;rw[Q,<-B];have n:=(d (((u:Int),(fK (at' c (u:Int)) j).1),(fK (at' c (u:Int)) j).2)).2 ⟨u,j,.inl G,r,rfl⟩;rw[o]at n;cases q:mA ((u:Int),(a:Int)) g with
   |none=>exact absurd n (tQ q)
   | some w =>
    obtain⟨Y,S,ae,aa,A⟩:=(d _).1 (BZ q);simp only[Prod.mk.injEq]at A;obtain⟨⟨T,U⟩,h8⟩:=A;have:Y=u:=by omega
    subst this;have ab:S=j:=by
     rcases Nat.lt_trichotomy S j with O|O|O
     ·exact absurd (U.symm.trans o.symm) ((D Y G j r).2.2.2 S O)
     ·exact O
     ·exact absurd (o.trans U) ((D Y G S aa).2.2.2 j O)
    subst ab;exact h8
 by_cases V:∀v,v<c.length->∀i,i<(at' c (v:Int)).length->Dd ([],c) v i
 ·rw[decide_eq_true (E.2 V)];exact⟨λ_=>rfl,λh=>absurd ⟨D,V⟩ h⟩
 ·rw[decide_eq_false (λh=>V (E.1 h))];exact⟨λh=>absurd h.2 V,λ_=>rfl⟩
theorem Kw:∀(N:Nat) (f:Nat->Nat) (k:Nat),(∀i,i<k->f i<N)->(∀i j,i<j->j<k->f i≠f j)->k<=N
 |0,f,k,h,_=>by
  cases k with
  |zero=>omega
  |succ k=>exact absurd (h 0 (by omega)) (by omega)
 | N + 1, f, k, h, hd => by
  by_cases b:∃a,a<k∧f a=N
  ·obtain⟨a,g,l⟩:=b;have:=Kw N (λi=>if i<a then f i else f (i+1)) (k - 1) (λi c=>by
    split
    ·have:=h i (by omega);have:=hd i a (by omega) g;omega
    ·have:=h (i+1) (by omega);have:=hd a (i+1) (by omega) (by omega);omega) (λi j d m=>by
    split<;>split
    ·exact hd i j d (by omega)
    ·exact hd i (j+1) (by omega) (by omega)
    ·omega
    ·exact hd (i+1) (j+1) (by omega) (by omega))
   omega
  ·have:=Kw N f k (λi c=>by
    have:=h i c;have:f i≠N:=λe=>b ⟨i,c,e⟩;omega) hd
   omega
theorem Rv {l:fN} {v n:Nat} (b:v<n) (h:pX l v n):l.length<n:=by
 have:=Kw n (λi=>if i=l.length then v else(fK l i).1.toNat) (l.length+1) (λi e=>by
  split
  ·exact b
  ·have:=(h i (by omega)).1;omega) (λi j a f=>by
  rw[if_neg (by omega)];have c:=(h i (by omega)).1;split
  ·have:=(h i (by omega)).2.1;omega
  ·have d:=(h j (by omega)).1;have:=(h j (by omega)).2.2.2 i a;omega)
 omega
theorem Qy (g:GR) (j:light g):(VG g->gX 1000 g=some true)∧(¬VG g->gX 1000 g=some false):=by
 obtain⟨e,f,i⟩:=j;unfold gX pO pP;by_cases l:g.1.length<1
 ·rw[if_pos (by omega)];exact⟨λh=>by have:=h.n1;have:=h.len;omega,λ_=>rfl⟩
 rw[if_neg (by omega)];by_cases m:24<g.1.length
 ·rw[if_pos (by omega)];exact⟨λh=>by have:=h.n24;have:=h.len;omega,λ_=>rfl⟩
 rw[if_neg (by omega)];by_cases d:g.1.length=g.2.length
 rotate_left
 ·rw[decide_eq_true (by omega)];exact⟨λh=>absurd h.len d,λ_=>rfl⟩
 rw[decide_eq_false (by omega),if_neg (by simp)];by_cases b:∀k,k<g.1.length->Wg g.1 k
 rotate_left
 ·rw[(uA g.1 e).2 b,bG Z];exact⟨λh=>absurd (λk n=>⟨(h.node k (by omega)).id,(h.node k (by omega)).ids⟩) b,λ_=>rfl⟩
 rw[(uA g.1 e).1 b,bG Z,if_pos Z];by_cases a:Lu g.2
 ·rw[(GW g.2 f i).1 a];exact⟨λ_=>rfl,λh=>absurd ⟨by omega,by omega,d,λv c=>⟨(b v (by omega)).1,Rv c (a.1 v c),a.1 v c,(b v (by omega)).2⟩,a.2⟩ h⟩
 ·rw[(GW g.2 f i).2 a];exact⟨λh=>absurd ⟨λv c=>(h.node v c).links,h.sym⟩ a,λ_=>rfl⟩
theorem VG.light {g:GR} (h:VG g):light g:=⟨by have:=h.n24;have:=h.len;omega,by have:=h.n24;omega,λv a=>by have:=(h.node v a).deg;have:=h.n24;omega⟩
abbrev D (d:aO) (v:Nat):Int:=at' d (v:Int)
def KZ (g:GR) (v u:Nat):Prop:=∃i,i<(row g v).length∧(fK (row g v) i).1=(u:Int)
theorem VG.port {g:GR} (h:VG g) {v i:Nat} (b:v<g.2.length) (a:i<(row g v).length):∃u:Nat,u<g.2.length∧(fK (row g v) i).1=(u:Int)∧KZ g v u:=by
 have c:=((h.node v b).links i a).1;exact⟨(fK (row g v) i).1.toNat,by omega,by omega,i,a,by omega⟩
theorem VG.back {g:GR} (h:VG g) {v u:Nat} (f:v<g.2.length) (c:KZ g v u):KZ g u v:=by
 obtain⟨i,d,e⟩:=c;obtain⟨j,b,a,_⟩:=h.sym v f i d;rw[e]at b a;exact⟨j,b,a⟩
theorem VG.adj_lt {g:GR} (h:VG g) {v u:Nat} (c:v<g.2.length) (a:KZ g v u):u<g.2.length:=by
 obtain⟨i,b,d⟩:=a;have:=((h.node v c).links i b).1;omega
def Gn (d:aO):Nat:=d.countP λx=>decide (x<0)
structure QM (g:GR) (s:Nat) (d:aO):Prop where
 len:d.length=g.2.length
 lo:∀v,v<g.2.length -> -1<=D d v
 zero:∀v,v<g.2.length->(D d v=0↔v=s)
 near:∀v,v<g.2.length->0<D d v->∃u,u<g.2.length∧KZ g v u∧D d u=D d v - 1
 hi:∀v,v<g.2.length->D d v+(Gn d:Int)<=(g.2.length:Int)
structure Qu (g:GR) (q d:aO) (b:Int) (done:Nat->Prop):Prop where
 mem:∀y∈q,∃v,v<g.2.length∧y=((v:Nat):Int)∧0<=D d v
 top:∀v,v<g.2.length->D d v<=b
 sort:q.Pairwise λa c=>at' d a<=at' d c
 done:∀v,v<g.2.length->0<=D d v->((v:Nat):Int)∉q->done v->∀u,u<g.2.length->KZ g v u->0<=D d u∧D d u<=D d v+1
theorem Ev {d:aO} {v:Nat} (h:v<d.length):D d v=d[v]:=by
 rw[D,fP,List.getD_eq_getElem?_getD,List.getElem?_eq_getElem h];rfl
theorem JK {d:aO} {u:Nat} {x:Int} (a:u<d.length) (b:D d u<0) (e:0<=x):Gn (d.set u x)+1=Gn d:=by
 unfold Gn;rw[List.countP_set a];have c:0<d.countP λx=>decide (x<0):=by
  rw[List.countP_pos_iff];exact⟨d[u],List.getElem_mem a,by rw[<-Ev a];simpa using b⟩
 rw[Ev a]at b;rw[if_pos (by simpa using b),if_neg (by simp;omega)];omega
theorem assign {g:GR} {s:Nat} {q d:aO} {b:Int} {done:Nat->Prop} (E:VG g) (l:QM g s d) {x u:Nat} (m:Qu g q d (D d x+1) done) (B:x<g.2.length) (K:0<=D d x) (J:u<g.2.length) (t:D d u<0) (F:KZ g x u):
  QM g s (d.set u (D d x+1))∧Qu g (q++[(u:Int)]) (d.set u (D d x+1)) (D d x+1) done:=by
 have o:=l.len;have e:∀v,D (d.set u (D d x+1)) v=if v=u then D d x+1 else D d v:=λv=>tE _ _ _ _ (by omega);have G:=JK (x:=D d x+1) (by omega:u<d.length) t (by omega);refine⟨⟨by simp[o],λv f=> ?_,λv f=> ?_,λv f=> ?_,λv f=> ?_⟩,⟨λy j=> ?_,λv f=> ?_,?_,λv f k n H w A i=> ?_⟩⟩
 ·rw[e];split
  ·omega
  ·exact l.lo v f
 ·rw[e];split
  ·rename_i h;subst h;have:=(l.zero v f)
   constructor
   ·intro;omega
   ·intro h;have:=this.2 h;omega
  ·exact l.zero v f
 ·rw[e];split
  ·rename_i h;subst h;intro _;refine⟨x,B,E.back B F,?_⟩
   rw[e,if_neg (by intro h;subst h;omega)];omega
  ·intro k;obtain⟨w,A,i,I⟩:=l.near v f k;refine⟨w,A,i,?_⟩
   rw[e,if_neg (by intro h;subst h;omega)];exact I
 ·rw[e];split
  ·have:=l.hi x B;omega
  ·have:=l.hi v f;omega
 ·rcases List.mem_append.1 j with j|j
  ·obtain⟨v,f,rfl,k⟩:=m.mem y j;refine⟨v,f,rfl,?_⟩
   rw[e];split<;>omega
  ·simp only[List.mem_singleton]at j;refine⟨u,J,j,?_⟩
   rw[e,if_pos Z];omega
 ·rw[e];split
  ·omega
  ·exact m.top v f
 ·rw[List.pairwise_append];have n:∀y∈q,at' (d.set u (D d x+1)) y=at' d y:=by
   intro y j;obtain⟨v,f,rfl,k⟩:=m.mem y j;have:=e v;rw[if_neg (by intro h;subst h;omega)]at this;exact this
  refine⟨m.sort.imp_of_mem λ{a c} h1 r h=> ?_,List.pairwise_singleton ..,λy j z C=> ?_⟩
  ·rw[n a h1,n c r];exact h
  ·simp only[List.mem_singleton]at C;subst C;rw[n y j];have r:=e u;rw[if_pos Z]at r;obtain⟨v,f,rfl,k⟩:=m.mem y j;have:=m.top v f;show D d v<=D (d.set u (D d x+1)) u;omega
 ·have p:v≠u:=by
   rintro rfl;exact n (by simp)
  rw[e,if_neg p]at k;rw[e v,if_neg p];have:=m.done v f k (λh=>n (List.mem_append_left _ h)) H w A i;rw[e w,if_neg (by rintro rfl;omega)];exact this
theorem NC {g:GR} (E:VG g) {s x:Nat} (I:x<g.2.length) (a e:aO) (R:List Int×aO->Option aO) (r:aO->Prop)
  (o:QM g s e) (ae:0<=D e x) (m:Qu g a e (D e x+1) (λv=>v≠x)) (hm:a.length+Gn e<=g.2.length)
  (K:∀q d,QM g s d->D d x=D e x->Qu g q d (D d x+1) (λ_=>True)->q.length+Gn d=a.length+Gn e->(∀y∈q,D e x<=at' d y)->OK r (R (q,d)))
  (l:∀y∈a,D e x<=at' e y):
  OK r (bL (qL g ((x:Int)::a,e) R) 1000 ((0:Int),a,e)):=by
 have U:=(E.node x I).deg;have aa:=E.n24;refine wG (λz:Int×List Int×aO=>∃k:Nat,z.1=k∧k<=(row g x).length∧QM g s z.2.2∧D z.2.2 x=D e x∧Qu g z.2.1 z.2.2 (D e x+1) (λv=>v≠x)∧z.2.1.length+Gn z.2.2=a.length+Gn e∧(∀i,i<k->∀u:Nat,(fK (row g x) i).1=u->0<=D z.2.2 u)∧(∀y∈z.2.1,D e x<=at' z.2.2 y)) (λz=>31 - z.1.toNat) ?_ 1000 _ ⟨0,rfl,by omega,o,rfl,m,rfl,λi L=>by omega,l⟩ (by simp);rintro⟨z1,q,d⟩ X ⟨k,W,hk,o,f,m,A,F,l⟩ p;dsimp only at W o f m A F l;subst W;have V:=o.len;have e0:at' ((x:Int)::a) 0=(x:Int):=rfl;unfold qL qK;dsimp only;rw[e0];by_cases N:k<(row g x).length
 ·rw[if_pos (show(k:Int)<((row g x).length:Int) by omega),bZ (show 0<=(k:Int)∧(k:Int)<((row g x).length:Int) by omega)];obtain⟨u,G,O,j⟩:=E.port I N;rw[show at' (at' g.2 (x:Int)) (k:Int)=fK (row g x) k from rfl,O,bZ (by omega)];have ac:=o.hi x I;by_cases c:at' d (u:Int)<0
  ·have J:Qu g q d (D d x+1) (λv=>v≠x):=by rw[f];exact m
   obtain⟨Y,c2⟩:=assign (b:=0) E o J I (by omega) G c j;have ab:=JK (x:=D d x+1) (by omega:u<d.length) c (by omega);have n:∀v,D (d.set u (D d x+1)) v=if v=u then D d x+1 else D d v:=λv=>tE _ _ _ _ (by omega);have Q:x≠u:=by rintro rfl;have:D d x<0:=c;omega
   rw[if_pos c,bZ (by omega),bZ (by omega),bZ (by simp only[List.length_singleton];omega),wr (x:=(k:Int)+1) (by omega) (by omega),wr (x:=at' d (x:Int)+1) (by show -9223372036854775808<=D d x+1;omega) (by show D d x+1<=_;omega)];refine p _ ⟨k+1,by simp,by omega,Y,?_,?_,?_,?_,?_⟩ (by dsimp only;omega)
   ·show D (d.set u (D d x+1)) x=_;rw[n,if_neg Q];exact f
   ·rw[<-f];exact c2
   ·show(q++[(u:Int)]).length+Gn (d.set u (D d x+1))=_;simp only[List.length_append,List.length_singleton];omega
   ·intro i L w P;show 0<=D (d.set u (D d x+1)) w;rw[n];split
    ·omega
    ·by_cases t:i=k
     ·subst t;omega
     ·exact F i (by omega) w P
   ·intro y B;show D e x<=at' (d.set u (D d x+1)) y;rcases List.mem_append.1 B with B|B
    ·have h1:=l y B;obtain⟨v,H,rfl,S⟩:=m.mem y B;have T:=n v;rw[if_neg (by intro h;subst h;have:D d v<0:=c;omega)]at T;rw[show at' (d.set u (D d x+1)) (v:Int)=D d v from T];exact h1
    ·simp only[List.mem_singleton]at B;subst B;rw[show at' (d.set u (D d x+1)) (u:Int)=D d x+1 from(n u).trans (if_pos Z)];omega
  ·rw[if_neg c,wr (by omega) (by omega)];refine p _ ⟨k+1,by simp,by omega,o,f,m,A,?_,l⟩ (by dsimp only;omega);intro i L w P;by_cases t:i=k
   ·subst t;have:w=u:=by omega
    subst this;show 0<=at' d (w:Int);omega
   ·exact F i (by omega) w P
 ·rw[if_neg (show¬(k:Int)<((row g x).length:Int) by omega)];have ad:k=(row g x).length:=by omega
  refine K q d o f ⟨m.mem,λv H=>by rw[f];exact m.top v H,m.sort,λv H S hq _ u G j=> ?_⟩ A l;by_cases C:v=x
  ·subst C;obtain⟨i,L,M⟩:=j;exact⟨F i (by omega) u M,by rw[f];exact m.top u G⟩
  ·exact m.done v H S hq C u G j
structure oL (g:GR) (s:Nat) (d:aO):Prop where
 len:d.length=g.2.length
 lo:∀v,v<g.2.length -> -1<=D d v
 zero:∀v,v<g.2.length->(D d v=0↔v=s)
 near:∀v,v<g.2.length->0<D d v->∃u,u<g.2.length∧KZ g v u∧D d u=D d v - 1
 next:∀v,v<g.2.length->0<=D d v->∀u,u<g.2.length->KZ g v u->0<=D d u∧D d u<=D d v+1
 hi:∀v,v<g.2.length->D d v<=(g.2.length:Int)
theorem PZ {g:GR} (t:VG g) {s:Nat} (f:aO) (k:aO) (b:QM g s f) (c:Qu g k f (match k with|[]=>1000|y::_=>at' f y+1) (λ_=>True)) (j:k.length+Gn f<=g.2.length):
  OK (oL g s) (bL (nK 1000 g) 1000 (k,f)):=by
 have G:=t.n24;refine wG (λz:List Int×aO=>QM g s z.2∧Qu g z.1 z.2 (match z.1 with|[]=>1000|y::_=>at' z.2 y+1) (λ_=>True)∧z.1.length+Gn z.2<=g.2.length) (λz=>z.1.length+Gn z.2) ?_ 1000 _ ⟨b,c,j⟩ (by dsimp only;omega);rintro⟨q,d⟩ C ⟨b,c,j⟩ m;dsimp only at b c j;unfold nK uG;dsimp only;cases q with
 |nil=>
  rw[if_neg (by simp)];exact⟨d,rfl,b.len,b.lo,b.zero,b.near,λv e l u n a=>c.done v e l (by simp) trivial u n a,λv e=>by have:=b.hi v e;omega⟩
 | cons y rest =>
  obtain⟨x,A,rfl,p⟩:=c.mem y (List.mem_cons_self ..);have F:at' ((x:Int)::rest) 0=(x:Int):=rfl;rw[if_pos (by simp only[List.length_cons];omega),bZ (by simp only[List.length_cons];omega),bZ (by simp only[List.length_cons];omega),F,bZ (by omega)];have w:=List.pairwise_cons.1 c.sort;simp only[List.length_cons]at j;refine NC t A rest d C _ b p ⟨λz I=>c.mem z (List.mem_cons_of_mem _ I),c.top,w.2,λv e l H o u n a=>c.done v e l (λh=> ?_) trivial u n a⟩ (by omega) (λB E r J i K D=> ?_) w.1
  ·rcases List.mem_cons.1 h with h|h
   ·exact o (by omega)
   ·exact H h
  ·refine m (B,E) ⟨r,⟨i.mem,λv e=> ?_,i.sort,i.done⟩,by dsimp only;omega⟩ (by simp only[List.length_cons];omega);dsimp only;have L:=i.top v e;cases B with
   |nil=>
    dsimp only;have:=r.hi x A;omega
   |cons z M=>
    dsimp only;have:=D z (List.mem_cons_self ..);omega
theorem EL {g:GR} (l:VG g) {s:Nat} (m:s<g.2.length):OK (oL g s) (jQ 1000 g (s:Int)):=by
 have q:=l.n24;unfold jQ;rw[bZ (by omega)];refine wG (λz:kU=>∃k:Nat,z.1=k∧k<=g.2.length∧z.2.length=g.2.length∧∀v,v<k->D z.2 v = -1) (λz=>31 - z.1.toNat) ?_ 1000 _ ⟨0,rfl,by omega,by simp,λv c=>by omega⟩ (by simp);rintro⟨C,d⟩ A ⟨k,o,B,e,j⟩ i;dsimp only at o e j;subst o;unfold zD;simp only[List.length_replicate,Int.toNat_natCast];by_cases u:k<g.2.length
 ·rw[if_pos (by omega),bZ (by omega),wr (by omega) (by omega)];refine i _ ⟨k+1,by simp,by omega,by simp[e],λv c=> ?_⟩ (by dsimp only;omega);show at' (d.set k (-1)) (v:Int) = -1;rw[tE _ _ _ _ (by omega)];split
  ·rfl
  ·exact j v (by omega)
 ·rw[if_neg (by omega)];unfold zC;rw[bZ (by omega)];have b:∀v,v<g.2.length->D d v = -1:=λv c=>j v (by omega);have a:∀v,D (d.set s 0) v=if v=s then 0 else D d v:=λv=>tE _ _ _ _ (by omega);have t:=JK (x:=0) (by omega:s<d.length) (by rw[b s m];omega) (by omega);have r:Gn d<=d.length:=List.countP_le_length ..;refine PZ l _ _ ⟨by simp[e],λv c=> ?_,λv c=> ?_,λv c=> ?_,λv c=> ?_⟩ ⟨λy n=> ?_,λv c=> ?_,List.pairwise_singleton ..,λv c p w=> ?_⟩ ?_
  ·rw[Int.toNat_natCast,a];split
   ·omega
   ·rw[b v c];omega
  ·rw[Int.toNat_natCast,a];split
   ·rename_i h;exact⟨λ_=>h,λ_=>rfl⟩
   ·rename_i h;rw[b v c];exact⟨λf=>by omega,λf=>absurd f h⟩
  ·rw[Int.toNat_natCast,a];split
   ·omega
   ·rw[b v c];omega
  ·rw[Int.toNat_natCast,a];split
   ·omega
   ·rw[b v c];omega
  ·simp only[List.mem_singleton]at n;refine⟨s,m,n,?_⟩
   rw[Int.toNat_natCast,a,if_pos Z];omega
  ·rw[Int.toNat_natCast];have f:at' (d.set s 0) (s:Int)=0:=(a s).trans (if_pos Z);show D (d.set s 0) v<=at' (d.set s 0) (s:Int)+1;rw[f,a];split
   ·omega
   ·rw[b v c];omega
  ·rw[Int.toNat_natCast,a,if_neg (by rintro rfl;exact w (by simp)),b v c]at p;omega
  ·rw[Int.toNat_natCast];simp only[List.length_singleton];omega
theorem Nc {g:GR} (a:VG g) {s:Nat} (e:s<g.2.length):OK (oL g s) (nX 1000 g (s:Int)):=by
 unfold nX mI;rw[(Qy g a.light).1 a,bG Z,if_neg (by simp),if_neg (by omega),decide_eq_false (by omega),if_neg (by simp)];obtain⟨d,c,b⟩:=EL a e;rw[c];exact⟨d,rfl,b⟩
def xK (g:GR) (s:Nat):Nat->Nat->Prop
 |0,v=>v=s∧s<g.2.length
 |k+1,v=>∃u,xK g s k u∧KZ g u v
theorem xK.lt {g:GR} (a:VG g) {s:Nat}:∀{k v:Nat},xK g s k v->v<g.2.length
 |0,_,h=>by obtain⟨rfl,h⟩:=h;exact h
 |_+1,_,h=>by obtain⟨u,b,c⟩:=h;exact a.adj_lt (xK.lt a b) c
theorem xK.trans {g:GR} {s t:Nat} {k:Nat} (h:xK g s k t):∀{m v:Nat},xK g t m v->xK g s (k+m) v
 |0,_,h2=>by obtain⟨rfl,_⟩:=h2;exact h
 |_+1,_,h2=>by obtain⟨u,a,b⟩:=h2;exact⟨u,xK.trans h a,b⟩
theorem Gj {g:GR} (a:VG g) {s:Nat}:∀{k v:Nat},xK g s k v->xK g v k s
 |0,_,h=>by obtain⟨rfl,h⟩:=h;exact⟨rfl,h⟩
 |k+1,v,h=>by
  obtain⟨u,b,c⟩:=h;have d:=xK.lt a b;have e:xK g v 1 u:=⟨v,⟨rfl,a.adj_lt d c⟩,a.back d c⟩
  have:=xK.trans e (Gj a b);rwa[Nat.add_comm]at this
theorem oL.le {g:GR} (a:VG g) {s:Nat} {d:aO} (h:oL g s d):∀{k v:Nat},xK g s k v->0<=D d v∧D d v<=k
 |0,v,hw=>by
  obtain⟨rfl,i⟩:=hw;have:=(h.zero v i).2 Z;omega
 |k+1,v,hw=>by
  obtain⟨u,b,c⟩:=hw;have e:=xK.lt a b;have f:=oL.le a h b;have j:=h.next u e f.1 v (a.adj_lt e c) c;omega
theorem Lo {g:GR} (b:VG g) {s:Nat} {d:aO} (h:oL g s d):∀(k v:Nat),v<g.2.length->D d v=k->xK g s k v
 |0,v,hv,he=>by
  have:=(h.zero v hv).1 he;exact⟨this,by omega⟩
 |k+1,v,hv,he=>by
  obtain⟨u,c,a,e⟩:=h.near v hv (by omega);exact⟨u,Lo b h k u c (by omega),b.back hv a⟩
theorem oL.pos {g:GR} (a:VG g) {s:Nat} {d:aO} (h:oL g s d) {v:Nat} (b:v<g.2.length) (c:0<=D d v):xK g s (D d v).toNat v:=
 Lo a h _ v b (by omega)
theorem Pa (d:aO) (h:d.length<=30):OK (λr:Int=> -1<=r∧(∀v,v<d.length->D d v<=r)∧(r = -1∨∃v,v<d.length∧D d v=r)) (sP 1000 d):=by
 unfold sP;refine wG (λz:fF=>∃k:Nat,z.2=k∧k<=d.length ∧ -1<=z.1∧(∀v,v<k->D d v<=z.1)∧(z.1 = -1∨∃v,v<k∧D d v=z.1)) (λz=>31 - z.2.toNat) ?_ 1000 _ ⟨0,rfl,by omega,by omega,λv b=>by omega,.inl Z⟩ (by simp);rintro⟨m,z⟩ n ⟨k,j,o,g,c,a⟩ e;dsimp only at j g c a;subst j;unfold Bj Bi;dsimp only;by_cases l:k<d.length
 ·rw[if_pos (by omega),bZ (by omega),wr (by omega) (by omega)];refine e _ ⟨k+1,by simp,by omega,by dsimp only;omega,λv b=> ?_,?_⟩ (by dsimp only;omega)
  ·by_cases f:v=k
   ·subst f;show D d v<=max m (D d v);omega
   ·have:=c v (by omega);show D d v<=max m (D d k);omega
  ·by_cases p:m<=D d k
   ·exact .inr ⟨k,by omega,by show D d k=max m (D d k);omega⟩
   ·rcases a with a|⟨v,b,i⟩
    ·left;show max m (D d k) = -1;omega
    ·exact .inr ⟨v,by omega,by show D d v=max m (D d k);omega⟩
 ·rw[if_neg (by omega)];refine⟨m,rfl,g,λv b=>c v (by omega),?_⟩
  rcases a with a|⟨v,b,i⟩
  ·exact .inl a
  ·exact .inr ⟨v,by omega,i⟩
def Hi (g:GR):Prop:=∀u v,u<g.2.length->v<g.2.length->∃k,xK g u k v
theorem z_ {g:GR} (a:VG g):(Hi g->eL 1000 g=some true)∧(¬Hi g->eL 1000 g=some false):=by
 have r:=a.n1;have n:=a.n24;unfold eL;obtain⟨d,o,e⟩:=EL a (s:=0) (by omega);have j:=e.len;rw[(Qy g a.light).1 a,bG Z,if_neg (by simp),show jQ 1000 (g.1,g.2) 0=some d from o,bG Z];have c:=CB (step:=kP d) (K:=some true) (bad:=false) d.length (λv=>0<=D d v) (λk i f p=> ?_) (λk i f p=> ?_) (λi=> ?_) 1000 (by omega)
 ·have b:(∀v,v<d.length->0<=D d v)↔Hi g:=by
   constructor
   ·intro h u v q l;exact⟨_,xK.trans (Gj a (oL.pos a e q (h u (by omega)))) (oL.pos a e l (h v (by omega)))⟩
   ·intro h v l;obtain⟨k,f⟩:=h 0 v (by omega) (by omega);exact(oL.le a e f).1
  exact⟨λh=>c.1 (b.2 h),λh=>c.2 λm=>h (b.1 m)⟩
 ·unfold kP;rw[if_pos (by omega),bZ (by omega),if_neg (show¬D d k<0 by omega),wr (by omega) (by omega)]
 ·unfold kP;rw[if_pos (by omega),bZ (by omega),if_pos (show D d k<0 by omega)]
 ·unfold kP qA;rw[if_neg (by omega)]
def Ecc (g:GR) (s:Nat) (r:Int):Prop:=∃d,jQ 1000 g (s:Int)=some d∧oL g s d∧(∀v,v<g.2.length->D d v<=r)∧∃v,v<g.2.length∧D d v=r
theorem Jj {g:GR} {s:Nat} {r e:Int} (h:Ecc g s r) (f:Ecc g s e):r=e:=by
 obtain⟨d,i,_,j,v,l,o⟩:=h;obtain⟨n,a,_,b,m,c,k⟩:=f;rw[i]at a;cases a;have:=j m c;have:=b v l;omega
theorem Rz {g:GR} (e:VG g) {s:Nat} (i:s<g.2.length):∃d r,jQ 1000 g (s:Int)=some d∧sP 1000 d=some r∧Ecc g s r:=by
 obtain⟨d,f,a⟩:=EL e i;have h:=a.len;have j:=e.n24;obtain⟨r,l,o,b,c⟩:=Pa d (by omega);have n:=b s (by omega);have:=(a.zero s i).2 Z;refine⟨d,r,f,l,d,f,a,λv m=>b v (by omega),?_⟩
 rcases c with c|⟨v,m,k⟩
 ·omega
 ·exact⟨v,by omega,k⟩
theorem zA {g:GR} (a:VG g) (f:Hi g) {s:Nat} (h:s<g.2.length):OK (Ecc g s) (nY 1000 g (s:Int)):=by
 unfold nY nC;rw[(z_ a).1 f,bG Z,if_neg (by simp),if_neg (by omega),decide_eq_false (by omega),if_neg (by simp)];obtain⟨d,r,b,c,e⟩:=Rz a h;rw[b,bG Z,c,bG Z];exact⟨r,rfl,e⟩
theorem VH (g:GR) (v:Nat) (u:Int) (m:v<g.2.length) (l:(row g v).length<=30):rT 1000 g v u=some (AB (row g v) u):=by
 unfold rT;rw[bZ (by omega)];rcases CK (row g v) u with⟨i,j,h,c,b⟩|⟨c,b⟩
 ·rw[b];refine Ac (λx:Int=>∃k:Nat,x=k∧k<=i) (λx=>31 - x.toNat) ?_ 1000 _ ⟨0,rfl,by omega⟩ (by omega);rintro x d ⟨k,rfl,f⟩ a;unfold uF;rw[if_pos (show(k:Int)<((row g v).length:Int) by omega),bZ (show 0<=(k:Int)∧(k:Int)<((row g v).length:Int) by omega)];by_cases e:k=i
  ·subst e;exact if_pos h
  ·rw[if_neg (c k (by omega)),wr (by omega) (by omega)];exact a _ ⟨k+1,by omega,by omega⟩ (by omega)
 ·rw[b];refine Ac (λx:Int=>∃k:Nat,x=k∧k<=(row g v).length) (λx=>31 - x.toNat) ?_ 1000 _ ⟨0,rfl,by omega⟩ (by omega);rintro x d ⟨k,rfl,f⟩ a;unfold uF;by_cases e:k<(row g v).length
  ·rw[if_pos (show(k:Int)<((row g v).length:Int) by omega),bZ (show 0<=(k:Int)∧(k:Int)<((row g v).length:Int) by omega),if_neg (c k e),wr (by omega) (by omega)];exact a _ ⟨k+1,by omega,by omega⟩ (by omega)
  ·rw[if_neg (show¬(k:Int)<((row g v).length:Int) by omega)];rfl
section
def ajW (f:Nat->Nat):Nat->Nat
 |0=>0
 |k+1=>ajW f k+f k
open Classical in
noncomputable def ind (p:Prop):Nat:=if p then 1 else 0
theorem Rf {g:GR} (a:VG g) {v:Nat} (d:v<g.2.length):¬KZ g v v:=by
 rintro⟨i,c,b⟩;exact((a.node v d).links i c).2.1 b
end
theorem MB (a:Nat) (h:a<4294967296):IntKind.u32.wrap (a:Int)=a:=by rw[<-Es];exact if_pos ⟨by omega,by omega⟩
def Oi (x:Int):Nat:=(BitVec.ofInt 32 x).toNat
theorem Jt (x:Int):Oi x<4294967296:=(BitVec.ofInt 32 x).isLt
theorem xW {a:Nat} (h:a<4294967296):Oi (a:Int)=a:=by
 unfold Oi;rw[BitVec.ofInt_natCast,BitVec.toNat_ofNat];exact Nat.mod_eq_of_lt h
theorem MS (x y:Int):dM .u32 x y=((Oi x &&& Oi y:Nat):Int):=by
 show IntKind.u32.wrap (((BitVec.ofInt 32 x &&& BitVec.ofInt 32 y).toNat:Nat):Int)=_;rw[BitVec.toNat_and];exact MB _ (Nat.lt_of_le_of_lt Nat.and_le_left (Jt x))
theorem ada (x y:Int):MU .u32 x y=((Oi x ||| Oi y:Nat):Int):=by
 show IntKind.u32.wrap (((BitVec.ofInt 32 x ||| BitVec.ofInt 32 y).toNat:Nat):Int)=_;rw[BitVec.toNat_or];exact MB _ (Nat.or_lt_two_pow (n:=32) (Jt x) (Jt y))
theorem WR (x y:Int):t_ .u32 x y=0↔∀i,(Oi x).testBit i=true->(Oi y).testBit i=true:=by
 have e:t_ .u32 x y=(((BitVec.ofInt 32 x &&& ~~~ BitVec.ofInt 32 y).toNat:Nat):Int):=MB _ (BitVec.ofInt 32 x &&& ~~~ BitVec.ofInt 32 y).isLt;have b:∀i,(BitVec.ofInt 32 x &&& ~~~ BitVec.ofInt 32 y).toNat.testBit i=((Oi x).testBit i&&(decide (i<32) && !(Oi y).testBit i)):=by
  intro i;have:=BitVec.getLsbD_and (x:=BitVec.ofInt 32 x) (y:= ~~~ BitVec.ofInt 32 y) (i:=i);rw[BitVec.getLsbD_not]at this;exact this
 have d:∀i,(Oi x).testBit i=true->i<32:=by
  intro i a;apply Classical.byContradiction;intro f;rw[Nat.testBit_lt_two_pow (Nat.lt_of_lt_of_le (Jt x) (Nat.pow_le_pow_right (n:=2) (by omega) (show 32<=i by omega)))]at a;cases a
 rw[e];constructor
 ·intro h i a;have c:(BitVec.ofInt 32 x &&& ~~~ BitVec.ofInt 32 y).toNat=0:=by omega
  have:=b i;rw[c,Nat.zero_testBit,a,decide_eq_true (d i a)]at this;simpa using this
 ·intro h;have:(BitVec.ofInt 32 x &&& ~~~ BitVec.ofInt 32 y).toNat=0:=by
   apply Nat.eq_of_testBit_eq;intro i;rw[b i,Nat.zero_testBit];cases a:(Oi x).testBit i with
   |false=>rfl
   |true=>rw[h i a];simp
  omega
theorem Im {k:Nat} (a:k<32):2^k<4294967296:=Nat.pow_lt_pow_right (n:=32) (by omega) a
theorem acn {k:Nat} (a:k<32):Co .u32 1 (k:Int)=((2^k:Nat):Int):=by
 show IntKind.u32.wrap (1*2^(min ((k:Int).toNat) 32))=_;rw[Int.toNat_natCast,Nat.min_eq_left (by omega),Int.one_mul,show(2:Int)^k=((2^k:Nat):Int) by simp];exact MB _ (Im a)
theorem MV {a k:Nat} (b:k<32):rO .u32 (a:Int) (k:Int)=((a / 2^k:Nat):Int):=by
 show Int.fdiv (a:Int) (2^(min ((k:Int).toNat) 32))=_;rw[Int.toNat_natCast,Nat.min_eq_left (by omega),show(2:Int)^k=((2^k:Nat):Int) by simp,Int.fdiv_eq_ediv_of_nonneg _ (Int.natCast_nonneg _)];simp
theorem X_ {a k:Nat} (d:k<32) (c:a<4294967296):dM .u32 (rO .u32 (a:Int) (k:Int)) 1=1↔a.testBit k=true:=by
 have b:Oi 1=1:=xW (a:=1) (by omega);rw[MV d,MS,xW (Nat.lt_of_le_of_lt (Nat.div_le_self _ _) c),b,Nat.and_one_is_mod,Nat.testBit_eq_decide_div_mod_eq,decide_eq_true_eq];omega
def Jl (g:GR) (s:Nat):Prop:=(∀v,s.testBit v=true->v<g.2.length)∧∀v u,s.testBit v=true->s.testBit u=true->¬KZ g v u
theorem acY {g:GR} (a:VG g):yS 1000 g=some ((2^g.2.length - 1:Nat):Int):=by
 have c:=a.n24;have d:=a.len;have e:=Im (show g.2.length<32 by omega);have b:1<=2^g.2.length:=Nat.one_le_two_pow;unfold yS;rw[bZ (by omega),d,acn (by omega),show((2^g.2.length:Nat):Int) - 1=((2^g.2.length - 1:Nat):Int) by omega];congr 1;exact if_pos ⟨by omega,by omega⟩
theorem oL.lt {g:GR} {s:Nat} {d:aO} (h:oL g s d) {v:Nat} (p:v<g.2.length):D d v<(g.2.length:Int):=by
 apply Classical.byContradiction;intro t;have all:∀m:Nat,(m:Int)<=D d v->∃w,w<g.2.length∧D d w=D d v - m:=by
  intro m
  induction m with
  |zero=>intro _;exact⟨v,p,by omega⟩
  |succ m q=>
   intro x;obtain⟨w,e,c⟩:=q (by omega);obtain⟨u,n,_,o⟩:=h.near w e (by omega);exact⟨u,n,by omega⟩
 have b:∀i:Nat,i<g.2.length+1->∃w,w<g.2.length∧D d w=(i:Int):=by
  intro i a;obtain⟨w,e,c⟩:=all (D d v - i).toNat (by omega);exact⟨w,e,by omega⟩
 have:=Kw g.2.length (λi=>if a:i<g.2.length+1 then Classical.choose (b i a)else 0) (g.2.length+1) (λi a=>by
  rw[dif_pos a];exact(Classical.choose_spec (b i a)).1) (λi j l f c=>by
  rw[dif_pos (by omega),dif_pos f]at c;have k:=(Classical.choose_spec (b i (by omega))).2;have r:=(Classical.choose_spec (b j f)).2;rw[c]at k;omega)
 omega
def T (e:aO) (k v w:Nat):Int:=if 0<=D e w∧(D e w<k∨(D e w=k∧w<v))then D e w else -1
theorem VJ {g:GR} (G:VG g) {s:Nat} {e:aO} (V:oL g s e) {k v:Nat} (af:1<=k) (hk:k<g.2.length) (q:v<g.2.length) (C:aO) (J:kU->Option aO) (r:aO)
  (B:C.length=g.2.length) (W:∀w,w<g.2.length->D C w=T e k v w)
  (K:∀d:aO,d.length=g.2.length->(∀w,w<g.2.length->D d w=T e k (v+1) w)->J ((v:Int)+1,d)=some r):
  bL (vC g ((k:Int),C) ((v:Int),C) J) 1000 ((0:Int),C)=some r:=by
 have X:=(G.node v q).deg;have ab:=G.n24;refine Ac (λz:kU=>∃i:Nat,z.1=i∧i<=(row g v).length∧z.2.length=g.2.length∧(∀w,w<g.2.length->w≠v->D z.2 w=T e k v w)∧((D z.2 v=T e k v v∧(D z.2 v<0->∀j,j<i->∀u:Nat,(fK (row g v) j).1=u->D e u≠(k:Int) - 1))∨(D z.2 v=k∧D e v=k))) (λz=>31 - z.1.toNat) ?_ 1000 _ ⟨0,rfl,by omega,B,λw t _=>W w t,.inl ⟨W v q,λ_ j hj=>by omega⟩⟩ (by simp);rintro⟨z,d⟩ aa ⟨i,hz,hi,B,t,H⟩ o;dsimp only at hz B t H;subst hz;have tv:T e k v v=D e v∨T e k v v = -1:=by unfold T;split<;>simp
 have E:(0<=D d v∨i=(row g v).length)->J (wI .i64 ((v:Int)+1),d)=some r:=by
  intro hx;rw[wr (by omega) (by omega)];refine K d B λw y=> ?_;by_cases l:w=v
  ·subst l;rcases H with⟨A,F⟩|⟨A,F⟩
   ·rw[A];unfold T at A ⊢;by_cases a:0<=D e w∧(D e w<k∨(D e w=k∧w<w))
    ·rw[if_pos a,if_pos (by omega)]
    ·rw[if_neg a]at A ⊢;rw[if_neg];intro b;have ac:D e w=k:=by omega
     obtain⟨u,R,⟨j,hj,O⟩,I⟩:=V.near w q (by omega);have ae:i=(row g w).length:=by omega
     exact F (by omega) j (by omega) u O (by omega)
   ·rw[A];unfold T;rw[if_pos (by omega)];omega
  ·rw[t w y l];unfold T;by_cases a:0<=D e w∧(D e w<k∨(D e w=k∧w<v))
   ·rw[if_pos a,if_pos (by omega)]
   ·rw[if_neg a,if_neg (by omega)]
 unfold vC u_ AF vA;dsimp only;rw[bZ (by omega)];by_cases M:i<(row g v).length
 rotate_left
 ·rw[if_neg (show¬(i:Int)<((row g v).length:Int) by omega),if_neg (by simp)];exact E (.inr (by omega))
 obtain⟨u,R,I,n⟩:=G.port q M;rw[if_pos (show(i:Int)<((row g v).length:Int) by omega),bZ (by omega)];by_cases f:at' d (v:Int)<0
 rotate_left
 ·rw[if_neg (by rw[decide_eq_false f];simp)];exact E (.inl (by show 0<=at' d (v:Int);omega))
 have S:u≠v:=by rintro rfl;exact Rf G q n
 rw[if_pos (decide_eq_true f),bZ (by omega),bZ (show 0<=(i:Int)∧(i:Int)<((row g v).length:Int) by omega),show at' (at' g.2 (v:Int)) (i:Int)=fK (row g v) i from rfl,I,bZ (by omega),wr (x:=(k:Int) - 1) (by omega) (by omega),wr (x:=(i:Int)+1) (by omega) (by omega)];have P:D d v<0:=f;have p:D d v=T e k v v∧(D d v<0->∀j,j<i->∀u:Nat,(fK (row g v) j).1=u->D e u≠(k:Int) - 1):=by
  rcases H with H|⟨h,_⟩
  ·exact H
  ·omega
 have c:=t u R S;have Q:=V.next u R;by_cases m:at' d (u:Int)=(k:Int) - 1
 ·have Y:D d u=(k:Int) - 1:=m;rw[if_pos m,bZ (by omega)];have ad:D e u=(k:Int) - 1:=by
   unfold T at c;by_cases a:0<=D e u∧(D e u<k∨(D e u=k∧u<v))
   ·rw[if_pos a]at c;omega
   ·rw[if_neg a]at c;omega
  have L:D e v=k:=by
   have A:=Q (by omega) v q (G.back q n);have F:=p.1;unfold T at F;by_cases a:0<=D e v∧(D e v<k∨(D e v=k∧v<v))
   ·rw[if_pos a]at F;omega
   ·omega
  refine o _ ⟨i+1,by simp,by omega,by simp[B],λw y l=> ?_,.inr ⟨?_,L⟩⟩ (by dsimp only;omega)
  ·show at' (d.set (Int.toNat (v:Int)) (k:Int)) (w:Int)=_;rw[Int.toNat_natCast,tE _ _ _ _ (by omega),if_neg l];exact t w y l
  ·show at' (d.set (Int.toNat (v:Int)) (k:Int)) (v:Int)=_;rw[Int.toNat_natCast,tE _ _ _ _ (by omega),if_pos Z]
 ·rw[if_neg m];refine o _ ⟨i+1,by simp,by omega,B,t,.inl ⟨p.1,λhn j hj w U he=> ?_⟩⟩ (by dsimp only;omega);by_cases N:j=i
  ·subst N;have:w=u:=by omega
   subst this;unfold T at c;rw[if_pos (by omega)]at c;exact m (by show D d w=_;omega)
  ·exact p.2 hn j (by omega) w U he
theorem Pn {d e:aO} (c:d.length=e.length) (h:∀v,v<d.length->D d v=D e v):d=e:=by
 apply List.ext_getElem c;intro i a b;rw[<-Ev a,<-Ev b];exact h i a
theorem zK {g:GR} (r:VG g) {s:Nat} (L:s<g.2.length) {e:aO} (m:oL g s e):wP 1000 g (s:Int)=some e:=by
 have F:=r.n24;unfold wP uZ;rw[(PN g r.light).1 r,bG Z,if_neg (by simp),yU,wr (by omega) (by omega),decide_eq_true (by omega),bG Z,if_neg (by simp)];refine Ac (λz:List Int×Int=>∃k:Nat,z.2=k∧k<=g.2.length∧z.1=List.replicate k (-1)) (λz=>31 - z.2.toNat) ?_ 1000 _ ⟨0,rfl,by omega,rfl⟩ (by simp);rintro⟨l,z⟩ J ⟨k,b,G,p⟩ x;dsimp only at b p;subst b p;unfold AJ;dsimp only;by_cases H:k<g.2.length
 ·rw[if_pos (by omega),bZ (by simp only[List.length_replicate,List.length_singleton];omega),wr (by omega) (by omega)];exact x _ ⟨k+1,by simp,by omega,by dsimp only;rw[List.replicate_succ']⟩ (by dsimp only;omega)
 rw[if_neg (by omega)];have i:k=g.2.length:=by omega
 subst i;unfold AC;rw[bZ (by simp only[List.length_replicate];omega),Int.toNat_natCast];have y:∀w,w<g.2.length->D ((List.replicate g.2.length (-1:Int)).set s 0) w=T e 1 0 w:=by
  intro w t;have q:=tE (List.replicate g.2.length (-1:Int)) s w 0 (by simp only[List.length_replicate];omega);have b:=m.zero w t;show at' _ _=_;rw[q];by_cases c:w=s
  ·have:=b.2 c;rw[if_pos c];unfold T;rw[if_pos (by omega)];omega
  ·have:D e w≠0:=λh=>c (b.1 h);rw[if_neg c,fP,List.getD_eq_getElem?_getD,List.getElem?_replicate,if_pos t];unfold T;rw[if_neg (by omega)];rfl
 refine Ac (λz:kU=>∃k:Nat,z.1=k∧1<=k∧(k<=g.2.length)∧z.2.length=g.2.length∧∀w,w<g.2.length->D z.2 w=T e k 0 w) (λz=>31 - z.1.toNat) ?_ 1000 _ ⟨1,rfl,by omega,by omega,by simp,y⟩ (by simp);rintro⟨z,d⟩ E ⟨k,b,A,G,j,f⟩ n;dsimp only at b j f;subst b;unfold AH AD;dsimp only;by_cases i:k<g.2.length
 rotate_left
 ·rw[if_neg (by omega)];congr 1;refine Pn (j.trans m.len.symm) λv I=> ?_;have q:=m.lt (v:=v) (by omega);have C:=m.lo v (by omega);rw[f v (by omega)];unfold T;by_cases a:0<=D e v
  ·rw[if_pos (by omega)]
  ·rw[if_neg (by omega)];omega
 rw[if_pos (by omega)];refine Ac (λz:kU=>∃v:Nat,z.1=v∧v<=g.2.length∧z.2.length=g.2.length∧∀w,w<g.2.length->D z.2 w=T e k v w) (λz=>31 - z.1.toNat) ?_ 1000 _ ⟨0,rfl,by omega,j,f⟩ (by simp);rintro⟨z,d⟩ u ⟨v,b,I,j,f⟩ o;dsimp only at b j f;subst b;unfold AI AE;dsimp only;by_cases B:v<g.2.length
 ·rw[if_pos (by omega)];exact VJ r m A i B d u e j f λK q C=>o _ ⟨v+1,by simp,by omega,q,C⟩ (by dsimp only;omega)
 ·rw[if_neg (by omega),wr (by omega) (by omega)];refine n _ ⟨k+1,by simp,by omega,by omega,j,λw t=> ?_⟩ (by dsimp only;omega);rw[f w t];unfold T;by_cases a:0<=D e w∧(D e w<k∨(D e w=k∧w<v))
  ·rw[if_pos a,if_pos (by omega)]
  ·rw[if_neg a,if_neg (by omega)]
theorem Ky (d:aO) (h:d.length<=30):OK (λr:Int=>(¬(∀v,v<d.length->0<=D d v)->r = -1)∧((∀v,v<d.length->0<=D d v) -> -1<=r∧(∀v,v<d.length->D d v<=r)∧(r = -1∨∃v,v<d.length∧D d v=r))) (xS 1000 d):=by
 unfold xS;refine wG (λz:fF=>∃k:Nat,z.2=k∧k<=d.length ∧ -1<=z.1∧(∀v,v<k->0<=D d v∧D d v<=z.1)∧(z.1 = -1∨∃v,v<k∧D d v=z.1)) (λz=>31 - z.2.toNat) ?_ 1000 _ ⟨0,rfl,by omega,by omega,λv c=>by omega,.inl Z⟩ (by simp);rintro⟨m,z⟩ p ⟨k,n,q,j,e,b⟩ f;dsimp only at n j e b;subst n;unfold Bp Bo;dsimp only;by_cases g:k<d.length
 ·rw[if_pos (by omega),bZ (by omega)];by_cases a:at' d (k:Int)<0
  ·rw[if_pos a];exact⟨-1,rfl,λ_=>rfl,λh=>absurd (h k g) (by show¬0<=at' d (k:Int);omega)⟩
  rw[if_neg a,bZ (by omega),wr (by omega) (by omega)];have o:0<=D d k:=by show 0<=at' d (k:Int);omega
  refine f _ ⟨k+1,by simp,by omega,by dsimp only;omega,λv c=> ?_,?_⟩ (by dsimp only;omega)
  ·by_cases i:v=k
   ·subst i;show 0<=D d v∧D d v<=max m (D d v);omega
   ·have:=e v (by omega);show 0<=D d v∧D d v<=max m (D d k);omega
  ·by_cases s:m<=D d k
   ·exact .inr ⟨k,by omega,by show D d k=max m (D d k);omega⟩
   ·rcases b with b|⟨v,c,l⟩
    ·left;show max m (D d k) = -1;omega
    ·exact .inr ⟨v,by omega,by show D d v=max m (D d k);omega⟩
 ·rw[if_neg (by omega)];refine⟨m,rfl,λh=>absurd (λv c=>(e v (by omega)).1) h,λ_=>⟨j,λv c=>(e v (by omega)).2,?_⟩⟩
  rcases b with b|⟨v,c,l⟩
  ·exact .inl b
  ·exact .inr ⟨v,by omega,l⟩
theorem Gp {g:GR} (b:VG g) {s:Nat} (i:s<g.2.length) {d:aO} (a:oL g s d):(∀v,v<d.length->0<=D d v)↔Hi g:=by
 have c:=a.len;constructor
 ·intro h u v j e;exact⟨_,xK.trans (Gj b (oL.pos b a j (h u (by omega)))) (oL.pos b a e (h v (by omega)))⟩
 ·intro h v e;obtain⟨k,f⟩:=h s v i (by omega);exact(oL.le b a f).1
theorem Mb {g:GR} (b:VG g) {s:Nat} (c:s<g.2.length):OK (λr:Int=>(Hi g->Ecc g s r)∧(¬Hi g->r = -1)) (nZ 1000 g (s:Int)):=by
 obtain⟨d,o,a⟩:=EL b c;have k:=a.len;have n:=b.n24;unfold nZ;obtain⟨r,q,l,m⟩:=Ky d (by omega);rw[zK b c a,bG Z,q];have j:=Gp b c a;refine⟨r,rfl,λe=> ?_,λe=>l λh=>e (j.1 h)⟩
 obtain⟨u,f,i⟩:=m (j.2 e);have w:=f s (by omega);have:=(a.zero s c).2 Z;refine⟨d,o,a,λv t=>f v (by omega),?_⟩
 rcases i with i|⟨v,t,p⟩
 ·omega
 ·exact⟨v,by omega,p⟩
theorem Ye {X R:Type} {step:X->(X->Option R)->Option R} {K:X->Option R} {bad:R} (N:Nat) (p:Nat->Prop) (I:Nat->X->Prop) (B:Nat)
  (t:∀(k:Nat) x q,k<N->k<B->I k x->p k->∃c,I (k+1) c∧step x q=q c) (l:∀(k:Nat) x q,k<N->k<B->I k x->¬p k->step x q=some bad) (s:∀x q,I N x->N<B->step x q=K x):
  ∀(b:Nat) (x:X),I 0 x->B<=b->(N<B∨∃k,k<N∧k<B∧¬p k)->((∀k,k<N->p k)->∃c,I N c∧bL step b x=K c)∧(¬(∀k,k<N->p k)->bL step b x=some bad):=by
 intro b x e v hB;have r:∀(d a b:Nat) (x:X),I a x->a+d<N->a+d<B->¬p (a+d)->d<b->bL step b x=some bad:=by
  intro d
  induction d with
  |zero=>
   intro a b x e j g i v;obtain⟨f,rfl⟩:∃f,b=f+1:=⟨b - 1,by omega⟩
   exact l a x _ j g e i
  | succ d y =>
   intro a b x e j g i v;obtain⟨f,rfl⟩:∃f,b=f+1:=⟨b - 1,by omega⟩
   by_cases u:p a
   ·obtain⟨c,n,o⟩:=t a x (bL step f) (by omega) (by omega) e u;have o:bL step (f+1) x=bL step f c:=o;rw[o];exact y (a+1) f c n (by omega) (by omega) (by rw[show a+1+d=a+(d+1) by omega];exact i) (by omega)
   ·exact l a x _ (by omega) (by omega) e u
 have m:∀(d a b:Nat) (x:X),I a x->a+d=N->N<B->(∀k,a<=k->k<N->p k)->d<b->∃c,I N c∧bL step b x=K c:=by
  intro d
  induction d with
  |zero=>
   intro a b x e j g i v;obtain⟨f,rfl⟩:∃f,b=f+1:=⟨b - 1,by omega⟩
   obtain rfl:a=N:=by omega
   exact⟨x,e,s x _ e g⟩
  |succ d y=>
   intro a b x e j g i v;obtain⟨f,rfl⟩:∃f,b=f+1:=⟨b - 1,by omega⟩
   obtain⟨c,n,o⟩:=t a x (bL step f) (by omega) (by omega) e (i a (Nat.le_refl _) (by omega));have o:bL step (f+1) x=bL step f c:=o;rw[o];exact y (a+1) f c n (by omega) g (λk j g=>i k (by omega) g) (by omega)
 constructor
 ·intro h;rcases hB with hB|⟨k,j,_,g⟩
  ·exact m N 0 b x e (by omega) hB (λk _ w=>h k w) (by omega)
  ·exact absurd (h k j) g
 ·intro h;have:∃k,k<N∧k<B∧¬p k:=by
   rcases hB with hB|hB
   ·apply Classical.byContradiction;intro A;exact h λk w=>Classical.byContradiction λi=>A ⟨k,w,by omega,i⟩
   ·exact hB
  obtain⟨k,j,g,z⟩:=this;exact r k 0 b x e (by omega) (by omega) (by rw[Nat.zero_add];exact z) (by omega)
theorem VK {a:fO} (q:a.length<=30) {v:Nat} (r:v<a.length):(at' a (v:Int)).length<1000∨∃k,k<(at' a (v:Int)).length∧k<1000∧¬Hm (at' a (v:Int)) v a.length k:=by
 by_cases h:(at' a (v:Int)).length<1000
 ·exact .inl h
 ·right;apply Classical.byContradiction;intro f;have b:∀k,k<40->Hm (at' a (v:Int)) v a.length k:=λk p=>Classical.byContradiction λl=>f ⟨k,by omega,by omega,l⟩;have:=Kw a.length (λi=>(fK (at' a (v:Int)) i).1.toNat) 40 (λi g=>by have:=(b i g).1;omega) (λi j c d o=>by
   have m:=(b i (by omega)).1;have n:=(b j d).1;have e:=(b j d).2.2.2 i c;exact e (by omega))
  omega
theorem Fi (c:fO) (hn:c.length<=30):(Lu c->gH 1000 c=some true)∧(¬Lu c->gH 1000 c=some false):=by
 unfold gH;have s:∀(v:Nat) (m:List ((Int×Int)×Int)) p,v<c.length->(∀z,z∈m↔Oq c v 0 z)->
   (pX (at' c (v:Int)) v c.length->∃Y,(∀z,z∈Y↔Oq c (v+1) 0 z)∧bL (cH c ((v:Int),m) p) 1000 ((0:Int),m)=p ((v:Int)+1,Y))∧
   (¬pX (at' c (v:Int)) v c.length->bL (cH c ((v:Int),m) p) 1000 ((0:Int),m)=some false):=by
  intro v m p F hm;have L:=VK hn F;have S:=Ye (step:=cH c ((v:Int),m) p) (K:=λx=>p ((v:Int)+1,x.2)) (bad:=false) (at' c (v:Int)).length (Hm (at' c (v:Int)) v c.length) (λi x=>x.1=(i:Int)∧∀z,z∈x.2↔Oq c v i z) 1000 ?_ ?_ ?_ 1000 ((0:Int),m) ⟨rfl,hm⟩ (by omega) L
  ·refine⟨λh=> ?_,λh=>S.2 h⟩
   obtain⟨x,⟨ah,ae⟩,f⟩:=S.1 h;refine⟨x.2,λz=>(ae z).trans ⟨?_,?_⟩,f⟩
   ·rintro⟨a,b,y,e,l⟩;exact⟨a,b,by omega,e,l⟩
   ·rintro⟨a,b,y,e,l⟩;refine⟨a,b,?_,e,l⟩
    by_cases X:a=v
    ·subst X;exact .inr ⟨rfl,e⟩
    ·omega
  ·rintro i ⟨H,g⟩ I N ac ⟨f,d⟩ ⟨p1,p2,p3,p4⟩;dsimp only at f d;subst f;have q:mA (((v:Int),(fK (at' c (v:Int)) i).1)) g=none:=by
    apply HE;intro w hw;obtain⟨a,b,y,e,l⟩:=(d _).1 hw;simp only[Prod.mk.injEq]at l;obtain⟨⟨C,A⟩,_⟩:=l;have:a=v:=by omega
    subst this;have hb:b<i:=by omega
    exact p4 b hb A.symm
   refine⟨((i:Int)+1,CJ (((v:Int),(fK (at' c (v:Int)) i).1)) (fK (at' c (v:Int)) i).2 g),⟨by simp,λz=> ?_⟩,?_⟩
   ·dsimp only;rw[Pq q,d];constructor
    ·rintro(rfl|⟨a,b,y,e,l⟩)
     ·exact⟨v,i,.inr ⟨rfl,by omega⟩,N,rfl⟩
     ·exact⟨a,b,by omega,e,l⟩
    ·rintro⟨a,b,y,e,l⟩;by_cases J:a=v∧b=i
     ·left;rw[l,J.1,J.2]
     ·right;exact⟨a,b,by omega,e,l⟩
   ·replace p1:0<=(at' (at' c (v:Int)) (i:Int)).1∧(at' (at' c (v:Int)) (i:Int)).1<=(c.length:Int) - 1:=p1;replace p3:1<=(at' (at' c (v:Int)) (i:Int)).2∧(at' (at' c (v:Int)) (i:Int)).2<=15:=p3;unfold cH gT iW;dsimp only;rw[if_pos (by omega),bZ (by omega),if_neg (by omega),if_neg (by omega),if_neg (by rw[decide_eq_false p2];simp),if_neg (by omega),if_neg (by rw[decide_eq_false (by omega)];simp),q,if_neg (by simp),wr (by omega) (by omega)]
  ·rintro i ⟨H,g⟩ I N ac ⟨f,d⟩ Q;dsimp only at f d;subst f;unfold cH gT iW;dsimp only;rw[if_pos (by omega),bZ (by omega)];by_cases y:(fK (at' c (v:Int)) i).1<0
   ·rw[if_pos y,if_pos Z]
   rw[if_neg y];by_cases e:(c.length:Int)<=(fK (at' c (v:Int)) i).1
   ·rw[if_pos e,if_pos Z]
   rw[if_neg e];by_cases l:(fK (at' c (v:Int)) i).1=v
   ·rw[if_pos (decide_eq_true l)]
   rw[if_neg (by rw[decide_eq_false l];simp)];by_cases C:(fK (at' c (v:Int)) i).2<1
   ·rw[if_pos C,if_pos Z]
   rw[if_neg C];by_cases A:15<(fK (at' c (v:Int)) i).2
   ·rw[if_pos (decide_eq_true A)]
   rw[if_neg (by rw[decide_eq_false A];simp)];have:∃k,k<i∧(fK (at' c (v:Int)) k).1=(fK (at' c (v:Int)) i).1:=by
    apply Classical.byContradiction;intro hc;exact Q ⟨by omega,l,by omega,λk O M=>hc ⟨k,O,M⟩⟩
   obtain⟨k,O,M⟩:=this;have n:=(d _).2 ⟨v,k,.inr ⟨rfl,O⟩,by omega,rfl⟩;rw[if_pos];rw[<-M];cases q:mA (((v:Int),(fK (at' c (v:Int)) k).1)) g with
   |some w=>rfl
   | none => exact absurd n (by
     intro n;exact tQ q n)
  ·rintro⟨H,g⟩ I ⟨f,d⟩ _;dsimp only at f d;subst f;unfold cH mJ;dsimp only;rw[if_neg (by omega),wr (by omega) (by omega)]
 have t:=Gv (step:=cS 1000 c) (K:=λx=>iV x.2) (bad:=false) c.length (λv=>pX (at' c (v:Int)) v c.length) (λv x=>x.1=(v:Int)∧∀z,z∈x.2↔Oq c v 0 z) ?_ ?_ ?_ 1000 ((0:Int),[]) ⟨rfl,λz=>⟨λh=>(by cases h),fun⟨a,b,y,_⟩=>(by omega)⟩⟩ (by omega)
 rotate_left
 ·rintro v ⟨H,g⟩ p F ⟨f,d⟩ Q;dsimp only at f d;subst f;obtain⟨Y,y,e⟩:=(s v g p F d).1 Q;refine⟨((v:Int)+1,Y),⟨by simp,y⟩,?_⟩
  ·unfold cS;dsimp only;rw[if_pos (by omega),bZ (by omega)];exact e
 ·rintro v ⟨H,g⟩ p F ⟨f,d⟩ Q;dsimp only at f d;subst f;unfold cS;dsimp only;rw[if_pos (by omega),bZ (by omega)];exact(s v g p F d).2 Q
 ·rintro⟨H,g⟩ p ⟨f,d⟩;dsimp only at f d;subst f;unfold cS;dsimp only;rw[if_neg (by omega)]
 by_cases D:∀v,v<c.length->pX (at' c (v:Int)) v c.length
 rotate_left
 ·exact⟨λh=>absurd h.1 D,λ_=>t.2 D⟩
 obtain⟨⟨H,g⟩,⟨f,d⟩,M⟩:=t.1 D;rw[M];dsimp only at d ⊢;have O:iV g=some (decide (∀z∈g,¬(Option.getD (mA (z.1.2,z.1.1) g) (0:Int))≠z.2)):=Kp (λz:(Int×Int)×Int=>(Option.getD (mA (z.1.2,z.1.1) g) (0:Int))≠z.2) g;rw[O];have E:(∀z∈g,¬(Option.getD (mA (z.1.2,z.1.1) g) (0:Int))≠z.2)↔∀v,v<c.length->∀i,i<(at' c (v:Int)).length->Dd ([],c) v i:=by
  constructor
  ·intro h v F i N;have hw:=(D v F i N).2.2.1;have n:=(d (((v:Int),(fK (at' c (v:Int)) i).1),(fK (at' c (v:Int)) i).2)).2 ⟨v,i,.inl F,N,rfl⟩;have e:=Decidable.not_not.1 (h _ n);dsimp only at e;cases q:mA ((fK (at' c (v:Int)) i).1,(v:Int)) g with
   |none=>rw[q]at e;simp only[Option.getD]at e;omega
   | some w =>
    rw[q]at e;simp only[Option.getD]at e;obtain⟨a,b,l,C,A⟩:=(d _).1 (BZ q);simp only[Prod.mk.injEq]at A;obtain⟨⟨U,V⟩,h8⟩:=A;refine⟨b,?_,?_,?_⟩
    ·show b<(at' c (fK (at' c (v:Int)) i).1).length;rw[U];exact C
    ·show(fK (at' c (fK (at' c (v:Int)) i).1) b).1=v;rw[U];exact V.symm
    ·show(fK (at' c (fK (at' c (v:Int)) i).1) b).2=(fK (at' c (v:Int)) i).2;rw[U,<-h8];exact e
  ·intro h z hz ad;obtain⟨a,b,l,C,rfl⟩:=(d z).1 hz;have X:a<c.length:=by omega
   apply ad;obtain⟨j,r,o,B⟩:=h a X b C;have hu:=(D a X b C).1;obtain⟨u,R⟩:∃u:Nat,(fK (at' c (a:Int)) b).1=u:=⟨(fK (at' c (a:Int)) b).1.toNat,by omega⟩
   replace r:j<(at' c (fK (at' c (a:Int)) b).1).length:=r;replace o:(fK (at' c (fK (at' c (a:Int)) b).1) j).1=a:=o;replace B:(fK (at' c (fK (at' c (a:Int)) b).1) j).2=(fK (at' c (a:Int)) b).2:=B;rw[R]at r o B;have G:u<c.length:=by omega
   dsimp only;rw[R,<-B];have n:=(d (((u:Int),(fK (at' c (u:Int)) j).1),(fK (at' c (u:Int)) j).2)).2 ⟨u,j,.inl G,r,rfl⟩;rw[o]at n;cases q:mA ((u:Int),(a:Int)) g with
   |none=>exact absurd n (tQ q)
   | some w =>
    obtain⟨a',T,af,aa,A⟩:=(d _).1 (BZ q);simp only[Prod.mk.injEq]at A;obtain⟨⟨U,V⟩,h8⟩:=A;have:a'=u:=by omega
    subst this;have ab:T=j:=by
     rcases Nat.lt_trichotomy T j with P|P|P
     ·exact absurd (V.symm.trans o.symm) ((D a' G j r).2.2.2 T P)
     ·exact P
     ·exact absurd (o.trans V) ((D a' G T aa).2.2.2 j P)
    subst ab;exact h8
 by_cases W:∀v,v<c.length->∀i,i<(at' c (v:Int)).length->Dd ([],c) v i
 ·rw[decide_eq_true (E.2 W)];exact⟨λ_=>rfl,λh=>absurd ⟨D,W⟩ h⟩
 ·rw[decide_eq_false (λh=>W (E.1 h))];exact⟨λh=>absurd h.2 W,λ_=>rfl⟩
theorem VT (g:GR):(VG g->gX 1000 g=some true)∧(¬VG g->gX 1000 g=some false):=by
 unfold gX pO pP;by_cases e:g.1.length<1
 ·rw[if_pos (by omega)];exact⟨λh=>by have:=h.n1;have:=h.len;omega,λ_=>rfl⟩
 rw[if_neg (by omega)];by_cases f:24<g.1.length
 ·rw[if_pos (by omega)];exact⟨λh=>by have:=h.n24;have:=h.len;omega,λ_=>rfl⟩
 rw[if_neg (by omega)];by_cases d:g.1.length=g.2.length
 rotate_left
 ·rw[decide_eq_true (by omega)];exact⟨λh=>absurd h.len d,λ_=>rfl⟩
 rw[decide_eq_false (by omega),if_neg (by simp)];by_cases b:∀k,k<g.1.length->Wg g.1 k
 rotate_left
 ·rw[(uA g.1 (by omega)).2 b,bG Z];exact⟨λh=>absurd (λk i=>⟨(h.node k (by omega)).id,(h.node k (by omega)).ids⟩) b,λ_=>rfl⟩
 rw[(uA g.1 (by omega)).1 b,bG Z,if_pos Z];by_cases a:Lu g.2
 ·rw[(Fi g.2 (by omega)).1 a];exact⟨λ_=>rfl,λh=>absurd ⟨by omega,by omega,d,λv c=>⟨(b v (by omega)).1,Rv c (a.1 v c),a.1 v c,(b v (by omega)).2⟩,a.2⟩ h⟩
 ·rw[(Fi g.2 (by omega)).2 a];exact⟨λh=>absurd ⟨λv c=>(h.node v c).links,h.sym⟩ a,λ_=>rfl⟩
abbrev Oj:=Dt
theorem vT (v m:Int) (g:1<=m) (h:m<=4611686018427387904):gW 1000 v m=some (v%m):=by
 unfold gW qS;rw[if_neg (by omega),bZ (by omega)];have c:=Int.tmod_eq_emod (a:=v) (b:=m);have f:=Int.emod_nonneg v (show m≠0 by omega);have i:=Int.emod_lt_of_pos v (show 0<m by omega);by_cases e:0<=v∨m∣v
 ·rw[if_pos e]at c;have d:v.tmod m=v%m:=by simpa using c
  rw[d,if_neg (by omega)]
 ·rw[if_neg e]at c;have:(m.natAbs:Int)=m:=by omega
  rw[c,if_pos (by omega),wr (by omega) (by omega)];congr 1;omega
theorem OH (l:aO) (i:Int) (h:0<=i):rY 1000 l i=some (at' l i):=by
 unfold rY;by_cases a:i<(l.length:Int)
 ·rw[if_pos a,bZ ⟨h,a⟩]
 ·rw[if_neg a];unfold at';rw[List.getD_eq_getElem?_getD,List.getElem?_eq_none (by omega)];rfl

theorem Px {i:Type} [DecidableEq i]:∀(e c:List i),e.Nodup->(∀x∈e,x∈c)->e.length<=c.length
 | [],_,_,_=>Nat.zero_le _
 | a :: t, c, hn, hs => by
  have b:=List.nodup_cons.1 hn;have f:=hs a (List.mem_cons_self ..);have:=Px t (c.erase a) b.2 λx h=>by
   have d:x≠a:=λj=>b.1 (j▸h);exact(List.mem_erase_of_ne d).2 (hs x (List.mem_cons_of_mem _ h))
  rw[List.length_erase_of_mem f]at this;have g:0<c.length:=List.length_pos_of_mem f;simp only[List.length_cons];omega
theorem Zh (d:Int) (c:aO) (t:Nat) (k:t<=200) (h:∀s,s<t->(d+(s:Int))%256∈c):t<=c.length:=by
 have:=Px ((List.range t).map λs:Nat=>(d+(s:Int))%256) c (by
  rw[List.nodup_iff_pairwise_ne,List.pairwise_map];refine List.Pairwise.imp_of_mem ?_ List.pairwise_lt_range;intro a b e g f;rw[List.mem_range]at e g;omega) (λx j=>by
  obtain⟨s,i,rfl⟩:=List.mem_map.1 j;exact h s (List.mem_range.1 i))
 simpa using this

structure Jk (ids:aO):Prop where
 rng:∀y∈ids,0<=y∧y<=255
 nd:ids.Nodup
theorem Jk.snoc {c:aO} {y:Int} (h:Jk c) (j:0<=y∧y<=255) (i:y∉c):Jk (c++[y]):=by
 refine⟨λz d=> ?_,?_⟩
 ·rcases List.mem_append.1 d with d|d
  ·exact h.rng z d
  ·rw[List.mem_singleton.1 d];exact j
 ·rw[List.nodup_append];refine⟨h.nd,by simp,?_⟩
  intro a e b f;rw[List.mem_singleton.1 f];exact λg=>i (g▸e)
theorem BY {a:Type} [Inhabited a] {l:List a} {i:Nat} (h:i<l.length):at' l (i:Int)∈l:=by
 rw[fP,List.getD_eq_getElem?_getD,List.getElem?_eq_getElem h];exact List.getElem_mem h
theorem EA {a:Type} [Inhabited a] {l:List a} {x:a} (h:x∈l):∃i,i<l.length∧at' l ((i:Nat):Int)=x:=by
 obtain⟨i,b,c⟩:=List.getElem_of_mem h;refine⟨i,b,?_⟩
 rw[fP,List.getD_eq_getElem?_getD,List.getElem?_eq_getElem b];exact c
theorem XO {Q:List Int×fO->Prop} {a:aO} (H:a.length<=24) (b:Int) (r:kU->Option (List Int×fO))
  (m:∀y,0<=y->y<=255->y∉a->OK Q (r ((a.length:Int)+1,a++[y]))):OK Q (bL (kZ ((a.length:Int),a) r) 1000 (b%256,0)):=by
 refine wG (λs:fF=>∃(t u:Nat),s.1=(b+(t:Int))%256∧s.2=u∧u<=a.length∧t<=a.length∧(∀k,k<t->(b+(k:Int))%256∈a)∧∀j,j<u->at' a (j:Int)≠s.1)
  (λs=>(a.length - ((s.1 - b)%256).toNat)*30+(a.length - s.2.toNat)) ?_ 1000 _ ⟨0,0,by simp,rfl,by omega,by omega,λk p=>by omega,λj o=>by omega⟩ ?_
 ·rintro⟨i,j⟩ z ⟨t,u,g,v,F,C,w,l⟩ d;dsimp only at g v l;subst v;unfold kZ rM kY;dsimp only;by_cases x:(u:Int)<(a.length:Int)
  ·rw[if_pos x,bZ (by omega)];by_cases f:at' a (u:Int)=i
   ·rw[if_pos f,bZ (by decide)];have n:(b+(t:Int))%256∈a:=by rw[<-g,<-f];exact BY (by omega)
    have c:∀k,k<t+1->(b+(k:Int))%256∈a:=λk p=>by
     rcases Nat.lt_succ_iff_lt_or_eq.1 p with h|h
     ·exact w k h
     ·subst h;exact n
    have E:=Zh b a (t+1) (by omega) c;have G:0<=i∧i<=255:=by omega
    rw[wr (by omega) (by omega),Int.tmod_eq_emod_of_nonneg (by omega),wr (by omega) (by omega)];refine d _ ⟨t+1,0,?_,by simp,by omega,E,c,λj o=>by omega⟩ ?_
    ·dsimp only;omega
    ·dsimp only;have A:((i+1)%256 - b)%256=(t:Int)+1:=by omega
     have B:(i - b)%256=(t:Int):=by omega
     rw[A,B];omega
   ·rw[if_neg f,wr (by omega) (by omega)];refine d _ ⟨t,u+1,g,by dsimp only;omega,by omega,C,w,λj o=> ?_⟩ ?_
    ·rcases Nat.lt_succ_iff_lt_or_eq.1 o with h|h
     ·exact l j h
     ·subst h;exact f
    ·dsimp only;omega
  ·rw[if_neg x];rw[bZ (by simp;omega),wr (by omega) (by omega)];refine m i (by omega) (by omega) λD=> ?_;obtain⟨k,p,q⟩:=EA D;exact l k (by omega) q
 ·dsimp only;have e:(b%256 - b)%256=0:=by omega
  rw[e];omega
theorem Yy (x:Oj) (a:Nat) (u:1<=a) (k:a<=24):OK (λg:GR=>Jk g.1∧g.2=List.replicate g.1.length []∧1<=g.1.length∧g.1.length<=a) (oU 1000 x (a:Int)):=by
 unfold oU;rw[bG (vT _ _ (by omega) (by omega))];generalize f:(wI .i64 (x.1 - 1))%(a:Int)=r;have m:0<=r:=by rw[<-f];exact Int.emod_nonneg _ (by omega)
 have n:r<a:=by rw[<-f];exact Int.emod_lt_of_pos _ (by omega)
 have i:wI .i64 (1+r)=1+r:=wr (by omega) (by omega);rw[i,bZ (by omega)];refine wG (λs:kU=>s.1=(s.2.length:Int)∧(s.2.length:Int)<=1+r∧Jk s.2) (λs=>(1+r - s.1).toNat) ?_ 1000 _ ⟨rfl,by simp;omega,⟨λy o=>by simp at o,List.nodup_nil⟩⟩ (by dsimp only;omega);rintro⟨v,d⟩ j ⟨e,l,c⟩ b;dsimp only at e l c;subst e;unfold jA nS;dsimp only;rw[i];by_cases h:(d.length:Int)<1+r
 ·rw[if_pos h,bG (OH _ _ (by omega)),bG (vT _ _ (by decide) (by decide))];exact XO (by omega) _ j λy p q t=>b _ ⟨by simp,by simp;omega,c.snoc ⟨p,q⟩ t⟩ (by dsimp only;omega)
 ·rw[if_neg h];refine⟨_,rfl,c,?_,by dsimp only;omega,by dsimp only;omega⟩
  dsimp only;congr 1;omega

structure VM (ids:aO) (P:fO):Prop where
 n1:1<=P.length
 n24:P.length<=24
 len:ids.length=P.length
 ok:Jk ids
 nd:∀v:Nat,v<P.length->((at' P (v:Int)).map Prod.fst).Nodup
 lk:∀v:Nat,v<P.length->∀x∈at' P (v:Int),(0<=x.1∧x.1<=(P.length:Int) - 1)∧x.1≠(v:Int)∧(1<=x.2∧x.2<=15)∧((v:Int),x.2)∈at' P x.1
theorem Yz {d:Type} [Inhabited d] {l:List d} (h:l.Nodup) {i j:Nat} (b:i<l.length) (c:j<l.length) (a:i<j):at' l (i:Int)≠at' l (j:Int):=by
 rw[fP,fP,List.getD_eq_getElem?_getD,List.getD_eq_getElem?_getD,List.getElem?_eq_getElem b,List.getElem?_eq_getElem c];exact List.pairwise_iff_getElem.1 (List.nodup_iff_pairwise_ne.1 h) i j b c a
theorem VM.vg {ids:aO} {P:fO} (h:VM ids P):VG (ids,P):=by
 have hlen:=h.len;have links:∀v,v<P.length->pX (row (ids,P) v) v P.length:=by
  intro v hv i hi;have hm:fK (row (ids,P) v) i∈at' P (v:Int):=BY hi;obtain⟨a1,a2,a3,_⟩:=h.lk v hv _ hm;refine⟨a1,a2,a3,λk hk=> ?_⟩
  have hk2:k<(row (ids,P) v).length:=by omega
  have:=List.pairwise_iff_getElem.1 (List.nodup_iff_pairwise_ne.1 (h.nd v hv)) k i (by simpa using hk2) (by simpa using hi) hk;rw[List.getElem_map,List.getElem_map]at this;have e:∀j (hj:j<(row (ids,P) v).length),fK (row (ids,P) v) j=(at' P (v:Int))[j]'hj:=λj hj=>by
   unfold fK;rw[fP,List.getD_eq_getElem?_getD,List.getElem?_eq_getElem hj];rfl
  rw[e k hk2,e i hi];exact this
 refine⟨h.n1,h.n24,h.len,λv hv=>⟨?_,Rv hv (links v hv),links v hv,λk hk=> ?_⟩,λv hv i hi=> ?_⟩
 ·exact h.ok.rng _ (BY (by dsimp only at hv ⊢;omega))
 ·exact Yz h.ok.nd (by dsimp only at hv ⊢;omega) (by dsimp only at hv ⊢;omega) hk
 ·have hm:fK (row (ids,P) v) i∈at' P (v:Int):=BY hi;obtain⟨_,_,_,a4⟩:=h.lk v hv _ hm;obtain⟨j,hj,he⟩:=EA a4;exact⟨j,hj,by unfold fK;rw[he],by unfold fK;rw[he]⟩
theorem VM.start {a:aO} (h:Jk a) (d:1<=a.length) (b:a.length<=24):VM a (List.replicate a.length []):=by
 have e:∀v:Nat,at' (List.replicate a.length ([]:fN)) (v:Int)=[]:=λv=>by
  rw[fP,List.getD_eq_getElem?_getD,List.getElem?_replicate];split<;>rfl
 refine⟨by simpa using d,by simpa using b,by simp,h,λv _=>by rw[e];exact List.nodup_nil,λv _ x c=> ?_⟩
 rw[e]at c;cases c
def mD (P:fO) (v u:Nat):Prop:=∃x∈at' P (v:Int),x.1=(u:Int)
theorem LW (d:aO) (P:fO) (a b:Nat) (u:a<P.length) (w:(at' P (a:Int)).length<=900):(mD P a b->mS 1000 (d,P) a b=some true)∧(¬mD P a b->mS 1000 (d,P) a b=some false):=by
 have c:∀(r:Bool),(r=true->mD P a b)->(r=false->¬mD P a b)->mS 1000 (d,P) a b=some r:=by
  intro r q p;unfold mS;refine Ac (λi:Int=>∃k:Nat,i=k∧k<=(at' P (a:Int)).length∧∀j,j<k->(at' (at' P (a:Int)) ((j:Nat):Int)).1≠(b:Int)) (λi=>(at' P (a:Int)).length - i.toNat) ?_ 1000 0 ⟨0,rfl,by omega,λj m=>by omega⟩ (by omega);rintro i t ⟨k,rfl,v,f⟩ g;unfold zN uT;dsimp only;rw[bZ (by omega)];by_cases o:(k:Int)<((at' P (a:Int)).length:Int)
  ·rw[if_pos o,bZ (by omega),bZ (by omega)];by_cases e:(at' (at' P (a:Int)) (k:Int)).1=(b:Int)
   ·rw[if_pos e];cases r with
    |true=>rfl
    |false=>exact absurd ⟨_,BY (by omega),e⟩ (p Z)
   ·rw[if_neg e,wr (by omega) (by omega)];refine g _ ⟨k+1,by omega,by omega,λj m=> ?_⟩ (by omega);rcases Nat.lt_succ_iff_lt_or_eq.1 m with h|h
    ·exact f j h
    ·subst h;exact e
  ·rw[if_neg o];cases r with
   |false=>rfl
   |true=>
    obtain⟨x,s,e⟩:=q Z;obtain⟨j,m,n⟩:=EA s;exact absurd (by rw[n];exact e) (f j (by omega))
 exact⟨λh=>c true (λ_=>h) (λl=>by cases l),λh=>c false (λl=>by cases l) (λ_=>h)⟩
theorem aaj (P:fO) (a b:Nat) (x y:fN) (e:a<P.length) (f:b<P.length) (v:Nat):at' ((P.set a x).set b y) (v:Int)=if v=b then y else if v=a then x else at' P (v:Int):=by
 rw[fP,fP,List.getD_eq_getElem?_getD,List.getD_eq_getElem?_getD,List.getElem?_set,List.getElem?_set];by_cases h:v=b
 ·subst h;rw[if_pos Z,if_pos Z,if_pos (by simpa using f)];rfl
 ·rw[if_neg (λd=>h d.symm),if_neg h];by_cases c:v=a
  ·subst c;rw[if_pos Z,if_pos Z,if_pos e];rfl
  ·rw[if_neg (λd=>c d.symm),if_neg c]
theorem VM.add {m:aO} {P:fO} (h:VM m P) {a b:Nat} {w:Int} (J:a<P.length) (A:b<P.length) (p:a≠b) (B:¬mD P a b) (D:1<=w∧w<=15)
  {x y:fN} (E:x.Perm (((b:Int),w)::at' P (a:Int))) (F:y.Perm (((a:Int),w)::at' P (b:Int))):
  VM m ((P.set a x).set b y)∧(∀v u,mD P v u->mD ((P.set a x).set b y) v u)∧mD ((P.set a x).set b y) a b:=by
 have r:¬mD P b a:=by
  rintro⟨z,g,i⟩;obtain⟨_,_,_,l⟩:=h.lk b A z g;rw[i]at l;exact B ⟨_,l,rfl⟩
 have C:=aaj P a b x y J A;have k:((P.set a x).set b y).length=P.length:=by simp
 have d:∀(v:Nat) (z:fF),z∈at' ((P.set a x).set b y) (v:Int)↔z∈at' P (v:Int)∨(v=b∧z=((a:Int),w))∨(v=a∧z=((b:Int),w)):=by
  intro v z;rw[C v];by_cases f:v=b
  ·subst f;rw[if_pos Z,F.mem_iff,List.mem_cons];constructor
   ·rintro(c|c)
    ·exact .inr (.inl ⟨rfl,c⟩)
    ·exact .inl c
   ·rintro(c|⟨_,c⟩|⟨e,_⟩)
    ·exact .inr c
    ·exact .inl c
    ·exact absurd e.symm p
  ·rw[if_neg f];by_cases c:v=a
   ·subst c;rw[if_pos Z,E.mem_iff,List.mem_cons];constructor
    ·rintro(e|e)
     ·exact .inr (.inr ⟨rfl,e⟩)
     ·exact .inl e
    ·rintro(e|⟨n,_⟩|⟨_,e⟩)
     ·exact .inr e
     ·exact absurd n f
     ·exact .inl e
   ·rw[if_neg c];exact⟨.inl,λe=>e.elim id λn=>n.elim (λo=>absurd o.1 f) λo=>absurd o.1 c⟩
 refine⟨⟨by rw[k];exact h.n1,by rw[k];exact h.n24,by rw[k];exact h.len,h.ok,λv j=> ?_,λv j z g=> ?_⟩,λv u s=> ?_,?_⟩
 ·rw[k]at j;rw[C v];by_cases f:v=b
  ·subst f;rw[if_pos Z,(F.map Prod.fst).nodup_iff,List.map_cons,List.nodup_cons];exact⟨λq=>by obtain⟨z,g,i⟩:=List.mem_map.1 q;exact r ⟨z,g,i⟩,h.nd v j⟩
  ·rw[if_neg f];by_cases c:v=a
   ·subst c;rw[if_pos Z,(E.map Prod.fst).nodup_iff,List.map_cons,List.nodup_cons];exact⟨λq=>by obtain⟨z,g,i⟩:=List.mem_map.1 q;exact B ⟨z,g,i⟩,h.nd v j⟩
   ·rw[if_neg c];exact h.nd v j
 ·rw[k]at j ⊢;rcases(d v z).1 g with f|⟨rfl,rfl⟩|⟨rfl,rfl⟩
  ·obtain⟨G,H,I,t⟩:=h.lk v j z f;refine⟨G,H,I,?_⟩
   obtain⟨u,K⟩:∃u:Nat,z.1=u:=⟨z.1.toNat,by omega⟩
   rw[K]at t ⊢;exact(d u _).2 (.inl t)
  ·exact⟨by dsimp only;omega,by dsimp only;omega,D,(d a _).2 (.inr (.inr ⟨rfl,rfl⟩))⟩
  ·exact⟨by dsimp only;omega,by dsimp only;omega,D,(d b _).2 (.inr (.inl ⟨rfl,rfl⟩))⟩
 ·obtain⟨z,g,i⟩:=s;exact⟨z,(d v z).2 (.inl g),i⟩
 ·exact⟨_,(d a _).2 (.inr (.inr ⟨rfl,rfl⟩)),rfl⟩
theorem TS (x:Oj) {c:aO} {P:fO} (h:VM c P) {a b:Nat} {w:Int} (g:a<P.length) (m:b<P.length) (o:1<=w∧w<=15):
  ∃f,mN 1000 x (c,P) a b w=some f∧VM c f∧f.length=P.length∧(∀v u,mD P v u->mD f v u)∧(a≠b->mD f a b):=by
 have p:=h.n24;have n:∀v:Nat,v<P.length->(at' P (v:Int)).length<24:=λv s=>by
  have:=(h.vg.node v s).deg;have e:(at' P (v:Int)).length=(row (c,P) v).length:=rfl;dsimp only at this;omega
 have t:=n a g;have z:=n b m;unfold mN;by_cases d:a=b
 ·subst d;rw[if_pos Z];exact⟨P,rfl,h,rfl,λ_ _ h=>h,λr=>absurd Z r⟩
 rw[if_neg (by omega)];by_cases i:mD P a b
 ·rw[bG ((LW c P a b g (by omega)).1 i)];exact⟨P,rfl,h,rfl,λ_ _ h=>h,λ_=>i⟩
 rw[bG ((LW c P a b g (by omega)).2 i)];unfold oQ;rw[if_neg (by simp)];dsimp only;cases q:x.2.2.2.2.2 with
 | true =>
  rw[if_pos Z];have e:at' (P.set (Int.toNat (a:Int)) ([((b:Int),w)]++at' P (a:Int))) (b:Int)=at' P (b:Int):=by
   rw[fP,List.getD_eq_getElem?_getD,List.getElem?_set,if_neg (by simpa using d),fP,List.getD_eq_getElem?_getD]
  rw[e];rw[bZ (by omega),bZ (by simp;omega),bZ (by omega),bZ (by simp;omega),bZ (by simp;omega),bZ (by simp;omega)];obtain⟨j,k,l⟩:=h.add g m d i o (List.Perm.refl _) (List.Perm.refl _);exact⟨_,rfl,j,by simp,k,λ_=>l⟩
 |false=>
  rw[if_neg (by simp)];rw[bZ (by omega),bZ (by omega),bZ (by simp;omega),bZ (by simp;omega),bZ (by simpa using d),bZ (by simp;omega),bZ (by simp;omega)];obtain⟨j,k,l⟩:=h.add g m d i o (x:=at' P (a:Int)++[((b:Int),w)]) (y:=at' P (b:Int)++[((a:Int),w)]) List.perm_append_comm List.perm_append_comm;exact⟨_,rfl,j,by simp,k,λ_=>l⟩
theorem My (v:Int):wI .i64 (1+v%15)=1+v%15∧1<=1+v%15∧1+v%15<=15:=by
 have:=Int.emod_nonneg v (show(15:Int)≠0 by decide);have:=Int.emod_lt_of_pos v (show(0:Int)<15 by decide);exact⟨wr (by omega) (by omega),by omega,by omega⟩

theorem abZ (x:Oj) (c:Nat) (F:1<=c) (m:c<=24):
  OK (λg:GR=>VM g.1 g.2∧g.2.length<=c∧∀v:Nat,1<=v->v<g.2.length->∃u:Nat,u<v∧mD g.2 u v) (mM 1000 x (c:Int)):=by
 unfold mM;obtain⟨⟨d,S⟩,D,h,z,e,q⟩:=Yy x c F m;dsimp only at z h e q;rw[bG D];dsimp only;subst z;have r:=VM.start h e (by omega);refine wG (λs:Int×fO=>∃k:Nat,s.1=k∧1<=k∧k<=d.length∧VM d s.2∧s.2.length=d.length∧∀v:Nat,1<=v->v<k->∃u:Nat,u<v∧mD s.2 u v) (λs=>d.length - s.1.toNat) ?_ 1000 _ ⟨1,rfl,by omega,e,r,by simp,λv l f=>by omega⟩ (by dsimp only;omega);rintro⟨i,P⟩ T ⟨k,B,H,I,p,G,o⟩ j;dsimp only at B p G o;subst B;unfold tC oP;dsimp only;by_cases A:(k:Int)<(P.length:Int)
 ·rw[if_pos A,wr (by omega) (by omega),bG (OH _ _ (by omega)),bG (vT _ _ (by omega) (by omega)),bG (OH _ _ (by omega)),bG (vT _ _ (by decide) (by decide))];obtain⟨N,O,Q⟩:=My (at' x.2.2.1 ((k:Int) - 1));rw[N];generalize C:at' x.2.1 ((k:Int) - 1)%(k:Int)=u;have U:0<=u:=by rw[<-C];exact Int.emod_nonneg _ (by omega)
  have V:u<k:=by rw[<-C];exact Int.emod_lt_of_pos _ (by omega)
  obtain⟨u,rfl⟩:∃n:Nat,u=n:=⟨u.toNat,by omega⟩
  obtain⟨R,E,K,W,L,M⟩:=TS x p (a:=u) (b:=k) (by omega) (by omega) ⟨O,Q⟩;rw[bG E,wr (by omega) (by omega)];refine j _ ⟨k+1,by dsimp only;omega,by omega,by omega,K,by dsimp only;omega,λv l f=> ?_⟩ (by dsimp only;omega);by_cases y:v=k
  ·subst y;exact⟨u,by omega,M (by omega)⟩
  ·obtain⟨J,t,w⟩:=o v l (by omega);exact⟨J,t,L _ _ w⟩
 ·rw[if_neg A];exact⟨_,rfl,p,by dsimp only;omega,λv l f=>o v l (by dsimp only at f;omega)⟩
theorem abz (x:Oj) {ids:aO} {P:fO} (h:VM ids P):OK (λg:GR=>VM g.1 g.2∧g.1=ids∧g.2.length=P.length∧∀v u,mD P v u->mD g.2 v u) (mO 1000 x (ids,P)):=by
 unfold mO;have h24:=h.n24;have hp1:=h.n1;refine wG (λs:Int×fO=>∃k:Nat,s.1=k∧k<=100∧VM ids s.2∧s.2.length=P.length∧∀v u,mD P v u->mD s.2 v u) (λs=>200 - s.1.toNat) ?_ 1000 _ ⟨P.length,rfl,by omega,h,rfl,λ_ _ h=>h⟩ (by dsimp only;omega);rintro⟨i,Q⟩ ag ⟨k,hk,hk2,hV,hL,hN⟩ hrec;dsimp only at hk hV hL hN;subst hk;have done:∀b:Bool,b=false->OK (λg:GR=>VM g.1 g.2∧g.1=ids∧g.2.length=P.length∧∀v u,mD P v u->mD g.2 v u) (lQ 1000 x (ids,P) ((k:Int),Q) ag b):=by
  rintro b rfl;exact⟨_,rfl,hV,rfl,hL,hN⟩
 unfold oS;dsimp only;rw[wr (by omega) (by omega)];by_cases h1:(k:Int)+1<(x.2.1.length:Int)
 rotate_left
 ·rw[if_neg h1];exact done _ rfl
 rw[if_pos h1];by_cases h2:(k:Int)<60
 rotate_left
 ·exact done _ (decide_eq_false h2)
 rw[decide_eq_true h2];unfold lQ;dsimp only;rw[if_pos rfl,bZ (by omega),bG (vT _ _ (by omega) (by omega)),wr (by omega) (by omega),bZ (by omega),bG (vT _ _ (by omega) (by omega)),bG (OH _ _ (by omega)),bG (vT _ _ (by decide) (by decide))];obtain⟨w1,w2,w3⟩:=My (at' x.2.2.1 (k:Int));rw[w1];generalize hu:at' x.2.1 (k:Int)%(P.length:Int)=u;have u0:0<=u:=by rw[<-hu];exact Int.emod_nonneg _ (by omega)
 have u1:u<P.length:=by rw[<-hu];exact Int.emod_lt_of_pos _ (by omega)
 obtain⟨u,rfl⟩:∃n:Nat,u=n:=⟨u.toNat,by omega⟩
 generalize ht:at' x.2.1 ((k:Int)+1)%(P.length:Int)=t;have t0:0<=t:=by rw[<-ht];exact Int.emod_nonneg _ (by omega)
 have t1:t<P.length:=by rw[<-ht];exact Int.emod_lt_of_pos _ (by omega)
 obtain⟨t,rfl⟩:∃n:Nat,t=n:=⟨t.toNat,by omega⟩
 obtain⟨P',e1,v1,v2,v3,v4⟩:=TS x hV (a:=u) (b:=t) (by omega) (by omega) ⟨w2,w3⟩;rw[bG e1,wr (by omega) (by omega)];exact hrec _ ⟨k+2,by dsimp only;omega,by omega,v1,by dsimp only;omega,λv u hvu=>v3 _ _ (hN v u hvu)⟩ (by dsimp only;omega)
theorem Na (x:Oj) (a:Nat) (m:1<=a) (c:a<=24):
  OK (λg:GR=>VM g.1 g.2∧g.2.length<=a∧∀v:Nat,1<=v->v<g.2.length->∃u:Nat,u<v∧mD g.2 u v) (e_ 1000 x (a:Int)):=by
 unfold e_;obtain⟨⟨s,P⟩,k,o,n,i⟩:=abZ x a m c;obtain⟨⟨j,t⟩,l,b,p,d,h⟩:=abz x o;rw[bG k,bG l];dsimp only at n i b p d h;refine⟨_,rfl,b,by dsimp only;omega,λv r f=> ?_⟩
 obtain⟨u,q,e⟩:=i v r (by dsimp only at f;omega);exact⟨u,q,h _ _ e⟩
end Go.Proofs.YtlkhndebimcbbaaGreatDoor
namespace Go.Proofs.YtlkhndebimcbbaaGreatDoor
open Go Go.Sx
abbrev val (c:bE) (v x:Nat):Int:=at' (at' c (v:Int)) (x:Int)
def acj (g:GR) (b:Int) (v:Nat) (a:Int):Prop:=if b = -1 then -1<=a∧a<=((row g v).length:Int) - 1 else 0<=a∧a<=b
instance (g:GR) (top:Int) (v:Nat) (a:Int):Decidable (acj g top v a):=by unfold acj;infer_instance

def jR (g:GR):Nat->Int
 |0=>0
 |k+1=>max (jR g k) (at' g.1 (k:Int))
theorem Kj {g:GR} (a:VG g):∀k,k<=g.2.length->0<=jR g k∧jR g k<=255
 |0,_=>by simp[jR]
 |k+1,h=>by
  have b:=Kj a k (by omega);have c:0<=at' g.1 (k:Int)∧at' g.1 (k:Int)<=255:=(a.node k (by omega)).id;simp only[jR];omega
abbrev De:=Er
def DD (x:De):Prop:=(-100000<=x.2.2.2.1∧x.2.2.2.1<=100000)∧(0<=x.2.2.2.2.1∧x.2.2.2.2.1<=100000)∧(0<=x.2.2.2.2.2∧x.2.2.2.2.2<=100000)
def lo (g:GR) (x:De) (v:Nat):Int:=if x.2.1=2 then 0 else if x.2.1=3 then -1 else x.2.2.1
def hi (g:GR) (x:De) (v:Nat):Int:=if x.2.1=2 then 1 else if x.2.1=3 then((row g v).length:Int) - 1 else x.2.2.2.1+x.2.2.2.2.1*(g.2.length:Int)+x.2.2.2.2.2*jR g g.1.length
structure Du (g:GR) (c:bE) (vars:List De):Prop where
 len:c.length=g.2.length
 row:∀v,v<g.2.length->(at' c (v:Int)).length=vars.length
 ok:∀v,v<g.2.length->∀x,x<vars.length->lo g (at' vars (x:Int)) v<=val c v x∧val c v x<=hi g (at' vars (x:Int)) v
def Fa (a b:Nat):Nat:=(BitVec.ofInt 32 (a:Int) &&& ~~~ BitVec.ofInt 32 (b:Int)).toNat
theorem OX (a b:Nat):Fa a b<4294967296:=(BitVec.ofInt 32 (a:Int) &&& ~~~ BitVec.ofInt 32 (b:Int)).isLt
theorem Hs {a i:Nat} (b:a<4294967296) (h:a.testBit i=true):i<32:=by
 apply Classical.byContradiction;intro c;rw[Nat.testBit_lt_two_pow (Nat.lt_of_lt_of_le b (Nat.pow_le_pow_right (n:=2) (by omega) (show 32<=i by omega)))]at h;cases h
theorem LF {a b:Nat} (d:a<4294967296) (e:b<4294967296) (i:Nat):(Fa a b).testBit i=(a.testBit i && !b.testBit i):=by
 have:=BitVec.getLsbD_and (x:=BitVec.ofInt 32 (a:Int)) (y:= ~~~ BitVec.ofInt 32 (b:Int)) (i:=i);rw[BitVec.getLsbD_not]at this;have h:(Fa a b).testBit i=((Oi (a:Int)).testBit i&&(decide (i<32) && !(Oi (b:Int)).testBit i)):=this;rw[xW d,xW e]at h;rw[h];cases c:a.testBit i with
 |false=>simp
 |true=>simp[Hs d c]
theorem OI (a b:Nat):t_ .u32 (a:Int) (b:Int)=(Fa a b:Int):=MB _ (OX a b)
theorem DI {a b:Nat} (c:a<4294967296) (d:b<4294967296):dM .u32 (a:Int) (b:Int)=((a &&& b:Nat):Int):=by rw[MS,xW c,xW d]
theorem ahH {a b:Nat} (c:a<4294967296) (d:b<4294967296):MU .u32 (a:Int) (b:Int)=((a ||| b:Nat):Int):=by rw[ada,xW c,xW d]
theorem acv {a b:Nat} (c:a<4294967296) (d:b<4294967296):a ||| b<4294967296:=Nat.or_lt_two_pow (n:=32) c d
theorem Rh {a b:Nat} (c:a<4294967296):a &&& b<4294967296:=Nat.lt_of_le_of_lt Nat.and_le_left c
theorem Rj {a k:Nat} (c:a<4294967296) (b:k<32):MU .u32 (a:Int) (Co .u32 1 (k:Int))=((a ||| 2^k:Nat):Int):=by rw[acn b,ahH c (Im b)]
theorem TT (p:Nat->Bool) {k:Nat} (a:k<=32):Bm p k<4294967296:=Nat.lt_of_lt_of_le (Pp p k) (Nat.pow_le_pow_right (n:=2) (by omega) a)
theorem ajY {i:Nat} (h:i<1000000):wI .i64 ((i:Int)+1)=(i:Int)+1:=wr (by omega) (by omega)

theorem VG.to {g:GR} (c:VG g) {v i:Nat} (e:v<g.2.length) (d:i<(row g v).length):∃u:Nat,u<g.2.length∧(fK (row g v) i).1=(u:Int):=by
 obtain⟨u,a,b,_⟩:=c.port e d;exact⟨u,a,b⟩

theorem aaf {n i:Nat}:(2^n - 1).testBit i=decide (i<n):=Nat.testBit_two_pow_sub_one n i

def d0 (g:GR) (c:bE) (d v:Nat):Int:=if d.testBit v=true then at' (at' c (v:Int)) 0 else if v=0 then 0 else(g.2.length:Int)
def start (g:GR) (c:bE) (d:Nat):aO:=(List.range g.2.length).map (d0 g c d)



def sD:List De:=[(ByteArray.mk #[100],1,0,0,1,0),(ByteArray.mk #[112],3,0,0,0,0)]
theorem NG {a:Type} [Inhabited a] (l:List a) (x:a) {i:Nat} (b:i<l.length+1):at' (l++[x]) (i:Int)=if i<l.length then at' l (i:Int)else x:=by
 rw[fP,fP];by_cases h:i<l.length
 ·rw[if_pos h,List.getD_eq_getElem?_getD,List.getD_eq_getElem?_getD,List.getElem?_append_left h]
 ·have:i=l.length:=by omega
  subst this;rw[if_neg h];simp
def WE (g:GR) (a:List De) (v:Nat) (l:aO):Prop:=∀x,x<l.length->lo g (at' a (x:Int)) v<=at' l (x:Int)∧at' l (x:Int)<=hi g (at' a (x:Int)) v
theorem Vf {g:GR} (G:VG g) (d:List De) (f:aO) (ht:d.length<=900) (U:∀x,x<d.length->DD (at' d (x:Int)) ∧ -100000<=(at' d (x:Int)).2.2.1∧(at' d (x:Int)).2.2.1<=(at' d (x:Int)).2.2.2.1):
  OK (λc=>Du g c d) (mR 1000 g d f):=by
 have Q:=G.n24;have C:=G.len;have P:mR 1000 g d f=qQ 1000 g d f (jR g g.2.length):=by
  unfold mR;refine dU (F:=λk:Nat=>((jR g k,(k:Int)):fF)) g.2.length (λk B hk=> ?_) (λB=> ?_) 1000 (by omega)
  ·unfold uR;simp only;rw[if_pos (by omega),bZ (by omega),wr (by omega) (by omega)];rfl
  ·unfold uR;simp only;rw[if_neg (by omega)]
 rw[P];obtain⟨M,X⟩:=Kj G g.2.length (by omega);unfold qQ;have J:=BW (step:=jX 1000 g d f (jR g g.2.length)) (K:=λx=>some x.1) g.2.length (λv x=>x.2=(v:Int)∧x.1.length=v∧∀w,w<v->(at' x.1 (w:Int)).length=d.length∧WE g d w (at' x.1 (w:Int))) (λv x B t q=> ?_) (λx B q=> ?_) 1000 (([]:bE),(0:Int)) ⟨rfl,rfl,λw V=>by omega⟩ (by omega)
 ·obtain⟨⟨c,i⟩,⟨_,s,p⟩,I⟩:=J;exact⟨c,I,s,λv t=>(p v t).1,λv t x D=>(p v t).2 x (by rw[(p v t).1];exact D)⟩
 ·obtain⟨c,i⟩:=x;obtain⟨rfl,s,p⟩:=q;simp only at s p;have L:(at' g.2 (v:Int)).length<g.2.length:=(G.node v t).deg;unfold jX;simp only;rw[if_pos (by omega)];have E:=BW (step:=nP 1000 g d f (jR g g.2.length) (c,(v:Int)) B) (K:=λy=>B (c++[y.1],(v:Int)+1)) d.length (λx y=>y.2=(x:Int)∧y.1.length=x∧WE g d v y.1) (λx y n D q=> ?_) (λy n q=> ?_) 1000 (([]:aO),(0:Int)) ⟨rfl,rfl,λx D=>by simp at D⟩ (by omega)
  ·obtain⟨⟨l,j⟩,⟨_,h,u⟩,I⟩:=E;refine⟨(c++[l],(v:Int)+1),⟨by simp,by simp[s],λw V=> ?_⟩,I⟩
   simp only;rw[NG c l (by omega),s];by_cases e:w<v
   ·rw[if_pos e];exact p w e
   ·rw[if_neg e];have:w=v:=by omega
    subst this;exact⟨h,u⟩
  ·obtain⟨l,j⟩:=y;obtain⟨rfl,h,u⟩:=q;simp only at h u;obtain⟨⟨s1,N,O⟩,s4,s5⟩:=U x D;have o:∀a b:Int,a=lo g (at' d (x:Int)) v->b=hi g (at' d (x:Int)) v -> -100000<=a->a<=b+1->b<=100000000->(a<=b∨(a = -1∧b = -1))->∃H,(H.2=((x+1:Nat):Int)∧H.1.length=x+1∧WE g d v H.1)∧nO 1000 d f (c,(v:Int)) (l,(x:Int)) n (a,b)=n H:=by
    intro a b R T q1 q2 q3 q4;have S:a<=b:=by omega
    unfold nO;simp only;have w1:wI .i64 ((v:Int)*(d.length:Int))=(v:Int)*(d.length:Int):=by
     have Y:0<=(v:Int)*(d.length:Int):=Int.mul_nonneg (by omega) (by omega);have p2:(v:Int)*(d.length:Int)<=24*900:=Int.mul_le_mul (by omega) (by omega) (by omega) (by omega);exact wr (by omega) (by omega)
    have Y:0<=(v:Int)*(d.length:Int):=Int.mul_nonneg (by omega) (by omega);have p2:(v:Int)*(d.length:Int)<=24*900:=Int.mul_le_mul (by omega) (by omega) (by omega) (by omega);rw[w1,wr (x:=(v:Int)*(d.length:Int)+(x:Int)) (by omega) (by omega),OH _ _ (by omega),bG Z,wr (x:=b - a) (by omega) (by omega),wr (x:=b - a+1) (by omega) (by omega),vT _ _ (by omega) (by omega),bG Z];have r1:=Int.emod_nonneg (at' f ((v:Int)*(d.length:Int)+(x:Int))) (b:=b - a+1) (by omega);have r2:=Int.emod_lt_of_pos (at' f ((v:Int)*(d.length:Int)+(x:Int))) (b:=b - a+1) (by omega);generalize at' f ((v:Int)*(d.length:Int)+(x:Int))%(b - a+1)=r at r1 r2;rw[wr (x:=a+r) (by omega) (by omega),bZ (by simp;omega),wr (by omega) (by omega)];refine⟨_,⟨by simp,by simp[h],λz W=> ?_⟩,rfl⟩
    simp only[List.length_append,List.length_cons,List.length_nil,h]at W;simp only;rw[NG l _ (by omega),h];by_cases e:z<x
    ·rw[if_pos e];exact u z (by omega)
    ·rw[if_neg e];have:z=x:=by omega
     subst this;rw[<-R,<-T];omega
   unfold nP;simp only;rw[if_pos (by omega),bZ (by omega),bZ (by omega),bZ (by omega),bZ (by omega),bZ (by omega)];by_cases m:(at' d (x:Int)).2.1=2
   ·rw[if_pos m];exact o 0 1 (by unfold lo;rw[if_pos m]) (by unfold hi;rw[if_pos m]) (by omega) (by omega) (by omega) (by omega)
   ·rw[if_neg m];by_cases A:(at' d (x:Int)).2.1=3
    ·rw[if_pos A,bZ (by omega),wr (by omega) (by omega)];exact o (-1) _ (by unfold lo;rw[if_neg m,if_pos A]) (by unfold hi;rw[if_neg m,if_pos A]) (by omega) (by omega) (by omega) (by omega)
    ·rw[if_neg A];have q1:0<=(at' d (x:Int)).2.2.2.2.1*(g.2.length:Int):=Int.mul_nonneg N.1 (by omega);have q2:(at' d (x:Int)).2.2.2.2.1*(g.2.length:Int)<=100000*24:=Int.mul_le_mul N.2 (by omega) (by omega) (by omega);have q3:0<=(at' d (x:Int)).2.2.2.2.2*jR g g.2.length:=Int.mul_nonneg O.1 M;have q4:(at' d (x:Int)).2.2.2.2.2*jR g g.2.length<=100000*255:=Int.mul_le_mul O.2 X M (by omega);rw[wr (x:=(at' d (x:Int)).2.2.2.2.1*(g.2.length:Int)) (by omega) (by omega),wr (x:=(at' d (x:Int)).2.2.2.2.2*jR g g.2.length) (by omega) (by omega),wr (x:=(at' d (x:Int)).2.2.2.1+(at' d (x:Int)).2.2.2.2.1*(g.2.length:Int)) (by omega) (by omega),wr (by omega) (by omega)];exact o _ _ (by unfold lo;rw[if_neg m,if_neg A]) (by unfold hi;rw[if_neg m,if_neg A,C]) (by omega) (by omega) (by omega) (by omega)
  ·obtain⟨l,j⟩:=y;obtain⟨rfl,h,u⟩:=q;simp only at h u;unfold nP zM;simp only;rw[if_neg (by omega),bZ (by simp;omega),wr (by omega) (by omega)]
 ·obtain⟨c,i⟩:=x;obtain⟨rfl,s,p⟩:=q;unfold jX uQ;simp only;rw[if_neg (by omega)]
def low (a b:Int):Int:=if 0<=b∧(a<0∨b<a)then b else a
end Go.Proofs.YtlkhndebimcbbaaGreatDoor
namespace Go.Proofs.YtlkhndebimcbbaaGreatDoor
open Go.Sx
def yJ (a:Int) (b:Bool):Option (Int):=
 if b=true then(some (-1:Int))else(if a<=(17:Int)then(some (0:Int))else(if a<=(29:Int)then(some (1:Int))else(if a<=(42:Int)then(some (2:Int))else(some (3:Int)))))
def wR (U:Nat) (a:Int):Option (Int):=
 if a<(1:Int)then(yJ a (true))else(yJ a (decide ((43:Int)<a)))
theorem aaI:aU Tryz.prog 178:=Tryz.call178
theorem NO (U:Nat) {b:Int} (r:Int) (h:wR U b=some r):
  aY Tryz.prog 178 #[vI (b)] [] (λx:Unit=>vI (r)) (λx l=>l) (λ_ l=>l):=by
 refine aY.of Tryz.func178 Z Tryz.ntmps178 Z λc=>?_;refine aW<|aE Z<|aM<|aK<|aT<|aK<|eS (λa=>yJ b a=some r) (λa d=>[(0,vI (b)),(3,vB (a))]) (λa d=>[]) ?_ ?_
 ·refine aS<|aA Z<|cY Z<|aA Z ?_;refine FG h Z (λ_ h=>?_) λ_ h=>?_
  ·refine aP Z<|aP Z<|fM Z<|aE Z<|aM ?_;exact jG (true) () h SF Z
  refine eR Z<|aX Z (yP Z Z) Z<|iI Z<|aE Z<|aM ?_;exact jG (decide ((43:Int)<b)) () h SF Z
 intro a d h;refine BM h Z (λ_ h=>?_) λ_ h=>?_
 ·refine aW<|aE Z<|aM<|aV<|bP<|aI ?_;cases h;exact lP Z
 refine aW<|aA Z<|aB (Df Z Z) Z<|aE Z<|aM ?_;refine fJ h Z (λh=>?_) λh=>?_
 ·refine aW<|aE Z<|aM<|aV<|bP<|aI ?_;cases h;exact lP Z
 refine aW<|aA Z<|aB (Df Z Z) Z<|aE Z<|aM ?_;refine fJ h Z (λh=>?_) λh=>?_
 ·refine aW<|aE Z<|aM<|aV<|bP<|aI ?_;cases h;exact lP Z
 refine aW<|aA Z<|aB (Df Z Z) Z<|aE Z<|aM ?_;refine fJ h Z (λh=>?_) λh=>?_
 ·refine aW<|aE Z<|aM<|aV<|bP<|aI ?_;cases h;exact lP Z
 refine dO<|oD<|aW<|aE Z<|aM<|aV ?_;cases h;exact lP Z
def Ep  (a:Unit):Option (Int):=
 some (-1:Int)
def lG (U:Nat) (d:fN) (a:fF) (c:iQ->Option (Int)):Option (Int):=
 if a.1<(List.length d:Int)then(ck (0<=a.1∧a.1<(List.length d:Int)) (Option.bind (wR U ((at' d a.1).1)) λb=>(if b<(0:Int)then(some (-1:Int))else(if(wI .i64 (a.2+(wI .i64 (b - (1:Int)))))=(0:Int)then(some (wI .i64 (a.1+(1:Int))))else(c ((wI .i64 (a.1+(1:Int))),(wI .i64 (a.2+(wI .i64 (b - (1:Int)))))))))))else(Ep  (()))
def Bt (U:Nat) (b:fN) (c:Int) (a:Bool):Option (Int):=
 if a=true then(some (-1:Int))else(bL (lG U b) U (c,(1:Int)))
def CG (U:Nat) (b:fN) (a:Int):Option (Int):=
 if a<(0:Int)then(Bt U b a (true))else(Bt U b a (decide ((List.length b:Int)<=a)))
theorem aaD:aU Tryz.prog 161:=Tryz.call161
theorem SB (U:Nat) {g:fN} {b:Int} (k:Value) (r:Int) (h:CG U g b=some r):
  aY Tryz.prog 161 #[k,vI (b)] [Sl bA k g] (λx:Unit=>vI (r)) (λx l=>l) (λ_ l=>l):=by
 refine aY.of Tryz.func161 Z Tryz.ntmps161 Z λc=>?_;refine aW<|aE Z<|aM<|aK<|aK<|eS (λd=>Bt U g b d=some r) (λd n=>[(0,k),(1,vI (b)),(14,vB (d))]) (λd n=>[]) ?_ ?_
 ·refine aS<|aA Z<|cY Z<|aA Z ?_;refine FG h Z (λ_ h=>?_) λ_ h=>?_
  ·refine aP Z<|aP Z<|aP Z<|aP Z<|fM Z<|aM ?_;exact jG (true) () h SF Z
  refine eR Z<|eR Z<|aX Z (h_ Z (aF.fact 0 Z) Z) Z<|aX Z (E_ Z Z) Z<|iI Z<|aM ?_;exact jG (decide ((List.length g:Int)<=b)) () h SF Z
 intro d n h;refine BM h Z (λ_ h=>?_) λ_ h=>?_
 ·refine aW<|aE Z<|aM<|aV<|aI ?_;cases h;exact lP Z
 refine cU<|aK<|eS (λj=>Ep  j=some r) (λj o=>[]) (λj o=>[]) ?_ ?_
 ·refine aW<|aE Z<|aM<|aT<|eV (lG U g) (λa e=>[(0,k),(1,vI (a.1)),(5,vI (a.2))]) (λa e=>[]) (b,(1:Int)) () h SF (aZ.refl _) ?_;intro p a e h;refine aK<|aW<|aA Z<|aA Z<|kT (aF.fact 0 Z) Z<|cY Z<|aM ?_;refine fJ h Z (λh=>?_) λh=>?_
  ·refine cU<|aK<|aT<|aW<|aA Z<|aA Z<|dB h λf h=>aB (bB Z Z (aF.fact 0 Z) Z Z f) Z<|aB (nH Z Z Z Z Z) Z<|aB (pY Z (aF.fact 0 Z) Z Z Z Ao f) Z<|fU h λi m h=>aH (aN.callQ aaI (NO U  i m) Z .nil) Z λq=>aE Z<|aM<|aK<|aW<|aA Z<|cY Z<|aM ?_;refine fJ h Z (λh=>?_) λh=>?_
   ·refine aW<|aE Z<|aM<|aV<|aI<|bP<|aI<|aI<|bP<|aI ?_;cases h;exact lP Z
   refine cU<|aW<|aA Z<|aA Z<|aB (qX Z Z) Z<|cL Z<|aE Z<|aM<|aW<|aA Z<|cT Z<|aM ?_;refine fJ h Z (λh=>?_) λh=>?_
   ·refine aW<|aA Z<|cL Z<|aE Z<|aM<|aV<|bP<|aI<|aI<|bP<|aI ?_;cases h;exact lP Z
   refine dO<|oD<|aS<|aA Z<|cL Z<|aE Z<|aM ?_;exact Al ((wI .i64 (a.1+(1:Int))),(wI .i64 (a.2+(wI .i64 (i - (1:Int)))))) () h SF Z
  refine fV ?_;exact jG () (()) h SF Z
 intro j o h;unfold Ep at h;refine aW<|aE Z<|aM<|aV ?_;cases h;exact lP Z
def iR (U:Nat) (a:Bool):Option (Int):=
 if a=true then(some (1:Int))else(some (0:Int))
theorem xX:aU Tryz.prog 187:=Tryz.call187
theorem kX (U:Nat) {a:Bool} (r:Int) (h:iR U a=some r):
  aY Tryz.prog 187 #[vB (a)] [] (λx:Unit=>vI (r)) (λx l=>l) (λ_ l=>l):=by
 refine aY.of Tryz.func187 Z Tryz.ntmps187 Z λc=>?_;refine aW<|aE Z<|aM<|aK<|aW<|aA Z<|aM ?_;refine BM h Z (λ_ h=>?_) λ_ h=>?_
 ·refine aW<|aE Z<|aM<|aV<|aI ?_;cases h;exact lP Z
 refine cU<|aW<|aE Z<|aM<|aV ?_;cases h;exact lP Z
def rS (U:Nat) (a:VR) (d:Int) (b:Int) (c:Int):Option (Int):=
 if d=(6:Int)then(some (List.length a.2.1.1:Int))else(if d=(7:Int)then(some (a.2.2.1))else(if d=(8:Int)then(ck (0<=b∧b<(List.length a.2.1.1:Int)) (some (at' a.2.1.1 b)))else(if d=(9:Int)then(ck (0<=b∧b<(List.length a.2.1.2:Int)) (some (List.length (at' a.2.1.2 b):Int)))else(if d=(10:Int)then(Option.bind (iR U (decide (b=(0:Int)))) λf=>(some (f)))else(if d=(11:Int)then(some (c))else(ck (0<=b∧b<(List.length a.2.1.2:Int)) (ck (0<=c∧c<(List.length (at' a.2.1.2 b):Int)) (if d=(13:Int)then(ck (0<=((at' (at' a.2.1.2 b) c).1)∧((at' (at' a.2.1.2 b) c).1)<(List.length a.2.1.1:Int)) (some (at' a.2.1.1 ((at' (at' a.2.1.2 b) c).1))))else(if d=(14:Int)then(ck (0<=((at' (at' a.2.1.2 b) c).1)∧((at' (at' a.2.1.2 b) c).1)<(List.length a.2.1.2:Int)) (some (List.length (at' a.2.1.2 ((at' (at' a.2.1.2 b) c).1)):Int)))else(if d=(15:Int)then(Option.bind (iR U (decide (((at' (at' a.2.1.2 b) c).1)=(0:Int)))) λe=>(some (e)))else(if d=(16:Int)then(some ((at' (at' a.2.1.2 b) c).2))else(ck (0<=b∧b<(List.length a.2.2.2:Int)) (ck (0<=c∧c<(List.length (at' a.2.2.2 b):Int)) (some (at' (at' a.2.2.2 b) c)))))))))))))))
theorem aaJ:aU Tryz.prog 186:=Tryz.call186
theorem Eg (U:Nat) {d:VR} {s:Int} {f:Int} {g:Int} (i:Nat)  (t:Value)  (u:Value)  (v:Value)  (w:Value)  (F:lJ)  (y:Value)  (G:qF) (r:Int) (h:rS U d s f g=some r):
  aY Tryz.prog 186 #[vP i,vI (s),vI (f),vI (g)] [bY i [vS (d.1.1),t,u,v,w,vI (d.2.2.1),y] 134,Sl aR t d.1.2.1,Sl aJ u d.1.2.2,Sl bO v d.2.1.1,S2 bA w F d.2.1.2,S2 bO y G d.2.2.2] (λx:Unit=>vI (r)) (λx l=>l) (λ_ l=>l):=by
 refine aY.of Tryz.func186 Z Tryz.ntmps186 Z λc=>?_;refine aW<|aE Z<|aM<|aK<|aW<|aA Z<|aM<|aT<|aW<|cT Z<|aE Z<|aM ?_;refine fJ h Z (λh=>?_) λh=>?_
 ·refine aW<|aA Z<|aB (cB Z) Z<|bW Z<|bW Z<|aB (dG Z (aF.fact 0 Z) Z Z Z) Z<|kT (aF.fact 3 Z) Z<|aE Z<|aM<|aV<|bP<|aI ?_;cases h;exact lP Z
 refine aW<|cT Z<|aE Z<|aM ?_;refine fJ h Z (λh=>?_) λh=>?_
 ·refine aW<|aA Z<|aB (cB Z) Z<|bW Z<|aB (dG Z (aF.fact 0 Z) Z Z Z) Z<|aE Z<|aM<|aV<|bP<|aI ?_;cases h;exact lP Z
 refine aW<|cT Z<|aE Z<|aM ?_;refine fJ h Z (λh=>?_) λh=>?_
 ·refine aW<|aA Z<|aB (cB Z) Z<|bW Z<|bW Z<|aB (dG Z (aF.fact 0 Z) Z Z Z) Z<|aA Z<|dB h λq h=>aB (bB Z Z (aF.fact 3 Z) Z Z q) Z<|aB (bS Z (aF.fact 3 Z) Z Z Z cX q) Z<|aE Z<|aM<|aV<|bP<|aI ?_;cases h;exact lP Z
 refine aW<|cT Z<|aE Z<|aM ?_;refine fJ h Z (λh=>?_) λh=>?_
 ·refine aW<|aA Z<|aB (cB Z) Z<|bW Z<|bW Z<|aB (dG Z (aF.fact 0 Z) Z Z Z) Z<|aA Z<|dB h λn h=>aB (cC Z Z (aF.fact 4 Z) Z Z n) Z<|aB (cE Z (aF.fact 4 Z) Z Z n) Z<|aB (h_ Z (aF.el (aF.fact 4 Z) n.1 n.2) Z) Z<|aE Z<|aM<|aV<|bP<|aI ?_;cases h;exact lP Z
 refine aW<|cT Z<|aE Z<|aM ?_;refine fJ h Z (λh=>?_) λh=>?_
 ·refine aW<|aA Z<|cT Z<|fU h λB C h=>aH (aN.callQ xX (kX U  B C) Z .nil) Z λD=>aE Z<|aM<|aV<|bP<|aI ?_;cases h;exact lP Z
 refine aW<|cT Z<|aE Z<|aM ?_;refine fJ h Z (λh=>?_) λh=>?_
 ·refine aW<|aA Z<|aE Z<|aM<|aV<|bP<|aI ?_;cases h;exact lP Z
 refine dO<|oD<|aW<|aA Z<|aB (cB Z) Z<|bW Z<|bW Z<|aB (dG Z (aF.fact 0 Z) Z Z Z) Z<|aA Z<|dB h λa h=>aB (cC Z Z (aF.fact 4 Z) Z Z a) Z<|aB (cE Z (aF.fact 4 Z) Z Z a) Z<|aA Z<|dB h λj h=>aB (bB Z Z (aF.el (aF.fact 4 Z) a.1 a.2) Z Z j) Z<|aB (jM (cs:=[vI ((at' (at' d.2.1.2 f) g).1),vI ((at' (at' d.2.1.2 f) g).2)]) Z (aF.el (aF.fact 4 Z) a.1 a.2) bU Z Z Z Z j) Z<|aH (aN.alloc (cs:=V_) Z Z) Z λA=>bT 0 (vs:=[vI ((at' (at' d.2.1.2 f) g).1),vI ((at' (at' d.2.1.2 f) g).2)]) Z Z Z Z Z Z<|aM<|aK<|aW<|aA Z<|aM<|aT<|aW<|cT Z<|aE Z<|aM ?_;refine fJ h Z (λh=>?_) λh=>?_
 ·refine aK ?_;refine JR.start [0,1,3,7,15,0,32,127,255,511] 7 mixedOrders (by decide +kernel) ?_;refine JR.open (by exact rfl) ?_;refine bH Z<|iX Z (cB Z)<|dD Z<|dD Z<|bK Z .nil (lE 0 Z) (dG Z (aF.fact 0 Z) Z Z Z) aL.z<|dD Z<|jO 0 Z<|bQ 7 Z Z<|dB h λk h=>aB (bB Z Z (aF.fact 3 Z) Z Z k) Z<|aB (bS Z (aF.fact 3 Z) Z Z Z cX k) Z<|aE Z<|aM<|aV<|bP<|aI ?_;cases h;exact vN Z
 refine aW<|cT Z<|aE Z<|aM ?_;refine fJ h Z (λh=>?_) λh=>?_
 ·refine aK ?_;refine JR.start [0,1,3,7,15,0,32,127,255,511,1023] 7 mixedOrders (by decide +kernel) ?_;refine JR.open (by exact rfl) ?_;refine bH Z<|iX Z (cB Z)<|dD Z<|dD Z<|bK Z .nil (lE 0 Z) (dG Z (aF.fact 0 Z) Z Z Z) aL.z<|dD Z<|jO 0 Z<|bQ 7 Z Z<|dB h λe h=>aB (cC Z Z (aF.fact 4 Z) Z Z e) Z<|aB (cE Z (aF.fact 4 Z) Z Z e) Z<|aB (h_ Z (aF.el (aF.fact 4 Z) e.1 e.2) Z) Z<|aE Z<|aM<|aV<|bP<|aI ?_;cases h;exact vN Z
 refine aW<|cT Z<|aE Z<|aM ?_;refine fJ h Z (λh=>?_) λh=>?_
 ·refine aW<|bW Z<|dN 0 Z<|cT Z<|fU h λo p h=>aH (aN.callQ xX (kX U  o p) Z .nil) Z λE=>aE Z<|aM<|aV<|bP<|aI ?_;cases h;exact vN Z
 refine aW<|cT Z<|aE Z<|aM ?_;refine fJ h Z (λh=>?_) λh=>?_
 ·refine aW<|bW Z<|dN 0 Z<|aE Z<|aM<|aV<|bP<|aI ?_;cases h;exact vN Z
 refine dO<|oD<|aW<|aA Z<|aB (cB Z) Z<|bW Z<|aB (dG Z (aF.fact 0 Z) Z Z Z) Z<|aA Z<|dB h λb h=>aB (cC Z Z (aF.fact 5 Z) Z Z b) Z<|aB (cE Z (aF.fact 5 Z) Z Z b) Z<|aA Z<|dB h λm h=>aB (bB Z Z (aF.el (aF.fact 5 Z) b.1 b.2) Z Z m) Z<|aB (bS Z (aF.el (aF.fact 5 Z) b.1 b.2) Z Z Z cX m) Z<|aE Z<|aM<|aV ?_;cases h;exact vN Z
def lS (U:Nat) (a:NS) (b:fF) (c:Int):Option (Int):=
 if b.1=(1:Int)then(some (b.2))else(if b.1=(2:Int)then(some (1:Int))else(if b.1=(3:Int)then(some (0:Int))else(if b.1=(4:Int)then(some (-1:Int))else(if b.1=(5:Int)then(ck (0<=a.2.2.1∧a.2.2.1<(List.length a.2.1:Int)) (ck (0<=b.2∧b.2<(List.length (at' a.2.1 a.2.2.1):Int)) (some (at' (at' a.2.1 a.2.2.1) b.2))))else(if b.1=(12:Int)then(ck (0<=a.2.2.1∧a.2.2.1<(List.length a.1.2.1.2:Int)) (ck (0<=c∧c<(List.length (at' a.1.2.1.2 a.2.2.1):Int)) (ck (0<=((at' (at' a.1.2.1.2 a.2.2.1) c).1)∧((at' (at' a.1.2.1.2 a.2.2.1) c).1)<(List.length a.2.1:Int)) (ck (0<=b.2∧b.2<(List.length (at' a.2.1 ((at' (at' a.1.2.1.2 a.2.2.1) c).1)):Int)) (some (at' (at' a.2.1 ((at' (at' a.1.2.1.2 a.2.2.1) c).1)) b.2))))))else(Option.bind (rS U ((((a.1.1.1,a.1.1.2.1,a.1.1.2.2)),((a.1.2.1.1,a.1.2.1.2)),a.1.2.2.1,a.1.2.2.2)) b.1 a.2.2.1 c) λd=>(some (d))))))))
theorem aaF:aU Tryz.prog 167:=Tryz.call167
theorem EV (U:Nat) {d:NS} {k:fF} {y:Int} (g:Nat)  (e:Nat)  (o:Value)  (p:Value)  (q:Value)  (s:Value)  (B:lJ)  (t:Value)  (C:qF)  (A:Value)  (v:qF)  (m:Value) (r:Int) (h:lS U d k y=some r):
  aY Tryz.prog 167 #[vP g,Value.agg #[vI (k.1),vI (k.2)],vI (y)] [bY g [vP e,A,vI (d.2.2.1),m] 206,bY e [vS (d.1.1.1),o,p,q,s,vI (d.1.2.2.1),t] 134,Sl aR o d.1.1.2.1,Sl aJ p d.1.1.2.2,Sl bO q d.1.2.1.1,S2 bA s B d.1.2.1.2,S2 bO t C d.1.2.2.2,S2 bO A v d.2.1,Sl bA m d.2.2.2] (λx:Unit=>vI (r)) (λx l=>l) (λ_ l=>l):=by
 refine aY.of Tryz.func167 Z Tryz.ntmps167 Z λc=>?_;refine aW<|aH (aN.box (cs:=[vI (k.1),vI (k.2)]) Z Z) Z λE=>aE Z<|aM<|aK<|aW<|bW Z<|dN 0 Z<|aM<|aT<|aW<|cT Z<|aE Z<|aM ?_;refine fJ h Z (λh=>?_) λh=>?_
 ·refine aW<|bW Z<|dN 0 Z<|aE Z<|aM<|aV<|bP<|aI ?_;cases h;exact vN Z
 refine aW<|cT Z<|aE Z<|aM ?_;refine fJ h Z (λh=>?_) λh=>?_
 ·refine aW<|aE Z<|aM<|aV<|bP<|aI ?_;cases h;exact vN Z
 refine aW<|cT Z<|aE Z<|aM ?_;refine fJ h Z (λh=>?_) λh=>?_
 ·refine aW<|aE Z<|aM<|aV<|bP<|aI ?_;cases h;exact vN Z
 refine aW<|cT Z<|aE Z<|aM ?_;refine fJ h Z (λh=>?_) λh=>?_
 ·refine aW<|aE Z<|aM<|aV<|bP<|aI ?_;cases h;exact vN Z
 refine aW<|cT Z<|aE Z<|aM ?_;refine fJ h Z (λh=>?_) λh=>?_
 ·refine aK ?_;refine JR.start [0,1,3,7,0,16,48,112,255,511,0,1024,4095,8191,16383] 12 mixedOrders (by decide +kernel) ?_;refine JR.open (by exact rfl) ?_;refine bH Z<|iX Z (cB Z)<|dD Z<|bK Z .nil (lE 0 Z) (dG Z (aF.fact 0 Z) Z Z Z) aL.z<|bH Z<|iX Z (cB Z)<|dD Z<|bK Z .nil (lE 0 Z) (dG Z (aF.fact 0 Z) Z Z Z) aL.z<|dB h λf h=>bK Z .nil (lE 7 Z) (cC Z Z (aF.fact 0 Z) Z Z f) aL.z<|bK Z .nil (lE 7 Z) (cE Z (aF.fact 0 Z) Z Z f) aL.z<|dD Z<|jO 0 Z<|bQ 12 Z Z<|dB h λw h=>aB (bB Z Z (aF.el (aF.fact 7 Z) f.1 f.2) Z Z w) Z<|aB (bS Z (aF.el (aF.fact 7 Z) f.1 f.2) Z Z Z cX w) Z<|aE Z<|aM<|aV<|bP<|aI ?_;cases h;exact vN Z
 refine aW<|cT Z<|aE Z<|aM ?_;refine fJ h Z (λh=>?_) λh=>?_
 ·refine aK ?_;refine JR.start [0,1,3,7,0,16,48,112,240,496,1008,2032,0,4096,12288,28672,65520,131056,0,524272,1048560,2097136,4194303,8388607,0,16777216,67108863,134217727,268435455] 26 mixedOrders (by decide +kernel) ?_;refine JR.open (by exact rfl) ?_;refine bH Z<|iX Z (cB Z)<|dD Z<|bK Z .nil (lE 0 Z) (dG Z (aF.fact 0 Z) Z Z Z) aL.z<|bH Z<|iX Z (cB Z)<|dD Z<|bK Z .nil (lE 0 Z) (dG Z (aF.fact 0 Z) Z Z Z) aL.z<|iX Z (cB Z)<|dD Z<|dD Z<|bK Z .nil (lE 1 Z) (dG Z (aF.fact 0 Z) Z Z Z) aL.z<|bH Z<|iX Z (cB Z)<|dD Z<|bK Z .nil (lE 0 Z) (dG Z (aF.fact 0 Z) Z Z Z) aL.z<|dB h λa h=>bK Z .nil (lE 5 Z) (cC Z Z (aF.fact 0 Z) Z Z a) aL.z<|bK Z .nil (lE 5 Z) (cE Z (aF.fact 0 Z) Z Z a) aL.z<|bH Z<|dB h λi h=>bK Z .nil (lE 5 Z) (bB Z Z (aF.el (aF.fact 0 Z) a.1 a.2) Z Z i) aL.z<|iX Z (nH Z Z Z Z Z)<|bK Z .nil (lE 5 Z) (pY Z (aF.el (aF.fact 0 Z) a.1 a.2) Z Z Z Ao i) aL.z<|dB h λb h=>bK Z .nil (lE 7 Z) (cC Z Z (aF.fact 0 Z) Z Z b) aL.z<|bK Z .nil (lE 7 Z) (cE Z (aF.fact 0 Z) Z Z b) aL.z<|dD Z<|jO 0 Z<|bQ 26 Z Z<|dB h λj h=>aB (bB Z Z (aF.el (aF.fact 7 Z) b.1 b.2) Z Z j) Z<|aB (bS Z (aF.el (aF.fact 7 Z) b.1 b.2) Z Z Z cX j) Z<|aE Z<|aM<|aV<|bP<|aI ?_;cases h;exact vN Z
 refine dO<|oD<|aK ?_;refine JR.start [0,1,3,7,0,16,0,64,192,448,0,2047,4095] 11 mixedOrders (by decide +kernel) ?_;refine JR.open (by exact rfl) ?_;refine bH Z<|iX Z (cB Z)<|dD Z<|bK Z .nil (lE 0 Z) (dG Z (aF.fact 0 Z) Z Z Z) aL.z<|dD Z<|jO 0 Z<|bH Z<|iX Z (cB Z)<|dD Z<|bK Z .nil (lE 0 Z) (dG Z (aF.fact 0 Z) Z Z Z) aL.z<|bH Z<|bQ 11 Z Z<|fU h λn u h=>aH (aN.callQ aaJ (Eg U e o p q s B t C n u) Z (oO [1,2,3,4,5,6] Z)) Z λD=>aE Z<|aM<|aV ?_;cases h;exact vN Z
def Ad (U:Nat) (b:Int) (a:Int):Option (Int):=
 if b=(18:Int)then(some (wI .i64 (0 - a)))else(Option.bind (iR U (decide (a=(0:Int)))) λc=>(some (c)))
theorem aaG:aU Tryz.prog 168:=Tryz.call168
theorem NI (U:Nat) {a:Int} {b:Int} (r:Int) (h:Ad U a b=some r):
  aY Tryz.prog 168 #[vI (a),vI (b)] [] (λx:Unit=>vI (r)) (λx l=>l) (λ_ l=>l):=by
 refine aY.of Tryz.func168 Z Tryz.ntmps168 Z λc=>?_;refine aW<|aE Z<|aM<|aK<|aW<|aA Z<|cT Z<|aM ?_;refine fJ h Z (λh=>?_) λh=>?_
 ·refine aW<|aA Z<|aB (Tc Z) Z<|aE Z<|aM<|aV<|aI ?_;cases h;exact lP Z
 refine cU<|aW<|aA Z<|cT Z<|fU h λd e h=>aH (aN.callQ xX (kX U  d e) Z .nil) Z λf=>aE Z<|aM<|aV ?_;cases h;exact lP Z
def jE (U:Nat) (a:Int):Option (Int):=
 some (max (-1073741824:Int) (min a (1073741824:Int)))
theorem EB:aU Tryz.prog 189:=Tryz.call189
theorem mB (U:Nat) {a:Int} (r:Int) (h:jE U a=some r):
  aY Tryz.prog 189 #[vI (a)] [] (λx:Unit=>vI (r)) (λx l=>l) (λ_ l=>l):=by
 refine aY.of Tryz.func189 Z Tryz.ntmps189 Z λc=>?_;unfold jE at h;refine aW<|aE Z<|aM<|aW<|aA Z<|aB (acm Z Z) Z<|aB (OE Z Z) Z<|aE Z<|aM<|aV ?_;cases h;exact lP Z
def pM  (a:Int):Option (Int):=
 some (a)
def sO (a:Int) (b:Int) (c:Bool):Option (Int):=
 if c=true then(pM  (wI .i64 ((wI .i64 (Int.tdiv a b)) - (1:Int))))else(pM  (wI .i64 (Int.tdiv a b)))
def qM (U:Nat) (b:Int) (a:Int):Option (Int):=
 if a=(0:Int)then(some (0:Int))else(ck (a≠0) (ck (a≠0) (if(Int.tmod b a)≠(0:Int)then(sO b a (((decide (b<(0:Int))) != (decide (a<(0:Int))))))else(sO b a (false)))))
theorem Tp:aU Tryz.prog 190:=Tryz.call190
theorem Dk (U:Nat) {a:Int} {b:Int} (r:Int) (h:qM U a b=some r):
  aY Tryz.prog 190 #[vI (a),vI (b)] [] (λx:Unit=>vI (r)) (λx l=>l) (λ_ l=>l):=by
 refine aY.of Tryz.func190 Z Tryz.ntmps190 Z λc=>?_;refine aW<|aE Z<|aM<|aK<|aW<|aA Z<|cT Z<|aM ?_;refine fJ h Z (λh=>?_) λh=>?_
 ·refine aW<|aE Z<|aM<|aV<|aI ?_;cases h;exact lP Z
 refine cU<|aW<|aA Z<|aA Z<|dB h λj h=>aB (WJ Z Z j) Z<|aE Z<|aM<|aK<|eS (λd=>pM  d=some r) (λd g=>[(5,vI (d))]) (λd g=>[]) ?_ ?_
 ·refine aK<|eS (λe=>sO a b e=some r) (λe i=>[(5,vI (wI .i64 (Int.tdiv a b))),(21,vB (e))]) (λe i=>[]) ?_ ?_
  ·refine aS<|aA Z<|aA Z<|dB h λf h=>aB (OF Z Z f) Z<|qO Z<|aA Z ?_;refine FG h Z (λ_ h=>?_) λ_ h=>?_
   ·refine eR Z<|aX Z (Lv Z Z) Z<|eR Z<|aX Z (Lv Z Z) Z<|aX Z (acW Z Z Z) Z<|fM Z<|aM ?_;exact jG (((decide (a<(0:Int))) != (decide (b<(0:Int))))) () h SF Z
   refine aP Z<|aP Z<|aP Z<|aP Z<|aP Z<|iI Z<|aM ?_;exact jG (false) () h SF Z
  intro e i h;refine BM h Z (λ_ h=>?_) λ_ h=>?_
  ·refine aS<|aA Z<|aB (qX Z Z) Z<|aE Z<|aM ?_;exact jG (wI .i64 ((wI .i64 (Int.tdiv a b)) - (1:Int))) () h SF Z
  refine cU ?_;exact jG (wI .i64 (Int.tdiv a b)) () h SF Z
 intro d g h;unfold pM at h;refine aW<|aA Z<|aE Z<|aM<|aV ?_;cases h;exact lP Z
def uJ (U:Nat) (c:Int) (a:Int) (b:Int):Option (Bool):=
 if c=(35:Int)then(some (decide (a=b)))else(if c=(36:Int)then(some (decide (a≠b)))else(if c=(37:Int)then(some (decide (a<b)))else(if c=(38:Int)then(some (decide (a<=b)))else(if c=(39:Int)then(some (decide (b<a)))else(some (decide (b<=a)))))))
theorem aaL:aU Tryz.prog 191:=Tryz.call191
theorem IB (U:Nat) {a:Int} {b:Int} {d:Int} (r:Bool) (h:uJ U a b d=some r):
  aY Tryz.prog 191 #[vI (a),vI (b),vI (d)] [] (λx:Unit=>vB (r)) (λx l=>l) (λ_ l=>l):=by
 refine aY.of Tryz.func191 Z Tryz.ntmps191 Z λc=>?_;refine aW<|aE Z<|aM<|aK<|aW<|aA Z<|aM<|aT<|aW<|cT Z<|aE Z<|aM ?_;refine fJ h Z (λh=>?_) λh=>?_
 ·refine aW<|aA Z<|aA Z<|cT Z<|aE Z<|aM<|aV<|bP<|aI ?_;cases h;exact lP Z
 refine aW<|cT Z<|aE Z<|aM ?_;refine fJ h Z (λh=>?_) λh=>?_
 ·refine aW<|aA Z<|aA Z<|qO Z<|aE Z<|aM<|aV<|bP<|aI ?_;cases h;exact lP Z
 refine aW<|cT Z<|aE Z<|aM ?_;refine fJ h Z (λh=>?_) λh=>?_
 ·refine aW<|aA Z<|aA Z<|cY Z<|aE Z<|aM<|aV<|bP<|aI ?_;cases h;exact lP Z
 refine aW<|cT Z<|aE Z<|aM ?_;refine fJ h Z (λh=>?_) λh=>?_
 ·refine aW<|aA Z<|aA Z<|aB (Df Z Z) Z<|aE Z<|aM<|aV<|bP<|aI ?_;cases h;exact lP Z
 refine aW<|cT Z<|aE Z<|aM ?_;refine fJ h Z (λh=>?_) λh=>?_
 ·refine aW<|aA Z<|aA Z<|aB (yP Z Z) Z<|aE Z<|aM<|aV<|bP<|aI ?_;cases h;exact lP Z
 refine dO<|oD<|aW<|aA Z<|aA Z<|aB (E_ Z Z) Z<|aE Z<|aM<|aV ?_;cases h;exact lP Z
def pK  (a:Int):Option (Int):=
 some (a)
def pL  (a:Int):Option (Int):=
 some (a)
def yA (U:Nat) (c:Int) (b:Int) (a:Int):Option (Int):=
 if c=(30:Int)then(Option.bind (jE U (wI .i64 (b*a))) λn=>(some (n)))else(if c=(31:Int)then(Option.bind (qM U b a) λo=>(Option.bind (jE U o) λp=>(some (p))))else(if c=(32:Int)then(if a=(0:Int)then(some (0:Int))else(Option.bind (qM U b a) λd=>(Option.bind (jE U (wI .i64 (b - (wI .i64 (a*d))))) λe=>(some (e)))))else(if c=(33:Int)then(Option.bind (jE U (wI .i64 (b+a))) λf=>(some (f)))else(if c=(34:Int)then(Option.bind (jE U (wI .i64 (b - a))) λg=>(some (g)))else(if c=(41:Int)then(if b≠(0:Int)then(Option.bind (iR U (decide (a≠(0:Int)))) λh=>(pK  (h)))else(Option.bind (iR U false) λi=>(pK  (i))))else(if c=(42:Int)then(if b≠(0:Int)then(Option.bind (iR U true) λj=>(pL  (j)))else(Option.bind (iR U (decide (a≠(0:Int)))) λk=>(pL  (k))))else(Option.bind (uJ U c b a) λl=>(Option.bind (iR U l) λm=>(some (m))))))))))
theorem aaH:aU Tryz.prog 170:=Tryz.call170
theorem Lk (U:Nat) {E:Int} {F:Int} {G:Int} (r:Int) (h:yA U E F G=some r):
  aY Tryz.prog 170 #[vI (E),vI (F),vI (G)] [] (λx:Unit=>vI (r)) (λx l=>l) (λ_ l=>l):=by
 refine aY.of Tryz.func170 Z Tryz.ntmps170 Z λc=>?_;refine aW<|aE Z<|aM<|aK<|aW<|aA Z<|aM<|aT<|aW<|cT Z<|aE Z<|aM ?_;refine fJ h Z (λh=>?_) λh=>?_
 ·refine aW<|aA Z<|aA Z<|aB (By Z Z) Z<|fU h λH K h=>aH (aN.callQ EB (mB U  H K) Z .nil) Z λY=>aE Z<|aM<|aV<|bP<|aI ?_;cases h;exact lP Z
 refine aW<|cT Z<|aE Z<|aM ?_;refine fJ h Z (λh=>?_) λh=>?_
 ·refine aW<|aA Z<|aA Z<|fU h λI L h=>aH (aN.callQ Tp (Dk U  I L) Z .nil) Z λx8=>fU h λJ s h=>aH (aN.callQ EB (mB U  J s) Z .nil) Z λM=>aE Z<|aM<|aV<|bP<|aI ?_;cases h;exact lP Z
 refine aW<|cT Z<|aE Z<|aM ?_;refine fJ h Z (λh=>?_) λh=>?_
 ·refine aK<|aW<|aA Z<|cT Z<|aM ?_;refine fJ h Z (λh=>?_) λh=>?_
  ·refine aW<|aE Z<|aM<|aV<|aI<|bP<|aI ?_;cases h;exact lP Z
  refine cU<|aW<|aA Z<|aA Z<|aA Z<|aA Z<|fU h λk t h=>aH (aN.callQ Tp (Dk U  k t) Z .nil) Z λN=>aB (By Z Z) Z<|aB (qX Z Z) Z<|fU h λm u h=>aH (aN.callQ EB (mB U  m u) Z .nil) Z λO=>aE Z<|aM<|aV<|bP<|aI ?_;cases h;exact lP Z
 refine aW<|cT Z<|aE Z<|aM ?_;refine fJ h Z (λh=>?_) λh=>?_
 ·refine aW<|aA Z<|aA Z<|cL Z<|fU h λn v h=>aH (aN.callQ EB (mB U  n v) Z .nil) Z λP=>aE Z<|aM<|aV<|bP<|aI ?_;cases h;exact lP Z
 refine aW<|cT Z<|aE Z<|aM ?_;refine fJ h Z (λh=>?_) λh=>?_
 ·refine aW<|aA Z<|aA Z<|aB (qX Z Z) Z<|fU h λo w h=>aH (aN.callQ EB (mB U  o w) Z .nil) Z λQ=>aE Z<|aM<|aV<|bP<|aI ?_;cases h;exact lP Z
 refine aW<|cT Z<|aE Z<|aM ?_;refine fJ h Z (λh=>?_) λh=>?_
 ·refine aK<|eS (λa=>pK  a=some r) (λa d=>[(6,vI (a))]) (λa d=>[]) ?_ ?_
  ·refine aS<|aA Z<|qO Z<|aA Z ?_;refine FG h Z (λ_ h=>?_) λ_ h=>?_
   ·refine eR Z<|aX Z (Dg Z Z) Z<|fM Z<|fU h λf y h=>aH (aN.callQ xX (kX U  f y) Z .nil) Z λR=>aE Z<|aM ?_;exact jG (f) () h SF Z
   refine aP Z<|aP Z<|iI Z<|fU h λg z h=>aH (aN.callQ xX (kX U  g z) Z .nil) Z λS=>aE Z<|aM ?_;exact jG (g) () h SF Z
  intro a d h;unfold pK at h;refine aV<|bP<|aI ?_;cases h;exact lP Z
 refine aW<|cT Z<|aE Z<|aM ?_;refine fJ h Z (λh=>?_) λh=>?_
 ·refine aK<|eS (λb=>pL  b=some r) (λb e=>[(6,vI (b))]) (λb e=>[]) ?_ ?_
  ·refine aS<|aA Z<|qO Z<|aA Z ?_;refine FG h Z (λ_ h=>?_) λ_ h=>?_
   ·refine aP Z<|aP Z<|fM Z<|fU h λi A h=>aH (aN.callQ xX (kX U  i A) Z .nil) Z λT=>aE Z<|aM ?_;exact jG (i) () h SF Z
   refine eR Z<|aX Z (Dg Z Z) Z<|iI Z<|fU h λj B h=>aH (aN.callQ xX (kX U  j B) Z .nil) Z λV=>aE Z<|aM ?_;exact jG (j) () h SF Z
  intro b e h;unfold pL at h;refine aV<|bP<|aI ?_;cases h;exact lP Z
 refine dO<|oD<|aW<|aA Z<|aA Z<|aA Z<|fU h λp C h=>aH (aN.callQ aaL (IB U  p C) Z .nil) Z λW=>fU h λq D h=>aH (aN.callQ xX (kX U  q D) Z .nil) Z λX=>aE Z<|aM<|aV ?_;cases h;exact lP Z
end Go.Proofs.YtlkhndebimcbbaaGreatDoor