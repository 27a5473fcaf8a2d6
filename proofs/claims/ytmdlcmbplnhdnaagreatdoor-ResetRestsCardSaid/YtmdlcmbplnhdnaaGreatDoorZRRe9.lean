/- Models and proofs. Conditions: none. -/
import Derived.Test.YtmdlcmbplnhdnaaGreatDoorZRRe6
import Derived.Test.YtmdlcmbplnhdnaaGreatDoorZRRe8
import Derived.Test.YtmdlcmbplnhdnaaGreatDoorZRRe7
import Derived.Test.YtmdlcmbplnhdnaaGreatDoorZRRe5
import Derived.Test.YtmdlcmbplnhdnaaGreatDoorZRRe2
import Derived.Test.YtmdlcmbplnhdnaaGreatDoorZRRe1
import Derived.OpenShut
import Derived.LaidLaws
import Derived.LaidHandle
import Derived.Lay
import Derived.MakeChecks
set_option linter.unusedVariables false
set_option linter.unusedSimpArgs false
set_option maxHeartbeats 4000000
set_option maxRecDepth 20000
namespace Go.Proofs.YtmdlcmbplnhdnaaGreatDoor
open Go.Sx
def Fx  (a:ZS):Option As:=
 if a.2.2.2.2.2.1≠(0:Int)then(some (([]:yQ),([]:Ky),a.2.2.2.2.2.1))else(some (a.2.2.2.2.2.2.2.2.2.2,a.2.2.2.2.2.2.2.2.2.1,(0:Int)))
def zD  (a:ZT):Option As:=
 Fx  (a.2.2.2.2.2.1,a.2.2.2.2.2.2.1,a.2.2.2.2.2.2.2.1,a.2.2.2.2.2.2.2.2.1,a.2.2.2.2.2.2.2.2.2.1,a.2.2.2.2.2.2.2.2.2.2,a.2.2.1,a.2.2.2.1,a.2.2.2.2.1,a.1,a.2.1)
def vY  (a:aP×Int×Int×Int×Int×Int×bA×aP×(List (Int×Int×Int×Int×Int))×List bA):Option As:=
 zD  (a.2.2.2.2.2.2.2.2.1,a.2.2.2.2.2.2.2.2.2,a.2.2.2.2.2.2.2.1,a.1,a.2.2.2.2.2.2.1,a.2.1,a.2.2.1,a.2.2.2.1,a.2.2.2.2.1,a.2.2.2.2.2.1,(0:Int))
def BU (e:Kz) (b:WK) (f:WJ->Option As) (d:Int) (h:bA) (c:Int) (a:(Int×Int×Int×Int×Int)×Int) (g:yQ):Option As:=
 ck ((List.length b.2.2.2.2.2.2.2.2.2.1:Int)+(List.length ([d]):Int)<=1099511627) (ck ((List.length b.2.1:Int)+(List.length ([(dV .u32 c e.1)]):Int)<=1099511627) (f ((dV .u32 c e.1),(b.2.1++([(dV .u32 c e.1)])),(wI .i64 (b.2.2.1+(1:Int))),a.1.1,a.1.2.1,a.1.2.2.1,a.1.2.2.2.1,a.1.2.2.2.2,h,(b.2.2.2.2.2.2.2.2.2.1++[d]),(b.2.2.2.2.2.2.2.2.2.2.1++([(a.1.1,a.1.2.1,a.1.2.2.1,a.1.2.2.2.1,a.1.2.2.2.2)])),g)))
def BS (U:Nat) (e:wC) (k:cE) (l:Int) (c:Kz) (a:WK) (i:WJ->Option As) (d:Int):Option As:=
 if¬(a.1≠(0:Int))then(vY  (a.2.1,a.2.2.2.1,a.2.2.2.2.1,a.2.2.2.2.2.1,a.2.2.2.2.2.2.1,a.2.2.2.2.2.2.2.1,a.2.2.2.2.2.2.2.2.1,a.2.2.2.2.2.2.2.2.2.1,a.2.2.2.2.2.2.2.2.2.2.1,a.2.2.2.2.2.2.2.2.2.2.2))else(Option.bind (fC U c.2.1 l a.1 d) λj=>(if(!j)=true then(zD  (a.2.2.2.2.2.2.2.2.2.2.1,a.2.2.2.2.2.2.2.2.2.2.2,([]:aP),([]:aP),([]:bA),(0:Int),(0:Int),(0:Int),(0:Int),(0:Int),(11:Int)))else(Option.bind (iL U ((((e.1,e.2.1,e.2.2)),((((e.1,e.2.1,e.2.2)),((k.1,k.2)),c.2.2.2.1,c.2.2.2.2)),c.2.2.1)) a.2.2.2.2.2.2.2.2.1 d) λf=>(Option.bind (cS U ((((e.1,e.2.1,e.2.2)),((((e.1,e.2.1,e.2.2)),((k.1,k.2)),c.2.2.2.1,c.2.2.2.2)),c.2.2.1)) f) λg=>(Option.bind (kC U ((a.2.2.2.1,a.2.2.2.2.1,a.2.2.2.2.2.1,a.2.2.2.2.2.2.1,a.2.2.2.2.2.2.2.1)) d (dV .u32 g c.1)) λb=>(Option.bind (lE U f) λh=>(ck ((List.length a.2.2.2.2.2.2.2.2.2.2.2:Int)+(List.length (([]:yQ)++[h]):Int)<=1099511627) (ck ((List.length a.2.2.2.2.2.2.2.2.2.2.1:Int)+(List.length ([(b.1.1,b.1.2.1,b.1.2.2.1,b.1.2.2.2.1,b.1.2.2.2.2)]):Int)<=1099511627) (BU c a i d f g b (a.2.2.2.2.2.2.2.2.2.2.2++(([]:yQ)++[h])))))))))))
def rQ (U:Nat) (g:wC) (h:cE) (f:Int) (e:aP) (c:Kz) (a:WK) (b:WJ->Option As):Option As:=
 if a.2.2.1<(List.length e:Int)then(ck (0<=a.2.2.1∧a.2.2.1<(List.length e:Int)) (Option.bind (eD U c.2.1 f a.1 (at' e a.2.2.1)) λd=>(BS U g h f c a b (d))))else(vY  (a.2.1,a.2.2.2.1,a.2.2.2.2.1,a.2.2.2.2.2.1,a.2.2.2.2.2.2.1,a.2.2.2.2.2.2.2.1,a.2.2.2.2.2.2.2.2.1,a.2.2.2.2.2.2.2.2.2.1,a.2.2.2.2.2.2.2.2.2.2.1,a.2.2.2.2.2.2.2.2.2.2.2))
def BR (U:Nat) (f:wC) (g:cE) (h:Int) (i:aP) (b:Kz) (e:bA) (c:Int) (a:(Int×Int×Int×Int×Int)) (d:yQ):Option As:=
 ck ((List.length ([]:aP):Int)+(List.length ([(dV .u32 c b.1)]):Int)<=1099511627) (bL (rQ U f g h i b) U ((dV .u32 c b.1),(([]:aP)++([(dV .u32 c b.1)])),(0:Int),a.1,a.2.1,a.2.2.1,a.2.2.2.1,a.2.2.2.2,e,([]:aP),(([]:Ky)++([(a.1,a.2.1,a.2.2.1,a.2.2.2.1,a.2.2.2.2)])),d))
def BQ (U:Nat) (d:wC) (g:cE) (h:Int) (i:bA) (j:aP) (b:Kz):Option As:=
 Option.bind (lE U i) λe=>(Option.bind (cS U ((((d.1,d.2.1,d.2.2)),((((d.1,d.2.1,d.2.2)),((g.1,g.2)),b.2.2.2.1,b.2.2.2.2)),b.2.2.1)) e) λf=>(Option.bind (tD U (dV .u32 f b.1)) λa=>(Option.bind (lE U e) λc=>(ck ((List.length ([]:yQ):Int)+(List.length (([]:yQ)++[c]):Int)<=1099511627) (ck ((List.length ([]:Ky):Int)+(List.length ([(a.1,a.2.1,a.2.2.1,a.2.2.2.1,a.2.2.2.2)]):Int)<=1099511627) (BR U d g h j b e f a (([]:yQ)++(([]:yQ)++[c]))))))))
def zE (U:Nat) (e:wC) (b:cE) (f:Int) (g:bA) (h:aP) (a:eY×Int×bA):Option As:=
 Option.bind (mS U ((b.1,b.2))) λc=>(Option.bind (xS U ((b.1,b.2))) λd=>(BQ U e b f g h (d,c,a.1,a.2.1,a.2.2)))
def zF (U:Nat) (c:wC) (d:cE) (e:Int) (f:bA) (g:aP) (a:Int×bA):Option As:=
 Option.bind (i_ U ((c.1,c.2.1,c.2.2)) ((d.1,d.2))) λb=>(zE U c d e f g (b,a.1,a.2))
def sR (U:Nat) (b:wC) (c:cE) (d:Int) (e:bA) (f:aP) (a:Int×bA):Option As:=
 zF U b c d e f (a.1,a.2)
def xF (d:cE) (a:Int×Int×bA) (b:(Int×Int×bA)->Option As) (c:bA):Option As:=
 b ((wI .i64 (a.1+(1:Int))),(max a.2.1 (at' d.1 a.1)),c)
def rR (U:Nat) (f:cE) (a:Int×Int×bA) (d:(Int×Int×bA)->Option As) (b:Int×bA) (e:(Int×bA)->Option As):Option As:=
 if b.1<(List.length (at' f.2 a.1):Int)then(ck (0<=b.1∧b.1<(List.length (at' f.2 a.1):Int)) (ck (0<=a.1∧a.1<(List.length b.2:Int)) (Option.bind (lY U ((f.1,f.2)) ((at' (at' f.2 a.1) b.1).1) a.1) λc=>(ck ((List.length (at' b.2 a.1):Int)+(List.length ([c]):Int)<=1099511627) (ck (0<=a.1∧a.1<(List.length (List.set b.2 (Int.toNat a.1) ((at' b.2 a.1)++[c])):Int)) (e ((wI .i64 (b.1+(1:Int))),(List.set b.2 (Int.toNat a.1) ((at' b.2 a.1)++[c])))))))))else(xF f a d (b.2))
def nE (U:Nat) (d:wC) (c:cE) (e:Int) (f:bA) (g:aP) (a:Int×Int×bA) (b:(Int×Int×bA)->Option As):Option As:=
 if a.1<(List.length c.2:Int)then(ck (0<=a.1∧a.1<(List.length c.2:Int)) (ck (0<=a.1∧a.1<(List.length c.1:Int)) (bL (rR U c a b) U ((0:Int),a.2.2))))else(sR U d c e f g (a.2.1,a.2.2))
def uN (U:Nat) (b:wC) (a:cE) (c:Int) (d:bA) (e:aP):Option As:=
 Option.bind (xU U ((b.1,b.2.1,b.2.2)) ((a.1,a.2)) c d (List.length e:Int)) λf=>(if f≠(0:Int)then(some (([]:yQ),([]:Ky),f))else(ck (0<=(List.length a.2:Int)∧(List.length a.2:Int)<=1099511627) (bL (nE U b a c d e) U ((0:Int),(0:Int),(List.replicate (Int.toNat (List.length a.2:Int)) ([]:aP))))))
theorem aax:aR Tryz.prog 29:=Tryz.call29
theorem NX (U:Nat) {s:wC} {G:cE} {R:Int} {p3:bA} {p4:aP} (u:Value)  (v:Value)  (E:Value)  (D:Value)  (z4:lA)  (v5:Value)  (z6:qE)  (v7:Value) (r:List bA×(List (Int×Int×Int×Int×Int))×Int) (h:uN U s G R p3 p4=some r):
  aV Tryz.prog 29 #[Value.agg #[vS (s.1),u,v],Value.agg #[E,D],vI (R),v5,v7] [Sl aK u s.2.1,Sl aH v s.2.2,PF (Value.agg #[vS s.1,u,v]),Sl bM E G.1,S2 a_ D z4 G.2,S2 bM v5 z6 p3,Sl wF v7 p4,Gb 0 (cellsOf EI sU)] (λx:Value×List Value×List (List Value)×Value=>Value.tuple #[x.1,x.2.2.2,vI (r.2.2)]) (λx l=>Ar cT.raw x.1 x.2.1::JP cD x.2.1 x.2.2.1 r.1::Ar cG x.2.2.2 r.2.1::l) (λ_ l=>l):=by
 refine aV.of Tryz.func29 Z Tryz.ntmps29 Z λc=>?_;refine aT<|aG (aL.box (cs:=[vS (s.1),u,v]) Z Z) Z λb1=>aG (aL.box (cs:=[E,D]) Z Z) Z λb2=>aD Z<|aD Z<|aD Z<|aM<|aJ<|aT<|dW 1 Z<|dW 0 Z<|aA Z<|aA Z<|aA Z<|jX (aE.fact 6 Z) Z<|eZ h λr3 w4 h=>aG (aL.callQ aaE (NY U u v E D z4 v5 z6 r3 w4) Z (nK [0,1,2,3,4,5] Z)) Z λx5=>aD Z<|aM<|aT<|aA Z<|qD Z<|aM ?_;refine fE h Z (λh=>?_) λh=>?_
 ·refine aT<|aA Z<|aD Z<|aD Z<|aD Z<|aM<|aS<|aI<|iW (gR cT.raw) (iW (zL cD) ?_);refine iW (gR cG) ?_;cases h;exact Hr ((kE),([]:eW),([]:List (List Value)),(kE)) Z Z (RV.tmp Z) (RV.tmp Z) (RV.tmp Z) (aY.ix [2,1,0] Z Z) aF.nil
 refine cU<|aT<|aG (aL.alloc (cs:=[kE]) Z Z) Z λM=>aM<|aT<|aG (aL.alloc (cs:=[kE]) Z Z) Z λN=>aM<|aT<|dW 3 Z<|dW 2 Z<|aA Z<|aC (wP (cs:=[.tmp 14,.tmp 15]) (vs:=[vP M,vP N]) Z) Z<|zJ (A:=Kz) (B:=Nat×Value×Nat×Value×List Value×Value×List Value) (vs:=[Value.agg #[vS (s.1),u,v],Value.agg #[E,D],vI (R),Value.func (.func 52) #[] #[vP M,vP N]]) (λg=>BQ U s G R p3 p4 g=some r) (λg a=>Value.agg #[vP a.1,a.2.1,vI (R),vU (g.1),Value.func (.func 52) #[] #[vP M,vP N]]) (λg a=>[Ar nZ a.2.1 g.2.1,bV a.1 [vS (s.1),u,v,vP a.2.2.1,a.2.2.2.1] 108,Ar cT.raw a.2.2.2.1 a.2.2.2.2.1,kF bZ a.2.2.2.2.1 g.2.2.1,bV a.2.2.1 [vS (s.1),u,v,E,D,vI (g.2.2.2.1),a.2.2.2.2.2.1] 137,Ar cT.raw a.2.2.2.2.2.1 a.2.2.2.2.2.2,kF cD a.2.2.2.2.2.2 g.2.2.2.2,bV N [kE] 33,bV M [kE] 32]) (λg a=>[Sl aK u s.2.1,Sl aH v s.2.2,PF (Value.agg #[vS s.1,u,v]),Sl bM E G.1,S2 a_ D z4 G.2,S2 bM v5 z6 p3,Sl wF v7 p4,Gb 0 (cellsOf EI sU)]) (qG.fn (show aR Tryz.prog 51 from Tryz.call51) Z) Tryz.func51 Z Tryz.ntmps51 Z Z ?_ ?_
 ·refine aT<|aG (aL.box (cs:=[vS (s.1),u,v]) Z Z) Z λaf=>aG (aL.box (cs:=[E,D]) Z Z) Z λag=>aG (aL.alloc (cs:=ZY) Z Z) Z λah=>aM<|aJ ?_;refine JR.start [0,0,3,0,15,0,0,95,0,511,1023] 9 mixedOrders (by decide +kernel) ?_;refine JR.open (by exact rfl) ?_;refine kS 2 Z<|kS 1 Z<|KQ (A:=eY×Int×bA) (B:=Nat×Nat×Value×List Value×Value×List Value) (vs:=[Value.agg #[vS (s.1),u,v],Value.agg #[E,D]]) (λP=>zE U s G R p3 p4 P=some r) (λP t=>vP t.1) (λP t=>[bV t.1 [vS (s.1),u,v,vP t.2.1,t.2.2.1] 108,Ar cT.raw t.2.2.1 t.2.2.2.1,kF bZ t.2.2.2.1 P.1,bV t.2.1 [vS (s.1),u,v,E,D,vI (P.2.1),t.2.2.2.2.1] 137,Ar cT.raw t.2.2.2.2.1 t.2.2.2.2.2,kF cD t.2.2.2.2.2 P.2.2,bV ah ZY 97,bV ag [E,D] 29,bV af [vS (s.1),u,v] 60,bV N [kE] 33,bV M [kE] 32]) (λP t=>[Sl aK u s.2.1,Sl aH v s.2.2,PF (Value.agg #[vS s.1,u,v]),Sl bM E G.1,S2 a_ D z4 G.2,S2 bM v5 z6 p3,Sl wF v7 p4,Gb 0 (cellsOf EI sU)]) Z Z Z (qG.fn (show aR Tryz.prog 43 from Tryz.call43) Z) Tryz.func43 Z Tryz.ntmps43 Z Z (λ_ _=>(rY [] Z)) ?_ ?_
  ·refine aT<|aG (aL.box (cs:=[vS (s.1),u,v]) Z Z) Z λar=>aG (aL.box (cs:=[E,D]) Z Z) Z λau=>aD Z<|aM<|aJ ?_;refine JR.start [0,0,0,6,0,0,62,127,255,511] 7 mixedOrders (by decide +kernel) ?_;refine JR.open (by exact rfl) ?_;refine kS 1 Z<|kS 1 Z<|kS 0 Z<|KQ (A:=Int×bA) (B:=Nat×Value×List Value) (vs:=[Value.agg #[vS (s.1),u,v],Value.agg #[E,D]]) (λS=>zF U s G R p3 p4 S=some r) (λS I=>vP I.1) (λS I=>[bV I.1 [vS (s.1),u,v,E,D,vI (S.1),I.2.1] 137,Ar cT.raw I.2.1 I.2.2,kF cD I.2.2 S.2,bV au [E,D] 29,bV ar [vS (s.1),u,v] 60,bV ah ZY 97,bV ag [E,D] 29,bV af [vS (s.1),u,v] 60,bV N [kE] 33,bV M [kE] 32]) (λS I=>[Sl aK u s.2.1,Sl aH v s.2.2,PF (Value.agg #[vS s.1,u,v]),Sl bM E G.1,S2 a_ D z4 G.2,S2 bM v5 z6 p3,Sl wF v7 p4,Gb 0 (cellsOf EI sU)]) Z Z Z (qG.fn (show aR Tryz.prog 66 from Tryz.call66) Z) Tryz.func66 Z Tryz.ntmps66 Z Z (λ_ _=>(rY [([4],[])] Z)) ?_ ?_
   ·refine aT<|aG (aL.box (cs:=[vS (s.1),u,v]) Z Z) Z λc6=>aG (aL.box (cs:=[E,D]) Z Z) Z λai=>aD Z<|aM<|aJ ?_;refine JR.start [0,0,0,4,12,28,63,127,255] 6 mixedOrders (by decide +kernel) ?_;refine JR.open (by exact rfl) ?_;refine kS 1 Z<|kS 0 Z<|cR Z<|gY 0 Z<|bJ Z .nil (mE 4 Z) (iX Z (aE.fact 0 Z) Z) aO.z<|dO h λck h=>JR.stp (uF cD (Int.toNat (List.length G.2:Int)))<|JR.loud Z Z Z (pC (e:=cT.raw) (kE) Z Z Z Z ck Z Z Z) Z (λL=>(rY [([2],[]),([3],[])] Z)) λL=>bR 6 Z Z<|bX (Know.one (aE.sl (bT (i:=0) (j:=1) Z Z eG))) λb0=>?_;refine aC (KW (r:=Value.agg #[vS (s.1),u,v,E,D,vI (0:Int),L]) Z Z Z (by intro w;simp[Instr.build,Instr.fill,dH,cW,cH,dJ,dK,cX,eI,eR b0])) Z ?_;refine aG (aL.box (cs:=[vS (s.1),u,v,E,D,vI (0:Int),L]) Z Z) Z λT=>aD Z<|aM<|aJ<|Cr (B:=eW) (λX=>sR U s G R p3 p4 X=some r) (λX av=>[(5,vP T)]) (λX av=>[bV T [vS (s.1),u,v,E,D,vI (X.1),L] 137,Ar cT.raw L av,kF cD av X.2,bV au [E,D] 29,bV ar [vS (s.1),u,v] 60,bV ah ZY 97,bV ag [E,D] 29,bV af [vS (s.1),u,v] 60,bV N [kE] 33,bV M [kE] 32]) ?_ ?_
    ·refine aT<|bU Z<|dL 3 Z<|aC (iX Z (aE.fact 4 Z) Z) Z<|aA Z<|aM<|aU<|fD (B:=eW) (nE U s G R p3 p4) (λo aj=>[(3,vP ai),(5,vP T),(19,D),(20,vI (List.length G.2:Int)),(21,vI (o.1))]) (λo aj=>[bV T [vS (s.1),u,v,E,D,vI (o.2.1),L] 137,Ar cT.raw L aj,kF cD aj o.2.2,bV ai [E,D] 29,bV au [E,D] 29,bV ar [vS (s.1),u,v] 60,bV ah ZY 97,bV ag [E,D] 29,bV af [vS (s.1),u,v] 60,bV N [kE] 33,bV M [kE] 32]) ((0:Int),(0:Int),(List.replicate (Int.toNat (List.length G.2:Int)) ([]:aP))) (List.replicate (Int.toNat (List.length G.2:Int)) (kE)) h SF (aY.ix [0,1,2,3,5,6,7,8,9,10,11] Z Z) ?_;intro bi o aj h;refine aT<|dA Z<|aM<|aJ ?_;refine fE h Z (λh=>?_) λh=>?_
     ·refine cU<|aJ<|Cr (B:=eW) (λae=>xF G o (bL (nE U s G R p3 p4) bi) ae=some r) (λae aw=>[(3,vP ai),(5,vP T),(19,D),(20,vI (List.length G.2:Int)),(21,vI (o.1))]) (λae aw=>[bV T [vS (s.1),u,v,E,D,vI (max o.2.1 (at' G.1 o.1)),L] 137,Ar cT.raw L aw,kF cD aw ae,bV ai [E,D] 29,bV au [E,D] 29,bV ar [vS (s.1),u,v] 60,bV ah ZY 97,bV ag [E,D] 29,bV af [vS (s.1),u,v] 60,bV N [kE] 33,bV M [kE] 32]) ?_ ?_
      ·refine aU<|aT<|aA Z<|dO h λaa h=>aC (c_ Z Z (aE.fact 4 Z) Z Z aa) Z<|aC (dB Z (aE.fact 4 Z) Z Z aa) Z<|aD Z<|aD Z<|aM<|aJ ?_;refine JR.start [0,0,2,6,14,0,32,0,224,480,1022,2047,4095,8191] 11 mixedOrders (by decide +kernel) ?_;refine JR.open (by exact rfl) ?_;refine bH Z<|bH Z<|iD Z (bS Z)<|cR Z<|gY 0 Z<|cR Z<|gY 3 Z<|bH Z<|dO h λbf h=>bJ Z .nil (mE 3 Z) (bE Z Z (aE.fact 0 Z) Z Z bf) aO.z<|bJ Z .nil (mE 3 Z) (b_ Z (aE.fact 0 Z) Z Z Z dU bf) aO.z<|iD Z (Ic Z Z)<|bR 11 Z Z<|aC (bS Z) Z<|bU Z<|fX 0 Z Z Z Z Z Z<|aM<|aT<|aA Z<|aC (iU Z (aE.el (aE.fact 4 Z) aa.1 aa.2) Z) Z<|aA Z<|aM<|aU<|fD (B:=eW) (rR U G o (bL (nE U s G R p3 p4) bi)) (λK ak=>[(3,vP ai),(5,vP T),(6,vI (o.1)),(19,D),(20,vI (List.length G.2:Int)),(21,vI (o.1)),(39,(at' z4 o.1).1),(40,vI (List.length (at' G.2 o.1):Int)),(41,vI (K.1))]) (λK ak=>[bV T [vS (s.1),u,v,E,D,vI (max o.2.1 (at' G.1 o.1)),L] 137,Ar cT.raw L ak,kF cD ak K.2,bV ai [E,D] 29,bV au [E,D] 29,bV ar [vS (s.1),u,v] 60,bV ah ZY 97,bV ag [E,D] 29,bV af [vS (s.1),u,v] 60,bV N [kE] 33,bV M [kE] 32]) ((0:Int),o.2.2) (aj) h SF (aY.refl _) ?_;intro c8 K ak h;refine aT<|dA Z<|aM<|aJ ?_;refine fE h Z (λh=>?_) λh=>?_
       ·refine cU<|aJ<|aU<|aT<|dO h λbg h=>aC (bE Z Z (aE.el (aE.fact 4 Z) aa.1 aa.2) Z Z bg) Z<|aC (h_ (cs:=[vI ((at' (at' G.2 o.1) K.1).1),vI ((at' (at' G.2 o.1) K.1).2)]) Z (aE.el (aE.fact 4 Z) aa.1 aa.2) bQ Z Z Z Z bg) Z<|aG (aL.alloc (cs:=Tz) Z Z) Z λc7=>bN 0 (vs:=[vI ((at' (at' G.2 o.1) K.1).1),vI ((at' (at' G.2 o.1) K.1).2)]) Z Z Z Z Z Z<|aM ?_;refine JR.start [0,1,3,7,0,0,32,96,224,0,992,2016,0,0,8192,0,61440,126976,262112,524287,1048575] 19 mixedOrders (by decide +kernel) ?_;refine JR.open (by exact rfl) ?_;refine bH Z<|iD Z (bS Z)<|cR Z<|gY 1 Z<|bH Z<|bH Z<|iD Z (bS Z)<|cR Z<|gY 1 Z<|bH Z<|dO h λaX h=>dG (cZ 3 Z) λbp=>?_;refine bJ Z (aY.cons 2 Z .nil) .nil (gM 0 Z Z Z Z Z aX.1 (by have q1:=aX.2;have q2:=bp;(try simp only[List.length_set]at q1);(try simp only[List.length_set]at q2);(try simp only[List.length_set]);omega)) aO.z ?_;refine dG (cZ 3 Z) λbq=>bJ Z (aY.cons 2 Z .nil) .nil (kP 0 Z Z bq Z Z aX) aO.z<|kS 4 Z<|cR Z<|gY 0 Z<|bH Z<|eZ h λax cM h=>JR.loud Z Z Z (aL.callQ UJ (Dh U E D z4 ax cM) Z (nK [3,4] Z)) Z (λcY=>(rY [([2],[]),([2],[]),([1],[]),([1],[])] Z)) λcY=>JR.loud Z Z Z (bW (e:=cD) ([ax]) [(0,vI (ax))] Z Z Z Z (lQ (vI (ax)) Z) Z Z Z) Z (λcx=>(rY [([3],[]),([3],[]),([2],[]),([2],[])] Z)) λcx=>dO h λcl h=>JR.loud Z Z Z (mP 4 eG Z Z Z (bG (aE.res 0 Z) eG) Z Z Z Z aX cl Z) Z (λbo=>(rY [([2],[])] Z)) λbo=>bR 19 Z Z<|dO h λab h=>bX (cZ 4 Z) λbr=>?_;refine aC (gM 3 Z Z Z Z Z ab.1 (by have q1:=ab.2;have q2:=br;(try simp only[List.length_set]at q1);(try simp only[List.length_set]at q2);(try simp only[List.length_set]);omega)) Z ?_;refine bX (xN 4 (k:=o.1) Z ⟨ab.1,by first|exact ab.2|simpa using ab.2⟩) λb3=>?_;refine nF 3 4 ⟨ab.1,by first|exact ab.2|simpa using ab.2⟩ Z Z Z Z Z (by simp) b3 Z ?_;refine eN<|oM<|aQ<|cQ Z<|aA Z<|aM ?_;exact lM ((wI .i64 (K.1+(1:Int))),(List.set K.2 (Int.toNat o.1) ((at' K.2 o.1)++[ax]))) (List.set ak (Int.toNat o.1) bo) h SF (aY.ix [2,3,4,5,6,7,8,9,10,11,12] Z Z) (aF.refl _ _)
       refine uV<|gK<|gK<|Av<|oM ?_;exact jL (K.2) (ak) h SF Z
      intro ae aw h;unfold xF at h;refine aQ<|cQ Z<|aA Z<|aM ?_;exact AK ((wI .i64 (o.1+(1:Int))),(max o.2.1 (at' G.1 o.1)),ae) (aw) h SF Z
     refine fS ?_;exact cV (o.2.1,o.2.2) (aj) h SF (aY.ix [0,1,2,4,5,6,7,8,9,10] Z Z) (aF.refl _ _)
    intro X av h;unfold sR at h;refine aT<|aA Z<|aD Z<|aM<|aS ?_;exact qJ (X.1,X.2) (T,L,av) h (.inl Z) (EP.r1 Z (RV.tmp Z)) Z (aY.refl _) (aF.refl _ _)
   intro S I h;unfold zF at h;refine bJ Z (aY.cons 4 Z .nil) .nil (fY 0 Z Z Z Z) (aO.h (aY.ix [1] Z Z) .nil aO.z)<|bJ Z (aY.cons 3 Z .nil) .nil (fY 0 Z Z Z Z) (aO.h (aY.ix [0] Z Z) .nil aO.z)<|eZ h λbn cL h=>JR.loud Z Z Z (aL.callQ Pf (Ai U u v E D z4 bn cL) Z (nK [0,1,2,3,4] Z)) Z (λay=>(rY [([6],[])] Z)) λay=>bR 7 Z Z<|bX (Know.one (aE.sl (bT (i:=0) (j:=1) Z Z bQ))) λbY=>?_;refine aC (KW (r:=Value.agg #[vS (s.1),u,v,Value.pointer (some ⟨I.1,0,none⟩),ay.1]) Z Z Z (by intro w;simp[Instr.build,Instr.fill,dH,cW,cH,dJ,dK,cX,eI,eR bY])) Z ?_;refine aG (aL.box (cs:=[vS (s.1),u,v,vP I.1,ay.1]) Z Z) Z λb4=>aD Z<|aM<|aS ?_;exact qJ (bn,S.1,S.2) (b4,I.1,ay.1,ay.2,I.2.1,I.2.2) h (.inl Z) (EP.r1 Z (RV.tmp Z)) Z (aY.ix [0,1,2,3,4,5,8,9,10,11,12] Z Z) (aF.refl _ _)
  intro P t h;unfold zE at h;refine bJ Z (aY.cons 7 Z .nil) .nil (fY 0 Z Z Z Z) (aO.h (aY.ix [1] Z Z) .nil aO.z)<|eZ h λbm cJ h=>JR.loud Z Z Z (aL.callQ aaO (Hi U E D z4 bm cJ) Z (nK [3,4] Z)) Z (λa1=>(rY [] Z)) λa1=>iD Z (iY Z)<|bJ Z (aY.cons 8 Z .nil) .nil (fY 0 Z Z Z Z) (aO.h (aY.ix [7] Z Z) .nil (aO.h (aY.ix [1] Z Z) .nil aO.z))<|eZ h λa0 cK h=>JR.loud Z Z Z (aL.callQ aaP (NW U E D z4 a0 cK) Z (nK [3,4] Z)) Z (λcS=>(rY [] Z)) λcS=>iD Z (iY Z)<|bR 9 Z Z<|bX (Know.one ((bG (aE.res 0 Z) tT))) λbK=>?_;refine aC (Y.bld5 (r:=Value.agg #[Value.pointer (some ⟨t.1,0,none⟩),a1,vI (R),vU (a0),Value.func (.func 52) #[] #[Value.pointer (some ⟨M,0,none⟩),Value.pointer (some ⟨N,0,none⟩)]]) Z Z Z Z Z (by intro w;simp[Instr.build,Instr.fill,dH,cW,cH,dJ,dK,cX,eI,eR bK])) Z ?_;refine bX (Know.one ((bG (aE.res 0 Z) tT))) λbP=>bN 7 (vs:=[vP t.1,a1,vI (R),vU (a0),Value.func (.func 52) #[] #[vP M,vP N]]) Z Z (jK Z (jK bP (jK Z (jK Z (jK Z Z))))) Z Z Z<|aM<|aS ?_;exact qJ (a0,bm,P.1,P.2.1,P.2.2) (t.1,a1,t.2.1,t.2.2.1,t.2.2.2.1,t.2.2.2.2.1,t.2.2.2.2.2) h (.inl Z) (EP.r1 Z (RV.cell 7 Z Z Z Z)) Z (aY.ix [0,1,2,3,4,5,6,10,11] Z Z) (aF.refl _ _)
 intro g a h;refine aG (aL.alloc (cs:=ZY) Z Z) Z λdg=>bX (Know.one ((bG (aE.res 1 Z) tT))) λb5=>bN 0 (vs:=[vP a.1,a.2.1,vI (R),vU (g.1),Value.func (.func 52) #[] #[vP M,vP N]]) Z Z (jK Z (jK b5 (jK Z (jK Z (jK Z Z))))) Z Z Z<|aM<|aJ<|aT<|dW 0 Z<|aA Z<|aA Z<|zJ (A:=ZS) (B:=Value×Value×Value×Value×Value×List Value×List Value×List (List Value)) (vs:=[Value.agg #[vP a.1,a.2.1,vI (R),vU (g.1),Value.func (.func 52) #[] #[vP M,vP N]],v5,v7]) (λJ=>Fx  J=some r) (λJ F=>Value.tuple #[Value.agg #[F.1,F.2.1,F.2.2.1,vI (J.1),vI (J.2.1),vI (J.2.2.1),vI (J.2.2.2.1),vU (J.2.2.2.2.1)],vI (J.2.2.2.2.2.1)]) (λJ F=>[Ar cG F.2.2.2.1 J.2.2.2.2.2.2.2.2.2.1,JP cD F.2.2.2.2.2.2.1 F.2.2.2.2.2.2.2 J.2.2.2.2.2.2.2.2.2.2,Ar cT.raw F.2.2.2.2.1 F.2.2.2.2.2.2.1,bV N [F.2.2.2.1] 33,bV M [F.2.2.2.2.1] 32,Ar nZ F.1 J.2.2.2.2.2.2.1,Ar nZ F.2.1 J.2.2.2.2.2.2.2.1,Ar cT.raw F.2.2.1 F.2.2.2.2.2.1,kF cD F.2.2.2.2.2.1 J.2.2.2.2.2.2.2.2.1]) (λJ F=>[Sl aK u s.2.1,Sl aH v s.2.2,PF (Value.agg #[vS s.1,u,v]),Sl bM E G.1,S2 a_ D z4 G.2,S2 bM v5 z6 p3,Sl wF v7 p4,Gb 0 (cellsOf EI sU)]) (qG.fn (show aR Tryz.prog 54 from Tryz.call54) Z) Tryz.func54 Z Tryz.ntmps54 Z Z ?_ ?_
 ·refine aT<|aG (aL.box (cs:=[vP a.1,a.2.1,vI (R),vU (g.1),Value.func (.func 52) #[] #[vP M,vP N]]) Z Z) Z λao=>bX (Know.one ((aE.fact 6 Z))) λcb=>?_;refine aG (aL.box (cs:=[v7]) Z (by rw[eR cb])) Z λap=>?_;refine aG (aL.alloc (cs:=Oe) Z Z) Z λa2=>aD Z<|aM<|aT<|dW 2 Z<|aA Z<|dL 1 Z<|jX (aE.fact 6 Z) Z<|aC (wP (cs:=[.tmp 3,.tmp 5]) (vs:=[vP ao,vP ap]) Z) Z<|zJ (A:=ZT) (B:=Value×Value×List Value×List (List Value)×Value×Value×Value×List Value) (vs:=[Value.agg #[vP a.1,a.2.1,vI (R),vU (g.1),Value.func (.func 52) #[] #[vP M,vP N]],v5,vI (List.length p4:Int),Value.func (.func 82) #[] #[vP ao,vP ap]]) (λy=>zD  y=some r) (λy C=>Value.tuple #[Value.agg #[C.2.2.2.2.1,C.2.2.2.2.2.1,C.2.2.2.2.2.2.1,vI (y.2.2.2.2.2.1),vI (y.2.2.2.2.2.2.1),vI (y.2.2.2.2.2.2.2.1),vI (y.2.2.2.2.2.2.2.2.1),vU (y.2.2.2.2.2.2.2.2.2.1)],vI (y.2.2.2.2.2.2.2.2.2.2)]) (λy C=>[Ar cG C.1 y.1,JP cD C.2.2.1 C.2.2.2.1 y.2.1,Ar cT.raw C.2.1 C.2.2.1,bV a2 Oe 78,bV N [C.1] 33,bV M [C.2.1] 32,Ar nZ C.2.2.2.2.1 y.2.2.1,Ar nZ C.2.2.2.2.2.1 y.2.2.2.1,Ar cT.raw C.2.2.2.2.2.2.1 C.2.2.2.2.2.2.2,kF cD C.2.2.2.2.2.2.2 y.2.2.2.2.1]) (λy C=>[Sl aK u s.2.1,Sl aH v s.2.2,PF (Value.agg #[vS s.1,u,v]),Sl bM E G.1,S2 a_ D z4 G.2,S2 bM v5 z6 p3,Sl wF v7 p4,Gb 0 (cellsOf EI sU)]) (qG.fn (show aR Tryz.prog 81 from Tryz.call81) Z) Tryz.func81 Z Tryz.ntmps81 Z Z ?_ ?_
  ·refine aT<|aG (aL.box (cs:=[vP a.1,a.2.1,vI (R),vU (g.1),Value.func (.func 52) #[] #[vP M,vP N]]) Z Z) Z λa5=>aG (aL.alloc (cs:=Oe) Z Z) Z λaB=>aD Z<|aM<|aT<|aG (aL.alloc (cs:=Oe) Z Z) Z λaN=>aM<|aT<|aA Z<|eZ h λa3 c0 h=>aG (aL.callQ Le (xJ U v5 z6 a3 c0) Z (nK [5] Z)) Z λad=>aD Z<|aM<|aJ ?_;refine JR.start [0,1,0,7,0,16,63,127] 6 mixedOrders (by decide +kernel) ?_;refine JR.open (by exact rfl) ?_;refine cR Z<|gY 4 Z<|bH Z<|eZ h λaq c1 h=>JR.loud Z Z Z (aL.callQ Pb (oW U a.1 u v a.2.2.1 u v E D z4 a.2.2.2.2.2.1 (List.zip a.2.2.2.2.2.2 g.2.2.2.2) a.2.2.2.1 (List.zip a.2.2.2.2.1 g.2.2.1) ad.1 (List.zip ad.2 a3) aq c1) Z (aF.cons (aE.res 10 Z) (aF.cons (aE.fact 0 Z) (aF.cons (aE.fact 1 Z) (aF.cons (aE.res 13 Z) (aF.cons (aE.fact 0 Z) (aF.cons (aE.fact 1 Z) (aF.cons (aE.fact 3 Z) (aF.cons (aE.fact 4 Z) (aF.cons (bT (i:=14) (j:=15) Z Z eG) (aF.cons (bT (i:=11) (j:=12) Z Z bQ) (aF.cons (bT (i:=0) (j:=1) Z Z eG) .nil)))))))))))) Z (λc3=>(rY [] Z)) λc3=>iD Z (eQ Z Z Z Z Z)<|bJ Z (aY.cons 4 Z .nil) .nil (fV 0 Z Z Z Z Z) (aO.h (aY.ix [4] Z Z) .nil aO.z)<|bR 6 Z Z<|yM Z<|aD Z<|aM<|aT<|aA Z<|eZ h λm c2 h=>aG (aL.callQ XS (Hg U  m c2) Z .nil) Z λdj=>aG (aL.alloc (cs:=ZZ) Z Z) Z λaW=>bN 0 (vs:=[vI (m.1),vI (m.2.1),vI (m.2.2.1),vI (m.2.2.2.1),vU (m.2.2.2.2)]) Z Z Z Z Z Z<|aM<|aT<|bU Z<|dL 5 Z<|aA Z<|aA Z<|dW 0 Z<|zJ (A:=yQ) (B:=Value×Value×List Value×List (List Value)) (vs:=[ad.1,vU (dV .u32 aq g.1),Value.agg #[vI (m.1),vI (m.2.1),vI (m.2.2.1),vI (m.2.2.2.1),vU (m.2.2.2.2)],vP M,vP N]) (λaz=>BR U s G R p4 g a3 aq m az=some r) (λaz V=>Value.tuple #[]) (λaz V=>[Ar cG V.1 (([]:Ky)++([(m.1,m.2.1,m.2.2.1,m.2.2.2.1,m.2.2.2.2)])),JP cD V.2.2.1 V.2.2.2 az,Ar cT.raw V.2.1 V.2.2.1,bV aW [vI (m.1),vI (m.2.1),vI (m.2.2.1),vI (m.2.2.2.1),vU (m.2.2.2.2)] 49,Ar cT.raw ad.1 ad.2,kF cD ad.2 a3,bV aN Oe 78,bV aB Oe 78,bV a5 [vP a.1,a.2.1,vI (R),vU (g.1),Value.func (.func 52) #[] #[vP M,vP N]] 97,bV a2 Oe 78,bV ap [v7] 26,bV ao [vP a.1,a.2.1,vI (R),vU (g.1),Value.func (.func 52) #[] #[vP M,vP N]] 97,Ar nZ a.2.1 g.2.1,bV a.1 [vS (s.1),u,v,vP a.2.2.1,a.2.2.2.1] 108,Ar cT.raw a.2.2.2.1 a.2.2.2.2.1,kF bZ a.2.2.2.2.1 g.2.2.1,bV a.2.2.1 [vS (s.1),u,v,E,D,vI (g.2.2.2.1),a.2.2.2.2.2.1] 137,Ar cT.raw a.2.2.2.2.2.1 a.2.2.2.2.2.2,kF cD a.2.2.2.2.2.2 g.2.2.2.2,bV N [V.1] 33,bV M [V.2.1] 32]) (λaz V=>[Sl aK u s.2.1,Sl aH v s.2.2,PF (Value.agg #[vS s.1,u,v]),Sl bM E G.1,S2 a_ D z4 G.2,S2 bM v5 z6 p3,Sl wF v7 p4,Gb 0 (cellsOf EI sU)]) (FP (us:=[ad.1,vU (dV .u32 aq g.1),Value.agg #[vI (m.1),vI (m.2.1),vI (m.2.2.1),vI (m.2.2.2.1),vU (m.2.2.2.2)]]) (cs:=[vP M,vP N]) (show aR Tryz.prog 52 from Tryz.call52) Z Z Z) Tryz.func52 Z Tryz.ntmps52 Z Z ?_ ?_
   ·refine aT<|aG (aL.box (cs:=[vI (m.1),vI (m.2.1),vI (m.2.2.1),vI (m.2.2.2.1),vU (m.2.2.2.2)]) Z Z) Z λc5=>aM<|aJ ?_;refine JR.start [0,0,2,6,15,31] 4 mixedOrders (by decide +kernel) ?_;refine JR.open (by exact rfl) ?_;refine gY 19 Z<|bH Z<|eZ h λbl cI h=>JR.loud Z Z Z (aL.callQ Le (xJ U ad.1 (List.zip ad.2 a3) bl cI) Z (aF.cons (bT (i:=2) (j:=3) Z Z eG) .nil)) Z (λan=>(rY [([21],[])] Z)) λan=>dG (Know.one (aE.sl (bT (i:=0) (j:=1) Z Z eG))) λbb=>JR.stp (zL cD)<|JR.stp (Ql 1 2 Z Z Z)<|JR.stp (HW 0 1 Z Z Z) ?_;refine JR.loud Z Z Z (bW (e:=cT.raw) (([]:eW)++[an.1]) [(0,an.1)] Z Z Z Z (lQ (an.1) bb) Z Z (by simp[cellsOf,cT.raw,bb])) Z (λcu=>(rY [([21],[])] Z)) λcu=>?_;refine bR 4 Z Z<|iW (gR cT.raw) (iW (zL cD) ?_);refine bX (uY 0 Z) λa8=>bX (uY 3 Z) λa9=>dO h λbe h=>iW (HX 0 3 Z Z Z) ?_;refine aG (aL.append 1 2 Z Z Z Z Z Z Z (by have q:=be;have q1:=a8;have q2:=a9;(try simp only[List.length_cons,List.length_nil,List.length_append]at q q1 q2 ⊢);omega) (by have q:=be;have q1:=a8;have q2:=a9;(try simp only[List.length_cons,List.length_nil,List.length_append]at q q1 q2 ⊢);omega) Z) Z λcv=>?_;refine bX (HS 1 Z) λbF=>fX 22 Z Z bF Z Z Z<|aM<|aQ<|dL 21 Z<|dW 3 Z<|aG (bW (e:=cG) ([((m.1,m.2.1,m.2.2.1,m.2.2.2.1,m.2.2.2.2))]) [(0,Value.agg #[vI (m.1),vI (m.2.1),vI (m.2.2.1),vI (m.2.2.2.1),vU (m.2.2.2.2)])] Z Z Z Z (Nf (vI (m.1)) (vI (m.2.1)) (vI (m.2.2.1)) (vI (m.2.2.2.1)) (vU (m.2.2.2.2))) Z Z Z) Z λdc=>iW (gR cG)<|dO h λcj h=>aG (eL 0 iV Z Z Z (bG (aE.res 1 Z) iV) Z Z Z Z cj Z) Z λcw=>bX (Know.one ((bG (aE.res 0 Z) iV))) λbI=>fX 23 Z Z bI Z Z Z<|eN ?_;exact qJ (([]:yQ)++(([]:yQ)++[bl])) (cw,cv,(([]:eW)++(([]:eW)++[an.1])),(([]:List (List Value))++(([]:List (List Value))++[an.2]))) h (.inr Z) (EP.r0 Z) Z (aY.ix [0,2,3,6,7,8,9,10,11,12,13,14,16,17,18,19,20,21,22,23,24] Z Z) (aF.refl _ _)
   intro az V h;refine aM<|aT<|bU Z<|dL 6 Z<|aA Z<|aG (bW (e:=nZ) ([(dV .u32 aq g.1)]) [(0,vU (dV .u32 aq g.1))] Z Z Z Z (lQ (vU (dV .u32 aq g.1)) Z) Z Z Z) Z λdi=>iW (gR nZ)<|dO h λcf h=>aG (eL 0 tT Z Z Z (bG (aE.res 1 Z) tT) Z Z Z Z cf Z) Z λcn=>bU Z<|bX (Know.one ((bG (aE.res 0 Z) tT))) λbs=>fX 8 Z Z bs Z Z Z<|aM<|aJ<|Cr (B:=Value×List Value×Value×Value×Value×Value×List Value×List (List Value)) (λn=>vY  n=some r) (λn p=>[(1,p.1),(8,vP aB),(10,vP aN),(12,vP aW)]) (λn p=>[Ar nZ p.2.2.2.1 n.1,Ar cG p.2.2.2.2.1 n.2.2.2.2.2.2.2.2.1,JP cD p.2.2.2.2.2.2.1 p.2.2.2.2.2.2.2 n.2.2.2.2.2.2.2.2.2,Ar cT.raw p.2.2.2.2.2.1 p.2.2.2.2.2.2.1,bV aW [vI (n.2.1),vI (n.2.2.1),vI (n.2.2.2.1),vI (n.2.2.2.2.1),vU (n.2.2.2.2.2.1)] 49,Ar cT.raw p.1 p.2.1,kF cD p.2.1 n.2.2.2.2.2.2.1,bV aN [p.2.2.1,p.2.2.2.1,kE,vI (0:Int),vI (0:Int),vI (0:Int),vI (0:Int),vU (0:Int)] 78,bV aB Oe 78,bV a2 Oe 78,bV N [p.2.2.2.2.1] 33,bV M [p.2.2.2.2.2.1] 32,Ar nZ p.2.2.1 n.2.2.2.2.2.2.2.1]) ?_ ?_
   ·refine aT<|aA Z<|aA Z<|aM<|aU<|iW (gR nZ)<|fD (B:=Value×List Value×Value×Value×Value×Value×List Value×List (List Value)) (rQ U s G R p4 g) (λb d=>[(1,d.1),(3,Value.func (.func 82) #[] #[vP ao,vP ap]),(4,vP a5),(8,vP aB),(10,vP aN),(11,vU (b.1)),(12,vP aW),(39,vI (List.length p4:Int)),(40,vI (b.2.2.1))]) (λb d=>[Ar nZ d.2.2.2.1 b.2.1,Ar cG d.2.2.2.2.1 b.2.2.2.2.2.2.2.2.2.2.1,JP cD d.2.2.2.2.2.2.1 d.2.2.2.2.2.2.2 b.2.2.2.2.2.2.2.2.2.2.2,Ar cT.raw d.2.2.2.2.2.1 d.2.2.2.2.2.2.1,bV aW [vI (b.2.2.2.1),vI (b.2.2.2.2.1),vI (b.2.2.2.2.2.1),vI (b.2.2.2.2.2.2.1),vU (b.2.2.2.2.2.2.2.1)] 49,Ar cT.raw d.1 d.2.1,kF cD d.2.1 b.2.2.2.2.2.2.2.2.1,bV aN [d.2.2.1,d.2.2.2.1,kE,vI (0:Int),vI (0:Int),vI (0:Int),vI (0:Int),vU (0:Int)] 78,bV aB Oe 78,bV a5 [vP a.1,a.2.1,vI (R),vU (g.1),Value.func (.func 52) #[] #[vP M,vP N]] 97,bV a2 Oe 78,bV ap [v7] 26,bV ao [vP a.1,a.2.1,vI (R),vU (g.1),Value.func (.func 52) #[] #[vP M,vP N]] 97,Ar nZ a.2.1 g.2.1,bV a.1 [vS (s.1),u,v,vP a.2.2.1,a.2.2.2.1] 108,Ar cT.raw a.2.2.2.1 a.2.2.2.2.1,kF bZ a.2.2.2.2.1 g.2.2.1,bV a.2.2.1 [vS (s.1),u,v,E,D,vI (g.2.2.2.1),a.2.2.2.2.2.1] 137,Ar cT.raw a.2.2.2.2.2.1 a.2.2.2.2.2.2,kF cD a.2.2.2.2.2.2 g.2.2.2.2,bV N [d.2.2.2.2.1] 33,bV M [d.2.2.2.2.2.1] 32,Ar nZ d.2.2.1 b.2.2.2.2.2.2.2.2.2.1]) ((dV .u32 aq g.1),(([]:aP)++([(dV .u32 aq g.1)])),(0:Int),m.1,m.2.1,m.2.2.1,m.2.2.2.1,m.2.2.2.2,a3,([]:aP),(([]:Ky)++([(m.1,m.2.1,m.2.2.1,m.2.2.2.1,m.2.2.2.2)])),az) (ad.1,ad.2,(kE),cn,V.1,V.2.1,V.2.2.1,V.2.2.2) h SF (aY.ix [1,3,4,5,6,7,8,9,10,11,12,13,14,15,16,17,18,19,20,21,22,23,0] Z Z) ?_;intro bh b d h;refine aT<|dA Z<|aM<|aJ ?_;refine fE h Z (λh=>?_) λh=>?_
    ·refine cU<|aJ<|aU<|aT<|aA Z<|aD Z<|aM<|aT<|aA Z<|aA Z<|aA Z<|zJ (A:=Int) (B:=Unit) (vs:=[vI (b.2.2.1),vU (b.1),vP ao,vP ap]) (λO=>BS U s G R g b (bL (rQ U s G R p4 g) bh) O=some r) (λO a4=>Value.tuple #[vU (O),vB (decide (b.1≠(0:Int)))]) (λO a4=>[Ar nZ d.2.2.2.1 b.2.1,Ar cG d.2.2.2.2.1 b.2.2.2.2.2.2.2.2.2.2.1,JP cD d.2.2.2.2.2.2.1 d.2.2.2.2.2.2.2 b.2.2.2.2.2.2.2.2.2.2.2,Ar cT.raw d.2.2.2.2.2.1 d.2.2.2.2.2.2.1,bV aW [vI (b.2.2.2.1),vI (b.2.2.2.2.1),vI (b.2.2.2.2.2.1),vI (b.2.2.2.2.2.2.1),vU (b.2.2.2.2.2.2.2.1)] 49,Ar cT.raw d.1 d.2.1,kF cD d.2.1 b.2.2.2.2.2.2.2.2.1,bV aN [d.2.2.1,d.2.2.2.1,kE,vI (0:Int),vI (0:Int),vI (0:Int),vI (0:Int),vU (0:Int)] 78,bV aB Oe 78,bV a5 [vP a.1,a.2.1,vI (R),vU (g.1),Value.func (.func 52) #[] #[vP M,vP N]] 97,bV a2 Oe 78,bV ap [v7] 26,bV ao [vP a.1,a.2.1,vI (R),vU (g.1),Value.func (.func 52) #[] #[vP M,vP N]] 97,Ar nZ a.2.1 g.2.1,bV a.1 [vS (s.1),u,v,vP a.2.2.1,a.2.2.2.1] 108,Ar cT.raw a.2.2.2.1 a.2.2.2.2.1,kF bZ a.2.2.2.2.1 g.2.2.1,bV a.2.2.1 [vS (s.1),u,v,E,D,vI (g.2.2.2.1),a.2.2.2.2.2.1] 137,Ar cT.raw a.2.2.2.2.2.1 a.2.2.2.2.2.2,kF cD a.2.2.2.2.2.2 g.2.2.2.2,bV N [d.2.2.2.2.1] 33,bV M [d.2.2.2.2.2.1] 32,Ar nZ d.2.2.1 b.2.2.2.2.2.2.2.2.2.1]) (λO a4=>[Sl aK u s.2.1,Sl aH v s.2.2,PF (Value.agg #[vS s.1,u,v]),Sl bM E G.1,S2 a_ D z4 G.2,S2 bM v5 z6 p3,Sl wF v7 p4,Gb 0 (cellsOf EI sU)]) (FP (us:=[vI (b.2.2.1),vU (b.1)]) (cs:=[vP ao,vP ap]) (show aR Tryz.prog 82 from Tryz.call82) Z Z Z) Tryz.func82 Z Tryz.ntmps82 Z Z ?_ ?_
     ·refine aT<|aD Z<|aD Z<|aM<|aJ ?_;refine JR.start [0,1,0,4,0,0,0,96,224,511,0,1024,1023,8191] 13 mixedOrders (by decide +kernel) ?_;refine JR.open (by exact rfl) ?_;refine cR Z<|gY 12 Z<|cR Z<|gY 12 Z<|bH Z<|gY 11 Z<|bH Z<|dO h λbd h=>bJ Z .nil (mE 6 Z) (bE Z Z (aE.fact 0 Z) Z Z bd) aO.z<|bJ Z .nil (mE 6 Z) (b_ Z (aE.fact 0 Z) Z Z Z FW bd) aO.z<|eZ h λbk cF h=>JR.loud Z Z Z (aL.callQ UI (v_ U a.2.1 bk cF) Z (aF.cons (bG (aE.res 13 Z) tT) (nK [7] Z))) Z (λcP=>(rY [] Z)) λcP=>iD Z (iY Z)<|iD Z (EW Z Z)<|iD Z (mY Z)<|bR 13 Z Z<|aD Z<|aM<|aS ?_;exact qJ (bk) () h (.inl Z) (EP.r2 Z (RV.tmp Z) (RV.tmp Z)) Z (aY.refl _) (aF.refl _ _)
     intro O a4 h;refine aA Z<|g_ Z<|g_ Z<|aD Z<|aD Z<|aM<|aJ<|aT<|aA Z<|aC (aam Z) Z<|aM ?_;refine fE h Z (λh=>?_) λh=>?_
     ·refine uV<|gK<|Xw Z<|gK<|gK<|Av<|Aw ?_;exact cV (b.2.1,b.2.2.2.1,b.2.2.2.2.1,b.2.2.2.2.2.1,b.2.2.2.2.2.2.1,b.2.2.2.2.2.2.2.1,b.2.2.2.2.2.2.2.2.1,b.2.2.2.2.2.2.2.2.2.1,b.2.2.2.2.2.2.2.2.2.2.1,b.2.2.2.2.2.2.2.2.2.2.2) (d.1,d.2.1,d.2.2.1,d.2.2.2.1,d.2.2.2.2.1,d.2.2.2.2.2.1,d.2.2.2.2.2.2.1,d.2.2.2.2.2.2.2) h SF (aY.ix [0,1,2,3,4,5,6,7,8,10,20,21,22] Z Z) (aF.refl _ _)
     refine cU<|aJ<|aT<|bU Z<|dL 9 Z<|bU Z<|dL 9 Z<|aA Z<|aA Z<|eZ h λcm cy h=>aG (aL.callQ QA (vZ U a.2.1 cm cy) Z (aF.cons (bG (aE.res 13 Z) tT) (nK [7] Z))) Z λde=>aC (sK Z) Z<|aM ?_;refine A_ h Z (λ_ h=>?_) λ_ h=>?_
     ·refine aT ?_;refine aC (H_ (r:=Value.agg #[kE,kE,kE,vI (0:Int),vI (0:Int),vI (0:Int),vI (0:Int),vU (0:Int)]) (by intro w;simp[Instr.build,Instr.fill,dH,cW,cH,dJ,dK,cX,eI])) Z ?_;refine bN 8 (vs:=Oe) Z Z Z Z Z Z<|aD Z<|aM<|aS<|aI<|bO<|aI<|aI<|bO<|aI<|iW (gR nZ)<|iW (gR nZ)<|iW (gR cT.raw) (iW (CC cD) ?_);exact qJ (b.2.2.2.2.2.2.2.2.2.2.1,b.2.2.2.2.2.2.2.2.2.2.2,([]:aP),([]:aP),([]:bA),(0:Int),(0:Int),(0:Int),(0:Int),(0:Int),(11:Int)) (d.2.2.2.2.1,d.2.2.2.2.2.1,d.2.2.2.2.2.2.1,d.2.2.2.2.2.2.2,(kE),(kE),(kE),([]:eW)) h (.inl Z) (EP.r2 Z (RV.cell 12 Z Z Z Z) (RV.tmp Z)) Z (aY.ix [5,6,7,14,24,25,2,3,1,0] Z Z) (aF.refl _ _)
     refine cU<|aT<|bU Z<|dL 9 Z<|aA Z<|aA Z<|eZ h λal cz h=>aG (aL.callQ XT (De U a.1 u v a.2.2.1 u v E D z4 a.2.2.2.2.2.1 (List.zip a.2.2.2.2.2.2 g.2.2.2.2) a.2.2.2.1 (List.zip a.2.2.2.2.1 g.2.2.1) d.1 (List.zip d.2.1 b.2.2.2.2.2.2.2.2.1) al cz) Z (aF.cons (aE.res 14 Z) (aF.cons (aE.fact 0 Z) (aF.cons (aE.fact 1 Z) (aF.cons (aE.res 17 Z) (aF.cons (aE.fact 0 Z) (aF.cons (aE.fact 1 Z) (aF.cons (aE.fact 3 Z) (aF.cons (aE.fact 4 Z) (aF.cons (bT (i:=18) (j:=19) Z Z eG) (aF.cons (bT (i:=15) (j:=16) Z Z bQ) (aF.cons (bT (i:=5) (j:=6) Z Z eG) .nil)))))))))))) Z λQ=>aD Z<|aM<|aJ ?_;refine JR.start [0,1,0,7,0,16,63,127] 6 mixedOrders (by decide +kernel) ?_;refine JR.open (by exact rfl) ?_;refine cR Z<|gY 11 Z<|bH Z<|eZ h λW cA h=>JR.loud Z Z Z (aL.callQ Pb (oW U a.1 u v a.2.2.1 u v E D z4 a.2.2.2.2.2.1 (List.zip a.2.2.2.2.2.2 g.2.2.2.2) a.2.2.2.1 (List.zip a.2.2.2.2.1 g.2.2.1) Q.1 (List.zip Q.2 al) W cA) Z (aF.cons (aE.res 16 Z) (aF.cons (aE.fact 0 Z) (aF.cons (aE.fact 1 Z) (aF.cons (aE.res 19 Z) (aF.cons (aE.fact 0 Z) (aF.cons (aE.fact 1 Z) (aF.cons (aE.fact 3 Z) (aF.cons (aE.fact 4 Z) (aF.cons (bT (i:=20) (j:=21) Z Z eG) (aF.cons (bT (i:=17) (j:=18) Z Z bQ) (aF.cons (bT (i:=0) (j:=1) Z Z eG) .nil)))))))))))) Z (λcO=>(rY [] Z)) λcO=>iD Z (eQ Z Z Z Z Z)<|bJ Z (aY.cons 11 Z .nil) .nil (fV 0 Z Z Z Z Z) (aO.h (aY.ix [11] Z Z) .nil aO.z)<|bR 6 Z Z<|yM Z<|aD Z<|aM<|aT<|dW 6 Z<|aA Z<|aA Z<|eZ h λf cB h=>aG (aL.callQ XU (JB U  f cB) Z .nil) Z λdf=>aA Z<|g_ Z<|g_ Z<|bN 6 (vs:=[vI (f.1.1),vI (f.1.2.1),vI (f.1.2.2.1),vI (f.1.2.2.2.1),vU (f.1.2.2.2.2)]) Z Z Z Z Z Z<|aM<|aT<|bU Z<|dL 11 Z<|aA Z<|aA Z<|dW 6 Z<|zJ (A:=yQ) (B:=Value×Value×List Value×List (List Value)) (vs:=[Q.1,vU (dV .u32 W g.1),Value.agg #[vI (f.1.1),vI (f.1.2.1),vI (f.1.2.2.1),vI (f.1.2.2.2.1),vU (f.1.2.2.2.2)],vP M,vP N]) (λac=>BU g b (bL (rQ U s G R p4 g) bh) O al W f ac=some r) (λac H=>Value.tuple #[]) (λac H=>[Ar cT.raw Q.1 Q.2,kF cD Q.2 al,Ar nZ d.2.2.2.1 b.2.1,Ar cG H.1 (b.2.2.2.2.2.2.2.2.2.2.1++([(f.1.1,f.1.2.1,f.1.2.2.1,f.1.2.2.2.1,f.1.2.2.2.2)])),JP cD H.2.2.1 H.2.2.2 ac,Ar cT.raw H.2.1 H.2.2.1,bV aW [vI (f.1.1),vI (f.1.2.1),vI (f.1.2.2.1),vI (f.1.2.2.2.1),vU (f.1.2.2.2.2)] 49,bV aN [d.2.2.1,d.2.2.2.1,kE,vI (0:Int),vI (0:Int),vI (0:Int),vI (0:Int),vU (0:Int)] 78,bV aB Oe 78,bV a5 [vP a.1,a.2.1,vI (R),vU (g.1),Value.func (.func 52) #[] #[vP M,vP N]] 97,bV a2 Oe 78,bV ap [v7] 26,bV ao [vP a.1,a.2.1,vI (R),vU (g.1),Value.func (.func 52) #[] #[vP M,vP N]] 97,Ar nZ a.2.1 g.2.1,bV a.1 [vS (s.1),u,v,vP a.2.2.1,a.2.2.2.1] 108,Ar cT.raw a.2.2.2.1 a.2.2.2.2.1,kF bZ a.2.2.2.2.1 g.2.2.1,bV a.2.2.1 [vS (s.1),u,v,E,D,vI (g.2.2.2.1),a.2.2.2.2.2.1] 137,Ar cT.raw a.2.2.2.2.2.1 a.2.2.2.2.2.2,kF cD a.2.2.2.2.2.2 g.2.2.2.2,bV N [H.1] 33,bV M [H.2.1] 32,Ar nZ d.2.2.1 b.2.2.2.2.2.2.2.2.2.1]) (λac H=>[Sl aK u s.2.1,Sl aH v s.2.2,PF (Value.agg #[vS s.1,u,v]),Sl bM E G.1,S2 a_ D z4 G.2,S2 bM v5 z6 p3,Sl wF v7 p4,Gb 0 (cellsOf EI sU)]) (FP (us:=[Q.1,vU (dV .u32 W g.1),Value.agg #[vI (f.1.1),vI (f.1.2.1),vI (f.1.2.2.1),vI (f.1.2.2.2.1),vU (f.1.2.2.2.2)]]) (cs:=[vP M,vP N]) (show aR Tryz.prog 52 from Tryz.call52) Z Z Z) Tryz.func52 Z Tryz.ntmps52 Z Z ?_ ?_
     ·refine aT<|aG (aL.box (cs:=[vI (f.1.1),vI (f.1.2.1),vI (f.1.2.2.1),vI (f.1.2.2.2.1),vU (f.1.2.2.2.2)]) Z Z) Z λc4=>aM<|aJ ?_;refine JR.start [0,0,2,6,15,31] 4 mixedOrders (by decide +kernel) ?_;refine JR.open (by exact rfl) ?_;refine gY 24 Z<|bH Z<|eZ h λbj cC h=>JR.loud Z Z Z (aL.callQ Le (xJ U Q.1 (List.zip Q.2 al) bj cC) Z (aF.cons (bT (i:=1) (j:=2) Z Z eG) .nil)) Z (λam=>(rY [([26],[])] Z)) λam=>dG (Know.one (aE.sl (bT (i:=0) (j:=1) Z Z eG))) λba=>JR.stp (zL cD)<|JR.stp (Ql 1 2 Z Z Z)<|JR.stp (HW 0 1 Z Z Z) ?_;refine JR.loud Z Z Z (bW (e:=cT.raw) (([]:eW)++[am.1]) [(0,am.1)] Z Z Z Z (lQ (am.1) ba) Z Z (by simp[cellsOf,cT.raw,ba])) Z (λcq=>(rY [([26],[])] Z)) λcq=>?_;refine bR 4 Z Z<|bX (uY 7 Z) λa6=>bX (uY 1 Z) λa7=>dO h λbc h=>iW (HX 7 1 Z Z Z) ?_;refine aG (aL.append 7 0 Z Z Z Z Z Z Z (by have q:=bc;have q1:=a6;have q2:=a7;(try simp only[List.length_cons,List.length_nil,List.length_append]at q q1 q2 ⊢);omega) (by have q:=bc;have q1:=a6;have q2:=a7;(try simp only[List.length_cons,List.length_nil,List.length_append]at q q1 q2 ⊢);omega) Z) Z λcr=>?_;refine bX (HS 7 Z) λbC=>fX 25 Z Z bC Z Z Z<|aM<|aQ<|dL 24 Z<|dW 1 Z<|aG (bW (e:=cG) ([((f.1.1,f.1.2.1,f.1.2.2.1,f.1.2.2.2.1,f.1.2.2.2.2))]) [(0,Value.agg #[vI (f.1.1),vI (f.1.2.1),vI (f.1.2.2.1),vI (f.1.2.2.2.1),vU (f.1.2.2.2.2)])] Z Z Z Z (Nf (vI (f.1.1)) (vI (f.1.2.1)) (vI (f.1.2.2.1)) (vI (f.1.2.2.2.1)) (vU (f.1.2.2.2.2))) Z Z Z) Z λdb=>dO h λci h=>aG (eL 6 iV Z Z Z (bG (aE.res 0 Z) iV) Z Z Z Z ci Z) Z λct=>bX (Know.one ((bG (aE.res 6 Z) iV))) λbD=>fX 25 Z Z bD Z Z Z<|eN ?_;exact qJ (b.2.2.2.2.2.2.2.2.2.2.2++(([]:yQ)++[bj])) (ct,cr,(d.2.2.2.2.2.2.1++(([]:eW)++[am.1])),(d.2.2.2.2.2.2.2++(([]:List (List Value))++[am.2]))) h (.inr Z) (EP.r0 Z) Z (aY.ix [3,4,5,6,7,8,9,12,13,14,15,16,17,18,19,20,21,22,23,24,25,26,27] Z Z) (aF.refl _ _)
     intro ac H h;refine aM<|aT<|bU Z<|dL 7 Z<|aA Z<|aG (bW (e:=nZ) ([O]) [(0,vU (O))] Z Z Z Z (lQ (vU (O)) Z) Z Z Z) Z λc9=>dO h λcg h=>aG (eL 23 tT Z Z Z (bG (aE.res 0 Z) tT) Z Z Z Z cg Z) Z λco=>bU Z<|bX (Know.one ((bG (aE.res 23 Z) tT))) λbz=>fX 8 Z Z bz Z Z Z<|aM<|aQ<|bU Z<|dL 8 Z<|aA Z<|aG (bW (e:=nZ) ([(dV .u32 W g.1)]) [(0,vU (dV .u32 W g.1))] Z Z Z Z (lQ (vU (dV .u32 W g.1)) Z) Z Z Z) Z λda=>dO h λch h=>aG (eL 4 tT Z Z Z (bG (aE.res 0 Z) tT) Z Z Z Z ch Z) Z λcp=>bU Z<|bX (Know.one ((bG (aE.res 4 Z) tT))) λbB=>fX 9 Z Z bB Z Z Z<|eN<|oM<|aQ<|cQ Z<|aA Z<|aM ?_;exact lM ((dV .u32 W g.1),(b.2.1++([(dV .u32 W g.1)])),(wI .i64 (b.2.2.1+(1:Int))),f.1.1,f.1.2.1,f.1.2.2.1,f.1.2.2.2.1,f.1.2.2.2.2,al,(b.2.2.2.2.2.2.2.2.2.1++[O]),(b.2.2.2.2.2.2.2.2.2.2.1++([(f.1.1,f.1.2.1,f.1.2.2.1,f.1.2.2.2.1,f.1.2.2.2.2)])),ac) (Q.1,Q.2,co,cp,H.1,H.2.1,H.2.2.1,H.2.2.2) h SF (aY.ix [4,5,6,7,8,2,3,9,10,11,12,13,14,15,16,17,18,19,20,21,22,23,24] Z Z) (aF.refl _ _)
    refine fS ?_;exact cV (b.2.1,b.2.2.2.1,b.2.2.2.2.1,b.2.2.2.2.2.1,b.2.2.2.2.2.2.1,b.2.2.2.2.2.2.2.1,b.2.2.2.2.2.2.2.2.1,b.2.2.2.2.2.2.2.2.2.1,b.2.2.2.2.2.2.2.2.2.2.1,b.2.2.2.2.2.2.2.2.2.2.2) (d.1,d.2.1,d.2.2.1,d.2.2.2.1,d.2.2.2.2.1,d.2.2.2.2.2.1,d.2.2.2.2.2.2.1,d.2.2.2.2.2.2.2) h SF (aY.ix [0,1,2,3,4,5,6,7,8,10,20,21,22] Z Z) (aF.refl _ _)
   intro n p h;unfold vY at h;refine aJ ?_;refine JR.start [0,0,1,5,15,31] 4 mixedOrders (by decide +kernel) ?_;refine JR.open (by exact rfl) ?_;refine bH Z<|kS 4 Z<|cR Z<|dG (Know.one (aE.sl (bT (i:=5) (j:=6) Z Z eG))) λbt=>Cw Z Z Z (Mn 7 Z Z bt Z Z Z) (λcN=>(rY [([4],[])] Z)) λcN=>bR 4 Z Z<|bU Z<|Qk (HV 7 (us:=[vI (n.2.1),vI (n.2.2.1),vI (n.2.2.2.1),vI (n.2.2.2.2.1),vU (n.2.2.2.2.2.1)]) Z Z Z Z Z Z Z Z Z) λdd=>aM<|aT<|dW 7 Z<|bX (Know.one ((bG (aE.res 12 Z) tT))) λbu=>bX (Know.one ((bG (aE.res 0 Z) tT))) λbw=>bX (Know.one (aE.sl (bT (i:=5) (j:=6) Z Z eG))) λbx=>bN 8 (vs:=[p.2.2.1,p.2.2.2.1,p.1,vI (n.2.1),vI (n.2.2.1),vI (n.2.2.2.1),vI (n.2.2.2.2.1),vU (n.2.2.2.2.2.1)]) Z Z (jK bu (jK bw (jK bx (jK Z (jK Z (jK Z (jK Z (jK Z Z)))))))) Z Z Z<|aD Z<|aM<|aS ?_;exact qJ (n.2.2.2.2.2.2.2.2.1,n.2.2.2.2.2.2.2.2.2,n.2.2.2.2.2.2.2.1,n.1,n.2.2.2.2.2.2.1,n.2.1,n.2.2.1,n.2.2.2.1,n.2.2.2.2.1,n.2.2.2.2.2.1,(0:Int)) (p.2.2.2.2.1,p.2.2.2.2.2.1,p.2.2.2.2.2.2.1,p.2.2.2.2.2.2.2,p.2.2.1,p.2.2.2.1,p.1,p.2.1) h (.inl Z) (EP.r2 Z (RV.cell 8 Z Z Z Z) (RV.tmp Z)) Z (aY.ix [1,2,3,9,10,11,12,0,5,6] Z Z) (aF.refl _ _)
  intro y C h;unfold zD at h;refine g_ Z<|g_ Z<|bX (Know.one ((bG (aE.res 6 Z) tT))) λcc=>bX (Know.one ((bG (aE.res 7 Z) tT))) λcd=>bX (Know.one (aE.sl (bT (i:=8) (j:=9) Z Z eG))) λce=>bN 3 (vs:=[C.2.2.2.2.1,C.2.2.2.2.2.1,C.2.2.2.2.2.2.1,vI (y.2.2.2.2.2.1),vI (y.2.2.2.2.2.2.1),vI (y.2.2.2.2.2.2.2.1),vI (y.2.2.2.2.2.2.2.2.1),vU (y.2.2.2.2.2.2.2.2.2.1)]) Z Z (jK cc (jK cd (jK ce (jK Z (jK Z (jK Z (jK Z (jK Z Z)))))))) Z Z Z<|aD Z<|aM<|aS ?_;exact qJ (y.2.2.2.2.2.1,y.2.2.2.2.2.2.1,y.2.2.2.2.2.2.2.1,y.2.2.2.2.2.2.2.2.1,y.2.2.2.2.2.2.2.2.2.1,y.2.2.2.2.2.2.2.2.2.2,y.2.2.1,y.2.2.2.1,y.2.2.2.2.1,y.1,y.2.1) (C.2.2.2.2.1,C.2.2.2.2.2.1,C.2.2.2.2.2.2.1,C.1,C.2.1,C.2.2.2.2.2.2.2,C.2.2.1,C.2.2.2.1) h (.inl Z) (EP.r2 Z (RV.cell 3 Z Z Z Z) (RV.tmp Z)) Z (aY.ix [0,1,2,4,5,6,7,8,9] Z Z) (aF.refl _ _)
 intro J F h;refine aA Z<|g_ Z<|g_ Z<|aG (aL.alloc (cs:=Oe) Z Z) Z λdh=>bX (Know.one ((bG (aE.res 6 Z) tT))) λb6=>bX (Know.one ((bG (aE.res 7 Z) tT))) λb9=>bX (Know.one (aE.sl (bT (i:=8) (j:=9) Z Z eG))) λca=>bN 0 (vs:=[F.1,F.2.1,F.2.2.1,vI (J.1),vI (J.2.1),vI (J.2.2.1),vI (J.2.2.2.1),vU (J.2.2.2.2.1)]) Z Z (jK b6 (jK b9 (jK ca (jK Z (jK Z (jK Z (jK Z (jK Z Z)))))))) Z Z Z<|aD Z<|aM<|aT<|aA Z<|qD Z<|aM ?_;refine fE h Z (λh=>?_) λh=>?_
 ·refine aT<|aA Z<|aD Z<|aD Z<|aD Z<|aM<|aS<|aI<|iW (gR cT.raw) (iW (zL cD) ?_);refine iW (gR cG) ?_;cases h;exact Hr ((kE),([]:eW),([]:List (List Value)),(kE)) Z Z (RV.tmp Z) (RV.tmp Z) (RV.tmp Z) (aY.ix [2,1,0] Z Z) aF.nil
 refine cU<|aJ ?_;refine JR.start [0,0,1,7,15] 3 mixedOrders (by decide +kernel) ?_;refine JR.open (by exact rfl) ?_;refine gY 5 Z<|gY 4 Z<|iD Z (mY Z)<|bR 3 Z Z<|aD Z<|aD Z<|aM<|aS ?_;cases h;exact Hr (F.2.2.2.2.1,F.2.2.2.2.2.2.1,F.2.2.2.2.2.2.2,F.2.2.2.1) Z Z (RV.tmp Z) (RV.tmp Z) (RV.tmp Z) (aY.ix [3,2,1] Z Z) aF.nil
end Go.Proofs.YtmdlcmbplnhdnaaGreatDoor
namespace Go.Proofs.YtmdlcmbplnhdnaaGreatDoor
open Go Go.Sx
theorem Ts {g:GR} (e:VG g) (p:sI) (b:Int) (c:bA) (o:aP):
  bL (nE 1000 p g b c o) 1000 ((0:Int),(0:Int),(List.replicate (Int.toNat (List.length g.2:Int)) ([]:aP)))=sR 1000 p g b c o (gW g g.2.length,eH g):=by
 have z:=e.n24;have s:=e.len;let f:Nat->aP:=λv=>(List.range (row g v).length).map (zM g v);let Q:Nat->bA:=λk=>(List.range k).map f++List.replicate (g.2.length - k) [];have q:∀k,k<=g.2.length->(Q k).length=g.2.length:=λk i=>by simp[Q];omega
 rw[show List.replicate (Int.toNat (List.length g.2:Int)) ([]:aP)=Q 0 by simp[Q]];refine eJ (step:=nE 1000 p g b c o) g.2.length (λk=>((k:Int),gW g k,Q k)) (λk d i=> ?_) (λd=> ?_) 1000 (by omega)
 ·have r:=(e.node k i).deg;have t:k<(Q k).length:=by rw[q k (by omega)];exact i
  unfold nE;dsimp only;rw[if_pos (by omega),cB (by omega),cB (by omega)];let a:Nat->aP:=λj=>(List.range j).map (zM g k);have y:Q k=(Q k).set k (a 0):=by
   have:at' (Q k) (k:Int)=a 0:=by
    rw[kT t];simp[Q,a]
   rw[<-this];exact(Ez (Q k) (k:Int) (by simpa using t) (by omega)).symm
  rw[show(Q k)=(Q k).set k (a 0)from y];have h:∀A:bA,A.length=g.2.length->bL (rR 1000 g ((k:Int),gW g k,(Q k).set k (a 0)) d) 1000 ((0:Int),A.set k (a 0))=d (((k+1:Nat):Int),gW g (k+1),A.set k (f k)):=by
   intro A D;refine eJ (step:=rR 1000 g ((k:Int),gW g k,(Q k).set k (a 0)) d) (K:=d (((k+1:Nat):Int),gW g (k+1),A.set k (f k))) (row g k).length (λj=>((j:Int),A.set k (a j))) (λj m C=> ?_) (λm=> ?_) 1000 (by omega)
   ·obtain⟨u,w,l⟩:=e.to i C;have B:=(e.node u w).deg;have x:at' (A.set k (a j)) (k:Int)=a j:=by rw[u_ _ _ _ _ (by omega),if_pos Z]
    have n:(a j).length=j:=by simp[a]
    unfold rR;dsimp only;rw[if_pos (show(j:Int)<((row g k).length:Int) by omega),cB (show 0<=(j:Int)∧(j:Int)<((row g k).length:Int) by omega),cB (by simp only[List.length_set];omega),show at' (at' g.2 (k:Int)) (j:Int)=fP (row g k) j from rfl,l,bD (show lY 1000 _ (u:Int) (k:Int)=_ from Ko g u (k:Int) w (by omega)),x,cB (by rw[n];simp;omega),cB (by simp only[List.length_set];omega),fK (by omega),Int.toNat_natCast,List.set_set];have:a j++[yF (row g u) (k:Int)]=a (j+1):=by
     simp only[a];rw[List.range_succ,List.map_append,List.map_singleton,zM,l,Int.toNat_natCast]
    rw[this]
   ·unfold rR xF;dsimp only;rw[if_neg (show¬((row g k).length:Int)<((row g k).length:Int)from Int.lt_irrefl _),fK (by omega)];rfl
  have:=h (Q k) (q k (by omega));rw[sP f [] g.2.length k i]at this;exact this
 ·unfold nE;dsimp only;rw[if_neg (by omega)];simp[Q,eH,f]
noncomputable def Iq (p:sI) (vars:List Cp) (R:List RL) (g:GR) (kind:Int) (ws:aP) (a:bA):Nat->CT
 |0=>(0,0,0,0,dV .u32 ((uI (bI p g) R (gV g) a:Nat):Int) 16777215)
 |k+1=>((kC 1000 (Iq p vars R g kind ws a k) ((nxt g kind (uI (bI p g) R (gV g) (BP p vars R g kind ws a k)) (at' ws (k:Int)):Nat):Int) ((uI (bI p g) R (gV g) (BP p vars R g kind ws a (k+1)):Nat):Int)).getD ((0,0,0,0,0),0)).1
theorem abc (p p':sI) (vars:List Cp) (R:List RL) (g:GR) (kind:Int) (ws:aP) (a:bA) (k:Nat):Iq p vars R g kind ws a k=Iq p' vars R g kind ws a k:=by
 induction k with
 |zero=>rfl
 |succ k b=>rw[Iq,Iq,b,I_ p p',I_ p p' vars R g kind ws a (k+1),Nb p p',Nb p p']
section
variable {p:sI} {g:GR} {R:List RL}
theorem Xh (hV:VG g) (hp:tU g p.2.1) (hz:p.2.2.map wS=Cq R) (hR:vX p.2.1.length R=true) {kind:Int} (hk1:1<=kind) (hk4:kind<=4) {c0:List (List Int)} (hc0:Jw g c0 p.2.1) {ws:List Int} (hws:ws.length<=900) (hw:∀k:Nat,k<ws.length->∃m:Nat,at' ws (k:Int)=(m:Int)∧m<4294967296)
  (P:Nat->List (List Int)->List Nat->CT->Prop) (h0:P 0 c0 [] (0,0,0,0,dV .u32 ((uI (bI p g) R (gV g) c0:Nat):Int) 16777215))
  (hstep:∀k c ch cnt t cnt' err,k<ws.length->yL g p.2.1.length c->P k c ch cnt->uI (bI p g) R (gV g) c≠0->t≠0->(∀i,t.testBit i=true->(uI (bI p g) R (gV g) c).testBit i=true)->(kind<=2->∀v u,t.testBit v=true->t.testBit u=true->¬Ju g v u)->(kind=4->t=uI (bI p g) R (gV g) c)->BP p p.2.1 R g kind ws c0 (k+1)=o_ (bI p g) p.2.1 R c t->
   kC 1000 cnt (t:Int) ((uI (bI p g) R (gV g) (o_ (bI p g) p.2.1 R c t):Nat):Int)=some (cnt',err)->cnt'=Iq p p.2.1 R g kind ws c0 (k+1)->P (k+1) (o_ (bI p g) p.2.1 R c t) (ch++[t]) cnt'):
  ∃k c ch,uN 1000 p g kind c0 ws=some ((List.range (k+1)).map (BP p p.2.1 R g kind ws c0),(List.range (k+1)).map (Iq p p.2.1 R g kind ws c0),0)∧P k c ch (Iq p p.2.1 R g kind ws c0 k)∧c=BP p p.2.1 R g kind ws c0 k∧k<=ws.length∧(∀j,j<k->uI (bI p g) R (gV g) (BP p p.2.1 R g kind ws c0 j)≠0)∧(k=ws.length∨uI (bI p g) R (gV g) c=0):=by
 have h24:=hV.n24;have hvl:=hp.len;let S:=bI p g;have hVS:VG S.2.1:=hV;obtain⟨net,hnet,hN⟩:=abH hV;have hcheck:xU 1000 p g kind c0 (ws.length:Int)=some 0:=by
  unfold xU;rw[bD (show lZ 1000 _ _ c0=_ from MX hV hp hc0),if_neg (by decide)];have:vM 1000 kind=some true:=by
   unfold vM pJ;rw[if_pos hk1,decide_eq_true hk4]
  rw[bD this,if_neg (by decide),if_neg (by omega)]
 unfold uN;rw[bD (show xU 1000 _ _ kind c0 _=_ from hcheck),if_neg (by decide),cB (by omega),Ts hV p kind c0 ws];unfold sR zF;rw[bD (show i_ 1000 _ _=_ from Jn hV hp)];unfold zE;rw[bD (show mS 1000 _=_ from hnet),bD (show xS 1000 _=some ((gV g:Nat):Int)from aan hV)];have hen:∀c,yL g p.2.1.length c->cS 1000 (p,(p,g,gW g g.2.length,eH g),AU g p.2.1) c=some ((Xm S R c:Nat):Int):=λc hc=>Iw hV hc hz hR (by simp[AU]);have hand:∀c,dV .u32 ((Xm S R c:Nat):Int) ((gV g:Nat):Int)=((uI S R (gV g) c:Nat):Int):=λc=>Ig (abh hVS R c) (XN hV);have hcopy:∀c,yL g p.2.1.length c->lE 1000 c=some c:=λc hc=>QM c (by rw[hc.len];omega) (λv hv=>by rw[hc.row v (by rw[<-hc.len];exact hv)];omega);unfold BQ;dsimp only;rw[bD (hcopy c0 hc0.shape),bD (show cS 1000 _ c0=_ from hen c0 hc0.shape),hand,bD (show tD 1000 _=some (0,0,0,0,dV .u32 ((uI S R (gV g) c0:Nat):Int) 16777215)from rfl),bD (hcopy c0 hc0.shape),cB (by simp),cB (by simp)];unfold BR;dsimp only;rw[hand,cB (by simp),List.nil_append,List.nil_append,List.nil_append,List.nil_append];let A:Int×List Int×(List (List (Int×Int)))×Int×List (List Int):=(((gV g:Nat):Int),net,AU g p.2.1,gW g g.2.length,eH g)
 let rc:=BP p p.2.1 R g kind ws c0;let cw:=Iq p p.2.1 R g kind ws c0;let T:=List (List (List Int))×List CT×Int;let QQ:T->Prop:=λr=>∃k c ch,r=((List.range (k+1)).map rc,(List.range (k+1)).map cw,0)∧P k c ch (cw k)∧c=rc k∧k<=ws.length∧(∀j,j<k->uI S R (gV g) (rc j)≠0)∧(k=ws.length∨uI S R (gV g) c=0)
 have fin:∀(k:Nat) (c:List (List Int)) (ch:List Nat) (ens:List Int),P k c ch (cw k)->c=rc k->k<=ws.length->(∀j,j<k->uI S R (gV g) (rc j)≠0)->(k=ws.length∨uI S R (gV g) c=0)->
   OK QQ (vY (ens,(cw k).1,(cw k).2.1,(cw k).2.2.1,(cw k).2.2.2.1,(cw k).2.2.2.2,c,YT ch,(List.range (k+1)).map cw,(List.range (k+1)).map rc)):=λk c ch ens a1 a2 a3 a6 a7=>⟨_,rfl,k,c,ch,rfl,a1,a2,a3,a6,a7⟩
 have key:=xA (step:=rQ 1000 p g kind ws A) (Q:=QQ)
  (λx=>∃(k:Nat) (c:List (List Int)) (ch:List Nat) (ens:List Int),x=(((uI S R (gV g) c:Nat):Int),ens,(k:Int),(cw k).1,(cw k).2.1,(cw k).2.2.1,(cw k).2.2.2.1,(cw k).2.2.2.2,c,YT ch,(List.range (k+1)).map cw,(List.range (k+1)).map rc)∧P k c ch (cw k)∧yL g p.2.1.length c∧c=rc k∧k<=ws.length∧ch.length=k∧ens.length=k+1∧∀j,j<k->uI S R (gV g) (rc j)≠0) (λx=>ws.length - x.2.2.1.toNat) (λx ag hI hrec=>by
  obtain⟨k,c,ch,ens,rfl,b1,b2,b3,b4,b5,b6,b9⟩:=hI;unfold rQ;dsimp only;by_cases hlt:k<ws.length
  rotate_left
  ·rw[if_neg (by omega)];exact fin k c ch ens b1 b3 b4 b9 (.inl (by omega))
  obtain⟨w,hwe,hw32⟩:=hw k hlt;have hin:Xi g (uI S R (gV g) c):=abi S R (gV g) c;obtain⟨t,ht,hsub,hne⟩:=PO hV hN hk1 hk4 hin hw32;rw[if_pos (by omega),cB (by omega),hwe,bD (show eD 1000 net kind _ _=_ from ht)];unfold BS;dsimp only;by_cases he0:uI S R (gV g) c=0
  ·rw[if_pos (by omega)];exact fin k c ch ens b1 b3 b4 b9 (.inr he0)
  obtain⟨ht0,hperm,hk2,hk4'⟩:=hne he0;have ht32:t<4294967296:=by have:=Xi.lt hV (λi hi=>hin i (hsub i hi));omega
  rw[if_neg (by omega),bD (show fC 1000 net kind _ _=_ from hperm),if_neg (by decide)];have hst:iL 1000 (p,(p,g,gW g g.2.length,eH g),AU g p.2.1) c (t:Int)=some (o_ S p.2.1 R c t):=Zq (gr:=gW g g.2.length) hV hp b2 hz hR ht32 (λv hv=>((Ln S R (gV g) c v).1 (hsub v hv)).2.1);have hsh:yL g p.2.1.length (o_ S p.2.1 R c t):=b2.step;obtain⟨⟨cnt',err⟩,hadd⟩:=Us (cw k) ht32 ((uI S R (gV g) (o_ S p.2.1 R c t):Nat):Int);rw[bD (show iL 1000 _ c (t:Int)=_ from hst),bD (show cS 1000 _ _=_ from hen _ hsh),hand,bD (show kC 1000 _ (t:Int) _=_ from hadd),bD (hcopy _ hsh),cB (by simp;omega),cB (by simp;omega)];unfold BU;dsimp only;rw[hand,cB (by simp[YT];omega),cB (by simp;omega),fK (by omega)];have en:nxt g kind (uI S R (gV g) (rc k)) (at' ws (k:Int))=t:=by
   unfold nxt;rw[bD hnet,hwe,<-b3,ht];simp
  have hr:rc (k+1)=o_ S p.2.1 R c t:=by
   show o_ S p.2.1 R (rc k) (nxt g kind (uI S R (gV g) (rc k)) (at' ws (k:Int)))=_;rw[en,<-b3]
  obtain rfl:cnt'=cw (k+1):=by
   show cnt'=((kC 1000 (cw k) ((nxt g kind (uI S R (gV g) (rc k)) (at' ws (k:Int)):Nat):Int) ((uI S R (gV g) (rc (k+1)):Nat):Int)).getD ((0,0,0,0,0),0)).1;rw[en,hr,hadd];rfl
  refine hrec _ ⟨k+1,o_ S p.2.1 R c t,ch++[t],ens++[((uI S R (gV g) (o_ S p.2.1 R c t):Nat):Int)],?_,hstep k c ch (cw k) t (cw (k+1)) err hlt b2 b1 he0 ht0 hsub hk2 hk4' hr hadd Z,hsh,hr.symm,by omega,by simp[b5],by simp[b6],λj hj=> ?_⟩ (by dsimp only;omega)
  ·rw[List.nil_append,List.range_succ (n:=k+1),List.map_append,List.map_singleton,List.map_append,List.map_singleton,hr];simp[YT]
  ·by_cases e:j<k
   ·exact b9 j e
   ·obtain rfl:j=k:=by omega
    rw[<-b3];exact he0) 1000 (((uI S R (gV g) c0:Nat):Int),[((uI S R (gV g) c0:Nat):Int)],(0:Int),0,0,0,0,dV .u32 ((uI S R (gV g) c0:Nat):Int) 16777215,c0,[],[(0,0,0,0,dV .u32 ((uI S R (gV g) c0:Nat):Int) 16777215)],[c0])
  ⟨0,c0,[],[((uI S R (gV g) c0:Nat):Int)],rfl,h0,hc0.shape,rfl,by omega,rfl,rfl,λj hj=>by omega⟩ (by dsimp only;omega)
 obtain⟨r,hr,k,c,ch,rfl,hrest⟩:=key;exact⟨k,c,ch,hr,hrest⟩
end
theorem Ww {p p':sI} {g:GR} {R:List RL} {vars:List Cp} {kind:Int} {ws:List Int} {b:List (List Int)} {k a:Nat}
  (l:k<=ws.length) (f:k=ws.length∨uI (bI p g) R (gV g) (BP p vars R g kind ws b k)=0) (h:∀j,j<k->uI (bI p g) R (gV g) (BP p vars R g kind ws b j)≠0)
  (i:a<=ws.length) (c:a=ws.length∨uI (bI p' g) R (gV g) (BP p' vars R g kind ws b a)=0) (d:∀j,j<a->uI (bI p' g) R (gV g) (BP p' vars R g kind ws b j)≠0):k=a:=by
 rcases Nat.lt_trichotomy k a with q|q|q
 ·have:=d k q;rw[I_ p' p,Nb p' p]at this;rcases f with e|e
  ·omega
  ·exact absurd e this
 ·exact q
 ·have:=h a q;rw[I_ p p',Nb p p']at this;rcases c with e|e
  ·omega
  ·exact absurd e this
end Go.Proofs.YtmdlcmbplnhdnaaGreatDoor
namespace Go.Proofs.YtmdlcmbplnhdnaaGreatDoor
open Go.Sx
noncomputable def rS (b:List bA×(List (Int×Int×Int×Int×Int))×Int) (a:Bool):Option (List bA×(List (Int×Int×Int×Int×Int))×Bool):=
 some (b.1,b.2.1,a)
noncomputable def uO (U:Nat) (d:ByteArray) (c:cE) (e:Int) (f:bA) (g:aP):Option (List bA×(List (Int×Int×Int×Int×Int))×Bool):=
 Option.bind (kV U d) λb=>Ss b.2.2 λh=>(Option.bind (uN U ((b.1,b.2.1,h)) ((c.1,c.2)) e f g) λa=>(if a.2.2=(0:Int)then(if(List.length a.1:Int)=(List.length a.2.1:Int)then(rS a (decide ((0:Int)<(List.length a.1:Int))))else(rS a (false)))else(rS a (false))))
theorem adz:aR Tryz.prog 9:=Tryz.call9
theorem NZ (U:Nat) {w:ByteArray} {i:cE} {y:Int} {p:bA} {q:aP} (k:Value)  (m:Value)  (t:lA)  (n:Value)  (u:qE)  (o:Value) (r:WM) (h:uO U w i y p q=some r):
  aV Tryz.prog 9 #[vS (w),Value.agg #[k,m],vI (y),n,o] [Sl bM k i.1,S2 a_ m t i.2,S2 bM n u p,Sl wF o q,Gb 0 (cellsOf EI sU)] (λx:Value×List Value×List (List Value)×Value=>Value.tuple #[x.1,x.2.2.2,vB (r.2.2)]) (λx l=>Ar cT.raw x.1 x.2.1::JP cD x.2.1 x.2.2.1 r.1::Ar cG x.2.2.2 r.2.1::l) (λ_ l=>l):=by
 refine aV.of Tryz.func9 Z Tryz.ntmps9 Z λc=>?_;refine aT<|aG (aL.box (cs:=[k,m]) Z Z) Z λD=>aD Z<|aD Z<|aD Z<|aM<|aJ ?_;refine JR.start [0,1,0,0,0,0,63,127,255,255,255,511,3071,8191] 13 mixedOrders (by decide +kernel) ?_;refine JR.open (by exact rfl) ?_;refine bH Z<|eZ h λs A h=>JR.loud Z Z Z (aL.call O_ (Ch U s A) Z (mE 4 Z) (λ_ _=>rfl) (λ_ _=>rfl)) Z (fun⟨d,e,v,g⟩=>(rY [] Z)) fun⟨d,e,v,g⟩=>?_;have h:=JU h v g;refine bJ Z (aY.cons 0 Z .nil) .nil (fY 0 Z Z Z Z) (aO.h (aY.ix [0] Z Z) .nil aO.z)<|iD Z (iY Z)<|iD Z (iY Z)<|iD Z (iY Z)<|eZ h λj C h=>JR.loud Z Z Z (aL.callQ aax (NX U d e k m t n u o j C) Z (nK [0,1,2,3,4,5,6,7] Z)) Z (λb=>(rY [] Z)) λb=>iD Z (iY Z)<|iD Z (oB Z Z)<|iD Z (oB Z Z)<|iD Z (oB Z Z)<|iD Z (mY Z)<|iD Z (mY Z)<|bR 13 Z Z<|aD Z<|aM<|aJ<|zK (B:=Unit) (λa=>rS j a=some r) (λa f=>[(10,b.1),(11,b.2.2.2),(12,vB (a))]) (λa f=>[Ar cT.raw b.1 b.2.1,JP cD b.2.1 b.2.2.1 j.1,Ar cG b.2.2.2 j.2.1]) (λa f=>[Sl aK d s.2.1,Sl aH e v,PF (Value.agg #[vS s.1,d,e]),Sl bM k i.1,S2 a_ m t i.2,S2 bM n u p,Sl wF o q,Gb 0 (cellsOf EI sU)]) ?_ ?_
 ·refine aQ<|aA Z<|aA Z<|aA Z<|cJ Z<|aA Z ?_;refine Es h Z (λ_ h=>?_) λ_ h=>?_
  ·refine e_ Z<|aX Z (Ia 0 1 Z Z Z Z) Z<|e_ Z<|aX Z (iU Z (bG (aE.res 2 Z) iV) Z) Z<|aX Z (Qn Z Z) Z<|fF Z<|aA Z ?_;refine Es h Z (λ_ h=>?_) λ_ h=>?_
   ·refine e_ Z<|aX Z (Ia 0 1 Z Z Z Z) Z<|aX Z (xP Z Z) Z<|fF Z<|aD Z<|aD Z<|aD Z<|aM ?_;exact cV (decide ((0:Int)<(List.length j.1:Int))) () h SF (aY.ix [0,1,2] Z Z) (aF.refl _ _)
   refine aN Z<|aN Z<|aN Z<|iP Z<|aD Z<|aD Z<|aD Z<|aM ?_;exact cV (false) () h SF (aY.ix [0,1,2] Z Z) (aF.refl _ _)
  refine aN Z<|aN Z<|aN Z<|aN Z<|aN Z<|iP Z<|aA Z<|aN Z<|aN Z<|aN Z<|iP Z<|aD Z<|aD Z<|aD Z<|aM ?_;exact cV (false) () h SF (aY.ix [0,1,2] Z Z) (aF.refl _ _)
 intro a f h;unfold rS at h;refine aS ?_;cases h;exact Hr (b.1,b.2.1,b.2.2.1,b.2.2.2) Z Z (RV.tmp Z) (RV.tmp Z) (RV.tmp Z) (aY.refl _) aF.nil
end Go.Proofs.YtmdlcmbplnhdnaaGreatDoor
namespace Go.Proofs.YtmdlcmbplnhdnaaGreatDoor
open Go Go.Sx
theorem Wx {text nm:ByteArray} {vars:List Cp} {R:List RL} {pr:Jp} (hprog:kV 1000 text=some (nm,vars,pr)) (hpr:Cq R=pr) {g:GR} (hV:VG g) (hp:tU g vars) (hR:vX vars.length R=true) {kind:Int} (hk1:1<=kind) (hk4:kind<=4)
  {c0:bA} (hc0:Jw g c0 vars) {ws:aP} (hws:ws.length<=900) (hw:∀k:Nat,k<ws.length->∃m:Nat,at' ws (k:Int)=(m:Int)∧m<4294967296)
  (Q:Nat->bA->CT->Prop) (h0:Q 0 c0 (0,0,0,0,dV .u32 ((uI (bI (nm,vars,[]) g) R (gV g) c0:Nat):Int) 16777215))
  (hstep:∀k c cnt t cnt' err,k<ws.length->Q k c cnt->uI (bI (nm,vars,[]) g) R (gV g) c≠0->t≠0->(∀i,t.testBit i=true->(uI (bI (nm,vars,[]) g) R (gV g) c).testBit i=true)->(kind=4->t=uI (bI (nm,vars,[]) g) R (gV g) c)->
   kC 1000 cnt (t:Int) ((uI (bI (nm,vars,[]) g) R (gV g) (o_ (bI (nm,vars,[]) g) vars R c t):Nat):Int)=some (cnt',err)->Q (k+1) (o_ (bI (nm,vars,[]) g) vars R c t) cnt'):
  ∃(k:Nat) (cs:yQ) (cnts:List CT),uO 1000 text g kind c0 ws=some (cs,cnts,true)∧cs.length=k+1∧cnts.length=k+1∧k<=ws.length∧(∀j,j<=k->Q j (at' cs (j:Int)) (at' cnts (j:Int)))∧
   (∀j,j<k->∃t,(∀i,t.testBit i=true->(uI (bI (nm,vars,[]) g) R (gV g) (at' cs (j:Int))).testBit i=true)∧uI (bI (nm,vars,[]) g) R (gV g) (at' cs (j:Int))≠0∧at' cs ((j+1:Nat):Int)=o_ (bI (nm,vars,[]) g) vars R (at' cs (j:Int)) t∧(kind=4->t=uI (bI (nm,vars,[]) g) R (gV g) (at' cs (j:Int))))∧
   (k=ws.length∨uI (bI (nm,vars,[]) g) R (gV g) (at' cs (k:Int))=0):=by
 let p0:sI:=(nm,vars,[])
 let rc:=BP p0 vars R g kind ws c0;let cw:=Iq p0 vars R g kind ws c0;let PP:Nat->Prop:=λk=>(∀j,j<=k->Q j (rc j) (cw j))∧∀j,j<k->∃t,(∀i,t.testBit i=true->(uI (bI p0 g) R (gV g) (rc j)).testBit i=true)∧uI (bI p0 g) R (gV g) (rc j)≠0∧rc (j+1)=o_ (bI p0 g) vars R (rc j) t∧(kind=4->t=uI (bI p0 g) R (gV g) (rc j))
 have run:∀z:List sJ,z.map wS=Cq R->∃k,uN 1000 (nm,vars,z) g kind c0 ws=some ((List.range (k+1)).map rc,(List.range (k+1)).map cw,0)∧k<=ws.length∧PP k∧(∀j,j<k->uI (bI p0 g) R (gV g) (rc j)≠0)∧(k=ws.length∨uI (bI p0 g) R (gV g) (rc k)=0):=λz hz=>by
  let pz:sI:=(nm,vars,z)
  have hrr:BP pz vars R g kind ws c0=rc:=funext λj=>I_ _ _ _ _ _ _ _ _ _;have hcc:Iq pz vars R g kind ws c0=cw:=funext λj=>abc _ _ _ _ _ _ _ _ _;obtain⟨k,c,ch,h1,h3,rfl,h5,h6,h7⟩:=Xh (p:=pz) hV hp hz hR (kind:=kind) hk1 hk4 hc0 (ws:=ws) hws hw
   (λk c ch cnt=>PP k∧c=rc k∧cnt=cw k) ⟨⟨λj hj=>by(obtain rfl:j=0:=by omega);exact h0,λj hj=>by omega⟩,rfl,rfl⟩
   (λk c ch cnt t cnt' err hk hsh hI hne ht0 hsub _ hk4' hr hadd hcw=>by
    obtain⟨⟨ha,hb⟩,rfl,rfl⟩:=hI;have hr':rc (k+1)=o_ (bI p0 g) vars R (rc k) t:=(congrFun hrr (k+1)).symm.trans hr;have hcw':cnt'=cw (k+1):=hcw.trans (congrFun hcc (k+1));subst hcw';have hQ:=hstep k (rc k) (cw k) t _ err hk (ha k (Nat.le_refl k)) hne ht0 hsub hk4' hadd;refine⟨⟨λj hj=> ?_,λj hj=> ?_⟩,hr'.symm,rfl⟩
    ·by_cases e:j<=k
     ·exact ha j e
     ·obtain rfl:j=k+1:=by omega
      rw[hr'];exact hQ
    ·by_cases e:j<k
     ·exact hb j e
     ·obtain rfl:j=k:=by omega
      exact⟨t,hsub,hne,hr',hk4'⟩)
  rw[show pz.2.1=vars from rfl,hrr,hcc]at h1;rw[show pz.2.1=vars from rfl,hrr]at h6 h7;exact⟨k,h1,h5,h3.1,h6,h7⟩
 obtain⟨z0,hz0⟩:=exZ (Cq R);obtain⟨k0,_,hk0,hP0,hne0,hend0⟩:=run z0 hz0;have hat:∀j,j<=k0->at' ((List.range (k0+1)).map rc) (j:Int)=rc j:=λj hj=>nD _ (by omega);have hat2:∀j,j<=k0->at' ((List.range (k0+1)).map cw) (j:Int)=cw j:=λj hj=>nD _ (by omega);refine⟨k0,(List.range (k0+1)).map rc,(List.range (k0+1)).map cw,?_,by simp,by simp,hk0,λj hj=>by rw[hat j hj,hat2 j hj];exact hP0.1 j hj,λj hj=>by rw[hat j (by omega),hat (j+1) (by omega)];exact hP0.2 j hj,by rw[hat k0 (Nat.le_refl _)];exact hend0⟩
 unfold uO;rw[bD hprog];refine Qs λz hz=> ?_;have hz:z.map wS=Cq R:=by rw[hpr];exact hz
 obtain⟨k,h1,hk,_,hne,hend⟩:=run z hz;have hkk:k=k0:=Ww (p:=p0) (p':=p0) (vars:=vars) hk hend hne hk0 hend0 hne0;subst hkk;refine(bD (show uN 1000 (nm,vars,z) g kind c0 ws=_ from h1)).trans ?_;unfold rS;dsimp only;rw[if_pos Z,if_pos (by simp),decide_eq_true (by simp)]
theorem Yy {p:sI} {g:GR} {R:List RL} {c:bA}:Xm (bI p g) R c=uI (bI p g) R (gV g) c:=by
 refine Nat.eq_of_testBit_eq λv=> ?_;unfold uI;rw[Nat.testBit_and];cases h:(Xm (bI p g) R c).testBit v with
 |false=>rfl
 |true=>
  rw[QP,Bool.and_eq_true,decide_eq_true_eq]at h;unfold gV;rw[Qv,decide_eq_true (show v<g.2.length from h.1)];rfl
theorem QR {p:sI} {g:GR} {R:List RL} {c:bA} {v:Nat}:(uI (bI p g) R (gV g) c).testBit v=true↔v<g.2.length∧0<=gF (bI p g) R c v:=by
 rw[Ln];refine⟨λh=>⟨h.1,h.2.1⟩,λh=>⟨h.1,h.2,?_⟩⟩
 unfold gV;rw[Qv,decide_eq_true h.1]
theorem Vd {p:sI} {g:GR} {R:List RL} {c:bA}:uI (bI p g) R (gV g) c=0↔∀v,v<g.2.length->¬0<=gF (bI p g) R c v:=by
 constructor
 ·intro h v e q;have:=QR.2 ⟨e,q⟩;rw[h,Nat.zero_testBit]at this;cases this
 ·intro h;refine Nat.eq_of_testBit_eq λi=> ?_;rw[Nat.zero_testBit];cases d:(uI (bI p g) R (gV g) c).testBit i with
  |false=>rfl
  |true=>
   obtain⟨a,b⟩:=QR.1 d;exact absurd b (h i a)
theorem QO {n E:Nat} {d:Nat->Nat} {q:Nat->Prop} (g:∀v,v<n->d v<=E):∀(k v:Nat),E<=d v+k->v<n->q v->∃w,w<n∧q w∧∀u,u<n->q u->d u<=d w
 |0,v,h,hv,hq=>⟨v,hv,hq,λu f _=>by have:=g u f;omega⟩
 | k + 1, v, h, hv, hq => by
  by_cases e:∃u,u<n∧q u∧d v<d u
  ·obtain⟨u,a,b,c⟩:=e;exact QO g k u (by omega) a b
  ·exact⟨v,hv,hq,λu f h=>Nat.le_of_not_lt λc=>e ⟨u,f,h,c⟩⟩
section
variable {p:sI} {g:GR} {c:List (List Int)} {d:List Int} (hV:VG g) (hD:rV g 0 d) (h0:∀v,v<g.2.length->0<=D d v) {par fp:Nat->Nat} (hP:TP g d par fp) (hc:Jw g c uC)
 include hV hD h0 hP hc
theorem abM:uI (bI p g) RS (gV g) c=0↔So g d c∧Qt g.2.length (sC c) (bC c)∧∀v,v<g.2.length->rC c v=0:=by
 have G:=hV.n24;have l:RT g.2.length g.2.length par (λv=>(D d v).toNat):=aek hV hD h0 hP λv f=>hD.hi v f;rw[Vd];constructor
 ·intro h;have E:∀v,v<g.2.length->Gm g c v:=λv f=>Classical.byContradiction λq=>by
   obtain⟨a,b⟩:=We (p:=p) (R':=RW) q;exact h v f (by rw[Uf,a];exact b)
  have n:So g d c:=Tj hV hD h0 (λv f=>(UR (W:=ace) hc f).1.1) E;have z:∀v,v<g.2.length->¬0<=gF (bI p g) RW c v:=λv f q=>h v f (by rw[Uf,Ru (E v f),if_pos q];omega);have j:=λv f=>λq=>z v f ((enS (p:=p) hV hD h0 hP n f).1.2 q);have H:AG g.2.length par (sC c) (bC c):=λv f i=>Classical.byContradiction λq=>j v f (.inr (.inl (abJ i q)));have t:∀v,v<g.2.length->sC c v=0:=λv f=>Decidable.byContradiction λq=>by
   obtain⟨w,A,J,o⟩:=QO (q:=λu=>sC c u≠0) l.le g.2.length v (by omega) f q;refine j w A (.inr (.inr (.inl ⟨J,λx B s e=> ?_⟩)));obtain⟨_,a⟩:=l.up x B s;have y:sC c x=0:=Decidable.byContradiction λr=>by
    have:=o x B r;rw[e]at a;omega
   refine⟨y,Decidable.byContradiction λr=>j x B (.inr (.inl ⟨s,.inl λL=>r ?_⟩))⟩
   rw[<-L,e]
  have m:=aeh l H (t 0 l.n1);refine⟨n,m,?_⟩
  have C:∀k v,v<g.2.length->(D d v).toNat=k->rC c v=0:=by
   intro k
   induction k with
   |zero=>
    intro v f I;have i:v=0:=(hD.zero v f).1 (by have:=h0 v f;omega);subst i;exact Decidable.byContradiction λq=>j 0 f (.inl ⟨rfl,t 0 f,q⟩)
   |succ k K=>
    intro v f I;have i:v≠0:=λe=>by subst e;have:=l.d0;omega
    obtain⟨a,b⟩:=l.up v f i;exact Decidable.byContradiction λq=>j _ a (.inr (.inr (.inr ⟨t _ a,K _ a (by omega),v,f,i,rfl,q,t v f⟩)))
  exact λv f=>C _ v f Z
 ·rintro⟨n,m,F⟩ v f;rw[Uf,Ru (Zt hV hD h0 n f)];have:¬0<=gF (bI p g) RW c v:=λq=>by
   rcases(enS (p:=p) hV hD h0 hP n f).1.1 q with q|q|q|q
   ·obtain⟨rfl,_,q⟩:=q;exact q (F 0 f)
   ·obtain⟨a,_⟩:=l.up v f q.1;rcases q.2 with r|r
    ·exact r (by rw[(m v f).2,(m _ a).2])
    ·exact r.1 (m v f).1
   ·exact q.1 (m v f).1
   ·obtain⟨_,_,w,z,_,_,q,_⟩:=q;exact q (F w z)
  rw[if_neg this];omega
end
section
variable {p:sI} {g:GR} {c:List (List Int)} {d:List Int} {E:Nat} (hV:VG g) (hD:rV g 0 d) (h0:∀v,v<g.2.length->0<=D d v) {par fp:Nat->Nat} (hP:TP g d par fp) (hp:tU g uC) (hE:∀v,v<g.2.length->D d v<=(E:Int))
 include hV hD h0 hP hp hE
end
theorem Xg {g:GR} (h:VG g):tU g uC:=by
 have f:=h.n24;have e:∀x,x<uC.length->CE (at' uC (x:Int)):=λx c=>by
  have c:x<6:=c
  match x,c with
  |0,_=>exact⟨by decide,by decide,by decide⟩
  |1,_=>exact⟨by decide,by decide,by decide⟩
  |2,_=>exact⟨by decide,by decide,by decide⟩
  |3,_=>exact⟨by decide,by decide,by decide⟩
  |4,_=>exact⟨by decide,by decide,by decide⟩
  |5,_=>exact⟨by decide,by decide,by decide⟩
 refine⟨by decide,e,λx c=> ?_,λx c d=> ?_⟩
 ·have c:x<6:=c
  match x,c with
  |0,_=>exact .inl Z
  |1,_=>exact .inr (.inr Z)
  |2,_=>exact .inr (.inl Z)
  |3,_=>exact .inr (.inl Z)
  |4,_=>exact .inl Z
  |5,_=>exact .inr (.inl Z)
 ·have c:x<6:=c
  match x,c,d with
  |0,_,_=>
   have a:lo g (at' uC ((0:Nat):Int)) 0=0:=aeb g 0;have b:hi g (at' uC ((0:Nat):Int)) 0=(g.2.length:Int):=adR g 0;rw[a,b];omega
  |1,_,d=>exact absurd d (by decide)
  |2,_,d=>exact absurd d (by decide)
  |3,_,d=>exact absurd d (by decide)
  | 4, _, _ =>
   have b:hi g (at' uC ((4:Nat):Int)) 0=3:=by
    show(3:Int)+0*(g.2.length:Int)+0*gW g g.1.length=3;omega
   have a:lo g (at' uC ((4:Nat):Int)) 0=0:=rfl;rw[a,b];omega
  |5,_,d=>exact absurd d (by decide)
end Go.Proofs.YtmdlcmbplnhdnaaGreatDoor
namespace Go.Proofs.YtmdlcmbplnhdnaaGreatDoor
open Go Go.Sx
theorem Dm {k:Nat} (h:k<1000000):wI .i64 ((k:Int)+1)=((k+1:Nat):Int):=by rw[ahf h];push_cast;rfl
def VI (g:GR) (b:aP) (v x:Nat) (a:Int):Prop:=if at' b (x:Int) = -1 then -1<=a∧a<=((row g v).length:Int) - 1 else 0<=a∧a<=at' b (x:Int)
def adr (g:GR) (a:aP) (v:Nat) (l:aP):Prop:=l.length=a.length∧∀x,x<a.length->VI g a v x (at' l (x:Int))
def KI (g:GR) (hs:aP) (c:bA):Prop:=c.length=g.2.length∧∀v,v<g.2.length->adr g hs v (at' c (v:Int))
theorem Ir {g:GR} (l:VG g) {hs:aP} (y:hs.length<900) (c:bA):(KI g hs c->eM 1000 g c hs=some true)∧(¬KI g hs c->eM 1000 g c hs=some false):=by
 have t:=l.n24;have r:=l.len;unfold eM;by_cases p:c.length=g.2.length
 ·rw[if_neg (by omega)];have m:=wU (step:=eX 1000 g c hs) (K:=some true) (bad:=some false) c.length (λv=>adr g hs v (at' c (v:Int))) (λk=>(k:Int)) (λk j u i=> ?_) (λk j u i=> ?_) (λj=> ?_) 1000 (by omega)
  ·refine⟨λh=>m.1 λv w=>h.2 v (by omega),λh=>m.2 λs=>h ⟨p,λv w=>s v (by omega)⟩⟩
  all_goals unfold eX
  ·have b:=wU (step:=cP g c hs (k:Int) j) (K:=j ((k+1:Nat):Int)) (bad:=some false) hs.length (λx=>VI g hs k x (at' (at' c (k:Int)) (x:Int))) (λx=>(x:Int)) ?_ ?_ ?_ 1000 (by omega)
   ·rw[if_pos (by omega),cB (by omega),if_neg (by have:=i.1;omega)];exact b.1 i.2
   ·intro x d o a;unfold cP fZ f_;have n:=i.1;have f:(at' g.2 (k:Int)).length<g.2.length:=(l.node k (by omega)).deg;rw[if_pos (by omega),cB (by omega),cB (by omega)];unfold VI at a;by_cases e:at' hs (x:Int) = -1
    ·rw[if_pos e]at a;rw[if_pos e,cB (by omega),wr (by omega) (by omega)];dsimp only;rw[if_neg (by omega),if_neg (by rw[decide_eq_true_eq];show¬((row g k).length:Int) - 1<_;omega),Dm (by omega)]
    ·rw[if_neg e]at a;rw[if_neg e];dsimp only;rw[if_neg (by omega),if_neg (by rw[decide_eq_true_eq];omega),Dm (by omega)]
   ·intro x d o a;unfold cP fZ f_;have n:=i.1;have f:(at' g.2 (k:Int)).length<g.2.length:=(l.node k (by omega)).deg;rw[if_pos (by omega),cB (by omega),cB (by omega)];unfold VI at a;by_cases e:at' hs (x:Int) = -1
    ·rw[if_pos e]at a;rw[if_pos e,cB (by omega),wr (by omega) (by omega)];dsimp only;by_cases q:at' (at' c (k:Int)) (x:Int) < -1
     ·rw[if_pos q,if_pos Z]
     ·rw[if_neg q,if_pos (by rw[decide_eq_true_eq];show((row g k).length:Int) - 1<_;omega)]
    ·rw[if_neg e]at a;rw[if_neg e];dsimp only;by_cases q:at' (at' c (k:Int)) (x:Int)<0
     ·rw[if_pos q,if_pos Z]
     ·rw[if_neg q,if_pos (by rw[decide_eq_true_eq];omega)]
   ·intro d;unfold cP kI;have n:=i.1;rw[if_neg (by omega),Dm (by omega)]
  ·rw[if_pos (by omega),cB (by omega)];by_cases n:(at' c (k:Int)).length=hs.length
   ·rw[if_neg (by omega)];have b:=wU (step:=cP g c hs (k:Int) j) (K:=j ((k+1:Nat):Int)) (bad:=some false) hs.length (λx=>VI g hs k x (at' (at' c (k:Int)) (x:Int))) (λx=>(x:Int)) ?_ ?_ ?_ 1000 (by omega)
    ·exact b.2 λh=>i ⟨n,h⟩
    ·intro x d o a;unfold cP fZ f_;have f:(at' g.2 (k:Int)).length<g.2.length:=(l.node k (by omega)).deg;rw[if_pos (by omega),cB (by omega),cB (by omega)];unfold VI at a;by_cases e:at' hs (x:Int) = -1
     ·rw[if_pos e]at a;rw[if_pos e,cB (by omega),wr (by omega) (by omega)];dsimp only;rw[if_neg (by omega),if_neg (by rw[decide_eq_true_eq];show¬((row g k).length:Int) - 1<_;omega),Dm (by omega)]
     ·rw[if_neg e]at a;rw[if_neg e];dsimp only;rw[if_neg (by omega),if_neg (by rw[decide_eq_true_eq];omega),Dm (by omega)]
    ·intro x d o a;unfold cP fZ f_;have f:(at' g.2 (k:Int)).length<g.2.length:=(l.node k (by omega)).deg;rw[if_pos (by omega),cB (by omega),cB (by omega)];unfold VI at a;by_cases e:at' hs (x:Int) = -1
     ·rw[if_pos e]at a;rw[if_pos e,cB (by omega),wr (by omega) (by omega)];dsimp only;by_cases q:at' (at' c (k:Int)) (x:Int) < -1
      ·rw[if_pos q,if_pos Z]
      ·rw[if_neg q,if_pos (by rw[decide_eq_true_eq];show((row g k).length:Int) - 1<_;omega)]
     ·rw[if_neg e]at a;rw[if_neg e];dsimp only;by_cases q:at' (at' c (k:Int)) (x:Int)<0
      ·rw[if_pos q,if_pos Z]
      ·rw[if_neg q,if_pos (by rw[decide_eq_true_eq];omega)]
    ·intro d;unfold cP kI;rw[if_neg (by omega),Dm (by omega)]
   ·rw[if_pos (by omega)]
  ·rw[if_neg (by omega)];rfl
 ·rw[if_pos (by omega)];exact⟨λh=>absurd h.1 p,λ_=>rfl⟩

def IsF (q:Nat->Prop) (n:Nat) (p:Int):Prop:=(∃i:Nat,i<n∧p=i∧q i∧∀k,k<i->¬q k)∨(p = -1∧∀k,k<n->¬q k)
theorem IsF.uniq {q:Nat->Prop} {n:Nat} {p g:Int} (h:IsF q n p) (k:IsF q n g):p=g:=by
 rcases h with⟨i,a,b,c,l⟩|⟨a,b⟩<;>rcases k with⟨j,d,e,f,m⟩|⟨d,e⟩
 ·have:i=j:=by
   rcases Nat.lt_trichotomy i j with q|q|q
   ·exact absurd c (m i q)
   ·exact q
   ·exact absurd f (l j q)
  omega
 ·exact absurd c (e i a)
 ·exact absurd f (b j d)
 ·omega
def Low (g:GR) (d:aP) (v i:Nat):Prop:=at' d (fP (row g v) i).1=D d v - 1
instance (g:GR) (d:aP) (v i:Nat):Decidable (Low g d v i):=inferInstanceAs (Decidable (_=_))
theorem WC (p q:aP) (h:q.length<900):vR 1000 p q=some (decide (p=q)):=by
 unfold vR;by_cases f:p.length=q.length
 ·rw[if_neg (by omega)];have a:=wU (step:=tI p q) (K:=some true) (bad:=some false) p.length (λk=>at' p (k:Int)=at' q (k:Int)) (λk=>(k:Int)) (λk c d b=> ?_) (λk c d b=> ?_) (λc=> ?_) 1000 (by omega)
  ·by_cases e:p=q
   ·rw[decide_eq_true e];exact a.1 λk d=>by rw[e]
   ·rw[decide_eq_false e];exact a.2 λg=>e (Nl f λv i=>g v i)
  all_goals unfold tI
  ·rw[if_pos (by omega),cB (by omega),cB (by omega),if_neg (by simpa using b),Dm (by omega)]
  ·rw[if_pos (by omega),cB (by omega),cB (by omega),if_pos b]
  ·rw[if_neg (by omega)];rfl
 ·rw[if_pos (by omega),decide_eq_false λe=>f (by rw[e])]
section
variable {g:GR} (hV:VG g) {d:List Int} {s:Nat} (hD:rV g s d)
 include hV hD
theorem aer {v i:Nat} (b:v<g.2.length) (a:i<(row g v).length):0<=(fP (row g v) i).1∧(fP (row g v) i).1<(d.length:Int):=by
 obtain⟨u,c,e⟩:=hV.to b a;have:=hD.len;omega
theorem abf {v:Nat} (a:v<g.2.length):wI .i64 (D d v - 1)=D d v - 1:=by
 have b:=hD.lo v a;have c:=hD.hi v a;have:=hV.n24;exact wr (by omega) (by omega)
theorem abR {v i:Nat} (a:v<g.2.length) (c:i<(row g v).length):xC 1000 ((fP (row g v) i).1,(fP (row g v) i).2) d (v:Int)=some (decide (Low g d v i)):=by
 have b:=aer hV hD a c;have f:=hD.len;unfold xC;rw[cB b,cB (by omega)];have e:wI .i64 (at' d (v:Int) - 1)=D d v - 1:=abf hV hD a;rw[e];rfl
theorem NK {v:Nat} (m:v<g.2.length) (c:List Int):∃p,IsF (Low g d v) (row g v).length p∧uM 1000 g (v:Int) d c=some (decide (c=[D d v,p])):=by
 have o:=hV.n24;have l:=(hV.node v m).deg;have r:=hD.len;have n:∀a:Int,vA 1000 (v:Int) d c a=some (decide (c=[D d v,a])):=λa=>by
  unfold vA;rw[cB (by omega),WC _ _ (by simp),bD Z]
 unfold uM;rw[cB (by omega)];have i:∀b k,k<=(row g v).length->(∀j,j<k->¬Low g d v j)->(row g v).length - k<b->∃p,IsF (Low g d v) (row g v).length p∧bL (rA 1000 g (v:Int) d c) b (k:Int)=some (decide (c=[D d v,p])):=by
  intro b
  induction b with
  |zero=>intro k _ _ h;omega
  | succ b ih =>
   intro k x f w;show∃p,_∧rA 1000 g (v:Int) d c (k:Int) (bL (rA 1000 g (v:Int) d c) b)=_;unfold rA;by_cases e:k<(row g v).length
   ·rw[if_pos (show(k:Int)<((row g v).length:Int) by omega),cB (show 0<=(k:Int)∧(k:Int)<((row g v).length:Int) by omega)];have u:=abR hV hD m e;rw[show((at' (at' g.2 (v:Int)) (k:Int)).1,(at' (at' g.2 (v:Int)) (k:Int)).2)=((fP (row g v) k).1,(fP (row g v) k).2)from rfl,u,bD Z];by_cases q:Low g d v k
    ·rw[decide_eq_true q,if_pos Z];exact⟨k,.inl ⟨k,e,rfl,q,f⟩,n _⟩
    ·rw[decide_eq_false q,if_neg (by simp),Dm (by omega)];exact ih (k+1) (by omega) (λj t=>by
      by_cases h:j=k
      ·subst h;exact q
      ·exact f j (by omega)) (by omega)
   ·rw[if_neg (show¬(k:Int)<((row g v).length:Int) by omega)];exact⟨-1,.inr ⟨rfl,λj t=>f j (by omega)⟩,n _⟩
 exact i 1000 0 (by omega) (λj h=>by omega) (by omega)
def Em (g:GR) (d:List Int) (v:Nat) (l:List Int):Prop:=at' l 0=D d v∧IsF (Low g d v) (row g v).length (at' l 1)
theorem MQ (G:s=0) (u:KJ g) {c:List (List Int)} (j:KI g [(g.2.length:Int),-1] c):
  ((∀v,v<g.2.length->Em g d v (at' c (v:Int)))->uL 1000 g c=some true)∧(¬(∀v,v<g.2.length->Em g d v (at' c (v:Int)))->uL 1000 g c=some false):=by
 subst G;have H:=hV.n24;have M:=hV.n1;have I:=hD.len;have q:=hV.len;have F:nW 1000 (g.1,g.2) c=some true:=by
  unfold nW Gj kJ;have B:eV 1000 (g.1,g.2)=some true:=(yX hV).1 u;have C:eM 1000 (g.1,g.2) c [(g.1.length:Int),-1]=some true:=by
   rw[q];exact(Ir hV (by simp) c).1 j
  rw[B,bD Z,bD Z,if_pos Z,C,bD Z]
 obtain⟨h,w,t⟩:=Lm hV (s:=0) (by omega);have x:h=d:=by
  have L:=Cd hV (s:=0) (by omega) hD;have A:=Cd hV (s:=0) (by omega) t;rw[L]at A;exact(Option.some.inj A).symm
 subst x;unfold uL;have E:nC 1000 (g.1,g.2) 0=some h:=w;rw[F,bD Z,if_neg (by simp),E,bD Z];have i:∀v,v<g.2.length->∀p,(at' c (v:Int)=[D h v,p])↔(at' (at' c (v:Int)) 0=D h v∧at' (at' c (v:Int)) 1=p):=λv J p=>by
  have y:=(j.2 v J).1;simp only[List.length_cons,List.length_nil]at y;generalize at' c (v:Int)=l at y ⊢
  match l,y with
  | [a,b],_=>
   show[a,b]=[D h v,p]↔a=D h v∧b=p;simp
 have N:=j.1;refine wU (step:=yW 1000 g c h) (K:=some true) (bad:=some false) g.2.length (λv=>Em g h v (at' c (v:Int))) (λk=>(k:Int)) (λk z o r=> ?_) (λk z o r=> ?_) (λz=> ?_) 1000 (by omega)
 all_goals unfold yW
 ·obtain⟨p,m,n⟩:=NK hV hD o (at' c (k:Int));have f:uM 1000 (g.1,g.2) (k:Int) h (at' c (k:Int))=_:=n;rw[if_pos (by omega),cB (by omega),f,bD Z,decide_eq_true ((i k o p).2 ⟨r.1,r.2.uniq m⟩),if_neg (by simp),Dm (by omega)]
 ·obtain⟨p,m,n⟩:=NK hV hD o (at' c (k:Int));have f:uM 1000 (g.1,g.2) (k:Int) h (at' c (k:Int))=_:=n;rw[if_pos (by omega),cB (by omega),f,bD Z,decide_eq_false λe=>r (by
   have:=(i k o p).1 e;exact⟨this.1,by rw[this.2];exact m⟩),if_pos (by simp)]
 ·rw[if_neg (by omega)];rfl
end
def Is (m:Nat) (c:bA) (k:Nat):bA:=(c.take k).map (λl=>List.drop (Int.toNat 0) (List.take m l))++List.replicate (c.length - k) []
theorem SJ {m:Nat} {c:bA} {k:Nat} (a:k<c.length):(Is m c k).set k (List.drop (Int.toNat 0) (List.take m (at' c (k:Int))))=Is m c (k+1):=by
 unfold Is;obtain⟨j,b⟩:∃j,c.length - k=j+1:=⟨c.length - k - 1,by omega⟩
 rw[b,List.replicate_succ,abV _ _ _ _ k (by simp;omega)];have e:c.take (k+1)=c.take k++[at' c (k:Int)]:=by
  rw[List.take_add_one,List.getElem?_eq_getElem a];congr 1;have:=gX (xs:=c) (i:=k);rw[this,List.getD_eq_getElem?_getD,List.getElem?_eq_getElem a];rfl
 rw[e,List.map_append,List.append_assoc];congr 1;show _::_=[_]++_;rw[show c.length - (k+1)=j by omega];rfl
theorem UW {m:Nat} {c:bA} {k:Nat} (a:k<=c.length):(Is m c k).length=c.length:=by
 unfold Is;simp;omega
theorem UV {m:Nat} {c:bA}:Is m c c.length=c.map (λl=>l.take m):=by
 unfold Is;rw[List.take_length,Nat.sub_self];simp
theorem GG {m:Nat} {c:bA} {v:Nat} (a:v<c.length):at' (c.map (λl=>l.take m)) (v:Int)=(at' c (v:Int)).take m:=Qx (λl:aP=>l.take m) (by omega) (by omega)
theorem Hu {m:Nat} {l:aP} {i:Nat} (a:i<m):at' (l.take m) (i:Int)=at' l (i:Int):=by
 rw[gX,gX,List.getD_eq_getElem?_getD,List.getD_eq_getElem?_getD,List.getElem?_take_of_lt a]
theorem YS {g:GR} {c b:aP} {v x:Nat} {a:Int} (h:VI g c v x a) (e:at' b (x:Int)=at' c (x:Int)):VI g b v x a:=by
 unfold VI at h ⊢;rw[e];exact h
theorem KI.cut {g:GR} {hs:aP} {c:bA} {m:Nat} (h:KI g hs c) (j:m<=hs.length):KI g (hs.take m) (c.map (λl=>l.take m)):=by
 refine⟨by simpa using h.1,λv d=> ?_⟩
 have b:v<c.length:=by rw[h.1];exact d
 rw[GG b];obtain⟨i,e⟩:=h.2 v d;refine⟨by simp;omega,λx f=> ?_⟩
 have a:x<m:=by simp at f;omega
 rw[Hu a];exact YS (e x (by omega)) (Hu a)
end Go.Proofs.YtmdlcmbplnhdnaaGreatDoor
namespace Go.Proofs.YtmdlcmbplnhdnaaGreatDoor
open Go Go.Sx
def rH (g:GR):aP:=[(g.2.length:Int),-1,1,1,3,1]
theorem cfS {g:GR} {c:bA} (k:0<g.2.length) (a:Jw g c uC):KI g (rH g) c:=by
 refine⟨a.len,λv b=>⟨a.row v b,λx d=> ?_⟩⟩
 obtain⟨⟨f,h⟩,i,j⟩:=UR (W:=ace) a b;obtain⟨l,m,n,o⟩:=ahb a b;have d:x<6:=d;unfold VI
 match x,d with
 |0,_=>
  have e:at' (rH g) ((0:Nat):Int)=(g.2.length:Int):=rfl;rw[e,if_neg (by omega)];exact⟨f,h⟩
 |1,_=>
  have e:at' (rH g) ((1:Nat):Int) = -1:=rfl;rw[e,if_pos Z];exact⟨i,j⟩
 |2,_=>
  have e:at' (rH g) ((2:Nat):Int)=1:=rfl;rw[e,if_neg (by omega)];show 0<=sB c v 2∧sB c v 2<=1;omega
 |3,_=>
  have e:at' (rH g) ((3:Nat):Int)=1:=rfl;rw[e,if_neg (by omega)];show 0<=sB c v 3∧sB c v 3<=1;omega
 |4,_=>
  have e:at' (rH g) ((4:Nat):Int)=3:=rfl;rw[e,if_neg (by omega)];show 0<=sB c v 4∧sB c v 4<=3;omega
 |5,_=>
  have e:at' (rH g) ((5:Nat):Int)=1:=rfl;rw[e,if_neg (by omega)];show 0<=sB c v 5∧sB c v 5<=1;omega
def XD (c:bA) (v:Nat):Prop:=sB c v 2=0∧sB c v 5=0∧sB c v 3=sB c 0 3
section
variable {g:GR} (hV:VG g) (hc:KJ g) {d:List Int} (hD:rV g 0 d)
 include hV
theorem abN {c:List (List Int)} (n:c.length=g.2.length) (h:∀v,v<g.2.length->(at' c (v:Int)).length=6):((∀v,v<g.2.length->XD c v)->bL (jB c) 1000 0=some true)∧(¬(∀v,v<g.2.length->XD c v)->bL (jB c) 1000 0=some false):=by
 have l:=hV.n24;have m:(at' c 0).length=6:=h 0 (by have:=hV.n1;omega);refine wU (step:=jB c) (K:=some true) (bad:=some false) g.2.length (XD c) (λk=>(k:Int)) (λk i f a=> ?_) (λk i f a=> ?_) (λi=> ?_) 1000 (by omega)
 ·have:=h k f;unfold jB oV;rw[if_pos (by omega),cB (by omega),cB (by omega),if_neg (λq=>q a.1),cB (by omega),if_neg (λq=>q a.2.1),cB (by omega),cB (by omega),cB (by omega),if_neg (λq=>by rw[decide_eq_true_eq]at q;exact q a.2.2),Dm (by omega)]
 ·have:=h k f;unfold jB oV;rw[if_pos (by omega),cB (by omega),cB (by omega)];by_cases b:at' (at' c (k:Int)) 2=0
  ·rw[if_neg (by simpa using b),cB (by omega)];by_cases e:at' (at' c (k:Int)) 5=0
   ·rw[if_neg (by simpa using e),cB (by omega),cB (by omega),cB (by omega),if_pos];rw[decide_eq_true_eq];exact λj=>a ⟨b,e,j⟩
   ·rw[if_pos e,if_pos Z]
  ·rw[if_pos b,if_pos Z]
 ·unfold jB;rw[if_neg (by omega)];rfl
 include hc hD
theorem Zh {c:List (List Int)} (t:Jw g c uC):∃b,lF 1000 g c=some b∧(b=true↔So g d c∧Qt g.2.length (sC c) (bC c)∧∀v,v<g.2.length->rC c v=0):=by
 have C:=hV.n24;have I:=hV.n1;have e:KI g (rH g) c:=cfS (by omega) t;have f:∀v,v<g.2.length->(at' c (v:Int)).length=6:=λv a=>(e.2 v a).1;have F:=Ir hV (hs:=rH g) (by simp[rH]) c;have z:eV 1000 (g.1,g.2)=some true:=(yX hV).1 hc;have A:jW 1000 g c=some true:=by
  unfold jW xT jC;rw[z,bD Z,bD Z,if_pos Z];have:eM 1000 (g.1,g.2) c [(g.1.length:Int),-1,1,1,3,1]=eM 1000 g c (rH g):=by rw[hV.len];rfl
  rw[this,F.1 e];rfl
 have o:=e.1;have n:KI g [(g.2.length:Int),-1] (c.map λl=>l.take 2):=e.cut (m:=2) (by simp[rH]);have p:∀v,v<g.2.length->(Em g d v (at' (c.map λl=>l.take 2) (v:Int))↔Em g d v (at' c (v:Int))):=λv a=>by
  rw[GG (by omega)];unfold Em;have G:at' ((at' c (v:Int)).take 2) 0=at' (at' c (v:Int)) 0:=Hu (i:=0) (by omega);have u:at' ((at' c (v:Int)).take 2) 1=at' (at' c (v:Int)) 1:=Hu (i:=1) (by omega);rw[G,u]
 obtain⟨u,H⟩:=MQ hV hD Z hc (c:=c.map λl=>l.take 2) n;have B:lF 1000 g c=Option.bind (uL 1000 g (c.map λl=>l.take 2)) λr=>oU 1000 c (!r):=by
  unfold lF;rw[show jW 1000 (g.1,g.2) c=some true from A,bD Z,if_neg (by simp),cB (by omega)];have q:=eJ (step:=qZ 1000 g c) (K:=vW 1000 g c (Is 2 c c.length)) c.length (λk=>((k:Int),Is 2 c k)) (λk y D=> ?_) (λy=> ?_) 1000 (by omega)
  ·rw[show(((0:Nat):Int),Is 2 c 0)=((0:Int),List.replicate (Int.toNat (c.length:Int)) ([]:List Int)) by simp[Is]]at q;rw[q,UV];rfl
  ·have E:=f k (by omega);unfold qZ;dsimp only;rw[if_pos (by omega),cB (by omega),cB (by omega),cB (by rw[UW (by omega)];omega),Dm (by omega)];have:=SJ (m:=2) D;rw[show Int.toNat (k:Int)=k from rfl,show Int.toNat (2:Int)=2 from rfl,this]
  ·unfold qZ;dsimp only;rw[if_neg (by omega)]
 obtain⟨w,x⟩:=abN hV o f;rw[B];by_cases s:∀v,v<g.2.length->Em g d v (at' c (v:Int))
 ·rw[u λv a=>(p v a).2 (s v a),bD Z];unfold oU;rw[if_neg (by simp)];by_cases j:∀v,v<g.2.length->XD c v
  ·exact⟨true,w j,⟨λ_=>⟨s,λv a=>⟨(j v a).1,(j v a).2.2⟩,λv a=>(j v a).2.1⟩,λ_=>rfl⟩⟩
  ·exact⟨false,x j,⟨λh=>(by cases h),λh=>absurd (λv a=>⟨(h.2.1 v a).1,h.2.2 v a,(h.2.1 v a).2⟩) j⟩⟩
 ·rw[H λh=>s λv a=>(p v a).1 (h v a),bD Z];unfold oU;rw[if_pos (by simp)];exact⟨false,rfl,⟨λh=>(by cases h),λh=>absurd (λv a=>h.1 v a) s⟩⟩
end
theorem Yu {g:GR} (m:VM g.1 g.2) (h:∀v:Nat,1<=v->v<g.2.length->∃u:Nat,u<v∧lN g.2 u v):KJ g:=by
 have f:VG g:=m.vg;have t:=f.n1;have j:∀v,v<g.2.length->∃k,wO g 0 k v:=by
  intro v
  induction v using Nat.strongRecOn with
  | _ v ih =>
   intro c;by_cases l:v=0
   ·subst l;exact⟨0,rfl,c⟩
   ·obtain⟨u,e,x,s,p⟩:=h v (by omega) c;obtain⟨k,r⟩:=ih u e (by omega);obtain⟨i,q,d⟩:=Du s;refine⟨k+1,u,r,i,q,?_⟩
    show(at' (at' g.2 (u:Int)) (i:Int)).1=_;rw[d,p]
 intro u v e c;obtain⟨a,n⟩:=j u e;obtain⟨b,o⟩:=j v c;exact⟨a+b,(EU f n).trans o⟩
structure XC (g:GR) (d:aP) (E:Nat) (par fp:Nat->Nat):Prop where
 v:VG g
 c:KJ g
 dist:rV g 0 d
 d0:∀v,v<g.2.length->0<=D d v
 p:TP g d par fp
 e:∀v,v<g.2.length->D d v<=(E:Int)
 en:E<g.2.length
 ecc:iO 1000 g 0=some (E:Int)
theorem agZ (x:OI) (a:Nat) (n:1<=a) (k:a<=24):∃g d E e j,fT 1000 x (a:Int)=some g∧g.2.length<=a∧XC g d E e j:=by
 obtain⟨g,t,i,w,q⟩:=Lk x a n k;have h:VG g:=i.vg;have y:=h.n1;have l:=Yu i q;obtain⟨r,z,o⟩:=Hc h l (s:=0) (by omega);obtain⟨d,_,f,m,v,c,A⟩:=o;have b:∀v,v<g.2.length->0<=D d v:=λv c=>(US h (s:=0) (by omega) f).2 l v (by rw[f.len];exact c);obtain⟨e,j,p⟩:=aes h f b;have B:=b v c;have C:=f.hi v c;have u:r<(g.2.length:Int):=by
  have F:=f.lt c;omega
 refine⟨g,d,r.toNat,e,j,t,w,⟨h,l,f,b,p,λv c=> ?_,by omega,?_⟩⟩
 ·have:=m v c;omega
 ·rw[Int.toNat_of_nonneg (by omega)];exact z
theorem adF:Cq RS=BO:=rfl
theorem NL:vX uC.length RS=true:=Zm
theorem aey:∀x,x<uC.length->CE (at' uC (x:Int)) ∧ -100000<=(at' uC (x:Int)).2.2.1∧(at' uC (x:Int)).2.2.1<=(at' uC (x:Int)).2.2.2.1:=by
 intro x a;have a:x<6:=a
 match x,a with
 |0,_=>exact⟨⟨by decide,by decide,by decide⟩,by decide,by decide⟩
 |1,_=>exact⟨⟨by decide,by decide,by decide⟩,by decide,by decide⟩
 |2,_=>exact⟨⟨by decide,by decide,by decide⟩,by decide,by decide⟩
 |3,_=>exact⟨⟨by decide,by decide,by decide⟩,by decide,by decide⟩
 |4,_=>exact⟨⟨by decide,by decide,by decide⟩,by decide,by decide⟩
 |5,_=>exact⟨⟨by decide,by decide,by decide⟩,by decide,by decide⟩
abbrev pS:sI:=(ByteArray.mk #[114,101,115,101,116],uC,[])
def Qg (g:GR) (d:aP) (c:bA):Prop:=So g d c∧Qt g.2.length (sC c) (bC c)∧∀v,v<g.2.length->rC c v=0
section
variable {g:GR} {d:List Int} {E:Nat} {par fp:Nat->Nat} (N:XC g d E par fp) {kind:Int} (hk1:1<=kind) (hk4:kind<=4) {c0:List (List Int)} {ws:List Int} (hws:ws.length<=900) (hw:∀k:Nat,k<ws.length->∃m:Nat,at' ws (k:Int)=(m:Int)∧m<4294967296)
 include N
theorem SN {c:List (List Int)} (a:Jw g c uC):uI (bI pS g) RS (gV g) c=0↔Qg g d c:=abM N.v N.dist N.d0 N.p a
end
end Go.Proofs.YtmdlcmbplnhdnaaGreatDoor
namespace Go.Proofs.YtmdlcmbplnhdnaaGreatDoor
open Go.Sx
def sO (U:Nat) (a:cE):Option ((Int×Bool×Bool×Int×Int)):=
 Option.bind (xT U ((a.1,a.2))) λb=>(if(!b)=true then(some (((0:Int),false,false,(0:Int),(0:Int))))else(Option.bind (iO U ((a.1,a.2)) (0:Int)) λc=>(some (((3:Int),true,true,(wI .i64 ((wI .i64 ((7:Int)*c))+(4:Int))),(-1:Int))))))
theorem aau:aR Tryz.prog 20:=Tryz.call20
theorem JH (U:Nat) {d:cE} (a:Value)  (b:Value)  (f:lA) (r:(Int×Bool×Bool×Int×Int)) (h:sO U d=some r):
  aV Tryz.prog 20 #[Value.agg #[a,b]] [Sl bM a d.1,S2 a_ b f d.2] (λx:Unit=>Value.agg #[vI (r.1),vB (r.2.1),vB (r.2.2.1),vI (r.2.2.2.1),vI (r.2.2.2.2)]) (λx l=>l) (λ_ l=>l):=by
 refine aV.of Tryz.func20 Z Tryz.ntmps20 Z λc=>?_;refine aT<|aG (aL.box (cs:=[a,b]) Z Z) Z λk=>aG (aL.alloc (cs:=[vI (0:Int),vB (false),vB (false),vI (0:Int),vI (0:Int)]) Z Z) Z λm=>aM<|aJ<|aT<|dW 1 Z<|eZ h λg i h=>aG (aL.callQ UD (GY U a b f g i) Z (nK [0,1] Z)) Z λn=>aC (sK Z) Z<|aM ?_;refine A_ h Z (λ_ h=>?_) λ_ h=>?_
 ·refine aT ?_;refine aC (H_ (r:=Value.agg #[vI (0:Int),vB (false),vB (false),vI (0:Int),vI (0:Int)]) (by intro w;simp[Instr.build,Instr.fill,dH,cW,cH,dJ,dK,cX,eI])) Z ?_;refine bN 0 (vs:=[vI (0:Int),vB (false),vB (false),vI (0:Int),vI (0:Int)]) Z Z Z Z Z Z<|aM<|aS<|aI ?_;cases h;exact gJ () Z Z (RV.cell 0 Z Z Z Z) .nil aF.nil
 refine cU<|aT<|dW 1 Z<|eZ h λe j h=>aG (aL.callQ aaB (Dg U a b f e j) Z (nK [0,1] Z)) Z λo=>aC (AJ Z Z) Z<|cQ Z ?_;refine aC (Y.bld5 (r:=Value.agg #[vI (3:Int),vB (true),vB (true),vI (wI .i64 ((wI .i64 ((7:Int)*e))+(4:Int))),vI (-1:Int)]) Z Z Z Z Z (by intro w;simp[Instr.build,Instr.fill,dH,cW,cH,dJ,dK,cX,eI])) Z ?_;refine bN 0 (vs:=[vI (3:Int),vB (true),vB (true),vI (wI .i64 ((wI .i64 ((7:Int)*e))+(4:Int))),vI (-1:Int)]) Z Z Z Z Z Z<|aM<|aS ?_;cases h;exact gJ () Z Z (RV.cell 0 Z Z Z Z) .nil aF.nil
end Go.Proofs.YtmdlcmbplnhdnaaGreatDoor
namespace Go.Proofs.YtmdlcmbplnhdnaaGreatDoor
open Go Go.Sx
section
variable {g:GR} {d:List Int} {E:Nat} {par fp:Nat->Nat} (N:XC g d E par fp)
 include N
theorem Zg:sO 1000 g=some (3,true,true,7*(E:Int)+4,-1):=by
 have a:eV 1000 (g.1,g.2)=some true:=(yX N.v).1 N.c;have b:=N.v.n24;have f:=N.en;have e:wI .i64 (wI .i64 (7*(E:Int))+4)=7*(E:Int)+4:=by rw[show wI .i64 (7*(E:Int))=7*(E:Int)from wr (by omega) (by omega),wr (by omega) (by omega)]
 unfold sO xT;rw[a,bD Z,bD Z,if_neg (by simp),show iO 1000 (g.1,g.2) 0=some (E:Int)from N.ecc,bD Z,e]
 omit N in
end
end Go.Proofs.YtmdlcmbplnhdnaaGreatDoor
namespace Go.Proofs.YtmdlcmbplnhdnaaGreatDoor
open Go.Sx
def qT (U:Nat) (a:wC) (b:cE) (c:bA):Option (Bool):=
 Option.bind (lZ U ((a.1,a.2.1,a.2.2)) ((b.1,b.2)) c) λd=>(some (decide (d=(0:Int))))
theorem aaC:aR Tryz.prog 42:=Tryz.call42
theorem Jg (U:Nat) {a:wC} {g:cE} {j:bA} (b:Value)  (d:Value)  (e:Value)  (f:Value)  (k:lA)  (i:Value)  (m:qE) (r:Bool) (h:qT U a g j=some r):
  aV Tryz.prog 42 #[Value.agg #[vS (a.1),b,d],Value.agg #[e,f],i] [Sl aK b a.2.1,Sl aH d a.2.2,PF (Value.agg #[vS a.1,b,d]),Sl bM e g.1,S2 a_ f k g.2,S2 bM i m j] (λx:Unit=>vB (r)) (λx l=>l) (λ_ l=>l):=by
 refine aV.of Tryz.func42 Z Tryz.ntmps42 Z λc=>?_;refine aT<|aG (aL.box (cs:=[vS (a.1),b,d]) Z Z) Z λp=>aG (aL.box (cs:=[e,f]) Z Z) Z λq=>aD Z<|aM<|aT<|dW 1 Z<|dW 0 Z<|aA Z<|eZ h λn o h=>aG (aL.callQ UG (Di U b d e f k i m n o) Z (nK [0,1,2,3,4,5] Z)) Z λs=>cJ Z<|aD Z<|aM<|aS ?_;cases h;exact uU Z
def yH (U:Nat) (b:wC) (d:cE) (e:bA) (a:eY×Int×bA):Option (Int):=
 Option.bind (cS U ((((b.1,b.2.1,b.2.2)),((((b.1,b.2.1,b.2.2)),((d.1,d.2)),a.2.1,a.2.2)),a.1)) e) λc=>(some (c))
def tK (U:Nat) (b:wC) (c:cE) (e:bA) (a:Int×bA):Option (Int):=
 Option.bind (i_ U ((b.1,b.2.1,b.2.2)) ((c.1,c.2))) λd=>(yH U b c e (d,a.1,a.2))
def pP (U:Nat) (b:wC) (c:cE) (d:bA) (a:Int×bA):Option (Int):=
 tK U b c d (a.1,a.2)
def tM (d:cE) (a:Int×Int×bA) (b:(Int×Int×bA)->Option (Int)) (c:bA):Option (Int):=
 b ((wI .i64 (a.1+(1:Int))),(max a.2.1 (at' d.1 a.1)),c)
def mU (U:Nat) (d:cE) (a:Int×Int×bA) (e:(Int×Int×bA)->Option (Int)) (b:Int×bA) (f:(Int×bA)->Option (Int)):Option (Int):=
 if b.1<(List.length (at' d.2 a.1):Int)then(ck (0<=b.1∧b.1<(List.length (at' d.2 a.1):Int)) (ck (0<=a.1∧a.1<(List.length b.2:Int)) (Option.bind (lY U ((d.1,d.2)) ((at' (at' d.2 a.1) b.1).1) a.1) λc=>(ck ((List.length (at' b.2 a.1):Int)+(List.length ([c]):Int)<=1099511627) (ck (0<=a.1∧a.1<(List.length (List.set b.2 (Int.toNat a.1) ((at' b.2 a.1)++[c])):Int)) (f ((wI .i64 (b.1+(1:Int))),(List.set b.2 (Int.toNat a.1) ((at' b.2 a.1)++[c])))))))))else(tM d a e (b.2))
def jI (U:Nat) (d:wC) (c:cE) (e:bA) (a:Int×Int×bA) (b:(Int×Int×bA)->Option (Int)):Option (Int):=
 if a.1<(List.length c.2:Int)then(ck (0<=a.1∧a.1<(List.length c.2:Int)) (ck (0<=a.1∧a.1<(List.length c.1:Int)) (bL (mU U c a b) U ((0:Int),a.2.2))))else(pP U d c e (a.2.1,a.2.2))
def oP (U:Nat) (b:wC) (a:cE) (c:bA):Option (Int):=
 Option.bind (qT U ((b.1,b.2.1,b.2.2)) ((a.1,a.2)) c) λd=>(if(!d)=true then(some (0:Int))else(ck (0<=(List.length a.2:Int)∧(List.length a.2:Int)<=1099511627) (bL (jI U b a c) U ((0:Int),(0:Int),(List.replicate (Int.toNat (List.length a.2:Int)) ([]:aP))))))
theorem aav:aR Tryz.prog 22:=Tryz.call22
theorem Jj (U:Nat) {d:wC} {o:cE} {O:bA} (f:Value)  (g:Value)  (p:Value)  (m:Value)  (Q:lA)  (R:Value)  (z6:qE) (r:Int) (h:oP U d o O=some r):
  aV Tryz.prog 22 #[Value.agg #[vS (d.1),f,g],Value.agg #[p,m],R] [Sl aK f d.2.1,Sl aH g d.2.2,PF (Value.agg #[vS d.1,f,g]),Sl bM p o.1,S2 a_ m Q o.2,S2 bM R z6 O] (λx:Unit=>vU (r)) (λx l=>l) (λ_ l=>l):=by
 refine aV.of Tryz.func22 Z Tryz.ntmps22 Z λc=>?_;refine aT<|aG (aL.box (cs:=[vS (d.1),f,g]) Z Z) Z λb1=>aG (aL.box (cs:=[p,m]) Z Z) Z λb2=>aD Z<|aM<|aJ<|aT<|dW 1 Z<|dW 0 Z<|aA Z<|eZ h λr3 w4 h=>aG (aL.callQ aaC (Jg U f g p m Q R z6 r3 w4) Z (nK [0,1,2,3,4,5] Z)) Z λx5=>aC (sK Z) Z<|aM ?_;refine A_ h Z (λ_ h=>?_) λ_ h=>?_
 ·refine aT<|aD Z<|aM<|aS<|aI ?_;cases h;exact uU Z
 refine cU<|aT<|dW 1 Z<|dW 0 Z<|zJ (A:=eY×Int×bA) (B:=Nat×Nat×Value×List Value×Value×List Value) (vs:=[Value.agg #[vS (d.1),f,g],Value.agg #[p,m]]) (λt=>yH U d o O t=some r) (λt b=>vP b.1) (λt b=>[bV b.1 [vS (d.1),f,g,vP b.2.1,b.2.2.1] 108,Ar cT.raw b.2.2.1 b.2.2.2.1,kF bZ b.2.2.2.1 t.1,bV b.2.1 [vS (d.1),f,g,p,m,vI (t.2.1),b.2.2.2.2.1] 137,Ar cT.raw b.2.2.2.2.1 b.2.2.2.2.2,kF cD b.2.2.2.2.2 t.2.2]) (λt b=>[Sl aK f d.2.1,Sl aH g d.2.2,PF (Value.agg #[vS d.1,f,g]),Sl bM p o.1,S2 a_ m Q o.2,S2 bM R z6 O]) (qG.fn (show aR Tryz.prog 43 from Tryz.call43) Z) Tryz.func43 Z Tryz.ntmps43 Z Z ?_ ?_
 ·refine aT<|aG (aL.box (cs:=[vS (d.1),f,g]) Z Z) Z λI=>aG (aL.box (cs:=[p,m]) Z Z) Z λJ=>aD Z<|aM<|aJ ?_;refine JR.start [0,0,0,6,0,0,62,127,255,511] 7 mixedOrders (by decide +kernel) ?_;refine JR.open (by exact rfl) ?_;refine kS 1 Z<|kS 1 Z<|kS 0 Z<|KQ (A:=Int×bA) (B:=Nat×Value×List Value) (vs:=[Value.agg #[vS (d.1),f,g],Value.agg #[p,m]]) (λu=>tK U d o O u=some r) (λu n=>vP n.1) (λu n=>[bV n.1 [vS (d.1),f,g,p,m,vI (u.1),n.2.1] 137,Ar cT.raw n.2.1 n.2.2,kF cD n.2.2 u.2,bV J [p,m] 29,bV I [vS (d.1),f,g] 60]) (λu n=>[Sl aK f d.2.1,Sl aH g d.2.2,PF (Value.agg #[vS d.1,f,g]),Sl bM p o.1,S2 a_ m Q o.2,S2 bM R z6 O]) Z Z Z (qG.fn (show aR Tryz.prog 66 from Tryz.call66) Z) Tryz.func66 Z Tryz.ntmps66 Z Z (λ_ _=>(rY [([4],[])] Z)) ?_ ?_
  ·refine aT<|aG (aL.box (cs:=[vS (d.1),f,g]) Z Z) Z λao=>aG (aL.box (cs:=[p,m]) Z Z) Z λF=>aD Z<|aM<|aJ ?_;refine JR.start [0,0,0,4,12,28,63,127,255] 6 mixedOrders (by decide +kernel) ?_;refine JR.open (by exact rfl) ?_;refine kS 1 Z<|kS 0 Z<|cR Z<|gY 0 Z<|bJ Z .nil (mE 4 Z) (iX Z (aE.fact 0 Z) Z) aO.z<|dO h λag h=>JR.stp (uF cD (Int.toNat (List.length o.2:Int)))<|JR.loud Z Z Z (pC (e:=cT.raw) (kE) Z Z Z Z ag Z Z Z) Z (λs=>(rY [([2],[]),([3],[])] Z)) λs=>bR 6 Z Z<|bX (Know.one (aE.sl (bT (i:=0) (j:=1) Z Z eG))) λX=>?_;refine aC (KW (r:=Value.agg #[vS (d.1),f,g,p,m,vI (0:Int),s]) Z Z Z (by intro w;simp[Instr.build,Instr.fill,dH,cW,cH,dJ,dK,cX,eI,eR X])) Z ?_;refine aG (aL.box (cs:=[vS (d.1),f,g,p,m,vI (0:Int),s]) Z Z) Z λv=>aD Z<|aM<|aJ<|Cr (B:=eW) (λy=>pP U d o O y=some r) (λy K=>[(5,vP v)]) (λy K=>[bV v [vS (d.1),f,g,p,m,vI (y.1),s] 137,Ar cT.raw s K,kF cD K y.2,bV J [p,m] 29,bV I [vS (d.1),f,g] 60]) ?_ ?_
   ·refine aT<|bU Z<|dL 3 Z<|aC (iX Z (aE.fact 4 Z) Z) Z<|aA Z<|aM<|aU<|fD (B:=eW) (jI U d o O) (λa G=>[(3,vP F),(5,vP v),(19,m),(20,vI (List.length o.2:Int)),(21,vI (a.1))]) (λa G=>[bV v [vS (d.1),f,g,p,m,vI (a.2.1),s] 137,Ar cT.raw s G,kF cD G a.2.2,bV F [p,m] 29,bV J [p,m] 29,bV I [vS (d.1),f,g] 60]) ((0:Int),(0:Int),(List.replicate (Int.toNat (List.length o.2:Int)) ([]:aP))) (List.replicate (Int.toNat (List.length o.2:Int)) (kE)) h SF (aY.ix [0,1,2,3,5,6] Z Z) ?_;intro ac a G h;refine aT<|dA Z<|aM<|aJ ?_;refine fE h Z (λh=>?_) λh=>?_
    ·refine cU<|aJ<|Cr (B:=eW) (λE=>tM o a (bL (jI U d o O) ac) E=some r) (λE L=>[(3,vP F),(5,vP v),(19,m),(20,vI (List.length o.2:Int)),(21,vI (a.1))]) (λE L=>[bV v [vS (d.1),f,g,p,m,vI (max a.2.1 (at' o.1 a.1)),s] 137,Ar cT.raw s L,kF cD L E,bV F [p,m] 29,bV J [p,m] 29,bV I [vS (d.1),f,g] 60]) ?_ ?_
     ·refine aU<|aT<|aA Z<|dO h λC h=>aC (c_ Z Z (aE.fact 4 Z) Z Z C) Z<|aC (dB Z (aE.fact 4 Z) Z Z C) Z<|aD Z<|aD Z<|aM<|aJ ?_;refine JR.start [0,0,2,6,14,0,32,0,224,480,1022,2047,4095,8191] 11 mixedOrders (by decide +kernel) ?_;refine JR.open (by exact rfl) ?_;refine bH Z<|bH Z<|iD Z (bS Z)<|cR Z<|gY 0 Z<|cR Z<|gY 3 Z<|bH Z<|dO h λaa h=>bJ Z .nil (mE 3 Z) (bE Z Z (aE.fact 0 Z) Z Z aa) aO.z<|bJ Z .nil (mE 3 Z) (b_ Z (aE.fact 0 Z) Z Z Z dU aa) aO.z<|iD Z (Ic Z Z)<|bR 11 Z Z<|aC (bS Z) Z<|bU Z<|fX 0 Z Z Z Z Z Z<|aM<|aT<|aA Z<|aC (iU Z (aE.el (aE.fact 4 Z) C.1 C.2) Z) Z<|aA Z<|aM<|aU<|fD (B:=eW) (mU U o a (bL (jI U d o O) ac)) (λq H=>[(3,vP F),(5,vP v),(6,vI (a.1)),(19,m),(20,vI (List.length o.2:Int)),(21,vI (a.1)),(39,(at' Q a.1).1),(40,vI (List.length (at' o.2 a.1):Int)),(41,vI (q.1))]) (λq H=>[bV v [vS (d.1),f,g,p,m,vI (max a.2.1 (at' o.1 a.1)),s] 137,Ar cT.raw s H,kF cD H q.2,bV F [p,m] 29,bV J [p,m] 29,bV I [vS (d.1),f,g] 60]) ((0:Int),a.2.2) (G) h SF (aY.refl _) ?_;intro aq q H h;refine aT<|dA Z<|aM<|aJ ?_;refine fE h Z (λh=>?_) λh=>?_
      ·refine cU<|aJ<|aU<|aT<|dO h λab h=>aC (bE Z Z (aE.el (aE.fact 4 Z) C.1 C.2) Z Z ab) Z<|aC (h_ (cs:=[vI ((at' (at' o.2 a.1) q.1).1),vI ((at' (at' o.2 a.1) q.1).2)]) Z (aE.el (aE.fact 4 Z) C.1 C.2) bQ Z Z Z Z ab) Z<|aG (aL.alloc (cs:=Tz) Z Z) Z λap=>bN 0 (vs:=[vI ((at' (at' o.2 a.1) q.1).1),vI ((at' (at' o.2 a.1) q.1).2)]) Z Z Z Z Z Z<|aM ?_;refine JR.start [0,1,3,7,0,0,32,96,224,0,992,2016,0,0,8192,0,61440,126976,262112,524287,1048575] 19 mixedOrders (by decide +kernel) ?_;refine JR.open (by exact rfl) ?_;refine bH Z<|iD Z (bS Z)<|cR Z<|gY 1 Z<|bH Z<|bH Z<|iD Z (bS Z)<|cR Z<|gY 1 Z<|bH Z<|dO h λP h=>dG (cZ 3 Z) λS=>?_;refine bJ Z (aY.cons 2 Z .nil) .nil (gM 0 Z Z Z Z Z P.1 (by have q1:=P.2;have q2:=S;(try simp only[List.length_set]at q1);(try simp only[List.length_set]at q2);(try simp only[List.length_set]);omega)) aO.z ?_;refine dG (cZ 3 Z) λT=>bJ Z (aY.cons 2 Z .nil) .nil (kP 0 Z Z T Z Z P) aO.z<|kS 4 Z<|cR Z<|gY 0 Z<|bH Z<|eZ h λM am h=>JR.loud Z Z Z (aL.callQ UJ (Dh U p m Q M am) Z (nK [3,4] Z)) Z (λan=>(rY [([2],[]),([2],[]),([1],[]),([1],[])] Z)) λan=>JR.loud Z Z Z (bW (e:=cD) ([M]) [(0,vI (M))] Z Z Z Z (lQ (vI (M)) Z) Z Z Z) Z (λaj=>(rY [([3],[]),([3],[]),([2],[]),([2],[])] Z)) λaj=>dO h λah h=>JR.loud Z Z Z (mP 4 eG Z Z Z (bG (aE.res 0 Z) eG) Z Z Z Z P ah Z) Z (λae=>(rY [([2],[])] Z)) λae=>bR 19 Z Z<|dO h λD h=>bX (cZ 4 Z) λV=>?_;refine aC (gM 3 Z Z Z Z Z D.1 (by have q1:=D.2;have q2:=V;(try simp only[List.length_set]at q1);(try simp only[List.length_set]at q2);(try simp only[List.length_set]);omega)) Z ?_;refine bX (xN 4 (k:=a.1) Z ⟨D.1,by first|exact D.2|simpa using D.2⟩) λY=>?_;refine nF 3 4 ⟨D.1,by first|exact D.2|simpa using D.2⟩ Z Z Z Z Z (by simp) Y Z ?_;refine eN<|oM<|aQ<|cQ Z<|aA Z<|aM ?_;exact lM ((wI .i64 (q.1+(1:Int))),(List.set q.2 (Int.toNat a.1) ((at' q.2 a.1)++[M]))) (List.set H (Int.toNat a.1) ae) h SF (aY.ix [2,3,4,5,6,7] Z Z) (aF.refl _ _)
      refine uV<|gK<|gK<|Av<|oM ?_;exact jL (q.2) (H) h SF Z
     intro E L h;unfold tM at h;refine aQ<|cQ Z<|aA Z<|aM ?_;exact AK ((wI .i64 (a.1+(1:Int))),(max a.2.1 (at' o.1 a.1)),E) (L) h SF Z
    refine fS ?_;exact cV (a.2.1,a.2.2) (G) h SF (aY.ix [0,1,2,4,5] Z Z) (aF.refl _ _)
   intro y K h;unfold pP at h;refine aT<|aA Z<|aD Z<|aM<|aS ?_;exact qJ (y.1,y.2) (v,s,K) h (.inl Z) (EP.r1 Z (RV.tmp Z)) Z (aY.refl _) (aF.refl _ _)
  intro u n h;unfold tK at h;refine bJ Z (aY.cons 4 Z .nil) .nil (fY 0 Z Z Z Z) (aO.h (aY.ix [1] Z Z) .nil aO.z)<|bJ Z (aY.cons 3 Z .nil) .nil (fY 0 Z Z Z Z) (aO.h (aY.ix [0] Z Z) .nil aO.z)<|eZ h λad al h=>JR.loud Z Z Z (aL.callQ Pf (Ai U f g p m Q ad al) Z (nK [0,1,2,3,4] Z)) Z (λN=>(rY [([6],[])] Z)) λN=>bR 7 Z Z<|bX (Know.one (aE.sl (bT (i:=0) (j:=1) Z Z bQ))) λW=>?_;refine aC (KW (r:=Value.agg #[vS (d.1),f,g,Value.pointer (some ⟨n.1,0,none⟩),N.1]) Z Z Z (by intro w;simp[Instr.build,Instr.fill,dH,cW,cH,dJ,dK,cX,eI,eR W])) Z ?_;refine aG (aL.box (cs:=[vS (d.1),f,g,vP n.1,N.1]) Z Z) Z λaf=>aD Z<|aM<|aS ?_;exact qJ (ad,u.1,u.2) (af,n.1,N.1,N.2,n.2.1,n.2.2) h (.inl Z) (EP.r1 Z (RV.tmp Z)) Z (aY.ix [0,1,2,3,4,5] Z Z) (aF.refl _ _)
 intro t b h;refine aA Z<|eZ h λai ak h=>aG (aL.callQ Pb (oW U b.1 f g b.2.1 f g p m Q b.2.2.2.2.1 (List.zip b.2.2.2.2.2 t.2.2) b.2.2.1 (List.zip b.2.2.2.1 t.1) R z6 ai ak) Z (aF.cons (aE.res 0 Z) (aF.cons (aE.fact 0 Z) (aF.cons (aE.fact 1 Z) (aF.cons (aE.res 3 Z) (aF.cons (aE.fact 0 Z) (aF.cons (aE.fact 1 Z) (aF.cons (aE.fact 3 Z) (aF.cons (aE.fact 4 Z) (aF.cons (bT (i:=4) (j:=5) Z Z eG) (aF.cons (bT (i:=1) (j:=2) Z Z bQ) (nK [5] Z)))))))))))) Z λar=>aD Z<|aM<|aS ?_;cases h;exact uU Z
end Go.Proofs.YtmdlcmbplnhdnaaGreatDoor
namespace Go.Proofs.YtmdlcmbplnhdnaaGreatDoor
open Go Go.Sx
theorem Tq {g:GR} (d:VG g) (p:sI) (c:bA):
  bL (jI 1000 p g c) 1000 ((0:Int),(0:Int),(List.replicate (Int.toNat (List.length g.2:Int)) ([]:aP)))=pP 1000 p g c (gW g g.2.length,eH g):=by
 have x:=d.n24;have q:=d.len;let f:Nat->aP:=λv=>(List.range (row g v).length).map (zM g v);let Q:Nat->bA:=λk=>(List.range k).map f++List.replicate (g.2.length - k) [];have n:∀k,k<=g.2.length->(Q k).length=g.2.length:=λk h=>by simp[Q];omega
 rw[show List.replicate (Int.toNat (List.length g.2:Int)) ([]:aP)=Q 0 by simp[Q]];refine eJ (step:=jI 1000 p g c) g.2.length (λk=>((k:Int),gW g k,Q k)) (λk b h=> ?_) (λb=> ?_) 1000 (by omega)
 ·have o:=(d.node k h).deg;have r:k<(Q k).length:=by rw[n k (by omega)];exact h
  unfold jI;dsimp only;rw[if_pos (by omega),cB (by omega),cB (by omega)];let a:Nat->aP:=λj=>(List.range j).map (zM g k);have w:Q k=(Q k).set k (a 0):=by
   have:at' (Q k) (k:Int)=a 0:=by
    rw[kT r];simp[Q,a]
   rw[<-this];exact(Ez (Q k) (k:Int) (by simpa using r) (by omega)).symm
  rw[show(Q k)=(Q k).set k (a 0)from w];have e:∀A:bA,A.length=g.2.length->bL (mU 1000 g ((k:Int),gW g k,(Q k).set k (a 0)) b) 1000 ((0:Int),A.set k (a 0))=b (((k+1:Nat):Int),gW g (k+1),A.set k (f k)):=by
   intro A B;refine eJ (step:=mU 1000 g ((k:Int),gW g k,(Q k).set k (a 0)) b) (K:=b (((k+1:Nat):Int),gW g (k+1),A.set k (f k))) (row g k).length (λj=>((j:Int),A.set k (a j))) (λj l z=> ?_) (λl=> ?_) 1000 (by omega)
   ·obtain⟨u,s,i⟩:=d.to h z;have y:=(d.node u s).deg;have t:at' (A.set k (a j)) (k:Int)=a j:=by rw[u_ _ _ _ _ (by omega),if_pos Z]
    have m:(a j).length=j:=by simp[a]
    unfold mU;dsimp only;rw[if_pos (show(j:Int)<((row g k).length:Int) by omega),cB (show 0<=(j:Int)∧(j:Int)<((row g k).length:Int) by omega),cB (by simp only[List.length_set];omega),show at' (at' g.2 (k:Int)) (j:Int)=fP (row g k) j from rfl,i,bD (show lY 1000 _ (u:Int) (k:Int)=_ from Ko g u (k:Int) s (by omega)),t,cB (by rw[m];simp;omega),cB (by simp only[List.length_set];omega),fK (by omega),Int.toNat_natCast,List.set_set];have:a j++[yF (row g u) (k:Int)]=a (j+1):=by
     simp only[a];rw[List.range_succ,List.map_append,List.map_singleton,zM,i,Int.toNat_natCast]
    rw[this]
   ·unfold mU tM;dsimp only;rw[if_neg (show¬((row g k).length:Int)<((row g k).length:Int)from Int.lt_irrefl _),fK (by omega)];rfl
  have:=e (Q k) (n k (by omega));rw[sP f [] g.2.length k h]at this;exact this
 ·unfold jI;dsimp only;rw[if_neg (by omega)];simp[Q,eH,f]
theorem Jc {p:sI} {g:GR} {R:List RL} (a:VG g) (d:tU g p.2.1) (i:p.2.2.map wS=Cq R) (f:vX p.2.1.length R=true) {c:bA} (b:Jw g c p.2.1):oP 1000 p g c=some ((Xm (bI p g) R c:Nat):Int):=by
 have e:=a.n24;unfold oP;have h:qT 1000 p g c=some true:=by
  unfold qT;rw[bD (show lZ 1000 _ _ c=_ from MX a d b)];rfl
 rw[bD (show qT 1000 _ _ c=_ from h),if_neg (by decide),cB (by omega),Tq a p c];unfold pP tK yH;rw[bD (show i_ 1000 _ _=_ from Jn a d)];dsimp only;rw[bD (show cS 1000 (p,(p,g,gW g g.2.length,eH g),AU g p.2.1) c=some ((Xm (bI p g) R c:Nat):Int)from Iw a b.shape i f (by simp[AU]))]
end Go.Proofs.YtmdlcmbplnhdnaaGreatDoor
namespace Go.Proofs.YtmdlcmbplnhdnaaGreatDoor
open Go.Sx
def sN (U:Nat) (a:ByteArray):Option ((ByteArray×Int×Int×Int×Int×Int)):=
 some ((a,(2:Int),(0:Int),(0:Int),(0:Int),(0:Int)))
theorem Pa:aR Tryz.prog 33:=Tryz.call33
theorem AT (U:Nat) {a:ByteArray} (r:Oa) (h:sN U a=some r):
  aV Tryz.prog 33 #[vS (a)] [] (λx:Unit=>Value.agg #[vS (r.1),vI (r.2.1),vI (r.2.2.1),vI (r.2.2.2.1),vI (r.2.2.2.2.1),vI (r.2.2.2.2.2)]) (λx l=>l) (λ_ l=>l):=by
 refine aV.of Tryz.func33 Z Tryz.ntmps33 Z λc=>?_;unfold sN at h;refine aT<|aG (aL.alloc (cs:=vD3) Z Z) Z λb=>aM<|aT<|aA Z ?_;refine aC (Br (r:=Value.agg #[vS (a),vI (2:Int),vI (0:Int),vI (0:Int),vI (0:Int),vI (0:Int)]) Z Z (by intro w;simp[Instr.build,Instr.fill,dH,cW,cH,dJ,dK,cX,eI])) Z ?_;refine bN 0 (vs:=[vS (a),vI (2:Int),vI (0:Int),vI (0:Int),vI (0:Int),vI (0:Int)]) Z Z Z Z Z Z<|aM<|aS ?_;cases h;exact gJ () Z Z (RV.cell 0 Z Z Z Z) .nil aF.nil
def Fj (U:Nat)  : Option WN:=
 Option.bind (Fi U) λc=>(Option.bind (sN U (ByteArray.mk #[115])) λa=>(Option.bind (sN U (ByteArray.mk #[98])) λb=>(ck ((List.length c:Int)+(List.length ([(a.1,a.2.1,a.2.2.1,a.2.2.2.1,a.2.2.2.2.1,a.2.2.2.2.2),(b.1,b.2.1,b.2.2.1,b.2.2.2.1,b.2.2.2.2.1,b.2.2.2.2.2)]):Int)<=1099511627) (some (c++([(a.1,a.2.1,a.2.2.1,a.2.2.2.1,a.2.2.2.2.1,a.2.2.2.2.2),(b.1,b.2.1,b.2.2.1,b.2.2.2.1,b.2.2.2.2.1,b.2.2.2.2.2)]))))))
theorem aay:aR Tryz.prog 31:=Tryz.call31
theorem LW (U:Nat)  (r:WO) (h:Fj U  = some r):
  aV Tryz.prog 31 #[] [] (λx:Value=>x) (λx l=>Ar gN x r::l) (λ_ l=>l):=by
 refine aV.of Tryz.func31 Z Tryz.ntmps31 Z λc=>?_;refine aT<|aD Z<|aM<|aT<|eZ h λg j h=>aG (aL.callQ aaF (LV U  g j) Z .nil) Z λn=>eZ h λa k h=>aG (aL.callQ Pa (AT U  a k) Z .nil) Z λo=>eZ h λb m h=>aG (aL.callQ Pa (AT U  b m) Z .nil) Z λp=>aG (bW (e:=gN) ([((a.1,a.2.1,a.2.2.1,a.2.2.2.1,a.2.2.2.2.1,a.2.2.2.2.2)),((b.1,b.2.1,b.2.2.1,b.2.2.2.1,b.2.2.2.2.1,b.2.2.2.2.2))]) [(0,Value.agg #[vS (a.1),vI (a.2.1),vI (a.2.2.1),vI (a.2.2.2.1),vI (a.2.2.2.2.1),vI (a.2.2.2.2.2)]),(1,Value.agg #[vS (b.1),vI (b.2.1),vI (b.2.2.1),vI (b.2.2.2.1),vI (b.2.2.2.2.1),vI (b.2.2.2.2.2)])] Z Z Z Z (IC (vS (a.1)) (vI (a.2.1)) (vI (a.2.2.1)) (vI (a.2.2.2.1)) (vI (a.2.2.2.2.1)) (vI (a.2.2.2.2.2)) (vS (b.1)) (vI (b.2.1)) (vI (b.2.2.1)) (vI (b.2.2.2.1)) (vI (b.2.2.2.2.1)) (vI (b.2.2.2.2.2))) Z Z Z) Z λi=>dO h λd h=>aG (eL 1 gO Z Z Z (bG (aE.res 0 Z) gO) Z Z Z Z d Z) Z λf=>aD Z<|aM<|aS ?_;cases h;exact gJ (f) Z Z (RV.tmp Z) (aY.ix [1] Z Z) aF.nil
def BK (U:Nat)  : Option WN:=
 Option.bind (Fj U) λc=>(Option.bind (vQ U (ByteArray.mk #[121]) (3:Int) (0:Int) (0:Int)) λa=>(Option.bind (sN U (ByteArray.mk #[114])) λb=>(ck ((List.length c:Int)+(List.length ([(a.1,a.2.1,a.2.2.1,a.2.2.2.1,a.2.2.2.2.1,a.2.2.2.2.2),(b.1,b.2.1,b.2.2.1,b.2.2.2.1,b.2.2.2.2.1,b.2.2.2.2.2)]):Int)<=1099511627) (some (c++([(a.1,a.2.1,a.2.2.1,a.2.2.2.1,a.2.2.2.2.1,a.2.2.2.2.2),(b.1,b.2.1,b.2.2.1,b.2.2.2.1,b.2.2.2.2.1,b.2.2.2.2.2)]))))))
theorem aas:aR Tryz.prog 12:=Tryz.call12
theorem LX (U:Nat)  (r:WO) (h:BK U  = some r):
  aV Tryz.prog 12 #[] [] (λx:Value=>x) (λx l=>Ar gN x r::l) (λ_ l=>l):=by
 refine aV.of Tryz.func12 Z Tryz.ntmps12 Z λc=>?_;refine aT<|aD Z<|aM<|aT<|eZ h λg j h=>aG (aL.callQ aay (LW U  g j) Z .nil) Z λn=>eZ h λa k h=>aG (aL.callQ UC (Dj U  a k) Z .nil) Z λo=>eZ h λb m h=>aG (aL.callQ Pa (AT U  b m) Z .nil) Z λp=>aG (bW (e:=gN) ([((a.1,a.2.1,a.2.2.1,a.2.2.2.1,a.2.2.2.2.1,a.2.2.2.2.2)),((b.1,b.2.1,b.2.2.1,b.2.2.2.1,b.2.2.2.2.1,b.2.2.2.2.2))]) [(0,Value.agg #[vS (a.1),vI (a.2.1),vI (a.2.2.1),vI (a.2.2.2.1),vI (a.2.2.2.2.1),vI (a.2.2.2.2.2)]),(1,Value.agg #[vS (b.1),vI (b.2.1),vI (b.2.2.1),vI (b.2.2.2.1),vI (b.2.2.2.2.1),vI (b.2.2.2.2.2)])] Z Z Z Z (IC (vS (a.1)) (vI (a.2.1)) (vI (a.2.2.1)) (vI (a.2.2.2.1)) (vI (a.2.2.2.2.1)) (vI (a.2.2.2.2.2)) (vS (b.1)) (vI (b.2.1)) (vI (b.2.2.1)) (vI (b.2.2.2.1)) (vI (b.2.2.2.2.1)) (vI (b.2.2.2.2.2))) Z Z Z) Z λi=>dO h λd h=>aG (eL 1 gO Z Z Z (bG (aE.res 0 Z) gO) Z Z Z Z d Z) Z λf=>aD Z<|aM<|aS ?_;cases h;exact gJ (f) Z Z (RV.tmp Z) (aY.ix [1] Z Z) aF.nil
end Go.Proofs.YtmdlcmbplnhdnaaGreatDoor
namespace Go.Proofs.YtmdlcmbplnhdnaaGreatDoor
open Go Go.Sx
theorem acf:BK 1000=some uC:=by kernel_rfl
abbrev pZ (z:List sJ):sI:=(ByteArray.mk #[114,101,115,101,116],uC,z)
section
variable {g:GR} {d:List Int} {E:Nat} {par fp:Nat->Nat} (N:XC g d E par fp)
 include N
theorem adE {z:List sJ} (b:z.map wS=Cq RS) {c:List (List Int)} (a:Jw g c uC):∃e:Int,oP 1000 (pZ z) g c=some e∧(e=0↔Qg g d c):=by
 have h:=Jc (p:=pZ z) N.v (Xg N.v) b NL a;rw[Yy]at h;refine⟨_,h,?_⟩
 rw[<-SN N a];exact Int.natCast_eq_zero
theorem ahc {kind:Int} (h:1<=kind) (e:kind<=4) {l:List (List Int)} {ws:List Int} (i:ws.length<=900) (B:∀k:Nat,k<ws.length->∃m:Nat,at' ws (k:Int)=(m:Int)∧m<4294967296) (p:Jw g l uC):
  ∃k b a,uO 1000 AR g kind l ws=some (b,a,true)∧b.length=k+1∧k<=ws.length∧∀j,j<=k->Jw g (at' b (j:Int)) uC:=by
 obtain⟨k,b,a,r,s,_,u,w,_,_⟩:=Wx (NE 1000) adF N.v (Xg N.v) NL h e p i B (λk c f=>Jw g c uC) p
  (λk c f t n x C y z A q e o=>Tt (S:=bI pS g) (Xg N.v) y)
 exact⟨k,b,a,r,s,u,w⟩
theorem agV {c:List (List Int)} (a:Jw g c uC):∃b,lF 1000 g c=some b∧(b=true↔Qg g d c):=Zh N.v N.c N.dist a
end
end Go.Proofs.YtmdlcmbplnhdnaaGreatDoor
namespace Go.Proofs.YtmdlcmbplnhdnaaGreatDoor
open Go.Sx
def rM (U:Nat)  : Option (ByteArray):=
 some (ByteArray.mk #[112,114,111,103,114,97,109,32,114,101,115,101,116,59,10,118,97,114,32,100,32,58,32,48,32,46,46,32,110,59,10,118,97,114,32,112,32,58,32,112,111,114,116,59,10,118,97,114,32,115,32,58,32,98,111,111,108,59,10,118,97,114,32,98,32,58,32,98,111,111,108,59,10,118,97,114,32,121,32,58,32,48,32,46,46,32,51,59,10,118,97,114,32,114,32,58,32,98,111,111,108,59,10,114,117,108,101,32,116,111,112,58,32,114,111,111,116,32,38,38,32,40,100,32,33,61,32,48,32,124,124,32,112,32,33,61,32,110,111,110,101,41,32,45,62,32,100,32,58,61,32,48,44,32,112,32,58,61,32,110,111,110,101,59,10,114,117,108,101,32,108,111,119,58,32,33,114,111,111,116,32,38,38,32,40,100,32,33,61,32,40,109,105,110,40,113,46,100,41,32,60,32,110,32,63,32,109,105,110,40,113,46,100,41,32,43,32,49,32,58,32,110,41,32,124,124,32,112,32,33,61,32,102,105,114,115,116,40,113,46,100,32,61,61,32,109,105,110,40,113,46,100,41,41,41,10,32,32,45,62,32,100,32,58,61,32,40,109,105,110,40,113,46,100,41,32,60,32,110,32,63,32,109,105,110,40,113,46,100,41,32,43,32,49,32,58,32,110,41,44,32,112,32,58,61,32,102,105,114,115,116,40,113,46,100,32,61,61,32,109,105,110,40,113,46,100,41,41,59,10,114,117,108,101,32,98,101,103,105,110,58,32,114,111,111,116,32,38,38,32,33,115,32,38,38,32,114,32,45,62,32,115,32,58,61,32,116,114,117,101,44,32,98,32,58,61,32,33,98,44,32,121,32,58,61,32,48,44,32,114,32,58,61,32,102,97,108,115,101,59,10,114,117,108,101,32,116,97,107,101,58,32,33,114,111,111,116,32,38,38,32,115,111,109,101,40,113,32,61,61,32,112,32,38,38,32,40,113,46,98,32,33,61,32,98,32,124,124,32,115,32,38,38,32,33,113,46,115,41,41,32,45,62,32,115,32,58,61,32,115,111,109,101,40,113,32,61,61,32,112,32,38,38,32,113,46,115,41,44,32,98,32,58,61,32,115,111,109,101,40,113,32,61,61,32,112,32,38,38,32,113,46,98,41,44,32,121,32,58,61,32,48,44,32,114,32,58,61,32,102,97,108,115,101,59,10,114,117,108,101,32,102,105,110,105,115,104,58,32,115,32,38,38,32,97,108,108,40,113,46,112,32,33,61,32,113,46,98,97,99,107,32,124,124,32,33,113,46,115,32,38,38,32,113,46,98,32,61,61,32,98,41,32,45,62,32,115,32,58,61,32,102,97,108,115,101,59,10,114,117,108,101,32,97,115,107,58,32,33,115,32,38,38,32,33,114,32,38,38,32,115,111,109,101,40,113,46,112,32,61,61,32,113,46,98,97,99,107,32,38,38,32,113,46,114,32,38,38,32,33,113,46,115,41,32,45,62,32,114,32,58,61,32,116,114,117,101,59,10])
theorem Uy:aR Tryz.prog 10:=Tryz.call10
theorem FI (U:Nat)  (r:ByteArray) (h:rM U  = some r):
  aV Tryz.prog 10 #[] [] (λx:Unit=>vS (r)) (λx l=>l) (λ_ l=>l):=by
 refine aV.of Tryz.func10 Z Tryz.ntmps10 Z λc=>?_;unfold rM at h;refine aT<|aD Z<|aM<|aT<|aD Z<|aM<|aS ?_;cases h;exact kW Z
end Go.Proofs.YtmdlcmbplnhdnaaGreatDoor
namespace Go.Proofs.YtmdlcmbplnhdnaaGreatDoor
open Go Go.Sx Go.Gx
set_option maxRecDepth 100000
def AP (a:Nat):Option (Bool):=some (true)
theorem UA:aR Tryz.prog 18:=Tryz.call18
theorem UQ:okT (Ik Gs gp2 4000 18 [] H0)=true:=by kernel_rfl
theorem JG (a:Nat) (r:Bool) (h:AP a=some r):
  aV Tryz.prog 18 #[] [Gb 0 (cellsOf EI sU)] (λx:Unit=>Value.bool (r)) (λx l=>l) (λ_ l=>l):=by
 obtain rfl:=Option.some.inj h;obtain⟨d,c⟩:=Wi UQ;rw[EY Fw]at c;exact LB Vu UA (λf e h=>h.bool_inv) λT b=>EX (gs:=gl T) agQ c (eT.start b Z) .nil
end Go.Proofs.YtmdlcmbplnhdnaaGreatDoor
namespace Go.Proofs.YtmdlcmbplnhdnaaGreatDoor
open Go.Sx
noncomputable def nU  (a:Bool):Option (Bool):=
 some (a)
noncomputable def sE (U:Nat) (a:WM) (c:Unit):Option (Bool):=
 Option.bind (AP U) λb=>(if b=true then(nU  (a.2.2))else(nU  (false)))
noncomputable def kY (U:Nat) (e:(aP×eY)) (d:ByteArray×List (ByteArray×Int×Int×Int×Int×Int)×List (eS×List (Int×eS))) (h:List sJ) (b:WM) (a:Int) (c:(Int)->Option (Bool)):Option (Bool):=
 if a<(List.length b.1:Int)then(ck (0<=a∧a<(List.length b.1:Int)) (Option.bind (oP U ((d.1,d.2.1,h)) ((e.1,e.2)) (at' b.1 a)) λf=>(ck (0<=a∧a<(List.length b.1:Int)) (Option.bind (lF U ((e.1,e.2)) (at' b.1 a)) λg=>(if((decide (f=(0:Int))) != g)=true then(some (false))else(c (wI .i64 (a+(1:Int)))))))))else(sE U b (()))
noncomputable def tX (U:Nat) (b:Cu) (k:aP) (l:aP):Option (Bool):=
 Option.bind (fT U ((b.1,b.2.1,b.2.2.1,b.2.2.2.1,b.2.2.2.2.1,b.2.2.2.2.2)) (6:Int)) λa=>(Option.bind (rM U) λm=>(Option.bind (kV U m) λc=>Ss c.2.2 λj=>(Option.bind (rM U) λd=>(Option.bind (sO U ((a.1,a.2))) λe=>(Option.bind (BK U) λf=>(Option.bind (mA U ((a.1,a.2)) f k) λg=>(Option.bind (oQ U l (60:Int)) λh=>(Option.bind (uO U d ((a.1,a.2)) e.1 g h) λi=>(bL (kY U a c j i) U (0:Int))))))))))
theorem EC (U:Nat) {p0:Cu} {p1:aP} {p2:aP} (y:Value)  (A:Value)  (C:Value)  (E:Value)  (F:Value) (r:Bool) (h:tX U p0 p1 p2=some r):
  aV Tryz.prog 6 #[Value.agg #[vI (p0.1),y,A,C,vB (p0.2.2.2.2.1),vB (p0.2.2.2.2.2)],E,F] [Sl bM y p0.2.1,Sl bM A p0.2.2.1,Sl bM C p0.2.2.2.1,Sl bM E p1,Sl wF F p2,Gb 0 (cellsOf EI sU)] (λx:Unit=>vB (r)) (λx l=>l) (λ_ l=>l):=by
 refine aV.of Tryz.func6 Z Tryz.ntmps6 Z λc=>?_;refine aT<|aG (aL.box (cs:=[vI (p0.1),y,A,C,vB (p0.2.2.2.2.1),vB (p0.2.2.2.2.2)]) Z Z) Z λb1=>aD Z<|aM<|aT<|dW 0 Z<|eZ h λt w3 h=>aG (aL.callQ ady (Bi U y A C t w3) Z (nK [0,1,2] Z)) Z λe=>aG (aL.alloc (cs:=[kE,kE]) Z Z) Z λb5=>bX (Know.one ((bG (aE.res 1 Z) eG))) λR=>bX (Know.one (aE.sl (bT (i:=2) (j:=3) Z Z bQ))) λS=>bN 0 (vs:=[e.1,e.2.1]) Z Z (jK R (jK S Z)) Z Z Z<|aM<|aT<|eZ h λr8 w9 h=>aG (aL.callQ Uy (FI U  r8 w9) Z .nil) Z λav=>eZ h λf ae h=>aG (aL.call O_ (Ch U f ae) Z (mE 5 Z) (λ_ _=>rfl) (λ_ _=>rfl)) Z fun⟨a,b,s,N⟩=>?_;have h:=JU h s N;refine aG (aL.alloc (cs:=[vS (ByteArray.mk #[]),kE,kE]) Z Z) Z λG=>bX (Know.one ((aE.fact 0 Z))) λL=>bX (Know.one ((aE.fact 1 Z))) λM=>bN 0 (vs:=[vS (f.1),a,b]) Z Z (jK Z (jK L (jK M Z))) Z Z Z<|aM<|aJ ?_;refine JR.start [0,0,0,5,13,0,13,0,237,0,1005,2047,4095,8191,8191,8191,16383,98303,262143] 18 mixedOrders (by decide +kernel) ?_;refine JR.open (by exact rfl)<|eZ h λW af h=>JR.loud Z Z Z (aL.callQ Uy (FI U  W af) Z .nil) Z (λao=>zI.z) λao=>bJ Z (aY.cons 1 Z .nil) .nil (fY 0 Z Z Z Z) (aO.h (aY.ix [1] Z Z) .nil aO.z)<|bJ Z (aY.cons 1 Z .nil) .nil (fY 0 Z Z Z Z) (aO.h (aY.ix [1] Z Z) .nil aO.z)<|eZ h λX ag h=>JR.loud Z Z Z (aL.callQ aau (JH U e.1 e.2.1 (List.zip e.2.2 t.2) X ag) Z (aF.cons (bG (aE.res 2 Z) eG) (aF.cons (bT (i:=3) (j:=4) Z Z bQ) .nil))) Z (λap=>(rY [([1],[])] Z)) λap=>iD Z (Un Z Z Z Z Z Z)<|bJ Z (aY.cons 1 Z .nil) .nil (fY 0 Z Z Z Z) (aO.h (aY.ix [1] Z Z) .nil (aO.h (aY.ix [1] Z Z) .nil aO.z))<|eZ h λY ah h=>JR.loud Z Z Z (aL.callQ aas (LX U  Y ah) Z .nil) Z (λP=>(rY [([2],[]),([2],[])] Z)) λP=>iD Z (iY Z)<|eZ h λO ai h=>JR.loud Z Z Z (aL.callQ aar (Jk U e.1 e.2.1 (List.zip e.2.2 t.2) P E O ai) Z (aF.cons (bG (aE.res 3 Z) eG) (aF.cons (bT (i:=4) (j:=5) Z Z bQ) (aF.cons (bG (aE.res 0 Z) gO) (nK [6] Z))))) Z (λD=>(rY [([4],[])] Z)) λD=>iD Z (iY Z)<|eZ h λaa aj h=>JR.loud Z Z Z (aL.callQ aat (Jl U F aa aj) Z (nK [7] Z)) Z (λQ=>(rY [([5],[])] Z)) λQ=>eZ h λk ak h=>JR.loud Z Z Z (aL.callQ adz (NZ U e.1 e.2.1 (List.zip e.2.2 t.2) D.1 (List.zip D.2 O) Q k ak) Z (aF.cons (bG (aE.res 6 Z) eG) (aF.cons (bT (i:=7) (j:=8) Z Z bQ) (aF.cons (bT (i:=1) (j:=2) Z Z eG) (aF.cons (bG (aE.res 0 Z) tT) (nK [8] Z)))))) Z (λg=>(rY [] Z)) λg=>iD Z (iY Z)<|iD Z (oB Z Z)<|iD Z (oB Z Z)<|iD Z (oB Z Z)<|iD Z (mY Z)<|iD Z (mY Z)<|bR 18 Z Z<|aD Z<|aM<|aJ<|zK (B:=Unit) (λn=>sE U k n=some r) (λn u=>[(11,vB (k.2.2))]) (λn u=>[]) (λn u=>[Sl aK a f.2.1,Sl aH b s,PF (Value.agg #[vS f.1,a,b]),Sl bM y p0.2.1,Sl bM A p0.2.2.1,Sl bM C p0.2.2.2.1,Sl bM E p1,Sl wF F p2,Gb 0 (cellsOf EI sU)]) ?_ ?_
 ·refine aT<|aD Z<|aM<|aU<|Dq (B:=Unit) (kY U t f s k) (λd w=>[(7,vP b5),(8,vP G),(9,g.1),(11,vB (k.2.2)),(12,vI (d))]) (λd w=>[Ar cT.raw g.1 g.2.1,JP cD g.2.1 g.2.2.1 k.1,bV G [vS (f.1),a,b] 60,bV b5 [e.1,e.2.1] 29,Ar cD e.1 t.1,Ar cT.raw e.2.1 e.2.2,kF bZ e.2.2 t.2]) (λd w=>[Sl aK a f.2.1,Sl aH b s,PF (Value.agg #[vS f.1,a,b]),Sl bM y p0.2.1,Sl bM A p0.2.2.1,Sl bM C p0.2.2.2.1,Sl bM E p1,Sl wF F p2,Gb 0 (cellsOf EI sU)]) (0:Int) () h SF (aY.ix [0,1,7,8,9,10,11] Z Z) (aF.refl _ _) ?_;intro au d w h;refine aJ<|aT<|aA Z<|aA Z<|aC (Ia 0 1 Z Z Z Z) Z<|dA Z<|aM ?_;refine fE h Z (λh=>?_) λh=>?_
  ·refine cU<|aJ<|aU<|aJ ?_;refine JR.start [0,0,0,0,12,28,63,127,0,0,0,1536,3584,8063,16383] 14 mixedOrders (by decide +kernel) ?_;refine JR.open (by exact rfl) ?_;refine kS 2 Z<|kS 3 Z<|bH Z<|bH Z<|dO h λp h=>dG (uY 1 Z) λH=>?_;refine bJ Z (aY.cons 0 Z .nil) .nil (gM 0 Z Z Z Z Z p.1 (by have T:=p.2;have V:=H;(try simp only[List.length_set]at T);(try simp only[List.length_set]at V);(try simp only[List.length_set]);omega)) aO.z ?_;refine dG (uY 1 Z) λI=>bJ Z (aY.cons 0 Z .nil) .nil (kP 0 Z Z I Z Z p) aO.z<|eZ h λac am h=>JR.loud Z Z Z (aL.callQ aav (Jj U a b e.1 e.2.1 (List.zip e.2.2 t.2) (at' g.2.1 d) (List.zip (at' g.2.2.1 d) (at' k.1 d)) ac am) Z (aF.cons (aE.fact 0 Z) (aF.cons (aE.fact 1 Z) (aF.cons (aE.fact 2 Z) (aF.cons (bG (aE.res 4 Z) eG) (aF.cons (bT (i:=5) (j:=6) Z Z bQ) (aF.cons (Ml (j:=1) Z eG p.1 p.2) .nil))))))) Z (λaq=>(rY [] Z)) λaq=>iD Z (Qn Z Z)<|bJ Z (aY.cons 3 Z .nil) .nil (fY 0 Z Z Z Z) (aO.h (aY.ix [3] Z Z) .nil aO.z)<|iD Z (iY Z)<|iD Z (iY Z)<|dO h λq h=>dG (uY 1 Z) λJ=>?_;refine bJ Z (aY.cons 0 Z .nil) .nil (gM 0 Z Z Z Z Z q.1 (by have T:=q.2;have V:=J;(try simp only[List.length_set]at T);(try simp only[List.length_set]at V);(try simp only[List.length_set]);omega)) (aO.h (aY.ix [0] Z Z) .nil aO.z) ?_;refine dG (uY 1 Z) λK=>bJ Z (aY.cons 0 Z .nil) .nil (kP 0 Z Z K Z Z q) (aO.h (aY.ix [0] Z Z) .nil aO.z)<|eZ h λad an h=>JR.loud Z Z Z (aL.callQ Uz (Ee U e.1 e.2.1 (List.zip e.2.2 t.2) (at' g.2.1 d) (List.zip (at' g.2.2.1 d) (at' k.1 d)) ad an) Z (aF.cons (bG (aE.res 4 Z) eG) (aF.cons (bT (i:=5) (j:=6) Z Z bQ) (aF.cons (Ml (j:=1) Z eG q.1 q.2) .nil)))) Z (λar=>(rY [] Z)) λar=>bR 14 Z Z<|aC (Up Z Z Z) Z<|aM ?_;refine A_ h Z (λ_ h=>?_) λ_ h=>?_
   ·refine aT<|aD Z<|aM<|aS<|bO<|aI<|aI<|bO<|aI ?_;cases h;exact uU Z
   refine dX<|oM<|aQ<|aA Z<|cQ Z<|aD Z<|aM ?_;exact AK (wI .i64 (d+(1:Int))) () h SF Z
  refine fS ?_;exact cV () (()) h SF .nil (aF.refl _ _)
 intro n u h;refine aJ<|zK (B:=Unit) (λm=>nU  m=some r) (λm v=>[(6,vB (m))]) (λm v=>[]) (λm v=>[Sl aK a f.2.1,Sl aH b s,PF (Value.agg #[vS f.1,a,b]),Sl bM y p0.2.1,Sl bM A p0.2.2.1,Sl bM C p0.2.2.2.1,Sl bM E p1,Sl wF F p2,Gb 0 (cellsOf EI sU)]) ?_ ?_
 ·refine aQ<|eZ h λab al h=>aG (aL.callQ UA (JG U  ab al) Z (nK [8] Z)) Z λaw=>aA Z ?_;refine Bm (by exact rfl) (by exact rfl) (λo=>?_) (λo=>?_)
  ·have h:=Ra o h;refine e_ Z<|fF Z<|aD Z<|aM ?_;exact jL (k.2.2) () h SF Z
  have h:=Ni o h;refine aN Z<|iP Z<|aD Z<|aM ?_;exact jL (false) () h SF Z
 intro m v h;unfold nU at h;refine aS ?_;cases h;exact kW Z
end Go.Proofs.YtmdlcmbplnhdnaaGreatDoor
namespace Go.Proofs.YtmdlcmbplnhdnaaGreatDoor
open Go Go.Sx
theorem PQ (x:OI) (c a:aP):tX 1000 x c a=some true:=by
 obtain⟨g,d,E,J,L,H,Q,N⟩:=agZ x 6 (by omega) (by omega);have B:=N.v.n24;obtain⟨w,F,p⟩:=SI N.v uC c (by decide) aey;obtain⟨u,s,I,r⟩:=TD a (n:=60) (by omega);obtain⟨k,o,y,m,P,O,C⟩:=ahc N (kind:=3) (by decide) (by decide) (ws:=u) (by omega) r p;unfold tX;rw[show fT 1000 (x.1,x.2.1,x.2.2.1,x.2.2.2.1,x.2.2.2.2.1,x.2.2.2.2.2) 6=some g from H,bD Z,bD (show rM 1000=some AR from rfl),bD (NE 1000)];refine Qs λz t=> ?_;have t:z.map wS=Cq RS:=t;rw[bD (show rM 1000=some AR from rfl),bD (show sO 1000 (g.1,g.2)=_ from Zg N),bD acf,bD (show mA 1000 (g.1,g.2) uC c=some w from F),bD (show oQ 1000 a 60=_ from s)];refine(bD (show uO 1000 AR g 3 w u=_ from m)).trans ?_;refine eJ (step:=kY 1000 (g.1,g.2) _ z _) (K:=some true) (k+1) (λj=>(j:Int)) (λj A M=> ?_) (λA=> ?_) 1000 (by omega)
 ·have i:=C j (by omega);obtain⟨e,G,l⟩:=adE N t i;obtain⟨b,D,f⟩:=agV N i;unfold kY;dsimp only;rw[if_pos (by omega),cB (by omega)];refine(bD (show oP 1000 (pZ z) g (at' o (j:Int))=_ from G)).trans ?_;rw[cB (by omega),bD (show lF 1000 (g.1,g.2) (at' o (j:Int))=_ from D)];have:decide (e=0)=b:=by
   by_cases h:Qg g d (at' o (j:Int))
   ·rw[decide_eq_true (l.2 h),f.2 h]
   ·cases b with
    |true=>exact absurd (f.1 Z) h
    |false=>exact decide_eq_false λq=>h (l.1 q)
  rw[this,if_neg (by cases b<;>decide),fK (by omega)]
 ·unfold kY;dsimp only;rw[if_neg (by omega)];unfold sE;rw[bD (show AP 1000=some true from rfl),if_pos Z];rfl
end Go.Proofs.YtmdlcmbplnhdnaaGreatDoor
namespace Go.Sx
open Go.RowKit Go.ChangeShapes Go.WideShapes Go.ChangeAt Go.Proofs Go.Joins Go.Deep
section
variable {H:Type} {enc:TypeId×Value->H} {P:Program} {w:World} {base:Nat} {spare:Nat->Bool} {held:Bool}
theorem Jy {a:Type} (l:List a) (d:a):l=(List.range l.length).map λi=>l.getD i d:=by
 apply List.ext_getElem?;intro i;by_cases h:i<l.length
 ·simp[h]
 ·simp[h]
theorem Wk {r:Reach} {x:Nat} {t:TypeId} {b:Array Field} {v:Value} {d:DataW H} {p:List MemPlace} (s:P.underlying t=some (.struct b)) (c:oneCellFields P b=true) (z:P.cellsOf t=b.size)
  (E:Value.okWide P w r x t v) (h:DataW.Trod enc P w base spare held t v d p):
  ∃(V:Nat->Value) (Y:Nat->DataW H×List MemPlace) (n:Nat),v = .agg ((List.range b.size).map V).toArray∧∀(i:Nat) (f:Field),b[i]? = some f->DataW.trod enc P w base spare held n f.type [V i]=some (Y i):=by
 obtain⟨a,rfl,l⟩:=okWide_struct s E;obtain⟨m,A⟩:=h;obtain⟨u,n,_,_,_,q,B⟩:=DataW.trod_struct s A;refine⟨λi=>a.toList.getD i undef,λi=>u.getD i (.nil,[]),n,?_,λi f j=> ?_⟩
 ·congr 1;apply Array.toList_inj.1;show a.toList=(List.range b.size).map λi=>a.toList.getD i undef;have y:b.size=a.toList.length:=by rw[<-z,<-l];rfl
  rw[y];exact Jy a.toList undef
 ·have D:i<b.size:=(Array.getElem?_eq_some_iff.1 j).1;obtain⟨o,k⟩:=hone_of c i f j;have g:=B i f j;have e:(Value.cells (.agg a)).toList=a.toList:=rfl;have C:i<a.toList.length:=by rw[Array.length_toList];omega
  rw[o,k,e,take1_drop _ _ undef C]at g;rw[g];have F:i<u.length:=by omega
  simp[F]
theorem VQ {k:IntKind} {e:TypeId} (a:P.underlying e=some (.int k)) {n:Nat} {v:Value} {x:DataW H×List MemPlace} (h:DataW.trod enc P w base spare held n e [v]=some x):∃y:Int,v = .int k y:=by
 obtain⟨y,b,_,_⟩:=DataW.trod_int a h;exact⟨y,by simpa using b⟩
theorem Ki {e:TypeId} (a:P.underlying e=some .bool) {n:Nat} {v:Value} {x:DataW H×List MemPlace} (h:DataW.trod enc P w base spare held n e [v]=some x):∃y:Bool,v = .bool y:=by
 obtain⟨y,b,_⟩:=DataW.trod_bool a h;exact⟨y,by simpa using b⟩
end
end Go.Sx
section
set_option maxRecDepth 100000
namespace Go.Sx
open Go.RowKit Go.ChangeShapes Go.WideShapes Go.ChangeAt Go.Proofs Go.Joins
theorem Pt {P:Program} {W:World} {n:String} {b m t B:Nat} {k:IntKind} {a:aP} (h:laidMet P [(n,.agg (a.map λx=> .lit (.int k x)))] W) (I:P.globalNamed n=some b)
  (ht:(P.globals[b]?).map (·.type)=some t) (hu:P.underlying t=some (.array m B)) (w:P.underlying B=some (.int k)) (S:P.cellsOf B=1) (u:P.cellsOf t=m) (hm:0<m):(Gb b (cellsOf (cT.int k) a)).p W (λ_=>True):=by
 obtain⟨ps,⟨g,t2,j,F,p,q,C,D,E,M,e5,N⟩,aa,d⟩:=h;rw[I]at C;cases C;rw[ht]at D;cases D;refine⟨trivial,?_⟩
 obtain⟨L,ml,_,l,Y,y,V⟩:=DataW.trod_array hu M;simp only[Prod.mk.injEq,DataW.agg.injEq]at l;have e:a.length=m:=by rw[<-y];simpa using congrArg List.length l.1
 have U:j.size=m:=by rw[<-u,<-Y];simp
 have v:j.toList=cellsOf (cT.int k) a:=by
  refine List.ext_getElem? λi=> ?_;by_cases X:i<m
  ·have o:=V i X;rw[S,Nat.mul_one]at o;have J:a[i]? = some (a[i]'(by omega)):=List.getElem?_eq_getElem _;have G:=uH (cT.int k) a i _ J 0 _ Z;rw[show i*(cT.int k).sz+0=i from Nat.mul_one i]at G;rw[G];have K:L[i]? = some (L[i]'(by omega)):=List.getElem?_eq_getElem _;rw[K]at o;obtain⟨z,hz,A,_⟩:=DataW.trod_int w o;have s:j.toList[i]? = some (.int k z):=by
    have:=congrArg (·[0]?) hz;simpa [List.getElem?_take,List.getElem?_drop]using this
   rw[s];have r:=congrArg (·[i]?) l.1;simp only[List.getElem?_map,J,K,Option.map_some,Option.some.injEq]at r;rw[A]at r;have O:a[i]=z:=by simpa using r
   rw[O]
  ·rw[List.getElem?_eq_none (by simp;omega),List.getElem?_eq_none (by rw[dN,e];show m*1<=i;omega)]
 have f:MemPlace.cell b 0∈ps:=by
  rw[N];refine List.mem_append_left _ (List.mem_append_left _ ?_);exact List.mem_map.2 ⟨0,by simp;omega,rfl⟩
 obtain⟨⟨c,T,H⟩,_⟩:=d b 0 f;refine⟨T,?_⟩
 have Q:c=j:=by
  have R:(W.var? P n)=some c:=by unfold World.var?;rw[I];simp[H]
  rw[R]at E;exact Option.some.inj E
 rw[H,Q,<-v]
theorem Nk {H:Type} {enc:TypeId×Value->H} {os:Os} (D:List (String×DataW Unit)) (N:(D.all λx=>x.2.handleName?.isNone)=true) (l:os.Started) {f:FuncId} {c:Func} {s:ChangeSpec} {r:Bool} (L:Tryz.prog.funcs[f]? = some c) (n:Tryz.prog.inits.idxOf? f=none)
  (o:(c.params.toList.all λt=>Tryz.prog.readableRec t&&decide (t<Tryz.prog.types.size))=true) (A:c.resultTypes = #[4]) (k:s.vars=[])
  (u:∀a:List (DataW H),a.length=c.params.toList.length->s.fn H a={results:=[.lit (.bool true)],args:=a})
  (m:∃(w:World) (b:Tape) (i:Input),w.os=os∧(w.forCall b i).Shaped Tryz.prog∧i.vars=[]∧Input.okWide Tryz.prog (w.forCall b i) .any w.heap.size f i∧
   ((s.pre enc Tryz.prog c [] false (w.forCall b i).memory i.args∧laidMetH Tryz.prog D (w.forCall b i).memory)∧sizedMet enc Tryz.prog c (OpenSpec.ofChange s) false (w.forCall b i).memory i.args)∧({}:Assume).holds Tryz.prog (lone (Frame.enter Tryz.prog f i.args .normal) [] (w.forCall b i)))
  (E:∀(W:World) (g:Nat) (args:Array Value) (a:List (DataW H)) (p:List MemPlace),laidMetH Tryz.prog D W->(∀(j:Nat) t v,c.params[j]? = some t->args[j]? = some v->Value.okWide Tryz.prog W .any g t v)->
   DataW.TrodAll enc Tryz.prog W 0 (λ_=>true) true c.params.toList args.toList a p->Calls Tryz.prog f args W λe P=>e = .returned (.bool true)∧KN W P):
  ReturnsInHanded {} Go.Proofs.YtmdlcmbplnhdnaaGreatDoor.Tryz.pinned.checked os f .any (λw args=>(s.pre enc Tryz.prog c [] false w args∧laidMetH Tryz.prog D w)∧sizedMet enc Tryz.prog c (OpenSpec.ofChange s) false w args) (s.post enc Tryz.prog c false r false false):=by
 refine returnsInHanded_of_change_and (C:=Go.Proofs.YtmdlcmbplnhdnaaGreatDoor.Tryz.pinned.checked) (X:=λw _=>laidMetH Tryz.prog D w) (λ_ _ _ U h=>by rw[MakeChecks.laidMetH_plain _ _ _ N]at h ⊢;exact h.of_heap U) aha l n L m ?_;intro W g args a Y G B J _ _ T _;have M:=J.lt;have K:=J;obtain⟨p,q,I,Q,rfl,_,_⟩:=J;rw[k]at Q;obtain⟨rfl,rfl⟩:=trodVars_none Q;refine(E W g args a p T B I).mono ?_;rintro e P ⟨rfl,R⟩;refine⟨_,rfl,?_⟩
 have z:a.length=c.params.toList.length:=by
  have:∀(F:List TypeId) (y:eW) (a:List (DataW H)) (p:List MemPlace),DataW.TrodAll enc Tryz.prog W 0 (λ_=>true) true F y a p->a.length=F.length:=by
   intro F
   induction F with
   |nil=>intro y a p h;cases y<;>cases a<;>first|rfl|exact h.elim
   | cons t F ih =>
    intro y a p h;cases y with
    |nil=>exact h.elim
    |cons v y=>
     cases a with
     |nil=>exact h.elim
     |cons d a=>obtain⟨_,_,_,S,_⟩:=h;simp[ih y a _ S]
  exact this _ _ _ _ I
 have O:s.fn H (a++[])={results:=[.lit (.bool true)],args:=a}:=by rw[List.append_nil];exact u a z
 refine⟨a,[],p++[],[],p,[],K,?_,?_,?_,R.frame _,λh=>by cases h⟩
 ·rw[O,A];exact trodAll_mk1 (shut_bool Tryz.underlying4 true)
 ·rw[O];exact Ef ad_ R _ _ _ _ o I (λx V=>M x (List.mem_append_left _ V))
 ·rw[O,k];exact rfl
theorem Tb {P:Program} {n:String} {k:IntKind} {a:aP} {W:World} (h:laidMetH P [(n,.agg (a.map λx=> .lit (.int k x)))] W):laidMet P [(n,.agg (a.map λx=> .lit (.int k x)))] W:=by
 rw[MakeChecks.laidMetH_plain _ _ _ (by rfl)]at h;exact h
end Go.Sx
end
