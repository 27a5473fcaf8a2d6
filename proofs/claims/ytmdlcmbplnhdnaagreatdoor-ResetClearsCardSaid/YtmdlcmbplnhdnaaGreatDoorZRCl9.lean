/- Models and proofs. Conditions: none. -/
import Derived.Test.YtmdlcmbplnhdnaaGreatDoorZRCl6
import Derived.Test.YtmdlcmbplnhdnaaGreatDoorZRCl8
import Derived.Test.YtmdlcmbplnhdnaaGreatDoorZRCl7
import Derived.Test.YtmdlcmbplnhdnaaGreatDoorZRCl5
import Derived.Test.YtmdlcmbplnhdnaaGreatDoorZRCl2
import Derived.Test.YtmdlcmbplnhdnaaGreatDoorZRCl1
import Derived.OpenShut
import Derived.LaidLaws
import Derived.LaidHandle
import Derived.Lay
import Derived.MakeChecks
set_option linter.unusedVariables false
set_option linter.unusedSimpArgs false
set_option maxHeartbeats 4000000
set_option maxRecDepth 20000
namespace Go.Proofs.YtmdlcmbplnhdnaaGreatDoor
open Go.Sx
def Gv  (a:abT):Option Be:=
 if a.2.2.2.2.2.1≠(0:Int)then(some (([]:zI),([]:LX),a.2.2.2.2.2.1))else(some (a.2.2.2.2.2.2.2.2.2.2,a.2.2.2.2.2.2.2.2.2.1,(0:Int)))
def Aw  (a:abU):Option Be:=
 Gv  (a.2.2.2.2.2.1,a.2.2.2.2.2.2.1,a.2.2.2.2.2.2.2.1,a.2.2.2.2.2.2.2.2.1,a.2.2.2.2.2.2.2.2.2.1,a.2.2.2.2.2.2.2.2.2.2,a.2.2.1,a.2.2.2.1,a.2.2.2.2.1,a.1,a.2.1)
def xF  (a:aR×Int×Int×Int×Int×Int×bG×aR×(List (Int×Int×Int×Int×Int))×List bG):Option Be:=
 Aw  (a.2.2.2.2.2.2.2.2.1,a.2.2.2.2.2.2.2.2.2,a.2.2.2.2.2.2.2.1,a.1,a.2.2.2.2.2.2.1,a.2.1,a.2.2.1,a.2.2.2.1,a.2.2.2.2.1,a.2.2.2.2.2.1,(0:Int))
def CF (e:LY) (b:YE) (f:YD->Option Be) (d:Int) (h:bG) (c:Int) (a:(Int×Int×Int×Int×Int)×Int) (g:zI):Option Be:=
 ck ((List.length b.2.2.2.2.2.2.2.2.2.1:Int)+(List.length ([d]):Int)<=1099511627) (ck ((List.length b.2.1:Int)+(List.length ([(dD .u32 c e.1)]):Int)<=1099511627) (f ((dD .u32 c e.1),(b.2.1++([(dD .u32 c e.1)])),(wI .i64 (b.2.2.1+(1:Int))),a.1.1,a.1.2.1,a.1.2.2.1,a.1.2.2.2.1,a.1.2.2.2.2,h,(b.2.2.2.2.2.2.2.2.2.1++[d]),(b.2.2.2.2.2.2.2.2.2.2.1++([(a.1.1,a.1.2.1,a.1.2.2.1,a.1.2.2.2.1,a.1.2.2.2.2)])),g)))
def CE (U:Nat) (e:BJ) (k:cQ) (l:Int) (c:LY) (a:YE) (i:YD->Option Be) (d:Int):Option Be:=
 if¬(a.1≠(0:Int))then(xF  (a.2.1,a.2.2.2.1,a.2.2.2.2.1,a.2.2.2.2.2.1,a.2.2.2.2.2.2.1,a.2.2.2.2.2.2.2.1,a.2.2.2.2.2.2.2.2.1,a.2.2.2.2.2.2.2.2.2.1,a.2.2.2.2.2.2.2.2.2.2.1,a.2.2.2.2.2.2.2.2.2.2.2))else(Option.bind (fP U c.2.1 l a.1 d) λj=>(if(!j)=true then(Aw  (a.2.2.2.2.2.2.2.2.2.2.1,a.2.2.2.2.2.2.2.2.2.2.2,([]:aR),([]:aR),([]:bG),(0:Int),(0:Int),(0:Int),(0:Int),(0:Int),(11:Int)))else(Option.bind (jJ U ((((e.1,e.2.1,e.2.2)),((((e.1,e.2.1,e.2.2)),((k.1,k.2)),c.2.2.2.1,c.2.2.2.2)),c.2.2.1)) a.2.2.2.2.2.2.2.2.1 d) λf=>(Option.bind (eG U ((((e.1,e.2.1,e.2.2)),((((e.1,e.2.1,e.2.2)),((k.1,k.2)),c.2.2.2.1,c.2.2.2.2)),c.2.2.1)) f) λg=>(Option.bind (fR U ((a.2.2.2.1,a.2.2.2.2.1,a.2.2.2.2.2.1,a.2.2.2.2.2.2.1,a.2.2.2.2.2.2.2.1)) d (dD .u32 g c.1)) λb=>(Option.bind (mF U f) λh=>(ck ((List.length a.2.2.2.2.2.2.2.2.2.2.2:Int)+(List.length (([]:zI)++[h]):Int)<=1099511627) (ck ((List.length a.2.2.2.2.2.2.2.2.2.2.1:Int)+(List.length ([(b.1.1,b.1.2.1,b.1.2.2.1,b.1.2.2.2.1,b.1.2.2.2.2)]):Int)<=1099511627) (CF c a i d f g b (a.2.2.2.2.2.2.2.2.2.2.2++(([]:zI)++[h])))))))))))
def sW (U:Nat) (g:BJ) (h:cQ) (f:Int) (e:aR) (c:LY) (a:YE) (b:YD->Option Be):Option Be:=
 if a.2.2.1<(List.length e:Int)then(ck (0<=a.2.2.1∧a.2.2.1<(List.length e:Int)) (Option.bind (eR U c.2.1 f a.1 (at' e a.2.2.1)) λd=>(CE U g h f c a b (d))))else(xF  (a.2.1,a.2.2.2.1,a.2.2.2.2.1,a.2.2.2.2.2.1,a.2.2.2.2.2.2.1,a.2.2.2.2.2.2.2.1,a.2.2.2.2.2.2.2.2.1,a.2.2.2.2.2.2.2.2.2.1,a.2.2.2.2.2.2.2.2.2.2.1,a.2.2.2.2.2.2.2.2.2.2.2))
def CC (U:Nat) (f:BJ) (g:cQ) (h:Int) (i:aR) (b:LY) (e:bG) (c:Int) (a:(Int×Int×Int×Int×Int)) (d:zI):Option Be:=
 ck ((List.length ([]:aR):Int)+(List.length ([(dD .u32 c b.1)]):Int)<=1099511627) (bJ (sW U f g h i b) U ((dD .u32 c b.1),(([]:aR)++([(dD .u32 c b.1)])),(0:Int),a.1,a.2.1,a.2.2.1,a.2.2.2.1,a.2.2.2.2,e,([]:aR),(([]:LX)++([(a.1,a.2.1,a.2.2.1,a.2.2.2.1,a.2.2.2.2)])),d))
def CB (U:Nat) (d:BJ) (g:cQ) (h:Int) (i:bG) (j:aR) (b:LY):Option Be:=
 Option.bind (mF U i) λe=>(Option.bind (eG U ((((d.1,d.2.1,d.2.2)),((((d.1,d.2.1,d.2.2)),((g.1,g.2)),b.2.2.2.1,b.2.2.2.2)),b.2.2.1)) e) λf=>(Option.bind (uO U (dD .u32 f b.1)) λa=>(Option.bind (mF U e) λc=>(ck ((List.length ([]:zI):Int)+(List.length (([]:zI)++[c]):Int)<=1099511627) (ck ((List.length ([]:LX):Int)+(List.length ([(a.1,a.2.1,a.2.2.1,a.2.2.2.1,a.2.2.2.2)]):Int)<=1099511627) (CC U d g h j b e f a (([]:zI)++(([]:zI)++[c]))))))))
def Ax (U:Nat) (e:BJ) (b:cQ) (f:Int) (g:bG) (h:aR) (a:gN×Int×bG):Option Be:=
 Option.bind (nW U ((b.1,b.2))) λc=>(Option.bind (zD U ((b.1,b.2))) λd=>(CB U e b f g h (d,c,a.1,a.2.1,a.2.2)))
def Ay (U:Nat) (c:BJ) (d:cQ) (e:Int) (f:bG) (g:aR) (a:Int×bG):Option Be:=
 Option.bind (mZ U ((c.1,c.2.1,c.2.2)) ((d.1,d.2))) λb=>(Ax U c d e f g (b,a.1,a.2))
def t_ (U:Nat) (b:BJ) (c:cQ) (d:Int) (e:bG) (f:aR) (a:Int×bG):Option Be:=
 Ay U b c d e f (a.1,a.2)
def yQ (d:cQ) (a:Int×Int×bG) (b:(Int×Int×bG)->Option Be) (c:bG):Option Be:=
 b ((wI .i64 (a.1+(1:Int))),(max a.2.1 (at' d.1 a.1)),c)
def sX (U:Nat) (f:cQ) (a:Int×Int×bG) (d:(Int×Int×bG)->Option Be) (b:Int×bG) (e:(Int×bG)->Option Be):Option Be:=
 if b.1<(List.length (at' f.2 a.1):Int)then(ck (0<=b.1∧b.1<(List.length (at' f.2 a.1):Int)) (ck (0<=a.1∧a.1<(List.length b.2:Int)) (Option.bind (r_ U ((f.1,f.2)) ((at' (at' f.2 a.1) b.1).1) a.1) λc=>(ck ((List.length (at' b.2 a.1):Int)+(List.length ([c]):Int)<=1099511627) (ck (0<=a.1∧a.1<(List.length (List.set b.2 (Int.toNat a.1) ((at' b.2 a.1)++[c])):Int)) (e ((wI .i64 (b.1+(1:Int))),(List.set b.2 (Int.toNat a.1) ((at' b.2 a.1)++[c])))))))))else(yQ f a d (b.2))
def oJ (U:Nat) (d:BJ) (c:cQ) (e:Int) (f:bG) (g:aR) (a:Int×Int×bG) (b:(Int×Int×bG)->Option Be):Option Be:=
 if a.1<(List.length c.2:Int)then(ck (0<=a.1∧a.1<(List.length c.2:Int)) (ck (0<=a.1∧a.1<(List.length c.1:Int)) (bJ (sX U c a b) U ((0:Int),a.2.2))))else(t_ U d c e f g (a.2.1,a.2.2))
def vQ (U:Nat) (b:BJ) (a:cQ) (c:Int) (d:bG) (e:aR):Option Be:=
 Option.bind (zE U ((b.1,b.2.1,b.2.2)) ((a.1,a.2)) c d (List.length e:Int)) λf=>(if f≠(0:Int)then(some (([]:zI),([]:LX),f))else(ck (0<=(List.length a.2:Int)∧(List.length a.2:Int)<=1099511627) (bJ (oJ U b a c d e) U ((0:Int),(0:Int),(List.replicate (Int.toNat (List.length a.2:Int)) ([]:aR))))))
theorem acG:aW Tryz.prog 29:=Tryz.call29
theorem PR (U:Nat) {s:BJ} {G:cQ} {R:Int} {p3:bG} {p4:aR} (u:Value)  (v:Value)  (E:Value)  (D:Value)  (z4:lX)  (v5:Value)  (z6:sH)  (v7:Value) (r:List bG×(List (Int×Int×Int×Int×Int))×Int) (h:vQ U s G R p3 p4=some r):
  aX Tryz.prog 29 #[Value.agg #[vS (s.1),u,v],Value.agg #[E,D],vI (R),v5,v7] [Sl aT u s.2.1,Sl aK v s.2.2,PF (Value.agg #[vS s.1,u,v]),Sl bN E G.1,S2 bD D z4 G.2,S2 bN v5 z6 p3,Sl zK v7 p4,Gb 0 (cellsOf HO xJ)] (λx:Value×List Value×List (List Value)×Value=>Value.tuple #[x.1,x.2.2.2,vI (r.2.2)]) (λx l=>Ar cY.raw x.1 x.2.1::KP cC x.2.1 x.2.2.1 r.1::Ar cE x.2.2.2 r.2.1::l) (λ_ l=>l):=by
 refine aX.of Tryz.func29 Z Tryz.ntmps29 Z λc=>?_;refine aV<|aH (aM.box (cs:=[vS (s.1),u,v]) Z Z) Z λb1=>aH (aM.box (cs:=[E,D]) Z Z) Z λb2=>aD Z<|aD Z<|aD Z<|aL<|aJ<|aV<|eT 1 Z<|eT 0 Z<|aA Z<|aA Z<|aA Z<|kB (aE.fact 6 Z) Z<|fH h λr3 w4 h=>aH (aM.callQ acM (PS U u v E D z4 v5 z6 r3 w4) Z (pO [0,1,2,3,4,5] Z)) Z λx5=>aD Z<|aL<|aV<|aA Z<|p_ Z<|aL ?_;refine eX h Z (λh=>?_) λh=>?_
 ·refine aV<|aA Z<|aD Z<|aD Z<|aD Z<|aL<|aU<|aI<|iS (gJ cY.raw) (iS (AC cC) ?_);refine iS (gJ cE) ?_;cases h;exact IC ((k_),([]:fV),([]:List (List Value)),(k_)) Z Z (RV.tmp Z) (RV.tmp Z) (RV.tmp Z) (a_.ix [2,1,0] Z Z) aF.nil
 refine cK<|aV<|aH (aM.alloc (cs:=[k_]) Z Z) Z λM=>aL<|aV<|aH (aM.alloc (cs:=[k_]) Z Z) Z λN=>aL<|aV<|eT 3 Z<|eT 2 Z<|aA Z<|aB (xX (cs:=[.tmp 14,.tmp 15]) (vs:=[vP M,vP N]) Z) Z<|By (A:=LY) (B:=Nat×Value×Nat×Value×List Value×Value×List Value) (vs:=[Value.agg #[vS (s.1),u,v],Value.agg #[E,D],vI (R),Value.func (.func 52) #[] #[vP M,vP N]]) (λg=>CB U s G R p3 p4 g=some r) (λg a=>Value.agg #[vP a.1,a.2.1,vI (R),vU (g.1),Value.func (.func 52) #[] #[vP M,vP N]]) (λg a=>[Ar pC a.2.1 g.2.1,bU a.1 [vS (s.1),u,v,vP a.2.2.1,a.2.2.2.1] 108,Ar cY.raw a.2.2.2.1 a.2.2.2.2.1,kX b_ a.2.2.2.2.1 g.2.2.1,bU a.2.2.1 [vS (s.1),u,v,E,D,vI (g.2.2.2.1),a.2.2.2.2.2.1] 137,Ar cY.raw a.2.2.2.2.2.1 a.2.2.2.2.2.2,kX cC a.2.2.2.2.2.2 g.2.2.2.2,bU N [k_] 33,bU M [k_] 32]) (λg a=>[Sl aT u s.2.1,Sl aK v s.2.2,PF (Value.agg #[vS s.1,u,v]),Sl bN E G.1,S2 bD D z4 G.2,S2 bN v5 z6 p3,Sl zK v7 p4,Gb 0 (cellsOf HO xJ)]) (tQ.fn (show aW Tryz.prog 51 from Tryz.call51) Z) Tryz.func51 Z Tryz.ntmps51 Z Z ?_ ?_
 ·refine aV<|aH (aM.box (cs:=[vS (s.1),u,v]) Z Z) Z λaf=>aH (aM.box (cs:=[E,D]) Z Z) Z λag=>aH (aM.alloc (cs:=vD1) Z Z) Z λah=>aL<|aJ ?_;refine JR.start [0,0,3,0,15,0,0,95,0,511,1023] 9 mixedOrders (by decide +kernel) ?_;refine JR.open (by exact rfl) ?_;refine pY 2 Z<|pY 1 Z<|Sk (A:=gN×Int×bG) (B:=Nat×Nat×Value×List Value×Value×List Value) (vs:=[Value.agg #[vS (s.1),u,v],Value.agg #[E,D]]) (λP=>Ax U s G R p3 p4 P=some r) (λP t=>vP t.1) (λP t=>[bU t.1 [vS (s.1),u,v,vP t.2.1,t.2.2.1] 108,Ar cY.raw t.2.2.1 t.2.2.2.1,kX b_ t.2.2.2.1 P.1,bU t.2.1 [vS (s.1),u,v,E,D,vI (P.2.1),t.2.2.2.2.1] 137,Ar cY.raw t.2.2.2.2.1 t.2.2.2.2.2,kX cC t.2.2.2.2.2 P.2.2,bU ah vD1 97,bU ag [E,D] 29,bU af [vS (s.1),u,v] 60,bU N [k_] 33,bU M [k_] 32]) (λP t=>[Sl aT u s.2.1,Sl aK v s.2.2,PF (Value.agg #[vS s.1,u,v]),Sl bN E G.1,S2 bD D z4 G.2,S2 bN v5 z6 p3,Sl zK v7 p4,Gb 0 (cellsOf HO xJ)]) Z Z Z (tQ.fn (show aW Tryz.prog 43 from Tryz.call43) Z) Tryz.func43 Z Tryz.ntmps43 Z Z (λ_ _=>(v_ [] Z)) ?_ ?_
  ·refine aV<|aH (aM.box (cs:=[vS (s.1),u,v]) Z Z) Z λar=>aH (aM.box (cs:=[E,D]) Z Z) Z λau=>aD Z<|aL<|aJ ?_;refine JR.start [0,0,0,6,0,0,62,127,255,511] 7 mixedOrders (by decide +kernel) ?_;refine JR.open (by exact rfl) ?_;refine pY 1 Z<|pY 1 Z<|pY 0 Z<|Sk (A:=Int×bG) (B:=Nat×Value×List Value) (vs:=[Value.agg #[vS (s.1),u,v],Value.agg #[E,D]]) (λS=>Ay U s G R p3 p4 S=some r) (λS I=>vP I.1) (λS I=>[bU I.1 [vS (s.1),u,v,E,D,vI (S.1),I.2.1] 137,Ar cY.raw I.2.1 I.2.2,kX cC I.2.2 S.2,bU au [E,D] 29,bU ar [vS (s.1),u,v] 60,bU ah vD1 97,bU ag [E,D] 29,bU af [vS (s.1),u,v] 60,bU N [k_] 33,bU M [k_] 32]) (λS I=>[Sl aT u s.2.1,Sl aK v s.2.2,PF (Value.agg #[vS s.1,u,v]),Sl bN E G.1,S2 bD D z4 G.2,S2 bN v5 z6 p3,Sl zK v7 p4,Gb 0 (cellsOf HO xJ)]) Z Z Z (tQ.fn (show aW Tryz.prog 66 from Tryz.call66) Z) Tryz.func66 Z Tryz.ntmps66 Z Z (λ_ _=>(v_ [([4],[])] Z)) ?_ ?_
   ·refine aV<|aH (aM.box (cs:=[vS (s.1),u,v]) Z Z) Z λc6=>aH (aM.box (cs:=[E,D]) Z Z) Z λai=>aD Z<|aL<|aJ ?_;refine JR.start [0,0,0,4,12,28,63,127,255] 6 mixedOrders (by decide +kernel) ?_;refine JR.open (by exact rfl) ?_;refine pY 1 Z<|pY 0 Z<|dB Z<|jQ 0 Z<|bL Z .nil (lR 4 Z) (iY Z (aE.fact 0 Z) Z) aP.z<|cX h λck h=>JR.stp (yZ cC (Int.toNat (List.length G.2:Int)))<|JR.loud Z Z Z (rR (e:=cY.raw) (k_) Z Z Z Z ck Z Z Z) Z (λL=>(v_ [([2],[]),([3],[])] Z)) λL=>bP 6 Z Z<|bZ (Know.one (aE.sl (bO (i:=0) (j:=1) Z Z dM))) λb0=>?_;refine aB (VT (r:=Value.agg #[vS (s.1),u,v,E,D,vI (0:Int),L]) Z Z Z (by intro w;simp[Instr.build,Instr.fill,fD,eD,dJ,fE,fF,eF,gK,fS b0])) Z ?_;refine aH (aM.box (cs:=[vS (s.1),u,v,E,D,vI (0:Int),L]) Z Z) Z λT=>aD Z<|aL<|aJ<|DG (B:=fV) (λX=>t_ U s G R p3 p4 X=some r) (λX av=>[(5,vP T)]) (λX av=>[bU T [vS (s.1),u,v,E,D,vI (X.1),L] 137,Ar cY.raw L av,kX cC av X.2,bU au [E,D] 29,bU ar [vS (s.1),u,v] 60,bU ah vD1 97,bU ag [E,D] 29,bU af [vS (s.1),u,v] 60,bU N [k_] 33,bU M [k_] 32]) ?_ ?_
    ·refine aV<|bS Z<|dC 3 Z<|aB (iY Z (aE.fact 4 Z) Z) Z<|aA Z<|aL<|aS<|dU (B:=fV) (oJ U s G R p3 p4) (λo aj=>[(3,vP ai),(5,vP T),(19,D),(20,vI (List.length G.2:Int)),(21,vI (o.1))]) (λo aj=>[bU T [vS (s.1),u,v,E,D,vI (o.2.1),L] 137,Ar cY.raw L aj,kX cC aj o.2.2,bU ai [E,D] 29,bU au [E,D] 29,bU ar [vS (s.1),u,v] 60,bU ah vD1 97,bU ag [E,D] 29,bU af [vS (s.1),u,v] 60,bU N [k_] 33,bU M [k_] 32]) ((0:Int),(0:Int),(List.replicate (Int.toNat (List.length G.2:Int)) ([]:aR))) (List.replicate (Int.toNat (List.length G.2:Int)) (k_)) h SF (a_.ix [0,1,2,3,5,6,7,8,9,10,11] Z Z) ?_;intro bi o aj h;refine aV<|cM Z<|aL<|aJ ?_;refine eX h Z (λh=>?_) λh=>?_
     ·refine cK<|aJ<|DG (B:=fV) (λae=>yQ G o (bJ (oJ U s G R p3 p4) bi) ae=some r) (λae aw=>[(3,vP ai),(5,vP T),(19,D),(20,vI (List.length G.2:Int)),(21,vI (o.1))]) (λae aw=>[bU T [vS (s.1),u,v,E,D,vI (max o.2.1 (at' G.1 o.1)),L] 137,Ar cY.raw L aw,kX cC aw ae,bU ai [E,D] 29,bU au [E,D] 29,bU ar [vS (s.1),u,v] 60,bU ah vD1 97,bU ag [E,D] 29,bU af [vS (s.1),u,v] 60,bU N [k_] 33,bU M [k_] 32]) ?_ ?_
      ·refine aS<|aV<|aA Z<|cX h λaa h=>aB (cA Z Z (aE.fact 4 Z) Z Z aa) Z<|aB (cF Z (aE.fact 4 Z) Z Z aa) Z<|aD Z<|aD Z<|aL<|aJ ?_;refine JR.start [0,0,2,6,14,0,32,0,224,480,1022,2047,4095,8191] 11 mixedOrders (by decide +kernel) ?_;refine JR.open (by exact rfl) ?_;refine bH Z<|bH Z<|iF Z (bX Z)<|dB Z<|jQ 0 Z<|dB Z<|jQ 3 Z<|bH Z<|cX h λbf h=>bL Z .nil (lR 3 Z) (aY Z Z (aE.fact 0 Z) Z Z bf) aP.z<|bL Z .nil (lR 3 Z) (bV Z (aE.fact 0 Z) Z Z Z dA bf) aP.z<|iF Z (Lh Z Z)<|bP 11 Z Z<|aB (bX Z) Z<|bS Z<|iG 0 Z Z Z Z Z Z<|aL<|aV<|aA Z<|aB (fW Z (aE.el (aE.fact 4 Z) aa.1 aa.2) Z) Z<|aA Z<|aL<|aS<|dU (B:=fV) (sX U G o (bJ (oJ U s G R p3 p4) bi)) (λK ak=>[(3,vP ai),(5,vP T),(6,vI (o.1)),(19,D),(20,vI (List.length G.2:Int)),(21,vI (o.1)),(39,(at' z4 o.1).1),(40,vI (List.length (at' G.2 o.1):Int)),(41,vI (K.1))]) (λK ak=>[bU T [vS (s.1),u,v,E,D,vI (max o.2.1 (at' G.1 o.1)),L] 137,Ar cY.raw L ak,kX cC ak K.2,bU ai [E,D] 29,bU au [E,D] 29,bU ar [vS (s.1),u,v] 60,bU ah vD1 97,bU ag [E,D] 29,bU af [vS (s.1),u,v] 60,bU N [k_] 33,bU M [k_] 32]) ((0:Int),o.2.2) (aj) h SF (a_.refl _) ?_;intro c8 K ak h;refine aV<|cM Z<|aL<|aJ ?_;refine eX h Z (λh=>?_) λh=>?_
       ·refine cK<|aJ<|aS<|aV<|cX h λbg h=>aB (aY Z Z (aE.el (aE.fact 4 Z) aa.1 aa.2) Z Z bg) Z<|aB (iZ (cs:=[vI ((at' (at' G.2 o.1) K.1).1),vI ((at' (at' G.2 o.1) K.1).2)]) Z (aE.el (aE.fact 4 Z) aa.1 aa.2) bQ Z Z Z Z bg) Z<|aH (aM.alloc (cs:=Vd) Z Z) Z λc7=>bT 0 (vs:=[vI ((at' (at' G.2 o.1) K.1).1),vI ((at' (at' G.2 o.1) K.1).2)]) Z Z Z Z Z Z<|aL ?_;refine JR.start [0,1,3,7,0,0,32,96,224,0,992,2016,0,0,8192,0,61440,126976,262112,524287,1048575] 19 mixedOrders (by decide +kernel) ?_;refine JR.open (by exact rfl) ?_;refine bH Z<|iF Z (bX Z)<|dB Z<|jQ 1 Z<|bH Z<|bH Z<|iF Z (bX Z)<|dB Z<|jQ 1 Z<|bH Z<|cX h λaQ h=>eN (c_ 3 Z) λbp=>?_;refine bL Z (a_.cons 2 Z .nil) .nil (iU 0 Z Z Z Z Z aQ.1 (by have q1:=aQ.2;have q2:=bp;(try simp only[List.length_set]at q1);(try simp only[List.length_set]at q2);(try simp only[List.length_set]);omega)) aP.z ?_;refine eN (c_ 3 Z) λbq=>bL Z (a_.cons 2 Z .nil) .nil (jD 0 Z Z bq Z Z aQ) aP.z<|pY 4 Z<|dB Z<|jQ 0 Z<|bH Z<|fH h λax cR h=>JR.loud Z Z Z (aM.callQ adg (Ky U E D z4 ax cR) Z (pO [3,4] Z)) Z (λcW=>(v_ [([2],[]),([2],[]),([1],[]),([1],[])] Z)) λcW=>JR.loud Z Z Z (bW (e:=cC) ([ax]) [(0,vI (ax))] Z Z Z Z (mR (vI (ax)) Z) Z Z Z) Z (λcx=>(v_ [([3],[]),([3],[]),([2],[]),([2],[])] Z)) λcx=>cX h λcl h=>JR.loud Z Z Z (qO 4 dM Z Z Z (bB (aE.res 0 Z) dM) Z Z Z Z aQ cl Z) Z (λbo=>(v_ [([2],[])] Z)) λbo=>bP 19 Z Z<|cX h λab h=>bZ (c_ 4 Z) λbr=>?_;refine aB (iU 3 Z Z Z Z Z ab.1 (by have q1:=ab.2;have q2:=br;(try simp only[List.length_set]at q1);(try simp only[List.length_set]at q2);(try simp only[List.length_set]);omega)) Z ?_;refine bZ (Bh 4 (k:=o.1) Z ⟨ab.1,by first|exact ab.2|simpa using ab.2⟩) λb3=>?_;refine qC 3 4 ⟨ab.1,by first|exact ab.2|simpa using ab.2⟩ Z Z Z Z Z (by simp) b3 Z ?_;refine eJ<|mI<|aO<|cJ Z<|aA Z<|aL ?_;exact mL ((wI .i64 (K.1+(1:Int))),(List.set K.2 (Int.toNat o.1) ((at' K.2 o.1)++[ax]))) (List.set ak (Int.toNat o.1) bo) h SF (a_.ix [2,3,4,5,6,7,8,9,10,11,12] Z Z) (aF.refl _ _)
       refine rA<|eM<|eM<|xN<|mI ?_;exact gY (K.2) (ak) h SF Z
      intro ae aw h;unfold yQ at h;refine aO<|cJ Z<|aA Z<|aL ?_;exact xY ((wI .i64 (o.1+(1:Int))),(max o.2.1 (at' G.1 o.1)),ae) (aw) h SF Z
     refine fC ?_;exact cH (o.2.1,o.2.2) (aj) h SF (a_.ix [0,1,2,4,5,6,7,8,9,10] Z Z) (aF.refl _ _)
    intro X av h;unfold t_ at h;refine aV<|aA Z<|aD Z<|aL<|aU ?_;exact u_ (X.1,X.2) (T,L,av) h (.inl Z) (Ha.r1 Z (RV.tmp Z)) Z (a_.refl _) (aF.refl _ _)
   intro S I h;unfold Ay at h;refine bL Z (a_.cons 4 Z .nil) .nil (i_ 0 Z Z Z Z) (aP.h (a_.ix [1] Z Z) .nil aP.z)<|bL Z (a_.cons 3 Z .nil) .nil (i_ 0 Z Z Z Z) (aP.h (a_.ix [0] Z Z) .nil aP.z)<|fH h λbn cP h=>JR.loud Z Z Z (aM.callQ Wr (DW U u v E D z4 bn cP) Z (pO [0,1,2,3,4] Z)) Z (λay=>(v_ [([6],[])] Z)) λay=>bP 7 Z Z<|bZ (Know.one (aE.sl (bO (i:=0) (j:=1) Z Z bQ))) λbY=>?_;refine aB (VT (r:=Value.agg #[vS (s.1),u,v,Value.pointer (some ⟨I.1,0,none⟩),ay.1]) Z Z Z (by intro w;simp[Instr.build,Instr.fill,fD,eD,dJ,fE,fF,eF,gK,fS bY])) Z ?_;refine aH (aM.box (cs:=[vS (s.1),u,v,vP I.1,ay.1]) Z Z) Z λb4=>aD Z<|aL<|aU ?_;exact u_ (bn,S.1,S.2) (b4,I.1,ay.1,ay.2,I.2.1,I.2.2) h (.inl Z) (Ha.r1 Z (RV.tmp Z)) Z (a_.ix [0,1,2,3,4,5,8,9,10,11,12] Z Z) (aF.refl _ _)
  intro P t h;unfold Ax at h;refine bL Z (a_.cons 7 Z .nil) .nil (i_ 0 Z Z Z Z) (aP.h (a_.ix [1] Z Z) .nil aP.z)<|fH h λbm cN h=>JR.loud Z Z Z (aM.callQ acY (Ir U E D z4 bm cN) Z (pO [3,4] Z)) Z (λa1=>(v_ [] Z)) λa1=>iF Z (gQ Z)<|bL Z (a_.cons 8 Z .nil) .nil (i_ 0 Z Z Z Z) (aP.h (a_.ix [7] Z Z) .nil (aP.h (a_.ix [1] Z Z) .nil aP.z))<|fH h λa0 cO h=>JR.loud Z Z Z (aM.callQ acZ (PN U E D z4 a0 cO) Z (pO [3,4] Z)) Z (λcV=>(v_ [] Z)) λcV=>iF Z (gQ Z)<|bP 9 Z Z<|bZ (Know.one ((bB (aE.res 0 Z) tR))) λbM=>?_;refine aB (Y.bld5 (r:=Value.agg #[Value.pointer (some ⟨t.1,0,none⟩),a1,vI (R),vU (a0),Value.func (.func 52) #[] #[Value.pointer (some ⟨M,0,none⟩),Value.pointer (some ⟨N,0,none⟩)]]) Z Z Z Z Z (by intro w;simp[Instr.build,Instr.fill,fD,eD,dJ,fE,fF,eF,gK,fS bM])) Z ?_;refine bZ (Know.one ((bB (aE.res 0 Z) tR))) λbR=>bT 7 (vs:=[vP t.1,a1,vI (R),vU (a0),Value.func (.func 52) #[] #[vP M,vP N]]) Z Z (kY Z (kY bR (kY Z (kY Z (kY Z Z))))) Z Z Z<|aL<|aU ?_;exact u_ (a0,bm,P.1,P.2.1,P.2.2) (t.1,a1,t.2.1,t.2.2.1,t.2.2.2.1,t.2.2.2.2.1,t.2.2.2.2.2) h (.inl Z) (Ha.r1 Z (RV.cell 7 Z Z Z Z)) Z (a_.ix [0,1,2,3,4,5,6,10,11] Z Z) (aF.refl _ _)
 intro g a h;refine aH (aM.alloc (cs:=vD1) Z Z) Z λdg=>bZ (Know.one ((bB (aE.res 1 Z) tR))) λb5=>bT 0 (vs:=[vP a.1,a.2.1,vI (R),vU (g.1),Value.func (.func 52) #[] #[vP M,vP N]]) Z Z (kY Z (kY b5 (kY Z (kY Z (kY Z Z))))) Z Z Z<|aL<|aJ<|aV<|eT 0 Z<|aA Z<|aA Z<|By (A:=abT) (B:=Value×Value×Value×Value×Value×List Value×List Value×List (List Value)) (vs:=[Value.agg #[vP a.1,a.2.1,vI (R),vU (g.1),Value.func (.func 52) #[] #[vP M,vP N]],v5,v7]) (λJ=>Gv  J=some r) (λJ F=>Value.tuple #[Value.agg #[F.1,F.2.1,F.2.2.1,vI (J.1),vI (J.2.1),vI (J.2.2.1),vI (J.2.2.2.1),vU (J.2.2.2.2.1)],vI (J.2.2.2.2.2.1)]) (λJ F=>[Ar cE F.2.2.2.1 J.2.2.2.2.2.2.2.2.2.1,KP cC F.2.2.2.2.2.2.1 F.2.2.2.2.2.2.2 J.2.2.2.2.2.2.2.2.2.2,Ar cY.raw F.2.2.2.2.1 F.2.2.2.2.2.2.1,bU N [F.2.2.2.1] 33,bU M [F.2.2.2.2.1] 32,Ar pC F.1 J.2.2.2.2.2.2.1,Ar pC F.2.1 J.2.2.2.2.2.2.2.1,Ar cY.raw F.2.2.1 F.2.2.2.2.2.1,kX cC F.2.2.2.2.2.1 J.2.2.2.2.2.2.2.2.1]) (λJ F=>[Sl aT u s.2.1,Sl aK v s.2.2,PF (Value.agg #[vS s.1,u,v]),Sl bN E G.1,S2 bD D z4 G.2,S2 bN v5 z6 p3,Sl zK v7 p4,Gb 0 (cellsOf HO xJ)]) (tQ.fn (show aW Tryz.prog 54 from Tryz.call54) Z) Tryz.func54 Z Tryz.ntmps54 Z Z ?_ ?_
 ·refine aV<|aH (aM.box (cs:=[vP a.1,a.2.1,vI (R),vU (g.1),Value.func (.func 52) #[] #[vP M,vP N]]) Z Z) Z λao=>bZ (Know.one ((aE.fact 6 Z))) λcb=>?_;refine aH (aM.box (cs:=[v7]) Z (by rw[fS cb])) Z λap=>?_;refine aH (aM.alloc (cs:=Qa) Z Z) Z λa2=>aD Z<|aL<|aV<|eT 2 Z<|aA Z<|dC 1 Z<|kB (aE.fact 6 Z) Z<|aB (xX (cs:=[.tmp 3,.tmp 5]) (vs:=[vP ao,vP ap]) Z) Z<|By (A:=abU) (B:=Value×Value×List Value×List (List Value)×Value×Value×Value×List Value) (vs:=[Value.agg #[vP a.1,a.2.1,vI (R),vU (g.1),Value.func (.func 52) #[] #[vP M,vP N]],v5,vI (List.length p4:Int),Value.func (.func 82) #[] #[vP ao,vP ap]]) (λy=>Aw  y=some r) (λy C=>Value.tuple #[Value.agg #[C.2.2.2.2.1,C.2.2.2.2.2.1,C.2.2.2.2.2.2.1,vI (y.2.2.2.2.2.1),vI (y.2.2.2.2.2.2.1),vI (y.2.2.2.2.2.2.2.1),vI (y.2.2.2.2.2.2.2.2.1),vU (y.2.2.2.2.2.2.2.2.2.1)],vI (y.2.2.2.2.2.2.2.2.2.2)]) (λy C=>[Ar cE C.1 y.1,KP cC C.2.2.1 C.2.2.2.1 y.2.1,Ar cY.raw C.2.1 C.2.2.1,bU a2 Qa 78,bU N [C.1] 33,bU M [C.2.1] 32,Ar pC C.2.2.2.2.1 y.2.2.1,Ar pC C.2.2.2.2.2.1 y.2.2.2.1,Ar cY.raw C.2.2.2.2.2.2.1 C.2.2.2.2.2.2.2,kX cC C.2.2.2.2.2.2.2 y.2.2.2.2.1]) (λy C=>[Sl aT u s.2.1,Sl aK v s.2.2,PF (Value.agg #[vS s.1,u,v]),Sl bN E G.1,S2 bD D z4 G.2,S2 bN v5 z6 p3,Sl zK v7 p4,Gb 0 (cellsOf HO xJ)]) (tQ.fn (show aW Tryz.prog 81 from Tryz.call81) Z) Tryz.func81 Z Tryz.ntmps81 Z Z ?_ ?_
  ·refine aV<|aH (aM.box (cs:=[vP a.1,a.2.1,vI (R),vU (g.1),Value.func (.func 52) #[] #[vP M,vP N]]) Z Z) Z λa5=>aH (aM.alloc (cs:=Qa) Z Z) Z λaC=>aD Z<|aL<|aV<|aH (aM.alloc (cs:=Qa) Z Z) Z λaG=>aL<|aV<|aA Z<|fH h λa3 c0 h=>aH (aM.callQ MD (yU U v5 z6 a3 c0) Z (pO [5] Z)) Z λad=>aD Z<|aL<|aJ ?_;refine JR.start [0,1,0,7,0,16,63,127] 6 mixedOrders (by decide +kernel) ?_;refine JR.open (by exact rfl) ?_;refine dB Z<|jQ 4 Z<|bH Z<|fH h λaq c1 h=>JR.loud Z Z Z (aM.callQ Wm (vV U a.1 u v a.2.2.1 u v E D z4 a.2.2.2.2.2.1 (List.zip a.2.2.2.2.2.2 g.2.2.2.2) a.2.2.2.1 (List.zip a.2.2.2.2.1 g.2.2.1) ad.1 (List.zip ad.2 a3) aq c1) Z (aF.cons (aE.res 10 Z) (aF.cons (aE.fact 0 Z) (aF.cons (aE.fact 1 Z) (aF.cons (aE.res 13 Z) (aF.cons (aE.fact 0 Z) (aF.cons (aE.fact 1 Z) (aF.cons (aE.fact 3 Z) (aF.cons (aE.fact 4 Z) (aF.cons (bO (i:=14) (j:=15) Z Z dM) (aF.cons (bO (i:=11) (j:=12) Z Z bQ) (aF.cons (bO (i:=0) (j:=1) Z Z dM) .nil)))))))))))) Z (λc3=>(v_ [] Z)) λc3=>iF Z (dO Z Z Z Z Z)<|bL Z (a_.cons 4 Z .nil) .nil (eW 0 Z Z Z Z Z) (aP.h (a_.ix [4] Z Z) .nil aP.z)<|bP 6 Z Z<|Aa Z<|aD Z<|aL<|aV<|aA Z<|fH h λm c2 h=>aH (aM.callQ ZI (Ip U  m c2) Z .nil) Z λdj=>aH (aM.alloc (cs:=vD2) Z Z) Z λaN=>bT 0 (vs:=[vI (m.1),vI (m.2.1),vI (m.2.2.1),vI (m.2.2.2.1),vU (m.2.2.2.2)]) Z Z Z Z Z Z<|aL<|aV<|bS Z<|dC 5 Z<|aA Z<|aA Z<|eT 0 Z<|By (A:=zI) (B:=Value×Value×List Value×List (List Value)) (vs:=[ad.1,vU (dD .u32 aq g.1),Value.agg #[vI (m.1),vI (m.2.1),vI (m.2.2.1),vI (m.2.2.2.1),vU (m.2.2.2.2)],vP M,vP N]) (λaz=>CC U s G R p4 g a3 aq m az=some r) (λaz V=>Value.tuple #[]) (λaz V=>[Ar cE V.1 (([]:LX)++([(m.1,m.2.1,m.2.2.1,m.2.2.2.1,m.2.2.2.2)])),KP cC V.2.2.1 V.2.2.2 az,Ar cY.raw V.2.1 V.2.2.1,bU aN [vI (m.1),vI (m.2.1),vI (m.2.2.1),vI (m.2.2.2.1),vU (m.2.2.2.2)] 49,Ar cY.raw ad.1 ad.2,kX cC ad.2 a3,bU aG Qa 78,bU aC Qa 78,bU a5 [vP a.1,a.2.1,vI (R),vU (g.1),Value.func (.func 52) #[] #[vP M,vP N]] 97,bU a2 Qa 78,bU ap [v7] 26,bU ao [vP a.1,a.2.1,vI (R),vU (g.1),Value.func (.func 52) #[] #[vP M,vP N]] 97,Ar pC a.2.1 g.2.1,bU a.1 [vS (s.1),u,v,vP a.2.2.1,a.2.2.2.1] 108,Ar cY.raw a.2.2.2.1 a.2.2.2.2.1,kX b_ a.2.2.2.2.1 g.2.2.1,bU a.2.2.1 [vS (s.1),u,v,E,D,vI (g.2.2.2.1),a.2.2.2.2.2.1] 137,Ar cY.raw a.2.2.2.2.2.1 a.2.2.2.2.2.2,kX cC a.2.2.2.2.2.2 g.2.2.2.2,bU N [V.1] 33,bU M [V.2.1] 32]) (λaz V=>[Sl aT u s.2.1,Sl aK v s.2.2,PF (Value.agg #[vS s.1,u,v]),Sl bN E G.1,S2 bD D z4 G.2,S2 bN v5 z6 p3,Sl zK v7 p4,Gb 0 (cellsOf HO xJ)]) (GT (us:=[ad.1,vU (dD .u32 aq g.1),Value.agg #[vI (m.1),vI (m.2.1),vI (m.2.2.1),vI (m.2.2.2.1),vU (m.2.2.2.2)]]) (cs:=[vP M,vP N]) (show aW Tryz.prog 52 from Tryz.call52) Z Z Z) Tryz.func52 Z Tryz.ntmps52 Z Z ?_ ?_
   ·refine aV<|aH (aM.box (cs:=[vI (m.1),vI (m.2.1),vI (m.2.2.1),vI (m.2.2.2.1),vU (m.2.2.2.2)]) Z Z) Z λc5=>aL<|aJ ?_;refine JR.start [0,0,2,6,15,31] 4 mixedOrders (by decide +kernel) ?_;refine JR.open (by exact rfl) ?_;refine jQ 19 Z<|bH Z<|fH h λbl cL h=>JR.loud Z Z Z (aM.callQ MD (yU U ad.1 (List.zip ad.2 a3) bl cL) Z (aF.cons (bO (i:=2) (j:=3) Z Z dM) .nil)) Z (λan=>(v_ [([21],[])] Z)) λan=>eN (Know.one (aE.sl (bO (i:=0) (j:=1) Z Z dM))) λbb=>JR.stp (AC cC)<|JR.stp (Sm 1 2 Z Z Z)<|JR.stp (Jn 0 1 Z Z Z) ?_;refine JR.loud Z Z Z (bW (e:=cY.raw) (([]:fV)++[an.1]) [(0,an.1)] Z Z Z Z (mR (an.1) bb) Z Z (by simp[cellsOf,cY.raw,bb])) Z (λcu=>(v_ [([21],[])] Z)) λcu=>?_;refine bP 4 Z Z<|iS (gJ cY.raw) (iS (AC cC) ?_);refine bZ (rQ 0 Z) λa8=>bZ (rQ 3 Z) λa9=>cX h λbe h=>iS (Jo 0 3 Z Z Z) ?_;refine aH (aM.append 1 2 Z Z Z Z Z Z Z (by have q:=be;have q1:=a8;have q2:=a9;(try simp only[List.length_cons,List.length_nil,List.length_append]at q q1 q2 ⊢);omega) (by have q:=be;have q1:=a8;have q2:=a9;(try simp only[List.length_cons,List.length_nil,List.length_append]at q q1 q2 ⊢);omega) Z) Z λcv=>?_;refine bZ (Jh 1 Z) λbF=>iG 22 Z Z bF Z Z Z<|aL<|aO<|dC 21 Z<|eT 3 Z<|aH (bW (e:=cE) ([((m.1,m.2.1,m.2.2.1,m.2.2.2.1,m.2.2.2.2))]) [(0,Value.agg #[vI (m.1),vI (m.2.1),vI (m.2.2.1),vI (m.2.2.2.1),vU (m.2.2.2.2)])] Z Z Z Z (OJ (vI (m.1)) (vI (m.2.1)) (vI (m.2.2.1)) (vI (m.2.2.2.1)) (vU (m.2.2.2.2))) Z Z Z) Z λdc=>iS (gJ cE)<|cX h λcj h=>aH (eO 0 dG Z Z Z (bB (aE.res 1 Z) dG) Z Z Z Z cj Z) Z λcw=>bZ (Know.one ((bB (aE.res 0 Z) dG))) λbI=>iG 23 Z Z bI Z Z Z<|eJ ?_;exact u_ (([]:zI)++(([]:zI)++[bl])) (cw,cv,(([]:fV)++(([]:fV)++[an.1])),(([]:List (List Value))++(([]:List (List Value))++[an.2]))) h (.inr Z) (Ha.r0 Z) Z (a_.ix [0,2,3,6,7,8,9,10,11,12,13,14,16,17,18,19,20,21,22,23,24] Z Z) (aF.refl _ _)
   intro az V h;refine aL<|aV<|bS Z<|dC 6 Z<|aA Z<|aH (bW (e:=pC) ([(dD .u32 aq g.1)]) [(0,vU (dD .u32 aq g.1))] Z Z Z Z (mR (vU (dD .u32 aq g.1)) Z) Z Z Z) Z λdi=>iS (gJ pC)<|cX h λcf h=>aH (eO 0 tR Z Z Z (bB (aE.res 1 Z) tR) Z Z Z Z cf Z) Z λcn=>bS Z<|bZ (Know.one ((bB (aE.res 0 Z) tR))) λbs=>iG 8 Z Z bs Z Z Z<|aL<|aJ<|DG (B:=Value×List Value×Value×Value×Value×Value×List Value×List (List Value)) (λn=>xF  n=some r) (λn p=>[(1,p.1),(8,vP aC),(10,vP aG),(12,vP aN)]) (λn p=>[Ar pC p.2.2.2.1 n.1,Ar cE p.2.2.2.2.1 n.2.2.2.2.2.2.2.2.1,KP cC p.2.2.2.2.2.2.1 p.2.2.2.2.2.2.2 n.2.2.2.2.2.2.2.2.2,Ar cY.raw p.2.2.2.2.2.1 p.2.2.2.2.2.2.1,bU aN [vI (n.2.1),vI (n.2.2.1),vI (n.2.2.2.1),vI (n.2.2.2.2.1),vU (n.2.2.2.2.2.1)] 49,Ar cY.raw p.1 p.2.1,kX cC p.2.1 n.2.2.2.2.2.2.1,bU aG [p.2.2.1,p.2.2.2.1,k_,vI (0:Int),vI (0:Int),vI (0:Int),vI (0:Int),vU (0:Int)] 78,bU aC Qa 78,bU a2 Qa 78,bU N [p.2.2.2.2.1] 33,bU M [p.2.2.2.2.2.1] 32,Ar pC p.2.2.1 n.2.2.2.2.2.2.2.1]) ?_ ?_
   ·refine aV<|aA Z<|aA Z<|aL<|aS<|iS (gJ pC)<|dU (B:=Value×List Value×Value×Value×Value×Value×List Value×List (List Value)) (sW U s G R p4 g) (λb d=>[(1,d.1),(3,Value.func (.func 82) #[] #[vP ao,vP ap]),(4,vP a5),(8,vP aC),(10,vP aG),(11,vU (b.1)),(12,vP aN),(39,vI (List.length p4:Int)),(40,vI (b.2.2.1))]) (λb d=>[Ar pC d.2.2.2.1 b.2.1,Ar cE d.2.2.2.2.1 b.2.2.2.2.2.2.2.2.2.2.1,KP cC d.2.2.2.2.2.2.1 d.2.2.2.2.2.2.2 b.2.2.2.2.2.2.2.2.2.2.2,Ar cY.raw d.2.2.2.2.2.1 d.2.2.2.2.2.2.1,bU aN [vI (b.2.2.2.1),vI (b.2.2.2.2.1),vI (b.2.2.2.2.2.1),vI (b.2.2.2.2.2.2.1),vU (b.2.2.2.2.2.2.2.1)] 49,Ar cY.raw d.1 d.2.1,kX cC d.2.1 b.2.2.2.2.2.2.2.2.1,bU aG [d.2.2.1,d.2.2.2.1,k_,vI (0:Int),vI (0:Int),vI (0:Int),vI (0:Int),vU (0:Int)] 78,bU aC Qa 78,bU a5 [vP a.1,a.2.1,vI (R),vU (g.1),Value.func (.func 52) #[] #[vP M,vP N]] 97,bU a2 Qa 78,bU ap [v7] 26,bU ao [vP a.1,a.2.1,vI (R),vU (g.1),Value.func (.func 52) #[] #[vP M,vP N]] 97,Ar pC a.2.1 g.2.1,bU a.1 [vS (s.1),u,v,vP a.2.2.1,a.2.2.2.1] 108,Ar cY.raw a.2.2.2.1 a.2.2.2.2.1,kX b_ a.2.2.2.2.1 g.2.2.1,bU a.2.2.1 [vS (s.1),u,v,E,D,vI (g.2.2.2.1),a.2.2.2.2.2.1] 137,Ar cY.raw a.2.2.2.2.2.1 a.2.2.2.2.2.2,kX cC a.2.2.2.2.2.2 g.2.2.2.2,bU N [d.2.2.2.2.1] 33,bU M [d.2.2.2.2.2.1] 32,Ar pC d.2.2.1 b.2.2.2.2.2.2.2.2.2.1]) ((dD .u32 aq g.1),(([]:aR)++([(dD .u32 aq g.1)])),(0:Int),m.1,m.2.1,m.2.2.1,m.2.2.2.1,m.2.2.2.2,a3,([]:aR),(([]:LX)++([(m.1,m.2.1,m.2.2.1,m.2.2.2.1,m.2.2.2.2)])),az) (ad.1,ad.2,(k_),cn,V.1,V.2.1,V.2.2.1,V.2.2.2) h SF (a_.ix [1,3,4,5,6,7,8,9,10,11,12,13,14,15,16,17,18,19,20,21,22,23,0] Z Z) ?_;intro bh b d h;refine aV<|cM Z<|aL<|aJ ?_;refine eX h Z (λh=>?_) λh=>?_
    ·refine cK<|aJ<|aS<|aV<|aA Z<|aD Z<|aL<|aV<|aA Z<|aA Z<|aA Z<|By (A:=Int) (B:=Unit) (vs:=[vI (b.2.2.1),vU (b.1),vP ao,vP ap]) (λO=>CE U s G R g b (bJ (sW U s G R p4 g) bh) O=some r) (λO a4=>Value.tuple #[vU (O),vB (decide (b.1≠(0:Int)))]) (λO a4=>[Ar pC d.2.2.2.1 b.2.1,Ar cE d.2.2.2.2.1 b.2.2.2.2.2.2.2.2.2.2.1,KP cC d.2.2.2.2.2.2.1 d.2.2.2.2.2.2.2 b.2.2.2.2.2.2.2.2.2.2.2,Ar cY.raw d.2.2.2.2.2.1 d.2.2.2.2.2.2.1,bU aN [vI (b.2.2.2.1),vI (b.2.2.2.2.1),vI (b.2.2.2.2.2.1),vI (b.2.2.2.2.2.2.1),vU (b.2.2.2.2.2.2.2.1)] 49,Ar cY.raw d.1 d.2.1,kX cC d.2.1 b.2.2.2.2.2.2.2.2.1,bU aG [d.2.2.1,d.2.2.2.1,k_,vI (0:Int),vI (0:Int),vI (0:Int),vI (0:Int),vU (0:Int)] 78,bU aC Qa 78,bU a5 [vP a.1,a.2.1,vI (R),vU (g.1),Value.func (.func 52) #[] #[vP M,vP N]] 97,bU a2 Qa 78,bU ap [v7] 26,bU ao [vP a.1,a.2.1,vI (R),vU (g.1),Value.func (.func 52) #[] #[vP M,vP N]] 97,Ar pC a.2.1 g.2.1,bU a.1 [vS (s.1),u,v,vP a.2.2.1,a.2.2.2.1] 108,Ar cY.raw a.2.2.2.1 a.2.2.2.2.1,kX b_ a.2.2.2.2.1 g.2.2.1,bU a.2.2.1 [vS (s.1),u,v,E,D,vI (g.2.2.2.1),a.2.2.2.2.2.1] 137,Ar cY.raw a.2.2.2.2.2.1 a.2.2.2.2.2.2,kX cC a.2.2.2.2.2.2 g.2.2.2.2,bU N [d.2.2.2.2.1] 33,bU M [d.2.2.2.2.2.1] 32,Ar pC d.2.2.1 b.2.2.2.2.2.2.2.2.2.1]) (λO a4=>[Sl aT u s.2.1,Sl aK v s.2.2,PF (Value.agg #[vS s.1,u,v]),Sl bN E G.1,S2 bD D z4 G.2,S2 bN v5 z6 p3,Sl zK v7 p4,Gb 0 (cellsOf HO xJ)]) (GT (us:=[vI (b.2.2.1),vU (b.1)]) (cs:=[vP ao,vP ap]) (show aW Tryz.prog 82 from Tryz.call82) Z Z Z) Tryz.func82 Z Tryz.ntmps82 Z Z ?_ ?_
     ·refine aV<|aD Z<|aD Z<|aL<|aJ ?_;refine JR.start [0,1,0,4,0,0,0,96,224,511,0,1024,1023,8191] 13 mixedOrders (by decide +kernel) ?_;refine JR.open (by exact rfl) ?_;refine dB Z<|jQ 12 Z<|dB Z<|jQ 12 Z<|bH Z<|jQ 11 Z<|bH Z<|cX h λbd h=>bL Z .nil (lR 6 Z) (aY Z Z (aE.fact 0 Z) Z Z bd) aP.z<|bL Z .nil (lR 6 Z) (bV Z (aE.fact 0 Z) Z Z Z G_ bd) aP.z<|fH h λbk cI h=>JR.loud Z Z Z (aM.callQ Wt (xH U a.2.1 bk cI) Z (aF.cons (bB (aE.res 13 Z) tR) (pO [7] Z))) Z (λcU=>(v_ [] Z)) λcU=>iF Z (gQ Z)<|iF Z (Dq Z Z)<|iF Z (lY Z)<|bP 13 Z Z<|aD Z<|aL<|aU ?_;exact u_ (bk) () h (.inl Z) (Ha.r2 Z (RV.tmp Z) (RV.tmp Z)) Z (a_.refl _) (aF.refl _ _)
     intro O a4 h;refine aA Z<|iW Z<|iW Z<|aD Z<|aD Z<|aL<|aJ<|aV<|aA Z<|aB (acs Z) Z<|aL ?_;refine eX h Z (λh=>?_) λh=>?_
     ·refine rA<|eM<|Zk Z<|eM<|eM<|xN<|Bg ?_;exact cH (b.2.1,b.2.2.2.1,b.2.2.2.2.1,b.2.2.2.2.2.1,b.2.2.2.2.2.2.1,b.2.2.2.2.2.2.2.1,b.2.2.2.2.2.2.2.2.1,b.2.2.2.2.2.2.2.2.2.1,b.2.2.2.2.2.2.2.2.2.2.1,b.2.2.2.2.2.2.2.2.2.2.2) (d.1,d.2.1,d.2.2.1,d.2.2.2.1,d.2.2.2.2.1,d.2.2.2.2.2.1,d.2.2.2.2.2.2.1,d.2.2.2.2.2.2.2) h SF (a_.ix [0,1,2,3,4,5,6,7,8,10,20,21,22] Z Z) (aF.refl _ _)
     refine cK<|aJ<|aV<|bS Z<|dC 9 Z<|bS Z<|dC 9 Z<|aA Z<|aA Z<|fH h λcm cy h=>aH (aM.callQ Sw (xG U a.2.1 cm cy) Z (aF.cons (bB (aE.res 13 Z) tR) (pO [7] Z))) Z λde=>aB (nR Z) Z<|aL ?_;refine Ai h Z (λ_ h=>?_) λ_ h=>?_
     ·refine aV ?_;refine aB (Ms (r:=Value.agg #[k_,k_,k_,vI (0:Int),vI (0:Int),vI (0:Int),vI (0:Int),vU (0:Int)]) (by intro w;simp[Instr.build,Instr.fill,fD,eD,dJ,fE,fF,eF,gK])) Z ?_;refine bT 8 (vs:=Qa) Z Z Z Z Z Z<|aD Z<|aL<|aU<|aI<|bK<|aI<|aI<|bK<|aI<|iS (gJ pC)<|iS (gJ pC)<|iS (gJ cY.raw) (iS (Dm cC) ?_);exact u_ (b.2.2.2.2.2.2.2.2.2.2.1,b.2.2.2.2.2.2.2.2.2.2.2,([]:aR),([]:aR),([]:bG),(0:Int),(0:Int),(0:Int),(0:Int),(0:Int),(11:Int)) (d.2.2.2.2.1,d.2.2.2.2.2.1,d.2.2.2.2.2.2.1,d.2.2.2.2.2.2.2,(k_),(k_),(k_),([]:fV)) h (.inl Z) (Ha.r2 Z (RV.cell 12 Z Z Z Z) (RV.tmp Z)) Z (a_.ix [5,6,7,14,24,25,2,3,1,0] Z Z) (aF.refl _ _)
     refine cK<|aV<|bS Z<|dC 9 Z<|aA Z<|aA Z<|fH h λal cz h=>aH (aM.callQ ZJ (DV U a.1 u v a.2.2.1 u v E D z4 a.2.2.2.2.2.1 (List.zip a.2.2.2.2.2.2 g.2.2.2.2) a.2.2.2.1 (List.zip a.2.2.2.2.1 g.2.2.1) d.1 (List.zip d.2.1 b.2.2.2.2.2.2.2.2.1) al cz) Z (aF.cons (aE.res 14 Z) (aF.cons (aE.fact 0 Z) (aF.cons (aE.fact 1 Z) (aF.cons (aE.res 17 Z) (aF.cons (aE.fact 0 Z) (aF.cons (aE.fact 1 Z) (aF.cons (aE.fact 3 Z) (aF.cons (aE.fact 4 Z) (aF.cons (bO (i:=18) (j:=19) Z Z dM) (aF.cons (bO (i:=15) (j:=16) Z Z bQ) (aF.cons (bO (i:=5) (j:=6) Z Z dM) .nil)))))))))))) Z λQ=>aD Z<|aL<|aJ ?_;refine JR.start [0,1,0,7,0,16,63,127] 6 mixedOrders (by decide +kernel) ?_;refine JR.open (by exact rfl) ?_;refine dB Z<|jQ 11 Z<|bH Z<|fH h λW cB h=>JR.loud Z Z Z (aM.callQ Wm (vV U a.1 u v a.2.2.1 u v E D z4 a.2.2.2.2.2.1 (List.zip a.2.2.2.2.2.2 g.2.2.2.2) a.2.2.2.1 (List.zip a.2.2.2.2.1 g.2.2.1) Q.1 (List.zip Q.2 al) W cB) Z (aF.cons (aE.res 16 Z) (aF.cons (aE.fact 0 Z) (aF.cons (aE.fact 1 Z) (aF.cons (aE.res 19 Z) (aF.cons (aE.fact 0 Z) (aF.cons (aE.fact 1 Z) (aF.cons (aE.fact 3 Z) (aF.cons (aE.fact 4 Z) (aF.cons (bO (i:=20) (j:=21) Z Z dM) (aF.cons (bO (i:=17) (j:=18) Z Z bQ) (aF.cons (bO (i:=0) (j:=1) Z Z dM) .nil)))))))))))) Z (λcT=>(v_ [] Z)) λcT=>iF Z (dO Z Z Z Z Z)<|bL Z (a_.cons 11 Z .nil) .nil (eW 0 Z Z Z Z Z) (aP.h (a_.ix [11] Z Z) .nil aP.z)<|bP 6 Z Z<|Aa Z<|aD Z<|aL<|aV<|eT 6 Z<|aA Z<|aA Z<|fH h λf cD h=>aH (aM.callQ ZK (KU U  f cD) Z .nil) Z λdf=>aA Z<|iW Z<|iW Z<|bT 6 (vs:=[vI (f.1.1),vI (f.1.2.1),vI (f.1.2.2.1),vI (f.1.2.2.2.1),vU (f.1.2.2.2.2)]) Z Z Z Z Z Z<|aL<|aV<|bS Z<|dC 11 Z<|aA Z<|aA Z<|eT 6 Z<|By (A:=zI) (B:=Value×Value×List Value×List (List Value)) (vs:=[Q.1,vU (dD .u32 W g.1),Value.agg #[vI (f.1.1),vI (f.1.2.1),vI (f.1.2.2.1),vI (f.1.2.2.2.1),vU (f.1.2.2.2.2)],vP M,vP N]) (λac=>CF g b (bJ (sW U s G R p4 g) bh) O al W f ac=some r) (λac H=>Value.tuple #[]) (λac H=>[Ar cY.raw Q.1 Q.2,kX cC Q.2 al,Ar pC d.2.2.2.1 b.2.1,Ar cE H.1 (b.2.2.2.2.2.2.2.2.2.2.1++([(f.1.1,f.1.2.1,f.1.2.2.1,f.1.2.2.2.1,f.1.2.2.2.2)])),KP cC H.2.2.1 H.2.2.2 ac,Ar cY.raw H.2.1 H.2.2.1,bU aN [vI (f.1.1),vI (f.1.2.1),vI (f.1.2.2.1),vI (f.1.2.2.2.1),vU (f.1.2.2.2.2)] 49,bU aG [d.2.2.1,d.2.2.2.1,k_,vI (0:Int),vI (0:Int),vI (0:Int),vI (0:Int),vU (0:Int)] 78,bU aC Qa 78,bU a5 [vP a.1,a.2.1,vI (R),vU (g.1),Value.func (.func 52) #[] #[vP M,vP N]] 97,bU a2 Qa 78,bU ap [v7] 26,bU ao [vP a.1,a.2.1,vI (R),vU (g.1),Value.func (.func 52) #[] #[vP M,vP N]] 97,Ar pC a.2.1 g.2.1,bU a.1 [vS (s.1),u,v,vP a.2.2.1,a.2.2.2.1] 108,Ar cY.raw a.2.2.2.1 a.2.2.2.2.1,kX b_ a.2.2.2.2.1 g.2.2.1,bU a.2.2.1 [vS (s.1),u,v,E,D,vI (g.2.2.2.1),a.2.2.2.2.2.1] 137,Ar cY.raw a.2.2.2.2.2.1 a.2.2.2.2.2.2,kX cC a.2.2.2.2.2.2 g.2.2.2.2,bU N [H.1] 33,bU M [H.2.1] 32,Ar pC d.2.2.1 b.2.2.2.2.2.2.2.2.2.1]) (λac H=>[Sl aT u s.2.1,Sl aK v s.2.2,PF (Value.agg #[vS s.1,u,v]),Sl bN E G.1,S2 bD D z4 G.2,S2 bN v5 z6 p3,Sl zK v7 p4,Gb 0 (cellsOf HO xJ)]) (GT (us:=[Q.1,vU (dD .u32 W g.1),Value.agg #[vI (f.1.1),vI (f.1.2.1),vI (f.1.2.2.1),vI (f.1.2.2.2.1),vU (f.1.2.2.2.2)]]) (cs:=[vP M,vP N]) (show aW Tryz.prog 52 from Tryz.call52) Z Z Z) Tryz.func52 Z Tryz.ntmps52 Z Z ?_ ?_
     ·refine aV<|aH (aM.box (cs:=[vI (f.1.1),vI (f.1.2.1),vI (f.1.2.2.1),vI (f.1.2.2.2.1),vU (f.1.2.2.2.2)]) Z Z) Z λc4=>aL<|aJ ?_;refine JR.start [0,0,2,6,15,31] 4 mixedOrders (by decide +kernel) ?_;refine JR.open (by exact rfl) ?_;refine jQ 24 Z<|bH Z<|fH h λbj cG h=>JR.loud Z Z Z (aM.callQ MD (yU U Q.1 (List.zip Q.2 al) bj cG) Z (aF.cons (bO (i:=1) (j:=2) Z Z dM) .nil)) Z (λam=>(v_ [([26],[])] Z)) λam=>eN (Know.one (aE.sl (bO (i:=0) (j:=1) Z Z dM))) λba=>JR.stp (AC cC)<|JR.stp (Sm 1 2 Z Z Z)<|JR.stp (Jn 0 1 Z Z Z) ?_;refine JR.loud Z Z Z (bW (e:=cY.raw) (([]:fV)++[am.1]) [(0,am.1)] Z Z Z Z (mR (am.1) ba) Z Z (by simp[cellsOf,cY.raw,ba])) Z (λcq=>(v_ [([26],[])] Z)) λcq=>?_;refine bP 4 Z Z<|bZ (rQ 7 Z) λa6=>bZ (rQ 1 Z) λa7=>cX h λbc h=>iS (Jo 7 1 Z Z Z) ?_;refine aH (aM.append 7 0 Z Z Z Z Z Z Z (by have q:=bc;have q1:=a6;have q2:=a7;(try simp only[List.length_cons,List.length_nil,List.length_append]at q q1 q2 ⊢);omega) (by have q:=bc;have q1:=a6;have q2:=a7;(try simp only[List.length_cons,List.length_nil,List.length_append]at q q1 q2 ⊢);omega) Z) Z λcr=>?_;refine bZ (Jh 7 Z) λbC=>iG 25 Z Z bC Z Z Z<|aL<|aO<|dC 24 Z<|eT 1 Z<|aH (bW (e:=cE) ([((f.1.1,f.1.2.1,f.1.2.2.1,f.1.2.2.2.1,f.1.2.2.2.2))]) [(0,Value.agg #[vI (f.1.1),vI (f.1.2.1),vI (f.1.2.2.1),vI (f.1.2.2.2.1),vU (f.1.2.2.2.2)])] Z Z Z Z (OJ (vI (f.1.1)) (vI (f.1.2.1)) (vI (f.1.2.2.1)) (vI (f.1.2.2.2.1)) (vU (f.1.2.2.2.2))) Z Z Z) Z λdb=>cX h λci h=>aH (eO 6 dG Z Z Z (bB (aE.res 0 Z) dG) Z Z Z Z ci Z) Z λct=>bZ (Know.one ((bB (aE.res 6 Z) dG))) λbE=>iG 25 Z Z bE Z Z Z<|eJ ?_;exact u_ (b.2.2.2.2.2.2.2.2.2.2.2++(([]:zI)++[bj])) (ct,cr,(d.2.2.2.2.2.2.1++(([]:fV)++[am.1])),(d.2.2.2.2.2.2.2++(([]:List (List Value))++[am.2]))) h (.inr Z) (Ha.r0 Z) Z (a_.ix [3,4,5,6,7,8,9,12,13,14,15,16,17,18,19,20,21,22,23,24,25,26,27] Z Z) (aF.refl _ _)
     intro ac H h;refine aL<|aV<|bS Z<|dC 7 Z<|aA Z<|aH (bW (e:=pC) ([O]) [(0,vU (O))] Z Z Z Z (mR (vU (O)) Z) Z Z Z) Z λc9=>cX h λcg h=>aH (eO 23 tR Z Z Z (bB (aE.res 0 Z) tR) Z Z Z Z cg Z) Z λco=>bS Z<|bZ (Know.one ((bB (aE.res 23 Z) tR))) λbz=>iG 8 Z Z bz Z Z Z<|aL<|aO<|bS Z<|dC 8 Z<|aA Z<|aH (bW (e:=pC) ([(dD .u32 W g.1)]) [(0,vU (dD .u32 W g.1))] Z Z Z Z (mR (vU (dD .u32 W g.1)) Z) Z Z Z) Z λda=>cX h λch h=>aH (eO 4 tR Z Z Z (bB (aE.res 0 Z) tR) Z Z Z Z ch Z) Z λcp=>bS Z<|bZ (Know.one ((bB (aE.res 4 Z) tR))) λbA=>iG 9 Z Z bA Z Z Z<|eJ<|mI<|aO<|cJ Z<|aA Z<|aL ?_;exact mL ((dD .u32 W g.1),(b.2.1++([(dD .u32 W g.1)])),(wI .i64 (b.2.2.1+(1:Int))),f.1.1,f.1.2.1,f.1.2.2.1,f.1.2.2.2.1,f.1.2.2.2.2,al,(b.2.2.2.2.2.2.2.2.2.1++[O]),(b.2.2.2.2.2.2.2.2.2.2.1++([(f.1.1,f.1.2.1,f.1.2.2.1,f.1.2.2.2.1,f.1.2.2.2.2)])),ac) (Q.1,Q.2,co,cp,H.1,H.2.1,H.2.2.1,H.2.2.2) h SF (a_.ix [4,5,6,7,8,2,3,9,10,11,12,13,14,15,16,17,18,19,20,21,22,23,24] Z Z) (aF.refl _ _)
    refine fC ?_;exact cH (b.2.1,b.2.2.2.1,b.2.2.2.2.1,b.2.2.2.2.2.1,b.2.2.2.2.2.2.1,b.2.2.2.2.2.2.2.1,b.2.2.2.2.2.2.2.2.1,b.2.2.2.2.2.2.2.2.2.1,b.2.2.2.2.2.2.2.2.2.2.1,b.2.2.2.2.2.2.2.2.2.2.2) (d.1,d.2.1,d.2.2.1,d.2.2.2.1,d.2.2.2.2.1,d.2.2.2.2.2.1,d.2.2.2.2.2.2.1,d.2.2.2.2.2.2.2) h SF (a_.ix [0,1,2,3,4,5,6,7,8,10,20,21,22] Z Z) (aF.refl _ _)
   intro n p h;unfold xF at h;refine aJ ?_;refine JR.start [0,0,1,5,15,31] 4 mixedOrders (by decide +kernel) ?_;refine JR.open (by exact rfl) ?_;refine bH Z<|pY 4 Z<|dB Z<|eN (Know.one (aE.sl (bO (i:=5) (j:=6) Z Z dM))) λbt=>Dj Z Z Z (NT 7 Z Z bt Z Z Z) (λcS=>(v_ [([4],[])] Z)) λcS=>bP 4 Z Z<|bS Z<|IA (Jk 7 (us:=[vI (n.2.1),vI (n.2.2.1),vI (n.2.2.2.1),vI (n.2.2.2.2.1),vU (n.2.2.2.2.2.1)]) Z Z Z Z Z Z Z Z Z) λdd=>aL<|aV<|eT 7 Z<|bZ (Know.one ((bB (aE.res 12 Z) tR))) λbu=>bZ (Know.one ((bB (aE.res 0 Z) tR))) λbw=>bZ (Know.one (aE.sl (bO (i:=5) (j:=6) Z Z dM))) λbx=>bT 8 (vs:=[p.2.2.1,p.2.2.2.1,p.1,vI (n.2.1),vI (n.2.2.1),vI (n.2.2.2.1),vI (n.2.2.2.2.1),vU (n.2.2.2.2.2.1)]) Z Z (kY bu (kY bw (kY bx (kY Z (kY Z (kY Z (kY Z (kY Z Z)))))))) Z Z Z<|aD Z<|aL<|aU ?_;exact u_ (n.2.2.2.2.2.2.2.2.1,n.2.2.2.2.2.2.2.2.2,n.2.2.2.2.2.2.2.1,n.1,n.2.2.2.2.2.2.1,n.2.1,n.2.2.1,n.2.2.2.1,n.2.2.2.2.1,n.2.2.2.2.2.1,(0:Int)) (p.2.2.2.2.1,p.2.2.2.2.2.1,p.2.2.2.2.2.2.1,p.2.2.2.2.2.2.2,p.2.2.1,p.2.2.2.1,p.1,p.2.1) h (.inl Z) (Ha.r2 Z (RV.cell 8 Z Z Z Z) (RV.tmp Z)) Z (a_.ix [1,2,3,9,10,11,12,0,5,6] Z Z) (aF.refl _ _)
  intro y C h;unfold Aw at h;refine iW Z<|iW Z<|bZ (Know.one ((bB (aE.res 6 Z) tR))) λcc=>bZ (Know.one ((bB (aE.res 7 Z) tR))) λcd=>bZ (Know.one (aE.sl (bO (i:=8) (j:=9) Z Z dM))) λce=>bT 3 (vs:=[C.2.2.2.2.1,C.2.2.2.2.2.1,C.2.2.2.2.2.2.1,vI (y.2.2.2.2.2.1),vI (y.2.2.2.2.2.2.1),vI (y.2.2.2.2.2.2.2.1),vI (y.2.2.2.2.2.2.2.2.1),vU (y.2.2.2.2.2.2.2.2.2.1)]) Z Z (kY cc (kY cd (kY ce (kY Z (kY Z (kY Z (kY Z (kY Z Z)))))))) Z Z Z<|aD Z<|aL<|aU ?_;exact u_ (y.2.2.2.2.2.1,y.2.2.2.2.2.2.1,y.2.2.2.2.2.2.2.1,y.2.2.2.2.2.2.2.2.1,y.2.2.2.2.2.2.2.2.2.1,y.2.2.2.2.2.2.2.2.2.2,y.2.2.1,y.2.2.2.1,y.2.2.2.2.1,y.1,y.2.1) (C.2.2.2.2.1,C.2.2.2.2.2.1,C.2.2.2.2.2.2.1,C.1,C.2.1,C.2.2.2.2.2.2.2,C.2.2.1,C.2.2.2.1) h (.inl Z) (Ha.r2 Z (RV.cell 3 Z Z Z Z) (RV.tmp Z)) Z (a_.ix [0,1,2,4,5,6,7,8,9] Z Z) (aF.refl _ _)
 intro J F h;refine aA Z<|iW Z<|iW Z<|aH (aM.alloc (cs:=Qa) Z Z) Z λdh=>bZ (Know.one ((bB (aE.res 6 Z) tR))) λb6=>bZ (Know.one ((bB (aE.res 7 Z) tR))) λb9=>bZ (Know.one (aE.sl (bO (i:=8) (j:=9) Z Z dM))) λca=>bT 0 (vs:=[F.1,F.2.1,F.2.2.1,vI (J.1),vI (J.2.1),vI (J.2.2.1),vI (J.2.2.2.1),vU (J.2.2.2.2.1)]) Z Z (kY b6 (kY b9 (kY ca (kY Z (kY Z (kY Z (kY Z (kY Z Z)))))))) Z Z Z<|aD Z<|aL<|aV<|aA Z<|p_ Z<|aL ?_;refine eX h Z (λh=>?_) λh=>?_
 ·refine aV<|aA Z<|aD Z<|aD Z<|aD Z<|aL<|aU<|aI<|iS (gJ cY.raw) (iS (AC cC) ?_);refine iS (gJ cE) ?_;cases h;exact IC ((k_),([]:fV),([]:List (List Value)),(k_)) Z Z (RV.tmp Z) (RV.tmp Z) (RV.tmp Z) (a_.ix [2,1,0] Z Z) aF.nil
 refine cK<|aJ ?_;refine JR.start [0,0,1,7,15] 3 mixedOrders (by decide +kernel) ?_;refine JR.open (by exact rfl) ?_;refine jQ 5 Z<|jQ 4 Z<|iF Z (lY Z)<|bP 3 Z Z<|aD Z<|aD Z<|aL<|aU ?_;cases h;exact IC (F.2.2.2.2.1,F.2.2.2.2.2.2.1,F.2.2.2.2.2.2.2,F.2.2.2.1) Z Z (RV.tmp Z) (RV.tmp Z) (RV.tmp Z) (a_.ix [3,2,1] Z Z) aF.nil
end Go.Proofs.YtmdlcmbplnhdnaaGreatDoor
namespace Go.Proofs.YtmdlcmbplnhdnaaGreatDoor
open Go Go.Sx
theorem U_ {g:GR} (e:VG g) (p:tB) (b:Int) (c:bG) (o:aR):
  bJ (oJ 1000 p g b c o) 1000 ((0:Int),(0:Int),(List.replicate (Int.toNat (List.length g.2:Int)) ([]:aR)))=t_ 1000 p g b c o (kA g g.2.length,fL g):=by
 have z:=e.n24;have s:=e.len;let f:Nat->aR:=λv=>(List.range (row g v).length).map (CU g v);let Q:Nat->bG:=λk=>(List.range k).map f++List.replicate (g.2.length - k) [];have q:∀k,k<=g.2.length->(Q k).length=g.2.length:=λk i=>by simp[Q];omega
 rw[show List.replicate (Int.toNat (List.length g.2:Int)) ([]:aR)=Q 0 by simp[Q]];refine eY (step:=oJ 1000 p g b c o) g.2.length (λk=>((k:Int),kA g k,Q k)) (λk d i=> ?_) (λd=> ?_) 1000 (by omega)
 ·have r:=(e.node k i).deg;have t:k<(Q k).length:=by rw[q k (by omega)];exact i
  unfold oJ;dsimp only;rw[if_pos (by omega),cD (by omega),cD (by omega)];let a:Nat->aR:=λj=>(List.range j).map (CU g k);have y:Q k=(Q k).set k (a 0):=by
   have:at' (Q k) (k:Int)=a 0:=by
    rw[lV t];simp[Q,a]
   rw[<-this];exact(Ku (Q k) (k:Int) (by simpa using t) (by omega)).symm
  rw[show(Q k)=(Q k).set k (a 0)from y];have h:∀A:bG,A.length=g.2.length->bJ (sX 1000 g ((k:Int),kA g k,(Q k).set k (a 0)) d) 1000 ((0:Int),A.set k (a 0))=d (((k+1:Nat):Int),kA g (k+1),A.set k (f k)):=by
   intro A D;refine eY (step:=sX 1000 g ((k:Int),kA g k,(Q k).set k (a 0)) d) (K:=d (((k+1:Nat):Int),kA g (k+1),A.set k (f k))) (row g k).length (λj=>((j:Int),A.set k (a j))) (λj m C=> ?_) (λm=> ?_) 1000 (by omega)
   ·obtain⟨u,w,l⟩:=e.to i C;have B:=(e.node u w).deg;have x:at' (A.set k (a j)) (k:Int)=a j:=by rw[tF _ _ _ _ (by omega),if_pos Z]
    have n:(a j).length=j:=by simp[a]
    unfold sX;dsimp only;rw[if_pos (show(j:Int)<((row g k).length:Int) by omega),cD (show 0<=(j:Int)∧(j:Int)<((row g k).length:Int) by omega),cD (by simp only[List.length_set];omega),show at' (at' g.2 (k:Int)) (j:Int)=gH (row g k) j from rfl,l,bE (show r_ 1000 _ (u:Int) (k:Int)=_ from UT g u (k:Int) w (by omega)),x,cD (by rw[n];simp;omega),cD (by simp only[List.length_set];omega),fN (by omega),Int.toNat_natCast,List.set_set];have:a j++[AN (row g u) (k:Int)]=a (j+1):=by
     simp only[a];rw[List.range_succ,List.map_append,List.map_singleton,CU,l,Int.toNat_natCast]
    rw[this]
   ·unfold sX yQ;dsimp only;rw[if_neg (show¬((row g k).length:Int)<((row g k).length:Int)from Int.lt_irrefl _),fN (by omega)];rfl
  have:=h (Q k) (q k (by omega));rw[yO f [] g.2.length k i]at this;exact this
 ·unfold oJ;dsimp only;rw[if_neg (by omega)];simp[Q,fL,f]
noncomputable def JG (p:tB) (vars:List Df) (R:List RL) (g:GR) (kind:Int) (ws:aR) (a:bG):Nat->CT
 |0=>(0,0,0,0,dD .u32 ((oS (aQ p g) R (eH g) a:Nat):Int) 16777215)
 |k+1=>((fR 1000 (JG p vars R g kind ws a k) ((nxt g kind (oS (aQ p g) R (eH g) (Cz p vars R g kind ws a k)) (at' ws (k:Int)):Nat):Int) ((oS (aQ p g) R (eH g) (Cz p vars R g kind ws a (k+1)):Nat):Int)).getD ((0,0,0,0,0),0)).1
theorem ado (p p':tB) (vars:List Df) (R:List RL) (g:GR) (kind:Int) (ws:aR) (a:bG) (k:Nat):JG p vars R g kind ws a k=JG p' vars R g kind ws a k:=by
 induction k with
 |zero=>rfl
 |succ k b=>rw[JG,JG,b,Kt p p',Kt p p' vars R g kind ws a (k+1),OH p p',OH p p']
section
variable {p:tB} {g:GR} {R:List RL}
theorem YZ (hV:VG g) (hp:tC g p.2.1) (hz:p.2.2.map Al=Fj R) (hR:yH p.2.1.length R=true) {kind:Int} (hk1:1<=kind) (hk4:kind<=4) {c0:List (List Int)} (hc0:Bb g c0 p.2.1) {ws:List Int} (hws:ws.length<=900) (hw:∀k:Nat,k<ws.length->∃m:Nat,at' ws (k:Int)=(m:Int)∧m<4294967296)
  (P:Nat->List (List Int)->List Nat->CT->Prop) (h0:P 0 c0 [] (0,0,0,0,dD .u32 ((oS (aQ p g) R (eH g) c0:Nat):Int) 16777215))
  (hstep:∀k c ch cnt t cnt' err,k<ws.length->z_ g p.2.1.length c->P k c ch cnt->oS (aQ p g) R (eH g) c≠0->t≠0->(∀i,t.testBit i=true->(oS (aQ p g) R (eH g) c).testBit i=true)->(kind<=2->∀v u,t.testBit v=true->t.testBit u=true->¬KM g v u)->(kind=4->t=oS (aQ p g) R (eH g) c)->Cz p p.2.1 R g kind ws c0 (k+1)=iA (aQ p g) p.2.1 R c t->
   fR 1000 cnt (t:Int) ((oS (aQ p g) R (eH g) (iA (aQ p g) p.2.1 R c t):Nat):Int)=some (cnt',err)->cnt'=JG p p.2.1 R g kind ws c0 (k+1)->P (k+1) (iA (aQ p g) p.2.1 R c t) (ch++[t]) cnt'):
  ∃k c ch,vQ 1000 p g kind c0 ws=some ((List.range (k+1)).map (Cz p p.2.1 R g kind ws c0),(List.range (k+1)).map (JG p p.2.1 R g kind ws c0),0)∧P k c ch (JG p p.2.1 R g kind ws c0 k)∧c=Cz p p.2.1 R g kind ws c0 k∧k<=ws.length∧(∀j,j<k->oS (aQ p g) R (eH g) (Cz p p.2.1 R g kind ws c0 j)≠0)∧(k=ws.length∨oS (aQ p g) R (eH g) c=0):=by
 have h24:=hV.n24;have hvl:=hp.len;let S:=aQ p g;have hVS:VG S.2.1:=hV;obtain⟨net,hnet,hN⟩:=adV hV;have hcheck:zE 1000 p g kind c0 (ws.length:Int)=some 0:=by
  unfold zE;rw[bE (show sA 1000 _ _ c0=_ from Wy hV hp hc0),if_neg (by decide)];have:wO 1000 kind=some true:=by
   unfold wO qP;rw[if_pos hk1,decide_eq_true hk4]
  rw[bE this,if_neg (by decide),if_neg (by omega)]
 unfold vQ;rw[bE (show zE 1000 _ _ kind c0 _=_ from hcheck),if_neg (by decide),cD (by omega),U_ hV p kind c0 ws];unfold t_ Ay;rw[bE (show mZ 1000 _ _=_ from PU hV hp)];unfold Ax;rw[bE (show nW 1000 _=_ from hnet),bE (show zD 1000 _=some ((eH g:Nat):Int)from acu hV)];have hen:∀c,z_ g p.2.1.length c->eG 1000 (p,(p,g,kA g g.2.length,fL g),CO g p.2.1) c=some ((enD S R c:Nat):Int):=λc hc=>Rb hV hc hz hR (by simp[CO]);have hand:∀c,dD .u32 ((enD S R c:Nat):Int) ((eH g:Nat):Int)=((oS S R (eH g) c:Nat):Int):=λc=>CS (adt hVS R c) (Zz hV);have hcopy:∀c,z_ g p.2.1.length c->mF 1000 c=some c:=λc hc=>SK c (by rw[hc.len];omega) (λv hv=>by rw[hc.row v (by rw[<-hc.len];exact hv)];omega);unfold CB;dsimp only;rw[bE (hcopy c0 hc0.shape),bE (show eG 1000 _ c0=_ from hen c0 hc0.shape),hand,bE (show uO 1000 _=some (0,0,0,0,dD .u32 ((oS S R (eH g) c0:Nat):Int) 16777215)from rfl),bE (hcopy c0 hc0.shape),cD (by simp),cD (by simp)];unfold CC;dsimp only;rw[hand,cD (by simp),List.nil_append,List.nil_append,List.nil_append,List.nil_append];let A:Int×List Int×(List (List (Int×Int)))×Int×List (List Int):=(((eH g:Nat):Int),net,CO g p.2.1,kA g g.2.length,fL g)
 let rc:=Cz p p.2.1 R g kind ws c0;let cw:=JG p p.2.1 R g kind ws c0;let T:=List (List (List Int))×List CT×Int;let QQ:T->Prop:=λr=>∃k c ch,r=((List.range (k+1)).map rc,(List.range (k+1)).map cw,0)∧P k c ch (cw k)∧c=rc k∧k<=ws.length∧(∀j,j<k->oS S R (eH g) (rc j)≠0)∧(k=ws.length∨oS S R (eH g) c=0)
 have fin:∀(k:Nat) (c:List (List Int)) (ch:List Nat) (ens:List Int),P k c ch (cw k)->c=rc k->k<=ws.length->(∀j,j<k->oS S R (eH g) (rc j)≠0)->(k=ws.length∨oS S R (eH g) c=0)->
   OK QQ (xF (ens,(cw k).1,(cw k).2.1,(cw k).2.2.1,(cw k).2.2.2.1,(cw k).2.2.2.2,c,aaL ch,(List.range (k+1)).map cw,(List.range (k+1)).map rc)):=λk c ch ens a1 a2 a3 a6 a7=>⟨_,rfl,k,c,ch,rfl,a1,a2,a3,a6,a7⟩
 have key:=uN (step:=sW 1000 p g kind ws A) (Q:=QQ)
  (λx=>∃(k:Nat) (c:List (List Int)) (ch:List Nat) (ens:List Int),x=(((oS S R (eH g) c:Nat):Int),ens,(k:Int),(cw k).1,(cw k).2.1,(cw k).2.2.1,(cw k).2.2.2.1,(cw k).2.2.2.2,c,aaL ch,(List.range (k+1)).map cw,(List.range (k+1)).map rc)∧P k c ch (cw k)∧z_ g p.2.1.length c∧c=rc k∧k<=ws.length∧ch.length=k∧ens.length=k+1∧∀j,j<k->oS S R (eH g) (rc j)≠0) (λx=>ws.length - x.2.2.1.toNat) (λx ag hI hrec=>by
  obtain⟨k,c,ch,ens,rfl,b1,b2,b3,b4,b5,b6,b9⟩:=hI;unfold sW;dsimp only;by_cases hlt:k<ws.length
  rotate_left
  ·rw[if_neg (by omega)];exact fin k c ch ens b1 b3 b4 b9 (.inl (by omega))
  obtain⟨w,hwe,hw32⟩:=hw k hlt;have hin:NI g (oS S R (eH g) c):=Hg S R (eH g) c;obtain⟨t,ht,hsub,hne⟩:=RJ hV hN hk1 hk4 hin hw32;rw[if_pos (by omega),cD (by omega),hwe,bE (show eR 1000 net kind _ _=_ from ht)];unfold CE;dsimp only;by_cases he0:oS S R (eH g) c=0
  ·rw[if_pos (by omega)];exact fin k c ch ens b1 b3 b4 b9 (.inr he0)
  obtain⟨ht0,hperm,hk2,hk4'⟩:=hne he0;have ht32:t<4294967296:=by have:=NI.lt hV (λi hi=>hin i (hsub i hi));omega
  rw[if_neg (by omega),bE (show fP 1000 net kind _ _=_ from hperm),if_neg (by decide)];have hst:jJ 1000 (p,(p,g,kA g g.2.length,fL g),CO g p.2.1) c (t:Int)=some (iA S p.2.1 R c t):=abn (gr:=kA g g.2.length) hV hp b2 hz hR ht32 (λv hv=>((MP S R (eH g) c v).1 (hsub v hv)).2.1);have hsh:z_ g p.2.1.length (iA S p.2.1 R c t):=b2.step;obtain⟨⟨cnt',err⟩,hadd⟩:=VX (cw k) ht32 ((oS S R (eH g) (iA S p.2.1 R c t):Nat):Int);rw[bE (show jJ 1000 _ c (t:Int)=_ from hst),bE (show eG 1000 _ _=_ from hen _ hsh),hand,bE (show fR 1000 _ (t:Int) _=_ from hadd),bE (hcopy _ hsh),cD (by simp;omega),cD (by simp;omega)];unfold CF;dsimp only;rw[hand,cD (by simp[aaL];omega),cD (by simp;omega),fN (by omega)];have en:nxt g kind (oS S R (eH g) (rc k)) (at' ws (k:Int))=t:=by
   unfold nxt;rw[bE hnet,hwe,<-b3,ht];simp
  have hr:rc (k+1)=iA S p.2.1 R c t:=by
   show iA S p.2.1 R (rc k) (nxt g kind (oS S R (eH g) (rc k)) (at' ws (k:Int)))=_;rw[en,<-b3]
  obtain rfl:cnt'=cw (k+1):=by
   show cnt'=((fR 1000 (cw k) ((nxt g kind (oS S R (eH g) (rc k)) (at' ws (k:Int)):Nat):Int) ((oS S R (eH g) (rc (k+1)):Nat):Int)).getD ((0,0,0,0,0),0)).1;rw[en,hr,hadd];rfl
  refine hrec _ ⟨k+1,iA S p.2.1 R c t,ch++[t],ens++[((oS S R (eH g) (iA S p.2.1 R c t):Nat):Int)],?_,hstep k c ch (cw k) t (cw (k+1)) err hlt b2 b1 he0 ht0 hsub hk2 hk4' hr hadd Z,hsh,hr.symm,by omega,by simp[b5],by simp[b6],λj hj=> ?_⟩ (by dsimp only;omega)
  ·rw[List.nil_append,List.range_succ (n:=k+1),List.map_append,List.map_singleton,List.map_append,List.map_singleton,hr];simp[aaL]
  ·by_cases e:j<k
   ·exact b9 j e
   ·obtain rfl:j=k:=by omega
    rw[<-b3];exact he0) 1000 (((oS S R (eH g) c0:Nat):Int),[((oS S R (eH g) c0:Nat):Int)],(0:Int),0,0,0,0,dD .u32 ((oS S R (eH g) c0:Nat):Int) 16777215,c0,[],[(0,0,0,0,dD .u32 ((oS S R (eH g) c0:Nat):Int) 16777215)],[c0])
  ⟨0,c0,[],[((oS S R (eH g) c0:Nat):Int)],rfl,h0,hc0.shape,rfl,by omega,rfl,rfl,λj hj=>by omega⟩ (by dsimp only;omega)
 obtain⟨r,hr,k,c,ch,rfl,hrest⟩:=key;exact⟨k,c,ch,hr,hrest⟩
end
theorem Ym {p p':tB} {g:GR} {R:List RL} {vars:List Df} {kind:Int} {ws:List Int} {b:List (List Int)} {k a:Nat}
  (l:k<=ws.length) (f:k=ws.length∨oS (aQ p g) R (eH g) (Cz p vars R g kind ws b k)=0) (h:∀j,j<k->oS (aQ p g) R (eH g) (Cz p vars R g kind ws b j)≠0)
  (i:a<=ws.length) (c:a=ws.length∨oS (aQ p' g) R (eH g) (Cz p' vars R g kind ws b a)=0) (d:∀j,j<a->oS (aQ p' g) R (eH g) (Cz p' vars R g kind ws b j)≠0):k=a:=by
 rcases Nat.lt_trichotomy k a with q|q|q
 ·have:=d k q;rw[Kt p' p,OH p' p]at this;rcases f with e|e
  ·omega
  ·exact absurd e this
 ·exact q
 ·have:=h a q;rw[Kt p p',OH p p']at this;rcases c with e|e
  ·omega
  ·exact absurd e this
end Go.Proofs.YtmdlcmbplnhdnaaGreatDoor
namespace Go.Proofs.YtmdlcmbplnhdnaaGreatDoor
open Go.Sx
noncomputable def sZ (b:List bG×(List (Int×Int×Int×Int×Int))×Int) (a:Bool):Option (List bG×(List (Int×Int×Int×Int×Int))×Bool):=
 some (b.1,b.2.1,a)
noncomputable def lL (U:Nat) (d:ByteArray) (c:cQ) (e:Int) (f:bG) (g:aR):Option (List bG×(List (Int×Int×Int×Int×Int))×Bool):=
 Option.bind (nX U d) λb=>VY b.2.2 λh=>(Option.bind (vQ U ((b.1,b.2.1,h)) ((c.1,c.2)) e f g) λa=>(if a.2.2=(0:Int)then(if(List.length a.1:Int)=(List.length a.2.1:Int)then(sZ a (decide ((0:Int)<(List.length a.1:Int))))else(sZ a (false)))else(sZ a (false))))
theorem abI:aW Tryz.prog 9:=Tryz.call9
theorem Ie (U:Nat) {w:ByteArray} {i:cQ} {y:Int} {p:bG} {q:aR} (k:Value)  (m:Value)  (t:lX)  (n:Value)  (u:sH)  (o:Value) (r:TG) (h:lL U w i y p q=some r):
  aX Tryz.prog 9 #[vS (w),Value.agg #[k,m],vI (y),n,o] [Sl bN k i.1,S2 bD m t i.2,S2 bN n u p,Sl zK o q,Gb 0 (cellsOf HO xJ)] (λx:Value×List Value×List (List Value)×Value=>Value.tuple #[x.1,x.2.2.2,vB (r.2.2)]) (λx l=>Ar cY.raw x.1 x.2.1::KP cC x.2.1 x.2.2.1 r.1::Ar cE x.2.2.2 r.2.1::l) (λ_ l=>l):=by
 refine aX.of Tryz.func9 Z Tryz.ntmps9 Z λc=>?_;refine aV<|aH (aM.box (cs:=[k,m]) Z Z) Z λD=>aD Z<|aD Z<|aD Z<|aL<|aJ ?_;refine JR.start [0,1,0,0,0,0,63,127,255,255,255,511,3071,8191] 13 mixedOrders (by decide +kernel) ?_;refine JR.open (by exact rfl) ?_;refine bH Z<|fH h λs A h=>JR.loud Z Z Z (aM.call Wi (Iw U s A) Z (lR 4 Z) (λ_ _=>rfl) (λ_ _=>rfl)) Z (fun⟨d,e,v,g⟩=>(v_ [] Z)) fun⟨d,e,v,g⟩=>?_;have h:=Uh h v g;refine bL Z (a_.cons 0 Z .nil) .nil (i_ 0 Z Z Z Z) (aP.h (a_.ix [0] Z Z) .nil aP.z)<|iF Z (gQ Z)<|iF Z (gQ Z)<|iF Z (gQ Z)<|fH h λj C h=>JR.loud Z Z Z (aM.callQ acG (PR U d e k m t n u o j C) Z (pO [0,1,2,3,4,5,6,7] Z)) Z (λb=>(v_ [] Z)) λb=>iF Z (gQ Z)<|iF Z (lS Z Z)<|iF Z (lS Z Z)<|iF Z (lS Z Z)<|iF Z (lY Z)<|iF Z (lY Z)<|bP 13 Z Z<|aD Z<|aL<|aJ<|Ca (B:=Unit) (λa=>sZ j a=some r) (λa f=>[(10,b.1),(11,b.2.2.2),(12,vB (a))]) (λa f=>[Ar cY.raw b.1 b.2.1,KP cC b.2.1 b.2.2.1 j.1,Ar cE b.2.2.2 j.2.1]) (λa f=>[Sl aT d s.2.1,Sl aK e v,PF (Value.agg #[vS s.1,d,e]),Sl bN k i.1,S2 bD m t i.2,S2 bN n u p,Sl zK o q,Gb 0 (cellsOf HO xJ)]) ?_ ?_
 ·refine aO<|aA Z<|aA Z<|aA Z<|cP Z<|aA Z ?_;refine Dg h Z (λ_ h=>?_) λ_ h=>?_
  ·refine cO Z<|aN Z (Dp 0 1 Z Z Z Z) Z<|cO Z<|aN Z (fW Z (bB (aE.res 2 Z) dG) Z) Z<|aN Z (On Z Z) Z<|dV Z<|aA Z ?_;refine Dg h Z (λ_ h=>?_) λ_ h=>?_
   ·refine cO Z<|aN Z (Dp 0 1 Z Z Z Z) Z<|aN Z (zA Z Z) Z<|dV Z<|aD Z<|aD Z<|aD Z<|aL ?_;exact cH (decide ((0:Int)<(List.length j.1:Int))) () h SF (a_.ix [0,1,2] Z Z) (aF.refl _ _)
   refine aG Z<|aG Z<|aG Z<|fK Z<|aD Z<|aD Z<|aD Z<|aL ?_;exact cH (false) () h SF (a_.ix [0,1,2] Z Z) (aF.refl _ _)
  refine aG Z<|aG Z<|aG Z<|aG Z<|aG Z<|fK Z<|aA Z<|aG Z<|aG Z<|aG Z<|fK Z<|aD Z<|aD Z<|aD Z<|aL ?_;exact cH (false) () h SF (a_.ix [0,1,2] Z Z) (aF.refl _ _)
 intro a f h;unfold sZ at h;refine aU ?_;cases h;exact IC (b.1,b.2.1,b.2.2.1,b.2.2.2) Z Z (RV.tmp Z) (RV.tmp Z) (RV.tmp Z) (a_.refl _) aF.nil
end Go.Proofs.YtmdlcmbplnhdnaaGreatDoor
namespace Go.Proofs.YtmdlcmbplnhdnaaGreatDoor
open Go Go.Sx
theorem Px {text nm:ByteArray} {vars:List Df} {R:List RL} {pr:KG} (hprog:nX 1000 text=some (nm,vars,pr)) (hpr:Fj R=pr) {g:GR} (hV:VG g) (hp:tC g vars) (hR:yH vars.length R=true) {kind:Int} (hk1:1<=kind) (hk4:kind<=4)
  {c0:bG} (hc0:Bb g c0 vars) {ws:aR} (hws:ws.length<=900) (hw:∀k:Nat,k<ws.length->∃m:Nat,at' ws (k:Int)=(m:Int)∧m<4294967296)
  (Q:Nat->bG->CT->Prop) (h0:Q 0 c0 (0,0,0,0,dD .u32 ((oS (aQ (nm,vars,[]) g) R (eH g) c0:Nat):Int) 16777215))
  (hstep:∀k c cnt t cnt' err,k<ws.length->Q k c cnt->oS (aQ (nm,vars,[]) g) R (eH g) c≠0->t≠0->(∀i,t.testBit i=true->(oS (aQ (nm,vars,[]) g) R (eH g) c).testBit i=true)->(kind=4->t=oS (aQ (nm,vars,[]) g) R (eH g) c)->
   fR 1000 cnt (t:Int) ((oS (aQ (nm,vars,[]) g) R (eH g) (iA (aQ (nm,vars,[]) g) vars R c t):Nat):Int)=some (cnt',err)->Q (k+1) (iA (aQ (nm,vars,[]) g) vars R c t) cnt'):
  ∃(k:Nat) (cs:zI) (cnts:List CT),lL 1000 text g kind c0 ws=some (cs,cnts,true)∧cs.length=k+1∧cnts.length=k+1∧k<=ws.length∧(∀j,j<=k->Q j (at' cs (j:Int)) (at' cnts (j:Int)))∧
   (∀j,j<k->∃t,(∀i,t.testBit i=true->(oS (aQ (nm,vars,[]) g) R (eH g) (at' cs (j:Int))).testBit i=true)∧oS (aQ (nm,vars,[]) g) R (eH g) (at' cs (j:Int))≠0∧at' cs ((j+1:Nat):Int)=iA (aQ (nm,vars,[]) g) vars R (at' cs (j:Int)) t∧(kind=4->t=oS (aQ (nm,vars,[]) g) R (eH g) (at' cs (j:Int))))∧
   (k=ws.length∨oS (aQ (nm,vars,[]) g) R (eH g) (at' cs (k:Int))=0):=by
 let p0:tB:=(nm,vars,[])
 let rc:=Cz p0 vars R g kind ws c0;let cw:=JG p0 vars R g kind ws c0;let PP:Nat->Prop:=λk=>(∀j,j<=k->Q j (rc j) (cw j))∧∀j,j<k->∃t,(∀i,t.testBit i=true->(oS (aQ p0 g) R (eH g) (rc j)).testBit i=true)∧oS (aQ p0 g) R (eH g) (rc j)≠0∧rc (j+1)=iA (aQ p0 g) vars R (rc j) t∧(kind=4->t=oS (aQ p0 g) R (eH g) (rc j))
 have run:∀z:List xP,z.map Al=Fj R->∃k,vQ 1000 (nm,vars,z) g kind c0 ws=some ((List.range (k+1)).map rc,(List.range (k+1)).map cw,0)∧k<=ws.length∧PP k∧(∀j,j<k->oS (aQ p0 g) R (eH g) (rc j)≠0)∧(k=ws.length∨oS (aQ p0 g) R (eH g) (rc k)=0):=λz hz=>by
  let pz:tB:=(nm,vars,z)
  have hrr:Cz pz vars R g kind ws c0=rc:=funext λj=>Kt _ _ _ _ _ _ _ _ _;have hcc:JG pz vars R g kind ws c0=cw:=funext λj=>ado _ _ _ _ _ _ _ _ _;obtain⟨k,c,ch,h1,h3,rfl,h5,h6,h7⟩:=YZ (p:=pz) hV hp hz hR (kind:=kind) hk1 hk4 hc0 (ws:=ws) hws hw
   (λk c ch cnt=>PP k∧c=rc k∧cnt=cw k) ⟨⟨λj hj=>by(obtain rfl:j=0:=by omega);exact h0,λj hj=>by omega⟩,rfl,rfl⟩
   (λk c ch cnt t cnt' err hk hsh hI hne ht0 hsub _ hk4' hr hadd hcw=>by
    obtain⟨⟨ha,hb⟩,rfl,rfl⟩:=hI;have hr':rc (k+1)=iA (aQ p0 g) vars R (rc k) t:=(congrFun hrr (k+1)).symm.trans hr;have hcw':cnt'=cw (k+1):=hcw.trans (congrFun hcc (k+1));subst hcw';have hQ:=hstep k (rc k) (cw k) t _ err hk (ha k (Nat.le_refl k)) hne ht0 hsub hk4' hadd;refine⟨⟨λj hj=> ?_,λj hj=> ?_⟩,hr'.symm,rfl⟩
    ·by_cases e:j<=k
     ·exact ha j e
     ·obtain rfl:j=k+1:=by omega
      rw[hr'];exact hQ
    ·by_cases e:j<k
     ·exact hb j e
     ·obtain rfl:j=k:=by omega
      exact⟨t,hsub,hne,hr',hk4'⟩)
  rw[show pz.2.1=vars from rfl,hrr,hcc]at h1;rw[show pz.2.1=vars from rfl,hrr]at h6 h7;exact⟨k,h1,h5,h3.1,h6,h7⟩
 obtain⟨z0,hz0⟩:=exZ (Fj R);obtain⟨k0,_,hk0,hP0,hne0,hend0⟩:=run z0 hz0;have hat:∀j,j<=k0->at' ((List.range (k0+1)).map rc) (j:Int)=rc j:=λj hj=>lN _ (by omega);have hat2:∀j,j<=k0->at' ((List.range (k0+1)).map cw) (j:Int)=cw j:=λj hj=>lN _ (by omega);refine⟨k0,(List.range (k0+1)).map rc,(List.range (k0+1)).map cw,?_,by simp,by simp,hk0,λj hj=>by rw[hat j hj,hat2 j hj];exact hP0.1 j hj,λj hj=>by rw[hat j (by omega),hat (j+1) (by omega)];exact hP0.2 j hj,by rw[hat k0 (Nat.le_refl _)];exact hend0⟩
 unfold lL;rw[bE hprog];refine ZA λz hz=> ?_;have hz:z.map Al=Fj R:=by rw[hpr];exact hz
 obtain⟨k,h1,hk,_,hne,hend⟩:=run z hz;have hkk:k=k0:=Ym (p:=p0) (p':=p0) (vars:=vars) hk hend hne hk0 hend0 hne0;subst hkk;refine(bE (show vQ 1000 (nm,vars,z) g kind c0 ws=_ from h1)).trans ?_;unfold sZ;dsimp only;rw[if_pos Z,if_pos (by simp),decide_eq_true (by simp)]
theorem Ak {p:tB} {g:GR} {R:List RL} {c:bG} {v:Nat}:(oS (aQ p g) R (eH g) c).testBit v=true↔v<g.2.length∧0<=dK (aQ p g) R c v:=by
 rw[MP];refine⟨λh=>⟨h.1,h.2.1⟩,λh=>⟨h.1,h.2,?_⟩⟩
 unfold eH;rw[ZB,decide_eq_true h.1]
theorem WN {p:tB} {g:GR} {R:List RL} {c:bG}:oS (aQ p g) R (eH g) c=0↔∀v,v<g.2.length->¬0<=dK (aQ p g) R c v:=by
 constructor
 ·intro h v e q;have:=Ak.2 ⟨e,q⟩;rw[h,Nat.zero_testBit]at this;cases this
 ·intro h;refine Nat.eq_of_testBit_eq λi=> ?_;rw[Nat.zero_testBit];cases d:(oS (aQ p g) R (eH g) c).testBit i with
  |false=>rfl
  |true=>
   obtain⟨a,b⟩:=Ak.1 d;exact absurd b (h i a)
theorem SN {n E:Nat} {d:Nat->Nat} {q:Nat->Prop} (g:∀v,v<n->d v<=E):∀(k v:Nat),E<=d v+k->v<n->q v->∃w,w<n∧q w∧∀u,u<n->q u->d u<=d w
 |0,v,h,hv,hq=>⟨v,hv,hq,λu f _=>by have:=g u f;omega⟩
 | k + 1, v, h, hv, hq => by
  by_cases e:∃u,u<n∧q u∧d v<d u
  ·obtain⟨u,a,b,c⟩:=e;exact SN g k u (by omega) a b
  ·exact⟨v,hv,hq,λu f h=>Nat.le_of_not_lt λc=>e ⟨u,f,h,c⟩⟩
section
variable {p:tB} {g:GR} {c:List (List Int)} {d:List Int} (hV:VG g) (hD:q_ g 0 d) (h0:∀v,v<g.2.length->0<=D d v) {par fp:Nat->Nat} (hP:TP g d par fp) (hc:Bb g c dZ)
 include hV hD h0 hP hc
theorem adZ:oS (aQ p g) RS (eH g) c=0↔Fe g d c∧Qt g.2.length (sC c) (bC c)∧∀v,v<g.2.length->rC c v=0:=by
 have G:=hV.n24;have l:RT g.2.length g.2.length par (λv=>(D d v).toNat):=Tw hV hD h0 hP λv f=>hD.hi v f;rw[WN];constructor
 ·intro h;have E:∀v,v<g.2.length->Fv g c v:=λv f=>Classical.byContradiction λq=>by
   obtain⟨a,b⟩:=Km (p:=p) (R':=RW) q;exact h v f (by rw[Jm,a];exact b)
  have n:Fe g d c:=UQ hV hD h0 (λv f=>(MK (W:=Qh) hc f).1.1) E;have z:∀v,v<g.2.length->¬0<=dK (aQ p g) RW c v:=λv f q=>h v f (by rw[Jm,Gn (E v f),if_pos q];omega);have j:=λv f=>λq=>z v f ((enS (p:=p) hV hD h0 hP n f).1.2 q);have H:AG g.2.length par (sC c) (bC c):=λv f i=>Classical.byContradiction λq=>j v f (.inr (.inl (RE i q)));have t:∀v,v<g.2.length->sC c v=0:=λv f=>Decidable.byContradiction λq=>by
   obtain⟨w,A,J,o⟩:=SN (q:=λu=>sC c u≠0) l.le g.2.length v (by omega) f q;refine j w A (.inr (.inr (.inl ⟨J,λx B s e=> ?_⟩)));obtain⟨_,a⟩:=l.up x B s;have y:sC c x=0:=Decidable.byContradiction λr=>by
    have:=o x B r;rw[e]at a;omega
   refine⟨y,Decidable.byContradiction λr=>j x B (.inr (.inl ⟨s,.inl λL=>r ?_⟩))⟩
   rw[<-L,e]
  have m:=Yh l H (t 0 l.n1);refine⟨n,m,?_⟩
  have C:∀k v,v<g.2.length->(D d v).toNat=k->rC c v=0:=by
   intro k
   induction k with
   |zero=>
    intro v f I;have i:v=0:=(hD.zero v f).1 (by have:=h0 v f;omega);subst i;exact Decidable.byContradiction λq=>j 0 f (.inl ⟨rfl,t 0 f,q⟩)
   |succ k K=>
    intro v f I;have i:v≠0:=λe=>by subst e;have:=l.d0;omega
    obtain⟨a,b⟩:=l.up v f i;exact Decidable.byContradiction λq=>j _ a (.inr (.inr (.inr ⟨t _ a,K _ a (by omega),v,f,i,rfl,q,t v f⟩)))
  exact λv f=>C _ v f Z
 ·rintro⟨n,m,F⟩ v f;rw[Jm,Gn (IZ hV hD h0 n f)];have:¬0<=dK (aQ p g) RW c v:=λq=>by
   rcases(enS (p:=p) hV hD h0 hP n f).1.1 q with q|q|q|q
   ·obtain⟨rfl,_,q⟩:=q;exact q (F 0 f)
   ·obtain⟨a,_⟩:=l.up v f q.1;rcases q.2 with r|r
    ·exact r (by rw[(m v f).2,(m _ a).2])
    ·exact r.1 (m v f).1
   ·exact q.1 (m v f).1
   ·obtain⟨_,_,w,z,_,_,q,_⟩:=q;exact q (F w z)
  rw[if_neg this];omega
end
theorem Yx {p:tB} {g:GR} {d:List Int} {E:Nat} {j I:Nat->Nat} (n:VG g) (m:q_ g 0 d) (l:∀v,v<g.2.length->0<=D d v) (r:TP g d j I) (L:tC g dZ) (G:∀v,v<g.2.length->D d v<=(E:Int)):
  Zs (AL E) (7*E+4) (NJ g d E j (λv=>(D d v).toNat)) (TsR g d E j (λv=>(D d v).toNat)) (λc=>oS (aQ p g) RS (eH g) c)
   (λc t F=>(∀i,t.testBit i=true->(oS (aQ p g) RS (eH g) c).testBit i=true)∧F=iA (aQ p g) dZ RS c t):=by
 have s:RT g.2.length E j (λv=>(D d v).toNat):=Tw n m l r G;refine⟨λi c h=>Ya h,λi c h K o=>aa_ s G h K o,λi c v h f=> ?_,λi c t F h N=> ?_⟩
 ·refine Ak.2 ?_;obtain⟨O,h⟩:=h;have y:Fe g d c->v<g.2.length->0<=dK (aQ p g) RW c v->0<=dK (aQ p g) RS c v:=λJ f q=>by
   rw[Jm,Gn (IZ n m l J f),if_pos q];omega
  match i,h,f with
  | .tree k,⟨_,h⟩,f=>
   obtain⟨a,b⟩:=Km (p:=p) (R':=RW) (TF n m l h f);exact⟨f.1,by rw[Jm,a];exact b⟩
  | .good k,⟨_,h1,_⟩,⟨f,hv0,_,o⟩=>exact⟨f,y h1 f ((enS n m l r h1 f).1.2 (.inr (.inl (RE hv0 o))))⟩
  | .lev cl k,⟨_,h1,_,_,h4,_⟩,⟨f,hd,o⟩=>
   refine⟨f,y h1 f ((enS n m l r h1 f).1.2 (.inr (.inl ?_)))⟩
   have e:v≠0:=λe=>o (by rw[e]);obtain⟨a,z⟩:=s.up v f e;have B:(D d v).toNat<=k+1:=hd;have H:(D d v).toNat=(D d (j v)).toNat+1:=z;exact⟨e,.inl λq=>o (by rw[<-q];exact h4 _ a (show(D d (j v)).toNat<=k by omega))⟩
  | .low cl k,⟨_,h1,_,_,h4,h5,_⟩,⟨f,hd,o⟩=>
   refine⟨f,y h1 f ((enS n m l r h1 f).1.2 (.inr (.inr (.inl ⟨o,λw A C e=> ?_⟩))))⟩
   obtain⟨_,z⟩:=s.up w A C;rw[e]at z;have B:E<(D d v).toNat+(k+1):=hd;have H:(D d w).toNat=(D d v).toNat+1:=z;exact⟨h5 w A (show E<(D d w).toNat+k by omega),by rw[h4 w A (s.le w A),h4 v f (s.le v f)]⟩
  | .ask k u, ⟨_, h1, h2, h3, _, h5⟩, f =>
   rcases f with⟨e,rfl,M⟩|⟨rfl,rfl⟩
   ·obtain⟨a,_⟩:=s.up u h3 e;exact⟨a,y h1 a ((enS n m l r h1 a).1.2 (.inr (.inr (.inr ⟨(h2 _ a).1,M,u,h3,e,rfl,h5,(h2 u h3).1⟩))))⟩
   ·exact⟨h3,y h1 h3 ((enS n m l r h1 h3).1.2 (.inl ⟨rfl,(h2 0 h3).1,h5⟩))⟩
 ·obtain⟨x,rfl⟩:=N;exact Yb n m l s (Yt n m l r L h.1 λv f=>Ak.1 (x v f)) h
structure NR (g:GR) (d:List Int) (E:Nat) (par:Nat->Nat) (k:Nat) (c:List (List Int)) (cnt:CT):Prop where
 r:Bb g c dZ
 s:∃R B pe,BM k cnt R B pe∧yY (AL E) (7*E+4) (NJ g d E par (λv=>(D d v).toNat)) (TsR g d E par (λv=>(D d v).toNat)) R pe c
section
variable {p:tB} {g:GR} {c:List (List Int)} {d:List Int} {E:Nat} (hV:VG g) (hD:q_ g 0 d) (h0:∀v,v<g.2.length->0<=D d v) {par fp:Nat->Nat} (hP:TP g d par fp) (hp:tC g dZ) (hE:∀v,v<g.2.length->D d v<=(E:Int))
 include hV hD h0 hP hp hE
theorem OP {i:SR} (h:NJ g d E par (λv=>(D d v).toNat) i c):NR g d E par 0 c (0,0,0,0,dD .u32 ((oS (aQ p g) RS (eH g) c:Nat):Int) 16777215):=by
 have a:oS (aQ p g) RS (eH g) c<16777216:=NI.lt hV (Hg (aQ p g) RS (eH g) c);have b:dD .u32 ((oS (aQ p g) RS (eH g) c:Nat):Int) 16777215=((oS (aQ p g) RS (eH g) c:Nat):Int):=by
  rw[show(16777215:Int)=((16777215:Nat):Int)from rfl,CS (by omega) (by omega),show(16777215:Nat)=2^24 - 1 from rfl,Nat.and_two_pow_sub_one_eq_mod,Nat.mod_eq_of_lt (by omega)]
 exact⟨h.1,0,0,oS (aQ p g) RS (eH g) c,⟨rfl,⟨by dsimp only;omega,by dsimp only;omega⟩,rfl,rfl,b,by omega,a⟩,yY.start (Yx (p:=p) hV hD h0 hP hp hE) h⟩
theorem Rt {k t:Nat} {j e:CT} {n:Int} (y:k<900) (h:NR g d E par k c j) (q:t≠0) (f:∀i,t.testBit i=true->(oS (aQ p g) RS (eH g) c).testBit i=true) (l:fR 1000 j (t:Int) ((oS (aQ p g) RS (eH g) (iA (aQ p g) dZ RS c t):Nat):Int)=some (e,n)):NR g d E par (k+1) (iA (aQ p g) dZ RS c t) e:=by
 obtain⟨z,R,B,C,m,w⟩:=h;have A:t<16777216:=NI.lt hV (λi x=>(Ak.1 (f i x)).1);have o:oS (aQ p g) RS (eH g) (iA (aQ p g) dZ RS c t)<16777216:=NI.lt hV (Hg (aQ p g) RS (eH g) _);obtain⟨u,s,r,a,b,_⟩:=Fb (Yx (p:=p) hV hD h0 hP hp hE) w ⟨f,rfl⟩ m y A q o l;exact⟨LR (S:=aQ p g) hp z,u,s,r,a,b⟩
end
theorem Ij {g:GR} (h:VG g):tC g dZ:=by
 have f:=h.n24;have e:∀x,x<dZ.length->Dn (at' dZ (x:Int)):=λx c=>by
  have c:x<6:=c
  match x,c with
  |0,_=>exact⟨by decide,by decide,by decide⟩
  |1,_=>exact⟨by decide,by decide,by decide⟩
  |2,_=>exact⟨by decide,by decide,by decide⟩
  |3,_=>exact⟨by decide,by decide,by decide⟩
  |4,_=>exact⟨by decide,by decide,by decide⟩
  |5,_=>exact⟨by decide,by decide,by decide⟩
 refine⟨by decide,e,λx c=> ?_,λx c d=> ?_⟩
 ·have c:x<6:=c
  match x,c with
  |0,_=>exact .inl Z
  |1,_=>exact .inr (.inr Z)
  |2,_=>exact .inr (.inl Z)
  |3,_=>exact .inr (.inl Z)
  |4,_=>exact .inl Z
  |5,_=>exact .inr (.inl Z)
 ·have c:x<6:=c
  match x,c,d with
  |0,_,_=>
   have a:lo g (at' dZ ((0:Nat):Int)) 0=0:=XG g 0;have b:hi g (at' dZ ((0:Nat):Int)) 0=(g.2.length:Int):=Xr g 0;rw[a,b];omega
  |1,_,d=>exact absurd d (by decide)
  |2,_,d=>exact absurd d (by decide)
  |3,_,d=>exact absurd d (by decide)
  | 4, _, _ =>
   have b:hi g (at' dZ ((4:Nat):Int)) 0=3:=by
    show(3:Int)+0*(g.2.length:Int)+0*kA g g.1.length=3;omega
   have a:lo g (at' dZ ((4:Nat):Int)) 0=0:=rfl;rw[a,b];omega
  |5,_,d=>exact absurd d (by decide)
end Go.Proofs.YtmdlcmbplnhdnaaGreatDoor
namespace Go.Proofs.YtmdlcmbplnhdnaaGreatDoor
open Go Go.Sx
theorem CZ {k:Nat} (h:k<1000000):wI .i64 ((k:Int)+1)=((k+1:Nat):Int):=by rw[ajv h];push_cast;rfl
def Xu (g:GR) (b:aR) (v x:Nat) (a:Int):Prop:=if at' b (x:Int) = -1 then -1<=a∧a<=((row g v).length:Int) - 1 else 0<=a∧a<=at' b (x:Int)
def afD (g:GR) (a:aR) (v:Nat) (l:aR):Prop:=l.length=a.length∧∀x,x<a.length->Xu g a v x (at' l (x:Int))
def KN (g:GR) (hs:aR) (c:bG):Prop:=c.length=g.2.length∧∀v,v<g.2.length->afD g hs v (at' c (v:Int))
theorem Fi {g:GR} (l:VG g) {hs:aR} (y:hs.length<900) (c:bG):(KN g hs c->dQ 1000 g c hs=some true)∧(¬KN g hs c->dQ 1000 g c hs=some false):=by
 have t:=l.n24;have r:=l.len;unfold dQ;by_cases p:c.length=g.2.length
 ·rw[if_neg (by omega)];have m:=yD (step:=fO 1000 g c hs) (K:=some true) (bad:=some false) c.length (λv=>afD g hs v (at' c (v:Int))) (λk=>(k:Int)) (λk j u i=> ?_) (λk j u i=> ?_) (λj=> ?_) 1000 (by omega)
  ·refine⟨λh=>m.1 λv w=>h.2 v (by omega),λh=>m.2 λs=>h ⟨p,λv w=>s v (by omega)⟩⟩
  all_goals unfold fO
  ·have b:=yD (step:=cW g c hs (k:Int) j) (K:=j ((k+1:Nat):Int)) (bad:=some false) hs.length (λx=>Xu g hs k x (at' (at' c (k:Int)) (x:Int))) (λx=>(x:Int)) ?_ ?_ ?_ 1000 (by omega)
   ·rw[if_pos (by omega),cD (by omega),if_neg (by have:=i.1;omega)];exact b.1 i.2
   ·intro x d o a;unfold cW gS gT;have n:=i.1;have f:(at' g.2 (k:Int)).length<g.2.length:=(l.node k (by omega)).deg;rw[if_pos (by omega),cD (by omega),cD (by omega)];unfold Xu at a;by_cases e:at' hs (x:Int) = -1
    ·rw[if_pos e]at a;rw[if_pos e,cD (by omega),wr (by omega) (by omega)];dsimp only;rw[if_neg (by omega),if_neg (by rw[decide_eq_true_eq];show¬((row g k).length:Int) - 1<_;omega),CZ (by omega)]
    ·rw[if_neg e]at a;rw[if_neg e];dsimp only;rw[if_neg (by omega),if_neg (by rw[decide_eq_true_eq];omega),CZ (by omega)]
   ·intro x d o a;unfold cW gS gT;have n:=i.1;have f:(at' g.2 (k:Int)).length<g.2.length:=(l.node k (by omega)).deg;rw[if_pos (by omega),cD (by omega),cD (by omega)];unfold Xu at a;by_cases e:at' hs (x:Int) = -1
    ·rw[if_pos e]at a;rw[if_pos e,cD (by omega),wr (by omega) (by omega)];dsimp only;by_cases q:at' (at' c (k:Int)) (x:Int) < -1
     ·rw[if_pos q,if_pos Z]
     ·rw[if_neg q,if_pos (by rw[decide_eq_true_eq];show((row g k).length:Int) - 1<_;omega)]
    ·rw[if_neg e]at a;rw[if_neg e];dsimp only;by_cases q:at' (at' c (k:Int)) (x:Int)<0
     ·rw[if_pos q,if_pos Z]
     ·rw[if_neg q,if_pos (by rw[decide_eq_true_eq];omega)]
   ·intro d;unfold cW lD;have n:=i.1;rw[if_neg (by omega),CZ (by omega)]
  ·rw[if_pos (by omega),cD (by omega)];by_cases n:(at' c (k:Int)).length=hs.length
   ·rw[if_neg (by omega)];have b:=yD (step:=cW g c hs (k:Int) j) (K:=j ((k+1:Nat):Int)) (bad:=some false) hs.length (λx=>Xu g hs k x (at' (at' c (k:Int)) (x:Int))) (λx=>(x:Int)) ?_ ?_ ?_ 1000 (by omega)
    ·exact b.2 λh=>i ⟨n,h⟩
    ·intro x d o a;unfold cW gS gT;have f:(at' g.2 (k:Int)).length<g.2.length:=(l.node k (by omega)).deg;rw[if_pos (by omega),cD (by omega),cD (by omega)];unfold Xu at a;by_cases e:at' hs (x:Int) = -1
     ·rw[if_pos e]at a;rw[if_pos e,cD (by omega),wr (by omega) (by omega)];dsimp only;rw[if_neg (by omega),if_neg (by rw[decide_eq_true_eq];show¬((row g k).length:Int) - 1<_;omega),CZ (by omega)]
     ·rw[if_neg e]at a;rw[if_neg e];dsimp only;rw[if_neg (by omega),if_neg (by rw[decide_eq_true_eq];omega),CZ (by omega)]
    ·intro x d o a;unfold cW gS gT;have f:(at' g.2 (k:Int)).length<g.2.length:=(l.node k (by omega)).deg;rw[if_pos (by omega),cD (by omega),cD (by omega)];unfold Xu at a;by_cases e:at' hs (x:Int) = -1
     ·rw[if_pos e]at a;rw[if_pos e,cD (by omega),wr (by omega) (by omega)];dsimp only;by_cases q:at' (at' c (k:Int)) (x:Int) < -1
      ·rw[if_pos q,if_pos Z]
      ·rw[if_neg q,if_pos (by rw[decide_eq_true_eq];show((row g k).length:Int) - 1<_;omega)]
     ·rw[if_neg e]at a;rw[if_neg e];dsimp only;by_cases q:at' (at' c (k:Int)) (x:Int)<0
      ·rw[if_pos q,if_pos Z]
      ·rw[if_neg q,if_pos (by rw[decide_eq_true_eq];omega)]
    ·intro d;unfold cW lD;rw[if_neg (by omega),CZ (by omega)]
   ·rw[if_pos (by omega)]
  ·rw[if_neg (by omega)];rfl
 ·rw[if_pos (by omega)];exact⟨λh=>absurd h.1 p,λ_=>rfl⟩
def IsF (q:Nat->Prop) (n:Nat) (p:Int):Prop:=(∃i:Nat,i<n∧p=i∧q i∧∀k,k<i->¬q k)∨(p = -1∧∀k,k<n->¬q k)
theorem IsF.uniq {q:Nat->Prop} {n:Nat} {p g:Int} (h:IsF q n p) (k:IsF q n g):p=g:=by
 rcases h with⟨i,a,b,c,l⟩|⟨a,b⟩<;>rcases k with⟨j,d,e,f,m⟩|⟨d,e⟩
 ·have:i=j:=by
   rcases Nat.lt_trichotomy i j with q|q|q
   ·exact absurd c (m i q)
   ·exact q
   ·exact absurd f (l j q)
  omega
 ·exact absurd c (e i a)
 ·exact absurd f (b j d)
 ·omega
def Low (g:GR) (d:aR) (v i:Nat):Prop:=at' d (gH (row g v) i).1=D d v - 1
instance (g:GR) (d:aR) (v i:Nat):Decidable (Low g d v i):=inferInstanceAs (Decidable (_=_))
theorem Yr (p q:aR) (h:q.length<900):wT 1000 p q=some (decide (p=q)):=by
 unfold wT;by_cases f:p.length=q.length
 ·rw[if_neg (by omega)];have a:=yD (step:=uT p q) (K:=some true) (bad:=some false) p.length (λk=>at' p (k:Int)=at' q (k:Int)) (λk=>(k:Int)) (λk c d b=> ?_) (λk c d b=> ?_) (λc=> ?_) 1000 (by omega)
  ·by_cases e:p=q
   ·rw[decide_eq_true e];exact a.1 λk d=>by rw[e]
   ·rw[decide_eq_false e];exact a.2 λg=>e (OT f λv i=>g v i)
  all_goals unfold uT
  ·rw[if_pos (by omega),cD (by omega),cD (by omega),if_neg (by simpa using b),CZ (by omega)]
  ·rw[if_pos (by omega),cD (by omega),cD (by omega),if_pos b]
  ·rw[if_neg (by omega)];rfl
 ·rw[if_pos (by omega),decide_eq_false λe=>f (by rw[e])]
section
variable {g:GR} (hV:VG g) {d:List Int} {s:Nat} (hD:q_ g s d)
 include hV hD
theorem agJ {v i:Nat} (b:v<g.2.length) (a:i<(row g v).length):0<=(gH (row g v) i).1∧(gH (row g v) i).1<(d.length:Int):=by
 obtain⟨u,c,e⟩:=hV.to b a;have:=hD.len;omega
theorem adr {v:Nat} (a:v<g.2.length):wI .i64 (D d v - 1)=D d v - 1:=by
 have b:=hD.lo v a;have c:=hD.hi v a;have:=hV.n24;exact wr (by omega) (by omega)
theorem aee {v i:Nat} (a:v<g.2.length) (c:i<(row g v).length):yM 1000 ((gH (row g v) i).1,(gH (row g v) i).2) d (v:Int)=some (decide (Low g d v i)):=by
 have b:=agJ hV hD a c;have f:=hD.len;unfold yM;rw[cD b,cD (by omega)];have e:wI .i64 (at' d (v:Int) - 1)=D d v - 1:=adr hV hD a;rw[e];rfl
theorem Pu {v:Nat} (m:v<g.2.length) (c:List Int):∃p,IsF (Low g d v) (row g v).length p∧vN 1000 g (v:Int) d c=some (decide (c=[D d v,p])):=by
 have o:=hV.n24;have l:=(hV.node v m).deg;have r:=hD.len;have n:∀a:Int,wC 1000 (v:Int) d c a=some (decide (c=[D d v,a])):=λa=>by
  unfold wC;rw[cD (by omega),Yr _ _ (by simp),bE Z]
 unfold vN;rw[cD (by omega)];have i:∀b k,k<=(row g v).length->(∀j,j<k->¬Low g d v j)->(row g v).length - k<b->∃p,IsF (Low g d v) (row g v).length p∧bJ (sK 1000 g (v:Int) d c) b (k:Int)=some (decide (c=[D d v,p])):=by
  intro b
  induction b with
  |zero=>intro k _ _ h;omega
  | succ b ih =>
   intro k x f w;show∃p,_∧sK 1000 g (v:Int) d c (k:Int) (bJ (sK 1000 g (v:Int) d c) b)=_;unfold sK;by_cases e:k<(row g v).length
   ·rw[if_pos (show(k:Int)<((row g v).length:Int) by omega),cD (show 0<=(k:Int)∧(k:Int)<((row g v).length:Int) by omega)];have u:=aee hV hD m e;rw[show((at' (at' g.2 (v:Int)) (k:Int)).1,(at' (at' g.2 (v:Int)) (k:Int)).2)=((gH (row g v) k).1,(gH (row g v) k).2)from rfl,u,bE Z];by_cases q:Low g d v k
    ·rw[decide_eq_true q,if_pos Z];exact⟨k,.inl ⟨k,e,rfl,q,f⟩,n _⟩
    ·rw[decide_eq_false q,if_neg (by simp),CZ (by omega)];exact ih (k+1) (by omega) (λj t=>by
      by_cases h:j=k
      ·subst h;exact q
      ·exact f j (by omega)) (by omega)
   ·rw[if_neg (show¬(k:Int)<((row g v).length:Int) by omega)];exact⟨-1,.inr ⟨rfl,λj t=>f j (by omega)⟩,n _⟩
 exact i 1000 0 (by omega) (λj h=>by omega) (by omega)
def Ff (g:GR) (d:List Int) (v:Nat) (l:List Int):Prop:=at' l 0=D d v∧IsF (Low g d v) (row g v).length (at' l 1)
theorem Ow (G:s=0) (u:Ja g) {c:List (List Int)} (j:KN g [(g.2.length:Int),-1] c):
  ((∀v,v<g.2.length->Ff g d v (at' c (v:Int)))->vM 1000 g c=some true)∧(¬(∀v,v<g.2.length->Ff g d v (at' c (v:Int)))->vM 1000 g c=some false):=by
 subst G;have H:=hV.n24;have M:=hV.n1;have I:=hD.len;have q:=hV.len;have F:oZ 1000 (g.1,g.2) c=some true:=by
  unfold oZ Hr lE;have B:fJ 1000 (g.1,g.2)=some true:=(Aj hV).1 u;have C:dQ 1000 (g.1,g.2) c [(g.1.length:Int),-1]=some true:=by
   rw[q];exact(Fi hV (by simp) c).1 j
  rw[B,bE Z,bE Z,if_pos Z,C,bE Z]
 obtain⟨h,w,t⟩:=MN hV (s:=0) (by omega);have x:h=d:=by
  have L:=zU hV (s:=0) (by omega) hD;have A:=zU hV (s:=0) (by omega) t;rw[L]at A;exact(Option.some.inj A).symm
 subst x;unfold vM;have E:oH 1000 (g.1,g.2) 0=some h:=w;rw[F,bE Z,if_neg (by simp),E,bE Z];have i:∀v,v<g.2.length->∀p,(at' c (v:Int)=[D h v,p])↔(at' (at' c (v:Int)) 0=D h v∧at' (at' c (v:Int)) 1=p):=λv J p=>by
  have y:=(j.2 v J).1;simp only[List.length_cons,List.length_nil]at y;generalize at' c (v:Int)=l at y ⊢
  match l,y with
  | [a,b],_=>
   show[a,b]=[D h v,p]↔a=D h v∧b=p;simp
 have N:=j.1;refine yD (step:=Ah 1000 g c h) (K:=some true) (bad:=some false) g.2.length (λv=>Ff g h v (at' c (v:Int))) (λk=>(k:Int)) (λk z o r=> ?_) (λk z o r=> ?_) (λz=> ?_) 1000 (by omega)
 all_goals unfold Ah
 ·obtain⟨p,m,n⟩:=Pu hV hD o (at' c (k:Int));have f:vN 1000 (g.1,g.2) (k:Int) h (at' c (k:Int))=_:=n;rw[if_pos (by omega),cD (by omega),f,bE Z,decide_eq_true ((i k o p).2 ⟨r.1,r.2.uniq m⟩),if_neg (by simp),CZ (by omega)]
 ·obtain⟨p,m,n⟩:=Pu hV hD o (at' c (k:Int));have f:vN 1000 (g.1,g.2) (k:Int) h (at' c (k:Int))=_:=n;rw[if_pos (by omega),cD (by omega),f,bE Z,decide_eq_false λe=>r (by
   have:=(i k o p).1 e;exact⟨this.1,by rw[this.2];exact m⟩),if_pos (by simp)]
 ·rw[if_neg (by omega)];rfl
end
def JH (m:Nat) (c:bG) (k:Nat):bG:=(c.take k).map (λl=>List.drop (Int.toNat 0) (List.take m l))++List.replicate (c.length - k) []
theorem Uu {m:Nat} {c:bG} {k:Nat} (a:k<c.length):(JH m c k).set k (List.drop (Int.toNat 0) (List.take m (at' c (k:Int))))=JH m c (k+1):=by
 unfold JH;obtain⟨j,b⟩:∃j,c.length - k=j+1:=⟨c.length - k - 1,by omega⟩
 rw[b,List.replicate_succ,aei _ _ _ _ k (by simp;omega)];have e:c.take (k+1)=c.take k++[at' c (k:Int)]:=by
  rw[List.take_add_one,List.getElem?_eq_getElem a];congr 1;have:=gC (xs:=c) (i:=k);rw[this,List.getD_eq_getElem?_getD,List.getElem?_eq_getElem a];rfl
 rw[e,List.map_append,List.append_assoc];congr 1;show _::_=[_]++_;rw[show c.length - (k+1)=j by omega];rfl
theorem WH {m:Nat} {c:bG} {k:Nat} (a:k<=c.length):(JH m c k).length=c.length:=by
 unfold JH;simp;omega
theorem WG {m:Nat} {c:bG}:JH m c c.length=c.map (λl=>l.take m):=by
 unfold JH;rw[List.take_length,Nat.sub_self];simp
theorem HS {m:Nat} {c:bG} {v:Nat} (a:v<c.length):at' (c.map (λl=>l.take m)) (v:Int)=(at' c (v:Int)).take m:=Su (λl:aR=>l.take m) (by omega) (by omega)
theorem IG {m:Nat} {l:aR} {i:Nat} (a:i<m):at' (l.take m) (i:Int)=at' l (i:Int):=by
 rw[gC,gC,List.getD_eq_getElem?_getD,List.getD_eq_getElem?_getD,List.getElem?_take_of_lt a]
theorem aaK {g:GR} {c b:aR} {v x:Nat} {a:Int} (h:Xu g c v x a) (e:at' b (x:Int)=at' c (x:Int)):Xu g b v x a:=by
 unfold Xu at h ⊢;rw[e];exact h
theorem KN.cut {g:GR} {hs:aR} {c:bG} {m:Nat} (h:KN g hs c) (j:m<=hs.length):KN g (hs.take m) (c.map (λl=>l.take m)):=by
 refine⟨by simpa using h.1,λv d=> ?_⟩
 have b:v<c.length:=by rw[h.1];exact d
 rw[HS b];obtain⟨i,e⟩:=h.2 v d;refine⟨by simp;omega,λx f=> ?_⟩
 have a:x<m:=by simp at f;omega
 rw[IG a];exact aaK (e x (by omega)) (IG a)
end Go.Proofs.YtmdlcmbplnhdnaaGreatDoor
namespace Go.Proofs.YtmdlcmbplnhdnaaGreatDoor
open Go Go.Sx
def rH (g:GR):aR:=[(g.2.length:Int),-1,1,1,3,1]
theorem cfS {g:GR} {c:bG} (k:0<g.2.length) (a:Bb g c dZ):KN g (rH g) c:=by
 refine⟨a.len,λv b=>⟨a.row v b,λx d=> ?_⟩⟩
 obtain⟨⟨f,h⟩,i,j⟩:=MK (W:=Qh) a b;obtain⟨l,m,n,o⟩:=abh a b;have d:x<6:=d;unfold Xu
 match x,d with
 |0,_=>
  have e:at' (rH g) ((0:Nat):Int)=(g.2.length:Int):=rfl;rw[e,if_neg (by omega)];exact⟨f,h⟩
 |1,_=>
  have e:at' (rH g) ((1:Nat):Int) = -1:=rfl;rw[e,if_pos Z];exact⟨i,j⟩
 |2,_=>
  have e:at' (rH g) ((2:Nat):Int)=1:=rfl;rw[e,if_neg (by omega)];show 0<=iM c v 2∧iM c v 2<=1;omega
 |3,_=>
  have e:at' (rH g) ((3:Nat):Int)=1:=rfl;rw[e,if_neg (by omega)];show 0<=iM c v 3∧iM c v 3<=1;omega
 |4,_=>
  have e:at' (rH g) ((4:Nat):Int)=3:=rfl;rw[e,if_neg (by omega)];show 0<=iM c v 4∧iM c v 4<=3;omega
 |5,_=>
  have e:at' (rH g) ((5:Nat):Int)=1:=rfl;rw[e,if_neg (by omega)];show 0<=iM c v 5∧iM c v 5<=1;omega
def Zp (c:bG) (v:Nat):Prop:=iM c v 2=0∧iM c v 5=0∧iM c v 3=iM c 0 3
section
variable {g:GR} (hV:VG g) (hc:Ja g) {d:List Int} (hD:q_ g 0 d)
 include hV
theorem aea {c:List (List Int)} (n:c.length=g.2.length) (h:∀v,v<g.2.length->(at' c (v:Int)).length=6):((∀v,v<g.2.length->Zp c v)->bJ (jW c) 1000 0=some true)∧(¬(∀v,v<g.2.length->Zp c v)->bJ (jW c) 1000 0=some false):=by
 have l:=hV.n24;have m:(at' c 0).length=6:=h 0 (by have:=hV.n1;omega);refine yD (step:=jW c) (K:=some true) (bad:=some false) g.2.length (Zp c) (λk=>(k:Int)) (λk i f a=> ?_) (λk i f a=> ?_) (λi=> ?_) 1000 (by omega)
 ·have:=h k f;unfold jW pW;rw[if_pos (by omega),cD (by omega),cD (by omega),if_neg (λq=>q a.1),cD (by omega),if_neg (λq=>q a.2.1),cD (by omega),cD (by omega),cD (by omega),if_neg (λq=>by rw[decide_eq_true_eq]at q;exact q a.2.2),CZ (by omega)]
 ·have:=h k f;unfold jW pW;rw[if_pos (by omega),cD (by omega),cD (by omega)];by_cases b:at' (at' c (k:Int)) 2=0
  ·rw[if_neg (by simpa using b),cD (by omega)];by_cases e:at' (at' c (k:Int)) 5=0
   ·rw[if_neg (by simpa using e),cD (by omega),cD (by omega),cD (by omega),if_pos];rw[decide_eq_true_eq];exact λj=>a ⟨b,e,j⟩
   ·rw[if_pos e,if_pos Z]
  ·rw[if_pos b,if_pos Z]
 ·unfold jW;rw[if_neg (by omega)];rfl
 include hc hD
theorem Tt {c:List (List Int)} (t:Bb g c dZ):∃b,hZ 1000 g c=some b∧(b=true↔Fe g d c∧Qt g.2.length (sC c) (bC c)∧∀v,v<g.2.length->rC c v=0):=by
 have C:=hV.n24;have I:=hV.n1;have e:KN g (rH g) c:=cfS (by omega) t;have f:∀v,v<g.2.length->(at' c (v:Int)).length=6:=λv a=>(e.2 v a).1;have F:=Fi hV (hs:=rH g) (by simp[rH]) c;have z:fJ 1000 (g.1,g.2)=some true:=(Aj hV).1 hc;have A:d_ 1000 g c=some true:=by
  unfold d_ Bq iD;rw[z,bE Z,bE Z,if_pos Z];have:dQ 1000 (g.1,g.2) c [(g.1.length:Int),-1,1,1,3,1]=dQ 1000 g c (rH g):=by rw[hV.len];rfl
  rw[this,F.1 e];rfl
 have o:=e.1;have n:KN g [(g.2.length:Int),-1] (c.map λl=>l.take 2):=e.cut (m:=2) (by simp[rH]);have p:∀v,v<g.2.length->(Ff g d v (at' (c.map λl=>l.take 2) (v:Int))↔Ff g d v (at' c (v:Int))):=λv a=>by
  rw[HS (by omega)];unfold Ff;have G:at' ((at' c (v:Int)).take 2) 0=at' (at' c (v:Int)) 0:=IG (i:=0) (by omega);have u:at' ((at' c (v:Int)).take 2) 1=at' (at' c (v:Int)) 1:=IG (i:=1) (by omega);rw[G,u]
 obtain⟨u,H⟩:=Ow hV hD Z hc (c:=c.map λl=>l.take 2) n;have B:hZ 1000 g c=Option.bind (vM 1000 g (c.map λl=>l.take 2)) λr=>pV 1000 c (!r):=by
  unfold hZ;rw[show d_ 1000 (g.1,g.2) c=some true from A,bE Z,if_neg (by simp),cD (by omega)];have q:=eY (step:=sG 1000 g c) (K:=xD 1000 g c (JH 2 c c.length)) c.length (λk=>((k:Int),JH 2 c k)) (λk y D=> ?_) (λy=> ?_) 1000 (by omega)
  ·rw[show(((0:Nat):Int),JH 2 c 0)=((0:Int),List.replicate (Int.toNat (c.length:Int)) ([]:List Int)) by simp[JH]]at q;rw[q,WG];rfl
  ·have E:=f k (by omega);unfold sG;dsimp only;rw[if_pos (by omega),cD (by omega),cD (by omega),cD (by rw[WH (by omega)];omega),CZ (by omega)];have:=Uu (m:=2) D;rw[show Int.toNat (k:Int)=k from rfl,show Int.toNat (2:Int)=2 from rfl,this]
  ·unfold sG;dsimp only;rw[if_neg (by omega)]
 obtain⟨w,x⟩:=aea hV o f;rw[B];by_cases s:∀v,v<g.2.length->Ff g d v (at' c (v:Int))
 ·rw[u λv a=>(p v a).2 (s v a),bE Z];unfold pV;rw[if_neg (by simp)];by_cases j:∀v,v<g.2.length->Zp c v
  ·exact⟨true,w j,⟨λ_=>⟨s,λv a=>⟨(j v a).1,(j v a).2.2⟩,λv a=>(j v a).2.1⟩,λ_=>rfl⟩⟩
  ·exact⟨false,x j,⟨λh=>(by cases h),λh=>absurd (λv a=>⟨(h.2.1 v a).1,h.2.2 v a,(h.2.1 v a).2⟩) j⟩⟩
 ·rw[H λh=>s λv a=>(p v a).1 (h v a),bE Z];unfold pV;rw[if_pos (by simp)];exact⟨false,rfl,⟨λh=>(by cases h),λh=>absurd (λv a=>h.1 v a) s⟩⟩
end
theorem aan {g:GR} (m:VM g.1 g.2) (h:∀v:Nat,1<=v->v<g.2.length->∃u:Nat,u<v∧mM g.2 u v):Ja g:=by
 have f:VG g:=m.vg;have t:=f.n1;have j:∀v,v<g.2.length->∃k,xW g 0 k v:=by
  intro v
  induction v using Nat.strongRecOn with
  | _ v ih =>
   intro c;by_cases l:v=0
   ·subst l;exact⟨0,rfl,c⟩
   ·obtain⟨u,e,x,s,p⟩:=h v (by omega) c;obtain⟨k,r⟩:=ih u e (by omega);obtain⟨i,q,d⟩:=Ej s;refine⟨k+1,u,r,i,q,?_⟩
    show(at' (at' g.2 (u:Int)) (i:Int)).1=_;rw[d,p]
 intro u v e c;obtain⟨a,n⟩:=j u e;obtain⟨b,o⟩:=j v c;exact⟨a+b,(FV f n).trans o⟩
structure T_ (g:GR) (d:aR) (E:Nat) (par fp:Nat->Nat):Prop where
 v:VG g
 c:Ja g
 dist:q_ g 0 d
 d0:∀v,v<g.2.length->0<=D d v
 p:TP g d par fp
 e:∀v,v<g.2.length->D d v<=(E:Int)
 en:E<g.2.length
 ecc:rZ 1000 g 0=some (E:Int)
structure ahb (g:GR) (d:aR) (E:Nat) (par fp:Nat->Nat):Prop extends T_ g d E par fp where
 refEcc:jM 1000 g 0=some (E:Int)
theorem ajo (x:NY) (a:Nat) (n:1<=a) (k:a<=24):∃g d E e j,fG 1000 x (a:Int)=some g∧g.2.length<=a∧T_ g d E e j:=by
 obtain⟨g,t,i,w,q⟩:=ML x a n k;have h:VG g:=i.vg;have y:=h.n1;have l:=aan i q;obtain⟨r,z,o⟩:=CV h l (s:=0) (by omega);obtain⟨d,_,f,m,v,c,A⟩:=o;have b:∀v,v<g.2.length->0<=D d v:=λv c=>(OD h (s:=0) (by omega) f).2 l v (by rw[f.len];exact c);obtain⟨e,j,p⟩:=agK h f b;have B:=b v c;have C:=f.hi v c;have u:r<(g.2.length:Int):=by
  have F:=f.lt c;omega
 refine⟨g,d,r.toNat,e,j,t,w,⟨h,l,f,b,p,λv c=> ?_,by omega,?_⟩⟩
 ·have:=m v c;omega
 ·rw[Int.toNat_of_nonneg (by omega)];exact z
theorem ajp (x:NY) (a:Nat) (l:1<=a) (h:a<=24):∃g d E b f,fG 1000 x (a:Int)=some g∧g.2.length<=a∧ahb g d E b f:=by
 obtain⟨g,d,E,b,f,n,o,N⟩:=ajo x a l h;have p:=N.v.n1;obtain⟨r,q,m⟩:=CV N.v N.c (s:=0) (by omega);obtain⟨t,j,i,_⟩:=UW N.v (s:=0) (by omega);have e:=Qv m (i N.c);have k:=Option.some.inj (q.symm.trans N.ecc);exact⟨g,d,E,b,f,n,o,N,by rw[<-k,e];exact j⟩
theorem abL:Fj RS=Cy:=rfl
theorem Pw:yH dZ.length RS=true:=abj
theorem agQ:∀x,x<dZ.length->Dn (at' dZ (x:Int)) ∧ -100000<=(at' dZ (x:Int)).2.2.1∧(at' dZ (x:Int)).2.2.1<=(at' dZ (x:Int)).2.2.2.1:=by
 intro x a;have a:x<6:=a
 match x,a with
 |0,_=>exact⟨⟨by decide,by decide,by decide⟩,by decide,by decide⟩
 |1,_=>exact⟨⟨by decide,by decide,by decide⟩,by decide,by decide⟩
 |2,_=>exact⟨⟨by decide,by decide,by decide⟩,by decide,by decide⟩
 |3,_=>exact⟨⟨by decide,by decide,by decide⟩,by decide,by decide⟩
 |4,_=>exact⟨⟨by decide,by decide,by decide⟩,by decide,by decide⟩
 |5,_=>exact⟨⟨by decide,by decide,by decide⟩,by decide,by decide⟩
theorem Ll {p:tB} {g:GR} (d:VG g) (R:List RL) (c:bG):BM 0 (0,0,0,0,dD .u32 ((oS (aQ p g) R (eH g) c:Nat):Int) 16777215) 0 0 (oS (aQ p g) R (eH g) c):=by
 have a:oS (aQ p g) R (eH g) c<16777216:=NI.lt d (Hg (aQ p g) R (eH g) c);have b:dD .u32 ((oS (aQ p g) R (eH g) c:Nat):Int) 16777215=((oS (aQ p g) R (eH g) c:Nat):Int):=by
  rw[show(16777215:Int)=((16777215:Nat):Int)from rfl,CS (by omega) (by omega),show(16777215:Nat)=2^24 - 1 from rfl,Nat.and_two_pow_sub_one_eq_mod,Nat.mod_eq_of_lt (by omega)]
 exact⟨rfl,⟨by dsimp only;omega,by dsimp only;omega⟩,rfl,rfl,b,by omega,a⟩
abbrev pS:tB:=(ByteArray.mk #[114,101,115,101,116],dZ,[])
def EI (g:GR) (d:aR) (c:bG):Prop:=Fe g d c∧Qt g.2.length (sC c) (bC c)∧∀v,v<g.2.length->rC c v=0
structure acl (g:GR) (kind:Int) (k len:Nat) (cs:zI) (cnts:List CT):Prop where
 l1:cs.length=k+1
 l2:cnts.length=k+1
 le:k<=len
 step:∀j,j<k->∃t,(∀i,t.testBit i=true->(oS (aQ pS g) RS (eH g) (at' cs (j:Int))).testBit i=true)∧oS (aQ pS g) RS (eH g) (at' cs (j:Int))≠0∧at' cs ((j+1:Nat):Int)=iA (aQ pS g) dZ RS (at' cs (j:Int)) t∧(kind=4->t=oS (aQ pS g) RS (eH g) (at' cs (j:Int)))
 fin:k=len∨oS (aQ pS g) RS (eH g) (at' cs (k:Int))=0
section
variable {g:GR} {d:List Int} {E:Nat} {par fp:Nat->Nat} (N:T_ g d E par fp) {kind:Int} (hk1:1<=kind) (hk4:kind<=4) {c0:List (List Int)} {ws:List Int} (hws:ws.length<=900) (hw:∀k:Nat,k<ws.length->∃m:Nat,at' ws (k:Int)=(m:Int)∧m<4294967296)
 include N
theorem adM {c:List (List Int)} (f:Bb g c dZ):(EI g d c->hZ 1000 g c=some true)∧(¬EI g d c->hZ 1000 g c=some false):=by
 obtain⟨b,a,e⟩:=Tt N.v N.c N.dist f;refine⟨λh=>by rw[a,e.2 h],λh=> ?_⟩
 cases b with
 |true=>exact absurd (e.1 Z) h
 |false=>exact a
theorem Hf {c:List (List Int)} (a:Bb g c dZ):oS (aQ pS g) RS (eH g) c=0↔EI g d c:=adZ N.v N.dist N.d0 N.p a
theorem Yv (a:Bb g c0 dZ):NJ g d E par (λv=>(D d v).toNat) (.tree 0) c0:=⟨a,Nat.zero_le _,LU N.d0 λv b=>(MK (W:=Qh) a b).1.1⟩
 include hk1 hk4 hws hw
theorem agB {i:SR} (s:NJ g d E par (λv=>(D d v).toNat) i c0):
  ∃k l f,lL 1000 wX g kind c0 ws=some (l,f,true)∧acl g kind k ws.length l f∧at' l 0=c0∧(∀j,j<=k->NR g d E par j (at' l (j:Int)) (at' f (j:Int)))∧
   (kind=4->∀j,j<=k->∃B,BM j (at' f (j:Int)) j B (oS (aQ pS g) RS (eH g) (at' l (j:Int)))∧yY (AL E) (7*E+4) (NJ g d E par (λv=>(D d v).toNat)) (TsR g d E par (λv=>(D d v).toNat)) j (oS (aQ pS g) RS (eH g) (at' l (j:Int))) (at' l (j:Int))):=by
 have A:=Yx (p:=pS) N.v N.dist N.d0 N.p (Ij N.v) N.e;have x:=OP (p:=pS) N.v N.dist N.d0 N.p (Ij N.v) N.e s;obtain⟨k,l,f,F,G,H,I,r,J,K⟩:=Px (Po 1000) abL N.v (Ij N.v) Pw hk1 hk4 s.1 hws hw (λk c o=>NR g d E par k c o∧(k=0->c=c0)∧
   (kind=4->∃B,BM k o k B (oS (aQ pS g) RS (eH g) c)∧yY (AL E) (7*E+4) (NJ g d E par (λv=>(D d v).toNat)) (TsR g d E par (λv=>(D d v).toNat)) k (oS (aQ pS g) RS (eH g) c) c))
  ⟨x,λ_=>rfl,λ_=>⟨0,Ll N.v RS c0,yY.start A s⟩⟩
  (λk c o t y L U z Q q h hk4 n=>⟨Rt (p:=pS) N.v N.dist N.d0 N.p (Ij N.v) N.e (by omega) z.1 q h n,λe=>by omega,λe=>by
   obtain⟨B,M,O⟩:=z.2.2 e;have R:t<16777216:=NI.lt N.v (λi P=>(Ak.1 (h i P)).1);have u:oS (aQ pS g) RS (eH g) (iA (aQ pS g) dZ RS c t)<16777216:=NI.lt N.v (Hg (aQ pS g) RS (eH g) _);obtain⟨T,C,S,a,b,c⟩:=Fb A O ⟨h,rfl⟩ M (by omega) R q u n;obtain⟨rfl,rfl⟩:=c (hk4 e);exact⟨C,a,b⟩⟩)
 exact⟨k,l,f,F,⟨G,H,I,J,K⟩,(r 0 (Nat.zero_le _)).2.1 Z,λj w=>(r j w).1,λe j w=>(r j w).2.2 e⟩
end
end Go.Proofs.YtmdlcmbplnhdnaaGreatDoor
namespace Go.Proofs.YtmdlcmbplnhdnaaGreatDoor
open Go.Sx
def xE  (a:Int):Option (Int):=
 some (a)
def oI (c:bG) (a:eZ) (b:iH->Option (Int)):Option (Int):=
 if a.2<(List.length c:Int)then(ck (0<=a.2∧a.2<(List.length c:Int)) (ck (0<=(5:Int)∧(5:Int)<(List.length (at' c a.2):Int)) (ck (0<=a.2) (b ((FX .u32 a.1 (vC .u32 (wI .u32 (at' (at' c a.2) (5:Int))) a.2)),(wI .i64 (a.2+(1:Int))))))))else(xE  (a.1))
def pQ (U:Nat) (a:cQ) (b:bG):Option (Int):=
 Option.bind (d_ U ((a.1,a.2)) b) λc=>(if(!c)=true then(some (0:Int))else(bJ (oI b) U ((0:Int),(0:Int))))
theorem acC:aW Tryz.prog 17:=Tryz.call17
theorem HJ (U:Nat) {n:cQ} {g:bG} (i:Value)  (j:Value)  (p:lX)  (k:Value)  (q:sH) (r:Int) (h:pQ U n g=some r):
  aX Tryz.prog 17 #[Value.agg #[i,j],k] [Sl bN i n.1,S2 bD j p n.2,S2 bN k q g] (λx:Unit=>vU (r)) (λx l=>l) (λ_ l=>l):=by
 refine aX.of Tryz.func17 Z Tryz.ntmps17 Z λc=>?_;refine aV<|aH (aM.box (cs:=[i,j]) Z Z) Z λv=>aD Z<|aL<|aJ<|aV<|eT 0 Z<|aA Z<|fH h λt u h=>aH (aM.callQ Wl (xS U i j p k q t u) Z (pO [0,1,2] Z)) Z λw=>aB (nR Z) Z<|aL ?_;refine Ai h Z (λ_ h=>?_) λ_ h=>?_
 ·refine aV<|aD Z<|aL<|aU<|aI ?_;cases h;exact tO Z
 refine cK<|aV<|aD Z<|aL<|aJ<|dR (λd=>xE  d=some r) (λd o=>[(5,vU (d))]) (λd o=>[]) ?_ ?_
 ·refine aV<|aA Z<|aB (iY Z (aE.fact 2 Z) Z) Z<|aA Z<|aL<|aS<|dU (oI g) (λa e=>[(5,vU (a.1)),(12,k),(13,vI (List.length g:Int)),(14,vI (a.2))]) (λa e=>[]) ((0:Int),(0:Int)) () h SF .nil ?_;intro s a e h;refine aV<|cM Z<|aL<|aJ ?_;refine eX h Z (λh=>?_) λh=>?_
  ·refine cK<|aJ<|aS<|aV<|aA Z<|cX h λb h=>aB (cA Z Z (aE.fact 2 Z) Z Z b) Z<|aB (cF Z (aE.fact 2 Z) Z Z b) Z<|aD Z<|aD Z<|aL<|aO<|aA Z<|aA Z<|cX h λf h=>aB (aY Z Z (aE.el (aE.fact 2 Z) b.1 b.2) Z Z f) Z<|aB (bV Z (aE.el (aE.fact 2 Z) b.1 b.2) Z Z Z dA f) Z<|aB (Fg Z Z Z) Z<|aA Z<|cX h λm h=>aB (HR Z Z m) Z<|aB (QL Z Z) Z<|aD Z<|eJ<|mI<|aO<|cJ Z<|aA Z<|aL ?_;exact xY ((FX .u32 a.1 (vC .u32 (wI .u32 (at' (at' g a.2) (5:Int))) a.2)),(wI .i64 (a.2+(1:Int)))) () h SF Z
  refine fC ?_;exact gY (a.1) () h SF Z
 intro d o h;unfold xE at h;refine aV<|aA Z<|aD Z<|aL<|aU ?_;cases h;exact kH Z
end Go.Proofs.YtmdlcmbplnhdnaaGreatDoor
namespace Go.Proofs.YtmdlcmbplnhdnaaGreatDoor
open Go Go.Sx
section
variable {g:GR} {d:List Int} {E:Nat} {par fp:Nat->Nat} (N:T_ g d E par fp)
 include N
theorem ad_ {c:List (List Int)} (a:Bb g c dZ):d_ 1000 g c=some true:=by
 have f:=N.v.n24;have i:=N.v.n1;have b:KN g (rH g) c:=cfS (by omega) a;have h:=Fi N.v (hs:=rH g) (by simp[rH]) c;have e:fJ 1000 (g.1,g.2)=some true:=(Aj N.v).1 N.c;unfold d_ Bq iD;rw[e,bE Z,bE Z,if_pos Z];have:dQ 1000 (g.1,g.2) c [(g.1.length:Int),-1,1,1,3,1]=dQ 1000 g c (rH g):=by rw[N.v.len];rfl
 rw[this,h.1 b];rfl
def MB (c:List (List Int)) (v:Nat):Bool:=decide (at' (at' c (v:Int)) 5=1)
theorem agx {c:List (List Int)} (a:Bb g c dZ):pQ 1000 g c=some ((vR (MB c) g.2.length:Nat):Int):=by
 have j:=N.v.n24;have m:=a.len;have n:∀v,v<g.2.length->(at' c (v:Int)).length=6:=a.row;have l:∀v,v<g.2.length->at' (at' c (v:Int)) 5=0∨at' (at' c (v:Int)) 5=1:=λv o=>(abh a o).2.2.2;unfold pQ;rw[show d_ 1000 (g.1,g.2) c=some true from ad_ N a,bE Z,if_neg (by simp),<-m];refine eY (step:=oI c) (K:=some ((vR (MB c) c.length:Nat):Int)) c.length (λk=>(((vR (MB c) k:Nat):Int),(k:Int))) (λk h r=> ?_) (λh=> ?_) 1000 (by omega)
 ·have q:=n k (by omega);have f:=Nc (MB c) (k:=k) (by omega);unfold oI;dsimp only;rw[if_pos (by omega),cD (by omega),cD (by omega),cD (by omega),CZ (by omega)];rcases l k (by omega)with e|e
  ·rw[e];have b:MB c k=false:=by unfold MB;rw[e];decide
   have p:vC .u32 (wI .u32 0) (k:Int)=((0:Nat):Int):=by
    have:∀k:Fin 32,vC .u32 (wI .u32 0) ((k:Nat):Int)=((0:Nat):Int):=by decide +kernel
    exact this ⟨k,by omega⟩
   rw[p,afK f (by omega),Nat.or_zero];simp only[vR,b,Bool.false_eq_true,if_false]
  ·rw[e];have b:MB c k=true:=by unfold MB;rw[e];decide
   have i:wI .u32 1=1:=by decide +kernel
   rw[i,Jw f (by omega)];simp only[vR,b,if_true]
 ·unfold oI;dsimp only;rw[if_neg (by omega)];rfl
end
end Go.Proofs.YtmdlcmbplnhdnaaGreatDoor
namespace Go.Proofs.YtmdlcmbplnhdnaaGreatDoor
open Go.Sx
def tY (U:Nat) (a:ByteArray):Option ((ByteArray×Int×Int×Int×Int×Int)):=
 some ((a,(2:Int),(0:Int),(0:Int),(0:Int),(0:Int)))
theorem QS:aW Tryz.prog 33:=Tryz.call33
theorem BH (U:Nat) {a:ByteArray} (r:PX) (h:tY U a=some r):
  aX Tryz.prog 33 #[vS (a)] [] (λx:Unit=>Value.agg #[vS (r.1),vI (r.2.1),vI (r.2.2.1),vI (r.2.2.2.1),vI (r.2.2.2.2.1),vI (r.2.2.2.2.2)]) (λx l=>l) (λ_ l=>l):=by
 refine aX.of Tryz.func33 Z Tryz.ntmps33 Z λc=>?_;unfold tY at h;refine aV<|aH (aM.alloc (cs:=vD3) Z Z) Z λb=>aL<|aV<|aA Z ?_;refine aB (Ce (r:=Value.agg #[vS (a),vI (2:Int),vI (0:Int),vI (0:Int),vI (0:Int),vI (0:Int)]) Z Z (by intro w;simp[Instr.build,Instr.fill,fD,eD,dJ,fE,fF,eF,gK])) Z ?_;refine bT 0 (vs:=[vS (a),vI (2:Int),vI (0:Int),vI (0:Int),vI (0:Int),vI (0:Int)]) Z Z Z Z Z Z<|aL<|aU ?_;cases h;exact iB () Z Z (RV.cell 0 Z Z Z Z) .nil aF.nil
def Gl (U:Nat)  : Option YG:=
 Option.bind (Gk U) λc=>(Option.bind (tY U (ByteArray.mk #[115])) λa=>(Option.bind (tY U (ByteArray.mk #[98])) λb=>(ck ((List.length c:Int)+(List.length ([(a.1,a.2.1,a.2.2.1,a.2.2.2.1,a.2.2.2.2.1,a.2.2.2.2.2),(b.1,b.2.1,b.2.2.1,b.2.2.2.1,b.2.2.2.2.1,b.2.2.2.2.2)]):Int)<=1099511627) (some (c++([(a.1,a.2.1,a.2.2.1,a.2.2.2.1,a.2.2.2.2.1,a.2.2.2.2.2),(b.1,b.2.1,b.2.2.1,b.2.2.2.1,b.2.2.2.2.1,b.2.2.2.2.2)]))))))
theorem acH:aW Tryz.prog 31:=Tryz.call31
theorem Nx (U:Nat)  (r:YH) (h:Gl U  = some r):
  aX Tryz.prog 31 #[] [] (λx:Value=>x) (λx l=>Ar iI x r::l) (λ_ l=>l):=by
 refine aX.of Tryz.func31 Z Tryz.ntmps31 Z λc=>?_;refine aV<|aD Z<|aL<|aV<|fH h λg j h=>aH (aM.callQ acN (Nw U  g j) Z .nil) Z λn=>fH h λa k h=>aH (aM.callQ QS (BH U  a k) Z .nil) Z λo=>fH h λb m h=>aH (aM.callQ QS (BH U  b m) Z .nil) Z λp=>aH (bW (e:=iI) ([((a.1,a.2.1,a.2.2.1,a.2.2.2.1,a.2.2.2.2.1,a.2.2.2.2.2)),((b.1,b.2.1,b.2.2.1,b.2.2.2.1,b.2.2.2.2.1,b.2.2.2.2.2))]) [(0,Value.agg #[vS (a.1),vI (a.2.1),vI (a.2.2.1),vI (a.2.2.2.1),vI (a.2.2.2.2.1),vI (a.2.2.2.2.2)]),(1,Value.agg #[vS (b.1),vI (b.2.1),vI (b.2.2.1),vI (b.2.2.2.1),vI (b.2.2.2.2.1),vI (b.2.2.2.2.2)])] Z Z Z Z (JS (vS (a.1)) (vI (a.2.1)) (vI (a.2.2.1)) (vI (a.2.2.2.1)) (vI (a.2.2.2.2.1)) (vI (a.2.2.2.2.2)) (vS (b.1)) (vI (b.2.1)) (vI (b.2.2.1)) (vI (b.2.2.2.1)) (vI (b.2.2.2.2.1)) (vI (b.2.2.2.2.2))) Z Z Z) Z λi=>cX h λd h=>aH (eO 1 iJ Z Z Z (bB (aE.res 0 Z) iJ) Z Z Z Z d Z) Z λf=>aD Z<|aL<|aU ?_;cases h;exact iB (f) Z Z (RV.tmp Z) (a_.ix [1] Z Z) aF.nil
def Ct (U:Nat)  : Option YG:=
 Option.bind (Gl U) λc=>(Option.bind (wS U (ByteArray.mk #[121]) (3:Int) (0:Int) (0:Int)) λa=>(Option.bind (tY U (ByteArray.mk #[114])) λb=>(ck ((List.length c:Int)+(List.length ([(a.1,a.2.1,a.2.2.1,a.2.2.2.1,a.2.2.2.2.1,a.2.2.2.2.2),(b.1,b.2.1,b.2.2.1,b.2.2.2.1,b.2.2.2.2.1,b.2.2.2.2.2)]):Int)<=1099511627) (some (c++([(a.1,a.2.1,a.2.2.1,a.2.2.2.1,a.2.2.2.2.1,a.2.2.2.2.2),(b.1,b.2.1,b.2.2.1,b.2.2.2.1,b.2.2.2.2.1,b.2.2.2.2.2)]))))))
theorem acz:aW Tryz.prog 12:=Tryz.call12
theorem Ny (U:Nat)  (r:YH) (h:Ct U  = some r):
  aX Tryz.prog 12 #[] [] (λx:Value=>x) (λx l=>Ar iI x r::l) (λ_ l=>l):=by
 refine aX.of Tryz.func12 Z Tryz.ntmps12 Z λc=>?_;refine aV<|aD Z<|aL<|aV<|fH h λg j h=>aH (aM.callQ acH (Nx U  g j) Z .nil) Z λn=>fH h λa k h=>aH (aM.callQ Wk (D_ U  a k) Z .nil) Z λo=>fH h λb m h=>aH (aM.callQ QS (BH U  b m) Z .nil) Z λp=>aH (bW (e:=iI) ([((a.1,a.2.1,a.2.2.1,a.2.2.2.1,a.2.2.2.2.1,a.2.2.2.2.2)),((b.1,b.2.1,b.2.2.1,b.2.2.2.1,b.2.2.2.2.1,b.2.2.2.2.2))]) [(0,Value.agg #[vS (a.1),vI (a.2.1),vI (a.2.2.1),vI (a.2.2.2.1),vI (a.2.2.2.2.1),vI (a.2.2.2.2.2)]),(1,Value.agg #[vS (b.1),vI (b.2.1),vI (b.2.2.1),vI (b.2.2.2.1),vI (b.2.2.2.2.1),vI (b.2.2.2.2.2)])] Z Z Z Z (JS (vS (a.1)) (vI (a.2.1)) (vI (a.2.2.1)) (vI (a.2.2.2.1)) (vI (a.2.2.2.2.1)) (vI (a.2.2.2.2.2)) (vS (b.1)) (vI (b.2.1)) (vI (b.2.2.1)) (vI (b.2.2.2.1)) (vI (b.2.2.2.2.1)) (vI (b.2.2.2.2.2))) Z Z Z) Z λi=>cX h λd h=>aH (eO 1 iJ Z Z Z (bB (aE.res 0 Z) iJ) Z Z Z Z d Z) Z λf=>aD Z<|aL<|aU ?_;cases h;exact iB (f) Z Z (RV.tmp Z) (a_.ix [1] Z Z) aF.nil
end Go.Proofs.YtmdlcmbplnhdnaaGreatDoor
namespace Go.Proofs.YtmdlcmbplnhdnaaGreatDoor
open Go Go.Sx
theorem aer:Ct 1000=some dZ:=by kernel_rfl
section
variable {g:GR} {d:List Int} {E:Nat} {par fp:Nat->Nat} (N:T_ g d E par fp)
 include N
theorem ajk {c:List (List Int)} (a:Bb g c dZ):∃b,hZ 1000 g c=some b∧(b=true↔EI g d c):=Tt N.v N.c N.dist a
end
def YI (n:Nat) (a:Nat->Nat) (c:bG):Prop:=
 (Qt n (sC c) (bC c)∧∃u,u<n∧rC c u≠0)∨(sC c 0≠0∧AG n a (sC c) (bC c)∧CL n a c)∨(Qt n (sC c) (bC c)∧∀v,v<n->rC c v=0∧yC c v=0)
section
variable {n E:Nat} {par dp:Nat->Nat} {c c':List (List Int)} {t:Nat} {z:Int} {h h':Nat->Int}
theorem YI.done (b:YI n par c) (d:0<n) (a:Qt n (sC c) (bC c)) (e:∀v,v<n->rC c v=0):∀v,v<n->yC c v=0:=by
 rcases b with⟨_,u,f,q⟩|⟨q,_⟩|⟨_,q⟩
 ·exact absurd (e u f) q
 ·exact absurd (a 0 d).1 q
 ·exact λv g=>(q v g).2
variable (hT:RT n E par dp) (hS:StS n par c t c')
 include hT hS
theorem abB (o:YI n par c) (g:¬(Qt n (sC c) (bC c)∧∀v,v<n->rC c v=0)):YI n par c':=by
 have l:=hS.ws;rcases o with⟨a,u,m,s⟩|⟨e,d,k⟩|⟨a,q⟩
 ·rcases Nn hT hS a with⟨_,_,x,_,y,_,A⟩|⟨f,_,b⟩
  ·exact .inr (.inl ⟨x,A,y⟩)
  ·exact .inl ⟨f,u,m,(b u m).1 s⟩
 ·rcases HB hT l d e with⟨i,j⟩|⟨r,p,i,j,a⟩
  ·exact .inr (.inl ⟨by rw[i];exact e,FW hT l d,MJ hT hS d e k j⟩)
  ·exact .inr (.inr ⟨a,MH hT hS k p r⟩)
 ·exact absurd ⟨a,λv w=>(q v w).1⟩ g
end
theorem Pj {g:GR} {d:aR} {E:Nat} {a b:Nat->Nat} {c:bG} {i:SR} (h:NJ g d E a b i c) (e:AL E i=7*E+4):EI g d c:=by
 obtain⟨_,h⟩:=h
 match i,h,e with
 | .tree k,⟨q,_⟩,he=>simp only[AL]at he;omega
 | .good k,⟨q,_⟩,he=>simp only[AL]at he;omega
 | .lev false k,⟨q,_⟩,he=>simp only[AL]at he;omega
 | .lev true k,⟨q,_⟩,he=>simp only[AL]at he;omega
 | .low false k,⟨q,_⟩,he=>simp only[AL]at he;omega
 | .low true k,⟨q,_⟩,he=>simp only[AL]at he;omega
 | .ask k u,⟨q,_⟩,he=>simp only[AL]at he;omega
 | .done,hi,_=>exact hi
theorem ajm {g:GR} {d:aR} {c a:bG} (t:Bb g c dZ) (n:EI g d c) (u:a.length=g.2.length) (e:∀v,v<g.2.length->(at' a (v:Int)).length=6)
  (h:∀v,v<g.2.length->iM a v 0=iM c v 0∧iM a v 1=iM c v 1∧iM a v 2=iM c v 2∧iM a v 3=iM c v 3∧(0<=iM a v 4∧iM a v 4<=3)∧(0<=iM a v 5∧iM a v 5<=1)) (s:0<g.2.length):Bb g a dZ∧Fe g d a∧Qt g.2.length (sC a) (bC a):=by
 refine⟨⟨u,e,λv b x f=> ?_⟩,λv b=> ?_,λv b=> ?_⟩
 ·obtain⟨i,j,l,m,o,p⟩:=h v b;have f:x<6:=f;have k:=t.ok v b x f
  match x,f,k with
  |0,_,k=>exact(by rw[show val a v 0=val c v 0 from i];exact k)
  |1,_,k=>exact(by rw[show val a v 1=val c v 1 from j];exact k)
  |2,_,k=>exact(by rw[show val a v 2=val c v 2 from l];exact k)
  |3,_,k=>exact(by rw[show val a v 3=val c v 3 from m];exact k)
  | 4, _, _ =>
   have r:hi g (at' dZ ((4:Nat):Int)) v=3:=by
    show(3:Int)+0*(g.2.length:Int)+0*kA g g.1.length=3;omega
   rw[r];exact o
  |5,_,_=>exact p
 ·obtain⟨i,j,_⟩:=h v b;show iM a v 0=_∧oB g d v (iM a v 1);rw[i,j];exact n.1 v b
 ·obtain⟨_,_,l,m,_⟩:=h v b;obtain⟨_,_,_,q,_⟩:=h 0 s;show iM a v 2=0∧iM a v 3=iM a 0 3;rw[l,m,q];exact n.2.1 v b
section
variable {g:GR} {d:List Int} {E:Nat} {par fp:Nat->Nat} (N:T_ g d E par fp) {kind:Int} (hk1:1<=kind) (hk4:kind<=4) {c0:List (List Int)} {ws:List Int} (hws:ws.length<=900) (hw:∀k:Nat,k<ws.length->∃m:Nat,at' ws (k:Int)=(m:Int)∧m<4294967296)
 include N hws hw
theorem agF (u:7*E+4<=ws.length) (q:Bb g c0 dZ):∃k b a,lL 1000 wX g 4 c0 ws=some (b,a,true)∧b.length=k+1∧Bb g (at' b (k:Int)) dZ∧EI g d (at' b (k:Int)):=by
 obtain⟨k,b,a,j,c,_,l,n⟩:=agB N (kind:=4) (by decide) (by decide) hws hw (Yv N q);have h:=(l k (Nat.le_refl k)).r;refine⟨k,b,a,j,c.l1,h,?_⟩
 rcases c.fin with e|e
 ·obtain⟨B,f,o⟩:=n Z k (Nat.le_refl k);obtain⟨i,t,s⟩:=yY.done (Yx (p:=pS) N.v N.dist N.d0 N.p (Ij N.v) N.e) o (by omega);exact Pj t s
 ·exact(Hf N h).1 e
 include hk1 hk4
theorem agy (K:Bb g c0 dZ) (w:Fe g d c0) (hQ:Qt g.2.length (sC c0) (bC c0)) {u:Nat} (W:u<g.2.length) (s:rC c0 u≠0):
  ∃k o f,lL 1000 wX g kind c0 ws=some (o,f,true)∧acl g kind k ws.length o f∧at' o 0=c0∧(∀j,j<=k->Bb g (at' o (j:Int)) dZ∧(at' f (j:Int)).2.2.2.1<=3*(E:Int)+2∧Fe g d (at' o (j:Int)))∧
   ∀j,j<k->¬EI g d (at' o (j:Int))∧∃t,StS g.2.length par (at' o (j:Int)) t (at' o ((j+1:Nat):Int)):=by
 have U:=(Yx (p:=pS) N.v N.dist N.d0 N.p (Ij N.v) N.e).shift (4*E+2);have J:RT g.2.length E par (λv=>(D d v).toNat):=Tw N.v N.dist N.d0 N.p N.e;have hp:NJ g d E par (λv=>(D d v).toNat) (.ask 0 u) c0:=⟨K,Nat.zero_le _,w,hQ,W,by have:=J.le u W;omega,s⟩
 obtain⟨k,o,f,Y,a2,a3,a4,x,S,a7⟩:=Px (Po 1000) abL N.v (Ij N.v) Pw hk1 hk4 K hws hw (λk c y=>Bb g c dZ∧(k=0->c=c0)∧Fe g d c∧
   ∃R B I,BM k y R B I∧yY (λi=>AL E i - (4*E+2)) (7*E+4 - (4*E+2)) (λi c=>NJ g d E par (λv=>(D d v).toNat) i c∧4*E+2<=AL E i) (TsR g d E par (λv=>(D d v).toNat)) R I c∧B<=3*E+2)
  ⟨K,λ_=>rfl,w,0,0,_,Ll N.v RS c0,yY.start U (i:= .ask 0 u) ⟨hp,Nat.le_refl _⟩,Nat.zero_le _⟩
  (λk c y t T aa hk G M F n hk4 r=>by
   obtain⟨s,_,w,R,B,I,l,G,hB⟩:=G;have L:¬EI g d c:=λq=>M ((Hf N s).2 q);have hR:R+1<=3*E+2:=by
    obtain⟨i,⟨H,hb⟩,h⟩:=G;have ac:=Ya H;have ad:AL E i≠7*E+4:=λe=>L (Pj H e);dsimp only at h;rcases h with h|h|h<;>omega
   have V:t<16777216:=NI.lt N.v (λi H=>(Ak.1 (n i H)).1);have A:oS (aQ pS g) RS (eH g) (iA (aQ pS g) dZ RS c t)<16777216:=NI.lt N.v (Hg (aQ pS g) RS (eH g) _);obtain⟨X,Q,P,a,b,_⟩:=Fb U G ⟨n,rfl⟩ l (by omega) V F A r;have ab:Q=R+1:=by
    have hb:=a.begun;obtain⟨ae,_,q⟩:=l.add (by omega) V F A r;rcases q with⟨_,q⟩|⟨_,q⟩<;>(have:=q.begun;omega)
   have z:=Yt (p:=pS) (t:=t) N.v N.dist N.d0 N.p (Ij N.v) s λv O=>Ak.1 (n v O);exact⟨z.rc,λe=>by omega,(z.ws w).1,X,Q,P,a,b,by omega⟩)
 refine⟨k,o,f,Y,⟨a2,a3,a4,S,a7⟩,(x 0 (Nat.zero_le _)).2.1 Z,λj C=>⟨(x j C).1,?_,(x j C).2.2.1⟩,λj C=> ?_⟩
 ·obtain⟨_,_,_,R,B,I,l,_,hB⟩:=x j C;have:=l.begun;omega
 ·obtain⟨s,_,w,_⟩:=x j (by omega);obtain⟨t,h1,h2,h3,_⟩:=S j C;refine⟨λq=>h2 ((Hf N s).2 q),t,?_⟩
  rw[h3];exact Yu (p:=pS) N.v N.dist N.d0 N.p s w λv O=>Ak.1 (h1 v O)
theorem aam (C:Bb g c0 dZ) (A:Fe g d c0) (n:Qt g.2.length (sC c0) (bC c0)) {u:Nat} (r:u<g.2.length) (o:rC c0 u≠0):
  ∃k b a,lL 1000 wX g kind c0 ws=some (b,a,true)∧acl g kind k ws.length b a∧Bb g (at' b (k:Int)) dZ∧(at' a (k:Int)).2.2.2.1<=3*(E:Int)+2∧(EI g d (at' b (k:Int))->∀v,v<g.2.length->yC (at' b (k:Int)) v=0):=by
 have c:RT g.2.length E par (λv=>(D d v).toNat):=Tw N.v N.dist N.d0 N.p N.e;obtain⟨k,b,a,s,w,x,l,y⟩:=agy N hk1 hk4 hws hw C A n r o;have B:∀j,j<=k->YI g.2.length par (at' b (j:Int)):=by
  intro j
  induction j with
  |zero=>exact λ_=>by rw[show((0:Nat):Int)=0 from rfl,x];exact .inl ⟨n,u,r,o⟩
  |succ j F=>
   intro G;obtain⟨f,t,i⟩:=y j (by omega);refine abB c i (F (by omega)) λq=> ?_;exact f ⟨(l j (by omega)).2.2,q⟩
 obtain⟨h,z,_⟩:=l k (Nat.le_refl k);exact⟨k,b,a,s,w,h,z,λq=>(B k (Nat.le_refl k)).done N.v.n1 q.2.1 q.2.2⟩
end
end Go.Proofs.YtmdlcmbplnhdnaaGreatDoor
namespace Go.Proofs.YtmdlcmbplnhdnaaGreatDoor
open Go.Sx
def sT (U:Nat)  : Option (ByteArray):=
 some (ByteArray.mk #[112,114,111,103,114,97,109,32,114,101,115,101,116,59,10,118,97,114,32,100,32,58,32,48,32,46,46,32,110,59,10,118,97,114,32,112,32,58,32,112,111,114,116,59,10,118,97,114,32,115,32,58,32,98,111,111,108,59,10,118,97,114,32,98,32,58,32,98,111,111,108,59,10,118,97,114,32,121,32,58,32,48,32,46,46,32,51,59,10,118,97,114,32,114,32,58,32,98,111,111,108,59,10,114,117,108,101,32,116,111,112,58,32,114,111,111,116,32,38,38,32,40,100,32,33,61,32,48,32,124,124,32,112,32,33,61,32,110,111,110,101,41,32,45,62,32,100,32,58,61,32,48,44,32,112,32,58,61,32,110,111,110,101,59,10,114,117,108,101,32,108,111,119,58,32,33,114,111,111,116,32,38,38,32,40,100,32,33,61,32,40,109,105,110,40,113,46,100,41,32,60,32,110,32,63,32,109,105,110,40,113,46,100,41,32,43,32,49,32,58,32,110,41,32,124,124,32,112,32,33,61,32,102,105,114,115,116,40,113,46,100,32,61,61,32,109,105,110,40,113,46,100,41,41,41,10,32,32,45,62,32,100,32,58,61,32,40,109,105,110,40,113,46,100,41,32,60,32,110,32,63,32,109,105,110,40,113,46,100,41,32,43,32,49,32,58,32,110,41,44,32,112,32,58,61,32,102,105,114,115,116,40,113,46,100,32,61,61,32,109,105,110,40,113,46,100,41,41,59,10,114,117,108,101,32,98,101,103,105,110,58,32,114,111,111,116,32,38,38,32,33,115,32,38,38,32,114,32,45,62,32,115,32,58,61,32,116,114,117,101,44,32,98,32,58,61,32,33,98,44,32,121,32,58,61,32,48,44,32,114,32,58,61,32,102,97,108,115,101,59,10,114,117,108,101,32,116,97,107,101,58,32,33,114,111,111,116,32,38,38,32,115,111,109,101,40,113,32,61,61,32,112,32,38,38,32,40,113,46,98,32,33,61,32,98,32,124,124,32,115,32,38,38,32,33,113,46,115,41,41,32,45,62,32,115,32,58,61,32,115,111,109,101,40,113,32,61,61,32,112,32,38,38,32,113,46,115,41,44,32,98,32,58,61,32,115,111,109,101,40,113,32,61,61,32,112,32,38,38,32,113,46,98,41,44,32,121,32,58,61,32,48,44,32,114,32,58,61,32,102,97,108,115,101,59,10,114,117,108,101,32,102,105,110,105,115,104,58,32,115,32,38,38,32,97,108,108,40,113,46,112,32,33,61,32,113,46,98,97,99,107,32,124,124,32,33,113,46,115,32,38,38,32,113,46,98,32,61,61,32,98,41,32,45,62,32,115,32,58,61,32,102,97,108,115,101,59,10,114,117,108,101,32,97,115,107,58,32,33,115,32,38,38,32,33,114,32,38,38,32,115,111,109,101,40,113,46,112,32,61,61,32,113,46,98,97,99,107,32,38,38,32,113,46,114,32,38,38,32,33,113,46,115,41,32,45,62,32,114,32,58,61,32,116,114,117,101,59,10])
theorem Wg:aW Tryz.prog 10:=Tryz.call10
theorem GJ (U:Nat)  (r:ByteArray) (h:sT U  = some r):
  aX Tryz.prog 10 #[] [] (λx:Unit=>vS (r)) (λx l=>l) (λ_ l=>l):=by
 refine aX.of Tryz.func10 Z Tryz.ntmps10 Z λc=>?_;unfold sT at h;refine aV<|aD Z<|aL<|aV<|aD Z<|aL<|aU ?_;cases h;exact kH Z
end Go.Proofs.YtmdlcmbplnhdnaaGreatDoor
namespace Go.Proofs.YtmdlcmbplnhdnaaGreatDoor
open Go Go.Sx Go.Gx
set_option maxRecDepth 100000
def tW (a:Nat):Option (Bool):=some (true)
theorem QR:aW Tryz.prog 18:=Tryz.call18
theorem WC:okT (JB HC gp2 4000 18 [] H0)=true:=by kernel_rfl
theorem EU (a:Nat) (r:Bool) (h:tW a=some r):
  aX Tryz.prog 18 #[] [Gb 0 (cellsOf HO xJ)] (λx:Unit=>Value.bool (r)) (λx l=>l) (λ_ l=>l):=by
 obtain rfl:=Option.some.inj h;obtain⟨d,c⟩:=XW WC;rw[FZ Gu]at c;exact Nf Xh QR (λf e h=>h.bool_inv) λT b=>FY (gs:=gl T) ajh c (fI.start b Z) .nil
end Go.Proofs.YtmdlcmbplnhdnaaGreatDoor
namespace Go.Proofs.YtmdlcmbplnhdnaaGreatDoor
open Go.Sx
noncomputable def lG  (a:Bool):Option (Bool):=
 some (a)
noncomputable def lH  (a:Bool):Option (Bool):=
 some (a)
noncomputable def rX (U:Nat) (d:Int) (a:TG) (c:Unit):Option (Bool):=
 Option.bind (tW U) λb=>(if b=true then(ck (0<=(wI .i64 ((List.length a.2.1:Int) - (1:Int)))∧(wI .i64 ((List.length a.2.1:Int) - (1:Int)))<(List.length a.2.1:Int)) (lH  (decide (((at' a.2.1 (wI .i64 ((List.length a.2.1:Int) - (1:Int)))).2.2.2.1)<=(wI .i64 ((wI .i64 ((3:Int)*d))+(2:Int)))))))else(lH  (false)))
noncomputable def lJ (U:Nat) (d:EW) (e:Int) (a:TG) (b:Int) (c:(Int)->Option (Bool)):Option (Bool):=
 if b<(List.length d.2:Int)then(ck (0<=b∧b<(List.length (at' a.1 (wI .i64 ((List.length a.1:Int) - (1:Int)))):Int)) (ck (0<=(4:Int)∧(4:Int)<(List.length (at' (at' a.1 (wI .i64 ((List.length a.1:Int) - (1:Int)))) b):Int)) (if(at' (at' (at' a.1 (wI .i64 ((List.length a.1:Int) - (1:Int)))) b) (4:Int))≠(0:Int)then(some (false))else(c (wI .i64 (b+(1:Int)))))))else(rX U e a (()))
noncomputable def oE (U:Nat) (k:aR) (l:Int) (m:aR) (b:EW) (j:Int) (d:Int) (c:bG):Option (Bool):=
 Option.bind (pQ U ((b.1,b.2)) c) λe=>(if e≠(FX .u32 (dD .u32 l d) (vC .u32 (1:Int) (wI .u64 (Int.tmod (List.length k:Int) (List.length b.2:Int)))))then(some (false))else(Option.bind (sT U) λf=>(Option.bind (lM U m (200:Int)) λg=>(Option.bind (lL U f ((b.1,b.2)) (3:Int) c g) λa=>(if(!a.2.2)=true then(some (false))else(ck (0<=(wI .i64 ((List.length a.1:Int) - (1:Int)))∧(wI .i64 ((List.length a.1:Int) - (1:Int)))<(List.length a.1:Int)) (Option.bind (hZ U ((b.1,b.2)) (at' a.1 (wI .i64 ((List.length a.1:Int) - (1:Int))))) λh=>(if(!h)=true then(Option.bind (tW U) λi=>(if i=true then(ck (0<=(wI .i64 ((List.length a.2.1:Int) - (1:Int)))∧(wI .i64 ((List.length a.2.1:Int) - (1:Int)))<(List.length a.2.1:Int)) (lG  (decide (((at' a.2.1 (wI .i64 ((List.length a.2.1:Int) - (1:Int)))).2.2.2.1)<=(wI .i64 ((wI .i64 ((3:Int)*j))+(2:Int)))))))else(lG  (false))))else(bJ (lJ U b j a) U (0:Int))))))))))
noncomputable def lI (b:Int×bG) (a:(Int×bG)->Option (Bool)) (c:bG):Option (Bool):=
 a ((wI .i64 (b.1+(1:Int))),c)
noncomputable def jI (U:Nat) (f:aR) (g:Int) (h:aR) (e:EW) (i:Int) (d:Int) (a:Int×bG) (b:(Int×bG)->Option (Bool)):Option (Bool):=
 if a.1<(List.length e.2:Int)then(ck (0<=a.1∧a.1<(List.length a.2:Int)) (ck ((4:Int)≠0) (ck (0<=(4:Int)∧(4:Int)<(List.length (at' a.2 a.1):Int)) (Option.bind (Br U (FX .u32 (dD .u32 g d) (vC .u32 (1:Int) (wI .u64 (Int.tmod (List.length f:Int) (List.length e.2:Int))))) a.1) λc=>(if c=true then(ck (0<=a.1∧a.1<(List.length (List.set a.2 (Int.toNat a.1) (List.set (at' a.2 a.1) (Int.toNat (4:Int)) (Int.tmod a.1 (4:Int)))):Int)) (ck (0<=(5:Int)∧(5:Int)<(List.length (at' (List.set a.2 (Int.toNat a.1) (List.set (at' a.2 a.1) (Int.toNat (4:Int)) (Int.tmod a.1 (4:Int)))) a.1):Int)) (lI a b (List.set (List.set a.2 (Int.toNat a.1) (List.set (at' a.2 a.1) (Int.toNat (4:Int)) (Int.tmod a.1 (4:Int)))) (Int.toNat a.1) (List.set (at' (List.set a.2 (Int.toNat a.1) (List.set (at' a.2 a.1) (Int.toNat (4:Int)) (Int.tmod a.1 (4:Int)))) a.1) (Int.toNat (5:Int)) (1:Int))))))else(lI a b (List.set a.2 (Int.toNat a.1) (List.set (at' a.2 a.1) (Int.toNat (4:Int)) (Int.tmod a.1 (4:Int))))))))))else(oE U f g h e i d (a.2))
noncomputable def oD (U:Nat) (e:aR) (f:Int) (g:aR) (b:EW) (h:Int) (a:TG) (c:Bool):Option (Bool):=
 if c=true then(some (false))else(ck (0<=(wI .i64 ((List.length a.1:Int) - (1:Int)))∧(wI .i64 ((List.length a.1:Int) - (1:Int)))<(List.length a.1:Int)) (Option.bind (vO U (List.length b.2:Int)) λd=>(ck ((List.length b.2:Int)≠0) (ck (0<=(wI .u64 (Int.tmod (List.length e:Int) (List.length b.2:Int)))) (bJ (jI U e f g b h d) U ((0:Int),(at' a.1 (wI .i64 ((List.length a.1:Int) - (1:Int))))))))))
noncomputable def tJ (U:Nat) (c:Di) (e:aR) (k:Int) (l:aR):Option (Bool):=
 Option.bind (fG U ((c.1,c.2.1,c.2.2.1,c.2.2.2.1,c.2.2.2.2.1,c.2.2.2.2.2)) (6:Int)) λb=>(Option.bind (jM U ((b.1,b.2)) (0:Int)) λj=>(Option.bind (sT U) λf=>(Option.bind (Ct U) λg=>(Option.bind (nA U ((b.1,b.2)) g e) λh=>(Option.bind (lM U ([]:aR) (wI .i64 ((wI .i64 ((7:Int)*j))+(4:Int)))) λi=>(Option.bind (lL U f ((b.1,b.2)) (4:Int) h i) λa=>(if(!a.2.2)=true then(oD U e k l b j a (true))else(ck (0<=(wI .i64 ((List.length a.1:Int) - (1:Int)))∧(wI .i64 ((List.length a.1:Int) - (1:Int)))<(List.length a.1:Int)) (Option.bind (hZ U ((b.1,b.2)) (at' a.1 (wI .i64 ((List.length a.1:Int) - (1:Int))))) λd=>(oD U e k l b j a ((!d))))))))))))
theorem EG (U:Nat) {p0:Di} {p1:aR} {p2:Int} {p3:aR} (v0:Value)  (v1:Value)  (v2:Value)  (v3:Value)  (R:Value) (r:Bool) (h:tJ U p0 p1 p2 p3=some r):
  aX Tryz.prog 3 #[Value.agg #[vI (p0.1),v0,v1,v2,vB (p0.2.2.2.2.1),vB (p0.2.2.2.2.2)],v3,vU (p2),R] [Sl bN v0 p0.2.1,Sl bN v1 p0.2.2.1,Sl bN v2 p0.2.2.2.1,Sl bN v3 p1,Sl zK R p3,Gb 0 (cellsOf HO xJ)] (λx:Unit=>vB (r)) (λx l=>l) (λ_ l=>l):=by
 refine aX.of Tryz.func3 Z Tryz.ntmps3 Z λc=>?_;refine aV<|aH (aM.box (cs:=[vI (p0.1),v0,v1,v2,vB (p0.2.2.2.2.1),vB (p0.2.2.2.2.2)]) Z Z) Z λb1=>aD Z<|aL<|aV<|eT 0 Z<|fH h λg w3 h=>aH (aM.callQ afP (BY U v0 v1 v2 g w3) Z (pO [0,1,2] Z)) Z λe=>aH (aM.alloc (cs:=[k_,k_]) Z Z) Z λJ=>bZ (Know.one ((bB (aE.res 1 Z) dM))) λav=>bZ (Know.one (aE.sl (bO (i:=2) (j:=3) Z Z bQ))) λaw=>bT 0 (vs:=[e.1,e.2.1]) Z Z (kY av (kY aw Z)) Z Z Z<|aL<|aV<|bS Z<|dC 0 Z<|aB (iY Z (bO (i:=2) (j:=3) Z Z bQ) Z) Z<|aD Z<|aL<|aV<|eT 0 Z<|fH h λv w9 h=>aH (aM.callQ afQ (DZ U e.1 e.2.1 (List.zip e.2.2 g.2) v w9) Z (aF.cons (bB (aE.res 1 Z) dM) (aF.cons (bO (i:=2) (j:=3) Z Z bQ) .nil))) Z λbp=>aD Z<|aL<|aJ ?_;refine JR.start [0,0,0,1,0,29,0,64,192,509,1023,2047,4095,4095,4095,8191,49151,131071] 17 mixedOrders (by decide +kernel) ?_;refine JR.open (by exact rfl)<|fH h λaC a4 h=>JR.loud Z Z Z (aM.callQ Wg (GJ U  aC a4) Z .nil) Z (λbh=>Ac.z) λbh=>bL Z (a_.cons 0 Z .nil) .nil (i_ 0 Z Z Z Z) (aP.h (a_.ix [0] Z Z) .nil aP.z)<|bL Z (a_.cons 0 Z .nil) .nil (i_ 0 Z Z Z Z) (aP.h (a_.ix [0] Z Z) .nil aP.z)<|fH h λaK a5 h=>JR.loud Z Z Z (aM.callQ acz (Ny U  aK a5) Z .nil) Z (λaq=>(v_ [([1],[]),([1],[])] Z)) λaq=>iF Z (gQ Z)<|fH h λan a6 h=>JR.loud Z Z Z (aM.callQ acy (KD U e.1 e.2.1 (List.zip e.2.2 g.2) aq v3 an a6) Z (aF.cons (bB (aE.res 2 Z) dM) (aF.cons (bO (i:=3) (j:=4) Z Z bQ) (aF.cons (bB (aE.res 0 Z) iJ) (pO [3] Z))))) Z (λS=>(v_ [([3],[])] Z)) λS=>iF Z (gQ Z)<|iF Z (zL Z Z)<|iF Z (vA Z Z)<|fH h λaQ a7 h=>JR.loud Z Z Z (aM.callQ Wh (Ea U (k_) aQ a7) Z (aF.cons aE.nil .nil)) Z (λar=>(v_ [([4],[])] Z)) λar=>fH h λb a8 h=>JR.loud Z Z Z (aM.callQ abI (Ie U e.1 e.2.1 (List.zip e.2.2 g.2) S.1 (List.zip S.2 an) ar b a8) Z (aF.cons (bB (aE.res 5 Z) dM) (aF.cons (bO (i:=6) (j:=7) Z Z bQ) (aF.cons (bO (i:=1) (j:=2) Z Z dM) (aF.cons (bB (aE.res 0 Z) tR) (pO [5] Z)))))) Z (λd=>(v_ [] Z)) λd=>iF Z (gQ Z)<|iF Z (lS Z Z)<|iF Z (lS Z Z)<|iF Z (lS Z Z)<|iF Z (lY Z)<|iF Z (lY Z)<|bP 17 Z Z<|aD Z<|aL<|aJ<|aJ<|dR (λA=>oD U p1 p2 p3 g v b A=some r) (λA T=>[(1,v3),(2,vU (p2)),(3,R),(9,vP J),(10,vI (List.length g.2:Int)),(11,vI (v)),(12,d.1),(56,vB (A))]) (λA T=>[Ar cY.raw d.1 d.2.1,KP cC d.2.1 d.2.2.1 b.1,bU J [e.1,e.2.1] 29,Ar cC e.1 g.1,Ar cY.raw e.2.1 e.2.2,kX b_ e.2.2 g.2]) ?_ ?_
 ·refine JR.start [0,1,3,7,7,7,39,103,247,503,1023,2047,4095] 10 mixedOrders (by decide +kernel) ?_;refine JR.open (by exact rfl) ?_;refine bH Z<|iF Z (nR Z)<|bH Z ?_;refine JR.guard (by exact rfl) (by exact rfl) (by exact rfl) (λt=>?_) (λt=>?_)
  ·have h:=Lz t h;refine bY Z Z Z Z<|bY Z Z Z Z<|bY Z Z Z Z<|bY Z Z Z Z<|bY Z Z Z Z<|bY Z Z Z Z<|bY Z Z Z Z<|bP 10 Z Z<|aG Z<|aG Z<|dV Z<|aL ?_;exact cH (true) () h SF (a_.ix [0,1,7,8,9,10] Z Z) (aF.refl _ _)
  have h:=Hn t h;refine iK Z (a_.cons 7 Z .nil) .nil (i_ 0 Z Z Z Z) aP.z<|iK Z .nil .nil (gQ Z) aP.z<|iK Z .nil .nil (gQ Z) aP.z<|iK Z (a_.cons 0 Z (a_.cons 0 Z .nil)) .nil (Dp 0 1 Z Z Z Z) aP.z<|iK Z .nil .nil (lA Z Z) aP.z<|cX h λq h=>eN (rQ 1 Z) λP=>?_;refine iK Z (a_.cons 0 Z .nil) .nil (iU 0 Z Z Z Z Z q.1 (by have q1:=q.2;have q2:=P;(try simp only[List.length_set]at q1);(try simp only[List.length_set]at q2);(try simp only[List.length_set]);omega)) aP.z ?_;refine eN (rQ 1 Z) λQ=>iK Z (a_.cons 0 Z .nil) .nil (jD 0 Z Z Q Z Z q) aP.z<|bP 10 Z Z<|fH h λM ap h=>qB Z (aM.callQ QP (BI U e.1 e.2.1 (List.zip e.2.2 g.2) (at' d.2.1 (wI .i64 ((List.length b.1:Int) - (1:Int)))) (List.zip (at' d.2.2.1 (wI .i64 ((List.length b.1:Int) - (1:Int)))) (at' b.1 (wI .i64 ((List.length b.1:Int) - (1:Int))))) M ap) Z (aF.cons (bB (aE.res 8 Z) dM) (aF.cons (bO (i:=9) (j:=10) Z Z bQ) (aF.cons (VD (j:=1) Z dM q.1 q.2) .nil)))) Z λbn=>aN Z (nR Z) Z<|fK Z<|aL ?_;exact cH ((!M)) () h SF (a_.ix [0,1,7,8,9,10] Z Z) (aF.refl _ _)
 intro A T h;refine Ai h Z (λ_ h=>?_) λ_ h=>?_
 ·refine aV<|aD Z<|aL<|aU<|aI ?_;cases h;exact tO Z
 refine cK<|aV<|aA Z<|aA Z<|aB (Dp 0 1 Z Z Z Z) Z<|aB (lA Z Z) Z<|cX h λH h=>bZ (rQ 1 Z) λad=>?_;refine aB (iU 0 Z Z Z Z Z H.1 (by have q1:=H.2;have q2:=ad;(try simp only[List.length_set]at q1);(try simp only[List.length_set]at q2);(try simp only[List.length_set]);omega)) Z ?_;refine bZ (rQ 1 Z) λae=>iS (HQ (k:=(wI .i64 ((List.length b.1:Int) - (1:Int)))) 1 Z H)<|aB (jD 2 Z Z ae Z Z H) Z<|aD Z<|aL<|aJ ?_;refine JR.start [0,0,2,7,0,16,0,112,240,496,1023,2047] 10 mixedOrders (by decide +kernel) ?_;refine JR.open (by exact rfl) ?_;refine bH Z<|bH Z<|fH h λu a9 h=>JR.loud Z Z Z (aM.callQ acA (PO U  u a9) Z .nil) Z (λbi=>(v_ [] Z)) λbi=>iF Z (Lg Z Z)<|iF Z (gQ Z)<|bL Z .nil (lR 3 Z) (fW Z (aE.fact 0 Z) Z) (aP.h .nil (lR 3 Z) aP.z)<|iF Z (gQ Z)<|cX h λax h=>iF Z (Jr Z Z ax)<|iF Z (Fg Z Z Z)<|cX h λay h=>iF Z (HR Z Z ay)<|bP 10 Z Z<|aB (QL Z Z) Z<|aD Z<|aL<|aJ<|dR (λs=>oE U p1 p2 p3 g v u s=some r) (λs V=>[(2,vU (FX .u32 (dD .u32 p2 u) (vC .u32 (1:Int) (wI .u64 (Int.tmod (List.length p1:Int) (List.length g.2:Int)))))),(3,R),(9,vP J),(10,vI (List.length g.2:Int)),(11,vI (v)),(15,at' d.2.1 (wI .i64 ((List.length b.1:Int) - (1:Int))))]) (λs V=>[Ar cY.raw (at' d.2.1 (wI .i64 ((List.length b.1:Int) - (1:Int)))) (at' d.2.2.1 (wI .i64 ((List.length b.1:Int) - (1:Int)))),kX cC (at' d.2.2.1 (wI .i64 ((List.length b.1:Int) - (1:Int)))) s,bU J [e.1,e.2.1] 29,Ar cC e.1 g.1,Ar cY.raw e.2.1 e.2.2,kX b_ e.2.2 g.2]) ?_ ?_
 ·refine aV<|aD Z<|aL<|aS<|dU (jI U p1 p2 p3 g v u) (λa ab=>[(2,vU (FX .u32 (dD .u32 p2 u) (vC .u32 (1:Int) (wI .u64 (Int.tmod (List.length p1:Int) (List.length g.2:Int)))))),(3,R),(9,vP J),(10,vI (List.length g.2:Int)),(11,vI (v)),(15,at' d.2.1 (wI .i64 ((List.length b.1:Int) - (1:Int)))),(16,vI (a.1))]) (λa ab=>[Ar cY.raw (at' d.2.1 (wI .i64 ((List.length b.1:Int) - (1:Int)))) (at' d.2.2.1 (wI .i64 ((List.length b.1:Int) - (1:Int)))),kX cC (at' d.2.2.1 (wI .i64 ((List.length b.1:Int) - (1:Int)))) a.2,bU J [e.1,e.2.1] 29,Ar cC e.1 g.1,Ar cY.raw e.2.1 e.2.2,kX b_ e.2.2 g.2]) ((0:Int),(at' b.1 (wI .i64 ((List.length b.1:Int) - (1:Int))))) () h SF (a_.ix [0,1,3,4,5,6] Z Z) ?_;intro az a ab h;refine aJ<|aV<|aA Z<|aA Z<|cM Z<|aL ?_;refine eX h Z (λh=>?_) λh=>?_
  ·refine cK<|aJ<|dR (λw=>lI a (bJ (jI U p1 p2 p3 g v u) az) w=some r) (λw ac=>[(2,vU (FX .u32 (dD .u32 p2 u) (vC .u32 (1:Int) (wI .u64 (Int.tmod (List.length p1:Int) (List.length g.2:Int)))))),(3,R),(9,vP J),(10,vI (List.length g.2:Int)),(11,vI (v)),(15,at' d.2.1 (wI .i64 ((List.length b.1:Int) - (1:Int)))),(16,vI (a.1))]) (λw ac=>[Ar cY.raw (at' d.2.1 (wI .i64 ((List.length b.1:Int) - (1:Int)))) (at' d.2.2.1 (wI .i64 ((List.length b.1:Int) - (1:Int)))),kX cC (at' d.2.2.1 (wI .i64 ((List.length b.1:Int) - (1:Int)))) w,bU J [e.1,e.2.1] 29,Ar cC e.1 g.1,Ar cY.raw e.2.1 e.2.2,kX b_ e.2.2 g.2]) ?_ ?_
   ·refine aS<|aV<|aA Z<|aA Z<|cX h λn h=>aB (cA Z Z (bO (i:=0) (j:=1) Z Z dM) Z Z n) Z<|bZ (c_ 1 Z) λN=>aB (jD 0 Z Z N Z Z n) Z<|aA Z<|cX h λai h=>aB (Jr Z Z ai) Z<|cX h λK h=>aB (aY Z Z (aE.row (j:=1) Z dM n.1 n.2) Z Z K) Z<|IA (wB (us:=[vI (Int.tmod a.1 (4:Int))]) (o:=0) (k:=a.1) 1 (Int.tmod a.1 (4:Int)) ⟨n.1,by first|exact n.2|simpa using n.2⟩ K Z Z Z Z Z Z Z Z Z Z) λbk=>aL<|aV<|aA Z<|aA Z<|fH h λam ao h=>aH (aM.callQ acB (PT U  am ao) Z .nil) Z λbl=>aL ?_;refine Ai h Z (λ_ h=>?_) λ_ h=>?_
    ·refine aO<|aA Z<|aA Z<|cX h λm h=>aB (cA Z Z (bO (i:=0) (j:=1) Z Z dM) Z Z m) Z<|bZ (c_ 1 Z) λO=>aB (jD 0 Z Z O Z Z m) Z<|cX h λL h=>aB (aY Z Z (aE.row (j:=1) Z dM m.1 (by first|exact m.2|simpa using m.2)) Z Z L) Z ?_;refine IA (wB (us:=[vI (1:Int)]) (o:=0) (k:=a.1) 1 (1:Int) ⟨m.1,by first|exact m.2|simpa using m.2⟩ L Z Z Z Z Z Z Z Z Z Z) λbm=>eJ<|mI ?_;exact gY (List.set (List.set a.2 (Int.toNat a.1) (List.set (at' a.2 a.1) (Int.toNat (4:Int)) (Int.tmod a.1 (4:Int)))) (Int.toNat a.1) (List.set (at' (List.set a.2 (Int.toNat a.1) (List.set (at' a.2 a.1) (Int.toNat (4:Int)) (Int.tmod a.1 (4:Int)))) a.1) (Int.toNat (5:Int)) (1:Int))) () h SF Z
    refine dL<|mI ?_;exact gY (List.set a.2 (Int.toNat a.1) (List.set (at' a.2 a.1) (Int.toNat (4:Int)) (Int.tmod a.1 (4:Int)))) () h SF Z
   intro w ac h;unfold lI at h;refine aO<|aA Z<|cJ Z<|aD Z<|aL ?_;exact xY ((wI .i64 (a.1+(1:Int))),w) () h SF Z
  refine fC ?_;exact gY (a.2) () h SF Z
 intro s V h;refine aJ<|aV<|eT 2 Z<|aA Z<|fH h λaT ba h=>aH (aM.callQ acC (HJ U e.1 e.2.1 (List.zip e.2.2 g.2) (at' d.2.1 (wI .i64 ((List.length b.1:Int) - (1:Int)))) (List.zip (at' d.2.2.1 (wI .i64 ((List.length b.1:Int) - (1:Int)))) s) aT ba) Z (aF.cons (bB (aE.res 3 Z) dM) (aF.cons (bO (i:=4) (j:=5) Z Z bQ) (aF.cons (bO (i:=0) (j:=1) Z Z dM) .nil)))) Z λbq=>aA Z<|p_ Z<|aL ?_;refine eX h Z (λh=>?_) λh=>?_
 ·refine aV<|aD Z<|aL<|aU<|aI ?_;cases h;exact tO Z
 refine cK<|aJ ?_;refine JR.start [0,0,0,0,9,31,63,127,127,127,255,1535,4095] 12 mixedOrders (by decide +kernel) ?_;refine JR.open (by exact rfl)<|fH h λaW bb h=>JR.loud Z Z Z (aM.callQ Wg (GJ U  aW bb) Z .nil) Z (λbj=>Ac.z) λbj=>bL Z (a_.cons 2 Z .nil) .nil (i_ 0 Z Z Z Z) (aP.h (a_.ix [2] Z Z) .nil aP.z)<|iF Z (gQ Z)<|iF Z (gQ Z)<|fH h λa0 bc h=>JR.loud Z Z Z (aM.callQ Wh (Ea U R a0 bc) Z (pO [4] Z)) Z (λau=>(v_ [([3],[])] Z)) λau=>fH h λf bd h=>JR.loud Z Z Z (aM.callQ abI (Ie U e.1 e.2.1 (List.zip e.2.2 g.2) (at' d.2.1 (wI .i64 ((List.length b.1:Int) - (1:Int)))) (List.zip (at' d.2.2.1 (wI .i64 ((List.length b.1:Int) - (1:Int)))) s) au f bd) Z (aF.cons (bB (aE.res 4 Z) dM) (aF.cons (bO (i:=5) (j:=6) Z Z bQ) (aF.cons (bO (i:=1) (j:=2) Z Z dM) (aF.cons (bB (aE.res 0 Z) tR) (pO [5] Z)))))) Z (λp=>(v_ [] Z)) λp=>iF Z (gQ Z)<|iF Z (lS Z Z)<|iF Z (lS Z Z)<|iF Z (lS Z Z)<|iF Z (lY Z)<|iF Z (lY Z)<|bP 12 Z Z<|aD Z<|aL<|aJ<|aV<|aA Z<|aB (nR Z) Z<|aL ?_;refine Ai h Z (λ_ h=>?_) λ_ h=>?_
 ·refine aV<|aD Z<|aL<|aU<|aI ?_;cases h;exact tO Z
 refine cK<|aV<|aA Z<|aA Z<|aB (Dp 0 1 Z Z Z Z) Z<|aB (lA Z Z) Z<|cX h λI h=>bZ (rQ 1 Z) λaf=>?_;refine aB (iU 0 Z Z Z Z Z I.1 (by have q1:=I.2;have q2:=af;(try simp only[List.length_set]at q1);(try simp only[List.length_set]at q2);(try simp only[List.length_set]);omega)) Z ?_;refine bZ (rQ 1 Z) λag=>iS (HQ (k:=(wI .i64 ((List.length f.1:Int) - (1:Int)))) 1 Z I)<|aB (jD 2 Z Z ag Z Z I) Z<|aD Z<|aL<|aJ<|aV<|eT 7 Z<|aA Z<|fH h λa1 be h=>aH (aM.callQ QP (BI U e.1 e.2.1 (List.zip e.2.2 g.2) (at' p.2.1 (wI .i64 ((List.length f.1:Int) - (1:Int)))) (List.zip (at' p.2.2.1 (wI .i64 ((List.length f.1:Int) - (1:Int)))) (at' f.1 (wI .i64 ((List.length f.1:Int) - (1:Int))))) a1 be) Z (aF.cons (bB (aE.res 8 Z) dM) (aF.cons (bO (i:=9) (j:=10) Z Z bQ) (aF.cons (bO (i:=0) (j:=1) Z Z dM) .nil)))) Z λbr=>aB (nR Z) Z<|aL ?_;refine Ai h Z (λ_ h=>?_) λ_ h=>?_
 ·refine aJ<|dR (λB=>lG  B=some r) (λB W=>[(8,vB (B))]) (λB W=>[]) ?_ ?_
  ·refine aO<|fH h λa2 bf h=>aH (aM.callQ QR (EU U  a2 bf) Z (pO [5] Z)) Z λbs=>aA Z ?_;refine wA (by exact rfl) (by exact rfl) (λD=>?_) (λD=>?_)
   ·have h:=Lz D h;refine cO Z<|cO Z<|aN Z (fW Z (bB (aE.res 3 Z) dG) Z) Z<|aN Z (lA Z Z) Z<|cX h λaj h=>aN Z (aY Z Z (bB (aE.res 3 Z) dG) Z Z aj) Z<|aN Z (fQ Z Z Z Z Z) Z<|aN Z (jN Z (bB (aE.res 3 Z) dG) Z Z Z zZ aj) Z<|cO Z<|aN Z (zL Z Z) Z<|aN Z (vA Z Z) Z<|aN Z (AD Z Z) Z<|dV Z<|aD Z<|aL ?_;exact cH (decide (((at' f.2.1 (wI .i64 ((List.length f.2.1:Int) - (1:Int)))).2.2.2.1)<=(wI .i64 ((wI .i64 ((3:Int)*v))+(2:Int))))) () h SF .nil (aF.refl _ _)
   have h:=Hn D h;refine aG Z<|aG Z<|aG Z<|aG Z<|aG Z<|aG Z<|aG Z<|aG Z<|aG Z<|aG Z<|aG Z<|fK Z<|aD Z<|aL ?_;exact cH (false) () h SF .nil (aF.refl _ _)
  intro B W h;unfold lG at h;refine aU<|aI ?_;cases h;exact kH Z
 refine cK<|aJ<|dR (λF=>rX U v f F=some r) (λF X=>[(11,vI (v)),(18,p.2.2.2)]) (λF X=>[Ar cE p.2.2.2 f.2.1]) ?_ ?_
 ·refine aV<|aD Z<|aL<|aS<|dU (lJ U g v f) (λG aa=>[(10,vI (List.length g.2:Int)),(11,vI (v)),(18,p.2.2.2),(20,at' p.2.1 (wI .i64 ((List.length f.1:Int) - (1:Int)))),(21,vI (G))]) (λG aa=>[Ar cY.raw (at' p.2.1 (wI .i64 ((List.length f.1:Int) - (1:Int)))) (at' p.2.2.1 (wI .i64 ((List.length f.1:Int) - (1:Int)))),kX cC (at' p.2.2.1 (wI .i64 ((List.length f.1:Int) - (1:Int)))) (at' f.1 (wI .i64 ((List.length f.1:Int) - (1:Int)))),Ar cE p.2.2.2 f.2.1]) (0:Int) () h SF (a_.ix [0,1,3] Z Z) ?_;intro bo G aa h;refine aJ<|aV<|aA Z<|aA Z<|cM Z<|aL ?_;refine eX h Z (λh=>?_) λh=>?_
  ·refine cK<|aJ<|aS<|aV<|aA Z<|aA Z<|cX h λy h=>aB (cA Z Z (bO (i:=0) (j:=1) Z Z dM) Z Z y) Z<|bZ (c_ 1 Z) λah=>aB (jD 0 Z Z ah Z Z y) Z<|cX h λal h=>aB (aY Z Z (aE.row (j:=1) Z dM y.1 y.2) Z Z al) Z<|aB (bV Z (aE.row (j:=1) Z dM y.1 y.2) Z Z Z dA al) Z<|p_ Z<|aL ?_;refine eX h Z (λh=>?_) λh=>?_
   ·refine aV<|aD Z<|aL<|aU<|bK<|aI<|aI<|bK<|aI ?_;cases h;exact tO Z
   refine dL<|mI<|aO<|aA Z<|cJ Z<|aD Z<|aL ?_;exact xY (wI .i64 (G+(1:Int))) () h SF Z
  refine fC ?_;exact cH () (()) h SF (a_.ix [2] Z Z) (aF.refl _ _)
 intro F X h;refine aJ<|dR (λC=>lH  C=some r) (λC Y=>[(8,vB (C))]) (λC Y=>[]) ?_ ?_
 ·refine aO<|fH h λa3 bg h=>aH (aM.callQ QR (EU U  a3 bg) Z (pO [5] Z)) Z λbt=>aA Z ?_;refine wA (by exact rfl) (by exact rfl) (λE=>?_) (λE=>?_)
  ·have h:=Lz E h;refine cO Z<|cO Z<|aN Z (fW Z (bB (aE.res 0 Z) dG) Z) Z<|aN Z (lA Z Z) Z<|cX h λak h=>aN Z (aY Z Z (bB (aE.res 0 Z) dG) Z Z ak) Z<|aN Z (fQ Z Z Z Z Z) Z<|aN Z (jN Z (bB (aE.res 0 Z) dG) Z Z Z zZ ak) Z<|cO Z<|aN Z (zL Z Z) Z<|aN Z (vA Z Z) Z<|aN Z (AD Z Z) Z<|dV Z<|aD Z<|aL ?_;exact cH (decide (((at' f.2.1 (wI .i64 ((List.length f.2.1:Int) - (1:Int)))).2.2.2.1)<=(wI .i64 ((wI .i64 ((3:Int)*v))+(2:Int))))) () h SF .nil (aF.refl _ _)
  have h:=Hn E h;refine aG Z<|aG Z<|aG Z<|aG Z<|aG Z<|aG Z<|aG Z<|aG Z<|aG Z<|aG Z<|aG Z<|fK Z<|aD Z<|aL ?_;exact cH (false) () h SF .nil (aF.refl _ _)
 intro C Y h;unfold lH at h;refine aU ?_;cases h;exact kH Z
end Go.Proofs.YtmdlcmbplnhdnaaGreatDoor
namespace Go.Proofs.YtmdlcmbplnhdnaaGreatDoor
open Go Go.Sx
theorem agt (l:aR) (a:l.length=6) (y:Int) (b:Bool):(if b then(l.set 4 y).set 5 1 else l.set 4 y).length=6∧at' (if b then(l.set 4 y).set 5 1 else l.set 4 y) 0=at' l 0∧at' (if b then(l.set 4 y).set 5 1 else l.set 4 y) 1=at' l 1∧at' (if b then(l.set 4 y).set 5 1 else l.set 4 y) 2=at' l 2∧
  at' (if b then(l.set 4 y).set 5 1 else l.set 4 y) 3=at' l 3∧at' (if b then(l.set 4 y).set 5 1 else l.set 4 y) 4=y∧at' (if b then(l.set 4 y).set 5 1 else l.set 4 y) 5=if b then 1 else at' l 5:=by
 match l,a with
 | [a0,a1,a2,a3,a4,a5],_=>cases b<;>exact⟨rfl,rfl,rfl,rfl,rfl,rfl,rfl⟩
theorem OC (x:NY) (o:aR) (p2:Int) (f:aR) (h0:0<=p2) (h1:p2<4294967296):tJ 1000 x o p2 f=some true:=by
 obtain⟨a,rfl⟩:∃a:Nat,p2=a:=⟨p2.toNat,by omega⟩
 have ha:a<4294967296:=by omega
 obtain⟨g,d,E,ax,fp,hg,hn,NC⟩:=ajp x 6 (by omega) (by omega);have N:=NC.toT_;have ab:=N.v.n24;have am:=N.v.n1;have hE:=N.en;obtain⟨M,hc,B⟩:=Ut N.v dZ o (by decide) agQ;obtain⟨w0,ao,V,F⟩:=Md ([]:aR) (n:=7*E+4) (by omega);obtain⟨k,cs,ar,D,S,t,R⟩:=agF N (ws:=w0) (by omega) F (by omega) B;obtain⟨Y,aq,aw,ap⟩:=Md f (n:=200) (by omega);obtain⟨al,ad,m,rfl,U,aj⟩:=UV (n:=g.2.length) ab;have C:o.length%g.2.length<g.2.length:=Nat.mod_lt _ am;have G:Int.tmod (o.length:Int) (g.2.length:Int)=((o.length%g.2.length:Nat):Int):=rfl;generalize o.length%g.2.length=r at C G;have z:(a &&& m) ||| 2^r<4294967296:=XZ (Jt ha) (DJ (by omega));have O:∀v,((a &&& m) ||| 2^r).testBit v=true->v<g.2.length:=λv h=>by
  rw[Nat.testBit_or,Bool.or_eq_true,Nat.testBit_and,Bool.and_eq_true,Nat.testBit_two_pow,decide_eq_true_eq]at h;rcases h with⟨_,q⟩|q
  ·exact(aj v).1 q
  ·omega
 have P:((a &&& m) ||| 2^r).testBit r=true:=by rw[Nat.testBit_or,Nat.testBit_two_pow,decide_eq_true Z,Bool.or_true]
 have eA:FX .u32 (dD .u32 (a:Int) (m:Int)) (vC .u32 1 (wI .u64 (Int.tmod (o.length:Int) (g.2.length:Int))))=(((a &&& m) ||| 2^r:Nat):Int):=by
  rw[G,abA (by omega),CS ha U,Jw (Jt ha) (by omega)]
 generalize (a &&& m) ||| 2^r=A at z O P eA;have e1:wI .i64 ((cs.length:Int) - 1)=(k:Int):=by
  have:=S;have hk:k<=1000:=by
   have:=V;obtain⟨k',av,aa,h1,h2,_⟩:=agB N (kind:=4) (by decide) (by decide) (ws:=w0) (by omega) F (Yv N B);have e:=h1.symm.trans D;have e2:=(Prod.mk.inj (Option.some.inj e)).1;have:=h2.l1;have:=h2.le;rw[e2]at *
   omega
  rw[wr (by omega) (by omega)];omega
 unfold tJ;rw[show fG 1000 (x.1,x.2.1,x.2.2.1,x.2.2.2.1,x.2.2.2.2.1,x.2.2.2.2.2) 6=some g from hg,bE Z,bE (show jM 1000 (g.1,g.2) 0=_ from NC.refEcc),bE (show sT 1000=some wX from rfl),bE aer,bE (show nA 1000 (g.1,g.2) dZ o=some M from hc),show wI .i64 (wI .i64 (7*(E:Int))+4)=((7*E+4:Nat):Int) by rw[show wI .i64 (7*(E:Int))=7*(E:Int)from wr (by omega) (by omega),wr (by omega) (by omega)];omega,bE (show lM 1000 [] ((7*E+4:Nat):Int)=_ from ao)];refine(bE (show lL 1000 wX g 4 M w0=_ from D)).trans ?_;dsimp only;rw[if_neg (by decide),e1,cD (by omega),bE (show hZ 1000 (g.1,g.2) (at' cs (k:Int))=some true from(adM N t).1 R)];unfold oD;dsimp only;rw[if_neg (by decide),e1,cD (by omega),bE (show vO 1000 (g.2.length:Int)=_ from ad),cD (by omega),cD (by rw[G,abA (by omega)];omega)];generalize at' cs (k:Int)=c at t R ⊢;let mr:Nat->aR:=λv=>if A.testBit v then((at' c (v:Int)).set 4 ((v%4:Nat):Int)).set 5 1 else(at' c (v:Int)).set 4 ((v%4:Nat):Int);obtain⟨⟨i,s⟩,⟨L,T,y⟩,ai⟩:=BU (step:=jI 1000 o (a:Int) f (g.1,g.2) (E:Int) (m:Int)) (K:=λx=>oE 1000 o (a:Int) f (g.1,g.2) (E:Int) (m:Int) x.2) g.2.length
  (λj x=>x.1=(j:Int)∧x.2.length=g.2.length∧∀v,v<g.2.length->at' x.2 (v:Int)=if v<j then mr v else at' c (v:Int))
  (λj x ag hj hI=>by
   obtain⟨i,q⟩:=x;obtain⟨L,S,C⟩:=hI;dsimp only at L S C;subst L;have hq:at' q (j:Int)=at' c (j:Int):=by rw[C j hj,if_neg (by omega)]
   have h6:(at' c (j:Int)).length=6:=t.row j hj;refine⟨(((j+1:Nat):Int),q.set j (mr j)),⟨rfl,by simp[S],λv l=> ?_⟩,?_⟩
   ·dsimp only;rw[tF _ _ _ _ (by omega)];by_cases e:v=j
    ·subst e;rw[if_pos Z,if_pos (by omega)]
    ·rw[if_neg e,C v l];by_cases q:v<j
     ·rw[if_pos q,if_pos (by omega)]
     ·rw[if_neg q,if_neg (by omega)]
   ·unfold jI lI;dsimp only;have t1:Int.toNat (j:Int)=j:=rfl;have t4:Int.tmod (j:Int) 4=((j%4:Nat):Int):=rfl;rw[if_pos (by omega),cD (by omega),cD (by decide),hq,cD (by rw[h6];decide),eA,bE (acx 1000 z (show j<32 by omega)),fN (by omega),t1,t4,show Int.toNat 4=4 from rfl,show Int.toNat 5=5 from rfl];have hs:at' (q.set j ((at' c (j:Int)).set 4 ((j%4:Nat):Int))) (j:Int)=(at' c (j:Int)).set 4 ((j%4:Nat):Int):=by rw[tF _ _ _ _ (by omega),if_pos Z]
    show _=ag (((j+1:Nat):Int),q.set j (if A.testBit j then((at' c (j:Int)).set 4 ((j%4:Nat):Int)).set 5 1 else(at' c (j:Int)).set 4 ((j%4:Nat):Int)));cases hb:A.testBit j with
    |true=>rw[if_pos Z,hs,cD (by rw[List.length_set];omega),cD (by rw[List.length_set,h6];decide),List.set_set,if_pos Z]
    |false=>rw[if_neg (by decide),if_neg (by decide)])
  (λx ag hI=>by
   obtain⟨i,q⟩:=x;obtain⟨L,S,C⟩:=hI;dsimp only at L;subst L;unfold jI;dsimp only;rw[if_neg (by omega)])
  1000 ((0:Int),c) ⟨rfl,t.len,λv l=>by rw[if_neg (by omega)]⟩ (by omega)
 refine ai.trans ?_;dsimp only at T y ⊢;have ak:∀v,v<g.2.length->at' s (v:Int)=mr v:=λv l=>by rw[y v l,if_pos l]
 have hf:∀v,v<g.2.length->(at' s (v:Int)).length=6∧iM s v 0=iM c v 0∧iM s v 1=iM c v 1∧iM s v 2=iM c v 2∧iM s v 3=iM c v 3∧iM s v 4=((v%4:Nat):Int)∧iM s v 5=if A.testBit v then 1 else iM c v 5:=λv l=>by
  unfold iM;rw[ak v l];exact agt (at' c (v:Int)) (t.row v l) _ _
 obtain⟨Q,ah,af⟩:=ajm t R T (λv l=>(hf v l).1) (λv l=>by
  obtain⟨_,q0,q1,q2,q3,q4,X⟩:=hf v l;have h5:iM c v 5=0:=R.2.2 v l;refine⟨q0,q1,q2,q3,by rw[q4];omega,?_⟩
  rw[X,h5];split<;>omega) (by omega)
 have I:vR (MB s) g.2.length=A:=Nat.eq_of_testBit_eq λv=>by
  rw[Hs];by_cases l:v<g.2.length
  ·have X:=(hf v l).2.2.2.2.2.2;have h5:iM c v 5=0:=R.2.2 v l;rw[decide_eq_true l,Bool.true_and];show decide (iM s v 5=1)=_;rw[X,h5];cases A.testBit v<;>rfl
  ·rw[decide_eq_false l,Bool.false_and];cases h:A.testBit v with
   |false=>rfl
   |true=>exact absurd (O v h) l
 have an:rC s r≠0:=by
  have X:=(hf r C).2.2.2.2.2.2;show iM s r 5≠0;rw[X,P,if_pos Z];decide
 obtain⟨W,w,u,J,H,p,hB,hY⟩:=aam N (kind:=3) (by decide) (by decide) (ws:=Y) (by omega) ap Q ah af C an;have l1:=H.l1;have l2:=H.l2;have lk:=H.le;unfold oE;rw[bE (show pQ 1000 (g.1,g.2) s=_ from agx N Q),eA,I,if_neg (by simp),bE (show sT 1000=some wX from rfl),bE (show lM 1000 f 200=_ from aq)];refine(bE (show lL 1000 wX g 3 s Y=_ from J)).trans ?_;have e2:wI .i64 ((w.length:Int) - 1)=(W:Int):=by rw[wr (by omega) (by omega)];omega
 have e3:wI .i64 ((u.length:Int) - 1)=(W:Int):=by rw[wr (by omega) (by omega)];omega
 have e4:wI .i64 (wI .i64 (3*(E:Int))+2)=3*(E:Int)+2:=by rw[show wI .i64 (3*(E:Int))=3*(E:Int)from wr (by omega) (by omega),wr (by omega) (by omega)]
 obtain⟨b,hb,ae⟩:=ajk N p;dsimp only;rw[if_neg (by decide),e2,cD (by omega),bE (show hZ 1000 (g.1,g.2) (at' w (W:Int))=_ from hb)];cases b with
 |false=>
  unfold lG;rw[if_pos (by decide),bE (show tW 1000=some true from rfl),if_pos Z,e3,cD (by omega),e4,decide_eq_true hB]
 | true =>
  have ac:=hY (ae.1 Z);rw[if_neg (by decide)];refine eY (step:=lJ 1000 (g.1,g.2) (E:Int) (w,u,true)) (K:=some true) g.2.length (λv=>(v:Int)) (λv ag l=> ?_) (λag=> ?_) 1000 (by omega)
  ·have h6:(at' (at' w (W:Int)) (v:Int)).length=6:=p.row v l;have au:=p.len;have hy:at' (at' (at' w (W:Int)) (v:Int)) 4=0:=ac v l;unfold lJ;dsimp only;rw[if_pos (by omega),e2,cD (by omega),cD (by rw[h6];decide),if_neg (by rw[hy];decide),fN (by omega)]
  ·unfold lJ rX lH;dsimp only;rw[if_neg (by omega),bE (show tW 1000=some true from rfl),if_pos Z,e3,cD (by omega),e4,decide_eq_true hB]
end Go.Proofs.YtmdlcmbplnhdnaaGreatDoor
namespace Go.Sx
open Go.RowKit Go.ChangeShapes Go.WideShapes Go.ChangeAt Go.Proofs Go.Joins Go.Deep
section
variable {H:Type} {enc:TypeId×Value->H} {P:Program} {w:World} {base:Nat} {spare:Nat->Bool} {held:Bool}
theorem KR {a:Type} (l:List a) (d:a):l=(List.range l.length).map λi=>l.getD i d:=by
 apply List.ext_getElem?;intro i;by_cases h:i<l.length
 ·simp[h]
 ·simp[h]
theorem XY {r:Reach} {x:Nat} {t:TypeId} {b:Array Field} {v:Value} {d:DataW H} {p:List MemPlace} (s:P.underlying t=some (.struct b)) (c:oneCellFields P b=true) (z:P.cellsOf t=b.size)
  (E:Value.okWide P w r x t v) (h:DataW.Trod enc P w base spare held t v d p):
  ∃(V:Nat->Value) (Y:Nat->DataW H×List MemPlace) (n:Nat),v = .agg ((List.range b.size).map V).toArray∧∀(i:Nat) (f:Field),b[i]? = some f->DataW.trod enc P w base spare held n f.type [V i]=some (Y i):=by
 obtain⟨a,rfl,l⟩:=okWide_struct s E;obtain⟨m,A⟩:=h;obtain⟨u,n,_,_,_,q,B⟩:=DataW.trod_struct s A;refine⟨λi=>a.toList.getD i undef,λi=>u.getD i (.nil,[]),n,?_,λi f j=> ?_⟩
 ·congr 1;apply Array.toList_inj.1;show a.toList=(List.range b.size).map λi=>a.toList.getD i undef;have y:b.size=a.toList.length:=by rw[<-z,<-l];rfl
  rw[y];exact KR a.toList undef
 ·have D:i<b.size:=(Array.getElem?_eq_some_iff.1 j).1;obtain⟨o,k⟩:=hone_of c i f j;have g:=B i f j;have e:(Value.cells (.agg a)).toList=a.toList:=rfl;have C:i<a.toList.length:=by rw[Array.length_toList];omega
  rw[o,k,e,take1_drop _ _ undef C]at g;rw[g];have F:i<u.length:=by omega
  simp[F]
theorem XC {k:IntKind} {e:TypeId} (a:P.underlying e=some (.int k)) {n:Nat} {v:Value} {x:DataW H×List MemPlace} (h:DataW.trod enc P w base spare held n e [v]=some x):∃y:Int,v = .int k y:=by
 obtain⟨y,b,_,_⟩:=DataW.trod_int a h;exact⟨y,by simpa using b⟩
theorem LB {e:TypeId} (a:P.underlying e=some .bool) {n:Nat} {v:Value} {x:DataW H×List MemPlace} (h:DataW.trod enc P w base spare held n e [v]=some x):∃y:Bool,v = .bool y:=by
 obtain⟨y,b,_⟩:=DataW.trod_bool a h;exact⟨y,by simpa using b⟩
theorem Y_ {n:Int} (h:(Lit.int .u32 n).wf=true):0<=n∧n<4294967296:=by
 simp only[Lit.wf,Bool.and_eq_true,decide_eq_true_eq]at h;have a:IntKind.u32.min=0:=by decide
 have b:IntKind.u32.max=4294967295:=by decide
 omega
end
end Go.Sx
section
set_option maxRecDepth 100000
namespace Go.Sx
open Go.RowKit Go.ChangeShapes Go.WideShapes Go.ChangeAt Go.Proofs Go.Joins
theorem Rf {P:Program} {W:World} {n:String} {b m t B:Nat} {k:IntKind} {a:aR} (h:laidMet P [(n,.agg (a.map λx=> .lit (.int k x)))] W) (I:P.globalNamed n=some b)
  (ht:(P.globals[b]?).map (·.type)=some t) (hu:P.underlying t=some (.array m B)) (w:P.underlying B=some (.int k)) (S:P.cellsOf B=1) (u:P.cellsOf t=m) (hm:0<m):(Gb b (cellsOf (cY.int k) a)).p W (λ_=>True):=by
 obtain⟨ps,⟨g,t2,j,F,p,q,C,D,E,M,e5,N⟩,aa,d⟩:=h;rw[I]at C;cases C;rw[ht]at D;cases D;refine⟨trivial,?_⟩
 obtain⟨L,ml,_,l,Y,y,V⟩:=DataW.trod_array hu M;simp only[Prod.mk.injEq,DataW.agg.injEq]at l;have e:a.length=m:=by rw[<-y];simpa using congrArg List.length l.1
 have U:j.size=m:=by rw[<-u,<-Y];simp
 have v:j.toList=cellsOf (cY.int k) a:=by
  refine List.ext_getElem? λi=> ?_;by_cases X:i<m
  ·have o:=V i X;rw[S,Nat.mul_one]at o;have J:a[i]? = some (a[i]'(by omega)):=List.getElem?_eq_getElem _;have G:=vJ (cY.int k) a i _ J 0 _ Z;rw[show i*(cY.int k).sz+0=i from Nat.mul_one i]at G;rw[G];have K:L[i]? = some (L[i]'(by omega)):=List.getElem?_eq_getElem _;rw[K]at o;obtain⟨z,hz,A,_⟩:=DataW.trod_int w o;have s:j.toList[i]? = some (.int k z):=by
    have:=congrArg (·[0]?) hz;simpa [List.getElem?_take,List.getElem?_drop]using this
   rw[s];have r:=congrArg (·[i]?) l.1;simp only[List.getElem?_map,J,K,Option.map_some,Option.some.injEq]at r;rw[A]at r;have O:a[i]=z:=by simpa using r
   rw[O]
  ·rw[List.getElem?_eq_none (by simp;omega),List.getElem?_eq_none (by rw[dX,e];show m*1<=i;omega)]
 have f:MemPlace.cell b 0∈ps:=by
  rw[N];refine List.mem_append_left _ (List.mem_append_left _ ?_);exact List.mem_map.2 ⟨0,by simp;omega,rfl⟩
 obtain⟨⟨c,T,H⟩,_⟩:=d b 0 f;refine⟨T,?_⟩
 have Q:c=j:=by
  have R:(W.var? P n)=some c:=by unfold World.var?;rw[I];simp[H]
  rw[R]at E;exact Option.some.inj E
 rw[H,Q,<-v]
theorem OQ {H:Type} {enc:TypeId×Value->H} {os:Os} (D:List (String×DataW Unit)) (N:(D.all λx=>x.2.handleName?.isNone)=true) (l:os.Started) {f:FuncId} {c:Func} {s:ChangeSpec} {r:Bool} (L:Tryz.prog.funcs[f]? = some c) (n:Tryz.prog.inits.idxOf? f=none)
  (o:(c.params.toList.all λt=>Tryz.prog.readableRec t&&decide (t<Tryz.prog.types.size))=true) (A:c.resultTypes = #[4]) (k:s.vars=[])
  (u:∀a:List (DataW H),a.length=c.params.toList.length->s.fn H a={results:=[.lit (.bool true)],args:=a})
  (m:∃(w:World) (b:Tape) (i:Input),w.os=os∧(w.forCall b i).Shaped Tryz.prog∧i.vars=[]∧Input.okWide Tryz.prog (w.forCall b i) .any w.heap.size f i∧
   ((s.pre enc Tryz.prog c [] false (w.forCall b i).memory i.args∧laidMetH Tryz.prog D (w.forCall b i).memory)∧sizedMet enc Tryz.prog c (OpenSpec.ofChange s) false (w.forCall b i).memory i.args)∧({}:Assume).holds Tryz.prog (lone (Frame.enter Tryz.prog f i.args .normal) [] (w.forCall b i)))
  (E:∀(W:World) (g:Nat) (args:Array Value) (a:List (DataW H)) (p:List MemPlace),laidMetH Tryz.prog D W->(∀(j:Nat) t v,c.params[j]? = some t->args[j]? = some v->Value.okWide Tryz.prog W .any g t v)->
   DataW.TrodAll enc Tryz.prog W 0 (λ_=>true) true c.params.toList args.toList a p->Calls Tryz.prog f args W λe P=>e = .returned (.bool true)∧Mk W P):
  ReturnsInHanded {} Go.Proofs.YtmdlcmbplnhdnaaGreatDoor.Tryz.pinned.checked os f .any (λw args=>(s.pre enc Tryz.prog c [] false w args∧laidMetH Tryz.prog D w)∧sizedMet enc Tryz.prog c (OpenSpec.ofChange s) false w args) (s.post enc Tryz.prog c false r false false):=by
 refine returnsInHanded_of_change_and (C:=Go.Proofs.YtmdlcmbplnhdnaaGreatDoor.Tryz.pinned.checked) (X:=λw _=>laidMetH Tryz.prog D w) (λ_ _ _ U h=>by rw[MakeChecks.laidMetH_plain _ _ _ N]at h ⊢;exact h.of_heap U) ajr l n L m ?_;intro W g args a Y G B J _ _ T _;have M:=J.lt;have K:=J;obtain⟨p,q,I,Q,rfl,_,_⟩:=J;rw[k]at Q;obtain⟨rfl,rfl⟩:=trodVars_none Q;refine(E W g args a p T B I).mono ?_;rintro e P ⟨rfl,R⟩;refine⟨_,rfl,?_⟩
 have z:a.length=c.params.toList.length:=by
  have:∀(F:List TypeId) (y:fV) (a:List (DataW H)) (p:List MemPlace),DataW.TrodAll enc Tryz.prog W 0 (λ_=>true) true F y a p->a.length=F.length:=by
   intro F
   induction F with
   |nil=>intro y a p h;cases y<;>cases a<;>first|rfl|exact h.elim
   | cons t F ih =>
    intro y a p h;cases y with
    |nil=>exact h.elim
    |cons v y=>
     cases a with
     |nil=>exact h.elim
     |cons d a=>obtain⟨_,_,_,S,_⟩:=h;simp[ih y a _ S]
  exact this _ _ _ _ I
 have O:s.fn H (a++[])={results:=[.lit (.bool true)],args:=a}:=by rw[List.append_nil];exact u a z
 refine⟨a,[],p++[],[],p,[],K,?_,?_,?_,R.frame _,λh=>by cases h⟩
 ·rw[O,A];exact trodAll_mk1 (shut_bool Tryz.underlying4 true)
 ·rw[O];exact EV agn R _ _ _ _ o I (λx V=>M x (List.mem_append_left _ V))
 ·rw[O,k];exact rfl
theorem UJ {P:Program} {n:String} {k:IntKind} {a:aR} {W:World} (h:laidMetH P [(n,.agg (a.map λx=> .lit (.int k x)))] W):laidMet P [(n,.agg (a.map λx=> .lit (.int k x)))] W:=by
 rw[MakeChecks.laidMetH_plain _ _ _ (by rfl)]at h;exact h
end Go.Sx
end
