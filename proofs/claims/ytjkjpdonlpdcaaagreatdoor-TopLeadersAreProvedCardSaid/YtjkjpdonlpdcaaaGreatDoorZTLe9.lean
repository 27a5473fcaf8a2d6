/- Models and proofs. Conditions: none. -/
import Derived.Test.YtjkjpdonlpdcaaaGreatDoorZTLe5
import Derived.Test.YtjkjpdonlpdcaaaGreatDoorZTLe8
import Derived.Test.YtjkjpdonlpdcaaaGreatDoorZTLe6
import Derived.Test.YtjkjpdonlpdcaaaGreatDoorZTLe7
import Derived.Test.YtjkjpdonlpdcaaaGreatDoorZTLe2
import Derived.Test.YtjkjpdonlpdcaaaGreatDoorZTLe1
import Derived.OpenShut
import Derived.LaidLaws
import Derived.LaidHandle
import Derived.Lay
import Derived.MakeChecks
set_option linter.unusedVariables false
set_option linter.unusedSimpArgs false
set_option maxHeartbeats 4000000
set_option maxRecDepth 20000
namespace Go.Proofs.YtjkjpdonlpdcaaaGreatDoor
open Go.Sx
def BG  (a:Hx):Option CM:=
 some (((a.2.2.2.2.2.2.1,a.2.2.2.2.2.2.2.1,a.2.2.2.2.2.2.2.2,((a.1,a.2.1,a.2.2.1,a.2.2.2.1,a.2.2.2.2.1)))),a.2.2.2.2.2.1)
def zD  (a:aT×aT×bW×Int×Int×Int×Int×Int×Int):Option CM:=
 BG  (a.2.2.2.1,a.2.2.2.2.1,a.2.2.2.2.2.1,a.2.2.2.2.2.2.1,a.2.2.2.2.2.2.2.1,a.2.2.2.2.2.2.2.2,a.1,a.2.1,a.2.2.1)
def uF  (a:aT×Int×Int×Int×Int×Int×bW×aT):Option CM:=
 zD  (a.2.2.2.2.2.2.2,a.1,a.2.2.2.2.2.2.1,a.2.1,a.2.2.1,a.2.2.2.1,a.2.2.2.2.1,a.2.2.2.2.2.1,(0:Int))
def BH (U:Nat) (f:Ca) (j:cB) (l:Int) (c:Int×aT×gH×Int×bW) (a:Int×aT×Int×Int×Int×Int×Int×Int×bW×aT) (h:(Int×aT×Int×Int×Int×Int×Int×Int×bW×aT)->Option CM) (d:Int):Option CM:=
 if¬(a.1≠(0:Int))then(uF  (a.2.1,a.2.2.2.1,a.2.2.2.2.1,a.2.2.2.2.2.1,a.2.2.2.2.2.2.1,a.2.2.2.2.2.2.2.1,a.2.2.2.2.2.2.2.2.1,a.2.2.2.2.2.2.2.2.2))else(Option.bind (fT U c.2.1 l a.1 d) λi=>(if(!i)=true then(zD  (([]:aT),([]:aT),([]:bW),(0:Int),(0:Int),(0:Int),(0:Int),(0:Int),(11:Int)))else(Option.bind (jE U ((((f.1,f.2.1,f.2.2)),((((f.1,f.2.1,f.2.2)),((j.1,j.2)),c.2.2.2.1,c.2.2.2.2)),c.2.2.1)) a.2.2.2.2.2.2.2.2.1 d) λg=>(Option.bind (eI U ((((f.1,f.2.1,f.2.2)),((((f.1,f.2.1,f.2.2)),((j.1,j.2)),c.2.2.2.1,c.2.2.2.2)),c.2.2.1)) g) λe=>(Option.bind (rJ U ((a.2.2.2.1,a.2.2.2.2.1,a.2.2.2.2.2.1,a.2.2.2.2.2.2.1,a.2.2.2.2.2.2.2.1)) d (eO .u32 e c.1)) λb=>(Option.bind (tF U g (eO .u32 e c.1) ((b.1.1,b.1.2.1,b.1.2.2.1,b.1.2.2.2.1,b.1.2.2.2.2))) λk=>(ck ((List.length a.2.2.2.2.2.2.2.2.2:Int)+(List.length ([d]):Int)<=1099511627) (ck ((List.length a.2.1:Int)+(List.length ([(eO .u32 e c.1)]):Int)<=1099511627) (h ((eO .u32 e c.1),(a.2.1++([(eO .u32 e c.1)])),(wI .i64 (a.2.2.1+(1:Int))),b.1.1,b.1.2.1,b.1.2.2.1,b.1.2.2.2.1,b.1.2.2.2.2,g,(a.2.2.2.2.2.2.2.2.2++[d])))))))))))
def uH (U:Nat) (g:Ca) (h:cB) (f:Int) (e:aT) (c:Int×aT×gH×Int×bW) (a:Int×aT×Int×Int×Int×Int×Int×Int×bW×aT) (b:(Int×aT×Int×Int×Int×Int×Int×Int×bW×aT)->Option CM):Option CM:=
 if a.2.2.1<(List.length e:Int)then(ck (0<=a.2.2.1∧a.2.2.1<(List.length e:Int)) (Option.bind (eX U c.2.1 f a.1 (at' e a.2.2.1)) λd=>(BH U g h f c a b (d))))else(uF  (a.2.1,a.2.2.2.1,a.2.2.2.2.1,a.2.2.2.2.2.1,a.2.2.2.2.2.2.1,a.2.2.2.2.2.2.2.1,a.2.2.2.2.2.2.2.2.1,a.2.2.2.2.2.2.2.2.2))
def BF (U:Nat) (d:Ca) (f:cB) (g:Int) (h:bW) (i:aT) (b:Int×aT×gH×Int×bW):Option CM:=
 Option.bind (uD U h) λe=>(Option.bind (eI U ((((d.1,d.2.1,d.2.2)),((((d.1,d.2.1,d.2.2)),((f.1,f.2)),b.2.2.2.1,b.2.2.2.2)),b.2.2.1)) e) λc=>(Option.bind (u_ U (eO .u32 c b.1)) λa=>(Option.bind (tF U e (eO .u32 c b.1) ((a.1,a.2.1,a.2.2.1,a.2.2.2.1,a.2.2.2.2))) λj=>(ck ((List.length ([]:aT):Int)+(List.length ([(eO .u32 c b.1)]):Int)<=1099511627) (bP (uH U d f g i b) U ((eO .u32 c b.1),(([]:aT)++([(eO .u32 c b.1)])),(0:Int),a.1,a.2.1,a.2.2.1,a.2.2.2.1,a.2.2.2.2,e,([]:aT)))))))
def zE (U:Nat) (e:Ca) (b:cB) (f:Int) (g:bW) (h:aT) (a:gH×Int×bW):Option CM:=
 Option.bind (nY U ((b.1,b.2))) λc=>(Option.bind (zR U ((b.1,b.2))) λd=>(BF U e b f g h (d,c,a.1,a.2.1,a.2.2)))
def zF (U:Nat) (c:Ca) (d:cB) (e:Int) (f:bW) (g:aT) (a:Int×bW):Option CM:=
 Option.bind (nC U ((c.1,c.2.1,c.2.2)) ((d.1,d.2))) λb=>(zE U c d e f g (b,a.1,a.2))
def uG (U:Nat) (b:Ca) (c:cB) (d:Int) (e:bW) (f:aT) (a:Int×bW):Option CM:=
 zF U b c d e f (a.1,a.2)
def zG (d:cB) (a:Int×Int×bW) (b:(Int×Int×bW)->Option CM) (c:bW):Option CM:=
 b ((wI .i64 (a.1+(1:Int))),(max a.2.1 (at' d.1 a.1)),c)
def rK (U:Nat) (f:cB) (a:Int×Int×bW) (d:(Int×Int×bW)->Option CM) (b:Int×bW) (e:(Int×bW)->Option CM):Option CM:=
 if b.1<(List.length (at' f.2 a.1):Int)then(ck (0<=b.1∧b.1<(List.length (at' f.2 a.1):Int)) (ck (0<=a.1∧a.1<(List.length b.2:Int)) (Option.bind (pT U ((f.1,f.2)) ((at' (at' f.2 a.1) b.1).1) a.1) λc=>(ck ((List.length (at' b.2 a.1):Int)+(List.length ([c]):Int)<=1099511627) (ck (0<=a.1∧a.1<(List.length (List.set b.2 (Int.toNat a.1) ((at' b.2 a.1)++[c])):Int)) (e ((wI .i64 (b.1+(1:Int))),(List.set b.2 (Int.toNat a.1) ((at' b.2 a.1)++[c])))))))))else(zG f a d (b.2))
def mA (U:Nat) (d:Ca) (c:cB) (e:Int) (f:bW) (g:aT) (a:Int×Int×bW) (b:(Int×Int×bW)->Option CM):Option CM:=
 if a.1<(List.length c.2:Int)then(ck (0<=a.1∧a.1<(List.length c.2:Int)) (ck (0<=a.1∧a.1<(List.length c.1:Int)) (bP (rK U c a b) U ((0:Int),a.2.2))))else(uG U d c e f g (a.2.1,a.2.2))
def tE (U:Nat) (b:Ca) (a:cB) (c:Int) (d:bW) (e:aT):Option CM:=
 Option.bind (zS U ((b.1,b.2.1,b.2.2)) ((a.1,a.2)) c d (List.length e:Int)) λf=>(if f≠(0:Int)then(some (((([]:aT),([]:aT),([]:bW),(((0:Int),(0:Int),(0:Int),(0:Int),(0:Int))))),f))else(ck (0<=(List.length a.2:Int)∧(List.length a.2:Int)<=1099511627) (bP (mA U b a c d e) U ((0:Int),(0:Int),(List.replicate (Int.toNat (List.length a.2:Int)) ([]:aT))))))
theorem IK:aQ Tryz.prog 6:=Tryz.call6
theorem qO (U:Nat) {n:Ca} {C:cB} {R:Int} {p3:bW} {p4:aT} (p:Value)  (q:Value)  (v:Value)  (t:Value)  (z4:mH)  (v5:Value)  (z6:wL)  (v7:Value) (r:(aT×aT×bW×(Int×Int×Int×Int×Int))×Int) (h:tE U n C R p3 p4=some r):
  bA Tryz.prog 6 #[Value.agg #[vS (n.1),p,q],Value.agg #[v,t],vI (R),v5,v7] [Sl aW p n.2.1,Sl aM q n.2.2,PF (Value.agg #[vS n.1,p,q]),Sl bN v C.1,S2 aO t z4 C.2,S2 bN v5 z6 p3,Sl Ci v7 p4,Gb 0 (cellsOf JO Ae)] (λx:Value×Value×Value×List Value=>Value.tuple #[Value.agg #[x.1,x.2.1,x.2.2.1,vI (r.1.2.2.2.1),vI (r.1.2.2.2.2.1),vI (r.1.2.2.2.2.2.1),vI (r.1.2.2.2.2.2.2.1),vU (r.1.2.2.2.2.2.2.2)],vI (r.2)]) (λx l=>Ar kF x.1 r.1.1::Ar kF x.2.1 r.1.2.1::Ar eK.raw x.2.2.1 x.2.2.2::k_ cM x.2.2.2 r.1.2.2.1::l) (λ_ l=>l):=by
 refine bA.of Tryz.func6 Z Tryz.ntmps6 Z λc=>?_;refine aS<|aG (aJ.box (cs:=[vS (n.1),p,q]) Z Z) Z λb1=>aG (aJ.box (cs:=[v,t]) Z Z) Z λb2=>aG (aJ.alloc (cs:=EI) Z Z) Z λb3=>aC Z<|aK<|aI<|aS<|dM 2 Z<|dM 1 Z<|aA Z<|aA Z<|aA Z<|iH (aE.fact 6 Z) Z<|eL h λr4 w5 h=>aG (aJ.callQ aaa (Oc U p q v t z4 v5 z6 r4 w5) Z (lJ [0,1,2,3,4,5] Z)) Z λx6=>aC Z<|aK<|aS<|aA Z<|oT Z<|aK ?_;refine eZ h Z (λh=>?_) λh=>?_
 ·refine aS ?_;refine aB (ID (r:=Value.agg #[lS,lS,lS,vI (0:Int),vI (0:Int),vI (0:Int),vI (0:Int),vU (0:Int)]) (by intro w;simp[Instr.build,Instr.fill,eP,dV,dH,eQ,eR,dW,fS])) Z ?_;refine aA Z<|bR 0 (vs:=EI) Z Z Z Z Z Z<|aC Z<|aK<|aP<|aH<|jY (f_ kF)<|jY (f_ kF)<|jY (f_ eK.raw) (jY (Bf cM) ?_);cases h;exact gZ ((lS),(lS),(lS),([]:iP)) Z Z (RV.cell 4 Z Z Z Z) (RV.tmp Z) (aY.ix [2,3,1,0] Z Z) aD.nil
 refine cE<|aS<|dM 2 Z<|dM 1 Z<|aA Z<|gE (A:=Int×aT×gH×Int×bW) (B:=Nat×Value×Nat×Value×List Value×Value×List Value) (vs:=[Value.agg #[vS (n.1),p,q],Value.agg #[v,t],vI (R),Value.func (.func 29) #[] #[]]) (λd=>BF U n C R p3 p4 d=some r) (λd a=>Value.agg #[vP a.1,a.2.1,vI (R),vU (d.1),Value.func (.func 29) #[] #[]]) (λd a=>[Ar kF a.2.1 d.2.1,bH a.1 [vS (n.1),p,q,vP a.2.2.1,a.2.2.2.1] 165,Ar eK.raw a.2.2.2.1 a.2.2.2.2.1,k_ bS a.2.2.2.2.1 d.2.2.1,bH a.2.2.1 [vS (n.1),p,q,v,t,vI (d.2.2.2.1),a.2.2.2.2.2.1] 212,Ar eK.raw a.2.2.2.2.2.1 a.2.2.2.2.2.2,k_ cM a.2.2.2.2.2.2 d.2.2.2.2,bH b3 EI 35]) (λd a=>[Sl aW p n.2.1,Sl aM q n.2.2,PF (Value.agg #[vS n.1,p,q]),Sl bN v C.1,S2 aO t z4 C.2,S2 bN v5 z6 p3,Sl Ci v7 p4,Gb 0 (cellsOf JO Ae)]) (fU.fn (show aQ Tryz.prog 28 from Tryz.call28) Z) Tryz.func28 Z Tryz.ntmps28 Z Z ?_ ?_
 ·refine aS<|aG (aJ.box (cs:=[vS (n.1),p,q]) Z Z) Z λW=>aG (aJ.box (cs:=[v,t]) Z Z) Z λX=>aG (aJ.alloc (cs:=vD3) Z Z) Z λaa=>aK<|aI ?_;refine JR.start [0,0,3,0,15,0,0,95,0,511,1023] 9 mixedOrders (by decide +kernel) ?_;refine JR.open (by exact rfl) ?_;refine hZ 2 Z<|hZ 1 Z<|Fq (A:=gH×Int×bW) (B:=Nat×Nat×Value×List Value×Value×List Value) (vs:=[Value.agg #[vS (n.1),p,q],Value.agg #[v,t]]) (λI=>zE U n C R p3 p4 I=some r) (λI m=>vP m.1) (λI m=>[bH m.1 [vS (n.1),p,q,vP m.2.1,m.2.2.1] 165,Ar eK.raw m.2.2.1 m.2.2.2.1,k_ bS m.2.2.2.1 I.1,bH m.2.1 [vS (n.1),p,q,v,t,vI (I.2.1),m.2.2.2.2.1] 212,Ar eK.raw m.2.2.2.2.1 m.2.2.2.2.2,k_ cM m.2.2.2.2.2 I.2.2,bH aa vD3 79,bH X [v,t] 27,bH W [vS (n.1),p,q] 42,bH b3 EI 35]) (λI m=>[Sl aW p n.2.1,Sl aM q n.2.2,PF (Value.agg #[vS n.1,p,q]),Sl bN v C.1,S2 aO t z4 C.2,S2 bN v5 z6 p3,Sl Ci v7 p4,Gb 0 (cellsOf JO Ae)]) Z Z Z (fU.fn (show aQ Tryz.prog 103 from Tryz.call103) Z) Tryz.func103 Z Tryz.ntmps103 Z Z (λ_ _=>(jV [] Z)) ?_ ?_
  ·refine aS<|aG (aJ.box (cs:=[vS (n.1),p,q]) Z Z) Z λae=>aG (aJ.box (cs:=[v,t]) Z Z) Z λaf=>aC Z<|aK<|aI ?_;refine JR.start [0,0,0,6,0,0,62,127,255,511] 7 mixedOrders (by decide +kernel) ?_;refine JR.open (by exact rfl) ?_;refine hZ 1 Z<|hZ 1 Z<|hZ 0 Z<|Fq (A:=Int×bW) (B:=Nat×Value×List Value) (vs:=[Value.agg #[vS (n.1),p,q],Value.agg #[v,t]]) (λM=>zF U n C R p3 p4 M=some r) (λM y=>vP y.1) (λM y=>[bH y.1 [vS (n.1),p,q,v,t,vI (M.1),y.2.1] 212,Ar eK.raw y.2.1 y.2.2,k_ cM y.2.2 M.2,bH af [v,t] 27,bH ae [vS (n.1),p,q] 42,bH aa vD3 79,bH X [v,t] 27,bH W [vS (n.1),p,q] 42,bH b3 EI 35]) (λM y=>[Sl aW p n.2.1,Sl aM q n.2.2,PF (Value.agg #[vS n.1,p,q]),Sl bN v C.1,S2 aO t z4 C.2,S2 bN v5 z6 p3,Sl Ci v7 p4,Gb 0 (cellsOf JO Ae)]) Z Z Z (fU.fn (show aQ Tryz.prog 164 from Tryz.call164) Z) Tryz.func164 Z Tryz.ntmps164 Z Z (λ_ _=>(jV [([4],[])] Z)) ?_ ?_
   ·refine aS<|aG (aJ.box (cs:=[vS (n.1),p,q]) Z Z) Z λcn=>aG (aJ.box (cs:=[v,t]) Z Z) Z λab=>aC Z<|aK<|aI ?_;refine JR.start [0,0,0,4,12,28,63,127,255] 6 mixedOrders (by decide +kernel) ?_;refine JR.open (by exact rfl) ?_;refine hZ 1 Z<|hZ 0 Z<|cN Z<|dY 0 Z<|bI Z .nil (h_ 4 Z) (lY Z (aE.fact 0 Z) Z) aN.z<|dK h λbw h=>JR.stp (zM cM (Int.toNat (List.length C.2:Int)))<|JR.loud Z Z Z (sD (e:=eK.raw) (lS) Z Z Z Z bw Z Z Z) Z (λF=>(jV [([2],[]),([3],[])] Z)) λF=>bK 6 Z Z<|dB (Know.one (aE.sl (bJ (i:=0) (j:=1) Z Z cU))) λbg=>?_;refine aB (TZ (r:=Value.agg #[vS (n.1),p,q,v,t,vI (0:Int),F]) Z Z Z (by intro w;simp[Instr.build,Instr.fill,eP,dV,dH,eQ,eR,dW,fS,iL bg])) Z ?_;refine aG (aJ.box (cs:=[vS (n.1),p,q,v,t,vI (0:Int),F]) Z Z) Z λN=>aC Z<|aK<|aI<|Cz (B:=iP) (λO=>uG U n C R p3 p4 O=some r) (λO ag=>[(5,vP N)]) (λO ag=>[bH N [vS (n.1),p,q,v,t,vI (O.1),F] 212,Ar eK.raw F ag,k_ cM ag O.2,bH af [v,t] 27,bH ae [vS (n.1),p,q] 42,bH aa vD3 79,bH X [v,t] 27,bH W [vS (n.1),p,q] 42,bH b3 EI 35]) ?_ ?_
    ·refine aS<|bX Z<|cJ 3 Z<|aB (lY Z (aE.fact 4 Z) Z) Z<|aA Z<|aK<|aU<|eH (B:=iP) (mA U n C R p3 p4) (λf ac=>[(3,vP ab),(5,vP N),(19,t),(20,vI (List.length C.2:Int)),(21,vI (f.1))]) (λf ac=>[bH N [vS (n.1),p,q,v,t,vI (f.2.1),F] 212,Ar eK.raw F ac,k_ cM ac f.2.2,bH ab [v,t] 27,bH af [v,t] 27,bH ae [vS (n.1),p,q] 42,bH aa vD3 79,bH X [v,t] 27,bH W [vS (n.1),p,q] 42,bH b3 EI 35]) ((0:Int),(0:Int),(List.replicate (Int.toNat (List.length C.2:Int)) ([]:aT))) (List.replicate (Int.toNat (List.length C.2:Int)) (lS)) h SF (aY.ix [0,1,2,3,5,6,7,8,9,10] Z Z) ?_;intro a0 f ac h;refine aS<|cP Z<|aK<|aI ?_;refine eZ h Z (λh=>?_) λh=>?_
     ·refine cE<|aI<|Cz (B:=iP) (λV=>zG C f (bP (mA U n C R p3 p4) a0) V=some r) (λV ah=>[(3,vP ab),(5,vP N),(19,t),(20,vI (List.length C.2:Int)),(21,vI (f.1))]) (λV ah=>[bH N [vS (n.1),p,q,v,t,vI (max f.2.1 (at' C.1 f.1)),F] 212,Ar eK.raw F ah,k_ cM ah V,bH ab [v,t] 27,bH af [v,t] 27,bH ae [vS (n.1),p,q] 42,bH aa vD3 79,bH X [v,t] 27,bH W [vS (n.1),p,q] 42,bH b3 EI 35]) ?_ ?_
      ·refine aU<|aS<|aA Z<|dK h λP h=>aB (cQ Z Z (aE.fact 4 Z) Z Z P) Z<|aB (cL Z (aE.fact 4 Z) Z Z P) Z<|aC Z<|aC Z<|aK<|aI ?_;refine JR.start [0,0,2,6,14,0,32,0,224,480,1022,2047,4095,8191] 11 mixedOrders (by decide +kernel) ?_;refine JR.open (by exact rfl) ?_;refine bE Z<|bE Z<|fY Z (bZ Z)<|cN Z<|dY 0 Z<|cN Z<|dY 3 Z<|bE Z<|dK h λaL h=>bI Z .nil (h_ 3 Z) (aZ Z Z (aE.fact 0 Z) Z Z aL) aN.z<|bI Z .nil (h_ 3 Z) (bU Z (aE.fact 0 Z) Z Z Z cS aL) aN.z<|fY Z (Nc Z Z)<|bK 11 Z Z<|aB (bZ Z) Z<|bX Z<|gR 0 Z Z Z Z Z Z<|aK<|aS<|aA Z<|aB (fG Z (aE.el (aE.fact 4 Z) P.1 P.2) Z) Z<|aA Z<|aK<|aU<|eH (B:=iP) (rK U C f (bP (mA U n C R p3 p4) a0)) (λE ad=>[(3,vP ab),(5,vP N),(6,vI (f.1)),(19,t),(20,vI (List.length C.2:Int)),(21,vI (f.1)),(39,(at' z4 f.1).1),(40,vI (List.length (at' C.2 f.1):Int)),(41,vI (E.1))]) (λE ad=>[bH N [vS (n.1),p,q,v,t,vI (max f.2.1 (at' C.1 f.1)),F] 212,Ar eK.raw F ad,k_ cM ad E.2,bH ab [v,t] 27,bH af [v,t] 27,bH ae [vS (n.1),p,q] 42,bH aa vD3 79,bH X [v,t] 27,bH W [vS (n.1),p,q] 42,bH b3 EI 35]) ((0:Int),f.2.2) (ac) h SF (aY.refl _) ?_;intro cp E ad h;refine aS<|cP Z<|aK<|aI ?_;refine eZ h Z (λh=>?_) λh=>?_
       ·refine cE<|aI<|aU<|aS<|dK h λaV h=>aB (aZ Z Z (aE.el (aE.fact 4 Z) P.1 P.2) Z Z aV) Z<|aB (c_ (cs:=[vI ((at' (at' C.2 f.1) E.1).1),vI ((at' (at' C.2 f.1) E.1).2)]) Z (aE.el (aE.fact 4 Z) P.1 P.2) bB Z Z Z Z aV) Z<|aG (aJ.alloc (cs:=Ms) Z Z) Z λco=>bR 0 (vs:=[vI ((at' (at' C.2 f.1) E.1).1),vI ((at' (at' C.2 f.1) E.1).2)]) Z Z Z Z Z Z<|aK ?_;refine JR.start [0,1,3,7,0,0,32,96,224,0,992,2016,0,0,8192,0,61440,126976,262112,524287,1048575] 19 mixedOrders (by decide +kernel) ?_;refine JR.open (by exact rfl) ?_;refine bE Z<|fY Z (bZ Z)<|cN Z<|dY 1 Z<|bE Z<|bE Z<|fY Z (bZ Z)<|cN Z<|dY 1 Z<|bE Z<|dK h λao h=>bY (cY 3 Z) λa6=>?_;refine bI Z (aY.cons 2 Z .nil) .nil (iM 0 Z Z Z Z Z ao.1 (by have q1:=ao.2;have q2:=a6;(try simp only[List.length_set]at q1);(try simp only[List.length_set]at q2);(try simp only[List.length_set]);omega)) aN.z ?_;refine bY (cY 3 Z) λa7=>bI Z (aY.cons 2 Z .nil) .nil (lK 0 Z Z a7 Z Z ao) aN.z<|hZ 4 Z<|cN Z<|dY 0 Z<|bE Z<|eL h λai b9 h=>JR.loud Z Z Z (aJ.callQ Qw (Dy U v t z4 ai b9) Z (lJ [3,4] Z)) Z (λcd=>(jV [([2],[]),([2],[]),([1],[]),([1],[])] Z)) λcd=>JR.loud Z Z Z (cW (e:=cM) ([ai]) [(0,vI (ai))] Z Z Z Z (pP (vI (ai)) Z) Z Z Z) Z (λbL=>(jV [([3],[]),([3],[]),([2],[]),([2],[])] Z)) λbL=>dK h λbx h=>JR.loud Z Z Z (qR 4 cU Z Z Z (aX (aE.res 0 Z) cU) Z Z Z Z ao bx Z) Z (λa4=>(jV [([2],[])] Z)) λa4=>bK 19 Z Z<|dK h λQ h=>dB (cY 4 Z) λa8=>?_;refine aB (iM 3 Z Z Z Z Z Q.1 (by have q1:=Q.2;have q2:=a8;(try simp only[List.length_set]at q1);(try simp only[List.length_set]at q2);(try simp only[List.length_set]);omega)) Z ?_;refine dB (Bd 4 (k:=f.1) Z ⟨Q.1,by first|exact Q.2|simpa using Q.2⟩) λbh=>?_;refine qA 3 4 ⟨Q.1,by first|exact Q.2|simpa using Q.2⟩ Z Z Z Z Z (by simp) bh Z ?_;refine fF<|mP<|aR<|cO Z<|aA Z<|aK ?_;exact lT ((wI .i64 (E.1+(1:Int))),(List.set E.2 (Int.toNat f.1) ((at' E.2 f.1)++[ai]))) (List.set ad (Int.toNat f.1) a4) h SF (aY.ix [2,3,4,5,6,7,8,9,10,11] Z Z) (aD.refl _ _)
       refine yJ<|iQ<|iQ<|BK<|mP ?_;exact iI (E.2) (ad) h SF Z
      intro V ah h;unfold zG at h;refine aR<|cO Z<|aA Z<|aK ?_;exact Ai ((wI .i64 (f.1+(1:Int))),(max f.2.1 (at' C.1 f.1)),V) (ah) h SF Z
     refine fE ?_;exact bT (f.2.1,f.2.2) (ac) h SF (aY.ix [0,1,2,4,5,6,7,8,9] Z Z) (aD.refl _ _)
    intro O ag h;unfold uG at h;refine aS<|aA Z<|aC Z<|aK<|aP ?_;exact dO (O.1,O.2) (N,F,ag) h (.inl Z) (uO.r1 Z (RV.tmp Z)) Z (aY.refl _) (aD.refl _ _)
   intro M y h;unfold zF at h;refine bI Z (aY.cons 4 Z .nil) .nil (lO 0 Z Z Z Z) (aN.h (aY.ix [1] Z Z) .nil aN.z)<|bI Z (aY.cons 3 Z .nil) .nil (lO 0 Z Z Z Z) (aN.h (aY.ix [0] Z Z) .nil aN.z)<|eL h λa3 b8 h=>JR.loud Z Z Z (aJ.callQ Uu (Dw U p q v t z4 a3 b8) Z (lJ [0,1,2,3,4] Z)) Z (λaj=>(jV [([6],[])] Z)) λaj=>bK 7 Z Z<|dB (Know.one (aE.sl (bJ (i:=0) (j:=1) Z Z bB))) λbf=>?_;refine aB (TZ (r:=Value.agg #[vS (n.1),p,q,Value.pointer (some ⟨y.1,0,none⟩),aj.1]) Z Z Z (by intro w;simp[Instr.build,Instr.fill,eP,dV,dH,eQ,eR,dW,fS,iL bf])) Z ?_;refine aG (aJ.box (cs:=[vS (n.1),p,q,vP y.1,aj.1]) Z Z) Z λbi=>aC Z<|aK<|aP ?_;exact dO (a3,M.1,M.2) (bi,y.1,aj.1,aj.2,y.2.1,y.2.2) h (.inl Z) (uO.r1 Z (RV.tmp Z)) Z (aY.ix [0,1,2,3,4,5,8,9,10,11] Z Z) (aD.refl _ _)
  intro I m h;unfold zE at h;refine bI Z (aY.cons 7 Z .nil) .nil (lO 0 Z Z Z Z) (aN.h (aY.ix [1] Z Z) .nil aN.z)<|eL h λa2 b6 h=>JR.loud Z Z Z (aJ.callQ Xo (HG U v t z4 a2 b6) Z (lJ [3,4] Z)) Z (λar=>(jV [] Z)) λar=>fY Z (fC Z)<|bI Z (aY.cons 8 Z .nil) .nil (lO 0 Z Z Z Z) (aN.h (aY.ix [7] Z Z) .nil (aN.h (aY.ix [1] Z Z) .nil aN.z))<|eL h λaq b7 h=>JR.loud Z Z Z (aJ.callQ Xp (Ob U v t z4 aq b7) Z (lJ [3,4] Z)) Z (λcc=>(jV [] Z)) λcc=>fY Z (fC Z)<|bK 9 Z Z<|dB (Know.one ((aX (aE.res 0 Z) lX))) λbd=>?_;refine aB (Y.bld5 (r:=Value.agg #[Value.pointer (some ⟨m.1,0,none⟩),ar,vI (R),vU (aq),Value.func (.func 29) #[] #[]]) Z Z Z Z Z (by intro w;simp[Instr.build,Instr.fill,eP,dV,dH,eQ,eR,dW,fS,iL bd])) Z ?_;refine dB (Know.one ((aX (aE.res 0 Z) lX))) λbe=>bR 7 (vs:=[vP m.1,ar,vI (R),vU (aq),Value.func (.func 29) #[] #[]]) Z Z (dQ Z (dQ be (dQ Z (dQ Z (dQ Z Z))))) Z Z Z<|aK<|aP ?_;exact dO (aq,a2,I.1,I.2.1,I.2.2) (m.1,ar,m.2.1,m.2.2.1,m.2.2.2.1,m.2.2.2.2.1,m.2.2.2.2.2) h (.inl Z) (uO.r1 Z (RV.cell 7 Z Z Z Z)) Z (aY.ix [0,1,2,3,4,5,6,10] Z Z) (aD.refl _ _)
 intro d a h;refine aA Z<|aA Z<|gE (A:=Hx) (B:=Value×Value×Value×List Value) (vs:=[Value.agg #[vP a.1,a.2.1,vI (R),vU (d.1),Value.func (.func 29) #[] #[]],v5,v7]) (λD=>BG  D=some r) (λD G=>Value.tuple #[Value.agg #[G.1,G.2.1,G.2.2.1,vI (D.1),vI (D.2.1),vI (D.2.2.1),vI (D.2.2.2.1),vU (D.2.2.2.2.1)],vI (D.2.2.2.2.2.1)]) (λD G=>[bH b3 EI 35,Ar kF G.1 D.2.2.2.2.2.2.1,Ar kF G.2.1 D.2.2.2.2.2.2.2.1,Ar eK.raw G.2.2.1 G.2.2.2,k_ cM G.2.2.2 D.2.2.2.2.2.2.2.2]) (λD G=>[Sl aW p n.2.1,Sl aM q n.2.2,PF (Value.agg #[vS n.1,p,q]),Sl bN v C.1,S2 aO t z4 C.2,S2 bN v5 z6 p3,Sl Ci v7 p4,Gb 0 (cellsOf JO Ae)]) (fU.fn (show aQ Tryz.prog 30 from Tryz.call30) Z) Tryz.func30 Z Tryz.ntmps30 Z Z ?_ ?_
 ·refine aS<|aG (aJ.box (cs:=[vP a.1,a.2.1,vI (R),vU (d.1),Value.func (.func 29) #[] #[]]) Z Z) Z λak=>dB (Know.one ((aE.fact 6 Z))) λbm=>?_;refine aG (aJ.box (cs:=[v7]) Z (by rw[iL bm])) Z λal=>?_;refine aG (aJ.alloc (cs:=EI) Z Z) Z λay=>aC Z<|aK<|aS<|dM 2 Z<|aA Z<|cJ 1 Z<|iH (aE.fact 6 Z) Z<|aB (dZ (cs:=[.tmp 3,.tmp 5]) (vs:=[vP ak,vP al]) Z) Z<|gE (A:=aT×aT×bW×Int×Int×Int×Int×Int×Int) (B:=Value×Value×Value×List Value) (vs:=[Value.agg #[vP a.1,a.2.1,vI (R),vU (d.1),Value.func (.func 29) #[] #[]],v5,vI (List.length p4:Int),Value.func (.func 107) #[] #[vP ak,vP al]]) (λs=>zD  s=some r) (λs H=>Value.tuple #[Value.agg #[H.1,H.2.1,H.2.2.1,vI (s.2.2.2.1),vI (s.2.2.2.2.1),vI (s.2.2.2.2.2.1),vI (s.2.2.2.2.2.2.1),vU (s.2.2.2.2.2.2.2.1)],vI (s.2.2.2.2.2.2.2.2)]) (λs H=>[bH ay EI 35,bH b3 EI 35,Ar kF H.1 s.1,Ar kF H.2.1 s.2.1,Ar eK.raw H.2.2.1 H.2.2.2,k_ cM H.2.2.2 s.2.2.1]) (λs H=>[Sl aW p n.2.1,Sl aM q n.2.2,PF (Value.agg #[vS n.1,p,q]),Sl bN v C.1,S2 aO t z4 C.2,S2 bN v5 z6 p3,Sl Ci v7 p4,Gb 0 (cellsOf JO Ae)]) (fU.fn (show aQ Tryz.prog 106 from Tryz.call106) Z) Tryz.func106 Z Tryz.ntmps106 Z Z ?_ ?_
  ·refine aS<|aG (aJ.box (cs:=[vP a.1,a.2.1,vI (R),vU (d.1),Value.func (.func 29) #[] #[]]) Z Z) Z λa5=>aG (aJ.alloc (cs:=EI) Z Z) Z λav=>aC Z<|aK<|aS<|aG (aJ.alloc (cs:=EI) Z Z) Z λaw=>aK<|aS<|aA Z<|eL h λaz ch h=>aG (aJ.callQ Uv (EF U v5 z6 az ch) Z (lJ [5] Z)) Z λan=>aC Z<|aK<|aI ?_;refine JR.start [0,1,0,7,0,16,63,127] 6 mixedOrders (by decide +kernel) ?_;refine JR.open (by exact rfl) ?_;refine cN Z<|dY 4 Z<|bE Z<|eL h λam ci h=>JR.loud Z Z Z (aJ.callQ Qs (wW U a.1 p q a.2.2.1 p q v t z4 a.2.2.2.2.2.1 (List.zip a.2.2.2.2.2.2 d.2.2.2.2) a.2.2.2.1 (List.zip a.2.2.2.2.1 d.2.2.1) an.1 (List.zip an.2 az) am ci) Z (aD.cons (aE.res 9 Z) (aD.cons (aE.fact 0 Z) (aD.cons (aE.fact 1 Z) (aD.cons (aE.res 12 Z) (aD.cons (aE.fact 0 Z) (aD.cons (aE.fact 1 Z) (aD.cons (aE.fact 3 Z) (aD.cons (aE.fact 4 Z) (aD.cons (bJ (i:=13) (j:=14) Z Z cU) (aD.cons (bJ (i:=10) (j:=11) Z Z bB) (aD.cons (bJ (i:=0) (j:=1) Z Z cU) .nil)))))))))))) Z (λcl=>(jV [] Z)) λcl=>fY Z (dR Z Z Z Z Z)<|bI Z (aY.cons 4 Z .nil) .nil (cK 0 Z Z Z Z Z) (aN.h (aY.ix [4] Z Z) .nil aN.z)<|bK 6 Z Z<|Ak Z<|aC Z<|aK<|aS<|aA Z<|eL h λK cj h=>aG (aJ.callQ Xz (HE U  K cj) Z .nil) Z λcx=>aG (aJ.alloc (cs:=ZC) Z Z) Z λax=>bR 0 (vs:=[vI (K.1),vI (K.2.1),vI (K.2.2.1),vI (K.2.2.2.1),vU (K.2.2.2.2)]) Z Z Z Z Z Z<|aK<|aS<|bX Z<|cJ 5 Z<|aA Z<|aA Z<|dM 0 Z<|eL h λcf ck h=>aG (fQ (vs:=[an.1,vU (eO .u32 am d.1),Value.agg #[vI (K.1),vI (K.2.1),vI (K.2.2.1),vI (K.2.2.2.1),vU (K.2.2.2.2)]]) (cs:=[]) Uo Z (Gd U an.1 (List.zip an.2 az) cf ck) Z (aD.cons (bJ (i:=1) (j:=2) Z Z cU) .nil) (λ_ _=>rfl)) Z λcy=>aK<|aS<|bX Z<|cJ 3 Z<|aA Z<|aG (cW (e:=kF) ([(eO .u32 am d.1)]) [(0,vU (eO .u32 am d.1))] Z Z Z Z (pP (vU (eO .u32 am d.1)) Z) Z Z Z) Z λcw=>jY (f_ kF)<|dK h λce h=>aG (g_ 0 lX Z Z Z (aX (aE.res 1 Z) lX) Z Z Z Z ce Z) Z λcg=>bX Z<|dB (Know.one ((aX (aE.res 0 Z) lX))) λbq=>gR 5 Z Z bq Z Z Z<|aK<|aI<|Cz (B:=Value×List Value×Value×Value) (λo=>uF  o=some r) (λo J=>[(1,J.1),(8,vP av),(10,vP aw),(12,vP ax)]) (λo J=>[Ar kF J.2.2.2 o.1,bH ax [vI (o.2.1),vI (o.2.2.1),vI (o.2.2.2.1),vI (o.2.2.2.2.1),vU (o.2.2.2.2.2.1)] 33,Ar eK.raw J.1 J.2.1,k_ cM J.2.1 o.2.2.2.2.2.2.1,bH aw [J.2.2.1,J.2.2.2,lS,vI (0:Int),vI (0:Int),vI (0:Int),vI (0:Int),vU (0:Int)] 35,bH av EI 35,bH ay EI 35,bH b3 EI 35,Ar kF J.2.2.1 o.2.2.2.2.2.2.2]) ?_ ?_
   ·refine aS<|aA Z<|aA Z<|aK<|aU<|jY (f_ kF)<|eH (B:=Value×List Value×Value×Value) (uH U n C R p4 d) (λb g=>[(1,g.1),(3,Value.func (.func 107) #[] #[vP ak,vP al]),(4,vP a5),(8,vP av),(10,vP aw),(11,vU (b.1)),(12,vP ax),(39,vI (List.length p4:Int)),(40,vI (b.2.2.1))]) (λb g=>[Ar kF g.2.2.2 b.2.1,bH ax [vI (b.2.2.2.1),vI (b.2.2.2.2.1),vI (b.2.2.2.2.2.1),vI (b.2.2.2.2.2.2.1),vU (b.2.2.2.2.2.2.2.1)] 33,Ar eK.raw g.1 g.2.1,k_ cM g.2.1 b.2.2.2.2.2.2.2.2.1,bH aw [g.2.2.1,g.2.2.2,lS,vI (0:Int),vI (0:Int),vI (0:Int),vI (0:Int),vU (0:Int)] 35,bH av EI 35,bH a5 [vP a.1,a.2.1,vI (R),vU (d.1),Value.func (.func 29) #[] #[]] 79,bH ay EI 35,bH al [v7] 29,bH ak [vP a.1,a.2.1,vI (R),vU (d.1),Value.func (.func 29) #[] #[]] 79,Ar kF a.2.1 d.2.1,bH a.1 [vS (n.1),p,q,vP a.2.2.1,a.2.2.2.1] 165,Ar eK.raw a.2.2.2.1 a.2.2.2.2.1,k_ bS a.2.2.2.2.1 d.2.2.1,bH a.2.2.1 [vS (n.1),p,q,v,t,vI (d.2.2.2.1),a.2.2.2.2.2.1] 212,Ar eK.raw a.2.2.2.2.2.1 a.2.2.2.2.2.2,k_ cM a.2.2.2.2.2.2 d.2.2.2.2,bH b3 EI 35,Ar kF g.2.2.1 b.2.2.2.2.2.2.2.2.2]) ((eO .u32 am d.1),(([]:aT)++([(eO .u32 am d.1)])),(0:Int),K.1,K.2.1,K.2.2.1,K.2.2.2.1,K.2.2.2.2,az,([]:aT)) (an.1,an.2,(lS),cg) h SF (aY.ix [1,3,4,5,6,7,8,9,10,11,12,13,14,15,16,17,18,19,0] Z Z) ?_;intro bz b g h;refine aS<|cP Z<|aK<|aI ?_;refine eZ h Z (λh=>?_) λh=>?_
    ·refine cE<|aI<|aU<|aS<|aA Z<|aC Z<|aK<|aS<|aA Z<|aA Z<|aA Z<|gE (A:=Int) (B:=Unit) (vs:=[vI (b.2.2.1),vU (b.1),vP ak,vP al]) (λL=>BH U n C R d b (bP (uH U n C R p4 d) bz) L=some r) (λL au=>Value.tuple #[vU (L),vB (decide (b.1≠(0:Int)))]) (λL au=>[Ar kF g.2.2.2 b.2.1,bH ax [vI (b.2.2.2.1),vI (b.2.2.2.2.1),vI (b.2.2.2.2.2.1),vI (b.2.2.2.2.2.2.1),vU (b.2.2.2.2.2.2.2.1)] 33,Ar eK.raw g.1 g.2.1,k_ cM g.2.1 b.2.2.2.2.2.2.2.2.1,bH aw [g.2.2.1,g.2.2.2,lS,vI (0:Int),vI (0:Int),vI (0:Int),vI (0:Int),vU (0:Int)] 35,bH av EI 35,bH a5 [vP a.1,a.2.1,vI (R),vU (d.1),Value.func (.func 29) #[] #[]] 79,bH ay EI 35,bH al [v7] 29,bH ak [vP a.1,a.2.1,vI (R),vU (d.1),Value.func (.func 29) #[] #[]] 79,Ar kF a.2.1 d.2.1,bH a.1 [vS (n.1),p,q,vP a.2.2.1,a.2.2.2.1] 165,Ar eK.raw a.2.2.2.1 a.2.2.2.2.1,k_ bS a.2.2.2.2.1 d.2.2.1,bH a.2.2.1 [vS (n.1),p,q,v,t,vI (d.2.2.2.1),a.2.2.2.2.2.1] 212,Ar eK.raw a.2.2.2.2.2.1 a.2.2.2.2.2.2,k_ cM a.2.2.2.2.2.2 d.2.2.2.2,bH b3 EI 35,Ar kF g.2.2.1 b.2.2.2.2.2.2.2.2.2]) (λL au=>[Sl aW p n.2.1,Sl aM q n.2.2,PF (Value.agg #[vS n.1,p,q]),Sl bN v C.1,S2 aO t z4 C.2,S2 bN v5 z6 p3,Sl Ci v7 p4,Gb 0 (cellsOf JO Ae)]) (eC (us:=[vI (b.2.2.1),vU (b.1)]) (cs:=[vP ak,vP al]) (show aQ Tryz.prog 107 from Tryz.call107) Z Z Z) Tryz.func107 Z Tryz.ntmps107 Z Z ?_ ?_
     ·refine aS<|aC Z<|aC Z<|aK<|aI ?_;refine JR.start [0,1,0,4,0,0,0,96,224,511,0,1024,1023,8191] 13 mixedOrders (by decide +kernel) ?_;refine JR.open (by exact rfl) ?_;refine cN Z<|dY 9 Z<|cN Z<|dY 9 Z<|bE Z<|dY 8 Z<|bE Z<|dK h λaF h=>bI Z .nil (h_ 6 Z) (aZ Z Z (aE.fact 0 Z) Z Z aF) aN.z<|bI Z .nil (h_ 6 Z) (bU Z (aE.fact 0 Z) Z Z Z Gr aF) aN.z<|eL h λa1 b5 h=>JR.loud Z Z Z (aJ.callQ Qn (x_ U a.2.1 a1 b5) Z (aD.cons (aX (aE.res 10 Z) lX) (lJ [7] Z))) Z (λcb=>(jV [] Z)) λcb=>fY Z (fC Z)<|fY Z (Bh Z Z)<|fY Z (tY Z)<|bK 13 Z Z<|aC Z<|aK<|aP ?_;exact dO (a1) () h (.inl Z) (uO.r2 Z (RV.tmp Z) (RV.tmp Z)) Z (aY.refl _) (aD.refl _ _)
     intro L au h;refine aA Z<|iG Z<|iG Z<|aC Z<|aC Z<|aK<|aI<|aS<|aA Z<|aB (ZR Z) Z<|aK ?_;refine eZ h Z (λh=>?_) λh=>?_
     ·refine yJ<|iQ<|WR Z<|iQ<|iQ<|BK<|Bc ?_;exact bT (b.2.1,b.2.2.2.1,b.2.2.2.2.1,b.2.2.2.2.2.1,b.2.2.2.2.2.2.1,b.2.2.2.2.2.2.2.1,b.2.2.2.2.2.2.2.2.1,b.2.2.2.2.2.2.2.2.2) (g.1,g.2.1,g.2.2.1,g.2.2.2) h SF (aY.ix [0,1,2,3,4,5,7,17,18] Z Z) (aD.refl _ _)
     refine cE<|aI<|aS<|bX Z<|cJ 6 Z<|bX Z<|cJ 6 Z<|aA Z<|aA Z<|eL h λbC bM h=>aG (aJ.callQ Qt (xZ U a.2.1 bC bM) Z (aD.cons (aX (aE.res 10 Z) lX) (lJ [7] Z))) Z λct=>aB (iZ Z) Z<|aK ?_;refine yC h Z (λ_ h=>?_) λ_ h=>?_
     ·refine aS ?_;refine aB (ID (r:=Value.agg #[lS,lS,lS,vI (0:Int),vI (0:Int),vI (0:Int),vI (0:Int),vU (0:Int)]) (by intro w;simp[Instr.build,Instr.fill,eP,dV,dH,eQ,eR,dW,fS])) Z ?_;refine bR 5 (vs:=EI) Z Z Z Z Z Z<|aC Z<|aK<|aP<|aH<|bO<|aH<|aH<|bO<|aH<|jY (f_ kF)<|jY (f_ kF)<|jY (f_ eK.raw) (jY (Bf cM) ?_);exact dO (([]:aT),([]:aT),([]:bW),(0:Int),(0:Int),(0:Int),(0:Int),(0:Int),(11:Int)) ((lS),(lS),(lS),([]:iP)) h (.inl Z) (uO.r2 Z (RV.cell 9 Z Z Z Z) (RV.tmp Z)) Z (aY.ix [11,21,2,3,1,0] Z Z) (aD.refl _ _)
     refine cE<|aS<|bX Z<|cJ 6 Z<|aA Z<|aA Z<|eL h λap bQ h=>aG (aJ.callQ XA (Dv U a.1 p q a.2.2.1 p q v t z4 a.2.2.2.2.2.1 (List.zip a.2.2.2.2.2.2 d.2.2.2.2) a.2.2.2.1 (List.zip a.2.2.2.2.1 d.2.2.1) g.1 (List.zip g.2.1 b.2.2.2.2.2.2.2.2.1) ap bQ) Z (aD.cons (aE.res 11 Z) (aD.cons (aE.fact 0 Z) (aD.cons (aE.fact 1 Z) (aD.cons (aE.res 14 Z) (aD.cons (aE.fact 0 Z) (aD.cons (aE.fact 1 Z) (aD.cons (aE.fact 3 Z) (aD.cons (aE.fact 4 Z) (aD.cons (bJ (i:=15) (j:=16) Z Z cU) (aD.cons (bJ (i:=12) (j:=13) Z Z bB) (aD.cons (bJ (i:=2) (j:=3) Z Z cU) .nil)))))))))))) Z λT=>aC Z<|aK<|aI ?_;refine JR.start [0,1,0,7,0,16,63,127] 6 mixedOrders (by decide +kernel) ?_;refine JR.open (by exact rfl) ?_;refine cN Z<|dY 8 Z<|bE Z<|eL h λS bV h=>JR.loud Z Z Z (aJ.callQ Qs (wW U a.1 p q a.2.2.1 p q v t z4 a.2.2.2.2.2.1 (List.zip a.2.2.2.2.2.2 d.2.2.2.2) a.2.2.2.1 (List.zip a.2.2.2.2.1 d.2.2.1) T.1 (List.zip T.2 ap) S bV) Z (aD.cons (aE.res 13 Z) (aD.cons (aE.fact 0 Z) (aD.cons (aE.fact 1 Z) (aD.cons (aE.res 16 Z) (aD.cons (aE.fact 0 Z) (aD.cons (aE.fact 1 Z) (aD.cons (aE.fact 3 Z) (aD.cons (aE.fact 4 Z) (aD.cons (bJ (i:=17) (j:=18) Z Z cU) (aD.cons (bJ (i:=14) (j:=15) Z Z bB) (aD.cons (bJ (i:=0) (j:=1) Z Z cU) .nil)))))))))))) Z (λca=>(jV [] Z)) λca=>fY Z (dR Z Z Z Z Z)<|bI Z (aY.cons 8 Z .nil) .nil (cK 0 Z Z Z Z Z) (aN.h (aY.ix [8] Z Z) .nil aN.z)<|bK 6 Z Z<|Ak Z<|aC Z<|aK<|aS<|dM 3 Z<|aA Z<|aA Z<|eL h λu b0 h=>aG (aJ.callQ XC (JX U  u b0) Z .nil) Z λcu=>aA Z<|iG Z<|iG Z<|bR 3 (vs:=[vI (u.1.1),vI (u.1.2.1),vI (u.1.2.2.1),vI (u.1.2.2.2.1),vU (u.1.2.2.2.2)]) Z Z Z Z Z Z<|aK<|aS<|bX Z<|cJ 8 Z<|aA Z<|aA Z<|dM 3 Z<|eL h λbD b4 h=>aG (fQ (vs:=[T.1,vU (eO .u32 S d.1),Value.agg #[vI (u.1.1),vI (u.1.2.1),vI (u.1.2.2.1),vI (u.1.2.2.2.1),vU (u.1.2.2.2.2)]]) (cs:=[]) Uo Z (Gd U T.1 (List.zip T.2 ap) bD b4) Z (aD.cons (bJ (i:=0) (j:=1) Z Z cU) .nil) (λ_ _=>rfl)) Z λcv=>aK<|aS<|bX Z<|cJ 6 Z<|aA Z<|aG (cW (e:=kF) ([L]) [(0,vU (L))] Z Z Z Z (pP (vU (L)) Z) Z Z Z) Z λcq=>dK h λbt h=>aG (g_ 21 lX Z Z Z (aX (aE.res 0 Z) lX) Z Z Z Z bt Z) Z λbF=>bX Z<|dB (Know.one ((aX (aE.res 21 Z) lX))) λbb=>gR 7 Z Z bb Z Z Z<|aK<|aR<|bX Z<|cJ 7 Z<|aA Z<|aG (cW (e:=kF) ([(eO .u32 S d.1)]) [(0,vU (eO .u32 S d.1))] Z Z Z Z (pP (vU (eO .u32 S d.1)) Z) Z Z Z) Z λcr=>dK h λbu h=>aG (g_ 4 lX Z Z Z (aX (aE.res 0 Z) lX) Z Z Z Z bu Z) Z λbG=>bX Z<|dB (Know.one ((aX (aE.res 4 Z) lX))) λbc=>gR 8 Z Z bc Z Z Z<|fF<|mP<|aR<|cO Z<|aA Z<|aK ?_;exact lT ((eO .u32 S d.1),(b.2.1++([(eO .u32 S d.1)])),(wI .i64 (b.2.2.1+(1:Int))),u.1.1,u.1.2.1,u.1.2.2.1,u.1.2.2.2.1,u.1.2.2.2.2,ap,(b.2.2.2.2.2.2.2.2.2++[L])) (T.1,T.2,bF,bG) h SF (aY.ix [4,5,2,3,8,9,10,11,12,13,14,15,16,17,18,19,20,21,22] Z Z) (aD.refl _ _)
    refine fE ?_;exact bT (b.2.1,b.2.2.2.1,b.2.2.2.2.1,b.2.2.2.2.2.1,b.2.2.2.2.2.2.1,b.2.2.2.2.2.2.2.1,b.2.2.2.2.2.2.2.2.1,b.2.2.2.2.2.2.2.2.2) (g.1,g.2.1,g.2.2.1,g.2.2.2) h SF (aY.ix [0,1,2,3,4,5,7,17,18] Z Z) (aD.refl _ _)
   intro o J h;unfold uF at h;refine aI ?_;refine JR.start [0,0,1,5,15,31] 4 mixedOrders (by decide +kernel) ?_;refine JR.open (by exact rfl) ?_;refine bE Z<|hZ 1 Z<|cN Z<|bY (Know.one (aE.sl (bJ (i:=2) (j:=3) Z Z cU))) λbr=>oC Z Z Z (Da 4 Z Z br Z Z Z) (λcm=>(jV [([1],[])] Z)) λcm=>bK 4 Z Z<|bX Z<|Ld (Iy 4 (us:=[vI (o.2.1),vI (o.2.2.1),vI (o.2.2.2.1),vI (o.2.2.2.2.1),vU (o.2.2.2.2.2.1)]) Z Z Z Z Z Z Z Z Z) λcz=>aK<|aS<|dM 4 Z<|dB (Know.one ((aX (aE.res 8 Z) lX))) λbs=>dB (Know.one ((aX (aE.res 0 Z) lX))) λa9=>dB (Know.one (aE.sl (bJ (i:=2) (j:=3) Z Z cU))) λba=>bR 5 (vs:=[J.2.2.1,J.2.2.2,J.1,vI (o.2.1),vI (o.2.2.1),vI (o.2.2.2.1),vI (o.2.2.2.2.1),vU (o.2.2.2.2.2.1)]) Z Z (dQ bs (dQ a9 (dQ ba (dQ Z (dQ Z (dQ Z (dQ Z (dQ Z Z)))))))) Z Z Z<|aC Z<|aK<|aP ?_;exact dO (o.2.2.2.2.2.2.2,o.1,o.2.2.2.2.2.2.1,o.2.1,o.2.2.1,o.2.2.2.1,o.2.2.2.2.1,o.2.2.2.2.2.1,(0:Int)) (J.2.2.1,J.2.2.2,J.1,J.2.1) h (.inl Z) (uO.r2 Z (RV.cell 5 Z Z Z Z) (RV.tmp Z)) Z (aY.ix [6,7,8,0,2,3] Z Z) (aD.refl _ _)
  intro s H h;unfold zD at h;refine iG Z<|iG Z<|dB (Know.one ((aX (aE.res 2 Z) lX))) λbn=>dB (Know.one ((aX (aE.res 3 Z) lX))) λbo=>dB (Know.one (aE.sl (bJ (i:=4) (j:=5) Z Z cU))) λbp=>bR 0 (vs:=[H.1,H.2.1,H.2.2.1,vI (s.2.2.2.1),vI (s.2.2.2.2.1),vI (s.2.2.2.2.2.1),vI (s.2.2.2.2.2.2.1),vU (s.2.2.2.2.2.2.2.1)]) Z Z (dQ bn (dQ bo (dQ bp (dQ Z (dQ Z (dQ Z (dQ Z (dQ Z Z)))))))) Z Z Z<|aC Z<|aK<|aP ?_;exact dO (s.2.2.2.1,s.2.2.2.2.1,s.2.2.2.2.2.1,s.2.2.2.2.2.2.1,s.2.2.2.2.2.2.2.1,s.2.2.2.2.2.2.2.2,s.1,s.2.1,s.2.2.1) (H.1,H.2.1,H.2.2.1,H.2.2.2) h (.inl Z) (uO.r2 Z (RV.cell 0 Z Z Z Z) (RV.tmp Z)) Z (aY.ix [1,2,3,4,5] Z Z) (aD.refl _ _)
 intro D G h;unfold BG at h;refine iG Z<|iG Z<|dB (Know.one ((aX (aE.res 1 Z) lX))) λbj=>dB (Know.one ((aX (aE.res 2 Z) lX))) λbk=>dB (Know.one (aE.sl (bJ (i:=3) (j:=4) Z Z cU))) λbl=>bR 0 (vs:=[G.1,G.2.1,G.2.2.1,vI (D.1),vI (D.2.1),vI (D.2.2.1),vI (D.2.2.2.1),vU (D.2.2.2.2.1)]) Z Z (dQ bj (dQ bk (dQ bl (dQ Z (dQ Z (dQ Z (dQ Z (dQ Z Z)))))))) Z Z Z<|aC Z<|aK<|aP ?_;cases h;exact gZ (G.1,G.2.1,G.2.2.1,G.2.2.2) Z Z (RV.cell 0 Z Z Z Z) (RV.tmp Z) (aY.ix [1,2,3,4] Z Z) aD.nil
end Go.Proofs.YtjkjpdonlpdcaaaGreatDoor
namespace Go.Proofs.YtjkjpdonlpdcaaaGreatDoor
open Go Go.Sx
theorem Tb {g:GR} (e:VG g) (p:Gq) (b:Int) (c:bW) (o:aT):
  bP (mA 1000 p g b c o) 1000 ((0:Int),(0:Int),(List.replicate (Int.toNat (List.length g.2:Int)) ([]:aT)))=uG 1000 p g b c o (fO g g.2.length,fV g):=by
 have z:=e.n24;have s:=e.len;let f:Nat->aT:=λv=>(List.range (row g v).length).map (Ql g v);let Q:Nat->bW:=λk=>(List.range k).map f++List.replicate (g.2.length - k) [];have q:∀k,k<=g.2.length->(Q k).length=g.2.length:=λk i=>by simp[Q];omega
 rw[show List.replicate (Int.toNat (List.length g.2:Int)) ([]:aT)=Q 0 by simp[Q]];refine eB (step:=mA 1000 p g b c o) g.2.length (λk=>((k:Int),fO g k,Q k)) (λk d i=> ?_) (λd=> ?_) 1000 (by omega)
 ·have r:=(e.node k i).deg;have t:k<(Q k).length:=by rw[q k (by omega)];exact i
  unfold mA;dsimp only;rw[if_pos (by omega),cV (by omega),cV (by omega)];let a:Nat->aT:=λj=>(List.range j).map (Ql g k);have y:Q k=(Q k).set k (a 0):=by
   have:at' (Q k) (k:Int)=a 0:=by
    rw[nU t];simp[Q,a]
   rw[<-this];exact(Jz (Q k) (k:Int) (by simpa using t) (by omega)).symm
  rw[show(Q k)=(Q k).set k (a 0)from y];have h:∀A:bW,A.length=g.2.length->bP (rK 1000 g ((k:Int),fO g k,(Q k).set k (a 0)) d) 1000 ((0:Int),A.set k (a 0))=d (((k+1:Nat):Int),fO g (k+1),A.set k (f k)):=by
   intro A D;refine eB (step:=rK 1000 g ((k:Int),fO g k,(Q k).set k (a 0)) d) (K:=d (((k+1:Nat):Int),fO g (k+1),A.set k (f k))) (row g k).length (λj=>((j:Int),A.set k (a j))) (λj m C=> ?_) (λm=> ?_) 1000 (by omega)
   ·obtain⟨u,w,l⟩:=e.to i C;have B:=(e.node u w).deg;have x:at' (A.set k (a j)) (k:Int)=a j:=by rw[zY _ _ _ _ (by omega),if_pos Z]
    have n:(a j).length=j:=by simp[a]
    unfold rK;dsimp only;rw[if_pos (show(j:Int)<((row g k).length:Int) by omega),cV (show 0<=(j:Int)∧(j:Int)<((row g k).length:Int) by omega),cV (by simp only[List.length_set];omega),show at' (at' g.2 (k:Int)) (j:Int)=iA (row g k) j from rfl,l,bM (show pT 1000 _ (u:Int) (k:Int)=_ from SZ g u (k:Int) w (by omega)),x,cV (by rw[n];simp;omega),cV (by simp only[List.length_set];omega),eY (by omega),Int.toNat_natCast,List.set_set];have:a j++[CC (row g u) (k:Int)]=a (j+1):=by
     simp only[a];rw[List.range_succ,List.map_append,List.map_singleton,Ql,l,Int.toNat_natCast]
    rw[this]
   ·unfold rK zG;dsimp only;rw[if_neg (show¬((row g k).length:Int)<((row g k).length:Int)from Int.lt_irrefl _),eY (by omega)];rfl
  have:=h (Q k) (q k (by omega));rw[zC f [] g.2.length k i]at this;exact this
 ·unfold mA;dsimp only;rw[if_neg (by omega)];simp[Q,fV,f]
def qS (g:GR):Nat:=2^g.2.length - 1
theorem Xg {g:GR} (b:VG g):qS g<4294967296:=by
 have a:=b.n24;have:(2:Nat)^g.2.length<=2^24:=Nat.pow_le_pow_right (by omega) a;unfold qS;omega
section
variable {p:Gq} {g:GR} {R:List RL}
theorem Pj (hV:VG g) (hp:zW g p.2.1) (hz:p.2.2.map AB=HA R) (hR:AN p.2.1.length R=true) {kind:Int} (hk1:1<=kind) (hk4:kind<=4) {c0:List (List Int)} (hc0:MN g c0 p.2.1) {ws:List Int} (hws:ws.length<=900) (hw:∀k:Nat,k<ws.length->∃m:Nat,at' ws (k:Int)=(m:Int)∧m<4294967296)
  (P:Nat->List (List Int)->List Nat->CT->Prop) (h0:P 0 c0 [] (0,0,0,0,eO .u32 ((Ev (cT p g) R (qS g) c0:Nat):Int) 16777215))
  (hstep:∀k c ch cnt t cnt' err,k<ws.length->wZ g p.2.1.length c->P k c ch cnt->Ev (cT p g) R (qS g) c≠0->t≠0->(∀i,t.testBit i=true->(Ev (cT p g) R (qS g) c).testBit i=true)->(kind<=2->∀v u,t.testBit v=true->t.testBit u=true->¬Iq g v u)->(kind=4->t=Ev (cT p g) R (qS g) c)->(∃net,nY 1000 g=some net∧eX 1000 net kind ((Ev (cT p g) R (qS g) c:Nat):Int) (at' ws (k:Int))=some (t:Int))->
   rJ 1000 cnt (t:Int) ((Ev (cT p g) R (qS g) (zT (cT p g) p.2.1 R c t):Nat):Int)=some (cnt',err)->P (k+1) (zT (cT p g) p.2.1 R c t) (ch++[t]) cnt'):
  ∃k c ch cnt ens,tE 1000 p g kind c0 ws=some ((Nu ch,ens,c,cnt),0)∧P k c ch cnt∧wZ g p.2.1.length c∧k<=ws.length∧ch.length=k∧ens.length=k+1∧at' ens (k:Int)=((Ev (cT p g) R (qS g) c:Nat):Int)∧(k=ws.length∨Ev (cT p g) R (qS g) c=0):=by
 have h24:=hV.n24;have hvl:=hp.len;let S:=cT p g;have hVS:VG S.2.1:=hV;obtain⟨net,hnet,hN⟩:=aaY hV;have hcheck:zS 1000 p g kind c0 (ws.length:Int)=some 0:=by
  unfold zS;rw[bM (show sQ 1000 _ _ c0=_ from Uz hV hp hc0),if_neg (by decide)];have:xP 1000 kind=some true:=by
   unfold xP qT;rw[if_pos hk1,decide_eq_true hk4]
  rw[bM this,if_neg (by decide),if_neg (by omega)]
 unfold tE;rw[bM (show zS 1000 _ _ kind c0 _=_ from hcheck),if_neg (by decide),cV (by omega),Tb hV p kind c0 ws];unfold uG zF;rw[bM (show nC 1000 _ _=_ from Od hV hp)];unfold zE;rw[bM (show nY 1000 _=_ from hnet),bM (show zR 1000 _=some ((qS g:Nat):Int)from ZS hV)];have hen:∀c,wZ g p.2.1.length c->eI 1000 (p,(p,g,fO g g.2.length,fV g),CL g p.2.1) c=some ((enD S R c:Nat):Int):=λc hc=>Pg hV hc hz hR (by simp[CL]);have hand:∀c,eO .u32 ((enD S R c:Nat):Int) ((qS g:Nat):Int)=((Ev S R (qS g) c:Nat):Int):=λc=>II (aax hVS R c) (Xg hV);unfold BF;dsimp only;rw[bM (QI c0 (by rw[hc0.len];omega) (λv hv=>by rw[hc0.row v (by rw[<-hc0.len];exact hv)];omega)),bM (show eI 1000 _ c0=_ from hen c0 hc0.shape),hand,bM (show u_ 1000 _=some (0,0,0,0,eO .u32 ((Ev S R (qS g) c0:Nat):Int) 16777215)from rfl),bM (show tF 1000 _ _ _=some ()from rfl),cV (by simp),List.nil_append];let A20:Int×List Int×(List (List (Int×Int)))×Int×List (List Int):=(((qS g:Nat):Int),net,CL g p.2.1,fO g g.2.length,fV g)
 have fin:∀k c ch cnt ens,P k c ch cnt->wZ g p.2.1.length c->k<=ws.length->ch.length=k->ens.length=k+1->at' ens (k:Int)=((Ev S R (qS g) c:Nat):Int)->(k=ws.length∨Ev S R (qS g) c=0)->
   OK (λr:(List Int×List Int×List (List Int)×CT)×Int=>∃k c ch cnt ens,r=((Nu ch,ens,c,cnt),0)∧P k c ch cnt∧wZ g p.2.1.length c∧k<=ws.length∧ch.length=k∧ens.length=k+1∧at' ens (k:Int)=((Ev S R (qS g) c:Nat):Int)∧(k=ws.length∨Ev S R (qS g) c=0)) (uF (ens,cnt.1,cnt.2.1,cnt.2.2.1,cnt.2.2.2.1,cnt.2.2.2.2,c,Nu ch)):=
  λk c ch cnt ens a1 a2 a3 a4 a5 a6 a7=>⟨_,rfl,k,c,ch,cnt,ens,rfl,a1,a2,a3,a4,a5,a6,a7⟩
 have key:=xF (step:=uH 1000 p g kind ws A20) (Q:=λr:(List Int×List Int×List (List Int)×CT)×Int=>∃k c ch cnt ens,r=((Nu ch,ens,c,cnt),0)∧P k c ch cnt∧wZ g p.2.1.length c∧k<=ws.length∧ch.length=k∧ens.length=k+1∧at' ens (k:Int)=((Ev S R (qS g) c:Nat):Int)∧(k=ws.length∨Ev S R (qS g) c=0))
  (λx=>∃(k:Nat) (c:List (List Int)) (ch:List Nat) (cnt:CT) (ens:List Int),x=(((Ev S R (qS g) c:Nat):Int),ens,(k:Int),cnt.1,cnt.2.1,cnt.2.2.1,cnt.2.2.2.1,cnt.2.2.2.2,c,Nu ch)∧P k c ch cnt∧wZ g p.2.1.length c∧k<=ws.length∧ch.length=k∧ens.length=k+1∧at' ens (k:Int)=((Ev S R (qS g) c:Nat):Int)) (λx=>ws.length - x.2.2.1.toNat) (λx ag hI hrec=>by
  obtain⟨k,c,ch,cnt,ens,rfl,b1,b2,b3,b4,b5,b6⟩:=hI;unfold uH;dsimp only;by_cases hlt:k<ws.length
  rotate_left
  ·rw[if_neg (by omega)];exact fin k c ch cnt ens b1 b2 b3 b4 b5 b6 (.inl (by omega))
  obtain⟨w,hwe,hw32⟩:=hw k hlt;have hin:WG g (Ev S R (qS g) c):=aay S R (qS g) c;obtain⟨t,ht,hsub,hne⟩:=PK hV hN hk1 hk4 hin hw32;rw[if_pos (by omega),cV (by omega),hwe,bM (show eX 1000 net kind _ _=_ from ht)];unfold BH;dsimp only;by_cases he0:Ev S R (qS g) c=0
  ·rw[if_pos (by omega)];exact fin k c ch cnt ens b1 b2 b3 b4 b5 b6 (.inr he0)
  obtain⟨ht0,hperm,hk2,hk4'⟩:=hne he0;have ht32:t<4294967296:=by have:=WG.lt hV (λi hi=>hin i (hsub i hi));omega
  rw[if_neg (by omega),bM (show fT 1000 net kind _ _=_ from hperm),if_neg (by decide)];have hst:jE 1000 (p,(p,g,fO g g.2.length,fV g),CL g p.2.1) c (t:Int)=some (zT S p.2.1 R c t):=YZ (gr:=fO g g.2.length) hV hp b2 hz hR ht32 (λv hv=>((HY S R (qS g) c v).1 (hsub v hv)).2.1);have hsh:wZ g p.2.1.length (zT S p.2.1 R c t):=b2.step;obtain⟨⟨cnt',err⟩,hadd⟩:=Ue cnt ht32 ((Ev S R (qS g) (zT S p.2.1 R c t):Nat):Int);rw[bM (show jE 1000 _ c (t:Int)=_ from hst),bM (show eI 1000 _ _=_ from hen _ hsh),hand,bM (show rJ 1000 _ (t:Int) _=_ from hadd),bM (show tF 1000 _ _ _=some ()from rfl),cV (by simp[Nu];omega),cV (by simp;omega),eY (by omega)];refine hrec _ ⟨k+1,zT S p.2.1 R c t,ch++[t],cnt',ens++[((Ev S R (qS g) (zT S p.2.1 R c t):Nat):Int)],by simp[Nu],hstep k c ch cnt t cnt' err hlt b2 b1 he0 ht0 hsub hk2 hk4' ⟨net,hnet,by rw[hwe];exact ht⟩ hadd,hsh,by omega,by simp[b4],by simp[b5],?_⟩ (by dsimp only;omega);exact Ln (pre:=ens) (rest:=[]) (by simp) b5) 1000 (((Ev S R (qS g) c0:Nat):Int),[((Ev S R (qS g) c0:Nat):Int)],(0:Int),0,0,0,0,eO .u32 ((Ev S R (qS g) c0:Nat):Int) 16777215,c0,[])
  ⟨0,c0,[],(0,0,0,0,eO .u32 ((Ev S R (qS g) c0:Nat):Int) 16777215),[((Ev S R (qS g) c0:Nat):Int)],rfl,h0,hc0.shape,by omega,rfl,rfl,rfl⟩ (by dsimp only;omega)
 obtain⟨r,hr,k,c,ch,cnt,ens,rfl,hrest⟩:=key;exact⟨k,c,ch,cnt,ens,hr,hrest⟩
end
structure Elc (g:GR) (s:Nat) (d:aT):Prop where
 slt:s<g.2.length
 dist:Al g s d
 nn:∀v,v<g.2.length->0<=D d v
 lt:∀v,v<g.2.length->D d v<(g.2.length:Int)
 least:∀u,u<g.2.length->u≠s->t_ g s<t_ g u
def To (g:GR) (d:aT) (v:Nat):Int:=qB ((List.range (row g v).length).map λi=>Gt (decide (D d (iA (row g v) i).1.toNat=D d v - 1)))
def ZM (g:GR) (s:Nat) (d:aT) (c:bW) (v:Nat):Prop:=t_ g s*(g.1.length:Int)+D d v<=DY c v 0*(g.1.length:Int)+DY c v 1
def RtE (g:GR) (s:Nat) (d:aT) (c:bW) (v:Nat):Prop:=Zl c v (t_ g s,D d v,To g d v)
def GL (g:GR) (s:Nat) (d:aT) (k:Nat) (c:bW):Prop:=(∀v,v<g.2.length->(k:Int)<=DY c v 1∨ZM g s d c v)∧∀v,v<g.2.length->(g.2.length:Int)+1+D d v<=(k:Int)->RtE g s d c v
section
variable {g:GR} {s:Nat} {d:List Int} {c c':List (List Int)} (hV:VG g) (E:Elc g s d)
 include hV E
theorem Tv (b:MN g c qQ):GL g s d 0 c:=by
 refine⟨λv a=> .inl ?_,λv a h=> ?_⟩
 ·have:=(LB hV b a).2.1;omega
 ·have:=E.nn v a;omega
theorem Qa (G:MN g c qQ) (R:∀v,v<g.2.length->Zl c' v (TL g c v)) {k:Nat} (hG:GL g s d k c):GL g s d (k+1) c':=by
 obtain⟨P,Q⟩:=hG;have U:=hV.len;have h1:=hV.n1;have aa:=hV.n24;have hm:=rB hV g.2.length (by omega);have y:∀v,v<g.2.length->v≠s->t_ g s*(g.1.length:Int)+(g.1.length:Int)<=t_ g v*(g.1.length:Int):=λv b e=>PC (E.least v b e) (by omega);have ae:t_ g s*(g.1.length:Int)+(g.1.length:Int)<=(fO g g.2.length+1)*(g.1.length:Int):=PC (by have:=(Jd hV E.slt).1;omega) (by omega);have ag:=(Jd hV E.slt).2;refine⟨λv b=> ?_,λv b hk=> ?_⟩
 ·obtain⟨m,f,o⟩:=R v b;by_cases h:t_ g v*(g.1.length:Int)<=mL g c v
  ·right;unfold TL at m f;rw[if_pos h]at m f;unfold ZM;rw[m,f];by_cases e:v=s
   ·have:=(E.dist.zero v b).2 e;rw[this,e];exact Int.le_refl _
   ·have:=y v b e;have:=E.lt v b;dsimp only;omega
  ·obtain⟨i,u,n,a,F,b1,b2,b3,b4⟩:=Zu hV G b (by omega);unfold TL at m f;rw[if_neg h]at m f;dsimp only at m f;rw[b3]at m;rw[b4]at f;have hn:=(E.dist.next u a (E.nn u a) v b (hV.back b F)).2;rcases P u a with q|q
   ·left;rw[f];omega
   ·right;unfold ZM at q ⊢;rw[m,f];omega
 ·have af:=E.nn v b;have t:∀u,u<g.2.length->ZM g s d c u:=λu a=>(P u a).resolve_left (λq=>by have:=(LB hV G a).2.1;omega);obtain⟨m1,m2,V⟩:=Ra hV G b;obtain⟨m,f,o⟩:=R v b;have w:∀i,i<(row g v).length->∃u:Nat,u<g.2.length∧(iA (row g v) i).1=(u:Int)∧Tl g c v i=DY c u 0*(g.1.length:Int)+DY c u 1∧Mv g c v i 1=DY c u 1∧D d v<=D d u+1:=λi n=>by
   obtain⟨u,a,l,F,e0,O⟩:=SU (c:=c) hV b n;exact⟨u,a,l,by unfold Tl;rw[e0,O],O,(E.dist.next u a (E.nn u a) v b (hV.back b F)).2⟩
  by_cases e:v=s
  ·have hD:=(E.dist.zero v b).2 e;have A:t_ g v*(g.1.length:Int)<=mL g c v:=by
    rcases V with q|⟨i,n,q⟩
    ·rw[q,e];omega
    ·obtain⟨u,a,l,r,C,M⟩:=w i n;have z:=t u a;unfold ZM at z;have:=E.nn u a;have ev:t_ g v*(g.1.length:Int)=t_ g s*(g.1.length:Int):=by rw[e]
     rw[q];unfold Nn;split
     ·rw[r];omega
     ·omega
   unfold TL at m f o;rw[if_pos A]at m f o;refine⟨by rw[m,e],by rw[f,hD],?_⟩
   rw[o];have:To g d v = -1:=by
    unfold To;refine wS λj I=> ?_;rw[List.length_map,List.length_range]at I;rw[xY _ I];obtain⟨u,a,l,_⟩:=w j I;have:=E.nn u a;rw[l,Int.toNat_natCast,decide_eq_false (by omega)];rfl
   exact this.symm
  ·have B:0<D d v:=by
    have:D d v≠0:=λq=>e ((E.dist.zero v b).1 q);omega
   obtain⟨X,K,⟨L,x,T⟩,H⟩:=E.dist.near v b B;obtain⟨W,N,_⟩:=Q X K (by omega);dsimp only at W N;have ad:=E.lt v b;have S:Nn g c v L=t_ g s*(g.1.length:Int)+(D d v - 1):=by
    obtain⟨u,a,l,r,C,M⟩:=w L x;obtain rfl:u=X:=by omega
    unfold Nn;rw[C,N,if_pos (by omega),r,W,N,H]
   have ac:=m2 L x;have ab:t_ g s*(g.1.length:Int)+(D d v - 1)<=mL g c v:=by
    rcases V with q|⟨i,n,q⟩
    ·omega
    ·obtain⟨u,a,l,r,C,M⟩:=w i n;have z:=t u a;unfold ZM at z;rw[q];unfold Nn;split
     ·rw[r];omega
     ·omega
   have p:mL g c v=t_ g s*(g.1.length:Int)+(D d v - 1):=by omega
   have J:¬t_ g v*(g.1.length:Int)<=mL g c v:=by have:=y v b e;omega
   unfold TL at m f o;rw[if_neg J]at m f o;dsimp only at m f o;rw[p,LN (by omega) (by omega)]at m;rw[p,QY (by omega) (by omega)]at f;refine⟨m,by rw[f];dsimp only;omega,?_⟩
   rw[o];show _=To g d v;unfold To;refine congrArg qB (List.map_congr_left λi n=> ?_);have n:=List.mem_range.1 n;obtain⟨u,a,l,r,C,M⟩:=w i n;have z:=t u a;unfold ZM at z;refine congrArg Gt (decide_eq_decide.2 ?_);rw[r,p,l,Int.toNat_natCast];constructor
   ·intro q;omega
   ·intro q;obtain⟨Y,x1,_⟩:=Q u a (by omega);dsimp only at Y x1;rw[Y,x1,q]
theorem Tu (e:MN g c qQ) (b:∀v,v<g.2.length->Zl c v (TL g c v)) {k:Nat} (a:GL g s d k c):∀j,GL g s d (k+j) c
 |0=>a
 |j+1=>Qa hV E e b (Tu e b a j)
 omit hV in
theorem ZG (b:GL g s d (2*g.2.length) c) {v:Nat} (a:v<g.2.length):RtE g s d c v:=b.2 v a (by have:=E.lt v a;omega)
end
abbrev pE (z:List yF):Gq:=(ByteArray.mk #[108,101,97,100,101,114],qQ,z)
theorem adJ {p:Gq} {g:GR} (f:VG g) {c:List (List Int)} (d:MN g c qQ) {t:Nat} (j:t=Ev (cT p g) RE (qS g) c) {v:Nat} (a:v<g.2.length):Zl (zT (cT p g) qQ RE c t) v (TL g c v):=by
 have e:=d.len;have b:at' (zT (cT p g) qQ RE c t) (v:Int)=if t.testBit v=true then Aj (cT p g) qQ RE c v (rC (cT p g) RE c v)else at' c (v:Int):=FX (by rw[e];exact a);have i:t.testBit v=true↔0<=rC (cT p g) RE c v:=by
  rw[j,HY];exact⟨λh=>h.2.1,λh=>⟨a,h,by unfold qS;rw[Qi,decide_eq_true a]⟩⟩
 unfold Zl DY;rw[b];by_cases h:t.testBit v=true
 ·rw[if_pos h];exact adA f d a (i.1 h)
 ·rw[if_neg h];exact KL (p:=p) f d a λq=>h (i.2 q)
theorem Su {z:List yF} {g:GR} (hV:VG g) {s:Nat} {d:List Int} (E:Elc g s d) (hz:z.map AB=HA RE) {c0:List (List Int)} (hc0:MN g c0 qQ) {ws:List Int} (hws:ws.length=2*g.2.length) (hw:∀k:Nat,k<ws.length->∃m:Nat,at' ws (k:Int)=(m:Int)∧m<4294967296):
  ∃(r:List Int×List Int) (c:List (List Int)) (cnt:CT),tE 1000 (pE z) g 4 c0 ws=some ((r.1,r.2,c,cnt),0)∧MN g c qQ∧∀v,v<g.2.length->RtE g s d c v:=by
 have h24:=hV.n24;obtain⟨k,c,ch,cnt,ens,h1,⟨h2,h3⟩,h4,h5,h6,h7,h8,h9⟩:=Pj (p:=pE z) hV (ZD hV) hz YW (kind:=4) (by omega) (by omega) hc0 (ws:=ws) (by omega) hw (λk c ch cnt=>MN g c qQ∧GL g s d k c)
  ⟨hc0,Tv hV E hc0⟩ (λk c ch cnt t cnt' err hk hsh hI hne ht0 hsub hind ht _ _=>⟨Td (S:=cT (pE z) g) (ZD hV) hI.1,Qa hV E hI.1 (λv hv=>adJ hV hI.1 (ht Z) hv) hI.2⟩)
 refine⟨(Nu ch,ens),c,cnt,h1,h2,λv hv=>ZG E ?_ hv⟩
 rcases h9 with q|q
 ·rw[<-hws,<-q];exact h3
 ·have hT:∀v,v<g.2.length->Zl c v (TL g c v):=λv hv=>KL (p:=pE z) hV h2 hv λe=>by
   have:(Ev (cT (pE z) g) RE (qS g) c).testBit v=true:=(HY _ RE _ c v).2 ⟨hv,e,by unfold qS;rw[Qi,decide_eq_true hv]⟩;rw[q]at this;simp at this
  have:=Tu hV E h2 hT h3 (2*g.2.length - k);rw[show k+(2*g.2.length - k)=2*g.2.length by omega]at this;exact this
end Go.Proofs.YtjkjpdonlpdcaaaGreatDoor
namespace Go.Proofs.YtjkjpdonlpdcaaaGreatDoor
open Go.Sx
def Ad  (a:Unit):Option (Bool):=
 some (true)
def vF (c:aT) (d:aT) (a:Int) (b:(Int)->Option (Bool)):Option (Bool):=
 if a<(List.length c:Int)then(ck (0<=a∧a<(List.length c:Int)) (ck (0<=a∧a<(List.length d:Int)) (if(at' c a)≠(at' d a)then(some (false))else(b (wI .i64 (a+(1:Int)))))))else(Ad  (()))
def xU (U:Nat) (a:aT) (b:aT):Option (Bool):=
 if(List.length a:Int)≠(List.length b:Int)then(some (false))else(bP (vF a b) U (0:Int))
theorem aag:aQ Tryz.prog 42:=Tryz.call42
theorem JI (U:Nat) {f:aT} {g:aT} (i:Value)  (j:Value) (r:Bool) (h:xU U f g=some r):
  bA Tryz.prog 42 #[i,j] [Sl bN i f,Sl bN j g] (λx:Unit=>vB (r)) (λx l=>l) (λ_ l=>l):=by
 refine bA.of Tryz.func42 Z Tryz.ntmps42 Z λc=>?_;refine aS<|aC Z<|aK<|aI<|aS<|aA Z<|iH (aE.fact 0 Z) Z<|aA Z<|iH (aE.fact 1 Z) Z<|oT Z<|aK ?_;refine eZ h Z (λh=>?_) λh=>?_
 ·refine aS<|aC Z<|aK<|aP<|aH ?_;cases h;exact kM Z
 refine cE<|aI<|d_ (λd=>Ad  d=some r) (λd k=>[]) (λd k=>[]) ?_ ?_
 ·refine aS<|aA Z<|iH (aE.fact 0 Z) Z<|aA Z<|aK<|aU<|eH (vF f g) (λe m=>[(0,i),(1,j),(12,vI (List.length f:Int)),(13,vI (e))]) (λe m=>[]) (0:Int) () h SF (aY.refl _) ?_;intro n e m h;refine aS<|cP Z<|aK<|aI ?_;refine eZ h Z (λh=>?_) λh=>?_
  ·refine cE<|aI<|aU<|aS<|aA Z<|aC Z<|aK<|aI ?_;refine JR.start [0,0,3,7,0,0,48,112,255] 8 mixedOrders (by decide +kernel) ?_;refine JR.open (by exact rfl) ?_;refine bE Z<|bE Z<|dK h λa h=>bI Z .nil (h_ 0 Z) (aZ Z Z (aE.fact 0 Z) Z Z a) aN.z<|bI Z .nil (h_ 0 Z) (bU Z (aE.fact 0 Z) Z Z Z cS a) aN.z<|bE Z<|bE Z<|dK h λb h=>bI Z .nil (h_ 1 Z) (aZ Z Z (aE.fact 0 Z) Z Z b) aN.z<|bI Z .nil (h_ 1 Z) (bU Z (aE.fact 0 Z) Z Z Z cS b) aN.z<|bK 8 Z Z<|oT Z<|aK ?_;refine eZ h Z (λh=>?_) λh=>?_
   ·refine aS<|aC Z<|aK<|aP<|bO<|aH<|aH<|bO<|aH ?_;cases h;exact kM Z
   refine dJ<|mP<|aR<|cO Z<|aA Z<|aK ?_;exact Ai (wI .i64 (e+(1:Int))) () h SF Z
  refine fE ?_;exact iI () (()) h SF Z
 intro d k h;unfold Ad at h;refine aS<|aC Z<|aK<|aP ?_;cases h;exact kM Z
end Go.Proofs.YtjkjpdonlpdcaaaGreatDoor
namespace Go.Proofs.YtjkjpdonlpdcaaaGreatDoor
open Go Go.Sx
theorem ZV {p q:aT} (c:p.length=q.length) (h:∀k:Nat,k<p.length->at' p (k:Int)=at' q (k:Int)):p=q:=by
 refine List.ext_getElem c λi a b=> ?_;have:=h i a;rwa[jL,jL,List.getD_eq_getElem?_getD,List.getD_eq_getElem?_getD,List.getElem?_eq_getElem a,List.getElem?_eq_getElem b]at this
theorem Tc (p q:aT) (h:q.length<900):xU 1000 p q=some (decide (p=q)):=by
 unfold xU;by_cases f:p.length=q.length
 ·rw[if_neg (by omega)];have a:=Cu (step:=vF p q) (K:=some true) (bad:=some false) p.length (λk=>at' p (k:Int)=at' q (k:Int)) (λk=>(k:Int)) (λk c d b=> ?_) (λk c d b=> ?_) (λc=> ?_) 1000 (by omega)
  ·by_cases e:p=q
   ·rw[decide_eq_true e];exact a.1 λk d=>by rw[e]
   ·rw[decide_eq_false e];exact a.2 λg=>e (ZV f λv i=>g v i)
  all_goals unfold vF
  ·rw[if_pos (by omega),cV (by omega),cV (by omega),if_neg (by simpa using b),eY (by omega)]
  ·rw[if_pos (by omega),cV (by omega),cV (by omega),if_pos b]
  ·rw[if_neg (by omega)];rfl
 ·rw[if_pos (by omega),decide_eq_false λe=>f (by rw[e])]
end Go.Proofs.YtjkjpdonlpdcaaaGreatDoor
namespace Go.Proofs.YtjkjpdonlpdcaaaGreatDoor
open Go Go.Sx
theorem KV {k:Nat} (h:k<1000000):wI .i64 ((k:Int)+1)=((k+1:Nat):Int):=by rw[aha h];push_cast;rfl
def Yv (g:GR) (b:aT) (v x:Nat) (a:Int):Prop:=if at' b (x:Int) = -1 then -1<=a∧a<=((row g v).length:Int) - 1 else 0<=a∧a<=at' b (x:Int)
def acN (g:GR) (a:aT) (v:Nat) (l:aT):Prop:=l.length=a.length∧∀x,x<a.length->Yv g a v x (at' l (x:Int))
def ZF (g:GR) (a:aT) (c:bW):Prop:=c.length=g.2.length∧∀v,v<g.2.length->acN g a v (at' c (v:Int))
theorem Pa {g:GR} (m:VG g) {a:aT} (z:a.length<900) (c:bW):(ZF g a c->jX 1000 g c a=some true)∧(¬ZF g a c->jX 1000 g c a=some false):=by
 have u:=m.n24;have s:=m.len;unfold jX;by_cases r:c.length=g.2.length
 ·rw[if_neg (by omega)];have n:=Cu (step:=fR 1000 g c a) (K:=some true) (bad:=some false) c.length (λv=>acN g a v (at' c (v:Int))) (λk=>(k:Int)) (λk l w j=> ?_) (λk l w j=> ?_) (λl=> ?_) 1000 (by omega)
  ·refine⟨λh=>n.1 λv y=>h.2 v (by omega),λh=>n.2 λt=>h ⟨r,λv y=>t v (by omega)⟩⟩
  all_goals unfold fR
  ·have d:=Cu (step:=dG g c a (k:Int) l) (K:=l ((k+1:Nat):Int)) (bad:=some false) a.length (λx=>Yv g a k x (at' (at' c (k:Int)) (x:Int))) (λx=>(x:Int)) ?_ ?_ ?_ 1000 (by omega)
   ·rw[if_pos (by omega),cV (by omega),if_neg (by have:=j.1;omega)];exact d.1 j.2
   ·intro x f p b;unfold dG gS gT;have o:=j.1;have i:(at' g.2 (k:Int)).length<g.2.length:=(m.node k (by omega)).deg;rw[if_pos (by omega),cV (by omega),cV (by omega)];unfold Yv at b;by_cases e:at' a (x:Int) = -1
    ·rw[if_pos e]at b;rw[if_pos e,cV (by omega),wr (by omega) (by omega)];dsimp only;rw[if_neg (by omega),if_neg (by rw[decide_eq_true_eq];show¬((row g k).length:Int) - 1<_;omega),KV (by omega)]
    ·rw[if_neg e]at b;rw[if_neg e];dsimp only;rw[if_neg (by omega),if_neg (by rw[decide_eq_true_eq];omega),KV (by omega)]
   ·intro x f p b;unfold dG gS gT;have o:=j.1;have i:(at' g.2 (k:Int)).length<g.2.length:=(m.node k (by omega)).deg;rw[if_pos (by omega),cV (by omega),cV (by omega)];unfold Yv at b;by_cases e:at' a (x:Int) = -1
    ·rw[if_pos e]at b;rw[if_pos e,cV (by omega),wr (by omega) (by omega)];dsimp only;by_cases q:at' (at' c (k:Int)) (x:Int) < -1
     ·rw[if_pos q,if_pos Z]
     ·rw[if_neg q,if_pos (by rw[decide_eq_true_eq];show((row g k).length:Int) - 1<_;omega)]
    ·rw[if_neg e]at b;rw[if_neg e];dsimp only;by_cases q:at' (at' c (k:Int)) (x:Int)<0
     ·rw[if_pos q,if_pos Z]
     ·rw[if_neg q,if_pos (by rw[decide_eq_true_eq];omega)]
   ·intro f;unfold dG lE;have o:=j.1;rw[if_neg (by omega),KV (by omega)]
  ·rw[if_pos (by omega),cV (by omega)];by_cases o:(at' c (k:Int)).length=a.length
   ·rw[if_neg (by omega)];have d:=Cu (step:=dG g c a (k:Int) l) (K:=l ((k+1:Nat):Int)) (bad:=some false) a.length (λx=>Yv g a k x (at' (at' c (k:Int)) (x:Int))) (λx=>(x:Int)) ?_ ?_ ?_ 1000 (by omega)
    ·exact d.2 λh=>j ⟨o,h⟩
    ·intro x f p b;unfold dG gS gT;have i:(at' g.2 (k:Int)).length<g.2.length:=(m.node k (by omega)).deg;rw[if_pos (by omega),cV (by omega),cV (by omega)];unfold Yv at b;by_cases e:at' a (x:Int) = -1
     ·rw[if_pos e]at b;rw[if_pos e,cV (by omega),wr (by omega) (by omega)];dsimp only;rw[if_neg (by omega),if_neg (by rw[decide_eq_true_eq];show¬((row g k).length:Int) - 1<_;omega),KV (by omega)]
     ·rw[if_neg e]at b;rw[if_neg e];dsimp only;rw[if_neg (by omega),if_neg (by rw[decide_eq_true_eq];omega),KV (by omega)]
    ·intro x f p b;unfold dG gS gT;have i:(at' g.2 (k:Int)).length<g.2.length:=(m.node k (by omega)).deg;rw[if_pos (by omega),cV (by omega),cV (by omega)];unfold Yv at b;by_cases e:at' a (x:Int) = -1
     ·rw[if_pos e]at b;rw[if_pos e,cV (by omega),wr (by omega) (by omega)];dsimp only;by_cases q:at' (at' c (k:Int)) (x:Int) < -1
      ·rw[if_pos q,if_pos Z]
      ·rw[if_neg q,if_pos (by rw[decide_eq_true_eq];show((row g k).length:Int) - 1<_;omega)]
     ·rw[if_neg e]at b;rw[if_neg e];dsimp only;by_cases q:at' (at' c (k:Int)) (x:Int)<0
      ·rw[if_pos q,if_pos Z]
      ·rw[if_neg q,if_pos (by rw[decide_eq_true_eq];omega)]
    ·intro f;unfold dG lE;rw[if_neg (by omega),KV (by omega)]
   ·rw[if_pos (by omega)]
  ·rw[if_neg (by omega)];rfl
 ·rw[if_pos (by omega)];exact⟨λh=>absurd h.1 r,λ_=>rfl⟩
end Go.Proofs.YtjkjpdonlpdcaaaGreatDoor
namespace Go.Proofs.YtjkjpdonlpdcaaaGreatDoor
open Go.Sx
def xR (U:Nat) (a:cB):Option (Bool):=
 Option.bind (iF U ((a.1,a.2))) λb=>(some (b))
theorem aac:aQ Tryz.prog 35:=Tryz.call35
theorem Mk (U:Nat) {d:cB} (a:Value)  (b:Value)  (e:mH) (r:Bool) (h:xR U d=some r):
  bA Tryz.prog 35 #[Value.agg #[a,b]] [Sl bN a d.1,S2 aO b e d.2] (λx:Unit=>vB (r)) (λx l=>l) (λ_ l=>l):=by
 refine bA.of Tryz.func35 Z Tryz.ntmps35 Z λc=>?_;refine aS<|aG (aJ.box (cs:=[a,b]) Z Z) Z λi=>aC Z<|aK<|aS<|dM 0 Z<|eL h λf g h=>aG (aJ.callQ Us (Bq U a b e f g) Z (lJ [0,1] Z)) Z λj=>aC Z<|aK<|aP ?_;cases h;exact sV Z
def zI  (a:Int):Option (Int):=
 some (a)
def uJ (c:aT) (a:eD) (b:iO->Option (Int)):Option (Int):=
 if a.2<(List.length c:Int)then(ck (0<=a.2∧a.2<(List.length c:Int)) (b ((min a.1 (at' c a.2)),(wI .i64 (a.2+(1:Int))))))else(zI  (a.1))
def Av (U:Nat) (a:aT):Option (Int):=
 if(List.length a:Int)<(1:Int)then(none)else(ck (0<=(0:Int)∧(0:Int)<(List.length a:Int)) (bP (uJ a) U ((at' a (0:Int)),(1:Int))))
theorem Xq:aQ Tryz.prog 114:=Tryz.call114
theorem Ml (U:Nat) {f:aT} (g:Value) (r:Int) (h:Av U f=some r):
  bA Tryz.prog 114 #[g] [Sl bN g f] (λx:Unit=>vI (r)) (λx l=>l) (λ_ l=>l):=by
 refine bA.of Tryz.func114 Z Tryz.ntmps114 Z λc=>?_;refine aS<|aC Z<|aK<|aI<|aS<|aA Z<|iH (aE.fact 0 Z) Z<|cP Z<|aK ?_;refine eZ h Z (λh=>?_) λh=>?_
 ·refine aR ?_;cases h
 refine cE<|aS<|aA Z<|dK h λj h=>aB (aZ Z Z (aE.fact 0 Z) Z Z j) Z<|aB (bU Z (aE.fact 0 Z) Z Z Z cS j) Z<|aC Z<|aK<|aI<|d_ (λb=>zI  b=some r) (λb i=>[(3,vI (b))]) (λb i=>[]) ?_ ?_
 ·refine aS<|aC Z<|aK<|aU<|eH (uJ f) (λa d=>[(0,g),(3,vI (a.1)),(4,vI (a.2))]) (λa d=>[]) ((at' f (0:Int)),(1:Int)) () h SF (aY.refl _) ?_;intro k a d h;refine aI<|aS<|aA Z<|aA Z<|iH (aE.fact 0 Z) Z<|cP Z<|aK ?_;refine eZ h Z (λh=>?_) λh=>?_
  ·refine cE<|aI<|aU<|aR<|aA Z<|aA Z<|aA Z<|dK h λe h=>aB (aZ Z Z (aE.fact 0 Z) Z Z e) Z<|aB (bU Z (aE.fact 0 Z) Z Z Z cS e) Z<|aB (Ub Z Z) Z<|aC Z<|fF<|mP<|aR<|aA Z<|cO Z<|aC Z<|aK ?_;exact Ai ((min a.1 (at' f a.2)),(wI .i64 (a.2+(1:Int)))) () h SF Z
  refine fE ?_;exact iI (a.1) () h SF Z
 intro b i h;unfold zI at h;refine aS<|aA Z<|aC Z<|aK<|aP ?_;cases h;exact kM Z
def pV (U:Nat) (a:cB):Option (Int):=
 Option.bind (Av U a.1) λb=>(Option.bind (jN U a.1 b) λc=>(some (c)))
theorem aae:aQ Tryz.prog 38:=Tryz.call38
theorem JF (U:Nat) {b:cB} (a:Value)  (d:Value)  (k:mH) (r:Int) (h:pV U b=some r):
  bA Tryz.prog 38 #[Value.agg #[a,d]] [Sl bN a b.1,S2 aO d k b.2] (λx:Unit=>vI (r)) (λx l=>l) (λ_ l=>l):=by
 refine bA.of Tryz.func38 Z Tryz.ntmps38 Z λc=>?_;refine aS<|aG (aJ.box (cs:=[a,d]) Z Z) Z λm=>aC Z<|aK<|aI ?_;refine JR.start [0,1,0,4,12,31,63] 5 mixedOrders (by decide +kernel) ?_;refine JR.open (by exact rfl) ?_;refine cN Z<|dY 0 Z<|cN Z<|dY 0 Z<|eL h λe g h=>JR.loud Z Z Z (aJ.callQ Xq (Ml U a e g) Z (lJ [0] Z)) Z (λj=>(jV [([0],[])] Z)) λj=>bK 5 Z Z<|eL h λf i h=>aG (aJ.callQ Qo (DF U a f i) Z (lJ [0] Z)) Z λn=>aC Z<|aK<|aP ?_;cases h;exact sV Z
def kX (U:Nat) (b:eD) (a:aT) (c:Int):Option (Bool):=
 ck (0<=b.1∧b.1<(List.length a:Int)) (ck (0<=c∧c<(List.length a:Int)) (some (decide ((at' a b.1)=(wI .i64 ((at' a c) - (1:Int)))))))
theorem aaf:aQ Tryz.prog 41:=Tryz.call41
theorem Ha (U:Nat) {d:eD} {g:aT} {i:Int} (a:Nat)  (j:Value)  (b:Nat) (r:Bool) (h:kX U d g i=some r):
  bA Tryz.prog 41 #[Value.agg #[vI (d.1),vI (d.2)],vP a,vP b] [bH a [j] 22,Sl bN j g,bH b [vI (i)] 3] (λx:Unit=>vB (r)) (λx l=>l) (λ_ l=>l):=by
 refine bA.of Tryz.func41 Z Tryz.ntmps41 Z λc=>?_;refine aS<|aG (aJ.box (cs:=[vI (d.1),vI (d.2)]) Z Z) Z λk=>aC Z<|aK<|aI ?_;refine JR.start [0,0,2,7,15,0,0,96,224,480,1023,2047] 10 mixedOrders (by decide +kernel) ?_;refine JR.open (by exact rfl) ?_;refine bI Z .nil (h_ 0 Z) (dC Z (aE.fact 0 Z) Z Z Z) aN.z<|cN Z<|dY 0 Z<|dK h λe h=>bI Z .nil (h_ 1 Z) (aZ Z Z (aE.fact 0 Z) Z Z e) aN.z<|bI Z .nil (h_ 1 Z) (bU Z (aE.fact 0 Z) Z Z Z cS e) aN.z<|bI Z .nil (h_ 0 Z) (dC Z (aE.fact 0 Z) Z Z Z) aN.z<|bI Z .nil (h_ 2 Z) (dC Z (aE.fact 0 Z) Z Z Z) aN.z<|dK h λf h=>bI Z .nil (h_ 1 Z) (aZ Z Z (aE.fact 0 Z) Z Z f) aN.z<|bI Z .nil (h_ 1 Z) (bU Z (aE.fact 0 Z) Z Z Z cS f) aN.z<|fY Z (mJ Z Z)<|bK 10 Z Z<|cC Z<|aC Z<|aK<|aP ?_;cases h;exact sV Z
def uY  (a:Unit):Option (Bool):=
 some (true)
def lQ (U:Nat) (f:cB) (h:bW) (e:Int) (g:aT) (a:Int) (b:(Int)->Option (Bool)) (c:Int):Option (Bool):=
 ck (0<=e∧e<(List.length f.1:Int)) (ck (0<=a∧a<(List.length g:Int)) (Option.bind (xU U (at' h a) ([(at' f.1 e),(at' g a),c])) λd=>(if(!d)=true then(some (false))else(b (wI .i64 (a+(1:Int)))))))
def uZ (U:Nat) (d:cB) (e:bW) (f:Int) (g:aT) (b:Int) (a:(Int)->Option (Bool)) (c:Unit):Option (Bool):=
 lQ U d e f g b a (-1:Int)
def iR (U:Nat) (d:cB) (h:bW) (i:Int) (g:aT) (a:Int) (c:(Int)->Option (Bool)) (b:Int) (e:(Int)->Option (Bool)):Option (Bool):=
 if b<(List.length (at' d.2 a):Int)then(ck (0<=b∧b<(List.length (at' d.2 a):Int)) (Option.bind (kX U ((((at' (at' d.2 a) b).1),((at' (at' d.2 a) b).2))) g a) λf=>(if f=true then(lQ U d h i g a c (b))else(e (wI .i64 (b+(1:Int)))))))else(uZ U d h i g a c (()))
def jZ (U:Nat) (d:cB) (c:bW) (e:Int) (f:aT) (a:Int) (b:(Int)->Option (Bool)):Option (Bool):=
 if a<(List.length c:Int)then(ck (0<=a∧a<(List.length c:Int)) (ck (0<=a∧a<(List.length d.2:Int)) (bP (iR U d c e f a b) U (0:Int))))else(uY  (()))
def uX (U:Nat) (a:cB) (d:bW) (c:Bool):Option (Bool):=
 if c=true then(some (false))else(Option.bind (pV U ((a.1,a.2))) λb=>(Option.bind (gM U ((a.1,a.2)) b) λe=>(bP (jZ U a d b e) U (0:Int))))
def sP (U:Nat) (a:cB) (b:bW):Option (Bool):=
 Option.bind (xR U ((a.1,a.2))) λc=>(if(!c)=true then(uX U a b (true))else(Option.bind (xV U a.1) λd=>(Option.bind (jX U ((a.1,a.2)) b ([d,(wI .i64 ((List.length a.1:Int) - (1:Int))),(-1:Int)])) λe=>(uX U a b ((!e))))))
theorem ZY:aQ Tryz.prog 12:=Tryz.call12
theorem JE (U:Nat) {b:cB} {p:bW} (m:Value)  (o:Value)  (E:mH)  (F:Value)  (S:wL) (r:Bool) (h:sP U b p=some r):
  bA Tryz.prog 12 #[Value.agg #[m,o],F] [Sl bN m b.1,S2 aO o E b.2,S2 bN F S p] (λx:Unit=>vB (r)) (λx l=>l) (λ_ l=>l):=by
 refine bA.of Tryz.func12 Z Tryz.ntmps12 Z λc=>?_;refine aS<|aG (aJ.box (cs:=[m,o]) Z Z) Z λy=>aC Z<|aK<|aI<|aI<|d_ (λG=>uX U b p G=some r) (λG b4=>[(1,F),(2,vP y),(26,vB (G))]) (λG b4=>[bH y [m,o] 27]) ?_ ?_
 ·refine JR.start [0,1,3,7,15,15,15,79,207,15,527,1551,3599,8143,16383,32767,65535] 14 mixedOrders (by decide +kernel) ?_;refine JR.open (by exact rfl) ?_;refine hZ 0 Z<|eL h λW ab h=>JR.loud Z Z Z (aJ.callQ aac (Mk U m o E W ab) Z (lJ [0,1] Z)) Z (λae=>(jV [] Z)) λae=>fY Z (iZ Z)<|fY Z (fC Z) ?_;refine JR.guard (by exact rfl) (by exact rfl) (by exact rfl) (λs=>?_) (λs=>?_)
  ·have h:=Ie s h;refine a_ Z Z Z Z<|a_ Z Z Z Z<|a_ Z Z Z Z<|a_ Z Z Z Z<|a_ Z Z Z Z<|a_ Z Z Z Z<|a_ Z Z Z Z<|a_ Z Z Z Z<|a_ Z Z Z Z<|a_ Z Z Z Z<|bK 14 Z Z<|aL Z<|aL Z<|dU Z<|aK ?_;exact iI (true) () h SF Z
  have h:=Je s h;refine cD Z (aY.cons 0 Z .nil) .nil (lO 0 Z Z Z Z) (Bl Z)<|cD Z .nil .nil (fC Z) (Bl Z)<|cD Z .nil .nil (dR Z Z Z Z Z) (Bl Z)<|cD Z (aY.cons 0 Z .nil) .nil (cK 0 Z Z Z Z Z) (Bl Z)<|eL h λw ac h=>ME Z Z Z Z (aJ.callQ Uq (Gf U m w ac) Z (lJ [0] Z)) Z (λaf=>(jV [([0],[])] Z)) λaf=>cD Z .nil .nil (dR Z Z Z Z Z) hkN<|cD Z (aY.cons 0 Z .nil) .nil (cK 0 Z Z Z Z Z) (aN.h (aY.ix [0] Z Z) .nil (Bl Z))<|cD Z .nil (h_ 0 Z) (fG Z (aE.fact 0 Z) Z) (aN.h .nil (h_ 0 Z) (Bl Z))<|cD Z .nil .nil (mJ Z Z) hkN<|ME Z Z Z Z (cW (e:=cM) ([w,(wI .i64 ((List.length b.1:Int) - (1:Int))),(-1:Int)]) [(0,vI (w)),(1,vI (wI .i64 ((List.length b.1:Int) - (1:Int)))),(2,vI (-1:Int))] Z Z Z Z (Ns (vI (w)) (vI (wI .i64 ((List.length b.1:Int) - (1:Int)))) (vI (-1:Int)) Z Z Z) Z Z Z) Z (λR=>(jV [([1],[])] Z)) λR=>bK 14 Z Z<|eL h λP ad h=>rQ Z (aJ.callQ aad (Ep U m o E F S R P ad) Z (aD.cons (aE.fact 0 Z) (aD.cons (aE.fact 1 Z) (aD.cons (aE.fact 2 Z) (aD.cons (aX (aE.res 0 Z) cU) .nil))))) Z λal=>aV Z (iZ Z) Z<|e_ Z<|aK ?_;exact bT ((!P)) () h SF (aY.ix [1] Z Z) (aD.refl _ _)
 intro G b4 h;refine yC h Z (λ_ h=>?_) λ_ h=>?_
 ·refine aS<|aC Z<|aK<|aP<|aH ?_;cases h;exact sV Z
 refine cE<|aS<|dM 0 Z<|eL h λq w7 h=>aG (aJ.callQ aae (JF U m o E q w7) Z (lJ [0,1] Z)) Z λx8=>aC Z<|aK<|aS<|dM 0 Z<|aA Z<|eL h λn X h=>aG (aJ.callQ Ur (Br U m o E n X) Z (lJ [0,1] Z)) Z λi=>aG (aJ.alloc (cs:=[lS]) Z Z) Z λf=>dB (Know.one ((aX (aE.res 1 Z) cU))) λL=>gR 0 Z Z L Z Z Z<|aK<|aI<|d_ (λt=>uY  t=some r) (λt H=>[]) (λt H=>[]) ?_ ?_
 ·refine aS<|aA Z<|aB (lY Z (aE.fact 2 Z) Z) Z<|aA Z<|aK<|aU<|eH (jZ U b p q n) (λa I=>[(2,vP y),(5,vI (q)),(6,vP f),(32,F),(33,vI (List.length p:Int)),(34,vI (a))]) (λa I=>[bH f [i] 22,Ar cM i n,bH y [m,o] 27]) (0:Int) () h SF (aY.refl _) ?_;intro D a I h;refine aS<|cP Z<|aK<|aI ?_;refine eZ h Z (λh=>?_) λh=>?_
  ·refine cE<|aI<|aU<|aS<|aA Z<|dK h λv h=>aB (cQ Z Z (aE.fact 2 Z) Z Z v) Z<|aB (cL Z (aE.fact 2 Z) Z Z v) Z<|aG (aJ.alloc (cs:=[vI (0:Int)]) Z Z) Z λj=>gR 0 Z Z Z Z Z Z<|aC Z<|aK<|aS<|dM 3 Z<|cJ 0 Z<|aB (dZ (cs:=[.tmp 6,.tmp 7]) (vs:=[vP f,vP j]) Z) Z<|gE (A:=Int) (B:=Unit) (vs:=[Value.agg #[m,o],vI (a),Value.func (.func 41) #[] #[vP f,vP j]]) (λg=>lQ U b p q n a (bP (jZ U b p q n) D) g=some r) (λg C=>vI (g)) (λg C=>[bH j [vI (a)] 3,bH f [i] 22,Ar cM i n,bH y [m,o] 27]) (λg C=>[Sl bN m b.1,S2 aO o E b.2,S2 bN F S p]) (fU.fn (show aQ Tryz.prog 40 from Tryz.call40) Z) Tryz.func40 Z Tryz.ntmps40 Z Z ?_ ?_
   ·refine aS<|aG (aJ.box (cs:=[m,o]) Z Z) Z λag=>aC Z<|aK<|aI<|d_ (λu=>uZ U b p q n a (bP (jZ U b p q n) D) u=some r) (λu J=>[]) (λu J=>[bH j [vI (a)] 3,bH f [i] 22,Ar cM i n,bH y [m,o] 27]) ?_ ?_
    ·refine aS<|bX Z<|cJ 0 Z<|aA Z<|dK h λk h=>aB (cQ Z Z (aE.fact 1 Z) Z Z k) Z<|aB (cL Z (aE.fact 1 Z) Z Z k) Z<|aB (fG Z (aE.el (aE.fact 1 Z) k.1 k.2) Z) Z<|aA Z<|aK<|aU<|eH (iR U b p q n a (bP (jZ U b p q n) D)) (λd K=>[(2,Value.func (.func 41) #[] #[vP f,vP j]),(13,(at' E a).1),(14,vI (List.length (at' b.2 a):Int)),(15,vI (d))]) (λd K=>[bH j [vI (a)] 3,bH f [i] 22,Ar cM i n,bH y [m,o] 27]) (0:Int) () h SF (aY.ix [1,2,3,4] Z Z) ?_;intro ai d K h;refine aS<|cP Z<|aK<|aI ?_;refine eZ h Z (λh=>?_) λh=>?_
     ·refine cE<|aI<|aU<|aS<|aA Z<|dK h λO h=>aB (aZ Z Z (aE.el (aE.fact 1 Z) k.1 k.2) Z Z O) Z<|aB (c_ (cs:=[vI ((at' (at' b.2 a) d).1),vI ((at' (at' b.2 a) d).2)]) Z (aE.el (aE.fact 1 Z) k.1 k.2) bB Z Z Z Z O) Z<|aG (aJ.alloc (cs:=Ms) Z Z) Z λah=>aC Z<|bR 0 (vs:=[vI ((at' (at' b.2 a) d).1),vI ((at' (at' b.2 a) d).2)]) Z Z Z Z Z Z<|aK<|aS<|aA Z<|dM 0 Z<|eL h λV aa h=>aG (fQ (vs:=[Value.agg #[vI ((at' (at' b.2 a) d).1),vI ((at' (at' b.2 a) d).2)]]) (cs:=[vP f,vP j]) aaf Z (Ha U f i j V aa) Z (aD.cons (aE.res 2 Z) (aD.cons (aX (aE.res 3 Z) cU) (aD.cons (aE.res 1 Z) .nil))) (λ_ _=>rfl)) Z λak=>aK ?_;refine yC h Z (λ_ h=>?_) λ_ h=>?_
      ·refine aS<|aA Z<|aC Z<|aK<|aP<|bO<|aH<|aH<|bO<|aH ?_;exact dO (d) () h (.inl Z) (uO.r1 Z (RV.tmp Z)) Z (aY.ix [1,2,3,4] Z Z) (aD.refl _ _)
      refine dJ<|mP<|aR<|cO Z<|aA Z<|aK ?_;exact lT (wI .i64 (d+(1:Int))) () h SF (aY.ix [1,2,3,4] Z Z) (aD.refl _ _)
     refine fE ?_;exact iI () (()) h SF Z
    intro u J h;unfold uZ at h;refine aS<|aC Z<|aK<|aP ?_;exact dO (-1:Int) () h (.inl Z) (uO.r1 Z (RV.tmp Z)) Z (aY.refl _) (aD.refl _ _)
   intro g C h;refine aC Z<|aK<|aI ?_;refine JR.start [0,0,2,0,14,30,0,0,192,448,0,2046,4095,8191] 12 mixedOrders (by decide +kernel) ?_;refine JR.open (by exact rfl) ?_;refine bE Z<|cN Z<|dY 3 Z<|bE Z<|dK h λM h=>bI Z .nil (h_ 0 Z) (aZ Z Z (aE.fact 0 Z) Z Z M) aN.z<|bI Z .nil (h_ 0 Z) (bU Z (aE.fact 0 Z) Z Z Z cS M) aN.z<|dY 1 Z<|dY 0 Z<|dK h λN h=>bI Z (aY.cons 2 Z .nil) .nil (aZ Z Z (aX (aE.res 0 Z) cU) Z Z N) aN.z<|bI Z (aY.cons 2 Z .nil) .nil (bU Z (aX (aE.res 0 Z) cU) Z Z Z cS N) aN.z<|bE Z<|JR.loud Z Z Z (cW (e:=cM) ([(at' b.1 q),(at' n a),g]) [(0,vI (at' b.1 q)),(1,vI (at' n a)),(2,vI (g))] Z Z Z Z (Ns (vI (at' b.1 q)) (vI (at' n a)) (vI (g)) Z Z Z) Z Z Z) Z (λQ=>(jV [] Z)) λQ=>bK 12 Z Z<|eL h λT Y h=>aG (aJ.callQ aag (JI U ((at' S a).1) Q T Y) Z (aD.cons (aE.el (aE.fact 2 Z) v.1 v.2) (aD.cons (aX (aE.res 0 Z) cU) .nil))) Z λaj=>aB (iZ Z) Z<|aK ?_;refine yC h Z (λ_ h=>?_) λ_ h=>?_
   ·refine aS<|aC Z<|aK<|aP<|bO<|aH<|aH<|bO<|aH ?_;cases h;exact sV Z
   refine dJ<|mP<|aR<|cO Z<|aA Z<|aK ?_;exact lT (wI .i64 (a+(1:Int))) () h SF (aY.ix [2,3,4] Z Z) (aD.refl _ _)
  refine fE ?_;exact bT () (()) h SF .nil (aD.refl _ _)
 intro t H h;unfold uY at h;refine aS<|aC Z<|aK<|aP ?_;cases h;exact kM Z
end Go.Proofs.YtjkjpdonlpdcaaaGreatDoor
namespace Go.Proofs.YtjkjpdonlpdcaaaGreatDoor
open Go Go.Sx
theorem Pb {g:GR} (G:VG g) (d:List Hi) (f:aT) (ht:d.length<=900) (W:∀x,x<d.length->Fy (at' d (x:Int)) ∧ -100000<=(at' d (x:Int)).2.2.1) (J:∀x v,x<d.length->lo g (at' d (x:Int)) v<=hi g (at' d (x:Int)) v):
  OK (λc=>MN g c d) (nE 1000 g d f):=by
 have S:=G.n24;have m:=G.len;have R:nE 1000 g d f=rD 1000 g d f (fO g g.2.length):=by
  unfold nE;refine eB (F:=λk:Nat=>((fO g k,(k:Int)):eD)) g.2.length (λk D hk=> ?_) (λD=> ?_) 1000 (by omega)
  ·unfold vJ;simp only;rw[if_pos (by omega),cV (by omega),wr (by omega) (by omega)];rfl
  ·unfold vJ;simp only;rw[if_neg (by omega)]
 rw[R];obtain⟨N,m2⟩:=rB G g.2.length (by omega);unfold rD;have L:=BV (step:=kA 1000 g d f (fO g g.2.length)) (K:=λx=>some x.1) g.2.length (λv x=>x.2=(v:Int)∧x.1.length=v∧∀w,w<v->(at' x.1 (w:Int)).length=d.length∧TW g d w (at' x.1 (w:Int))) (λv x D A t=> ?_) (λx D t=> ?_) 1000 (([]:bW),(0:Int)) ⟨rfl,rfl,λw X=>by omega⟩ (by omega)
 ·obtain⟨⟨c,i⟩,⟨_,u,s⟩,I⟩:=L;exact⟨c,I,u,λv A=>(s v A).1,λv A x B=>(s v A).2 x (by rw[(s v A).1];exact B)⟩
 ·obtain⟨c,i⟩:=x;obtain⟨rfl,u,s⟩:=t;simp only at u s;have M:(at' g.2 (v:Int)).length<g.2.length:=(G.node v A).deg;unfold kA;simp only;rw[if_pos (by omega)];have E:=BV (step:=oA 1000 g d f (fO g g.2.length) (c,(v:Int)) D) (K:=λy=>D (c++[y.1],(v:Int)+1)) d.length (λx y=>y.2=(x:Int)∧y.1.length=x∧TW g d v y.1) (λx y p B t=> ?_) (λy p t=> ?_) 1000 (([]:aT),(0:Int)) ⟨rfl,rfl,λx B=>by simp at B⟩ (by omega)
  ·obtain⟨⟨l,j⟩,⟨_,n,C⟩,I⟩:=E;refine⟨(c++[l],(v:Int)+1),⟨by simp,by simp[u],λw X=> ?_⟩,I⟩
   simp only;rw[Mi c l (by omega),u];by_cases e:w<v
   ·rw[if_pos e];exact s w e
   ·rw[if_neg e];have:w=v:=by omega
    subst this;exact⟨n,C⟩
  ·obtain⟨l,j⟩:=y;obtain⟨rfl,n,C⟩:=t;simp only at n C;obtain⟨⟨s1,O,P⟩,s4⟩:=W x B;have Q:=J x v B;have q:∀a b:Int,a=lo g (at' d (x:Int)) v->b=hi g (at' d (x:Int)) v -> -100000<=a->a<=b+1->b<=100000000->(a<=b∨(a = -1∧b = -1))->∃H,(H.2=((x+1:Nat):Int)∧H.1.length=x+1∧TW g d v H.1)∧n_ 1000 d f (c,(v:Int)) (l,(x:Int)) p (a,b)=p H:=by
    intro a b T V q1 q2 q3 q4;have U:a<=b:=by omega
    unfold n_;simp only;have w1:wI .i64 ((v:Int)*(d.length:Int))=(v:Int)*(d.length:Int):=by
     have p1:0<=(v:Int)*(d.length:Int):=Int.mul_nonneg (by omega) (by omega);have p2:(v:Int)*(d.length:Int)<=24*900:=Int.mul_le_mul (by omega) (by omega) (by omega) (by omega);exact wr (by omega) (by omega)
    have p1:0<=(v:Int)*(d.length:Int):=Int.mul_nonneg (by omega) (by omega);have p2:(v:Int)*(d.length:Int)<=24*900:=Int.mul_le_mul (by omega) (by omega) (by omega) (by omega);rw[w1,wr (x:=(v:Int)*(d.length:Int)+(x:Int)) (by omega) (by omega),Ng _ _ (by omega),bM Z,wr (x:=b - a) (by omega) (by omega),wr (x:=b - a+1) (by omega) (by omega),tI _ _ (by omega) (by omega),bM Z];have r1:=Int.emod_nonneg (at' f ((v:Int)*(d.length:Int)+(x:Int))) (b:=b - a+1) (by omega);have r2:=Int.emod_lt_of_pos (at' f ((v:Int)*(d.length:Int)+(x:Int))) (b:=b - a+1) (by omega);generalize at' f ((v:Int)*(d.length:Int)+(x:Int))%(b - a+1)=r at r1 r2;rw[wr (x:=a+r) (by omega) (by omega),cV (by simp;omega),wr (by omega) (by omega)];refine⟨_,⟨by simp,by simp[n],λz Y=> ?_⟩,rfl⟩
    simp only[List.length_append,List.length_cons,List.length_nil,n]at Y;simp only;rw[Mi l _ (by omega),n];by_cases e:z<x
    ·rw[if_pos e];exact C z (by omega)
    ·rw[if_neg e];have:z=x:=by omega
     subst this;rw[<-T,<-V];omega
   unfold oA;simp only;rw[if_pos (by omega),cV (by omega),cV (by omega),cV (by omega),cV (by omega),cV (by omega)];by_cases h:(at' d (x:Int)).2.1=2
   ·rw[if_pos h];exact q 0 1 (by unfold lo;rw[if_pos h]) (by unfold hi;rw[if_pos h]) (by omega) (by omega) (by omega) (by omega)
   ·rw[if_neg h];by_cases o:(at' d (x:Int)).2.1=3
    ·rw[if_pos o,cV (by omega),wr (by omega) (by omega)];exact q (-1) _ (by unfold lo;rw[if_neg h,if_pos o]) (by unfold hi;rw[if_neg h,if_pos o]) (by omega) (by omega) (by omega) (by omega)
    ·rw[if_neg o];unfold lo hi at Q;rw[if_neg h,if_neg o,if_neg h,if_neg o,m]at Q;have q1:0<=(at' d (x:Int)).2.2.2.2.1*(g.2.length:Int):=Int.mul_nonneg O.1 (by omega);have q2:(at' d (x:Int)).2.2.2.2.1*(g.2.length:Int)<=100000*24:=Int.mul_le_mul O.2 (by omega) (by omega) (by omega);have q3:0<=(at' d (x:Int)).2.2.2.2.2*fO g g.2.length:=Int.mul_nonneg P.1 N;have q4:(at' d (x:Int)).2.2.2.2.2*fO g g.2.length<=100000*255:=Int.mul_le_mul P.2 m2 N (by omega);rw[wr (x:=(at' d (x:Int)).2.2.2.2.1*(g.2.length:Int)) (by omega) (by omega),wr (x:=(at' d (x:Int)).2.2.2.2.2*fO g g.2.length) (by omega) (by omega),wr (x:=(at' d (x:Int)).2.2.2.1+(at' d (x:Int)).2.2.2.2.1*(g.2.length:Int)) (by omega) (by omega),wr (by omega) (by omega)];exact q _ _ (by unfold lo;rw[if_neg h,if_neg o]) (by unfold hi;rw[if_neg h,if_neg o,m]) (by omega) (by omega) (by omega) (by omega)
  ·obtain⟨l,j⟩:=y;obtain⟨rfl,n,C⟩:=t;simp only at n C;unfold oA Af;simp only;rw[if_neg (by omega),cV (by simp;omega),wr (by omega) (by omega)]
 ·obtain⟨c,i⟩:=x;obtain⟨rfl,u,s⟩:=t;unfold kA vH;simp only;rw[if_neg (by omega)]
theorem Yu {g:GR} (a:VG g) {u v:Nat} (b:u<g.2.length) (c:v<g.2.length) (h:u≠v):t_ g u≠t_ g v:=by
 rcases Nat.lt_or_ge u v with q|q
 ·exact(a.node v c).ids u q
 ·exact λe=>(a.node u b).ids v (by omega) e.symm
theorem aaO {g:GR} (d:VG g):∃s,s<g.2.length∧(∀u,u<g.2.length->u≠s->t_ g s<t_ g u)∧pV 1000 g=some ((s:Nat):Int):=by
 have G:=d.n1;have D:=d.n24;have A:=d.len;have B:∀u,u<g.2.length->0<=t_ g u:=λu b=>(d.node u b).id.1;obtain⟨m,_,⟨s,v,F⟩,n⟩:=least (p:=λm=>∃s,s<g.2.length∧t_ g s=((m:Nat):Int)) (t_ g 0).toNat ⟨0,by omega,by have:=B 0 (by omega);omega⟩;have l:∀u,u<g.2.length->t_ g s<=t_ g u:=λu b=>by
  have:=B u b;have h:=n (t_ g u).toNat;by_cases e:(t_ g u).toNat<m
  ·exact absurd ⟨u,b,by omega⟩ (h e)
  ·omega
 refine⟨s,v,λu b e=> ?_,?_⟩
 ·have:=l u b;have:=Yu d b v e;omega
 have C:Av 1000 g.1=some (t_ g s):=by
  unfold Av;rw[if_neg (by omega),cV (by omega)];obtain⟨⟨a,i⟩,⟨f,⟨w,x,c⟩,j⟩,y⟩:=BV (step:=uJ g.1) (K:=λz=>some z.1) (g.2.length - 1) (λk z=>z.2=((k+1:Nat):Int)∧(∃w,w<g.2.length∧z.1=t_ g w)∧∀u:Nat,u<k+1->z.1<=t_ g u) (λk z o E t=>by
   obtain⟨a,i⟩:=z;obtain⟨f,⟨w,x,c⟩,j⟩:=t;dsimp only at f c j;subst f c;have r:at' g.1 ((k+1:Nat):Int)=t_ g (k+1):=rfl;refine⟨(min (t_ g w) (t_ g (k+1)),((k+1+1:Nat):Int)),⟨rfl,?_,λu b=> ?_⟩,?_⟩
   ·dsimp only;by_cases q:t_ g w<=t_ g (k+1)
    ·exact⟨w,x,by omega⟩
    ·exact⟨k+1,by omega,by omega⟩
   ·dsimp only;by_cases q:u<k+1
    ·have:=j u q;omega
    ·obtain rfl:u=k+1:=by omega
     omega
   ·unfold uJ;dsimp only;rw[if_pos (by omega),cV (by omega),eY (by omega),r]) (λz o t=>by
   obtain⟨a,i⟩:=z;obtain⟨f,_⟩:=t;dsimp only at f;subst f;unfold uJ zI;dsimp only;rw[if_neg (by omega)]) 1000 (at' g.1 (0:Int),(1:Int)) ⟨rfl,⟨0,by omega,rfl⟩,λu b=>by
    obtain rfl:u=0:=by omega
    exact Int.le_refl _⟩ (by omega)
  dsimp only at c j y;have H:=j s (by omega);have I:=l w x;rw[y,show a=t_ g s by omega]
 have r:jN 1000 g.1 (t_ g s)=some ((s:Nat):Int):=by
  unfold jN;refine eB (step:=fX g.1 (t_ g s)) (K:=some ((s:Nat):Int)) s (λk:Nat=>(k:Int)) (λk o E=> ?_) (λo=> ?_) 1000 (by omega)
  ·unfold fX;rw[if_pos (by omega),cV (by omega),if_neg (show¬t_ g s=at' g.1 (k:Int)from λe=>Yu d v (show k<g.2.length by omega) (by omega) e),eY (by omega)]
  ·unfold fX;rw[if_pos (by omega),cV (by omega),if_pos (show t_ g s=at' g.1 (s:Int)from rfl)]
 unfold pV;rw[bM C,bM r]
section
variable {g:GR} {s:Nat} {d:List Int} {c:List (List Int)} (hV:VG g) (E:Elc g s d)
 include hV E
theorem aaP {v i:Nat} (f:v<g.2.length) (k:i<(row g v).length):kX 1000 (iA (row g v) i) d (v:Int)=some (decide (D d (iA (row g v) i).1.toNat=D d v - 1)):=by
 have h:=hV.n24;obtain⟨u,l,e,_⟩:=hV.port f k;have j:=E.dist.len;have a:=E.nn v f;have b:=E.lt v f;unfold kX;rw[e,Int.toNat_natCast,cV (by omega),cV (by omega),show wI .i64 (at' d (v:Int) - 1)=D d v - 1 from wr (by show -9223372036854775808<=D d v - 1;omega) (by show D d v - 1<=9223372036854775807;omega)]
theorem aaG {v:Nat} (o:v<g.2.length) (f:Int->Option Bool):bP (iR 1000 g c (s:Int) d (v:Int) f) 1000 (0:Int)=lQ 1000 g c (s:Int) d (v:Int) f (To g d v):=by
 have y:=hV.n24;have x:=(hV.node v o).deg;have z:(at' g.2 (v:Int)).length=(row g v).length:=rfl;have e:∀i:Nat,i<(row g v).length->at' ((List.range (row g v).length).map λi=>Gt (decide (D d (iA (row g v) i).1.toNat=D d v - 1))) (i:Int)=Gt (decide (D d (iA (row g v) i).1.toNat=D d v - 1)):=λi r=>xY _ r;by_cases w:∃i,i<(row g v).length∧D d (iA (row g v) i).1.toNat=D d v - 1
 ·obtain⟨i,r⟩:=w;obtain⟨m,_,⟨t,l⟩,a⟩:=least (p:=λi=>i<(row g v).length∧D d (iA (row g v) i).1.toNat=D d v - 1) i r;have u:To g d v=(m:Int):=zQ (by simpa using t) (by rw[e m t,decide_eq_true l];decide) (λj h=>by
   rw[e j (by omega),decide_eq_false λq=>a j h ⟨by omega,q⟩];rfl)
  rw[u];refine eB (step:=iR 1000 g c (s:Int) d (v:Int) f) (K:=lQ 1000 g c (s:Int) d (v:Int) f (m:Int)) m (λk:Nat=>(k:Int)) (λk b n=> ?_) (λb=> ?_) 1000 (by omega)
  ·unfold iR;rw[if_pos (by omega),cV (by omega),bM (show kX 1000 (iA (row g v) k) d (v:Int)=_ from aaP hV E o (by omega)),decide_eq_false λq=>a k n ⟨by omega,q⟩,if_neg (by decide),eY (by omega)]
  ·unfold iR;rw[if_pos (by omega),cV (by omega),bM (show kX 1000 (iA (row g v) m) d (v:Int)=_ from aaP hV E o t),decide_eq_true l,if_pos Z]
 ·have u:To g d v = -1:=wS (λj h=>by
   rw[List.length_map,List.length_range]at h;rw[e j h,decide_eq_false λq=>w ⟨j,h,q⟩];rfl)
  rw[u];refine eB (step:=iR 1000 g c (s:Int) d (v:Int) f) (K:=lQ 1000 g c (s:Int) d (v:Int) f (-1)) (row g v).length (λk:Nat=>(k:Int)) (λk b n=> ?_) (λb=> ?_) 1000 (by omega)
  ·unfold iR;rw[if_pos (by omega),cV (by omega),bM (show kX 1000 (iA (row g v) k) d (v:Int)=_ from aaP hV E o n),decide_eq_false λq=>w ⟨k,n,q⟩,if_neg (by decide),eY (by omega)]
  ·unfold iR uZ;rw[if_neg (by omega)]
theorem aaQ (F:OE g) (B:gM 1000 g (s:Int)=some d) (t:pV 1000 g=some (s:Int)) (o:MN g c qQ) (G:∀v,v<g.2.length->RtE g s d c v):sP 1000 g c=some true:=by
 have C:=hV.n24;have I:=hV.n1;have f:=hV.len;have r:=o.len;have H:=E.dist.len;have L:=E.slt;have J:=rB hV g.1.length (by omega);have q:ZF g [fO g g.1.length,(g.2.length:Int) - 1,-1] c:=by
  refine⟨r,λv h=>⟨o.row v h,λx u=> ?_⟩⟩
  obtain⟨a,b,e⟩:=LB hV o h;have u:x<3:=u
  match x,u with
  |0,_=>
   have p:at' [fO g g.1.length,(g.2.length:Int) - 1,-1] ((0:Nat):Int)=fO g g.1.length:=rfl;unfold Yv;rw[p,if_neg (by omega),f];exact a
  |1,_=>
   have p:at' [fO g g.1.length,(g.2.length:Int) - 1,-1] ((1:Nat):Int)=(g.2.length:Int) - 1:=rfl;unfold Yv;rw[p,if_neg (by omega)];exact b
  |2,_=>exact e
 have i:xR 1000 g=some true:=by
  unfold xR;rw[bM (show iF 1000 (g.1,g.2)=some true from(FD hV).1 F)]
 unfold sP;rw[bM (show xR 1000 (g.1,g.2)=_ from i),if_neg (by decide),bM (VA hV),show wI .i64 ((g.1.length:Int) - 1)=(g.2.length:Int) - 1 by rw[wr (by omega) (by omega),f],bM (show jX 1000 (g.1,g.2) c [fO g g.1.length,(g.2.length:Int) - 1,-1]=some true from(Pa hV (by simp) c).1 q)];unfold uX;rw[if_neg (by decide),bM (show pV 1000 (g.1,g.2)=_ from t),bM (show gM 1000 (g.1,g.2) (s:Int)=_ from B)];refine eB (step:=jZ 1000 g c (s:Int) d) (K:=some true) g.2.length (λv:Nat=>(v:Int)) (λv w h=> ?_) (λw=> ?_) 1000 (by omega)
 ·have j:at' c (v:Int)=[t_ g s,D d v,To g d v]:=by
   obtain⟨k,m,n⟩:=G v h;have A:(at' c (v:Int)).length=3:=o.row v h;unfold DY at k m n;generalize at' c (v:Int)=l at A k m n
   match l,A with
   | [x,y,z],_=>
    have k:x=t_ g s:=k;have m:y=D d v:=m;have n:z=To g d v:=n;rw[k,m,n]
  unfold jZ;rw[if_pos (by omega),cV (by omega),cV (by omega),aaG hV E h w];unfold lQ;rw[cV (by omega),cV (by omega),bM (Tc _ _ (by simp)),j,decide_eq_true (show[t_ g s,D d v,To g d v]=[at' g.1 (s:Int),at' d (v:Int),To g d v]from rfl),if_neg (by decide),eY (by omega)]
 ·unfold jZ uY;rw[if_neg (by omega)]
end
end Go.Proofs.YtjkjpdonlpdcaaaGreatDoor
namespace Go.Proofs.YtjkjpdonlpdcaaaGreatDoor
open Go.Sx
def zB (U:Nat)  : Option (ByteArray):=
 some (ByteArray.mk #[112,114,111,103,114,97,109,32,108,101,97,100,101,114,59,10,118,97,114,32,108,101,97,100,32,58,32,48,32,46,46,32,105,100,115,59,10,118,97,114,32,100,32,58,32,48,32,46,46,32,110,32,45,32,49,59,10,118,97,114,32,112,32,58,32,112,111,114,116,59,10,114,117,108,101,32,111,119,110,58,32,105,100,32,42,32,110,32,60,61,32,109,105,110,40,113,46,100,32,43,32,49,32,60,32,110,32,63,32,113,46,108,101,97,100,32,42,32,110,32,43,32,113,46,100,32,58,32,40,105,100,115,32,43,32,49,41,32,42,32,110,41,32,38,38,32,40,108,101,97,100,32,33,61,32,105,100,32,124,124,32,100,32,33,61,32,48,32,124,124,32,112,32,33,61,32,110,111,110,101,41,32,45,62,32,108,101,97,100,32,58,61,32,105,100,44,32,100,32,58,61,32,48,44,32,112,32,58,61,32,110,111,110,101,59,10,114,117,108,101,32,106,111,105,110,58,32,105,100,32,42,32,110,32,62,32,109,105,110,40,113,46,100,32,43,32,49,32,60,32,110,32,63,32,113,46,108,101,97,100,32,42,32,110,32,43,32,113,46,100,32,58,32,40,105,100,115,32,43,32,49,41,32,42,32,110,41,32,38,38,32,40,108,101,97,100,32,33,61,32,109,105,110,40,113,46,100,32,43,32,49,32,60,32,110,32,63,32,113,46,108,101,97,100,32,42,32,110,32,43,32,113,46,100,32,58,32,40,105,100,115,32,43,32,49,41,32,42,32,110,41,32,47,32,110,32,124,124,32,100,32,33,61,32,109,105,110,40,113,46,100,32,43,32,49,32,60,32,110,32,63,32,113,46,108,101,97,100,32,42,32,110,32,43,32,113,46,100,32,58,32,40,105,100,115,32,43,32,49,41,32,42,32,110,41,32,37,32,110,32,43,32,49,32,124,124,32,112,32,33,61,32,102,105,114,115,116,40,113,46,108,101,97,100,32,42,32,110,32,43,32,113,46,100,32,61,61,32,109,105,110,40,113,46,100,32,43,32,49,32,60,32,110,32,63,32,113,46,108,101,97,100,32,42,32,110,32,43,32,113,46,100,32,58,32,40,105,100,115,32,43,32,49,41,32,42,32,110,41,41,41,10,32,32,45,62,32,108,101,97,100,32,58,61,32,109,105,110,40,113,46,100,32,43,32,49,32,60,32,110,32,63,32,113,46,108,101,97,100,32,42,32,110,32,43,32,113,46,100,32,58,32,40,105,100,115,32,43,32,49,41,32,42,32,110,41,32,47,32,110,44,32,100,32,58,61,32,109,105,110,40,113,46,100,32,43,32,49,32,60,32,110,32,63,32,113,46,108,101,97,100,32,42,32,110,32,43,32,113,46,100,32,58,32,40,105,100,115,32,43,32,49,41,32,42,32,110,41,32,37,32,110,32,43,32,49,44,32,112,32,58,61,32,102,105,114,115,116,40,113,46,108,101,97,100,32,42,32,110,32,43,32,113,46,100,32,61,61,32,109,105,110,40,113,46,100,32,43,32,49,32,60,32,110,32,63,32,113,46,108,101,97,100,32,42,32,110,32,43,32,113,46,100,32,58,32,40,105,100,115,32,43,32,49,41,32,42,32,110,41,41,59,10])
theorem IL:aQ Tryz.prog 8:=Tryz.call8
theorem oP (U:Nat)  (r:ByteArray) (h:zB U  = some r):
  bA Tryz.prog 8 #[] [] (λx:Unit=>vS (r)) (λx l=>l) (λ_ l=>l):=by
 refine bA.of Tryz.func8 Z Tryz.ntmps8 Z λc=>?_;unfold zB at h;refine aS<|aC Z<|aK<|aS<|aC Z<|aK<|aP ?_;cases h;exact kM Z
def Ac (U:Nat) (a:ByteArray):Option ((ByteArray×Int×Int×Int×Int×Int)):=
 some ((a,(3:Int),(0:Int),(0:Int),(0:Int),(0:Int)))
theorem aab:aQ Tryz.prog 34:=Tryz.call34
theorem HM (U:Nat) {a:ByteArray} (r:Rx) (h:Ac U a=some r):
  bA Tryz.prog 34 #[vS (a)] [] (λx:Unit=>Value.agg #[vS (r.1),vI (r.2.1),vI (r.2.2.1),vI (r.2.2.2.1),vI (r.2.2.2.2.1),vI (r.2.2.2.2.2)]) (λx l=>l) (λ_ l=>l):=by
 refine bA.of Tryz.func34 Z Tryz.ntmps34 Z λc=>?_;unfold Ac at h;refine aS<|aG (aJ.alloc (cs:=vD4) Z Z) Z λb=>aK<|aS<|aA Z ?_;refine aB (Cm (r:=Value.agg #[vS (a),vI (3:Int),vI (0:Int),vI (0:Int),vI (0:Int),vI (0:Int)]) Z Z (by intro w;simp[Instr.build,Instr.fill,eP,dV,dH,eQ,eR,dW,fS])) Z ?_;refine bR 0 (vs:=[vS (a),vI (3:Int),vI (0:Int),vI (0:Int),vI (0:Int),vI (0:Int)]) Z Z Z Z Z Z<|aK<|aP ?_;cases h;exact kC () Z Z (RV.cell 0 Z Z Z Z) .nil aD.nil
def Cw (U:Nat)  : Option ((List (ByteArray×Int×Int×Int×Int×Int))):=
 Option.bind (xT U (ByteArray.mk #[108,101,97,100]) (0:Int) (0:Int) (1:Int)) λa=>(Option.bind (xT U (ByteArray.mk #[100]) (-1:Int) (1:Int) (0:Int)) λb=>(Option.bind (Ac U (ByteArray.mk #[112])) λc=>(some ([(a.1,a.2.1,a.2.2.1,a.2.2.2.1,a.2.2.2.2.1,a.2.2.2.2.2),(b.1,b.2.1,b.2.2.1,b.2.2.2.1,b.2.2.2.2.1,b.2.2.2.2.2),(c.1,c.2.1,c.2.2.1,c.2.2.2.1,c.2.2.2.2.1,c.2.2.2.2.2)]))))
theorem ER:aQ Tryz.prog 10:=Tryz.call10
theorem qN (U:Nat)  (r:(List (ByteArray×Int×Int×Int×Int×Int))) (h:Cw U  = some r):
  bA Tryz.prog 10 #[] [] (λx:Value=>x) (λx l=>Ar tP x r::l) (λ_ l=>l):=by
 refine bA.of Tryz.func10 Z Tryz.ntmps10 Z λc=>?_;refine aS<|aC Z<|aK<|aS<|eL h λa g h=>aG (aJ.callQ Up (DD U  a g) Z .nil) Z λk=>eL h λb i h=>aG (aJ.callQ Up (DD U  b i) Z .nil) Z λm=>eL h λd j h=>aG (aJ.callQ aab (HM U  d j) Z .nil) Z λn=>aG (cW (e:=tP) ([((a.1,a.2.1,a.2.2.1,a.2.2.2.1,a.2.2.2.2.1,a.2.2.2.2.2)),((b.1,b.2.1,b.2.2.1,b.2.2.2.1,b.2.2.2.2.1,b.2.2.2.2.2)),((d.1,d.2.1,d.2.2.1,d.2.2.2.1,d.2.2.2.2.1,d.2.2.2.2.2))]) [(0,Value.agg #[vS (a.1),vI (a.2.1),vI (a.2.2.1),vI (a.2.2.2.1),vI (a.2.2.2.2.1),vI (a.2.2.2.2.2)]),(1,Value.agg #[vS (b.1),vI (b.2.1),vI (b.2.2.1),vI (b.2.2.2.1),vI (b.2.2.2.2.1),vI (b.2.2.2.2.2)]),(2,Value.agg #[vS (d.1),vI (d.2.1),vI (d.2.2.1),vI (d.2.2.2.1),vI (d.2.2.2.2.1),vI (d.2.2.2.2.2)])] Z Z Z Z (UX (vS (a.1)) (vI (a.2.1)) (vI (a.2.2.1)) (vI (a.2.2.2.1)) (vI (a.2.2.2.2.1)) (vI (a.2.2.2.2.2)) (vS (b.1)) (vI (b.2.1)) (vI (b.2.2.1)) (vI (b.2.2.2.1)) (vI (b.2.2.2.2.1)) (vI (b.2.2.2.2.2)) (vS (d.1)) (vI (d.2.1)) (vI (d.2.2.1)) (vI (d.2.2.2.1)) (vI (d.2.2.2.2.1)) (vI (d.2.2.2.2.2))) Z Z Z) Z λf=>aC Z<|aK<|aP ?_;cases h;exact kC (f) Z Z (RV.tmp Z) (aY.refl _) aD.nil
end Go.Proofs.YtjkjpdonlpdcaaaGreatDoor
namespace Go.Proofs.YtjkjpdonlpdcaaaGreatDoor
open Go Go.Sx Go.Gx
set_option maxRecDepth 100000
def tW (a:Nat):Option (Bool):=some (true)
theorem Um:aQ Tryz.prog 16:=Tryz.call16
theorem UB:okT (IQ Fb gp2 4000 16 [] H0)=true:=by kernel_rfl
theorem Er (a:Nat) (r:Bool) (h:tW a=some r):
  bA Tryz.prog 16 #[] [Gb 0 (cellsOf JO Ae)] (λx:Unit=>Value.bool (r)) (λx l=>l) (λ_ l=>l):=by
 obtain rfl:=Option.some.inj h;obtain⟨d,c⟩:=VQ UB;rw[FB Ef]at c;exact LU Vb Um (λf e h=>h.bool_inv) λT b=>FA (gs:=gl T) agJ c (fP.start b Z) .nil
end Go.Proofs.YtjkjpdonlpdcaaaGreatDoor
namespace Go.Proofs.YtjkjpdonlpdcaaaGreatDoor
open Go.Sx
noncomputable def gY  (a:Bool):Option (Bool):=
 some (a)
noncomputable def nL (U:Nat) (h:Int) (c:Cb) (b:aT) (d:b_×Int) (g:Unit):Option (Bool):=
 Option.bind (fW U h (List.length c.2:Int)) λa=>(ck (0<=a∧a<(List.length b:Int)) (ck (0<=a∧a<(List.length b:Int)) (Option.bind (tW U) λe=>(if e=true then(Option.bind (iY U (2:Int) ((c.1,c.2)) (List.set b (Int.toNat a) (wI .i64 ((1:Int) - (at' b a)))) d.1) λf=>(gY  (decide (f≠(0:Int)))))else(gY  (false))))))
noncomputable def jR (b:Int) (a:(Int)->Option (Bool)) (c:Bool):Option (Bool):=
 if c=true then(some (false))else(a (wI .i64 (b+(1:Int))))
noncomputable def fK (U:Nat) (g:Int) (f:Cb) (b:Hx) (e:aT) (c:b_×Int) (a:Int) (d:(Int)->Option (Bool)):Option (Bool):=
 if a<(List.length f.2:Int)then(ck (0<=a∧a<(List.length c.1:Int)) (ck (0<=a∧a<(List.length b.2.2.2.2.2.2.2.2:Int)) (ck (0<=(0:Int)∧(0:Int)<(List.length (at' b.2.2.2.2.2.2.2.2 a):Int)) (if((at' c.1 a).1)≠(at' (at' b.2.2.2.2.2.2.2.2 a) (0:Int))then(jR a d (true))else(ck (0<=a∧a<(List.length c.1:Int)) (ck (0<=a∧a<(List.length b.2.2.2.2.2.2.2.2:Int)) (ck (0<=(1:Int)∧(1:Int)<(List.length (at' b.2.2.2.2.2.2.2.2 a):Int)) (jR a d (decide (((at' c.1 a).2)≠(at' (at' b.2.2.2.2.2.2.2.2 a) (1:Int))))))))))))else(nL U g f e c (()))
noncomputable def gX (U:Nat) (e:Int) (f:Cb) (a:Hx) (b:aT) (d:b_×Int) (c:Bool):Option (Bool):=
 if c=true then(some (false))else(bP (fK U e f a b d) U (0:Int))
noncomputable def jQ (U:Nat) (e:Int) (c:Cb) (d:Hx) (b:aT):Option (Bool):=
 Option.bind (sN U (2:Int) ((c.1,c.2)) b) λa=>(if a.2≠(0:Int)then(gX U e c d b a (true))else(Option.bind (iY U (2:Int) ((c.1,c.2)) b a.1) λf=>(if f≠(0:Int)then(gX U e c d b a (true))else(gX U e c d b a (decide ((List.length a.1:Int)≠(List.length c.2:Int)))))))
noncomputable def jS (a:aT×Int) (c:(aT×Int)->Option (Bool)) (b:Int):Option (Bool):=
 ck ((List.length a.1:Int)+(List.length ([b]):Int)<=1099511627) (c ((a.1++[b]),(wI .i64 (a.2+(1:Int)))))
noncomputable def fL (U:Nat) (e:Int) (d:Cb) (b:Hx) (a:aT×Int) (c:(aT×Int)->Option (Bool)):Option (Bool):=
 if a.2<(List.length d.2:Int)then(ck (0<=a.2∧a.2<(List.length b.2.2.2.2.2.2.2.2:Int)) (ck (0<=(0:Int)∧(0:Int)<(List.length (at' b.2.2.2.2.2.2.2.2 a.2):Int)) (ck (0<=a.2∧a.2<(List.length d.1:Int)) (if(at' (at' b.2.2.2.2.2.2.2.2 a.2) (0:Int))=(at' d.1 a.2)then(jS a c (1:Int))else(jS a c (0:Int))))))else(jQ U e d b (a.1))
noncomputable def jP (U:Nat) (c:Int) (d:Cb) (a:Hx) (b:Bool):Option (Bool):=
 if b=true then(some (false))else(bP (fL U c d a) U (([]:aT),(0:Int)))
noncomputable def nK (U:Nat) (d:Int) (c:Cb) (a:Hx):Option (Bool):=
 if a.1≠(0:Int)then(jP U d c a (true))else(Option.bind (sP U ((c.1,c.2)) a.2.2.2.2.2.2.2.2) λb=>(jP U d c a ((!b))))
noncomputable def nV (U:Nat) (c:CZ) (j:aT) (k:Int):Option (Bool):=
 Option.bind (jF U ((c.1,c.2.1,c.2.2.1,c.2.2.2.1,c.2.2.2.2.1,c.2.2.2.2.2)) (6:Int)) λd=>(Option.bind (zB U) λe=>(Option.bind (rA U e) λb=>Uf b.2.2 λi=>(Option.bind (Cw U) λf=>(Option.bind (nE U ((d.1,d.2)) f j) λg=>(Option.bind (pW U ([]:aT) (wI .i64 ((2:Int)*(List.length d.2:Int)))) λh=>(Option.bind (tE U ((b.1,b.2.1,i)) ((d.1,d.2)) (4:Int) g h) λa=>(nK U k d (a.2,a.1.2.2.2.1,a.1.2.2.2.2.1,a.1.2.2.2.2.2.1,a.1.2.2.2.2.2.2.1,a.1.2.2.2.2.2.2.2,a.1.1,a.1.2.1,a.1.2.2.1))))))))
theorem Ba (U:Nat) {p0:CZ} {p1:aT} {p2:Int} (v0:Value)  (v1:Value)  (v2:Value)  (v3:Value) (r:Bool) (h:nV U p0 p1 p2=some r):
  bA Tryz.prog 3 #[Value.agg #[vI (p0.1),v0,v1,v2,vB (p0.2.2.2.2.1),vB (p0.2.2.2.2.2)],v3,vI (p2)] [Sl bN v0 p0.2.1,Sl bN v1 p0.2.2.1,Sl bN v2 p0.2.2.2.1,Sl bN v3 p1,Gb 0 (cellsOf JO Ae)] (λx:Unit=>vB (r)) (λx l=>l) (λ_ l=>l):=by
 refine bA.of Tryz.func3 Z Tryz.ntmps3 Z λc=>?_;refine aS<|aG (aJ.box (cs:=[vI (p0.1),v0,v1,v2,vB (p0.2.2.2.2.1),vB (p0.2.2.2.2.2)]) Z Z) Z λb1=>aC Z<|aK<|aS<|dM 0 Z<|eL h λm w3 h=>aG (aJ.callQ acW (BZ U v0 v1 v2 m w3) Z (lJ [0,1,2] Z)) Z λf=>aG (aJ.alloc (cs:=[lS,lS]) Z Z) Z λN=>dB (Know.one ((aX (aE.res 1 Z) cU))) λcT=>dB (Know.one (aE.sl (bJ (i:=2) (j:=3) Z Z bB))) λcV=>bR 0 (vs:=[f.1,f.2.1]) Z Z (dQ cT (dQ cV Z)) Z Z Z<|aK<|aS<|bX Z<|cJ 0 Z<|aB (lY Z (bJ (i:=2) (j:=3) Z Z bB) Z) Z<|aC Z<|aK<|aI<|Cz (B:=Nat×Value×Value×Value×List Value) (λd=>nK U p2 m d=some r) (λd b=>[(2,vI (p2)),(7,vP N),(8,vI (List.length m.2:Int)),(9,vP b.1),(10,vI (d.1))]) (λd b=>[bH b.1 [b.2.1,b.2.2.1,b.2.2.2.1,vI (d.2.1),vI (d.2.2.1),vI (d.2.2.2.1),vI (d.2.2.2.2.1),vU (d.2.2.2.2.2.1)] 35,Ar kF b.2.1 d.2.2.2.2.2.2.1,Ar kF b.2.2.1 d.2.2.2.2.2.2.2.1,Ar eK.raw b.2.2.2.1 b.2.2.2.2,k_ cM b.2.2.2.2 d.2.2.2.2.2.2.2.2,bH N [f.1,f.2.1] 27,Ar cM f.1 m.1,Ar eK.raw f.2.1 f.2.2,k_ bS f.2.2 m.2]) ?_ ?_
 ·have⟨r109,w110,h⟩:=bnd h;refine eL h λH J h=>Gm [0,1,0,0,3,0,59,0,128,507,1023,2047,4095,4095,0,24575,65535] 16 [[2,3,5,7,8,0,1,4,6,9,10,11,12,13,14,15,16],[2,3,5,7,8,0,1,4,6,9,14,10,11,12,13,15,16],[2,3,5,7,8,0,1,4,6,14,9,10,11,12,13,15,16],[2,3,5,7,8,0,1,4,14,6,9,10,11,12,13,15,16],[2,3,5,7,8,0,1,14,4,6,9,10,11,12,13,15,16],[2,3,5,7,8,0,14,1,4,6,9,10,11,12,13,15,16],[2,3,5,7,8,14,0,1,4,6,9,10,11,12,13,15,16]] mixedOrders (by decide +kernel) (by decide +kernel) ?_;intro o ho;simp only[List.mem_cons,List.not_mem_nil,or_false]at ho;rcases ho with rfl|rfl|rfl|rfl|rfl|rfl|rfl
  ·refine hZ 0 Z<|hZ 0 Z<|bE Z<|bE Z<|fY Z (tQ Z Z)<|JR.loud Z Z Z (aJ.callQ IL (oP U  r109 w110) Z .nil) Z (λcv=>(jV [([0],[]),([0],[])] Z)) λcv=>JR.loud Z Z Z (aJ.call Hk (lR U H J) Z (h_ 4 Z) (λ_ _=>rfl) (λ_ _=>rfl)) Z (fun⟨ai,aj,k,ab⟩=>(jV [([0],[]),([0],[])] Z)) fun⟨ai,aj,k,ab⟩=>?_;have h:=yO h k ab;refine eL h λn q h=>JR.loud Z Z Z (aJ.callQ ER (qN U  n q) Z .nil) Z (λbb=>(jV [([1],[]),([1],[])] Z)) λbb=>eL h λg s h=>JR.loud Z Z Z (aJ.callQ IM (nH U f.1 f.2.1 (List.zip f.2.2 m.2) bb v3 g s) Z (aD.cons (aX (aE.res 2 Z) cU) (aD.cons (bJ (i:=3) (j:=4) Z Z bB) (aD.cons (aX (aE.res 0 Z) fJ) (lJ [6] Z))))) Z (λak=>(jV [([3],[])] Z)) λak=>eL h λp t h=>JR.loud Z Z Z (aJ.callQ ES (nJ U (lS) p t) Z (aD.cons aE.nil .nil)) Z (λbc=>(jV [([4],[])] Z)) λbc=>eL h λa u h=>JR.loud Z Z Z (aJ.callQ IK (qO U ai aj f.1 f.2.1 (List.zip f.2.2 m.2) ak.1 (List.zip ak.2 g) bc a u) Z (aD.cons (aE.fact 0 Z) (aD.cons (aE.fact 1 Z) (aD.cons (aE.fact 2 Z) (aD.cons (aX (aE.res 5 Z) cU) (aD.cons (bJ (i:=6) (j:=7) Z Z bB) (aD.cons (bJ (i:=1) (j:=2) Z Z cU) (aD.cons (aX (aE.res 0 Z) lX) (lJ [7] Z))))))))) Z (λy=>(jV [] Z)) λy=>fY Z (fC Z)<|fY Z (gA Z Z)<|fY Z (gA Z Z)<|JR.loud Z Z Z (aJ.alloc (cs:=EI) Z Z) Z (λa1=>(jV [([9],[]),([9],[])] Z)) λa1=>bY (Know.one ((aX (aE.res 1 Z) lX))) λbr=>bY (Know.one ((aX (aE.res 2 Z) lX))) λbs=>bY (Know.one (aE.sl (bJ (i:=3) (j:=4) Z Z cU))) λbt=>oC Z Z Z (oL 0 (vs:=[y.1,y.2.1,y.2.2.1,vI (a.1.2.2.2.1),vI (a.1.2.2.2.2.1),vI (a.1.2.2.2.2.2.1),vI (a.1.2.2.2.2.2.2.1),vU (a.1.2.2.2.2.2.2.2)]) Z Z (dQ br (dQ bs (dQ bt (dQ Z (dQ Z (dQ Z (dQ Z (dQ Z Z)))))))) Z Z Z) (λcw=>(jV [] Z)) λcw=>bK 16 Z Z<|aC Z<|aK ?_;exact bT (a.2,a.1.2.2.2.1,a.1.2.2.2.2.1,a.1.2.2.2.2.2.1,a.1.2.2.2.2.2.2.1,a.1.2.2.2.2.2.2.2,a.1.1,a.1.2.1,a.1.2.2.1) (a1,y.1,y.2.1,y.2.2.1,y.2.2.2) h SF (aY.ix [0,1,2,3,4,9,10,11,12] Z Z) (lJ [3,4,5,6,7] Z)
  ·refine hZ 0 Z<|hZ 0 Z<|bE Z<|bE Z<|fY Z (tQ Z Z)<|JR.loud Z Z Z (aJ.callQ IL (oP U  r109 w110) Z .nil) Z (λcx=>(jV [([0],[]),([0],[])] Z)) λcx=>JR.loud Z Z Z (aJ.call Hk (lR U H J) Z (h_ 4 Z) (λ_ _=>rfl) (λ_ _=>rfl)) Z (fun⟨al,am,k,ac⟩=>(jV [([0],[]),([0],[])] Z)) fun⟨al,am,k,ac⟩=>?_;have h:=yO h k ac;refine eL h λn q h=>JR.loud Z Z Z (aJ.callQ ER (qN U  n q) Z .nil) Z (λbd=>(jV [([1],[]),([1],[])] Z)) λbd=>eL h λg s h=>JR.loud Z Z Z (aJ.callQ IM (nH U f.1 f.2.1 (List.zip f.2.2 m.2) bd v3 g s) Z (aD.cons (aX (aE.res 2 Z) cU) (aD.cons (bJ (i:=3) (j:=4) Z Z bB) (aD.cons (aX (aE.res 0 Z) fJ) (lJ [6] Z))))) Z (λan=>(jV [([3],[])] Z)) λan=>eL h λp t h=>JR.loud Z Z Z (aJ.callQ ES (nJ U (lS) p t) Z (aD.cons aE.nil .nil)) Z (λbe=>(jV [([4],[])] Z)) λbe=>JR.loud Z Z Z (aJ.alloc (cs:=EI) Z Z) Z (λa2=>(jV [([5],[]),([5],[])] Z)) λa2=>eL h λa u h=>JR.loud Z Z Z (aJ.callQ IK (qO U al am f.1 f.2.1 (List.zip f.2.2 m.2) an.1 (List.zip an.2 g) be a u) Z (aD.cons (aE.fact 0 Z) (aD.cons (aE.fact 1 Z) (aD.cons (aE.fact 2 Z) (aD.cons (aX (aE.res 6 Z) cU) (aD.cons (bJ (i:=7) (j:=8) Z Z bB) (aD.cons (bJ (i:=2) (j:=3) Z Z cU) (aD.cons (aX (aE.res 1 Z) lX) (lJ [7] Z))))))))) Z (λA=>(jV [] Z)) λA=>fY Z (fC Z)<|fY Z (gA Z Z)<|fY Z (gA Z Z)<|bY (Know.one ((aX (aE.res 0 Z) lX))) λbu=>bY (Know.one ((aX (aE.res 1 Z) lX))) λbw=>bY (Know.one (aE.sl (bJ (i:=2) (j:=3) Z Z cU))) λbx=>oC Z Z Z (oL 4 (vs:=[A.1,A.2.1,A.2.2.1,vI (a.1.2.2.2.1),vI (a.1.2.2.2.2.1),vI (a.1.2.2.2.2.2.1),vI (a.1.2.2.2.2.2.2.1),vU (a.1.2.2.2.2.2.2.2)]) Z Z (dQ bu (dQ bw (dQ bx (dQ Z (dQ Z (dQ Z (dQ Z (dQ Z Z)))))))) Z Z Z) (λcy=>(jV [] Z)) λcy=>bK 16 Z Z<|aC Z<|aK ?_;exact bT (a.2,a.1.2.2.2.1,a.1.2.2.2.2.1,a.1.2.2.2.2.2.1,a.1.2.2.2.2.2.2.1,a.1.2.2.2.2.2.2.2,a.1.1,a.1.2.1,a.1.2.2.1) (a2,A.1,A.2.1,A.2.2.1,A.2.2.2) h SF (aY.ix [4,0,1,2,3,9,10,11,12] Z Z) (lJ [3,4,5,6,7] Z)
  ·refine hZ 0 Z<|hZ 0 Z<|bE Z<|bE Z<|fY Z (tQ Z Z)<|JR.loud Z Z Z (aJ.callQ IL (oP U  r109 w110) Z .nil) Z (λcz=>(jV [([0],[]),([0],[])] Z)) λcz=>JR.loud Z Z Z (aJ.call Hk (lR U H J) Z (h_ 4 Z) (λ_ _=>rfl) (λ_ _=>rfl)) Z (fun⟨ao,ap,k,ad⟩=>(jV [([0],[]),([0],[])] Z)) fun⟨ao,ap,k,ad⟩=>?_;have h:=yO h k ad;refine eL h λn q h=>JR.loud Z Z Z (aJ.callQ ER (qN U  n q) Z .nil) Z (λbf=>(jV [([1],[]),([1],[])] Z)) λbf=>eL h λg s h=>JR.loud Z Z Z (aJ.callQ IM (nH U f.1 f.2.1 (List.zip f.2.2 m.2) bf v3 g s) Z (aD.cons (aX (aE.res 2 Z) cU) (aD.cons (bJ (i:=3) (j:=4) Z Z bB) (aD.cons (aX (aE.res 0 Z) fJ) (lJ [6] Z))))) Z (λaq=>(jV [([3],[])] Z)) λaq=>JR.loud Z Z Z (aJ.alloc (cs:=EI) Z Z) Z (λa3=>(jV [([4],[]),([4],[])] Z)) λa3=>eL h λp t h=>JR.loud Z Z Z (aJ.callQ ES (nJ U (lS) p t) Z (aD.cons aE.nil .nil)) Z (λbg=>(jV [([5],[])] Z)) λbg=>eL h λa u h=>JR.loud Z Z Z (aJ.callQ IK (qO U ao ap f.1 f.2.1 (List.zip f.2.2 m.2) aq.1 (List.zip aq.2 g) bg a u) Z (aD.cons (aE.fact 0 Z) (aD.cons (aE.fact 1 Z) (aD.cons (aE.fact 2 Z) (aD.cons (aX (aE.res 6 Z) cU) (aD.cons (bJ (i:=7) (j:=8) Z Z bB) (aD.cons (bJ (i:=2) (j:=3) Z Z cU) (aD.cons (aX (aE.res 0 Z) lX) (lJ [7] Z))))))))) Z (λC=>(jV [] Z)) λC=>fY Z (fC Z)<|fY Z (gA Z Z)<|fY Z (gA Z Z)<|bY (Know.one ((aX (aE.res 0 Z) lX))) λbz=>bY (Know.one ((aX (aE.res 1 Z) lX))) λbC=>bY (Know.one (aE.sl (bJ (i:=2) (j:=3) Z Z cU))) λbD=>oC Z Z Z (oL 5 (vs:=[C.1,C.2.1,C.2.2.1,vI (a.1.2.2.2.1),vI (a.1.2.2.2.2.1),vI (a.1.2.2.2.2.2.1),vI (a.1.2.2.2.2.2.2.1),vU (a.1.2.2.2.2.2.2.2)]) Z Z (dQ bz (dQ bC (dQ bD (dQ Z (dQ Z (dQ Z (dQ Z (dQ Z Z)))))))) Z Z Z) (λcA=>(jV [] Z)) λcA=>bK 16 Z Z<|aC Z<|aK ?_;exact bT (a.2,a.1.2.2.2.1,a.1.2.2.2.2.1,a.1.2.2.2.2.2.1,a.1.2.2.2.2.2.2.1,a.1.2.2.2.2.2.2.2,a.1.1,a.1.2.1,a.1.2.2.1) (a3,C.1,C.2.1,C.2.2.1,C.2.2.2) h SF (aY.ix [5,0,1,2,3,9,10,11,12] Z Z) (lJ [3,4,5,6,7] Z)
  ·refine hZ 0 Z<|hZ 0 Z<|bE Z<|bE Z<|fY Z (tQ Z Z)<|JR.loud Z Z Z (aJ.callQ IL (oP U  r109 w110) Z .nil) Z (λcB=>(jV [([0],[]),([0],[])] Z)) λcB=>JR.loud Z Z Z (aJ.call Hk (lR U H J) Z (h_ 4 Z) (λ_ _=>rfl) (λ_ _=>rfl)) Z (fun⟨ar,au,k,ae⟩=>(jV [([0],[]),([0],[])] Z)) fun⟨ar,au,k,ae⟩=>?_;have h:=yO h k ae;refine eL h λn q h=>JR.loud Z Z Z (aJ.callQ ER (qN U  n q) Z .nil) Z (λbh=>(jV [([1],[]),([1],[])] Z)) λbh=>JR.loud Z Z Z (aJ.alloc (cs:=EI) Z Z) Z (λa4=>(jV [([2],[]),([2],[])] Z)) λa4=>eL h λg s h=>JR.loud Z Z Z (aJ.callQ IM (nH U f.1 f.2.1 (List.zip f.2.2 m.2) bh v3 g s) Z (aD.cons (aX (aE.res 3 Z) cU) (aD.cons (bJ (i:=4) (j:=5) Z Z bB) (aD.cons (aX (aE.res 1 Z) fJ) (lJ [6] Z))))) Z (λav=>(jV [([4],[])] Z)) λav=>eL h λp t h=>JR.loud Z Z Z (aJ.callQ ES (nJ U (lS) p t) Z (aD.cons aE.nil .nil)) Z (λbi=>(jV [([5],[])] Z)) λbi=>eL h λa u h=>JR.loud Z Z Z (aJ.callQ IK (qO U ar au f.1 f.2.1 (List.zip f.2.2 m.2) av.1 (List.zip av.2 g) bi a u) Z (aD.cons (aE.fact 0 Z) (aD.cons (aE.fact 1 Z) (aD.cons (aE.fact 2 Z) (aD.cons (aX (aE.res 6 Z) cU) (aD.cons (bJ (i:=7) (j:=8) Z Z bB) (aD.cons (bJ (i:=1) (j:=2) Z Z cU) (aD.cons (aX (aE.res 0 Z) lX) (lJ [7] Z))))))))) Z (λD=>(jV [] Z)) λD=>fY Z (fC Z)<|fY Z (gA Z Z)<|fY Z (gA Z Z)<|bY (Know.one ((aX (aE.res 0 Z) lX))) λbF=>bY (Know.one ((aX (aE.res 1 Z) lX))) λbG=>bY (Know.one (aE.sl (bJ (i:=2) (j:=3) Z Z cU))) λbL=>oC Z Z Z (oL 7 (vs:=[D.1,D.2.1,D.2.2.1,vI (a.1.2.2.2.1),vI (a.1.2.2.2.2.1),vI (a.1.2.2.2.2.2.1),vI (a.1.2.2.2.2.2.2.1),vU (a.1.2.2.2.2.2.2.2)]) Z Z (dQ bF (dQ bG (dQ bL (dQ Z (dQ Z (dQ Z (dQ Z (dQ Z Z)))))))) Z Z Z) (λcF=>(jV [] Z)) λcF=>bK 16 Z Z<|aC Z<|aK ?_;exact bT (a.2,a.1.2.2.2.1,a.1.2.2.2.2.1,a.1.2.2.2.2.2.1,a.1.2.2.2.2.2.2.1,a.1.2.2.2.2.2.2.2,a.1.1,a.1.2.1,a.1.2.2.1) (a4,D.1,D.2.1,D.2.2.1,D.2.2.2) h SF (aY.ix [7,0,1,2,3,9,10,11,12] Z Z) (lJ [3,4,5,6,7] Z)
  ·refine hZ 0 Z<|hZ 0 Z<|bE Z<|bE Z<|fY Z (tQ Z Z)<|JR.loud Z Z Z (aJ.callQ IL (oP U  r109 w110) Z .nil) Z (λcG=>(jV [([0],[]),([0],[])] Z)) λcG=>JR.loud Z Z Z (aJ.call Hk (lR U H J) Z (h_ 4 Z) (λ_ _=>rfl) (λ_ _=>rfl)) Z (fun⟨aw,ax,k,af⟩=>(jV [([0],[]),([0],[])] Z)) fun⟨aw,ax,k,af⟩=>?_;have h:=yO h k af;refine JR.loud Z Z Z (aJ.alloc (cs:=EI) Z Z) Z (λa5=>(jV [([1],[]),([1],[])] Z)) λa5=>eL h λn q h=>JR.loud Z Z Z (aJ.callQ ER (qN U  n q) Z .nil) Z (λbj=>(jV [([2],[]),([2],[])] Z)) λbj=>eL h λg s h=>JR.loud Z Z Z (aJ.callQ IM (nH U f.1 f.2.1 (List.zip f.2.2 m.2) bj v3 g s) Z (aD.cons (aX (aE.res 3 Z) cU) (aD.cons (bJ (i:=4) (j:=5) Z Z bB) (aD.cons (aX (aE.res 0 Z) fJ) (lJ [6] Z))))) Z (λay=>(jV [([4],[])] Z)) λay=>eL h λp t h=>JR.loud Z Z Z (aJ.callQ ES (nJ U (lS) p t) Z (aD.cons aE.nil .nil)) Z (λbk=>(jV [([5],[])] Z)) λbk=>eL h λa u h=>JR.loud Z Z Z (aJ.callQ IK (qO U aw ax f.1 f.2.1 (List.zip f.2.2 m.2) ay.1 (List.zip ay.2 g) bk a u) Z (aD.cons (aE.fact 0 Z) (aD.cons (aE.fact 1 Z) (aD.cons (aE.fact 2 Z) (aD.cons (aX (aE.res 6 Z) cU) (aD.cons (bJ (i:=7) (j:=8) Z Z bB) (aD.cons (bJ (i:=1) (j:=2) Z Z cU) (aD.cons (aX (aE.res 0 Z) lX) (lJ [7] Z))))))))) Z (λE=>(jV [] Z)) λE=>fY Z (fC Z)<|fY Z (gA Z Z)<|fY Z (gA Z Z)<|bY (Know.one ((aX (aE.res 0 Z) lX))) λbM=>bY (Know.one ((aX (aE.res 1 Z) lX))) λbQ=>bY (Know.one (aE.sl (bJ (i:=2) (j:=3) Z Z cU))) λbV=>oC Z Z Z (oL 8 (vs:=[E.1,E.2.1,E.2.2.1,vI (a.1.2.2.2.1),vI (a.1.2.2.2.2.1),vI (a.1.2.2.2.2.2.1),vI (a.1.2.2.2.2.2.2.1),vU (a.1.2.2.2.2.2.2.2)]) Z Z (dQ bM (dQ bQ (dQ bV (dQ Z (dQ Z (dQ Z (dQ Z (dQ Z Z)))))))) Z Z Z) (λcH=>(jV [] Z)) λcH=>bK 16 Z Z<|aC Z<|aK ?_;exact bT (a.2,a.1.2.2.2.1,a.1.2.2.2.2.1,a.1.2.2.2.2.2.1,a.1.2.2.2.2.2.2.1,a.1.2.2.2.2.2.2.2,a.1.1,a.1.2.1,a.1.2.2.1) (a5,E.1,E.2.1,E.2.2.1,E.2.2.2) h SF (aY.ix [8,0,1,2,3,9,10,11,12] Z Z) (lJ [3,4,5,6,7] Z)
  ·refine hZ 0 Z<|hZ 0 Z<|bE Z<|bE Z<|fY Z (tQ Z Z)<|JR.loud Z Z Z (aJ.callQ IL (oP U  r109 w110) Z .nil) Z (λcI=>(jV [([0],[]),([0],[])] Z)) λcI=>JR.loud Z Z Z (aJ.alloc (cs:=EI) Z Z) Z (λa6=>(jV [([1],[]),([1],[])] Z)) λa6=>JR.loud Z Z Z (aJ.call Hk (lR U H J) Z (h_ 4 Z) (λ_ _=>rfl) (λ_ _=>rfl)) Z (fun⟨az,aF,k,ag⟩=>(jV [([1],[]),([1],[])] Z)) fun⟨az,aF,k,ag⟩=>?_;have h:=yO h k ag;refine eL h λn q h=>JR.loud Z Z Z (aJ.callQ ER (qN U  n q) Z .nil) Z (λbl=>(jV [([2],[]),([2],[])] Z)) λbl=>eL h λg s h=>JR.loud Z Z Z (aJ.callQ IM (nH U f.1 f.2.1 (List.zip f.2.2 m.2) bl v3 g s) Z (aD.cons (aX (aE.res 3 Z) cU) (aD.cons (bJ (i:=4) (j:=5) Z Z bB) (aD.cons (aX (aE.res 0 Z) fJ) (lJ [6] Z))))) Z (λaM=>(jV [([4],[])] Z)) λaM=>eL h λp t h=>JR.loud Z Z Z (aJ.callQ ES (nJ U (lS) p t) Z (aD.cons aE.nil .nil)) Z (λbm=>(jV [([5],[])] Z)) λbm=>eL h λa u h=>JR.loud Z Z Z (aJ.callQ IK (qO U az aF f.1 f.2.1 (List.zip f.2.2 m.2) aM.1 (List.zip aM.2 g) bm a u) Z (aD.cons (aE.fact 0 Z) (aD.cons (aE.fact 1 Z) (aD.cons (aE.fact 2 Z) (aD.cons (aX (aE.res 6 Z) cU) (aD.cons (bJ (i:=7) (j:=8) Z Z bB) (aD.cons (bJ (i:=1) (j:=2) Z Z cU) (aD.cons (aX (aE.res 0 Z) lX) (lJ [7] Z))))))))) Z (λF=>(jV [] Z)) λF=>fY Z (fC Z)<|fY Z (gA Z Z)<|fY Z (gA Z Z)<|bY (Know.one ((aX (aE.res 0 Z) lX))) λbW=>bY (Know.one ((aX (aE.res 1 Z) lX))) λb0=>bY (Know.one (aE.sl (bJ (i:=2) (j:=3) Z Z cU))) λb2=>oC Z Z Z (oL 8 (vs:=[F.1,F.2.1,F.2.2.1,vI (a.1.2.2.2.1),vI (a.1.2.2.2.2.1),vI (a.1.2.2.2.2.2.1),vI (a.1.2.2.2.2.2.2.1),vU (a.1.2.2.2.2.2.2.2)]) Z Z (dQ bW (dQ b0 (dQ b2 (dQ Z (dQ Z (dQ Z (dQ Z (dQ Z Z)))))))) Z Z Z) (λcL=>(jV [] Z)) λcL=>bK 16 Z Z<|aC Z<|aK ?_;exact bT (a.2,a.1.2.2.2.1,a.1.2.2.2.2.1,a.1.2.2.2.2.2.1,a.1.2.2.2.2.2.2.1,a.1.2.2.2.2.2.2.2,a.1.1,a.1.2.1,a.1.2.2.1) (a6,F.1,F.2.1,F.2.2.1,F.2.2.2) h SF (aY.ix [8,0,1,2,3,9,10,11,12] Z Z) (lJ [3,4,5,6,7] Z)
  refine hZ 0 Z<|hZ 0 Z<|bE Z<|bE Z<|fY Z (tQ Z Z)<|JR.loud Z Z Z (aJ.alloc (cs:=EI) Z Z) Z (λa7=>(jV [([1],[]),([1],[])] Z)) λa7=>JR.loud Z Z Z (aJ.callQ IL (oP U  r109 w110) Z .nil) Z (λcQ=>(jV [([1],[]),([1],[])] Z)) λcQ=>JR.loud Z Z Z (aJ.call Hk (lR U H J) Z (h_ 4 Z) (λ_ _=>rfl) (λ_ _=>rfl)) Z (fun⟨aO,aQ,k,ah⟩=>(jV [([1],[]),([1],[])] Z)) fun⟨aO,aQ,k,ah⟩=>?_;have h:=yO h k ah;refine eL h λn q h=>JR.loud Z Z Z (aJ.callQ ER (qN U  n q) Z .nil) Z (λbn=>(jV [([2],[]),([2],[])] Z)) λbn=>eL h λg s h=>JR.loud Z Z Z (aJ.callQ IM (nH U f.1 f.2.1 (List.zip f.2.2 m.2) bn v3 g s) Z (aD.cons (aX (aE.res 3 Z) cU) (aD.cons (bJ (i:=4) (j:=5) Z Z bB) (aD.cons (aX (aE.res 0 Z) fJ) (lJ [6] Z))))) Z (λaW=>(jV [([4],[])] Z)) λaW=>eL h λp t h=>JR.loud Z Z Z (aJ.callQ ES (nJ U (lS) p t) Z (aD.cons aE.nil .nil)) Z (λbo=>(jV [([5],[])] Z)) λbo=>eL h λa u h=>JR.loud Z Z Z (aJ.callQ IK (qO U aO aQ f.1 f.2.1 (List.zip f.2.2 m.2) aW.1 (List.zip aW.2 g) bo a u) Z (aD.cons (aE.fact 0 Z) (aD.cons (aE.fact 1 Z) (aD.cons (aE.fact 2 Z) (aD.cons (aX (aE.res 6 Z) cU) (aD.cons (bJ (i:=7) (j:=8) Z Z bB) (aD.cons (bJ (i:=1) (j:=2) Z Z cU) (aD.cons (aX (aE.res 0 Z) lX) (lJ [7] Z))))))))) Z (λG=>(jV [] Z)) λG=>fY Z (fC Z)<|fY Z (gA Z Z)<|fY Z (gA Z Z)<|bY (Know.one ((aX (aE.res 0 Z) lX))) λb3=>bY (Know.one ((aX (aE.res 1 Z) lX))) λb4=>bY (Know.one (aE.sl (bJ (i:=2) (j:=3) Z Z cU))) λb6=>oC Z Z Z (oL 8 (vs:=[G.1,G.2.1,G.2.2.1,vI (a.1.2.2.2.1),vI (a.1.2.2.2.2.1),vI (a.1.2.2.2.2.2.1),vI (a.1.2.2.2.2.2.2.1),vU (a.1.2.2.2.2.2.2.2)]) Z Z (dQ b3 (dQ b4 (dQ b6 (dQ Z (dQ Z (dQ Z (dQ Z (dQ Z Z)))))))) Z Z Z) (λcR=>(jV [] Z)) λcR=>bK 16 Z Z<|aC Z<|aK ?_;exact bT (a.2,a.1.2.2.2.1,a.1.2.2.2.2.1,a.1.2.2.2.2.2.1,a.1.2.2.2.2.2.2.1,a.1.2.2.2.2.2.2.2,a.1.1,a.1.2.1,a.1.2.2.1) (a7,G.1,G.2.1,G.2.2.1,G.2.2.2) h SF (aY.ix [8,0,1,2,3,9,10,11,12] Z Z) (lJ [3,4,5,6,7] Z)
 intro d b h;refine aI<|aI<|d_ (λT=>jP U p2 m d T=some r) (λT b7=>[(2,vI (p2)),(7,vP N),(8,vI (List.length m.2:Int)),(9,vP b.1),(44,vB (T))]) (λT b7=>[bH b.1 [b.2.1,b.2.2.1,b.2.2.2.1,vI (d.2.1),vI (d.2.2.1),vI (d.2.2.2.1),vI (d.2.2.2.2.1),vU (d.2.2.2.2.2.1)] 35,Ar kF b.2.1 d.2.2.2.2.2.2.1,Ar kF b.2.2.1 d.2.2.2.2.2.2.2.1,Ar eK.raw b.2.2.2.1 b.2.2.2.2,k_ cM b.2.2.2.2 d.2.2.2.2.2.2.2.2,bH N [f.1,f.2.1] 27,Ar cM f.1 m.1,Ar eK.raw f.2.1 f.2.2,k_ bS f.2.2 m.2]) ?_ ?_
 ·refine aR<|aA Z<|oT Z<|aA Z ?_;refine Cd h Z (λ_ h=>?_) λ_ h=>?_
  ·refine aL Z<|aL Z<|aL Z<|aL Z<|aL Z<|dU Z<|aK ?_;exact iI (true) () h SF Z
  refine aV Z (lO 5 Z Z Z Z) Z<|aV Z (dR Z Z Z Z Z) Z<|aV Z (cK 0 Z Z Z Z Z) Z<|eL h λba cu h=>rQ Z (aJ.callQ ZY (JE U f.1 f.2.1 (List.zip f.2.2 m.2) b.2.2.2.1 (List.zip b.2.2.2.2 d.2.2.2.2.2.2.2.2) ba cu) Z (aD.cons (aX (aE.res 6 Z) cU) (aD.cons (bJ (i:=7) (j:=8) Z Z bB) (aD.cons (bJ (i:=3) (j:=4) Z Z cU) .nil)))) Z λda=>aV Z (iZ Z) Z<|e_ Z<|aK ?_;exact iI ((!ba)) () h SF Z
 intro T b7 h;refine yC h Z (λ_ h=>?_) λ_ h=>?_
 ·refine aS<|aC Z<|aK<|aP<|aH ?_;cases h;exact sV Z
 refine cE<|aS<|aC Z<|aK<|aI<|Cz (B:=Value) (λw=>jQ U p2 m d w=some r) (λw v=>[(2,vI (p2)),(7,vP N),(8,vI (List.length m.2:Int)),(9,vP b.1),(11,v)]) (λw v=>[bH b.1 [b.2.1,b.2.2.1,b.2.2.2.1,vI (d.2.1),vI (d.2.2.1),vI (d.2.2.2.1),vI (d.2.2.2.2.1),vU (d.2.2.2.2.2.1)] 35,Ar kF b.2.1 d.2.2.2.2.2.2.1,Ar kF b.2.2.1 d.2.2.2.2.2.2.2.1,Ar eK.raw b.2.2.2.1 b.2.2.2.2,k_ cM b.2.2.2.2 d.2.2.2.2.2.2.2.2,bH N [f.1,f.2.1] 27,Ar cM f.1 m.1,Ar eK.raw f.2.1 f.2.2,k_ bS f.2.2 m.2,Ar cM v w]) ?_ ?_
 ·refine aS<|aC Z<|aK<|aU<|jY (f_ cM)<|eH (B:=Value) (fL U p2 m d) (λK P=>[(2,vI (p2)),(7,vP N),(8,vI (List.length m.2:Int)),(9,vP b.1),(11,P),(12,vI (K.2))]) (λK P=>[bH b.1 [b.2.1,b.2.2.1,b.2.2.2.1,vI (d.2.1),vI (d.2.2.1),vI (d.2.2.2.1),vI (d.2.2.2.2.1),vU (d.2.2.2.2.2.1)] 35,Ar kF b.2.1 d.2.2.2.2.2.2.1,Ar kF b.2.2.1 d.2.2.2.2.2.2.2.1,Ar eK.raw b.2.2.2.1 b.2.2.2.2,k_ cM b.2.2.2.2 d.2.2.2.2.2.2.2.2,bH N [f.1,f.2.1] 27,Ar cM f.1 m.1,Ar eK.raw f.2.1 f.2.2,k_ bS f.2.2 m.2,Ar cM P K.1]) (([]:aT),(0:Int)) (lS) h SF (aY.ix [1,2,3,4,5,6,7,8,9,0] Z Z) ?_;intro c1 K P h;refine aI<|aS<|aA Z<|aA Z<|cP Z<|aK ?_;refine eZ h Z (λh=>?_) λh=>?_
  ·refine cE<|aI<|aU<|aS<|aC Z<|aK<|aI<|d_ (λM=>jS K (bP (fL U p2 m d) c1) M=some r) (λM cd=>[(2,vI (p2)),(7,vP N),(8,vI (List.length m.2:Int)),(9,vP b.1),(11,P),(12,vI (K.2)),(13,vI (M))]) (λM cd=>[bH b.1 [b.2.1,b.2.2.1,b.2.2.2.1,vI (d.2.1),vI (d.2.2.1),vI (d.2.2.2.1),vI (d.2.2.2.2.1),vU (d.2.2.2.2.2.1)] 35,Ar kF b.2.1 d.2.2.2.2.2.2.1,Ar kF b.2.2.1 d.2.2.2.2.2.2.2.1,Ar eK.raw b.2.2.2.1 b.2.2.2.2,k_ cM b.2.2.2.2 d.2.2.2.2.2.2.2.2,bH N [f.1,f.2.1] 27,Ar cM f.1 m.1,Ar eK.raw f.2.1 f.2.2,k_ bS f.2.2 m.2,Ar cM P K.1]) ?_ ?_
   ·refine aI ?_;refine JR.start [0,1,0,7,15,31,63,0,128,0,896,1920,4095] 12 mixedOrders (by decide +kernel) ?_;refine JR.open (by exact rfl) ?_;refine cN Z<|dY 0 Z<|bE Z<|dK h λS h=>bY (cY 4 Z) λck=>?_;refine bI Z (aY.cons 3 Z .nil) .nil (iM 0 Z Z Z Z Z S.1 (by have q1:=S.2;have q2:=ck;(try simp only[List.length_set]at q1);(try simp only[List.length_set]at q2);(try simp only[List.length_set]);omega)) aN.z ?_;refine bY (cY 4 Z) λbp=>bI Z (aY.cons 3 Z .nil) .nil (lK 0 Z Z bp Z Z S) aN.z<|dK h λa8 h=>bY (Know.len (aE.row (j:=4) Z cU S.1 S.2)) λbq=>fY Z (Df Z Z bq Z Z a8)<|bI Z (aY.cons 4 Z .nil) .nil (bU Z (aE.row (j:=0) Z cU S.1 S.2) Z Z Z cS a8) aN.z<|cN Z<|dY 5 Z<|bE Z<|dK h λa9 h=>bI Z (aY.cons 6 Z .nil) .nil (aZ Z Z (aX (aE.res 0 Z) cU) Z Z a9) aN.z<|bI Z (aY.cons 6 Z .nil) .nil (bU Z (aX (aE.res 0 Z) cU) Z Z Z cS a9) aN.z<|bK 12 Z Z<|cC Z<|aK ?_;refine eZ h Z (λh=>?_) λh=>?_
    ·refine aR<|aC Z<|aK ?_;exact iI (1:Int) () h SF Z
    refine cE ?_;exact iI (0:Int) () h SF Z
   intro M cd h;refine aR<|aA Z<|aA Z<|aG (cW (e:=cM) ([M]) [(0,vI (M))] Z Z Z Z (pP (vI (M)) Z) Z Z Z) Z λdb=>dK h λcX h=>aG (g_ 10 cU Z Z Z (aX (aE.res 0 Z) cU) Z Z Z Z cX Z) Z λc4=>aC Z<|fF<|mP<|aR<|aA Z<|cO Z<|aC Z<|aK ?_;exact lT ((K.1++[M]),(wI .i64 (K.2+(1:Int)))) (c4) h SF (aY.ix [1,2,3,4,5,6,7,8,9,10] Z Z) (aD.refl _ _)
  refine fE ?_;exact iI (K.1) (P) h SF Z
 intro w v h;refine aS<|dM 5 Z<|aA Z<|eL h λI c5 h=>aG (aJ.callQ ZZ (JD U f.1 f.2.1 (List.zip f.2.2 m.2) v I c5) Z (aD.cons (aX (aE.res 6 Z) cU) (aD.cons (bJ (i:=7) (j:=8) Z Z bB) (aD.cons (aX (aE.res 9 Z) cU) .nil)))) Z λL=>aA Z<|iG Z<|iG Z<|aC Z<|aC Z<|aK<|aI<|aI<|d_ (λV=>gX U p2 m d w I V=some r) (λV b8=>[(2,vI (p2)),(7,vP N),(8,vI (List.length m.2:Int)),(9,vP b.1),(11,v),(14,L),(87,vB (V))]) (λV b8=>[Ar bS L I.1,bH b.1 [b.2.1,b.2.2.1,b.2.2.2.1,vI (d.2.1),vI (d.2.2.1),vI (d.2.2.2.1),vI (d.2.2.2.2.1),vU (d.2.2.2.2.2.1)] 35,Ar kF b.2.1 d.2.2.2.2.2.2.1,Ar kF b.2.2.1 d.2.2.2.2.2.2.2.1,Ar eK.raw b.2.2.2.1 b.2.2.2.2,k_ cM b.2.2.2.2 d.2.2.2.2.2.2.2.2,bH N [f.1,f.2.1] 27,Ar cM f.1 m.1,Ar eK.raw f.2.1 f.2.2,k_ bS f.2.2 m.2,Ar cM v w]) ?_ ?_
 ·refine aR<|aA Z<|oT Z<|aA Z ?_;refine Cd h Z (λ_ h=>?_) λ_ h=>?_
  ·refine aL Z<|aL Z<|aL Z<|aL Z<|aL Z<|dU Z<|aA Z<|aL Z<|aL Z<|aL Z<|aL Z<|dU Z<|aK ?_;exact iI (true) () h SF Z
  refine aV Z (lO 6 Z Z Z Z) Z<|eS Z<|eS Z<|eL h λc3 c9 h=>rQ Z (aJ.callQ Ul (AU U f.1 f.2.1 (List.zip f.2.2 m.2) v L c3 c9) Z (aD.cons (aX (aE.res 7 Z) cU) (aD.cons (bJ (i:=8) (j:=9) Z Z bB) (aD.cons (aX (aE.res 10 Z) cU) (aD.cons (aX (aE.res 0 Z) bB) .nil))))) Z λdf=>aV Z (Bh Z Z) Z<|e_ Z<|aA Z ?_;refine Cd h Z (λ_ h=>?_) λ_ h=>?_
  ·refine aL Z<|aL Z<|aL Z<|aL Z<|dU Z<|aK ?_;exact iI (true) () h SF Z
  refine eS Z<|aV Z (fG Z (aX (aE.res 0 Z) bB) Z) Z<|eS Z<|aV Z (Bh Z Z) Z<|e_ Z<|aK ?_;exact iI (decide ((List.length I.1:Int)≠(List.length m.2:Int))) () h SF Z
 intro V b8 h;refine yC h Z (λ_ h=>?_) λ_ h=>?_
 ·refine aS<|aC Z<|aK<|aP<|aH ?_;cases h;exact sV Z
 refine cE<|aI<|d_ (λa0=>nL U p2 m w I a0=some r) (λa0 b9=>[(2,vI (p2)),(7,vP N),(8,vI (List.length m.2:Int)),(11,v),(14,L)]) (λa0 b9=>[Ar bS L I.1,bH N [f.1,f.2.1] 27,Ar cM f.1 m.1,Ar eK.raw f.2.1 f.2.2,k_ bS f.2.2 m.2,Ar cM v w]) ?_ ?_
 ·refine aS<|aC Z<|aK<|aU<|eH (fK U p2 m d w I) (λO cb=>[(2,vI (p2)),(7,vP N),(8,vI (List.length m.2:Int)),(9,vP b.1),(11,v),(14,L),(16,vI (O))]) (λO cb=>[Ar bS L I.1,bH b.1 [b.2.1,b.2.2.1,b.2.2.2.1,vI (d.2.1),vI (d.2.2.1),vI (d.2.2.2.1),vI (d.2.2.2.2.1),vU (d.2.2.2.2.2.1)] 35,Ar kF b.2.1 d.2.2.2.2.2.2.1,Ar kF b.2.2.1 d.2.2.2.2.2.2.2.1,Ar eK.raw b.2.2.2.1 b.2.2.2.2,k_ cM b.2.2.2.2 d.2.2.2.2.2.2.2.2,bH N [f.1,f.2.1] 27,Ar cM f.1 m.1,Ar eK.raw f.2.1 f.2.2,k_ bS f.2.2 m.2,Ar cM v w]) (0:Int) () h SF (aY.refl _) ?_;intro c0 O cb h;refine aI<|aS<|aA Z<|aA Z<|cP Z<|aK ?_;refine eZ h Z (λh=>?_) λh=>?_
  ·refine cE<|aI<|aU<|aI<|d_ (λX=>jR O (bP (fK U p2 m d w I) c0) X=some r) (λX cc=>[(2,vI (p2)),(7,vP N),(8,vI (List.length m.2:Int)),(9,vP b.1),(11,v),(14,L),(16,vI (O)),(120,vB (X))]) (λX cc=>[Ar bS L I.1,bH b.1 [b.2.1,b.2.2.1,b.2.2.2.1,vI (d.2.1),vI (d.2.2.1),vI (d.2.2.2.1),vI (d.2.2.2.2.1),vU (d.2.2.2.2.2.1)] 35,Ar kF b.2.1 d.2.2.2.2.2.2.1,Ar kF b.2.2.1 d.2.2.2.2.2.2.2.1,Ar eK.raw b.2.2.2.1 b.2.2.2.2,k_ cM b.2.2.2.2 d.2.2.2.2.2.2.2.2,bH N [f.1,f.2.1] 27,Ar cM f.1 m.1,Ar eK.raw f.2.1 f.2.2,k_ bS f.2.2 m.2,Ar cM v w]) ?_ ?_
   ·refine JR.start [0,0,3,7,15,0,32,0,224,480,992,2016,4095,8191,16383,16383,65535,131071,262143,16383,540671,16383,3686399,7880703,16269311,33046527,67108863,134217727] 26 mixedOrders (by decide +kernel) ?_;refine JR.open (by exact rfl) ?_;refine bE Z<|bE Z<|dK h λcn h=>bI Z (aY.cons 0 Z .nil) .nil (aZ Z Z (aX (aE.res 0 Z) bB) Z Z cn) aN.z ?_;refine fY Z (pG (i:=0) Z Z Z Z Z (by decide)) ?_;refine bI Z (aY.cons 0 Z .nil) .nil (jK Z (aX (aE.res 0 Z) bB) Z Z Z oM cn) aN.z<|cN Z<|dY 1 Z<|bE Z<|dK h λQ h=>bY (cY 5 Z) λce=>?_;refine bI Z (aY.cons 4 Z .nil) .nil (iM 0 Z Z Z Z Z Q.1 (by have q1:=Q.2;have q2:=ce;(try simp only[List.length_set]at q1);(try simp only[List.length_set]at q2);(try simp only[List.length_set]);omega)) aN.z ?_;refine bY (cY 5 Z) λcf=>bI Z (aY.cons 4 Z .nil) .nil (lK 0 Z Z cf Z Z Q) aN.z<|dK h λco h=>bY (Know.len (aE.row (j:=5) Z cU Q.1 Q.2)) λcg=>fY Z (Df Z Z cg Z Z co)<|bI Z (aY.cons 5 Z .nil) .nil (bU Z (aE.row (j:=0) Z cU Q.1 Q.2) Z Z Z cS co) aN.z<|fY Z (Bh Z Z)<|bE Z ?_;refine Ax (by exact rfl) (by exact rfl) (by exact rfl) (λaa=>?_) (λaa=>?_)
    ·have h:=Ie aa h;refine a_ Z Z Z Z<|a_ Z Z Z Z<|a_ Z Z Z Z<|a_ Z Z Z Z<|a_ Z Z Z Z<|a_ Z Z Z Z<|a_ Z Z Z Z<|a_ Z Z Z Z<|a_ Z Z Z Z<|a_ Z Z Z Z<|a_ Z Z Z Z<|a_ Z Z Z Z<|bK 26 Z Z<|aL Z<|dU Z<|aK ?_;exact iI (true) () h SF Z
    have h:=SH aa h;refine cD Z .nil .nil (fC Z) aN.z<|cD Z .nil .nil (fC Z) aN.z<|dK h λcp h=>cD Z (aY.cons 0 Z .nil) .nil (aZ Z Z (aX (aE.res 0 Z) bB) Z Z cp) aN.z ?_;refine cD Z .nil .nil (pG (i:=1) Z Z Z Z Z (by decide)) aN.z ?_;refine cD Z (aY.cons 0 Z .nil) .nil (jK Z (aX (aE.res 0 Z) bB) Z Z Z Ch cp) aN.z<|cD Z .nil .nil (dR Z Z Z Z Z) aN.z<|cD Z (aY.cons 1 Z .nil) .nil (cK 0 Z Z Z Z Z) aN.z<|cD Z .nil .nil (fC Z) aN.z<|dK h λR h=>bY (cY 5 Z) λch=>?_;refine cD Z (aY.cons 4 Z .nil) .nil (iM 0 Z Z Z Z Z R.1 (by have q1:=R.2;have q2:=ch;(try simp only[List.length_set]at q1);(try simp only[List.length_set]at q2);(try simp only[List.length_set]);omega)) aN.z ?_;refine bY (cY 5 Z) λci=>cD Z (aY.cons 4 Z .nil) .nil (lK 0 Z Z ci Z Z R) aN.z<|dK h λcq h=>bY (Know.len (aE.row (j:=5) Z cU R.1 R.2)) λcj=>cD Z .nil .nil (Df Z Z cj Z Z cq) aN.z<|cD Z (aY.cons 5 Z .nil) .nil (bU Z (aE.row (j:=0) Z cU R.1 R.2) Z Z Z cS cq) aN.z<|bK 26 Z Z<|aV Z (Bh Z Z) Z<|e_ Z<|aK ?_;exact iI (decide (((at' I.1 O).2)≠(at' (at' d.2.2.2.2.2.2.2.2 O) (1:Int)))) () h SF Z
   intro X cc h;refine yC h Z (λ_ h=>?_) λ_ h=>?_
   ·refine aS<|aC Z<|aK<|aP<|bO<|aH<|aH<|bO<|aH ?_;cases h;exact sV Z
   refine dJ<|mP<|aR<|aA Z<|cO Z<|aC Z<|aK ?_;exact Ai (wI .i64 (O+(1:Int))) () h SF Z
  refine fE ?_;exact bT () (()) h SF (aY.ix [0,6,7,8,9,10] Z Z) (aD.refl _ _)
 intro a0 b9 h;refine aS<|aA Z<|aA Z<|eL h λcr c6 h=>aG (aJ.callQ Co (jO U  cr c6) Z .nil) Z λdc=>aC Z<|aK<|aS<|aA Z<|aA Z<|aA Z<|aA Z<|dK h λcl h=>aB (aZ Z Z (aX (aE.res 5 Z) cU) Z Z cl) Z<|aB (bU Z (aX (aE.res 5 Z) cU) Z Z Z cS cl) Z<|aB (mJ Z Z) Z<|dK h λcm h=>aB (aZ Z Z (aX (aE.res 5 Z) cU) Z Z cm) Z<|BL 5 (wI .i64 ((1:Int) - (at' w cr))) cm Z Z Z Z Z Z Z<|aK<|aI<|d_ (λW=>gY  W=some r) (λW ca=>[(6,vB (W))]) (λW ca=>[]) ?_ ?_
 ·refine aR<|eL h λc2 c7 h=>aG (aJ.callQ Um (Er U  c2 c7) Z (lJ [4] Z)) Z λdd=>aA Z ?_;refine Cf (by exact rfl) (by exact rfl) (λY=>?_) (λY=>?_)
  ·have h:=Ie Y h;refine aV Z (lO 1 Z Z Z Z) Z<|eS Z<|eS Z<|eL h λct c8 h=>rQ Z (aJ.callQ Ul (AU U f.1 f.2.1 (List.zip f.2.2 m.2) v L ct c8) Z (aD.cons (aX (aE.res 2 Z) cU) (aD.cons (bJ (i:=3) (j:=4) Z Z bB) (aD.cons (aX (aE.res 5 Z) cU) (aD.cons (aX (aE.res 0 Z) bB) .nil))))) Z λde=>aV Z (Bh Z Z) Z<|dU Z<|aC Z<|aK ?_;exact bT (decide (ct≠(0:Int))) () h SF .nil (aD.refl _ _)
  have h:=Je Y h;refine aL Z<|aL Z<|aL Z<|aL Z<|aL Z<|e_ Z<|aC Z<|aK ?_;exact bT (false) () h SF .nil (aD.refl _ _)
 intro W ca h;unfold gY at h;refine aP ?_;cases h;exact kM Z
end Go.Proofs.YtjkjpdonlpdcaaaGreatDoor
namespace Go.Proofs.YtjkjpdonlpdcaaaGreatDoor
open Go Go.Sx
theorem acZ {g:GR} (f:VM g.1 g.2) (h:∀v:Nat,1<=v->v<g.2.length->∃u:Nat,u<v∧mI g.2 u v):OE g:=by
 have p:VG g:=f.vg;have t:=f.n1;have j:∀v,v<g.2.length->∃k,yM g 0 k v:=by
  intro v
  induction v using Nat.strongRecOn with
  | _ v ih =>
   intro c;by_cases l:v=0
   ·subst l;exact⟨0,rfl,c⟩
   ·obtain⟨u,e,x,s,o⟩:=h v (by omega) c;obtain⟨k,r⟩:=ih u e (by omega);obtain⟨i,q,d⟩:=DR s;refine⟨k+1,u,r,i,q,?_⟩
    show(at' (at' g.2 (u:Int)) (i:Int)).1=_;rw[d,o]
 intro u v e c;obtain⟨a,m⟩:=j u e;obtain⟨b,n⟩:=j v c;exact⟨a+b,(Fz p m).trans n⟩
theorem abp:Cw 1000=some qQ:=rfl
def Il (s v:Nat):Int:=if v=s then 1 else 0
theorem LP (x:RU) (G:aT) (a:Int):nV 1000 x G a=some true:=by
 obtain⟨g,hg,O,au,hT⟩:=Lv x 6 (by omega) (by omega);have k:VG g:=O.vg;have h1:=k.n1;have ao:=k.len;have hC:=acZ O hT;obtain⟨s,L,S,ad⟩:=aaO k;obtain⟨d,ed,w⟩:=Ly k L;have E:Elc g s d:=⟨L,w,λv f=>(UC k L w).2 hC v (by rw[w.len];exact f),λv f=>w.lt f,S⟩
 obtain⟨N,hc,Q⟩:=Pb k qQ G (by decide) (λq A=>⟨Wi q A,by
  have A:q<3:=A
  match q,A with
  |0,_=>decide
  |1,_=>decide
  |2,_=>decide⟩) (λq v A=>by
  have hm:=rB k g.1.length (by omega);have A:q<3:=A
  match q,A with
  |0,_=>rw[YF,Yq];omega
  |1,_=>rw[YG,Yr];omega
  |2,_=>rw[aaS,aaI];omega)
 obtain⟨ws,am,al,ak⟩:=Ti ([]:aT) (n:=2*g.2.length) (by omega);have ac:jF 1000 (x.1,x.2.1,x.2.2.1,x.2.2.2.1,x.2.2.2.2.1,x.2.2.2.2.2) 6=some g:=hg;unfold nV;rw[bM ac,bM (show zB 1000=some E_ from rfl),bM (VX 1000)];refine Xh λz hz=> ?_;have hz:z.map AB=HA RE:=hz;rw[bM abp,bM (show nE 1000 (g.1,g.2) qQ G=some N from hc),show wI .i64 (2*(g.2.length:Int))=((2*g.2.length:Nat):Int) by rw[wr (by omega) (by omega)];omega,bM (show pW 1000 ([]:aT) ((2*g.2.length:Nat):Int)=_ from am)];obtain⟨r,c,j,V,C,hR⟩:=Su k E hz Q al ak;have aq:=C.len;refine(bM (show tE 1000 (pE z) g 4 N ws=_ from V)).trans ?_;unfold nK;dsimp only;rw[if_neg (by decide),bM (show sP 1000 (g.1,g.2) c=_ from aaQ k E hC ed ad C hR)];unfold jP;rw[if_neg (by decide)];have c0:∀v:Nat,v<g.2.length->at' (at' c (v:Int)) 0=t_ g s:=λv f=>(hR v f).1;have c1:∀v:Nat,v<g.2.length->at' (at' c (v:Int)) 1=D d v:=λv f=>(hR v f).2.1;have y:∀v:Nat,v<g.2.length->(at' c (v:Int)).length=3:=λv f=>C.row v f;refine(eB (step:=fL 1000 a g (0,j.1,j.2.1,j.2.2.1,j.2.2.2.1,j.2.2.2.2,r.1,r.2,c)) (K:=jQ 1000 a g (0,j.1,j.2.1,j.2.2.1,j.2.2.2.1,j.2.2.2.2,r.1,r.2,c) ((List.range g.2.length).map (Il s))) g.2.length (λv:Nat=>((List.range v).map (Il s),(v:Int))) (λv ag f=> ?_) (λag=> ?_) 1000 (by omega)).trans ?_
 ·have aa:=y v f;have W:(List.range v).map (Il s)++[Il s v]=(List.range (v+1)).map (Il s):=by rw[List.range_succ,List.map_append,List.map_singleton]
  unfold fL jS;dsimp only;rw[if_pos (by omega),cV (by omega),cV (by omega),cV (by omega),c0 v f,eY (by omega)];by_cases e:v=s
  ·have e2:Il s v=1:=if_pos e;rw[if_pos (by rw[e];rfl),cV (by simp;omega),<-W,e2]
  ·have e2:Il s v=0:=if_neg e;rw[if_neg (show¬t_ g s=at' g.1 (v:Int)from λq=>Yu k L f (λq=>e q.symm) q),cV (by simp;omega),<-W,e2]
 ·unfold fL;dsimp only;rw[if_neg (by omega)]
 have I:∀v:Nat,v<g.2.length->at' ((List.range g.2.length).map (Il s)) (v:Int)=Il s v:=λv f=>xY _ f;have Y:((List.range g.2.length).map (Il s)).length=g.2.length:=by simp
 generalize (List.range g.2.length).map (Il s)=st at I Y;have H:∀v:Nat,v<g.2.length->at' st (v:Int)=0∨at' st (v:Int)=1:=λv f=>by
  rw[I v f];unfold Il;split
  ·exact .inr Z
  ·exact .inl Z
 have only:IA st 1 s:=⟨by omega,by rw[I s L];exact if_pos Z,λb hb h=>by
  rw[I b (by omega)]at h;unfold Il at h;split at h
  ·assumption
  ·cases h⟩
 obtain⟨l,ae,R,m⟩:=aba k hC Y H only ed w;have B:∀{v i:Nat},v<g.2.length->i<(row g v).length->∃u:Nat,u<g.2.length∧(iA (row g v) i).1=(u:Int)∧VJ g l v i=(at' g.1 (s:Int),D d u):=λf J=>by
  obtain⟨u,X,F,_⟩:=k.port f J;exact⟨u,X,F,by show at' l (iA _ _).1=_;rw[F];exact m u X⟩
 have M:∀v,v<g.2.length->RN g st l v:=λv f=>by
  refine⟨λi J=> ?_,?_⟩
  ·obtain⟨u,X,F,hn⟩:=B f J;show(VJ g l v i).1=(SL l v).1;rw[hn,show SL l v=_ from m v f]
  ·rw[I v f,show SL l v=_ from m v f];unfold Il;by_cases e:v=s
   ·rw[if_pos e,if_pos Z];exact⟨by rw[e],(w.zero v f).2 e⟩
   ·rw[if_neg e,if_neg (by decide)];have h0:=E.nn v f;have h2:=E.lt v f;have av:D d v≠0:=λq=>e ((w.zero v f).1 q);refine⟨by dsimp only;omega,?_⟩
    obtain⟨u,X,⟨i,J,ar⟩,ab⟩:=w.near v f (by omega);obtain⟨u',aw,ap,hn⟩:=B f J;obtain rfl:u=u':=by omega
    refine⟨i,J,?_⟩
    show(VJ g l v i).2=wI .i64 ((SL l v).2 - 1);rw[hn,show SL l v=_ from m v f];dsimp only;rw[wr (by omega) (by omega),ab]
 obtain⟨r0,af,T⟩:=Rn k Y R H;obtain rfl:=T.2 M;unfold jQ;rw[bM (show sN 1000 2 (g.1,g.2) st=_ from ae)];dsimp only;rw[if_neg (by decide),bM (show iY 1000 2 (g.1,g.2) st l=_ from af),if_neg (by decide),decide_eq_false (by omega)];unfold gX;rw[if_neg (by decide)];refine eB (step:=fK 1000 a g (0,j.1,j.2.1,j.2.2.1,j.2.2.2.1,j.2.2.2.2,r.1,r.2,c) st (l,0)) (K:=some true) g.2.length (λv:Nat=>(v:Int)) (λv ag f=> ?_) (λag=> ?_) 1000 (by omega)
 ·have aa:=y v f;have hl:=m v f;unfold fK jR;dsimp only;rw[if_pos (by omega),cV (by omega),cV (by omega),cV (by omega),hl,c0 v f,if_neg (by intro q;exact q Z),cV (by omega),cV (by omega),cV (by omega),c1 v f,decide_eq_false (by intro q;exact q Z),if_neg (by decide),eY (by omega)]
 ·have w1:=Int.emod_nonneg a (show(g.2.length:Int)≠0 by omega);have w2:=Int.emod_lt_of_pos a (show 0<(g.2.length:Int) by omega);unfold fK nL gY;dsimp only;rw[if_neg (by omega),bM (tI a _ (by omega) (by omega))];obtain⟨o,ho⟩:∃o:Nat,a%(g.2.length:Int)=(o:Int):=⟨(a%(g.2.length:Int)).toNat,by omega⟩
  rw[ho]at w2 ⊢;have t:o<g.2.length:=by omega
  have ai:=I o t;have aj:wI .i64 (1 - at' st (o:Int))=1 - Il s o:=by
   rw[ai];unfold Il;split<;>rfl
  rw[cV (by omega),cV (by omega),bM (show tW 1000=some true from rfl),if_pos Z,aj,Int.toNat_natCast];have P:∀v:Nat,at' (st.set o (1 - Il s o)) (v:Int)=if v=o then 1 - Il s o else at' st (v:Int):=λv=>zY _ _ _ _ (by omega);have an:∀v:Nat,v<g.2.length->at' (st.set o (1 - Il s o)) (v:Int)=0∨at' (st.set o (1 - Il s o)) (v:Int)=1:=λv f=>by
   rw[P];split
   ·unfold Il;split
    ·exact .inl Z
    ·exact .inr Z
   ·exact H v f
  obtain⟨r1,ah,U⟩:=Rn k (st:=st.set o (1 - Il s o)) (by rw[List.length_set];exact Y) R an;rw[bM (show iY 1000 2 (g.1,g.2) (st.set o (1 - Il s o)) l=_ from ah)];refine congrArg some (decide_eq_true (p:=r1≠0) λq=> ?_);obtain⟨_,q⟩:=U.1 q o t;rw[P,if_pos Z,show SL l o=_ from m o t]at q;unfold Il at q;by_cases e:o=s
  ·rw[if_pos e,if_neg (by decide)]at q;have:=(w.zero o t).2 e;have:=q.1;dsimp only at this;omega
  ·rw[if_neg e,if_pos (by decide)]at q;exact Yu k L t (λh=>e h.symm) q.1
end Go.Proofs.YtjkjpdonlpdcaaaGreatDoor
namespace Go.Sx
open Go.RowKit Go.ChangeShapes Go.WideShapes Go.ChangeAt Go.Proofs Go.Joins Go.Deep
section
variable {H:Type} {enc:TypeId×Value->H} {P:Program} {w:World} {base:Nat} {spare:Nat->Bool} {held:Bool}
theorem JV {a:Type} (l:List a) (d:a):l=(List.range l.length).map λi=>l.getD i d:=by
 apply List.ext_getElem?;intro i;by_cases h:i<l.length
 ·simp[h]
 ·simp[h]
theorem VS {r:Reach} {x:Nat} {t:TypeId} {b:Array Field} {v:Value} {d:DataW H} {p:List MemPlace} (s:P.underlying t=some (.struct b)) (c:oneCellFields P b=true) (z:P.cellsOf t=b.size)
  (E:Value.okWide P w r x t v) (h:DataW.Trod enc P w base spare held t v d p):
  ∃(V:Nat->Value) (Y:Nat->DataW H×List MemPlace) (n:Nat),v = .agg ((List.range b.size).map V).toArray∧∀(i:Nat) (f:Field),b[i]? = some f->DataW.trod enc P w base spare held n f.type [V i]=some (Y i):=by
 obtain⟨a,rfl,l⟩:=okWide_struct s E;obtain⟨m,A⟩:=h;obtain⟨u,n,_,_,_,q,B⟩:=DataW.trod_struct s A;refine⟨λi=>a.toList.getD i undef,λi=>u.getD i (.nil,[]),n,?_,λi f j=> ?_⟩
 ·congr 1;apply Array.toList_inj.1;show a.toList=(List.range b.size).map λi=>a.toList.getD i undef;have y:b.size=a.toList.length:=by rw[<-z,<-l];rfl
  rw[y];exact JV a.toList undef
 ·have D:i<b.size:=(Array.getElem?_eq_some_iff.1 j).1;obtain⟨o,k⟩:=hone_of c i f j;have g:=B i f j;have e:(Value.cells (.agg a)).toList=a.toList:=rfl;have C:i<a.toList.length:=by rw[Array.length_toList];omega
  rw[o,k,e,take1_drop _ _ undef C]at g;rw[g];have F:i<u.length:=by omega
  simp[F]
theorem Vu {k:IntKind} {e:TypeId} (a:P.underlying e=some (.int k)) {n:Nat} {v:Value} {x:DataW H×List MemPlace} (h:DataW.trod enc P w base spare held n e [v]=some x):∃y:Int,v = .int k y:=by
 obtain⟨y,b,_,_⟩:=DataW.trod_int a h;exact⟨y,by simpa using b⟩
theorem KA {e:TypeId} (a:P.underlying e=some .bool) {n:Nat} {v:Value} {x:DataW H×List MemPlace} (h:DataW.trod enc P w base spare held n e [v]=some x):∃y:Bool,v = .bool y:=by
 obtain⟨y,b,_⟩:=DataW.trod_bool a h;exact⟨y,by simpa using b⟩
end
end Go.Sx
section
set_option maxRecDepth 100000
namespace Go.Sx
open Go.RowKit Go.ChangeShapes Go.WideShapes Go.ChangeAt Go.Proofs Go.Joins
theorem Pk {P:Program} {W:World} {n:String} {b m t B:Nat} {k:IntKind} {a:aT} (h:laidMet P [(n,.agg (a.map λx=> .lit (.int k x)))] W) (I:P.globalNamed n=some b)
  (ht:(P.globals[b]?).map (·.type)=some t) (hu:P.underlying t=some (.array m B)) (w:P.underlying B=some (.int k)) (S:P.cellsOf B=1) (u:P.cellsOf t=m) (hm:0<m):(Gb b (cellsOf (eK.int k) a)).p W (λ_=>True):=by
 obtain⟨ps,⟨g,t2,j,F,p,q,C,D,E,M,e5,N⟩,aa,d⟩:=h;rw[I]at C;cases C;rw[ht]at D;cases D;refine⟨trivial,?_⟩
 obtain⟨L,ml,_,l,Y,y,V⟩:=DataW.trod_array hu M;simp only[Prod.mk.injEq,DataW.agg.injEq]at l;have e:a.length=m:=by rw[<-y];simpa using congrArg List.length l.1
 have U:j.size=m:=by rw[<-u,<-Y];simp
 have v:j.toList=cellsOf (eK.int k) a:=by
  refine List.ext_getElem? λi=> ?_;by_cases X:i<m
  ·have o:=V i X;rw[S,Nat.mul_one]at o;have J:a[i]? = some (a[i]'(by omega)):=List.getElem?_eq_getElem _;have G:=wQ (eK.int k) a i _ J 0 _ Z;rw[show i*(eK.int k).sz+0=i from Nat.mul_one i]at G;rw[G];have K:L[i]? = some (L[i]'(by omega)):=List.getElem?_eq_getElem _;rw[K]at o;obtain⟨z,hz,A,_⟩:=DataW.trod_int w o;have s:j.toList[i]? = some (.int k z):=by
    have:=congrArg (·[0]?) hz;simpa [List.getElem?_take,List.getElem?_drop]using this
   rw[s];have r:=congrArg (·[i]?) l.1;simp only[List.getElem?_map,J,K,Option.map_some,Option.some.injEq]at r;rw[A]at r;have O:a[i]=z:=by simpa using r
   rw[O]
  ·rw[List.getElem?_eq_none (by simp;omega),List.getElem?_eq_none (by rw[eF,e];show m*1<=i;omega)]
 have f:MemPlace.cell b 0∈ps:=by
  rw[N];refine List.mem_append_left _ (List.mem_append_left _ ?_);exact List.mem_map.2 ⟨0,by simp;omega,rfl⟩
 obtain⟨⟨c,T,H⟩,_⟩:=d b 0 f;refine⟨T,?_⟩
 have Q:c=j:=by
  have R:(W.var? P n)=some c:=by unfold World.var?;rw[I];simp[H]
  rw[R]at E;exact Option.some.inj E
 rw[H,Q,<-v]
theorem Nw {H:Type} {enc:TypeId×Value->H} {os:Os} (D:List (String×DataW Unit)) (N:(D.all λx=>x.2.handleName?.isNone)=true) (l:os.Started) {f:FuncId} {c:Func} {s:ChangeSpec} {r:Bool} (L:Tryz.prog.funcs[f]? = some c) (n:Tryz.prog.inits.idxOf? f=none)
  (o:(c.params.toList.all λt=>Tryz.prog.readableRec t&&decide (t<Tryz.prog.types.size))=true) (A:c.resultTypes = #[4]) (k:s.vars=[])
  (u:∀a:List (DataW H),a.length=c.params.toList.length->s.fn H a={results:=[.lit (.bool true)],args:=a})
  (m:∃(w:World) (b:Tape) (i:Input),w.os=os∧(w.forCall b i).Shaped Tryz.prog∧i.vars=[]∧Input.okWide Tryz.prog (w.forCall b i) .any w.heap.size f i∧
   ((s.pre enc Tryz.prog c [] false (w.forCall b i).memory i.args∧laidMetH Tryz.prog D (w.forCall b i).memory)∧sizedMet enc Tryz.prog c (OpenSpec.ofChange s) false (w.forCall b i).memory i.args)∧({}:Assume).holds Tryz.prog (lone (Frame.enter Tryz.prog f i.args .normal) [] (w.forCall b i)))
  (E:∀(W:World) (g:Nat) (args:Array Value) (a:List (DataW H)) (p:List MemPlace),laidMetH Tryz.prog D W->(∀(j:Nat) t v,c.params[j]? = some t->args[j]? = some v->Value.okWide Tryz.prog W .any g t v)->
   DataW.TrodAll enc Tryz.prog W 0 (λ_=>true) true c.params.toList args.toList a p->Calls Tryz.prog f args W λe P=>e = .returned (.bool true)∧Lb W P):
  ReturnsInHanded {} Go.Proofs.YtjkjpdonlpdcaaaGreatDoor.Tryz.pinned.checked os f .any (λw args=>(s.pre enc Tryz.prog c [] false w args∧laidMetH Tryz.prog D w)∧sizedMet enc Tryz.prog c (OpenSpec.ofChange s) false w args) (s.post enc Tryz.prog c false r false false):=by
 refine returnsInHanded_of_change_and (C:=Go.Proofs.YtjkjpdonlpdcaaaGreatDoor.Tryz.pinned.checked) (X:=λw _=>laidMetH Tryz.prog D w) (λ_ _ _ U h=>by rw[MakeChecks.laidMetH_plain _ _ _ N]at h ⊢;exact h.of_heap U) agX l n L m ?_;intro W g args a Y G B J _ _ T _;have M:=J.lt;have K:=J;obtain⟨p,q,I,Q,rfl,_,_⟩:=J;rw[k]at Q;obtain⟨rfl,rfl⟩:=trodVars_none Q;refine(E W g args a p T B I).mono ?_;rintro e P ⟨rfl,R⟩;refine⟨_,rfl,?_⟩
 have z:a.length=c.params.toList.length:=by
  have:∀(F:List TypeId) (y:iP) (a:List (DataW H)) (p:List MemPlace),DataW.TrodAll enc Tryz.prog W 0 (λ_=>true) true F y a p->a.length=F.length:=by
   intro F
   induction F with
   |nil=>intro y a p h;cases y<;>cases a<;>first|rfl|exact h.elim
   | cons t F ih =>
    intro y a p h;cases y with
    |nil=>exact h.elim
    |cons v y=>
     cases a with
     |nil=>exact h.elim
     |cons d a=>obtain⟨_,_,_,S,_⟩:=h;simp[ih y a _ S]
  exact this _ _ _ _ I
 have O:s.fn H (a++[])={results:=[.lit (.bool true)],args:=a}:=by rw[List.append_nil];exact u a z
 refine⟨a,[],p++[],[],p,[],K,?_,?_,?_,R.frame _,λh=>by cases h⟩
 ·rw[O,A];exact trodAll_mk1 (shut_bool Tryz.underlying4 true)
 ·rw[O];exact EG adr R _ _ _ _ o I (λx V=>M x (List.mem_append_left _ V))
 ·rw[O,k];exact rfl
theorem SN {P:Program} {n:String} {k:IntKind} {a:aT} {W:World} (h:laidMetH P [(n,.agg (a.map λx=> .lit (.int k x)))] W):laidMet P [(n,.agg (a.map λx=> .lit (.int k x)))] W:=by
 rw[MakeChecks.laidMetH_plain _ _ _ (by rfl)]at h;exact h
end Go.Sx
end
