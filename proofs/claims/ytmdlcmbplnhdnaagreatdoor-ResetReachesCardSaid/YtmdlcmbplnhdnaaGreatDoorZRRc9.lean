/- Models and proofs. Conditions: none. -/
import Derived.Test.YtmdlcmbplnhdnaaGreatDoorZRRc6
import Derived.Test.YtmdlcmbplnhdnaaGreatDoorZRRc8
import Derived.Test.YtmdlcmbplnhdnaaGreatDoorZRRc7
import Derived.Test.YtmdlcmbplnhdnaaGreatDoorZRRc5
import Derived.Test.YtmdlcmbplnhdnaaGreatDoorZRRc2
set_option linter.unusedVariables false
set_option linter.unusedSimpArgs false
set_option maxHeartbeats 4000000
set_option maxRecDepth 20000
namespace Go.Proofs.YtmdlcmbplnhdnaaGreatDoor
open Go.Sx
def GU  (a:acC):Option Bu:=
 if a.2.2.2.2.2.1≠(0:Int)then(some (([]:zY),([]:Dk),a.2.2.2.2.2.1))else(some (a.2.2.2.2.2.2.2.2.2.2,a.2.2.2.2.2.2.2.2.2.1,(0:Int)))
def AJ  (a:acD):Option Bu:=
 GU  (a.2.2.2.2.2.1,a.2.2.2.2.2.2.1,a.2.2.2.2.2.2.2.1,a.2.2.2.2.2.2.2.2.1,a.2.2.2.2.2.2.2.2.2.1,a.2.2.2.2.2.2.2.2.2.2,a.2.2.1,a.2.2.2.1,a.2.2.2.2.1,a.1,a.2.1)
def xU  (a:aS×Int×Int×Int×Int×Int×bG×aS×(List (Int×Int×Int×Int×Int))×List bG):Option Bu:=
 AJ  (a.2.2.2.2.2.2.2.2.1,a.2.2.2.2.2.2.2.2.2,a.2.2.2.2.2.2.2.1,a.1,a.2.2.2.2.2.2.1,a.2.1,a.2.2.1,a.2.2.2.1,a.2.2.2.2.1,a.2.2.2.2.2.1,(0:Int))
def CW (e:Mz) (b:Zf) (f:Ze->Option Bu) (d:Int) (h:bG) (c:Int) (a:(Int×Int×Int×Int×Int)×Int) (g:zY):Option Bu:=
 ck ((List.length b.2.2.2.2.2.2.2.2.2.1:Int)+(List.length ([d]):Int)<=1099511627) (ck ((List.length b.2.1:Int)+(List.length ([(eB .u32 c e.1)]):Int)<=1099511627) (f ((eB .u32 c e.1),(b.2.1++([(eB .u32 c e.1)])),(wI .i64 (b.2.2.1+(1:Int))),a.1.1,a.1.2.1,a.1.2.2.1,a.1.2.2.2.1,a.1.2.2.2.2,h,(b.2.2.2.2.2.2.2.2.2.1++[d]),(b.2.2.2.2.2.2.2.2.2.2.1++([(a.1.1,a.1.2.1,a.1.2.2.1,a.1.2.2.2.1,a.1.2.2.2.2)])),g)))
def CV (U:Nat) (e:xZ) (k:cF) (l:Int) (c:Mz) (a:Zf) (i:Ze->Option Bu) (d:Int):Option Bu:=
 if¬(a.1≠(0:Int))then(xU  (a.2.1,a.2.2.2.1,a.2.2.2.2.1,a.2.2.2.2.2.1,a.2.2.2.2.2.2.1,a.2.2.2.2.2.2.2.1,a.2.2.2.2.2.2.2.2.1,a.2.2.2.2.2.2.2.2.2.1,a.2.2.2.2.2.2.2.2.2.2.1,a.2.2.2.2.2.2.2.2.2.2.2))else(Option.bind (fX U c.2.1 l a.1 d) λj=>(if(!j)=true then(AJ  (a.2.2.2.2.2.2.2.2.2.2.1,a.2.2.2.2.2.2.2.2.2.2.2,([]:aS),([]:aS),([]:bG),(0:Int),(0:Int),(0:Int),(0:Int),(0:Int),(11:Int)))else(Option.bind (jM U ((((e.1,e.2.1,e.2.2)),((((e.1,e.2.1,e.2.2)),((k.1,k.2)),c.2.2.2.1,c.2.2.2.2)),c.2.2.1)) a.2.2.2.2.2.2.2.2.1 d) λf=>(Option.bind (dB U ((((e.1,e.2.1,e.2.2)),((((e.1,e.2.1,e.2.2)),((k.1,k.2)),c.2.2.2.1,c.2.2.2.2)),c.2.2.1)) f) λg=>(Option.bind (gC U ((a.2.2.2.1,a.2.2.2.2.1,a.2.2.2.2.2.1,a.2.2.2.2.2.2.1,a.2.2.2.2.2.2.2.1)) d (eB .u32 g c.1)) λb=>(Option.bind (mM U f) λh=>(ck ((List.length a.2.2.2.2.2.2.2.2.2.2.2:Int)+(List.length (([]:zY)++[h]):Int)<=1099511627) (ck ((List.length a.2.2.2.2.2.2.2.2.2.2.1:Int)+(List.length ([(b.1.1,b.1.2.1,b.1.2.2.1,b.1.2.2.2.1,b.1.2.2.2.2)]):Int)<=1099511627) (CW c a i d f g b (a.2.2.2.2.2.2.2.2.2.2.2++(([]:zY)++[h])))))))))))
def tT (U:Nat) (g:xZ) (h:cF) (f:Int) (e:aS) (c:Mz) (a:Zf) (b:Ze->Option Bu):Option Bu:=
 if a.2.2.1<(List.length e:Int)then(ck (0<=a.2.2.1∧a.2.2.1<(List.length e:Int)) (Option.bind (eZ U c.2.1 f a.1 (at' e a.2.2.1)) λd=>(CV U g h f c a b (d))))else(xU  (a.2.1,a.2.2.2.1,a.2.2.2.2.1,a.2.2.2.2.2.1,a.2.2.2.2.2.2.1,a.2.2.2.2.2.2.2.1,a.2.2.2.2.2.2.2.2.1,a.2.2.2.2.2.2.2.2.2.1,a.2.2.2.2.2.2.2.2.2.2.1,a.2.2.2.2.2.2.2.2.2.2.2))
def CU (U:Nat) (f:xZ) (g:cF) (h:Int) (i:aS) (b:Mz) (e:bG) (c:Int) (a:(Int×Int×Int×Int×Int)) (d:zY):Option Bu:=
 ck ((List.length ([]:aS):Int)+(List.length ([(eB .u32 c b.1)]):Int)<=1099511627) (bI (tT U f g h i b) U ((eB .u32 c b.1),(([]:aS)++([(eB .u32 c b.1)])),(0:Int),a.1,a.2.1,a.2.2.1,a.2.2.2.1,a.2.2.2.2,e,([]:aS),(([]:Dk)++([(a.1,a.2.1,a.2.2.1,a.2.2.2.1,a.2.2.2.2)])),d))
def CS (U:Nat) (d:xZ) (g:cF) (h:Int) (i:bG) (j:aS) (b:Mz):Option Bu:=
 Option.bind (mM U i) λe=>(Option.bind (dB U ((((d.1,d.2.1,d.2.2)),((((d.1,d.2.1,d.2.2)),((g.1,g.2)),b.2.2.2.1,b.2.2.2.2)),b.2.2.1)) e) λf=>(Option.bind (vC U (eB .u32 f b.1)) λa=>(Option.bind (mM U e) λc=>(ck ((List.length ([]:zY):Int)+(List.length (([]:zY)++[c]):Int)<=1099511627) (ck ((List.length ([]:Dk):Int)+(List.length ([(a.1,a.2.1,a.2.2.1,a.2.2.2.1,a.2.2.2.2)]):Int)<=1099511627) (CU U d g h j b e f a (([]:zY)++(([]:zY)++[c]))))))))
def AK (U:Nat) (e:xZ) (b:cF) (f:Int) (g:bG) (h:aS) (a:fP×Int×bG):Option Bu:=
 Option.bind (oI U ((b.1,b.2))) λc=>(Option.bind (zT U ((b.1,b.2))) λd=>(CS U e b f g h (d,c,a.1,a.2.1,a.2.2)))
def AL (U:Nat) (c:xZ) (d:cF) (e:Int) (f:bG) (g:aS) (a:Int×bG):Option Bu:=
 Option.bind (jW U ((c.1,c.2.1,c.2.2)) ((d.1,d.2))) λb=>(AK U c d e f g (b,a.1,a.2))
def uO (U:Nat) (b:xZ) (c:cF) (d:Int) (e:bG) (f:aS) (a:Int×bG):Option Bu:=
 AL U b c d e f (a.1,a.2)
def zD (d:cF) (a:Int×Int×bG) (b:(Int×Int×bG)->Option Bu) (c:bG):Option Bu:=
 b ((wI .i64 (a.1+(1:Int))),(max a.2.1 (at' d.1 a.1)),c)
def tU (U:Nat) (f:cF) (a:Int×Int×bG) (d:(Int×Int×bG)->Option Bu) (b:Int×bG) (e:(Int×bG)->Option Bu):Option Bu:=
 if b.1<(List.length (at' f.2 a.1):Int)then(ck (0<=b.1∧b.1<(List.length (at' f.2 a.1):Int)) (ck (0<=a.1∧a.1<(List.length b.2:Int)) (Option.bind (nG U ((f.1,f.2)) ((at' (at' f.2 a.1) b.1).1) a.1) λc=>(ck ((List.length (at' b.2 a.1):Int)+(List.length ([c]):Int)<=1099511627) (ck (0<=a.1∧a.1<(List.length (List.set b.2 (Int.toNat a.1) ((at' b.2 a.1)++[c])):Int)) (e ((wI .i64 (b.1+(1:Int))),(List.set b.2 (Int.toNat a.1) ((at' b.2 a.1)++[c])))))))))else(zD f a d (b.2))
def oW (U:Nat) (d:xZ) (c:cF) (e:Int) (f:bG) (g:aS) (a:Int×Int×bG) (b:(Int×Int×bG)->Option Bu):Option Bu:=
 if a.1<(List.length c.2:Int)then(ck (0<=a.1∧a.1<(List.length c.2:Int)) (ck (0<=a.1∧a.1<(List.length c.1:Int)) (bI (tU U c a b) U ((0:Int),a.2.2))))else(uO U d c e f g (a.2.1,a.2.2))
def wH (U:Nat) (b:xZ) (a:cF) (c:Int) (d:bG) (e:aS):Option Bu:=
 Option.bind (zV U ((b.1,b.2.1,b.2.2)) ((a.1,a.2)) c d (List.length e:Int)) λf=>(if f≠(0:Int)then(some (([]:zY),([]:Dk),f))else(ck (0<=(List.length a.2:Int)∧(List.length a.2:Int)<=1099511627) (bI (oW U b a c d e) U ((0:Int),(0:Int),(List.replicate (Int.toNat (List.length a.2:Int)) ([]:aS))))))
theorem adn:aV Tryz.prog 29:=Tryz.call29
theorem Qr (U:Nat) {s:xZ} {G:cF} {R:Int} {p3:bG} {p4:aS} (u:Value)  (v:Value)  (E:Value)  (D:Value)  (z4:kH)  (v5:Value)  (z6:sD)  (v7:Value) (r:List bG×(List (Int×Int×Int×Int×Int))×Int) (h:wH U s G R p3 p4=some r):
  aX Tryz.prog 29 #[Value.agg #[vS (s.1),u,v],Value.agg #[E,D],vI (R),v5,v7] [Sl aQ u s.2.1,Sl aJ v s.2.2,PF (Value.agg #[vS s.1,u,v]),Sl bP E G.1,S2 a_ D z4 G.2,S2 bP v5 z6 p3,Sl zP v7 p4,Gb 0 (cellsOf Hn wP)] (λx:Value×List Value×List (List Value)×Value=>Value.tuple #[x.1,x.2.2.2,vI (r.2.2)]) (λx l=>Ar cZ.raw x.1 x.2.1::Lh b_ x.2.1 x.2.2.1 r.1::Ar bZ x.2.2.2 r.2.1::l) (λ_ l=>l):=by
 refine aX.of Tryz.func29 Z Tryz.ntmps29 Z λc=>?_;refine aW<|aG (aN.box (cs:=[vS (s.1),u,v]) Z Z) Z λb1=>aG (aN.box (cs:=[E,D]) Z Z) Z λb2=>aC Z<|aC Z<|aC Z<|aM<|aK<|aW<|dV 1 Z<|dV 0 Z<|aA Z<|aA Z<|aA Z<|jB (aE.fact 6 Z) Z<|eX h λr3 w4 h=>aG (aN.callQ adx (Qs U u v E D z4 v5 z6 r3 w4) Z (n_ [0,1,2,3,4,5] Z)) Z λx5=>aC Z<|aM<|aW<|aA Z<|rF Z<|aM ?_;refine fE h Z (λh=>?_) λh=>?_
 ·refine aW<|aA Z<|aC Z<|aC Z<|aC Z<|aM<|aU<|aI<|i_ (f_ cZ.raw) (i_ (AS b_) ?_);refine i_ (f_ bZ) ?_;cases h;exact IP ((lF),([]:fR),([]:List (List Value)),(lF)) Z Z (RV.tmp Z) (RV.tmp Z) (RV.tmp Z) (aY.ix [2,1,0] Z Z) aF.nil
 refine cK<|aW<|aG (aN.alloc (cs:=[lF]) Z Z) Z λM=>aM<|aW<|aG (aN.alloc (cs:=[lF]) Z Z) Z λN=>aM<|aW<|dV 3 Z<|dV 2 Z<|aA Z<|aB (yM (cs:=[.tmp 14,.tmp 15]) (vs:=[vP M,vP N]) Z) Z<|AP (A:=Mz) (B:=Nat×Value×Nat×Value×List Value×Value×List Value) (vs:=[Value.agg #[vS (s.1),u,v],Value.agg #[E,D],vI (R),Value.func (.func 52) #[] #[vP M,vP N]]) (λg=>CS U s G R p3 p4 g=some r) (λg a=>Value.agg #[vP a.1,a.2.1,vI (R),vU (g.1),Value.func (.func 52) #[] #[vP M,vP N]]) (λg a=>[Ar pP a.2.1 g.2.1,bV a.1 [vS (s.1),u,v,vP a.2.2.1,a.2.2.2.1] 108,Ar cZ.raw a.2.2.2.1 a.2.2.2.2.1,lD cB a.2.2.2.2.1 g.2.2.1,bV a.2.2.1 [vS (s.1),u,v,E,D,vI (g.2.2.2.1),a.2.2.2.2.2.1] 137,Ar cZ.raw a.2.2.2.2.2.1 a.2.2.2.2.2.2,lD b_ a.2.2.2.2.2.2 g.2.2.2.2,bV N [lF] 33,bV M [lF] 32]) (λg a=>[Sl aQ u s.2.1,Sl aJ v s.2.2,PF (Value.agg #[vS s.1,u,v]),Sl bP E G.1,S2 a_ D z4 G.2,S2 bP v5 z6 p3,Sl zP v7 p4,Gb 0 (cellsOf Hn wP)]) (sG.fn (show aV Tryz.prog 51 from Tryz.call51) Z) Tryz.func51 Z Tryz.ntmps51 Z Z ?_ ?_
 ·refine aW<|aG (aN.box (cs:=[vS (s.1),u,v]) Z Z) Z λaf=>aG (aN.box (cs:=[E,D]) Z Z) Z λag=>aG (aN.alloc (cs:=vD1) Z Z) Z λah=>aM<|aK ?_;refine JR.start [0,0,3,0,15,0,0,95,0,511,1023] 9 mixedOrders (by decide +kernel) ?_;refine JR.open (by exact rfl) ?_;refine mA 2 Z<|mA 1 Z<|MU (A:=fP×Int×bG) (B:=Nat×Nat×Value×List Value×Value×List Value) (vs:=[Value.agg #[vS (s.1),u,v],Value.agg #[E,D]]) (λP=>AK U s G R p3 p4 P=some r) (λP t=>vP t.1) (λP t=>[bV t.1 [vS (s.1),u,v,vP t.2.1,t.2.2.1] 108,Ar cZ.raw t.2.2.1 t.2.2.2.1,lD cB t.2.2.2.1 P.1,bV t.2.1 [vS (s.1),u,v,E,D,vI (P.2.1),t.2.2.2.2.1] 137,Ar cZ.raw t.2.2.2.2.1 t.2.2.2.2.2,lD b_ t.2.2.2.2.2 P.2.2,bV ah vD1 97,bV ag [E,D] 29,bV af [vS (s.1),u,v] 60,bV N [lF] 33,bV M [lF] 32]) (λP t=>[Sl aQ u s.2.1,Sl aJ v s.2.2,PF (Value.agg #[vS s.1,u,v]),Sl bP E G.1,S2 a_ D z4 G.2,S2 bP v5 z6 p3,Sl zP v7 p4,Gb 0 (cellsOf Hn wP)]) Z Z Z (sG.fn (show aV Tryz.prog 43 from Tryz.call43) Z) Tryz.func43 Z Tryz.ntmps43 Z Z (λ_ _=>(t_ [] Z)) ?_ ?_
  ·refine aW<|aG (aN.box (cs:=[vS (s.1),u,v]) Z Z) Z λar=>aG (aN.box (cs:=[E,D]) Z Z) Z λau=>aC Z<|aM<|aK ?_;refine JR.start [0,0,0,6,0,0,62,127,255,511] 7 mixedOrders (by decide +kernel) ?_;refine JR.open (by exact rfl) ?_;refine mA 1 Z<|mA 1 Z<|mA 0 Z<|MU (A:=Int×bG) (B:=Nat×Value×List Value) (vs:=[Value.agg #[vS (s.1),u,v],Value.agg #[E,D]]) (λS=>AL U s G R p3 p4 S=some r) (λS I=>vP I.1) (λS I=>[bV I.1 [vS (s.1),u,v,E,D,vI (S.1),I.2.1] 137,Ar cZ.raw I.2.1 I.2.2,lD b_ I.2.2 S.2,bV au [E,D] 29,bV ar [vS (s.1),u,v] 60,bV ah vD1 97,bV ag [E,D] 29,bV af [vS (s.1),u,v] 60,bV N [lF] 33,bV M [lF] 32]) (λS I=>[Sl aQ u s.2.1,Sl aJ v s.2.2,PF (Value.agg #[vS s.1,u,v]),Sl bP E G.1,S2 a_ D z4 G.2,S2 bP v5 z6 p3,Sl zP v7 p4,Gb 0 (cellsOf Hn wP)]) Z Z Z (sG.fn (show aV Tryz.prog 66 from Tryz.call66) Z) Tryz.func66 Z Tryz.ntmps66 Z Z (λ_ _=>(t_ [([4],[])] Z)) ?_ ?_
   ·refine aW<|aG (aN.box (cs:=[vS (s.1),u,v]) Z Z) Z λc7=>aG (aN.box (cs:=[E,D]) Z Z) Z λai=>aC Z<|aM<|aK ?_;refine JR.start [0,0,0,4,12,28,63,127,255] 6 mixedOrders (by decide +kernel) ?_;refine JR.open (by exact rfl) ?_;refine mA 1 Z<|mA 0 Z<|cY Z<|iS 0 Z<|bK Z .nil (lC 4 Z) (iY Z (aE.fact 0 Z) Z) aL.z<|dD h λcj h=>JR.stp (wB b_ (Int.toNat (List.length G.2:Int)))<|JR.loud Z Z Z (qP (e:=cZ.raw) (lF) Z Z Z Z cj Z Z Z) Z (λL=>(t_ [([2],[]),([3],[])] Z)) λL=>bM 6 Z Z<|cD (Know.one (aE.sl (bT (i:=0) (j:=1) Z Z dY))) λbS=>?_;refine aB (MY (r:=Value.agg #[vS (s.1),u,v,E,D,vI (0:Int),L]) Z Z Z (by intro w;simp[Instr.build,Instr.fill,dL,cT,cM,dM,dN,cU,eQ,fL bS])) Z ?_;refine aG (aN.box (cs:=[vS (s.1),u,v,E,D,vI (0:Int),L]) Z Z) Z λT=>aC Z<|aM<|aK<|Ch (B:=fR) (λX=>uO U s G R p3 p4 X=some r) (λX av=>[(5,vP T)]) (λX av=>[bV T [vS (s.1),u,v,E,D,vI (X.1),L] 137,Ar cZ.raw L av,lD b_ av X.2,bV au [E,D] 29,bV ar [vS (s.1),u,v] 60,bV ah vD1 97,bV ag [E,D] 29,bV af [vS (s.1),u,v] 60,bV N [lF] 33,bV M [lF] 32]) ?_ ?_
    ·refine aW<|bU Z<|dK 3 Z<|aB (iY Z (aE.fact 4 Z) Z) Z<|aA Z<|aM<|aT<|dZ (B:=fR) (oW U s G R p3 p4) (λo aj=>[(3,vP ai),(5,vP T),(19,D),(20,vI (List.length G.2:Int)),(21,vI (o.1))]) (λo aj=>[bV T [vS (s.1),u,v,E,D,vI (o.2.1),L] 137,Ar cZ.raw L aj,lD b_ aj o.2.2,bV ai [E,D] 29,bV au [E,D] 29,bV ar [vS (s.1),u,v] 60,bV ah vD1 97,bV ag [E,D] 29,bV af [vS (s.1),u,v] 60,bV N [lF] 33,bV M [lF] 32]) ((0:Int),(0:Int),(List.replicate (Int.toNat (List.length G.2:Int)) ([]:aS))) (List.replicate (Int.toNat (List.length G.2:Int)) (lF)) h SF (aY.ix [0,1,2,3,5,6,7,8,9,10,11] Z Z) ?_;intro bi o aj h;refine aW<|cO Z<|aM<|aK ?_;refine fE h Z (λh=>?_) λh=>?_
     ·refine cK<|aK<|Ch (B:=fR) (λae=>zD G o (bI (oW U s G R p3 p4) bi) ae=some r) (λae aw=>[(3,vP ai),(5,vP T),(19,D),(20,vI (List.length G.2:Int)),(21,vI (o.1))]) (λae aw=>[bV T [vS (s.1),u,v,E,D,vI (max o.2.1 (at' G.1 o.1)),L] 137,Ar cZ.raw L aw,lD b_ aw ae,bV ai [E,D] 29,bV au [E,D] 29,bV ar [vS (s.1),u,v] 60,bV ah vD1 97,bV ag [E,D] 29,bV af [vS (s.1),u,v] 60,bV N [lF] 33,bV M [lF] 32]) ?_ ?_
      ·refine aT<|aW<|aA Z<|dD h λaa h=>aB (cH Z Z (aE.fact 4 Z) Z Z aa) Z<|aB (cG Z (aE.fact 4 Z) Z Z aa) Z<|aC Z<|aC Z<|aM<|aK ?_;refine JR.start [0,0,2,6,14,0,32,0,224,480,1022,2047,4095,8191] 11 mixedOrders (by decide +kernel) ?_;refine JR.open (by exact rfl) ?_;refine bF Z<|bF Z<|iW Z (bW Z)<|cY Z<|iS 0 Z<|cY Z<|iS 3 Z<|bF Z<|dD h λbf h=>bK Z .nil (lC 3 Z) (aZ Z Z (aE.fact 0 Z) Z Z bf) aL.z<|bK Z .nil (lC 3 Z) (bX Z (aE.fact 0 Z) Z Z Z dG bf) aL.z<|iW Z (Ie Z Z)<|bM 11 Z Z<|aB (bW Z) Z<|bU Z<|gZ 0 Z Z Z Z Z Z<|aM<|aW<|aA Z<|aB (gW Z (aE.el (aE.fact 4 Z) aa.1 aa.2) Z) Z<|aA Z<|aM<|aT<|dZ (B:=fR) (tU U G o (bI (oW U s G R p3 p4) bi)) (λK ak=>[(3,vP ai),(5,vP T),(6,vI (o.1)),(19,D),(20,vI (List.length G.2:Int)),(21,vI (o.1)),(39,(at' z4 o.1).1),(40,vI (List.length (at' G.2 o.1):Int)),(41,vI (K.1))]) (λK ak=>[bV T [vS (s.1),u,v,E,D,vI (max o.2.1 (at' G.1 o.1)),L] 137,Ar cZ.raw L ak,lD b_ ak K.2,bV ai [E,D] 29,bV au [E,D] 29,bV ar [vS (s.1),u,v] 60,bV ah vD1 97,bV ag [E,D] 29,bV af [vS (s.1),u,v] 60,bV N [lF] 33,bV M [lF] 32]) ((0:Int),o.2.2) (aj) h SF (aY.refl _) ?_;intro c9 K ak h;refine aW<|cO Z<|aM<|aK ?_;refine fE h Z (λh=>?_) λh=>?_
       ·refine cK<|aK<|aT<|aW<|dD h λbg h=>aB (aZ Z Z (aE.el (aE.fact 4 Z) aa.1 aa.2) Z Z bg) Z<|aB (iM (cs:=[vI ((at' (at' G.2 o.1) K.1).1),vI ((at' (at' G.2 o.1) K.1).2)]) Z (aE.el (aE.fact 4 Z) aa.1 aa.2) bR Z Z Z Z bg) Z<|aG (aN.alloc (cs:=Uv) Z Z) Z λc8=>bQ 0 (vs:=[vI ((at' (at' G.2 o.1) K.1).1),vI ((at' (at' G.2 o.1) K.1).2)]) Z Z Z Z Z Z<|aM ?_;refine JR.start [0,1,3,7,0,0,32,96,224,0,992,2016,0,0,8192,0,61440,126976,262112,524287,1048575] 19 mixedOrders (by decide +kernel) ?_;refine JR.open (by exact rfl) ?_;refine bF Z<|iW Z (bW Z)<|cY Z<|iS 1 Z<|bF Z<|bF Z<|iW Z (bW Z)<|cY Z<|iS 1 Z<|bF Z<|dD h λaR h=>d_ (dJ 3 Z) λbp=>?_;refine bK Z (aY.cons 2 Z .nil) .nil (iI 0 Z Z Z Z Z aR.1 (by have q1:=aR.2;have q2:=bp;(try simp only[List.length_set]at q1);(try simp only[List.length_set]at q2);(try simp only[List.length_set]);omega)) aL.z ?_;refine d_ (dJ 3 Z) λbq=>bK Z (aY.cons 2 Z .nil) .nil (lY 0 Z Z bq Z Z aR) aL.z<|mA 4 Z<|cY Z<|iS 0 Z<|bF Z<|eX h λax cR h=>JR.loud Z Z Z (aN.callQ Xc (Eo U E D z4 ax cR) Z (n_ [3,4] Z)) Z (λc0=>(t_ [([2],[]),([2],[]),([1],[]),([1],[])] Z)) λc0=>JR.loud Z Z Z (bY (e:=b_) ([ax]) [(0,vI (ax))] Z Z Z Z (lR (vI (ax)) Z) Z Z Z) Z (λcw=>(t_ [([3],[]),([3],[]),([2],[]),([2],[])] Z)) λcw=>dD h λck h=>JR.loud Z Z Z (oE 4 dY Z Z Z (bE (aE.res 0 Z) dY) Z Z Z Z aR ck Z) Z (λbo=>(t_ [([2],[])] Z)) λbo=>bM 19 Z Z<|dD h λab h=>cD (dJ 4 Z) λbr=>?_;refine aB (iI 3 Z Z Z Z Z ab.1 (by have q1:=ab.2;have q2:=br;(try simp only[List.length_set]at q1);(try simp only[List.length_set]at q2);(try simp only[List.length_set]);omega)) Z ?_;refine cD (zO 4 (k:=o.1) Z ⟨ab.1,by first|exact ab.2|simpa using ab.2⟩) λb0=>?_;refine oY 3 4 ⟨ab.1,by first|exact ab.2|simpa using ab.2⟩ Z Z Z Z Z (by simp) b0 Z ?_;refine eT<|mQ<|aO<|cI Z<|aA Z<|aM ?_;exact lK ((wI .i64 (K.1+(1:Int))),(List.set K.2 (Int.toNat o.1) ((at' K.2 o.1)++[ax]))) (List.set ak (Int.toNat o.1) bo) h SF (aY.ix [2,3,4,5,6,7,8,9,10,11,12] Z Z) (aF.refl _ _)
       refine qO<|eM<|eM<|wQ<|mQ ?_;exact gM (K.2) (ak) h SF Z
      intro ae aw h;unfold zD at h;refine aO<|cI Z<|aA Z<|aM ?_;exact yX ((wI .i64 (o.1+(1:Int))),(max o.2.1 (at' G.1 o.1)),ae) (aw) h SF Z
     refine fH ?_;exact cL (o.2.1,o.2.2) (aj) h SF (aY.ix [0,1,2,4,5,6,7,8,9,10] Z Z) (aF.refl _ _)
    intro X av h;unfold uO at h;refine aW<|aA Z<|aC Z<|aM<|aU ?_;exact sJ (X.1,X.2) (T,L,av) h (.inl Z) (Gj.r1 Z (RV.tmp Z)) Z (aY.refl _) (aF.refl _ _)
   intro S I h;unfold AL at h;refine bK Z (aY.cons 4 Z .nil) .nil (fW 0 Z Z Z Z) (aL.h (aY.ix [1] Z Z) .nil aL.z)<|bK Z (aY.cons 3 Z .nil) .nil (fW 0 Z Z Z Z) (aL.h (aY.ix [0] Z Z) .nil aL.z)<|eX h λbn cQ h=>JR.loud Z Z Z (aN.callQ RF (Bj U u v E D z4 bn cQ) Z (n_ [0,1,2,3,4] Z)) Z (λay=>(t_ [([6],[])] Z)) λay=>bM 7 Z Z<|cD (Know.one (aE.sl (bT (i:=0) (j:=1) Z Z bR))) λbO=>?_;refine aB (MY (r:=Value.agg #[vS (s.1),u,v,Value.pointer (some ⟨I.1,0,none⟩),ay.1]) Z Z Z (by intro w;simp[Instr.build,Instr.fill,dL,cT,cM,dM,dN,cU,eQ,fL bO])) Z ?_;refine aG (aN.box (cs:=[vS (s.1),u,v,vP I.1,ay.1]) Z Z) Z λb3=>aC Z<|aM<|aU ?_;exact sJ (bn,S.1,S.2) (b3,I.1,ay.1,ay.2,I.2.1,I.2.2) h (.inl Z) (Gj.r1 Z (RV.tmp Z)) Z (aY.ix [0,1,2,3,4,5,8,9,10,11,12] Z Z) (aF.refl _ _)
  intro P t h;unfold AK at h;refine bK Z (aY.cons 7 Z .nil) .nil (fW 0 Z Z Z Z) (aL.h (aY.ix [1] Z Z) .nil aL.z)<|eX h λbm cN h=>JR.loud Z Z Z (aN.callQ adK (IF U E D z4 bm cN) Z (n_ [3,4] Z)) Z (λa1=>(t_ [] Z)) λa1=>iW Z (gH Z)<|bK Z (aY.cons 8 Z .nil) .nil (fW 0 Z Z Z Z) (aL.h (aY.ix [7] Z Z) .nil (aL.h (aY.ix [1] Z Z) .nil aL.z))<|eX h λa0 cP h=>JR.loud Z Z Z (aN.callQ adL (Qp U E D z4 a0 cP) Z (n_ [3,4] Z)) Z (λcX=>(t_ [] Z)) λcX=>iW Z (gH Z)<|bM 9 Z Z<|cD (Know.one ((bE (aE.res 0 Z) vT))) λbJ=>?_;refine aB (Y.bld5 (r:=Value.agg #[Value.pointer (some ⟨t.1,0,none⟩),a1,vI (R),vU (a0),Value.func (.func 52) #[] #[Value.pointer (some ⟨M,0,none⟩),Value.pointer (some ⟨N,0,none⟩)]]) Z Z Z Z Z (by intro w;simp[Instr.build,Instr.fill,dL,cT,cM,dM,dN,cU,eQ,fL bJ])) Z ?_;refine cD (Know.one ((bE (aE.res 0 Z) vT))) λbN=>bQ 7 (vs:=[vP t.1,a1,vI (R),vU (a0),Value.func (.func 52) #[] #[vP M,vP N]]) Z Z (lH Z (lH bN (lH Z (lH Z (lH Z Z))))) Z Z Z<|aM<|aU ?_;exact sJ (a0,bm,P.1,P.2.1,P.2.2) (t.1,a1,t.2.1,t.2.2.1,t.2.2.2.1,t.2.2.2.2.1,t.2.2.2.2.2) h (.inl Z) (Gj.r1 Z (RV.cell 7 Z Z Z Z)) Z (aY.ix [0,1,2,3,4,5,6,10,11] Z Z) (aF.refl _ _)
 intro g a h;refine aG (aN.alloc (cs:=vD1) Z Z) Z λdh=>cD (Know.one ((bE (aE.res 1 Z) vT))) λb4=>bQ 0 (vs:=[vP a.1,a.2.1,vI (R),vU (g.1),Value.func (.func 52) #[] #[vP M,vP N]]) Z Z (lH Z (lH b4 (lH Z (lH Z (lH Z Z))))) Z Z Z<|aM<|aK<|aW<|dV 0 Z<|aA Z<|aA Z<|AP (A:=acC) (B:=Value×Value×Value×Value×Value×List Value×List Value×List (List Value)) (vs:=[Value.agg #[vP a.1,a.2.1,vI (R),vU (g.1),Value.func (.func 52) #[] #[vP M,vP N]],v5,v7]) (λJ=>GU  J=some r) (λJ F=>Value.tuple #[Value.agg #[F.1,F.2.1,F.2.2.1,vI (J.1),vI (J.2.1),vI (J.2.2.1),vI (J.2.2.2.1),vU (J.2.2.2.2.1)],vI (J.2.2.2.2.2.1)]) (λJ F=>[Ar bZ F.2.2.2.1 J.2.2.2.2.2.2.2.2.2.1,Lh b_ F.2.2.2.2.2.2.1 F.2.2.2.2.2.2.2 J.2.2.2.2.2.2.2.2.2.2,Ar cZ.raw F.2.2.2.2.1 F.2.2.2.2.2.2.1,bV N [F.2.2.2.1] 33,bV M [F.2.2.2.2.1] 32,Ar pP F.1 J.2.2.2.2.2.2.1,Ar pP F.2.1 J.2.2.2.2.2.2.2.1,Ar cZ.raw F.2.2.1 F.2.2.2.2.2.1,lD b_ F.2.2.2.2.2.1 J.2.2.2.2.2.2.2.2.1]) (λJ F=>[Sl aQ u s.2.1,Sl aJ v s.2.2,PF (Value.agg #[vS s.1,u,v]),Sl bP E G.1,S2 a_ D z4 G.2,S2 bP v5 z6 p3,Sl zP v7 p4,Gb 0 (cellsOf Hn wP)]) (sG.fn (show aV Tryz.prog 54 from Tryz.call54) Z) Tryz.func54 Z Tryz.ntmps54 Z Z ?_ ?_
 ·refine aW<|aG (aN.box (cs:=[vP a.1,a.2.1,vI (R),vU (g.1),Value.func (.func 52) #[] #[vP M,vP N]]) Z Z) Z λao=>cD (Know.one ((aE.fact 6 Z))) λca=>?_;refine aG (aN.box (cs:=[v7]) Z (by rw[fL ca])) Z λap=>?_;refine aG (aN.alloc (cs:=QC) Z Z) Z λa2=>aC Z<|aM<|aW<|dV 2 Z<|aA Z<|dK 1 Z<|jB (aE.fact 6 Z) Z<|aB (yM (cs:=[.tmp 3,.tmp 5]) (vs:=[vP ao,vP ap]) Z) Z<|AP (A:=acD) (B:=Value×Value×List Value×List (List Value)×Value×Value×Value×List Value) (vs:=[Value.agg #[vP a.1,a.2.1,vI (R),vU (g.1),Value.func (.func 52) #[] #[vP M,vP N]],v5,vI (List.length p4:Int),Value.func (.func 82) #[] #[vP ao,vP ap]]) (λy=>AJ  y=some r) (λy C=>Value.tuple #[Value.agg #[C.2.2.2.2.1,C.2.2.2.2.2.1,C.2.2.2.2.2.2.1,vI (y.2.2.2.2.2.1),vI (y.2.2.2.2.2.2.1),vI (y.2.2.2.2.2.2.2.1),vI (y.2.2.2.2.2.2.2.2.1),vU (y.2.2.2.2.2.2.2.2.2.1)],vI (y.2.2.2.2.2.2.2.2.2.2)]) (λy C=>[Ar bZ C.1 y.1,Lh b_ C.2.2.1 C.2.2.2.1 y.2.1,Ar cZ.raw C.2.1 C.2.2.1,bV a2 QC 78,bV N [C.1] 33,bV M [C.2.1] 32,Ar pP C.2.2.2.2.1 y.2.2.1,Ar pP C.2.2.2.2.2.1 y.2.2.2.1,Ar cZ.raw C.2.2.2.2.2.2.1 C.2.2.2.2.2.2.2,lD b_ C.2.2.2.2.2.2.2 y.2.2.2.2.1]) (λy C=>[Sl aQ u s.2.1,Sl aJ v s.2.2,PF (Value.agg #[vS s.1,u,v]),Sl bP E G.1,S2 a_ D z4 G.2,S2 bP v5 z6 p3,Sl zP v7 p4,Gb 0 (cellsOf Hn wP)]) (sG.fn (show aV Tryz.prog 81 from Tryz.call81) Z) Tryz.func81 Z Tryz.ntmps81 Z Z ?_ ?_
  ·refine aW<|aG (aN.box (cs:=[vP a.1,a.2.1,vI (R),vU (g.1),Value.func (.func 52) #[] #[vP M,vP N]]) Z Z) Z λa5=>aG (aN.alloc (cs:=QC) Z Z) Z λaD=>aC Z<|aM<|aW<|aG (aN.alloc (cs:=QC) Z Z) Z λaH=>aM<|aW<|aA Z<|eX h λa3 c1 h=>aG (aN.callQ Nj (zH U v5 z6 a3 c1) Z (n_ [5] Z)) Z λad=>aC Z<|aM<|aK ?_;refine JR.start [0,1,0,7,0,16,63,127] 6 mixedOrders (by decide +kernel) ?_;refine JR.open (by exact rfl) ?_;refine cY Z<|iS 4 Z<|bF Z<|eX h λaq c2 h=>JR.loud Z Z Z (aN.callQ RA (qK U a.1 u v a.2.2.1 u v E D z4 a.2.2.2.2.2.1 (List.zip a.2.2.2.2.2.2 g.2.2.2.2) a.2.2.2.1 (List.zip a.2.2.2.2.1 g.2.2.1) ad.1 (List.zip ad.2 a3) aq c2) Z (aF.cons (aE.res 10 Z) (aF.cons (aE.fact 0 Z) (aF.cons (aE.fact 1 Z) (aF.cons (aE.res 13 Z) (aF.cons (aE.fact 0 Z) (aF.cons (aE.fact 1 Z) (aF.cons (aE.fact 3 Z) (aF.cons (aE.fact 4 Z) (aF.cons (bT (i:=14) (j:=15) Z Z dY) (aF.cons (bT (i:=11) (j:=12) Z Z bR) (aF.cons (bT (i:=0) (j:=1) Z Z dY) .nil)))))))))))) Z (λc4=>(t_ [] Z)) λc4=>iW Z (dC Z Z Z Z Z)<|bK Z (aY.cons 4 Z .nil) .nil (eG 0 Z Z Z Z Z) (aL.h (aY.ix [4] Z Z) .nil aL.z)<|bM 6 Z Z<|Au Z<|aC Z<|aM<|aW<|aA Z<|eX h λm c3 h=>aG (aN.callQ aai (ID U  m c3) Z .nil) Z λdk=>aG (aN.alloc (cs:=vD2) Z Z) Z λaP=>bQ 0 (vs:=[vI (m.1),vI (m.2.1),vI (m.2.2.1),vI (m.2.2.2.1),vU (m.2.2.2.2)]) Z Z Z Z Z Z<|aM<|aW<|bU Z<|dK 5 Z<|aA Z<|aA Z<|dV 0 Z<|AP (A:=zY) (B:=Value×Value×List Value×List (List Value)) (vs:=[ad.1,vU (eB .u32 aq g.1),Value.agg #[vI (m.1),vI (m.2.1),vI (m.2.2.1),vI (m.2.2.2.1),vU (m.2.2.2.2)],vP M,vP N]) (λaz=>CU U s G R p4 g a3 aq m az=some r) (λaz V=>Value.tuple #[]) (λaz V=>[Ar bZ V.1 (([]:Dk)++([(m.1,m.2.1,m.2.2.1,m.2.2.2.1,m.2.2.2.2)])),Lh b_ V.2.2.1 V.2.2.2 az,Ar cZ.raw V.2.1 V.2.2.1,bV aP [vI (m.1),vI (m.2.1),vI (m.2.2.1),vI (m.2.2.2.1),vU (m.2.2.2.2)] 49,Ar cZ.raw ad.1 ad.2,lD b_ ad.2 a3,bV aH QC 78,bV aD QC 78,bV a5 [vP a.1,a.2.1,vI (R),vU (g.1),Value.func (.func 52) #[] #[vP M,vP N]] 97,bV a2 QC 78,bV ap [v7] 26,bV ao [vP a.1,a.2.1,vI (R),vU (g.1),Value.func (.func 52) #[] #[vP M,vP N]] 97,Ar pP a.2.1 g.2.1,bV a.1 [vS (s.1),u,v,vP a.2.2.1,a.2.2.2.1] 108,Ar cZ.raw a.2.2.2.1 a.2.2.2.2.1,lD cB a.2.2.2.2.1 g.2.2.1,bV a.2.2.1 [vS (s.1),u,v,E,D,vI (g.2.2.2.1),a.2.2.2.2.2.1] 137,Ar cZ.raw a.2.2.2.2.2.1 a.2.2.2.2.2.2,lD b_ a.2.2.2.2.2.2 g.2.2.2.2,bV N [V.1] 33,bV M [V.2.1] 32]) (λaz V=>[Sl aQ u s.2.1,Sl aJ v s.2.2,PF (Value.agg #[vS s.1,u,v]),Sl bP E G.1,S2 a_ D z4 G.2,S2 bP v5 z6 p3,Sl zP v7 p4,Gb 0 (cellsOf Hn wP)]) (Ho (us:=[ad.1,vU (eB .u32 aq g.1),Value.agg #[vI (m.1),vI (m.2.1),vI (m.2.2.1),vI (m.2.2.2.1),vU (m.2.2.2.2)]]) (cs:=[vP M,vP N]) (show aV Tryz.prog 52 from Tryz.call52) Z Z Z) Tryz.func52 Z Tryz.ntmps52 Z Z ?_ ?_
   ·refine aW<|aG (aN.box (cs:=[vI (m.1),vI (m.2.1),vI (m.2.2.1),vI (m.2.2.2.1),vU (m.2.2.2.2)]) Z Z) Z λc6=>aM<|aK ?_;refine JR.start [0,0,2,6,15,31] 4 mixedOrders (by decide +kernel) ?_;refine JR.open (by exact rfl) ?_;refine iS 19 Z<|bF Z<|eX h λbl cJ h=>JR.loud Z Z Z (aN.callQ Nj (zH U ad.1 (List.zip ad.2 a3) bl cJ) Z (aF.cons (bT (i:=2) (j:=3) Z Z dY) .nil)) Z (λan=>(t_ [([21],[])] Z)) λan=>d_ (Know.one (aE.sl (bT (i:=0) (j:=1) Z Z dY))) λbb=>JR.stp (AS b_)<|JR.stp (Tc 1 2 Z Z Z)<|JR.stp (JD 0 1 Z Z Z) ?_;refine JR.loud Z Z Z (bY (e:=cZ.raw) (([]:fR)++[an.1]) [(0,an.1)] Z Z Z Z (lR (an.1) bb) Z Z (by simp[cellsOf,cZ.raw,bb])) Z (λct=>(t_ [([21],[])] Z)) λct=>?_;refine bM 4 Z Z<|i_ (f_ cZ.raw) (i_ (AS b_) ?_);refine cD (wR 0 Z) λa8=>cD (wR 3 Z) λa9=>dD h λbe h=>i_ (JE 0 3 Z Z Z) ?_;refine aG (aN.append 1 2 Z Z Z Z Z Z Z (by have q:=be;have q1:=a8;have q2:=a9;(try simp only[List.length_cons,List.length_nil,List.length_append]at q q1 q2 ⊢);omega) (by have q:=be;have q1:=a8;have q2:=a9;(try simp only[List.length_cons,List.length_nil,List.length_append]at q q1 q2 ⊢);omega) Z) Z λcu=>?_;refine cD (Jv 1 Z) λbD=>gZ 22 Z Z bD Z Z Z<|aM<|aO<|dK 21 Z<|dV 3 Z<|aG (bY (e:=bZ) ([((m.1,m.2.1,m.2.2.1,m.2.2.2.1,m.2.2.2.2))]) [(0,Value.agg #[vI (m.1),vI (m.2.1),vI (m.2.2.1),vI (m.2.2.2.1),vU (m.2.2.2.2)])] Z Z Z Z (Ps (vI (m.1)) (vI (m.2.1)) (vI (m.2.2.1)) (vI (m.2.2.2.1)) (vU (m.2.2.2.2))) Z Z Z) Z λdd=>i_ (f_ bZ)<|dD h λci h=>aG (eN 0 iP Z Z Z (bE (aE.res 1 Z) iP) Z Z Z Z ci Z) Z λcv=>cD (Know.one ((bE (aE.res 0 Z) iP))) λbH=>gZ 23 Z Z bH Z Z Z<|eT ?_;exact sJ (([]:zY)++(([]:zY)++[bl])) (cv,cu,(([]:fR)++(([]:fR)++[an.1])),(([]:List (List Value))++(([]:List (List Value))++[an.2]))) h (.inr Z) (Gj.r0 Z) Z (aY.ix [0,2,3,6,7,8,9,10,11,12,13,14,16,17,18,19,20,21,22,23,24] Z Z) (aF.refl _ _)
   intro az V h;refine aM<|aW<|bU Z<|dK 6 Z<|aA Z<|aG (bY (e:=pP) ([(eB .u32 aq g.1)]) [(0,vU (eB .u32 aq g.1))] Z Z Z Z (lR (vU (eB .u32 aq g.1)) Z) Z Z Z) Z λdj=>i_ (f_ pP)<|dD h λce h=>aG (eN 0 vT Z Z Z (bE (aE.res 1 Z) vT) Z Z Z Z ce Z) Z λcm=>bU Z<|cD (Know.one ((bE (aE.res 0 Z) vT))) λbs=>gZ 8 Z Z bs Z Z Z<|aM<|aK<|Ch (B:=Value×List Value×Value×Value×Value×Value×List Value×List (List Value)) (λn=>xU  n=some r) (λn p=>[(1,p.1),(8,vP aD),(10,vP aH),(12,vP aP)]) (λn p=>[Ar pP p.2.2.2.1 n.1,Ar bZ p.2.2.2.2.1 n.2.2.2.2.2.2.2.2.1,Lh b_ p.2.2.2.2.2.2.1 p.2.2.2.2.2.2.2 n.2.2.2.2.2.2.2.2.2,Ar cZ.raw p.2.2.2.2.2.1 p.2.2.2.2.2.2.1,bV aP [vI (n.2.1),vI (n.2.2.1),vI (n.2.2.2.1),vI (n.2.2.2.2.1),vU (n.2.2.2.2.2.1)] 49,Ar cZ.raw p.1 p.2.1,lD b_ p.2.1 n.2.2.2.2.2.2.1,bV aH [p.2.2.1,p.2.2.2.1,lF,vI (0:Int),vI (0:Int),vI (0:Int),vI (0:Int),vU (0:Int)] 78,bV aD QC 78,bV a2 QC 78,bV N [p.2.2.2.2.1] 33,bV M [p.2.2.2.2.2.1] 32,Ar pP p.2.2.1 n.2.2.2.2.2.2.2.1]) ?_ ?_
   ·refine aW<|aA Z<|aA Z<|aM<|aT<|i_ (f_ pP)<|dZ (B:=Value×List Value×Value×Value×Value×Value×List Value×List (List Value)) (tT U s G R p4 g) (λb d=>[(1,d.1),(3,Value.func (.func 82) #[] #[vP ao,vP ap]),(4,vP a5),(8,vP aD),(10,vP aH),(11,vU (b.1)),(12,vP aP),(39,vI (List.length p4:Int)),(40,vI (b.2.2.1))]) (λb d=>[Ar pP d.2.2.2.1 b.2.1,Ar bZ d.2.2.2.2.1 b.2.2.2.2.2.2.2.2.2.2.1,Lh b_ d.2.2.2.2.2.2.1 d.2.2.2.2.2.2.2 b.2.2.2.2.2.2.2.2.2.2.2,Ar cZ.raw d.2.2.2.2.2.1 d.2.2.2.2.2.2.1,bV aP [vI (b.2.2.2.1),vI (b.2.2.2.2.1),vI (b.2.2.2.2.2.1),vI (b.2.2.2.2.2.2.1),vU (b.2.2.2.2.2.2.2.1)] 49,Ar cZ.raw d.1 d.2.1,lD b_ d.2.1 b.2.2.2.2.2.2.2.2.1,bV aH [d.2.2.1,d.2.2.2.1,lF,vI (0:Int),vI (0:Int),vI (0:Int),vI (0:Int),vU (0:Int)] 78,bV aD QC 78,bV a5 [vP a.1,a.2.1,vI (R),vU (g.1),Value.func (.func 52) #[] #[vP M,vP N]] 97,bV a2 QC 78,bV ap [v7] 26,bV ao [vP a.1,a.2.1,vI (R),vU (g.1),Value.func (.func 52) #[] #[vP M,vP N]] 97,Ar pP a.2.1 g.2.1,bV a.1 [vS (s.1),u,v,vP a.2.2.1,a.2.2.2.1] 108,Ar cZ.raw a.2.2.2.1 a.2.2.2.2.1,lD cB a.2.2.2.2.1 g.2.2.1,bV a.2.2.1 [vS (s.1),u,v,E,D,vI (g.2.2.2.1),a.2.2.2.2.2.1] 137,Ar cZ.raw a.2.2.2.2.2.1 a.2.2.2.2.2.2,lD b_ a.2.2.2.2.2.2 g.2.2.2.2,bV N [d.2.2.2.2.1] 33,bV M [d.2.2.2.2.2.1] 32,Ar pP d.2.2.1 b.2.2.2.2.2.2.2.2.2.1]) ((eB .u32 aq g.1),(([]:aS)++([(eB .u32 aq g.1)])),(0:Int),m.1,m.2.1,m.2.2.1,m.2.2.2.1,m.2.2.2.2,a3,([]:aS),(([]:Dk)++([(m.1,m.2.1,m.2.2.1,m.2.2.2.1,m.2.2.2.2)])),az) (ad.1,ad.2,(lF),cm,V.1,V.2.1,V.2.2.1,V.2.2.2) h SF (aY.ix [1,3,4,5,6,7,8,9,10,11,12,13,14,15,16,17,18,19,20,21,22,23,0] Z Z) ?_;intro bh b d h;refine aW<|cO Z<|aM<|aK ?_;refine fE h Z (λh=>?_) λh=>?_
    ·refine cK<|aK<|aT<|aW<|aA Z<|aC Z<|aM<|aW<|aA Z<|aA Z<|aA Z<|AP (A:=Int) (B:=Unit) (vs:=[vI (b.2.2.1),vU (b.1),vP ao,vP ap]) (λO=>CV U s G R g b (bI (tT U s G R p4 g) bh) O=some r) (λO a4=>Value.tuple #[vU (O),vB (decide (b.1≠(0:Int)))]) (λO a4=>[Ar pP d.2.2.2.1 b.2.1,Ar bZ d.2.2.2.2.1 b.2.2.2.2.2.2.2.2.2.2.1,Lh b_ d.2.2.2.2.2.2.1 d.2.2.2.2.2.2.2 b.2.2.2.2.2.2.2.2.2.2.2,Ar cZ.raw d.2.2.2.2.2.1 d.2.2.2.2.2.2.1,bV aP [vI (b.2.2.2.1),vI (b.2.2.2.2.1),vI (b.2.2.2.2.2.1),vI (b.2.2.2.2.2.2.1),vU (b.2.2.2.2.2.2.2.1)] 49,Ar cZ.raw d.1 d.2.1,lD b_ d.2.1 b.2.2.2.2.2.2.2.2.1,bV aH [d.2.2.1,d.2.2.2.1,lF,vI (0:Int),vI (0:Int),vI (0:Int),vI (0:Int),vU (0:Int)] 78,bV aD QC 78,bV a5 [vP a.1,a.2.1,vI (R),vU (g.1),Value.func (.func 52) #[] #[vP M,vP N]] 97,bV a2 QC 78,bV ap [v7] 26,bV ao [vP a.1,a.2.1,vI (R),vU (g.1),Value.func (.func 52) #[] #[vP M,vP N]] 97,Ar pP a.2.1 g.2.1,bV a.1 [vS (s.1),u,v,vP a.2.2.1,a.2.2.2.1] 108,Ar cZ.raw a.2.2.2.1 a.2.2.2.2.1,lD cB a.2.2.2.2.1 g.2.2.1,bV a.2.2.1 [vS (s.1),u,v,E,D,vI (g.2.2.2.1),a.2.2.2.2.2.1] 137,Ar cZ.raw a.2.2.2.2.2.1 a.2.2.2.2.2.2,lD b_ a.2.2.2.2.2.2 g.2.2.2.2,bV N [d.2.2.2.2.1] 33,bV M [d.2.2.2.2.2.1] 32,Ar pP d.2.2.1 b.2.2.2.2.2.2.2.2.2.1]) (λO a4=>[Sl aQ u s.2.1,Sl aJ v s.2.2,PF (Value.agg #[vS s.1,u,v]),Sl bP E G.1,S2 a_ D z4 G.2,S2 bP v5 z6 p3,Sl zP v7 p4,Gb 0 (cellsOf Hn wP)]) (Ho (us:=[vI (b.2.2.1),vU (b.1)]) (cs:=[vP ao,vP ap]) (show aV Tryz.prog 82 from Tryz.call82) Z Z Z) Tryz.func82 Z Tryz.ntmps82 Z Z ?_ ?_
     ·refine aW<|aC Z<|aC Z<|aM<|aK ?_;refine JR.start [0,1,0,4,0,0,0,96,224,511,0,1024,1023,8191] 13 mixedOrders (by decide +kernel) ?_;refine JR.open (by exact rfl) ?_;refine cY Z<|iS 12 Z<|cY Z<|iS 12 Z<|bF Z<|iS 11 Z<|bF Z<|dD h λbd h=>bK Z .nil (lC 6 Z) (aZ Z Z (aE.fact 0 Z) Z Z bd) aL.z<|bK Z .nil (lC 6 Z) (bX Z (aE.fact 0 Z) Z Z Z Hu bd) aL.z<|eX h λbk cE h=>JR.loud Z Z Z (aN.callQ Xb (xW U a.2.1 bk cE) Z (aF.cons (bE (aE.res 13 Z) vT) (n_ [7] Z))) Z (λcW=>(t_ [] Z)) λcW=>iW Z (gH Z)<|iW Z (DJ Z Z)<|iW Z (oQ Z)<|bM 13 Z Z<|aC Z<|aM<|aU ?_;exact sJ (bk) () h (.inl Z) (Gj.r2 Z (RV.tmp Z) (RV.tmp Z)) Z (aY.refl _) (aF.refl _ _)
     intro O a4 h;refine aA Z<|jA Z<|jA Z<|aC Z<|aC Z<|aM<|aK<|aW<|aA Z<|aB (ada Z) Z<|aM ?_;refine fE h Z (λh=>?_) λh=>?_
     ·refine qO<|eM<|ZN Z<|eM<|eM<|wQ<|Bw ?_;exact cL (b.2.1,b.2.2.2.1,b.2.2.2.2.1,b.2.2.2.2.2.1,b.2.2.2.2.2.2.1,b.2.2.2.2.2.2.2.1,b.2.2.2.2.2.2.2.2.1,b.2.2.2.2.2.2.2.2.2.1,b.2.2.2.2.2.2.2.2.2.2.1,b.2.2.2.2.2.2.2.2.2.2.2) (d.1,d.2.1,d.2.2.1,d.2.2.2.1,d.2.2.2.2.1,d.2.2.2.2.2.1,d.2.2.2.2.2.2.1,d.2.2.2.2.2.2.2) h SF (aY.ix [0,1,2,3,4,5,6,7,8,10,20,21,22] Z Z) (aF.refl _ _)
     refine cK<|aK<|aW<|bU Z<|dK 9 Z<|bU Z<|dK 9 Z<|aA Z<|aA Z<|eX h λcl cx h=>aG (aN.callQ Tm (xV U a.2.1 cl cx) Z (aF.cons (bE (aE.res 13 Z) vT) (n_ [7] Z))) Z λdf=>aB (mE Z) Z<|aM ?_;refine Ab h Z (λ_ h=>?_) λ_ h=>?_
     ·refine aW ?_;refine aB (Hw (r:=Value.agg #[lF,lF,lF,vI (0:Int),vI (0:Int),vI (0:Int),vI (0:Int),vU (0:Int)]) (by intro w;simp[Instr.build,Instr.fill,dL,cT,cM,dM,dN,cU,eQ])) Z ?_;refine bQ 8 (vs:=QC) Z Z Z Z Z Z<|aC Z<|aM<|aU<|aI<|bL<|aI<|aI<|bL<|aI<|i_ (f_ pP)<|i_ (f_ pP)<|i_ (f_ cZ.raw) (i_ (DG b_) ?_);exact sJ (b.2.2.2.2.2.2.2.2.2.2.1,b.2.2.2.2.2.2.2.2.2.2.2,([]:aS),([]:aS),([]:bG),(0:Int),(0:Int),(0:Int),(0:Int),(0:Int),(11:Int)) (d.2.2.2.2.1,d.2.2.2.2.2.1,d.2.2.2.2.2.2.1,d.2.2.2.2.2.2.2,(lF),(lF),(lF),([]:fR)) h (.inl Z) (Gj.r2 Z (RV.cell 12 Z Z Z Z) (RV.tmp Z)) Z (aY.ix [5,6,7,14,24,25,2,3,1,0] Z Z) (aF.refl _ _)
     refine cK<|aW<|bU Z<|dK 9 Z<|aA Z<|aA Z<|eX h λal cy h=>aG (aN.callQ aaj (El U a.1 u v a.2.2.1 u v E D z4 a.2.2.2.2.2.1 (List.zip a.2.2.2.2.2.2 g.2.2.2.2) a.2.2.2.1 (List.zip a.2.2.2.2.1 g.2.2.1) d.1 (List.zip d.2.1 b.2.2.2.2.2.2.2.2.1) al cy) Z (aF.cons (aE.res 14 Z) (aF.cons (aE.fact 0 Z) (aF.cons (aE.fact 1 Z) (aF.cons (aE.res 17 Z) (aF.cons (aE.fact 0 Z) (aF.cons (aE.fact 1 Z) (aF.cons (aE.fact 3 Z) (aF.cons (aE.fact 4 Z) (aF.cons (bT (i:=18) (j:=19) Z Z dY) (aF.cons (bT (i:=15) (j:=16) Z Z bR) (aF.cons (bT (i:=5) (j:=6) Z Z dY) .nil)))))))))))) Z λQ=>aC Z<|aM<|aK ?_;refine JR.start [0,1,0,7,0,16,63,127] 6 mixedOrders (by decide +kernel) ?_;refine JR.open (by exact rfl) ?_;refine cY Z<|iS 11 Z<|bF Z<|eX h λW cz h=>JR.loud Z Z Z (aN.callQ RA (qK U a.1 u v a.2.2.1 u v E D z4 a.2.2.2.2.2.1 (List.zip a.2.2.2.2.2.2 g.2.2.2.2) a.2.2.2.1 (List.zip a.2.2.2.2.1 g.2.2.1) Q.1 (List.zip Q.2 al) W cz) Z (aF.cons (aE.res 16 Z) (aF.cons (aE.fact 0 Z) (aF.cons (aE.fact 1 Z) (aF.cons (aE.res 19 Z) (aF.cons (aE.fact 0 Z) (aF.cons (aE.fact 1 Z) (aF.cons (aE.fact 3 Z) (aF.cons (aE.fact 4 Z) (aF.cons (bT (i:=20) (j:=21) Z Z dY) (aF.cons (bT (i:=17) (j:=18) Z Z bR) (aF.cons (bT (i:=0) (j:=1) Z Z dY) .nil)))))))))))) Z (λcV=>(t_ [] Z)) λcV=>iW Z (dC Z Z Z Z Z)<|bK Z (aY.cons 11 Z .nil) .nil (eG 0 Z Z Z Z Z) (aL.h (aY.ix [11] Z Z) .nil aL.z)<|bM 6 Z Z<|Au Z<|aC Z<|aM<|aW<|dV 6 Z<|aA Z<|aA Z<|eX h λf cA h=>aG (aN.callQ aak (Ln U  f cA) Z .nil) Z λdg=>aA Z<|jA Z<|jA Z<|bQ 6 (vs:=[vI (f.1.1),vI (f.1.2.1),vI (f.1.2.2.1),vI (f.1.2.2.2.1),vU (f.1.2.2.2.2)]) Z Z Z Z Z Z<|aM<|aW<|bU Z<|dK 11 Z<|aA Z<|aA Z<|dV 6 Z<|AP (A:=zY) (B:=Value×Value×List Value×List (List Value)) (vs:=[Q.1,vU (eB .u32 W g.1),Value.agg #[vI (f.1.1),vI (f.1.2.1),vI (f.1.2.2.1),vI (f.1.2.2.2.1),vU (f.1.2.2.2.2)],vP M,vP N]) (λac=>CW g b (bI (tT U s G R p4 g) bh) O al W f ac=some r) (λac H=>Value.tuple #[]) (λac H=>[Ar cZ.raw Q.1 Q.2,lD b_ Q.2 al,Ar pP d.2.2.2.1 b.2.1,Ar bZ H.1 (b.2.2.2.2.2.2.2.2.2.2.1++([(f.1.1,f.1.2.1,f.1.2.2.1,f.1.2.2.2.1,f.1.2.2.2.2)])),Lh b_ H.2.2.1 H.2.2.2 ac,Ar cZ.raw H.2.1 H.2.2.1,bV aP [vI (f.1.1),vI (f.1.2.1),vI (f.1.2.2.1),vI (f.1.2.2.2.1),vU (f.1.2.2.2.2)] 49,bV aH [d.2.2.1,d.2.2.2.1,lF,vI (0:Int),vI (0:Int),vI (0:Int),vI (0:Int),vU (0:Int)] 78,bV aD QC 78,bV a5 [vP a.1,a.2.1,vI (R),vU (g.1),Value.func (.func 52) #[] #[vP M,vP N]] 97,bV a2 QC 78,bV ap [v7] 26,bV ao [vP a.1,a.2.1,vI (R),vU (g.1),Value.func (.func 52) #[] #[vP M,vP N]] 97,Ar pP a.2.1 g.2.1,bV a.1 [vS (s.1),u,v,vP a.2.2.1,a.2.2.2.1] 108,Ar cZ.raw a.2.2.2.1 a.2.2.2.2.1,lD cB a.2.2.2.2.1 g.2.2.1,bV a.2.2.1 [vS (s.1),u,v,E,D,vI (g.2.2.2.1),a.2.2.2.2.2.1] 137,Ar cZ.raw a.2.2.2.2.2.1 a.2.2.2.2.2.2,lD b_ a.2.2.2.2.2.2 g.2.2.2.2,bV N [H.1] 33,bV M [H.2.1] 32,Ar pP d.2.2.1 b.2.2.2.2.2.2.2.2.2.1]) (λac H=>[Sl aQ u s.2.1,Sl aJ v s.2.2,PF (Value.agg #[vS s.1,u,v]),Sl bP E G.1,S2 a_ D z4 G.2,S2 bP v5 z6 p3,Sl zP v7 p4,Gb 0 (cellsOf Hn wP)]) (Ho (us:=[Q.1,vU (eB .u32 W g.1),Value.agg #[vI (f.1.1),vI (f.1.2.1),vI (f.1.2.2.1),vI (f.1.2.2.2.1),vU (f.1.2.2.2.2)]]) (cs:=[vP M,vP N]) (show aV Tryz.prog 52 from Tryz.call52) Z Z Z) Tryz.func52 Z Tryz.ntmps52 Z Z ?_ ?_
     ·refine aW<|aG (aN.box (cs:=[vI (f.1.1),vI (f.1.2.1),vI (f.1.2.2.1),vI (f.1.2.2.2.1),vU (f.1.2.2.2.2)]) Z Z) Z λc5=>aM<|aK ?_;refine JR.start [0,0,2,6,15,31] 4 mixedOrders (by decide +kernel) ?_;refine JR.open (by exact rfl) ?_;refine iS 24 Z<|bF Z<|eX h λbj cC h=>JR.loud Z Z Z (aN.callQ Nj (zH U Q.1 (List.zip Q.2 al) bj cC) Z (aF.cons (bT (i:=1) (j:=2) Z Z dY) .nil)) Z (λam=>(t_ [([26],[])] Z)) λam=>d_ (Know.one (aE.sl (bT (i:=0) (j:=1) Z Z dY))) λba=>JR.stp (AS b_)<|JR.stp (Tc 1 2 Z Z Z)<|JR.stp (JD 0 1 Z Z Z) ?_;refine JR.loud Z Z Z (bY (e:=cZ.raw) (([]:fR)++[am.1]) [(0,am.1)] Z Z Z Z (lR (am.1) ba) Z Z (by simp[cellsOf,cZ.raw,ba])) Z (λcp=>(t_ [([26],[])] Z)) λcp=>?_;refine bM 4 Z Z<|cD (wR 7 Z) λa6=>cD (wR 1 Z) λa7=>dD h λbc h=>i_ (JE 7 1 Z Z Z) ?_;refine aG (aN.append 7 0 Z Z Z Z Z Z Z (by have q:=bc;have q1:=a6;have q2:=a7;(try simp only[List.length_cons,List.length_nil,List.length_append]at q q1 q2 ⊢);omega) (by have q:=bc;have q1:=a6;have q2:=a7;(try simp only[List.length_cons,List.length_nil,List.length_append]at q q1 q2 ⊢);omega) Z) Z λcq=>?_;refine cD (Jv 7 Z) λbB=>gZ 25 Z Z bB Z Z Z<|aM<|aO<|dK 24 Z<|dV 1 Z<|aG (bY (e:=bZ) ([((f.1.1,f.1.2.1,f.1.2.2.1,f.1.2.2.2.1,f.1.2.2.2.2))]) [(0,Value.agg #[vI (f.1.1),vI (f.1.2.1),vI (f.1.2.2.1),vI (f.1.2.2.2.1),vU (f.1.2.2.2.2)])] Z Z Z Z (Ps (vI (f.1.1)) (vI (f.1.2.1)) (vI (f.1.2.2.1)) (vI (f.1.2.2.2.1)) (vU (f.1.2.2.2.2))) Z Z Z) Z λdc=>dD h λch h=>aG (eN 6 iP Z Z Z (bE (aE.res 0 Z) iP) Z Z Z Z ch Z) Z λcr=>cD (Know.one ((bE (aE.res 6 Z) iP))) λbC=>gZ 25 Z Z bC Z Z Z<|eT ?_;exact sJ (b.2.2.2.2.2.2.2.2.2.2.2++(([]:zY)++[bj])) (cr,cq,(d.2.2.2.2.2.2.1++(([]:fR)++[am.1])),(d.2.2.2.2.2.2.2++(([]:List (List Value))++[am.2]))) h (.inr Z) (Gj.r0 Z) Z (aY.ix [3,4,5,6,7,8,9,12,13,14,15,16,17,18,19,20,21,22,23,24,25,26,27] Z Z) (aF.refl _ _)
     intro ac H h;refine aM<|aW<|bU Z<|dK 7 Z<|aA Z<|aG (bY (e:=pP) ([O]) [(0,vU (O))] Z Z Z Z (lR (vU (O)) Z) Z Z Z) Z λda=>dD h λcf h=>aG (eN 23 vT Z Z Z (bE (aE.res 0 Z) vT) Z Z Z Z cf Z) Z λcn=>bU Z<|cD (Know.one ((bE (aE.res 23 Z) vT))) λbz=>gZ 8 Z Z bz Z Z Z<|aM<|aO<|bU Z<|dK 8 Z<|aA Z<|aG (bY (e:=pP) ([(eB .u32 W g.1)]) [(0,vU (eB .u32 W g.1))] Z Z Z Z (lR (vU (eB .u32 W g.1)) Z) Z Z Z) Z λdb=>dD h λcg h=>aG (eN 4 vT Z Z Z (bE (aE.res 0 Z) vT) Z Z Z Z cg Z) Z λco=>bU Z<|cD (Know.one ((bE (aE.res 4 Z) vT))) λbA=>gZ 9 Z Z bA Z Z Z<|eT<|mQ<|aO<|cI Z<|aA Z<|aM ?_;exact lK ((eB .u32 W g.1),(b.2.1++([(eB .u32 W g.1)])),(wI .i64 (b.2.2.1+(1:Int))),f.1.1,f.1.2.1,f.1.2.2.1,f.1.2.2.2.1,f.1.2.2.2.2,al,(b.2.2.2.2.2.2.2.2.2.1++[O]),(b.2.2.2.2.2.2.2.2.2.2.1++([(f.1.1,f.1.2.1,f.1.2.2.1,f.1.2.2.2.1,f.1.2.2.2.2)])),ac) (Q.1,Q.2,cn,co,H.1,H.2.1,H.2.2.1,H.2.2.2) h SF (aY.ix [4,5,6,7,8,2,3,9,10,11,12,13,14,15,16,17,18,19,20,21,22,23,24] Z Z) (aF.refl _ _)
    refine fH ?_;exact cL (b.2.1,b.2.2.2.1,b.2.2.2.2.1,b.2.2.2.2.2.1,b.2.2.2.2.2.2.1,b.2.2.2.2.2.2.2.1,b.2.2.2.2.2.2.2.2.1,b.2.2.2.2.2.2.2.2.2.1,b.2.2.2.2.2.2.2.2.2.2.1,b.2.2.2.2.2.2.2.2.2.2.2) (d.1,d.2.1,d.2.2.1,d.2.2.2.1,d.2.2.2.2.1,d.2.2.2.2.2.1,d.2.2.2.2.2.2.1,d.2.2.2.2.2.2.2) h SF (aY.ix [0,1,2,3,4,5,6,7,8,10,20,21,22] Z Z) (aF.refl _ _)
   intro n p h;unfold xU at h;refine aK ?_;refine JR.start [0,0,1,5,15,31] 4 mixedOrders (by decide +kernel) ?_;refine JR.open (by exact rfl) ?_;refine bF Z<|mA 4 Z<|cY Z<|d_ (Know.one (aE.sl (bT (i:=5) (j:=6) Z Z dY))) λbt=>Dz Z Z Z (Ox 7 Z Z bt Z Z Z) (λcS=>(t_ [([4],[])] Z)) λcS=>bM 4 Z Z<|bU Z<|Tb (Jy 7 (us:=[vI (n.2.1),vI (n.2.2.1),vI (n.2.2.2.1),vI (n.2.2.2.2.1),vU (n.2.2.2.2.2.1)]) Z Z Z Z Z Z Z Z Z) λde=>aM<|aW<|dV 7 Z<|cD (Know.one ((bE (aE.res 12 Z) vT))) λbu=>cD (Know.one ((bE (aE.res 0 Z) vT))) λbw=>cD (Know.one (aE.sl (bT (i:=5) (j:=6) Z Z dY))) λbx=>bQ 8 (vs:=[p.2.2.1,p.2.2.2.1,p.1,vI (n.2.1),vI (n.2.2.1),vI (n.2.2.2.1),vI (n.2.2.2.2.1),vU (n.2.2.2.2.2.1)]) Z Z (lH bu (lH bw (lH bx (lH Z (lH Z (lH Z (lH Z (lH Z Z)))))))) Z Z Z<|aC Z<|aM<|aU ?_;exact sJ (n.2.2.2.2.2.2.2.2.1,n.2.2.2.2.2.2.2.2.2,n.2.2.2.2.2.2.2.1,n.1,n.2.2.2.2.2.2.1,n.2.1,n.2.2.1,n.2.2.2.1,n.2.2.2.2.1,n.2.2.2.2.2.1,(0:Int)) (p.2.2.2.2.1,p.2.2.2.2.2.1,p.2.2.2.2.2.2.1,p.2.2.2.2.2.2.2,p.2.2.1,p.2.2.2.1,p.1,p.2.1) h (.inl Z) (Gj.r2 Z (RV.cell 8 Z Z Z Z) (RV.tmp Z)) Z (aY.ix [1,2,3,9,10,11,12,0,5,6] Z Z) (aF.refl _ _)
  intro y C h;unfold AJ at h;refine jA Z<|jA Z<|cD (Know.one ((bE (aE.res 6 Z) vT))) λcb=>cD (Know.one ((bE (aE.res 7 Z) vT))) λcc=>cD (Know.one (aE.sl (bT (i:=8) (j:=9) Z Z dY))) λcd=>bQ 3 (vs:=[C.2.2.2.2.1,C.2.2.2.2.2.1,C.2.2.2.2.2.2.1,vI (y.2.2.2.2.2.1),vI (y.2.2.2.2.2.2.1),vI (y.2.2.2.2.2.2.2.1),vI (y.2.2.2.2.2.2.2.2.1),vU (y.2.2.2.2.2.2.2.2.2.1)]) Z Z (lH cb (lH cc (lH cd (lH Z (lH Z (lH Z (lH Z (lH Z Z)))))))) Z Z Z<|aC Z<|aM<|aU ?_;exact sJ (y.2.2.2.2.2.1,y.2.2.2.2.2.2.1,y.2.2.2.2.2.2.2.1,y.2.2.2.2.2.2.2.2.1,y.2.2.2.2.2.2.2.2.2.1,y.2.2.2.2.2.2.2.2.2.2,y.2.2.1,y.2.2.2.1,y.2.2.2.2.1,y.1,y.2.1) (C.2.2.2.2.1,C.2.2.2.2.2.1,C.2.2.2.2.2.2.1,C.1,C.2.1,C.2.2.2.2.2.2.2,C.2.2.1,C.2.2.2.1) h (.inl Z) (Gj.r2 Z (RV.cell 3 Z Z Z Z) (RV.tmp Z)) Z (aY.ix [0,1,2,4,5,6,7,8,9] Z Z) (aF.refl _ _)
 intro J F h;refine aA Z<|jA Z<|jA Z<|aG (aN.alloc (cs:=QC) Z Z) Z λdi=>cD (Know.one ((bE (aE.res 6 Z) vT))) λb5=>cD (Know.one ((bE (aE.res 7 Z) vT))) λb6=>cD (Know.one (aE.sl (bT (i:=8) (j:=9) Z Z dY))) λb9=>bQ 0 (vs:=[F.1,F.2.1,F.2.2.1,vI (J.1),vI (J.2.1),vI (J.2.2.1),vI (J.2.2.2.1),vU (J.2.2.2.2.1)]) Z Z (lH b5 (lH b6 (lH b9 (lH Z (lH Z (lH Z (lH Z (lH Z Z)))))))) Z Z Z<|aC Z<|aM<|aW<|aA Z<|rF Z<|aM ?_;refine fE h Z (λh=>?_) λh=>?_
 ·refine aW<|aA Z<|aC Z<|aC Z<|aC Z<|aM<|aU<|aI<|i_ (f_ cZ.raw) (i_ (AS b_) ?_);refine i_ (f_ bZ) ?_;cases h;exact IP ((lF),([]:fR),([]:List (List Value)),(lF)) Z Z (RV.tmp Z) (RV.tmp Z) (RV.tmp Z) (aY.ix [2,1,0] Z Z) aF.nil
 refine cK<|aK ?_;refine JR.start [0,0,1,7,15] 3 mixedOrders (by decide +kernel) ?_;refine JR.open (by exact rfl) ?_;refine iS 5 Z<|iS 4 Z<|iW Z (oQ Z)<|bM 3 Z Z<|aC Z<|aC Z<|aM<|aU ?_;cases h;exact IP (F.2.2.2.2.1,F.2.2.2.2.2.2.1,F.2.2.2.2.2.2.2,F.2.2.2.1) Z Z (RV.tmp Z) (RV.tmp Z) (RV.tmp Z) (aY.ix [3,2,1] Z Z) aF.nil
end Go.Proofs.YtmdlcmbplnhdnaaGreatDoor
namespace Go.Proofs.YtmdlcmbplnhdnaaGreatDoor
open Go Go.Sx
theorem VO {g:GR} (e:VG g) (p:sB) (b:Int) (c:bG) (o:aS):
  bI (oW 1000 p g b c o) 1000 ((0:Int),(0:Int),(List.replicate (Int.toNat (List.length g.2:Int)) ([]:aS)))=uO 1000 p g b c o (iR g g.2.length,fC g):=by
 have z:=e.n24;have s:=e.len;let f:Nat->aS:=λv=>(List.range (row g v).length).map (AV g v);let Q:Nat->bG:=λk=>(List.range k).map f++List.replicate (g.2.length - k) [];have q:∀k,k<=g.2.length->(Q k).length=g.2.length:=λk i=>by simp[Q];omega
 rw[show List.replicate (Int.toNat (List.length g.2:Int)) ([]:aS)=Q 0 by simp[Q]];refine eS (step:=oW 1000 p g b c o) g.2.length (λk=>((k:Int),iR g k,Q k)) (λk d i=> ?_) (λd=> ?_) 1000 (by omega)
 ·have r:=(e.node k i).deg;have t:k<(Q k).length:=by rw[q k (by omega)];exact i
  unfold oW;dsimp only;rw[if_pos (by omega),cA (by omega),cA (by omega)];let a:Nat->aS:=λj=>(List.range j).map (AV g k);have y:Q k=(Q k).set k (a 0):=by
   have:at' (Q k) (k:Int)=a 0:=by
    rw[lO t];simp[Q,a]
   rw[<-this];exact(FQ (Q k) (k:Int) (by simpa using t) (by omega)).symm
  rw[show(Q k)=(Q k).set k (a 0)from y];have h:∀A:bG,A.length=g.2.length->bI (tU 1000 g ((k:Int),iR g k,(Q k).set k (a 0)) d) 1000 ((0:Int),A.set k (a 0))=d (((k+1:Nat):Int),iR g (k+1),A.set k (f k)):=by
   intro A D;refine eS (step:=tU 1000 g ((k:Int),iR g k,(Q k).set k (a 0)) d) (K:=d (((k+1:Nat):Int),iR g (k+1),A.set k (f k))) (row g k).length (λj=>((j:Int),A.set k (a j))) (λj m C=> ?_) (λm=> ?_) 1000 (by omega)
   ·obtain⟨u,w,l⟩:=e.to i C;have B:=(e.node u w).deg;have x:at' (A.set k (a j)) (k:Int)=a j:=by rw[vV _ _ _ _ (by omega),if_pos Z]
    have n:(a j).length=j:=by simp[a]
    unfold tU;dsimp only;rw[if_pos (show(j:Int)<((row g k).length:Int) by omega),cA (show 0<=(j:Int)∧(j:Int)<((row g k).length:Int) by omega),cA (by simp only[List.length_set];omega),show at' (at' g.2 (k:Int)) (j:Int)=fZ (row g k) j from rfl,l,bB (show nG 1000 _ (u:Int) (k:Int)=_ from Mg g u (k:Int) w (by omega)),x,cA (by rw[n];simp;omega),cA (by simp only[List.length_set];omega),fF (by omega),Int.toNat_natCast,List.set_set];have:a j++[Ak (row g u) (k:Int)]=a (j+1):=by
     simp only[a];rw[List.range_succ,List.map_append,List.map_singleton,AV,l,Int.toNat_natCast]
    rw[this]
   ·unfold tU zD;dsimp only;rw[if_neg (show¬((row g k).length:Int)<((row g k).length:Int)from Int.lt_irrefl _),fF (by omega)];rfl
  have:=h (Q k) (q k (by omega));rw[uM f [] g.2.length k i]at this;exact this
 ·unfold oW;dsimp only;rw[if_neg (by omega)];simp[Q,fC,f]
noncomputable def JU (p:sB) (vars:List Dr) (R:List RL) (g:GR) (kind:Int) (ws:aS) (a:bG):Nat->CT
 |0=>(0,0,0,0,eB .u32 ((pB (aR p g) R (eR g) a:Nat):Int) 16777215)
 |k+1=>((gC 1000 (JU p vars R g kind ws a k) ((nxt g kind (pB (aR p g) R (eR g) (CR p vars R g kind ws a k)) (at' ws (k:Int)):Nat):Int) ((pB (aR p g) R (eR g) (CR p vars R g kind ws a (k+1)):Nat):Int)).getD ((0,0,0,0,0),0)).1
theorem adZ (p p':sB) (vars:List Dr) (R:List RL) (g:GR) (kind:Int) (ws:aS) (a:bG) (k:Nat):JU p vars R g kind ws a k=JU p' vars R g kind ws a k:=by
 induction k with
 |zero=>rfl
 |succ k b=>rw[JU,JU,b,KJ p p',KJ p p' vars R g kind ws a (k+1),Pq p p',Pq p p']
section
variable {p:sB} {g:GR} {R:List RL}
theorem Zz (hV:VG g) (hp:sN g p.2.1) (hz:p.2.2.map yP=Dt R) (hR:xT p.2.1.length R=true) {kind:Int} (hk1:1<=kind) (hk4:kind<=4) {c0:List (List Int)} (hc0:Dx g c0 p.2.1) {ws:List Int} (hws:ws.length<=900) (hw:∀k:Nat,k<ws.length->∃m:Nat,at' ws (k:Int)=(m:Int)∧m<4294967296)
  (P:Nat->List (List Int)->List Nat->CT->Prop) (h0:P 0 c0 [] (0,0,0,0,eB .u32 ((pB (aR p g) R (eR g) c0:Nat):Int) 16777215))
  (hstep:∀k c ch cnt t cnt' err,k<ws.length->As g p.2.1.length c->P k c ch cnt->pB (aR p g) R (eR g) c≠0->t≠0->(∀i,t.testBit i=true->(pB (aR p g) R (eR g) c).testBit i=true)->(kind<=2->∀v u,t.testBit v=true->t.testBit u=true->¬Co g v u)->(kind=4->t=pB (aR p g) R (eR g) c)->CR p p.2.1 R g kind ws c0 (k+1)=iJ (aR p g) p.2.1 R c t->
   gC 1000 cnt (t:Int) ((pB (aR p g) R (eR g) (iJ (aR p g) p.2.1 R c t):Nat):Int)=some (cnt',err)->cnt'=JU p p.2.1 R g kind ws c0 (k+1)->P (k+1) (iJ (aR p g) p.2.1 R c t) (ch++[t]) cnt'):
  ∃k c ch,wH 1000 p g kind c0 ws=some ((List.range (k+1)).map (CR p p.2.1 R g kind ws c0),(List.range (k+1)).map (JU p p.2.1 R g kind ws c0),0)∧P k c ch (JU p p.2.1 R g kind ws c0 k)∧c=CR p p.2.1 R g kind ws c0 k∧k<=ws.length∧(∀j,j<k->pB (aR p g) R (eR g) (CR p p.2.1 R g kind ws c0 j)≠0)∧(k=ws.length∨pB (aR p g) R (eR g) c=0):=by
 have h24:=hV.n24;have hvl:=hp.len;let S:=aR p g;have hVS:VG S.2.1:=hV;obtain⟨net,hnet,hN⟩:=aeC hV;have hcheck:zV 1000 p g kind c0 (ws.length:Int)=some 0:=by
  unfold zV;rw[bB (show nH 1000 _ _ c0=_ from Pk hV hp hc0),if_neg (by decide)];have:xI 1000 kind=some true:=by
   unfold xI q_;rw[if_pos hk1,decide_eq_true hk4]
  rw[bB this,if_neg (by decide),if_neg (by omega)]
 unfold wH;rw[bB (show zV 1000 _ _ kind c0 _=_ from hcheck),if_neg (by decide),cA (by omega),VO hV p kind c0 ws];unfold uO AL;rw[bB (show jW 1000 _ _=_ from K_ hV hp)];unfold AK;rw[bB (show oI 1000 _=_ from hnet),bB (show zT 1000 _=some ((eR g:Nat):Int)from adb hV)];have hen:∀c,As g p.2.1.length c->dB 1000 (p,(p,g,iR g g.2.length,fC g),BU g p.2.1) c=some ((ZE S R c:Nat):Int):=λc hc=>Kb hV hc hz hR (by simp[BU]);have hand:∀c,eB .u32 ((ZE S R c:Nat):Int) ((eR g:Nat):Int)=((pB S R (eR g) c:Nat):Int):=λc=>DL (aed hVS R c) (aab hV);have hcopy:∀c,As g p.2.1.length c->mM 1000 c=some c:=λc hc=>TC c (by rw[hc.len];omega) (λv hv=>by rw[hc.row v (by rw[<-hc.len];exact hv)];omega);unfold CS;dsimp only;rw[bB (hcopy c0 hc0.shape),bB (show dB 1000 _ c0=_ from hen c0 hc0.shape),hand,bB (show vC 1000 _=some (0,0,0,0,eB .u32 ((pB S R (eR g) c0:Nat):Int) 16777215)from rfl),bB (hcopy c0 hc0.shape),cA (by simp),cA (by simp)];unfold CU;dsimp only;rw[hand,cA (by simp),List.nil_append,List.nil_append,List.nil_append,List.nil_append];let A:Int×List Int×(List (List (Int×Int)))×Int×List (List Int):=(((eR g:Nat):Int),net,BU g p.2.1,iR g g.2.length,fC g)
 let rc:=CR p p.2.1 R g kind ws c0;let cw:=JU p p.2.1 R g kind ws c0;let T:=List (List (List Int))×List CT×Int;let QQ:T->Prop:=λr=>∃k c ch,r=((List.range (k+1)).map rc,(List.range (k+1)).map cw,0)∧P k c ch (cw k)∧c=rc k∧k<=ws.length∧(∀j,j<k->pB S R (eR g) (rc j)≠0)∧(k=ws.length∨pB S R (eR g) c=0)
 have fin:∀(k:Nat) (c:List (List Int)) (ch:List Nat) (ens:List Int),P k c ch (cw k)->c=rc k->k<=ws.length->(∀j,j<k->pB S R (eR g) (rc j)≠0)->(k=ws.length∨pB S R (eR g) c=0)->
   OK QQ (xU (ens,(cw k).1,(cw k).2.1,(cw k).2.2.1,(cw k).2.2.2.1,(cw k).2.2.2.2,c,abp ch,(List.range (k+1)).map cw,(List.range (k+1)).map rc)):=λk c ch ens a1 a2 a3 a6 a7=>⟨_,rfl,k,c,ch,rfl,a1,a2,a3,a6,a7⟩
 have key:=xD (step:=tT 1000 p g kind ws A) (Q:=QQ)
  (λx=>∃(k:Nat) (c:List (List Int)) (ch:List Nat) (ens:List Int),x=(((pB S R (eR g) c:Nat):Int),ens,(k:Int),(cw k).1,(cw k).2.1,(cw k).2.2.1,(cw k).2.2.2.1,(cw k).2.2.2.2,c,abp ch,(List.range (k+1)).map cw,(List.range (k+1)).map rc)∧P k c ch (cw k)∧As g p.2.1.length c∧c=rc k∧k<=ws.length∧ch.length=k∧ens.length=k+1∧∀j,j<k->pB S R (eR g) (rc j)≠0) (λx=>ws.length - x.2.2.1.toNat) (λx ag hI hrec=>by
  obtain⟨k,c,ch,ens,rfl,b1,b2,b3,b4,b5,b6,b9⟩:=hI;unfold tT;dsimp only;by_cases hlt:k<ws.length
  rotate_left
  ·rw[if_neg (by omega)];exact fin k c ch ens b1 b3 b4 b9 (.inl (by omega))
  obtain⟨w,hwe,hw32⟩:=hw k hlt;have hin:QT g (pB S R (eR g) c):=Ka S R (eR g) c;obtain⟨t,ht,hsub,hne⟩:=SC hV hN hk1 hk4 hin hw32;rw[if_pos (by omega),cA (by omega),hwe,bB (show eZ 1000 net kind _ _=_ from ht)];unfold CV;dsimp only;by_cases he0:pB S R (eR g) c=0
  ·rw[if_pos (by omega)];exact fin k c ch ens b1 b3 b4 b9 (.inr he0)
  obtain⟨ht0,hperm,hk2,hk4'⟩:=hne he0;have ht32:t<4294967296:=by have:=QT.lt hV (λi hi=>hin i (hsub i hi));omega
  rw[if_neg (by omega),bB (show fX 1000 net kind _ _=_ from hperm),if_neg (by decide)];have hst:jM 1000 (p,(p,g,iR g g.2.length,fC g),BU g p.2.1) c (t:Int)=some (iJ S p.2.1 R c t):=abV (gr:=iR g g.2.length) hV hp b2 hz hR ht32 (λv hv=>((Nr S R (eR g) c v).1 (hsub v hv)).2.1);have hsh:As g p.2.1.length (iJ S p.2.1 R c t):=b2.step;obtain⟨⟨cnt',err⟩,hadd⟩:=WI (cw k) ht32 ((pB S R (eR g) (iJ S p.2.1 R c t):Nat):Int);rw[bB (show jM 1000 _ c (t:Int)=_ from hst),bB (show dB 1000 _ _=_ from hen _ hsh),hand,bB (show gC 1000 _ (t:Int) _=_ from hadd),bB (hcopy _ hsh),cA (by simp;omega),cA (by simp;omega)];unfold CW;dsimp only;rw[hand,cA (by simp[abp];omega),cA (by simp;omega),fF (by omega)];have en:nxt g kind (pB S R (eR g) (rc k)) (at' ws (k:Int))=t:=by
   unfold nxt;rw[bB hnet,hwe,<-b3,ht];simp
  have hr:rc (k+1)=iJ S p.2.1 R c t:=by
   show iJ S p.2.1 R (rc k) (nxt g kind (pB S R (eR g) (rc k)) (at' ws (k:Int)))=_;rw[en,<-b3]
  obtain rfl:cnt'=cw (k+1):=by
   show cnt'=((gC 1000 (cw k) ((nxt g kind (pB S R (eR g) (rc k)) (at' ws (k:Int)):Nat):Int) ((pB S R (eR g) (rc (k+1)):Nat):Int)).getD ((0,0,0,0,0),0)).1;rw[en,hr,hadd];rfl
  refine hrec _ ⟨k+1,iJ S p.2.1 R c t,ch++[t],ens++[((pB S R (eR g) (iJ S p.2.1 R c t):Nat):Int)],?_,hstep k c ch (cw k) t (cw (k+1)) err hlt b2 b1 he0 ht0 hsub hk2 hk4' hr hadd Z,hsh,hr.symm,by omega,by simp[b5],by simp[b6],λj hj=> ?_⟩ (by dsimp only;omega)
  ·rw[List.nil_append,List.range_succ (n:=k+1),List.map_append,List.map_singleton,List.map_append,List.map_singleton,hr];simp[abp]
  ·by_cases e:j<k
   ·exact b9 j e
   ·obtain rfl:j=k:=by omega
    rw[<-b3];exact he0) 1000 (((pB S R (eR g) c0:Nat):Int),[((pB S R (eR g) c0:Nat):Int)],(0:Int),0,0,0,0,eB .u32 ((pB S R (eR g) c0:Nat):Int) 16777215,c0,[],[(0,0,0,0,eB .u32 ((pB S R (eR g) c0:Nat):Int) 16777215)],[c0])
  ⟨0,c0,[],[((pB S R (eR g) c0:Nat):Int)],rfl,h0,hc0.shape,rfl,by omega,rfl,rfl,λj hj=>by omega⟩ (by dsimp only;omega)
 obtain⟨r,hr,k,c,ch,rfl,hrest⟩:=key;exact⟨k,c,ch,hr,hrest⟩
end
theorem YS {p p':sB} {g:GR} {R:List RL} {vars:List Dr} {kind:Int} {ws:List Int} {b:List (List Int)} {k a:Nat}
  (l:k<=ws.length) (f:k=ws.length∨pB (aR p g) R (eR g) (CR p vars R g kind ws b k)=0) (h:∀j,j<k->pB (aR p g) R (eR g) (CR p vars R g kind ws b j)≠0)
  (i:a<=ws.length) (c:a=ws.length∨pB (aR p' g) R (eR g) (CR p' vars R g kind ws b a)=0) (d:∀j,j<a->pB (aR p' g) R (eR g) (CR p' vars R g kind ws b j)≠0):k=a:=by
 rcases Nat.lt_trichotomy k a with q|q|q
 ·have:=d k q;rw[KJ p' p,Pq p' p]at this;rcases f with e|e
  ·omega
  ·exact absurd e this
 ·exact q
 ·have:=h a q;rw[KJ p p',Pq p p']at this;rcases c with e|e
  ·omega
  ·exact absurd e this
end Go.Proofs.YtmdlcmbplnhdnaaGreatDoor
namespace Go.Proofs.YtmdlcmbplnhdnaaGreatDoor
open Go.Sx
noncomputable def tV (b:List bG×(List (Int×Int×Int×Int×Int))×Int) (a:Bool):Option (List bG×(List (Int×Int×Int×Int×Int))×Bool):=
 some (b.1,b.2.1,a)
noncomputable def wJ (U:Nat) (d:ByteArray) (c:cF) (e:Int) (f:bG) (g:aS):Option (List bG×(List (Int×Int×Int×Int×Int))×Bool):=
 Option.bind (mC U d) λb=>UT b.2.2 λh=>(Option.bind (wH U ((b.1,b.2.1,h)) ((c.1,c.2)) e f g) λa=>(if a.2.2=(0:Int)then(if(List.length a.1:Int)=(List.length a.2.1:Int)then(tV a (decide ((0:Int)<(List.length a.1:Int))))else(tV a (false)))else(tV a (false))))
theorem agD:aV Tryz.prog 9:=Tryz.call9
theorem Qv (U:Nat) {w:ByteArray} {i:cF} {y:Int} {p:bG} {q:aS} (k:Value)  (m:Value)  (t:kH)  (n:Value)  (u:sD)  (o:Value) (r:Us) (h:wJ U w i y p q=some r):
  aX Tryz.prog 9 #[vS (w),Value.agg #[k,m],vI (y),n,o] [Sl bP k i.1,S2 a_ m t i.2,S2 bP n u p,Sl zP o q,Gb 0 (cellsOf Hn wP)] (λx:Value×List Value×List (List Value)×Value=>Value.tuple #[x.1,x.2.2.2,vB (r.2.2)]) (λx l=>Ar cZ.raw x.1 x.2.1::Lh b_ x.2.1 x.2.2.1 r.1::Ar bZ x.2.2.2 r.2.1::l) (λ_ l=>l):=by
 refine aX.of Tryz.func9 Z Tryz.ntmps9 Z λc=>?_;refine aW<|aG (aN.box (cs:=[k,m]) Z Z) Z λD=>aC Z<|aC Z<|aC Z<|aM<|aK ?_;refine JR.start [0,1,0,0,0,0,63,127,255,255,255,511,3071,8191] 13 mixedOrders (by decide +kernel) ?_;refine JR.open (by exact rfl) ?_;refine bF Z<|eX h λs A h=>JR.loud Z Z Z (aN.call Ry (Dj U s A) Z (lC 4 Z) (λ_ _=>rfl) (λ_ _=>rfl)) Z (fun⟨d,e,v,g⟩=>(t_ [] Z)) fun⟨d,e,v,g⟩=>?_;have h:=LF h v g;refine bK Z (aY.cons 0 Z .nil) .nil (fW 0 Z Z Z Z) (aL.h (aY.ix [0] Z Z) .nil aL.z)<|iW Z (gH Z)<|iW Z (gH Z)<|iW Z (gH Z)<|eX h λj C h=>JR.loud Z Z Z (aN.callQ adn (Qr U d e k m t n u o j C) Z (n_ [0,1,2,3,4,5,6,7] Z)) Z (λb=>(t_ [] Z)) λb=>iW Z (gH Z)<|iW Z (pR Z Z)<|iW Z (pR Z Z)<|iW Z (pR Z Z)<|iW Z (oQ Z)<|iW Z (oQ Z)<|bM 13 Z Z<|aC Z<|aM<|aK<|BH (B:=Unit) (λa=>tV j a=some r) (λa f=>[(10,b.1),(11,b.2.2.2),(12,vB (a))]) (λa f=>[Ar cZ.raw b.1 b.2.1,Lh b_ b.2.1 b.2.2.1 j.1,Ar bZ b.2.2.2 j.2.1]) (λa f=>[Sl aQ d s.2.1,Sl aJ e v,PF (Value.agg #[vS s.1,d,e]),Sl bP k i.1,S2 a_ m t i.2,S2 bP n u p,Sl zP o q,Gb 0 (cellsOf Hn wP)]) ?_ ?_
 ·refine aO<|aA Z<|aA Z<|aA Z<|cP Z<|aA Z ?_;refine Dy h Z (λ_ h=>?_) λ_ h=>?_
  ·refine cR Z<|aP Z (Gp 0 1 Z Z Z Z) Z<|cR Z<|aP Z (gW Z (bE (aE.res 2 Z) iP) Z) Z<|aP Z (OU Z Z) Z<|dO Z<|aA Z ?_;refine Dy h Z (λ_ h=>?_) λ_ h=>?_
   ·refine cR Z<|aP Z (Gp 0 1 Z Z Z Z) Z<|aP Z (wS Z Z) Z<|dO Z<|aC Z<|aC Z<|aC Z<|aM ?_;exact cL (decide ((0:Int)<(List.length j.1:Int))) () h SF (aY.ix [0,1,2] Z Z) (aF.refl _ _)
   refine aH Z<|aH Z<|aH Z<|fI Z<|aC Z<|aC Z<|aC Z<|aM ?_;exact cL (false) () h SF (aY.ix [0,1,2] Z Z) (aF.refl _ _)
  refine aH Z<|aH Z<|aH Z<|aH Z<|aH Z<|fI Z<|aA Z<|aH Z<|aH Z<|aH Z<|fI Z<|aC Z<|aC Z<|aC Z<|aM ?_;exact cL (false) () h SF (aY.ix [0,1,2] Z Z) (aF.refl _ _)
 intro a f h;unfold tV at h;refine aU ?_;cases h;exact IP (b.1,b.2.1,b.2.2.1,b.2.2.2) Z Z (RV.tmp Z) (RV.tmp Z) (RV.tmp Z) (aY.refl _) aF.nil
end Go.Proofs.YtmdlcmbplnhdnaaGreatDoor
namespace Go.Proofs.YtmdlcmbplnhdnaaGreatDoor
open Go Go.Sx
theorem YT {text nm:ByteArray} {vars:List Dr} {R:List RL} {pr:Lb} (hprog:mC 1000 text=some (nm,vars,pr)) (hpr:Dt R=pr) {g:GR} (hV:VG g) (hp:sN g vars) (hR:xT vars.length R=true) {kind:Int} (hk1:1<=kind) (hk4:kind<=4)
  {c0:bG} (hc0:Dx g c0 vars) {ws:aS} (hws:ws.length<=900) (hw:∀k:Nat,k<ws.length->∃m:Nat,at' ws (k:Int)=(m:Int)∧m<4294967296)
  (Q:Nat->bG->CT->Prop) (h0:Q 0 c0 (0,0,0,0,eB .u32 ((pB (aR (nm,vars,[]) g) R (eR g) c0:Nat):Int) 16777215))
  (hstep:∀k c cnt t cnt' err,k<ws.length->Q k c cnt->pB (aR (nm,vars,[]) g) R (eR g) c≠0->t≠0->(∀i,t.testBit i=true->(pB (aR (nm,vars,[]) g) R (eR g) c).testBit i=true)->(kind=4->t=pB (aR (nm,vars,[]) g) R (eR g) c)->
   gC 1000 cnt (t:Int) ((pB (aR (nm,vars,[]) g) R (eR g) (iJ (aR (nm,vars,[]) g) vars R c t):Nat):Int)=some (cnt',err)->Q (k+1) (iJ (aR (nm,vars,[]) g) vars R c t) cnt'):
  ∃(k:Nat) (cs:zY) (cnts:List CT),wJ 1000 text g kind c0 ws=some (cs,cnts,true)∧cs.length=k+1∧cnts.length=k+1∧k<=ws.length∧(∀j,j<=k->Q j (at' cs (j:Int)) (at' cnts (j:Int)))∧
   (∀j,j<k->∃t,(∀i,t.testBit i=true->(pB (aR (nm,vars,[]) g) R (eR g) (at' cs (j:Int))).testBit i=true)∧pB (aR (nm,vars,[]) g) R (eR g) (at' cs (j:Int))≠0∧at' cs ((j+1:Nat):Int)=iJ (aR (nm,vars,[]) g) vars R (at' cs (j:Int)) t∧(kind=4->t=pB (aR (nm,vars,[]) g) R (eR g) (at' cs (j:Int))))∧
   (k=ws.length∨pB (aR (nm,vars,[]) g) R (eR g) (at' cs (k:Int))=0):=by
 let p0:sB:=(nm,vars,[])
 let rc:=CR p0 vars R g kind ws c0;let cw:=JU p0 vars R g kind ws c0;let PP:Nat->Prop:=λk=>(∀j,j<=k->Q j (rc j) (cw j))∧∀j,j<k->∃t,(∀i,t.testBit i=true->(pB (aR p0 g) R (eR g) (rc j)).testBit i=true)∧pB (aR p0 g) R (eR g) (rc j)≠0∧rc (j+1)=iJ (aR p0 g) vars R (rc j) t∧(kind=4->t=pB (aR p0 g) R (eR g) (rc j))
 have run:∀z:List wA,z.map yP=Dt R->∃k,wH 1000 (nm,vars,z) g kind c0 ws=some ((List.range (k+1)).map rc,(List.range (k+1)).map cw,0)∧k<=ws.length∧PP k∧(∀j,j<k->pB (aR p0 g) R (eR g) (rc j)≠0)∧(k=ws.length∨pB (aR p0 g) R (eR g) (rc k)=0):=λz hz=>by
  let pz:sB:=(nm,vars,z)
  have hrr:CR pz vars R g kind ws c0=rc:=funext λj=>KJ _ _ _ _ _ _ _ _ _;have hcc:JU pz vars R g kind ws c0=cw:=funext λj=>adZ _ _ _ _ _ _ _ _ _;obtain⟨k,c,ch,h1,h3,rfl,h5,h6,h7⟩:=Zz (p:=pz) hV hp hz hR (kind:=kind) hk1 hk4 hc0 (ws:=ws) hws hw
   (λk c ch cnt=>PP k∧c=rc k∧cnt=cw k) ⟨⟨λj hj=>by(obtain rfl:j=0:=by omega);exact h0,λj hj=>by omega⟩,rfl,rfl⟩
   (λk c ch cnt t cnt' err hk hsh hI hne ht0 hsub _ hk4' hr hadd hcw=>by
    obtain⟨⟨ha,hb⟩,rfl,rfl⟩:=hI;have hr':rc (k+1)=iJ (aR p0 g) vars R (rc k) t:=(congrFun hrr (k+1)).symm.trans hr;have hcw':cnt'=cw (k+1):=hcw.trans (congrFun hcc (k+1));subst hcw';have hQ:=hstep k (rc k) (cw k) t _ err hk (ha k (Nat.le_refl k)) hne ht0 hsub hk4' hadd;refine⟨⟨λj hj=> ?_,λj hj=> ?_⟩,hr'.symm,rfl⟩
    ·by_cases e:j<=k
     ·exact ha j e
     ·obtain rfl:j=k+1:=by omega
      rw[hr'];exact hQ
    ·by_cases e:j<k
     ·exact hb j e
     ·obtain rfl:j=k:=by omega
      exact⟨t,hsub,hne,hr',hk4'⟩)
  rw[show pz.2.1=vars from rfl,hrr,hcc]at h1;rw[show pz.2.1=vars from rfl,hrr]at h6 h7;exact⟨k,h1,h5,h3.1,h6,h7⟩
 obtain⟨z0,hz0⟩:=exZ (Dt R);obtain⟨k0,_,hk0,hP0,hne0,hend0⟩:=run z0 hz0;have hat:∀j,j<=k0->at' ((List.range (k0+1)).map rc) (j:Int)=rc j:=λj hj=>kU _ (by omega);have hat2:∀j,j<=k0->at' ((List.range (k0+1)).map cw) (j:Int)=cw j:=λj hj=>kU _ (by omega);refine⟨k0,(List.range (k0+1)).map rc,(List.range (k0+1)).map cw,?_,by simp,by simp,hk0,λj hj=>by rw[hat j hj,hat2 j hj];exact hP0.1 j hj,λj hj=>by rw[hat j (by omega),hat (j+1) (by omega)];exact hP0.2 j hj,by rw[hat k0 (Nat.le_refl _)];exact hend0⟩
 unfold wJ;rw[bB hprog];refine Tg λz hz=> ?_;have hz:z.map yP=Dt R:=by rw[hpr];exact hz
 obtain⟨k,h1,hk,_,hne,hend⟩:=run z hz;have hkk:k=k0:=YS (p:=p0) (p':=p0) (vars:=vars) hk hend hne hk0 hend0 hne0;subst hkk;refine(bB (show wH 1000 (nm,vars,z) g kind c0 ws=_ from h1)).trans ?_;unfold tV;dsimp only;rw[if_pos Z,if_pos (by simp),decide_eq_true (by simp)]
theorem aaS {p:sB} {g:GR} {R:List RL} {c:bG}:ZE (aR p g) R c=pB (aR p g) R (eR g) c:=by
 refine Nat.eq_of_testBit_eq λv=> ?_;unfold pB;rw[Nat.testBit_and];cases h:(ZE (aR p g) R c).testBit v with
 |false=>rfl
 |true=>
  rw[TF,Bool.and_eq_true,decide_eq_true_eq]at h;unfold eR;rw[Ti,decide_eq_true (show v<g.2.length from h.1)];rfl
theorem EH {p:sB} {g:GR} {R:List RL} {c:bG} {v:Nat}:(pB (aR p g) R (eR g) c).testBit v=true↔v<g.2.length∧0<=dU (aR p g) R c v:=by
 rw[Nr];refine⟨λh=>⟨h.1,h.2.1⟩,λh=>⟨h.1,h.2,?_⟩⟩
 unfold eR;rw[Ti,decide_eq_true h.1]
theorem Xu {p:sB} {g:GR} {R:List RL} {c:bG}:pB (aR p g) R (eR g) c=0↔∀v,v<g.2.length->¬0<=dU (aR p g) R c v:=by
 constructor
 ·intro h v e q;have:=EH.2 ⟨e,q⟩;rw[h,Nat.zero_testBit]at this;cases this
 ·intro h;refine Nat.eq_of_testBit_eq λi=> ?_;rw[Nat.zero_testBit];cases d:(pB (aR p g) R (eR g) c).testBit i with
  |false=>rfl
  |true=>
   obtain⟨a,b⟩:=EH.1 d;exact absurd b (h i a)
theorem TE {n E:Nat} {d:Nat->Nat} {q:Nat->Prop} (g:∀v,v<n->d v<=E):∀(k v:Nat),E<=d v+k->v<n->q v->∃w,w<n∧q w∧∀u,u<n->q u->d u<=d w
 |0,v,h,hv,hq=>⟨v,hv,hq,λu f _=>by have:=g u f;omega⟩
 | k + 1, v, h, hv, hq => by
  by_cases e:∃u,u<n∧q u∧d v<d u
  ·obtain⟨u,a,b,c⟩:=e;exact TE g k u (by omega) a b
  ·exact⟨v,hv,hq,λu f h=>Nat.le_of_not_lt λc=>e ⟨u,f,h,c⟩⟩
section
variable {p:sB} {g:GR} {c:List (List Int)} {d:List Int} (hV:VG g) (hD:qZ g 0 d) (h0:∀v,v<g.2.length->0<=D d v) {par fp:Nat->Nat} (hP:TP g d par fp) (hc:Dx g c fO)
 include hV hD h0 hP hc
theorem aeH:pB (aR p g) RS (eR g) c=0↔Hv g d c∧Qt g.2.length (sC c) (bC c)∧∀v,v<g.2.length->rC c v=0:=by
 have G:=hV.n24;have l:RT g.2.length g.2.length par (λv=>(D d v).toNat):=acz hV hD h0 hP λv f=>hD.hi v f;rw[Xu];constructor
 ·intro h;have E:∀v,v<g.2.length->FL g c v:=λv f=>Classical.byContradiction λq=>by
   obtain⟨a,b⟩:=KB (p:=p) (R':=RW) q;exact h v f (by rw[JB,a];exact b)
  have n:Hv g d c:=VE hV hD h0 (λv f=>(Nn (W:=QK) hc f).1.1) E;have z:∀v,v<g.2.length->¬0<=dU (aR p g) RW c v:=λv f q=>h v f (by rw[JB,GJ (E v f),if_pos q];omega);have j:=λv f=>λq=>z v f ((enS (p:=p) hV hD h0 hP n f).1.2 q);have H:AG g.2.length par (sC c) (bC c):=λv f i=>Classical.byContradiction λq=>j v f (.inr (.inl (Sv i q)));have t:∀v,v<g.2.length->sC c v=0:=λv f=>Decidable.byContradiction λq=>by
   obtain⟨w,A,J,o⟩:=TE (q:=λu=>sC c u≠0) l.le g.2.length v (by omega) f q;refine j w A (.inr (.inr (.inl ⟨J,λx B s e=> ?_⟩)));obtain⟨_,a⟩:=l.up x B s;have y:sC c x=0:=Decidable.byContradiction λr=>by
    have:=o x B r;rw[e]at a;omega
   refine⟨y,Decidable.byContradiction λr=>j x B (.inr (.inl ⟨s,.inl λL=>r ?_⟩))⟩
   rw[<-L,e]
  have m:=YN l H (t 0 l.n1);refine⟨n,m,?_⟩
  have C:∀k v,v<g.2.length->(D d v).toNat=k->rC c v=0:=by
   intro k
   induction k with
   |zero=>
    intro v f I;have i:v=0:=(hD.zero v f).1 (by have:=h0 v f;omega);subst i;exact Decidable.byContradiction λq=>j 0 f (.inl ⟨rfl,t 0 f,q⟩)
   |succ k K=>
    intro v f I;have i:v≠0:=λe=>by subst e;have:=l.d0;omega
    obtain⟨a,b⟩:=l.up v f i;exact Decidable.byContradiction λq=>j _ a (.inr (.inr (.inr ⟨t _ a,K _ a (by omega),v,f,i,rfl,q,t v f⟩)))
  exact λv f=>C _ v f Z
 ·rintro⟨n,m,F⟩ v f;rw[JB,GJ (Jn hV hD h0 n f)];have:¬0<=dU (aR p g) RW c v:=λq=>by
   rcases(enS (p:=p) hV hD h0 hP n f).1.1 q with q|q|q|q
   ·obtain⟨rfl,_,q⟩:=q;exact q (F 0 f)
   ·obtain⟨a,_⟩:=l.up v f q.1;rcases q.2 with r|r
    ·exact r (by rw[(m v f).2,(m _ a).2])
    ·exact r.1 (m v f).1
   ·exact q.1 (m v f).1
   ·obtain⟨_,_,w,z,_,_,q,_⟩:=q;exact q (F w z)
  rw[if_neg this];omega
end
theorem abW {p:sB} {g:GR} {d:List Int} {E:Nat} {j I:Nat->Nat} (n:VG g) (m:qZ g 0 d) (l:∀v,v<g.2.length->0<=D d v) (r:TP g d j I) (L:sN g fO) (G:∀v,v<g.2.length->D d v<=(E:Int)):
  Stg (BM E) (7*E+4) (Ri g d E j (λv=>(D d v).toNat)) (TsR g d E j (λv=>(D d v).toNat)) (λc=>pB (aR p g) RS (eR g) c)
   (λc t F=>(∀i,t.testBit i=true->(pB (aR p g) RS (eR g) c).testBit i=true)∧F=iJ (aR p g) fO RS c t):=by
 have s:RT g.2.length E j (λv=>(D d v).toNat):=acz n m l r G;refine⟨λi c h=>aeF h,λi c h K o=>abG s G h K o,λi c v h f=> ?_,λi c t F h N=> ?_⟩
 ·refine EH.2 ?_;obtain⟨O,h⟩:=h;have y:Hv g d c->v<g.2.length->0<=dU (aR p g) RW c v->0<=dU (aR p g) RS c v:=λJ f q=>by
   rw[JB,GJ (Jn n m l J f),if_pos q];omega
  match i,h,f with
  | .tree k,⟨_,h⟩,f=>
   obtain⟨a,b⟩:=KB (p:=p) (R':=RW) (Ur n m l h f);exact⟨f.1,by rw[JB,a];exact b⟩
  | .good k,⟨_,h1,_⟩,⟨f,hv0,_,o⟩=>exact⟨f,y h1 f ((enS n m l r h1 f).1.2 (.inr (.inl (Sv hv0 o))))⟩
  | .lev cl k,⟨_,h1,_,_,h4,_⟩,⟨f,hd,o⟩=>
   refine⟨f,y h1 f ((enS n m l r h1 f).1.2 (.inr (.inl ?_)))⟩
   have e:v≠0:=λe=>o (by rw[e]);obtain⟨a,z⟩:=s.up v f e;have B:(D d v).toNat<=k+1:=hd;have H:(D d v).toNat=(D d (j v)).toNat+1:=z;exact⟨e,.inl λq=>o (by rw[<-q];exact h4 _ a (show(D d (j v)).toNat<=k by omega))⟩
  | .low cl k,⟨_,h1,_,_,h4,h5,_⟩,⟨f,hd,o⟩=>
   refine⟨f,y h1 f ((enS n m l r h1 f).1.2 (.inr (.inr (.inl ⟨o,λw A C e=> ?_⟩))))⟩
   obtain⟨_,z⟩:=s.up w A C;rw[e]at z;have B:E<(D d v).toNat+(k+1):=hd;have H:(D d w).toNat=(D d v).toNat+1:=z;exact⟨h5 w A (show E<(D d w).toNat+k by omega),by rw[h4 w A (s.le w A),h4 v f (s.le v f)]⟩
  | .ask k u, ⟨_, h1, h2, h3, _, h5⟩, f =>
   rcases f with⟨e,rfl,M⟩|⟨rfl,rfl⟩
   ·obtain⟨a,_⟩:=s.up u h3 e;exact⟨a,y h1 a ((enS n m l r h1 a).1.2 (.inr (.inr (.inr ⟨(h2 _ a).1,M,u,h3,e,rfl,h5,(h2 u h3).1⟩))))⟩
   ·exact⟨h3,y h1 h3 ((enS n m l r h1 h3).1.2 (.inl ⟨rfl,(h2 0 h3).1,h5⟩))⟩
 ·obtain⟨x,rfl⟩:=N;exact YH n m l s (aeU n m l r L h.1 λv f=>EH.1 (x v f)) h
structure LA (g:GR) (d:List Int) (E:Nat) (par:Nat->Nat) (k:Nat) (c:List (List Int)) (cnt:CT):Prop where
 r:Dx g c fO
 s:∃R B pe,Dd k cnt R B pe∧AR (BM E) (7*E+4) (Ri g d E par (λv=>(D d v).toNat)) (TsR g d E par (λv=>(D d v).toNat)) R pe c
section
variable {p:sB} {g:GR} {c:List (List Int)} {d:List Int} {E:Nat} (hV:VG g) (hD:qZ g 0 d) (h0:∀v,v<g.2.length->0<=D d v) {par fp:Nat->Nat} (hP:TP g d par fp) (hp:sN g fO) (hE:∀v,v<g.2.length->D d v<=(E:Int))
 include hV hD h0 hP hp hE
theorem Pw {i:SR} (h:Ri g d E par (λv=>(D d v).toNat) i c):LA g d E par 0 c (0,0,0,0,eB .u32 ((pB (aR p g) RS (eR g) c:Nat):Int) 16777215):=by
 have a:pB (aR p g) RS (eR g) c<16777216:=QT.lt hV (Ka (aR p g) RS (eR g) c);have b:eB .u32 ((pB (aR p g) RS (eR g) c:Nat):Int) 16777215=((pB (aR p g) RS (eR g) c:Nat):Int):=by
  rw[show(16777215:Int)=((16777215:Nat):Int)from rfl,DL (by omega) (by omega),show(16777215:Nat)=2^24 - 1 from rfl,Nat.and_two_pow_sub_one_eq_mod,Nat.mod_eq_of_lt (by omega)]
 exact⟨h.1,0,0,pB (aR p g) RS (eR g) c,⟨rfl,⟨by dsimp only;omega,by dsimp only;omega⟩,rfl,rfl,b,by omega,a⟩,AR.start (abW (p:=p) hV hD h0 hP hp hE) h⟩
theorem Sk {k t:Nat} {j e:CT} {n:Int} (y:k<900) (h:LA g d E par k c j) (q:t≠0) (f:∀i,t.testBit i=true->(pB (aR p g) RS (eR g) c).testBit i=true) (l:gC 1000 j (t:Int) ((pB (aR p g) RS (eR g) (iJ (aR p g) fO RS c t):Nat):Int)=some (e,n)):LA g d E par (k+1) (iJ (aR p g) fO RS c t) e:=by
 obtain⟨z,R,B,C,m,w⟩:=h;have A:t<16777216:=QT.lt hV (λi x=>(EH.1 (f i x)).1);have o:pB (aR p g) RS (eR g) (iJ (aR p g) fO RS c t)<16777216:=QT.lt hV (Ka (aR p g) RS (eR g) _);obtain⟨u,s,r,a,b,_⟩:=JC (abW (p:=p) hV hD h0 hP hp hE) w ⟨f,rfl⟩ m y A q o l;exact⟨Ms (S:=aR p g) hp z,u,s,r,a,b⟩
theorem Sj {k:Nat} {e:CT} (h:LA g d E par k c e) (n:7*(E:Int)+4<e.2.2.2.1):Hv g d c∧Qt g.2.length (sC c) (bC c)∧∀v,v<g.2.length->rC c v=0:=by
 obtain⟨_,R,B,o,b,j⟩:=h;have l:=b.begun;have m:=b.le;obtain⟨i,f,a⟩:=AR.done (abW (p:=(ByteArray.mk #[],[],[])) hV hD h0 hP hp hE) j (by omega);obtain⟨_,f⟩:=f
 match i,f,a with
 | .tree k,⟨q,_⟩,a=>simp only[BM]at a;omega
 | .good k,⟨q,_⟩,a=>simp only[BM]at a;omega
 | .lev false k,⟨q,_⟩,a=>simp only[BM]at a;omega
 | .lev true k,⟨q,_⟩,a=>simp only[BM]at a;omega
 | .low false k,⟨q,_⟩,a=>simp only[BM]at a;omega
 | .low true k,⟨q,_⟩,a=>simp only[BM]at a;omega
 | .ask k u,⟨q,_⟩,a=>simp only[BM]at a;omega
 | .done,f,_=>exact f
end
theorem MF {g:GR} (h:VG g):sN g fO:=by
 have f:=h.n24;have e:∀x,x<fO.length->DI (at' fO (x:Int)):=λx c=>by
  have c:x<6:=c
  match x,c with
  |0,_=>exact⟨by decide,by decide,by decide⟩
  |1,_=>exact⟨by decide,by decide,by decide⟩
  |2,_=>exact⟨by decide,by decide,by decide⟩
  |3,_=>exact⟨by decide,by decide,by decide⟩
  |4,_=>exact⟨by decide,by decide,by decide⟩
  |5,_=>exact⟨by decide,by decide,by decide⟩
 refine⟨by decide,e,λx c=> ?_,λx c d=> ?_⟩
 ·have c:x<6:=c
  match x,c with
  |0,_=>exact .inl Z
  |1,_=>exact .inr (.inr Z)
  |2,_=>exact .inr (.inl Z)
  |3,_=>exact .inr (.inl Z)
  |4,_=>exact .inl Z
  |5,_=>exact .inr (.inl Z)
 ·have c:x<6:=c
  match x,c,d with
  |0,_,_=>
   have a:lo g (at' fO ((0:Nat):Int)) 0=0:=Ym g 0;have b:hi g (at' fO ((0:Nat):Int)) 0=(g.2.length:Int):=XZ g 0;rw[a,b];omega
  |1,_,d=>exact absurd d (by decide)
  |2,_,d=>exact absurd d (by decide)
  |3,_,d=>exact absurd d (by decide)
  | 4, _, _ =>
   have b:hi g (at' fO ((4:Nat):Int)) 0=3:=by
    show(3:Int)+0*(g.2.length:Int)+0*iR g g.1.length=3;omega
   have a:lo g (at' fO ((4:Nat):Int)) 0=0:=rfl;rw[a,b];omega
  |5,_,d=>exact absurd d (by decide)
end Go.Proofs.YtmdlcmbplnhdnaaGreatDoor
namespace Go.Proofs.YtmdlcmbplnhdnaaGreatDoor
open Go Go.Sx
theorem Ey {k:Nat} (h:k<1000000):wI .i64 ((k:Int)+1)=((k+1:Nat):Int):=by rw[aki h];push_cast;rfl
def Yb (g:GR) (b:aS) (v x:Nat) (a:Int):Prop:=if at' b (x:Int) = -1 then -1<=a∧a<=((row g v).length:Int) - 1 else 0<=a∧a<=at' b (x:Int)
def agp (g:GR) (a:aS) (v:Nat) (l:aS):Prop:=l.length=a.length∧∀x,x<a.length->Yb g a v x (at' l (x:Int))
def MM (g:GR) (hs:aS) (c:bG):Prop:=c.length=g.2.length∧∀v,v<g.2.length->agp g hs v (at' c (v:Int))
theorem JV {g:GR} (l:VG g) {hs:aS} (y:hs.length<900) (c:bG):(MM g hs c->fJ 1000 g c hs=some true)∧(¬MM g hs c->fJ 1000 g c hs=some false):=by
 have t:=l.n24;have r:=l.len;unfold fJ;by_cases p:c.length=g.2.length
 ·rw[if_neg (by omega)];have m:=yR (step:=fT 1000 g c hs) (K:=some true) (bad:=some false) c.length (λv=>agp g hs v (at' c (v:Int))) (λk=>(k:Int)) (λk j u i=> ?_) (λk j u i=> ?_) (λj=> ?_) 1000 (by omega)
  ·refine⟨λh=>m.1 λv w=>h.2 v (by omega),λh=>m.2 λs=>h ⟨p,λv w=>s v (by omega)⟩⟩
  all_goals unfold fT
  ·have b:=yR (step:=dA g c hs (k:Int) j) (K:=j ((k+1:Nat):Int)) (bad:=some false) hs.length (λx=>Yb g hs k x (at' (at' c (k:Int)) (x:Int))) (λx=>(x:Int)) ?_ ?_ ?_ 1000 (by omega)
   ·rw[if_pos (by omega),cA (by omega),if_neg (by have:=i.1;omega)];exact b.1 i.2
   ·intro x d o a;unfold dA g_ hZ;have n:=i.1;have f:(at' g.2 (k:Int)).length<g.2.length:=(l.node k (by omega)).deg;rw[if_pos (by omega),cA (by omega),cA (by omega)];unfold Yb at a;by_cases e:at' hs (x:Int) = -1
    ·rw[if_pos e]at a;rw[if_pos e,cA (by omega),wr (by omega) (by omega)];dsimp only;rw[if_neg (by omega),if_neg (by rw[decide_eq_true_eq];show¬((row g k).length:Int) - 1<_;omega),Ey (by omega)]
    ·rw[if_neg e]at a;rw[if_neg e];dsimp only;rw[if_neg (by omega),if_neg (by rw[decide_eq_true_eq];omega),Ey (by omega)]
   ·intro x d o a;unfold dA g_ hZ;have n:=i.1;have f:(at' g.2 (k:Int)).length<g.2.length:=(l.node k (by omega)).deg;rw[if_pos (by omega),cA (by omega),cA (by omega)];unfold Yb at a;by_cases e:at' hs (x:Int) = -1
    ·rw[if_pos e]at a;rw[if_pos e,cA (by omega),wr (by omega) (by omega)];dsimp only;by_cases q:at' (at' c (k:Int)) (x:Int) < -1
     ·rw[if_pos q,if_pos Z]
     ·rw[if_neg q,if_pos (by rw[decide_eq_true_eq];show((row g k).length:Int) - 1<_;omega)]
    ·rw[if_neg e]at a;rw[if_neg e];dsimp only;by_cases q:at' (at' c (k:Int)) (x:Int)<0
     ·rw[if_pos q,if_pos Z]
     ·rw[if_neg q,if_pos (by rw[decide_eq_true_eq];omega)]
   ·intro d;unfold dA lP;have n:=i.1;rw[if_neg (by omega),Ey (by omega)]
  ·rw[if_pos (by omega),cA (by omega)];by_cases n:(at' c (k:Int)).length=hs.length
   ·rw[if_neg (by omega)];have b:=yR (step:=dA g c hs (k:Int) j) (K:=j ((k+1:Nat):Int)) (bad:=some false) hs.length (λx=>Yb g hs k x (at' (at' c (k:Int)) (x:Int))) (λx=>(x:Int)) ?_ ?_ ?_ 1000 (by omega)
    ·exact b.2 λh=>i ⟨n,h⟩
    ·intro x d o a;unfold dA g_ hZ;have f:(at' g.2 (k:Int)).length<g.2.length:=(l.node k (by omega)).deg;rw[if_pos (by omega),cA (by omega),cA (by omega)];unfold Yb at a;by_cases e:at' hs (x:Int) = -1
     ·rw[if_pos e]at a;rw[if_pos e,cA (by omega),wr (by omega) (by omega)];dsimp only;rw[if_neg (by omega),if_neg (by rw[decide_eq_true_eq];show¬((row g k).length:Int) - 1<_;omega),Ey (by omega)]
     ·rw[if_neg e]at a;rw[if_neg e];dsimp only;rw[if_neg (by omega),if_neg (by rw[decide_eq_true_eq];omega),Ey (by omega)]
    ·intro x d o a;unfold dA g_ hZ;have f:(at' g.2 (k:Int)).length<g.2.length:=(l.node k (by omega)).deg;rw[if_pos (by omega),cA (by omega),cA (by omega)];unfold Yb at a;by_cases e:at' hs (x:Int) = -1
     ·rw[if_pos e]at a;rw[if_pos e,cA (by omega),wr (by omega) (by omega)];dsimp only;by_cases q:at' (at' c (k:Int)) (x:Int) < -1
      ·rw[if_pos q,if_pos Z]
      ·rw[if_neg q,if_pos (by rw[decide_eq_true_eq];show((row g k).length:Int) - 1<_;omega)]
     ·rw[if_neg e]at a;rw[if_neg e];dsimp only;by_cases q:at' (at' c (k:Int)) (x:Int)<0
      ·rw[if_pos q,if_pos Z]
      ·rw[if_neg q,if_pos (by rw[decide_eq_true_eq];omega)]
    ·intro d;unfold dA lP;rw[if_neg (by omega),Ey (by omega)]
   ·rw[if_pos (by omega)]
  ·rw[if_neg (by omega)];rfl
 ·rw[if_pos (by omega)];exact⟨λh=>absurd h.1 p,λ_=>rfl⟩
def IsF (q:Nat->Prop) (n:Nat) (p:Int):Prop:=(∃i:Nat,i<n∧p=i∧q i∧∀k,k<i->¬q k)∨(p = -1∧∀k,k<n->¬q k)
theorem IsF.uniq {q:Nat->Prop} {n:Nat} {p g:Int} (h:IsF q n p) (k:IsF q n g):p=g:=by
 rcases h with⟨i,a,b,c,l⟩|⟨a,b⟩<;>rcases k with⟨j,d,e,f,m⟩|⟨d,e⟩
 ·have:i=j:=by
   rcases Nat.lt_trichotomy i j with q|q|q
   ·exact absurd c (m i q)
   ·exact q
   ·exact absurd f (l j q)
  omega
 ·exact absurd c (e i a)
 ·exact absurd f (b j d)
 ·omega
def Low (g:GR) (d:aS) (v i:Nat):Prop:=at' d (fZ (row g v) i).1=D d v - 1
instance (g:GR) (d:aS) (v i:Nat):Decidable (Low g d v i):=inferInstanceAs (Decidable (_=_))
theorem YY (p q:aS) (h:q.length<900):xN 1000 p q=some (decide (p=q)):=by
 unfold xN;by_cases f:p.length=q.length
 ·rw[if_neg (by omega)];have a:=yR (step:=vH p q) (K:=some true) (bad:=some false) p.length (λk=>at' p (k:Int)=at' q (k:Int)) (λk=>(k:Int)) (λk c d b=> ?_) (λk c d b=> ?_) (λc=> ?_) 1000 (by omega)
  ·by_cases e:p=q
   ·rw[decide_eq_true e];exact a.1 λk d=>by rw[e]
   ·rw[decide_eq_false e];exact a.2 λg=>e (Pz f λv i=>g v i)
  all_goals unfold vH
  ·rw[if_pos (by omega),cA (by omega),cA (by omega),if_neg (by simpa using b),Ey (by omega)]
  ·rw[if_pos (by omega),cA (by omega),cA (by omega),if_pos b]
  ·rw[if_neg (by omega)];rfl
 ·rw[if_pos (by omega),decide_eq_false λe=>f (by rw[e])]
section
variable {g:GR} (hV:VG g) {d:List Int} {s:Nat} (hD:qZ g s d)
 include hV hD
theorem aht {v i:Nat} (b:v<g.2.length) (a:i<(row g v).length):0<=(fZ (row g v) i).1∧(fZ (row g v) i).1<(d.length:Int):=by
 obtain⟨u,c,e⟩:=hV.to b a;have:=hD.len;omega
theorem aeb {v:Nat} (a:v<g.2.length):wI .i64 (D d v - 1)=D d v - 1:=by
 have b:=hD.lo v a;have c:=hD.hi v a;have:=hV.n24;exact wr (by omega) (by omega)
theorem aeM {v i:Nat} (a:v<g.2.length) (c:i<(row g v).length):zA 1000 ((fZ (row g v) i).1,(fZ (row g v) i).2) d (v:Int)=some (decide (Low g d v i)):=by
 have b:=aht hV hD a c;have f:=hD.len;unfold zA;rw[cA b,cA (by omega)];have e:wI .i64 (at' d (v:Int) - 1)=D d v - 1:=aeb hV hD a;rw[e];rfl
theorem Qa {v:Nat} (m:v<g.2.length) (c:List Int):∃p,IsF (Low g d v) (row g v).length p∧wG 1000 g (v:Int) d c=some (decide (c=[D d v,p])):=by
 have o:=hV.n24;have l:=(hV.node v m).deg;have r:=hD.len;have n:∀a:Int,wU 1000 (v:Int) d c a=some (decide (c=[D d v,a])):=λa=>by
  unfold wU;rw[cA (by omega),YY _ _ (by simp),bB Z]
 unfold wG;rw[cA (by omega)];have i:∀b k,k<=(row g v).length->(∀j,j<k->¬Low g d v j)->(row g v).length - k<b->∃p,IsF (Low g d v) (row g v).length p∧bI (tG 1000 g (v:Int) d c) b (k:Int)=some (decide (c=[D d v,p])):=by
  intro b
  induction b with
  |zero=>intro k _ _ h;omega
  | succ b ih =>
   intro k x f w;show∃p,_∧tG 1000 g (v:Int) d c (k:Int) (bI (tG 1000 g (v:Int) d c) b)=_;unfold tG;by_cases e:k<(row g v).length
   ·rw[if_pos (show(k:Int)<((row g v).length:Int) by omega),cA (show 0<=(k:Int)∧(k:Int)<((row g v).length:Int) by omega)];have u:=aeM hV hD m e;rw[show((at' (at' g.2 (v:Int)) (k:Int)).1,(at' (at' g.2 (v:Int)) (k:Int)).2)=((fZ (row g v) k).1,(fZ (row g v) k).2)from rfl,u,bB Z];by_cases q:Low g d v k
    ·rw[decide_eq_true q,if_pos Z];exact⟨k,.inl ⟨k,e,rfl,q,f⟩,n _⟩
    ·rw[decide_eq_false q,if_neg (by simp),Ey (by omega)];exact ih (k+1) (by omega) (λj t=>by
      by_cases h:j=k
      ·subst h;exact q
      ·exact f j (by omega)) (by omega)
   ·rw[if_neg (show¬(k:Int)<((row g v).length:Int) by omega)];exact⟨-1,.inr ⟨rfl,λj t=>f j (by omega)⟩,n _⟩
 exact i 1000 0 (by omega) (λj h=>by omega) (by omega)
def FC (g:GR) (d:List Int) (v:Nat) (l:List Int):Prop:=at' l 0=D d v∧IsF (Low g d v) (row g v).length (at' l 1)
theorem Pb (G:s=0) (u:EU g) {c:List (List Int)} (j:MM g [(g.2.length:Int),-1] c):
  ((∀v,v<g.2.length->FC g d v (at' c (v:Int)))->wF 1000 g c=some true)∧(¬(∀v,v<g.2.length->FC g d v (at' c (v:Int)))->wF 1000 g c=some false):=by
 subst G;have H:=hV.n24;have M:=hV.n1;have I:=hD.len;have q:=hV.len;have F:pL 1000 (g.1,g.2) c=some true:=by
  unfold pL HK lQ;have B:dR 1000 (g.1,g.2)=some true:=(wX hV).1 u;have C:fJ 1000 (g.1,g.2) c [(g.1.length:Int),-1]=some true:=by
   rw[q];exact(JV hV (by simp) c).1 j
  rw[B,bB Z,bB Z,if_pos Z,C,bB Z]
 obtain⟨h,w,t⟩:=Nq hV (s:=0) (by omega);have x:h=d:=by
  have L:=Al hV (s:=0) (by omega) hD;have A:=Al hV (s:=0) (by omega) t;rw[L]at A;exact(Option.some.inj A).symm
 subst x;unfold wF;have E:oV 1000 (g.1,g.2) 0=some h:=w;rw[F,bB Z,if_neg (by simp),E,bB Z];have i:∀v,v<g.2.length->∀p,(at' c (v:Int)=[D h v,p])↔(at' (at' c (v:Int)) 0=D h v∧at' (at' c (v:Int)) 1=p):=λv J p=>by
  have y:=(j.2 v J).1;simp only[List.length_cons,List.length_nil]at y;generalize at' c (v:Int)=l at y ⊢
  match l,y with
  | [a,b],_=>
   show[a,b]=[D h v,p]↔a=D h v∧b=p;simp
 have N:=j.1;refine yR (step:=AA 1000 g c h) (K:=some true) (bad:=some false) g.2.length (λv=>FC g h v (at' c (v:Int))) (λk=>(k:Int)) (λk z o r=> ?_) (λk z o r=> ?_) (λz=> ?_) 1000 (by omega)
 all_goals unfold AA
 ·obtain⟨p,m,n⟩:=Qa hV hD o (at' c (k:Int));have f:wG 1000 (g.1,g.2) (k:Int) h (at' c (k:Int))=_:=n;rw[if_pos (by omega),cA (by omega),f,bB Z,decide_eq_true ((i k o p).2 ⟨r.1,r.2.uniq m⟩),if_neg (by simp),Ey (by omega)]
 ·obtain⟨p,m,n⟩:=Qa hV hD o (at' c (k:Int));have f:wG 1000 (g.1,g.2) (k:Int) h (at' c (k:Int))=_:=n;rw[if_pos (by omega),cA (by omega),f,bB Z,decide_eq_false λe=>r (by
   have:=(i k o p).1 e;exact⟨this.1,by rw[this.2];exact m⟩),if_pos (by simp)]
 ·rw[if_neg (by omega)];rfl
end
theorem aba (g:GR):(VG g∧EU g->dR 1000 g=some true∧gU 1000 g=some true)∧(¬(VG g∧EU g)->dR 1000 g=some false∧gU 1000 g=some false):=by
 by_cases a:VG g
 ·obtain⟨b,c⟩:=wX a;obtain⟨d,f⟩:=SB a;exact⟨λh=>⟨b h.2,d h.2⟩,λh=>⟨c λq=>h ⟨a,q⟩,f λq=>h ⟨a,q⟩⟩⟩
 ·refine⟨λh=>absurd h.1 a,λ_=>⟨?_,?_⟩⟩
  ·unfold dR;have e:gE 1000 (g.1,g.2)=some false:=(ME g).2 a;rw[e,bB Z,if_pos (by simp)]
  ·unfold gU jY nN;have e:lI 1000 (g.1,g.2)=some false:=(NP g).2 a;rw[e,bB Z,if_pos (by simp),if_pos Z,bB Z];rfl
def JW (m:Nat) (c:bG) (k:Nat):bG:=(c.take k).map (λl=>List.drop (Int.toNat 0) (List.take m l))++List.replicate (c.length - k) []
theorem Vh {m:Nat} {c:bG} {k:Nat} (a:k<c.length):(JW m c k).set k (List.drop (Int.toNat 0) (List.take m (at' c (k:Int))))=JW m c (k+1):=by
 unfold JW;obtain⟨j,b⟩:∃j,c.length - k=j+1:=⟨c.length - k - 1,by omega⟩
 rw[b,List.replicate_succ,aeR _ _ _ _ k (by simp;omega)];have e:c.take (k+1)=c.take k++[at' c (k:Int)]:=by
  rw[List.take_add_one,List.getElem?_eq_getElem a];congr 1;have:=gR (xs:=c) (i:=k);rw[this,List.getD_eq_getElem?_getD,List.getElem?_eq_getElem a];rfl
 rw[e,List.map_append,List.append_assoc];congr 1;show _::_=[_]++_;rw[show c.length - (k+1)=j by omega];rfl
theorem Xo {m:Nat} {c:bG} {k:Nat} (a:k<=c.length):(JW m c k).length=c.length:=by
 unfold JW;simp;omega
theorem Xn {m:Nat} {c:bG}:JW m c c.length=c.map (λl=>l.take m):=by
 unfold JW;rw[List.take_length,Nat.sub_self];simp
theorem If {m:Nat} {c:bG} {v:Nat} (a:v<c.length):at' (c.map (λl=>l.take m)) (v:Int)=(at' c (v:Int)).take m:=Tk (λl:aS=>l.take m) (by omega) (by omega)
theorem IV {m:Nat} {l:aS} {i:Nat} (a:i<m):at' (l.take m) (i:Int)=at' l (i:Int):=by
 rw[gR,gR,List.getD_eq_getElem?_getD,List.getD_eq_getElem?_getD,List.getElem?_take_of_lt a]
theorem abo {g:GR} {c b:aS} {v x:Nat} {a:Int} (h:Yb g c v x a) (e:at' b (x:Int)=at' c (x:Int)):Yb g b v x a:=by
 unfold Yb at h ⊢;rw[e];exact h
theorem MM.cut {g:GR} {hs:aS} {c:bG} {m:Nat} (h:MM g hs c) (j:m<=hs.length):MM g (hs.take m) (c.map (λl=>l.take m)):=by
 refine⟨by simpa using h.1,λv d=> ?_⟩
 have b:v<c.length:=by rw[h.1];exact d
 rw[If b];obtain⟨i,e⟩:=h.2 v d;refine⟨by simp;omega,λx f=> ?_⟩
 have a:x<m:=by simp at f;omega
 rw[IV a];exact abo (e x (by omega)) (IV a)
end Go.Proofs.YtmdlcmbplnhdnaaGreatDoor
namespace Go.Proofs.YtmdlcmbplnhdnaaGreatDoor
open Go Go.Sx
def rH (g:GR):aS:=[(g.2.length:Int),-1,1,1,3,1]
theorem cfS {g:GR} {c:bG} (k:0<g.2.length) (a:Dx g c fO):MM g (rH g) c:=by
 refine⟨a.len,λv b=>⟨a.row v b,λx d=> ?_⟩⟩
 obtain⟨⟨f,h⟩,i,j⟩:=Nn (W:=QK) a b;obtain⟨l,m,n,o⟩:=aeN a b;have d:x<6:=d;unfold Yb
 match x,d with
 |0,_=>
  have e:at' (rH g) ((0:Nat):Int)=(g.2.length:Int):=rfl;rw[e,if_neg (by omega)];exact⟨f,h⟩
 |1,_=>
  have e:at' (rH g) ((1:Nat):Int) = -1:=rfl;rw[e,if_pos Z];exact⟨i,j⟩
 |2,_=>
  have e:at' (rH g) ((2:Nat):Int)=1:=rfl;rw[e,if_neg (by omega)];show 0<=mD c v 2∧mD c v 2<=1;omega
 |3,_=>
  have e:at' (rH g) ((3:Nat):Int)=1:=rfl;rw[e,if_neg (by omega)];show 0<=mD c v 3∧mD c v 3<=1;omega
 |4,_=>
  have e:at' (rH g) ((4:Nat):Int)=3:=rfl;rw[e,if_neg (by omega)];show 0<=mD c v 4∧mD c v 4<=3;omega
 |5,_=>
  have e:at' (rH g) ((5:Nat):Int)=1:=rfl;rw[e,if_neg (by omega)];show 0<=mD c v 5∧mD c v 5<=1;omega
def ZS (c:bG) (v:Nat):Prop:=mD c v 2=0∧mD c v 5=0∧mD c v 3=mD c 0 3
section
variable {g:GR} (hV:VG g) (hc:EU g) {d:List Int} (hD:qZ g 0 d)
 include hV
theorem aeI {c:List (List Int)} (n:c.length=g.2.length) (h:∀v,v<g.2.length->(at' c (v:Int)).length=6):((∀v,v<g.2.length->ZS c v)->bI (jZ c) 1000 0=some true)∧(¬(∀v,v<g.2.length->ZS c v)->bI (jZ c) 1000 0=some false):=by
 have l:=hV.n24;have m:(at' c 0).length=6:=h 0 (by have:=hV.n1;omega);refine yR (step:=jZ c) (K:=some true) (bad:=some false) g.2.length (ZS c) (λk=>(k:Int)) (λk i f a=> ?_) (λk i f a=> ?_) (λi=> ?_) 1000 (by omega)
 ·have:=h k f;unfold jZ qJ;rw[if_pos (by omega),cA (by omega),cA (by omega),if_neg (λq=>q a.1),cA (by omega),if_neg (λq=>q a.2.1),cA (by omega),cA (by omega),cA (by omega),if_neg (λq=>by rw[decide_eq_true_eq]at q;exact q a.2.2),Ey (by omega)]
 ·have:=h k f;unfold jZ qJ;rw[if_pos (by omega),cA (by omega),cA (by omega)];by_cases b:at' (at' c (k:Int)) 2=0
  ·rw[if_neg (by simpa using b),cA (by omega)];by_cases e:at' (at' c (k:Int)) 5=0
   ·rw[if_neg (by simpa using e),cA (by omega),cA (by omega),cA (by omega),if_pos];rw[decide_eq_true_eq];exact λj=>a ⟨b,e,j⟩
   ·rw[if_pos e,if_pos Z]
  ·rw[if_pos b,if_pos Z]
 ·unfold jZ;rw[if_neg (by omega)];rfl
 include hc hD
theorem abM {c:List (List Int)} (t:Dx g c fO):∃b,jU 1000 g c=some b∧(b=true↔Hv g d c∧Qt g.2.length (sC c) (bC c)∧∀v,v<g.2.length->rC c v=0):=by
 have C:=hV.n24;have I:=hV.n1;have e:MM g (rH g) c:=cfS (by omega) t;have f:∀v,v<g.2.length->(at' c (v:Int)).length=6:=λv a=>(e.2 v a).1;have F:=JV hV (hs:=rH g) (by simp[rH]) c;have z:dR 1000 (g.1,g.2)=some true:=(wX hV).1 hc;have A:kT 1000 g c=some true:=by
  unfold kT zU j_;rw[z,bB Z,bB Z,if_pos Z];have:fJ 1000 (g.1,g.2) c [(g.1.length:Int),-1,1,1,3,1]=fJ 1000 g c (rH g):=by rw[hV.len];rfl
  rw[this,F.1 e];rfl
 have o:=e.1;have n:MM g [(g.2.length:Int),-1] (c.map λl=>l.take 2):=e.cut (m:=2) (by simp[rH]);have p:∀v,v<g.2.length->(FC g d v (at' (c.map λl=>l.take 2) (v:Int))↔FC g d v (at' c (v:Int))):=λv a=>by
  rw[If (by omega)];unfold FC;have G:at' ((at' c (v:Int)).take 2) 0=at' (at' c (v:Int)) 0:=IV (i:=0) (by omega);have u:at' ((at' c (v:Int)).take 2) 1=at' (at' c (v:Int)) 1:=IV (i:=1) (by omega);rw[G,u]
 obtain⟨u,H⟩:=Pb hV hD Z hc (c:=c.map λl=>l.take 2) n;have B:jU 1000 g c=Option.bind (wF 1000 g (c.map λl=>l.take 2)) λr=>qI 1000 c (!r):=by
  unfold jU;rw[show kT 1000 (g.1,g.2) c=some true from A,bB Z,if_neg (by simp),cA (by omega)];have q:=eS (step:=tD 1000 g c) (K:=xS 1000 g c (JW 2 c c.length)) c.length (λk=>((k:Int),JW 2 c k)) (λk y D=> ?_) (λy=> ?_) 1000 (by omega)
  ·rw[show(((0:Nat):Int),JW 2 c 0)=((0:Int),List.replicate (Int.toNat (c.length:Int)) ([]:List Int)) by simp[JW]]at q;rw[q,Xn];rfl
  ·have E:=f k (by omega);unfold tD;dsimp only;rw[if_pos (by omega),cA (by omega),cA (by omega),cA (by rw[Xo (by omega)];omega),Ey (by omega)];have:=Vh (m:=2) D;rw[show Int.toNat (k:Int)=k from rfl,show Int.toNat (2:Int)=2 from rfl,this]
  ·unfold tD;dsimp only;rw[if_neg (by omega)]
 obtain⟨w,x⟩:=aeI hV o f;rw[B];by_cases s:∀v,v<g.2.length->FC g d v (at' c (v:Int))
 ·rw[u λv a=>(p v a).2 (s v a),bB Z];unfold qI;rw[if_neg (by simp)];by_cases j:∀v,v<g.2.length->ZS c v
  ·exact⟨true,w j,⟨λ_=>⟨s,λv a=>⟨(j v a).1,(j v a).2.2⟩,λv a=>(j v a).2.1⟩,λ_=>rfl⟩⟩
  ·exact⟨false,x j,⟨λh=>(by cases h),λh=>absurd (λv a=>⟨(h.2.1 v a).1,h.2.2 v a,(h.2.1 v a).2⟩) j⟩⟩
 ·rw[H λh=>s λv a=>(p v a).1 (h v a),bB Z];unfold qI;rw[if_pos (by simp)];exact⟨false,rfl,⟨λh=>(by cases h),λh=>absurd (λv a=>h.1 v a) s⟩⟩
end
theorem aaN {g:GR} (m:VM g.1 g.2) (h:∀v:Nat,1<=v->v<g.2.length->∃u:Nat,u<v∧mV g.2 u v):EU g:=by
 have f:VG g:=m.vg;have t:=f.n1;have j:∀v,v<g.2.length->∃k,yL g 0 k v:=by
  intro v
  induction v using Nat.strongRecOn with
  | _ v ih =>
   intro c;by_cases l:v=0
   ·subst l;exact⟨0,rfl,c⟩
   ·obtain⟨u,e,x,s,p⟩:=h v (by omega) c;obtain⟨k,r⟩:=ih u e (by omega);obtain⟨i,q,d⟩:=EE s;refine⟨k+1,u,r,i,q,?_⟩
    show(at' (at' g.2 (u:Int)) (i:Int)).1=_;rw[d,p]
 intro u v e c;obtain⟨a,n⟩:=j u e;obtain⟨b,o⟩:=j v c;exact⟨a+b,(Gn f n).trans o⟩
structure Wu (g:GR) (d:aS) (E:Nat) (par fp:Nat->Nat):Prop where
 v:VG g
 c:EU g
 dist:qZ g 0 d
 d0:∀v,v<g.2.length->0<=D d v
 p:TP g d par fp
 e:∀v,v<g.2.length->D d v<=(E:Int)
 en:E<g.2.length
 ecc:jP 1000 g 0=some (E:Int)
structure agk (g:GR) (d:aS) (E:Nat) (par fp:Nat->Nat):Prop extends Wu g d E par fp where
 refEcc:iC 1000 g 0=some (E:Int)
theorem akb (x:OC) (a:Nat) (n:1<=a) (k:a<=24):∃g d E e j,fK 1000 x (a:Int)=some g∧g.2.length<=a∧Wu g d E e j:=by
 obtain⟨g,t,i,w,q⟩:=No x a n k;have h:VG g:=i.vg;have y:=h.n1;have l:=aaN i q;obtain⟨r,z,o⟩:=Df h l (s:=0) (by omega);obtain⟨d,_,f,m,v,c,A⟩:=o;have b:∀v,v<g.2.length->0<=D d v:=λv c=>(Pm h (s:=0) (by omega) f).2 l v (by rw[f.len];exact c);obtain⟨e,j,p⟩:=ahu h f b;have B:=b v c;have C:=f.hi v c;have u:r<(g.2.length:Int):=by
  have F:=f.lt c;omega
 refine⟨g,d,r.toNat,e,j,t,w,⟨h,l,f,b,p,λv c=> ?_,by omega,?_⟩⟩
 ·have:=m v c;omega
 ·rw[Int.toNat_of_nonneg (by omega)];exact z
theorem akc (x:OC) (a:Nat) (l:1<=a) (h:a<=24):∃g d E b f,fK 1000 x (a:Int)=some g∧g.2.length<=a∧agk g d E b f:=by
 obtain⟨g,d,E,b,f,n,o,N⟩:=akb x a l h;have p:=N.v.n1;obtain⟨r,q,m⟩:=Df N.v N.c (s:=0) (by omega);obtain⟨t,j,i,_⟩:=Mj N.v (s:=0) (by omega);have e:=QY m (i N.c);have k:=Option.some.inj (q.symm.trans N.ecc);exact⟨g,d,E,b,f,n,o,N,by rw[<-k,e];exact j⟩
theorem agK:Dt RS=CQ:=rfl
theorem Qc:xT fO.length RS=true:=abR
theorem ahA:∀x,x<fO.length->DI (at' fO (x:Int)) ∧ -100000<=(at' fO (x:Int)).2.2.1∧(at' fO (x:Int)).2.2.1<=(at' fO (x:Int)).2.2.2.1:=by
 intro x a;have a:x<6:=a
 match x,a with
 |0,_=>exact⟨⟨by decide,by decide,by decide⟩,by decide,by decide⟩
 |1,_=>exact⟨⟨by decide,by decide,by decide⟩,by decide,by decide⟩
 |2,_=>exact⟨⟨by decide,by decide,by decide⟩,by decide,by decide⟩
 |3,_=>exact⟨⟨by decide,by decide,by decide⟩,by decide,by decide⟩
 |4,_=>exact⟨⟨by decide,by decide,by decide⟩,by decide,by decide⟩
 |5,_=>exact⟨⟨by decide,by decide,by decide⟩,by decide,by decide⟩
theorem Vf {p:sB} {g:GR} (d:VG g) (R:List RL) (c:bG):Dd 0 (0,0,0,0,eB .u32 ((pB (aR p g) R (eR g) c:Nat):Int) 16777215) 0 0 (pB (aR p g) R (eR g) c):=by
 have a:pB (aR p g) R (eR g) c<16777216:=QT.lt d (Ka (aR p g) R (eR g) c);have b:eB .u32 ((pB (aR p g) R (eR g) c:Nat):Int) 16777215=((pB (aR p g) R (eR g) c:Nat):Int):=by
  rw[show(16777215:Int)=((16777215:Nat):Int)from rfl,DL (by omega) (by omega),show(16777215:Nat)=2^24 - 1 from rfl,Nat.and_two_pow_sub_one_eq_mod,Nat.mod_eq_of_lt (by omega)]
 exact⟨rfl,⟨by dsimp only;omega,by dsimp only;omega⟩,rfl,rfl,b,by omega,a⟩
abbrev pS:sB:=(ByteArray.mk #[114,101,115,101,116],fO,[])
def SY (g:GR) (d:aS) (c:bG):Prop:=Hv g d c∧Qt g.2.length (sC c) (bC c)∧∀v,v<g.2.length->rC c v=0
structure ahQ (g:GR) (kind:Int) (k len:Nat) (cs:zY) (cnts:List CT):Prop where
 l1:cs.length=k+1
 l2:cnts.length=k+1
 le:k<=len
 step:∀j,j<k->∃t,(∀i,t.testBit i=true->(pB (aR pS g) RS (eR g) (at' cs (j:Int))).testBit i=true)∧pB (aR pS g) RS (eR g) (at' cs (j:Int))≠0∧at' cs ((j+1:Nat):Int)=iJ (aR pS g) fO RS (at' cs (j:Int)) t∧(kind=4->t=pB (aR pS g) RS (eR g) (at' cs (j:Int)))
 fin:k=len∨pB (aR pS g) RS (eR g) (at' cs (k:Int))=0
section
variable {g:GR} {d:List Int} {E:Nat} {par fp:Nat->Nat} (N:Wu g d E par fp) {kind:Int} (hk1:1<=kind) (hk4:kind<=4) {c0:List (List Int)} {ws:List Int} (hws:ws.length<=900) (hw:∀k:Nat,k<ws.length->∃m:Nat,at' ws (k:Int)=(m:Int)∧m<4294967296)
 include N
theorem LQ {c:List (List Int)} (a:Dx g c fO):pB (aR pS g) RS (eR g) c=0↔SY g d c:=aeH N.v N.dist N.d0 N.p a
theorem aeW (a:Dx g c0 fO):Ri g d E par (λv=>(D d v).toNat) (.tree 0) c0:=⟨a,Nat.zero_le _,Mv N.d0 λv b=>(Nn (W:=QK) a b).1.1⟩
 include hk1 hk4 hws hw
theorem akg {i:SR} (s:Ri g d E par (λv=>(D d v).toNat) i c0):
  ∃k l f,wJ 1000 BP g kind c0 ws=some (l,f,true)∧ahQ g kind k ws.length l f∧at' l 0=c0∧(∀j,j<=k->LA g d E par j (at' l (j:Int)) (at' f (j:Int)))∧
   (kind=4->∀j,j<=k->∃B,Dd j (at' f (j:Int)) j B (pB (aR pS g) RS (eR g) (at' l (j:Int)))∧AR (BM E) (7*E+4) (Ri g d E par (λv=>(D d v).toNat)) (TsR g d E par (λv=>(D d v).toNat)) j (pB (aR pS g) RS (eR g) (at' l (j:Int))) (at' l (j:Int))):=by
 have A:=abW (p:=pS) N.v N.dist N.d0 N.p (MF N.v) N.e;have x:=Pw (p:=pS) N.v N.dist N.d0 N.p (MF N.v) N.e s;obtain⟨k,l,f,F,G,H,I,r,J,K⟩:=YT (PV 1000) agK N.v (MF N.v) Qc hk1 hk4 s.1 hws hw (λk c o=>LA g d E par k c o∧(k=0->c=c0)∧
   (kind=4->∃B,Dd k o k B (pB (aR pS g) RS (eR g) c)∧AR (BM E) (7*E+4) (Ri g d E par (λv=>(D d v).toNat)) (TsR g d E par (λv=>(D d v).toNat)) k (pB (aR pS g) RS (eR g) c) c))
  ⟨x,λ_=>rfl,λ_=>⟨0,Vf N.v RS c0,AR.start A s⟩⟩
  (λk c o t y L U z Q q h hk4 n=>⟨Sk (p:=pS) N.v N.dist N.d0 N.p (MF N.v) N.e (by omega) z.1 q h n,λe=>by omega,λe=>by
   obtain⟨B,M,O⟩:=z.2.2 e;have R:t<16777216:=QT.lt N.v (λi P=>(EH.1 (h i P)).1);have u:pB (aR pS g) RS (eR g) (iJ (aR pS g) fO RS c t)<16777216:=QT.lt N.v (Ka (aR pS g) RS (eR g) _);obtain⟨T,C,S,a,b,c⟩:=JC A O ⟨h,rfl⟩ M (by omega) R q u n;obtain⟨rfl,rfl⟩:=c (hk4 e);exact⟨C,a,b⟩⟩)
 exact⟨k,l,f,F,⟨G,H,I,J,K⟩,(r 0 (Nat.zero_le _)).2.1 Z,λj w=>(r j w).1,λe j w=>(r j w).2.2 e⟩
end
end Go.Proofs.YtmdlcmbplnhdnaaGreatDoor
namespace Go.Proofs.YtmdlcmbplnhdnaaGreatDoor
open Go.Sx
def jT (U:Nat) (a:cF):Option ((Int×Bool×Bool×Int×Int)):=
 Option.bind (zU U ((a.1,a.2))) λb=>(if(!b)=true then(some (((0:Int),false,false,(0:Int),(0:Int))))else(Option.bind (jP U ((a.1,a.2)) (0:Int)) λc=>(some (((3:Int),true,true,(wI .i64 ((wI .i64 ((7:Int)*c))+(4:Int))),(-1:Int))))))
theorem Rx:aV Tryz.prog 20:=Tryz.call20
theorem BS (U:Nat) {d:cF} (a:Value)  (b:Value)  (f:kH) (r:(Int×Bool×Bool×Int×Int)) (h:jT U d=some r):
  aX Tryz.prog 20 #[Value.agg #[a,b]] [Sl bP a d.1,S2 a_ b f d.2] (λx:Unit=>Value.agg #[vI (r.1),vB (r.2.1),vB (r.2.2.1),vI (r.2.2.2.1),vI (r.2.2.2.2)]) (λx l=>l) (λ_ l=>l):=by
 refine aX.of Tryz.func20 Z Tryz.ntmps20 Z λc=>?_;refine aW<|aG (aN.box (cs:=[a,b]) Z Z) Z λk=>aG (aN.alloc (cs:=vD5) Z Z) Z λm=>aM<|aK<|aW<|dV 1 Z<|eX h λg i h=>aG (aN.callQ WX (Iv U a b f g i) Z (n_ [0,1] Z)) Z λn=>aB (mE Z) Z<|aM ?_;refine Ab h Z (λ_ h=>?_) λ_ h=>?_
 ·refine aW ?_;refine aB (Hw (r:=Value.agg #[vI (0:Int),vB (false),vB (false),vI (0:Int),vI (0:Int)]) (by intro w;simp[Instr.build,Instr.fill,dL,cT,cM,dM,dN,cU,eQ])) Z ?_;refine bQ 0 (vs:=vD5) Z Z Z Z Z Z<|aM<|aU<|aI ?_;cases h;exact fV () Z Z (RV.cell 0 Z Z Z Z) .nil aF.nil
 refine cK<|aW<|dV 1 Z<|eX h λe j h=>aG (aN.callQ adr (En U a b f e j) Z (n_ [0,1] Z)) Z λo=>aB (AT Z Z) Z<|cI Z ?_;refine aB (Y.bld5 (r:=Value.agg #[vI (3:Int),vB (true),vB (true),vI (wI .i64 ((wI .i64 ((7:Int)*e))+(4:Int))),vI (-1:Int)]) Z Z Z Z Z (by intro w;simp[Instr.build,Instr.fill,dL,cT,cM,dM,dN,cU,eQ])) Z ?_;refine bQ 0 (vs:=[vI (3:Int),vB (true),vB (true),vI (wI .i64 ((wI .i64 ((7:Int)*e))+(4:Int))),vI (-1:Int)]) Z Z Z Z Z Z<|aM<|aU ?_;cases h;exact fV () Z Z (RV.cell 0 Z Z Z Z) .nil aF.nil
def Eb (U:Nat) (a:cF):Option (Bool):=
 Option.bind (gU U ((a.1,a.2))) λb=>(some (b))
theorem ads:aV Tryz.prog 41:=Tryz.call41
theorem Qq (U:Nat) {d:cF} (a:Value)  (b:Value)  (e:kH) (r:Bool) (h:Eb U d=some r):
  aX Tryz.prog 41 #[Value.agg #[a,b]] [Sl bP a d.1,S2 a_ b e d.2] (λx:Unit=>vB (r)) (λx l=>l) (λ_ l=>l):=by
 refine aX.of Tryz.func41 Z Tryz.ntmps41 Z λc=>?_;refine aW<|aG (aN.box (cs:=[a,b]) Z Z) Z λi=>aC Z<|aM<|aW<|dV 0 Z<|eX h λf g h=>aG (aN.callQ adD (Hf U a b e f g) Z (n_ [0,1] Z)) Z λj=>aC Z<|aM<|aU ?_;cases h;exact sE Z
def uL (U:Nat) (a:cF):Option ((Int×Bool×Bool×Int×Int)):=
 Option.bind (Eb U ((a.1,a.2))) λb=>(if(!b)=true then(some (((0:Int),false,false,(0:Int),(0:Int))))else(Option.bind (iC U ((a.1,a.2)) (0:Int)) λc=>(some (((3:Int),true,true,(wI .i64 ((wI .i64 ((7:Int)*c))+(4:Int))),(-1:Int))))))
theorem adj:aV Tryz.prog 21:=Tryz.call21
theorem Lv (U:Nat) {d:cF} (a:Value)  (b:Value)  (f:kH) (r:(Int×Bool×Bool×Int×Int)) (h:uL U d=some r):
  aX Tryz.prog 21 #[Value.agg #[a,b]] [Sl bP a d.1,S2 a_ b f d.2] (λx:Unit=>Value.agg #[vI (r.1),vB (r.2.1),vB (r.2.2.1),vI (r.2.2.2.1),vI (r.2.2.2.2)]) (λx l=>l) (λ_ l=>l):=by
 refine aX.of Tryz.func21 Z Tryz.ntmps21 Z λc=>?_;refine aW<|aG (aN.box (cs:=[a,b]) Z Z) Z λk=>aG (aN.alloc (cs:=vD5) Z Z) Z λm=>aM<|aK<|aW<|dV 1 Z<|eX h λg i h=>aG (aN.callQ ads (Qq U a b f g i) Z (n_ [0,1] Z)) Z λn=>aB (mE Z) Z<|aM ?_;refine Ab h Z (λ_ h=>?_) λ_ h=>?_
 ·refine aW ?_;refine aB (Hw (r:=Value.agg #[vI (0:Int),vB (false),vB (false),vI (0:Int),vI (0:Int)]) (by intro w;simp[Instr.build,Instr.fill,dL,cT,cM,dM,dN,cU,eQ])) Z ?_;refine bQ 0 (vs:=vD5) Z Z Z Z Z Z<|aM<|aU<|aI ?_;cases h;exact fV () Z Z (RV.cell 0 Z Z Z Z) .nil aF.nil
 refine cK<|aW<|dV 1 Z<|eX h λe j h=>aG (aN.callQ agC (Es U a b f e j) Z (n_ [0,1] Z)) Z λo=>aB (AT Z Z) Z<|cI Z ?_;refine aB (Y.bld5 (r:=Value.agg #[vI (3:Int),vB (true),vB (true),vI (wI .i64 ((wI .i64 ((7:Int)*e))+(4:Int))),vI (-1:Int)]) Z Z Z Z Z (by intro w;simp[Instr.build,Instr.fill,dL,cT,cM,dM,dN,cU,eQ])) Z ?_;refine bQ 0 (vs:=[vI (3:Int),vB (true),vB (true),vI (wI .i64 ((wI .i64 ((7:Int)*e))+(4:Int))),vI (-1:Int)]) Z Z Z Z Z Z<|aM<|aU ?_;cases h;exact fV () Z Z (RV.cell 0 Z Z Z Z) .nil aF.nil
end Go.Proofs.YtmdlcmbplnhdnaaGreatDoor
namespace Go.Proofs.YtmdlcmbplnhdnaaGreatDoor
open Go Go.Sx
section
variable {g:GR} {d:List Int} {E:Nat} {par fp:Nat->Nat} (N:Wu g d E par fp)
 include N
theorem abL:jT 1000 g=some (3,true,true,7*(E:Int)+4,-1):=by
 have a:dR 1000 (g.1,g.2)=some true:=(wX N.v).1 N.c;have b:=N.v.n24;have f:=N.en;have e:wI .i64 (wI .i64 (7*(E:Int))+4)=7*(E:Int)+4:=by rw[show wI .i64 (7*(E:Int))=7*(E:Int)from wr (by omega) (by omega),wr (by omega) (by omega)]
 unfold jT zU;rw[a,bB Z,bB Z,if_neg (by simp),show jP 1000 (g.1,g.2) 0=some (E:Int)from N.ecc,bB Z,e]
 omit N in
theorem Jh (N:agk g d E par fp):jT 1000 g=some (3,true,true,7*(E:Int)+4,-1)∧uL 1000 g=some (3,true,true,7*(E:Int)+4,-1):=by
  refine⟨abL N.toWu,?_⟩
  obtain⟨f,a⟩:=(aba g).1 ⟨N.v,N.c⟩;have b:=N.v.n24;have h:=N.en;have e:wI .i64 (wI .i64 (7*(E:Int))+4)=7*(E:Int)+4:=by rw[show wI .i64 (7*(E:Int))=7*(E:Int)from wr (by omega) (by omega),wr (by omega) (by omega)]
  unfold uL Eb;rw[show gU 1000 (g.1,g.2)=some true from a,bB Z,bB Z,if_neg (by simp),show iC 1000 (g.1,g.2) 0=some (E:Int)from N.refEcc,bB Z,e]
end
end Go.Proofs.YtmdlcmbplnhdnaaGreatDoor
namespace Go.Proofs.YtmdlcmbplnhdnaaGreatDoor
open Go.Sx
def sU (U:Nat) (a:xZ) (b:cF) (c:bG):Option (Bool):=
 Option.bind (nH U ((a.1,a.2.1,a.2.2)) ((b.1,b.2)) c) λd=>(some (decide (d=(0:Int))))
theorem adt:aV Tryz.prog 42:=Tryz.call42
theorem KS (U:Nat) {a:xZ} {g:cF} {j:bG} (b:Value)  (d:Value)  (e:Value)  (f:Value)  (k:kH)  (i:Value)  (m:sD) (r:Bool) (h:sU U a g j=some r):
  aX Tryz.prog 42 #[Value.agg #[vS (a.1),b,d],Value.agg #[e,f],i] [Sl aQ b a.2.1,Sl aJ d a.2.2,PF (Value.agg #[vS a.1,b,d]),Sl bP e g.1,S2 a_ f k g.2,S2 bP i m j] (λx:Unit=>vB (r)) (λx l=>l) (λ_ l=>l):=by
 refine aX.of Tryz.func42 Z Tryz.ntmps42 Z λc=>?_;refine aW<|aG (aN.box (cs:=[vS (a.1),b,d]) Z Z) Z λp=>aG (aN.box (cs:=[e,f]) Z Z) Z λq=>aC Z<|aM<|aW<|dV 1 Z<|dV 0 Z<|aA Z<|eX h λn o h=>aG (aN.callQ W_ (Er U b d e f k i m n o) Z (n_ [0,1,2,3,4,5] Z)) Z λs=>cP Z<|aC Z<|aM<|aU ?_;cases h;exact sE Z
def An (U:Nat) (b:xZ) (d:cF) (e:bG) (a:fP×Int×bG):Option (Int):=
 Option.bind (dB U ((((b.1,b.2.1,b.2.2)),((((b.1,b.2.1,b.2.2)),((d.1,d.2)),a.2.1,a.2.2)),a.1)) e) λc=>(some (c))
def vK (U:Nat) (b:xZ) (c:cF) (e:bG) (a:Int×bG):Option (Int):=
 Option.bind (jW U ((b.1,b.2.1,b.2.2)) ((c.1,c.2))) λd=>(An U b c e (d,a.1,a.2))
def rI (U:Nat) (b:xZ) (c:cF) (d:bG) (a:Int×bG):Option (Int):=
 vK U b c d (a.1,a.2)
def vL (d:cF) (a:Int×Int×bG) (b:(Int×Int×bG)->Option (Int)) (c:bG):Option (Int):=
 b ((wI .i64 (a.1+(1:Int))),(max a.2.1 (at' d.1 a.1)),c)
def oK (U:Nat) (d:cF) (a:Int×Int×bG) (e:(Int×Int×bG)->Option (Int)) (b:Int×bG) (f:(Int×bG)->Option (Int)):Option (Int):=
 if b.1<(List.length (at' d.2 a.1):Int)then(ck (0<=b.1∧b.1<(List.length (at' d.2 a.1):Int)) (ck (0<=a.1∧a.1<(List.length b.2:Int)) (Option.bind (nG U ((d.1,d.2)) ((at' (at' d.2 a.1) b.1).1) a.1) λc=>(ck ((List.length (at' b.2 a.1):Int)+(List.length ([c]):Int)<=1099511627) (ck (0<=a.1∧a.1<(List.length (List.set b.2 (Int.toNat a.1) ((at' b.2 a.1)++[c])):Int)) (f ((wI .i64 (b.1+(1:Int))),(List.set b.2 (Int.toNat a.1) ((at' b.2 a.1)++[c])))))))))else(vL d a e (b.2))
def kF (U:Nat) (d:xZ) (c:cF) (e:bG) (a:Int×Int×bG) (b:(Int×Int×bG)->Option (Int)):Option (Int):=
 if a.1<(List.length c.2:Int)then(ck (0<=a.1∧a.1<(List.length c.2:Int)) (ck (0<=a.1∧a.1<(List.length c.1:Int)) (bI (oK U c a b) U ((0:Int),a.2.2))))else(rI U d c e (a.2.1,a.2.2))
def qF (U:Nat) (b:xZ) (a:cF) (c:bG):Option (Int):=
 Option.bind (sU U ((b.1,b.2.1,b.2.2)) ((a.1,a.2)) c) λd=>(if(!d)=true then(some (0:Int))else(ck (0<=(List.length a.2:Int)∧(List.length a.2:Int)<=1099511627) (bI (kF U b a c) U ((0:Int),(0:Int),(List.replicate (Int.toNat (List.length a.2:Int)) ([]:aS))))))
theorem adk:aV Tryz.prog 22:=Tryz.call22
theorem KW (U:Nat) {d:xZ} {o:cF} {O:bG} (f:Value)  (g:Value)  (p:Value)  (m:Value)  (Q:kH)  (R:Value)  (z6:sD) (r:Int) (h:qF U d o O=some r):
  aX Tryz.prog 22 #[Value.agg #[vS (d.1),f,g],Value.agg #[p,m],R] [Sl aQ f d.2.1,Sl aJ g d.2.2,PF (Value.agg #[vS d.1,f,g]),Sl bP p o.1,S2 a_ m Q o.2,S2 bP R z6 O] (λx:Unit=>vU (r)) (λx l=>l) (λ_ l=>l):=by
 refine aX.of Tryz.func22 Z Tryz.ntmps22 Z λc=>?_;refine aW<|aG (aN.box (cs:=[vS (d.1),f,g]) Z Z) Z λb1=>aG (aN.box (cs:=[p,m]) Z Z) Z λb2=>aC Z<|aM<|aK<|aW<|dV 1 Z<|dV 0 Z<|aA Z<|eX h λr3 w4 h=>aG (aN.callQ adt (KS U f g p m Q R z6 r3 w4) Z (n_ [0,1,2,3,4,5] Z)) Z λx5=>aB (mE Z) Z<|aM ?_;refine Ab h Z (λ_ h=>?_) λ_ h=>?_
 ·refine aW<|aC Z<|aM<|aU<|aI ?_;cases h;exact sE Z
 refine cK<|aW<|dV 1 Z<|dV 0 Z<|AP (A:=fP×Int×bG) (B:=Nat×Nat×Value×List Value×Value×List Value) (vs:=[Value.agg #[vS (d.1),f,g],Value.agg #[p,m]]) (λt=>An U d o O t=some r) (λt b=>vP b.1) (λt b=>[bV b.1 [vS (d.1),f,g,vP b.2.1,b.2.2.1] 108,Ar cZ.raw b.2.2.1 b.2.2.2.1,lD cB b.2.2.2.1 t.1,bV b.2.1 [vS (d.1),f,g,p,m,vI (t.2.1),b.2.2.2.2.1] 137,Ar cZ.raw b.2.2.2.2.1 b.2.2.2.2.2,lD b_ b.2.2.2.2.2 t.2.2]) (λt b=>[Sl aQ f d.2.1,Sl aJ g d.2.2,PF (Value.agg #[vS d.1,f,g]),Sl bP p o.1,S2 a_ m Q o.2,S2 bP R z6 O]) (sG.fn (show aV Tryz.prog 43 from Tryz.call43) Z) Tryz.func43 Z Tryz.ntmps43 Z Z ?_ ?_
 ·refine aW<|aG (aN.box (cs:=[vS (d.1),f,g]) Z Z) Z λI=>aG (aN.box (cs:=[p,m]) Z Z) Z λJ=>aC Z<|aM<|aK ?_;refine JR.start [0,0,0,6,0,0,62,127,255,511] 7 mixedOrders (by decide +kernel) ?_;refine JR.open (by exact rfl) ?_;refine mA 1 Z<|mA 1 Z<|mA 0 Z<|MU (A:=Int×bG) (B:=Nat×Value×List Value) (vs:=[Value.agg #[vS (d.1),f,g],Value.agg #[p,m]]) (λu=>vK U d o O u=some r) (λu n=>vP n.1) (λu n=>[bV n.1 [vS (d.1),f,g,p,m,vI (u.1),n.2.1] 137,Ar cZ.raw n.2.1 n.2.2,lD b_ n.2.2 u.2,bV J [p,m] 29,bV I [vS (d.1),f,g] 60]) (λu n=>[Sl aQ f d.2.1,Sl aJ g d.2.2,PF (Value.agg #[vS d.1,f,g]),Sl bP p o.1,S2 a_ m Q o.2,S2 bP R z6 O]) Z Z Z (sG.fn (show aV Tryz.prog 66 from Tryz.call66) Z) Tryz.func66 Z Tryz.ntmps66 Z Z (λ_ _=>(t_ [([4],[])] Z)) ?_ ?_
  ·refine aW<|aG (aN.box (cs:=[vS (d.1),f,g]) Z Z) Z λao=>aG (aN.box (cs:=[p,m]) Z Z) Z λF=>aC Z<|aM<|aK ?_;refine JR.start [0,0,0,4,12,28,63,127,255] 6 mixedOrders (by decide +kernel) ?_;refine JR.open (by exact rfl) ?_;refine mA 1 Z<|mA 0 Z<|cY Z<|iS 0 Z<|bK Z .nil (lC 4 Z) (iY Z (aE.fact 0 Z) Z) aL.z<|dD h λag h=>JR.stp (wB b_ (Int.toNat (List.length o.2:Int)))<|JR.loud Z Z Z (qP (e:=cZ.raw) (lF) Z Z Z Z ag Z Z Z) Z (λs=>(t_ [([2],[]),([3],[])] Z)) λs=>bM 6 Z Z<|cD (Know.one (aE.sl (bT (i:=0) (j:=1) Z Z dY))) λX=>?_;refine aB (MY (r:=Value.agg #[vS (d.1),f,g,p,m,vI (0:Int),s]) Z Z Z (by intro w;simp[Instr.build,Instr.fill,dL,cT,cM,dM,dN,cU,eQ,fL X])) Z ?_;refine aG (aN.box (cs:=[vS (d.1),f,g,p,m,vI (0:Int),s]) Z Z) Z λv=>aC Z<|aM<|aK<|Ch (B:=fR) (λy=>rI U d o O y=some r) (λy K=>[(5,vP v)]) (λy K=>[bV v [vS (d.1),f,g,p,m,vI (y.1),s] 137,Ar cZ.raw s K,lD b_ K y.2,bV J [p,m] 29,bV I [vS (d.1),f,g] 60]) ?_ ?_
   ·refine aW<|bU Z<|dK 3 Z<|aB (iY Z (aE.fact 4 Z) Z) Z<|aA Z<|aM<|aT<|dZ (B:=fR) (kF U d o O) (λa G=>[(3,vP F),(5,vP v),(19,m),(20,vI (List.length o.2:Int)),(21,vI (a.1))]) (λa G=>[bV v [vS (d.1),f,g,p,m,vI (a.2.1),s] 137,Ar cZ.raw s G,lD b_ G a.2.2,bV F [p,m] 29,bV J [p,m] 29,bV I [vS (d.1),f,g] 60]) ((0:Int),(0:Int),(List.replicate (Int.toNat (List.length o.2:Int)) ([]:aS))) (List.replicate (Int.toNat (List.length o.2:Int)) (lF)) h SF (aY.ix [0,1,2,3,5,6] Z Z) ?_;intro ac a G h;refine aW<|cO Z<|aM<|aK ?_;refine fE h Z (λh=>?_) λh=>?_
    ·refine cK<|aK<|Ch (B:=fR) (λE=>vL o a (bI (kF U d o O) ac) E=some r) (λE L=>[(3,vP F),(5,vP v),(19,m),(20,vI (List.length o.2:Int)),(21,vI (a.1))]) (λE L=>[bV v [vS (d.1),f,g,p,m,vI (max a.2.1 (at' o.1 a.1)),s] 137,Ar cZ.raw s L,lD b_ L E,bV F [p,m] 29,bV J [p,m] 29,bV I [vS (d.1),f,g] 60]) ?_ ?_
     ·refine aT<|aW<|aA Z<|dD h λC h=>aB (cH Z Z (aE.fact 4 Z) Z Z C) Z<|aB (cG Z (aE.fact 4 Z) Z Z C) Z<|aC Z<|aC Z<|aM<|aK ?_;refine JR.start [0,0,2,6,14,0,32,0,224,480,1022,2047,4095,8191] 11 mixedOrders (by decide +kernel) ?_;refine JR.open (by exact rfl) ?_;refine bF Z<|bF Z<|iW Z (bW Z)<|cY Z<|iS 0 Z<|cY Z<|iS 3 Z<|bF Z<|dD h λaa h=>bK Z .nil (lC 3 Z) (aZ Z Z (aE.fact 0 Z) Z Z aa) aL.z<|bK Z .nil (lC 3 Z) (bX Z (aE.fact 0 Z) Z Z Z dG aa) aL.z<|iW Z (Ie Z Z)<|bM 11 Z Z<|aB (bW Z) Z<|bU Z<|gZ 0 Z Z Z Z Z Z<|aM<|aW<|aA Z<|aB (gW Z (aE.el (aE.fact 4 Z) C.1 C.2) Z) Z<|aA Z<|aM<|aT<|dZ (B:=fR) (oK U o a (bI (kF U d o O) ac)) (λq H=>[(3,vP F),(5,vP v),(6,vI (a.1)),(19,m),(20,vI (List.length o.2:Int)),(21,vI (a.1)),(39,(at' Q a.1).1),(40,vI (List.length (at' o.2 a.1):Int)),(41,vI (q.1))]) (λq H=>[bV v [vS (d.1),f,g,p,m,vI (max a.2.1 (at' o.1 a.1)),s] 137,Ar cZ.raw s H,lD b_ H q.2,bV F [p,m] 29,bV J [p,m] 29,bV I [vS (d.1),f,g] 60]) ((0:Int),a.2.2) (G) h SF (aY.refl _) ?_;intro aq q H h;refine aW<|cO Z<|aM<|aK ?_;refine fE h Z (λh=>?_) λh=>?_
      ·refine cK<|aK<|aT<|aW<|dD h λab h=>aB (aZ Z Z (aE.el (aE.fact 4 Z) C.1 C.2) Z Z ab) Z<|aB (iM (cs:=[vI ((at' (at' o.2 a.1) q.1).1),vI ((at' (at' o.2 a.1) q.1).2)]) Z (aE.el (aE.fact 4 Z) C.1 C.2) bR Z Z Z Z ab) Z<|aG (aN.alloc (cs:=Uv) Z Z) Z λap=>bQ 0 (vs:=[vI ((at' (at' o.2 a.1) q.1).1),vI ((at' (at' o.2 a.1) q.1).2)]) Z Z Z Z Z Z<|aM ?_;refine JR.start [0,1,3,7,0,0,32,96,224,0,992,2016,0,0,8192,0,61440,126976,262112,524287,1048575] 19 mixedOrders (by decide +kernel) ?_;refine JR.open (by exact rfl) ?_;refine bF Z<|iW Z (bW Z)<|cY Z<|iS 1 Z<|bF Z<|bF Z<|iW Z (bW Z)<|cY Z<|iS 1 Z<|bF Z<|dD h λP h=>d_ (dJ 3 Z) λS=>?_;refine bK Z (aY.cons 2 Z .nil) .nil (iI 0 Z Z Z Z Z P.1 (by have q1:=P.2;have q2:=S;(try simp only[List.length_set]at q1);(try simp only[List.length_set]at q2);(try simp only[List.length_set]);omega)) aL.z ?_;refine d_ (dJ 3 Z) λT=>bK Z (aY.cons 2 Z .nil) .nil (lY 0 Z Z T Z Z P) aL.z<|mA 4 Z<|cY Z<|iS 0 Z<|bF Z<|eX h λM am h=>JR.loud Z Z Z (aN.callQ Xc (Eo U p m Q M am) Z (n_ [3,4] Z)) Z (λan=>(t_ [([2],[]),([2],[]),([1],[]),([1],[])] Z)) λan=>JR.loud Z Z Z (bY (e:=b_) ([M]) [(0,vI (M))] Z Z Z Z (lR (vI (M)) Z) Z Z Z) Z (λaj=>(t_ [([3],[]),([3],[]),([2],[]),([2],[])] Z)) λaj=>dD h λah h=>JR.loud Z Z Z (oE 4 dY Z Z Z (bE (aE.res 0 Z) dY) Z Z Z Z P ah Z) Z (λae=>(t_ [([2],[])] Z)) λae=>bM 19 Z Z<|dD h λD h=>cD (dJ 4 Z) λV=>?_;refine aB (iI 3 Z Z Z Z Z D.1 (by have q1:=D.2;have q2:=V;(try simp only[List.length_set]at q1);(try simp only[List.length_set]at q2);(try simp only[List.length_set]);omega)) Z ?_;refine cD (zO 4 (k:=a.1) Z ⟨D.1,by first|exact D.2|simpa using D.2⟩) λY=>?_;refine oY 3 4 ⟨D.1,by first|exact D.2|simpa using D.2⟩ Z Z Z Z Z (by simp) Y Z ?_;refine eT<|mQ<|aO<|cI Z<|aA Z<|aM ?_;exact lK ((wI .i64 (q.1+(1:Int))),(List.set q.2 (Int.toNat a.1) ((at' q.2 a.1)++[M]))) (List.set H (Int.toNat a.1) ae) h SF (aY.ix [2,3,4,5,6,7] Z Z) (aF.refl _ _)
      refine qO<|eM<|eM<|wQ<|mQ ?_;exact gM (q.2) (H) h SF Z
     intro E L h;unfold vL at h;refine aO<|cI Z<|aA Z<|aM ?_;exact yX ((wI .i64 (a.1+(1:Int))),(max a.2.1 (at' o.1 a.1)),E) (L) h SF Z
    refine fH ?_;exact cL (a.2.1,a.2.2) (G) h SF (aY.ix [0,1,2,4,5] Z Z) (aF.refl _ _)
   intro y K h;unfold rI at h;refine aW<|aA Z<|aC Z<|aM<|aU ?_;exact sJ (y.1,y.2) (v,s,K) h (.inl Z) (Gj.r1 Z (RV.tmp Z)) Z (aY.refl _) (aF.refl _ _)
  intro u n h;unfold vK at h;refine bK Z (aY.cons 4 Z .nil) .nil (fW 0 Z Z Z Z) (aL.h (aY.ix [1] Z Z) .nil aL.z)<|bK Z (aY.cons 3 Z .nil) .nil (fW 0 Z Z Z Z) (aL.h (aY.ix [0] Z Z) .nil aL.z)<|eX h λad al h=>JR.loud Z Z Z (aN.callQ RF (Bj U f g p m Q ad al) Z (n_ [0,1,2,3,4] Z)) Z (λN=>(t_ [([6],[])] Z)) λN=>bM 7 Z Z<|cD (Know.one (aE.sl (bT (i:=0) (j:=1) Z Z bR))) λW=>?_;refine aB (MY (r:=Value.agg #[vS (d.1),f,g,Value.pointer (some ⟨n.1,0,none⟩),N.1]) Z Z Z (by intro w;simp[Instr.build,Instr.fill,dL,cT,cM,dM,dN,cU,eQ,fL W])) Z ?_;refine aG (aN.box (cs:=[vS (d.1),f,g,vP n.1,N.1]) Z Z) Z λaf=>aC Z<|aM<|aU ?_;exact sJ (ad,u.1,u.2) (af,n.1,N.1,N.2,n.2.1,n.2.2) h (.inl Z) (Gj.r1 Z (RV.tmp Z)) Z (aY.ix [0,1,2,3,4,5] Z Z) (aF.refl _ _)
 intro t b h;refine aA Z<|eX h λai ak h=>aG (aN.callQ RA (qK U b.1 f g b.2.1 f g p m Q b.2.2.2.2.1 (List.zip b.2.2.2.2.2 t.2.2) b.2.2.1 (List.zip b.2.2.2.1 t.1) R z6 ai ak) Z (aF.cons (aE.res 0 Z) (aF.cons (aE.fact 0 Z) (aF.cons (aE.fact 1 Z) (aF.cons (aE.res 3 Z) (aF.cons (aE.fact 0 Z) (aF.cons (aE.fact 1 Z) (aF.cons (aE.fact 3 Z) (aF.cons (aE.fact 4 Z) (aF.cons (bT (i:=4) (j:=5) Z Z dY) (aF.cons (bT (i:=1) (j:=2) Z Z bR) (n_ [5] Z)))))))))))) Z λar=>aC Z<|aM<|aU ?_;cases h;exact sE Z
end Go.Proofs.YtmdlcmbplnhdnaaGreatDoor
namespace Go.Proofs.YtmdlcmbplnhdnaaGreatDoor
open Go Go.Sx
theorem VN {g:GR} (d:VG g) (p:sB) (c:bG):
  bI (kF 1000 p g c) 1000 ((0:Int),(0:Int),(List.replicate (Int.toNat (List.length g.2:Int)) ([]:aS)))=rI 1000 p g c (iR g g.2.length,fC g):=by
 have x:=d.n24;have q:=d.len;let f:Nat->aS:=λv=>(List.range (row g v).length).map (AV g v);let Q:Nat->bG:=λk=>(List.range k).map f++List.replicate (g.2.length - k) [];have n:∀k,k<=g.2.length->(Q k).length=g.2.length:=λk h=>by simp[Q];omega
 rw[show List.replicate (Int.toNat (List.length g.2:Int)) ([]:aS)=Q 0 by simp[Q]];refine eS (step:=kF 1000 p g c) g.2.length (λk=>((k:Int),iR g k,Q k)) (λk b h=> ?_) (λb=> ?_) 1000 (by omega)
 ·have o:=(d.node k h).deg;have r:k<(Q k).length:=by rw[n k (by omega)];exact h
  unfold kF;dsimp only;rw[if_pos (by omega),cA (by omega),cA (by omega)];let a:Nat->aS:=λj=>(List.range j).map (AV g k);have w:Q k=(Q k).set k (a 0):=by
   have:at' (Q k) (k:Int)=a 0:=by
    rw[lO r];simp[Q,a]
   rw[<-this];exact(FQ (Q k) (k:Int) (by simpa using r) (by omega)).symm
  rw[show(Q k)=(Q k).set k (a 0)from w];have e:∀A:bG,A.length=g.2.length->bI (oK 1000 g ((k:Int),iR g k,(Q k).set k (a 0)) b) 1000 ((0:Int),A.set k (a 0))=b (((k+1:Nat):Int),iR g (k+1),A.set k (f k)):=by
   intro A B;refine eS (step:=oK 1000 g ((k:Int),iR g k,(Q k).set k (a 0)) b) (K:=b (((k+1:Nat):Int),iR g (k+1),A.set k (f k))) (row g k).length (λj=>((j:Int),A.set k (a j))) (λj l z=> ?_) (λl=> ?_) 1000 (by omega)
   ·obtain⟨u,s,i⟩:=d.to h z;have y:=(d.node u s).deg;have t:at' (A.set k (a j)) (k:Int)=a j:=by rw[vV _ _ _ _ (by omega),if_pos Z]
    have m:(a j).length=j:=by simp[a]
    unfold oK;dsimp only;rw[if_pos (show(j:Int)<((row g k).length:Int) by omega),cA (show 0<=(j:Int)∧(j:Int)<((row g k).length:Int) by omega),cA (by simp only[List.length_set];omega),show at' (at' g.2 (k:Int)) (j:Int)=fZ (row g k) j from rfl,i,bB (show nG 1000 _ (u:Int) (k:Int)=_ from Mg g u (k:Int) s (by omega)),t,cA (by rw[m];simp;omega),cA (by simp only[List.length_set];omega),fF (by omega),Int.toNat_natCast,List.set_set];have:a j++[Ak (row g u) (k:Int)]=a (j+1):=by
     simp only[a];rw[List.range_succ,List.map_append,List.map_singleton,AV,i,Int.toNat_natCast]
    rw[this]
   ·unfold oK vL;dsimp only;rw[if_neg (show¬((row g k).length:Int)<((row g k).length:Int)from Int.lt_irrefl _),fF (by omega)];rfl
  have:=e (Q k) (n k (by omega));rw[uM f [] g.2.length k h]at this;exact this
 ·unfold kF;dsimp only;rw[if_neg (by omega)];simp[Q,fC,f]
theorem KM {p:sB} {g:GR} {R:List RL} (a:VG g) (d:sN g p.2.1) (i:p.2.2.map yP=Dt R) (f:xT p.2.1.length R=true) {c:bG} (b:Dx g c p.2.1):qF 1000 p g c=some ((ZE (aR p g) R c:Nat):Int):=by
 have e:=a.n24;unfold qF;have h:sU 1000 p g c=some true:=by
  unfold sU;rw[bB (show nH 1000 _ _ c=_ from Pk a d b)];rfl
 rw[bB (show sU 1000 _ _ c=_ from h),if_neg (by decide),cA (by omega),VN a p c];unfold rI vK An;rw[bB (show jW 1000 _ _=_ from K_ a d)];dsimp only;rw[bB (show dB 1000 (p,(p,g,iR g g.2.length,fC g),BU g p.2.1) c=some ((ZE (aR p g) R c:Nat):Int)from Kb a b.shape i f (by simp[BU]))]
end Go.Proofs.YtmdlcmbplnhdnaaGreatDoor
namespace Go.Proofs.YtmdlcmbplnhdnaaGreatDoor
open Go.Sx
def uK (U:Nat) (a:ByteArray):Option ((ByteArray×Int×Int×Int×Int×Int)):=
 some ((a,(2:Int),(0:Int),(0:Int),(0:Int),(0:Int)))
theorem Rz:aV Tryz.prog 33:=Tryz.call33
theorem BR (U:Nat) {a:ByteArray} (r:Qy) (h:uK U a=some r):
  aX Tryz.prog 33 #[vS (a)] [] (λx:Unit=>Value.agg #[vS (r.1),vI (r.2.1),vI (r.2.2.1),vI (r.2.2.2.1),vI (r.2.2.2.2.1),vI (r.2.2.2.2.2)]) (λx l=>l) (λ_ l=>l):=by
 refine aX.of Tryz.func33 Z Tryz.ntmps33 Z λc=>?_;unfold uK at h;refine aW<|aG (aN.alloc (cs:=vD3) Z Z) Z λb=>aM<|aW<|aA Z ?_;refine aB (Ct (r:=Value.agg #[vS (a),vI (2:Int),vI (0:Int),vI (0:Int),vI (0:Int),vI (0:Int)]) Z Z (by intro w;simp[Instr.build,Instr.fill,dL,cT,cM,dM,dN,cU,eQ])) Z ?_;refine bQ 0 (vs:=[vS (a),vI (2:Int),vI (0:Int),vI (0:Int),vI (0:Int),vI (0:Int)]) Z Z Z Z Z Z<|aM<|aU ?_;cases h;exact fV () Z Z (RV.cell 0 Z Z Z Z) .nil aF.nil
def GG (U:Nat)  : Option Zh:=
 Option.bind (GE U) λc=>(Option.bind (uK U (ByteArray.mk #[115])) λa=>(Option.bind (uK U (ByteArray.mk #[98])) λb=>(ck ((List.length c:Int)+(List.length ([(a.1,a.2.1,a.2.2.1,a.2.2.2.1,a.2.2.2.2.1,a.2.2.2.2.2),(b.1,b.2.1,b.2.2.1,b.2.2.2.1,b.2.2.2.2.1,b.2.2.2.2.2)]):Int)<=1099511627) (some (c++([(a.1,a.2.1,a.2.2.1,a.2.2.2.1,a.2.2.2.2.1,a.2.2.2.2.2),(b.1,b.2.1,b.2.2.1,b.2.2.2.1,b.2.2.2.2.1,b.2.2.2.2.2)]))))))
theorem ado:aV Tryz.prog 31:=Tryz.call31
theorem NZ (U:Nat)  (r:Zi) (h:GG U  = some r):
  aX Tryz.prog 31 #[] [] (λx:Value=>x) (λx l=>Ar iK x r::l) (λ_ l=>l):=by
 refine aX.of Tryz.func31 Z Tryz.ntmps31 Z λc=>?_;refine aW<|aC Z<|aM<|aW<|eX h λg j h=>aG (aN.callQ ady (NY U  g j) Z .nil) Z λn=>eX h λa k h=>aG (aN.callQ Rz (BR U  a k) Z .nil) Z λo=>eX h λb m h=>aG (aN.callQ Rz (BR U  b m) Z .nil) Z λp=>aG (bY (e:=iK) ([((a.1,a.2.1,a.2.2.1,a.2.2.2.1,a.2.2.2.2.1,a.2.2.2.2.2)),((b.1,b.2.1,b.2.2.1,b.2.2.2.1,b.2.2.2.2.1,b.2.2.2.2.2))]) [(0,Value.agg #[vS (a.1),vI (a.2.1),vI (a.2.2.1),vI (a.2.2.2.1),vI (a.2.2.2.2.1),vI (a.2.2.2.2.2)]),(1,Value.agg #[vS (b.1),vI (b.2.1),vI (b.2.2.1),vI (b.2.2.2.1),vI (b.2.2.2.2.1),vI (b.2.2.2.2.2)])] Z Z Z Z (Kh (vS (a.1)) (vI (a.2.1)) (vI (a.2.2.1)) (vI (a.2.2.2.1)) (vI (a.2.2.2.2.1)) (vI (a.2.2.2.2.2)) (vS (b.1)) (vI (b.2.1)) (vI (b.2.2.1)) (vI (b.2.2.2.1)) (vI (b.2.2.2.2.1)) (vI (b.2.2.2.2.2))) Z Z Z) Z λi=>dD h λd h=>aG (eN 1 iL Z Z Z (bE (aE.res 0 Z) iL) Z Z Z Z d Z) Z λf=>aC Z<|aM<|aU ?_;cases h;exact fV (f) Z Z (RV.tmp Z) (aY.ix [1] Z Z) aF.nil
def CN (U:Nat)  : Option Zh:=
 Option.bind (GG U) λc=>(Option.bind (xM U (ByteArray.mk #[121]) (3:Int) (0:Int) (0:Int)) λa=>(Option.bind (uK U (ByteArray.mk #[114])) λb=>(ck ((List.length c:Int)+(List.length ([(a.1,a.2.1,a.2.2.1,a.2.2.2.1,a.2.2.2.2.1,a.2.2.2.2.2),(b.1,b.2.1,b.2.2.1,b.2.2.2.1,b.2.2.2.2.1,b.2.2.2.2.2)]):Int)<=1099511627) (some (c++([(a.1,a.2.1,a.2.2.1,a.2.2.2.1,a.2.2.2.2.1,a.2.2.2.2.2),(b.1,b.2.1,b.2.2.1,b.2.2.2.1,b.2.2.2.2.1,b.2.2.2.2.2)]))))))
theorem adh:aV Tryz.prog 12:=Tryz.call12
theorem N_ (U:Nat)  (r:Zi) (h:CN U  = some r):
  aX Tryz.prog 12 #[] [] (λx:Value=>x) (λx l=>Ar iK x r::l) (λ_ l=>l):=by
 refine aX.of Tryz.func12 Z Tryz.ntmps12 Z λc=>?_;refine aW<|aC Z<|aM<|aW<|eX h λg j h=>aG (aN.callQ ado (NZ U  g j) Z .nil) Z λn=>eX h λa k h=>aG (aN.callQ WW (Et U  a k) Z .nil) Z λo=>eX h λb m h=>aG (aN.callQ Rz (BR U  b m) Z .nil) Z λp=>aG (bY (e:=iK) ([((a.1,a.2.1,a.2.2.1,a.2.2.2.1,a.2.2.2.2.1,a.2.2.2.2.2)),((b.1,b.2.1,b.2.2.1,b.2.2.2.1,b.2.2.2.2.1,b.2.2.2.2.2))]) [(0,Value.agg #[vS (a.1),vI (a.2.1),vI (a.2.2.1),vI (a.2.2.2.1),vI (a.2.2.2.2.1),vI (a.2.2.2.2.2)]),(1,Value.agg #[vS (b.1),vI (b.2.1),vI (b.2.2.1),vI (b.2.2.2.1),vI (b.2.2.2.2.1),vI (b.2.2.2.2.2)])] Z Z Z Z (Kh (vS (a.1)) (vI (a.2.1)) (vI (a.2.2.1)) (vI (a.2.2.2.1)) (vI (a.2.2.2.2.1)) (vI (a.2.2.2.2.2)) (vS (b.1)) (vI (b.2.1)) (vI (b.2.2.1)) (vI (b.2.2.2.1)) (vI (b.2.2.2.2.1)) (vI (b.2.2.2.2.2))) Z Z Z) Z λi=>dD h λd h=>aG (eN 1 iL Z Z Z (bE (aE.res 0 Z) iL) Z Z Z Z d Z) Z λf=>aC Z<|aM<|aU ?_;cases h;exact fV (f) Z Z (RV.tmp Z) (aY.ix [1] Z Z) aF.nil
end Go.Proofs.YtmdlcmbplnhdnaaGreatDoor
namespace Go.Proofs.YtmdlcmbplnhdnaaGreatDoor
open Go Go.Sx
theorem afc:CN 1000=some fO:=by kernel_rfl
abbrev pZ (z:List wA):sB:=(ByteArray.mk #[114,101,115,101,116],fO,z)
section
variable {g:GR} {d:List Int} {E:Nat} {par fp:Nat->Nat} (N:Wu g d E par fp)
 include N
theorem agJ {z:List wA} (b:z.map yP=Dt RS) {c:List (List Int)} (a:Dx g c fO):∃e:Int,qF 1000 (pZ z) g c=some e∧(e=0↔SY g d c):=by
 have h:=KM (p:=pZ z) N.v (MF N.v) b Qc a;rw[aaS]at h;refine⟨_,h,?_⟩
 rw[<-LQ N a];exact Int.natCast_eq_zero
theorem ajZ {c:List (List Int)} (a:Dx g c fO):∃b,jU 1000 g c=some b∧(b=true↔SY g d c):=abM N.v N.c N.dist a
end
end Go.Proofs.YtmdlcmbplnhdnaaGreatDoor
namespace Go.Proofs.YtmdlcmbplnhdnaaGreatDoor
open Go.Sx
def uT  (a:Bool):Option (Bool):=
 some (a)
def zL (b:Bool) (a:Bool):Option (Bool):=
 if a=true then(uT  (true))else(uT  ((!b)))
def rT (b:Bool×Int) (a:(Bool×Int)->Option (Bool)) (c:Bool) (d:Bool):Option (Bool):=
 if d=true then(some (false))else(a (c,(wI .i64 (b.2+(1:Int)))))
def rS (d:Dk) (e:Hi) (a:Bool×Int) (b:(Bool×Int)->Option (Bool)) (c:Bool):Option (Bool):=
 if(!c)=true then(ck (0<=a.2∧a.2<(List.length d:Int)) (if e.2.2.2.1<((at' d a.2).2.2.2.1)then(rT a b c (true))else(if(0:Int)<=e.2.2.2.2 then(ck (0<=a.2∧a.2<(List.length d:Int)) (rT a b c (decide (e.2.2.2.2<((at' d a.2).2.1)))))else(rT a b c (false)))))else(rT a b c (false))
def zM (d:List (Bool)) (e:Dk) (f:Hi) (a:Bool×Int) (b:(Bool×Int)->Option (Bool)) (c:Bool):Option (Bool):=
 if c=true then(some (false))else(if a.1=true then(rS e f a b (true))else(ck (0<=a.2∧a.2<(List.length d:Int)) (rS e f a b ((at' d a.2)))))
def mN (c:List (Bool)) (d:Dk) (e:Hi) (f:Bool) (a:Bool×Int) (b:(Bool×Int)->Option (Bool)):Option (Bool):=
 if a.2<(List.length c:Int)then(if a.1=true then(ck (0<=a.2∧a.2<(List.length c:Int)) (zM c d e a b ((!at' c a.2))))else(zM c d e a b (false)))else(zL f (a.1))
def zK (U:Nat) (b:List (Bool)) (c:Dk) (d:Hi) (e:Bool) (a:Bool):Option (Bool):=
 if a=true then(some (false))else(bI (mN b c d e) U (false,(0:Int)))
def AH (U:Nat) (a:List (Bool)) (b:Dk) (c:Hi) (d:Bool):Option (Bool):=
 if(List.length a:Int)≠(List.length b:Int)then(zK U a b c d (true))else(zK U a b c d (decide ((List.length a:Int)=(0:Int))))
theorem adl:aV Tryz.prog 24:=Tryz.call24
theorem Od (U:Nat) {q:List (Bool)} {t:Dk} {a:Hi} {e:Bool} (v:Value)  (w:Value) (r:Bool) (h:AH U q t a e=some r):
  aX Tryz.prog 24 #[v,w,Value.agg #[vI (a.1),vB (a.2.1),vB (a.2.2.1),vI (a.2.2.2.1),vI (a.2.2.2.2)],vB (e)] [Sl RBo v q,Sl rX w t] (λx:Unit=>vB (r)) (λx l=>l) (λ_ l=>l):=by
 refine aX.of Tryz.func24 Z Tryz.ntmps24 Z λc=>?_;refine aW<|aG (aN.box (cs:=[vI (a.1),vB (a.2.1),vB (a.2.2.1),vI (a.2.2.2.1),vI (a.2.2.2.2)]) Z Z) Z λs=>aC Z<|aM<|aK<|aK<|eD (λy=>zK U q t a e y=some r) (λy K=>[(0,v),(1,w),(3,vB (e)),(6,vP s),(20,vB (y))]) (λy K=>[bV s [vI (a.1),vB (a.2.1),vB (a.2.2.1),vI (a.2.2.2.1),vI (a.2.2.2.2)] 54]) ?_ ?_
 ·refine aO<|aA Z<|jB (aE.fact 0 Z) Z<|aA Z<|jB (aE.fact 1 Z) Z<|rF Z<|aA Z ?_;refine Dy h Z (λ_ h=>?_) λ_ h=>?_
  ·refine aH Z<|aH Z<|aH Z<|dO Z<|aM ?_;exact gM (true) () h SF Z
  refine cR Z<|aP Z (gW Z (aE.fact 0 Z) Z) Z<|aP Z (OU Z Z) Z<|fI Z<|aM ?_;exact gM (decide ((List.length q:Int)=(0:Int))) () h SF Z
 intro y K h;refine Ab h Z (λ_ h=>?_) λ_ h=>?_
 ·refine aW<|aC Z<|aM<|aU<|aI ?_;cases h;exact sE Z
 refine cK<|aW<|aC Z<|aM<|aK<|eD (λA=>zL e A=some r) (λA L=>[(3,vB (e)),(9,vB (A))]) (λA L=>[]) ?_ ?_
 ·refine aW<|aC Z<|aM<|aT<|dZ (mN q t a e) (λb C=>[(0,v),(1,w),(3,vB (e)),(6,vP s),(9,vB (b.1)),(10,vI (b.2))]) (λb C=>[bV s [vI (a.1),vB (a.2.1),vB (a.2.2.1),vI (a.2.2.2.1),vI (a.2.2.2.2)] 54]) (false,(0:Int)) () h SF (aY.refl _) ?_;intro u b C h;refine aK<|aW<|aA Z<|aA Z<|jB (aE.fact 0 Z) Z<|cO Z<|aM ?_;refine fE h Z (λh=>?_) λh=>?_
  ·refine cK<|aK<|aT<|aK<|aK<|eD (λg=>zM q t a b (bI (mN q t a e) u) g=some r) (λg D=>[(0,v),(1,w),(3,vB (e)),(6,vP s),(9,vB (b.1)),(10,vI (b.2)),(34,vB (g))]) (λg D=>[bV s [vI (a.1),vB (a.2.1),vB (a.2.2.1),vI (a.2.2.2.1),vI (a.2.2.2.2)] 54]) ?_ ?_
   ·refine aO<|aA Z<|aA Z ?_;refine rW (by exact rfl) (by exact rfl) (λp=>?_) (λp=>?_)
    ·have h:=Ik p h;refine cR Z<|cR Z<|dD h λJ h=>aP Z (aZ Z Z (aE.fact 0 Z) Z Z J) Z<|aP Z (bX Z (aE.fact 0 Z) Z Z Z ack J) Z<|aP Z (mE Z) Z<|dO Z<|aM ?_;exact gM ((!at' q b.2)) () h SF Z
    have h:=DY p h;refine aH Z<|aH Z<|aH Z<|aH Z<|aH Z<|fI Z<|aM ?_;exact gM (false) () h SF Z
   intro g D h;refine Ab h Z (λ_ h=>?_) λ_ h=>?_
   ·refine aW<|aC Z<|aM<|aU<|aI<|bL<|aI<|aI<|bL<|aI ?_;cases h;exact sE Z
   refine cK<|aK<|eD (λd=>rS t a b (bI (mN q t a e) u) d=some r) (λd E=>[(0,v),(1,w),(3,vB (e)),(6,vP s),(9,vB (d)),(10,vI (b.2))]) (λd E=>[bV s [vI (a.1),vB (a.2.1),vB (a.2.2.1),vI (a.2.2.2.1),vI (a.2.2.2.2)] 54]) ?_ ?_
   ·refine aO<|aA Z<|aA Z ?_;refine rW (by exact rfl) (by exact rfl) (λo=>?_) (λo=>?_)
    ·have h:=Ik o h;refine aH Z<|aH Z<|aH Z<|aH Z<|dO Z<|aC Z<|aM ?_;exact gM (true) () h SF Z
    have h:=DY o h;refine cR Z<|cR Z<|dD h λI h=>aP Z (aZ Z Z (aE.fact 0 Z) Z Z I) Z<|aP Z (bX Z (aE.fact 0 Z) Z Z Z ack I) Z<|fI Z<|aC Z<|aM ?_;exact gM ((at' q b.2)) () h SF Z
   intro d E h;unfold rS at h;refine aK<|eD (λi=>rT b (bI (mN q t a e) u) d i=some r) (λi F=>[(0,v),(1,w),(3,vB (e)),(6,vP s),(9,vB (d)),(10,vI (b.2)),(68,vB (i))]) (λi F=>[bV s [vI (a.1),vB (a.2.1),vB (a.2.2.1),vI (a.2.2.2.1),vI (a.2.2.2.2)] 54]) ?_ ?_
   ·refine JR.start [0,1,3,7,7,31,63,127,7,263,1023,2047,4095,8191,16383,32767,65535,65535,262143,524287,1048575,65535,2162687,8388607,16777215,33554431,67108863] 23 mixedOrders (by decide +kernel) ?_;refine JR.open (by exact rfl) ?_;refine bF Z<|iW Z (mE Z)<|bF Z ?_;refine JR.guard (by exact rfl) (by exact rfl) (by exact rfl) (λk=>?_) (λk=>?_)
    ·have h:=Ik k h;refine eF Z .nil .nil (gH Z) aL.z<|eF Z .nil .nil (gH Z) aL.z<|dD h λG h=>eF Z .nil (lC 1 Z) (aZ Z Z (aE.fact 0 Z) Z Z G) aL.z<|eF Z .nil .nil (gA Z Z Z Z Z) aL.z<|eF Z .nil (lC 1 Z) (jQ Z (aE.fact 0 Z) Z Z Z EW G) aL.z<|eF Z .nil .nil (dC Z Z Z Z Z) aL.z<|eF Z (aY.cons 0 Z .nil) .nil (eG 0 Z Z Z Z Z) aL.z<|eF Z .nil .nil (wS Z Z) aL.z<|eF Z .nil .nil (gH Z) aL.z ?_;refine BX (by exact rfl) (by exact rfl) (by exact rfl) (λm=>?_) (λm=>?_)
     ·have h:=Ik m h;refine bO Z Z Z Z<|bO Z Z Z Z<|bO Z Z Z Z<|bO Z Z Z Z<|yD (h:= ?_);refine yD (h:= ?_);refine yD (h:= ?_);refine yD (h:= ?_);refine yD (h:= ?_);refine yD (h:= ?_);refine yD (h:= ?_);refine bM 23 Z Z<|acQ (h:= ?_);refine aH Z<|aP Z (IT Z Z) Z<|dO Z<|aM ?_;exact gM (true) () h SF Z
     have h:=ifN m h;refine eF Z .nil .nil (dC Z Z Z Z Z) aL.z<|eF Z (aY.cons 0 Z .nil) .nil (eG 0 Z Z Z Z Z) aL.z<|eF Z .nil .nil (B_ Z Z) aL.z<|eF Z .nil .nil (gH Z) aL.z ?_;refine BX (by exact rfl) (by exact rfl) (by exact rfl) (λn=>?_) (λn=>?_)
     ·have h:=Ik n h;refine eF Z .nil .nil (gH Z) aL.z<|eF Z .nil .nil (gH Z) aL.z<|dD h λH h=>eF Z .nil (lC 1 Z) (aZ Z Z (aE.fact 0 Z) Z Z H) aL.z<|eF Z .nil .nil (gA Z Z Z Z Z) aL.z<|eF Z .nil (lC 1 Z) (jQ Z (aE.fact 0 Z) Z Z Z EV H) aL.z<|eF Z .nil .nil (dC Z Z Z Z Z) aL.z<|eF Z (aY.cons 0 Z .nil) .nil (eG 0 Z Z Z Z Z) aL.z<|bM 23 Z Z<|aP Z (wS Z Z) Z<|aP Z (IT Z Z) Z<|aP Z (Gr Z Z) Z<|dO Z<|aM ?_;exact gM (decide (a.2.2.2.2<((at' t b.2).2.1))) () h SF Z
     have h:=ifN n h;refine bO Z Z Z Z<|bO Z Z Z Z<|bO Z Z Z Z<|bO Z Z Z Z<|bO Z Z Z Z<|bO Z Z Z Z<|bO Z Z Z Z<|bM 23 Z Z<|aH Z<|aP Z (Gr Z Z) Z<|aP Z (Gr Z Z) Z<|dO Z<|aM ?_;exact gM (false) () h SF Z
    have h:=DY k h;refine bO Z Z Z Z<|bO Z Z Z Z<|bO Z Z Z Z<|bO Z Z Z Z<|bO Z Z Z Z<|bO Z Z Z Z<|bO Z Z Z Z<|bO Z Z Z Z<|bO Z Z Z Z<|yD (h:= ?_);refine yD (h:= ?_);refine yD (h:= ?_);refine yD (h:= ?_);refine yD (h:= ?_);refine yD (h:= ?_);refine yD (h:= ?_);refine yD (h:= ?_);refine yD (h:= ?_);refine yD (h:= ?_);refine yD (h:= ?_);refine bM 23 Z Z<|acQ (h:= ?_);refine acQ (h:= ?_);refine aH Z<|fI Z<|aM ?_;exact gM (false) () h SF Z
   intro i F h;refine Ab h Z (λ_ h=>?_) λ_ h=>?_
   ·refine aW<|aC Z<|aM<|aU<|bL<|aI<|aI<|bL<|aI ?_;cases h;exact sE Z
   refine dW<|mQ<|aO<|aA Z<|cI Z<|aC Z<|aM ?_;exact yX (d,(wI .i64 (b.2+(1:Int)))) () h SF Z
  refine fH ?_;exact cL (b.1) () h SF .nil (aF.refl _ _)
 intro A L h;unfold zL at h;refine aK<|eD (λf=>uT  f=some r) (λf B=>[(8,vB (f))]) (λf B=>[]) ?_ ?_
 ·refine aO<|aA Z<|aA Z ?_;refine rW (by exact rfl) (by exact rfl) (λj=>?_) (λj=>?_)
  ·have h:=Ik j h;refine aH Z<|aH Z<|dO Z<|aC Z<|aM ?_;exact gM (true) () h SF Z
  have h:=DY j h;refine cR Z<|aP Z (mE Z) Z<|fI Z<|aC Z<|aM ?_;exact gM ((!e)) () h SF Z
 intro f B h;unfold uT at h;refine aU ?_;cases h;exact kV Z
end Go.Proofs.YtmdlcmbplnhdnaaGreatDoor
namespace Go.Proofs.YtmdlcmbplnhdnaaGreatDoor
open Go Go.Sx
theorem abi {L:List Bool} {a:List CT} {d:Hi} {b:Bool} {k:Nat} (p:L.length=k+1) (q:a.length=k+1) (r:k<900) (c:∀j,j<k->at' L (j:Int)=true->at' L ((j+1:Nat):Int)=true)
  (f:∀j,j<=k->at' L (j:Int)=false->(at' a (j:Int)).2.2.2.1<=d.2.2.2.1) (s:d.2.2.2.2<0) (g:at' L (k:Int)=false->b=false):AH 1000 L a d b=some true:=by
 unfold AH;rw[if_neg (by omega),decide_eq_false (by omega)];unfold zK;rw[if_neg (by decide)];refine eS (step:=mN L a d b) (K:=some true) (k+1) (λj=>((if j=0 then false else at' L ((j - 1:Nat):Int)),(j:Int))) (λj l m=> ?_) (λl=> ?_) 1000 (by omega)
 ·have o:(if j=0 then false else at' L ((j - 1:Nat):Int))=true->at' L (j:Int)=true:=λh=>by
   by_cases e:j=0
   ·rw[if_pos e]at h;cases h
   ·rw[if_neg e]at h;have:=c (j - 1) (by omega) h;rwa[show j - 1+1=j by omega]at this
  have n:=f j (by omega);have i:rS a d ((if j=0 then false else at' L ((j - 1:Nat):Int)),(j:Int)) l (at' L (j:Int))=l ((if j+1=0 then false else at' L ((j+1 - 1:Nat):Int)),((j+1:Nat):Int)):=by
   rw[if_neg (show¬j+1=0 by omega),show j+1 - 1=j by omega];unfold rS rT;dsimp only;rw[fF (by omega)];cases h:at' L (j:Int)with
   |true=>rw[if_neg (by decide),if_neg (by decide)]
   |false=>
    have:=n h;rw[if_pos (by decide),cA (by omega),if_neg (by omega),if_neg (by omega),if_neg (by decide)]
  unfold mN;dsimp only;rw[if_pos (by omega)];unfold zM;dsimp only;cases h:(if j=0 then false else at' L ((j - 1:Nat):Int))with
  |true=>
   have m:=o h;rw[h,m]at i;rw[if_pos Z,cA (by omega),m,if_neg (by decide),if_pos Z];exact i
  |false=>
   rw[h]at i;rw[if_neg (by decide),if_neg (by decide),if_neg (by decide),cA (by omega)];exact i
 ·unfold mN zL uT;dsimp only;rw[if_neg (by omega),if_neg (show¬k+1=0 by omega),show k+1 - 1=k by omega];cases h:at' L (k:Int)with
  |true=>rw[if_pos Z]
  |false=>rw[if_neg (by decide),g h];rfl
end Go.Proofs.YtmdlcmbplnhdnaaGreatDoor
namespace Go.Proofs.YtmdlcmbplnhdnaaGreatDoor
open Go.Sx
def tQ (U:Nat)  : Option (ByteArray):=
 some (ByteArray.mk #[112,114,111,103,114,97,109,32,114,101,115,101,116,59,10,118,97,114,32,100,32,58,32,48,32,46,46,32,110,59,10,118,97,114,32,112,32,58,32,112,111,114,116,59,10,118,97,114,32,115,32,58,32,98,111,111,108,59,10,118,97,114,32,98,32,58,32,98,111,111,108,59,10,118,97,114,32,121,32,58,32,48,32,46,46,32,51,59,10,118,97,114,32,114,32,58,32,98,111,111,108,59,10,114,117,108,101,32,116,111,112,58,32,114,111,111,116,32,38,38,32,40,100,32,33,61,32,48,32,124,124,32,112,32,33,61,32,110,111,110,101,41,32,45,62,32,100,32,58,61,32,48,44,32,112,32,58,61,32,110,111,110,101,59,10,114,117,108,101,32,108,111,119,58,32,33,114,111,111,116,32,38,38,32,40,100,32,33,61,32,40,109,105,110,40,113,46,100,41,32,60,32,110,32,63,32,109,105,110,40,113,46,100,41,32,43,32,49,32,58,32,110,41,32,124,124,32,112,32,33,61,32,102,105,114,115,116,40,113,46,100,32,61,61,32,109,105,110,40,113,46,100,41,41,41,10,32,32,45,62,32,100,32,58,61,32,40,109,105,110,40,113,46,100,41,32,60,32,110,32,63,32,109,105,110,40,113,46,100,41,32,43,32,49,32,58,32,110,41,44,32,112,32,58,61,32,102,105,114,115,116,40,113,46,100,32,61,61,32,109,105,110,40,113,46,100,41,41,59,10,114,117,108,101,32,98,101,103,105,110,58,32,114,111,111,116,32,38,38,32,33,115,32,38,38,32,114,32,45,62,32,115,32,58,61,32,116,114,117,101,44,32,98,32,58,61,32,33,98,44,32,121,32,58,61,32,48,44,32,114,32,58,61,32,102,97,108,115,101,59,10,114,117,108,101,32,116,97,107,101,58,32,33,114,111,111,116,32,38,38,32,115,111,109,101,40,113,32,61,61,32,112,32,38,38,32,40,113,46,98,32,33,61,32,98,32,124,124,32,115,32,38,38,32,33,113,46,115,41,41,32,45,62,32,115,32,58,61,32,115,111,109,101,40,113,32,61,61,32,112,32,38,38,32,113,46,115,41,44,32,98,32,58,61,32,115,111,109,101,40,113,32,61,61,32,112,32,38,38,32,113,46,98,41,44,32,121,32,58,61,32,48,44,32,114,32,58,61,32,102,97,108,115,101,59,10,114,117,108,101,32,102,105,110,105,115,104,58,32,115,32,38,38,32,97,108,108,40,113,46,112,32,33,61,32,113,46,98,97,99,107,32,124,124,32,33,113,46,115,32,38,38,32,113,46,98,32,61,61,32,98,41,32,45,62,32,115,32,58,61,32,102,97,108,115,101,59,10,114,117,108,101,32,97,115,107,58,32,33,115,32,38,38,32,33,114,32,38,38,32,115,111,109,101,40,113,46,112,32,61,61,32,113,46,98,97,99,107,32,38,38,32,113,46,114,32,38,38,32,33,113,46,115,41,32,45,62,32,114,32,58,61,32,116,114,117,101,59,10])
theorem WO:aV Tryz.prog 10:=Tryz.call10
theorem Hg (U:Nat)  (r:ByteArray) (h:tQ U  = some r):
  aX Tryz.prog 10 #[] [] (λx:Unit=>vS (r)) (λx l=>l) (λ_ l=>l):=by
 refine aX.of Tryz.func10 Z Tryz.ntmps10 Z λc=>?_;unfold tQ at h;refine aW<|aC Z<|aM<|aW<|aC Z<|aM<|aU ?_;cases h;exact kV Z
end Go.Proofs.YtmdlcmbplnhdnaaGreatDoor
namespace Go.Proofs.YtmdlcmbplnhdnaaGreatDoor
open Go Go.Sx Go.Gx
set_option maxRecDepth 100000
def BN (a:Nat):Option (Bool):=some (true)
theorem WQ:aV Tryz.prog 18:=Tryz.call18
theorem Xk:okT (JN HU gp2 4000 18 [] H0)=true:=by kernel_rfl
theorem Lt (a:Nat) (r:Bool) (h:BN a=some r):
  aX Tryz.prog 18 #[] [Gb 0 (cellsOf Hn wP)] (λx:Unit=>Value.bool (r)) (λx l=>l) (λ_ l=>l):=by
 obtain rfl:=Option.some.inj h;obtain⟨d,c⟩:=YD Xk;rw[Gt GT]at c;exact NG XO WQ (λf e h=>h.bool_inv) λT b=>Gs (gs:=gl T) ajW c (fQ.start b Z) .nil
end Go.Proofs.YtmdlcmbplnhdnaaGreatDoor