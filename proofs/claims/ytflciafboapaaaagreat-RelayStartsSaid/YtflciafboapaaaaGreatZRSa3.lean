/- Models and proofs. Conditions: none. -/
import Derived.Test.YtflciafboapaaaaGreatZRSa2
import Derived.Lib.Strings
import Derived.Lib.AppendZeros
import Derived.Laws.CopyRow
import Derived.Laws.StructEq
set_option linter.unusedVariables false
set_option linter.unusedSimpArgs false
set_option maxHeartbeats 4000000
set_option maxRecDepth 20000
namespace Go.Proofs.YtflciafboapaaaaGreat
open Go.Sx
def nG  (a:fY):Option gW:=
 some (a.1,a.2)
def kK (U:Nat) (a:MN) (e:Int) (b:Int×bT) (c:Int):Option gW:=
 ck (0<=((at' a.1.2.1.2 a.2.2.1).length:Int)∧((at' a.1.2.1.2 a.2.2.1).length:Int)<=((24:Nat):Int)∧((at' a.1.2.1.2 a.2.2.1).length:Int)<=(b.2.length:Int)) (Option.bind (Bm U ((at' a.2.2.2 e).1) (List.take (Int.toNat ((at' a.1.2.1.2 a.2.2.1).length:Int)) b.2)) λd=>(nG  (d,c)))
def rP (U:Nat) (b:MN) (c:Int) (a:Int×bT):Option gW:=
 if((at' b.1.2.1.2 b.2.2.1).length:Int)=(0:Int)then(Option.bind (CF U b.2.2.2 c) λd=>(kK U b c a (d)))else(kK U b c a (a.1))
def kL (U:Nat) (b:MN) (e:Int) (f:RX->Int->Int->Option gW) (a:Int×Int×bT) (c:(Int×Int×bT)->Option gW):Option gW:=
 if a.2.1<((at' b.1.2.1.2 b.2.2.1).length:Int)then(Option.bind (f ((((((b.1.1.1,b.1.1.2.1,b.1.1.2.2)),((b.1.2.1.1,b.1.2.1.2)),b.1.2.2.1,b.1.2.2.2)),b.2.1,b.2.2.1,b.2.2.2)) (wI .i64 (e+(1:Int))) a.2.1) λd=>(ck ((0<=a.2.1∧a.2.1<((24:Nat):Int))∧a.2.2.length=24) (c (d.2,(wI .i64 (a.2.1+(1:Int))),(List.set a.2.2 (Int.toNat a.2.1) d.1)))))else(rP U b e (a.1,a.2.2))
def dV (e:RX->Int->Int->Option gW) (U:Nat) (a:MN) (b:Int) (c:Int):Option gW:=
 ck (0<=b∧b<(a.2.2.2.length:Int)) (if((at' a.2.2.2 b).1)<=(17:Int)then(Option.bind (lY U ((((((a.1.1.1,a.1.1.2.1,a.1.1.2.2)),((a.1.2.1.1,a.1.2.1.2)),a.1.2.2.1,a.1.2.2.2)),a.2.1,a.2.2.1,a.2.2.2)) ((((at' a.2.2.2 b).1),((at' a.2.2.2 b).2))) c) λm=>(some (m,(wI .i64 (b+(1:Int))))))else(if((at' a.2.2.2 b).1)<=(19:Int)then(Option.bind (e ((((((a.1.1.1,a.1.1.2.1,a.1.1.2.2)),((a.1.2.1.1,a.1.2.1.2)),a.1.2.2.1,a.1.2.2.2)),a.2.1,a.2.2.1,a.2.2.2)) (wI .i64 (b+(1:Int))) c) λl=>(Option.bind (z_ U ((at' a.2.2.2 b).1) l.1) λj=>(some (j,l.2))))else(if((at' a.2.2.2 b).1)<=(29:Int)then(ck (0<=a.2.2.1∧a.2.2.1<(a.1.2.1.2.length:Int)) (bP (kL U a b e) U ((0:Int),(0:Int),(List.replicate 24 (0:Int)))))else(if((at' a.2.2.2 b).1)<=(42:Int)then(Option.bind (e ((((((a.1.1.1,a.1.1.2.1,a.1.1.2.2)),((a.1.2.1.1,a.1.2.1.2)),a.1.2.2.1,a.1.2.2.2)),a.2.1,a.2.2.1,a.2.2.2)) (wI .i64 (b+(1:Int))) c) λf=>(Option.bind (e ((((((a.1.1.1,a.1.1.2.1,a.1.1.2.2)),((a.1.2.1.1,a.1.2.1.2)),a.1.2.2.1,a.1.2.2.2)),a.2.1,a.2.2.1,a.2.2.2)) f.2 c) λg=>(Option.bind (yN U ((at' a.2.2.2 b).1) f.1 g.1) λk=>(some (k,g.2)))))else(Option.bind (e ((((((a.1.1.1,a.1.1.2.1,a.1.1.2.2)),((a.1.2.1.1,a.1.2.1.2)),a.1.2.2.1,a.1.2.2.2)),a.2.1,a.2.2.1,a.2.2.2)) (wI .i64 (b+(1:Int))) c) λh=>(Option.bind (e ((((((a.1.1.1,a.1.1.2.1,a.1.1.2.2)),((a.1.2.1.1,a.1.2.1.2)),a.1.2.2.1,a.1.2.2.2)),a.2.1,a.2.2.1,a.2.2.2)) h.2 c) λi=>(Option.bind (e ((((((a.1.1.1,a.1.1.2.1,a.1.1.2.2)),((a.1.2.1.1,a.1.2.1.2)),a.1.2.2.1,a.1.2.2.2)),a.2.1,a.2.2.1,a.2.2.2)) i.2 c) λd=>(if h.1≠(0:Int)then(some (i.1,d.2))else(some (d.1,d.2))))))))))
def cC:Nat->RX->Int->Int->Option gW
 |0,_,_,_=>none
 |U+1,p0,p1,p2=>dV (cC U) U p0 p1 p2
theorem Be:bB Tryz.prog 209:=Tryz.call209
theorem CR (rc:RX->Int->Int->Option gW) (U:Nat) (p:∀{a:MN} {m:Int} {O:Int} (b:Nat)  (f:Nat)  (q:Value)  (s:Value)  (t:Value)  (u:Value)  (C:iZ)  (v:Value)  (D:jY)  (w:Value)  (g:jY)  (d:Value) (r:fY),rc a m O=some r->bO Tryz.prog 209 #[vP b,vI (m),vI (O)] [bI b [vP f,w,vI (a.2.2.1),d] 237,bI f [vS (a.1.1.1),q,s,t,u,vI (a.1.2.2.1),v] 206,Sl aG q a.1.1.2.1,Sl aC s a.1.1.2.2,Sl aJ t a.1.2.1.1,S2 aW u C a.1.2.1.2,S2 aJ v D a.1.2.2.2,S2 aJ w g a.2.1,Sl aW d a.2.2.2] (λx:Unit=>Value.tuple #[vI (r.1),vI (r.2)]) (λx l=>l) (λ_ l=>l)) {a:MN} {m:Int} {O:Int} (b:Nat)  (f:Nat)  (q:Value)  (s:Value)  (t:Value)  (u:Value)  (C:iZ)  (v:Value)  (D:jY)  (w:Value)  (g:jY)  (d:Value) (r:fY) (h:dV rc U a m O=some r):
  bO Tryz.prog 209 #[vP b,vI (m),vI (O)] [bI b [vP f,w,vI (a.2.2.1),d] 237,bI f [vS (a.1.1.1),q,s,t,u,vI (a.1.2.2.1),v] 206,Sl aG q a.1.1.2.1,Sl aC s a.1.1.2.2,Sl aJ t a.1.2.1.1,S2 aW u C a.1.2.1.2,S2 aJ v D a.1.2.2.2,S2 aJ w g a.2.1,Sl aW d a.2.2.2] (λx:Unit=>Value.tuple #[vI (r.1),vI (r.2)]) (λx l=>l) (λ_ l=>l):=by
 let P:=(List.replicate 24 (0:Int))
 let G:=vI ((at' a.2.2.2 m).1);let E:=((at' a.1.2.1.2 a.2.2.1).length:Int)
 refine bO.of Tryz.func209 Z Tryz.ntmps209 Z λc=>?_;refine aX<|aH Z<|aH Z<|aP<|aX<|aB Z<|aD (bE Z) Z<|cA Z<|aD (eK Z (aA.fact 0 Z) Z Z Z) Z<|aB Z<|eB h λj1 h=>aD (b_ Z Z (aA.fact 8 Z) Z Z j1) Z<|aD (fN (cs:=[G,vI ((at' a.2.2.2 m).2)]) Z (aA.fact 8 Z) bG Z Z Z Z j1) Z<|aI (aN.alloc (cs:=MV) Z Z) Z λb2=>bL 0 (vs:=[vI ((at' a.2.2.2 m).1),vI ((at' a.2.2.2 m).2)]) Z Z Z Z Z Z<|aP<|aM<|aV<|aX<|cA Z<|eW 0 Z<|aD (FN Z Z) Z<|aH Z<|aP ?_;refine f_ h Z (λh=>?_) λh=>?_
 ·refine aX<|aB Z<|cY 0 Z<|aB Z<|fZ h λr4 w5 h=>aI (zBc XU (EL U b f q s t u C v D w g d r4 w5) Z (g_ [0,1,2,3,4,5,6,7,8] Z)) Z λx6=>aB Z<|dK Z<|aH Z<|aH Z<|aP<|aY<|cE<|aL ?_;cases h;exact kH () Z Z (RV.tmp Z) (RV.tmp Z) .nil aE.nil
 refine aX<|cA Z<|eW 0 Z<|aD (FN Z Z) Z<|aH Z<|aP ?_;refine f_ h Z (λh=>?_) λh=>?_
 ·refine aX<|aB Z<|aB Z<|dK Z<|aB Z<|fZ h λr8 w9 h=>aI (zBc Be (p b f q s t u C v D w g d r8 w9) Z (g_ [0,1,2,3,4,5,6,7,8] Z)) Z λam=>aB Z<|iR Z<|iR Z<|aH Z<|aH Z<|aP<|aX<|cA Z<|eW 0 Z<|aB Z<|fZ h λS ab h=>aI (zBc XV (ME U  S ab) Z .nil) Z λan=>aB Z<|aH Z<|aH Z<|aP<|aY<|cE<|aL ?_;cases h;exact kH () Z Z (RV.tmp Z) (RV.tmp Z) .nil aE.nil
 refine aX<|cA Z<|eW 0 Z<|aD (FN Z Z) Z<|aH Z<|aP ?_;refine f_ h Z (λh=>?_) λh=>?_
 ·refine aX<|aB Z<|cA Z<|eW 0 Z<|aB Z<|vJ (A:=fY) (B:=Unit) (vs:=[vP b,vI ((at' a.2.2.2 m).1),vI (m)]) (λn=>nG  n=some r) (λn I=>Value.tuple #[vI (n.1),vI (n.2)]) (λn I=>[]) (λn I=>[bI b [vP f,w,vI (a.2.2.1),d] 237,bI f [vS (a.1.1.1),q,s,t,u,vI (a.1.2.2.1),v] 206,Sl aG q a.1.1.2.1,Sl aC s a.1.1.2.2,Sl aJ t a.1.2.1.1,S2 aW u C a.1.2.1.2,S2 aJ v D a.1.2.2.2,S2 aJ w g a.2.1,Sl aW d a.2.2.2]) (mO.fn (show bB Tryz.prog 237 from Tryz.call237) Z) Tryz.func237 Z Tryz.ntmps237 Z Z ?_ ?_
  ·refine aX<|aH Z<|aH Z<|aP<|aX ?_;refine aI (aN.alloc (cs:=cellsOf eC P) Z (by kernel_rfl)) Z λo=>?_;refine aP<|aM ?_;refine JR.start [0,1,3,7,15,31,63,127,0,256,768,1792,4095,8191,16383,32767] 12 mixedOrders (by decide +kernel) ?_;refine zBf (by exact rfl) ?_;refine a_ Z<|i_ Z (bE Z)<|cD Z<|bQ Z .nil (mK 0 Z) (eK Z (aA.fact 0 Z) Z Z Z) aO.z<|i_ Z (bE Z)<|cD Z<|cD Z<|bQ Z .nil (mK 1 Z) (eK Z (aA.fact 0 Z) Z Z Z) aO.z<|a_ Z<|i_ Z (bE Z)<|cD Z<|bQ Z .nil (mK 0 Z) (eK Z (aA.fact 0 Z) Z Z Z) aO.z<|bS 12 Z Z<|eB h λF h=>aD (bV Z Z (aA.fact 5 Z) Z Z F) Z<|aD (cM Z (aA.fact 5 Z) Z Z F) Z<|aD (gY Z (zBe (aA.fact 5 Z) F.1 F.2) Z) Z<|aH Z<|aP<|aM<|jH (λk=>rP U a m k=some r) (λk J=>[(0,vP b),(1,G),(2,vI (m)),(7,vI (k.1)),(8,vP o),(9,vI E)]) (λk J=>[bI o (cellsOf eC k.2) 263]) ?_ ?_
   ·refine aX<|aB Z<|aB Z<|aP<|aV<|iI (kL U a m rc) (λj L=>[(0,vP b),(1,G),(2,vI (m)),(7,vI (j.1)),(8,vP o),(9,vI E),(26,vI E),(27,vI (j.2.1))]) (λj L=>[bI o (cellsOf eC j.2.2) 263]) ((0:Int),(0:Int),P) () h SF (aR.ix [0] Z Z) ?_;intro al j L h;refine aX<|dM Z<|aP<|aM ?_;refine f_ h Z (λh=>?_) λh=>?_
    ·refine dC<|aM<|aV<|aX<|aB Z<|aH Z<|aP<|aT<|aB Z<|aB Z<|aB Z<|dK Z<|aB Z<|fZ h λH ae h=>aI (zBc Be (p b f q s t u C v D w g d H ae) Z (g_ [0,1,2,3,4,5,6,7,8] Z)) Z λaq=>aB Z<|iR Z<|iR Z<|eB h λN h=>aD (oQ Z Z Z Z Z N.1) Z<|IS 0 (e:=eC) H.1 N Z Z Z Z Z Z Z<|aH Z<|fH<|oV<|aT<|dK Z<|aB Z<|aP ?_;exact Bw (H.2,(wI .i64 (j.2.1+(1:Int))),(List.set j.2.2 (Int.toNat j.2.1) H.1)) () h SF Z
    refine gC ?_;exact kC (j.1,j.2.2) () h SF Z
   intro k J h;refine aM<|jH (λy=>kK U a m k y=some r) (λy K=>[(1,G),(7,vI (y)),(8,vP o),(9,vI E)]) (λy K=>[bI o (cellsOf eC k.2) 263]) ?_ ?_
   ·refine aX<|aB Z<|eL Z<|aP ?_;refine f_ h Z (λh=>?_) λh=>?_
    ·refine aT<|aB Z<|aD (bE Z) Z<|cA Z<|aD (eK Z (aA.fact 0 Z) Z Z Z) Z<|aB Z<|fZ h λR ad h=>aI (zBc XT (Qr U d R ad) Z (g_ [8] Z)) Z λap=>aH Z<|aP ?_;exact kC (R) () h SF Z
    refine dC ?_;exact kC (k.1) () h SF Z
   intro y K h;refine aX<|aB Z<|aB Z<|eB h λM h=>aD (Po Z Z Z Z M) Z<|fZ h λQ ac h=>aI (zBc XZ (Oo U (Value.slice (some ⟨o,0,none⟩) (Int.toNat E) 24) Q ac) Z (aE.cons (TU (i:=0) Z fO M (by decide)) .nil)) Z λao=>?_;refine aB Z<|aH Z<|aH Z<|aP<|aY ?_;exact iK (Q,y) () h (.inl Z) (BR.r2 Z (RV.tmp Z) (RV.tmp Z)) Z .nil (aE.refl _ _)
  intro n I h;unfold nG at h;refine iR Z<|iR Z<|aH Z<|aH Z<|aP<|aY<|cE<|aL ?_;cases h;exact kH () Z Z (RV.tmp Z) (RV.tmp Z) (aR.refl _) aE.nil
 refine aX<|cA Z<|eW 0 Z<|aD (FN Z Z) Z<|aH Z<|aP ?_;refine f_ h Z (λh=>?_) λh=>?_
 ·refine aX<|aB Z<|aB Z<|dK Z<|aB Z<|fZ h λT af h=>aI (zBc Be (p b f q s t u C v D w g d T af) Z (g_ [0,1,2,3,4,5,6,7,8] Z)) Z λar=>aB Z<|iR Z<|iR Z<|aH Z<|aH Z<|aP<|aX<|aB Z<|aB Z<|aB Z<|fZ h λV ag h=>aI (zBc Be (p b f q s t u C v D w g d V ag) Z (g_ [0,1,2,3,4,5,6,7,8] Z)) Z λau=>aB Z<|iR Z<|iR Z<|aH Z<|aH Z<|aP<|aX<|cA Z<|eW 0 Z<|aB Z<|aB Z<|fZ h λW ah h=>aI (zBc XW (Kq U  W ah) Z .nil) Z λav=>aB Z<|aH Z<|aH Z<|aP<|aY<|cE<|aL ?_;cases h;exact kH () Z Z (RV.tmp Z) (RV.tmp Z) .nil aE.nil
 refine fV<|oV<|aX<|aB Z<|aB Z<|dK Z<|aB Z<|fZ h λX ai h=>aI (zBc Be (p b f q s t u C v D w g d X ai) Z (g_ [0,1,2,3,4,5,6,7,8] Z)) Z λaw=>aB Z<|iR Z<|iR Z<|aH Z<|aH Z<|aP<|aX<|aB Z<|aB Z<|aB Z<|fZ h λY aj h=>aI (zBc Be (p b f q s t u C v D w g d Y aj) Z (g_ [0,1,2,3,4,5,6,7,8] Z)) Z λax=>aB Z<|iR Z<|iR Z<|aH Z<|aH Z<|aP<|aX<|aB Z<|aB Z<|aB Z<|fZ h λaa ak h=>aI (zBc Be (p b f q s t u C v D w g d aa ak) Z (g_ [0,1,2,3,4,5,6,7,8] Z)) Z λay=>aB Z<|iR Z<|iR Z<|aH Z<|aH Z<|aP<|aM<|aX<|aB Z<|oM Z<|aP ?_;refine f_ h Z (λh=>?_) λh=>?_
 ·refine aX<|aB Z<|aB Z<|aH Z<|aH Z<|aP<|aY<|aL ?_;cases h;exact kH () Z Z (RV.tmp Z) (RV.tmp Z) .nil aE.nil
 refine dC<|aX<|aB Z<|aB Z<|aH Z<|aH Z<|aP<|aY ?_;cases h;exact kH () Z Z (RV.tmp Z) (RV.tmp Z) .nil aE.nil
theorem D_ (U:Nat):∀{a:MN} {p:Int} {q:Int} (b:Nat)  (c:Nat)  (f:Value)  (g:Value)  (i:Value)  (j:Value)  (n:iZ)  (k:Value)  (o:jY)  (m:Value)  (e:jY)  (d:Value) (r:fY),cC U a p q=some r->
  bO Tryz.prog 209 #[vP b,vI (p),vI (q)] [bI b [vP c,m,vI (a.2.2.1),d] 237,bI c [vS (a.1.1.1),f,g,i,j,vI (a.1.2.2.1),k] 206,Sl aG f a.1.1.2.1,Sl aC g a.1.1.2.2,Sl aJ i a.1.2.1.1,S2 aW j n a.1.2.1.2,S2 aJ k o a.1.2.2.2,S2 aJ m e a.2.1,Sl aW d a.2.2.2] (λx:Unit=>Value.tuple #[vI (r.1),vI (r.2)]) (λx l=>l) (λ_ l=>l):=by
 induction U with
 |zero=>intros;rename_i h;cases h
 |succ U s=>exact λb c f g i j n k o m e d r h=>CR (cC U) U s b c f g i j n k o m e d r h
end Go.Proofs.YtflciafboapaaaaGreat
namespace Go.Gx
open Go Go.Sx
noncomputable section
inductive GV where
 |int (k:IntKind) (n:Int)
 |bool (b:Bool)
 |str (n len:Nat)
 |ptr (h off:Nat)
 |pnil
 |sl (h off len sz:Nat)
 |snil
 |map (h:Nat)
 |fn (f:FuncId) (first caps:List GV)
 |fnil
 |inil
 |agg (cs:List GV)
 |tup (vs:List GV)
 |un
 |bad
 |opn (h:Nat)
inductive GO where
 |cells (cs:List GV)
 |mp (es:List (GV×GV))
inductive Tr (α:Type) where
 |lf
 |nd (a:Option α) (l r:Tr α)
def ob {b a:Type} (o:Option b) (f:b->Option a):Option a:=Option.casesOn (motive:=λ_=>Option a) o none f
def Tr.get {b:Type} (t:Tr b):Nat->Option b:=Tr.rec (motive:=λ_=>Nat->Option b) (λ_=>none) (λa _ _ c d n=>Bool.casesOn (motive:=λ_=>Option b) (Nat.beq n 0) (Bool.casesOn (motive:=λ_=>Option b) (Nat.beq (Nat.mod n 2) 1) (d (Nat.sub (Nat.div n 2) 1)) (c (Nat.div n 2))) a) t
def Cn {a:Type} (x:Option a) (f:Nat):Nat->Tr a:=Nat.rec (motive:=λ_=>Nat->Tr a) (λ_=> .lf) (λ_ b n=>bif Nat.beq n 0 then .nd x .lf .lf else bif Nat.beq (Nat.mod n 2) 1 then .nd none (b (Nat.div n 2)) .lf else .nd none .lf (b (Nat.sub (Nat.div n 2) 1))) f
def Tr.set {b:Type} (x:Option b) (t:Tr b):Nat->Tr b:=Tr.rec (motive:=λ_=>Nat->Tr b) (λn=>Cn x (Nat.succ n) n) (λa l r c d n=>Bool.casesOn (motive:=λ_=>Tr b) (Nat.beq n 0) (Bool.casesOn (motive:=λ_=>Tr b) (Nat.beq (Nat.mod n 2) 1) (.nd a l (d (Nat.sub (Nat.div n 2) 1))) (.nd a (c (Nat.div n 2)) r)) (.nd x l r)) t
def FM {a R:Type} (x:Option a) (f:Nat):Nat->(Tr a->R)->R:=Nat.rec (motive:=λ_=>Nat->(Tr a->R)->R) (λ_ k=>k .lf) (λ_ b n k=>Bool.casesOn (motive:=λ_=>R) (Nat.beq n 0) (Bool.casesOn (motive:=λ_=>R) (Nat.beq (Nat.mod n 2) 1) (b (Nat.sub (Nat.div n 2) 1) λt=>k (.nd none .lf t)) (b (Nat.div n 2) λt=>k (.nd none t .lf))) (k (.nd x .lf .lf))) f
def Tr.setK {b R:Type} (x:Option b) (t:Tr b):Nat->(Tr b->R)->R:=Tr.rec (motive:=λ_=>Nat->(Tr b->R)->R) (λn k=>FM x (Nat.succ n) n k) (λa l r c d n k=>Bool.casesOn (motive:=λ_=>R) (Nat.beq n 0) (Bool.casesOn (motive:=λ_=>R) (Nat.beq (Nat.mod n 2) 1) (d (Nat.sub (Nat.div n 2) 1) λt=>k (.nd a l t)) (c (Nat.div n 2) λt=>k (.nd a t r))) (k (.nd x l r))) t
def sn {a:Type} (n:Nat) (f:Nat->a):a:=Nat.rec (motive:=λ_=>a) (f 0) (λm _=>f (Nat.succ m)) n
def fi {b:Type} (z:Int) (f:Int->b):b:=Int.casesOn (motive:=λ_=>b) z (λa=>sn a λa=>f (.ofNat a)) (λa=>sn a λa=>f (.negSucc a))
def fb (b:Bool):Option GV:=Bool.casesOn (motive:=λ_=>Option GV) b (some (.bool false)) (some (.bool true))
structure GH where
 n:Nat
 t:Tr (Nat×GO)
def GH.get (H:GH) (h:Nat):Option GO:=ob (H.t.get h) λp=>some p.2
def GH.ver (H:GH) (h:Nat):Option Nat:=ob (H.t.get h) λp=>some p.1
def GH.set (H:GH) (h:Nat) (o:GO):GH:=⟨Nat.succ H.n,H.t.set (some (H.n,o)) h⟩
def GH.del (H:GH) (h:Nat):GH:=⟨H.n,H.t.set none h⟩
def GH.newK {a:Type} (H:GH) (o:GO) (f:Nat->GH->a):a:=sn H.n λn=>H.t.setK (some (n,o)) n λt=>sn (Nat.succ n) λm=>f n ⟨m,t⟩
def GH.setK {a:Type} (H:GH) (h:Nat) (o:GO) (f:GH->a):a:=sn H.n λn=>H.t.setK (some (n,o)) h λt=>sn (Nat.succ n) λm=>f ⟨m,t⟩
def GH.delK {a:Type} (H:GH) (h:Nat) (f:GH->a):a:=H.t.setK none h λt=>f ⟨H.n,t⟩
def ZP (o:GO):Option (List GV):=GO.casesOn (motive:=λ_=>Option (List GV)) o (λa=>some a) (λ_=>none)
def GO.asM (o:GO):Option (List (GV×GV)):=GO.casesOn (motive:=λ_=>Option (List (GV×GV))) o (λ_=>none) (λa=>some a)
def GH.cells (H:GH) (h:Nat):Option (List GV):=ob (H.get h) ZP
abbrev GF:=List (Nat×GV)
def EK (σ:GF) (t:Nat):Option GV:=List.rec (motive:=λ_=>Option GV) none (λp _ a=>Bool.casesOn (motive:=λ_=>Option GV) (Nat.beq t p.1) a (some p.2)) σ
def ltI (a b:Int):Bool:=Int.casesOn (motive:=λ_=>Bool) a (λa=>Int.casesOn (motive:=λ_=>Bool) b (λb=>Nat.blt a b) (λ_=>false)) (λa=>Int.casesOn (motive:=λ_=>Bool) b (λ_=>true) (λb=>Nat.blt b a))
def eqI (a b:Int):Bool:=Int.casesOn (motive:=λ_=>Bool) a (λa=>Int.casesOn (motive:=λ_=>Bool) b (λb=>Nat.beq a b) (λ_=>false)) (λa=>Int.casesOn (motive:=λ_=>Bool) b (λ_=>false) (λb=>Nat.beq a b))
def asN (a:Int):Option Nat:=Int.casesOn (motive:=λ_=>Option Nat) a (λa=>some a) (λ_=>none)
def OM (a b:Nat×Nat):Bool:=bif Nat.beq a.2 b.2 then Nat.beq a.1 b.1 else false
def Rb (a b:Bool):Bool:=Bool.casesOn (motive:=λ_=>Bool) a (Bool.casesOn (motive:=λ_=>Bool) b true false) b
def GQ {a:Type} (l:List a):Nat->Option a:=List.rec (motive:=λ_=>Nat->Option a) (λ_=>none) (λx _ b n=>Nat.casesOn (motive:=λ_=>Option a) n (some x) b) l
def YD {a:Type} (v:a) (l:List a):Nat->Option (List a):=List.rec (motive:=λ_=>Nat->Option (List a)) (λ_=>none) (λx r b n=>Nat.casesOn (motive:=λ_=>Option (List a)) n (some (v::r)) (λn=>ob (b n) λc=>some (x::c))) l
def Ga (e:List GV):Nat->List GV->Option (List GV):=List.rec (motive:=λ_=>Nat->List GV->Option (List GV)) (λ_ a=>some a) (λv _ c o a=>ob (YD v a o) λb=>sn (Nat.succ o) λd=>c d b) e
def tk {a:Type} (l:List a):Nat->Option (List a):=List.rec (motive:=λ_=>Nat->Option (List a)) (λn=>Nat.casesOn (motive:=λ_=>Option (List a)) n (some []) (λ_=>none)) (λx _ b n=>Nat.casesOn (motive:=λ_=>Option (List a)) n (some []) (λn=>ob (b n) λr=>some (x::r))) l
def dp {a:Type} (l:List a):Nat->Option (List a):=List.rec (motive:=λ_=>Nat->Option (List a)) (λn=>Nat.casesOn (motive:=λ_=>Option (List a)) n (some []) (λ_=>none)) (λx r b n=>Nat.casesOn (motive:=λ_=>Option (List a)) n (some (x::r)) b) l
def slc {a:Type} (l:List a) (o n:Nat):Option (List a):=ob (dp l o) λr=>tk r n
def lR (l:List UInt8):Nat:=List.rec (motive:=λ_=>Nat) 0 (λb _ a=>Nat.add b.toNat (Nat.mul 256 a)) l
def bR (s:ByteArray):List UInt8:=s.data.toList
def GV.asI (v:GV):Option (IntKind×Int):=GV.casesOn (motive_1:=λ_=>Option (IntKind×Int)) v (λa b=>some (a,b)) (λ_=>none) (λ_ _=>none) (λ_ _=>none) none (λ_ _ _ _=>none) none (λ_=>none) (λ_ _ _=>none) none none (λ_=>none) (λ_=>none) none none (λ_=>none)
def GV.asB (v:GV):Option Bool:=GV.casesOn (motive_1:=λ_=>Option Bool) v (λ_ _=>none) (λa=>some a) (λ_ _=>none) (λ_ _=>none) none (λ_ _ _ _=>none) none (λ_=>none) (λ_ _ _=>none) none none (λ_=>none) (λ_=>none) none none (λ_=>none)
def GV.asP (v:GV):Option (Nat×Nat):=GV.casesOn (motive_1:=λ_=>Option (Nat×Nat)) v (λ_ _=>none) (λ_=>none) (λ_ _=>none) (λa b=>some (a,b)) none (λ_ _ _ _=>none) none (λ_=>none) (λ_ _ _=>none) none none (λ_=>none) (λ_=>none) none none (λ_=>none)
def GV.asS (v:GV):Option (Nat×Nat×Nat×Nat):=GV.casesOn (motive_1:=λ_=>Option (Nat×Nat×Nat×Nat)) v (λ_ _=>none) (λ_=>none) (λ_ _=>none) (λ_ _=>none) none (λa b c d=>some (a,b,c,d)) none (λ_=>none) (λ_ _ _=>none) none none (λ_=>none) (λ_=>none) none none (λ_=>none)
def GV.asF (v:GV):Option (Nat×List GV×List GV):=GV.casesOn (motive_1:=λ_=>Option (Nat×List GV×List GV)) v (λ_ _=>none) (λ_=>none) (λ_ _=>none) (λ_ _=>none) none (λ_ _ _ _=>none) none (λ_=>none) (λa b c=>some (a,b,c)) none none (λ_=>none) (λ_=>none) none none (λ_=>none)
def GV.asT (v:GV):Option (List GV):=GV.casesOn (motive_1:=λ_=>Option (List GV)) v (λ_ _=>none) (λ_=>none) (λ_ _=>none) (λ_ _=>none) none (λ_ _ _ _=>none) none (λ_=>none) (λ_ _ _=>none) none none (λ_=>none) (λa=>some a) none none (λ_=>none)
def GV.asStr (v:GV):Option (Nat×Nat):=GV.casesOn (motive_1:=λ_=>Option (Nat×Nat)) v (λ_ _=>none) (λ_=>none) (λa b=>some (a,b)) (λ_ _=>none) none (λ_ _ _ _=>none) none (λ_=>none) (λ_ _ _=>none) none none (λ_=>none) (λ_=>none) none none (λ_=>none)
def GV.asM (v:GV):Option (Nat):=GV.casesOn (motive_1:=λ_=>Option (Nat)) v (λ_ _=>none) (λ_=>none) (λ_ _=>none) (λ_ _=>none) none (λ_ _ _ _=>none) none (λa=>some a) (λ_ _ _=>none) none none (λ_=>none) (λ_=>none) none none (λ_=>none)
def GV.asA (v:GV):Option (List GV):=GV.casesOn (motive_1:=λ_=>Option (List GV)) v (λ_ _=>none) (λ_=>none) (λ_ _=>none) (λ_ _=>none) none (λ_ _ _ _=>none) none (λ_=>none) (λ_ _ _=>none) none none (λa=>some a) (λ_=>none) none none (λ_=>none)
def GV.cells (v:GV):Option (List GV):=GV.casesOn (motive_1:=λ_=>Option (List GV)) v (λa b=>some [GV.int a b]) (λa=>some [GV.bool a]) (λa b=>some [GV.str a b]) (λa b=>some [GV.ptr a b]) (some [GV.pnil]) (λa b c d=>some [GV.sl a b c d]) (some [GV.snil]) (λa=>some [GV.map a]) (λa b c=>some [GV.fn a b c]) (some [GV.fnil]) (some [GV.inil]) (λa=>some a) (λa=>none) (none) (none) (λa=>none)
def GV.isSnil (v:GV):Bool:=GV.casesOn (motive_1:=λ_=>Bool) v (λ_ _=>false) (λ_=>false) (λ_ _=>false) (λ_ _=>false) (false) (λ_ _ _ _=>false) (true) (λ_=>false) (λ_ _ _=>false) (false) (false) (λ_=>false) (λ_=>false) (false) (false) (λ_=>false)
def GV.isInil (v:GV):Bool:=GV.casesOn (motive_1:=λ_=>Bool) v (λ_ _=>false) (λ_=>false) (λ_ _=>false) (λ_ _=>false) (false) (λ_ _ _ _=>false) (false) (λ_=>false) (λ_ _ _=>false) (false) (true) (λ_=>false) (λ_=>false) (false) (false) (λ_=>false)
def GV.nilck (v:GV):Option GV:=GV.casesOn (motive_1:=λ_=>Option GV) v (λa b=>none) (λa=>none) (λa b=>none) (λa b=>some (GV.ptr a b)) (none) (λa b c d=>none) (none) (λa=>none) (λa b c=>some (GV.fn a b c)) (none) (none) (λa=>none) (λa=>none) (none) (none) (λa=>none)
def tdE (d:TypeDesc):Bool:=TypeDesc.casesOn (motive:=λ_=>Bool) d false false (λ_=>false) (λ_=>false) (λ_=>false) false false (λ_=>false) (λ_=>false) (λ_ _=>false) (λ_ _=>false) (λ_ _=>false) (λ_=>false) (λ_ _ _=>false) (λa=>Nat.beq (Array.size a) 0) (λ_=>false) (λ_ _=>false)
def Xh (d:TypeDesc):Option TypeId:=TypeDesc.casesOn (motive:=λ_=>Option TypeId) d none none (λ_=>none) (λ_=>none) (λ_=>none) none none (λ_=>none) (λa=>some a) (λ_ _=>none) (λ_ _=>none) (λ_ _=>none) (λ_=>none) (λ_ _ _=>none) (λ_=>none) (λ_=>none) (λ_ _=>none)
def tdA (d:TypeDesc):Option (Nat×TypeId):=TypeDesc.casesOn (motive:=λ_=>Option (Nat×TypeId)) d none none (λ_=>none) (λ_=>none) (λ_=>none) none none (λ_=>none) (λ_=>none) (λa b=>some (a,b)) (λ_ _=>none) (λ_ _=>none) (λ_=>none) (λ_ _ _=>none) (λ_=>none) (λ_=>none) (λ_ _=>none)
def tdF (d:TypeDesc):Option (Array Field):=TypeDesc.casesOn (motive:=λ_=>Option (Array Field)) d none none (λ_=>none) (λ_=>none) (λ_=>none) none none (λ_=>none) (λ_=>none) (λ_ _=>none) (λ_ _=>none) (λ_ _=>none) (λa=>some a) (λ_ _ _=>none) (λ_=>none) (λ_=>none) (λ_ _=>none)
def Xg (d:TypeDesc):Option IntKind:=TypeDesc.casesOn (motive:=λ_=>Option IntKind) d none none (λa=>some a) (λ_=>none) (λ_=>none) none none (λ_=>none) (λ_=>none) (λ_ _=>none) (λ_ _=>none) (λ_ _=>none) (λ_=>none) (λ_ _ _=>none) (λ_=>none) (λ_=>none) (λ_ _=>none)
def Ic (d:TypeDesc):Bool:=TypeDesc.casesOn (motive:=λ_=>Bool) d false false (λ_=>false) (λ_=>false) (λ_=>false) (true) false (λ_=>false) (λ_=>false) (λ_ _=>false) (λ_ _=>false) (λ_ _=>false) (λ_=>false) (λ_ _ _=>false) (λ_=>false) (λ_=>false) (λ_ _=>false)
def tdB (d:TypeDesc):Bool:=TypeDesc.casesOn (motive:=λ_=>Bool) d false (true) (λ_=>false) (λ_=>false) (λ_=>false) false false (λ_=>false) (λ_=>false) (λ_ _=>false) (λ_ _=>false) (λ_ _=>false) (λ_=>false) (λ_ _ _=>false) (λ_=>false) (λ_=>false) (λ_ _=>false)
def tdM (d:TypeDesc):Option (TypeId×TypeId):=TypeDesc.casesOn (motive:=λ_=>Option (TypeId×TypeId)) d none none (λ_=>none) (λ_=>none) (λ_=>none) none none (λ_=>none) (λ_=>none) (λ_ _=>none) (λa b=>some (a,b)) (λ_ _=>none) (λ_=>none) (λ_ _ _=>none) (λ_=>none) (λ_=>none) (λ_ _=>none)
def Tk:Value->Option GV
 | .int k n=>some (.int k n)
 | .bool b=>some (.bool b)
 | .slice none 0 0=>some .snil
 | .pointer none=>some .pnil
 | .nilFunc=>some .fnil
 | .nilIface=>some .inil
 | .string s=>sn (lR (bR s)) λn=>sn (bR s).length λl=>some (.str n l)
 |_=>none
def YJ:cR->Option (List GV)
 | []=>some []
 |v::vs=>ob (Tk v) λx=>ob (YJ vs) λa=>some (x::a)
def ofV:Value->Option GV
 | .agg cs=>ob (YJ cs.toList) λa=>some (.agg a)
 |v=>Tk v
def HA (s:Sem Value):Option GV:=match s with
 | .pure v=>Tk v
 |_=>none
def Vu (z:Int):Bool:=Int.casesOn (motive:=λ_=>Bool) z (λa=>Nat.blt a 9223372036854775808) (λa=>Nat.blt a 9223372036854775808)
def Zu (k:IntKind):Bool:=IntKind.casesOn (motive:=λ_=>Bool) k false false false true false false false false
def gw (k:IntKind) (z:Int):Option GV:=fi z λz=>bif Zu k then(bif Vu z then some (.int k z)else none)else fi (k.wrap z) λz=>some (.int k z)
def eqK (a b:IntKind):Bool:=decide (a=b)
def abN (c:BinOp) (k:IntKind) (a b:Int):Option GV:=BinOp.casesOn (motive:=λ_=>Option GV) c (gw k (a+b)) (gw k (a - b)) (HA (binOp .mul 0 (.int k a) (.int k b))) (HA (binOp .quo 0 (.int k a) (.int k b))) (HA (binOp .rem 0 (.int k a) (.int k b))) (HA (binOp .and 0 (.int k a) (.int k b))) (HA (binOp .or 0 (.int k a) (.int k b))) (HA (binOp .xor 0 (.int k a) (.int k b))) (HA (binOp .shl 0 (.int k a) (.int k b))) (HA (binOp .shr 0 (.int k a) (.int k b))) (HA (binOp .andNot 0 (.int k a) (.int k b))) (fb (eqI a b)) (fb (!eqI a b)) (fb (ltI a b)) (fb (!ltI b a)) (fb (ltI b a)) (fb (!ltI a b))
def IB (a:BinOp):Bool:=BinOp.casesOn (motive:=λ_=>Bool) a false false false false false false false false true true false false false false false false false
def aau (a b:Nat×Nat):Option GV:=bif Nat.blt (Nat.add a.2 b.2) 16777216 then sn (Nat.add a.1 (Nat.mul (Nat.pow 2 (Nat.mul 8 a.2)) b.1)) λn=>sn (Nat.add a.2 b.2) λl=>some (.str n l)else none
def adR (c:BinOp) (a b:Nat×Nat):Option GV:=BinOp.casesOn (motive:=λ_=>Option GV) c (aau a b) none none none none none none none none none none (fb (OM a b)) (fb (!OM a b)) none none none none
def adQ (a:BinOp):Option GV:=BinOp.casesOn (motive:=λ_=>Option GV) a none none none none none none none none none none none (some (.bool true)) (some (.bool false)) none none none none
def XD (c:BinOp) (a b:Bool):Option GV:=BinOp.casesOn (motive:=λ_=>Option GV) c none none none none none none none none none none none (fb (Rb a b)) (fb (!Rb a b)) none none none none
def kI (a:GF) (o:Operand):Option GV:=Operand.casesOn (motive:=λ_=>Option GV) o (λt=>EK a t) ofV (λ_=>none) (λf=>some (.fn f [] []))
def Ft (c:GF) (l:List Operand):Option (List GV):=List.rec (motive:=λ_=>Option (List GV)) (some []) (λx _ a=>ob (kI c x) λv=>ob a λb=>some (v::b)) l
def uB (c:GF) (l:List (Nat×Operand)):Option (List (Nat×GV)):=List.rec (motive:=λ_=>Option (List (Nat×GV))) (some []) (λp _ a=>ob (kI c p.2) λv=>ob a λb=>some ((p.1,v)::b)) l
abbrev TB:=Nat->Option Ty
def Av (a:TB) (T:TypeId):Option (TypeId×Ty):=ob (a T) λt=>ob (Xh t.desc) λe=>ob (a e) λb=>some (e,b)
def MC (b:TB) (l:List Field):Option (List (Nat×Nat)):=List.rec (motive:=λ_=>Option (List (Nat×Nat))) (some []) (λf _ a=>ob (b f.type) λt=>ob a λr=>some ((f.offset,t.size)::r)) l
def qW (b:TB) (T:TypeId):Option (List Field):=ob (b T) λt=>ob (tdF t.desc) λa=>some a.toList
def NZ (a:TB) (T:TypeId):Option (List (Nat×Nat)):=ob (qW a T) λb=>MC a b
abbrev OR:=Option (GV×GH)
def AX (c a b:GV):Option GV:=ob c.asB λq=>Bool.casesOn (motive:=λ_=>Option GV) q (some b) (some a)
def Yt (v:GV):Option Nat:=bif v.isSnil then some 0 else ob v.asS λs=>some s.2.2.1
def PT (t:Ty) (a b:GV):Option Bool:=Option.casesOn (motive:=λ_=>Option Bool) a.asI (Option.casesOn (motive:=λ_=>Option Bool) a.asStr (ob a.asB λx=>ob b.asB λy=>bif tdB t.desc then some (Rb x y)else none) λx=>ob b.asStr λy=>bif Ic t.desc then some (OM x y)else none) λx=>ob b.asI λy=>ob (Xg t.desc) λ_=>bif eqK x.1 y.1 then some (eqI x.2 y.2)else none
def Yl (g:TB) (cs c:List GV) (d:List Field):Option Bool:=List.rec (motive:=λ_=>Option Bool) (some true) (λf _ e=>ob (g f.type) λt=>ob (GQ cs f.offset) λa=>ob (GQ c f.offset) λb=>ob (PT t a b) λq=>bif q then e else some false) d
def ES (t:Ty):Bool:=bif tdB t.desc then true else bif Ic t.desc then true else Option.casesOn (motive:=λ_=>Bool) (Xg t.desc) false λ_=>true
def wU (c:TB) (a:List Field):Bool:=List.rec (motive:=λ_=>Bool) true (λf _ b=>Option.casesOn (motive:=λ_=>Bool) (c f.type) false λt=>bif ES t then b else false) a
def KL (T:Nat):Bool:=bif Nat.blt 31 T then Nat.blt T 512 else false
def WN (a:TB) (c:BinOp) (T:TypeId) (v u:GV):Option GV:=Option.casesOn (motive:=λ_=>Option GV) v.asA (bif u.isSnil then ob (Yt v) λ_=>ob (a T) λt=>ob (Xh t.desc) λ_=>XD c v.isSnil true else none) λd=>ob u.asA λe=>bif KL T then ob (qW a T) λb=>bif wU a b then ob (Yl a d e b) λq=>XD c q true else none else none
def Ej (d:TB) (c:BinOp) (T:TypeId) (v u:GV):Option GV:=
 Option.casesOn (motive:=λ_=>Option GV) v.asI
  (Option.casesOn (motive:=λ_=>Option GV) v.asStr (Option.casesOn (motive:=λ_=>Option GV) v.asB (bif v.isInil then(bif u.isInil then ob (d T) λt=>bif tdE t.desc then adQ c else none else none)else WN d c T v u) λa=>ob u.asB λb=>ob (d T) λt=>bif tdB t.desc then XD c a b else none) λa=>ob u.asStr λb=>adR c a b)
  λa=>ob u.asI λb=>bif IB c then HA (binOp c 0 (.int a.1 a.2) (.int b.1 b.2))else bif eqK a.1 b.1 then abN c a.1 a.2 b.2 else none
def vUn (c:UnOp) (v:GV):Option GV:=UnOp.casesOn (motive:=λ_=>Option GV) c (ob v.asI λa=>gw a.1 (0 - a.2)) none (ob v.asB λb=>fb (!b)) none
def ZG (b:TB) (S D:TypeId) (v:GV):Option GV:=ob v.asI λa=>ob (b S) λs=>ob (Xg s.desc) λ_=>ob (b D) λt=>ob (Xg t.desc) λk=>fi (k.wrap a.2) λz=>some (.int k z)
def vB (o:Option GV) (d:Nat):Option Nat:=Option.casesOn (motive:=λ_=>Option Nat) o (some d) λv=>ob v.asI λa=>asN a.2
def Zm (s:Nat×Nat) (l h:Nat):Option GV:=bif Nat.ble l h then(bif Nat.ble h s.2 then sn (Nat.mod (Nat.shiftRight s.1 (Nat.mul 8 l)) (Nat.pow 2 (Nat.mul 8 (Nat.sub h l)))) λn=>sn (Nat.sub h l) λk=>some (.str n k)else none)else none
def Zk (s:Nat×Nat×Nat×Nat) (a l h:Nat):Option GV:=bif Nat.beq a s.2.2.2 then(bif Nat.ble l h then(bif Nat.ble h s.2.2.1 then sn (Nat.add s.2.1 (Nat.mul l a)) λo=>sn (Nat.sub h l) λk=>some (.sl s.1 o k a)else none)else none)else none
def Zl (p:Nat×Nat) (n a l h:Nat):Option GV:=bif Nat.ble l h then(bif Nat.ble h n then(bif Nat.beq a 0 then none else sn (Nat.add p.2 (Nat.mul l a)) λo=>sn (Nat.sub h l) λk=>some (.sl p.1 o k a))else none)else none
def AY (c:TB) (T:TypeId) (v:GV) (f b:Option GV) (H:GH):Option GV:=ob (vB f 0) λl=>ob (c T) λt=>
 Option.casesOn (motive:=λ_=>Option GV) v.asStr
  (Option.casesOn (motive:=λ_=>Option GV) v.asS
   (Bool.casesOn (motive:=λ_=>Option GV) v.isSnil (ob v.asP λp=>ob (tdA t.desc) λe=>ob (c e.2) λa=>ob (vB b e.1) λh=>ob (H.cells p.1) λd=>bif Nat.ble (Nat.add p.2 (Nat.mul e.1 a.size)) d.length then Zl p e.1 a.size l h else none) (ob (Xh t.desc) λe=>ob (c e) λa=>ob (vB b 0) λh=>bif Nat.beq l 0 then(bif Nat.beq h 0 then some .snil else none)else none))
   λs=>ob (Xh t.desc) λe=>ob (c e) λa=>ob (vB b s.2.2.1) λh=>Zk s a.size l h)
  λs=>ob (vB b s.2) λh=>bif Ic t.desc then Zm s l h else none
def Qz (a:TB) (T:TypeId) (f:Nat) (v:GV):Option GV:=ob v.asP λp=>ob (qW a T) λb=>ob (GQ b f) λq=>ob (a q.type) λc=>bif Nat.beq c.size 0 then none else sn (Nat.add p.2 q.offset) λo=>some (.ptr p.1 o)
def Bn (t:Ty) (a:List GV) (o:Nat):Option GV:=bif xZ t.desc then ob (slc a o t.size) λr=>some (.agg r)else GQ a o
def WU (a:TB) (T:TypeId) (f:Nat) (v:GV):Option GV:=ob v.asA λb=>ob (qW a T) λc=>ob (GQ c f) λq=>ob (a q.type) λd=>Bn d b q.offset
def Zi (a:TB) (T:TypeId) (s:Nat×Nat×Nat×Nat) (i:Nat):Option GV:=ob (Av a T) λb=>bif Nat.blt i s.2.2.1 then sn (Nat.add s.2.1 (Nat.mul i b.2.size)) λo=>some (.ptr s.1 o)else none
def Zh (a:TB) (T:TypeId) (p:Nat×Nat) (i:Nat):Option GV:=ob (a T) λt=>ob (tdA t.desc) λe=>ob (a e.2) λb=>bif Nat.blt i e.1 then sn (Nat.add p.2 (Nat.mul i b.size)) λo=>some (.ptr p.1 o)else none
def MQ (a:TB) (T:TypeId) (v w:GV):Option GV:=ob w.asI λn=>ob (asN n.2) λn=>Option.casesOn (motive:=λ_=>Option GV) v.asP (ob v.asS λs=>Zi a T s n) λp=>Zh a T p n
def vAt (a:TB) (T:TypeId) (v w:GV):Option GV:=ob v.asStr λs=>ob w.asI λn=>ob (asN n.2) λn=>ob (a T) λt=>bif Ic t.desc then(bif Nat.blt n s.2 then sn (Nat.mod (Nat.shiftRight s.1 (Nat.mul 8 n)) 256) λb=>some (.int .u8 (.ofNat b))else none)else none
def abn (i:Nat) (v:GV):Option GV:=ob v.asT λa=>GQ a i
def PK (d:GJ) (l:List (Nat×GV)):List GV->Option (List GV):=List.rec (motive:=λ_=>List GV->Option (List GV)) (λa=>some a) (λp _ c a=>ob (GQ d p.1) λq=>ob p.2.cells λb=>bif Nat.beq b.length q.2 then(bif Nat.beq q.2 0 then none else ob (Ga b q.1 a) c)else none) l
def Hl (b:Nat) (l:List (Nat×GV)):List GV->Option (List GV):=List.rec (motive:=λ_=>List GV->Option (List GV)) (λa=>some a) (λp _ d a=>ob p.2.cells λc=>bif Nat.beq c.length b then(bif Nat.beq b 0 then none else ob (Ga c (Nat.mul p.1 b) a) d)else none) l
def BN (a:TB) (T:TypeId):Option (List GV):=ob (a T) λt=>ob (ofV t.zero) λz=>z.cells
def Qx (a:TB) (T:TypeId) (c:List (Nat×GV)):Option GV:=ob (a T) λt=>ob (BN a T) λd=>Option.casesOn (motive:=λ_=>Option GV) (tdF t.desc) (ob (tdA t.desc) λe=>ob (a e.2) λg=>ob (Hl g.size c d) λb=>some (.agg b)) λ_=>ob (NZ a T) λf=>ob (PK f c d) λb=>some (.agg b)
def QA (a:TB) (T:TypeId) (v:GV):Option GV:=ob (a T) λt=>Option.casesOn (motive:=λ_=>Option GV) v.asStr (ob (Xh t.desc) λ_=>ob (Yt v) λn=>some (.int .i64 (.ofNat n))) λs=>bif Ic t.desc then some (.int .i64 (.ofNat s.2))else none
def acD (a:TB) (T:TypeId) (v:GV):Option GV:=ob (a T) λt=>ob (Xh t.desc) λ_=>bif v.isSnil then some (.int .i64 (.ofNat 0))else none
def QB (v u:GV):Option GV:=ob v.asI λa=>ob u.asI λb=>bif eqK a.1 b.1 then(bif ltI a.2 b.2 then some u else some v)else none
def Zj (v u:GV):Option GV:=ob v.asI λa=>ob u.asI λb=>bif eqK a.1 b.1 then(bif ltI b.2 a.2 then some u else some v)else none
def AW (b:TB) (T:TypeId) (v:GV) (H:GH):Option GV:=ob v.asP λp=>ob (H.cells p.1) λa=>ob (b T) λt=>Bn t a p.2
def BM (e:TB) (T:TypeId) (v u:GV) (H:GH):OR:=ob v.asP λp=>ob (H.cells p.1) λd=>ob (e T) λt=>ob u.cells λb=>bif Nat.beq b.length t.size then bif Nat.beq t.size 0 then none else ob (Ga b p.2 d) λa=>H.setK p.1 (.cells a) λc=>some (.un,c)else none
def Tw (v:GV) (H:GH):OR:=ob v.cells λb=>H.newK (.cells b) λh a=>some (.ptr h 0,a)
def AV (b:TB) (T:TypeId) (H:GH):OR:=ob (BN b T) λc=>H.newK (.cells c) λh a=>some (.ptr h 0,a)
def OO (z:List GV) (n:Nat):List GV:=Nat.rec (motive:=λ_=>List GV) [] (λ_ a=>z++a) n
def fc {R:Type} (a:List GV):(List GV->R)->R:=List.rec (motive:=λ_=>(List GV->R)->R) (λk=>k []) (λx _ b k=>b λr=>k (x::r)) a
def vC (b:TB) (T:TypeId) (n:Nat) (f:List (Nat×GV)) (H:GH):OR:=ob (Av b T) λa=>ob (BN b a.1) λc=>bif Nat.beq c.length a.2.size then(bif Nat.blt (Nat.mul n a.2.size) 16777216 then(bif Nat.beq a.2.size 0 then none else ob (Hl a.2.size f (OO c n)) λe=>H.newK (.cells e) λh d=>some (.sl h 0 n a.2.size,d))else none)else none
def ZJ (b:TB) (T:TypeId) (v u:GV) (H:GH):OR:=ob (Av b T) λa=>ob (BN b a.1) λd=>ob v.asI λk=>ob u.asI λc=>bif eqI k.2 c.2 then ob (asN k.2) λk=>(bif Nat.beq d.length a.2.size then(bif Nat.blt (Nat.mul k a.2.bytes) 16777216 then(bif Nat.blt k 16777216 then(bif Nat.beq a.2.size 0 then none else fc (OO d k) λl=>H.newK (.cells l) λh e=>some (.sl h 0 k a.2.size,e))else none)else none)else none)else none
def lap {R:Type} (a b:List GV):(List GV->R)->R:=List.rec (motive:=λ_=>(List GV->R)->R) (λk=>k b) (λx _ c k=>c λr=>k (x::r)) a
def sY (H:GH) (a:Nat) (v:GV):Option (Nat×List GV):=bif v.isSnil then some (0,[])else ob v.asS λs=>bif Nat.beq s.2.2.2 a then ob (H.cells s.1) λcs=>ob (slc cs s.2.1 (Nat.mul s.2.2.1 a)) λr=>some (s.2.2.1,r)else none
def PD (H:GH) (v:GV):GH:=Option.casesOn (motive:=λ_=>GH) v.asS H λs=>H.del s.1
def US (H:GH) (v:GV) (f:GH->OR):OR:=Option.casesOn (motive:=λ_=>OR) v.asS (f H) λs=>H.delK s.1 f
def WK (b:TB) (T e:TypeId) (v u:GV) (H:GH):OR:=bif v.isSnil then ob (Av b T) λa=>ob (b e) λf=>ob (Xg f.desc) λ_=>ob (BN b a.1) λc=>ob u.asI λk=>ob (asN k.2) λn=>bif Nat.beq c.length a.2.size then(bif Nat.blt (Nat.mul n (Nat.add a.2.bytes 1)) 16777216 then(bif Nat.beq a.2.size 0 then none else(bif Nat.beq n 0 then none else fc (OO c n) λl=>H.newK (.cells l) λh d=>some (.sl h 0 n a.2.size,d)))else none)else none else none
def MP (b:TB) (T c:TypeId) (v u:GV) (H:GH):OR:=bif Nat.beq T c then ob (Av b T) λa=>bif Nat.beq a.2.size 0 then none else ob (BN b a.1) λf=>bif Nat.beq f.length a.2.size then ob (sY H a.2.size v) λp=>ob (sY H a.2.size u) λq=>Nat.casesOn (motive:=λ_=>OR) q.1 (some (v,H)) (λ_=>sn (Nat.add p.1 q.1) λn=>bif Nat.blt (Nat.mul n (Nat.add a.2.bytes 1)) 16777216 then lap p.2 q.2 λl=>US H v λe=>e.newK (.cells l) λh d=>some (.sl h 0 n a.2.size,d)else none)else none else WK b T c v u H
def ZH (g:TB) (T:TypeId) (v u:GV) (H:GH):OR:=ob v.asS λs=>ob u.asS λr=>ob (Av g T) λb=>bif Nat.beq s.2.2.2 b.2.size then(bif Nat.beq r.2.2.2 b.2.size then(bif Nat.beq r.2.2.1 s.2.2.1 then ob (H.cells r.1) λe=>ob (slc e r.2.1 (Nat.mul r.2.2.1 b.2.size)) λc=>ob (H.cells s.1) λf=>List.casesOn (motive:=λ_=>OR) c none (λ_ _=>ob (Ga c s.2.1 f) λa=>H.setK s.1 (.cells a) λd=>some (.int .i64 (.ofNat r.2.2.1),d))else none)else none)else none
def GL (H:GH):OR:=H.newK (.mp []) λh a=>some (.map h,a)
def Ro (a b:GV):Option Bool:=Option.casesOn (motive:=λ_=>Option Bool) a.asI (ob a.asStr λx=>ob b.asStr λy=>some (OM x y)) λx=>ob b.asI λy=>bif eqK x.1 y.1 then some (eqI x.2 y.2)else none
def NQ (k:GV) (a:List (GV×GV)):Option (Option GV):=List.rec (motive:=λ_=>Option (Option GV)) (some none) (λe _ c=>ob (Ro k e.1) λb=>bif b then some (some e.2)else c) a
def JA (t:Ty) (k:GV):Bool:=Option.casesOn (motive:=λ_=>Bool) k.asI (Option.casesOn (motive:=λ_=>Bool) k.asStr false (λ_=>Ic t.desc)) (λx=>Option.casesOn (motive:=λ_=>Bool) (Xg t.desc) false (λ_=>true))
def VF (a:TB) (T:TypeId):Option (Ty×Ty):=ob (a T) λt=>ob (tdM t.desc) λb=>ob (a b.1) λc=>ob (a b.2) λd=>some (c,d)
def ZI (c:TB) (T:TypeId) (a:Bool) (v k:GV) (H:GH):Option GV:=ob v.asM λh=>ob (H.get h) λo=>ob o.asM λb=>ob (VF c T) λt=>bif JA t.1 k then ob (NQ k b) λr=>ob (ofV t.2.zero) λz=>Option.casesOn (motive:=λ_=>Option GV) r (bif a then some (.tup [z,.bool false])else some z) (λg=>bif a then some (.tup [g,.bool true])else some g)else none
def WS (c:TB) (T:TypeId) (v k u:GV) (H:GH):OR:=ob v.asM λh=>ob (H.get h) λo=>ob o.asM λa=>ob (VF c T) λt=>bif JA t.1 k then ob (NQ k a) λr=>Option.casesOn (motive:=λ_=>OR) r (H.setK h (.mp (a++[(k,u)])) λb=>some (.un,b)) (λ_=>none)else none
section
variable {R:Type}
abbrev KT (R:Type):=GF->GH->(GV->GH->Option R)->Option R
def k1 (x:Operand) (f:GV->Option GV):KT R:=λa H k=>ob (some x) λx=>ob (kI a x) λv=>ob (f v) λg=>k g H
def k2 (x y:Operand) (f:GV->GV->Option GV):KT R:=λa H k=>ob (some x) λx=>ob (kI a x) λv=>ob (kI a y) λu=>ob (f v u) λg=>k g H
def k3 (x y z:Operand) (f:GV->GV->GV->Option GV):KT R:=λa H k=>ob (some x) λx=>ob (kI a x) λv=>ob (kI a y) λu=>ob (kI a z) λt=>ob (f v u t) λg=>k g H
def HW (x:Operand):KT R:=λa H k=>ob (some x) λx=>ob (kI a x) λv=>k v H
def kFn (c:Fn) (first a:Array Operand):KT R:=match c with
 | .func f=>λb H k=>ob (Ft b first.toList) λd=>ob (Ft b a.toList) λe=>k (.fn f d e) H
 |_=>λ_ _ _=>none
def Hk (a:GF) (o:Option Operand):Option (Option GV):=Option.casesOn (motive:=λ_=>Option (Option GV)) o (some none) λx=>ob (kI a x) λv=>some (some v)
def aaS (e:TB) (T:TypeId) (x:Operand) (c b d:Option Operand):KT R:=Option.casesOn (motive:=λ_=>KT R) d (λa H k=>ob (some x) λx=>ob (kI a x) λv=>ob (Hk a c) λl=>ob (Hk a b) λh=>ob (AY e T v l h H) λg=>k g H) (λ_ _ _ _=>none)
def aaR (b:TB) (T:TypeId) (a:List (Nat×Operand)):KT R:=λd H k=>ob (uB d a) λc=>ob (Qx b T c) λg=>k g H
def kY (r:OR) (k:GV->GH->Option R):Option R:=ob r λp=>Prod.casesOn (motive:=λ_=>Option R) p λg h=>k g h
def Rk (a:TB) (T:TypeId) (x:Operand):KT R:=λb H k=>ob (some x) λx=>ob (kI b x) λv=>ob (AW a T v H) λg=>k g H
def Ml (b:TB) (T:TypeId) (x y:Operand):KT R:=λa H k=>ob (some x) λx=>ob (kI a x) λv=>ob (kI a y) λu=>kY (BM b T v u H) k
def Yx (x:Operand):KT R:=λa H k=>ob (some x) λx=>ob (kI a x) λv=>kY (Tw v H) k
def aaQ (a:TB) (T:TypeId):KT R:=λb H k=>kY (AV a T H) k
def Yz (b:TB) (T:TypeId) (n:Nat) (a:List (Nat×Operand)):KT R:=λd H k=>ob (uB d a) λc=>kY (vC b T n c H) k
def Rn (b:TB) (T:TypeId) (x y:Operand):KT R:=λa H k=>ob (some x) λx=>ob (kI a x) λv=>ob (kI a y) λu=>kY (ZJ b T v u H) k
def Vy (r:Option Operand):KT R:=Option.casesOn (motive:=λ_=>KT R) r (λa H k=>kY (GL H) k) (λ_ _ _ _=>none)
def Rm (c:TB) (T:TypeId) (x y:Operand) (b:Bool):KT R:=λa H k=>ob (some x) λx=>ob (kI a x) λv=>ob (kI a y) λu=>ob (ZI c T b v u H) λg=>k g H
def Mk (b:TB) (T:TypeId) (x y z:Operand):KT R:=λa H k=>ob (some x) λx=>ob (kI a x) λv=>ob (kI a y) λu=>ob (kI a z) λt=>kY (WS b T v u t H) k
def Jz (a:List Operand) (f:Operand->KT R):KT R:=List.casesOn (motive:=λ_=>KT R) a (λ_ _ _=>none) λx r=>List.casesOn (motive:=λ_=>KT R) r (f x) (λ_ _ _ _ _=>none)
def DK (a:List Operand) (f:Operand->Operand->KT R):KT R:=List.casesOn (motive:=λ_=>KT R) a (λ_ _ _=>none) λx r=>List.casesOn (motive:=λ_=>KT R) r (λ_ _ _=>none) λy r=>List.casesOn (motive:=λ_=>KT R) r (f x y) (λ_ _ _ _ _=>none)
def Vw (c:TB) (a:List TypeId) (x y:Operand):KT R:=λb H k=>ob (GQ a 0) λT=>ob (GQ a 1) λT'=>ob (kI b x) λv=>ob (kI b y) λu=>kY (MP c T T' v u H) k
def NI (b:TB) (c:List TypeId) (x y:Operand):KT R:=λa H k=>ob (GQ c 0) λT=>ob (kI a x) λv=>ob (kI a y) λu=>kY (ZH b T v u H) k
def Te (a:TB) (b:List TypeId) (x:Operand):KT R:=λc H k=>ob (GQ b 0) λT=>ob (kI c x) λv=>ob (acD a T v) λg=>k g H
def Tf (a:TB) (b:List TypeId) (x:Operand):KT R:=λc H k=>ob (GQ b 0) λT=>ob (kI c x) λv=>ob (QA a T v) λg=>k g H
def PR (a:TB) (xs:Array Operand) (b:Array TypeId):Builtin->KT R
 | .len=>Jz xs.toList (Tf a b.toList)
 | .max=>DK xs.toList λx y=>k2 x y QB
 | .min=>DK xs.toList λx y=>k2 x y Zj
 | .append=>DK xs.toList (Vw a b.toList)
 | .copy=>DK xs.toList (NI a b.toList)
 | .cap=>Jz xs.toList (Te a b.toList)
 |_=>λ_ _ _=>none
abbrev CH:=Nat->List GV->GH->OR
def Vx (b:CH) (d:Array Operand) (f:Operand):KT R:=λa H k=>ob (kI a f) λv=>ob v.asF λg=>ob (Ft a d.toList) λc=>kY (b g.1 (g.2.1++c++g.2.2) H) k
def ach (b:TB) (a:CH) (c:Call):KT R:=Callee.casesOn (motive:=λ_=>KT R) c.callee (Vx a c.args) (λ_ _ _ _ _=>none) (PR b c.args c.argTypes)
end
def MU {R:Type} (d:TB) (g:CH) (o:Op):KT R:=Op.casesOn (motive:=λ_=>KT R) o (λa=>HW a) (λa=>HW a) (λa b c=>k3 a b c AX) (λa=>aaQ d a) (λ_ b=>Yx b) (λa b=>aaR d a b.toList) (λa b c=>Yz d a b c.toList) (λ_ _ _ _=>λ_ _ _=>none) (λa b=>Rk d a b) (λa b c=>Ml d a b c) (λ_=>λ_ _ _=>none) (λ_=>λ_ _ _=>none) (λa=>k1 a GV.nilck) (λa b c e _=>k2 c e (Ej d a b)) (λa _ c=>k1 c (vUn a)) (λa b c=>k1 c (ZG d a b)) (λ_ _=>λ_ _ _=>none) (λ_ _=>λ_ _ _=>none) (λa b c=>kFn a b c) (λ_ b=>Vy b) (λ_ _=>λ_ _ _=>none) (λa b c=>Rn d a b c) (λa b c e f=>aaS d a b c e f) (λa b c=>k1 b (Qz d a c)) (λa b c=>k1 b (WU d a c)) (λa b c=>k2 b c (MQ d a)) (λa b c=>k2 b c (vAt d a)) (λa b c e=>Rm d a b c e) (λa b c e=>Mk d a b c e) (λ_ _ _=>λ_ _ _=>none) (λ_ _ _ _=>λ_ _ _=>none) (λ_ _=>λ_ _ _=>none) (λ_ _=>λ_ _ _=>none) (λ_=>λ_ _ _=>none) (λ_ _ _ _=>λ_ _ _=>none) (λa b=>k1 a (abn b)) (λa=>ach d g a) (λ_=>λ_ _ _=>none) (λ_=>λ_ _ _=>none) (λ_=>λ_ _ _=>none) (λ_ _=>λ_ _ _=>none) (λ_ _ _=>λ_ _ _=>none) (λ_ _=>λ_ _ _=>none)
def acC (x:Operand):Nat:=Operand.casesOn (motive:=λ_=>Nat) x (λt=>Nat.shiftLeft 1 t) (λ_=>0) (λ_=>0) (λ_=>0)
def acB (all:List Oper) (o:Oper):Nat:=Nat.lor (o.op.operands.toList.foldl (λm x=>Nat.lor m (acC x)) 0) (match o.guard with
 |none=>0
 |some g=>match GQ all g.1 with
  |some a=>(match a.dst with|some d=>Nat.shiftLeft 1 d|none=>0)
  |none=>0)
def aea (m:Nat) (d:Option Nat):Nat:=match d with
 |none=>m
 |some d=>bif Nat.testBit m d then Nat.sub m (Nat.shiftLeft 1 d)else m
def YC (all:List Oper) (l:List Oper) (m:Nat):Nat:=l.foldr (λo m=>Nat.lor (aea m o.dst) (acB all o)) m
structure Cx where
 res:List ResultVar
 retm:Nat
 env:List (Nat×Nat)
def BB (e:List (Nat×Nat)) (id:Nat):Nat:=List.rec (motive:=λ_=>Nat) 0 (λp _ a=>bif Nat.beq p.1 id then p.2 else a) e
def acl (c:Code) (d:Nat):Nat->List (Nat×Nat)->Nat:=Code.rec (motive:=λ_=>Nat->List (Nat×Nat)->Nat)
 (λm _=>m) (λ_ b _ m _=>YC b.toList b.toList m) (λ_ _ f a m e=>f (a m e) e) (λx _ _ f a m e=>Nat.lor (acC x) (Nat.lor (f m e) (a m e))) (λid _ a m e=>a m ((id,m)::e))
 (λ_ a _ e=>Nat.lor (a 0 e) (a (a 0 e) e)) (λ_ _ _ _ _ _ _ _=>0) (λid _ e=>BB e id) (λ_ _ _ _=>0) (λ_ _ _=>0) (λ_ _ _=>0) (λ_ _=>d) (λ_ _ _=>0) c
def live (c:Code) (m:Nat) (a:Cx):Nat:=acl c a.retm m a.env
def aci (f m:Nat):Nat->List Nat:=Nat.rec (motive:=λ_=>Nat->List Nat) (λ_=>[]) (λ_ a i=>bif Nat.testBit m i then i::a (Nat.succ i)else a (Nat.succ i)) f
def lF (m:Nat):List Nat:=aci (Nat.succ (Nat.log2 m)) m 0
def Cb (c:GF) (b:List Nat):List GV:=List.rec (motive:=λ_=>List GV) [] (λk _ a=>Option.casesOn (motive:=λ_=>GV) (EK c k) .bad (λv=>v)::a) b
def jZ {R:Type} (d:List Nat):List GV->(GF->Option R)->Option R:=List.rec (motive:=λ_=>List GV->(GF->Option R)->Option R) (λb k=>List.casesOn (motive:=λ_=>Option R) b (k []) λ_ _=>none) (λa _ c b k=>List.casesOn (motive:=λ_=>Option R) b none λv r=>c r λe=>k ((a,v)::e)) d
inductive Ex where
 |normal
 |exit (id:Nat)
 |ret
inductive ZX where
 |fn (f:Nat)
 |loop (b:Code) (cx:Cx)
structure GS where
 σ:GF
 H:GH
structure Nh where
 e:Ex
 vs:List GV
 H:GH
abbrev RS:=Option Nh
abbrev QH0:=List GV->GH->RS
abbrev QH:=Nat->List GV->GH->RS
abbrev IH:=ZX->List GV->GH->RS
def abe (b:TB) (s:GS) (r:ResultVar):Option GV:=ResultVar.casesOn (motive:=λ_=>Option GV) r (λt=>EK s.σ t) λa T=>ob (EK s.σ a) λv=>AW b T v s.H
def Oe (b:TB) (s:GS) (l:List ResultVar):Option (List GV):=List.rec (motive:=λ_=>Option (List GV)) (some []) (λr _ a=>ob (abe b s r) λv=>ob a λc=>some (v::c)) l
def IG (l:List ResultVar):Nat:=List.rec (motive:=λ_=>Nat) 0 (λr _ b=>Nat.lor (ResultVar.casesOn (motive:=λ_=>Nat) r (λt=>Nat.shiftLeft 1 t) (λa _=>Nat.shiftLeft 1 a)) b) l
def Tl (a:List GV):GV:=List.casesOn (motive:=λ_=>GV) a (.tup []) (λv r=>List.casesOn (motive:=λ_=>GV) r v (λ_ _=> .tup a))
def putD (d:Option Nat) (v:GV) (a:GF):GF:=Option.casesOn (motive:=λ_=>GF) d a λd=>(d,v)::a
def Gk (a:List Nat) (s:GS):RS:=some ⟨.normal,Cb s.σ a,s.H⟩
def Qe (b:TB) (a:Cx) (s:GS):RS:=ob (Oe b s a.res) λc=>some ⟨.ret,c,s.H⟩
def Zv (a:List Nat) (k:GS->RS) (r:RS):RS:=ob r λo=>Ex.casesOn (motive:=λ_=>RS) o.e (jZ a o.vs λb=>k ⟨b,o.H⟩) (λ_=>some o) (some o)
def nB (id:Nat) (r:RS):RS:=ob r λo=>Ex.casesOn (motive:=λ_=>RS) o.e (some o) (λi=>Bool.casesOn (motive:=λ_=>RS) (Nat.beq i id) (some o) (some ⟨.normal,o.vs,o.H⟩)) (some o)
def Hu (g:GV) (H:GH):OR:=some (g,H)
def opK (d:Option Nat) (s:GS) (k:GS->RS) (g:GV) (H:GH):RS:=k ⟨putD d g s.σ,H⟩
def evG (c:TB) (a:CH) (o:Oper) (s:GS) (b:Bool) (v:GV):OR:=GV.casesOn (motive_1:=λ_=>OR) v (λ_ _=>none) (λq=>Bool.casesOn (motive:=λ_=>OR) (Rb q b) (some (.un,s.H)) (MU c a o.op s.σ s.H Hu)) (λ_ _=>none) (λ_ _=>none) none (λ_ _ _ _=>none) none (λ_=>none) (λ_ _ _=>none) none none (λ_=>none) (λ_=>none) (some (.un,s.H)) none (λ_=>none)
def Js (b:TB) (a:CH) (all:List Oper) (o:Oper) (k:GS->RS) (s:GS):RS:=Option.casesOn (motive:=λ_=>RS) o.guard (MU b a o.op s.σ s.H (opK o.dst s k)) λg=>ob (GQ all g.1) λd=>ob d.dst λc=>ob (EK s.σ c) λv=>kY (evG b a o s g.2 v) (opK o.dst s k)
def ER (c:TB) (b:CH) (all:List Oper) (k:GS->RS) (l:List Oper):GS->RS:=List.rec (motive:=λ_=>GS->RS) k (λo _ a s=>Js c b all o a s) l
def nR:Op->Bool
 | .load .. => true
 |_=>false
def Mj:Op->Bool
 | .lookup .. => true
 |_=>false
def YA (a:GF):Op->Option Nat
 | .load _ x=>ob (some x) λx=>ob (kI a x) λv=>ob v.asP λp=>some p.1
 |_=>none
def ZK {a:Type} (H:GH) (h v:Nat) (k:Option a):Option a:=ob (H.ver h) λu=>Bool.casesOn (motive:=λ_=>Option a) (Nat.beq u v) none k
def pck (H:GH) (e:Option (Nat×Nat)) (k:Option Unit):Option Unit:=Option.casesOn (motive:=λ_=>Option Unit) e k λp=>ZK H p.1 p.2 k
def Jl (m:List Nat) (i:Nat) (H:GH) (b:List (Nat×Option (Nat×Nat))):Option Unit:=List.rec (motive:=λ_=>Option Unit) (some ()) (λp _ a=>Bool.casesOn (motive:=λ_=>Option Unit) (before m i p.1) (pck H p.2 a) a) b
def Jm (m:List Nat) (i h v:Nat) (b:List (Nat×GH)):Option (Option (Nat×Nat)):=List.rec (motive:=λ_=>Option (Option (Nat×Nat))) (some (some (h,v))) (λq _ a=>Bool.casesOn (motive:=λ_=>Option (Option (Nat×Nat))) (before m i q.1) (ZK q.2 h v a) a) b
def ldV (m:List Nat) (i:Nat) (a:List (Nat×GH)) (H:GH) (l:Option Nat):Option (Option (Nat×Nat)):=Option.casesOn (motive:=λ_=>Option (Option (Nat×Nat))) l (some none) λh=>ob (H.ver h) λv=>Jm m i h v a
abbrev WT:=Nat->List (Nat×Option (Nat×Nat))->List (Nat×GH)->GS->RS
def Va (f:TB) (d:CH) (all:List Oper) (m:List Nat) (o:Oper) (K:WT):WT:=λi b a s=>
 Bool.casesOn (motive:=λ_=>RS) (e_ o.op)
  (Bool.casesOn (motive:=λ_=>RS) (nR o.op) (Js f d all o (K (Nat.succ i) b a) s)
   (Js f d all o (λc=>ob (ldV m i a s.H (YA s.σ o.op)) λe=>K (Nat.succ i) ((i,e)::b) a c) s))
  (Js f d all o (λc=>ob (Jl m i c.H b) λ_=>K (Nat.succ i) b ((i,s.H)::a) c) s)
def evW (c:TB) (a:CH) (all:List Oper) (m:List Nat) (k:GS->RS) (l:List Oper):WT:=List.rec (motive:=λ_=>WT) (λ_ _ _ s=>k s) (λo _ b=>Va c a all m o b) l
def ED (l:List Oper) (p:Op->Bool):Bool:=(List.range l.length).all λi=>match l[i]? with
 |none=>true
 |some o=> !p o.op||(List.range l.length).all λj=>match l[j]? with
  |none=>true
  |some a=> !e_ a.op||before (oW l) i j||before (oW l) j i
def abo (a:Bool) (l:List Oper):Bool:=Bool.casesOn (motive:=λ_=>Bool) a false (!ED l nR)
def Le (r:RS):OR:=ob r λo=>Ex.casesOn (motive:=λ_=>OR) o.e none (λ_=>none) (some (Tl o.vs,o.H))
structure GP where
 tab:TB
 cat:Nat
 ext:Nat->List GV->GH->Option (GV×GH)
 exn:Nat->List GV->Option GV
def xS:GV:= .int .i64 (.ofNat 0)
def abQ (l:CH) (m:List GV) (H:GH):OR:=List.casesOn (motive:=λ_=>OR) m none λu r=>List.casesOn (motive:=λ_=>OR) r (ob u.asF λg=>H.newK (.cells [xS]) λa c=>c.newK (.cells [xS]) λb d=>ob (l g.1 (g.2.1++g.2.2) d) λx=>ob (x.2.cells a) λj=>ob (x.2.cells b) λk=>
 bif Nat.beq j.length 1 then(bif Nat.beq k.length 1 then x.2.setK a (.cells [xS]) λe=>e.setK b (.cells [xS]) λf=>f.delK a λh=>h.delK b λi=>some (.tup [xS,xS],i)else none)else none) (λ_ _=>none)
def abP (a:IH):CH:=λf b H=>Le (a (.fn f) b H)
def callQ (G:GP) (q:QH):CH:=λf a H=>Bool.casesOn (motive:=λ_=>OR) (Nat.beq f G.cat) (Option.casesOn (motive:=λ_=>OR) (G.ext f a H) (Option.casesOn (motive:=λ_=>OR) (G.exn f a) (Le (q f a H)) λg=>some (g,H)) λr=>some r) (abQ (λf a H=>Le (q f a H)) a H)
def Dx (G:GP) (a:IH):CH:=callQ G λf b H=>a (.fn f) b H
abbrev ET:=Nat->Cx->(GS->RS)->GS->RS
abbrev LH:=Code->Cx->QH0
def Ym (g:TB) (ch:CH) (lp:LH) (c:Code):ET:=Code.rec (motive:=λ_=>ET)
 (λ_ _ k s=>k s)
 (λ_ d h _ _ k s=>Bool.casesOn (motive:=λ_=>RS) (abo h d.toList) (ER g ch d.toList k d.toList s) (evW g ch d.toList (oW d.toList) k d.toList 0 [] [] s))
 (λ_ b f e m a k s=>f (live b m a) a (e m a k) s)
 (λx _ _ f e m a k s=>ob (kI s.σ x) λv=>ob v.asB λq=>Zv (lF m) k (Bool.casesOn (motive:=λ_=>RS) q (e m a (Gk (lF m)) s) (f m a (Gk (lF m)) s)))
 (λid _ e m a k s=>Zv (lF m) k (nB id (e m ⟨a.res,a.retm,(id,m)::a.env⟩ (Gk (lF m)) s)))
 (λb _ _ a _ s=>lp b a (Cb s.σ (lF (live (.loop b) 0 a))) s.H)
 (λ_ _ _ _ _ _ _ _ _ _=>none)
 (λid _ a _ s=>some ⟨.exit id,Cb s.σ (lF (BB a.env id)),s.H⟩)
 (λ_ _ _ _ _ _=>none) (λ_ _ _ _ _=>none) (λ_ _ _ _ _=>none)
 (λ_ a _ s=>Qe g a s)
 (λ_ _ _ _ _=>none) c
def TD (b:TB) (c:CH) (d:LH) (fn:Func) (e:List GV) (H:GH):RS:=ob fn.body λa=>jZ (List.range (Nat.add fn.params.size fn.nfree)) e λf=>Ym b c d a (IG fn.results.toList) ⟨fn.results.toList,IG fn.results.toList,[]⟩ (Qe b ⟨fn.results.toList,IG fn.results.toList,[]⟩) ⟨f,H⟩
def evL (f:TB) (d:CH) (c:LH) (b:Code) (a:Cx) (g:List GV) (H:GH):RS:=jZ (lF (live (.loop b) 0 a)) g λh=>ob (Ym f d c b (live (.loop b) 0 a) a (Gk (lF (live (.loop b) 0 a))) ⟨h,H⟩) λo=>Ex.casesOn (motive:=λ_=>RS) o.e (c b a o.vs o.H) (λ_=>some o) (some o)
abbrev FT:=Nat->Option Func
def step (G:GP) (d:FT) (a:IH) (t:ZX):List GV->GH->RS:=ZX.casesOn (motive:=λ_=>List GV->GH->RS) t (λf g H=>ob (d f) λe=>TD G.tab (Dx G a) (λb c=>a (.loop b c)) e g H) (evL G.tab (Dx G a) λb c=>a (.loop b c))
def run (G:GP) (b:FT) (a:Nat):IH:=Nat.rec (motive:=λ_=>IH) (λ_ _ _=>none) (λ_ c=>step G b c) a
def QV (G:GP) (c:FT) (b:Nat) (f:FuncId) (a:List GV) (H:GH):OR:=Dx G (run G c b) f a H
def H0:GH:=⟨0,.lf⟩
end
section
variable {α β:Type}
theorem aF {o:Option α} {f:α->Option β} {r:β}:ob o f=some r↔∃x,o=some x∧f x=some r:=by
 cases o<;>simp[ob]
theorem bW {b:Bool} {x:Option α} {r:α}:(bif b then x else none)=some r↔b=true∧x=some r:=by
 cases b<;>simp
theorem kR {b:Bool} {x:Option α} {r:α}:(bif b then none else x)=some r↔b=false∧x=some r:=by
 cases b<;>simp
theorem v_ (n:Nat) (f:Nat->α):sn n f=f n:=by cases n<;>rfl
theorem KP (z:Int) (f:Int->α):fi z f=f z:=by cases z<;>simp[fi,v_]
theorem uD (l:List α):∀n,GQ l n=l[n]?:=by
 induction l with
 |nil=>intro n;rfl
 |cons x l a=>intro n;cases n with
  |zero=>rfl
  |succ n=>exact a n
theorem YE {v:α}:∀{l a:List α} {n:Nat},YD v l n=some a->n<l.length∧a=l.set n v:=by
 intro l
 induction l with
 |nil=>intro a n h;cases h
 | cons x l ih => intro a n h; cases n with
  |zero=>cases h;simp
  |succ n=>
   obtain⟨r,b,c⟩:=aF.1 (show ob (YD v l n) (λf=>some (x::f))=some a from h);obtain⟨d,e⟩:=ih b;cases c;simp[d,e]
theorem acA:∀{l r:List α} {n:Nat},tk l n=some r->n<=l.length∧r=l.take n:=by
 intro l
 induction l with
 |nil=>intro r n h;cases n with
  |zero=>cases h;simp
  |succ n=>cases h
 | cons x l ih => intro r n h; cases n with
  |zero=>cases h;simp
  |succ n=>
   obtain⟨q,a,b⟩:=aF.1 (show ob (tk l n) (λr=>some (x::r))=some r from h);obtain⟨c,d⟩:=ih a;cases b;simp[c,d]
theorem abS:∀{l r:List α} {n:Nat},dp l n=some r->n<=l.length∧r=l.drop n:=by
 intro l
 induction l with
 |nil=>intro r n h;cases n with
  |zero=>cases h;simp
  |succ n=>cases h
 |cons x l a=>intro r n h;cases n with
  |zero=>cases h;simp
  |succ n=>have:=a (show dp l n=some r from h);simpa using this
theorem MD {l r:List α} {o n:Nat} (h:slc l o n=some r):o+n<=l.length∧r=(l.drop o).take n:=by
 obtain⟨q,a,b⟩:=aF.1 h;obtain⟨d,rfl⟩:=abS a;obtain⟨c,rfl⟩:=acA b;simp at c;exact⟨by omega,rfl⟩
def wr (b:List α) (o:Nat) (a:List α):List α:=a.take o++b++a.drop (o+b.length)
end
theorem IA:∀{b c a:List GV} {o:Nat},Ga b o c=some a->(b≠[]->o+b.length<=c.length)∧a.length=c.length∧∀i,a[i]? = if o<=i∧i<o+b.length then b[i - o]? else c[i]?:=by
 intro b
 induction b with
 |nil=>
  intro c a o h;cases h;refine⟨λh=>absurd Z h,rfl,λi=> ?_⟩
  rw[if_neg (by simp)]
 | cons v b ih =>
  intro c a o h;obtain⟨p,l,f⟩:=aF.1 (show ob (YD v c o) (λa=>sn (Nat.succ o) λn=>Ga b n a)=some a from h);rw[v_]at f;obtain⟨m,rfl⟩:=YE l;obtain⟨g,j,k⟩:=ih f;simp only[zA1,Nat.succ_eq_add_one]at g j k;refine⟨λ_=> ?_,j,λi=> ?_⟩
  ·cases b with
   |nil=>simp;omega
   |cons y q=>have:=g (by simp);simp at this ⊢;omega
  rw[k i];by_cases e:i=o
  ·subst e;rw[if_neg (by omega),if_pos (by simp),zAg m];simp
  ·by_cases d:o+1<=i∧i<o+1+b.length
   ·rw[if_pos d,if_pos (by simp;omega)];have:i - o=(i - (o+1))+1:=by omega
    rw[this,List.getElem?_cons_succ]
   ·rw[if_neg d,if_neg (by simp;omega),zAr (Ne.symm e)]
theorem Np {j:Type} (x:Option j):∀(f n m:Nat),n<f->(Cn x f n).get m=if m=n then x else none:=by
 intro f
 induction f with
 |zero=>intro n m h;omega
 | succ f ih =>
  intro n m h;show Tr.get (bif Nat.beq n 0 then .nd x .lf .lf else bif Nat.beq (Nat.mod n 2) 1 then .nd none (Cn x f (Nat.div n 2)) .lf else .nd none .lf (Cn x f (Nat.sub (Nat.div n 2) 1))) m=_;have p:∀(a:Option j) (l r:Tr j),Tr.get (.nd a l r) m=if m=0 then a else if m%2=1 then l.get (m / 2)else r.get (m / 2 - 1):=λa l r=>by
   show Bool.casesOn (motive:=λ_=>Option j) (Nat.beq m 0) (Bool.casesOn (motive:=λ_=>Option j) (Nat.beq (Nat.mod m 2) 1) (r.get (Nat.sub (Nat.div m 2) 1)) (l.get (Nat.div m 2))) a=_;by_cases i:m=0
   ·subst i;rfl
   ·rw[if_neg i,nQ i];by_cases b:m%2=1
    ·rw[if_pos b];have:Nat.beq (Nat.mod m 2) 1=true:=by rw[show Nat.mod m 2=1 from b];rfl
     rw[this];rfl
    ·rw[if_neg b];have:Nat.beq (Nat.mod m 2) 1=false:=nQ b;rw[this];rfl
  have d:∀k,(Tr.lf:Tr j).get k=none:=λ_=>rfl;have q:Nat.div n 2=n / 2:=rfl;have s:Nat.sub (Nat.div n 2) 1=n / 2 - 1:=rfl;by_cases i:n=0
  ·subst i;show Tr.get (.nd x .lf .lf) m=_;simp only[p,d];by_cases g:m=0<;>simp[g]
  ·rw[nQ i];by_cases b:n%2=1
   ·have:Nat.beq (Nat.mod n 2) 1=true:=by rw[show Nat.mod n 2=1 from b];rfl
    simp only[this,cond_true,cond_false,p,d,q];rw[ih _ _ (by omega)];by_cases g:m=0
    ·rw[if_pos g,if_neg (by omega)]
    ·rw[if_neg g];by_cases c:m%2=1
     ·rw[if_pos c];by_cases o:m=n
      ·subst o;simp
      ·rw[if_neg o,if_neg (by omega)]
     ·rw[if_neg c,if_neg (by intro e;subst e;exact c b)]
   ·have:Nat.beq (Nat.mod n 2) 1=false:=nQ b;simp only[this,cond_true,cond_false,p,d,s];rw[ih _ _ (by omega)];by_cases g:m=0
    ·rw[if_pos g,if_neg (by omega)]
    ·rw[if_neg g];by_cases c:m%2=1
     ·rw[if_pos c,if_neg (by intro e;subst e;exact b c)]
     ·rw[if_neg c];by_cases o:m=n
      ·subst o;simp
      ·rw[if_neg o,if_neg (by omega)]
theorem sB {f:Type} (x:Option f):∀(t:Tr f) (n m:Nat),(t.set x n).get m=if m=n then x else t.get m:=by
 intro t
 induction t with
 |lf=>intro n m;exact Np x _ n m (Nat.lt_succ_self n)
 | nd a l r ihl ihr =>
  intro n m;have h:∀(a:Option f) (l r:Tr f),Tr.get (.nd a l r) m=if m=0 then a else if m%2=1 then l.get (m / 2)else r.get (m / 2 - 1):=λa l r=>by
   show Bool.casesOn (motive:=λ_=>Option f) (Nat.beq m 0) (Bool.casesOn (motive:=λ_=>Option f) (Nat.beq (Nat.mod m 2) 1) (r.get (Nat.sub (Nat.div m 2) 1)) (l.get (Nat.div m 2))) a=_;by_cases g:m=0
   ·subst g;rfl
   ·rw[if_neg g,nQ g];by_cases d:m%2=1
    ·rw[if_pos d];have:Nat.beq (Nat.mod m 2) 1=true:=by rw[show Nat.mod m 2=1 from d];rfl
     rw[this];rfl
    ·rw[if_neg d];have:Nat.beq (Nat.mod m 2) 1=false:=nQ d;rw[this];rfl
  show Tr.get (Bool.casesOn (motive:=λ_=>Tr f) (Nat.beq n 0) (Bool.casesOn (motive:=λ_=>Tr f) (Nat.beq (Nat.mod n 2) 1) (.nd a l (r.set x (Nat.sub (Nat.div n 2) 1))) (.nd a (l.set x (Nat.div n 2)) r)) (.nd x l r)) m=_;have j:Nat.div n 2=n / 2:=rfl;have k:Nat.sub (Nat.div n 2) 1=n / 2 - 1:=rfl;by_cases g:n=0
  ·subst g;show Tr.get (.nd x l r) m=_;rw[h,h];by_cases c:m=0<;>simp[c]
  ·rw[nQ g];by_cases d:n%2=1
   ·have:Nat.beq (Nat.mod n 2) 1=true:=by rw[show Nat.mod n 2=1 from d];rfl
    rw[this];show Tr.get (.nd a (l.set x (Nat.div n 2)) r) m=_;rw[h,h,ihl,j];by_cases c:m=0
    ·rw[if_pos c,if_pos c,if_neg (by omega)]
    ·rw[if_neg c,if_neg c];by_cases b:m%2=1
     ·rw[if_pos b,if_pos b];by_cases i:m=n
      ·subst i;simp
      ·rw[if_neg i,if_neg (by omega)]
     ·rw[if_neg b,if_neg b,if_neg (by intro e;subst e;exact b d)]
   ·have:Nat.beq (Nat.mod n 2) 1=false:=nQ d;rw[this];show Tr.get (.nd a l (r.set x (Nat.sub (Nat.div n 2) 1))) m=_;rw[h,h,ihr,k];by_cases c:m=0
    ·rw[if_pos c,if_pos c,if_neg (by omega)]
    ·rw[if_neg c,if_neg c];by_cases b:m%2=1
     ·rw[if_pos b,if_pos b,if_neg (by intro e;subst e;exact d b)]
     ·rw[if_neg b,if_neg b];by_cases i:m=n
      ·subst i;simp
      ·rw[if_neg i,if_neg (by omega)]
theorem rY (H:GH) (h:Nat) (o:GO) (k:Nat):(H.set h o).get k=if k=h then some o else H.get k:=by
 unfold GH.get GH.set;rw[sB];by_cases e:k=h<;>simp[e,ob]
theorem OU (H:GH) (h:Nat) (o:GO) (k:Nat):(H.set h o).ver k=if k=h then some H.n else H.ver k:=by
 unfold GH.ver GH.set;rw[sB];by_cases e:k=h<;>simp[e,ob]
theorem Fe (H:GH) (h k:Nat):(H.del h).get k=if k=h then none else H.get k:=by
 unfold GH.get GH.del;rw[sB];by_cases e:k=h<;>simp[e,ob]
theorem OS (H:GH) (h k:Nat):(H.del h).ver k=if k=h then none else H.ver k:=by
 unfold GH.ver GH.del;rw[sB];by_cases e:k=h<;>simp[e,ob]
noncomputable def GH.new (H:GH) (o:GO):GH:=⟨H.n+1,H.t.set (some (H.n,o)) H.n⟩
theorem qH (H:GH) (o:GO) (k:Nat):(H.new o).get k=if k=H.n then some o else H.get k:=by
 unfold GH.get GH.new;rw[sB];by_cases e:k=H.n<;>simp[e,ob]
theorem OT (H:GH) (o:GO) (k:Nat):(H.new o).ver k=if k=H.n then some H.n else H.ver k:=by
 unfold GH.ver GH.new;rw[sB];by_cases e:k=H.n<;>simp[e,ob]
theorem Nq {b R:Type} (x:Option b):∀(f n:Nat) (k:Tr b->R),FM x f n k=k (Cn x f n):=by
 intro f
 induction f with
 |zero=>intro n k;rfl
 |succ f a=>
  intro n k;show Bool.casesOn (motive:=λ_=>R) (Nat.beq n 0) (Bool.casesOn (motive:=λ_=>R) (Nat.beq (Nat.mod n 2) 1) (FM x f (Nat.sub (Nat.div n 2) 1) λt=>k (.nd none .lf t)) (FM x f (Nat.div n 2) λt=>k (.nd none t .lf))) (k (.nd x .lf .lf))=k (bif Nat.beq n 0 then .nd x .lf .lf else bif Nat.beq (Nat.mod n 2) 1 then .nd none (Cn x f (Nat.div n 2)) .lf else .nd none .lf (Cn x f (Nat.sub (Nat.div n 2) 1)));rw[a,a];cases Nat.beq n 0<;>cases Nat.beq (Nat.mod n 2) 1<;>rfl
theorem Cm {b R:Type} (x:Option b):∀(t:Tr b) (n:Nat) (k:Tr b->R),t.setK x n k=k (t.set x n):=by
 intro t
 induction t with
 |lf=>intro n k;exact Nq x (Nat.succ n) n k
 |nd a l r c d=>
  intro n k;show Bool.casesOn (motive:=λ_=>R) (Nat.beq n 0) (Bool.casesOn (motive:=λ_=>R) (Nat.beq (Nat.mod n 2) 1) (r.setK x (Nat.sub (Nat.div n 2) 1) λt=>k (.nd a l t)) (l.setK x (Nat.div n 2) λt=>k (.nd a t r))) (k (.nd x l r))=k (Bool.casesOn (motive:=λ_=>Tr b) (Nat.beq n 0) (Bool.casesOn (motive:=λ_=>Tr b) (Nat.beq (Nat.mod n 2) 1) (.nd a l (r.set x (Nat.sub (Nat.div n 2) 1))) (.nd a (l.set x (Nat.div n 2)) r)) (.nd x l r));rw[c,d];cases Nat.beq n 0<;>cases Nat.beq (Nat.mod n 2) 1<;>rfl
theorem jC {a:Type} (H:GH) (o:GO) (f:Nat->GH->a):H.newK o f=f H.n (H.new o):=by simp only[GH.newK,v_,Cm];rfl
theorem xX {a:Type} (H:GH) (h:Nat) (o:GO) (f:GH->a):H.setK h o f=f (H.set h o):=by simp only[GH.setK,v_,Cm];rfl
theorem Fc {a:Type} (H:GH) (h:Nat) (f:GH->a):H.delK h f=f (H.del h):=by simp only[GH.delK,Cm];rfl
theorem aaT {R:Type} (a b:List GV):∀k:List GV->R,lap a b k=k (a++b):=by
 induction a with
 |nil=>intro k;rfl
 |cons x a c=>intro k;exact c _
theorem Rc {R:Type} (a:List GV):∀k:List GV->R,fc a k=k a:=by
 induction a with
 |nil=>intro k;rfl
 |cons x a b=>intro k;exact b _
theorem UT (H:GH) (v:GV) (f:GH->OR):US H v f=f (PD H v):=by
 unfold US PD;cases v.asS with
 |none=>rfl
 |some s=>exact Fc H s.1 f
theorem iQ {H:GH} {h:Nat} {a:List GV}:H.cells h=some a↔H.get h=some (.cells a):=by
 unfold GH.cells;rw[aF];constructor
 ·rintro⟨o,d,b⟩;cases o with
  |cells c=>cases b;exact d
  |mp e=>cases b
 ·intro h;exact⟨_,h,rfl⟩
theorem GO.asM_eq {o:GO} {a:List (GV×GV)} (h:o.asM=some a):o = .mp a:=by
 cases o with
 |cells c=>cases h
 |mp e=>cases h;rfl
theorem Ax (k:Nat) (v:GV) (σ:GF) (t:Nat):EK ((k,v)::σ) t=if t=k then some v else EK σ t:=by
 show Bool.casesOn (motive:=λ_=>Option GV) (Nat.beq t k) (EK σ t) (some v)=_;by_cases e:t=k
 ·subst e;simp
 ·rw[nQ e,if_neg e]
section
variable {v:GV}
theorem nP {p:IntKind×Int} (h:v.asI=some p):v = .int p.1 p.2:=by cases v<;>cases h;rfl
theorem Bz {p:Bool} (h:v.asB=some p):v = .bool p:=by cases v<;>cases h;rfl
theorem Dv {p:Nat×Nat} (h:v.asP=some p):v = .ptr p.1 p.2:=by cases v<;>cases h;rfl
theorem BA {p:Nat×Nat×Nat×Nat} (h:v.asS=some p):v = .sl p.1 p.2.1 p.2.2.1 p.2.2.2:=by cases v<;>cases h;rfl
theorem Un {p:Nat×List GV×List GV} (h:v.asF=some p):v = .fn p.1 p.2.1 p.2.2:=by cases v<;>cases h;rfl
theorem aac {p:List GV} (h:v.asT=some p):v = .tup p:=by cases v<;>cases h;rfl
theorem Jc {p:List GV} (h:v.asA=some p):v = .agg p:=by cases v<;>cases h;rfl
theorem pI {p:Nat×Nat} (h:v.asStr=some p):v = .str p.1 p.2:=by cases v<;>cases h;rfl
theorem asM_eq {p:Nat} (h:v.asM=some p):v = .map p:=by cases v<;>cases h;rfl
theorem vZ (h:v.isSnil=true):v = .snil:=by cases v<;>first|rfl|cases h
end
section
variable {d:TypeDesc}
theorem FD {e:TypeId} (h:Xh d=some e):d = .slice e:=by cases d<;>cases h;rfl
theorem Qs {e:Nat×TypeId} (h:tdA d=some e):d = .array e.1 e.2:=by cases d<;>cases h;rfl
theorem ML {e:Array Field} (h:tdF d=some e):d = .struct e:=by cases d<;>cases h;rfl
theorem FC {e:IntKind} (h:Xg d=some e):d = .int e:=by cases d<;>cases h;rfl
theorem abm {e:TypeId×TypeId} (h:tdM d=some e):d = .map e.1 e.2:=by cases d<;>cases h;rfl
theorem AT (h:Ic d=true):d = .string:=by cases d<;>first|rfl|cases h
theorem Qt (h:tdB d=true):d = .bool:=by cases d<;>first|rfl|cases h
end
theorem Hb {a:Int} {n:Nat} (h:asN a=some n):a=n:=by cases a<;>cases h;rfl
theorem abL {b:Bool} {p:Prop} [Decidable p] (h:b=true↔p):b=decide p:=by
 cases b
 ·exact(zA6 λa=>by cases h.2 a).symm
 ·exact(zAd (h.1 Z)).symm
theorem Hp (a b:Int):ltI a b=decide (a<b):=by
  refine abL ?_;cases a with
  | ofNat a => cases b with
    |ofNat b=>show Nat.blt a b=true↔_;rw[zAu];simp
    | negSucc b =>
        constructor
        · intro h;cases h
        · intro h;simp at h;omega
  | negSucc a => cases b with
    | ofNat b =>
        constructor
        · intro _;have:=Int.negSucc_lt_zero a;simp;omega
        · intro _;rfl
    |negSucc b=>show Nat.blt b a=true↔_;rw[zAu];omega
theorem Jr (a b:Int):eqI a b=decide (a=b):=by
  refine abL ?_;cases a with
  | ofNat a => cases b with
    |ofNat b=>show Nat.beq a b=true↔_;simp;omega
    | negSucc b =>
        constructor
        · intro h;cases h
        · intro h;cases h
  | negSucc a => cases b with
    | ofNat b =>
        constructor
        · intro h;cases h
        · intro h;cases h
    |negSucc b=>show Nat.beq a b=true↔_;simp
theorem Fo (a b:Bool):Rb a b=(a==b):=by cases a<;>cases b<;>rfl
theorem Hj {a b:IntKind} (h:eqK a b=true):a=b:=zB6 h
theorem Jt (b:Bool):fb b=some (.bool b):=by cases b<;>rfl
end Go.Gx
namespace Go.Gx
open Go Go.Sx Go.RowKit
structure KA where
 b:Nat
 off:Nat
 size:Nat
 x:Obj
 /-- what the evaluator wrote -/
 o:GO
abbrev eS:=Nat->Option KA
def eS.le (b a:eS):Prop:=∀h l,b h=some l->a h=some l
theorem eS.le_refl (ρ:eS):ρ.le ρ:=λ_ _ h=>h
theorem eS.le_trans {a b c:eS} (h:a.le b) (k:b.le c):a.le c:=λ_ _ x=>k _ _ (h _ _ x)
inductive Rl (ρ:eS):GV->Value->Prop
 |int (k n):Rl ρ (.int k n) (.int k n)
 |bool (b):Rl ρ (.bool b) (.bool b)
 |str (s:ByteArray):Rl ρ (.str (lR (bR s)) (bR s).length) (.string s)
 |ptr {h l} (off) (hl:ρ h=some l):Rl ρ (.ptr h off) (.pointer (some ⟨l.b,l.off+off,none⟩))
 |pnil:Rl ρ .pnil (.pointer none)
 |sl {h l off len sz cap} {A:Addr} (hl:ρ h=some l) (hc:len<=cap) (ha:cap=0∨(A=⟨l.b,l.off+off,none⟩∧l.off+off+cap*sz<=l.size)):Rl ρ (.sl h off len sz) (.slice (some A) len cap)
 |snil:Rl ρ .snil (.slice none 0 0)
 |map {h l} (hl:ρ h=some l):Rl ρ (.map h) (.map (some l.b))
 | fn {us vs : List GV} {us' vs' : cR} (f) (h1 : us.length = us'.length) (h2 : ∀ (i : Nat) g v, us[i]? = some g → us'[i]? = some v → Rl ρ g v) (h3 : vs.length = vs'.length) (h4 : ∀ (i : Nat) g v, vs[i]? = some g → vs'[i]? = some v → Rl ρ g v) :
   Rl ρ (.fn f us vs) (.func (.func f) us'.toArray vs'.toArray)
 |fnil:Rl ρ .fnil .nilFunc
 |inil:Rl ρ .inil .nilIface
 |agg {cs:List GV} {vs:cR} (h1:cs.length=vs.length) (h2:∀(i:Nat) g v,cs[i]? = some g->vs[i]? = some v->Rl ρ g v) (h3:∀v∈vs,one v=true):Rl ρ (.agg cs) (.agg vs.toArray)
 |tup {cs:List GV} {vs:cR} (h1:cs.length=vs.length) (h2:∀(i:Nat) g v,cs[i]? = some g->vs[i]? = some v->Rl ρ g v):Rl ρ (.tup cs) (.tuple vs.toArray)
 |un:Rl ρ .un undef
 |bad (v):Rl ρ .bad v
 |opn {h l} (v) (hl:ρ h=some l) (hx:l.x = .cells #[v] 0 (0,0)):Rl ρ (.opn h) v
theorem Rl.le {p c:eS} (d:p.le c) {g:GV} {v:Value} (h:Rl p g v):Rl c g v:=by
 induction h with
 |int k n=>exact .int k n
 |bool b=>exact .bool b
 |str s=>exact .str s
 |ptr m h=>exact .ptr m (d _ _ h)
 |pnil=>exact .pnil
 |sl h r q=>exact .sl (d _ _ h) r q
 |snil=>exact .snil
 |map h=>exact .map (d _ _ h)
 |fn f a o e u j l=>exact .fn f a j e l
 |fnil=>exact .fnil
 |inil=>exact .inil
 |agg a o e i=>exact .agg a i e
 |tup a o i=>exact .tup a i
 |un=>exact .un
 |bad v=>exact .bad v
 |opn v h t=>exact .opn v (d _ _ h) t
structure qF (ρ:eS) (gs:List GV) (vs:cR):Prop where
 len:gs.length=vs.length
 at':∀(i:Nat) g v,gs[i]? = some g->vs[i]? = some v->Rl ρ g v
theorem qF.nil {ρ:eS}:qF ρ [] []:=⟨rfl,λi g v h=>by simp at h⟩
theorem qF.cons {ρ:eS} {g:GV} {v:Value} {gs:List GV} {vs:cR} (h:Rl ρ g v) (r:qF ρ gs vs):qF ρ (g::gs) (v::vs):=⟨by simp[r.len],λi a b c d=>by
 cases i with
 |zero=>simp at c d;subst c d;exact h
 |succ i=>simp at c d;exact r.at' i a b c d⟩
theorem qF.of_cons {e:eS} {g:GV} {gs:List GV} {c:cR} (h:qF e (g::gs) c):∃v d,c=v::d∧Rl e g v∧qF e gs d:=by
 cases c with
 |nil=>have:=h.len;simp at this
 |cons v c=>exact⟨v,c,rfl,h.at' 0 _ _ Z Z,by have:=h.len;simpa using this,λi a b f j=>h.at' (i+1) a b (by simpa using f) (by simpa using j)⟩
theorem qF.of_nil {b:eS} {a:cR} (h:qF b [] a):a=[]:=zAl h.len.symm
theorem qF.le {c a:eS} (f:c.le a) {b:List GV} {vs:cR} (h:qF c b vs):qF a b vs:=⟨h.len,λi g v d e=>(h.at' i g v d e).le f⟩
theorem qF.append {ρ:eS} {c a:List GV} {vs b:cR} (h:qF ρ c vs) (k:qF ρ a b):qF ρ (c++a) (vs++b):=by
 induction c generalizing vs with
 |nil=>rw[h.of_nil];exact k
 |cons g c f=>obtain⟨v,vs,rfl,d,e⟩:=h.of_cons;exact .cons d (f e)
theorem qF.get {ρ:eS} {b:List GV} {a:cR} (h:qF ρ b a) {i:Nat} {g:GV} (c:b[i]? = some g):∃v,a[i]? = some v∧Rl ρ g v:=by
 have d:=bH c;have:i<a.length:=h.len▸d;exact⟨a[i],zA2 this,h.at' i g _ c (zA2 this)⟩
theorem qF.sub {ρ:eS} {c:List GV} {d:cR} (h:qF ρ c d) (o n:Nat):qF ρ ((c.drop o).take n) ((d.drop o).take n):=
 ⟨by simp[h.len],λi g v a b=>by
  rw[zAp]at a b;split at a
  ·rename_i e;rw[if_pos e]at b;rw[zAq]at a b;exact h.at' _ g v a b
  ·cases a⟩
section
variable {ρ:eS} {V:Value}
theorem Rl.int_inv {k:IntKind} {n:Int} (h:Rl ρ (.int k n) V):V = .int k n:=by cases h;rfl
theorem Rl.bool_inv {b:Bool} (h:Rl ρ (.bool b) V):V = .bool b:=by cases h;rfl
theorem Rl.str_inv {n l:Nat} (h:Rl ρ (.str n l) V):∃s,V = .string s∧n=lR (bR s)∧l=(bR s).length:=by cases h;exact⟨_,rfl,rfl,rfl⟩
theorem Rl.ptr_inv {h o:Nat} (x:Rl ρ (.ptr h o) V):∃l,ρ h=some l∧V = .pointer (some ⟨l.b,l.off+o,none⟩):=by cases x with|ptr o a=>exact⟨_,a,rfl⟩
theorem Rl.sl_inv {h o n a:Nat} (x:Rl ρ (.sl h o n a) V):∃l cap A,ρ h=some l∧V = .slice (some A) n cap∧n<=cap∧(cap=0∨(A=⟨l.b,l.off+o,none⟩∧l.off+o+cap*a<=l.size)):=by
 cases x with|sl e d c=>exact⟨_,_,_,e,rfl,d,c⟩
theorem Rl.snil_inv (h:Rl ρ .snil V):V = .slice none 0 0:=by cases h;rfl
theorem Rl.map_inv {h:Nat} (x:Rl ρ (.map h) V):∃l,ρ h=some l∧V = .map (some l.b):=by cases x with|map a=>exact⟨_,a,rfl⟩
theorem Rl.fn_inv {f:Nat} {c d:List GV} (x:Rl ρ (.fn f c d) V):∃a b,V = .func (.func f) a.toArray b.toArray∧qF ρ c a∧qF ρ d b:=by
 cases x with|fn f e g h i=>exact⟨_,_,rfl,⟨e,g⟩,⟨h,i⟩⟩
theorem Rl.agg_inv {b:List GV} (x:Rl ρ (.agg b) V):∃a,V = .agg a.toArray∧qF ρ b a∧∀v∈a,one v=true:=by
 cases x with|agg c d e=>exact⟨_,rfl,⟨c,d⟩,e⟩
theorem Rl.tup_inv {a:List GV} (x:Rl ρ (.tup a) V):∃b,V = .tuple b.toArray∧qF ρ a b:=by
 cases x with|tup c d=>exact⟨_,rfl,⟨c,d⟩⟩
theorem Rl.opn_inv {h:Nat} (x:Rl ρ (.opn h) V):∃l,ρ h=some l∧l.x = .cells #[V] 0 (0,0):=by cases x with|opn v a b=>exact⟨_,a,b⟩
theorem Rl.un_inv (x:Rl ρ .un V):V=undef:=by cases x;rfl
theorem Ph {f:Nat} {e g:List GV} {a b:List Value} (c:qF ρ e a) (d:qF ρ g b):Rl ρ (.fn f e g) (.func (.func f) a.toArray b.toArray):= .fn f c.len c.at' d.len d.at'
theorem FJ {cs:List GV} {vs:List Value} (h:qF ρ cs vs) (a:∀v∈vs,one v=true):Rl ρ (.agg cs) (.agg vs.toArray):= .agg h.len h.at' a
theorem Ip {a:List GV} {b:List Value} (h:qF ρ a b):Rl ρ (.tup a) (.tuple b.toArray):= .tup h.len h.at'
theorem Rl.cells {g:GV} {cs:List GV} (h:Rl ρ g V) (a:g.cells=some cs):∃vs,V.cells=vs.toArray∧qF ρ cs vs∧∀v∈vs,one v=true:=by
 have b:∀g V,Rl ρ g V->one V=true->∃vs,#[V]=vs.toArray∧qF ρ [g] vs∧∀v∈vs,one v=true:=λg V h c=>⟨[V],rfl,.cons h .nil,λv e=>by simp at e;subst e;exact c⟩
 have f:=h;cases h with
 |agg c d i=>cases a;exact⟨_,rfl,⟨c,d⟩,i⟩
 |tup c d=>cases a
 |un=>cases a
 |bad v=>cases a
 |opn v j k=>cases a
 |_=>cases a;exact b _ _ f Z
end
theorem Ms {ρ:eS} {v:Value} {g:GV} (h:Tk v=some g):Rl ρ g v∧one v=true:=by
 unfold Tk at h;split at h
 ·cases h;exact⟨.int _ _,rfl⟩
 ·cases h;exact⟨.bool _,rfl⟩
 ·cases h;exact⟨.snil,rfl⟩
 ·cases h;exact⟨.pnil,rfl⟩
 ·cases h;exact⟨.fnil,rfl⟩
 ·cases h;exact⟨.inil,rfl⟩
 ·simp only[v_]at h;cases h;exact⟨.str _,rfl⟩
 ·cases h
theorem RB {ρ:eS}:∀{f:List Value} {e:List GV},YJ f=some e->qF ρ e f∧∀v∈f,one v=true
 | [],e,h=>by cases h;exact⟨.nil,λv h=>by simp at h⟩
 | v :: f, e, h => by
  obtain⟨x,j,k⟩:=aF.1 (show ob (Tk v) (λx=>ob (YJ f) λi=>some (x::i))=some e from h);obtain⟨i,l,m⟩:=aF.1 k;cases m;obtain⟨a,b⟩:=RB l;obtain⟨c,d⟩:=Ms (ρ:=ρ) j;exact⟨.cons c a,λu g=>by
   rcases zAm.1 g with rfl|g
   ·exact d
   ·exact b u g⟩
theorem PZ {ρ:eS} {v:Value} {g:GV} (h:ofV v=some g):Rl ρ g v:=by
 unfold ofV at h;split at h
 ·obtain⟨e,c,d⟩:=aF.1 h;cases d;obtain⟨a,b⟩:=RB (ρ:=ρ) c;have:=FJ a b;simpa using this
 ·exact(Ms h).1
theorem RJ {ρ:eS} {s:Sem Value} {g:GV} (h:HA s=some g):∃v,Rl ρ g v∧s = .pure v:=by
 unfold HA at h;split at h
 ·exact⟨_,(Ms h).1,rfl⟩
 ·cases h
structure kW (ρ:eS) (n:Nat) (σ:GF) (a:Act):Prop where
 defers:a.defers=[]
 size:a.tmps.size=n
 slot:∀t g,EK σ t=some g->Rl ρ g (a.eval (.tmp t))
theorem kW.le {c b:eS} (f:c.le b) {n:Nat} {d:GF} {a:Act} (h:kW c n d a):kW b n d a:=⟨h.defers,h.size,λt g e=>(h.slot t g e).le f⟩
theorem kW.put {c:eS} {n:Nat} {f:GF} {a:Act} (h:kW c n f a) {d:Nat} (i:d<n) {g:GV} {v:Value} (j:Rl c g v):kW c n ((d,g)::f) (a.put (some d) v):=
 ⟨h.defers,by simp[Act.put,h.size],λt u b=>by
  rw[Ax]at b;by_cases e:t=d
  ·subst e;rw[if_pos Z]at b;cases b;have:(a.put (some t) v).eval (.tmp t)=v:=by simp[Act.put,Act.eval,h.size,i]
   rw[this];exact j
  ·rw[if_neg e]at b;have:(a.put (some d) v).eval (.tmp t)=a.eval (.tmp t):=by
    simp only[Act.put,Act.eval,Array.getD_eq_getD_getElem?];rw[zAz (Ne.symm e)]
   rw[this];exact h.slot t u b⟩
section
variable {ρ:eS} {n:Nat} {σ:GF} {a:Act}
theorem cN (F:kW ρ n σ a) {x:Operand} {g:GV} (h:kI σ x=some g):Rl ρ g (a.eval x):=by
 cases x with
 |tmp t=>exact F.slot t g h
 |const v=>exact PZ h
 |global g=>cases h
 |func f=>cases h;exact Ph .nil .nil
theorem Ez (F:kW ρ n σ a):∀{b:List Operand} {gs:List GV},Ft σ b=some gs->qF ρ gs (b.map a.eval)
 | [],gs,h=>by cases h;exact .nil
 |x::b,gs,h=>by
  obtain⟨v,d,e⟩:=aF.1 (show ob (kI σ x) (λv=>ob (Ft σ b) λc=>some (v::c))=some gs from h);obtain⟨c,f,g⟩:=aF.1 e;cases g;exact .cons (cN F d) (Ez F f)
def RlP (ρ:eS) (b:List (Nat×GV)) (c:List (Nat×Value)):Prop:=b.map (·.1)=c.map (·.1)∧qF ρ (b.map (·.2)) (c.map (·.2))
theorem BW (F:kW ρ n σ a):∀{b:List (Nat×Operand)} {gs:List (Nat×GV)},uB σ b=some gs->RlP ρ gs (b.map λp=>(p.1,a.eval p.2))
 | [],gs,h=>by cases h;exact⟨rfl,.nil⟩
 |x::b,gs,h=>by
  obtain⟨v,f,g⟩:=aF.1 (show ob (kI σ x.2) (λv=>ob (uB σ b) λc=>some ((x.1,v)::c))=some gs from h);obtain⟨c,i,j⟩:=aF.1 g;cases j;obtain⟨d,e⟩:=BW F i;exact⟨by simp only[zBa,d],.cons (cN F f) e⟩
end
def Ch (P:Program) (ρ:eS) (s:Sem Value) (g:GV):Prop:=∃v,Rl ρ g v∧∀w,s.run P w = .ok v w
structure fP (P:Program) (tb:TB):Prop where
 tab:∀{T d},tb T=some d->rW P T d
 /-- structs of leaves may be compared -/
 eqs:∀{T fs},KL T=true->qW tb T=some fs->wU tb fs=true->P.stoodInHeld T=false∧∀f∈fs,f.name ≠ "_"
noncomputable def abT (P:Program) (b:TB):Bool:=(List.range 512).all λT=>bif KL T then(Option.casesOn (motive:=λ_=>Bool) (qW b T) true λa=>bif wU b a then(!P.stoodInHeld T&&a.all λf=> !(f.name == "_"))else true)else true
theorem aaE {P:Program} {c:TB} (h:abT P c=true) {T:Nat} {b:List Field} (a:KL T=true) (i:qW c T=some b) (j:wU c b=true):P.stoodInHeld T=false∧∀f∈b,f.name ≠ "_":=by
 have g:T<512:=by
  obtain⟨_,h⟩:=bW.1 (show(bif Nat.blt 31 T then(bif Nat.blt T 512 then some ()else none)else none)=some () by
   unfold KL at a;cases e:Nat.blt 31 T<;>rw[e]at a
   ·cases a
   ·rw[cond_true]at a;rw[a];rfl)
  obtain⟨h,_⟩:=bW.1 h;simpa [zAu]using h
 have:=zA5.1 h T (zAo.2 g);rw[a,cond_true,i]at this;have this:(bif wU c b then(!P.stoodInHeld T&&b.all λf=> !(f.name == "_"))else true)=true:=this;rw[j,cond_true,zA3]at this;exact⟨by simpa using this.1,λf d=>by simpa using zA5.1 this.2 f d⟩
section
variable {P:Program} {tb:TB} {ρ:eS} {V U W:Value} {v u t g:GV}
theorem QD {k:IntKind} {z:Int} {g:GV} (h:gw k z=some g):g = .int k (k.wrap z):=by
  unfold gw at h;rw[KP]at h;cases b:Zu k with
  | true =>
    rw[b]at h;obtain⟨c,d⟩:=bW.1 h;cases d;have e:k = .i64:=by cases k<;>first|rfl|cases b
    subst e;have : -9223372036854775808<=z∧z<=9223372036854775807:=by
      cases z with
      | ofNat a =>
          have : a < 9223372036854775808 := by simpa [Vu, zAu] using c
          simp only[Int.ofNat_eq_natCast];omega
      | negSucc a =>
          have : a < 9223372036854775808 := by simpa [Vu, zAu] using c
          omega
    rw[Lw this.1 this.2]
  | false =>
    rw[b]at h;simp only[cond_false,KP]at h;cases h;rfl
theorem XE {l:BinOp} {k:IntKind} {a b:Int} {T:TypeId} (i:IB l=false) (h:abN l k a b=some g):∃v,Rl ρ g v∧binOp l T (.int k a) (.int k b) = .pure v:=by
 have j:∀{p:Prop} [Decidable p] {c:Bool},c=decide p->fb c=some g->Rl ρ g (.bool (decide p)):=λe h=>by rw[Jt]at h;cases h;rw[e];exact .bool _
 have d:∀f,IB f=false->HA (binOp f 0 (.int k a) (.int k b))=some g->∃v,Rl ρ g v∧binOp f T (.int k a) (.int k b) = .pure v:=λf m h=>by
  obtain⟨v,n,o⟩:=RJ (ρ:=ρ) h;refine⟨v,n,?_⟩
  rw[<-o];cases f<;>first|rfl|cases m
 cases l with
 |add=>exact⟨_,by rw[QD h];exact .int _ _,by simp[binOp,Op.intArith];rfl⟩
 |sub=>exact⟨_,by rw[QD h];exact .int _ _,by simp[binOp,Op.intArith];rfl⟩
 |eql=>exact⟨.bool (decide (a=b)),j (Jr a b) h,by simp[binOp,Op.intCmp];rfl⟩
 |neq=>exact⟨.bool (decide (¬a=b)),j (by rw[Jr];simp) h,by simp[binOp,Op.intCmp];rfl⟩
 |lss=>exact⟨.bool (decide (a<b)),j (Hp a b) h,by simp[binOp,Op.intCmp];rfl⟩
 |leq=>exact⟨.bool (decide (a<=b)),j (by rw[Hp,<-decide_not];exact decide_eq_decide.2 (by omega)) h,by simp[binOp,Op.intCmp];rfl⟩
 |gtr=>exact⟨.bool (decide (b<a)),j (Hp b a) h,by simp[binOp,Op.intCmp];rfl⟩
 |geq=>exact⟨.bool (decide (b<=a)),j (by rw[Hp,<-decide_not];exact decide_eq_decide.2 (by omega)) h,by simp[binOp,Op.intCmp];rfl⟩
 |shl=>cases i
 |shr=>cases i
 |mul=>exact d .mul i h
 |quo=>exact d .quo i h
 |rem=>exact d .rem i h
 |and=>exact d .and i h
 |or=>exact d .or i h
 |xor=>exact d .xor i h
 |andNot=>exact d .andNot i h
end
theorem vX (b:UInt8) (l:List UInt8):lR (b::l)=b.toNat+256*lR l:=rfl
theorem FY:∀{x y:List UInt8},x.length=y.length->lR x=lR y->x=y
 | [],[],_,_=>rfl
 | [],_::_,h,_=>by simp at h
 |_::_,[],h,_=>by simp at h
 |a::x,b::y,h,e=>by
  rw[vX,vX]at e;have f:=a.toNat_lt;have g:=b.toNat_lt;have c:a.toNat=b.toNat:=by omega
  have d:lR x=lR y:=by omega
  rw[UInt8.toNat_inj.1 c,FY (by simpa using h) d]
theorem Hh:∀(x:List UInt8) (n:Nat),lR x / 256^n=lR (x.drop n)
 |x,0=>by simp
 | [],n+1=>by simp[lR]
 |b::x,n+1=>by
  rw[vX,List.drop_succ_cons,<-Hh x n,Nat.pow_succ,Nat.mul_comm (256^n) 256,<-Nat.div_div_eq_div_mul];have:=b.toNat_lt;congr 1;omega
theorem KJ:∀(x:List UInt8) (n:Nat),lR x%256^n=lR (x.take n)
 |x,0=>by simp[lR,Nat.mod_one]
 | [],n+1=>by simp[lR]
 |b::x,n+1=>by
  rw[vX,List.take_succ_cons,vX,<-KJ x n,Nat.pow_succ,Nat.mul_comm (256^n) 256,Nat.mod_mul];have d:=b.toNat_lt;have a:(b.toNat+256*lR x)%256=b.toNat:=by omega
  have c:(b.toNat+256*lR x) / 256=lR x:=by omega
  rw[a,c]
theorem acy (n l:Nat):Nat.shiftRight n (Nat.mul 8 l)=n / 256^l:=by
 show n >>> (8*l)=_;rw[Nat.shiftRight_eq_div_pow,Nat.pow_mul]
theorem acq (k:Nat):Nat.pow 2 (Nat.mul 8 k)=256^k:=by
 show 2^(8*k)=_;rw[Nat.pow_mul]
theorem UW (x:List UInt8) (l k:Nat):Nat.mod (Nat.shiftRight (lR x) (Nat.mul 8 l)) (Nat.pow 2 (Nat.mul 8 k))=lR ((x.drop l).take k):=by
 rw[acy,acq];show lR x / 256^l%256^k=_;rw[Hh,KJ]
theorem Q_ (x:List UInt8) (i:Nat) (h:i<x.length):Nat.mod (Nat.shiftRight (lR x) (Nat.mul 8 i)) 256=(x[i]).toNat:=by
 rw[acy];show lR x / 256^i%256=_;rw[Hh,List.drop_eq_getElem_cons h,vX];have:=(x[i]).toNat_lt;omega
theorem SI (s:ByteArray) (i:Nat):s[i]? = (bR s)[i]?:=by
 unfold bR;by_cases h:i<s.size
 ·rw[getElem?_pos s i h,zAi,Array.getElem?_eq_getElem (by simpa using h)];rfl
 ·rw[getElem?_neg s i h];rw[zAn (by have:=Lib.size_eq s;omega)]
section
variable {P:Program} {tb:TB} {ρ:eS} {V U W:Value} {v u t g:GV}
theorem abM (a b:ByteArray):(a==b)=(a.toList==b.toList):=by
 rw[Lib.toList_data,Lib.toList_data];obtain⟨⟨x⟩⟩:=a;obtain⟨⟨y⟩⟩:=b;have:((⟨⟨x⟩⟩:ByteArray)==⟨⟨y⟩⟩)=((⟨x⟩:Array UInt8)==⟨y⟩):=rfl;rw[this];simp
theorem aaD {a b:Nat×Nat} {s r:ByteArray} (f:a.1=lR (bR s)) (h:a.2=(bR s).length) (i:b.1=lR (bR r)) (j:b.2=(bR r).length):OM a b=(s.toList==r.toList):=by
 rw[Lib.toList_data,Lib.toList_data];unfold OM;rw[f,h,i,j];by_cases d:(bR s).length=(bR r).length
 ·have k:Nat.beq (bR r).length (bR r).length=true:=by simp
  rw[d,k,cond_true];by_cases c:lR (bR s)=lR (bR r)
  ·have:=FY d c;unfold bR at this;rw[c,this];simp
  ·rw[nQ c];symm;rw[beq_eq_false_iff_ne];intro e;exact c (by unfold bR;rw[e])
 ·rw[nQ d,cond_false];symm;rw[beq_eq_false_iff_ne];intro e;exact d (by unfold bR;rw[e])
theorem Tg (z:fP P tb) {T:TypeId} {t:Ty} (C:tb T=some t) {q:Bool} (e:Rl ρ v V) (d:Rl ρ u U) (h:PT t v u=some q) (m:Nat) (w:World):(Op.equalIn (m+1) T V U).run P w = .ok q w:=by
 have c:=(z.tab C).run_und w;unfold PT at h;cases j:v.asI with
 |some a=>
  rw[j]at h;obtain⟨b,f,h⟩:=aF.1 h;obtain⟨k,B,h⟩:=aF.1 h;obtain⟨l,h⟩:=bW.1 h;cases h;rw[nP j]at e;rw[nP f]at d;rw[e.int_inv,d.int_inv,<-Hj l];rw[FC B]at c;unfold Op.equalIn;rw[Jr];simp[c];rfl
 | none =>
  rw[j]at h;simp only at h;cases n:v.asStr with
  |some a=>
   rw[n]at h;obtain⟨b,f,h⟩:=aF.1 h;obtain⟨i,h⟩:=bW.1 h;cases h;rw[pI n]at e;rw[pI f]at d;obtain⟨s,rfl,o,p⟩:=e.str_inv;obtain⟨r,rfl,x,y⟩:=d.str_inv;rw[AT i]at c;rw[aaD o p x y,<-abM];unfold Op.equalIn;simp[c]
  |none=>
   rw[n]at h;obtain⟨a,A,h⟩:=aF.1 (show ob v.asB _=some q from h);obtain⟨b,f,h⟩:=aF.1 h;obtain⟨i,h⟩:=bW.1 h;cases h;rw[Bz A]at e;rw[Bz f]at d;rw[e.bool_inv,d.bool_inv];rw[Qt i]at c;unfold Op.equalIn;rw[Fo];simp[c]
theorem KV {t:Ty} (h:ES t=true):(∃k,t.desc = .int k)∨t.desc = .string∨t.desc = .bool:=by
 unfold ES at h;cases a:tdB t.desc with
 |true=>exact .inr (.inr (Qt a))
 | false =>
  rw[a]at h;cases c:Ic t.desc with
  |true=>exact .inr (.inl (AT c))
  |false=>
   rw[c]at h;cases b:Xg t.desc with
   |none=>rw[b]at h;cases h
   |some k=>exact .inl ⟨k,FC b⟩
theorem HX {f:Field} {a:List Field} (h:wU tb (f::a)=true):∃t,tb f.type=some t∧ES t=true∧wU tb a=true:=by
 have h:(Option.casesOn (motive:=λ_=>Bool) (tb f.type) false λt=>bif ES t then wU tb a else false)=true:=h;cases c:tb f.type with
 |none=>rw[c]at h;cases h
 |some t=>
  rw[c]at h;have h:(bif ES t then wU tb a else false)=true:=h;cases b:ES t with
  |false=>rw[b]at h;cases h
  |true=>rw[b]at h;exact⟨t,rfl,b,h⟩
theorem Oi (c:fP P tb) {T:TypeId} {t:Ty} (h:tb T=some t) (f:ES t=true) {cs:Array Value} {b:Nat} {x:Value} (i:cs[b]? = some x) (w:World):(part T cs b).run P w = .ok x w:=by
 have a:=(c.tab h).run_und w;have d:(isAgg T).run P w = .ok false w:=by
  unfold isAgg;rcases KV f with⟨k,e⟩|e|e<;>rw[e]at a<;>simp[a]
 unfold part;simp[d,i]
theorem Og (k:fP P tb) {cs n:List GV} {z s:List Value} (D:qF ρ cs z) (C:qF ρ n s) (m:Nat) (w:World):∀{c:List Field} {q:Bool},Yl tb cs n c=some q->wU tb c=true->(∀f∈c,f.name ≠ "_")->
  Sem.run P (forIn c ((none,()):Option Bool×Unit) λf __s=>if f.name = "_" then pure (ForInStep.yield (none,()))else do
   let __do_lift <-part f.type z.toArray f.offset;let __do_lift_1 <-part f.type s.toArray f.offset;let __do_lift <-Op.equalIn (m+1) f.type __do_lift __do_lift_1
   if __do_lift=false then pure (ForInStep.done (some false,()))else pure (ForInStep.yield (none,()))) w = .ok (if q then none else some false,()) w
 | [],q,h,_,_=>by
  have:q=true:=by have h:some true=some q:=h;cases h;rfl
  subst this;simp
 | f :: c, q, h, hl, hn => by
  obtain⟨t,l,h⟩:=aF.1 (show ob (tb f.type) _=some q from h);obtain⟨a,A,h⟩:=aF.1 h;obtain⟨b,B,h⟩:=aF.1 h;obtain⟨e,H,h⟩:=aF.1 h;obtain⟨M,j,d,o⟩:=HX hl;rw[l]at j;cases j;rw[uD]at A B;obtain⟨x,J,p⟩:=D.get A;obtain⟨y,K,r⟩:=C.get B;have E:=Oi k l d (cs:=z.toArray) (by simpa using J) w;have F:=Oi k l d (cs:=s.toArray) (by simpa using K) w;have G:=Tg k l p r H m w;have i:=hn f zAb;cases e with
  |false=>
   have:q=false:=by have h:some false=some q:=h;cases h;rfl
   subst this;simp[List.forIn_cons,i,E,F,G]
  |true=>
   have L:=Og k D C m w (show Yl tb cs n c=some q from h) o λf I=>hn f (zAj _ I);simp[List.forIn_cons,i,E,F,G,L]
theorem SU (f:fP P tb) {T:TypeId} {d:List Field} (r:KL T=true) (b:qW tb T=some d) (p:wU tb d=true) {n o:List GV} {l j:List Value} (B:qF ρ n l) (A:qF ρ o j) {q:Bool} (h:Yl tb n o d=some q) (w:World):
  (Op.equal T (.agg l.toArray) (.agg j.toArray)).run P w = .ok q w:=by
 obtain⟨y,x⟩:=f.eqs r b p;obtain⟨t,z,e⟩:=aF.1 (show ob (tb T) _=some d from b);obtain⟨a,s,e⟩:=aF.1 e;cases e;have c:=(f.tab z).run_und w;rw[ML s]at c;obtain⟨a⟩:=a;have i:∀m,(Op.equalIn (m+1+1) T (.agg l.toArray) (.agg j.toArray)).run P w = .ok q w:=λm=>by
  have k:=Og f B A m w h p x;unfold Op.equalIn;simp[c,y];simp only[]at k;rw[k];cases q<;>simp
 exact i 9998
theorem Hi (b:fP P tb):∀(m:Nat) {T:TypeId} {t:Ty},tb T=some t->ES t=true->P.eqGuardType (m+1) T=false:=λm T t d c=>by
 have a:=(b.tab d).und;unfold Program.eqGuardType;rcases KV c with⟨k,e⟩|e|e<;>rw[e]at a<;>simp[a]
theorem Jq (p:fP P tb) {T:TypeId} {d:List Field} (k:qW tb T=some d) (s:wU tb d=true):P.eqGuardType P.depth T=false:=by
 obtain⟨t,w,e⟩:=aF.1 (show ob (tb T) _=some d from k);obtain⟨a,r,e⟩:=aF.1 e;cases e;have c:=(p.tab w).und;rw[ML r]at c;have o:∀m,P.eqGuardType (m+2) T=false:=λm=>by
  unfold Program.eqGuardType;rw[c];simp only;rw[Array.any_eq_false'];intro f b;have:f∈a.toList:=by simpa using b
  have n:∀(l:List Field),wU tb l=true->∀f∈l,∃t,tb f.type=some t∧ES t=true:=by
   intro l
   induction l with
   |nil=>intro _ f b;cases b
   |cons x l y=>
    intro h f b;obtain⟨t,i,j,q⟩:=HX h;rcases zAm.1 b with rfl|b
    ·exact⟨t,i,j⟩
    ·exact y q f b
  obtain⟨z,i,j⟩:=n _ s f this;simp[Hi p m i j]
 unfold Program.depth;exact o _
theorem Ta (f:fP P tb) {e:BinOp} {T:TypeId} {d:List Field} (c:qW tb T=some d) (i:wU tb d=true) (x y:Operand) (a b:Array Value) (w:World):(eqGuard e T x y (.agg a) (.agg b)).run P w = .ok () w:=by
 have h:=Jq f c i;unfold eqGuard;cases e<;>simp[h]
theorem Fj {d:BinOp} {T:TypeId} {q:Bool} {V U:Value} {x y:Operand} (f:∀w,(eqGuard d T x y V U).run P w = .ok () w) (e:∀w,(Op.equal T V U).run P w = .ok q w) (i:binOp .eql T V U=(do pure (.bool (<-Op.equal T V U)))) (j:binOp .neq T V U=(do pure (.bool (!(<-Op.equal T V U))))) (h:XD d q true=some g):
  Ch P ρ (do eqGuard d T x y V U;binOp d T V U) g:=by
 cases d with
 |eql=>exact⟨.bool q,by have c:fb (Rb q true)=some g:=h;rw[Jt,Fo]at c;cases c;cases q<;>exact .bool _,λw=>by have a:=f w;have b:=e w;rw[i];simp[a,b]⟩
 |neq=>exact⟨.bool (!q),by have c:fb (!Rb q true)=some g:=h;rw[Jt,Fo]at c;cases c;cases q<;>exact .bool _,λw=>by have a:=f w;have b:=e w;rw[j];simp[a,b]⟩
 |_=>cases h
theorem WO (m:fP P tb) {f:BinOp} {T:TypeId} (x y:Operand) (c:Rl ρ v V) (j:Rl ρ u U) (h:WN tb f T v u=some g):Ch P ρ (do eqGuard f T x y V U;binOp f T V U) g:=by
 unfold WN at h;cases o:v.asA with
 |some K=>
  rw[o]at h;obtain⟨L,D,h⟩:=aF.1 (show ob u.asA _=some g from h);obtain⟨z,h⟩:=bW.1 h;obtain⟨M,d,h⟩:=aF.1 h;obtain⟨p,h⟩:=bW.1 h;obtain⟨q,F,h⟩:=aF.1 h;rw[Jc o]at c;rw[Jc D]at j;obtain⟨O,rfl,G,_⟩:=c.agg_inv;obtain⟨N,rfl,r,_⟩:=j.agg_inv;exact Fj (Ta m d p x y _ _) (SU m z d p G r F) Z Z h
 | none =>
  rw[o]at h;obtain⟨J,h⟩:=bW.1 (show(bif u.isSnil then _ else none)=some g from h);obtain⟨n,i,h⟩:=aF.1 h;obtain⟨t,I,h⟩:=aF.1 h;obtain⟨e,E,h⟩:=aF.1 h;rw[vZ J]at j;have B:=j.snil_inv;subst B;have b:=λw=>(m.tab I).run_und w;rw[FD E]at b;cases a:v.isSnil with
  | true =>
   rw[a]at h;rw[vZ a]at c;have C:=c.snil_inv;subst C;refine Fj (λw=> ?_) (q:=true) (λw=> ?_) Z Z h
   ·unfold eqGuard;cases f<;>simp
   ·have:(Op.equalIn (9999+1) T (.slice none 0 0) (.slice none 0 0)).run P w = .ok true w:=by
     unfold Op.equalIn;simp[b w]
    exact this
  | false =>
   rw[a]at h;unfold Yt at i;rw[a]at i;obtain⟨s,H,i⟩:=aF.1 (show ob v.asS _=some n from i);rw[BA H]at c;obtain⟨l,k,A,p,rfl,_,_⟩:=c.sl_inv;refine Fj (λw=> ?_) (q:=false) (λw=> ?_) Z Z h
   ·unfold eqGuard;cases f<;>simp
   ·have:(Op.equalIn (9999+1) T (.slice (some A) s.2.2.1 k) (.slice none 0 0)).run P w = .ok false w:=by
     unfold Op.equalIn;simp[b w]
    exact this
theorem HU:∀(x y:List UInt8),lR (x++y)=lR x+256^x.length*lR y
 | [],y=>by simp[lR]
 |b::x,y=>by
  rw[List.cons_append,vX,vX,HU x y,zAk,Nat.pow_succ];rw[Nat.mul_add,Nat.mul_comm (256^x.length) 256,Nat.mul_assoc];omega
theorem QW {a b:Nat×Nat} {s r:ByteArray} (f:a.1=lR (bR s)) (c:a.2=(bR s).length) (j:b.1=lR (bR r)) (k:b.2=(bR r).length) (h:aau a b=some g) (w:World):Rl ρ g (.string (s++r))∧(Op.stringOp .add s r).run P w = .ok (.string (s++r)) w:=by
 unfold aau at h;obtain⟨e,h⟩:=bW.1 h;rw[v_,v_]at h;cases h;have e:a.2+b.2<16777216:=by simpa [zAu]using e
 have d:bR (s++r)=bR s++bR r:=by
  unfold bR;obtain⟨⟨x⟩⟩:=s;obtain⟨⟨y⟩⟩:=r;simp
 constructor
 ·have l:Nat.add a.1 (Nat.mul (Nat.pow 2 (Nat.mul 8 a.2)) b.1)=lR (bR (s++r)):=by
   rw[d,HU,acq,f,c,j];rfl
  have m:Nat.add a.2 b.2=(bR (s++r)).length:=by rw[d,zAc,c,k];rfl
  rw[l,m];exact .str _
 ·have B:(s.size:Int)+(r.size:Int)<=9223372036854775807:=by
   have o:=Lib.size_eq s;have p:=Lib.size_eq r;have q:(bR s).length=s.data.size:=by unfold bR;simp
   have z:(bR r).length=r.data.size:=by unfold bR;simp
   have A:s.data.toList.length=s.data.size:=by simp
   have i:r.data.toList.length=r.data.size:=by simp
   omega
  have n:¬((((s.size+r.size:Nat)):Int)>IntKind.i64.max):=by
   show¬((((s.size+r.size:Nat)):Int)>9223372036854775807);omega
  unfold Op.stringOp;simp only[];rw[if_neg n];rfl
theorem Sa (S:fP P tb) {i:BinOp} {T:TypeId} (x y:Operand) (B:Rl ρ v V) (A:Rl ρ u U) (h:Ej tb i T v u=some g):Ch P ρ (do eqGuard i T x y V U;binOp i T V U) g:=by
 unfold Ej at h;cases hi:v.asI with
 | some a =>
  rw[hi]at h;obtain⟨b,C,h⟩:=aF.1 h;rw[nP hi]at B;rw[nP C]at A;rw[B.int_inv,A.int_inv];have hg:∀w,(eqGuard i T x y (.int a.1 a.2) (.int b.1 b.2)).run P w = .ok () w:=λw=>jL w;cases M:IB i with
  |true=>
   rw[M]at h;obtain⟨z,j,l⟩:=RJ (ρ:=ρ) h;have e:binOp i T (.int a.1 a.2) (.int b.1 b.2)=binOp i 0 (.int a.1 a.2) (.int b.1 b.2):=by cases i<;>first|rfl|cases M
   exact⟨z,j,λw=>by rw[e,l];simp[hg w]⟩
  |false=>
   rw[M]at h;simp only[cond_false]at h;obtain⟨K,h⟩:=bW.1 h;have K:=Hj K;obtain⟨z,j,l⟩:=XE (ρ:=ρ) (T:=T) M h;exact⟨z,j,λw=>by rw[<-K,l];have:=hg w;rw[<-K]at this;simp[this]⟩
 | none =>
  rw[hi]at h;simp only at h;cases q:v.asStr with
  | some a =>
   rw[q]at h;obtain⟨b,C,h⟩:=aF.1 h;rw[pI q]at B;rw[pI C]at A;obtain⟨s,rfl,D,E⟩:=B.str_inv;obtain⟨r,rfl,O,Q⟩:=A.str_inv;have o:OM a b=(s.toList==r.toList):=by
    rw[Lib.toList_data,Lib.toList_data];unfold OM;rw[D,E,O,Q];by_cases L:(bR s).length=(bR r).length
    ·have C:Nat.beq (bR r).length (bR r).length=true:=by simp
     rw[L,C,cond_true];by_cases J:lR (bR s)=lR (bR r)
     ·have:=FY L J;unfold bR at this;rw[J,this];simp
     ·rw[nQ J];symm;rw[beq_eq_false_iff_ne];intro hh;exact J (by unfold bR;rw[hh])
    ·rw[nQ L,cond_false];symm;rw[beq_eq_false_iff_ne];intro hh;exact L (by unfold bR;rw[hh])
   have d:∀w,(eqGuard i T x y (.string s) (.string r)).run P w = .ok () w:=λw=>by unfold eqGuard;cases i<;>simp
   have f:∀c:Bool,fb c=some g->Rl ρ g (.bool c):=λc hc=>by rw[Jt]at hc;cases hc;exact .bool _
   cases i with
   |eql=>exact⟨_,f _ h,λw=>by rw[o];have:=d w;simp[this,binOp,Op.stringOp]⟩
   |neq=>exact⟨_,f _ h,λw=>by rw[o];have:=d w;simp[this,binOp,Op.stringOp]⟩
   |add=>exact⟨_,(QW (P:=P) D E O Q h default).1,λw=>by have:=d w;have k:=(QW (ρ:=ρ) (P:=P) D E O Q h w).2;simp only[Sem.run_bind,this,Result.andThen_ok,binOp,k]⟩
   |_=>cases h
  | none =>
   rw[q]at h;simp only at h;cases X:v.asB with
   | none =>
    rw[X]at h;simp only at h;cases j:v.isInil with
    |false=>rw[j]at h;exact WO S x y B A h
    |true=>
    rw[j]at h;have n:=h;clear h;obtain⟨l,h⟩:=bW.1 (show(bif u.isInil then _ else none)=some g from n);clear n;obtain⟨t,ht,n⟩:=aF.1 h;clear h;obtain⟨F,p⟩:=bW.1 n;clear n;have D:v = .inil:=by cases v<;>first|rfl|cases j
    have E:u = .inil:=by cases u<;>first|rfl|cases l
    subst D;subst E;cases B;cases A;obtain⟨N,H,h0⟩:∃N,t.desc = .interface N∧N.size=0:=by
     cases hq:t.desc<;>rw[hq]at F<;>first|(exact⟨_,rfl,zA4 F⟩)|cases F
    have I:∀w:World,_:=λw=>(S.tab ht).run_und w;have R:N.isEmpty=true:=by simp[Array.isEmpty,h0]
    have Y:∀w,(Op.eqGuardIn Op.maxDepth T .nilIface .nilIface).run P w = .ok false w:=λw=>by
     have f:∀m:Nat,(Op.eqGuardIn (m+1) T .nilIface .nilIface).run P w = .ok false w:=by
      intro m;unfold Op.eqGuardIn;simp[I w,H,R]
     exact f 9999
    have G:∀w,(Op.equal T .nilIface .nilIface).run P w = .ok true w:=λw=>by
     have f:∀m:Nat,(Op.equalIn (m+1) T .nilIface .nilIface).run P w = .ok true w:=by
      intro m;unfold Op.equalIn;simp[I w,H]
     exact f 9999
    have d:∀w,(eqGuard i T x y .nilIface .nilIface).run P w = .ok () w:=λw=>by
     unfold eqGuard;cases i<;>simp[Y w]
     all_goals (split<;>simp)
    cases i with
    |eql=>cases p;exact⟨.bool true,.bool _,λw=>by have j:=d w;have l:=G w;simp[j,binOp,l]⟩
    |neq=>cases p;exact⟨.bool false,.bool _,λw=>by have j:=d w;have l:=G w;simp[j,binOp,l]⟩
    |_=>cases p
   | some a =>
    rw[X]at h;simp only at h;obtain⟨b,C,h⟩:=aF.1 h;obtain⟨t,ht,h⟩:=aF.1 h;obtain⟨F,h⟩:=bW.1 h;rw[Bz X]at B;rw[Bz C]at A;rw[B.bool_inv,A.bool_inv];have d:∀w,(eqGuard i T x y (.bool a) (.bool b)).run P w = .ok () w:=λw=>by unfold eqGuard;cases i<;>simp
    have o:∀w,(Op.equal T (.bool a) (.bool b)).run P w = .ok (a==b) w:=λw=>by
     have A:=(S.tab ht).run_und w;rw[Qt F]at A;have f:∀m:Nat,(Op.equalIn (m+1) T (.bool a) (.bool b)).run P w = .ok (a==b) w:=by
      intro m;unfold Op.equalIn;simp[A]
     exact f 9999
    cases i with
    |eql=>exact⟨.bool (a==b),by have n:fb (Rb a b)=some g:=h;rw[Jt,Fo]at n;cases n;exact .bool _,λw=>by have j:=d w;have l:=o w;simp[j,binOp,l]⟩
    |neq=>exact⟨.bool (!(a==b)),by have n:fb (!Rb a b)=some g:=h;rw[Jt,Fo]at n;cases n;exact .bool _,λw=>by have j:=d w;have l:=o w;simp[j,binOp,l]⟩
    |_=>cases h
theorem WV {d:UnOp} (b:Rl ρ v V) (h:vUn d v=some g):Ch P ρ (Op.unary d V) g:=by
 cases d with
 |neg=>
  obtain⟨a,c,h⟩:=aF.1 (show ob v.asI _=some g from h);rw[nP c]at b;rw[b.int_inv,QD h];exact⟨_,.int _ _,λw=>by simp[Op.unary,Op.intArith]⟩
 |not=>
  obtain⟨a,c,h⟩:=aF.1 (show ob v.asB _=some g from h);rw[Bz c]at b;rw[b.bool_inv];rw[Jt]at h;cases h;exact⟨_,.bool _,λw=>by simp[Op.unary]⟩
 |_=>cases h
theorem Ox (e:fP P tb) {S D:TypeId} (f:Rl ρ v V) (h:ZG tb S D v=some g):Ch P ρ (convert S D V) g:=by
 obtain⟨a,i,h⟩:=aF.1 (show ob v.asI _=some g from h);obtain⟨s,l,h⟩:=aF.1 h;obtain⟨n,b,h⟩:=aF.1 h;obtain⟨t,m,h⟩:=aF.1 h;obtain⟨k,j,h⟩:=aF.1 h;rw[KP]at h;cases h;rw[nP i]at f;rw[f.int_inv];refine⟨_,.int _ _,λw=> ?_⟩
 have c:=(e.tab l).run_und w;have d:=(e.tab m).run_und w;rw[FC b]at c;rw[FC j]at d;simp[convert,c,d,Conv.intToInt]
theorem NS (d:Rl ρ v V) (h:v.nilck=some g):g=v∧∀(o:Oper) (x:Operand) (a:Operand->Value),o.op = .nilCheck x->a x=V->∀w,(execOp a o).run P w = .ok (.value V) w:=by
 cases d with
 |ptr e m=>cases h;exact⟨rfl,λo x a b c w=>by simp[execOp,b,c]⟩
 |fn f i j k l=>cases h;exact⟨rfl,λo x a b c w=>by simp[execOp,b,c]⟩
 |_=>cases h
theorem HV (c:fP P tb) {T:TypeId} {b:List Field} (h:qW tb T=some b):∃d,rW P T d∧d.desc = .struct b.toArray:=by
 obtain⟨t,f,h⟩:=aF.1 (show ob (tb T) _=some b from h);obtain⟨a,e,h⟩:=aF.1 h;cases h;exact⟨t,c.tab f,by rw[ML e]⟩
theorem Lp (m:fP P tb) {T:TypeId} {f:Nat} (o:Rl ρ v V) (h:Qz tb T f v=some g):Ch P ρ (Instr.fieldAt T V f) g:=by
 obtain⟨p,y,h⟩:=aF.1 (show ob v.asP _=some g from h);obtain⟨A,a,h⟩:=aF.1 h;obtain⟨q,n,h⟩:=aF.1 h;obtain⟨z,i,h⟩:=aF.1 h;obtain⟨j,h⟩:=kR.1 h;rw[v_]at h;cases h;rw[Dv y]at o;obtain⟨l,x,rfl⟩:=o.ptr_inv;obtain⟨d,r,s⟩:=HV m a;rw[uD]at n;refine⟨_,.ptr _ x,λw=> ?_⟩
 have k:=r.run_und w;rw[s]at k;have c:z.size≠0:=λe=>by rw[e]at j;cases j
 have e:l.off+(p.2+q.offset)=l.off+p.2+q.offset:=by omega
 show(Instr.fieldAt T (.pointer (some ⟨l.b,l.off+p.2,none⟩)) f).run P w = .ok (.pointer (some ⟨l.b,l.off+(p.2+q.offset),none⟩)) w;rw[e];simp[Instr.fieldAt,k,n,Instr.sureAddr,fieldPlace,(m.tab i).run_size w,c,eM]
theorem PY (n:fP P tb) {T:TypeId} {t:Ty} {f:List GV} {e:List Value} {o:Nat} (d:rW P T t) (c:qF ρ f e) (j:∀v∈e,one v=true) (h:Bn t f o=some g):Ch P ρ (part T e.toArray o) g:=by
 unfold Bn at h;cases b:xZ t.desc with
 |true=>
  rw[b]at h;obtain⟨r,k,h⟩:=aF.1 h;cases h;obtain⟨p,rfl⟩:=MD k;refine⟨_,FJ (c.sub o t.size) (λv l=>j v (List.mem_of_mem_drop (List.mem_of_mem_take l))),λw=> ?_⟩
  have a:=d.run_agg w;have i:=d.run_size w;rw[b]at a;simp[part,a,i]
 |false=>
  rw[b]at h;rw[cond_false,uD]at h;obtain⟨x,m,c⟩:=c.get h;refine⟨x,c,λw=> ?_⟩
  have a:=d.run_agg w;rw[b]at a;simp[part,a,m]
theorem OA (b:fP P tb) {T:TypeId} {f:Nat} (k:Rl ρ v V) (h:WU tb T f v=some g):Ch P ρ (Instr.field T V f) g:=by
 obtain⟨s,m,h⟩:=aF.1 (show ob v.asA _=some g from h);obtain⟨y,c,h⟩:=aF.1 h;obtain⟨q,j,h⟩:=aF.1 h;obtain⟨z,e,h⟩:=aF.1 h;rw[Jc m]at k;obtain⟨A,rfl,p,l⟩:=k.agg_inv;obtain⟨d,n,o⟩:=HV b c;rw[uD]at j;obtain⟨x,r,a⟩:=PY (T:=q.type) b (b.tab e) p l h;refine⟨x,r,λw=> ?_⟩
 have i:=n.run_und w;rw[o]at i;have:=a w;simp[Instr.field,i,j,asAgg,this]
theorem yA (c:fP P tb) {T:TypeId} {e:TypeId×Ty} (h:Av tb T=some e):(∃d,rW P T d∧d.desc = .slice e.1)∧rW P e.1 e.2∧tb e.1=some e.2:=by
 obtain⟨t,i,h⟩:=aF.1 (show ob (tb T) _=some e from h);obtain⟨a,f,h⟩:=aF.1 h;obtain⟨j,b,h⟩:=aF.1 h;cases h;exact⟨⟨t,c.tab i,FD f⟩,c.tab b,b⟩
theorem Lq (q:fP P tb) {T:TypeId} (k:Rl ρ v V) (B:Rl ρ u U) (h:MQ tb T v u=some g):Ch P ρ (Instr.indexAt T V U) g:=by
 obtain⟨n,G,h⟩:=aF.1 (show ob u.asI _=some g from h);obtain⟨i,F,h⟩:=aF.1 h;rw[nP G]at B;rw[B.int_inv,Hb F];cases y:v.asP with
 |some p=>
  rw[y]at h;rw[Dv y]at k;obtain⟨l,x,rfl⟩:=k.ptr_inv;obtain⟨t,I,h⟩:=aF.1 (show ob (tb T) _=some g from h);obtain⟨e,E,h⟩:=aF.1 h;obtain⟨f,c,h⟩:=aF.1 h;obtain⟨a,h⟩:=bW.1 h;rw[v_]at h;cases h;refine⟨_,.ptr _ x,λw=> ?_⟩
  have j:=(q.tab I).run_und w;rw[Qs E]at j;have a:i<e.1:=by simpa [zAu]using a
  have o:l.off+(p.2+i*f.size)=l.off+p.2+i*f.size:=by omega
  show(Instr.indexAt T (.pointer (some ⟨l.b,l.off+p.2,none⟩)) (.int n.1 i)).run P w = .ok (.pointer (some ⟨l.b,l.off+(p.2+i*f.size),none⟩)) w;rw[o];simp[Instr.indexAt,asIntOf,j,Instr.sureAddr,a,(q.tab c).run_size w,eM]
 |none=>
  rw[y]at h;obtain⟨s,H,h⟩:=aF.1 (show ob v.asS _=some g from h);rw[BA H]at k;obtain⟨l,m,A,x,rfl,J,z⟩:=k.sl_inv;obtain⟨f,c,h⟩:=aF.1 (show ob (Av tb T) _=some g from h);obtain⟨a,h⟩:=bW.1 h;rw[v_]at h;cases h;obtain⟨⟨d,D,r⟩,C,_⟩:=yA q c;have a:i<s.2.2.1:=by simpa [zAu]using a
  rcases z with z|⟨rfl,_⟩
  ·omega
  refine⟨_,.ptr _ x,λw=> ?_⟩
  have j:=D.run_und w;rw[r]at j;have o:l.off+(s.2.1+i*f.2.size)=l.off+s.2.1+i*f.2.size:=by omega
  show(Instr.indexAt T (.slice (some ⟨l.b,l.off+s.2.1,none⟩) s.2.2.1 m) (.int n.1 i)).run P w = .ok (.pointer (some ⟨l.b,l.off+(s.2.1+i*f.2.size),none⟩)) w;rw[o];simp[Instr.indexAt,asIntOf,j,a,C.run_size w,eM]
theorem WM (k:fP P tb) {T:TypeId} (e:Rl ρ v V) (d:Rl ρ u U) (h:vAt tb T v u=some g):Ch P ρ (Instr.index T V U) g:=by
 obtain⟨s,p,h⟩:=aF.1 (show ob v.asStr _=some g from h);obtain⟨n,o,h⟩:=aF.1 h;obtain⟨i,m,h⟩:=aF.1 h;obtain⟨t,q,h⟩:=aF.1 h;obtain⟨l,h⟩:=bW.1 h;obtain⟨a,h⟩:=bW.1 h;rw[v_]at h;cases h;rw[nP o]at d;rw[d.int_inv,Hb m];rw[pI p]at e;obtain⟨r,rfl,f,j⟩:=e.str_inv;have a:i<(bR r).length:=by rw[<-j];simpa [zAu]using a
 rw[f,Q_ _ _ a];refine⟨_,.int _ _,λw=> ?_⟩
 have b:=(k.tab q).run_und w;rw[AT l]at b;have c:=SI r i;rw[zA2 a]at c;simp[Instr.index,asIntOf,b,c]
theorem Sc {i:Nat} (b:Rl ρ v V) (h:abn i v=some g):Ch P ρ (Instr.extract V i) g:=by
 obtain⟨f,c,h⟩:=aF.1 (show ob v.asT _=some g from h);rw[aac c]at b;obtain⟨e,rfl,a⟩:=b.tup_inv;rw[uD]at h;obtain⟨x,d,a⟩:=a.get h;exact⟨x,a,λw=>by simp[Instr.extract,d]⟩
theorem Se {t1 t2 ty:TypeId} (j:Rl ρ v V) (i:Rl ρ u U) (h:QB v u=some g):Ch P ρ (Builtin.max_ #[t1,t2] ty #[V,U]) g:=by
 obtain⟨a,k,h⟩:=aF.1 (show ob v.asI _=some g from h);obtain⟨b,l,h⟩:=aF.1 h;obtain⟨f,h⟩:=bW.1 h;have f:=Hj f;have d:=j;have c:=i
 rw[nP k]at d;rw[nP l]at c;rw[Hp]at h;by_cases e:a.2<b.2
 ·rw[zAd e]at h;cases h;refine⟨U,i,λw=> ?_⟩
  rw[d.int_inv,c.int_inv,<-f];simp[Builtin.max_,Builtin.max2];omega
 ·rw[zA6 e]at h;cases h;refine⟨V,j,λw=> ?_⟩
  rw[d.int_inv,c.int_inv,<-f];simp[Builtin.max_,Builtin.max2];omega
theorem Sf {t1 t2 ty:TypeId} (j:Rl ρ v V) (i:Rl ρ u U) (h:Zj v u=some g):Ch P ρ (Builtin.min_ #[t1,t2] ty #[V,U]) g:=by
 obtain⟨a,k,h⟩:=aF.1 (show ob v.asI _=some g from h);obtain⟨b,l,h⟩:=aF.1 h;obtain⟨f,h⟩:=bW.1 h;have f:=Hj f;have d:=j;have c:=i
 rw[nP k]at d;rw[nP l]at c;rw[Hp]at h;by_cases e:b.2<a.2
 ·rw[zAd e]at h;cases h;refine⟨U,i,λw=> ?_⟩
  rw[d.int_inv,c.int_inv,<-f];simp[Builtin.min_,Builtin.min2];omega
 ·rw[zA6 e]at h;cases h;refine⟨V,j,λw=> ?_⟩
  rw[d.int_inv,c.int_inv,<-f];simp[Builtin.min_,Builtin.min2];omega
theorem Sb (c:fP P tb) {T ty:TypeId} (b:Rl ρ v V) (h:acD tb T v=some g):Ch P ρ (Builtin.cap_ #[T] ty #[V]) g:=by
 obtain⟨t,i,h⟩:=aF.1 (show ob (tb T) _=some g from h);obtain⟨e,f,h⟩:=aF.1 h;obtain⟨j,h⟩:=bW.1 h;cases h;rw[vZ j]at b;have d:=b.snil_inv;subst d;have a:=λw=>(c.tab i).run_und w;rw[FD f]at a;exact⟨_,.int _ _,λw=>by simp[Builtin.cap_,a w,goInt]⟩
theorem Sd (d:fP P tb) {T ty:TypeId} (b:Rl ρ v V) (h:QA tb T v=some g):Ch P ρ (Builtin.len_ #[T] ty #[V]) g:=by
 obtain⟨t,e,h⟩:=aF.1 (show ob (tb T) _=some g from h);cases c:v.asStr with
 |some s=>
  rw[c]at h;obtain⟨o,h⟩:=bW.1 h;cases h;rw[pI c]at b;obtain⟨r,rfl,p,m⟩:=b.str_inv;refine⟨_,.int _ _,λw=> ?_⟩
  have i:=(d.tab e).run_und w;rw[AT o]at i;rw[m];have:r.size=(bR r).length:=Lib.size_eq r;simp[Builtin.len_,i,goInt,this]
 | none =>
  rw[c]at h;obtain⟨E,j,h⟩:=aF.1 (show ob (Xh t.desc) _=some g from h);obtain⟨n,a,h⟩:=aF.1 h;cases h;unfold Yt at a;cases f:v.isSnil with
  |true=>
   rw[f]at a;cases a;rw[vZ f]at b;rw[b.snil_inv];exact⟨_,.int _ _,λw=>Mz w (d.tab e) (FD j) _ _ _ _⟩
  |false=>
   rw[f]at a;obtain⟨s,c,a⟩:=aF.1 (show ob v.asS _=some n from a);cases a;rw[BA c]at b;obtain⟨l,k,A,y,rfl,x,q⟩:=b.sl_inv;exact⟨_,.int _ _,λw=>Mz w (d.tab e) (FD j) _ _ _ _⟩
end
theorem Rh (a:Nat):∀(c:cR) (k:Nat) (b:Array Value),a+k+c.length<=b.size->
  ((c.zipIdx k).foldl (λb p=>b.setIfInBounds (a+p.2) p.1) b).size=b.size∧
  ∀i,((c.zipIdx k).foldl (λb p=>b.setIfInBounds (a+p.2) p.1) b)[i]? = if a+k<=i∧i<a+k+c.length then c[i - (a+k)]? else b[i]?
 | [],k,b,_=>⟨rfl,λi=>by rw[if_neg (by simp)];rfl⟩
 | v :: c, k, b, h => by
  simp only[zAk]at h;simp only[List.zipIdx_cons,List.foldl_cons];obtain⟨f,g⟩:=Rh a c (k+1) (b.setIfInBounds (a+k) v) (by simp;omega);refine⟨by rw[f];simp,λi=> ?_⟩
  rw[g i];by_cases e:i=a+k
  ·subst e;rw[if_neg (by omega),if_pos (by simp),zB3 (by omega)];simp
  ·by_cases d:a+(k+1)<=i∧i<a+(k+1)+c.length
   ·rw[if_pos d,if_pos (by simp;omega)];have:i - (a+k)=(i - (a+(k+1)))+1:=by omega
    rw[this,List.getElem?_cons_succ]
   ·rw[if_neg d,if_neg (by simp;omega),zAz (Ne.symm e)]
section
variable {P:Program} {tb:TB} {ρ:eS} {V U W:Value} {v u t g:GV}
structure Sv (ρ:eS) (cs:List GV) (a:Array Value):Prop where
 r:qF ρ cs a.toList
 one:∀v∈a.toList,Go.Sx.one v=true
theorem Mg {a:Array Value} (h:∀v∈a.toList,one v=true) {i:Nat} {v:Value} (b:a[i]? = some v):one v=true:=h v (by
 rw[<-zAi]at b;exact zA0 b)
theorem KQ {f B l:List GV} {a:Array Value} {d A:Nat} {x:Value} (w:Sv ρ f a) (L:Rl ρ g x) (h:g.cells=some l) (J:l.length=A) (H:A≠0) (K:Ga l d f=some B):
  (x.cells.size=A∧d+x.cells.size<=a.size)∧Sv ρ B (x.cells.zipIdx.foldl (λf (c,j)=>f.setIfInBounds (d+j) c) a):=by
 obtain⟨q,e,o,I⟩:=L.cells h;obtain⟨E,N,O⟩:=IA K;have s:l≠[]:=by intro e;subst e;exact H J.symm
 have E:=E s;have D:l.length=q.length:=o.len;have z:f.length=a.size:=by have:=w.r.len;simpa using this
 rw[e];have n:d+0+q.length<=a.size:=by omega
 obtain⟨G,C⟩:=Rh d q 0 a n;have F:(q.toArray.zipIdx.foldl (λf (c,j)=>f.setIfInBounds (d+j) c) a)=((q.zipIdx 0).foldl (λf p=>f.setIfInBounds (d+p.2) p.1) a):=by
  simp
 refine⟨⟨by simp;omega,by simp;omega⟩,?_⟩
 rw[F];refine⟨⟨by simp[G,N,z],λi b c m h=> ?_⟩,λy M=> ?_⟩
 ·rw[O i]at m;rw[zAi,C i]at h;simp only[Nat.add_zero]at h;by_cases k:d<=i∧i<d+l.length
  ·rw[if_pos k]at m;rw[if_pos (by omega)]at h;exact o.at' _ _ _ m h
  ·rw[if_neg k]at m;rw[if_neg (by omega)]at h;exact w.r.at' i b c m (by rw[zAi];exact h)
 ·obtain⟨i,k⟩:=List.mem_iff_getElem?.1 M;rw[zAi,C i]at k;split at k
  ·exact I y (zA0 k)
  ·exact Mg w.one k
theorem EA {d:Nat}:∀{l:List (Nat×GV)} {b:List (Nat×Value)} {f c:List GV} {a:Array Value},RlP ρ l b->Sv ρ f a->Hl d l f=some c->
  ∃j,Instr.fill (λi=>some (i*d,d)) a b=some j∧Sv ρ c j
 | [],b,f,c,a,hp,hr,h=>by
  have:b=[]:=by have:=hp.1;simpa using this.symm
  subst this;cases h;exact⟨a,rfl,hr⟩
 | p :: l, b, f, c, a, hp, hr, h => by
  cases b with
  |nil=>have:=hp.1;simp at this
  |cons q b=>
   obtain⟨n,x⟩:=hp;simp only[zBa,List.cons.injEq]at n;obtain⟨y,H,r,A,B⟩:=x.of_cons;simp only[zBa,List.cons.injEq]at r;obtain⟨rfl,rfl⟩:=r;obtain⟨m,o,h⟩:=aF.1 (show ob p.2.cells (λm=>bif Nat.beq m.length d then(bif Nat.beq d 0 then none else ob (Ga m (Nat.mul p.1 d) f) (Hl d l))else none)=some c from h);obtain⟨D,h⟩:=bW.1 h;obtain⟨k,h⟩:=kR.1 h;obtain⟨F,C,h⟩:=aF.1 h;have k:d≠0:=λe=>by rw[e]at k;cases k
   obtain⟨⟨G,E⟩,w⟩:=KQ hr A o (zA4 D) k C;obtain⟨j,s,z⟩:=EA ⟨n.2,B⟩ w h;refine⟨j,?_,z⟩
   have e:Nat.mul p.1 d=q.1*d:=by rw[<-n.1];rfl
   rw[e]at E w s;show Instr.fill _ a ((q.1,q.2)::b)=_;unfold Instr.fill;simp only;rw[if_neg (by simp only[ne_eq,zB2,zA7,not_or,zB8];omega)];exact s
theorem KS {i:List (Nat×Nat)}:∀{l:List (Nat×GV)} {b:List (Nat×Value)} {d c:List GV} {a:Array Value},RlP ρ l b->Sv ρ d a->PK i l d=some c->
  ∃j,Instr.fill (i.toArray[·]?) a b=some j∧Sv ρ c j
 | [],b,d,c,a,hp,hr,h=>by
  have:b=[]:=by have:=hp.1;simpa using this.symm
  subst this;cases h;exact⟨a,rfl,hr⟩
 | p :: l, b, d, c, a, hp, hr, h => by
  cases b with
  |nil=>have:=hp.1;simp at this
  |cons q b=>
   obtain⟨n,w⟩:=hp;simp only[zBa,List.cons.injEq]at n;obtain⟨y,I,r,A,B⟩:=w.of_cons;simp only[zBa,List.cons.injEq]at r;obtain⟨rfl,rfl⟩:=r;obtain⟨s,f,h⟩:=aF.1 (show ob (GQ i p.1) (λq=>ob p.2.cells λm=>bif Nat.beq m.length q.2 then(bif Nat.beq q.2 0 then none else ob (Ga m q.1 d) (PK i l))else none)=some c from h);obtain⟨m,o,h⟩:=aF.1 h;obtain⟨D,h⟩:=bW.1 h;obtain⟨k,h⟩:=kR.1 h;obtain⟨F,C,h⟩:=aF.1 h;have k:s.2≠0:=λe=>by rw[e]at k;cases k
   obtain⟨⟨G,H⟩,E⟩:=KQ hr A o (zA4 D) k C;obtain⟨j,x,z⟩:=KS ⟨n.2,B⟩ E h;refine⟨j,?_,z⟩
   rw[uD,n.1]at f;show Instr.fill _ a ((q.1,q.2)::b)=_;unfold Instr.fill;have:i.toArray[q.1]? = some s:=by simpa using f
   simp only[this];rw[if_neg (by simp only[ne_eq,zB2,zA7,not_or,zB8];omega)];exact x
theorem wE (f:fP P tb) {T:TypeId} {a:List GV} (h:BN tb T=some a):∃d,tb T=some d∧rW P T d∧Sv ρ a d.zero.cells:=by
 obtain⟨d,b,h⟩:=aF.1 (show ob (tb T) _=some a from h);obtain⟨z,j,h⟩:=aF.1 h;obtain⟨k,e,i,c⟩:=(PZ (ρ:=ρ) j).cells h;exact⟨d,b,f.tab b,by rw[e];exact⟨i,c⟩⟩
theorem JO (c:fP P tb):∀{b:List Field} {a:List (Nat×Nat)},MC tb b=some a->b.mapM (λf=>(P.info? f.type).map λi=>(f.offset,i.size))=some a
 | [],a,h=>by cases h;rfl
 |f::b,a,h=>by
  obtain⟨t,k,h⟩:=aF.1 (show ob (tb f.type) (λt=>ob (MC tb b) λr=>some ((f.offset,t.size)::r))=some a from h);obtain⟨r,e,h⟩:=aF.1 h;cases h;obtain⟨i,d,j,_,_⟩:=(c.tab k).info;simp[List.mapM_cons,d,j,JO c e]
theorem Lo (B:fP P tb) {T:TypeId} {l:List (Nat×GV)} {a:List (Nat×Value)} (L:RlP ρ l a) (h:Qx tb T l=some g):Ch P ρ (Instr.build T a.toArray) g:=by
 obtain⟨t,M,h⟩:=aF.1 (show ob (tb T) _=some g from h);obtain⟨zc,R,h⟩:=aF.1 h;obtain⟨d,J,I,H⟩:=wE (ρ:=ρ) B R;rw[M]at J;cases J;obtain⟨i,K,X,_,c⟩:=I.info;have s:=I.und
 suffices hh:∃f,P.built T a=some f∧∃k,g = .agg k∧Sv ρ k f by
  obtain⟨f,O,k,rfl,n⟩:=hh;refine⟨.agg f,?_,λw=>run_build w T a.toArray f (by simpa using O)⟩
  have:=FJ n.r n.one;simpa using this
 cases q:tdF t.desc with
 | some fs =>
  rw[q]at h;obtain⟨S,m,h⟩:=aF.1 (show ob (NZ tb T) _=some g from h);obtain⟨x,b,h⟩:=aF.1 h;cases h;obtain⟨G,C,m⟩:=aF.1 (show ob (qW tb T) _=some S from m);have o:G=fs.toList:=by
   obtain⟨t',p,A⟩:=aF.1 (show ob (tb T) _=some G from C);rw[M]at p;cases p;obtain⟨N,j,A⟩:=aF.1 A;rw[q]at j;cases j;cases A;rfl
  subst o;obtain⟨f,y,z⟩:=KS L H b;refine⟨f,?_,x,rfl,z⟩
  rw[ML q]at s;unfold Program.built;simp only[K,s,c,JO B m];exact y
 |none=>
  rw[q]at h;obtain⟨e,Q,h⟩:=aF.1 (show ob (tdA t.desc) _=some g from h);obtain⟨te,F,h⟩:=aF.1 h;obtain⟨x,b,h⟩:=aF.1 h;cases h;obtain⟨f,y,z⟩:=EA L H b;refine⟨f,?_,x,rfl,z⟩
  rw[Qs Q]at s;obtain⟨Y,D,E,_,_⟩:=(B.tab F).info;unfold Program.built;simp only[K,s,c,D,E];exact y
end
def xT (f:eS) (w:World) (l:KA):GO->Prop
 | .cells cs=>∃(c:Array Value) (T:TypeId),w.heap[l.b]? = some (.cells c T (0,0))∧c.size=l.size∧l.off+cs.length<=l.size∧∀(i:Nat) g,cs[i]? = some g->∃v,c[l.off+i]? = some v∧Rl f g v∧one v=true
 | .mp es=>∃(d:Array MapEntry) (a:Nat),w.heap[l.b]? = some (.map d a)∧d.size=es.length∧∀(i:Nat) e,es[i]? = some e->∃m,d[i]? = some m∧Rl f e.1 m.key∧Rl f e.2 m.val
theorem xT.lt {c:eS} {w:World} {l:KA} {o:GO} (h:xT c w l o):l.b<w.heap.size:=by
 cases o with
 |cells d=>obtain⟨a,T,h,_⟩:=h;exact(zAh.1 h).1
 |mp e=>obtain⟨a,T,h,_⟩:=h;exact(zAh.1 h).1
theorem xT.move {r d:eS} {w w':World} {l:KA} {o:GO} (h:xT r w l o) (q:r.le d) (e:w'.heap[l.b]? = w.heap[l.b]?):xT d w' l o:=by
 cases o with
 |cells x=>obtain⟨f,T,j,k,n,u⟩:=h;exact⟨f,T,by rw[e];exact j,k,n,λi g p=>let ⟨v,a,b,c⟩:=u i g p;⟨v,a,b.le q,c⟩⟩
 |mp y=>obtain⟨t,s,j,k,n⟩:=h;exact⟨t,s,by rw[e];exact j,k,λi g p=>let ⟨m,a,b,c⟩:=n i g p;⟨m,a,b.le q,c.le q⟩⟩
structure zC where
 obs:List (Nat×Obj)
 env:List Value
def IP (a:zC) (w:World) (O:Nat->Prop):Prop:=∀p∈a.obs,w.heap[p.1]? = some p.2∧¬O p.1
structure fQ (gs:zC) where
 w:World
 O:Nat->Prop
 ok:IP gs w O
def fQ.mine {a:zC} (b:fQ a) (k:Nat):Prop:=b.w.heap.size<=k∨b.O k
structure gF {gs:zC} (w0:fQ gs) (ρ:eS) (H:GH) (w:World):Prop where
 ext:BO w0.O w0.w w
 live:∀h o,H.get h=some o->∃l,ρ h=some l∧w0.mine l.b∧xT ρ w l o
 inj:∀h h' o o' l l',H.get h=some o->H.get h'=some o'->ρ h=some l->ρ h'=some l'->l.b=l'.b->h=h'
 fresh:∀h,H.n<=h->ρ h=none
 dense:∀h,h<H.n->∃l,ρ h=some l
 /-- the block holds what was written last -/
 vers:∀h v l,H.ver h=some v->ρ h=some l->∃lv,ρ v=some lv∧w.heap[l.b]? = some lv.x∧H.get h=some lv.o
 /-- the first handles stand for the open values -/
 env:∀i v,gs.env[i]? = some v->∃l,ρ i=some l∧l.x = .cells #[v] 0 (0,0)
theorem gF.lt {c:zC} {e:fQ c} {w:World} {f:eS} {H:GH} (R:gF e f H w) {h:Nat} {o:GO} (d:H.get h=some o):h<H.n:=by
 rcases zAs h H.n with a|a
 ·exact a
 ·obtain⟨l,b,_⟩:=R.live h o d;rw[R.fresh h a]at b;cases b
def Lz (P:Program) {d:zC} (e:fQ d) (ρ:eS) (s:Sem Value) (w:World) (g:GV) (c:GH):Prop:=∃v b a,s.run P w = .ok v b∧ρ.le a∧gF e a c b∧Rl a g v
def eS.upd (ρ:eS) (h:Nat) (l:KA):eS:=λk=>if k=h then some l else ρ k
theorem xY {b:eS} {h:Nat} {l:KA} (c:b h=none):b.le (b.upd h l):=λk x a=>by
 unfold eS.upd;by_cases e:k=h
 ·subst e;rw[c]at a;cases a
 ·rw[if_neg e];exact a
theorem gF.new {L:zC} {B:fQ L} {w w':World} {ρ:eS} {H:GH} (R:gF B ρ H w) {o:GO} {l:KA} (S:BO B.O B.w w') (C:∀h u k,H.get h=some u->ρ h=some k->w'.heap[k.b]? = w.heap[k.b]? ∧ k.b≠l.b) (M:B.mine l.b)
    (U:xT (ρ.upd H.n l) w' l o) (W:w'.heap[l.b]? = some l.x) (E:l.o=o:=by rfl):ρ.le (ρ.upd H.n l)∧gF B (ρ.upd H.n l) (H.new o) w':=by
  have m:ρ.le (ρ.upd H.n l):=xY (R.fresh _ (zAe _));have T:∀h u,H.get h=some u->h≠H.n:=λh u g=>Nat.ne_of_lt (R.lt g);have d:∀h,h≠H.n->(ρ.upd H.n l) h=ρ h:=λh s=>by simp[eS.upd,s]
  have f:(ρ.upd H.n l) H.n=some l:=by simp[eS.upd]
  refine⟨m,S,?_,?_,?_,?_,?_,λi v e=>let ⟨l,a,b⟩:=R.env i v e;⟨l,m _ _ a,b⟩⟩
  · intro h u g;rw[qH]at g;by_cases e:h=H.n
    · subst e;rw[if_pos Z]at g;cases g;exact⟨l,f,M,U⟩
    · rw[if_neg e]at g;obtain⟨k,c,D,F⟩:=R.live h u g;exact⟨k,by rw[d h e];exact c,D,F.move m (C h u k g c).1⟩
  · intro h y J K G I g j A c r;rw[qH]at g j;by_cases e:h=H.n
    · by_cases q:y=H.n
      · rw[e,q]
      · rw[if_neg q]at j;rw[d y q]at c;subst e;rw[f]at A;cases A;exact absurd r.symm (C y K I j c).2
    · rw[if_neg e]at g;rw[d h e]at A;by_cases q:y=H.n
      · subst q;rw[f]at c;cases c;exact absurd r (C h J G g A).2
      · rw[if_neg q]at j;rw[d y q]at c;exact R.inj h y J K G I g j A c r
  · intro h s;have : h ≠ H.n := by
        have : H.n + 1 ≤ h := s;omega
    rw[d h this];exact R.fresh h (by
        have : H.n + 1 ≤ h := s;omega)
  · intro h s;have s:h<H.n+1:=s;by_cases e:h=H.n
    · subst e;exact⟨l,f⟩
    · rw[d h e];exact R.dense h (by omega)
  · intro h v k z c;rw[OT]at z;by_cases e:h=H.n
    · subst e;rw[if_pos Z]at z;cases z;rw[f]at c;cases c;exact⟨l,f,W,by rw[qH,if_pos Z,E]⟩
    · rw[if_neg e]at z;rw[d h e]at c;obtain⟨X,N,P,Q⟩:=R.vers h v k z c;obtain⟨p,V,_⟩:=aF.1 (show ob (H.t.get h) _=some v from z);exact⟨X,m _ _ N,by rw[(C h p.2 k (by unfold GH.get;rw[V];rfl) c).1];exact P,by rw[qH,if_neg e];exact Q⟩
theorem gF.set {T:zC} {K:fQ T} {w w':World} {m:eS} {H:GH} (R:gF K m H w) {h:Nat} {o q:GO} {l:KA} {X:Obj} (u:H.get h=some o) (A:m h=some l) (V:BO K.O K.w w') (S:∀k,k≠l.b->w'.heap[k]? = w.heap[k]?) (Y:xT m w' l q) (J:w'.heap[l.b]? = some X):
  m.le (m.upd H.n ⟨l.b,l.off,l.size,X,q⟩)∧gF K (m.upd H.n ⟨l.b,l.off,l.size,X,q⟩) (H.set h q) w':=by
 have f:m.le (m.upd H.n ⟨l.b,l.off,l.size,X,q⟩):=xY (R.fresh _ (zAe _));have c:∀k,k≠H.n->(m.upd H.n ⟨l.b,l.off,l.size,X,q⟩) k=m k:=λk g=>by simp[eS.upd,g]
 have j:(m.upd H.n ⟨l.b,l.off,l.size,X,q⟩) H.n=some ⟨l.b,l.off,l.size,X,q⟩:=by simp[eS.upd]
 have F:∀k x,(if k=h then some q else H.get k)=some x->∃y,H.get k=some y:=λk x J=>by
  by_cases e:k=h
  ·subst e;exact⟨o,u⟩
  ·rw[if_neg e]at J;exact⟨x,J⟩
 refine⟨f,V,?_,?_,?_,?_,?_,λi v e=>let ⟨l,a,b⟩:=R.env i v e;⟨l,f _ _ a,b⟩⟩
 ·intro k x g;rw[rY]at g;by_cases e:k=h
  ·subst e;rw[if_pos Z]at g;cases g;obtain⟨r,d,M,_⟩:=R.live k o u;rw[A]at d;cases d;exact⟨l,f _ _ A,M,Y.move f Z⟩
  ·rw[if_neg e]at g;obtain⟨r,d,M,P⟩:=R.live k x g;refine⟨r,f _ _ d,M,P.move f (S _ λL=>e (R.inj k h x o r l g u d A L))⟩
 ·intro k Q o1 o2 l1 l2 G I B C N;rw[rY]at G I;obtain⟨y1,D⟩:=F k o1 G;obtain⟨y2,E⟩:=F Q o2 I;rw[c k (Nat.ne_of_lt (R.lt D))]at B;rw[c Q (Nat.ne_of_lt (R.lt E))]at C;exact R.inj k Q y1 y2 l1 l2 D E B C N
 ·intro k g;have W:H.n+1<=k:=g;rw[c k (by omega)];exact R.fresh k (by omega)
 ·intro k g;have g:k<H.n+1:=g;by_cases e:k=H.n
  ·subst e;exact⟨_,j⟩
  ·rw[c k e];exact R.dense k (by omega)
 ·intro k v r s d;rw[OU]at s;by_cases e:k=h
  ·subst e;rw[if_pos Z]at s;cases s;rw[c k (Nat.ne_of_lt (R.lt u)),A]at d;cases d;exact⟨_,j,J,by rw[rY,if_pos Z]⟩
  ·rw[if_neg e]at s;obtain⟨p,hp,_⟩:=aF.1 (show ob (H.t.get k) _=some v from s);have z:H.get k=some p.2:=by unfold GH.get;rw[hp];rfl
   rw[c k (Nat.ne_of_lt (R.lt z))]at d;obtain⟨lv,G,I,U⟩:=R.vers k v r s d;exact⟨lv,f _ _ G,by rw[S r.b λL=>e (R.inj k h p.2 o r l z u d A L)];exact I,by rw[rY,if_neg e];exact U⟩
theorem gF.del {i:zC} {g:fQ i} {w:World} {ρ:eS} {H:GH} (R:gF g ρ H w) (h:Nat):gF g ρ (H.del h) w:=by
 have b:∀k x,(H.del h).get k=some x->H.get k=some x:=λk x a=>by
  rw[Fe]at a;by_cases e:k=h
  ·rw[if_pos e]at a;cases a
  ·rw[if_neg e]at a;exact a
 exact⟨R.ext,λk x a=>R.live k x (b k x a),λk n r s o p d f=>R.inj k n r s o p (b _ _ d) (b _ _ f),R.fresh,R.dense,λk v l c m=>by
  rw[OS]at c;by_cases e:k=h
  ·rw[if_pos e]at c;cases c
  ·rw[if_neg e]at c;obtain⟨q,d,f,j⟩:=R.vers k v l c m;exact⟨q,d,f,by rw[Fe,if_neg e];exact j⟩,R.env⟩
theorem gF.ext' {g:zC} {f:fQ g} {w w':World} {ρ:eS} {H:GH} (R:gF f ρ H w) (e:LB w w'):gF f ρ H w':=
 ⟨R.ext.trans e,λh o k=>let ⟨l,a,b,c⟩:=R.live h o k;⟨l,a,b,c.move (eS.le_refl _) (e.block _ c.lt)⟩,R.inj,R.fresh,R.dense,λh v l n m=>by
  obtain⟨p,i,d,j⟩:=R.vers h v l n m;exact⟨p,i,(by rw[e.block _ (zAh.1 d).1];exact d),j⟩,R.env⟩
theorem gF.mono {g b:zC} {j:fQ g} {d:fQ b} {w w':World} {e a:eS} {H H':GH} (R:gF j e H w) (f:gF d a H' w') (c:e.le a):H.n<=H'.n:=by
 rcases zAs H'.n H.n with h|h
 ·obtain⟨l,i⟩:=R.dense _ h;have:=f.fresh _ (zAe _);rw[c _ _ i]at this;cases this
 ·exact h
def TL (a:eS) (H:GH) (k:Nat):Prop:=∃h o l,H.get h=some o∧a h=some l∧l.b=k
theorem gF.glo {f:zC} {d:fQ f} {w:World} {j:eS} {H:GH} (R:gF d j H w):IP f w (TL j H):=λp n=>by
 obtain⟨g,i⟩:=d.ok p n;have c:p.1<d.w.heap.size:=(zAh.1 g).1;refine⟨by rw[R.ext.block p.1 c i];exact g,fun⟨h,o,l,k,m,e⟩=> ?_⟩
 obtain⟨q,b,a,_⟩:=R.live h o k;rw[m]at b;cases b;rw[e]at a;rcases a with a|a
 ·omega
 ·exact i a
def gF.base {a:zC} {b:fQ a} {w:World} {ρ:eS} {H:GH} (R:gF b ρ H w):fQ a:=⟨w,TL ρ H,R.glo⟩
def fQ.of {a:zC} (w:World) (h:IP a w λ_=>False):fQ a:=⟨w,λ_=>False,h⟩
def YH:zC:=⟨[],[]⟩
def fQ.one (w:World):fQ YH:= .of w λ_ h=>absurd h zB1
theorem gF.rebase {e:zC} {f:fQ e} {w:World} {d:eS} {H:GH} (R:gF f d H w):gF R.base d H w:=
 ⟨BO.refl _,λh o b=>let ⟨l,a,_,c⟩:=R.live h o b;⟨l,a,.inr ⟨h,o,l,b,a,rfl⟩,c⟩,R.inj,R.fresh,R.dense,R.vers,R.env⟩
theorem gF.back {t:zC} {n:fQ t} {w m:World} {p d:eS} {H q:GH} (R:gF n p H w) (a:gF R.base d q m):gF n d q m∧∀k,k<w.heap.size->¬TL p H k->m.heap[k]? = w.heap[k]?:=by
 have s:∀k,TL p H k->n.mine k:=λk ⟨h,o,l,g,j,e⟩=>by
  obtain⟨v,c,b,_⟩:=R.live h o g;rw[j]at c;cases c;rw[<-e];exact b
 refine⟨⟨⟨a.ext.os.trans R.ext.os,a.ext.tape.trans R.ext.tape,a.ext.output.trans R.ext.output,zAx R.ext.size a.ext.size,λk f r=> ?_⟩,λh o g=> ?_,a.inj,a.fresh,a.dense,a.vers,a.env⟩,λk f i=>a.ext.block k f i⟩
 ·rw[a.ext.block k (zAv f R.ext.size) (λi=>by rcases s k i with h|h;exact absurd h (by omega);exact r h)];exact R.ext.block k f r
 ·obtain⟨l,j,b,u⟩:=a.live h o g;refine⟨l,j,?_,u⟩
  rcases b with b|b
  ·exact .inl (zAx R.ext.size b)
  ·exact s _ b
section
variable {P:Program} {tb:TB} {ρ:eS} {V U W:Value} {v u t g:GV} {gs:zC} {w0:fQ gs} {w:World} {H H':GH}
theorem gF.alloc (R:gF w0 ρ H w) {cs:List GV} {a:Array Value} (T:TypeId) (f:Sv ρ cs a):
  ∃b,ρ.le b∧b=ρ.upd H.n ⟨w.heap.size,0,a.size,.cells a T,.cells cs⟩∧gF w0 b (H.new (.cells cs)) (w.alloc (.cells a T)):=by
 have e:LB w (w.alloc (.cells a T)):=(Below.refl _ _).alloc (zAe _) _;have h:=R.new (o:= .cells cs) (l:=⟨w.heap.size,0,a.size,.cells a T,.cells cs⟩) (R.ext.trans e) (λh q s d p=>by
  obtain⟨l,c,_,m⟩:=R.live h q d;rw[p]at c;cases c;exact⟨e.block _ m.lt,Nat.ne_of_lt m.lt⟩) (.inl R.ext.size) (by
  refine⟨a,T,heap_alloc_new w _,rfl,by have:=f.r.len;simp at this;simp[this],λi g d=> ?_⟩
  obtain⟨x,k,j⟩:=f.r.get d;rw[zAi]at k;exact⟨x,by simpa using k,j.le (xY (R.fresh _ (zAe _))),Mg f.one k⟩) (heap_alloc_new w _)
 exact⟨_,h.1,rfl,h.2⟩
theorem Zg {T:TypeId} (R:gF w0 ρ H w) (k:Rl ρ v V) (h:Tw v H=some (g,H')):Lz P w0 ρ (Instr.box T V) w g H':=by
 obtain⟨c,i,h⟩:=aF.1 (show ob v.cells _=some (g,H')from h);rw[jC]at h;cases h;obtain⟨n,e,j,f⟩:=k.cells i;obtain⟨m,b,rfl,d⟩:=R.alloc T (cs:=c) (a:=V.cells) (by rw[e];exact⟨j,f⟩);refine⟨_,_,_,?_,b,d,.ptr (l:=⟨w.heap.size,0,V.cells.size,.cells V.cells T,.cells c⟩) 0 (by simp[eS.upd])⟩
 simp[Instr.box,newVar,newRow]
theorem HK (e:fP P tb) {T:TypeId} (R:gF w0 ρ H w) (h:AV tb T H=some (g,H')):Lz P w0 ρ (Instr.alloc T true (.tuple #[])) w g H':=by
 obtain⟨j,i,h⟩:=aF.1 (show ob (BN tb T) _=some (g,H')from h);rw[jC]at h;cases h;obtain⟨d,m,f,c⟩:=wE (ρ:=ρ) e i;obtain⟨k,a,rfl,b⟩:=R.alloc T c;exact⟨_,_,_,Hy w f,a,b,.ptr (l:=⟨w.heap.size,0,d.zero.cells.size,.cells d.zero.cells T,.cells j⟩) 0 (by simp[eS.upd])⟩
theorem gF.cells (R:gF w0 ρ H w) {h:Nat} {cs:List GV} (b:H.cells h=some cs) {l:KA} (c:ρ h=some l):xT ρ w l (.cells cs):=by
 obtain⟨e,a,_,d⟩:=R.live h _ (iQ.1 b);rw[c]at a;cases a;exact d
theorem Kb (hG:fP P tb) {T:TypeId} (R:gF w0 ρ H w) (X:Rl ρ v V) (h:AW tb T v H=some g):∃(x:Value) (p:Nat×Nat) (l:KA),v = .ptr p.1 p.2∧ρ p.1=some l∧(∃o,H.get p.1=some o)∧Rl ρ g x∧∀E,E.heap[l.b]? = w.heap[l.b]? -> (Instr.loadAt T V).run P E = .ok x E:=by
 obtain⟨p,S,h⟩:=aF.1 (show ob v.asP _=some g from h);obtain⟨G,z,h⟩:=aF.1 h;obtain⟨t,ht,h⟩:=aF.1 h;have C:=Dv S;have A:=iQ.1 z;rw[Dv S]at X;obtain⟨l,K,rfl⟩:=X.ptr_inv;obtain⟨I,T',N,aa,Q,c⟩:=R.cells z K;have M:=hG.tab ht;unfold Bn at h;cases F:xZ t.desc with
 | true =>
  rw[F]at h;obtain⟨r,hs,h⟩:=aF.1 h;cases h;obtain⟨O,rfl⟩:=MD hs;let n:=((I.toList.drop (l.off+p.2)).take t.size)
  have m:n.length=t.size:=by simp[n];omega
  have D:qF ρ ((G.drop p.2).take t.size) n:=⟨by rw[m];simp;omega,λi a b d e=>by
   simp only[n]at e;rw[zAp]at d e;by_cases k:i<t.size
   ·rw[if_pos k,zAq]at d e;obtain⟨x,s,J,_⟩:=c _ _ d;rw[zAi,show l.off+p.2+i=l.off+(p.2+i) by omega,s]at e;cases e;exact J
   ·rw[if_neg k]at d;cases d⟩
  have B:∀x∈n,one x=true:=λx q=>by
   obtain⟨i,k⟩:=List.mem_iff_getElem?.1 q;have L:=bH k;have d:((G.drop p.2).take t.size)[i]? = some (G[p.2+i]'(by omega)):=by
    rw[zAp,if_pos (by omega),zAq,zA2 (by omega)]
   simp only[n]at k;rw[zAp,if_pos (by omega),zAq,zAi,show l.off+p.2+i=l.off+(p.2+i) by omega]at k;obtain⟨y,s,_,Y⟩:=c (p.2+i) _ (zA2 (by omega));rw[s]at k;cases k;exact Y
  refine⟨_,p,l,C,K,⟨_,A⟩,FJ D B,λE f=> ?_⟩
  rw[N]at f;refine y_ M F m (λj x q=> ?_);rw[eM];have L:=bH q;simp only[n]at q;rw[zAp,if_pos (by omega),zAq,zAi]at q;simp[World.cell?,f,q]
 |false=>
  rw[F]at h;rw[cond_false,uD]at h;obtain⟨x,s,J,_⟩:=c _ _ h;exact⟨x,p,l,C,K,⟨_,A⟩,J,λE f=>Al M F (by rw[N]at f;simp[World.cell?,f,s])⟩
theorem HL (hG:fP P tb) {T:TypeId} (R:gF w0 ρ H w) (X:Rl ρ v V) (hu:Rl ρ u U) (h:BM tb T v u H=some (g,H')):g = .un∧∃w' B,(Instr.storeAt T V U).run P w = .ok () w'∧ρ.le B∧gF w0 B H' w':=by
 obtain⟨p,hp,h⟩:=aF.1 (show ob v.asP _=some (g,H')from h);obtain⟨cs,n,h⟩:=aF.1 h;obtain⟨t,ht,h⟩:=aF.1 h;obtain⟨E,N,h⟩:=aF.1 h;obtain⟨K,h⟩:=bW.1 h;obtain⟨O,h⟩:=kR.1 h;obtain⟨c1,r,h⟩:=aF.1 h;rw[xX]at h;cases h;refine⟨rfl,?_⟩
 rw[Dv hp]at X;obtain⟨l,J,rfl⟩:=X.ptr_inv;obtain⟨c,C,F,ac,S,m⟩:=R.cells n J;obtain⟨f,eU,z,j⟩:=hu.cells N;have hT:=hG.tab ht;have d:E.length=t.size:=zA4 K;have ad:E.length=f.length:=z.len;have L:E≠[]:=by intro e;rw[e]at d;simp at d;rw[<-d]at O;cases O
 obtain⟨Y,p2,p3⟩:=IA r;have Y:=Y L;have s:=run_storeCells_at P l.b (l.off+p.2) C f 0 c w F (by omega) (λx o=>oL (j x o));simp only[Nat.add_zero]at s;refine⟨w.setRow l.b (c.toList.take (l.off+p.2)++f++c.toList.drop (l.off+p.2+f.length)).toArray,_,?_,R.set (iQ.1 n) J ?_ (λk I=>setRow_other w l.b k _ I) ?_ (setRow_heap w l.b _ _ C _ F)⟩
 ·have hs:=hT.run_size w;simp only[Instr.storeAt,Instr.sureAddr,storeVar,eU];have e:f.toArray.size=t.size:=by simp;omega
  simp[hs,e,s]
 ·obtain⟨l',q,a,_⟩:=R.live _ _ (iQ.1 n);rw[J]at q;cases q;exact⟨R.ext.os,R.ext.tape,R.ext.output,by simpa using R.ext.size,λk I Q=>by
   rw[setRow_other w l.b k _ (λe=>by subst e;rcases a with a|a;exact absurd a (by omega);exact Q a)];exact R.ext.block k I Q⟩
 ·refine⟨_,C,setRow_heap w l.b _ _ C _ F,?_,by omega,λi x o=> ?_⟩
  ·simp;omega
  ·rw[p3 i]at o;have aa:c.toList.length=c.size:=by simp
   have A:(c.toList.take (l.off+p.2)++f++c.toList.drop (l.off+p.2+f.length)).toArray[l.off+i]? = if p.2<=i∧i<p.2+f.length then f[i - p.2]? else c[l.off+i]?:=by
    rw[List.getElem?_toArray,zAy];by_cases G:i<p.2
    ·rw[if_neg (by omega),zAa (by simp;omega),zAp,if_pos (by omega),zAi]
    ·rw[zA9 (by simp;omega),List.length_take];have e1:min (l.off+p.2) c.toList.length=l.off+p.2:=by omega
     rw[e1];by_cases ab:i<p.2+f.length
     ·rw[if_pos (by omega),zAa (by omega)];congr 1;omega
     ·rw[if_neg (by omega),zA9 (by omega),zAq,zAi];congr 1;omega
   by_cases G:p.2<=i∧i<p.2+E.length
   ·rw[if_pos G]at o;obtain⟨y,D,M⟩:=z.get o;exact⟨y,by rw[A,if_pos (by omega)];exact D,M,j y (zA0 D)⟩
   ·rw[if_neg G]at o;obtain⟨y,D,M⟩:=m i x o;exact⟨y,by rw[A,if_neg (by omega)];exact D,M⟩
end
section
variable {P:Program} {tb:TB} {ρ:eS} {V U W:Value} {v u t g:GV} {gs:zC} {w0:fQ gs} {w:World} {H H':GH}
theorem Gj (z:List GV):∀n,(OO z n).length=n*z.length
 |0=>by show([]:List GV).length=_;simp
 |n+1=>by
  have:OO z (n+1)=z++OO z n:=rfl;rw[this,zAc,Gj z n,zAw];omega
theorem RG (z:List GV) (b:0<z.length):∀(n i:Nat),i<n*z.length->(OO z n)[i]? = z[i%z.length]?
 |0,i,h=>by simp at h
 |n+1,i,h=>by
  have:OO z (n+1)=z++OO z n:=rfl;rw[this];by_cases a:i<z.length
  ·rw[zAa a,Nat.mod_eq_of_lt a]
  ·rw[zA9 (by omega),RG z b n (i - z.length) (by have:(n+1)*z.length=n*z.length+z.length:=Nat.succ_mul n z.length;omega),<-Nat.mod_eq_sub_mod (by omega)]
theorem IF {c:List GV} {z:Array Value} (f:Sv ρ c z) (l:0<c.length) (n:Nat):Sv ρ (OO c n) ((Array.range (n*c.length)).map (z[· % z.size]!)):=by
 have o:c.length=z.size:=by have:=f.r.len;simpa using this
 have q:0<z.size:=by omega
 have d:∀i,i<n*c.length->z[i%z.size]? = some (z[i%z.size]!):=λi _=>by
  have p:i%z.size<z.size:=Nat.mod_lt _ q;rw[getElem!_pos z (i%z.size) p];simp
 refine⟨⟨by simp[Gj],λi a b h m=> ?_⟩,λx k=> ?_⟩
 ·have e:=bH h;rw[Gj]at e;rw[RG c l n i e]at h;have j:some (z[i%z.size]!)=some b:=by
   rw[<-m,zAi];simp[e]
  cases j;refine f.r.at' (i%c.length) a _ h ?_;rw[zAi,o];exact d i e
 ·simp only[Array.toList_map,zB7]at k;obtain⟨i,e,rfl⟩:=k;have e:i<n*c.length:=by simpa using e
  exact Mg f.one (d i e)
theorem Fu {c:Nat}:∀{l:List (Nat×GV)} {b a:List GV},Hl c l b=some a->a.length=b.length
 | [],b,a,h=>by cases h;rfl
 |p::l,b,a,h=>by
  obtain⟨d,e,h⟩:=aF.1 (show ob p.2.cells (λd=>bif Nat.beq d.length c then(bif Nat.beq c 0 then none else ob (Ga d (Nat.mul p.1 c) b) (Hl c l))else none)=some a from h);obtain⟨_,h⟩:=bW.1 h;obtain⟨_,h⟩:=kR.1 h;obtain⟨i,f,h⟩:=aF.1 h;rw[Fu h];exact(IA f).2.1
theorem Qy (hG:fP P tb) {T:TypeId} {n:Nat} {l:List (Nat×GV)} {parts:List (Nat×Value)} (R:gF w0 ρ H w) (hp:RlP ρ l parts) (h:vC tb T n l H=some (g,H')):Lz P w0 ρ (Instr.buildSlice T n parts.toArray) w g H':=by
 obtain⟨te,hte,h⟩:=aF.1 (show ob (Av tb T) _=some (g,H')from h);obtain⟨zc,hz,h⟩:=aF.1 h;obtain⟨hlen,h⟩:=bW.1 h;obtain⟨hbig,h⟩:=bW.1 h;obtain⟨h0,h⟩:=kR.1 h;obtain⟨cs,hfill,h⟩:=aF.1 h;rw[jC]at h;cases h;obtain⟨⟨d,hd,hde⟩,hE,htab⟩:=yA hG hte;obtain⟨dz,hdz,_,hC⟩:=wE (ρ:=ρ) hG hz;rw[htab]at hdz;cases hdz;have hlen:zc.length=te.2.size:=zA4 hlen;have h0:te.2.size≠0:=λe=>by rw[e]at h0;cases h0
 have hbig:n*te.2.size<16777216:=by simpa [zAu]using hbig
 have hrep:=IF hC (by omega) n;rw[hlen]at hrep;obtain⟨a',f1,f2⟩:=EA hp hrep hfill;obtain⟨ρ',hle,rfl,R'⟩:=R.alloc te.1 f2;have hsz:a'.size=n*te.2.size:=by
  have e1:=f2.r.len;have:cs.length=(OO zc n).length:=Fu hfill;rw[this,Gj,hlen]at e1;simp at e1;omega
 refine⟨_,_,_,?_,hle,R',.sl (l:=⟨w.heap.size,0,a'.size,.cells a' te.1,.cells cs⟩) (cap:=n) (A:=⟨w.heap.size,0,none⟩) (by simp[eS.upd]) (zAe _) (.inr ⟨rfl,by simp[hsz]⟩)⟩
 have hu:=hd.run_und w;rw[hde]at hu;by_cases hn:n*te.2.size=0
 ·have hz0:n=0:=by rcases Nat.mul_eq_zero.1 hn with h|h;exact h;exact absurd h h0
  subst hz0;have e0:(Array.range (0*te.2.size)).map (te.2.zero.cells[· % te.2.zero.cells.size]!)=(#[]:Array Value):=by simp
  rw[e0]at f1;have e1:(Array.range 0).map (λ_=>(default:Value)) = #[]:=by simp
  simp[Instr.buildSlice,hu,hE.run_size w,newRow];simp[e1,f1]
 ·simp[Instr.buildSlice,hu,hE.run_size w,hE.run_zero w,hn,f1,newRow,show¬(16777216<n*te.2.size) by omega]
theorem WR (D:fP P tb) {T:TypeId} (R:gF w0 ρ H w) (F:Rl ρ v V) (E:Rl ρ u U) (h:ZJ tb T v u H=some (g,H')):Lz P w0 ρ (Instr.makeSlice T V U) w g H':=by
 obtain⟨a,B,h⟩:=aF.1 (show ob (Av tb T) _=some (g,H')from h);obtain⟨I,hz,h⟩:=aF.1 h;obtain⟨k,Q,h⟩:=aF.1 h;obtain⟨c,N,h⟩:=aF.1 h;obtain⟨f,h⟩:=bW.1 h;obtain⟨n,S,h⟩:=aF.1 h;obtain⟨b,h⟩:=bW.1 h;obtain⟨m,h⟩:=bW.1 h;obtain⟨p,h⟩:=bW.1 h;obtain⟨r,h⟩:=kR.1 h;rw[Rc,jC]at h;cases h;obtain⟨⟨d,O,x⟩,L,q⟩:=yA D B;obtain⟨dz,o,_,K⟩:=wE (ρ:=ρ) D hz;rw[q]at o;cases o;have b:I.length=a.2.size:=zA4 b;have r:a.2.size≠0:=λe=>by rw[e]at r;cases r
 have m:n*a.2.bytes<16777216:=by simpa [zAu]using m
 have p:n<16777216:=by simpa [zAu]using p
 rw[nP Q]at F;rw[nP N]at E;rw[Jr]at f;have f:=zB6 f;rw[F.int_inv,E.int_inv,<-f,Hb S];have i:=IF K (by omega) n;rw[b]at i;obtain⟨aa,z,rfl,J⟩:=R.alloc a.1 i;obtain⟨G,y,Y,M,C⟩:=L.info;have j:=O.und;rw[x]at j;have s:(G.bytes:Int)*(n:Int)<=281474976710656:=by
  have e:(a.2.bytes:Int)*(n:Int)=((n*a.2.bytes:Nat):Int):=by rw[Nat.mul_comm];simp
  rw[M,e];omega
 have X:=run_make (P:=P) w T a.1 G a.2.zero j y C k.1 c.1 n n (by omega) (Int.le_refl _) s (by omega);refine⟨_,_,_,?_,z,J,.sl (l:=⟨w.heap.size,0,((Array.range (n*a.2.size)).map (a.2.zero.cells[· % a.2.zero.cells.size]!)).size,.cells ((Array.range (n*a.2.size)).map (a.2.zero.cells[· % a.2.zero.cells.size]!)) a.1,.cells (OO I n)⟩) (cap:=n) (A:=⟨w.heap.size,0,none⟩) (by simp[eS.upd]) (zAe _) (.inr ⟨rfl,by simp⟩)⟩
 rw[X];simp[madeCells,Y]
theorem ZF {o:Option GV} {O:Option Value} {d n:Nat} (e:(o=none∧O=none)∨∃g x,o=some g∧O=some x∧Rl ρ g x) (h:vB o d=some n):(o=none∧O=none∧n=d)∨∃k:IntKind,O=some (.int k n):=by
 rcases e with⟨rfl,rfl⟩|⟨g,x,rfl,rfl,b⟩
 ·cases h;exact .inl ⟨rfl,rfl,rfl⟩
 ·obtain⟨a,c,h⟩:=aF.1 (show ob g.asI _=some n from h);rw[nP c]at b;exact .inr ⟨a.1,by rw[b.int_inv,Hb h]⟩
def RlO (ρ:eS) (o:Option GV) (O:Option Value):Prop:=(o=none∧O=none)∨∃g x,o=some g∧O=some x∧Rl ρ g x
theorem CK {sl:Bool} {len cap l h:Nat} {j i:Option GV} {e d:Option Value} (c:RlO ρ j e) (b:RlO ρ i d) (k:vB j 0=some l) (m:vB i len=some h) (a:l<=h) (f:h<=cap) (w:World):
  (Instr.sliceBounds sl len cap e d none).run P w = .ok (l,h,cap) w:=by
 rcases ZF c k with⟨_,rfl,rfl⟩|⟨n,rfl⟩<;>rcases ZF b m with⟨_,rfl,rfl⟩|⟨o,rfl⟩
 ·simp[Instr.sliceBounds]
 ·simp[Instr.sliceBounds,Instr.sliceBound,asIntOf,f]
 ·simp[Instr.sliceBounds,Instr.sliceBound,asIntOf,a]
 ·simp[Instr.sliceBounds,Instr.sliceBound,asIntOf,a,f]
theorem Lr (G:fP P tb) {T:TypeId} {Y Q:Option GV} {LO HI:Option Value} (R:(∃(w0:fQ gs) (w:World),gF w0 ρ H w)∨∀t,tb T=some t->tdA t.desc=none) (z:Rl ρ v V) (x:RlO ρ Y LO) (o:RlO ρ Q HI) (h:AY tb T v Y Q H=some g):Ch P ρ (Instr.sliceAt T V LO HI none) g:=by
 obtain⟨l,J,h⟩:=aF.1 (show ob (vB Y 0) _=some g from h);obtain⟨t,ht,h⟩:=aF.1 h;have I:=G.tab ht;cases S:v.asStr with
 | some s =>
  rw[S]at h;obtain⟨e,D,h⟩:=aF.1 (show ob (vB Q s.2) _=some g from h);obtain⟨hd,h⟩:=bW.1 h;obtain⟨d,h⟩:=bW.1 (show(bif Nat.ble l e then _ else none)=some g from h);obtain⟨a,h⟩:=bW.1 h;simp only[v_]at h;cases h;have d:l<=e:=by simpa using d
  have a:e<=s.2:=by simpa using a
  rw[pI S]at z;obtain⟨r,rfl,K,e2⟩:=z.str_inv;have j:r.size=s.2:=by rw[e2];exact Lib.size_eq r
  have hx:=Lib.extract_data r l e;refine⟨.string (r.extract l e),?_,λw=> ?_⟩
  ·have:Rl ρ (.str (lR (bR (r.extract l e))) (bR (r.extract l e)).length) (.string (r.extract l e)):= .str _;have e3:bR (r.extract l e)=((bR r).drop l).take (e - l):=hx;rw[e3]at this;rw[K,UW];have e4:(((bR r).drop l).take (e - l)).length=Nat.sub e l:=by
    simp only[List.length_take,List.length_drop,<-e2];show _=e - l;omega
   rw[e4]at this;exact this
  ·have m:=I.run_und w;rw[AT hd]at m;have n:=CK (P:=P) (sl:=false) (cap:=s.2) x o J D d a w;simp[Instr.sliceAt,m,Instr.slice,j,n]
 | none =>
  rw[S]at h;cases M:v.asS with
  | some s =>
   simp only[M]at h;obtain⟨E,B,h⟩:=aF.1 (show ob (Xh t.desc) _=some g from h);obtain⟨f,k,h⟩:=aF.1 h;obtain⟨e,D,h⟩:=aF.1 h;obtain⟨j,h⟩:=bW.1 (show(bif Nat.beq f.size s.2.2.2 then _ else none)=some g from h);obtain⟨d,h⟩:=bW.1 h;obtain⟨a,h⟩:=bW.1 h;simp only[v_]at h;cases h;have j:f.size=s.2.2.2:=zA4 j;have d:l<=e:=by simpa using d
   have a:e<=s.2.2.1:=by simpa using a
   rw[BA M]at z;obtain⟨i,c,A,q,rfl,hc,ha⟩:=z.sl_inv;refine⟨.slice (if c=l then some A else(some A).map (·.add (l*f.size))) (e - l) (c - l),?_,λw=> ?_⟩
   ·have K:(if c=l then some A else(some A).map (·.add (l*f.size)))=some (if c=l then A else A.add (l*f.size)):=by split<;>rfl
    rw[K];refine .sl q (show e - l<=c - l by omega) ?_;by_cases C:c - l=0
    ·exact .inl C
    ·right;rw[if_neg (by omega)];rcases ha with ha|⟨rfl,n⟩
     ·omega
     ·rw[eM];refine⟨by show _=(⟨i.b,i.off+(s.2.1+l*f.size),none⟩:Addr);rw[Nat.add_assoc],?_⟩
      have:c*s.2.2.2=l*f.size+(c - l)*f.size:=by rw[<-j,<-zAw];congr 1;omega
      show i.off+(s.2.1+l*f.size)+(c - l)*f.size<=i.size;omega
   ·have m:=I.run_und w;rw[FD B]at m;have n:=CK (P:=P) (sl:=true) (cap:=c) x o J D d (by omega) w;simp[Instr.sliceAt,m,Instr.slice,n,(G.tab k).run_size w]
  | none =>
   simp only[M]at h;cases X:v.isSnil with
   |true=>
    rw[X]at h;obtain⟨E,B,h⟩:=aF.1 (show ob (Xh t.desc) _=some g from h);obtain⟨f,k,h⟩:=aF.1 h;obtain⟨e,D,h⟩:=aF.1 h;obtain⟨F,h⟩:=bW.1 h;obtain⟨L,h⟩:=bW.1 h;cases h;have F:l=0:=zA4 F;have L:e=0:=zA4 L;subst F L;rw[vZ X]at z;rw[z.snil_inv];refine⟨_,.snil,λw=> ?_⟩
    have m:=I.run_und w;rw[FD B]at m;have n:=CK (P:=P) (sl:=true) (len:=0) (cap:=0) x o J D (zAe _) (zAe _) w;simp[Instr.sliceAt,m,Instr.slice,n,(G.tab k).run_size w]
   |false=>
   rw[X]at h;obtain⟨p,hp,h⟩:=aF.1 (show ob v.asP _=some g from h);obtain⟨E,B,h⟩:=aF.1 h;obtain⟨f,k,h⟩:=aF.1 h;obtain⟨e,D,h⟩:=aF.1 h;obtain⟨cs,N,h⟩:=aF.1 h;obtain⟨y,h⟩:=bW.1 h;obtain⟨d,h⟩:=bW.1 (show(bif Nat.ble l e then _ else none)=some g from h);obtain⟨a,h⟩:=bW.1 h;obtain⟨F,h⟩:=kR.1 h;simp only[v_]at h;cases h;have y:p.2+E.1*f.size<=cs.length:=by simpa using y
   have d:l<=e:=by simpa using d
   have a:e<=E.1:=by simpa using a
   rw[Dv hp]at z;obtain⟨i,q,rfl⟩:=z.ptr_inv;rcases R with⟨w0,w,R⟩|R
   rotate_left
   ·rw[R t ht]at B;cases B
   obtain⟨ab,T',n,aa,O,_⟩:=R.cells N q;refine⟨.slice (some (if E.1=l then⟨i.b,i.off+p.2,none⟩else Addr.add ⟨i.b,i.off+p.2,none⟩ (l*f.size))) (e - l) (E.1 - l),?_,λw=> ?_⟩
   ·refine .sl q (show e - l<=E.1 - l by omega) ?_;by_cases C:E.1 - l=0
    ·exact .inl C
    ·right;rw[if_neg (by omega),eM];refine⟨by show _=(⟨i.b,i.off+(p.2+l*f.size),none⟩:Addr);rw[Nat.add_assoc],?_⟩
     have:E.1*f.size=l*f.size+(E.1 - l)*f.size:=by rw[<-zAw];congr 1;omega
     show i.off+(p.2+l*f.size)+(E.1 - l)*f.size<=i.size;omega
   ·have m:=I.run_und w;rw[Qs B]at m;have n:=CK (P:=P) (sl:=false) (cap:=E.1) x o J D d a w;simp[Instr.sliceAt,m,Instr.sureAddr,n,(G.tab k).run_size w]
end
section
variable {P:Program} {tb:TB} {ρ:eS} {V U W:Value} {v u t g:GV} {gs:zC} {w0:fQ gs} {w:World} {H H':GH}
structure So (ρ:eS) (w:World) (sz n:Nat) (r:List GV) (V:Value) (ns:List Value):Prop where
 rel:qF ρ r ns
 len:ns.length=n*sz
 one:∀x∈ns,Go.Sx.one x=true
 val:∃base cap,V = .slice base n cap∧n<=cap∧((base=none∧n=0∧cap=0)∨∃A,base=some A∧∀(j:Nat) x,ns[j]? = some x->w.cell? (A.add j)=some x)
theorem Cr (R:gF w0 ρ H w) {m:Nat} {p:Nat×List GV} (F:Rl ρ v V) (h:sY H m v=some p):∃k,So ρ w m p.1 p.2 V k:=by
 unfold sY at h;cases K:v.isSnil with
 |true=>
  rw[K]at h;cases h;rw[vZ K]at F;exact⟨[],.nil,by simp,λx f=>by simp at f,none,0,F.snil_inv,zAe _,.inl ⟨rfl,rfl,rfl⟩⟩
 | false =>
  rw[K]at h;obtain⟨s,hs,h⟩:=aF.1 (show ob v.asS _=some p from h);obtain⟨D,h⟩:=bW.1 h;obtain⟨cs,I,h⟩:=aF.1 h;obtain⟨r,hr,h⟩:=aF.1 h;cases h;have D:s.2.2.2=m:=zA4 D;obtain⟨N,rfl⟩:=MD hr;have N:s.2.1+s.2.2.1*m<=cs.length:=N;rw[BA hs]at F;obtain⟨l,G,A,Y,rfl,S,M⟩:=F.sl_inv;obtain⟨o,T,X,J,O,e⟩:=R.cells I Y;let k:=(o.toList.drop (l.off+s.2.1)).take (s.2.2.1*m);have n:k.length=s.2.2.1*m:=by simp[k];omega
  have C:qF ρ ((cs.drop s.2.1).take (s.2.2.1*m)) k:=⟨by rw[n];simp;omega,λi a b c d=>by
   simp only[k]at d;rw[zAp]at c d;by_cases E:i<s.2.2.1*m
   ·rw[if_pos E,zAq]at c d;obtain⟨x,q,z,_⟩:=e _ _ c;rw[zAi,show l.off+s.2.1+i=l.off+(s.2.1+i) by omega,q]at d;cases d;exact z
   ·rw[if_neg E]at c;cases c⟩
  have B:∀(j:Nat) x,k[j]? = some x->j<s.2.2.1*m∧o[l.off+(s.2.1+j)]? = some x:=λj x f=>by
   have aa:=bH f;simp only[k]at f;rw[zAp,if_pos (by omega),zAq,zAi,show l.off+s.2.1+j=l.off+(s.2.1+j) by omega]at f;exact⟨by omega,f⟩
  refine⟨k,C,n,λx f=> ?_,_,G,rfl,S,.inr ⟨A,rfl,λj x f=> ?_⟩⟩
  ·obtain⟨i,E⟩:=List.mem_iff_getElem?.1 f;obtain⟨q,z⟩:=B i x E;obtain⟨y,L,_,Q⟩:=e (s.2.1+i) _ (zA2 (by omega));rw[z]at L;cases L;exact Q
  ·obtain⟨q,z⟩:=B j x f;rcases M with M|⟨rfl,_⟩
   ·have:s.2.2.1=0:=by omega
    rw[this]at q;simp at q
   ·rw[eM,show l.off+s.2.1+j=l.off+(s.2.1+j) by omega];simp[World.cell?,X,z]
theorem So.src {e n:Nat} {r:List GV} {b:List Value} (h:So ρ w e n r V b) {T E:TypeId} (d:P.underlying T=some (.slice E)):Src P e T V n b w:=by
 obtain⟨base,c,rfl,_,i⟩:=h.val;have a:∀x∈b,x.oneCell'=true:=λx j=>oL (h.one x j);rcases i with⟨rfl,rfl,rfl⟩|⟨A,rfl,f⟩
 ·have:b=[]:=zAl (by have:=h.len;simpa using this);subst this;exact Src.ofNil w d 0
 ·exact Src.ofSlice w d A n c b h.len f a
theorem So.old {b n:Nat} {r:List GV} {a:List Value} (h:So ρ w b n r V a):(Builtin.firstCells b n V).run P w.drew = .ok a.toArray w.drew:=by
 obtain⟨base,c,rfl,_,e⟩:=h.val;rcases e with⟨rfl,rfl,rfl⟩|⟨A,rfl,d⟩
 ·have:a=[]:=zAl (by have:=h.len;simpa using this);subst this;exact run_firstCells_none w.drew b 0 0 0
 ·exact run_firstCells_some w.drew b n A n c a h.len d
theorem gF.alloc' (R:gF w0 ρ H w) {cs:List GV} {a:Array Value} (T:TypeId) (f:cs.length<=a.size) (p:∀(i:Nat) g,cs[i]? = some g->∃x,a[i]? = some x∧Rl ρ g x∧one x=true):
  ∃b,ρ.le b∧b=ρ.upd H.n ⟨w.heap.size,0,a.size,.cells a T,.cells cs⟩∧gF w0 b (H.new (.cells cs)) (w.alloc (.cells a T)):=by
 have e:LB w (w.alloc (.cells a T)):=(Below.refl _ _).alloc (zAe _) _;have h:=R.new (o:= .cells cs) (l:=⟨w.heap.size,0,a.size,.cells a T,.cells cs⟩) (R.ext.trans e) (λh r s d f=>by
  obtain⟨l,c,_,k⟩:=R.live h r d;rw[f]at c;cases c;exact⟨e.block _ k.lt,Nat.ne_of_lt k.lt⟩) (.inl R.ext.size) (by
  refine⟨a,T,heap_alloc_new w _,rfl,by simpa using f,λi g d=> ?_⟩
  obtain⟨x,q,j,m⟩:=p i g d;exact⟨x,by simpa using q,j.le (xY (R.fresh _ (zAe _))),m⟩) (heap_alloc_new w _)
 exact⟨_,h.1,rfl,h.2⟩
theorem Pz {e:Nat} {p:Nat×List GV} {s:Nat×Nat×Nat×Nat} (h:sY H e v=some p) (f:v.asS=some s):s.2.2.2=e∧∃cs,H.cells s.1=some cs∧s.2.1+s.2.2.1*e<=cs.length∧p.1=s.2.2.1:=by
 unfold sY at h;have c:v.isSnil=false:=by rw[BA f];rfl
 rw[c]at h;obtain⟨j,a,h⟩:=aF.1 (show ob v.asS _=some p from h);rw[f]at a;cases a;obtain⟨d,h⟩:=bW.1 h;obtain⟨cs,b,h⟩:=aF.1 h;obtain⟨r,i,h⟩:=aF.1 h;cases h;exact⟨zA4 d,cs,b,(MD i).1,rfl⟩
theorem SB (R:gF w0 ρ H w) {D a k f m q:Nat} {l:KA} {cs s z:List GV} {ac d:List Value} (C:H.cells D=some cs) (hl:ρ D=some l) (F:So ρ w f k s (.slice (some ⟨l.b,l.off+a,none⟩) k q) ac)
  (r2:qF ρ z d) (l2:d.length=m*f) (o2:∀x∈d,one x=true) (E:k+m<=q) (N:l.off+a+q*f<=l.size):
  ∃c r,w.heap[l.b]? = some (.cells c r (0,0))∧l.off+a+q*f<=c.size∧ρ.le (ρ.upd H.n ⟨l.b,l.off+a,l.size,(.cells (c.toList.take (l.off+a+k*f)++d++c.toList.drop (l.off+a+k*f+d.length)).toArray r),.cells (s++z)⟩)∧
   gF w0 (ρ.upd H.n ⟨l.b,l.off+a,l.size,(.cells (c.toList.take (l.off+a+k*f)++d++c.toList.drop (l.off+a+k*f+d.length)).toArray r),.cells (s++z)⟩) ((H.del D).new (.cells (s++z))) (w.setRow l.b (c.toList.take (l.off+a+k*f)++d++c.toList.drop (l.off+a+k*f+d.length)).toArray):=by
 obtain⟨c,r,M,ab,ae,T⟩:=R.cells C hl;have af:k*f+m*f<=q*f:=by rw[<-zAw];exact zAt _ E
 have ag:c.toList.length=c.size:=by simp
 obtain⟨l0,I,p,_⟩:=R.live _ _ (iQ.1 C);rw[hl]at I;cases I;have l1:=F.len;have e1:s.length=k*f:=by rw[F.rel.len];exact l1
 have e2:z.length=m*f:=by rw[r2.len];exact l2
 have B:=(R.del D).new (o:= .cells (s++z)) (l:=⟨l.b,l.off+a,l.size,(.cells (c.toList.take (l.off+a+k*f)++d++c.toList.drop (l.off+a+k*f+d.length)).toArray r),.cells (s++z)⟩)
  (w':=w.setRow l.b (c.toList.take (l.off+a+k*f)++d++c.toList.drop (l.off+a+k*f+d.length)).toArray)
  ⟨R.ext.os,R.ext.tape,R.ext.output,by simpa using R.ext.size,λk hk hO=>by
   rw[setRow_other w l.b k _ (λe=>by subst e;rcases p with j|j;exact absurd j (by omega);exact hO j)];exact R.ext.block k hk hO⟩
  (λh o' l' G aa=>by
   rw[Fe]at G;by_cases e:h=D
   ·rw[if_pos e]at G;cases G
   ·rw[if_neg e]at G;have K:l'.b≠l.b:=λe'=>e (R.inj h D o' _ l' l G (iQ.1 C) aa hl e');exact⟨setRow_other w l.b l'.b _ K,K⟩) p (by
   refine⟨_,r,setRow_heap w l.b _ _ r _ M,?_,?_,λi x hx=> ?_⟩
   ·simp;omega
   ·show l.off+a+(s++z).length<=l.size;rw[zAc,e1,e2];omega
   ·have J:ρ.le (ρ.upd (H.del D).n ⟨l.b,l.off+a,l.size,(.cells (c.toList.take (l.off+a+k*f)++d++c.toList.drop (l.off+a+k*f+d.length)).toArray r),.cells (s++z)⟩):=xY (R.fresh _ (zAe _));have Y:=bH hx;rw[zAc,e1,e2]at Y;obtain⟨y,L,hr⟩:=(F.rel.append r2).get hx;refine⟨y,?_,hr.le J,?_⟩
    ·show(c.toList.take (l.off+a+k*f)++d++c.toList.drop (l.off+a+k*f+d.length)).toArray[l.off+a+i]? = some y;rw[List.getElem?_toArray,zAy];by_cases hi:i<k*f
     ·rw[zAa (by simp;omega),zAp,if_pos (by omega),zAi];rw[zAa (by omega)]at L;obtain⟨O,ad,S,_,X⟩:=F.val;cases S;rcases X with⟨h1,_⟩|⟨A,hA,Q⟩
      ·cases h1
      ·cases hA;have:=Q i y L;rw[eM]at this;simpa [World.cell?,M]using this
     ·rw[zA9 (by simp;omega),List.length_take,show min (l.off+a+k*f) c.toList.length=l.off+a+k*f by omega];rw[zA9 (by omega),l1]at L;rw[zAa (by omega)];rw[<-L];congr 1;omega
    ·rcases zB4.1 (zA0 L)with hm|hm
     ·exact F.one y hm
     ·exact o2 y hm) (setRow_heap w l.b _ _ r _ M)
 exact⟨c,r,M,by omega,B.1,B.2⟩
theorem WL (E:fP P tb) {T C ty:TypeId} (R:gF w0 ρ H w) (hv:Rl ρ v V) (hu:Rl ρ u U) (h:WK tb T C v u H=some (g,H')):Lz P w0 ρ (Builtin.append_ #[T,C] ty #[V,U]) w g H':=by
 unfold WK at h;obtain⟨O,h⟩:=bW.1 h;obtain⟨b,N,h⟩:=aF.1 h;obtain⟨t',M,h⟩:=aF.1 h;obtain⟨kn,J,h⟩:=aF.1 h;obtain⟨B,hz,h⟩:=aF.1 h;obtain⟨k,hk,h⟩:=aF.1 h;obtain⟨n,hn,h⟩:=aF.1 h;obtain⟨f,h⟩:=bW.1 h;obtain⟨m,h⟩:=bW.1 h;obtain⟨D,h⟩:=kR.1 h;obtain⟨p,h⟩:=kR.1 h;rw[Rc,jC]at h;cases h;obtain⟨⟨d,hd,F⟩,hE,z⟩:=yA E N;obtain⟨dz,q,_,hC⟩:=wE (ρ:=ρ) E hz;rw[z]at q;cases q;have f:B.length=b.2.size:=zA4 f;have D:b.2.size≠0:=λe=>by rw[e]at D;cases D
 have p:n≠0:=λe=>by rw[e]at p;cases p
 have m:n*(b.2.bytes+1)<16777216:=by simpa [zAu]using m
 have aa:n*b.2.bytes+n<16777216:=by rw[Nat.mul_add,Nat.mul_one]at m;exact m
 rw[vZ O]at hv;have hV:=hv.snil_inv;subst hV;rw[nP hk]at hu;rw[hu.int_inv,Hb hn];obtain⟨iE,I,hs,hb,Y⟩:=hE.info;have o:=hd.und;rw[F]at o;have j:=(E.tab M).und;rw[FC J]at j;have hr:=Lib.run_append_nil_zeros (P:=P) w T C ty b.1 iE b.2.zero k.1 kn o j I Y n (by omega) (by omega) (by omega) (by rw[hb];omega);have A:b.2.zero.cells.size=b.2.size:=by have:=hC.r.len;simp at this;omega
 have G:=grownCap_ge w n 0 b.1;have c:=IF hC (by omega) n;have s:=c.r.len;have hx:Builtin.zeroCells b.2.zero.cells n=(Array.range (n*B.length)).map (b.2.zero.cells[· % b.2.zero.cells.size]!):=by
  unfold Builtin.zeroCells;rw[A,f]
 rw[<-hx]at c s;obtain⟨ab,K,rfl,R'⟩:=R.alloc' (cs:=OO B n) (a:=Builtin.zeroCells b.2.zero.cells n++Builtin.zeroCells b.2.zero.cells (grownCap w n 0 b.1 - n)) b.1 (by
   simp only[Array.size_append];have:(OO B n).length=(Builtin.zeroCells b.2.zero.cells n).size:=by simpa using s
   omega) (λi x Q=>by
  obtain⟨y,S,L⟩:=c.r.get Q;have X:(Builtin.zeroCells b.2.zero.cells n)[i]? = some y:=by simpa using S
  exact⟨y,by rw[zB9 (by simpa using bH S)];exact X,L,c.one y (by simpa using zA0 S)⟩)
 refine⟨_,_,_,hr,K,R'.ext' ((Below.refl _ _).drew),?_⟩
 refine .sl (l:=⟨w.heap.size,0,(Builtin.zeroCells b.2.zero.cells n++Builtin.zeroCells b.2.zero.cells (grownCap w n 0 b.1 - n)).size,.cells (Builtin.zeroCells b.2.zero.cells n++Builtin.zeroCells b.2.zero.cells (grownCap w n 0 b.1 - n)) b.1,.cells (OO B n)⟩) (by simp[eS.upd]) G (.inr ⟨rfl,?_⟩);simp only[Array.size_append,size_zeroCells,A];have:grownCap w n 0 b.1*b.2.size=n*b.2.size+(grownCap w n 0 b.1 - n)*b.2.size:=by
  rw[<-zAw];congr 1;omega
 omega
theorem gF.put (R:gF w0 ρ H w) {D o:Nat} {cs z K:List GV} {l:KA} {d:List Value} (h:H.cells D=some cs) (G:ρ D=some l) (q:qF ρ z d) (n:∀x∈d,one x=true) (p:Ga z o cs=some K) (I:z≠[]):
  ∃a j,w.heap[l.b]? = some (.cells a j (0,0))∧l.off+o+d.length<=a.size∧∃A,ρ.le A∧gF w0 A (H.set D (.cells K)) (w.setRow l.b (a.toList.take (l.off+o)++d++a.toList.drop (l.off+o+d.length)).toArray):=by
 obtain⟨a,j,C,T,M,f⟩:=R.cells h G;have X:z.length=d.length:=q.len;obtain⟨N,p2,Y⟩:=IA p;have N:=N I;refine⟨a,j,C,by omega,_,R.set (iQ.1 h) G ?_ (λk F=>setRow_other w l.b k _ F) ?_ (setRow_heap w l.b _ _ j _ C)⟩
 ·obtain⟨l',m,c,_⟩:=R.live _ _ (iQ.1 h);rw[G]at m;cases m;exact⟨R.ext.os,R.ext.tape,R.ext.output,by simpa using R.ext.size,λk F L=>by
   rw[setRow_other w l.b k _ (λe=>by subst e;rcases c with c|c;exact absurd c (by omega);exact L c)];exact R.ext.block k F L⟩
 ·refine⟨_,j,setRow_heap w l.b _ _ j _ C,?_,by omega,λi x r=> ?_⟩
  ·simp;omega
  ·rw[Y i]at r;have Q:a.toList.length=a.size:=by simp
   have s:(a.toList.take (l.off+o)++d++a.toList.drop (l.off+o+d.length)).toArray[l.off+i]? = if o<=i∧i<o+d.length then d[i - o]? else a[l.off+i]?:=by
    rw[List.getElem?_toArray,zAy];by_cases E:i<o
    ·rw[if_neg (by omega),zAa (by simp;omega),zAp,if_pos (by omega),zAi]
    ·rw[zA9 (by simp;omega),List.length_take];have O:min (l.off+o) a.toList.length=l.off+o:=by omega
     rw[O];by_cases S:i<o+d.length
     ·rw[if_pos (by omega),zAa (by omega)];congr 1;omega
     ·rw[if_neg (by omega),zA9 (by omega),zAq,zAi];congr 1;omega
   by_cases E:o<=i∧i<o+z.length
   ·rw[if_pos E]at r;obtain⟨y,B,J⟩:=q.get r;exact⟨y,by rw[s,if_pos (by omega)];exact B,J,n y (zA0 B)⟩
   ·rw[if_neg E]at r;obtain⟨y,B,J⟩:=f i x r;exact⟨y,by rw[s,if_neg (by omega)];exact B,J⟩
theorem WP (hG:fP P tb) {T T' ty:TypeId} (R:gF w0 ρ H w) (hv:Rl ρ v V) (hu:Rl ρ u U) (h:ZH tb T v u H=some (g,H')):Lz P w0 ρ (Builtin.copy_ #[T,T'] ty #[V,U]) w g H':=by
 obtain⟨s,hs,h⟩:=aF.1 (show ob v.asS _=some (g,H')from h);obtain⟨r,hr,h⟩:=aF.1 h;obtain⟨f,Y,h⟩:=aF.1 h;obtain⟨D,h⟩:=bW.1 h;obtain⟨m,h⟩:=bW.1 h;obtain⟨c,h⟩:=bW.1 h;obtain⟨G,M,h⟩:=aF.1 h;obtain⟨xs,aa,h⟩:=aF.1 h;obtain⟨ds,N,h⟩:=aF.1 h;have D:s.2.2.2=f.2.size:=zA4 D;have m:r.2.2.2=f.2.size:=zA4 m;have c:r.2.2.1=s.2.2.1:=zA4 c;cases xs with
 |nil=>cases h
 | cons x0 xs0 =>
  obtain⟨c1,B,h⟩:=aF.1 (show ob (Ga (x0::xs0) s.2.1 ds) _=some (g,H')from h);rw[xX]at h;cases h;have k:sY H f.2.size u=some (r.2.2.1,x0::xs0):=by
   unfold sY;rw[BA hr];have K:Nat.beq f.2.size f.2.size=true:=by simp
   show ob (some r) (λs=>bif Nat.beq s.2.2.2 f.2.size then _ else none)=_;show(bif Nat.beq r.2.2.2 f.2.size then ob (H.cells r.1) (λG=>ob (slc G r.2.1 (Nat.mul r.2.2.1 f.2.size)) λq=>some (r.2.2.1,q))else none)=_;rw[m,K,cond_true,M];show ob (slc G r.2.1 (Nat.mul r.2.2.1 f.2.size)) _=_;rw[aa];rfl
  obtain⟨ns,n⟩:=Cr R hu k;obtain⟨⟨d,hd,p⟩,hE,ad⟩:=yA hG Y;rw[BA hs]at hv;obtain⟨l,ae,A,hl,rfl,hc,ha⟩:=hv.sl_inv;have X:x0::xs0≠[]:=by simp
  obtain⟨I,T2,K,y,ab,S,R'⟩:=R.put N hl n.rel n.one B X;have a:=n.len;have i:ns.length≠0:=by have:=n.rel.len;simp at this;omega
  have hA:A=⟨l.b,l.off+s.2.1,none⟩:=by
   rcases ha with ha|⟨e,_⟩
   ·exfalso;have:s.2.2.1=0:=by omega
    rw[c,this]at a;simp at a;exact i (by simp[a])
   ·exact e
  subst hA;have F:=hd.und;rw[p]at F;have E:=run_storeCells_at P l.b (l.off+s.2.1) T2 ns 0 I w K (by simpa using y) (λx hx=>oL (n.one x hx));simp only[Nat.add_zero]at E;obtain⟨ac,o,J,L,O⟩:=n.val;subst J;rcases O with⟨_,h0,_⟩|⟨A2,rfl,j⟩
  ·exfalso;rw[h0]at a;simp at a;exact i (by simp[a])
  have Q:=run_firstCells_some (P:=P) w f.2.size r.2.2.1 A2 r.2.2.1 o ns a j;have C:=hd.run_und w;rw[p]at C;refine⟨_,_,ab,?_,S,R',.int _ _⟩
  have z:Nat.min r.2.2.1 s.2.2.1=r.2.2.1:=by rw[c];exact Nat.min_self _
  simp[Builtin.copy_,C,Builtin.lenOf,hE.run_size w,z,Q,E,goInt]
theorem Zf (hG:fP P tb) {T T' ty:TypeId} (R:gF w0 ρ H w) (hv:Rl ρ v V) (hu:Rl ρ u U) (h:MP tb T T' v u H=some (g,H')):Lz P w0 ρ (Builtin.append_ #[T,T'] ty #[V,U]) w g H':=by
 unfold MP at h;cases F:Nat.beq T T' with
 |false=>rw[F]at h;exact WL hG R hv hu h
 |true=>
 rw[F]at h;have F:T=T':=zA4 F;subst F;rw[cond_true]at h;obtain⟨c,aq,h⟩:=aF.1 h;obtain⟨h0,h⟩:=kR.1 h;obtain⟨zc,hz,h⟩:=aF.1 h;obtain⟨ah,h⟩:=bW.1 h;obtain⟨p,hp,h⟩:=aF.1 h;obtain⟨q,hq,h⟩:=aF.1 h;obtain⟨⟨d,hd,I⟩,hE,ag⟩:=yA hG aq;obtain⟨dz,af,_,hC⟩:=wE (ρ:=ρ) hG hz;rw[ag]at af;cases af;have ah:zc.length=c.2.size:=zA4 ah;have au:c.2.zero.cells.size=c.2.size:=by have:=hC.r.len;simp at this;omega
 have h0:c.2.size≠0:=λe=>by rw[e]at h0;cases h0
 obtain⟨D,c1⟩:=Cr R hv hp;obtain⟨o,L⟩:=Cr R hu hq;have Q:=hd.und;rw[I]at Q;have G:=L.src (P:=P) (T:=T) Q;obtain⟨E,f,S,M,ak⟩:=c1.val;cases C:q.1 with
 |zero=>
  rw[C]at h;cases h;rw[C]at G;have ao:o=[]:=zAl (by have:=L.len;rw[C]at this;simpa using this);subst ao;refine⟨V,w,ρ,?_,eS.le_refl _,R,hv⟩
  have Y:=hd.run_und w;rw[I]at Y;have N:=G.len w;have ac:=G.cells;subst S;cases E with
  |none=>simp[Builtin.append_,Y,hE.run_size w,N,ac,M]
  |some A=>simp[Builtin.append_,Y,hE.run_size w,N,ac,M,storeCells]
 | succ m =>
  rw[C]at h;simp only[v_]at h;obtain⟨z,h⟩:=bW.1 h;rw[aaT,UT,jC]at h;cases h;have z:(p.1+q.1)*(c.2.bytes+1)<16777216:=by rw[C];simpa [zAu]using z
  have ax:(p.1+q.1)*c.2.bytes+(p.1+q.1)<16777216:=by rw[Nat.mul_add,Nat.mul_one]at z;exact z
  have O:Nat.add p.1 (m+1)=p.1+q.1:=by rw[C];rfl
  have j:qF ρ (p.2++q.2) (D++o):=c1.rel.append L.rel;have J:(p.2++q.2).length=(p.1+q.1)*c.2.size:=by
   rw[j.len,zAc,c1.len,L.len,<-zAw]
  have K:∀x∈D++o,one x=true:=λx hx=>by
   rcases zB4.1 hx with hx|hx
   ·exact c1.one x hx
   ·exact L.one x hx
  by_cases k:p.1+q.1<=f
  ·
   have ar:∃s,v.asS=some s:=by
    cases ai:v.isSnil with
    |true=>
     rw[vZ ai]at hv;have:=hv.snil_inv;rw[S]at this;injection this with _ _ e3;omega
    |false=>
     unfold sY at hp;rw[ai]at hp;obtain⟨s,hs,_⟩:=aF.1 (show ob v.asS _=some p from hp);exact⟨s,hs⟩
   obtain⟨s,hs⟩:=ar;obtain⟨ap,cs,al,ay,az⟩:=Pz hp hs;rw[BA hs]at hv;obtain⟨l,av,A,hl,ab,hc,ha⟩:=hv.sl_inv;rw[S]at ab;injection ab with e1 e2 e3;subst e1 e3;rcases ha with ha|⟨rfl,B⟩
   ·omega
   rw[ap]at B;have aa:=c1;rw[S]at aa;obtain⟨aw,T',hh,ad,X,R'⟩:=SB R al hl aa L.rel L.len L.one k B;have hr:=JN (P:=P) (ty:=ty) hd I hE hh G k ad;have ae:PD H v=H.del s.1:=by unfold PD;rw[hs]
   rw[ae,S];refine⟨_,_,_,hr,X,R',?_⟩
   rw[O];exact .sl (l:=⟨l.b,l.off+s.2.1,l.size,_,_⟩) (by show(if H.n=H.n then _ else _)=_;exact if_pos Z) k (.inr ⟨rfl,by show l.off+s.2.1+0+f*c.2.size<=l.size;omega⟩)
  ·
   have aj:gF w0 ρ (PD H v) w.drew:=by
    have:gF w0 ρ (PD H v) w:=by
     unfold PD;cases v.asS with
     |none=>exact R
     |some s=>exact R.del s.1
    exact this.ext' ((Below.refl _ _).drew)
   have hr:=Oh (P:=P) (ty:=ty) hd I hE (base:=E) (by rw[<-S];exact c1.old) G (by omega) (by omega) (by omega);have am:=grownCap_ge w (p.1+q.1) f c.1;have an:(D++o).length=(p.1+q.1)*c.2.size:=by rw[<-j.len];exact J
   obtain⟨aA,X,rfl,R'⟩:=aj.alloc' (cs:=p.2++q.2) (a:=(D++o).toArray++Builtin.zeroCells c.2.zero.cells (grownCap w (p.1+q.1) f c.1 - (p.1+q.1))) c.1 (by simp only[Array.size_append,List.size_toArray];omega) (λi x hx=>by
    obtain⟨y,hy,hr⟩:=j.get hx;exact⟨y,by rw[zB9 (by simpa using bH hy)];simpa using hy,hr,K y (zA0 hy)⟩)
   rw[S];refine⟨_,_,_,hr,X,R',?_⟩
   rw[O];refine .sl (l:=⟨w.heap.size,0,((D++o).toArray++Builtin.zeroCells c.2.zero.cells (grownCap w (p.1+q.1) f c.1 - (p.1+q.1))).size,.cells ((D++o).toArray++Builtin.zeroCells c.2.zero.cells (grownCap w (p.1+q.1) f c.1 - (p.1+q.1))) c.1,.cells (p.2++q.2)⟩) (by simp[eS.upd]) am (.inr ⟨rfl,?_⟩);simp only[Array.size_append,List.size_toArray,size_zeroCells,au,an];have:grownCap w (p.1+q.1) f c.1*c.2.size=(p.1+q.1)*c.2.size+(grownCap w (p.1+q.1) f c.1 - (p.1+q.1))*c.2.size:=by
    rw[<-zAw];congr 1;omega
   omega
end
section
variable {P:Program} {tb:TB} {ρ:eS} {V U W X:Value} {v u t g:GV} {gs:zC} {w0:fQ gs} {w:World} {H H':GH}
theorem Oz {T:TypeId} (R:gF w0 ρ H w) (h:GL H=some (g,H')):Lz P w0 ρ (Instr.makeMap T none) w g H':=by
 unfold GL at h;rw[jC]at h;cases h;have e:LB w (w.alloc (.map #[] 0)):=(Below.refl _ _).alloc (zAe _) _;have b:=R.new (o:= .mp []) (l:=⟨w.heap.size,0,0,.map #[] 0,.mp []⟩) (R.ext.trans e) (λh k m d f=>by
  obtain⟨l,a,_,c⟩:=R.live h k d;rw[f]at a;cases a;exact⟨e.block _ c.lt,Nat.ne_of_lt c.lt⟩) (.inl R.ext.size) ⟨#[],0,heap_alloc_new w _,rfl,λi x j=>by simp at j⟩ (heap_alloc_new w _)
 refine⟨_,_,_,?_,b.1,b.2,.map (l:=⟨w.heap.size,0,0,.map #[] 0,.mp []⟩) (by simp[eS.upd])⟩
 simp[Instr.makeMap]
theorem UY (s r:ByteArray):OM (lR (bR s),(bR s).length) (lR (bR r),(bR r).length)=(s.toList==r.toList):=by
 rw[Lib.toList_data,Lib.toList_data];unfold OM;by_cases b:(bR s).length=(bR r).length
 ·have d:Nat.beq (bR r).length (bR r).length=true:=by simp
  rw[b,d,cond_true];by_cases a:lR (bR s)=lR (bR r)
  ·have:=FY b a;unfold bR at this;rw[a,this];simp
  ·rw[nQ a];symm;rw[beq_eq_false_iff_ne];intro c;exact a (by unfold bR;rw[c])
 ·rw[nQ b,cond_false];symm;rw[beq_eq_false_iff_ne];intro c;exact b (by unfold bR;rw[c])
theorem Qh {t:Ty} {a b:GV} {A B:Value} {c:Bool} (d:JA t a=true) (e:Rl ρ a A) (f:Rl ρ b B) (h:Ro a b=some c):Instr.sameNow t.desc A B=some c:=by
 unfold Ro at h;unfold JA at d;cases i:a.asI with
 | some x =>
  rw[i]at h d;obtain⟨y,j,h⟩:=aF.1 (show ob b.asI _=some c from h);obtain⟨z,h⟩:=bW.1 h;cases h;rw[nP i]at e;rw[nP j]at f;rw[e.int_inv,f.int_inv];cases p:Xg t.desc with
  |none=>simp only[p]at d;cases d
  |some k=>
   rw[FC p];have:=Hj z;simp only[Instr.sameNow,this,if_true,Jr];congr 1
 |none=>
  rw[i]at h d;obtain⟨x,q,h⟩:=aF.1 (show ob a.asStr _=some c from h);obtain⟨y,j,h⟩:=aF.1 h;cases h;rw[q]at d;rw[pI q]at e;rw[pI j]at f;obtain⟨s,rfl,l,m⟩:=e.str_inv;obtain⟨r,rfl,n,o⟩:=f.str_inv;rw[AT d];show some (s==r)=_;rw[beq_toListBytes,<-UY];cases x;cases y;simp only at l m n o;rw[l,m,n,o]
theorem JF {t:Ty} {k:GV} {K:Value} (d:JA t k=true) (c:Rl ρ k K):∀{a:List (GV×GV)} {en:List MapEntry} {r:Option GV} (i:Nat),en.length=a.length->(∀(i:Nat) e,a[i]? = some e->∃m,en[i]? = some m∧Rl ρ e.1 m.key∧Rl ρ e.2 m.val)->NQ k a=some r->
  (r=none∧Instr.findNow t.desc K en i=some none)∨∃g j x,r=some g∧Rl ρ g x∧Instr.findNow t.desc K en i=some (some (j,x))
 | [],en,r,i,hl,_,h=>by
  cases h;have:en=[]:=zAl (by simpa using hl);subst this;exact .inl ⟨rfl,rfl⟩
 | e :: a, en, r, i, hl, hr, h => by
  obtain⟨b,q,h⟩:=aF.1 (show ob (Ro k e.1) (λb=>bif b then some (some e.2)else NQ k a)=some r from h);cases en with
  |nil=>simp at hl
  | cons m en =>
   obtain⟨y,f,o,p⟩:=hr 0 e Z;simp at f;subst f;have l:=Qh d c o q;cases b with
   |true=>
    cases h;exact .inr ⟨e.2,i,m.val,rfl,p,by simp[Instr.findNow,l]⟩
   |false=>
    have:=JF (r:=r) d c (i+1) (by simpa using hl) (λi n s=>by have:=hr (i+1) n (by simpa using s);simpa using this) (show NQ k a=some r from h);simpa [Instr.findNow,l]using this
theorem NM (a:fP P tb) {T:TypeId} {t:Ty×Ty} (h:VF tb T=some t):∃d k e,rW P T d∧d.desc = .map k e∧rW P k t.1∧rW P e t.2:=by
 obtain⟨d,j,h⟩:=aF.1 (show ob (tb T) _=some t from h);obtain⟨i,b,h⟩:=aF.1 h;obtain⟨l,c,h⟩:=aF.1 h;obtain⟨m,f,h⟩:=aF.1 h;cases h;exact⟨d,i.1,i.2,a.tab j,abm b,a.tab c,a.tab f⟩
theorem Gq {K:TypeId} {t:Ty} {b:Bool} (j:rW P K t) (c:JA t u=true) (d:Rl ρ u U) (w:World):(Instr.checkKey b 10000 K U).run P w = .ok () w:=by
 have a:=j.run_und w;unfold JA at c;have h:∀n:Nat,(Instr.checkKey b (n+1) K U).run P w = .ok () w:=λn=>by
  unfold Instr.checkKey;cases e:u.asI with
  |some x=>
   rw[e]at c;rw[nP e]at d;rw[d.int_inv];cases i:Xg t.desc with
   |none=>simp only[i]at c;cases c
   |some k=>rw[FC i]at a;simp[a]
  | none =>
   rw[e]at c;cases f:u.asStr with
   |none=>simp only[f]at c;cases c
   |some x=>
    simp only[f]at c;rw[pI f]at d;obtain⟨s,rfl,_,_⟩:=d.str_inv;rw[AT c]at a;simp[a]
 exact h 9999
theorem gF.map (R:gF w0 ρ H w) {h:Nat} {c:List (GV×GV)} (e:H.get h=some (.mp c)) {l:KA} (f:ρ h=some l):xT ρ w l (.mp c)∧w0.mine l.b:=by
 obtain⟨j,a,d,i⟩:=R.live h _ e;rw[f]at a;cases a;exact⟨i,d⟩
theorem WQ (S:fP P tb) {T:TypeId} {B:Bool} (R:gF w0 ρ H w) (K:Rl ρ v V) (J:Rl ρ u U) (h:ZI tb T B v u H=some g):∃x,Rl ρ g x∧(Instr.lookup T V U B).run P w = .ok x w:=by
 obtain⟨m,hm,h⟩:=aF.1 (show ob v.asM _=some g from h);obtain⟨o,I,h⟩:=aF.1 h;obtain⟨es,D,h⟩:=aF.1 h;obtain⟨t,ht,h⟩:=aF.1 h;obtain⟨G,h⟩:=bW.1 h;obtain⟨r,hr,h⟩:=aF.1 h;obtain⟨z,hz,h⟩:=aF.1 h;rw[asM_eq hm]at K;obtain⟨l,hl,rfl⟩:=K.map_inv;rw[GO.asM_eq D]at I;obtain⟨⟨A,M,Y,s,q⟩,_⟩:=R.map I hl;obtain⟨d,k,e,hd,C,F,E⟩:=NM S ht;have c:=hd.run_und w;rw[C]at c;have n:=Gq (P:=P) (b:=A.isEmpty) F G J w;have f:(getObj l.b).run P w = .ok (.map A M) w:=by simp[getObj,Sem.run,Y]
 have a:=F.run_und w;have p:=JF G J (en:=A.toList) (r:=r) 0 (by simpa using s) (λi N he=>by
  obtain⟨m',O,Q⟩:=q i N he;exact⟨m',by rw[zAi];exact O,Q⟩) hr
 have y:=PZ (ρ:=ρ) hz;rcases p with⟨rfl,p⟩|⟨g',j,x,rfl,L,p⟩
 ·cases B with
  |false=>cases h;exact⟨_,y,by simp[Instr.lookup,c,f,n,Instr.findKey,a,p,E.run_zero w]⟩
  |true=>cases h;exact⟨.tuple #[t.2.zero,.bool false],Ip (.cons y (.cons (.bool _) .nil)),by simp[Instr.lookup,c,f,n,Instr.findKey,a,p,E.run_zero w]⟩
 ·cases B with
  |false=>cases h;exact⟨x,L,by simp[Instr.lookup,c,f,n,Instr.findKey,a,p]⟩
  |true=>cases h;exact⟨.tuple #[x,.bool true],Ip (.cons L (.cons (.bool _) .nil)),by simp[Instr.lookup,c,f,n,Instr.findKey,a,p]⟩
theorem Tx (hG:fP P tb) {T:TypeId} (R:gF w0 ρ H w) (hv:Rl ρ v V) (N:Rl ρ u U) (hx:Rl ρ t X) (h:WS tb T v u t H=some (g,H')):g = .un∧∃w' C,(Instr.mapUpdate T V U X).run P w = .ok () w'∧ρ.le C∧gF w0 C H' w':=by
 obtain⟨m,hm,h⟩:=aF.1 (show ob v.asM _=some (g,H')from h);obtain⟨o,M,h⟩:=aF.1 h;obtain⟨Q,L,h⟩:=aF.1 h;obtain⟨ty,ht,h⟩:=aF.1 h;obtain⟨hk,h⟩:=bW.1 h;obtain⟨r,hr,h⟩:=aF.1 h;rw[asM_eq hm]at hv;obtain⟨l,hl,rfl⟩:=hv.map_inv;rw[GO.asM_eq L]at M;obtain⟨⟨z,c,D,p,n⟩,a⟩:=R.map M hl;obtain⟨d,k,e,hd,K,S,hE⟩:=NM hG ht;have q:=hd.run_und w;rw[K]at q;have J:=Gq (P:=P) (b:=false) S hk N w;have A:(getObj l.b).run P w = .ok (.map z c) w:=by simp[getObj,Sem.run,D]
 have s:=S.run_und w;have E:=JF hk N (en:=z.toList) (r:=r) 0 (by simpa using p) (λi F f=>by
  obtain⟨O,G,I⟩:=n i F f;exact⟨O,by rw[zAi];exact G,I⟩) hr
 rcases E with⟨rfl,E⟩|⟨g',j,x,rfl,aa,E⟩
 ·simp only[xX]at h;cases h;refine⟨rfl,{w with heap:=w.heap.setIfInBounds l.b (.map (z.push {key:=U,val:=X,born:=c}) (c+1))},_,?_,R.set (X:= .map (z.push {key:=U,val:=X,born:=c}) (c+1)) M hl ?_ ?_ ?_ ?_⟩
  ·simp[Instr.mapUpdate,q,A,J,Instr.findKey,s,E,setObj,Sem.run,D]
  ·exact⟨R.ext.os,R.ext.tape,R.ext.output,by simpa using R.ext.size,λi B Y=>by
    show(w.heap.setIfInBounds l.b _)[i]? = _;rw[zAz (λe=>by subst e;rcases a with a|a;exact absurd a (by omega);exact Y a)];exact R.ext.block i B Y⟩
  ·intro i B;show(w.heap.setIfInBounds l.b _)[i]? = _;rw[zAz (Ne.symm B)]
  ·have y:l.b<w.heap.size:=(zAh.1 D).1;refine⟨z.push {key:=U,val:=X,born:=c},c+1,by show(w.heap.setIfInBounds l.b _)[l.b]? = _;rw[zB3 y],by simp[p],λi F f=> ?_⟩
   by_cases B:i<Q.length
   ·rw[zAa B]at f;obtain⟨O,G,I⟩:=n i F f;exact⟨O,by rw[Array.getElem?_push,if_neg (by omega)];exact G,I⟩
   ·rw[zA9 (by omega)]at f;have:i=Q.length:=by
     have:=bH f;simp at this;omega
    subst this;simp at f;subst f;exact⟨⟨U,X,c⟩,by rw[Array.getElem?_push,if_pos (by omega)],N,hx⟩
  ·have y:l.b<w.heap.size:=(zAh.1 D).1;show(w.heap.setIfInBounds l.b _)[l.b]? = _;rw[zB3 y]
 ·cases h
end
section
variable {P:Program} {tb:TB} {ρ:eS} {gs:zC} {w0:fQ gs} {w:World} {H H':GH} {n:Nat} {σ:GF} {a:Act} {R:Type}
def n_ (P:Program) {gs:zC} (w0:fQ gs) (ρ:eS) (f:Nat) (vs:List Value) (w:World) (g:GV) (H':GH):Prop:=
 (∃v w' b,(callFunc f vs.toArray).run P w = .ok (.value v) w'∧ρ.le b∧gF w0 b H' w'∧Rl b g v)∨
 ((callFunc f vs.toArray).run P w = .ok (.enter f vs.toArray) w∧Calls P f vs.toArray w λe w'=>∃v b,e = .returned v∧ρ.le b∧gF w0 b H' w'∧Rl b g v)
def rX (P:Program) {gs:zC} (w0:fQ gs) (d:CH):Prop:=∀f b H g H',d f b H=some (g,H')->∀ρ w c,gF w0 ρ H w->qF ρ b c->n_ P w0 ρ f c w g H'
def BP (P:Program) {gs:zC} (w0:fQ gs) (ρ:eS) (σ:GF) (a:Act) (w:World) (o:Oper) (g:GV) (H H':GH):Prop:=
 (e_ o.op=false∧nR o.op=false∧Mj o.op=false∧H'=H∧∃v,Rl ρ g v∧∀w,(execOp a.eval o).run P w = .ok (.value v) w)∨
 (e_ o.op=false∧nR o.op=true∧H'=H∧∃v h l,YA σ o.op=some h∧ρ h=some l∧(∃x,H.get h=some x)∧Rl ρ g v∧∀d,d.heap[l.b]? = w.heap[l.b]? -> (execOp a.eval o).run P d = .ok (.value v) d)∨
 (e_ o.op=false∧Mj o.op=true∧H'=H∧∃v,Rl ρ g v∧(execOp a.eval o).run P w = .ok (.value v) w)∨
 (e_ o.op=true∧∀K:Act->World->Prop,(∀c d v,ρ.le c->gF w0 c H' d->Rl c g v->K (a.put o.dst v) d)->o.wp P a w K O_)
theorem BP.comp {o:Oper} {g:GV} {s:Sem Value} (e:e_ o.op=false) (h:Ch P ρ s g) (d:∀w v,s.run P w = .ok v w->(execOp a.eval o).run P w = .ok (.value v) w) (b:nR o.op=false:=by rfl) (c:Mj o.op=false:=by rfl):BP P w0 ρ σ a w o g H H:=
 let ⟨v,hv,hr⟩:=h;.inl ⟨e,b,c,rfl,v,hv,λw=>d w v (hr w)⟩
theorem BP.read {o:Oper} {g:GV} {s:Sem Value} (c:e_ o.op=false) (d:Mj o.op=true) (h:∃x,Rl ρ g x∧s.run P w = .ok x w) (b:∀v,s.run P w = .ok v w->(execOp a.eval o).run P w = .ok (.value v) w):BP P w0 ρ σ a w o g H H:=
 let ⟨v,hv,hr'⟩:=h;.inr (.inr (.inl ⟨c,d,rfl,v,hv,b v hr'⟩))
theorem BP.does {o:Oper} {g:GV} {s:Sem Value} (j:e_ o.op=true) (h:Lz P w0 ρ s w g H') (i:∀v b,s.run P w = .ok v b->(execOp a.eval o).run P w = .ok (.value v) b):BP P w0 ρ σ a w o g H H':=by
 obtain⟨v,b,d,k,c,e,l⟩:=h;refine .inr (.inr (.inr ⟨j,λK f=> ?_⟩));simp only[Oper.wp,i v b k,Oper.upon];exact f d b v c e l
theorem BP.act {o:Oper} {g:GV} {s:Sem Unit} (j:e_ o.op=true) (h:g = .un∧∃c b,s.run P w = .ok () c∧ρ.le b∧gF w0 b H' c) (i:∀c,s.run P w = .ok () c->(execOp a.eval o).run P w = .ok .skip c):BP P w0 ρ σ a w o g H H':=by
 obtain⟨rfl,c,b,k,d,e⟩:=h;refine .inr (.inr (.inr ⟨j,λK f=> ?_⟩));simp only[Oper.wp,i c k,Oper.upon];exact f b c undef d e .un
theorem Iz (F:kW ρ n σ a) {o:Option Operand} {g:Option GV} (h:Hk σ o=some g):RlO ρ g (o.map a.eval):=by
 cases o with
 |none=>cases h;exact .inl ⟨rfl,rfl⟩
 |some x=>
  obtain⟨v,b,h⟩:=aF.1 (show ob (kI σ x) _=some g from h);cases h;exact .inr ⟨v,_,rfl,rfl,cN F b⟩
theorem EI {c:Type} {b:Array c} {x y:c} (h:b.toList=[x,y]):b = #[x,y]:=by
 cases b;simp at h;rw[h]
theorem IK {c:Type} {b:Array c} {x:c} (h:b.toList=[x]):b = #[x]:=by
 cases b;simp at h;rw[h]
theorem Cz {f:Operand->KT R} {k:GV->GH->Option R} {r:R}:∀{b:List Operand},Jz b f σ H k=some r->∃x,b=[x]∧f x σ H k=some r
 | [],h=>by cases h
 | [x],h=>⟨x,rfl,h⟩
 |_::_::_,h=>by cases h
theorem yB {f:Operand->Operand->KT R} {k:GV->GH->Option R} {r:R}:∀{b:List Operand},DK b f σ H k=some r->∃x y,b=[x,y]∧f x y σ H k=some r
 | [],h=>by cases h
 | [_],h=>by cases h
 | [x,y],h=>⟨x,y,rfl,h⟩
 |_::_::_::_,h=>by cases h
theorem mV {o:OR} {k:GV->GH->Option R} {r:R} (h:kY o k=some r):∃g H',o=some (g,H')∧k g H'=some r:=by
 obtain⟨⟨g,H'⟩,b,c⟩:=aF.1 (show ob o _=some r from h);exact⟨g,H',b,c⟩
theorem Yy (I:fP P tb) (F:kW ρ n σ a) (L:gF w0 ρ H w) {b:Builtin} {C:Array Operand} {c:Array TypeId} {k:GV->GH->Option R} {r:R} {d:Option Tmp} {i:TypeId} {K:String} {J:Array Edge} {M:Option (Nat×Bool)} (e:c.size=C.size)
  (h:PR tb C c b σ H k=some r):∃g H',k g H'=some r∧BP P w0 ρ σ a w ⟨d,.call ⟨.builtin b,C,c⟩,i,K,J,M⟩ g H H':=by
 cases b with
 | len =>
  obtain⟨x,z,h⟩:=Cz (show Jz C.toList (Tf tb c.toList) σ H k=some r from h);obtain⟨T,f,h⟩:=aF.1 (show ob (GQ c.toList 0) _=some r from h);obtain⟨v,s,h⟩:=aF.1 h;obtain⟨g,o,p⟩:=aF.1 h;have m:=IK z;subst m;have j:c = #[T]:=by
   rw[uD]at f;obtain⟨l⟩:=c
   match l,e with
   | [t],_=>simp at f;subst f;rfl
  subst j;exact⟨g,H,p,.comp Z (Sd I (ty:=i) (cN F s) o) (λw v q=>by simp[execOp,resolve,invoke,builtin,q])⟩
 | max =>
  obtain⟨x,y,z,h⟩:=yB (show DK C.toList (λx y=>k2 x y QB) σ H k=some r from h);obtain⟨v,s,h⟩:=aF.1 (show ob (kI σ x) _=some r from h);obtain⟨u,E,h⟩:=aF.1 h;obtain⟨g,o,p⟩:=aF.1 h;have m:=EI z;subst m;obtain⟨A,B,j⟩:∃A B,c = #[A,B]:=by
   obtain⟨l⟩:=c
   match l,e with
   | [t,t'],_=>exact⟨t,t',rfl⟩
  subst j;exact⟨g,H,p,.comp Z (Se (t1:=A) (t2:=B) (ty:=i) (cN F s) (cN F E) o) (λw v q=>by simp[execOp,resolve,invoke,builtin,q])⟩
 | min =>
  obtain⟨x,y,z,h⟩:=yB (show DK C.toList (λx y=>k2 x y Zj) σ H k=some r from h);obtain⟨v,s,h⟩:=aF.1 (show ob (kI σ x) _=some r from h);obtain⟨u,E,h⟩:=aF.1 h;obtain⟨g,o,p⟩:=aF.1 h;have m:=EI z;subst m;obtain⟨A,B,j⟩:∃A B,c = #[A,B]:=by
   obtain⟨l⟩:=c
   match l,e with
   | [t,t'],_=>exact⟨t,t',rfl⟩
  subst j;exact⟨g,H,p,.comp Z (Sf (t1:=A) (t2:=B) (ty:=i) (cN F s) (cN F E) o) (λw v q=>by simp[execOp,resolve,invoke,builtin,q])⟩
 | append =>
  obtain⟨x,y,z,h⟩:=yB (show DK C.toList (Vw tb c.toList) σ H k=some r from h);obtain⟨T,f,h⟩:=aF.1 (show ob (GQ c.toList 0) _=some r from h);obtain⟨G,D,h⟩:=aF.1 h;obtain⟨v,s,h⟩:=aF.1 h;obtain⟨u,E,h⟩:=aF.1 h;obtain⟨g,H',o,p⟩:=mV h;have m:=EI z;subst m;have j:c = #[T,G]:=by
   rw[uD]at f D;obtain⟨l⟩:=c
   match l,e with
   | [t,t'],_=>simp at f D;subst f D;rfl
  subst j;exact⟨g,H',p,.does Z (Zf I (ty:=i) L (cN F s) (cN F E) o) (λv N q=>by simp[execOp,resolve,invoke,builtin,q])⟩
 | copy =>
  obtain⟨x,y,z,h⟩:=yB (show DK C.toList (NI tb c.toList) σ H k=some r from h);obtain⟨T,f,h⟩:=aF.1 (show ob (GQ c.toList 0) _=some r from h);obtain⟨v,s,h⟩:=aF.1 h;obtain⟨u,E,h⟩:=aF.1 h;obtain⟨g,H',o,p⟩:=mV h;have m:=EI z;subst m;obtain⟨G,j⟩:∃G,c = #[T,G]:=by
   rw[uD]at f;obtain⟨l⟩:=c
   match l,e with
   | [t,t'],_=>simp at f;subst f;exact⟨t',rfl⟩
  subst j;exact⟨g,H',p,.does Z (WP I (T':=G) (ty:=i) L (cN F s) (cN F E) o) (λv N q=>by simp[execOp,resolve,invoke,builtin,q])⟩
 | cap =>
  obtain⟨x,z,h⟩:=Cz (show Jz C.toList (Te tb c.toList) σ H k=some r from h);obtain⟨T,f,h⟩:=aF.1 (show ob (GQ c.toList 0) _=some r from h);obtain⟨v,s,h⟩:=aF.1 h;obtain⟨g,o,p⟩:=aF.1 h;have m:=IK z;subst m;have j:c = #[T]:=by
   rw[uD]at f;obtain⟨l⟩:=c
   match l,e with
   | [t],_=>simp at f;subst f;rfl
  subst j;exact⟨g,H,p,.comp Z (Sb I (ty:=i) (cN F s) o) (λw v q=>by simp[execOp,resolve,invoke,builtin,q])⟩
 |_=>cases h
theorem Td {N:CH} (D:rX P w0 N) (F:kW ρ n σ a) (S:gF w0 ρ H w) {f:Operand} {q:Array Operand} {O:Array TypeId} {k:GV->GH->Option R} {r:R} {d:Option Tmp} {Q:TypeId} {x:String} {s:Array Edge} {J:Option (Nat×Bool)}
  (h:Vx N q f σ H k=some r):∃g H',k g H'=some r∧BP P w0 ρ σ a w ⟨d,.call ⟨.value f,q,O⟩,Q,x,s,J⟩ g H H':=by
 obtain⟨v,X,h⟩:=aF.1 (show ob (kI σ f) _=some r from h);obtain⟨p,W,h⟩:=aF.1 h;obtain⟨Y,E,h⟩:=aF.1 h;obtain⟨g,H',V,h⟩:=mV h;refine⟨g,H',h,.inr (.inr (.inr ⟨rfl,λK L=> ?_⟩))⟩
 have M:=cN F X;rw[Un W]at M;obtain⟨A,z,U,C,B⟩:=M.fn_inv;have u:=Ez F E;have t:=(C.append u).append B;have c:∀G l,(callFunc p.1 (A++q.toList.map a.eval++z).toArray).run P w = .ok G l->(execOp a.eval ⟨d,.call ⟨.value f,q,O⟩,Q,x,s,J⟩).run P w = .ok G l:=λG l o=>by
  have T:(A++q.toList.map a.eval++z).toArray=A.toArray++(q.map a.eval++z.toArray):=by
   apply Array.toList_inj.1;simp
  rw[T]at o;simp[execOp,resolve,U,Deferred.ofValue,invoke,o]
 rcases D _ _ _ _ _ V ρ w _ S t with⟨I,l,m,o,i,y,j⟩|⟨o,b⟩
 ·simp only[Oper.wp,c _ _ o,Oper.upon];exact L m l I i y j
 ·simp only[Oper.wp,c _ _ o,Oper.upon];refine b.mono ?_;rintro e l ⟨I,m,rfl,i,y,j⟩;exact L m l I i y j
def JJ:Op->Bool
 | .call c=>Nat.beq c.argTypes.size c.args.size
 |_=>true
theorem PL (B:fP P tb) {ih:CH} (V:rX P w0 ih) (F:kW ρ n σ a) (E:gF w0 ρ H w) {o:Oper} {k:GV->GH->Option R} {r:R} (J:JJ o.op=true∨∃c f,o.op = .call c∧c.callee = .value f) (h:MU tb ih o.op σ H k=some r):
  ∃g H',k g H'=some r∧BP P w0 ρ σ a w o g H H':=by
 obtain⟨d,K,ty,ad,ac,gd⟩:=o;cases K with
 |move x=>
  obtain⟨v,A,h⟩:=aF.1 (show ob (kI σ x) _=some r from h);exact⟨v,H,h,.inl ⟨rfl,rfl,rfl,rfl,_,cN F A,λw=>by simp[execOp]⟩⟩
 |assign x=>
  obtain⟨v,A,h⟩:=aF.1 (show ob (kI σ x) _=some r from h);exact⟨v,H,h,.inl ⟨rfl,rfl,rfl,rfl,_,cN F A,λw=>by simp[execOp]⟩⟩
 |pick c x y=>
  obtain⟨v,A,h⟩:=aF.1 (show ob (kI σ c) _=some r from h);obtain⟨u,C,h⟩:=aF.1 h;obtain⟨t,X,h⟩:=aF.1 h;obtain⟨g,s,h⟩:=aF.1 h;obtain⟨b,hb,s⟩:=aF.1 (show ob v.asB _=some g from s);have O:=cN F A;rw[Bz hb]at O;cases b with
  |true=>cases s;exact⟨_,H,h,.inl ⟨rfl,rfl,rfl,rfl,_,cN F C,λw=>by simp[execOp,O.bool_inv,asBool]⟩⟩
  |false=>cases s;exact⟨_,H,h,.inl ⟨rfl,rfl,rfl,rfl,_,cN F X,λw=>by simp[execOp,O.bool_inv,asBool]⟩⟩
 |alloc T=>
  obtain⟨g,H',s,h⟩:=mV (show kY (AV tb T H) k=some r from h);exact⟨g,H',h,.does Z (HK B E s) (λv I j=>by simp[execOp,j])⟩
 |box T x=>
  obtain⟨v,A,h⟩:=aF.1 (show ob (kI σ x) _=some r from h);obtain⟨g,H',s,h⟩:=mV h;exact⟨g,H',h,.does Z (Zg (T:=T) E (cN F A) s) (λv I j=>by simp[execOp,j])⟩
 | build T ps =>
  obtain⟨vs,G,h⟩:=aF.1 (show ob (uB σ ps.toList) _=some r from h);obtain⟨g,s,h⟩:=aF.1 h;exact⟨g,H,h,.comp Z (Lo B (BW F G) s) (λw v j=>by
   have e:(ps.toList.map λp=>(p.1,a.eval p.2)).toArray=ps.map λp=>(p.1,a.eval p.2):=by apply Array.toList_inj.1;simp
   rw[e]at j;simp[execOp,j])⟩
 | buildSlice T m ps =>
  obtain⟨vs,G,h⟩:=aF.1 (show ob (uB σ ps.toList) _=some r from h);obtain⟨g,H',s,h⟩:=mV h;exact⟨g,H',h,.does Z (Qy B E (BW F G) s) (λv I j=>by
   have e:(ps.toList.map λp=>(p.1,a.eval p.2)).toArray=ps.map λp=>(p.1,a.eval p.2):=by apply Array.toList_inj.1;simp
   rw[e]at j;simp[execOp,j])⟩
 |load T x=>
  obtain⟨v,A,h⟩:=aF.1 (show ob (kI σ x) _=some r from h);obtain⟨g,s,h⟩:=aF.1 h;obtain⟨x',p,l,Q,W,U,ab,j⟩:=Kb (P:=P) B E (cN F A) s;exact⟨g,H,h,.inr (.inl ⟨rfl,rfl,rfl,x',p.1,l,by show ob (kI σ x) _=_;rw[A,Q];rfl,W,U,ab,λI aa=>by have:=j I aa;simp[execOp,this]⟩)⟩
 |store T x y=>
  obtain⟨v,A,h⟩:=aF.1 (show ob (kI σ x) _=some r from h);obtain⟨u,C,h⟩:=aF.1 h;obtain⟨g,H',s,h⟩:=mV h;exact⟨g,H',h,.act Z (HL B E (cN F A) (cN F C) s) (λI j=>by simp[execOp,j])⟩
 |nilCheck x=>
  obtain⟨v,A,h⟩:=aF.1 (show ob (kI σ x) _=some r from h);obtain⟨g,s,hk⟩:=aF.1 h;obtain⟨rfl,j⟩:=NS (P:=P) (cN F A) s;exact⟨_,H,hk,.inl ⟨rfl,rfl,rfl,rfl,_,cN F A,λw=>j _ x a.eval Z Z w⟩⟩
 | binOp K T x y T' =>
  obtain⟨v,A,h⟩:=aF.1 (show ob (kI σ x) _=some r from h);obtain⟨u,C,h⟩:=aF.1 h;obtain⟨g,s,h⟩:=aF.1 h;exact⟨g,H,h,.comp Z (Sa B x y (cN F A) (cN F C) s) (λw v j=>by
   simp only[execOp];simp at j ⊢;cases hq:Sem.run P (eqGuard K T x y (a.eval x) (a.eval y)) w with
   |ok u w1=>rw[hq]at j;simp at j;simp[j]
   |halt h1 w1=>rw[hq]at j;cases j)⟩
 |unOp K T x=>
  obtain⟨v,A,h⟩:=aF.1 (show ob (kI σ x) _=some r from h);obtain⟨g,s,h⟩:=aF.1 h;exact⟨g,H,h,.comp Z (WV (cN F A) s) (λw v j=>by simp[execOp,j])⟩
 |convert S D x=>
  obtain⟨v,A,h⟩:=aF.1 (show ob (kI σ x) _=some r from h);obtain⟨g,s,h⟩:=aF.1 h;exact⟨g,H,h,.comp Z (Ox B (cN F A) s) (λw v j=>by simp[execOp,j])⟩
 | makeFunc fn first caps =>
  cases fn with
  |func f=>
   obtain⟨us,Y,h⟩:=aF.1 (show ob (Ft σ first.toList) _=some r from h);obtain⟨vs,G,h⟩:=aF.1 h;refine⟨_,H,h,.inl ⟨rfl,rfl,rfl,rfl,_,Ph (Ez F Y) (Ez F G),λw=> ?_⟩⟩
   have M:(first.toList.map a.eval).toArray=first.map a.eval:=by apply Array.toList_inj.1;simp
   have N:(caps.toList.map a.eval).toArray=caps.map a.eval:=by apply Array.toList_inj.1;simp
   rw[M,N];simp[execOp,Instr.makeFunc]
  |_=>cases h
 | makeMap T q =>
  cases q with
  |none=>
   obtain⟨g,H',s,h⟩:=mV (show kY (GL H) k=some r from h);exact⟨g,H',h,.does Z (Oz (T:=T) E s) (λv I j=>by simp[execOp,j])⟩
  |some x=>cases h
 |makeSlice T x y=>
  obtain⟨v,A,h⟩:=aF.1 (show ob (kI σ x) _=some r from h);obtain⟨u,C,h⟩:=aF.1 h;obtain⟨g,H',s,h⟩:=mV h;exact⟨g,H',h,.does Z (WR B E (cN F A) (cN F C) s) (λv I j=>by simp[execOp,j])⟩
 | slice T x lo hi mx =>
  cases mx with
  |none=>
   obtain⟨v,A,h⟩:=aF.1 (show ob (kI σ x) _=some r from h);obtain⟨l,W,h⟩:=aF.1 h;obtain⟨e,Q,h⟩:=aF.1 h;obtain⟨g,s,h⟩:=aF.1 h;exact⟨g,H,h,.comp Z (Lr B (.inl ⟨_,_,E⟩) (cN F A) (Iz F W) (Iz F Q) s) (λw v j=>by simp[execOp,j])⟩
  |some y=>cases h
 |fieldAddr T x f=>
  obtain⟨v,A,h⟩:=aF.1 (show ob (kI σ x) _=some r from h);obtain⟨g,s,h⟩:=aF.1 h;exact⟨g,H,h,.comp Z (Lp B (cN F A) s) (λw v j=>by simp[execOp,j])⟩
 |field T x f=>
  obtain⟨v,A,h⟩:=aF.1 (show ob (kI σ x) _=some r from h);obtain⟨g,s,h⟩:=aF.1 h;exact⟨g,H,h,.comp Z (OA B (cN F A) s) (λw v j=>by simp[execOp,j])⟩
 |indexAddr T x y=>
  obtain⟨v,A,h⟩:=aF.1 (show ob (kI σ x) _=some r from h);obtain⟨u,C,h⟩:=aF.1 h;obtain⟨g,s,h⟩:=aF.1 h;exact⟨g,H,h,.comp Z (Lq B (cN F A) (cN F C) s) (λw v j=>by simp[execOp,j])⟩
 |index T x y=>
  obtain⟨v,A,h⟩:=aF.1 (show ob (kI σ x) _=some r from h);obtain⟨u,C,h⟩:=aF.1 h;obtain⟨g,s,h⟩:=aF.1 h;exact⟨g,H,h,.comp Z (WM B (cN F A) (cN F C) s) (λw v j=>by simp[execOp,j])⟩
 |lookup T x y ok=>
  obtain⟨v,A,h⟩:=aF.1 (show ob (kI σ x) _=some r from h);obtain⟨u,C,h⟩:=aF.1 h;obtain⟨g,s,h⟩:=aF.1 h;exact⟨g,H,h,.read Z Z (WQ B E (cN F A) (cN F C) s) (λv j=>by simp[execOp,j])⟩
 |mapUpdate T x y z=>
  obtain⟨v,A,h⟩:=aF.1 (show ob (kI σ x) _=some r from h);obtain⟨u,C,h⟩:=aF.1 h;obtain⟨t,X,h⟩:=aF.1 h;obtain⟨g,H',s,h⟩:=mV h;exact⟨g,H',h,.act Z (Tx B E (cN F A) (cN F C) (cN F X) s) (λI j=>by simp[execOp,j])⟩
 |extract x i=>
  obtain⟨v,A,h⟩:=aF.1 (show ob (kI σ x) _=some r from h);obtain⟨g,s,h⟩:=aF.1 h;exact⟨g,H,h,.comp Z (Sc (cN F A) s) (λw v j=>by simp[execOp,j])⟩
 | call c =>
  obtain⟨L,xs,ts⟩:=c;cases L with
  |value f=>exact Td V F E h
  |invoke x m=>cases h
  |builtin b=>
   refine Yy B F E ?_ h;rcases J with J|⟨c,f,M,N⟩
   ·exact zA4 J
   ·cases M;cases N
 |_=>cases h
end
theorem CU {R:Type}:∀(a:List Nat) (b:List GV) (f:GF->Option R),jZ a b f=ob (jZ a b some) f
 | [],[],f=>rfl
 | [],_::_,f=>rfl
 |key::a,[],f=>rfl
 |key::a,v::b,f=>by
  show jZ a b (λc=>f ((key,v)::c))=ob (jZ a b λc=>some ((key,v)::c)) f;rw[CU a b (λc=>f ((key,v)::c)),CU a b (λc=>some ((key,v)::c))];cases jZ a b some<;>rfl
theorem qV {R:Type} {a:List Nat} {b:List GV} {f:GF->Option R} {r:R} (h:jZ a b f=some r):∃c,jZ a b some=some c∧f c=some r:=by
 rw[CU]at h;exact aF.1 h
theorem IE {j:eS} {n:Nat} {f:GF} {a:Act} (F:kW j n f a):∀{d:List Nat} {b:GF},jZ d (Cb f d) some=some b->kW j n b a
 | [],b,h=>by cases h;exact⟨F.defers,F.size,λt g c=>by cases c⟩
 | key :: d, b, h => by
  have k:jZ d (Cb f d) (λb=>some ((key,Option.casesOn (motive:=λ_=>GV) (EK f key) .bad (λv=>v))::b))=some b:=h;obtain⟨s,l,m⟩:=qV k;cases m;have o:=IE F l;refine⟨F.defers,F.size,λt g c=> ?_⟩
  rw[Ax]at c;by_cases e:t=key
  ·subst e;rw[if_pos Z]at c;cases i:EK f t with
   |none=>rw[i]at c;cases c;exact .bad _
   |some v=>rw[i]at c;cases c;exact F.slot t v i
  ·rw[if_neg e]at c;exact o.slot t g c
theorem Mu (c:GF):∀b:List Nat,∃a,jZ b (Cb c b) some=some a
 | []=>⟨[],rfl⟩
 |key::b=>by
  obtain⟨a,h⟩:=Mu c b;refine⟨(key,Option.casesOn (motive:=λ_=>GV) (EK c key) .bad (λv=>v))::a,?_⟩
  show jZ b (Cb c b) (λa=>some ((key,Option.casesOn (motive:=λ_=>GV) (EK c key) .bad (λv=>v))::a))=_;rw[CU,h];rfl
theorem Jb:∀{m i:Nat} {b:List GV} {a:GF},jZ (List.range' i m) b some=some a->b.length=m
 |0,i,[],a,h=>rfl
 |0,i,_::_,a,h=>by cases h
 |m+1,i,[],a,h=>by cases h
 |m+1,i,u::b,a,h=>by
  obtain⟨s,c,_⟩:=qV (show jZ (List.range' (i+1) m) b (λa=>some ((i,u)::a))=some a from h);simp[Jb c]
theorem LP {o:eS} {n:Nat} {a:Act} (k:a.defers=[]) (l:a.tmps.size=n):∀{m i:Nat} {f:List GV} {d:cR} {b:GF},qF o f d->(∀j v,d[j]? = some v->a.tmps[i+j]? = some v)->jZ (List.range' i m) f some=some b->kW o n b a
 |0,i,[],d,b,_,_,h=>by cases h;exact⟨k,l,λt g c=>by cases c⟩
 |0,i,_::_,d,b,_,_,h=>by cases h
 |m+1,i,[],d,b,_,_,h=>by cases h
 | m + 1, i, u :: f, d, b, hr, ha, h => by
  obtain⟨v,d,rfl,q,r⟩:=hr.of_cons;have p:jZ (List.range' (i+1) m) f (λb=>some ((i,u)::b))=some b:=h;obtain⟨s,w,x⟩:=qV p;cases x;have z:=LP k l r (λj v y=>by have:=ha (j+1) v (by simpa using y);rwa[show i+(j+1)=i+1+j by omega]at this) w;refine⟨k,l,λt g c=> ?_⟩
  rw[Ax]at c;by_cases e:t=i
  ·subst e;rw[if_pos Z]at c;cases c;have:=ha 0 v Z;simp[Act.eval,show a.tmps[t]? = some v by simpa using this,q]
  ·rw[if_neg e]at c;exact z.slot t g c
def Ht (n:Nat) (o:Oper):Bool:=jS o&&(match o.dst with|none=>true|some d=>Nat.blt d n)&&(JJ o.op||(match o.op with|.call c=>(match c.callee with|.value _=>true|_=>false)|_=>false))
section
variable {P:Program} {tb:TB} {gs:zC} {w0:fQ gs}
theorem tE {n:Nat} {o:Oper} (h:Ht n o=true):jS o=true∧(∀d,o.dst=some d->d<n)∧(JJ o.op=true∨∃c f,o.op = .call c∧c.callee = .value f):=by
 unfold Ht at h;simp only[zA3,zB2]at h;obtain⟨⟨j,g⟩,a⟩:=h;refine⟨j,λd k=> ?_,?_⟩
 ·rw[k]at g;simpa [zAu]using g
 ·rcases a with a|a
  ·exact .inl a
  ·right;cases i:o.op with
   |call c=>
    rw[i]at a;cases e:c.callee with
    |value f=>exact⟨c,f,rfl,e⟩
    |invoke x m=>simp only[e]at a;cases a
    |builtin b=>simp only[e]at a;cases a
   |_=>rw[i]at a;cases a
theorem kW.putD {b:eS} {n:Nat} {c:GF} {a:Act} (F:kW b n c a) {d:Option Nat} (e:∀x,d=some x->x<n) {g:GV} {v:Value} (f:Rl b g v):kW b n (putD d g c) (a.put d v):=by
 cases d with
 |none=>exact⟨F.defers,F.size,F.slot⟩
 |some d=>exact F.put (e d Z) f
theorem Yp {x:CH} (I:fP P tb) (t:rX P w0 x) {all:List Oper} {n:Nat} {o:Oper} {k:GS->RS} {s:GS} {f:Nh} {E:eS} {a:Act} {w:World} (L:Ht n o=true) (F:kW E n s.σ a) (R:gF w0 E s.H w) (h:Js tb x all o k s=some f):
  (Region.wanted o (yielded all.toArray a.tmps)=true∧∃g j,k ⟨putD o.dst g s.σ,j⟩=some f∧BP P w0 E s.σ a w o g s.H j)∨
  (Region.wanted o (yielded all.toArray a.tmps)=false∧k ⟨putD o.dst .un s.σ,s.H⟩=some f):=by
 obtain⟨Q,S,G⟩:=tE L;unfold Js at h;cases r:o.guard with
 |none=>
  rw[r]at h;obtain⟨g,j,B,C⟩:=PL I t F R G (show MU tb x o.op s.σ s.H (opK o.dst s k)=some f from h);exact .inl ⟨by simp[Region.wanted,r],g,j,B,C⟩
 | some gd =>
  rw[r]at h;obtain⟨T,u,h⟩:=aF.1 (show ob (GQ all gd.1) _=some f from h);obtain⟨l,A,h⟩:=aF.1 h;obtain⟨v,N,h⟩:=aF.1 h;obtain⟨g,j,m,p⟩:=mV h;have e:=F.slot l v N;rw[uD]at u;have D:yielded all.toArray a.tmps gd.1=(match a.tmps[l]? with|some (.bool b)=>some b|_=>none):=by
   unfold yielded;have:(all.toArray[gd.1]?).bind (·.dst)=some l:=by simp[u,A]
   rw[this];rfl
  cases v with
  | bool q =>
   have d:=e.bool_inv;have M:a.tmps[l]? = some (.bool q):=by
    simp only[Act.eval,Array.getD_eq_getD_getElem?]at d;cases y:a.tmps[l]? with
    |none=>rw[y]at d;cases d
    |some z=>rw[y]at d;simp at d;rw[d]
   rw[M]at D;have c:Bool.casesOn (motive:=λ_=>OR) (Rb q gd.2) (some (.un,s.H)) (MU tb x o.op s.σ s.H Hu)=some (g,j):=m;rw[Fo]at c;have J:Region.wanted o (yielded all.toArray a.tmps)=(q==gd.2):=by
    simp only[Region.wanted,r];rw[D];cases q<;>cases gd.2<;>rfl
   cases i:(q==gd.2)with
   |true=>
    rw[i]at c;obtain⟨O,K,B,C⟩:=PL I t F R G (show MU tb x o.op s.σ s.H Hu=some (g,j)from c);cases B;exact .inl ⟨by rw[J,i],g,j,p,C⟩
   |false=>
    rw[i]at c;cases c;exact .inr ⟨by rw[J,i],p⟩
  | un =>
   have d:=e.un_inv;cases m;refine .inr ⟨?_,p⟩;simp only[Region.wanted,r];rw[D];have:(match a.tmps[l]? with|some (.bool b)=>some b|_=>none)=(none:Option Bool):=by
    simp only[Act.eval,Array.getD_eq_getD_getElem?]at d;cases y:a.tmps[l]? with
    |none=>rfl
    |some z=>rw[y]at d;simp at d;rw[d];rfl
   rw[this];rfl
  |_=>cases m
theorem FZ {y:CH} (z:fP P tb) (f:rX P w0 y) {all:List Oper} {n:Nat} {k:GS->RS} {p:Nh} {Q:Exit->Act->World->Prop}:∀(l:List Oper) (s:GS) (c:eS) (a:Act) (w:World),l.all (Ht n)=true->kW c n s.σ a->gF w0 c s.H w->ER tb y all k l s=some p->
  (∀t b x q,k t=some p->c.le b->kW b n t.σ x->gF w0 b t.H q->Q .normal x q)->Sx.wpList P all.toArray Q l a w
 | [],s,c,a,w,_,F,R,h,hk=>hk s c a w h (eS.le_refl _) F R
 | o :: l, s, c, a, w, hl, F, R, h, hk => by
  simp only[List.all_cons,zA3]at hl;obtain⟨_,e,_⟩:=tE hl.1;rcases Yp z f hl.1 F R (show Js tb y all o (ER tb y all k l) s=some p from h)with⟨A,g,C,i,K⟩|⟨A,i⟩
  ·refine lQ A ?_;have d:∀b q v,c.le b->gF w0 b C q->Rl b g v->Sx.wpList P all.toArray Q l (a.put o.dst v) q:=λb q v r D m=>
    FZ z f l ⟨putD o.dst g s.σ,C⟩ b _ q hl.2 ((F.le r).putD e m) D i (λt u x B E G I J=>hk t u x B E (eS.le_trans r G) I J)
   rcases K with⟨_,_,_,rfl,v,m,j⟩|⟨_,_,rfl,v,_,_,_,_,_,m,j⟩|⟨_,_,rfl,v,m,j⟩|⟨_,j⟩
   ·simp only[Oper.wp,j w,Oper.upon];exact d c w v (eS.le_refl _) R m
   ·simp only[Oper.wp,j w Z,Oper.upon];exact d c w v (eS.le_refl _) R m
   ·simp only[Oper.wp,j,Oper.upon];exact d c w v (eS.le_refl _) R m
   ·exact JI (j _ d)
  ·unfold Sx.wpList;rw[if_neg (by rw[A];simp)];exact FZ z f l ⟨putD o.dst .un s.σ,s.H⟩ c _ w hl.2 (F.putD e .un) R i hk
theorem Gh {l:List Oper} {p:Op->Bool} (h:ED l p=true) {i j:Nat} {e f:Oper} (c:l[i]? = some e) (d:l[j]? = some f) (k:p e.op=true) (g:e_ f.op=true):before (oW l) i j=true∨before (oW l) j i=true:=by
 unfold ED at h;have a:=zA5.1 h i (zAo.2 (bH c));simp only[c,k,Bool.not_true,Bool.false_or]at a;have b:=zA5.1 a j (zAo.2 (bH d));simp only[d,g,Bool.not_true,Bool.false_or,zB2]at b;exact b
theorem OC {c:Type} {H:GH} {h v:Nat} {k:Option c} {a:c} (x:ZK H h v k=some a):H.ver h=some v∧k=some a:=by
 obtain⟨u,d,x⟩:=aF.1 (show ob (H.ver h) _=some a from x);cases b:Nat.beq u v with
 |false=>rw[b]at x;cases x
 |true=>rw[b]at x;rw[d,zA4 b];exact⟨rfl,x⟩
theorem Dy {m:List Nat} {i:Nat} {H:GH} {u:Unit}:∀{e:List (Nat×Option (Nat×Nat))},Jl m i H e=some u->∀p∈e,before m i p.1=false->∀a,p.2=some a->H.ver a.1=some a.2
 | [],h=>λp o=>by simp at o
 | p :: e, h => by
  have c:Bool.casesOn (motive:=λ_=>Option Unit) (before m i p.1) (pck H p.2 (Jl m i H e)) (Jl m i H e)=some u:=h;intro q d b a j;cases g:before m i p.1 with
  | false =>
   rw[g]at c;have k:(∀a,p.2=some a->H.ver a.1=some a.2)∧Jl m i H e=some u:=by
    cases f:p.2 with
    |none=>rw[f]at c;exact⟨λ_ h=>(by cases h),c⟩
    |some x=>rw[f]at c;obtain⟨l,n⟩:=OC (show ZK H x.1 x.2 _=some u from c);exact⟨λy r=>by cases r;exact l,n⟩
   rcases zAm.1 d with rfl|d
   ·exact k.1 a j
   ·exact Dy k.2 q d b a j
  |true=>
   rw[g]at c;rcases zAm.1 d with rfl|d
   ·rw[g]at b;cases b
   ·exact Dy c q d b a j
theorem Dz {m:List Nat} {i h v:Nat} {e:Option (Nat×Nat)}:∀{c:List (Nat×GH)},Jm m i h v c=some e->e=some (h,v)∧∀q∈c,before m i q.1=false->q.2.ver h=some v
 | [],x=>by cases x;exact⟨rfl,λp b=>by simp at b⟩
 | q :: c, x => by
  have d:Bool.casesOn (motive:=λ_=>Option (Option (Nat×Nat))) (before m i q.1) (ZK q.2 h v (Jm m i h v c)) (Jm m i h v c)=some e:=x;cases j:before m i q.1 with
  |false=>
   rw[j]at d;obtain⟨k,l⟩:=OC d;obtain⟨f,g⟩:=Dz l;refine⟨f,λp b a=> ?_⟩
   rcases zAm.1 b with rfl|b
   ·exact k
   ·exact g p b a
  |true=>
   rw[j]at d;obtain⟨f,g⟩:=Dz d;refine⟨f,λp b a=> ?_⟩
   rcases zAm.1 b with rfl|b
   ·rw[j]at a;cases a
   ·exact g p b a
end
end Go.Gx