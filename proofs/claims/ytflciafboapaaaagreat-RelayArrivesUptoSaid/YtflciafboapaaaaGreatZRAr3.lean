/- Models and proofs. Conditions: none. -/
import Derived.Test.YtflciafboapaaaaGreatZRAr2
import Derived.Lib.Strings
import Derived.Lib.AppendZeros
import Derived.Laws.CopyRow
import Derived.Laws.StructEq
set_option linter.unusedVariables false
set_option linter.unusedSimpArgs false
set_option maxHeartbeats 4000000
set_option maxRecDepth 20000
open Go.Proofs.Tryz
variable (U:Nat)
namespace Go.Proofs.YtflciafboapaaaaGreat
open Go.Sx
def pI (a:e_):V1 iU:=
 some (a.1,a.2)
def lO (a:Sd) (e:Int) (b:nD) (c:Int):V1 iU:=
 ck (0<=((at' a.1.2.1.2 a.2.2.1).length:Int)/\((at' a.1.2.1.2 a.2.2.1).length:Int)<=((24:Nat):Int)/\((at' a.1.2.1.2 a.2.2.1).length:Int)<=(b.2.length:Int)) (Option.bind (DT U ((at' a.2.2.2 e).1) (List.take (Int.toNat ((at' a.1.2.1.2 a.2.2.1).length:Int)) b.2)) λd=>(pI (d,c)))
def uE (b:Sd) (c:Int) (a:nD):V1 iU:=
 if((at' b.1.2.1.2 b.2.2.1).length:Int)=(0:Int)then(Option.bind (Fu U b.2.2.2 c) λd=>(lO U b c a (d)))else(lO U b c a (a.1))
def lP (b:Sd) (e:Int) (f:XZ->Int->Int->V1 iU) (a:Int×Int×aX) (c:(Int×Int×aX)->V1 iU):V1 iU:=
 if a.2.1<((at' b.1.2.1.2 b.2.2.1).length:Int)then(Option.bind (f ((((((b.1.1.1,b.1.1.2.1,b.1.1.2.2)),((b.1.2.1.1,b.1.2.1.2)),b.1.2.2.1,b.1.2.2.2)),b.2.1,b.2.2.1,b.2.2.2)) (wI .i64 (e+(1:Int))) a.2.1) λd=>(ck ((0<=a.2.1/\a.2.1<((24:Nat):Int))/\a.2.2.length=24) (c (d.2,(wI .i64 (a.2.1+(1:Int))),(List.set a.2.2 (Int.toNat a.2.1) d.1)))))else(uE U b e (a.1,a.2.2))
def eD (e:XZ->Int->Int->V1 iU) (U:Nat) (a:Sd) (b c:Int):V1 iU:=
 ck (0<=b/\b<(a.2.2.2.length:Int)) (if((at' a.2.2.2 b).1)<=(17:Int)then(Option.bind (nQ U ((((((a.1.1.1,a.1.1.2.1,a.1.1.2.2)),((a.1.2.1.1,a.1.2.1.2)),a.1.2.2.1,a.1.2.2.2)),a.2.1,a.2.2.1,a.2.2.2)) ((((at' a.2.2.2 b).1),((at' a.2.2.2 b).2))) c) λm=>(some (m,(wI .i64 (b+(1:Int))))))else(if((at' a.2.2.2 b).1)<=(19:Int)then(Option.bind (e ((((((a.1.1.1,a.1.1.2.1,a.1.1.2.2)),((a.1.2.1.1,a.1.2.1.2)),a.1.2.2.1,a.1.2.2.2)),a.2.1,a.2.2.1,a.2.2.2)) (wI .i64 (b+(1:Int))) c) λl=>(Option.bind (CK U ((at' a.2.2.2 b).1) l.1) λj=>(some (j,l.2))))else(if((at' a.2.2.2 b).1)<=(29:Int)then(ck (0<=a.2.2.1/\a.2.2.1<(a.1.2.1.2.length:Int)) (bE (lP U a b e) U ((0:Int),(0:Int),(List.replicate 24 (0:Int)))))else(if((at' a.2.2.2 b).1)<=(42:Int)then(Option.bind (e ((((((a.1.1.1,a.1.1.2.1,a.1.1.2.2)),((a.1.2.1.1,a.1.2.1.2)),a.1.2.2.1,a.1.2.2.2)),a.2.1,a.2.2.1,a.2.2.2)) (wI .i64 (b+(1:Int))) c) λf=>(Option.bind (e ((((((a.1.1.1,a.1.1.2.1,a.1.1.2.2)),((a.1.2.1.1,a.1.2.1.2)),a.1.2.2.1,a.1.2.2.2)),a.2.1,a.2.2.1,a.2.2.2)) f.2 c) λg=>(Option.bind (BK U ((at' a.2.2.2 b).1) f.1 g.1) λk=>(some (k,g.2)))))else(Option.bind (e ((((((a.1.1.1,a.1.1.2.1,a.1.1.2.2)),((a.1.2.1.1,a.1.2.1.2)),a.1.2.2.1,a.1.2.2.2)),a.2.1,a.2.2.1,a.2.2.2)) (wI .i64 (b+(1:Int))) c) λh=>(Option.bind (e ((((((a.1.1.1,a.1.1.2.1,a.1.1.2.2)),((a.1.2.1.1,a.1.2.1.2)),a.1.2.2.1,a.1.2.2.2)),a.2.1,a.2.2.1,a.2.2.2)) h.2 c) λi=>(Option.bind (e ((((((a.1.1.1,a.1.1.2.1,a.1.1.2.2)),((a.1.2.1.1,a.1.2.1.2)),a.1.2.2.1,a.1.2.2.2)),a.2.1,a.2.2.1,a.2.2.2)) i.2 c) λd=>(if h.1≠(0:Int)then(some (i.1,d.2))else(some (d.1,d.2))))))))))
def cF:Nat->XZ->Int->Int->V1 iU
 |0,_,_,_=>none
 |U+1,p0,p1,p2=>eD (cF U) U p0 p1 p2
theorem DN:aU prog 209:=call209
theorem FE (rc:XZ->Int->Int->Option iU) (U:Nat) (p:∀{a:Sd} {m:Int} {O:Int} (b:Nat) (f:Nat) (q:V0) (s:V0) (t:V0) (u:V0) (C:kI) (v:V0) (D:mC) (w:V0) (g:mC) (d:V0) (r:e_),rc a m O=some r->aZ prog 209 #[vP b,vI (m),vI (O)] [bG b [vP f,w,vI (a.2.2.1),d] 237,bG f [vS (a.1.1.1),q,s,t,u,vI (a.1.2.2.1),v] 206,Sl aG q a.1.1.2.1,Sl aF s a.1.1.2.2,Sl aK t a.1.2.1.1,S2 aR u C a.1.2.1.2,S2 aK v D a.1.2.2.2,S2 aK w g a.2.1,Sl aR d a.2.2.2] (λx:Unit=>Value.tuple #[vI (r.1),vI (r.2)]) (λx l=>l) (λ_ l=>l)) {a:Sd} {m O:Int} (b f:Nat) (q s t u:V0) (C:kI) (v:V0) (D:mC) (w:V0) (g:mC) (d:V0) (r:e_) (h:eD rc U a m O=some r):
  aZ prog 209 #[vP b,vI (m),vI (O)] [bG b [vP f,w,vI (a.2.2.1),d] 237,bG f [vS (a.1.1.1),q,s,t,u,vI (a.1.2.2.1),v] 206,Sl aG q a.1.1.2.1,Sl aF s a.1.1.2.2,Sl aK t a.1.2.1.1,S2 aR u C a.1.2.1.2,S2 aK v D a.1.2.2.2,S2 aK w g a.2.1,Sl aR d a.2.2.2] (λx:Unit=>Value.tuple #[vI (r.1),vI (r.2)]) (λx l=>l) (λ_ l=>l):=by
 let P:=(List.replicate 24 (0:Int))
 let G:=vI ((at' a.2.2.2 m).1);let E:=((at' a.1.2.1.2 a.2.2.1).length:Int)
 refine aZ.of func209 Z ntmps209 Z λc=>?_;refine aT<|aC Z<|aC Z<|aO<|aT<|aA Z<|aB (bR Z) Z<|bZ Z<|aB (dG Z (cP Z) Z Z Z) Z<|aA Z<|dQ h λj1 h=>aB (bD Z Z (aH.fact 8 Z) Z Z j1) Z<|aB (fG (cs:=[G,vI ((at' a.2.2.2 m).2)]) Z (aH.fact 8 Z) cA Z Z Z Z j1) Z<|aI (aN.alloc (cs:=MN) Z Z) Z λb2=>bP 0 (vs:=[vI ((at' a.2.2.2 m).1),vI ((at' a.2.2.2 m).2)]) Z Z Z Z Z Z<|aO<|aL<|aQ<|aT<|bZ Z<|dO 0 Z<|aB (Jj Z Z) Z<|aC Z<|aO ?_;refine gC h Z (λh=>?_) λh=>?_
 .refine aT<|aA Z<|cL 0 Z<|aA Z<|fF h λr4 w5 h=>aI (zBj aeD (H_ U b f q s t u C v D w g d r4 w5) Z (jJ [0,1,2,3,4,5,6,7,8] Z)) Z λx6=>aA Z<|cH Z<|aC Z<|aC Z<|aO<|aV<|bU<|aM ?_;cases h;exact pH () Z Z (RV.tmp Z) (RV.tmp Z) .nil aD.nil
 refine aT<|bZ Z<|dO 0 Z<|aB (Jj Z Z) Z<|aC Z<|aO ?_;refine gC h Z (λh=>?_) λh=>?_
 .refine aT<|aA Z<|aA Z<|cH Z<|aA Z<|fF h λr8 w9 h=>aI (zBj DN (p b f q s t u C v D w g d r8 w9) Z (jJ [0,1,2,3,4,5,6,7,8] Z)) Z λam=>aA Z<|lV Z<|lV Z<|aC Z<|aC Z<|aO<|aT<|bZ Z<|dO 0 Z<|aA Z<|fF h λS ab h=>aI (zBj aeE (RO U S ab) Z .nil) Z λan=>aA Z<|aC Z<|aC Z<|aO<|aV<|bU<|aM ?_;cases h;exact pH () Z Z (RV.tmp Z) (RV.tmp Z) .nil aD.nil
 refine aT<|bZ Z<|dO 0 Z<|aB (Jj Z Z) Z<|aC Z<|aO ?_;refine gC h Z (λh=>?_) λh=>?_
 .refine aT<|aA Z<|bZ Z<|dO 0 Z<|aA Z<|uS (A:=e_) (B:=Unit) (vs:=[vP b,vI ((at' a.2.2.2 m).1),vI (m)]) (λn=>pI n=some r) (λn I=>Value.tuple #[vI (n.1),vI (n.2)]) (λn I=>[]) (λn I=>[bG b [vP f,w,vI (a.2.2.1),d] 237,bG f [vS (a.1.1.1),q,s,t,u,vI (a.1.2.2.1),v] 206,Sl aG q a.1.1.2.1,Sl aF s a.1.1.2.2,Sl aK t a.1.2.1.1,S2 aR u C a.1.2.1.2,S2 aK v D a.1.2.2.2,S2 aK w g a.2.1,Sl aR d a.2.2.2]) (pT.fn (show aU prog 237 from call237) Z) func237 Z ntmps237 Z Z ?_ ?_
  .refine aT<|aC Z<|aC Z<|aO<|aT ?_;refine aI (aN.alloc (cs:=cellsOf cY P) Z (by kernel_rfl)) Z λo=>?_;refine aO<|aL ?_;refine Bf [0,1,3,7,15,31,63,127,0,256,768,1792,4095,8191,16383,32767] 12 mixedOrders ?_;refine bM Z<|jS Z (bR Z)<|cT Z<|aY Z .nil (iH 0 Z) (dG Z (cP Z) Z Z Z) aJ.z<|jS Z (bR Z)<|cT Z<|cT Z<|aY Z .nil (iH 1 Z) (dG Z (cP Z) Z Z Z) aJ.z<|bM Z<|jS Z (bR Z)<|cT Z<|aY Z .nil (iH 0 Z) (dG Z (cP Z) Z Z Z) aJ.z<|bS 12 Z Z<|dQ h λF h=>aB (bX Z Z (Ma Z) Z Z F) Z<|aB (cB Z (Ma Z) Z Z F) Z<|aB (eW Z (zBk (Ma Z) F.1 F.2) Z) Z<|aC Z<|aO<|aL<|fV (λk=>uE U a m k=some r) (λk J=>[(0,vP b),(1,G),(2,vI (m)),(7,vI (k.1)),(8,vP o),(9,vI E)]) (λk J=>[bG o (cellsOf cY k.2) 263]) ?_ ?_
   .refine aT<|aA Z<|aA Z<|aO<|aQ<|fT (lP U a m rc) (λj L=>[(0,vP b),(1,G),(2,vI (m)),(7,vI (j.1)),(8,vP o),(9,vI E),(26,vI E),(27,vI (j.2.1))]) (λj L=>[bG o (cellsOf cY j.2.2) 263]) ((0:Int),(0:Int),P) () h SF (aS.ix [0] Z Z) ?_;intro al j L h;refine aT<|cN Z<|aO<|aL ?_;refine gC h Z (λh=>?_) λh=>?_
    .refine cU<|aL<|aQ<|aT<|aA Z<|aC Z<|aO<|aP<|aA Z<|aA Z<|aA Z<|cH Z<|aA Z<|fF h λH ae h=>aI (zBj DN (p b f q s t u C v D w g d H ae) Z (jJ [0,1,2,3,4,5,6,7,8] Z)) Z λaq=>aA Z<|lV Z<|lV Z<|dQ h λN h=>aB (qS Z Z Z Z Z N.1) Z<|MU 0 (e:=cY) H.1 N Z Z Z Z Z Z Z<|aC Z<|fC<|mF<|aP<|cH Z<|aA Z<|aO ?_;exact Ci (H.2,(wI .i64 (j.2.1+(1:Int))),(List.set j.2.2 (Int.toNat j.2.1) H.1)) () h SF Z
    refine fH ?_;exact jV (j.1,j.2.2) () h SF Z
   intro k J h;refine aL<|fV (λy=>lO U a m k y=some r) (λy K=>[(1,G),(7,vI (y)),(8,vP o),(9,vI E)]) (λy K=>[bG o (cellsOf cY k.2) 263]) ?_ ?_
   .refine aT<|aA Z<|d_ Z<|aO ?_;refine gC h Z (λh=>?_) λh=>?_
    .refine aP<|aA Z<|aB (bR Z) Z<|bZ Z<|aB (dG Z (cP Z) Z Z Z) Z<|aA Z<|fF h λR ad h=>aI (zBj aeC (Wk U d R ad) Z (jJ [8] Z)) Z λap=>aC Z<|aO ?_;exact jV (R) () h SF Z
    refine cU ?_;exact jV (k.1) () h SF Z
   intro y K h;refine aT<|aA Z<|aA Z<|dQ h λM h=>aB (Vg Z Z Z Z M) Z<|fF h λQ ac h=>aI (zBj aeI (Ur U (Value.slice (some ⟨o,0,none⟩) (Int.toNat E) 24) Q ac) Z (aD.cons (aad (i:=0) Z eP M (by decide)) .nil)) Z λao=>?_;refine aA Z<|aC Z<|aC Z<|aO<|aV ?_;exact iX (Q,y) () h (.inl Z) (DG.r2 Z (RV.tmp Z) (RV.tmp Z)) Z .nil (aD.refl _ _)
  intro n I h;unfold pI at h;refine lV Z<|lV Z<|aC Z<|aC Z<|aO<|aV<|bU<|aM ?_;cases h;exact pH () Z Z (RV.tmp Z) (RV.tmp Z) (aS.refl _) aD.nil
 refine aT<|bZ Z<|dO 0 Z<|aB (Jj Z Z) Z<|aC Z<|aO ?_;refine gC h Z (λh=>?_) λh=>?_
 .refine aT<|aA Z<|aA Z<|cH Z<|aA Z<|fF h λT af h=>aI (zBj DN (p b f q s t u C v D w g d T af) Z (jJ [0,1,2,3,4,5,6,7,8] Z)) Z λar=>aA Z<|lV Z<|lV Z<|aC Z<|aC Z<|aO<|aT<|aA Z<|aA Z<|aA Z<|fF h λV ag h=>aI (zBj DN (p b f q s t u C v D w g d V ag) Z (jJ [0,1,2,3,4,5,6,7,8] Z)) Z λau=>aA Z<|lV Z<|lV Z<|aC Z<|aC Z<|aO<|aT<|bZ Z<|dO 0 Z<|aA Z<|aA Z<|fF h λW ah h=>aI (zBj aeF (OP U W ah) Z .nil) Z λav=>aA Z<|aC Z<|aC Z<|aO<|aV<|bU<|aM ?_;cases h;exact pH () Z Z (RV.tmp Z) (RV.tmp Z) .nil aD.nil
 refine eK<|mF<|aT<|aA Z<|aA Z<|cH Z<|aA Z<|fF h λX ai h=>aI (zBj DN (p b f q s t u C v D w g d X ai) Z (jJ [0,1,2,3,4,5,6,7,8] Z)) Z λaw=>aA Z<|lV Z<|lV Z<|aC Z<|aC Z<|aO<|aT<|aA Z<|aA Z<|aA Z<|fF h λY aj h=>aI (zBj DN (p b f q s t u C v D w g d Y aj) Z (jJ [0,1,2,3,4,5,6,7,8] Z)) Z λax=>aA Z<|lV Z<|lV Z<|aC Z<|aC Z<|aO<|aT<|aA Z<|aA Z<|aA Z<|fF h λaa ak h=>aI (zBj DN (p b f q s t u C v D w g d aa ak) Z (jJ [0,1,2,3,4,5,6,7,8] Z)) Z λay=>aA Z<|lV Z<|lV Z<|aC Z<|aC Z<|aO<|aL<|aT<|aA Z<|tT Z<|aO ?_;refine gC h Z (λh=>?_) λh=>?_
 .refine aT<|aA Z<|aA Z<|aC Z<|aC Z<|aO<|aV<|aM ?_;cases h;exact pH () Z Z (RV.tmp Z) (RV.tmp Z) .nil aD.nil
 refine cU<|aT<|aA Z<|aA Z<|aC Z<|aC Z<|aO<|aV ?_;cases h;exact pH () Z Z (RV.tmp Z) (RV.tmp Z) .nil aD.nil
theorem GQ:∀{a:Sd} {p:Int} {q:Int} (b:Nat) (c:Nat) (f:V0) (g:V0) (i:V0) (j:V0) (n:kI) (k:V0) (o:mC) (m:V0) (e:mC) (d:V0) (r:e_),cF U a p q=some r->
  aZ prog 209 #[vP b,vI (p),vI (q)] [bG b [vP c,m,vI (a.2.2.1),d] 237,bG c [vS (a.1.1.1),f,g,i,j,vI (a.1.2.2.1),k] 206,Sl aG f a.1.1.2.1,Sl aF g a.1.1.2.2,Sl aK i a.1.2.1.1,S2 aR j n a.1.2.1.2,S2 aK k o a.1.2.2.2,S2 aK m e a.2.1,Sl aR d a.2.2.2] (λx:Unit=>Value.tuple #[vI (r.1),vI (r.2)]) (λx l=>l) (λ_ l=>l):=by
 induction U with
 |zero=>intros;rename_i h;cases h
 |succ U s=>exact λb c f g i j n k o m e d r h=>FE (cF U) U s b c f g i j n k o m e d r h
end Go.Proofs.YtflciafboapaaaaGreat
namespace Go.Gx
open Go Go.Sx
noncomputable section
inductive GV where
 |int (k:IntKind) (n:Int)
 |bool (b:Bool)
 |str (n len:Nat)
 |ptr (h off:Nat)
 |pnil
 |sl (h off len sz:Nat)
 |snil
 |map (h:Nat)
 |fn (f:FuncId) (first caps:List GV)
 |fnil
 |inil
 |agg (cs:List GV)
 |tup (vs:List GV)
 |un
 |bad
 |opn (h:Nat)
inductive GO where
 |cells (cs:List GV)
 |mp (es:List (GV×GV))
inductive Tr (α:Type) where
 |lf
 |nd (a:Option α) (l r:Tr α)
def ob {b a:Type} (o:V1 b) (f:b->V1 a):V1 a:=Option.casesOn (motive:=λ_=>V1 a) o none f
def Tr.get {b:Type} (t:Tr b):Nat->V1 b:=Tr.rec (motive:=λ_=>Nat->V1 b) (λ_=>none) (λa _ _ c d n=>Bool.casesOn (motive:=λ_=>V1 b) (Nat.beq n 0) (Bool.casesOn (motive:=λ_=>V1 b) (Nat.beq (Nat.mod n 2) 1) (d (Nat.sub (Nat.div n 2) 1)) (c (Nat.div n 2))) a) t
def EY {a:Type} (x:V1 a) (f:Nat):Nat->Tr a:=Nat.rec (motive:=λ_=>Nat->Tr a) (λ_=>.lf) (λ_ b n=>bif Nat.beq n 0 then .nd x .lf .lf else bif Nat.beq (Nat.mod n 2) 1 then .nd none (b (Nat.div n 2)) .lf else .nd none .lf (b (Nat.sub (Nat.div n 2) 1))) f
def Tr.set {b:Type} (x:V1 b) (t:Tr b):Nat->Tr b:=Tr.rec (motive:=λ_=>Nat->Tr b) (λn=>EY x (Nat.succ n) n) (λa l r c d n=>Bool.casesOn (motive:=λ_=>Tr b) (Nat.beq n 0) (Bool.casesOn (motive:=λ_=>Tr b) (Nat.beq (Nat.mod n 2) 1) (.nd a l (d (Nat.sub (Nat.div n 2) 1))) (.nd a (c (Nat.div n 2)) r)) (.nd x l r)) t
def Jg {a R:Type} (x:V1 a) (f:Nat):Nat->(Tr a->R)->R:=Nat.rec (motive:=λ_=>Nat->(Tr a->R)->R) (λ_ k=>k .lf) (λ_ b n k=>Bool.casesOn (motive:=λ_=>R) (Nat.beq n 0) (Bool.casesOn (motive:=λ_=>R) (Nat.beq (Nat.mod n 2) 1) (b (Nat.sub (Nat.div n 2) 1) λt=>k (.nd none .lf t)) (b (Nat.div n 2) λt=>k (.nd none t .lf))) (k (.nd x .lf .lf))) f
def Tr.setK {b R:Type} (x:V1 b) (t:Tr b):Nat->(Tr b->R)->R:=Tr.rec (motive:=λ_=>Nat->(Tr b->R)->R) (λn k=>Jg x (Nat.succ n) n k) (λa l r c d n k=>Bool.casesOn (motive:=λ_=>R) (Nat.beq n 0) (Bool.casesOn (motive:=λ_=>R) (Nat.beq (Nat.mod n 2) 1) (d (Nat.sub (Nat.div n 2) 1) λt=>k (.nd a l t)) (c (Nat.div n 2) λt=>k (.nd a t r))) (k (.nd x l r))) t
def sn {a:Type} (n:Nat) (f:Nat->a):a:=Nat.rec (motive:=λ_=>a) (f 0) (λm _=>f (Nat.succ m)) n
def fi {b:Type} (z:Int) (f:Int->b):b:=Int.casesOn (motive:=λ_=>b) z (λa=>sn a λa=>f (.ofNat a)) (λa=>sn a λa=>f (.negSucc a))
def fb (b:V4):V1 GV:=Bool.casesOn (motive:=λ_=>V1 GV) b (some (.bool false)) (some (.bool true))
structure GH where
 n:Nat
 t:Tr (Nat×GO)
def GH.get (H:GH) (h:Nat):V1 GO:=ob (H.t.get h) λp=>some p.2
def GH.ver (H:GH) (h:Nat):V1 Nat:=ob (H.t.get h) λp=>some p.1
def GH.set (H:GH) (h:Nat) (o:GO):GH:=⟨Nat.succ H.n,H.t.set (some (H.n,o)) h⟩
def GH.del (H:GH) (h:Nat):GH:=⟨H.n,H.t.set none h⟩
def GH.newK {a:Type} (H:GH) (o:GO) (f:Nat->GH->a):a:=sn H.n λn=>H.t.setK (some (n,o)) n λt=>sn (Nat.succ n) λm=>f n ⟨m,t⟩
def GH.setK {a:Type} (H:GH) (h:Nat) (o:GO) (f:GH->a):a:=sn H.n λn=>H.t.setK (some (n,o)) h λt=>sn (Nat.succ n) λm=>f ⟨m,t⟩
def GH.delK {a:Type} (H:GH) (h:Nat) (f:GH->a):a:=H.t.setK none h λt=>f ⟨H.n,t⟩
def agP (o:GO):V1 (V6 GV):=GO.casesOn (motive:=λ_=>V1 (V6 GV)) o (λa=>some a) (λ_=>none)
def GO.asM (o:GO):V1 (V6 (GV×GV)):=GO.casesOn (motive:=λ_=>V1 (V6 (GV×GV))) o (λ_=>none) (λa=>some a)
def GH.cells (H:GH) (h:Nat):V1 (V6 GV):=ob (H.get h) agP
abbrev GF:=V6 (Nat×GV)
def HT (σ:GF) (t:Nat):V1 GV:=List.rec (motive:=λ_=>V1 GV) none (λp _ a=>Bool.casesOn (motive:=λ_=>V1 GV) (Nat.beq t p.1) a (some p.2)) σ
def ltI (a b:Int):V4:=Int.casesOn (motive:=λ_=>V4) a (λa=>Int.casesOn (motive:=λ_=>V4) b (λb=>Nat.blt a b) (λ_=>false)) (λa=>Int.casesOn (motive:=λ_=>V4) b (λ_=>true) (λb=>Nat.blt b a))
def eqI (a b:Int):V4:=Int.casesOn (motive:=λ_=>V4) a (λa=>Int.casesOn (motive:=λ_=>V4) b (λb=>Nat.beq a b) (λ_=>false)) (λa=>Int.casesOn (motive:=λ_=>V4) b (λ_=>false) (λb=>Nat.beq a b))
def asN (a:Int):V1 Nat:=Int.casesOn (motive:=λ_=>V1 Nat) a (λa=>some a) (λ_=>none)
def UM (a b:Nat×Nat):V4:=bif Nat.beq a.2 b.2 then Nat.beq a.1 b.1 else false
def Xo (a b:V4):V4:=Bool.casesOn (motive:=λ_=>V4) a (Bool.casesOn (motive:=λ_=>V4) b true false) b
def Kh {a:Type} (l:V6 a):Nat->V1 a:=List.rec (motive:=λ_=>Nat->V1 a) (λ_=>none) (λx _ b n=>Nat.casesOn (motive:=λ_=>V1 a) n (some x) b) l
def afq {a:Type} (v:a) (l:V6 a):Nat->V1 (V6 a):=List.rec (motive:=λ_=>Nat->V1 (V6 a)) (λ_=>none) (λx r b n=>Nat.casesOn (motive:=λ_=>V1 (V6 a)) n (some (v::r)) (λn=>ob (b n) λc=>some (x::c))) l
def Jw (e:V6 GV):Nat->V6 GV->V1 (V6 GV):=List.rec (motive:=λ_=>Nat->V6 GV->V1 (V6 GV)) (λ_ a=>some a) (λv _ c o a=>ob (afq v a o) λb=>sn (Nat.succ o) λd=>c d b) e
def tk {a:Type} (l:V6 a):Nat->V1 (V6 a):=List.rec (motive:=λ_=>Nat->V1 (V6 a)) (λn=>Nat.casesOn (motive:=λ_=>V1 (V6 a)) n (some []) (λ_=>none)) (λx _ b n=>Nat.casesOn (motive:=λ_=>V1 (V6 a)) n (some []) (λn=>ob (b n) λr=>some (x::r))) l
def dp {a:Type} (l:V6 a):Nat->V1 (V6 a):=List.rec (motive:=λ_=>Nat->V1 (V6 a)) (λn=>Nat.casesOn (motive:=λ_=>V1 (V6 a)) n (some []) (λ_=>none)) (λx r b n=>Nat.casesOn (motive:=λ_=>V1 (V6 a)) n (some (x::r)) b) l
def slc {a:Type} (l:V6 a) (o n:Nat):V1 (V6 a):=ob (dp l o) λr=>tk r n
def mZ (l:V6 UInt8):Nat:=List.rec (motive:=λ_=>Nat) 0 (λb _ a=>Nat.add b.toNat (Nat.mul 256 a)) l
def bT (s:ByteArray):V6 UInt8:=s.data.toList
def GV.asI (v:GV):V1 (IntKind×Int):=GV.casesOn (motive_1:=λ_=>V1 (IntKind×Int)) v (λa b=>some (a,b)) (λ_=>none) (λ_ _=>none) (λ_ _=>none) none (λ_ _ _ _=>none) none (λ_=>none) (λ_ _ _=>none) none none (λ_=>none) (λ_=>none) none none (λ_=>none)
def GV.asB (v:GV):V1 V4:=GV.casesOn (motive_1:=λ_=>V1 V4) v (λ_ _=>none) (λa=>some a) (λ_ _=>none) (λ_ _=>none) none (λ_ _ _ _=>none) none (λ_=>none) (λ_ _ _=>none) none none (λ_=>none) (λ_=>none) none none (λ_=>none)
def GV.asP (v:GV):V1 (Nat×Nat):=GV.casesOn (motive_1:=λ_=>V1 (Nat×Nat)) v (λ_ _=>none) (λ_=>none) (λ_ _=>none) (λa b=>some (a,b)) none (λ_ _ _ _=>none) none (λ_=>none) (λ_ _ _=>none) none none (λ_=>none) (λ_=>none) none none (λ_=>none)
def GV.asS (v:GV):V1 (Nat×Nat×Nat×Nat):=GV.casesOn (motive_1:=λ_=>V1 (Nat×Nat×Nat×Nat)) v (λ_ _=>none) (λ_=>none) (λ_ _=>none) (λ_ _=>none) none (λa b c d=>some (a,b,c,d)) none (λ_=>none) (λ_ _ _=>none) none none (λ_=>none) (λ_=>none) none none (λ_=>none)
def GV.asF (v:GV):V1 (Nat×V6 GV×V6 GV):=GV.casesOn (motive_1:=λ_=>V1 (Nat×V6 GV×V6 GV)) v (λ_ _=>none) (λ_=>none) (λ_ _=>none) (λ_ _=>none) none (λ_ _ _ _=>none) none (λ_=>none) (λa b c=>some (a,b,c)) none none (λ_=>none) (λ_=>none) none none (λ_=>none)
def GV.asT (v:GV):V1 (V6 GV):=GV.casesOn (motive_1:=λ_=>V1 (V6 GV)) v (λ_ _=>none) (λ_=>none) (λ_ _=>none) (λ_ _=>none) none (λ_ _ _ _=>none) none (λ_=>none) (λ_ _ _=>none) none none (λ_=>none) (λa=>some a) none none (λ_=>none)
def GV.asStr (v:GV):V1 (Nat×Nat):=GV.casesOn (motive_1:=λ_=>V1 (Nat×Nat)) v (λ_ _=>none) (λ_=>none) (λa b=>some (a,b)) (λ_ _=>none) none (λ_ _ _ _=>none) none (λ_=>none) (λ_ _ _=>none) none none (λ_=>none) (λ_=>none) none none (λ_=>none)
def GV.asM (v:GV):V1 (Nat):=GV.casesOn (motive_1:=λ_=>V1 (Nat)) v (λ_ _=>none) (λ_=>none) (λ_ _=>none) (λ_ _=>none) none (λ_ _ _ _=>none) none (λa=>some a) (λ_ _ _=>none) none none (λ_=>none) (λ_=>none) none none (λ_=>none)
def GV.asA (v:GV):V1 (V6 GV):=GV.casesOn (motive_1:=λ_=>V1 (V6 GV)) v (λ_ _=>none) (λ_=>none) (λ_ _=>none) (λ_ _=>none) none (λ_ _ _ _=>none) none (λ_=>none) (λ_ _ _=>none) none none (λa=>some a) (λ_=>none) none none (λ_=>none)
def GV.cells (v:GV):V1 (V6 GV):=GV.casesOn (motive_1:=λ_=>V1 (V6 GV)) v (λa b=>some [GV.int a b]) (λa=>some [GV.bool a]) (λa b=>some [GV.str a b]) (λa b=>some [GV.ptr a b]) (some [GV.pnil]) (λa b c d=>some [GV.sl a b c d]) (some [GV.snil]) (λa=>some [GV.map a]) (λa b c=>some [GV.fn a b c]) (some [GV.fnil]) (some [GV.inil]) (λa=>some a) (λa=>none) (none) (none) (λa=>none)
def GV.isSnil (v:GV):V4:=GV.casesOn (motive_1:=λ_=>V4) v (λ_ _=>false) (λ_=>false) (λ_ _=>false) (λ_ _=>false) (false) (λ_ _ _ _=>false) (true) (λ_=>false) (λ_ _ _=>false) (false) (false) (λ_=>false) (λ_=>false) (false) (false) (λ_=>false)
def GV.isInil (v:GV):V4:=GV.casesOn (motive_1:=λ_=>V4) v (λ_ _=>false) (λ_=>false) (λ_ _=>false) (λ_ _=>false) (false) (λ_ _ _ _=>false) (false) (λ_=>false) (λ_ _ _=>false) (false) (true) (λ_=>false) (λ_=>false) (false) (false) (λ_=>false)
def GV.nilck (v:GV):V1 GV:=GV.casesOn (motive_1:=λ_=>V1 GV) v (λa b=>none) (λa=>none) (λa b=>none) (λa b=>some (GV.ptr a b)) (none) (λa b c d=>none) (none) (λa=>none) (λa b c=>some (GV.fn a b c)) (none) (none) (λa=>none) (λa=>none) (none) (none) (λa=>none)
def tdE (d:TypeDesc):V4:=TypeDesc.casesOn (motive:=λ_=>V4) d false false (λ_=>false) (λ_=>false) (λ_=>false) false false (λ_=>false) (λ_=>false) (λ_ _=>false) (λ_ _=>false) (λ_ _=>false) (λ_=>false) (λ_ _ _=>false) (λa=>Nat.beq (Array.size a) 0) (λ_=>false) (λ_ _=>false)
def tdS (d:TypeDesc):V1 V9:=TypeDesc.casesOn (motive:=λ_=>V1 V9) d none none (λ_=>none) (λ_=>none) (λ_=>none) none none (λ_=>none) (λa=>some a) (λ_ _=>none) (λ_ _=>none) (λ_ _=>none) (λ_=>none) (λ_ _ _=>none) (λ_=>none) (λ_=>none) (λ_ _=>none)
def tdA (d:TypeDesc):V1 (Nat×V9):=TypeDesc.casesOn (motive:=λ_=>V1 (Nat×V9)) d none none (λ_=>none) (λ_=>none) (λ_=>none) none none (λ_=>none) (λ_=>none) (λa b=>some (a,b)) (λ_ _=>none) (λ_ _=>none) (λ_=>none) (λ_ _ _=>none) (λ_=>none) (λ_=>none) (λ_ _=>none)
def tdF (d:TypeDesc):V1 (Array Field):=TypeDesc.casesOn (motive:=λ_=>V1 (Array Field)) d none none (λ_=>none) (λ_=>none) (λ_=>none) none none (λ_=>none) (λ_=>none) (λ_ _=>none) (λ_ _=>none) (λ_ _=>none) (λa=>some a) (λ_ _ _=>none) (λ_=>none) (λ_=>none) (λ_ _=>none)
def tdI (d:TypeDesc):V1 IntKind:=TypeDesc.casesOn (motive:=λ_=>V1 IntKind) d none none (λa=>some a) (λ_=>none) (λ_=>none) none none (λ_=>none) (λ_=>none) (λ_ _=>none) (λ_ _=>none) (λ_ _=>none) (λ_=>none) (λ_ _ _=>none) (λ_=>none) (λ_=>none) (λ_ _=>none)
def LU (d:TypeDesc):V4:=TypeDesc.casesOn (motive:=λ_=>V4) d false false (λ_=>false) (λ_=>false) (λ_=>false) (true) false (λ_=>false) (λ_=>false) (λ_ _=>false) (λ_ _=>false) (λ_ _=>false) (λ_=>false) (λ_ _ _=>false) (λ_=>false) (λ_=>false) (λ_ _=>false)
def tdB (d:TypeDesc):V4:=TypeDesc.casesOn (motive:=λ_=>V4) d false (true) (λ_=>false) (λ_=>false) (λ_=>false) false false (λ_=>false) (λ_=>false) (λ_ _=>false) (λ_ _=>false) (λ_ _=>false) (λ_=>false) (λ_ _ _=>false) (λ_=>false) (λ_=>false) (λ_ _=>false)
def tdM (d:TypeDesc):V1 (V9×V9):=TypeDesc.casesOn (motive:=λ_=>V1 (V9×V9)) d none none (λ_=>none) (λ_=>none) (λ_=>none) none none (λ_=>none) (λ_=>none) (λ_ _=>none) (λa b=>some (a,b)) (λ_ _=>none) (λ_=>none) (λ_ _ _=>none) (λ_=>none) (λ_=>none) (λ_ _=>none)
def Zk:V0->V1 GV
 | .int k n=>some (.int k n)
 | .bool b=>some (.bool b)
 | .slice none 0 0=>some .snil
 | .pointer none=>some .pnil
 | .nilFunc=>some .fnil
 | .nilIface=>some .inil
 | .string s=>sn (mZ (bT s)) λn=>sn (bT s).length λl=>some (.str n l)
 |_=>none
def afz:gE->V1 (V6 GV)
 | []=>some []
 |v::vs=>ob (Zk v) λx=>ob (afz vs) λa=>some (x::a)
def ofV:V0->V1 GV
 | .agg cs=>ob (afz cs.toList) λa=>some (.agg a)
 |v=>Zk v
def La (s:Sem V0):V1 GV:=match s with
 | .pure v=>Zk v
 |_=>none
def abC (z:Int):V4:=Int.casesOn (motive:=λ_=>V4) z (λa=>Nat.blt a 9223372036854775808) (λa=>Nat.blt a 9223372036854775808)
def agt (k:IntKind):V4:=IntKind.casesOn (motive:=λ_=>V4) k false false false true false false false false
def gw (k:IntKind) (z:Int):V1 GV:=fi z λz=>bif agt k then(bif abC z then some (.int k z)else none)else fi (k.wrap z) λz=>some (.int k z)
def eqK (a b:IntKind):V4:=decide (a=b)
def ajy (c:BinOp) (k:IntKind) (a b:Int):V1 GV:=BinOp.casesOn (motive:=λ_=>V1 GV) c (gw k (a+b)) (gw k (a - b)) (La (binOp .mul 0 (.int k a) (.int k b))) (La (binOp .quo 0 (.int k a) (.int k b))) (La (binOp .rem 0 (.int k a) (.int k b))) (La (binOp .and 0 (.int k a) (.int k b))) (La (binOp .or 0 (.int k a) (.int k b))) (La (binOp .xor 0 (.int k a) (.int k b))) (La (binOp .shl 0 (.int k a) (.int k b))) (La (binOp .shr 0 (.int k a) (.int k b))) (La (binOp .andNot 0 (.int k a) (.int k b))) (fb (eqI a b)) (fb (!eqI a b)) (fb (ltI a b)) (fb (!ltI b a)) (fb (ltI b a)) (fb (!ltI a b))
def MF (a:BinOp):V4:=BinOp.casesOn (motive:=λ_=>V4) a false false false false false false false false true true false false false false false false false
def ahP (a b:Nat×Nat):V1 GV:=bif Nat.blt (Nat.add a.2 b.2) 16777216 then sn (Nat.add a.1 (Nat.mul (Nat.pow 2 (Nat.mul 8 a.2)) b.1)) λn=>sn (Nat.add a.2 b.2) λl=>some (.str n l)else none
def aml (c:BinOp) (a b:Nat×Nat):V1 GV:=BinOp.casesOn (motive:=λ_=>V1 GV) c (ahP a b) none none none none none none none none none none (fb (UM a b)) (fb (!UM a b)) none none none none
def amk (a:BinOp):V1 GV:=BinOp.casesOn (motive:=λ_=>V1 GV) a none none none none none none none none none none none (some (.bool true)) (some (.bool false)) none none none none
def aef (c:BinOp) (a b:V4):V1 GV:=BinOp.casesOn (motive:=λ_=>V1 GV) c none none none none none none none none none none none (fb (Xo a b)) (fb (!Xo a b)) none none none none
def lH (a:GF) (o:V3):V1 GV:=Operand.casesOn (motive:=λ_=>V1 GV) o (λt=>HT a t) ofV (λ_=>none) (λf=>some (.fn f [] []))
def IL (c:GF) (l:V6 V3):V1 (V6 GV):=List.rec (motive:=λ_=>V1 (V6 GV)) (some []) (λx _ a=>ob (lH c x) λv=>ob a λb=>some (v::b)) l
def xU (c:GF) (l:V6 (Nat×V3)):V1 (V6 (Nat×GV)):=List.rec (motive:=λ_=>V1 (V6 (Nat×GV))) (some []) (λp _ a=>ob (lH c p.2) λv=>ob a λb=>some ((p.1,v)::b)) l
abbrev TB:=Nat->V1 Ty
def Cj (a:TB) (T:V9):V1 (V9×Ty):=ob (a T) λt=>ob (tdS t.desc) λe=>ob (a e) λb=>some (e,b)
def RJ (b:TB) (l:V6 Field):V1 (V6 (Nat×Nat)):=List.rec (motive:=λ_=>V1 (V6 (Nat×Nat))) (some []) (λf _ a=>ob (b f.type) λt=>ob a λr=>some ((f.offset,t.size)::r)) l
def tI (b:TB) (T:V9):V1 (V6 Field):=ob (b T) λt=>ob (tdF t.desc) λa=>some a.toList
def TR (a:TB) (T:V9):V1 (V6 (Nat×Nat)):=ob (tI a T) λb=>RJ a b
abbrev OR:=V1 (GV×GH)
def pG (c a b:GV):V1 GV:=ob c.asB λq=>Bool.casesOn (motive:=λ_=>V1 GV) q (some b) (some a)
def ae_ (v:GV):V1 Nat:=bif v.isSnil then some 0 else ob v.asS λs=>some s.2.2.1
def VJ (t:Ty) (a b:GV):V1 V4:=Option.casesOn (motive:=λ_=>V1 V4) a.asI (Option.casesOn (motive:=λ_=>V1 V4) a.asStr (ob a.asB λx=>ob b.asB λy=>bif tdB t.desc then some (Xo x y)else none) λx=>ob b.asStr λy=>bif LU t.desc then some (UM x y)else none) λx=>ob b.asI λy=>ob (tdI t.desc) λ_=>bif eqK x.1 y.1 then some (eqI x.2 y.2)else none
def aeT (g:TB) (cs c:V6 GV) (d:V6 Field):V1 V4:=List.rec (motive:=λ_=>V1 V4) (some true) (λf _ e=>ob (g f.type) λt=>ob (Kh cs f.offset) λa=>ob (Kh c f.offset) λb=>ob (VJ t a b) λq=>bif q then e else some false) d
def Im (t:Ty):V4:=bif tdB t.desc then true else bif LU t.desc then true else Option.casesOn (motive:=λ_=>V4) (tdI t.desc) false λ_=>true
def AD (c:TB) (a:V6 Field):V4:=List.rec (motive:=λ_=>V4) true (λf _ b=>Option.casesOn (motive:=λ_=>V4) (c f.type) false λt=>bif Im t then b else false) a
def Pz (T:Nat):V4:=bif Nat.blt 31 T then Nat.blt T 512 else false
def ado (a:TB) (c:BinOp) (T:V9) (v u:GV):V1 GV:=Option.casesOn (motive:=λ_=>V1 GV) v.asA (bif u.isSnil then ob (ae_ v) λ_=>ob (a T) λt=>ob (tdS t.desc) λ_=>aef c v.isSnil true else none) λd=>ob u.asA λe=>bif Pz T then ob (tI a T) λb=>bif AD a b then ob (aeT a d e b) λq=>aef c q true else none else none
def Be (d:TB) (c:BinOp) (T:V9) (v u:GV):V1 GV:=
 Option.casesOn (motive:=λ_=>V1 GV) v.asI
  (Option.casesOn (motive:=λ_=>V1 GV) v.asStr (Option.casesOn (motive:=λ_=>V1 GV) v.asB (bif v.isInil then(bif u.isInil then ob (d T) λt=>bif tdE t.desc then amk c else none else none)else ado d c T v u) λa=>ob u.asB λb=>ob (d T) λt=>bif tdB t.desc then aef c a b else none) λa=>ob u.asStr λb=>aml c a b)
  λa=>ob u.asI λb=>bif MF c then La (binOp c 0 (.int a.1 a.2) (.int b.1 b.2))else bif eqK a.1 b.1 then ajy c a.1 a.2 b.2 else none
def ZN (c:UnOp) (v:GV):V1 GV:=UnOp.casesOn (motive:=λ_=>V1 GV) c (ob v.asI λa=>gw a.1 (0 - a.2)) none (ob v.asB λb=>fb (!b)) none
def agH (b:TB) (S D:V9) (v:GV):V1 GV:=ob v.asI λa=>ob (b S) λs=>ob (tdI s.desc) λ_=>ob (b D) λt=>ob (tdI t.desc) λk=>fi (k.wrap a.2) λz=>some (.int k z)
def vB (o:V1 GV) (d:Nat):V1 Nat:=Option.casesOn (motive:=λ_=>V1 Nat) o (some d) λv=>ob v.asI λa=>asN a.2
def aga (s:Nat×Nat) (l h:Nat):V1 GV:=bif Nat.ble l h then(bif Nat.ble h s.2 then sn (Nat.mod (Nat.shiftRight s.1 (Nat.mul 8 l)) (Nat.pow 2 (Nat.mul 8 (Nat.sub h l)))) λn=>sn (Nat.sub h l) λk=>some (.str n k)else none)else none
def afZ (s:Nat×Nat×Nat×Nat) (a l h:Nat):V1 GV:=bif Nat.beq a s.2.2.2 then(bif Nat.ble l h then(bif Nat.ble h s.2.2.1 then sn (Nat.add s.2.1 (Nat.mul l a)) λo=>sn (Nat.sub h l) λk=>some (.sl s.1 o k a)else none)else none)else none
def af_ (p:Nat×Nat) (n a l h:Nat):V1 GV:=bif Nat.ble l h then(bif Nat.ble h n then(bif Nat.beq a 0 then none else sn (Nat.add p.2 (Nat.mul l a)) λo=>sn (Nat.sub h l) λk=>some (.sl p.1 o k a))else none)else none
def DD (c:TB) (T:V9) (v:GV) (f b:V1 GV) (H:GH):V1 GV:=ob (vB f 0) λl=>ob (c T) λt=>
 Option.casesOn (motive:=λ_=>V1 GV) v.asStr
  (Option.casesOn (motive:=λ_=>V1 GV) v.asS
   (Bool.casesOn (motive:=λ_=>V1 GV) v.isSnil (ob v.asP λp=>ob (tdA t.desc) λe=>ob (c e.2) λa=>ob (vB b e.1) λh=>ob (H.cells p.1) λd=>bif Nat.ble (Nat.add p.2 (Nat.mul e.1 a.size)) d.length then af_ p e.1 a.size l h else none) (ob (tdS t.desc) λe=>ob (c e) λa=>ob (vB b 0) λh=>bif Nat.beq l 0 then(bif Nat.beq h 0 then some .snil else none)else none))
   λs=>ob (tdS t.desc) λe=>ob (c e) λa=>ob (vB b s.2.2.1) λh=>afZ s a.size l h)
  λs=>ob (vB b s.2) λh=>bif LU t.desc then aga s l h else none
def Lm (a:TB) (T:V9) (f:Nat) (v:GV):V1 GV:=ob v.asP λp=>ob (tI a T) λb=>ob (Kh b f) λq=>ob (a q.type) λc=>bif Nat.beq c.size 0 then none else sn (Nat.add p.2 q.offset) λo=>some (.ptr p.1 o)
def DU (t:Ty) (a:V6 GV) (o:Nat):V1 GV:=bif Al t.desc then ob (slc a o t.size) λr=>some (.agg r)else Kh a o
def adv (a:TB) (T:V9) (f:Nat) (v:GV):V1 GV:=ob v.asA λb=>ob (tI a T) λc=>ob (Kh c f) λq=>ob (a q.type) λd=>DU d b q.offset
def afY (a:TB) (T:V9) (s:Nat×Nat×Nat×Nat) (i:Nat):V1 GV:=ob (Cj a T) λb=>bif Nat.blt i s.2.2.1 then sn (Nat.add s.2.1 (Nat.mul i b.2.size)) λo=>some (.ptr s.1 o)else none
def afX (a:TB) (T:V9) (p:Nat×Nat) (i:Nat):V1 GV:=ob (a T) λt=>ob (tdA t.desc) λe=>ob (a e.2) λb=>bif Nat.blt i e.1 then sn (Nat.add p.2 (Nat.mul i b.size)) λo=>some (.ptr p.1 o)else none
def Ws (a:TB) (T:V9) (v w:GV):V1 GV:=ob w.asI λn=>ob (asN n.2) λn=>Option.casesOn (motive:=λ_=>V1 GV) v.asP (ob v.asS λs=>afY a T s n) λp=>afX a T p n
def vAt (a:TB) (T:V9) (v w:GV):V1 GV:=ob v.asStr λs=>ob w.asI λn=>ob (asN n.2) λn=>ob (a T) λt=>bif LU t.desc then(bif Nat.blt n s.2 then sn (Nat.mod (Nat.shiftRight s.1 (Nat.mul 8 n)) 256) λb=>some (.int .u8 (.ofNat b))else none)else none
def ai_ (i:Nat) (v:GV):V1 GV:=ob v.asT λa=>Kh a i
def Vw (d:LX) (l:V6 (Nat×GV)):V6 GV->V1 (V6 GV):=List.rec (motive:=λ_=>V6 GV->V1 (V6 GV)) (λa=>some a) (λp _ c a=>ob (Kh d p.1) λq=>ob p.2.cells λb=>bif Nat.beq b.length q.2 then(bif Nat.beq q.2 0 then none else ob (Jw b q.1 a) c)else none) l
def KF (b:Nat) (l:V6 (Nat×GV)):V6 GV->V1 (V6 GV):=List.rec (motive:=λ_=>V6 GV->V1 (V6 GV)) (λa=>some a) (λp _ d a=>ob p.2.cells λc=>bif Nat.beq c.length b then(bif Nat.beq b 0 then none else ob (Jw c (Nat.mul p.1 b) a) d)else none) l
def En (a:TB) (T:V9):V1 (V6 GV):=ob (a T) λt=>ob (ofV t.zero) λz=>z.cells
def Wp (a:TB) (T:V9) (c:V6 (Nat×GV)):V1 GV:=ob (a T) λt=>ob (En a T) λd=>Option.casesOn (motive:=λ_=>V1 GV) (tdF t.desc) (ob (tdA t.desc) λe=>ob (a e.2) λg=>ob (KF g.size c d) λb=>some (.agg b)) λ_=>ob (TR a T) λf=>ob (Vw f c d) λb=>some (.agg b)
def Wt (a:TB) (T:V9) (v:GV):V1 GV:=ob (a T) λt=>Option.casesOn (motive:=λ_=>V1 GV) v.asStr (ob (tdS t.desc) λ_=>ob (ae_ v) λn=>some (.int .i64 (.ofNat n))) λs=>bif LU t.desc then some (.int .i64 (.ofNat s.2))else none
def akF (a:TB) (T:V9) (v:GV):V1 GV:=ob (a T) λt=>ob (tdS t.desc) λ_=>bif v.isSnil then some (.int .i64 (.ofNat 0))else none
def Wu (v u:GV):V1 GV:=ob v.asI λa=>ob u.asI λb=>bif eqK a.1 b.1 then(bif ltI a.2 b.2 then some u else some v)else none
def adu (v u:GV):V1 GV:=ob v.asI λa=>ob u.asI λb=>bif eqK a.1 b.1 then(bif ltI b.2 a.2 then some u else some v)else none
def wE (b:TB) (T:V9) (v:GV) (H:GH):V1 GV:=ob v.asP λp=>ob (H.cells p.1) λa=>ob (b T) λt=>DU t a p.2
def mB (e:TB) (T:V9) (v u:GV) (H:GH):OR:=ob v.asP λp=>ob (H.cells p.1) λd=>ob (e T) λt=>ob u.cells λb=>bif Nat.beq b.length t.size then bif Nat.beq t.size 0 then none else ob (Jw b p.2 d) λa=>H.setK p.1 (.cells a) λc=>some (.un,c)else none
def Gh (v:GV) (H:GH):OR:=ob v.cells λb=>H.newK (.cells b) λh a=>some (.ptr h 0,a)
def sL (b:TB) (T:V9) (H:GH):OR:=ob (En b T) λc=>H.newK (.cells c) λh a=>some (.ptr h 0,a)
def UN (z:V6 GV) (n:Nat):V6 GV:=Nat.rec (motive:=λ_=>V6 GV) [] (λ_ a=>z++a) n
def fc {R:Type} (a:V6 GV):(V6 GV->R)->R:=List.rec (motive:=λ_=>(V6 GV->R)->R) (λk=>k []) (λx _ b k=>b λr=>k (x::r)) a
def uM (b:TB) (T:V9) (n:Nat) (f:V6 (Nat×GV)) (H:GH):OR:=ob (Cj b T) λa=>ob (En b a.1) λc=>bif Nat.beq c.length a.2.size then(bif Nat.blt (Nat.mul n a.2.size) 16777216 then(bif Nat.beq a.2.size 0 then none else ob (KF a.2.size f (UN c n)) λe=>H.newK (.cells e) λh d=>some (.sl h 0 n a.2.size,d))else none)else none
def OA (b:TB) (T:V9) (v u:GV) (H:GH):OR:=ob (Cj b T) λa=>ob (En b a.1) λd=>ob v.asI λk=>ob u.asI λc=>bif eqI k.2 c.2 then ob (asN k.2) λk=>(bif Nat.beq d.length a.2.size then(bif Nat.blt (Nat.mul k a.2.bytes) 16777216 then(bif Nat.blt k 16777216 then(bif Nat.beq a.2.size 0 then none else fc (UN d k) λl=>H.newK (.cells l) λh e=>some (.sl h 0 k a.2.size,e))else none)else none)else none)else none
def lap {R:Type} (a b:V6 GV):(V6 GV->R)->R:=List.rec (motive:=λ_=>(V6 GV->R)->R) (λk=>k b) (λx _ c k=>c λr=>k (x::r)) a
def wL (H:GH) (a:Nat) (v:GV):V1 (Nat×V6 GV):=bif v.isSnil then some (0,[])else ob v.asS λs=>bif Nat.beq s.2.2.2 a then ob (H.cells s.1) λcs=>ob (slc cs s.2.1 (Nat.mul s.2.2.1 a)) λr=>some (s.2.2.1,r)else none
def Vr (H:GH) (v:GV):GH:=Option.casesOn (motive:=λ_=>GH) v.asS H λs=>H.del s.1
def aba (H:GH) (v:GV) (f:GH->OR):OR:=Option.casesOn (motive:=λ_=>OR) v.asS (f H) λs=>H.delK s.1 f
def adl (b:TB) (T e:V9) (v u:GV) (H:GH):OR:=bif v.isSnil then ob (Cj b T) λa=>ob (b e) λf=>ob (tdI f.desc) λ_=>ob (En b a.1) λc=>ob u.asI λk=>ob (asN k.2) λn=>bif Nat.beq c.length a.2.size then(bif Nat.blt (Nat.mul n (Nat.add a.2.bytes 1)) 16777216 then(bif Nat.beq a.2.size 0 then none else(bif Nat.beq n 0 then none else fc (UN c n) λl=>H.newK (.cells l) λh d=>some (.sl h 0 n a.2.size,d)))else none)else none else none
def Wo (b:TB) (T c:V9) (v u:GV) (H:GH):OR:=bif Nat.beq T c then ob (Cj b T) λa=>bif Nat.beq a.2.size 0 then none else ob (En b a.1) λf=>bif Nat.beq f.length a.2.size then ob (wL H a.2.size v) λp=>ob (wL H a.2.size u) λq=>Nat.casesOn (motive:=λ_=>OR) q.1 (some (v,H)) (λ_=>sn (Nat.add p.1 q.1) λn=>bif Nat.blt (Nat.mul n (Nat.add a.2.bytes 1)) 16777216 then lap p.2 q.2 λl=>aba H v λe=>e.newK (.cells l) λh d=>some (.sl h 0 n a.2.size,d)else none)else none else adl b T c v u H
def agI (g:TB) (T:V9) (v u:GV) (H:GH):OR:=ob v.asS λs=>ob u.asS λr=>ob (Cj g T) λb=>bif Nat.beq s.2.2.2 b.2.size then(bif Nat.beq r.2.2.2 b.2.size then(bif Nat.beq r.2.2.1 s.2.2.1 then ob (H.cells r.1) λe=>ob (slc e r.2.1 (Nat.mul r.2.2.1 b.2.size)) λc=>ob (H.cells s.1) λf=>List.casesOn (motive:=λ_=>OR) c none (λ_ _=>ob (Jw c s.2.1 f) λa=>H.setK s.1 (.cells a) λd=>some (.int .i64 (.ofNat r.2.2.1),d))else none)else none)else none
def Kd (H:GH):OR:=H.newK (.mp []) λh a=>some (.map h,a)
def Xx (a b:GV):V1 V4:=Option.casesOn (motive:=λ_=>V1 V4) a.asI (ob a.asStr λx=>ob b.asStr λy=>some (UM x y)) λx=>ob b.asI λy=>bif eqK x.1 y.1 then some (eqI x.2 y.2)else none
def TG (k:GV) (a:V6 (GV×GV)):V1 (V1 GV):=List.rec (motive:=λ_=>V1 (V1 GV)) (some none) (λe _ c=>ob (Xx k e.1) λb=>bif b then some (some e.2)else c) a
def NQ (t:Ty) (k:GV):V4:=Option.casesOn (motive:=λ_=>V4) k.asI (Option.casesOn (motive:=λ_=>V4) k.asStr false (λ_=>LU t.desc)) (λx=>Option.casesOn (motive:=λ_=>V4) (tdI t.desc) false (λ_=>true))
def abW (a:TB) (T:V9):V1 (Ty×Ty):=ob (a T) λt=>ob (tdM t.desc) λb=>ob (a b.1) λc=>ob (a b.2) λd=>some (c,d)
def agJ (c:TB) (T:V9) (a:V4) (v k:GV) (H:GH):V1 GV:=ob v.asM λh=>ob (H.get h) λo=>ob o.asM λb=>ob (abW c T) λt=>bif NQ t.1 k then ob (TG k b) λr=>ob (ofV t.2.zero) λz=>Option.casesOn (motive:=λ_=>V1 GV) r (bif a then some (.tup [z,.bool false])else some z) (λg=>bif a then some (.tup [g,.bool true])else some g)else none
def adt (c:TB) (T:V9) (v k u:GV) (H:GH):OR:=ob v.asM λh=>ob (H.get h) λo=>ob o.asM λa=>ob (abW c T) λt=>bif NQ t.1 k then ob (TG k a) λr=>Option.casesOn (motive:=λ_=>OR) r (H.setK h (.mp (a++[(k,u)])) λb=>some (.un,b)) (λ_=>none)else none
section
variable {R:Type}
abbrev KT (R:Type):=GF->GH->(GV->GH->V1 R)->V1 R
def k1 (x:V3) (f:GV->V1 GV):KT R:=λa H k=>ob (some x) λx=>ob (lH a x) λv=>ob (f v) λg=>k g H
def k2 (x y:V3) (f:GV->GV->V1 GV):KT R:=λa H k=>ob (some x) λx=>ob (lH a x) λv=>ob (lH a y) λu=>ob (f v u) λg=>k g H
def k3 (x y z:V3) (f:GV->GV->GV->V1 GV):KT R:=λa H k=>ob (some x) λx=>ob (lH a x) λv=>ob (lH a y) λu=>ob (lH a z) λt=>ob (f v u t) λg=>k g H
def LF (x:V3):KT R:=λa H k=>ob (some x) λx=>ob (lH a x) λv=>k v H
def kFn (c:Fn) (first a:Array V3):KT R:=match c with
 | .func f=>λb H k=>ob (IL b first.toList) λd=>ob (IL b a.toList) λe=>k (.fn f d e) H
 |_=>λ_ _ _=>none
def Kz (a:GF) (o:V1 V3):V1 (V1 GV):=Option.casesOn (motive:=λ_=>V1 (V1 GV)) o (some none) λx=>ob (lH a x) λv=>some (some v)
def ais (e:TB) (T:V9) (x:V3) (c b d:V1 V3):KT R:=Option.casesOn (motive:=λ_=>KT R) d (λa H k=>ob (some x) λx=>ob (lH a x) λv=>ob (Kz a c) λl=>ob (Kz a b) λh=>ob (DD e T v l h H) λg=>k g H) (λ_ _ _ _=>none)
def air (b:TB) (T:V9) (a:V6 (Nat×V3)):KT R:=λd H k=>ob (xU d a) λc=>ob (Wp b T c) λg=>k g H
def fN (r:OR) (k:GV->GH->V1 R):V1 R:=ob r λp=>Prod.casesOn (motive:=λ_=>V1 R) p λg h=>k g h
def Xu (a:TB) (T:V9) (x:V3):KT R:=λb H k=>ob (some x) λx=>ob (lH b x) λv=>ob (wE a T v H) λg=>k g H
def Rk (b:TB) (T:V9) (x y:V3):KT R:=λa H k=>ob (some x) λx=>ob (lH a x) λv=>ob (lH a y) λu=>fN (mB b T v u H) k
def afj (x:V3):KT R:=λa H k=>ob (some x) λx=>ob (lH a x) λv=>fN (Gh v H) k
def aiq (a:TB) (T:V9):KT R:=λb H k=>fN (sL a T H) k
def afl (b:TB) (T:V9) (n:Nat) (a:V6 (Nat×V3)):KT R:=λd H k=>ob (xU d a) λc=>fN (uM b T n c H) k
def Xw (b:TB) (T:V9) (x y:V3):KT R:=λa H k=>ob (some x) λx=>ob (lH a x) λv=>ob (lH a y) λu=>fN (OA b T v u H) k
def abI (r:V1 V3):KT R:=Option.casesOn (motive:=λ_=>KT R) r (λa H k=>fN (Kd H) k) (λ_ _ _ _=>none)
def Xv (c:TB) (T:V9) (x y:V3) (b:V4):KT R:=λa H k=>ob (some x) λx=>ob (lH a x) λv=>ob (lH a y) λu=>ob (agJ c T b v u H) λg=>k g H
def Rj (b:TB) (T:V9) (x y z:V3):KT R:=λa H k=>ob (some x) λx=>ob (lH a x) λv=>ob (lH a y) λu=>ob (lH a z) λt=>fN (adt b T v u t H) k
def NP (a:V6 V3) (f:V3->KT R):KT R:=List.casesOn (motive:=λ_=>KT R) a (λ_ _ _=>none) λx r=>List.casesOn (motive:=λ_=>KT R) r (f x) (λ_ _ _ _ _=>none)
def GD (a:V6 V3) (f:V3->V3->KT R):KT R:=List.casesOn (motive:=λ_=>KT R) a (λ_ _ _=>none) λx r=>List.casesOn (motive:=λ_=>KT R) r (λ_ _ _=>none) λy r=>List.casesOn (motive:=λ_=>KT R) r (f x y) (λ_ _ _ _ _=>none)
def abG (c:TB) (a:V6 V9) (x y:V3):KT R:=λb H k=>ob (Kh a 0) λT=>ob (Kh a 1) λT'=>ob (lH b x) λv=>ob (lH b y) λu=>fN (Wo c T T' v u H) k
def Tv (b:TB) (c:V6 V9) (x y:V3):KT R:=λa H k=>ob (Kh c 0) λT=>ob (lH a x) λv=>ob (lH a y) λu=>fN (agI b T v u H) k
def Zf (a:TB) (b:V6 V9) (x:V3):KT R:=λc H k=>ob (Kh b 0) λT=>ob (lH c x) λv=>ob (akF a T v) λg=>k g H
def Zg (a:TB) (b:V6 V9) (x:V3):KT R:=λc H k=>ob (Kh b 0) λT=>ob (lH c x) λv=>ob (Wt a T v) λg=>k g H
def VE (a:TB) (xs:Array V3) (b:Array V9):Builtin->KT R
 | .len=>NP xs.toList (Zg a b.toList)
 | .max=>GD xs.toList λx y=>k2 x y Wu
 | .min=>GD xs.toList λx y=>k2 x y adu
 | .append=>GD xs.toList (abG a b.toList)
 | .copy=>GD xs.toList (Tv a b.toList)
 | .cap=>NP xs.toList (Zf a b.toList)
 |_=>λ_ _ _=>none
abbrev CH:=Nat->V6 GV->GH->OR
def abH (b:CH) (d:Array V3) (f:V3):KT R:=λa H k=>ob (lH a f) λv=>ob v.asF λg=>ob (IL a d.toList) λc=>fN (b g.1 (g.2.1++c++g.2.2) H) k
def aj_ (b:TB) (a:CH) (c:Call):KT R:=Callee.casesOn (motive:=λ_=>KT R) c.callee (abH a c.args) (λ_ _ _ _ _=>none) (VE b c.args c.argTypes)
end
def Sg {R:Type} (d:TB) (g:CH) (o:Op):KT R:=Op.casesOn (motive:=λ_=>KT R) o (λa=>LF a) (λa=>LF a) (λa b c=>k3 a b c pG) (λa=>aiq d a) (λ_ b=>afj b) (λa b=>air d a b.toList) (λa b c=>afl d a b c.toList) (λ_ _ _ _=>λ_ _ _=>none) (λa b=>Xu d a b) (λa b c=>Rk d a b c) (λ_=>λ_ _ _=>none) (λ_=>λ_ _ _=>none) (λa=>k1 a GV.nilck) (λa b c e _=>k2 c e (Be d a b)) (λa _ c=>k1 c (ZN a)) (λa b c=>k1 c (agH d a b)) (λ_ _=>λ_ _ _=>none) (λ_ _=>λ_ _ _=>none) (λa b c=>kFn a b c) (λ_ b=>abI b) (λ_ _=>λ_ _ _=>none) (λa b c=>Xw d a b c) (λa b c e f=>ais d a b c e f) (λa b c=>k1 b (Lm d a c)) (λa b c=>k1 b (adv d a c)) (λa b c=>k2 b c (Ws d a)) (λa b c=>k2 b c (vAt d a)) (λa b c e=>Xv d a b c e) (λa b c e=>Rj d a b c e) (λ_ _ _=>λ_ _ _=>none) (λ_ _ _ _=>λ_ _ _=>none) (λ_ _=>λ_ _ _=>none) (λ_ _=>λ_ _ _=>none) (λ_=>λ_ _ _=>none) (λ_ _ _ _=>λ_ _ _=>none) (λa b=>k1 a (ai_ b)) (λa=>aj_ d g a) (λ_=>λ_ _ _=>none) (λ_=>λ_ _ _=>none) (λ_=>λ_ _ _=>none) (λ_ _=>λ_ _ _=>none) (λ_ _ _=>λ_ _ _=>none) (λ_ _=>λ_ _ _=>none)
def akE (x:V3):Nat:=Operand.casesOn (motive:=λ_=>Nat) x (λt=>Nat.shiftLeft 1 t) (λ_=>0) (λ_=>0) (λ_=>0)
def akD (all:V6 V5) (o:V5):Nat:=Nat.lor (o.op.operands.toList.foldl (λm x=>Nat.lor m (akE x)) 0) (match o.guard with
 |none=>0
 |some g=>match Kh all g.1 with
  |some a=>(match a.dst with|some d=>Nat.shiftLeft 1 d|none=>0)
  |none=>0)
def amz (m:Nat) (d:V1 Nat):Nat:=match d with
 |none=>m
 |some d=>bif Nat.testBit m d then Nat.sub m (Nat.shiftLeft 1 d)else m
def afo (all l:V6 V5) (m:Nat):Nat:=l.foldr (λo m=>Nat.lor (amz m o.dst) (akD all o)) m
structure Cx where
 res:List ResultVar
 retm:Nat
 env:List (Nat×Nat)
def Ei (e:V6 (Nat×Nat)) (id:Nat):Nat:=List.rec (motive:=λ_=>Nat) 0 (λp _ a=>bif Nat.beq p.1 id then p.2 else a) e
def akh (c:Code) (d:Nat):Nat->V6 (Nat×Nat)->Nat:=Code.rec (motive:=λ_=>Nat->V6 (Nat×Nat)->Nat)
 (λm _=>m) (λ_ b _ m _=>afo b.toList b.toList m) (λ_ _ f a m e=>f (a m e) e) (λx _ _ f a m e=>Nat.lor (akE x) (Nat.lor (f m e) (a m e))) (λid _ a m e=>a m ((id,m)::e))
 (λ_ a _ e=>Nat.lor (a 0 e) (a (a 0 e) e)) (λ_ _ _ _ _ _ _ _=>0) (λid _ e=>Ei e id) (λ_ _ _ _=>0) (λ_ _ _=>0) (λ_ _ _=>0) (λ_ _=>d) (λ_ _ _=>0) c
def live (c:Code) (m:Nat) (a:Cx):Nat:=akh c a.retm m a.env
def aka (f m:Nat):Nat->V6 Nat:=Nat.rec (motive:=λ_=>Nat->V6 Nat) (λ_=>[]) (λ_ a i=>bif Nat.testBit m i then i::a (Nat.succ i)else a (Nat.succ i)) f
def mT (m:Nat):V6 Nat:=aka (Nat.succ (Nat.log2 m)) m 0
def EI (c:GF) (b:V6 Nat):V6 GV:=List.rec (motive:=λ_=>V6 GV) [] (λk _ a=>Option.casesOn (motive:=λ_=>GV) (HT c k) .bad (λv=>v)::a) b
def lD {R:Type} (d:V6 Nat):V6 GV->(GF->V1 R)->V1 R:=List.rec (motive:=λ_=>V6 GV->(GF->V1 R)->V1 R) (λb k=>List.casesOn (motive:=λ_=>V1 R) b (k []) λ_ _=>none) (λa _ c b k=>List.casesOn (motive:=λ_=>V1 R) b none λv r=>c r λe=>k ((a,v)::e)) d
inductive Ex where
 |normal
 |exit (id:Nat)
 |ret
inductive ag_ where
 |fn (f:Nat)
 |loop (b:Code) (cx:Cx)
structure GS where
 σ:GF
 H:GH
structure SE where
 e:Ex
 vs:List GV
 H:GH
abbrev RS:=V1 SE
abbrev QH0:=V6 GV->GH->RS
abbrev QH:=Nat->V6 GV->GH->RS
abbrev IH:=ag_->V6 GV->GH->RS
def aiM (b:TB) (s:GS) (r:ResultVar):V1 GV:=ResultVar.casesOn (motive:=λ_=>V1 GV) r (λt=>HT s.σ t) λa T=>ob (HT s.σ a) λv=>wE b T v s.H
def Ud (b:TB) (s:GS) (l:V6 ResultVar):V1 (V6 GV):=List.rec (motive:=λ_=>V1 (V6 GV)) (some []) (λr _ a=>ob (aiM b s r) λv=>ob a λc=>some (v::c)) l
def MJ (l:V6 ResultVar):Nat:=List.rec (motive:=λ_=>Nat) 0 (λr _ b=>Nat.lor (ResultVar.casesOn (motive:=λ_=>Nat) r (λt=>Nat.shiftLeft 1 t) (λa _=>Nat.shiftLeft 1 a)) b) l
def Zm (a:V6 GV):GV:=List.casesOn (motive:=λ_=>GV) a (.tup []) (λv r=>List.casesOn (motive:=λ_=>GV) r v (λ_ _=>.tup a))
def putD (d:V1 Nat) (v:GV) (a:GF):GF:=Option.casesOn (motive:=λ_=>GF) d a λd=>(d,v)::a
def JK (a:V6 Nat) (s:GS):RS:=some ⟨.normal,EI s.σ a,s.H⟩
def VZ (b:TB) (a:Cx) (s:GS):RS:=ob (Ud b s a.res) λc=>some ⟨.ret,c,s.H⟩
def agw (a:V6 Nat) (k:GS->RS) (r:RS):RS:=ob r λo=>Ex.casesOn (motive:=λ_=>RS) o.e (lD a o.vs λb=>k ⟨b,o.H⟩) (λ_=>some o) (some o)
def nB (id:Nat) (r:RS):RS:=ob r λo=>Ex.casesOn (motive:=λ_=>RS) o.e (some o) (λi=>Bool.casesOn (motive:=λ_=>RS) (Nat.beq i id) (some o) (some ⟨.normal,o.vs,o.H⟩)) (some o)
def Iq (g:GV) (H:GH):OR:=some (g,H)
def opK (d:V1 Nat) (s:GS) (k:GS->RS) (g:GV) (H:GH):RS:=k ⟨putD d g s.σ,H⟩
def evG (c:TB) (a:CH) (o:V5) (s:GS) (b:V4) (v:GV):OR:=GV.casesOn (motive_1:=λ_=>OR) v (λ_ _=>none) (λq=>Bool.casesOn (motive:=λ_=>OR) (Xo q b) (some (.un,s.H)) (Sg c a o.op s.σ s.H Iq)) (λ_ _=>none) (λ_ _=>none) none (λ_ _ _ _=>none) none (λ_=>none) (λ_ _ _=>none) none none (λ_=>none) (λ_=>none) (some (.un,s.H)) none (λ_=>none)
def Nw (b:TB) (a:CH) (all:V6 V5) (o:V5) (k:GS->RS) (s:GS):RS:=Option.casesOn (motive:=λ_=>RS) o.guard (Sg b a o.op s.σ s.H (opK o.dst s k)) λg=>ob (Kh all g.1) λd=>ob d.dst λc=>ob (HT s.σ c) λv=>fN (evG b a o s g.2 v) (opK o.dst s k)
def Il (c:TB) (b:CH) (all:V6 V5) (k:GS->RS) (l:V6 V5):GS->RS:=List.rec (motive:=λ_=>GS->RS) k (λo _ a s=>Nw c b all o a s) l
def pW:Op->V4
 | .load .. =>true
 |_=>false
def Ri:Op->V4
 | .lookup .. =>true
 |_=>false
def ldH (a:GF):Op->V1 Nat
 | .load _ x=>ob (some x) λx=>ob (lH a x) λv=>ob v.asP λp=>some p.1
 |_=>none
def vck {a:Type} (H:GH) (h v:Nat) (k:V1 a):V1 a:=ob (H.ver h) λu=>Bool.casesOn (motive:=λ_=>V1 a) (Nat.beq u v) none k
def pck (H:GH) (e:V1 (Nat×Nat)) (k:V1 Unit):V1 Unit:=Option.casesOn (motive:=λ_=>V1 Unit) e k λp=>vck H p.1 p.2 k
def Np (m:V6 Nat) (i:Nat) (H:GH) (b:V6 (Nat×V1 (Nat×Nat))):V1 Unit:=List.rec (motive:=λ_=>V1 Unit) (some ()) (λp _ a=>Bool.casesOn (motive:=λ_=>V1 Unit) (before m i p.1) (pck H p.2 a) a) b
def Nq (m:V6 Nat) (i h v:Nat) (b:V6 (Nat×GH)):V1 (V1 (Nat×Nat)):=List.rec (motive:=λ_=>V1 (V1 (Nat×Nat))) (some (some (h,v))) (λq _ a=>Bool.casesOn (motive:=λ_=>V1 (V1 (Nat×Nat))) (before m i q.1) (vck q.2 h v a) a) b
def ldV (m:V6 Nat) (i:Nat) (a:V6 (Nat×GH)) (H:GH) (l:V1 Nat):V1 (V1 (Nat×Nat)):=Option.casesOn (motive:=λ_=>V1 (V1 (Nat×Nat))) l (some none) λh=>ob (H.ver h) λv=>Nq m i h v a
abbrev WT:=Nat->V6 (Nat×V1 (Nat×Nat))->V6 (Nat×GH)->GS->RS
def abk (f:TB) (d:CH) (all:V6 V5) (m:V6 Nat) (o:V5) (K:WT):WT:=λi b a s=>
 Bool.casesOn (motive:=λ_=>RS) (fS o.op)
  (Bool.casesOn (motive:=λ_=>RS) (pW o.op) (Nw f d all o (K (Nat.succ i) b a) s)
   (Nw f d all o (λc=>ob (ldV m i a s.H (ldH s.σ o.op)) λe=>K (Nat.succ i) ((i,e)::b) a c) s))
  (Nw f d all o (λc=>ob (Np m i c.H b) λ_=>K (Nat.succ i) b ((i,s.H)::a) c) s)
def evW (c:TB) (a:CH) (all:V6 V5) (m:V6 Nat) (k:GS->RS) (l:V6 V5):WT:=List.rec (motive:=λ_=>WT) (λ_ _ _ s=>k s) (λo _ b=>abk c a all m o b) l
def HD (l:V6 V5) (p:Op->V4):V4:=(List.range l.length).all λi=>match l[i]? with
 |none=>true
 |some o=> !p o.op||(List.range l.length).all λj=>match l[j]? with
  |none=>true
  |some a=> !fS a.op||before (rB l) i j||before (rB l) j i
def aja (a:V4) (l:V6 V5):V4:=Bool.casesOn (motive:=λ_=>V4) a false (!HD l pW)
def PX (r:RS):OR:=ob r λo=>Ex.casesOn (motive:=λ_=>OR) o.e none (λ_=>none) (some (Zm o.vs,o.H))
structure GP where
 tab:TB
 cat:Nat
 ext:Nat->List GV->GH->Option (GV×GH)
 exn:Nat->List GV->Option GV
def Bj:GV:= .int .i64 (.ofNat 0)
def ajB (l:CH) (m:V6 GV) (H:GH):OR:=List.casesOn (motive:=λ_=>OR) m none λu r=>List.casesOn (motive:=λ_=>OR) r (ob u.asF λg=>H.newK (.cells [Bj]) λa c=>c.newK (.cells [Bj]) λb d=>ob (l g.1 (g.2.1++g.2.2) d) λx=>ob (x.2.cells a) λj=>ob (x.2.cells b) λk=>
 bif Nat.beq j.length 1 then(bif Nat.beq k.length 1 then x.2.setK a (.cells [Bj]) λe=>e.setK b (.cells [Bj]) λf=>f.delK a λh=>h.delK b λi=>some (.tup [Bj,Bj],i)else none)else none) (λ_ _=>none)
def ajA (a:IH):CH:=λf b H=>PX (a (.fn f) b H)
def callQ (G:GP) (q:QH):CH:=λf a H=>Bool.casesOn (motive:=λ_=>OR) (Nat.beq f G.cat) (Option.casesOn (motive:=λ_=>OR) (G.ext f a H) (Option.casesOn (motive:=λ_=>OR) (G.exn f a) (PX (q f a H)) λg=>some (g,H)) λr=>some r) (ajB (λf a H=>PX (q f a H)) a H)
def Gv (G:GP) (a:IH):CH:=callQ G λf b H=>a (.fn f) b H
abbrev ET:=Nat->Cx->(GS->RS)->GS->RS
abbrev LH:=Code->Cx->QH0
def evC (g:TB) (ch:CH) (lp:LH) (c:Code):ET:=Code.rec (motive:=λ_=>ET)
 (λ_ _ k s=>k s)
 (λ_ d h _ _ k s=>Bool.casesOn (motive:=λ_=>RS) (aja h d.toList) (Il g ch d.toList k d.toList s) (evW g ch d.toList (rB d.toList) k d.toList 0 [] [] s))
 (λ_ b f e m a k s=>f (live b m a) a (e m a k) s)
 (λx _ _ f e m a k s=>ob (lH s.σ x) λv=>ob v.asB λq=>agw (mT m) k (Bool.casesOn (motive:=λ_=>RS) q (e m a (JK (mT m)) s) (f m a (JK (mT m)) s)))
 (λid _ e m a k s=>agw (mT m) k (nB id (e m ⟨a.res,a.retm,(id,m)::a.env⟩ (JK (mT m)) s)))
 (λb _ _ a _ s=>lp b a (EI s.σ (mT (live (.loop b) 0 a))) s.H)
 (λ_ _ _ _ _ _ _ _ _ _=>none)
 (λid _ a _ s=>some ⟨.exit id,EI s.σ (mT (Ei a.env id)),s.H⟩)
 (λ_ _ _ _ _ _=>none) (λ_ _ _ _ _=>none) (λ_ _ _ _ _=>none)
 (λ_ a _ s=>VZ g a s)
 (λ_ _ _ _ _=>none) c
def YR (b:TB) (c:CH) (d:LH) (fn:Func) (e:V6 GV) (H:GH):RS:=ob fn.body λa=>lD (List.range (Nat.add fn.params.size fn.nfree)) e λf=>evC b c d a (MJ fn.results.toList) ⟨fn.results.toList,MJ fn.results.toList,[]⟩ (VZ b ⟨fn.results.toList,MJ fn.results.toList,[]⟩) ⟨f,H⟩
def evL (f:TB) (d:CH) (c:LH) (b:Code) (a:Cx) (g:V6 GV) (H:GH):RS:=lD (mT (live (.loop b) 0 a)) g λh=>ob (evC f d c b (live (.loop b) 0 a) a (JK (mT (live (.loop b) 0 a))) ⟨h,H⟩) λo=>Ex.casesOn (motive:=λ_=>RS) o.e (c b a o.vs o.H) (λ_=>some o) (some o)
abbrev FT:=Nat->V1 Func
def step (G:GP) (d:FT) (a:IH) (t:ag_):V6 GV->GH->RS:=ag_.casesOn (motive:=λ_=>V6 GV->GH->RS) t (λf g H=>ob (d f) λe=>YR G.tab (Gv G a) (λb c=>a (.loop b c)) e g H) (evL G.tab (Gv G a) λb c=>a (.loop b c))
def run (G:GP) (b:FT) (a:Nat):IH:=Nat.rec (motive:=λ_=>IH) (λ_ _ _=>none) (λ_ c=>step G b c) a
def Xg (G:GP) (c:FT) (b:Nat) (f:FuncId) (a:V6 GV) (H:GH):OR:=Gv G (run G c b) f a H
def H0:GH:=⟨0,.lf⟩
end
section
variable {α β:Type}
theorem aE {o:V1 α} {f:α->V1 β} {r:β}:ob o f=some r↔∃x,o=some x/\f x=some r:=by
 cases o<;>simp[ob]
theorem bV {b:V4} {x:V1 α} {r:α}:(bif b then x else none)=some r↔b=true/\x=some r:=by
 cases b<;>simp
theorem lG {b:V4} {x:V1 α} {r:α}:(bif b then none else x)=some r↔b=false/\x=some r:=by
 cases b<;>simp
theorem Ad (n:Nat) (f:Nat->α):sn n f=f n:=by cases n<;>rfl
theorem PI (z:Int) (f:Int->α):fi z f=f z:=by cases z<;>simp[fi,Ad]
theorem xV (l:V6 α):∀n,Kh l n=l[n]?:=by
 induction l with
 |nil=>intro n;rfl
 |cons x l a=>intro n;cases n with
  |zero=>rfl
  |succ n=>exact a n
theorem afr {v:α}:∀{l a:V6 α} {n:Nat},afq v l n=some a->n<l.length/\a=l.set n v:=by
 intro l
 induction l with
 |nil=>intro a n h;cases h
 | cons x l ih =>intro a n h; cases n with
  |zero=>cases h;simp
  |succ n=>
   have⟨r,b,c⟩:=aE.1 (show ob (afq v l n) (λf=>some (x::f))=some a from h);have⟨d,e⟩:=ih b;cases c;simp[d,e]
theorem akB:∀{l r:V6 α} {n:Nat},tk l n=some r->n<=l.length/\r=l.take n:=by
 intro l
 induction l with
 |nil=>intro r n h;cases n with
  |zero=>cases h;simp
  |succ n=>cases h
 | cons x l ih =>intro r n h; cases n with
  |zero=>cases h;simp
  |succ n=>
   have⟨q,a,b⟩:=aE.1 (show ob (tk l n) (λr=>some (x::r))=some r from h);have⟨c,d⟩:=ih a;cases b;simp[c,d]
theorem ajG:∀{l r:V6 α} {n:Nat},dp l n=some r->n<=l.length/\r=l.drop n:=by
 intro l
 induction l with
 |nil=>intro r n h;cases n with
  |zero=>cases h;simp
  |succ n=>cases h
 |cons x l a=>intro r n h;cases n with
  |zero=>cases h;simp
  |succ n=>have:=a (show dp l n=some r from h);simpa using this
theorem RN {l r:V6 α} {o n:Nat} (h:slc l o n=some r):o+n<=l.length/\r=(l.drop o).take n:=by
 have⟨q,a,b⟩:=aE.1 h;obtain⟨d,rfl⟩:=ajG a;obtain⟨c,rfl⟩:=akB b;simp at c;exact⟨V7,rfl⟩
def wr (b:List α) (o:Nat) (a:List α):List α:=a.take o++b++a.drop (o+b.length)
end
theorem MD:∀{b c a:V6 GV} {o:Nat},Jw b o c=some a->(b≠[]->o+b.length<=c.length)/\a.length=c.length/\∀i,a[i]?=if o<=i/\i<o+b.length then b[i - o]? else c[i]?:=by
 intro b
 induction b with
 |nil=>
  intro c a o h;cases h;refine⟨λh=>absurd Z h,rfl,λi=>?_⟩
  rw[if_neg V8]
 | cons v b ih =>
  intro c a o h;have⟨p,l,f⟩:=aE.1 (show ob (afq v c o) (λa=>sn (Nat.succ o) λn=>Jw b n a)=some a from h);rw[Ad]at f;obtain⟨m,rfl⟩:=afr l;have⟨g,j,k⟩:=ih f;simp only[zA3,Nat.succ_eq_add_one]at g j k;refine⟨λ_=>?_,j,λi=>?_⟩
  .cases b with
   |nil=>simp;omega
   |cons y q=>have:=g V8;simp at this ⊢;omega
  rw[k i];by_cases e:i=o
  .subst e;rw[Q0,if_pos V8,zAi m];simp
  .by_cases d:o+1<=i/\i<o+1+b.length
   .rw[if_pos d,if_pos Q1];have:i - o=(i - (o+1))+1:=V7
    rw[this,List.getElem?_cons_succ]
   .rw[if_neg d,if_neg Q1,zAp (Ne.symm e)]
theorem SP {j:Type} (x:V1 j):∀(f n m:Nat),n<f->(EY x f n).get m=if m=n then x else none:=by
 intro f
 induction f with
 |zero=>intro n m h;omega
 | succ f ih =>
  intro n m h;show Tr.get (bif Nat.beq n 0 then .nd x .lf .lf else bif Nat.beq (Nat.mod n 2) 1 then .nd none (EY x f (Nat.div n 2)) .lf else .nd none .lf (EY x f (Nat.sub (Nat.div n 2) 1))) m=_;have p:∀(a:V1 j) (l r:Tr j),Tr.get (.nd a l r) m=if m=0 then a else if m%2=1 then l.get (m / 2)else r.get (m / 2 - 1):=λa l r=>by
   show Bool.casesOn (motive:=λ_=>V1 j) (Nat.beq m 0) (Bool.casesOn (motive:=λ_=>V1 j) (Nat.beq (Nat.mod m 2) 1) (r.get (Nat.sub (Nat.div m 2) 1)) (l.get (Nat.div m 2))) a=_;by_cases i:m=0
   .subst i;rfl
   .rw[if_neg i,oO i];by_cases b:m%2=1
    .rw[if_pos b];have:Nat.beq (Nat.mod m 2) 1=true:=by rw[show Nat.mod m 2=1 from b];rfl
     rw[this];rfl
    .rw[if_neg b];have:Nat.beq (Nat.mod m 2) 1=false:=oO b;rw[this];rfl
  have d:∀k,(Tr.lf:Tr j).get k=none:=λ_=>rfl;have q:Nat.div n 2=n / 2:=rfl;have s:Nat.sub (Nat.div n 2) 1=n / 2 - 1:=rfl;by_cases i:n=0
  .subst i;show Tr.get (.nd x .lf .lf) m=_;simp only[p,d];by_cases g:m=0<;>simp[g]
  .rw[oO i];by_cases b:n%2=1
   .have:Nat.beq (Nat.mod n 2) 1=true:=by rw[show Nat.mod n 2=1 from b];rfl
    simp only[this,cond_true,cond_false,p,d,q];rw[ih _ _ V7];by_cases g:m=0
    .rw[if_pos g,Q0]
    .rw[if_neg g];by_cases c:m%2=1
     .rw[if_pos c];by_cases o:m=n
      .subst o;simp
      .rw[if_neg o,Q0]
     .rw[if_neg c,if_neg (by intro e;subst e;exact c b)]
   .have:Nat.beq (Nat.mod n 2) 1=false:=oO b;simp only[this,cond_true,cond_false,p,d,s];rw[ih _ _ V7];by_cases g:m=0
    .rw[if_pos g,Q0]
    .rw[if_neg g];by_cases c:m%2=1
     .rw[if_pos c,if_neg (by intro e;subst e;exact b c)]
     .rw[if_neg c];by_cases o:m=n
      .subst o;simp
      .rw[if_neg o,Q0]
theorem uW {f:Type} (x:V1 f):∀(t:Tr f) (n m:Nat),(t.set x n).get m=if m=n then x else t.get m:=by
 intro t
 induction t with
 |lf=>intro n m;exact SP x _ n m (Nat.lt_succ_self n)
 | nd a l r ihl ihr =>
  intro n m;have h:∀(a:V1 f) (l r:Tr f),Tr.get (.nd a l r) m=if m=0 then a else if m%2=1 then l.get (m / 2)else r.get (m / 2 - 1):=λa l r=>by
   show Bool.casesOn (motive:=λ_=>V1 f) (Nat.beq m 0) (Bool.casesOn (motive:=λ_=>V1 f) (Nat.beq (Nat.mod m 2) 1) (r.get (Nat.sub (Nat.div m 2) 1)) (l.get (Nat.div m 2))) a=_;by_cases g:m=0
   .subst g;rfl
   .rw[if_neg g,oO g];by_cases d:m%2=1
    .rw[if_pos d];have:Nat.beq (Nat.mod m 2) 1=true:=by rw[show Nat.mod m 2=1 from d];rfl
     rw[this];rfl
    .rw[if_neg d];have:Nat.beq (Nat.mod m 2) 1=false:=oO d;rw[this];rfl
  show Tr.get (Bool.casesOn (motive:=λ_=>Tr f) (Nat.beq n 0) (Bool.casesOn (motive:=λ_=>Tr f) (Nat.beq (Nat.mod n 2) 1) (.nd a l (r.set x (Nat.sub (Nat.div n 2) 1))) (.nd a (l.set x (Nat.div n 2)) r)) (.nd x l r)) m=_;have j:Nat.div n 2=n / 2:=rfl;have k:Nat.sub (Nat.div n 2) 1=n / 2 - 1:=rfl;by_cases g:n=0
  .subst g;show Tr.get (.nd x l r) m=_;rw[h,h];by_cases c:m=0<;>simp[c]
  .rw[oO g];by_cases d:n%2=1
   .have:Nat.beq (Nat.mod n 2) 1=true:=by rw[show Nat.mod n 2=1 from d];rfl
    rw[this];show Tr.get (.nd a (l.set x (Nat.div n 2)) r) m=_;rw[h,h,ihl,j];by_cases c:m=0
    .rw[if_pos c,if_pos c,Q0]
    .rw[if_neg c,if_neg c];by_cases b:m%2=1
     .rw[if_pos b,if_pos b];by_cases i:m=n
      .subst i;simp
      .rw[if_neg i,Q0]
     .rw[if_neg b,if_neg b,if_neg (by intro e;subst e;exact b d)]
   .have:Nat.beq (Nat.mod n 2) 1=false:=oO d;rw[this];show Tr.get (.nd a l (r.set x (Nat.sub (Nat.div n 2) 1))) m=_;rw[h,h,ihr,k];by_cases c:m=0
    .rw[if_pos c,if_pos c,Q0]
    .rw[if_neg c,if_neg c];by_cases b:m%2=1
     .rw[if_pos b,if_pos b,if_neg (by intro e;subst e;exact d b)]
     .rw[if_neg b,if_neg b];by_cases i:m=n
      .subst i;simp
      .rw[if_neg i,Q0]
theorem uQ (H:GH) (h:Nat) (o:GO) (k:Nat):(H.set h o).get k=if k=h then some o else H.get k:=by
 unfold GH.get GH.set;rw[uW];by_cases e:k=h<;>simp[e,ob]
theorem US (H:GH) (h:Nat) (o:GO) (k:Nat):(H.set h o).ver k=if k=h then some H.n else H.ver k:=by
 unfold GH.ver GH.set;rw[uW];by_cases e:k=h<;>simp[e,ob]
theorem IB (H:GH) (h k:Nat):(H.del h).get k=if k=h then none else H.get k:=by
 unfold GH.get GH.del;rw[uW];by_cases e:k=h<;>simp[e,ob]
theorem UQ (H:GH) (h k:Nat):(H.del h).ver k=if k=h then none else H.ver k:=by
 unfold GH.ver GH.del;rw[uW];by_cases e:k=h<;>simp[e,ob]
noncomputable def GH.new (H:GH) (o:GO):GH:=⟨H.n+1,H.t.set (some (H.n,o)) H.n⟩
theorem sR (H:GH) (o:GO) (k:Nat):(H.new o).get k=if k=H.n then some o else H.get k:=by
 unfold GH.get GH.new;rw[uW];by_cases e:k=H.n<;>simp[e,ob]
theorem UR (H:GH) (o:GO) (k:Nat):(H.new o).ver k=if k=H.n then some H.n else H.ver k:=by
 unfold GH.ver GH.new;rw[uW];by_cases e:k=H.n<;>simp[e,ob]
theorem SQ {b R:Type} (x:V1 b):∀(f n:Nat) (k:Tr b->R),Jg x f n k=k (EY x f n):=by
 intro f
 induction f with
 |zero=>intro n k;rfl
 |succ f a=>
  intro n k;show Bool.casesOn (motive:=λ_=>R) (Nat.beq n 0) (Bool.casesOn (motive:=λ_=>R) (Nat.beq (Nat.mod n 2) 1) (Jg x f (Nat.sub (Nat.div n 2) 1) λt=>k (.nd none .lf t)) (Jg x f (Nat.div n 2) λt=>k (.nd none t .lf))) (k (.nd x .lf .lf))=k (bif Nat.beq n 0 then .nd x .lf .lf else bif Nat.beq (Nat.mod n 2) 1 then .nd none (EY x f (Nat.div n 2)) .lf else .nd none .lf (EY x f (Nat.sub (Nat.div n 2) 1)));rw[a,a];cases Nat.beq n 0<;>cases Nat.beq (Nat.mod n 2) 1<;>rfl
theorem EX {b R:Type} (x:V1 b):∀(t:Tr b) (n:Nat) (k:Tr b->R),t.setK x n k=k (t.set x n):=by
 intro t
 induction t with
 |lf=>intro n k;exact SQ x (Nat.succ n) n k
 |nd a l r c d=>
  intro n k;show Bool.casesOn (motive:=λ_=>R) (Nat.beq n 0) (Bool.casesOn (motive:=λ_=>R) (Nat.beq (Nat.mod n 2) 1) (r.setK x (Nat.sub (Nat.div n 2) 1) λt=>k (.nd a l t)) (l.setK x (Nat.div n 2) λt=>k (.nd a t r))) (k (.nd x l r))=k (Bool.casesOn (motive:=λ_=>Tr b) (Nat.beq n 0) (Bool.casesOn (motive:=λ_=>Tr b) (Nat.beq (Nat.mod n 2) 1) (.nd a l (r.set x (Nat.sub (Nat.div n 2) 1))) (.nd a (l.set x (Nat.div n 2)) r)) (.nd x l r));rw[c,d];cases Nat.beq n 0<;>cases Nat.beq (Nat.mod n 2) 1<;>rfl
theorem jR {a:Type} (H:GH) (o:GO) (f:Nat->GH->a):H.newK o f=f H.n (H.new o):=by simp only[GH.newK,Ad,EX];rfl
theorem Bp {a:Type} (H:GH) (h:Nat) (o:GO) (f:GH->a):H.setK h o f=f (H.set h o):=by simp only[GH.setK,Ad,EX];rfl
theorem IA {a:Type} (H:GH) (h:Nat) (f:GH->a):H.delK h f=f (H.del h):=by simp only[GH.delK,EX];rfl
theorem ait {R:Type} (a b:V6 GV):∀k:V6 GV->R,lap a b k=k (a++b):=by
 induction a with
 |nil=>intro k;rfl
 |cons x a c=>intro k;exact c _
theorem Tn {R:Type} (a:V6 GV):∀k:V6 GV->R,fc a k=k a:=by
 induction a with
 |nil=>intro k;rfl
 |cons x a b=>intro k;exact b _
theorem abb (H:GH) (v:GV) (f:GH->OR):aba H v f=f (Vr H v):=by
 unfold aba Vr;cases v.asS with
 |none=>rfl
 |some s=>exact IA H s.1 f
theorem jT {H:GH} {h:Nat} {a:V6 GV}:H.cells h=some a↔H.get h=some (.cells a):=by
 unfold GH.cells;rw[aE];constructor
 .rintro⟨o,d,b⟩;cases o with
  |cells c=>cases b;exact d
  |mp e=>cases b
 .intro h;exact⟨_,h,rfl⟩
theorem GO.asM_eq {o:GO} {a:V6 (GV×GV)} (h:o.asM=some a):o = .mp a:=by
 cases o with
 |cells c=>cases h
 |mp e=>cases h;rfl
theorem De (k:Nat) (v:GV) (σ:GF) (t:Nat):HT ((k,v)::σ) t=if t=k then some v else HT σ t:=by
 show Bool.casesOn (motive:=λ_=>V1 GV) (Nat.beq t k) (HT σ t) (some v)=_;by_cases e:t=k
 .subst e;simp
 .rw[oO e,if_neg e]
section
variable {v:GV}
theorem nS {p:IntKind×Int} (h:v.asI=some p):v = .int p.1 p.2:=by cases v<;>cases h;rfl
theorem Ef {p:V4} (h:v.asB=some p):v = .bool p:=by cases v<;>cases h;rfl
theorem Gu {p:Nat×Nat} (h:v.asP=some p):v = .ptr p.1 p.2:=by cases v<;>cases h;rfl
theorem Eg {p:Nat×Nat×Nat×Nat} (h:v.asS=some p):v = .sl p.1 p.2.1 p.2.2.1 p.2.2.2:=by cases v<;>cases h;rfl
theorem aaw {p:Nat×V6 GV×V6 GV} (h:v.asF=some p):v = .fn p.1 p.2.1 p.2.2:=by cases v<;>cases h;rfl
theorem ahc {p:V6 GV} (h:v.asT=some p):v = .tup p:=by cases v<;>cases h;rfl
theorem Ng {p:V6 GV} (h:v.asA=some p):v = .agg p:=by cases v<;>cases h;rfl
theorem rO {p:Nat×Nat} (h:v.asStr=some p):v = .str p.1 p.2:=by cases v<;>cases h;rfl
theorem asM_eq {p:Nat} (h:v.asM=some p):v = .map p:=by cases v<;>cases h;rfl
theorem Aa (h:v.isSnil=true):v = .snil:=by cases v<;>first|rfl|cases h
end
section
variable {d:TypeDesc}
theorem IV {e:V9} (h:tdS d=some e):d = .slice e:=by cases d<;>cases h;rfl
theorem Wl {e:Nat×V9} (h:tdA d=some e):d = .array e.1 e.2:=by cases d<;>cases h;rfl
theorem Sb {e:Array Field} (h:tdF d=some e):d = .struct e:=by cases d<;>cases h;rfl
theorem IU {e:IntKind} (h:tdI d=some e):d = .int e:=by cases d<;>cases h;rfl
theorem aiZ {e:V9×V9} (h:tdM d=some e):d = .map e.1 e.2:=by cases d<;>cases h;rfl
theorem Dz (h:LU d=true):d = .string:=by cases d<;>first|rfl|cases h
theorem Wm (h:tdB d=true):d = .bool:=by cases d<;>first|rfl|cases h
end
theorem IF {a:Int} {n:Nat} (h:asN a=some n):a=n:=by cases a<;>cases h;rfl
theorem ajw {b:V4} {p:Prop} [Decidable p] (h:b=true↔p):b=decide p:=by
 cases b
 .exact(zA6 λa=>by cases h.2 a).symm
 .exact(zAe (h.1 Z)).symm
theorem KM (a b:Int):ltI a b=decide (a<b):=by
  refine ajw ?_;cases a with
  | ofNat a =>cases b with
    |ofNat b=>show Nat.blt a b=true↔_;rw[zAy];simp
    | negSucc b =>
        constructor
        · intro h;cases h
        · intro h;simp at h;omega
  | negSucc a =>cases b with
    | ofNat b =>
        constructor
        · intro _;have:=Int.negSucc_lt_zero a;simp;omega
        · intro _;rfl
    |negSucc b=>show Nat.blt b a=true↔_;rw[zAy];omega
theorem Kx (a b:Int):eqI a b=decide (a=b):=by
  refine ajw ?_;cases a with
  | ofNat a =>cases b with
    |ofNat b=>show Nat.beq a b=true↔_;simp;omega
    | negSucc b =>
        constructor
        · intro h;cases h
        · intro h;cases h
  | negSucc a =>cases b with
    | ofNat b =>
        constructor
        · intro h;cases h
        · intro h;cases h
    |negSucc b=>show Nat.beq a b=true↔_;simp
theorem IJ (a b:V4):Xo a b=(a==b):=by cases a<;>cases b<;>rfl
theorem Ky {a b:IntKind} (h:eqK a b=true):a=b:=zB7 h
theorem Nx (b:V4):fb b=some (.bool b):=by cases b<;>rfl
end Go.Gx
namespace Go.Gx
open Go Go.Sx Go.RowKit
structure Pj where
 b:Nat
 off:Nat
 size:Nat
 x:Obj
 /-- what the evaluator wrote -/
 o:GO
abbrev fE:=Nat->V1 Pj
def fE.le (b a:fE):Prop:=∀h l,b h=some l->a h=some l
theorem fE.le_refl (ρ:fE):ρ.le ρ:=λ_ _ h=>h
theorem fE.le_trans {a b c:fE} (h:a.le b) (k:b.le c):a.le c:=λ_ _ x=>k _ _ (h _ _ x)
inductive Rl (ρ:fE):GV->V0->Prop
 |int (k n):Rl ρ (.int k n) (.int k n)
 |bool (b):Rl ρ (.bool b) (.bool b)
 |str (s:ByteArray):Rl ρ (.str (mZ (bT s)) (bT s).length) (.string s)
 |ptr {h l} (off) (hl:ρ h=some l):Rl ρ (.ptr h off) (.pointer (some ⟨l.b,l.off+off,none⟩))
 |pnil:Rl ρ .pnil (.pointer none)
 |sl {h l off len sz cap} {A:Addr} (hl:ρ h=some l) (hc:len<=cap) (ha:cap=0\/(A=⟨l.b,l.off+off,none⟩/\l.off+off+cap*sz<=l.size)):Rl ρ (.sl h off len sz) (.slice (some A) len cap)
 |snil:Rl ρ .snil (.slice none 0 0)
 |map {h l} (hl:ρ h=some l):Rl ρ (.map h) (.map (some l.b))
 | fn {us vs : List GV} {us' vs' : gE} (f) (h1 : us.length = us'.length) (h2 : ∀ (i : Nat) g v, us[i]?=some g → us'[i]?=some v → Rl ρ g v) (h3 : vs.length = vs'.length) (h4 : ∀ (i : Nat) g v, vs[i]?=some g → vs'[i]?=some v → Rl ρ g v) :
   Rl ρ (.fn f us vs) (.func (.func f) us'.toArray vs'.toArray)
 |fnil:Rl ρ .fnil .nilFunc
 |inil:Rl ρ .inil .nilIface
 |agg {cs:List GV} {vs:gE} (h1:cs.length=vs.length) (h2:∀(i:Nat) g v,cs[i]?=some g->vs[i]?=some v->Rl ρ g v) (h3:∀v∈vs,one v=true):Rl ρ (.agg cs) (.agg vs.toArray)
 |tup {cs:List GV} {vs:gE} (h1:cs.length=vs.length) (h2:∀(i:Nat) g v,cs[i]?=some g->vs[i]?=some v->Rl ρ g v):Rl ρ (.tup cs) (.tuple vs.toArray)
 |un:Rl ρ .un undef
 |bad (v):Rl ρ .bad v
 |opn {h l} (v) (hl:ρ h=some l) (hx:l.x = .cells #[v] 0 (0,0)):Rl ρ (.opn h) v
theorem Rl.le {p c:fE} (d:p.le c) {g:GV} {v:V0} (h:Rl p g v):Rl c g v:=by
 induction h with
 |int k n=>exact .int k n
 |bool b=>exact .bool b
 |str s=>exact .str s
 |ptr m h=>exact .ptr m (d _ _ h)
 |pnil=>exact .pnil
 |sl h r q=>exact .sl (d _ _ h) r q
 |snil=>exact .snil
 |map h=>exact .map (d _ _ h)
 |fn f a o e u j l=>exact .fn f a j e l
 |fnil=>exact .fnil
 |inil=>exact .inil
 |agg a o e i=>exact .agg a i e
 |tup a o i=>exact .tup a i
 |un=>exact .un
 |bad v=>exact .bad v
 |opn v h t=>exact .opn v (d _ _ h) t
structure pX (ρ:fE) (gs:List GV) (vs:gE):Prop where
 len:gs.length=vs.length
 at':∀(i:Nat) g v,gs[i]?=some g->vs[i]?=some v->Rl ρ g v
theorem pX.nil {ρ:fE}:pX ρ [] []:=⟨rfl,λi g v h=>by simp at h⟩
theorem pX.cons {ρ:fE} {g:GV} {v:V0} {gs:V6 GV} {vs:gE} (h:Rl ρ g v) (r:pX ρ gs vs):pX ρ (g::gs) (v::vs):=⟨by simp[r.len],λi a b c d=>by
 cases i with
 |zero=>simp at c d;subst c d;exact h
 |succ i=>simp at c d;exact r.at' i a b c d⟩
theorem pX.of_cons {e:fE} {g:GV} {gs:V6 GV} {c:gE} (h:pX e (g::gs) c):∃v d,c=v::d/\Rl e g v/\pX e gs d:=by
 cases c with
 |nil=>have:=h.len;simp at this
 |cons v c=>exact⟨v,c,rfl,h.at' 0 _ _ Z Z,by have:=h.len;simpa using this,λi a b f j=>h.at' (i+1) a b (by simpa using f) (by simpa using j)⟩
theorem pX.of_nil {b:fE} {a:gE} (h:pX b [] a):a=[]:=zAo h.len.symm
theorem pX.le {c a:fE} (f:c.le a) {b:V6 GV} {vs:gE} (h:pX c b vs):pX a b vs:=⟨h.len,λi g v d e=>(h.at' i g v d e).le f⟩
theorem pX.append {ρ:fE} {c a:V6 GV} {vs b:gE} (h:pX ρ c vs) (k:pX ρ a b):pX ρ (c++a) (vs++b):=by
 induction c generalizing vs with
 |nil=>rw[h.of_nil];exact k
 |cons g c f=>obtain⟨v,vs,rfl,d,e⟩:=h.of_cons;exact .cons d (f e)
theorem pX.get {ρ:fE} {b:V6 GV} {a:gE} (h:pX ρ b a) {i:Nat} {g:GV} (c:b[i]?=some g):∃v,a[i]?=some v/\Rl ρ g v:=by
 have d:=bH c;have:i<a.length:=h.len▸d;exact⟨a[i],zA0 this,h.at' i g _ c (zA0 this)⟩
theorem pX.sub {ρ:fE} {c:V6 GV} {d:gE} (h:pX ρ c d) (o n:Nat):pX ρ ((c.drop o).take n) ((d.drop o).take n):=
 ⟨by simp[h.len],λi g v a b=>by
  rw[zAt]at a b;split at a
  .rename_i e;rw[if_pos e]at b;rw[zAu]at a b;exact h.at' _ g v a b
  .cases a⟩
section
variable {ρ:fE} {V:V0}
theorem Rl.int_inv {k:IntKind} {n:Int} (h:Rl ρ (.int k n) V):V = .int k n:=by cases h;rfl
theorem Rl.bool_inv {b:V4} (h:Rl ρ (.bool b) V):V = .bool b:=by cases h;rfl
theorem Rl.str_inv {n l:Nat} (h:Rl ρ (.str n l) V):∃s,V = .string s/\n=mZ (bT s)/\l=(bT s).length:=by cases h;exact⟨_,rfl,rfl,rfl⟩
theorem Rl.ptr_inv {h o:Nat} (x:Rl ρ (.ptr h o) V):∃l,ρ h=some l/\V = .pointer (some ⟨l.b,l.off+o,none⟩):=by cases x with|ptr o a=>exact⟨_,a,rfl⟩
theorem Rl.sl_inv {h o n a:Nat} (x:Rl ρ (.sl h o n a) V):∃l cap A,ρ h=some l/\V = .slice (some A) n cap/\n<=cap/\(cap=0\/(A=⟨l.b,l.off+o,none⟩/\l.off+o+cap*a<=l.size)):=by
 cases x with|sl e d c=>exact⟨_,_,_,e,rfl,d,c⟩
theorem Rl.snil_inv (h:Rl ρ .snil V):V = .slice none 0 0:=by cases h;rfl
theorem Rl.map_inv {h:Nat} (x:Rl ρ (.map h) V):∃l,ρ h=some l/\V = .map (some l.b):=by cases x with|map a=>exact⟨_,a,rfl⟩
theorem Rl.fn_inv {f:Nat} {c d:V6 GV} (x:Rl ρ (.fn f c d) V):∃a b,V = .func (.func f) a.toArray b.toArray/\pX ρ c a/\pX ρ d b:=by
 cases x with|fn f e g h i=>exact⟨_,_,rfl,⟨e,g⟩,⟨h,i⟩⟩
theorem Rl.agg_inv {b:V6 GV} (x:Rl ρ (.agg b) V):∃a,V = .agg a.toArray/\pX ρ b a/\∀v∈a,one v=true:=by
 cases x with|agg c d e=>exact⟨_,rfl,⟨c,d⟩,e⟩
theorem Rl.tup_inv {a:V6 GV} (x:Rl ρ (.tup a) V):∃b,V = .tuple b.toArray/\pX ρ a b:=by
 cases x with|tup c d=>exact⟨_,rfl,⟨c,d⟩⟩
theorem Rl.opn_inv {h:Nat} (x:Rl ρ (.opn h) V):∃l,ρ h=some l/\l.x = .cells #[V] 0 (0,0):=by cases x with|opn v a b=>exact⟨_,a,b⟩
theorem Rl.un_inv (x:Rl ρ .un V):V=undef:=by cases x;rfl
theorem Rl.fn' {f:Nat} {e g:V6 GV} {a b:V6 V0} (c:pX ρ e a) (d:pX ρ g b):Rl ρ (.fn f e g) (.func (.func f) a.toArray b.toArray):= .fn f c.len c.at' d.len d.at'
theorem Jc {cs:V6 GV} {vs:V6 V0} (h:pX ρ cs vs) (a:∀v∈vs,one v=true):Rl ρ (.agg cs) (.agg vs.toArray):= .agg h.len h.at' a
theorem Mo {a:V6 GV} {b:V6 V0} (h:pX ρ a b):Rl ρ (.tup a) (.tuple b.toArray):= .tup h.len h.at'
theorem Rl.cells {g:GV} {cs:V6 GV} (h:Rl ρ g V) (a:g.cells=some cs):∃vs,V.cells=vs.toArray/\pX ρ cs vs/\∀v∈vs,one v=true:=by
 have b:∀g V,Rl ρ g V->one V=true->∃vs,#[V]=vs.toArray/\pX ρ [g] vs/\∀v∈vs,one v=true:=λg V h c=>⟨[V],rfl,.cons h .nil,λv e=>by simp at e;subst e;exact c⟩
 have f:=h;cases h with
 |agg c d i=>cases a;exact⟨_,rfl,⟨c,d⟩,i⟩
 |tup c d=>cases a
 |un=>cases a
 |bad v=>cases a
 |opn v j k=>cases a
 |_=>cases a;exact b _ _ f Z
end
theorem Rt {ρ:fE} {v:V0} {g:GV} (h:Zk v=some g):Rl ρ g v/\one v=true:=by
 unfold Zk at h;split at h
 .cases h;exact⟨.int _ _,rfl⟩
 .cases h;exact⟨.bool _,rfl⟩
 .cases h;exact⟨.snil,rfl⟩
 .cases h;exact⟨.pnil,rfl⟩
 .cases h;exact⟨.fnil,rfl⟩
 .cases h;exact⟨.inil,rfl⟩
 .simp only[Ad]at h;cases h;exact⟨.str _,rfl⟩
 .cases h
theorem XH {ρ:fE}:∀{f:V6 V0} {e:V6 GV},afz f=some e->pX ρ e f/\∀v∈f,one v=true
 | [],e,h=>by cases h;exact⟨.nil,λv h=>by simp at h⟩
 | v :: f, e, h =>by
  obtain⟨x,j,k⟩:=aE.1 (show ob (Zk v) (λx=>ob (afz f) λi=>some (x::i))=some e from h);obtain⟨i,l,m⟩:=aE.1 k;cases m;obtain⟨a,b⟩:=XH l;obtain⟨c,d⟩:=Rt (ρ:=ρ) j;exact⟨.cons c a,λu g=>by
   rcases zAn.1 g with rfl|g
   .exact d
   .exact b u g⟩
theorem VV {ρ:fE} {v:V0} {g:GV} (h:ofV v=some g):Rl ρ g v:=by
 unfold ofV at h;split at h
 .have⟨e,c,d⟩:=aE.1 h;cases d;have⟨a,b⟩:=XH (ρ:=ρ) c;have:=Jc a b;simpa using this
 .exact(Rt h).1
theorem XV {ρ:fE} {s:Sem V0} {g:GV} (h:La s=some g):∃v,Rl ρ g v/\s = .pure v:=by
 unfold La at h;split at h
 .exact⟨_,(Rt h).1,rfl⟩
 .cases h
structure mE (ρ:fE) (n:Nat) (σ:GF) (a:Act):Prop where
 defers:a.defers=[]
 size:a.tmps.size=n
 slot:∀t g,HT σ t=some g->Rl ρ g (a.eval (.tmp t))
theorem mE.le {c b:fE} (f:c.le b) {n:Nat} {d:GF} {a:Act} (h:mE c n d a):mE b n d a:=⟨h.defers,h.size,λt g e=>(h.slot t g e).le f⟩
theorem mE.put {c:fE} {n:Nat} {f:GF} {a:Act} (h:mE c n f a) {d:Nat} (i:d<n) {g:GV} {v:V0} (j:Rl c g v):mE c n ((d,g)::f) (a.put (some d) v):=
 ⟨h.defers,by simp[Act.put,h.size],λt u b=>by
  rw[De]at b;by_cases e:t=d
  .subst e;rw[if_pos Z]at b;cases b;have:(a.put (some t) v).eval (.tmp t)=v:=by simp[Act.put,Act.eval,h.size,i]
   rw[this];exact j
  .rw[if_neg e]at b;have:(a.put (some d) v).eval (.tmp t)=a.eval (.tmp t):=by
    simp only[Act.put,Act.eval,Array.getD_eq_getD_getElem?];rw[zB2 (Ne.symm e)]
   rw[this];exact h.slot t u b⟩
section
variable {ρ:fE} {n:Nat} {σ:GF} {a:Act}
theorem cV (F:mE ρ n σ a) {x:V3} {g:GV} (h:lH σ x=some g):Rl ρ g (a.eval x):=by
 cases x with
 |tmp t=>exact F.slot t g h
 |const v=>exact VV h
 |global g=>cases h
 |func f=>cases h;exact Rl.fn' .nil .nil
theorem Hv (F:mE ρ n σ a):∀{b:V6 V3} {gs:V6 GV},IL σ b=some gs->pX ρ gs (b.map a.eval)
 | [],gs,h=>by cases h;exact .nil
 |x::b,gs,h=>by
  have⟨v,d,e⟩:=aE.1 (show ob (lH σ x) (λv=>ob (IL σ b) λc=>some (v::c))=some gs from h);have⟨c,f,g⟩:=aE.1 e;cases g;exact .cons (cV F d) (Hv F f)
def RlP (ρ:fE) (b:V6 (Nat×GV)) (c:V6 (Nat×V0)):Prop:=b.map (·.1)=c.map (·.1)/\pX ρ (b.map (·.2)) (c.map (·.2))
theorem EB (F:mE ρ n σ a):∀{b:V6 (Nat×V3)} {gs:V6 (Nat×GV)},xU σ b=some gs->RlP ρ gs (b.map λp=>(p.1,a.eval p.2))
 | [],gs,h=>by cases h;exact⟨rfl,.nil⟩
 |x::b,gs,h=>by
  have⟨v,f,g⟩:=aE.1 (show ob (lH σ x.2) (λv=>ob (xU σ b) λc=>some ((x.1,v)::c))=some gs from h);have⟨c,i,j⟩:=aE.1 g;cases j;have⟨d,e⟩:=EB F i;exact⟨by simp only[zBd,d],.cons (cV F f) e⟩
end
def EP (P:Program) (ρ:fE) (s:Sem V0) (g:GV):Prop:=∃v,Rl ρ g v/\∀w,s.run P w = .ok v w
structure gQ (P:Program) (tb:TB):Prop where
 tab:∀{T d},tb T=some d->uN P T d
 /-- structs of leaves may be compared -/
 eqs:∀{T fs},Pz T=true->tI tb T=some fs->AD tb fs=true->P.stoodInHeld T=false/\∀f∈fs,f.name ≠ "_"
noncomputable def ajJ (P:Program) (b:TB):V4:=(List.range 512).all λT=>bif Pz T then(Option.casesOn (motive:=λ_=>V4) (tI b T) true λa=>bif AD b a then(!P.stoodInHeld T&&a.all λf=> !(f.name == "_"))else true)else true
theorem aig {P:Program} {c:TB} (h:ajJ P c=true) {T:Nat} {b:V6 Field} (a:Pz T=true) (i:tI c T=some b) (j:AD c b=true):P.stoodInHeld T=false/\∀f∈b,f.name ≠ "_":=by
 have g:T<512:=by
  have⟨_,h⟩:=bV.1 (show(bif Nat.blt 31 T then(bif Nat.blt T 512 then some ()else none)else none)=some () by
   unfold Pz at a;cases e:Nat.blt 31 T<;>rw[e]at a
   .cases a
   .rw[cond_true]at a;rw[a];rfl)
  have⟨h,_⟩:=bV.1 h;simpa [zAy]using h
 have:=zA7.1 h T (zAj.2 g);rw[a,cond_true,i]at this;have this:(bif AD c b then(!P.stoodInHeld T&&b.all λf=> !(f.name == "_"))else true)=true:=this;rw[j,cond_true,zA8]at this;exact⟨by simpa using this.1,λf d=>by simpa using zA7.1 this.2 f d⟩
section
variable {P:Program} {tb:TB} {ρ:fE} {V U W:V0} {v u t g:GV}
theorem Wx {k:IntKind} {z:Int} {g:GV} (h:gw k z=some g):g = .int k (k.wrap z):=by
  unfold gw at h;rw[PI]at h;cases b:agt k with
  | true =>
    rw[b]at h;have⟨c,d⟩:=bV.1 h;cases d;have e:k = .i64:=by cases k<;>first|rfl|cases b
    subst e;have : -9223372036854775808<=z/\z<=9223372036854775807:=by
      cases z with
      | ofNat a =>
          have : a < 9223372036854775808 := by simpa [abC, zAy] using c
          simp only[Int.ofNat_eq_natCast];omega
      | negSucc a =>
          have : a < 9223372036854775808 := by simpa [abC, zAy] using c
          omega
    rw[Qs this.1 this.2]
  | false =>
    rw[b]at h;simp only[cond_false,PI]at h;cases h;rfl
theorem aeg {l:BinOp} {k:IntKind} {a b:Int} {T:V9} (i:MF l=false) (h:ajy l k a b=some g):∃v,Rl ρ g v/\binOp l T (.int k a) (.int k b) = .pure v:=by
 have j:∀{p:Prop} [Decidable p] {c:V4},c=decide p->fb c=some g->Rl ρ g (.bool (decide p)):=λe h=>by rw[Nx]at h;cases h;rw[e];exact .bool _
 have d:∀f,MF f=false->La (binOp f 0 (.int k a) (.int k b))=some g->∃v,Rl ρ g v/\binOp f T (.int k a) (.int k b) = .pure v:=λf m h=>by
  have⟨v,n,o⟩:=XV (ρ:=ρ) h;refine⟨v,n,?_⟩
  rw[<-o];cases f<;>first|rfl|cases m
 cases l with
 |add=>exact⟨_,by rw[Wx h];exact .int _ _,by simp[binOp,Op.intArith];rfl⟩
 |sub=>exact⟨_,by rw[Wx h];exact .int _ _,by simp[binOp,Op.intArith];rfl⟩
 |eql=>exact⟨.bool (decide (a=b)),j (Kx a b) h,by simp[binOp,Op.intCmp];rfl⟩
 |neq=>exact⟨.bool (decide (¬a=b)),j (by rw[Kx];simp) h,by simp[binOp,Op.intCmp];rfl⟩
 |lss=>exact⟨.bool (decide (a<b)),j (KM a b) h,by simp[binOp,Op.intCmp];rfl⟩
 |leq=>exact⟨.bool (decide (a<=b)),j (by rw[KM,<-decide_not];exact decide_eq_decide.2 V7) h,by simp[binOp,Op.intCmp];rfl⟩
 |gtr=>exact⟨.bool (decide (b<a)),j (KM b a) h,by simp[binOp,Op.intCmp];rfl⟩
 |geq=>exact⟨.bool (decide (b<=a)),j (by rw[KM,<-decide_not];exact decide_eq_decide.2 V7) h,by simp[binOp,Op.intCmp];rfl⟩
 |shl=>cases i
 |shr=>cases i
 |mul=>exact d .mul i h
 |quo=>exact d .quo i h
 |rem=>exact d .rem i h
 |and=>exact d .and i h
 |or=>exact d .or i h
 |xor=>exact d .xor i h
 |andNot=>exact d .andNot i h
end
theorem zY (b:UInt8) (l:V6 UInt8):mZ (b::l)=b.toNat+256*mZ l:=rfl
theorem Jr:∀{x y:V6 UInt8},x.length=y.length->mZ x=mZ y->x=y
 | [],[],_,_=>rfl
 | [],_::_,h,_=>by simp at h
 |_::_,[],h,_=>by simp at h
 |a::x,b::y,h,e=>by
  rw[zY,zY]at e;have f:=a.toNat_lt;have g:=b.toNat_lt;have c:a.toNat=b.toNat:=V7
  have d:mZ x=mZ y:=V7
  rw[UInt8.toNat_inj.1 c,Jr (by simpa using h) d]
theorem Kv:∀(x:V6 UInt8) (n:Nat),mZ x / 256^n=mZ (x.drop n)
 |x,0=>by simp
 | [],n+1=>by simp[mZ]
 |b::x,n+1=>by
  rw[zY,List.drop_succ_cons,<-Kv x n,Nat.pow_succ,Nat.mul_comm (256^n) 256,<-Nat.div_div_eq_div_mul];have:=b.toNat_lt;congr 1;omega
theorem Py:∀(x:V6 UInt8) (n:Nat),mZ x%256^n=mZ (x.take n)
 |x,0=>by simp[mZ,Nat.mod_one]
 | [],n+1=>by simp[mZ]
 |b::x,n+1=>by
  rw[zY,List.take_succ_cons,zY,<-Py x n,Nat.pow_succ,Nat.mul_comm (256^n) 256,Nat.mod_mul];have d:=b.toNat_lt;have a:(b.toNat+256*mZ x)%256=b.toNat:=V7
  have c:(b.toNat+256*mZ x) / 256=mZ x:=V7
  rw[a,c]
theorem akw (n l:Nat):Nat.shiftRight n (Nat.mul 8 l)=n / 256^l:=by
 show n >>> (8*l)=_;rw[Nat.shiftRight_eq_div_pow,Nat.pow_mul]
theorem akr (k:Nat):Nat.pow 2 (Nat.mul 8 k)=256^k:=by
 show 2^(8*k)=_;rw[Nat.pow_mul]
theorem abe (x:V6 UInt8) (l k:Nat):Nat.mod (Nat.shiftRight (mZ x) (Nat.mul 8 l)) (Nat.pow 2 (Nat.mul 8 k))=mZ ((x.drop l).take k):=by
 rw[akw,akr];show mZ x / 256^l%256^k=_;rw[Kv,Py]
theorem Xn (x:V6 UInt8) (i:Nat) (h:i<x.length):Nat.mod (Nat.shiftRight (mZ x) (Nat.mul 8 i)) 256=(x[i]).toNat:=by
 rw[akw];show mZ x / 256^i%256=_;rw[Kv,List.drop_eq_getElem_cons h,zY];have:=(x[i]).toNat_lt;omega
theorem YI (s:ByteArray) (i:Nat):s[i]?=(bT s)[i]?:=by
 unfold bT;by_cases h:i<s.size
 .rw[getElem?_pos s i h,zAl,Array.getElem?_eq_getElem (by simpa using h)];rfl
 .rw[getElem?_neg s i h];rw[zAq (by have:=Lib.size_eq s;omega)]
section
variable {P:Program} {tb:TB} {ρ:fE} {V U W:V0} {v u t g:GV}
theorem ajx (a b:ByteArray):(a==b)=(a.toList==b.toList):=by
 rw[Lib.toList_data,Lib.toList_data];have⟨⟨x⟩⟩:=a;have⟨⟨y⟩⟩:=b;have:((⟨⟨x⟩⟩:ByteArray)==⟨⟨y⟩⟩)=((⟨x⟩:Array UInt8)==⟨y⟩):=rfl;rw[this];simp
theorem aif {a b:Nat×Nat} {s r:ByteArray} (f:a.1=mZ (bT s)) (h:a.2=(bT s).length) (i:b.1=mZ (bT r)) (j:b.2=(bT r).length):UM a b=(s.toList==r.toList):=by
 rw[Lib.toList_data,Lib.toList_data];unfold UM;rw[f,h,i,j];by_cases d:(bT s).length=(bT r).length
 .have k:Nat.beq (bT r).length (bT r).length=true:=V8
  rw[d,k,cond_true];by_cases c:mZ (bT s)=mZ (bT r)
  .have:=Jr d c;unfold bT at this;rw[c,this];simp
  .rw[oO c];symm;rw[beq_eq_false_iff_ne];intro e;exact c (by unfold bT;rw[e])
 .rw[oO d,cond_false];symm;rw[beq_eq_false_iff_ne];intro e;exact d (by unfold bT;rw[e])
theorem Zh (z:gQ P tb) {T:V9} {t:Ty} (C:tb T=some t) {q:V4} (e:Rl ρ v V) (d:Rl ρ u U) (h:VJ t v u=some q) (m:Nat) (w:V2):(Op.equalIn (m+1) T V U).run P w = .ok q w:=by
 have c:=(z.tab C).run_und w;unfold VJ at h;cases j:v.asI with
 |some a=>
  rw[j]at h;have⟨b,f,h⟩:=aE.1 h;have⟨k,B,h⟩:=aE.1 h;have⟨l,h⟩:=bV.1 h;cases h;rw[nS j]at e;rw[nS f]at d;rw[e.int_inv,d.int_inv,<-Ky l];rw[IU B]at c;unfold Op.equalIn;rw[Kx];simp[c];rfl
 | none =>
  rw[j]at h;simp only at h;cases n:v.asStr with
  |some a=>
   rw[n]at h;have⟨b,f,h⟩:=aE.1 h;have⟨i,h⟩:=bV.1 h;cases h;rw[rO n]at e;rw[rO f]at d;obtain⟨s,rfl,o,p⟩:=e.str_inv;obtain⟨r,rfl,x,y⟩:=d.str_inv;rw[Dz i]at c;rw[aif o p x y,<-ajx];unfold Op.equalIn;simp[c]
  |none=>
   rw[n]at h;have⟨a,A,h⟩:=aE.1 (show ob v.asB _=some q from h);have⟨b,f,h⟩:=aE.1 h;have⟨i,h⟩:=bV.1 h;cases h;rw[Ef A]at e;rw[Ef f]at d;rw[e.bool_inv,d.bool_inv];rw[Wm i]at c;unfold Op.equalIn;rw[IJ];simp[c]
theorem PN {t:Ty} (h:Im t=true):(∃k,t.desc = .int k)\/t.desc = .string\/t.desc = .bool:=by
 unfold Im at h;cases a:tdB t.desc with
 |true=>exact .inr (.inr (Wm a))
 | false =>
  rw[a]at h;cases c:LU t.desc with
  |true=>exact .inr (.inl (Dz c))
  |false=>
   rw[c]at h;cases b:tdI t.desc with
   |none=>rw[b]at h;cases h
   |some k=>exact .inl ⟨k,IU b⟩
theorem LG {f:Field} {a:V6 Field} (h:AD tb (f::a)=true):∃t,tb f.type=some t/\Im t=true/\AD tb a=true:=by
 have h:(Option.casesOn (motive:=λ_=>V4) (tb f.type) false λt=>bif Im t then AD tb a else false)=true:=h;cases c:tb f.type with
 |none=>rw[c]at h;cases h
 |some t=>
  rw[c]at h;have h:(bif Im t then AD tb a else false)=true:=h;cases b:Im t with
  |false=>rw[b]at h;cases h
  |true=>rw[b]at h;exact⟨t,rfl,b,h⟩
theorem Uh (c:gQ P tb) {T:V9} {t:Ty} (h:tb T=some t) (f:Im t=true) {cs:Array V0} {b:Nat} {x:V0} (i:cs[b]?=some x) (w:V2):(part T cs b).run P w = .ok x w:=by
 have a:=(c.tab h).run_und w;have d:(isAgg T).run P w = .ok false w:=by
  unfold isAgg;rcases PN f with⟨k,e⟩|e|e<;>rw[e]at a<;>simp[a]
 unfold part;simp[d,i]
theorem Uf (k:gQ P tb) {cs n:V6 GV} {z s:V6 V0} (D:pX ρ cs z) (C:pX ρ n s) (m:Nat) (w:V2):∀{c:V6 Field} {q:V4},aeT tb cs n c=some q->AD tb c=true->(∀f∈c,f.name ≠ "_")->
  Sem.run P (forIn c ((none,()):V1 V4×Unit) λf __s=>if f.name = "_" then pure (ForInStep.yield (none,()))else do
   let __do_lift <-part f.type z.toArray f.offset;let __do_lift_1 <-part f.type s.toArray f.offset;let __do_lift <-Op.equalIn (m+1) f.type __do_lift __do_lift_1
   if __do_lift=false then pure (ForInStep.done (some false,()))else pure (ForInStep.yield (none,()))) w = .ok (if q then none else some false,()) w
 | [],q,h,_,_=>by
  have:q=true:=by have h:some true=some q:=h;cases h;rfl
  subst this;simp
 | f :: c, q, h, hl, hn =>by
  have⟨t,l,h⟩:=aE.1 (show ob (tb f.type) _=some q from h);have⟨a,A,h⟩:=aE.1 h;have⟨b,B,h⟩:=aE.1 h;have⟨e,H,h⟩:=aE.1 h;have⟨M,j,d,o⟩:=LG hl;rw[l]at j;cases j;rw[xV]at A B;have⟨x,J,p⟩:=D.get A;have⟨y,K,r⟩:=C.get B;have E:=Uh k l d (cs:=z.toArray) (by simpa using J) w;have F:=Uh k l d (cs:=s.toArray) (by simpa using K) w;have G:=Zh k l p r H m w;have i:=hn f zAd;cases e with
  |false=>
   have:q=false:=by have h:some false=some q:=h;cases h;rfl
   subst this;simp[List.forIn_cons,i,E,F,G]
  |true=>
   have L:=Uf k D C m w (show aeT tb cs n c=some q from h) o λf I=>hn f (zAk _ I);simp[List.forIn_cons,i,E,F,G,L]
theorem YQ (f:gQ P tb) {T:V9} {d:V6 Field} (r:Pz T=true) (b:tI tb T=some d) (p:AD tb d=true) {n o:V6 GV} {l j:V6 V0} (B:pX ρ n l) (A:pX ρ o j) {q:V4} (h:aeT tb n o d=some q) (w:V2):
  (Op.equal T (.agg l.toArray) (.agg j.toArray)).run P w = .ok q w:=by
 have⟨y,x⟩:=f.eqs r b p;have⟨t,z,e⟩:=aE.1 (show ob (tb T) _=some d from b);have⟨a,s,e⟩:=aE.1 e;cases e;have c:=(f.tab z).run_und w;rw[Sb s]at c;have⟨a⟩:=a;have i:∀m,(Op.equalIn (m+1+1) T (.agg l.toArray) (.agg j.toArray)).run P w = .ok q w:=λm=>by
  have k:=Uf f B A m w h p x;unfold Op.equalIn;simp[c,y];simp only[]at k;rw[k];cases q<;>simp
 exact i 9998
theorem Kw (b:gQ P tb):∀(m:Nat) {T:V9} {t:Ty},tb T=some t->Im t=true->P.eqGuardType (m+1) T=false:=λm T t d c=>by
 have a:=(b.tab d).und;unfold Program.eqGuardType;rcases PN c with⟨k,e⟩|e|e<;>rw[e]at a<;>simp[a]
theorem Nu (p:gQ P tb) {T:V9} {d:V6 Field} (k:tI tb T=some d) (s:AD tb d=true):P.eqGuardType P.depth T=false:=by
 have⟨t,w,e⟩:=aE.1 (show ob (tb T) _=some d from k);have⟨a,r,e⟩:=aE.1 e;cases e;have c:=(p.tab w).und;rw[Sb r]at c;have o:∀m,P.eqGuardType (m+2) T=false:=λm=>by
  unfold Program.eqGuardType;rw[c];simp only;rw[Array.any_eq_false'];intro f b;have:f∈a.toList:=by simpa using b
  have n:∀(l:V6 Field),AD tb l=true->∀f∈l,∃t,tb f.type=some t/\Im t=true:=by
   intro l
   induction l with
   |nil=>intro _ f b;cases b
   |cons x l y=>
    intro h f b;have⟨t,i,j,q⟩:=LG h;rcases zAn.1 b with rfl|b
    .exact⟨t,i,j⟩
    .exact y q f b
  have⟨z,i,j⟩:=n _ s f this;simp[Kw p m i j]
 unfold Program.depth;exact o _
theorem Zb (f:gQ P tb) {e:BinOp} {T:V9} {d:V6 Field} (c:tI tb T=some d) (i:AD tb d=true) (x y:V3) (a b:Array V0) (w:V2):(eqGuard e T x y (.agg a) (.agg b)).run P w = .ok () w:=by
 have h:=Nu f c i;unfold eqGuard;cases e<;>simp[h]
theorem IG {d:BinOp} {T:V9} {q:V4} {V U:V0} {x y:V3} (f:∀w,(eqGuard d T x y V U).run P w = .ok () w) (e:∀w,(Op.equal T V U).run P w = .ok q w) (i:binOp .eql T V U=(do pure (.bool (<-Op.equal T V U)))) (j:binOp .neq T V U=(do pure (.bool (!(<-Op.equal T V U))))) (h:aef d q true=some g):
  EP P ρ (do eqGuard d T x y V U;binOp d T V U) g:=by
 cases d with
 |eql=>exact⟨.bool q,by have c:fb (Xo q true)=some g:=h;rw[Nx,IJ]at c;cases c;cases q<;>exact .bool _,λw=>by have a:=f w;have b:=e w;rw[i];simp[a,b]⟩
 |neq=>exact⟨.bool (!q),by have c:fb (!Xo q true)=some g:=h;rw[Nx,IJ]at c;cases c;cases q<;>exact .bool _,λw=>by have a:=f w;have b:=e w;rw[j];simp[a,b]⟩
 |_=>cases h
theorem adp (m:gQ P tb) {f:BinOp} {T:V9} (x y:V3) (c:Rl ρ v V) (j:Rl ρ u U) (h:ado tb f T v u=some g):EP P ρ (do eqGuard f T x y V U;binOp f T V U) g:=by
 unfold ado at h;cases o:v.asA with
 |some K=>
  rw[o]at h;have⟨L,D,h⟩:=aE.1 (show ob u.asA _=some g from h);have⟨z,h⟩:=bV.1 h;have⟨M,d,h⟩:=aE.1 h;have⟨p,h⟩:=bV.1 h;have⟨q,F,h⟩:=aE.1 h;rw[Ng o]at c;rw[Ng D]at j;obtain⟨O,rfl,G,_⟩:=c.agg_inv;obtain⟨N,rfl,r,_⟩:=j.agg_inv;exact IG (Zb m d p x y _ _) (YQ m z d p G r F) Z Z h
 | none =>
  rw[o]at h;have⟨J,h⟩:=bV.1 (show(bif u.isSnil then _ else none)=some g from h);have⟨n,i,h⟩:=aE.1 h;have⟨t,I,h⟩:=aE.1 h;have⟨e,E,h⟩:=aE.1 h;rw[Aa J]at j;have B:=j.snil_inv;subst B;have b:=λw=>(m.tab I).run_und w;rw[IV E]at b;cases a:v.isSnil with
  | true =>
   rw[a]at h;rw[Aa a]at c;have C:=c.snil_inv;subst C;refine IG (λw=>?_) (q:=true) (λw=>?_) Z Z h
   .unfold eqGuard;cases f<;>simp
   .have:(Op.equalIn (9999+1) T (.slice none 0 0) (.slice none 0 0)).run P w = .ok true w:=by
     unfold Op.equalIn;simp[b w]
    exact this
  | false =>
   rw[a]at h;unfold ae_ at i;rw[a]at i;have⟨s,H,i⟩:=aE.1 (show ob v.asS _=some n from i);rw[Eg H]at c;obtain⟨l,k,A,p,rfl,_,_⟩:=c.sl_inv;refine IG (λw=>?_) (q:=false) (λw=>?_) Z Z h
   .unfold eqGuard;cases f<;>simp
   .have:(Op.equalIn (9999+1) T (.slice (some A) s.2.2.1 k) (.slice none 0 0)).run P w = .ok false w:=by
     unfold Op.equalIn;simp[b w]
    exact this
theorem LB:∀(x y:V6 UInt8),mZ (x++y)=mZ x+256^x.length*mZ y
 | [],y=>by simp[mZ]
 |b::x,y=>by
  rw[List.cons_append,zY,zY,LB x y,zAa,Nat.pow_succ];rw[Nat.mul_add,Nat.mul_comm (256^x.length) 256,Nat.mul_assoc];omega
theorem Xi {a b:Nat×Nat} {s r:ByteArray} (f:a.1=mZ (bT s)) (c:a.2=(bT s).length) (j:b.1=mZ (bT r)) (k:b.2=(bT r).length) (h:ahP a b=some g) (w:V2):Rl ρ g (.string (s++r))/\(Op.stringOp .add s r).run P w = .ok (.string (s++r)) w:=by
 unfold ahP at h;have⟨e,h⟩:=bV.1 h;rw[Ad,Ad]at h;cases h;have e:a.2+b.2<16777216:=by simpa [zAy]using e
 have d:bT (s++r)=bT s++bT r:=by
  unfold bT;have⟨⟨x⟩⟩:=s;have⟨⟨y⟩⟩:=r;simp
 constructor
 .have l:Nat.add a.1 (Nat.mul (Nat.pow 2 (Nat.mul 8 a.2)) b.1)=mZ (bT (s++r)):=by
   rw[d,LB,akr,f,c,j];rfl
  have m:Nat.add a.2 b.2=(bT (s++r)).length:=by rw[d,zA4,c,k];rfl
  rw[l,m];exact .str _
 .have B:(s.size:Int)+(r.size:Int)<=9223372036854775807:=by
   have o:=Lib.size_eq s;have p:=Lib.size_eq r;have q:(bT s).length=s.data.size:=by unfold bT;simp
   have z:(bT r).length=r.data.size:=by unfold bT;simp
   have A:s.data.toList.length=s.data.size:=V8
   have i:r.data.toList.length=r.data.size:=V8
   omega
  have n:¬((((s.size+r.size:Nat)):Int)>IntKind.i64.max):=by
   show¬((((s.size+r.size:Nat)):Int)>9223372036854775807);omega
  unfold Op.stringOp;simp only[];rw[if_neg n];rfl
theorem Yg (S:gQ P tb) {i:BinOp} {T:V9} (x y:V3) (B:Rl ρ v V) (A:Rl ρ u U) (h:Be tb i T v u=some g):EP P ρ (do eqGuard i T x y V U;binOp i T V U) g:=by
 unfold Be at h;cases hi:v.asI with
 | some a =>
  rw[hi]at h;have⟨b,C,h⟩:=aE.1 h;rw[nS hi]at B;rw[nS C]at A;rw[B.int_inv,A.int_inv];have hg:∀w,(eqGuard i T x y (.int a.1 a.2) (.int b.1 b.2)).run P w = .ok () w:=λw=>nA w;cases M:MF i with
  |true=>
   rw[M]at h;have⟨z,j,l⟩:=XV (ρ:=ρ) h;have e:binOp i T (.int a.1 a.2) (.int b.1 b.2)=binOp i 0 (.int a.1 a.2) (.int b.1 b.2):=by cases i<;>first|rfl|cases M
   exact⟨z,j,λw=>by rw[e,l];simp[hg w]⟩
  |false=>
   rw[M]at h;simp only[cond_false]at h;have⟨K,h⟩:=bV.1 h;have K:=Ky K;have⟨z,j,l⟩:=aeg (ρ:=ρ) (T:=T) M h;exact⟨z,j,λw=>by rw[<-K,l];have:=hg w;rw[<-K]at this;simp[this]⟩
 | none =>
  rw[hi]at h;simp only at h;cases q:v.asStr with
  | some a =>
   rw[q]at h;have⟨b,C,h⟩:=aE.1 h;rw[rO q]at B;rw[rO C]at A;obtain⟨s,rfl,D,E⟩:=B.str_inv;obtain⟨r,rfl,O,Q⟩:=A.str_inv;have o:UM a b=(s.toList==r.toList):=by
    rw[Lib.toList_data,Lib.toList_data];unfold UM;rw[D,E,O,Q];by_cases L:(bT s).length=(bT r).length
    .have C:Nat.beq (bT r).length (bT r).length=true:=V8
     rw[L,C,cond_true];by_cases J:mZ (bT s)=mZ (bT r)
     .have:=Jr L J;unfold bT at this;rw[J,this];simp
     .rw[oO J];symm;rw[beq_eq_false_iff_ne];intro hh;exact J (by unfold bT;rw[hh])
    .rw[oO L,cond_false];symm;rw[beq_eq_false_iff_ne];intro hh;exact L (by unfold bT;rw[hh])
   have d:∀w,(eqGuard i T x y (.string s) (.string r)).run P w = .ok () w:=λw=>by unfold eqGuard;cases i<;>simp
   have f:∀c:V4,fb c=some g->Rl ρ g (.bool c):=λc hc=>by rw[Nx]at hc;cases hc;exact .bool _
   cases i with
   |eql=>exact⟨_,f _ h,λw=>by rw[o];have:=d w;simp[this,binOp,Op.stringOp]⟩
   |neq=>exact⟨_,f _ h,λw=>by rw[o];have:=d w;simp[this,binOp,Op.stringOp]⟩
   |add=>exact⟨_,(Xi (P:=P) D E O Q h default).1,λw=>by have:=d w;have k:=(Xi (ρ:=ρ) (P:=P) D E O Q h w).2;simp only[Sem.run_bind,this,Result.andThen_ok,binOp,k]⟩
   |_=>cases h
  | none =>
   rw[q]at h;simp only at h;cases X:v.asB with
   | none =>
    rw[X]at h;simp only at h;cases j:v.isInil with
    |false=>rw[j]at h;exact adp S x y B A h
    |true=>
    rw[j]at h;have n:=h;clear h;have⟨l,h⟩:=bV.1 (show(bif u.isInil then _ else none)=some g from n);clear n;have⟨t,ht,n⟩:=aE.1 h;clear h;have⟨F,p⟩:=bV.1 n;clear n;have D:v = .inil:=by cases v<;>first|rfl|cases j
    have E:u = .inil:=by cases u<;>first|rfl|cases l
    subst D;subst E;cases B;cases A;obtain⟨N,H,h0⟩:∃N,t.desc = .interface N/\N.size=0:=by
     cases hq:t.desc<;>rw[hq]at F<;>first|(exact⟨_,rfl,zA5 F⟩)|cases F
    have I:∀w:V2,_:=λw=>(S.tab ht).run_und w;have R:N.isEmpty=true:=by simp[Array.isEmpty,h0]
    have Y:∀w,(Op.eqGuardIn Op.maxDepth T .nilIface .nilIface).run P w = .ok false w:=λw=>by
     have f:∀m:Nat,(Op.eqGuardIn (m+1) T .nilIface .nilIface).run P w = .ok false w:=by
      intro m;unfold Op.eqGuardIn;simp[I w,H,R]
     exact f 9999
    have G:∀w,(Op.equal T .nilIface .nilIface).run P w = .ok true w:=λw=>by
     have f:∀m:Nat,(Op.equalIn (m+1) T .nilIface .nilIface).run P w = .ok true w:=by
      intro m;unfold Op.equalIn;simp[I w,H]
     exact f 9999
    have d:∀w,(eqGuard i T x y .nilIface .nilIface).run P w = .ok () w:=λw=>by
     unfold eqGuard;cases i<;>simp[Y w]
     all_goals (split<;>simp)
    cases i with
    |eql=>cases p;exact⟨.bool true,.bool _,λw=>by have j:=d w;have l:=G w;simp[j,binOp,l]⟩
    |neq=>cases p;exact⟨.bool false,.bool _,λw=>by have j:=d w;have l:=G w;simp[j,binOp,l]⟩
    |_=>cases p
   | some a =>
    rw[X]at h;simp only at h;have⟨b,C,h⟩:=aE.1 h;have⟨t,ht,h⟩:=aE.1 h;have⟨F,h⟩:=bV.1 h;rw[Ef X]at B;rw[Ef C]at A;rw[B.bool_inv,A.bool_inv];have d:∀w,(eqGuard i T x y (.bool a) (.bool b)).run P w = .ok () w:=λw=>by unfold eqGuard;cases i<;>simp
    have o:∀w,(Op.equal T (.bool a) (.bool b)).run P w = .ok (a==b) w:=λw=>by
     have A:=(S.tab ht).run_und w;rw[Wm F]at A;have f:∀m:Nat,(Op.equalIn (m+1) T (.bool a) (.bool b)).run P w = .ok (a==b) w:=by
      intro m;unfold Op.equalIn;simp[A]
     exact f 9999
    cases i with
    |eql=>exact⟨.bool (a==b),by have n:fb (Xo a b)=some g:=h;rw[Nx,IJ]at n;cases n;exact .bool _,λw=>by have j:=d w;have l:=o w;simp[j,binOp,l]⟩
    |neq=>exact⟨.bool (!(a==b)),by have n:fb (!Xo a b)=some g:=h;rw[Nx,IJ]at n;cases n;exact .bool _,λw=>by have j:=d w;have l:=o w;simp[j,binOp,l]⟩
    |_=>cases h
theorem adw {d:UnOp} (b:Rl ρ v V) (h:ZN d v=some g):EP P ρ (Op.unary d V) g:=by
 cases d with
 |neg=>
  have⟨a,c,h⟩:=aE.1 (show ob v.asI _=some g from h);rw[nS c]at b;rw[b.int_inv,Wx h];exact⟨_,.int _ _,λw=>by simp[Op.unary,Op.intArith]⟩
 |not=>
  have⟨a,c,h⟩:=aE.1 (show ob v.asB _=some g from h);rw[Ef c]at b;rw[b.bool_inv];rw[Nx]at h;cases h;exact⟨_,.bool _,λw=>by simp[Op.unary]⟩
 |_=>cases h
theorem Ux (e:gQ P tb) {S D:V9} (f:Rl ρ v V) (h:agH tb S D v=some g):EP P ρ (convert S D V) g:=by
 have⟨a,i,h⟩:=aE.1 (show ob v.asI _=some g from h);have⟨s,l,h⟩:=aE.1 h;have⟨n,b,h⟩:=aE.1 h;have⟨t,m,h⟩:=aE.1 h;have⟨k,j,h⟩:=aE.1 h;rw[PI]at h;cases h;rw[nS i]at f;rw[f.int_inv];refine⟨_,.int _ _,λw=>?_⟩
 have c:=(e.tab l).run_und w;have d:=(e.tab m).run_und w;rw[IU b]at c;rw[IU j]at d;simp[convert,c,d,Conv.intToInt]
theorem TI (d:Rl ρ v V) (h:v.nilck=some g):g=v/\∀(o:V5) (x:V3) (a:V3->V0),o.op = .nilCheck x->a x=V->∀w,(execOp a o).run P w = .ok (.value V) w:=by
 cases d with
 |ptr e m=>cases h;exact⟨rfl,λo x a b c w=>by simp[execOp,b,c]⟩
 |fn f i j k l=>cases h;exact⟨rfl,λo x a b c w=>by simp[execOp,b,c]⟩
 |_=>cases h
theorem LD (c:gQ P tb) {T:V9} {b:V6 Field} (h:tI tb T=some b):∃d,uN P T d/\d.desc = .struct b.toArray:=by
 have⟨t,f,h⟩:=aE.1 (show ob (tb T) _=some b from h);have⟨a,e,h⟩:=aE.1 h;cases h;exact⟨t,c.tab f,by rw[Sb e]⟩
theorem Ql (m:gQ P tb) {T:V9} {f:Nat} (o:Rl ρ v V) (h:Lm tb T f v=some g):EP P ρ (Instr.fieldAt T V f) g:=by
 have⟨p,y,h⟩:=aE.1 (show ob v.asP _=some g from h);have⟨A,a,h⟩:=aE.1 h;have⟨q,n,h⟩:=aE.1 h;have⟨z,i,h⟩:=aE.1 h;have⟨j,h⟩:=lG.1 h;rw[Ad]at h;cases h;rw[Gu y]at o;obtain⟨l,x,rfl⟩:=o.ptr_inv;have⟨d,r,s⟩:=LD m a;rw[xV]at n;refine⟨_,.ptr _ x,λw=>?_⟩
 have k:=r.run_und w;rw[s]at k;have c:z.size≠0:=λe=>by rw[e]at j;cases j
 have e:l.off+(p.2+q.offset)=l.off+p.2+q.offset:=V7
 show(Instr.fieldAt T (.pointer (some ⟨l.b,l.off+p.2,none⟩)) f).run P w = .ok (.pointer (some ⟨l.b,l.off+(p.2+q.offset),none⟩)) w;rw[e];simp[Instr.fieldAt,k,n,Instr.sureAddr,fieldPlace,(m.tab i).run_size w,c,eZ]
theorem VU (n:gQ P tb) {T:V9} {t:Ty} {f:V6 GV} {e:V6 V0} {o:Nat} (d:uN P T t) (c:pX ρ f e) (j:∀v∈e,one v=true) (h:DU t f o=some g):EP P ρ (part T e.toArray o) g:=by
 unfold DU at h;cases b:Al t.desc with
 |true=>
  rw[b]at h;have⟨r,k,h⟩:=aE.1 h;cases h;obtain⟨p,rfl⟩:=RN k;refine⟨_,Jc (c.sub o t.size) (λv l=>j v (List.mem_of_mem_drop (List.mem_of_mem_take l))),λw=>?_⟩
  have a:=d.run_agg w;have i:=d.run_size w;rw[b]at a;simp[part,a,i]
 |false=>
  rw[b]at h;rw[cond_false,xV]at h;have⟨x,m,c⟩:=c.get h;refine⟨x,c,λw=>?_⟩
  have a:=d.run_agg w;rw[b]at a;simp[part,a,m]
theorem UA (b:gQ P tb) {T:V9} {f:Nat} (k:Rl ρ v V) (h:adv tb T f v=some g):EP P ρ (Instr.field T V f) g:=by
 have⟨s,m,h⟩:=aE.1 (show ob v.asA _=some g from h);have⟨y,c,h⟩:=aE.1 h;have⟨q,j,h⟩:=aE.1 h;have⟨z,e,h⟩:=aE.1 h;rw[Ng m]at k;obtain⟨A,rfl,p,l⟩:=k.agg_inv;have⟨d,n,o⟩:=LD b c;rw[xV]at j;have⟨x,r,a⟩:=VU (T:=q.type) b (b.tab e) p l h;refine⟨x,r,λw=>?_⟩
 have i:=n.run_und w;rw[o]at i;have:=a w;simp[Instr.field,i,j,asAgg,this]
theorem zX (c:gQ P tb) {T:V9} {e:V9×Ty} (h:Cj tb T=some e):(∃d,uN P T d/\d.desc = .slice e.1)/\uN P e.1 e.2/\tb e.1=some e.2:=by
 have⟨t,i,h⟩:=aE.1 (show ob (tb T) _=some e from h);have⟨a,f,h⟩:=aE.1 h;have⟨j,b,h⟩:=aE.1 h;cases h;exact⟨⟨t,c.tab i,IV f⟩,c.tab b,b⟩
theorem Qm (q:gQ P tb) {T:V9} (k:Rl ρ v V) (B:Rl ρ u U) (h:Ws tb T v u=some g):EP P ρ (Instr.indexAt T V U) g:=by
 have⟨n,G,h⟩:=aE.1 (show ob u.asI _=some g from h);have⟨i,F,h⟩:=aE.1 h;rw[nS G]at B;rw[B.int_inv,IF F];cases y:v.asP with
 |some p=>
  rw[y]at h;rw[Gu y]at k;obtain⟨l,x,rfl⟩:=k.ptr_inv;have⟨t,I,h⟩:=aE.1 (show ob (tb T) _=some g from h);have⟨e,E,h⟩:=aE.1 h;have⟨f,c,h⟩:=aE.1 h;have⟨a,h⟩:=bV.1 h;rw[Ad]at h;cases h;refine⟨_,.ptr _ x,λw=>?_⟩
  have j:=(q.tab I).run_und w;rw[Wl E]at j;have a:i<e.1:=by simpa [zAy]using a
  have o:l.off+(p.2+i*f.size)=l.off+p.2+i*f.size:=V7
  show(Instr.indexAt T (.pointer (some ⟨l.b,l.off+p.2,none⟩)) (.int n.1 i)).run P w = .ok (.pointer (some ⟨l.b,l.off+(p.2+i*f.size),none⟩)) w;rw[o];simp[Instr.indexAt,asIntOf,j,Instr.sureAddr,a,(q.tab c).run_size w,eZ]
 |none=>
  rw[y]at h;have⟨s,H,h⟩:=aE.1 (show ob v.asS _=some g from h);rw[Eg H]at k;obtain⟨l,m,A,x,rfl,J,z⟩:=k.sl_inv;have⟨f,c,h⟩:=aE.1 (show ob (Cj tb T) _=some g from h);have⟨a,h⟩:=bV.1 h;rw[Ad]at h;cases h;have⟨⟨d,D,r⟩,C,_⟩:=zX q c;have a:i<s.2.2.1:=by simpa [zAy]using a
  rcases z with z|⟨rfl,_⟩
  .omega
  refine⟨_,.ptr _ x,λw=>?_⟩
  have j:=D.run_und w;rw[r]at j;have o:l.off+(s.2.1+i*f.2.size)=l.off+s.2.1+i*f.2.size:=V7
  show(Instr.indexAt T (.slice (some ⟨l.b,l.off+s.2.1,none⟩) s.2.2.1 m) (.int n.1 i)).run P w = .ok (.pointer (some ⟨l.b,l.off+(s.2.1+i*f.2.size),none⟩)) w;rw[o];simp[Instr.indexAt,asIntOf,j,a,C.run_size w,eZ]
theorem adn (k:gQ P tb) {T:V9} (e:Rl ρ v V) (d:Rl ρ u U) (h:vAt tb T v u=some g):EP P ρ (Instr.index T V U) g:=by
 have⟨s,p,h⟩:=aE.1 (show ob v.asStr _=some g from h);have⟨n,o,h⟩:=aE.1 h;have⟨i,m,h⟩:=aE.1 h;have⟨t,q,h⟩:=aE.1 h;have⟨l,h⟩:=bV.1 h;have⟨a,h⟩:=bV.1 h;rw[Ad]at h;cases h;rw[nS o]at d;rw[d.int_inv,IF m];rw[rO p]at e;obtain⟨r,rfl,f,j⟩:=e.str_inv;have a:i<(bT r).length:=by rw[<-j];simpa [zAy]using a
 rw[f,Xn _ _ a];refine⟨_,.int _ _,λw=>?_⟩
 have b:=(k.tab q).run_und w;rw[Dz l]at b;have c:=YI r i;rw[zA0 a]at c;simp[Instr.index,asIntOf,b,c]
theorem Yi {i:Nat} (b:Rl ρ v V) (h:ai_ i v=some g):EP P ρ (Instr.extract V i) g:=by
 have⟨f,c,h⟩:=aE.1 (show ob v.asT _=some g from h);rw[ahc c]at b;obtain⟨e,rfl,a⟩:=b.tup_inv;rw[xV]at h;have⟨x,d,a⟩:=a.get h;exact⟨x,a,λw=>by simp[Instr.extract,d]⟩
theorem Yk {t1 t2 ty:V9} (j:Rl ρ v V) (i:Rl ρ u U) (h:Wu v u=some g):EP P ρ (Builtin.max_ #[t1,t2] ty #[V,U]) g:=by
 have⟨a,k,h⟩:=aE.1 (show ob v.asI _=some g from h);have⟨b,l,h⟩:=aE.1 h;have⟨f,h⟩:=bV.1 h;have f:=Ky f;have d:=j;have c:=i
 rw[nS k]at d;rw[nS l]at c;rw[KM]at h;by_cases e:a.2<b.2
 .rw[zAe e]at h;cases h;refine⟨U,i,λw=>?_⟩
  rw[d.int_inv,c.int_inv,<-f];simp[Builtin.max_,Builtin.max2];omega
 .rw[zA6 e]at h;cases h;refine⟨V,j,λw=>?_⟩
  rw[d.int_inv,c.int_inv,<-f];simp[Builtin.max_,Builtin.max2];omega
theorem Yl {t1 t2 ty:V9} (j:Rl ρ v V) (i:Rl ρ u U) (h:adu v u=some g):EP P ρ (Builtin.min_ #[t1,t2] ty #[V,U]) g:=by
 have⟨a,k,h⟩:=aE.1 (show ob v.asI _=some g from h);have⟨b,l,h⟩:=aE.1 h;have⟨f,h⟩:=bV.1 h;have f:=Ky f;have d:=j;have c:=i
 rw[nS k]at d;rw[nS l]at c;rw[KM]at h;by_cases e:b.2<a.2
 .rw[zAe e]at h;cases h;refine⟨U,i,λw=>?_⟩
  rw[d.int_inv,c.int_inv,<-f];simp[Builtin.min_,Builtin.min2];omega
 .rw[zA6 e]at h;cases h;refine⟨V,j,λw=>?_⟩
  rw[d.int_inv,c.int_inv,<-f];simp[Builtin.min_,Builtin.min2];omega
theorem Yh (c:gQ P tb) {T ty:V9} (b:Rl ρ v V) (h:akF tb T v=some g):EP P ρ (Builtin.cap_ #[T] ty #[V]) g:=by
 have⟨t,i,h⟩:=aE.1 (show ob (tb T) _=some g from h);have⟨e,f,h⟩:=aE.1 h;have⟨j,h⟩:=bV.1 h;cases h;rw[Aa j]at b;have d:=b.snil_inv;subst d;have a:=λw=>(c.tab i).run_und w;rw[IV f]at a;exact⟨_,.int _ _,λw=>by simp[Builtin.cap_,a w,goInt]⟩
theorem Yj (d:gQ P tb) {T ty:V9} (b:Rl ρ v V) (h:Wt tb T v=some g):EP P ρ (Builtin.len_ #[T] ty #[V]) g:=by
 have⟨t,e,h⟩:=aE.1 (show ob (tb T) _=some g from h);cases c:v.asStr with
 |some s=>
  rw[c]at h;have⟨o,h⟩:=bV.1 h;cases h;rw[rO c]at b;obtain⟨r,rfl,p,m⟩:=b.str_inv;refine⟨_,.int _ _,λw=>?_⟩
  have i:=(d.tab e).run_und w;rw[Dz o]at i;rw[m];have:r.size=(bT r).length:=Lib.size_eq r;simp[Builtin.len_,i,goInt,this]
 | none =>
  rw[c]at h;have⟨E,j,h⟩:=aE.1 (show ob (tdS t.desc) _=some g from h);have⟨n,a,h⟩:=aE.1 h;cases h;unfold ae_ at a;cases f:v.isSnil with
  |true=>
   rw[f]at a;cases a;rw[Aa f]at b;rw[b.snil_inv];exact⟨_,.int _ _,λw=>RD w (d.tab e) (IV j) _ _ _ _⟩
  |false=>
   rw[f]at a;have⟨s,c,a⟩:=aE.1 (show ob v.asS _=some n from a);cases a;rw[Eg c]at b;obtain⟨l,k,A,y,rfl,x,q⟩:=b.sl_inv;exact⟨_,.int _ _,λw=>RD w (d.tab e) (IV j) _ _ _ _⟩
end
theorem Xs (a:Nat):∀(c:gE) (k:Nat) (b:Array V0),a+k+c.length<=b.size->
  ((c.zipIdx k).foldl (λb p=>b.setIfInBounds (a+p.2) p.1) b).size=b.size/\
  ∀i,((c.zipIdx k).foldl (λb p=>b.setIfInBounds (a+p.2) p.1) b)[i]?=if a+k<=i/\i<a+k+c.length then c[i - (a+k)]? else b[i]?
 | [],k,b,_=>⟨rfl,λi=>by rw[if_neg V8];rfl⟩
 | v :: c, k, b, h =>by
  simp only[zAa]at h;simp only[List.zipIdx_cons,List.foldl_cons];have⟨f,g⟩:=Xs a c (k+1) (b.setIfInBounds (a+k) v) Q1;refine⟨by rw[f];simp,λi=>?_⟩
  rw[g i];by_cases e:i=a+k
  .subst e;rw[Q0,if_pos V8,zBc V7];simp
  .by_cases d:a+(k+1)<=i/\i<a+(k+1)+c.length
   .rw[if_pos d,if_pos Q1];have:i - (a+k)=(i - (a+(k+1)))+1:=V7
    rw[this,List.getElem?_cons_succ]
   .rw[if_neg d,if_neg Q1,zB2 (Ne.symm e)]
section
variable {P:Program} {tb:TB} {ρ:fE} {V U W:V0} {v u t g:GV}
structure WC (ρ:fE) (cs:List GV) (a:Array V0):Prop where
 r:pX ρ cs a.toList
 one:∀v∈a.toList,Go.Sx.one v=true
theorem Rb {a:Array V0} (h:∀v∈a.toList,one v=true) {i:Nat} {v:V0} (b:a[i]?=some v):one v=true:=h v (by
 rw[<-zAl]at b;exact zA1 b)
theorem PK {f B l:V6 GV} {a:Array V0} {d A:Nat} {x:V0} (w:WC ρ f a) (L:Rl ρ g x) (h:g.cells=some l) (J:l.length=A) (H:A≠0) (K:Jw l d f=some B):
  (x.cells.size=A/\d+x.cells.size<=a.size)/\WC ρ B (x.cells.zipIdx.foldl (λf (c,j)=>f.setIfInBounds (d+j) c) a):=by
 have⟨q,e,o,I⟩:=L.cells h;have⟨E,N,O⟩:=MD K;have s:l≠[]:=by intro e;subst e;exact H J.symm
 have E:=E s;have D:l.length=q.length:=o.len;have z:f.length=a.size:=by have:=w.r.len;simpa using this
 rw[e];have n:d+0+q.length<=a.size:=V7
 have⟨G,C⟩:=Xs d q 0 a n;have F:(q.toArray.zipIdx.foldl (λf (c,j)=>f.setIfInBounds (d+j) c) a)=((q.zipIdx 0).foldl (λf p=>f.setIfInBounds (d+p.2) p.1) a):=by
  simp
 refine⟨⟨Q1,Q1⟩,?_⟩
 rw[F];refine⟨⟨by simp[G,N,z],λi b c m h=>?_⟩,λy M=>?_⟩
 .rw[O i]at m;rw[zAl,C i]at h;simp only[Nat.add_zero]at h;by_cases k:d<=i/\i<d+l.length
  .rw[if_pos k]at m;rw[Q3]at h;exact o.at' _ _ _ m h
  .rw[if_neg k]at m;rw[Q0]at h;exact w.r.at' i b c m (by rw[zAl];exact h)
 .have⟨i,k⟩:=List.mem_iff_getElem?.1 M;rw[zAl,C i]at k;split at k
  .exact I y (zA1 k)
  .exact Rb w.one k
theorem Hw {d:Nat}:∀{l:V6 (Nat×GV)} {b:V6 (Nat×V0)} {f c:V6 GV} {a:Array V0},RlP ρ l b->WC ρ f a->KF d l f=some c->
  ∃j,Instr.fill (λi=>some (i*d,d)) a b=some j/\WC ρ c j
 | [],b,f,c,a,hp,hr,h=>by
  have:b=[]:=by have:=hp.1;simpa using this.symm
  subst this;cases h;exact⟨a,rfl,hr⟩
 | p :: l, b, f, c, a, hp, hr, h =>by
  cases b with
  |nil=>have:=hp.1;simp at this
  |cons q b=>
   have⟨n,x⟩:=hp;simp only[zBd,List.cons.injEq]at n;have⟨y,H,r,A,B⟩:=x.of_cons;simp only[zBd,List.cons.injEq]at r;obtain⟨rfl,rfl⟩:=r;have⟨m,o,h⟩:=aE.1 (show ob p.2.cells (λm=>bif Nat.beq m.length d then(bif Nat.beq d 0 then none else ob (Jw m (Nat.mul p.1 d) f) (KF d l))else none)=some c from h);have⟨D,h⟩:=bV.1 h;have⟨k,h⟩:=lG.1 h;have⟨F,C,h⟩:=aE.1 h;have k:d≠0:=λe=>by rw[e]at k;cases k
   have⟨⟨G,E⟩,w⟩:=PK hr A o (zA5 D) k C;have⟨j,s,z⟩:=Hw ⟨n.2,B⟩ w h;refine⟨j,?_,z⟩
   have e:Nat.mul p.1 d=q.1*d:=by rw[<-n.1];rfl
   rw[e]at E w s;show Instr.fill _ a ((q.1,q.2)::b)=_;unfold Instr.fill;simp only;rw[if_neg (by simp only[ne_eq,zB5,zA2,not_or,zAw];omega)];exact s
theorem PM {i:V6 (Nat×Nat)}:∀{l:V6 (Nat×GV)} {b:V6 (Nat×V0)} {d c:V6 GV} {a:Array V0},RlP ρ l b->WC ρ d a->Vw i l d=some c->
  ∃j,Instr.fill (i.toArray[·]?) a b=some j/\WC ρ c j
 | [],b,d,c,a,hp,hr,h=>by
  have:b=[]:=by have:=hp.1;simpa using this.symm
  subst this;cases h;exact⟨a,rfl,hr⟩
 | p :: l, b, d, c, a, hp, hr, h =>by
  cases b with
  |nil=>have:=hp.1;simp at this
  |cons q b=>
   have⟨n,w⟩:=hp;simp only[zBd,List.cons.injEq]at n;have⟨y,I,r,A,B⟩:=w.of_cons;simp only[zBd,List.cons.injEq]at r;obtain⟨rfl,rfl⟩:=r;have⟨s,f,h⟩:=aE.1 (show ob (Kh i p.1) (λq=>ob p.2.cells λm=>bif Nat.beq m.length q.2 then(bif Nat.beq q.2 0 then none else ob (Jw m q.1 d) (Vw i l))else none)=some c from h);have⟨m,o,h⟩:=aE.1 h;have⟨D,h⟩:=bV.1 h;have⟨k,h⟩:=lG.1 h;have⟨F,C,h⟩:=aE.1 h;have k:s.2≠0:=λe=>by rw[e]at k;cases k
   have⟨⟨G,H⟩,E⟩:=PK hr A o (zA5 D) k C;have⟨j,x,z⟩:=PM ⟨n.2,B⟩ E h;refine⟨j,?_,z⟩
   rw[xV,n.1]at f;show Instr.fill _ a ((q.1,q.2)::b)=_;unfold Instr.fill;have:i.toArray[q.1]?=some s:=by simpa using f
   simp only[this];rw[if_neg (by simp only[ne_eq,zB5,zA2,not_or,zAw];omega)];exact x
theorem xK (f:gQ P tb) {T:V9} {a:V6 GV} (h:En tb T=some a):∃d,tb T=some d/\uN P T d/\WC ρ a d.zero.cells:=by
 have⟨d,b,h⟩:=aE.1 (show ob (tb T) _=some a from h);have⟨z,j,h⟩:=aE.1 h;have⟨k,e,i,c⟩:=(VV (ρ:=ρ) j).cells h;exact⟨d,b,f.tab b,by rw[e];exact⟨i,c⟩⟩
theorem Og (c:gQ P tb):∀{b:V6 Field} {a:V6 (Nat×Nat)},RJ tb b=some a->b.mapM (λf=>(P.info? f.type).map λi=>(f.offset,i.size))=some a
 | [],a,h=>by cases h;rfl
 |f::b,a,h=>by
  have⟨t,k,h⟩:=aE.1 (show ob (tb f.type) (λt=>ob (RJ tb b) λr=>some ((f.offset,t.size)::r))=some a from h);have⟨r,e,h⟩:=aE.1 h;cases h;have⟨i,d,j,_,_⟩:=(c.tab k).info;simp[List.mapM_cons,d,j,Og c e]
theorem Qk (B:gQ P tb) {T:V9} {l:V6 (Nat×GV)} {a:V6 (Nat×V0)} (L:RlP ρ l a) (h:Wp tb T l=some g):EP P ρ (Instr.build T a.toArray) g:=by
 have⟨t,M,h⟩:=aE.1 (show ob (tb T) _=some g from h);have⟨zc,R,h⟩:=aE.1 h;have⟨d,J,I,H⟩:=xK (ρ:=ρ) B R;rw[M]at J;cases J;have⟨i,K,X,_,c⟩:=I.info;have s:=I.und
 suffices hh:∃f,P.built T a=some f/\∃k,g = .agg k/\WC ρ k f by
  obtain⟨f,O,k,rfl,n⟩:=hh;refine⟨.agg f,?_,λw=>run_build w T a.toArray f (by simpa using O)⟩
  have:=Jc n.r n.one;simpa using this
 cases q:tdF t.desc with
 | some fs =>
  rw[q]at h;have⟨S,m,h⟩:=aE.1 (show ob (TR tb T) _=some g from h);have⟨x,b,h⟩:=aE.1 h;cases h;have⟨G,C,m⟩:=aE.1 (show ob (tI tb T) _=some S from m);have o:G=fs.toList:=by
   have⟨t',p,A⟩:=aE.1 (show ob (tb T) _=some G from C);rw[M]at p;cases p;have⟨N,j,A⟩:=aE.1 A;rw[q]at j;cases j;cases A;rfl
  subst o;have⟨f,y,z⟩:=PM L H b;refine⟨f,?_,x,rfl,z⟩
  rw[Sb q]at s;unfold Program.built;simp only[K,s,c,Og B m];exact y
 |none=>
  rw[q]at h;have⟨e,Q,h⟩:=aE.1 (show ob (tdA t.desc) _=some g from h);have⟨te,F,h⟩:=aE.1 h;have⟨x,b,h⟩:=aE.1 h;cases h;have⟨f,y,z⟩:=Hw L H b;refine⟨f,?_,x,rfl,z⟩
  rw[Wl Q]at s;have⟨Y,D,E,_,_⟩:=(B.tab F).info;unfold Program.built;simp only[K,s,c,D,E];exact y
end
def Bl (f:fE) (w:V2) (l:Pj):GO->Prop
 | .cells cs=>∃(c:Array V0) (T:V9),w.heap[l.b]?=some (.cells c T (0,0))/\c.size=l.size/\l.off+cs.length<=l.size/\∀(i:Nat) g,cs[i]?=some g->∃v,c[l.off+i]?=some v/\Rl f g v/\one v=true
 | .mp es=>∃(d:Array MapEntry) (a:Nat),w.heap[l.b]?=some (.map d a)/\d.size=es.length/\∀(i:Nat) e,es[i]?=some e->∃m,d[i]?=some m/\Rl f e.1 m.key/\Rl f e.2 m.val
theorem Bl.lt {c:fE} {w:V2} {l:Pj} {o:GO} (h:Bl c w l o):l.b<w.heap.size:=by
 cases o with
 |cells d=>have⟨a,T,h,_⟩:=h;exact(zAh.1 h).1
 |mp e=>have⟨a,T,h,_⟩:=h;exact(zAh.1 h).1
theorem Bl.move {r d:fE} {w w':V2} {l:Pj} {o:GO} (h:Bl r w l o) (q:r.le d) (e:w'.heap[l.b]?=w.heap[l.b]?):Bl d w' l o:=by
 cases o with
 |cells x=>have⟨f,T,j,k,n,u⟩:=h;exact⟨f,T,by rw[e];exact j,k,n,λi g p=>let ⟨v,a,b,c⟩:=u i g p;⟨v,a,b.le q,c⟩⟩
 |mp y=>have⟨t,s,j,k,n⟩:=h;exact⟨t,s,by rw[e];exact j,k,λi g p=>let ⟨m,a,b,c⟩:=n i g p;⟨m,a,b.le q,c.le q⟩⟩
structure Cf where
 obs:List (Nat×Obj)
 env:List V0
def Lr (a:Cf) (w:V2) (O:Nat->Prop):Prop:=∀p∈a.obs,w.heap[p.1]?=some p.2/\¬O p.1
structure fO (gs:Cf) where
 w:World
 O:Nat->Prop
 ok:Lr gs w O
def fO.mine {a:Cf} (b:fO a) (k:Nat):Prop:=b.w.heap.size<=k\/b.O k
structure g_ {gs:Cf} (w0:fO gs) (ρ:fE) (H:GH) (w:World):Prop where
 ext:Es w0.O w0.w w
 live:∀h o,H.get h=some o->∃l,ρ h=some l/\w0.mine l.b/\Bl ρ w l o
 inj:∀h h' o o' l l',H.get h=some o->H.get h'=some o'->ρ h=some l->ρ h'=some l'->l.b=l'.b->h=h'
 fresh:∀h,H.n<=h->ρ h=none
 dense:∀h,h<H.n->∃l,ρ h=some l
 /-- the block holds what was written last -/
 vers:∀h v l,H.ver h=some v->ρ h=some l->∃lv,ρ v=some lv/\w.heap[l.b]?=some lv.x/\H.get h=some lv.o
 /-- the first handles stand for the open values -/
 env:∀i v,gs.env[i]?=some v->∃l,ρ i=some l/\l.x = .cells #[v] 0 (0,0)
theorem g_.lt {c:Cf} {e:fO c} {w:V2} {f:fE} {H:GH} (R:g_ e f H w) {h:Nat} {o:GO} (d:H.get h=some o):h<H.n:=by
 rcases zAx h H.n with a|a
 .exact a
 .have⟨l,b,_⟩:=R.live h o d;rw[R.fresh h a]at b;cases b
def Qv (P:Program) {d:Cf} (e:fO d) (ρ:fE) (s:Sem V0) (w:V2) (g:GV) (c:GH):Prop:=∃v b a,s.run P w = .ok v b/\ρ.le a/\g_ e a c b/\Rl a g v
def fE.upd (ρ:fE) (h:Nat) (l:Pj):fE:=λk=>if k=h then some l else ρ k
theorem Bt {b:fE} {h:Nat} {l:Pj} (c:b h=none):b.le (b.upd h l):=λk x a=>by
 unfold fE.upd;by_cases e:k=h
 .subst e;rw[c]at a;cases a
 .rw[if_neg e];exact a
theorem g_.new {L:Cf} {B:fO L} {w w':V2} {ρ:fE} {H:GH} (R:g_ B ρ H w) {o:GO} {l:Pj} (S:Es B.O B.w w') (C:∀h u k,H.get h=some u->ρ h=some k->w'.heap[k.b]?=w.heap[k.b]? /\ k.b≠l.b) (M:B.mine l.b)
    (U:Bl (ρ.upd H.n l) w' l o) (W:w'.heap[l.b]?=some l.x) (E:l.o=o:=by rfl):ρ.le (ρ.upd H.n l)/\g_ B (ρ.upd H.n l) (H.new o) w':=by
  have m:ρ.le (ρ.upd H.n l):=Bt (R.fresh _ (zAg _));have T:∀h u,H.get h=some u->h≠H.n:=λh u g=>Nat.ne_of_lt (R.lt g);have d:∀h,h≠H.n->(ρ.upd H.n l) h=ρ h:=λh s=>by simp[fE.upd,s]
  have f:(ρ.upd H.n l) H.n=some l:=by simp[fE.upd]
  refine⟨m,S,?_,?_,?_,?_,?_,λi v e=>let ⟨l,a,b⟩:=R.env i v e;⟨l,m _ _ a,b⟩⟩
  · intro h u g;rw[sR]at g;by_cases e:h=H.n
    · subst e;rw[if_pos Z]at g;cases g;exact⟨l,f,M,U⟩
    · rw[if_neg e]at g;have⟨k,c,D,F⟩:=R.live h u g;exact⟨k,by rw[d h e];exact c,D,F.move m (C h u k g c).1⟩
  · intro h y J K G I g j A c r;rw[sR]at g j;by_cases e:h=H.n
    · by_cases q:y=H.n
      · rw[e,q]
      · rw[if_neg q]at j;rw[d y q]at c;subst e;rw[f]at A;cases A;exact absurd r.symm (C y K I j c).2
    · rw[if_neg e]at g;rw[d h e]at A;by_cases q:y=H.n
      · subst q;rw[f]at c;cases c;exact absurd r (C h J G g A).2
      · rw[if_neg q]at j;rw[d y q]at c;exact R.inj h y J K G I g j A c r
  · intro h s;have : h ≠ H.n := by
        have : H.n + 1 ≤ h := s;omega
    rw[d h this];exact R.fresh h (by
        have : H.n + 1 ≤ h := s;omega)
  · intro h s;have s:h<H.n+1:=s;by_cases e:h=H.n
    · subst e;exact⟨l,f⟩
    · rw[d h e];exact R.dense h V7
  · intro h v k z c;rw[UR]at z;by_cases e:h=H.n
    · subst e;rw[if_pos Z]at z;cases z;rw[f]at c;cases c;exact⟨l,f,W,by rw[sR,if_pos Z,E]⟩
    · rw[if_neg e]at z;rw[d h e]at c;have⟨X,N,P,Q⟩:=R.vers h v k z c;have⟨p,V,_⟩:=aE.1 (show ob (H.t.get h) _=some v from z);exact⟨X,m _ _ N,by rw[(C h p.2 k (by unfold GH.get;rw[V];rfl) c).1];exact P,by rw[sR,if_neg e];exact Q⟩
theorem g_.set {T:Cf} {K:fO T} {w w':V2} {m:fE} {H:GH} (R:g_ K m H w) {h:Nat} {o q:GO} {l:Pj} {X:Obj} (u:H.get h=some o) (A:m h=some l) (V:Es K.O K.w w') (S:∀k,k≠l.b->w'.heap[k]?=w.heap[k]?) (Y:Bl m w' l q) (J:w'.heap[l.b]?=some X):
  m.le (m.upd H.n ⟨l.b,l.off,l.size,X,q⟩)/\g_ K (m.upd H.n ⟨l.b,l.off,l.size,X,q⟩) (H.set h q) w':=by
 have f:m.le (m.upd H.n ⟨l.b,l.off,l.size,X,q⟩):=Bt (R.fresh _ (zAg _));have c:∀k,k≠H.n->(m.upd H.n ⟨l.b,l.off,l.size,X,q⟩) k=m k:=λk g=>by simp[fE.upd,g]
 have j:(m.upd H.n ⟨l.b,l.off,l.size,X,q⟩) H.n=some ⟨l.b,l.off,l.size,X,q⟩:=by simp[fE.upd]
 have F:∀k x,(if k=h then some q else H.get k)=some x->∃y,H.get k=some y:=λk x J=>by
  by_cases e:k=h
  .subst e;exact⟨o,u⟩
  .rw[if_neg e]at J;exact⟨x,J⟩
 refine⟨f,V,?_,?_,?_,?_,?_,λi v e=>let ⟨l,a,b⟩:=R.env i v e;⟨l,f _ _ a,b⟩⟩
 .intro k x g;rw[uQ]at g;by_cases e:k=h
  .subst e;rw[if_pos Z]at g;cases g;have⟨r,d,M,_⟩:=R.live k o u;rw[A]at d;cases d;exact⟨l,f _ _ A,M,Y.move f Z⟩
  .rw[if_neg e]at g;have⟨r,d,M,P⟩:=R.live k x g;refine⟨r,f _ _ d,M,P.move f (S _ λL=>e (R.inj k h x o r l g u d A L))⟩
 .intro k Q o1 o2 l1 l2 G I B C N;rw[uQ]at G I;have⟨y1,D⟩:=F k o1 G;have⟨y2,E⟩:=F Q o2 I;rw[c k (Nat.ne_of_lt (R.lt D))]at B;rw[c Q (Nat.ne_of_lt (R.lt E))]at C;exact R.inj k Q y1 y2 l1 l2 D E B C N
 .intro k g;have W:H.n+1<=k:=g;rw[c k V7];exact R.fresh k V7
 .intro k g;have g:k<H.n+1:=g;by_cases e:k=H.n
  .subst e;exact⟨_,j⟩
  .rw[c k e];exact R.dense k V7
 .intro k v r s d;rw[US]at s;by_cases e:k=h
  .subst e;rw[if_pos Z]at s;cases s;rw[c k (Nat.ne_of_lt (R.lt u)),A]at d;cases d;exact⟨_,j,J,by rw[uQ,if_pos Z]⟩
  .rw[if_neg e]at s;have⟨p,hp,_⟩:=aE.1 (show ob (H.t.get k) _=some v from s);have z:H.get k=some p.2:=by unfold GH.get;rw[hp];rfl
   rw[c k (Nat.ne_of_lt (R.lt z))]at d;have⟨lv,G,I,U⟩:=R.vers k v r s d;exact⟨lv,f _ _ G,by rw[S r.b λL=>e (R.inj k h p.2 o r l z u d A L)];exact I,by rw[uQ,if_neg e];exact U⟩
theorem g_.del {i:Cf} {g:fO i} {w:V2} {ρ:fE} {H:GH} (R:g_ g ρ H w) (h:Nat):g_ g ρ (H.del h) w:=by
 have b:∀k x,(H.del h).get k=some x->H.get k=some x:=λk x a=>by
  rw[IB]at a;by_cases e:k=h
  .rw[if_pos e]at a;cases a
  .rw[if_neg e]at a;exact a
 exact⟨R.ext,λk x a=>R.live k x (b k x a),λk n r s o p d f=>R.inj k n r s o p (b _ _ d) (b _ _ f),R.fresh,R.dense,λk v l c m=>by
  rw[UQ]at c;by_cases e:k=h
  .rw[if_pos e]at c;cases c
  .rw[if_neg e]at c;have⟨q,d,f,j⟩:=R.vers k v l c m;exact⟨q,d,f,by rw[IB,if_neg e];exact j⟩,R.env⟩
theorem g_.ext' {g:Cf} {f:fO g} {w w':V2} {ρ:fE} {H:GH} (R:g_ f ρ H w) (e:Qx w w'):g_ f ρ H w':=
 ⟨R.ext.trans e,λh o k=>let ⟨l,a,b,c⟩:=R.live h o k;⟨l,a,b,c.move (fE.le_refl _) (e.block _ c.lt)⟩,R.inj,R.fresh,R.dense,λh v l n m=>by
  have⟨p,i,d,j⟩:=R.vers h v l n m;exact⟨p,i,(by rw[e.block _ (zAh.1 d).1];exact d),j⟩,R.env⟩
theorem g_.mono {g b:Cf} {j:fO g} {d:fO b} {w w':V2} {e a:fE} {H H':GH} (R:g_ j e H w) (f:g_ d a H' w') (c:e.le a):H.n<=H'.n:=by
 rcases zAx H'.n H.n with h|h
 .have⟨l,i⟩:=R.dense _ h;have:=f.fresh _ (zAg _);rw[c _ _ i]at this;cases this
 .exact h
def ZV (a:fE) (H:GH) (k:Nat):Prop:=∃h o l,H.get h=some o/\a h=some l/\l.b=k
theorem g_.glo {f:Cf} {d:fO f} {w:V2} {j:fE} {H:GH} (R:g_ d j H w):Lr f w (ZV j H):=λp n=>by
 have⟨g,i⟩:=d.ok p n;have c:p.1<d.w.heap.size:=(zAh.1 g).1;refine⟨by rw[R.ext.block p.1 c i];exact g,fun⟨h,o,l,k,m,e⟩=>?_⟩
 have⟨q,b,a,_⟩:=R.live h o k;rw[m]at b;cases b;rw[e]at a;rcases a with a|a
 .omega
 .exact i a
def g_.base {a:Cf} {b:fO a} {w:V2} {ρ:fE} {H:GH} (R:g_ b ρ H w):fO a:=⟨w,ZV ρ H,R.glo⟩
def fO.of {a:Cf} (w:V2) (h:Lr a w λ_=>False):fO a:=⟨w,λ_=>False,h⟩
def noG:Cf:=⟨[],[]⟩
def fO.one (w:V2):fO noG:= .of w λ_ h=>absurd h zAz
theorem g_.rebase {e:Cf} {f:fO e} {w:V2} {d:fE} {H:GH} (R:g_ f d H w):g_ R.base d H w:=
 ⟨Es.refl _,λh o b=>let ⟨l,a,_,c⟩:=R.live h o b;⟨l,a,.inr ⟨h,o,l,b,a,rfl⟩,c⟩,R.inj,R.fresh,R.dense,R.vers,R.env⟩
theorem g_.back {t:Cf} {n:fO t} {w m:V2} {p d:fE} {H q:GH} (R:g_ n p H w) (a:g_ R.base d q m):g_ n d q m/\∀k,k<w.heap.size->¬ZV p H k->m.heap[k]?=w.heap[k]?:=by
 have s:∀k,ZV p H k->n.mine k:=λk ⟨h,o,l,g,j,e⟩=>by
  have⟨v,c,b,_⟩:=R.live h o g;rw[j]at c;cases c;rw[<-e];exact b
 refine⟨⟨⟨a.ext.os.trans R.ext.os,a.ext.tape.trans R.ext.tape,a.ext.output.trans R.ext.output,zB6 R.ext.size a.ext.size,λk f r=>?_⟩,λh o g=>?_,a.inj,a.fresh,a.dense,a.vers,a.env⟩,λk f i=>a.ext.block k f i⟩
 .rw[a.ext.block k (zB4 f R.ext.size) (λi=>by rcases s k i with h|h;exact absurd h V7;exact r h)];exact R.ext.block k f r
 .have⟨l,j,b,u⟩:=a.live h o g;refine⟨l,j,?_,u⟩
  rcases b with b|b
  .exact .inl (zB6 R.ext.size b)
  .exact s _ b
section
variable {P:Program} {tb:TB} {ρ:fE} {V U W:V0} {v u t g:GV} {gs:Cf} {w0:fO gs} {w:V2} {H H':GH}
theorem g_.alloc (R:g_ w0 ρ H w) {cs:V6 GV} {a:Array V0} (T:V9) (f:WC ρ cs a):
  ∃b,ρ.le b/\b=ρ.upd H.n ⟨w.heap.size,0,a.size,.cells a T,.cells cs⟩/\g_ w0 b (H.new (.cells cs)) (w.alloc (.cells a T)):=by
 have e:Qx w (w.alloc (.cells a T)):=(Below.refl _ _).alloc (zAg _) _;have h:=R.new (o:= .cells cs) (l:=⟨w.heap.size,0,a.size,.cells a T,.cells cs⟩) (R.ext.trans e) (λh q s d p=>by
  have⟨l,c,_,m⟩:=R.live h q d;rw[p]at c;cases c;exact⟨e.block _ m.lt,Nat.ne_of_lt m.lt⟩) (.inl R.ext.size) (by
  refine⟨a,T,heap_alloc_new w _,rfl,by have:=f.r.len;simp at this;simp[this],λi g d=>?_⟩
  have⟨x,k,j⟩:=f.r.get d;rw[zAl]at k;exact⟨x,by simpa using k,j.le (Bt (R.fresh _ (zAg _))),Rb f.one k⟩) (heap_alloc_new w _)
 exact⟨_,h.1,rfl,h.2⟩
theorem afW {T:V9} (R:g_ w0 ρ H w) (k:Rl ρ v V) (h:Gh v H=some (g,H')):Qv P w0 ρ (Instr.box T V) w g H':=by
 have⟨c,i,h⟩:=aE.1 (show ob v.cells _=some (g,H')from h);rw[jR]at h;cases h;have⟨n,e,j,f⟩:=k.cells i;obtain⟨m,b,rfl,d⟩:=R.alloc T (cs:=c) (a:=V.cells) (by rw[e];exact⟨j,f⟩);refine⟨_,_,_,?_,b,d,.ptr (l:=⟨w.heap.size,0,V.cells.size,.cells V.cells T,.cells c⟩) 0 (by simp[fE.upd])⟩
 simp[Instr.box,newVar,newRow]
theorem Ll (e:gQ P tb) {T:V9} (R:g_ w0 ρ H w) (h:sL tb T H=some (g,H')):Qv P w0 ρ (Instr.alloc T true (.tuple #[])) w g H':=by
 have⟨j,i,h⟩:=aE.1 (show ob (En tb T) _=some (g,H')from h);rw[jR]at h;cases h;have⟨d,m,f,c⟩:=xK (ρ:=ρ) e i;obtain⟨k,a,rfl,b⟩:=R.alloc T c;exact⟨_,_,_,KX w f,a,b,.ptr (l:=⟨w.heap.size,0,d.zero.cells.size,.cells d.zero.cells T,.cells j⟩) 0 (by simp[fE.upd])⟩
theorem g_.cells (R:g_ w0 ρ H w) {h:Nat} {cs:V6 GV} (b:H.cells h=some cs) {l:Pj} (c:ρ h=some l):Bl ρ w l (.cells cs):=by
 have⟨e,a,_,d⟩:=R.live h _ (jT.1 b);rw[c]at a;cases a;exact d
theorem Oz (hG:gQ P tb) {T:V9} (R:g_ w0 ρ H w) (X:Rl ρ v V) (h:wE tb T v H=some g):∃(x:V0) (p:Nat×Nat) (l:Pj),v = .ptr p.1 p.2/\ρ p.1=some l/\(∃o,H.get p.1=some o)/\Rl ρ g x/\∀E,E.heap[l.b]?=w.heap[l.b]? -> (Instr.loadAt T V).run P E = .ok x E:=by
 have⟨p,S,h⟩:=aE.1 (show ob v.asP _=some g from h);have⟨G,z,h⟩:=aE.1 h;have⟨t,ht,h⟩:=aE.1 h;have C:=Gu S;have A:=jT.1 z;rw[Gu S]at X;obtain⟨l,K,rfl⟩:=X.ptr_inv;have⟨I,T',N,aa,Q,c⟩:=R.cells z K;have M:=hG.tab ht;unfold DU at h;cases F:Al t.desc with
 | true =>
  rw[F]at h;have⟨r,hs,h⟩:=aE.1 h;cases h;obtain⟨O,rfl⟩:=RN hs;let n:=((I.toList.drop (l.off+p.2)).take t.size)
  have m:n.length=t.size:=by simp[n];omega
  have D:pX ρ ((G.drop p.2).take t.size) n:=⟨by rw[m];simp;omega,λi a b d e=>by
   simp only[n]at e;rw[zAt]at d e;by_cases k:i<t.size
   .rw[if_pos k,zAu]at d e;have⟨x,s,J,_⟩:=c _ _ d;rw[zAl,show l.off+p.2+i=l.off+(p.2+i) by omega,s]at e;cases e;exact J
   .rw[if_neg k]at d;cases d⟩
  have B:∀x∈n,one x=true:=λx q=>by
   have⟨i,k⟩:=List.mem_iff_getElem?.1 q;have L:=bH k;have d:((G.drop p.2).take t.size)[i]?=some (G[p.2+i]'V7):=by
    rw[zAt,Q3,zAu,zA0 V7]
   simp only[n]at k;rw[zAt,Q3,zAu,zAl,show l.off+p.2+i=l.off+(p.2+i) by omega]at k;have⟨y,s,_,Y⟩:=c (p.2+i) _ (zA0 V7);rw[s]at k;cases k;exact Y
  refine⟨_,p,l,C,K,⟨_,A⟩,Jc D B,λE f=>?_⟩
  rw[N]at f;refine Ca M F m (λj x q=>?_);rw[eZ];have L:=bH q;simp only[n]at q;rw[zAt,Q3,zAu,zAl]at q;simp[World.cell?,f,q]
 |false=>
  rw[F]at h;rw[cond_false,xV]at h;have⟨x,s,J,_⟩:=c _ _ h;exact⟨x,p,l,C,K,⟨_,A⟩,J,λE f=>CZ M F (by rw[N]at f;simp[World.cell?,f,s])⟩
theorem Ln (hG:gQ P tb) {T:TypeId} (R:g_ w0 ρ H w) (X:Rl ρ v V) (hu:Rl ρ u U) (h:mB tb T v u H=some (g,H')):g = .un/\∃w' B,(Instr.storeAt T V U).run P w = .ok () w'/\ρ.le B/\g_ w0 B H' w':=by
 obtain⟨p,hp,h⟩:=aE.1 (show ob v.asP _=some (g,H')from h);obtain⟨cs,n,h⟩:=aE.1 h;obtain⟨t,ht,h⟩:=aE.1 h;obtain⟨E,N,h⟩:=aE.1 h;obtain⟨K,h⟩:=bV.1 h;obtain⟨O,h⟩:=lG.1 h;obtain⟨c1,r,h⟩:=aE.1 h;rw[Bp]at h;cases h;refine⟨rfl,?_⟩
 rw[Gu hp]at X;obtain⟨l,J,rfl⟩:=X.ptr_inv;obtain⟨c,C,F,ac,S,m⟩:=R.cells n J;obtain⟨f,eU,z,j⟩:=hu.cells N;have hT:=hG.tab ht;have d:E.length=t.size:=zA5 K;have ad:E.length=f.length:=z.len;have L:E≠[]:=by intro e;rw[e]at d;simp at d;rw[<-d]at O;cases O
 obtain⟨Y,p2,p3⟩:=MD r;have Y:=Y L;have s:=run_storeCells_at P l.b (l.off+p.2) C f 0 c w F (by omega) (λx o=>qP (j x o));simp only[Nat.add_zero]at s;refine⟨w.setRow l.b (c.toList.take (l.off+p.2)++f++c.toList.drop (l.off+p.2+f.length)).toArray,_,?_,R.set (jT.1 n) J ?_ (λk I=>setRow_other w l.b k _ I) ?_ (setRow_heap w l.b _ _ C _ F)⟩
 .have hs:=hT.run_size w;simp only[Instr.storeAt,Instr.sureAddr,storeVar,eU];have e:f.toArray.size=t.size:=by simp;omega
  simp[hs,e,s]
 .obtain⟨l',q,a,_⟩:=R.live _ _ (jT.1 n);rw[J]at q;cases q;exact⟨R.ext.os,R.ext.tape,R.ext.output,by simpa using R.ext.size,λk I Q=>by
   rw[setRow_other w l.b k _ (λe=>by subst e;rcases a with a|a;exact absurd a (by omega);exact Q a)];exact R.ext.block k I Q⟩
 .refine⟨_,C,setRow_heap w l.b _ _ C _ F,?_,by omega,λi x o=>?_⟩
  .simp;omega
  .rw[p3 i]at o;have aa:c.toList.length=c.size:=by simp
   have A:(c.toList.take (l.off+p.2)++f++c.toList.drop (l.off+p.2+f.length)).toArray[l.off+i]?=if p.2<=i/\i<p.2+f.length then f[i - p.2]? else c[l.off+i]?:=by
    rw[List.getElem?_toArray,zBb];by_cases G:i<p.2
    .rw[if_neg (by omega),zAc (by simp;omega),zAt,if_pos (by omega),zAl]
    .rw[zAb (by simp;omega),List.length_take];have e1:min (l.off+p.2) c.toList.length=l.off+p.2:=by omega
     rw[e1];by_cases ab:i<p.2+f.length
     .rw[if_pos (by omega),zAc (by omega)];congr 1;omega
     .rw[if_neg (by omega),zAb (by omega),zAu,zAl];congr 1;omega
   by_cases G:p.2<=i/\i<p.2+E.length
   .rw[if_pos G]at o;obtain⟨y,D,M⟩:=z.get o;exact⟨y,by rw[A,if_pos (by omega)];exact D,M,j y (zA1 D)⟩
   .rw[if_neg G]at o;obtain⟨y,D,M⟩:=m i x o;exact⟨y,by rw[A,if_neg (by omega)];exact D,M⟩
end
section
variable {P:Program} {tb:TB} {ρ:fE} {V U W:V0} {v u t g:GV} {gs:Cf} {w0:fO gs} {w:V2} {H H':GH}
theorem JI (z:V6 GV):∀n,(UN z n).length=n*z.length
 |0=>by show([]:V6 GV).length=_;simp
 |n+1=>by
  have:UN z (n+1)=z++UN z n:=rfl;rw[this,zA4,JI z n,zB3];omega
theorem XM (z:V6 GV) (b:0<z.length):∀(n i:Nat),i<n*z.length->(UN z n)[i]?=z[i%z.length]?
 |0,i,h=>by simp at h
 |n+1,i,h=>by
  have:UN z (n+1)=z++UN z n:=rfl;rw[this];by_cases a:i<z.length
  .rw[zAc a,Nat.mod_eq_of_lt a]
  .rw[zAb V7,XM z b n (i - z.length) (by have:(n+1)*z.length=n*z.length+z.length:=Nat.succ_mul n z.length;omega),<-Nat.mod_eq_sub_mod V7]
theorem JJ {c:V6 GV} {z:Array V0} (f:WC ρ c z) (l:0<c.length) (n:Nat):WC ρ (UN c n) ((Array.range (n*c.length)).map (z[· % z.size]!)):=by
 have o:c.length=z.size:=by have:=f.r.len;simpa using this
 have q:0<z.size:=V7
 have d:∀i,i<n*c.length->z[i%z.size]?=some (z[i%z.size]!):=λi _=>by
  have p:i%z.size<z.size:=Nat.mod_lt _ q;rw[getElem!_pos z (i%z.size) p];simp
 refine⟨⟨by simp[JI],λi a b h m=>?_⟩,λx k=>?_⟩
 .have e:=bH h;rw[JI]at e;rw[XM c l n i e]at h;have j:some (z[i%z.size]!)=some b:=by
   rw[<-m,zAl];simp[e]
  cases j;refine f.r.at' (i%c.length) a _ h ?_;rw[zAl,o];exact d i e
 .simp only[Array.toList_map,zAr]at k;obtain⟨i,e,rfl⟩:=k;have e:i<n*c.length:=by simpa using e
  exact Rb f.one (d i e)
theorem IM {c:Nat}:∀{l:V6 (Nat×GV)} {b a:V6 GV},KF c l b=some a->a.length=b.length
 | [],b,a,h=>by cases h;rfl
 |p::l,b,a,h=>by
  have⟨d,e,h⟩:=aE.1 (show ob p.2.cells (λd=>bif Nat.beq d.length c then(bif Nat.beq c 0 then none else ob (Jw d (Nat.mul p.1 c) b) (KF c l))else none)=some a from h);have⟨_,h⟩:=bV.1 h;have⟨_,h⟩:=lG.1 h;have⟨i,f,h⟩:=aE.1 h;rw[IM h];exact(MD f).2.1
theorem Wq (hG:gQ P tb) {T:TypeId} {n:Nat} {l:List (Nat×GV)} {parts:List (Nat×V0)} (R:g_ w0 ρ H w) (hp:RlP ρ l parts) (h:uM tb T n l H=some (g,H')):Qv P w0 ρ (Instr.buildSlice T n parts.toArray) w g H':=by
 obtain⟨te,hte,h⟩:=aE.1 (show ob (Cj tb T) _=some (g,H')from h);obtain⟨zc,hz,h⟩:=aE.1 h;obtain⟨hlen,h⟩:=bV.1 h;obtain⟨hbig,h⟩:=bV.1 h;obtain⟨h0,h⟩:=lG.1 h;obtain⟨cs,hfill,h⟩:=aE.1 h;rw[jR]at h;cases h;obtain⟨⟨d,hd,hde⟩,hE,htab⟩:=zX hG hte;obtain⟨dz,hdz,_,hC⟩:=xK (ρ:=ρ) hG hz;rw[htab]at hdz;cases hdz;have hlen:zc.length=te.2.size:=zA5 hlen;have h0:te.2.size≠0:=λe=>by rw[e]at h0;cases h0
 have hbig:n*te.2.size<16777216:=by simpa [zAy]using hbig
 have hrep:=JJ hC (by omega) n;rw[hlen]at hrep;obtain⟨a',f1,f2⟩:=Hw hp hrep hfill;obtain⟨ρ',hle,rfl,R'⟩:=R.alloc te.1 f2;have hsz:a'.size=n*te.2.size:=by
  have e1:=f2.r.len;have:cs.length=(UN zc n).length:=IM hfill;rw[this,JI,hlen]at e1;simp at e1;omega
 refine⟨_,_,_,?_,hle,R',.sl (l:=⟨w.heap.size,0,a'.size,.cells a' te.1,.cells cs⟩) (cap:=n) (A:=⟨w.heap.size,0,none⟩) (by simp[fE.upd]) (zAg _) (.inr ⟨rfl,by simp[hsz]⟩)⟩
 have hu:=hd.run_und w;rw[hde]at hu;by_cases hn:n*te.2.size=0
 .have hz0:n=0:=by rcases Nat.mul_eq_zero.1 hn with h|h;exact h;exact absurd h h0
  subst hz0;have e0:(Array.range (0*te.2.size)).map (te.2.zero.cells[· % te.2.zero.cells.size]!)=(#[]:Array V0):=by simp
  rw[e0]at f1;have e1:(Array.range 0).map (λ_=>(default:V0)) = #[]:=by simp
  simp[Instr.buildSlice,hu,hE.run_size w,newRow];simp[e1,f1]
 .simp[Instr.buildSlice,hu,hE.run_size w,hE.run_zero w,hn,f1,newRow,show¬(16777216<n*te.2.size) by omega]
theorem ads (D:gQ P tb) {T:V9} (R:g_ w0 ρ H w) (F:Rl ρ v V) (E:Rl ρ u U) (h:OA tb T v u H=some (g,H')):Qv P w0 ρ (Instr.makeSlice T V U) w g H':=by
 have⟨a,B,h⟩:=aE.1 (show ob (Cj tb T) _=some (g,H')from h);have⟨I,hz,h⟩:=aE.1 h;have⟨k,Q,h⟩:=aE.1 h;have⟨c,N,h⟩:=aE.1 h;have⟨f,h⟩:=bV.1 h;have⟨n,S,h⟩:=aE.1 h;have⟨b,h⟩:=bV.1 h;have⟨m,h⟩:=bV.1 h;have⟨p,h⟩:=bV.1 h;have⟨r,h⟩:=lG.1 h;rw[Tn,jR]at h;cases h;have⟨⟨d,O,x⟩,L,q⟩:=zX D B;have⟨dz,o,_,K⟩:=xK (ρ:=ρ) D hz;rw[q]at o;cases o;have b:I.length=a.2.size:=zA5 b;have r:a.2.size≠0:=λe=>by rw[e]at r;cases r
 have m:n*a.2.bytes<16777216:=by simpa [zAy]using m
 have p:n<16777216:=by simpa [zAy]using p
 rw[nS Q]at F;rw[nS N]at E;rw[Kx]at f;have f:=zB7 f;rw[F.int_inv,E.int_inv,<-f,IF S];have i:=JJ K V7 n;rw[b]at i;obtain⟨aa,z,rfl,J⟩:=R.alloc a.1 i;have⟨G,y,Y,M,C⟩:=L.info;have j:=O.und;rw[x]at j;have s:(G.bytes:Int)*(n:Int)<=281474976710656:=by
  have e:(a.2.bytes:Int)*(n:Int)=((n*a.2.bytes:Nat):Int):=by rw[Nat.mul_comm];simp
  rw[M,e];omega
 have X:=run_make (P:=P) w T a.1 G a.2.zero j y C k.1 c.1 n n V7 (Int.le_refl _) s V7;refine⟨_,_,_,?_,z,J,.sl (l:=⟨w.heap.size,0,((Array.range (n*a.2.size)).map (a.2.zero.cells[· % a.2.zero.cells.size]!)).size,.cells ((Array.range (n*a.2.size)).map (a.2.zero.cells[· % a.2.zero.cells.size]!)) a.1,.cells (UN I n)⟩) (cap:=n) (A:=⟨w.heap.size,0,none⟩) (by simp[fE.upd]) (zAg _) (.inr ⟨rfl,V8⟩)⟩
 rw[X];simp[madeCells,Y]
theorem agG {o:V1 GV} {O:V1 V0} {d n:Nat} (e:(o=none/\O=none)\/∃g x,o=some g/\O=some x/\Rl ρ g x) (h:vB o d=some n):(o=none/\O=none/\n=d)\/∃k:IntKind,O=some (.int k n):=by
 rcases e with⟨rfl,rfl⟩|⟨g,x,rfl,rfl,b⟩
 .cases h;exact .inl ⟨rfl,rfl,rfl⟩
 .have⟨a,c,h⟩:=aE.1 (show ob g.asI _=some n from h);rw[nS c]at b;exact .inr ⟨a.1,by rw[b.int_inv,IF h]⟩
def RlO (ρ:fE) (o:V1 GV) (O:V1 V0):Prop:=(o=none/\O=none)\/∃g x,o=some g/\O=some x/\Rl ρ g x
theorem FC {sl:V4} {len cap l h:Nat} {j i:V1 GV} {e d:V1 V0} (c:RlO ρ j e) (b:RlO ρ i d) (k:vB j 0=some l) (m:vB i len=some h) (a:l<=h) (f:h<=cap) (w:V2):
  (Instr.sliceBounds sl len cap e d none).run P w = .ok (l,h,cap) w:=by
 rcases agG c k with⟨_,rfl,rfl⟩|⟨n,rfl⟩<;>rcases agG b m with⟨_,rfl,rfl⟩|⟨o,rfl⟩
 .simp[Instr.sliceBounds]
 .simp[Instr.sliceBounds,Instr.sliceBound,asIntOf,f]
 .simp[Instr.sliceBounds,Instr.sliceBound,asIntOf,a]
 .simp[Instr.sliceBounds,Instr.sliceBound,asIntOf,a,f]
theorem Qn (G:gQ P tb) {T:V9} {Y Q:V1 GV} {LO HI:V1 V0} (R:(∃(w0:fO gs) (w:V2),g_ w0 ρ H w)\/∀t,tb T=some t->tdA t.desc=none) (z:Rl ρ v V) (x:RlO ρ Y LO) (o:RlO ρ Q HI) (h:DD tb T v Y Q H=some g):EP P ρ (Instr.sliceAt T V LO HI none) g:=by
 have⟨l,J,h⟩:=aE.1 (show ob (vB Y 0) _=some g from h);have⟨t,ht,h⟩:=aE.1 h;have I:=G.tab ht;cases S:v.asStr with
 | some s =>
  rw[S]at h;have⟨e,D,h⟩:=aE.1 (show ob (vB Q s.2) _=some g from h);have⟨hd,h⟩:=bV.1 h;have⟨d,h⟩:=bV.1 (show(bif Nat.ble l e then _ else none)=some g from h);have⟨a,h⟩:=bV.1 h;simp only[Ad]at h;cases h;have d:l<=e:=by simpa using d
  have a:e<=s.2:=by simpa using a
  rw[rO S]at z;obtain⟨r,rfl,K,e2⟩:=z.str_inv;have j:r.size=s.2:=by rw[e2];exact Lib.size_eq r
  have hx:=Lib.extract_data r l e;refine⟨.string (r.extract l e),?_,λw=>?_⟩
  .have:Rl ρ (.str (mZ (bT (r.extract l e))) (bT (r.extract l e)).length) (.string (r.extract l e)):= .str _;have e3:bT (r.extract l e)=((bT r).drop l).take (e - l):=hx;rw[e3]at this;rw[K,abe];have e4:(((bT r).drop l).take (e - l)).length=Nat.sub e l:=by
    simp only[List.length_take,List.length_drop,<-e2];show _=e - l;omega
   rw[e4]at this;exact this
  .have m:=I.run_und w;rw[Dz hd]at m;have n:=FC (P:=P) (sl:=false) (cap:=s.2) x o J D d a w;simp[Instr.sliceAt,m,Instr.slice,j,n]
 | none =>
  rw[S]at h;cases M:v.asS with
  | some s =>
   simp only[M]at h;have⟨E,B,h⟩:=aE.1 (show ob (tdS t.desc) _=some g from h);have⟨f,k,h⟩:=aE.1 h;have⟨e,D,h⟩:=aE.1 h;have⟨j,h⟩:=bV.1 (show(bif Nat.beq f.size s.2.2.2 then _ else none)=some g from h);have⟨d,h⟩:=bV.1 h;have⟨a,h⟩:=bV.1 h;simp only[Ad]at h;cases h;have j:f.size=s.2.2.2:=zA5 j;have d:l<=e:=by simpa using d
   have a:e<=s.2.2.1:=by simpa using a
   rw[Eg M]at z;obtain⟨i,c,A,q,rfl,hc,ha⟩:=z.sl_inv;refine⟨.slice (if c=l then some A else(some A).map (·.add (l*f.size))) (e - l) (c - l),?_,λw=>?_⟩
   .have K:(if c=l then some A else(some A).map (·.add (l*f.size)))=some (if c=l then A else A.add (l*f.size)):=by split<;>rfl
    rw[K];refine .sl q (show e - l<=c - l by omega) ?_;by_cases C:c - l=0
    .exact .inl C
    .right;rw[Q0];rcases ha with ha|⟨rfl,n⟩
     .omega
     .rw[eZ];refine⟨by show _=(⟨i.b,i.off+(s.2.1+l*f.size),none⟩:Addr);rw[Nat.add_assoc],?_⟩
      have:c*s.2.2.2=l*f.size+(c - l)*f.size:=by rw[<-j,<-zB3];congr 1;omega
      show i.off+(s.2.1+l*f.size)+(c - l)*f.size<=i.size;omega
   .have m:=I.run_und w;rw[IV B]at m;have n:=FC (P:=P) (sl:=true) (cap:=c) x o J D d V7 w;simp[Instr.sliceAt,m,Instr.slice,n,(G.tab k).run_size w]
  | none =>
   simp only[M]at h;cases X:v.isSnil with
   |true=>
    rw[X]at h;have⟨E,B,h⟩:=aE.1 (show ob (tdS t.desc) _=some g from h);have⟨f,k,h⟩:=aE.1 h;have⟨e,D,h⟩:=aE.1 h;have⟨F,h⟩:=bV.1 h;have⟨L,h⟩:=bV.1 h;cases h;have F:l=0:=zA5 F;have L:e=0:=zA5 L;subst F L;rw[Aa X]at z;rw[z.snil_inv];refine⟨_,.snil,λw=>?_⟩
    have m:=I.run_und w;rw[IV B]at m;have n:=FC (P:=P) (sl:=true) (len:=0) (cap:=0) x o J D (zAg _) (zAg _) w;simp[Instr.sliceAt,m,Instr.slice,n,(G.tab k).run_size w]
   |false=>
   rw[X]at h;have⟨p,hp,h⟩:=aE.1 (show ob v.asP _=some g from h);have⟨E,B,h⟩:=aE.1 h;have⟨f,k,h⟩:=aE.1 h;have⟨e,D,h⟩:=aE.1 h;have⟨cs,N,h⟩:=aE.1 h;have⟨y,h⟩:=bV.1 h;have⟨d,h⟩:=bV.1 (show(bif Nat.ble l e then _ else none)=some g from h);have⟨a,h⟩:=bV.1 h;have⟨F,h⟩:=lG.1 h;simp only[Ad]at h;cases h;have y:p.2+E.1*f.size<=cs.length:=by simpa using y
   have d:l<=e:=by simpa using d
   have a:e<=E.1:=by simpa using a
   rw[Gu hp]at z;obtain⟨i,q,rfl⟩:=z.ptr_inv;rcases R with⟨w0,w,R⟩|R
   rotate_left
   .rw[R t ht]at B;cases B
   have⟨ab,T',n,aa,O,_⟩:=R.cells N q;refine⟨.slice (some (if E.1=l then⟨i.b,i.off+p.2,none⟩else Addr.add ⟨i.b,i.off+p.2,none⟩ (l*f.size))) (e - l) (E.1 - l),?_,λw=>?_⟩
   .refine .sl q (show e - l<=E.1 - l by omega) ?_;by_cases C:E.1 - l=0
    .exact .inl C
    .right;rw[Q0,eZ];refine⟨by show _=(⟨i.b,i.off+(p.2+l*f.size),none⟩:Addr);rw[Nat.add_assoc],?_⟩
     have:E.1*f.size=l*f.size+(E.1 - l)*f.size:=by rw[<-zB3];congr 1;omega
     show i.off+(p.2+l*f.size)+(E.1 - l)*f.size<=i.size;omega
   .have m:=I.run_und w;rw[Wl B]at m;have n:=FC (P:=P) (sl:=false) (cap:=E.1) x o J D d a w;simp[Instr.sliceAt,m,Instr.sureAddr,n,(G.tab k).run_size w]
end
section
variable {P:Program} {tb:TB} {ρ:fE} {V U W:V0} {v u t g:GV} {gs:Cf} {w0:fO gs} {w:V2} {H H':GH}
structure Ys (ρ:fE) (w:World) (sz n:Nat) (r:List GV) (V:V0) (ns:List V0):Prop where
 rel:pX ρ r ns
 len:ns.length=n*sz
 one:∀x∈ns,Go.Sx.one x=true
 val:∃base cap,V = .slice base n cap/\n<=cap/\((base=none/\n=0/\cap=0)\/∃A,base=some A/\∀(j:Nat) x,ns[j]?=some x->w.cell? (A.add j)=some x)
theorem Fb (R:g_ w0 ρ H w) {m:Nat} {p:Nat×V6 GV} (F:Rl ρ v V) (h:wL H m v=some p):∃k,Ys ρ w m p.1 p.2 V k:=by
 unfold wL at h;cases K:v.isSnil with
 |true=>
  rw[K]at h;cases h;rw[Aa K]at F;exact⟨[],.nil,V8,λx f=>by simp at f,none,0,F.snil_inv,zAg _,.inl ⟨rfl,rfl,rfl⟩⟩
 | false =>
  rw[K]at h;have⟨s,hs,h⟩:=aE.1 (show ob v.asS _=some p from h);have⟨D,h⟩:=bV.1 h;have⟨cs,I,h⟩:=aE.1 h;have⟨r,hr,h⟩:=aE.1 h;cases h;have D:s.2.2.2=m:=zA5 D;obtain⟨N,rfl⟩:=RN hr;have N:s.2.1+s.2.2.1*m<=cs.length:=N;rw[Eg hs]at F;obtain⟨l,G,A,Y,rfl,S,M⟩:=F.sl_inv;have⟨o,T,X,J,O,e⟩:=R.cells I Y;let k:=(o.toList.drop (l.off+s.2.1)).take (s.2.2.1*m);have n:k.length=s.2.2.1*m:=by simp[k];omega
  have C:pX ρ ((cs.drop s.2.1).take (s.2.2.1*m)) k:=⟨by rw[n];simp;omega,λi a b c d=>by
   simp only[k]at d;rw[zAt]at c d;by_cases E:i<s.2.2.1*m
   .rw[if_pos E,zAu]at c d;have⟨x,q,z,_⟩:=e _ _ c;rw[zAl,show l.off+s.2.1+i=l.off+(s.2.1+i) by omega,q]at d;cases d;exact z
   .rw[if_neg E]at c;cases c⟩
  have B:∀(j:Nat) x,k[j]?=some x->j<s.2.2.1*m/\o[l.off+(s.2.1+j)]?=some x:=λj x f=>by
   have aa:=bH f;simp only[k]at f;rw[zAt,Q3,zAu,zAl,show l.off+s.2.1+j=l.off+(s.2.1+j) by omega]at f;exact⟨V7,f⟩
  refine⟨k,C,n,λx f=>?_,_,G,rfl,S,.inr ⟨A,rfl,λj x f=>?_⟩⟩
  .have⟨i,E⟩:=List.mem_iff_getElem?.1 f;have⟨q,z⟩:=B i x E;have⟨y,L,_,Q⟩:=e (s.2.1+i) _ (zA0 V7);rw[z]at L;cases L;exact Q
  .have⟨q,z⟩:=B j x f;rcases M with M|⟨rfl,_⟩
   .have:s.2.2.1=0:=V7
    rw[this]at q;simp at q
   .rw[eZ,show l.off+s.2.1+j=l.off+(s.2.1+j) by omega];simp[World.cell?,X,z]
theorem Ys.src {e n:Nat} {r:V6 GV} {b:V6 V0} (h:Ys ρ w e n r V b) {T E:V9} (d:P.underlying T=some (.slice E)):Src P e T V n b w:=by
 obtain⟨base,c,rfl,_,i⟩:=h.val;have a:∀x∈b,x.oneCell'=true:=λx j=>qP (h.one x j);rcases i with⟨rfl,rfl,rfl⟩|⟨A,rfl,f⟩
 .have:b=[]:=zAo (by have:=h.len;simpa using this);subst this;exact Src.ofNil w d 0
 .exact Src.ofSlice w d A n c b h.len f a
theorem Ys.old {b n:Nat} {r:V6 GV} {a:V6 V0} (h:Ys ρ w b n r V a):(Builtin.firstCells b n V).run P w.drew = .ok a.toArray w.drew:=by
 obtain⟨base,c,rfl,_,e⟩:=h.val;rcases e with⟨rfl,rfl,rfl⟩|⟨A,rfl,d⟩
 .have:a=[]:=zAo (by have:=h.len;simpa using this);subst this;exact run_firstCells_none w.drew b 0 0 0
 .exact run_firstCells_some w.drew b n A n c a h.len d
theorem g_.alloc' (R:g_ w0 ρ H w) {cs:V6 GV} {a:Array V0} (T:V9) (f:cs.length<=a.size) (p:∀(i:Nat) g,cs[i]?=some g->∃x,a[i]?=some x/\Rl ρ g x/\one x=true):
  ∃b,ρ.le b/\b=ρ.upd H.n ⟨w.heap.size,0,a.size,.cells a T,.cells cs⟩/\g_ w0 b (H.new (.cells cs)) (w.alloc (.cells a T)):=by
 have e:Qx w (w.alloc (.cells a T)):=(Below.refl _ _).alloc (zAg _) _;have h:=R.new (o:= .cells cs) (l:=⟨w.heap.size,0,a.size,.cells a T,.cells cs⟩) (R.ext.trans e) (λh r s d f=>by
  have⟨l,c,_,k⟩:=R.live h r d;rw[f]at c;cases c;exact⟨e.block _ k.lt,Nat.ne_of_lt k.lt⟩) (.inl R.ext.size) (by
  refine⟨a,T,heap_alloc_new w _,rfl,by simpa using f,λi g d=>?_⟩
  have⟨x,q,j,m⟩:=p i g d;exact⟨x,by simpa using q,j.le (Bt (R.fresh _ (zAg _))),m⟩) (heap_alloc_new w _)
 exact⟨_,h.1,rfl,h.2⟩
theorem Vp {e:Nat} {p:Nat×V6 GV} {s:Nat×Nat×Nat×Nat} (h:wL H e v=some p) (f:v.asS=some s):s.2.2.2=e/\∃cs,H.cells s.1=some cs/\s.2.1+s.2.2.1*e<=cs.length/\p.1=s.2.2.1:=by
 unfold wL at h;have c:v.isSnil=false:=by rw[Eg f];rfl
 rw[c]at h;have⟨j,a,h⟩:=aE.1 (show ob v.asS _=some p from h);rw[f]at a;cases a;have⟨d,h⟩:=bV.1 h;have⟨cs,b,h⟩:=aE.1 h;have⟨r,i,h⟩:=aE.1 h;cases h;exact⟨zA5 d,cs,b,(RN i).1,rfl⟩
theorem YA (R:g_ w0 ρ H w) {D a k f m q:Nat} {l:Pj} {cs s z:V6 GV} {ac d:V6 V0} (C:H.cells D=some cs) (hl:ρ D=some l) (F:Ys ρ w f k s (.slice (some ⟨l.b,l.off+a,none⟩) k q) ac)
  (r2:pX ρ z d) (l2:d.length=m*f) (o2:∀x∈d,one x=true) (E:k+m<=q) (N:l.off+a+q*f<=l.size):
  ∃c r,w.heap[l.b]?=some (.cells c r (0,0))/\l.off+a+q*f<=c.size/\ρ.le (ρ.upd H.n ⟨l.b,l.off+a,l.size,(.cells (c.toList.take (l.off+a+k*f)++d++c.toList.drop (l.off+a+k*f+d.length)).toArray r),.cells (s++z)⟩)/\
   g_ w0 (ρ.upd H.n ⟨l.b,l.off+a,l.size,(.cells (c.toList.take (l.off+a+k*f)++d++c.toList.drop (l.off+a+k*f+d.length)).toArray r),.cells (s++z)⟩) ((H.del D).new (.cells (s++z))) (w.setRow l.b (c.toList.take (l.off+a+k*f)++d++c.toList.drop (l.off+a+k*f+d.length)).toArray):=by
 have⟨c,r,M,ab,ae,T⟩:=R.cells C hl;have af:k*f+m*f<=q*f:=by rw[<-zB3];exact zAv _ E
 have ag:c.toList.length=c.size:=V8
 have⟨l0,I,p,_⟩:=R.live _ _ (jT.1 C);rw[hl]at I;cases I;have l1:=F.len;have e1:s.length=k*f:=by rw[F.rel.len];exact l1
 have e2:z.length=m*f:=by rw[r2.len];exact l2
 have B:=(R.del D).new (o:= .cells (s++z)) (l:=⟨l.b,l.off+a,l.size,(.cells (c.toList.take (l.off+a+k*f)++d++c.toList.drop (l.off+a+k*f+d.length)).toArray r),.cells (s++z)⟩)
  (w':=w.setRow l.b (c.toList.take (l.off+a+k*f)++d++c.toList.drop (l.off+a+k*f+d.length)).toArray)
  ⟨R.ext.os,R.ext.tape,R.ext.output,by simpa using R.ext.size,λk hk hO=>by
   rw[setRow_other w l.b k _ (λe=>by subst e;rcases p with j|j;exact absurd j V7;exact hO j)];exact R.ext.block k hk hO⟩
  (λh o' l' G aa=>by
   rw[IB]at G;by_cases e:h=D
   .rw[if_pos e]at G;cases G
   .rw[if_neg e]at G;have K:l'.b≠l.b:=λe'=>e (R.inj h D o' _ l' l G (jT.1 C) aa hl e');exact⟨setRow_other w l.b l'.b _ K,K⟩) p (by
   refine⟨_,r,setRow_heap w l.b _ _ r _ M,?_,?_,λi x hx=>?_⟩
   .simp;omega
   .show l.off+a+(s++z).length<=l.size;rw[zA4,e1,e2];omega
   .have J:ρ.le (ρ.upd (H.del D).n ⟨l.b,l.off+a,l.size,(.cells (c.toList.take (l.off+a+k*f)++d++c.toList.drop (l.off+a+k*f+d.length)).toArray r),.cells (s++z)⟩):=Bt (R.fresh _ (zAg _));have Y:=bH hx;rw[zA4,e1,e2]at Y;have⟨y,L,hr⟩:=(F.rel.append r2).get hx;refine⟨y,?_,hr.le J,?_⟩
    .show(c.toList.take (l.off+a+k*f)++d++c.toList.drop (l.off+a+k*f+d.length)).toArray[l.off+a+i]?=some y;rw[List.getElem?_toArray,zBb];by_cases hi:i<k*f
     .rw[zAc Q1,zAt,Q3,zAl];rw[zAc V7]at L;have⟨O,ad,S,_,X⟩:=F.val;cases S;rcases X with⟨h1,_⟩|⟨A,hA,Q⟩
      .cases h1
      .cases hA;have:=Q i y L;rw[eZ]at this;simpa [World.cell?,M]using this
     .rw[zAb Q1,List.length_take,show min (l.off+a+k*f) c.toList.length=l.off+a+k*f by omega];rw[zAb V7,l1]at L;rw[zAc V7];rw[<-L];congr 1;omega
    .rcases zB1.1 (zA1 L)with hm|hm
     .exact F.one y hm
     .exact o2 y hm) (setRow_heap w l.b _ _ r _ M)
 exact⟨c,r,M,V7,B.1,B.2⟩
theorem adm (E:gQ P tb) {T C ty:V9} (R:g_ w0 ρ H w) (hv:Rl ρ v V) (hu:Rl ρ u U) (h:adl tb T C v u H=some (g,H')):Qv P w0 ρ (Builtin.append_ #[T,C] ty #[V,U]) w g H':=by
 unfold adl at h;have⟨O,h⟩:=bV.1 h;have⟨b,N,h⟩:=aE.1 h;have⟨t',M,h⟩:=aE.1 h;have⟨kn,J,h⟩:=aE.1 h;have⟨B,hz,h⟩:=aE.1 h;have⟨k,hk,h⟩:=aE.1 h;have⟨n,hn,h⟩:=aE.1 h;have⟨f,h⟩:=bV.1 h;have⟨m,h⟩:=bV.1 h;have⟨D,h⟩:=lG.1 h;have⟨p,h⟩:=lG.1 h;rw[Tn,jR]at h;cases h;have⟨⟨d,hd,F⟩,hE,z⟩:=zX E N;have⟨dz,q,_,hC⟩:=xK (ρ:=ρ) E hz;rw[z]at q;cases q;have f:B.length=b.2.size:=zA5 f;have D:b.2.size≠0:=λe=>by rw[e]at D;cases D
 have p:n≠0:=λe=>by rw[e]at p;cases p
 have m:n*(b.2.bytes+1)<16777216:=by simpa [zAy]using m
 have aa:n*b.2.bytes+n<16777216:=by rw[Nat.mul_add,Nat.mul_one]at m;exact m
 rw[Aa O]at hv;have hV:=hv.snil_inv;subst hV;rw[nS hk]at hu;rw[hu.int_inv,IF hn];have⟨iE,I,hs,hb,Y⟩:=hE.info;have o:=hd.und;rw[F]at o;have j:=(E.tab M).und;rw[IU J]at j;have hr:=Lib.run_append_nil_zeros (P:=P) w T C ty b.1 iE b.2.zero k.1 kn o j I Y n V7 V7 V7 (by rw[hb];omega);have A:b.2.zero.cells.size=b.2.size:=by have:=hC.r.len;simp at this;omega
 have G:=grownCap_ge w n 0 b.1;have c:=JJ hC V7 n;have s:=c.r.len;have hx:Builtin.zeroCells b.2.zero.cells n=(Array.range (n*B.length)).map (b.2.zero.cells[· % b.2.zero.cells.size]!):=by
  unfold Builtin.zeroCells;rw[A,f]
 rw[<-hx]at c s;obtain⟨ab,K,rfl,R'⟩:=R.alloc' (cs:=UN B n) (a:=Builtin.zeroCells b.2.zero.cells n++Builtin.zeroCells b.2.zero.cells (grownCap w n 0 b.1 - n)) b.1 (by
   simp only[Array.size_append];have:(UN B n).length=(Builtin.zeroCells b.2.zero.cells n).size:=by simpa using s
   omega) (λi x Q=>by
  have⟨y,S,L⟩:=c.r.get Q;have X:(Builtin.zeroCells b.2.zero.cells n)[i]?=some y:=by simpa using S
  exact⟨y,by rw[zBg (by simpa using bH S)];exact X,L,c.one y (by simpa using zA1 S)⟩)
 refine⟨_,_,_,hr,K,R'.ext' ((Below.refl _ _).drew),?_⟩
 refine .sl (l:=⟨w.heap.size,0,(Builtin.zeroCells b.2.zero.cells n++Builtin.zeroCells b.2.zero.cells (grownCap w n 0 b.1 - n)).size,.cells (Builtin.zeroCells b.2.zero.cells n++Builtin.zeroCells b.2.zero.cells (grownCap w n 0 b.1 - n)) b.1,.cells (UN B n)⟩) (by simp[fE.upd]) G (.inr ⟨rfl,?_⟩);simp only[Array.size_append,size_zeroCells,A];have:grownCap w n 0 b.1*b.2.size=n*b.2.size+(grownCap w n 0 b.1 - n)*b.2.size:=by
  rw[<-zB3];congr 1;omega
 omega
theorem g_.put (R:g_ w0 ρ H w) {D o:Nat} {cs z K:V6 GV} {l:Pj} {d:V6 V0} (h:H.cells D=some cs) (G:ρ D=some l) (q:pX ρ z d) (n:∀x∈d,one x=true) (p:Jw z o cs=some K) (I:z≠[]):
  ∃a j,w.heap[l.b]?=some (.cells a j (0,0))/\l.off+o+d.length<=a.size/\∃A,ρ.le A/\g_ w0 A (H.set D (.cells K)) (w.setRow l.b (a.toList.take (l.off+o)++d++a.toList.drop (l.off+o+d.length)).toArray):=by
 have⟨a,j,C,T,M,f⟩:=R.cells h G;have X:z.length=d.length:=q.len;have⟨N,p2,Y⟩:=MD p;have N:=N I;refine⟨a,j,C,V7,_,R.set (jT.1 h) G ?_ (λk F=>setRow_other w l.b k _ F) ?_ (setRow_heap w l.b _ _ j _ C)⟩
 .have⟨l',m,c,_⟩:=R.live _ _ (jT.1 h);rw[G]at m;cases m;exact⟨R.ext.os,R.ext.tape,R.ext.output,by simpa using R.ext.size,λk F L=>by
   rw[setRow_other w l.b k _ (λe=>by subst e;rcases c with c|c;exact absurd c V7;exact L c)];exact R.ext.block k F L⟩
 .refine⟨_,j,setRow_heap w l.b _ _ j _ C,?_,V7,λi x r=>?_⟩
  .simp;omega
  .rw[Y i]at r;have Q:a.toList.length=a.size:=V8
   have s:(a.toList.take (l.off+o)++d++a.toList.drop (l.off+o+d.length)).toArray[l.off+i]?=if o<=i/\i<o+d.length then d[i - o]? else a[l.off+i]?:=by
    rw[List.getElem?_toArray,zBb];by_cases E:i<o
    .rw[Q0,zAc Q1,zAt,Q3,zAl]
    .rw[zAb Q1,List.length_take];have O:min (l.off+o) a.toList.length=l.off+o:=V7
     rw[O];by_cases S:i<o+d.length
     .rw[Q3,zAc V7];congr 1;omega
     .rw[Q0,zAb V7,zAu,zAl];congr 1;omega
   by_cases E:o<=i/\i<o+z.length
   .rw[if_pos E]at r;have⟨y,B,J⟩:=q.get r;exact⟨y,by rw[s,Q3];exact B,J,n y (zA1 B)⟩
   .rw[if_neg E]at r;have⟨y,B,J⟩:=f i x r;exact⟨y,by rw[s,Q0];exact B,J⟩
theorem adq (hG:gQ P tb) {T T' ty:V9} (R:g_ w0 ρ H w) (hv:Rl ρ v V) (hu:Rl ρ u U) (h:agI tb T v u H=some (g,H')):Qv P w0 ρ (Builtin.copy_ #[T,T'] ty #[V,U]) w g H':=by
 have⟨s,hs,h⟩:=aE.1 (show ob v.asS _=some (g,H')from h);have⟨r,hr,h⟩:=aE.1 h;have⟨f,Y,h⟩:=aE.1 h;have⟨D,h⟩:=bV.1 h;have⟨m,h⟩:=bV.1 h;have⟨c,h⟩:=bV.1 h;have⟨G,M,h⟩:=aE.1 h;have⟨xs,aa,h⟩:=aE.1 h;have⟨ds,N,h⟩:=aE.1 h;have D:s.2.2.2=f.2.size:=zA5 D;have m:r.2.2.2=f.2.size:=zA5 m;have c:r.2.2.1=s.2.2.1:=zA5 c;cases xs with
 |nil=>cases h
 | cons x0 xs0 =>
  have⟨c1,B,h⟩:=aE.1 (show ob (Jw (x0::xs0) s.2.1 ds) _=some (g,H')from h);rw[Bp]at h;cases h;have k:wL H f.2.size u=some (r.2.2.1,x0::xs0):=by
   unfold wL;rw[Eg hr];have K:Nat.beq f.2.size f.2.size=true:=V8
   show ob (some r) (λs=>bif Nat.beq s.2.2.2 f.2.size then _ else none)=_;show(bif Nat.beq r.2.2.2 f.2.size then ob (H.cells r.1) (λG=>ob (slc G r.2.1 (Nat.mul r.2.2.1 f.2.size)) λq=>some (r.2.2.1,q))else none)=_;rw[m,K,cond_true,M];show ob (slc G r.2.1 (Nat.mul r.2.2.1 f.2.size)) _=_;rw[aa];rfl
  have⟨ns,n⟩:=Fb R hu k;have⟨⟨d,hd,p⟩,hE,ad⟩:=zX hG Y;rw[Eg hs]at hv;obtain⟨l,ae,A,hl,rfl,hc,ha⟩:=hv.sl_inv;have X:x0::xs0≠[]:=V8
  have⟨I,T2,K,y,ab,S,R'⟩:=R.put N hl n.rel n.one B X;have a:=n.len;have i:ns.length≠0:=by have:=n.rel.len;simp at this;omega
  have hA:A=⟨l.b,l.off+s.2.1,none⟩:=by
   rcases ha with ha|⟨e,_⟩
   .exfalso;have:s.2.2.1=0:=V7
    rw[c,this]at a;simp at a;exact i (by simp[a])
   .exact e
  subst hA;have F:=hd.und;rw[p]at F;have E:=run_storeCells_at P l.b (l.off+s.2.1) T2 ns 0 I w K (by simpa using y) (λx hx=>qP (n.one x hx));simp only[Nat.add_zero]at E;have⟨ac,o,J,L,O⟩:=n.val;subst J;rcases O with⟨_,h0,_⟩|⟨A2,rfl,j⟩
  .exfalso;rw[h0]at a;simp at a;exact i (by simp[a])
  have Q:=run_firstCells_some (P:=P) w f.2.size r.2.2.1 A2 r.2.2.1 o ns a j;have C:=hd.run_und w;rw[p]at C;refine⟨_,_,ab,?_,S,R',.int _ _⟩
  have z:Nat.min r.2.2.1 s.2.2.1=r.2.2.1:=by rw[c];exact Nat.min_self _
  simp[Builtin.copy_,C,Builtin.lenOf,hE.run_size w,z,Q,E,goInt]
theorem afU (hG:gQ P tb) {T T' ty:V9} (R:g_ w0 ρ H w) (hv:Rl ρ v V) (hu:Rl ρ u U) (h:Wo tb T T' v u H=some (g,H')):Qv P w0 ρ (Builtin.append_ #[T,T'] ty #[V,U]) w g H':=by
 unfold Wo at h;cases F:Nat.beq T T' with
 |false=>rw[F]at h;exact adm hG R hv hu h
 |true=>
 rw[F]at h;have F:T=T':=zA5 F;subst F;rw[cond_true]at h;have⟨c,aq,h⟩:=aE.1 h;have⟨h0,h⟩:=lG.1 h;have⟨zc,hz,h⟩:=aE.1 h;have⟨ah,h⟩:=bV.1 h;have⟨p,hp,h⟩:=aE.1 h;have⟨q,hq,h⟩:=aE.1 h;have⟨⟨d,hd,I⟩,hE,ag⟩:=zX hG aq;have⟨dz,af,_,hC⟩:=xK (ρ:=ρ) hG hz;rw[ag]at af;cases af;have ah:zc.length=c.2.size:=zA5 ah;have au:c.2.zero.cells.size=c.2.size:=by have:=hC.r.len;simp at this;omega
 have h0:c.2.size≠0:=λe=>by rw[e]at h0;cases h0
 have⟨D,c1⟩:=Fb R hv hp;have⟨o,L⟩:=Fb R hu hq;have Q:=hd.und;rw[I]at Q;have G:=L.src (P:=P) (T:=T) Q;have⟨E,f,S,M,ak⟩:=c1.val;cases C:q.1 with
 |zero=>
  rw[C]at h;cases h;rw[C]at G;have ao:o=[]:=zAo (by have:=L.len;rw[C]at this;simpa using this);subst ao;refine⟨V,w,ρ,?_,fE.le_refl _,R,hv⟩
  have Y:=hd.run_und w;rw[I]at Y;have N:=G.len w;have ac:=G.cells;subst S;cases E with
  |none=>simp[Builtin.append_,Y,hE.run_size w,N,ac,M]
  |some A=>simp[Builtin.append_,Y,hE.run_size w,N,ac,M,storeCells]
 | succ m =>
  rw[C]at h;simp only[Ad]at h;have⟨z,h⟩:=bV.1 h;rw[ait,abb,jR]at h;cases h;have z:(p.1+q.1)*(c.2.bytes+1)<16777216:=by rw[C];simpa [zAy]using z
  have ax:(p.1+q.1)*c.2.bytes+(p.1+q.1)<16777216:=by rw[Nat.mul_add,Nat.mul_one]at z;exact z
  have O:Nat.add p.1 (m+1)=p.1+q.1:=by rw[C];rfl
  have j:pX ρ (p.2++q.2) (D++o):=c1.rel.append L.rel;have J:(p.2++q.2).length=(p.1+q.1)*c.2.size:=by
   rw[j.len,zA4,c1.len,L.len,<-zB3]
  have K:∀x∈D++o,one x=true:=λx hx=>by
   rcases zB1.1 hx with hx|hx
   .exact c1.one x hx
   .exact L.one x hx
  by_cases k:p.1+q.1<=f
  ·
   have ar:∃s,v.asS=some s:=by
    cases ai:v.isSnil with
    |true=>
     rw[Aa ai]at hv;have:=hv.snil_inv;rw[S]at this;injection this with _ _ e3;omega
    |false=>
     unfold wL at hp;rw[ai]at hp;have⟨s,hs,_⟩:=aE.1 (show ob v.asS _=some p from hp);exact⟨s,hs⟩
   have⟨s,hs⟩:=ar;have⟨ap,cs,al,ay,az⟩:=Vp hp hs;rw[Eg hs]at hv;have⟨l,av,A,hl,ab,hc,ha⟩:=hv.sl_inv;rw[S]at ab;injection ab with e1 e2 e3;subst e1 e3;rcases ha with ha|⟨rfl,B⟩
   .omega
   rw[ap]at B;have aa:=c1;rw[S]at aa;have⟨aw,T',hh,ad,X,R'⟩:=YA R al hl aa L.rel L.len L.one k B;have hr:=Of (P:=P) (ty:=ty) hd I hE hh G k ad;have ae:Vr H v=H.del s.1:=by unfold Vr;rw[hs]
   rw[ae,S];refine⟨_,_,_,hr,X,R',?_⟩
   rw[O];exact .sl (l:=⟨l.b,l.off+s.2.1,l.size,_,_⟩) (by show(if H.n=H.n then _ else _)=_;exact if_pos Z) k (.inr ⟨rfl,by show l.off+s.2.1+0+f*c.2.size<=l.size;omega⟩)
  ·
   have aj:g_ w0 ρ (Vr H v) w.drew:=by
    have:g_ w0 ρ (Vr H v) w:=by
     unfold Vr;cases v.asS with
     |none=>exact R
     |some s=>exact R.del s.1
    exact this.ext' ((Below.refl _ _).drew)
   have hr:=Ug (P:=P) (ty:=ty) hd I hE (base:=E) (by rw[<-S];exact c1.old) G V7 V7 V7;have am:=grownCap_ge w (p.1+q.1) f c.1;have an:(D++o).length=(p.1+q.1)*c.2.size:=by rw[<-j.len];exact J
   obtain⟨aA,X,rfl,R'⟩:=aj.alloc' (cs:=p.2++q.2) (a:=(D++o).toArray++Builtin.zeroCells c.2.zero.cells (grownCap w (p.1+q.1) f c.1 - (p.1+q.1))) c.1 (by simp only[Array.size_append,List.size_toArray];omega) (λi x hx=>by
    have⟨y,hy,hr⟩:=j.get hx;exact⟨y,by rw[zBg (by simpa using bH hy)];simpa using hy,hr,K y (zA1 hy)⟩)
   rw[S];refine⟨_,_,_,hr,X,R',?_⟩
   rw[O];refine .sl (l:=⟨w.heap.size,0,((D++o).toArray++Builtin.zeroCells c.2.zero.cells (grownCap w (p.1+q.1) f c.1 - (p.1+q.1))).size,.cells ((D++o).toArray++Builtin.zeroCells c.2.zero.cells (grownCap w (p.1+q.1) f c.1 - (p.1+q.1))) c.1,.cells (p.2++q.2)⟩) (by simp[fE.upd]) am (.inr ⟨rfl,?_⟩);simp only[Array.size_append,List.size_toArray,size_zeroCells,au,an];have:grownCap w (p.1+q.1) f c.1*c.2.size=(p.1+q.1)*c.2.size+(grownCap w (p.1+q.1) f c.1 - (p.1+q.1))*c.2.size:=by
    rw[<-zB3];congr 1;omega
   omega
end
section
variable {P:Program} {tb:TB} {ρ:fE} {V U W X:V0} {v u t g:GV} {gs:Cf} {w0:fO gs} {w:V2} {H H':GH}
theorem Uz {T:V9} (R:g_ w0 ρ H w) (h:Kd H=some (g,H')):Qv P w0 ρ (Instr.makeMap T none) w g H':=by
 unfold Kd at h;rw[jR]at h;cases h;have e:Qx w (w.alloc (.map #[] 0)):=(Below.refl _ _).alloc (zAg _) _;have b:=R.new (o:= .mp []) (l:=⟨w.heap.size,0,0,.map #[] 0,.mp []⟩) (R.ext.trans e) (λh k m d f=>by
  have⟨l,a,_,c⟩:=R.live h k d;rw[f]at a;cases a;exact⟨e.block _ c.lt,Nat.ne_of_lt c.lt⟩) (.inl R.ext.size) ⟨#[],0,heap_alloc_new w _,rfl,λi x j=>by simp at j⟩ (heap_alloc_new w _)
 refine⟨_,_,_,?_,b.1,b.2,.map (l:=⟨w.heap.size,0,0,.map #[] 0,.mp []⟩) (by simp[fE.upd])⟩
 simp[Instr.makeMap]
theorem abg (s r:ByteArray):UM (mZ (bT s),(bT s).length) (mZ (bT r),(bT r).length)=(s.toList==r.toList):=by
 rw[Lib.toList_data,Lib.toList_data];unfold UM;by_cases b:(bT s).length=(bT r).length
 .have d:Nat.beq (bT r).length (bT r).length=true:=V8
  rw[b,d,cond_true];by_cases a:mZ (bT s)=mZ (bT r)
  .have:=Jr b a;unfold bT at this;rw[a,this];simp
  .rw[oO a];symm;rw[beq_eq_false_iff_ne];intro c;exact a (by unfold bT;rw[c])
 .rw[oO b,cond_false];symm;rw[beq_eq_false_iff_ne];intro c;exact b (by unfold bT;rw[c])
theorem Wb {t:Ty} {a b:GV} {A B:V0} {c:V4} (d:NQ t a=true) (e:Rl ρ a A) (f:Rl ρ b B) (h:Xx a b=some c):Instr.sameNow t.desc A B=some c:=by
 unfold Xx at h;unfold NQ at d;cases i:a.asI with
 | some x =>
  rw[i]at h d;have⟨y,j,h⟩:=aE.1 (show ob b.asI _=some c from h);have⟨z,h⟩:=bV.1 h;cases h;rw[nS i]at e;rw[nS j]at f;rw[e.int_inv,f.int_inv];cases p:tdI t.desc with
  |none=>simp only[p]at d;cases d
  |some k=>
   rw[IU p];have:=Ky z;simp only[Instr.sameNow,this,if_true,Kx];congr 1
 |none=>
  rw[i]at h d;have⟨x,q,h⟩:=aE.1 (show ob a.asStr _=some c from h);have⟨y,j,h⟩:=aE.1 h;cases h;rw[q]at d;rw[rO q]at e;rw[rO j]at f;obtain⟨s,rfl,l,m⟩:=e.str_inv;obtain⟨r,rfl,n,o⟩:=f.str_inv;rw[Dz d];show some (s==r)=_;rw[beq_toListBytes,<-abg];cases x;cases y;simp only at l m n o;rw[l,m,n,o]
theorem NU {t:Ty} {k:GV} {K:V0} (d:NQ t k=true) (c:Rl ρ k K):∀{a:V6 (GV×GV)} {en:V6 MapEntry} {r:V1 GV} (i:Nat),en.length=a.length->(∀(i:Nat) e,a[i]?=some e->∃m,en[i]?=some m/\Rl ρ e.1 m.key/\Rl ρ e.2 m.val)->TG k a=some r->
  (r=none/\Instr.findNow t.desc K en i=some none)\/∃g j x,r=some g/\Rl ρ g x/\Instr.findNow t.desc K en i=some (some (j,x))
 | [],en,r,i,hl,_,h=>by
  cases h;have:en=[]:=zAo (by simpa using hl);subst this;exact .inl ⟨rfl,rfl⟩
 | e :: a, en, r, i, hl, hr, h =>by
  have⟨b,q,h⟩:=aE.1 (show ob (Xx k e.1) (λb=>bif b then some (some e.2)else TG k a)=some r from h);cases en with
  |nil=>simp at hl
  | cons m en =>
   have⟨y,f,o,p⟩:=hr 0 e Z;simp at f;subst f;have l:=Wb d c o q;cases b with
   |true=>
    cases h;exact .inr ⟨e.2,i,m.val,rfl,p,by simp[Instr.findNow,l]⟩
   |false=>
    have:=NU (r:=r) d c (i+1) (by simpa using hl) (λi n s=>by have:=hr (i+1) n (by simpa using s);simpa using this) (show TG k a=some r from h);simpa [Instr.findNow,l]using this
theorem TA (a:gQ P tb) {T:V9} {t:Ty×Ty} (h:abW tb T=some t):∃d k e,uN P T d/\d.desc = .map k e/\uN P k t.1/\uN P e t.2:=by
 have⟨d,j,h⟩:=aE.1 (show ob (tb T) _=some t from h);have⟨i,b,h⟩:=aE.1 h;have⟨l,c,h⟩:=aE.1 h;have⟨m,f,h⟩:=aE.1 h;cases h;exact⟨d,i.1,i.2,a.tab j,aiZ b,a.tab c,a.tab f⟩
theorem JM {K:V9} {t:Ty} {b:V4} (j:uN P K t) (c:NQ t u=true) (d:Rl ρ u U) (w:V2):(Instr.checkKey b 10000 K U).run P w = .ok () w:=by
 have a:=j.run_und w;unfold NQ at c;have h:∀n:Nat,(Instr.checkKey b (n+1) K U).run P w = .ok () w:=λn=>by
  unfold Instr.checkKey;cases e:u.asI with
  |some x=>
   rw[e]at c;rw[nS e]at d;rw[d.int_inv];cases i:tdI t.desc with
   |none=>simp only[i]at c;cases c
   |some k=>rw[IU i]at a;simp[a]
  | none =>
   rw[e]at c;cases f:u.asStr with
   |none=>simp only[f]at c;cases c
   |some x=>
    simp only[f]at c;rw[rO f]at d;obtain⟨s,rfl,_,_⟩:=d.str_inv;rw[Dz c]at a;simp[a]
 exact h 9999
theorem g_.map (R:g_ w0 ρ H w) {h:Nat} {c:V6 (GV×GV)} (e:H.get h=some (.mp c)) {l:Pj} (f:ρ h=some l):Bl ρ w l (.mp c)/\w0.mine l.b:=by
 have⟨j,a,d,i⟩:=R.live h _ e;rw[f]at a;cases a;exact⟨i,d⟩
theorem adr (S:gQ P tb) {T:V9} {B:V4} (R:g_ w0 ρ H w) (K:Rl ρ v V) (J:Rl ρ u U) (h:agJ tb T B v u H=some g):∃x,Rl ρ g x/\(Instr.lookup T V U B).run P w = .ok x w:=by
 have⟨m,hm,h⟩:=aE.1 (show ob v.asM _=some g from h);have⟨o,I,h⟩:=aE.1 h;have⟨es,D,h⟩:=aE.1 h;have⟨t,ht,h⟩:=aE.1 h;have⟨G,h⟩:=bV.1 h;have⟨r,hr,h⟩:=aE.1 h;have⟨z,hz,h⟩:=aE.1 h;rw[asM_eq hm]at K;obtain⟨l,hl,rfl⟩:=K.map_inv;rw[GO.asM_eq D]at I;have⟨⟨A,M,Y,s,q⟩,_⟩:=R.map I hl;have⟨d,k,e,hd,C,F,E⟩:=TA S ht;have c:=hd.run_und w;rw[C]at c;have n:=JM (P:=P) (b:=A.isEmpty) F G J w;have f:(getObj l.b).run P w = .ok (.map A M) w:=by simp[getObj,Sem.run,Y]
 have a:=F.run_und w;have p:=NU G J (en:=A.toList) (r:=r) 0 (by simpa using s) (λi N he=>by
  have⟨m',O,Q⟩:=q i N he;exact⟨m',by rw[zAl];exact O,Q⟩) hr
 have y:=VV (ρ:=ρ) hz;rcases p with⟨rfl,p⟩|⟨g',j,x,rfl,L,p⟩
 .cases B with
  |false=>cases h;exact⟨_,y,by simp[Instr.lookup,c,f,n,Instr.findKey,a,p,E.run_zero w]⟩
  |true=>cases h;exact⟨.tuple #[t.2.zero,.bool false],Mo (.cons y (.cons (.bool _) .nil)),by simp[Instr.lookup,c,f,n,Instr.findKey,a,p,E.run_zero w]⟩
 .cases B with
  |false=>cases h;exact⟨x,L,by simp[Instr.lookup,c,f,n,Instr.findKey,a,p]⟩
  |true=>cases h;exact⟨.tuple #[x,.bool true],Mo (.cons L (.cons (.bool _) .nil)),by simp[Instr.lookup,c,f,n,Instr.findKey,a,p]⟩
theorem ZD (hG:gQ P tb) {T:V9} (R:g_ w0 ρ H w) (hv:Rl ρ v V) (N:Rl ρ u U) (hx:Rl ρ t X) (h:adt tb T v u t H=some (g,H')):g = .un/\∃w' C,(Instr.mapUpdate T V U X).run P w = .ok () w'/\ρ.le C/\g_ w0 C H' w':=by
 have⟨m,hm,h⟩:=aE.1 (show ob v.asM _=some (g,H')from h);have⟨o,M,h⟩:=aE.1 h;have⟨Q,L,h⟩:=aE.1 h;have⟨ty,ht,h⟩:=aE.1 h;have⟨hk,h⟩:=bV.1 h;have⟨r,hr,h⟩:=aE.1 h;rw[asM_eq hm]at hv;obtain⟨l,hl,rfl⟩:=hv.map_inv;rw[GO.asM_eq L]at M;have⟨⟨z,c,D,p,n⟩,a⟩:=R.map M hl;have⟨d,k,e,hd,K,S,hE⟩:=TA hG ht;have q:=hd.run_und w;rw[K]at q;have J:=JM (P:=P) (b:=false) S hk N w;have A:(getObj l.b).run P w = .ok (.map z c) w:=by simp[getObj,Sem.run,D]
 have s:=S.run_und w;have E:=NU hk N (en:=z.toList) (r:=r) 0 (by simpa using p) (λi F f=>by
  have⟨O,G,I⟩:=n i F f;exact⟨O,by rw[zAl];exact G,I⟩) hr
 rcases E with⟨rfl,E⟩|⟨g',j,x,rfl,aa,E⟩
 .simp only[Bp]at h;cases h;refine⟨rfl,{w with heap:=w.heap.setIfInBounds l.b (.map (z.push {key:=U,val:=X,born:=c}) (c+1))},_,?_,R.set (X:= .map (z.push {key:=U,val:=X,born:=c}) (c+1)) M hl ?_ ?_ ?_ ?_⟩
  .simp[Instr.mapUpdate,q,A,J,Instr.findKey,s,E,setObj,Sem.run,D]
  .exact⟨R.ext.os,R.ext.tape,R.ext.output,by simpa using R.ext.size,λi B Y=>by
    show(w.heap.setIfInBounds l.b _)[i]?=_;rw[zB2 (λe=>by subst e;rcases a with a|a;exact absurd a V7;exact Y a)];exact R.ext.block i B Y⟩
  .intro i B;show(w.heap.setIfInBounds l.b _)[i]?=_;rw[zB2 (Ne.symm B)]
  .have y:l.b<w.heap.size:=(zAh.1 D).1;refine⟨z.push {key:=U,val:=X,born:=c},c+1,by show(w.heap.setIfInBounds l.b _)[l.b]?=_;rw[zBc y],by simp[p],λi F f=>?_⟩
   by_cases B:i<Q.length
   .rw[zAc B]at f;have⟨O,G,I⟩:=n i F f;exact⟨O,by rw[Array.getElem?_push,Q0];exact G,I⟩
   .rw[zAb V7]at f;have:i=Q.length:=by
     have:=bH f;simp at this;omega
    subst this;simp at f;subst f;exact⟨⟨U,X,c⟩,by rw[Array.getElem?_push,Q3],N,hx⟩
  .have y:l.b<w.heap.size:=(zAh.1 D).1;show(w.heap.setIfInBounds l.b _)[l.b]?=_;rw[zBc y]
 .cases h
end
section
variable {P:Program} {tb:TB} {ρ:fE} {gs:Cf} {w0:fO gs} {w:V2} {H H':GH} {n:Nat} {σ:GF} {a:Act} {R:Type}
def kW (P:Program) {gs:Cf} (w0:fO gs) (ρ:fE) (f:Nat) (vs:V6 V0) (w:V2) (g:GV) (H':GH):Prop:=
 (∃v w' b,(callFunc f vs.toArray).run P w = .ok (.value v) w'/\ρ.le b/\g_ w0 b H' w'/\Rl b g v)\/
 ((callFunc f vs.toArray).run P w = .ok (.enter f vs.toArray) w/\Calls P f vs.toArray w λe w'=>∃v b,e = .returned v/\ρ.le b/\g_ w0 b H' w'/\Rl b g v)
def uP (P:Program) {gs:Cf} (w0:fO gs) (d:CH):Prop:=∀f b H g H',d f b H=some (g,H')->∀ρ w c,g_ w0 ρ H w->pX ρ b c->kW P w0 ρ f c w g H'
def Et (P:Program) {gs:Cf} (w0:fO gs) (ρ:fE) (σ:GF) (a:Act) (w:V2) (o:V5) (g:GV) (H H':GH):Prop:=
 (fS o.op=false/\pW o.op=false/\Ri o.op=false/\H'=H/\∃v,Rl ρ g v/\∀w,(execOp a.eval o).run P w = .ok (.value v) w)\/
 (fS o.op=false/\pW o.op=true/\H'=H/\∃v h l,ldH σ o.op=some h/\ρ h=some l/\(∃x,H.get h=some x)/\Rl ρ g v/\∀d,d.heap[l.b]?=w.heap[l.b]? -> (execOp a.eval o).run P d = .ok (.value v) d)\/
 (fS o.op=false/\Ri o.op=true/\H'=H/\∃v,Rl ρ g v/\(execOp a.eval o).run P w = .ok (.value v) w)\/
 (fS o.op=true/\∀K:Act->V2->Prop,(∀c d v,ρ.le c->g_ w0 c H' d->Rl c g v->K (a.put o.dst v) d)->o.wp P a w K UY)
theorem Et.comp {o:V5} {g:GV} {s:Sem V0} (e:fS o.op=false) (h:EP P ρ s g) (d:∀w v,s.run P w = .ok v w->(execOp a.eval o).run P w = .ok (.value v) w) (b:pW o.op=false:=by rfl) (c:Ri o.op=false:=by rfl):Et P w0 ρ σ a w o g H H:=
 let ⟨v,hv,hr⟩:=h;.inl ⟨e,b,c,rfl,v,hv,λw=>d w v (hr w)⟩
theorem Et.read {o:V5} {g:GV} {s:Sem V0} (c:fS o.op=false) (d:Ri o.op=true) (h:∃x,Rl ρ g x/\s.run P w = .ok x w) (b:∀v,s.run P w = .ok v w->(execOp a.eval o).run P w = .ok (.value v) w):Et P w0 ρ σ a w o g H H:=
 let ⟨v,hv,hr'⟩:=h;.inr (.inr (.inl ⟨c,d,rfl,v,hv,b v hr'⟩))
theorem Et.does {o:V5} {g:GV} {s:Sem V0} (j:fS o.op=true) (h:Qv P w0 ρ s w g H') (i:∀v b,s.run P w = .ok v b->(execOp a.eval o).run P w = .ok (.value v) b):Et P w0 ρ σ a w o g H H':=by
 have⟨v,b,d,k,c,e,l⟩:=h;refine .inr (.inr (.inr ⟨j,λK f=>?_⟩));simp only[Oper.wp,i v b k,Oper.upon];exact f d b v c e l
theorem Et.act {o:V5} {g:GV} {s:Sem Unit} (j:fS o.op=true) (h:g = .un/\∃c b,s.run P w = .ok () c/\ρ.le b/\g_ w0 b H' c) (i:∀c,s.run P w = .ok () c->(execOp a.eval o).run P w = .ok .skip c):Et P w0 ρ σ a w o g H H':=by
 obtain⟨rfl,c,b,k,d,e⟩:=h;refine .inr (.inr (.inr ⟨j,λK f=>?_⟩));simp only[Oper.wp,i c k,Oper.upon];exact f b c undef d e .un
theorem MC (F:mE ρ n σ a) {o:V1 V3} {g:V1 GV} (h:Kz σ o=some g):RlO ρ g (o.map a.eval):=by
 cases o with
 |none=>cases h;exact .inl ⟨rfl,rfl⟩
 |some x=>
  have⟨v,b,h⟩:=aE.1 (show ob (lH σ x) _=some g from h);cases h;exact .inr ⟨v,_,rfl,rfl,cV F b⟩
theorem HN {c:Type} {b:Array c} {x y:c} (h:b.toList=[x,y]):b = #[x,y]:=by
 cases b;simp at h;rw[h]
theorem MM {c:Type} {b:Array c} {x:c} (h:b.toList=[x]):b = #[x]:=by
 cases b;simp at h;rw[h]
theorem Fi {f:V3->KT R} {k:GV->GH->V1 R} {r:R}:∀{b:V6 V3},NP b f σ H k=some r->∃x,b=[x]/\f x σ H k=some r
 | [],h=>by cases h
 | [x],h=>⟨x,rfl,h⟩
 |_::_::_,h=>by cases h
theorem BB {f:V3->V3->KT R} {k:GV->GH->V1 R} {r:R}:∀{b:V6 V3},GD b f σ H k=some r->∃x y,b=[x,y]/\f x y σ H k=some r
 | [],h=>by cases h
 | [_],h=>by cases h
 | [x,y],h=>⟨x,y,rfl,h⟩
 |_::_::_::_,h=>by cases h
theorem nP {o:OR} {k:GV->GH->V1 R} {r:R} (h:fN o k=some r):∃g H',o=some (g,H')/\k g H'=some r:=by
 have⟨⟨g,H'⟩,b,c⟩:=aE.1 (show ob o _=some r from h);exact⟨g,H',b,c⟩
theorem afk (I:gQ P tb) (F:mE ρ n σ a) (L:g_ w0 ρ H w) {b:Builtin} {C:Array V3} {c:Array V9} {k:GV->GH->V1 R} {r:R} {d:V1 Tmp} {i:V9} {K:String} {J:Array Edge} {M:V1 (Nat×V4)} (e:c.size=C.size)
  (h:VE tb C c b σ H k=some r):∃g H',k g H'=some r/\Et P w0 ρ σ a w ⟨d,.call ⟨.builtin b,C,c⟩,i,K,J,M⟩ g H H':=by
 cases b with
 | len =>
  have⟨x,z,h⟩:=Fi (show NP C.toList (Zg tb c.toList) σ H k=some r from h);have⟨T,f,h⟩:=aE.1 (show ob (Kh c.toList 0) _=some r from h);have⟨v,s,h⟩:=aE.1 h;have⟨g,o,p⟩:=aE.1 h;have m:=MM z;subst m;have j:c = #[T]:=by
   rw[xV]at f;have⟨l⟩:=c
   match l,e with
   | [t],_=>simp at f;subst f;rfl
  subst j;exact⟨g,H,p,.comp Z (Yj I (ty:=i) (cV F s) o) (λw v q=>by simp[execOp,resolve,invoke,builtin,q])⟩
 | max =>
  have⟨x,y,z,h⟩:=BB (show GD C.toList (λx y=>k2 x y Wu) σ H k=some r from h);have⟨v,s,h⟩:=aE.1 (show ob (lH σ x) _=some r from h);have⟨u,E,h⟩:=aE.1 h;have⟨g,o,p⟩:=aE.1 h;have m:=HN z;subst m;obtain⟨A,B,j⟩:∃A B,c = #[A,B]:=by
   have⟨l⟩:=c
   match l,e with
   | [t,t'],_=>exact⟨t,t',rfl⟩
  subst j;exact⟨g,H,p,.comp Z (Yk (t1:=A) (t2:=B) (ty:=i) (cV F s) (cV F E) o) (λw v q=>by simp[execOp,resolve,invoke,builtin,q])⟩
 | min =>
  have⟨x,y,z,h⟩:=BB (show GD C.toList (λx y=>k2 x y adu) σ H k=some r from h);have⟨v,s,h⟩:=aE.1 (show ob (lH σ x) _=some r from h);have⟨u,E,h⟩:=aE.1 h;have⟨g,o,p⟩:=aE.1 h;have m:=HN z;subst m;obtain⟨A,B,j⟩:∃A B,c = #[A,B]:=by
   have⟨l⟩:=c
   match l,e with
   | [t,t'],_=>exact⟨t,t',rfl⟩
  subst j;exact⟨g,H,p,.comp Z (Yl (t1:=A) (t2:=B) (ty:=i) (cV F s) (cV F E) o) (λw v q=>by simp[execOp,resolve,invoke,builtin,q])⟩
 | append =>
  have⟨x,y,z,h⟩:=BB (show GD C.toList (abG tb c.toList) σ H k=some r from h);have⟨T,f,h⟩:=aE.1 (show ob (Kh c.toList 0) _=some r from h);have⟨G,D,h⟩:=aE.1 h;have⟨v,s,h⟩:=aE.1 h;have⟨u,E,h⟩:=aE.1 h;have⟨g,H',o,p⟩:=nP h;have m:=HN z;subst m;have j:c = #[T,G]:=by
   rw[xV]at f D;have⟨l⟩:=c
   match l,e with
   | [t,t'],_=>simp at f D;subst f D;rfl
  subst j;exact⟨g,H',p,.does Z (afU I (ty:=i) L (cV F s) (cV F E) o) (λv N q=>by simp[execOp,resolve,invoke,builtin,q])⟩
 | copy =>
  have⟨x,y,z,h⟩:=BB (show GD C.toList (Tv tb c.toList) σ H k=some r from h);have⟨T,f,h⟩:=aE.1 (show ob (Kh c.toList 0) _=some r from h);have⟨v,s,h⟩:=aE.1 h;have⟨u,E,h⟩:=aE.1 h;have⟨g,H',o,p⟩:=nP h;have m:=HN z;subst m;obtain⟨G,j⟩:∃G,c = #[T,G]:=by
   rw[xV]at f;have⟨l⟩:=c
   match l,e with
   | [t,t'],_=>simp at f;subst f;exact⟨t',rfl⟩
  subst j;exact⟨g,H',p,.does Z (adq I (T':=G) (ty:=i) L (cV F s) (cV F E) o) (λv N q=>by simp[execOp,resolve,invoke,builtin,q])⟩
 | cap =>
  have⟨x,z,h⟩:=Fi (show NP C.toList (Zf tb c.toList) σ H k=some r from h);have⟨T,f,h⟩:=aE.1 (show ob (Kh c.toList 0) _=some r from h);have⟨v,s,h⟩:=aE.1 h;have⟨g,o,p⟩:=aE.1 h;have m:=MM z;subst m;have j:c = #[T]:=by
   rw[xV]at f;have⟨l⟩:=c
   match l,e with
   | [t],_=>simp at f;subst f;rfl
  subst j;exact⟨g,H,p,.comp Z (Yh I (ty:=i) (cV F s) o) (λw v q=>by simp[execOp,resolve,invoke,builtin,q])⟩
 |_=>cases h
theorem Ze {N:CH} (D:uP P w0 N) (F:mE ρ n σ a) (S:g_ w0 ρ H w) {f:V3} {q:Array V3} {O:Array V9} {k:GV->GH->V1 R} {r:R} {d:V1 Tmp} {Q:V9} {x:String} {s:Array Edge} {J:V1 (Nat×V4)}
  (h:abH N q f σ H k=some r):∃g H',k g H'=some r/\Et P w0 ρ σ a w ⟨d,.call ⟨.value f,q,O⟩,Q,x,s,J⟩ g H H':=by
 have⟨v,X,h⟩:=aE.1 (show ob (lH σ f) _=some r from h);have⟨p,W,h⟩:=aE.1 h;have⟨Y,E,h⟩:=aE.1 h;have⟨g,H',V,h⟩:=nP h;refine⟨g,H',h,.inr (.inr (.inr ⟨rfl,λK L=>?_⟩))⟩
 have M:=cV F X;rw[aaw W]at M;have⟨A,z,U,C,B⟩:=M.fn_inv;have u:=Hv F E;have t:=(C.append u).append B;have c:∀G l,(callFunc p.1 (A++q.toList.map a.eval++z).toArray).run P w = .ok G l->(execOp a.eval ⟨d,.call ⟨.value f,q,O⟩,Q,x,s,J⟩).run P w = .ok G l:=λG l o=>by
  have T:(A++q.toList.map a.eval++z).toArray=A.toArray++(q.map a.eval++z.toArray):=by
   apply Array.toList_inj.1;simp
  rw[T]at o;simp[execOp,resolve,U,Deferred.ofValue,invoke,o]
 rcases D _ _ _ _ _ V ρ w _ S t with⟨I,l,m,o,i,y,j⟩|⟨o,b⟩
 .simp only[Oper.wp,c _ _ o,Oper.upon];exact L m l I i y j
 .simp only[Oper.wp,c _ _ o,Oper.upon];refine b.mono ?_;rintro e l ⟨I,m,rfl,i,y,j⟩;exact L m l I i y j
def NY:Op->V4
 | .call c=>Nat.beq c.argTypes.size c.args.size
 |_=>true
theorem Vx (B:gQ P tb) {ih:CH} (V:uP P w0 ih) (F:mE ρ n σ a) (E:g_ w0 ρ H w) {o:V5} {k:GV->GH->V1 R} {r:R} (J:NY o.op=true\/∃c f,o.op = .call c/\c.callee = .value f) (h:Sg tb ih o.op σ H k=some r):
  ∃g H',k g H'=some r/\Et P w0 ρ σ a w o g H H':=by
 have⟨d,K,ty,ad,ac,gd⟩:=o;cases K with
 |move x=>
  have⟨v,A,h⟩:=aE.1 (show ob (lH σ x) _=some r from h);exact⟨v,H,h,.inl ⟨rfl,rfl,rfl,rfl,_,cV F A,λw=>by simp[execOp]⟩⟩
 |assign x=>
  have⟨v,A,h⟩:=aE.1 (show ob (lH σ x) _=some r from h);exact⟨v,H,h,.inl ⟨rfl,rfl,rfl,rfl,_,cV F A,λw=>by simp[execOp]⟩⟩
 |pick c x y=>
  have⟨v,A,h⟩:=aE.1 (show ob (lH σ c) _=some r from h);have⟨u,C,h⟩:=aE.1 h;have⟨t,X,h⟩:=aE.1 h;have⟨g,s,h⟩:=aE.1 h;have⟨b,hb,s⟩:=aE.1 (show ob v.asB _=some g from s);have O:=cV F A;rw[Ef hb]at O;cases b with
  |true=>cases s;exact⟨_,H,h,.inl ⟨rfl,rfl,rfl,rfl,_,cV F C,λw=>by simp[execOp,O.bool_inv,asBool]⟩⟩
  |false=>cases s;exact⟨_,H,h,.inl ⟨rfl,rfl,rfl,rfl,_,cV F X,λw=>by simp[execOp,O.bool_inv,asBool]⟩⟩
 |alloc T=>
  have⟨g,H',s,h⟩:=nP (show fN (sL tb T H) k=some r from h);exact⟨g,H',h,.does Z (Ll B E s) (λv I j=>by simp[execOp,j])⟩
 |box T x=>
  have⟨v,A,h⟩:=aE.1 (show ob (lH σ x) _=some r from h);have⟨g,H',s,h⟩:=nP h;exact⟨g,H',h,.does Z (afW (T:=T) E (cV F A) s) (λv I j=>by simp[execOp,j])⟩
 | build T ps =>
  have⟨vs,G,h⟩:=aE.1 (show ob (xU σ ps.toList) _=some r from h);have⟨g,s,h⟩:=aE.1 h;exact⟨g,H,h,.comp Z (Qk B (EB F G) s) (λw v j=>by
   have e:(ps.toList.map λp=>(p.1,a.eval p.2)).toArray=ps.map λp=>(p.1,a.eval p.2):=by apply Array.toList_inj.1;simp
   rw[e]at j;simp[execOp,j])⟩
 | buildSlice T m ps =>
  have⟨vs,G,h⟩:=aE.1 (show ob (xU σ ps.toList) _=some r from h);have⟨g,H',s,h⟩:=nP h;exact⟨g,H',h,.does Z (Wq B E (EB F G) s) (λv I j=>by
   have e:(ps.toList.map λp=>(p.1,a.eval p.2)).toArray=ps.map λp=>(p.1,a.eval p.2):=by apply Array.toList_inj.1;simp
   rw[e]at j;simp[execOp,j])⟩
 |load T x=>
  have⟨v,A,h⟩:=aE.1 (show ob (lH σ x) _=some r from h);have⟨g,s,h⟩:=aE.1 h;have⟨x',p,l,Q,W,U,ab,j⟩:=Oz (P:=P) B E (cV F A) s;exact⟨g,H,h,.inr (.inl ⟨rfl,rfl,rfl,x',p.1,l,by show ob (lH σ x) _=_;rw[A,Q];rfl,W,U,ab,λI aa=>by have:=j I aa;simp[execOp,this]⟩)⟩
 |store T x y=>
  have⟨v,A,h⟩:=aE.1 (show ob (lH σ x) _=some r from h);have⟨u,C,h⟩:=aE.1 h;have⟨g,H',s,h⟩:=nP h;exact⟨g,H',h,.act Z (Ln B E (cV F A) (cV F C) s) (λI j=>by simp[execOp,j])⟩
 |nilCheck x=>
  have⟨v,A,h⟩:=aE.1 (show ob (lH σ x) _=some r from h);have⟨g,s,hk⟩:=aE.1 h;obtain⟨rfl,j⟩:=TI (P:=P) (cV F A) s;exact⟨_,H,hk,.inl ⟨rfl,rfl,rfl,rfl,_,cV F A,λw=>j _ x a.eval Z Z w⟩⟩
 | binOp K T x y T' =>
  have⟨v,A,h⟩:=aE.1 (show ob (lH σ x) _=some r from h);have⟨u,C,h⟩:=aE.1 h;have⟨g,s,h⟩:=aE.1 h;exact⟨g,H,h,.comp Z (Yg B x y (cV F A) (cV F C) s) (λw v j=>by
   simp only[execOp];simp at j ⊢;cases hq:Sem.run P (eqGuard K T x y (a.eval x) (a.eval y)) w with
   |ok u w1=>rw[hq]at j;simp at j;simp[j]
   |halt h1 w1=>rw[hq]at j;cases j)⟩
 |unOp K T x=>
  have⟨v,A,h⟩:=aE.1 (show ob (lH σ x) _=some r from h);have⟨g,s,h⟩:=aE.1 h;exact⟨g,H,h,.comp Z (adw (cV F A) s) (λw v j=>by simp[execOp,j])⟩
 |convert S D x=>
  have⟨v,A,h⟩:=aE.1 (show ob (lH σ x) _=some r from h);have⟨g,s,h⟩:=aE.1 h;exact⟨g,H,h,.comp Z (Ux B (cV F A) s) (λw v j=>by simp[execOp,j])⟩
 | makeFunc fn first caps =>
  cases fn with
  |func f=>
   have⟨us,Y,h⟩:=aE.1 (show ob (IL σ first.toList) _=some r from h);have⟨vs,G,h⟩:=aE.1 h;refine⟨_,H,h,.inl ⟨rfl,rfl,rfl,rfl,_,Rl.fn' (Hv F Y) (Hv F G),λw=>?_⟩⟩
   have M:(first.toList.map a.eval).toArray=first.map a.eval:=by apply Array.toList_inj.1;simp
   have N:(caps.toList.map a.eval).toArray=caps.map a.eval:=by apply Array.toList_inj.1;simp
   rw[M,N];simp[execOp,Instr.makeFunc]
  |_=>cases h
 | makeMap T q =>
  cases q with
  |none=>
   have⟨g,H',s,h⟩:=nP (show fN (Kd H) k=some r from h);exact⟨g,H',h,.does Z (Uz (T:=T) E s) (λv I j=>by simp[execOp,j])⟩
  |some x=>cases h
 |makeSlice T x y=>
  have⟨v,A,h⟩:=aE.1 (show ob (lH σ x) _=some r from h);have⟨u,C,h⟩:=aE.1 h;have⟨g,H',s,h⟩:=nP h;exact⟨g,H',h,.does Z (ads B E (cV F A) (cV F C) s) (λv I j=>by simp[execOp,j])⟩
 | slice T x lo hi mx =>
  cases mx with
  |none=>
   have⟨v,A,h⟩:=aE.1 (show ob (lH σ x) _=some r from h);have⟨l,W,h⟩:=aE.1 h;have⟨e,Q,h⟩:=aE.1 h;have⟨g,s,h⟩:=aE.1 h;exact⟨g,H,h,.comp Z (Qn B (.inl ⟨_,_,E⟩) (cV F A) (MC F W) (MC F Q) s) (λw v j=>by simp[execOp,j])⟩
  |some y=>cases h
 |fieldAddr T x f=>
  have⟨v,A,h⟩:=aE.1 (show ob (lH σ x) _=some r from h);have⟨g,s,h⟩:=aE.1 h;exact⟨g,H,h,.comp Z (Ql B (cV F A) s) (λw v j=>by simp[execOp,j])⟩
 |field T x f=>
  have⟨v,A,h⟩:=aE.1 (show ob (lH σ x) _=some r from h);have⟨g,s,h⟩:=aE.1 h;exact⟨g,H,h,.comp Z (UA B (cV F A) s) (λw v j=>by simp[execOp,j])⟩
 |indexAddr T x y=>
  have⟨v,A,h⟩:=aE.1 (show ob (lH σ x) _=some r from h);have⟨u,C,h⟩:=aE.1 h;have⟨g,s,h⟩:=aE.1 h;exact⟨g,H,h,.comp Z (Qm B (cV F A) (cV F C) s) (λw v j=>by simp[execOp,j])⟩
 |index T x y=>
  have⟨v,A,h⟩:=aE.1 (show ob (lH σ x) _=some r from h);have⟨u,C,h⟩:=aE.1 h;have⟨g,s,h⟩:=aE.1 h;exact⟨g,H,h,.comp Z (adn B (cV F A) (cV F C) s) (λw v j=>by simp[execOp,j])⟩
 |lookup T x y ok=>
  have⟨v,A,h⟩:=aE.1 (show ob (lH σ x) _=some r from h);have⟨u,C,h⟩:=aE.1 h;have⟨g,s,h⟩:=aE.1 h;exact⟨g,H,h,.read Z Z (adr B E (cV F A) (cV F C) s) (λv j=>by simp[execOp,j])⟩
 |mapUpdate T x y z=>
  have⟨v,A,h⟩:=aE.1 (show ob (lH σ x) _=some r from h);have⟨u,C,h⟩:=aE.1 h;have⟨t,X,h⟩:=aE.1 h;have⟨g,H',s,h⟩:=nP h;exact⟨g,H',h,.act Z (ZD B E (cV F A) (cV F C) (cV F X) s) (λI j=>by simp[execOp,j])⟩
 |extract x i=>
  have⟨v,A,h⟩:=aE.1 (show ob (lH σ x) _=some r from h);have⟨g,s,h⟩:=aE.1 h;exact⟨g,H,h,.comp Z (Yi (cV F A) s) (λw v j=>by simp[execOp,j])⟩
 | call c =>
  have⟨L,xs,ts⟩:=c;cases L with
  |value f=>exact Ze V F E h
  |invoke x m=>cases h
  |builtin b=>
   refine afk B F E ?_ h;rcases J with J|⟨c,f,M,N⟩
   .exact zA5 J
   .cases M;cases N
 |_=>cases h
end
theorem FI {R:Type}:∀(a:mX) (b:V6 GV) (f:GF->V1 R),lD a b f=ob (lD a b some) f
 | [],[],f=>rfl
 | [],_::_,f=>rfl
 |key::a,[],f=>rfl
 |key::a,v::b,f=>by
  show lD a b (λc=>f ((key,v)::c))=ob (lD a b λc=>some ((key,v)::c)) f;rw[FI a b (λc=>f ((key,v)::c)),FI a b (λc=>some ((key,v)::c))];cases lD a b some<;>rfl
theorem tG {R:Type} {a:mX} {b:V6 GV} {f:GF->V1 R} {r:R} (h:lD a b f=some r):∃c,lD a b some=some c/\f c=some r:=by
 rw[FI]at h;exact aE.1 h
theorem MH {j:fE} {n:Nat} {f:GF} {a:Act} (F:mE j n f a):∀{d:mX} {b:GF},lD d (EI f d) some=some b->mE j n b a
 | [],b,h=>by cases h;exact⟨F.defers,F.size,λt g c=>by cases c⟩
 | key :: d, b, h =>by
  have k:lD d (EI f d) (λb=>some ((key,Option.casesOn (motive:=λ_=>GV) (HT f key) .bad (λv=>v))::b))=some b:=h;have⟨s,l,m⟩:=tG k;cases m;have o:=MH F l;refine⟨F.defers,F.size,λt g c=>?_⟩
  rw[De]at c;by_cases e:t=key
  .subst e;rw[if_pos Z]at c;cases i:HT f t with
   |none=>rw[i]at c;cases c;exact .bad _
   |some v=>rw[i]at c;cases c;exact F.slot t v i
  .rw[if_neg e]at c;exact o.slot t g c
theorem Ru (c:GF):∀b:mX,∃a,lD b (EI c b) some=some a
 | []=>⟨[],rfl⟩
 |key::b=>by
  have⟨a,h⟩:=Ru c b;refine⟨(key,Option.casesOn (motive:=λ_=>GV) (HT c key) .bad (λv=>v))::a,?_⟩
  show lD b (EI c b) (λa=>some ((key,Option.casesOn (motive:=λ_=>GV) (HT c key) .bad (λv=>v))::a))=_;rw[FI,h];rfl
theorem Nf:∀{m i:Nat} {b:V6 GV} {a:GF},lD (List.range' i m) b some=some a->b.length=m
 |0,i,[],a,h=>rfl
 |0,i,_::_,a,h=>by cases h
 |m+1,i,[],a,h=>by cases h
 |m+1,i,u::b,a,h=>by
  have⟨s,c,_⟩:=tG (show lD (List.range' (i+1) m) b (λa=>some ((i,u)::a))=some a from h);simp[Nf c]
theorem QM {o:fE} {n:Nat} {a:Act} (k:a.defers=[]) (l:a.tmps.size=n):∀{m i:Nat} {f:V6 GV} {d:gE} {b:GF},pX o f d->(∀j v,d[j]?=some v->a.tmps[i+j]?=some v)->lD (List.range' i m) f some=some b->mE o n b a
 |0,i,[],d,b,_,_,h=>by cases h;exact⟨k,l,λt g c=>by cases c⟩
 |0,i,_::_,d,b,_,_,h=>by cases h
 |m+1,i,[],d,b,_,_,h=>by cases h
 | m + 1, i, u :: f, d, b, hr, ha, h =>by
  obtain⟨v,d,rfl,q,r⟩:=hr.of_cons;have p:lD (List.range' (i+1) m) f (λb=>some ((i,u)::b))=some b:=h;have⟨s,w,x⟩:=tG p;cases x;have z:=QM k l r (λj v y=>by have:=ha (j+1) v (by simpa using y);rwa[show i+(j+1)=i+1+j by omega]at this) w;refine⟨k,l,λt g c=>?_⟩
  rw[De]at c;by_cases e:t=i
  .subst e;rw[if_pos Z]at c;cases c;have:=ha 0 v Z;simp[Act.eval,show a.tmps[t]?=some v by simpa using this,q]
  .rw[if_neg e]at c;exact z.slot t g c
def KP (n:Nat) (o:V5):V4:=kC o&&(match o.dst with|none=>true|some d=>Nat.blt d n)&&(NY o.op||(match o.op with|.call c=>(match c.callee with|.value _=>true|_=>false)|_=>false))
section
variable {P:Program} {tb:TB} {gs:Cf} {w0:fO gs}
theorem wT {n:Nat} {o:V5} (h:KP n o=true):kC o=true/\(∀d,o.dst=some d->d<n)/\(NY o.op=true\/∃c f,o.op = .call c/\c.callee = .value f):=by
 unfold KP at h;simp only[zA8,zB5]at h;have⟨⟨j,g⟩,a⟩:=h;refine⟨j,λd k=>?_,?_⟩
 .rw[k]at g;simpa [zAy]using g
 .rcases a with a|a
  .exact .inl a
  .right;cases i:o.op with
   |call c=>
    rw[i]at a;cases e:c.callee with
    |value f=>exact⟨c,f,rfl,e⟩
    |invoke x m=>simp only[e]at a;cases a
    |builtin b=>simp only[e]at a;cases a
   |_=>rw[i]at a;cases a
theorem mE.putD {b:fE} {n:Nat} {c:GF} {a:Act} (F:mE b n c a) {d:V1 Nat} (e:∀x,d=some x->x<n) {g:GV} {v:V0} (f:Rl b g v):mE b n (putD d g c) (a.put d v):=by
 cases d with
 |none=>exact⟨F.defers,F.size,F.slot⟩
 |some d=>exact F.put (e d Z) f
theorem aeX {x:CH} (I:gQ P tb) (t:uP P w0 x) {all:V6 V5} {n:Nat} {o:V5} {k:GS->RS} {s:GS} {f:SE} {E:fE} {a:Act} {w:V2} (L:KP n o=true) (F:mE E n s.σ a) (R:g_ w0 E s.H w) (h:Nw tb x all o k s=some f):
  (Region.wanted o (yielded all.toArray a.tmps)=true/\∃g j,k ⟨putD o.dst g s.σ,j⟩=some f/\Et P w0 E s.σ a w o g s.H j)\/
  (Region.wanted o (yielded all.toArray a.tmps)=false/\k ⟨putD o.dst .un s.σ,s.H⟩=some f):=by
 have⟨Q,S,G⟩:=wT L;unfold Nw at h;cases r:o.guard with
 |none=>
  rw[r]at h;have⟨g,j,B,C⟩:=Vx I t F R G (show Sg tb x o.op s.σ s.H (opK o.dst s k)=some f from h);exact .inl ⟨by simp[Region.wanted,r],g,j,B,C⟩
 | some gd =>
  rw[r]at h;have⟨T,u,h⟩:=aE.1 (show ob (Kh all gd.1) _=some f from h);have⟨l,A,h⟩:=aE.1 h;have⟨v,N,h⟩:=aE.1 h;have⟨g,j,m,p⟩:=nP h;have e:=F.slot l v N;rw[xV]at u;have D:yielded all.toArray a.tmps gd.1=(match a.tmps[l]? with|some (.bool b)=>some b|_=>none):=by
   unfold yielded;have:(all.toArray[gd.1]?).bind (·.dst)=some l:=by simp[u,A]
   rw[this];rfl
  cases v with
  | bool q =>
   have d:=e.bool_inv;have M:a.tmps[l]?=some (.bool q):=by
    simp only[Act.eval,Array.getD_eq_getD_getElem?]at d;cases y:a.tmps[l]? with
    |none=>rw[y]at d;cases d
    |some z=>rw[y]at d;simp at d;rw[d]
   rw[M]at D;have c:Bool.casesOn (motive:=λ_=>OR) (Xo q gd.2) (some (.un,s.H)) (Sg tb x o.op s.σ s.H Iq)=some (g,j):=m;rw[IJ]at c;have J:Region.wanted o (yielded all.toArray a.tmps)=(q==gd.2):=by
    simp only[Region.wanted,r];rw[D];cases q<;>cases gd.2<;>rfl
   cases i:(q==gd.2)with
   |true=>
    rw[i]at c;have⟨O,K,B,C⟩:=Vx I t F R G (show Sg tb x o.op s.σ s.H Iq=some (g,j)from c);cases B;exact .inl ⟨by rw[J,i],g,j,p,C⟩
   |false=>
    rw[i]at c;cases c;exact .inr ⟨by rw[J,i],p⟩
  | un =>
   have d:=e.un_inv;cases m;refine .inr ⟨?_,p⟩;simp only[Region.wanted,r];rw[D];have:(match a.tmps[l]? with|some (.bool b)=>some b|_=>none)=(none:V1 V4):=by
    simp only[Act.eval,Array.getD_eq_getD_getElem?]at d;cases y:a.tmps[l]? with
    |none=>rfl
    |some z=>rw[y]at d;simp at d;rw[d];rfl
   rw[this];rfl
  |_=>cases m
theorem Js {y:CH} (z:gQ P tb) (f:uP P w0 y) {all:V6 V5} {n:Nat} {k:GS->RS} {p:SE} {Q:Exit->Act->V2->Prop}:∀(l:V6 V5) (s:GS) (c:fE) (a:Act) (w:V2),l.all (KP n)=true->mE c n s.σ a->g_ w0 c s.H w->Il tb y all k l s=some p->
  (∀t b x q,k t=some p->c.le b->mE b n t.σ x->g_ w0 b t.H q->Q .normal x q)->Sx.wpList P all.toArray Q l a w
 | [],s,c,a,w,_,F,R,h,hk=>hk s c a w h (fE.le_refl _) F R
 | o :: l, s, c, a, w, hl, F, R, h, hk =>by
  simp only[List.all_cons,zA8]at hl;have⟨_,e,_⟩:=wT hl.1;rcases aeX z f hl.1 F R (show Nw tb y all o (Il tb y all k l) s=some p from h)with⟨A,g,C,i,K⟩|⟨A,i⟩
  .refine mY A ?_;have d:∀b q v,c.le b->g_ w0 b C q->Rl b g v->Sx.wpList P all.toArray Q l (a.put o.dst v) q:=λb q v r D m=>
    Js z f l ⟨putD o.dst g s.σ,C⟩ b _ q hl.2 ((F.le r).putD e m) D i (λt u x B E G I J=>hk t u x B E (fE.le_trans r G) I J)
   rcases K with⟨_,_,_,rfl,v,m,j⟩|⟨_,_,rfl,v,_,_,_,_,_,m,j⟩|⟨_,_,rfl,v,m,j⟩|⟨_,j⟩
   .simp only[Oper.wp,j w,Oper.upon];exact d c w v (fE.le_refl _) R m
   .simp only[Oper.wp,j w Z,Oper.upon];exact d c w v (fE.le_refl _) R m
   .simp only[Oper.wp,j,Oper.upon];exact d c w v (fE.le_refl _) R m
   .exact NX (j _ d)
  .unfold Sx.wpList;rw[if_neg (by rw[A];simp)];exact Js z f l ⟨putD o.dst .un s.σ,s.H⟩ c _ w hl.2 (F.putD e .un) R i hk
theorem JG {l:V6 V5} {p:Op->V4} (h:HD l p=true) {i j:Nat} {e f:V5} (c:l[i]?=some e) (d:l[j]?=some f) (k:p e.op=true) (g:fS f.op=true):before (rB l) i j=true\/before (rB l) j i=true:=by
 unfold HD at h;have a:=zA7.1 h i (zAj.2 (bH c));simp only[c,k,Bool.not_true,Bool.false_or]at a;have b:=zA7.1 a j (zAj.2 (bH d));simp only[d,g,Bool.not_true,Bool.false_or,zB5]at b;exact b
theorem UE {c:Type} {H:GH} {h v:Nat} {k:V1 c} {a:c} (x:vck H h v k=some a):H.ver h=some v/\k=some a:=by
 have⟨u,d,x⟩:=aE.1 (show ob (H.ver h) _=some a from x);cases b:Nat.beq u v with
 |false=>rw[b]at x;cases x
 |true=>rw[b]at x;rw[d,zA5 b];exact⟨rfl,x⟩
theorem Gw {m:V6 Nat} {i:Nat} {H:GH} {u:Unit}:∀{e:V6 (Nat×V1 (Nat×Nat))},Np m i H e=some u->∀p∈e,before m i p.1=false->∀a,p.2=some a->H.ver a.1=some a.2
 | [],h=>λp o=>by simp at o
 | p :: e, h =>by
  have c:Bool.casesOn (motive:=λ_=>V1 Unit) (before m i p.1) (pck H p.2 (Np m i H e)) (Np m i H e)=some u:=h;intro q d b a j;cases g:before m i p.1 with
  | false =>
   rw[g]at c;have k:(∀a,p.2=some a->H.ver a.1=some a.2)/\Np m i H e=some u:=by
    cases f:p.2 with
    |none=>rw[f]at c;exact⟨λ_ h=>(by cases h),c⟩
    |some x=>rw[f]at c;have⟨l,n⟩:=UE (show vck H x.1 x.2 _=some u from c);exact⟨λy r=>by cases r;exact l,n⟩
   rcases zAn.1 d with rfl|d
   .exact k.1 a j
   .exact Gw k.2 q d b a j
  |true=>
   rw[g]at c;rcases zAn.1 d with rfl|d
   .rw[g]at b;cases b
   .exact Gw c q d b a j
theorem Gy {m:V6 Nat} {i h v:Nat} {e:V1 (Nat×Nat)}:∀{c:V6 (Nat×GH)},Nq m i h v c=some e->e=some (h,v)/\∀q∈c,before m i q.1=false->q.2.ver h=some v
 | [],x=>by cases x;exact⟨rfl,λp b=>by simp at b⟩
 | q :: c, x =>by
  have d:Bool.casesOn (motive:=λ_=>V1 (V1 (Nat×Nat))) (before m i q.1) (vck q.2 h v (Nq m i h v c)) (Nq m i h v c)=some e:=x;cases j:before m i q.1 with
  |false=>
   rw[j]at d;have⟨k,l⟩:=UE d;have⟨f,g⟩:=Gy l;refine⟨f,λp b a=>?_⟩
   rcases zAn.1 b with rfl|b
   .exact k
   .exact g p b a
  |true=>
   rw[j]at d;have⟨f,g⟩:=Gy d;refine⟨f,λp b a=>?_⟩
   rcases zAn.1 b with rfl|b
   .rw[j]at a;cases a
   .exact g p b a
end
end Go.Gx