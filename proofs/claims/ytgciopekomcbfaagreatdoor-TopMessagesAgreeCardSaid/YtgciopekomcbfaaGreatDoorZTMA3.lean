/- Models and proofs. Conditions: none. -/
import Derived.Test.YtgciopekomcbfaaGreatDoorZTMA2
import Derived.Lib.Strings
import Derived.Lib.AppendZeros
import Derived.Laws.CopyRow
import Derived.Laws.StructEq
set_option linter.unusedVariables false
set_option linter.unusedSimpArgs false
set_option maxHeartbeats 4000000
set_option maxRecDepth 20000
open Go.Proofs.Tryz
namespace Go.Proofs.YtgciopekomcbfaaGreatDoor
open Go.Sx
def oS (a:gO):V1 jF:=
 some (a.1,a.2)
def lM (U:Nat) (a:Q_) (e:Int) (b:Di) (c:Int):V1 jF:=
 ck (0<=((at' a.1.2.1.2 a.2.2.1).length:Int)/\((at' a.1.2.1.2 a.2.2.1).length:Int)<=((24:Nat):Int)/\((at' a.1.2.1.2 a.2.2.1).length:Int)<=(b.2.length:Int)) (Option.bind (Db U ((at' a.2.2.2 e).1) (List.take (Int.toNat ((at' a.1.2.1.2 a.2.2.1).length:Int)) b.2)) λd=>(oS (d,c)))
def tD (U:Nat) (b:Q_) (c:Int) (a:Di):V1 jF:=
 if((at' b.1.2.1.2 b.2.2.1).length:Int)=(0:Int)then(Option.bind (Ey U b.2.2.2 c) λd=>(lM U b c a (d)))else(lM U b c a (a.1))
def lN (U:Nat) (b:Q_) (e:Int) (f:Xu->Int->Int->V1 jF) (a:Int×Int×aW) (c:(Int×Int×aW)->V1 jF):V1 jF:=
 if a.2.1<((at' b.1.2.1.2 b.2.2.1).length:Int)then(Option.bind (f ((((((b.1.1.1,b.1.1.2.1,b.1.1.2.2)),((b.1.2.1.1,b.1.2.1.2)),b.1.2.2.1,b.1.2.2.2)),b.2.1,b.2.2.1,b.2.2.2)) (wI .i64 (e+(1:Int))) a.2.1) λd=>(ck ((0<=a.2.1/\a.2.1<((24:Nat):Int))/\a.2.2.length=24) (c (d.2,(wI .i64 (a.2.1+(1:Int))),(List.set a.2.2 (Int.toNat a.2.1) d.1)))))else(tD U b e (a.1,a.2.2))
def eC (e:Xu->Int->Int->V1 jF) (U:Nat) (a:Q_) (b c:Int):V1 jF:=
 ck (0<=b/\b<(a.2.2.2.length:Int)) (if((at' a.2.2.2 b).1)<=(17:Int)then(Option.bind (nH U ((((((a.1.1.1,a.1.1.2.1,a.1.1.2.2)),((a.1.2.1.1,a.1.2.1.2)),a.1.2.2.1,a.1.2.2.2)),a.2.1,a.2.2.1,a.2.2.2)) ((((at' a.2.2.2 b).1),((at' a.2.2.2 b).2))) c) λm=>(some (m,(wI .i64 (b+(1:Int))))))else(if((at' a.2.2.2 b).1)<=(19:Int)then(Option.bind (e ((((((a.1.1.1,a.1.1.2.1,a.1.1.2.2)),((a.1.2.1.1,a.1.2.1.2)),a.1.2.2.1,a.1.2.2.2)),a.2.1,a.2.2.1,a.2.2.2)) (wI .i64 (b+(1:Int))) c) λl=>(Option.bind (BN U ((at' a.2.2.2 b).1) l.1) λj=>(some (j,l.2))))else(if((at' a.2.2.2 b).1)<=(29:Int)then(ck (0<=a.2.2.1/\a.2.2.1<(a.1.2.1.2.length:Int)) (bN (lN U a b e) U ((0:Int),(0:Int),(List.replicate 24 (0:Int)))))else(if((at' a.2.2.2 b).1)<=(42:Int)then(Option.bind (e ((((((a.1.1.1,a.1.1.2.1,a.1.1.2.2)),((a.1.2.1.1,a.1.2.1.2)),a.1.2.2.1,a.1.2.2.2)),a.2.1,a.2.2.1,a.2.2.2)) (wI .i64 (b+(1:Int))) c) λf=>(Option.bind (e ((((((a.1.1.1,a.1.1.2.1,a.1.1.2.2)),((a.1.2.1.1,a.1.2.1.2)),a.1.2.2.1,a.1.2.2.2)),a.2.1,a.2.2.1,a.2.2.2)) f.2 c) λg=>(Option.bind (AO U ((at' a.2.2.2 b).1) f.1 g.1) λk=>(some (k,g.2)))))else(Option.bind (e ((((((a.1.1.1,a.1.1.2.1,a.1.1.2.2)),((a.1.2.1.1,a.1.2.1.2)),a.1.2.2.1,a.1.2.2.2)),a.2.1,a.2.2.1,a.2.2.2)) (wI .i64 (b+(1:Int))) c) λh=>(Option.bind (e ((((((a.1.1.1,a.1.1.2.1,a.1.1.2.2)),((a.1.2.1.1,a.1.2.1.2)),a.1.2.2.1,a.1.2.2.2)),a.2.1,a.2.2.1,a.2.2.2)) h.2 c) λi=>(Option.bind (e ((((((a.1.1.1,a.1.1.2.1,a.1.1.2.2)),((a.1.2.1.1,a.1.2.1.2)),a.1.2.2.1,a.1.2.2.2)),a.2.1,a.2.2.1,a.2.2.2)) i.2 c) λd=>(if h.1≠(0:Int)then(some (i.1,d.2))else(some (d.1,d.2))))))))))
def cB:Nat->Xu->Int->Int->V1 jF
 |0,_,_,_=>none
 |U+1,p0,p1,p2=>eC (cB U) U p0 p1 p2
theorem CX:aU prog 229:=call229
theorem EG (rc:Xu->Int->Int->Option jF) (U:Nat) (p:∀{a:Q_} {m O:Int} (b f:Nat) (q s t u:V0) (C:mS) (v:V0) (D:lI) (w:V0) (g:lI) (d:V0) (r:gO),rc a m O=some r->a_ prog 229 #[vP b,vI (m),vI (O)] [bH b [vP f,w,vI (a.2.2.1),d] 247,bH f [vS (a.1.1.1),q,s,t,u,vI (a.1.2.2.1),v] 225,Sl aH q a.1.1.2.1,Sl aD s a.1.1.2.2,Sl aL t a.1.2.1.1,S2 aY u C a.1.2.1.2,S2 aL v D a.1.2.2.2,S2 aL w g a.2.1,Sl aY d a.2.2.2] (λx:Unit=>Value.tuple #[vI (r.1),vI (r.2)]) (λx l=>l) (λ_ l=>l)) {a:Q_} {m O:Int} (b f:Nat) (q s t u:V0) (C:mS) (v:V0) (D:lI) (w:V0) (g:lI) (d:V0) (r:gO) (h:eC rc U a m O=some r):
  a_ prog 229 #[vP b,vI (m),vI (O)] [bH b [vP f,w,vI (a.2.2.1),d] 247,bH f [vS (a.1.1.1),q,s,t,u,vI (a.1.2.2.1),v] 225,Sl aH q a.1.1.2.1,Sl aD s a.1.1.2.2,Sl aL t a.1.2.1.1,S2 aY u C a.1.2.1.2,S2 aL v D a.1.2.2.2,S2 aL w g a.2.1,Sl aY d a.2.2.2] (λx:Unit=>Value.tuple #[vI (r.1),vI (r.2)]) (λx l=>l) (λ_ l=>l):=by
 let P:=(List.replicate 24 (0:Int))
 let G:=vI ((at' a.2.2.2 m).1);let E:=((at' a.1.2.1.2 a.2.2.1).length:Int)
 refine a_.of func229 Z ntmps229 Z λc=>?_;refine aP<|aC Z<|aC Z<|aM<|aP<|aA Z<|aB (bL Z) Z<|bT Z<|aB (eQ Z (dH Z) Z Z Z) Z<|aA Z<|dV h λj1 h=>aB (bR Z Z (WY Z) Z Z j1) Z<|aB (gT (cs:=[G,vI ((at' a.2.2.2 m).2)]) Z (WY Z) bX Z Z Z Z j1) Z<|aI (aN.alloc (cs:=Uj) Z Z) Z λb2=>bQ 0 (vs:=[vI ((at' a.2.2.2 m).1),vI ((at' a.2.2.2 m).2)]) Z Z Z Z Z Z<|aM<|aK<|aS<|aP<|bT Z<|dO 0 Z<|aB (EM Z Z) Z<|aC Z<|aM ?_;refine eI h Z (λh=>?_) λh=>?_
 .refine aP<|aA Z<|dL 0 Z<|aA Z<|fP h λr4 w5 h=>aI (zBk aeq (GX U b f q s t u C v D w g d r4 w5) Z (jS [0,1,2,3,4,5,6,7,8] Z)) Z λx6=>aA Z<|cU Z<|aC Z<|aC Z<|aM<|aT<|bW<|aJ ?_;cases h;exact kU () Z Z (RV.tmp Z) (RV.tmp Z) .nil aF.nil
 refine aP<|bT Z<|dO 0 Z<|aB (EM Z Z) Z<|aC Z<|aM ?_;refine eI h Z (λh=>?_) λh=>?_
 .refine aP<|aA Z<|aA Z<|cU Z<|aA Z<|fP h λr8 w9 h=>aI (zBk CX (p b f q s t u C v D w g d r8 w9) Z (jS [0,1,2,3,4,5,6,7,8] Z)) Z λam=>aA Z<|kF Z<|kF Z<|aC Z<|aC Z<|aM<|aP<|bT Z<|dO 0 Z<|aA Z<|fP h λS ab h=>aI (zBk aer (QN U S ab) Z .nil) Z λan=>aA Z<|aC Z<|aC Z<|aM<|aT<|bW<|aJ ?_;cases h;exact kU () Z Z (RV.tmp Z) (RV.tmp Z) .nil aF.nil
 refine aP<|bT Z<|dO 0 Z<|aB (EM Z Z) Z<|aC Z<|aM ?_;refine eI h Z (λh=>?_) λh=>?_
 .refine aP<|aA Z<|bT Z<|dO 0 Z<|aA Z<|vY (A:=gO) (B:=Unit) (vs:=[vP b,vI ((at' a.2.2.2 m).1),vI (m)]) (λn=>oS n=some r) (λn I=>Value.tuple #[vI (n.1),vI (n.2)]) (λn I=>[]) (λn I=>[bH b [vP f,w,vI (a.2.2.1),d] 247,bH f [vS (a.1.1.1),q,s,t,u,vI (a.1.2.2.1),v] 225,Sl aH q a.1.1.2.1,Sl aD s a.1.1.2.2,Sl aL t a.1.2.1.1,S2 aY u C a.1.2.1.2,S2 aL v D a.1.2.2.2,S2 aL w g a.2.1,Sl aY d a.2.2.2]) (nY.fn (show aU prog 247 from call247) Z) func247 Z ntmps247 Z Z ?_ ?_
  .refine aP<|aC Z<|aC Z<|aM<|aP ?_;refine aI (aN.alloc (cs:=cellsOf dW P) Z (by kernel_rfl)) Z λo=>?_;refine aM<|aK ?_;refine yP [0,1,3,7,15,31,63,127,0,256,768,1792,4095,8191,16383,32767] 12 mixedOrders ?_;refine bD Z<|jL Z (bL Z)<|cN Z<|bK Z .nil (nD 0 Z) (eQ Z (dH Z) Z Z Z) aO.z<|jL Z (bL Z)<|cN Z<|cN Z<|bK Z .nil (nD 1 Z) (eQ Z (dH Z) Z Z Z) aO.z<|bD Z<|jL Z (bL Z)<|cN Z<|bK Z .nil (nD 0 Z) (eQ Z (dH Z) Z Z Z) aO.z<|bU 12 Z Z<|dV h λF h=>aB (cA Z Z (Jf Z) Z Z F) Z<|aB (cW Z (Jf Z) Z Z F) Z<|aB (iN Z (zBm (Jf Z) F.1 F.2) Z) Z<|aC Z<|aM<|aK<|iA (λk=>tD U a m k=some r) (λk J=>[(0,vP b),(1,G),(2,vI (m)),(7,vI (k.1)),(8,vP o),(9,vI E)]) (λk J=>[bH o (cellsOf dW k.2) 264]) ?_ ?_
   .refine aP<|aA Z<|aA Z<|aM<|aS<|gC (lN U a m rc) (λj L=>[(0,vP b),(1,G),(2,vI (m)),(7,vI (j.1)),(8,vP o),(9,vI E),(26,vI E),(27,vI (j.2.1))]) (λj L=>[bH o (cellsOf dW j.2.2) 264]) ((0:Int),(0:Int),P) () h SF (aX.ix [0] Z Z) ?_;intro al j L h;refine aP<|dD Z<|aM<|aK ?_;refine eI h Z (λh=>?_) λh=>?_
    .refine cQ<|aK<|aS<|aP<|aA Z<|aC Z<|aM<|aR<|aA Z<|aA Z<|aA Z<|cU Z<|aA Z<|fP h λH ae h=>aI (zBk CX (p b f q s t u C v D w g d H ae) Z (jS [0,1,2,3,4,5,6,7,8] Z)) Z λaq=>aA Z<|kF Z<|kF Z<|dV h λN h=>aB (p_ Z Z Z Z Z N.1) Z<|LE 0 (e:=dW) H.1 N Z Z Z Z Z Z Z<|aC Z<|eW<|m_<|aR<|cU Z<|aA Z<|aM ?_;exact BD (H.2,(wI .i64 (j.2.1+(1:Int))),(List.set j.2.2 (Int.toNat j.2.1) H.1)) () h SF Z
    refine fO ?_;exact j_ (j.1,j.2.2) () h SF Z
   intro k J h;refine aK<|iA (λy=>lM U a m k y=some r) (λy K=>[(1,G),(7,vI (y)),(8,vP o),(9,vI E)]) (λy K=>[bH o (cellsOf dW k.2) 264]) ?_ ?_
   .refine aP<|aA Z<|bZ Z<|aM ?_;refine eI h Z (λh=>?_) λh=>?_
    .refine aR<|aA Z<|aB (bL Z) Z<|bT Z<|aB (eQ Z (dH Z) Z Z Z) Z<|aA Z<|fP h λR ad h=>aI (zBk aeo (VH U d R ad) Z (jS [8] Z)) Z λap=>aC Z<|aM ?_;exact j_ (R) () h SF Z
    refine cQ ?_;exact j_ (k.1) () h SF Z
   intro y K h;refine aP<|aA Z<|aA Z<|dV h λM h=>aB (UA Z Z Z Z M) Z<|fP h λQ ac h=>aI (zBk aeu (TD U (Value.slice (some ⟨o,0,none⟩) (Int.toNat E) 24) Q ac) Z (aF.cons (Zz (i:=0) Z fG M (by decide)) .nil)) Z λao=>?_;refine aA Z<|aC Z<|aC Z<|aM<|aT ?_;exact jN (Q,y) () h (.inl Z) (CO.r2 Z (RV.tmp Z) (RV.tmp Z)) Z .nil (aF.refl _ _)
  intro n I h;unfold oS at h;refine kF Z<|kF Z<|aC Z<|aC Z<|aM<|aT<|bW<|aJ ?_;cases h;exact kU () Z Z (RV.tmp Z) (RV.tmp Z) (aX.refl _) aF.nil
 refine aP<|bT Z<|dO 0 Z<|aB (EM Z Z) Z<|aC Z<|aM ?_;refine eI h Z (λh=>?_) λh=>?_
 .refine aP<|aA Z<|aA Z<|cU Z<|aA Z<|fP h λT af h=>aI (zBk CX (p b f q s t u C v D w g d T af) Z (jS [0,1,2,3,4,5,6,7,8] Z)) Z λar=>aA Z<|kF Z<|kF Z<|aC Z<|aC Z<|aM<|aP<|aA Z<|aA Z<|aA Z<|fP h λV ag h=>aI (zBk CX (p b f q s t u C v D w g d V ag) Z (jS [0,1,2,3,4,5,6,7,8] Z)) Z λau=>aA Z<|kF Z<|kF Z<|aC Z<|aC Z<|aM<|aP<|bT Z<|dO 0 Z<|aA Z<|aA Z<|fP h λW ah h=>aI (zBk aes (NG U W ah) Z .nil) Z λav=>aA Z<|aC Z<|aC Z<|aM<|aT<|bW<|aJ ?_;cases h;exact kU () Z Z (RV.tmp Z) (RV.tmp Z) .nil aF.nil
 refine eP<|m_<|aP<|aA Z<|aA Z<|cU Z<|aA Z<|fP h λX ai h=>aI (zBk CX (p b f q s t u C v D w g d X ai) Z (jS [0,1,2,3,4,5,6,7,8] Z)) Z λaw=>aA Z<|kF Z<|kF Z<|aC Z<|aC Z<|aM<|aP<|aA Z<|aA Z<|aA Z<|fP h λY aj h=>aI (zBk CX (p b f q s t u C v D w g d Y aj) Z (jS [0,1,2,3,4,5,6,7,8] Z)) Z λax=>aA Z<|kF Z<|kF Z<|aC Z<|aC Z<|aM<|aP<|aA Z<|aA Z<|aA Z<|fP h λaa ak h=>aI (zBk CX (p b f q s t u C v D w g d aa ak) Z (jS [0,1,2,3,4,5,6,7,8] Z)) Z λay=>aA Z<|kF Z<|kF Z<|aC Z<|aC Z<|aM<|aK<|aP<|aA Z<|oZ Z<|aM ?_;refine eI h Z (λh=>?_) λh=>?_
 .refine aP<|aA Z<|aA Z<|aC Z<|aC Z<|aM<|aT<|aJ ?_;cases h;exact kU () Z Z (RV.tmp Z) (RV.tmp Z) .nil aF.nil
 refine cQ<|aP<|aA Z<|aA Z<|aC Z<|aC Z<|aM<|aT ?_;cases h;exact kU () Z Z (RV.tmp Z) (RV.tmp Z) .nil aF.nil
theorem FN (U:Nat):∀{a:Q_} {p:Int} {q:Int} (b:Nat) (c:Nat) (f:V0) (g:V0) (i:V0) (j:V0) (n:mS) (k:V0) (o:lI) (m:V0) (e:lI) (d:V0) (r:gO),cB U a p q=some r->
  a_ prog 229 #[vP b,vI (p),vI (q)] [bH b [vP c,m,vI (a.2.2.1),d] 247,bH c [vS (a.1.1.1),f,g,i,j,vI (a.1.2.2.1),k] 225,Sl aH f a.1.1.2.1,Sl aD g a.1.1.2.2,Sl aL i a.1.2.1.1,S2 aY j n a.1.2.1.2,S2 aL k o a.1.2.2.2,S2 aL m e a.2.1,Sl aY d a.2.2.2] (λx:Unit=>Value.tuple #[vI (r.1),vI (r.2)]) (λx l=>l) (λ_ l=>l):=by
 induction U with
 |zero=>intros;rename_i h;cases h
 |succ U s=>exact λb c f g i j n k o m e d r h=>EG (cB U) U s b c f g i j n k o m e d r h
end Go.Proofs.YtgciopekomcbfaaGreatDoor
namespace Go.Gx
open Go Go.Sx
noncomputable section
inductive GV where
 |int (k:IntKind) (n:Int)
 |bool (b:Bool)
 |str (n len:Nat)
 |ptr (h off:Nat)
 |pnil
 |sl (h off len sz:Nat)
 |snil
 |map (h:Nat)
 |fn (f:FuncId) (first caps:List GV)
 |fnil
 |inil
 |agg (cs:List GV)
 |tup (vs:List GV)
 |un
 |bad
 |opn (h:Nat)
inductive GO where
 |cells (cs:List GV)
 |mp (es:List (GV×GV))
inductive Tr (α:Type) where
 |lf
 |nd (a:Option α) (l r:Tr α)
def ob {b a:Type} (o:V1 b) (f:b->V1 a):V1 a:=Option.casesOn (motive:=λ_=>V1 a) o none f
def Tr.get {b:Type} (t:Tr b):Nat->V1 b:=Tr.rec (motive:=λ_=>Nat->V1 b) (λ_=>none) (λa _ _ c d n=>Bool.casesOn (motive:=λ_=>V1 b) (Nat.beq n 0) (Bool.casesOn (motive:=λ_=>V1 b) (Nat.beq (Nat.mod n 2) 1) (d (Nat.sub (Nat.div n 2) 1)) (c (Nat.div n 2))) a) t
def Ek {a:Type} (x:V1 a) (f:Nat):Nat->Tr a:=Nat.rec (motive:=λ_=>Nat->Tr a) (λ_=> .lf) (λ_ b n=>bif Nat.beq n 0 then .nd x .lf .lf else bif Nat.beq (Nat.mod n 2) 1 then .nd none (b (Nat.div n 2)) .lf else .nd none .lf (b (Nat.sub (Nat.div n 2) 1))) f
def Tr.set {b:Type} (x:V1 b) (t:Tr b):Nat->Tr b:=Tr.rec (motive:=λ_=>Nat->Tr b) (λn=>Ek x (Nat.succ n) n) (λa l r c d n=>Bool.casesOn (motive:=λ_=>Tr b) (Nat.beq n 0) (Bool.casesOn (motive:=λ_=>Tr b) (Nat.beq (Nat.mod n 2) 1) (.nd a l (d (Nat.sub (Nat.div n 2) 1))) (.nd a (c (Nat.div n 2)) r)) (.nd x l r)) t
def Ig {a R:Type} (x:V1 a) (f:Nat):Nat->(Tr a->R)->R:=Nat.rec (motive:=λ_=>Nat->(Tr a->R)->R) (λ_ k=>k .lf) (λ_ b n k=>Bool.casesOn (motive:=λ_=>R) (Nat.beq n 0) (Bool.casesOn (motive:=λ_=>R) (Nat.beq (Nat.mod n 2) 1) (b (Nat.sub (Nat.div n 2) 1) λt=>k (.nd none .lf t)) (b (Nat.div n 2) λt=>k (.nd none t .lf))) (k (.nd x .lf .lf))) f
def Tr.setK {b R:Type} (x:V1 b) (t:Tr b):Nat->(Tr b->R)->R:=Tr.rec (motive:=λ_=>Nat->(Tr b->R)->R) (λn k=>Ig x (Nat.succ n) n k) (λa l r c d n k=>Bool.casesOn (motive:=λ_=>R) (Nat.beq n 0) (Bool.casesOn (motive:=λ_=>R) (Nat.beq (Nat.mod n 2) 1) (d (Nat.sub (Nat.div n 2) 1) λt=>k (.nd a l t)) (c (Nat.div n 2) λt=>k (.nd a t r))) (k (.nd x l r))) t
def sn {a:Type} (n:Nat) (f:Nat->a):a:=Nat.rec (motive:=λ_=>a) (f 0) (λm _=>f (Nat.succ m)) n
def fi {b:Type} (z:Int) (f:Int->b):b:=Int.casesOn (motive:=λ_=>b) z (λa=>sn a λa=>f (.ofNat a)) (λa=>sn a λa=>f (.negSucc a))
def fb (b:V4):V1 GV:=Bool.casesOn (motive:=λ_=>V1 GV) b (some (.bool false)) (some (.bool true))
structure GH where
 n:Nat
 t:Tr (Nat×GO)
def GH.get (H:GH) (h:Nat):V1 GO:=ob (H.t.get h) λp=>some p.2
def GH.ver (H:GH) (h:Nat):V1 Nat:=ob (H.t.get h) λp=>some p.1
def GH.set (H:GH) (h:Nat) (o:GO):GH:=⟨Nat.succ H.n,H.t.set (some (H.n,o)) h⟩
def GH.del (H:GH) (h:Nat):GH:=⟨H.n,H.t.set none h⟩
def GH.newK {a:Type} (H:GH) (o:GO) (f:Nat->GH->a):a:=sn H.n λn=>H.t.setK (some (n,o)) n λt=>sn (Nat.succ n) λm=>f n ⟨m,t⟩
def GH.setK {a:Type} (H:GH) (h:Nat) (o:GO) (f:GH->a):a:=sn H.n λn=>H.t.setK (some (n,o)) h λt=>sn (Nat.succ n) λm=>f ⟨m,t⟩
def GH.delK {a:Type} (H:GH) (h:Nat) (f:GH->a):a:=H.t.setK none h λt=>f ⟨H.n,t⟩
def agE (o:GO):V1 (V6 GV):=GO.casesOn (motive:=λ_=>V1 (V6 GV)) o (λa=>some a) (λ_=>none)
def GO.asM (o:GO):V1 (V6 (GV×GV)):=GO.casesOn (motive:=λ_=>V1 (V6 (GV×GV))) o (λ_=>none) (λa=>some a)
def GH.cells (H:GH) (h:Nat):V1 (V6 GV):=ob (H.get h) agE
abbrev GF:=V6 (Nat×GV)
def GQ (σ:GF) (t:Nat):V1 GV:=List.rec (motive:=λ_=>V1 GV) none (λp _ a=>Bool.casesOn (motive:=λ_=>V1 GV) (Nat.beq t p.1) a (some p.2)) σ
def ltI (a b:Int):V4:=Int.casesOn (motive:=λ_=>V4) a (λa=>Int.casesOn (motive:=λ_=>V4) b (λb=>Nat.blt a b) (λ_=>false)) (λa=>Int.casesOn (motive:=λ_=>V4) b (λ_=>true) (λb=>Nat.blt b a))
def eqI (a b:Int):V4:=Int.casesOn (motive:=λ_=>V4) a (λa=>Int.casesOn (motive:=λ_=>V4) b (λb=>Nat.beq a b) (λ_=>false)) (λa=>Int.casesOn (motive:=λ_=>V4) b (λ_=>false) (λb=>Nat.beq a b))
def asN (a:Int):V1 Nat:=Int.casesOn (motive:=λ_=>V1 Nat) a (λa=>some a) (λ_=>none)
def Uf (a b:Nat×Nat):V4:=bif Nat.beq a.2 b.2 then Nat.beq a.1 b.1 else false
def WL (a b:V4):V4:=Bool.casesOn (motive:=λ_=>V4) a (Bool.casesOn (motive:=λ_=>V4) b true false) b
def Jg {a:Type} (l:V6 a):Nat->V1 a:=List.rec (motive:=λ_=>Nat->V1 a) (λ_=>none) (λx _ b n=>Nat.casesOn (motive:=λ_=>V1 a) n (some x) b) l
def afi {a:Type} (v:a) (l:V6 a):Nat->V1 (V6 a):=List.rec (motive:=λ_=>Nat->V1 (V6 a)) (λ_=>none) (λx r b n=>Nat.casesOn (motive:=λ_=>V1 (V6 a)) n (some (v::r)) (λn=>ob (b n) λc=>some (x::c))) l
def Iu (e:V6 GV):Nat->V6 GV->V1 (V6 GV):=List.rec (motive:=λ_=>Nat->V6 GV->V1 (V6 GV)) (λ_ a=>some a) (λv _ c o a=>ob (afi v a o) λb=>sn (Nat.succ o) λd=>c d b) e
def tk {a:Type} (l:V6 a):Nat->V1 (V6 a):=List.rec (motive:=λ_=>Nat->V1 (V6 a)) (λn=>Nat.casesOn (motive:=λ_=>V1 (V6 a)) n (some []) (λ_=>none)) (λx _ b n=>Nat.casesOn (motive:=λ_=>V1 (V6 a)) n (some []) (λn=>ob (b n) λr=>some (x::r))) l
def dp {a:Type} (l:V6 a):Nat->V1 (V6 a):=List.rec (motive:=λ_=>Nat->V1 (V6 a)) (λn=>Nat.casesOn (motive:=λ_=>V1 (V6 a)) n (some []) (λ_=>none)) (λx r b n=>Nat.casesOn (motive:=λ_=>V1 (V6 a)) n (some (x::r)) b) l
def slc {a:Type} (l:V6 a) (o n:Nat):V1 (V6 a):=ob (dp l o) λr=>tk r n
def mR (l:V6 UInt8):Nat:=List.rec (motive:=λ_=>Nat) 0 (λb _ a=>Nat.add b.toNat (Nat.mul 256 a)) l
def bS (s:ByteArray):V6 UInt8:=s.data.toList
def GV.asI (v:GV):V1 (IntKind×Int):=GV.casesOn (motive_1:=λ_=>V1 (IntKind×Int)) v (λa b=>some (a,b)) (λ_=>none) (λ_ _=>none) (λ_ _=>none) none (λ_ _ _ _=>none) none (λ_=>none) (λ_ _ _=>none) none none (λ_=>none) (λ_=>none) none none (λ_=>none)
def GV.asB (v:GV):V1 V4:=GV.casesOn (motive_1:=λ_=>V1 V4) v (λ_ _=>none) (λa=>some a) (λ_ _=>none) (λ_ _=>none) none (λ_ _ _ _=>none) none (λ_=>none) (λ_ _ _=>none) none none (λ_=>none) (λ_=>none) none none (λ_=>none)
def GV.asP (v:GV):V1 (Nat×Nat):=GV.casesOn (motive_1:=λ_=>V1 (Nat×Nat)) v (λ_ _=>none) (λ_=>none) (λ_ _=>none) (λa b=>some (a,b)) none (λ_ _ _ _=>none) none (λ_=>none) (λ_ _ _=>none) none none (λ_=>none) (λ_=>none) none none (λ_=>none)
def GV.asS (v:GV):V1 (Nat×Nat×Nat×Nat):=GV.casesOn (motive_1:=λ_=>V1 (Nat×Nat×Nat×Nat)) v (λ_ _=>none) (λ_=>none) (λ_ _=>none) (λ_ _=>none) none (λa b c d=>some (a,b,c,d)) none (λ_=>none) (λ_ _ _=>none) none none (λ_=>none) (λ_=>none) none none (λ_=>none)
def GV.asF (v:GV):V1 (Nat×V6 GV×V6 GV):=GV.casesOn (motive_1:=λ_=>V1 (Nat×V6 GV×V6 GV)) v (λ_ _=>none) (λ_=>none) (λ_ _=>none) (λ_ _=>none) none (λ_ _ _ _=>none) none (λ_=>none) (λa b c=>some (a,b,c)) none none (λ_=>none) (λ_=>none) none none (λ_=>none)
def GV.asT (v:GV):V1 (V6 GV):=GV.casesOn (motive_1:=λ_=>V1 (V6 GV)) v (λ_ _=>none) (λ_=>none) (λ_ _=>none) (λ_ _=>none) none (λ_ _ _ _=>none) none (λ_=>none) (λ_ _ _=>none) none none (λ_=>none) (λa=>some a) none none (λ_=>none)
def GV.asStr (v:GV):V1 (Nat×Nat):=GV.casesOn (motive_1:=λ_=>V1 (Nat×Nat)) v (λ_ _=>none) (λ_=>none) (λa b=>some (a,b)) (λ_ _=>none) none (λ_ _ _ _=>none) none (λ_=>none) (λ_ _ _=>none) none none (λ_=>none) (λ_=>none) none none (λ_=>none)
def GV.asM (v:GV):V1 (Nat):=GV.casesOn (motive_1:=λ_=>V1 (Nat)) v (λ_ _=>none) (λ_=>none) (λ_ _=>none) (λ_ _=>none) none (λ_ _ _ _=>none) none (λa=>some a) (λ_ _ _=>none) none none (λ_=>none) (λ_=>none) none none (λ_=>none)
def GV.asA (v:GV):V1 (V6 GV):=GV.casesOn (motive_1:=λ_=>V1 (V6 GV)) v (λ_ _=>none) (λ_=>none) (λ_ _=>none) (λ_ _=>none) none (λ_ _ _ _=>none) none (λ_=>none) (λ_ _ _=>none) none none (λa=>some a) (λ_=>none) none none (λ_=>none)
def GV.cells (v:GV):V1 (V6 GV):=GV.casesOn (motive_1:=λ_=>V1 (V6 GV)) v (λa b=>some [GV.int a b]) (λa=>some [GV.bool a]) (λa b=>some [GV.str a b]) (λa b=>some [GV.ptr a b]) (some [GV.pnil]) (λa b c d=>some [GV.sl a b c d]) (some [GV.snil]) (λa=>some [GV.map a]) (λa b c=>some [GV.fn a b c]) (some [GV.fnil]) (some [GV.inil]) (λa=>some a) (λa=>none) (none) (none) (λa=>none)
def GV.isSnil (v:GV):V4:=GV.casesOn (motive_1:=λ_=>V4) v (λ_ _=>false) (λ_=>false) (λ_ _=>false) (λ_ _=>false) (false) (λ_ _ _ _=>false) (true) (λ_=>false) (λ_ _ _=>false) (false) (false) (λ_=>false) (λ_=>false) (false) (false) (λ_=>false)
def GV.isInil (v:GV):V4:=GV.casesOn (motive_1:=λ_=>V4) v (λ_ _=>false) (λ_=>false) (λ_ _=>false) (λ_ _=>false) (false) (λ_ _ _ _=>false) (false) (λ_=>false) (λ_ _ _=>false) (false) (true) (λ_=>false) (λ_=>false) (false) (false) (λ_=>false)
def GV.nilck (v:GV):V1 GV:=GV.casesOn (motive_1:=λ_=>V1 GV) v (λa b=>none) (λa=>none) (λa b=>none) (λa b=>some (GV.ptr a b)) (none) (λa b c d=>none) (none) (λa=>none) (λa b c=>some (GV.fn a b c)) (none) (none) (λa=>none) (λa=>none) (none) (none) (λa=>none)
def tdE (d:TypeDesc):V4:=TypeDesc.casesOn (motive:=λ_=>V4) d false false (λ_=>false) (λ_=>false) (λ_=>false) false false (λ_=>false) (λ_=>false) (λ_ _=>false) (λ_ _=>false) (λ_ _=>false) (λ_=>false) (λ_ _ _=>false) (λa=>Nat.beq (Array.size a) 0) (λ_=>false) (λ_ _=>false)
def tdS (d:TypeDesc):V1 V9:=TypeDesc.casesOn (motive:=λ_=>V1 V9) d none none (λ_=>none) (λ_=>none) (λ_=>none) none none (λ_=>none) (λa=>some a) (λ_ _=>none) (λ_ _=>none) (λ_ _=>none) (λ_=>none) (λ_ _ _=>none) (λ_=>none) (λ_=>none) (λ_ _=>none)
def tdA (d:TypeDesc):V1 (Nat×V9):=TypeDesc.casesOn (motive:=λ_=>V1 (Nat×V9)) d none none (λ_=>none) (λ_=>none) (λ_=>none) none none (λ_=>none) (λ_=>none) (λa b=>some (a,b)) (λ_ _=>none) (λ_ _=>none) (λ_=>none) (λ_ _ _=>none) (λ_=>none) (λ_=>none) (λ_ _=>none)
def tdF (d:TypeDesc):V1 (Array Field):=TypeDesc.casesOn (motive:=λ_=>V1 (Array Field)) d none none (λ_=>none) (λ_=>none) (λ_=>none) none none (λ_=>none) (λ_=>none) (λ_ _=>none) (λ_ _=>none) (λ_ _=>none) (λa=>some a) (λ_ _ _=>none) (λ_=>none) (λ_=>none) (λ_ _=>none)
def tdI (d:TypeDesc):V1 IntKind:=TypeDesc.casesOn (motive:=λ_=>V1 IntKind) d none none (λa=>some a) (λ_=>none) (λ_=>none) none none (λ_=>none) (λ_=>none) (λ_ _=>none) (λ_ _=>none) (λ_ _=>none) (λ_=>none) (λ_ _ _=>none) (λ_=>none) (λ_=>none) (λ_ _=>none)
def KA (d:TypeDesc):V4:=TypeDesc.casesOn (motive:=λ_=>V4) d false false (λ_=>false) (λ_=>false) (λ_=>false) (true) false (λ_=>false) (λ_=>false) (λ_ _=>false) (λ_ _=>false) (λ_ _=>false) (λ_=>false) (λ_ _ _=>false) (λ_=>false) (λ_=>false) (λ_ _=>false)
def tdB (d:TypeDesc):V4:=TypeDesc.casesOn (motive:=λ_=>V4) d false (true) (λ_=>false) (λ_=>false) (λ_=>false) false false (λ_=>false) (λ_=>false) (λ_ _=>false) (λ_ _=>false) (λ_ _=>false) (λ_=>false) (λ_ _ _=>false) (λ_=>false) (λ_=>false) (λ_ _=>false)
def tdM (d:TypeDesc):V1 (V9×V9):=TypeDesc.casesOn (motive:=λ_=>V1 (V9×V9)) d none none (λ_=>none) (λ_=>none) (λ_=>none) none none (λ_=>none) (λ_=>none) (λ_ _=>none) (λa b=>some (a,b)) (λ_ _=>none) (λ_=>none) (λ_ _ _=>none) (λ_=>none) (λ_=>none) (λ_ _=>none)
def YG:V0->V1 GV
 | .int k n=>some (.int k n)
 | .bool b=>some (.bool b)
 | .slice none 0 0=>some .snil
 | .pointer none=>some .pnil
 | .nilFunc=>some .fnil
 | .nilIface=>some .inil
 | .string s=>sn (mR (bS s)) λn=>sn (bS s).length λl=>some (.str n l)
 |_=>none
def afm:e_->V1 (V6 GV)
 | []=>some []
 |v::vs=>ob (YG v) λx=>ob (afm vs) λa=>some (x::a)
def ofV:V0->V1 GV
 | .agg cs=>ob (afm cs.toList) λa=>some (.agg a)
 |v=>YG v
def JQ (s:Sem V0):V1 GV:=match s with
 | .pure v=>YG v
 |_=>none
def abg (z:Int):V4:=Int.casesOn (motive:=λ_=>V4) z (λa=>Nat.blt a 9223372036854775808) (λa=>Nat.blt a 9223372036854775808)
def ago (k:IntKind):V4:=IntKind.casesOn (motive:=λ_=>V4) k false false false true false false false false
def gw (k:IntKind) (z:Int):V1 GV:=fi z λz=>bif ago k then(bif abg z then some (.int k z)else none)else fi (k.wrap z) λz=>some (.int k z)
def eqK (a b:IntKind):V4:=decide (a=b)
def ajf (c:BinOp) (k:IntKind) (a b:Int):V1 GV:=BinOp.casesOn (motive:=λ_=>V1 GV) c (gw k (a+b)) (gw k (a - b)) (JQ (binOp .mul 0 (.int k a) (.int k b))) (JQ (binOp .quo 0 (.int k a) (.int k b))) (JQ (binOp .rem 0 (.int k a) (.int k b))) (JQ (binOp .and 0 (.int k a) (.int k b))) (JQ (binOp .or 0 (.int k a) (.int k b))) (JQ (binOp .xor 0 (.int k a) (.int k b))) (JQ (binOp .shl 0 (.int k a) (.int k b))) (JQ (binOp .shr 0 (.int k a) (.int k b))) (JQ (binOp .andNot 0 (.int k a) (.int k b))) (fb (eqI a b)) (fb (!eqI a b)) (fb (ltI a b)) (fb (!ltI b a)) (fb (ltI b a)) (fb (!ltI a b))
def Lo (a:BinOp):V4:=BinOp.casesOn (motive:=λ_=>V4) a false false false false false false false false true true false false false false false false false
def ahw (a b:Nat×Nat):V1 GV:=bif Nat.blt (Nat.add a.2 b.2) 16777216 then sn (Nat.add a.1 (Nat.mul (Nat.pow 2 (Nat.mul 8 a.2)) b.1)) λn=>sn (Nat.add a.2 b.2) λl=>some (.str n l)else none
def al_ (c:BinOp) (a b:Nat×Nat):V1 GV:=BinOp.casesOn (motive:=λ_=>V1 GV) c (ahw a b) none none none none none none none none none none (fb (Uf a b)) (fb (!Uf a b)) none none none none
def alZ (a:BinOp):V1 GV:=BinOp.casesOn (motive:=λ_=>V1 GV) a none none none none none none none none none none none (some (.bool true)) (some (.bool false)) none none none none
def adM (c:BinOp) (a b:V4):V1 GV:=BinOp.casesOn (motive:=λ_=>V1 GV) c none none none none none none none none none none none (fb (WL a b)) (fb (!WL a b)) none none none none
def lF (a:GF) (o:V3):V1 GV:=Operand.casesOn (motive:=λ_=>V1 GV) o (λt=>GQ a t) ofV (λ_=>none) (λf=>some (.fn f [] []))
def HC (c:GF) (l:V6 V3):V1 (V6 GV):=List.rec (motive:=λ_=>V1 (V6 GV)) (some []) (λx _ a=>ob (lF c x) λv=>ob a λb=>some (v::b)) l
def wD (c:GF) (l:V6 (Nat×V3)):V1 (V6 (Nat×GV)):=List.rec (motive:=λ_=>V1 (V6 (Nat×GV))) (some []) (λp _ a=>ob (lF c p.2) λv=>ob a λb=>some ((p.1,v)::b)) l
abbrev TB:=Nat->V1 Ty
def Bu (a:TB) (T:V9):V1 (V9×Ty):=ob (a T) λt=>ob (tdS t.desc) λe=>ob (a e) λb=>some (e,b)
def QK (b:TB) (l:V6 Field):V1 (V6 (Nat×Nat)):=List.rec (motive:=λ_=>V1 (V6 (Nat×Nat))) (some []) (λf _ a=>ob (b f.type) λt=>ob a λr=>some ((f.offset,t.size)::r)) l
def sK (b:TB) (T:V9):V1 (V6 Field):=ob (b T) λt=>ob (tdF t.desc) λa=>some a.toList
def Td (a:TB) (T:V9):V1 (V6 (Nat×Nat)):=ob (sK a T) λb=>QK a b
abbrev OR:=V1 (GV×GH)
def pZ (c a b:GV):V1 GV:=ob c.asB λq=>Bool.casesOn (motive:=λ_=>V1 GV) q (some b) (some a)
def aeO (v:GV):V1 Nat:=bif v.isSnil then some 0 else ob v.asS λs=>some s.2.2.1
def Vj (t:Ty) (a b:GV):V1 V4:=Option.casesOn (motive:=λ_=>V1 V4) a.asI (Option.casesOn (motive:=λ_=>V1 V4) a.asStr (ob a.asB λx=>ob b.asB λy=>bif tdB t.desc then some (WL x y)else none) λx=>ob b.asStr λy=>bif KA t.desc then some (Uf x y)else none) λx=>ob b.asI λy=>ob (tdI t.desc) λ_=>bif eqK x.1 y.1 then some (eqI x.2 y.2)else none
def aeH (g:TB) (cs c:V6 GV) (d:V6 Field):V1 V4:=List.rec (motive:=λ_=>V1 V4) (some true) (λf _ e=>ob (g f.type) λt=>ob (Jg cs f.offset) λa=>ob (Jg c f.offset) λb=>ob (Vj t a b) λq=>bif q then e else some false) d
def Hf (t:Ty):V4:=bif tdB t.desc then true else bif KA t.desc then true else Option.casesOn (motive:=λ_=>V4) (tdI t.desc) false λ_=>true
def zE (c:TB) (a:V6 Field):V4:=List.rec (motive:=λ_=>V4) true (λf _ b=>Option.casesOn (motive:=λ_=>V4) (c f.type) false λt=>bif Hf t then b else false) a
def Oj (T:Nat):V4:=bif Nat.blt 31 T then Nat.blt T 512 else false
def acQ (a:TB) (c:BinOp) (T:V9) (v u:GV):V1 GV:=Option.casesOn (motive:=λ_=>V1 GV) v.asA (bif u.isSnil then ob (aeO v) λ_=>ob (a T) λt=>ob (tdS t.desc) λ_=>adM c v.isSnil true else none) λd=>ob u.asA λe=>bif Oj T then ob (sK a T) λb=>bif zE a b then ob (aeH a d e b) λq=>adM c q true else none else none
def Bn (d:TB) (c:BinOp) (T:V9) (v u:GV):V1 GV:=
 Option.casesOn (motive:=λ_=>V1 GV) v.asI
  (Option.casesOn (motive:=λ_=>V1 GV) v.asStr (Option.casesOn (motive:=λ_=>V1 GV) v.asB (bif v.isInil then(bif u.isInil then ob (d T) λt=>bif tdE t.desc then alZ c else none else none)else acQ d c T v u) λa=>ob u.asB λb=>ob (d T) λt=>bif tdB t.desc then adM c a b else none) λa=>ob u.asStr λb=>al_ c a b)
  λa=>ob u.asI λb=>bif Lo c then JQ (binOp c 0 (.int a.1 a.2) (.int b.1 b.2))else bif eqK a.1 b.1 then ajf c a.1 a.2 b.2 else none
def vUn (c:UnOp) (v:GV):V1 GV:=UnOp.casesOn (motive:=λ_=>V1 GV) c (ob v.asI λa=>gw a.1 (0 - a.2)) none (ob v.asB λb=>fb (!b)) none
def acS (b:TB) (S D:V9) (v:GV):V1 GV:=ob v.asI λa=>ob (b S) λs=>ob (tdI s.desc) λ_=>ob (b D) λt=>ob (tdI t.desc) λk=>fi (k.wrap a.2) λz=>some (.int k z)
def vB (o:V1 GV) (d:Nat):V1 Nat:=Option.casesOn (motive:=λ_=>V1 Nat) o (some d) λv=>ob v.asI λa=>asN a.2
def afR (s:Nat×Nat) (l h:Nat):V1 GV:=bif Nat.ble l h then(bif Nat.ble h s.2 then sn (Nat.mod (Nat.shiftRight s.1 (Nat.mul 8 l)) (Nat.pow 2 (Nat.mul 8 (Nat.sub h l)))) λn=>sn (Nat.sub h l) λk=>some (.str n k)else none)else none
def afP (s:Nat×Nat×Nat×Nat) (a l h:Nat):V1 GV:=bif Nat.beq a s.2.2.2 then(bif Nat.ble l h then(bif Nat.ble h s.2.2.1 then sn (Nat.add s.2.1 (Nat.mul l a)) λo=>sn (Nat.sub h l) λk=>some (.sl s.1 o k a)else none)else none)else none
def afQ (p:Nat×Nat) (n a l h:Nat):V1 GV:=bif Nat.ble l h then(bif Nat.ble h n then(bif Nat.beq a 0 then none else sn (Nat.add p.2 (Nat.mul l a)) λo=>sn (Nat.sub h l) λk=>some (.sl p.1 o k a))else none)else none
def CL (c:TB) (T:V9) (v:GV) (f b:V1 GV) (H:GH):V1 GV:=ob (vB f 0) λl=>ob (c T) λt=>
 Option.casesOn (motive:=λ_=>V1 GV) v.asStr
  (Option.casesOn (motive:=λ_=>V1 GV) v.asS
   (Bool.casesOn (motive:=λ_=>V1 GV) v.isSnil (ob v.asP λp=>ob (tdA t.desc) λe=>ob (c e.2) λa=>ob (vB b e.1) λh=>ob (H.cells p.1) λd=>bif Nat.ble (Nat.add p.2 (Nat.mul e.1 a.size)) d.length then afQ p e.1 a.size l h else none) (ob (tdS t.desc) λe=>ob (c e) λa=>ob (vB b 0) λh=>bif Nat.beq l 0 then(bif Nat.beq h 0 then some .snil else none)else none))
   λs=>ob (tdS t.desc) λe=>ob (c e) λa=>ob (vB b s.2.2.1) λh=>afP s a.size l h)
  λs=>ob (vB b s.2) λh=>bif KA t.desc then afR s l h else none
def Ke (a:TB) (T:V9) (f:Nat) (v:GV):V1 GV:=ob v.asP λp=>ob (sK a T) λb=>ob (Jg b f) λq=>ob (a q.type) λc=>bif Nat.beq c.size 0 then none else sn (Nat.add p.2 q.offset) λo=>some (.ptr p.1 o)
def Dc (t:Ty) (a:V6 GV) (o:Nat):V1 GV:=bif yA t.desc then ob (slc a o t.size) λr=>some (.agg r)else Jg a o
def acY (a:TB) (T:V9) (f:Nat) (v:GV):V1 GV:=ob v.asA λb=>ob (sK a T) λc=>ob (Jg c f) λq=>ob (a q.type) λd=>Dc d b q.offset
def afO (a:TB) (T:V9) (s:Nat×Nat×Nat×Nat) (i:Nat):V1 GV:=ob (Bu a T) λb=>bif Nat.blt i s.2.2.1 then sn (Nat.add s.2.1 (Nat.mul i b.2.size)) λo=>some (.ptr s.1 o)else none
def afN (a:TB) (T:V9) (p:Nat×Nat) (i:Nat):V1 GV:=ob (a T) λt=>ob (tdA t.desc) λe=>ob (a e.2) λb=>bif Nat.blt i e.1 then sn (Nat.add p.2 (Nat.mul i b.size)) λo=>some (.ptr p.1 o)else none
def VP (a:TB) (T:V9) (v w:GV):V1 GV:=ob w.asI λn=>ob (asN n.2) λn=>Option.casesOn (motive:=λ_=>V1 GV) v.asP (ob v.asS λs=>afO a T s n) λp=>afN a T p n
def vAt (a:TB) (T:V9) (v w:GV):V1 GV:=ob v.asStr λs=>ob w.asI λn=>ob (asN n.2) λn=>ob (a T) λt=>bif KA t.desc then(bif Nat.blt n s.2 then sn (Nat.mod (Nat.shiftRight s.1 (Nat.mul 8 n)) 256) λb=>some (.int .u8 (.ofNat b))else none)else none
def aiJ (i:Nat) (v:GV):V1 GV:=ob v.asT λa=>Jg a i
def UV (d:I_) (l:V6 (Nat×GV)):V6 GV->V1 (V6 GV):=List.rec (motive:=λ_=>V6 GV->V1 (V6 GV)) (λa=>some a) (λp _ c a=>ob (Jg d p.1) λq=>ob p.2.cells λb=>bif Nat.beq b.length q.2 then(bif Nat.beq q.2 0 then none else ob (Iu b q.1 a) c)else none) l
def Jy (b:Nat) (l:V6 (Nat×GV)):V6 GV->V1 (V6 GV):=List.rec (motive:=λ_=>V6 GV->V1 (V6 GV)) (λa=>some a) (λp _ d a=>ob p.2.cells λc=>bif Nat.beq c.length b then(bif Nat.beq b 0 then none else ob (Iu c (Nat.mul p.1 b) a) d)else none) l
def DF (a:TB) (T:V9):V1 (V6 GV):=ob (a T) λt=>ob (ofV t.zero) λz=>z.cells
def VN (a:TB) (T:V9) (c:V6 (Nat×GV)):V1 GV:=ob (a T) λt=>ob (DF a T) λd=>Option.casesOn (motive:=λ_=>V1 GV) (tdF t.desc) (ob (tdA t.desc) λe=>ob (a e.2) λg=>ob (Jy g.size c d) λb=>some (.agg b)) λ_=>ob (Td a T) λf=>ob (UV f c d) λb=>some (.agg b)
def TP (a:TB) (T:V9) (v:GV):V1 GV:=ob (a T) λt=>Option.casesOn (motive:=λ_=>V1 GV) v.asStr (ob (tdS t.desc) λ_=>ob (aeO v) λn=>some (.int .i64 (.ofNat n))) λs=>bif KA t.desc then some (.int .i64 (.ofNat s.2))else none
def ako (a:TB) (T:V9) (v:GV):V1 GV:=ob (a T) λt=>ob (tdS t.desc) λ_=>bif v.isSnil then some (.int .i64 (.ofNat 0))else none
def TS (v u:GV):V1 GV:=ob v.asI λa=>ob u.asI λb=>bif eqK a.1 b.1 then(bif ltI a.2 b.2 then some u else some v)else none
def acX (v u:GV):V1 GV:=ob v.asI λa=>ob u.asI λb=>bif eqK a.1 b.1 then(bif ltI b.2 a.2 then some u else some v)else none
def uR (b:TB) (T:V9) (v:GV) (H:GH):V1 GV:=ob v.asP λp=>ob (H.cells p.1) λa=>ob (b T) λt=>Dc t a p.2
def qD (e:TB) (T:V9) (v u:GV) (H:GH):OR:=ob v.asP λp=>ob (H.cells p.1) λd=>ob (e T) λt=>ob u.cells λb=>bif Nat.beq b.length t.size then bif Nat.beq t.size 0 then none else ob (Iu b p.2 d) λa=>H.setK p.1 (.cells a) λc=>some (.un,c)else none
def HR (v:GV) (H:GH):OR:=ob v.cells λb=>H.newK (.cells b) λh a=>some (.ptr h 0,a)
def wH (b:TB) (T:V9) (H:GH):OR:=ob (DF b T) λc=>H.newK (.cells c) λh a=>some (.ptr h 0,a)
def Ui (z:V6 GV) (n:Nat):V6 GV:=Nat.rec (motive:=λ_=>V6 GV) [] (λ_ a=>z++a) n
def fc {R:Type} (a:V6 GV):(V6 GV->R)->R:=List.rec (motive:=λ_=>(V6 GV->R)->R) (λk=>k []) (λx _ b k=>b λr=>k (x::r)) a
def vQ (b:TB) (T:V9) (n:Nat) (f:V6 (Nat×GV)) (H:GH):OR:=ob (Bu b T) λa=>ob (DF b a.1) λc=>bif Nat.beq c.length a.2.size then(bif Nat.blt (Nat.mul n a.2.size) 16777216 then(bif Nat.beq a.2.size 0 then none else ob (Jy a.2.size f (Ui c n)) λe=>H.newK (.cells e) λh d=>some (.sl h 0 n a.2.size,d))else none)else none
def TQ (b:TB) (T:V9) (v u:GV) (H:GH):OR:=ob (Bu b T) λa=>ob (DF b a.1) λd=>ob v.asI λk=>ob u.asI λc=>bif eqI k.2 c.2 then ob (asN k.2) λk=>(bif Nat.beq d.length a.2.size then(bif Nat.blt (Nat.mul k a.2.bytes) 16777216 then(bif Nat.blt k 16777216 then(bif Nat.beq a.2.size 0 then none else fc (Ui d k) λl=>H.newK (.cells l) λh e=>some (.sl h 0 k a.2.size,e))else none)else none)else none)else none
def lap {R:Type} (a b:V6 GV):(V6 GV->R)->R:=List.rec (motive:=λ_=>(V6 GV->R)->R) (λk=>k b) (λx _ c k=>c λr=>k (x::r)) a
def uW (H:GH) (a:Nat) (v:GV):V1 (Nat×V6 GV):=bif v.isSnil then some (0,[])else ob v.asS λs=>bif Nat.beq s.2.2.2 a then ob (H.cells s.1) λcs=>ob (slc cs s.2.1 (Nat.mul s.2.2.1 a)) λr=>some (s.2.2.1,r)else none
def UL (H:GH) (v:GV):GH:=Option.casesOn (motive:=λ_=>GH) v.asS H λs=>H.del s.1
def aaE (H:GH) (v:GV) (f:GH->OR):OR:=Option.casesOn (motive:=λ_=>OR) v.asS (f H) λs=>H.delK s.1 f
def acM (b:TB) (T e:V9) (v u:GV) (H:GH):OR:=bif v.isSnil then ob (Bu b T) λa=>ob (b e) λf=>ob (tdI f.desc) λ_=>ob (DF b a.1) λc=>ob u.asI λk=>ob (asN k.2) λn=>bif Nat.beq c.length a.2.size then(bif Nat.blt (Nat.mul n (Nat.add a.2.bytes 1)) 16777216 then(bif Nat.beq a.2.size 0 then none else(bif Nat.beq n 0 then none else fc (Ui c n) λl=>H.newK (.cells l) λh d=>some (.sl h 0 n a.2.size,d)))else none)else none else none
def VL (b:TB) (T c:V9) (v u:GV) (H:GH):OR:=bif Nat.beq T c then ob (Bu b T) λa=>bif Nat.beq a.2.size 0 then none else ob (DF b a.1) λf=>bif Nat.beq f.length a.2.size then ob (uW H a.2.size v) λp=>ob (uW H a.2.size u) λq=>Nat.casesOn (motive:=λ_=>OR) q.1 (some (v,H)) (λ_=>sn (Nat.add p.1 q.1) λn=>bif Nat.blt (Nat.mul n (Nat.add a.2.bytes 1)) 16777216 then lap p.2 q.2 λl=>aaE H v λe=>e.newK (.cells l) λh d=>some (.sl h 0 n a.2.size,d)else none)else none else acM b T c v u H
def agy (g:TB) (T:V9) (v u:GV) (H:GH):OR:=ob v.asS λs=>ob u.asS λr=>ob (Bu g T) λb=>bif Nat.beq s.2.2.2 b.2.size then(bif Nat.beq r.2.2.2 b.2.size then(bif Nat.beq r.2.2.1 s.2.2.1 then ob (H.cells r.1) λe=>ob (slc e r.2.1 (Nat.mul r.2.2.1 b.2.size)) λc=>ob (H.cells s.1) λf=>List.casesOn (motive:=λ_=>OR) c none (λ_ _=>ob (Iu c s.2.1 f) λa=>H.setK s.1 (.cells a) λd=>some (.int .i64 (.ofNat r.2.2.1),d))else none)else none)else none
def Ja (H:GH):OR:=H.newK (.mp []) λh a=>some (.map h,a)
def WU (a b:GV):V1 V4:=Option.casesOn (motive:=λ_=>V1 V4) a.asI (ob a.asStr λx=>ob b.asStr λy=>some (Uf x y)) λx=>ob b.asI λy=>bif eqK x.1 y.1 then some (eqI x.2 y.2)else none
def SR (k:GV) (a:V6 (GV×GV)):V1 (V1 GV):=List.rec (motive:=λ_=>V1 (V1 GV)) (some none) (λe _ c=>ob (WU k e.1) λb=>bif b then some (some e.2)else c) a
def MD (t:Ty) (k:GV):V4:=Option.casesOn (motive:=λ_=>V4) k.asI (Option.casesOn (motive:=λ_=>V4) k.asStr false (λ_=>KA t.desc)) (λx=>Option.casesOn (motive:=λ_=>V4) (tdI t.desc) false (λ_=>true))
def abz (a:TB) (T:V9):V1 (Ty×Ty):=ob (a T) λt=>ob (tdM t.desc) λb=>ob (a b.1) λc=>ob (a b.2) λd=>some (c,d)
def agA (c:TB) (T:V9) (a:V4) (v k:GV) (H:GH):V1 GV:=ob v.asM λh=>ob (H.get h) λo=>ob o.asM λb=>ob (abz c T) λt=>bif MD t.1 k then ob (SR k b) λr=>ob (ofV t.2.zero) λz=>Option.casesOn (motive:=λ_=>V1 GV) r (bif a then some (.tup [z,.bool false])else some z) (λg=>bif a then some (.tup [g,.bool true])else some g)else none
def acW (c:TB) (T:V9) (v k u:GV) (H:GH):OR:=ob v.asM λh=>ob (H.get h) λo=>ob o.asM λa=>ob (abz c T) λt=>bif MD t.1 k then ob (SR k a) λr=>Option.casesOn (motive:=λ_=>OR) r (H.setK h (.mp (a++[(k,u)])) λb=>some (.un,b)) (λ_=>none)else none
section
variable {R:Type}
abbrev KT (R:Type):=GF->GH->(GV->GH->V1 R)->V1 R
def k1 (x:V3) (f:GV->V1 GV):KT R:=λa H k=>ob (some x) λx=>ob (lF a x) λv=>ob (f v) λg=>k g H
def k2 (x y:V3) (f:GV->GV->V1 GV):KT R:=λa H k=>ob (some x) λx=>ob (lF a x) λv=>ob (lF a y) λu=>ob (f v u) λg=>k g H
def k3 (x y z:V3) (f:GV->GV->GV->V1 GV):KT R:=λa H k=>ob (some x) λx=>ob (lF a x) λv=>ob (lF a y) λu=>ob (lF a z) λt=>ob (f v u t) λg=>k g H
def Kt (x:V3):KT R:=λa H k=>ob (some x) λx=>ob (lF a x) λv=>k v H
def kFn (c:Fn) (first a:Array V3):KT R:=match c with
 | .func f=>λb H k=>ob (HC b first.toList) λd=>ob (HC b a.toList) λe=>k (.fn f d e) H
 |_=>λ_ _ _=>none
def Jv (a:GF) (o:V1 V3):V1 (V1 GV):=Option.casesOn (motive:=λ_=>V1 (V1 GV)) o (some none) λx=>ob (lF a x) λv=>some (some v)
def ah_ (e:TB) (T:V9) (x:V3) (c b d:V1 V3):KT R:=Option.casesOn (motive:=λ_=>KT R) d (λa H k=>ob (some x) λx=>ob (lF a x) λv=>ob (Jv a c) λl=>ob (Jv a b) λh=>ob (CL e T v l h H) λg=>k g H) (λ_ _ _ _=>none)
def ahZ (b:TB) (T:V9) (a:V6 (Nat×V3)):KT R:=λd H k=>ob (wD d a) λc=>ob (VN b T c) λg=>k g H
def fW (r:OR) (k:GV->GH->V1 R):V1 R:=ob r λp=>Prod.casesOn (motive:=λ_=>V1 R) p λg h=>k g h
def WQ (a:TB) (T:V9) (x:V3):KT R:=λb H k=>ob (some x) λx=>ob (lF b x) λv=>ob (uR a T v H) λg=>k g H
def Qk (b:TB) (T:V9) (x y:V3):KT R:=λa H k=>ob (some x) λx=>ob (lF a x) λv=>ob (lF a y) λu=>fW (qD b T v u H) k
def aeZ (x:V3):KT R:=λa H k=>ob (some x) λx=>ob (lF a x) λv=>fW (HR v H) k
def ahY (a:TB) (T:V9):KT R:=λb H k=>fW (wH a T H) k
def afa (b:TB) (T:V9) (n:Nat) (a:V6 (Nat×V3)):KT R:=λd H k=>ob (wD d a) λc=>fW (vQ b T n c H) k
def WS (b:TB) (T:V9) (x y:V3):KT R:=λa H k=>ob (some x) λx=>ob (lF a x) λv=>ob (lF a y) λu=>fW (TQ b T v u H) k
def abl (r:V1 V3):KT R:=Option.casesOn (motive:=λ_=>KT R) r (λa H k=>fW (Ja H) k) (λ_ _ _ _=>none)
def WR (c:TB) (T:V9) (x y:V3) (b:V4):KT R:=λa H k=>ob (some x) λx=>ob (lF a x) λv=>ob (lF a y) λu=>ob (agA c T b v u H) λg=>k g H
def Qj (b:TB) (T:V9) (x y z:V3):KT R:=λa H k=>ob (some x) λx=>ob (lF a x) λv=>ob (lF a y) λu=>ob (lF a z) λt=>fW (acW b T v u t H) k
def MC (a:V6 V3) (f:V3->KT R):KT R:=List.casesOn (motive:=λ_=>KT R) a (λ_ _ _=>none) λx r=>List.casesOn (motive:=λ_=>KT R) r (f x) (λ_ _ _ _ _=>none)
def FC (a:V6 V3) (f:V3->V3->KT R):KT R:=List.casesOn (motive:=λ_=>KT R) a (λ_ _ _=>none) λx r=>List.casesOn (motive:=λ_=>KT R) r (λ_ _ _=>none) λy r=>List.casesOn (motive:=λ_=>KT R) r (f x y) (λ_ _ _ _ _=>none)
def abj (c:TB) (a:V6 V9) (x y:V3):KT R:=λb H k=>ob (Jg a 0) λT=>ob (Jg a 1) λT'=>ob (lF b x) λv=>ob (lF b y) λu=>fW (VL c T T' v u H) k
def SI (b:TB) (c:V6 V9) (x y:V3):KT R:=λa H k=>ob (Jg c 0) λT=>ob (lF a x) λv=>ob (lF a y) λu=>fW (agy b T v u H) k
def Yx (a:TB) (b:V6 V9) (x:V3):KT R:=λc H k=>ob (Jg b 0) λT=>ob (lF c x) λv=>ob (ako a T v) λg=>k g H
def Yy (a:TB) (b:V6 V9) (x:V3):KT R:=λc H k=>ob (Jg b 0) λT=>ob (lF c x) λv=>ob (TP a T v) λg=>k g H
def Vf (a:TB) (xs:Array V3) (b:Array V9):Builtin->KT R
 | .len=>MC xs.toList (Yy a b.toList)
 | .max=>FC xs.toList λx y=>k2 x y TS
 | .min=>FC xs.toList λx y=>k2 x y acX
 | .append=>FC xs.toList (abj a b.toList)
 | .copy=>FC xs.toList (SI a b.toList)
 | .cap=>MC xs.toList (Yx a b.toList)
 |_=>λ_ _ _=>none
abbrev CH:=Nat->V6 GV->GH->OR
def abk (b:CH) (d:Array V3) (f:V3):KT R:=λa H k=>ob (lF a f) λv=>ob v.asF λg=>ob (HC a d.toList) λc=>fW (b g.1 (g.2.1++c++g.2.2) H) k
def ajG (b:TB) (a:CH) (c:Call):KT R:=Callee.casesOn (motive:=λ_=>KT R) c.callee (abk a c.args) (λ_ _ _ _ _=>none) (Vf b c.args c.argTypes)
end
def Rb {R:Type} (d:TB) (g:CH) (o:Op):KT R:=Op.casesOn (motive:=λ_=>KT R) o (λa=>Kt a) (λa=>Kt a) (λa b c=>k3 a b c pZ) (λa=>ahY d a) (λ_ b=>aeZ b) (λa b=>ahZ d a b.toList) (λa b c=>afa d a b c.toList) (λ_ _ _ _=>λ_ _ _=>none) (λa b=>WQ d a b) (λa b c=>Qk d a b c) (λ_=>λ_ _ _=>none) (λ_=>λ_ _ _=>none) (λa=>k1 a GV.nilck) (λa b c e _=>k2 c e (Bn d a b)) (λa _ c=>k1 c (vUn a)) (λa b c=>k1 c (acS d a b)) (λ_ _=>λ_ _ _=>none) (λ_ _=>λ_ _ _=>none) (λa b c=>kFn a b c) (λ_ b=>abl b) (λ_ _=>λ_ _ _=>none) (λa b c=>WS d a b c) (λa b c e f=>ah_ d a b c e f) (λa b c=>k1 b (Ke d a c)) (λa b c=>k1 b (acY d a c)) (λa b c=>k2 b c (VP d a)) (λa b c=>k2 b c (vAt d a)) (λa b c e=>WR d a b c e) (λa b c e=>Qj d a b c e) (λ_ _ _=>λ_ _ _=>none) (λ_ _ _ _=>λ_ _ _=>none) (λ_ _=>λ_ _ _=>none) (λ_ _=>λ_ _ _=>none) (λ_=>λ_ _ _=>none) (λ_ _ _ _=>λ_ _ _=>none) (λa b=>k1 a (aiJ b)) (λa=>ajG d g a) (λ_=>λ_ _ _=>none) (λ_=>λ_ _ _=>none) (λ_=>λ_ _ _=>none) (λ_ _=>λ_ _ _=>none) (λ_ _ _=>λ_ _ _=>none) (λ_ _=>λ_ _ _=>none)
def akn (x:V3):Nat:=Operand.casesOn (motive:=λ_=>Nat) x (λt=>Nat.shiftLeft 1 t) (λ_=>0) (λ_=>0) (λ_=>0)
def akm (all:V6 V5) (o:V5):Nat:=Nat.lor (o.op.operands.toList.foldl (λm x=>Nat.lor m (akn x)) 0) (match o.guard with
 |none=>0
 |some g=>match Jg all g.1 with
  |some a=>(match a.dst with|some d=>Nat.shiftLeft 1 d|none=>0)
  |none=>0)
def amq (m:Nat) (d:V1 Nat):Nat:=match d with
 |none=>m
 |some d=>bif Nat.testBit m d then Nat.sub m (Nat.shiftLeft 1 d)else m
def afe (all l:V6 V5) (m:Nat):Nat:=l.foldr (λo m=>Nat.lor (amq m o.dst) (akm all o)) m
structure Cx where
 res:List ResultVar
 retm:Nat
 env:List (Nat×Nat)
def Dt (e:V6 (Nat×Nat)) (id:Nat):Nat:=List.rec (motive:=λ_=>Nat) 0 (λp _ a=>bif Nat.beq p.1 id then p.2 else a) e
def ajO (c:Code) (d:Nat):Nat->V6 (Nat×Nat)->Nat:=Code.rec (motive:=λ_=>Nat->V6 (Nat×Nat)->Nat)
 (λm _=>m) (λ_ b _ m _=>afe b.toList b.toList m) (λ_ _ f a m e=>f (a m e) e) (λx _ _ f a m e=>Nat.lor (akn x) (Nat.lor (f m e) (a m e))) (λid _ a m e=>a m ((id,m)::e))
 (λ_ a _ e=>Nat.lor (a 0 e) (a (a 0 e) e)) (λ_ _ _ _ _ _ _ _=>0) (λid _ e=>Dt e id) (λ_ _ _ _=>0) (λ_ _ _=>0) (λ_ _ _=>0) (λ_ _=>d) (λ_ _ _=>0) c
def live (c:Code) (m:Nat) (a:Cx):Nat:=ajO c a.retm m a.env
def ajH (f m:Nat):Nat->V6 Nat:=Nat.rec (motive:=λ_=>Nat->V6 Nat) (λ_=>[]) (λ_ a i=>bif Nat.testBit m i then i::a (Nat.succ i)else a (Nat.succ i)) f
def mN (m:Nat):V6 Nat:=ajH (Nat.succ (Nat.log2 m)) m 0
def DY (c:GF) (b:V6 Nat):V6 GV:=List.rec (motive:=λ_=>V6 GV) [] (λk _ a=>Option.casesOn (motive:=λ_=>GV) (GQ c k) .bad (λv=>v)::a) b
def lB {R:Type} (d:V6 Nat):V6 GV->(GF->V1 R)->V1 R:=List.rec (motive:=λ_=>V6 GV->(GF->V1 R)->V1 R) (λb k=>List.casesOn (motive:=λ_=>V1 R) b (k []) λ_ _=>none) (λa _ c b k=>List.casesOn (motive:=λ_=>V1 R) b none λv r=>c r λe=>k ((a,v)::e)) d
inductive Ex where
 |normal
 |exit (id:Nat)
 |ret
inductive agP where
 |fn (f:Nat)
 |loop (b:Code) (cx:Cx)
structure GS where
 σ:GF
 H:GH
structure RB where
 e:Ex
 vs:List GV
 H:GH
abbrev RS:=V1 RB
abbrev QH0:=V6 GV->GH->RS
abbrev QH:=Nat->V6 GV->GH->RS
abbrev IH:=agP->V6 GV->GH->RS
def aiu (b:TB) (s:GS) (r:ResultVar):V1 GV:=ResultVar.casesOn (motive:=λ_=>V1 GV) r (λt=>GQ s.σ t) λa T=>ob (GQ s.σ a) λv=>uR b T v s.H
def Tp (b:TB) (s:GS) (l:V6 ResultVar):V1 (V6 GV):=List.rec (motive:=λ_=>V1 (V6 GV)) (some []) (λr _ a=>ob (aiu b s r) λv=>ob a λc=>some (v::c)) l
def Ls (l:V6 ResultVar):Nat:=List.rec (motive:=λ_=>Nat) 0 (λr _ b=>Nat.lor (ResultVar.casesOn (motive:=λ_=>Nat) r (λt=>Nat.shiftLeft 1 t) (λa _=>Nat.shiftLeft 1 a)) b) l
def YI (a:V6 GV):GV:=List.casesOn (motive:=λ_=>GV) a (.tup []) (λv r=>List.casesOn (motive:=λ_=>GV) r v (λ_ _=> .tup a))
def putD (d:V1 Nat) (v:GV) (a:GF):GF:=Option.casesOn (motive:=λ_=>GF) d a λd=>(d,v)::a
def II (a:V6 Nat) (s:GS):RS:=some ⟨.normal,DY s.σ a,s.H⟩
def Vv (b:TB) (a:Cx) (s:GS):RS:=ob (Tp b s a.res) λc=>some ⟨.ret,c,s.H⟩
def agr (a:V6 Nat) (k:GS->RS) (r:RS):RS:=ob r λo=>Ex.casesOn (motive:=λ_=>RS) o.e (lB a o.vs λb=>k ⟨b,o.H⟩) (λ_=>some o) (some o)
def nB (id:Nat) (r:RS):RS:=ob r λo=>Ex.casesOn (motive:=λ_=>RS) o.e (some o) (λi=>Bool.casesOn (motive:=λ_=>RS) (Nat.beq i id) (some o) (some ⟨.normal,o.vs,o.H⟩)) (some o)
def GU (g:GV) (H:GH):OR:=some (g,H)
def opK (d:V1 Nat) (s:GS) (k:GS->RS) (g:GV) (H:GH):RS:=k ⟨putD d g s.σ,H⟩
def evG (c:TB) (a:CH) (o:V5) (s:GS) (b:V4) (v:GV):OR:=GV.casesOn (motive_1:=λ_=>OR) v (λ_ _=>none) (λq=>Bool.casesOn (motive:=λ_=>OR) (WL q b) (some (.un,s.H)) (Rb c a o.op s.σ s.H GU)) (λ_ _=>none) (λ_ _=>none) none (λ_ _ _ _=>none) none (λ_=>none) (λ_ _ _=>none) none none (λ_=>none) (λ_=>none) (some (.un,s.H)) none (λ_=>none)
def Mn (b:TB) (a:CH) (all:V6 V5) (o:V5) (k:GS->RS) (s:GS):RS:=Option.casesOn (motive:=λ_=>RS) o.guard (Rb b a o.op s.σ s.H (opK o.dst s k)) λg=>ob (Jg all g.1) λd=>ob d.dst λc=>ob (GQ s.σ c) λv=>fW (evG b a o s g.2 v) (opK o.dst s k)
def He (c:TB) (b:CH) (all:V6 V5) (k:GS->RS) (l:V6 V5):GS->RS:=List.rec (motive:=λ_=>GS->RS) k (λo _ a s=>Mn c b all o a s) l
def o_:Op->V4
 | .load .. => true
 |_=>false
def Qi:Op->V4
 | .lookup .. => true
 |_=>false
def ldH (a:GF):Op->V1 Nat
 | .load _ x=>ob (some x) λx=>ob (lF a x) λv=>ob v.asP λp=>some p.1
 |_=>none
def vck {a:Type} (H:GH) (h v:Nat) (k:V1 a):V1 a:=ob (H.ver h) λu=>Bool.casesOn (motive:=λ_=>V1 a) (Nat.beq u v) none k
def pck (H:GH) (e:V1 (Nat×Nat)) (k:V1 Unit):V1 Unit:=Option.casesOn (motive:=λ_=>V1 Unit) e k λp=>vck H p.1 p.2 k
def Mg (m:V6 Nat) (i:Nat) (H:GH) (b:V6 (Nat×V1 (Nat×Nat))):V1 Unit:=List.rec (motive:=λ_=>V1 Unit) (some ()) (λp _ a=>Bool.casesOn (motive:=λ_=>V1 Unit) (before m i p.1) (pck H p.2 a) a) b
def Mh (m:V6 Nat) (i h v:Nat) (b:V6 (Nat×GH)):V1 (V1 (Nat×Nat)):=List.rec (motive:=λ_=>V1 (V1 (Nat×Nat))) (some (some (h,v))) (λq _ a=>Bool.casesOn (motive:=λ_=>V1 (V1 (Nat×Nat))) (before m i q.1) (vck q.2 h v a) a) b
def ldV (m:V6 Nat) (i:Nat) (a:V6 (Nat×GH)) (H:GH) (l:V1 Nat):V1 (V1 (Nat×Nat)):=Option.casesOn (motive:=λ_=>V1 (V1 (Nat×Nat))) l (some none) λh=>ob (H.ver h) λv=>Mh m i h v a
abbrev WT:=Nat->V6 (Nat×V1 (Nat×Nat))->V6 (Nat×GH)->GS->RS
def aaN (f:TB) (d:CH) (all:V6 V5) (m:V6 Nat) (o:V5) (K:WT):WT:=λi b a s=>
 Bool.casesOn (motive:=λ_=>RS) (fI o.op)
  (Bool.casesOn (motive:=λ_=>RS) (o_ o.op) (Mn f d all o (K (Nat.succ i) b a) s)
   (Mn f d all o (λc=>ob (ldV m i a s.H (ldH s.σ o.op)) λe=>K (Nat.succ i) ((i,e)::b) a c) s))
  (Mn f d all o (λc=>ob (Mg m i c.H b) λ_=>K (Nat.succ i) b ((i,s.H)::a) c) s)
def evW (c:TB) (a:CH) (all:V6 V5) (m:V6 Nat) (k:GS->RS) (l:V6 V5):WT:=List.rec (motive:=λ_=>WT) (λ_ _ _ s=>k s) (λo _ b=>aaN c a all m o b) l
def GA (l:V6 V5) (p:Op->V4):V4:=(List.range l.length).all λi=>match l[i]? with
 |none=>true
 |some o=> !p o.op||(List.range l.length).all λj=>match l[j]? with
  |none=>true
  |some a=> !fI a.op||before (qF l) i j||before (qF l) j i
def aiK (a:V4) (l:V6 V5):V4:=Bool.casesOn (motive:=λ_=>V4) a false (!GA l o_)
def OJ (r:RS):OR:=ob r λo=>Ex.casesOn (motive:=λ_=>OR) o.e none (λ_=>none) (some (YI o.vs,o.H))
structure GP where
 tab:TB
 cat:Nat
 ext:Nat->List GV->GH->Option (GV×GH)
 exn:Nat->List GV->Option GV
def Ai:GV:= .int .i64 (.ofNat 0)
def ajk (l:CH) (m:V6 GV) (H:GH):OR:=List.casesOn (motive:=λ_=>OR) m none λu r=>List.casesOn (motive:=λ_=>OR) r (ob u.asF λg=>H.newK (.cells [Ai]) λa c=>c.newK (.cells [Ai]) λb d=>ob (l g.1 (g.2.1++g.2.2) d) λx=>ob (x.2.cells a) λj=>ob (x.2.cells b) λk=>
 bif Nat.beq j.length 1 then(bif Nat.beq k.length 1 then x.2.setK a (.cells [Ai]) λe=>e.setK b (.cells [Ai]) λf=>f.delK a λh=>h.delK b λi=>some (.tup [Ai,Ai],i)else none)else none) (λ_ _=>none)
def ajj (a:IH):CH:=λf b H=>OJ (a (.fn f) b H)
def callQ (G:GP) (q:QH):CH:=λf a H=>Bool.casesOn (motive:=λ_=>OR) (Nat.beq f G.cat) (Option.casesOn (motive:=λ_=>OR) (G.ext f a H) (Option.casesOn (motive:=λ_=>OR) (G.exn f a) (OJ (q f a H)) λg=>some (g,H)) λr=>some r) (ajk (λf a H=>OJ (q f a H)) a H)
def Fv (G:GP) (a:IH):CH:=callQ G λf b H=>a (.fn f) b H
abbrev ET:=Nat->Cx->(GS->RS)->GS->RS
abbrev LH:=Code->Cx->QH0
def evC (g:TB) (ch:CH) (lp:LH) (c:Code):ET:=Code.rec (motive:=λ_=>ET)
 (λ_ _ k s=>k s)
 (λ_ d h _ _ k s=>Bool.casesOn (motive:=λ_=>RS) (aiK h d.toList) (He g ch d.toList k d.toList s) (evW g ch d.toList (qF d.toList) k d.toList 0 [] [] s))
 (λ_ b f e m a k s=>f (live b m a) a (e m a k) s)
 (λx _ _ f e m a k s=>ob (lF s.σ x) λv=>ob v.asB λq=>agr (mN m) k (Bool.casesOn (motive:=λ_=>RS) q (e m a (II (mN m)) s) (f m a (II (mN m)) s)))
 (λid _ e m a k s=>agr (mN m) k (nB id (e m ⟨a.res,a.retm,(id,m)::a.env⟩ (II (mN m)) s)))
 (λb _ _ a _ s=>lp b a (DY s.σ (mN (live (.loop b) 0 a))) s.H)
 (λ_ _ _ _ _ _ _ _ _ _=>none)
 (λid _ a _ s=>some ⟨.exit id,DY s.σ (mN (Dt a.env id)),s.H⟩)
 (λ_ _ _ _ _ _=>none) (λ_ _ _ _ _=>none) (λ_ _ _ _ _=>none)
 (λ_ a _ s=>Vv g a s)
 (λ_ _ _ _ _=>none) c
def Yj (b:TB) (c:CH) (d:LH) (fn:Func) (e:V6 GV) (H:GH):RS:=ob fn.body λa=>lB (List.range (Nat.add fn.params.size fn.nfree)) e λf=>evC b c d a (Ls fn.results.toList) ⟨fn.results.toList,Ls fn.results.toList,[]⟩ (Vv b ⟨fn.results.toList,Ls fn.results.toList,[]⟩) ⟨f,H⟩
def evL (f:TB) (d:CH) (c:LH) (b:Code) (a:Cx) (g:V6 GV) (H:GH):RS:=lB (mN (live (.loop b) 0 a)) g λh=>ob (evC f d c b (live (.loop b) 0 a) a (II (mN (live (.loop b) 0 a))) ⟨h,H⟩) λo=>Ex.casesOn (motive:=λ_=>RS) o.e (c b a o.vs o.H) (λ_=>some o) (some o)
abbrev FT:=Nat->V1 Func
def step (G:GP) (d:FT) (a:IH) (t:agP):V6 GV->GH->RS:=agP.casesOn (motive:=λ_=>V6 GV->GH->RS) t (λf g H=>ob (d f) λe=>Yj G.tab (Fv G a) (λb c=>a (.loop b c)) e g H) (evL G.tab (Fv G a) λb c=>a (.loop b c))
def run (G:GP) (b:FT) (a:Nat):IH:=Nat.rec (motive:=λ_=>IH) (λ_ _ _=>none) (λ_ c=>step G b c) a
def WC (G:GP) (c:FT) (b:Nat) (f:FuncId) (a:V6 GV) (H:GH):OR:=Fv G (run G c b) f a H
def H0:GH:=⟨0,.lf⟩
end
section
variable {α β:Type}
theorem aE {o:V1 α} {f:α->V1 β} {r:β}:ob o f=some r↔∃x,o=some x/\f x=some r:=by
 cases o<;>simp[ob]
theorem bV {b:V4} {x:V1 α} {r:α}:(bif b then x else none)=some r↔b=true/\x=some r:=by
 cases b<;>simp
theorem lE {b:V4} {x:V1 α} {r:α}:(bif b then none else x)=some r↔b=false/\x=some r:=by
 cases b<;>simp
theorem yS (n:Nat) (f:Nat->α):sn n f=f n:=by cases n<;>rfl
theorem Oo (z:Int) (f:Int->α):fi z f=f z:=by cases z<;>simp[fi,yS]
theorem wG (l:V6 α):∀n,Jg l n=l[n]?:=by
 induction l with
 |nil=>intro n;rfl
 |cons x l a=>intro n;cases n with
  |zero=>rfl
  |succ n=>exact a n
theorem afj {v:α}:∀{l a:V6 α} {n:Nat},afi v l n=some a->n<l.length/\a=l.set n v:=by
 intro l
 induction l with
 |nil=>intro a n h;cases h
 | cons x l ih => intro a n h; cases n with
  |zero=>cases h;simp
  |succ n=>
   obtain⟨r,b,c⟩:=aE.1 (show ob (afi v l n) (λf=>some (x::f))=some a from h);obtain⟨d,e⟩:=ih b;cases c;simp[d,e]
theorem akl:∀{l r:V6 α} {n:Nat},tk l n=some r->n<=l.length/\r=l.take n:=by
 intro l
 induction l with
 |nil=>intro r n h;cases n with
  |zero=>cases h;simp
  |succ n=>cases h
 | cons x l ih => intro r n h; cases n with
  |zero=>cases h;simp
  |succ n=>
   obtain⟨q,a,b⟩:=aE.1 (show ob (tk l n) (λr=>some (x::r))=some r from h);obtain⟨c,d⟩:=ih a;cases b;simp[c,d]
theorem ajq:∀{l r:V6 α} {n:Nat},dp l n=some r->n<=l.length/\r=l.drop n:=by
 intro l
 induction l with
 |nil=>intro r n h;cases n with
  |zero=>cases h;simp
  |succ n=>cases h
 |cons x l a=>intro r n h;cases n with
  |zero=>cases h;simp
  |succ n=>have:=a (show dp l n=some r from h);simpa using this
theorem QL {l r:V6 α} {o n:Nat} (h:slc l o n=some r):o+n<=l.length/\r=(l.drop o).take n:=by
 obtain⟨q,a,b⟩:=aE.1 h;obtain⟨d,rfl⟩:=ajq a;obtain⟨c,rfl⟩:=akl b;simp at c;exact⟨V7,rfl⟩
def wr (b:List α) (o:Nat) (a:List α):List α:=a.take o++b++a.drop (o+b.length)
end
theorem Ln:∀{b c a:V6 GV} {o:Nat},Iu b o c=some a->(b≠[]->o+b.length<=c.length)/\a.length=c.length/\∀i,a[i]? = if o<=i/\i<o+b.length then b[i - o]? else c[i]?:=by
 intro b
 induction b with
 |nil=>
  intro c a o h;cases h;refine⟨λh=>absurd Z h,rfl,λi=> ?_⟩
  rw[if_neg V8]
 | cons v b ih =>
  intro c a o h;obtain⟨p,l,f⟩:=aE.1 (show ob (afi v c o) (λa=>sn (Nat.succ o) λn=>Iu b n a)=some a from h);rw[yS]at f;obtain⟨m,rfl⟩:=afj l;obtain⟨g,j,k⟩:=ih f;simp only[zA2,Nat.succ_eq_add_one]at g j k;refine⟨λ_=> ?_,j,λi=> ?_⟩
  .cases b with
   |nil=>simp;omega
   |cons y q=>have:=g V8;simp at this ⊢;omega
  rw[k i];by_cases e:i=o
  .subst e;rw[Q0,if_pos V8,zAj m];simp
  .by_cases d:o+1<=i/\i<o+1+b.length
   .rw[if_pos d,if_pos Q1];have:i - o=(i - (o+1))+1:=V7
    rw[this,List.getElem?_cons_succ]
   .rw[if_neg d,if_neg Q1,zAq (Ne.symm e)]
theorem RU {j:Type} (x:V1 j):∀(f n m:Nat),n<f->(Ek x f n).get m=if m=n then x else none:=by
 intro f
 induction f with
 |zero=>intro n m h;omega
 | succ f ih =>
  intro n m h;show Tr.get (bif Nat.beq n 0 then .nd x .lf .lf else bif Nat.beq (Nat.mod n 2) 1 then .nd none (Ek x f (Nat.div n 2)) .lf else .nd none .lf (Ek x f (Nat.sub (Nat.div n 2) 1))) m=_;have p:∀(a:V1 j) (l r:Tr j),Tr.get (.nd a l r) m=if m=0 then a else if m%2=1 then l.get (m / 2)else r.get (m / 2 - 1):=λa l r=>by
   show Bool.casesOn (motive:=λ_=>V1 j) (Nat.beq m 0) (Bool.casesOn (motive:=λ_=>V1 j) (Nat.beq (Nat.mod m 2) 1) (r.get (Nat.sub (Nat.div m 2) 1)) (l.get (Nat.div m 2))) a=_;by_cases i:m=0
   .subst i;rfl
   .rw[if_neg i,oC i];by_cases b:m%2=1
    .rw[if_pos b];have:Nat.beq (Nat.mod m 2) 1=true:=by rw[show Nat.mod m 2=1 from b];rfl
     rw[this];rfl
    .rw[if_neg b];have:Nat.beq (Nat.mod m 2) 1=false:=oC b;rw[this];rfl
  have d:∀k,(Tr.lf:Tr j).get k=none:=λ_=>rfl;have q:Nat.div n 2=n / 2:=rfl;have s:Nat.sub (Nat.div n 2) 1=n / 2 - 1:=rfl;by_cases i:n=0
  .subst i;show Tr.get (.nd x .lf .lf) m=_;simp only[p,d];by_cases g:m=0<;>simp[g]
  .rw[oC i];by_cases b:n%2=1
   .have:Nat.beq (Nat.mod n 2) 1=true:=by rw[show Nat.mod n 2=1 from b];rfl
    simp only[this,cond_true,cond_false,p,d,q];rw[ih _ _ V7];by_cases g:m=0
    .rw[if_pos g,Q0]
    .rw[if_neg g];by_cases c:m%2=1
     .rw[if_pos c];by_cases o:m=n
      .subst o;simp
      .rw[if_neg o,Q0]
     .rw[if_neg c,if_neg (by intro e;subst e;exact c b)]
   .have:Nat.beq (Nat.mod n 2) 1=false:=oC b;simp only[this,cond_true,cond_false,p,d,s];rw[ih _ _ V7];by_cases g:m=0
    .rw[if_pos g,Q0]
    .rw[if_neg g];by_cases c:m%2=1
     .rw[if_pos c,if_neg (by intro e;subst e;exact b c)]
     .rw[if_neg c];by_cases o:m=n
      .subst o;simp
      .rw[if_neg o,Q0]
theorem uA {f:Type} (x:V1 f):∀(t:Tr f) (n m:Nat),(t.set x n).get m=if m=n then x else t.get m:=by
 intro t
 induction t with
 |lf=>intro n m;exact RU x _ n m (Nat.lt_succ_self n)
 | nd a l r ihl ihr =>
  intro n m;have h:∀(a:V1 f) (l r:Tr f),Tr.get (.nd a l r) m=if m=0 then a else if m%2=1 then l.get (m / 2)else r.get (m / 2 - 1):=λa l r=>by
   show Bool.casesOn (motive:=λ_=>V1 f) (Nat.beq m 0) (Bool.casesOn (motive:=λ_=>V1 f) (Nat.beq (Nat.mod m 2) 1) (r.get (Nat.sub (Nat.div m 2) 1)) (l.get (Nat.div m 2))) a=_;by_cases g:m=0
   .subst g;rfl
   .rw[if_neg g,oC g];by_cases d:m%2=1
    .rw[if_pos d];have:Nat.beq (Nat.mod m 2) 1=true:=by rw[show Nat.mod m 2=1 from d];rfl
     rw[this];rfl
    .rw[if_neg d];have:Nat.beq (Nat.mod m 2) 1=false:=oC d;rw[this];rfl
  show Tr.get (Bool.casesOn (motive:=λ_=>Tr f) (Nat.beq n 0) (Bool.casesOn (motive:=λ_=>Tr f) (Nat.beq (Nat.mod n 2) 1) (.nd a l (r.set x (Nat.sub (Nat.div n 2) 1))) (.nd a (l.set x (Nat.div n 2)) r)) (.nd x l r)) m=_;have j:Nat.div n 2=n / 2:=rfl;have k:Nat.sub (Nat.div n 2) 1=n / 2 - 1:=rfl;by_cases g:n=0
  .subst g;show Tr.get (.nd x l r) m=_;rw[h,h];by_cases c:m=0<;>simp[c]
  .rw[oC g];by_cases d:n%2=1
   .have:Nat.beq (Nat.mod n 2) 1=true:=by rw[show Nat.mod n 2=1 from d];rfl
    rw[this];show Tr.get (.nd a (l.set x (Nat.div n 2)) r) m=_;rw[h,h,ihl,j];by_cases c:m=0
    .rw[if_pos c,if_pos c,Q0]
    .rw[if_neg c,if_neg c];by_cases b:m%2=1
     .rw[if_pos b,if_pos b];by_cases i:m=n
      .subst i;simp
      .rw[if_neg i,Q0]
     .rw[if_neg b,if_neg b,if_neg (by intro e;subst e;exact b d)]
   .have:Nat.beq (Nat.mod n 2) 1=false:=oC d;rw[this];show Tr.get (.nd a l (r.set x (Nat.sub (Nat.div n 2) 1))) m=_;rw[h,h,ihr,k];by_cases c:m=0
    .rw[if_pos c,if_pos c,Q0]
    .rw[if_neg c,if_neg c];by_cases b:m%2=1
     .rw[if_pos b,if_pos b,if_neg (by intro e;subst e;exact d b)]
     .rw[if_neg b,if_neg b];by_cases i:m=n
      .subst i;simp
      .rw[if_neg i,Q0]
theorem tS (H:GH) (h:Nat) (o:GO) (k:Nat):(H.set h o).get k=if k=h then some o else H.get k:=by
 unfold GH.get GH.set;rw[uA];by_cases e:k=h<;>simp[e,ob]
theorem Un (H:GH) (h:Nat) (o:GO) (k:Nat):(H.set h o).ver k=if k=h then some H.n else H.ver k:=by
 unfold GH.ver GH.set;rw[uA];by_cases e:k=h<;>simp[e,ob]
theorem Ht (H:GH) (h k:Nat):(H.del h).get k=if k=h then none else H.get k:=by
 unfold GH.get GH.del;rw[uA];by_cases e:k=h<;>simp[e,ob]
theorem Ul (H:GH) (h k:Nat):(H.del h).ver k=if k=h then none else H.ver k:=by
 unfold GH.ver GH.del;rw[uA];by_cases e:k=h<;>simp[e,ob]
noncomputable def GH.new (H:GH) (o:GO):GH:=⟨H.n+1,H.t.set (some (H.n,o)) H.n⟩
theorem rT (H:GH) (o:GO) (k:Nat):(H.new o).get k=if k=H.n then some o else H.get k:=by
 unfold GH.get GH.new;rw[uA];by_cases e:k=H.n<;>simp[e,ob]
theorem Um (H:GH) (o:GO) (k:Nat):(H.new o).ver k=if k=H.n then some H.n else H.ver k:=by
 unfold GH.ver GH.new;rw[uA];by_cases e:k=H.n<;>simp[e,ob]
theorem RX {b R:Type} (x:V1 b):∀(f n:Nat) (k:Tr b->R),Ig x f n k=k (Ek x f n):=by
 intro f
 induction f with
 |zero=>intro n k;rfl
 |succ f a=>
  intro n k;show Bool.casesOn (motive:=λ_=>R) (Nat.beq n 0) (Bool.casesOn (motive:=λ_=>R) (Nat.beq (Nat.mod n 2) 1) (Ig x f (Nat.sub (Nat.div n 2) 1) λt=>k (.nd none .lf t)) (Ig x f (Nat.div n 2) λt=>k (.nd none t .lf))) (k (.nd x .lf .lf))=k (bif Nat.beq n 0 then .nd x .lf .lf else bif Nat.beq (Nat.mod n 2) 1 then .nd none (Ek x f (Nat.div n 2)) .lf else .nd none .lf (Ek x f (Nat.sub (Nat.div n 2) 1)));rw[a,a];cases Nat.beq n 0<;>cases Nat.beq (Nat.mod n 2) 1<;>rfl
theorem Ej {b R:Type} (x:V1 b):∀(t:Tr b) (n:Nat) (k:Tr b->R),t.setK x n k=k (t.set x n):=by
 intro t
 induction t with
 |lf=>intro n k;exact RX x (Nat.succ n) n k
 |nd a l r c d=>
  intro n k;show Bool.casesOn (motive:=λ_=>R) (Nat.beq n 0) (Bool.casesOn (motive:=λ_=>R) (Nat.beq (Nat.mod n 2) 1) (r.setK x (Nat.sub (Nat.div n 2) 1) λt=>k (.nd a l t)) (l.setK x (Nat.div n 2) λt=>k (.nd a t r))) (k (.nd x l r))=k (Bool.casesOn (motive:=λ_=>Tr b) (Nat.beq n 0) (Bool.casesOn (motive:=λ_=>Tr b) (Nat.beq (Nat.mod n 2) 1) (.nd a l (r.set x (Nat.sub (Nat.div n 2) 1))) (.nd a (l.set x (Nat.div n 2)) r)) (.nd x l r));rw[c,d];cases Nat.beq n 0<;>cases Nat.beq (Nat.mod n 2) 1<;>rfl
theorem jM {a:Type} (H:GH) (o:GO) (f:Nat->GH->a):H.newK o f=f H.n (H.new o):=by simp only[GH.newK,yS,Ej];rfl
theorem Ap {a:Type} (H:GH) (h:Nat) (o:GO) (f:GH->a):H.setK h o f=f (H.set h o):=by simp only[GH.setK,yS,Ej];rfl
theorem Hs {a:Type} (H:GH) (h:Nat) (f:GH->a):H.delK h f=f (H.del h):=by simp only[GH.delK,Ej];rfl
theorem aia {R:Type} (a b:V6 GV):∀k:V6 GV->R,lap a b k=k (a++b):=by
 induction a with
 |nil=>intro k;rfl
 |cons x a c=>intro k;exact c _
theorem Ss {R:Type} (a:V6 GV):∀k:V6 GV->R,fc a k=k a:=by
 induction a with
 |nil=>intro k;rfl
 |cons x a b=>intro k;exact b _
theorem aaF (H:GH) (v:GV) (f:GH->OR):aaE H v f=f (UL H v):=by
 unfold aaE UL;cases v.asS with
 |none=>rfl
 |some s=>exact Hs H s.1 f
theorem jQ {H:GH} {h:Nat} {a:V6 GV}:H.cells h=some a↔H.get h=some (.cells a):=by
 unfold GH.cells;rw[aE];constructor
 .rintro⟨o,d,b⟩;cases o with
  |cells c=>cases b;exact d
  |mp e=>cases b
 .intro h;exact⟨_,h,rfl⟩
theorem GO.asM_eq {o:GO} {a:V6 (GV×GV)} (h:o.asM=some a):o = .mp a:=by
 cases o with
 |cells c=>cases h
 |mp e=>cases h;rfl
theorem Ci (k:Nat) (v:GV) (σ:GF) (t:Nat):GQ ((k,v)::σ) t=if t=k then some v else GQ σ t:=by
 show Bool.casesOn (motive:=λ_=>V1 GV) (Nat.beq t k) (GQ σ t) (some v)=_;by_cases e:t=k
 .subst e;simp
 .rw[oC e,if_neg e]
section
variable {v:GV}
theorem nK {p:IntKind×Int} (h:v.asI=some p):v = .int p.1 p.2:=by cases v<;>cases h;rfl
theorem Do {p:V4} (h:v.asB=some p):v = .bool p:=by cases v<;>cases h;rfl
theorem Fu {p:Nat×Nat} (h:v.asP=some p):v = .ptr p.1 p.2:=by cases v<;>cases h;rfl
theorem Dp {p:Nat×Nat×Nat×Nat} (h:v.asS=some p):v = .sl p.1 p.2.1 p.2.2.1 p.2.2.2:=by cases v<;>cases h;rfl
theorem aaa {p:Nat×V6 GV×V6 GV} (h:v.asF=some p):v = .fn p.1 p.2.1 p.2.2:=by cases v<;>cases h;rfl
theorem agV {p:V6 GV} (h:v.asT=some p):v = .tup p:=by cases v<;>cases h;rfl
theorem LW {p:V6 GV} (h:v.asA=some p):v = .agg p:=by cases v<;>cases h;rfl
theorem qQ {p:Nat×Nat} (h:v.asStr=some p):v = .str p.1 p.2:=by cases v<;>cases h;rfl
theorem asM_eq {p:Nat} (h:v.asM=some p):v = .map p:=by cases v<;>cases h;rfl
theorem yO (h:v.isSnil=true):v = .snil:=by cases v<;>first|rfl|cases h
end
section
variable {d:TypeDesc}
theorem HQ {e:V9} (h:tdS d=some e):d = .slice e:=by cases d<;>cases h;rfl
theorem VI {e:Nat×V9} (h:tdA d=some e):d = .array e.1 e.2:=by cases d<;>cases h;rfl
theorem QY {e:Array Field} (h:tdF d=some e):d = .struct e:=by cases d<;>cases h;rfl
theorem HP {e:IntKind} (h:tdI d=some e):d = .int e:=by cases d<;>cases h;rfl
theorem aiG {e:V9×V9} (h:tdM d=some e):d = .map e.1 e.2:=by cases d<;>cases h;rfl
theorem CJ (h:KA d=true):d = .string:=by cases d<;>first|rfl|cases h
theorem VJ (h:tdB d=true):d = .bool:=by cases d<;>first|rfl|cases h
end
theorem Hw {a:Int} {n:Nat} (h:asN a=some n):a=n:=by cases a<;>cases h;rfl
theorem ajd {b:V4} {p:Prop} [Decidable p] (h:b=true↔p):b=decide p:=by
 cases b
 .exact(zA8 λa=>by cases h.2 a).symm
 .exact(zAd (h.1 Z)).symm
theorem JE (a b:Int):ltI a b=decide (a<b):=by
  refine ajd ?_;cases a with
  | ofNat a => cases b with
    |ofNat b=>show Nat.blt a b=true↔_;rw[zAy];simp
    | negSucc b =>
        constructor
        · intro h;cases h
        · intro h;simp at h;omega
  | negSucc a => cases b with
    | ofNat b =>
        constructor
        · intro _;have:=Int.negSucc_lt_zero a;simp;omega
        · intro _;rfl
    |negSucc b=>show Nat.blt b a=true↔_;rw[zAy];omega
theorem Jt (a b:Int):eqI a b=decide (a=b):=by
  refine ajd ?_;cases a with
  | ofNat a => cases b with
    |ofNat b=>show Nat.beq a b=true↔_;simp;omega
    | negSucc b =>
        constructor
        · intro h;cases h
        · intro h;cases h
  | negSucc a => cases b with
    | ofNat b =>
        constructor
        · intro h;cases h
        · intro h;cases h
    |negSucc b=>show Nat.beq a b=true↔_;simp
theorem HA (a b:V4):WL a b=(a==b):=by cases a<;>cases b<;>rfl
theorem Ju {a b:IntKind} (h:eqK a b=true):a=b:=zB5 h
theorem Mo (b:V4):fb b=some (.bool b):=by cases b<;>rfl
end Go.Gx
namespace Go.Gx
open Go Go.Sx Go.RowKit
structure NV where
 b:Nat
 off:Nat
 size:Nat
 x:Obj
 /-- what the evaluator wrote -/
 o:GO
abbrev eZ:=Nat->V1 NV
def eZ.le (b a:eZ):Prop:=∀h l,b h=some l->a h=some l
theorem eZ.le_refl (ρ:eZ):ρ.le ρ:=λ_ _ h=>h
theorem eZ.le_trans {a b c:eZ} (h:a.le b) (k:b.le c):a.le c:=λ_ _ x=>k _ _ (h _ _ x)
inductive Rl (ρ:eZ):GV->V0->Prop
 |int (k n):Rl ρ (.int k n) (.int k n)
 |bool (b):Rl ρ (.bool b) (.bool b)
 |str (s:ByteArray):Rl ρ (.str (mR (bS s)) (bS s).length) (.string s)
 |ptr {h l} (off) (hl:ρ h=some l):Rl ρ (.ptr h off) (.pointer (some ⟨l.b,l.off+off,none⟩))
 |pnil:Rl ρ .pnil (.pointer none)
 |sl {h l off len sz cap} {A:Addr} (hl:ρ h=some l) (hc:len<=cap) (ha:cap=0\/(A=⟨l.b,l.off+off,none⟩/\l.off+off+cap*sz<=l.size)):Rl ρ (.sl h off len sz) (.slice (some A) len cap)
 |snil:Rl ρ .snil (.slice none 0 0)
 |map {h l} (hl:ρ h=some l):Rl ρ (.map h) (.map (some l.b))
 | fn {us vs : List GV} {us' vs' : e_} (f) (h1 : us.length = us'.length) (h2 : ∀ (i : Nat) g v, us[i]? = some g → us'[i]? = some v → Rl ρ g v) (h3 : vs.length = vs'.length) (h4 : ∀ (i : Nat) g v, vs[i]? = some g → vs'[i]? = some v → Rl ρ g v) :
   Rl ρ (.fn f us vs) (.func (.func f) us'.toArray vs'.toArray)
 |fnil:Rl ρ .fnil .nilFunc
 |inil:Rl ρ .inil .nilIface
 |agg {cs:List GV} {vs:e_} (h1:cs.length=vs.length) (h2:∀(i:Nat) g v,cs[i]? = some g->vs[i]? = some v->Rl ρ g v) (h3:∀v∈vs,one v=true):Rl ρ (.agg cs) (.agg vs.toArray)
 |tup {cs:List GV} {vs:e_} (h1:cs.length=vs.length) (h2:∀(i:Nat) g v,cs[i]? = some g->vs[i]? = some v->Rl ρ g v):Rl ρ (.tup cs) (.tuple vs.toArray)
 |un:Rl ρ .un undef
 |bad (v):Rl ρ .bad v
 |opn {h l} (v) (hl:ρ h=some l) (hx:l.x = .cells #[v] 0 (0,0)):Rl ρ (.opn h) v
theorem Rl.le {p c:eZ} (d:p.le c) {g:GV} {v:V0} (h:Rl p g v):Rl c g v:=by
 induction h with
 |int k n=>exact .int k n
 |bool b=>exact .bool b
 |str s=>exact .str s
 |ptr m h=>exact .ptr m (d _ _ h)
 |pnil=>exact .pnil
 |sl h r q=>exact .sl (d _ _ h) r q
 |snil=>exact .snil
 |map h=>exact .map (d _ _ h)
 |fn f a o e u j l=>exact .fn f a j e l
 |fnil=>exact .fnil
 |inil=>exact .inil
 |agg a o e i=>exact .agg a i e
 |tup a o i=>exact .tup a i
 |un=>exact .un
 |bad v=>exact .bad v
 |opn v h t=>exact .opn v (d _ _ h) t
structure qE (ρ:eZ) (gs:List GV) (vs:e_):Prop where
 len:gs.length=vs.length
 at':∀(i:Nat) g v,gs[i]? = some g->vs[i]? = some v->Rl ρ g v
theorem qE.nil {ρ:eZ}:qE ρ [] []:=⟨rfl,λi g v h=>by simp at h⟩
theorem qE.cons {ρ:eZ} {g:GV} {v:V0} {gs:V6 GV} {vs:e_} (h:Rl ρ g v) (r:qE ρ gs vs):qE ρ (g::gs) (v::vs):=⟨by simp[r.len],λi a b c d=>by
 cases i with
 |zero=>simp at c d;subst c d;exact h
 |succ i=>simp at c d;exact r.at' i a b c d⟩
theorem qE.of_cons {e:eZ} {g:GV} {gs:V6 GV} {c:e_} (h:qE e (g::gs) c):∃v d,c=v::d/\Rl e g v/\qE e gs d:=by
 cases c with
 |nil=>have:=h.len;simp at this
 |cons v c=>exact⟨v,c,rfl,h.at' 0 _ _ Z Z,by have:=h.len;simpa using this,λi a b f j=>h.at' (i+1) a b (by simpa using f) (by simpa using j)⟩
theorem qE.of_nil {b:eZ} {a:e_} (h:qE b [] a):a=[]:=zAn h.len.symm
theorem qE.le {c a:eZ} (f:c.le a) {b:V6 GV} {vs:e_} (h:qE c b vs):qE a b vs:=⟨h.len,λi g v d e=>(h.at' i g v d e).le f⟩
theorem qE.append {ρ:eZ} {c a:V6 GV} {vs b:e_} (h:qE ρ c vs) (k:qE ρ a b):qE ρ (c++a) (vs++b):=by
 induction c generalizing vs with
 |nil=>rw[h.of_nil];exact k
 |cons g c f=>obtain⟨v,vs,rfl,d,e⟩:=h.of_cons;exact .cons d (f e)
theorem qE.get {ρ:eZ} {b:V6 GV} {a:e_} (h:qE ρ b a) {i:Nat} {g:GV} (c:b[i]? = some g):∃v,a[i]? = some v/\Rl ρ g v:=by
 have d:=bB c;have:i<a.length:=h.len▸d;exact⟨a[i],zA0 this,h.at' i g _ c (zA0 this)⟩
theorem qE.sub {ρ:eZ} {c:V6 GV} {d:e_} (h:qE ρ c d) (o n:Nat):qE ρ ((c.drop o).take n) ((d.drop o).take n):=
 ⟨by simp[h.len],λi g v a b=>by
  rw[zAt]at a b;split at a
  .rename_i e;rw[if_pos e]at b;rw[zAu]at a b;exact h.at' _ g v a b
  .cases a⟩
section
variable {ρ:eZ} {V:V0}
theorem Rl.int_inv {k:IntKind} {n:Int} (h:Rl ρ (.int k n) V):V = .int k n:=by cases h;rfl
theorem Rl.bool_inv {b:V4} (h:Rl ρ (.bool b) V):V = .bool b:=by cases h;rfl
theorem Rl.str_inv {n l:Nat} (h:Rl ρ (.str n l) V):∃s,V = .string s/\n=mR (bS s)/\l=(bS s).length:=by cases h;exact⟨_,rfl,rfl,rfl⟩
theorem Rl.ptr_inv {h o:Nat} (x:Rl ρ (.ptr h o) V):∃l,ρ h=some l/\V = .pointer (some ⟨l.b,l.off+o,none⟩):=by cases x with|ptr o a=>exact⟨_,a,rfl⟩
theorem Rl.sl_inv {h o n a:Nat} (x:Rl ρ (.sl h o n a) V):∃l cap A,ρ h=some l/\V = .slice (some A) n cap/\n<=cap/\(cap=0\/(A=⟨l.b,l.off+o,none⟩/\l.off+o+cap*a<=l.size)):=by
 cases x with|sl e d c=>exact⟨_,_,_,e,rfl,d,c⟩
theorem Rl.snil_inv (h:Rl ρ .snil V):V = .slice none 0 0:=by cases h;rfl
theorem Rl.map_inv {h:Nat} (x:Rl ρ (.map h) V):∃l,ρ h=some l/\V = .map (some l.b):=by cases x with|map a=>exact⟨_,a,rfl⟩
theorem Rl.fn_inv {f:Nat} {c d:V6 GV} (x:Rl ρ (.fn f c d) V):∃a b,V = .func (.func f) a.toArray b.toArray/\qE ρ c a/\qE ρ d b:=by
 cases x with|fn f e g h i=>exact⟨_,_,rfl,⟨e,g⟩,⟨h,i⟩⟩
theorem Rl.agg_inv {b:V6 GV} (x:Rl ρ (.agg b) V):∃a,V = .agg a.toArray/\qE ρ b a/\∀v∈a,one v=true:=by
 cases x with|agg c d e=>exact⟨_,rfl,⟨c,d⟩,e⟩
theorem Rl.tup_inv {a:V6 GV} (x:Rl ρ (.tup a) V):∃b,V = .tuple b.toArray/\qE ρ a b:=by
 cases x with|tup c d=>exact⟨_,rfl,⟨c,d⟩⟩
theorem Rl.opn_inv {h:Nat} (x:Rl ρ (.opn h) V):∃l,ρ h=some l/\l.x = .cells #[V] 0 (0,0):=by cases x with|opn v a b=>exact⟨_,a,b⟩
theorem Rl.un_inv (x:Rl ρ .un V):V=undef:=by cases x;rfl
theorem Rl.fn' {f:Nat} {e g:V6 GV} {a b:V6 V0} (c:qE ρ e a) (d:qE ρ g b):Rl ρ (.fn f e g) (.func (.func f) a.toArray b.toArray):= .fn f c.len c.at' d.len d.at'
theorem Ib {cs:V6 GV} {vs:V6 V0} (h:qE ρ cs vs) (a:∀v∈vs,one v=true):Rl ρ (.agg cs) (.agg vs.toArray):= .agg h.len h.at' a
theorem KZ {a:V6 GV} {b:V6 V0} (h:qE ρ a b):Rl ρ (.tup a) (.tuple b.toArray):= .tup h.len h.at'
theorem Rl.cells {g:GV} {cs:V6 GV} (h:Rl ρ g V) (a:g.cells=some cs):∃vs,V.cells=vs.toArray/\qE ρ cs vs/\∀v∈vs,one v=true:=by
 have b:∀g V,Rl ρ g V->one V=true->∃vs,#[V]=vs.toArray/\qE ρ [g] vs/\∀v∈vs,one v=true:=λg V h c=>⟨[V],rfl,.cons h .nil,λv e=>by simp at e;subst e;exact c⟩
 have f:=h;cases h with
 |agg c d i=>cases a;exact⟨_,rfl,⟨c,d⟩,i⟩
 |tup c d=>cases a
 |un=>cases a
 |bad v=>cases a
 |opn v j k=>cases a
 |_=>cases a;exact b _ _ f Z
end
theorem Qy {ρ:eZ} {v:V0} {g:GV} (h:YG v=some g):Rl ρ g v/\one v=true:=by
 unfold YG at h;split at h
 .cases h;exact⟨.int _ _,rfl⟩
 .cases h;exact⟨.bool _,rfl⟩
 .cases h;exact⟨.snil,rfl⟩
 .cases h;exact⟨.pnil,rfl⟩
 .cases h;exact⟨.fnil,rfl⟩
 .cases h;exact⟨.inil,rfl⟩
 .simp only[yS]at h;cases h;exact⟨.str _,rfl⟩
 .cases h
theorem Xh {ρ:eZ}:∀{f:V6 V0} {e:V6 GV},afm f=some e->qE ρ e f/\∀v∈f,one v=true
 | [],e,h=>by cases h;exact⟨.nil,λv h=>by simp at h⟩
 | v :: f, e, h => by
  obtain⟨x,j,k⟩:=aE.1 (show ob (YG v) (λx=>ob (afm f) λi=>some (x::i))=some e from h);obtain⟨i,l,m⟩:=aE.1 k;cases m;obtain⟨a,b⟩:=Xh l;obtain⟨c,d⟩:=Qy (ρ:=ρ) j;exact⟨.cons c a,λu g=>by
   rcases zAo.1 g with rfl|g
   .exact d
   .exact b u g⟩
theorem Vr {ρ:eZ} {v:V0} {g:GV} (h:ofV v=some g):Rl ρ g v:=by
 unfold ofV at h;split at h
 .obtain⟨e,c,d⟩:=aE.1 h;cases d;obtain⟨a,b⟩:=Xh (ρ:=ρ) c;have:=Ib a b;simpa using this
 .exact(Qy h).1
theorem Xp {ρ:eZ} {s:Sem V0} {g:GV} (h:JQ s=some g):∃v,Rl ρ g v/\s = .pure v:=by
 unfold JQ at h;split at h
 .exact⟨_,(Qy h).1,rfl⟩
 .cases h
structure mC (ρ:eZ) (n:Nat) (σ:GF) (a:Act):Prop where
 defers:a.defers=[]
 size:a.tmps.size=n
 slot:∀t g,GQ σ t=some g->Rl ρ g (a.eval (.tmp t))
theorem mC.le {c b:eZ} (f:c.le b) {n:Nat} {d:GF} {a:Act} (h:mC c n d a):mC b n d a:=⟨h.defers,h.size,λt g e=>(h.slot t g e).le f⟩
theorem mC.put {c:eZ} {n:Nat} {f:GF} {a:Act} (h:mC c n f a) {d:Nat} (i:d<n) {g:GV} {v:V0} (j:Rl c g v):mC c n ((d,g)::f) (a.put (some d) v):=
 ⟨h.defers,by simp[Act.put,h.size],λt u b=>by
  rw[Ci]at b;by_cases e:t=d
  .subst e;rw[if_pos Z]at b;cases b;have:(a.put (some t) v).eval (.tmp t)=v:=by simp[Act.put,Act.eval,h.size,i]
   rw[this];exact j
  .rw[if_neg e]at b;have:(a.put (some d) v).eval (.tmp t)=a.eval (.tmp t):=by
    simp only[Act.put,Act.eval,Array.getD_eq_getD_getElem?];rw[zB2 (Ne.symm e)]
   rw[this];exact h.slot t u b⟩
section
variable {ρ:eZ} {n:Nat} {σ:GF} {a:Act}
theorem cM (F:mC ρ n σ a) {x:V3} {g:GV} (h:lF σ x=some g):Rl ρ g (a.eval x):=by
 cases x with
 |tmp t=>exact F.slot t g h
 |const v=>exact Vr h
 |global g=>cases h
 |func f=>cases h;exact Rl.fn' .nil .nil
theorem Gw (F:mC ρ n σ a):∀{b:V6 V3} {gs:V6 GV},HC σ b=some gs->qE ρ gs (b.map a.eval)
 | [],gs,h=>by cases h;exact .nil
 |x::b,gs,h=>by
  obtain⟨v,d,e⟩:=aE.1 (show ob (lF σ x) (λv=>ob (HC σ b) λc=>some (v::c))=some gs from h);obtain⟨c,f,g⟩:=aE.1 e;cases g;exact .cons (cM F d) (Gw F f)
def RlP (ρ:eZ) (b:V6 (Nat×GV)) (c:V6 (Nat×V0)):Prop:=b.map (·.1)=c.map (·.1)/\qE ρ (b.map (·.2)) (c.map (·.2))
theorem DR (F:mC ρ n σ a):∀{b:V6 (Nat×V3)} {gs:V6 (Nat×GV)},wD σ b=some gs->RlP ρ gs (b.map λp=>(p.1,a.eval p.2))
 | [],gs,h=>by cases h;exact⟨rfl,.nil⟩
 |x::b,gs,h=>by
  obtain⟨v,f,g⟩:=aE.1 (show ob (lF σ x.2) (λv=>ob (wD σ b) λc=>some ((x.1,v)::c))=some gs from h);obtain⟨c,i,j⟩:=aE.1 g;cases j;obtain⟨d,e⟩:=DR F i;exact⟨by simp only[zBd,d],.cons (cM F f) e⟩
end
def Ee (P:Program) (ρ:eZ) (s:Sem V0) (g:GV):Prop:=∃v,Rl ρ g v/\∀w,s.run P w = .ok v w
structure gA (P:Program) (tb:TB):Prop where
 tab:∀{T d},tb T=some d->tM P T d
 /-- structs of leaves may be compared -/
 eqs:∀{T fs},Oj T=true->sK tb T=some fs->zE tb fs=true->P.stoodInHeld T=false/\∀f∈fs,f.name ≠ "_"
noncomputable def ajr (P:Program) (b:TB):V4:=(List.range 512).all λT=>bif Oj T then(Option.casesOn (motive:=λ_=>V4) (sK b T) true λa=>bif zE b a then(!P.stoodInHeld T&&a.all λf=> !(f.name == "_"))else true)else true
theorem ahM {P:Program} {c:TB} (h:ajr P c=true) {T:Nat} {b:V6 Field} (a:Oj T=true) (i:sK c T=some b) (j:zE c b=true):P.stoodInHeld T=false/\∀f∈b,f.name ≠ "_":=by
 have g:T<512:=by
  obtain⟨_,h⟩:=bV.1 (show(bif Nat.blt 31 T then(bif Nat.blt T 512 then some ()else none)else none)=some () by
   unfold Oj at a;cases e:Nat.blt 31 T<;>rw[e]at a
   .cases a
   .rw[cond_true]at a;rw[a];rfl)
  obtain⟨h,_⟩:=bV.1 h;simpa [zAy]using h
 have:=zA7.1 h T (zAi.2 g);rw[a,cond_true,i]at this;have this:(bif zE c b then(!P.stoodInHeld T&&b.all λf=> !(f.name == "_"))else true)=true:=this;rw[j,cond_true,zA4]at this;exact⟨by simpa using this.1,λf d=>by simpa using zA7.1 this.2 f d⟩
section
variable {P:Program} {tb:TB} {ρ:eZ} {V U W:V0} {v u t g:GV}
theorem VR {k:IntKind} {z:Int} {g:GV} (h:gw k z=some g):g = .int k (k.wrap z):=by
  unfold gw at h;rw[Oo]at h;cases b:ago k with
  | true =>
    rw[b]at h;obtain⟨c,d⟩:=bV.1 h;cases d;have e:k = .i64:=by cases k<;>first|rfl|cases b
    subst e;have : -9223372036854775808<=z/\z<=9223372036854775807:=by
      cases z with
      | ofNat a =>
          have : a < 9223372036854775808 := by simpa [abg, zAy] using c
          simp only[Int.ofNat_eq_natCast];omega
      | negSucc a =>
          have : a < 9223372036854775808 := by simpa [abg, zAy] using c
          omega
    rw[Pb this.1 this.2]
  | false =>
    rw[b]at h;simp only[cond_false,Oo]at h;cases h;rfl
theorem adN {l:BinOp} {k:IntKind} {a b:Int} {T:V9} (i:Lo l=false) (h:ajf l k a b=some g):∃v,Rl ρ g v/\binOp l T (.int k a) (.int k b) = .pure v:=by
 have j:∀{p:Prop} [Decidable p] {c:V4},c=decide p->fb c=some g->Rl ρ g (.bool (decide p)):=λe h=>by rw[Mo]at h;cases h;rw[e];exact .bool _
 have d:∀f,Lo f=false->JQ (binOp f 0 (.int k a) (.int k b))=some g->∃v,Rl ρ g v/\binOp f T (.int k a) (.int k b) = .pure v:=λf m h=>by
  obtain⟨v,n,o⟩:=Xp (ρ:=ρ) h;refine⟨v,n,?_⟩
  rw[<-o];cases f<;>first|rfl|cases m
 cases l with
 |add=>exact⟨_,by rw[VR h];exact .int _ _,by simp[binOp,Op.intArith];rfl⟩
 |sub=>exact⟨_,by rw[VR h];exact .int _ _,by simp[binOp,Op.intArith];rfl⟩
 |eql=>exact⟨.bool (decide (a=b)),j (Jt a b) h,by simp[binOp,Op.intCmp];rfl⟩
 |neq=>exact⟨.bool (decide (¬a=b)),j (by rw[Jt];simp) h,by simp[binOp,Op.intCmp];rfl⟩
 |lss=>exact⟨.bool (decide (a<b)),j (JE a b) h,by simp[binOp,Op.intCmp];rfl⟩
 |leq=>exact⟨.bool (decide (a<=b)),j (by rw[JE,<-decide_not];exact decide_eq_decide.2 V7) h,by simp[binOp,Op.intCmp];rfl⟩
 |gtr=>exact⟨.bool (decide (b<a)),j (JE b a) h,by simp[binOp,Op.intCmp];rfl⟩
 |geq=>exact⟨.bool (decide (b<=a)),j (by rw[JE,<-decide_not];exact decide_eq_decide.2 V7) h,by simp[binOp,Op.intCmp];rfl⟩
 |shl=>cases i
 |shr=>cases i
 |mul=>exact d .mul i h
 |quo=>exact d .quo i h
 |rem=>exact d .rem i h
 |and=>exact d .and i h
 |or=>exact d .or i h
 |xor=>exact d .xor i h
 |andNot=>exact d .andNot i h
end
theorem yM (b:UInt8) (l:V6 UInt8):mR (b::l)=b.toNat+256*mR l:=rfl
theorem Iq:∀{x y:V6 UInt8},x.length=y.length->mR x=mR y->x=y
 | [],[],_,_=>rfl
 | [],_::_,h,_=>by simp at h
 |_::_,[],h,_=>by simp at h
 |a::x,b::y,h,e=>by
  rw[yM,yM]at e;have f:=a.toNat_lt;have g:=b.toNat_lt;have c:a.toNat=b.toNat:=V7
  have d:mR x=mR y:=V7
  rw[UInt8.toNat_inj.1 c,Iq (by simpa using h) d]
theorem Jr:∀(x:V6 UInt8) (n:Nat),mR x / 256^n=mR (x.drop n)
 |x,0=>by simp
 | [],n+1=>by simp[mR]
 |b::x,n+1=>by
  rw[yM,List.drop_succ_cons,<-Jr x n,Nat.pow_succ,Nat.mul_comm (256^n) 256,<-Nat.div_div_eq_div_mul];have:=b.toNat_lt;congr 1;omega
theorem Oi:∀(x:V6 UInt8) (n:Nat),mR x%256^n=mR (x.take n)
 |x,0=>by simp[mR,Nat.mod_one]
 | [],n+1=>by simp[mR]
 |b::x,n+1=>by
  rw[yM,List.take_succ_cons,yM,<-Oi x n,Nat.pow_succ,Nat.mul_comm (256^n) 256,Nat.mod_mul];have d:=b.toNat_lt;have a:(b.toNat+256*mR x)%256=b.toNat:=V7
  have c:(b.toNat+256*mR x) / 256=mR x:=V7
  rw[a,c]
theorem akh (n l:Nat):Nat.shiftRight n (Nat.mul 8 l)=n / 256^l:=by
 show n >>> (8*l)=_;rw[Nat.shiftRight_eq_div_pow,Nat.pow_mul]
theorem ajY (k:Nat):Nat.pow 2 (Nat.mul 8 k)=256^k:=by
 show 2^(8*k)=_;rw[Nat.pow_mul]
theorem aaI (x:V6 UInt8) (l k:Nat):Nat.mod (Nat.shiftRight (mR x) (Nat.mul 8 l)) (Nat.pow 2 (Nat.mul 8 k))=mR ((x.drop l).take k):=by
 rw[akh,ajY];show mR x / 256^l%256^k=_;rw[Jr,Oi]
theorem WK (x:V6 UInt8) (i:Nat) (h:i<x.length):Nat.mod (Nat.shiftRight (mR x) (Nat.mul 8 i)) 256=(x[i]).toNat:=by
 rw[akh];show mR x / 256^i%256=_;rw[Jr,List.drop_eq_getElem_cons h,yM];have:=(x[i]).toNat_lt;omega
theorem XZ (s:ByteArray) (i:Nat):s[i]? = (bS s)[i]?:=by
 unfold bS;by_cases h:i<s.size
 .rw[getElem?_pos s i h,zAl,Array.getElem?_eq_getElem (by simpa using h)];rfl
 .rw[getElem?_neg s i h];rw[zAp (by have:=Lib.size_eq s;omega)]
section
variable {P:Program} {tb:TB} {ρ:eZ} {V U W:V0} {v u t g:GV}
theorem aje (a b:ByteArray):(a==b)=(a.toList==b.toList):=by
 rw[Lib.toList_data,Lib.toList_data];obtain⟨⟨x⟩⟩:=a;obtain⟨⟨y⟩⟩:=b;have:((⟨⟨x⟩⟩:ByteArray)==⟨⟨y⟩⟩)=((⟨x⟩:Array UInt8)==⟨y⟩):=rfl;rw[this];simp
theorem ahL {a b:Nat×Nat} {s r:ByteArray} (f:a.1=mR (bS s)) (h:a.2=(bS s).length) (i:b.1=mR (bS r)) (j:b.2=(bS r).length):Uf a b=(s.toList==r.toList):=by
 rw[Lib.toList_data,Lib.toList_data];unfold Uf;rw[f,h,i,j];by_cases d:(bS s).length=(bS r).length
 .have k:Nat.beq (bS r).length (bS r).length=true:=V8
  rw[d,k,cond_true];by_cases c:mR (bS s)=mR (bS r)
  .have:=Iq d c;unfold bS at this;rw[c,this];simp
  .rw[oC c];symm;rw[beq_eq_false_iff_ne];intro e;exact c (by unfold bS;rw[e])
 .rw[oC d,cond_false];symm;rw[beq_eq_false_iff_ne];intro e;exact d (by unfold bS;rw[e])
theorem YA (z:gA P tb) {T:V9} {t:Ty} (C:tb T=some t) {q:V4} (e:Rl ρ v V) (d:Rl ρ u U) (h:Vj t v u=some q) (m:Nat) (w:V2):(Op.equalIn (m+1) T V U).run P w = .ok q w:=by
 have c:=(z.tab C).run_und w;unfold Vj at h;cases j:v.asI with
 |some a=>
  rw[j]at h;obtain⟨b,f,h⟩:=aE.1 h;obtain⟨k,B,h⟩:=aE.1 h;obtain⟨l,h⟩:=bV.1 h;cases h;rw[nK j]at e;rw[nK f]at d;rw[e.int_inv,d.int_inv,<-Ju l];rw[HP B]at c;unfold Op.equalIn;rw[Jt];simp[c];rfl
 | none =>
  rw[j]at h;simp only at h;cases n:v.asStr with
  |some a=>
   rw[n]at h;obtain⟨b,f,h⟩:=aE.1 h;obtain⟨i,h⟩:=bV.1 h;cases h;rw[qQ n]at e;rw[qQ f]at d;obtain⟨s,rfl,o,p⟩:=e.str_inv;obtain⟨r,rfl,x,y⟩:=d.str_inv;rw[CJ i]at c;rw[ahL o p x y,<-aje];unfold Op.equalIn;simp[c]
  |none=>
   rw[n]at h;obtain⟨a,A,h⟩:=aE.1 (show ob v.asB _=some q from h);obtain⟨b,f,h⟩:=aE.1 h;obtain⟨i,h⟩:=bV.1 h;cases h;rw[Do A]at e;rw[Do f]at d;rw[e.bool_inv,d.bool_inv];rw[VJ i]at c;unfold Op.equalIn;rw[HA];simp[c]
theorem Ox {t:Ty} (h:Hf t=true):(∃k,t.desc = .int k)\/t.desc = .string\/t.desc = .bool:=by
 unfold Hf at h;cases a:tdB t.desc with
 |true=>exact .inr (.inr (VJ a))
 | false =>
  rw[a]at h;cases c:KA t.desc with
  |true=>exact .inr (.inl (CJ c))
  |false=>
   rw[c]at h;cases b:tdI t.desc with
   |none=>rw[b]at h;cases h
   |some k=>exact .inl ⟨k,HP b⟩
theorem Ku {f:Field} {a:V6 Field} (h:zE tb (f::a)=true):∃t,tb f.type=some t/\Hf t=true/\zE tb a=true:=by
 have h:(Option.casesOn (motive:=λ_=>V4) (tb f.type) false λt=>bif Hf t then zE tb a else false)=true:=h;cases c:tb f.type with
 |none=>rw[c]at h;cases h
 |some t=>
  rw[c]at h;have h:(bif Hf t then zE tb a else false)=true:=h;cases b:Hf t with
  |false=>rw[b]at h;cases h
  |true=>rw[b]at h;exact⟨t,rfl,b,h⟩
theorem Tu (c:gA P tb) {T:V9} {t:Ty} (h:tb T=some t) (f:Hf t=true) {cs:Array V0} {b:Nat} {x:V0} (i:cs[b]? = some x) (w:V2):(part T cs b).run P w = .ok x w:=by
 have a:=(c.tab h).run_und w;have d:(isAgg T).run P w = .ok false w:=by
  unfold isAgg;rcases Ox f with⟨k,e⟩|e|e<;>rw[e]at a<;>simp[a]
 unfold part;simp[d,i]
theorem Ts (k:gA P tb) {cs n:V6 GV} {z s:V6 V0} (D:qE ρ cs z) (C:qE ρ n s) (m:Nat) (w:V2):∀{c:V6 Field} {q:V4},aeH tb cs n c=some q->zE tb c=true->(∀f∈c,f.name ≠ "_")->
  Sem.run P (forIn c ((none,()):V1 V4×Unit) λf __s=>if f.name = "_" then pure (ForInStep.yield (none,()))else do
   let __do_lift <-part f.type z.toArray f.offset;let __do_lift_1 <-part f.type s.toArray f.offset;let __do_lift <-Op.equalIn (m+1) f.type __do_lift __do_lift_1
   if __do_lift=false then pure (ForInStep.done (some false,()))else pure (ForInStep.yield (none,()))) w = .ok (if q then none else some false,()) w
 | [],q,h,_,_=>by
  have:q=true:=by have h:some true=some q:=h;cases h;rfl
  subst this;simp
 | f :: c, q, h, hl, hn => by
  obtain⟨t,l,h⟩:=aE.1 (show ob (tb f.type) _=some q from h);obtain⟨a,A,h⟩:=aE.1 h;obtain⟨b,B,h⟩:=aE.1 h;obtain⟨e,H,h⟩:=aE.1 h;obtain⟨M,j,d,o⟩:=Ku hl;rw[l]at j;cases j;rw[wG]at A B;obtain⟨x,J,p⟩:=D.get A;obtain⟨y,K,r⟩:=C.get B;have E:=Tu k l d (cs:=z.toArray) (by simpa using J) w;have F:=Tu k l d (cs:=s.toArray) (by simpa using K) w;have G:=YA k l p r H m w;have i:=hn f zAe;cases e with
  |false=>
   have:q=false:=by have h:some false=some q:=h;cases h;rfl
   subst this;simp[List.forIn_cons,i,E,F,G]
  |true=>
   have L:=Ts k D C m w (show aeH tb cs n c=some q from h) o λf I=>hn f (zAk _ I);simp[List.forIn_cons,i,E,F,G,L]
theorem Yi (f:gA P tb) {T:V9} {d:V6 Field} (r:Oj T=true) (b:sK tb T=some d) (p:zE tb d=true) {n o:V6 GV} {l j:V6 V0} (B:qE ρ n l) (A:qE ρ o j) {q:V4} (h:aeH tb n o d=some q) (w:V2):
  (Op.equal T (.agg l.toArray) (.agg j.toArray)).run P w = .ok q w:=by
 obtain⟨y,x⟩:=f.eqs r b p;obtain⟨t,z,e⟩:=aE.1 (show ob (tb T) _=some d from b);obtain⟨a,s,e⟩:=aE.1 e;cases e;have c:=(f.tab z).run_und w;rw[QY s]at c;obtain⟨a⟩:=a;have i:∀m,(Op.equalIn (m+1+1) T (.agg l.toArray) (.agg j.toArray)).run P w = .ok q w:=λm=>by
  have k:=Ts f B A m w h p x;unfold Op.equalIn;simp[c,y];simp only[]at k;rw[k];cases q<;>simp
 exact i 9998
theorem Js (b:gA P tb):∀(m:Nat) {T:V9} {t:Ty},tb T=some t->Hf t=true->P.eqGuardType (m+1) T=false:=λm T t d c=>by
 have a:=(b.tab d).und;unfold Program.eqGuardType;rcases Ox c with⟨k,e⟩|e|e<;>rw[e]at a<;>simp[a]
theorem Mm (p:gA P tb) {T:V9} {d:V6 Field} (k:sK tb T=some d) (s:zE tb d=true):P.eqGuardType P.depth T=false:=by
 obtain⟨t,w,e⟩:=aE.1 (show ob (tb T) _=some d from k);obtain⟨a,r,e⟩:=aE.1 e;cases e;have c:=(p.tab w).und;rw[QY r]at c;have o:∀m,P.eqGuardType (m+2) T=false:=λm=>by
  unfold Program.eqGuardType;rw[c];simp only;rw[Array.any_eq_false'];intro f b;have:f∈a.toList:=by simpa using b
  have n:∀(l:V6 Field),zE tb l=true->∀f∈l,∃t,tb f.type=some t/\Hf t=true:=by
   intro l
   induction l with
   |nil=>intro _ f b;cases b
   |cons x l y=>
    intro h f b;obtain⟨t,i,j,q⟩:=Ku h;rcases zAo.1 b with rfl|b
    .exact⟨t,i,j⟩
    .exact y q f b
  obtain⟨z,i,j⟩:=n _ s f this;simp[Js p m i j]
 unfold Program.depth;exact o _
theorem Yt (f:gA P tb) {e:BinOp} {T:V9} {d:V6 Field} (c:sK tb T=some d) (i:zE tb d=true) (x y:V3) (a b:Array V0) (w:V2):(eqGuard e T x y (.agg a) (.agg b)).run P w = .ok () w:=by
 have h:=Mm f c i;unfold eqGuard;cases e<;>simp[h]
theorem Hx {d:BinOp} {T:V9} {q:V4} {V U:V0} {x y:V3} (f:∀w,(eqGuard d T x y V U).run P w = .ok () w) (e:∀w,(Op.equal T V U).run P w = .ok q w) (i:binOp .eql T V U=(do pure (.bool (<-Op.equal T V U)))) (j:binOp .neq T V U=(do pure (.bool (!(<-Op.equal T V U))))) (h:adM d q true=some g):
  Ee P ρ (do eqGuard d T x y V U;binOp d T V U) g:=by
 cases d with
 |eql=>exact⟨.bool q,by have c:fb (WL q true)=some g:=h;rw[Mo,HA]at c;cases c;cases q<;>exact .bool _,λw=>by have a:=f w;have b:=e w;rw[i];simp[a,b]⟩
 |neq=>exact⟨.bool (!q),by have c:fb (!WL q true)=some g:=h;rw[Mo,HA]at c;cases c;cases q<;>exact .bool _,λw=>by have a:=f w;have b:=e w;rw[j];simp[a,b]⟩
 |_=>cases h
theorem acR (m:gA P tb) {f:BinOp} {T:V9} (x y:V3) (c:Rl ρ v V) (j:Rl ρ u U) (h:acQ tb f T v u=some g):Ee P ρ (do eqGuard f T x y V U;binOp f T V U) g:=by
 unfold acQ at h;cases o:v.asA with
 |some K=>
  rw[o]at h;obtain⟨L,D,h⟩:=aE.1 (show ob u.asA _=some g from h);obtain⟨z,h⟩:=bV.1 h;obtain⟨M,d,h⟩:=aE.1 h;obtain⟨p,h⟩:=bV.1 h;obtain⟨q,F,h⟩:=aE.1 h;rw[LW o]at c;rw[LW D]at j;obtain⟨O,rfl,G,_⟩:=c.agg_inv;obtain⟨N,rfl,r,_⟩:=j.agg_inv;exact Hx (Yt m d p x y _ _) (Yi m z d p G r F) Z Z h
 | none =>
  rw[o]at h;obtain⟨J,h⟩:=bV.1 (show(bif u.isSnil then _ else none)=some g from h);obtain⟨n,i,h⟩:=aE.1 h;obtain⟨t,I,h⟩:=aE.1 h;obtain⟨e,E,h⟩:=aE.1 h;rw[yO J]at j;have B:=j.snil_inv;subst B;have b:=λw=>(m.tab I).run_und w;rw[HQ E]at b;cases a:v.isSnil with
  | true =>
   rw[a]at h;rw[yO a]at c;have C:=c.snil_inv;subst C;refine Hx (λw=> ?_) (q:=true) (λw=> ?_) Z Z h
   .unfold eqGuard;cases f<;>simp
   .have:(Op.equalIn (9999+1) T (.slice none 0 0) (.slice none 0 0)).run P w = .ok true w:=by
     unfold Op.equalIn;simp[b w]
    exact this
  | false =>
   rw[a]at h;unfold aeO at i;rw[a]at i;obtain⟨s,H,i⟩:=aE.1 (show ob v.asS _=some n from i);rw[Dp H]at c;obtain⟨l,k,A,p,rfl,_,_⟩:=c.sl_inv;refine Hx (λw=> ?_) (q:=false) (λw=> ?_) Z Z h
   .unfold eqGuard;cases f<;>simp
   .have:(Op.equalIn (9999+1) T (.slice (some A) s.2.2.1 k) (.slice none 0 0)).run P w = .ok false w:=by
     unfold Op.equalIn;simp[b w]
    exact this
theorem Kq:∀(x y:V6 UInt8),mR (x++y)=mR x+256^x.length*mR y
 | [],y=>by simp[mR]
 |b::x,y=>by
  rw[List.cons_append,yM,yM,Kq x y,zA9,Nat.pow_succ];rw[Nat.mul_add,Nat.mul_comm (256^x.length) 256,Nat.mul_assoc];omega
theorem WF {a b:Nat×Nat} {s r:ByteArray} (f:a.1=mR (bS s)) (c:a.2=(bS s).length) (j:b.1=mR (bS r)) (k:b.2=(bS r).length) (h:ahw a b=some g) (w:V2):Rl ρ g (.string (s++r))/\(Op.stringOp .add s r).run P w = .ok (.string (s++r)) w:=by
 unfold ahw at h;obtain⟨e,h⟩:=bV.1 h;rw[yS,yS]at h;cases h;have e:a.2+b.2<16777216:=by simpa [zAy]using e
 have d:bS (s++r)=bS s++bS r:=by
  unfold bS;obtain⟨⟨x⟩⟩:=s;obtain⟨⟨y⟩⟩:=r;simp
 constructor
 .have l:Nat.add a.1 (Nat.mul (Nat.pow 2 (Nat.mul 8 a.2)) b.1)=mR (bS (s++r)):=by
   rw[d,Kq,ajY,f,c,j];rfl
  have m:Nat.add a.2 b.2=(bS (s++r)).length:=by rw[d,zA5,c,k];rfl
  rw[l,m];exact .str _
 .have B:(s.size:Int)+(r.size:Int)<=9223372036854775807:=by
   have o:=Lib.size_eq s;have p:=Lib.size_eq r;have q:(bS s).length=s.data.size:=by unfold bS;simp
   have z:(bS r).length=r.data.size:=by unfold bS;simp
   have A:s.data.toList.length=s.data.size:=V8
   have i:r.data.toList.length=r.data.size:=V8
   omega
  have n:¬((((s.size+r.size:Nat)):Int)>IntKind.i64.max):=by
   show¬((((s.size+r.size:Nat)):Int)>9223372036854775807);omega
  unfold Op.stringOp;simp only[];rw[if_neg n];rfl
theorem Xy (S:gA P tb) {i:BinOp} {T:V9} (x y:V3) (B:Rl ρ v V) (A:Rl ρ u U) (h:Bn tb i T v u=some g):Ee P ρ (do eqGuard i T x y V U;binOp i T V U) g:=by
 unfold Bn at h;cases hi:v.asI with
 | some a =>
  rw[hi]at h;obtain⟨b,C,h⟩:=aE.1 h;rw[nK hi]at B;rw[nK C]at A;rw[B.int_inv,A.int_inv];have hg:∀w,(eqGuard i T x y (.int a.1 a.2) (.int b.1 b.2)).run P w = .ok () w:=λw=>kO w;cases M:Lo i with
  |true=>
   rw[M]at h;obtain⟨z,j,l⟩:=Xp (ρ:=ρ) h;have e:binOp i T (.int a.1 a.2) (.int b.1 b.2)=binOp i 0 (.int a.1 a.2) (.int b.1 b.2):=by cases i<;>first|rfl|cases M
   exact⟨z,j,λw=>by rw[e,l];simp[hg w]⟩
  |false=>
   rw[M]at h;simp only[cond_false]at h;obtain⟨K,h⟩:=bV.1 h;have K:=Ju K;obtain⟨z,j,l⟩:=adN (ρ:=ρ) (T:=T) M h;exact⟨z,j,λw=>by rw[<-K,l];have:=hg w;rw[<-K]at this;simp[this]⟩
 | none =>
  rw[hi]at h;simp only at h;cases q:v.asStr with
  | some a =>
   rw[q]at h;obtain⟨b,C,h⟩:=aE.1 h;rw[qQ q]at B;rw[qQ C]at A;obtain⟨s,rfl,D,E⟩:=B.str_inv;obtain⟨r,rfl,O,Q⟩:=A.str_inv;have o:Uf a b=(s.toList==r.toList):=by
    rw[Lib.toList_data,Lib.toList_data];unfold Uf;rw[D,E,O,Q];by_cases L:(bS s).length=(bS r).length
    .have C:Nat.beq (bS r).length (bS r).length=true:=V8
     rw[L,C,cond_true];by_cases J:mR (bS s)=mR (bS r)
     .have:=Iq L J;unfold bS at this;rw[J,this];simp
     .rw[oC J];symm;rw[beq_eq_false_iff_ne];intro hh;exact J (by unfold bS;rw[hh])
    .rw[oC L,cond_false];symm;rw[beq_eq_false_iff_ne];intro hh;exact L (by unfold bS;rw[hh])
   have d:∀w,(eqGuard i T x y (.string s) (.string r)).run P w = .ok () w:=λw=>by unfold eqGuard;cases i<;>simp
   have f:∀c:V4,fb c=some g->Rl ρ g (.bool c):=λc hc=>by rw[Mo]at hc;cases hc;exact .bool _
   cases i with
   |eql=>exact⟨_,f _ h,λw=>by rw[o];have:=d w;simp[this,binOp,Op.stringOp]⟩
   |neq=>exact⟨_,f _ h,λw=>by rw[o];have:=d w;simp[this,binOp,Op.stringOp]⟩
   |add=>exact⟨_,(WF (P:=P) D E O Q h default).1,λw=>by have:=d w;have k:=(WF (ρ:=ρ) (P:=P) D E O Q h w).2;simp only[Sem.run_bind,this,Result.andThen_ok,binOp,k]⟩
   |_=>cases h
  | none =>
   rw[q]at h;simp only at h;cases X:v.asB with
   | none =>
    rw[X]at h;simp only at h;cases j:v.isInil with
    |false=>rw[j]at h;exact acR S x y B A h
    |true=>
    rw[j]at h;have n:=h;clear h;obtain⟨l,h⟩:=bV.1 (show(bif u.isInil then _ else none)=some g from n);clear n;obtain⟨t,ht,n⟩:=aE.1 h;clear h;obtain⟨F,p⟩:=bV.1 n;clear n;have D:v = .inil:=by cases v<;>first|rfl|cases j
    have E:u = .inil:=by cases u<;>first|rfl|cases l
    subst D;subst E;cases B;cases A;obtain⟨N,H,h0⟩:∃N,t.desc = .interface N/\N.size=0:=by
     cases hq:t.desc<;>rw[hq]at F<;>first|(exact⟨_,rfl,zA6 F⟩)|cases F
    have I:∀w:V2,_:=λw=>(S.tab ht).run_und w;have R:N.isEmpty=true:=by simp[Array.isEmpty,h0]
    have Y:∀w,(Op.eqGuardIn Op.maxDepth T .nilIface .nilIface).run P w = .ok false w:=λw=>by
     have f:∀m:Nat,(Op.eqGuardIn (m+1) T .nilIface .nilIface).run P w = .ok false w:=by
      intro m;unfold Op.eqGuardIn;simp[I w,H,R]
     exact f 9999
    have G:∀w,(Op.equal T .nilIface .nilIface).run P w = .ok true w:=λw=>by
     have f:∀m:Nat,(Op.equalIn (m+1) T .nilIface .nilIface).run P w = .ok true w:=by
      intro m;unfold Op.equalIn;simp[I w,H]
     exact f 9999
    have d:∀w,(eqGuard i T x y .nilIface .nilIface).run P w = .ok () w:=λw=>by
     unfold eqGuard;cases i<;>simp[Y w]
     all_goals (split<;>simp)
    cases i with
    |eql=>cases p;exact⟨.bool true,.bool _,λw=>by have j:=d w;have l:=G w;simp[j,binOp,l]⟩
    |neq=>cases p;exact⟨.bool false,.bool _,λw=>by have j:=d w;have l:=G w;simp[j,binOp,l]⟩
    |_=>cases p
   | some a =>
    rw[X]at h;simp only at h;obtain⟨b,C,h⟩:=aE.1 h;obtain⟨t,ht,h⟩:=aE.1 h;obtain⟨F,h⟩:=bV.1 h;rw[Do X]at B;rw[Do C]at A;rw[B.bool_inv,A.bool_inv];have d:∀w,(eqGuard i T x y (.bool a) (.bool b)).run P w = .ok () w:=λw=>by unfold eqGuard;cases i<;>simp
    have o:∀w,(Op.equal T (.bool a) (.bool b)).run P w = .ok (a==b) w:=λw=>by
     have A:=(S.tab ht).run_und w;rw[VJ F]at A;have f:∀m:Nat,(Op.equalIn (m+1) T (.bool a) (.bool b)).run P w = .ok (a==b) w:=by
      intro m;unfold Op.equalIn;simp[A]
     exact f 9999
    cases i with
    |eql=>exact⟨.bool (a==b),by have n:fb (WL a b)=some g:=h;rw[Mo,HA]at n;cases n;exact .bool _,λw=>by have j:=d w;have l:=o w;simp[j,binOp,l]⟩
    |neq=>exact⟨.bool (!(a==b)),by have n:fb (!WL a b)=some g:=h;rw[Mo,HA]at n;cases n;exact .bool _,λw=>by have j:=d w;have l:=o w;simp[j,binOp,l]⟩
    |_=>cases h
theorem ac_ {d:UnOp} (b:Rl ρ v V) (h:vUn d v=some g):Ee P ρ (Op.unary d V) g:=by
 cases d with
 |neg=>
  obtain⟨a,c,h⟩:=aE.1 (show ob v.asI _=some g from h);rw[nK c]at b;rw[b.int_inv,VR h];exact⟨_,.int _ _,λw=>by simp[Op.unary,Op.intArith]⟩
 |not=>
  obtain⟨a,c,h⟩:=aE.1 (show ob v.asB _=some g from h);rw[Do c]at b;rw[b.bool_inv];rw[Mo]at h;cases h;exact⟨_,.bool _,λw=>by simp[Op.unary]⟩
 |_=>cases h
theorem TN (e:gA P tb) {S D:V9} (f:Rl ρ v V) (h:acS tb S D v=some g):Ee P ρ (convert S D V) g:=by
 obtain⟨a,i,h⟩:=aE.1 (show ob v.asI _=some g from h);obtain⟨s,l,h⟩:=aE.1 h;obtain⟨n,b,h⟩:=aE.1 h;obtain⟨t,m,h⟩:=aE.1 h;obtain⟨k,j,h⟩:=aE.1 h;rw[Oo]at h;cases h;rw[nK i]at f;rw[f.int_inv];refine⟨_,.int _ _,λw=> ?_⟩
 have c:=(e.tab l).run_und w;have d:=(e.tab m).run_und w;rw[HP b]at c;rw[HP j]at d;simp[convert,c,d,Conv.intToInt]
theorem SX (d:Rl ρ v V) (h:v.nilck=some g):g=v/\∀(o:V5) (x:V3) (a:V3->V0),o.op = .nilCheck x->a x=V->∀w,(execOp a o).run P w = .ok (.value V) w:=by
 cases d with
 |ptr e m=>cases h;exact⟨rfl,λo x a b c w=>by simp[execOp,b,c]⟩
 |fn f i j k l=>cases h;exact⟨rfl,λo x a b c w=>by simp[execOp,b,c]⟩
 |_=>cases h
theorem Kr (c:gA P tb) {T:V9} {b:V6 Field} (h:sK tb T=some b):∃d,tM P T d/\d.desc = .struct b.toArray:=by
 obtain⟨t,f,h⟩:=aE.1 (show ob (tb T) _=some b from h);obtain⟨a,e,h⟩:=aE.1 h;cases h;exact⟨t,c.tab f,by rw[QY e]⟩
theorem OV (m:gA P tb) {T:V9} {f:Nat} (o:Rl ρ v V) (h:Ke tb T f v=some g):Ee P ρ (Instr.fieldAt T V f) g:=by
 obtain⟨p,y,h⟩:=aE.1 (show ob v.asP _=some g from h);obtain⟨A,a,h⟩:=aE.1 h;obtain⟨q,n,h⟩:=aE.1 h;obtain⟨z,i,h⟩:=aE.1 h;obtain⟨j,h⟩:=lE.1 h;rw[yS]at h;cases h;rw[Fu y]at o;obtain⟨l,x,rfl⟩:=o.ptr_inv;obtain⟨d,r,s⟩:=Kr m a;rw[wG]at n;refine⟨_,.ptr _ x,λw=> ?_⟩
 have k:=r.run_und w;rw[s]at k;have c:z.size≠0:=λe=>by rw[e]at j;cases j
 have e:l.off+(p.2+q.offset)=l.off+p.2+q.offset:=V7
 show(Instr.fieldAt T (.pointer (some ⟨l.b,l.off+p.2,none⟩)) f).run P w = .ok (.pointer (some ⟨l.b,l.off+(p.2+q.offset),none⟩)) w;rw[e];simp[Instr.fieldAt,k,n,Instr.sureAddr,fieldPlace,(m.tab i).run_size w,c,eM]
theorem Vq (n:gA P tb) {T:V9} {t:Ty} {f:V6 GV} {e:V6 V0} {o:Nat} (d:tM P T t) (c:qE ρ f e) (j:∀v∈e,one v=true) (h:Dc t f o=some g):Ee P ρ (part T e.toArray o) g:=by
 unfold Dc at h;cases b:yA t.desc with
 |true=>
  rw[b]at h;obtain⟨r,k,h⟩:=aE.1 h;cases h;obtain⟨p,rfl⟩:=QL k;refine⟨_,Ib (c.sub o t.size) (λv l=>j v (List.mem_of_mem_drop (List.mem_of_mem_take l))),λw=> ?_⟩
  have a:=d.run_agg w;have i:=d.run_size w;rw[b]at a;simp[part,a,i]
 |false=>
  rw[b]at h;rw[cond_false,wG]at h;obtain⟨x,m,c⟩:=c.get h;refine⟨x,c,λw=> ?_⟩
  have a:=d.run_agg w;rw[b]at a;simp[part,a,m]
theorem TT (b:gA P tb) {T:V9} {f:Nat} (k:Rl ρ v V) (h:acY tb T f v=some g):Ee P ρ (Instr.field T V f) g:=by
 obtain⟨s,m,h⟩:=aE.1 (show ob v.asA _=some g from h);obtain⟨y,c,h⟩:=aE.1 h;obtain⟨q,j,h⟩:=aE.1 h;obtain⟨z,e,h⟩:=aE.1 h;rw[LW m]at k;obtain⟨A,rfl,p,l⟩:=k.agg_inv;obtain⟨d,n,o⟩:=Kr b c;rw[wG]at j;obtain⟨x,r,a⟩:=Vq (T:=q.type) b (b.tab e) p l h;refine⟨x,r,λw=> ?_⟩
 have i:=n.run_und w;rw[o]at i;have:=a w;simp[Instr.field,i,j,asAgg,this]
theorem yL (c:gA P tb) {T:V9} {e:V9×Ty} (h:Bu tb T=some e):(∃d,tM P T d/\d.desc = .slice e.1)/\tM P e.1 e.2/\tb e.1=some e.2:=by
 obtain⟨t,i,h⟩:=aE.1 (show ob (tb T) _=some e from h);obtain⟨a,f,h⟩:=aE.1 h;obtain⟨j,b,h⟩:=aE.1 h;cases h;exact⟨⟨t,c.tab i,HQ f⟩,c.tab b,b⟩
theorem OW (q:gA P tb) {T:V9} (k:Rl ρ v V) (B:Rl ρ u U) (h:VP tb T v u=some g):Ee P ρ (Instr.indexAt T V U) g:=by
 obtain⟨n,G,h⟩:=aE.1 (show ob u.asI _=some g from h);obtain⟨i,F,h⟩:=aE.1 h;rw[nK G]at B;rw[B.int_inv,Hw F];cases y:v.asP with
 |some p=>
  rw[y]at h;rw[Fu y]at k;obtain⟨l,x,rfl⟩:=k.ptr_inv;obtain⟨t,I,h⟩:=aE.1 (show ob (tb T) _=some g from h);obtain⟨e,E,h⟩:=aE.1 h;obtain⟨f,c,h⟩:=aE.1 h;obtain⟨a,h⟩:=bV.1 h;rw[yS]at h;cases h;refine⟨_,.ptr _ x,λw=> ?_⟩
  have j:=(q.tab I).run_und w;rw[VI E]at j;have a:i<e.1:=by simpa [zAy]using a
  have o:l.off+(p.2+i*f.size)=l.off+p.2+i*f.size:=V7
  show(Instr.indexAt T (.pointer (some ⟨l.b,l.off+p.2,none⟩)) (.int n.1 i)).run P w = .ok (.pointer (some ⟨l.b,l.off+(p.2+i*f.size),none⟩)) w;rw[o];simp[Instr.indexAt,asIntOf,j,Instr.sureAddr,a,(q.tab c).run_size w,eM]
 |none=>
  rw[y]at h;obtain⟨s,H,h⟩:=aE.1 (show ob v.asS _=some g from h);rw[Dp H]at k;obtain⟨l,m,A,x,rfl,J,z⟩:=k.sl_inv;obtain⟨f,c,h⟩:=aE.1 (show ob (Bu tb T) _=some g from h);obtain⟨a,h⟩:=bV.1 h;rw[yS]at h;cases h;obtain⟨⟨d,D,r⟩,C,_⟩:=yL q c;have a:i<s.2.2.1:=by simpa [zAy]using a
  rcases z with z|⟨rfl,_⟩
  .omega
  refine⟨_,.ptr _ x,λw=> ?_⟩
  have j:=D.run_und w;rw[r]at j;have o:l.off+(s.2.1+i*f.2.size)=l.off+s.2.1+i*f.2.size:=V7
  show(Instr.indexAt T (.slice (some ⟨l.b,l.off+s.2.1,none⟩) s.2.2.1 m) (.int n.1 i)).run P w = .ok (.pointer (some ⟨l.b,l.off+(s.2.1+i*f.2.size),none⟩)) w;rw[o];simp[Instr.indexAt,asIntOf,j,a,C.run_size w,eM]
theorem acP (k:gA P tb) {T:V9} (e:Rl ρ v V) (d:Rl ρ u U) (h:vAt tb T v u=some g):Ee P ρ (Instr.index T V U) g:=by
 obtain⟨s,p,h⟩:=aE.1 (show ob v.asStr _=some g from h);obtain⟨n,o,h⟩:=aE.1 h;obtain⟨i,m,h⟩:=aE.1 h;obtain⟨t,q,h⟩:=aE.1 h;obtain⟨l,h⟩:=bV.1 h;obtain⟨a,h⟩:=bV.1 h;rw[yS]at h;cases h;rw[nK o]at d;rw[d.int_inv,Hw m];rw[qQ p]at e;obtain⟨r,rfl,f,j⟩:=e.str_inv;have a:i<(bS r).length:=by rw[<-j];simpa [zAy]using a
 rw[f,WK _ _ a];refine⟨_,.int _ _,λw=> ?_⟩
 have b:=(k.tab q).run_und w;rw[CJ l]at b;have c:=XZ r i;rw[zA0 a]at c;simp[Instr.index,asIntOf,b,c]
theorem XA {i:Nat} (b:Rl ρ v V) (h:aiJ i v=some g):Ee P ρ (Instr.extract V i) g:=by
 obtain⟨f,c,h⟩:=aE.1 (show ob v.asT _=some g from h);rw[agV c]at b;obtain⟨e,rfl,a⟩:=b.tup_inv;rw[wG]at h;obtain⟨x,d,a⟩:=a.get h;exact⟨x,a,λw=>by simp[Instr.extract,d]⟩
theorem XD {t1 t2 ty:V9} (j:Rl ρ v V) (i:Rl ρ u U) (h:TS v u=some g):Ee P ρ (Builtin.max_ #[t1,t2] ty #[V,U]) g:=by
 obtain⟨a,k,h⟩:=aE.1 (show ob v.asI _=some g from h);obtain⟨b,l,h⟩:=aE.1 h;obtain⟨f,h⟩:=bV.1 h;have f:=Ju f;have d:=j;have c:=i
 rw[nK k]at d;rw[nK l]at c;rw[JE]at h;by_cases e:a.2<b.2
 .rw[zAd e]at h;cases h;refine⟨U,i,λw=> ?_⟩
  rw[d.int_inv,c.int_inv,<-f];simp[Builtin.max_,Builtin.max2];omega
 .rw[zA8 e]at h;cases h;refine⟨V,j,λw=> ?_⟩
  rw[d.int_inv,c.int_inv,<-f];simp[Builtin.max_,Builtin.max2];omega
theorem XE {t1 t2 ty:V9} (j:Rl ρ v V) (i:Rl ρ u U) (h:acX v u=some g):Ee P ρ (Builtin.min_ #[t1,t2] ty #[V,U]) g:=by
 obtain⟨a,k,h⟩:=aE.1 (show ob v.asI _=some g from h);obtain⟨b,l,h⟩:=aE.1 h;obtain⟨f,h⟩:=bV.1 h;have f:=Ju f;have d:=j;have c:=i
 rw[nK k]at d;rw[nK l]at c;rw[JE]at h;by_cases e:b.2<a.2
 .rw[zAd e]at h;cases h;refine⟨U,i,λw=> ?_⟩
  rw[d.int_inv,c.int_inv,<-f];simp[Builtin.min_,Builtin.min2];omega
 .rw[zA8 e]at h;cases h;refine⟨V,j,λw=> ?_⟩
  rw[d.int_inv,c.int_inv,<-f];simp[Builtin.min_,Builtin.min2];omega
theorem Xz (c:gA P tb) {T ty:V9} (b:Rl ρ v V) (h:ako tb T v=some g):Ee P ρ (Builtin.cap_ #[T] ty #[V]) g:=by
 obtain⟨t,i,h⟩:=aE.1 (show ob (tb T) _=some g from h);obtain⟨e,f,h⟩:=aE.1 h;obtain⟨j,h⟩:=bV.1 h;cases h;rw[yO j]at b;have d:=b.snil_inv;subst d;have a:=λw=>(c.tab i).run_und w;rw[HQ f]at a;exact⟨_,.int _ _,λw=>by simp[Builtin.cap_,a w,goInt]⟩
theorem XC (d:gA P tb) {T ty:V9} (b:Rl ρ v V) (h:TP tb T v=some g):Ee P ρ (Builtin.len_ #[T] ty #[V]) g:=by
 obtain⟨t,e,h⟩:=aE.1 (show ob (tb T) _=some g from h);cases c:v.asStr with
 |some s=>
  rw[c]at h;obtain⟨o,h⟩:=bV.1 h;cases h;rw[qQ c]at b;obtain⟨r,rfl,p,m⟩:=b.str_inv;refine⟨_,.int _ _,λw=> ?_⟩
  have i:=(d.tab e).run_und w;rw[CJ o]at i;rw[m];have:r.size=(bS r).length:=Lib.size_eq r;simp[Builtin.len_,i,goInt,this]
 | none =>
  rw[c]at h;obtain⟨E,j,h⟩:=aE.1 (show ob (tdS t.desc) _=some g from h);obtain⟨n,a,h⟩:=aE.1 h;cases h;unfold aeO at a;cases f:v.isSnil with
  |true=>
   rw[f]at a;cases a;rw[yO f]at b;rw[b.snil_inv];exact⟨_,.int _ _,λw=>QE w (d.tab e) (HQ j) _ _ _ _⟩
  |false=>
   rw[f]at a;obtain⟨s,c,a⟩:=aE.1 (show ob v.asS _=some n from a);cases a;rw[Dp c]at b;obtain⟨l,k,A,y,rfl,x,q⟩:=b.sl_inv;exact⟨_,.int _ _,λw=>QE w (d.tab e) (HQ j) _ _ _ _⟩
end
theorem WO (a:Nat):∀(c:e_) (k:Nat) (b:Array V0),a+k+c.length<=b.size->
  ((c.zipIdx k).foldl (λb p=>b.setIfInBounds (a+p.2) p.1) b).size=b.size/\
  ∀i,((c.zipIdx k).foldl (λb p=>b.setIfInBounds (a+p.2) p.1) b)[i]? = if a+k<=i/\i<a+k+c.length then c[i - (a+k)]? else b[i]?
 | [],k,b,_=>⟨rfl,λi=>by rw[if_neg V8];rfl⟩
 | v :: c, k, b, h => by
  simp only[zA9]at h;simp only[List.zipIdx_cons,List.foldl_cons];obtain⟨f,g⟩:=WO a c (k+1) (b.setIfInBounds (a+k) v) Q1;refine⟨by rw[f];simp,λi=> ?_⟩
  rw[g i];by_cases e:i=a+k
  .subst e;rw[Q0,if_pos V8,zBc V7];simp
  .by_cases d:a+(k+1)<=i/\i<a+(k+1)+c.length
   .rw[if_pos d,if_pos Q1];have:i - (a+k)=(i - (a+(k+1)))+1:=V7
    rw[this,List.getElem?_cons_succ]
   .rw[if_neg d,if_neg Q1,zB2 (Ne.symm e)]
section
variable {P:Program} {tb:TB} {ρ:eZ} {V U W:V0} {v u t g:GV}
structure VW (ρ:eZ) (cs:List GV) (a:Array V0):Prop where
 r:qE ρ cs a.toList
 one:∀v∈a.toList,Go.Sx.one v=true
theorem Qc {a:Array V0} (h:∀v∈a.toList,one v=true) {i:Nat} {v:V0} (b:a[i]? = some v):one v=true:=h v (by
 rw[<-zAl]at b;exact zA3 b)
theorem Oq {f B l:V6 GV} {a:Array V0} {d A:Nat} {x:V0} (w:VW ρ f a) (L:Rl ρ g x) (h:g.cells=some l) (J:l.length=A) (H:A≠0) (K:Iu l d f=some B):
  (x.cells.size=A/\d+x.cells.size<=a.size)/\VW ρ B (x.cells.zipIdx.foldl (λf (c,j)=>f.setIfInBounds (d+j) c) a):=by
 obtain⟨q,e,o,I⟩:=L.cells h;obtain⟨E,N,O⟩:=Ln K;have s:l≠[]:=by intro e;subst e;exact H J.symm
 have E:=E s;have D:l.length=q.length:=o.len;have z:f.length=a.size:=by have:=w.r.len;simpa using this
 rw[e];have n:d+0+q.length<=a.size:=V7
 obtain⟨G,C⟩:=WO d q 0 a n;have F:(q.toArray.zipIdx.foldl (λf (c,j)=>f.setIfInBounds (d+j) c) a)=((q.zipIdx 0).foldl (λf p=>f.setIfInBounds (d+p.2) p.1) a):=by
  simp
 refine⟨⟨Q1,Q1⟩,?_⟩
 rw[F];refine⟨⟨by simp[G,N,z],λi b c m h=> ?_⟩,λy M=> ?_⟩
 .rw[O i]at m;rw[zAl,C i]at h;simp only[Nat.add_zero]at h;by_cases k:d<=i/\i<d+l.length
  .rw[if_pos k]at m;rw[Q3]at h;exact o.at' _ _ _ m h
  .rw[if_neg k]at m;rw[Q0]at h;exact w.r.at' i b c m (by rw[zAl];exact h)
 .obtain⟨i,k⟩:=List.mem_iff_getElem?.1 M;rw[zAl,C i]at k;split at k
  .exact I y (zA3 k)
  .exact Qc w.one k
theorem Gy {d:Nat}:∀{l:V6 (Nat×GV)} {b:V6 (Nat×V0)} {f c:V6 GV} {a:Array V0},RlP ρ l b->VW ρ f a->Jy d l f=some c->
  ∃j,Instr.fill (λi=>some (i*d,d)) a b=some j/\VW ρ c j
 | [],b,f,c,a,hp,hr,h=>by
  have:b=[]:=by have:=hp.1;simpa using this.symm
  subst this;cases h;exact⟨a,rfl,hr⟩
 | p :: l, b, f, c, a, hp, hr, h => by
  cases b with
  |nil=>have:=hp.1;simp at this
  |cons q b=>
   obtain⟨n,x⟩:=hp;simp only[zBd,List.cons.injEq]at n;obtain⟨y,H,r,A,B⟩:=x.of_cons;simp only[zBd,List.cons.injEq]at r;obtain⟨rfl,rfl⟩:=r;obtain⟨m,o,h⟩:=aE.1 (show ob p.2.cells (λm=>bif Nat.beq m.length d then(bif Nat.beq d 0 then none else ob (Iu m (Nat.mul p.1 d) f) (Jy d l))else none)=some c from h);obtain⟨D,h⟩:=bV.1 h;obtain⟨k,h⟩:=lE.1 h;obtain⟨F,C,h⟩:=aE.1 h;have k:d≠0:=λe=>by rw[e]at k;cases k
   obtain⟨⟨G,E⟩,w⟩:=Oq hr A o (zA6 D) k C;obtain⟨j,s,z⟩:=Gy ⟨n.2,B⟩ w h;refine⟨j,?_,z⟩
   have e:Nat.mul p.1 d=q.1*d:=by rw[<-n.1];rfl
   rw[e]at E w s;show Instr.fill _ a ((q.1,q.2)::b)=_;unfold Instr.fill;simp only;rw[if_neg (by simp only[ne_eq,zAx,zA1,not_or,zAw];omega)];exact s
theorem Ou {i:V6 (Nat×Nat)}:∀{l:V6 (Nat×GV)} {b:V6 (Nat×V0)} {d c:V6 GV} {a:Array V0},RlP ρ l b->VW ρ d a->UV i l d=some c->
  ∃j,Instr.fill (i.toArray[·]?) a b=some j/\VW ρ c j
 | [],b,d,c,a,hp,hr,h=>by
  have:b=[]:=by have:=hp.1;simpa using this.symm
  subst this;cases h;exact⟨a,rfl,hr⟩
 | p :: l, b, d, c, a, hp, hr, h => by
  cases b with
  |nil=>have:=hp.1;simp at this
  |cons q b=>
   obtain⟨n,w⟩:=hp;simp only[zBd,List.cons.injEq]at n;obtain⟨y,I,r,A,B⟩:=w.of_cons;simp only[zBd,List.cons.injEq]at r;obtain⟨rfl,rfl⟩:=r;obtain⟨s,f,h⟩:=aE.1 (show ob (Jg i p.1) (λq=>ob p.2.cells λm=>bif Nat.beq m.length q.2 then(bif Nat.beq q.2 0 then none else ob (Iu m q.1 d) (UV i l))else none)=some c from h);obtain⟨m,o,h⟩:=aE.1 h;obtain⟨D,h⟩:=bV.1 h;obtain⟨k,h⟩:=lE.1 h;obtain⟨F,C,h⟩:=aE.1 h;have k:s.2≠0:=λe=>by rw[e]at k;cases k
   obtain⟨⟨G,H⟩,E⟩:=Oq hr A o (zA6 D) k C;obtain⟨j,x,z⟩:=Ou ⟨n.2,B⟩ E h;refine⟨j,?_,z⟩
   rw[wG,n.1]at f;show Instr.fill _ a ((q.1,q.2)::b)=_;unfold Instr.fill;have:i.toArray[q.1]? = some s:=by simpa using f
   simp only[this];rw[if_neg (by simp only[ne_eq,zAx,zA1,not_or,zAw];omega)];exact x
theorem vR (f:gA P tb) {T:V9} {a:V6 GV} (h:DF tb T=some a):∃d,tb T=some d/\tM P T d/\VW ρ a d.zero.cells:=by
 obtain⟨d,b,h⟩:=aE.1 (show ob (tb T) _=some a from h);obtain⟨z,j,h⟩:=aE.1 h;obtain⟨k,e,i,c⟩:=(Vr (ρ:=ρ) j).cells h;exact⟨d,b,f.tab b,by rw[e];exact⟨i,c⟩⟩
theorem Nf (c:gA P tb):∀{b:V6 Field} {a:V6 (Nat×Nat)},QK tb b=some a->b.mapM (λf=>(P.info? f.type).map λi=>(f.offset,i.size))=some a
 | [],a,h=>by cases h;rfl
 |f::b,a,h=>by
  obtain⟨t,k,h⟩:=aE.1 (show ob (tb f.type) (λt=>ob (QK tb b) λr=>some ((f.offset,t.size)::r))=some a from h);obtain⟨r,e,h⟩:=aE.1 h;cases h;obtain⟨i,d,j,_,_⟩:=(c.tab k).info;simp[List.mapM_cons,d,j,Nf c e]
theorem OU (B:gA P tb) {T:V9} {l:V6 (Nat×GV)} {a:V6 (Nat×V0)} (L:RlP ρ l a) (h:VN tb T l=some g):Ee P ρ (Instr.build T a.toArray) g:=by
 obtain⟨t,M,h⟩:=aE.1 (show ob (tb T) _=some g from h);obtain⟨zc,R,h⟩:=aE.1 h;obtain⟨d,J,I,H⟩:=vR (ρ:=ρ) B R;rw[M]at J;cases J;obtain⟨i,K,X,_,c⟩:=I.info;have s:=I.und
 suffices hh:∃f,P.built T a=some f/\∃k,g = .agg k/\VW ρ k f by
  obtain⟨f,O,k,rfl,n⟩:=hh;refine⟨.agg f,?_,λw=>run_build w T a.toArray f (by simpa using O)⟩
  have:=Ib n.r n.one;simpa using this
 cases q:tdF t.desc with
 | some fs =>
  rw[q]at h;obtain⟨S,m,h⟩:=aE.1 (show ob (Td tb T) _=some g from h);obtain⟨x,b,h⟩:=aE.1 h;cases h;obtain⟨G,C,m⟩:=aE.1 (show ob (sK tb T) _=some S from m);have o:G=fs.toList:=by
   obtain⟨t',p,A⟩:=aE.1 (show ob (tb T) _=some G from C);rw[M]at p;cases p;obtain⟨N,j,A⟩:=aE.1 A;rw[q]at j;cases j;cases A;rfl
  subst o;obtain⟨f,y,z⟩:=Ou L H b;refine⟨f,?_,x,rfl,z⟩
  rw[QY q]at s;unfold Program.built;simp only[K,s,c,Nf B m];exact y
 |none=>
  rw[q]at h;obtain⟨e,Q,h⟩:=aE.1 (show ob (tdA t.desc) _=some g from h);obtain⟨te,F,h⟩:=aE.1 h;obtain⟨x,b,h⟩:=aE.1 h;cases h;obtain⟨f,y,z⟩:=Gy L H b;refine⟨f,?_,x,rfl,z⟩
  rw[VI Q]at s;obtain⟨Y,D,E,_,_⟩:=(B.tab F).info;unfold Program.built;simp only[K,s,c,D,E];exact y
end
def Ak (f:eZ) (w:V2) (l:NV):GO->Prop
 | .cells cs=>∃(c:Array V0) (T:V9),w.heap[l.b]? = some (.cells c T (0,0))/\c.size=l.size/\l.off+cs.length<=l.size/\∀(i:Nat) g,cs[i]? = some g->∃v,c[l.off+i]? = some v/\Rl f g v/\one v=true
 | .mp es=>∃(d:Array MapEntry) (a:Nat),w.heap[l.b]? = some (.map d a)/\d.size=es.length/\∀(i:Nat) e,es[i]? = some e->∃m,d[i]? = some m/\Rl f e.1 m.key/\Rl f e.2 m.val
theorem Ak.lt {c:eZ} {w:V2} {l:NV} {o:GO} (h:Ak c w l o):l.b<w.heap.size:=by
 cases o with
 |cells d=>obtain⟨a,T,h,_⟩:=h;exact(zAh.1 h).1
 |mp e=>obtain⟨a,T,h,_⟩:=h;exact(zAh.1 h).1
theorem Ak.move {r d:eZ} {w w':V2} {l:NV} {o:GO} (h:Ak r w l o) (q:r.le d) (e:w'.heap[l.b]? = w.heap[l.b]?):Ak d w' l o:=by
 cases o with
 |cells x=>obtain⟨f,T,j,k,n,u⟩:=h;exact⟨f,T,by rw[e];exact j,k,n,λi g p=>let ⟨v,a,b,c⟩:=u i g p;⟨v,a,b.le q,c⟩⟩
 |mp y=>obtain⟨t,s,j,k,n⟩:=h;exact⟨t,s,by rw[e];exact j,k,λi g p=>let ⟨m,a,b,c⟩:=n i g p;⟨m,a,b.le q,c.le q⟩⟩
structure AZ where
 obs:List (Nat×Obj)
 env:List V0
def Kh (a:AZ) (w:V2) (O:Nat->Prop):Prop:=∀p∈a.obs,w.heap[p.1]? = some p.2/\¬O p.1
structure fM (gs:AZ) where
 w:World
 O:Nat->Prop
 ok:Kh gs w O
def fM.mine {a:AZ} (b:fM a) (k:Nat):Prop:=b.w.heap.size<=k\/b.O k
structure gQ {gs:AZ} (w0:fM gs) (ρ:eZ) (H:GH) (w:World):Prop where
 ext:DI w0.O w0.w w
 live:∀h o,H.get h=some o->∃l,ρ h=some l/\w0.mine l.b/\Ak ρ w l o
 inj:∀h h' o o' l l',H.get h=some o->H.get h'=some o'->ρ h=some l->ρ h'=some l'->l.b=l'.b->h=h'
 fresh:∀h,H.n<=h->ρ h=none
 dense:∀h,h<H.n->∃l,ρ h=some l
 /-- the block holds what was written last -/
 vers:∀h v l,H.ver h=some v->ρ h=some l->∃lv,ρ v=some lv/\w.heap[l.b]? = some lv.x/\H.get h=some lv.o
 /-- the first handles stand for the open values -/
 env:∀i v,gs.env[i]? = some v->∃l,ρ i=some l/\l.x = .cells #[v] 0 (0,0)
theorem gQ.lt {c:AZ} {e:fM c} {w:V2} {f:eZ} {H:GH} (R:gQ e f H w) {h:Nat} {o:GO} (d:H.get h=some o):h<H.n:=by
 rcases zAr h H.n with a|a
 .exact a
 .obtain⟨l,b,_⟩:=R.live h o d;rw[R.fresh h a]at b;cases b
def Pg (P:Program) {d:AZ} (e:fM d) (ρ:eZ) (s:Sem V0) (w:V2) (g:GV) (c:GH):Prop:=∃v b a,s.run P w = .ok v b/\ρ.le a/\gQ e a c b/\Rl a g v
def eZ.upd (ρ:eZ) (h:Nat) (l:NV):eZ:=λk=>if k=h then some l else ρ k
theorem As {b:eZ} {h:Nat} {l:NV} (c:b h=none):b.le (b.upd h l):=λk x a=>by
 unfold eZ.upd;by_cases e:k=h
 .subst e;rw[c]at a;cases a
 .rw[if_neg e];exact a
theorem gQ.new {L:AZ} {B:fM L} {w w':V2} {ρ:eZ} {H:GH} (R:gQ B ρ H w) {o:GO} {l:NV} (S:DI B.O B.w w') (C:∀h u k,H.get h=some u->ρ h=some k->w'.heap[k.b]? = w.heap[k.b]? /\ k.b≠l.b) (M:B.mine l.b)
    (U:Ak (ρ.upd H.n l) w' l o) (W:w'.heap[l.b]? = some l.x) (E:l.o=o:=by rfl):ρ.le (ρ.upd H.n l)/\gQ B (ρ.upd H.n l) (H.new o) w':=by
  have m:ρ.le (ρ.upd H.n l):=As (R.fresh _ (zAg _));have T:∀h u,H.get h=some u->h≠H.n:=λh u g=>Nat.ne_of_lt (R.lt g);have d:∀h,h≠H.n->(ρ.upd H.n l) h=ρ h:=λh s=>by simp[eZ.upd,s]
  have f:(ρ.upd H.n l) H.n=some l:=by simp[eZ.upd]
  refine⟨m,S,?_,?_,?_,?_,?_,λi v e=>let ⟨l,a,b⟩:=R.env i v e;⟨l,m _ _ a,b⟩⟩
  · intro h u g;rw[rT]at g;by_cases e:h=H.n
    · subst e;rw[if_pos Z]at g;cases g;exact⟨l,f,M,U⟩
    · rw[if_neg e]at g;obtain⟨k,c,D,F⟩:=R.live h u g;exact⟨k,by rw[d h e];exact c,D,F.move m (C h u k g c).1⟩
  · intro h y J K G I g j A c r;rw[rT]at g j;by_cases e:h=H.n
    · by_cases q:y=H.n
      · rw[e,q]
      · rw[if_neg q]at j;rw[d y q]at c;subst e;rw[f]at A;cases A;exact absurd r.symm (C y K I j c).2
    · rw[if_neg e]at g;rw[d h e]at A;by_cases q:y=H.n
      · subst q;rw[f]at c;cases c;exact absurd r (C h J G g A).2
      · rw[if_neg q]at j;rw[d y q]at c;exact R.inj h y J K G I g j A c r
  · intro h s;have : h ≠ H.n := by
        have : H.n + 1 ≤ h := s;omega
    rw[d h this];exact R.fresh h (by
        have : H.n + 1 ≤ h := s;omega)
  · intro h s;have s:h<H.n+1:=s;by_cases e:h=H.n
    · subst e;exact⟨l,f⟩
    · rw[d h e];exact R.dense h V7
  · intro h v k z c;rw[Um]at z;by_cases e:h=H.n
    · subst e;rw[if_pos Z]at z;cases z;rw[f]at c;cases c;exact⟨l,f,W,by rw[rT,if_pos Z,E]⟩
    · rw[if_neg e]at z;rw[d h e]at c;obtain⟨X,N,P,Q⟩:=R.vers h v k z c;obtain⟨p,V,_⟩:=aE.1 (show ob (H.t.get h) _=some v from z);exact⟨X,m _ _ N,by rw[(C h p.2 k (by unfold GH.get;rw[V];rfl) c).1];exact P,by rw[rT,if_neg e];exact Q⟩
theorem gQ.set {T:AZ} {K:fM T} {w w':V2} {m:eZ} {H:GH} (R:gQ K m H w) {h:Nat} {o q:GO} {l:NV} {X:Obj} (u:H.get h=some o) (A:m h=some l) (V:DI K.O K.w w') (S:∀k,k≠l.b->w'.heap[k]? = w.heap[k]?) (Y:Ak m w' l q) (J:w'.heap[l.b]? = some X):
  m.le (m.upd H.n ⟨l.b,l.off,l.size,X,q⟩)/\gQ K (m.upd H.n ⟨l.b,l.off,l.size,X,q⟩) (H.set h q) w':=by
 have f:m.le (m.upd H.n ⟨l.b,l.off,l.size,X,q⟩):=As (R.fresh _ (zAg _));have c:∀k,k≠H.n->(m.upd H.n ⟨l.b,l.off,l.size,X,q⟩) k=m k:=λk g=>by simp[eZ.upd,g]
 have j:(m.upd H.n ⟨l.b,l.off,l.size,X,q⟩) H.n=some ⟨l.b,l.off,l.size,X,q⟩:=by simp[eZ.upd]
 have F:∀k x,(if k=h then some q else H.get k)=some x->∃y,H.get k=some y:=λk x J=>by
  by_cases e:k=h
  .subst e;exact⟨o,u⟩
  .rw[if_neg e]at J;exact⟨x,J⟩
 refine⟨f,V,?_,?_,?_,?_,?_,λi v e=>let ⟨l,a,b⟩:=R.env i v e;⟨l,f _ _ a,b⟩⟩
 .intro k x g;rw[tS]at g;by_cases e:k=h
  .subst e;rw[if_pos Z]at g;cases g;obtain⟨r,d,M,_⟩:=R.live k o u;rw[A]at d;cases d;exact⟨l,f _ _ A,M,Y.move f Z⟩
  .rw[if_neg e]at g;obtain⟨r,d,M,P⟩:=R.live k x g;refine⟨r,f _ _ d,M,P.move f (S _ λL=>e (R.inj k h x o r l g u d A L))⟩
 .intro k Q o1 o2 l1 l2 G I B C N;rw[tS]at G I;obtain⟨y1,D⟩:=F k o1 G;obtain⟨y2,E⟩:=F Q o2 I;rw[c k (Nat.ne_of_lt (R.lt D))]at B;rw[c Q (Nat.ne_of_lt (R.lt E))]at C;exact R.inj k Q y1 y2 l1 l2 D E B C N
 .intro k g;have W:H.n+1<=k:=g;rw[c k V7];exact R.fresh k V7
 .intro k g;have g:k<H.n+1:=g;by_cases e:k=H.n
  .subst e;exact⟨_,j⟩
  .rw[c k e];exact R.dense k V7
 .intro k v r s d;rw[Un]at s;by_cases e:k=h
  .subst e;rw[if_pos Z]at s;cases s;rw[c k (Nat.ne_of_lt (R.lt u)),A]at d;cases d;exact⟨_,j,J,by rw[tS,if_pos Z]⟩
  .rw[if_neg e]at s;obtain⟨p,hp,_⟩:=aE.1 (show ob (H.t.get k) _=some v from s);have z:H.get k=some p.2:=by unfold GH.get;rw[hp];rfl
   rw[c k (Nat.ne_of_lt (R.lt z))]at d;obtain⟨lv,G,I,U⟩:=R.vers k v r s d;exact⟨lv,f _ _ G,by rw[S r.b λL=>e (R.inj k h p.2 o r l z u d A L)];exact I,by rw[tS,if_neg e];exact U⟩
theorem gQ.del {i:AZ} {g:fM i} {w:V2} {ρ:eZ} {H:GH} (R:gQ g ρ H w) (h:Nat):gQ g ρ (H.del h) w:=by
 have b:∀k x,(H.del h).get k=some x->H.get k=some x:=λk x a=>by
  rw[Ht]at a;by_cases e:k=h
  .rw[if_pos e]at a;cases a
  .rw[if_neg e]at a;exact a
 exact⟨R.ext,λk x a=>R.live k x (b k x a),λk n r s o p d f=>R.inj k n r s o p (b _ _ d) (b _ _ f),R.fresh,R.dense,λk v l c m=>by
  rw[Ul]at c;by_cases e:k=h
  .rw[if_pos e]at c;cases c
  .rw[if_neg e]at c;obtain⟨q,d,f,j⟩:=R.vers k v l c m;exact⟨q,d,f,by rw[Ht,if_neg e];exact j⟩,R.env⟩
theorem gQ.ext' {g:AZ} {f:fM g} {w w':V2} {ρ:eZ} {H:GH} (R:gQ f ρ H w) (e:Ph w w'):gQ f ρ H w':=
 ⟨R.ext.trans e,λh o k=>let ⟨l,a,b,c⟩:=R.live h o k;⟨l,a,b,c.move (eZ.le_refl _) (e.block _ c.lt)⟩,R.inj,R.fresh,R.dense,λh v l n m=>by
  obtain⟨p,i,d,j⟩:=R.vers h v l n m;exact⟨p,i,(by rw[e.block _ (zAh.1 d).1];exact d),j⟩,R.env⟩
theorem gQ.mono {g b:AZ} {j:fM g} {d:fM b} {w w':V2} {e a:eZ} {H H':GH} (R:gQ j e H w) (f:gQ d a H' w') (c:e.le a):H.n<=H'.n:=by
 rcases zAr H'.n H.n with h|h
 .obtain⟨l,i⟩:=R.dense _ h;have:=f.fresh _ (zAg _);rw[c _ _ i]at this;cases this
 .exact h
def Zn (a:eZ) (H:GH) (k:Nat):Prop:=∃h o l,H.get h=some o/\a h=some l/\l.b=k
theorem gQ.glo {f:AZ} {d:fM f} {w:V2} {j:eZ} {H:GH} (R:gQ d j H w):Kh f w (Zn j H):=λp n=>by
 obtain⟨g,i⟩:=d.ok p n;have c:p.1<d.w.heap.size:=(zAh.1 g).1;refine⟨by rw[R.ext.block p.1 c i];exact g,fun⟨h,o,l,k,m,e⟩=> ?_⟩
 obtain⟨q,b,a,_⟩:=R.live h o k;rw[m]at b;cases b;rw[e]at a;rcases a with a|a
 .omega
 .exact i a
def gQ.base {a:AZ} {b:fM a} {w:V2} {ρ:eZ} {H:GH} (R:gQ b ρ H w):fM a:=⟨w,Zn ρ H,R.glo⟩
def fM.of {a:AZ} (w:V2) (h:Kh a w λ_=>False):fM a:=⟨w,λ_=>False,h⟩
def noG:AZ:=⟨[],[]⟩
def fM.one (w:V2):fM noG:= .of w λ_ h=>absurd h zB8
theorem gQ.rebase {e:AZ} {f:fM e} {w:V2} {d:eZ} {H:GH} (R:gQ f d H w):gQ R.base d H w:=
 ⟨DI.refl _,λh o b=>let ⟨l,a,_,c⟩:=R.live h o b;⟨l,a,.inr ⟨h,o,l,b,a,rfl⟩,c⟩,R.inj,R.fresh,R.dense,R.vers,R.env⟩
theorem gQ.back {t:AZ} {n:fM t} {w m:V2} {p d:eZ} {H q:GH} (R:gQ n p H w) (a:gQ R.base d q m):gQ n d q m/\∀k,k<w.heap.size->¬Zn p H k->m.heap[k]? = w.heap[k]?:=by
 have s:∀k,Zn p H k->n.mine k:=λk ⟨h,o,l,g,j,e⟩=>by
  obtain⟨v,c,b,_⟩:=R.live h o g;rw[j]at c;cases c;rw[<-e];exact b
 refine⟨⟨⟨a.ext.os.trans R.ext.os,a.ext.tape.trans R.ext.tape,a.ext.output.trans R.ext.output,zB4 R.ext.size a.ext.size,λk f r=> ?_⟩,λh o g=> ?_,a.inj,a.fresh,a.dense,a.vers,a.env⟩,λk f i=>a.ext.block k f i⟩
 .rw[a.ext.block k (zAv f R.ext.size) (λi=>by rcases s k i with h|h;exact absurd h V7;exact r h)];exact R.ext.block k f r
 .obtain⟨l,j,b,u⟩:=a.live h o g;refine⟨l,j,?_,u⟩
  rcases b with b|b
  .exact .inl (zB4 R.ext.size b)
  .exact s _ b
section
variable {P:Program} {tb:TB} {ρ:eZ} {V U W:V0} {v u t g:GV} {gs:AZ} {w0:fM gs} {w:V2} {H H':GH}
theorem gQ.alloc (R:gQ w0 ρ H w) {cs:V6 GV} {a:Array V0} (T:V9) (f:VW ρ cs a):
  ∃b,ρ.le b/\b=ρ.upd H.n ⟨w.heap.size,0,a.size,.cells a T,.cells cs⟩/\gQ w0 b (H.new (.cells cs)) (w.alloc (.cells a T)):=by
 have e:Ph w (w.alloc (.cells a T)):=(Below.refl _ _).alloc (zAg _) _;have h:=R.new (o:= .cells cs) (l:=⟨w.heap.size,0,a.size,.cells a T,.cells cs⟩) (R.ext.trans e) (λh q s d p=>by
  obtain⟨l,c,_,m⟩:=R.live h q d;rw[p]at c;cases c;exact⟨e.block _ m.lt,Nat.ne_of_lt m.lt⟩) (.inl R.ext.size) (by
  refine⟨a,T,heap_alloc_new w _,rfl,by have:=f.r.len;simp at this;simp[this],λi g d=> ?_⟩
  obtain⟨x,k,j⟩:=f.r.get d;rw[zAl]at k;exact⟨x,by simpa using k,j.le (As (R.fresh _ (zAg _))),Qc f.one k⟩) (heap_alloc_new w _)
 exact⟨_,h.1,rfl,h.2⟩
theorem afM {T:V9} (R:gQ w0 ρ H w) (k:Rl ρ v V) (h:HR v H=some (g,H')):Pg P w0 ρ (Instr.box T V) w g H':=by
 obtain⟨c,i,h⟩:=aE.1 (show ob v.cells _=some (g,H')from h);rw[jM]at h;cases h;obtain⟨n,e,j,f⟩:=k.cells i;obtain⟨m,b,rfl,d⟩:=R.alloc T (cs:=c) (a:=V.cells) (by rw[e];exact⟨j,f⟩);refine⟨_,_,_,?_,b,d,.ptr (l:=⟨w.heap.size,0,V.cells.size,.cells V.cells T,.cells c⟩) 0 (by simp[eZ.upd])⟩
 simp[Instr.box,newVar,newRow]
theorem Kd (e:gA P tb) {T:V9} (R:gQ w0 ρ H w) (h:wH tb T H=some (g,H')):Pg P w0 ρ (Instr.alloc T true (.tuple #[])) w g H':=by
 obtain⟨j,i,h⟩:=aE.1 (show ob (DF tb T) _=some (g,H')from h);rw[jM]at h;cases h;obtain⟨d,m,f,c⟩:=vR (ρ:=ρ) e i;obtain⟨k,a,rfl,b⟩:=R.alloc T c;exact⟨_,_,_,JO w f,a,b,.ptr (l:=⟨w.heap.size,0,d.zero.cells.size,.cells d.zero.cells T,.cells j⟩) 0 (by simp[eZ.upd])⟩
theorem gQ.cells (R:gQ w0 ρ H w) {h:Nat} {cs:V6 GV} (b:H.cells h=some cs) {l:NV} (c:ρ h=some l):Ak ρ w l (.cells cs):=by
 obtain⟨e,a,_,d⟩:=R.live h _ (jQ.1 b);rw[c]at a;cases a;exact d
theorem Nr (hG:gA P tb) {T:V9} (R:gQ w0 ρ H w) (X:Rl ρ v V) (h:uR tb T v H=some g):∃(x:V0) (p:Nat×Nat) (l:NV),v = .ptr p.1 p.2/\ρ p.1=some l/\(∃o,H.get p.1=some o)/\Rl ρ g x/\∀E,E.heap[l.b]? = w.heap[l.b]? -> (Instr.loadAt T V).run P E = .ok x E:=by
 obtain⟨p,S,h⟩:=aE.1 (show ob v.asP _=some g from h);obtain⟨G,z,h⟩:=aE.1 h;obtain⟨t,ht,h⟩:=aE.1 h;have C:=Fu S;have A:=jQ.1 z;rw[Fu S]at X;obtain⟨l,K,rfl⟩:=X.ptr_inv;obtain⟨I,T',N,aa,Q,c⟩:=R.cells z K;have M:=hG.tab ht;unfold Dc at h;cases F:yA t.desc with
 | true =>
  rw[F]at h;obtain⟨r,hs,h⟩:=aE.1 h;cases h;obtain⟨O,rfl⟩:=QL hs;let n:=((I.toList.drop (l.off+p.2)).take t.size)
  have m:n.length=t.size:=by simp[n];omega
  have D:qE ρ ((G.drop p.2).take t.size) n:=⟨by rw[m];simp;omega,λi a b d e=>by
   simp only[n]at e;rw[zAt]at d e;by_cases k:i<t.size
   .rw[if_pos k,zAu]at d e;obtain⟨x,s,J,_⟩:=c _ _ d;rw[zAl,show l.off+p.2+i=l.off+(p.2+i) by omega,s]at e;cases e;exact J
   .rw[if_neg k]at d;cases d⟩
  have B:∀x∈n,one x=true:=λx q=>by
   obtain⟨i,k⟩:=List.mem_iff_getElem?.1 q;have L:=bB k;have d:((G.drop p.2).take t.size)[i]? = some (G[p.2+i]'V7):=by
    rw[zAt,Q3,zAu,zA0 V7]
   simp only[n]at k;rw[zAt,Q3,zAu,zAl,show l.off+p.2+i=l.off+(p.2+i) by omega]at k;obtain⟨y,s,_,Y⟩:=c (p.2+i) _ (zA0 V7);rw[s]at k;cases k;exact Y
  refine⟨_,p,l,C,K,⟨_,A⟩,Ib D B,λE f=> ?_⟩
  rw[N]at f;refine Bi M F m (λj x q=> ?_);rw[eM];have L:=bB q;simp only[n]at q;rw[zAt,Q3,zAu,zAl]at q;simp[World.cell?,f,q]
 |false=>
  rw[F]at h;rw[cond_false,wG]at h;obtain⟨x,s,J,_⟩:=c _ _ h;exact⟨x,p,l,C,K,⟨_,A⟩,J,λE f=>AE M F (by rw[N]at f;simp[World.cell?,f,s])⟩
theorem Kf (hG:gA P tb) {T:TypeId} (R:gQ w0 ρ H w) (X:Rl ρ v V) (hu:Rl ρ u U) (h:qD tb T v u H=some (g,H')):g = .un/\∃w' B,(Instr.storeAt T V U).run P w = .ok () w'/\ρ.le B/\gQ w0 B H' w':=by
 obtain⟨p,hp,h⟩:=aE.1 (show ob v.asP _=some (g,H')from h);obtain⟨cs,n,h⟩:=aE.1 h;obtain⟨t,ht,h⟩:=aE.1 h;obtain⟨E,N,h⟩:=aE.1 h;obtain⟨K,h⟩:=bV.1 h;obtain⟨O,h⟩:=lE.1 h;obtain⟨c1,r,h⟩:=aE.1 h;rw[Ap]at h;cases h;refine⟨rfl,?_⟩
 rw[Fu hp]at X;obtain⟨l,J,rfl⟩:=X.ptr_inv;obtain⟨c,C,F,ac,S,m⟩:=R.cells n J;obtain⟨f,eU,z,j⟩:=hu.cells N;have hT:=hG.tab ht;have d:E.length=t.size:=zA6 K;have ad:E.length=f.length:=z.len;have L:E≠[]:=by intro e;rw[e]at d;simp at d;rw[<-d]at O;cases O
 obtain⟨Y,p2,p3⟩:=Ln r;have Y:=Y L;have s:=run_storeCells_at P l.b (l.off+p.2) C f 0 c w F (by omega) (λx o=>nR (j x o));simp only[Nat.add_zero]at s;refine⟨w.setRow l.b (c.toList.take (l.off+p.2)++f++c.toList.drop (l.off+p.2+f.length)).toArray,_,?_,R.set (jQ.1 n) J ?_ (λk I=>setRow_other w l.b k _ I) ?_ (setRow_heap w l.b _ _ C _ F)⟩
 .have hs:=hT.run_size w;simp only[Instr.storeAt,Instr.sureAddr,storeVar,eU];have e:f.toArray.size=t.size:=by simp;omega
  simp[hs,e,s]
 .obtain⟨l',q,a,_⟩:=R.live _ _ (jQ.1 n);rw[J]at q;cases q;exact⟨R.ext.os,R.ext.tape,R.ext.output,by simpa using R.ext.size,λk I Q=>by
   rw[setRow_other w l.b k _ (λe=>by subst e;rcases a with a|a;exact absurd a (by omega);exact Q a)];exact R.ext.block k I Q⟩
 .refine⟨_,C,setRow_heap w l.b _ _ C _ F,?_,by omega,λi x o=> ?_⟩
  .simp;omega
  .rw[p3 i]at o;have aa:c.toList.length=c.size:=by simp
   have A:(c.toList.take (l.off+p.2)++f++c.toList.drop (l.off+p.2+f.length)).toArray[l.off+i]? = if p.2<=i/\i<p.2+f.length then f[i - p.2]? else c[l.off+i]?:=by
    rw[List.getElem?_toArray,zB6];by_cases G:i<p.2
    .rw[if_neg (by omega),zAc (by simp;omega),zAt,if_pos (by omega),zAl]
    .rw[zAb (by simp;omega),List.length_take];have e1:min (l.off+p.2) c.toList.length=l.off+p.2:=by omega
     rw[e1];by_cases ab:i<p.2+f.length
     .rw[if_pos (by omega),zAc (by omega)];congr 1;omega
     .rw[if_neg (by omega),zAb (by omega),zAu,zAl];congr 1;omega
   by_cases G:p.2<=i/\i<p.2+E.length
   .rw[if_pos G]at o;obtain⟨y,D,M⟩:=z.get o;exact⟨y,by rw[A,if_pos (by omega)];exact D,M,j y (zA3 D)⟩
   .rw[if_neg G]at o;obtain⟨y,D,M⟩:=m i x o;exact⟨y,by rw[A,if_neg (by omega)];exact D,M⟩
end
section
variable {P:Program} {tb:TB} {ρ:eZ} {V U W:V0} {v u t g:GV} {gs:AZ} {w0:fM gs} {w:V2} {H H':GH}
theorem IF (z:V6 GV):∀n,(Ui z n).length=n*z.length
 |0=>by show([]:V6 GV).length=_;simp
 |n+1=>by
  have:Ui z (n+1)=z++Ui z n:=rfl;rw[this,zA5,IF z n,zB3];omega
theorem Xm (z:V6 GV) (b:0<z.length):∀(n i:Nat),i<n*z.length->(Ui z n)[i]? = z[i%z.length]?
 |0,i,h=>by simp at h
 |n+1,i,h=>by
  have:Ui z (n+1)=z++Ui z n:=rfl;rw[this];by_cases a:i<z.length
  .rw[zAc a,Nat.mod_eq_of_lt a]
  .rw[zAb V7,Xm z b n (i - z.length) (by have:(n+1)*z.length=n*z.length+z.length:=Nat.succ_mul n z.length;omega),<-Nat.mod_eq_sub_mod V7]
theorem IG {c:V6 GV} {z:Array V0} (f:VW ρ c z) (l:0<c.length) (n:Nat):VW ρ (Ui c n) ((Array.range (n*c.length)).map (z[· % z.size]!)):=by
 have o:c.length=z.size:=by have:=f.r.len;simpa using this
 have q:0<z.size:=V7
 have d:∀i,i<n*c.length->z[i%z.size]? = some (z[i%z.size]!):=λi _=>by
  have p:i%z.size<z.size:=Nat.mod_lt _ q;rw[getElem!_pos z (i%z.size) p];simp
 refine⟨⟨by simp[IF],λi a b h m=> ?_⟩,λx k=> ?_⟩
 .have e:=bB h;rw[IF]at e;rw[Xm c l n i e]at h;have j:some (z[i%z.size]!)=some b:=by
   rw[<-m,zAl];simp[e]
  cases j;refine f.r.at' (i%c.length) a _ h ?_;rw[zAl,o];exact d i e
 .simp only[Array.toList_map,zAs]at k;obtain⟨i,e,rfl⟩:=k;have e:i<n*c.length:=by simpa using e
  exact Qc f.one (d i e)
theorem HD {c:Nat}:∀{l:V6 (Nat×GV)} {b a:V6 GV},Jy c l b=some a->a.length=b.length
 | [],b,a,h=>by cases h;rfl
 |p::l,b,a,h=>by
  obtain⟨d,e,h⟩:=aE.1 (show ob p.2.cells (λd=>bif Nat.beq d.length c then(bif Nat.beq c 0 then none else ob (Iu d (Nat.mul p.1 c) b) (Jy c l))else none)=some a from h);obtain⟨_,h⟩:=bV.1 h;obtain⟨_,h⟩:=lE.1 h;obtain⟨i,f,h⟩:=aE.1 h;rw[HD h];exact(Ln f).2.1
theorem VO (hG:gA P tb) {T:TypeId} {n:Nat} {l:List (Nat×GV)} {parts:List (Nat×V0)} (R:gQ w0 ρ H w) (hp:RlP ρ l parts) (h:vQ tb T n l H=some (g,H')):Pg P w0 ρ (Instr.buildSlice T n parts.toArray) w g H':=by
 obtain⟨te,hte,h⟩:=aE.1 (show ob (Bu tb T) _=some (g,H')from h);obtain⟨zc,hz,h⟩:=aE.1 h;obtain⟨hlen,h⟩:=bV.1 h;obtain⟨hbig,h⟩:=bV.1 h;obtain⟨h0,h⟩:=lE.1 h;obtain⟨cs,hfill,h⟩:=aE.1 h;rw[jM]at h;cases h;obtain⟨⟨d,hd,hde⟩,hE,htab⟩:=yL hG hte;obtain⟨dz,hdz,_,hC⟩:=vR (ρ:=ρ) hG hz;rw[htab]at hdz;cases hdz;have hlen:zc.length=te.2.size:=zA6 hlen;have h0:te.2.size≠0:=λe=>by rw[e]at h0;cases h0
 have hbig:n*te.2.size<16777216:=by simpa [zAy]using hbig
 have hrep:=IG hC (by omega) n;rw[hlen]at hrep;obtain⟨a',f1,f2⟩:=Gy hp hrep hfill;obtain⟨ρ',hle,rfl,R'⟩:=R.alloc te.1 f2;have hsz:a'.size=n*te.2.size:=by
  have e1:=f2.r.len;have:cs.length=(Ui zc n).length:=HD hfill;rw[this,IF,hlen]at e1;simp at e1;omega
 refine⟨_,_,_,?_,hle,R',.sl (l:=⟨w.heap.size,0,a'.size,.cells a' te.1,.cells cs⟩) (cap:=n) (A:=⟨w.heap.size,0,none⟩) (by simp[eZ.upd]) (zAg _) (.inr ⟨rfl,by simp[hsz]⟩)⟩
 have hu:=hd.run_und w;rw[hde]at hu;by_cases hn:n*te.2.size=0
 .have hz0:n=0:=by rcases Nat.mul_eq_zero.1 hn with h|h;exact h;exact absurd h h0
  subst hz0;have e0:(Array.range (0*te.2.size)).map (te.2.zero.cells[· % te.2.zero.cells.size]!)=(#[]:Array V0):=by simp
  rw[e0]at f1;have e1:(Array.range 0).map (λ_=>(default:V0)) = #[]:=by simp
  simp[Instr.buildSlice,hu,hE.run_size w,newRow];simp[e1,f1]
 .simp[Instr.buildSlice,hu,hE.run_size w,hE.run_zero w,hn,f1,newRow,show¬(16777216<n*te.2.size) by omega]
theorem acV (D:gA P tb) {T:V9} (R:gQ w0 ρ H w) (F:Rl ρ v V) (E:Rl ρ u U) (h:TQ tb T v u H=some (g,H')):Pg P w0 ρ (Instr.makeSlice T V U) w g H':=by
 obtain⟨a,B,h⟩:=aE.1 (show ob (Bu tb T) _=some (g,H')from h);obtain⟨I,hz,h⟩:=aE.1 h;obtain⟨k,Q,h⟩:=aE.1 h;obtain⟨c,N,h⟩:=aE.1 h;obtain⟨f,h⟩:=bV.1 h;obtain⟨n,S,h⟩:=aE.1 h;obtain⟨b,h⟩:=bV.1 h;obtain⟨m,h⟩:=bV.1 h;obtain⟨p,h⟩:=bV.1 h;obtain⟨r,h⟩:=lE.1 h;rw[Ss,jM]at h;cases h;obtain⟨⟨d,O,x⟩,L,q⟩:=yL D B;obtain⟨dz,o,_,K⟩:=vR (ρ:=ρ) D hz;rw[q]at o;cases o;have b:I.length=a.2.size:=zA6 b;have r:a.2.size≠0:=λe=>by rw[e]at r;cases r
 have m:n*a.2.bytes<16777216:=by simpa [zAy]using m
 have p:n<16777216:=by simpa [zAy]using p
 rw[nK Q]at F;rw[nK N]at E;rw[Jt]at f;have f:=zB5 f;rw[F.int_inv,E.int_inv,<-f,Hw S];have i:=IG K V7 n;rw[b]at i;obtain⟨aa,z,rfl,J⟩:=R.alloc a.1 i;obtain⟨G,y,Y,M,C⟩:=L.info;have j:=O.und;rw[x]at j;have s:(G.bytes:Int)*(n:Int)<=281474976710656:=by
  have e:(a.2.bytes:Int)*(n:Int)=((n*a.2.bytes:Nat):Int):=by rw[Nat.mul_comm];simp
  rw[M,e];omega
 have X:=run_make (P:=P) w T a.1 G a.2.zero j y C k.1 c.1 n n V7 (Int.le_refl _) s V7;refine⟨_,_,_,?_,z,J,.sl (l:=⟨w.heap.size,0,((Array.range (n*a.2.size)).map (a.2.zero.cells[· % a.2.zero.cells.size]!)).size,.cells ((Array.range (n*a.2.size)).map (a.2.zero.cells[· % a.2.zero.cells.size]!)) a.1,.cells (Ui I n)⟩) (cap:=n) (A:=⟨w.heap.size,0,none⟩) (by simp[eZ.upd]) (zAg _) (.inr ⟨rfl,V8⟩)⟩
 rw[X];simp[madeCells,Y]
theorem agx {o:V1 GV} {O:V1 V0} {d n:Nat} (e:(o=none/\O=none)\/∃g x,o=some g/\O=some x/\Rl ρ g x) (h:vB o d=some n):(o=none/\O=none/\n=d)\/∃k:IntKind,O=some (.int k n):=by
 rcases e with⟨rfl,rfl⟩|⟨g,x,rfl,rfl,b⟩
 .cases h;exact .inl ⟨rfl,rfl,rfl⟩
 .obtain⟨a,c,h⟩:=aE.1 (show ob g.asI _=some n from h);rw[nK c]at b;exact .inr ⟨a.1,by rw[b.int_inv,Hw h]⟩
def RlO (ρ:eZ) (o:V1 GV) (O:V1 V0):Prop:=(o=none/\O=none)\/∃g x,o=some g/\O=some x/\Rl ρ g x
theorem ED {sl:V4} {len cap l h:Nat} {j i:V1 GV} {e d:V1 V0} (c:RlO ρ j e) (b:RlO ρ i d) (k:vB j 0=some l) (m:vB i len=some h) (a:l<=h) (f:h<=cap) (w:V2):
  (Instr.sliceBounds sl len cap e d none).run P w = .ok (l,h,cap) w:=by
 rcases agx c k with⟨_,rfl,rfl⟩|⟨n,rfl⟩<;>rcases agx b m with⟨_,rfl,rfl⟩|⟨o,rfl⟩
 .simp[Instr.sliceBounds]
 .simp[Instr.sliceBounds,Instr.sliceBound,asIntOf,f]
 .simp[Instr.sliceBounds,Instr.sliceBound,asIntOf,a]
 .simp[Instr.sliceBounds,Instr.sliceBound,asIntOf,a,f]
theorem OX (G:gA P tb) {T:V9} {Y Q:V1 GV} {LO HI:V1 V0} (R:(∃(w0:fM gs) (w:V2),gQ w0 ρ H w)\/∀t,tb T=some t->tdA t.desc=none) (z:Rl ρ v V) (x:RlO ρ Y LO) (o:RlO ρ Q HI) (h:CL tb T v Y Q H=some g):Ee P ρ (Instr.sliceAt T V LO HI none) g:=by
 obtain⟨l,J,h⟩:=aE.1 (show ob (vB Y 0) _=some g from h);obtain⟨t,ht,h⟩:=aE.1 h;have I:=G.tab ht;cases S:v.asStr with
 | some s =>
  rw[S]at h;obtain⟨e,D,h⟩:=aE.1 (show ob (vB Q s.2) _=some g from h);obtain⟨hd,h⟩:=bV.1 h;obtain⟨d,h⟩:=bV.1 (show(bif Nat.ble l e then _ else none)=some g from h);obtain⟨a,h⟩:=bV.1 h;simp only[yS]at h;cases h;have d:l<=e:=by simpa using d
  have a:e<=s.2:=by simpa using a
  rw[qQ S]at z;obtain⟨r,rfl,K,e2⟩:=z.str_inv;have j:r.size=s.2:=by rw[e2];exact Lib.size_eq r
  have hx:=Lib.extract_data r l e;refine⟨.string (r.extract l e),?_,λw=> ?_⟩
  .have:Rl ρ (.str (mR (bS (r.extract l e))) (bS (r.extract l e)).length) (.string (r.extract l e)):= .str _;have e3:bS (r.extract l e)=((bS r).drop l).take (e - l):=hx;rw[e3]at this;rw[K,aaI];have e4:(((bS r).drop l).take (e - l)).length=Nat.sub e l:=by
    simp only[List.length_take,List.length_drop,<-e2];show _=e - l;omega
   rw[e4]at this;exact this
  .have m:=I.run_und w;rw[CJ hd]at m;have n:=ED (P:=P) (sl:=false) (cap:=s.2) x o J D d a w;simp[Instr.sliceAt,m,Instr.slice,j,n]
 | none =>
  rw[S]at h;cases M:v.asS with
  | some s =>
   simp only[M]at h;obtain⟨E,B,h⟩:=aE.1 (show ob (tdS t.desc) _=some g from h);obtain⟨f,k,h⟩:=aE.1 h;obtain⟨e,D,h⟩:=aE.1 h;obtain⟨j,h⟩:=bV.1 (show(bif Nat.beq f.size s.2.2.2 then _ else none)=some g from h);obtain⟨d,h⟩:=bV.1 h;obtain⟨a,h⟩:=bV.1 h;simp only[yS]at h;cases h;have j:f.size=s.2.2.2:=zA6 j;have d:l<=e:=by simpa using d
   have a:e<=s.2.2.1:=by simpa using a
   rw[Dp M]at z;obtain⟨i,c,A,q,rfl,hc,ha⟩:=z.sl_inv;refine⟨.slice (if c=l then some A else(some A).map (·.add (l*f.size))) (e - l) (c - l),?_,λw=> ?_⟩
   .have K:(if c=l then some A else(some A).map (·.add (l*f.size)))=some (if c=l then A else A.add (l*f.size)):=by split<;>rfl
    rw[K];refine .sl q (show e - l<=c - l by omega) ?_;by_cases C:c - l=0
    .exact .inl C
    .right;rw[Q0];rcases ha with ha|⟨rfl,n⟩
     .omega
     .rw[eM];refine⟨by show _=(⟨i.b,i.off+(s.2.1+l*f.size),none⟩:Addr);rw[Nat.add_assoc],?_⟩
      have:c*s.2.2.2=l*f.size+(c - l)*f.size:=by rw[<-j,<-zB3];congr 1;omega
      show i.off+(s.2.1+l*f.size)+(c - l)*f.size<=i.size;omega
   .have m:=I.run_und w;rw[HQ B]at m;have n:=ED (P:=P) (sl:=true) (cap:=c) x o J D d V7 w;simp[Instr.sliceAt,m,Instr.slice,n,(G.tab k).run_size w]
  | none =>
   simp only[M]at h;cases X:v.isSnil with
   |true=>
    rw[X]at h;obtain⟨E,B,h⟩:=aE.1 (show ob (tdS t.desc) _=some g from h);obtain⟨f,k,h⟩:=aE.1 h;obtain⟨e,D,h⟩:=aE.1 h;obtain⟨F,h⟩:=bV.1 h;obtain⟨L,h⟩:=bV.1 h;cases h;have F:l=0:=zA6 F;have L:e=0:=zA6 L;subst F L;rw[yO X]at z;rw[z.snil_inv];refine⟨_,.snil,λw=> ?_⟩
    have m:=I.run_und w;rw[HQ B]at m;have n:=ED (P:=P) (sl:=true) (len:=0) (cap:=0) x o J D (zAg _) (zAg _) w;simp[Instr.sliceAt,m,Instr.slice,n,(G.tab k).run_size w]
   |false=>
   rw[X]at h;obtain⟨p,hp,h⟩:=aE.1 (show ob v.asP _=some g from h);obtain⟨E,B,h⟩:=aE.1 h;obtain⟨f,k,h⟩:=aE.1 h;obtain⟨e,D,h⟩:=aE.1 h;obtain⟨cs,N,h⟩:=aE.1 h;obtain⟨y,h⟩:=bV.1 h;obtain⟨d,h⟩:=bV.1 (show(bif Nat.ble l e then _ else none)=some g from h);obtain⟨a,h⟩:=bV.1 h;obtain⟨F,h⟩:=lE.1 h;simp only[yS]at h;cases h;have y:p.2+E.1*f.size<=cs.length:=by simpa using y
   have d:l<=e:=by simpa using d
   have a:e<=E.1:=by simpa using a
   rw[Fu hp]at z;obtain⟨i,q,rfl⟩:=z.ptr_inv;rcases R with⟨w0,w,R⟩|R
   rotate_left
   .rw[R t ht]at B;cases B
   obtain⟨ab,T',n,aa,O,_⟩:=R.cells N q;refine⟨.slice (some (if E.1=l then⟨i.b,i.off+p.2,none⟩else Addr.add ⟨i.b,i.off+p.2,none⟩ (l*f.size))) (e - l) (E.1 - l),?_,λw=> ?_⟩
   .refine .sl q (show e - l<=E.1 - l by omega) ?_;by_cases C:E.1 - l=0
    .exact .inl C
    .right;rw[Q0,eM];refine⟨by show _=(⟨i.b,i.off+(p.2+l*f.size),none⟩:Addr);rw[Nat.add_assoc],?_⟩
     have:E.1*f.size=l*f.size+(E.1 - l)*f.size:=by rw[<-zB3];congr 1;omega
     show i.off+(p.2+l*f.size)+(E.1 - l)*f.size<=i.size;omega
   .have m:=I.run_und w;rw[VI B]at m;have n:=ED (P:=P) (sl:=false) (cap:=E.1) x o J D d a w;simp[Instr.sliceAt,m,Instr.sureAddr,n,(G.tab k).run_size w]
end
section
variable {P:Program} {tb:TB} {ρ:eZ} {V U W:V0} {v u t g:GV} {gs:AZ} {w0:fM gs} {w:V2} {H H':GH}
structure XL (ρ:eZ) (w:World) (sz n:Nat) (r:List GV) (V:V0) (ns:List V0):Prop where
 rel:qE ρ r ns
 len:ns.length=n*sz
 one:∀x∈ns,Go.Sx.one x=true
 val:∃base cap,V = .slice base n cap/\n<=cap/\((base=none/\n=0/\cap=0)\/∃A,base=some A/\∀(j:Nat) x,ns[j]? = some x->w.cell? (A.add j)=some x)
theorem Ep (R:gQ w0 ρ H w) {m:Nat} {p:Nat×V6 GV} (F:Rl ρ v V) (h:uW H m v=some p):∃k,XL ρ w m p.1 p.2 V k:=by
 unfold uW at h;cases K:v.isSnil with
 |true=>
  rw[K]at h;cases h;rw[yO K]at F;exact⟨[],.nil,V8,λx f=>by simp at f,none,0,F.snil_inv,zAg _,.inl ⟨rfl,rfl,rfl⟩⟩
 | false =>
  rw[K]at h;obtain⟨s,hs,h⟩:=aE.1 (show ob v.asS _=some p from h);obtain⟨D,h⟩:=bV.1 h;obtain⟨cs,I,h⟩:=aE.1 h;obtain⟨r,hr,h⟩:=aE.1 h;cases h;have D:s.2.2.2=m:=zA6 D;obtain⟨N,rfl⟩:=QL hr;have N:s.2.1+s.2.2.1*m<=cs.length:=N;rw[Dp hs]at F;obtain⟨l,G,A,Y,rfl,S,M⟩:=F.sl_inv;obtain⟨o,T,X,J,O,e⟩:=R.cells I Y;let k:=(o.toList.drop (l.off+s.2.1)).take (s.2.2.1*m);have n:k.length=s.2.2.1*m:=by simp[k];omega
  have C:qE ρ ((cs.drop s.2.1).take (s.2.2.1*m)) k:=⟨by rw[n];simp;omega,λi a b c d=>by
   simp only[k]at d;rw[zAt]at c d;by_cases E:i<s.2.2.1*m
   .rw[if_pos E,zAu]at c d;obtain⟨x,q,z,_⟩:=e _ _ c;rw[zAl,show l.off+s.2.1+i=l.off+(s.2.1+i) by omega,q]at d;cases d;exact z
   .rw[if_neg E]at c;cases c⟩
  have B:∀(j:Nat) x,k[j]? = some x->j<s.2.2.1*m/\o[l.off+(s.2.1+j)]? = some x:=λj x f=>by
   have aa:=bB f;simp only[k]at f;rw[zAt,Q3,zAu,zAl,show l.off+s.2.1+j=l.off+(s.2.1+j) by omega]at f;exact⟨V7,f⟩
  refine⟨k,C,n,λx f=> ?_,_,G,rfl,S,.inr ⟨A,rfl,λj x f=> ?_⟩⟩
  .obtain⟨i,E⟩:=List.mem_iff_getElem?.1 f;obtain⟨q,z⟩:=B i x E;obtain⟨y,L,_,Q⟩:=e (s.2.1+i) _ (zA0 V7);rw[z]at L;cases L;exact Q
  .obtain⟨q,z⟩:=B j x f;rcases M with M|⟨rfl,_⟩
   .have:s.2.2.1=0:=V7
    rw[this]at q;simp at q
   .rw[eM,show l.off+s.2.1+j=l.off+(s.2.1+j) by omega];simp[World.cell?,X,z]
theorem XL.src {e n:Nat} {r:V6 GV} {b:V6 V0} (h:XL ρ w e n r V b) {T E:V9} (d:P.underlying T=some (.slice E)):Src P e T V n b w:=by
 obtain⟨base,c,rfl,_,i⟩:=h.val;have a:∀x∈b,x.oneCell'=true:=λx j=>nR (h.one x j);rcases i with⟨rfl,rfl,rfl⟩|⟨A,rfl,f⟩
 .have:b=[]:=zAn (by have:=h.len;simpa using this);subst this;exact Src.ofNil w d 0
 .exact Src.ofSlice w d A n c b h.len f a
theorem XL.old {b n:Nat} {r:V6 GV} {a:V6 V0} (h:XL ρ w b n r V a):(Builtin.firstCells b n V).run P w.drew = .ok a.toArray w.drew:=by
 obtain⟨base,c,rfl,_,e⟩:=h.val;rcases e with⟨rfl,rfl,rfl⟩|⟨A,rfl,d⟩
 .have:a=[]:=zAn (by have:=h.len;simpa using this);subst this;exact run_firstCells_none w.drew b 0 0 0
 .exact run_firstCells_some w.drew b n A n c a h.len d
theorem gQ.alloc' (R:gQ w0 ρ H w) {cs:V6 GV} {a:Array V0} (T:V9) (f:cs.length<=a.size) (p:∀(i:Nat) g,cs[i]? = some g->∃x,a[i]? = some x/\Rl ρ g x/\one x=true):
  ∃b,ρ.le b/\b=ρ.upd H.n ⟨w.heap.size,0,a.size,.cells a T,.cells cs⟩/\gQ w0 b (H.new (.cells cs)) (w.alloc (.cells a T)):=by
 have e:Ph w (w.alloc (.cells a T)):=(Below.refl _ _).alloc (zAg _) _;have h:=R.new (o:= .cells cs) (l:=⟨w.heap.size,0,a.size,.cells a T,.cells cs⟩) (R.ext.trans e) (λh r s d f=>by
  obtain⟨l,c,_,k⟩:=R.live h r d;rw[f]at c;cases c;exact⟨e.block _ k.lt,Nat.ne_of_lt k.lt⟩) (.inl R.ext.size) (by
  refine⟨a,T,heap_alloc_new w _,rfl,by simpa using f,λi g d=> ?_⟩
  obtain⟨x,q,j,m⟩:=p i g d;exact⟨x,by simpa using q,j.le (As (R.fresh _ (zAg _))),m⟩) (heap_alloc_new w _)
 exact⟨_,h.1,rfl,h.2⟩
theorem UJ {e:Nat} {p:Nat×V6 GV} {s:Nat×Nat×Nat×Nat} (h:uW H e v=some p) (f:v.asS=some s):s.2.2.2=e/\∃cs,H.cells s.1=some cs/\s.2.1+s.2.2.1*e<=cs.length/\p.1=s.2.2.1:=by
 unfold uW at h;have c:v.isSnil=false:=by rw[Dp f];rfl
 rw[c]at h;obtain⟨j,a,h⟩:=aE.1 (show ob v.asS _=some p from h);rw[f]at a;cases a;obtain⟨d,h⟩:=bV.1 h;obtain⟨cs,b,h⟩:=aE.1 h;obtain⟨r,i,h⟩:=aE.1 h;cases h;exact⟨zA6 d,cs,b,(QL i).1,rfl⟩
theorem XU (R:gQ w0 ρ H w) {D a k f m q:Nat} {l:NV} {cs s z:V6 GV} {ac d:V6 V0} (C:H.cells D=some cs) (hl:ρ D=some l) (F:XL ρ w f k s (.slice (some ⟨l.b,l.off+a,none⟩) k q) ac)
  (r2:qE ρ z d) (l2:d.length=m*f) (o2:∀x∈d,one x=true) (E:k+m<=q) (N:l.off+a+q*f<=l.size):
  ∃c r,w.heap[l.b]? = some (.cells c r (0,0))/\l.off+a+q*f<=c.size/\ρ.le (ρ.upd H.n ⟨l.b,l.off+a,l.size,(.cells (c.toList.take (l.off+a+k*f)++d++c.toList.drop (l.off+a+k*f+d.length)).toArray r),.cells (s++z)⟩)/\
   gQ w0 (ρ.upd H.n ⟨l.b,l.off+a,l.size,(.cells (c.toList.take (l.off+a+k*f)++d++c.toList.drop (l.off+a+k*f+d.length)).toArray r),.cells (s++z)⟩) ((H.del D).new (.cells (s++z))) (w.setRow l.b (c.toList.take (l.off+a+k*f)++d++c.toList.drop (l.off+a+k*f+d.length)).toArray):=by
 obtain⟨c,r,M,ab,ae,T⟩:=R.cells C hl;have af:k*f+m*f<=q*f:=by rw[<-zB3];exact zB0 _ E
 have ag:c.toList.length=c.size:=V8
 obtain⟨l0,I,p,_⟩:=R.live _ _ (jQ.1 C);rw[hl]at I;cases I;have l1:=F.len;have e1:s.length=k*f:=by rw[F.rel.len];exact l1
 have e2:z.length=m*f:=by rw[r2.len];exact l2
 have B:=(R.del D).new (o:= .cells (s++z)) (l:=⟨l.b,l.off+a,l.size,(.cells (c.toList.take (l.off+a+k*f)++d++c.toList.drop (l.off+a+k*f+d.length)).toArray r),.cells (s++z)⟩)
  (w':=w.setRow l.b (c.toList.take (l.off+a+k*f)++d++c.toList.drop (l.off+a+k*f+d.length)).toArray)
  ⟨R.ext.os,R.ext.tape,R.ext.output,by simpa using R.ext.size,λk hk hO=>by
   rw[setRow_other w l.b k _ (λe=>by subst e;rcases p with j|j;exact absurd j V7;exact hO j)];exact R.ext.block k hk hO⟩
  (λh o' l' G aa=>by
   rw[Ht]at G;by_cases e:h=D
   .rw[if_pos e]at G;cases G
   .rw[if_neg e]at G;have K:l'.b≠l.b:=λe'=>e (R.inj h D o' _ l' l G (jQ.1 C) aa hl e');exact⟨setRow_other w l.b l'.b _ K,K⟩) p (by
   refine⟨_,r,setRow_heap w l.b _ _ r _ M,?_,?_,λi x hx=> ?_⟩
   .simp;omega
   .show l.off+a+(s++z).length<=l.size;rw[zA5,e1,e2];omega
   .have J:ρ.le (ρ.upd (H.del D).n ⟨l.b,l.off+a,l.size,(.cells (c.toList.take (l.off+a+k*f)++d++c.toList.drop (l.off+a+k*f+d.length)).toArray r),.cells (s++z)⟩):=As (R.fresh _ (zAg _));have Y:=bB hx;rw[zA5,e1,e2]at Y;obtain⟨y,L,hr⟩:=(F.rel.append r2).get hx;refine⟨y,?_,hr.le J,?_⟩
    .show(c.toList.take (l.off+a+k*f)++d++c.toList.drop (l.off+a+k*f+d.length)).toArray[l.off+a+i]? = some y;rw[List.getElem?_toArray,zB6];by_cases hi:i<k*f
     .rw[zAc Q1,zAt,Q3,zAl];rw[zAc V7]at L;obtain⟨O,ad,S,_,X⟩:=F.val;cases S;rcases X with⟨h1,_⟩|⟨A,hA,Q⟩
      .cases h1
      .cases hA;have:=Q i y L;rw[eM]at this;simpa [World.cell?,M]using this
     .rw[zAb Q1,List.length_take,show min (l.off+a+k*f) c.toList.length=l.off+a+k*f by omega];rw[zAb V7,l1]at L;rw[zAc V7];rw[<-L];congr 1;omega
    .rcases zBa.1 (zA3 L)with hm|hm
     .exact F.one y hm
     .exact o2 y hm) (setRow_heap w l.b _ _ r _ M)
 exact⟨c,r,M,V7,B.1,B.2⟩
theorem acN (E:gA P tb) {T C ty:V9} (R:gQ w0 ρ H w) (hv:Rl ρ v V) (hu:Rl ρ u U) (h:acM tb T C v u H=some (g,H')):Pg P w0 ρ (Builtin.append_ #[T,C] ty #[V,U]) w g H':=by
 unfold acM at h;obtain⟨O,h⟩:=bV.1 h;obtain⟨b,N,h⟩:=aE.1 h;obtain⟨t',M,h⟩:=aE.1 h;obtain⟨kn,J,h⟩:=aE.1 h;obtain⟨B,hz,h⟩:=aE.1 h;obtain⟨k,hk,h⟩:=aE.1 h;obtain⟨n,hn,h⟩:=aE.1 h;obtain⟨f,h⟩:=bV.1 h;obtain⟨m,h⟩:=bV.1 h;obtain⟨D,h⟩:=lE.1 h;obtain⟨p,h⟩:=lE.1 h;rw[Ss,jM]at h;cases h;obtain⟨⟨d,hd,F⟩,hE,z⟩:=yL E N;obtain⟨dz,q,_,hC⟩:=vR (ρ:=ρ) E hz;rw[z]at q;cases q;have f:B.length=b.2.size:=zA6 f;have D:b.2.size≠0:=λe=>by rw[e]at D;cases D
 have p:n≠0:=λe=>by rw[e]at p;cases p
 have m:n*(b.2.bytes+1)<16777216:=by simpa [zAy]using m
 have aa:n*b.2.bytes+n<16777216:=by rw[Nat.mul_add,Nat.mul_one]at m;exact m
 rw[yO O]at hv;have hV:=hv.snil_inv;subst hV;rw[nK hk]at hu;rw[hu.int_inv,Hw hn];obtain⟨iE,I,hs,hb,Y⟩:=hE.info;have o:=hd.und;rw[F]at o;have j:=(E.tab M).und;rw[HP J]at j;have hr:=Lib.run_append_nil_zeros (P:=P) w T C ty b.1 iE b.2.zero k.1 kn o j I Y n V7 V7 V7 (by rw[hb];omega);have A:b.2.zero.cells.size=b.2.size:=by have:=hC.r.len;simp at this;omega
 have G:=grownCap_ge w n 0 b.1;have c:=IG hC V7 n;have s:=c.r.len;have hx:Builtin.zeroCells b.2.zero.cells n=(Array.range (n*B.length)).map (b.2.zero.cells[· % b.2.zero.cells.size]!):=by
  unfold Builtin.zeroCells;rw[A,f]
 rw[<-hx]at c s;obtain⟨ab,K,rfl,R'⟩:=R.alloc' (cs:=Ui B n) (a:=Builtin.zeroCells b.2.zero.cells n++Builtin.zeroCells b.2.zero.cells (grownCap w n 0 b.1 - n)) b.1 (by
   simp only[Array.size_append];have:(Ui B n).length=(Builtin.zeroCells b.2.zero.cells n).size:=by simpa using s
   omega) (λi x Q=>by
  obtain⟨y,S,L⟩:=c.r.get Q;have X:(Builtin.zeroCells b.2.zero.cells n)[i]? = some y:=by simpa using S
  exact⟨y,by rw[zBi (by simpa using bB S)];exact X,L,c.one y (by simpa using zA3 S)⟩)
 refine⟨_,_,_,hr,K,R'.ext' ((Below.refl _ _).drew),?_⟩
 refine .sl (l:=⟨w.heap.size,0,(Builtin.zeroCells b.2.zero.cells n++Builtin.zeroCells b.2.zero.cells (grownCap w n 0 b.1 - n)).size,.cells (Builtin.zeroCells b.2.zero.cells n++Builtin.zeroCells b.2.zero.cells (grownCap w n 0 b.1 - n)) b.1,.cells (Ui B n)⟩) (by simp[eZ.upd]) G (.inr ⟨rfl,?_⟩);simp only[Array.size_append,size_zeroCells,A];have:grownCap w n 0 b.1*b.2.size=n*b.2.size+(grownCap w n 0 b.1 - n)*b.2.size:=by
  rw[<-zB3];congr 1;omega
 omega
theorem gQ.put (R:gQ w0 ρ H w) {D o:Nat} {cs z K:V6 GV} {l:NV} {d:V6 V0} (h:H.cells D=some cs) (G:ρ D=some l) (q:qE ρ z d) (n:∀x∈d,one x=true) (p:Iu z o cs=some K) (I:z≠[]):
  ∃a j,w.heap[l.b]? = some (.cells a j (0,0))/\l.off+o+d.length<=a.size/\∃A,ρ.le A/\gQ w0 A (H.set D (.cells K)) (w.setRow l.b (a.toList.take (l.off+o)++d++a.toList.drop (l.off+o+d.length)).toArray):=by
 obtain⟨a,j,C,T,M,f⟩:=R.cells h G;have X:z.length=d.length:=q.len;obtain⟨N,p2,Y⟩:=Ln p;have N:=N I;refine⟨a,j,C,V7,_,R.set (jQ.1 h) G ?_ (λk F=>setRow_other w l.b k _ F) ?_ (setRow_heap w l.b _ _ j _ C)⟩
 .obtain⟨l',m,c,_⟩:=R.live _ _ (jQ.1 h);rw[G]at m;cases m;exact⟨R.ext.os,R.ext.tape,R.ext.output,by simpa using R.ext.size,λk F L=>by
   rw[setRow_other w l.b k _ (λe=>by subst e;rcases c with c|c;exact absurd c V7;exact L c)];exact R.ext.block k F L⟩
 .refine⟨_,j,setRow_heap w l.b _ _ j _ C,?_,V7,λi x r=> ?_⟩
  .simp;omega
  .rw[Y i]at r;have Q:a.toList.length=a.size:=V8
   have s:(a.toList.take (l.off+o)++d++a.toList.drop (l.off+o+d.length)).toArray[l.off+i]? = if o<=i/\i<o+d.length then d[i - o]? else a[l.off+i]?:=by
    rw[List.getElem?_toArray,zB6];by_cases E:i<o
    .rw[Q0,zAc Q1,zAt,Q3,zAl]
    .rw[zAb Q1,List.length_take];have O:min (l.off+o) a.toList.length=l.off+o:=V7
     rw[O];by_cases S:i<o+d.length
     .rw[Q3,zAc V7];congr 1;omega
     .rw[Q0,zAb V7,zAu,zAl];congr 1;omega
   by_cases E:o<=i/\i<o+z.length
   .rw[if_pos E]at r;obtain⟨y,B,J⟩:=q.get r;exact⟨y,by rw[s,Q3];exact B,J,n y (zA3 B)⟩
   .rw[if_neg E]at r;obtain⟨y,B,J⟩:=f i x r;exact⟨y,by rw[s,Q0];exact B,J⟩
theorem acT (hG:gA P tb) {T T' ty:V9} (R:gQ w0 ρ H w) (hv:Rl ρ v V) (hu:Rl ρ u U) (h:agy tb T v u H=some (g,H')):Pg P w0 ρ (Builtin.copy_ #[T,T'] ty #[V,U]) w g H':=by
 obtain⟨s,hs,h⟩:=aE.1 (show ob v.asS _=some (g,H')from h);obtain⟨r,hr,h⟩:=aE.1 h;obtain⟨f,Y,h⟩:=aE.1 h;obtain⟨D,h⟩:=bV.1 h;obtain⟨m,h⟩:=bV.1 h;obtain⟨c,h⟩:=bV.1 h;obtain⟨G,M,h⟩:=aE.1 h;obtain⟨xs,aa,h⟩:=aE.1 h;obtain⟨ds,N,h⟩:=aE.1 h;have D:s.2.2.2=f.2.size:=zA6 D;have m:r.2.2.2=f.2.size:=zA6 m;have c:r.2.2.1=s.2.2.1:=zA6 c;cases xs with
 |nil=>cases h
 | cons x0 xs0 =>
  obtain⟨c1,B,h⟩:=aE.1 (show ob (Iu (x0::xs0) s.2.1 ds) _=some (g,H')from h);rw[Ap]at h;cases h;have k:uW H f.2.size u=some (r.2.2.1,x0::xs0):=by
   unfold uW;rw[Dp hr];have K:Nat.beq f.2.size f.2.size=true:=V8
   show ob (some r) (λs=>bif Nat.beq s.2.2.2 f.2.size then _ else none)=_;show(bif Nat.beq r.2.2.2 f.2.size then ob (H.cells r.1) (λG=>ob (slc G r.2.1 (Nat.mul r.2.2.1 f.2.size)) λq=>some (r.2.2.1,q))else none)=_;rw[m,K,cond_true,M];show ob (slc G r.2.1 (Nat.mul r.2.2.1 f.2.size)) _=_;rw[aa];rfl
  obtain⟨ns,n⟩:=Ep R hu k;obtain⟨⟨d,hd,p⟩,hE,ad⟩:=yL hG Y;rw[Dp hs]at hv;obtain⟨l,ae,A,hl,rfl,hc,ha⟩:=hv.sl_inv;have X:x0::xs0≠[]:=V8
  obtain⟨I,T2,K,y,ab,S,R'⟩:=R.put N hl n.rel n.one B X;have a:=n.len;have i:ns.length≠0:=by have:=n.rel.len;simp at this;omega
  have hA:A=⟨l.b,l.off+s.2.1,none⟩:=by
   rcases ha with ha|⟨e,_⟩
   .exfalso;have:s.2.2.1=0:=V7
    rw[c,this]at a;simp at a;exact i (by simp[a])
   .exact e
  subst hA;have F:=hd.und;rw[p]at F;have E:=run_storeCells_at P l.b (l.off+s.2.1) T2 ns 0 I w K (by simpa using y) (λx hx=>nR (n.one x hx));simp only[Nat.add_zero]at E;obtain⟨ac,o,J,L,O⟩:=n.val;subst J;rcases O with⟨_,h0,_⟩|⟨A2,rfl,j⟩
  .exfalso;rw[h0]at a;simp at a;exact i (by simp[a])
  have Q:=run_firstCells_some (P:=P) w f.2.size r.2.2.1 A2 r.2.2.1 o ns a j;have C:=hd.run_und w;rw[p]at C;refine⟨_,_,ab,?_,S,R',.int _ _⟩
  have z:Nat.min r.2.2.1 s.2.2.1=r.2.2.1:=by rw[c];exact Nat.min_self _
  simp[Builtin.copy_,C,Builtin.lenOf,hE.run_size w,z,Q,E,goInt]
theorem afL (hG:gA P tb) {T T' ty:V9} (R:gQ w0 ρ H w) (hv:Rl ρ v V) (hu:Rl ρ u U) (h:VL tb T T' v u H=some (g,H')):Pg P w0 ρ (Builtin.append_ #[T,T'] ty #[V,U]) w g H':=by
 unfold VL at h;cases F:Nat.beq T T' with
 |false=>rw[F]at h;exact acN hG R hv hu h
 |true=>
 rw[F]at h;have F:T=T':=zA6 F;subst F;rw[cond_true]at h;obtain⟨c,aq,h⟩:=aE.1 h;obtain⟨h0,h⟩:=lE.1 h;obtain⟨zc,hz,h⟩:=aE.1 h;obtain⟨ah,h⟩:=bV.1 h;obtain⟨p,hp,h⟩:=aE.1 h;obtain⟨q,hq,h⟩:=aE.1 h;obtain⟨⟨d,hd,I⟩,hE,ag⟩:=yL hG aq;obtain⟨dz,af,_,hC⟩:=vR (ρ:=ρ) hG hz;rw[ag]at af;cases af;have ah:zc.length=c.2.size:=zA6 ah;have au:c.2.zero.cells.size=c.2.size:=by have:=hC.r.len;simp at this;omega
 have h0:c.2.size≠0:=λe=>by rw[e]at h0;cases h0
 obtain⟨D,c1⟩:=Ep R hv hp;obtain⟨o,L⟩:=Ep R hu hq;have Q:=hd.und;rw[I]at Q;have G:=L.src (P:=P) (T:=T) Q;obtain⟨E,f,S,M,ak⟩:=c1.val;cases C:q.1 with
 |zero=>
  rw[C]at h;cases h;rw[C]at G;have ao:o=[]:=zAn (by have:=L.len;rw[C]at this;simpa using this);subst ao;refine⟨V,w,ρ,?_,eZ.le_refl _,R,hv⟩
  have Y:=hd.run_und w;rw[I]at Y;have N:=G.len w;have ac:=G.cells;subst S;cases E with
  |none=>simp[Builtin.append_,Y,hE.run_size w,N,ac,M]
  |some A=>simp[Builtin.append_,Y,hE.run_size w,N,ac,M,storeCells]
 | succ m =>
  rw[C]at h;simp only[yS]at h;obtain⟨z,h⟩:=bV.1 h;rw[aia,aaF,jM]at h;cases h;have z:(p.1+q.1)*(c.2.bytes+1)<16777216:=by rw[C];simpa [zAy]using z
  have ax:(p.1+q.1)*c.2.bytes+(p.1+q.1)<16777216:=by rw[Nat.mul_add,Nat.mul_one]at z;exact z
  have O:Nat.add p.1 (m+1)=p.1+q.1:=by rw[C];rfl
  have j:qE ρ (p.2++q.2) (D++o):=c1.rel.append L.rel;have J:(p.2++q.2).length=(p.1+q.1)*c.2.size:=by
   rw[j.len,zA5,c1.len,L.len,<-zB3]
  have K:∀x∈D++o,one x=true:=λx hx=>by
   rcases zBa.1 hx with hx|hx
   .exact c1.one x hx
   .exact L.one x hx
  by_cases k:p.1+q.1<=f
  ·
   have ar:∃s,v.asS=some s:=by
    cases ai:v.isSnil with
    |true=>
     rw[yO ai]at hv;have:=hv.snil_inv;rw[S]at this;injection this with _ _ e3;omega
    |false=>
     unfold uW at hp;rw[ai]at hp;obtain⟨s,hs,_⟩:=aE.1 (show ob v.asS _=some p from hp);exact⟨s,hs⟩
   obtain⟨s,hs⟩:=ar;obtain⟨ap,cs,al,ay,az⟩:=UJ hp hs;rw[Dp hs]at hv;obtain⟨l,av,A,hl,ab,hc,ha⟩:=hv.sl_inv;rw[S]at ab;injection ab with e1 e2 e3;subst e1 e3;rcases ha with ha|⟨rfl,B⟩
   .omega
   rw[ap]at B;have aa:=c1;rw[S]at aa;obtain⟨aw,T',hh,ad,X,R'⟩:=XU R al hl aa L.rel L.len L.one k B;have hr:=Nc (P:=P) (ty:=ty) hd I hE hh G k ad;have ae:UL H v=H.del s.1:=by unfold UL;rw[hs]
   rw[ae,S];refine⟨_,_,_,hr,X,R',?_⟩
   rw[O];exact .sl (l:=⟨l.b,l.off+s.2.1,l.size,_,_⟩) (by show(if H.n=H.n then _ else _)=_;exact if_pos Z) k (.inr ⟨rfl,by show l.off+s.2.1+0+f*c.2.size<=l.size;omega⟩)
  ·
   have aj:gQ w0 ρ (UL H v) w.drew:=by
    have:gQ w0 ρ (UL H v) w:=by
     unfold UL;cases v.asS with
     |none=>exact R
     |some s=>exact R.del s.1
    exact this.ext' ((Below.refl _ _).drew)
   have hr:=Tt (P:=P) (ty:=ty) hd I hE (base:=E) (by rw[<-S];exact c1.old) G V7 V7 V7;have am:=grownCap_ge w (p.1+q.1) f c.1;have an:(D++o).length=(p.1+q.1)*c.2.size:=by rw[<-j.len];exact J
   obtain⟨aA,X,rfl,R'⟩:=aj.alloc' (cs:=p.2++q.2) (a:=(D++o).toArray++Builtin.zeroCells c.2.zero.cells (grownCap w (p.1+q.1) f c.1 - (p.1+q.1))) c.1 (by simp only[Array.size_append,List.size_toArray];omega) (λi x hx=>by
    obtain⟨y,hy,hr⟩:=j.get hx;exact⟨y,by rw[zBi (by simpa using bB hy)];simpa using hy,hr,K y (zA3 hy)⟩)
   rw[S];refine⟨_,_,_,hr,X,R',?_⟩
   rw[O];refine .sl (l:=⟨w.heap.size,0,((D++o).toArray++Builtin.zeroCells c.2.zero.cells (grownCap w (p.1+q.1) f c.1 - (p.1+q.1))).size,.cells ((D++o).toArray++Builtin.zeroCells c.2.zero.cells (grownCap w (p.1+q.1) f c.1 - (p.1+q.1))) c.1,.cells (p.2++q.2)⟩) (by simp[eZ.upd]) am (.inr ⟨rfl,?_⟩);simp only[Array.size_append,List.size_toArray,size_zeroCells,au,an];have:grownCap w (p.1+q.1) f c.1*c.2.size=(p.1+q.1)*c.2.size+(grownCap w (p.1+q.1) f c.1 - (p.1+q.1))*c.2.size:=by
    rw[<-zB3];congr 1;omega
   omega
end
section
variable {P:Program} {tb:TB} {ρ:eZ} {V U W X:V0} {v u t g:GV} {gs:AZ} {w0:fM gs} {w:V2} {H H':GH}
theorem TR {T:V9} (R:gQ w0 ρ H w) (h:Ja H=some (g,H')):Pg P w0 ρ (Instr.makeMap T none) w g H':=by
 unfold Ja at h;rw[jM]at h;cases h;have e:Ph w (w.alloc (.map #[] 0)):=(Below.refl _ _).alloc (zAg _) _;have b:=R.new (o:= .mp []) (l:=⟨w.heap.size,0,0,.map #[] 0,.mp []⟩) (R.ext.trans e) (λh k m d f=>by
  obtain⟨l,a,_,c⟩:=R.live h k d;rw[f]at a;cases a;exact⟨e.block _ c.lt,Nat.ne_of_lt c.lt⟩) (.inl R.ext.size) ⟨#[],0,heap_alloc_new w _,rfl,λi x j=>by simp at j⟩ (heap_alloc_new w _)
 refine⟨_,_,_,?_,b.1,b.2,.map (l:=⟨w.heap.size,0,0,.map #[] 0,.mp []⟩) (by simp[eZ.upd])⟩
 simp[Instr.makeMap]
theorem aaK (s r:ByteArray):Uf (mR (bS s),(bS s).length) (mR (bS r),(bS r).length)=(s.toList==r.toList):=by
 rw[Lib.toList_data,Lib.toList_data];unfold Uf;by_cases b:(bS s).length=(bS r).length
 .have d:Nat.beq (bS r).length (bS r).length=true:=V8
  rw[b,d,cond_true];by_cases a:mR (bS s)=mR (bS r)
  .have:=Iq b a;unfold bS at this;rw[a,this];simp
  .rw[oC a];symm;rw[beq_eq_false_iff_ne];intro c;exact a (by unfold bS;rw[c])
 .rw[oC b,cond_false];symm;rw[beq_eq_false_iff_ne];intro c;exact b (by unfold bS;rw[c])
theorem Vx {t:Ty} {a b:GV} {A B:V0} {c:V4} (d:MD t a=true) (e:Rl ρ a A) (f:Rl ρ b B) (h:WU a b=some c):Instr.sameNow t.desc A B=some c:=by
 unfold WU at h;unfold MD at d;cases i:a.asI with
 | some x =>
  rw[i]at h d;obtain⟨y,j,h⟩:=aE.1 (show ob b.asI _=some c from h);obtain⟨z,h⟩:=bV.1 h;cases h;rw[nK i]at e;rw[nK j]at f;rw[e.int_inv,f.int_inv];cases p:tdI t.desc with
  |none=>simp only[p]at d;cases d
  |some k=>
   rw[HP p];have:=Ju z;simp only[Instr.sameNow,this,if_true,Jt];congr 1
 |none=>
  rw[i]at h d;obtain⟨x,q,h⟩:=aE.1 (show ob a.asStr _=some c from h);obtain⟨y,j,h⟩:=aE.1 h;cases h;rw[q]at d;rw[qQ q]at e;rw[qQ j]at f;obtain⟨s,rfl,l,m⟩:=e.str_inv;obtain⟨r,rfl,n,o⟩:=f.str_inv;rw[CJ d];show some (s==r)=_;rw[beq_toListBytes,<-aaK];cases x;cases y;simp only at l m n o;rw[l,m,n,o]
theorem ML {t:Ty} {k:GV} {K:V0} (d:MD t k=true) (c:Rl ρ k K):∀{a:V6 (GV×GV)} {en:V6 MapEntry} {r:V1 GV} (i:Nat),en.length=a.length->(∀(i:Nat) e,a[i]? = some e->∃m,en[i]? = some m/\Rl ρ e.1 m.key/\Rl ρ e.2 m.val)->SR k a=some r->
  (r=none/\Instr.findNow t.desc K en i=some none)\/∃g j x,r=some g/\Rl ρ g x/\Instr.findNow t.desc K en i=some (some (j,x))
 | [],en,r,i,hl,_,h=>by
  cases h;have:en=[]:=zAn (by simpa using hl);subst this;exact .inl ⟨rfl,rfl⟩
 | e :: a, en, r, i, hl, hr, h => by
  obtain⟨b,q,h⟩:=aE.1 (show ob (WU k e.1) (λb=>bif b then some (some e.2)else SR k a)=some r from h);cases en with
  |nil=>simp at hl
  | cons m en =>
   obtain⟨y,f,o,p⟩:=hr 0 e Z;simp at f;subst f;have l:=Vx d c o q;cases b with
   |true=>
    cases h;exact .inr ⟨e.2,i,m.val,rfl,p,by simp[Instr.findNow,l]⟩
   |false=>
    have:=ML (r:=r) d c (i+1) (by simpa using hl) (λi n s=>by have:=hr (i+1) n (by simpa using s);simpa using this) (show SR k a=some r from h);simpa [Instr.findNow,l]using this
theorem SK (a:gA P tb) {T:V9} {t:Ty×Ty} (h:abz tb T=some t):∃d k e,tM P T d/\d.desc = .map k e/\tM P k t.1/\tM P e t.2:=by
 obtain⟨d,j,h⟩:=aE.1 (show ob (tb T) _=some t from h);obtain⟨i,b,h⟩:=aE.1 h;obtain⟨l,c,h⟩:=aE.1 h;obtain⟨m,f,h⟩:=aE.1 h;cases h;exact⟨d,i.1,i.2,a.tab j,aiG b,a.tab c,a.tab f⟩
theorem IK {K:V9} {t:Ty} {b:V4} (j:tM P K t) (c:MD t u=true) (d:Rl ρ u U) (w:V2):(Instr.checkKey b 10000 K U).run P w = .ok () w:=by
 have a:=j.run_und w;unfold MD at c;have h:∀n:Nat,(Instr.checkKey b (n+1) K U).run P w = .ok () w:=λn=>by
  unfold Instr.checkKey;cases e:u.asI with
  |some x=>
   rw[e]at c;rw[nK e]at d;rw[d.int_inv];cases i:tdI t.desc with
   |none=>simp only[i]at c;cases c
   |some k=>rw[HP i]at a;simp[a]
  | none =>
   rw[e]at c;cases f:u.asStr with
   |none=>simp only[f]at c;cases c
   |some x=>
    simp only[f]at c;rw[qQ f]at d;obtain⟨s,rfl,_,_⟩:=d.str_inv;rw[CJ c]at a;simp[a]
 exact h 9999
theorem gQ.map (R:gQ w0 ρ H w) {h:Nat} {c:V6 (GV×GV)} (e:H.get h=some (.mp c)) {l:NV} (f:ρ h=some l):Ak ρ w l (.mp c)/\w0.mine l.b:=by
 obtain⟨j,a,d,i⟩:=R.live h _ e;rw[f]at a;cases a;exact⟨i,d⟩
theorem acU (S:gA P tb) {T:V9} {B:V4} (R:gQ w0 ρ H w) (K:Rl ρ v V) (J:Rl ρ u U) (h:agA tb T B v u H=some g):∃x,Rl ρ g x/\(Instr.lookup T V U B).run P w = .ok x w:=by
 obtain⟨m,hm,h⟩:=aE.1 (show ob v.asM _=some g from h);obtain⟨o,I,h⟩:=aE.1 h;obtain⟨es,D,h⟩:=aE.1 h;obtain⟨t,ht,h⟩:=aE.1 h;obtain⟨G,h⟩:=bV.1 h;obtain⟨r,hr,h⟩:=aE.1 h;obtain⟨z,hz,h⟩:=aE.1 h;rw[asM_eq hm]at K;obtain⟨l,hl,rfl⟩:=K.map_inv;rw[GO.asM_eq D]at I;obtain⟨⟨A,M,Y,s,q⟩,_⟩:=R.map I hl;obtain⟨d,k,e,hd,C,F,E⟩:=SK S ht;have c:=hd.run_und w;rw[C]at c;have n:=IK (P:=P) (b:=A.isEmpty) F G J w;have f:(getObj l.b).run P w = .ok (.map A M) w:=by simp[getObj,Sem.run,Y]
 have a:=F.run_und w;have p:=ML G J (en:=A.toList) (r:=r) 0 (by simpa using s) (λi N he=>by
  obtain⟨m',O,Q⟩:=q i N he;exact⟨m',by rw[zAl];exact O,Q⟩) hr
 have y:=Vr (ρ:=ρ) hz;rcases p with⟨rfl,p⟩|⟨g',j,x,rfl,L,p⟩
 .cases B with
  |false=>cases h;exact⟨_,y,by simp[Instr.lookup,c,f,n,Instr.findKey,a,p,E.run_zero w]⟩
  |true=>cases h;exact⟨.tuple #[t.2.zero,.bool false],KZ (.cons y (.cons (.bool _) .nil)),by simp[Instr.lookup,c,f,n,Instr.findKey,a,p,E.run_zero w]⟩
 .cases B with
  |false=>cases h;exact⟨x,L,by simp[Instr.lookup,c,f,n,Instr.findKey,a,p]⟩
  |true=>cases h;exact⟨.tuple #[x,.bool true],KZ (.cons L (.cons (.bool _) .nil)),by simp[Instr.lookup,c,f,n,Instr.findKey,a,p]⟩
theorem YY (hG:gA P tb) {T:V9} (R:gQ w0 ρ H w) (hv:Rl ρ v V) (N:Rl ρ u U) (hx:Rl ρ t X) (h:acW tb T v u t H=some (g,H')):g = .un/\∃w' C,(Instr.mapUpdate T V U X).run P w = .ok () w'/\ρ.le C/\gQ w0 C H' w':=by
 obtain⟨m,hm,h⟩:=aE.1 (show ob v.asM _=some (g,H')from h);obtain⟨o,M,h⟩:=aE.1 h;obtain⟨Q,L,h⟩:=aE.1 h;obtain⟨ty,ht,h⟩:=aE.1 h;obtain⟨hk,h⟩:=bV.1 h;obtain⟨r,hr,h⟩:=aE.1 h;rw[asM_eq hm]at hv;obtain⟨l,hl,rfl⟩:=hv.map_inv;rw[GO.asM_eq L]at M;obtain⟨⟨z,c,D,p,n⟩,a⟩:=R.map M hl;obtain⟨d,k,e,hd,K,S,hE⟩:=SK hG ht;have q:=hd.run_und w;rw[K]at q;have J:=IK (P:=P) (b:=false) S hk N w;have A:(getObj l.b).run P w = .ok (.map z c) w:=by simp[getObj,Sem.run,D]
 have s:=S.run_und w;have E:=ML hk N (en:=z.toList) (r:=r) 0 (by simpa using p) (λi F f=>by
  obtain⟨O,G,I⟩:=n i F f;exact⟨O,by rw[zAl];exact G,I⟩) hr
 rcases E with⟨rfl,E⟩|⟨g',j,x,rfl,aa,E⟩
 .simp only[Ap]at h;cases h;refine⟨rfl,{w with heap:=w.heap.setIfInBounds l.b (.map (z.push {key:=U,val:=X,born:=c}) (c+1))},_,?_,R.set (X:= .map (z.push {key:=U,val:=X,born:=c}) (c+1)) M hl ?_ ?_ ?_ ?_⟩
  .simp[Instr.mapUpdate,q,A,J,Instr.findKey,s,E,setObj,Sem.run,D]
  .exact⟨R.ext.os,R.ext.tape,R.ext.output,by simpa using R.ext.size,λi B Y=>by
    show(w.heap.setIfInBounds l.b _)[i]? = _;rw[zB2 (λe=>by subst e;rcases a with a|a;exact absurd a V7;exact Y a)];exact R.ext.block i B Y⟩
  .intro i B;show(w.heap.setIfInBounds l.b _)[i]? = _;rw[zB2 (Ne.symm B)]
  .have y:l.b<w.heap.size:=(zAh.1 D).1;refine⟨z.push {key:=U,val:=X,born:=c},c+1,by show(w.heap.setIfInBounds l.b _)[l.b]? = _;rw[zBc y],by simp[p],λi F f=> ?_⟩
   by_cases B:i<Q.length
   .rw[zAc B]at f;obtain⟨O,G,I⟩:=n i F f;exact⟨O,by rw[Array.getElem?_push,Q0];exact G,I⟩
   .rw[zAb V7]at f;have:i=Q.length:=by
     have:=bB f;simp at this;omega
    subst this;simp at f;subst f;exact⟨⟨U,X,c⟩,by rw[Array.getElem?_push,Q3],N,hx⟩
  .have y:l.b<w.heap.size:=(zAh.1 D).1;show(w.heap.setIfInBounds l.b _)[l.b]? = _;rw[zBc y]
 .cases h
end
section
variable {P:Program} {tb:TB} {ρ:eZ} {gs:AZ} {w0:fM gs} {w:V2} {H H':GH} {n:Nat} {σ:GF} {a:Act} {R:Type}
def lK (P:Program) {gs:AZ} (w0:fM gs) (ρ:eZ) (f:Nat) (vs:V6 V0) (w:V2) (g:GV) (H':GH):Prop:=
 (∃v w' b,(callFunc f vs.toArray).run P w = .ok (.value v) w'/\ρ.le b/\gQ w0 b H' w'/\Rl b g v)\/
 ((callFunc f vs.toArray).run P w = .ok (.enter f vs.toArray) w/\Calls P f vs.toArray w λe w'=>∃v b,e = .returned v/\ρ.le b/\gQ w0 b H' w'/\Rl b g v)
def tR (P:Program) {gs:AZ} (w0:fM gs) (d:CH):Prop:=∀f b H g H',d f b H=some (g,H')->∀ρ w c,gQ w0 ρ H w->qE ρ b c->lK P w0 ρ f c w g H'
def DJ (P:Program) {gs:AZ} (w0:fM gs) (ρ:eZ) (σ:GF) (a:Act) (w:V2) (o:V5) (g:GV) (H H':GH):Prop:=
 (fI o.op=false/\o_ o.op=false/\Qi o.op=false/\H'=H/\∃v,Rl ρ g v/\∀w,(execOp a.eval o).run P w = .ok (.value v) w)\/
 (fI o.op=false/\o_ o.op=true/\H'=H/\∃v h l,ldH σ o.op=some h/\ρ h=some l/\(∃x,H.get h=some x)/\Rl ρ g v/\∀d,d.heap[l.b]? = w.heap[l.b]? -> (execOp a.eval o).run P d = .ok (.value v) d)\/
 (fI o.op=false/\Qi o.op=true/\H'=H/\∃v,Rl ρ g v/\(execOp a.eval o).run P w = .ok (.value v) w)\/
 (fI o.op=true/\∀K:Act->V2->Prop,(∀c d v,ρ.le c->gQ w0 c H' d->Rl c g v->K (a.put o.dst v) d)->o.wp P a w K Us)
theorem DJ.comp {o:V5} {g:GV} {s:Sem V0} (e:fI o.op=false) (h:Ee P ρ s g) (d:∀w v,s.run P w = .ok v w->(execOp a.eval o).run P w = .ok (.value v) w) (b:o_ o.op=false:=by rfl) (c:Qi o.op=false:=by rfl):DJ P w0 ρ σ a w o g H H:=
 let ⟨v,hv,hr⟩:=h;.inl ⟨e,b,c,rfl,v,hv,λw=>d w v (hr w)⟩
theorem DJ.read {o:V5} {g:GV} {s:Sem V0} (c:fI o.op=false) (d:Qi o.op=true) (h:∃x,Rl ρ g x/\s.run P w = .ok x w) (b:∀v,s.run P w = .ok v w->(execOp a.eval o).run P w = .ok (.value v) w):DJ P w0 ρ σ a w o g H H:=
 let ⟨v,hv,hr'⟩:=h;.inr (.inr (.inl ⟨c,d,rfl,v,hv,b v hr'⟩))
theorem DJ.does {o:V5} {g:GV} {s:Sem V0} (j:fI o.op=true) (h:Pg P w0 ρ s w g H') (i:∀v b,s.run P w = .ok v b->(execOp a.eval o).run P w = .ok (.value v) b):DJ P w0 ρ σ a w o g H H':=by
 obtain⟨v,b,d,k,c,e,l⟩:=h;refine .inr (.inr (.inr ⟨j,λK f=> ?_⟩));simp only[Oper.wp,i v b k,Oper.upon];exact f d b v c e l
theorem DJ.act {o:V5} {g:GV} {s:Sem Unit} (j:fI o.op=true) (h:g = .un/\∃c b,s.run P w = .ok () c/\ρ.le b/\gQ w0 b H' c) (i:∀c,s.run P w = .ok () c->(execOp a.eval o).run P w = .ok .skip c):DJ P w0 ρ σ a w o g H H':=by
 obtain⟨rfl,c,b,k,d,e⟩:=h;refine .inr (.inr (.inr ⟨j,λK f=> ?_⟩));simp only[Oper.wp,i c k,Oper.upon];exact f b c undef d e .un
theorem Lm (F:mC ρ n σ a) {o:V1 V3} {g:V1 GV} (h:Jv σ o=some g):RlO ρ g (o.map a.eval):=by
 cases o with
 |none=>cases h;exact .inl ⟨rfl,rfl⟩
 |some x=>
  obtain⟨v,b,h⟩:=aE.1 (show ob (lF σ x) _=some g from h);cases h;exact .inr ⟨v,_,rfl,rfl,cM F b⟩
theorem GJ {c:Type} {b:Array c} {x y:c} (h:b.toList=[x,y]):b = #[x,y]:=by
 cases b;simp at h;rw[h]
theorem Lv {c:Type} {b:Array c} {x:c} (h:b.toList=[x]):b = #[x]:=by
 cases b;simp at h;rw[h]
theorem Ew {f:V3->KT R} {k:GV->GH->V1 R} {r:R}:∀{b:V6 V3},MC b f σ H k=some r->∃x,b=[x]/\f x σ H k=some r
 | [],h=>by cases h
 | [x],h=>⟨x,rfl,h⟩
 |_::_::_,h=>by cases h
theorem AB {f:V3->V3->KT R} {k:GV->GH->V1 R} {r:R}:∀{b:V6 V3},FC b f σ H k=some r->∃x y,b=[x,y]/\f x y σ H k=some r
 | [],h=>by cases h
 | [_],h=>by cases h
 | [x,y],h=>⟨x,y,rfl,h⟩
 |_::_::_::_,h=>by cases h
theorem nG {o:OR} {k:GV->GH->V1 R} {r:R} (h:fW o k=some r):∃g H',o=some (g,H')/\k g H'=some r:=by
 obtain⟨⟨g,H'⟩,b,c⟩:=aE.1 (show ob o _=some r from h);exact⟨g,H',b,c⟩
theorem ae_ (I:gA P tb) (F:mC ρ n σ a) (L:gQ w0 ρ H w) {b:Builtin} {C:Array V3} {c:Array V9} {k:GV->GH->V1 R} {r:R} {d:V1 Tmp} {i:V9} {K:String} {J:Array Edge} {M:V1 (Nat×V4)} (e:c.size=C.size)
  (h:Vf tb C c b σ H k=some r):∃g H',k g H'=some r/\DJ P w0 ρ σ a w ⟨d,.call ⟨.builtin b,C,c⟩,i,K,J,M⟩ g H H':=by
 cases b with
 | len =>
  obtain⟨x,z,h⟩:=Ew (show MC C.toList (Yy tb c.toList) σ H k=some r from h);obtain⟨T,f,h⟩:=aE.1 (show ob (Jg c.toList 0) _=some r from h);obtain⟨v,s,h⟩:=aE.1 h;obtain⟨g,o,p⟩:=aE.1 h;have m:=Lv z;subst m;have j:c = #[T]:=by
   rw[wG]at f;obtain⟨l⟩:=c
   match l,e with
   | [t],_=>simp at f;subst f;rfl
  subst j;exact⟨g,H,p,.comp Z (XC I (ty:=i) (cM F s) o) (λw v q=>by simp[execOp,resolve,invoke,builtin,q])⟩
 | max =>
  obtain⟨x,y,z,h⟩:=AB (show FC C.toList (λx y=>k2 x y TS) σ H k=some r from h);obtain⟨v,s,h⟩:=aE.1 (show ob (lF σ x) _=some r from h);obtain⟨u,E,h⟩:=aE.1 h;obtain⟨g,o,p⟩:=aE.1 h;have m:=GJ z;subst m;obtain⟨A,B,j⟩:∃A B,c = #[A,B]:=by
   obtain⟨l⟩:=c
   match l,e with
   | [t,t'],_=>exact⟨t,t',rfl⟩
  subst j;exact⟨g,H,p,.comp Z (XD (t1:=A) (t2:=B) (ty:=i) (cM F s) (cM F E) o) (λw v q=>by simp[execOp,resolve,invoke,builtin,q])⟩
 | min =>
  obtain⟨x,y,z,h⟩:=AB (show FC C.toList (λx y=>k2 x y acX) σ H k=some r from h);obtain⟨v,s,h⟩:=aE.1 (show ob (lF σ x) _=some r from h);obtain⟨u,E,h⟩:=aE.1 h;obtain⟨g,o,p⟩:=aE.1 h;have m:=GJ z;subst m;obtain⟨A,B,j⟩:∃A B,c = #[A,B]:=by
   obtain⟨l⟩:=c
   match l,e with
   | [t,t'],_=>exact⟨t,t',rfl⟩
  subst j;exact⟨g,H,p,.comp Z (XE (t1:=A) (t2:=B) (ty:=i) (cM F s) (cM F E) o) (λw v q=>by simp[execOp,resolve,invoke,builtin,q])⟩
 | append =>
  obtain⟨x,y,z,h⟩:=AB (show FC C.toList (abj tb c.toList) σ H k=some r from h);obtain⟨T,f,h⟩:=aE.1 (show ob (Jg c.toList 0) _=some r from h);obtain⟨G,D,h⟩:=aE.1 h;obtain⟨v,s,h⟩:=aE.1 h;obtain⟨u,E,h⟩:=aE.1 h;obtain⟨g,H',o,p⟩:=nG h;have m:=GJ z;subst m;have j:c = #[T,G]:=by
   rw[wG]at f D;obtain⟨l⟩:=c
   match l,e with
   | [t,t'],_=>simp at f D;subst f D;rfl
  subst j;exact⟨g,H',p,.does Z (afL I (ty:=i) L (cM F s) (cM F E) o) (λv N q=>by simp[execOp,resolve,invoke,builtin,q])⟩
 | copy =>
  obtain⟨x,y,z,h⟩:=AB (show FC C.toList (SI tb c.toList) σ H k=some r from h);obtain⟨T,f,h⟩:=aE.1 (show ob (Jg c.toList 0) _=some r from h);obtain⟨v,s,h⟩:=aE.1 h;obtain⟨u,E,h⟩:=aE.1 h;obtain⟨g,H',o,p⟩:=nG h;have m:=GJ z;subst m;obtain⟨G,j⟩:∃G,c = #[T,G]:=by
   rw[wG]at f;obtain⟨l⟩:=c
   match l,e with
   | [t,t'],_=>simp at f;subst f;exact⟨t',rfl⟩
  subst j;exact⟨g,H',p,.does Z (acT I (T':=G) (ty:=i) L (cM F s) (cM F E) o) (λv N q=>by simp[execOp,resolve,invoke,builtin,q])⟩
 | cap =>
  obtain⟨x,z,h⟩:=Ew (show MC C.toList (Yx tb c.toList) σ H k=some r from h);obtain⟨T,f,h⟩:=aE.1 (show ob (Jg c.toList 0) _=some r from h);obtain⟨v,s,h⟩:=aE.1 h;obtain⟨g,o,p⟩:=aE.1 h;have m:=Lv z;subst m;have j:c = #[T]:=by
   rw[wG]at f;obtain⟨l⟩:=c
   match l,e with
   | [t],_=>simp at f;subst f;rfl
  subst j;exact⟨g,H,p,.comp Z (Xz I (ty:=i) (cM F s) o) (λw v q=>by simp[execOp,resolve,invoke,builtin,q])⟩
 |_=>cases h
theorem Yw {N:CH} (D:tR P w0 N) (F:mC ρ n σ a) (S:gQ w0 ρ H w) {f:V3} {q:Array V3} {O:Array V9} {k:GV->GH->V1 R} {r:R} {d:V1 Tmp} {Q:V9} {x:String} {s:Array Edge} {J:V1 (Nat×V4)}
  (h:abk N q f σ H k=some r):∃g H',k g H'=some r/\DJ P w0 ρ σ a w ⟨d,.call ⟨.value f,q,O⟩,Q,x,s,J⟩ g H H':=by
 obtain⟨v,X,h⟩:=aE.1 (show ob (lF σ f) _=some r from h);obtain⟨p,W,h⟩:=aE.1 h;obtain⟨Y,E,h⟩:=aE.1 h;obtain⟨g,H',V,h⟩:=nG h;refine⟨g,H',h,.inr (.inr (.inr ⟨rfl,λK L=> ?_⟩))⟩
 have M:=cM F X;rw[aaa W]at M;obtain⟨A,z,U,C,B⟩:=M.fn_inv;have u:=Gw F E;have t:=(C.append u).append B;have c:∀G l,(callFunc p.1 (A++q.toList.map a.eval++z).toArray).run P w = .ok G l->(execOp a.eval ⟨d,.call ⟨.value f,q,O⟩,Q,x,s,J⟩).run P w = .ok G l:=λG l o=>by
  have T:(A++q.toList.map a.eval++z).toArray=A.toArray++(q.map a.eval++z.toArray):=by
   apply Array.toList_inj.1;simp
  rw[T]at o;simp[execOp,resolve,U,Deferred.ofValue,invoke,o]
 rcases D _ _ _ _ _ V ρ w _ S t with⟨I,l,m,o,i,y,j⟩|⟨o,b⟩
 .simp only[Oper.wp,c _ _ o,Oper.upon];exact L m l I i y j
 .simp only[Oper.wp,c _ _ o,Oper.upon];refine b.mono ?_;rintro e l ⟨I,m,rfl,i,y,j⟩;exact L m l I i y j
def MS:Op->V4
 | .call c=>Nat.beq c.argTypes.size c.args.size
 |_=>true
theorem UX (B:gA P tb) {ih:CH} (V:tR P w0 ih) (F:mC ρ n σ a) (E:gQ w0 ρ H w) {o:V5} {k:GV->GH->V1 R} {r:R} (J:MS o.op=true\/∃c f,o.op = .call c/\c.callee = .value f) (h:Rb tb ih o.op σ H k=some r):
  ∃g H',k g H'=some r/\DJ P w0 ρ σ a w o g H H':=by
 obtain⟨d,K,ty,ad,ac,gd⟩:=o;cases K with
 |move x=>
  obtain⟨v,A,h⟩:=aE.1 (show ob (lF σ x) _=some r from h);exact⟨v,H,h,.inl ⟨rfl,rfl,rfl,rfl,_,cM F A,λw=>by simp[execOp]⟩⟩
 |assign x=>
  obtain⟨v,A,h⟩:=aE.1 (show ob (lF σ x) _=some r from h);exact⟨v,H,h,.inl ⟨rfl,rfl,rfl,rfl,_,cM F A,λw=>by simp[execOp]⟩⟩
 |pick c x y=>
  obtain⟨v,A,h⟩:=aE.1 (show ob (lF σ c) _=some r from h);obtain⟨u,C,h⟩:=aE.1 h;obtain⟨t,X,h⟩:=aE.1 h;obtain⟨g,s,h⟩:=aE.1 h;obtain⟨b,hb,s⟩:=aE.1 (show ob v.asB _=some g from s);have O:=cM F A;rw[Do hb]at O;cases b with
  |true=>cases s;exact⟨_,H,h,.inl ⟨rfl,rfl,rfl,rfl,_,cM F C,λw=>by simp[execOp,O.bool_inv,asBool]⟩⟩
  |false=>cases s;exact⟨_,H,h,.inl ⟨rfl,rfl,rfl,rfl,_,cM F X,λw=>by simp[execOp,O.bool_inv,asBool]⟩⟩
 |alloc T=>
  obtain⟨g,H',s,h⟩:=nG (show fW (wH tb T H) k=some r from h);exact⟨g,H',h,.does Z (Kd B E s) (λv I j=>by simp[execOp,j])⟩
 |box T x=>
  obtain⟨v,A,h⟩:=aE.1 (show ob (lF σ x) _=some r from h);obtain⟨g,H',s,h⟩:=nG h;exact⟨g,H',h,.does Z (afM (T:=T) E (cM F A) s) (λv I j=>by simp[execOp,j])⟩
 | build T ps =>
  obtain⟨vs,G,h⟩:=aE.1 (show ob (wD σ ps.toList) _=some r from h);obtain⟨g,s,h⟩:=aE.1 h;exact⟨g,H,h,.comp Z (OU B (DR F G) s) (λw v j=>by
   have e:(ps.toList.map λp=>(p.1,a.eval p.2)).toArray=ps.map λp=>(p.1,a.eval p.2):=by apply Array.toList_inj.1;simp
   rw[e]at j;simp[execOp,j])⟩
 | buildSlice T m ps =>
  obtain⟨vs,G,h⟩:=aE.1 (show ob (wD σ ps.toList) _=some r from h);obtain⟨g,H',s,h⟩:=nG h;exact⟨g,H',h,.does Z (VO B E (DR F G) s) (λv I j=>by
   have e:(ps.toList.map λp=>(p.1,a.eval p.2)).toArray=ps.map λp=>(p.1,a.eval p.2):=by apply Array.toList_inj.1;simp
   rw[e]at j;simp[execOp,j])⟩
 |load T x=>
  obtain⟨v,A,h⟩:=aE.1 (show ob (lF σ x) _=some r from h);obtain⟨g,s,h⟩:=aE.1 h;obtain⟨x',p,l,Q,W,U,ab,j⟩:=Nr (P:=P) B E (cM F A) s;exact⟨g,H,h,.inr (.inl ⟨rfl,rfl,rfl,x',p.1,l,by show ob (lF σ x) _=_;rw[A,Q];rfl,W,U,ab,λI aa=>by have:=j I aa;simp[execOp,this]⟩)⟩
 |store T x y=>
  obtain⟨v,A,h⟩:=aE.1 (show ob (lF σ x) _=some r from h);obtain⟨u,C,h⟩:=aE.1 h;obtain⟨g,H',s,h⟩:=nG h;exact⟨g,H',h,.act Z (Kf B E (cM F A) (cM F C) s) (λI j=>by simp[execOp,j])⟩
 |nilCheck x=>
  obtain⟨v,A,h⟩:=aE.1 (show ob (lF σ x) _=some r from h);obtain⟨g,s,hk⟩:=aE.1 h;obtain⟨rfl,j⟩:=SX (P:=P) (cM F A) s;exact⟨_,H,hk,.inl ⟨rfl,rfl,rfl,rfl,_,cM F A,λw=>j _ x a.eval Z Z w⟩⟩
 | binOp K T x y T' =>
  obtain⟨v,A,h⟩:=aE.1 (show ob (lF σ x) _=some r from h);obtain⟨u,C,h⟩:=aE.1 h;obtain⟨g,s,h⟩:=aE.1 h;exact⟨g,H,h,.comp Z (Xy B x y (cM F A) (cM F C) s) (λw v j=>by
   simp only[execOp];simp at j ⊢;cases hq:Sem.run P (eqGuard K T x y (a.eval x) (a.eval y)) w with
   |ok u w1=>rw[hq]at j;simp at j;simp[j]
   |halt h1 w1=>rw[hq]at j;cases j)⟩
 |unOp K T x=>
  obtain⟨v,A,h⟩:=aE.1 (show ob (lF σ x) _=some r from h);obtain⟨g,s,h⟩:=aE.1 h;exact⟨g,H,h,.comp Z (ac_ (cM F A) s) (λw v j=>by simp[execOp,j])⟩
 |convert S D x=>
  obtain⟨v,A,h⟩:=aE.1 (show ob (lF σ x) _=some r from h);obtain⟨g,s,h⟩:=aE.1 h;exact⟨g,H,h,.comp Z (TN B (cM F A) s) (λw v j=>by simp[execOp,j])⟩
 | makeFunc fn first caps =>
  cases fn with
  |func f=>
   obtain⟨us,Y,h⟩:=aE.1 (show ob (HC σ first.toList) _=some r from h);obtain⟨vs,G,h⟩:=aE.1 h;refine⟨_,H,h,.inl ⟨rfl,rfl,rfl,rfl,_,Rl.fn' (Gw F Y) (Gw F G),λw=> ?_⟩⟩
   have M:(first.toList.map a.eval).toArray=first.map a.eval:=by apply Array.toList_inj.1;simp
   have N:(caps.toList.map a.eval).toArray=caps.map a.eval:=by apply Array.toList_inj.1;simp
   rw[M,N];simp[execOp,Instr.makeFunc]
  |_=>cases h
 | makeMap T q =>
  cases q with
  |none=>
   obtain⟨g,H',s,h⟩:=nG (show fW (Ja H) k=some r from h);exact⟨g,H',h,.does Z (TR (T:=T) E s) (λv I j=>by simp[execOp,j])⟩
  |some x=>cases h
 |makeSlice T x y=>
  obtain⟨v,A,h⟩:=aE.1 (show ob (lF σ x) _=some r from h);obtain⟨u,C,h⟩:=aE.1 h;obtain⟨g,H',s,h⟩:=nG h;exact⟨g,H',h,.does Z (acV B E (cM F A) (cM F C) s) (λv I j=>by simp[execOp,j])⟩
 | slice T x lo hi mx =>
  cases mx with
  |none=>
   obtain⟨v,A,h⟩:=aE.1 (show ob (lF σ x) _=some r from h);obtain⟨l,W,h⟩:=aE.1 h;obtain⟨e,Q,h⟩:=aE.1 h;obtain⟨g,s,h⟩:=aE.1 h;exact⟨g,H,h,.comp Z (OX B (.inl ⟨_,_,E⟩) (cM F A) (Lm F W) (Lm F Q) s) (λw v j=>by simp[execOp,j])⟩
  |some y=>cases h
 |fieldAddr T x f=>
  obtain⟨v,A,h⟩:=aE.1 (show ob (lF σ x) _=some r from h);obtain⟨g,s,h⟩:=aE.1 h;exact⟨g,H,h,.comp Z (OV B (cM F A) s) (λw v j=>by simp[execOp,j])⟩
 |field T x f=>
  obtain⟨v,A,h⟩:=aE.1 (show ob (lF σ x) _=some r from h);obtain⟨g,s,h⟩:=aE.1 h;exact⟨g,H,h,.comp Z (TT B (cM F A) s) (λw v j=>by simp[execOp,j])⟩
 |indexAddr T x y=>
  obtain⟨v,A,h⟩:=aE.1 (show ob (lF σ x) _=some r from h);obtain⟨u,C,h⟩:=aE.1 h;obtain⟨g,s,h⟩:=aE.1 h;exact⟨g,H,h,.comp Z (OW B (cM F A) (cM F C) s) (λw v j=>by simp[execOp,j])⟩
 |index T x y=>
  obtain⟨v,A,h⟩:=aE.1 (show ob (lF σ x) _=some r from h);obtain⟨u,C,h⟩:=aE.1 h;obtain⟨g,s,h⟩:=aE.1 h;exact⟨g,H,h,.comp Z (acP B (cM F A) (cM F C) s) (λw v j=>by simp[execOp,j])⟩
 |lookup T x y ok=>
  obtain⟨v,A,h⟩:=aE.1 (show ob (lF σ x) _=some r from h);obtain⟨u,C,h⟩:=aE.1 h;obtain⟨g,s,h⟩:=aE.1 h;exact⟨g,H,h,.read Z Z (acU B E (cM F A) (cM F C) s) (λv j=>by simp[execOp,j])⟩
 |mapUpdate T x y z=>
  obtain⟨v,A,h⟩:=aE.1 (show ob (lF σ x) _=some r from h);obtain⟨u,C,h⟩:=aE.1 h;obtain⟨t,X,h⟩:=aE.1 h;obtain⟨g,H',s,h⟩:=nG h;exact⟨g,H',h,.act Z (YY B E (cM F A) (cM F C) (cM F X) s) (λI j=>by simp[execOp,j])⟩
 |extract x i=>
  obtain⟨v,A,h⟩:=aE.1 (show ob (lF σ x) _=some r from h);obtain⟨g,s,h⟩:=aE.1 h;exact⟨g,H,h,.comp Z (XA (cM F A) s) (λw v j=>by simp[execOp,j])⟩
 | call c =>
  obtain⟨L,xs,ts⟩:=c;cases L with
  |value f=>exact Yw V F E h
  |invoke x m=>cases h
  |builtin b=>
   refine ae_ B F E ?_ h;rcases J with J|⟨c,f,M,N⟩
   .exact zA6 J
   .cases M;cases N
 |_=>cases h
end
theorem EK {R:Type}:∀(a:rR) (b:V6 GV) (f:GF->V1 R),lB a b f=ob (lB a b some) f
 | [],[],f=>rfl
 | [],_::_,f=>rfl
 |key::a,[],f=>rfl
 |key::a,v::b,f=>by
  show lB a b (λc=>f ((key,v)::c))=ob (lB a b λc=>some ((key,v)::c)) f;rw[EK a b (λc=>f ((key,v)::c)),EK a b (λc=>some ((key,v)::c))];cases lB a b some<;>rfl
theorem sG {R:Type} {a:rR} {b:V6 GV} {f:GF->V1 R} {r:R} (h:lB a b f=some r):∃c,lB a b some=some c/\f c=some r:=by
 rw[EK]at h;exact aE.1 h
theorem Lr {j:eZ} {n:Nat} {f:GF} {a:Act} (F:mC j n f a):∀{d:rR} {b:GF},lB d (DY f d) some=some b->mC j n b a
 | [],b,h=>by cases h;exact⟨F.defers,F.size,λt g c=>by cases c⟩
 | key :: d, b, h => by
  have k:lB d (DY f d) (λb=>some ((key,Option.casesOn (motive:=λ_=>GV) (GQ f key) .bad (λv=>v))::b))=some b:=h;obtain⟨s,l,m⟩:=sG k;cases m;have o:=Lr F l;refine⟨F.defers,F.size,λt g c=> ?_⟩
  rw[Ci]at c;by_cases e:t=key
  .subst e;rw[if_pos Z]at c;cases i:GQ f t with
   |none=>rw[i]at c;cases c;exact .bad _
   |some v=>rw[i]at c;cases c;exact F.slot t v i
  .rw[if_neg e]at c;exact o.slot t g c
theorem Qz (c:GF):∀b:rR,∃a,lB b (DY c b) some=some a
 | []=>⟨[],rfl⟩
 |key::b=>by
  obtain⟨a,h⟩:=Qz c b;refine⟨(key,Option.casesOn (motive:=λ_=>GV) (GQ c key) .bad (λv=>v))::a,?_⟩
  show lB b (DY c b) (λa=>some ((key,Option.casesOn (motive:=λ_=>GV) (GQ c key) .bad (λv=>v))::a))=_;rw[EK,h];rfl
theorem LV:∀{m i:Nat} {b:V6 GV} {a:GF},lB (List.range' i m) b some=some a->b.length=m
 |0,i,[],a,h=>rfl
 |0,i,_::_,a,h=>by cases h
 |m+1,i,[],a,h=>by cases h
 |m+1,i,u::b,a,h=>by
  obtain⟨s,c,_⟩:=sG (show lB (List.range' (i+1) m) b (λa=>some ((i,u)::a))=some a from h);simp[LV c]
theorem Pz {o:eZ} {n:Nat} {a:Act} (k:a.defers=[]) (l:a.tmps.size=n):∀{m i:Nat} {f:V6 GV} {d:e_} {b:GF},qE o f d->(∀j v,d[j]? = some v->a.tmps[i+j]? = some v)->lB (List.range' i m) f some=some b->mC o n b a
 |0,i,[],d,b,_,_,h=>by cases h;exact⟨k,l,λt g c=>by cases c⟩
 |0,i,_::_,d,b,_,_,h=>by cases h
 |m+1,i,[],d,b,_,_,h=>by cases h
 | m + 1, i, u :: f, d, b, hr, ha, h => by
  obtain⟨v,d,rfl,q,r⟩:=hr.of_cons;have p:lB (List.range' (i+1) m) f (λb=>some ((i,u)::b))=some b:=h;obtain⟨s,w,x⟩:=sG p;cases x;have z:=Pz k l r (λj v y=>by have:=ha (j+1) v (by simpa using y);rwa[show i+(j+1)=i+1+j by omega]at this) w;refine⟨k,l,λt g c=> ?_⟩
  rw[Ci]at c;by_cases e:t=i
  .subst e;rw[if_pos Z]at c;cases c;have:=ha 0 v Z;simp[Act.eval,show a.tmps[t]? = some v by simpa using this,q]
  .rw[if_neg e]at c;exact z.slot t g c
def JI (n:Nat) (o:V5):V4:=kD o&&(match o.dst with|none=>true|some d=>Nat.blt d n)&&(MS o.op||(match o.op with|.call c=>(match c.callee with|.value _=>true|_=>false)|_=>false))
section
variable {P:Program} {tb:TB} {gs:AZ} {w0:fM gs}
theorem vF {n:Nat} {o:V5} (h:JI n o=true):kD o=true/\(∀d,o.dst=some d->d<n)/\(MS o.op=true\/∃c f,o.op = .call c/\c.callee = .value f):=by
 unfold JI at h;simp only[zA4,zAx]at h;obtain⟨⟨j,g⟩,a⟩:=h;refine⟨j,λd k=> ?_,?_⟩
 .rw[k]at g;simpa [zAy]using g
 .rcases a with a|a
  .exact .inl a
  .right;cases i:o.op with
   |call c=>
    rw[i]at a;cases e:c.callee with
    |value f=>exact⟨c,f,rfl,e⟩
    |invoke x m=>simp only[e]at a;cases a
    |builtin b=>simp only[e]at a;cases a
   |_=>rw[i]at a;cases a
theorem mC.putD {b:eZ} {n:Nat} {c:GF} {a:Act} (F:mC b n c a) {d:V1 Nat} (e:∀x,d=some x->x<n) {g:GV} {v:V0} (f:Rl b g v):mC b n (putD d g c) (a.put d v):=by
 cases d with
 |none=>exact⟨F.defers,F.size,F.slot⟩
 |some d=>exact F.put (e d Z) f
theorem aeL {x:CH} (I:gA P tb) (t:tR P w0 x) {all:V6 V5} {n:Nat} {o:V5} {k:GS->RS} {s:GS} {f:RB} {E:eZ} {a:Act} {w:V2} (L:JI n o=true) (F:mC E n s.σ a) (R:gQ w0 E s.H w) (h:Mn tb x all o k s=some f):
  (Region.wanted o (yielded all.toArray a.tmps)=true/\∃g j,k ⟨putD o.dst g s.σ,j⟩=some f/\DJ P w0 E s.σ a w o g s.H j)\/
  (Region.wanted o (yielded all.toArray a.tmps)=false/\k ⟨putD o.dst .un s.σ,s.H⟩=some f):=by
 obtain⟨Q,S,G⟩:=vF L;unfold Mn at h;cases r:o.guard with
 |none=>
  rw[r]at h;obtain⟨g,j,B,C⟩:=UX I t F R G (show Rb tb x o.op s.σ s.H (opK o.dst s k)=some f from h);exact .inl ⟨by simp[Region.wanted,r],g,j,B,C⟩
 | some gd =>
  rw[r]at h;obtain⟨T,u,h⟩:=aE.1 (show ob (Jg all gd.1) _=some f from h);obtain⟨l,A,h⟩:=aE.1 h;obtain⟨v,N,h⟩:=aE.1 h;obtain⟨g,j,m,p⟩:=nG h;have e:=F.slot l v N;rw[wG]at u;have D:yielded all.toArray a.tmps gd.1=(match a.tmps[l]? with|some (.bool b)=>some b|_=>none):=by
   unfold yielded;have:(all.toArray[gd.1]?).bind (·.dst)=some l:=by simp[u,A]
   rw[this];rfl
  cases v with
  | bool q =>
   have d:=e.bool_inv;have M:a.tmps[l]? = some (.bool q):=by
    simp only[Act.eval,Array.getD_eq_getD_getElem?]at d;cases y:a.tmps[l]? with
    |none=>rw[y]at d;cases d
    |some z=>rw[y]at d;simp at d;rw[d]
   rw[M]at D;have c:Bool.casesOn (motive:=λ_=>OR) (WL q gd.2) (some (.un,s.H)) (Rb tb x o.op s.σ s.H GU)=some (g,j):=m;rw[HA]at c;have J:Region.wanted o (yielded all.toArray a.tmps)=(q==gd.2):=by
    simp only[Region.wanted,r];rw[D];cases q<;>cases gd.2<;>rfl
   cases i:(q==gd.2)with
   |true=>
    rw[i]at c;obtain⟨O,K,B,C⟩:=UX I t F R G (show Rb tb x o.op s.σ s.H GU=some (g,j)from c);cases B;exact .inl ⟨by rw[J,i],g,j,p,C⟩
   |false=>
    rw[i]at c;cases c;exact .inr ⟨by rw[J,i],p⟩
  | un =>
   have d:=e.un_inv;cases m;refine .inr ⟨?_,p⟩;simp only[Region.wanted,r];rw[D];have:(match a.tmps[l]? with|some (.bool b)=>some b|_=>none)=(none:V1 V4):=by
    simp only[Act.eval,Array.getD_eq_getD_getElem?]at d;cases y:a.tmps[l]? with
    |none=>rfl
    |some z=>rw[y]at d;simp at d;rw[d];rfl
   rw[this];rfl
  |_=>cases m
theorem Ir {y:CH} (z:gA P tb) (f:tR P w0 y) {all:V6 V5} {n:Nat} {k:GS->RS} {p:RB} {Q:Exit->Act->V2->Prop}:∀(l:V6 V5) (s:GS) (c:eZ) (a:Act) (w:V2),l.all (JI n)=true->mC c n s.σ a->gQ w0 c s.H w->He tb y all k l s=some p->
  (∀t b x q,k t=some p->c.le b->mC b n t.σ x->gQ w0 b t.H q->Q .normal x q)->Sx.wpList P all.toArray Q l a w
 | [],s,c,a,w,_,F,R,h,hk=>hk s c a w h (eZ.le_refl _) F R
 | o :: l, s, c, a, w, hl, F, R, h, hk => by
  simp only[List.all_cons,zA4]at hl;obtain⟨_,e,_⟩:=vF hl.1;rcases aeL z f hl.1 F R (show Mn tb y all o (He tb y all k l) s=some p from h)with⟨A,g,C,i,K⟩|⟨A,i⟩
  .refine mQ A ?_;have d:∀b q v,c.le b->gQ w0 b C q->Rl b g v->Sx.wpList P all.toArray Q l (a.put o.dst v) q:=λb q v r D m=>
    Ir z f l ⟨putD o.dst g s.σ,C⟩ b _ q hl.2 ((F.le r).putD e m) D i (λt u x B E G I J=>hk t u x B E (eZ.le_trans r G) I J)
   rcases K with⟨_,_,_,rfl,v,m,j⟩|⟨_,_,rfl,v,_,_,_,_,_,m,j⟩|⟨_,_,rfl,v,m,j⟩|⟨_,j⟩
   .simp only[Oper.wp,j w,Oper.upon];exact d c w v (eZ.le_refl _) R m
   .simp only[Oper.wp,j w Z,Oper.upon];exact d c w v (eZ.le_refl _) R m
   .simp only[Oper.wp,j,Oper.upon];exact d c w v (eZ.le_refl _) R m
   .exact MP (j _ d)
  .unfold Sx.wpList;rw[if_neg (by rw[A];simp)];exact Ir z f l ⟨putD o.dst .un s.σ,s.H⟩ c _ w hl.2 (F.putD e .un) R i hk
theorem IC {l:V6 V5} {p:Op->V4} (h:GA l p=true) {i j:Nat} {e f:V5} (c:l[i]? = some e) (d:l[j]? = some f) (k:p e.op=true) (g:fI f.op=true):before (qF l) i j=true\/before (qF l) j i=true:=by
 unfold GA at h;have a:=zA7.1 h i (zAi.2 (bB c));simp only[c,k,Bool.not_true,Bool.false_or]at a;have b:=zA7.1 a j (zAi.2 (bB d));simp only[d,g,Bool.not_true,Bool.false_or,zAx]at b;exact b
theorem TW {c:Type} {H:GH} {h v:Nat} {k:V1 c} {a:c} (x:vck H h v k=some a):H.ver h=some v/\k=some a:=by
 obtain⟨u,d,x⟩:=aE.1 (show ob (H.ver h) _=some a from x);cases b:Nat.beq u v with
 |false=>rw[b]at x;cases x
 |true=>rw[b]at x;rw[d,zA6 b];exact⟨rfl,x⟩
theorem Fx {m:V6 Nat} {i:Nat} {H:GH} {u:Unit}:∀{e:V6 (Nat×V1 (Nat×Nat))},Mg m i H e=some u->∀p∈e,before m i p.1=false->∀a,p.2=some a->H.ver a.1=some a.2
 | [],h=>λp o=>by simp at o
 | p :: e, h => by
  have c:Bool.casesOn (motive:=λ_=>V1 Unit) (before m i p.1) (pck H p.2 (Mg m i H e)) (Mg m i H e)=some u:=h;intro q d b a j;cases g:before m i p.1 with
  | false =>
   rw[g]at c;have k:(∀a,p.2=some a->H.ver a.1=some a.2)/\Mg m i H e=some u:=by
    cases f:p.2 with
    |none=>rw[f]at c;exact⟨λ_ h=>(by cases h),c⟩
    |some x=>rw[f]at c;obtain⟨l,n⟩:=TW (show vck H x.1 x.2 _=some u from c);exact⟨λy r=>by cases r;exact l,n⟩
   rcases zAo.1 d with rfl|d
   .exact k.1 a j
   .exact Fx k.2 q d b a j
  |true=>
   rw[g]at c;rcases zAo.1 d with rfl|d
   .rw[g]at b;cases b
   .exact Fx c q d b a j
theorem Fy {m:V6 Nat} {i h v:Nat} {e:V1 (Nat×Nat)}:∀{c:V6 (Nat×GH)},Mh m i h v c=some e->e=some (h,v)/\∀q∈c,before m i q.1=false->q.2.ver h=some v
 | [],x=>by cases x;exact⟨rfl,λp b=>by simp at b⟩
 | q :: c, x => by
  have d:Bool.casesOn (motive:=λ_=>V1 (V1 (Nat×Nat))) (before m i q.1) (vck q.2 h v (Mh m i h v c)) (Mh m i h v c)=some e:=x;cases j:before m i q.1 with
  |false=>
   rw[j]at d;obtain⟨k,l⟩:=TW d;obtain⟨f,g⟩:=Fy l;refine⟨f,λp b a=> ?_⟩
   rcases zAo.1 b with rfl|b
   .exact k
   .exact g p b a
  |true=>
   rw[j]at d;obtain⟨f,g⟩:=Fy d;refine⟨f,λp b a=> ?_⟩
   rcases zAo.1 b with rfl|b
   .rw[j]at a;cases a
   .exact g p b a
end
end Go.Gx