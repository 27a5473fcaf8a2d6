/- Models and proofs. Conditions: none. -/
import Derived.Test.YtemmagadjnlajaaGreatDoorZCPr7
import Derived.KernelRfl
set_option linter.unusedVariables false
set_option linter.unusedSimpArgs false
set_option maxHeartbeats 4000000
set_option maxRecDepth 20000
open Go.Proofs.Tryz
variable (U:Nat)
namespace Go.Proofs.YtemmagadjnlajaaGreatDoor
open Go.Sx
def yA (a:Unit):V1 V4:=
 some (true)
def yB (b:Int) (a:(Int)->V1 V4) (c:Unit):V1 V4:=
 a (wI .i64 (b+(1:Int)))
def yC (b:Int) (a:(Int)->V1 V4) (c:V4):V1 V4:=
 if c=true then(some (false))else(a (wI .i64 (b+(1:Int))))
def gX (c:dB) (a:Int) (f:(Int)->V1 V4) (b:Int) (e:(Int)->V1 V4):V1 V4:=
 ck (0<=a/\a<(c.2.length:Int)) (if b<((at' c.2 a).length:Int)then(ck (0<=a/\a<(c.2.length:Int)) (ck (0<=b/\b<((at' c.2 a).length:Int)) (Option.bind (BY U ((c.1,c.2)) ((at' (at' c.2 a) b).1) a) λd=>(if d<(0:Int)then(yC b e (true))else(ck (0<=((at' (at' c.2 a) b).1)/\((at' (at' c.2 a) b).1)<(c.2.length:Int)) (ck (0<=d/\d<((at' c.2 ((at' (at' c.2 a) b).1)).length:Int)) (yC b e (decide (((at' (at' c.2 ((at' (at' c.2 a) b).1)) d).2)≠((at' (at' c.2 a) b).2))))))))))else(yB a f (())))
def jB (c:dB) (a:Int) (b:(Int)->V1 V4):V1 V4:=
 if a<(c.2.length:Int)then(bG (gX U c a b) U (0:Int))else(yA (()))
def rD (a:dB) (b:Unit):V1 V4:=
 bG (jB U a) U (0:Int)
def yD (b:Int) (a:(Int)->V1 V4) (c:Unit):V1 V4:=
 a (wI .i64 (b+(1:Int)))
def jV (e:dB) (a:Int) (c:(Int)->V1 V4) (b:Int) (d:(Int)->V1 V4):V1 V4:=
 if b<a then(ck (0<=b/\b<(e.1.length:Int)) (ck (0<=a/\a<(e.1.length:Int)) (if(at' e.1 b)=(at' e.1 a)then(some (false))else(d (wI .i64 (b+(1:Int)))))))else(yD a c (()))
def pH (d:dB) (b:Int) (a:(Int)->V1 V4) (c:V4):V1 V4:=
 if c=true then(some (false))else(bG (jV d b a) U (0:Int))
def jC (b:dB) (a:Int) (c:(Int)->V1 V4):V1 V4:=
 if a<(b.2.length:Int)then(ck (0<=a/\a<(b.1.length:Int)) (Option.bind (uZ U (at' b.1 a) (0:Int) (255:Int)) λd=>(if(!d)=true then(pH U b a c (true))else(ck (0<=a/\a<(b.2.length:Int)) (if(b.2.length:Int)<=((at' b.2 a).length:Int)then(pH U b a c (true))else(ck (0<=a/\a<(b.2.length:Int)) (Option.bind (oE U (at' b.2 a) a (b.2.length:Int)) λe=>(pH U b a c ((!e))))))))))else(rD U b (()))
def x_ (b:dB) (a:V4):V1 V4:=
 if a=true then(some (false))else(bG (jC U b) U (0:Int))
def mO (a:dB):V1 V4:=
 Option.bind (uZ U (a.2.length:Int) (1:Int) (24:Int)) λb=>(if(!b)=true then(x_ U a (true))else(x_ U a (decide ((a.1.length:Int)≠(a.2.length:Int)))))
theorem adb:aX prog 129:=call129
theorem PO (U:Nat) {f:dB} (T V:V0) (z2:oB) (r:Bool) (h:mO U f=some r):
  aZ prog 129 #[Value.agg #[T,V]] [Sl cQ T f.1,S2 aS V z2 f.2] (λx:Unit=>vB (r)) (λx l=>l) (λ_ l=>l):=by
 let d:=vI (f.2.length:Int);refine aZ.of func129 Z ntmps129 Z λc=>?_;refine aT<|aK (aO.box (cs:=[T,V]) Z Z) Z λn=>let e:=bU n [T,V] 29;aB Z<|aM<|aT<|bD Z<|bY 0 Z<|aC (mB Z (iZ Z) Z) Z<|aB Z<|aM<|aI<|aI<|cC (λD=>x_ U f D=some r) (λD b4=>[(1,vP n),(3,d),(22,vB (D))]) (λD b4=>[e]) ?_ ?_
 .refine aL<|aA Z<|dG h λad ah h=>aK (zB8 L_ (Dm U ad ah) Z .nil) Z λan=>aC (fF Z) Z<|aA Z ?_;refine iO (by exact rfl) (by exact rfl) (λq=>?_) (λq=>?_)
  .have h:=Bt q h;refine aD Z<|aD Z<|aD Z<|aD Z<|aD Z<|bO Z<|aM ?_;exact cF (true) () h SF Z
  have h:=w_ q h;refine aF Z (bR Z Z Z Z Z) Z<|aF Z (bX 0 Z Z Z Z Z) Z<|aF Z (dO Z (cG Z) Z) Z<|bH Z<|aF Z (xH Z Z) Z<|bT Z<|aM ?_;exact cF (decide ((f.1.length:Int)≠(f.2.length:Int))) () h SF Z
 intro D b4 h;refine iA h Z (λ_ h=>?_) λ_ h=>?_
 .refine aT<|aB Z<|aM<|aP<|aG ?_;cases h;exact mK Z
 refine bK<|aI<|cC (λW=>rD U f W=some r) (λW b7=>[(1,vP n),(3,d)]) (λW b7=>[e]) ?_ ?_
 .refine aT<|aB Z<|aM<|aU<|eP (jC U f) (λb I=>[(1,vP n),(3,d),(4,vI (b))]) (λb I=>[e]) (0:Int) () h SF (aW.refl _) ?_;intro ab b I h;let B:=(bG (jC U f) ab)
  refine aI<|aT<|aA Z<|aA Z<|cX Z<|aM ?_;refine eF h Z (λh=>?_) λh=>?_
  .refine bK<|aI<|cC (λt=>yD b B t=some r) (λt J=>[(1,vP n),(3,d),(4,vI (b))]) (λt J=>[e]) ?_ ?_
   .refine aU<|aI<|aI<|cC (λm=>pH U f b B m=some r) (λm K=>[(1,vP n),(3,d),(4,vI (b)),(55,vB (m))]) (λm K=>[e]) ?_ ?_
    .refine aL<|bD Z<|bY 0 Z<|aA Z<|eX h λQ h=>aC (a_ Z Z (cG Z) Z Z Q) Z<|aC (eC Z (cG Z) Z Z Z gC Q) Z<|dG h λac af h=>aK (zB8 L_ (Dm U ac af) Z .nil) Z λal=>aC (fF Z) Z<|aA Z ?_;refine iO (by exact rfl) (by exact rfl) (λp=>?_) (λp=>?_)
     .have h:=Bt p h;refine aD Z<|aD Z<|aD Z<|aD Z<|aD Z<|aD Z<|aD Z<|aD Z<|bO Z<|aA Z<|aD Z<|aD Z<|aD Z<|aD Z<|aD Z<|aD Z<|aD Z<|aD Z<|aD Z<|bO Z<|aM ?_;exact cF (true) () h SF Z
     have h:=w_ p h;refine aF Z (bR Z Z Z Z Z) Z<|aF Z (bX 0 Z Z Z Z Z) Z<|bH Z<|eX h λw h=>aF Z (fJ Z Z (iZ Z) Z Z w) Z<|aF Z (eI Z (iZ Z) Z Z w) Z<|aF Z (dO Z (zB9 (iZ Z) w.1 w.2) Z) Z<|bH Z<|aF Z (lD Z Z) Z<|bT Z<|aA Z ?_;refine mL h Z (λ_ h=>?_) λ_ h=>?_
     .refine aD Z<|aD Z<|aD Z<|aD Z<|aD Z<|aD Z<|aD Z<|aD Z<|aD Z<|bO Z<|aM ?_;exact cF (true) () h SF Z
     refine aF Z (bR Z Z Z Z Z) Z<|aF Z (bX 0 Z Z Z Z Z) Z<|bH Z<|eX h λy h=>aF Z (fJ Z Z (iZ Z) Z Z y) Z<|aF Z (eI Z (iZ Z) Z Z y) Z<|bH Z<|bH Z<|dG h λS ag h=>fU Z (zB8 adj (Kz U ((at' z2 b).1) S ag) Z (aE.cons (zB9 (iZ Z) y.1 y.2) .nil)) Z λam=>aF Z (fF Z) Z<|bT Z<|aM ?_;exact cF ((!S)) () h SF Z
    intro m K h;refine iA h Z (λ_ h=>?_) λ_ h=>?_
    .refine aT<|aB Z<|aM<|aP<|aG<|bB<|aG<|aG<|bB<|aG ?_;cases h;exact mK Z
    refine bK<|aT<|aB Z<|aM<|aU<|eP (jV f b B) (λu L=>[(1,vP n),(3,d),(4,vI (b)),(5,vI (u))]) (λu L=>[e]) (0:Int) () h SF (aW.refl _) ?_;intro aj u L h;refine aI<|aT<|aA Z<|aA Z<|cX Z<|aM ?_;refine eF h Z (λh=>?_) λh=>?_
    .refine bK<|aI<|aU<|aI ?_;refine xP [0,1,0,7,15,0,32,0,224,480,1023] 10 mixedOrders ?_;refine dA Z<|iH 0 Z<|bE Z<|eX h λO h=>bI Z .nil (jP 0 Z) (a_ Z Z (cG Z) Z Z O) aR.z<|bI Z .nil (jP 0 Z) (eC Z (cG Z) Z Z Z gC O) aR.z<|dA Z<|iH 0 Z<|bE Z<|eX h λP h=>bI Z .nil (jP 0 Z) (a_ Z Z (cG Z) Z Z P) aR.z<|bI Z .nil (jP 0 Z) (eC Z (cG Z) Z Z Z gC P) aR.z<|bS 10 Z Z<|bP Z<|aM ?_;refine eF h Z (λh=>?_) λh=>?_
     .refine aT<|aB Z<|aM<|aP<|bB<|aG<|aG<|bB<|bB<|aG<|aG<|bB<|aG ?_;cases h;exact mK Z
     refine cZ<|jZ<|aL<|aA Z<|cP Z<|aB Z<|aM ?_;exact Ac (wI .i64 (u+(1:Int))) () h SF Z
    refine uS<|gY<|gY<|BC<|jZ ?_;exact cF () (()) h SF Z
   intro t J h;unfold yD at h;refine aL<|aA Z<|cP Z<|aB Z<|aM ?_;exact Ac (wI .i64 (b+(1:Int))) () h SF Z
  refine fK ?_;exact cF () (()) h SF Z
 intro W b7 h;unfold rD at h;refine aI<|cC (λX=>yA X=some r) (λX b9=>[]) (λX b9=>[]) ?_ ?_
 .refine aT<|aB Z<|aM<|aU<|eP (jB U f) (λa E=>[(1,vP n),(3,d),(6,vI (a))]) (λa E=>[e]) (0:Int) () h SF (aW.refl _) ?_;intro Y a E h;let C:=(bG (jB U f) Y)
  refine aI<|aT<|aA Z<|aA Z<|cX Z<|aM ?_;refine eF h Z (λh=>?_) λh=>?_
  .refine bK<|aI<|cC (λs=>yB a C s=some r) (λs F=>[(1,vP n),(3,d),(6,vI (a))]) (λs F=>[e]) ?_ ?_
   .refine aU<|aT<|aB Z<|aM<|aU<|eP (gX U f a C) (λg G=>[(1,vP n),(3,d),(6,vI (a)),(7,vI (g))]) (λg G=>[e]) (0:Int) () h SF (aW.refl _) ?_;intro aa g G h;let A:=(at' (at' f.2 a) g)
    refine aI<|aT<|aA Z<|bD Z<|bY 0 Z<|aA Z<|eX h λv h=>aC (fJ Z Z (iZ Z) Z Z v) Z<|aC (eI Z (iZ Z) Z Z v) Z<|aC (dO Z (zB9 (iZ Z) v.1 v.2) Z) Z<|cX Z<|aM ?_;refine eF h Z (λh=>?_) λh=>?_
    .refine bK<|aI<|aU<|aT<|bD Z<|bY 0 Z<|aA Z<|eX h λi h=>aC (fJ Z Z (iZ Z) Z Z i) Z<|aC (eI Z (iZ Z) Z Z i) Z<|aA Z<|eX h λM h=>aC (a_ Z Z (zB9 (iZ Z) i.1 i.2) Z Z M) Z<|aC (eO (cs:=[vI (A.1),vI (A.2)]) Z (zB9 (iZ Z) i.1 i.2) dL Z Z Z Z M) Z<|aK (aO.alloc (cs:=SG) Z Z) Z λai=>cO 0 (vs:=[vI ((at' (at' f.2 a) g).1),vI ((at' (at' f.2 a) g).2)]) Z Z Z Z Z Z<|aM<|aT<|fQ 1 Z<|bD Z<|bY 0 Z<|aA Z<|dG h λR ae h=>aK (zB8 adk (Sp U T V z2 R ae) Z (gK [0,1] Z)) Z λak=>aB Z<|aM<|aI<|cC (λk=>yC g (bG (gX U f a C) aa) k=some r) (λk H=>[(1,vP n),(3,d),(6,vI (a)),(7,vI (g)),(116,vB (k))]) (λk H=>[e]) ?_ ?_
     .refine xP [0,1,3,7,15,7,39,127,255,7,1023,2047,4095,7,8199,32767,65535] 15 mixedOrders ?_;refine bE Z<|iD Z (Hg Z Z)<|bE Z ?_;refine wE (by exact rfl) (by exact rfl) (by exact rfl) (λo=>?_) (λo=>?_)
      .have h:=Bt o h;refine bA Z Z Z Z<|bA Z Z Z Z<|bA Z Z Z Z<|bA Z Z Z Z<|bA Z Z Z Z<|bA Z Z Z Z<|bA Z Z Z Z<|bA Z Z Z Z<|bA Z Z Z Z<|bA Z Z Z Z<|bA Z Z Z Z<|bA Z Z Z Z<|bS 15 Z Z<|aD Z<|bO Z<|aM ?_;exact bQ (true) () h SF (aW.ix [1] Z Z) (aE.refl _ _)
      have h:=MP o h;refine dX Z .nil .nil (bR Z Z Z Z Z) aR.z<|dX Z (aW.cons 1 Z .nil) .nil (bX 0 Z Z Z Z Z) aR.z<|dX Z .nil .nil (bR Z Z Z Z Z) aR.z<|dX Z (aW.cons 0 Z .nil) .nil (bX 0 Z Z Z Z Z) aR.z<|eX h λj h=>dX Z .nil (jP 1 Z) (fJ Z Z (cG Z) Z Z j) aR.z<|dX Z .nil (jP 1 Z) (eI Z (cG Z) Z Z j) aR.z<|dX Z .nil .nil (fN Z) aR.z<|eX h λN h=>dX Z .nil (jP 1 Z) (a_ Z Z (zB9 (cG Z) j.1 j.2) Z Z N) aR.z<|dX Z .nil .nil (cB Z Z Z Z Z) aR.z<|dX Z .nil (jP 1 Z) (fW Z (zB9 (cG Z) j.1 j.2) Z Z Z HG N) aR.z<|dX Z .nil .nil (bR Z Z Z Z Z) aR.z<|dX Z (aW.cons 0 Z .nil) .nil (bX 0 Z Z Z Z Z) aR.z<|bS 15 Z Z<|aF Z (xH Z Z) Z<|bT Z<|aM ?_;exact bQ (decide (((at' (at' f.2 (A.1)) R).2)≠(A.2))) () h SF (aW.ix [1] Z Z) (aE.refl _ _)
     intro k H h;refine iA h Z (λ_ h=>?_) λ_ h=>?_
     .refine aT<|aB Z<|aM<|aP<|bB<|aG<|aG<|bB<|bB<|aG<|aG<|bB<|aG ?_;cases h;exact mK Z
     refine cZ<|jZ<|aL<|aA Z<|cP Z<|aB Z<|aM ?_;exact Ac (wI .i64 (g+(1:Int))) () h SF Z
    refine uS<|gY<|gY<|BC<|jZ ?_;exact cF () (()) h SF Z
   intro s F h;unfold yB at h;refine aL<|aA Z<|cP Z<|aB Z<|aM ?_;exact Ac (wI .i64 (a+(1:Int))) () h SF Z
  refine fK ?_;exact bQ () (()) h SF .nil (aE.refl _ _)
 intro X b9 h;unfold yA at h;refine aT<|aB Z<|aM<|aP ?_;cases h;exact gM Z
def vA (a:Unit):V1 V4:=
 some (true)
def oG (c:dB) (a:Int) (b:(Int)->V1 V4):V1 V4:=
 if a<(c.2.length:Int)then(ck (0<=a/\a<(c.2.length:Int)) (if(30:Int)<((at' c.2 a).length:Int)then(some (false))else(b (wI .i64 (a+(1:Int))))))else(vA (()))
def rC (b:dB) (a:V4):V1 V4:=
 if a=true then(some (false))else(bG (oG b) U (0:Int))
def jH (a:dB):V1 V4:=
 if(30:Int)<(a.1.length:Int)then(rC U a (true))else(rC U a (decide ((30:Int)<(a.2.length:Int))))
theorem agn:aX prog 38:=call38
theorem Lv {d:dB} (g i:V0) (p:oB) (r:V4) (h:jH U d=some r):
  aZ prog 38 #[Value.agg #[g,i]] [Sl cQ g d.1,S2 aS i p d.2] (λx:Unit=>vB (r)) (λx l=>l) (λ_ l=>l):=by
 refine aZ.of func38 Z ntmps38 Z λc=>aT<|aK (aO.box (cs:=[g,i]) Z Z) Z λk=>Q4 Z<|aI<|aI<|cC (λe=>rC U d e=some r) (λe m=>[(1,vP k),(13,vB (e))]) (λe m=>[bU k [g,i] 29]) ?_ ?_
 .refine aL<|bD Z<|bY 0 Z<|eL (cG Z) Z<|aC (mA Z Z) Z<|aA Z<|mL h Z (λ_ h=>?_) λ_ h=>?_
  .exact aD Z<|aD Z<|aD Z<|aD Z<|bO Z<|aM<|cF (true) () h SF Z
  exact aF Z (bR Z Z Z Z Z) Z<|aF Z (bX 0 Z Z Z Z Z) Z<|aF Z (mB Z (iZ Z) Z) Z<|aF Z (mA Z Z) Z<|bT Z<|aM<|cF (decide ((30:Int)<(d.2.length:Int))) () h SF Z
 intro e m h;refine iA h Z (λ_ h=>?_) λ_ h=>?_
 .refine Q3 Z<|aP<|aG ?_;cases h;exact mK Z
 refine bK<|aI<|cC (λj=>vA j=some r) (λj n=>[]) (λj n=>[]) ?_ ?_
 .refine Q3 Z<|aU<|eP (oG d) (λa f=>[(1,vP k),(3,vI (a))]) (λa f=>[bU k [g,i] 29]) (0:Int) () h SF (aW.refl _) ?_;intro o a f h;refine aI<|Q5 Z<|bD Z<|bY 0 Z<|aC (mB Z (iZ Z) Z) Z<|cX Z<|aM<|eF h Z (λh=>?_) λh=>?_
  .refine bK<|aI<|aU<|aT<|bD Z<|bY 0 Z<|aA Z<|eX h λb h=>aC (fJ Z Z (iZ Z) Z Z b) Z<|aC (eI Z (iZ Z) Z Z b) Z<|aC (dO Z (zB9 (iZ Z) b.1 b.2) Z) Z<|aC (mA Z Z) Z<|aM<|eF h Z (λh=>?_) λh=>?_
   .refine Q3 Z<|aP<|bB<|aG<|aG<|bB<|aG ?_;cases h;exact mK Z
   exact cZ<|jZ<|aL<|aA Z<|cP Z<|Q4 Z<|Ac (wI .i64 (a+(1:Int))) () h SF Z
  exact fK<|bQ () (()) h SF .nil (aE.refl _ _)
 intro j n h;unfold vA at h;refine Q3 Z<|aP ?_;cases h;exact gM Z
def Es (a:Int):V1 (Int):=
 some (a)
def HU (U:Nat) (b a:Int):V1 (Int):=
 ck (a≠0) (if(Int.tmod b a)<(0:Int)then(Es (wI .i64 ((Int.tmod b a)+a)))else(Es (Int.tmod b a)))
theorem aiQ:aX prog 6:=call6
theorem Wj {d b:Int} (r:Int) (h:HU U d b=some r):
  aZ prog 6 #[vI (d),vI (b)] [] (λx:Unit=>vI (r)) (λx l=>l) (λ_ l=>l):=by
 refine aZ.of func6 Z ntmps6 Z λc=>Q3 Z<|Q5 Z<|aA Z<|eX h λf h=>aC (afc Z Z f) Z<|Q4 Z<|aI<|cC (λa=>Es a=some r) (λa e=>[(5,vI (a))]) (λa e=>[]) ?_ ?_
 .refine Q5 Z<|cX Z<|aM<|eF h Z (λh=>?_) λh=>?_
  .exact aL<|aA Z<|aA Z<|cP Z<|Q4 Z<|cF (wI .i64 ((Int.tmod d b)+b)) () h SF Z
  exact bK<|cF (Int.tmod d b) () h SF Z
 intro a e h;unfold Es at h;refine Q5 Z<|Q4 Z<|aP ?_;cases h;exact gM Z
end Go.Proofs.YtemmagadjnlajaaGreatDoor
namespace Go.Proofs.YtemmagadjnlajaaGreatDoor
open Go.Sx
theorem BN {R:Type} {step:Int->(Int->V1 R)->V1 R} {K:V1 R} {bad:R} (N:Nat) (p:Nat->Prop)
  (r:∀(k:Nat) c,k<N->p k->step k c=c ((k:Int)+1)) (i:∀(k:Nat) c,k<N->¬p k->step k c=some bad) (j:∀c,step N c=K):
  ∀(b:Nat),N<b->((∀k,k<N->p k)->bG step b 0=K)/\(¬(∀k,k<N->p k)->bG step b 0=some bad):=by
 intro b q;have s:∀(d a b:Nat),a+d=N->d<b->((∀k,a<=k->k<N->p k)->bG step b (a:Int)=K)/\(¬(∀k,a<=k->k<N->p k)->bG step b (a:Int)=some bad):=by
  intro d
  induction d with
  |zero=>
   intro a b v q;obtain rfl:a=N:=V7
   cases b with
   |zero=>omega
   |succ f=>exact⟨λ_=>j _,λh=>absurd (λk m g=>V7) h⟩
  | succ d ih =>
   intro a b v q;cases b with
   |zero=>omega
   | succ f =>
    have⟨t,u⟩:=ih (a+1) f V7 V7;have e:((a+1:Nat):Int)=(a:Int)+1:=V7
    rw[e]at t u;by_cases n:p a
    .have w:bG step (f+1) (a:Int)=bG step f ((a:Int)+1):=r a _ V7 n;rw[w];refine⟨λh=>t λk m g=>h k V7 g,λh=>u λo=>h λk m g=>?_⟩
     by_cases l:k=a
     .subst l;exact n
     .exact o k V7 g
    .exact⟨λh=>absurd (h a (zAf _) V7) n,λ_=>i a _ V7 n⟩
 have⟨m,g⟩:=s N 0 b V7 q;exact⟨λh=>m λk _ l=>h k l,λh=>g λo=>h λk l=>o k V7 l⟩
abbrev GR:=V6 Int×pT
theorem vQ (a:Nat) (v c d:Int):uZ a v c d=some (decide (c<=v/\v<=d)):=by
 unfold uZ Et;by_cases h:c<=v
 .rw[if_pos h];congr 1;exact decide_eq_decide.2 ⟨λb=>⟨h,b⟩,λb=>b.2⟩
 .rw[if_neg h,zA6 (λb=>h b.1)]
abbrev row (g:GR) (v:Nat):cJ:=at' g.2 (v:Int)
abbrev IT (g:GR) (v:Nat):Int:=at' g.1 (v:Int)
abbrev nE (l:cJ) (i:Nat):dJ:=at' l (i:Int)
def KZ (g:GR):Prop:=g.1.length<=30/\g.2.length<=30/\∀v,v<g.2.length->(row g v).length<=30
def LR (l:cJ) (v n i:Nat):Prop:=(0<=(nE l i).1/\(nE l i).1<=(n:Int) - 1)/\(nE l i).1≠v/\(1<=(nE l i).2/\(nE l i).2<=15)/\∀k,k<i->(nE l k).1≠(nE l i).1
def uU (l:cJ) (v n:Nat):Prop:=∀i,i<l.length->LR l v n i
theorem wH (l:cJ) (v n:Nat) (o:l.length<=30) (p:n<=30):(uU l v n->oE 1000 l v n=some true)/\(¬uU l v n->oE 1000 l v n=some false):=by
 unfold oE;have a:∀(i:Nat) (b:Int->V1 V4),i<l.length->((∀k,k<i->(nE l k).1≠(nE l i).1)->bG (lN l i b) 1000 0=b ((i:Int)+1))/\(¬(∀k,k<i->(nE l k).1≠(nE l i).1)->bG (lN l i b) 1000 0=some false):=by
  intro i b h;refine BN i _ (λk d m c=>?_) (λk d m c=>?_) (λd=>?_) 1000 V7
  .unfold lN;rw[Q8,Q6,Q6,if_neg c,Q7]
  .unfold lN;rw[Q8,Q6,Q6,if_pos (zB7.1 c)]
  .unfold lN tC;rw[Q0,Q7]
 refine BN l.length (LR l v n) (λi b h c=>?_) (λi b h c=>?_) (λb=>?_) 1000 V7
 .have⟨e,f,g,j⟩:=c;unfold j_ nC;rw[Q8,Q6,Q7 (x:=(n:Int) - 1),vQ,zAc e,aY Z,if_neg V8,Q6,if_neg f,Q6,vQ,zAc g,aY Z,if_neg V8];exact(a i b h).1 j
 .unfold j_ nC;rw[Q8,Q6,Q7 (x:=(n:Int) - 1),vQ];by_cases e:0<=(nE l i).1/\(nE l i).1<=(n:Int) - 1
  .rw[zAc e,aY Z,if_neg V8,Q6];by_cases f:(nE l i).1=v
   .rw[if_pos f];rfl
   .rw[if_neg f,Q6,vQ];by_cases g:1<=(nE l i).2/\(nE l i).2<=15
    .rw[zAc g,aY Z,if_neg V8];exact(a i b h).2 λj=>c ⟨e,f,g,j⟩
    .rw[zA6 g];rfl
  .rw[zA6 e];rfl
 .unfold j_ tB;rw[Q0]
def GZ (l:cJ) (u:Int):Int:=match l.findIdx? (λx=>decide (x.1=u))with
 |some i=>i
 |none=> -1
theorem Uh {l:cJ} {u:Int} (i:Nat) (b:i<l.length) (d:(nE l i).1=u) (c:∀k,k<i->(nE l k).1≠u):GZ l u=i:=by
 have:l.findIdx? (λx=>decide (x.1=u))=some i:=by
  rw[List.findIdx?_eq_some_iff_getElem];have e:∀k (a:k<l.length),nE l k=l[k]:=λk a=>by rw[nE,BH,zAm,zA1 a];rfl
  refine⟨b,by rw[<-e i b];simpa using d,λk a=>?_⟩
  have:=c k a;rw[e k V7]at this;simpa using this
 rw[GZ,this]
theorem Ug {l:cJ} {u:Int} (b:∀k,k<l.length->(nE l k).1≠u):GZ l u = -1:=by
 have:l.findIdx? (λx=>decide (x.1=u))=none:=by
  rw[List.findIdx?_eq_none_iff];intro x c;obtain⟨k,a,rfl⟩:=List.getElem_of_mem c;have:=b k a;rw[nE,BH,zAm,zA1 a]at this;simpa using this
 rw[GZ,this]
theorem Cg (l:cJ) (u:Int):(∃i,i<l.length/\(nE l i).1=u/\(∀k,k<i->(nE l k).1≠u)/\GZ l u=i)\/((∀k,k<l.length->(nE l k).1≠u)/\GZ l u = -1):=by
 by_cases h:∀k,k<l.length->(nE l k).1≠u
 .exact .inr ⟨h,Ug h⟩
 .left;have f:∃k,k<l.length/\(nE l k).1=u:=by
   apply Classical.byContradiction;intro o;exact h λk g e=>o ⟨k,g,e⟩
  have⟨k,g,n⟩:=f;have:∀m,(∃k,k<=m/\k<l.length/\(nE l k).1=u)->∃i,i<l.length/\(nE l i).1=u/\∀k,k<i->(nE l k).1≠u:=by
   intro m
   induction m with
   |zero=>rintro⟨k,d,a,b⟩;exact⟨k,a,b,λj p=>V7⟩
   |succ m q=>
    rintro⟨k,d,a,b⟩;by_cases c:∃j,j<=m/\j<l.length/\(nE l j).1=u
    .exact q c
    .exact⟨k,a,b,λj p e=>c ⟨j,V7,V7,e⟩⟩
  have⟨i,d,a,b⟩:=this k ⟨k,zAf _,g,n⟩;exact⟨i,d,a,b,Uh i d a b⟩
theorem OU (g:GR) (v:Nat) (u:Int) (m:v<g.2.length) (l:(row g v).length<=30):BY 1000 g v u=some (GZ (row g v) u):=by
 unfold BY;rcases Cg (row g v) u with⟨i,j,h,c,b⟩|⟨c,b⟩
 .rw[b];refine NO (λx:Int=>∃k:Nat,x=k/\k<=i) (λx=>31 - x.toNat) ?_ 1000 _ ⟨0,rfl,V7⟩ V7;rintro x d ⟨k,rfl,f⟩ a;unfold DU;rw[Q6,if_pos (show(k:Int)<((row g v).length:Int) by omega),Q6,dM (show 0<=(k:Int)/\(k:Int)<((row g v).length:Int) by omega)];by_cases e:k=i
  .subst e;exact if_pos h
  .rw[if_neg (c k V7),Q7];exact a _ ⟨k+1,V7,V7⟩ V7
 .rw[b];refine NO (λx:Int=>∃k:Nat,x=k/\k<=(row g v).length) (λx=>31 - x.toNat) ?_ 1000 _ ⟨0,rfl,V7⟩ V7;rintro x d ⟨k,rfl,f⟩ a;unfold DU;rw[Q6];by_cases e:k<(row g v).length
  .rw[if_pos (show(k:Int)<((row g v).length:Int) by omega),Q6,dM (show 0<=(k:Int)/\(k:Int)<((row g v).length:Int) by omega),if_neg (c k e),Q7];exact a _ ⟨k+1,V7,V7⟩ V7
  .rw[if_neg (show¬(k:Int)<((row g v).length:Int) by omega)];rfl
theorem KW {X R:Type} {step:X->(X->V1 R)->V1 R} {K:X->V1 R} {bad:R} (N:Nat) (p:Nat->Prop) (I:Nat->X->Prop)
  (t:∀(k:Nat) x g,k<N->I k x->p k->∃c,I (k+1) c/\step x g=g c) (j:∀(k:Nat) x g,k<N->I k x->¬p k->step x g=some bad) (l:∀x g,I N x->step x g=K x):
  ∀(b:Nat) (x:X),I 0 x->N<b->((∀k,k<N->p k)->∃c,I N c/\bG step b x=K c)/\(¬(∀k,k<N->p k)->bG step b x=some bad):=by
 intro b x e s;have v:∀(d a b:Nat) (x:X),a+d=N->d<b->I a x->((∀k,a<=k->k<N->p k)->∃c,I N c/\bG step b x=K c)/\(¬(∀k,a<=k->k<N->p k)->bG step b x=some bad):=by
  intro d
  induction d with
  |zero=>
   intro a b x w s e;obtain rfl:a=N:=V7
   cases b with
   |zero=>omega
   |succ f=>exact⟨λ_=>⟨x,e,l _ _ e⟩,λh=>absurd (λk n i=>V7) h⟩
  | succ d ih =>
   intro a b x w s e;cases b with
   |zero=>omega
   | succ f =>
    by_cases o:p a
    .have⟨c,r,u⟩:=t a x (bG step f) V7 e o;have u:bG step (f+1) x=bG step f c:=u;have⟨y,z⟩:=ih (a+1) f c V7 V7 r;rw[u];refine⟨λh=>y λk n i=>h k V7 i,λh=>z λq=>h λk n i=>?_⟩
     by_cases m:k=a
     .subst m;exact o
     .exact q k V7 i
    .exact⟨λh=>absurd (h a (zAf _) V7) o,λ_=>j a x _ V7 e o⟩
 have⟨n,i⟩:=v N 0 b x V7 s e;exact⟨λh=>n λk _ m=>h k m,λh=>i λq=>h λk m=>q k V7 m⟩
theorem abd (g:GR) (i:g.2.length<=900):(KZ g->jH 1000 g=some true)/\(¬KZ g->jH 1000 g=some false):=by
 unfold jH rC;by_cases b:g.1.length<=30
 .rw[Q0];by_cases c:g.2.length<=30
  .rw[zA6 V7,if_neg V8];have:=BN (step:=oG g) (K:=some true) (bad:=false) g.2.length (λv=>(row g v).length<=30) (λk a e f=>?_) (λk a e f=>?_) (λa=>?_) 1000 V7
   .exact⟨λh=>this.1 h.2.2,λh=>this.2 λd=>h ⟨b,c,d⟩⟩
   .unfold oG;rw[Q8,Q6,if_neg (show¬(30:Int)<((row g k).length:Int) by omega),Q7]
   .unfold oG;rw[Q8,Q6,if_pos (show(30:Int)<((row g k).length:Int) by omega)]
   .unfold oG vA;rw[Q0]
  .rw[zAc V7,if_pos Z];exact⟨λh=>absurd h.2.1 c,λ_=>rfl⟩
 .rw[Q8,if_pos Z];exact⟨λh=>absurd h.1 b,λ_=>rfl⟩
theorem JW (g:GR):(KZ g->jH 1000 g=some true)/\(¬KZ g->jH 1000 g=some false):=by
 by_cases a:g.2.length<=900
 .exact abd g a
 .refine⟨λh=>absurd h.2.1 V7,λ_=>?_⟩
  unfold jH rC;by_cases b:g.1.length<=30
  .rw[Q0,zAc V7,if_pos Z]
  .rw[Q8,if_pos Z]
def CS (g:GR) (v i:Nat):Prop:=∃j,j<(at' g.2 (nE (row g v) i).1).length/\(nE (at' g.2 (nE (row g v) i).1) j).1=v/\(nE (at' g.2 (nE (row g v) i).1) j).2=(nE (row g v) i).2
structure Od (g:GR) (v:Nat):Prop where
 id:0<=IT g v/\IT g v<=255
 deg:(row g v).length<g.2.length
 links:uU (row g v) v g.2.length
 ids:∀k,k<v->IT g k≠IT g v
structure VG (g:GR):Prop where
 n1:1<=g.2.length
 n24:g.2.length<=24
 len:g.1.length=g.2.length
 node:∀v,v<g.2.length->Od g v
 sym:∀v,v<g.2.length->∀i,i<(row g v).length->CS g v i
theorem afz (g:GR) (N:KZ g):(VG g->mO 1000 g=some true)/\(¬VG g->mO 1000 g=some false):=by
 have⟨S,H,t⟩:=N;unfold mO;rw[vQ,aY Z];by_cases z:1<=g.2.length/\g.2.length<=24
 rotate_left
 .rw[zA6 V7];exact⟨λh=>absurd ⟨h.n1,h.n24⟩ z,λ_=>rfl⟩
 rw[zAc V7,if_neg V8];by_cases I:g.1.length=g.2.length
 rotate_left
 .rw[zAc V7];exact⟨λh=>absurd h.len I,λ_=>rfl⟩
 rw[zA6 V7];unfold x_;rw[if_neg V8];have o:∀(v:Nat) (b:Int->V1 V4),v<g.2.length->((∀k,k<v->IT g k≠IT g v)->bG (jV g v b) 1000 0=b ((v:Int)+1))/\(¬(∀k,k<v->IT g k≠IT g v)->bG (jV g v b) 1000 0=some false):=by
  intro v b d;refine BN v _ (λk a C c=>?_) (λk a C c=>?_) (λa=>?_) 1000 V7
  .unfold jV;rw[Q8,Q6,Q6,if_neg c,Q7]
  .unfold jV;rw[Q8,Q6,Q6,if_pos (zB7.1 c)]
  .unfold jV yD;rw[Q0,Q7]
 have l:=BN (step:=jC 1000 g) (K:=rD 1000 g ()) (bad:=false) g.2.length (Od g) (λv b d c=>?_) (λv b d c=>?_) (λb=>?_) 1000 V7
 rotate_left
 .unfold jC pH;rw[Q8,Q6,vQ,zAc c.id,aY Z,if_neg V8,Q6,if_neg (show¬((g.2.length:Int)<=((row g v).length:Int))from by have:=c.deg;omega),Q6,(wH (row g v) v g.2.length (t v d) H).1 c.links,aY Z,if_neg V8];exact(o v b d).1 c.ids
 .unfold jC pH;rw[Q8,Q6,vQ];by_cases x:0<=IT g v/\IT g v<=255
  rotate_left
  .rw[zA6 x];rfl
  rw[zAc x,aY Z,if_neg V8,Q6];by_cases J:(row g v).length<g.2.length
  rotate_left
  .rw[if_pos (show(g.2.length:Int)<=((row g v).length:Int) by omega)];rfl
  rw[if_neg (show¬(g.2.length:Int)<=((row g v).length:Int) by omega),Q6];by_cases y:uU (row g v) v g.2.length
  rotate_left
  .rw[(wH (row g v) v g.2.length (t v d) H).2 y];rfl
  rw[(wH (row g v) v g.2.length (t v d) H).1 y,aY Z,if_neg V8];exact(o v b d).2 λL=>c ⟨x,J,y,L⟩
 .unfold jC;rw[Q0]
 by_cases q:∀v,v<g.2.length->Od g v
 rotate_left
 .exact⟨λh=>absurd h.node q,λ_=>l.2 q⟩
 rw[l.1 q];unfold rD;have f:∀(v:Nat) (b:Int->V1 V4),v<g.2.length->((∀i,i<(row g v).length->CS g v i)->bG (gX 1000 g v b) 1000 0=b ((v:Int)+1))/\(¬(∀i,i<(row g v).length->CS g v i)->bG (gX 1000 g v b) 1000 0=some false):=by
  intro v b d;have P:=t v d;have n:∀(i:Nat) a,i<(row g v).length->(CS g v i->gX 1000 g v b i a=a ((i:Int)+1))/\(¬CS g v i->gX 1000 g v b i a=some false):=by
   intro i a r;unfold gX;rw[Q6,if_pos (show(i:Int)<((row g v).length:Int) by omega),Q6,dM (show 0<=(i:Int)/\(i:Int)<((row g v).length:Int) by omega)];have R:=((q v d).links i r).1;obtain⟨u,G⟩:∃u:Nat,(nE (row g v) i).1=u:=⟨(nE (row g v) i).1.toNat,V7⟩
   have p:u<g.2.length:=V7
   unfold CS;rw[show(at' (at' g.2 (v:Int)) (i:Int))=nE (row g v) i from rfl,G,OU g u v p (t u p),aY Z];have F:=(q u p).links;rcases Cg (row g u) v with⟨j,w,m,B,A⟩|⟨M,A⟩
   .rw[A,Q0,Q6,dM (show 0<=(j:Int)/\(j:Int)<((at' g.2 (u:Int)).length:Int)from⟨V7,by have:j<(row g u).length:=w;exact_mod_cast this⟩)];unfold yC;constructor
    .rintro⟨k,C,s,E⟩;have D:k=j:=by
      rcases Nat.lt_trichotomy k j with h|h|h
      .exact absurd s (B k h)
      .exact h
      .exact absurd (m.trans s.symm) ((F k C).2.2.2 j h)
     subst D;rw[if_neg (by rw[zA6];simp;exact λh=>h E),Q7]
    .intro h;rw[if_pos];exact zAc λQ=>h ⟨j,w,m,Q⟩
   .rw[A,if_pos Q2];exact⟨fun⟨j,w,m,_⟩=>absurd m (M j w),λ_=>rfl⟩
  refine BN (row g v).length _ (λi a r c=>(n i a r).1 c) (λi a r c=>(n i a r).2 c) (λa=>?_) 1000 V7;unfold gX yB;rw[Q6,if_neg (show¬(((row g v).length:Nat):Int)<((row g v).length:Int) by omega),Q7]
 have e:=BN (step:=jB 1000 g) (K:=some true) (bad:=false) g.2.length (λv=>∀i,i<(row g v).length->CS g v i) (λv b d c=>?_) (λv b d c=>?_) (λb=>?_) 1000 V7
 .exact⟨λh=>e.1 h.sym,λh=>e.2 λO=>h ⟨z.1,z.2,I,q,O⟩⟩
 .unfold jB;rw[Q8];exact(f v b d).1 c
 .unfold jB;rw[Q8];exact(f v b d).2 c
 .unfold jB yA;rw[Q0]
theorem Oh {a:Type} [Inhabited a] (l:V6 a) (i k:Nat) (y:a) (b:i<l.length):at' (l.set i y) (k:Int)=if k=i then y else at' l (k:Int):=by
 rw[BH,BH,zAm,zAm,List.getElem?_set];by_cases h:i=k
 .rw[if_pos h,if_pos h.symm,Q8];rfl
 .rw[if_neg h,if_neg (Ne.symm h)]
def Zv (l:bN) (k:Nat):Prop:=(0<=at' l (k:Int)/\at' l (k:Int)<=255)/\∀j,j<k->at' l (j:Int)≠at' l (k:Int)
theorem AG (l:bN) (C:l.length<=30):((∀k,k<l.length->Zv l k)->mI 1000 l=some true)/\(¬(∀k,k<l.length->Zv l k)->mI 1000 l=some false):=by
 unfold mI;have i:=KW (step:=kB l) (K:=λ_=>some true) (bad:=false) l.length (Zv l) (λk x=>x.1=(k:Int)/\x.2.length=256/\∀z:Nat,z<256->(at' x.2 (z:Int)=true↔∃j,j<k/\at' l (j:Int)=(z:Int))) ?_ ?_ ?_ 1000 ((0:Int),(List.replicate 256 false)) ⟨rfl,List.length_replicate ..,λz c=>?_⟩ V7
 .exact⟨λh=>by have⟨x,_,b⟩:=i.1 h;exact b,i.2⟩
 .rintro k ⟨t,m⟩ q w ⟨b,a,f⟩ ⟨D,v⟩;dsimp only at b a f;subst b;obtain⟨z,c⟩:∃z:Nat,at' l (k:Int)=z:=⟨(at' l (k:Int)).toNat,V7⟩
  have p:z<256:=V7
  have o:¬at' m (z:Int)=true:=by
   rw[f z p];rintro⟨j,e,d⟩;exact v j e (d.trans c.symm)
  refine⟨((k:Int)+1,m.set z true),⟨V8,by simp[a],λy B=>?_⟩,?_⟩
  .dsimp only;rw[Oh _ _ _ _ V7];by_cases g:y=z
   .subst g;rw[if_pos Z];exact⟨λ_=>⟨k,V7,c⟩,λ_=>rfl⟩
   .rw[if_neg g,f y B];constructor
    .rintro⟨j,e,d⟩;exact⟨j,V7,d⟩
    .rintro⟨j,e,d⟩;by_cases n:j=k
     .subst n;rw[c]at d;omega
     .exact⟨j,V7,d⟩
  .unfold kB lS;dsimp only;rw[Q8,Q6,c,Q0,Q0,dM ⟨V7,a⟩,if_neg o,dM ⟨V7,a⟩,Q7];rfl
 .rintro k ⟨t,m⟩ q w ⟨b,a,f⟩ A;dsimp only at b a f;subst b;unfold kB lS;dsimp only;rw[Q8,Q6];by_cases r:at' l (k:Int)<0
  .rw[if_pos r,if_pos Z]
  rw[if_neg r];by_cases s:255<at' l (k:Int)
  .rw[if_pos s,if_pos Z]
  rw[if_neg s];obtain⟨z,c⟩:∃z:Nat,at' l (k:Int)=z:=⟨(at' l (k:Int)).toNat,V7⟩
  rw[c,dM ⟨V7,a⟩,if_pos];rw[f z V7];apply Classical.byContradiction;intro u;exact A ⟨V7,λj e d=>u ⟨j,e,d.trans c⟩⟩
 .rintro⟨t,m⟩ q ⟨b,_,_⟩;dsimp only at b;subst b;unfold kB rT;dsimp only;rw[Q0]
 .rw[show at' (List.replicate 256 false) (z:Int)=false by rw[BH,zAm,List.getElem?_replicate,if_pos c];rfl];exact⟨λh=>(by cases h),fun⟨j,e,_⟩=>V7⟩
theorem VM {d e:Type} [DecidableEq d] (k c:d) (v:e):∀l:V6 (d×e),lM c (zL k v l)=if c=k then some v else lM c l
 | []=>by simp only[zL,lM]
 | x :: xs =>by
  simp only[zL];by_cases h:k=x.1
  .rw[if_pos h];simp only[lM];by_cases a:c=k
   .rw[if_pos a,if_pos a]
   .rw[if_neg a,if_neg a,if_neg (λb=>a (b.trans h.symm))]
  .rw[if_neg h];simp only[lM];by_cases a:c=x.1
   .rw[if_pos a,if_neg (λb=>h (b.symm.trans a)),if_pos a]
   .rw[if_neg a,VM k c v xs];by_cases b:c=k
    .rw[if_pos b,if_pos b]
    .rw[if_neg b,if_neg b,if_neg a]
theorem TX {a b:Type} [DecidableEq a] {k:a} {v:b} {z:a×b} {l:V6 (a×b)} (c:lM k l=none):z∈zL k v l↔z=(k,v)\/z∈l:=by
 rw[Mq k v l c];simp[or_comm]
theorem Mo {a c:Type} [DecidableEq a] {k:a}:∀{l:V6 (a×c)},(∀v,(k,v)∉l)->lM k l=none
 | [],_=>rfl
 |x::xs,h=>by
  simp only[lM];rw[if_neg (λe=>h x.2 (by rw[e];exact zAd ..))];exact Mo λv b=>h v (zAk _ b)
theorem As {b c:Type} [DecidableEq b] {k:b} {v:c}:∀{l:V6 (b×c)},lM k l=none->(k,v)∉l
 | [],_=>by simp
 | x :: xs, h =>by
  simp only[lM]at h;by_cases e:k=x.1
  .rw[if_pos e]at h;cases h
  .rw[if_neg e]at h;intro d;rcases zAi.1 d with a|a
   .exact e (by rw[<-a])
   .exact As h a
theorem Hn {a b:Type} [DecidableEq a] {k:a} {v:b}:∀{l:V6 (a×b)},lM k l=some v->(k,v)∈l
 |x::xs,h=>by
  simp only[lM]at h;by_cases e:k=x.1
  .rw[if_pos e]at h;cases h;rw[e];exact zAd ..
  .rw[if_neg e]at h;exact zAk _ (Hn h)
theorem OJ {a b:Type} (p:a×b->Prop) [DecidablePred p]:∀l:V6 (a×b),PF (λd x=>if p d then some false else x) (some true) l=some (decide (∀z∈l,¬p z))
 | []=>by simp[PF]
 |x::xs=>by
  show(if p x then some false else PF _ (some true) xs)=_;rw[OJ p xs];by_cases h:p x
  .rw[if_pos h];congr 1;symm;exact zA6 λc=>c x (zAd ..) h
  .rw[if_neg h];congr 1;apply decide_eq_decide.2;simp[h]
def Tg (c:pT) (v i:Nat) (z:(Int×Int)×Int):Prop:=∃a b:Nat,(a<v\/(a=v/\b<i))/\b<(at' c (a:Int)).length/\z=(((a:Int),(nE (at' c (a:Int)) b).1),(nE (at' c (a:Int)) b).2)
def Qn (a:pT):Prop:=(∀v,v<a.length->uU (at' a (v:Int)) v a.length)/\∀v,v<a.length->∀i,i<(at' a (v:Int)).length->CS ([],a) v i
theorem Lm (c:pT) (hn:c.length<=30) (hd:∀v,v<c.length->(at' c (v:Int)).length<=30):(Qn c->kG 1000 c=some true)/\(¬Qn c->kG 1000 c=some false):=by
 unfold kG;have s:∀(v:Nat) (m:V6 ((Int×Int)×Int)) p,v<c.length->(∀z,z∈m↔Tg c v 0 z)->
   (uU (at' c (v:Int)) v c.length->∃X,(∀z,z∈X↔Tg c (v+1) 0 z)/\bG (eG c ((v:Int),m) p) 1000 ((0:Int),m)=p ((v:Int)+1,X))/\
   (¬uU (at' c (v:Int)) v c.length->bG (eG c ((v:Int),m) p) 1000 ((0:Int),m)=some false):=by
  intro v m p F hm;have af:=hd v F;have R:=KW (step:=eG c ((v:Int),m) p) (K:=λx=>p ((v:Int)+1,x.2)) (bad:=false) (at' c (v:Int)).length (LR (at' c (v:Int)) v c.length) (λi x=>x.1=(i:Int)/\∀z,z∈x.2↔Tg c v i z) ?_ ?_ ?_ 1000 ((0:Int),m) ⟨rfl,hm⟩ V7
  .refine⟨λh=>?_,λh=>R.2 h⟩
   have⟨x,⟨ah,ad⟩,f⟩:=R.1 h;refine⟨x.2,λz=>(ad z).trans ⟨?_,?_⟩,f⟩
   .rintro⟨a,b,y,e,l⟩;exact⟨a,b,V7,e,l⟩
   .rintro⟨a,b,y,e,l⟩;refine⟨a,b,?_,e,l⟩
    by_cases W:a=v
    .subst W;exact .inr ⟨rfl,e⟩
    .omega
  .rintro i ⟨H,g⟩ I M ⟨f,d⟩ ⟨p1,p2,p3,p4⟩;dsimp only at f d;subst f;have q:lM (((v:Int),(nE (at' c (v:Int)) i).1)) g=none:=by
    apply Mo;intro w hw;have⟨a,b,y,e,l⟩:=(d _).1 hw;simp only[Prod.mk.injEq]at l;have⟨⟨C,A⟩,_⟩:=l;have:a=v:=V7
    subst this;have hb:b<i:=V7
    exact p4 b hb A.symm
   refine⟨((i:Int)+1,zL (((v:Int),(nE (at' c (v:Int)) i).1)) (nE (at' c (v:Int)) i).2 g),⟨V8,λz=>?_⟩,?_⟩
   .dsimp only;rw[TX q,d];constructor
    .rintro(rfl|⟨a,b,y,e,l⟩)
     .exact⟨v,i,.inr ⟨rfl,V7⟩,M,rfl⟩
     .exact⟨a,b,V7,e,l⟩
    .rintro⟨a,b,y,e,l⟩;by_cases J:a=v/\b=i
     .left;rw[l,J.1,J.2]
     .right;exact⟨a,b,V7,e,l⟩
   .replace p1:0<=(at' (at' c (v:Int)) (i:Int)).1/\(at' (at' c (v:Int)) (i:Int)).1<=(c.length:Int) - 1:=p1;replace p3:1<=(at' (at' c (v:Int)) (i:Int)).2/\(at' (at' c (v:Int)) (i:Int)).2<=15:=p3;unfold eG kV mD;dsimp only;rw[Q8,Q6,Q0,Q0,if_neg (by rw[zA6 p2];simp),Q0,if_neg (by rw[zA6 V7];simp),q,if_neg V8,Q7]
  .rintro i ⟨H,g⟩ I M ⟨f,d⟩ P;dsimp only at f d;subst f;unfold eG kV mD;dsimp only;rw[Q8,Q6];by_cases y:(nE (at' c (v:Int)) i).1<0
   .rw[if_pos y,if_pos Z]
   rw[if_neg y];by_cases e:(c.length:Int)<=(nE (at' c (v:Int)) i).1
   .rw[if_pos e,if_pos Z]
   rw[if_neg e];by_cases l:(nE (at' c (v:Int)) i).1=v
   .rw[if_pos (zAc l)]
   rw[if_neg (by rw[zA6 l];simp)];by_cases C:(nE (at' c (v:Int)) i).2<1
   .rw[if_pos C,if_pos Z]
   rw[if_neg C];by_cases A:15<(nE (at' c (v:Int)) i).2
   .rw[if_pos (zAc A)]
   rw[if_neg (by rw[zA6 A];simp)];have:∃k,k<i/\(nE (at' c (v:Int)) k).1=(nE (at' c (v:Int)) i).1:=by
    apply Classical.byContradiction;intro hc;exact P ⟨V7,l,V7,λk N L=>hc ⟨k,N,L⟩⟩
   have⟨k,N,L⟩:=this;have n:=(d _).2 ⟨v,k,.inr ⟨rfl,N⟩,V7,rfl⟩;rw[if_pos];rw[<-L];cases q:lM (((v:Int),(nE (at' c (v:Int)) k).1)) g with
   |some w=>rfl
   | none =>exact absurd n (by
     intro n;exact As q n)
  .rintro⟨H,g⟩ I ⟨f,d⟩;dsimp only at f d;subst f;unfold eG qX;dsimp only;rw[Q0,Q7]
 have t:=KW (step:=fD 1000 c) (K:=λx=>mC x.2) (bad:=false) c.length (λv=>uU (at' c (v:Int)) v c.length) (λv x=>x.1=(v:Int)/\∀z,z∈x.2↔Tg c v 0 z) ?_ ?_ ?_ 1000 ((0:Int),[]) ⟨rfl,λz=>⟨λh=>(by cases h),fun⟨a,b,y,_⟩=>V7⟩⟩ V7
 rotate_left
 .rintro v ⟨H,g⟩ p F ⟨f,d⟩ P;dsimp only at f d;subst f;have⟨X,y,e⟩:=(s v g p F d).1 P;refine⟨((v:Int)+1,X),⟨V8,y⟩,?_⟩
  .unfold fD;dsimp only;rw[Q8,Q6];exact e
 .rintro v ⟨H,g⟩ p F ⟨f,d⟩ P;dsimp only at f d;subst f;unfold fD;dsimp only;rw[Q8,Q6];exact(s v g p F d).2 P
 .rintro⟨H,g⟩ p ⟨f,d⟩;dsimp only at f d;subst f;unfold fD;dsimp only;rw[Q0]
 by_cases D:∀v,v<c.length->uU (at' c (v:Int)) v c.length
 rotate_left
 .exact⟨λh=>absurd h.1 D,λ_=>t.2 D⟩
 have⟨⟨H,g⟩,⟨f,d⟩,L⟩:=t.1 D;rw[L];dsimp only at d ⊢;have N:mC g=some (decide (∀z∈g,¬(Option.getD (lM (z.1.2,z.1.1) g) (0:Int))≠z.2)):=OJ (λz:(Int×Int)×Int=>(Option.getD (lM (z.1.2,z.1.1) g) (0:Int))≠z.2) g;rw[N];have E:(∀z∈g,¬(Option.getD (lM (z.1.2,z.1.1) g) (0:Int))≠z.2)↔∀v,v<c.length->∀i,i<(at' c (v:Int)).length->CS ([],c) v i:=by
  constructor
  .intro h v F i M;have hw:=(D v F i M).2.2.1;have n:=(d (((v:Int),(nE (at' c (v:Int)) i).1),(nE (at' c (v:Int)) i).2)).2 ⟨v,i,.inl F,M,rfl⟩;have e:=zB7.1 (h _ n);dsimp only at e;cases q:lM ((nE (at' c (v:Int)) i).1,(v:Int)) g with
   |none=>rw[q]at e;simp only[Option.getD]at e;omega
   | some w =>
    rw[q]at e;simp only[Option.getD]at e;have⟨a,b,l,C,A⟩:=(d _).1 (Hn q);simp only[Prod.mk.injEq]at A;have⟨⟨T,U⟩,h8⟩:=A;refine⟨b,?_,?_,?_⟩
    .show b<(at' c (nE (at' c (v:Int)) i).1).length;rw[T];exact C
    .show(nE (at' c (nE (at' c (v:Int)) i).1) b).1=v;rw[T];exact U.symm
    .show(nE (at' c (nE (at' c (v:Int)) i).1) b).2=(nE (at' c (v:Int)) i).2;rw[T,<-h8];exact e
  .intro h z hz ac;obtain⟨a,b,l,C,rfl⟩:=(d z).1 hz;have W:a<c.length:=V7
   apply ac;have⟨j,r,o,B⟩:=h a W b C;have hu:=(D a W b C).1;obtain⟨u,Q⟩:∃u:Nat,(nE (at' c (a:Int)) b).1=u:=⟨(nE (at' c (a:Int)) b).1.toNat,V7⟩
   replace r:j<(at' c (nE (at' c (a:Int)) b).1).length:=r;replace o:(nE (at' c (nE (at' c (a:Int)) b).1) j).1=a:=o;replace B:(nE (at' c (nE (at' c (a:Int)) b).1) j).2=(nE (at' c (a:Int)) b).2:=B;rw[Q]at r o B;have G:u<c.length:=V7
   dsimp only;rw[Q,<-B];have n:=(d (((u:Int),(nE (at' c (u:Int)) j).1),(nE (at' c (u:Int)) j).2)).2 ⟨u,j,.inl G,r,rfl⟩;rw[o]at n;cases q:lM ((u:Int),(a:Int)) g with
   |none=>exact absurd n (As q)
   | some w =>
    have⟨Y,S,ae,aa,A⟩:=(d _).1 (Hn q);simp only[Prod.mk.injEq]at A;have⟨⟨T,U⟩,h8⟩:=A;have:Y=u:=V7
    subst this;have ab:S=j:=by
     rcases Nat.lt_trichotomy S j with O|O|O
     .exact absurd (U.symm.trans o.symm) ((D Y G j r).2.2.2 S O)
     .exact O
     .exact absurd (o.trans U) ((D Y G S aa).2.2.2 j O)
    subst ab;exact h8
 by_cases V:∀v,v<c.length->∀i,i<(at' c (v:Int)).length->CS ([],c) v i
 .rw[zAc (E.2 V)];exact⟨λ_=>rfl,λh=>absurd ⟨D,V⟩ h⟩
 .rw[zA6 (λh=>V (E.1 h))];exact⟨λh=>absurd h.2 V,λ_=>rfl⟩
theorem Sc:∀(N:Nat) (f:Nat->Nat) (k:Nat),(∀i,i<k->f i<N)->(∀i j,i<j->j<k->f i≠f j)->k<=N
 |0,f,k,h,_=>by
  cases k with
  |zero=>omega
  |succ k=>exact absurd (h 0 V7) V7
 | N + 1, f, k, h, hd =>by
  by_cases b:∃a,a<k/\f a=N
  .have⟨a,g,l⟩:=b;have:=Sc N (λi=>if i<a then f i else f (i+1)) (k - 1) (λi c=>by
    split
    .have:=h i V7;have:=hd i a V7 g;omega
    .have:=h (i+1) V7;have:=hd a (i+1) V7 V7;omega) (λi j d m=>by
    split<;>split
    .exact hd i j d V7
    .exact hd i (j+1) V7 V7
    .omega
    .exact hd (i+1) (j+1) V7 V7)
   omega
  .have:=Sc N f k (λi c=>by
    have:=h i c;have:f i≠N:=λe=>b ⟨i,c,e⟩;omega) hd
   omega
theorem aaw {l:cJ} {v n:Nat} (b:v<n) (h:uU l v n):l.length<n:=by
 have:=Sc n (λi=>if i=l.length then v else(nE l i).1.toNat) (l.length+1) (λi e=>by
  split
  .exact b
  .have:=(h i V7).1;omega) (λi j a f=>by
  rw[Q0];have c:=(h i V7).1;split
  .have:=(h i V7).2.1;omega
  .have d:=(h j V7).1;have:=(h j V7).2.2.2 i a;omega)
 omega
theorem akc (g:GR) (j:KZ g):(VG g->mM 1000 g=some true)/\(¬VG g->mM 1000 g=some false):=by
 have⟨e,f,i⟩:=j;unfold mM tR tS;by_cases l:g.1.length<1
 .rw[Q8];exact⟨λh=>by have:=h.n1;have:=h.len;omega,λ_=>rfl⟩
 rw[Q0];by_cases m:24<g.1.length
 .rw[Q8];exact⟨λh=>by have:=h.n24;have:=h.len;omega,λ_=>rfl⟩
 rw[Q0];by_cases d:g.1.length=g.2.length
 rotate_left
 .rw[zAc V7];exact⟨λh=>absurd h.len d,λ_=>rfl⟩
 rw[zA6 V7,if_neg V8];by_cases b:∀k,k<g.1.length->Zv g.1 k
 rotate_left
 .rw[(AG g.1 e).2 b,aY Z];exact⟨λh=>absurd (λk n=>⟨(h.node k V7).id,(h.node k V7).ids⟩) b,λ_=>rfl⟩
 rw[(AG g.1 e).1 b,aY Z,if_pos Z];by_cases a:Qn g.2
 .rw[(Lm g.2 f i).1 a];exact⟨λ_=>rfl,λh=>absurd ⟨V7,V7,d,λv c=>⟨(b v V7).1,aaw c (a.1 v c),a.1 v c,(b v V7).2⟩,a.2⟩ h⟩
 .rw[(Lm g.2 f i).2 a];exact⟨λh=>absurd ⟨λv c=>(h.node v c).links,h.sym⟩ a,λ_=>rfl⟩
abbrev D (d:bN) (v:Nat):Int:=at' d (v:Int)
def Adj (g:GR) (v u:Nat):Prop:=∃i,i<(row g v).length/\(nE (row g v) i).1=(u:Int)
theorem VG.port {g:GR} (h:VG g) {v i:Nat} (b:v<g.2.length) (a:i<(row g v).length):∃u:Nat,u<g.2.length/\(nE (row g v) i).1=(u:Int)/\Adj g v u:=by
 have c:=((h.node v b).links i a).1;exact⟨(nE (row g v) i).1.toNat,V7,V7,i,a,V7⟩
def adN (d:bN):Nat:=d.countP λx=>decide (x<0)
structure aiC (g:GR) (s:Nat) (d:bN):Prop where
 len:d.length=g.2.length
 lo:∀v,v<g.2.length -> -1<=D d v
 zero:∀v,v<g.2.length->(D d v=0↔v=s)
 near:∀v,v<g.2.length->0<D d v->∃u,u<g.2.length/\Adj g v u/\D d u=D d v - 1
 hi:∀v,v<g.2.length->D d v+(adN d:Int)<=(g.2.length:Int)
structure Qu (g:GR) (q d:bN) (b:Int) (done:Nat->Prop):Prop where
 mem:∀y∈q,∃v,v<g.2.length/\y=((v:Nat):Int)/\0<=D d v
 top:∀v,v<g.2.length->D d v<=b
 sort:q.Pairwise λa c=>at' d a<=at' d c
 done:∀v,v<g.2.length->0<=D d v->((v:Nat):Int)∉q->done v->∀u,u<g.2.length->Adj g v u->0<=D d u/\D d u<=D d v+1
theorem Qi {d:bN} {v:Nat} (h:v<d.length):D d v=d[v]:=by
 rw[D,BH,zAm,zA1 h];rfl
theorem aao {d:bN} {u:Nat} {x:Int} (a:u<d.length) (b:D d u<0) (e:0<=x):adN (d.set u x)+1=adN d:=by
 unfold adN;rw[List.countP_set a];have c:0<d.countP λx=>decide (x<0):=by
  rw[List.countP_pos_iff];exact⟨d[u],List.getElem_mem a,by rw[<-Qi a];simpa using b⟩
 rw[Qi a]at b;rw[if_pos (by simpa using b),if_neg Q1];omega
theorem ahI (p:Int) {n:Nat} (d:1<=n) (a:n<=24):OK (λr:Int=>∃s:Nat,r=s/\s<n) (HU 1000 p (n:Int)):=by
 have b:Int.tmod p n<n:=Int.tmod_lt_of_pos _ V7;have c : -(n:Int)<Int.tmod p n:=by
  have:=Int.tmod_lt_of_pos (-p) (show(0:Int)<n by omega);rw[Int.neg_tmod]at this;omega
 unfold HU Es;rw[Q6];by_cases h:Int.tmod p n<0
 .rw[if_pos h,Q7];exact⟨_,rfl,(Int.tmod p n+n).toNat,V7,V7⟩
 .rw[if_neg h];exact⟨_,rfl,(Int.tmod p n).toNat,V7,V7⟩
theorem YX (g:GR) (v:Nat) (u:Int) (m:v<g.2.length) (l:(row g v).length<=30):mV 1000 g v u=some (GZ (row g v) u):=by
 unfold mV;rw[Q6];rcases Cg (row g v) u with⟨i,j,h,c,b⟩|⟨c,b⟩
 .rw[b];refine NO (λx:Int=>∃k:Nat,x=k/\k<=i) (λx=>31 - x.toNat) ?_ 1000 _ ⟨0,rfl,V7⟩ V7;rintro x d ⟨k,rfl,f⟩ a;unfold AM;rw[if_pos (show(k:Int)<((row g v).length:Int) by omega),dM (show 0<=(k:Int)/\(k:Int)<((row g v).length:Int) by omega)];by_cases e:k=i
  .subst e;exact if_pos h
  .rw[if_neg (c k V7),Q7];exact a _ ⟨k+1,V7,V7⟩ V7
 .rw[b];refine NO (λx:Int=>∃k:Nat,x=k/\k<=(row g v).length) (λx=>31 - x.toNat) ?_ 1000 _ ⟨0,rfl,V7⟩ V7;rintro x d ⟨k,rfl,f⟩ a;unfold AM;by_cases e:k<(row g v).length
  .rw[if_pos (show(k:Int)<((row g v).length:Int) by omega),dM (show 0<=(k:Int)/\(k:Int)<((row g v).length:Int) by omega),if_neg (c k e),Q7];exact a _ ⟨k+1,V7,V7⟩ V7
  .rw[if_neg (show¬(k:Int)<((row g v).length:Int) by omega)];rfl
section
def alD (f:Nat->Nat):Nat->Nat
 |0=>0
 |k+1=>alD f k+f k
open Classical in
noncomputable def ind (p:Prop):Nat:=if p then 1 else 0
def leaf (g:GR) (v:Nat):Nat:=if(row g v).length=1 then 1 else 0
end
theorem ach (a:Nat) (h:a<4294967296):IntKind.u32.wrap (a:Int)=a:=by rw[<-Pu];exact if_pos ⟨V7,V7⟩
def N32 (x:Int):Nat:=(BitVec.ofInt 32 x).toNat
theorem Ve (x:Int):N32 x<4294967296:=(BitVec.ofInt 32 x).isLt
theorem Nt {a:Nat} (h:a<4294967296):N32 (a:Int)=a:=by
 unfold N32;rw[BitVec.ofInt_natCast,BitVec.toNat_ofNat];exact Nat.mod_eq_of_lt h
theorem acG (x y:Int):Fv .u32 x y=((N32 x &&& N32 y:Nat):Int):=by
 show IntKind.u32.wrap (((BitVec.ofInt 32 x &&& BitVec.ofInt 32 y).toNat:Nat):Int)=_;rw[BitVec.toNat_and];exact ach _ (Nat.lt_of_le_of_lt Nat.and_le_left (Ve x))
theorem af_ (x y:Int):bOr .u32 x y=((N32 x ||| N32 y:Nat):Int):=by
 show IntKind.u32.wrap (((BitVec.ofInt 32 x ||| BitVec.ofInt 32 y).toNat:Nat):Int)=_;rw[BitVec.toNat_or];exact ach _ (Nat.or_lt_two_pow (n:=32) (Ve x) (Ve y))
theorem afx {k:Nat} (a:k<32):2^k<4294967296:=Nat.pow_lt_pow_right (n:=32) V7 a
theorem aiK {k:Nat} (a:k<32):Tx .u32 1 (k:Int)=((2^k:Nat):Int):=by
 show IntKind.u32.wrap (1*2^(min ((k:Int).toNat) 32))=_;rw[zA7,Nat.min_eq_left V7,Int.one_mul,show(2:Int)^k=((2^k:Nat):Int) by simp];exact ach _ (afx a)
theorem acI {a k:Nat} (b:k<32):Rm .u32 (a:Int) (k:Int)=((a / 2^k:Nat):Int):=by
 show Int.fdiv (a:Int) (2^(min ((k:Int).toNat) 32))=_;rw[zA7,Nat.min_eq_left V7,show(2:Int)^k=((2^k:Nat):Int) by simp,Int.fdiv_eq_ediv_of_nonneg _ (Int.natCast_nonneg _)];simp
theorem aaR {a k:Nat} (d:k<32) (c:a<4294967296):Fv .u32 (Rm .u32 (a:Int) (k:Int)) 1=1↔a.testBit k=true:=by
 have b:N32 1=1:=Nt (a:=1) V7;rw[acI d,acG,Nt (Nat.lt_of_le_of_lt (Nat.div_le_self _ _) c),b,Nat.and_one_is_mod,Nat.testBit_eq_decide_div_mod_eq,zAa];omega
def NZ (g:GR) (s:Nat):Prop:=(∀v,s.testBit v=true->v<g.2.length)/\∀v u,s.testBit v=true->s.testBit u=true->¬Adj g v u
theorem alH {k:Nat} (a:k<32):wI .u64 (k:Int)=k:=by
 show IntKind.u64.wrap (k:Int)=k;have:∀j:Fin 32,IntKind.u64.wrap ((j.1:Nat):Int)=(j.1:Nat):=Q2
 exact this ⟨k,a⟩
theorem ahq {s v:Nat} (b:s<4294967296) (a:v<32):Eo 1000 (s:Int) (v:Int)=some (s.testBit v):=by
 unfold Eo zN;rw[Q8,Q8,alH a,Q6];congr 1;by_cases h:s.testBit v=true
 .rw[h];exact zAc ((aaR a b).2 h)
 .rw[Bool.not_eq_true]at h;rw[h];exact zA6 λc=>by rw[(aaR a b).1 c]at h;cases h
def T (e:bN) (k v w:Nat):Int:=if 0<=D e w/\(D e w<k\/(D e w=k/\w<v))then D e w else -1
theorem aaV {X R:Type} {step:X->(X->V1 R)->V1 R} {K:X->V1 R} {bad:R} (N:Nat) (p:Nat->Prop) (I:Nat->X->Prop) (B:Nat)
  (t:∀(k:Nat) x q,k<N->k<B->I k x->p k->∃c,I (k+1) c/\step x q=q c) (l:∀(k:Nat) x q,k<N->k<B->I k x->¬p k->step x q=some bad) (s:∀x q,I N x->N<B->step x q=K x):
  ∀(b:Nat) (x:X),I 0 x->B<=b->(N<B\/∃k,k<N/\k<B/\¬p k)->((∀k,k<N->p k)->∃c,I N c/\bG step b x=K c)/\(¬(∀k,k<N->p k)->bG step b x=some bad):=by
 intro b x e v hB;have r:∀(d a b:Nat) (x:X),I a x->a+d<N->a+d<B->¬p (a+d)->d<b->bG step b x=some bad:=by
  intro d
  induction d with
  |zero=>
   intro a b x e j g i v;obtain⟨f,rfl⟩:∃f,b=f+1:=⟨b - 1,V7⟩
   exact l a x _ j g e i
  | succ d y =>
   intro a b x e j g i v;obtain⟨f,rfl⟩:∃f,b=f+1:=⟨b - 1,V7⟩
   by_cases u:p a
   .have⟨c,n,o⟩:=t a x (bG step f) V7 V7 e u;have o:bG step (f+1) x=bG step f c:=o;rw[o];exact y (a+1) f c n V7 V7 (by rw[show a+1+d=a+(d+1) by omega];exact i) V7
   .exact l a x _ V7 V7 e u
 have m:∀(d a b:Nat) (x:X),I a x->a+d=N->N<B->(∀k,a<=k->k<N->p k)->d<b->∃c,I N c/\bG step b x=K c:=by
  intro d
  induction d with
  |zero=>
   intro a b x e j g i v;obtain⟨f,rfl⟩:∃f,b=f+1:=⟨b - 1,V7⟩
   obtain rfl:a=N:=V7
   exact⟨x,e,s x _ e g⟩
  |succ d y=>
   intro a b x e j g i v;obtain⟨f,rfl⟩:∃f,b=f+1:=⟨b - 1,V7⟩
   have⟨c,n,o⟩:=t a x (bG step f) V7 V7 e (i a (zAf _) V7);have o:bG step (f+1) x=bG step f c:=o;rw[o];exact y (a+1) f c n V7 g (λk j g=>i k V7 g) V7
 constructor
 .intro h;rcases hB with hB|⟨k,j,_,g⟩
  .exact m N 0 b x e V7 hB (λk _ w=>h k w) V7
  .exact absurd (h k j) g
 .intro h;have:∃k,k<N/\k<B/\¬p k:=by
   rcases hB with hB|hB
   .apply Classical.byContradiction;intro A;exact h λk w=>Classical.byContradiction λi=>A ⟨k,w,V7,i⟩
   .exact hB
  have⟨k,j,g,z⟩:=this;exact r k 0 b x e V7 V7 (by rw[zB3];exact z) V7
theorem YY {a:pT} (q:a.length<=30) {v:Nat} (r:v<a.length):(at' a (v:Int)).length<1000\/∃k,k<(at' a (v:Int)).length/\k<1000/\¬LR (at' a (v:Int)) v a.length k:=by
 by_cases h:(at' a (v:Int)).length<1000
 .exact .inl h
 .right;apply Classical.byContradiction;intro f;have b:∀k,k<40->LR (at' a (v:Int)) v a.length k:=λk p=>Classical.byContradiction λl=>f ⟨k,V7,V7,l⟩;have:=Sc a.length (λi=>(nE (at' a (v:Int)) i).1.toNat) 40 (λi g=>by have:=(b i g).1;omega) (λi j c d o=>by
   have m:=(b i V7).1;have n:=(b j d).1;have e:=(b j d).2.2.2 i c;exact e V7)
  omega
theorem Lg (g:GR):(VG g->mO 1000 g=some true)/\(¬VG g->mO 1000 g=some false):=by
 unfold mO;rw[vQ,aY Z];by_cases y:1<=g.2.length/\g.2.length<=24
 rotate_left
 .rw[zA6 V7];exact⟨λh=>absurd ⟨h.n1,h.n24⟩ y,λ_=>rfl⟩
 rw[zAc V7,if_neg V8];by_cases G:g.1.length=g.2.length
 rotate_left
 .rw[zAc V7];exact⟨λh=>absurd h.len G,λ_=>rfl⟩
 rw[zA6 V7];unfold x_;rw[if_neg V8];have o:∀(v:Nat) (b:Int->V1 V4),v<g.2.length->((∀k,k<v->IT g k≠IT g v)->bG (jV g v b) 1000 0=b ((v:Int)+1))/\(¬(∀k,k<v->IT g k≠IT g v)->bG (jV g v b) 1000 0=some false):=by
  intro v b e;refine BN v _ (λk a B c=>?_) (λk a B c=>?_) (λa=>?_) 1000 V7
  .unfold jV;rw[Q8,Q6,Q6,if_neg c,Q7]
  .unfold jV;rw[Q8,Q6,Q6,if_pos (zB7.1 c)]
  .unfold jV yD;rw[Q0,Q7]
 have l:=BN (step:=jC 1000 g) (K:=rD 1000 g ()) (bad:=false) g.2.length (Od g) (λv b e c=>?_) (λv b e c=>?_) (λb=>?_) 1000 V7
 rotate_left
 .unfold jC pH;rw[Q8,Q6,vQ,zAc c.id,aY Z,if_neg V8,Q6,if_neg (show¬((g.2.length:Int)<=((row g v).length:Int))from by have:=c.deg;omega),Q6,(wH (row g v) v g.2.length (by have:=c.deg;omega) V7).1 c.links,aY Z,if_neg V8];exact(o v b e).1 c.ids
 .unfold jC pH;rw[Q8,Q6,vQ];by_cases w:0<=IT g v/\IT g v<=255
  rotate_left
  .rw[zA6 w];rfl
  rw[zAc w,aY Z,if_neg V8,Q6];by_cases H:(row g v).length<g.2.length
  rotate_left
  .rw[if_pos (show(g.2.length:Int)<=((row g v).length:Int) by omega)];rfl
  rw[if_neg (show¬(g.2.length:Int)<=((row g v).length:Int) by omega),Q6];by_cases x:uU (row g v) v g.2.length
  rotate_left
  .rw[(wH (row g v) v g.2.length V7 V7).2 x];rfl
  rw[(wH (row g v) v g.2.length V7 V7).1 x,aY Z,if_neg V8];exact(o v b e).2 λI=>c ⟨w,H,x,I⟩
 .unfold jC;rw[Q0]
 by_cases p:∀v,v<g.2.length->Od g v
 rotate_left
 .exact⟨λh=>absurd h.node p,λ_=>l.2 p⟩
 rw[l.1 p];unfold rD;have f:∀(v:Nat) (b:Int->V1 V4),v<g.2.length->((∀i,i<(row g v).length->CS g v i)->bG (gX 1000 g v b) 1000 0=b ((v:Int)+1))/\(¬(∀i,i<(row g v).length->CS g v i)->bG (gX 1000 g v b) 1000 0=some false):=by
  intro v b e;have M:=(p v e).deg;have n:∀(i:Nat) a,i<(row g v).length->(CS g v i->gX 1000 g v b i a=a ((i:Int)+1))/\(¬CS g v i->gX 1000 g v b i a=some false):=by
   intro i a r;unfold gX;rw[Q6,if_pos (show(i:Int)<((row g v).length:Int) by omega),Q6,dM (show 0<=(i:Int)/\(i:Int)<((row g v).length:Int) by omega)];have O:=((p v e).links i r).1;obtain⟨u,F⟩:∃u:Nat,(nE (row g v) i).1=u:=⟨(nE (row g v) i).1.toNat,V7⟩
   have q:u<g.2.length:=V7
   unfold CS;rw[show(at' (at' g.2 (v:Int)) (i:Int))=nE (row g v) i from rfl,F,OU g u v q (by have:=(p u q).deg;omega),aY Z];have E:=(p u q).links;rcases Cg (row g u) v with⟨j,t,m,A,z⟩|⟨J,z⟩
   .rw[z,Q0,Q6,dM (show 0<=(j:Int)/\(j:Int)<((at' g.2 (u:Int)).length:Int)from⟨V7,by have:j<(row g u).length:=t;exact_mod_cast this⟩)];unfold yC;constructor
    .rintro⟨k,B,s,D⟩;have C:k=j:=by
      rcases Nat.lt_trichotomy k j with h|h|h
      .exact absurd s (A k h)
      .exact h
      .exact absurd (m.trans s.symm) ((E k B).2.2.2 j h)
     subst C;rw[if_neg (by rw[zA6];simp;exact λh=>h D),Q7]
    .intro h;rw[if_pos];exact zAc λN=>h ⟨j,t,m,N⟩
   .rw[z,if_pos Q2];exact⟨fun⟨j,t,m,_⟩=>absurd m (J j t),λ_=>rfl⟩
  refine BN (row g v).length _ (λi a r c=>(n i a r).1 c) (λi a r c=>(n i a r).2 c) (λa=>?_) 1000 V7;unfold gX yB;rw[Q6,if_neg (show¬(((row g v).length:Nat):Int)<((row g v).length:Int) by omega),Q7]
 have d:=BN (step:=jB 1000 g) (K:=some true) (bad:=false) g.2.length (λv=>∀i,i<(row g v).length->CS g v i) (λv b e c=>?_) (λv b e c=>?_) (λb=>?_) 1000 V7
 .exact⟨λh=>d.1 h.sym,λh=>d.2 λL=>h ⟨y.1,y.2,G,p,L⟩⟩
 .unfold jB;rw[Q8];exact(f v b e).1 c
 .unfold jB;rw[Q8];exact(f v b e).2 c
 .unfold jB yA;rw[Q0]
theorem Ka (c:pT) (hn:c.length<=30):(Qn c->kG 1000 c=some true)/\(¬Qn c->kG 1000 c=some false):=by
 unfold kG;have s:∀(v:Nat) (m:V6 ((Int×Int)×Int)) p,v<c.length->(∀z,z∈m↔Tg c v 0 z)->
   (uU (at' c (v:Int)) v c.length->∃Y,(∀z,z∈Y↔Tg c (v+1) 0 z)/\bG (eG c ((v:Int),m) p) 1000 ((0:Int),m)=p ((v:Int)+1,Y))/\
   (¬uU (at' c (v:Int)) v c.length->bG (eG c ((v:Int),m) p) 1000 ((0:Int),m)=some false):=by
  intro v m p F hm;have L:=YY hn F;have S:=aaV (step:=eG c ((v:Int),m) p) (K:=λx=>p ((v:Int)+1,x.2)) (bad:=false) (at' c (v:Int)).length (LR (at' c (v:Int)) v c.length) (λi x=>x.1=(i:Int)/\∀z,z∈x.2↔Tg c v i z) 1000 ?_ ?_ ?_ 1000 ((0:Int),m) ⟨rfl,hm⟩ V7 L
  .refine⟨λh=>?_,λh=>S.2 h⟩
   have⟨x,⟨ah,ae⟩,f⟩:=S.1 h;refine⟨x.2,λz=>(ae z).trans ⟨?_,?_⟩,f⟩
   .rintro⟨a,b,y,e,l⟩;exact⟨a,b,V7,e,l⟩
   .rintro⟨a,b,y,e,l⟩;refine⟨a,b,?_,e,l⟩
    by_cases X:a=v
    .subst X;exact .inr ⟨rfl,e⟩
    .omega
  .rintro i ⟨H,g⟩ I N ac ⟨f,d⟩ ⟨p1,p2,p3,p4⟩;dsimp only at f d;subst f;have q:lM (((v:Int),(nE (at' c (v:Int)) i).1)) g=none:=by
    apply Mo;intro w hw;have⟨a,b,y,e,l⟩:=(d _).1 hw;simp only[Prod.mk.injEq]at l;have⟨⟨C,A⟩,_⟩:=l;have:a=v:=V7
    subst this;have hb:b<i:=V7
    exact p4 b hb A.symm
   refine⟨((i:Int)+1,zL (((v:Int),(nE (at' c (v:Int)) i).1)) (nE (at' c (v:Int)) i).2 g),⟨V8,λz=>?_⟩,?_⟩
   .dsimp only;rw[TX q,d];constructor
    .rintro(rfl|⟨a,b,y,e,l⟩)
     .exact⟨v,i,.inr ⟨rfl,V7⟩,N,rfl⟩
     .exact⟨a,b,V7,e,l⟩
    .rintro⟨a,b,y,e,l⟩;by_cases J:a=v/\b=i
     .left;rw[l,J.1,J.2]
     .right;exact⟨a,b,V7,e,l⟩
   .replace p1:0<=(at' (at' c (v:Int)) (i:Int)).1/\(at' (at' c (v:Int)) (i:Int)).1<=(c.length:Int) - 1:=p1;replace p3:1<=(at' (at' c (v:Int)) (i:Int)).2/\(at' (at' c (v:Int)) (i:Int)).2<=15:=p3;unfold eG kV mD;dsimp only;rw[Q8,Q6,Q0,Q0,if_neg (by rw[zA6 p2];simp),Q0,if_neg (by rw[zA6 V7];simp),q,if_neg V8,Q7]
  .rintro i ⟨H,g⟩ I N ac ⟨f,d⟩ Q;dsimp only at f d;subst f;unfold eG kV mD;dsimp only;rw[Q8,Q6];by_cases y:(nE (at' c (v:Int)) i).1<0
   .rw[if_pos y,if_pos Z]
   rw[if_neg y];by_cases e:(c.length:Int)<=(nE (at' c (v:Int)) i).1
   .rw[if_pos e,if_pos Z]
   rw[if_neg e];by_cases l:(nE (at' c (v:Int)) i).1=v
   .rw[if_pos (zAc l)]
   rw[if_neg (by rw[zA6 l];simp)];by_cases C:(nE (at' c (v:Int)) i).2<1
   .rw[if_pos C,if_pos Z]
   rw[if_neg C];by_cases A:15<(nE (at' c (v:Int)) i).2
   .rw[if_pos (zAc A)]
   rw[if_neg (by rw[zA6 A];simp)];have:∃k,k<i/\(nE (at' c (v:Int)) k).1=(nE (at' c (v:Int)) i).1:=by
    apply Classical.byContradiction;intro hc;exact Q ⟨V7,l,V7,λk O M=>hc ⟨k,O,M⟩⟩
   have⟨k,O,M⟩:=this;have n:=(d _).2 ⟨v,k,.inr ⟨rfl,O⟩,V7,rfl⟩;rw[if_pos];rw[<-M];cases q:lM (((v:Int),(nE (at' c (v:Int)) k).1)) g with
   |some w=>rfl
   | none =>exact absurd n (by
     intro n;exact As q n)
  .rintro⟨H,g⟩ I ⟨f,d⟩ _;dsimp only at f d;subst f;unfold eG qX;dsimp only;rw[Q0,Q7]
 have t:=KW (step:=fD 1000 c) (K:=λx=>mC x.2) (bad:=false) c.length (λv=>uU (at' c (v:Int)) v c.length) (λv x=>x.1=(v:Int)/\∀z,z∈x.2↔Tg c v 0 z) ?_ ?_ ?_ 1000 ((0:Int),[]) ⟨rfl,λz=>⟨λh=>(by cases h),fun⟨a,b,y,_⟩=>V7⟩⟩ V7
 rotate_left
 .rintro v ⟨H,g⟩ p F ⟨f,d⟩ Q;dsimp only at f d;subst f;have⟨Y,y,e⟩:=(s v g p F d).1 Q;refine⟨((v:Int)+1,Y),⟨V8,y⟩,?_⟩
  .unfold fD;dsimp only;rw[Q8,Q6];exact e
 .rintro v ⟨H,g⟩ p F ⟨f,d⟩ Q;dsimp only at f d;subst f;unfold fD;dsimp only;rw[Q8,Q6];exact(s v g p F d).2 Q
 .rintro⟨H,g⟩ p ⟨f,d⟩;dsimp only at f d;subst f;unfold fD;dsimp only;rw[Q0]
 by_cases D:∀v,v<c.length->uU (at' c (v:Int)) v c.length
 rotate_left
 .exact⟨λh=>absurd h.1 D,λ_=>t.2 D⟩
 have⟨⟨H,g⟩,⟨f,d⟩,M⟩:=t.1 D;rw[M];dsimp only at d ⊢;have O:mC g=some (decide (∀z∈g,¬(Option.getD (lM (z.1.2,z.1.1) g) (0:Int))≠z.2)):=OJ (λz:(Int×Int)×Int=>(Option.getD (lM (z.1.2,z.1.1) g) (0:Int))≠z.2) g;rw[O];have E:(∀z∈g,¬(Option.getD (lM (z.1.2,z.1.1) g) (0:Int))≠z.2)↔∀v,v<c.length->∀i,i<(at' c (v:Int)).length->CS ([],c) v i:=by
  constructor
  .intro h v F i N;have hw:=(D v F i N).2.2.1;have n:=(d (((v:Int),(nE (at' c (v:Int)) i).1),(nE (at' c (v:Int)) i).2)).2 ⟨v,i,.inl F,N,rfl⟩;have e:=zB7.1 (h _ n);dsimp only at e;cases q:lM ((nE (at' c (v:Int)) i).1,(v:Int)) g with
   |none=>rw[q]at e;simp only[Option.getD]at e;omega
   | some w =>
    rw[q]at e;simp only[Option.getD]at e;have⟨a,b,l,C,A⟩:=(d _).1 (Hn q);simp only[Prod.mk.injEq]at A;have⟨⟨U,V⟩,h8⟩:=A;refine⟨b,?_,?_,?_⟩
    .show b<(at' c (nE (at' c (v:Int)) i).1).length;rw[U];exact C
    .show(nE (at' c (nE (at' c (v:Int)) i).1) b).1=v;rw[U];exact V.symm
    .show(nE (at' c (nE (at' c (v:Int)) i).1) b).2=(nE (at' c (v:Int)) i).2;rw[U,<-h8];exact e
  .intro h z hz ad;obtain⟨a,b,l,C,rfl⟩:=(d z).1 hz;have X:a<c.length:=V7
   apply ad;have⟨j,r,o,B⟩:=h a X b C;have hu:=(D a X b C).1;obtain⟨u,R⟩:∃u:Nat,(nE (at' c (a:Int)) b).1=u:=⟨(nE (at' c (a:Int)) b).1.toNat,V7⟩
   replace r:j<(at' c (nE (at' c (a:Int)) b).1).length:=r;replace o:(nE (at' c (nE (at' c (a:Int)) b).1) j).1=a:=o;replace B:(nE (at' c (nE (at' c (a:Int)) b).1) j).2=(nE (at' c (a:Int)) b).2:=B;rw[R]at r o B;have G:u<c.length:=V7
   dsimp only;rw[R,<-B];have n:=(d (((u:Int),(nE (at' c (u:Int)) j).1),(nE (at' c (u:Int)) j).2)).2 ⟨u,j,.inl G,r,rfl⟩;rw[o]at n;cases q:lM ((u:Int),(a:Int)) g with
   |none=>exact absurd n (As q)
   | some w =>
    have⟨a',T,af,aa,A⟩:=(d _).1 (Hn q);simp only[Prod.mk.injEq]at A;have⟨⟨U,V⟩,h8⟩:=A;have:a'=u:=V7
    subst this;have ab:T=j:=by
     rcases Nat.lt_trichotomy T j with P|P|P
     .exact absurd (V.symm.trans o.symm) ((D a' G j r).2.2.2 T P)
     .exact P
     .exact absurd (o.trans V) ((D a' G T aa).2.2.2 j P)
    subst ab;exact h8
 by_cases W:∀v,v<c.length->∀i,i<(at' c (v:Int)).length->CS ([],c) v i
 .rw[zAc (E.2 W)];exact⟨λ_=>rfl,λh=>absurd ⟨D,W⟩ h⟩
 .rw[zA6 (λh=>W (E.1 h))];exact⟨λh=>absurd h.2 W,λ_=>rfl⟩
theorem Zf (g:GR):(VG g->mM 1000 g=some true)/\(¬VG g->mM 1000 g=some false):=by
 unfold mM tR tS;by_cases e:g.1.length<1
 .rw[Q8];exact⟨λh=>by have:=h.n1;have:=h.len;omega,λ_=>rfl⟩
 rw[Q0];by_cases f:24<g.1.length
 .rw[Q8];exact⟨λh=>by have:=h.n24;have:=h.len;omega,λ_=>rfl⟩
 rw[Q0];by_cases d:g.1.length=g.2.length
 rotate_left
 .rw[zAc V7];exact⟨λh=>absurd h.len d,λ_=>rfl⟩
 rw[zA6 V7,if_neg V8];by_cases b:∀k,k<g.1.length->Zv g.1 k
 rotate_left
 .rw[(AG g.1 V7).2 b,aY Z];exact⟨λh=>absurd (λk i=>⟨(h.node k V7).id,(h.node k V7).ids⟩) b,λ_=>rfl⟩
 rw[(AG g.1 V7).1 b,aY Z,if_pos Z];by_cases a:Qn g.2
 .rw[(Ka g.2 V7).1 a];exact⟨λ_=>rfl,λh=>absurd ⟨V7,V7,d,λv c=>⟨(b v V7).1,aaw c (a.1 v c),a.1 v c,(b v V7).2⟩,a.2⟩ h⟩
 .rw[(Ka g.2 V7).2 a];exact⟨λh=>absurd ⟨λv c=>(h.node v c).links,h.sym⟩ a,λ_=>rfl⟩
end Go.Proofs.YtemmagadjnlajaaGreatDoor
namespace Go.Proofs.YtemmagadjnlajaaGreatDoor
open Go Go.Sx
abbrev val (c:fE) (v x:Nat):Int:=at' (at' c (v:Int)) (x:Int)
def aeT (g:GR) (b:Int) (v:Nat) (a:Int):Prop:=if b = -1 then -1<=a/\a<=((row g v).length:Int) - 1 else 0<=a/\a<=b
instance (g:GR) (top:Int) (v:Nat) (a:Int):Decidable (aeT g top v a):=by unfold aeT;infer_instance
def pF (g:GR):Nat->Int
 |0=>0
 |k+1=>max (pF g k) (at' g.1 (k:Int))
theorem Hm {g:GR} (a:VG g):∀k,k<=g.2.length->0<=pF g k/\pF g k<=255
 |0,_=>by simp[pF]
 |k+1,h=>by
  have b:=Hm a k V7;have c:0<=at' g.1 (k:Int)/\at' g.1 (k:Int)<=255:=(a.node k V7).id;simp only[pF];omega
abbrev Zk:=CJ
def Hf (x:Zk):Prop:=(-100000<=x.2.2.2.1/\x.2.2.2.1<=100000)/\(0<=x.2.2.2.2.1/\x.2.2.2.2.1<=100000)/\(0<=x.2.2.2.2.2/\x.2.2.2.2.2<=100000)
def lo (g:GR) (x:Zk) (v:Nat):Int:=if x.2.1=2 then 0 else if x.2.1=3 then -1 else x.2.2.1
def hi (g:GR) (x:Zk) (v:Nat):Int:=if x.2.1=2 then 1 else if x.2.1=3 then((row g v).length:Int) - 1 else x.2.2.2.1+x.2.2.2.2.1*(g.2.length:Int)+x.2.2.2.2.2*pF g g.1.length
structure RCf (g:GR) (c:fE) (vars:List Zk):Prop where
 len:c.length=g.2.length
 row:∀v,v<g.2.length->(at' c (v:Int)).length=vars.length
 ok:∀v,v<g.2.length->∀x,x<vars.length->lo g (at' vars (x:Int)) v<=val c v x/\val c v x<=hi g (at' vars (x:Int)) v
theorem akV {a b:Nat} (c:a<4294967296) (d:b<4294967296):bOr .u32 (a:Int) (b:Int)=((a ||| b:Nat):Int):=by rw[af_,Nt c,Nt d]
theorem afZ {a k:Nat} (c:a<4294967296) (b:k<32):bOr .u32 (a:Int) (Tx .u32 1 (k:Int))=((a ||| 2^k:Nat):Int):=by rw[aiK b,akV c (afx b)]
theorem XA (p:Nat->V4) {k:Nat} (a:k<=32):Gz p k<4294967296:=zAw (TW p k) (Nat.pow_le_pow_right (n:=2) V7 a)
theorem VG.to {g:GR} (c:VG g) {v i:Nat} (e:v<g.2.length) (d:i<(row g v).length):∃u:Nat,u<g.2.length/\(nE (row g v) i).1=(u:Int):=by
 have⟨u,a,b,_⟩:=c.port e d;exact⟨u,a,b⟩
end Go.Proofs.YtemmagadjnlajaaGreatDoor
namespace Go.Proofs.YtemmagadjnlajaaGreatDoor
open Go Go.Sx
structure GM (g:GR) (vars:List Zk):Prop where
 len:vars.length<=20
 small:∀x,x<vars.length->Hf (at' vars (x:Int))
 kind:∀x,x<vars.length->(at' vars (x:Int)).2.1=1\/(at' vars (x:Int)).2.1=2\/(at' vars (x:Int)).2.1=3
 range:∀x,x<vars.length->(at' vars (x:Int)).2.1=1 -> -100000<=lo g (at' vars (x:Int)) 0/\lo g (at' vars (x:Int)) 0<=hi g (at' vars (x:Int)) 0/\hi g (at' vars (x:Int)) 0 - lo g (at' vars (x:Int)) 0+1<=4096
theorem ahF {g:GR} (a:VG g):EU 1000 g.1=some (pF g g.1.length):=by
 have d:=a.n24;have b:=a.len;have h:=a.n1;have f:0<=at' g.1 ((0:Nat):Int):=(a.node 0 V7).id.1;unfold EU;rw[Q0,Q6];have:=gW (step:=Az g.1) (K:=some (pF g g.1.length)) (g.1.length - 1) (λk=>(pF g (k+1),((k+1:Nat):Int))) (λk c i=>by
  unfold Az;dsimp only;rw[Q8,Q6,Q9];rfl) (λc=>by
  unfold Az D_;dsimp only;rw[Q0,show g.1.length - 1+1=g.1.length by omega]) 1000 V7
 have e:pF g (0+1)=at' g.1 (0:Int):=by
  show max (pF g 0) (at' g.1 ((0:Nat):Int))=_;simp only[pF];have:at' g.1 ((0:Nat):Int)=at' g.1 (0:Int):=rfl;omega
 rw[e]at this;exact this
theorem Ma {g:GR} (c:VG g) {x:Zk} (o:Hf x) (n:x.2.1=1\/x.2.1=2\/x.2.1=3) {v:Nat} (p:v<g.2.length):k_ 1000 x g (v:Int)=some (lo g x v,hi g x v):=by
 have⟨⟨B,C⟩,⟨r,s⟩,t,u⟩:=o;have l:=c.n24;have d:=c.len;have e:=Hm c g.1.length V7;have w:0<=x.2.2.2.2.1*(g.1.length:Int):=Int.mul_nonneg r V7;have y:x.2.2.2.2.1*(g.1.length:Int)<=100000*24:=Int.mul_le_mul s V7 V7 V7;have z:0<=x.2.2.2.2.2*pF g g.1.length:=Int.mul_nonneg t e.1;have A:x.2.2.2.2.2*pF g g.1.length<=100000*255:=Int.mul_le_mul u e.2 e.1 V7;have i:sI 1000 x g (v:Int)=some (x.2.2.1,x.2.2.2.1+x.2.2.2.2.1*(g.2.length:Int)+x.2.2.2.2.2*pF g g.1.length):=by
  unfold sI;rw[aY (ahF c),Q7 (x:=x.2.2.2.2.1*_),Q7 (x:=x.2.2.2.2.2*_),Q7 (x:=x.2.2.2.1+_),Q7,d]
 have j:sJ 1000 x g (v:Int)=some (-1,((row g v).length:Int) - 1):=by
  have k:=(c.node v p).deg;unfold sJ;rw[Q6];show some ((-1:Int),wI .i64 (((row g v).length:Int) - 1))=_;rw[Q7]
 have q:∀(f:Nat) (a:Int),bG (iG 1000 x g (v:Int)) (f+1) a=iG 1000 x g (v:Int) a (bG (iG 1000 x g (v:Int)) f):=λf a=>rfl;have b:∀(f:Nat) (a:Int),a=0\/a=1\/a=2->bG (iG 1000 x g (v:Int)) (f+1) a=if a=0 then(if 1=x.2.1 then sI 1000 x g (v:Int)else bG (iG 1000 x g (v:Int)) f 1)else if a=1 then(if 2=x.2.1 then wU 1000 x g (v:Int)else bG (iG 1000 x g (v:Int)) f 2)else(if 3=x.2.1 then sJ 1000 x g (v:Int)else bG (iG 1000 x g (v:Int)) f 3):=by
  intro f a m;rw[q];generalize bG (iG 1000 x g (v:Int)) f=G;unfold iG qN;rcases m with rfl|rfl|rfl
  .rw[if_pos Q2,dM Q2,if_pos Z,if_pos Z];split
   .rw[i];rfl
   .rfl
  .rw[if_pos Q2,dM Q2,if_neg (show¬(1:Int)=0 by decide),if_pos Z,if_neg (show¬(1:Int)=0 by decide),if_pos Z];split
   .rfl
   .rfl
  .rw[if_pos Q2,dM Q2,if_neg (show¬(2:Int)=0 by decide),if_neg (show¬(2:Int)=1 by decide),if_neg (show¬(2:Int)=0 by decide),if_neg (show¬(2:Int)=1 by decide)];split
   .rw[j];rfl
   .rfl
 unfold k_ lo hi;rcases n with h|h|h
 .rw[b 999 0 (.inl Z),if_pos Z,if_pos h.symm,i,h,if_neg Q2,if_neg Q2,if_neg Q2,if_neg Q2]
 .rw[b 999 0 (.inl Z),if_pos Z,Q0,b 998 1 (.inr (.inl Z)),if_neg Q2,if_pos Z,if_pos h.symm,h,if_pos Z,if_pos Z];rfl
 .rw[b 999 0 (.inl Z),if_pos Z,Q0,b 998 1 (.inr (.inl Z)),if_neg Q2,if_pos Z,Q0,b 997 2 (.inr (.inr Z)),if_neg Q2,if_neg Q2,if_pos h.symm,j,h,if_neg Q2,if_pos Z,if_neg Q2,if_pos Z]
def JQ (g:GR) (a:V6 Zk) (v x:Nat):dJ:=(lo g (at' a (x:Int)) v,hi g (at' a (x:Int)) v)
def JL (g:GR) (a:V6 Zk) (v:Nat):cJ:=(List.range a.length).map (JQ g a v)
def Jl (g:GR) (a:V6 Zk):pT:=(List.range g.2.length).map (JL g a)
theorem FJ {a:Type} [Inhabited a] (f:Nat->a) {n k:Nat} (h:k<n):at' ((List.range n).map f) (k:Int)=f k:=by
 rw[Zl (by simpa using h)];simp
theorem GY {a:Type} (f:Nat->a) (z:a) (n k:Nat) (h:k<n):((List.range k).map f++List.replicate (n - k) z).set k (f k)=(List.range (k+1)).map f++List.replicate (n - (k+1)) z:=by
 rw[show n - k=(n - (k+1))+1 by omega,List.replicate_succ,List.set_append_right _ _ V8,List.range_succ];simp
theorem LB {g:GR} (m:VG g) {p:PG} (n:GM g p.2.1):kX 1000 p g=some (Jl g p.2.1):=by
 have s:=m.n24;have d:=m.len;have w:=n.len;let a:=p.2.1;let Q:Nat->pT:=λk=>(List.range k).map (JL g a)++List.replicate (g.2.length - k) [];have c:∀k,k<=g.2.length->(Q k).length=g.2.length:=λk f=>by simp[Q];omega
 let R:Nat->Nat->cJ:=λk j=>(List.range j).map (JQ g a k)++List.replicate (a.length - j) (0,0);have l:∀k j,j<=a.length->(R k j).length=a.length:=λk j b=>by simp[R];omega
 unfold kX;rw[Q6];rw[show List.replicate (Int.toNat (g.1.length:Int)) ([]:cJ)=Q 0 by simp[Q,d]];refine gW (step:=pR 1000 p g) (K:=some (Jl g a)) g.2.length (λk=>((k:Int),Q k)) (λk e f=>?_) (λe=>?_) 1000 V7
 .unfold pR;dsimp only;rw[if_pos Q1,Q6,dM (by rw[c k V7];omega)];refine Eq.trans (?_:_=bG (rY 1000 p g ((k:Int),Q k) e) 1000 ((0:Int),(Q k).set k (R k 0))) ?_
  .rw[zA7,zA7];simp[R,a]
  refine gW (step:=rY 1000 p g ((k:Int),Q k) e) (K:=e (((k+1:Nat):Int),Q (k+1))) a.length (λj=>((j:Int),(Q k).set k (R k j))) (λj h b=>?_) (λh=>?_) 1000 (by show p.2.1.length<1000;omega)
  .have u:j<p.2.1.length:=b;have t:=Ma m (n.small j b) (n.kind j b) f;have v:k<(Q k).length:=by rw[c k V7];exact f
   have o:∀X:cJ,at' ((Q k).set k X) (k:Int)=X:=λX=>by rw[Oh _ _ _ _ v,if_pos Z]
   have i:j<(R k j).length:=by rw[l k j V7];exact b
   unfold rY;dsimp only;rw[Q8,Q6,dM (by simp only[zAb];omega),dM (by simp only[zAb];omega),aY (show k_ 1000 _ g (k:Int)=_ from t),zA7,zA7];simp only[o,List.set_set];rw[Q6,dM (by simp only[zAb];omega),Q9];have:(R k j).set j (lo g (at' p.2.1 (j:Int)) k,hi g (at' p.2.1 (j:Int)) k)=R k (j+1):=GY (JQ g a k) (0,0) a.length j b;rw[Oh _ _ _ _ i,if_pos Z];dsimp only;rw[this]
  .unfold rY AJ;dsimp only;rw[if_neg (show¬((a.length:Nat):Int)<(p.2.1.length:Int)from Int.lt_irrefl _),Q9];have q:R k a.length=JL g a k:=by simp[R,JL]
   have r:(Q k).set k (JL g a k)=Q (k+1):=GY (JL g a) [] g.2.length k f;rw[q,r]
 .unfold pR AI;dsimp only;rw[if_neg Q1];simp[Q,Jl]
theorem Xl {g:GR} (c:VG g) {p:PG} (e:mP 1000 p=some true) (b:GM g p.2.1):sT 1000 p g=some 0:=by
 have j:=c.n1;have i:=b.len;unfold sT;rw[aY (show mP 1000 _=some true from e),if_neg Q2,aY (show mM 1000 g=some true from(Zf g).1 c),if_neg Q2];refine gW (step:=qW 1000 p g) (K:=some 0) p.2.1.length (λk=>(k:Int)) (λk f d=>?_) (λf=>?_) 1000 V7
 .unfold qW tM BK tM;rw[Q8,Q6,Q9];by_cases a:(at' p.2.1 (k:Int)).2.1=1
  .have⟨l,m,n⟩:=b.range k d a;have h:=Ma c (b.small k d) (b.kind k d) (v:=0) V7;rw[if_neg (by simpa using a),aY (show k_ 1000 _ g (0:Int)=_ from h)];dsimp only;rw[Q0,Q7 (x:=hi g (at' p.2.1 (k:Int)) 0 - lo g (at' p.2.1 (k:Int)) 0),Q7,if_neg (by rw[zAa];omega)]
  .rw[if_pos a]
 .unfold qW BJ;rw[Q0]
theorem abL {g:GR} {a:V6 Zk} (i:a.length<=20) {v:Nat} {l:bN} (c:l.length=a.length) (d:∀x,x<a.length->lo g (at' a (x:Int)) v<=at' l (x:Int)/\at' l (x:Int)<=hi g (at' a (x:Int)) v):BX 1000 (JL g a v) l=some true:=by
 have f:(JL g a v).length=a.length:=by simp[JL]
 unfold BX;rw[if_neg (by rw[f,c];simp)];refine gW (step:=sB (JL g a v) l) (K:=some true) l.length (λk=>(k:Int)) (λk b h=>?_) (λb=>?_) 1000 V7
 .have e:at' (JL g a v) (k:Int)=JQ g a v k:=FJ _ V7;have:=d k V7;unfold sB AU;rw[Q8,Q6,Q6,e];rw[if_neg (show¬at' l (k:Int)<(JQ g a v k).1 from Int.not_lt.2 this.1),Q6,if_neg (by rw[zAa];exact Int.not_lt.2 this.2),Q9]
 .unfold sB AT;rw[Q0]
theorem TK {g:GR} (a:VG g) {p:PG} (h:mP 1000 p=some true) (f:GM g p.2.1) {c:fE} (b:RCf g c p.2.1):kY 1000 p g c=some 0:=by
 have j:=a.n24;have m:(Jl g p.2.1).length=g.2.length:=by simp[Jl]
 have d:=b.len;unfold kY;rw[aY (show sT 1000 _ _=some 0 from Xl a h f),if_neg Q2,aY (show kX 1000 _ _=_ from LB a f)];have:AO 1000 (Jl g p.2.1) c=some true:=by
  unfold AO;rw[if_neg (by rw[m,d];simp)];refine gW (step:=tX 1000 (Jl g p.2.1) c) (K:=some true) g.2.length (λk=>(k:Int)) (λk i e=>?_) (λi=>?_) 1000 V7
  .have l:at' (Jl g p.2.1) (k:Int)=JL g p.2.1 k:=FJ _ e;unfold tX;rw[Q8,Q6,Q6,l,aY (abL f.len (b.row k e) (b.ok k e)),if_neg Q2,Q9]
  .unfold tX zK;rw[Q0]
 rw[aY this,if_neg Q2]
theorem abJ {a:Type} [Inhabited a] (l:V6 a) (k:Nat) (h:k<l.length):l.set k (at' l (k:Int))=l:=by
 rw[Zl h];exact List.set_getElem_self h
def Tz (g:GR) (v i:Nat):Int:=GZ (row g (nE (row g v) i).1.toNat) (v:Int)
def Bi (g:GR):fE:=(List.range g.2.length).map λv=>(List.range (row g v).length).map (Tz g v)
abbrev SA:=Hw
abbrev SB:=Bz
theorem JD {R:Type} {g:GR} (i:VG g) (q:SA->(SA->V1 R)->V1 R) (n:SA->(SA->V1 R)->SB->(SB->V1 R)->V1 R) (K:SB->V1 R)
  (s:∀a d,q a d=if a.1<(g.2.length:Int)then ck (0<=a.1/\a.1<(g.2.length:Int)) (ck (0<=a.1/\a.1<(g.1.length:Int)) (bG (n a d) 1000 ((0:Int),a.2.2)))else K (a.2.1,a.2.2))
  (t:∀a d b e,n a d b e=if b.1<((at' g.2 a.1).length:Int)then ck (0<=b.1/\b.1<((at' g.2 a.1).length:Int)) (ck (0<=a.1/\a.1<(b.2.length:Int)) (Option.bind (mV 1000 g ((at' (at' g.2 a.1) b.1).1) a.1) λr=>ck (((at' b.2 a.1).length:Int)+(List.length ([r]):Int)<=1099511627) (ck (0<=a.1/\a.1<((List.set b.2 (Int.toNat a.1) ((at' b.2 a.1)++[r])).length:Int)) (e ((wI .i64 (b.1+(1:Int))),(List.set b.2 (Int.toNat a.1) ((at' b.2 a.1)++[r])))))))else d ((wI .i64 (a.1+(1:Int))),(max a.2.1 (at' g.1 a.1)),b.2)):
  bG q 1000 ((0:Int),(0:Int),(List.replicate (Int.toNat (g.2.length:Int)) ([]:bN)))=K (pF g g.2.length,Bi g):=by
 have B:=i.n24;have x:=i.len;let f:Nat->bN:=λv=>(List.range (row g v).length).map (Tz g v);let Q:Nat->fE:=λk=>(List.range k).map f++List.replicate (g.2.length - k) [];have C:∀k,k<=g.2.length->(Q k).length=g.2.length:=λk l=>by simp[Q];omega
 rw[show List.replicate (Int.toNat (g.2.length:Int)) ([]:bN)=Q 0 by simp[Q]];refine gW (step:=q) g.2.length (λk=>((k:Int),pF g k,Q k)) (λk d l=>?_) (λd=>?_) 1000 V7
 .have w:=(i.node k l).deg;have p:k<(Q k).length:=by rw[C k V7];exact l
  rw[s];dsimp only;rw[Q8,Q6,Q6];let c:Nat->bN:=λj=>(List.range j).map (Tz g k);have A:(Q k).set k (c 0)=Q k:=by
   have:at' (Q k) (k:Int)=c 0:=by
    rw[Zl p];simp[Q,c]
   rw[<-this];exact abJ (Q k) k p
  have h:bG (n ((k:Int),pF g k,Q k) d) 1000 ((0:Int),(Q k).set k (c 0))=d (((k+1:Nat):Int),pF g (k+1),(Q k).set k (f k)):=by
   refine gW (step:=n ((k:Int),pF g k,Q k) d) (K:=d (((k+1:Nat):Int),pF g (k+1),(Q k).set k (f k))) (row g k).length (λj=>((j:Int),(Q k).set k (c j))) (λj e E=>?_) (λe=>?_) 1000 V7
   .have⟨u,y,m⟩:=i.to l E;have D:=(i.node u y).deg;have z:at' ((Q k).set k (c j)) (k:Int)=c j:=by rw[Oh _ _ _ _ p,if_pos Z]
    have o:(c j).length=j:=by simp[c]
    rw[t];dsimp only;rw[if_pos (show(j:Int)<((row g k).length:Int) by omega),dM (show 0<=(j:Int)/\(j:Int)<((row g k).length:Int) by omega),dM (by simp only[zAb];omega),show at' (at' g.2 (k:Int)) (j:Int)=nE (row g k) j from rfl,m,aY (show mV 1000 _ (u:Int) (k:Int)=_ from YX g u (k:Int) y V7),z,dM (by rw[o];simp;omega),dM (by simp only[zAb];omega),Q9,zA7,List.set_set];have:c j++[GZ (row g u) (k:Int)]=c (j+1):=by
     simp only[c];rw[List.range_succ,List.map_append,List.map_singleton,Tz,m,zA7]
    rw[this]
   .rw[t];dsimp only;rw[if_neg (show¬((row g k).length:Int)<((row g k).length:Int)from Int.lt_irrefl _),Q9];rfl
  rw[A,GY f [] g.2.length k l]at h;exact h
 .rw[s];dsimp only;rw[Q0];simp[Q,Bi,f]
structure ZP (g:GR) (nv:Nat) (c:fE):Prop where
 len:c.length=g.2.length
 row:∀v:Nat,v<g.2.length->(at' c (v:Int)).length=nv
theorem RCf.shape {g:GR} {c:fE} {a:V6 Zk} (h:RCf g c a):ZP g a.length c:=⟨h.len,h.row⟩
theorem wok {p:PG} {g:GR} {gr:Int} {e:Nat} {c:fE} {v:Nat} (b:VG g) (d:ZP g e c) (j:v<g.2.length) (k:V6 TM):WOk ((p,g,gr,Bi g),c,(v:Int),k) e g.2.length v:=by
 refine⟨rfl,j,rfl,b.len,d.len,d.row,λu a i h=>?_,by simp[Bi],λu a=>by
  show(at' (Bi g) (u:Int)).length=_;rw[Bi,FJ _ a,List.length_map,List.length_range]⟩
 have⟨w,l,f⟩:=b.to a h;show 0<=(nE (row g u) i).1/\(nE (row g u) i).1<_;rw[f];omega
theorem NY {k:Nat} (h:k<=1000):Ez (k:Int):=⟨V7,V7⟩
theorem ace {g:GR} {a:V6 Zk} {c:fE} (b:VG g) (i:GM g a) (m:RCf g c a) {v x:Nat} (k:v<g.2.length) (f:x<a.length):Ez (at' (at' c (v:Int)) (x:Int)):=by
 have h:=m.ok v k x f;have n:=i.kind x f;have d:=i.range x f;have q:=(b.node v k).deg;have l:=b.n24;unfold lo hi at h d;unfold val at h;unfold Ez;rcases n with e|e|e
 .rw[e]at h d;simp only[show¬((1:Int)=2) by decide,show¬((1:Int)=3) by decide,if_false]at h d;have:=d trivial;have j:=Hm b g.1.length (by have:=b.len;omega);have⟨⟨t,u⟩,⟨w,o⟩,y,p⟩:=i.small x f;have r:(at' a (x:Int)).2.2.2.2.1*(g.2.length:Int)<=100000*24:=Int.mul_le_mul o V7 V7 V7;have s:(at' a (x:Int)).2.2.2.2.2*pF g g.1.length<=100000*255:=Int.mul_le_mul p j.2 j.1 V7;omega
 .rw[e]at h;simp only[if_true]at h;omega
 .rw[e]at h;simp only[show¬((3:Int)=2) by decide,if_false,if_true]at h;omega
theorem ajj {p:PG} {g:GR} {F:Int} {c:fE} {v:Nat} {U:V6 TM} (d:VG g) (T:GM g p.2.1) (R:RCf g c p.2.1) (l:v<g.2.length) (X:0<=F/\F<=255) (t:TM) (b:V4) (q:Int) (V:Fu t.1=some 0) (hw:wfL p.2.1.length b t) (hq:GL b (row g v).length q):Ez (lfW ((p,g,F,Bi g),c,(v:Int),U) t q):=by
 have⟨w3,f⟩:=hw;have⟨o,a⟩:=t;have W:=d.n24;have aa:=d.len;have S:=(d.node v l).deg;have C:∀u:Nat,u<g.2.length->Ez (at' g.1 (u:Int)):=λu h=>by
  have:=(d.node u h).id;unfold IT at this;unfold Ez;omega
 have D:11<=o->∃k u:Nat,k<(row g v).length/\u<g.2.length/\q=(k:Int)/\VO ((p,g,F,Bi g),c,(v:Int),U) q=(u:Int):=λho=>by
  obtain⟨k,rfl,n⟩:=hq (by rcases w3 with w|w;exact w;dsimp only at w;omega);have⟨u,h,m⟩:=d.to l n;exact⟨k,u,n,h,rfl,m⟩
 unfold EL at f;unfold lfW SL;dsimp only;dsimp only at f;by_cases E:o=1
 .rw[if_pos E];rw[if_pos E]at f;simp only[zA5,zAa]at f;unfold Ez;omega
 rw[if_neg E];rw[if_neg E]at f;by_cases K:o=2
 .rw[if_pos K];exact NY (k:=1) V7
 rw[if_neg K];by_cases L:o=3
 .rw[if_pos L];exact NY (k:=0) V7
 rw[if_neg L];by_cases M:o=4
 .rw[if_pos M];unfold Ez;omega
 rw[if_neg M];by_cases G:o=5
 .rw[if_pos G];rw[if_pos (.inl G)]at f;simp only[zA5,zAa]at f;obtain⟨x,rfl⟩:∃x:Nat,a=(x:Int):=⟨a.toNat,V7⟩
  exact ace d T R l V7
 rw[if_neg G];by_cases j:o=12
 .rw[if_pos j];rw[if_pos (.inr j)]at f;simp only[zA5,zAa]at f;obtain⟨x,rfl⟩:∃x:Nat,a=(x:Int):=⟨a.toNat,V7⟩
  have⟨k,u,_,h,_,m⟩:=D V7;rw[m];exact ace d T R h V7
 rw[if_neg j];by_cases N:o=6
 .rw[if_pos N];exact NY V7
 rw[if_neg N];by_cases O:o=7
 .rw[if_pos O];unfold Ez;omega
 rw[if_neg O];by_cases P:o=8
 .rw[if_pos P];exact C v l
 rw[if_neg P];by_cases Q:o=9
 .rw[if_pos Q];exact NY (k:=(row g v).length) V7
 rw[if_neg Q];by_cases r:o=10
 .rw[if_pos r];exact Rk _
 rw[if_neg r];have H:11<=o:=by
  have⟨w1,w2⟩:=MH V;dsimp only at w1 w2;omega
 obtain⟨k,u,n,h,rfl,m⟩:=D H;by_cases s:o=11
 .rw[if_pos s];exact NY V7
 rw[if_neg s];by_cases y:o=13
 .rw[if_pos y,m];exact C u h
 rw[if_neg y];by_cases z:o=14
 .rw[if_pos z,m];have:=(d.node u h).deg;exact NY (k:=(row g u).length) V7
 rw[if_neg z];by_cases A:o=15
 .rw[if_pos A];exact Rk _
 rw[if_neg A];by_cases B:o=16
 .rw[if_pos B];have:=((d.node v l).links k n).2.2.1;unfold nE row at this;unfold Ez;omega
 rw[if_neg B];rw[Bi,FJ _ l,FJ _ n,Tz];rcases Cg (row g (nE (row g v) k).1.toNat) (v:Int)with⟨i,Y,_,_,e⟩|⟨_,e⟩
 .rw[e];have⟨u',I,J⟩:=d.to l n;rw[J,zA7]at Y;have:=(d.node u' I).deg;exact NY V7
 .rw[e];unfold Ez;omega
def adP (p:PG) (g:GR) (c:fE) (v:Nat) (x:X):Int:=x.den (lfW ((p,g,pF g g.2.length,Bi g),c,(v:Int),[])) (row g v).length (-1)
theorem Wb {p:PG} {g:GR} {c:fE} {v:Nat} (d:VG g) (u:mP 1000 p=some true) (o:GM g p.2.1) (m:RCf g c p.2.1) (r:v<g.2.length) (n:1<=p.2.1.length) {x:X} (z:x.ok) (A:x.wf p.2.1.length false) (M:x.ts.length<=200) (O:x.depth<=24) (B:x.nest<=2):
  ∃k,mN 1000 (x.cd 0) p g c (v:Int)=some (adP p g c v x,k,0):=by
 have L:=d.n24;have aa:=d.len;have D:=(d.node v r).deg;have ac:=x.sz_le;have ab:=o.len;obtain⟨T,l⟩:∃T,T=x.cd 0:=⟨_,rfl⟩
 have hl:T.length=x.sz:=by rw[l,x.cd_len]
 have hm:=Hm d g.2.length (zAf _);have V:WOk ((p,g,pF g g.2.length,Bi g),c,(v:Int),[]) p.2.1.length g.2.length v:=wok d m.shape r [];have P:=mok (F:=1000) (T:=T) V7 V V7 (show(row g v).length<=23 by omega);have⟨N,k,R,hr⟩:=seg P (λy b q hy hw hq=>ahc V7 (λt b q E H I=>ajj d o m r hm t b q E H I) y b q hy hw hq) x z false [] [] 0 [] [] A (by rw[l];simp) (λe=>by cases e) Q1 Q1;refine⟨k,?_⟩
 rw[<-l];have W:=x.bd_le (row g v).length;have U:N+1<=2*200*25^2:=by
  refine zAz (zAz (Nat.succ_le_succ R) W)<|Nat.mul_le_mul V7 (zAz (Nat.pow_le_pow_left (show(row g v).length+2<=25 by omega) _) (Nat.pow_le_pow_right V7 B))
 have⟨G,C⟩:=Zg z A M O B n V7;rw[<-l]at C;have K:mN 1000 T p g c (v:Int)=xX 1000 T p g c (v:Int) false:=by
  unfold mN;rw[aY (show kY 1000 (p.1,p.2.1,p.2.2) (g.1,g.2) c=_ from TK d u o m),if_neg Q2,Q0,zA6 V7]
 rw[K];unfold xX;rw[if_neg Q2,aY C,if_neg (show¬((0:Int)≠0) by decide),Q6];rw[JD d (xZ 1000 T p g c (v:Int)) (λa i=>FH 1000 g a i) (λb=>xY 1000 T p g c (v:Int) b) (λa i=>rfl) (λa i b J=>rfl)];unfold xY Ce;rw[Q6];unfold Cf;have w:=OA (step:=eJ 1000 T p g c (v:Int) (pF g g.2.length,Bi g)) (enc:=FY v) (Q:=RM 1000 T p g c v (pF g g.2.length,Bi g)) (λs s' i h=>h i) N (1001000 - N) (0,0,[],[]) (x.sz,k,[adP p g c v x],[]) (by
   have j:=hr;simp only[List.length_nil,zB3,List.nil_append]at j;exact j)
 rw[show 1001000 - N+N=1000+1000000 by omega]at w;refine Eq.trans w ?_;obtain⟨f,Y⟩:∃f,1001000 - N=f+1:=⟨1000999 - N,V7⟩
 rw[Y];show eJ 1000 T p g c (v:Int) _ (FY v _) _=_;unfold eJ FY;dsimp only;rw[Q0];unfold FE;dsimp only;exact aY (show cY 1000 _=_ from YS (T:=T) (S:=((p.1,p.2.1,p.2.2),(g.1,g.2),pF g g.2.length,Bi g)) (lk:=at' g.2 (v:Int)) (c:=c) (v:=(v:Int)) (pl:=(x.sz:Int)) (st:=[]) (ls:=[]) 1000 (adP p g c v x) V8)
end Go.Proofs.YtemmagadjnlajaaGreatDoor
namespace Go.Proofs.YtemmagadjnlajaaGreatDoor
open Go.Sx
def cW (U:Nat) (a:cJ×cJ) (b c:Int):V1 (Int×cJ):=
 ck ((a.2.length:Int)+(List.length ([(b,c)]):Int)<=1099511627) (some ((wI .i64 (((a.2++([(b,c)])).length:Int) - (1:Int))),(a.2++([(b,c)]))))
theorem Da:aX prog 57:=call57
theorem dY {p0:cJ×cJ} {b d:Int} (a:Nat) (g i:V0) (r:Int×cJ) (h:cW U p0 b d=some r):
  jT prog 57 #[vP a,vI (b),vI (d)] [bU a [g,i] 71,Ar cS i p0.2] [Sl aS g p0.1] (λx:V0=>vI (r.1)) (λx l=>bU a [g,x] 71::Ar cS x r.2::l):=by
 refine jT.of (vs:=[vP a,vI (b),vI (d)]) func57 Z ntmps57 Z λc=>Q3 Z<|Q5 Z<|aA Z<|aC (aV Z) Z<|bD Z<|bY 0 Z<|aA Z<|aA Z<|aC (nP (r:=Value.agg #[vI (b),vI (d)]) Z Z (by intro w;simp[Instr.build,Instr.fill,cL,b_,bW,cM,cN,cA,dD])) Z ?_;refine aK (fX (e:=cS) ([((b,d))]) [(0,Value.agg #[vI (b),vI (d)])] Z Z Z Z (Hi (vI (b)) (vI (d))) Z Z Z) Z λm=>eX h λj h=>aK (sF 2 dL Z Z Z (bL (aQ.res 0 Z) dL) Z Z Z Z j Z) Z λk=>aC (aV Z) Z<|bD Z<|eH (Know.one ((bL (aQ.res 2 Z) dL))) λf=>i_ 1 Z Z f Z Z Z<|aM<|Q5 Z<|aC (aV Z) Z<|bD Z<|bY 1 Z<|aC (dO Z (bL (aQ.res 2 Z) dL) Z) Z<|aC (kT Z Z) Z<|Q4 Z<|aP ?_;cases h;exact mS (k) Z Z (RV.tmp Z) (aW.ix [1,2] Z Z) aE.nil
def pN (p0:cJ×cJ) (a:dJ):V1 (cJ):=
 if a.1=(1:Int)then(Option.bind (cW U ((p0.1,p0.2)) (1:Int) a.2) λg=>(some (g.2)))else(if a.1=(2:Int)then(Option.bind (cW U ((p0.1,p0.2)) (1:Int) (1:Int)) λh=>(some (h.2)))else(if a.1=(3:Int)then(Option.bind (cW U ((p0.1,p0.2)) (1:Int) (0:Int)) λb=>(some (b.2)))else(if a.1=(4:Int)then(Option.bind (cW U ((p0.1,p0.2)) (1:Int) (-1:Int)) λc=>(some (c.2)))else(if a.1=(5:Int)then(Option.bind (cW U ((p0.1,p0.2)) (2:Int) a.2) λd=>(some (d.2)))else(if a.1=(12:Int)then(Option.bind (cW U ((p0.1,p0.2)) (3:Int) a.2) λe=>(some (e.2)))else(Option.bind (cW U ((p0.1,p0.2)) (4:Int) a.1) λf=>(some (f.2))))))))
theorem agt:aX prog 55:=call55
theorem Hs {p0:cJ×cJ} {g:dJ} (a:Nat) (f b:V0) (r:cJ) (h:pN U p0 g=some r):
  jT prog 55 #[vP a,Value.agg #[vI (g.1),vI (g.2)]] [bU a [f,b] 71,Ar cS b p0.2] [Sl aS f p0.1] (λx:V0=>Value.tuple #[]) (λx l=>bU a [f,x] 71::Ar cS x r::l):=by
 let e:=bU a [f,b] 71;refine jT.of (vs:=[vP a,Value.agg #[vI (g.1),vI (g.2)]]) func55 Z ntmps55 Z λc=>aT<|aK (aO.box (cs:=[vI (g.1),vI (g.2)]) Z Z) Z λA=>let d:=bU A [vI (g.1),vI (g.2)] 126;aM<|aT<|bD Z<|bY 0 Z<|aM<|aU<|aT<|bP Z<|Q4 Z ?_
 refine eF h Z (λh=>?_) λh=>?_
 .refine aL<|aA Z<|bD Z<|bY 0 Z<|dG h λB D h=>aK (c_ (Min:=[e,Ar cS b p0.2]) (Mr:=[d]) Da (dY (p0:=((p0.1,p0.2))) U a f b B D) Z (aW.ix [1,2,0] Z Z) (gK [0] Z) (λ_ _=>rfl)) Z λF=>dK<|JO ?_;cases h;exact pL (F) Z Z .normal (.inr Z) (aW.ix [0,1] Z Z) aE.nil
 refine aT<|bP Z<|Q4 Z<|eF h Z (λh=>?_) λh=>?_
 .refine aL<|aA Z<|dG h λC E h=>aK (c_ (Min:=[e,Ar cS b p0.2]) (Mr:=[d]) Da (dY (p0:=((p0.1,p0.2))) U a f b C E) Z (aW.ix [1,2,0] Z Z) (gK [0] Z) (λ_ _=>rfl)) Z λG=>dK<|JO ?_;cases h;exact pL (G) Z Z .normal (.inr Z) (aW.ix [0,1] Z Z) aE.nil
 refine aT<|bP Z<|Q4 Z<|eF h Z (λh=>?_) λh=>?_
 .refine aL<|aA Z<|dG h λi o h=>aK (c_ (Min:=[e,Ar cS b p0.2]) (Mr:=[d]) Da (dY (p0:=((p0.1,p0.2))) U a f b i o) Z (aW.ix [1,2,0] Z Z) (gK [0] Z) (λ_ _=>rfl)) Z λu=>dK<|JO ?_;cases h;exact pL (u) Z Z .normal (.inr Z) (aW.ix [0,1] Z Z) aE.nil
 refine aT<|bP Z<|Q4 Z<|eF h Z (λh=>?_) λh=>?_
 .refine aL<|aA Z<|dG h λj p h=>aK (c_ (Min:=[e,Ar cS b p0.2]) (Mr:=[d]) Da (dY (p0:=((p0.1,p0.2))) U a f b j p) Z (aW.ix [1,2,0] Z Z) (gK [0] Z) (λ_ _=>rfl)) Z λv=>dK<|JO ?_;cases h;exact pL (v) Z Z .normal (.inr Z) (aW.ix [0,1] Z Z) aE.nil
 refine aT<|bP Z<|Q4 Z<|eF h Z (λh=>?_) λh=>?_
 .refine aL<|aA Z<|bD Z<|bY 0 Z<|dG h λk q h=>aK (c_ (Min:=[e,Ar cS b p0.2]) (Mr:=[d]) Da (dY (p0:=((p0.1,p0.2))) U a f b k q) Z (aW.ix [1,2,0] Z Z) (gK [0] Z) (λ_ _=>rfl)) Z λw=>dK<|JO ?_;cases h;exact pL (w) Z Z .normal (.inr Z) (aW.ix [0,1] Z Z) aE.nil
 refine aT<|bP Z<|Q4 Z<|eF h Z (λh=>?_) λh=>?_
 .refine aL<|aA Z<|bD Z<|bY 0 Z<|dG h λm s h=>aK (c_ (Min:=[e,Ar cS b p0.2]) (Mr:=[d]) Da (dY (p0:=((p0.1,p0.2))) U a f b m s) Z (aW.ix [1,2,0] Z Z) (gK [0] Z) (λ_ _=>rfl)) Z λy=>dK<|JO ?_;cases h;exact pL (y) Z Z .normal (.inr Z) (aW.ix [0,1] Z Z) aE.nil
 refine aL<|aA Z<|bD Z<|bY 0 Z<|dG h λn t h=>aK (c_ (Min:=[e,Ar cS b p0.2]) (Mr:=[d]) Da (dY (p0:=((p0.1,p0.2))) U a f b n t) Z (aW.ix [1,2,0] Z Z) (gK [0] Z) (λ_ _=>rfl)) Z λz=>dK<|JO ?_;cases h;exact pL (z) Z Z .normal (.inr Z) (aW.ix [0,1] Z Z) aE.nil
def dC (a:cJ×Int):V1 (Int×cJ):=
 some (a.2,a.1)
def dV (g:(cJ×cJ)->Int->V1 (Int×cJ)) (U:Nat) (p0:cJ×cJ) (b:Int):V1 (Int×cJ):=
 ck (0<=b/\b<(p0.1.length:Int)) (Option.bind (qF U ((at' p0.1 b).1)) λr=>(if r=(0:Int)then(Option.bind (pN U ((p0.1,p0.2)) ((((at' p0.1 b).1),((at' p0.1 b).2)))) λn=>(dC (n,(wI .i64 (b+(1:Int))))))else(Option.bind (oF U ((at' p0.1 b).1)) λo=>(if o=true then(Option.bind (cW U ((p0.1,p0.2)) (9:Int) (0:Int)) λc=>(Option.bind (g ((p0.1,c.2)) (wI .i64 (b+(1:Int)))) λh=>(Option.bind (cW U ((p0.1,h.2)) (10:Int) ((at' p0.1 b).1)) λf=>(ck (0<=c.1/\c.1<(f.2.length:Int)) (dC ((List.set f.2 (Int.toNat c.1) (((at' f.2 c.1).1),f.1)),h.1))))))else(if r=(1:Int)then(Option.bind (g ((p0.1,p0.2)) (wI .i64 (b+(1:Int)))) λi=>(Option.bind (cW U ((p0.1,i.2)) (5:Int) ((at' p0.1 b).1)) λp=>(dC (p.2,i.1))))else(if r=(2:Int)then(Option.bind (g ((p0.1,p0.2)) (wI .i64 (b+(1:Int)))) λj=>(Option.bind (g ((p0.1,j.2)) j.1) λk=>(Option.bind (cW U ((p0.1,k.2)) (6:Int) ((at' p0.1 b).1)) λq=>(dC (q.2,k.1)))))else(Option.bind (g ((p0.1,p0.2)) (wI .i64 (b+(1:Int)))) λl=>(Option.bind (cW U ((p0.1,l.2)) (7:Int) (0:Int)) λd=>(Option.bind (g ((p0.1,d.2)) l.1) λm=>(Option.bind (cW U ((p0.1,m.2)) (8:Int) (0:Int)) λa=>(ck (0<=d.1/\d.1<(a.2.length:Int)) (Option.bind (g ((p0.1,(List.set a.2 (Int.toNat d.1) (((at' a.2 d.1).1),(a.2.length:Int))))) m.1) λe=>(ck (0<=a.1/\a.1<(e.2.length:Int)) (dC ((List.set e.2 (Int.toNat a.1) (((at' e.2 a.1).1),(e.2.length:Int))),e.1)))))))))))))))
def fZ:Nat->(cJ×cJ)->Int->V1 (Int×cJ)
 |0,_,_=>none
 |U+1,p0,p1=>dV (fZ U) U p0 p1
theorem IL:aX prog 23:=call23
theorem CQ (rc:(cJ×cJ)->Int->Option (Int×cJ)) (U:Nat) (hrc:∀{p0:cJ×cJ} {p1:Int} (bx0:Nat) (v1:V0) (v2:V0) (r:Int×cJ),rc p0 p1=some r->jT prog 23 #[vP bx0,vI (p1)] [bU bx0 [v1,v2] 71,Ar cS v2 p0.2] [Sl aS v1 p0.1] (λx:V0=>vI (r.1)) (λx l=>bU bx0 [v1,x] 71::Ar cS x r.2::l)) {p0:cJ×cJ} {p1:Int} (bx0:Nat) (v1 v2:V0) (r:Int×cJ) (h:dV rc U p0 p1=some r):
  jT prog 23 #[vP bx0,vI (p1)] [bU bx0 [v1,v2] 71,Ar cS v2 p0.2] [Sl aS v1 p0.1] (λx:V0=>vI (r.1)) (λx l=>bU bx0 [v1,x] 71::Ar cS x r.2::l):=by
 let q2q:=bU bx0 [v1,v2] 71;refine jT.of (vs:=[vP bx0,vI (p1)]) func23 Z ntmps23 Z λc=>?_;refine aT<|aB Z<|aM<|aT<|aA Z<|aC (aV Z) Z<|bD Z<|bY 0 Z<|aA Z<|eX h λj1 h=>aC (a_ Z Z (cG Z) Z Z j1) Z<|aC (eO (cs:=[vI ((at' p0.1 p1).1),vI ((at' p0.1 p1).2)]) Z (cG Z) dL Z Z Z Z j1) Z<|aK (aO.alloc (cs:=SG) Z Z) Z λb2=>let q0q:=bU b2 [vI ((at' p0.1 p1).1),vI ((at' p0.1 p1).2)] 126;cO 0 (vs:=[vI ((at' p0.1 p1).1),vI ((at' p0.1 p1).2)]) Z Z Z Z Z Z<|aM<|aT<|aA Z<|cP Z<|aB Z<|aM<|aI<|xD (B:=V0) (λa6=>dC a6=some r) (λa6 b7=>[(6,vI (a6.2))]) (λa6 b7=>[bU bx0 [v1,b7] 71,Ar cS b7 a6.1]) (λa6 b7=>[Sl aS v1 p0.1]) ?_ ?_
 .refine aT<|bD Z<|bY 0 Z<|dG h λr8 w9 h=>aK (zB8 Oi (CF U r8 w9) Z .nil) Z λx10=>aB Z<|aM<|aU<|aT<|aA Z<|bP Z<|aB Z<|aM ?_;refine eF h Z (λh=>?_) λh=>?_
  .refine aL<|aA Z<|fQ 0 Z<|dG h λr12 w13 h=>aK (c_ (Min:=[q2q,Ar cS v2 p0.2]) (Mr:=[q0q]) agt (Hs (p0:=((p0.1,p0.2))) U bx0 v1 v2 r12 w13) Z (aW.ix [1,2,0] Z Z) (gK [0] Z) (λ_ _=>rfl)) Z λx14=>dK<|jZ ?_;exact bQ (r12,(wI .i64 (p1+(1:Int)))) (x14) h SF (aW.ix [0,1] Z Z) (aE.refl _ _)
  refine aT<|bD Z<|bY 0 Z<|dG h λr15 w16 h=>aK (zB8 Rv (zR U r15 w16) Z .nil) Z λx17=>aB Z<|aM ?_;refine iA h Z (λ_ h=>?_) λ_ h=>?_
  .refine aT<|aA Z<|dG h λr19 w20 h=>aK (c_ (Min:=[q2q,Ar cS v2 p0.2]) (Mr:=[q0q]) Da (dY (p0:=((p0.1,p0.2))) U bx0 v1 v2 r19 w20) Z (aW.ix [1,2,0] Z Z) (gK [0] Z) (λ_ _=>rfl)) Z λx21=>aB Z<|aM<|aT<|aA Z<|aA Z<|dG h λr22 w23 h=>aK (c_ (Min:=[bU bx0 [v1,x21] 71,Ar cS x21 r19.2]) (Mr:=[q0q]) IL (hrc (p0:=((p0.1,r19.2))) bx0 v1 x21 r22 w23) Z (aW.refl _) (gK [0] Z) (λ_ _=>rfl)) Z λx24=>aB Z<|aM<|aT<|aA Z<|bD Z<|bY 2 Z<|dG h λr25 w26 h=>aK (c_ (Min:=[bU bx0 [v1,x24] 71,Ar cS x24 r22.2]) (Mr:=[q0q]) Da (dY (p0:=((p0.1,r22.2))) U bx0 v1 x24 r25 w26) Z (aW.refl _) (gK [0] Z) (λ_ _=>rfl)) Z λx27=>aB Z<|aM<|aL<|aA Z<|aC (aV Z) Z<|bD Z<|bY 0 Z<|aA Z<|aA Z<|eX h λj28 h=>aC (a_ Z Z (bL (aQ.res 1 Z) dL) Z Z j28) Z<|aC (cB Z Z Z Z Z) Z<|KJ (Ef (us:=[vI (r25.1)]) (o:=1) 1 ((((at' r25.2 r19.1).1),r25.1)) j28 Z Z Z Z Z Z Z Z Z Z) λx29=>dK<|jZ ?_;exact bQ ((List.set r25.2 (Int.toNat r19.1) (((at' r25.2 r19.1).1),r25.1)),r22.1) (x27) h SF (aW.ix [0,1] Z Z) (aE.refl _ _)
  refine aT<|aA Z<|bP Z<|aB Z<|aM ?_;refine eF h Z (λh=>?_) λh=>?_
  .refine aT<|aA Z<|aA Z<|dG h λr31 w32 h=>aK (c_ (Min:=[q2q,Ar cS v2 p0.2]) (Mr:=[q0q]) IL (hrc (p0:=((p0.1,p0.2))) bx0 v1 v2 r31 w32) Z (aW.ix [1,2,0] Z Z) (gK [0] Z) (λ_ _=>rfl)) Z λx33=>aB Z<|aM<|aL<|aA Z<|bD Z<|bY 2 Z<|dG h λr34 w35 h=>aK (c_ (Min:=[bU bx0 [v1,x33] 71,Ar cS x33 r31.2]) (Mr:=[q0q]) Da (dY (p0:=((p0.1,r31.2))) U bx0 v1 x33 r34 w35) Z (aW.refl _) (gK [0] Z) (λ_ _=>rfl)) Z λx36=>dK<|jZ ?_;exact bQ (r34.2,r31.1) (x36) h SF (aW.ix [0,1] Z Z) (aE.refl _ _)
  refine aT<|aA Z<|bP Z<|aB Z<|aM ?_;refine eF h Z (λh=>?_) λh=>?_
  .refine aT<|aA Z<|aA Z<|dG h λr38 w39 h=>aK (c_ (Min:=[q2q,Ar cS v2 p0.2]) (Mr:=[q0q]) IL (hrc (p0:=((p0.1,p0.2))) bx0 v1 v2 r38 w39) Z (aW.ix [1,2,0] Z Z) (gK [0] Z) (λ_ _=>rfl)) Z λx40=>aB Z<|aM<|aT<|aA Z<|aA Z<|dG h λr41 w42 h=>aK (c_ (Min:=[bU bx0 [v1,x40] 71,Ar cS x40 r38.2]) (Mr:=[q0q]) IL (hrc (p0:=((p0.1,r38.2))) bx0 v1 x40 r41 w42) Z (aW.refl _) (gK [0] Z) (λ_ _=>rfl)) Z λx43=>aB Z<|aM<|aL<|aA Z<|bD Z<|bY 2 Z<|dG h λr44 w45 h=>aK (c_ (Min:=[bU bx0 [v1,x43] 71,Ar cS x43 r41.2]) (Mr:=[q0q]) Da (dY (p0:=((p0.1,r41.2))) U bx0 v1 x43 r44 w45) Z (aW.refl _) (gK [0] Z) (λ_ _=>rfl)) Z λx46=>dK<|jZ ?_;exact bQ (r44.2,r41.1) (x46) h SF (aW.ix [0,1] Z Z) (aE.refl _ _)
  refine aT<|aA Z<|aA Z<|dG h λr47 w48 h=>aK (c_ (Min:=[q2q,Ar cS v2 p0.2]) (Mr:=[q0q]) IL (hrc (p0:=((p0.1,p0.2))) bx0 v1 v2 r47 w48) Z (aW.ix [1,2,0] Z Z) (gK [0] Z) (λ_ _=>rfl)) Z λx49=>aB Z<|aM<|aT<|aA Z<|dG h λr50 w51 h=>aK (c_ (Min:=[bU bx0 [v1,x49] 71,Ar cS x49 r47.2]) (Mr:=[q0q]) Da (dY (p0:=((p0.1,r47.2))) U bx0 v1 x49 r50 w51) Z (aW.refl _) (gK [0] Z) (λ_ _=>rfl)) Z λx52=>aB Z<|aM<|aT<|aA Z<|aA Z<|dG h λr53 w54 h=>aK (c_ (Min:=[bU bx0 [v1,x52] 71,Ar cS x52 r50.2]) (Mr:=[q0q]) IL (hrc (p0:=((p0.1,r50.2))) bx0 v1 x52 r53 w54) Z (aW.refl _) (gK [0] Z) (λ_ _=>rfl)) Z λx55=>aB Z<|aM<|aT<|aA Z<|dG h λr56 w57 h=>let q3q:=(r56.2.length:Int);let q1q:=(List.set r56.2 (Int.toNat r50.1) (((at' r56.2 r50.1).1),q3q));aK (c_ (Min:=[bU bx0 [v1,x55] 71,Ar cS x55 r53.2]) (Mr:=[q0q]) Da (dY (p0:=((p0.1,r53.2))) U bx0 v1 x55 r56 w57) Z (aW.refl _) (gK [0] Z) (λ_ _=>rfl)) Z λx58=>aB Z<|aM<|aI ?_
  refine xP [0,1,3,7,0,0,32,96,224,480,1023,2047,4095] 10 mixedOrders ?_;refine bE Z<|iD Z (aV Z)<|dA Z<|iH 0 Z<|bE Z<|bE Z<|iD Z (aV Z)<|dA Z<|iH 0 Z<|bI Z (aW.cons 1 Z .nil) .nil (dO Z (bL (aQ.res 0 Z) dL) Z) aR.z<|bS 10 Z Z<|eX h λj59 h=>aC (a_ Z Z (bL (aQ.res 1 Z) dL) Z Z j59) Z<|aC (cB Z Z Z Z Z) Z<|KJ (Ef (us:=[vI q3q]) (o:=1) 1 ((((at' r56.2 r50.1).1),q3q)) j59 Z Z Z Z Z Z Z Z Z Z) λx60=>aM<|aT<|aA Z<|aA Z<|dG h λr61 w62 h=>let q4q:=(r61.2.length:Int);aK (c_ (Min:=[bU bx0 [v1,x58] 71,Ar cS x58 q1q]) (Mr:=[q0q]) IL (hrc (p0:=((p0.1,q1q))) bx0 v1 x58 r61 w62) Z (aW.refl _) (gK [0] Z) (λ_ _=>rfl)) Z λx63=>aB Z<|aM ?_
  refine xP [0,1,3,7,0,0,32,96,224,480,1023,2047,4095] 10 mixedOrders ?_;refine bE Z<|iD Z (aV Z)<|dA Z<|iH 0 Z<|bE Z<|bE Z<|iD Z (aV Z)<|dA Z<|iH 0 Z<|bI Z (aW.cons 1 Z .nil) .nil (dO Z (bL (aQ.res 0 Z) dL) Z) aR.z<|bS 10 Z Z<|eX h λj64 h=>aC (a_ Z Z (bL (aQ.res 1 Z) dL) Z Z j64) Z<|aC (cB Z Z Z Z Z) Z<|KJ (Ef (us:=[vI q4q]) (o:=1) 1 ((((at' r61.2 r56.1).1),q4q)) j64 Z Z Z Z Z Z Z Z Z Z) λx65=>dK<|jZ ?_;exact bQ ((List.set r61.2 (Int.toNat r56.1) (((at' r61.2 r56.1).1),q4q)),r61.1) (x63) h SF (aW.ix [0,1] Z Z) (aE.refl _ _)
 intro a6 b7 h;unfold dC at h;refine aT<|aA Z<|aB Z<|aM<|aP ?_;cases h;exact mS (b7) Z Z (RV.tmp Z) (aW.refl _) aE.nil
theorem Ev:∀{p0:cJ×cJ} {d:Int} (a:Nat) (b:V0) (c:V0) (r:Int×cJ),fZ U p0 d=some r->
  jT prog 23 #[vP a,vI (d)] [bU a [b,c] 71,Ar cS c p0.2] [Sl aS b p0.1] (λx:V0=>vI (r.1)) (λx l=>bU a [b,x] 71::Ar cS x r.2::l):=by
 induction U with
 |zero=>intros;rename_i h;cases h
 |succ U e=>exact λa b c r h=>CQ (fZ U) U e a b c r h
def mU (p0:cJ):V1 (cJ×Int):=
 Option.bind (oQ U p0 (6:Int)) λa=>(if(!a)=true then(some (([]:cJ),(7:Int)))else(Option.bind (fZ U ((p0,([]:cJ))) (0:Int)) λb=>(some (b.2,(0:Int)))))
theorem afj:aX prog 7:=call7
theorem I_ {b:cJ} (a:V0) (r:cJ×Int) (h:mU U b=some r):
  aZ prog 7 #[a] [Sl aS a b] (λx:V0=>Value.tuple #[x,vI (r.2)]) (λx l=>Ar cS x r.1::l) (λ_ l=>l):=by
 refine aZ.of func7 Z ntmps7 Z λc=>aT<|aB Z<|Q4 Z<|aI<|Q5 Z<|dG h λi k h=>aK (zB8 Rq (Fc U a i k) Z (gK [0] Z)) Z λn=>aC (fF Z) Z<|aM<|iA h Z (λ_ h=>?_) λ_ h=>?_
 .refine aT<|aB Z<|Q4 Z<|aP<|aG<|jY (qL cS) ?_;cases h;exact gA (zU) Z Z (RV.tmp Z) (RV.tmp Z) (aW.refl _) aE.nil
 refine bK<|Q5 Z<|eH (Know.one ((cG Z))) λd=>aC (ZR (r:=Value.agg #[a,zU]) Z (by intro w;simp[Instr.build,Instr.fill,cL,b_,bW,cM,cN,cA,dD,eW d])) Z ?_;refine aK (aO.alloc (cs:=[zU,zU]) Z Z) Z λg=>eH (Know.one ((cG Z))) λe=>cO 0 (vs:=[a,zU]) Z Z (cI e (cI Z Z)) Z Z Z<|aM<|aT<|jY (qL cS)<|dG h λj m h=>aK (c_ (Min:=[bU g [a,zU] 71,Ar cS (zU) ([]:cJ)]) (Mr:=[]) IL (Ev (p0:=((b,([]:cJ)))) U g a (zU) j m) Z (aW.ix [1,0] Z Z) (gK [0] Z) (λ_ _=>rfl)) Z λf=>aM<|aT<|bD Z<|bY 0 Z<|aB Z<|Q4 Z<|aP ?_;cases h;exact gA (f) Z Z (RV.tmp Z) (RV.tmp Z) (aW.ix [1] Z Z) aE.nil
end Go.Proofs.YtemmagadjnlajaaGreatDoor
namespace Go.Proofs.YtemmagadjnlajaaGreatDoor
open Go Go.Sx
theorem Oj (F:Nat) (e c:V6 TM) (o a:Int) (b:c.length<=10000):cW F (e,c) o a=some ((c.length:Int),c++[(o,a)]):=by
 unfold cW;dsimp only;rw[dM Q1,zA0,show(([(o,a)]:V6 TM).length)=1 from rfl,Q7];simp
theorem aiS (F:Nat) (e c:V6 TM) (t:TM) (a:c.length<=10000):pN F (e,c) t=some (c++[RO t]):=by
 unfold pN RO;simp only[Oj F e c _ _ a]
 repeat' split
 all_goals first|rfl|omega
theorem Xd (F e:Nat) {T b d c:V6 TM} {t:TM} {l:V6 TM} {a:Nat} (f:T=b++((t::l)++d)) (g:Fu t.1=some a) (h:T.length<=900):
  (0<=(b.length:Int)/\(b.length:Int)<(T.length:Int))/\at' T (b.length:Int)=t/\qF e t.1=some (a:Int):=by
 refine⟨?_,?_,?_⟩
 .rw[f];simp;omega
 .rw[f];exact h_ b (l++d) t _ Z
 .rw[PI,mE g]
theorem akY (T:List TM) (C:T.length<=900):∀(x:X),x.ok->∀(a:Nat) (b d c:List TM),T=b++(x.ts++d)->x.depth<=a->c.length+2*x.ts.length<=8000->
  fZ a (T,c) (b.length:Int)=some (((b.length+x.ts.length:Nat):Int),c++x.cd c.length):=by
 intro x
 induction x with
 |lf t=>
  intro e a b d c i j u;obtain⟨a,rfl⟩:∃f,a=f+1:=⟨a - 1,by simp only[X.depth]at j;omega⟩
  obtain⟨p,q,r⟩:=Xd a a (c:=c) (l:=[]) i e C;show dV _ a (T,c) _=_;unfold dV dC;dsimp only;rw[dM p,q,aY r,if_pos (show((0:Nat):Int)=0 from rfl),aY (aiS a T c (t.1,t.2) (by omega)),wr (by omega) (by omega)];rfl
 | un t x ih =>
  intro e a b d c i j u;obtain⟨a,rfl⟩:∃f,a=f+1:=⟨a - 1,by simp only[X.depth]at j;omega⟩
  simp only[X.depth,X.ts,zA3]at j u;obtain⟨p,q,r⟩:=Xd a a (c:=c) (l:=x.ts) i e.1 C;have k:∀s:List TM,s.length<=c.length+1->fZ a (T,s) ((b.length:Int)+1)=some (((b.length+1+x.ts.length:Nat):Int),s++x.cd s.length):=λs N=>by
   have:=ih e.2 a (b++[t]) d s (by rw[i];simp[X.ts]) (by omega) (by omega);simpa using this
  show dV _ a (T,c) _=_;unfold dV dC;dsimp only;rw[dM p,q,aY r,if_neg (show¬((1:Nat):Int)=0 by decide),aY (Up a t.1),wr (by omega) (by omega)];have P:=x.sz_le;have O:=x.cd_len (c.length+1);have I:=x.cd_len c.length;unfold X.cd;cases V:agg t.1
  .rw[if_neg (by decide),if_pos (show((1:Nat):Int)=1 from rfl),aY (k c (by omega))];dsimp only;rw[aY (Oj a T _ _ _ (by rw[zA0];omega)),if_neg (by decide)];simp[X.ts];omega
  .rw[if_pos rfl,aY (Oj a T c _ _ (by omega))];dsimp only;have w:(c++[((9:Int),(0:Int))]).length=c.length+1:=by simp
   rw[aY (k _ (by omega)),w];dsimp only;rw[aY (Oj a T _ _ _ (by rw[zA0,w];omega))];dsimp only;rw[dM (by simp;omega),zAr,zAr];have o:at' (c++([((9:Int),(0:Int))]++(x.cd (c.length+1)++[((10:Int),t.1)]))) (c.length:Int)=(9,0):=h_ c _ _ _ rfl;rw[o,zA7];have B:∀y:TM,(c++([((9:Int),(0:Int))]++(x.cd (c.length+1)++[((10:Int),t.1)]))).set c.length y=c++y::(x.cd (c.length+1)++[((10:Int),t.1)]):=λy=>Si c _ _ _ _ rfl;rw[B];simp[X.ts];omega
 | bi t x y ihx ihy =>
  intro e a b d c i j u;obtain⟨a,rfl⟩:∃f,a=f+1:=⟨a - 1,by simp only[X.depth]at j;omega⟩
  simp only[X.depth,X.ts,zA3,zA0]at j u;obtain⟨p,q,r⟩:=Xd a a (c:=c) (l:=x.ts++y.ts) i e.1 C;have R:=x.sz_le;have S:=y.sz_le;have H:=x.cd_len c.length;have v:(c++x.cd c.length).length=c.length+x.sz:=by rw[zA0,H]
  have ly:=y.cd_len (c.length+x.sz);have k:=ihx e.2.1 a (b++[t]) (y.ts++d) c (by rw[i];simp[X.ts]) (by omega) (by omega);have o:=ihy e.2.2 a (b++t::x.ts) d (c++x.cd c.length) (by rw[i];simp[X.ts]) (by omega) (by omega);rw[show((b++[t]).length:Int)=(b.length:Int)+1 by simp]at k;rw[show(((b++[t]).length+x.ts.length:Nat):Int)=((b++t::x.ts).length:Int) by simp;omega]at k;rw[v]at o;show dV _ a (T,c) _=_;unfold dV dC;dsimp only;have m:agg t.1=false:=by
   have h:=e.1;unfold Fu at h;unfold agg;split at h
   .cases h
   split at h
   .cases h
   split at h
   .cases h
   .simp;omega
  rw[dM p,q,aY r,if_neg (show¬((2:Nat):Int)=0 by decide),aY (Up a t.1),wr (by omega) (by omega),m,if_neg (by decide),if_neg (show¬((2:Nat):Int)=1 by decide),if_pos (show((2:Nat):Int)=2 from rfl),aY k];dsimp only;rw[aY o];dsimp only;rw[aY (Oj a T _ _ _ (by rw[zA0,v];omega))];simp[X.ts,X.cd];omega
 | tr t x y z ihx ihy ihz =>
  intro e a b d c i j u;obtain⟨a,rfl⟩:∃f,a=f+1:=⟨a - 1,by simp only[X.depth]at j;omega⟩
  simp only[X.depth,X.ts,zA3,zA0]at j u;obtain⟨p,q,r⟩:=Xd a a (c:=c) (l:=x.ts++(y.ts++z.ts)) i e.1 C;have R:=x.sz_le;have S:=y.sz_le;have sz:=z.sz_le;have H:=x.cd_len c.length;obtain⟨A,E⟩:∃A,A=c++x.cd c.length:=⟨_,rfl⟩
  have W:A.length=c.length+x.sz:=by rw[E,zA0,H]
  obtain⟨Y,F⟩:∃Y,Y=y.cd (A.length+1):=⟨_,rfl⟩
  have lY:Y.length=y.sz:=by rw[F,y.cd_len]
  obtain⟨g,U⟩:∃n,n=A.length+1+y.sz+1:=⟨_,rfl⟩
  obtain⟨Z,G⟩:∃Z,Z=z.cd g:=⟨_,rfl⟩
  have Q:Z.length=z.sz:=by rw[G,z.cd_len]
  have k:=ihx e.2.1 a (b++[t]) (y.ts++(z.ts++d)) c (by rw[i];simp[X.ts]) (by omega) (by omega);have o:=ihy e.2.2.1 a (b++t::x.ts) (z.ts++d) (A++[(7,0)]) (by rw[i];simp[X.ts]) (by omega) (by simp;omega);have B:=ihz e.2.2.2 a (b++t::(x.ts++y.ts)) d (A++((7,(g:Int))::(Y++[(8,0)]))) (by rw[i];simp[X.ts]) (by omega) (by simp;omega);rw[show((b++[t]).length:Int)=(b.length:Int)+1 by simp,show(((b++[t]).length+x.ts.length:Nat):Int)=((b++t::x.ts).length:Int) by simp;omega,<-E]at k;rw[show(A++[((7:Int),(0:Int))]).length=A.length+1 by simp,<-F,show(((b++t::x.ts).length+y.ts.length:Nat):Int)=((b++t::(x.ts++y.ts)).length:Int) by simp;omega]at o;rw[show(A++((7,(g:Int))::(Y++[((8:Int),(0:Int))]))).length=g by simp;omega,<-G]at B;have m:Fu t.1=some 3:=e.1;have m:agg t.1=false:=by
   have h:=e.1;unfold Fu at h;unfold agg;split at h
   .cases h
   split at h
   .cases h
   split at h
   .cases h
   split at h
   .cases h
   .simp;omega
  show dV _ a (T,c) _=_;unfold dV dC;dsimp only;rw[dM p,q,aY r,if_neg (show¬((3:Nat):Int)=0 by decide),aY (Up a t.1),wr (by omega) (by omega),m,if_neg (by decide),if_neg (show¬((3:Nat):Int)=1 by decide),if_neg (show¬((3:Nat):Int)=2 by decide),aY k];dsimp only;rw[aY (Oj a T _ _ _ (by omega))];dsimp only;rw[aY o];dsimp only;rw[aY (Oj a T _ _ _ (by simp;omega))];dsimp only;have J:A++[((7:Int),(0:Int))]++Y++[((8:Int),(0:Int))]=A++((7,0)::(Y++[(8,0)])):=by simp
  have K:(A++[((7:Int),(0:Int))]++Y).length=A.length+1+y.sz:=by simp;omega
  rw[J,K,dM (by simp;omega),h_ A _ _ _ rfl,zA7,Si A _ _ _ _ rfl,show(A++((7:Int),(0:Int))::(Y++[((8:Int),(0:Int))])).length=g by simp;omega,aY B];dsimp only;have L:(A++((7,(g:Int))::(Y++[((8:Int),(0:Int))])))++Z=(A++(7,(g:Int))::Y)++(8,0)::Z:=by simp
  have D:(A++(7,(g:Int))::Y).length=A.length+1+y.sz:=by simp;omega
  rw[L,dM (by simp;omega),h_ (A++(7,(g:Int))::Y) _ _ _ D,zA7,Si (A++(7,(g:Int))::Y) _ _ _ _ D,show((A++(7,(g:Int))::Y)++((8:Int),(0:Int))::Z).length=g+z.sz by rw[zA0,D,zA3,Q];omega];have M:(X.tr t x y z).cd c.length=x.cd c.length++((7,(g:Int))::(Y++((8,((g+z.sz:Nat):Int))::Z))):=by
   show x.cd c.length++_=_;rw[show c.length+x.sz+1+y.sz+1=g by omega,show c.length+x.sz+1=A.length+1 by omega,<-F,<-G]
  rw[M,<-zAr c,<-E];simp[X.ts];omega
theorem Yp {n m:Int} (h:n<=m) {t:TM} (c:EL n t=true):EL m t=true:=by
 unfold EL at c ⊢;by_cases a:t.1=1
 .rw[if_pos a]at c ⊢;exact c
 rw[if_neg a]at c ⊢;by_cases b:t.1=5\/t.1=12
 .rw[if_pos b]at c ⊢;simp only[zA5,zAa]at c ⊢;omega
 .rw[if_neg b]at c ⊢;exact c
theorem aag {e:V6 TM} {x:X} {n:Nat} (k:n<=6) (h:XV n e x):mU 1000 e=some (x.cd 0,0):=by
 have⟨c,b,a,d,f,g⟩:=h;have j:UG 6 e=true:=Po.2 ⟨x,c,b,a,d,f,λt i=>Yp V7 (g t i)⟩;unfold mU;rw[aY (aig 1000 e 6 V7 (zAf _)),j,if_neg Q2];have:=akY e V7 x b 1000 [] [] [] (by simpa using a) V7 (by rw[<-a];simp;omega);rw[aY (show fZ 1000 (e,[]) 0=_ from this)];rfl
end Go.Proofs.YtemmagadjnlajaaGreatDoor
namespace Go.Proofs.YtemmagadjnlajaaGreatDoor
open Go.Sx
def kC (a:QJ) (b:fE) (c:Int) (d:cJ):V1 (Int):=
 Option.bind (cV U ((((((a.1.1,a.1.2.1,a.1.2.2)),((a.2.1.1,a.2.1.2)),a.2.2.1,a.2.2.2)),b,c,d)) (0:Int) (-1:Int)) λe=>(some (e.1))
theorem aab:aX prog 76:=call76
theorem CU {d:QJ} {s:fE} {f:Int} {t:cJ} (a:Nat) (m n o p:V0) (u:oB) (q:V0) (v:nQ) (e:V0) (y:nQ) (b:V0) (r:Int) (h:kC U d s f t=some r):
  aZ prog 76 #[vP a,e,vI (f),b] [bU a [vS (d.1.1),m,n,o,p,vI (d.2.2.1),q] 142,Sl aN m d.1.2.1,Sl aJ n d.1.2.2,Sl cQ o d.2.1.1,S2 aS p u d.2.1.2,S2 cQ q v d.2.2.2,S2 cQ e y s,Sl aS b t] (λx:Unit=>vI (r)) (λx l=>l) (λ_ l=>l):=by
 refine aZ.of func76 Z ntmps76 Z λc=>Q3 Z<|Q5 Z<|aA Z<|aA Z<|aA Z<|eH (jKs (aQ.fact 6 Z)) λg=>eH (Know.one ((aQ.fact 7 Z))) λi=>aC (afV (r:=Value.agg #[Value.pointer (some ⟨a,0,none⟩),e,vI (f),b]) Z Z Z Z (by intro w;simp[Instr.build,Instr.fill,cL,b_,bW,cM,cN,cA,dD,eW g,eW i])) Z ?_;refine aK (aO.alloc (cs:=[Value.pointer none,zU,vI (0:Int),zU]) Z Z) Z λz=>eH (jKs (aQ.fact 6 Z)) λj=>eH (Know.one ((aQ.fact 7 Z))) λk=>cO 0 (vs:=[vP a,e,vI (f),b]) Z Z (cI Z (cI j (cI Z (cI k Z)))) Z Z Z<|aM<|aT<|dG h λA B h=>aK (zB8 Gp (IW U z a m n o p u q v e y b A B) Z (aE.cons (aQ.res 0 Z) (gK [0,1,2,3,4,5,6,7] Z))) Z λC=>aA Z<|fL Z<|fL Z<|aB Z<|Q4 Z<|Q5 Z<|Q4 Z<|aP ?_;cases h;exact mK Z
def n_ (a:QJ) (c:fE) (d b:Int):V1 V4:=
 ck (0<=b/\b<(a.1.2.2.length:Int)) (Option.bind (kC U ((((a.1.1,a.1.2.1,a.1.2.2)),((a.2.1.1,a.2.1.2)),a.2.2.1,a.2.2.2)) c d ((at' a.1.2.2 b).2.1)) λe=>(some (decide (e≠(0:Int)))))
theorem agE:aX prog 73:=call73
theorem IB {a:QJ} {p:fE} {q d:Int} (b:Nat) (j i k m:V0) (s:oB) (n:V0) (t:nQ) (o:V0) (u:nQ) (r:V4) (h:n_ U a p q d=some r):
  aZ prog 73 #[vP b,o,vI (q),vI (d)] [bU b [vS (a.1.1),j,i,k,m,vI (a.2.2.1),n] 142,Sl aN j a.1.2.1,Sl aJ i a.1.2.2,Sl cQ k a.2.1.1,S2 aS m s a.2.1.2,S2 cQ n t a.2.2.2,S2 cQ o u p] (λx:Unit=>vB (r)) (λx l=>l) (λ_ l=>l):=by
 refine aZ.of func73 Z ntmps73 Z λc=>Q3 Z<|Q5 Z<|aA Z<|aA Z<|aA Z<|aC (aV Z) Z<|bD Z<|bD Z<|aC (eN Z (cG Z) Z Z Z) Z<|aA Z<|eX h λg h=>aC (a_ Z Z (FA Z) Z Z g) Z<|aC (cB Z Z Z Z Z) Z<|xE (v:=i) (ds:=a.1.2.2) dN (FA Z) λe=>jY (iQ ((yY (fR (f:=bJ) (iZ Z) g.1 g.2)):aQ _ _ (Sl aS ((at' e d).1) ((at' a.1.2.2 d).2.1))))<|aC (sZ (gv:=λx=>x.1) Z (iZ Z) Z Z Z qB g) Z<|dG h λw y h=>aK (zB8 aab (CU U b j i k m s n t o u ((at' e d).1) w y) Z (gK [3,4,5,6,7,8,9,0] Z)) Z λz=>lK Z<|Q4 Z<|aP ?_;cases h;exact gM Z
end Go.Proofs.YtemmagadjnlajaaGreatDoor
namespace Go.Proofs.YtemmagadjnlajaaGreatDoor
open Go Go.Sx
def U_ (n:Nat) (e:V6 TM):Prop:=∃x,XV (n:Int) e x/\x.wf n false
theorem Pv {d:bN}:∀(x:X) (b:V4),x.ok->(∀t∈x.ts,EL d.length t=true)->x.ty d b≠0->x.wf d.length b
 | .lf t, b, hx, ha, h =>by
  refine⟨?_,ha t (by simp[X.ts])⟩
  simp only[X.ty]at h;cases b with
  |true=>exact .inl Z
  |false=>
   by_cases f:11<=t.1
   .rw[if_pos ⟨rfl,f⟩]at h;exact absurd Z h
   .exact .inr V7
 | .un t x,b,hx,ha,h=>by
  refine Pv x (b||agg t.1) hx.2 (λt c=>ha t (by simp[X.ts,c])) λe=>h ?_;simp only[X.ty,e];unfold Wg
  repeat' split
  all_goals first|rfl|(rename_i q;exact absurd q Q2)
 | .bi t x y, b, hx, ha, h =>by
  have a:x.ty d b≠0/\y.ty d b≠0:=by
   simp only[X.ty]at h;unfold Vt at h;split at h
   .split at h
    .rename_i q;exact⟨q.2,q.1▸q.2⟩
    .exact absurd Z h
   split at h
   .split at h
    .rename_i q;rw[q.1,q.2];decide
    .exact absurd Z h
   split at h
   .rename_i q;rw[q.1,q.2];decide
   .exact absurd Z h
  exact⟨Pv x b hx.2.1 (λt c=>ha t (by simp[X.ts,c])) a.1,Pv y b hx.2.2 (λt c=>ha t (by simp[X.ts,c])) a.2⟩
 | .tr t x y z, b, hx, ha, h =>by
  have a:x.ty d b≠0/\y.ty d b≠0/\z.ty d b≠0:=by
   simp only[X.ty]at h;unfold Y_ at h;split at h
   .rename_i q;rw[q.1,<-q.2];exact⟨Q2,h,h⟩
   .exact absurd Z h
  exact⟨Pv x b hx.2.1 (λt c=>ha t (by simp[X.ts,c])) a.1,Pv y b hx.2.2.1 (λt c=>ha t (by simp[X.ts,c])) a.2.1,Pv z b hx.2.2.2 (λt c=>ha t (by simp[X.ts,c])) a.2.2⟩
theorem Xp {ks:bN} {e:V6 TM} (h:Wo ks e≠0):U_ ks.length e:=by
 unfold Wo at h;split at h
 .rename_i q;have a:=Classical.choose_spec q;exact⟨Classical.choose q,a,Pv _ false a.2.1 (λt b=>a.2.2.2.2.2 t (by rw[a.2.2.1];exact b)) h⟩
 .exact absurd Z h
open Classical in
noncomputable def UP (p:PG) (g:GR) (c:fE) (v:Nat) (e:V6 TM):Int:=if h:U_ p.2.1.length e then adP p g c v (Classical.choose h)else 0
abbrev scn (p:PG) (g:GR):SCN:=(p,g,pF g g.2.length,Bi g)
section
variable {p:PG} {g:GR} {c:V6 (V6 Int)} {v:Nat} {e:V6 TM}
theorem UE (a:VG g) (j:ZP g p.2.1.length c) (f:v<g.2.length) (b:U_ p.2.1.length e):kC 1000 (scn p g) c (v:Int) e=some (UP p g c v e):=by
 unfold UP;rw[dif_pos b];have⟨⟨n,l,m,o,q,r⟩,k⟩:=Classical.choose_spec b;generalize Classical.choose b=x at *
 have i:=a.n24;have d:=(a.node v f).deg;subst m;unfold kC;have:=acf (wok (p:=p) (gr:=pF g g.2.length) a j f x.ts) (deg:=(row g v).length) Z V7 (show x.ts.length<=800 by omega) x l false 1000 (-1) [] [] V8 k (λh=>by cases h) V7;exact(aY (show cV 1000 _ (0:Int) (-1)=_ from this)).trans Z
theorem adO (i:VG g) (f:mP 1000 p=some true) (m:GM g p.2.1) (j:RCf g c p.2.1) (n:v<g.2.length) (b:1<=p.2.1.length) (d:p.2.1.length<=6) (a:U_ p.2.1.length e):
  ∃C k,mU 1000 e=some (C,0)/\mN 1000 C p g c (v:Int)=some (UP p g c v e,k,0):=by
 unfold UP;rw[dif_pos a];have⟨h,o⟩:=Classical.choose_spec a;generalize Classical.choose a=x at *
 have⟨k,l⟩:=Wb i f m j n b h.2.1 o (by rw[<-h.2.2.1];exact h.1) h.2.2.2.1 h.2.2.2.2.1;exact⟨x.cd 0,k,aag d h,l⟩
end
end Go.Proofs.YtemmagadjnlajaaGreatDoor
namespace Go.Proofs.YtemmagadjnlajaaGreatDoor
open Go.Sx
def q_ (a:eY) (b:dB) (c:fE):V1 V4:=
 Option.bind (kY U ((a.1,a.2.1,a.2.2)) ((b.1,b.2)) c) λd=>(some (decide (d=(0:Int))))
theorem ZZ:aX prog 29:=call29
theorem Jd {a:eY} {g:dB} {j:fE} (b d e f:V0) (k:oB) (i:V0) (m:nQ) (r:V4) (h:q_ U a g j=some r):
  aZ prog 29 #[Value.agg #[vS (a.1),b,d],Value.agg #[e,f],i] [Sl aN b a.2.1,Sl aJ d a.2.2,Sl cQ e g.1,S2 aS f k g.2,S2 cQ i m j] (λx:Unit=>vB (r)) (λx l=>l) (λ_ l=>l):=by
 refine aZ.of func29 Z ntmps29 Z λc=>aT<|aK (aO.box (cs:=[vS (a.1),b,d]) Z Z) Z λp=>aK (aO.box (cs:=[e,f]) Z Z) Z λq=>Q4 Z<|aT<|fQ 1 Z<|fQ 0 Z<|aA Z<|dG h λn o h=>aK (zB8 Vn (FS U b d e f k i m n o) Z (gK [0,1,2,3,4] Z)) Z λs=>bP Z<|Q4 Z<|aP ?_;cases h;exact mK Z
def rQ (a:Unit):V1 (Int):=
 some (-1:Int)
def nY (a:Qf) (d:fE) (e b:Int) (c:(Int)->V1 (Int)):V1 (Int):=
 if b<(a.1.2.2.length:Int)then(Option.bind (n_ U ((((a.2.1.1.1,a.2.1.1.2.1,a.2.1.1.2.2)),((a.2.1.2.1.1,a.2.1.2.1.2)),a.2.1.2.2.1,a.2.1.2.2.2)) d e b) λf=>(if f=true then(some (b))else(c (wI .i64 (b+(1:Int))))))else(rQ (()))
def f_ (a:Qf) (b:fE) (c:Int):V1 (Int):=
 bG (nY U a b c) U (0:Int)
theorem Vo:aX prog 31:=call31
theorem yN {a:Qf} {n:fE} {m:Int} (d:Nat) (z A:V0) (e:Nat) (o p q s:V0) (B:oB) (t:V0) (g:nQ) (f:V0) (v:oB) (b:V0) (i:nQ) (r:Int) (h:f_ U a n m=some r):
  aZ prog 31 #[vP d,b,vI (m)] [bU d [vS (a.1.1),z,A,vP e,f] 148,Sl aN z a.1.2.1,Sl aJ A a.1.2.2,bU e [vS (a.2.1.1.1),o,p,q,s,vI (a.2.1.2.2.1),t] 142,Sl aN o a.2.1.1.2.1,Sl aJ p a.2.1.1.2.2,Sl cQ q a.2.1.2.1.1,S2 aS s B a.2.1.2.1.2,S2 cQ t g a.2.1.2.2.2,S2 aS f v a.2.2,S2 cQ b i n] (λx:Unit=>vI (r)) (λx l=>l) (λ_ l=>l):=by
 refine aZ.of func31 Z ntmps31 Z λc=>?_;unfold f_ at h;refine Q3 Z<|aI<|cC (λj=>rQ j=some r) (λj w=>[]) (λj w=>[]) ?_ ?_
 .refine Q5 Z<|aC (aV Z) Z<|bD Z<|bD Z<|aC (eN Z (cG Z) Z Z Z) Z<|eL (FA Z) Z<|aA Z<|aM<|aU<|eP (nY U a n m) (λk y=>[(0,vP d),(1,b),(2,vI (m)),(13,vI (a.1.2.2.length:Int)),(14,vI (k))]) (λk y=>[]) (0:Int) () h SF (aW.refl _) ?_;intro E k y h;refine aT<|cX Z<|aM<|aI<|eF h Z (λh=>?_) λh=>?_
  .refine bK<|aI<|aU<|Q5 Z<|Q4 Z<|Q5 Z<|aC (aV Z) Z<|bD Z<|aC (eN Z (cG Z) Z Z Z) Z<|aA Z<|aA Z<|aA Z<|dG h λC u h=>aK (zB8 agE (IB U e o p q s B t g b i C u) Z (gK [3,4,5,6,7,8,10] Z)) Z λD=>aM<|iA h Z (λ_ h=>?_) λ_ h=>?_
   .refine Q5 Z<|Q4 Z<|aP<|bB<|aG<|aG<|bB<|aG ?_;cases h;exact gM Z
   exact cZ<|jZ<|aL<|cP Z<|aA Z<|aM<|Ac (wI .i64 (k+(1:Int))) () h SF Z
  exact fK<|cF () (()) h SF Z
 intro j w h;unfold rQ at h;refine Q3 Z<|aP ?_;cases h;exact gM Z
def Ic (b:eY) (d:dB) (e:fE) (f:Int) (a:pT×Int×fE):V1 (Int):=
 Option.bind (f_ U ((((b.1,b.2.1,b.2.2)),((((b.1,b.2.1,b.2.2)),((d.1,d.2)),a.2.1,a.2.2)),a.1)) e f) λc=>(some (c))
def Fa (b:eY) (c:dB) (e:fE) (f:Int) (a:Bz):V1 (Int):=
 Option.bind (kX U ((b.1,b.2.1,b.2.2)) ((c.1,c.2))) λd=>(Ic U b c e f (d,a.1,a.2))
def Cw (b:eY) (c:dB) (d:fE) (e:Int) (a:Bz):V1 (Int):=
 Fa U b c d e (a.1,a.2)
def Ie (d:dB) (a:Hw) (b:Iu->V1 (Int)) (c:fE):V1 (Int):=
 b ((wI .i64 (a.1+(1:Int))),(max a.2.1 (at' d.1 a.1)),c)
def If (d:dB) (a:Hw) (e:Iu->V1 (Int)) (b:Bz) (f:(Int×fE)->V1 (Int)):V1 (Int):=
 if b.1<((at' d.2 a.1).length:Int)then(ck (0<=b.1/\b.1<((at' d.2 a.1).length:Int)) (ck (0<=a.1/\a.1<(b.2.length:Int)) (Option.bind (mV U ((d.1,d.2)) ((at' (at' d.2 a.1) b.1).1) a.1) λc=>(ck (((at' b.2 a.1).length:Int)+(List.length ([c]):Int)<=1099511627) (ck (0<=a.1/\a.1<((List.set b.2 (Int.toNat a.1) ((at' b.2 a.1)++[c])).length:Int)) (f ((wI .i64 (b.1+(1:Int))),(List.set b.2 (Int.toNat a.1) ((at' b.2 a.1)++[c])))))))))else(Ie d a e (b.2))
def Cy (d:eY) (c:dB) (e:fE) (f:Int) (a:Hw) (b:Iu->V1 (Int)):V1 (Int):=
 if a.1<(c.2.length:Int)then(ck (0<=a.1/\a.1<(c.2.length:Int)) (ck (0<=a.1/\a.1<(c.1.length:Int)) (bG (If U c a b) U ((0:Int),a.2.2))))else(Cw U d c e f (a.2.1,a.2.2))
def Cv (c:eY) (a:dB) (d:fE) (e:Int) (b:V4):V1 (Int):=
 if b=true then(some (-1:Int))else(ck (0<=(a.2.length:Int)/\(a.2.length:Int)<=1099511627) (bG (Cy U c a d e) U ((0:Int),(0:Int),(List.replicate (Int.toNat (a.2.length:Int)) ([]:bN)))))
def Er (a:eY) (b:dB) (c:fE) (d:Int):V1 (Int):=
 Option.bind (q_ U ((a.1,a.2.1,a.2.2)) ((b.1,b.2)) c) λe=>(if(!e)=true then(Cv U a b c d (true))else(if d<(0:Int)then(Cv U a b c d (true))else(Cv U a b c d (decide ((c.length:Int)<=d)))))
theorem aiR:aX prog 9:=call9
theorem Us (U:Nat) {d:eY} {u:dB} {N:fE} {R:Int} (n o q g:V0) (T:oB) (v5:V0) (z6:nQ) (r:Int) (h:Er U d u N R=some r):
  aZ prog 9 #[Value.agg #[vS (d.1),n,o],Value.agg #[q,g],v5,vI (R)] [Sl aN n d.2.1,Sl aJ o d.2.2,Sl cQ q u.1,S2 aS g T u.2,S2 cQ v5 z6 N] (λx:Unit=>vI (r)) (λx l=>l) (λ_ l=>l):=by
 let V:=(Cy U d u N R)
 let S:=(u.2.length:Int)
 let X:=(Int.toNat S)
 refine aZ.of func9 Z ntmps9 Z λc=>?_;refine aT<|aK (aO.box (cs:=[vS (d.1),n,o]) Z Z) Z λb1=>aK (aO.box (cs:=[q,g]) Z Z) Z λb2=>aB Z<|aM<|aI<|aI<|cC (λa4=>Cv U d u N R a4=some r) (λa4 b5=>[(2,v5),(3,vI (R)),(4,vP b1),(5,vP b2),(23,vB (a4))]) (λa4 b5=>[bU b2 [q,g] 29,bU b1 [vS (d.1),n,o] 25]) ?_ ?_
 .refine aL<|fQ 1 Z<|fQ 0 Z<|aA Z<|dG h λav aH h=>aK (zB8 ZZ (Jd U n o q g T v5 z6 av aH) Z (gK [0,1,2,3,4] Z)) Z λa5=>aC (fF Z) Z<|aA Z ?_;refine iO (by exact rfl) (by exact rfl) (λI=>?_) (λI=>?_)
  .have h:=Bt I h;refine aD Z<|aD Z<|bO Z<|aA Z<|aD Z<|aD Z<|aD Z<|aD Z<|bO Z<|aM ?_;exact cF (true) () h SF Z
  have h:=w_ I h;refine bH Z<|aF Z (Hg Z Z) Z<|bT Z<|aA Z ?_;refine mL h Z (λ_ h=>?_) λ_ h=>?_
  .refine aD Z<|aD Z<|aD Z<|aD Z<|bO Z<|aM ?_;exact cF (true) () h SF Z
  refine bH Z<|bH Z<|aF Z (mB Z (Bl Z) Z) Z<|aF Z (lD Z Z) Z<|bT Z<|aM ?_;exact cF (decide ((N.length:Int)<=R)) () h SF Z
 intro a4 b5 h;refine iA h Z (λ_ h=>?_) λ_ h=>?_
 .refine aT<|aB Z<|aM<|aP<|aG ?_;cases h;exact mK Z
 refine bK<|aT<|fQ 1 Z<|fQ 0 Z<|IC (A:=pT×Int×fE) (B:=abQ) (vs:=[Value.agg #[vS (d.1),n,o],Value.agg #[q,g]]) (λs=>Ic U d u N R s=some r) (λs b=>vP b.1) (λs b=>[bU b.1 [vS (d.1),n,o,vP b.2.1,b.2.2.1] 148,Ar eD b.2.2.1 b.2.2.2.1,sR cS b.2.2.2.1 s.1,bU b.2.1 [vS (d.1),n,o,q,g,vI (s.2.1),b.2.2.2.2.1] 142,Ar eD b.2.2.2.2.1 b.2.2.2.2.2,sR cK b.2.2.2.2.2 s.2.2]) (λs b=>[Sl aN n d.2.1,Sl aJ o d.2.2,Sl cQ q u.1,S2 aS g T u.2,S2 cQ v5 z6 N]) (BB.fn (show aX prog 30 from call30) Z) func30 Z ntmps30 Z Z ?_ ?_
 .refine aT<|aK (aO.box (cs:=[vS (d.1),n,o]) Z Z) Z λan=>let J:=bU an [vS (d.1),n,o] 25;aK (aO.box (cs:=[q,g]) Z Z) Z λao=>let K:=bU ao [q,g] 29;aB Z<|aM<|aI ?_
  refine xP [0,0,0,6,0,0,62,127,255,511] 7 mixedOrders ?_;refine qY 1 Z<|qY 1 Z<|qY 0 Z<|Nr (A:=Bz) (B:=Nat×V0×List V0) (vs:=[Value.agg #[vS (d.1),n,o],Value.agg #[q,g]]) (λt=>Fa U d u N R t=some r) (λt f=>vP f.1) (λt f=>[bU f.1 [vS (d.1),n,o,q,g,vI (t.1),f.2.1] 142,Ar eD f.2.1 f.2.2,sR cK f.2.2 t.2,K,J]) (λt f=>[Sl aN n d.2.1,Sl aJ o d.2.2,Sl cQ q u.1,S2 aS g T u.2,S2 cQ v5 z6 N]) Z Z Z (BB.fn (show aX prog 26 from call26) Z) func26 Z ntmps26 Z Z (λ_ _=>(y_ [([4],[])] Z)) ?_ ?_
  .refine aT<|aK (aO.box (cs:=[vS (d.1),n,o]) Z Z) Z λa0=>aK (aO.box (cs:=[q,g]) Z Z) Z λO=>let W:=bU O [q,g] 29;aB Z<|aM<|aI ?_
   refine xP [0,0,0,4,12,28,63,127,255] 6 mixedOrders ?_;refine qY 1 Z<|qY 0 Z<|dA Z<|iH 0 Z<|bI Z .nil (jP 3 Z) (mB Z (cG Z) Z) aR.z<|eX h λaq h=>JR.stp (Ei cK X)<|zBa Z Z Z (oC (e:=eD) (zU) Z Z Z Z aq Z Z Z) Z (λp=>(y_ [([2],[]),([3],[])] Z)) λp=>bS 6 Z Z<|eH (jKs (aQ.rows (i:=0) (j:=1) Z Z fH)) λae=>?_;refine aC (BF (r:=Value.agg #[vS (d.1),n,o,q,g,vI (0:Int),p]) Z Z Z (by intro w;simp[Instr.build,Instr.fill,cL,b_,bW,cM,cN,cA,dD,eW ae])) Z ?_;refine aK (aO.box (cs:=[vS (d.1),n,o,q,g,vI (0:Int),p]) Z Z) Z λy=>aB Z<|aM<|aI<|JK (B:=oA) (λv=>Cw U d u N R v=some r) (λv G=>[(5,vP y)]) (λv G=>[bU y [vS (d.1),n,o,q,g,vI (v.1),p] 142,Ar eD p G,sR cK G v.2,K,J]) ?_ ?_
   .refine aT<|bD Z<|bY 3 Z<|aC (mB Z (EQ Z) Z) Z<|aA Z<|aM<|aU<|eP (B:=oA) V (λa E=>[(3,vP O),(5,vP y),(19,g),(20,vI S),(21,vI (a.1))]) (λa E=>[bU y [vS (d.1),n,o,q,g,vI (a.2.1),p] 142,Ar eD p E,sR cK E a.2.2,W,K,J]) ((0:Int),(0:Int),(List.replicate X ([]:bN))) (List.replicate X (zU)) h SF (aW.ix [0,1,2,3,5,6] Z Z) ?_;intro ai a E h;let Y:=(at' u.2 a.1)
    let ak:=(max a.2.1 (at' u.1 a.1))
    let aj:=bU y [vS (d.1),n,o,q,g,vI ak,p] 142;refine aT<|cX Z<|aM<|aI ?_;refine eF h Z (λh=>?_) λh=>?_
    .refine bK<|aI<|JK (B:=oA) (λD=>Ie u a (bG V ai) D=some r) (λD H=>[(3,vP O),(5,vP y),(19,g),(20,vI S),(21,vI (a.1))]) (λD H=>[aj,Ar eD p H,sR cK H D,W,K,J]) ?_ ?_
     .refine aU<|aT<|aA Z<|eX h λC h=>aC (fJ Z Z (EQ Z) Z Z C) Z<|aC (eI Z (EQ Z) Z Z C) Z<|aB Z<|aB Z<|aM<|aI ?_;refine xP [0,0,2,6,14,0,32,0,224,480,1022,2047,4095,8191] 11 mixedOrders ?_;refine bE Z<|bE Z<|iD Z (aV Z)<|dA Z<|iH 0 Z<|dA Z<|iH 3 Z<|bE Z<|eX h λag h=>bI Z .nil (jP 2 Z) (a_ Z Z (cG Z) Z Z ag) aR.z<|bI Z .nil (jP 2 Z) (eC Z (cG Z) Z Z Z gC ag) aR.z<|iD Z (Gm Z Z)<|bS 11 Z Z<|aC (aV Z) Z<|bD Z<|i_ 0 Z Z Z Z Z Z<|aM<|aT<|aA Z<|aC (dO Z (zB9 (EQ Z) C.1 C.2) Z) Z<|aA Z<|aM<|aU<|eP (B:=oA) (If U u a (bG V ai)) (λm F=>[(3,vP O),(5,vP y),(6,vI (a.1)),(19,g),(20,vI S),(21,vI (a.1)),(39,(at' T a.1).1),(40,vI (Y.length:Int)),(41,vI (m.1))]) (λm F=>[aj,Ar eD p F,sR cK F m.2,W,K,J]) ((0:Int),a.2.2) (E) h SF (aW.refl _) ?_;intro a2 m F h;refine aT<|cX Z<|aM<|aI ?_;refine eF h Z (λh=>?_) λh=>?_
      .refine bK<|aI<|aU<|aT<|eX h λah h=>aC (a_ Z Z (zB9 (EQ Z) C.1 C.2) Z Z ah) Z<|aC (eO (cs:=[vI ((at' Y m.1).1),vI ((at' Y m.1).2)]) Z (zB9 (EQ Z) C.1 C.2) dL Z Z Z Z ah) Z<|aK (aO.alloc (cs:=SG) Z Z) Z λa1=>cO 0 (vs:=[vI ((at' (at' u.2 a.1) m.1).1),vI ((at' (at' u.2 a.1) m.1).2)]) Z Z Z Z Z Z<|aM ?_;refine xP [0,1,3,7,0,0,32,96,224,0,992,2016,0,0,8192,0,61440,126976,262112,524287,1048575] 19 mixedOrders ?_;refine bE Z<|iD Z (aV Z)<|dA Z<|iH 1 Z<|bE Z<|bE Z<|iD Z (aV Z)<|dA Z<|iH 1 Z<|bE Z<|eX h λP h=>kO (nT 3 Z) λaa=>?_;refine bI Z (aW.cons 2 Z .nil) .nil (Ah 0 Z Z Z Z Z P.1 (by have q1:=P.2;have q2:=aa;(try simp only[zAb]at q1);(try simp only[zAb]at q2⊢);omega)) aR.z ?_;refine kO (nT 3 Z) λab=>bI Z (aW.cons 2 Z .nil) .nil (Fi 0 Z Z ab Z Z P) aR.z<|qY 4 Z<|dA Z<|iH 0 Z<|bE Z<|dG h λL az h=>zBa Z Z Z (zB8 Ry (CE U q g T L az) Z (gK [2,3] Z)) Z (λaY=>(y_ [([2],[]),([2],[]),([1],[]),([1],[])] Z)) λaY=>zBa Z Z Z (fX (e:=cK) ([L]) [(0,vI (L))] Z Z Z Z (vG (vI (L)) Z) Z Z Z) Z (λaw=>(y_ [([3],[]),([3],[]),([2],[]),([2],[])] Z)) λaw=>eX h λar h=>zBa Z Z Z (vD 4 fH Z Z Z (bL (aQ.res 0 Z) fH) Z Z Z Z P ar Z) Z (λam=>(y_ [([2],[])] Z)) λam=>bS 19 Z Z<|eX h λQ h=>eH (nT 4 Z) λac=>?_;refine aC (Ah 3 Z Z Z Z Z Q.1 (by have q1:=Q.2;have q2:=ac;(try simp only[zAb]at q1);(try simp only[zAb]at q2⊢);omega)) Z ?_;refine eH (Gk 4 (k:=a.1) Z Q) λaf=>?_;refine Fl 3 4 Q Z Z Z Z Z (by simp) af Z ?_;refine dK<|jZ<|aL<|cP Z<|aA Z<|aM ?_;exact fI ((wI .i64 (m.1+(1:Int))),(List.set m.2 (Int.toNat a.1) ((at' m.2 a.1)++[L]))) (List.set F (Int.toNat a.1) am) h SF (aW.ix [2,3,4,5,6,7] Z Z) (aE.refl _ _)
      refine uS<|gY<|gY<|BC<|jZ ?_;exact cF (m.2) (F) h SF Z
     intro D H h;unfold Ie at h;refine aL<|cP Z<|aA Z<|aM ?_;exact Ac ((wI .i64 (a.1+(1:Int))),ak,D) (H) h SF Z
    refine fK ?_;exact bQ (a.2.1,a.2.2) (E) h SF (aW.ix [0,1,2,4,5] Z Z) (aE.refl _ _)
   intro v G h;unfold Cw at h;refine aT<|aA Z<|aB Z<|aM<|aP ?_;exact uT (v.1,v.2) (y,p,G) h (.inl Z) (Kk.r1 Z (RV.tmp Z)) Z (aW.refl _) (aE.refl _ _)
  intro t f h;unfold Fa at h;refine bI Z (aW.cons 4 Z .nil) .nil (iC 0 Z Z Z Z) (aR.h (aW.ix [1] Z Z) .nil aR.z)<|bI Z (aW.cons 3 Z .nil) .nil (iC 0 Z Z Z Z) (aR.h (aW.ix [0] Z Z) .nil aR.z)<|dG h λal ay h=>zBa Z Z Z (zB8 Rx (CB U n o q g T al ay) Z (gK [0,1,2,3] Z)) Z (λM=>(y_ [([6],[])] Z)) λM=>bS 7 Z Z<|eH (jKs (aQ.rows (i:=0) (j:=1) Z Z dL)) λad=>?_;refine aC (BF (r:=Value.agg #[vS (d.1),n,o,Value.pointer (some ⟨f.1,0,none⟩),M.1]) Z Z Z (by intro w;simp[Instr.build,Instr.fill,cL,b_,bW,cM,cN,cA,dD,eW ad])) Z ?_;refine aK (aO.box (cs:=[vS (d.1),n,o,vP f.1,M.1]) Z Z) Z λap=>aB Z<|aM<|aP ?_;exact uT (al,t.1,t.2) (ap,f.1,M.1,M.2,f.2.1,f.2.2) h (.inl Z) (Kk.r1 Z (RV.tmp Z)) Z (aW.ix [0,1,2,3,4,5] Z Z) (aE.refl _ _)
 intro s b h;refine aA Z<|aA Z<|dG h λau ax h=>aK (zB8 Vo (yN U b.1 n o b.2.1 n o q g T b.2.2.2.2.1 (List.zip b.2.2.2.2.2 s.2.2) b.2.2.1 (List.zip b.2.2.2.1 s.1) v5 z6 au ax) Z (aE.cons (aQ.res 0 Z) (aE.cons (cG Z) (aE.cons (iZ Z) (aE.cons (aQ.res 3 Z) (aE.cons (cG Z) (aE.cons (iZ Z) (aE.cons (FA Z) (aE.cons (EQ Z) (aE.cons (aQ.rows (i:=4) (j:=5) Z Z fH) (aE.cons (aQ.rows (i:=1) (j:=2) Z Z dL) (gK [4] Z)))))))))))) Z λa3=>aB Z<|aM<|aP ?_;cases h;exact mK Z
def Ea (a:Int):V1 (Int):=
 some (a)
def AA (c:dJ) (b:dW->V1 (Int)) (a:Int):V1 (Int):=
 b (a,(wI .i64 (c.2+(1:Int))))
def wM (e:Int) (d:Int->V1 V4) (a:dJ) (b:dW->V1 (Int)):V1 (Int):=
 if a.2<e then(Option.bind (d a.2) λc=>(if c=true then(ck (0<=a.2) (AA a b (bOr .u32 a.1 (Tx .u32 (1:Int) a.2))))else(AA a b (a.1))))else(Ea (a.1))
def EV (b:Int) (a:Int->V1 V4):V1 (Int):=
 bG (wM b a) U ((0:Int),(0:Int))
theorem agF:aX prog 74:=call74
theorem Sv {j:Int} {o:Int->V1 V4} (n:FuncId) (d:oA) (k:V6 bF) (f:aX prog n) (g:∀(v:Int) (r:V4),o v=some r->aZ prog n ([vI (v)]++d).toArray k (λ_:Unit=>vB (r)) (λ_ l=>l) (λ_ l=>l)) (r:Int) (h:EV U j o=some r):
  aZ prog 74 #[vI (j),Value.func (.func n) #[] (d).toArray] ([]++k) (λx:Unit=>vU (r)) (λx l=>l) (λ_ l=>l):=by
 let m:=Value.func (.func n) #[] (d).toArray;refine aZ.of func74 Z ntmps74 Z λc=>?_;unfold EV at h;refine Q3 Z<|Q3 Z<|aI<|xD (B:=Unit) (λi=>Ea i=some r) (λi p=>[(5,vU (i))]) (λi p=>[]) (λi p=>([]++k)) ?_ ?_
 .refine Q5 Z<|aA Z<|aM<|aU<|Dp (B:=Unit) (wM j o) (λb q=>[(1,m),(5,vU (b.1)),(7,vI (j)),(8,vI (b.2))]) (λb q=>[]) (λb q=>([]++k)) ((0:Int),(0:Int)) () h SF (aW.refl _) (aE.refl _ _) ?_;intro w b q h;refine aT<|cX Z<|aM<|aI<|eF h Z (λh=>?_) λh=>?_
  .refine bK<|aI<|xD (B:=Unit) (λa=>AA b (bG (wM j o) w) a=some r) (λa e=>[(1,m),(5,vU (a)),(7,vI (j)),(8,vI (b.2))]) (λa e=>[]) (λa e=>([]++k)) ?_ ?_
   .refine aU<|Q5 Z<|Q4 Z<|Q5 Z<|aA Z<|dG h λt u h=>aK (Bo (vs:=[vI (b.2)]) (cs:=d) f Z (g b.2 t u) Z (aE.tail _) (λ_ _=>rfl)) Z λy=>aM<|iA h Z (λ_ h=>?_) λ_ h=>?_
    .exact aL<|aA Z<|aA Z<|eX h λs h=>aC (afd Z Z s) Z<|aC (aiJ Z Z) Z<|aB Z<|dK<|jZ<|cF (bOr .u32 b.1 (Tx .u32 (1:Int) b.2)) () h SF Z
    exact cZ<|jZ<|cF (b.1) () h SF Z
   intro a e h;unfold AA at h;exact aL<|cP Z<|aA Z<|aM<|Ac (a,(wI .i64 (b.2+(1:Int)))) () h SF Z
  exact fK<|cF (b.1) () h SF Z
 intro i p h;unfold Ea at h;refine Q5 Z<|Q4 Z<|aP ?_;cases h;exact gM Z
def nR (b:Int) (a:Qf) (c:fE):V1 V4:=
 Option.bind (f_ U ((((a.1.1,a.1.2.1,a.1.2.2)),((((a.2.1.1.1,a.2.1.1.2.1,a.2.1.1.2.2)),((a.2.1.2.1.1,a.2.1.2.1.2)),a.2.1.2.2.1,a.2.1.2.2.2)),a.2.2)) c b) λd=>(some (decide ((0:Int)<=d)))
theorem agG:aX prog 75:=call75
theorem Gg {v:Int} {a:Qf} {w:fE} (j d:Nat) (o p:V0) (e:Nat) (q s t u:V0) (y:oB) (f:V0) (k:nQ) (g:V0) (m:oB) (b:Nat) (i:V0) (n:nQ) (r:V4) (h:nR U v a w=some r):
  aZ prog 75 #[vI (v),vP j,vP b] [bU j [vP d] 88,bU d [vS (a.1.1),o,p,vP e,g] 148,Sl aN o a.1.2.1,Sl aJ p a.1.2.2,bU e [vS (a.2.1.1.1),q,s,t,u,vI (a.2.1.2.2.1),f] 142,Sl aN q a.2.1.1.2.1,Sl aJ s a.2.1.1.2.2,Sl cQ t a.2.1.2.1.1,S2 aS u y a.2.1.2.1.2,S2 cQ f k a.2.1.2.2.2,S2 aS g m a.2.2,bU b [i] 30,S2 cQ i n w] (λx:Unit=>vB (r)) (λx l=>l) (λ_ l=>l):=by
 refine aZ.of func75 Z ntmps75 Z λc=>Q3 Z<|aT<|aC (eN Z (cG Z) Z Z Z) Z<|aC (eN Z (aQ.fact 11 Z) Z Z Z) Z<|aA Z<|dG h λz A h=>aK (zB8 Vo (yN U d o p e q s t u y f k g m i n z A) Z (gK [1,2,3,4,5,6,7,8,9,10,12] Z)) Z λB=>aC (lD Z Z) Z<|Q4 Z<|aP ?_;cases h;exact gM Z
def mG (a:Qf) (b:fE):V1 (Int):=
 Option.bind (EV U (a.2.2.length:Int) (λd=>nR U d ((((a.1.1,a.1.2.1,a.1.2.2)),((((a.2.1.1.1,a.2.1.1.2.1,a.2.1.1.2.2)),((a.2.1.2.1.1,a.2.1.2.1.2)),a.2.1.2.2.1,a.2.1.2.2.2)),a.2.2)) b)) λc=>(some (c))
theorem agk:aX prog 32:=call32
theorem Ht {a:Qf} {w:fE} (b:Nat) (k m:V0) (e:Nat) (n o p q:V0) (y:oB) (s:V0) (g:nQ) (f:V0) (i:oB) (d:V0) (j:nQ) (r:Int) (h:mG U a w=some r):
  aZ prog 32 #[vP b,d] [bU b [vS (a.1.1),k,m,vP e,f] 148,Sl aN k a.1.2.1,Sl aJ m a.1.2.2,bU e [vS (a.2.1.1.1),n,o,p,q,vI (a.2.1.2.2.1),s] 142,Sl aN n a.2.1.1.2.1,Sl aJ o a.2.1.1.2.2,Sl cQ p a.2.1.2.1.1,S2 aS q y a.2.1.2.1.2,S2 cQ s g a.2.1.2.2.2,S2 aS f i a.2.2,S2 cQ d j w] (λx:Unit=>vU (r)) (λx l=>l) (λ_ l=>l):=by
 refine aZ.of func32 Z ntmps32 Z λc=>aT<|aK (aO.box (cs:=[vP b]) Z Z) Z λt=>eH (jKs (aQ.fact 10 Z)) λv=>aK (aO.box (cs:=[d]) Z (by rw[eW v])) Z λu=>?_;refine Q4 Z<|aT<|bY 1 Z<|aC (aV Z) Z<|bD Z<|aC (eN Z (cG Z) Z Z Z) Z<|aC (mB Z (aQ.fact 9 Z) Z) Z<|aC (Kn (cs:=[.tmp 2,.tmp 3]) (vs:=[vP t,vP u]) Z) Z<|dG h λz A h=>aK (zB8 agF (Sv U 75 [vP t,vP u] [bU t [vP b] 88,bU b [vS (a.1.1),k,m,vP e,f] 148,Sl aN k a.1.2.1,Sl aJ m a.1.2.2,bU e [vS (a.2.1.1.1),n,o,p,q,vI (a.2.1.2.2.1),s] 142,Sl aN n a.2.1.1.2.1,Sl aJ o a.2.1.1.2.2,Sl cQ p a.2.1.2.1.1,S2 aS q y a.2.1.2.1.2,S2 cQ s g a.2.1.2.2.2,S2 aS f i a.2.2,bU u [d] 30,S2 cQ d j w] agG (λC r h=>Gg U t b k m e n o p q y s g f i u d j r h) z A) Z (aE.cons (aQ.res 1 Z) (aE.cons (cG Z) (aE.cons (iZ Z) (aE.cons (FA Z) (aE.cons (EQ Z) (aE.cons (Bl Z) (aE.cons (MU Z) (aE.cons (aQ.fact 6 Z) (aE.cons (aQ.fact 7 Z) (aE.cons (aQ.fact 8 Z) (aE.cons (aQ.fact 9 Z) (aE.cons (aQ.res 0 Z) (gK [10] Z)))))))))))))) Z λB=>Q4 Z<|aP ?_;cases h;exact mK Z
end Go.Proofs.YtemmagadjnlajaaGreatDoor