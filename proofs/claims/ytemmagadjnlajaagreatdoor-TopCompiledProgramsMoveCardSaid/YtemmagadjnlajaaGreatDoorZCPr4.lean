/- Models and proofs. Conditions: none. -/
import Derived.Test.YtemmagadjnlajaaGreatDoorZCPr3
set_option linter.unusedVariables false
set_option linter.unusedSimpArgs false
set_option maxHeartbeats 4000000
set_option maxRecDepth 20000
open Go.Proofs.Tryz
variable (U:Nat)
namespace Go.Proofs.YtemmagadjnlajaaGreatDoor
open Go.Sx
def oI (a:V4):V1 V4:=
 some (a)
def qR (a:V4):V1 V4:=
 some (a)
def zT (a:CJ) (b:V4):V1 V4:=
 if b=true then(Option.bind (lU U a.2.2.2.1 (0:Int) (4096:Int)) λc=>(some (c)))else(if a.2.2.2.2.1=(0:Int)then(Option.bind (lU U a.2.2.2.1 (-4096:Int) (4096:Int)) λd=>(qR (d)))else(if a.2.2.2.2.2=(0:Int)then(Option.bind (lU U a.2.2.2.1 (-4096:Int) (4096:Int)) λe=>(qR (e)))else(qR (false))))
def uM (a:CJ) (b:V4):V1 V4:=
 if b=true then(some (false))else(if a.2.2.2.2.1=(0:Int)then(zT U a (decide (a.2.2.2.2.2=(0:Int))))else(zT U a (false)))
def AR (a:CJ):V1 V4:=
 Option.bind (tW U a.2.1) λe=>(if(!e)=true then(some (false))else(if a.2.1≠(1:Int)then(if a.2.2.1=(0:Int)then(if a.2.2.2.1=(0:Int)then(if a.2.2.2.2.1=(0:Int)then(oI (decide (a.2.2.2.2.2=(0:Int))))else(oI (false)))else(oI (false)))else(oI (false)))else(Option.bind (lU U a.2.2.1 (0:Int) (4096:Int)) λb=>(if(!b)=true then(uM U a (true))else(Option.bind (lU U a.2.2.2.2.1 (0:Int) (255:Int)) λc=>(if(!c)=true then(uM U a (true))else(Option.bind (lU U a.2.2.2.2.2 (0:Int) (255:Int)) λd=>(uM U a ((!d))))))))))
theorem agO:aX prog 99:=call99
theorem Nm {a:CJ} (r:V4) (h:AR U a=some r):
  aZ prog 99 #[Value.agg #[vS (a.1),vI (a.2.1),vI (a.2.2.1),vI (a.2.2.2.1),vI (a.2.2.2.2.1),vI (a.2.2.2.2.2)]] [] (λx:Unit=>vB (r)) (λx l=>l) (λ_ l=>l):=by
 let b:=a.2.2.2;let p:=(decide (b.2.2=(0:Int)))
 refine aZ.of func99 Z ntmps99 Z λc=>aT<|aK (aO.box (cs:=[vS (a.1),vI (a.2.1),vI (a.2.2.1),vI (b.1),vI (b.2.1),vI (b.2.2)]) Z Z) Z λu=>let o:=bU u [vS (a.1),vI (a.2.1),vI (a.2.2.1),vI (b.1),vI (b.2.1),vI (b.2.2)] 98;Q4 Z<|aI<|aT<|bD Z<|bY 0 Z<|dG h λG H h=>aK (zB8 WO (Hv U G H) Z .nil) Z λO=>aC (fF Z) Z<|aM ?_
 refine iA h Z (λ_ h=>?_) λ_ h=>?_
 .refine Q3 Z<|aP<|aG ?_;cases h;exact mK Z
 refine bK<|aI<|aT<|bD Z<|bY 0 Z<|lK Z<|aM<|eF h Z (λh=>?_) λh=>?_
 .refine aI<|cC (λj=>oI j=some r) (λj F=>[(2,vB (j))]) (λj F=>[]) ?_ ?_
  .refine aL<|bD Z<|bY 0 Z<|bP Z<|aA Z<|mL h Z (λ_ h=>?_) λ_ h=>?_
   .refine aF Z (bR Z Z Z Z Z) Z<|aF Z (bX 0 Z Z Z Z Z) Z<|aF Z (oV Z Z) Z<|bO Z<|aA Z<|mL h Z (λ_ h=>?_) λ_ h=>?_
    .refine aF Z (bR Z Z Z Z Z) Z<|aF Z (bX 0 Z Z Z Z Z) Z<|aF Z (oV Z Z) Z<|bO Z<|aA Z<|mL h Z (λ_ h=>?_) λ_ h=>?_
     .exact aF Z (bR Z Z Z Z Z) Z<|aF Z (bX 0 Z Z Z Z Z) Z<|aF Z (oV Z Z) Z<|bO Z<|Q4 Z<|bQ p () h SF .nil (aE.refl _ _)
     exact aD Z<|aD Z<|aD Z<|bT Z<|Q4 Z<|bQ (false) () h SF .nil (aE.refl _ _)
    exact aD Z<|aD Z<|aD Z<|bT Z<|aA Z<|aD Z<|aD Z<|aD Z<|bT Z<|Q4 Z<|bQ (false) () h SF .nil (aE.refl _ _)
   exact aD Z<|aD Z<|aD Z<|bT Z<|aA Z<|aD Z<|aD Z<|aD Z<|bT Z<|aA Z<|aD Z<|aD Z<|aD Z<|bT Z<|Q4 Z<|bQ (false) () h SF .nil (aE.refl _ _)
  intro j F h;unfold oI at h;refine aP<|aG ?_;cases h;exact gM Z
 refine bK<|aI<|aI<|cC (λd=>uM U a d=some r) (λd k=>[(1,vP u),(43,vB (d))]) (λd k=>[o]) ?_ ?_
 .refine aL<|bD Z<|bY 0 Z<|dG h λw C h=>aK (zB8 HM (rI U w C) Z .nil) Z λL=>aC (fF Z) Z<|aA Z<|iO (by exact rfl) (by exact rfl) (λg=>?_) (λg=>?_)
  .have h:=Bt g h;exact aD Z<|aD Z<|aD Z<|aD Z<|bO Z<|aA Z<|aD Z<|aD Z<|aD Z<|aD Z<|bO Z<|aM<|cF (true) () h SF Z
  have h:=w_ g h;refine aF Z (bR Z Z Z Z Z) Z<|aF Z (bX 0 Z Z Z Z Z) Z<|dG h λy D h=>fU Z (zB8 HM (rI U y D) Z .nil) Z λM=>aF Z (fF Z) Z<|bT Z<|aA Z<|iO (by exact rfl) (by exact rfl) (λi=>?_) (λi=>?_)
  .have h:=Bt i h;exact aD Z<|aD Z<|aD Z<|aD Z<|bO Z<|aM<|cF (true) () h SF Z
  have h:=w_ i h;exact aF Z (bR Z Z Z Z Z) Z<|aF Z (bX 0 Z Z Z Z Z) Z<|dG h λt E h=>fU Z (zB8 HM (rI U t E) Z .nil) Z λN=>aF Z (fF Z) Z<|bT Z<|aM<|cF ((!t)) () h SF Z
 intro d k h;refine iA h Z (λ_ h=>?_) λ_ h=>?_
 .refine Q3 Z<|aP<|aG ?_;cases h;exact mK Z
 refine bK<|aI<|aI<|cC (λe=>zT U a e=some r) (λe m=>[(1,vP u),(51,vB (e))]) (λe m=>[o]) ?_ ?_
 .refine aL<|bD Z<|bY 0 Z<|bP Z<|aA Z<|mL h Z (λ_ h=>?_) λ_ h=>?_
  .exact aF Z (bR Z Z Z Z Z) Z<|aF Z (bX 0 Z Z Z Z Z) Z<|aF Z (oV Z Z) Z<|bO Z<|aM<|cF p () h SF Z
  exact aD Z<|aD Z<|aD Z<|bT Z<|aM<|cF (false) () h SF Z
 intro e m h;refine iA h Z (λ_ h=>?_) λ_ h=>?_
 .refine aT<|bD Z<|bY 0 Z<|dG h λv z h=>aK (zB8 HM (rI U v z) Z .nil) Z λI=>Q4 Z<|aP<|aG ?_;cases h;exact mK Z
 refine bK<|aI<|cC (λf=>qR f=some r) (λf n=>[(2,vB (f))]) (λf n=>[]) ?_ ?_
 .refine aL<|bD Z<|bY 0 Z<|bP Z<|aA Z<|mL h Z (λ_ h=>?_) λ_ h=>?_
  .exact aD Z<|aD Z<|aD Z<|bO Z<|aA Z<|aF Z (bR Z Z Z Z Z) Z<|aF Z (bX 0 Z Z Z Z Z) Z<|dG h λq A h=>fU Z (zB8 HM (rI U q A) Z .nil) Z λJ=>bO Z<|Q4 Z<|bQ (q) () h SF .nil (aE.refl _ _)
  refine aF Z (bR Z Z Z Z Z) Z<|aF Z (bX 0 Z Z Z Z Z) Z<|aF Z (oV Z Z) Z<|bT Z<|aA Z<|mL h Z (λ_ h=>?_) λ_ h=>?_
  .exact aF Z (bR Z Z Z Z Z) Z<|aF Z (bX 0 Z Z Z Z Z) Z<|dG h λs B h=>fU Z (zB8 HM (rI U s B) Z .nil) Z λK=>bO Z<|Q4 Z<|bQ (s) () h SF .nil (aE.refl _ _)
  exact aD Z<|aD Z<|aD Z<|bT Z<|Q4 Z<|bQ (false) () h SF .nil (aE.refl _ _)
 intro f n h;unfold qR at h;refine aP ?_;cases h;exact gM Z
def Eu (a:V4):V1 V4:=
 some (a)
def rA (U:Nat) (a b c:Int):V1 V4:=
 if b<=a then(Eu (decide (a<=c)))else(Eu (false))
theorem Gr:aX prog 190:=call190
theorem yO {b f d:Int} (r:V4) (h:rA U b f d=some r):
  aZ prog 190 #[vI (b),vI (f),vI (d)] [] (λx:Unit=>vB (r)) (λx l=>l) (λ_ l=>l):=by
 refine aZ.of func190 Z ntmps190 Z λc=>Q3 Z<|aI<|cC (λa=>Eu a=some r) (λa e=>[(6,vB (a))]) (λa e=>[]) ?_ ?_
 .refine aL<|aA Z<|aA Z<|aC (lD Z Z) Z<|aA Z<|mL h Z (λ_ h=>?_) λ_ h=>?_
  .exact bH Z<|bH Z<|aF Z (nH Z Z) Z<|bO Z<|Q4 Z<|cF (decide (b<=d)) () h SF Z
  exact aD Z<|aD Z<|aD Z<|bT Z<|Q4 Z<|cF (false) () h SF Z
 intro a e h;unfold Eu at h;refine aP ?_;cases h;exact gM Z
def mJ (a:V4):V1 V4:=
 some (a)
def zP (d:CJ) (a:V4):V1 V4:=
 if a=true then(Option.bind (rA U d.2.2.2.1 (0:Int) (4096:Int)) λb=>(some (b)))else(Option.bind (rA U d.2.2.2.1 (-4096:Int) (4096:Int)) λc=>(some (c)))
def oH (a:CJ) (b:V4):V1 V4:=
 if b=true then(some (false))else(if a.2.2.2.2.1=(0:Int)then(zP U a (decide (a.2.2.2.2.2=(0:Int))))else(zP U a (false)))
def AP (a:CJ):V1 V4:=
 if a.2.1≠(1:Int)then(Option.bind (DF U a.2.1) λe=>(if e=true then(if a.2.2.1=(0:Int)then(if a.2.2.2.1=(0:Int)then(if a.2.2.2.2.1=(0:Int)then(mJ (decide (a.2.2.2.2.2=(0:Int))))else(mJ (false)))else(mJ (false)))else(mJ (false)))else(mJ (false))))else(Option.bind (rA U a.2.2.1 (0:Int) (4096:Int)) λb=>(if(!b)=true then(oH U a (true))else(Option.bind (rA U a.2.2.2.2.1 (0:Int) (255:Int)) λc=>(if(!c)=true then(oH U a (true))else(Option.bind (rA U a.2.2.2.2.2 (0:Int) (255:Int)) λd=>(if(!d)=true then(oH U a (true))else(if a.2.2.2.2.1≠(0:Int)then(oH U a (decide (a.2.2.2.2.2≠(0:Int))))else(oH U a (false)))))))))
theorem ads:aX prog 192:=call192
theorem Nk {a:CJ} (r:V4) (h:AP U a=some r):
  aZ prog 192 #[Value.agg #[vS (a.1),vI (a.2.1),vI (a.2.2.1),vI (a.2.2.2.1),vI (a.2.2.2.2.1),vI (a.2.2.2.2.2)]] [] (λx:Unit=>vB (r)) (λx l=>l) (λ_ l=>l):=by
 let b:=a.2.2.2.2;refine aZ.of func192 Z ntmps192 Z λc=>aT<|aK (aO.box (cs:=[vS (a.1),vI (a.2.1),vI (a.2.2.1),vI (a.2.2.2.1),vI (b.1),vI (b.2)]) Z Z) Z λp=>let o:=bU p [vS (a.1),vI (a.2.1),vI (a.2.2.1),vI (a.2.2.2.1),vI (b.1),vI (b.2)] 98;Q4 Z<|aI<|aT<|bD Z<|bY 0 Z<|lK Z<|aM ?_
 refine eF h Z (λh=>?_) λh=>?_
 .refine aI<|cC (λk=>mJ k=some r) (λk C=>[(2,vB (k))]) (λk C=>[]) ?_ ?_
  .refine aL<|bD Z<|bY 0 Z<|dG h λD E h=>aK (zB8 adB (PV U D E) Z .nil) Z λK=>aA Z<|iO (by exact rfl) (by exact rfl) (λj=>?_) (λj=>?_)
   .have h:=Bt j h;refine aF Z (bR Z Z Z Z Z) Z<|aF Z (bX 0 Z Z Z Z Z) Z<|aF Z (oV Z Z) Z<|bO Z<|aA Z<|mL h Z (λ_ h=>?_) λ_ h=>?_
    .refine aF Z (bR Z Z Z Z Z) Z<|aF Z (bX 0 Z Z Z Z Z) Z<|aF Z (oV Z Z) Z<|bO Z<|aA Z<|mL h Z (λ_ h=>?_) λ_ h=>?_
     .refine aF Z (bR Z Z Z Z Z) Z<|aF Z (bX 0 Z Z Z Z Z) Z<|aF Z (oV Z Z) Z<|bO Z<|aA Z<|mL h Z (λ_ h=>?_) λ_ h=>?_
      .exact aF Z (bR Z Z Z Z Z) Z<|aF Z (bX 0 Z Z Z Z Z) Z<|aF Z (oV Z Z) Z<|bO Z<|Q4 Z<|bQ (decide (b.2=(0:Int))) () h SF .nil (aE.refl _ _)
      exact aD Z<|aD Z<|aD Z<|bT Z<|Q4 Z<|bQ (false) () h SF .nil (aE.refl _ _)
     exact aD Z<|aD Z<|aD Z<|bT Z<|aA Z<|aD Z<|aD Z<|aD Z<|bT Z<|Q4 Z<|bQ (false) () h SF .nil (aE.refl _ _)
    exact aD Z<|aD Z<|aD Z<|bT Z<|aA Z<|aD Z<|aD Z<|aD Z<|bT Z<|aA Z<|aD Z<|aD Z<|aD Z<|bT Z<|Q4 Z<|bQ (false) () h SF .nil (aE.refl _ _)
   have h:=w_ j h;exact aD Z<|aD Z<|aD Z<|bT Z<|aA Z<|aD Z<|aD Z<|aD Z<|bT Z<|aA Z<|aD Z<|aD Z<|aD Z<|bT Z<|aA Z<|aD Z<|aD Z<|aD Z<|bT Z<|Q4 Z<|bQ (false) () h SF .nil (aE.refl _ _)
  intro k C h;unfold mJ at h;refine aP<|aG ?_;cases h;exact gM Z
 refine bK<|aI<|aI<|cC (λd=>oH U a d=some r) (λd m=>[(1,vP p),(54,vB (d))]) (λd m=>[o]) ?_ ?_
 .refine aL<|bD Z<|bY 0 Z<|dG h λt z h=>aK (zB8 Gr (yO U t z) Z .nil) Z λH=>aC (fF Z) Z<|aA Z<|iO (by exact rfl) (by exact rfl) (λf=>?_) (λf=>?_)
  .have h:=Bt f h;refine aD Z<|aD Z<|aD Z<|aD Z<|bO Z<|aA Z<|aD Z<|aD Z<|aD Z<|aD Z<|bO Z<|aA Z<|aD Z<|aD Z<|aD Z<|aD Z<|Bg (h:= ?_);refine Bg (h:= ?_);refine Bg (h:= ?_);exact aD Z<|bO Z<|aM<|cF (true) () h SF Z
  have h:=w_ f h;refine aF Z (bR Z Z Z Z Z) Z<|aF Z (bX 0 Z Z Z Z Z) Z<|dG h λu A h=>fU Z (zB8 Gr (yO U u A) Z .nil) Z λI=>aF Z (fF Z) Z<|bT Z<|aA Z<|iO (by exact rfl) (by exact rfl) (λg=>?_) (λg=>?_)
  .have h:=Bt g h;refine aD Z<|aD Z<|aD Z<|aD Z<|bO Z<|aA Z<|aD Z<|aD Z<|aD Z<|aD Z<|Bg (h:= ?_);refine Bg (h:= ?_);refine Bg (h:= ?_);exact aD Z<|bO Z<|aM<|cF (true) () h SF Z
  have h:=w_ g h;refine aF Z (bR Z Z Z Z Z) Z<|aF Z (bX 0 Z Z Z Z Z) Z<|dG h λv B h=>fU Z (zB8 Gr (yO U v B) Z .nil) Z λJ=>aF Z (fF Z) Z<|bT Z<|aA Z<|iO (by exact rfl) (by exact rfl) (λi=>?_) (λi=>?_)
  .have h:=Bt i h;refine aD Z<|aD Z<|aD Z<|aD Z<|Bg (h:= ?_);refine Bg (h:= ?_);refine Bg (h:= ?_);exact aD Z<|bO Z<|aM<|cF (true) () h SF Z
  have h:=w_ i h;refine aF Z (bR Z Z Z Z Z) Z<|aF Z (bX 0 Z Z Z Z Z) Z<|aF Z (xH Z Z) Z<|bH Z<|mL h Z (λ_ h=>?_) λ_ h=>?_
  .exact aF Z (bR Z Z Z Z Z) Z<|aF Z (bX 0 Z Z Z Z Z) Z<|aF Z (xH Z Z) Z<|aF Z (wR Z Z) Z<|bT Z<|aM<|cF (decide (b.2≠(0:Int))) () h SF Z
  exact aD Z<|aD Z<|aD Z<|aF Z (sG Z Z) Z<|bT Z<|aM<|cF (false) () h SF Z
 intro d m h;refine iA h Z (λ_ h=>?_) λ_ h=>?_
 .refine Q3 Z<|aP<|aG ?_;cases h;exact mK Z
 refine bK<|aI<|aI<|cC (λe=>zP U a e=some r) (λe n=>[(1,vP p),(62,vB (e))]) (λe n=>[o]) ?_ ?_
 .refine aL<|bD Z<|bY 0 Z<|bP Z<|aA Z<|mL h Z (λ_ h=>?_) λ_ h=>?_
  .exact aF Z (bR Z Z Z Z Z) Z<|aF Z (bX 0 Z Z Z Z Z) Z<|aF Z (oV Z Z) Z<|bO Z<|aM<|cF (decide (b.2=(0:Int))) () h SF Z
  exact aD Z<|aD Z<|aD Z<|bT Z<|aM<|cF (false) () h SF Z
 intro e n h;refine iA h Z (λ_ h=>?_) λ_ h=>?_
 .refine aT<|bD Z<|bY 0 Z<|dG h λq w h=>aK (zB8 Gr (yO U q w) Z .nil) Z λF=>Q4 Z<|aP<|aG ?_;cases h;exact mK Z
 refine bK<|aT<|bD Z<|bY 0 Z<|dG h λs y h=>aK (zB8 Gr (yO U s y) Z .nil) Z λG=>Q4 Z<|aP ?_;cases h;exact mK Z
end Go.Proofs.YtemmagadjnlajaaGreatDoor
namespace Go.Proofs.YtemmagadjnlajaaGreatDoor
open Go Go.Sx
theorem iB {X R:Type} {step:X->(X->V1 R)->V1 R} {K bad:V1 R} (N:Nat) (q:Nat->V4) (F:Nat->X) (d:∀(k:Nat) b,k<N->step (F k) b=if q k=true then b (F (k+1))else bad) (i:∀b,step (F N) b=K) (a:Nat) (j:N<a):
  bG step a (F 0)=if(List.range N).all q=true then K else bad:=by
 obtain⟨e,f⟩:=VF N (λk=>q k=true) F (λk b c h=>by rw[d k b c,if_pos h]) (λk b c h=>by rw[d k b c,if_neg h]) i a j;by_cases h:(List.range N).all q=true
 .rw[if_pos h];exact e λk c=>zA2.1 h k (zAg.2 c)
 .rw[if_neg h];exact f λg=>h (zA2.2 λk c=>g k (zAg.1 c))
theorem ifK {a:Type} {K:V4->a} {c d:V4} {R:a} (h:R=K d):(if c=true then K c else R)=K (c||d):=by
 cases c
 .rw[if_neg Q2,h];rfl
 .rfl
def wdA (p:ByteArray):V4:=((gN p (ByteArray.mk #[112,114,111,103,114,97,109]))||((gN p (ByteArray.mk #[118,97,114]))||((gN p (ByteArray.mk #[114,117,108,101]))||((gN p (ByteArray.mk #[98,111,111,108]))||((gN p (ByteArray.mk #[112,111,114,116]))||((gN p (ByteArray.mk #[116,114,117,101]))||((gN p (ByteArray.mk #[102,97,108,115,101]))||(gN p (ByteArray.mk #[110,111,110,101])))))))))
def wdB (p:ByteArray):V4:=((gN p (ByteArray.mk #[110]))||((gN p (ByteArray.mk #[105,100,115]))||((gN p (ByteArray.mk #[105,100]))||((gN p (ByteArray.mk #[100,101,103]))||((gN p (ByteArray.mk #[114,111,111,116]))||((gN p (ByteArray.mk #[113]))||((gN p (ByteArray.mk #[119,101,105,103,104,116]))||(gN p (ByteArray.mk #[98,97,99,107])))))))))
def wdC (p:ByteArray):V4:=((gN p (ByteArray.mk #[97,108,108]))||((gN p (ByteArray.mk #[115,111,109,101]))||((gN p (ByteArray.mk #[99,111,117,110,116]))||((gN p (ByteArray.mk #[102,105,114,115,116]))||((gN p (ByteArray.mk #[109,105,110]))||((gN p (ByteArray.mk #[109,97,120]))||((gN p (ByteArray.mk #[115,117,109]))||((gN p (ByteArray.mk #[109,101,120]))||((gN p (ByteArray.mk #[115,101,99,111,110,100]))||(gN p (ByteArray.mk #[104,101,97,100])))))))))))
def wd (p:ByteArray):V4:=wdA p||(wdB p||wdC p)
theorem ajU (p:ByteArray) (a:V4):iJ p a=some (a||wdC p):=by
 unfold iJ;have h:∀b,gU b=some b:=λb=>by cases b<;>rfl
 cases a
 .rw[if_neg Q2,Bool.false_or,<-h];unfold wdC
  repeat refine ifK ?_
  rfl
 .rfl
theorem ajT (p:ByteArray) (a:V4):iI p a=some (a||(wdB p||wdC p)):=by
 unfold iI;cases a
 .rw[if_neg Q2,Bool.false_or,<-ajU];unfold wdB
  repeat refine ifK ?_
  rfl
 .rfl
theorem alG (F:Nat) (p:ByteArray):zG F p=some (wd p):=by
 unfold zG wd;rw[<-ajT];unfold wdA
 repeat refine ifK ?_
 rfl
theorem ajz (p:ByteArray) (a:V4):dR p a=some (a||wdC p):=by
 unfold dR;have h:∀b,gV b=some b:=λb=>by cases b<;>rfl
 cases a
 .rw[if_neg Q2,Bool.false_or,<-h];unfold wdC
  repeat refine ifK ?_
  rfl
 .rfl
theorem aly (F:Nat) (p:ByteArray):zI F p=some (wd p):=by
 unfold zI;have e:wd p=((((gN p (ByteArray.mk #[112,114,111,103,114,97,109]))||((gN p (ByteArray.mk #[118,97,114]))||((gN p (ByteArray.mk #[114,117,108,101]))||((gN p (ByteArray.mk #[98,111,111,108]))||((gN p (ByteArray.mk #[112,111,114,116]))||((gN p (ByteArray.mk #[116,114,117,101]))||((gN p (ByteArray.mk #[102,97,108,115,101]))||((gN p (ByteArray.mk #[110,111,110,101]))||((gN p (ByteArray.mk #[110]))||((gN p (ByteArray.mk #[105,100,115]))||((gN p (ByteArray.mk #[105,100]))||((gN p (ByteArray.mk #[100,101,103]))||((gN p (ByteArray.mk #[114,111,111,116]))||((gN p (ByteArray.mk #[113]))||((gN p (ByteArray.mk #[119,101,105,103,104,116]))||(gN p (ByteArray.mk #[98,97,99,107]))))))))))))))))))||wdC p):=by
  unfold wd wdA wdB;simp only[Bool.or_assoc]
 rw[e,<-ajz]
 repeat refine ifK ?_
 rfl
def OD (b:Int):V4:=(decide (97<=b)&&decide (b<=122))||(decide (65<=b)&&decide (b<=90))
def Vv (b:Int):V4:=decide (48<=b)&&decide (b<=57)
def UR (b:Int):V4:=OD b||(Vv b||decide (b=95))
theorem ajK (F:Nat) (b:Int):xT F b=some (OD b):=by
 unfold xT nL OD;by_cases a:97<=b<;>by_cases c:b<=122<;>by_cases d:65<=b<;>simp[a,c,d]
theorem alF (F:Nat) (b:Int):Dx F b=some (Vv b):=by
 unfold Dx xQ Vv;by_cases a:48<=b<;>simp[a]
theorem tIn (F:Nat) (b:Int):BV F b=some (UR b):=by
 unfold BV r_ UR;rw[aY (ajK F b),aY (alF F b)];cases OD b<;>cases Vv b<;>simp
theorem ajw (F:Nat) (b:Int):xU F b=some (OD b):=by
 unfold xU nM OD;by_cases a:97<=b<;>by_cases c:b<=122<;>by_cases d:65<=b<;>simp[a,c,d]
theorem alv (F:Nat) (b:Int):Dy F b=some (Vv b):=by
 unfold Dy yE Vv;by_cases a:48<=b<;>simp[a]
theorem rIn (F:Nat) (b:Int):Dz F b=some (UR b):=by
 unfold Dz tY UR;rw[aY (ajw F b),aY (alv F b)];cases OD b<;>cases Vv b<;>simp
def Uc (p:ByteArray):V4:=decide (1<=p.size)&&decide (p.size<=24)&&OD (PH p 0)&&(List.range p.size).all (λk=>UR (PH p (k:Int))) && !wd p
theorem abN (F:Nat) (p:ByteArray) (d:100<=F):zF F p=some (Uc p):=by
 unfold zF Aj Uc;by_cases a:1<=p.size
 .by_cases b:p.size<=24
  .rw[Q0,Q0,Q6,aY (ajK F _)];have:=iB (step:=Ak F p) (K:=Du F p ()) (bad:=some false) p.size (λk=>UR (PH p (k:Int))) (λk=>(k:Int)) (λk c e=>by
    unfold Ak;rw[Q8,Q6,aY (tIn F _),Q7];cases UR (PH p (k:Int))<;>simp) (λc=>by unfold Ak;rw[Q0]) F V7
   rw[show((0:Nat):Int)=0 from rfl]at this;rw[this];unfold Du;rw[aY (alG F p)];cases OD (PH p 0)<;>cases (List.range p.size).all (λk=>UR (PH p (k:Int)))<;>simp[a,b]
  .rw[Q0,Q8];simp[b]
 .rw[Q8];simp[a]
theorem abz (F:Nat) (p:ByteArray) (i:100<=F):zH F p=some (Uc p):=by
 unfold zH Au Uc;by_cases a:1<=p.size
 .by_cases b:p.size<=24
  .rw[Q0,Q0,Q6,aY (ajw F _)];have:=iB (step:=Av F p) (K:=DV F p ()) (bad:=some false) (p.size - 1) (λk=>UR (PH p ((k+1:Nat):Int))) (λk=>((k+1:Nat):Int)) (λk c j=>by
    unfold Av;rw[Q8,Q6,aY (rIn F _),Q7,show(((k+1:Nat):Int)+1)=((k+1+1:Nat):Int) by omega];cases UR (PH p ((k+1:Nat):Int))<;>simp) (λc=>by unfold Av;rw[Q0]) F V7
   rw[show((0+1:Nat):Int)=1 from rfl]at this;rw[this];unfold DV;rw[aY (aly F p)];have e:(List.range p.size).all (λk=>UR (PH p (k:Int)))=(UR (PH p 0)&&(List.range (p.size - 1)).all (λk=>UR (PH p ((k+1:Nat):Int)))):=by
    obtain⟨m,g⟩:∃m,p.size=m+1:=⟨p.size - 1,V7⟩
    rw[g,List.range_succ_eq_map,Nat.add_sub_cancel,List.all_cons,List.all_map];rfl
   rw[e];have f:OD (PH p 0)=true->UR (PH p 0)=true:=λh=>by unfold UR;rw[h];rfl
   cases d:OD (PH p 0)
   .simp
   .rw[f d];cases (List.range (p.size - 1)).all (λk=>UR (PH p ((k+1:Nat):Int)))<;>simp[a,b]
  .rw[Q0,Q8];simp[b]
 .rw[Q8];simp[a]
abbrev VR:=CJ
theorem XR (F:Nat) (x a b:Int):lU F x a b=some (decide (a<=x)&&decide (x<=b)):=by
 unfold lU wD;by_cases h:a<=x<;>simp[h]
theorem NR (F:Nat) (x a b:Int):rA F x a b=some (decide (a<=x)&&decide (x<=b)):=by
 unfold rA Eu;by_cases h:a<=x<;>simp[h]
def HW (v:VR):V4:=
 if v.2.1≠1 then US v.2.1&&decide (v.2.2.1=0)&&decide (v.2.2.2.1=0)&&decide (v.2.2.2.2.1=0)&&decide (v.2.2.2.2.2=0)
 else decide (0<=v.2.2.1)&&decide (v.2.2.1<=4096)&&decide (0<=v.2.2.2.2.1)&&decide (v.2.2.2.2.1<=255)&&decide (0<=v.2.2.2.2.2)&&decide (v.2.2.2.2.2<=255) &&
  (if v.2.2.2.2.1=0/\v.2.2.2.2.2=0 then decide (0<=v.2.2.2.1)&&decide (v.2.2.2.1<=4096)else(decide (v.2.2.2.2.1=0\/v.2.2.2.2.2=0)&&decide (-4096<=v.2.2.2.1)&&decide (v.2.2.2.1<=4096)))
theorem ajN (F:Nat) (v:VR):AR F v=some (HW v):=by
 have⟨p,k,g,n,a,b⟩:=v;unfold AR oI uM zT qR HW;simp only[ajP,XR,Option.bind_some];by_cases f:k=1
 .subst f;by_cases c:0<=g<;>by_cases d:g<=4096<;>by_cases e:0<=a<;>by_cases h:a<=255<;>by_cases i:0<=b<;>by_cases j:b<=255<;>simp[US,c,d,e,h,i,j]<;>by_cases l:a=0<;>by_cases m:b=0<;>simp[l,m]
 .cases o:US k
  .simp[f]
  .by_cases c:g=0<;>by_cases d:n=0<;>by_cases e:a=0<;>simp[f,c,d,e]
theorem ajx (F:Nat) (v:VR):AP F v=some (HW v):=by
 have⟨p,k,g,n,a,b⟩:=v;unfold AP mJ oH zP HW;simp only[ahO,NR,Option.bind_some];by_cases f:k=1
 .subst f;by_cases c:0<=g<;>by_cases d:g<=4096<;>by_cases e:0<=a<;>by_cases h:a<=255<;>by_cases i:0<=b<;>by_cases j:b<=255<;>simp[US,c,d,e,h,i,j]<;>by_cases l:a=0<;>by_cases m:b=0<;>simp[l,m]
 .cases o:US k
  .simp[f]
  .by_cases c:g=0<;>by_cases d:n=0<;>by_cases e:a=0<;>simp[f,c,d,e]
end Go.Proofs.YtemmagadjnlajaaGreatDoor
namespace Go.Proofs.YtemmagadjnlajaaGreatDoor
open Go.Sx
def yV (a:Unit):V1 V4:=
 some (true)
def CM (d:eY) (a:XW) (b:XU->V1 V4) (c:V4):V1 V4:=
 if c=true then(some (false))else(b ((wI .i64 (a.1+(1:Int))),(zL ((at' d.2.2 a.1).1) true a.2)))
def rJ (c:eY) (a:XW) (b:XU->V1 V4):V1 V4:=
 if a.1<(c.2.2.length:Int)then(ck (0<=a.1/\a.1<(c.2.2.length:Int)) (Option.bind (zF U ((at' c.2.2 a.1).1)) λd=>(if(!d)=true then(CM c a b (true))else(CM c a b ((Option.getD (lM ((at' c.2.2 a.1).1) a.2) false))))))else(yV (()))
def yU (a:eY) (b:Unit):V1 V4:=
 bG (rJ U a) U ((0:Int),([]:V6 (ByteArray×V4)))
def CN (d:eY) (a:XW) (b:XU->V1 V4) (c:V4):V1 V4:=
 if c=true then(some (false))else(b ((wI .i64 (a.1+(1:Int))),(zL ((at' d.2.1 a.1).1) true a.2)))
def rK (c:eY) (a:XW) (b:XU->V1 V4):V1 V4:=
 if a.1<(c.2.1.length:Int)then(ck (0<=a.1/\a.1<(c.2.1.length:Int)) (Option.bind (zF U ((at' c.2.1 a.1).1)) λd=>(if(!d)=true then(CN c a b (true))else(CN c a b ((Option.getD (lM ((at' c.2.1 a.1).1) a.2) false))))))else(yU U c (()))
def DN (a:eY):V1 V4:=
 Option.bind (zF U a.1) λb=>(if(!b)=true then(some (false))else(bG (rK U a) U ((0:Int),([]:V6 (ByteArray×V4)))))
theorem agN:aX prog 98:=call98
theorem Qd (U:Nat) {d:eY} (p n:V0) (r:Bool) (h:DN U d=some r):
  aZ prog 98 #[Value.agg #[vS (d.1),p,n]] [Sl aN p d.2.1,Sl aJ n d.2.2] (λx:Unit=>vB (r)) (λx l=>l) (λ_ l=>l):=by
 refine aZ.of func98 Z ntmps98 Z λc=>?_;refine aT<|aK (aO.box (cs:=[vS (d.1),p,n]) Z Z) Z λs=>aB Z<|aM<|aI<|aT<|bD Z<|bY 0 Z<|dG h λQ R h=>aK (zB8 Rn (Il U Q R) Z .nil) Z λV=>aC (fF Z) Z<|aM ?_;refine iA h Z (λ_ h=>?_) λ_ h=>?_
 .refine aT<|aB Z<|aM<|aP<|aG ?_;cases h;exact mK Z
 refine bK<|aT<|aK (aO.makeMap Ze vBo) Z λH=>aB Z<|aM<|aI<|cC (λG=>yU U d G=some r) (λG P=>[(1,vP s)]) (λG P=>[bU s [vS (d.1),p,n] 25]) ?_ ?_
 .refine aT<|bD Z<|bY 1 Z<|eL (cG Z) Z<|aA Z<|aM<|aU<|eP (rK U d) (λa z=>[(1,vP s),(3,Value.map (some H)),(15,p),(16,vI (d.2.1.length:Int)),(17,vI (a.1))]) (λa z=>[Mp Ze vBo H a.2,bU s [vS (d.1),p,n] 25]) ((0:Int),([]:List (ByteArray×Bool))) () h SF (aW.refl _) ?_;intro K a z h;refine aT<|cX Z<|aM<|aI ?_;refine eF h Z (λh=>?_) λh=>?_
  .refine bK<|aI<|aU<|aT<|eX h λF h=>aC (a_ Z Z (cG Z) Z Z F) Z<|aC (eO (cs:=[vS ((at' d.2.1 a.1).1),vI ((at' d.2.1 a.1).2.1),vI ((at' d.2.1 a.1).2.2.1),vI ((at' d.2.1 a.1).2.2.2.1),vI ((at' d.2.1 a.1).2.2.2.2.1),vI ((at' d.2.1 a.1).2.2.2.2.2)]) Z (cG Z) lL Z Z Z Z F) Z<|aK (aO.alloc (cs:=vD2) Z Z) Z λA=>cO 0 (vs:=[vS ((at' d.2.1 a.1).1),vI ((at' d.2.1 a.1).2.1),vI ((at' d.2.1 a.1).2.2.1),vI ((at' d.2.1 a.1).2.2.2.1),vI ((at' d.2.1 a.1).2.2.2.2.1),vI ((at' d.2.1 a.1).2.2.2.2.2)]) Z Z Z Z Z Z<|aM<|aI<|aI<|cC (λj=>CN d a (bG (rK U d) K) j=some r) (λj C=>[(1,vP s),(3,Value.map (some H)),(5,vP A),(15,p),(16,vI (d.2.1.length:Int)),(17,vI (a.1)),(30,vB (j))]) (λj C=>[bU A [vS ((at' d.2.1 a.1).1),vI ((at' d.2.1 a.1).2.1),vI ((at' d.2.1 a.1).2.2.1),vI ((at' d.2.1 a.1).2.2.2.1),vI ((at' d.2.1 a.1).2.2.2.2.1),vI ((at' d.2.1 a.1).2.2.2.2.2)] 98,Mp Ze vBo H a.2,bU s [vS (d.1),p,n] 25]) ?_ ?_
   .refine aL<|bD Z<|bY 0 Z<|dG h λM O h=>aK (zB8 Rn (Il U M O) Z .nil) Z λT=>aC (fF Z) Z<|aA Z ?_;refine iO (by exact rfl) (by exact rfl) (λm=>?_) (λm=>?_)
    .have h:=Bt m h;refine aD Z<|aD Z<|aD Z<|aD Z<|bO Z<|aM ?_;exact cF (true) () h SF Z
    have h:=w_ m h;refine bH Z<|aF Z (bR Z Z Z Z Z) Z<|aF Z (bX 0 Z Z Z Z Z) Z ?_;refine aF Z (qS 1 ((at' d.2.1 a.1).1) (u:=vB ((Option.getD (lM ((at' d.2.1 a.1).1) a.2) false))) Xw Z Z Z Z Z (by cases lM ((at' d.2.1 a.1).1) a.2<;>rfl)) Z ?_;refine bT Z<|aM ?_;exact cF ((Option.getD (lM ((at' d.2.1 a.1).1) a.2) false)) () h SF Z
   intro j C h;refine iA h Z (λ_ h=>?_) λ_ h=>?_
   .refine aT<|aB Z<|aM<|aP<|aG<|bB<|aG<|aG<|bB<|aG ?_;cases h;exact mK Z
   refine bK<|aL<|aA Z<|bD Z<|bY 0 Z<|Ee 1 ((at' d.2.1 a.1).1) true Xw Z Z Z Z Z<|dK<|jZ<|aL<|cP Z<|aA Z<|aM ?_;exact fI ((wI .i64 (a.1+(1:Int))),(zL ((at' d.2.1 a.1).1) true a.2)) () h SF (aW.ix [1,2] Z Z) (aE.refl _ _)
  refine fK ?_;exact bQ () (()) h SF (aW.ix [1] Z Z) (aE.refl _ _)
 intro G P h;unfold yU at h;refine aT<|aK (aO.makeMap Ze vBo) Z λI=>aB Z<|aM<|aI<|cC (λo=>yV o=some r) (λo t=>[]) (λo t=>[]) ?_ ?_
 .refine aT<|bD Z<|bY 1 Z<|eL (iZ Z) Z<|aA Z<|aM<|aU<|eP (rJ U d) (λb w=>[(6,Value.map (some I)),(37,n),(38,vI (d.2.2.length:Int)),(39,vI (b.1))]) (λb w=>[Mp Ze vBo I b.2]) ((0:Int),([]:List (ByteArray×Bool))) () h SF (aW.ix [0] Z Z) ?_;intro J b w h;refine aT<|cX Z<|aM<|aI ?_;refine eF h Z (λh=>?_) λh=>?_
  .refine bK<|aI<|aU<|aT<|eX h λg h=>aC (a_ Z Z (iZ Z) Z Z g) Z<|xE (v:=n) (ds:=d.2.2) dN (iZ Z) λe=>?_;refine jY (iQ ((yY (fR (f:=bJ) (iZ Z) g.1 (by first|exact g.2|simpa using g.2))):aQ _ _ (Sl aS ((at' e b.1).1) ((at' d.2.2 b.1).2.1)))) ?_;refine jY (iQ ((yZ (fR (f:=bJ) (FA Z) g.1 (by first|exact g.2|simpa using g.2))):aQ _ _ (Sl dZ ((at' e b.1).2) ((at' d.2.2 b.1).2.2)))) ?_;refine aC (sS (cs:=[vS ((at' d.2.2 b.1).1),(at' e b.1).1,(at' e b.1).2]) Z (FA Z) Z Z Z Z ⟨g.1,by first|exact g.2|simpa using g.2⟩) Z<|aK (aO.alloc (cs:=vD3) Z Z) Z λy=>eH (Know.one ((iZ Z))) λD=>eH (Know.one ((cG Z))) λE=>cO 0 (vs:=[vS ((at' d.2.2 b.1).1),(at' e b.1).1,(at' e b.1).2]) Z Z (cI Z (cI D (cI E Z))) Z Z Z<|aM<|aI<|aI<|xD (B:=Unit) (λi=>CM d b (bG (rJ U d) J) i=some r) (λi q=>[(6,Value.map (some I)),(8,Value.pointer (some ⟨y,0,none⟩)),(37,n),(38,vI (d.2.2.length:Int)),(39,vI (b.1)),(52,vB (i))]) (λi q=>[bU y [vS ((at' d.2.2 b.1).1),(at' e b.1).1,(at' e b.1).2] 41,Mp Ze vBo I b.2]) (λi q=>[Sl dZ ((at' e b.1).2) ((at' d.2.2 b.1).2.2),Sl aS ((at' e b.1).1) ((at' d.2.2 b.1).2.1),Rz eQ n e d.2.2,Pw bJ e d.2.2,Sl aN p d.2.1,Sl aJ n d.2.2]) ?_ ?_
   .refine aL<|bD Z<|bY 0 Z<|dG h λL N h=>aK (zB8 Rn (Il U L N) Z .nil) Z λS=>aC (fF Z) Z<|aA Z ?_;refine iO (by exact rfl) (by exact rfl) (λk=>?_) (λk=>?_)
    .have h:=Bt k h;refine aD Z<|aD Z<|aD Z<|aD Z<|bO Z<|aM ?_;exact cF (true) () h SF Z
    have h:=w_ k h;refine bH Z<|aF Z (bR Z Z Z Z Z) Z<|aF Z (bX 0 Z Z Z Z Z) Z ?_;refine aF Z (qS 1 ((at' d.2.2 b.1).1) (u:=vB ((Option.getD (lM ((at' d.2.2 b.1).1) b.2) false))) Xw Z Z Z Z Z (by cases lM ((at' d.2.2 b.1).1) b.2<;>rfl)) Z ?_;refine bT Z<|aM ?_;exact cF ((Option.getD (lM ((at' d.2.2 b.1).1) b.2) false)) () h SF Z
   intro i q h;refine iA h Z (λ_ h=>?_) λ_ h=>?_
   .refine aT<|aB Z<|aM<|aP<|aG<|bB<|aG<|aG<|bB<|aG ?_;cases h;exact mK Z
   refine bK<|aL<|aA Z<|bD Z<|bY 0 Z<|Ee 1 ((at' d.2.2 b.1).1) true Xw Z Z Z Z Z<|dK<|jZ<|aL<|cP Z<|aA Z<|aM ?_;exact fI ((wI .i64 (b.1+(1:Int))),(zL ((at' d.2.2 b.1).1) true b.2)) () h SF (aW.ix [1] Z Z) (gK [4,5] Z)
  refine fK ?_;exact bQ () (()) h SF .nil (aE.refl _ _)
 intro o t h;unfold yV at h;refine aT<|aB Z<|aM<|aP ?_;cases h;exact gM Z
def vX (a:Unit):V1 V4:=
 some (true)
def vY (d:By) (a:Int×(V6 (Int×V4))) (b:(Int×(V6 (Int×V4)))->V1 V4) (c:V4):V1 V4:=
 if c=true then(some (false))else(b ((wI .i64 (a.1+(1:Int))),(zL ((at' d.2.2 a.1).1) true a.2)))
def pU (c:By) (f:Int) (a:Int×(V6 (Int×V4))) (b:(Int×(V6 (Int×V4)))->V1 V4):V1 V4:=
 if a.1<(c.2.2.length:Int)then(ck (0<=a.1/\a.1<(c.2.2.length:Int)) (Option.bind (lU U ((at' c.2.2 a.1).1) (0:Int) (wI .i64 (f - (1:Int)))) λd=>(if(!d)=true then(vY c a b (true))else(if(Option.getD (lM ((at' c.2.2 a.1).1) a.2) false)=true then(vY c a b (true))else(Option.bind (oQ U ((at' c.2.2 a.1).2) f) λe=>(vY c a b ((!e))))))))else(vX (()))
def vW (b:By) (c:Int) (a:V4):V1 V4:=
 if a=true then(some (false))else(bG (pU U b c) U ((0:Int),([]:V6 (Int×V4))))
def Cd (a:By) (b:Int):V1 V4:=
 if(a.2.2.length:Int)=(0:Int)then(vW U a b (true))else(if(6:Int)<(a.2.2.length:Int)then(vW U a b (true))else(Option.bind (oQ U a.2.1 b) λc=>(vW U a b ((!c)))))
theorem acL:aX prog 100:=call100
theorem Pk {b:By} {o:Int} (q n:V0) (r:V4) (h:Cd U b o=some r):
  aZ prog 100 #[Value.agg #[vS (b.1),q,n],vI (o)] [Sl aS q b.2.1,Sl dZ n b.2.2] (λx:Unit=>vB (r)) (λx l=>l) (λ_ l=>l):=by
 let z:=vI (b.2.2.length:Int);refine aZ.of func100 Z ntmps100 Z λc=>aT<|aK (aO.box (cs:=[vS (b.1),q,n]) Z Z) Z λK=>Q4 Z<|aI<|aI<|cC (λs=>vW U b o s=some r) (λs L=>[(1,vI (o)),(2,vP K),(24,vB (s))]) (λs L=>[bU K [vS (b.1),q,n] 41]) ?_ ?_
 .refine aL<|bD Z<|bY 0 Z<|eL (iZ Z) Z<|bP Z<|aA Z<|mL h Z (λ_ h=>?_) λ_ h=>?_
  .exact aD Z<|aD Z<|aD Z<|aD Z<|bO Z<|aA Z<|aD Z<|aD Z<|aD Z<|aD Z<|aD Z<|bO Z<|aM<|cF (true) () h SF Z
  refine aF Z (bR Z Z Z Z Z) Z<|aF Z (bX 0 Z Z Z Z Z) Z<|aF Z (dO Z (iZ Z) Z) Z<|aF Z (mA Z Z) Z<|bT Z<|aA Z<|mL h Z (λ_ h=>?_) λ_ h=>?_
  .exact aD Z<|aD Z<|aD Z<|aD Z<|aD Z<|bO Z<|aM<|cF (true) () h SF Z
  exact aF Z (bR Z Z Z Z Z) Z<|aF Z (bX 0 Z Z Z Z Z) Z<|bH Z<|dG h λC J h=>fU Z (zB8 Rq (Fc U q C J) Z (gK [0] Z)) Z λP=>aF Z (fF Z) Z<|bT Z<|aM<|cF ((!C)) () h SF Z
 intro s L h;refine iA h Z (λ_ h=>?_) λ_ h=>?_
 .refine Q3 Z<|aP<|aG ?_;cases h;exact mK Z
 refine bK<|aT<|aK (aO.makeMap Bn vBo) Z λE=>Q4 Z<|aI<|cC (λD=>vX D=some r) (λD M=>[]) (λD M=>[]) ?_ ?_
 .refine aT<|bD Z<|bY 1 Z<|eL (iZ Z) Z<|aA Z<|aM<|aU<|eP (pU U b o) (λa t=>[(1,vI (o)),(5,Value.map (some E)),(27,n),(28,z),(29,vI (a.1))]) (λa t=>[Mp Bn vBo E a.2]) ((0:Int),([]:V6 (Int×V4))) () h SF (aW.ix [0] Z Z) ?_;intro F a t h;let d:=(at' b.2.2 a.1)
  refine aT<|cX Z<|aM<|aI<|eF h Z (λh=>?_) λh=>?_
  .refine bK<|aI<|aU<|aT<|eX h λm h=>aC (a_ Z Z (iZ Z) Z Z m) Z<|xE (v:=n) (ds:=b.2.2) nF (iZ Z) λe=>let k:=at' e a.1;?_
   refine jY (iQ ((fR (f:=lT) (iZ Z) m.1 m.2):aQ _ _ (Sl aS (k) (d.2))))<|aC (sS (cs:=[vI (d.1),k]) Z (iZ Z) Z Z Z Z m) Z<|aK (aO.alloc (cs:=[vI (0:Int),zU]) Z Z) Z λw=>eH (Know.one ((cG Z))) λy=>cO 0 (vs:=[vI ((at' b.2.2 a.1).1),at' e a.1]) Z Z (cI Z (cI y Z)) Z Z Z<|aM<|aI<|aI<|xD (B:=Unit) (λg=>vY b a (bG (pU U b o) F) g=some r) (λg p=>[(1,vI (o)),(5,Value.map (some E)),(7,Value.pointer (some ⟨w,0,none⟩)),(27,n),(28,z),(29,vI (a.1)),(51,vB (g))]) (λg p=>[bU w [vI (d.1),k] 51,Mp Bn vBo E a.2]) (λg p=>[Sl aS (k) (d.2),Rz Do n e b.2.2,Pw lT e b.2.2,Sl aS q b.2.1,Sl dZ n b.2.2]) ?_ ?_
   .refine aL<|bD Z<|bY 0 Z<|aA Z<|aC (kT Z Z) Z<|dG h λG H h=>aK (zB8 HM (rI U G H) Z .nil) Z λN=>aC (fF Z) Z<|aA Z<|iO (by exact rfl) (by exact rfl) (λi=>?_) (λi=>?_)
    .have h:=Bt i h;exact aD Z<|aD Z<|aD Z<|aD Z<|bO Z<|aA Z<|aD Z<|aD Z<|aD Z<|aD Z<|aD Z<|bO Z<|aM<|cF (true) () h SF Z
    have h:=w_ i h;refine bH Z<|aF Z (bR Z Z Z Z Z) Z<|aF Z (bX 0 Z Z Z Z Z) Z<|aF Z (qS 1 (d.1) (u:=vB ((Option.getD (lM (d.1) a.2) false))) zZ Z Z Z Z Z (by cases lM ((at' b.2.2 a.1).1) a.2<;>rfl)) Z ?_;refine bT Z<|aA Z<|iO (by exact rfl) (by exact rfl) (λj=>?_) (λj=>?_)
    .have h:=Bt j h;exact aD Z<|aD Z<|aD Z<|aD Z<|aD Z<|bO Z<|aM<|cF (true) () h SF Z
    have h:=w_ j h;exact aF Z (bR Z Z Z Z Z) Z<|aF Z (bX 0 Z Z Z Z Z) Z<|bH Z<|dG h λA I h=>fU Z (zB8 Rq (Fc U (k) A I) Z (gK [0] Z)) Z λO=>aF Z (fF Z) Z<|bT Z<|aM<|cF ((!A)) () h SF Z
   intro g p h;refine iA h Z (λ_ h=>?_) λ_ h=>?_
   .refine Q3 Z<|aP<|aG<|bB<|aG<|aG<|bB<|aG ?_;cases h;exact mK Z
   exact bK<|aL<|aA Z<|bD Z<|bY 0 Z<|Ee 1 (d.1) true zZ Z Z Z Z Z<|dK<|jZ<|aL<|cP Z<|aA Z<|aM<|fI ((wI .i64 (a.1+(1:Int))),(zL (d.1) true a.2)) () h SF (aW.ix [1] Z Z) (gK [3,4] Z)
  exact fK<|bQ () (()) h SF .nil (aE.refl _ _)
 intro D M h;unfold vX at h;refine Q3 Z<|aP ?_;cases h;exact gM Z
def CL (a:bN):V1 bN:=
 some (a)
def yT (c:eY) (a:Int×bN) (b:(Int×bN)->V1 bN):V1 bN:=
 if a.1<(c.2.1.length:Int)then(ck (0<=a.1/\a.1<(c.2.1.length:Int)) (ck (0<=a.1/\a.1<(a.2.length:Int)) (b ((wI .i64 (a.1+(1:Int))),(List.set a.2 (Int.toNat a.1) ((at' c.2.1 a.1).2.1))))))else(CL (a.2))
def DL (a:eY):V1 bN:=
 ck (0<=(a.2.1.length:Int)/\(a.2.1.length:Int)<=1099511627) (bG (yT a) U ((0:Int),(List.replicate (Int.toNat (a.2.1.length:Int)) (0:Int))))
theorem acM:aX prog 101:=call101
theorem Qb {d:eY} (m n:V0) (r:bN) (h:DL U d=some r):
  aZ prog 101 #[Value.agg #[vS (d.1),m,n]] [Sl aN m d.2.1,Sl aJ n d.2.2] (λx:V0=>x) (λx l=>Ar cK x r::l) (λ_ l=>l):=by
 refine aZ.of func101 Z ntmps101 Z λc=>aT<|aK (aO.box (cs:=[vS (d.1),m,n]) Z Z) Z λt=>Q4 Z<|aT<|bD Z<|bY 0 Z<|eL (cG Z) Z<|eX h λq h=>aK (oC (e:=cK) (0:Int) Z Z Z Z q Z Z Z) Z λk=>Q4 Z<|aI<|cC (λf=>CL f=some r) (λf o=>[(3,k)]) (λf o=>[Ar cK k f]) ?_ ?_
 .refine aT<|bD Z<|bY 1 Z<|eL (cG Z) Z<|aA Z<|aM<|aU<|eP (yT d) (λa g=>[(3,k),(11,m),(12,vI (d.2.1.length:Int)),(13,vI (a.1))]) (λa g=>[Ar cK k a.2]) ((0:Int),(List.replicate (Int.toNat (d.2.1.length:Int)) (0:Int))) () h SF (aW.ix [0] Z Z) ?_;intro s a g h;let b:=(at' d.2.1 a.1)
  refine aT<|cX Z<|aM<|aI<|eF h Z (λh=>?_) λh=>?_
  .exact bK<|aI<|aU<|Q5 Z<|eX h λi h=>aC (a_ Z Z (cG Z) Z Z i) Z<|aC (eO (cs:=[vS (b.1),vI (b.2.1),vI (b.2.2.1),vI (b.2.2.2.1),vI (b.2.2.2.2.1),vI (b.2.2.2.2.2)]) Z (cG Z) lL Z Z Z Z i) Z<|aK (aO.alloc (cs:=vD2) Z Z) Z λp=>aB Z<|cO 0 (vs:=[vS ((at' d.2.1 a.1).1),vI ((at' d.2.1 a.1).2.1),vI ((at' d.2.1 a.1).2.2.1),vI ((at' d.2.1 a.1).2.2.2.1),vI ((at' d.2.1 a.1).2.2.2.2.1),vI ((at' d.2.1 a.1).2.2.2.2.2)]) Z Z Z Z Z Z<|aM<|aL<|aA Z<|aA Z<|bD Z<|bY 0 Z<|eX h λj h=>aC (a_ Z Z (bL (aQ.res 1 Z) fH) Z Z j) Z<|Hc 1 (b.2.1) j Z Z Z Z Z Z Z<|dK<|jZ<|aL<|cP Z<|aA Z<|aM<|fI ((wI .i64 (a.1+(1:Int))),(List.set a.2 (Int.toNat a.1) (b.2.1))) () h SF (aW.ix [1] Z Z) (aE.refl _ _)
  exact fK<|cF (a.2) () h SF Z
 intro f o h;unfold CL at h;refine Q5 Z<|Q4 Z<|aP ?_;cases h;exact mS (k) Z Z (RV.tmp Z) (aW.refl _) aE.nil
def yS (a:Unit):V1 (Int):=
 some (0:Int)
def uJ (c:eY) (d:bN) (a:Int) (b:(Int)->V1 (Int)):V1 (Int):=
 if a<(c.2.2.length:Int)then(ck (0<=a/\a<(c.2.2.length:Int)) (Option.bind (DO U ((((at' c.2.2 a).1),((at' c.2.2 a).2.1),((at' c.2.2 a).2.2))) d) λe=>(if(!e)=true then(some (6:Int))else(b (wI .i64 (a+(1:Int)))))))else(yS (()))
def CK (a:eY) (c:Unit):V1 (Int):=
 Option.bind (DL U ((a.1,a.2.1,a.2.2))) λb=>(bG (uJ U a b) U (0:Int))
def uK (b:eY) (a:Int) (c:(Int)->V1 (Int)):V1 (Int):=
 if a<(b.2.2.length:Int)then(ck (0<=a/\a<(b.2.2.length:Int)) (Option.bind (Cd U ((((at' b.2.2 a).1),((at' b.2.2 a).2.1),((at' b.2.2 a).2.2))) (b.2.1.length:Int)) λd=>(if(!d)=true then(some (7:Int))else(c (wI .i64 (a+(1:Int)))))))else(CK U b (()))
def yR (b:eY) (a:Unit):V1 (Int):=
 bG (uK U b) U (0:Int)
def uL (b:eY) (a:Int) (c:(Int)->V1 (Int)):V1 (Int):=
 if a<(b.2.1.length:Int)then(ck (0<=a/\a<(b.2.1.length:Int)) (Option.bind (AR U ((((at' b.2.1 a).1),((at' b.2.1 a).2.1),((at' b.2.1 a).2.2.1),((at' b.2.1 a).2.2.2.1),((at' b.2.1 a).2.2.2.2.1),((at' b.2.1 a).2.2.2.2.2)))) λd=>(if(!d)=true then(some (2:Int))else(c (wI .i64 (a+(1:Int)))))))else(yR U b (()))
def yQ (a:eY) (b:V4):V1 (Int):=
 if b=true then(some (3:Int))else(Option.bind (DN U ((a.1,a.2.1,a.2.2))) λc=>(if(!c)=true then(some (5:Int))else(bG (uL U a) U (0:Int))))
def DK (a:eY):V1 (Int):=
 if(a.2.1.length:Int)=(0:Int)then(yQ U a (true))else(if(6:Int)<(a.2.1.length:Int)then(yQ U a (true))else(yQ U a (decide ((12:Int)<(a.2.2.length:Int)))))
theorem agp:aX prog 43:=call43
theorem Qa {a:eY} (B q:V0) (r:Int) (h:DK U a=some r):
  aZ prog 43 #[Value.agg #[vS (a.1),B,q]] [Sl aN B a.2.1,Sl aJ q a.2.2] (λx:Unit=>vI (r)) (λx l=>l) (λ_ l=>l):=by
 let w:=(a.2.2.length:Int)
 refine aZ.of func43 Z ntmps43 Z λc=>aT<|aK (aO.box (cs:=[vS (a.1),B,q]) Z Z) Z λD=>let n:=bU D [vS (a.1),B,q] 25;Q4 Z<|aI<|aI<|cC (λE=>yQ U a E=some r) (λE Y=>[(1,vP D),(25,vB (E))]) (λE Y=>[n]) ?_ ?_
 .refine aL<|bD Z<|bY 0 Z<|eL (cG Z) Z<|bP Z<|aA Z<|mL h Z (λ_ h=>?_) λ_ h=>?_
  .exact aD Z<|aD Z<|aD Z<|aD Z<|bO Z<|aA Z<|aD Z<|aD Z<|aD Z<|aD Z<|bO Z<|aM<|cF (true) () h SF Z
  refine aF Z (bR Z Z Z Z Z) Z<|aF Z (bX 0 Z Z Z Z Z) Z<|aF Z (dO Z (cG Z) Z) Z<|aF Z (mA Z Z) Z<|bT Z<|aA Z<|mL h Z (λ_ h=>?_) λ_ h=>?_
  .exact aD Z<|aD Z<|aD Z<|aD Z<|bO Z<|aM<|cF (true) () h SF Z
  exact aF Z (bR Z Z Z Z Z) Z<|aF Z (bX 0 Z Z Z Z Z) Z<|aF Z (dO Z (iZ Z) Z) Z<|aF Z (mA Z Z) Z<|bT Z<|aM<|cF (decide ((12:Int)<w)) () h SF Z
 intro E Y h;refine iA h Z (λ_ h=>?_) λ_ h=>?_
 .refine Q3 Z<|aP<|aG ?_;cases h;exact mK Z
 refine bK<|aI<|aT<|fQ 0 Z<|dG h λr6 w7 h=>aK (zB8 agN (Qd U B q r6 w7) Z (gK [0,1] Z)) Z λx8=>aC (fF Z) Z<|aM<|iA h Z (λ_ h=>?_) λ_ h=>?_
 .refine Q3 Z<|aP<|aG ?_;cases h;exact mK Z
 refine bK<|aI<|cC (λs=>yR U a s=some r) (λs F=>[(1,vP D)]) (λs F=>[n]) ?_ ?_
 .refine aT<|bD Z<|bY 0 Z<|eL (cG Z) Z<|aA Z<|aM<|aU<|eP (uL U a) (λb K=>[(1,vP D),(30,B),(31,vI (a.2.1.length:Int)),(32,vI (b))]) (λb K=>[n]) (0:Int) () h SF (aW.refl _) ?_;intro af b K h;let j:=(at' a.2.1 b)
  refine aT<|cX Z<|aM<|aI<|eF h Z (λh=>?_) λh=>?_
  .refine bK<|aI<|aU<|aT<|eX h λP h=>aC (a_ Z Z (cG Z) Z Z P) Z<|aC (eO (cs:=[vS (j.1),vI (j.2.1),vI (j.2.2.1),vI (j.2.2.2.1),vI (j.2.2.2.2.1),vI (j.2.2.2.2.2)]) Z (cG Z) lL Z Z Z Z P) Z<|aK (aO.alloc (cs:=vD2) Z Z) Z λac=>cO 0 (vs:=[vS ((at' a.2.1 b).1),vI ((at' a.2.1 b).2.1),vI ((at' a.2.1 b).2.2.1),vI ((at' a.2.1 b).2.2.2.1),vI ((at' a.2.1 b).2.2.2.2.1),vI ((at' a.2.1 b).2.2.2.2.2)]) Z Z Z Z Z Z<|aM<|aT<|fQ 0 Z<|dG h λS X h=>aK (zB8 agO (Nm U S X) Z .nil) Z λai=>aC (fF Z) Z<|aM<|iA h Z (λ_ h=>?_) λ_ h=>?_
   .refine Q3 Z<|aP<|bB<|aG<|aG<|bB<|aG ?_;cases h;exact mK Z
   exact cZ<|jZ<|aL<|cP Z<|aA Z<|aM<|fI (wI .i64 (b+(1:Int))) () h SF (aW.ix [1] Z Z) (aE.refl _ _)
  exact fK<|cF () (()) h SF Z
 intro s F h;unfold yR at h;refine aI<|cC (λt=>CK U a t=some r) (λt G=>[(1,vP D)]) (λt G=>[n]) ?_ ?_
 .refine aT<|bD Z<|bY 0 Z<|eL (iZ Z) Z<|aA Z<|aM<|aU<|eP (uK U a) (λe J=>[(1,vP D),(41,q),(42,vI w),(43,vI (e))]) (λe J=>[n]) (0:Int) () h SF (aW.refl _) ?_;intro ae e J h;let y:=(at' a.2.2 e)
  refine aT<|cX Z<|aM<|aI<|eF h Z (λh=>?_) λh=>?_
  .refine bK<|aI<|aU<|aT<|eX h λi h=>aC (a_ Z Z (iZ Z) Z Z i) Z<|xE (v:=q) (ds:=a.2.2) dN (iZ Z) λp=>let k:=(at' p e);?_
   refine jY (iQ ((yY (fR (f:=bJ) (iZ Z) i.1 i.2)):aQ _ _ (Sl aS (k.1) (y.2.1))))<|jY (iQ ((yZ (fR (f:=bJ) (FA Z) i.1 i.2)):aQ _ _ (Sl dZ (k.2) (y.2.2))))<|aC (sS (cs:=[vS (y.1),k.1,k.2]) Z (FA Z) Z Z Z Z i) Z<|aK (aO.alloc (cs:=vD3) Z Z) Z λab=>eH (Know.one ((iZ Z))) λN=>eH (Know.one ((cG Z))) λO=>cO 0 (vs:=[vS ((at' a.2.2 e).1),(at' p e).1,(at' p e).2]) Z Z (cI Z (cI N (cI O Z))) Z Z Z<|aM<|aT<|fQ 0 Z<|bD Z<|bY 1 Z<|eL (Bl Z) Z<|dG h λR W h=>aK (zB8 acL (Pk U (k.1) (k.2) R W) Z (gK [1,0] Z)) Z λah=>aC (fF Z) Z<|aM<|iA h Z (λ_ h=>?_) λ_ h=>?_
   .refine Q3 Z<|aP<|bB<|aG<|aG<|bB<|aG ?_;cases h;exact mK Z
   exact cZ<|jZ<|aL<|cP Z<|aA Z<|aM<|fI (wI .i64 (e+(1:Int))) () h SF (aW.ix [1] Z Z) (gK [4,5] Z)
  exact fK<|cF () (()) h SF Z
 intro t G h;refine aT<|fQ 0 Z<|dG h λA T h=>aK (zB8 acM (Qb U B q A T) Z (gK [0,1] Z)) Z λC=>Q4 Z<|aI<|cC (λu=>yS u=some r) (λu H=>[]) (λu H=>[]) ?_ ?_
 .refine aT<|bD Z<|bY 1 Z<|eL (iZ Z) Z<|aA Z<|aM<|aU<|eP (uJ U a A) (λd I=>[(7,C),(57,q),(58,vI w),(59,vI (d))]) (λd I=>[Ar cK C A]) (0:Int) () h SF (aW.ix [0] Z Z) ?_;intro ad d I h;let z:=(at' a.2.2 d)
  refine aT<|cX Z<|aM<|aI<|eF h Z (λh=>?_) λh=>?_
  .refine bK<|aI<|aU<|aT<|eX h λg h=>aC (a_ Z Z (iZ Z) Z Z g) Z<|xE (v:=q) (ds:=a.2.2) dN (iZ Z) λo=>let m:=(at' o d);?_
   refine jY (iQ ((yY (fR (f:=bJ) (iZ Z) g.1 g.2)):aQ _ _ (Sl aS (m.1) (z.2.1))))<|jY (iQ ((yZ (fR (f:=bJ) (FA Z) g.1 g.2)):aQ _ _ (Sl dZ (m.2) (z.2.2))))<|aC (sS (cs:=[vS (z.1),m.1,m.2]) Z (FA Z) Z Z Z Z g) Z<|aK (aO.alloc (cs:=vD3) Z Z) Z λaa=>eH (Know.one ((iZ Z))) λL=>eH (Know.one ((cG Z))) λM=>cO 0 (vs:=[vS ((at' a.2.2 d).1),(at' o d).1,(at' o d).2]) Z Z (cI Z (cI L (cI M Z))) Z Z Z<|aM<|aT<|fQ 0 Z<|aA Z<|dG h λQ V h=>aK (zB8 acN (Qe U (m.1) (m.2) C Q V) Z (aE.cons (iZ Z) (aE.cons (cG Z) (aE.cons (bL (aQ.res 1 Z) fH) .nil)))) Z λag=>aC (fF Z) Z<|aM<|iA h Z (λ_ h=>?_) λ_ h=>?_
   .refine Q3 Z<|aP<|bB<|aG<|aG<|bB<|aG ?_;cases h;exact mK Z
   exact cZ<|jZ<|aL<|cP Z<|aA Z<|aM<|fI (wI .i64 (d+(1:Int))) () h SF (aW.ix [1] Z Z) (gK [4,5] Z)
  exact fK<|bQ () (()) h SF .nil (aE.refl _ _)
 intro u H h;unfold yS at h;refine Q3 Z<|aP ?_;cases h;exact gM Z
def mP (a:eY):V1 V4:=
 Option.bind (DK U ((a.1,a.2.1,a.2.2))) λb=>(some (decide (b=(0:Int))))
theorem agH:aX prog 77:=call77
theorem Qc {a:eY} (b d:V0) (r:V4) (h:mP U a=some r):
  aZ prog 77 #[Value.agg #[vS (a.1),b,d]] [Sl aN b a.2.1,Sl aJ d a.2.2] (λx:Unit=>vB (r)) (λx l=>l) (λ_ l=>l):=by
 refine aZ.of func77 Z ntmps77 Z λc=>aT<|aK (aO.box (cs:=[vS (a.1),b,d]) Z Z) Z λg=>Q4 Z<|aT<|fQ 0 Z<|dG h λe f h=>aK (zB8 agp (Qa U b d e f) Z (gK [0,1] Z)) Z λi=>bP Z<|Q4 Z<|aP ?_;cases h;exact mK Z
def yK (a:Unit):V1 V4:=
 some (true)
def Cp (d:eY) (a:Int) (b:(Int)->V1 V4) (e:Unit):V1 V4:=
 ck (0<=a/\a<(d.2.2.length:Int)) (Option.bind (zH U ((at' d.2.2 a).1)) λc=>(if(!c)=true then(some (false))else(b (wI .i64 (a+(1:Int))))))
def uD (e:eY) (a:Int) (c:(Int)->V1 V4) (b:Int) (d:(Int)->V1 V4):V1 V4:=
 if b<a then(ck (0<=b/\b<(e.2.2.length:Int)) (ck (0<=a/\a<(e.2.2.length:Int)) (if(gN ((at' e.2.2 b).1) ((at' e.2.2 a).1))=true then(some (false))else(d (wI .i64 (b+(1:Int)))))))else(Cp U e a c (()))
def pJ (c:eY) (a:Int) (b:(Int)->V1 V4):V1 V4:=
 if a<(c.2.2.length:Int)then(bG (uD U c a b) U (0:Int))else(yK (()))
def yJ (a:eY) (b:Unit):V1 V4:=
 bG (pJ U a) U (0:Int)
def Cq (d:eY) (a:Int) (b:(Int)->V1 V4) (e:Unit):V1 V4:=
 ck (0<=a/\a<(d.2.1.length:Int)) (Option.bind (zH U ((at' d.2.1 a).1)) λc=>(if(!c)=true then(some (false))else(b (wI .i64 (a+(1:Int))))))
def uE (e:eY) (a:Int) (c:(Int)->V1 V4) (b:Int) (d:(Int)->V1 V4):V1 V4:=
 if b<a then(ck (0<=b/\b<(e.2.1.length:Int)) (ck (0<=a/\a<(e.2.1.length:Int)) (if(gN ((at' e.2.1 b).1) ((at' e.2.1 a).1))=true then(some (false))else(d (wI .i64 (b+(1:Int)))))))else(Cq U e a c (()))
def pK (c:eY) (a:Int) (b:(Int)->V1 V4):V1 V4:=
 if a<(c.2.1.length:Int)then(bG (uE U c a b) U (0:Int))else(yJ U c (()))
def DG (a:eY):V1 V4:=
 Option.bind (zH U a.1) λb=>(if(!b)=true then(some (false))else(bG (pK U a) U (0:Int)))
theorem adr:aX prog 191:=call191
theorem PW (U:Nat) {d:eY} (F G:V0) (r:Bool) (h:DG U d=some r):
  aZ prog 191 #[Value.agg #[vS (d.1),F,G]] [Sl aN F d.2.1,Sl aJ G d.2.2] (λx:Unit=>vB (r)) (λx l=>l) (λ_ l=>l):=by
 refine aZ.of func191 Z ntmps191 Z λc=>?_;refine aT<|aK (aO.box (cs:=[vS (d.1),F,G]) Z Z) Z λk=>let e:=bU k [vS (d.1),F,G] 25;aB Z<|aM<|aI<|aT<|bD Z<|bY 0 Z<|dG h λP Q h=>aK (zB8 Rp (Im U P Q) Z .nil) Z λT=>aC (fF Z) Z<|aM ?_
 refine iA h Z (λ_ h=>?_) λ_ h=>?_
 .refine aT<|aB Z<|aM<|aP<|aG ?_;cases h;exact mK Z
 refine bK<|aI<|cC (λD=>yJ U d D=some r) (λD L=>[(1,vP k)]) (λD L=>[e]) ?_ ?_
 .refine aT<|aB Z<|aM<|aU<|eP (pK U d) (λb p=>[(1,vP k),(3,vI (b))]) (λb p=>[e]) (0:Int) () h SF (aW.refl _) ?_;intro C b p h;refine aI<|aT<|aA Z<|bD Z<|bY 0 Z<|eL (cG Z) Z<|cX Z<|aM ?_;refine eF h Z (λh=>?_) λh=>?_
  .refine bK<|aI<|aU<|aI<|cC (λi=>Cq U d b (bG (pK U d) C) i=some r) (λi q=>[(1,vP k),(3,vI (b))]) (λi q=>[e]) ?_ ?_
   .refine aT<|aB Z<|aM<|aU<|eP (uE U d b (bG (pK U d) C)) (λj s=>[(1,vP k),(3,vI (b)),(4,vI (j))]) (λj s=>[e]) (0:Int) () h SF (aW.refl _) ?_;intro O j s h;refine aI<|aT<|aA Z<|aA Z<|cX Z<|aM ?_;refine eF h Z (λh=>?_) λh=>?_
    .refine bK<|aI<|aU<|aI ?_;refine xP [0,1,0,7,15,31,0,64,0,448,960,1984,4095] 12 mixedOrders ?_;refine dA Z<|iH 0 Z<|bE Z<|eX h λy h=>bI Z .nil (jP 0 Z) (a_ Z Z (cG Z) Z Z y) aR.z<|iD Z (cB Z Z Z Z Z)<|bI Z .nil (jP 0 Z) (fW Z (cG Z) Z Z Z rO y) aR.z<|dA Z<|iH 0 Z<|bE Z<|eX h λA h=>bI Z .nil (jP 0 Z) (a_ Z Z (cG Z) Z Z A) aR.z<|iD Z (cB Z Z Z Z Z)<|bI Z .nil (jP 0 Z) (fW Z (cG Z) Z Z Z rO A) aR.z<|bS 12 Z Z<|aC (fV Z Z) Z<|aM ?_;refine iA h Z (λ_ h=>?_) λ_ h=>?_
     .refine aT<|aB Z<|aM<|aP<|bB<|aG<|aG<|bB<|aG<|bB<|aG<|aG<|bB<|aG ?_;cases h;exact mK Z
     refine cZ<|jZ<|aL<|aA Z<|cP Z<|aB Z<|aM ?_;exact Ac (wI .i64 (j+(1:Int))) () h SF Z
    refine fK ?_;exact cF () (()) h SF Z
   intro i q h;refine aT<|bD Z<|bY 0 Z<|aA Z<|eX h λw h=>aC (a_ Z Z (cG Z) Z Z w) Z<|aC (cB Z Z Z Z Z) Z<|aC (fW Z (cG Z) Z Z Z rO w) Z<|dG h λI K h=>aK (zB8 Rp (Im U I K) Z .nil) Z λS=>aC (fF Z) Z<|aM ?_;refine iA h Z (λ_ h=>?_) λ_ h=>?_
   .refine aT<|aB Z<|aM<|aP<|bB<|aG<|aG<|bB<|aG ?_;cases h;exact mK Z
   refine cZ<|jZ<|aL<|aA Z<|cP Z<|aB Z<|aM ?_;exact Ac (wI .i64 (b+(1:Int))) () h SF Z
  refine fK ?_;exact cF () (()) h SF Z
 intro D L h;unfold yJ at h;refine aI<|cC (λE=>yK E=some r) (λE M=>[]) (λE M=>[]) ?_ ?_
 .refine aT<|aB Z<|aM<|aU<|eP (pJ U d) (λa m=>[(1,vP k),(5,vI (a))]) (λa m=>[e]) (0:Int) () h SF (aW.refl _) ?_;intro B a m h;refine aI<|aT<|aA Z<|bD Z<|bY 0 Z<|eL (iZ Z) Z<|cX Z<|aM ?_;refine eF h Z (λh=>?_) λh=>?_
  .refine bK<|aI<|aU<|aI<|cC (λf=>Cp U d a (bG (pJ U d) B) f=some r) (λf n=>[(1,vP k),(5,vI (a))]) (λf n=>[e]) ?_ ?_
   .refine aT<|aB Z<|aM<|aU<|eP (uD U d a (bG (pJ U d) B)) (λg o=>[(1,vP k),(5,vI (a)),(6,vI (g))]) (λg o=>[e]) (0:Int) () h SF (aW.refl _) ?_;intro N g o h;refine aI<|aT<|aA Z<|aA Z<|cX Z<|aM ?_;refine eF h Z (λh=>?_) λh=>?_
    .refine bK<|aI<|aU<|aI ?_;refine xP [0,1,0,7,15,31,0,64,0,448,960,1984,4095] 12 mixedOrders ?_;refine dA Z<|iH 0 Z<|bE Z<|eX h λu h=>bI Z .nil (jP 1 Z) (a_ Z Z (cG Z) Z Z u) aR.z<|iD Z (cB Z Z Z Z Z)<|bI Z .nil (jP 1 Z) (fW Z (cG Z) Z Z Z qA u) aR.z<|dA Z<|iH 0 Z<|bE Z<|eX h λv h=>bI Z .nil (jP 1 Z) (a_ Z Z (cG Z) Z Z v) aR.z<|iD Z (cB Z Z Z Z Z)<|bI Z .nil (jP 1 Z) (fW Z (cG Z) Z Z Z qA v) aR.z<|bS 12 Z Z<|aC (fV Z Z) Z<|aM ?_;refine iA h Z (λ_ h=>?_) λ_ h=>?_
     .refine aT<|aB Z<|aM<|aP<|bB<|aG<|aG<|bB<|aG<|bB<|aG<|aG<|bB<|aG ?_;cases h;exact mK Z
     refine cZ<|jZ<|aL<|aA Z<|cP Z<|aB Z<|aM ?_;exact Ac (wI .i64 (g+(1:Int))) () h SF Z
    refine fK ?_;exact cF () (()) h SF Z
   intro f n h;refine aT<|bD Z<|bY 0 Z<|aA Z<|eX h λt h=>aC (a_ Z Z (iZ Z) Z Z t) Z<|aC (cB Z Z Z Z Z) Z<|aC (fW Z (iZ Z) Z Z Z qA t) Z<|dG h λH J h=>aK (zB8 Rp (Im U H J) Z .nil) Z λR=>aC (fF Z) Z<|aM ?_;refine iA h Z (λ_ h=>?_) λ_ h=>?_
   .refine aT<|aB Z<|aM<|aP<|bB<|aG<|aG<|bB<|aG ?_;cases h;exact mK Z
   refine cZ<|jZ<|aL<|aA Z<|cP Z<|aB Z<|aM ?_;exact Ac (wI .i64 (a+(1:Int))) () h SF Z
  refine fK ?_;exact bQ () (()) h SF .nil (aE.refl _ _)
 intro E M h;unfold yK at h;refine aT<|aB Z<|aM<|aP ?_;cases h;exact gM Z
def vM (a:Unit):V1 V4:=
 some (true)
def vN (a:Int) (b:(Int)->V1 V4) (c:Unit):V1 V4:=
 b (wI .i64 (a+(1:Int)))
def sD (d:By) (a:Int) (e:(Int)->V1 V4) (b:Int) (c:(Int)->V1 V4):V1 V4:=
 if b<a then(ck (0<=b/\b<(d.2.2.length:Int)) (ck (0<=a/\a<(d.2.2.length:Int)) (if((at' d.2.2 b).1)=((at' d.2.2 a).1)then(some (false))else(c (wI .i64 (b+(1:Int)))))))else(vN a e (()))
def Bc (d:By) (a:Int) (c:(Int)->V1 V4) (b:V4):V1 V4:=
 if b=true then(some (false))else(bG (sD d a c) U (0:Int))
def lX (b:By) (f a:Int) (c:(Int)->V1 V4):V1 V4:=
 if a<(b.2.2.length:Int)then(ck (0<=a/\a<(b.2.2.length:Int)) (Option.bind (rA U ((at' b.2.2 a).1) (0:Int) (wI .i64 (f - (1:Int)))) λd=>(if(!d)=true then(Bc U b a c (true))else(ck (0<=a/\a<(b.2.2.length:Int)) (Option.bind (qI U ((at' b.2.2 a).2) f) λe=>(Bc U b a c ((!e))))))))else(vM (()))
def Bb (b:By) (c:Int) (a:V4):V1 V4:=
 if a=true then(some (false))else(bG (lX U b c) U (0:Int))
def B_ (a:By) (b:Int):V1 V4:=
 Option.bind (rA U (a.2.2.length:Int) (1:Int) (6:Int)) λc=>(if(!c)=true then(Bb U a b (true))else(Option.bind (qI U a.2.1 b) λd=>(Bb U a b ((!d)))))
theorem adt:aX prog 193:=call193
theorem Pd (U:Nat) {b:By} {j:Int} (F G:V0) (r:Bool) (h:B_ U b j=some r):
  aZ prog 193 #[Value.agg #[vS (b.1),F,G],vI (j)] [Sl aS F b.2.1,Sl dZ G b.2.2] (λx:Unit=>vB (r)) (λx l=>l) (λ_ l=>l):=by
 refine aZ.of func193 Z ntmps193 Z λc=>?_;refine aT<|aK (aO.box (cs:=[vS (b.1),F,G]) Z Z) Z λq=>let i:=bU q [vS (b.1),F,G] 41;aB Z<|aM<|aI<|aI<|cC (λs=>Bb U b j s=some r) (λs P=>[(1,vI (j)),(2,vP q),(18,vB (s))]) (λs P=>[i]) ?_ ?_
 .refine aL<|bD Z<|bY 0 Z<|eL (iZ Z) Z<|dG h λK N h=>aK (zB8 Gr (yO U K N) Z .nil) Z λV=>aC (fF Z) Z<|aA Z ?_;refine iO (by exact rfl) (by exact rfl) (λg=>?_) (λg=>?_)
  .have h:=Bt g h;refine aD Z<|aD Z<|aD Z<|aD Z<|aD Z<|bO Z<|aM ?_;exact cF (true) () h SF Z
  have h:=w_ g h;refine aF Z (bR Z Z Z Z Z) Z<|aF Z (bX 0 Z Z Z Z Z) Z<|bH Z<|dG h λE O h=>fU Z (zB8 WY (Kf U F E O) Z (gK [0] Z)) Z λW=>aF Z (fF Z) Z<|bT Z<|aM ?_;exact cF ((!E)) () h SF Z
 intro s P h;refine iA h Z (λ_ h=>?_) λ_ h=>?_
 .refine aT<|aB Z<|aM<|aP<|aG ?_;cases h;exact mK Z
 refine bK<|aI<|cC (λH=>vM H=some r) (λH Q=>[]) (λH Q=>[]) ?_ ?_
 .refine aT<|aB Z<|aM<|aU<|eP (lX U b j) (λa t=>[(1,vI (j)),(2,vP q),(5,vI (a))]) (λa t=>[i]) (0:Int) () h SF (aW.refl _) ?_;intro I a t h;let p:=(bG (lX U b j) I)
  refine aI<|aT<|aA Z<|bD Z<|bY 0 Z<|eL (iZ Z) Z<|cX Z<|aM ?_;refine eF h Z (λh=>?_) λh=>?_
  .refine bK<|aI<|cC (λk=>vN a p k=some r) (λk u=>[(1,vI (j)),(2,vP q),(5,vI (a))]) (λk u=>[i]) ?_ ?_
   .refine aU<|aI<|aI<|cC (λd=>Bc U b a p d=some r) (λd w=>[(1,vI (j)),(2,vP q),(5,vI (a)),(46,vB (d))]) (λd w=>[i]) ?_ ?_
    .refine aL<|bD Z<|bY 0 Z<|aA Z<|eX h λC h=>aC (a_ Z Z (iZ Z) Z Z C) Z<|aC (cB Z Z Z Z Z) Z<|aC (fW Z (iZ Z) Z Z Z AD C) Z<|aA Z<|aC (kT Z Z) Z<|dG h λJ L h=>aK (zB8 Gr (yO U J L) Z .nil) Z λS=>aC (fF Z) Z<|aA Z ?_;refine iO (by exact rfl) (by exact rfl) (λe=>?_) (λe=>?_)
     .have h:=Bt e h;refine aD Z<|aD Z<|aD Z<|aD Z<|aD Z<|aD Z<|aD Z<|aD Z<|aD Z<|bO Z<|aM ?_;exact cF (true) () h SF Z
     have h:=w_ e h;refine aF Z (bR Z Z Z Z Z) Z<|aF Z (bX 0 Z Z Z Z Z) Z<|bH Z<|eX h λn h=>aF Z (a_ Z Z (iZ Z) Z Z n) Z<|aF Z (cB Z Z Z Z Z) Z<|xE (v:=G) (ds:=b.2.2) nF (iZ Z) λo=>?_;refine jY (iQ ((fR (f:=lT) (iZ Z) n.1 n.2):aQ _ _ (Sl aS (at' o a) ((at' b.2.2 a).2)))) ?_;refine aF Z (sZ (gv:=λx=>x) Z (iZ Z) Z Z Z AF n) Z<|bH Z<|dG h λD M h=>fU Z (zB8 WY (Kf U (at' o a) D M) Z (gK [0] Z)) Z λT=>aF Z (fF Z) Z<|bT Z<|aM ?_;exact bQ ((!D)) () h SF (aW.refl _) (gK [3,4] Z)
    intro d w h;refine iA h Z (λ_ h=>?_) λ_ h=>?_
    .refine aT<|aB Z<|aM<|aP<|aG<|bB<|aG<|aG<|bB<|aG ?_;cases h;exact mK Z
    refine bK<|aT<|aB Z<|aM<|aU<|eP (sD b a p) (λm y=>[(1,vI (j)),(2,vP q),(5,vI (a)),(6,vI (m))]) (λm y=>[i]) (0:Int) () h SF (aW.refl _) ?_;intro R m y h;refine aI<|aT<|aA Z<|aA Z<|cX Z<|aM ?_;refine eF h Z (λh=>?_) λh=>?_
    .refine bK<|aI<|aU<|aI ?_;refine xP [0,1,0,7,15,31,0,64,0,448,960,1984,4095] 12 mixedOrders ?_;refine dA Z<|iH 0 Z<|bE Z<|eX h λA h=>bI Z .nil (jP 1 Z) (a_ Z Z (cG Z) Z Z A) aR.z<|iD Z (cB Z Z Z Z Z)<|bI Z .nil (jP 1 Z) (fW Z (cG Z) Z Z Z AD A) aR.z<|dA Z<|iH 0 Z<|bE Z<|eX h λB h=>bI Z .nil (jP 1 Z) (a_ Z Z (cG Z) Z Z B) aR.z<|iD Z (cB Z Z Z Z Z)<|bI Z .nil (jP 1 Z) (fW Z (cG Z) Z Z Z AD B) aR.z<|bS 12 Z Z<|bP Z<|aM ?_;refine eF h Z (λh=>?_) λh=>?_
     .refine aT<|aB Z<|aM<|aP<|bB<|aG<|aG<|bB<|bB<|aG<|aG<|bB<|aG ?_;cases h;exact mK Z
     refine cZ<|jZ<|aL<|aA Z<|cP Z<|aB Z<|aM ?_;exact Ac (wI .i64 (m+(1:Int))) () h SF Z
    refine uS<|gY<|gY<|BC<|jZ ?_;exact cF () (()) h SF Z
   intro k u h;unfold vN at h;refine aL<|aA Z<|cP Z<|aB Z<|aM ?_;exact Ac (wI .i64 (a+(1:Int))) () h SF Z
  refine fK ?_;exact bQ () (()) h SF .nil (aE.refl _ _)
 intro H Q h;unfold vM at h;refine aT<|aB Z<|aM<|aP ?_;cases h;exact gM Z
def Co (a:bN):V1 bN:=
 some (a)
def yI (b:eY) (a:bN×Int) (c:EK->V1 bN):V1 bN:=
 if a.2<(b.2.1.length:Int)then(ck (0<=a.2/\a.2<(b.2.1.length:Int)) (ck ((a.1.length:Int)+(List.length ([((at' b.2.1 a.2).2.1)]):Int)<=1099511627) (c ((a.1++([((at' b.2.1 a.2).2.1)])),(wI .i64 (a.2+(1:Int)))))))else(Co (a.1))
def An (a:eY):V1 bN:=
 bG (yI a) U (([]:bN),(0:Int))
theorem adv:aX prog 195:=call195
theorem PT {f:eY} (k m:V0) (r:bN) (h:An U f=some r):
  aZ prog 195 #[Value.agg #[vS (f.1),k,m]] [Sl aN k f.2.1,Sl aJ m f.2.2] (λx:V0=>x) (λx l=>Ar cK x r::l) (λ_ l=>l):=by
 refine aZ.of func195 Z ntmps195 Z λc=>?_;unfold An at h;refine aT<|aK (aO.box (cs:=[vS (f.1),k,m]) Z Z) Z λp=>Q4 Z<|Q3 Z<|aI<|JK (B:=V0) (λg=>Co g=some r) (λg i=>[(3,i)]) (λg i=>[Ar cK i g]) ?_ ?_
 .refine Q3 Z<|aU<|jY (qL cK)<|eP (B:=V0) (yI f) (λa b=>[(1,vP p),(3,b),(4,vI (a.2))]) (λa b=>[bU p [vS (f.1),k,m] 25,Ar cK b a.1]) (([]:bN),(0:Int)) (zU) h SF (aW.ix [1,0] Z Z) ?_;intro q a b h;let d:=(at' f.2.1 a.2)
  refine aI<|Q5 Z<|bD Z<|bY 0 Z<|eL (cG Z) Z<|cX Z<|aM<|eF h Z (λh=>?_) λh=>?_
  .exact bK<|aI<|aU<|aL<|aA Z<|bD Z<|bY 0 Z<|aA Z<|eX h λj h=>aC (a_ Z Z (cG Z) Z Z j) Z<|aC (cB Z Z Z Z Z) Z<|aC (fW Z (cG Z) Z Z Z nU j) Z<|aK (fX (e:=cK) ([(d.2.1)]) [(0,vI (d.2.1))] Z Z Z Z (vG (vI (d.2.1)) Z) Z Z Z) Z λs=>eX h λn h=>aK (sF 2 fH Z Z Z (bL (aQ.res 0 Z) fH) Z Z Z Z n Z) Z λo=>aB Z<|dK<|jZ<|aL<|aA Z<|cP Z<|Q4 Z<|fI ((a.1++([(d.2.1)])),(wI .i64 (a.2+(1:Int)))) (o) h SF (aW.ix [1,2] Z Z) (aE.refl _ _)
  exact fK<|bQ (a.1) (b) h SF (aW.ix [1] Z Z) (aE.refl _ _)
 intro g i h;unfold Co at h;refine Q5 Z<|Q4 Z<|aP ?_;cases h;exact mS (i) Z Z (RV.tmp Z) (aW.refl _) aE.nil
def yH (a:Unit):V1 (Int):=
 some (0:Int)
def t_ (b:eY) (a:Int) (c:(Int)->V1 (Int)):V1 (Int):=
 if a<(b.2.2.length:Int)then(ck (0<=a/\a<(b.2.2.length:Int)) (Option.bind (An U ((b.1,b.2.1,b.2.2))) λd=>(Option.bind (DI U ((((at' b.2.2 a).1),((at' b.2.2 a).2.1),((at' b.2.2 a).2.2))) d) λe=>(if(!e)=true then(some (6:Int))else(c (wI .i64 (a+(1:Int))))))))else(yH (()))
def yG (b:eY) (a:Unit):V1 (Int):=
 bG (t_ U b) U (0:Int)
def uA (b:eY) (a:Int) (c:(Int)->V1 (Int)):V1 (Int):=
 if a<(b.2.2.length:Int)then(ck (0<=a/\a<(b.2.2.length:Int)) (Option.bind (B_ U ((((at' b.2.2 a).1),((at' b.2.2 a).2.1),((at' b.2.2 a).2.2))) (b.2.1.length:Int)) λd=>(if(!d)=true then(some (7:Int))else(c (wI .i64 (a+(1:Int)))))))else(yG U b (()))
def yF (b:eY) (a:Unit):V1 (Int):=
 bG (uA U b) U (0:Int)
def uB (b:eY) (a:Int) (c:(Int)->V1 (Int)):V1 (Int):=
 if a<(b.2.1.length:Int)then(ck (0<=a/\a<(b.2.1.length:Int)) (Option.bind (AP U ((((at' b.2.1 a).1),((at' b.2.1 a).2.1),((at' b.2.1 a).2.2.1),((at' b.2.1 a).2.2.2.1),((at' b.2.1 a).2.2.2.2.1),((at' b.2.1 a).2.2.2.2.2)))) λd=>(if(!d)=true then(some (2:Int))else(c (wI .i64 (a+(1:Int)))))))else(yF U b (()))
def Cn (a:eY) (b:V4):V1 (Int):=
 if b=true then(some (3:Int))else(Option.bind (DG U ((a.1,a.2.1,a.2.2))) λc=>(if(!c)=true then(some (5:Int))else(bG (uB U a) U (0:Int))))
def DD (a:eY):V1 (Int):=
 Option.bind (rA U (a.2.1.length:Int) (1:Int) (6:Int)) λb=>(if(!b)=true then(Cn U a (true))else(Cn U a (decide ((12:Int)<(a.2.2.length:Int)))))
theorem adi:aX prog 165:=call165
theorem PS (U:Nat) {a:eY} (A t:V0) (r:Int) (h:DD U a=some r):
  aZ prog 165 #[Value.agg #[vS (a.1),A,t]] [Sl aN A a.2.1,Sl aJ t a.2.2] (λx:Unit=>vI (r)) (λx l=>l) (λ_ l=>l):=by
 refine aZ.of func165 Z ntmps165 Z λc=>?_;refine aT<|aK (aO.box (cs:=[vS (a.1),A,t]) Z Z) Z λu=>let i:=bU u [vS (a.1),A,t] 25;aB Z<|aM<|aI<|aI<|cC (λB=>Cn U a B=some r) (λB X=>[(1,vP u),(16,vB (B))]) (λB X=>[i]) ?_ ?_
 .refine aL<|bD Z<|bY 0 Z<|eL (cG Z) Z<|dG h λQ W h=>aK (zB8 Gr (yO U Q W) Z .nil) Z λaf=>aC (fF Z) Z<|aA Z ?_;refine iO (by exact rfl) (by exact rfl) (λo=>?_) (λo=>?_)
  .have h:=Bt o h;refine aD Z<|aD Z<|aD Z<|aD Z<|bO Z<|aM ?_;exact cF (true) () h SF Z
  have h:=w_ o h;refine aF Z (bR Z Z Z Z Z) Z<|aF Z (bX 0 Z Z Z Z Z) Z<|aF Z (dO Z (iZ Z) Z) Z<|aF Z (mA Z Z) Z<|bT Z<|aM ?_;exact cF (decide ((12:Int)<(a.2.2.length:Int))) () h SF Z
 intro B X h;refine iA h Z (λ_ h=>?_) λ_ h=>?_
 .refine aT<|aB Z<|aM<|aP<|aG ?_;cases h;exact mK Z
 refine bK<|aI<|aT<|fQ 0 Z<|dG h λr6 w7 h=>aK (zB8 adr (PW U A t r6 w7) Z (gK [0,1] Z)) Z λx8=>aC (fF Z) Z<|aM ?_;refine iA h Z (λ_ h=>?_) λ_ h=>?_
 .refine aT<|aB Z<|aM<|aP<|aG ?_;cases h;exact mK Z
 refine bK<|aI<|cC (λp=>yF U a p=some r) (λp C=>[(1,vP u)]) (λp C=>[i]) ?_ ?_
 .refine aT<|aB Z<|aM<|aU<|eP (uB U a) (λn H=>[(1,vP u),(3,vI (n))]) (λn H=>[i]) (0:Int) () h SF (aW.refl _) ?_;intro ab n H h;let j:=(at' a.2.1 n)
  refine aI<|aT<|aA Z<|bD Z<|bY 0 Z<|eL (cG Z) Z<|cX Z<|aM ?_;refine eF h Z (λh=>?_) λh=>?_
  .refine bK<|aI<|aU<|aT<|bD Z<|bY 0 Z<|aA Z<|eX h λI h=>aC (a_ Z Z (cG Z) Z Z I) Z<|aC (eO (cs:=[vS (j.1),vI (j.2.1),vI (j.2.2.1),vI (j.2.2.2.1),vI (j.2.2.2.2.1),vI (j.2.2.2.2.2)]) Z (cG Z) lL Z Z Z Z I) Z<|dG h λP V h=>aK (zB8 ads (Nk U P V) Z .nil) Z λae=>aC (fF Z) Z<|aM ?_;refine iA h Z (λ_ h=>?_) λ_ h=>?_
   .refine aT<|aB Z<|aM<|aP<|bB<|aG<|aG<|bB<|aG ?_;cases h;exact mK Z
   refine cZ<|jZ<|aL<|aA Z<|cP Z<|aB Z<|aM ?_;exact Ac (wI .i64 (n+(1:Int))) () h SF Z
  refine fK ?_;exact cF () (()) h SF Z
 intro p C h;unfold yF at h;refine aI<|cC (λq=>yG U a q=some r) (λq D=>[(1,vP u)]) (λq D=>[i]) ?_ ?_
 .refine aT<|aB Z<|aM<|aU<|eP (uA U a) (λd G=>[(1,vP u),(4,vI (d))]) (λd G=>[i]) (0:Int) () h SF (aW.refl _) ?_;intro aa d G h;let w:=(at' a.2.2 d)
  refine aI<|aT<|aA Z<|bD Z<|bY 0 Z<|eL (iZ Z) Z<|cX Z<|aM ?_;refine eF h Z (λh=>?_) λh=>?_
  .refine bK<|aI<|aU<|aI ?_;refine xP [0,1,0,7,15,0,32,96,255,511] 8 mixedOrders ?_;refine dA Z<|iH 0 Z<|bE Z<|eX h λg h=>bI Z .nil (jP 1 Z) (a_ Z Z (cG Z) Z Z g) aR.z<|Ob (v:=t) (ds:=a.2.2) dN (iZ Z) λK=>let k:=(at' K d);?_
   refine JR.stp (iQ ((yY (fR (f:=bJ) (iZ Z) g.1 g.2)):aQ _ _ (Sl aS (k.1) (w.2.1)))) ?_;refine JR.stp (iQ ((yZ (fR (f:=bJ) (FA Z) g.1 g.2)):aQ _ _ (Sl dZ (k.2) (w.2.2)))) ?_;refine bI Z .nil (jP 2 Z) (sS (cs:=[vS (w.1),k.1,k.2]) Z (cG Z) Z Z Z Z g) aR.z<|dA Z<|iH 0 Z<|bI Z .nil (jP 4 Z) (dO Z (cG Z) Z) aR.z<|bS 8 Z Z<|dG h λO T h=>aK (zB8 adt (Pd U (k.1) (k.2) O T) Z (gK [1,0] Z)) Z λad=>aC (fF Z) Z<|aM ?_;refine iA h Z (λ_ h=>?_) λ_ h=>?_
   .refine aT<|aB Z<|aM<|aP<|bB<|aG<|aG<|bB<|aG ?_;cases h;exact mK Z
   refine cZ<|jZ<|aL<|aA Z<|cP Z<|aB Z<|aM ?_;exact fI (wI .i64 (d+(1:Int))) () h SF (aW.refl _) (gK [4,5] Z)
  refine fK ?_;exact cF () (()) h SF Z
 intro q D h;unfold yG at h;refine aI<|cC (λs=>yH s=some r) (λs E=>[]) (λs E=>[]) ?_ ?_
 .refine aT<|aB Z<|aM<|aU<|eP (t_ U a) (λb F=>[(1,vP u),(5,vI (b))]) (λb F=>[i]) (0:Int) () h SF (aW.refl _) ?_;intro Y b F h;let y:=(at' a.2.2 b)
  refine aI<|aT<|aA Z<|bD Z<|bY 0 Z<|eL (iZ Z) Z<|cX Z<|aM ?_;refine eF h Z (λh=>?_) λh=>?_
  .refine bK<|aI<|aU<|aI ?_;refine xP [0,1,0,7,15,0,32,127,255] 7 mixedOrders ?_;refine dA Z<|iH 0 Z<|bE Z<|eX h λe h=>bI Z .nil (jP 1 Z) (a_ Z Z (cG Z) Z Z e) aR.z<|Ob (v:=t) (ds:=a.2.2) dN (iZ Z) λJ=>let m:=(at' J b);?_
   refine JR.stp (iQ ((yY (fR (f:=bJ) (iZ Z) e.1 e.2)):aQ _ _ (Sl aS (m.1) (y.2.1)))) ?_;refine JR.stp (iQ ((yZ (fR (f:=bJ) (FA Z) e.1 e.2)):aQ _ _ (Sl dZ (m.2) (y.2.2)))) ?_;refine bI Z .nil (jP 2 Z) (sS (cs:=[vS (y.1),m.1,m.2]) Z (cG Z) Z Z Z Z e) aR.z<|qY 0 Z<|dG h λM R h=>zBa Z Z Z (zB8 adv (PT U A t M R) Z (gK [4,5] Z)) Z (λL=>(y_ [([],[2]),([],[5]),([1],[])] Z)) λL=>bS 7 Z Z<|dG h λN S h=>aK (zB8 adu (PX U (m.1) (m.2) L N S) Z (aE.cons (iZ Z) (aE.cons (cG Z) (aE.cons (bL (aQ.res 0 Z) fH) .nil)))) Z λac=>aC (fF Z) Z<|aM ?_;refine iA h Z (λ_ h=>?_) λ_ h=>?_
   .refine aT<|aB Z<|aM<|aP<|bB<|aG<|aG<|bB<|aG ?_;cases h;exact mK Z
   refine cZ<|jZ<|aL<|aA Z<|cP Z<|aB Z<|aM ?_;exact fI (wI .i64 (b+(1:Int))) () h SF (aW.ix [1] Z Z) (gK [4,5] Z)
  refine fK ?_;exact bQ () (()) h SF .nil (aE.refl _ _)
 intro s E h;unfold yH at h;refine aT<|aB Z<|aM<|aP ?_;cases h;exact gM Z
def Ao (a:eY):V1 V4:=
 Option.bind (DD U ((a.1,a.2.1,a.2.2))) λb=>(some (decide (b=(0:Int))))
theorem ada:aX prog 128:=call128
theorem PU {a:eY} (b d:V0) (r:V4) (h:Ao U a=some r):
  aZ prog 128 #[Value.agg #[vS (a.1),b,d]] [Sl aN b a.2.1,Sl aJ d a.2.2] (λx:Unit=>vB (r)) (λx l=>l) (λ_ l=>l):=by
 refine aZ.of func128 Z ntmps128 Z λc=>aT<|aK (aO.box (cs:=[vS (a.1),b,d]) Z Z) Z λg=>Q4 Z<|aT<|fQ 0 Z<|dG h λe f h=>aK (zB8 adi (PS U b d e f) Z (gK [0,1] Z)) Z λi=>bP Z<|Q4 Z<|aP ?_;cases h;exact mK Z
end Go.Proofs.YtemmagadjnlajaaGreatDoor
namespace Go.Proofs.YtemmagadjnlajaaGreatDoor
open Go Go.Sx
section
abbrev ST:=Int×V6 TM
abbrev RL:=ByteArray×V6 TM×V6 ST
abbrev PG:=ByteArray×V6 VR×V6 RL
open Classical in
noncomputable def UG (a:Int) (e:V6 TM):V4:=decide (∃x,XV a e x)
theorem Po {a:Int} {e:V6 TM}:UG a e=true↔∃x,XV a e x:=by unfold UG;simp
theorem aig (F:Nat) (e:V6 TM) (a:Int) (g:e.length<=900) (f:1000<=F):oQ F e a=some (UG a e):=by
 have⟨b,c,_,d⟩:=KF F e a g f;rw[c];congr 1;exact Bool.eq_iff_iff.2 (d.trans Po.symm)
theorem ajB (F:Nat) (e:V6 TM) (a:Int) (g:e.length<=900) (f:1000<=F):qI F e a=some (UG a e):=by
 have⟨b,_,c,d⟩:=KF F e a g f;rw[c];congr 1;exact Bool.eq_iff_iff.2 (d.trans Po.symm)
open Classical in
noncomputable def Wo (a:bN) (e:V6 TM):Int:=if h:∃x,XV a.length e x then(Classical.choose h).ty a false else 0
theorem ajO (F:Nat) {e:V6 TM} {a:bN} (h:UG a.length e=true) (g:∀k∈a,US k=true) (d:a.length<=6) (f:1000<=F):∃c,Df F e a false=some (Wo a e,c):=by
 have b:=Po.1 h;have e:Wo a e=(Classical.choose b).ty a false:=by unfold Wo;rw[dif_pos b]
 rw[e];exact⟨_,tOf F (Classical.choose_spec b) g d false f⟩
theorem ajv (F:Nat) {e:V6 TM} {a:bN} (h:UG a.length e=true) (c:1000<=F):jR F e 0 a false=some (Wo a e):=by
 have b:=Po.1 h;unfold Wo;rw[dif_pos b];exact rKd F (Classical.choose_spec b) false c
section
variable {κ:Type} [DecidableEq κ]
def XB (l:V6 κ):V6 (κ×V4):=l.foldl (λm x=>zL x true m) []
theorem YT (x y:κ) (m:V6 (κ×V4)):lM y (zL x true m)=if y=x then some true else lM y m:=by
 induction m with
 |nil=>simp[zL,lM]
 | cons z m ih =>
  simp only[zL];by_cases h:x=z.1
  .rw[if_pos h];simp only[lM];by_cases a:y=x
   .rw[if_pos a];simp[a]
   .rw[if_neg a,if_neg a,if_neg (by rw[<-h];exact a)]
  .rw[if_neg h];simp only[lM,ih];by_cases a:y=z.1
   .rw[if_pos a,if_pos a,if_neg (by rw[a];exact λe=>h e.symm)]
   .rw[if_neg a,if_neg a]
theorem HV (l:V6 κ) (x:κ):XB (l++[x])=zL x true (XB l):=by simp[XB]
theorem RU (y:κ):∀n (l:V6 κ),l.length=n->(lM y (XB l)).getD false=decide (y∈l):=by
 intro n
 induction n with
 |zero=>intro l h;have:l=[]:=zAl h;subst this;simp[XB,lM]
 | succ n ih =>
  intro l h;rcases List.eq_nil_or_concat l with rfl|⟨b,x,rfl⟩
  .simp at h
  .rw[List.concat_eq_append]at h ⊢;rw[HV,YT];have:=ih b (by simpa using h);by_cases a:y=x
   .simp[a]
   .rw[if_neg a,this];simp[a]
end
def VQ {a:Type} [DecidableEq a] (l:V6 a) (k:Nat):V4:= !decide (∃x,l[k]?=some x/\x∈l.take k)
theorem OL {a:Type} [DecidableEq a] {l:V6 a} {k:Nat} {x:a} (h:l[k]?=some x):VQ l k = !decide (x∈l.take k):=by
 unfold VQ;congr 1;simp[h]
theorem R_ {c:Type} [DecidableEq c] {l:V6 c} {k:Nat} {x:c} (h:l[k]?=some x) (g:Nat->c) (d:∀j,j<k->l[j]?=some (g j)):(List.range k).all (λj=> !decide (g j=x))=VQ l k:=by
 rw[OL h,Bool.eq_iff_iff,zA2];simp only[zAg,zB4,decide_eq_false_iff_not];constructor
 .intro f m;have⟨j,b⟩:=List.getElem?_of_mem m;have a:j<k:=by
   have:=bM b;rw[zB2]at this;omega
  rw[zAn,if_pos a,d j a]at b;exact f j a (Option.some.inj b)
 .intro n j b e;refine n (zAo (i:=j) ?_);rw[zAn,if_pos b,d j b,e]
theorem HL {a:Type} [Inhabited a] {l:V6 a} {k:Nat} (h:k<l.length):l[k]?=some (at' l (k:Int)):=jI (xs:=l) (i:=(k:Int)) V7 V7
theorem WI (a b:ByteArray):gN a b=decide (a=b):=by
 unfold gN;rw[Lib.toList_data,Lib.toList_data];have⟨⟨x⟩⟩:=a;have⟨⟨y⟩⟩:=b;rw[Bool.eq_iff_iff,zAa];simp
def Zn (p:PG):V6 ByteArray:=p.2.1.map λv=>v.1
def Zm (p:PG):V6 ByteArray:=p.2.2.map λr=>r.1
def Zh (r:RL):V6 Int:=r.2.2.map λs=>s.1
theorem RY {p:PG} {k:Nat} (h:k<p.2.1.length):(Zn p)[k]?=some (at' p.2.1 (k:Int)).1:=by unfold Zn;rw[List.getElem?_map,HL h];rfl
theorem RX {p:PG} {k:Nat} (h:k<p.2.2.length):(Zm p)[k]?=some (at' p.2.2 (k:Int)).1:=by unfold Zm;rw[List.getElem?_map,HL h];rfl
theorem LD {r:RL} {k:Nat} (h:k<r.2.2.length):(Zh r)[k]?=some (at' r.2.2 (k:Int)).1:=by unfold Zh;rw[List.getElem?_map,HL h];rfl
def RZ (p:PG):V4:=Uc p.1&&(List.range p.2.1.length).all (λk=>Uc (at' p.2.1 (k:Int)).1&&VQ (Zn p) k)&&(List.range p.2.2.length).all (λk=>Uc (at' p.2.2 (k:Int)).1&&VQ (Zm p) k)
theorem aie (F:Nat) (p:PG) (j:p.2.1.length<=20) (i:p.2.2.length<=20) (h:1000<=F):DN F p=some (RZ p):=by
 unfold DN RZ;rw[aY (abN F p.1 V7)];have c:=iB (step:=rK F p) (K:=yU F p ()) (bad:=some false) p.2.1.length (λk=>Uc (at' p.2.1 (k:Int)).1&&VQ (Zn p) k) (λk=>((k:Int),XB ((Zn p).take k))) (λk b f=>by
  have a:(Zn p)[k]?=some (at' p.2.1 (k:Int)).1:=RY f;unfold rK CN;dsimp only;rw[Q8,Q6,aY (abN F _ V7),RU _ _ _ Z,Q7,OL a];have e:XB ((Zn p).take (k+1))=zL (at' p.2.1 (k:Int)).1 true (XB ((Zn p).take k)):=by
   rw[<-HV,List.take_add_one,a];rfl
  rw[e];cases Uc (at' p.2.1 (k:Int)).1<;>by_cases g:(at' p.2.1 (k:Int)).1∈(Zn p).take k<;>simp[g]) (λb=>by unfold rK;rw[if_neg V8]) F V7
 have d:=iB (step:=rJ F p) (K:=yV ()) (bad:=some false) p.2.2.length (λk=>Uc (at' p.2.2 (k:Int)).1&&VQ (Zm p) k) (λk=>((k:Int),XB ((Zm p).take k))) (λk b f=>by
  have a:(Zm p)[k]?=some (at' p.2.2 (k:Int)).1:=RX f;unfold rJ CM;dsimp only;rw[Q8,Q6,aY (abN F _ V7),RU _ _ _ Z,Q7,OL a];have e:XB ((Zm p).take (k+1))=zL (at' p.2.2 (k:Int)).1 true (XB ((Zm p).take k)):=by
   rw[<-HV,List.take_add_one,a];rfl
  rw[e];cases Uc (at' p.2.2 (k:Int)).1<;>by_cases g:(at' p.2.2 (k:Int)).1∈(Zm p).take k<;>simp[g]) (λb=>by unfold rJ;rw[if_neg V8]) F V7
 have c:bG (rK F p) F ((0:Int),([]:V6 (ByteArray×V4)))=_:=c;have d:bG (rJ F p) F ((0:Int),([]:V6 (ByteArray×V4)))=_:=d;rw[c];unfold yU;rw[d];unfold yV;cases Uc p.1<;>cases (List.range p.2.1.length).all _<;>cases (List.range p.2.2.length).all _<;>simp
theorem ahP (F:Nat) (p:PG) (n:p.2.1.length<=20) (m:p.2.2.length<=20) (l:1000<=F):DG F p=some (RZ p):=by
 unfold DG RZ;rw[aY (abz F p.1 V7)];have c:=iB (step:=pK F p) (K:=yJ F p ()) (bad:=some false) p.2.1.length (λk=>Uc (at' p.2.1 (k:Int)).1&&VQ (Zn p) k) (λk=>(k:Int)) (λk a f=>by
  have h:(Zn p)[k]?=some (at' p.2.1 (k:Int)).1:=RY f;unfold pK;rw[Q8];have i:=iB (step:=uE F p (k:Int) a) (K:=Cq F p (k:Int) a ()) (bad:=some false) k (λj=> !decide ((at' p.2.1 (j:Int)).1=(at' p.2.1 (k:Int)).1)) (λj=>(j:Int)) (λj b e=>by
   unfold uE;rw[Q8,Q6,Q6,WI,Q7];by_cases g:(at' p.2.1 (j:Int)).1=(at' p.2.1 (k:Int)).1<;>simp[g]) (λb=>by unfold uE;rw[Q0]) F V7
  rw[R_ h (λj=>(at' p.2.1 (j:Int)).1) (λj e=>RY V7)]at i;have i:bG (uE F p (k:Int) a) F (0:Int)=_:=i;rw[i];unfold Cq;rw[Q6,aY (abz F _ V7),Q7];cases VQ (Zn p) k<;>cases Uc (at' p.2.1 (k:Int)).1<;>simp) (λa=>by unfold pK;rw[if_neg V8]) F V7
 have d:=iB (step:=pJ F p) (K:=yK ()) (bad:=some false) p.2.2.length (λk=>Uc (at' p.2.2 (k:Int)).1&&VQ (Zm p) k) (λk=>(k:Int)) (λk a f=>by
  have h:(Zm p)[k]?=some (at' p.2.2 (k:Int)).1:=RX f;unfold pJ;rw[Q8];have i:=iB (step:=uD F p (k:Int) a) (K:=Cp F p (k:Int) a ()) (bad:=some false) k (λj=> !decide ((at' p.2.2 (j:Int)).1=(at' p.2.2 (k:Int)).1)) (λj=>(j:Int)) (λj b e=>by
   unfold uD;rw[Q8,Q6,Q6,WI,Q7];by_cases g:(at' p.2.2 (j:Int)).1=(at' p.2.2 (k:Int)).1<;>simp[g]) (λb=>by unfold uD;rw[Q0]) F V7
  rw[R_ h (λj=>(at' p.2.2 (j:Int)).1) (λj e=>RX V7)]at i;have i:bG (uD F p (k:Int) a) F (0:Int)=_:=i;rw[i];unfold Cp;rw[Q6,aY (abz F _ V7),Q7];cases VQ (Zm p) k<;>cases Uc (at' p.2.2 (k:Int)).1<;>simp) (λa=>by unfold pJ;rw[if_neg V8]) F V7
 have c:bG (pK F p) F (0:Int)=_:=c;have d:bG (pJ F p) F (0:Int)=_:=d;rw[c];unfold yJ;rw[d];unfold yK;cases Uc p.1<;>cases (List.range p.2.1.length).all _<;>cases (List.range p.2.2.length).all _<;>simp
noncomputable def SJ (r:RL) (a:Nat):V4:=decide (1<=r.2.2.length)&&decide (r.2.2.length<=6)&&UG a r.2.1&&(List.range r.2.2.length).all (λk=>decide (0<=(at' r.2.2 (k:Int)).1)&&decide ((at' r.2.2 (k:Int)).1<=(a:Int) - 1)&&VQ (Zh r) k&&UG a (at' r.2.2 (k:Int)).2)
theorem LX {a:Type} [Inhabited a] {l:V6 a} {k:Nat} (h:k<l.length):at' l (k:Int)∈l:=zAo (HL h)
theorem aeC (F:Nat) (r:RL) (a:Nat) (j:a<=20) (n:r.2.2.length<=20) (m:r.2.1.length<=400) (l:∀s∈r.2.2,s.2.length<=400) (f:1000<=F):Cd F r (a:Int)=some (SJ r a):=by
 unfold Cd vW SJ;by_cases e:1<=r.2.2.length
 .by_cases c:r.2.2.length<=6
  .rw[Q0,Q0,aY (aig F _ _ V7 f)];have d:=iB (step:=pU F r (a:Int)) (K:=vX ()) (bad:=some false) r.2.2.length (λk=>decide (0<=(at' r.2.2 (k:Int)).1)&&decide ((at' r.2.2 (k:Int)).1<=(a:Int) - 1)&&VQ (Zh r) k&&UG a (at' r.2.2 (k:Int)).2) (λk=>((k:Int),XB ((Zh r).take k))) (λk h g=>by
    have b:(Zh r)[k]?=some (at' r.2.2 (k:Int)).1:=LD g;have o:=l _ (LX g);unfold pU vY;dsimp only;rw[Q8,Q6,Q7 (x:=(a:Int) - 1),aY (XR F _ _ _),aY (aig F _ _ V7 f),RU _ _ _ Z,Q7,OL b];have c:XB ((Zh r).take (k+1))=zL (at' r.2.2 (k:Int)).1 true (XB ((Zh r).take k)):=by
     rw[<-HV,List.take_add_one,b];rfl
    rw[c];cases decide (0<=(at' r.2.2 (k:Int)).1)<;>cases decide ((at' r.2.2 (k:Int)).1<=(a:Int) - 1)<;>by_cases i:(at' r.2.2 (k:Int)).1∈(Zh r).take k<;>cases UG a (at' r.2.2 (k:Int)).2<;>simp[i]) (λh=>by unfold pU;rw[if_neg V8]) F V7
   have d:bG (pU F r (a:Int)) F ((0:Int),([]:V6 (Int×V4)))=_:=d;rw[d];unfold vX;cases UG a r.2.1<;>cases (List.range r.2.2.length).all _<;>simp[e,c]
  .rw[Q0,Q8];simp[c]
 .rw[Q8];simp[e]
theorem aet (F:Nat) (r:RL) (a:Nat) (o:a<=20) (t:r.2.2.length<=20) (q:r.2.1.length<=400) (p:∀s∈r.2.2,s.2.length<=400) (l:1000<=F):B_ F r (a:Int)=some (SJ r a):=by
 unfold B_ Bb SJ;rw[aY (NR F _ _ _),aY (ajB F _ _ V7 l)];have d:=iB (step:=lX F r (a:Int)) (K:=vM ()) (bad:=some false) r.2.2.length (λk=>decide (0<=(at' r.2.2 (k:Int)).1)&&decide ((at' r.2.2 (k:Int)).1<=(a:Int) - 1)&&VQ (Zh r) k&&UG a (at' r.2.2 (k:Int)).2) (λk=>(k:Int)) (λk b m=>by
  have e:(Zh r)[k]?=some (at' r.2.2 (k:Int)).1:=LD m;have u:=p _ (LX m);unfold lX Bc;rw[Q8,Q6,Q7 (x:=(a:Int) - 1),aY (NR F _ _ _),Q6,aY (ajB F _ _ V7 l)];have i:=iB (step:=sD r (k:Int) b) (K:=vN (k:Int) b ()) (bad:=some false) k (λj=> !decide ((at' r.2.2 (j:Int)).1=(at' r.2.2 (k:Int)).1)) (λj=>(j:Int)) (λj c n=>by
   unfold sD;rw[Q8,Q6,Q6,Q7];by_cases h:(at' r.2.2 (j:Int)).1=(at' r.2.2 (k:Int)).1
   .rw[if_pos h];simp[h]
   .rw[if_neg h];simp[h]) (λc=>by unfold sD;rw[Q0]) F V7
  rw[R_ e (λj=>(at' r.2.2 (j:Int)).1) (λj n=>LD V7)]at i;have i:bG (sD r (k:Int) b) F (0:Int)=_:=i;rw[i];unfold vN;rw[Q7];cases decide (0<=(at' r.2.2 (k:Int)).1)<;>cases decide ((at' r.2.2 (k:Int)).1<=(a:Int) - 1)<;>cases VQ (Zh r) k<;>cases UG a (at' r.2.2 (k:Int)).2<;>simp) (λb=>by unfold lX;rw[if_neg V8]) F V7
 have d:bG (lX F r (a:Int)) F (0:Int)=_:=d;rw[d];unfold vM;by_cases f:1<=r.2.2.length
 .by_cases g:r.2.2.length<=6
  .cases UG a r.2.1<;>cases (List.range r.2.2.length).all _<;>simp[f,g]<;>omega
  .simp[g];omega
 .simp[f];omega
end
def JU (p:PG):bN:=p.2.1.map λv=>v.2.1
theorem EP (p:PG):(JU p).length=p.2.1.length:=by simp[JU]
theorem RN {p:PG} {k:Nat} (h:k<p.2.1.length):(JU p)[k]?=some (at' p.2.1 (k:Int)).2.1:=by unfold JU;rw[List.getElem?_map,HL h];rfl
theorem aid (F:Nat) (p:PG) (g:p.2.1.length<=20) (f:1000<=F):DL F p=some (JU p):=by
 unfold DL;rw[Q6];have e:=gW (step:=yT p) (K:=some (JU p)) p.2.1.length (λk=>((k:Int),(JU p).take k++List.replicate (p.2.1.length - k) (0:Int))) (λk b c=>by
  have a:((JU p).take k).length=k:=by rw[zB2,EP];omega
  unfold yT;dsimp only;rw[Q8,Q6,dM (by simp[a];omega),Q7,zA7];congr 2;have d:List.replicate (p.2.1.length - k) (0:Int)=0::List.replicate (p.2.1.length - (k+1)) 0:=by
   rw[show p.2.1.length - k=p.2.1.length - (k+1)+1 by omega,List.replicate_succ]
  rw[d,Si _ _ _ _ k a,List.take_add_one,RN c];simp) (λb=>by
  unfold yT CL;dsimp only;rw[Q0];rw[<-EP p,List.take_length];simp) F V7
 simp only[List.take_zero,List.nil_append,Nat.sub_zero]at e;rw[zA7];exact e
theorem ahN (F:Nat) (p:PG) (f:p.2.1.length<=20) (d:1000<=F):An F p=some (JU p):=by
 unfold An;have e:=gW (step:=yI p) (K:=some (JU p)) p.2.1.length (λk=>((JU p).take k,(k:Int))) (λk a b=>by
  have c:((JU p).take k).length=k:=by rw[zB2,EP];omega
  unfold yI;dsimp only;rw[Q8,Q6,dM (by simp[c];omega),Q7,List.take_add_one,RN b];rfl) (λa=>by
  unfold yI Co;dsimp only;rw[Q0];rw[<-EP p,List.take_length]) F V7
 simpa using e
noncomputable def Wn (r:RL) (ks:bN):V4:=decide (Wo ks r.2.1=2)&&(List.range r.2.2.length).all (λk=>decide (Wo ks (at' r.2.2 (k:Int)).2=at' ks (at' r.2.2 (k:Int)).1))
structure Rf (r:RL) (vars:Nat):Prop where
 n1:1<=r.2.2.length
 n6:r.2.2.length<=6
 guard:UG vars r.2.1=true
 var:∀k,k<r.2.2.length->0<=(at' r.2.2 (k:Int)).1/\(at' r.2.2 (k:Int)).1<vars
 val:∀k,k<r.2.2.length->UG vars (at' r.2.2 (k:Int)).2=true
theorem Vz {r:RL} {a:Nat} (h:SJ r a=true):Rf r a:=by
 unfold SJ at h;simp only[zA5,zAa,zA2,zAg]at h;have⟨⟨⟨d,e⟩,f⟩,c⟩:=h;exact⟨d,e,f,λk b=>⟨(c k b).1.1.1,by have:=(c k b).1.1.2;omega⟩,λk b=>(c k b).2⟩
theorem aif (F:Nat) {r:RL} {ks:bN} (b:Rf r ks.length) (i:∀k∈ks,US k=true) (f:ks.length<=6) (g:1000<=F):DO F r ks=some (Wn r ks):=by
 have m:=b.n6;unfold DO Wn;have⟨c,d⟩:=ajO F b.guard i f g;rw[aY d];dsimp only;have e:=iB (step:=uP F r ks) (K:=yW ()) (bad:=some false) r.2.2.length (λk=>decide (Wo ks (at' r.2.2 (k:Int)).2=at' ks (at' r.2.2 (k:Int)).1)) (λk=>(k:Int)) (λk j a=>by
  have⟨c,d⟩:=ajO F (b.val k a) i f g;have l:=b.var k a;unfold uP;rw[Q8,Q6,aY d,dM l,Q7];dsimp only;by_cases h:Wo ks (at' r.2.2 (k:Int)).2=at' ks (at' r.2.2 (k:Int)).1
  .rw[if_neg (by simpa using h)];simp[h]
  .rw[if_pos h];simp[h]) (λj=>by unfold uP;rw[Q0]) F V7
 have e:bG (uP F r ks) F (0:Int)=_:=e;rw[e];unfold yW;by_cases h:Wo ks r.2.1=2
 .rw[if_neg (by simpa using h)];cases (List.range r.2.2.length).all _<;>simp[h]
 .rw[if_pos h];simp[h]
theorem ahR (F:Nat) {r:RL} {ks:bN} (b:Rf r ks.length) (c:1000<=F):DI F r ks=some (Wn r ks):=by
 have g:=b.n6;unfold DI Wn;rw[aY (ajv F b.guard c)];have e:=iB (step:=uF F r ks) (K:=yL ()) (bad:=some false) r.2.2.length (λk=>decide (Wo ks (at' r.2.2 (k:Int)).2=at' ks (at' r.2.2 (k:Int)).1)) (λk=>(k:Int)) (λk d a=>by
  have f:=b.var k a;unfold uF;rw[Q8,Q6,aY (ajv F (b.val k a) c),Q6,dM f,Q7];by_cases h:Wo ks (at' r.2.2 (k:Int)).2=at' ks (at' r.2.2 (k:Int)).1
  .rw[if_neg (by simpa using h)];simp[h]
  .rw[if_pos h];simp[h]) (λd=>by unfold uF;rw[Q0]) F V7
 have e:bG (uF F r ks) F (0:Int)=_:=e;rw[e];unfold yL;by_cases h:Wo ks r.2.1=2
 .rw[if_neg (by simpa using h)];cases (List.range r.2.2.length).all _<;>simp[h]
 .rw[if_pos h];simp[h]
structure Sml (p:PG):Prop where
 v:p.2.1.length<=20
 r:p.2.2.length<=20
 g:∀q∈p.2.2,q.2.1.length<=400/\q.2.2.length<=20/\∀s∈q.2.2,s.2.length<=400
noncomputable def chS (p:PG):Int:=
 if p.2.1.length=0\/6<p.2.1.length\/12<p.2.2.length then 3 else if RZ p=false then 5
 else if(List.range p.2.1.length).all (λk=>HW (at' p.2.1 (k:Int)))=false then 2
 else if(List.range p.2.2.length).all (λk=>SJ (at' p.2.2 (k:Int)) p.2.1.length)=false then 7
 else if(List.range p.2.2.length).all (λk=>Wn (at' p.2.2 (k:Int)) (JU p))=false then 6 else 0
theorem abb {p:PG} (h:(List.range p.2.1.length).all (λk=>HW (at' p.2.1 (k:Int)))=true):∀k∈JU p,US k=true:=by
 intro k d;unfold JU at d;obtain⟨v,e,rfl⟩:=zB5.1 d;have⟨i,b⟩:=List.getElem?_of_mem e;have a:=bM b;have:=zA2.1 h i (zAg.2 a);rw[HL a]at b;rw[Option.some.inj b]at this;unfold HW at this;by_cases c:v.2.1=1
 .simp[US,c]
 .rw[if_pos c]at this;simp only[zA5]at this;exact this.1.1.1.1
theorem aia (F:Nat) {p:PG} (n:Sml p) (c:1000<=F):DK F p=some (chS p):=by
 have o:=n.v;have x:=n.r;unfold DK yQ chS;by_cases u:p.2.1.length=0
 .rw[Q8,if_pos Z,if_pos (.inl u)]
 by_cases w:6<p.2.1.length
 .rw[Q0,Q8,if_pos Z,if_pos (.inr (.inl w))]
 by_cases i:12<p.2.2.length
 .rw[Q0,Q0,if_pos Q1,if_pos (.inr (.inr i))]
 rw[Q0,Q0,if_neg Q1,Q0];rw[aY (aie F p o x c)];cases y:RZ p
 .rw[if_pos Q2,if_pos Z]
 rw[if_neg Q2,if_neg Q2];have h:=iB (step:=uL F p) (K:=yR F p ()) (bad:=some 2) p.2.1.length (λk=>HW (at' p.2.1 (k:Int))) (λk=>(k:Int)) (λk a d=>by
  unfold uL;rw[Q8,Q6,aY (ajN F _),Q7];show(if(!HW (at' p.2.1 (k:Int)))=true then _ else _)=_;cases HW (at' p.2.1 (k:Int))<;>simp) (λa=>by unfold uL;rw[Q0]) F V7
 have h:bG (uL F p) F (0:Int)=_:=h;rw[h];cases b:(List.range p.2.1.length).all (λk=>HW (at' p.2.1 (k:Int)))
 .rw[if_neg Q2,if_pos Z]
 rw[if_pos Z,if_neg Q2];unfold yR;have f:=iB (step:=uK F p) (K:=CK F p ()) (bad:=some 7) p.2.2.length (λk=>SJ (at' p.2.2 (k:Int)) p.2.1.length) (λk=>(k:Int)) (λk a d=>by
  have⟨q,s,t⟩:=n.g _ (LX d);unfold uK;rw[Q8,Q6,aY (aeC F _ p.2.1.length o s q t c),Q7];show(if(!SJ (at' p.2.2 (k:Int)) p.2.1.length)=true then _ else _)=_;cases SJ (at' p.2.2 (k:Int)) p.2.1.length<;>simp) (λa=>by unfold uK;rw[Q0]) F V7
 have f:bG (uK F p) F (0:Int)=_:=f;rw[f];cases j:(List.range p.2.2.length).all (λk=>SJ (at' p.2.2 (k:Int)) p.2.1.length)
 .rw[if_neg Q2,if_pos Z]
 rw[if_pos Z,if_neg Q2];unfold CK;rw[aY (aid F p o c)];have l:=abb b;have e:=iB (step:=uJ F p (JU p)) (K:=yS ()) (bad:=some 6) p.2.2.length (λk=>Wn (at' p.2.2 (k:Int)) (JU p)) (λk=>(k:Int)) (λk a d=>by
  have m:=Vz (zA2.1 j k (zAg.2 d));unfold uJ;rw[Q8,Q6,aY (aif F (r:=at' p.2.2 (k:Int)) (ks:=JU p) (by rw[EP];exact m) l (by rw[EP];omega) c),Q7];show(if(!Wn (at' p.2.2 (k:Int)) (JU p))=true then _ else _)=_;cases Wn (at' p.2.2 (k:Int)) (JU p)<;>simp) (λa=>by unfold uJ;rw[Q0]) F V7
 have e:bG (uJ F p (JU p)) F (0:Int)=_:=e;rw[e];unfold yS;cases (List.range p.2.2.length).all (λk=>Wn (at' p.2.2 (k:Int)) (JU p))
 .rw[if_neg Q2,if_pos Z]
 .rw[if_pos Z,if_neg Q2]
theorem ahL (F:Nat) {p:PG} (l:Sml p) (b:1000<=F):DD F p=some (chS p):=by
 have m:=l.v;have w:=l.r;unfold DD Cn chS;rw[aY (NR F _ _ _)];by_cases n:p.2.1.length=0
 .rw[if_pos (by simp[n]),if_pos Z,if_pos (.inl n)]
 by_cases u:6<p.2.1.length
 .rw[if_pos Q1,if_pos Z,if_pos (.inr (.inl u))]
 by_cases h:12<p.2.2.length
 .rw[if_neg Q1,if_pos Q1,if_pos (.inr (.inr h))]
 rw[if_neg Q1,if_neg Q1,Q0];rw[aY (ahP F p m w b)];cases x:RZ p
 .rw[if_pos Q2,if_pos Z]
 rw[if_neg Q2,if_neg Q2];have f:=iB (step:=uB F p) (K:=yF F p ()) (bad:=some 2) p.2.1.length (λk=>HW (at' p.2.1 (k:Int))) (λk=>(k:Int)) (λk a c=>by
  unfold uB;rw[Q8,Q6,aY (ajx F _),Q7];show(if(!HW (at' p.2.1 (k:Int)))=true then _ else _)=_;cases HW (at' p.2.1 (k:Int))<;>simp) (λa=>by unfold uB;rw[Q0]) F V7
 have f:bG (uB F p) F (0:Int)=_:=f;rw[f];cases o:(List.range p.2.1.length).all (λk=>HW (at' p.2.1 (k:Int)))
 .rw[if_neg Q2,if_pos Z]
 rw[if_pos Z,if_neg Q2];unfold yF;have e:=iB (step:=uA F p) (K:=yG F p ()) (bad:=some 7) p.2.2.length (λk=>SJ (at' p.2.2 (k:Int)) p.2.1.length) (λk=>(k:Int)) (λk a c=>by
  have⟨q,s,t⟩:=l.g _ (LX c);unfold uA;rw[Q8,Q6,aY (aet F _ p.2.1.length m s q t b),Q7];show(if(!SJ (at' p.2.2 (k:Int)) p.2.1.length)=true then _ else _)=_;cases SJ (at' p.2.2 (k:Int)) p.2.1.length<;>simp) (λa=>by unfold uA;rw[Q0]) F V7
 have e:bG (uA F p) F (0:Int)=_:=e;rw[e];cases i:(List.range p.2.2.length).all (λk=>SJ (at' p.2.2 (k:Int)) p.2.1.length)
 .rw[if_neg Q2,if_pos Z]
 rw[if_pos Z,if_neg Q2];unfold yG;have d:=iB (step:=t_ F p) (K:=yH ()) (bad:=some 6) p.2.2.length (λk=>Wn (at' p.2.2 (k:Int)) (JU p)) (λk=>(k:Int)) (λk a c=>by
  have j:=Vz (zA2.1 i k (zAg.2 c));unfold t_;rw[Q8,Q6,aY (ahN F p m b),aY (ahR F (r:=at' p.2.2 (k:Int)) (ks:=JU p) (by rw[EP];exact j) b),Q7];show(if(!Wn (at' p.2.2 (k:Int)) (JU p))=true then _ else _)=_;cases Wn (at' p.2.2 (k:Int)) (JU p)<;>simp) (λa=>by unfold t_;rw[Q0]) F V7
 have d:bG (t_ F p) F (0:Int)=_:=d;rw[d];unfold yH;cases (List.range p.2.2.length).all (λk=>Wn (at' p.2.2 (k:Int)) (JU p))
 .rw[if_neg Q2,if_pos Z]
 .rw[if_pos Z,if_neg Q2]
noncomputable def vdP (p:PG):V4:=decide (chS p=0)
theorem aih (F:Nat) {p:PG} (b:Sml p) (a:1000<=F):mP F p=some (vdP p):=by
 unfold mP;rw[aY (aia F b a)];rfl
theorem ahS (F:Nat) {p:PG} (b:Sml p) (a:1000<=F):Ao F p=some (vdP p):=by
 unfold Ao;rw[aY (ahL F b a)];rfl
structure VP (p:PG):Prop where
 v1:1<=p.2.1.length
 v6:p.2.1.length<=6
 r12:p.2.2.length<=12
 nm:RZ p=true
 rl:∀k,k<p.2.2.length->Rf (at' p.2.2 (k:Int)) p.2.1.length
theorem afI {p:PG} (h:vdP p=true):VP p:=by
 unfold vdP at h;rw[zAa]at h;unfold chS at h;split at h
 .cases h
 rename_i b;split at h
 .cases h
 rename_i c;split at h
 .cases h
 split at h
 .cases h
 rename_i d;exact⟨V7,V7,V7,by cases e:RZ p<;>simp_all,λk a=>Vz (zA2.1 (by cases f:(List.range p.2.2.length).all (λk=>SJ (at' p.2.2 (k:Int)) p.2.1.length)<;>simp_all) k (zAg.2 a))⟩
def RO (t:TM):TM:=if t.1=1 then(1,t.2)else if t.1=2 then(1,1)else if t.1=3 then(1,0)else if t.1=4 then(1,-1)else if t.1=5 then(2,t.2)else if t.1=12 then(3,t.2)else(4,t.1)
def X.sz:X->Nat
 |lf _=>1
 |un t x=>if agg t.1=true then x.sz+2 else x.sz+1
 |bi _ x y=>x.sz+y.sz+1
 |tr _ x y z=>x.sz+y.sz+z.sz+2
def X.cd:X->Nat->V6 TM
 |lf t,_=>[RO t]
 |un t x,b=>if agg t.1=true then(9,((b+1+x.sz:Nat):Int))::(x.cd (b+1)++[(10,t.1)])else x.cd b++[(5,t.1)]
 |bi t x y,b=>x.cd b++(y.cd (b+x.sz)++[(6,t.1)])
 |tr t x y z,b=>x.cd b++((7,((b+x.sz+1+y.sz+1:Nat):Int))::(y.cd (b+x.sz+1)++((8,((b+x.sz+1+y.sz+1+z.sz:Nat):Int))::z.cd (b+x.sz+1+y.sz+1))))
theorem X.cd_len:∀(x:X) (b:Nat),(x.cd b).length=x.sz
 |lf t,b=>rfl
 |un t x,b=>by
  have:=x.cd_len (b+1);have:=x.cd_len b;unfold X.cd X.sz;split<;>simp<;>omega
 |bi t x y,b=>by
  have:=x.cd_len b;have:=y.cd_len (b+x.sz);simp[X.cd,X.sz];omega
 |tr t x y z,b=>by
  have:=x.cd_len b;have:=y.cd_len (b+x.sz+1);have:=z.cd_len (b+x.sz+1+y.sz+1);simp[X.cd,X.sz];omega
theorem X.sz_le:∀x:X,x.sz<=2*x.ts.length
 |lf t=>by simp[X.sz,X.ts]
 |un t x=>by
  have:=x.sz_le;unfold X.sz X.ts;split<;>simp<;>omega
 |bi t x y=>by
  have:=x.sz_le;have:=y.sz_le;simp[X.sz,X.ts];omega
 |tr t x y z=>by
  have:=x.sz_le;have:=y.sz_le;have:=z.sz_le;simp[X.sz,X.ts];omega
end Go.Proofs.YtemmagadjnlajaaGreatDoor
namespace Go.Proofs.YtemmagadjnlajaaGreatDoor
open Go.Sx
def lV (U:Nat) (a:V4):V1 (Int):=
 if a=true then(some (1:Int))else(some (0:Int))
theorem Dq:aX prog 158:=call158
theorem oT {a:V4} (r:Int) (h:lV U a=some r):
  aZ prog 158 #[vB (a)] [] (λx:Unit=>vI (r)) (λx l=>l) (λ_ l=>l):=by
 refine aZ.of func158 Z ntmps158 Z λc=>Q3 Z<|aI<|Q5 Z<|aM<|iA h Z (λ_ h=>?_) λ_ h=>?_
 .refine Q3 Z<|aP<|aG ?_;cases h;exact gM Z
 refine bK<|Q3 Z<|aP ?_;cases h;exact gM Z
def mH (U:Nat) (a:Int):V1 (Int):=
 some (max (-1073741824:Int) (min a (1073741824:Int)))
theorem Js:aX prog 182:=call182
theorem qQ {a:Int} (r:Int) (h:mH U a=some r):
  aZ prog 182 #[vI (a)] [] (λx:Unit=>vI (r)) (λx l=>l) (λ_ l=>l):=by
 refine aZ.of func182 Z ntmps182 Z λc=>?_;unfold mH at h;refine Q3 Z<|Q5 Z<|aC (afb Z Z) Z<|aC (Gm Z Z) Z<|Q4 Z<|aP ?_;cases h;exact gM Z
def Dr (a:Int):V1 (Int):=
 some (a)
def Ai (c:dJ) (b:dW->V1 (Int)) (a:Int):V1 (Int):=
 b (a,(wI .i64 (c.2+(1:Int))))
def wG (c:bN) (a:dJ) (b:dW->V1 (Int)):V1 (Int):=
 if a.2<(c.length:Int)then(ck (0<=a.2/\a.2<(c.length:Int)) (if(at' c a.2)≠(0:Int)then(Ai a b (wI .i64 (a.1+(1:Int))))else(Ai a b (a.1))))else(Dr (a.1))
def uW (a:bN):V1 (Int):=
 bG (wG a) U ((0:Int),(0:Int))
theorem Ro:aX prog 185:=call185
theorem Ik {d:bN} (i:V0) (r:Int) (h:uW U d=some r):
  aZ prog 185 #[i] [Sl cQ i d] (λx:Unit=>vI (r)) (λx l=>l) (λ_ l=>l):=by
 refine aZ.of func185 Z ntmps185 Z λc=>?_;unfold uW at h;refine Q3 Z<|Q3 Z<|aI<|cC (λe=>Dr e=some r) (λe j=>[(3,vI (e))]) (λe j=>[]) ?_ ?_
 .refine Q5 Z<|eL (cG Z) Z<|aA Z<|aM<|aU<|eP (wG d) (λb k=>[(3,vI (b.1)),(6,i),(7,vI (d.length:Int)),(8,vI (b.2))]) (λb k=>[]) ((0:Int),(0:Int)) () h SF (aW.refl _) ?_;intro m b k h;refine aT<|cX Z<|aM<|aI<|eF h Z (λh=>?_) λh=>?_
  .refine bK<|aI<|cC (λa=>Ai b (bG (wG d) m) a=some r) (λa f=>[(3,vI (a)),(6,i),(7,vI (d.length:Int)),(8,vI (b.2))]) (λa f=>[]) ?_ ?_
   .refine aU<|aT<|eX h λg h=>aC (a_ Z Z (cG Z) Z Z g) Z<|aC (eC Z (cG Z) Z Z Z gC g) Z<|Q4 Z<|Q5 Z<|lK Z<|aM<|eF h Z (λh=>?_) λh=>?_
    .exact aL<|aA Z<|cP Z<|aB Z<|dK<|jZ<|cF (wI .i64 (b.1+(1:Int))) () h SF Z
    exact cZ<|jZ<|cF (b.1) () h SF Z
   intro a f h;unfold Ai at h;exact aL<|cP Z<|aA Z<|aM<|Ac (a,(wI .i64 (b.2+(1:Int)))) () h SF Z
  exact fK<|cF (b.1) () h SF Z
 intro e j h;unfold Dr at h;refine Q5 Z<|Q4 Z<|aP ?_;cases h;exact gM Z
def tD (a:Unit):V1 (Int):=
 some (-1:Int)
def kA (c:bN) (e:Int->V1 V4) (a:Int) (b:(Int)->V1 (Int)):V1 (Int):=
 if a<(c.length:Int)then(ck (0<=a/\a<(c.length:Int)) (Option.bind (e (at' c a)) λd=>(if d=true then(some (a))else(b (wI .i64 (a+(1:Int)))))))else(tD (()))
def rB (b:bN) (a:Int->V1 V4):V1 (Int):=
 bG (kA b a) U (0:Int)
theorem ado:aX prog 186:=call186
theorem KA {b:bN} {o:Int->V1 V4} (k:FuncId) (a:oA) (j:V6 bF) (e:aX prog k) (f:∀(t:Int) (r:V4),o t=some r->aZ prog k ([vI (t)]++a).toArray j (λ_:Unit=>vB (r)) (λ_ l=>l) (λ_ l=>l)) (i:V0) (r:Int) (h:rB U b o=some r):
  aZ prog 186 #[i,Value.func (.func k) #[] (a).toArray] ([Sl cQ i b]++j) (λx:Unit=>vI (r)) (λx l=>l) (λ_ l=>l):=by
 refine aZ.of func186 Z ntmps186 Z λc=>?_;unfold rB at h;refine Q3 Z<|aI<|xD (B:=Unit) (λg=>tD g=some r) (λg m=>[]) (λg m=>[]) (λg m=>([Sl cQ i b]++j)) ?_ ?_
 .refine Q5 Z<|eL (cG Z) Z<|aA Z<|aM<|aU<|Dp (B:=Unit) (kA b o) (λd n=>[(0,i),(1,Value.func (.func k) #[] (a).toArray),(7,vI (b.length:Int)),(8,vI (d))]) (λd n=>[]) (λd n=>([Sl cQ i b]++j)) (0:Int) () h SF (aW.refl _) (aE.refl _ _) ?_;intro v d n h;refine aT<|cX Z<|aM<|aI<|eF h Z (λh=>?_) λh=>?_
  .refine bK<|aI<|aU<|Q5 Z<|Q4 Z<|Q5 Z<|aA Z<|aA Z<|eX h λs h=>aC (a_ Z Z (cG Z) Z Z s) Z<|aC (eC Z (cG Z) Z Z Z gC s) Z<|dG h λp q h=>aK (Bo (vs:=[vI (at' b d)]) (cs:=a) e Z (f (at' b d) p q) Z (aE.tail _) (λ_ _=>rfl)) Z λu=>aM<|iA h Z (λ_ h=>?_) λ_ h=>?_
   .refine Q5 Z<|Q4 Z<|aP<|bB<|aG<|aG<|bB<|aG ?_;cases h;exact gM Z
   exact cZ<|jZ<|aL<|cP Z<|aA Z<|aM<|Ac (wI .i64 (d+(1:Int))) () h SF Z
  exact fK<|cF () (()) h SF Z
 intro g m h;unfold tD at h;refine Q3 Z<|aP ?_;cases h;exact gM Z
def sU (U:Nat) (a:Int):V1 V4:=
 some (decide (a≠(0:Int)))
theorem adp:aX prog 187:=call187
theorem PM {a:Int} (r:V4) (h:sU U a=some r):
  aZ prog 187 #[vI (a)] [] (λx:Unit=>vB (r)) (λx l=>l) (λ_ l=>l):=by
 refine aZ.of func187 Z ntmps187 Z λc=>?_;unfold sU at h;refine Q3 Z<|Q5 Z<|lK Z<|Q4 Z<|aP ?_;cases h;exact gM Z
def s_ (a:dJ):V1 dW:=
 some (a.1,a.2)
def pX (c:GG) (b:kZ->V1 dW) (a:dJ):V1 dW:=
 b (a.1,a.2,(wI .i64 (c.2.2+(1:Int))))
def m_ (c:bN) (a:GG) (b:kZ->V1 dW):V1 dW:=
 if a.2.2<(c.length:Int)then(ck (0<=a.2.2/\a.2.2<(c.length:Int)) (if a.1<(at' c a.2.2)then(pX a b ((at' c a.2.2),a.1))else(pX a b (a.1,(max a.2.1 (at' c a.2.2))))))else(s_ (a.1,a.2.1))
def oD (a:bN):V1 dW:=
 bG (m_ a) U ((-1073741824:Int),(-1073741824:Int),(0:Int))
theorem WX:aX prog 188:=call188
theorem FP {d:bN} (j:V0) (r:dJ) (h:oD U d=some r):
  aZ prog 188 #[j] [Sl cQ j d] (λx:Unit=>Value.tuple #[vI (r.1),vI (r.2)]) (λx l=>l) (λ_ l=>l):=by
 refine aZ.of func188 Z ntmps188 Z λc=>?_;unfold oD at h;refine aT<|aB Z<|Q4 Z<|aT<|aB Z<|Q4 Z<|aI<|cC (λe=>s_ e=some r) (λe m=>[(2,vI (e.1)),(3,vI (e.2))]) (λe m=>[]) ?_ ?_
 .refine Q5 Z<|eL (cG Z) Z<|aA Z<|aM<|aU<|eP (m_ d) (λb f=>[(2,vI (b.1)),(3,vI (b.2.1)),(6,j),(7,vI (d.length:Int)),(8,vI (b.2.2))]) (λb f=>[]) ((-1073741824:Int),(-1073741824:Int),(0:Int)) () h SF (aW.refl _) ?_;intro k b f h;refine aT<|cX Z<|aM<|aI<|eF h Z (λh=>?_) λh=>?_
  .refine bK<|aI<|cC (λa=>pX b (bG (m_ d) k) a=some r) (λa g=>[(2,vI (a.1)),(3,vI (a.2)),(6,j),(7,vI (d.length:Int)),(8,vI (b.2.2))]) (λa g=>[]) ?_ ?_
   .refine aU<|aT<|eX h λi h=>aC (a_ Z Z (cG Z) Z Z i) Z<|aC (eC Z (cG Z) Z Z Z gC i) Z<|Q4 Z<|Q5 Z<|aA Z<|aC (mA Z Z) Z<|aM<|eF h Z (λh=>?_) λh=>?_
    .exact aL<|aA Z<|aA Z<|aB Z<|aB Z<|dK<|jZ<|cF ((at' d b.2.2),b.1) () h SF Z
    exact aL<|aA Z<|aA Z<|aC (Gm Z Z) Z<|aB Z<|dK<|jZ<|cF (b.1,(max b.2.1 (at' d b.2.2))) () h SF Z
   intro a g h;unfold pX at h;exact aL<|cP Z<|aA Z<|aM<|Ac (a.1,a.2,(wI .i64 (b.2.2+(1:Int)))) () h SF Z
  exact fK<|cF (b.1,b.2.1) () h SF Z
 intro e m h;unfold s_ at h;refine Q5 Z<|aA Z<|aB Z<|Q4 Z<|aP ?_;cases h;exact gA () Z Z (RV.tmp Z) (RV.tmp Z) (aW.refl _) aE.nil
def Bd (a:Unit):V1 (Int):=
 some (-1:Int)
def nN (c:bN) (d a:Int) (b:(Int)->V1 (Int)):V1 (Int):=
 if a<(c.length:Int)then(ck (0<=a/\a<(c.length:Int)) (if d=(at' c a)then(some (a))else(b (wI .i64 (a+(1:Int))))))else(Bd (()))
def tV (a:bN) (b:Int):V1 (Int):=
 bG (nN a b) U (0:Int)
theorem adC:aX prog 216:=call216
theorem Pf {d:bN} {e:Int} (f:V0) (r:Int) (h:tV U d e=some r):
  aZ prog 216 #[f,vI (e)] [Sl cQ f d] (λx:Unit=>vI (r)) (λx l=>l) (λ_ l=>l):=by
 refine aZ.of func216 Z ntmps216 Z λc=>?_;unfold tV at h;refine Q3 Z<|aI<|cC (λa=>Bd a=some r) (λa g=>[]) (λa g=>[]) ?_ ?_
 .refine Q5 Z<|eL (cG Z) Z<|aA Z<|aM<|aU<|eP (nN d e) (λb i=>[(0,f),(1,vI (e)),(7,vI (d.length:Int)),(8,vI (b))]) (λb i=>[]) (0:Int) () h SF (aW.refl _) ?_;intro k b i h;refine aT<|cX Z<|aM<|aI<|eF h Z (λh=>?_) λh=>?_
  .refine bK<|aI<|aU<|Q5 Z<|Q4 Z<|Q5 Z<|aA Z<|aA Z<|eX h λj h=>aC (a_ Z Z (cG Z) Z Z j) Z<|aC (eC Z (cG Z) Z Z Z gC j) Z<|bP Z<|aM<|eF h Z (λh=>?_) λh=>?_
   .refine Q5 Z<|Q4 Z<|aP<|bB<|aG<|aG<|bB<|aG ?_;cases h;exact gM Z
   exact cZ<|jZ<|aL<|cP Z<|aA Z<|aM<|Ac (wI .i64 (b+(1:Int))) () h SF Z
  exact fK<|cF () (()) h SF Z
 intro a g h;unfold Bd at h;refine Q3 Z<|aP ?_;cases h;exact gM Z
def wV (a:bN) (b:Int):V1 V4:=
 Option.bind (tV U a b) λc=>(some (decide ((0:Int)<=c)))
theorem adA:aX prog 206:=call206
theorem LA {b:bN} {d:Int} (a:V0) (r:V4) (h:wV U b d=some r):
  aZ prog 206 #[a,vI (d)] [Sl cQ a b] (λx:Unit=>vB (r)) (λx l=>l) (λ_ l=>l):=by
 refine aZ.of func206 Z ntmps206 Z λc=>Q3 Z<|Q5 Z<|aA Z<|dG h λe f h=>aK (zB8 adC (Pf U a e f) Z (gK [0] Z)) Z λg=>aC (lD Z Z) Z<|Q4 Z<|aP ?_;cases h;exact gM Z
def Gt (a:Int):V1 (Int):=
 some (a)
def Ek (c:bN) (a:Int) (b:(Int)->V1 (Int)):V1 (Int):=
 Option.bind (wV U c a) λd=>(if d=true then(b (wI .i64 (a+(1:Int))))else(Gt (a)))
def FD (a:bN):V1 (Int):=
 bG (Ek U a) U (0:Int)
theorem adq:aX prog 189:=call189
theorem Wi {e:bN} (d:V0) (r:Int) (h:FD U e=some r):
  aZ prog 189 #[d] [Sl cQ d e] (λx:Unit=>vI (r)) (λx l=>l) (λ_ l=>l):=by
 refine aZ.of func189 Z ntmps189 Z λc=>?_;unfold FD at h;refine Q3 Z<|Q3 Z<|aI<|cC (λa=>Gt a=some r) (λa g=>[(3,vI (a))]) (λa g=>[]) ?_ ?_
 .refine aU<|eP (Ek U e) (λb i=>[(0,d),(3,vI (b))]) (λb i=>[]) (0:Int) () h SF (aW.refl _) ?_;intro m b i h;refine aI<|Q5 Z<|aA Z<|dG h λj f h=>aK (zB8 adA (LA U d j f) Z (gK [0] Z)) Z λk=>aM<|iA h Z (λ_ h=>?_) λ_ h=>?_
  .exact bK<|aU<|aL<|aA Z<|cP Z<|aB Z<|dK<|jZ<|Ac (wI .i64 (b+(1:Int))) () h SF Z
  exact fK<|cF (b) () h SF Z
 intro a g h;unfold Gt at h;refine Q5 Z<|Q4 Z<|aP ?_;cases h;exact gM Z
def EO (a:Int):V1 (Int):=
 some (a)
def zC (c:bN) (a:dJ) (b:dW->V1 (Int)):V1 (Int):=
 if a.2<(c.length:Int)then(ck (0<=a.2/\a.2<(c.length:Int)) (b ((min a.1 (at' c a.2)),(wI .i64 (a.2+(1:Int))))))else(EO (a.1))
def HQ (a:Int):V1 (Int):=
 Option.bind (mH U a) λb=>(some (b))
def zD (c:bN) (a:dJ) (b:dW->V1 (Int)):V1 (Int):=
 if a.2<(c.length:Int)then(ck (0<=a.2/\a.2<(c.length:Int)) (b ((wI .i64 (a.1+(at' c a.2))),(wI .i64 (a.2+(1:Int))))))else(HQ U (a.1))
def En (b:Int) (a:bN):V1 (Int):=
 if b=(20:Int)then(Option.bind (uW U a) λi=>(Option.bind (lV U (decide (i=(a.length:Int)))) λj=>(some (j))))else(if b=(21:Int)then(Option.bind (uW U a) λk=>(Option.bind (lV U (decide ((0:Int)<k))) λc=>(some (c))))else(if b=(22:Int)then(Option.bind (uW U a) λd=>(some (d)))else(if b=(23:Int)then(Option.bind (rB U a (λl=>sU U l)) λe=>(some (e)))else(if b=(24:Int)then(bG (zC a) U ((1073741824:Int),(0:Int)))else(if b=(25:Int)then(Option.bind (oD U a) λf=>(some (f.1)))else(if b=(26:Int)then(bG (zD U a) U ((0:Int),(0:Int)))else(if b=(27:Int)then(Option.bind (FD U a) λg=>(some (g)))else(if b=(28:Int)then(Option.bind (oD U a) λh=>(some (h.2)))else(if(a.length:Int)=(0:Int)then(some (0:Int))else(ck (0<=(0:Int)/\(0:Int)<(a.length:Int)) (some (at' a (0:Int)))))))))))))
theorem WS:aX prog 162:=call162
theorem Na {H:Int} {g:bN} (f:V0) (r:Int) (h:En U H g=some r):
  aZ prog 162 #[vI (H),f] [Sl cQ f g] (λx:Unit=>vI (r)) (λx l=>l) (λ_ l=>l):=by
 refine aZ.of func162 Z ntmps162 Z λc=>Q3 Z<|aI<|Q5 Z<|aM<|aU<|aT<|bP Z<|Q4 Z<|eF h Z (λh=>?_) λh=>?_
 .refine Q5 Z<|dG h λK N h=>aK (zB8 Ro (Ik U f K N) Z (gK [0] Z)) Z λY=>aA Z<|eL (cG Z) Z<|bP Z<|dG h λL O h=>aK (zB8 Dq (oT U L O) Z .nil) Z λx7=>Q4 Z<|aP<|bB<|aG ?_;cases h;exact gM Z
 refine aT<|bP Z<|Q4 Z<|eF h Z (λh=>?_) λh=>?_
 .refine Q5 Z<|dG h λM z h=>aK (zB8 Ro (Ik U f M z) Z (gK [0] Z)) Z λP=>aC (mA Z Z) Z<|dG h λq A h=>aK (zB8 Dq (oT U q A) Z .nil) Z λQ=>Q4 Z<|aP<|bB<|aG ?_;cases h;exact gM Z
 refine aT<|bP Z<|Q4 Z<|eF h Z (λh=>?_) λh=>?_
 .refine Q5 Z<|dG h λs B h=>aK (zB8 Ro (Ik U f s B) Z (gK [0] Z)) Z λR=>Q4 Z<|aP<|bB<|aG ?_;cases h;exact gM Z
 refine aT<|bP Z<|Q4 Z<|eF h Z (λh=>?_) λh=>?_
 .refine Q5 Z<|dG h λt C h=>aK (zB8 ado (KA U 187 [] [] adp (λy0 r h=>PM U r h) f t C) Z (gK [0] Z)) Z λS=>Q4 Z<|aP<|bB<|aG ?_;cases h;exact gM Z
 refine aT<|bP Z<|Q4 Z<|eF h Z (λh=>?_) λh=>?_
 .refine Q3 Z<|aI<|cC (λd=>EO d=some r) (λd i=>[(5,vI (d))]) (λd i=>[]) ?_ ?_
  .refine Q5 Z<|eL (cG Z) Z<|aA Z<|aM<|aU<|eP (zC g) (λa j=>[(5,vI (a.1)),(40,f),(41,vI (g.length:Int)),(42,vI (a.2))]) (λa j=>[]) ((1073741824:Int),(0:Int)) () h SF (aW.refl _) ?_;intro I a j h;refine aT<|cX Z<|aM<|aI<|eF h Z (λh=>?_) λh=>?_
   .exact bK<|aI<|aU<|aT<|eX h λn h=>aC (a_ Z Z (cG Z) Z Z n) Z<|aC (eC Z (cG Z) Z Z Z gC n) Z<|Q4 Z<|aL<|aA Z<|aA Z<|aC (afb Z Z) Z<|aB Z<|dK<|jZ<|aL<|cP Z<|aA Z<|aM<|Ac ((min a.1 (at' g a.2)),(wI .i64 (a.2+(1:Int)))) () h SF Z
   exact fK<|cF (a.1) () h SF Z
  intro d i h;unfold EO at h;refine Q5 Z<|Q4 Z<|aP<|bB<|aG ?_;cases h;exact gM Z
 refine aT<|bP Z<|Q4 Z<|eF h Z (λh=>?_) λh=>?_
 .refine Q5 Z<|dG h λu D h=>aK (zB8 WX (FP U f u D) Z (gK [0] Z)) Z λT=>aA Z<|fL Z<|fL Z<|aB Z<|Q4 Z<|Q5 Z<|Q4 Z<|aP<|bB<|aG ?_;cases h;exact gM Z
 refine aT<|bP Z<|Q4 Z<|eF h Z (λh=>?_) λh=>?_
 .refine Q3 Z<|aI<|cC (λe=>HQ U e=some r) (λe k=>[(10,vI (e))]) (λe k=>[]) ?_ ?_
  .refine Q5 Z<|eL (cG Z) Z<|aA Z<|aM<|aU<|eP (zD U g) (λb m=>[(10,vI (b.1)),(61,f),(62,vI (g.length:Int)),(63,vI (b.2))]) (λb m=>[]) ((0:Int),(0:Int)) () h SF (aW.refl _) ?_;intro J b m h;refine aT<|cX Z<|aM<|aI<|eF h Z (λh=>?_) λh=>?_
   .exact bK<|aI<|aU<|aT<|eX h λo h=>aC (a_ Z Z (cG Z) Z Z o) Z<|aC (eC Z (cG Z) Z Z Z gC o) Z<|Q4 Z<|aL<|aA Z<|aA Z<|cP Z<|aB Z<|dK<|jZ<|aL<|cP Z<|aA Z<|aM<|Ac ((wI .i64 (b.1+(at' g b.2))),(wI .i64 (b.2+(1:Int)))) () h SF Z
   exact fK<|cF (b.1) () h SF Z
  intro e k h;refine Q5 Z<|dG h λv E h=>aK (zB8 Js (qQ U v E) Z .nil) Z λV=>Q4 Z<|aP<|bB<|aG ?_;cases h;exact gM Z
 refine aT<|bP Z<|Q4 Z<|eF h Z (λh=>?_) λh=>?_
 .refine Q5 Z<|dG h λw F h=>aK (zB8 adq (Wi U f w F) Z (gK [0] Z)) Z λW=>Q4 Z<|aP<|bB<|aG ?_;cases h;exact gM Z
 refine aT<|bP Z<|Q4 Z<|eF h Z (λh=>?_) λh=>?_
 .refine Q5 Z<|dG h λy G h=>aK (zB8 WX (FP U f y G) Z (gK [0] Z)) Z λX=>aA Z<|fL Z<|fL Z<|aB Z<|Q4 Z<|Q5 Z<|Q4 Z<|aP<|bB<|aG ?_;cases h;exact gM Z
 refine cZ<|jZ<|aI<|Q5 Z<|eL (cG Z) Z<|bP Z<|aM<|eF h Z (λh=>?_) λh=>?_
 .refine Q3 Z<|aP<|aG ?_;cases h;exact gM Z
 refine bK<|Q5 Z<|eX h λp h=>aC (a_ Z Z (cG Z) Z Z p) Z<|aC (eC Z (cG Z) Z Z Z gC p) Z<|Q4 Z<|aP ?_;cases h;exact gM Z
end Go.Proofs.YtemmagadjnlajaaGreatDoor
namespace Go.Proofs.YtemmagadjnlajaaGreatDoor
open Go Go.Sx
theorem acF {b:Type} [Inhabited b] {T a rest:V6 b} {x:b} {k:Nat} (c:T=a++x::rest) (d:a.length=k):at' T (k:Int)=x:=by
 subst c;exact h_ a rest x k d
theorem eZ {k:Nat} (h:k<1000000):wI .i64 ((k:Int)+1)=((k+1:Nat):Int):=by rw[wr (by omega) (by omega)];rfl
theorem Q9 {k:Nat} (h:k<1000000:=by omega):wI .i64 ((k:Int)+1)=((k+1:Nat):Int):=eZ h
def Yq (b:V4):Int:=if b then 1 else 0
theorem AC (f:Nat) (b:V4):lV f b=some (Yq b):=by cases b<;>rfl
theorem JE {a:Type} [Inhabited a] {l:V6 a} {k:Nat} (h:k<l.length):l.take (k+1)=l.take k++[at' l (k:Int)]:=by
 rw[List.take_add_one,zA1 h,BH,zAm,zA1 h];rfl
theorem Zl {a:Type} [Inhabited a] {l:V6 a} {k:Nat} (h:k<l.length):at' l (k:Int)=l[k]:=by
 rw[BH,zAm,zA1 h];rfl
theorem afq {p:Nat->Prop}:∀(n:Nat),p n->∃m,m<=n/\p m/\∀j,j<m->¬p j:=by
 intro n
 induction n using Nat.strongRecOn with
 | _ n ih =>
  intro h;by_cases d:∃m,m<n/\p m
  .have⟨m,e,f⟩:=d;have⟨k,a,b,c⟩:=ih m e f;exact⟨k,V7,b,c⟩
  .exact⟨n,zAf n,h,λj g i=>d ⟨j,g,i⟩⟩
theorem XD {g:Type} [DecidableEq g]:∀(c b:V6 g),c.Nodup->(∀x∈c,x∈b)->c.length<=b.length
 | [],b,_,_=>Nat.zero_le _
 |a::c,b,h,hs=>by
  have d:=hs a zAd;have h:=List.nodup_cons.1 h;have:=XD c (b.erase a) h.2 (λx f=>(List.mem_erase_of_ne (fun(e:x=a)=>h.1 (by rw[<-e];exact f))).2 (hs x (zAk _ f)));rw[List.length_erase_of_mem d]at this;have i:0<b.length:=List.length_pos_of_mem d;simp only[zA3];omega
def nz (x:Int):V4:=decide (x≠0)
theorem aap (f:Nat) (l:bN) (h:l.length<f) (e:l.length<=1000):uW f l=some ((l.countP nz:Nat):Int):=by
 unfold uW;have:=gW (step:=wG l) (K:=some ((l.countP nz:Nat):Int)) l.length (λk=>(((l.take k).countP nz:Nat),(k:Int))) (λk b c=>by
  have d:(l.take k).countP nz<=k:=zAz List.countP_le_length Q1;unfold wG Ai;dsimp only;rw[Q8,Q6,JE c,List.countP_append,Q9,Q9];by_cases a:at' l (k:Int)=0
  .rw[if_neg (by simpa using a)];simp[nz,a]
  .rw[if_pos a];simp[nz,a]) (λb=>by
  unfold wG Dr;dsimp only;rw[Q0,List.take_length]) f h
 exact this
theorem ML (f:Nat) (l:bN) (x:Int) (h:l.length<f) (t:l.length<=1000):wV f l x=some (decide (x∈l)):=by
 have q:∃i:Int,tV f l x=some i/\(0<=i↔x∈l):=by
  by_cases b:x∈l
  .have⟨i,r,o⟩:=List.mem_iff_getElem.1 b;have a:∃i,i<l.length/\at' l (i:Int)=x/\∀j,j<i->at' l (j:Int)≠x:=by
    have⟨m,d,c,s⟩:=afq (p:=λi=>at' l (i:Int)=x) i (by rw[Zl r,o]);exact⟨m,V7,c,s⟩
   have⟨i,r,d,c⟩:=a;refine⟨i,?_,iff_of_true V7 b⟩
   unfold tV;exact gW (step:=nN l x) (K:=some (i:Int)) i (λk=>(k:Int)) (λk n g=>by
    unfold nN;rw[Q8,Q6,if_neg (λe=>c k g e.symm),Q9]) (λn=>by
    unfold nN;rw[Q8,Q6,if_pos d.symm]) f V7
  .refine⟨-1,?_,iff_of_false V7 b⟩
   unfold tV;exact gW (step:=nN l x) (K:=some (-1)) l.length (λk=>(k:Int)) (λk n g=>by
    unfold nN;rw[Q8,Q6,if_neg (λe=>b (by rw[e,Zl g];exact List.getElem_mem g)),Q9]) (λn=>by
    unfold nN Bd;rw[Q0]) f h
 have⟨i,d,c⟩:=q;unfold wV;rw[aY d];by_cases b:x∈l
 .rw[zAc b,zAc (c.2 b)]
 .rw[zA6 b,zA6 (λe=>b (c.1 e))]
def Kr (l:bN):Int:=match l.findIdx? nz with
 |some i=>(i:Int)
 |none=> -1
theorem TQ {l:bN} {i:Nat} (a:i<l.length) (b:at' l (i:Int)≠0) (c:∀j,j<i->at' l (j:Int)=0):Kr l=i:=by
 have:l.findIdx? nz=some i:=by
  rw[List.findIdx?_eq_some_iff_getElem];refine⟨a,by rw[<-Zl a];simpa [nz]using b,λj d=>?_⟩
  have:=c j d;rw[Zl V7]at this;simp[nz,this]
 unfold Kr;rw[this]
theorem TP {l:bN} (h:∀j,j<l.length->at' l (j:Int)=0):Kr l = -1:=by
 have:l.findIdx? nz=none:=by
  rw[List.findIdx?_eq_none_iff];intro x b;obtain⟨i,a,rfl⟩:=List.mem_iff_getElem.1 b;have:=h i a;rw[Zl a]at this;simp[nz,this]
 unfold Kr;rw[this]
theorem aaJ (f:Nat) (l:bN) (h:l.length<f) (t:l.length<=1000):rB f l (λq=>sU f q)=some (Kr l):=by
 unfold rB;by_cases a:∃i,i<l.length/\at' l (i:Int)≠0
 .have⟨i,s,o⟩:=a;have⟨m,r,n,b⟩:=afq (p:=λi=>at' l (i:Int)≠0) i o;have b:∀j,j<m->at' l (j:Int)=0:=λj d=>zB7.1 (b j d);rw[TQ V7 n b];exact gW (step:=kA l _) (K:=some (m:Int)) m (λk=>(k:Int)) (λk c g=>by
   unfold kA sU;rw[Q8,Q6,aY Z,if_neg (by simp[b k g]),Q9]) (λc=>by
   unfold kA sU;rw[Q8,Q6,aY Z,if_pos (by simpa using n)]) f V7
 .have a:∀j,j<l.length->at' l (j:Int)=0:=λj d=>zB7.1 λe=>a ⟨j,d,e⟩;rw[TP a];exact gW (step:=kA l _) (K:=some (-1)) l.length (λk=>(k:Int)) (λk c g=>by
   unfold kA sU;rw[Q8,Q6,aY Z,if_neg (by simp[a k g]),Q9]) (λc=>by
   unfold kA tD;rw[Q0]) f h
def abm (l:bN):Int:=l.foldl min 1073741824
theorem ahH (f:Nat) (l:bN) (h:l.length<f) (c:l.length<=1000):bG (zC l) f ((1073741824:Int),(0:Int))=some (abm l):=by
 exact gW (step:=zC l) (K:=some (abm l)) l.length (λk=>((l.take k).foldl min 1073741824,(k:Int))) (λk a b=>by
  unfold zC;dsimp only;rw[Q8,Q6,JE b,List.foldl_append,Q9];rfl) (λa=>by
  unfold zC EO;dsimp only;rw[Q0,List.take_length];rfl) f h
theorem abn (l:bN):abm l=1073741824\/abm l∈l:=by
 have b:∀(l:bN) (a:Int),l.foldl min a=a\/l.foldl min a∈l:=by
  intro l
  induction l with
  |nil=>intro a;exact .inl Z
  | cons y l ih =>
   intro a;rcases ih (min a y)with h|h
   .simp only[List.foldl_cons,h];rcases Int.le_total a y with q|q
    .left;omega
    .right;rw[show min a y=y by omega];exact zAd
   .right;exact zAk _ h
 exact b l _
def TY (l:bN):Nat->Nat->Nat
 |0,k=>k
 |f+1,k=>if((k:Nat):Int)∈l then TY l f (k+1)else k
def VL (l:bN):Nat:=TY l (l.length+1) 0
theorem TZ (l:bN):((VL l:Nat):Int)∉l/\(∀j,j<VL l->((j:Nat):Int)∈l)/\VL l<=l.length:=by
 have key:∀(f k:Nat),(∀j,j<k->((j:Nat):Int)∈l)->(∀j,j<TY l f k->((j:Nat):Int)∈l)/\(TY l f k=k+f\/((TY l f k:Nat):Int)∉l):=by
  intro f
  induction f with
  |zero=>intro k h;exact⟨h,.inl Z⟩
  | succ f ih =>
   intro k h;by_cases hk:((k:Nat):Int)∈l
   .have:=ih (k+1) (λj hj=>by
     rcases zAy j k with q|q
     .exact h j q
     .rw[show j=k by omega];exact hk)
    simp only[TY,if_pos hk];exact⟨this.1,this.2.imp (λe=>by omega) id⟩
   .simp only[TY,if_neg hk];exact⟨h,.inr hk⟩
 have hle:∀m,(∀j,j<m->((j:Nat):Int)∈l)->m<=l.length:=λm h=>by
  have:=XD ((List.range m).map λj=>((j:Nat):Int)) l (by
   rw[List.nodup_iff_pairwise_ne,List.pairwise_map];exact(List.nodup_iff_pairwise_ne.1 List.nodup_range).imp (λh e=>h (by omega))) (λx hx=>by
   obtain⟨j,hj,rfl⟩:=zB5.1 hx;exact h j (zAg.1 hj))
  simpa using this
 obtain⟨h1,h2⟩:=key (l.length+1) 0 (λj hj=>by omega);have h3:=hle _ h1;refine⟨?_,h1,h3⟩
 rcases h2 with h2|h2
 .have:TY l (l.length+1) 0<=l.length:=h3;omega
 .exact h2
theorem ahG (f:Nat) (l:bN) (h:l.length+2<f) (hl:l.length<=900):FD f l=some ((VL l:Nat):Int):=by
 obtain⟨h1,h2,h3⟩:=TZ l;unfold FD;exact gW (step:=Ek f l) (K:=some ((VL l:Nat):Int)) (VL l) (λk=>(k:Int)) (λk ag hk=>by
  unfold Ek;rw[aY (ML f l (k:Int) (by omega) (by omega)),if_pos (by simpa using h2 k hk),eZ (by omega)]) (λag=>by
  unfold Ek Gt;rw[aY (ML f l _ (by omega) (by omega)),if_neg (by simpa using h1)]) f (by omega)
def aeB (l:bN):Int:=l.foldl (λa x=>wI .i64 (a+x)) 0
theorem ah_ (f:Nat) (l:bN) (h:l.length<f) (c:l.length<=1000):bG (zD f l) f ((0:Int),(0:Int))=HQ f (aeB l):=by
 refine(gW (step:=zD f l) l.length (λk=>(aeB (l.take k),(k:Int))) (λk a b=>?_) (λa=>?_) f h).trans Z
 .unfold zD;dsimp only;rw[Q8,Q6,Q9,JE b];unfold aeB;rw[List.foldl_append];rfl
 .unfold zD;dsimp only;rw[Q0,List.take_length]
def gtF (a:dJ) (x:Int):dJ:=if a.1<x then(x,a.1)else(a.1,max a.2 x)
def gtD (l:bN):dJ:=l.foldl gtF (-1073741824,-1073741824)
theorem ajb (f:Nat) (l:bN) (h:l.length<f) (c:l.length<=1000):oD f l=some (gtD l):=by
 unfold oD;exact gW (step:=m_ l) (K:=some (gtD l)) l.length (λk=>((gtD (l.take k)).1,(gtD (l.take k)).2,(k:Int))) (λk a b=>by
  unfold m_ pX;dsimp only;rw[Q8,Q6,JE b,Q9];unfold gtD;rw[List.foldl_append];show _=a ((gtF _ _).1,(gtF _ _).2,_);unfold gtF;split<;>rfl) (λa=>by
  unfold m_ s_;dsimp only;rw[Q0,List.take_length]) f h
theorem aaO (l:bN):((gtD l).1 = -1073741824\/(gtD l).1∈l)/\((gtD l).2 = -1073741824\/(gtD l).2∈l):=by
 have d:∀(l L:bN) (a:dJ),(∀x∈l,x∈L)->(a.1 = -1073741824\/a.1∈L)->(a.2 = -1073741824\/a.2∈L)->((l.foldl gtF a).1 = -1073741824\/(l.foldl gtF a).1∈L)/\((l.foldl gtF a).2 = -1073741824\/(l.foldl gtF a).2∈L):=by
  intro l L
  induction l with
  |nil=>exact λa _ b c=>⟨b,c⟩
  | cons y l ih =>
   intro a e b c;have f:=e y zAd;refine ih (gtF a y) (λx g=>e x (zAk _ g)) ?_ ?_
   .unfold gtF;split
    .exact .inr f
    .exact b
   .unfold gtF;split
    .exact b
    .show max a.2 y=_\/_;rcases Int.le_total a.2 y with q|q
     .rw[show max a.2 y=y by omega];exact .inr f
     .rw[show max a.2 y=a.2 by omega];exact c
 exact d l l _ (λ_ h=>h) (.inl Z) (.inl Z)
def Gu (o:Int) (l:bN):Int:=
 if o=20 then Yq (l.all nz)else if o=21 then Yq (l.any nz)else if o=22 then((l.countP nz:Nat):Int)else if o=23 then Kr l else if o=24 then abm l else if o=25 then(gtD l).1 else if o=26 then max (-1073741824) (min (aeB l) 1073741824)else if o=27 then((VL l:Nat):Int)else if o=28 then(gtD l).2 else if l.length=0 then 0 else at' l 0
theorem Xo (f:Nat) (o:Int) (l:bN) (hf:40<=f) (hl:l.length<=24):En f o l=some (Gu o l):=by
 have hc:=aap f l (by omega) (by omega);have hg:=ajb f l (by omega) (by omega);unfold En Gu;by_cases h:o=20
 .rw[if_pos h,if_pos h,aY hc,aY (AC f _)];have:(decide (((l.countP nz:Nat):Int)=(l.length:Int)))=l.all nz:=by
   rw[Bool.eq_iff_iff];simp[List.countP_eq_length,Int.ofNat_inj]
  rw[this]
 rw[if_neg h,if_neg h];by_cases h:o=21
 .rw[if_pos h,if_pos h,aY hc,aY (AC f _)];have:(decide ((0:Int)<((l.countP nz:Nat):Int)))=l.any nz:=by
   rw[Bool.eq_iff_iff,zAa,List.any_eq_true,show((0:Int)<((l.countP nz:Nat):Int))↔0<l.countP nz by omega,List.countP_pos_iff]
  rw[this]
 rw[if_neg h,if_neg h];by_cases h:o=22
 .rw[if_pos h,if_pos h,aY hc]
 rw[if_neg h,if_neg h];by_cases h:o=23
 .rw[if_pos h,if_pos h,aY (aaJ f l (by omega) (by omega))]
 rw[if_neg h,if_neg h];by_cases h:o=24
 .rw[if_pos h,if_pos h,ahH f l (by omega) (by omega)]
 rw[if_neg h,if_neg h];by_cases h:o=25
 .rw[if_pos h,if_pos h,aY hg]
 rw[if_neg h,if_neg h];by_cases h:o=26
 .rw[if_pos h,if_pos h,ah_ f l (by omega) (by omega)];rfl
 rw[if_neg h,if_neg h];by_cases h:o=27
 .rw[if_pos h,if_pos h,aY (ahG f l (by omega) (by omega))]
 rw[if_neg h,if_neg h];by_cases h:o=28
 .rw[if_pos h,if_pos h,aY hg]
 rw[if_neg h,if_neg h];by_cases h:l.length=0
 .rw[if_pos (by omega),if_pos h]
 .rw[if_neg (by omega),if_neg h,dM (by omega)]
def Ez (v:Int):Prop:= -1073741824<=v/\v<=1073741824
theorem aaL (o:Int) {l:bN} (hl:l.length<=24) (h:∀x∈l,Ez x):Ez (Gu o l):=by
 have hb:∀b:Bool,Ez (Yq b):=λb=>by cases b<;>(unfold Ez Yq;simp)
 have hm:∀x:Int,(x = -1073741824\/x∈l)->Ez x:=λx hx=>by
  rcases hx with rfl|hx
  .unfold Ez;omega
  .exact h x hx
 unfold Gu;split
 .exact hb _
 split
 .exact hb _
 split
 .have:l.countP nz<=l.length:=List.countP_le_length;unfold Ez;omega
 split
 .unfold Kr;cases hf:l.findIdx? nz with
  |none=>unfold Ez;simp
  |some i=>
   have:=(List.findIdx?_eq_some_iff_getElem.1 hf).1;unfold Ez;dsimp only;omega
 split
 .rcases abn l with q|q
  .rw[q];unfold Ez;omega
  .exact h _ q
 split
 .exact hm _ (aaO l).1
 split
 .unfold Ez;omega
 split
 .have:=(TZ l).2.2;unfold Ez;omega
 split
 .exact hm _ (aaO l).2
 split
 .unfold Ez;omega
 .rename_i h0;have:at' l ((0:Nat):Int)∈l:=by rw[Zl (show 0<l.length by omega)];exact List.getElem_mem _
  exact h _ this
end Go.Proofs.YtemmagadjnlajaaGreatDoor
namespace Go.Proofs.YtemmagadjnlajaaGreatDoor
open Go.Sx
def BU (b a:Int):V1 (Int):=
 if b=(18:Int)then(some (wI .i64 (0 - a)))else(Option.bind (lV U (decide (a=(0:Int)))) λc=>(some (c)))
theorem WQ:aX prog 160:=call160
theorem Lt {a b:Int} (r:Int) (h:BU U a b=some r):
  aZ prog 160 #[vI (a),vI (b)] [] (λx:Unit=>vI (r)) (λx l=>l) (λ_ l=>l):=by
 refine aZ.of func160 Z ntmps160 Z λc=>Q3 Z<|aI<|Q5 Z<|bP Z<|aM<|eF h Z (λh=>?_) λh=>?_
 .refine Q5 Z<|aC (WE Z) Z<|Q4 Z<|aP<|aG ?_;cases h;exact gM Z
 refine bK<|Q5 Z<|bP Z<|dG h λd e h=>aK (zB8 Dq (oT U d e) Z .nil) Z λf=>Q4 Z<|aP ?_;cases h;exact gM Z
def tQ (a:Int):V1 (Int):=
 some (a)
def zE (a b:Int) (c:V4):V1 (Int):=
 if c=true then(tQ (wI .i64 ((wI .i64 (Int.tdiv a b)) - (1:Int))))else(tQ (wI .i64 (Int.tdiv a b)))
def vJ (U:Nat) (b a:Int):V1 (Int):=
 if a=(0:Int)then(some (0:Int))else(ck (a≠0) (ck (a≠0) (if(Int.tmod b a)≠(0:Int)then(zE b a (((decide (b<(0:Int))) != (decide (a<(0:Int))))))else(zE b a (false)))))
theorem WW:aX prog 183:=call183
theorem Is {a b:Int} (r:Int) (h:vJ U a b=some r):
  aZ prog 183 #[vI (a),vI (b)] [] (λx:Unit=>vI (r)) (λx l=>l) (λ_ l=>l):=by
 refine aZ.of func183 Z ntmps183 Z λc=>Q3 Z<|aI<|Q5 Z<|bP Z<|aM<|eF h Z (λh=>?_) λh=>?_
 .refine Q3 Z<|aP<|aG ?_;cases h;exact gM Z
 refine bK<|Q5 Z<|aA Z<|eX h λj h=>aC (afW Z Z j) Z<|Q4 Z<|aI<|cC (λd=>tQ d=some r) (λd g=>[(5,vI (d))]) (λd g=>[]) ?_ ?_
 .refine aI<|cC (λe=>zE a b e=some r) (λe i=>[(5,vI (wI .i64 (Int.tdiv a b))),(21,vB (e))]) (λe i=>[]) ?_ ?_
  .refine aL<|aA Z<|aA Z<|eX h λf h=>aC (afc Z Z f) Z<|lK Z<|aA Z<|mL h Z (λ_ h=>?_) λ_ h=>?_
   .exact bH Z<|aF Z (Hg Z Z) Z<|bH Z<|aF Z (Hg Z Z) Z<|aF Z (ZU Z Z Z) Z<|bO Z<|aM<|cF (((decide (a<(0:Int))) != (decide (b<(0:Int))))) () h SF Z
   exact aD Z<|aD Z<|aD Z<|aD Z<|aD Z<|bT Z<|aM<|cF (false) () h SF Z
  intro e i h;refine iA h Z (λ_ h=>?_) λ_ h=>?_
  .exact aL<|aA Z<|aC (kT Z Z) Z<|Q4 Z<|cF (wI .i64 ((wI .i64 (Int.tdiv a b)) - (1:Int))) () h SF Z
  exact bK<|cF (wI .i64 (Int.tdiv a b)) () h SF Z
 intro d g h;unfold tQ at h;refine Q5 Z<|Q4 Z<|aP ?_;cases h;exact gM Z
def AN (U:Nat) (c a b:Int):V1 V4:=
 if c=(35:Int)then(some (decide (a=b)))else(if c=(36:Int)then(some (decide (a≠b)))else(if c=(37:Int)then(some (decide (a<b)))else(if c=(38:Int)then(some (decide (a<=b)))else(if c=(39:Int)then(some (decide (b<a)))else(some (decide (b<=a)))))))
theorem adn:aX prog 184:=call184
theorem Ni {a b d:Int} (r:V4) (h:AN U a b d=some r):
  aZ prog 184 #[vI (a),vI (b),vI (d)] [] (λx:Unit=>vB (r)) (λx l=>l) (λ_ l=>l):=by
 refine aZ.of func184 Z ntmps184 Z λc=>Q3 Z<|aI<|Q5 Z<|aM<|aU<|aT<|bP Z<|Q4 Z<|eF h Z (λh=>?_) λh=>?_
 .refine Q5 Z<|aA Z<|bP Z<|Q4 Z<|aP<|bB<|aG ?_;cases h;exact gM Z
 refine aT<|bP Z<|Q4 Z<|eF h Z (λh=>?_) λh=>?_
 .refine Q5 Z<|aA Z<|lK Z<|Q4 Z<|aP<|bB<|aG ?_;cases h;exact gM Z
 refine aT<|bP Z<|Q4 Z<|eF h Z (λh=>?_) λh=>?_
 .refine Q5 Z<|aA Z<|cX Z<|Q4 Z<|aP<|bB<|aG ?_;cases h;exact gM Z
 refine aT<|bP Z<|Q4 Z<|eF h Z (λh=>?_) λh=>?_
 .refine Q5 Z<|aA Z<|aC (nH Z Z) Z<|Q4 Z<|aP<|bB<|aG ?_;cases h;exact gM Z
 refine aT<|bP Z<|Q4 Z<|eF h Z (λh=>?_) λh=>?_
 .refine Q5 Z<|aA Z<|aC (mA Z Z) Z<|Q4 Z<|aP<|bB<|aG ?_;cases h;exact gM Z
 refine cZ<|jZ<|Q5 Z<|aA Z<|aC (lD Z Z) Z<|Q4 Z<|aP ?_;cases h;exact gM Z
end Go.Proofs.YtemmagadjnlajaaGreatDoor