/- Models and proofs. Conditions: none. -/
import Derived.Test.YtflciafboapaaaaGreatZRSt4
import Derived.Test.YtflciafboapaaaaGreatZRSt2
import Derived.Test.YtflciafboapaaaaGreatZRSt3
set_option linter.unusedVariables false
set_option linter.unusedSimpArgs false
set_option maxHeartbeats 4000000
set_option maxRecDepth 20000
namespace Go.Proofs.YtflciafboapaaaaGreat
open Go.Sx
def pY  (a:Bool):Option Bool:=
 some (a)
def pX (U:Nat) (b:cS) (c:Bool):Option Bool:=
 if c=true then(some (false))else(Option.bind (kI U b.1) λd=>(if d=true then(Option.bind (iX U b.2) λa=>(pY  (a)))else(pY  (false))))
def kN (U:Nat) (a:cS):Option Bool:=
 if(a.1.length:Int)<(1:Int)then(pX U a (true))else(if(24:Int)<(a.1.length:Int)then(pX U a (true))else(pX U a (decide ((a.2.length:Int)≠(a.1.length:Int)))))
theorem VU:bD Tryz.prog 72:=Tryz.call72
theorem GT (U:Nat) {p0:cS} (f:Value)  (g:Value)  (o:kY) (r:Bool) (h:kN U p0=some r):
  bG Tryz.prog 72 #[Value.agg #[f,g]] [Sl aP f p0.1,S2 bA g o p0.2] (λx:Unit=>vB (r)) (λx l=>l) (λ_ l=>l):=by
 refine bG.of Tryz.func72 Z Tryz.ntmps72 Z λc=>?_;refine aX<|aM (aS.box (cs:=[f,g]) Z Z) Z λk=>aD Z<|aQ<|aX<|bX Z<|dU 0 Z<|jM (aA.fact 0 Z) Z<|aD Z<|aQ<|aN<|aN<|eG (λb=>pX U p0 b=some r) (λb m=>[(1,vP k),(19,vB (b))]) (λb m=>[bO k [f,g] 31]) ?_ ?_
 ·refine aU<|aB Z<|cX Z<|aB Z ?_;refine AL h Z (λ_ h=>?_) λ_ h=>?_
  ·refine aK Z<|aK Z<|dG Z<|aB Z<|aK Z<|aK Z<|aK Z<|aK Z<|aK Z<|dG Z<|aQ ?_;exact gJ (true) () h SF Z
  refine dH Z<|aR Z (sL Z Z) Z<|dR Z<|aB Z ?_;refine AL h Z (λ_ h=>?_) λ_ h=>?_
  ·refine aK Z<|aK Z<|aK Z<|aK Z<|aK Z<|dG Z<|aQ ?_;exact gJ (true) () h SF Z
  refine aR Z (cT Z Z Z Z Z) Z<|aR Z (dQ 0 Z Z Z Z Z) Z<|aR Z (dD Z (aA.fact 1 Z) Z) Z<|dH Z<|aR Z (xQ Z Z) Z<|dR Z<|aQ ?_;exact gJ (decide ((p0.2.length:Int)≠(p0.1.length:Int))) () h SF Z
 intro b m h;refine qS h Z (λ_ h=>?_) λ_ h=>?_
 ·refine aX<|aD Z<|aQ<|aT<|aJ ?_;cases h;exact lY Z
 refine cK<|aN<|eG (λd=>pY  d=some r) (λd n=>[(2,vB (d))]) (λd n=>[]) ?_ ?_
 ·refine aU<|bX Z<|dU 0 Z<|eO h λp i h=>aM (zBa YO (FL U f p i) Z (iD [0] Z)) Z λq=>aB Z ?_;refine qV (by exact rfl) (by exact rfl) (λa=>?_) (λa=>?_)
  ·have h:=Ff a h;refine aR Z (cT Z Z Z Z Z) Z<|aR Z (dQ 0 Z Z Z Z Z) Z<|eO h λe j h=>lR Z (zBa YP (Ip U g o e j) Z (iD [1] Z)) Z λs=>dG Z<|aD Z<|aQ ?_;exact cE (e) () h SF .nil (aI.refl _ _)
  have h:=Cr a h;refine aK Z<|aK Z<|aK Z<|dR Z<|aD Z<|aQ ?_;exact cE (false) () h SF .nil (aI.refl _ _)
 intro d n h;unfold pY at h;refine aT ?_;cases h;exact iJ Z
def xF  (a:Int):Option (Int):=
 some (a)
def tR (U:Nat) (b:Int) (a:Int):Option (Int):=
 if a<(1:Int)then(some (0:Int))else(ck (a≠0) (if(Int.tmod b a)<(0:Int)then(xF  (wI .i64 ((Int.tmod b a)+a)))else(xF  (Int.tmod b a))))
theorem Nz:bD Tryz.prog 13:=Tryz.call13
theorem Ab (U:Nat) {d:Int} {b:Int} (r:Int) (h:tR U d b=some r):
  bG Tryz.prog 13 #[vI (d),vI (b)] [] (λx:Unit=>vI (r)) (λx l=>l) (λ_ l=>l):=by
 refine bG.of Tryz.func13 Z Tryz.ntmps13 Z λc=>?_;refine aX<|aD Z<|aQ<|aN<|aX<|aB Z<|cX Z<|aQ ?_;refine eJ h Z (λh=>?_) λh=>?_
 ·refine aX<|aD Z<|aQ<|aT<|aJ ?_;cases h;exact iJ Z
 refine cK<|aX<|aB Z<|aB Z<|cQ h λf h=>aC (Sg Z Z f) Z<|aD Z<|aQ<|aN<|eG (λa=>xF  a=some r) (λa e=>[(0,vI (a))]) (λa e=>[]) ?_ ?_
 ·refine aX<|aB Z<|cX Z<|aQ ?_;refine eJ h Z (λh=>?_) λh=>?_
  ·refine aU<|aB Z<|aB Z<|cW Z<|aD Z<|aQ ?_;exact gJ (wI .i64 ((Int.tmod d b)+b)) () h SF Z
  refine cK ?_;exact gJ (Int.tmod d b) () h SF Z
 intro a e h;unfold xF at h;refine aX<|aB Z<|aD Z<|aQ<|aT ?_;cases h;exact iJ Z
def Eu (U:Nat) (b:cC) (a:Int):Option (Int):=
 if a<(b.length:Int)then(ck (0<=a∧a<(b.length:Int)) (some (at' b a)))else(some (0:Int))
theorem QV:bD Tryz.prog 65:=Tryz.call65
theorem Hz (U:Nat) {b:cC} {d:Int} (e:Value) (r:Int) (h:Eu U b d=some r):
  bG Tryz.prog 65 #[e,vI (d)] [Sl aP e b] (λx:Unit=>vI (r)) (λx l=>l) (λ_ l=>l):=by
 refine bG.of Tryz.func65 Z Tryz.ntmps65 Z λc=>?_;refine aX<|aD Z<|aQ<|aN<|aX<|aB Z<|aB Z<|jM (aA.fact 0 Z) Z<|cX Z<|aQ ?_;refine eJ h Z (λh=>?_) λh=>?_
 ·refine aX<|aB Z<|aB Z<|cQ h λa h=>aC (bI Z Z (aA.fact 0 Z) Z Z a) Z<|aC (cL Z (aA.fact 0 Z) Z Z Z fN a) Z<|aD Z<|aQ<|aT<|aJ ?_;cases h;exact iJ Z
 refine cK<|aX<|aD Z<|aQ<|aT ?_;cases h;exact iJ Z
def tE (b:Int) (a:cC):Option CN:=
 some ((a,(List.replicate (Int.toNat (wI .i64 ((1:Int)+b))) ([]:fP))))
def Bo (a:Int×cC) (c:(Int×cC)->Option CN) (b:Int):Option CN:=
 ck ((a.2.length:Int)+(List.length ([b]):Int)<=1099511627) (c ((wI .i64 (a.1+(1:Int))),(a.2++[b])))
def oQ (b:gH->Option CN) (a:gC):Option CN:=
 b (a.1,(wI .i64 (a.2+(1:Int))))
def tF (b:Int×cC) (d:(Int×cC)->Option CN) (a:gC) (c:gH->Option CN):Option CN:=
 if a.2<b.1 then(ck (0<=a.2∧a.2<(b.2.length:Int)) (if(at' b.2 a.2)=a.1 then(ck ((256:Int)≠0) (oQ c ((Int.tmod (wI .i64 (a.1+(1:Int))) (256:Int)),(-1:Int))))else(oQ c (a.1,a.2))))else(Bo b d (a.1))
def mA (U:Nat) (f:Iv) (e:Int) (a:Int×cC) (b:(Int×cC)->Option CN):Option CN:=
 if a.1<(wI .i64 ((1:Int)+e))then(Option.bind (Eu U f.2.2.2.1 a.1) λc=>(Option.bind (tR U c (256:Int)) λd=>(bP (tF a b) U (d,(0:Int)))))else(tE e (a.2))
def BO (U:Nat) (b:Iv) (c:Int):Option CN:=
 Option.bind (tR U (wI .i64 (b.1 - (1:Int))) c) λa=>(ck (0<=(wI .i64 ((1:Int)+a))∧(wI .i64 ((1:Int)+a))<=1099511627) (bP (mA U b a) U ((0:Int),([]:cC))))
theorem abN:bD Tryz.prog 63:=Tryz.call63
theorem Gz (U:Nat) {k:Iv} {p1:Int} (Q:Value)  (R:Value)  (P:Value) (r:CO) (h:BO U k p1=some r):
  bG Tryz.prog 63 #[Value.agg #[vI (k.1),Q,R,P,vB (k.2.2.2.2.1),vB (k.2.2.2.2.2)],vI (p1)] [Sl aP Q k.2.1,Sl aP R k.2.2.1,Sl aP P k.2.2.2.1] (λx:Value×Value×List Value=>Value.agg #[x.1,x.2.1]) (λx l=>Ar iF x.1 r.1::Ar aE x.2.1 x.2.2::gN bY x.2.2 r.2::l) (λ_ l=>l):=by
 refine bG.of Tryz.func63 Z Tryz.ntmps63 Z λc=>?_;refine aX<|aM (aS.box (cs:=[vI (k.1),Q,R,P,vB (k.2.2.2.2.1),vB (k.2.2.2.2.2)]) Z Z) Z λE=>let u:=bO E [vI (k.1),Q,R,P,vB (k.2.2.2.2.1),vB (k.2.2.2.2.2)] 24;aM (aS.alloc (cs:=[cY,cY]) Z Z) Z λD=>let t:=bO D [cY,cY] 31;aQ<|aX<|bX Z<|dU 1 Z<|aC (oD Z Z) Z<|aB Z<|eO h λO w4 h=>let s:=(wI .i64 ((1:Int)+O));let A:=(Int.toNat s);let m:=(List.replicate A (cY));let q:=gN bY m (List.replicate A ([]:fP));aM (zBa Nz (Ab U  O w4) Z .nil) Z λx5=>cW Z<|aD Z<|aQ<|aX<|aB Z<|cQ h λj6 h=>cD (tA bY A)<|aM (qX (e:=aE) (cY) Z Z Z Z j6 Z Z Z) Z λo=>bB (Know.one (aA.sl (eV (i:=0) (j:=1) Z Z cF))) λS=>?_
 refine aC (Nt (r:=Value.agg #[cY,o]) Z (by intro w;simp[Instr.build,Instr.fill,fY,fD,eL,fZ,f_,fE,h_,eR S])) Z ?_;refine aM (aS.alloc (cs:=[cY,cY]) Z Z) Z λv=>bB (Know.one (aA.sl (eV (i:=1) (j:=2) Z Z cF))) λI=>cA 0 (vs:=[cY,o]) Z Z (eZ Z (eZ I Z)) Z Z Z<|aQ<|aN<|LS (B:=Value) (λp=>tE O p=some r) (λp n=>[(4,vP D),(6,vP v)]) (λp n=>[bO v [n,o] 31,Ar aE o m,q,t,Ar iF n p]) ?_ ?_
 ·refine aX<|aD Z<|aQ<|aW<|cD (iM iF)<|fJ (B:=Value) (mA U k O) (λa g=>[(2,vP E),(4,vP D),(5,vI s),(6,vP v),(7,vI (a.1))]) (λa g=>[bO v [g,o] 31,Ar aE o m,q,t,u,Ar iF g a.2]) ((0:Int),([]:cC)) (cY) h SF (a_.ix [1,2,3,4,5,0] Z Z) ?_;intro W a g h;let C:=Ar iF g a.2;let z:=bO v [g,o] 31;let y:=(bP (mA U k O) W)
  refine aN<|aX<|aB Z<|aB Z<|cX Z<|aQ ?_;refine eJ h Z (λh=>?_) λh=>?_
  ·refine cK<|aN<|aW<|aX<|bX Z<|dU 4 Z<|aB Z<|eO h λY ab h=>aM (zBa QV (Hz U P Y ab) Z (iD [2] Z)) Z λae=>eO h λN ac h=>aM (zBa Nz (Ab U  N ac) Z .nil) Z λaf=>aD Z<|aQ<|aN<|eG (λb=>Bo a y b=some r) (λb F=>[(2,vP E),(4,vP D),(5,vI s),(6,vP v),(7,vI (a.1)),(8,vI (b))]) (λb F=>[z,Ar aE o m,q,t,u,C]) ?_ ?_
   ·refine aX<|aD Z<|aQ<|aW<|fJ (tF a y) (λd G=>[(2,vP E),(4,vP D),(5,vI s),(6,vP v),(7,vI (a.1)),(8,vI (d.1)),(9,vI (d.2))]) (λd G=>[z,Ar aE o m,q,t,u,C]) (N,(0:Int)) () h SF (a_.refl _) ?_;intro X d G h;refine aN<|aX<|aB Z<|aB Z<|cX Z<|aQ ?_;refine eJ h Z (λh=>?_) λh=>?_
    ·refine cK<|aN<|eG (λf=>oQ (bP (tF a y) X) f=some r) (λf H=>[(2,vP E),(4,vP D),(5,vI s),(6,vP v),(7,vI (a.1)),(8,vI (f.1)),(9,vI (f.2))]) (λf H=>[z,Ar aE o m,q,t,u,C]) ?_ ?_
     ·refine aW<|aX<|bX Z<|dU 0 Z<|aB Z<|cQ h λM h=>aC (bI Z Z (dM (aA.res 5 Z) iH) Z Z M) Z<|aC (cL Z (dM (aA.res 5 Z) iH) Z Z Z fN M) Z<|aB Z<|cI Z<|aQ ?_;refine eJ h Z (λh=>?_) λh=>?_
      ·refine aU<|aB Z<|cW Z<|cQ h λV h=>aC (Sg Z Z V) Z<|aD Z<|aD Z<|fU<|lJ ?_;exact gJ ((Int.tmod (wI .i64 (d.1+(1:Int))) (256:Int)),(-1:Int)) () h SF Z
      refine eC<|lJ ?_;exact gJ (d.1,d.2) () h SF Z
     intro f H h;unfold oQ at h;refine aU<|aB Z<|cW Z<|aD Z<|aQ ?_;exact vT (f.1,(wI .i64 (f.2+(1:Int)))) () h SF Z
    refine fF ?_;exact gJ (d.1) () h SF Z
   intro b F h;refine aU<|bX Z<|dU 0 Z<|aB Z<|aM (dK (e:=iF) ([b]) [(0,vI (b))] Z Z Z Z (rT (vI (b)) Z) Z Z Z) Z λad=>cQ h λT h=>aM (jZ 6 iH Z Z Z (dM (aA.res 0 Z) iH) Z Z Z Z T Z) Z λaa=>bX Z<|bB (Know.one ((dM (aA.res 6 Z) iH))) λL=>sY 1 Z Z L Z Z Z<|fU<|lJ<|aU<|aB Z<|cW Z<|aD Z<|aQ ?_;exact kG ((wI .i64 (a.1+(1:Int))),(a.2++[b])) (aa) h SF (a_.ix [1,2,3,4,5,6] Z Z) (aI.refl _ _)
  refine fF ?_;exact cE (a.2) (g) h SF (a_.ix [0,1,2,3,5] Z Z) (aI.refl _ _)
 intro p n h;unfold tE at h;refine aX<|cM 0 Z<|bB (Know.one ((dM (aA.res 4 Z) iH))) λJ=>bB (Know.one (aA.sl (eV (i:=1) (j:=2) Z Z cF))) λK=>cA 3 (vs:=[n,o]) Z Z (eZ J (eZ K Z)) Z Z Z<|aQ<|aT ?_;cases h;exact pL (n,o,m) Z Z (RV.cell 3 Z Z Z Z) (a_.ix [4,1,2] Z Z) aI.nil
def BK  (a:Unit):Option Bool:=
 some (false)
def EX (c:cS) (a:Int) (e:Int) (b:Int) (d:(Int)->Option Bool):Option Bool:=
 ck (0<=a∧a<(c.2.length:Int)) (if b<((at' c.2 a).length:Int)then(ck (0<=a∧a<(c.2.length:Int)) (ck (0<=b∧b<((at' c.2 a).length:Int)) (if((at' (at' c.2 a) b).1)=e then(some (true))else(d (wI .i64 (b+(1:Int)))))))else(BK  (())))
def CE (U:Nat) (a:cS) (b:Int) (c:Int):Option Bool:=
 bP (EX a b c) U (0:Int)
theorem YK:bD Tryz.prog 106:=Tryz.call106
theorem Lv (U:Nat) {g:cS} {i:Int} {j:Int} (k:Value)  (m:Value)  (q:kY) (r:Bool) (h:CE U g i j=some r):
  bG Tryz.prog 106 #[Value.agg #[k,m],vI (i),vI (j)] [Sl aP k g.1,S2 bA m q g.2] (λx:Unit=>vB (r)) (λx l=>l) (λ_ l=>l):=by
 refine bG.of Tryz.func106 Z Tryz.ntmps106 Z λc=>?_;unfold CE at h;refine aX<|aM (aS.box (cs:=[k,m]) Z Z) Z λn=>aD Z<|aQ<|aN<|eG (λd=>BK  d=some r) (λd o=>[]) (λd o=>[]) ?_ ?_
 ·refine aX<|aD Z<|aQ<|aW<|fJ (EX g i j) (λe p=>[(1,vI (i)),(2,vI (j)),(3,vP n),(7,vI (e))]) (λe p=>[bO n [k,m] 31]) (0:Int) () h SF (a_.refl _) ?_;intro s e p h;refine aN<|aX<|aB Z<|bX Z<|dU 0 Z<|aB Z<|cQ h λf h=>aC (bH Z Z (aA.fact 1 Z) Z Z f) Z<|aC (bS Z (aA.fact 1 Z) Z Z f) Z<|aC (fG Z (zBb (aA.fact 1 Z) f.1 f.2) Z) Z<|cX Z<|aQ ?_;refine eJ h Z (λh=>?_) λh=>?_
  ·refine cK<|aN<|aW<|aX<|bX Z<|dU 0 Z<|aB Z<|cQ h λa h=>aC (bH Z Z (aA.fact 1 Z) Z Z a) Z<|aC (bS Z (aA.fact 1 Z) Z Z a) Z<|aB Z<|cQ h λb h=>aC (bI Z Z (zBb (aA.fact 1 Z) a.1 a.2) Z Z b) Z<|aC (dX Z Z Z Z Z) Z<|aC (fI Z (zBb (aA.fact 1 Z) a.1 a.2) Z Z Z gU b) Z<|aB Z<|cI Z<|aQ ?_;refine eJ h Z (λh=>?_) λh=>?_
   ·refine aX<|aD Z<|aQ<|aT<|bF<|aJ<|aJ<|bF<|aJ ?_;cases h;exact lY Z
   refine eC<|lJ<|aU<|aB Z<|cW Z<|aD Z<|aQ ?_;exact vT (wI .i64 (e+(1:Int))) () h SF Z
  refine fF ?_;exact cE () (()) h SF .nil (aI.refl _ _)
 intro d o h;unfold BK at h;refine aX<|aD Z<|aQ<|aT ?_;cases h;exact iJ Z
def vM (f:Iv) (c:cS) (a:Int) (b:Int) (d:Int) (e:Bool):Option (jR):=
 if e=true then(some (c.2))else(if f.2.2.2.2.2=true then(ck (0<=a∧a<(c.2.length:Int)) (ck ((List.length ([(b,d)]):Int)+((at' c.2 a).length:Int)<=1099511627) (ck (0<=a∧a<(c.2.length:Int)) (ck (0<=b∧b<((List.set c.2 (Int.toNat a) (([(b,d)])++(at' c.2 a))).length:Int)) (ck ((List.length ([(a,d)]):Int)+((at' (List.set c.2 (Int.toNat a) (([(b,d)])++(at' c.2 a))) b).length:Int)<=1099511627) (ck (0<=b∧b<((List.set c.2 (Int.toNat a) (([(b,d)])++(at' c.2 a))).length:Int)) (some (List.set (List.set c.2 (Int.toNat a) (([(b,d)])++(at' c.2 a))) (Int.toNat b) (([(a,d)])++(at' (List.set c.2 (Int.toNat a) (([(b,d)])++(at' c.2 a))) b))))))))))else(ck (0<=a∧a<(c.2.length:Int)) (ck (0<=b∧b<(c.2.length:Int)) (ck (((at' c.2 a).length:Int)+(List.length ([(b,d)]):Int)<=1099511627) (ck (((at' c.2 b).length:Int)+(List.length ([(a,d)]):Int)<=1099511627) (ck (Int.toNat a≠Int.toNat b) (ck (0<=a∧a<((List.set (List.set c.2 (Int.toNat a) ((at' c.2 a)++([(b,d)]))) (Int.toNat b) ((at' c.2 b)++([(a,d)]))).length:Int)) (ck (0<=b∧b<((List.set (List.set c.2 (Int.toNat a) ((at' c.2 a)++([(b,d)]))) (Int.toNat b) ((at' c.2 b)++([(a,d)]))).length:Int)) (some (List.set (List.set c.2 (Int.toNat a) ((at' c.2 a)++([(b,d)]))) (Int.toNat b) ((at' c.2 b)++([(a,d)]))))))))))))
def Cz (U:Nat) (e:Iv) (a:cS) (b:Int) (c:Int) (f:Int):Option (jR):=
 if b=c then(vM e a b c f (true))else(Option.bind (CE U ((a.1,a.2)) b c) λd=>(vM e a b c f (d)))
theorem abO:bD Tryz.prog 64:=Tryz.call64
theorem Hw (U:Nat) {s:Iv} {M:cS} {n:Int} {p:Int} {q:Int} (P:Value)  (Q:Value)  (R:Value)  (N:Value)  (I:Value)  (A:fM) (r:jR) (h:Cz U s M n p q=some r):
  He Tryz.prog 64 #[Value.agg #[vI (s.1),P,Q,R,vB (s.2.2.2.2.1),vB (s.2.2.2.2.2)],Value.agg #[N,I],vI (n),vI (p),vI (q)] [Ar aE I A,gN bY A M.2] [Sl aP P s.2.1,Sl aP Q s.2.2.1,Sl aP R s.2.2.2.1,Sl aP N M.1] (λx:fM=>Value.tuple #[]) (λx l=>Ar aE I x::gN bY x r::l):=by
 let H:=(Int.toNat p)
 let G:=(Int.toNat n)
 let F:=(Bq (vI (n)) (vI (q)))
 let E:=(Bq (vI (p)) (vI (q)))
 let D:=Value.agg #[vI (n),vI (q)];let C:=Value.agg #[vI (p),vI (q)];refine He.of (vs:=[Value.agg #[vI (s.1),P,Q,R,vB (s.2.2.2.2.1),vB (s.2.2.2.2.2)],Value.agg #[N,I],vI (n),vI (p),vI (q)]) Tryz.func64 Z Tryz.ntmps64 Z λc=>?_;refine aX<|aM (aS.box (cs:=[vI (s.1),P,Q,R,vB (s.2.2.2.2.1),vB (s.2.2.2.2.2)]) Z Z) Z λb1=>aM (aS.box (cs:=[N,I]) Z Z) Z λb2=>aQ<|aN<|aN<|lC (B:=Unit) (λO=>vM s M n p q O=some r) (λO b5=>[(2,vI (n)),(3,vI (p)),(4,vI (q)),(5,vP b1),(6,vP b2),(20,vB (O))]) (λO b5=>[bO b2 [N,I] 31,bO b1 [vI (s.1),P,Q,R,vB (s.2.2.2.2.1),vB (s.2.2.2.2.2)] 24,Ar aE I A,gN bY A M.2]) (λO b5=>[Sl aP P s.2.1,Sl aP Q s.2.2.1,Sl aP R s.2.2.2.1,Sl aP N M.1]) ?_ ?_
 ·refine aU<|aB Z<|aB Z<|cI Z<|aB Z ?_;refine AL h Z (λ_ h=>?_) λ_ h=>?_
  ·refine aK Z<|aK Z<|aK Z<|aK Z<|dG Z<|aQ ?_;exact gJ (true) () h SF Z
  refine aR Z (cZ 0 Z Z Z Z) Z<|dH Z<|dH Z<|eO h λaF aD h=>lR Z (zBa YK (Lv U N I (List.zip A M.2) aF aD) Z (aI.cons (aA.fact 3 Z) (aI.cons (eV (i:=2) (j:=3) Z Z cF) .nil))) Z λbi=>dR Z<|aQ ?_;exact gJ (aF) () h SF Z
 intro O b5 h;refine qS h Z (λ_ h=>?_) λ_ h=>?_
 ·refine aT<|aJ ?_;cases h;exact HD (A) Z Z .ret (.inl Z) (a_.ix [2,3] Z Z) aI.nil
 refine cK<|aX<|aB Z<|aB Z ?_;refine aC (Ei (r:=Value.agg #[vI (p),vI (q)]) Z Z (by intro w;simp[Instr.build,Instr.fill,fY,fD,eL,fZ,f_,fE,h_])) Z ?_;refine aB Z<|aB Z ?_;refine aC (Ei (r:=Value.agg #[vI (n),vI (q)]) Z Z (by intro w;simp[Instr.build,Instr.fill,fY,fD,eL,fZ,f_,fE,h_])) Z ?_;refine aM (aS.alloc (cs:=Qs) Z Z) Z λb7=>aM (aS.alloc (cs:=Qs) Z Z) Z λb8=>cA 1 (vs:=[vI (p),vI (q)]) Z Z Z Z Z Z<|cA 0 (vs:=[vI (n),vI (q)]) Z Z Z Z Z Z<|aQ<|aN<|aX<|bX Z<|dU 3 Z<|aQ ?_;refine qS h Z (λ_ h=>?_) λ_ h=>?_
 ·refine aN ?_;refine JR.start [0,1,0,0,8,0,32,0,224,480,1016,2047,4095] 11 mixedOrders (by decide +kernel) ?_;refine zBc (by exact rfl) ?_;refine cB Z<|eI 2 Z<|aV Z<|iR 1 Z<|zBd Z Z Z (dK (e:=bY) ([((p,q))]) [(0,C)] Z Z Z Z E Z Z Z) Z (λa7=>(pB [([3],[])] Z)) λa7=>e_ Z (cT Z Z Z Z Z)<|bE Z (a_.cons 3 Z .nil) .nil (dQ 0 Z Z Z Z Z) (aO.h (a_.ix [2] Z Z) .nil aO.z)<|e_ Z (dZ Z)<|cQ h λu h=>aY (dC 6 Z) λS=>?_;refine bE Z (a_.cons 5 Z .nil) .nil (kQ 0 Z Z Z Z Z u.1 (by have d:=u.2;have f:=S;(try simp only[zA0]at d);(try simp only[zA0]at f);(try simp only[zA0]);omega)) (aO.h (a_.ix [4] Z Z) .nil aO.z) ?_;refine aY (dC 6 Z) λT=>bE Z (a_.cons 5 Z .nil) .nil (eN 0 Z Z T Z Z u) (aO.h (a_.ix [4] Z Z) .nil aO.z)<|cQ h λa5 h=>zBd Z Z Z (jZ 0 cF Z Z Z (aA.row (j:=6) Z cF u.1 u.2) Z Z Z Z a5 Z) Z (λaG=>(pB [([3],[])] Z)) λaG=>bM 11 Z Z<|cQ h λv h=>aC (bH Z Z (eV (i:=5) (j:=6) Z Z cF) Z Z v) Z<|bB (Know.one ((dM (aA.res 0 Z) cF))) λaq=>cD (Ap (k:=n) 6 0 Z Z Z v) ?_;refine sZ 4 5 ⟨v.1,by first|exact v.2|simpa using v.2⟩ Z Z Z Z Z (by simp) aq Z ?_;refine aQ<|aN ?_;refine JR.start [0,1,0,0,8,0,32,0,224,480,1016,2047,4095] 11 mixedOrders (by decide +kernel) ?_;refine zBc (by exact rfl) ?_;refine cB Z<|eI 2 Z<|aV Z<|iR 0 Z<|zBd Z Z Z (dK (e:=bY) ([((n,q))]) [(0,D)] Z Z Z Z F Z Z Z) Z (λa8=>(pB [([3],[])] Z)) λa8=>e_ Z (cT Z Z Z Z Z)<|bE Z (a_.cons 3 Z .nil) .nil (dQ 0 Z Z Z Z Z) (aO.h (a_.ix [2] Z Z) .nil aO.z)<|e_ Z (dZ Z)<|cQ h λt h=>aY (dC 6 Z) λV=>?_;refine bE Z (a_.cons 5 Z .nil) .nil (kQ 0 Z Z Z Z Z t.1 (by have d:=t.2;have f:=V;(try simp only[zA0]at d);(try simp only[zA0]at f);(try simp only[zA0]);omega)) (aO.h (a_.ix [4] Z Z) .nil aO.z) ?_;refine aY (dC 6 Z) λW=>bE Z (a_.cons 5 Z .nil) .nil (eN 0 Z Z W Z Z t) (aO.h (a_.ix [4] Z Z) .nil aO.z)<|cQ h λa6 h=>zBd Z Z Z (jZ 0 cF Z Z Z (aA.row (j:=6) Z cF t.1 (by first|exact t.2|simpa using t.2)) Z Z Z Z a6 Z) Z (λaH=>(pB [([3],[])] Z)) λaH=>?_;refine bM 11 Z Z<|cQ h λy h=>aC (bH Z Z (eV (i:=5) (j:=6) Z Z cF) Z Z y) Z<|bB (Know.one ((dM (aA.res 0 Z) cF))) λar=>cD (Ap (k:=p) 6 0 Z Z Z y) ?_;refine sZ 4 5 ⟨y.1,by first|exact y.2|simpa using y.2⟩ Z Z Z Z Z (by simp) ar Z ?_;refine aQ<|aT<|aJ ?_;cases h;exact HD (List.set (List.set A G aG) H aH) Z Z .ret (.inl Z) (a_.ix [4,5] Z Z) aI.nil
 refine cK<|cQ h λg h=>cQ h λm h=>cQ h λJ h=>cQ h λK h=>cQ h λL h=>cQ h λa h=>cQ h λb h=>Mk [0,1,0,0,8,0,0,64,0,448,960,0,2048,8128,0,16384,0,114688,245760,0,524288,2097088,4194247,8388551,16777215,33554431] 24 [[0,1,2,3,4,5,6,7,8,9,10,11,14,15,16,17,18,19,12,13,20,21,22,23,24,25],[0,1,2,3,4,5,6,7,8,9,10,11,14,15,16,17,18,19,12,20,13,21,22,23,24,25],[0,1,2,3,4,5,6,7,8,9,10,11,14,15,16,17,18,19,20,12,13,21,22,23,24,25]] mixedOrders (by decide +kernel) (by decide +kernel) ?_;intro o ho;simp only[zAq,List.not_mem_nil,or_false]at ho;rcases ho with rfl|rfl|rfl
 ·refine cB Z<|eI 2 Z<|aV Z<|cB Z<|eI 2 Z<|aV Z<|cB Z<|eI 2 Z<|aV Z<|aY (dC 5 Z) λX=>?_;refine bE Z (a_.cons 4 Z .nil) .nil (kQ 0 Z Z Z Z Z g.1 (by have d:=g.2;have f:=X;(try simp only[zA0]at d);(try simp only[zA0]at f);(try simp only[zA0]);omega)) aO.z ?_;refine aY (dC 5 Z) λY=>bE Z (a_.cons 4 Z .nil) .nil (eN 0 Z Z Y Z Z g) aO.z<|iR 1 Z<|cB Z<|eI 2 Z<|aV Z<|aY (dC 5 Z) λaa=>?_;refine bE Z (a_.cons 4 Z .nil) .nil (kQ 0 Z Z Z Z Z m.1 (by have d:=m.2;have f:=aa;(try simp only[zA0]at d);(try simp only[zA0]at f);(try simp only[zA0]);omega)) aO.z ?_;refine aY (dC 5 Z) λab=>bE Z (a_.cons 4 Z .nil) .nil (eN 0 Z Z ab Z Z m) aO.z<|iR 0 Z<|zBd Z Z Z (dK (e:=bY) ([((p,q))]) [(0,C)] Z Z Z Z E Z Z Z) Z (λa9=>(pB [([1],[]),([5],[]),([5],[]),([3],[]),([5],[]),([5],[]),([3],[]),([3],[]),([3],[])] Z)) λa9=>zBd Z Z Z (rQ 6 cF Z Z Z (dM (aA.res 0 Z) cF) Z Z Z Z g J Z) Z (λaL=>(pB [([1],[]),([5],[]),([5],[]),([3],[]),([3],[]),([3],[])] Z)) λaL=>zBd Z Z Z (dK (e:=bY) ([((n,q))]) [(0,D)] Z Z Z Z F Z Z Z) Z (λba=>(pB [([6],[]),([6],[]),([4],[]),([3],[]),([6],[]),([6],[]),([4],[]),([4],[]),([4],[])] Z)) λba=>zBd Z Z Z (Bz (j:=n) 7 cF Z Z Z (dM (aA.res 0 Z) cF) Z Z Z Z m K Z L) Z (λaW=>(pB [([4],[]),([4],[])] Z)) λaW=>aY (dC 7 Z) λac=>?_;refine bE Z (a_.cons 6 Z .nil) .nil (kQ 0 Z Z Z Z Z a.1 (by have d:=a.2;have f:=ac;(try simp only[zA0]at d);(try simp only[zA0]at f);(try simp only[zA0]);omega)) (sU Z) ?_;refine aY (Ed (k:=n) (j:=p) 7 Z (by omega) ⟨a.1,by first|exact a.2|simpa using a.2⟩) λau=>?_;refine HE Z Z Z (Dj 6 7 ⟨a.1,by first|exact a.2|simpa using a.2⟩ Z Z Z Z (by simp) au Z) (λbf=>(pB [([4],[])] Z)) λbf=>?_;refine bM 24 Z Z<|bB (dC 7 Z) λad=>?_;refine aC (kQ 6 Z Z Z Z Z b.1 (by have d:=b.2;have f:=ad;(try simp only[zA0]at d);(try simp only[zA0]at f);(try simp only[zA0]);omega)) Z ?_;refine bB (CX 7 (k:=p) Z ⟨b.1,by first|exact b.2|simpa using b.2⟩) λav=>?_;refine sZ 6 7 ⟨b.1,by first|exact b.2|simpa using b.2⟩ Z Z Z Z Z (by simp) av Z ?_;refine fU ?_;cases h;exact HD (List.set (List.set A G aL) H aW) Z Z .normal (.inr Z) (a_.ix [6,7] Z Z) aI.nil
 ·refine cB Z<|eI 2 Z<|aV Z<|cB Z<|eI 2 Z<|aV Z<|cB Z<|eI 2 Z<|aV Z<|aY (dC 5 Z) λae=>?_;refine bE Z (a_.cons 4 Z .nil) .nil (kQ 0 Z Z Z Z Z g.1 (by have d:=g.2;have f:=ae;(try simp only[zA0]at d);(try simp only[zA0]at f);(try simp only[zA0]);omega)) aO.z ?_;refine aY (dC 5 Z) λaf=>bE Z (a_.cons 4 Z .nil) .nil (eN 0 Z Z af Z Z g) aO.z<|iR 1 Z<|cB Z<|eI 2 Z<|aV Z<|aY (dC 5 Z) λag=>?_;refine bE Z (a_.cons 4 Z .nil) .nil (kQ 0 Z Z Z Z Z m.1 (by have d:=m.2;have f:=ag;(try simp only[zA0]at d);(try simp only[zA0]at f);(try simp only[zA0]);omega)) aO.z ?_;refine aY (dC 5 Z) λah=>bE Z (a_.cons 4 Z .nil) .nil (eN 0 Z Z ah Z Z m) aO.z<|iR 0 Z<|zBd Z Z Z (dK (e:=bY) ([((p,q))]) [(0,C)] Z Z Z Z E Z Z Z) Z (λbb=>(pB [([1],[]),([5],[]),([5],[]),([3],[]),([5],[]),([5],[]),([3],[]),([3],[]),([3],[])] Z)) λbb=>zBd Z Z Z (dK (e:=bY) ([((n,q))]) [(0,D)] Z Z Z Z F Z Z Z) Z (λbc=>(pB [([6],[]),([6],[]),([4],[]),([3],[]),([6],[]),([6],[]),([4],[]),([4],[]),([4],[])] Z)) λbc=>zBd Z Z Z (rQ 7 cF Z Z Z (dM (aA.res 1 Z) cF) Z Z Z Z g J Z) Z (λa0=>(pB [([2],[]),([6],[]),([6],[]),([4],[]),([4],[]),([4],[])] Z)) λa0=>zBd Z Z Z (Bz (j:=n) 7 cF Z Z Z (dM (aA.res 0 Z) cF) Z Z Z Z m K Z L) Z (λa1=>(pB [([4],[]),([4],[])] Z)) λa1=>aY (dC 7 Z) λai=>?_;refine bE Z (a_.cons 6 Z .nil) .nil (kQ 0 Z Z Z Z Z a.1 (by have d:=a.2;have f:=ai;(try simp only[zA0]at d);(try simp only[zA0]at f);(try simp only[zA0]);omega)) (sU Z) ?_;refine aY (Ed (k:=n) (j:=p) 7 Z (by omega) ⟨a.1,by first|exact a.2|simpa using a.2⟩) λaw=>?_;refine HE Z Z Z (Dj 6 7 ⟨a.1,by first|exact a.2|simpa using a.2⟩ Z Z Z Z (by simp) aw Z) (λbg=>(pB [([4],[])] Z)) λbg=>?_;refine bM 24 Z Z<|bB (dC 7 Z) λaj=>?_;refine aC (kQ 6 Z Z Z Z Z b.1 (by have d:=b.2;have f:=aj;(try simp only[zA0]at d);(try simp only[zA0]at f);(try simp only[zA0]);omega)) Z ?_;refine bB (CX 7 (k:=p) Z ⟨b.1,by first|exact b.2|simpa using b.2⟩) λax=>?_;refine sZ 6 7 ⟨b.1,by first|exact b.2|simpa using b.2⟩ Z Z Z Z Z (by simp) ax Z ?_;refine fU ?_;cases h;exact HD (List.set (List.set A G a0) H a1) Z Z .normal (.inr Z) (a_.ix [6,7] Z Z) aI.nil
 refine cB Z<|eI 2 Z<|aV Z<|cB Z<|eI 2 Z<|aV Z<|cB Z<|eI 2 Z<|aV Z<|aY (dC 5 Z) λak=>?_;refine bE Z (a_.cons 4 Z .nil) .nil (kQ 0 Z Z Z Z Z g.1 (by have d:=g.2;have f:=ak;(try simp only[zA0]at d);(try simp only[zA0]at f);(try simp only[zA0]);omega)) aO.z ?_;refine aY (dC 5 Z) λal=>bE Z (a_.cons 4 Z .nil) .nil (eN 0 Z Z al Z Z g) aO.z<|iR 1 Z<|cB Z<|eI 2 Z<|aV Z<|aY (dC 5 Z) λam=>?_;refine bE Z (a_.cons 4 Z .nil) .nil (kQ 0 Z Z Z Z Z m.1 (by have d:=m.2;have f:=am;(try simp only[zA0]at d);(try simp only[zA0]at f);(try simp only[zA0]);omega)) aO.z ?_;refine aY (dC 5 Z) λan=>bE Z (a_.cons 4 Z .nil) .nil (eN 0 Z Z an Z Z m) aO.z<|iR 0 Z<|zBd Z Z Z (dK (e:=bY) ([((n,q))]) [(0,D)] Z Z Z Z F Z Z Z) Z (λbd=>(pB [([5],[]),([5],[]),([3],[]),([2],[]),([5],[]),([5],[]),([3],[]),([3],[]),([3],[])] Z)) λbd=>zBd Z Z Z (dK (e:=bY) ([((p,q))]) [(0,C)] Z Z Z Z E Z Z Z) Z (λbe=>(pB [([2],[]),([6],[]),([6],[]),([4],[]),([6],[]),([6],[]),([4],[]),([4],[]),([4],[])] Z)) λbe=>zBd Z Z Z (rQ 7 cF Z Z Z (dM (aA.res 0 Z) cF) Z Z Z Z g J Z) Z (λa2=>(pB [([2],[]),([6],[]),([6],[]),([4],[]),([4],[]),([4],[])] Z)) λa2=>zBd Z Z Z (Bz (j:=n) 7 cF Z Z Z (dM (aA.res 1 Z) cF) Z Z Z Z m K Z L) Z (λa3=>(pB [([4],[]),([4],[])] Z)) λa3=>aY (dC 7 Z) λao=>?_;refine bE Z (a_.cons 6 Z .nil) .nil (kQ 0 Z Z Z Z Z a.1 (by have d:=a.2;have f:=ao;(try simp only[zA0]at d);(try simp only[zA0]at f);(try simp only[zA0]);omega)) (sU Z) ?_;refine aY (Ed (k:=n) (j:=p) 7 Z (by omega) ⟨a.1,by first|exact a.2|simpa using a.2⟩) λay=>?_;refine HE Z Z Z (Dj 6 7 ⟨a.1,by first|exact a.2|simpa using a.2⟩ Z Z Z Z (by simp) ay Z) (λbh=>(pB [([4],[])] Z)) λbh=>?_;refine bM 24 Z Z<|bB (dC 7 Z) λap=>?_;refine aC (kQ 6 Z Z Z Z Z b.1 (by have d:=b.2;have f:=ap;(try simp only[zA0]at d);(try simp only[zA0]at f);(try simp only[zA0]);omega)) Z ?_;refine bB (CX 7 (k:=p) Z ⟨b.1,by first|exact b.2|simpa using b.2⟩) λaz=>?_;refine sZ 6 7 ⟨b.1,by first|exact b.2|simpa using b.2⟩ Z Z Z Z Z (by simp) az Z ?_;refine fU ?_;cases h;exact HD (List.set (List.set A G a2) H a3) Z Z .normal (.inr Z) (a_.ix [6,7] Z Z) aI.nil
def vL (b:CO) (a:jR):Option CN:=
 some ((b.1,a))
def BN (U:Nat) (b:Iv) (i:CO) (a:Int×jR) (c:(Int×jR)->Option CN):Option CN:=
 if a.1<(a.2.length:Int)then(Option.bind (Eu U b.2.1 (wI .i64 (a.1 - (1:Int)))) λd=>(Option.bind (tR U d a.1) λe=>(Option.bind (Eu U b.2.2.1 (wI .i64 (a.1 - (1:Int)))) λf=>(Option.bind (tR U f (15:Int)) λg=>(Option.bind (Cz U ((b.1,b.2.1,b.2.2.1,b.2.2.2.1,b.2.2.2.2.1,b.2.2.2.2.2)) ((i.1,a.2)) e a.1 (wI .i64 ((1:Int)+g))) λh=>(c ((wI .i64 (a.1+(1:Int))),h)))))))else(vL i (a.2))
def lM (U:Nat) (a:Iv) (c:Int):Option CN:=
 Option.bind (BO U ((a.1,a.2.1,a.2.2.1,a.2.2.2.1,a.2.2.2.2.1,a.2.2.2.2.2)) c) λb=>(bP (BN U a b) U ((1:Int),b.2))
theorem QQ:bD Tryz.prog 24:=Tryz.call24
theorem xN (U:Nat) {p0:Iv} {p1:Int} (g:Value)  (k:Value)  (n:Value) (r:CO) (h:lM U p0 p1=some r):
  bG Tryz.prog 24 #[Value.agg #[vI (p0.1),g,k,n,vB (p0.2.2.2.2.1),vB (p0.2.2.2.2.2)],vI (p1)] [Sl aP g p0.2.1,Sl aP k p0.2.2.1,Sl aP n p0.2.2.2.1] (λx:Value×Value×List Value=>Value.agg #[x.1,x.2.1]) (λx l=>Ar iF x.1 r.1::Ar aE x.2.1 x.2.2::gN bY x.2.2 r.2::l) (λ_ l=>l):=by
 refine bG.of Tryz.func24 Z Tryz.ntmps24 Z λc=>?_;refine aX<|aM (aS.box (cs:=[vI (p0.1),g,k,n,vB (p0.2.2.2.2.1),vB (p0.2.2.2.2.2)]) Z Z) Z λu=>aM (aS.alloc (cs:=[cY,cY]) Z Z) Z λo=>aQ<|aX<|cM 1 Z<|aB Z<|eO h λm P h=>aM (zBa abN (Gz U g k n m P) Z (iD [0,1,2] Z)) Z λa=>aM (aS.alloc (cs:=[cY,cY]) Z Z) Z λp=>bB (Know.one ((dM (aA.res 1 Z) iH))) λv=>bB (Know.one (aA.sl (eV (i:=2) (j:=3) Z Z cF))) λw=>cA 0 (vs:=[a.1,a.2.1]) Z Z (eZ v (eZ w Z)) Z Z Z<|aQ<|aN<|LS (B:=fM) (λe=>vL m e=some r) (λe f=>[(4,vP o),(5,vP p)]) (λe f=>[bO p [a.1,a.2.1] 31,Ar iF a.1 m.1,Ar aE a.2.1 f,gN bY f e,bO o [cY,cY] 31]) ?_ ?_
 ·refine aX<|aD Z<|aQ<|aW<|fJ (B:=fM) (BN U p0 m) (λd b=>[(2,vP u),(4,vP o),(5,vP p),(6,vI (d.1))]) (λd b=>[bO p [a.1,a.2.1] 31,Ar iF a.1 m.1,Ar aE a.2.1 b,gN bY b d.2,bO o [cY,cY] 31,bO u [vI (p0.1),g,k,n,vB (p0.2.2.2.2.1),vB (p0.2.2.2.2.2)] 24]) ((1:Int),m.2) (a.2.2) h SF (a_.refl _) ?_;intro O d b h;refine aN<|aX<|aB Z<|bX Z<|dU 0 Z<|aC (dD Z (eV (i:=2) (j:=3) Z Z cF) Z) Z<|cX Z<|aQ ?_;refine eJ h Z (λh=>?_) λh=>?_
  ·refine cK<|aN<|aW ?_;refine JR.start [0,0,0,4,0,16,60,0,252,0,0,1024,0,4096,15868,32252,65020,131071] 17 mixedOrders (by decide +kernel) ?_;refine zBc (by exact rfl) ?_;refine iR 5 Z<|iR 0 Z<|cB Z<|eI 5 Z<|aV Z<|e_ Z (oD Z Z)<|eO h λy E h=>zBd Z Z Z (zBa QV (Hz U g y E) Z (iD [0] Z)) Z (λJ=>(pB [([0],[]),([5],[])] Z)) λJ=>e_ Z (dZ Z)<|eO h λA F h=>zBd Z Z Z (zBa Nz (Ab U  A F) Z .nil) Z (λK=>(pB [([0],[]),([5],[])] Z)) λK=>e_ Z (dZ Z)<|e_ Z (cT Z Z Z Z Z)<|bE Z (a_.cons 5 Z .nil) .nil (dQ 0 Z Z Z Z Z) (aO.h (a_.ix [5] Z Z) .nil (aO.h (a_.ix [5] Z Z) .nil aO.z))<|e_ Z (dZ Z)<|e_ Z (oD Z Z)<|eO h λC G h=>zBd Z Z Z (zBa QV (Hz U k C G) Z (iD [1] Z)) Z (λL=>(pB [([0],[]),([5],[])] Z)) λL=>eO h λD H h=>zBd Z Z Z (zBa Nz (Ab U  D H) Z .nil) Z (λM=>(pB [([0],[]),([5],[])] Z)) λM=>e_ Z (Fl Z Z)<|bM 17 Z Z<|eO h λt I h=>aM (Kq (Min:=[Ar aE a.2.1 b,gN bY b d.2]) (Mr:=[bO p [a.1,a.2.1] 31,Ar iF a.1 m.1,bO o [cY,cY] 31,bO u [vI (p0.1),g,k,n,vB (p0.2.2.2.2.1),vB (p0.2.2.2.2.2)] 24]) abO (Hw U g k n a.1 a.2.1 b t I) Z (a_.ix [2,3,0,1,4,5] Z Z) (aI.cons (aA.fact 0 Z) (aI.cons (aA.fact 1 Z) (aI.cons (aA.fact 2 Z) (aI.cons (dM (aA.res 1 Z) iH) .nil)))) (λ_ _=>rfl)) Z λN=>fU<|lJ<|aU<|aB Z<|cW Z<|aD Z<|aQ ?_;exact kG ((wI .i64 (d.1+(1:Int))),t) (N) h SF (a_.ix [2,3,0,1,4,5] Z Z) (aI.refl _ _)
  refine fF ?_;exact cE (d.2) (b) h SF (a_.ix [0,1,2,3,4] Z Z) (aI.refl _ _)
 intro e f h;unfold vL at h;refine aX<|cM 0 Z<|bB (Know.one ((dM (aA.res 1 Z) iH))) λq=>bB (Know.one (aA.sl (eV (i:=2) (j:=3) Z Z cF))) λs=>cA 4 (vs:=[a.1,a.2.1]) Z Z (eZ q (eZ s Z)) Z Z Z<|aQ<|aT ?_;cases h;exact pL (a.1,a.2.1,f) Z Z (RV.cell 4 Z Z Z Z) (a_.ix [1,2,3] Z Z) aI.nil
end Go.Proofs.YtflciafboapaaaaGreat
section
set_option maxRecDepth 100000
namespace Go.Gx
open Go Go.Sx Go.Proofs Go.Proofs.YtflciafboapaaaaGreat
noncomputable section
def adG (a:List GV) (H:GH):OR:=a1 a λb=>ob (Wn H b) λp0=>ob (kN 1000 p0) λr=>aaU r H
def adF (a:List GV) (H:GH):OR:=a2 a λb c=>ob (adv H b) λp0=>ob (dSc .i64 c) λp1=>ob (lM 1000 p0 p1) λr=>Rv r H
def WL (f:Nat) (a:List GV) (H:GH):Option (GV×GH):=bif Nat.beq f 72 then adG a H else bif Nat.beq f 24 then adF a H else none
abbrev gl:Nat->By:=λ_:Nat=>noG
def gp:GP:=⟨Ad,94,WL,WK 265⟩
section
variable {T:Nat} {w0:g_ (gl T)} {w:World} {ρ:fQ} {H H':GH} {g:GV} {us:List GV} {vs:List Value}
theorem ZV (h:adG us H=some (g,H')) (R:iI w0 ρ H w) (m:qR ρ us vs):oM Tryz.prog w0 ρ 72 vs w g H':=by
 obtain⟨p,rfl,h⟩:=Si h;obtain⟨j,c,h⟩:=aH.1 h;obtain⟨r,l,h⟩:=aH.1 h;obtain⟨o,rfl,d⟩:=m.one;obtain⟨e,i,n,rfl,a,b⟩:=Uk R d c;obtain⟨rfl,rfl⟩:=Ru h;exact Rj VU (GT 1000 (p0:=j) e i n r l) R (zB3.2 ⟨a,zB3.2 ⟨b,λf k=>absurd k List.not_mem_nil⟩⟩) λρ=> .bool _
theorem ZU (h:adF us H=some (g,H')) (R:iI w0 ρ H w) (i:qR ρ us vs):oM Tryz.prog w0 ρ 24 vs w g H':=by
 obtain⟨z,A,rfl,h⟩:=Sj h;obtain⟨o,d,h⟩:=aH.1 h;obtain⟨p,e,h⟩:=aH.1 h;obtain⟨r,v,h⟩:=aH.1 h;obtain⟨x,vs,rfl,j,i⟩:=i.of_cons;obtain⟨y,rfl,k⟩:=i.one;obtain⟨l,m,n,rfl,a,b,c⟩:=ZB R j d;obtain rfl:=Wp k e;obtain⟨q,s,t,rfl,rfl⟩:=PH h;exact Ri ady adA q s t QQ (xN 1000 (p0:=o) (p1:=p) l m n r v) R (zB3.2 ⟨a,zB3.2 ⟨b,zB3.2 ⟨c,λf u=>absurd u List.not_mem_nil⟩⟩⟩)
theorem NR {f:Nat} (h:WL f us H=some (g,H')) (R:iI w0 ρ H w) (c:qR ρ us vs):oM Tryz.prog w0 ρ f vs w g H':=by
 unfold WL at h;cases a:Nat.beq f 72 with
 |true=>rw[a]at h;rw[zA6 a];exact ZV h R c
 |false=>
 rw[a]at h;cases b:Nat.beq f 24 with
 |true=>rw[b]at h;rw[zA6 b];exact ZU h R c
 |false=>
 rw[b]at h;cases h
end
theorem acg:adx Tryz.prog Ad=true:=by kernel_rfl
theorem Kh:gY Tryz.prog Ad:=⟨Qd,acf acg⟩
theorem acD {a:By} (b:g_ a):sV Tryz.prog b (Mu Ad 148 Tryz.f148):=Wc Kh mixedOrders Tryz.func148 Tryz.call148 (by kernel_rfl)
theorem aca (a:Array Value) (w:World) (c:a.size=2):CallsDIn (FR none) 0 Tryz.prog 147 a .returning w λe f g=>∃v,e = .returned v∧f = .returning∧Mh w g:=by
 obtain⟨d,h,b⟩:=Xh (r:=GE Ad (Mu Ad 148 Tryz.f148) (NJ Tryz.f147) (ZF Ad (Mu Ad 148 Tryz.f148) (λ_ _ _ _=>none) (Wa Tryz.f147) 0 ⟨[],0,[]⟩ (If [])) (NJ Tryz.f147).tail ⟨[(Zw Tryz.f147,.inil)],H0⟩) (by kernel_rfl);exact Ug (ch:=Mu Ad 148 Tryz.f148) (lp:=λ_ _ _ _=>none) Kh mixedOrders acD Jx Tryz.func147 Z Z Z (by decide +kernel) (λi w=>by simp[execOp,resolve,invoke,builtin]) (by kernel_rfl) (by kernel_rfl) Z (by rw[c];decide +kernel) h b
theorem adC {i:By} {a:FuncId->List GV->GH->Option (GV×GH)} (o:∀(b:g_ i) {f us H g H'},a f us H=some (g,H')->∀c w d,iI b c H w->qR c us d->oM Tryz.prog b c f d w g H') (b:g_ i):Ve Tryz.prog ⟨Ad,94,a,WK 265⟩ Jb.fns b:=by
 refine⟨Kh,mixedOrders,λh=> ?_,o b,λh c w d H R n=>ZO Tryz.func265 Z Z Z Z h c w d H R n,λR l j k=> ?_⟩
 ·obtain⟨e,m,h⟩:=aH.1 (show ob (Tp _) _=some _ from h);cases h;obtain⟨p,q,r⟩:=Xy m;exact⟨p,q,PI r⟩
 ·exact abV (tb:=Ad) (T1:=3) (T2:=47) (cc:=147) Kh Tryz.func94 Tryz.call94 Tryz.call147 Z Z Z (So (by kernel_rfl)) (So (by kernel_rfl)) (Tw Z Z) (Tw Z Z) (W_ Z Z) (W_ Z Z) aca R l j k
theorem gok {T:Nat} (a:g_ (gl T)):Ve Tryz.prog gp Jb.fns a:=adC (λa f d H g c h i w e R b=>NR h R b) a
def ZS:GP:=⟨Ad,94,λ_ _ _=>none,WK 265⟩
theorem ZQ (a:g_ noG):Ve Tryz.prog ZS Jb.fns a:=adC (λa f c H g b h=>by cases h) a
end
end Go.Gx
end
namespace Go.Gx
open Go Go.Sx Go.RowKit
mutual
def Ij (k:Nat):GV->GV
 | .ptr h o=> .ptr (k+h) o
 | .sl h o l s=> .sl (k+h) o l s
 | .map h=> .map (k+h)
 | .fn f a b=> .fn f (U_ k a) (U_ k b)
 | .agg cs=> .agg (U_ k cs)
 | .tup vs=> .tup (U_ k vs)
 | .int a b=> .int a b
 | .bool b=> .bool b
 | .str a b=> .str a b
 | .pnil=> .pnil
 | .snil=> .snil
 | .fnil=> .fnil
 | .inil=> .inil
 | .un=> .un
 | .bad=> .bad
 | .opn h=> .opn (k+h)
def U_ (k:Nat):List GV->List GV
 | []=>[]
 |v::r=>Ij k v::U_ k r
end
theorem Ol (k:Nat):∀(l:List GV) (i:Nat),(U_ k l)[i]? = (l[i]?).map (Ij k)
 | [],i=>rfl
 |v::r,0=>rfl
 |v::r,i+1=>by simpa [U_]using Ol k r i
theorem Gm (k:Nat):∀(l:List GV),(U_ k l).length=l.length
 | []=>rfl
 |v::r=>by simp[U_,Gm k r]
def Yk (k:Nat):GO->GO
 | .cells cs=> .cells (U_ k cs)
 | .mp es=> .mp (es.map λe=>(Ij k e.1,Ij k e.2))
def CG (k:Nat) (l:Mm):Mm:={l with o:=Yk k l.o}
theorem Rl.shift {y e:fQ} {k:Nat} (c:∀h l,y h=some l->e (k+h)=some (CG k l)) {g:GV} {v:Value} (h:Rl y g v):Rl e (Ij k g) v:=by
 have d:∀{u:List GV} {j:fM},(∀(i:Nat) g v,u[i]? = some g->j[i]? = some v->Rl e (Ij k g) v)->∀(i:Nat) g v,(U_ k u)[i]? = some g->j[i]? = some v->Rl e g v:=by
  intro u j D i g v x E;rw[Ol]at x;obtain⟨z,A,rfl⟩:=Option.map_eq_some_iff.1 x;exact D i z v A E
 induction h with
 |int a n=>simp only[Ij];exact .int a n
 |bool b=>simp only[Ij];exact .bool b
 |str s=>simp only[Ij];exact .str s
 |ptr t h=>simp only[Ij];exact .ptr (l:=CG k _) t (c _ _ h)
 |pnil=>simp only[Ij];exact .pnil
 |sl h C B=>simp only[Ij];exact .sl (l:=CG k _) (c _ _ h) C B
 |snil=>simp only[Ij];exact .snil
 |map h=>simp only[Ij];exact .map (l:=CG k _) (c _ _ h)
 |fn f m w o G q r=>simp only[Ij];exact .fn f (by rw[Gm];exact m) (d q) (by rw[Gm];exact o) (d r)
 |fnil=>simp only[Ij];exact .fnil
 |inil=>simp only[Ij];exact .inil
 |agg m w o p=>simp only[Ij];exact .agg (by rw[Gm];exact m) (d p) o
 |tup m w p=>simp only[Ij];exact .tup (by rw[Gm];exact m) (d p)
 |un=>simp only[Ij];exact .un
 |bad v=>simp only[Ij];exact .bad v
 |opn v h F=>simp only[Ij];exact .opn (l:=CG k _) v (c _ _ h) F
abbrev OL:=List (Nat×Nat×GO)
def UY:OL->Nat->Option (Nat×GO)
 | [],_=>none
 |x::r,h=>if h=x.1 then some x.2 else UY r h
theorem NW {b:OL} {h:Nat} {p:Nat×GO} (a:UY b h=some p):(h,p)∈b:=by
 induction b with
 |nil=>cases a
 |cons x r c=>
  simp only[UY]at a;split at a
  ·rename_i e;cases a;subst e;exact zAc
  ·exact zAj _ (c a)
noncomputable def PO (k:Nat) (t:Tr (Nat×GO)):OL->Tr (Nat×GO)
 | []=>t
 |x::r=>(PO k t r).set (some (k+x.2.1,Yk k x.2.2)) (k+x.1)
noncomputable def aam:OL->Tr (Nat×GO)
 | []=> .lf
 |x::r=>(aam r).set (some x.2) x.1
theorem FE:∀(a:OL) (h:Nat),(aam a).get h=UY a h
 | [],h=>rfl
 |x::r,h=>by
  show((aam r).set (some x.2) x.1).get h=_;rw[tB];simp only[UY];split
  ·rfl
  ·exact FE r h
theorem Lh (k:Nat) (t:Tr (Nat×GO)):∀(b:OL) (h:Nat),(PO k t b).get h=if k<=h then(match UY b (h - k)with|some p=>some (k+p.1,Yk k p.2)|none=>t.get h)else t.get h
 | [],h=>by simp[PO,UY]
 | x :: r, h => by
  show((PO k t r).set (some (k+x.2.1,Yk k x.2.2)) (k+x.1)).get h=_;rw[tB,Lh k t r h];by_cases e:h=k+x.1
  ·subst e;rw[if_pos Z,if_pos (by omega)];simp[UY]
  ·rw[if_neg e];by_cases a:k<=h
   ·rw[if_pos a,if_pos a];simp only[UY];rw[if_neg (show¬h - k=x.1 by omega)]
   ·rw[if_neg a,if_neg a]
noncomputable def GK (n:Nat) (a:OL):GH:=⟨n,aam a⟩
noncomputable def GH.load (H:GH) (n:Nat) (a:OL):GH:=⟨H.n+n,PO H.n H.t a⟩
section
variable {gs:By} {w0:g_ gs} {w w':World} {ρ ρ2:fQ} {H:GH} {n:Nat} {os:OL}
theorem jB {H:GH} {h:Nat} {o:GO}:H.get h=some o↔∃v,H.t.get h=some (v,o):=by
 unfold GH.get;cases c:H.t.get h with
 |none=>simp[ob]
 |some p=>obtain⟨a,b⟩:=p;simp[ob]
theorem sX {H:GH} {h v:Nat}:H.ver h=some v↔∃o,H.t.get h=some (v,o):=by
 unfold GH.ver;cases c:H.t.get h with
 |none=>simp[ob]
 |some p=>obtain⟨a,b⟩:=p;simp[ob]
theorem iI.sub {d:GH} (R:iI w0 ρ H w) (z:d.n=H.n) (m:∀h p,d.t.get h=some p->H.t.get h=some p):iI w0 ρ d w:=by
 have g:∀h o,d.get h=some o->H.get h=some o:=λh o i=>by
  obtain⟨v,j⟩:=jB.1 i;exact jB.2 ⟨v,m _ _ j⟩
 refine⟨R.ext,λh o i=>R.live h o (g h o i),λh q o y l u e f=>R.inj h q o y l u (g _ _ e) (g _ _ f),λh r=>R.fresh h (by omega),λh r=>R.dense h (by omega),λh v l j s=> ?_,R.env⟩
 obtain⟨o,k⟩:=sX.1 j;obtain⟨x,a,b,c⟩:=R.vers h v l (sX.2 ⟨o,m _ _ k⟩) s;refine⟨x,a,b,?_⟩
 have e:=jB.2 ⟨v,k⟩;have f:=g _ _ e;rw[c]at f;cases f;exact e
theorem Ag.shift {l:Mm} {o:GO} {f:fQ} {k:Nat} (d:∀h l,ρ2 h=some l->f (k+h)=some (CG k l)) (h:Ag ρ2 w l o):Ag f w (CG k l) (Yk k o):=by
 cases o with
 |cells z=>
  obtain⟨j,T,r,s,t,y⟩:=h;refine⟨j,T,r,s,by rw[Gm];exact t,λi g e=> ?_⟩
  rw[Ol]at e;obtain⟨p,q,rfl⟩:=Option.map_eq_some_iff.1 e;obtain⟨v,a,b,c⟩:=y i p q;exact⟨v,a,b.shift d,c⟩
 |mp A=>
  obtain⟨x,u,r,s,t⟩:=h;refine⟨x,u,r,by simpa [Yk]using s,λi g e=> ?_⟩
  rw[List.getElem?_map]at e;obtain⟨p,q,rfl⟩:=Option.map_eq_some_iff.1 e;obtain⟨m,a,b,c⟩:=t i p q;exact⟨m,a,b.shift d,c.shift d⟩
theorem iI.join {Y:By} {hb:Kl Y w λ_=>False} (R:iI w0 ρ H w) (M:iI (g_.of w hb) ρ2 (GK n os) w'):
  ∃s:fQ,ρ.le s∧iI w0 s (H.load n os) w'∧∀g v,Rl ρ2 g v->Rl s (Ij H.n g) v:=by
 let s:fQ:=λh=>if h<H.n then ρ h else(ρ2 (h - H.n)).map (CG H.n);have G:ρ.le s:=λh l f=>by
  have ac:h<H.n:=by
   rcases zAs h H.n with q|q
   ·exact q
   ·rw[R.fresh h q]at f;cases f
  show(if h<H.n then ρ h else _)=_;rw[if_pos ac];exact f
 have K:∀h l,ρ2 h=some l->s (H.n+h)=some (CG H.n l):=λh l f=>by
  show(if H.n+h<H.n then _ else _)=_;rw[if_neg (by omega),show H.n+h - H.n=h by omega,f];rfl
 have k:∀h,h<H.n->s h=ρ h:=λh u=>by show(if h<H.n then ρ h else _)=_;rw[if_pos u]
 have d:∀h,H.n<=h->s h=(ρ2 (h - H.n)).map (CG H.n):=λh u=>by show(if h<H.n then ρ h else _)=_;rw[if_neg (by omega)]
 have J:∀h,H.n<=h->H.t.get h=none:=λh u=>by
  cases y:H.t.get h with
  |none=>rfl
  |some p=>exact absurd (R.lt (jB.2 ⟨p.1,y⟩)) (by omega)
 have X:∀h,h<H.n->(H.load n os).t.get h=H.t.get h:=λh u=>by
  show(PO H.n H.t os).get h=_;rw[Lh,if_neg (by omega)]
 have gh:∀h p,H.n<=h->(H.load n os).t.get h=some p->∃x,(GK n os).t.get (h - H.n)=some x∧p=(H.n+x.1,Yk H.n x.2):=λh p u hp=>by
  have A:(PO H.n H.t os).get h=some p:=hp;rw[Lh,if_pos u,J h u]at A;cases hk:UY os (h - H.n)with
  |none=>rw[hk]at A;cases A
  |some x=>rw[hk]at A;cases A;exact⟨x,(FE os _).trans hk,rfl⟩
 have W:Mh w w':=M.ext.ext;have L:∀l:Mm,(g_.of w hb).mine l.b->w.heap.size<=l.b:=λl h=>by
  rcases h with h|h
  ·exact h
  ·exact h.elim
 have r:∀h o,h<H.n->(H.load n os).get h=some o->∃l,ρ h=some l∧w0.mine l.b∧Ag ρ w l o∧H.get h=some o:=λh o u y=>by
  obtain⟨v,N⟩:=jB.1 y;rw[X h u]at N;have z:=jB.2 ⟨v,N⟩;obtain⟨l,a,b,c⟩:=R.live h o z;exact⟨l,a,b,c,z⟩
 have m:∀h o,H.n<=h->(H.load n os).get h=some o->∃l O,ρ2 (h - H.n)=some l∧w.heap.size<=l.b∧Ag ρ2 w' l O∧o=Yk H.n O∧(GK n os).get (h - H.n)=some O:=λh o u y=>by
  obtain⟨v,N⟩:=jB.1 y;obtain⟨x,E,e⟩:=gh h _ u N;cases e;have z:(GK n os).get (h - H.n)=some x.2:=jB.2 ⟨x.1,E⟩;obtain⟨l,a,b,c⟩:=M.live _ _ z;exact⟨l,x.2,a,L l b,c,rfl,z⟩
 refine⟨s,G,⟨R.ext.trans W,λh o y=> ?_,λh B o U l l' V E f j F=> ?_,λh u=> ?_,λh u=> ?_,λh v l N f=> ?_,λi v e=>let ⟨l,a,b⟩:=R.env i v e;⟨l,G _ _ a,b⟩⟩,λg v y=>y.shift K⟩
 ·rcases zAs h H.n with q|q
  ·obtain⟨l,a,b,c,_⟩:=r h o q y;exact⟨l,by rw[k h q];exact a,b,c.move G (W.block _ c.lt)⟩
  ·obtain⟨l,O,a,b,c,rfl,_⟩:=m h o q y;exact⟨CG H.n l,by rw[d h q,a];rfl,.inl (zB2 R.ext.size b),c.shift K⟩
 ·rcases zAs h H.n with q|q<;>rcases zAs B H.n with I|I
  ·obtain⟨l1,C,_,_,P⟩:=r h o q V;obtain⟨T,D,_,_,Q⟩:=r B U I E;rw[k h q,C]at f;rw[k B I,D]at j;cases f;cases j;exact R.inj h B o U _ _ P Q C D F
  ·obtain⟨l1,C,_,c1,P⟩:=r h o q V;obtain⟨T,O,D,b2,_,rfl,Q⟩:=m B U I E;rw[k h q,C]at f;rw[d B I,D]at j;cases f;cases j;have:=c1.lt;simp only[CG]at F;omega
  ·obtain⟨l1,o1,C,b1,_,rfl,P⟩:=m h o q V;obtain⟨T,D,_,c2,Q⟩:=r B U I E;rw[d h q,C]at f;rw[k B I,D]at j;cases f;cases j;have:=c2.lt;simp only[CG]at F;omega
  ·obtain⟨l1,o1,C,b1,_,rfl,P⟩:=m h o q V;obtain⟨T,O,D,b2,_,rfl,Q⟩:=m B U I E;rw[d h q,C]at f;rw[d B I,D]at j;cases f;cases j;have:=M.inj _ _ _ _ _ _ P Q C D F;omega
 ·have aa:H.n+n<=h:=u;rw[d h (by omega),M.fresh (h - H.n) (by show n<=_;omega)];rfl
 ·have aa:h<H.n+n:=u;rcases zAs h H.n with q|q
  ·obtain⟨l,f⟩:=R.dense h q;exact⟨l,by rw[k h q];exact f⟩
  ·obtain⟨l,f⟩:=M.dense (h - H.n) (by show _<n;omega);exact⟨CG H.n l,by rw[d h q,f];rfl⟩
 ·obtain⟨o,S⟩:=sX.1 N;rcases zAs h H.n with q|q
  ·rw[X h q]at S;rw[k h q]at f;obtain⟨lv,a,b,c⟩:=R.vers h v l (sX.2 ⟨o,S⟩) f;have y:=jB.2 ⟨v,S⟩;obtain⟨l',j,_,ck⟩:=R.live h o y;rw[f]at j;cases j;refine⟨lv,G _ _ a,by rw[W.block _ ck.lt];exact b,?_⟩
   obtain⟨v2,ad⟩:=jB.1 c;exact jB.2 ⟨v2,by rw[X h q];exact ad⟩
  ·obtain⟨x,E,e⟩:=gh h _ q S;cases e;rw[d h q]at f;obtain⟨T,ab,rfl⟩:=Option.map_eq_some_iff.1 f;obtain⟨lv,a,b,c⟩:=M.vers (h - H.n) x.1 T (sX.2 ⟨x.2,E⟩) ab;refine⟨CG H.n lv,K _ _ a,b,?_⟩
   have h3:(GK n os).get (h - H.n)=some x.2:=jB.2 ⟨x.1,E⟩;rw[c]at h3;have h4:=Option.some.inj h3;exact jB.2 ⟨_,by rw[S,<-h4];rfl⟩
end
theorem Wy {a b:Nat×Nat} (h:Qq a b=true):a=b:=by
 obtain⟨f,d⟩:=a;obtain⟨g,e⟩:=b;unfold Qq at h;cases c:Nat.beq d e with
 |false=>simp[c]at h
 |true=>
  simp only[c,cond_true]at h;rw[zA6 h,zA6 c]
theorem RE {c:fQ} {n l:Nat} {x:ByteArray} (a:n=mK (b_ x)) (b:l=(b_ x).length):Rl c (.str n l) (.string x):=by
 rw[a,b];exact .str x
def isS (a:List GV) (p:Nat×Nat):Bool:=List.casesOn (motive:=λ_=>Bool) a false λu r=>List.casesOn (motive:=λ_=>Bool) r (Option.casesOn (motive:=λ_=>Bool) (GV.asStr u) false λs=>Qq s p) λ_ _=>false
theorem acp {b:List GV} {p:Nat×Nat} (h:isS b p=true):b=[.str p.1 p.2]:=by
 cases b with
 |nil=>cases h
 | cons u r =>
  cases r with
  |cons _ _=>cases h
  | nil =>
   cases a:GV.asStr u with
   |none=>simp[isS,a]at h
   |some s=>
    have:Qq s p=true:=by simpa [isS,a]using h
    rw[pS a,Wy this]
noncomputable section
def Xl (H:GH) (a:List Nat):Option OL:=List.rec (motive:=λ_=>Option OL) (some []) (λh _ b=>ob (H.t.get h) λp=>ob b λr=>some ((h,p.1,p.2)::r)) a
theorem IZ {H:GH}:∀{c:List Nat} {b:OL},Xl H c=some b->∀x∈b,H.t.get x.1=some x.2
 | [],b,h,x,a=>by cases h;cases a
 |h0::c,b,h,x,a=>by
  obtain⟨p,d,h⟩:=aH.1 (show ob (H.t.get h0) (λp=>ob (Xl H c) λr=>some ((h0,p.1,p.2)::r))=some b from h);obtain⟨r,e,h⟩:=aH.1 h;cases h;rcases zAq.1 a with rfl|a
  ·exact d
  ·exact IZ e x a
def Td (T:HM) (G:GP) (a f:Nat) (d:List GV) (b:List Nat):Option (GV×Nat×OL):=ob (HQ T G a f d H0) λr=>ob (Xl r.2 b) λc=>some (r.1,r.2.n,c)
def shK {R:Type} (k:Nat) (v:GV) (f:GV->R):R:=GV.casesOn (motive_1:=λ_=>R) v (λa b=>f (.int a b)) (λb=>f (.bool b)) (λa b=>f (.str a b)) (λh o=>sn (Nat.add k h) λh=>f (.ptr h o)) (f .pnil) (λh o l s=>sn (Nat.add k h) λh=>f (.sl h o l s)) (f .snil) (λh=>sn (Nat.add k h) λh=>f (.map h)) (λa b c=>f (Ij k (.fn a b c))) (f .fnil) (f .inil) (λd=>f (Ij k (.agg d))) (λe=>f (Ij k (.tup e))) (f .un) (f .bad) (λh=>sn (Nat.add k h) λh=>f (.opn h))
theorem XL {R:Type} (k:Nat) (v:GV) (f:GV->R):shK k v f=f (Ij k v):=by
 cases v<;>simp[shK,xT,Ij]
def acL {R:Type} (k:Nat) (l:List GV):(List GV->R)->R:=List.rec (motive:=λ_=>(List GV->R)->R) (λf=>f []) (λx _ a f=>shK k x λy=>a λr=>f (y::r)) l
theorem Tu {R:Type} (k:Nat):∀(l:List GV) (f:List GV->R),acL k l f=f (U_ k l)
 | [],f=>rfl
 |x::l,f=>by
  show shK k x (λy=>acL k l λr=>f (y::r))=_;rw[XL,Tu k l];rfl
def acM {R:Type} (k:Nat) (o:GO) (f:GO->R):R:=GO.casesOn (motive:=λ_=>R) o (λa=>acL k a λa=>f (.cells a)) (λb=>f (Yk k (.mp b)))
theorem aax {R:Type} (k:Nat) (o:GO) (f:GO->R):acM k o f=f (Yk k o):=by
 cases o with
 |cells a=>exact Tu k a _
 |mp b=>rfl
def acC {R:Type} (k:Nat) (t:Tr (Nat×GO)) (b:OL):(Tr (Nat×GO)->R)->R:=List.rec (motive:=λ_=>(Tr (Nat×GO)->R)->R) (λf=>f t) (λx _ a f=>a λt=>sn (Nat.add k x.2.1) λv=>sn (Nat.add k x.1) λh=>acM k x.2.2 λo=>t.setK (some (v,o)) h f) b
theorem Tm {R:Type} (k:Nat) (t:Tr (Nat×GO)):∀(a:OL) (f:Tr (Nat×GO)->R),acC k t a f=f (PO k t a)
 | [],f=>rfl
 |x::a,f=>by
  show acC k t a (λt=>sn (Nat.add k x.2.1) λv=>sn (Nat.add k x.1) λh=>acM k x.2.2 λo=>t.setK (some (v,o)) h f)=_;rw[Tm k t a];simp only[xT,aax,Eg];rfl
def Tc (g:GV) (n:Nat) (a:OL) (H:GH):Option (GV×GH):=sn H.n λk=>shK k g λg=>acC k H.t a λt=>sn (Nat.add k n) λm=>some (g,⟨m,t⟩)
theorem Xd (g:GV) (n:Nat) (a:OL) (H:GH):Tc g n a H=some (Ij H.n g,H.load n a):=by
 unfold Tc;simp only[xT,XL,Tm];rfl
theorem aad {P:Program} {T:HM} {G:GP} {gs gs2:By} (j:gs2.obs=gs.obs) (d:gs2.env=[]) (M:Kw T G.tab) (L:∀m:g_ gs2,Ve P G T.fns m) {a f n:Nat} {y:List GV} {z:List Value} {O:List Nat} {g:GV} {c:OL} (i:Td T G a f y O=some (g,n,c)) (C:bD P f)
  {m:g_ gs} {w:World} {F:fQ} {H o:GH} {B:GV} (Q:qR (λ_=>none) y z) (h:Tc g n c H=some (B,o)) (R:iI m F H w):oM P m F f z w B o:=by
 rw[Xd]at h;cases h;obtain⟨r,D,i⟩:=aH.1 (show ob (HQ T G a f y H0) _=some (g,n,c)from i);obtain⟨S,s,i⟩:=aH.1 i;cases i;rw[DF M]at D;have b:Kl gs2 w λ_=>False:=λp t=>⟨(R.glo p (j▸t)).1,id⟩
 rcases KD L (H':=r.2) (g:=r.1) D (iI.start (g_.of w b) d) Q with⟨v,E,l,k,_⟩|⟨_,N⟩
 ·have:=C z.toArray w;rw[show(g_.of w b).w=w from rfl,this]at k;cases k
 ·refine .inr ⟨C _ w,N.mono ?_⟩;rintro e E ⟨v,A,rfl,_,I,u⟩;have J:iI (g_.of w b) A (GK r.2.n c) E:=I.sub Z λh p t=>by
   have:UY c h=some p:=(FE c h).symm.trans t;exact IZ s _ (NW this)
  obtain⟨l,q,K,x⟩:=R.join J;exact⟨v,l,rfl,q,K,x _ _ u⟩
theorem MN {P:Program} {T:HM} {G:GP} {gs:By} (y:Kw T G.tab) (x:∀H:g_ gs,Ve P G T.fns H) {a f n:Nat} {m:List GV} {o:List Value} {D:List Nat} {g:GV} {j:OL} (d:Td T G a f m D=some (g,n,j)) (z:bD P f)
  (E:qR (λ_=>none) m o) (B:gs.env=[]) (b:g_ gs):Calls P f o.toArray b.w λe q=>∃v c,e = .returned v∧iI b c (GK n j) q∧Rl c g v:=by
 obtain⟨r,t,d⟩:=aH.1 (show ob (HQ T G a f m H0) _=some (g,n,j)from d);obtain⟨F,k,d⟩:=aH.1 d;cases d;rw[DF y]at t;rcases KD x (H':=r.2) (g:=r.1) t (iI.start b B) E with⟨v,q,c,i,_⟩|⟨_,A⟩
 ·have:=z o.toArray b.w;rw[this]at i;cases i
 ·refine A.mono ?_;rintro e q ⟨v,s,rfl,_,u,l⟩;exact⟨v,s,rfl,u.sub Z λh p C=>by
   have:UY j h=some p:=(FE j h).symm.trans C;exact IZ k _ (NW this),l⟩
end
theorem K_ {P:Program} {gs:Nat->By} {L:List bJ} (D:∀w S,(∀h∈L,h.p w S)->∃T,Kl (gs T) w λ_=>False) {f n:Nat} {z:List Value} {g:GV} {y:OL}
  (h:∀T (b:g_ (gs T)),Calls P f z.toArray b.w λe s=>∃v c,e = .returned v∧iI b c (GK n y) s∧Rl c g v) {A:Type} {o:A->Value} {LO:A->List bJ}
  (d:∀T (b:g_ (gs T)) (B:fQ) (w:World) (V:Value),(∀k,b.mine k->b.w.heap.size<=k)->iI b B (GK n y) w->Rl B g V->∃x:A,V=o x∧∀q∈LO x,q.p w (λk=>b.w.heap.size<=k)):
  bG P f z.toArray L o (λ_ l=>l) (λx l=>LO x++l):=by
 intro t C H;obtain⟨T,u⟩:=D t C H;refine(h T (.of t u)).mono ?_;rintro e s ⟨v,c,rfl,R,G⟩;obtain⟨x,rfl,F⟩:=d T (.of t u) c s v (λk r=>r.elim id False.elim) R G;refine⟨x,rfl,R.ext,λ_ _=>False,⟨λi m E=>by simp at E,λi k h=>h.elim,λi j k h=>h.elim⟩,λq a=> ?_⟩
 have a:q∈LO x++[]:=a;rw[List.append_nil]at a;exact bJ.wide (F q a) (λk r=>⟨.inr (.inl r),λi h=>h.elim⟩)
noncomputable def Hh (s:ByteArray):Nat×Nat:=(mK (b_ s),(b_ s).length)
theorem KL {a b:ByteArray} (h:Hh a=Hh b):a=b:=by
 have c:=Wx a b;unfold Hh at h;rw[h]at c;have e:Qq (mK (b_ b),(b_ b).length) (mK (b_ b),(b_ b).length)=true:=by simp[Qq]
 rw[e]at c;have d:a.toList=b.toList:=eq_of_beq c.symm;rw[Lib.toList_data,Lib.toList_data]at d;obtain⟨⟨x⟩⟩:=a;obtain⟨⟨y⟩⟩:=b;simp only at d;rw[d]
noncomputable def Wq (a:List GV):Option (Nat×Nat):=List.casesOn (motive:=λ_=>Option (Nat×Nat)) a none λc r=>List.casesOn (motive:=λ_=>Option (Nat×Nat)) r c.asStr λ_ _=>none
abbrev acF:eD ByteArray:=⟨1,Nat.one_pos,λ_ _ a x=>a=[.string x],λh=>by simp[h],λh _=>h⟩
theorem fL.str {S:Nat->Prop} {g:fQ} {w:World}:fL S g w Wq acF Hh:=λgs f y a h _=>by
 cases gs with
 |nil=>cases h
 |cons c gs=>
 cases gs with
 |cons _ _=>cases h
 |nil=>
 have h:c.asStr=some y:=h;obtain⟨v,f,rfl,b,a⟩:=a.of_cons;rw[a.of_nil];rw[pS h]at b;obtain⟨x,rfl,d,e⟩:=b.str_inv;exact⟨x,by unfold Hh;rw[<-d,<-e],rfl⟩
theorem Tx {c:fQ} {V:Value} {n l:Nat} {s:ByteArray} (h:Rl c (.str n l) V) (e:Hh s=(n,l)):V = .string s:=by
 obtain⟨x,rfl,a,b⟩:=h.str_inv;have:Hh x=Hh s:=by rw[e];unfold Hh;rw[<-a,<-b]
 rw[KL this]
theorem Dn {c:Type}:∀a b:c,id a=id b->a=b:=λ_ _ h=>h
theorem vW {c d e i:Type} {f:c->e} {g:d->i} (j:∀a b,f a=f b->a=b) (k:∀a b,g a=g b->a=b):∀a b:c×d,(λz:c×d=>(f z.1,g z.2)) a=(λz:c×d=>(f z.1,g z.2)) b->a=b:=λa b h=>by
 obtain⟨l,m⟩:=a;obtain⟨n,o⟩:=b;simp only[Prod.mk.injEq]at h;rw[j _ _ h.1,k _ _ h.2]
theorem Hm {g i:Type} {f:g->i} (e:∀a b,f a=f b->a=b):∀{c d:List g},c.map f=d.map f->c=d
 | [],[],_=>rfl
 | [],_::_,h=>by simp at h
 |_::_,[],h=>by simp at h
 |a::c,b::d,h=>by
  simp only[List.map_cons,List.cons.injEq]at h;rw[e _ _ h.1,Hm e h.2]
end Go.Gx
section
set_option maxRecDepth 100000
namespace Go.Gx
open Go Go.Sx Go.Proofs Go.Proofs.YtflciafboapaaaaGreat
def IT (l:List Nat):List GV:=l.map λn=> .int .i64 (.ofNat n)
abbrev acl:Nat:=6706143830449764899556809608818904919804074884937111603718476495539622089622860971527792587791047894922729163212717263328395231852300855536488424978955807703755604513825873373095632290149847090083112304426652546340939400726262280257803792487332445892473582856512649637013408585975292850644760247287299230258062944610265801223788397479914840704983105145953743025358843726328641031619437354017789814719882883570583131354112070717477863523377784965938515931160728579383844655360852857429048595849656685311997067516701048769715945338084683118784715135226216982869351630641616464718832441949492048937096570154901286325463543707328254906190863546417377904
def mu0:List GV:=[.str acl 270]
def mg0:GV:=(.agg [(.str 7562850 3),(.sl 1176 0 2 6),(.sl 2078 0 2 3)])
def UC:OL:=[(1176,1176,.cells [(.str 100 1),(.int .i64 (.ofNat 1)),(.int .i64 (.ofNat 0)),(.int .i64 (.ofNat 0)),(.int .i64 (.ofNat 1)),(.int .i64 (.ofNat 0)),(.str 112 1),(.int .i64 (.ofNat 3)),(.int .i64 (.ofNat 0)),(.int .i64 (.ofNat 0)),(.int .i64 (.ofNat 0)),(.int .i64 (.ofNat 0))]),
 (1300,1300,.cells (IT [41,0,10,0,42,0,36,0,5,0,1,0,36,0,5,1,4,0])),
 (1326,1326,.cells [(.int .i64 (.ofNat 1)),(.int .i64 (.ofNat 0))]),
 (1359,1359,.cells [(.int .i64 (.ofNat 4)),(.int .i64 (.ofNat 0))]),
 (1367,1367,.cells [(.int .i64 (.ofNat 0)),(.sl 1326 0 1 2),(.int .i64 (.ofNat 1)),(.sl 1359 0 1 2)]),
 (1755,1755,.cells (IT [41,0,19,0,10,0,42,0,36,0,5,0,43,0,37,0,24,0,12,0,6,0,33,0,24,0,12,0,1,1,6,0,36,0,5,1,23,0,35,0,12,0,24,0,12,0])),
 (1936,1936,.cells (IT [43,0,37,0,24,0,12,0,6,0,33,0,24,0,12,0,1,1,6,0])),
 (2062,2062,.cells (IT [23,0,35,0,12,0,24,0,12,0])),
 (2070,2070,.cells [(.int .i64 (.ofNat 0)),(.sl 1936 0 10 2),(.int .i64 (.ofNat 1)),(.sl 2062 0 5 2)]),
 (2078,2078,.cells [(.str 7368564 3),(.sl 1300 0 9 2),(.sl 1367 0 2 2),(.str 7827308 3),(.sl 1755 0 23 2),(.sl 2070 0 2 2)])]
set_option maxHeartbeats 4000000 in
theorem me0:Td Jb gp 4000 9 mu0 [1176,1300,1326,1359,1367,1755,1936,2062,2070,2078]=some (mg0,3136,UC):=by kernel_rfl
noncomputable def Re (f:Nat) (a:List GV) (H:GH):Option (GV×GH):=bif Nat.beq f 9 then(bif isS a (acl,270)then Tc mg0 3136 UC H else WL f a H)else WL f a H
noncomputable def adE:GP:=⟨Ad,gp.cat,Re,gp.exn⟩
theorem Uq {T:Nat} {k:g_ (gl T)} {w:World} {e:fQ} {H i:GH} {g:GV} {d:List GV} {j:fM} {f:Nat} (h:Re f d H=some (g,i)) (R:iI k e H w) (a:qR e d j):oM Tryz.prog k e f j w g i:=by
 unfold Re at h;cases b:Nat.beq f 9 with
 |false=>rw[b]at h;exact NR h R a
 | true =>
  rw[b]at h;cases c:isS d (acl,270)with
  |false=>rw[c]at h;exact NR h R a
  |true=>
   rw[c]at h;rw[zA6 b];rw[acp c]at a;obtain⟨V,rfl,n⟩:=a.one;obtain⟨x,rfl,l,m⟩:=n.str_inv;exact aad (gs:=gl T) (gs2:=gl T) Z Z EC gok me0 Tryz.call9 (qR.cons (RE l m) .nil) h R
theorem adD {T:Nat} (a:g_ (gl T)):Ve Tryz.prog adE Jb.fns a:=⟨(gok a).tab,(gok a).mixed,(gok a).fns,λh d w c R b=>Uq h R b,(gok a).exn,(gok a).cat⟩
abbrev afv:Nat:=2782272544148574329703548915484139416562471587372346629090892429547018860149309682118537811771073185556707760590527461846276004869770941806974104689717583530206048895217444112283498148464
def mu1:List GV:=[.str afv 78]
def mg1:GV:=(.agg [(.str 1907970655657516625763 9),(.sl 328 0 1 6),(.sl 491 0 1 3)])
def UZ:OL:=[(328,328,.cells [(.str 99 1),(.int .i64 (.ofNat 1)),(.int .i64 (.ofNat 0)),(.int .i64 (.ofNat 0)),(.int .i64 (.ofNat 1)),(.int .i64 (.ofNat 0))]),
 (410,410,.cells (IT [21,0,35,0,12,0,5,0])),
 (475,475,.cells (IT [27,0,12,0])),
 (483,483,.cells [(.int .i64 (.ofNat 0)),(.sl 475 0 2 2)]),
 (491,491,.cells [(.str 7891302 3),(.sl 410 0 4 2),(.sl 483 0 1 2)])]
set_option maxHeartbeats 4000000 in
theorem me1:Td Jb adE 4000 9 mu1 [328,410,475,483,491]=some (mg1,651,UZ):=by kernel_rfl
end Go.Gx
end
namespace Go.Gx
open Go Go.Sx Go.RowKit
structure Hd (n:Nat) (os:OL) (ρ:fQ) (w:World) (S:Nat->Prop):Prop where
 live:∀h o,(GK n os).get h=some o->∃l,ρ h=some l∧S l.b∧Ag ρ w l o
 inj:∀h h' o o' l l',(GK n os).get h=some o->(GK n os).get h'=some o'->ρ h=some l->ρ h'=some l'->l.b=l'.b->h=h'
 fresh:∀h,n<=h->ρ h=none
 dense:∀h,h<n->∃l,ρ h=some l
 vers:∀h v l,(GK n os).ver h=some v->ρ h=some l->∃lv,ρ v=some lv∧w.heap[l.b]? = some lv.x∧(GK n os).get h=some lv.o
theorem Hd.mono {n:Nat} {p:OL} {f:fQ} {w w':World} {S g:Nat->Prop} (H:Hd n p f w S) (h:∀k,S k->k<w.heap.size->g k∧w'.heap[k]? = w.heap[k]?):Hd n p f w' g:=by
 refine⟨λk o s=> ?_,H.inj,H.fresh,H.dense,λk v l m j=> ?_⟩
 ·obtain⟨l,a,b,c⟩:=H.live k o s;obtain⟨d,e⟩:=h _ b c.lt;exact⟨l,a,d,c.move (fQ.le_refl f) e⟩
 ·obtain⟨u,a,b,c⟩:=H.vers k v l m j;obtain⟨o,t⟩:=sX.1 m;obtain⟨x,i,q,r⟩:=H.live k o (jB.2 ⟨v,t⟩);rw[j]at i;cases i;exact⟨u,a,by rw[(h _ q r.lt).2];exact b,c⟩
theorem iI.hd {gs:By} {b:g_ gs} {n:Nat} {d:OL} {ρ:fQ} {w:World} {S:Nat->Prop} (R:iI b ρ (GK n d) w) (e:∀k,b.mine k->S k):Hd n d ρ w S:=
 ⟨λh o f=>let ⟨l,a,b,c⟩:=R.live h o f;⟨l,a,e _ b,c⟩,R.inj,R.fresh,R.dense,R.vers⟩
def ON (n:Nat) (b:OL) (g:GV) (V:Value):bJ where
 p w S:=∃a,Hd n b a w S∧Rl a g V
 mono:=fun⟨a,h,r⟩ k=>⟨a,h.mono k,r⟩
def Hd.O (n:Nat) (a:OL) (c:fQ) (k:Nat):Prop:=∃h o l,(GK n a).get h=some o∧c h=some l∧l.b=k
def Hd.base (n:Nat) (a:OL) (ρ:fQ) (w:World):g_ noG:=⟨w,Hd.O n a ρ,λ_ h=>absurd h List.not_mem_nil⟩
theorem Hd.rel {n:Nat} {b:OL} {ρ:fQ} {w:World} {S:Nat->Prop} (H:Hd n b ρ w S):iI (Hd.base n b ρ w) ρ (GK n b) w:=
 ⟨Dy.refl w,λh o d=>let ⟨l,a,_,c⟩:=H.live h o d;⟨l,a,.inr ⟨h,o,l,d,a,rfl⟩,c⟩,H.inj,H.fresh,H.dense,H.vers,λi v e=>by simp[Hd.base,noG]at e⟩
noncomputable def GL (H:GH) (b:OL):Bool:=List.rec (motive:=λ_=>Bool) true (λx _ a=>Option.casesOn (motive:=λ_=>Bool) (H.ver x.1) false λv=>bif Nat.beq v x.2.1 then a else false) b
theorem PW {H:GH}:∀{a:OL},GL H a=true->∀x∈a,H.ver x.1=some x.2.1
 | [],_,x,b=>by cases b
 | y :: a, h, x, b => by
  have h:Option.casesOn (motive:=λ_=>Bool) (H.ver y.1) false (λv=>bif Nat.beq v y.2.1 then GL H a else false)=true:=h;cases c:H.ver y.1 with
  |none=>rw[c]at h;cases h
  | some v =>
   rw[c]at h;obtain⟨d,f⟩:=cH.1 (show(bif Nat.beq v y.2.1 then(some (GL H a))else none)=some true by
    have h:(bif Nat.beq v y.2.1 then GL H a else false)=true:=h;cases e:Nat.beq v y.2.1<;>rw[e]at h<;>first|cases h|(show some (GL H a)=some true;rw[show GL H a=true from h]))
   rcases zAq.1 b with rfl|b
   ·rw[c,zA6 d]
   ·exact PW (Option.some.inj f) x b
noncomputable def okV (a:OL) (r:OR):Bool:=Option.casesOn (motive:=λ_=>Bool) r false λr=>Option.casesOn (motive:=λ_=>Bool) r.1.asB false λb=>bif b then GL r.2 a else false
theorem Ia {d:OL} {r:OR} (h:okV d r=true):∃a,r=some (.bool true,a)∧GL a d=true:=by
 cases r with
 |none=>cases h
 | some r =>
  obtain⟨g,a⟩:=r;have h:Option.casesOn (motive:=λ_=>Bool) g.asB false (λb=>bif b then GL a d else false)=true:=h;cases c:g.asB with
  |none=>rw[c]at h;cases h
  |some b=>
   rw[c]at h;cases b with
   |false=>cases h
   |true=>exact⟨a,by rw[Dk c],h⟩
theorem Gh {P:Program} {G:GP} {x:FT} (F:∀T:g_ noG,Ve P G x T) {fuel f n:Nat} {d:OL} {g:GV} {V:Value} (H:bD P f) (h:∃r,SI G x fuel f [g] (GK n d)=some (.bool true,r)∧GL r d=true) {w:World} {S:Nat->Prop} (Q:(ON n d g V).p w S):
  Calls P f #[V] w λe u=>e = .returned (.bool true)∧Mh w u:=by
 obtain⟨U,y,M⟩:=Q;obtain⟨r,D,E⟩:=h;rcases KD F D y.rel (.cons M .nil)with⟨v,u,W,m,_⟩|⟨_,I⟩
 ·have:=H #[V] w;rw[this]at m;cases m
 ·refine I.mono ?_;rintro e u ⟨v,X,rfl,j,c,N⟩;refine⟨by rw[N.bool_inv],c.ext.os,c.ext.tape,c.ext.output,c.ext.size,λk K=> ?_⟩
  by_cases A:Hd.O n d U k
  ·obtain⟨i,o,l,J,z,rfl⟩:=A;obtain⟨t,q⟩:=jB.1 J;have L:(i,t,o)∈d:=NW ((FE d i).symm.trans q);obtain⟨R,a,b,_⟩:=y.vers i t l (sX.2 ⟨o,q⟩) z;obtain⟨s,B,C,_⟩:=c.vers i t l (PW E _ L) (j _ _ z);have:R=s:=by have:=j _ _ a;rw[B]at this;exact(Option.some.inj this).symm
   subst this;exact C.trans b.symm
  ·exact c.ext.block k K A
end Go.Gx
namespace Go.Proofs.YtflciafboapaaaaGreat
open Go Go.Sx Go.Gx
set_option maxRecDepth 100000
abbrev pR:=ByteArray×(Value×fP)×(Value×List (Int×(Value×fP)))
def pK (z:pR):fP×List (Int×fP):=(z.2.1.2,z.2.2.2.map λs=>(s.1,s.2.2))
def Ho:ByteArray:=(ByteArray.mk #[112,114,111,103,114,97,109,32,98,102,115,59,10,118,97,114,32,100,32,58,32,48,32,46,46,32,110,59,10,118,97,114,32,112,32,58,32,112,111,114,116,59,10,114,117,108,101,32,116,111,112,58,32,114,111,111,116,32,38,38,32,40,100,32,33,61,32,48,32,124,124,32,112,32,33,61,32,110,111,110,101,41,32,45,62,32,100,32,58,61,32,48,44,32,112,32,58,61,32,110,111,110,101,59,10,114,117,108,101,32,108,111,119,58,32,33,114,111,111,116,32,38,38,32,40,100,32,33,61,32,40,109,105,110,40,113,46,100,41,32,60,32,110,32,63,32,109,105,110,40,113,46,100,41,32,43,32,49,32,58,32,110,41,32,124,124,32,112,32,33,61,32,102,105,114,115,116,40,113,46,100,32,61,61,32,109,105,110,40,113,46,100,41,41,41,10,32,32,45,62,32,100,32,58,61,32,40,109,105,110,40,113,46,100,41,32,60,32,110,32,63,32,109,105,110,40,113,46,100,41,32,43,32,49,32,58,32,110,41,44,32,112,32,58,61,32,102,105,114,115,116,40,113,46,100,32,61,61,32,109,105,110,40,113,46,100,41,41,59,10])
def Hr:List (ByteArray×Int×Int×Int×Int×Int):=[((ByteArray.mk #[100]),(1:Int),(0:Int),(0:Int),(1:Int),(0:Int)),((ByteArray.mk #[112]),(3:Int),(0:Int),(0:Int),(0:Int),(0:Int))]
def Ew:Na:=[([(41,0),(10,0),(42,0),(36,0),(5,0),(1,0),(36,0),(5,1),(4,0)],[(0,[(1,0)]),(1,[(4,0)])]),([(41,0),(19,0),(10,0),(42,0),(36,0),(5,0),(43,0),(37,0),(24,0),(12,0),(6,0),(33,0),(24,0),(12,0),(1,1),(6,0),(36,0),(5,1),(23,0),(35,0),(12,0),(24,0),(12,0)],[(0,[(43,0),(37,0),(24,0),(12,0),(6,0),(33,0),(24,0),(12,0),(1,1),(6,0)]),(1,[(23,0),(35,0),(12,0),(24,0),(12,0)])])]
def aaV:List ((Nat×Nat)×fP×List (Int×fP)):=[((7368564,3),[(41,0),(10,0),(42,0),(36,0),(5,0),(1,0),(36,0),(5,1),(4,0)],[(0,[(1,0)]),(1,[(4,0)])]),((7827308,3),[(41,0),(19,0),(10,0),(42,0),(36,0),(5,0),(43,0),(37,0),(24,0),(12,0),(6,0),(33,0),(24,0),(12,0),(1,1),(6,0),(36,0),(5,1),(23,0),(35,0),(12,0),(24,0),(12,0)],[(0,[(43,0),(37,0),(24,0),(12,0),(6,0),(33,0),(24,0),(12,0),(1,1),(6,0)]),(1,[(23,0),(35,0),(12,0),(24,0),(12,0)])])]
def Hp:ByteArray:=(ByteArray.mk #[112,114,111,103,114,97,109,32,99,111,108,111,117,114,105,110,103,59,10,118,97,114,32,99,32,58,32,48,32,46,46,32,110,59,10,114,117,108,101,32,102,105,120,58,32,115,111,109,101,40,113,46,99,32,61,61,32,99,41,32,45,62,32,99,32,58,61,32,109,101,120,40,113,46,99,41,59,10])
def Ja:List (ByteArray×Int×Int×Int×Int×Int):=[((ByteArray.mk #[99]),(1:Int),(0:Int),(0:Int),(1:Int),(0:Int))]
def Gj:Na:=[([(21,0),(35,0),(12,0),(5,0)],[(0,[(27,0),(12,0)])])]
def aaW:List ((Nat×Nat)×fP×List (Int×fP)):=[((7891302,3),[(21,0),(35,0),(12,0),(5,0)],[(0,[(27,0),(12,0)])])]
def PF (V:Value):bJ:=⟨λw S=>(ON 3136 UC mg0 V).p w S∨(ON 651 UZ mg1 V).p w S,λ{w w' S S'} h k=>by
 rcases h with h|h
 ·exact .inl ((ON 3136 UC mg0 V).mono h k)
 exact .inr (((ON 651 UZ mg1 V).mono h k))⟩
noncomputable def T_ {R:Type} (D:Na) (k:List pR->Option R):Option R:=open Classical in if h:∃r,∀z:List pR,z.map pK=D->k z=some r then some (Classical.choose h)else none
theorem Mq {R:Type} {D:Na} {k:List pR->Option R} {r:R} (h:T_ D k=some r) (z:List pR) (a:z.map pK=D):k z=some r:=by
 unfold T_ at h;split at h
 ·rename_i e;rw[<-Option.some.inj h];exact Classical.choose_spec e z a
 cases h
theorem Sm {R:Type} {D:Na} {k:List pR->Option R} {r:R} (h:∀z:List pR,z.map pK=D->k z=some r):T_ D k=some r:=by
 have e:∃r,∀z:List pR,z.map pK=D->k z=some r:=⟨r,h⟩
 unfold T_;rw[dif_pos e];let z:List pR:=D.map λx=>(ByteArray.empty,(undef,x.1),(undef,x.2.map λs=>(s.1,(undef,s.2))))
 have c:z.map pK=D:=by
  show(D.map _).map pK=D;rw[List.map_map]
  conv=>rhs;rw[<-List.map_id D]
  refine List.map_congr_left λx _=>?_;obtain⟨a,b⟩:=x;simp[pK,Function.comp_def]
 rw[<-Classical.choose_spec e z c,h z c]
def lA (a:Nat) (b:ByteArray):Option TD:=if b=Ho then some ((ByteArray.mk #[98,102,115]),Hr,Ew)else if b=Hp then some ((ByteArray.mk #[99,111,108,111,117,114,105,110,103]),Ja,Gj)else none
theorem SG:bD Tryz.prog 9:=Tryz.call9
theorem NB:bD Tryz.prog 168:=Tryz.call168
theorem PM:Hh Ho=(6706143830449764899556809608818904919804074884937111603718476495539622089622860971527792587791047894922729163212717263328395231852300855536488424978955807703755604513825873373095632290149847090083112304426652546340939400726262280257803792487332445892473582856512649637013408585975292850644760247287299230258062944610265801223788397479914840704983105145953743025358843726328641031619437354017789814719882883570583131354112070717477863523377784965938515931160728579383844655360852857429048595849656685311997067516701048769715945338084683118784715135226216982869351630641616464718832441949492048937096570154901286325463543707328254906190863546417377904,270):=by kernel_rfl
theorem Xm:Hh (ByteArray.mk #[98,102,115])=(7562850,3):=by kernel_rfl
theorem Xs:NL (GK 3136 UC) 6 (dP 1 Wq (dP 1 (dI .i64) (dP 1 (dI .i64) (dP 1 (dI .i64) (dP 1 (dI .i64) (dI .i64)))))) (.sl 1176 0 2 6)=some (Hr.map λz=>(Hh z.1,z.2.1,z.2.2.1,z.2.2.2.1,z.2.2.2.2.1,z.2.2.2.2.2)):=by kernel_rfl
theorem UH:NL (GK 3136 UC) 3 (dP 1 Wq (dP 1 (dS (GK 3136 UC) 2 (dP 1 (dI .i64) (dI .i64))) (dS (GK 3136 UC) 2 (dP 1 (dI .i64) (dS (GK 3136 UC) 2 (dP 1 (dI .i64) (dI .i64))))))) (.sl 2078 0 2 3)=some aaV:=by kernel_rfl
theorem aaj:aaV.map (λy=>(y.2.1,y.2.2))=Ew:=by kernel_rfl
theorem Xo (r:TD) (h:some ((ByteArray.mk #[98,102,115]),Hr,Ew)=some r):bG Tryz.prog 9 #[vS Ho] [] (λx:Value×Value×{z:List pR // z.map pK=r.2.2}=>Value.agg #[vS r.1,x.1,x.2.1]) (λx l=>l) (λx l=>Sl aG x.1 r.2.1::Sl aF x.2.1 x.2.2.1::PF (Value.agg #[vS r.1,x.1,x.2.1])::l):=by
 cases h;refine K_ (gs:=gl) (LO:=λx:Value×Value×{z:List pR // z.map pK=Ew}=>[Sl aG x.1 Hr,Sl aF x.2.1 x.2.2.1,PF (Value.agg #[vS (ByteArray.mk #[98,102,115]),x.1,x.2.1])]) WM (λT b=>MN EC gok me0 SG (.cons (RE (x:=Ho) (congrArg Prod.fst PM).symm (congrArg Prod.snd PM).symm) .nil) Z b) ?_;intro T b B w V a R g;have y:=g;obtain⟨f,rfl,c,_⟩:=g.agg_inv;obtain⟨C,f,rfl,m,c⟩:=c.of_cons;obtain⟨j,f,rfl,n,c⟩:=c.of_cons;obtain⟨k,rfl,o⟩:=c.one;obtain rfl:=Tx m Xm;obtain⟨A,v,s⟩:=Ek R a (fL.pair fL.str (fL.pair (fL.int .i64) (fL.pair (fL.int .i64) (fL.pair (fL.int .i64) (fL.pair (fL.int .i64) (fL.int .i64)))))) n Xs;have e:A=Hr:=Hm (vW (λ_ _=>KL) (vW Dn (vW Dn (vW Dn (vW Dn Dn))))) v;subst e;obtain⟨i,u,t⟩:=Ek (r:=aF) R a (fL.pair fL.str (fL.pair (fL.sl R a (fL.pair (fL.int .i64) (fL.int .i64))) (fL.sl R a (fL.pair (fL.int .i64) (fL.sl R a (fL.pair (fL.int .i64) (fL.int .i64))))))) o UH;have d:i.map pK=Ew:=by
  rw[<-aaj,<-u,List.map_map];refine List.map_congr_left λx _=>?_;simp[pK,Function.comp_def]
 exact⟨(j,k,⟨i,d⟩),rfl,zB3.2 ⟨s,zB3.2 ⟨t,zB3.2 ⟨.inl (⟨B,iI.hd R a,y⟩),λq p=>absurd p List.not_mem_nil⟩⟩⟩⟩
theorem Ye:okV UC (HQ Jb ZS 4000 168 [mg0] (GK 3136 UC))=true:=by kernel_rfl
theorem PN:Hh Hp=(2782272544148574329703548915484139416562471587372346629090892429547018860149309682118537811771073185556707760590527461846276004869770941806974104689717583530206048895217444112283498148464,78):=by kernel_rfl
theorem Xn:Hh (ByteArray.mk #[99,111,108,111,117,114,105,110,103])=(1907970655657516625763,9):=by kernel_rfl
theorem Xt:NL (GK 651 UZ) 6 (dP 1 Wq (dP 1 (dI .i64) (dP 1 (dI .i64) (dP 1 (dI .i64) (dP 1 (dI .i64) (dI .i64)))))) (.sl 328 0 1 6)=some (Ja.map λz=>(Hh z.1,z.2.1,z.2.2.1,z.2.2.2.1,z.2.2.2.2.1,z.2.2.2.2.2)):=by kernel_rfl
theorem UI:NL (GK 651 UZ) 3 (dP 1 Wq (dP 1 (dS (GK 651 UZ) 2 (dP 1 (dI .i64) (dI .i64))) (dS (GK 651 UZ) 2 (dP 1 (dI .i64) (dS (GK 651 UZ) 2 (dP 1 (dI .i64) (dI .i64))))))) (.sl 491 0 1 3)=some aaW:=by kernel_rfl
theorem aak:aaW.map (λy=>(y.2.1,y.2.2))=Gj:=by kernel_rfl
theorem Xp (r:TD) (h:some ((ByteArray.mk #[99,111,108,111,117,114,105,110,103]),Ja,Gj)=some r):bG Tryz.prog 9 #[vS Hp] [] (λx:Value×Value×{z:List pR // z.map pK=r.2.2}=>Value.agg #[vS r.1,x.1,x.2.1]) (λx l=>l) (λx l=>Sl aG x.1 r.2.1::Sl aF x.2.1 x.2.2.1::PF (Value.agg #[vS r.1,x.1,x.2.1])::l):=by
 cases h;refine K_ (gs:=gl) (LO:=λx:Value×Value×{z:List pR // z.map pK=Gj}=>[Sl aG x.1 Ja,Sl aF x.2.1 x.2.2.1,PF (Value.agg #[vS (ByteArray.mk #[99,111,108,111,117,114,105,110,103]),x.1,x.2.1])]) WM (λT b=>MN EC adD me1 SG (.cons (RE (x:=Hp) (congrArg Prod.fst PN).symm (congrArg Prod.snd PN).symm) .nil) Z b) ?_;intro T b B w V a R g;have y:=g;obtain⟨f,rfl,c,_⟩:=g.agg_inv;obtain⟨C,f,rfl,m,c⟩:=c.of_cons;obtain⟨j,f,rfl,n,c⟩:=c.of_cons;obtain⟨k,rfl,o⟩:=c.one;obtain rfl:=Tx m Xn;obtain⟨A,v,s⟩:=Ek R a (fL.pair fL.str (fL.pair (fL.int .i64) (fL.pair (fL.int .i64) (fL.pair (fL.int .i64) (fL.pair (fL.int .i64) (fL.int .i64)))))) n Xt;have e:A=Ja:=Hm (vW (λ_ _=>KL) (vW Dn (vW Dn (vW Dn (vW Dn Dn))))) v;subst e;obtain⟨i,u,t⟩:=Ek (r:=aF) R a (fL.pair fL.str (fL.pair (fL.sl R a (fL.pair (fL.int .i64) (fL.int .i64))) (fL.sl R a (fL.pair (fL.int .i64) (fL.sl R a (fL.pair (fL.int .i64) (fL.int .i64))))))) o UI;have d:i.map pK=Gj:=by
  rw[<-aak,<-u,List.map_map];refine List.map_congr_left λx _=>?_;simp[pK,Function.comp_def]
 exact⟨(j,k,⟨i,d⟩),rfl,zB3.2 ⟨s,zB3.2 ⟨t,zB3.2 ⟨.inr ((⟨B,iI.hd R a,y⟩)),λq p=>absurd p List.not_mem_nil⟩⟩⟩⟩
theorem Yf:okV UZ (HQ Jb ZS 4000 168 [mg1] (GK 651 UZ))=true:=by kernel_rfl
theorem EW (a:Nat) {b:ByteArray} (r:TD) (h:lA a b=some r):bG Tryz.prog 9 #[vS b] [] (λx:Value×Value×{z:List pR // z.map pK=r.2.2}=>Value.agg #[vS r.1,x.1,x.2.1]) (λx l=>l) (λx l=>Sl aG x.1 r.2.1::Sl aF x.2.1 x.2.2.1::PF (Value.agg #[vS r.1,x.1,x.2.1])::l):=by
 unfold lA at h;by_cases c:b=Ho
 ·subst c;exact Xo r ((if_pos Z).symm.trans h)
 rw[if_neg c]at h;by_cases d:b=Hp
 ·subst d;exact Xp r ((if_pos Z).symm.trans h)
 rw[if_neg d]at h;cases h
theorem Xq (f:Nat):lA f Ho=some ((ByteArray.mk #[98,102,115]),Hr,Ew):=by
 unfold lA;exact if_pos Z
theorem Xr (f:Nat):lA f Hp=some ((ByteArray.mk #[99,111,108,111,117,114,105,110,103]),Ja,Gj):=by
 unfold lA;rw[if_neg (by decide +kernel)];exact if_pos Z
theorem NC:bD Tryz.prog 169:=Tryz.call169
theorem UM:okV UC (HQ Jb ZS 4000 169 [mg0] (GK 3136 UC))=true:=by kernel_rfl
theorem UN:okV UZ (HQ Jb ZS 4000 169 [mg1] (GK 651 UZ))=true:=by kernel_rfl
def Dp (fuel:Nat) (a:ByteArray×List (ByteArray×Int×Int×Int×Int×Int)×List (pR)):Option Bool:=some true
theorem LY (a:Nat) {b:ByteArray×List (ByteArray×Int×Int×Int×Int×Int)×List (pR)} (f g:Value) (r:Bool) (h:Dp a b=some r):
  bG Tryz.prog 169 #[Value.agg #[vS b.1,f,g]] [Sl aG f b.2.1,Sl aF g b.2.2,PF (Value.agg #[vS b.1,f,g])] (λx:Unit=>vB (r)) (λx l=>l) (λ_ l=>l):=by
 cases h;intro w S z;have s:Calls Tryz.prog 169 #[Value.agg #[vS b.1,f,g]] w λe t=>e = .returned (.bool true)∧Mh w t:=by
  rcases z _ (zA1 (i:=2) rfl)with p|p
  ·refine Gh (fuel:=4000) ZQ NC ?_ p;obtain⟨n,c,o⟩:=Ia UM;rw[DF (G:=ZS) EC]at c;exact⟨n,c,o⟩
  refine Gh (fuel:=4000) ZQ NC ?_ p;obtain⟨n,c,o⟩:=Ia UN;rw[DF (G:=ZS) EC]at c;exact⟨n,c,o⟩
 refine s.mono ?_;rintro e t ⟨rfl,d⟩;exact⟨(),rfl,⟨d.os,d.tape,d.output,d.size,λk u _=>d.block k u⟩,λ_ _=>False,⟨λi m v=>by simp at v,λi k h=>h.elim,λi j k h=>h.elim⟩,λq y=>by simp at y⟩
def Dq (fuel:Nat) (a:ByteArray×List (ByteArray×Int×Int×Int×Int×Int)×List (pR)):Option Bool:=some true
theorem Md (a:Nat) {b:ByteArray×List (ByteArray×Int×Int×Int×Int×Int)×List (pR)} (f g:Value) (r:Bool) (h:Dq a b=some r):
  bG Tryz.prog 168 #[Value.agg #[vS b.1,f,g]] [Sl aG f b.2.1,Sl aF g b.2.2,PF (Value.agg #[vS b.1,f,g])] (λx:Unit=>vB (r)) (λx l=>l) (λ_ l=>l):=by
 cases h;intro w S z;have s:Calls Tryz.prog 168 #[Value.agg #[vS b.1,f,g]] w λe t=>e = .returned (.bool true)∧Mh w t:=by
  rcases z _ (zA1 (i:=2) rfl)with p|p
  ·refine Gh (fuel:=4000) ZQ NB ?_ p;obtain⟨n,c,o⟩:=Ia Ye;rw[DF (G:=ZS) EC]at c;exact⟨n,c,o⟩
  refine Gh (fuel:=4000) ZQ NB ?_ p;obtain⟨n,c,o⟩:=Ia Yf;rw[DF (G:=ZS) EC]at c;exact⟨n,c,o⟩
 refine s.mono ?_;rintro e t ⟨rfl,d⟩;exact⟨(),rfl,⟨d.os,d.tape,d.output,d.size,λk u _=>d.block k u⟩,λ_ _=>False,⟨λi m v=>by simp at v,λi k h=>h.elim,λi j k h=>h.elim⟩,λq y=>by simp at y⟩
end Go.Proofs.YtflciafboapaaaaGreat
namespace Go.Proofs.YtflciafboapaaaaGreat
open Go Go.Sx
abbrev aff:=FW
abbrev PRG:=ByteArray×(List aff)×(List pR)
abbrev GRF:=List Int×jR
abbrev SCN:=PRG×GRF×Int×bV
abbrev WLK:=SCN×bV×Int×fP
inductive E where
 |lf (o a:Int)
 |un (o:Int) (x:E)
 |ag (o:Int) (x:E)
 |bi (o:Int) (x y:E)
 |ite (x y z:E)
def E.ts:E->fP
 |lf o a=>[(o,a)]
 |un o x=>(o,0)::x.ts
 |ag o x=>(o,0)::x.ts
 |bi o x y=>(o,0)::(x.ts++y.ts)
 |ite x y z=>(43,0)::(x.ts++(y.ts++z.ts))
def E.depth:E->Nat
 |lf _ _=>1
 |un _ x=>x.depth+1
 |ag _ x=>x.depth+1
 |bi _ x y=>max x.depth y.depth+1
 |ite x y z=>max x.depth (max y.depth z.depth)+1
def E.arOk:E->Bool
 |lf o _=>decide (1<=o)&&decide (o<=17)
 |un o x=>decide (18<=o)&&decide (o<=19)&&x.arOk
 |ag o x=>decide (20<=o)&&decide (o<=29)&&x.arOk
 |bi o x y=>decide (30<=o)&&decide (o<=42)&&x.arOk&&y.arOk
 |ite x y z=>x.arOk&&y.arOk&&z.arOk
theorem Sq {b:Type} [Inhabited b] {T a rest:List b} {x:b} {k:Nat} (c:T=a++x::rest) (d:a.length=k):at' T (k:Int)=x:=by
 subst c;exact Ub a rest x k d
theorem dJ {k:Nat} (h:k<1000000):wI .i64 ((k:Int)+1)=((k+1:Nat):Int):=by rw[wr (by omega) (by omega)];rfl
theorem VH (f:Nat) {o:Int} (a:1<=o) (b:o<=43):yS f o=some (if o<=17 then 0 else if o<=29 then 1 else if o<=42 then 2 else 3):=by
 unfold yS Bi;rw[if_neg (by omega)];simp only[zAb];rw[if_neg (by omega)];split
 ·rfl
 ·split
  ·rfl
  ·split<;>rfl
theorem Ww {F:Nat} {T c rest:fP} {t:gC} {k m a:Nat} {b:Nat} (d:T=c++t::rest) (g:c.length=k) (i:k<1000) (n:m<3000) (e:yS F t.1=some ((a:Nat):Int)) (f:a<=3) (j:m+a≠0):
  bP (mI F T) (b+1) ((k:Int),(m:Int))=if m+a=1 then some (((k+1:Nat):Int))else bP (mI F T) b (((k+1:Nat):Int),((m+a - 1:Nat):Int)):=by
 have l:k<T.length:=by rw[d];simp;omega
 show mI F T ((k:Int),(m:Int)) (bP (mI F T) b)=_;unfold mI;dsimp only;rw[if_pos (by omega),cO (by omega),Sq d g,bN e,if_neg (by omega),wr (x:=((a:Nat):Int) - 1) (by omega) (by omega),wr (by omega) (by omega),dJ (by omega)];by_cases h:m+a=1
 ·rw[if_pos h,if_pos (by omega)]
 ·rw[if_neg h,if_neg (by omega)];have:(m:Int)+((a:Int) - 1)=((m+a - 1:Nat):Int):=by omega
  rw[this]
theorem ZD (F:Nat) (T:fP) (H:T.length<=900):∀(e:E),e.arOk=true->∀(c k m:Nat) (d b:fP),T=d++(e.ts++b)->d.length=k->1<=m->m+2*(e.ts++b).length<=1900->e.ts.length<=c->
  bP (mI F T) c ((k:Int),(m:Int))=if m=1 then some (((k+e.ts.length:Nat):Int))else bP (mI F T) (c - e.ts.length) (((k+e.ts.length:Nat):Int),((m - 1:Nat):Int)):=by
 have r:∀{t:gC} {l b d:fP} {c k m:Nat},T=d++((t::l)++b)->d.length=k->(t::l).length<=c->1<=t.1->t.1<=43->1<=m->m+2*((t::l)++b).length<=1900->∀a:Nat,(if t.1<=17 then 0 else if t.1<=29 then 1 else if t.1<=42 then 2 else 3:Int)=a->a<=3->∃f,c=f+1∧
   bP (mI F T) c ((k:Int),(m:Int))=if m+a=1 then some (((k+1:Nat):Int))else bP (mI F T) f (((k+1:Nat):Int),((m+a - 1:Nat):Int)):=by
  intro t l b d c k m n p q v w i j a I B;have A:=congrArg List.length n;simp only[zA9,zAf]at A j q;obtain⟨f,rfl⟩:∃f,c=f+1:=⟨c - 1,by omega⟩
  exact⟨f,rfl,Ww (rest:=l++b) (by simpa using n) p (by omega) (by omega) (by rw[VH F v w,I]) B (by omega)⟩
 intro e
 induction e with
 |lf o a=>
  intro g c k m d b n p i j q;simp only[E.arOk,zA7,zAb]at g;obtain⟨f,rfl,h⟩:=r (t:=(o,a)) (l:=[]) n p q (by dsimp only;omega) (by dsimp only;omega) i j 0 (by rw[if_pos (by dsimp only;omega)];rfl) (by omega);rw[h];rfl
 |un o x C=>
  intro g c k m d b n p i j q;simp only[E.arOk,zA7,zAb]at g;obtain⟨f,rfl,h⟩:=r (t:=(o,0)) (l:=x.ts) n p q (by dsimp only;omega) (by dsimp only;omega) i j 1 (by rw[if_neg (by dsimp only;omega),if_pos (by dsimp only;omega)];rfl) (by omega);simp only[E.ts,zAf]at q j ⊢;rw[h,if_neg (by omega)];have:=C g.2 f (k+1) m (d++[(o,0)]) b (by rw[n];simp[E.ts]) (by simp[p]) i (by simp at j ⊢;omega) (by omega);rw[show m+1 - 1=m by omega,this,show k+1+x.ts.length=k+(x.ts.length+1) by omega,show f+1 - (x.ts.length+1)=f - x.ts.length by omega]
 |ag o x C=>
  intro g c k m d b n p i j q;simp only[E.arOk,zA7,zAb]at g;obtain⟨f,rfl,h⟩:=r (t:=(o,0)) (l:=x.ts) n p q (by dsimp only;omega) (by dsimp only;omega) i j 1 (by rw[if_neg (by dsimp only;omega),if_pos (by dsimp only;omega)];rfl) (by omega);simp only[E.ts,zAf]at q j ⊢;rw[h,if_neg (by omega)];have:=C g.2 f (k+1) m (d++[(o,0)]) b (by rw[n];simp[E.ts]) (by simp[p]) i (by simp at j ⊢;omega) (by omega);rw[show m+1 - 1=m by omega,this,show k+1+x.ts.length=k+(x.ts.length+1) by omega,show f+1 - (x.ts.length+1)=f - x.ts.length by omega]
 |bi o x y s u=>
  intro g c k m d b n p i j q;simp only[E.arOk,zA7,zAb]at g;obtain⟨f,rfl,h⟩:=r (t:=(o,0)) (l:=x.ts++y.ts) n p q (by dsimp only;omega) (by dsimp only;omega) i j 2 (by rw[if_neg (by dsimp only;omega),if_neg (by dsimp only;omega),if_pos (by dsimp only;omega)];rfl) (by omega);simp only[E.ts,zAf,zA9]at q j ⊢;rw[h,if_neg (by omega)];have v:=s g.1.2 f (k+1) (m+1) (d++[(o,0)]) (y.ts++b) (by rw[n];simp[E.ts]) (by simp[p]) (by omega) (by simp at j ⊢;omega) (by omega);have w:=u g.2 (f - x.ts.length) (k+1+x.ts.length) m (d++((o,0)::x.ts)) b (by rw[n];simp[E.ts]) (by simp[p];omega) (by omega) (by simp at j ⊢;omega) (by omega);rw[show m+2 - 1=m+1 by omega,v,if_neg (by omega),show m+1 - 1=m by omega,w,show k+1+x.ts.length+y.ts.length=k+(x.ts.length+y.ts.length+1) by omega,show f+1 - (x.ts.length+y.ts.length+1)=f - x.ts.length - y.ts.length by omega]
 |ite x y z s u D=>
  intro g c k m d b n p i j q;simp only[E.arOk,zA7,zAb]at g;obtain⟨f,rfl,h⟩:=r (t:=(43,0)) (l:=x.ts++(y.ts++z.ts)) n p q (by decide) (by decide) i j 3 Z (by omega);simp only[E.ts,zAf,zA9]at q j ⊢;rw[h,if_neg (by omega)];have v:=s g.1.1 f (k+1) (m+2) (d++[(43,0)]) (y.ts++z.ts++b) (by rw[n];simp[E.ts]) (by simp[p]) (by omega) (by simp at j ⊢;omega) (by omega);have w:=u g.1.2 (f - x.ts.length) (k+1+x.ts.length) (m+1) (d++((43,0)::x.ts)) (z.ts++b) (by rw[n];simp[E.ts]) (by simp[p];omega) (by omega) (by simp at j ⊢;omega) (by omega);have G:=D g.2 (f - x.ts.length - y.ts.length) (k+1+x.ts.length+y.ts.length) m (d++((43,0)::(x.ts++y.ts))) b (by rw[n];simp[E.ts]) (by simp[p];omega) (by omega) (by simp at j ⊢;omega) (by omega);rw[show m+3 - 1=m+2 by omega,v,if_neg (by omega),show m+2 - 1=m+1 by omega,w,if_neg (by omega),show m+1 - 1=m by omega,G,show k+1+x.ts.length+y.ts.length+z.ts.length=k+(x.ts.length+(y.ts.length+z.ts.length)+1) by omega,show f+1 - (x.ts.length+(y.ts.length+z.ts.length)+1)=f - x.ts.length - y.ts.length - z.ts.length by omega]
theorem acb (F:Nat) (e:E) (d:e.arOk=true) {T b a:fP} {k:Nat} (f:T=b++(e.ts++a)) (i:b.length=k) (j:T.length<=800) (h:e.ts.length<=F):Et F T (k:Int)=some (((k+e.ts.length:Nat):Int)):=by
 have g:1<=e.ts.length:=by cases e<;>simp[E.ts]
 have c:=congrArg List.length f;simp only[zA9]at c;unfold Et Dh;rw[if_neg (by omega)];simp only[zAb];rw[if_neg (by omega)];have:=ZD F T (by omega) e d F k 1 b a f i (by omega) (by simp;omega) h;rw[if_pos Z]at this;exact this
def Uc (b:Bool):Int:=if b then 1 else 0
theorem wO (f:Nat) (b:Bool):j_ f b=some (Uc b):=by cases b<;>rfl
theorem oL {a:Type} [Inhabited a] {l:List a} {k:Nat} (h:k<l.length):l.take (k+1)=l.take k++[at' l (k:Int)]:=by
 rw[List.take_add_one,zA2 h,BV,zAk,zA2 h];rfl
theorem jU {a:Type} [Inhabited a] {l:List a} {k:Nat} (h:k<l.length):at' l (k:Int)=l[k]:=by
 rw[BV,zAk,zA2 h];rfl
theorem ML {p:Nat->Prop}:∀(n:Nat),p n->∃m,m<=n∧p m∧∀j,j<m->¬p j:=by
 intro n
 induction n using Nat.strongRecOn with
 | _ n ih =>
  intro h;by_cases d:∃m,m<n∧p m
  ·obtain⟨m,e,f⟩:=d;obtain⟨k,a,b,c⟩:=ih m e f;exact⟨k,by omega,b,c⟩
  ·exact⟨n,zAg n,h,λj g i=>d ⟨j,g,i⟩⟩
theorem Tg {g:Type} [DecidableEq g]:∀(c b:List g),c.Nodup->(∀x∈c,x∈b)->c.length<=b.length
 | [],b,_,_=>Nat.zero_le _
 |a::c,b,h,hs=>by
  have d:=hs a zAc;have h:=List.nodup_cons.1 h;have:=Tg c (b.erase a) h.2 (λx f=>(List.mem_erase_of_ne (fun(e:x=a)=>h.1 (by rw[<-e];exact f))).2 (hs x (zAj _ f)));rw[List.length_erase_of_mem d]at this;have i:0<b.length:=List.length_pos_of_mem d;simp only[zAf];omega
def nz (x:Int):Bool:=decide (x≠0)
theorem Wl (f:Nat) (l:cC) (h:l.length<f) (e:l.length<=1000):q_ f l=some ((l.countP nz:Nat):Int):=by
 unfold q_;have:=dO (step:=sC l) (K:=some ((l.countP nz:Nat):Int)) l.length (λk=>(((l.take k).countP nz:Nat),(k:Int))) (λk b c=>by
  have d:(l.take k).countP nz<=k:=zB2 List.countP_le_length (by simp;omega);unfold sC vV;dsimp only;rw[if_pos (by omega),cO (by omega),oL c,List.countP_append,dJ (by omega),dJ (by omega)];by_cases a:at' l (k:Int)=0
  ·rw[if_neg (by simpa using a)];simp[nz,a]
  ·rw[if_pos a];simp[nz,a]) (λb=>by
  unfold sC AK;dsimp only;rw[if_neg (by omega),zB4]) f h
 exact this
theorem Jr (f:Nat) (l:cC) (x:Int) (h:l.length<f) (t:l.length<=1000):sN f l x=some (decide (x∈l)):=by
 have q:∃i:Int,qB f l x=some i∧(0<=i↔x∈l):=by
  by_cases b:x∈l
  ·obtain⟨i,r,o⟩:=List.mem_iff_getElem.1 b;have a:∃i,i<l.length∧at' l (i:Int)=x∧∀j,j<i->at' l (j:Int)≠x:=by
    obtain⟨m,d,c,s⟩:=ML (p:=λi=>at' l (i:Int)=x) i (by rw[jU r,o]);exact⟨m,by omega,c,s⟩
   obtain⟨i,r,d,c⟩:=a;refine⟨i,?_,iff_of_true (by omega) b⟩
   unfold qB;exact dO (step:=lB l x) (K:=some (i:Int)) i (λk=>(k:Int)) (λk n g=>by
    unfold lB;rw[if_pos (by omega),cO (by omega),if_neg (λe=>c k g e.symm),dJ (by omega)]) (λn=>by
    unfold lB;rw[if_pos (by omega),cO (by omega),if_pos d.symm]) f (by omega)
  ·refine⟨-1,?_,iff_of_false (by omega) b⟩
   unfold qB;exact dO (step:=lB l x) (K:=some (-1)) l.length (λk=>(k:Int)) (λk n g=>by
    unfold lB;rw[if_pos (by omega),cO (by omega),if_neg (λe=>b (by rw[e,jU g];exact List.getElem_mem g)),dJ (by omega)]) (λn=>by
    unfold lB xD;rw[if_neg (by omega)]) f h
 obtain⟨i,d,c⟩:=q;unfold sN;rw[bN d];by_cases b:x∈l
 ·rw[zA4 b,zA4 (c.2 b)]
 ·rw[zA3 b,zA3 (λe=>b (c.1 e))]
def Co (l:cC):Int:=match l.findIdx? nz with
 |some i=>(i:Int)
 |none=> -1
theorem Dd {l:cC} {i:Nat} (a:i<l.length) (b:at' l (i:Int)≠0) (c:∀j,j<i->at' l (j:Int)=0):Co l=i:=by
 have:l.findIdx? nz=some i:=by
  rw[List.findIdx?_eq_some_iff_getElem];refine⟨a,by rw[<-jU a];simpa [nz]using b,λj d=> ?_⟩
  have:=c j d;rw[jU (by omega)]at this;simp[nz,this]
 unfold Co;rw[this]
theorem Dc {l:cC} (h:∀j,j<l.length->at' l (j:Int)=0):Co l = -1:=by
 have:l.findIdx? nz=none:=by
  rw[List.findIdx?_eq_none_iff];intro x b;obtain⟨i,a,rfl⟩:=List.mem_iff_getElem.1 b;have:=h i a;rw[jU a]at this;simp[nz,this]
 unfold Co;rw[this]
theorem WI (f:Nat) (l:cC) (h:l.length<f) (t:l.length<=1000):nL f l (λq=>pD f q)=some (Co l):=by
 unfold nL;by_cases a:∃i,i<l.length∧at' l (i:Int)≠0
 ·obtain⟨i,s,o⟩:=a;obtain⟨m,r,n,b⟩:=ML (p:=λi=>at' l (i:Int)≠0) i o;have b:∀j,j<m->at' l (j:Int)=0:=λj d=>zAw.1 (b j d);rw[Dd (by omega) n b];exact dO (step:=iU l _) (K:=some (m:Int)) m (λk=>(k:Int)) (λk c g=>by
   unfold iU pD;rw[if_pos (by omega),cO (by omega),bN Z,if_neg (by simp[b k g]),dJ (by omega)]) (λc=>by
   unfold iU pD;rw[if_pos (by omega),cO (by omega),bN Z,if_pos (by simpa using n)]) f (by omega)
 ·have a:∀j,j<l.length->at' l (j:Int)=0:=λj d=>zAw.1 λe=>a ⟨j,d,e⟩;rw[Dc a];exact dO (step:=iU l _) (K:=some (-1)) l.length (λk=>(k:Int)) (λk c g=>by
   unfold iU pD;rw[if_pos (by omega),cO (by omega),bN Z,if_neg (by simp[a k g]),dJ (by omega)]) (λc=>by
   unfold iU pP;rw[if_neg (by omega)]) f h
def acz (l:cC):Int:=l.foldl min 1073741824
theorem acA (f:Nat) (l:cC) (h:l.length<f) (c:l.length<=1000):bP (uM l) f ((1073741824:Int),(0:Int))=some (acz l):=by
 exact dO (step:=uM l) (K:=some (acz l)) l.length (λk=>((l.take k).foldl min 1073741824,(k:Int))) (λk a b=>by
  unfold uM;dsimp only;rw[if_pos (by omega),cO (by omega),oL b,List.foldl_append,dJ (by omega)];rfl) (λa=>by
  unfold uM BX;dsimp only;rw[if_neg (by omega),zB4];rfl) f h
def Py (l:cC):Nat->Nat->Nat
 |0,k=>k
 |f+1,k=>if((k:Nat):Int)∈l then Py l f (k+1)else k
def LR (l:cC):Nat:=Py l (l.length+1) 0
theorem Pz (l:cC):((LR l:Nat):Int)∉l∧(∀j,j<LR l->((j:Nat):Int)∈l)∧LR l<=l.length:=by
 have key:∀(f k:Nat),(∀j,j<k->((j:Nat):Int)∈l)->(∀j,j<Py l f k->((j:Nat):Int)∈l)∧(Py l f k=k+f∨((Py l f k:Nat):Int)∉l):=by
  intro f
  induction f with
  |zero=>intro k h;exact⟨h,.inl Z⟩
  | succ f ih =>
   intro k h;by_cases hk:((k:Nat):Int)∈l
   ·have:=ih (k+1) (λj hj=>by
     rcases zAs j k with q|q
     ·exact h j q
     ·rw[show j=k by omega];exact hk)
    simp only[Py,if_pos hk];exact⟨this.1,this.2.imp (λe=>by omega) id⟩
   ·simp only[Py,if_neg hk];exact⟨h,.inr hk⟩
 have hle:∀m,(∀j,j<m->((j:Nat):Int)∈l)->m<=l.length:=λm h=>by
  have:=Tg ((List.range m).map λj=>((j:Nat):Int)) l (by
   rw[List.nodup_iff_pairwise_ne,List.pairwise_map];exact(List.nodup_iff_pairwise_ne.1 List.nodup_range).imp (λh e=>h (by omega))) (λx hx=>by
   obtain⟨j,hj,rfl⟩:=List.mem_map.1 hx;exact h j (zAv.1 hj))
  simpa using this
 obtain⟨h1,h2⟩:=key (l.length+1) 0 (λj hj=>by omega);have h3:=hle _ h1;refine⟨?_,h1,h3⟩
 rcases h2 with h2|h2
 ·have:Py l (l.length+1) 0<=l.length:=h3;omega
 ·exact h2
theorem acy (f:Nat) (l:cC) (h:l.length+2<f) (hl:l.length<=900):CB f l=some ((LR l:Nat):Int):=by
 obtain⟨h1,h2,h3⟩:=Pz l;unfold CB;exact dO (step:=Bp f l) (K:=some ((LR l:Nat):Int)) (LR l) (λk=>(k:Int)) (λk ag hk=>by
  unfold Bp;rw[bN (Jr f l (k:Int) (by omega) (by omega)),if_pos (by simpa using h2 k hk),dJ (by omega)]) (λag=>by
  unfold Bp Db;rw[bN (Jr f l _ (by omega) (by omega)),if_neg (by simpa using h1)]) f (by omega)
def aaA (l:cC):Int:=l.foldl (λa x=>wI .i64 (a+x)) 0
theorem acN (f:Nat) (l:cC) (h:l.length<f) (c:l.length<=1000):bP (uN f l) f ((0:Int),(0:Int))=En f (aaA l):=by
 refine(dO (step:=uN f l) l.length (λk=>(aaA (l.take k),(k:Int))) (λk a b=> ?_) (λa=> ?_) f h).trans Z
 ·unfold uN;dsimp only;rw[if_pos (by omega),cO (by omega),dJ (by omega),oL b];unfold aaA;rw[List.foldl_append];rfl
 ·unfold uN;dsimp only;rw[if_neg (by omega),zB4]
def KR (o:Int) (l:cC):Int:=
 if o=20 then Uc (l.all nz)else if o=21 then Uc (l.any nz)else if o=22 then((l.countP nz:Nat):Int)else if o=23 then Co l else if o=24 then acz l else if o=26 then max (-1073741824) (min (aaA l) 1073741824)else((LR l:Nat):Int)
theorem ZL (f:Nat) (o:Int) (l:cC) (hf:40<=f) (hl:l.length<=24) (ho:o=20∨o=21∨o=22∨o=23∨o=24∨o=26∨o=27):De f o l=some (KR o l):=by
 have hc:=Wl f l (by omega) (by omega);unfold De;rcases ho with rfl|rfl|rfl|rfl|rfl|rfl|rfl
 ·rw[if_pos Z,bN hc,bN (wO f _),KR,if_pos Z];have:(decide (((l.countP nz:Nat):Int)=(l.length:Int)))=l.all nz:=by
   rw[Bool.eq_iff_iff];simp[List.countP_eq_length,Int.ofNat_inj]
  rw[this]
 ·rw[if_neg (by decide),if_pos Z,bN hc,bN (wO f _),KR,if_neg (by decide),if_pos Z];have:(decide ((0:Int)<((l.countP nz:Nat):Int)))=l.any nz:=by
   rw[Bool.eq_iff_iff,zAb,List.any_eq_true,show((0:Int)<((l.countP nz:Nat):Int))↔0<l.countP nz by omega,List.countP_pos_iff]
  rw[this]
 ·rw[if_neg (by decide),if_neg (by decide),if_pos Z,bN hc];rfl
 ·rw[if_neg (by decide),if_neg (by decide),if_neg (by decide),if_pos Z,bN (WI f l (by omega) (by omega))];rfl
 ·rw[if_neg (by decide),if_neg (by decide),if_neg (by decide),if_neg (by decide),if_pos Z,acA f l (by omega) (by omega)];rfl
 ·rw[if_neg (by decide),if_neg (by decide),if_neg (by decide),if_neg (by decide),if_neg (by decide),if_neg (by decide),if_pos Z,acN f l (by omega) (by omega)];rfl
 ·rw[if_neg (by decide),if_neg (by decide),if_neg (by decide),if_neg (by decide),if_neg (by decide),if_neg (by decide),if_neg (by decide),if_pos Z,bN (acy f l (by omega) (by omega))];rfl
end Go.Proofs.YtflciafboapaaaaGreat
namespace Go.Proofs.YtflciafboapaaaaGreat
open Go.Sx
def BD  (a:Unit):Option (Int):=
 some (-1:Int)
def wU (c:cS) (d:Int) (e:Int) (a:Int) (b:(Int)->Option (Int)):Option (Int):=
 if a<((at' c.2 d).length:Int)then(ck (0<=a∧a<((at' c.2 d).length:Int)) (if((at' (at' c.2 d) a).1)=e then(some (a))else(b (wI .i64 (a+(1:Int))))))else(BD  (()))
def mF (U:Nat) (b:cS) (a:Int) (c:Int):Option (Int):=
 ck (0<=a∧a<(b.2.length:Int)) (bP (wU b a c) U (0:Int))
theorem Su:bD Tryz.prog 110:=Tryz.call110
theorem FM (U:Nat) {p0:cS} {p1:Int} {p2:Int} (f:Value)  (g:Value)  (k:kY) (r:Int) (h:mF U p0 p1 p2=some r):
  bG Tryz.prog 110 #[Value.agg #[f,g],vI (p1),vI (p2)] [Sl aP f p0.1,S2 bA g k p0.2] (λx:Unit=>vI (r)) (λx l=>l) (λ_ l=>l):=by
 refine bG.of Tryz.func110 Z Tryz.ntmps110 Z λc=>?_;refine aX<|aM (aS.box (cs:=[f,g]) Z Z) Z λn=>aD Z<|aQ<|aN<|eG (λe=>BD  e=some r) (λe i=>[]) (λe i=>[]) ?_ ?_
 ·refine aX<|bX Z<|dU 0 Z<|aB Z<|cQ h λb h=>aC (bH Z Z (aA.fact 1 Z) Z Z b) Z<|aC (bS Z (aA.fact 1 Z) Z Z b) Z<|aC (fG Z (zBb (aA.fact 1 Z) b.1 b.2) Z) Z<|aB Z<|aQ<|aW<|fJ (wU p0 p1 p2) (λa j=>[(2,vI (p2)),(13,(at' k p1).1),(14,vI ((at' p0.2 p1).length:Int)),(15,vI (a))]) (λa j=>[]) (0:Int) () h SF .nil ?_;intro o a j h;refine aX<|cX Z<|aQ<|aN ?_;refine eJ h Z (λh=>?_) λh=>?_
  ·refine cK<|aN<|aW<|aX<|aB Z<|cQ h λd h=>aC (bI Z Z (zBb (aA.fact 1 Z) b.1 b.2) Z Z d) Z<|aC (gM (cs:=[vI ((at' (at' p0.2 p1) a).1),vI ((at' (at' p0.2 p1) a).2)]) Z (zBb (aA.fact 1 Z) b.1 b.2) cF Z Z Z Z d) Z<|aM (aS.alloc (cs:=Qs) Z Z) Z λm=>aD Z<|cA 0 (vs:=[vI ((at' (at' p0.2 p1) a).1),vI ((at' (at' p0.2 p1) a).2)]) Z Z Z Z Z Z<|aQ<|aX<|bX Z<|dU 0 Z<|aB Z<|cI Z<|aQ ?_;refine eJ h Z (λh=>?_) λh=>?_
   ·refine aX<|aB Z<|aD Z<|aQ<|aT<|bF<|aJ<|aJ<|bF<|aJ ?_;cases h;exact lY Z
   refine eC<|lJ<|aU<|cW Z<|aB Z<|aQ ?_;exact kG (wI .i64 (a+(1:Int))) () h SF .nil (aI.refl _ _)
  refine fF ?_;exact gJ () (()) h SF Z
 intro e i h;unfold BD at h;refine aX<|aD Z<|aQ<|aT ?_;cases h;exact iJ Z
def Bu  (a:Bool):Option Bool:=
 some (a)
def iA (U:Nat) (a:Int) (b:Int) (c:Int):Option Bool:=
 if b<=a then(Bu  (decide (a<=c)))else(Bu  (false))
theorem tG:bD Tryz.prog 54:=Tryz.call54
theorem jF (U:Nat) {b:Int} {f:Int} {d:Int} (r:Bool) (h:iA U b f d=some r):
  bG Tryz.prog 54 #[vI (b),vI (f),vI (d)] [] (λx:Unit=>vB (r)) (λx l=>l) (λ_ l=>l):=by
 refine bG.of Tryz.func54 Z Tryz.ntmps54 Z λc=>?_;refine aX<|aD Z<|aQ<|aN<|eG (λa=>Bu  a=some r) (λa e=>[(6,vB (a))]) (λa e=>[]) ?_ ?_
 ·refine aU<|aB Z<|aB Z<|aC (tC Z Z) Z<|aB Z ?_;refine AL h Z (λ_ h=>?_) λ_ h=>?_
  ·refine dH Z<|dH Z<|aR Z (BM Z Z) Z<|dG Z<|aD Z<|aQ ?_;exact gJ (decide (b<=d)) () h SF Z
  refine aK Z<|aK Z<|aK Z<|dR Z<|aD Z<|aQ ?_;exact gJ (false) () h SF Z
 intro a e h;unfold Bu at h;refine aT ?_;cases h;exact iJ Z
def pN  (a:Unit):Option Bool:=
 some (true)
def pO (b:Int) (a:(Int)->Option Bool) (c:Unit):Option Bool:=
 a (wI .i64 (b+(1:Int)))
def jN (d:fP) (b:Int) (e:(Int)->Option Bool) (a:Int) (c:(Int)->Option Bool):Option Bool:=
 if a<b then(ck (0<=a∧a<(d.length:Int)) (ck (0<=b∧b<(d.length:Int)) (if((at' d a).1)=((at' d b).1)then(some (false))else(c (wI .i64 (a+(1:Int)))))))else(pO b e (()))
def kX (U:Nat) (d:fP) (c:Int) (b:(Int)->Option Bool) (a:Bool):Option Bool:=
 if a=true then(some (false))else(bP (jN d c b) U (0:Int))
def iS (U:Nat) (b:fP) (f:Int) (g:Int) (a:Int) (c:(Int)->Option Bool):Option Bool:=
 if a<(b.length:Int)then(ck (0<=a∧a<(b.length:Int)) (Option.bind (iA U ((at' b a).1) (0:Int) (wI .i64 (g - (1:Int)))) λd=>(if(!d)=true then(kX U b a c (true))else(ck (0<=a∧a<(b.length:Int)) (if((at' b a).1)=f then(kX U b a c (true))else(ck (0<=a∧a<(b.length:Int)) (Option.bind (iA U ((at' b a).2) (1:Int) (15:Int)) λe=>(kX U b a c ((!e))))))))))else(pN  (()))
def lN (U:Nat) (a:fP) (b:Int) (c:Int):Option Bool:=
 bP (iS U a b c) U (0:Int)
theorem YQ:bD Tryz.prog 117:=Tryz.call117
theorem Hx (U:Nat) {i:fP} {e:Int} {f:Int} (j:Value) (r:Bool) (h:lN U i e f=some r):
  bG Tryz.prog 117 #[j,vI (e),vI (f)] [Sl bA j i] (λx:Unit=>vB (r)) (λx l=>l) (λ_ l=>l):=by
 refine bG.of Tryz.func117 Z Tryz.ntmps117 Z λc=>?_;unfold lN at h;refine aX<|aD Z<|aQ<|aN<|eG (λv=>pN  v=some r) (λv D=>[]) (λv D=>[]) ?_ ?_
 ·refine aX<|aD Z<|aQ<|aW<|fJ (iS U i e f) (λd E=>[(0,j),(1,vI (e)),(2,vI (f)),(7,vI (d))]) (λd E=>[]) (0:Int) () h SF (a_.refl _) ?_;intro y d E h;refine aN<|aX<|aB Z<|aB Z<|jM (aA.fact 0 Z) Z<|cX Z<|aQ ?_;refine eJ h Z (λh=>?_) λh=>?_
  ·refine cK<|aN<|eG (λw=>pO d (bP (iS U i e f) y) w=some r) (λw k=>[(0,j),(1,vI (e)),(2,vI (f)),(7,vI (d))]) (λw k=>[]) ?_ ?_
   ·refine aW<|aN<|aN<|eG (λa=>kX U i d (bP (iS U i e f) y) a=some r) (λa m=>[(0,j),(1,vI (e)),(2,vI (f)),(7,vI (d)),(41,vB (a))]) (λa m=>[]) ?_ ?_
    ·refine aU<|aB Z<|aB Z<|cQ h λq h=>aC (bI Z Z (aA.fact 0 Z) Z Z q) Z<|aC (dX Z Z Z Z Z) Z<|aC (fI Z (aA.fact 0 Z) Z Z Z gU q) Z<|aB Z<|aC (oD Z Z) Z<|eO h λA B h=>aM (zBa tG (jF U  A B) Z .nil) Z λG=>aC (iQ Z) Z<|aB Z ?_;refine qV (by exact rfl) (by exact rfl) (λb=>?_) (λb=>?_)
     ·have h:=Ff b h;refine aK Z<|aK Z<|aK Z<|aK Z<|aK Z<|aK Z<|aK Z<|dG Z<|aB Z<|aK Z<|aK Z<|aK Z<|aK Z<|aK Z<|aK Z<|aK Z<|dG Z<|aQ ?_;exact gJ (true) () h SF Z
     have h:=Cr b h;refine dH Z<|dH Z<|cQ h λs h=>aR Z (bI Z Z (aA.fact 0 Z) Z Z s) Z<|aR Z (dX Z Z Z Z Z) Z<|aR Z (fI Z (aA.fact 0 Z) Z Z Z gU s) Z<|dH Z<|aR Z (Fo Z Z) Z<|dR Z<|aB Z ?_;refine AL h Z (λ_ h=>?_) λ_ h=>?_
     ·refine aK Z<|aK Z<|aK Z<|aK Z<|aK Z<|aK Z<|aK Z<|dG Z<|aQ ?_;exact gJ (true) () h SF Z
     refine dH Z<|dH Z<|cQ h λt h=>aR Z (bI Z Z (aA.fact 0 Z) Z Z t) Z<|aR Z (dX Z Z Z Z Z) Z<|aR Z (fI Z (aA.fact 0 Z) Z Z Z Ef t) Z<|eO h λu C h=>lR Z (zBa tG (jF U  u C) Z .nil) Z λH=>aR Z (iQ Z) Z<|dR Z<|aQ ?_;exact gJ ((!u)) () h SF Z
    intro a m h;refine qS h Z (λ_ h=>?_) λ_ h=>?_
    ·refine aX<|aD Z<|aQ<|aT<|aJ<|bF<|aJ<|aJ<|bF<|aJ ?_;cases h;exact iJ Z
    refine cK<|aX<|aD Z<|aQ<|aW<|fJ (jN i d (bP (iS U i e f) y)) (λg n=>[(0,j),(1,vI (e)),(2,vI (f)),(7,vI (d)),(8,vI (g))]) (λg n=>[]) (0:Int) () h SF (a_.refl _) ?_;intro F g n h;refine aN<|aX<|aB Z<|aB Z<|cX Z<|aQ ?_;refine eJ h Z (λh=>?_) λh=>?_
    ·refine cK<|aN<|aW<|aN ?_;refine JR.start [0,0,3,7,15,0,0,96,224,480,1023] 10 mixedOrders (by decide +kernel) ?_;refine zBc (by exact rfl) ?_;refine aV Z<|aV Z<|cQ h λo h=>bE Z .nil (fW 0 Z) (bI Z Z (aA.fact 0 Z) Z Z o) aO.z<|e_ Z (dX Z Z Z Z Z)<|bE Z .nil (fW 0 Z) (fI Z (aA.fact 0 Z) Z Z Z gU o) aO.z<|aV Z<|aV Z<|cQ h λp h=>bE Z .nil (fW 0 Z) (bI Z Z (aA.fact 0 Z) Z Z p) aO.z<|e_ Z (dX Z Z Z Z Z)<|bE Z .nil (fW 0 Z) (fI Z (aA.fact 0 Z) Z Z Z gU p) aO.z<|bM 10 Z Z<|cI Z<|aQ ?_;refine eJ h Z (λh=>?_) λh=>?_
     ·refine aX<|aD Z<|aQ<|aT<|bF<|aJ<|aJ<|bF<|bF<|aJ<|aJ<|bF<|aJ ?_;cases h;exact iJ Z
     refine eC<|lJ<|aU<|aB Z<|cW Z<|aD Z<|aQ ?_;exact vT (wI .i64 (g+(1:Int))) () h SF Z
    refine sG<|gR<|gR<|Af<|lJ ?_;exact gJ () (()) h SF Z
   intro w k h;unfold pO at h;refine aU<|aB Z<|cW Z<|aD Z<|aQ ?_;exact vT (wI .i64 (d+(1:Int))) () h SF Z
  refine fF ?_;exact gJ () (()) h SF Z
 intro v D h;unfold pN at h;refine aX<|aD Z<|aQ<|aT ?_;cases h;exact iJ Z
def Dr  (a:Unit):Option (Int):=
 some (-1:Int)
def AQ (c:cS) (a:Int) (e:Int) (b:Int) (d:(Int)->Option (Int)):Option (Int):=
 ck (0<=a∧a<(c.2.length:Int)) (if b<((at' c.2 a).length:Int)then(ck (0<=a∧a<(c.2.length:Int)) (ck (0<=b∧b<((at' c.2 a).length:Int)) (if((at' (at' c.2 a) b).1)=e then(some (b))else(d (wI .i64 (b+(1:Int)))))))else(Dr  (())))
def rB (U:Nat) (a:cS) (b:Int) (c:Int):Option (Int):=
 bP (AQ a b c) U (0:Int)
theorem Ny:bD Tryz.prog 118:=Tryz.call118
theorem EI (U:Nat) {g:cS} {i:Int} {j:Int} (k:Value)  (m:Value)  (q:kY) (r:Int) (h:rB U g i j=some r):
  bG Tryz.prog 118 #[Value.agg #[k,m],vI (i),vI (j)] [Sl aP k g.1,S2 bA m q g.2] (λx:Unit=>vI (r)) (λx l=>l) (λ_ l=>l):=by
 refine bG.of Tryz.func118 Z Tryz.ntmps118 Z λc=>?_;unfold rB at h;refine aX<|aM (aS.box (cs:=[k,m]) Z Z) Z λn=>aD Z<|aQ<|aN<|eG (λd=>Dr  d=some r) (λd o=>[]) (λd o=>[]) ?_ ?_
 ·refine aX<|aD Z<|aQ<|aW<|fJ (AQ g i j) (λe p=>[(1,vI (i)),(2,vI (j)),(3,vP n),(7,vI (e))]) (λe p=>[bO n [k,m] 31]) (0:Int) () h SF (a_.refl _) ?_;intro s e p h;refine aN<|aX<|aB Z<|bX Z<|dU 0 Z<|aB Z<|cQ h λf h=>aC (bH Z Z (aA.fact 1 Z) Z Z f) Z<|aC (bS Z (aA.fact 1 Z) Z Z f) Z<|aC (fG Z (zBb (aA.fact 1 Z) f.1 f.2) Z) Z<|cX Z<|aQ ?_;refine eJ h Z (λh=>?_) λh=>?_
  ·refine cK<|aN<|aW<|aX<|bX Z<|dU 0 Z<|aB Z<|cQ h λa h=>aC (bH Z Z (aA.fact 1 Z) Z Z a) Z<|aC (bS Z (aA.fact 1 Z) Z Z a) Z<|aB Z<|cQ h λb h=>aC (bI Z Z (zBb (aA.fact 1 Z) a.1 a.2) Z Z b) Z<|aC (dX Z Z Z Z Z) Z<|aC (fI Z (zBb (aA.fact 1 Z) a.1 a.2) Z Z Z gU b) Z<|aB Z<|cI Z<|aQ ?_;refine eJ h Z (λh=>?_) λh=>?_
   ·refine aX<|aB Z<|aD Z<|aQ<|aT<|bF<|aJ<|aJ<|bF<|aJ ?_;cases h;exact lY Z
   refine eC<|lJ<|aU<|aB Z<|cW Z<|aD Z<|aQ ?_;exact vT (wI .i64 (e+(1:Int))) () h SF Z
  refine fF ?_;exact cE () (()) h SF .nil (aI.refl _ _)
 intro d o h;unfold Dr at h;refine aX<|aD Z<|aQ<|aT ?_;cases h;exact iJ Z
def sO  (a:Unit):Option Bool:=
 some (true)
def sP (c:cC) (d:cC) (a:Int) (b:(Int)->Option Bool):Option Bool:=
 if a<(c.length:Int)then(ck (0<=a∧a<(c.length:Int)) (ck (0<=a∧a<(d.length:Int)) (if(at' c a)≠(at' d a)then(some (false))else(b (wI .i64 (a+(1:Int)))))))else(sO  (()))
def m_ (U:Nat) (a:cC) (b:cC):Option Bool:=
 if(a.length:Int)≠(b.length:Int)then(some (false))else(bP (sP a b) U (0:Int))
theorem QU:bD Tryz.prog 62:=Tryz.call62
theorem AG (U:Nat) {f:cC} {g:cC} (i:Value)  (j:Value) (r:Bool) (h:m_ U f g=some r):
  bG Tryz.prog 62 #[i,j] [Sl aP i f,Sl aP j g] (λx:Unit=>vB (r)) (λx l=>l) (λ_ l=>l):=by
 refine bG.of Tryz.func62 Z Tryz.ntmps62 Z λc=>?_;refine aX<|aD Z<|aQ<|aN<|aX<|aB Z<|jM (aA.fact 0 Z) Z<|aB Z<|jM (aA.fact 1 Z) Z<|kA Z<|aQ ?_;refine eJ h Z (λh=>?_) λh=>?_
 ·refine aX<|aD Z<|aQ<|aT<|aJ ?_;cases h;exact iJ Z
 refine cK<|aN<|eG (λd=>sO  d=some r) (λd k=>[]) (λd k=>[]) ?_ ?_
 ·refine aX<|aD Z<|aQ<|aW<|fJ (sP f g) (λe m=>[(0,i),(1,j),(5,vI (e))]) (λe m=>[]) (0:Int) () h SF (a_.refl _) ?_;intro n e m h;refine aN<|aX<|aB Z<|aB Z<|jM (aA.fact 0 Z) Z<|cX Z<|aQ ?_;refine eJ h Z (λh=>?_) λh=>?_
  ·refine cK<|aN<|aW<|aN ?_;refine JR.start [0,0,3,7,0,0,48,112,255] 8 mixedOrders (by decide +kernel) ?_;refine zBc (by exact rfl) ?_;refine aV Z<|aV Z<|cQ h λa h=>bE Z .nil (fW 0 Z) (bI Z Z (aA.fact 0 Z) Z Z a) aO.z<|bE Z .nil (fW 0 Z) (cL Z (aA.fact 0 Z) Z Z Z fN a) aO.z<|aV Z<|aV Z<|cQ h λb h=>bE Z .nil (fW 1 Z) (bI Z Z (aA.fact 0 Z) Z Z b) aO.z<|bE Z .nil (fW 1 Z) (cL Z (aA.fact 0 Z) Z Z Z fN b) aO.z<|bM 8 Z Z<|kA Z<|aQ ?_;refine eJ h Z (λh=>?_) λh=>?_
   ·refine aX<|aD Z<|aQ<|aT<|bF<|aJ<|aJ<|bF<|aJ ?_;cases h;exact iJ Z
   refine eC<|lJ<|aU<|aB Z<|cW Z<|aD Z<|aQ ?_;exact vT (wI .i64 (e+(1:Int))) () h SF Z
  refine fF ?_;exact gJ () (()) h SF Z
 intro d k h;unfold sO at h;refine aX<|aD Z<|aQ<|aT ?_;cases h;exact iJ Z
def tU  (a:Unit):Option Bool:=
 some (true)
def tV (b:Int) (a:(Int)->Option Bool) (c:Unit):Option Bool:=
 a (wI .i64 (b+(1:Int)))
def tW (b:Int) (a:(Int)->Option Bool) (c:Bool):Option Bool:=
 if c=true then(some (false))else(a (wI .i64 (b+(1:Int))))
def gA (U:Nat) (c:cS) (a:Int) (f:(Int)->Option Bool) (b:Int) (e:(Int)->Option Bool):Option Bool:=
 ck (0<=a∧a<(c.2.length:Int)) (if b<((at' c.2 a).length:Int)then(ck (0<=a∧a<(c.2.length:Int)) (ck (0<=b∧b<((at' c.2 a).length:Int)) (Option.bind (rB U ((c.1,c.2)) ((at' (at' c.2 a) b).1) a) λd=>(if d<(0:Int)then(tW b e (true))else(ck (0<=((at' (at' c.2 a) b).1)∧((at' (at' c.2 a) b).1)<(c.2.length:Int)) (ck (0<=d∧d<((at' c.2 ((at' (at' c.2 a) b).1)).length:Int)) (tW b e (decide (((at' (at' c.2 ((at' (at' c.2 a) b).1)) d).2)≠((at' (at' c.2 a) b).2))))))))))else(tV a f (())))
def iB (U:Nat) (c:cS) (a:Int) (b:(Int)->Option Bool):Option Bool:=
 if a<(c.2.length:Int)then(bP (gA U c a b) U (0:Int))else(tU  (()))
def nN (U:Nat) (a:cS) (b:Unit):Option Bool:=
 bP (iB U a) U (0:Int)
def tX (b:Int) (a:(Int)->Option Bool) (c:Unit):Option Bool:=
 a (wI .i64 (b+(1:Int)))
def iL (e:cS) (a:Int) (c:(Int)->Option Bool) (b:Int) (d:(Int)->Option Bool):Option Bool:=
 if b<a then(ck (0<=b∧b<(e.1.length:Int)) (ck (0<=a∧a<(e.1.length:Int)) (if(at' e.1 b)=(at' e.1 a)then(some (false))else(d (wI .i64 (b+(1:Int)))))))else(tX a c (()))
def mH (U:Nat) (d:cS) (b:Int) (a:(Int)->Option Bool) (c:Bool):Option Bool:=
 if c=true then(some (false))else(bP (iL d b a) U (0:Int))
def iC (U:Nat) (b:cS) (a:Int) (c:(Int)->Option Bool):Option Bool:=
 if a<(b.2.length:Int)then(ck (0<=a∧a<(b.1.length:Int)) (Option.bind (iA U (at' b.1 a) (0:Int) (255:Int)) λd=>(if(!d)=true then(mH U b a c (true))else(ck (0<=a∧a<(b.2.length:Int)) (if(b.2.length:Int)<=((at' b.2 a).length:Int)then(mH U b a c (true))else(ck (0<=a∧a<(b.2.length:Int)) (Option.bind (lN U (at' b.2 a) a (b.2.length:Int)) λe=>(mH U b a c ((!e))))))))))else(nN U b (()))
def tT (U:Nat) (b:cS) (a:Bool):Option Bool:=
 if a=true then(some (false))else(bP (iC U b) U (0:Int))
def jV (U:Nat) (a:cS):Option Bool:=
 Option.bind (iA U (a.2.length:Int) (1:Int) (24:Int)) λb=>(if(!b)=true then(tT U a (true))else(tT U a (decide ((a.1.length:Int)≠(a.2.length:Int)))))
theorem VV:bD Tryz.prog 74:=Tryz.call74
theorem GW (U:Nat) {f:cS} (T:Value)  (V:Value)  (z2:kY) (r:Bool) (h:jV U f=some r):
  bG Tryz.prog 74 #[Value.agg #[T,V]] [Sl aP T f.1,S2 bA V z2 f.2] (λx:Unit=>vB (r)) (λx l=>l) (λ_ l=>l):=by
 let d:=vI (f.2.length:Int);refine bG.of Tryz.func74 Z Tryz.ntmps74 Z λc=>?_;refine aX<|aM (aS.box (cs:=[T,V]) Z Z) Z λn=>let e:=bO n [T,V] 31;aD Z<|aQ<|aX<|bX Z<|dU 0 Z<|aC (dD Z (aA.fact 1 Z) Z) Z<|aD Z<|aQ<|aN<|aN<|eG (λD=>tT U f D=some r) (λD b4=>[(1,vP n),(3,d),(22,vB (D))]) (λD b4=>[e]) ?_ ?_
 ·refine aU<|aB Z<|eO h λad ah h=>aM (zBa tG (jF U  ad ah) Z .nil) Z λan=>aC (iQ Z) Z<|aB Z ?_;refine qV (by exact rfl) (by exact rfl) (λq=>?_) (λq=>?_)
  ·have h:=Ff q h;refine aK Z<|aK Z<|aK Z<|aK Z<|aK Z<|dG Z<|aQ ?_;exact gJ (true) () h SF Z
  have h:=Cr q h;refine aR Z (cT Z Z Z Z Z) Z<|aR Z (dQ 0 Z Z Z Z Z) Z<|aR Z (fG Z (aA.fact 0 Z) Z) Z<|dH Z<|aR Z (xQ Z Z) Z<|dR Z<|aQ ?_;exact gJ (decide ((f.1.length:Int)≠(f.2.length:Int))) () h SF Z
 intro D b4 h;refine qS h Z (λ_ h=>?_) λ_ h=>?_
 ·refine aX<|aD Z<|aQ<|aT<|aJ ?_;cases h;exact lY Z
 refine cK<|aN<|eG (λW=>nN U f W=some r) (λW b7=>[(1,vP n),(3,d)]) (λW b7=>[e]) ?_ ?_
 ·refine aX<|aD Z<|aQ<|aW<|fJ (iC U f) (λb I=>[(1,vP n),(3,d),(4,vI (b))]) (λb I=>[e]) (0:Int) () h SF (a_.refl _) ?_;intro ab b I h;let B:=(bP (iC U f) ab)
  refine aN<|aX<|aB Z<|aB Z<|cX Z<|aQ ?_;refine eJ h Z (λh=>?_) λh=>?_
  ·refine cK<|aN<|eG (λt=>tX b B t=some r) (λt J=>[(1,vP n),(3,d),(4,vI (b))]) (λt J=>[e]) ?_ ?_
   ·refine aW<|aN<|aN<|eG (λm=>mH U f b B m=some r) (λm K=>[(1,vP n),(3,d),(4,vI (b)),(55,vB (m))]) (λm K=>[e]) ?_ ?_
    ·refine aU<|bX Z<|dU 0 Z<|aB Z<|cQ h λQ h=>aC (bI Z Z (aA.fact 0 Z) Z Z Q) Z<|aC (cL Z (aA.fact 0 Z) Z Z Z fN Q) Z<|eO h λac af h=>aM (zBa tG (jF U  ac af) Z .nil) Z λal=>aC (iQ Z) Z<|aB Z ?_;refine qV (by exact rfl) (by exact rfl) (λp=>?_) (λp=>?_)
     ·have h:=Ff p h;refine aK Z<|aK Z<|aK Z<|aK Z<|aK Z<|aK Z<|aK Z<|aK Z<|dG Z<|aB Z<|aK Z<|aK Z<|aK Z<|aK Z<|aK Z<|aK Z<|aK Z<|aK Z<|aK Z<|dG Z<|aQ ?_;exact gJ (true) () h SF Z
     have h:=Cr p h;refine aR Z (cT Z Z Z Z Z) Z<|aR Z (dQ 0 Z Z Z Z Z) Z<|dH Z<|cQ h λw h=>aR Z (bH Z Z (aA.fact 1 Z) Z Z w) Z<|aR Z (bS Z (aA.fact 1 Z) Z Z w) Z<|aR Z (fG Z (zBb (aA.fact 1 Z) w.1 w.2) Z) Z<|dH Z<|aR Z (tC Z Z) Z<|dR Z<|aB Z ?_;refine AL h Z (λ_ h=>?_) λ_ h=>?_
     ·refine aK Z<|aK Z<|aK Z<|aK Z<|aK Z<|aK Z<|aK Z<|aK Z<|aK Z<|dG Z<|aQ ?_;exact gJ (true) () h SF Z
     refine aR Z (cT Z Z Z Z Z) Z<|aR Z (dQ 0 Z Z Z Z Z) Z<|dH Z<|cQ h λy h=>aR Z (bH Z Z (aA.fact 1 Z) Z Z y) Z<|aR Z (bS Z (aA.fact 1 Z) Z Z y) Z<|dH Z<|dH Z<|eO h λS ag h=>lR Z (zBa YQ (Hx U ((at' z2 b).1) S ag) Z (aI.cons (zBb (aA.fact 1 Z) y.1 y.2) .nil)) Z λam=>aR Z (iQ Z) Z<|dR Z<|aQ ?_;exact gJ ((!S)) () h SF Z
    intro m K h;refine qS h Z (λ_ h=>?_) λ_ h=>?_
    ·refine aX<|aD Z<|aQ<|aT<|aJ<|bF<|aJ<|aJ<|bF<|aJ ?_;cases h;exact lY Z
    refine cK<|aX<|aD Z<|aQ<|aW<|fJ (iL f b B) (λu L=>[(1,vP n),(3,d),(4,vI (b)),(5,vI (u))]) (λu L=>[e]) (0:Int) () h SF (a_.refl _) ?_;intro aj u L h;refine aN<|aX<|aB Z<|aB Z<|cX Z<|aQ ?_;refine eJ h Z (λh=>?_) λh=>?_
    ·refine cK<|aN<|aW<|aN ?_;refine JR.start [0,1,0,7,15,0,32,0,224,480,1023] 10 mixedOrders (by decide +kernel) ?_;refine zBc (by exact rfl) ?_;refine cB Z<|eI 0 Z<|aV Z<|cQ h λO h=>bE Z .nil (fW 0 Z) (bI Z Z (aA.fact 0 Z) Z Z O) aO.z<|bE Z .nil (fW 0 Z) (cL Z (aA.fact 0 Z) Z Z Z fN O) aO.z<|cB Z<|eI 0 Z<|aV Z<|cQ h λP h=>bE Z .nil (fW 0 Z) (bI Z Z (aA.fact 0 Z) Z Z P) aO.z<|bE Z .nil (fW 0 Z) (cL Z (aA.fact 0 Z) Z Z Z fN P) aO.z<|bM 10 Z Z<|cI Z<|aQ ?_;refine eJ h Z (λh=>?_) λh=>?_
     ·refine aX<|aD Z<|aQ<|aT<|bF<|aJ<|aJ<|bF<|bF<|aJ<|aJ<|bF<|aJ ?_;cases h;exact lY Z
     refine eC<|lJ<|aU<|aB Z<|cW Z<|aD Z<|aQ ?_;exact vT (wI .i64 (u+(1:Int))) () h SF Z
    refine sG<|gR<|gR<|Af<|lJ ?_;exact gJ () (()) h SF Z
   intro t J h;unfold tX at h;refine aU<|aB Z<|cW Z<|aD Z<|aQ ?_;exact vT (wI .i64 (b+(1:Int))) () h SF Z
  refine fF ?_;exact gJ () (()) h SF Z
 intro W b7 h;unfold nN at h;refine aN<|eG (λX=>tU  X=some r) (λX b9=>[]) (λX b9=>[]) ?_ ?_
 ·refine aX<|aD Z<|aQ<|aW<|fJ (iB U f) (λa E=>[(1,vP n),(3,d),(6,vI (a))]) (λa E=>[e]) (0:Int) () h SF (a_.refl _) ?_;intro Y a E h;let C:=(bP (iB U f) Y)
  refine aN<|aX<|aB Z<|aB Z<|cX Z<|aQ ?_;refine eJ h Z (λh=>?_) λh=>?_
  ·refine cK<|aN<|eG (λs=>tV a C s=some r) (λs F=>[(1,vP n),(3,d),(6,vI (a))]) (λs F=>[e]) ?_ ?_
   ·refine aW<|aX<|aD Z<|aQ<|aW<|fJ (gA U f a C) (λg G=>[(1,vP n),(3,d),(6,vI (a)),(7,vI (g))]) (λg G=>[e]) (0:Int) () h SF (a_.refl _) ?_;intro aa g G h;let A:=(at' (at' f.2 a) g)
    refine aN<|aX<|aB Z<|bX Z<|dU 0 Z<|aB Z<|cQ h λv h=>aC (bH Z Z (aA.fact 1 Z) Z Z v) Z<|aC (bS Z (aA.fact 1 Z) Z Z v) Z<|aC (fG Z (zBb (aA.fact 1 Z) v.1 v.2) Z) Z<|cX Z<|aQ ?_;refine eJ h Z (λh=>?_) λh=>?_
    ·refine cK<|aN<|aW<|aX<|bX Z<|dU 0 Z<|aB Z<|cQ h λi h=>aC (bH Z Z (aA.fact 1 Z) Z Z i) Z<|aC (bS Z (aA.fact 1 Z) Z Z i) Z<|aB Z<|cQ h λM h=>aC (bI Z Z (zBb (aA.fact 1 Z) i.1 i.2) Z Z M) Z<|aC (gM (cs:=[vI (A.1),vI (A.2)]) Z (zBb (aA.fact 1 Z) i.1 i.2) cF Z Z Z Z M) Z<|aM (aS.alloc (cs:=Qs) Z Z) Z λai=>cA 0 (vs:=[vI ((at' (at' f.2 a) g).1),vI ((at' (at' f.2 a) g).2)]) Z Z Z Z Z Z<|aQ<|aX<|cM 1 Z<|bX Z<|dU 0 Z<|aB Z<|eO h λR ae h=>aM (zBa Ny (EI U T V z2 R ae) Z (iD [0,1] Z)) Z λak=>aD Z<|aQ<|aN<|eG (λk=>tW g (bP (gA U f a C) aa) k=some r) (λk H=>[(1,vP n),(3,d),(6,vI (a)),(7,vI (g)),(116,vB (k))]) (λk H=>[e]) ?_ ?_
     ·refine JR.start [0,1,3,7,15,7,39,127,255,7,1023,2047,4095,7,8199,32767,65535] 15 mixedOrders (by decide +kernel) ?_;refine zBc (by exact rfl) ?_;refine aV Z<|e_ Z (EO Z Z)<|aV Z ?_;refine uH (by exact rfl) (by exact rfl) (by exact rfl) (λo=>?_) (λo=>?_)
      ·have h:=Ff o h;refine aL Z Z Z Z<|aL Z Z Z Z<|aL Z Z Z Z<|aL Z Z Z Z<|aL Z Z Z Z<|aL Z Z Z Z<|aL Z Z Z Z<|aL Z Z Z Z<|aL Z Z Z Z<|aL Z Z Z Z<|aL Z Z Z Z<|aL Z Z Z Z<|bM 15 Z Z<|aK Z<|dG Z<|aQ ?_;exact cE (true) () h SF (a_.ix [1] Z Z) (aI.refl _ _)
      have h:=Uv o h;refine bZ Z .nil .nil (cT Z Z Z Z Z) aO.z<|bZ Z (a_.cons 1 Z .nil) .nil (dQ 0 Z Z Z Z Z) aO.z<|bZ Z .nil .nil (cT Z Z Z Z Z) aO.z<|bZ Z (a_.cons 0 Z .nil) .nil (dQ 0 Z Z Z Z Z) aO.z<|cQ h λj h=>bZ Z .nil (fW 1 Z) (bH Z Z (aA.fact 0 Z) Z Z j) aO.z<|bZ Z .nil (fW 1 Z) (bS Z (aA.fact 0 Z) Z Z j) aO.z<|bZ Z .nil .nil (dZ Z) aO.z<|cQ h λN h=>bZ Z .nil (fW 1 Z) (bI Z Z (zBb (aA.fact 0 Z) j.1 j.2) Z Z N) aO.z<|bZ Z .nil .nil (dX Z Z Z Z Z) aO.z<|bZ Z .nil (fW 1 Z) (fI Z (zBb (aA.fact 0 Z) j.1 j.2) Z Z Z Ef N) aO.z<|bZ Z .nil .nil (cT Z Z Z Z Z) aO.z<|bZ Z (a_.cons 0 Z .nil) .nil (dQ 0 Z Z Z Z Z) aO.z<|bM 15 Z Z<|aR Z (xQ Z Z) Z<|dR Z<|aQ ?_;exact cE (decide (((at' (at' f.2 (A.1)) R).2)≠(A.2))) () h SF (a_.ix [1] Z Z) (aI.refl _ _)
     intro k H h;refine qS h Z (λ_ h=>?_) λ_ h=>?_
     ·refine aX<|aD Z<|aQ<|aT<|bF<|aJ<|aJ<|bF<|bF<|aJ<|aJ<|bF<|aJ ?_;cases h;exact lY Z
     refine eC<|lJ<|aU<|aB Z<|cW Z<|aD Z<|aQ ?_;exact vT (wI .i64 (g+(1:Int))) () h SF Z
    refine sG<|gR<|gR<|Af<|lJ ?_;exact gJ () (()) h SF Z
   intro s F h;unfold tV at h;refine aU<|aB Z<|cW Z<|aD Z<|aQ ?_;exact vT (wI .i64 (a+(1:Int))) () h SF Z
  refine fF ?_;exact cE () (()) h SF .nil (aI.refl _ _)
 intro X b9 h;unfold tU at h;refine aX<|aD Z<|aQ<|aT ?_;cases h;exact iJ Z
end Go.Proofs.YtflciafboapaaaaGreat