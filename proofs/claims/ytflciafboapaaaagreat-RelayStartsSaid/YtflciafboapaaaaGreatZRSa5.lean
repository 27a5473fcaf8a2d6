/- Models and proofs. Conditions: none. -/
import Derived.Test.YtflciafboapaaaaGreatZRSa4
import Derived.Test.YtflciafboapaaaaGreatZRSa2
import Derived.Test.YtflciafboapaaaaGreatZRSa3
set_option linter.unusedVariables false
set_option linter.unusedSimpArgs false
set_option maxHeartbeats 4000000
set_option maxRecDepth 20000
namespace Go.Proofs.YtflciafboapaaaaGreat
open Go.Sx
def pO  (a:Bool):Option Bool:=
 some (a)
def pN (U:Nat) (b:dL) (c:Bool):Option Bool:=
 if c=true then(some (false))else(Option.bind (jQ U b.1) λd=>(if d=true then(Option.bind (gT U b.2) λa=>(pO  (a)))else(pO  (false))))
def iG (U:Nat) (a:dL):Option Bool:=
 if(a.1.length:Int)<(1:Int)then(pN U a (true))else(if(24:Int)<(a.1.length:Int)then(pN U a (true))else(pN U a (decide ((a.2.length:Int)≠(a.1.length:Int)))))
theorem Pv:bB Tryz.prog 72:=Tryz.call72
theorem BJ (U:Nat) {p0:dL} (f:Value)  (g:Value)  (o:iZ) (r:Bool) (h:iG U p0=some r):
  bO Tryz.prog 72 #[Value.agg #[f,g]] [Sl aJ f p0.1,S2 aW g o p0.2] (λx:Unit=>vB (r)) (λx l=>l) (λ_ l=>l):=by
 refine bO.of Tryz.func72 Z Tryz.ntmps72 Z λc=>?_;refine aX<|aI (aN.box (cs:=[f,g]) Z Z) Z λk=>aH Z<|aP<|aX<|cA Z<|eW 0 Z<|lT (aA.fact 0 Z) Z<|aH Z<|aP<|aM<|aM<|jH (λb=>pN U p0 b=some r) (λb m=>[(1,vP k),(19,vB (b))]) (λb m=>[bI k [f,g] 31]) ?_ ?_
 ·refine aT<|aB Z<|dM Z<|aB Z ?_;refine Fq h Z (λ_ h=>?_) λ_ h=>?_
  ·refine aK Z<|aK Z<|fX Z<|aB Z<|aK Z<|aK Z<|aK Z<|aK Z<|aK Z<|fX Z<|aP ?_;exact kC (true) () h SF Z
  refine iA Z<|aS Z (Aq Z Z) Z<|fG Z<|aB Z ?_;refine Fq h Z (λ_ h=>?_) λ_ h=>?_
  ·refine aK Z<|aK Z<|aK Z<|aK Z<|aK Z<|fX Z<|aP ?_;exact kC (true) () h SF Z
  refine aS Z (eT Z Z Z Z Z) Z<|aS Z (fS 0 Z Z Z Z Z) Z<|aS Z (eP Z (aA.fact 1 Z) Z) Z<|iA Z<|aS Z (EQ Z Z) Z<|fG Z<|aP ?_;exact kC (decide ((p0.2.length:Int)≠(p0.1.length:Int))) () h SF Z
 intro b m h;refine Bf h Z (λ_ h=>?_) λ_ h=>?_
 ·refine aX<|aH Z<|aP<|aY<|aL ?_;cases h;exact zJ Z
 refine dC<|aM<|jH (λd=>pO  d=some r) (λd n=>[(2,vB (d))]) (λd n=>[]) ?_ ?_
 ·refine aT<|cA Z<|eW 0 Z<|fZ h λp i h=>aI (zBc XH (Eb U f p i) Z (g_ [0] Z)) Z λq=>aB Z ?_;refine wJ (by exact rfl) (by exact rfl) (λa=>?_) (λa=>?_)
  ·have h:=Km a h;refine aS Z (eT Z Z Z Z Z) Z<|aS Z (fS 0 Z Z Z Z Z) Z<|fZ h λe j h=>uQ Z (zBc XI (GA U g o e j) Z (g_ [1] Z)) Z λs=>fX Z<|aH Z<|aP ?_;exact cK (e) () h SF .nil (aE.refl _ _)
  have h:=Hm a h;refine aK Z<|aK Z<|aK Z<|fG Z<|aH Z<|aP ?_;exact cK (false) () h SF .nil (aE.refl _ _)
 intro d n h;unfold pO at h;refine aY ?_;cases h;exact mN Z
def rH  (a:Int):Option (Int):=
 some (a)
def iD (U:Nat) (b:Int) (a:Int):Option (Int):=
 if a<(1:Int)then(some (0:Int))else(ck (a≠0) (if(Int.tmod b a)<(0:Int)then(rH  (wI .i64 ((Int.tmod b a)+a)))else(rH  (Int.tmod b a))))
theorem Dw:bB Tryz.prog 13:=Tryz.call13
theorem lO (U:Nat) {d:Int} {b:Int} (r:Int) (h:iD U d b=some r):
  bO Tryz.prog 13 #[vI (d),vI (b)] [] (λx:Unit=>vI (r)) (λx l=>l) (λ_ l=>l):=by
 refine bO.of Tryz.func13 Z Tryz.ntmps13 Z λc=>?_;refine aX<|aH Z<|aP<|aM<|aX<|aB Z<|dM Z<|aP ?_;refine f_ h Z (λh=>?_) λh=>?_
 ·refine aX<|aH Z<|aP<|aY<|aL ?_;cases h;exact mN Z
 refine dC<|aX<|aB Z<|aB Z<|eB h λf h=>aD (Ue Z Z f) Z<|aH Z<|aP<|aM<|jH (λa=>rH  a=some r) (λa e=>[(0,vI (a))]) (λa e=>[]) ?_ ?_
 ·refine aX<|aB Z<|dM Z<|aP ?_;refine f_ h Z (λh=>?_) λh=>?_
  ·refine aT<|aB Z<|aB Z<|dK Z<|aH Z<|aP ?_;exact kC (wI .i64 ((Int.tmod d b)+b)) () h SF Z
  refine dC ?_;exact kC (Int.tmod d b) () h SF Z
 intro a e h;unfold rH at h;refine aX<|aB Z<|aH Z<|aP<|aY ?_;cases h;exact mN Z
def sJ (U:Nat) (b:bT) (a:Int):Option (Int):=
 if a<(b.length:Int)then(ck (0<=a∧a<(b.length:Int)) (some (at' b a)))else(some (0:Int))
theorem Jf:bB Tryz.prog 65:=Tryz.call65
theorem AS (U:Nat) {b:bT} {d:Int} (e:Value) (r:Int) (h:sJ U b d=some r):
  bO Tryz.prog 65 #[e,vI (d)] [Sl aJ e b] (λx:Unit=>vI (r)) (λx l=>l) (λ_ l=>l):=by
 refine bO.of Tryz.func65 Z Tryz.ntmps65 Z λc=>?_;refine aX<|aH Z<|aP<|aM<|aX<|aB Z<|aB Z<|lT (aA.fact 0 Z) Z<|dM Z<|aP ?_;refine f_ h Z (λh=>?_) λh=>?_
 ·refine aX<|aB Z<|aB Z<|eB h λa h=>aD (b_ Z Z (aA.fact 0 Z) Z Z a) Z<|aD (dJ Z (aA.fact 0 Z) Z Z Z gX a) Z<|aH Z<|aP<|aY<|aL ?_;cases h;exact mN Z
 refine dC<|aX<|aH Z<|aP<|aY ?_;cases h;exact mN Z
def oD (b:Int) (a:bT):Option sV:=
 some ((a,(List.replicate (Int.toNat (wI .i64 ((1:Int)+b))) ([]:fU))))
def sD (a:Int×bT) (c:(Int×bT)->Option sV) (b:Int):Option sV:=
 ck ((a.2.length:Int)+(List.length ([b]):Int)<=1099511627) (c ((wI .i64 (a.1+(1:Int))),(a.2++[b])))
def lD (b:gW->Option sV) (a:fY):Option sV:=
 b (a.1,(wI .i64 (a.2+(1:Int))))
def lE (b:Int×bT) (d:(Int×bT)->Option sV) (a:fY) (c:gW->Option sV):Option sV:=
 if a.2<b.1 then(ck (0<=a.2∧a.2<(b.2.length:Int)) (if(at' b.2 a.2)=a.1 then(ck ((256:Int)≠0) (lD c ((Int.tmod (wI .i64 (a.1+(1:Int))) (256:Int)),(-1:Int))))else(lD c (a.1,a.2))))else(sD b d (a.1))
def jK (U:Nat) (f:wB) (e:Int) (a:Int×bT) (b:(Int×bT)->Option sV):Option sV:=
 if a.1<(wI .i64 ((1:Int)+e))then(Option.bind (sJ U f.2.2.2.1 a.1) λc=>(Option.bind (iD U c (256:Int)) λd=>(bP (lE a b) U (d,(0:Int)))))else(oD e (a.2))
def lZ (U:Nat) (b:wB) (c:Int):Option sV:=
 Option.bind (iD U (wI .i64 (b.1 - (1:Int))) c) λa=>(ck (0<=(wI .i64 ((1:Int)+a))∧(wI .i64 ((1:Int)+a))<=1099511627) (bP (jK U b a) U ((0:Int),([]:bT))))
theorem Uz:bB Tryz.prog 63:=Tryz.call63
theorem zT (U:Nat) {k:wB} {p1:Int} (R:Value)  (S:Value)  (Q:Value) (r:tV) (h:lZ U k p1=some r):
  bO Tryz.prog 63 #[Value.agg #[vI (k.1),R,S,Q,vB (k.2.2.2.2.1),vB (k.2.2.2.2.2)],vI (p1)] [Sl aJ R k.2.1,Sl aJ S k.2.2.1,Sl aJ Q k.2.2.2.1] (λx:Ou=>Value.agg #[x.1,x.2.1]) (λx l=>Ar eC x.1 r.1::Ar aZ.raw x.2.1 x.2.2::eH bD x.2.2 r.2::l) (λ_ l=>l):=by
 refine bO.of Tryz.func63 Z Tryz.ntmps63 Z λc=>?_;refine aX<|aI (aN.box (cs:=[vI (k.1),R,S,Q,vB (k.2.2.2.2.1),vB (k.2.2.2.2.2)]) Z Z) Z λF=>let t:=bI F [vI (k.1),R,S,Q,vB (k.2.2.2.2.1),vB (k.2.2.2.2.2)] 24;aI (aN.alloc (cs:=[cJ,cJ]) Z Z) Z λE=>let s:=bI E [cJ,cJ] 31;aP<|aX<|cA Z<|eW 1 Z<|aD (Au Z Z) Z<|aB Z<|fZ h λP w4 h=>let p:=(wI .i64 ((1:Int)+P));let C:=(Int.toNat p);let y:=(List.replicate C (cJ));let o:=eH bD y (List.replicate C ([]:fU));aI (zBc Dw (lO U  P w4) Z .nil) Z λx5=>dK Z<|aH Z<|aP<|aX<|aB Z<|eB h λj6 h=>cG (lC bD C)<|aI (jD (e:=aZ.raw) (cJ) Z Z Z Z j6 Z Z Z) Z λv=>let q:=Ar aZ.raw v y;aQ (Know.one (aA.sl (bZ (i:=0) (j:=1) Z Z bG))) λT=>?_
 refine aD (Pm (r:=Value.agg #[cJ,v]) Z (by intro w;simp[Instr.build,Instr.fill,dO,cV,cL,dQ,dR,cW,eN,dG T])) Z ?_;refine aI (aN.alloc (cs:=[cJ,cJ]) Z Z) Z λu=>aQ (Know.one (aA.sl (bZ (i:=1) (j:=2) Z Z bG))) λJ=>bL 0 (vs:=[cJ,v]) Z Z (dH Z (dH J Z)) Z Z Z<|aP<|aM<|DN (B:=Value) (λn=>oD P n=some r) (λn m=>[(4,vP E),(6,vP u)]) (λn m=>[bI u [m,v] 31,q,o,s,Ar eC m n]) ?_ ?_
 ·refine aX<|aH Z<|aP<|aV<|cG (gZ eC)<|iI (B:=Value) (jK U k P) (λa g=>[(2,vP F),(4,vP E),(5,vI p),(6,vP u),(7,vI (a.1))]) (λa g=>[bI u [g,v] 31,q,o,s,t,Ar eC g a.2]) ((0:Int),([]:bT)) (cJ) h SF (aR.ix [1,2,3,4,5,0] Z Z) ?_;intro X a g h;let D:=Ar eC g a.2;let A:=bI u [g,v] 31;let z:=(bP (jK U k P) X)
  refine aM<|aX<|aB Z<|aB Z<|dM Z<|aP ?_;refine f_ h Z (λh=>?_) λh=>?_
  ·refine dC<|aM<|aV<|aX<|cA Z<|eW 4 Z<|aB Z<|fZ h λaa ac h=>aI (zBc Jf (AS U Q aa ac) Z (g_ [2] Z)) Z λaf=>fZ h λO ad h=>aI (zBc Dw (lO U  O ad) Z .nil) Z λag=>aH Z<|aP<|aM<|jH (λb=>sD a z b=some r) (λb G=>[(2,vP F),(4,vP E),(5,vI p),(6,vP u),(7,vI (a.1)),(8,vI (b))]) (λb G=>[A,q,o,s,t,D]) ?_ ?_
   ·refine aX<|aH Z<|aP<|aV<|iI (lE a z) (λd H=>[(2,vP F),(4,vP E),(5,vI p),(6,vP u),(7,vI (a.1)),(8,vI (d.1)),(9,vI (d.2))]) (λd H=>[A,q,o,s,t,D]) (O,(0:Int)) () h SF (aR.refl _) ?_;intro Y d H h;refine aM<|aX<|aB Z<|aB Z<|dM Z<|aP ?_;refine f_ h Z (λh=>?_) λh=>?_
    ·refine dC<|aM<|jH (λf=>lD (bP (lE a z) Y) f=some r) (λf I=>[(2,vP F),(4,vP E),(5,vI p),(6,vP u),(7,vI (a.1)),(8,vI (f.1)),(9,vI (f.2))]) (λf I=>[A,q,o,s,t,D]) ?_ ?_
     ·refine aV<|aX<|cA Z<|eW 0 Z<|aB Z<|eB h λN h=>aD (b_ Z Z (cB (aA.res 5 Z) fO) Z Z N) Z<|aD (dJ Z (cB (aA.res 5 Z) fO) Z Z Z gX N) Z<|aB Z<|eL Z<|aP ?_;refine f_ h Z (λh=>?_) λh=>?_
      ·refine aT<|aB Z<|dK Z<|eB h λW h=>aD (Ue Z Z W) Z<|aH Z<|aH Z<|fH<|oV ?_;exact kC ((Int.tmod (wI .i64 (d.1+(1:Int))) (256:Int)),(-1:Int)) () h SF Z
      refine fV<|oV ?_;exact kC (d.1,d.2) () h SF Z
     intro f I h;unfold lD at h;refine aT<|aB Z<|dK Z<|aH Z<|aP ?_;exact Bw (f.1,(wI .i64 (f.2+(1:Int)))) () h SF Z
    refine gC ?_;exact kC (d.1) () h SF Z
   intro b G h;refine aT<|cA Z<|eW 0 Z<|aB Z<|aI (cU (e:=eC) ([b]) [(0,vI (b))] Z Z Z Z (uF (vI (b)) Z) Z Z Z) Z λae=>eB h λV h=>aI (mB 6 fO Z Z Z (cB (aA.res 0 Z) fO) Z Z Z Z V Z) Z λab=>cA Z<|aQ (Know.one ((cB (aA.res 6 Z) fO))) λM=>pE 1 Z Z M Z Z Z<|fH<|oV<|aT<|aB Z<|dK Z<|aH Z<|aP ?_;exact iN ((wI .i64 (a.1+(1:Int))),(a.2++[b])) (ab) h SF (aR.ix [1,2,3,4,5,6] Z Z) (aE.refl _ _)
  refine gC ?_;exact cK (a.2) (g) h SF (aR.ix [0,1,2,3,5] Z Z) (aE.refl _ _)
 intro n m h;unfold oD at h;refine aX<|cY 0 Z<|aQ (Know.one ((cB (aA.res 4 Z) fO))) λK=>aQ (Know.one (aA.sl (bZ (i:=1) (j:=2) Z Z bG))) λL=>bL 3 (vs:=[m,v]) Z Z (dH K (dH L Z)) Z Z Z<|aP<|aY ?_;cases h;exact jR (m,v,y) Z Z (RV.cell 3 Z Z Z Z) (aR.ix [4,1,2] Z Z) aE.nil
def vF  (a:Unit):Option Bool:=
 some (false)
def zQ (c:dL) (a:Int) (e:Int) (b:Int) (d:(Int)->Option Bool):Option Bool:=
 ck (0<=a∧a<(c.2.length:Int)) (if b<((at' c.2 a).length:Int)then(ck (0<=a∧a<(c.2.length:Int)) (ck (0<=b∧b<((at' c.2 a).length:Int)) (if((at' (at' c.2 a) b).1)=e then(some (true))else(d (wI .i64 (b+(1:Int)))))))else(vF  (())))
def m_ (U:Nat) (a:dL) (b:Int) (c:Int):Option Bool:=
 bP (zQ a b c) U (0:Int)
theorem XF:bB Tryz.prog 106:=Tryz.call106
theorem JY (U:Nat) {g:dL} {i:Int} {j:Int} (k:Value)  (m:Value)  (q:iZ) (r:Bool) (h:m_ U g i j=some r):
  bO Tryz.prog 106 #[Value.agg #[k,m],vI (i),vI (j)] [Sl aJ k g.1,S2 aW m q g.2] (λx:Unit=>vB (r)) (λx l=>l) (λ_ l=>l):=by
 refine bO.of Tryz.func106 Z Tryz.ntmps106 Z λc=>?_;unfold m_ at h;refine aX<|aI (aN.box (cs:=[k,m]) Z Z) Z λn=>aH Z<|aP<|aM<|jH (λd=>vF  d=some r) (λd o=>[]) (λd o=>[]) ?_ ?_
 ·refine aX<|aH Z<|aP<|aV<|iI (zQ g i j) (λe p=>[(1,vI (i)),(2,vI (j)),(3,vP n),(7,vI (e))]) (λe p=>[bI n [k,m] 31]) (0:Int) () h SF (aR.refl _) ?_;intro s e p h;refine aM<|aX<|aB Z<|cA Z<|eW 0 Z<|aB Z<|eB h λf h=>aD (bV Z Z (aA.fact 1 Z) Z Z f) Z<|aD (cM Z (aA.fact 1 Z) Z Z f) Z<|aD (gY Z (zBe (aA.fact 1 Z) f.1 f.2) Z) Z<|dM Z<|aP ?_;refine f_ h Z (λh=>?_) λh=>?_
  ·refine dC<|aM<|aV<|aX<|cA Z<|eW 0 Z<|aB Z<|eB h λa h=>aD (bV Z Z (aA.fact 1 Z) Z Z a) Z<|aD (cM Z (aA.fact 1 Z) Z Z a) Z<|aB Z<|eB h λb h=>aD (b_ Z Z (zBe (aA.fact 1 Z) a.1 a.2) Z Z b) Z<|aD (nS Z Z Z Z Z) Z<|aD (qL Z (zBe (aA.fact 1 Z) a.1 a.2) Z Z Z Ap b) Z<|aB Z<|eL Z<|aP ?_;refine f_ h Z (λh=>?_) λh=>?_
   ·refine aX<|aH Z<|aP<|aY<|cE<|aL<|aL<|cE<|aL ?_;cases h;exact zJ Z
   refine fV<|oV<|aT<|aB Z<|dK Z<|aH Z<|aP ?_;exact Bw (wI .i64 (e+(1:Int))) () h SF Z
  refine gC ?_;exact cK () (()) h SF .nil (aE.refl _ _)
 intro d o h;unfold vF at h;refine aX<|aH Z<|aP<|aY ?_;cases h;exact mN Z
def o_ (f:wB) (c:dL) (a:Int) (b:Int) (d:Int) (e:Bool):Option (gA):=
 if e=true then(some (c.2))else(if f.2.2.2.2.2=true then(ck (0<=a∧a<(c.2.length:Int)) (ck ((List.length ([(b,d)]):Int)+((at' c.2 a).length:Int)<=1099511627) (ck (0<=a∧a<(c.2.length:Int)) (ck (0<=b∧b<((List.set c.2 (Int.toNat a) (([(b,d)])++(at' c.2 a))).length:Int)) (ck ((List.length ([(a,d)]):Int)+((at' (List.set c.2 (Int.toNat a) (([(b,d)])++(at' c.2 a))) b).length:Int)<=1099511627) (ck (0<=b∧b<((List.set c.2 (Int.toNat a) (([(b,d)])++(at' c.2 a))).length:Int)) (some (List.set (List.set c.2 (Int.toNat a) (([(b,d)])++(at' c.2 a))) (Int.toNat b) (([(a,d)])++(at' (List.set c.2 (Int.toNat a) (([(b,d)])++(at' c.2 a))) b))))))))))else(ck (0<=a∧a<(c.2.length:Int)) (ck (0<=b∧b<(c.2.length:Int)) (ck (((at' c.2 a).length:Int)+(List.length ([(b,d)]):Int)<=1099511627) (ck (((at' c.2 b).length:Int)+(List.length ([(a,d)]):Int)<=1099511627) (ck (Int.toNat a≠Int.toNat b) (ck (0<=a∧a<((List.set (List.set c.2 (Int.toNat a) ((at' c.2 a)++([(b,d)]))) (Int.toNat b) ((at' c.2 b)++([(a,d)]))).length:Int)) (ck (0<=b∧b<((List.set (List.set c.2 (Int.toNat a) ((at' c.2 a)++([(b,d)]))) (Int.toNat b) ((at' c.2 b)++([(a,d)]))).length:Int)) (some (List.set (List.set c.2 (Int.toNat a) ((at' c.2 a)++([(b,d)]))) (Int.toNat b) ((at' c.2 b)++([(a,d)]))))))))))))
def mW (U:Nat) (e:wB) (a:dL) (b:Int) (c:Int) (f:Int):Option (gA):=
 if b=c then(o_ e a b c f (true))else(Option.bind (m_ U ((a.1,a.2)) b c) λd=>(o_ e a b c f (d)))
theorem UA:bB Tryz.prog 64:=Tryz.call64
theorem AO (U:Nat) {s:wB} {M:dL} {n:Int} {p:Int} {q:Int} (P:Value)  (Q:Value)  (R:Value)  (N:Value)  (I:Value)  (A:cR) (r:gA) (h:mW U s M n p q=some r):
  zE Tryz.prog 64 #[Value.agg #[vI (s.1),P,Q,R,vB (s.2.2.2.2.1),vB (s.2.2.2.2.2)],Value.agg #[N,I],vI (n),vI (p),vI (q)] [Ar aZ.raw I A,eH bD A M.2] [Sl aJ P s.2.1,Sl aJ Q s.2.2.1,Sl aJ R s.2.2.2.1,Sl aJ N M.1] (λx:cR=>Value.tuple #[]) (λx l=>Ar aZ.raw I x::eH bD x r::l):=by
 let H:=(Int.toNat p)
 let G:=(Int.toNat n)
 let F:=(yX (vI (n)) (vI (q)))
 let E:=(yX (vI (p)) (vI (q)))
 let D:=Value.agg #[vI (n),vI (q)];let C:=Value.agg #[vI (p),vI (q)];refine zE.of (vs:=[Value.agg #[vI (s.1),P,Q,R,vB (s.2.2.2.2.1),vB (s.2.2.2.2.2)],Value.agg #[N,I],vI (n),vI (p),vI (q)]) Tryz.func64 Z Tryz.ntmps64 Z λc=>?_;refine aX<|aI (aN.box (cs:=[vI (s.1),P,Q,R,vB (s.2.2.2.2.1),vB (s.2.2.2.2.2)]) Z Z) Z λb1=>aI (aN.box (cs:=[N,I]) Z Z) Z λb2=>aP<|aM<|aM<|iV (B:=Unit) (λO=>o_ s M n p q O=some r) (λO b5=>[(2,vI (n)),(3,vI (p)),(4,vI (q)),(5,vP b1),(6,vP b2),(20,vB (O))]) (λO b5=>[bI b2 [N,I] 31,bI b1 [vI (s.1),P,Q,R,vB (s.2.2.2.2.1),vB (s.2.2.2.2.2)] 24,Ar aZ.raw I A,eH bD A M.2]) (λO b5=>[Sl aJ P s.2.1,Sl aJ Q s.2.2.1,Sl aJ R s.2.2.2.1,Sl aJ N M.1]) ?_ ?_
 ·refine aT<|aB Z<|aB Z<|eL Z<|aB Z ?_;refine Fq h Z (λ_ h=>?_) λ_ h=>?_
  ·refine aK Z<|aK Z<|aK Z<|aK Z<|fX Z<|aP ?_;exact kC (true) () h SF Z
  refine aS Z (dX 0 Z Z Z Z) Z<|iA Z<|iA Z<|fZ h λaF aC h=>uQ Z (zBc XF (JY U N I (List.zip A M.2) aF aC) Z (aE.cons (aA.fact 3 Z) (aE.cons (bZ (i:=2) (j:=3) Z Z bG) .nil))) Z λbi=>fG Z<|aP ?_;exact kC (aF) () h SF Z
 intro O b5 h;refine Bf h Z (λ_ h=>?_) λ_ h=>?_
 ·refine aY<|aL ?_;cases h;exact Em (A) Z Z .ret (.inl Z) (aR.ix [2,3] Z Z) aE.nil
 refine dC<|aX<|aB Z<|aB Z ?_;refine aD (Cp (r:=Value.agg #[vI (p),vI (q)]) Z Z (by intro w;simp[Instr.build,Instr.fill,dO,cV,cL,dQ,dR,cW,eN])) Z ?_;refine aB Z<|aB Z ?_;refine aD (Cp (r:=Value.agg #[vI (n),vI (q)]) Z Z (by intro w;simp[Instr.build,Instr.fill,dO,cV,cL,dQ,dR,cW,eN])) Z ?_;refine aI (aN.alloc (cs:=MV) Z Z) Z λb7=>aI (aN.alloc (cs:=MV) Z Z) Z λb8=>bL 1 (vs:=[vI (p),vI (q)]) Z Z Z Z Z Z<|bL 0 (vs:=[vI (n),vI (q)]) Z Z Z Z Z Z<|aP<|aM<|aX<|cA Z<|eW 3 Z<|aP ?_;refine Bf h Z (λ_ h=>?_) λ_ h=>?_
 ·refine aM ?_;refine JR.start [0,1,0,0,8,0,32,0,224,480,1016,2047,4095] 11 mixedOrders (by decide +kernel) ?_;refine zBf (by exact rfl) ?_;refine cD Z<|fI 2 Z<|a_ Z<|gE 1 Z<|zBd Z Z Z (cU (e:=bD) ([((p,q))]) [(0,C)] Z Z Z Z E Z Z Z) Z (λa7=>(nL [([3],[])] Z)) λa7=>i_ Z (eT Z Z Z Z Z)<|bQ Z (aR.cons 3 Z .nil) .nil (fS 0 Z Z Z Z Z) (aO.h (aR.ix [2] Z Z) .nil aO.z)<|i_ Z (iW Z)<|eB h λu h=>aU (cH 6 Z) λS=>?_;refine bQ Z (aR.cons 5 Z .nil) .nil (iO 0 Z Z Z Z Z u.1 (by have d:=u.2;have f:=S;(try simp only[zA1]at d);(try simp only[zA1]at f);(try simp only[zA1]);omega)) (aO.h (aR.ix [4] Z Z) .nil aO.z) ?_;refine aU (cH 6 Z) λT=>bQ Z (aR.cons 5 Z .nil) .nil (eR 0 Z Z T Z Z u) (aO.h (aR.ix [4] Z Z) .nil aO.z)<|eB h λa5 h=>zBd Z Z Z (mB 0 bG Z Z Z (aA.row (j:=6) Z bG u.1 u.2) Z Z Z Z a5 Z) Z (λaG=>(nL [([3],[])] Z)) λaG=>bS 11 Z Z<|eB h λv h=>aD (bV Z Z (bZ (i:=5) (j:=6) Z Z bG) Z Z v) Z<|aQ (Know.one ((cB (aA.res 0 Z) bG))) λaq=>cG (sA (k:=n) 6 0 Z Z Z v) ?_;refine mP 4 5 ⟨v.1,by first|exact v.2|simpa using v.2⟩ Z Z Z Z Z (by simp) aq Z ?_;refine aP<|aM ?_;refine JR.start [0,1,0,0,8,0,32,0,224,480,1016,2047,4095] 11 mixedOrders (by decide +kernel) ?_;refine zBf (by exact rfl) ?_;refine cD Z<|fI 2 Z<|a_ Z<|gE 0 Z<|zBd Z Z Z (cU (e:=bD) ([((n,q))]) [(0,D)] Z Z Z Z F Z Z Z) Z (λa8=>(nL [([3],[])] Z)) λa8=>i_ Z (eT Z Z Z Z Z)<|bQ Z (aR.cons 3 Z .nil) .nil (fS 0 Z Z Z Z Z) (aO.h (aR.ix [2] Z Z) .nil aO.z)<|i_ Z (iW Z)<|eB h λt h=>aU (cH 6 Z) λV=>?_;refine bQ Z (aR.cons 5 Z .nil) .nil (iO 0 Z Z Z Z Z t.1 (by have d:=t.2;have f:=V;(try simp only[zA1]at d);(try simp only[zA1]at f);(try simp only[zA1]);omega)) (aO.h (aR.ix [4] Z Z) .nil aO.z) ?_;refine aU (cH 6 Z) λW=>bQ Z (aR.cons 5 Z .nil) .nil (eR 0 Z Z W Z Z t) (aO.h (aR.ix [4] Z Z) .nil aO.z)<|eB h λa6 h=>zBd Z Z Z (mB 0 bG Z Z Z (aA.row (j:=6) Z bG t.1 (by first|exact t.2|simpa using t.2)) Z Z Z Z a6 Z) Z (λaH=>(nL [([3],[])] Z)) λaH=>?_;refine bS 11 Z Z<|eB h λy h=>aD (bV Z Z (bZ (i:=5) (j:=6) Z Z bG) Z Z y) Z<|aQ (Know.one ((cB (aA.res 0 Z) bG))) λar=>cG (sA (k:=p) 6 0 Z Z Z y) ?_;refine mP 4 5 ⟨y.1,by first|exact y.2|simpa using y.2⟩ Z Z Z Z Z (by simp) ar Z ?_;refine aP<|aY<|aL ?_;cases h;exact Em (List.set (List.set A G aG) H aH) Z Z .ret (.inl Z) (aR.ix [4,5] Z Z) aE.nil
 refine dC<|eB h λg h=>eB h λm h=>eB h λJ h=>eB h λK h=>eB h λL h=>eB h λa h=>eB h λb h=>Ep [0,1,0,0,8,0,0,64,0,448,960,0,2048,8128,0,16384,0,114688,245760,0,524288,2097088,4194247,8388551,16777215,33554431] 24 [[0,1,2,3,4,5,6,7,8,9,10,11,14,15,16,17,18,19,12,13,20,21,22,23,24,25],[0,1,2,3,4,5,6,7,8,9,10,11,14,15,16,17,18,19,12,20,13,21,22,23,24,25],[0,1,2,3,4,5,6,7,8,9,10,11,14,15,16,17,18,19,20,12,13,21,22,23,24,25]] mixedOrders (by decide +kernel) (by decide +kernel) ?_;intro o ho;simp only[zAm,zB1,or_false]at ho;rcases ho with rfl|rfl|rfl
 ·refine cD Z<|fI 2 Z<|a_ Z<|cD Z<|fI 2 Z<|a_ Z<|cD Z<|fI 2 Z<|a_ Z<|aU (cH 5 Z) λX=>?_;refine bQ Z (aR.cons 4 Z .nil) .nil (iO 0 Z Z Z Z Z g.1 (by have d:=g.2;have f:=X;(try simp only[zA1]at d);(try simp only[zA1]at f);(try simp only[zA1]);omega)) aO.z ?_;refine aU (cH 5 Z) λY=>bQ Z (aR.cons 4 Z .nil) .nil (eR 0 Z Z Y Z Z g) aO.z<|gE 1 Z<|cD Z<|fI 2 Z<|a_ Z<|aU (cH 5 Z) λaa=>?_;refine bQ Z (aR.cons 4 Z .nil) .nil (iO 0 Z Z Z Z Z m.1 (by have d:=m.2;have f:=aa;(try simp only[zA1]at d);(try simp only[zA1]at f);(try simp only[zA1]);omega)) aO.z ?_;refine aU (cH 5 Z) λab=>bQ Z (aR.cons 4 Z .nil) .nil (eR 0 Z Z ab Z Z m) aO.z<|gE 0 Z<|zBd Z Z Z (cU (e:=bD) ([((p,q))]) [(0,C)] Z Z Z Z E Z Z Z) Z (λa9=>(nL [([1],[]),([5],[]),([5],[]),([3],[]),([5],[]),([5],[]),([3],[]),([3],[]),([3],[])] Z)) λa9=>zBd Z Z Z (lV 6 bG Z Z Z (cB (aA.res 0 Z) bG) Z Z Z Z g J Z) Z (λaV=>(nL [([1],[]),([5],[]),([5],[]),([3],[]),([3],[]),([3],[])] Z)) λaV=>zBd Z Z Z (cU (e:=bD) ([((n,q))]) [(0,D)] Z Z Z Z F Z Z Z) Z (λba=>(nL [([6],[]),([6],[]),([4],[]),([3],[]),([6],[]),([6],[]),([4],[]),([4],[]),([4],[])] Z)) λba=>zBd Z Z Z (zD (j:=n) 7 bG Z Z Z (cB (aA.res 0 Z) bG) Z Z Z Z m K Z L) Z (λaW=>(nL [([4],[]),([4],[])] Z)) λaW=>aU (cH 7 Z) λac=>?_;refine bQ Z (aR.cons 6 Z .nil) .nil (iO 0 Z Z Z Z Z a.1 (by have d:=a.2;have f:=ac;(try simp only[zA1]at d);(try simp only[zA1]at f);(try simp only[zA1]);omega)) (NG Z) ?_;refine aU (Cj (k:=n) (j:=p) 7 Z (by omega) ⟨a.1,by first|exact a.2|simpa using a.2⟩) λau=>?_;refine An Z Z Z (Bv 6 7 ⟨a.1,by first|exact a.2|simpa using a.2⟩ Z Z Z Z (by simp) au Z) (λbf=>(nL [([4],[])] Z)) λbf=>?_;refine bS 24 Z Z<|aQ (cH 7 Z) λad=>?_;refine aD (iO 6 Z Z Z Z Z b.1 (by have d:=b.2;have f:=ad;(try simp only[zA1]at d);(try simp only[zA1]at f);(try simp only[zA1]);omega)) Z ?_;refine aQ (vR 7 (k:=p) Z ⟨b.1,by first|exact b.2|simpa using b.2⟩) λav=>?_;refine mP 6 7 ⟨b.1,by first|exact b.2|simpa using b.2⟩ Z Z Z Z Z (by simp) av Z ?_;refine fH ?_;cases h;exact Em (List.set (List.set A G aV) H aW) Z Z .normal (.inr Z) (aR.ix [6,7] Z Z) aE.nil
 ·refine cD Z<|fI 2 Z<|a_ Z<|cD Z<|fI 2 Z<|a_ Z<|cD Z<|fI 2 Z<|a_ Z<|aU (cH 5 Z) λae=>?_;refine bQ Z (aR.cons 4 Z .nil) .nil (iO 0 Z Z Z Z Z g.1 (by have d:=g.2;have f:=ae;(try simp only[zA1]at d);(try simp only[zA1]at f);(try simp only[zA1]);omega)) aO.z ?_;refine aU (cH 5 Z) λaf=>bQ Z (aR.cons 4 Z .nil) .nil (eR 0 Z Z af Z Z g) aO.z<|gE 1 Z<|cD Z<|fI 2 Z<|a_ Z<|aU (cH 5 Z) λag=>?_;refine bQ Z (aR.cons 4 Z .nil) .nil (iO 0 Z Z Z Z Z m.1 (by have d:=m.2;have f:=ag;(try simp only[zA1]at d);(try simp only[zA1]at f);(try simp only[zA1]);omega)) aO.z ?_;refine aU (cH 5 Z) λah=>bQ Z (aR.cons 4 Z .nil) .nil (eR 0 Z Z ah Z Z m) aO.z<|gE 0 Z<|zBd Z Z Z (cU (e:=bD) ([((p,q))]) [(0,C)] Z Z Z Z E Z Z Z) Z (λbb=>(nL [([1],[]),([5],[]),([5],[]),([3],[]),([5],[]),([5],[]),([3],[]),([3],[]),([3],[])] Z)) λbb=>zBd Z Z Z (cU (e:=bD) ([((n,q))]) [(0,D)] Z Z Z Z F Z Z Z) Z (λbc=>(nL [([6],[]),([6],[]),([4],[]),([3],[]),([6],[]),([6],[]),([4],[]),([4],[]),([4],[])] Z)) λbc=>zBd Z Z Z (lV 7 bG Z Z Z (cB (aA.res 1 Z) bG) Z Z Z Z g J Z) Z (λa0=>(nL [([2],[]),([6],[]),([6],[]),([4],[]),([4],[]),([4],[])] Z)) λa0=>zBd Z Z Z (zD (j:=n) 7 bG Z Z Z (cB (aA.res 0 Z) bG) Z Z Z Z m K Z L) Z (λa1=>(nL [([4],[]),([4],[])] Z)) λa1=>aU (cH 7 Z) λai=>?_;refine bQ Z (aR.cons 6 Z .nil) .nil (iO 0 Z Z Z Z Z a.1 (by have d:=a.2;have f:=ai;(try simp only[zA1]at d);(try simp only[zA1]at f);(try simp only[zA1]);omega)) (NG Z) ?_;refine aU (Cj (k:=n) (j:=p) 7 Z (by omega) ⟨a.1,by first|exact a.2|simpa using a.2⟩) λaw=>?_;refine An Z Z Z (Bv 6 7 ⟨a.1,by first|exact a.2|simpa using a.2⟩ Z Z Z Z (by simp) aw Z) (λbg=>(nL [([4],[])] Z)) λbg=>?_;refine bS 24 Z Z<|aQ (cH 7 Z) λaj=>?_;refine aD (iO 6 Z Z Z Z Z b.1 (by have d:=b.2;have f:=aj;(try simp only[zA1]at d);(try simp only[zA1]at f);(try simp only[zA1]);omega)) Z ?_;refine aQ (vR 7 (k:=p) Z ⟨b.1,by first|exact b.2|simpa using b.2⟩) λax=>?_;refine mP 6 7 ⟨b.1,by first|exact b.2|simpa using b.2⟩ Z Z Z Z Z (by simp) ax Z ?_;refine fH ?_;cases h;exact Em (List.set (List.set A G a0) H a1) Z Z .normal (.inr Z) (aR.ix [6,7] Z Z) aE.nil
 refine cD Z<|fI 2 Z<|a_ Z<|cD Z<|fI 2 Z<|a_ Z<|cD Z<|fI 2 Z<|a_ Z<|aU (cH 5 Z) λak=>?_;refine bQ Z (aR.cons 4 Z .nil) .nil (iO 0 Z Z Z Z Z g.1 (by have d:=g.2;have f:=ak;(try simp only[zA1]at d);(try simp only[zA1]at f);(try simp only[zA1]);omega)) aO.z ?_;refine aU (cH 5 Z) λal=>bQ Z (aR.cons 4 Z .nil) .nil (eR 0 Z Z al Z Z g) aO.z<|gE 1 Z<|cD Z<|fI 2 Z<|a_ Z<|aU (cH 5 Z) λam=>?_;refine bQ Z (aR.cons 4 Z .nil) .nil (iO 0 Z Z Z Z Z m.1 (by have d:=m.2;have f:=am;(try simp only[zA1]at d);(try simp only[zA1]at f);(try simp only[zA1]);omega)) aO.z ?_;refine aU (cH 5 Z) λan=>bQ Z (aR.cons 4 Z .nil) .nil (eR 0 Z Z an Z Z m) aO.z<|gE 0 Z<|zBd Z Z Z (cU (e:=bD) ([((n,q))]) [(0,D)] Z Z Z Z F Z Z Z) Z (λbd=>(nL [([5],[]),([5],[]),([3],[]),([2],[]),([5],[]),([5],[]),([3],[]),([3],[]),([3],[])] Z)) λbd=>zBd Z Z Z (cU (e:=bD) ([((p,q))]) [(0,C)] Z Z Z Z E Z Z Z) Z (λbe=>(nL [([2],[]),([6],[]),([6],[]),([4],[]),([6],[]),([6],[]),([4],[]),([4],[]),([4],[])] Z)) λbe=>zBd Z Z Z (lV 7 bG Z Z Z (cB (aA.res 0 Z) bG) Z Z Z Z g J Z) Z (λa2=>(nL [([2],[]),([6],[]),([6],[]),([4],[]),([4],[]),([4],[])] Z)) λa2=>zBd Z Z Z (zD (j:=n) 7 bG Z Z Z (cB (aA.res 1 Z) bG) Z Z Z Z m K Z L) Z (λa3=>(nL [([4],[]),([4],[])] Z)) λa3=>aU (cH 7 Z) λao=>?_;refine bQ Z (aR.cons 6 Z .nil) .nil (iO 0 Z Z Z Z Z a.1 (by have d:=a.2;have f:=ao;(try simp only[zA1]at d);(try simp only[zA1]at f);(try simp only[zA1]);omega)) (NG Z) ?_;refine aU (Cj (k:=n) (j:=p) 7 Z (by omega) ⟨a.1,by first|exact a.2|simpa using a.2⟩) λay=>?_;refine An Z Z Z (Bv 6 7 ⟨a.1,by first|exact a.2|simpa using a.2⟩ Z Z Z Z (by simp) ay Z) (λbh=>(nL [([4],[])] Z)) λbh=>?_;refine bS 24 Z Z<|aQ (cH 7 Z) λap=>?_;refine aD (iO 6 Z Z Z Z Z b.1 (by have d:=b.2;have f:=ap;(try simp only[zA1]at d);(try simp only[zA1]at f);(try simp only[zA1]);omega)) Z ?_;refine aQ (vR 7 (k:=p) Z ⟨b.1,by first|exact b.2|simpa using b.2⟩) λaz=>?_;refine mP 6 7 ⟨b.1,by first|exact b.2|simpa using b.2⟩ Z Z Z Z Z (by simp) az Z ?_;refine fH ?_;cases h;exact Em (List.set (List.set A G a2) H a3) Z Z .normal (.inr Z) (aR.ix [6,7] Z Z) aE.nil
def oZ (b:tV) (a:gA):Option sV:=
 some ((b.1,a))
def tY (U:Nat) (b:wB) (i:tV) (a:Int×gA) (c:(Int×gA)->Option sV):Option sV:=
 if a.1<(a.2.length:Int)then(Option.bind (sJ U b.2.1 (wI .i64 (a.1 - (1:Int)))) λd=>(Option.bind (iD U d a.1) λe=>(Option.bind (sJ U b.2.2.1 (wI .i64 (a.1 - (1:Int)))) λf=>(Option.bind (iD U f (15:Int)) λg=>(Option.bind (mW U ((b.1,b.2.1,b.2.2.1,b.2.2.2.1,b.2.2.2.2.1,b.2.2.2.2.2)) ((i.1,a.2)) e a.1 (wI .i64 ((1:Int)+g))) λh=>(c ((wI .i64 (a.1+(1:Int))),h)))))))else(oZ i (a.2))
def jG (U:Nat) (a:wB) (c:Int):Option sV:=
 Option.bind (lZ U ((a.1,a.2.1,a.2.2.1,a.2.2.2.1,a.2.2.2.2.1,a.2.2.2.2.2)) c) λb=>(bP (tY U a b) U ((1:Int),b.2))
theorem Ps:bB Tryz.prog 24:=Tryz.call24
theorem vQ (U:Nat) {p0:wB} {p1:Int} (g:Value)  (k:Value)  (n:Value) (r:tV) (h:jG U p0 p1=some r):
  bO Tryz.prog 24 #[Value.agg #[vI (p0.1),g,k,n,vB (p0.2.2.2.2.1),vB (p0.2.2.2.2.2)],vI (p1)] [Sl aJ g p0.2.1,Sl aJ k p0.2.2.1,Sl aJ n p0.2.2.2.1] (λx:Ou=>Value.agg #[x.1,x.2.1]) (λx l=>Ar eC x.1 r.1::Ar aZ.raw x.2.1 x.2.2::eH bD x.2.2 r.2::l) (λ_ l=>l):=by
 refine bO.of Tryz.func24 Z Tryz.ntmps24 Z λc=>?_;refine aX<|aI (aN.box (cs:=[vI (p0.1),g,k,n,vB (p0.2.2.2.2.1),vB (p0.2.2.2.2.2)]) Z Z) Z λu=>aI (aN.alloc (cs:=[cJ,cJ]) Z Z) Z λo=>aP<|aX<|cY 1 Z<|aB Z<|fZ h λm P h=>aI (zBc Uz (zT U g k n m P) Z (g_ [0,1,2] Z)) Z λa=>aI (aN.alloc (cs:=[cJ,cJ]) Z Z) Z λp=>aQ (Know.one ((cB (aA.res 1 Z) fO))) λv=>aQ (Know.one (aA.sl (bZ (i:=2) (j:=3) Z Z bG))) λw=>bL 0 (vs:=[a.1,a.2.1]) Z Z (dH v (dH w Z)) Z Z Z<|aP<|aM<|DN (B:=cR) (λe=>oZ m e=some r) (λe f=>[(4,vP o),(5,vP p)]) (λe f=>[bI p [a.1,a.2.1] 31,Ar eC a.1 m.1,Ar aZ.raw a.2.1 f,eH bD f e,bI o [cJ,cJ] 31]) ?_ ?_
 ·refine aX<|aH Z<|aP<|aV<|iI (B:=cR) (tY U p0 m) (λd b=>[(2,vP u),(4,vP o),(5,vP p),(6,vI (d.1))]) (λd b=>[bI p [a.1,a.2.1] 31,Ar eC a.1 m.1,Ar aZ.raw a.2.1 b,eH bD b d.2,bI o [cJ,cJ] 31,bI u [vI (p0.1),g,k,n,vB (p0.2.2.2.2.1),vB (p0.2.2.2.2.2)] 24]) ((1:Int),m.2) (a.2.2) h SF (aR.refl _) ?_;intro O d b h;refine aM<|aX<|aB Z<|cA Z<|eW 0 Z<|aD (eP Z (bZ (i:=2) (j:=3) Z Z bG) Z) Z<|dM Z<|aP ?_;refine f_ h Z (λh=>?_) λh=>?_
  ·refine dC<|aM<|aV ?_;refine JR.start [0,0,0,4,0,16,60,0,252,0,0,1024,0,4096,15868,32252,65020,131071] 17 mixedOrders (by decide +kernel) ?_;refine zBf (by exact rfl) ?_;refine gE 5 Z<|gE 0 Z<|cD Z<|fI 5 Z<|a_ Z<|i_ Z (Au Z Z)<|fZ h λy E h=>zBd Z Z Z (zBc Jf (AS U g y E) Z (g_ [0] Z)) Z (λJ=>(nL [([0],[]),([5],[])] Z)) λJ=>i_ Z (iW Z)<|fZ h λA F h=>zBd Z Z Z (zBc Dw (lO U  A F) Z .nil) Z (λK=>(nL [([0],[]),([5],[])] Z)) λK=>i_ Z (iW Z)<|i_ Z (eT Z Z Z Z Z)<|bQ Z (aR.cons 5 Z .nil) .nil (fS 0 Z Z Z Z Z) (aO.h (aR.ix [5] Z Z) .nil (aO.h (aR.ix [5] Z Z) .nil aO.z))<|i_ Z (iW Z)<|i_ Z (Au Z Z)<|fZ h λC G h=>zBd Z Z Z (zBc Jf (AS U k C G) Z (g_ [1] Z)) Z (λL=>(nL [([0],[]),([5],[])] Z)) λL=>fZ h λD H h=>zBd Z Z Z (zBc Dw (lO U  D H) Z .nil) Z (λM=>(nL [([0],[]),([5],[])] Z)) λM=>i_ Z (Co Z Z)<|bS 17 Z Z<|fZ h λt I h=>aI (Ao (Min:=[Ar aZ.raw a.2.1 b,eH bD b d.2]) (Mr:=[bI p [a.1,a.2.1] 31,Ar eC a.1 m.1,bI o [cJ,cJ] 31,bI u [vI (p0.1),g,k,n,vB (p0.2.2.2.2.1),vB (p0.2.2.2.2.2)] 24]) UA (AO U g k n a.1 a.2.1 b t I) Z (aR.ix [2,3,0,1,4,5] Z Z) (aE.cons (aA.fact 0 Z) (aE.cons (aA.fact 1 Z) (aE.cons (aA.fact 2 Z) (aE.cons (cB (aA.res 1 Z) fO) .nil)))) (λ_ _=>rfl)) Z λN=>fH<|oV<|aT<|aB Z<|dK Z<|aH Z<|aP ?_;exact iN ((wI .i64 (d.1+(1:Int))),t) (N) h SF (aR.ix [2,3,0,1,4,5] Z Z) (aE.refl _ _)
  refine gC ?_;exact cK (d.2) (b) h SF (aR.ix [0,1,2,3,4] Z Z) (aE.refl _ _)
 intro e f h;unfold oZ at h;refine aX<|cY 0 Z<|aQ (Know.one ((cB (aA.res 1 Z) fO))) λq=>aQ (Know.one (aA.sl (bZ (i:=2) (j:=3) Z Z bG))) λs=>bL 4 (vs:=[a.1,a.2.1]) Z Z (dH q (dH s Z)) Z Z Z<|aP<|aY ?_;cases h;exact jR (a.1,a.2.1,f) Z Z (RV.cell 4 Z Z Z Z) (aR.ix [1,2,3] Z Z) aE.nil
end Go.Proofs.YtflciafboapaaaaGreat
section
set_option maxRecDepth 100000
namespace Go.Gx
open Go Go.Sx Go.Proofs Go.Proofs.YtflciafboapaaaaGreat
noncomputable section
def acd (a:List GV) (H:GH):OR:=a1 a λb=>ob (UO H b) λp0=>ob (iG 1000 p0) λr=>Zw r H
def acb (a:List GV) (H:GH):OR:=a2 a λb c=>ob (abR H b) λp0=>ob (dSc .i64 c) λp1=>ob (jG 1000 p0 p1) λr=>PX r H
def Vk (f:Nat) (a:List GV) (H:GH):Option (GV×GH):=bif Nat.beq f 72 then acd a H else bif Nat.beq f 24 then acb a H else none
abbrev gl:Nat->zC:=λ_:Nat=>YH
def gp:GP:=⟨xR,94,Vk,Vj 265⟩
section
variable {T:Nat} {w0:fQ (gl T)} {w:World} {ρ:eS} {H H':GH} {g:GV} {us:List GV} {vs:List Value}
theorem Yw (h:acd us H=some (g,H')) (R:gF w0 ρ H w) (m:qF ρ us vs):n_ Tryz.prog w0 ρ 72 vs w g H':=by
 obtain⟨p,rfl,h⟩:=QF h;obtain⟨j,c,h⟩:=aF.1 h;obtain⟨r,l,h⟩:=aF.1 h;obtain⟨o,rfl,d⟩:=m.one;obtain⟨e,i,n,rfl,a,b⟩:=SQ R d c;obtain⟨rfl,rfl⟩:=PW h;exact PO Pv (BJ 1000 (p0:=j) e i n r l) R (zB0.2 ⟨a,zB0.2 ⟨b,λf k=>absurd k zB1⟩⟩) λρ=> .bool _
theorem Yv (h:acb us H=some (g,H')) (R:gF w0 ρ H w) (i:qF ρ us vs):n_ Tryz.prog w0 ρ 24 vs w g H':=by
 obtain⟨z,A,rfl,h⟩:=QG h;obtain⟨o,d,h⟩:=aF.1 h;obtain⟨p,e,h⟩:=aF.1 h;obtain⟨r,v,h⟩:=aF.1 h;obtain⟨x,vs,rfl,j,i⟩:=i.of_cons;obtain⟨y,rfl,k⟩:=i.one;obtain⟨l,m,n,rfl,a,b,c⟩:=Yi R j d;obtain rfl:=UQ k e;obtain⟨q,s,t,rfl,rfl⟩:=NW h;exact PN abU abW q s t Ps (vQ 1000 (p0:=o) (p1:=p) l m n r v) R (zB0.2 ⟨a,zB0.2 ⟨b,zB0.2 ⟨c,λf u=>absurd u zB1⟩⟩⟩)
theorem Mh {f:Nat} (h:Vk f us H=some (g,H')) (R:gF w0 ρ H w) (c:qF ρ us vs):n_ Tryz.prog w0 ρ f vs w g H':=by
 unfold Vk at h;cases a:Nat.beq f 72 with
 |true=>rw[a]at h;rw[zA4 a];exact Yw h R c
 |false=>
 rw[a]at h;cases b:Nat.beq f 24 with
 |true=>rw[b]at h;rw[zA4 b];exact Yv h R c
 |false=>
 rw[b]at h;cases h
end
theorem aaF:abT Tryz.prog xR=true:=by kernel_rfl
theorem IJ:fP Tryz.prog xR:=⟨Ov,aaE aaF⟩
theorem abc {a:zC} (b:fQ a):rX Tryz.prog b (KG xR 148 Tryz.f148):=UF IJ mixedOrders Tryz.func148 Tryz.call148 (by kernel_rfl)
theorem aaA (a:Array Value) (w:World) (c:a.size=2):CallsDIn (FR none) 0 Tryz.prog 147 a .returning w λe f g=>∃v,e = .returned v∧f = .returning∧LB w g:=by
 obtain⟨d,h,b⟩:=VS (r:=ER xR (KG xR 148 Tryz.f148) (LW Tryz.f147) (Ym xR (KG xR 148 Tryz.f148) (λ_ _ _ _=>none) (UD Tryz.f147) 0 ⟨[],0,[]⟩ (Gk [])) (LW Tryz.f147).tail ⟨[(Ye Tryz.f147,.inil)],H0⟩) (by kernel_rfl);exact SJ (ch:=KG xR 148 Tryz.f148) (lp:=λ_ _ _ _=>none) IJ mixedOrders abc HY Tryz.func147 Z Z Z (by decide +kernel) (λi w=>by simp[execOp,resolve,invoke,builtin]) (by kernel_rfl) (by kernel_rfl) Z (by rw[c];decide +kernel) h b
theorem abY {i:zC} {a:FuncId->List GV->GH->Option (GV×GH)} (o:∀(b:fQ i) {f us H g H'},a f us H=some (g,H')->∀c w d,gF b c H w->qF c us d->n_ Tryz.prog b c f d w g H') (b:fQ i):TK Tryz.prog ⟨xR,94,a,Vj 265⟩ JM.fns b:=by
 refine⟨IJ,mixedOrders,λh=> ?_,o b,λh c w d H R n=>Ys Tryz.func265 Z Z Z Z h c w d H R n,λR l j k=> ?_⟩
 ·obtain⟨e,m,h⟩:=aF.1 (show ob (RH _) _=some _ from h);cases h;obtain⟨p,q,r⟩:=Wi m;exact⟨p,q,NX r⟩
 ·exact aav (tb:=xR) (T1:=3) (T2:=47) (cc:=147) IJ Tryz.func94 Tryz.call94 Tryz.call147 Z Z Z (QL (by kernel_rfl)) (QL (by kernel_rfl)) (RQ Z Z) (RQ Z Z) (VD Z Z) (VD Z Z) aaA R l j k
theorem gok {T:Nat} (a:fQ (gl T)):TK Tryz.prog gp JM.fns a:=abY (λa f d H g c h i w e R b=>Mh h R b) a
def gp0:GP:=⟨xR,94,λ_ _ _=>none,Vj 265⟩
theorem abX (a:fQ YH):TK Tryz.prog gp0 JM.fns a:=abY (λa f c H g b h=>by cases h) a
end
end Go.Gx
end
namespace Go.Gx
open Go Go.Sx Go.RowKit
mutual
def Gt (k:Nat):GV->GV
 | .ptr h o=> .ptr (k+h) o
 | .sl h o l s=> .sl (k+h) o l s
 | .map h=> .map (k+h)
 | .fn f a b=> .fn f (TG k a) (TG k b)
 | .agg cs=> .agg (TG k cs)
 | .tup vs=> .tup (TG k vs)
 | .int a b=> .int a b
 | .bool b=> .bool b
 | .str a b=> .str a b
 | .pnil=> .pnil
 | .snil=> .snil
 | .fnil=> .fnil
 | .inil=> .inil
 | .un=> .un
 | .bad=> .bad
 | .opn h=> .opn (k+h)
def TG (k:Nat):List GV->List GV
 | []=>[]
 |v::r=>Gt k v::TG k r
end
theorem MB (k:Nat):∀(l:List GV) (i:Nat),(TG k l)[i]? = (l[i]?).map (Gt k)
 | [],i=>rfl
 |v::r,0=>rfl
 |v::r,i+1=>by simpa [TG]using MB k r i
theorem EH (k:Nat):∀(l:List GV),(TG k l).length=l.length
 | []=>rfl
 |v::r=>by simp[TG,EH k r]
def Xf (k:Nat):GO->GO
 | .cells cs=> .cells (TG k cs)
 | .mp es=> .mp (es.map λe=>(Gt k e.1,Gt k e.2))
def AN (k:Nat) (l:KA):KA:={l with o:=Xf k l.o}
theorem Rl.shift {y e:eS} {k:Nat} (c:∀h l,y h=some l->e (k+h)=some (AN k l)) {g:GV} {v:Value} (h:Rl y g v):Rl e (Gt k g) v:=by
 have d:∀{u:List GV} {j:cR},(∀(i:Nat) g v,u[i]? = some g->j[i]? = some v->Rl e (Gt k g) v)->∀(i:Nat) g v,(TG k u)[i]? = some g->j[i]? = some v->Rl e g v:=by
  intro u j D i g v x E;rw[MB]at x;obtain⟨z,A,rfl⟩:=Option.map_eq_some_iff.1 x;exact D i z v A E
 induction h with
 |int a n=>simp only[Gt];exact .int a n
 |bool b=>simp only[Gt];exact .bool b
 |str s=>simp only[Gt];exact .str s
 |ptr t h=>simp only[Gt];exact .ptr (l:=AN k _) t (c _ _ h)
 |pnil=>simp only[Gt];exact .pnil
 |sl h C B=>simp only[Gt];exact .sl (l:=AN k _) (c _ _ h) C B
 |snil=>simp only[Gt];exact .snil
 |map h=>simp only[Gt];exact .map (l:=AN k _) (c _ _ h)
 |fn f m w o G q r=>simp only[Gt];exact .fn f (by rw[EH];exact m) (d q) (by rw[EH];exact o) (d r)
 |fnil=>simp only[Gt];exact .fnil
 |inil=>simp only[Gt];exact .inil
 |agg m w o p=>simp only[Gt];exact .agg (by rw[EH];exact m) (d p) o
 |tup m w p=>simp only[Gt];exact .tup (by rw[EH];exact m) (d p)
 |un=>simp only[Gt];exact .un
 |bad v=>simp only[Gt];exact .bad v
 |opn v h F=>simp only[Gt];exact .opn (l:=AN k _) v (c _ _ h) F
abbrev OL:=List (Nat×Nat×GO)
def TF:OL->Nat->Option (Nat×GO)
 | [],_=>none
 |x::r,h=>if h=x.1 then some x.2 else TF r h
theorem Mn {b:OL} {h:Nat} {p:Nat×GO} (a:TF b h=some p):(h,p)∈b:=by
 induction b with
 |nil=>cases a
 |cons x r c=>
  simp only[TF]at a;split at a
  ·rename_i e;cases a;subst e;exact zAb
  ·exact zAj _ (c a)
noncomputable def Oc (k:Nat) (t:Tr (Nat×GO)):OL->Tr (Nat×GO)
 | []=>t
 |x::r=>(Oc k t r).set (some (k+x.2.1,Xf k x.2.2)) (k+x.1)
noncomputable def YO:OL->Tr (Nat×GO)
 | []=> .lf
 |x::r=>(YO r).set (some x.2) x.1
theorem DR:∀(a:OL) (h:Nat),(YO a).get h=TF a h
 | [],h=>rfl
 |x::r,h=>by
  show((YO r).set (some x.2) x.1).get h=_;rw[sB];simp only[TF];split
  ·rfl
  ·exact DR r h
theorem JL (k:Nat) (t:Tr (Nat×GO)):∀(b:OL) (h:Nat),(Oc k t b).get h=if k<=h then(match TF b (h - k)with|some p=>some (k+p.1,Xf k p.2)|none=>t.get h)else t.get h
 | [],h=>by simp[Oc,TF]
 | x :: r, h => by
  show((Oc k t r).set (some (k+x.2.1,Xf k x.2.2)) (k+x.1)).get h=_;rw[sB,JL k t r h];by_cases e:h=k+x.1
  ·subst e;rw[if_pos Z,if_pos (by omega)];simp[TF]
  ·rw[if_neg e];by_cases a:k<=h
   ·rw[if_pos a,if_pos a];simp only[TF];rw[if_neg (show¬h - k=x.1 by omega)]
   ·rw[if_neg a,if_neg a]
noncomputable def FH (n:Nat) (a:OL):GH:=⟨n,YO a⟩
noncomputable def GH.load (H:GH) (n:Nat) (a:OL):GH:=⟨H.n+n,Oc H.n H.t a⟩
section
variable {gs:zC} {w0:fQ gs} {w w':World} {ρ ρ2:eS} {H:GH} {n:Nat} {os:OL}
theorem hJ {H:GH} {h:Nat} {o:GO}:H.get h=some o↔∃v,H.t.get h=some (v,o):=by
 unfold GH.get;cases c:H.t.get h with
 |none=>simp[ob]
 |some p=>obtain⟨a,b⟩:=p;simp[ob]
theorem rZ {H:GH} {h v:Nat}:H.ver h=some v↔∃o,H.t.get h=some (v,o):=by
 unfold GH.ver;cases c:H.t.get h with
 |none=>simp[ob]
 |some p=>obtain⟨a,b⟩:=p;simp[ob]
theorem gF.sub {d:GH} (R:gF w0 ρ H w) (z:d.n=H.n) (m:∀h p,d.t.get h=some p->H.t.get h=some p):gF w0 ρ d w:=by
 have g:∀h o,d.get h=some o->H.get h=some o:=λh o i=>by
  obtain⟨v,j⟩:=hJ.1 i;exact hJ.2 ⟨v,m _ _ j⟩
 refine⟨R.ext,λh o i=>R.live h o (g h o i),λh q o y l u e f=>R.inj h q o y l u (g _ _ e) (g _ _ f),λh r=>R.fresh h (by omega),λh r=>R.dense h (by omega),λh v l j s=> ?_,R.env⟩
 obtain⟨o,k⟩:=rZ.1 j;obtain⟨x,a,b,c⟩:=R.vers h v l (rZ.2 ⟨o,m _ _ k⟩) s;refine⟨x,a,b,?_⟩
 have e:=hJ.2 ⟨v,k⟩;have f:=g _ _ e;rw[c]at f;cases f;exact e
theorem xT.shift {l:KA} {o:GO} {f:eS} {k:Nat} (d:∀h l,ρ2 h=some l->f (k+h)=some (AN k l)) (h:xT ρ2 w l o):xT f w (AN k l) (Xf k o):=by
 cases o with
 |cells z=>
  obtain⟨j,T,r,s,t,y⟩:=h;refine⟨j,T,r,s,by rw[EH];exact t,λi g e=> ?_⟩
  rw[MB]at e;obtain⟨p,q,rfl⟩:=Option.map_eq_some_iff.1 e;obtain⟨v,a,b,c⟩:=y i p q;exact⟨v,a,b.shift d,c⟩
 |mp A=>
  obtain⟨x,u,r,s,t⟩:=h;refine⟨x,u,r,by simpa [Xf]using s,λi g e=> ?_⟩
  rw[List.getElem?_map]at e;obtain⟨p,q,rfl⟩:=Option.map_eq_some_iff.1 e;obtain⟨m,a,b,c⟩:=t i p q;exact⟨m,a,b.shift d,c.shift d⟩
theorem gF.join {Y:zC} {hb:IP Y w λ_=>False} (R:gF w0 ρ H w) (M:gF (fQ.of w hb) ρ2 (FH n os) w'):
  ∃s:eS,ρ.le s∧gF w0 s (H.load n os) w'∧∀g v,Rl ρ2 g v->Rl s (Gt H.n g) v:=by
 let s:eS:=λh=>if h<H.n then ρ h else(ρ2 (h - H.n)).map (AN H.n);have G:ρ.le s:=λh l f=>by
  have ac:h<H.n:=by
   rcases zAs h H.n with q|q
   ·exact q
   ·rw[R.fresh h q]at f;cases f
  show(if h<H.n then ρ h else _)=_;rw[if_pos ac];exact f
 have K:∀h l,ρ2 h=some l->s (H.n+h)=some (AN H.n l):=λh l f=>by
  show(if H.n+h<H.n then _ else _)=_;rw[if_neg (by omega),show H.n+h - H.n=h by omega,f];rfl
 have k:∀h,h<H.n->s h=ρ h:=λh u=>by show(if h<H.n then ρ h else _)=_;rw[if_pos u]
 have d:∀h,H.n<=h->s h=(ρ2 (h - H.n)).map (AN H.n):=λh u=>by show(if h<H.n then ρ h else _)=_;rw[if_neg (by omega)]
 have J:∀h,H.n<=h->H.t.get h=none:=λh u=>by
  cases y:H.t.get h with
  |none=>rfl
  |some p=>exact absurd (R.lt (hJ.2 ⟨p.1,y⟩)) (by omega)
 have X:∀h,h<H.n->(H.load n os).t.get h=H.t.get h:=λh u=>by
  show(Oc H.n H.t os).get h=_;rw[JL,if_neg (by omega)]
 have gh:∀h p,H.n<=h->(H.load n os).t.get h=some p->∃x,(FH n os).t.get (h - H.n)=some x∧p=(H.n+x.1,Xf H.n x.2):=λh p u hp=>by
  have A:(Oc H.n H.t os).get h=some p:=hp;rw[JL,if_pos u,J h u]at A;cases hk:TF os (h - H.n)with
  |none=>rw[hk]at A;cases A
  |some x=>rw[hk]at A;cases A;exact⟨x,(DR os _).trans hk,rfl⟩
 have W:LB w w':=M.ext.ext;have L:∀l:KA,(fQ.of w hb).mine l.b->w.heap.size<=l.b:=λl h=>by
  rcases h with h|h
  ·exact h
  ·exact h.elim
 have r:∀h o,h<H.n->(H.load n os).get h=some o->∃l,ρ h=some l∧w0.mine l.b∧xT ρ w l o∧H.get h=some o:=λh o u y=>by
  obtain⟨v,N⟩:=hJ.1 y;rw[X h u]at N;have z:=hJ.2 ⟨v,N⟩;obtain⟨l,a,b,c⟩:=R.live h o z;exact⟨l,a,b,c,z⟩
 have m:∀h o,H.n<=h->(H.load n os).get h=some o->∃l O,ρ2 (h - H.n)=some l∧w.heap.size<=l.b∧xT ρ2 w' l O∧o=Xf H.n O∧(FH n os).get (h - H.n)=some O:=λh o u y=>by
  obtain⟨v,N⟩:=hJ.1 y;obtain⟨x,E,e⟩:=gh h _ u N;cases e;have z:(FH n os).get (h - H.n)=some x.2:=hJ.2 ⟨x.1,E⟩;obtain⟨l,a,b,c⟩:=M.live _ _ z;exact⟨l,x.2,a,L l b,c,rfl,z⟩
 refine⟨s,G,⟨R.ext.trans W,λh o y=> ?_,λh B o U l l' V E f j F=> ?_,λh u=> ?_,λh u=> ?_,λh v l N f=> ?_,λi v e=>let ⟨l,a,b⟩:=R.env i v e;⟨l,G _ _ a,b⟩⟩,λg v y=>y.shift K⟩
 ·rcases zAs h H.n with q|q
  ·obtain⟨l,a,b,c,_⟩:=r h o q y;exact⟨l,by rw[k h q];exact a,b,c.move G (W.block _ c.lt)⟩
  ·obtain⟨l,O,a,b,c,rfl,_⟩:=m h o q y;exact⟨AN H.n l,by rw[d h q,a];rfl,.inl (zAx R.ext.size b),c.shift K⟩
 ·rcases zAs h H.n with q|q<;>rcases zAs B H.n with I|I
  ·obtain⟨l1,C,_,_,P⟩:=r h o q V;obtain⟨T,D,_,_,Q⟩:=r B U I E;rw[k h q,C]at f;rw[k B I,D]at j;cases f;cases j;exact R.inj h B o U _ _ P Q C D F
  ·obtain⟨l1,C,_,c1,P⟩:=r h o q V;obtain⟨T,O,D,b2,_,rfl,Q⟩:=m B U I E;rw[k h q,C]at f;rw[d B I,D]at j;cases f;cases j;have:=c1.lt;simp only[AN]at F;omega
  ·obtain⟨l1,o1,C,b1,_,rfl,P⟩:=m h o q V;obtain⟨T,D,_,c2,Q⟩:=r B U I E;rw[d h q,C]at f;rw[k B I,D]at j;cases f;cases j;have:=c2.lt;simp only[AN]at F;omega
  ·obtain⟨l1,o1,C,b1,_,rfl,P⟩:=m h o q V;obtain⟨T,O,D,b2,_,rfl,Q⟩:=m B U I E;rw[d h q,C]at f;rw[d B I,D]at j;cases f;cases j;have:=M.inj _ _ _ _ _ _ P Q C D F;omega
 ·have aa:H.n+n<=h:=u;rw[d h (by omega),M.fresh (h - H.n) (by show n<=_;omega)];rfl
 ·have aa:h<H.n+n:=u;rcases zAs h H.n with q|q
  ·obtain⟨l,f⟩:=R.dense h q;exact⟨l,by rw[k h q];exact f⟩
  ·obtain⟨l,f⟩:=M.dense (h - H.n) (by show _<n;omega);exact⟨AN H.n l,by rw[d h q,f];rfl⟩
 ·obtain⟨o,S⟩:=rZ.1 N;rcases zAs h H.n with q|q
  ·rw[X h q]at S;rw[k h q]at f;obtain⟨lv,a,b,c⟩:=R.vers h v l (rZ.2 ⟨o,S⟩) f;have y:=hJ.2 ⟨v,S⟩;obtain⟨l',j,_,ck⟩:=R.live h o y;rw[f]at j;cases j;refine⟨lv,G _ _ a,by rw[W.block _ ck.lt];exact b,?_⟩
   obtain⟨v2,ad⟩:=hJ.1 c;exact hJ.2 ⟨v2,by rw[X h q];exact ad⟩
  ·obtain⟨x,E,e⟩:=gh h _ q S;cases e;rw[d h q]at f;obtain⟨T,ab,rfl⟩:=Option.map_eq_some_iff.1 f;obtain⟨lv,a,b,c⟩:=M.vers (h - H.n) x.1 T (rZ.2 ⟨x.2,E⟩) ab;refine⟨AN H.n lv,K _ _ a,b,?_⟩
   have h3:(FH n os).get (h - H.n)=some x.2:=hJ.2 ⟨x.1,E⟩;rw[c]at h3;have h4:=Option.some.inj h3;exact hJ.2 ⟨_,by rw[S,<-h4];rfl⟩
end
theorem UZ {a b:Nat×Nat} (h:OM a b=true):a=b:=by
 obtain⟨f,d⟩:=a;obtain⟨g,e⟩:=b;unfold OM at h;cases c:Nat.beq d e with
 |false=>simp[c]at h
 |true=>
  simp only[c,cond_true]at h;rw[zA4 h,zA4 c]
theorem Qf {c:eS} {n l:Nat} {x:ByteArray} (a:n=lR (bR x)) (b:l=(bR x).length):Rl c (.str n l) (.string x):=by
 rw[a,b];exact .str x
def isS (a:List GV) (p:Nat×Nat):Bool:=List.casesOn (motive:=λ_=>Bool) a false λu r=>List.casesOn (motive:=λ_=>Bool) r (Option.casesOn (motive:=λ_=>Bool) (GV.asStr u) false λs=>OM s p) λ_ _=>false
theorem aaP {b:List GV} {p:Nat×Nat} (h:isS b p=true):b=[.str p.1 p.2]:=by
 cases b with
 |nil=>cases h
 | cons u r =>
  cases r with
  |cons _ _=>cases h
  | nil =>
   cases a:GV.asStr u with
   |none=>simp[isS,a]at h
   |some s=>
    have:OM s p=true:=by simpa [isS,a]using h
    rw[pI a,UZ this]
noncomputable section
def VW (H:GH) (a:List Nat):Option OL:=List.rec (motive:=λ_=>Option OL) (some []) (λh _ b=>ob (H.t.get h) λp=>ob b λr=>some ((h,p.1,p.2)::r)) a
theorem Hv {H:GH}:∀{c:List Nat} {b:OL},VW H c=some b->∀x∈b,H.t.get x.1=some x.2
 | [],b,h,x,a=>by cases h;cases a
 |h0::c,b,h,x,a=>by
  obtain⟨p,d,h⟩:=aF.1 (show ob (H.t.get h0) (λp=>ob (VW H c) λr=>some ((h0,p.1,p.2)::r))=some b from h);obtain⟨r,e,h⟩:=aF.1 h;cases h;rcases zAm.1 a with rfl|a
  ·exact d
  ·exact Hv e x a
def Ru (T:FL) (G:GP) (a f:Nat) (d:List GV) (b:List Nat):Option (GV×Nat×OL):=ob (Ji T G a f d H0) λr=>ob (VW r.2 b) λc=>some (r.1,r.2.n,c)
def shK {R:Type} (k:Nat) (v:GV) (f:GV->R):R:=GV.casesOn (motive_1:=λ_=>R) v (λa b=>f (.int a b)) (λb=>f (.bool b)) (λa b=>f (.str a b)) (λh o=>sn (Nat.add k h) λh=>f (.ptr h o)) (f .pnil) (λh o l s=>sn (Nat.add k h) λh=>f (.sl h o l s)) (f .snil) (λh=>sn (Nat.add k h) λh=>f (.map h)) (λa b c=>f (Gt k (.fn a b c))) (f .fnil) (f .inil) (λd=>f (Gt k (.agg d))) (λe=>f (Gt k (.tup e))) (f .un) (f .bad) (λh=>sn (Nat.add k h) λh=>f (.opn h))
theorem Wx {R:Type} (k:Nat) (v:GV) (f:GV->R):shK k v f=f (Gt k v):=by
 cases v<;>simp[shK,v_,Gt]
def abi {R:Type} (k:Nat) (l:List GV):(List GV->R)->R:=List.rec (motive:=λ_=>(List GV->R)->R) (λf=>f []) (λx _ a f=>shK k x λy=>a λr=>f (y::r)) l
theorem RN {R:Type} (k:Nat):∀(l:List GV) (f:List GV->R),abi k l f=f (TG k l)
 | [],f=>rfl
 |x::l,f=>by
  show shK k x (λy=>abi k l λr=>f (y::r))=_;rw[Wx,RN k l];rfl
def abj {R:Type} (k:Nat) (o:GO) (f:GO->R):R:=GO.casesOn (motive:=λ_=>R) o (λa=>abi k a λa=>f (.cells a)) (λb=>f (Xf k (.mp b)))
theorem Za {R:Type} (k:Nat) (o:GO) (f:GO->R):abj k o f=f (Xf k o):=by
 cases o with
 |cells a=>exact RN k a _
 |mp b=>rfl
def aba {R:Type} (k:Nat) (t:Tr (Nat×GO)) (b:OL):(Tr (Nat×GO)->R)->R:=List.rec (motive:=λ_=>(Tr (Nat×GO)->R)->R) (λf=>f t) (λx _ a f=>a λt=>sn (Nat.add k x.2.1) λv=>sn (Nat.add k x.1) λh=>abj k x.2.2 λo=>t.setK (some (v,o)) h f) b
theorem RE {R:Type} (k:Nat) (t:Tr (Nat×GO)):∀(a:OL) (f:Tr (Nat×GO)->R),aba k t a f=f (Oc k t a)
 | [],f=>rfl
 |x::a,f=>by
  show aba k t a (λt=>sn (Nat.add k x.2.1) λv=>sn (Nat.add k x.1) λh=>abj k x.2.2 λo=>t.setK (some (v,o)) h f)=_;rw[RE k t a];simp only[v_,Za,Cm];rfl
def Rt (g:GV) (n:Nat) (a:OL) (H:GH):Option (GV×GH):=sn H.n λk=>shK k g λg=>aba k H.t a λt=>sn (Nat.add k n) λm=>some (g,⟨m,t⟩)
theorem VI (g:GV) (n:Nat) (a:OL) (H:GH):Rt g n a H=some (Gt H.n g,H.load n a):=by
 unfold Rt;simp only[v_,Wx,RE];rfl
theorem YF {P:Program} {T:FL} {G:GP} {gs gs2:zC} (j:gs2.obs=gs.obs) (d:gs2.env=[]) (M:IW T G.tab) (L:∀m:fQ gs2,TK P G T.fns m) {a f n:Nat} {y:List GV} {z:List Value} {O:List Nat} {g:GV} {c:OL} (i:Ru T G a f y O=some (g,n,c)) (C:bB P f)
  {m:fQ gs} {w:World} {F:eS} {H o:GH} {B:GV} (Q:qF (λ_=>none) y z) (h:Rt g n c H=some (B,o)) (R:gF m F H w):n_ P m F f z w B o:=by
 rw[VI]at h;cases h;obtain⟨r,D,i⟩:=aF.1 (show ob (Ji T G a f y H0) _=some (g,n,c)from i);obtain⟨S,s,i⟩:=aF.1 i;cases i;rw[FU M]at D;have b:IP gs2 w λ_=>False:=λp t=>⟨(R.glo p (j▸t)).1,id⟩
 rcases Jg L (H':=r.2) (g:=r.1) D (gF.start (fQ.of w b) d) Q with⟨v,E,l,k,_⟩|⟨_,N⟩
 ·have:=C z.toArray w;rw[show(fQ.of w b).w=w from rfl,this]at k;cases k
 ·refine .inr ⟨C _ w,N.mono ?_⟩;rintro e E ⟨v,A,rfl,_,I,u⟩;have J:gF (fQ.of w b) A (FH r.2.n c) E:=I.sub Z λh p t=>by
   have:TF c h=some p:=(DR c h).symm.trans t;exact Hv s _ (Mn this)
  obtain⟨l,q,K,x⟩:=R.join J;exact⟨v,l,rfl,q,K,x _ _ u⟩
theorem K_ {P:Program} {T:FL} {G:GP} {gs:zC} (y:IW T G.tab) (x:∀H:fQ gs,TK P G T.fns H) {a f n:Nat} {m:List GV} {o:List Value} {D:List Nat} {g:GV} {j:OL} (d:Ru T G a f m D=some (g,n,j)) (z:bB P f)
  (E:qF (λ_=>none) m o) (B:gs.env=[]) (b:fQ gs):Calls P f o.toArray b.w λe q=>∃v c,e = .returned v∧gF b c (FH n j) q∧Rl c g v:=by
 obtain⟨r,t,d⟩:=aF.1 (show ob (Ji T G a f m H0) _=some (g,n,j)from d);obtain⟨F,k,d⟩:=aF.1 d;cases d;rw[FU y]at t;rcases Jg x (H':=r.2) (g:=r.1) t (gF.start b B) E with⟨v,q,c,i,_⟩|⟨_,A⟩
 ·have:=z o.toArray b.w;rw[this]at i;cases i
 ·refine A.mono ?_;rintro e q ⟨v,s,rfl,_,u,l⟩;exact⟨v,s,rfl,u.sub Z λh p C=>by
   have:TF j h=some p:=(DR j h).symm.trans C;exact Hv k _ (Mn this),l⟩
end
theorem JD {P:Program} {gs:Nat->zC} {L:List bA} (D:∀w S,(∀h∈L,h.p w S)->∃T,IP (gs T) w λ_=>False) {f n:Nat} {z:List Value} {g:GV} {y:OL}
  (h:∀T (b:fQ (gs T)),Calls P f z.toArray b.w λe s=>∃v c,e = .returned v∧gF b c (FH n y) s∧Rl c g v) {A:Type} {o:A->Value} {LO:A->List bA}
  (d:∀T (b:fQ (gs T)) (B:eS) (w:World) (V:Value),(∀k,b.mine k->b.w.heap.size<=k)->gF b B (FH n y) w->Rl B g V->∃x:A,V=o x∧∀q∈LO x,q.p w (λk=>b.w.heap.size<=k)):
  bO P f z.toArray L o (λ_ l=>l) (λx l=>LO x++l):=by
 intro t C H;obtain⟨T,u⟩:=D t C H;refine(h T (.of t u)).mono ?_;rintro e s ⟨v,c,rfl,R,G⟩;obtain⟨x,rfl,F⟩:=d T (.of t u) c s v (λk r=>r.elim id False.elim) R G;refine⟨x,rfl,R.ext,λ_ _=>False,⟨λi m E=>by simp at E,λi k h=>h.elim,λi j k h=>h.elim⟩,λq a=> ?_⟩
 have a:q∈LO x++[]:=a;rw[List.append_nil]at a;exact bA.wide (F q a) (λk r=>⟨.inr (.inl r),λi h=>h.elim⟩)
noncomputable def Fl (s:ByteArray):Nat×Nat:=(lR (bR s),(bR s).length)
theorem Jp {a b:ByteArray} (h:Fl a=Fl b):a=b:=by
 have c:=UY a b;unfold Fl at h;rw[h]at c;have e:OM (lR (bR b),(bR b).length) (lR (bR b),(bR b).length)=true:=by simp[OM]
 rw[e]at c;have d:a.toList=b.toList:=eq_of_beq c.symm;rw[Lib.toList_data,Lib.toList_data]at d;obtain⟨⟨x⟩⟩:=a;obtain⟨⟨y⟩⟩:=b;simp only at d;rw[d]
noncomputable def UR (a:List GV):Option (Nat×Nat):=List.casesOn (motive:=λ_=>Option (Nat×Nat)) a none λc r=>List.casesOn (motive:=λ_=>Option (Nat×Nat)) r c.asStr λ_ _=>none
abbrev abd:d_ ByteArray:=⟨1,Nat.one_pos,λ_ _ a x=>a=[.string x],λh=>by simp[h],λh _=>h⟩
theorem eO.str {S:Nat->Prop} {g:eS} {w:World}:eO S g w UR abd Fl:=λgs f y a h _=>by
 cases gs with
 |nil=>cases h
 |cons c gs=>
 cases gs with
 |cons _ _=>cases h
 |nil=>
 have h:c.asStr=some y:=h;obtain⟨v,f,rfl,b,a⟩:=a.of_cons;rw[a.of_nil];rw[pI h]at b;obtain⟨x,rfl,d,e⟩:=b.str_inv;exact⟨x,by unfold Fl;rw[<-d,<-e],rfl⟩
theorem RR {c:eS} {V:Value} {n l:Nat} {s:ByteArray} (h:Rl c (.str n l) V) (e:Fl s=(n,l)):V = .string s:=by
 obtain⟨x,rfl,a,b⟩:=h.str_inv;have:Fl x=Fl s:=by rw[e];unfold Fl;rw[<-a,<-b]
 rw[Jp this]
theorem BE {c:Type}:∀a b:c,id a=id b->a=b:=λ_ _ h=>h
theorem uG {c d e i:Type} {f:c->e} {g:d->i} (j:∀a b,f a=f b->a=b) (k:∀a b,g a=g b->a=b):∀a b:c×d,(λz:c×d=>(f z.1,g z.2)) a=(λz:c×d=>(f z.1,g z.2)) b->a=b:=λa b h=>by
 obtain⟨l,m⟩:=a;obtain⟨n,o⟩:=b;simp only[Prod.mk.injEq]at h;rw[j _ _ h.1,k _ _ h.2]
theorem Fv {g i:Type} {f:g->i} (e:∀a b,f a=f b->a=b):∀{c d:List g},c.map f=d.map f->c=d
 | [],[],_=>rfl
 | [],_::_,h=>by simp at h
 |_::_,[],h=>by simp at h
 |a::c,b::d,h=>by
  simp only[zBa,List.cons.injEq]at h;rw[e _ _ h.1,Fv e h.2]
end Go.Gx
section
set_option maxRecDepth 100000
namespace Go.Gx
open Go Go.Sx Go.Proofs Go.Proofs.YtflciafboapaaaaGreat
def Ho (l:List Nat):List GV:=l.map λn=> .int .i64 (.ofNat n)
abbrev aaM:Nat:=6706143830449764899556809608818904919804074884937111603718476495539622089622860971527792587791047894922729163212717263328395231852300855536488424978955807703755604513825873373095632290149847090083112304426652546340939400726262280257803792487332445892473582856512649637013408585975292850644760247287299230258062944610265801223788397479914840704983105145953743025358843726328641031619437354017789814719882883570583131354112070717477863523377784965938515931160728579383844655360852857429048595849656685311997067516701048769715945338084683118784715135226216982869351630641616464718832441949492048937096570154901286325463543707328254906190863546417377904
def mu0:List GV:=[.str aaM 270]
def mg0:GV:=(.agg [(.str 7562850 3),(.sl 1176 0 2 6),(.sl 2078 0 2 3)])
def VK:OL:=[(1176,1176,.cells [(.str 100 1),(.int .i64 (.ofNat 1)),(.int .i64 (.ofNat 0)),(.int .i64 (.ofNat 0)),(.int .i64 (.ofNat 1)),(.int .i64 (.ofNat 0)),(.str 112 1),(.int .i64 (.ofNat 3)),(.int .i64 (.ofNat 0)),(.int .i64 (.ofNat 0)),(.int .i64 (.ofNat 0)),(.int .i64 (.ofNat 0))]),
 (1300,1300,.cells (Ho [41,0,10,0,42,0,36,0,5,0,1,0,36,0,5,1,4,0])),
 (1326,1326,.cells [(.int .i64 (.ofNat 1)),(.int .i64 (.ofNat 0))]),
 (1359,1359,.cells [(.int .i64 (.ofNat 4)),(.int .i64 (.ofNat 0))]),
 (1367,1367,.cells [(.int .i64 (.ofNat 0)),(.sl 1326 0 1 2),(.int .i64 (.ofNat 1)),(.sl 1359 0 1 2)]),
 (1755,1755,.cells (Ho [41,0,19,0,10,0,42,0,36,0,5,0,43,0,37,0,24,0,12,0,6,0,33,0,24,0,12,0,1,1,6,0,36,0,5,1,23,0,35,0,12,0,24,0,12,0])),
 (1936,1936,.cells (Ho [43,0,37,0,24,0,12,0,6,0,33,0,24,0,12,0,1,1,6,0])),
 (2062,2062,.cells (Ho [23,0,35,0,12,0,24,0,12,0])),
 (2070,2070,.cells [(.int .i64 (.ofNat 0)),(.sl 1936 0 10 2),(.int .i64 (.ofNat 1)),(.sl 2062 0 5 2)]),
 (2078,2078,.cells [(.str 7368564 3),(.sl 1300 0 9 2),(.sl 1367 0 2 2),(.str 7827308 3),(.sl 1755 0 23 2),(.sl 2070 0 2 2)])]
set_option maxHeartbeats 4000000 in
theorem me0:Ru JM gp 4000 9 mu0 [1176,1300,1326,1359,1367,1755,1936,2062,2070,2078]=some (mg0,3136,VK):=by kernel_rfl
noncomputable def PI (f:Nat) (a:List GV) (H:GH):Option (GV×GH):=bif Nat.beq f 9 then(bif isS a (aaM,270)then Rt mg0 3136 VK H else Vk f a H)else Vk f a H
noncomputable def aca:GP:=⟨xR,gp.cat,PI,gp.exn⟩
theorem SZ {T:Nat} {k:fQ (gl T)} {w:World} {e:eS} {H i:GH} {g:GV} {d:List GV} {j:cR} {f:Nat} (h:PI f d H=some (g,i)) (R:gF k e H w) (a:qF e d j):n_ Tryz.prog k e f j w g i:=by
 unfold PI at h;cases b:Nat.beq f 9 with
 |false=>rw[b]at h;exact Mh h R a
 | true =>
  rw[b]at h;cases c:isS d (aaM,270)with
  |false=>rw[c]at h;exact Mh h R a
  |true=>
   rw[c]at h;rw[zA4 b];rw[aaP c]at a;obtain⟨V,rfl,n⟩:=a.one;obtain⟨x,rfl,l,m⟩:=n.str_inv;exact YF (gs:=gl T) (gs2:=gl T) Z Z Gm gok me0 Tryz.call9 (qF.cons (Qf l m) .nil) h R
theorem abZ {T:Nat} (a:fQ (gl T)):TK Tryz.prog aca JM.fns a:=⟨(gok a).tab,(gok a).mixed,(gok a).fns,λh d w c R b=>SZ h R b,(gok a).exn,(gok a).cat⟩
abbrev adY:Nat:=2782272544148574329703548915484139416562471587372346629090892429547018860149309682118537811771073185556707760590527461846276004869770941806974104689717583530206048895217444112283498148464
def mu1:List GV:=[.str adY 78]
def mg1:GV:=(.agg [(.str 1907970655657516625763 9),(.sl 328 0 1 6),(.sl 491 0 1 3)])
def Xe:OL:=[(328,328,.cells [(.str 99 1),(.int .i64 (.ofNat 1)),(.int .i64 (.ofNat 0)),(.int .i64 (.ofNat 0)),(.int .i64 (.ofNat 1)),(.int .i64 (.ofNat 0))]),
 (410,410,.cells (Ho [21,0,35,0,12,0,5,0])),
 (475,475,.cells (Ho [27,0,12,0])),
 (483,483,.cells [(.int .i64 (.ofNat 0)),(.sl 475 0 2 2)]),
 (491,491,.cells [(.str 7891302 3),(.sl 410 0 4 2),(.sl 483 0 1 2)])]
set_option maxHeartbeats 4000000 in
theorem me1:Ru JM aca 4000 9 mu1 [328,410,475,483,491]=some (mg1,651,Xe):=by kernel_rfl
end Go.Gx
end
namespace Go.Gx
open Go Go.Sx Go.RowKit
structure Hd (n:Nat) (os:OL) (ρ:eS) (w:World) (S:Nat->Prop):Prop where
 live:∀h o,(FH n os).get h=some o->∃l,ρ h=some l∧S l.b∧xT ρ w l o
 inj:∀h h' o o' l l',(FH n os).get h=some o->(FH n os).get h'=some o'->ρ h=some l->ρ h'=some l'->l.b=l'.b->h=h'
 fresh:∀h,n<=h->ρ h=none
 dense:∀h,h<n->∃l,ρ h=some l
 vers:∀h v l,(FH n os).ver h=some v->ρ h=some l->∃lv,ρ v=some lv∧w.heap[l.b]? = some lv.x∧(FH n os).get h=some lv.o
theorem Hd.mono {n:Nat} {p:OL} {f:eS} {w w':World} {S g:Nat->Prop} (H:Hd n p f w S) (h:∀k,S k->k<w.heap.size->g k∧w'.heap[k]? = w.heap[k]?):Hd n p f w' g:=by
 refine⟨λk o s=> ?_,H.inj,H.fresh,H.dense,λk v l m j=> ?_⟩
 ·obtain⟨l,a,b,c⟩:=H.live k o s;obtain⟨d,e⟩:=h _ b c.lt;exact⟨l,a,d,c.move (eS.le_refl f) e⟩
 ·obtain⟨u,a,b,c⟩:=H.vers k v l m j;obtain⟨o,t⟩:=rZ.1 m;obtain⟨x,i,q,r⟩:=H.live k o (hJ.2 ⟨v,t⟩);rw[j]at i;cases i;exact⟨u,a,by rw[(h _ q r.lt).2];exact b,c⟩
theorem gF.hd {gs:zC} {b:fQ gs} {n:Nat} {d:OL} {ρ:eS} {w:World} {S:Nat->Prop} (R:gF b ρ (FH n d) w) (e:∀k,b.mine k->S k):Hd n d ρ w S:=
 ⟨λh o f=>let ⟨l,a,b,c⟩:=R.live h o f;⟨l,a,e _ b,c⟩,R.inj,R.fresh,R.dense,R.vers⟩
def MY (n:Nat) (b:OL) (g:GV) (V:Value):bA where
 p w S:=∃a,Hd n b a w S∧Rl a g V
 mono:=fun⟨a,h,r⟩ k=>⟨a,h.mono k,r⟩
def Hd.O (n:Nat) (a:OL) (c:eS) (k:Nat):Prop:=∃h o l,(FH n a).get h=some o∧c h=some l∧l.b=k
def Hd.base (n:Nat) (a:OL) (ρ:eS) (w:World):fQ YH:=⟨w,Hd.O n a ρ,λ_ h=>absurd h zB1⟩
theorem Hd.rel {n:Nat} {b:OL} {ρ:eS} {w:World} {S:Nat->Prop} (H:Hd n b ρ w S):gF (Hd.base n b ρ w) ρ (FH n b) w:=
 ⟨BO.refl w,λh o d=>let ⟨l,a,_,c⟩:=H.live h o d;⟨l,a,.inr ⟨h,o,l,d,a,rfl⟩,c⟩,H.inj,H.fresh,H.dense,H.vers,λi v e=>by simp[Hd.base,YH]at e⟩
noncomputable def EV (H:GH) (b:OL):Bool:=List.rec (motive:=λ_=>Bool) true (λx _ a=>Option.casesOn (motive:=λ_=>Bool) (H.ver x.1) false λv=>bif Nat.beq v x.2.1 then a else false) b
theorem Oj {H:GH}:∀{a:OL},EV H a=true->∀x∈a,H.ver x.1=some x.2.1
 | [],_,x,b=>by cases b
 | y :: a, h, x, b => by
  have h:Option.casesOn (motive:=λ_=>Bool) (H.ver y.1) false (λv=>bif Nat.beq v y.2.1 then EV H a else false)=true:=h;cases c:H.ver y.1 with
  |none=>rw[c]at h;cases h
  | some v =>
   rw[c]at h;obtain⟨d,f⟩:=bW.1 (show(bif Nat.beq v y.2.1 then(some (EV H a))else none)=some true by
    have h:(bif Nat.beq v y.2.1 then EV H a else false)=true:=h;cases e:Nat.beq v y.2.1<;>rw[e]at h<;>first|cases h|(show some (EV H a)=some true;rw[show EV H a=true from h]))
   rcases zAm.1 b with rfl|b
   ·rw[c,zA4 d]
   ·exact Oj (Option.some.inj f) x b
noncomputable def okV (a:OL) (r:OR):Bool:=Option.casesOn (motive:=λ_=>Bool) r false λr=>Option.casesOn (motive:=λ_=>Bool) r.1.asB false λb=>bif b then EV r.2 a else false
theorem NY {d:OL} {r:OR} (h:okV d r=true):∃a,r=some (.bool true,a)∧EV a d=true:=by
 cases r with
 |none=>cases h
 | some r =>
  obtain⟨g,a⟩:=r;have h:Option.casesOn (motive:=λ_=>Bool) g.asB false (λb=>bif b then EV a d else false)=true:=h;cases c:g.asB with
  |none=>rw[c]at h;cases h
  |some b=>
   rw[c]at h;cases b with
   |false=>cases h
   |true=>exact⟨a,by rw[Bz c],h⟩
theorem KU {P:Program} {G:GP} {x:FT} (F:∀T:fQ YH,TK P G x T) {fuel f n:Nat} {d:OL} {g:GV} {V:Value} (H:bB P f) (h:∃r,QV G x fuel f [g] (FH n d)=some (.bool true,r)∧EV r d=true) {w:World} {S:Nat->Prop} (Q:(MY n d g V).p w S):
  Calls P f #[V] w λe u=>e = .returned (.bool true)∧LB w u:=by
 obtain⟨U,y,M⟩:=Q;obtain⟨r,D,E⟩:=h;rcases Jg F D y.rel (.cons M .nil)with⟨v,u,W,m,_⟩|⟨_,I⟩
 ·have:=H #[V] w;rw[this]at m;cases m
 ·refine I.mono ?_;rintro e u ⟨v,X,rfl,j,c,N⟩;refine⟨by rw[N.bool_inv],c.ext.os,c.ext.tape,c.ext.output,c.ext.size,λk K=> ?_⟩
  by_cases A:Hd.O n d U k
  ·obtain⟨i,o,l,J,z,rfl⟩:=A;obtain⟨t,q⟩:=hJ.1 J;have L:(i,t,o)∈d:=Mn ((DR d i).symm.trans q);obtain⟨R,a,b,_⟩:=y.vers i t l (rZ.2 ⟨o,q⟩) z;obtain⟨s,B,C,_⟩:=c.vers i t l (Oj E _ L) (j _ _ z);have:R=s:=by have:=j _ _ a;rw[B]at this;exact(Option.some.inj this).symm
   subst this;exact C.trans b.symm
  ·exact c.ext.block k K A
end Go.Gx
namespace Go.Proofs.YtflciafboapaaaaGreat
open Go Go.Sx Go.Gx
set_option maxRecDepth 100000
abbrev mE:=ByteArray×(Value×fU)×(Value×List (Int×(Value×fU)))
def rR (z:mE):fU×List (Int×fU):=(z.2.1.2,z.2.2.2.map λs=>(s.1,s.2.2))
def Fw:ByteArray:=(ByteArray.mk #[112,114,111,103,114,97,109,32,98,102,115,59,10,118,97,114,32,100,32,58,32,48,32,46,46,32,110,59,10,118,97,114,32,112,32,58,32,112,111,114,116,59,10,114,117,108,101,32,116,111,112,58,32,114,111,111,116,32,38,38,32,40,100,32,33,61,32,48,32,124,124,32,112,32,33,61,32,110,111,110,101,41,32,45,62,32,100,32,58,61,32,48,44,32,112,32,58,61,32,110,111,110,101,59,10,114,117,108,101,32,108,111,119,58,32,33,114,111,111,116,32,38,38,32,40,100,32,33,61,32,40,109,105,110,40,113,46,100,41,32,60,32,110,32,63,32,109,105,110,40,113,46,100,41,32,43,32,49,32,58,32,110,41,32,124,124,32,112,32,33,61,32,102,105,114,115,116,40,113,46,100,32,61,61,32,109,105,110,40,113,46,100,41,41,41,10,32,32,45,62,32,100,32,58,61,32,40,109,105,110,40,113,46,100,41,32,60,32,110,32,63,32,109,105,110,40,113,46,100,41,32,43,32,49,32,58,32,110,41,44,32,112,32,58,61,32,102,105,114,115,116,40,113,46,100,32,61,61,32,109,105,110,40,113,46,100,41,41,59,10])
def Fy:GG:=[((ByteArray.mk #[100]),(1:Int),(0:Int),(0:Int),(1:Int),(0:Int)),((ByteArray.mk #[112]),(3:Int),(0:Int),(0:Int),(0:Int),(0:Int))]
def CI:Ln:=[([(41,0),(10,0),(42,0),(36,0),(5,0),(1,0),(36,0),(5,1),(4,0)],[(0,[(1,0)]),(1,[(4,0)])]),([(41,0),(19,0),(10,0),(42,0),(36,0),(5,0),(43,0),(37,0),(24,0),(12,0),(6,0),(33,0),(24,0),(12,0),(1,1),(6,0),(36,0),(5,1),(23,0),(35,0),(12,0),(24,0),(12,0)],[(0,[(43,0),(37,0),(24,0),(12,0),(6,0),(33,0),(24,0),(12,0),(1,1),(6,0)]),(1,[(23,0),(35,0),(12,0),(24,0),(12,0)])])]
def Zx:List ((Nat×Nat)×fU×List (Int×fU)):=[((7368564,3),[(41,0),(10,0),(42,0),(36,0),(5,0),(1,0),(36,0),(5,1),(4,0)],[(0,[(1,0)]),(1,[(4,0)])]),((7827308,3),[(41,0),(19,0),(10,0),(42,0),(36,0),(5,0),(43,0),(37,0),(24,0),(12,0),(6,0),(33,0),(24,0),(12,0),(1,1),(6,0),(36,0),(5,1),(23,0),(35,0),(12,0),(24,0),(12,0)],[(0,[(43,0),(37,0),(24,0),(12,0),(6,0),(33,0),(24,0),(12,0),(1,1),(6,0)]),(1,[(23,0),(35,0),(12,0),(24,0),(12,0)])])]
def Fx:ByteArray:=(ByteArray.mk #[112,114,111,103,114,97,109,32,99,111,108,111,117,114,105,110,103,59,10,118,97,114,32,99,32,58,32,48,32,46,46,32,110,59,10,114,117,108,101,32,102,105,120,58,32,115,111,109,101,40,113,46,99,32,61,61,32,99,41,32,45,62,32,99,32,58,61,32,109,101,120,40,113,46,99,41,59,10])
def Hx:GG:=[((ByteArray.mk #[99]),(1:Int),(0:Int),(0:Int),(1:Int),(0:Int))]
def EE:Ln:=[([(21,0),(35,0),(12,0),(5,0)],[(0,[(27,0),(12,0)])])]
def Zy:List ((Nat×Nat)×fU×List (Int×fU)):=[((7891302,3),[(21,0),(35,0),(12,0),(5,0)],[(0,[(27,0),(12,0)])])]
def PF (V:Value):bA:=⟨λw S=>(MY 3136 VK mg0 V).p w S∨(MY 651 Xe mg1 V).p w S,λ{w w' S S'} h k=>by
 rcases h with h|h
 ·exact .inl ((MY 3136 VK mg0 V).mono h k)
 exact .inr (((MY 651 Xe mg1 V).mono h k))⟩
noncomputable def SA {R:Type} (D:Ln) (k:List mE->Option R):Option R:=open Classical in if h:∃r,∀z:List mE,z.map rR=D->k z=some r then some (Classical.choose h)else none
theorem KD {R:Type} {D:Ln} {k:List mE->Option R} {r:R} (h:SA D k=some r) (z:List mE) (a:z.map rR=D):k z=some r:=by
 unfold SA at h;split at h
 ·rename_i e;rw[<-Option.some.inj h];exact Classical.choose_spec e z a
 cases h
theorem QK {R:Type} {D:Ln} {k:List mE->Option R} {r:R} (h:∀z:List mE,z.map rR=D->k z=some r):SA D k=some r:=by
 have e:∃r,∀z:List mE,z.map rR=D->k z=some r:=⟨r,h⟩
 unfold SA;rw[dif_pos e];let z:List mE:=D.map λx=>(ByteArray.empty,(undef,x.1),(undef,x.2.map λs=>(s.1,(undef,s.2))))
 have c:z.map rR=D:=by
  show(D.map _).map rR=D;rw[List.map_map]
  conv=>rhs;rw[<-List.map_id D]
  refine List.map_congr_left λx _=>?_;obtain⟨a,b⟩:=x;simp[rR,Function.comp_def]
 rw[<-Classical.choose_spec e z c,h z c]
def kB (a:Nat) (b:ByteArray):Option R_:=if b=Fw then some ((ByteArray.mk #[98,102,115]),Fy,CI)else if b=Fx then some ((ByteArray.mk #[99,111,108,111,117,114,105,110,103]),Hx,EE)else none
theorem QU:bB Tryz.prog 9:=Tryz.call9
theorem LR:bB Tryz.prog 168:=Tryz.call168
theorem Oa:Fl Fw=(6706143830449764899556809608818904919804074884937111603718476495539622089622860971527792587791047894922729163212717263328395231852300855536488424978955807703755604513825873373095632290149847090083112304426652546340939400726262280257803792487332445892473582856512649637013408585975292850644760247287299230258062944610265801223788397479914840704983105145953743025358843726328641031619437354017789814719882883570583131354112070717477863523377784965938515931160728579383844655360852857429048595849656685311997067516701048769715945338084683118784715135226216982869351630641616464718832441949492048937096570154901286325463543707328254906190863546417377904,270):=by kernel_rfl
theorem VX:Fl (ByteArray.mk #[98,102,115])=(7562850,3):=by kernel_rfl
theorem Wd:LY (FH 3136 VK) 6 (dP 1 UR (dP 1 (dI .i64) (dP 1 (dI .i64) (dP 1 (dI .i64) (dP 1 (dI .i64) (dI .i64)))))) (.sl 1176 0 2 6)=some (Fy.map λz=>(Fl z.1,z.2.1,z.2.2.1,z.2.2.2.1,z.2.2.2.2.1,z.2.2.2.2.2)):=by kernel_rfl
theorem Tm:LY (FH 3136 VK) 3 (dP 1 UR (dP 1 (dS (FH 3136 VK) 2 (dP 1 (dI .i64) (dI .i64))) (dS (FH 3136 VK) 2 (dP 1 (dI .i64) (dS (FH 3136 VK) 2 (dP 1 (dI .i64) (dI .i64))))))) (.sl 2078 0 2 3)=some Zx:=by kernel_rfl
theorem YK:Zx.map (λy=>(y.2.1,y.2.2))=CI:=by kernel_rfl
theorem V_ (r:R_) (h:some ((ByteArray.mk #[98,102,115]),Fy,CI)=some r):bO Tryz.prog 9 #[vS Fw] [] (λx:Value×Value×{z:List mE // z.map rR=r.2.2}=>Value.agg #[vS r.1,x.1,x.2.1]) (λx l=>l) (λx l=>Sl aG x.1 r.2.1::Sl aC x.2.1 x.2.2.1::PF (Value.agg #[vS r.1,x.1,x.2.1])::l):=by
 cases h;refine JD (gs:=gl) (LO:=λx:Value×Value×{z:List mE // z.map rR=CI}=>[Sl aG x.1 Fy,Sl aC x.2.1 x.2.2.1,PF (Value.agg #[vS (ByteArray.mk #[98,102,115]),x.1,x.2.1])]) Vl (λT b=>K_ Gm gok me0 QU (.cons (Qf (x:=Fw) (congrArg Prod.fst Oa).symm (congrArg Prod.snd Oa).symm) .nil) Z b) ?_;intro T b B w V a R g;have y:=g;obtain⟨f,rfl,c,_⟩:=g.agg_inv;obtain⟨C,f,rfl,m,c⟩:=c.of_cons;obtain⟨j,f,rfl,n,c⟩:=c.of_cons;obtain⟨k,rfl,o⟩:=c.one;obtain rfl:=RR m VX;obtain⟨A,v,s⟩:=Cs R a (eO.pair eO.str (eO.pair (eO.int .i64) (eO.pair (eO.int .i64) (eO.pair (eO.int .i64) (eO.pair (eO.int .i64) (eO.int .i64)))))) n Wd;have e:A=Fy:=Fv (uG (λ_ _=>Jp) (uG BE (uG BE (uG BE (uG BE BE))))) v;subst e;obtain⟨i,u,t⟩:=Cs (r:=aC) R a (eO.pair eO.str (eO.pair (eO.sl R a (eO.pair (eO.int .i64) (eO.int .i64))) (eO.sl R a (eO.pair (eO.int .i64) (eO.sl R a (eO.pair (eO.int .i64) (eO.int .i64))))))) o Tm;have d:i.map rR=CI:=by
  rw[<-YK,<-u,List.map_map];refine List.map_congr_left λx _=>?_;simp[rR,Function.comp_def]
 exact⟨(j,k,⟨i,d⟩),rfl,zB0.2 ⟨s,zB0.2 ⟨t,zB0.2 ⟨.inl (⟨B,gF.hd R a,y⟩),λq p=>absurd p zB1⟩⟩⟩⟩
theorem WW:okV VK (Ji JM gp0 4000 168 [mg0] (FH 3136 VK))=true:=by kernel_rfl
theorem Ob:Fl Fx=(2782272544148574329703548915484139416562471587372346629090892429547018860149309682118537811771073185556707760590527461846276004869770941806974104689717583530206048895217444112283498148464,78):=by kernel_rfl
theorem VZ:Fl (ByteArray.mk #[99,111,108,111,117,114,105,110,103])=(1907970655657516625763,9):=by kernel_rfl
theorem We:LY (FH 651 Xe) 6 (dP 1 UR (dP 1 (dI .i64) (dP 1 (dI .i64) (dP 1 (dI .i64) (dP 1 (dI .i64) (dI .i64)))))) (.sl 328 0 1 6)=some (Hx.map λz=>(Fl z.1,z.2.1,z.2.2.1,z.2.2.2.1,z.2.2.2.2.1,z.2.2.2.2.2)):=by kernel_rfl
theorem Tn:LY (FH 651 Xe) 3 (dP 1 UR (dP 1 (dS (FH 651 Xe) 2 (dP 1 (dI .i64) (dI .i64))) (dS (FH 651 Xe) 2 (dP 1 (dI .i64) (dS (FH 651 Xe) 2 (dP 1 (dI .i64) (dI .i64))))))) (.sl 491 0 1 3)=some Zy:=by kernel_rfl
theorem YL:Zy.map (λy=>(y.2.1,y.2.2))=EE:=by kernel_rfl
theorem Wa (r:R_) (h:some ((ByteArray.mk #[99,111,108,111,117,114,105,110,103]),Hx,EE)=some r):bO Tryz.prog 9 #[vS Fx] [] (λx:Value×Value×{z:List mE // z.map rR=r.2.2}=>Value.agg #[vS r.1,x.1,x.2.1]) (λx l=>l) (λx l=>Sl aG x.1 r.2.1::Sl aC x.2.1 x.2.2.1::PF (Value.agg #[vS r.1,x.1,x.2.1])::l):=by
 cases h;refine JD (gs:=gl) (LO:=λx:Value×Value×{z:List mE // z.map rR=EE}=>[Sl aG x.1 Hx,Sl aC x.2.1 x.2.2.1,PF (Value.agg #[vS (ByteArray.mk #[99,111,108,111,117,114,105,110,103]),x.1,x.2.1])]) Vl (λT b=>K_ Gm abZ me1 QU (.cons (Qf (x:=Fx) (congrArg Prod.fst Ob).symm (congrArg Prod.snd Ob).symm) .nil) Z b) ?_;intro T b B w V a R g;have y:=g;obtain⟨f,rfl,c,_⟩:=g.agg_inv;obtain⟨C,f,rfl,m,c⟩:=c.of_cons;obtain⟨j,f,rfl,n,c⟩:=c.of_cons;obtain⟨k,rfl,o⟩:=c.one;obtain rfl:=RR m VZ;obtain⟨A,v,s⟩:=Cs R a (eO.pair eO.str (eO.pair (eO.int .i64) (eO.pair (eO.int .i64) (eO.pair (eO.int .i64) (eO.pair (eO.int .i64) (eO.int .i64)))))) n We;have e:A=Hx:=Fv (uG (λ_ _=>Jp) (uG BE (uG BE (uG BE (uG BE BE))))) v;subst e;obtain⟨i,u,t⟩:=Cs (r:=aC) R a (eO.pair eO.str (eO.pair (eO.sl R a (eO.pair (eO.int .i64) (eO.int .i64))) (eO.sl R a (eO.pair (eO.int .i64) (eO.sl R a (eO.pair (eO.int .i64) (eO.int .i64))))))) o Tn;have d:i.map rR=EE:=by
  rw[<-YL,<-u,List.map_map];refine List.map_congr_left λx _=>?_;simp[rR,Function.comp_def]
 exact⟨(j,k,⟨i,d⟩),rfl,zB0.2 ⟨s,zB0.2 ⟨t,zB0.2 ⟨.inr ((⟨B,gF.hd R a,y⟩)),λq p=>absurd p zB1⟩⟩⟩⟩
theorem WX:okV Xe (Ji JM gp0 4000 168 [mg1] (FH 651 Xe))=true:=by kernel_rfl
theorem Dc (a:Nat) {b:ByteArray} (r:R_) (h:kB a b=some r):bO Tryz.prog 9 #[vS b] [] (λx:Value×Value×{z:List mE // z.map rR=r.2.2}=>Value.agg #[vS r.1,x.1,x.2.1]) (λx l=>l) (λx l=>Sl aG x.1 r.2.1::Sl aC x.2.1 x.2.2.1::PF (Value.agg #[vS r.1,x.1,x.2.1])::l):=by
 unfold kB at h;by_cases c:b=Fw
 ·subst c;exact V_ r ((if_pos Z).symm.trans h)
 rw[if_neg c]at h;by_cases d:b=Fx
 ·subst d;exact Wa r ((if_pos Z).symm.trans h)
 rw[if_neg d]at h;cases h
theorem Wb (f:Nat):kB f Fw=some ((ByteArray.mk #[98,102,115]),Fy,CI):=by
 unfold kB;exact if_pos Z
theorem Wc (f:Nat):kB f Fx=some ((ByteArray.mk #[99,111,108,111,117,114,105,110,103]),Hx,EE):=by
 unfold kB;rw[if_neg (by decide +kernel)];exact if_pos Z
def BH (fuel:Nat) (a:ByteArray×List (ByteArray×Int×Int×Int×Int×Int)×List (mE)):Option Bool:=some true
theorem Kt (a:Nat) {b:ByteArray×List (ByteArray×Int×Int×Int×Int×Int)×List (mE)} (f g:Value) (r:Bool) (h:BH a b=some r):
  bO Tryz.prog 168 #[Value.agg #[vS b.1,f,g]] [Sl aG f b.2.1,Sl aC g b.2.2,PF (Value.agg #[vS b.1,f,g])] (λx:Unit=>vB (r)) (λx l=>l) (λ_ l=>l):=by
 cases h;intro w S z;have s:Calls Tryz.prog 168 #[Value.agg #[vS b.1,f,g]] w λe t=>e = .returned (.bool true)∧LB w t:=by
  rcases z _ (zA0 (i:=2) rfl)with p|p
  ·refine KU (fuel:=4000) abX LR ?_ p;obtain⟨n,c,o⟩:=NY WW;rw[FU (G:=gp0) Gm]at c;exact⟨n,c,o⟩
  refine KU (fuel:=4000) abX LR ?_ p;obtain⟨n,c,o⟩:=NY WX;rw[FU (G:=gp0) Gm]at c;exact⟨n,c,o⟩
 refine s.mono ?_;rintro e t ⟨rfl,d⟩;exact⟨(),rfl,⟨d.os,d.tape,d.output,d.size,λk u _=>d.block k u⟩,λ_ _=>False,⟨λi m v=>by simp at v,λi k h=>h.elim,λi j k h=>h.elim⟩,λq y=>by simp at y⟩
end Go.Proofs.YtflciafboapaaaaGreat
namespace Go.Proofs.YtflciafboapaaaaGreat
open Go Go.Sx
abbrev adJ:=Eh
abbrev PRG:=ByteArray×(List adJ)×(List mE)
abbrev GRF:=List Int×gA
abbrev SCN:=PRG×GRF×Int×bM
abbrev WLK:=SCN×bM×Int×fU
inductive E where
 |lf (o a:Int)
 |un (o:Int) (x:E)
 |ag (o:Int) (x:E)
 |bi (o:Int) (x y:E)
 |ite (x y z:E)
def E.ts:E->fU
 |lf o a=>[(o,a)]
 |un o x=>(o,0)::x.ts
 |ag o x=>(o,0)::x.ts
 |bi o x y=>(o,0)::(x.ts++y.ts)
 |ite x y z=>(43,0)::(x.ts++(y.ts++z.ts))
def E.depth:E->Nat
 |lf _ _=>1
 |un _ x=>x.depth+1
 |ag _ x=>x.depth+1
 |bi _ x y=>max x.depth y.depth+1
 |ite x y z=>max x.depth (max y.depth z.depth)+1
def E.arOk:E->Bool
 |lf o _=>decide (1<=o)&&decide (o<=17)
 |un o x=>decide (18<=o)&&decide (o<=19)&&x.arOk
 |ag o x=>decide (20<=o)&&decide (o<=29)&&x.arOk
 |bi o x y=>decide (30<=o)&&decide (o<=42)&&x.arOk&&y.arOk
 |ite x y z=>x.arOk&&y.arOk&&z.arOk
theorem QN {b:Type} [Inhabited b] {T a rest:List b} {x:b} {k:Nat} (c:T=a++x::rest) (d:a.length=k):at' T (k:Int)=x:=by
 subst c;exact SC a rest x k d
theorem eI {k:Nat} (h:k<1000000):wI .i64 ((k:Int)+1)=((k+1:Nat):Int):=by rw[wr (by omega) (by omega)];rfl
theorem Ul (f:Nat) {o:Int} (a:1<=o) (b:o<=43):wX f o=some (if o<=17 then 0 else if o<=29 then 1 else if o<=42 then 2 else 3):=by
 unfold wX yS;rw[if_neg (by omega)];simp only[zA7];rw[if_neg (by omega)];split
 ·rfl
 ·split
  ·rfl
  ·split<;>rfl
theorem UX {F:Nat} {T c rest:fU} {t:fY} {k m a:Nat} {b:Nat} (d:T=c++t::rest) (g:c.length=k) (i:k<1000) (n:m<3000) (e:wX F t.1=some ((a:Nat):Int)) (f:a<=3) (j:m+a≠0):
  bP (lP F T) (b+1) ((k:Int),(m:Int))=if m+a=1 then some (((k+1:Nat):Int))else bP (lP F T) b (((k+1:Nat):Int),((m+a - 1:Nat):Int)):=by
 have l:k<T.length:=by rw[d];simp;omega
 show lP F T ((k:Int),(m:Int)) (bP (lP F T) b)=_;unfold lP;dsimp only;rw[if_pos (by omega),dD (by omega),QN d g,bN e,if_neg (by omega),wr (x:=((a:Nat):Int) - 1) (by omega) (by omega),wr (by omega) (by omega),eI (by omega)];by_cases h:m+a=1
 ·rw[if_pos h,if_pos (by omega)]
 ·rw[if_neg h,if_neg (by omega)];have:(m:Int)+((a:Int) - 1)=((m+a - 1:Nat):Int):=by omega
  rw[this]
theorem Yk (F:Nat) (T:fU) (H:T.length<=900):∀(e:E),e.arOk=true->∀(c k m:Nat) (d b:fU),T=d++(e.ts++b)->d.length=k->1<=m->m+2*(e.ts++b).length<=1900->e.ts.length<=c->
  bP (lP F T) c ((k:Int),(m:Int))=if m=1 then some (((k+e.ts.length:Nat):Int))else bP (lP F T) (c - e.ts.length) (((k+e.ts.length:Nat):Int),((m - 1:Nat):Int)):=by
 have r:∀{t:fY} {l b d:fU} {c k m:Nat},T=d++((t::l)++b)->d.length=k->(t::l).length<=c->1<=t.1->t.1<=43->1<=m->m+2*((t::l)++b).length<=1900->∀a:Nat,(if t.1<=17 then 0 else if t.1<=29 then 1 else if t.1<=42 then 2 else 3:Int)=a->a<=3->∃f,c=f+1∧
   bP (lP F T) c ((k:Int),(m:Int))=if m+a=1 then some (((k+1:Nat):Int))else bP (lP F T) f (((k+1:Nat):Int),((m+a - 1:Nat):Int)):=by
  intro t l b d c k m n p q v w i j a I B;have A:=congrArg List.length n;simp only[zAc,zAk]at A j q;obtain⟨f,rfl⟩:∃f,c=f+1:=⟨c - 1,by omega⟩
  exact⟨f,rfl,UX (rest:=l++b) (by simpa using n) p (by omega) (by omega) (by rw[Ul F v w,I]) B (by omega)⟩
 intro e
 induction e with
 |lf o a=>
  intro g c k m d b n p i j q;simp only[E.arOk,zA3,zA7]at g;obtain⟨f,rfl,h⟩:=r (t:=(o,a)) (l:=[]) n p q (by dsimp only;omega) (by dsimp only;omega) i j 0 (by rw[if_pos (by dsimp only;omega)];rfl) (by omega);rw[h];rfl
 |un o x C=>
  intro g c k m d b n p i j q;simp only[E.arOk,zA3,zA7]at g;obtain⟨f,rfl,h⟩:=r (t:=(o,0)) (l:=x.ts) n p q (by dsimp only;omega) (by dsimp only;omega) i j 1 (by rw[if_neg (by dsimp only;omega),if_pos (by dsimp only;omega)];rfl) (by omega);simp only[E.ts,zAk]at q j ⊢;rw[h,if_neg (by omega)];have:=C g.2 f (k+1) m (d++[(o,0)]) b (by rw[n];simp[E.ts]) (by simp[p]) i (by simp at j ⊢;omega) (by omega);rw[show m+1 - 1=m by omega,this,show k+1+x.ts.length=k+(x.ts.length+1) by omega,show f+1 - (x.ts.length+1)=f - x.ts.length by omega]
 |ag o x C=>
  intro g c k m d b n p i j q;simp only[E.arOk,zA3,zA7]at g;obtain⟨f,rfl,h⟩:=r (t:=(o,0)) (l:=x.ts) n p q (by dsimp only;omega) (by dsimp only;omega) i j 1 (by rw[if_neg (by dsimp only;omega),if_pos (by dsimp only;omega)];rfl) (by omega);simp only[E.ts,zAk]at q j ⊢;rw[h,if_neg (by omega)];have:=C g.2 f (k+1) m (d++[(o,0)]) b (by rw[n];simp[E.ts]) (by simp[p]) i (by simp at j ⊢;omega) (by omega);rw[show m+1 - 1=m by omega,this,show k+1+x.ts.length=k+(x.ts.length+1) by omega,show f+1 - (x.ts.length+1)=f - x.ts.length by omega]
 |bi o x y s u=>
  intro g c k m d b n p i j q;simp only[E.arOk,zA3,zA7]at g;obtain⟨f,rfl,h⟩:=r (t:=(o,0)) (l:=x.ts++y.ts) n p q (by dsimp only;omega) (by dsimp only;omega) i j 2 (by rw[if_neg (by dsimp only;omega),if_neg (by dsimp only;omega),if_pos (by dsimp only;omega)];rfl) (by omega);simp only[E.ts,zAk,zAc]at q j ⊢;rw[h,if_neg (by omega)];have v:=s g.1.2 f (k+1) (m+1) (d++[(o,0)]) (y.ts++b) (by rw[n];simp[E.ts]) (by simp[p]) (by omega) (by simp at j ⊢;omega) (by omega);have w:=u g.2 (f - x.ts.length) (k+1+x.ts.length) m (d++((o,0)::x.ts)) b (by rw[n];simp[E.ts]) (by simp[p];omega) (by omega) (by simp at j ⊢;omega) (by omega);rw[show m+2 - 1=m+1 by omega,v,if_neg (by omega),show m+1 - 1=m by omega,w,show k+1+x.ts.length+y.ts.length=k+(x.ts.length+y.ts.length+1) by omega,show f+1 - (x.ts.length+y.ts.length+1)=f - x.ts.length - y.ts.length by omega]
 |ite x y z s u D=>
  intro g c k m d b n p i j q;simp only[E.arOk,zA3,zA7]at g;obtain⟨f,rfl,h⟩:=r (t:=(43,0)) (l:=x.ts++(y.ts++z.ts)) n p q (by decide) (by decide) i j 3 Z (by omega);simp only[E.ts,zAk,zAc]at q j ⊢;rw[h,if_neg (by omega)];have v:=s g.1.1 f (k+1) (m+2) (d++[(43,0)]) (y.ts++z.ts++b) (by rw[n];simp[E.ts]) (by simp[p]) (by omega) (by simp at j ⊢;omega) (by omega);have w:=u g.1.2 (f - x.ts.length) (k+1+x.ts.length) (m+1) (d++((43,0)::x.ts)) (z.ts++b) (by rw[n];simp[E.ts]) (by simp[p];omega) (by omega) (by simp at j ⊢;omega) (by omega);have G:=D g.2 (f - x.ts.length - y.ts.length) (k+1+x.ts.length+y.ts.length) m (d++((43,0)::(x.ts++y.ts))) b (by rw[n];simp[E.ts]) (by simp[p];omega) (by omega) (by simp at j ⊢;omega) (by omega);rw[show m+3 - 1=m+2 by omega,v,if_neg (by omega),show m+2 - 1=m+1 by omega,w,if_neg (by omega),show m+1 - 1=m by omega,G,show k+1+x.ts.length+y.ts.length+z.ts.length=k+(x.ts.length+(y.ts.length+z.ts.length)+1) by omega,show f+1 - (x.ts.length+(y.ts.length+z.ts.length)+1)=f - x.ts.length - y.ts.length - z.ts.length by omega]
theorem aaB (F:Nat) (e:E) (d:e.arOk=true) {T b a:fU} {k:Nat} (f:T=b++(e.ts++a)) (i:b.length=k) (j:T.length<=800) (h:e.ts.length<=F):CF F T (k:Int)=some (((k+e.ts.length:Nat):Int)):=by
 have g:1<=e.ts.length:=by cases e<;>simp[E.ts]
 have c:=congrArg List.length f;simp only[zAc]at c;unfold CF Bq;rw[if_neg (by omega)];simp only[zA7];rw[if_neg (by omega)];have:=Yk F T (by omega) e d F k 1 b a f i (by omega) (by simp;omega) h;rw[if_pos Z]at this;exact this
def XA (b:Bool):Int:=if b then 1 else 0
theorem uP (f:Nat) (b:Bool):jA f b=some (XA b):=by cases b<;>rfl
theorem tS {a:Type} [Inhabited a] {l:List a} {k:Nat} (h:k<l.length):l.take (k+1)=l.take k++[at' l (k:Int)]:=by
 rw[List.take_add_one,zA2 h,kX,zA8,zA2 h];rfl
theorem iX {a:Type} [Inhabited a] {l:List a} {k:Nat} (h:k<l.length):at' l (k:Int)=l[k]:=by
 rw[kX,zA8,zA2 h];rfl
theorem NL {p:Nat->Prop}:∀(n:Nat),p n->∃m,m<=n∧p m∧∀j,j<m->¬p j:=by
 intro n
 induction n using Nat.strongRecOn with
 | _ n ih =>
  intro h;by_cases d:∃m,m<n∧p m
  ·obtain⟨m,e,f⟩:=d;obtain⟨k,a,b,c⟩:=ih m e f;exact⟨k,by omega,b,c⟩
  ·exact⟨n,zAe n,h,λj g i=>d ⟨j,g,i⟩⟩
theorem Rz {g:Type} [DecidableEq g]:∀(c b:List g),c.Nodup->(∀x∈c,x∈b)->c.length<=b.length
 | [],b,_,_=>Nat.zero_le _
 |a::c,b,h,hs=>by
  have d:=hs a zAb;have h:=List.nodup_cons.1 h;have:=Rz c (b.erase a) h.2 (λx f=>(List.mem_erase_of_ne (fun(e:x=a)=>h.1 (by rw[<-e];exact f))).2 (hs x (zAj _ f)));rw[List.length_erase_of_mem d]at this;have i:0<b.length:=List.length_pos_of_mem d;simp only[zAk];omega
def nz (x:Int):Bool:=decide (x≠0)
theorem UM (f:Nat) (l:bT) (h:l.length<f) (e:l.length<=1000):qM f l=some ((l.countP nz:Nat):Int):=by
 unfold qM;have:=dY (step:=rK l) (K:=some ((l.countP nz:Nat):Int)) l.length (λk=>(((l.take k).countP nz:Nat),(k:Int))) (λk b c=>by
  have d:(l.take k).countP nz<=k:=zAx List.countP_le_length (by simp;omega);unfold rK uE;dsimp only;rw[if_pos (by omega),dD (by omega),tS c,List.countP_append,eI (by omega),eI (by omega)];by_cases a:at' l (k:Int)=0
  ·rw[if_neg (by simpa using a)];simp[nz,a]
  ·rw[if_pos a];simp[nz,a]) (λb=>by
  unfold rK yJ;dsimp only;rw[if_neg (by omega),List.take_length]) f h
 exact this
theorem HT (f:Nat) (l:bT) (x:Int) (h:l.length<f) (t:l.length<=1000):rT f l x=some (decide (x∈l)):=by
 have q:∃i:Int,pQ f l x=some i∧(0<=i↔x∈l):=by
  by_cases b:x∈l
  ·obtain⟨i,r,o⟩:=List.mem_iff_getElem.1 b;have a:∃i,i<l.length∧at' l (i:Int)=x∧∀j,j<i->at' l (j:Int)≠x:=by
    obtain⟨m,d,c,s⟩:=NL (p:=λi=>at' l (i:Int)=x) i (by rw[iX r,o]);exact⟨m,by omega,c,s⟩
   obtain⟨i,r,d,c⟩:=a;refine⟨i,?_,iff_of_true (by omega) b⟩
   unfold pQ;exact dY (step:=kE l x) (K:=some (i:Int)) i (λk=>(k:Int)) (λk n g=>by
    unfold kE;rw[if_pos (by omega),dD (by omega),if_neg (λe=>c k g e.symm),eI (by omega)]) (λn=>by
    unfold kE;rw[if_pos (by omega),dD (by omega),if_pos d.symm]) f (by omega)
  ·refine⟨-1,?_,iff_of_false (by omega) b⟩
   unfold pQ;exact dY (step:=kE l x) (K:=some (-1)) l.length (λk=>(k:Int)) (λk n g=>by
    unfold kE;rw[if_pos (by omega),dD (by omega),if_neg (λe=>b (by rw[e,iX g];exact List.getElem_mem g)),eI (by omega)]) (λn=>by
    unfold kE u_;rw[if_neg (by omega)]) f h
 obtain⟨i,d,c⟩:=q;unfold rT;rw[bN d];by_cases b:x∈l
 ·rw[zAd b,zAd (c.2 b)]
 ·rw[zA6 b,zA6 (λe=>b (c.1 e))]
def BC (l:bT):Int:=match l.findIdx? nz with
 |some i=>(i:Int)
 |none=> -1
theorem DG {l:bT} {i:Nat} (a:i<l.length) (b:at' l (i:Int)≠0) (c:∀j,j<i->at' l (j:Int)=0):BC l=i:=by
 have:l.findIdx? nz=some i:=by
  rw[List.findIdx?_eq_some_iff_getElem];refine⟨a,by rw[<-iX a];simpa [nz]using b,λj d=> ?_⟩
  have:=c j d;rw[iX (by omega)]at this;simp[nz,this]
 unfold BC;rw[this]
theorem DF {l:bT} (h:∀j,j<l.length->at' l (j:Int)=0):BC l = -1:=by
 have:l.findIdx? nz=none:=by
  rw[List.findIdx?_eq_none_iff];intro x b;obtain⟨i,a,rfl⟩:=List.mem_iff_getElem.1 b;have:=h i a;rw[iX a]at this;simp[nz,this]
 unfold BC;rw[this]
theorem Vh (f:Nat) (l:bT) (h:l.length<f) (t:l.length<=1000):mZ f l (λq=>oT f q)=some (BC l):=by
 unfold mZ;by_cases a:∃i,i<l.length∧at' l (i:Int)≠0
 ·obtain⟨i,s,o⟩:=a;obtain⟨m,r,n,b⟩:=NL (p:=λi=>at' l (i:Int)≠0) i o;have b:∀j,j<m->at' l (j:Int)=0:=λj d=>zB8.1 (b j d);rw[DG (by omega) n b];exact dY (step:=gN l _) (K:=some (m:Int)) m (λk=>(k:Int)) (λk c g=>by
   unfold gN oT;rw[if_pos (by omega),dD (by omega),bN Z,if_neg (by simp[b k g]),eI (by omega)]) (λc=>by
   unfold gN oT;rw[if_pos (by omega),dD (by omega),bN Z,if_pos (by simpa using n)]) f (by omega)
 ·have a:∀j,j<l.length->at' l (j:Int)=0:=λj d=>zB8.1 λe=>a ⟨j,d,e⟩;rw[DF a];exact dY (step:=gN l _) (K:=some (-1)) l.length (λk=>(k:Int)) (λk c g=>by
   unfold gN oT;rw[if_pos (by omega),dD (by omega),bN Z,if_neg (by simp[a k g]),eI (by omega)]) (λc=>by
   unfold gN pD;rw[if_neg (by omega)]) f h
def aaY (l:bT):Int:=l.foldl min 1073741824
theorem aaZ (f:Nat) (l:bT) (h:l.length<f) (c:l.length<=1000):bP (sZ l) f ((1073741824:Int),(0:Int))=some (aaY l):=by
 exact dY (step:=sZ l) (K:=some (aaY l)) l.length (λk=>((l.take k).foldl min 1073741824,(k:Int))) (λk a b=>by
  unfold sZ;dsimp only;rw[if_pos (by omega),dD (by omega),tS b,List.foldl_append,eI (by omega)];rfl) (λa=>by
  unfold sZ zZ;dsimp only;rw[if_neg (by omega),List.take_length];rfl) f h
def NP (l:bT):Nat->Nat->Nat
 |0,k=>k
 |f+1,k=>if((k:Nat):Int)∈l then NP l f (k+1)else k
def PV (l:bT):Nat:=NP l (l.length+1) 0
theorem VJ (l:bT):((PV l:Nat):Int)∉l∧(∀j,j<PV l->((j:Nat):Int)∈l)∧PV l<=l.length:=by
 have key:∀(f k:Nat),(∀j,j<k->((j:Nat):Int)∈l)->(∀j,j<NP l f k->((j:Nat):Int)∈l)∧(NP l f k=k+f∨((NP l f k:Nat):Int)∉l):=by
  intro f
  induction f with
  |zero=>intro k h;exact⟨h,.inl Z⟩
  | succ f ih =>
   intro k h;by_cases hk:((k:Nat):Int)∈l
   ·have:=ih (k+1) (λj hj=>by
     rcases zAs j k with q|q
     ·exact h j q
     ·rw[show j=k by omega];exact hk)
    simp only[NP,if_pos hk];exact⟨this.1,this.2.imp (λe=>by omega) id⟩
   ·simp only[NP,if_neg hk];exact⟨h,.inr hk⟩
 have hle:∀m,(∀j,j<m->((j:Nat):Int)∈l)->m<=l.length:=λm h=>by
  have:=Rz ((List.range m).map λj=>((j:Nat):Int)) l (by
   rw[List.nodup_iff_pairwise_ne,List.pairwise_map];exact(List.nodup_iff_pairwise_ne.1 List.nodup_range).imp (λh e=>h (by omega))) (λx hx=>by
   obtain⟨j,hj,rfl⟩:=zB7.1 hx;exact h j (zAo.1 hj))
  simpa using this
 obtain⟨h1,h2⟩:=key (l.length+1) 0 (λj hj=>by omega);have h3:=hle _ h1;refine⟨?_,h1,h3⟩
 rcases h2 with h2|h2
 ·have:NP l (l.length+1) 0<=l.length:=h3;omega
 ·exact h2
theorem aaX (f:Nat) (l:bT) (h:l.length+2<f) (hl:l.length<=900):AG f l=some ((PV l:Nat):Int):=by
 obtain⟨h1,h2,h3⟩:=VJ l;unfold AG;exact dY (step:=yW f l) (K:=some ((PV l:Nat):Int)) (PV l) (λk=>(k:Int)) (λk ag hk=>by
  unfold yW;rw[bN (HT f l (k:Int) (by omega) (by omega)),if_pos (by simpa using h2 k hk),eI (by omega)]) (λag=>by
  unfold yW Bi;rw[bN (HT f l _ (by omega) (by omega)),if_neg (by simpa using h1)]) f (by omega)
def Zd (l:bT):Int:=l.foldl (λa x=>wI .i64 (a+x)) 0
theorem abk (f:Nat) (l:bT) (h:l.length<f) (c:l.length<=1000):bP (s_ f l) f ((0:Int),(0:Int))=Cv f (Zd l):=by
 refine(dY (step:=s_ f l) l.length (λk=>(Zd (l.take k),(k:Int))) (λk a b=> ?_) (λa=> ?_) f h).trans Z
 ·unfold s_;dsimp only;rw[if_pos (by omega),dD (by omega),eI (by omega),tS b];unfold Zd;rw[List.foldl_append];rfl
 ·unfold s_;dsimp only;rw[if_neg (by omega),List.take_length]
def Rf (o:Int) (l:bT):Int:=
 if o=20 then XA (l.all nz)else if o=21 then XA (l.any nz)else if o=22 then((l.countP nz:Nat):Int)else if o=23 then BC l else if o=24 then aaY l else if o=26 then max (-1073741824) (min (Zd l) 1073741824)else((PV l:Nat):Int)
theorem Yq (f:Nat) (o:Int) (l:bT) (hf:40<=f) (hl:l.length<=24) (ho:o=20∨o=21∨o=22∨o=23∨o=24∨o=26∨o=27):Bm f o l=some (Rf o l):=by
 have hc:=UM f l (by omega) (by omega);unfold Bm;rcases ho with rfl|rfl|rfl|rfl|rfl|rfl|rfl
 ·rw[if_pos Z,bN hc,bN (uP f _),Rf,if_pos Z];have:(decide (((l.countP nz:Nat):Int)=(l.length:Int)))=l.all nz:=by
   rw[Bool.eq_iff_iff];simp[List.countP_eq_length,Int.ofNat_inj]
  rw[this]
 ·rw[if_neg (by decide),if_pos Z,bN hc,bN (uP f _),Rf,if_neg (by decide),if_pos Z];have:(decide ((0:Int)<((l.countP nz:Nat):Int)))=l.any nz:=by
   rw[Bool.eq_iff_iff,zA7,List.any_eq_true,show((0:Int)<((l.countP nz:Nat):Int))↔0<l.countP nz by omega,List.countP_pos_iff]
  rw[this]
 ·rw[if_neg (by decide),if_neg (by decide),if_pos Z,bN hc];rfl
 ·rw[if_neg (by decide),if_neg (by decide),if_neg (by decide),if_pos Z,bN (Vh f l (by omega) (by omega))];rfl
 ·rw[if_neg (by decide),if_neg (by decide),if_neg (by decide),if_neg (by decide),if_pos Z,aaZ f l (by omega) (by omega)];rfl
 ·rw[if_neg (by decide),if_neg (by decide),if_neg (by decide),if_neg (by decide),if_neg (by decide),if_neg (by decide),if_pos Z,abk f l (by omega) (by omega)];rfl
 ·rw[if_neg (by decide),if_neg (by decide),if_neg (by decide),if_neg (by decide),if_neg (by decide),if_neg (by decide),if_neg (by decide),if_pos Z,bN (aaX f l (by omega) (by omega))];rfl
end Go.Proofs.YtflciafboapaaaaGreat
namespace Go.Proofs.YtflciafboapaaaaGreat
open Go.Sx
def zG  (a:Unit):Option (Int):=
 some (-1:Int)
def uV (c:dL) (d:Int) (e:Int) (a:Int) (b:(Int)->Option (Int)):Option (Int):=
 if a<((at' c.2 d).length:Int)then(ck (0<=a∧a<((at' c.2 d).length:Int)) (if((at' (at' c.2 d) a).1)=e then(some (a))else(b (wI .i64 (a+(1:Int))))))else(zG  (()))
def iY (U:Nat) (b:dL) (a:Int) (c:Int):Option (Int):=
 ck (0<=a∧a<(b.2.length:Int)) (bP (uV b a c) U (0:Int))
theorem Iu:bB Tryz.prog 110:=Tryz.call110
theorem xL (U:Nat) {p0:dL} {p1:Int} {p2:Int} (f:Value)  (g:Value)  (k:iZ) (r:Int) (h:iY U p0 p1 p2=some r):
  bO Tryz.prog 110 #[Value.agg #[f,g],vI (p1),vI (p2)] [Sl aJ f p0.1,S2 aW g k p0.2] (λx:Unit=>vI (r)) (λx l=>l) (λ_ l=>l):=by
 refine bO.of Tryz.func110 Z Tryz.ntmps110 Z λc=>?_;refine aX<|aI (aN.box (cs:=[f,g]) Z Z) Z λn=>aH Z<|aP<|aM<|jH (λe=>zG  e=some r) (λe i=>[]) (λe i=>[]) ?_ ?_
 ·refine aX<|cA Z<|eW 0 Z<|aB Z<|eB h λb h=>aD (bV Z Z (aA.fact 1 Z) Z Z b) Z<|aD (cM Z (aA.fact 1 Z) Z Z b) Z<|aD (gY Z (zBe (aA.fact 1 Z) b.1 b.2) Z) Z<|aB Z<|aP<|aV<|iI (uV p0 p1 p2) (λa j=>[(2,vI (p2)),(13,(at' k p1).1),(14,vI ((at' p0.2 p1).length:Int)),(15,vI (a))]) (λa j=>[]) (0:Int) () h SF .nil ?_;intro o a j h;refine aX<|dM Z<|aP<|aM ?_;refine f_ h Z (λh=>?_) λh=>?_
  ·refine dC<|aM<|aV<|aX<|aB Z<|eB h λd h=>aD (b_ Z Z (zBe (aA.fact 1 Z) b.1 b.2) Z Z d) Z<|aD (fN (cs:=[vI ((at' (at' p0.2 p1) a).1),vI ((at' (at' p0.2 p1) a).2)]) Z (zBe (aA.fact 1 Z) b.1 b.2) bG Z Z Z Z d) Z<|aI (aN.alloc (cs:=MV) Z Z) Z λm=>aH Z<|bL 0 (vs:=[vI ((at' (at' p0.2 p1) a).1),vI ((at' (at' p0.2 p1) a).2)]) Z Z Z Z Z Z<|aP<|aX<|cA Z<|eW 0 Z<|aB Z<|eL Z<|aP ?_;refine f_ h Z (λh=>?_) λh=>?_
   ·refine aX<|aB Z<|aH Z<|aP<|aY<|cE<|aL<|aL<|cE<|aL ?_;cases h;exact zJ Z
   refine fV<|oV<|aT<|dK Z<|aB Z<|aP ?_;exact iN (wI .i64 (a+(1:Int))) () h SF .nil (aE.refl _ _)
  refine gC ?_;exact kC () (()) h SF Z
 intro e i h;unfold zG at h;refine aX<|aH Z<|aP<|aY ?_;cases h;exact mN Z
def DT  (a:Bool):Option Bool:=
 some (a)
def yC (a:Nat) (b:Int) (c:Int) (d:Int):Option Bool:=
 if c<=b then(DT  (decide (b<=d)))else(DT  (false))
def zR  (a:Unit):Option Bool:=
 some (true)
def zS (b:Int) (a:(Int)->Option Bool) (c:Unit):Option Bool:=
 a (wI .i64 (b+(1:Int)))
def j_ (d:fU) (b:Int) (e:(Int)->Option Bool) (a:Int) (c:(Int)->Option Bool):Option Bool:=
 if a<b then(ck (0<=a∧a<(d.length:Int)) (ck (0<=b∧b<(d.length:Int)) (if((at' d a).1)=((at' d b).1)then(some (false))else(c (wI .i64 (a+(1:Int)))))))else(zS b e (()))
def l_ (a:Nat) (e:fU) (d:Int) (c:(Int)->Option Bool) (b:Bool):Option Bool:=
 if b=true then(some (false))else(bP (j_ e d c) a (0:Int))
def pC (a:Nat) (c:fU) (g:Int) (h:Int) (b:Int) (d:(Int)->Option Bool):Option Bool:=
 if b<(c.length:Int)then(ck (0<=b∧b<(c.length:Int)) (Option.bind (yC a ((at' c b).1) (0:Int) (wI .i64 (h - (1:Int)))) λe=>(if(!e)=true then(l_ a c b d (true))else(ck (0<=b∧b<(c.length:Int)) (if((at' c b).1)=g then(l_ a c b d (true))else(ck (0<=b∧b<(c.length:Int)) (Option.bind (yC a ((at' c b).2) (1:Int) (15:Int)) λf=>(l_ a c b d ((!f))))))))))else(zR  (()))
def qO (a:Nat) (b:fU) (c:Int) (d:Int):Option Bool:=
 bP (pC a b c d) a (0:Int)
def Kp  (a:Unit):Option (Int):=
 some (-1:Int)
def BI (c:dL) (a:Int) (e:Int) (b:Int) (d:(Int)->Option (Int)):Option (Int):=
 ck (0<=a∧a<(c.2.length:Int)) (if b<((at' c.2 a).length:Int)then(ck (0<=a∧a<(c.2.length:Int)) (ck (0<=b∧b<((at' c.2 a).length:Int)) (if((at' (at' c.2 a) b).1)=e then(some (b))else(d (wI .i64 (b+(1:Int)))))))else(Kp  (())))
def CC (a:Nat) (b:dL) (c:Int) (d:Int):Option (Int):=
 bP (BI b c d) a (0:Int)
def AH (U:Nat) (a:ByteArray) (b:Int) (c:Int) (d:Int):Option ((ByteArray×Int×Int×Int×Int×Int)):=
 some ((a,(1:Int),(0:Int),b,c,d))
theorem aao:bB Tryz.prog 45:=Tryz.call45
theorem JU (U:Nat) {a:ByteArray} {b:Int} {d:Int} {e:Int} (r:(ByteArray×Int×Int×Int×Int×Int)) (h:AH U a b d e=some r):
  bO Tryz.prog 45 #[vS (a),vI (b),vI (d),vI (e)] [] (λx:Unit=>Value.agg #[vS (r.1),vI (r.2.1),vI (r.2.2.1),vI (r.2.2.2.1),vI (r.2.2.2.2.1),vI (r.2.2.2.2.2)]) (λx l=>l) (λ_ l=>l):=by
 refine bO.of Tryz.func45 Z Tryz.ntmps45 Z λc=>?_;unfold AH at h;refine aX<|aI (aN.alloc (cs:=vD1) Z Z) Z λf=>aP<|aX<|aB Z<|aB Z<|aB Z<|aB Z ?_;refine aD (Y.bld5 (r:=Value.agg #[vS (a),vI (1:Int),vI (0:Int),vI (b),vI (d),vI (e)]) Z Z Z Z Z (by intro w;simp[Instr.build,Instr.fill,dO,cV,cL,dQ,dR,cW,eN])) Z ?_;refine bL 0 (vs:=[vS (a),vI (1:Int),vI (0:Int),vI (b),vI (d),vI (e)]) Z Z Z Z Z Z<|aP<|aY ?_;cases h;exact jR () Z Z (RV.cell 0 Z Z Z Z) .nil aE.nil
def Bj  (a:Int):Option (Int):=
 some (a)
def Bl (c:bT) (a:fY) (b:gW->Option (Int)):Option (Int):=
 if a.2<(c.length:Int)then(ck (0<=a.2∧a.2<(c.length:Int)) (b ((max a.1 (at' c a.2)),(wI .i64 (a.2+(1:Int))))))else(Bj  (a.1))
def BY (a:Nat) (b:bT):Option (Int):=
 bP (Bl b) a ((-1:Int),(0:Int))
def tZ (b:dL) (a:gA):Option sV:=
 some ((b.1,a))
def lX (U:Nat) (b:wB) (d:dL) (a:Int×gA) (c:(Int×gA)->Option sV) (e:Bool):Option sV:=
 if e=true then(ck (0<=a.1∧a.1<(b.2.1.length:Int)) (Option.bind (iD U (at' b.2.1 a.1) (d.2.length:Int)) λf=>(ck (0<=(wI .i64 (a.1+(1:Int)))∧(wI .i64 (a.1+(1:Int)))<(b.2.1.length:Int)) (Option.bind (iD U (at' b.2.1 (wI .i64 (a.1+(1:Int)))) (d.2.length:Int)) λg=>(Option.bind (sJ U b.2.2.1 a.1) λh=>(Option.bind (iD U h (15:Int)) λi=>(Option.bind (mW U ((b.1,b.2.1,b.2.2.1,b.2.2.2.1,b.2.2.2.2.1,b.2.2.2.2.2)) ((d.1,a.2)) f g (wI .i64 ((1:Int)+i))) λj=>(c ((wI .i64 (a.1+(2:Int))),j)))))))))else(tZ d (a.2))
def pA (U:Nat) (c:wB) (d:dL) (a:Int×gA) (b:(Int×gA)->Option sV):Option sV:=
 if(wI .i64 (a.1+(1:Int)))<(c.2.1.length:Int)then(lX U c d a b (decide (a.1<(60:Int))))else(lX U c d a b (false))
def kS (U:Nat) (b:wB) (a:dL):Option sV:=
 bP (pA U b a) U ((a.2.length:Int),a.2)
theorem Uu:bB Tryz.prog 42:=Tryz.call42
theorem AP (U:Nat) {d:wB} {f:dL} (w:Value)  (o:Value)  (y:Value)  (g:Value)  (k:Value)  (W:cR) (r:tV) (h:kS U d f=some r):
  zE Tryz.prog 42 #[Value.agg #[vI (d.1),w,o,y,vB (d.2.2.2.2.1),vB (d.2.2.2.2.2)],Value.agg #[g,k]] [Ar eC g f.1,Ar aZ.raw k W,eH bD W f.2] [Sl aJ w d.2.1,Sl aJ o d.2.2.1,Sl aJ y d.2.2.2.1] (λx:Ou=>Value.agg #[x.1,x.2.1]) (λx l=>Ar eC x.1 r.1::Ar aZ.raw x.2.1 x.2.2::eH bD x.2.2 r.2::l):=by
 let v:=Sl aJ w d.2.1;let u:=Sl aJ o d.2.2.1;let t:=Sl aJ y d.2.2.2.1;let s:=(f.2.length:Int)
 refine zE.of (vs:=[Value.agg #[vI (d.1),w,o,y,vB (d.2.2.2.2.1),vB (d.2.2.2.2.2)],Value.agg #[g,k]]) Tryz.func42 Z Tryz.ntmps42 Z λc=>?_;unfold kS at h;refine aX<|aI (aN.box (cs:=[vI (d.1),w,o,y,vB (d.2.2.2.2.1),vB (d.2.2.2.2.2)]) Z Z) Z λN=>let q:=bI N [vI (d.1),w,o,y,vB (d.2.2.2.2.1),vB (d.2.2.2.2.2)] 24;aI (aN.box (cs:=[g,k]) Z Z) Z λL=>let n:=bI L [g,k] 31;aI (aN.alloc (cs:=[cJ,cJ]) Z Z) Z λM=>let m:=bI M [cJ,cJ] 31;aP<|aX<|cA Z<|eW 1 Z<|aD (eP Z (bZ (i:=4) (j:=5) Z Z bG) Z) Z<|aH Z<|aP<|aM<|iV (B:=cR) (λA=>tZ f A=some r) (λA C=>[(3,vP L),(4,vP M)]) (λA C=>[m,n,Ar eC g f.1,Ar aZ.raw k C,eH bD C A]) (λA C=>[v,u,t]) ?_ ?_
 ·refine aX<|aB Z<|aH Z<|aP<|aV<|mA (B:=cR) (pA U d f) (λa b=>[(2,vP N),(3,vP L),(4,vP M),(5,vI s),(6,vI (a.1))]) (λa b=>[m,n,q,Ar eC g f.1,Ar aZ.raw k b,eH bD b a.2]) (λa b=>[v,u,t]) (s,f.2) (W) h SF (aR.refl _) (aE.refl _ _) ?_;intro Q a b h;refine aM<|aM<|iV (B:=Unit) (λe=>lX U d f a (bP (pA U d f) Q) e=some r) (λe p=>[(2,vP N),(3,vP L),(4,vP M),(5,vI s),(6,vI (a.1)),(20,vB (e))]) (λe p=>[m,n,q,Ar eC g f.1,Ar aZ.raw k b,eH bD b a.2]) (λe p=>[v,u,t]) ?_ ?_
  ·refine aT<|aB Z<|dK Z<|cA Z<|eW 2 Z<|lT (aA.fact 0 Z) Z<|dM Z<|aB Z ?_;refine Fq h Z (λ_ h=>?_) λ_ h=>?_
   ·refine iA Z<|aS Z (FP Z Z) Z<|fX Z<|aP ?_;exact kC (decide (a.1<(60:Int))) () h SF Z
   refine aK Z<|aK Z<|fG Z<|aP ?_;exact kC (false) () h SF Z
  intro e p h;refine Bf h Z (λ_ h=>?_) λ_ h=>?_
  ·refine dC<|aM<|aV ?_;refine JR.start [0,0,0,4,0,28,60,0,252,0,512,0,2048,7680,15872,0,65532,0,131072,0,1048572,2097148,4194300,8388607] 23 mixedOrders (by decide +kernel) ?_;refine zBf (by exact rfl) ?_;refine gE 2 Z<|gE 1 Z<|cD Z<|fI 2 Z<|a_ Z<|eB h λI h=>bQ Z .nil (mK 0 Z) (b_ Z Z (aA.fact 0 Z) Z Z I) aO.z<|bQ Z .nil (mK 0 Z) (dJ Z (aA.fact 0 Z) Z Z Z gX I) aO.z<|a_ Z<|fZ h λR D h=>zBd Z Z Z (zBc Dw (lO U  R D) Z .nil) Z (λX=>(nL [([1],[]),([2],[])] Z)) λX=>i_ Z (eT Z Z Z Z Z)<|bQ Z (aR.cons 2 Z .nil) .nil (fS 0 Z Z Z Z Z) (aO.h (aR.ix [2] Z Z) .nil aO.z)<|i_ Z (iW Z)<|i_ Z (Co Z Z)<|eB h λJ h=>bQ Z .nil (mK 0 Z) (b_ Z Z (aA.fact 0 Z) Z Z J) (aO.h .nil (mK 0 Z) aO.z)<|bQ Z .nil (mK 0 Z) (dJ Z (aA.fact 0 Z) Z Z Z gX J) (aO.h .nil (mK 0 Z) aO.z)<|i_ Z (iW Z)<|fZ h λS E h=>zBd Z Z Z (zBc Dw (lO U  S E) Z .nil) Z (λY=>(nL [([1],[]),([2],[])] Z)) λY=>i_ Z (eT Z Z Z Z Z)<|bQ Z (aR.cons 2 Z .nil) .nil (fS 0 Z Z Z Z Z) (aO.h (aR.ix [2] Z Z) .nil (aO.h (aR.ix [2] Z Z) .nil aO.z))<|i_ Z (iW Z)<|fZ h λT F h=>zBd Z Z Z (zBc Jf (AS U o T F) Z (g_ [1] Z)) Z (λaa=>(nL [([1],[]),([2],[])] Z)) λaa=>fZ h λV G h=>zBd Z Z Z (zBc Dw (lO U  V G) Z .nil) Z (λab=>(nL [([1],[]),([2],[])] Z)) λab=>i_ Z (Co Z Z)<|bS 23 Z Z<|fZ h λK H h=>aI (Ao (Min:=[Ar aZ.raw k b,eH bD b a.2]) (Mr:=[m,n,q,Ar eC g f.1]) UA (AO U w o y g k b K H) Z (aR.ix [4,5,0,1,2,3] Z Z) (aE.cons (aA.fact 0 Z) (aE.cons (aA.fact 1 Z) (aE.cons (aA.fact 2 Z) (aE.cons (cB (aA.res 3 Z) fO) .nil)))) (λ_ _=>rfl)) Z λac=>fH<|oV<|aT<|aB Z<|dK Z<|aH Z<|aP ?_;exact iN ((wI .i64 (a.1+(2:Int))),K) (ac) h SF (aR.ix [2,3,4,5,0,1] Z Z) (aE.refl _ _)
  refine gC ?_;exact cK (a.2) (b) h SF (aR.ix [0,1,3,4,5] Z Z) (aE.refl _ _)
 intro A C h;unfold tZ at h;refine aX<|cY 1 Z<|aQ (Know.one ((cB (aA.res 2 Z) fO))) λO=>aQ (Know.one (aA.sl (bZ (i:=3) (j:=4) Z Z bG))) λP=>bL 0 (vs:=[g,k]) Z Z (dH O (dH P Z)) Z Z Z<|aP<|aY ?_;cases h;exact jR (g,k,C) Z Z (RV.cell 0 Z Z Z Z) (aR.ix [2,3,4] Z Z) aE.nil
def lS (U:Nat) (a:wB) (d:Int):Option sV:=
 Option.bind (jG U ((a.1,a.2.1,a.2.2.1,a.2.2.2.1,a.2.2.2.2.1,a.2.2.2.2.2)) d) λb=>(Option.bind (kS U ((a.1,a.2.1,a.2.2.1,a.2.2.2.1,a.2.2.2.2.1,a.2.2.2.2.2)) ((b.1,b.2))) λc=>(some ((c.1,c.2))))
theorem abO:bB Tryz.prog 8:=Tryz.call8
theorem Cc (U:Nat) {a:wB} {o:Int} (d:Value)  (e:Value)  (f:Value) (r:tV) (h:lS U a o=some r):
  bO Tryz.prog 8 #[Value.agg #[vI (a.1),d,e,f,vB (a.2.2.2.2.1),vB (a.2.2.2.2.2)],vI (o)] [Sl aJ d a.2.1,Sl aJ e a.2.2.1,Sl aJ f a.2.2.2.1] (λx:Ou=>Value.agg #[x.1,x.2.1]) (λx l=>Ar eC x.1 r.1::Ar aZ.raw x.2.1 x.2.2::eH bD x.2.2 r.2::l) (λ_ l=>l):=by
 refine bO.of Tryz.func8 Z Tryz.ntmps8 Z λc=>?_;refine aX<|aI (aN.box (cs:=[vI (a.1),d,e,f,vB (a.2.2.2.2.1),vB (a.2.2.2.2.2)]) Z Z) Z λp=>aI (aN.alloc (cs:=[cJ,cJ]) Z Z) Z λq=>aP<|aM ?_;refine JR.start [0,0,0,6,15,31] 4 mixedOrders (by decide +kernel) ?_;refine zBf (by exact rfl) ?_;refine gE 1 Z<|gE 1 Z<|a_ Z<|fZ h λn t h=>zBd Z Z Z (zBc Ps (vQ U d e f n t) Z (g_ [0,1,2] Z)) Z (λb=>(nL [([4],[])] Z)) λb=>bS 4 Z Z<|fZ h λs u h=>aI (Ao (Min:=[Ar eC b.1 n.1,Ar aZ.raw b.2.1 b.2.2,eH bD b.2.2 n.2]) (Mr:=[bI q [cJ,cJ] 31,bI p [vI (a.1),d,e,f,vB (a.2.2.2.2.1),vB (a.2.2.2.2.2)] 24]) Uu (AP U d e f b.1 b.2.1 b.2.2 s u) Z (aR.refl _) (g_ [0,1,2] Z) (λ_ _=>rfl)) Z λk=>aQ (Know.one ((cB (aA.res 0 Z) fO))) λm=>aQ (Know.one (aA.sl (bZ (i:=1) (j:=2) Z Z bG))) λg=>bL 3 (vs:=[k.1,k.2.1]) Z Z (dH m (dH g Z)) Z Z Z<|aP<|aY ?_;cases h;exact jR (k.1,k.2.1,k.2.2) Z Z (RV.cell 3 Z Z Z Z) (aR.ix [0,1,2] Z Z) aE.nil
def oH (U:Nat) (a:wB) (c:Int):Option sV:=
 if(!a.2.2.2.2.1)=true then(Option.bind (lS U ((a.1,a.2.1,a.2.2.1,a.2.2.2.1,a.2.2.2.2.1,a.2.2.2.2.2)) c) λd=>(some ((d.1,d.2))))else(Option.bind (lZ U ((a.1,a.2.1,a.2.2.1,a.2.2.2.1,a.2.2.2.2.1,a.2.2.2.2.2)) c) λe=>(Option.bind (kS U ((a.1,a.2.1,a.2.2.1,a.2.2.2.1,a.2.2.2.2.1,a.2.2.2.2.2)) ((e.1,e.2))) λb=>(some ((b.1,b.2)))))
theorem aaj:bB Tryz.prog 33:=Tryz.call33
theorem Gv (U:Nat) {b:wB} {v:Int} (e:Value)  (f:Value)  (g:Value) (r:tV) (h:oH U b v=some r):
  bO Tryz.prog 33 #[Value.agg #[vI (b.1),e,f,g,vB (b.2.2.2.2.1),vB (b.2.2.2.2.2)],vI (v)] [Sl aJ e b.2.1,Sl aJ f b.2.2.1,Sl aJ g b.2.2.2.1] (λx:Ou=>Value.agg #[x.1,x.2.1]) (λx l=>Ar eC x.1 r.1::Ar aZ.raw x.2.1 x.2.2::eH bD x.2.2 r.2::l) (λ_ l=>l):=by
 refine bO.of Tryz.func33 Z Tryz.ntmps33 Z λc=>?_;refine aX<|aI (aN.box (cs:=[vI (b.1),e,f,g,vB (b.2.2.2.2.1),vB (b.2.2.2.2.2)]) Z Z) Z λw=>aI (aN.alloc (cs:=[cJ,cJ]) Z Z) Z λy=>aP<|aM<|aX<|cA Z<|eW 1 Z<|aD (wL Z) Z<|aP ?_;refine Bf h Z (λ_ h=>?_) λ_ h=>?_
 ·refine aX<|cY 1 Z<|aB Z<|fZ h λz A h=>aI (zBc abO (Cc U e f g z A) Z (g_ [0,1,2] Z)) Z λn=>aQ (Know.one ((cB (aA.res 0 Z) fO))) λo=>aQ (Know.one (aA.sl (bZ (i:=1) (j:=2) Z Z bG))) λp=>bL 3 (vs:=[n.1,n.2.1]) Z Z (dH o (dH p Z)) Z Z Z<|aP<|aY<|aL ?_;cases h;exact jR (n.1,n.2.1,n.2.2) Z Z (RV.cell 3 Z Z Z Z) (aR.ix [0,1,2] Z Z) aE.nil
 refine dC<|aM ?_;refine JR.start [0,0,0,6,15,31] 4 mixedOrders (by decide +kernel) ?_;refine zBf (by exact rfl) ?_;refine gE 1 Z<|gE 1 Z<|a_ Z<|fZ h λs t h=>zBd Z Z Z (zBc Uz (zT U e f g s t) Z (g_ [0,1,2] Z)) Z (λa=>(nL [([4],[])] Z)) λa=>bS 4 Z Z<|fZ h λq u h=>aI (Ao (Min:=[Ar eC a.1 s.1,Ar aZ.raw a.2.1 a.2.2,eH bD a.2.2 s.2]) (Mr:=[bI y [cJ,cJ] 31,bI w [vI (b.1),e,f,g,vB (b.2.2.2.2.1),vB (b.2.2.2.2.2)] 24]) Uu (AP U e f g a.1 a.2.1 a.2.2 q u) Z (aR.refl _) (g_ [0,1,2] Z) (λ_ _=>rfl)) Z λd=>aQ (Know.one ((cB (aA.res 0 Z) fO))) λk=>aQ (Know.one (aA.sl (bZ (i:=1) (j:=2) Z Z bG))) λm=>bL 3 (vs:=[d.1,d.2.1]) Z Z (dH k (dH m Z)) Z Z Z<|aP<|aY ?_;cases h;exact jR (d.1,d.2.1,d.2.2) Z Z (RV.cell 3 Z Z Z Z) (aR.ix [0,1,2] Z Z) aE.nil
def vD  (a:bM):Option bM:=
 some (a)
def zP (a:bM×Int) (c:AU->Option bM) (b:bT):Option bM:=
 ck ((a.1.length:Int)+(List.length ([b]):Int)<=1099511627) (c ((a.1++[b]),(wI .i64 (a.2+(1:Int)))))
def nY (U:Nat) (g:GG) (h:bT) (e:bM×Int) (a:bT×Int) (c:(bT×Int)->Option bM) (b:fY):Option bM:=
 Option.bind (sJ U h (wI .i64 ((wI .i64 (e.2*(g.length:Int)))+a.2))) λf=>(Option.bind (iD U f (wI .i64 ((wI .i64 (b.2 - b.1))+(1:Int)))) λd=>(ck ((a.1.length:Int)+(List.length ([(wI .i64 (b.1+d))]):Int)<=1099511627) (c ((a.1++([(wI .i64 (b.1+d))])),(wI .i64 (a.2+(1:Int)))))))
def nZ (U:Nat) (f:dL) (c:GG) (g:bT) (h:Int) (b:bM×Int) (e:AU->Option bM) (a:bT×Int) (d:(bT×Int)->Option bM):Option bM:=
 if a.2<(c.length:Int)then(ck (0<=a.2∧a.2<(c.length:Int)) (ck (0<=a.2∧a.2<(c.length:Int)) (ck (0<=a.2∧a.2<(c.length:Int)) (ck (0<=a.2∧a.2<(c.length:Int)) (ck (0<=a.2∧a.2<(c.length:Int)) (if((at' c a.2).2.1)=(2:Int)then(nY U c g b a d ((0:Int),(1:Int)))else(if((at' c a.2).2.1)=(3:Int)then(ck (0<=b.2∧b.2<(f.2.length:Int)) (nY U c g b a d ((-1:Int),(wI .i64 (((at' f.2 b.2).length:Int) - (1:Int))))))else(nY U c g b a d (((at' c a.2).2.2.1),(wI .i64 ((wI .i64 (((at' c a.2).2.2.2.1)+(wI .i64 (((at' c a.2).2.2.2.2.1)*(f.2.length:Int)))))+(wI .i64 (((at' c a.2).2.2.2.2.2)*h)))))))))))))else(zP b e (a.1))
def kF (U:Nat) (c:dL) (e:GG) (f:bT) (d:Int) (a:bM×Int) (b:AU->Option bM):Option bM:=
 if a.2<(c.2.length:Int)then(bP (nZ U c e f d a b) U (([]:bT),(0:Int)))else(vD  (a.1))
def rE (U:Nat) (b:dL) (c:GG) (d:bT) (a:Int):Option bM:=
 bP (kF U b c d a) U (([]:bM),(0:Int))
def vE (U:Nat) (c:dL) (d:GG) (e:bT) (a:fY) (b:gW->Option bM):Option bM:=
 if a.2<(c.2.length:Int)then(ck (0<=a.2∧a.2<(c.1.length:Int)) (b ((max a.1 (at' c.1 a.2)),(wI .i64 (a.2+(1:Int))))))else(rE U c d e (a.1))
def lL (U:Nat) (a:dL) (b:GG) (c:bT):Option bM:=
 bP (vE U a b c) U ((0:Int),(0:Int))
theorem aak:bB Tryz.prog 34:=Tryz.call34
theorem JX (U:Nat) {p:dL} {s:GG} {u:bT} (W:Value)  (X:Value)  (z2:iZ)  (F:Value)  (y:Value) (r:bM) (h:lL U p s u=some r):
  bO Tryz.prog 34 #[Value.agg #[W,X],F,y] [Sl aJ W p.1,S2 aW X z2 p.2,Sl aG F s,Sl aJ y u] (λx:Fa=>x.1) (λx l=>Ar aZ.raw x.1 x.2::eH eC x.2 r::l) (λ_ l=>l):=by
 let k:=(p.2.length:Int)
 refine bO.of Tryz.func34 Z Tryz.ntmps34 Z λc=>?_;unfold lL at h;refine aX<|aI (aN.box (cs:=[W,X]) Z Z) Z λG=>let o:=bI G [W,X] 31;aH Z<|aP<|aX<|cA Z<|eW 0 Z<|aD (eP Z (aA.fact 1 Z) Z) Z<|aH Z<|aH Z<|aP<|aM<|jH (λm=>rE U p s u m=some r) (λm b4=>[(1,F),(2,y),(3,vP G),(7,vI k),(8,vI (m))]) (λm b4=>[o]) ?_ ?_
 ·refine aX<|aH Z<|aP<|aV<|iI (vE U p s u) (λf M=>[(1,F),(2,y),(3,vP G),(7,vI k),(8,vI (f.1)),(9,vI (f.2))]) (λf M=>[o]) ((0:Int),(0:Int)) () h SF (aR.refl _) ?_;intro ah f M h;refine aM<|aX<|aB Z<|aB Z<|dM Z<|aP ?_;refine f_ h Z (λh=>?_) λh=>?_
  ·refine dC<|aM<|aV<|aT<|aB Z<|cA Z<|eW 0 Z<|aB Z<|eB h λT h=>aD (b_ Z Z (aA.fact 0 Z) Z Z T) Z<|aD (dJ Z (aA.fact 0 Z) Z Z Z gX T) Z<|aD (I_ Z Z) Z<|aH Z<|fH<|oV<|aT<|aB Z<|dK Z<|aH Z<|aP ?_;exact Bw ((max f.1 (at' p.1 f.2)),(wI .i64 (f.2+(1:Int)))) () h SF Z
  refine gC ?_;exact kC (f.1) () h SF Z
 intro m b4 h;unfold rE at h;refine aX<|aH Z<|aP<|aM<|DN (B:=Fa) (λK=>vD  K=some r) (λK A=>[(10,A.1)]) (λK A=>[Ar aZ.raw A.1 A.2,eH eC A.2 K]) ?_ ?_
 ·refine aX<|aH Z<|aP<|aV<|cG (gZ aZ.raw) (cG (mF eC) ?_);refine iI (B:=Fa) (kF U p s u m) (λa b=>[(1,F),(2,y),(3,vP G),(7,vI k),(8,vI (m)),(10,b.1),(11,vI (a.2))]) (λa b=>[o,Ar aZ.raw b.1 b.2,eH eC b.2 a.1]) (([]:bM),(0:Int)) ((cJ),([]:cR)) h SF (aR.ix [2,1,0] Z Z) ?_;intro aa a b h;let J:=eH eC b.2 a.1;let I:=Ar aZ.raw b.1 b.2;let H:=(bP (kF U p s u m) aa)
  refine aM<|aX<|aB Z<|aB Z<|dM Z<|aP ?_;refine f_ h Z (λh=>?_) λh=>?_
  ·refine dC<|aM<|aV<|aX<|aH Z<|aP<|aM<|DN (B:=Value) (λn=>zP a H n=some r) (λn g=>[(1,F),(2,y),(3,vP G),(7,vI k),(8,vI (m)),(10,b.1),(11,vI (a.2)),(12,g)]) (λn g=>[o,I,J,Ar eC g n]) ?_ ?_
   ·refine aX<|aH Z<|aP<|aV<|cG (gZ eC)<|iI (B:=Value) (nZ U p s u m a H) (λd j=>[(1,F),(2,y),(3,vP G),(7,vI k),(8,vI (m)),(10,b.1),(11,vI (a.2)),(12,j),(13,vI (d.2))]) (λd j=>[o,I,J,Ar eC j d.1]) (([]:bT),(0:Int)) (cJ) h SF (aR.ix [1,2,3,0] Z Z) ?_;intro ab d j h;let w:=(at' s d.2)
    refine aM<|aX<|aB Z<|aB Z<|lT (aA.fact 2 Z) Z<|dM Z<|aP ?_;refine f_ h Z (λh=>?_) λh=>?_
    ·refine dC<|aM<|aV<|aM ?_;refine JR.start [0,0,3,7,15,0,0,96,224,480,0,0,3072,7168,15360,0,64512,131040,0,0,786432,1835008,3932160,0,16515072,33554400,31,134217727] 27 mixedOrders (by decide +kernel) ?_;refine zBf (by exact rfl) ?_;refine a_ Z<|a_ Z<|eB h λO h=>bQ Z .nil (mK 2 Z) (b_ Z Z (aA.fact 0 Z) Z Z O) aO.z<|i_ Z (nS Z Z Z Z Z)<|bQ Z .nil (mK 2 Z) (qL Z (aA.fact 0 Z) Z Z Z Dd O) aO.z<|a_ Z<|a_ Z<|eB h λP h=>bQ Z .nil (mK 2 Z) (b_ Z Z (aA.fact 0 Z) Z Z P) aO.z<|i_ Z (nS Z Z Z Z Z)<|bQ Z .nil (mK 2 Z) (qL Z (aA.fact 0 Z) Z Z Z De P) aO.z<|a_ Z<|a_ Z<|eB h λQ h=>bQ Z .nil (mK 2 Z) (b_ Z Z (aA.fact 0 Z) Z Z Q) aO.z<|i_ Z (nS Z Z Z Z Z)<|bQ Z .nil (mK 2 Z) (qL Z (aA.fact 0 Z) Z Z Z Df Q) aO.z<|a_ Z<|i_ Z (Fh Z Z)<|i_ Z (Co Z Z)<|a_ Z<|a_ Z<|eB h λR h=>bQ Z .nil (mK 2 Z) (b_ Z Z (aA.fact 0 Z) Z Z R) aO.z<|i_ Z (nS Z Z Z Z Z)<|bQ Z .nil (mK 2 Z) (qL Z (aA.fact 0 Z) Z Z Z Dg R) aO.z<|a_ Z<|i_ Z (Fh Z Z)<|i_ Z (Co Z Z)<|i_ Z (Du Z)<|bS 27 Z Z<|aH Z<|aP<|aM<|jH (λi=>nY U s u a d (bP (nZ U p s u m a H) ab) i=some r) (λi L=>[(1,F),(2,y),(3,vP G),(7,vI k),(8,vI (m)),(10,b.1),(11,vI (a.2)),(12,j),(13,vI (d.2)),(14,vI (i.1)),(15,vI (i.2))]) (λi L=>[o,I,J,Ar eC j d.1]) ?_ ?_
     ·refine aX<|aB Z<|aB Z<|eB h λS h=>aD (b_ Z Z (aA.fact 2 Z) Z Z S) Z<|aD (nS Z Z Z Z Z) Z<|aD (qL Z (aA.fact 2 Z) Z Z Z xU S) Z<|aP<|aV<|aX<|eL Z<|aH Z<|aP ?_;refine f_ h Z (λh=>?_) λh=>?_
      ·refine aT<|aH Z<|aH Z<|fH<|oV ?_;exact kC ((0:Int),(1:Int)) () h SF Z
      refine aX<|eL Z<|aH Z<|aP ?_;refine f_ h Z (λh=>?_) λh=>?_
      ·refine JR.start [0,1,0,7,15,31,63,0,255] 8 mixedOrders (by decide +kernel) ?_;refine zBf (by exact rfl) ?_;refine cD Z<|fI 0 Z<|a_ Z<|eB h λt h=>bQ Z .nil (mK 1 Z) (bV Z Z (aA.fact 0 Z) Z Z t) aO.z<|bQ Z .nil (mK 1 Z) (cM Z (aA.fact 0 Z) Z Z t) aO.z<|bQ Z .nil (mK 1 Z) (gY Z (zBe (aA.fact 0 Z) t.1 t.2) Z) aO.z<|i_ Z (Au Z Z)<|i_ Z (Du Z)<|bS 8 Z Z<|aH Z<|fH<|oV ?_;exact kC ((-1:Int),(wI .i64 (((at' p.2 a.2).length:Int) - (1:Int)))) () h SF Z
      refine fV<|oV ?_;exact kC ((w.2.2.1),(wI .i64 ((wI .i64 ((w.2.2.2.1)+(wI .i64 ((w.2.2.2.2.1)*k))))+(wI .i64 ((w.2.2.2.2.2)*m))))) () h SF Z
     intro i L h;refine aT<|aB Z<|aB Z<|aB Z<|aB Z<|aB Z<|lT (aA.fact 2 Z) Z<|aD (Fh Z Z) Z<|aB Z<|dK Z<|fZ h λac af h=>aI (zBc Jf (AS U y ac af) Z (g_ [3] Z)) Z λak=>aB Z<|aB Z<|aD (Au Z Z) Z<|dK Z<|fZ h λV ag h=>let v:=(wI .i64 (i.1+V));aI (zBc Dw (lO U  V ag) Z .nil) Z λal=>dK Z<|aI (cU (e:=eC) ([v]) [(0,vI v)] Z Z Z Z (uF (vI v) Z) Z Z Z) Z λaj=>eB h λY h=>aI (mB 4 fO Z Z Z (cB (aA.res 0 Z) fO) Z Z Z Z Y Z) Z λae=>aH Z<|fH<|oV<|aT<|aB Z<|dK Z<|aH Z<|aP ?_
     exact iN ((d.1++([v])),(wI .i64 (d.2+(1:Int)))) (ae) h SF (aR.ix [1,2,3,4] Z Z) (aE.refl _ _)
    refine gC ?_;exact kC (d.1) (j) h SF Z
   intro n g h;refine aT<|aB Z<|aB Z<|cG (mF eC)<|aQ (Know.one ((cB (aA.res 4 Z) fO))) λE=>cG (Ff 0 4 Z Z Z) ?_;refine aI (cU (e:=aZ.raw) [g] [(0,g)] Z Z Z Z (uF (g) E) Z Z (by simp[cellsOf,aZ.raw,E])) Z λai=>?_;refine aQ (cH 4 Z) λC=>aQ (cH 1 Z) λD=>eB h λN h=>cG (Dr 4 1 Z Z Z) ?_;refine aI (aN.append 2 0 Z Z Z Z Z Z Z (by have q:=N;have q1:=C;have q2:=D;(try simp only[zAk,zB5]at q q1 q2 ⊢);omega) (by have q:=N;have q1:=C;have q2:=D;(try simp only[zAk,zB5]at q q1 q2 ⊢);omega) Z) Z λad=>?_;refine aH Z<|fH<|oV<|aT<|aB Z<|dK Z<|aH Z<|aP ?_;exact iN ((a.1++[n]),(wI .i64 (a.2+(1:Int)))) (ad,(b.2++[g])) h SF (aR.ix [1,2,3] Z Z) (aE.refl _ _)
  refine gC ?_;exact cK (a.1) (b.1,b.2) h SF (aR.ix [1,2] Z Z) (aE.refl _ _)
 intro K A h;unfold vD at h;refine aX<|aB Z<|aH Z<|aP<|aY ?_;cases h;exact jR (A.1,A.2) Z Z (RV.tmp Z) (aR.refl _) aE.nil
def CE (U:Nat)  : Option ((List (ByteArray×Int×Int×Int×Int×Int))):=
 Option.bind (AH U (ByteArray.mk #[99]) (0:Int) (1:Int) (0:Int)) λa=>(some ([(a.1,a.2.1,a.2.2.1,a.2.2.2.1,a.2.2.2.2.1,a.2.2.2.2.2)]))
theorem aal:bB Tryz.prog 35:=Tryz.call35
theorem MF (U:Nat)  (r:(List (ByteArray×Int×Int×Int×Int×Int))) (h:CE U  = some r):
  bO Tryz.prog 35 #[] [] (λx:Value=>x) (λx l=>Ar tW x r::l) (λ_ l=>l):=by
 refine bO.of Tryz.func35 Z Tryz.ntmps35 Z λc=>?_;refine aX<|aH Z<|aP<|aX<|fZ h λa d h=>aI (zBc aao (JU U  a d) Z .nil) Z λf=>aI (cU (e:=tW) ([((a.1,a.2.1,a.2.2.1,a.2.2.2.1,a.2.2.2.2.1,a.2.2.2.2.2))]) [(0,Value.agg #[vS (a.1),vI (a.2.1),vI (a.2.2.1),vI (a.2.2.2.1),vI (a.2.2.2.2.1),vI (a.2.2.2.2.2)])] Z Z Z Z (Vf (vS (a.1)) (vI (a.2.1)) (vI (a.2.2.1)) (vI (a.2.2.2.1)) (vI (a.2.2.2.2.1)) (vI (a.2.2.2.2.2))) Z Z Z) Z λb=>aH Z<|aP<|aY ?_;cases h;exact jR (b) Z Z (RV.tmp Z) (aR.refl _) aE.nil
def rU  (a:Unit):Option Bool:=
 some (true)
def rV (c:bT) (d:bT) (a:Int) (b:(Int)->Option Bool):Option Bool:=
 if a<(c.length:Int)then(ck (0<=a∧a<(c.length:Int)) (ck (0<=a∧a<(d.length:Int)) (if(at' c a)≠(at' d a)then(some (false))else(b (wI .i64 (a+(1:Int)))))))else(rU  (()))
def tC (U:Nat) (a:bT) (b:bT):Option Bool:=
 if(a.length:Int)≠(b.length:Int)then(some (false))else(bP (rV a b) U (0:Int))
theorem aaq:bB Tryz.prog 62:=Tryz.call62
theorem HF (U:Nat) {f:bT} {g:bT} (i:Value)  (j:Value) (r:Bool) (h:tC U f g=some r):
  bO Tryz.prog 62 #[i,j] [Sl aJ i f,Sl aJ j g] (λx:Unit=>vB (r)) (λx l=>l) (λ_ l=>l):=by
 refine bO.of Tryz.func62 Z Tryz.ntmps62 Z λc=>?_;refine aX<|aH Z<|aP<|aM<|aX<|aB Z<|lT (aA.fact 0 Z) Z<|aB Z<|lT (aA.fact 1 Z) Z<|oM Z<|aP ?_;refine f_ h Z (λh=>?_) λh=>?_
 ·refine aX<|aH Z<|aP<|aY<|aL ?_;cases h;exact mN Z
 refine dC<|aM<|jH (λd=>rU  d=some r) (λd k=>[]) (λd k=>[]) ?_ ?_
 ·refine aX<|aH Z<|aP<|aV<|iI (rV f g) (λe m=>[(0,i),(1,j),(5,vI (e))]) (λe m=>[]) (0:Int) () h SF (aR.refl _) ?_;intro n e m h;refine aM<|aX<|aB Z<|aB Z<|lT (aA.fact 0 Z) Z<|dM Z<|aP ?_;refine f_ h Z (λh=>?_) λh=>?_
  ·refine dC<|aM<|aV<|aM ?_;refine JR.start [0,0,3,7,0,0,48,112,255] 8 mixedOrders (by decide +kernel) ?_;refine zBf (by exact rfl) ?_;refine a_ Z<|a_ Z<|eB h λa h=>bQ Z .nil (mK 0 Z) (b_ Z Z (aA.fact 0 Z) Z Z a) aO.z<|bQ Z .nil (mK 0 Z) (dJ Z (aA.fact 0 Z) Z Z Z gX a) aO.z<|a_ Z<|a_ Z<|eB h λb h=>bQ Z .nil (mK 1 Z) (b_ Z Z (aA.fact 0 Z) Z Z b) aO.z<|bQ Z .nil (mK 1 Z) (dJ Z (aA.fact 0 Z) Z Z Z gX b) aO.z<|bS 8 Z Z<|oM Z<|aP ?_;refine f_ h Z (λh=>?_) λh=>?_
   ·refine aX<|aH Z<|aP<|aY<|cE<|aL<|aL<|cE<|aL ?_;cases h;exact mN Z
   refine fV<|oV<|aT<|aB Z<|dK Z<|aH Z<|aP ?_;exact Bw (wI .i64 (e+(1:Int))) () h SF Z
  refine gC ?_;exact kC () (()) h SF Z
 intro d k h;unfold rU at h;refine aX<|aH Z<|aP<|aY ?_;cases h;exact mN Z
def DU  (a:Unit):Option Bool:=
 some (true)
def DV (b:Int) (a:(Int)->Option Bool) (c:Unit):Option Bool:=
 a (wI .i64 (b+(1:Int)))
def AK (b:Int) (a:(Int)->Option Bool) (c:Bool):Option Bool:=
 if c=true then(some (false))else(a (wI .i64 (b+(1:Int))))
def nA (g:Nat) (c:dL) (a:Int) (f:(Int)->Option Bool) (b:Int) (e:(Int)->Option Bool):Option Bool:=
 ck (0<=a∧a<(c.2.length:Int)) (if b<((at' c.2 a).length:Int)then(ck (0<=a∧a<(c.2.length:Int)) (ck (0<=b∧b<((at' c.2 a).length:Int)) (Option.bind (CC g ((c.1,c.2)) ((at' (at' c.2 a) b).1) a) λd=>(if d<(0:Int)then(AK b e (true))else(ck (0<=((at' (at' c.2 a) b).1)∧((at' (at' c.2 a) b).1)<(c.2.length:Int)) (ck (0<=d∧d<((at' c.2 ((at' (at' c.2 a) b).1)).length:Int)) (AK b e (decide (((at' (at' c.2 ((at' (at' c.2 a) b).1)) d).2)≠((at' (at' c.2 a) b).2))))))))))else(DV a f (())))
def sM (a:Nat) (d:dL) (b:Int) (c:(Int)->Option Bool):Option Bool:=
 if b<(d.2.length:Int)then(bP (nA a d b c) a (0:Int))else(DU  (()))
def AJ (a:Nat) (b:dL) (c:Unit):Option Bool:=
 bP (sM a b) a (0:Int)
def DW (b:Int) (a:(Int)->Option Bool) (c:Unit):Option Bool:=
 a (wI .i64 (b+(1:Int)))
def pS (e:dL) (a:Int) (c:(Int)->Option Bool) (b:Int) (d:(Int)->Option Bool):Option Bool:=
 if b<a then(ck (0<=b∧b<(e.1.length:Int)) (ck (0<=a∧a<(e.1.length:Int)) (if(at' e.1 b)=(at' e.1 a)then(some (false))else(d (wI .i64 (b+(1:Int)))))))else(DW a c (()))
def sL (b:Nat) (e:dL) (c:Int) (a:(Int)->Option Bool) (d:Bool):Option Bool:=
 if d=true then(some (false))else(bP (pS e c a) b (0:Int))
def sN (b:Nat) (c:dL) (a:Int) (d:(Int)->Option Bool):Option Bool:=
 if a<(c.2.length:Int)then(ck (0<=a∧a<(c.1.length:Int)) (Option.bind (yC b (at' c.1 a) (0:Int) (255:Int)) λe=>(if(!e)=true then(sL b c a d (true))else(ck (0<=a∧a<(c.2.length:Int)) (if(c.2.length:Int)<=((at' c.2 a).length:Int)then(sL b c a d (true))else(ck (0<=a∧a<(c.2.length:Int)) (Option.bind (qO b (at' c.2 a) a (c.2.length:Int)) λf=>(sL b c a d ((!f))))))))))else(AJ b c (()))
def AI (a:Nat) (c:dL) (b:Bool):Option Bool:=
 if b=true then(some (false))else(bP (sN a c) a (0:Int))
def yO (a:Nat) (b:dL):Option Bool:=
 Option.bind (yC a (b.2.length:Int) (1:Int) (24:Int)) λc=>(if(!c)=true then(AI a b (true))else(AI a b (decide ((b.1.length:Int)≠(b.2.length:Int)))))
end Go.Proofs.YtflciafboapaaaaGreat