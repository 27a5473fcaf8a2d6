/- Models and proofs. Conditions: none. -/
import Derived.Test.YtflciafboapaaaaGreatZRAr14
set_option linter.unusedVariables false
set_option linter.unusedSimpArgs false
set_option maxHeartbeats 4000000
set_option maxRecDepth 20000
open Go.Proofs.Tryz
variable (U:Nat)
namespace Go.Proofs.YtflciafboapaaaaGreat
open Go.Sx
def AN (a:Unit):V1 V4:=
 some (true)
def AO (b:Int) (a:(Int)->V1 V4) (c:V4):V1 V4:=
 if c=true then(some (false))else(a (wI .i64 (b+(1:Int))))
def r_ (c:bJ) (e:aX) (a:Int) (b:(Int)->V1 V4) (d:Int):V1 V4:=
 ck (0<=(0:Int)/\(0:Int)<((at' c a).length:Int)) (ck (0<=a/\a<(e.length:Int)) (if(at' (at' c a) (0:Int))≠(at' e a)then(AO a b (true))else(ck (0<=(1:Int)/\(1:Int)<((at' c a).length:Int)) (AO a b (decide ((at' (at' c a) (1:Int))≠d))))))
def sA (d:bJ) (e:aX) (b:Int) (a:(Int)->V1 V4) (c:Int):V1 V4:=
 r_ d e b a (c)
def AP (d:bJ) (e:aX) (b:Int) (a:(Int)->V1 V4) (c:Unit):V1 V4:=
 sA d e b a (-1:Int)
def vY (e:b_) (h:bJ) (g:aX) (a:Int) (c:(Int)->V1 V4) (b:Int) (d:(Int)->V1 V4):V1 V4:=
 if b<((at' e.2 a).length:Int)then(ck (0<=b/\b<((at' e.2 a).length:Int)) (Option.bind (y_ U ((((at' (at' e.2 a) b).1),((at' (at' e.2 a) b).2))) g a) λf=>(if f=true then(sA h g a c (b))else(d (wI .i64 (b+(1:Int)))))))else(AP h g a c (()))
def jZ (d:b_) (c:bJ) (e:aX) (a:Int) (b:(Int)->V1 V4):V1 V4:=
 if a<(c.length:Int)then(ck (0<=a/\a<(c.length:Int)) (if a≠(0:Int)then(ck (0<=a/\a<(d.2.length:Int)) (bE (vY U d c e a b) U (0:Int)))else(r_ c e a b (-1:Int))))else(AN (()))
def yD (a:b_) (b:bJ):V1 V4:=
 Option.bind (pR U ((a.1,a.2)) b) λc=>(if(!c)=true then(some (false))else(Option.bind (nJ U ((a.1,a.2))) λd=>(bE (jZ U a b d) U (0:Int))))
theorem ahI:aU prog 90:=call90
theorem OV (U:Nat) {i:b_} {s:bJ} (y C:V0) (R:kI) (F:V0) (T:mC) (r:Bool) (h:yD U i s=some r):
  aZ prog 90 #[Value.agg #[y,C],F] [Sl aK y i.1,S2 aR C R i.2,S2 aK F T s] (λx:Unit=>vB (r)) (λx l=>l) (λ_ l=>l):=by
 let E:=vI (s.length:Int);refine aZ.of func90 Z ntmps90 Z λc=>?_;refine aT<|aI (aN.box (cs:=[y,C]) Z Z) Z λS=>let m:=bG S [y,C] 31;aC Z<|aO<|aL<|aT<|cL 0 Z<|aA Z<|fF h λr2 w3 h=>aI (zBj aep (Gg U y C R F T r2 w3) Z (jJ [0,1,2] Z)) Z λx4=>aB (nY Z) Z<|aO ?_
 refine Ag h Z (λ_ h=>?_) λ_ h=>?_
 .refine aT<|aC Z<|aO<|aV<|aM ?_;cases h;exact uC Z
 refine cU<|aT<|cL 0 Z<|fF h λn w7 h=>aI (zBj WV (FS U y C R n w7) Z (jJ [0,1] Z)) Z λo=>aI (aN.alloc (cs:=[eB]) Z Z) Z λj=>bO (Know.one ((bI (aH.res 1 Z) eP))) λM=>iB 0 Z Z M Z Z Z<|aO<|aL<|fV (λu=>AN u=some r) (λu G=>[]) (λu G=>[]) ?_ ?_
 .refine aT<|aA Z<|aB (fR Z (uI Z) Z) Z<|aA Z<|aO<|aQ<|fT (jZ U i s n) (λa H=>[(2,vP S),(5,vP j),(15,F),(16,E),(17,vI (a))]) (λa H=>[bG j [o] 22,Ar cY o n,m]) (0:Int) () h SF (aS.refl _) ?_;intro V a H h;let t:=(bE (jZ U i s n) V)
  refine aT<|cN Z<|aO<|aL ?_;refine gC h Z (λh=>?_) λh=>?_
  .refine cU<|aL<|aQ<|aT<|aA Z<|dQ h λd h=>aB (bX Z Z (uI Z) Z Z d) Z<|aB (cB Z (uI Z) Z Z d) Z<|aI (aN.alloc (cs:=[vI (0:Int)]) Z Z) Z λg=>let w:=bG g [vI (a)] 3;iB 0 Z Z Z Z Z Z<|aC Z<|aO<|aT<|aC Z<|aO<|aL<|fV (λk=>r_ s n a t k=some r) (λk I=>[(2,vP S),(5,vP j),(6,vP g),(7,(at' T a).1),(8,vI (k)),(15,F),(16,E),(17,vI (a))]) (λk I=>[w,bG j [o] 22,Ar cY o n,m]) ?_ ?_
   .refine aT<|dO 0 Z<|tT Z<|aO ?_;refine gC h Z (λh=>?_) λh=>?_
    .refine aP<|cL 3 Z<|dO 0 Z<|aB (oM (cs:=[.tmp 5,.tmp 6]) (vs:=[vP j,vP g]) Z) Z<|uS (A:=Int) (B:=Unit) (vs:=[Value.agg #[y,C],vI (a),Value.func (.func 139) #[] #[vP j,vP g]]) (λf=>sA s n a t f=some r) (λf D=>vI (f)) (λf D=>[w,bG j [o] 22,Ar cY o n,m]) (λf D=>[Sl aK y i.1,S2 aR C R i.2,S2 aK F T s]) (pT.fn (show aU prog 138 from call138) Z) func138 Z ntmps138 Z Z ?_ ?_
     .refine aT<|aI (aN.box (cs:=[y,C]) Z Z) Z λY=>aC Z<|aO<|aL<|fV (λv=>AP s n a t v=some r) (λv K=>[]) (λv K=>[w,bG j [o] 22,Ar cY o n,m]) ?_ ?_
      .refine aT<|bZ Z<|dO 0 Z<|aA Z<|dQ h λe h=>aB (bX Z Z (n_ Z) Z Z e) Z<|aB (cB Z (n_ Z) Z Z e) Z<|aB (eW Z (zBk (n_ Z) e.1 e.2) Z) Z<|aA Z<|aO<|aQ<|fT (vY U i s n a t) (λb L=>[(2,Value.func (.func 139) #[] #[vP j,vP g]),(13,(at' R a).1),(14,vI ((at' i.2 a).length:Int)),(15,vI (b))]) (λb L=>[w,bG j [o] 22,Ar cY o n,m]) (0:Int) () h SF (aS.ix [1,2,3,4] Z Z) ?_;intro ab b L h;refine aT<|cN Z<|aO<|aL ?_;refine gC h Z (λh=>?_) λh=>?_
       .refine cU<|aL<|aQ<|aT<|aA Z<|dQ h λQ h=>aB (bD Z Z (zBk (n_ Z) e.1 e.2) Z Z Q) Z<|aB (fG (cs:=[vI ((at' (at' i.2 a) b).1),vI ((at' (at' i.2 a) b).2)]) Z (zBk (n_ Z) e.1 e.2) cA Z Z Z Z Q) Z<|aI (aN.alloc (cs:=MN) Z Z) Z λaa=>aC Z<|bP 0 (vs:=[vI ((at' (at' i.2 a) b).1),vI ((at' (at' i.2 a) b).2)]) Z Z Z Z Z Z<|aO<|aT<|aA Z<|cL 0 Z<|fF h λW X h=>aI (mJ (vs:=[Value.agg #[vI ((at' (at' i.2 a) b).1),vI ((at' (at' i.2 a) b).2)]]) (cs:=[vP j,vP g]) aeq Z (Mf U j o g W X) Z (aD.cons (aH.res 2 Z) (aD.cons (bI (aH.res 3 Z) eP) (aD.cons (aH.res 1 Z) .nil))) (λ_ _=>rfl)) Z λac=>aO ?_;refine Ag h Z (λ_ h=>?_) λ_ h=>?_
        .refine aT<|aA Z<|aC Z<|aO<|aV<|bU<|aM<|aM<|bU<|aM ?_;exact iX (b) () h (.inl Z) (DG.r1 Z (RV.tmp Z)) Z (aS.ix [1,2,3,4] Z Z) (aD.refl _ _)
        refine eK<|mF<|aP<|cH Z<|aA Z<|aO ?_;exact gA (wI .i64 (b+(1:Int))) () h SF (aS.ix [1,2,3,4] Z Z) (aD.refl _ _)
       refine fH ?_;exact jV () (()) h SF Z
      intro v K h;unfold AP at h;refine aT<|aC Z<|aO<|aV ?_;exact iX (-1:Int) () h (.inl Z) (DG.r1 Z (RV.tmp Z)) Z (aS.refl _) (aD.refl _ _)
     intro f D h;unfold sA at h;refine aC Z<|aO ?_;exact jV (f) () h SF Z
    refine cU ?_;exact jV (-1:Int) () h SF Z
   intro k I h;refine aL<|fV (λp=>AO a t p=some r) (λp J=>[(2,vP S),(5,vP j),(15,F),(16,E),(17,vI (a)),(42,vB (p))]) (λp J=>[bG j [o] 22,Ar cY o n,m]) ?_ ?_
   .refine Bf [0,1,3,0,0,24,56,127,255,511,1023,2047,511,8191,16383] 13 mixedOrders ?_;refine bM Z<|dQ h λN h=>aY Z .nil (iH 2 Z) (bD Z Z (zBk (cP Z) d.1 d.2) Z Z N) aJ.z<|aY Z .nil (iH 2 Z) (bY Z (zBk (cP Z) d.1 d.2) Z Z Z dJ N) aJ.z<|gN 1 Z<|gN 0 Z<|dQ h λO h=>aY Z (aS.cons 2 Z .nil) .nil (bD Z Z (bI (aH.res 0 Z) eP) Z Z O) aJ.z<|aY Z (aS.cons 2 Z .nil) .nil (bY Z (bI (aH.res 0 Z) eP) Z Z Z dJ O) aJ.z<|jS Z (Ij Z Z)<|bM Z ?_;refine CU (by exact rfl) (by exact rfl) (by exact rfl) (λq=>?_) (λq=>?_)
    .have h:=ME q h;refine bK Z Z Z Z<|bK Z Z Z Z<|bK Z Z Z Z<|bK Z Z Z Z<|bS 13 Z Z<|aW Z<|gT Z<|aO ?_;exact cD (true) () h SF (aS.ix [1,2,3] Z Z) (aD.refl _ _)
    have h:=ifN q h;refine eT Z .nil .nil (f_ Z) aJ.z<|dQ h λP h=>eT Z .nil (iH 2 Z) (bD Z Z (zBk (cP Z) d.1 d.2) Z Z P) aJ.z<|eT Z .nil (iH 2 Z) (bY Z (zBk (cP Z) d.1 d.2) Z Z Z dJ P) aJ.z<|eT Z .nil .nil (f_ Z) aJ.z<|bS 13 Z Z<|bB Z (Ij Z Z) Z<|iV Z<|aO ?_;exact cD (decide ((at' (at' s a) (1:Int))≠k)) () h SF (aS.ix [1,2,3] Z Z) (aD.refl _ _)
   intro p J h;refine Ag h Z (λ_ h=>?_) λ_ h=>?_
   .refine aT<|aC Z<|aO<|aV<|bU<|aM<|aM<|bU<|aM ?_;cases h;exact uC Z
   refine eK<|mF<|aP<|cH Z<|aA Z<|aO ?_;exact Ci (wI .i64 (a+(1:Int))) () h SF Z
  refine fH ?_;exact cD () (()) h SF .nil (aD.refl _ _)
 intro u G h;unfold AN at h;refine aT<|aC Z<|aO<|aV ?_;cases h;exact oA Z
def AI (a:b_):V1 V4:=
 Option.bind (cX U ((a.1,a.2))) λb=>(some (b))
theorem WW:aU prog 130:=call130
theorem J_ {d:b_} (a b:V0) (e:kI) (r:V4) (h:AI U d=some r):
  aZ prog 130 #[Value.agg #[a,b]] [Sl aK a d.1,S2 aR b e d.2] (λx:Unit=>vB (r)) (λx l=>l) (λ_ l=>l):=by
 refine aZ.of func130 Z ntmps130 Z λc=>aT<|aI (aN.box (cs:=[a,b]) Z Z) Z λi=>Q5 Z<|aT<|cL 0 Z<|fF h λf g h=>aI (zBj Jl (qR U a b e f g) Z (jJ [0,1] Z)) Z λj=>Q5 Z<|aV ?_;cases h;exact uC Z
def jU (U:Nat) (a b:Int) (c:e_):V1 (Int):=
 some (max (wI .i64 (b+(1:Int))) (wI .i64 (c.2*a)))
theorem Xa:aU prog 142:=call142
theorem D_ {b d:Int} {a:e_} (r:Int) (h:jU U b d a=some r):
  aZ prog 142 #[vI (b),vI (d),Value.agg #[vI (a.1),vI (a.2)]] [] (λx:Unit=>vI (r)) (λx l=>l) (λ_ l=>l):=by
 refine aZ.of func142 Z ntmps142 Z λc=>?_;unfold jU at h;refine aT<|aI (aN.box (cs:=[vI (a.1),vI (a.2)]) Z Z) Z λe=>Q5 Z<|Q6 Z<|cH Z<|bZ Z<|dO 0 Z<|aA Z<|aB (uX Z Z) Z<|aB (Lw Z Z) Z<|Q5 Z<|aV ?_;cases h;exact uC Z
def xG (a:aX):V1 aX:=
 some (a)
def xH (b:nD) (a:tV->V1 aX) (c:aX):V1 aX:=
 a ((wI .i64 (b.1+(1:Int))),c)
def xJ (b:nD) (a:tV->V1 aX) (c:aX):V1 aX:=
 a ((wI .i64 (b.1+(1:Int))),c)
def oH (c:b_) (b:nD) (d:tV->V1 aX) (a:nD) (e:tV->V1 aX):V1 aX:=
 if a.1<((at' c.2 b.1).length:Int)then(ck (0<=a.1/\a.1<((at' c.2 b.1).length:Int)) (ck (0<=b.1/\b.1<(a.2.length:Int)) (ck (0<=((at' (at' c.2 b.1) a.1).1)/\((at' (at' c.2 b.1) a.1).1)<(a.2.length:Int)) (Option.bind (jU U (c.1.length:Int) (at' a.2 ((at' (at' c.2 b.1) a.1).1)) ((((at' (at' c.2 b.1) a.1).1),((at' (at' c.2 b.1) a.1).2)))) λf=>(ck (0<=b.1/\b.1<(a.2.length:Int)) (e ((wI .i64 (a.1+(1:Int))),(List.set a.2 (Int.toNat b.1) (min (at' a.2 b.1) f)))))))))else(xJ b d (a.2))
def kS (e:b_) (d:nD) (b:tV->V1 aX) (a:nD) (c:tV->V1 aX):V1 aX:=
 if a.1<(e.2.length:Int)then(ck (0<=a.1/\a.1<(e.2.length:Int)) (bE (oH U e a c) U ((0:Int),a.2)))else(xH d b (a.2))
def xI (d:b_) (a:nD) (b:tV->V1 aX) (c:Unit):V1 aX:=
 bE (kS U d a b) U ((0:Int),a.2)
def gZ (c:b_) (a:nD) (b:tV->V1 aX):V1 aX:=
 if a.1<(c.1.length:Int)then(xI U c a b (()))else(xG (a.2))
def sM (b:b_) (a:aX):V1 aX:=
 bE (gZ U b) U ((0:Int),a)
def sN (c:b_) (a:nD) (b:tV->V1 aX):V1 aX:=
 if a.1<(c.1.length:Int)then(ck (0<=a.1/\a.1<(a.2.length:Int)) (b ((wI .i64 (a.1+(1:Int))),(List.set a.2 (Int.toNat a.1) (wI .i64 ((16:Int)*(c.1.length:Int)))))))else(sM U c (a.2))
def nK (a:b_):V1 aX:=
 ck (0<=(a.1.length:Int)/\(a.1.length:Int)<=1099511627) (bE (sN U a) U ((1:Int),(List.replicate (Int.toNat (a.1.length:Int)) (0:Int))))
theorem WX:aU prog 131:=call131
theorem FW (U:Nat) {f:b_} (s y:V0) (z2:kI) (r:aX) (h:nK U f=some r):
  aZ prog 131 #[Value.agg #[s,y]] [Sl aK s f.1,S2 aR y z2 f.2] (λx:V0=>x) (λx l=>Ar cY x r::l) (λ_ l=>l):=by
 let O:=vI (f.2.length:Int);let E:=S2 aR y z2 f.2;let D:=(f.1.length:Int)
 refine aZ.of func131 Z ntmps131 Z λc=>?_;refine cQ Na<|aT<|aI (aN.box (cs:=[s,y]) Z Z) Z λR=>let q:=bG R [s,y] 31;aC Z<|aO<|aT<|bZ Z<|dO 0 Z<|jH (cP Z) Z<|aI (aN.alloc (cs:=[vI (0:Int)]) Z Z) Z λS=>let p:=bG S [vI D] 3;iB 0 Z Z Z Z Z Z<|aO<|aT<|dO 0 Z<|dQ h λj4 h=>aI (sV (e:=cY) (0:Int) Z Z Z Z j4 Z Z Z) Z λm=>aI (aN.alloc (cs:=[eB]) Z Z) Z λw=>bO (Know.one ((bI (aH.res 1 Z) eP))) λai=>iB 0 Z Z ai Z Z Z<|aO<|aL<|IC (A:=aX) (B:=Unit) (λL G=>⟨48,Dn ([]:mX)⟩) (λL=>sM U f L=some r) (λL G=>[(1,vP R),(2,eB),(3,vP S),(4,vP w)]) (λL G=>[bG w [m] 22,Ar cY m L,p,q,Gi ([]:mX)]) (λL G=>[Sl aK s f.1,E]) ?_ ?_
 .refine aT<|aC Z<|aO<|aQ<|Mk (A:=nD) (B:=Unit) (λg H=>⟨48,Dn ([]:mX)⟩) (sN U f) (λg H=>[(1,vP R),(2,eB),(3,vP S),(4,vP w),(5,vI (g.1))]) (λg H=>[bG w [m] 22,Ar cY m g.2,p,q,Gi ([]:mX)]) (λg H=>[Sl aK s f.1,E]) ((1:Int),(List.replicate (Int.toNat D) (0:Int))) () Z h SF (aS.refl _) (aD.refl _ _) ?_;intro ap g H h;refine aL<|aT<|aA Z<|dO 2 Z<|cN Z<|aO ?_;refine gC h Z (λh=>?_) λh=>?_
  .refine cU<|aL<|aQ<|aP<|dO 0 Z<|aA Z<|dO 2 Z<|aB (uX Z Z) Z<|dQ h λae h=>aB (bD Z Z (bI (aH.res 1 Z) eP) Z Z ae) Z<|xX 1 (wI .i64 ((16:Int)*D)) ae Z Z Z Z Z Z Z<|fC<|mF<|aP<|aA Z<|cH Z<|aC Z<|aO ?_;exact I_ ((wI .i64 (g.1+(1:Int))),(List.set g.2 (Int.toNat g.1) (wI .i64 ((16:Int)*D)))) () Z h SF (aS.refl _) (aD.refl _ _)
  refine fH ?_;exact ES (g.2) () Z h SF (aS.refl _) (aD.refl _ _)
 intro L G h;unfold sM at h;refine aL<|IC (A:=aX) (B:=mX) (λt u=>⟨48,Dn u⟩) (λt=>xG t=some r) (λt u=>[(4,vP w)]) (λt u=>[bG w [m] 22,Ar cY m t,Gi u]) (λt u=>[Sl aK s f.1,E]) ?_ ?_
 .refine aT<|dO 2 Z<|aA Z<|aO<|aQ<|Mk (A:=nD) (B:=mX) (λb j=>⟨48,Dn j⟩) (gZ U f) (λb j=>[(1,vP R),(2,eB),(3,vP S),(4,vP w),(23,vI D),(24,vI (b.1))]) (λb j=>[bG w [m] 22,Ar cY m b.2,p,q,Gi j]) (λb j=>[Sl aK s f.1,E]) ((0:Int),L) ([]:mX) Z h SF (aS.refl _) (aD.refl _ _) ?_;intro aj b j h;let M:=(bE (gZ U f) aj)
  let P:=(kS U f b M)
  refine aT<|cN Z<|aO<|aL ?_;refine gC h Z (λh=>?_) λh=>?_
  .refine cU<|aL<|IC (A:=aX) (B:=mX) (λn v=>⟨48,Dn v⟩) (λn=>xH b M n=some r) (λn v=>[(1,vP R),(2,eB),(3,vP S),(4,vP w),(23,vI D),(24,vI (b.1))]) (λn v=>[bG w [m] 22,Ar cY m n,p,q,Gi v]) (λn v=>[Sl aK s f.1,E]) ?_ ?_
   .refine aQ<|aT<|cL 3 Z<|uS (A:=Unit) (B:=Nat) (vs:=[Value.agg #[s,y]]) (λF=>xI U f b M F=some r) (λF k=>Value.func (.func 177) #[] #[vP k]) (λF k=>[bG k [s,y] 31,bG w [m] 22,Ar cY m b.2,p,q,Gi j]) (λF k=>[Sl aK s f.1,E]) (pT.fn (show aU prog 127 from call127) Z) func127 Z ntmps127 Z Z ?_ ?_
    .refine aT<|aI (aN.box (cs:=[s,y]) Z Z) Z λX=>aC Z<|aO<|aT<|aB (oM (cs:=[.tmp 1]) (vs:=[vP X]) Z) Z<|aC Z<|aO<|aV ?_;exact iX () (X) h (.inl Z) (DG.r1 Z (RV.tmp Z)) Z (aS.refl _) (aD.refl _ _)
    intro F k h;unfold xI at h;refine aO<|aQ<|EU (i:=5) (cs:=[vP k]) j Z (show aU prog 177 from call177) Z func177 Z ntmps177 Z λI ag ah Y=>let K:=(List.cons ag j);let N:=Lp I ah LoopState.ready none;aT<|bZ Z<|dO 1 Z<|aB (fR Z (n_ Z) Z) Z<|aA Z<|aO<|aQ<|fT P (λa T=>[(0,rA I),(8,y),(9,O),(10,vI (a.1))]) (λa T=>[N,bG k [s,y] 31,bG w [m] 22,Ar cY m a.2,p,q,Gi K]) ((0:Int),b.2) () h SF (aS.refl _) ?_
    intro af a T h;refine aT<|cN Z<|aO<|aL ?_;refine gC h Z (λh=>?_) λh=>?_
    .refine cU<|aL<|fV (λC=>xJ a (bE P af) C=some r) (λC V=>[(0,rA I),(8,y),(9,O),(10,vI (a.1))]) (λC V=>[N,bG k [s,y] 31,bG w [m] 22,Ar cY m C,p,q,Gi K]) ?_ ?_
     .refine aQ<|aT<|aA Z<|dQ h λo h=>aB (bX Z Z (n_ Z) Z Z o) Z<|aB (cB Z (n_ Z) Z Z o) Z<|aC Z<|aC Z<|aO<|aT<|aA Z<|aB (eW Z (zBk (n_ Z) o.1 o.2) Z) Z<|aA Z<|aO<|aQ<|fT (oH U f a (bE P af)) (λd W=>[(0,rA I),(3,vI (a.1)),(8,y),(9,O),(10,vI (a.1)),(15,(at' z2 a.1).1),(16,vI ((at' f.2 a.1).length:Int)),(17,vI (d.1))]) (λd W=>[N,bG k [s,y] 31,bG w [m] 22,Ar cY m d.2,p,q,Gi K]) ((0:Int),a.2) () h SF (aS.refl _) ?_;intro ao d W h;let J:=(at' (at' f.2 a.1) d.1)
      refine aT<|cN Z<|aO<|aL ?_;refine gC h Z (λh=>?_) λh=>?_
      .refine cU<|aL<|aQ<|aT<|dQ h λaa h=>aB (bD Z Z (zBk (n_ Z) o.1 o.2) Z Z aa) Z<|aB (fG (cs:=[vI (J.1),vI (J.2)]) Z (zBk (n_ Z) o.1 o.2) cA Z Z Z Z aa) Z<|aI (aN.alloc (cs:=MN) Z Z) Z λam=>bP 0 (vs:=[vI ((at' (at' f.2 a.1) d.1).1),vI ((at' (at' f.2 a.1) d.1).2)]) Z Z Z Z Z Z<|aO<|aT<|aA Z<|aA Z<|cL 0 Z<|MV (us:=[vI (a.1),Value.agg #[vI (J.1),vI (J.2)]]) (i:=1) Y Z Z Z Z Z Z<|aT<|aC Z<|aO<|aP<|aI (aN.alloc (cs:=MN) Z Z) Z λan=>bP 0 (vs:=[vI ((at' (at' f.2 a.1) d.1).1),vI ((at' (at' f.2 a.1) d.1).2)]) Z Z Z Z Z Z<|aO<|Qy (i:=2) Z<|aQ ?_;refine Bf [0,0,0,0,12,28,0,0,0,256,896,1920,0,8128,16380,32767,65535] 15 mixedOrders ?_;refine gN 4 Z<|bM Z<|gN 4 Z<|bM Z<|dQ h λab h=>aY Z (aS.cons 5 Z .nil) .nil (bD Z Z (bI (aH.res 0 Z) eP) Z Z ab) aJ.z<|aY Z (aS.cons 5 Z .nil) .nil (bY Z (bI (aH.res 0 Z) eP) Z Z Z dJ ab) aJ.z<|gN 6 Z<|gN 4 Z<|cT Z<|gN 0 Z<|dQ h λac h=>aY Z (aS.cons 5 Z .nil) .nil (bD Z Z (bI (aH.res 0 Z) eP) Z Z ac) aJ.z<|aY Z (aS.cons 5 Z .nil) .nil (bY Z (bI (aH.res 0 Z) eP) Z Z Z dJ ac) aJ.z<|sP 0 Z<|fF h λQ ak h=>zBl Z Z Z (zBj Xa (D_ U Q ak) Z .nil) Z (λal=>(oP [([5],[]),([5],[]),([4],[]),([4],[])] Z)) λal=>jS Z (SS Z Z)<|bS 15 Z Z<|dQ h λad h=>aB (bD Z Z (bI (aH.res 5 Z) eP) Z Z ad) Z<|xX 5 (min (at' d.2 a.1) Q) ad Z Z Z Z Z Z Z<|fC<|Pe<|Ja (i:=2) Z<|aB (nY Z) Z<|aO<|EQ Z<|eK<|mF<|aP<|cH Z<|aA Z<|aO ?_;exact gA ((wI .i64 (d.1+(1:Int))),(List.set d.2 (Int.toNat a.1) (min (at' d.2 a.1) Q))) () h SF (aS.ix [2,3,4,5,6,7,8] Z Z) (aD.refl _ _)
      refine sS<|fU<|fU<|Aj<|mF ?_;exact jV (d.2) () h SF Z
     intro C V h;unfold xJ at h;refine aP<|cH Z<|aA Z<|aO ?_;exact Ci ((wI .i64 (a.1+(1:Int))),C) () h SF Z
    refine sS<|fU<|fU<|Aj<|UU (i:=0) (.inr Z) Z (DG.r0 Z)<|Pe<|mF ?_;exact ES (a.2) K Z h SF (aS.ix [2,3,4,5,6] Z Z) (aD.refl _ _)
   intro n v h;unfold xH at h;refine aP<|cH Z<|aA Z<|aO ?_;exact I_ ((wI .i64 (b.1+(1:Int))),n) (v) Z h SF (aS.refl _) (aD.refl _ _)
  refine fH ?_;exact ES (b.2) (j) Z h SF (aS.ix [0,1,4] Z Z) (aD.refl _ _)
 intro t u h;unfold xG at h;refine aT<|dO 0 Z<|aC Z<|aO<|aV<|BR (i:=2) (Ds:=(u)) (.inl Z) Z ?_;cases h;exact fD (m) Z Z (RV.tmp Z) (aS.ix [1] Z Z) aD.nil
def vO (a:b_):V1 Cd:=
 Option.bind (AI U ((a.1,a.2))) λc=>(if(!c)=true then(some (((0:Int),false,false,(0:Int),(0:Int))))else(Option.bind (nK U ((a.1,a.2))) λd=>(Option.bind (mG U d) λb=>(some (((3:Int),false,true,(wI .i64 (b+(1:Int))),(-1:Int)))))))
theorem ahF:aU prog 87:=call87
theorem Ot {e:b_} (b d:V0) (g:kI) (r:(Int×V4×V4×Int×Int)) (h:vO U e=some r):
  aZ prog 87 #[Value.agg #[b,d]] [Sl aK b e.1,S2 aR d g e.2] (λx:Unit=>Value.agg #[vI (r.1),vB (r.2.1),vB (r.2.2.1),vI (r.2.2.2.1),vI (r.2.2.2.2)]) (λx l=>l) (λ_ l=>l):=by
 refine aZ.of func87 Z ntmps87 Z λc=>aT<|aI (aN.box (cs:=[b,d]) Z Z) Z λp=>aI (aN.alloc (cs:=Wr) Z Z) Z λq=>aO<|aL<|aT<|cL 1 Z<|fF h λi k h=>aI (zBj WW (J_ U b d g i k) Z (jJ [0,1] Z)) Z λs=>aB (nY Z) Z<|aO<|Ag h Z (λ_ h=>?_) λ_ h=>?_
 .refine aT<|aB (IE (r:=Value.agg #[vI (0:Int),vB (false),vB (false),vI (0:Int),vI (0:Int)]) (by intro w;simp[Instr.build,Instr.fill,dU,c_,cO,dV,dW,dC,eV])) Z ?_;refine bP 0 (vs:=Wr) Z Z Z Z Z Z<|aO<|aV<|aM ?_;cases h;exact fD () Z Z (RV.cell 0 Z Z Z Z) .nil aD.nil
 refine cU<|aT<|cL 1 Z<|fF h λj m h=>aI (zBj WX (FW U b d g j m) Z (jJ [0,1] Z)) Z λo=>fF h λa f h=>aI (zBj Mu (CR U o a f) Z (aD.cons (bI (aH.res 0 Z) eP) .nil)) Z λn=>cH Z<|aB (Kp (r:=Value.agg #[vI (3:Int),vB (false),vB (true),vI (wI .i64 (a+(1:Int))),vI (-1:Int)]) Z Z Z Z (by intro w;simp[Instr.build,Instr.fill,dU,c_,cO,dV,dW,dC,eV])) Z ?_;refine bP 1 (vs:=[vI (3:Int),vB (false),vB (true),vI (wI .i64 (a+(1:Int))),vI (-1:Int)]) Z Z Z Z Z Z<|aO<|aV ?_;cases h;exact fD () Z Z (RV.cell 1 Z Z Z Z) .nil aD.nil
def nE (a:V4):V1 V4:=
 some (a)
def nU (a:b_) (c:bJ):V1 V4:=
 Option.bind (AI U ((a.1,a.2))) λd=>(if d=true then(Option.bind (eS U ((a.1,a.2)) c ([(wI .i64 ((16:Int)*(a.1.length:Int))),(-1:Int)])) λb=>(nE (b)))else(nE (false)))
theorem aer:aU prog 140:=call140
theorem FH {j:b_} {p:bJ} (g i:V0) (n:kI) (k:V0) (q:mC) (r:V4) (h:nU U j p=some r):
  aZ prog 140 #[Value.agg #[g,i],k] [Sl aK g j.1,S2 aR i n j.2,S2 aK k q p] (λx:Unit=>vB (r)) (λx l=>l) (λ_ l=>l):=by
 let b:=(wI .i64 ((16:Int)*(j.1.length:Int)))
 refine aZ.of func140 Z ntmps140 Z λc=>aT<|aI (aN.box (cs:=[g,i]) Z Z) Z λw=>Q5 Z<|aL<|fV (λd=>nE d=some r) (λd o=>[(4,vB (d))]) (λd o=>[]) ?_ ?_
 .refine aP<|cL 0 Z<|fF h λs u h=>aI (zBj WW (J_ U g i n s u) Z (jJ [0,1] Z)) Z λy=>aA Z<|Ai (by exact rfl) (by exact rfl) (λa=>?_) (λa=>?_)
  .have h:=ME a h;exact bB Z (eH 0 Z Z Z Z) Z<|gW Z<|bB Z (dN Z Z Z Z Z) Z<|bB Z (eI 0 Z Z Z Z Z) Z<|bB Z (eW Z (cP Z) Z) Z<|bB Z (uX Z Z) Z<|yM Z (cC (e:=cY) ([b,(-1:Int)]) [(0,vI b),(1,vI (-1:Int))] Z Z Z Z (Jv (vI b) (vI (-1:Int)) Z Z) Z Z Z) Z λt=>fF h λf m h=>yM Z (zBj Mv (rM U g i n k q t f m) Z (aD.cons (cP Z) (aD.cons (n_ Z) (aD.cons (uI Z) (aD.cons (bI (aH.res 0 Z) eP) .nil))))) Z λv=>gT Z<|Q5 Z<|cD (f) () h SF .nil (aD.refl _ _)
  have h:=Jy a h;exact aW Z<|aW Z<|aW Z<|aW Z<|aW Z<|aW Z<|aW Z<|aW Z<|iV Z<|Q5 Z<|cD (false) () h SF .nil (aD.refl _ _)
 intro d o h;unfold nE at h;refine aV ?_;cases h;exact oA Z
def wQ (a:e_) (d:b_) (b:aX) (c:Int):V1 V4:=
 ck (0<=a.1/\a.1<(b.length:Int)) (Option.bind (jU U (d.1.length:Int) (at' b a.1) ((a.1,a.2))) λe=>(ck (0<=c/\c<(b.length:Int)) (some (decide (e=(at' b c))))))
theorem aes:aU prog 141:=call141
theorem Lj (U:Nat) {e:e_} {f:b_} {j:aX} {k:Int} (a:Nat) (m n:V0) (t:kI) (b:Nat) (o:V0) (d:Nat) (r:Bool) (h:wQ U e f j k=some r):
  aZ prog 141 #[Value.agg #[vI (e.1),vI (e.2)],vP a,vP b,vP d] [bG a [m,n] 31,Sl aK m f.1,S2 aR n t f.2,bG b [o] 22,Sl aK o j,bG d [vI (k)] 3] (λx:Unit=>vB (r)) (λx l=>l) (λ_ l=>l):=by
 refine aZ.of func141 Z ntmps141 Z λc=>?_;refine aT<|aI (aN.box (cs:=[vI (e.1),vI (e.2)]) Z Z) Z λu=>aC Z<|aO<|aL ?_;refine Bf [0,1,3,0,0,16,56,120,0,511,0,0,3072,7168,16383,32767] 14 mixedOrders ?_;refine cT Z<|aY Z .nil (iH 0 Z) (dG Z (cP Z) Z Z Z) aJ.z<|aY Z .nil (iH 1 Z) (eW Z (cP Z) Z) aJ.z<|aY Z .nil (iH 3 Z) (dG Z (cP Z) Z Z Z) aJ.z<|cT Z<|gN 0 Z<|dQ h λg h=>aY Z .nil (iH 4 Z) (bD Z Z (cP Z) Z Z g) aJ.z<|aY Z .nil (iH 4 Z) (bY Z (cP Z) Z Z Z dJ g) aJ.z<|sP 0 Z<|fF h λp q h=>zBl Z Z Z (zBj Xa (D_ U p q) Z .nil) Z (λs=>(oP [] Z)) λs=>aY Z .nil (iH 3 Z) (dG Z (cP Z) Z Z Z) (aJ.h .nil (iH 3 Z) aJ.z)<|aY Z .nil (iH 5 Z) (dG Z (cP Z) Z Z Z) (aJ.h .nil (iH 5 Z) aJ.z)<|dQ h λi h=>aY Z .nil (iH 4 Z) (bD Z Z (cP Z) Z Z i) (aJ.h .nil (iH 4 Z) aJ.z)<|aY Z .nil (iH 4 Z) (bY Z (cP Z) Z Z Z dJ i) (aJ.h .nil (iH 4 Z) aJ.z)<|bS 14 Z Z<|d_ Z<|aC Z<|aO<|aV ?_;cases h;exact uC Z
def zG (a:Unit):V1 V4:=
 some (true)
def zH (b:Int) (a:(Int)->V1 V4) (c:V4):V1 V4:=
 if c=true then(some (false))else(a (wI .i64 (b+(1:Int))))
def qC (c:bJ) (e:aX) (a:Int) (b:(Int)->V1 V4) (d:Int):V1 V4:=
 ck (0<=(0:Int)/\(0:Int)<((at' c a).length:Int)) (ck (0<=a/\a<(e.length:Int)) (if(at' (at' c a) (0:Int))≠(at' e a)then(zH a b (true))else(ck (0<=(1:Int)/\(1:Int)<((at' c a).length:Int)) (zH a b (decide ((at' (at' c a) (1:Int))≠d))))))
def qD (d:bJ) (e:aX) (b:Int) (a:(Int)->V1 V4) (c:Int):V1 V4:=
 qC d e b a (c)
def zI (d:bJ) (e:aX) (b:Int) (a:(Int)->V1 V4) (c:Unit):V1 V4:=
 qD d e b a (-1:Int)
def tX (d:b_) (h:bJ) (g:aX) (a:Int) (c:(Int)->V1 V4) (b:Int) (e:(Int)->V1 V4):V1 V4:=
 if b<((at' d.2 a).length:Int)then(ck (0<=b/\b<((at' d.2 a).length:Int)) (Option.bind (wQ U ((((at' (at' d.2 a) b).1),((at' (at' d.2 a) b).2))) ((d.1,d.2)) g a) λf=>(if f=true then(qD h g a c (b))else(e (wI .i64 (b+(1:Int)))))))else(zI h g a c (()))
def jM (d:b_) (c:bJ) (e:aX) (a:Int) (b:(Int)->V1 V4):V1 V4:=
 if a<(c.length:Int)then(ck (0<=a/\a<(c.length:Int)) (if a≠(0:Int)then(ck (0<=a/\a<(d.2.length:Int)) (bE (tX U d c e a b) U (0:Int)))else(qC c e a b (-1:Int))))else(zG (()))
def vQ (a:b_) (b:bJ):V1 V4:=
 Option.bind (nU U ((a.1,a.2)) b) λc=>(if(!c)=true then(some (false))else(Option.bind (nK U ((a.1,a.2))) λd=>(bE (jM U a b d) U (0:Int))))
theorem ahJ:aU prog 91:=call91
theorem Ou (U:Nat) {i:b_} {s:bJ} (u v:V0) (H:kI) (G:V0) (T:mC) (r:Bool) (h:vQ U i s=some r):
  aZ prog 91 #[Value.agg #[u,v],G] [Sl aK u i.1,S2 aR v H i.2,S2 aK G T s] (λx:Unit=>vB (r)) (λx l=>l) (λ_ l=>l):=by
 let F:=vI (s.length:Int);refine aZ.of func91 Z ntmps91 Z λc=>?_;refine aT<|aI (aN.box (cs:=[u,v]) Z Z) Z λC=>let m:=bG C [u,v] 31;aC Z<|aO<|aL<|aT<|cL 0 Z<|aA Z<|fF h λr2 w3 h=>aI (zBj aer (FH U u v H G T r2 w3) Z (jJ [0,1,2] Z)) Z λx4=>aB (nY Z) Z<|aO ?_
 refine Ag h Z (λ_ h=>?_) λ_ h=>?_
 .refine aT<|aC Z<|aO<|aV<|aM ?_;cases h;exact uC Z
 refine cU<|aT<|cL 0 Z<|fF h λn w7 h=>aI (zBj WX (FW U u v H n w7) Z (jJ [0,1] Z)) Z λo=>aI (aN.alloc (cs:=[eB]) Z Z) Z λj=>bO (Know.one ((bI (aH.res 1 Z) eP))) λO=>iB 0 Z Z O Z Z Z<|aO<|aL<|fV (λw=>zG w=some r) (λw I=>[]) (λw I=>[]) ?_ ?_
 .refine aT<|aA Z<|aB (fR Z (uI Z) Z) Z<|aA Z<|aO<|aQ<|fT (jM U i s n) (λa J=>[(2,vP C),(5,vP j),(15,G),(16,F),(17,vI (a))]) (λa J=>[bG j [o] 22,Ar cY o n,m]) (0:Int) () h SF (aS.refl _) ?_;intro V a J h;let t:=(bE (jM U i s n) V)
  refine aT<|cN Z<|aO<|aL ?_;refine gC h Z (λh=>?_) λh=>?_
  .refine cU<|aL<|aQ<|aT<|aA Z<|dQ h λd h=>aB (bX Z Z (uI Z) Z Z d) Z<|aB (cB Z (uI Z) Z Z d) Z<|aI (aN.alloc (cs:=[vI (0:Int)]) Z Z) Z λg=>let D:=bG g [vI (a)] 3;iB 0 Z Z Z Z Z Z<|aC Z<|aO<|aT<|aC Z<|aO<|aL<|fV (λk=>qC s n a t k=some r) (λk K=>[(2,vP C),(5,vP j),(6,vP g),(7,(at' T a).1),(8,vI (k)),(15,G),(16,F),(17,vI (a))]) (λk K=>[D,bG j [o] 22,Ar cY o n,m]) ?_ ?_
   .refine aT<|dO 0 Z<|tT Z<|aO ?_;refine gC h Z (λh=>?_) λh=>?_
    .refine aP<|cL 3 Z<|dO 0 Z<|aB (oM (cs:=[.tmp 2,.tmp 5,.tmp 6]) (vs:=[vP C,vP j,vP g]) Z) Z<|uS (A:=Int) (B:=Unit) (vs:=[Value.agg #[u,v],vI (a),Value.func (.func 141) #[] #[vP C,vP j,vP g]]) (λf=>qD s n a t f=some r) (λf E=>vI (f)) (λf E=>[D,bG j [o] 22,Ar cY o n,m]) (λf E=>[Sl aK u i.1,S2 aR v H i.2,S2 aK G T s]) (pT.fn (show aU prog 138 from call138) Z) func138 Z ntmps138 Z Z ?_ ?_
     .refine aT<|aI (aN.box (cs:=[u,v]) Z Z) Z λY=>aC Z<|aO<|aL<|fV (λy=>zI s n a t y=some r) (λy M=>[]) (λy M=>[D,bG j [o] 22,Ar cY o n,m]) ?_ ?_
      .refine aT<|bZ Z<|dO 0 Z<|aA Z<|dQ h λe h=>aB (bX Z Z (n_ Z) Z Z e) Z<|aB (cB Z (n_ Z) Z Z e) Z<|aB (eW Z (zBk (n_ Z) e.1 e.2) Z) Z<|aA Z<|aO<|aQ<|fT (tX U i s n a t) (λb N=>[(2,Value.func (.func 141) #[] #[vP C,vP j,vP g]),(13,(at' H a).1),(14,vI ((at' i.2 a).length:Int)),(15,vI (b))]) (λb N=>[D,bG j [o] 22,Ar cY o n,m]) (0:Int) () h SF (aS.ix [1,2,3,4] Z Z) ?_;intro ab b N h;refine aT<|cN Z<|aO<|aL ?_;refine gC h Z (λh=>?_) λh=>?_
       .refine cU<|aL<|aQ<|aT<|aA Z<|dQ h λS h=>aB (bD Z Z (zBk (n_ Z) e.1 e.2) Z Z S) Z<|aB (fG (cs:=[vI ((at' (at' i.2 a) b).1),vI ((at' (at' i.2 a) b).2)]) Z (zBk (n_ Z) e.1 e.2) cA Z Z Z Z S) Z<|aI (aN.alloc (cs:=MN) Z Z) Z λaa=>aC Z<|bP 0 (vs:=[vI ((at' (at' i.2 a) b).1),vI ((at' (at' i.2 a) b).2)]) Z Z Z Z Z Z<|aO<|aT<|aA Z<|cL 0 Z<|fF h λW X h=>aI (mJ (vs:=[Value.agg #[vI ((at' (at' i.2 a) b).1),vI ((at' (at' i.2 a) b).2)]]) (cs:=[vP C,vP j,vP g]) aes Z (Lj U C u v H j o g W X) Z (aD.cons (aH.res 4 Z) (aD.cons (cP Z) (aD.cons (n_ Z) (aD.cons (aH.res 2 Z) (aD.cons (bI (aH.res 3 Z) eP) (aD.cons (aH.res 1 Z) .nil)))))) (λ_ _=>rfl)) Z λac=>aO ?_;refine Ag h Z (λ_ h=>?_) λ_ h=>?_
        .refine aT<|aA Z<|aC Z<|aO<|aV<|bU<|aM<|aM<|bU<|aM ?_;exact iX (b) () h (.inl Z) (DG.r1 Z (RV.tmp Z)) Z (aS.ix [1,2,3,4] Z Z) (aD.refl _ _)
        refine eK<|mF<|aP<|cH Z<|aA Z<|aO ?_;exact gA (wI .i64 (b+(1:Int))) () h SF (aS.ix [1,2,3,4] Z Z) (aD.refl _ _)
       refine fH ?_;exact jV () (()) h SF Z
      intro y M h;unfold zI at h;refine aT<|aC Z<|aO<|aV ?_;exact iX (-1:Int) () h (.inl Z) (DG.r1 Z (RV.tmp Z)) Z (aS.refl _) (aD.refl _ _)
     intro f E h;unfold qD at h;refine aC Z<|aO ?_;exact jV (f) () h SF Z
    refine cU ?_;exact jV (-1:Int) () h SF Z
   intro k K h;refine aL<|fV (λp=>zH a t p=some r) (λp L=>[(2,vP C),(5,vP j),(15,G),(16,F),(17,vI (a)),(42,vB (p))]) (λp L=>[bG j [o] 22,Ar cY o n,m]) ?_ ?_
   .refine Bf [0,1,3,0,0,24,56,127,255,511,1023,2047,511,8191,16383] 13 mixedOrders ?_;refine bM Z<|dQ h λP h=>aY Z .nil (iH 2 Z) (bD Z Z (zBk (cP Z) d.1 d.2) Z Z P) aJ.z<|aY Z .nil (iH 2 Z) (bY Z (zBk (cP Z) d.1 d.2) Z Z Z dJ P) aJ.z<|gN 1 Z<|gN 0 Z<|dQ h λQ h=>aY Z (aS.cons 2 Z .nil) .nil (bD Z Z (bI (aH.res 0 Z) eP) Z Z Q) aJ.z<|aY Z (aS.cons 2 Z .nil) .nil (bY Z (bI (aH.res 0 Z) eP) Z Z Z dJ Q) aJ.z<|jS Z (Ij Z Z)<|bM Z ?_;refine CU (by exact rfl) (by exact rfl) (by exact rfl) (λq=>?_) (λq=>?_)
    .have h:=ME q h;refine bK Z Z Z Z<|bK Z Z Z Z<|bK Z Z Z Z<|bK Z Z Z Z<|bS 13 Z Z<|aW Z<|gT Z<|aO ?_;exact cD (true) () h SF (aS.ix [1,2,3] Z Z) (aD.refl _ _)
    have h:=ifN q h;refine eT Z .nil .nil (f_ Z) aJ.z<|dQ h λR h=>eT Z .nil (iH 2 Z) (bD Z Z (zBk (cP Z) d.1 d.2) Z Z R) aJ.z<|eT Z .nil (iH 2 Z) (bY Z (zBk (cP Z) d.1 d.2) Z Z Z dJ R) aJ.z<|eT Z .nil .nil (f_ Z) aJ.z<|bS 13 Z Z<|bB Z (Ij Z Z) Z<|iV Z<|aO ?_;exact cD (decide ((at' (at' s a) (1:Int))≠k)) () h SF (aS.ix [1,2,3] Z Z) (aD.refl _ _)
   intro p L h;refine Ag h Z (λ_ h=>?_) λ_ h=>?_
   .refine aT<|aC Z<|aO<|aV<|bU<|aM<|aM<|bU<|aM ?_;cases h;exact uC Z
   refine eK<|mF<|aP<|cH Z<|aA Z<|aO ?_;exact Ci (wI .i64 (a+(1:Int))) () h SF Z
  refine fH ?_;exact cD () (()) h SF .nil (aD.refl _ _)
 intro w I h;unfold zG at h;refine aT<|aC Z<|aO<|aV ?_;cases h;exact oA Z
end Go.Proofs.YtflciafboapaaaaGreat
namespace Go.Proofs.YtflciafboapaaaaGreat
open Go Go.Sx
theorem abY (l:aX) (n:0<l.length) (o:l.length<900):∃m,mG 1000 l=some m/\(∀v:Nat,v<l.length->at' l (v:Int)<=m)/\∃v:Nat,v<l.length/\at' l (v:Int)=m:=by
 unfold mG;rw[Q0,Q7];have⟨⟨a,i⟩,⟨c,⟨w,f,b⟩,d⟩,g⟩:=nO (step:=oB l) (K:=λz=>some z.1) (l.length - 1) (λk z=>z.2=((k+1:Nat):Int)/\(∃w:Nat,w<l.length/\z.1=at' l (w:Int))/\∀u:Nat,u<k+1->at' l (u:Int)<=z.1) (λk z h p e=>by
  have⟨a,i⟩:=z;have⟨c,⟨w,f,b⟩,d⟩:=e;dsimp only at c b d;subst c;refine⟨(max a (at' l ((k+1:Nat):Int)),((k+1+1:Nat):Int)),⟨rfl,?_,λu j=>?_⟩,?_⟩
  .dsimp only;by_cases q:at' l ((k+1:Nat):Int)<=a
   .exact⟨w,f,V7⟩
   .exact⟨k+1,V7,V7⟩
  .dsimp only;by_cases q:u<k+1
   .have:=d u q;omega
   .obtain rfl:u=k+1:=V7
    omega
  .unfold oB;dsimp only;rw[Q3,Q7,Q8]) (λz h e=>by
  have⟨a,i⟩:=z;have⟨c,_⟩:=e;dsimp only at c;subst c;unfold oB yI;dsimp only;rw[Q0]) 1000 (at' l (0:Int),(1:Int)) ⟨rfl,⟨0,V7,rfl⟩,λu j=>by
   obtain rfl:u=0:=V7
   exact Int.le_refl _⟩ V7
 dsimp only at b d g;exact⟨a,g,λv r=>d v V7,w,f,b.symm⟩
section
variable {g:GR} {L:Int}
theorem HX (e:VG g) (o:nM g fP L) {r v:Nat} (l:v<g.2.length) (x:Int×V6 Int) (y:x.1=(v:Int)) (k:Int×V6 Int->V1 (V6 Int)) {R:V6 Int} (h:HP g fP (15*(g.2.length:Int)) r v 0 R):
  ∃i,HP g fP (15*(g.2.length:Int)) r v (row g v).length i/\bE (oF g x k) 1000 ((0:Int),R)=k (((v+1:Nat):Int),i):=by
 have C:=e.n24;have s:=e.len;have p:=(e.node v l).deg;have⟨a,b⟩:=x;dsimp only at y;subst y;have I:(at' g.2 (v:Int)).length=(row g v).length:=rfl;have⟨⟨j,i⟩,⟨q,d⟩,E⟩:=nO (step:=oF g ((v:Int),b) k) (K:=λz=>k (((v+1:Nat):Int),z.2)) (row g v).length (λj z=>z.1=(j:Int)/\HP g fP (15*(g.2.length:Int)) r v j z.2) (λj z m q n=>by
  have⟨a,R⟩:=z;have⟨c,d⟩:=n;dsimp only at c d;subst c;have⟨u,w,f⟩:=e.lk l q;have D:=d.bf.len;have H:=uD e l f;have t:=f.2.1;have F:=d.lo o t;have G:=d.hi u t;have A:(at' (at' g.2 (v:Int)) (j:Int)).1=(u:Int):=f.2.2.1;have B:(at' (at' g.2 (v:Int)) (j:Int)).2=w:=f.2.2.2;refine⟨(((j+1:Nat):Int),R.set v (min (at' R (v:Int)) (fP (at' R (u:Int)) w))),⟨rfl,d.relax o l f⟩,?_⟩
  unfold oF;dsimp only;rw[Q3,Q7,Q7,A,B,Q7,Q7,Q9 (x:=at' R (u:Int)+w),Q8,zAf];rfl) (λz m n=>by
  have⟨a,R⟩:=z;have⟨c,d⟩:=n;dsimp only at c d;subst c;unfold oF wY;dsimp only;rw[Q0,Q8]) 1000 ((0:Int),R) ⟨rfl,h⟩ V7
 exact⟨i,d,E⟩
theorem HW (m:VG g) (o:nM g fP L) {r:Nat} (w:r<g.2.length) (x:Int×V6 Int) (s:x.1=(r:Int)) (i:Int×V6 Int->V1 (V6 Int)) {R:V6 Int} (h:HP g fP (15*(g.2.length:Int)) r 0 0 R):
  ∃e,HP g fP (15*(g.2.length:Int)) (r+1) 0 0 e/\bE (kR 1000 g x i) 1000 ((0:Int),R)=i (((r+1:Nat):Int),e):=by
 have t:=m.n24;have p:=m.len;have⟨a,b⟩:=x;dsimp only at s;subst s;have⟨⟨j,e⟩,⟨u,d⟩,n⟩:=nO (step:=kR 1000 g ((r:Int),b) i) (K:=λz=>i (((r+1:Nat):Int),z.2)) g.2.length (λv z=>z.1=(v:Int)/\HP g fP (15*(g.2.length:Int)) r v 0 z.2) (λv z f q l=>by
  have⟨a,R⟩:=z;have⟨c,d⟩:=l;dsimp only at c d;subst c;have⟨e,k,n⟩:=HX m o q ((v:Int),R) Z f d;refine⟨(((v+1:Nat):Int),e),⟨rfl,k.node o q⟩,?_⟩
  unfold kR;dsimp only;rw[Q3,Q7];exact n) (λz f l=>by
  have⟨a,R⟩:=z;have⟨c,d⟩:=l;dsimp only at c d;subst c;unfold kR wW;dsimp only;rw[Q0,Q8]) 1000 ((0:Int),R) ⟨rfl,h⟩ V7
 dsimp only at d;exact⟨e,d.round,n⟩
theorem EJ (s:VG g) (y:nM g fP L) (D:∀v,v<g.2.length->mI g fP v<=15*(g.2.length:Int)):nJ 1000 g=some (DF g fP):=by
 have C:=s.n24;have G:=s.n1;have i:=s.len;have q:∀R,HP g fP (15*(g.2.length:Int)) 0 0 0 R->bE (gX 1000 g) 1000 ((0:Int),R)=some (DF g fP):=λR h=>by
  have⟨⟨j,w⟩,⟨E,l⟩,p⟩:=nO (step:=gX 1000 g) (K:=λz=>some z.2) g.2.length (λr z=>z.1=(r:Int)/\HP g fP (15*(g.2.length:Int)) r 0 0 z.2) (λr z f F m=>by
   have⟨a,R⟩:=z;have⟨d,l⟩:=m;dsimp only at d l;subst d;have⟨w,u,p⟩:=HW s y F ((r:Int),R) Z f l;refine⟨(((r+1:Nat):Int),w),⟨rfl,u⟩,?_⟩
   unfold gX wX;dsimp only;rw[Q3];exact p) (λz f m=>by
   have⟨a,R⟩:=z;have⟨d,l⟩:=m;dsimp only at d l;subst d;unfold gX wV;dsimp only;rw[Q0]) 1000 ((0:Int),R) ⟨rfl,h⟩ V7
  dsimp only at l;rw[p,l.fin]
 have o:(List.replicate (Int.toNat (g.1.length:Int)) (0:Int)).length=g.2.length:=by simp[i]
 unfold nJ;rw[Q7];have⟨⟨j,R⟩,⟨E,b,n⟩,p⟩:=nO (step:=sB 1000 g) (K:=λz=>wU 1000 g z.2) g.2.length (λk z=>z.1=(k:Int)/\z.2.length=g.2.length/\∀x:Nat,x<k->at' z.2 (x:Int)=15*(g.2.length:Int)) (λk z f H m=>by
  have⟨a,R⟩:=z;have⟨c,b,n⟩:=m;dsimp only at c b n;subst c;refine⟨(((k+1:Nat):Int),R.set k (15*(g.2.length:Int))),⟨rfl,by simpa using b,λx t=>?_⟩,?_⟩
  .dsimp only;rw[qT _ _ _ _ V7];by_cases e:x=k
   .rw[if_pos e]
   .rw[if_neg e];exact n x V7
  .unfold sB;dsimp only;rw[if_pos (by rw[o];omega),Q7,Q8,i,Q9,zAf]) (λz f m=>by
  have⟨a,R⟩:=z;have⟨c,b,n⟩:=m;dsimp only at c b n;subst c;unfold sB;dsimp only;rw[if_neg (by rw[o];omega)]) 1000 ((0:Int),List.replicate (Int.toNat (g.1.length:Int)) (0:Int)) ⟨rfl,o,λx t=>absurd t (zB8 x)⟩ V7
 dsimp only at b n;rw[p];unfold wU;rw[cR (show 0<=(0:Int)/\(0:Int)<(R.length:Int) by omega)];have A:Int.toNat (0:Int)=0:=rfl;rw[A];refine q _ (HP.start y D (by simpa using b) V7 ?_ λx t B=>?_)
 .have:=qT R 0 0 (0:Int) (show 0<R.length by omega);rw[if_pos Z]at this;exact this
 .rw[qT R 0 x (0:Int) (show 0<R.length by omega),if_neg B];exact n x t
end
section
theorem abl {g:GR} (b:VG g) {y w e:Int} (i:0<=y) (j:y<=16*(g.2.length:Int)) (d:1<=w/\w<=15):jU 1000 (g.1.length:Int) y (e,w)=some (fW g.2.length y w):=by
 have c:=b.n24;have a:=b.len;have f:0<=w*(g.2.length:Int):=zBh V7 V7;have h:w*(g.2.length:Int)<=15*(g.2.length:Int):=Int.mul_le_mul_of_nonneg_right d.2 V7;unfold jU fW;dsimp only;rw[a,Q9 (x:=y+1),Q9 (x:=w*(g.2.length:Int))]
variable {g:GR} {L:Int}
theorem If (e:VG g) (o:nM g (fW g.2.length) L) {r v:Nat} (l:v<g.2.length) (x:Int×V6 Int) (y:x.1=(v:Int)) (k:Int×V6 Int->V1 (V6 Int)) {R:V6 Int} (h:HP g (fW g.2.length) (16*(g.2.length:Int)) r v 0 R):
  ∃i,HP g (fW g.2.length) (16*(g.2.length:Int)) r v (row g v).length i/\bE (oH 1000 g x k) 1000 ((0:Int),R)=k (((v+1:Nat):Int),i):=by
 have E:=e.n24;have s:=e.len;have p:=(e.node v l).deg;have⟨a,b⟩:=x;dsimp only at y;subst y;have I:(at' g.2 (v:Int)).length=(row g v).length:=rfl;have⟨⟨j,i⟩,⟨q,d⟩,G⟩:=nO (step:=oH 1000 g ((v:Int),b) k) (K:=λz=>k (((v+1:Nat):Int),z.2)) (row g v).length (λj z=>z.1=(j:Int)/\HP g (fW g.2.length) (16*(g.2.length:Int)) r v j z.2) (λj z m q n=>by
  have⟨a,R⟩:=z;have⟨c,d⟩:=n;dsimp only at c d;subst c;have⟨u,w,f⟩:=e.lk l q;have F:=d.bf.len;have H:=uD e l f;have t:=f.2.1;have A:=d.lo o t;have B:=d.hi u t;have C:(at' (at' g.2 (v:Int)) (j:Int)).1=(u:Int):=f.2.2.1;have D:(at' (at' g.2 (v:Int)) (j:Int)).2=w:=f.2.2.2;refine⟨(((j+1:Nat):Int),R.set v (min (at' R (v:Int)) ((fW g.2.length) (at' R (u:Int)) w))),⟨rfl,d.relax o l f⟩,?_⟩
  unfold oH;dsimp only;rw[Q3,Q7,Q7,C,D,Q7,bA (show jU 1000 (g.1.length:Int) (at' R (u:Int)) ((u:Int),w)=some (fW g.2.length (at' R (u:Int)) w)from abl e A B H),Q7,Q8,zAf]) (λz m n=>by
  have⟨a,R⟩:=z;have⟨c,d⟩:=n;dsimp only at c d;subst c;unfold oH xJ;dsimp only;rw[Q0,Q8]) 1000 ((0:Int),R) ⟨rfl,h⟩ V7
 exact⟨i,d,G⟩
theorem Ie (m:VG g) (o:nM g (fW g.2.length) L) {r:Nat} (w:r<g.2.length) (x:Int×V6 Int) (s:x.1=(r:Int)) (i:Int×V6 Int->V1 (V6 Int)) {R:V6 Int} (h:HP g (fW g.2.length) (16*(g.2.length:Int)) r 0 0 R):
  ∃e,HP g (fW g.2.length) (16*(g.2.length:Int)) (r+1) 0 0 e/\bE (kS 1000 g x i) 1000 ((0:Int),R)=i (((r+1:Nat):Int),e):=by
 have t:=m.n24;have p:=m.len;have⟨a,b⟩:=x;dsimp only at s;subst s;have⟨⟨j,e⟩,⟨u,d⟩,n⟩:=nO (step:=kS 1000 g ((r:Int),b) i) (K:=λz=>i (((r+1:Nat):Int),z.2)) g.2.length (λv z=>z.1=(v:Int)/\HP g (fW g.2.length) (16*(g.2.length:Int)) r v 0 z.2) (λv z f q l=>by
  have⟨a,R⟩:=z;have⟨c,d⟩:=l;dsimp only at c d;subst c;have⟨e,k,n⟩:=If m o q ((v:Int),R) Z f d;refine⟨(((v+1:Nat):Int),e),⟨rfl,k.node o q⟩,?_⟩
  unfold kS;dsimp only;rw[Q3,Q7];exact n) (λz f l=>by
  have⟨a,R⟩:=z;have⟨c,d⟩:=l;dsimp only at c d;subst c;unfold kS xH;dsimp only;rw[Q0,Q8]) 1000 ((0:Int),R) ⟨rfl,h⟩ V7
 dsimp only at d;exact⟨e,d.round,n⟩
theorem EO (t:VG g) (A:nM g (fW g.2.length) L) (D:∀v,v<g.2.length->mI g (fW g.2.length) v<=16*(g.2.length:Int)):nK 1000 g=some (DF g (fW g.2.length)):=by
 have C:=t.n24;have G:=t.n1;have l:=t.len;have s:∀R,HP g (fW g.2.length) (16*(g.2.length:Int)) 0 0 0 R->bE (gZ 1000 g) 1000 ((0:Int),R)=some (DF g (fW g.2.length)):=λR h=>by
  have⟨⟨j,y⟩,⟨E,m⟩,q⟩:=nO (step:=gZ 1000 g) (K:=λz=>some z.2) g.2.length (λr z=>z.1=(r:Int)/\HP g (fW g.2.length) (16*(g.2.length:Int)) r 0 0 z.2) (λr z i F n=>by
   have⟨a,R⟩:=z;have⟨f,m⟩:=n;dsimp only at f m;subst f;have⟨y,u,q⟩:=Ie t A F ((r:Int),R) Z i m;refine⟨(((r+1:Nat):Int),y),⟨rfl,u⟩,?_⟩
   unfold gZ xI;dsimp only;rw[Q3];exact q) (λz i n=>by
   have⟨a,R⟩:=z;have⟨f,m⟩:=n;dsimp only at f m;subst f;unfold gZ xG;dsimp only;rw[Q0]) 1000 ((0:Int),R) ⟨rfl,h⟩ V7
  dsimp only at m;rw[q,m.fin]
 have w:(List.replicate (Int.toNat (g.1.length:Int)) (0:Int)).length=g.2.length:=by simp[l]
 unfold nK;rw[Q7];have⟨⟨j,R⟩,⟨E,b,c,o⟩,q⟩:=nO (step:=sN 1000 g) (K:=λz=>sM 1000 g z.2) (g.2.length - 1) (λk z=>z.1=((k+1:Nat):Int)/\z.2.length=g.2.length/\at' z.2 ((0:Nat):Int)=0/\∀x:Nat,x<k+1->x≠0->at' z.2 (x:Int)=16*(g.2.length:Int)) (λk z i H n=>by
  have⟨a,R⟩:=z;have⟨d,b,c,o⟩:=n;dsimp only at d b c o;subst d;refine⟨(((k+1+1:Nat):Int),R.set (k+1) (16*(g.2.length:Int))),⟨rfl,by simpa using b,?_,λx B p=>?_⟩,?_⟩
  .dsimp only;rw[qT _ _ _ _ V7,Q0];exact c
  .dsimp only;rw[qT _ _ _ _ V7];by_cases e:x=k+1
   .rw[if_pos e]
   .rw[if_neg e];exact o x V7 p
  .unfold sN;dsimp only;rw[Q3,Q7,Q8,l,Q9,zAf]) (λz i n=>by
  have⟨a,R⟩:=z;have⟨d,b,c,o⟩:=n;dsimp only at d b o;subst d;unfold sN;dsimp only;rw[Q0]) 1000 ((1:Int),List.replicate (Int.toNat (g.1.length:Int)) (0:Int)) ⟨rfl,w,by
   show at' (List.replicate (Int.toNat (g.1.length:Int)) (0:Int)) ((0:Nat):Int)=0;rw[kT,zA9,List.getElem?_replicate];split<;>rfl,λx B p=>absurd (show x=0 by omega) p⟩ V7
 dsimp only at b c o;rw[q];unfold sM;exact s _ (HP.start A D b V7 c λx B p=>o x V7 p)
end
section
variable {g:GR}
theorem CX (b:VG g) (a:Ep g):cX 1000 (g.1,g.2)=some true:=(CI b).1 a
theorem UL (F:Int->Int->Int) (f:1<=g.2.length) (c:g.2.length<=24):∃m,mG 1000 (DF g F)=some m/\(∀v:Nat,v<g.2.length->mI g F v<=m)/\∃v:Nat,v<g.2.length/\mI g F v=m:=by
 have h:(DF g F).length=g.2.length:=Kg;have⟨m,e,b,v,a,d⟩:=abY (DF g F) V7 V7;refine⟨m,e,λv a=>?_,v,V7,?_⟩
 .have:=b v V7;rwa[CS a]at this
 .rwa[CS V7]at d
theorem abR (k:VG g) (I:Ep g):∃l:Int,1<=l/\l<=15/\(∀v i u w,v<g.2.length->Lk g v i u w->l<=w)/\∃a:Int,max a 1=l/\uB 1000 g=vW 1000 g a:=by
 have H:=k.n24;have L:=k.n1;have⟨⟨i,A⟩,⟨M,f⟩,r⟩:=nO (step:=lC 1000 g) (K:=λz=>vW 1000 g z.2) g.2.length (λv z=>z.1=(v:Int)/\LT g v 0 z.2) (λv z s m e=>by
  have⟨a,A⟩:=z;have⟨d,f⟩:=e;dsimp only at d f;subst d;have x:=(k.node v m).deg;have N:(at' g.2 (v:Int)).length=(row g v).length:=rfl;have⟨⟨j,C⟩,⟨y,n⟩,r⟩:=nO (step:=pA g ((v:Int),A) s) (K:=λz=>s (((v+1:Nat):Int),z.2)) (row g v).length (λj z=>z.1=(j:Int)/\LT g v j z.2) (λj z t y e=>by
   have⟨b,B⟩:=z;have⟨c,p⟩:=e;dsimp only at c p;subst c;have⟨u,w,o⟩:=k.lk m y;have G:(at' (at' g.2 (v:Int)) (j:Int)).2=w:=o.2.2.2;refine⟨(((j+1:Nat):Int),if B=0\/w<B then w else B),⟨rfl,p.link k m o⟩,?_⟩
   unfold pA AM vX;dsimp only;rw[Q3,Q7,G,Q8];by_cases z:B=0
   .rw[if_pos z,if_pos Z,if_pos (.inl z)]
   .rw[if_neg z];by_cases q:w<B
    .rw[if_pos (zAe q),if_pos (.inr q)]
    .rw[if_neg (by simpa using q),if_neg (by rintro(h|h);exact z h;exact q h)]) (λz t e=>by
   have⟨b,B⟩:=z;have⟨c,p⟩:=e;dsimp only at c p;subst c;unfold pA AL;dsimp only;rw[Q0,Q8]) 1000 ((0:Int),A) ⟨rfl,f⟩ V7
  dsimp only at n;refine⟨(((v+1:Nat):Int),C),⟨rfl,n.node⟩,?_⟩
  unfold lC;dsimp only;rw[Q3,Q7];exact r) (λz s e=>by
  have⟨a,A⟩:=z;have⟨d,f⟩:=e;dsimp only at d f;subst d;unfold lC;dsimp only;rw[Q0]) 1000 ((0:Int),(0:Int)) ⟨rfl,LT.start⟩ V7
 dsimp only at f r;have⟨D,E,F⟩:=f.fin;refine⟨max A 1,D,E,λv i u w m o=>F v i u w m o (uD k m o).1,A,rfl,?_⟩
 unfold uB B_;rw[bA (show(Option.bind (cX 1000 (g.1,g.2)) λJ=>some J)=some true by rw[bA (CX k I)]),if_neg Q2];unfold AK;exact r
theorem ahV (b:VG g) (j:Ep g):∃(L:Int) (K:Nat),1<=L/\(∀v i u w,v<g.2.length->Lk g v i u w->L<=w)/\1<=K/\K<=700/\(∀v,v<g.2.length->mI g fP v<(K:Int)*L)/\uB 1000 g=some (3,false,true,(K:Int),-1):=by
 have o:=b.n24;have n:=b.n1;have⟨l,h,s,k,a,p,q⟩:=abR b j;have S:=aky b j default default h k;have⟨m,r,f,v,d,c⟩:=UL (g:=g) fP n V7;have e:0<=m:=by rw[<-c];exact lZ S.grow d
 have z:m<=15*(g.2.length:Int):=by rw[<-c];exact S.cap v d
 have t:0<=m / l:=Int.ediv_nonneg e V7;have y:m / l<=m:=Int.ediv_le_self _ e;refine⟨l,(m / l+1).toNat,h,k,V7,V7,λv d=>?_,?_⟩
 .rw[show(((m / l+1).toNat:Nat):Int)=m / l+1 by omega];exact Zt h e (f v d)
 .rw[q];unfold vW;rw[bA (show nJ 1000 (g.1,g.2)=_ from EJ b S.grow S.cap),bA r,p,Q7,Int.tdiv_eq_ediv_of_nonneg e,Q9 (x:=m / l),Q9,show(((m / l+1).toNat:Nat):Int)=m / l+1 by omega]
theorem ahW (a:VG g) (e:Ep g):∃K:Nat,1<=K/\K<=700/\(∀v,v<g.2.length->mI g (fW g.2.length) v<(K:Int)*1)/\vO 1000 g=some (3,false,true,(K:Int),-1):=by
 have h:=a.n24;have f:=a.n1;have S:=akz a e default default;have⟨m,i,d,v,c,b⟩:=UL (g:=g) (fW g.2.length) f V7;have k:0<=m:=by rw[<-b];exact lZ S.grow c
 have l:m<=16*(g.2.length:Int):=by rw[<-b];exact S.cap v c
 refine⟨(m+1).toNat,V7,V7,λv c=>?_,?_⟩
 .have:=d v c;omega
 .unfold vO AI;rw[bA (show(Option.bind (cX 1000 (g.1,g.2)) λj=>some j)=some true by rw[bA (CX a e)]),if_neg Q2,bA (show nK 1000 (g.1,g.2)=_ from EO a S.grow S.cap),bA i,Q9,show(((m+1).toNat:Nat):Int)=m+1 by omega]
end
section
variable {g:GR} {L:Int}
theorem TP (a:VG g) (A:Ep g) (s:nM g fP L) (t:∀v,v<g.2.length->mI g fP v<=15*(g.2.length:Int)) (B:UP g [15*(g.2.length:Int),-1] (cE g fP)):yD 1000 g (cE g fP)=some true:=by
 have z:=a.n24;have M:=a.n1;have e:=a.len;have C:(cE g fP).length=g.2.length:=Kq;have E:(DF g fP).length=g.2.length:=Kg;have m:pR 1000 (g.1,g.2) (cE g fP)=some true:=by
  unfold pR B_;rw[bA (show(Option.bind (cX 1000 (g.1,g.2)) λF=>some F)=some true by rw[bA (CX a A)]),if_pos Z,e,Q9,bA (show eS 1000 (g.1,g.2) (cE g fP) [15*(g.2.length:Int),-1]=some true from(Fa a V8 _).1 B)];rfl
 unfold yD;rw[bA m,if_neg Q2,bA (show nJ 1000 (g.1,g.2)=_ from EJ a s t)];refine eJ (step:=jZ 1000 g (cE g fP) (DF g fP)) (K:=some true) g.2.length (λv:Nat=>(v:Int)) (λv c b=>?_) (λc=>?_) 1000 V7
 .have x:=(a.node v b).deg;have O:(at' g.2 (v:Int)).length=(row g v).length:=rfl;have p:r_ (cE g fP) (DF g fP) (v:Int) c (ZL g fP v)=c ((v+1:Nat):Int):=by
   unfold r_ AO;rw[Pt b,CS b,cR V8,Q7,if_neg (λh=>h Z),cR V8,if_neg (by rw[zA2];exact λh=>h Z),Q8]
  unfold jZ;rw[Q3,Q7];by_cases r:v=0
  .subst r;rw[if_neg (λh=>h Z)];rw[Rx]at p;exact p
  .rw[Q3,Q7];have f:=NO (n:=(row g v).length) (P:=λi=>fP (mI g fP (gR (row g v) i).1.toNat) (gR (row g v) i).2=mI g fP v) (step:=vY 1000 g (cE g fP) (DF g fP) (v:Int) c) (Kf:=r_ (cE g fP) (DF g fP) (v:Int) c) (λi j D=>?_) (λj=>?_) 1000 V7
   .rw[<-Rv r]at f;exact f.trans p
   .have⟨u,w,d⟩:=a.lk b D;have⟨_,J,I⟩:=LJ a d [];have N:=uD a b d;have o:=d.2.1;have G:=lZ s o;have H:=t u o;have k:(at' (at' g.2 (v:Int)) (i:Int)).1=(u:Int):=d.2.2.1;have l:(at' (at' g.2 (v:Int)) (i:Int)).2=w:=d.2.2.2;have y:y_ 1000 ((u:Int),w) (DF g fP) (v:Int)=some (decide (fP (mI g fP u) w=mI g fP v)):=by
     unfold y_;dsimp only;rw[Q7,Q7,CS o,CS b,Q9];rfl
    unfold vY sA;rw[Q3,Q7,k,l,bA y,zAf,Q8];by_cases q:fP (mI g fP u) w=mI g fP v
    .rw[zAe q,if_pos Z,if_pos q]
    .rw[zA6 q,if_neg Q2,if_neg q]
   .unfold vY AP sA;rw[Q0]
 .unfold jZ AN;rw[Q0]
end
section
variable {g:GR} {L:Int}
theorem Sf (a:VG g) (C:Ep g) (s:nM g (fW g.2.length) L) (t:∀v,v<g.2.length->mI g (fW g.2.length) v<=16*(g.2.length:Int)) (D:UP g [16*(g.2.length:Int),-1] (cE g (fW g.2.length))):vQ 1000 g (cE g (fW g.2.length))=some true:=by
 have B:=a.n24;have N:=a.n1;have e:=a.len;have E:(cE g (fW g.2.length)).length=g.2.length:=Kq;have H:(DF g (fW g.2.length)).length=g.2.length:=Kg;have m:nU 1000 (g.1,g.2) (cE g (fW g.2.length))=some true:=by
  unfold nU AI;rw[bA (show(Option.bind (cX 1000 (g.1,g.2)) λI=>some I)=some true by rw[bA (CX a C)]),if_pos Z,e,Q9,bA (show eS 1000 (g.1,g.2) (cE g (fW g.2.length)) [16*(g.2.length:Int),-1]=some true from(Fa a V8 _).1 D)];rfl
 unfold vQ;rw[bA m,if_neg Q2,bA (show nK 1000 (g.1,g.2)=_ from EO a s t)];refine eJ (step:=jM 1000 g (cE g (fW g.2.length)) (DF g (fW g.2.length))) (K:=some true) g.2.length (λv:Nat=>(v:Int)) (λv c b=>?_) (λc=>?_) 1000 V7
 .have x:=(a.node v b).deg;have O:(at' g.2 (v:Int)).length=(row g v).length:=rfl;have p:qC (cE g (fW g.2.length)) (DF g (fW g.2.length)) (v:Int) c (ZL g (fW g.2.length) v)=c ((v+1:Nat):Int):=by
   unfold qC zH;rw[Pt b,CS b,cR V8,Q7,if_neg (λh=>h Z),cR V8,if_neg (by rw[zA2];exact λh=>h Z),Q8]
  unfold jM;rw[Q3,Q7];by_cases r:v=0
  .subst r;rw[if_neg (λh=>h Z)];rw[Rx]at p;exact p
  .rw[Q3,Q7];have f:=NO (n:=(row g v).length) (P:=λi=>(fW g.2.length) (mI g (fW g.2.length) (gR (row g v) i).1.toNat) (gR (row g v) i).2=mI g (fW g.2.length) v) (step:=tX 1000 g (cE g (fW g.2.length)) (DF g (fW g.2.length)) (v:Int) c) (Kf:=qC (cE g (fW g.2.length)) (DF g (fW g.2.length)) (v:Int) c) (λi j F=>?_) (λj=>?_) 1000 V7
   .rw[<-Rv r]at f;exact f.trans p
   .have⟨u,w,d⟩:=a.lk b F;have⟨_,M,J⟩:=LJ a d [];have G:=uD a b d;have o:=d.2.1;have y:=lZ s o;have z:=t u o;have k:(at' (at' g.2 (v:Int)) (i:Int)).1=(u:Int):=d.2.2.1;have l:(at' (at' g.2 (v:Int)) (i:Int)).2=w:=d.2.2.2;have A:wQ 1000 ((u:Int),w) (g.1,g.2) (DF g (fW g.2.length)) (v:Int)=some (decide ((fW g.2.length) (mI g (fW g.2.length) u) w=mI g (fW g.2.length) v)):=by
     unfold wQ;dsimp only;rw[Q7,CS o,bA (show jU 1000 (g.1.length:Int) (mI g (fW g.2.length) u) ((u:Int),w)=_ from abl a y z G),Q7,CS b]
    unfold tX qD;rw[Q3,Q7,k,l,bA A,zAf,Q8];by_cases q:(fW g.2.length) (mI g (fW g.2.length) u) w=mI g (fW g.2.length) v
    .rw[zAe q,if_pos Z,if_pos q]
    .rw[zA6 q,if_neg Q2,if_neg q]
   .unfold tX zI qD;rw[Q0]
 .unfold jM zG;rw[Q0]
end
end Go.Proofs.YtflciafboapaaaaGreat
namespace Go.Proofs.YtflciafboapaaaaGreat
open Go.Sx
def BX (a:b_):V1 Cd:=
 Option.bind (EE U ((a.1,a.2))) λb=>(if(!b)=true then(some (((0:Int),false,false,(0:Int),(0:Int))))else(Option.bind (jE U ((a.1,a.2)) (0:Int)) λc=>(some (((3:Int),false,true,(wI .i64 (c+(1:Int))),(-1:Int))))))
theorem ahz:aU prog 81:=call81
theorem Uo {d:b_} (a b:V0) (f:kI) (r:(Int×V4×V4×Int×Int)) (h:BX U d=some r):
  aZ prog 81 #[Value.agg #[a,b]] [Sl aK a d.1,S2 aR b f d.2] (λx:Unit=>Value.agg #[vI (r.1),vB (r.2.1),vB (r.2.2.1),vI (r.2.2.2.1),vI (r.2.2.2.2)]) (λx l=>l) (λ_ l=>l):=by
 refine aZ.of func81 Z ntmps81 Z λc=>aT<|aI (aN.box (cs:=[a,b]) Z Z) Z λk=>aI (aN.alloc (cs:=Wr) Z Z) Z λm=>aO<|aL<|aT<|cL 1 Z<|fF h λg i h=>aI (zBj WR (Qa U a b f g i) Z (jJ [0,1] Z)) Z λn=>aB (nY Z) Z<|aO<|Ag h Z (λ_ h=>?_) λ_ h=>?_
 .refine aT<|aB (IE (r:=Value.agg #[vI (0:Int),vB (false),vB (false),vI (0:Int),vI (0:Int)]) (by intro w;simp[Instr.build,Instr.fill,dU,c_,cO,dV,dW,dC,eV])) Z ?_;refine bP 0 (vs:=Wr) Z Z Z Z Z Z<|aO<|aV<|aM ?_;cases h;exact fD () Z Z (RV.cell 0 Z Z Z Z) .nil aD.nil
 refine cU<|aT<|cL 1 Z<|fF h λe j h=>aI (zBj WS (Cc U a b f e j) Z (jJ [0,1] Z)) Z λo=>cH Z<|aB (Kp (r:=Value.agg #[vI (3:Int),vB (false),vB (true),vI (wI .i64 (e+(1:Int))),vI (-1:Int)]) Z Z Z Z (by intro w;simp[Instr.build,Instr.fill,dU,c_,cO,dV,dW,dC,eV])) Z ?_;refine bP 0 (vs:=[vI (3:Int),vB (false),vB (true),vI (wI .i64 (e+(1:Int))),vI (-1:Int)]) Z Z Z Z Z Z<|aO<|aV ?_;cases h;exact fD () Z Z (RV.cell 0 Z Z Z Z) .nil aD.nil
end Go.Proofs.YtflciafboapaaaaGreat
namespace Go.Proofs.YtflciafboapaaaaGreat
open Go Go.Sx
theorem ajC {g:GR} (f:VM g.1 g.2) (h:∀v:Nat,1<=v->v<g.2.length->∃u:Nat,u<v/\oI g.2 u v):Ep g:=by
 have p:VG g:=f.vg;have t:=f.n1;have j:∀v,v<g.2.length->∃k,xZ g 0 k v:=by
  intro v
  induction v using Nat.strongRecOn with
  | _ v ih =>
   intro c;by_cases l:v=0
   .subst l;exact⟨0,rfl,c⟩
   .have⟨u,e,x,s,o⟩:=h v V7 c;have⟨k,r⟩:=ih u e V7;have⟨i,q,d⟩:=Hr s;refine⟨k+1,u,r,i,q,?_⟩
    show(at' (at' g.2 (u:Int)) (i:Int)).1=_;rw[d,o]
 intro u v e c;have⟨a,m⟩:=j u e;have⟨b,n⟩:=j v c;exact⟨a+b,(Jh p m).trans n⟩
theorem ahT {g:GR} (a:VG g) (c:Ep g):∃K:Nat,1<=K/\K<=700/\(∀v,v<g.2.length->mI g fB v<(K:Int)*1)/\BX 1000 g=some (3,false,true,(K:Int),-1):=by
 have k:=a.n24;have n:=a.n1;have S:=aiX a c default default;have⟨r,l,d,_,e,h,w,j,b⟩:=FM a c (s:=0) V7;have i:∀v,v<g.2.length->0<=D d v:=λv f=>(Nt a V7 e).2 c v (by rw[e.len];exact f);have o:0<=r:=by rw[<-b];exact i w j
 have p:r<=(g.2.length:Int):=by rw[<-b];exact e.hi w j
 refine⟨(r+1).toNat,V7,V7,λv f=>?_,?_⟩
 .rw[Tz a S.grow e i f];have:=h v f;omega
 .unfold BX EE;rw[bA (show(Option.bind (cX 1000 (g.1,g.2)) λm=>some m)=some true by rw[bA (CX a c)]),if_neg Q2,bA (show jE 1000 (g.1,g.2) 0=some r from l),Q9,show(((r+1).toNat:Nat):Int)=r+1 by omega]
theorem YE {g:GR} (a:VG g) (k:Ep g) (E:UP g [1*(g.2.length:Int),-1] (cE g fB)):BY 1000 g (cE g fB)=some true:=by
 have C:=a.n24;have L:=a.n1;have c:=a.len;have S:=aiX a k default default;have F:(cE g fB).length=g.2.length:=Kq;have⟨d,A,e⟩:=QW a (s:=0) V7;have B:∀v,v<g.2.length->0<=D d v:=λv b=>(Nt a V7 e).2 k v (by rw[e.len];exact b);have l:∀v,v<g.2.length->mI g fB v=D d v:=λv b=>Tz a S.grow e B b;have n:rJ 1000 (g.1,g.2) (cE g fB)=some true:=by
  unfold rJ EE;rw[bA (show(Option.bind (cX 1000 (g.1,g.2)) λJ=>some J)=some true by rw[bA (CX a k)]),if_pos Z,c,bA (show eS 1000 (g.1,g.2) (cE g fB) [(g.2.length:Int),-1]=some true from(Fa a V8 _).1 (by rwa[Int.one_mul]at E))];rfl
 unfold BY;rw[bA n,if_neg Q2,bA (show gJ 1000 (g.1,g.2) 0=some d from A)];refine eJ (step:=Am 1000 g (cE g fB) d) (K:=some true) g.2.length (λv:Nat=>(v:Int)) (λv x b=>?_) (λx=>?_) 1000 V7
 .have⟨p,G,I⟩:=acL a e b (at' (cE g fB) (v:Int));have t:ZL g fB v=p:=by
   have m:∀i,i<(row g v).length->((fB (mI g fB (gR (row g v) i).1.toNat) (gR (row g v) i).2=mI g fB v)↔Low g d v i):=λi f=>by
    have⟨u,w,o⟩:=a.lk b f;have⟨_,z,y⟩:=LJ a o [];rw[y,z,l u o.2.1,l v b];unfold Low fB;rw[o.2.2.1];show D d u+1=D d v↔D d u=D d v - 1;omega
   rw[afF S.grow a b];rcases G with⟨i,f,rfl,H,r⟩|⟨rfl,r⟩
   .exact Tp f ((m i f).2 H) λj h q=>r j h ((m j V7).1 q)
   .exact Nz λj h q=>r j h ((m j h).1 q)
  unfold Am;rw[Q3,Q7,bA (show BZ 1000 (g.1,g.2) (v:Int) d (at' (cE g fB) (v:Int))=_ from I),Pt b,t,l v b,zAe Z,if_neg Q2,Q8]
 .unfold Am CG;rw[Q0]
theorem cfE {g:GR} {vars:V6 Ah} {e f:E} {F:Int->Int->Int} {L N:Int} (S:Pn g vars e f F L N) (k:VG g) {d:bJ} (i:FJ g d vars) {K:Nat} (j:1<=K) (m:∀v,v<g.2.length->mI g F v<(K:Int)*L):UP g [N,-1] (cE g F):=by
 have l:=ahM S k i j m;have n:=S.N0;refine⟨Kq,λv c=>⟨by rw[Pt c];rfl,λx b=>?_⟩⟩
 have h:=l.ok v c x (by rw[S.len];exact b);have b:x<2:=b;rcases(show x=0\/x=1 by omega)with rfl|rfl
 .rw[S.lo0,S.hi0]at h;have a:at' [N,-1] ((0:Nat):Int)=N:=rfl;unfold inB;rw[a,Q0];exact h
 .rw[S.lo1,S.hi1]at h;have a:at' [N,-1] ((1:Nat):Int) = -1:=rfl;unfold inB;rw[a,if_pos Z];exact h
theorem Vo {g:GR} (G:VG g) (d:V6 Ah) (f:aX) (ht:d.length<=900) (W:∀x,x<d.length->Eu (at' d (x:Int)) /\ -100000<=(at' d (x:Int)).2.2.1) (J:∀x v,x<d.length->lo g (at' d (x:Int)) v<=hi g (at' d (x:Int)) v):
  OK (λc=>FJ g c d) (gK 1000 g d f):=by
 have S:=G.n24;have m:=G.len;have R:gK 1000 g d f=nL 1000 g d f (fI g g.2.length):=by
  unfold gK;refine eJ (F:=λk:Nat=>((fI g k,(k:Int)):e_)) g.2.length (λk D hk=>?_) (λD=>?_) 1000 V7
  .unfold qE;simp only;rw[Q3,Q7,Q9];rfl
  .unfold qE;simp only;rw[Q0]
 rw[R];have⟨N,m2⟩:=rZ G g.2.length V7;unfold nL;have L:=nO (step:=iG 1000 g d f (fI g g.2.length)) (K:=λx=>some x.1) g.2.length (λv x=>x.2=(v:Int)/\x.1.length=v/\∀w,w<v->(at' x.1 (w:Int)).length=d.length/\Pk g d w (at' x.1 (w:Int))) (λv x D A t=>?_) (λx D t=>?_) 1000 (([]:bJ),(0:Int)) ⟨rfl,rfl,λw X=>V7⟩ V7
 .have⟨⟨c,i⟩,⟨_,u,s⟩,I⟩:=L;exact⟨c,I,u,λv A=>(s v A).1,λv A x B=>(s v A).2 x (by rw[(s v A).1];exact B)⟩
 .have⟨c,i⟩:=x;obtain⟨rfl,u,s⟩:=t;simp only at u s;have M:(at' g.2 (v:Int)).length<g.2.length:=(G.node v A).deg;unfold iG;simp only;rw[Q3];have E:=nO (step:=kD 1000 g d f (fI g g.2.length) (c,(v:Int)) D) (K:=λy=>D (c++[y.1],(v:Int)+1)) d.length (λx y=>y.2=(x:Int)/\y.1.length=x/\Pk g d v y.1) (λx y p B t=>?_) (λy p t=>?_) 1000 (([]:aX),(0:Int)) ⟨rfl,rfl,λx B=>by simp at B⟩ V7
  .have⟨⟨l,j⟩,⟨_,n,C⟩,I⟩:=E;refine⟨(c++[l],(v:Int)+1),⟨V8,by simp[u],λw X=>?_⟩,I⟩
   simp only;rw[DW c l V7,u];by_cases e:w<v
   .rw[if_pos e];exact s w e
   .rw[if_neg e];have:w=v:=V7
    subst this;exact⟨n,C⟩
  .have⟨l,j⟩:=y;obtain⟨rfl,n,C⟩:=t;simp only at n C;have⟨⟨s1,O,P⟩,s4⟩:=W x B;have Q:=J x v B;have q:∀a b:Int,a=lo g (at' d (x:Int)) v->b=hi g (at' d (x:Int)) v -> -100000<=a->a<=b+1->b<=100000000->(a<=b\/(a = -1/\b = -1))->∃H,(H.2=((x+1:Nat):Int)/\H.1.length=x+1/\Pk g d v H.1)/\lM 1000 d f (c,(v:Int)) (l,(x:Int)) p (a,b)=p H:=by
    intro a b T V q1 q2 q3 q4;have U:a<=b:=V7
    unfold lM;simp only;have w1:wI .i64 ((v:Int)*(d.length:Int))=(v:Int)*(d.length:Int):=by
     have p1:0<=(v:Int)*(d.length:Int):=zBh V7 V7;have p2:(v:Int)*(d.length:Int)<=24*900:=Int.mul_le_mul V7 V7 V7 V7;exact Q9
    have p1:0<=(v:Int)*(d.length:Int):=zBh V7 V7;have p2:(v:Int)*(d.length:Int)<=24*900:=Int.mul_le_mul V7 V7 V7 V7;rw[w1,Q9 (x:=(v:Int)*(d.length:Int)+(x:Int)),Pq _ _ V7,bA Z,Q9 (x:=b - a),Q9 (x:=b - a+1),fZ _ _ V7 V7,bA Z];have r1:=zB9 (at' f ((v:Int)*(d.length:Int)+(x:Int))) (b:=b - a+1) V7;have r2:=zB0 (at' f ((v:Int)*(d.length:Int)+(x:Int))) (b:=b - a+1) V7;generalize at' f ((v:Int)*(d.length:Int)+(x:Int))%(b - a+1)=r at r1 r2;rw[Q9 (x:=a+r),cR Q1,Q9];refine⟨_,⟨V8,by simp[n],λz Y=>?_⟩,rfl⟩
    simp only[zA4,zAa,zAm,n]at Y;simp only;rw[DW l _ V7,n];by_cases e:z<x
    .rw[if_pos e];exact C z V7
    .rw[if_neg e];have:z=x:=V7
     subst this;rw[<-T,<-V];omega
   unfold kD;simp only;rw[Q3,Q7,Q7,Q7,Q7,Q7];by_cases h:(at' d (x:Int)).2.1=2
   .rw[if_pos h];exact q 0 1 (by unfold lo;rw[if_pos h]) (by unfold hi;rw[if_pos h]) V7 V7 V7 V7
   .rw[if_neg h];by_cases o:(at' d (x:Int)).2.1=3
    .rw[if_pos o,Q7,Q9];exact q (-1) _ (by unfold lo;rw[if_neg h,if_pos o]) (by unfold hi;rw[if_neg h,if_pos o]) V7 V7 V7 V7
    .rw[if_neg o];unfold lo hi at Q;rw[if_neg h,if_neg o,if_neg h,if_neg o,m]at Q;have q1:0<=(at' d (x:Int)).2.2.2.2.1*(g.2.length:Int):=zBh O.1 V7;have q2:(at' d (x:Int)).2.2.2.2.1*(g.2.length:Int)<=100000*24:=Int.mul_le_mul O.2 V7 V7 V7;have q3:0<=(at' d (x:Int)).2.2.2.2.2*fI g g.2.length:=zBh P.1 N;have q4:(at' d (x:Int)).2.2.2.2.2*fI g g.2.length<=100000*255:=Int.mul_le_mul P.2 m2 N V7;rw[Q9 (x:=(at' d (x:Int)).2.2.2.2.1*(g.2.length:Int)),Q9 (x:=(at' d (x:Int)).2.2.2.2.2*fI g g.2.length),Q9 (x:=(at' d (x:Int)).2.2.2.1+(at' d (x:Int)).2.2.2.2.1*(g.2.length:Int)),Q9];exact q _ _ (by unfold lo;rw[if_neg h,if_neg o]) (by unfold hi;rw[if_neg h,if_neg o,m]) V7 V7 V7 V7
  .have⟨l,j⟩:=y;obtain⟨rfl,n,C⟩:=t;simp only at n C;unfold kD zJ;simp only;rw[Q0,cR Q1,Q9]
 .have⟨c,i⟩:=x;obtain⟨rfl,u,s⟩:=t;unfold iG tY;simp only;rw[Q0]
theorem aaU {g:GR} (d:VG g) (b:aX):OK (λc=>FJ g c pS) (gK 1000 g pS b):=Vo d pS b Q2 (λq a=>⟨ac_ q a,by
  have a:q<3:=a
  match q,a with
  |0,_=>decide
  |1,_=>decide
  |2,_=>decide⟩) (λq v a=>by
  have e:=d.len;have f:=d.n1;have h:=rZ d g.1.length V7;have a:q<3:=a
  match q,a with
  |0,_=>rw[afp,afd];omega
  |1,_=>rw[abT,afe];omega
  |2,_=>rw[aiy,aio];omega)
theorem ahd {p q:aX} (c:p.length=q.length) (h:∀k:Nat,k<p.length->at' p (k:Int)=at' q (k:Int)):p=q:=by
 refine List.ext_getElem c λi a b=>?_;have:=h i a;rwa[kT,kT,zA9,zA9,zA0 a,zA0 b]at this
theorem Zx (p q:aX) (h:q.length<900):jG 1000 p q=some (decide (p=q)):=by
 unfold jG;by_cases f:p.length=q.length
 .rw[Q0];have a:=Dh (step:=lL p q) (K:=some true) (bad:=some false) p.length (λk=>at' p (k:Int)=at' q (k:Int)) (λk=>(k:Int)) (λk c d b=>?_) (λk c d b=>?_) (λc=>?_) 1000 V7
  .by_cases e:p=q
   .rw[zAe e];exact a.1 λk d=>by rw[e]
   .rw[zA6 e];exact a.2 λg=>e (ahd f λv i=>g v i)
  all_goals unfold lL
  .rw[Q3,Q7,Q7,if_neg (by simpa using b),Q8]
  .rw[Q3,Q7,Q7,if_pos b]
  .rw[Q0];rfl
 .rw[Q3,zA6 λe=>f (by rw[e])]
end Go.Proofs.YtflciafboapaaaaGreat
namespace Go.Proofs.YtflciafboapaaaaGreat
open Go.Sx
def nT (a:b_):V1 V4:=
 Option.bind (cX U ((a.1,a.2))) λb=>(some (b))
theorem WY:aU prog 132:=call132
theorem JX {d:b_} (a b:V0) (e:kI) (r:V4) (h:nT U d=some r):
  aZ prog 132 #[Value.agg #[a,b]] [Sl aK a d.1,S2 aR b e d.2] (λx:Unit=>vB (r)) (λx l=>l) (λ_ l=>l):=by
 refine aZ.of func132 Z ntmps132 Z λc=>aT<|aI (aN.box (cs:=[a,b]) Z Z) Z λi=>Q5 Z<|aT<|cL 0 Z<|fF h λf g h=>aI (zBj Jl (qR U a b e f g) Z (jJ [0,1] Z)) Z λj=>Q5 Z<|aV ?_;cases h;exact uC Z
def BO (a:Int):V1 (Int):=
 some (a)
def yJ (c:aX) (a:e_) (b:iU->V1 (Int)):V1 (Int):=
 if a.2<(c.length:Int)then(ck (0<=a.2/\a.2<(c.length:Int)) (b ((min a.1 (at' c a.2)),(wI .i64 (a.2+(1:Int))))))else(BO (a.1))
def CM (a:aX):V1 (Int):=
 if(a.length:Int)<(1:Int)then(none)else(ck (0<=(0:Int)/\(0:Int)<(a.length:Int)) (bE (yJ a) U ((at' a (0:Int)),(1:Int))))
theorem aeA:aU prog 179:=call179
theorem R_ {f:aX} (g:V0) (r:Int) (h:CM U f=some r):
  aZ prog 179 #[g] [Sl aK g f] (λx:Unit=>vI (r)) (λx l=>l) (λ_ l=>l):=by
 refine aZ.of func179 Z ntmps179 Z λc=>Q4 Z<|aL<|Q6 Z<|jH (cP Z) Z<|cN Z<|aO<|gC h Z (λh=>?_) λh=>?_
 .refine aP ?_;cases h
 refine cU<|Q6 Z<|dQ h λj h=>aB (bD Z Z (cP Z) Z Z j) Z<|aB (bY Z (cP Z) Z Z Z dJ j) Z<|Q5 Z<|aL<|fV (λb=>BO b=some r) (λb i=>[(3,vI (b))]) (λb i=>[]) ?_ ?_
 .refine Q4 Z<|aQ<|fT (yJ f) (λa d=>[(0,g),(3,vI (a.1)),(4,vI (a.2))]) (λa d=>[]) ((at' f (0:Int)),(1:Int)) () h SF (aS.refl _) ?_;intro k a d h;refine aL<|Q6 Z<|aA Z<|jH (cP Z) Z<|cN Z<|aO<|gC h Z (λh=>?_) λh=>?_
  .exact cU<|aL<|aQ<|aP<|aA Z<|aA Z<|aA Z<|dQ h λe h=>aB (bD Z Z (cP Z) Z Z e) Z<|aB (bY Z (cP Z) Z Z Z dJ e) Z<|aB (SS Z Z) Z<|aC Z<|fC<|mF<|aP<|aA Z<|cH Z<|Q5 Z<|Ci ((min a.1 (at' f a.2)),(wI .i64 (a.2+(1:Int)))) () h SF Z
  exact fH<|jV (a.1) () h SF Z
 intro b i h;unfold BO at h;refine Q6 Z<|Q5 Z<|aV ?_;cases h;exact oA Z
def k_ (a:b_):V1 (Int):=
 Option.bind (CM U a.1) λb=>(Option.bind (lB U a.1 b) λc=>(some (c)))
theorem WZ:aU prog 133:=call133
theorem GZ {b:b_} (a d:V0) (k:kI) (r:Int) (h:k_ U b=some r):
  aZ prog 133 #[Value.agg #[a,d]] [Sl aK a b.1,S2 aR d k b.2] (λx:Unit=>vI (r)) (λx l=>l) (λ_ l=>l):=by
 refine aZ.of func133 Z ntmps133 Z λc=>aT<|aI (aN.box (cs:=[a,d]) Z Z) Z λm=>Q5 Z<|aL<|Bf [0,1,0,4,12,31,63] 5 mixedOrders<|cT Z<|gN 0 Z<|cT Z<|gN 0 Z<|fF h λe g h=>zBl Z Z Z (zBj aeA (R_ U a e g) Z (jJ [0] Z)) Z (λj=>(oP [([0],[])] Z)) λj=>bS 5 Z Z<|fF h λf i h=>aI (zBj Xd (Ha U a f i) Z (jJ [0] Z)) Z λn=>Q5 Z<|aV ?_;cases h;exact uC Z
def l_ (U:Nat) (b:e_) (a:aX) (c:Int):V1 V4:=
 ck (0<=b.1/\b.1<(a.length:Int)) (ck (0<=c/\c<(a.length:Int)) (some (decide ((at' a b.1)=(wI .i64 ((at' a c) - (1:Int)))))))
theorem aet:aU prog 144:=call144
theorem Lh (U:Nat) {d:e_} {g:aX} {i:Int} (a:Nat) (j:V0) (b:Nat) (r:Bool) (h:l_ U d g i=some r):
  aZ prog 144 #[Value.agg #[vI (d.1),vI (d.2)],vP a,vP b] [bG a [j] 22,Sl aK j g,bG b [vI (i)] 3] (λx:Unit=>vB (r)) (λx l=>l) (λ_ l=>l):=by
 refine aZ.of func144 Z ntmps144 Z λc=>?_;refine aT<|aI (aN.box (cs:=[vI (d.1),vI (d.2)]) Z Z) Z λk=>aC Z<|aO<|aL ?_;refine Bf [0,0,2,7,15,0,0,96,224,480,1023,2047] 10 mixedOrders ?_;refine aY Z .nil (iH 0 Z) (dG Z (cP Z) Z Z Z) aJ.z<|cT Z<|gN 0 Z<|dQ h λe h=>aY Z .nil (iH 1 Z) (bD Z Z (cP Z) Z Z e) aJ.z<|aY Z .nil (iH 1 Z) (bY Z (cP Z) Z Z Z dJ e) aJ.z<|aY Z .nil (iH 0 Z) (dG Z (cP Z) Z Z Z) aJ.z<|aY Z .nil (iH 2 Z) (dG Z (cP Z) Z Z Z) aJ.z<|dQ h λf h=>aY Z .nil (iH 1 Z) (bD Z Z (cP Z) Z Z f) aJ.z<|aY Z .nil (iH 1 Z) (bY Z (cP Z) Z Z Z dJ f) aJ.z<|jS Z (zM Z Z)<|bS 10 Z Z<|d_ Z<|aC Z<|aO<|aV ?_;cases h;exact uC Z
def yW (a:Unit):V1 V4:=
 some (true)
def nH (f:b_) (h:bJ) (e:Int) (g:aX) (a:Int) (b:(Int)->V1 V4) (c:Int):V1 V4:=
 ck (0<=e/\e<(f.1.length:Int)) (ck (0<=a/\a<(g.length:Int)) (Option.bind (jG U (at' h a) ([(at' f.1 e),(at' g a),c])) λd=>(if(!d)=true then(some (false))else(b (wI .i64 (a+(1:Int)))))))
def yX (d:b_) (e:bJ) (f:Int) (g:aX) (b:Int) (a:(Int)->V1 V4) (c:Unit):V1 V4:=
 nH U d e f g b a (-1:Int)
def kA (d:b_) (h:bJ) (i:Int) (g:aX) (a:Int) (c:(Int)->V1 V4) (b:Int) (e:(Int)->V1 V4):V1 V4:=
 if b<((at' d.2 a).length:Int)then(ck (0<=b/\b<((at' d.2 a).length:Int)) (Option.bind (l_ U ((((at' (at' d.2 a) b).1),((at' (at' d.2 a) b).2))) g a) λf=>(if f=true then(nH U d h i g a c (b))else(e (wI .i64 (b+(1:Int)))))))else(yX U d h i g a c (()))
def lI (d:b_) (c:bJ) (e:Int) (f:aX) (a:Int) (b:(Int)->V1 V4):V1 V4:=
 if a<(c.length:Int)then(ck (0<=a/\a<(c.length:Int)) (ck (0<=a/\a<(d.2.length:Int)) (bE (kA U d c e f a b) U (0:Int))))else(yW (()))
def yV (a:b_) (d:bJ) (c:V4):V1 V4:=
 if c=true then(some (false))else(Option.bind (k_ U ((a.1,a.2))) λb=>(Option.bind (gJ U ((a.1,a.2)) b) λe=>(bE (lI U a d b e) U (0:Int))))
def vJ (a:b_) (b:bJ):V1 V4:=
 Option.bind (nT U ((a.1,a.2))) λc=>(if(!c)=true then(yV U a b (true))else(Option.bind (mG U a.1) λd=>(Option.bind (eS U ((a.1,a.2)) b ([d,(wI .i64 ((a.1.length:Int) - (1:Int))),(-1:Int)])) λe=>(yV U a b ((!e))))))
theorem ahK:aU prog 92:=call92
theorem Om (U:Nat) {d:b_} {s:bJ} (n q:V0) (H:kI) (I:V0) (W:mC) (r:Bool) (h:vJ U d s=some r):
  aZ prog 92 #[Value.agg #[n,q],I] [Sl aK n d.1,S2 aR q H d.2,S2 aK I W s] (λx:Unit=>vB (r)) (λx l=>l) (λ_ l=>l):=by
 let E:=(wI .i64 ((d.1.length:Int) - (1:Int)))
 refine aZ.of func92 Z ntmps92 Z λc=>?_;refine aT<|aI (aN.box (cs:=[n,q]) Z Z) Z λX=>let p:=bG X [n,q] 31;aC Z<|aO<|aL<|aL<|fV (λJ=>yV U d s J=some r) (λJ b4=>[(1,I),(2,vP X),(26,vB (J))]) (λJ b4=>[p]) ?_ ?_
 .refine Bf [0,1,3,7,15,15,15,79,207,15,527,1551,3599,8143,16383,32767,65535] 14 mixedOrders ?_;refine sP 0 Z<|fF h λac ag h=>zBl Z Z Z (zBj WY (JX U n q H ac ag) Z (jJ [0,1] Z)) Z (λaj=>(oP [] Z)) λaj=>jS Z (nY Z)<|jS Z (f_ Z) ?_;refine JR.guard (by exact rfl) (by exact rfl) (by exact rfl) (λo=>?_) (λo=>?_)
  .have h:=ME o h;refine bK Z Z Z Z<|bK Z Z Z Z<|bK Z Z Z Z<|bK Z Z Z Z<|bK Z Z Z Z<|bK Z Z Z Z<|bK Z Z Z Z<|bK Z Z Z Z<|bK Z Z Z Z<|bK Z Z Z Z<|bS 14 Z Z<|aW Z<|aW Z<|gT Z<|aO ?_;exact jV (true) () h SF Z
  have h:=Jy o h;refine eT Z (aS.cons 0 Z .nil) .nil (eH 0 Z Z Z Z) (KH Z)<|eT Z .nil .nil (f_ Z) (KH Z)<|eT Z .nil .nil (dN Z Z Z Z Z) (KH Z)<|eT Z (aS.cons 0 Z .nil) .nil (eI 0 Z Z Z Z Z) (KH Z)<|fF h λC ah h=>Sv Z Z Z Z (zBj Mu (CR U n C ah) Z (jJ [0] Z)) Z (λak=>(oP [([0],[])] Z)) λak=>eT Z .nil .nil (dN Z Z Z Z Z) NK<|eT Z (aS.cons 0 Z .nil) .nil (eI 0 Z Z Z Z Z) (aJ.h (aS.ix [0] Z Z) .nil (KH Z))<|eT Z .nil (iH 0 Z) (eW Z (cP Z) Z) (aJ.h .nil (iH 0 Z) (KH Z))<|eT Z .nil .nil (zM Z Z) NK<|Sv Z Z Z Z (cC (e:=cY) ([C,E,(-1:Int)]) [(0,vI (C)),(1,vI E),(2,vI (-1:Int))] Z Z Z Z (To (vI (C)) (vI E) (vI (-1:Int)) Z Z Z) Z Z Z) Z (λV=>(oP [([1],[])] Z)) λV=>bS 14 Z Z<|fF h λS ai h=>yM Z (zBj Mv (rM U n q H I W V S ai) Z (aD.cons (cP Z) (aD.cons (n_ Z) (aD.cons (uI Z) (aD.cons (bI (aH.res 0 Z) eP) .nil))))) Z λaq=>bB Z (nY Z) Z<|iV Z<|aO ?_;exact cD ((!S)) () h SF (aS.ix [1] Z Z) (aD.refl _ _)
 intro J b4 h;refine Ag h Z (λ_ h=>?_) λ_ h=>?_
 .refine aT<|aC Z<|aO<|aV<|aM ?_;cases h;exact uC Z
 refine cU<|aT<|cL 0 Z<|fF h λt w7 h=>aI (zBj WZ (GZ U n q H t w7) Z (jJ [0,1] Z)) Z λx8=>aC Z<|aO<|aT<|cL 0 Z<|aA Z<|fF h λk ad h=>aI (zBj W_ (DY U n q H k ad) Z (jJ [0,1] Z)) Z λm=>aI (aN.alloc (cs:=[eB]) Z Z) Z λi=>let y:=bG i [m] 22;bO (Know.one ((bI (aH.res 1 Z) eP))) λO=>iB 0 Z Z O Z Z Z<|aO<|aL<|fV (λu=>yW u=some r) (λu K=>[]) (λu K=>[]) ?_ ?_
 .refine aT<|aA Z<|aB (fR Z (uI Z) Z) Z<|aA Z<|aO<|aQ<|fT (lI U d s t k) (λa L=>[(2,vP X),(5,vI (t)),(6,vP i),(32,I),(33,vI (s.length:Int)),(34,vI (a))]) (λa L=>[y,Ar cY m k,p]) (0:Int) () h SF (aS.refl _) ?_;intro Y a L h;let F:=(bE (lI U d s t k) Y)
  refine aT<|cN Z<|aO<|aL ?_;refine gC h Z (λh=>?_) λh=>?_
  .refine cU<|aL<|aQ<|aT<|aA Z<|dQ h λw h=>aB (bX Z Z (uI Z) Z Z w) Z<|aB (cB Z (uI Z) Z Z w) Z<|aI (aN.alloc (cs:=[vI (0:Int)]) Z Z) Z λj=>let G:=bG j [vI (a)] 3;iB 0 Z Z Z Z Z Z<|aC Z<|aO<|aT<|cL 3 Z<|dO 0 Z<|aB (oM (cs:=[.tmp 6,.tmp 7]) (vs:=[vP i,vP j]) Z) Z<|uS (A:=Int) (B:=Unit) (vs:=[Value.agg #[n,q],vI (a),Value.func (.func 144) #[] #[vP i,vP j]]) (λf=>nH U d s t k a F f=some r) (λf D=>vI (f)) (λf D=>[G,y,Ar cY m k,p]) (λf D=>[Sl aK n d.1,S2 aR q H d.2,S2 aK I W s]) (pT.fn (show aU prog 138 from call138) Z) func138 Z ntmps138 Z Z ?_ ?_
   .refine aT<|aI (aN.box (cs:=[n,q]) Z Z) Z λal=>aC Z<|aO<|aL<|fV (λv=>yX U d s t k a F v=some r) (λv M=>[]) (λv M=>[G,y,Ar cY m k,p]) ?_ ?_
    .refine aT<|bZ Z<|dO 0 Z<|aA Z<|dQ h λg h=>aB (bX Z Z (n_ Z) Z Z g) Z<|aB (cB Z (n_ Z) Z Z g) Z<|aB (eW Z (zBk (n_ Z) g.1 g.2) Z) Z<|aA Z<|aO<|aQ<|fT (kA U d s t k a F) (λb N=>[(2,Value.func (.func 144) #[] #[vP i,vP j]),(13,(at' H a).1),(14,vI ((at' d.2 a).length:Int)),(15,vI (b))]) (λb N=>[G,y,Ar cY m k,p]) (0:Int) () h SF (aS.ix [1,2,3,4] Z Z) ?_;intro an b N h;refine aT<|cN Z<|aO<|aL ?_;refine gC h Z (λh=>?_) λh=>?_
     .refine cU<|aL<|aQ<|aT<|aA Z<|dQ h λR h=>aB (bD Z Z (zBk (n_ Z) g.1 g.2) Z Z R) Z<|aB (fG (cs:=[vI ((at' (at' d.2 a) b).1),vI ((at' (at' d.2 a) b).2)]) Z (zBk (n_ Z) g.1 g.2) cA Z Z Z Z R) Z<|aI (aN.alloc (cs:=MN) Z Z) Z λam=>aC Z<|bP 0 (vs:=[vI ((at' (at' d.2 a) b).1),vI ((at' (at' d.2 a) b).2)]) Z Z Z Z Z Z<|aO<|aT<|aA Z<|cL 0 Z<|fF h λab af h=>aI (mJ (vs:=[Value.agg #[vI ((at' (at' d.2 a) b).1),vI ((at' (at' d.2 a) b).2)]]) (cs:=[vP i,vP j]) aet Z (Lh U i m j ab af) Z (aD.cons (aH.res 2 Z) (aD.cons (bI (aH.res 3 Z) eP) (aD.cons (aH.res 1 Z) .nil))) (λ_ _=>rfl)) Z λap=>aO ?_;refine Ag h Z (λ_ h=>?_) λ_ h=>?_
      .refine aT<|aA Z<|aC Z<|aO<|aV<|bU<|aM<|aM<|bU<|aM ?_;exact iX (b) () h (.inl Z) (DG.r1 Z (RV.tmp Z)) Z (aS.ix [1,2,3,4] Z Z) (aD.refl _ _)
      refine eK<|mF<|aP<|cH Z<|aA Z<|aO ?_;exact gA (wI .i64 (b+(1:Int))) () h SF (aS.ix [1,2,3,4] Z Z) (aD.refl _ _)
     refine fH ?_;exact jV () (()) h SF Z
    intro v M h;unfold yX at h;refine aT<|aC Z<|aO<|aV ?_;exact iX (-1:Int) () h (.inl Z) (DG.r1 Z (RV.tmp Z)) Z (aS.refl _) (aD.refl _ _)
   intro f D h;refine aC Z<|aO<|aL ?_;refine Bf [0,0,2,0,14,30,0,0,192,448,0,2046,4095,8191] 12 mixedOrders ?_;refine bM Z<|cT Z<|gN 3 Z<|bM Z<|dQ h λP h=>aY Z .nil (iH 0 Z) (bD Z Z (cP Z) Z Z P) aJ.z<|aY Z .nil (iH 0 Z) (bY Z (cP Z) Z Z Z dJ P) aJ.z<|gN 1 Z<|gN 0 Z<|dQ h λQ h=>aY Z (aS.cons 2 Z .nil) .nil (bD Z Z (bI (aH.res 0 Z) eP) Z Z Q) aJ.z<|aY Z (aS.cons 2 Z .nil) .nil (bY Z (bI (aH.res 0 Z) eP) Z Z Z dJ Q) aJ.z<|bM Z<|zBl Z Z Z (cC (e:=cY) ([(at' d.1 t),(at' k a),f]) [(0,vI (at' d.1 t)),(1,vI (at' k a)),(2,vI (f))] Z Z Z Z (To (vI (at' d.1 t)) (vI (at' k a)) (vI (f)) Z Z Z) Z Z Z) Z (λT=>(oP [] Z)) λT=>bS 12 Z Z<|fF h λaa ae h=>aI (zBj QQ (Bd U ((at' W a).1) T aa ae) Z (aD.cons (zBk (uI Z) w.1 w.2) (aD.cons (bI (aH.res 0 Z) eP) .nil))) Z λao=>aB (nY Z) Z<|aO ?_;refine Ag h Z (λ_ h=>?_) λ_ h=>?_
   .refine aT<|aC Z<|aO<|aV<|bU<|aM<|aM<|bU<|aM ?_;cases h;exact uC Z
   refine eK<|mF<|aP<|cH Z<|aA Z<|aO ?_;exact gA (wI .i64 (a+(1:Int))) () h SF (aS.ix [2,3,4] Z Z) (aD.refl _ _)
  refine fH ?_;exact cD () (()) h SF .nil (aD.refl _ _)
 intro u K h;unfold yW at h;refine aT<|aC Z<|aO<|aV ?_;cases h;exact oA Z
end Go.Proofs.YtflciafboapaaaaGreat
namespace Go.Proofs.YtflciafboapaaaaGreat
open Go Go.Sx
theorem ajY {g:GR} (a:VG g) {u v:Nat} (b:u<g.2.length) (c:v<g.2.length) (h:u≠v):yC g u≠yC g v:=by
 rcases zAx u v with q|q
 .exact(a.node v c).ids u q
 .exact λe=>(a.node u b).ids v V7 e.symm
theorem aiu {g:GR} (d:VG g):∃s,s<g.2.length/\(∀u,u<g.2.length->u≠s->yC g s<yC g u)/\k_ 1000 g=some ((s:Nat):Int):=by
 have G:=d.n1;have D:=d.n24;have A:=d.len;have B:∀u,u<g.2.length->0<=yC g u:=λu b=>(d.node u b).id.1;have⟨m,_,⟨s,v,F⟩,n⟩:=least (p:=λm=>∃s,s<g.2.length/\yC g s=((m:Nat):Int)) (yC g 0).toNat ⟨0,V7,by have:=B 0 V7;omega⟩;have l:∀u,u<g.2.length->yC g s<=yC g u:=λu b=>by
  have:=B u b;have h:=n (yC g u).toNat;by_cases e:(yC g u).toNat<m
  .exact absurd ⟨u,b,V7⟩ (h e)
  .omega
 refine⟨s,v,λu b e=>?_,?_⟩
 .have:=l u b;have:=ajY d b v e;omega
 have C:CM 1000 g.1=some (yC g s):=by
  unfold CM;rw[Q0,Q7];have⟨⟨a,i⟩,⟨f,⟨w,x,c⟩,j⟩,y⟩:=nO (step:=yJ g.1) (K:=λz=>some z.1) (g.2.length - 1) (λk z=>z.2=((k+1:Nat):Int)/\(∃w,w<g.2.length/\z.1=yC g w)/\∀u:Nat,u<k+1->z.1<=yC g u) (λk z o E t=>by
   have⟨a,i⟩:=z;have⟨f,⟨w,x,c⟩,j⟩:=t;dsimp only at f c j;subst f c;have r:at' g.1 ((k+1:Nat):Int)=yC g (k+1):=rfl;refine⟨(min (yC g w) (yC g (k+1)),((k+1+1:Nat):Int)),⟨rfl,?_,λu b=>?_⟩,?_⟩
   .dsimp only;by_cases q:yC g w<=yC g (k+1)
    .exact⟨w,x,V7⟩
    .exact⟨k+1,V7,V7⟩
   .dsimp only;by_cases q:u<k+1
    .have:=j u q;omega
    .obtain rfl:u=k+1:=V7
     omega
   .unfold yJ;dsimp only;rw[Q3,Q7,Q8,r]) (λz o t=>by
   have⟨a,i⟩:=z;have⟨f,_⟩:=t;dsimp only at f;subst f;unfold yJ BO;dsimp only;rw[Q0]) 1000 (at' g.1 (0:Int),(1:Int)) ⟨rfl,⟨0,V7,rfl⟩,λu b=>by
    obtain rfl:u=0:=V7
    exact Int.le_refl _⟩ V7
  dsimp only at c j y;have H:=j s V7;have I:=l w x;rw[y,show a=yC g s by omega]
 have r:lB 1000 g.1 (yC g s)=some ((s:Nat):Int):=by
  unfold lB;refine eJ (step:=iD g.1 (yC g s)) (K:=some ((s:Nat):Int)) s (λk:Nat=>(k:Int)) (λk o E=>?_) (λo=>?_) 1000 V7
  .unfold iD;rw[Q3,Q7,if_neg (show¬yC g s=at' g.1 (k:Int)from λe=>ajY d v (show k<g.2.length by omega) V7 e),Q8]
  .unfold iD;rw[Q3,Q7,if_pos (show yC g s=at' g.1 (s:Int)from rfl)]
 unfold k_;rw[bA C,bA r]
section
variable {g:GR} {s:Nat} {d:V6 Int} {c:V6 (V6 Int)} (hV:VG g) (E:Elc g s d)
 include hV E
theorem aiv {v i:Nat} (f:v<g.2.length) (k:i<(row g v).length):l_ 1000 (gR (row g v) i) d (v:Int)=some (decide (D d (gR (row g v) i).1.toNat=D d v - 1)):=by
 have h:=hV.n24;have⟨u,l,e,_⟩:=hV.port f k;have j:=E.dist.len;have a:=E.nn v f;have b:=E.lt v f;unfold l_;rw[e,zAf,Q7,Q7,show wI .i64 (at' d (v:Int) - 1)=D d v - 1 from wr (by show -9223372036854775808<=D d v - 1;omega) (by show D d v - 1<=9223372036854775807;omega)]
theorem aik {v:Nat} (o:v<g.2.length) (f:Int->V1 V4):bE (kA 1000 g c (s:Int) d (v:Int) f) 1000 (0:Int)=nH 1000 g c (s:Int) d (v:Int) f (Zs g d v):=by
 have y:=hV.n24;have x:=(hV.node v o).deg;have z:(at' g.2 (v:Int)).length=(row g v).length:=rfl;have e:∀i:Nat,i<(row g v).length->at' ((List.range (row g v).length).map λi=>yA (decide (D d (gR (row g v) i).1.toNat=D d v - 1))) (i:Int)=yA (decide (D d (gR (row g v) i).1.toNat=D d v - 1)):=λi r=>AQ _ r;by_cases w:∃i,i<(row g v).length/\D d (gR (row g v) i).1.toNat=D d v - 1
 .have⟨i,r⟩:=w;have⟨m,_,⟨t,l⟩,a⟩:=least (p:=λi=>i<(row g v).length/\D d (gR (row g v) i).1.toNat=D d v - 1) i r;have u:Zs g d v=(m:Int):=z_ (by simpa using t) (by rw[e m t,zAe l];decide) (λj h=>by
   rw[e j V7,zA6 λq=>a j h ⟨V7,q⟩];rfl)
  rw[u];refine eJ (step:=kA 1000 g c (s:Int) d (v:Int) f) (K:=nH 1000 g c (s:Int) d (v:Int) f (m:Int)) m (λk:Nat=>(k:Int)) (λk b n=>?_) (λb=>?_) 1000 V7
  .unfold kA;rw[Q3,Q7,bA (show l_ 1000 (gR (row g v) k) d (v:Int)=_ from aiv hV E o V7),zA6 λq=>a k n ⟨V7,q⟩,if_neg Q2,Q8]
  .unfold kA;rw[Q3,Q7,bA (show l_ 1000 (gR (row g v) m) d (v:Int)=_ from aiv hV E o t),zAe l,if_pos Z]
 .have u:Zs g d v = -1:=zZ (λj h=>by
   rw[List.length_map,List.length_range]at h;rw[e j h,zA6 λq=>w ⟨j,h,q⟩];rfl)
  rw[u];refine eJ (step:=kA 1000 g c (s:Int) d (v:Int) f) (K:=nH 1000 g c (s:Int) d (v:Int) f (-1)) (row g v).length (λk:Nat=>(k:Int)) (λk b n=>?_) (λb=>?_) 1000 V7
  .unfold kA;rw[Q3,Q7,bA (show l_ 1000 (gR (row g v) k) d (v:Int)=_ from aiv hV E o n),zA6 λq=>w ⟨k,n,q⟩,if_neg Q2,Q8]
  .unfold kA yX;rw[Q0]
theorem aiw (F:Ep g) (B:gJ 1000 g (s:Int)=some d) (t:k_ 1000 g=some (s:Int)) (o:FJ g c pS) (G:∀v,v<g.2.length->RtE g s d c v):vJ 1000 g c=some true:=by
 have C:=hV.n24;have I:=hV.n1;have f:=hV.len;have r:=o.len;have H:=E.dist.len;have L:=E.slt;have J:=rZ hV g.1.length V7;have q:UP g [fI g g.1.length,(g.2.length:Int) - 1,-1] c:=by
  refine⟨r,λv h=>⟨o.row v h,λx u=>?_⟩⟩
  have⟨a,b,e⟩:=Tq hV o h;have u:x<3:=u
  match x,u with
  |0,_=>
   have p:at' [fI g g.1.length,(g.2.length:Int) - 1,-1] ((0:Nat):Int)=fI g g.1.length:=rfl;unfold inB;rw[p,Q0,f];exact a
  |1,_=>
   have p:at' [fI g g.1.length,(g.2.length:Int) - 1,-1] ((1:Nat):Int)=(g.2.length:Int) - 1:=rfl;unfold inB;rw[p,Q0];exact b
  |2,_=>exact e
 have i:nT 1000 g=some true:=by
  unfold nT;rw[bA (show cX 1000 (g.1,g.2)=some true from(CI hV).1 F)]
 unfold vJ;rw[bA (show nT 1000 (g.1,g.2)=_ from i),if_neg Q2,bA (abX hV),show wI .i64 ((g.1.length:Int) - 1)=(g.2.length:Int) - 1 by rw[Q9,f],bA (show eS 1000 (g.1,g.2) c [fI g g.1.length,(g.2.length:Int) - 1,-1]=some true from(Fa hV V8 c).1 q)];unfold yV;rw[if_neg Q2,bA (show k_ 1000 (g.1,g.2)=_ from t),bA (show gJ 1000 (g.1,g.2) (s:Int)=_ from B)];refine eJ (step:=lI 1000 g c (s:Int) d) (K:=some true) g.2.length (λv:Nat=>(v:Int)) (λv w h=>?_) (λw=>?_) 1000 V7
 .have j:at' c (v:Int)=[yC g s,D d v,Zs g d v]:=by
   have⟨k,m,n⟩:=G v h;have A:(at' c (v:Int)).length=3:=o.row v h;unfold Gj at k m n;generalize at' c (v:Int)=l at A k m n
   match l,A with
   | [x,y,z],_=>
    have k:x=yC g s:=k;have m:y=D d v:=m;have n:z=Zs g d v:=n;rw[k,m,n]
  unfold lI;rw[Q3,Q7,Q7,aik hV E h w];unfold nH;rw[Q7,Q7,bA (Zx _ _ V8),j,zAe (show[yC g s,D d v,Zs g d v]=[at' g.1 (s:Int),at' d (v:Int),Zs g d v]from rfl),if_neg Q2,Q8]
 .unfold lI yW;rw[Q0]
end
end Go.Proofs.YtflciafboapaaaaGreat
namespace Go.Proofs.YtflciafboapaaaaGreat
open Go.Sx
def Fl (U:Nat) : V1 (ByteArray):=
 some Fx
theorem ahk:aU prog 10:=call10
theorem Wi (r:ByteArray) (h:Fl U = some r):
  aZ prog 10 #[] [] (λx:Unit=>vS (r)) (λx l=>l) (λ_ l=>l):=by
 refine aZ.of func10 Z ntmps10 Z λc=>?_;unfold Fl at h;refine Q4 Z<|Q4 Z<|aV ?_;cases h;exact oA Z
def BL (U:Nat) : V1 (ByteArray):=
 some FA
theorem aho:aU prog 28:=call28
theorem OT (r:ByteArray) (h:BL U = some r):
  aZ prog 28 #[] [] (λx:Unit=>vS (r)) (λx l=>l) (λ_ l=>l):=by
 refine aZ.of func28 Z ntmps28 Z λc=>?_;unfold BL at h;refine Q4 Z<|Q4 Z<|aV ?_;cases h;exact oA Z
def Ft : V1 Yb:=
 Option.bind (oW U (ByteArray.mk #[108,101,97,100]) (0:Int) (0:Int) (1:Int)) λa=>(Option.bind (oW U (ByteArray.mk #[100]) (-1:Int) (1:Int) (0:Int)) λb=>(Option.bind (p_ U (ByteArray.mk #[112])) λc=>(some ([(a.1,a.2.1,a.2.2.1,a.2.2.2.1,a.2.2.2.2.1,a.2.2.2.2.2),(b.1,b.2.1,b.2.2.1,b.2.2.2.1,b.2.2.2.2.1,b.2.2.2.2.2),(c.1,c.2.1,c.2.2.1,c.2.2.2.1,c.2.2.2.2.1,c.2.2.2.2.2)]))))
theorem ahp:aU prog 29:=call29
theorem RZ (r:Yc) (h:Ft U = some r):
  aZ prog 29 #[] [] (λx:V0=>x) (λx l=>Ar fJ x r::l) (λ_ l=>l):=by
 refine aZ.of func29 Z ntmps29 Z λc=>Q4 Z<|aT<|fF h λa g h=>aI (zBj Nj (wD U a g) Z .nil) Z λk=>fF h λb i h=>aI (zBj Nj (wD U b i) Z .nil) Z λm=>fF h λd j h=>aI (zBj QP (zF U d j) Z .nil) Z λn=>aI (cC (e:=fJ) ([((a.1,a.2.1,a.2.2.1,a.2.2.2.1,a.2.2.2.2.1,a.2.2.2.2.2)),((b.1,b.2.1,b.2.2.1,b.2.2.2.1,b.2.2.2.2.1,b.2.2.2.2.2)),((d.1,d.2.1,d.2.2.1,d.2.2.2.1,d.2.2.2.2.1,d.2.2.2.2.2))]) [(0,Value.agg #[vS (a.1),vI (a.2.1),vI (a.2.2.1),vI (a.2.2.2.1),vI (a.2.2.2.2.1),vI (a.2.2.2.2.2)]),(1,Value.agg #[vS (b.1),vI (b.2.1),vI (b.2.2.1),vI (b.2.2.2.1),vI (b.2.2.2.2.1),vI (b.2.2.2.2.2)]),(2,Value.agg #[vS (d.1),vI (d.2.1),vI (d.2.2.1),vI (d.2.2.2.1),vI (d.2.2.2.2.1),vI (d.2.2.2.2.2)])] Z Z Z Z (abq (vS (a.1)) (vI (a.2.1)) (vI (a.2.2.1)) (vI (a.2.2.2.1)) (vI (a.2.2.2.2.1)) (vI (a.2.2.2.2.2)) (vS (b.1)) (vI (b.2.1)) (vI (b.2.2.1)) (vI (b.2.2.2.1)) (vI (b.2.2.2.2.1)) (vI (b.2.2.2.2.2)) (vS (d.1)) (vI (d.2.1)) (vI (d.2.2.1)) (vI (d.2.2.2.1)) (vI (d.2.2.2.2.1)) (vI (d.2.2.2.2.2))) Z Z Z) Z λf=>Q5 Z<|aV ?_;cases h;exact fD (f) Z Z (RV.tmp Z) (aS.refl _) aD.nil
def CL (U:Nat) : V1 (ByteArray):=
 some Fy
theorem ahA:aU prog 82:=call82
theorem RQ (r:ByteArray) (h:CL U = some r):
  aZ prog 82 #[] [] (λx:Unit=>vS (r)) (λx l=>l) (λ_ l=>l):=by
 refine aZ.of func82 Z ntmps82 Z λc=>?_;unfold CL at h;refine Q4 Z<|Q4 Z<|aV ?_;cases h;exact oA Z
def Fp : V1 Yb:=
 Option.bind (oW U (ByteArray.mk #[100]) (0:Int) (15:Int) (0:Int)) λa=>(Option.bind (p_ U (ByteArray.mk #[112])) λb=>(some ([(a.1,a.2.1,a.2.2.1,a.2.2.2.1,a.2.2.2.2.1,a.2.2.2.2.2),(b.1,b.2.1,b.2.2.1,b.2.2.2.1,b.2.2.2.2.1,b.2.2.2.2.2)])))
theorem ahB:aU prog 83:=call83
theorem RU (r:Yc) (h:Fp U = some r):
  aZ prog 83 #[] [] (λx:V0=>x) (λx l=>Ar fJ x r::l) (λ_ l=>l):=by
 refine aZ.of func83 Z ntmps83 Z λc=>Q4 Z<|aT<|fF h λa f h=>aI (zBj Nj (wD U a f) Z .nil) Z λi=>fF h λb g h=>aI (zBj QP (zF U b g) Z .nil) Z λj=>aI (cC (e:=fJ) ([((a.1,a.2.1,a.2.2.1,a.2.2.2.1,a.2.2.2.2.1,a.2.2.2.2.2)),((b.1,b.2.1,b.2.2.1,b.2.2.2.1,b.2.2.2.2.1,b.2.2.2.2.2))]) [(0,Value.agg #[vS (a.1),vI (a.2.1),vI (a.2.2.1),vI (a.2.2.2.1),vI (a.2.2.2.2.1),vI (a.2.2.2.2.2)]),(1,Value.agg #[vS (b.1),vI (b.2.1),vI (b.2.2.1),vI (b.2.2.2.1),vI (b.2.2.2.2.1),vI (b.2.2.2.2.2)])] Z Z Z Z (Ny (vS (a.1)) (vI (a.2.1)) (vI (a.2.2.1)) (vI (a.2.2.2.1)) (vI (a.2.2.2.2.1)) (vI (a.2.2.2.2.2)) (vS (b.1)) (vI (b.2.1)) (vI (b.2.2.1)) (vI (b.2.2.2.1)) (vI (b.2.2.2.2.1)) (vI (b.2.2.2.2.2))) Z Z Z) Z λd=>Q5 Z<|aV ?_;cases h;exact fD (d) Z Z (RV.tmp Z) (aS.refl _) aD.nil
def BM (U:Nat) : V1 (ByteArray):=
 some Fz
theorem ahD:aU prog 85:=call85
theorem OZ (r:ByteArray) (h:BM U = some r):
  aZ prog 85 #[] [] (λx:Unit=>vS (r)) (λx l=>l) (λ_ l=>l):=by
 refine aZ.of func85 Z ntmps85 Z λc=>?_;unfold BM at h;refine Q4 Z<|Q4 Z<|aV ?_;cases h;exact oA Z
def Fq : V1 Yb:=
 Option.bind (oW U (ByteArray.mk #[120]) (0:Int) (16:Int) (0:Int)) λa=>(Option.bind (p_ U (ByteArray.mk #[112])) λb=>(some ([(a.1,a.2.1,a.2.2.1,a.2.2.2.1,a.2.2.2.2.1,a.2.2.2.2.2),(b.1,b.2.1,b.2.2.1,b.2.2.2.1,b.2.2.2.2.1,b.2.2.2.2.2)])))
theorem ahE:aU prog 86:=call86
theorem RX (r:Yc) (h:Fq U = some r):
  aZ prog 86 #[] [] (λx:V0=>x) (λx l=>Ar fJ x r::l) (λ_ l=>l):=by
 refine aZ.of func86 Z ntmps86 Z λc=>Q4 Z<|aT<|fF h λa f h=>aI (zBj Nj (wD U a f) Z .nil) Z λi=>fF h λb g h=>aI (zBj QP (zF U b g) Z .nil) Z λj=>aI (cC (e:=fJ) ([((a.1,a.2.1,a.2.2.1,a.2.2.2.1,a.2.2.2.2.1,a.2.2.2.2.2)),((b.1,b.2.1,b.2.2.1,b.2.2.2.1,b.2.2.2.2.1,b.2.2.2.2.2))]) [(0,Value.agg #[vS (a.1),vI (a.2.1),vI (a.2.2.1),vI (a.2.2.2.1),vI (a.2.2.2.2.1),vI (a.2.2.2.2.2)]),(1,Value.agg #[vS (b.1),vI (b.2.1),vI (b.2.2.1),vI (b.2.2.2.1),vI (b.2.2.2.2.1),vI (b.2.2.2.2.2)])] Z Z Z Z (Ny (vS (a.1)) (vI (a.2.1)) (vI (a.2.2.1)) (vI (a.2.2.2.1)) (vI (a.2.2.2.2.1)) (vI (a.2.2.2.2.2)) (vS (b.1)) (vI (b.2.1)) (vI (b.2.2.1)) (vI (b.2.2.2.1)) (vI (b.2.2.2.2.1)) (vI (b.2.2.2.2.2))) Z Z Z) Z λd=>Q5 Z<|aV ?_;cases h;exact fD (d) Z Z (RV.tmp Z) (aS.refl _) aD.nil
def vH (a:b_):V1 Cd:=
 Option.bind (nT U ((a.1,a.2))) λc=>(if(!c)=true then(some (((0:Int),false,false,(0:Int),(0:Int))))else(Option.bind (k_ U ((a.1,a.2))) λd=>(Option.bind (jE U ((a.1,a.2)) d) λb=>(some (((3:Int),false,true,(wI .i64 ((a.1.length:Int)+b)),(-1:Int)))))))
theorem ahG:aU prog 88:=call88
theorem Ol (U:Nat) {e:b_} (b d:V0) (f:kI) (r:(Int×Bool×Bool×Int×Int)) (h:vH U e=some r):
  aZ prog 88 #[Value.agg #[b,d]] [Sl aK b e.1,S2 aR d f e.2] (λx:Unit=>Value.agg #[vI (r.1),vB (r.2.1),vB (r.2.2.1),vI (r.2.2.2.1),vI (r.2.2.2.2)]) (λx l=>l) (λ_ l=>l):=by
 refine aZ.of func88 Z ntmps88 Z λc=>?_;refine aT<|aI (aN.box (cs:=[b,d]) Z Z) Z λp=>aI (aN.alloc (cs:=Wr) Z Z) Z λq=>aO<|aL<|aT<|cL 1 Z<|fF h λj m h=>aI (zBj WY (JX U b d f j m) Z (jJ [0,1] Z)) Z λs=>aB (nY Z) Z<|aO ?_;refine Ag h Z (λ_ h=>?_) λ_ h=>?_
 .refine aT ?_;refine aB (IE (r:=Value.agg #[vI (0:Int),vB (false),vB (false),vI (0:Int),vI (0:Int)]) (by intro w;simp[Instr.build,Instr.fill,dU,c_,cO,dV,dW,dC,eV])) Z ?_;refine bP 0 (vs:=Wr) Z Z Z Z Z Z<|aO<|aV<|aM ?_;cases h;exact fD () Z Z (RV.cell 0 Z Z Z Z) .nil aD.nil
 refine cU<|aL ?_;refine Bf [0,1,3,0,0,16,56,127,255] 7 mixedOrders ?_;refine cT Z<|gN 1 Z<|aY Z .nil (iH 0 Z) (eW Z (cP Z) Z) aJ.z<|sP 1 Z<|sP 1 Z<|fF h λk n h=>zBl Z Z Z (zBj WZ (GZ U b d f k n) Z (jJ [0,1] Z)) Z (λo=>(oP [([1],[]),([],[0]),([1],[])] Z)) λo=>fF h λa g h=>zBl Z Z Z (zBj WS (Cc U b d f a g) Z (jJ [0,1] Z)) Z (λi=>(oP [([],[0]),([1],[])] Z)) λi=>bS 7 Z Z<|cH Z<|aC Z<|aO<|aT<|aA Z ?_;refine aB (Kp (r:=Value.agg #[vI (3:Int),vB (false),vB (true),vI (wI .i64 ((e.1.length:Int)+a)),vI (-1:Int)]) Z Z Z Z (by intro w;simp[Instr.build,Instr.fill,dU,c_,cO,dV,dW,dC,eV])) Z ?_;refine bP 0 (vs:=[vI (3:Int),vB (false),vB (true),vI (wI .i64 ((e.1.length:Int)+a)),vI (-1:Int)]) Z Z Z Z Z Z<|aO<|aV ?_;cases h;exact fD () Z Z (RV.cell 0 Z Z Z Z) .nil aD.nil
def jK (m:Int) (a:b_):V1 (ByteArray×(V6 (ByteArray×Int×Int×Int×Int×Int))×Int):=
 Option.bind (dH U m (4:Int)) λe=>(if e=(0:Int)then(Option.bind (Fl U) λn=>(Option.bind (Fo U) λo=>(Option.bind (BX U ((a.1,a.2))) λb=>(some (n,o,b.2.2.2.1)))))else(if e=(1:Int)then(Option.bind (CL U) λc=>(Option.bind (Fp U) λd=>(Option.bind (uB U ((a.1,a.2))) λf=>(some (c,d,f.2.2.2.1)))))else(if e=(2:Int)then(Option.bind (BM U) λg=>(Option.bind (Fq U) λh=>(Option.bind (vO U ((a.1,a.2))) λi=>(some (g,h,i.2.2.2.1)))))else(Option.bind (BL U) λj=>(Option.bind (Ft U) λk=>(Option.bind (vH U ((a.1,a.2))) λl=>(some (j,k,l.2.2.2.1))))))))
theorem ahr:aU prog 40:=call40
theorem Md {Q:Int} {j:b_} (a b:V0) (i:kI) (r:adj) (h:jK U Q j=some r):
  aZ prog 40 #[vI (Q),Value.agg #[a,b]] [Sl aK a j.1,S2 aR b i j.2] (λx:V0=>Value.tuple #[vS (r.1),x,vI (r.2.2)]) (λx l=>Ar fJ x r.2.1::l) (λ_ l=>l):=by
 refine aZ.of func40 Z ntmps40 Z λc=>aT<|aI (aN.box (cs:=[a,b]) Z Z) Z λY=>aC Z<|aC Z<|Q5 Z<|aL<|Q6 Z<|fF h λR V h=>aI (zBj xR (fL U R V) Z .nil) Z λx4=>aO<|aQ<|aT<|d_ Z<|Q5 Z<|gC h Z (λh=>?_) λh=>?_
 .refine aL<|JR.start [0,1,0,7,15,15,47,127] 7 mixedOrders (by decide +kernel) ?_;refine JR.open (by exact rfl)<|fF h λS W h=>zBl Z Z Z (zBj ahk (Wi U S W) Z .nil) Z (λX=>oC.z) λX=>fF h λT w h=>zBl Z Z Z (zBj ahm (RR U T w) Z .nil) Z (λd=>oC.z) λd=>aY Z (aS.cons 1 Z .nil) .nil (eH 0 Z Z Z Z) (aJ.h (aS.ix [0] Z Z) .nil (aJ.h (aS.ix [0] Z Z) .nil aJ.z))<|fF h λk y h=>zBl Z Z Z (zBj ahz (Uo U a b i k y) Z (jJ [0,1] Z)) Z (λJ=>(oP [] Z)) λJ=>jS Z (Ji Z Z Z Z Z Z)<|jS Z (oK Z)<|jS Z (oK Z)<|bS 7 Z Z<|Q5 Z<|aV<|bU<|aM ?_;cases h;exact Mm (d) Z Z (RV.tmp Z) (RV.tmp Z) (RV.tmp Z) (aS.ix [0] Z Z) aD.nil
 refine aT<|d_ Z<|Q5 Z<|gC h Z (λh=>?_) λh=>?_
 .refine aL<|JR.start [0,1,0,7,15,15,47,127] 7 mixedOrders (by decide +kernel) ?_;refine JR.open (by exact rfl)<|fF h λm A h=>zBl Z Z Z (zBj ahA (RQ U m A) Z .nil) Z (λK=>oC.z) λK=>fF h λn B h=>zBl Z Z Z (zBj ahB (RU U n B) Z .nil) Z (λe=>oC.z) λe=>aY Z (aS.cons 1 Z .nil) .nil (eH 0 Z Z Z Z) (aJ.h (aS.ix [0] Z Z) .nil (aJ.h (aS.ix [0] Z Z) .nil aJ.z))<|fF h λo C h=>zBl Z Z Z (zBj ahC (OU U a b i o C) Z (jJ [0,1] Z)) Z (λL=>(oP [] Z)) λL=>jS Z (Ji Z Z Z Z Z Z)<|jS Z (oK Z)<|jS Z (oK Z)<|bS 7 Z Z<|Q5 Z<|aV<|bU<|aM ?_;cases h;exact Mm (e) Z Z (RV.tmp Z) (RV.tmp Z) (RV.tmp Z) (aS.ix [0] Z Z) aD.nil
 refine aT<|d_ Z<|Q5 Z<|gC h Z (λh=>?_) λh=>?_
 .refine aL<|JR.start [0,1,0,7,15,15,47,127] 7 mixedOrders (by decide +kernel) ?_;refine JR.open (by exact rfl)<|fF h λp D h=>zBl Z Z Z (zBj ahD (OZ U p D) Z .nil) Z (λM=>oC.z) λM=>fF h λq E h=>zBl Z Z Z (zBj ahE (RX U q E) Z .nil) Z (λf=>oC.z) λf=>aY Z (aS.cons 1 Z .nil) .nil (eH 0 Z Z Z Z) (aJ.h (aS.ix [0] Z Z) .nil (aJ.h (aS.ix [0] Z Z) .nil aJ.z))<|fF h λs F h=>zBl Z Z Z (zBj ahF (Ot U a b i s F) Z (jJ [0,1] Z)) Z (λN=>(oP [] Z)) λN=>jS Z (Ji Z Z Z Z Z Z)<|jS Z (oK Z)<|jS Z (oK Z)<|bS 7 Z Z<|Q5 Z<|aV<|bU<|aM ?_;cases h;exact Mm (f) Z Z (RV.tmp Z) (RV.tmp Z) (RV.tmp Z) (aS.ix [0] Z Z) aD.nil
 refine eK<|mF<|aL<|JR.start [0,1,0,7,15,15,47,127] 7 mixedOrders (by decide +kernel) ?_;refine JR.open (by exact rfl)<|fF h λt G h=>zBl Z Z Z (zBj aho (OT U t G) Z .nil) Z (λO=>oC.z) λO=>fF h λu H h=>zBl Z Z Z (zBj ahp (RZ U u H) Z .nil) Z (λg=>oC.z) λg=>aY Z (aS.cons 1 Z .nil) .nil (eH 0 Z Z Z Z) (aJ.h (aS.ix [0] Z Z) .nil (aJ.h (aS.ix [0] Z Z) .nil aJ.z))<|fF h λv I h=>zBl Z Z Z (zBj ahG (Ol U a b i v I) Z (jJ [0,1] Z)) Z (λP=>(oP [] Z)) λP=>jS Z (Ji Z Z Z Z Z Z)<|jS Z (oK Z)<|jS Z (oK Z)<|bS 7 Z Z<|Q5 Z<|aV ?_;cases h;exact Mm (g) Z Z (RV.tmp Z) (RV.tmp Z) (RV.tmp Z) (aS.ix [0] Z Z) aD.nil
def kV (g:Int) (a:b_) (b:bJ):V1 V4:=
 Option.bind (dH U g (4:Int)) λf=>(if f=(0:Int)then(Option.bind (BY U ((a.1,a.2)) b) λh=>(some (h)))else(if f=(1:Int)then(Option.bind (yD U ((a.1,a.2)) b) λc=>(some (c)))else(if f=(2:Int)then(Option.bind (vQ U ((a.1,a.2)) b) λd=>(some (d)))else(Option.bind (vJ U ((a.1,a.2)) b) λe=>(some (e))))))
theorem aaE:aU prog 41:=call41
theorem Iv {p:Int} {g:b_} {q:bJ} (a b:V0) (e:kI) (d:V0) (f:mC) (r:V4) (h:kV U p g q=some r):
  aZ prog 41 #[vI (p),Value.agg #[a,b],d] [Sl aK a g.1,S2 aR b e g.2,S2 aK d f q] (λx:Unit=>vB (r)) (λx l=>l) (λ_ l=>l):=by
 refine aZ.of func41 Z ntmps41 Z λc=>aT<|aI (aN.box (cs:=[a,b]) Z Z) Z λA=>Q5 Z<|aL<|Q6 Z<|fF h λs u h=>aI (zBj xR (fL U s u) Z .nil) Z λB=>aO<|aQ<|aT<|d_ Z<|Q5 Z<|gC h Z (λh=>?_) λh=>?_
 .refine aT<|cL 0 Z<|aA Z<|fF h λt v h=>aI (zBj ahH (Up U a b e d f t v) Z (jJ [0,1,2] Z)) Z λC=>Q5 Z<|aV<|bU<|aM ?_;cases h;exact uC Z
 refine aT<|d_ Z<|Q5 Z<|gC h Z (λh=>?_) λh=>?_
 .refine aT<|cL 0 Z<|aA Z<|fF h λi m h=>aI (zBj ahI (OV U a b e d f i m) Z (jJ [0,1,2] Z)) Z λw=>Q5 Z<|aV<|bU<|aM ?_;cases h;exact uC Z
 refine aT<|d_ Z<|Q5 Z<|gC h Z (λh=>?_) λh=>?_
 .refine aT<|cL 0 Z<|aA Z<|fF h λj n h=>aI (zBj ahJ (Ou U a b e d f j n) Z (jJ [0,1,2] Z)) Z λy=>Q5 Z<|aV<|bU<|aM ?_;cases h;exact uC Z
 refine eK<|mF<|aT<|cL 0 Z<|aA Z<|fF h λk o h=>aI (zBj ahK (Om U a b e d f k o) Z (jJ [0,1,2] Z)) Z λz=>Q5 Z<|aV ?_;cases h;exact uC Z
noncomputable def lT (a:V4):V1 V4:=
 some (a)
noncomputable def uG (e:Int) (d:FY) (a:Cz):V1 V4:=
 Option.bind (Ej U) λb=>(if b=true then(if a.1=(0:Int)then(Option.bind (kV U e ((d.1,d.2)) a.2.1) λc=>(lT (c)))else(lT (false)))else(lT (false)))
noncomputable def pN (i:Int) (j:nX) (d:FY) (c:Ut) (h:V6 oJ) (f:Int) (b:uO) (e:V4):V1 V4:=
 if e=true then(some (false))else(Option.bind (jF U ((d.1,d.2)) j) λg=>(Option.bind (sQ U ((c.1,c.2.1,h)) ((d.1,d.2)) (wI .i64 ((1:Int)+f)) ((b.1,b.2.1,b.2.2)) g) λa=>(uG U i d (a.2,a.1.1,a.1.2.1,a.1.2.2))))
noncomputable def uF (h:Int) (i:nX) (d:FY) (b:Ut) (c:V6 oJ) (g:Int) (a:uO):V1 V4:=
 Option.bind (kV U h ((d.1,d.2)) a.1) λe=>(if(!e)=true then(pN U h i d b c g a (true))else(Option.bind (qA U ((b.1,b.2.1,c)) ((d.1,d.2)) ((a.1,a.2.1,a.2.2))) λf=>(pN U h i d b c g a ((!f)))))
noncomputable def uH (c:Cz) (b:Eb->V1 V4) (a:Cz):V1 V4:=
 if a.1≠(0:Int)then(some (false))else(b ((wI .i64 (c.1+(1:Int))),a.2.1,a.2.2.1,a.2.2.2))
noncomputable def pO (h:FY) (f:Ut) (i:V6 oJ) (g:Int) (a:Cz) (e:Eb->V1 V4) (c:Hh):V1 V4:=
 Option.bind (yE U ((h.1,h.2)) (wI .i64 ((1:Int)+g))) λd=>(ck ((c.length:Int)+(d.length:Int)<=1099511627) (Option.bind (sQ U ((f.1,f.2.1,i)) ((h.1,h.2)) (wI .i64 ((1:Int)+g)) ((a.2.1,a.2.2.1,a.2.2.2)) (c++d)) λb=>(uH a e (b.2,b.1.1,b.1.2.1,b.1.2.2))))
noncomputable def pP (j:FY) (f:adj) (g:Ut) (i:V6 oJ) (h:Int) (b:Hh) (e:Cz) (c:Eb->V1 V4) (a:Qj) (d:Qi->V1 V4):V1 V4:=
 if a.2<(b.length:Int)then(ck (0<=a.2/\a.2<(b.length:Int)) (ck ((a.1.length:Int)+(List.length ([(((at' b a.2).1),((at' b a.2).2.1),((at' b a.2).2.2))]):Int)<=1099511627) (d ((a.1++([(((at' b a.2).1),((at' b a.2).2.1),((at' b a.2).2.2))])),(wI .i64 (a.2+f.2.2))))))else(pO U j g i h e c (a.1))
noncomputable def gS (i:Int) (j:nX) (h:FY) (c:adj) (d:Ut) (f:V6 oJ) (e:Int) (g:Hh) (a:Cz) (b:Eb->V1 V4):V1 V4:=
 if a.1<c.2.2 then(bE (pP U h c d f e g a b) U (([]:nX),a.1))else(uF U i j h d f e (a.2.1,a.2.2.1,a.2.2.2))
noncomputable def pM (d:Ae) (g:Iz) (j l:Int) (m n:nX) (k:aX):V1 V4:=
 Option.bind (kO U ((d.1,d.2.1,k,d.2.2.2.1,d.2.2.2.2.1,d.2.2.2.2.2)) (4:Int)) λc=>(Option.bind (jK U j ((c.1,c.2))) λa=>(Option.bind (iC U a.1) λe=>aas e.2.2 λi=>(Option.bind (dH U l (2:Int)) λf=>(Option.bind (iM U ((g.1,g.2.1,g.2.2.1,g.2.2.2)) ((c.1,c.2)) a.2.1 (wI .i64 ((1:Int)+f))) λb=>(Option.bind (jF U ((c.1,c.2)) m) λh=>(bE (gS U j n c a e i f h) U ((0:Int),b.1,b.2.1,b.2.2)))))))
noncomputable def pQ (d:Ae) (e:Iz) (f g:Int) (h i:nX) (a:aX×Int) (c:(aX×Int)->V1 V4):V1 V4:=
 if a.2<(d.2.2.1.length:Int)then(ck (0<=a.2/\a.2<(d.2.2.1.length:Int)) (Option.bind (dH U (at' d.2.2.1 a.2) (2:Int)) λb=>(ck ((a.1.length:Int)+(List.length ([b]):Int)<=1099511627) (c ((a.1++[b]),(wI .i64 (a.2+(1:Int))))))))else(pM U d e f g h i (a.1))
noncomputable def qO (a:Ae) (b:Iz) (c d:Int) (e f:nX):V1 V4:=
 bE (pQ U a b c d e f) (U+a.2.2.1.length) (([]:aX),(0:Int))
theorem GX {p0:Ae} {p1:Iz} {p2 p3:Int} {p4 p5:nX} (v0 v1 v2 v3 v4 v5 v6 v7 v8:V0) (r:V4) (h:qO U p0 p1 p2 p3 p4 p5=some r):
  aZ prog 7 #[Value.agg #[vI (p0.1),v0,v1,v2,vB (p0.2.2.2.2.1),vB (p0.2.2.2.2.2)],Value.agg #[v3,v4,v5,v6],vI (p2),vI (p3),v7,v8] [Sl aK v0 p0.2.1,Sl aK v1 p0.2.2.1,Sl aK v2 p0.2.2.2.1,Sl aK v3 p1.1,Sl aK v4 p1.2.1,Sl aK v5 p1.2.2.1,Sl aK v6 p1.2.2.2,Sl cJ v7 p4,Sl cJ v8 p5] (λx:Unit=>vB (r)) (λx l=>l) (λ_ l=>l):=by
 let X:=p0.2.2.2.2;let G:=Sl aK v4 p1.2.1;let F:=Sl aK v0 p0.2.1;let D:=Sl aK v6 p1.2.2.2;let C:=Sl aK v5 p1.2.2.1;let A:=Sl aK v1 p0.2.2.1;let v:=Sl aK v2 p0.2.2.2.1;refine aZ.of func7 Z ntmps7 Z λc=>?_;unfold qO at h;refine aT<|aI (aN.box (cs:=[vI (p0.1),v0,v1,v2,vB (X.1),vB (X.2)]) Z Z) Z λb1=>let bh:=bG b1 [vI (p0.1),v0,v1,v2,vB (X.1),vB (X.2)] 24;aI (aN.box (cs:=[v3,v4,v5,v6]) Z Z) Z λb2=>let bb:=bG b2 [v3,v4,v5,v6] 26;Q5 Z<|Q4 Z<|aL<|HU (B:=V0) (λa5=>pM U p0 p1 p2 p3 p4 p5 a5=some r) (λa5 b6=>[(2,vI (p2)),(3,vI (p3)),(4,v7),(5,v8),(6,vP b1),(7,vP b2),(13,b6)]) (λa5 b6=>[bb,bh,Ar cY b6 a5]) ?_ ?_
 .refine Q4 Z<|aQ<|cQ (iJ cY)<|fT (B:=V0) (pQ U p0 p1 p2 p3 p4 p5) (λK ad=>[(2,vI (p2)),(3,vI (p3)),(4,v7),(5,v8),(6,vP b1),(7,vP b2),(13,ad),(14,vI (K.2))]) (λK ad=>[bb,bh,Ar cY ad K.1]) (([]:aX),(0:Int)) (eB) h SF (aS.ix [1,2,0] Z Z) ?_;intro ci K ad h;refine aL<|Q6 Z<|bZ Z<|dO 1 Z<|jH (n_ Z) Z<|cN Z<|aO<|gC h Z (λh=>?_) λh=>?_
  .exact cU<|aL<|aQ<|aP<|aA Z<|bZ Z<|dO 1 Z<|aA Z<|dQ h λbg h=>aB (bD Z Z (n_ Z) Z Z bg) Z<|aB (bY Z (n_ Z) Z Z Z dJ bg) Z<|fF h λal b0 h=>aI (zBj xR (fL U al b0) Z .nil) Z λcn=>aI (cC (e:=cY) ([al]) [(0,vI (al))] Z Z Z Z (kY (vI (al)) Z) Z Z Z) Z λck=>dQ h λbJ h=>aI (gU 3 eP Z Z Z (bI (aH.res 0 Z) eP) Z Z Z Z bJ Z) Z λbR=>aC Z<|fC<|mF<|aP<|aA Z<|cH Z<|Q5 Z<|gA ((K.1++[al]),(wI .i64 (K.2+(1:Int)))) (bR) h SF (aS.ix [1,2,3] Z Z) (aD.refl _ _)
  exact fH<|jV (K.1) (ad) h SF Z
 intro a5 b6 h;refine Q6 Z<|bZ Z<|bO (Know.one ((bI (aH.res 2 Z) eP))) λb5=>iB 1 Z Z b5 Z Z Z<|aO<|aT<|cL 1 Z<|fF h λr8 w9 h=>aI (zBj ajz (EL U v0 b6 v2 r8 w9) Z (aD.cons (cP Z) (aD.cons (bI (aH.res 2 Z) eP) (jJ [2] Z)))) Z λg=>let E:=Sl aK g.1 r8.1;let L:=(List.zip g.2.2 r8.2);let aj:=S2 aR g.2.1 L r8.2;aI (aN.alloc (cs:=[eB,eB]) Z Z) Z λab=>let ah:=bG ab [g.1,g.2.1] 31;bO (Know.one ((bI (aH.res 1 Z) eP))) λbq=>bO (BH (fQ (i:=2) (j:=3) Z Z cA)) λbr=>bP 0 (vs:=[g.1,g.2.1]) Z Z (iZ bq (iZ br Z)) Z Z Z<|aO<|Q6 Z<|cL 0 Z<|fF h λP b8 h=>aI (zBj ahr (Md U g.1 g.2.1 L P b8) Z (aD.cons (bI (aH.res 1 Z) eP) (aD.cons (fQ (i:=2) (j:=3) Z Z cA) .nil))) Z λbo=>let y:=Sl aG bo P.2.1;aA Z<|lV Z<|lV Z<|lV Z<|aC Z<|aC Z<|Q5 Z<|Q6 Z<|fF h λQ b9 h=>aI (aN.call S_ (Mh U Q b9) Z .nil (λ_ _=>rfl) (λ_ _=>rfl)) Z fun⟨M,N,av,bF⟩=>let H:=Sl aF N av;let w:=Sl aG M Q.2.1;let af:=PF (Value.agg #[vS Q.1,M,N]);?_
 have h:=Yz h av bF;refine aI (aN.alloc (cs:=[vS (ByteArray.mk #[]),eB,eB]) Z Z) Z λao=>let aq:=bG ao [vS (Q.1),M,N] 36;bO (Know.one ((cP Z))) λbs=>bO (Know.one ((n_ Z))) λbt=>bP 0 (vs:=[vS (Q.1),M,N]) Z Z (iZ Z (iZ bs (iZ bt Z))) Z Z Z<|aO<|Q6 Z<|fF h λar ca h=>let W:=vI (wI .i64 ((1:Int)+ar));aI (zBj xR (fL U ar ca) Z .nil) Z λco=>cH Z<|Q5 Z<|aT<|cL 6 Z<|cL 2 Z<|aA Z<|aA Z<|cQ (lE 3 Z (bI (aH.res 0 Z) eP))<|cQ (CV [Ar bN.raw g.2.1 g.2.2,hJ bW g.2.2 r8.2] [aq,Ar fJ bo P.2.1,ah,bb,bG b1 [vI (p0.1),v0,b6,v2,vB (X.1),vB (X.2)] 24,Ar cY b6 a5] (aS.ix [3,4,0,1,2,5,6,7] Z Z) (fQ (i:=0) (j:=1) Z Z cA))<|cQ (lE 1 Z (bI (aH.res 0 Z) xN))<|fF h λau cb h=>aI (aN.call ahl (Ia U v3 v4 v5 v6 g.1 g.2.1 L bo au cb) Z (jW.cons (zA1 (i:=9) Z) (jW.cons (zA1 (i:=10) Z) (jW.cons (zA1 (i:=11) Z) (jW.cons (zA1 (i:=12) Z) (jW.cons (zA1 (i:=2) Z) (jW.cons (zA1 (i:=1) Z) (iH 0 Z))))))) (λ_ _=>rfl) (λ_ _=>rfl)) Z λR=>let Y:=R.2.2.2;let ai:=S2 aK R.1 R.2.1 au.1;let ag:=S3 aK R.2.2.1 Y.1 au.2.1;let ae:=S4 aK Y.2.1 Y.2.2 au.2.2;aI (aN.alloc (cs:=[eB,eB,eB]) Z Z) Z λO=>bO (BH (cP Z)) λbu=>bO (BH (n_ Z)) λbw=>bO (BH (uI Z)) λbx=>bP 0 (vs:=[R.1,R.2.2.1,R.2.2.2.2.1]) Z Z (iZ bu (iZ bw (iZ bx Z))) Z Z Z<|aO<|aT<|cL 2 Z<|aA Z<|fF h λam cc h=>let aw:=(gS U p2 p5 r8 P Q av ar am);aI (zBj aaC (GY U g.1 g.2.1 L v7 am cc) Z (jJ [5,4,16] Z)) Z λan=>Q5 Z<|aL<|lN (B:=X_) (λI=>uF U p2 p5 r8 Q av ar I=some r) (λI k=>[(2,vI (p2)),(3,W),(5,v8),(15,vP ab),(19,vP ao),(20,vP O)]) (λI k=>[bG O [k.1,k.2.2.1,k.2.2.2.2.1] 43,aq,ah]) (λI k=>[ai,ag,ae,y,aj,E,w,H,af,F,A,v,Sl aK v3 p1.1,G,C,D,Sl cJ v7 p4,Sl cJ v8 p5,S2 aK k.1 k.2.1 I.1,S3 aK k.2.2.1 k.2.2.2.1 I.2.1,S4 aK k.2.2.2.2.1 k.2.2.2.2.2 I.2.2]) ?_ ?_
 .refine Q4 Z<|aQ<|qF (B:=X_) aw (λd f=>[(2,vI (p2)),(3,W),(5,v8),(15,vP ab),(18,vI (P.2.2)),(19,vP ao),(20,vP O),(21,an),(22,vI (d.1))]) (λd f=>[Ar cI an am,bG O [f.1,f.2.2.1,f.2.2.2.2.1] 43,aq,ah]) (λd f=>[ai,ag,ae,y,aj,E,w,H,af,F,A,v,Sl aK v3 p1.1,G,C,D,Sl cJ v7 p4,Sl cJ v8 p5,S2 aK f.1 f.2.1 d.2.1,S3 aK f.2.2.1 f.2.2.2.1 d.2.2.1,S4 aK f.2.2.2.2.1 f.2.2.2.2.2 d.2.2.2]) ((0:Int),au.1,au.2.1,au.2.2) (R.1,R.2.1,R.2.2.1,Y.1,Y.2.1,Y.2.2) h SF (aS.ix [0,1,2,3] Z Z) (jJ [0,1,2,3,4,5,6,7,8,9,10,11,12,13,14,15,16,17,0,1,2] Z) ?_;intro a2 d f h;let a8:=S2 aK f.1 f.2.1 d.2.1;let u:=f.2.2;let a9:=S3 aK u.1 u.2.1 d.2.2.1;let a4:=bG O [f.1,u.1,u.2.2.1] 43;let a3:=S4 aK u.2.2.1 u.2.2.2 d.2.2.2;refine aL<|Q6 Z<|aA Z<|cN Z<|aO<|gC h Z (λh=>?_) λh=>?_
  .refine cU<|aL<|aQ<|Q4 Z<|aL<|lN (B:=V0) (λT=>pO U r8 Q av ar d (bE aw a2) T=some r) (λT ac=>[(2,vI (p2)),(3,W),(5,v8),(15,vP ab),(18,vI (P.2.2)),(19,vP ao),(20,vP O),(21,an),(22,vI (d.1)),(23,ac)]) (λT ac=>[Ar cI an am,a4,aq,ah,Ar cI ac T]) (λT ac=>[ai,ag,ae,y,aj,E,w,H,af,F,A,v,Sl aK v3 p1.1,G,C,D,Sl cJ v7 p4,Sl cJ v8 p5,a8,a9,a3]) ?_ ?_
   .refine Q6 Z<|Q5 Z<|aQ<|cQ (iJ cI)<|qF (B:=V0) (pP U r8 P Q av ar am d (bE aw a2)) (λt V=>[(2,vI (p2)),(3,W),(5,v8),(15,vP ab),(18,vI (P.2.2)),(19,vP ao),(20,vP O),(21,an),(22,vI (d.1)),(23,V),(24,vI (t.2))]) (λt V=>[Ar cI an am,a4,aq,ah,Ar cI V t.1]) (λt V=>[ai,ag,ae,y,aj,E,w,H,af,F,A,v,Sl aK v3 p1.1,G,C,D,Sl cJ v7 p4,Sl cJ v8 p5,a8,a9,a3]) (([]:nX),d.1) (eB) h SF (aS.ix [1,2,3,4,0] Z Z) (aD.refl _ _) ?_;intro ch t V h;let s:=(at' am t.2)
    refine aL<|Q6 Z<|aA Z<|aB (eW Z (bI (aH.res 0 Z) eC) Z) Z<|cN Z<|aO<|gC h Z (λh=>?_) λh=>?_
    .exact cU<|aL<|aQ<|aP<|aA Z<|aA Z<|aA Z<|dQ h λbf h=>aB (bD Z Z (bI (aH.res 0 Z) eC) Z Z bf) Z<|aB (fG (cs:=[vI (s.1),vI (s.2.1),vI (s.2.2)]) Z (bI (aH.res 0 Z) eC) eC Z Z Z Z bf) Z<|aI (cC (e:=cI) ([(((s.1),(s.2.1),(s.2.2)))]) [(0,Value.agg #[vI (s.1),vI (s.2.1),vI (s.2.2)])] Z Z Z Z (Ju (vI (s.1)) (vI (s.2.1)) (vI (s.2.2))) Z Z Z) Z λcj=>dQ h λbH h=>aI (gU 5 eC Z Z Z (bI (aH.res 0 Z) eC) Z Z Z Z bH Z) Z λbM=>aC Z<|fC<|mF<|aP<|aA Z<|aA Z<|cH Z<|Q5 Z<|gA ((t.1++([((s.1),(s.2.1),(s.2.2))])),(wI .i64 (t.2+P.2.2))) (bM) h SF (aS.ix [1,2,3,4,5] Z Z) (aD.refl _ _)
    exact fH<|jV (t.1) (V) h SF Z
   intro T ac h;unfold pO at h;refine aL<|lN (B:=agF) (λp=>uH d (bE aw a2) p=some r) (λp a=>[(2,vI (p2)),(3,W),(5,v8),(15,vP ab),(18,vI (P.2.2)),(19,vP ao),(20,vP O),(21,an),(22,vI (d.1)),(25,vP a.1),(26,vI (p.1))]) (λp a=>[bG a.1 [a.2.1,a.2.2.2.1,a.2.2.2.2.2.1] 43,Ar cI an am,a4,aq,ah]) (λp a=>[ai,ag,ae,y,aj,E,w,H,af,F,A,v,Sl aK v3 p1.1,G,C,D,Sl cJ v7 p4,Sl cJ v8 p5,a8,a9,a3,S2 aK a.2.1 a.2.2.1 p.2.1,S3 aK a.2.2.2.1 a.2.2.2.2.1 p.2.2.1,S4 aK a.2.2.2.2.2.1 a.2.2.2.2.2.2 p.2.2.2]) ?_ ?_
   .have⟨r152,w153,h⟩:=bnd h;refine dQ h λa1 h=>fF h λak bX h=>Er [0,0,0,0,0,0,0,96,240,511,1023,2047,2047,0,12287,32767] 15 [[0,1,2,3,4,5,6,7,8,9,10,11,12,13,14,15],[0,1,2,3,4,5,6,7,8,13,9,10,11,12,14,15],[0,1,2,3,4,5,6,7,13,8,9,10,11,12,14,15],[0,1,2,3,4,5,6,13,7,8,9,10,11,12,14,15]] mixedOrders (by decide +kernel) (by decide +kernel) ?_;intro o ho;simp only[zAn,zAz,or_false]at ho;rcases ho with rfl|rfl|rfl|rfl
    all_goals
     iterate 15 first
      |refine aY (i:=0) Z (aS.cons 2 Z .nil) .nil (eH 0 Z Z Z Z) aJ.z ?_
      |refine aY (i:=1) Z (aS.cons 3 Z .nil) .nil (eH 0 Z Z Z Z) aJ.z ?_
      |refine aY (i:=2) Z .nil .nil (f_ Z) aJ.z ?_
      |refine aY (i:=3) Z (aS.cons 1 Z .nil) .nil (eH 0 Z Z Z Z) aJ.z ?_
      |refine aY (i:=4) Z .nil .nil (f_ Z) aJ.z ?_
      |refine aY (i:=5) Z (aS.cons 3 Z .nil) .nil (eH 0 Z Z Z Z) aJ.z ?_
      |refine aY (i:=6) Z .nil .nil (f_ Z) aJ.z ?_
      |refine zBl (i:=7) Z Z Z (zBj ahq (OW U g.1 g.2.1 L r152 w153) Z (jJ [5,4] Z)) Z (λb3=>(by first|exact oC.b Z (oP [([2],[]),([4],[]),([3],[])] Z)|exact oC.b Z (oP [([3],[]),([5],[]),([4],[])] Z))) λb3=>?_
      |first
        |refine zBl (i:=8) Z Z Z (gU 5 eC Z Z Z (bI (aH.res 0 Z) eC) Z Z Z Z a1 Z) Z (λaa=>(oP [([2],[]),([4],[]),([3],[])] Z)) λaa=>?_
        |refine zBl (i:=8) Z Z Z (gU 6 eC Z Z Z (bI (aH.res 1 Z) eC) Z Z Z Z a1 Z) Z (λaa=>(oP [([3],[]),([5],[]),([4],[])] Z)) λaa=>?_
        |refine zBl (i:=8) Z Z Z (gU 6 eC Z Z Z (bI (aH.res 0 Z) eC) Z Z Z Z a1 Z) Z (λaa=>(oP [([3],[]),([5],[]),([4],[])] Z)) λaa=>?_
      |first
        |refine zBm (lE 5 Z (bI (aH.res 0 Z) eC)) ?_
        |refine zBm (lE 6 Z (bI (aH.res 0 Z) eC)) ?_
       refine zBl (i:=9) Z Z Z (aN.call aaB (LS U M N g.1 g.2.1 L f.1 f.2.1 u.1 u.2.1 u.2.2.1 u.2.2.2 aa ak bX) Z (jW.cons (zA1 (i:=7) Z) (jW.cons (zA1 (i:=8) Z) (jW.cons (zA1 (i:=9) Z) (jW.cons (zA1 (i:=6) Z) (jW.cons (zA1 (i:=5) Z) (jW.cons (zA1 (i:=19) Z) (jW.cons (zA1 (i:=20) Z) (jW.cons (zA1 (i:=21) Z) (iH 0 Z))))))))) (λ_ _=>rfl) (λ_ _=>rfl)) Z (λn=>(oP [] Z)) λn=>?_
      |refine aY (i:=10) Z .nil .nil (f_ Z) (by first|exact aJ.b Z (KH Z)|exact aJ.b Z NK|exact aJ.b Z NK|exact aJ.b Z NK) ?_
      |refine aY (i:=11) Z .nil .nil (wH Z Z) (by first|exact aJ.b Z (KH Z)|exact aJ.b Z NK|exact aJ.b Z NK|exact aJ.b Z NK) ?_
      |refine aY (i:=12) Z .nil .nil (wH Z Z) (by first|exact aJ.b Z (KH Z)|exact aJ.b Z NK|exact aJ.b Z NK|exact aJ.b Z NK) ?_
      |refine zBl (i:=13) Z Z Z (aN.alloc (cs:=[eB,eB,eB]) Z Z) Z (λbe=>(by first|exact oC.h .nil .nil (oP [([5],[]),([3],[]),([5],[]),([4],[])] Z)|exact oC.h .nil .nil (oP [([5],[]),([3],[]),([5],[]),([4],[])] Z)|exact oC.h .nil .nil (oP [([4],[]),([2],[]),([4],[]),([3],[])] Z))) λbe=>?_
      |refine bQ (BH (cP Z)) λaz =>?_
       refine bQ (BH (n_ Z)) λaE=>bQ (BH (uI Z)) λaU=>?_
       first
        |refine Gl (i:=14) Z Z Z (Ed 0 (vs:=[n.1,n.2.2.1,n.2.2.2.2.1]) Z Z (iZ az (iZ aE (iZ aU Z))) Z Z Z) (λbd=>(oP [] Z)) λbd=>?_
        |refine Gl (i:=14) Z Z Z (Ed 1 (vs:=[n.1,n.2.2.1,n.2.2.2.2.1]) Z Z (iZ az (iZ aE (iZ aU Z))) Z Z Z) (λbd=>(oP [] Z)) λbd=>?_
     exact bS 15 Z Z<|Q5 Z<|cD (ak.2,ak.1.1,ak.1.2.1,ak.1.2.2) (be,n.1,n.2.1,n.2.2.1,n.2.2.2.1,n.2.2.2.2.1,n.2.2.2.2.2) h SF (by first|exact aS.ix [0,2,3,4,5] Z Z|exact aS.ix [1,2,3,4,5] Z Z) (jJ [4,5,6,7,8,9,10,11,12,13,14,15,16,17,18,19,20,21,22,23,24,0,1,2] Z)
   intro p a h;refine aL<|Q6 Z<|tT Z<|aO<|gC h Z (λh=>?_) λh=>?_
   .refine Q4 Z<|aV<|aM<|bU<|aM<|aM<|bU<|aM ?_;cases h;exact uC Z
   exact cU<|aP<|cL 0 Z<|bO (BH (aH.fact 21 Z)) λbl=>bO (BH (aH.fact 22 Z)) λbm=>bO (BH (aH.fact 23 Z)) λbn=>bP 2 (vs:=[a.2.1,a.2.2.2.1,a.2.2.2.2.2.1]) Z Z (iZ bl (iZ bm (iZ bn Z))) Z Z Z<|fC<|mF<|aP<|aA Z<|cH Z<|Q5 Z<|gA ((wI .i64 (d.1+(1:Int))),p.2.1,p.2.2.1,p.2.2.2) (a.2.1,a.2.2.1,a.2.2.2.1,a.2.2.2.2.1,a.2.2.2.2.2.1,a.2.2.2.2.2.2) h SF (aS.ix [1,2,3,4] Z Z) (jJ [0,1,2,3,4,5,6,7,8,9,10,11,12,13,14,15,16,17,21,22,23] Z)
  exact fH<|cD (d.2.1,d.2.2.1,d.2.2.2) (f.1,f.2.1,u.1,u.2.1,u.2.2.1,u.2.2.2) h SF (aS.ix [1,2,3] Z Z) (aD.refl _ _)
 intro I k h;let ba:=S2 aK k.1 k.2.1 I.1;let q:=k.2.2.2;let a7:=S3 aK k.2.2.1 q.1 I.2.1;let a6:=S4 aK q.2.1 q.2.2 I.2.2;refine aL<|aL<|lN (B:=Unit) (λax=>pN U p2 p5 r8 Q av ar I ax=some r) (λax bj=>[(2,vI (p2)),(3,W),(5,v8),(15,vP ab),(19,vP ao),(20,vP O),(117,vB (ax))]) (λax bj=>[bG O [k.1,k.2.2.1,q.2.1] 43,aq,ah]) (λax bj=>[ai,ag,ae,y,aj,E,w,H,af,F,A,v,Sl aK v3 p1.1,G,C,D,Sl cJ v7 p4,Sl cJ v8 p5,ba,a7,a6]) ?_ ?_
 .refine aP<|aA Z<|cL 2 Z<|bZ Z<|dO 0 Z<|fF h λbK bT h=>aI (zBj aaE (Iv U g.1 g.2.1 L k.1 k.2.1 bK bT) Z (jJ [5,4,18] Z)) Z λcl=>aB (nY Z) Z<|aA Z<|Ai (by exact rfl) (by exact rfl) (λap=>?_) (λap=>?_)
  .have h:=ME ap h;exact aW Z<|aW Z<|aW Z<|aW Z<|aW Z<|gT Z<|aO<|jV (true) () h SF Z
  have h:=Jy ap h;exact bB Z (eH 1 Z Z Z Z) Z<|bB Z (eH 2 Z Z Z Z) Z<|bB Z (eH 0 Z Z Z Z) Z<|fF h λbi bV h=>yM Z (zBj ahn (Mg U M N g.1 g.2.1 L k.1 k.2.1 k.2.2.1 q.1 q.2.1 q.2.2 bi bV) Z (jJ [6,7,8,5,4,18,19,20] Z)) Z λcm=>bB Z (nY Z) Z<|iV Z<|aO<|jV ((!bi)) () h SF Z
 intro ax bj h;refine Ag h Z (λ_ h=>?_) λ_ h=>?_
 .refine Q4 Z<|aV<|aM ?_;cases h;exact uC Z
 refine cU<|aL<|lN (B:=agF) (λJ=>uG U p2 r8 J=some r) (λJ m=>[(2,vI (p2)),(15,vP ab),(27,vP m.1),(28,vI (J.1))]) (λJ m=>[bG m.1 [m.2.1,m.2.2.2.1,m.2.2.2.2.2.1] 43,ah]) (λJ m=>[ai,ag,ae,y,aj,E,w,H,af,F,A,v,Sl aK v3 p1.1,G,C,D,Sl cJ v7 p4,Sl cJ v8 p5,ba,a7,a6,S2 aK m.2.1 m.2.2.1 J.2.1,S3 aK m.2.2.2.1 m.2.2.2.2.1 J.2.2.1,S4 aK m.2.2.2.2.2.1 m.2.2.2.2.2.2 J.2.2.2]) ?_ ?_
 .have⟨r77,w78,h⟩:=bnd h;refine fF h λbc cf h=>Er [0,0,0,0,0,0,48,127,255,511,511,0,3071,8191] 13 [[0,1,2,3,4,5,6,7,8,9,10,11,12,13],[0,1,2,3,4,5,6,11,7,8,9,10,12,13],[0,1,2,3,4,5,11,6,7,8,9,10,12,13]] mixedOrders (by decide +kernel) (by decide +kernel) ?_;intro o ho;simp only[zAn,zAz,or_false]at ho;rcases ho with rfl|rfl|rfl
  all_goals
   iterate 13 first
    |refine aY (i:=0) Z (aS.cons 1 Z .nil) .nil (eH 0 Z Z Z Z) aJ.z ?_
    |refine aY (i:=1) Z (aS.cons 2 Z .nil) .nil (eH 0 Z Z Z Z) aJ.z ?_
    |refine aY (i:=2) Z .nil .nil (f_ Z) aJ.z ?_
    |refine aY (i:=3) Z (aS.cons 0 Z .nil) .nil (eH 0 Z Z Z Z) aJ.z ?_
    |refine aY (i:=4) Z (aS.cons 2 Z .nil) .nil (eH 0 Z Z Z Z) aJ.z ?_
    |refine aY (i:=5) Z .nil .nil (f_ Z) aJ.z ?_
    |refine zBl (i:=6) Z Z Z (zBj aaC (GY U g.1 g.2.1 L v8 r77 w78) Z (jJ [5,4,17] Z)) Z (λb4=>(by first|exact oC.b Z (oP [([1],[]),([3],[]),([2],[])] Z)|exact oC.b Z (oP [([2],[]),([4],[]),([3],[])] Z))) λb4=>?_
    |first
      |refine zBm (lE 0 Z (bI (aH.res 0 Z) eC)) ?_
      |refine zBm (lE 1 Z (bI (aH.res 0 Z) eC)) ?_
     refine zBl (i:=7) Z Z Z (aN.call aaB (LS U M N g.1 g.2.1 L k.1 k.2.1 k.2.2.1 q.1 q.2.1 q.2.2 b4 bc cf) Z (jW.cons (zA1 (i:=7) Z) (jW.cons (zA1 (i:=8) Z) (jW.cons (zA1 (i:=9) Z) (jW.cons (zA1 (i:=6) Z) (jW.cons (zA1 (i:=5) Z) (jW.cons (zA1 (i:=19) Z) (jW.cons (zA1 (i:=20) Z) (jW.cons (zA1 (i:=21) Z) (iH 0 Z))))))))) (λ_ _=>rfl) (λ_ _=>rfl)) Z (λS=>(oP [] Z)) λS=>?_
    |refine aY (i:=8) Z .nil .nil (f_ Z) (by first|exact aJ.b Z (KH Z)|exact aJ.b Z NK|exact aJ.b Z NK) ?_
    |refine aY (i:=9) Z .nil .nil (wH Z Z) (by first|exact aJ.b Z (KH Z)|exact aJ.b Z NK|exact aJ.b Z NK) ?_
    |refine aY (i:=10) Z .nil .nil (wH Z Z) (by first|exact aJ.b Z (KH Z)|exact aJ.b Z NK|exact aJ.b Z NK) ?_
    |refine zBl (i:=11) Z Z Z (aN.alloc (cs:=[eB,eB,eB]) Z Z) Z (λbp=>(by first|exact oC.h .nil .nil (oP [([3],[]),([1],[]),([3],[]),([2],[])] Z)|exact oC.h .nil .nil (oP [([4],[]),([2],[]),([4],[]),([3],[])] Z)|exact oC.h .nil .nil (oP [([3],[]),([1],[]),([3],[]),([2],[])] Z))) λbp=>?_
    |refine bQ (BH (cP Z)) λbz=>?_
     refine bQ (BH (n_ Z)) λbA=>bQ (BH (uI Z)) λbC=>Gl (i:=12) Z Z Z (Ed 0 (vs:=[S.1,S.2.2.1,S.2.2.2.2.1]) Z Z (iZ bz (iZ bA (iZ bC Z))) Z Z Z) (λcg=>(oP [] Z)) λcg=>?_
   exact bS 13 Z Z<|Q5 Z<|cD (bc.2,bc.1.1,bc.1.2.1,bc.1.2.2) (bp,S.1,S.2.1,S.2.2.1,S.2.2.2.1,S.2.2.2.2.1,S.2.2.2.2.2) h SF (aS.ix [0,3] Z Z) (jJ [4,5,6,7,8,9,10,11,12,13,14,15,16,17,18,19,20,21,22,23,24,0,1,2] Z)
 intro J m h;refine aL<|lN (B:=Unit) (λay=>lT ay=some r) (λay bk=>[(12,vB (ay))]) (λay bk=>[]) (λay bk=>[ai,ag,ae,y,aj,E,w,H,af,F,A,v,Sl aK v3 p1.1,G,C,D,Sl cJ v7 p4,Sl cJ v8 p5,ba,a7,a6,S2 aK m.2.1 m.2.2.1 J.2.1,S3 aK m.2.2.2.1 m.2.2.2.2.1 J.2.2.1,S4 aK m.2.2.2.2.2.1 m.2.2.2.2.2.2 J.2.2.2]) ?_ ?_
 .refine aP<|fF h λb7 cd h=>aI (zBj aay (OS U b7 cd) Z .nil) Z λcp=>aA Z<|Ai (by exact rfl) (by exact rfl) (λa0=>?_) (λa0=>?_)
  .have h:=ME a0 h;refine gW Z<|bB Z (WE Z Z) Z<|gT Z<|aA Z<|IX h Z (λ_ h=>?_) λ_ h=>?_
   .exact gW Z<|bB Z (eH 1 Z Z Z Z) Z<|bB Z (dN Z Z Z Z Z) Z<|bB Z (eI 0 Z Z Z Z Z) Z<|fF h λbL ce h=>yM Z (zBj aaE (Iv U g.1 g.2.1 L m.2.1 m.2.2.1 bL ce) Z (jJ [5,4,21] Z)) Z λcq=>gT Z<|Q5 Z<|cD (bL) () h SF .nil (aD.refl _ _)
   exact aW Z<|aW Z<|aW Z<|aW Z<|aW Z<|iV Z<|Q5 Z<|cD (false) () h SF .nil (aD.refl _ _)
  have h:=Jy a0 h;exact aW Z<|aW Z<|iV Z<|aA Z<|aW Z<|aW Z<|aW Z<|aW Z<|aW Z<|iV Z<|Q5 Z<|cD (false) () h SF .nil (aD.refl _ _)
 intro ay bk h;unfold lT at h;refine aV ?_;cases h;exact oA Z
end Go.Proofs.YtflciafboapaaaaGreat