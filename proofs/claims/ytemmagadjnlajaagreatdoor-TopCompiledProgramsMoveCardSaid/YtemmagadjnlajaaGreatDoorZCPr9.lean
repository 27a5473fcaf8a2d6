/- Models and proofs. Conditions: none. -/
import Derived.Test.YtemmagadjnlajaaGreatDoorZCPr8
set_option linter.unusedVariables false
set_option linter.unusedSimpArgs false
set_option maxHeartbeats 4000000
set_option maxRecDepth 20000
open Go.Proofs.Tryz
variable (U:Nat)
namespace Go.Proofs.YtemmagadjnlajaaGreatDoor
open Go.Sx
def ED (b:eY) (d:dB) (e:fE) (a:pT×Int×fE):V1 (Int):=
 Option.bind (mG U ((((b.1,b.2.1,b.2.2)),((((b.1,b.2.1,b.2.2)),((d.1,d.2)),a.2.1,a.2.2)),a.1)) e) λc=>(some (c))
def Be (b:eY) (c:dB) (e:fE) (a:Bz):V1 (Int):=
 Option.bind (kX U ((b.1,b.2.1,b.2.2)) ((c.1,c.2))) λd=>(ED U b c e (d,a.1,a.2))
def vR (b:eY) (c:dB) (d:fE) (a:Bz):V1 (Int):=
 Be U b c d (a.1,a.2)
def EE (d:dB) (a:Hw) (b:Iu->V1 (Int)) (c:fE):V1 (Int):=
 b ((wI .i64 (a.1+(1:Int))),(max a.2.1 (at' d.1 a.1)),c)
def EF (d:dB) (a:Hw) (e:Iu->V1 (Int)) (b:Bz) (f:(Int×fE)->V1 (Int)):V1 (Int):=
 if b.1<((at' d.2 a.1).length:Int)then(ck (0<=b.1/\b.1<((at' d.2 a.1).length:Int)) (ck (0<=a.1/\a.1<(b.2.length:Int)) (Option.bind (mV U ((d.1,d.2)) ((at' (at' d.2 a.1) b.1).1) a.1) λc=>(ck (((at' b.2 a.1).length:Int)+(List.length ([c]):Int)<=1099511627) (ck (0<=a.1/\a.1<((List.set b.2 (Int.toNat a.1) ((at' b.2 a.1)++[c])).length:Int)) (f ((wI .i64 (b.1+(1:Int))),(List.set b.2 (Int.toNat a.1) ((at' b.2 a.1)++[c])))))))))else(EE d a e (b.2))
def vT (d:eY) (c:dB) (e:fE) (a:Hw) (b:Iu->V1 (Int)):V1 (Int):=
 if a.1<(c.2.length:Int)then(ck (0<=a.1/\a.1<(c.2.length:Int)) (ck (0<=a.1/\a.1<(c.1.length:Int)) (bG (EF U c a b) U ((0:Int),a.2.2))))else(vR U d c e (a.2.1,a.2.2))
def xW (b:eY) (a:dB) (c:fE):V1 (Int):=
 Option.bind (q_ U ((b.1,b.2.1,b.2.2)) ((a.1,a.2)) c) λd=>(if(!d)=true then(some (0:Int))else(ck (0<=(a.2.length:Int)/\(a.2.length:Int)<=1099511627) (bG (vT U b a c) U ((0:Int),(0:Int),(List.replicate (Int.toNat (a.2.length:Int)) ([]:bN))))))
theorem agc:aX prog 11:=call11
theorem Pg (U:Nat) {f:eY} {u:dB} {Q:fE} (n o q m:V0) (R:oB) (X:V0) (z6:nQ) (r:Int) (h:xW U f u Q=some r):
  aZ prog 11 #[Value.agg #[vS (f.1),n,o],Value.agg #[q,m],X] [Sl aN n f.2.1,Sl aJ o f.2.2,Sl cQ q u.1,S2 aS m R u.2,S2 cQ X z6 Q] (λx:Unit=>vU (r)) (λx l=>l) (λ_ l=>l):=by
 let T:=(vT U f u Q)
 let P:=(u.2.length:Int)
 let V:=(Int.toNat P)
 refine aZ.of func11 Z ntmps11 Z λc=>?_;refine aT<|aK (aO.box (cs:=[vS (f.1),n,o]) Z Z) Z λb1=>aK (aO.box (cs:=[q,m]) Z Z) Z λb2=>aB Z<|aM<|aI<|aT<|fQ 1 Z<|fQ 0 Z<|aA Z<|dG h λr3 w4 h=>aK (zB8 ZZ (Jd U n o q m R X z6 r3 w4) Z (gK [0,1,2,3,4] Z)) Z λx5=>aC (fF Z) Z<|aM ?_;refine iA h Z (λ_ h=>?_) λ_ h=>?_
 .refine aT<|aB Z<|aM<|aP<|aG ?_;cases h;exact mK Z
 refine bK<|aT<|fQ 1 Z<|fQ 0 Z<|IC (A:=pT×Int×fE) (B:=abQ) (vs:=[Value.agg #[vS (f.1),n,o],Value.agg #[q,m]]) (λs=>ED U f u Q s=some r) (λs b=>vP b.1) (λs b=>[bU b.1 [vS (f.1),n,o,vP b.2.1,b.2.2.1] 148,Ar eD b.2.2.1 b.2.2.2.1,sR cS b.2.2.2.1 s.1,bU b.2.1 [vS (f.1),n,o,q,m,vI (s.2.1),b.2.2.2.2.1] 142,Ar eD b.2.2.2.2.1 b.2.2.2.2.2,sR cK b.2.2.2.2.2 s.2.2]) (λs b=>[Sl aN n f.2.1,Sl aJ o f.2.2,Sl cQ q u.1,S2 aS m R u.2,S2 cQ X z6 Q]) (BB.fn (show aX prog 30 from call30) Z) func30 Z ntmps30 Z Z ?_ ?_
 .refine aT<|aK (aO.box (cs:=[vS (f.1),n,o]) Z Z) Z λam=>let I:=bU am [vS (f.1),n,o] 25;aK (aO.box (cs:=[q,m]) Z Z) Z λan=>let J:=bU an [q,m] 29;aB Z<|aM<|aI ?_
  refine xP [0,0,0,6,0,0,62,127,255,511] 7 mixedOrders ?_;refine qY 1 Z<|qY 1 Z<|qY 0 Z<|Nr (A:=Bz) (B:=Nat×V0×List V0) (vs:=[Value.agg #[vS (f.1),n,o],Value.agg #[q,m]]) (λt=>Be U f u Q t=some r) (λt d=>vP d.1) (λt d=>[bU d.1 [vS (f.1),n,o,q,m,vI (t.1),d.2.1] 142,Ar eD d.2.1 d.2.2,sR cK d.2.2 t.2,J,I]) (λt d=>[Sl aN n f.2.1,Sl aJ o f.2.2,Sl cQ q u.1,S2 aS m R u.2,S2 cQ X z6 Q]) Z Z Z (BB.fn (show aX prog 26 from call26) Z) func26 Z ntmps26 Z Z (λ_ _=>(y_ [([4],[])] Z)) ?_ ?_
  .refine aT<|aK (aO.box (cs:=[vS (f.1),n,o]) Z Z) Z λaz=>aK (aO.box (cs:=[q,m]) Z Z) Z λM=>let S:=bU M [q,m] 29;aB Z<|aM<|aI ?_
   refine xP [0,0,0,4,12,28,63,127,255] 6 mixedOrders ?_;refine qY 1 Z<|qY 0 Z<|dA Z<|iH 0 Z<|bI Z .nil (jP 3 Z) (mB Z (cG Z) Z) aR.z<|eX h λap h=>JR.stp (Ei cK V)<|zBa Z Z Z (oC (e:=eD) (zU) Z Z Z Z ap Z Z Z) Z (λp=>(y_ [([2],[]),([3],[])] Z)) λp=>bS 6 Z Z<|eH (jKs (aQ.rows (i:=0) (j:=1) Z Z fH)) λad=>?_;refine aC (BF (r:=Value.agg #[vS (f.1),n,o,q,m,vI (0:Int),p]) Z Z Z (by intro w;simp[Instr.build,Instr.fill,cL,b_,bW,cM,cN,cA,dD,eW ad])) Z ?_;refine aK (aO.box (cs:=[vS (f.1),n,o,q,m,vI (0:Int),p]) Z Z) Z λy=>aB Z<|aM<|aI<|JK (B:=oA) (λv=>vR U f u Q v=some r) (λv G=>[(5,vP y)]) (λv G=>[bU y [vS (f.1),n,o,q,m,vI (v.1),p] 142,Ar eD p G,sR cK G v.2,J,I]) ?_ ?_
   .refine aT<|bD Z<|bY 3 Z<|aC (mB Z (EQ Z) Z) Z<|aA Z<|aM<|aU<|eP (B:=oA) T (λa E=>[(3,vP M),(5,vP y),(19,m),(20,vI P),(21,vI (a.1))]) (λa E=>[bU y [vS (f.1),n,o,q,m,vI (a.2.1),p] 142,Ar eD p E,sR cK E a.2.2,S,J,I]) ((0:Int),(0:Int),(List.replicate V ([]:bN))) (List.replicate V (zU)) h SF (aW.ix [0,1,2,3,5,6] Z Z) ?_;intro ah a E h;let W:=(at' u.2 a.1)
    let aj:=(max a.2.1 (at' u.1 a.1))
    let ai:=bU y [vS (f.1),n,o,q,m,vI aj,p] 142;refine aT<|cX Z<|aM<|aI ?_;refine eF h Z (λh=>?_) λh=>?_
    .refine bK<|aI<|JK (B:=oA) (λD=>EE u a (bG T ah) D=some r) (λD H=>[(3,vP M),(5,vP y),(19,m),(20,vI P),(21,vI (a.1))]) (λD H=>[ai,Ar eD p H,sR cK H D,S,J,I]) ?_ ?_
     .refine aU<|aT<|aA Z<|eX h λC h=>aC (fJ Z Z (EQ Z) Z Z C) Z<|aC (eI Z (EQ Z) Z Z C) Z<|aB Z<|aB Z<|aM<|aI ?_;refine xP [0,0,2,6,14,0,32,0,224,480,1022,2047,4095,8191] 11 mixedOrders ?_;refine bE Z<|bE Z<|iD Z (aV Z)<|dA Z<|iH 0 Z<|dA Z<|iH 3 Z<|bE Z<|eX h λaf h=>bI Z .nil (jP 2 Z) (a_ Z Z (cG Z) Z Z af) aR.z<|bI Z .nil (jP 2 Z) (eC Z (cG Z) Z Z Z gC af) aR.z<|iD Z (Gm Z Z)<|bS 11 Z Z<|aC (aV Z) Z<|bD Z<|i_ 0 Z Z Z Z Z Z<|aM<|aT<|aA Z<|aC (dO Z (zB9 (EQ Z) C.1 C.2) Z) Z<|aA Z<|aM<|aU<|eP (B:=oA) (EF U u a (bG T ah)) (λg F=>[(3,vP M),(5,vP y),(6,vI (a.1)),(19,m),(20,vI P),(21,vI (a.1)),(39,(at' R a.1).1),(40,vI (W.length:Int)),(41,vI (g.1))]) (λg F=>[ai,Ar eD p F,sR cK F g.2,S,J,I]) ((0:Int),a.2.2) (E) h SF (aW.refl _) ?_;intro aF g F h;refine aT<|cX Z<|aM<|aI ?_;refine eF h Z (λh=>?_) λh=>?_
      .refine bK<|aI<|aU<|aT<|eX h λag h=>aC (a_ Z Z (zB9 (EQ Z) C.1 C.2) Z Z ag) Z<|aC (eO (cs:=[vI ((at' W g.1).1),vI ((at' W g.1).2)]) Z (zB9 (EQ Z) C.1 C.2) dL Z Z Z Z ag) Z<|aK (aO.alloc (cs:=SG) Z Z) Z λaD=>cO 0 (vs:=[vI ((at' (at' u.2 a.1) g.1).1),vI ((at' (at' u.2 a.1) g.1).2)]) Z Z Z Z Z Z<|aM ?_;refine xP [0,1,3,7,0,0,32,96,224,0,992,2016,0,0,8192,0,61440,126976,262112,524287,1048575] 19 mixedOrders ?_;refine bE Z<|iD Z (aV Z)<|dA Z<|iH 1 Z<|bE Z<|bE Z<|iD Z (aV Z)<|dA Z<|iH 1 Z<|bE Z<|eX h λN h=>kO (nT 3 Z) λY=>?_;refine bI Z (aW.cons 2 Z .nil) .nil (Ah 0 Z Z Z Z Z N.1 (by have q1:=N.2;have q2:=Y;(try simp only[zAb]at q1);(try simp only[zAb]at q2⊢);omega)) aR.z ?_;refine kO (nT 3 Z) λaa=>bI Z (aW.cons 2 Z .nil) .nil (Fi 0 Z Z aa Z Z N) aR.z<|qY 4 Z<|dA Z<|iH 0 Z<|bE Z<|dG h λK ax h=>zBa Z Z Z (zB8 Ry (CE U q m R K ax) Z (gK [2,3] Z)) Z (λay=>(y_ [([2],[]),([2],[]),([1],[]),([1],[])] Z)) λay=>zBa Z Z Z (fX (e:=cK) ([K]) [(0,vI (K))] Z Z Z Z (vG (vI (K)) Z) Z Z Z) Z (λau=>(y_ [([3],[]),([3],[]),([2],[]),([2],[])] Z)) λau=>eX h λaq h=>zBa Z Z Z (vD 4 fH Z Z Z (bL (aQ.res 0 Z) fH) Z Z Z Z N aq Z) Z (λal=>(y_ [([2],[])] Z)) λal=>bS 19 Z Z<|eX h λO h=>eH (nT 4 Z) λab=>?_;refine aC (Ah 3 Z Z Z Z Z O.1 (by have q1:=O.2;have q2:=ab;(try simp only[zAb]at q1);(try simp only[zAb]at q2⊢);omega)) Z ?_;refine eH (Gk 4 (k:=a.1) Z O) λae=>?_;refine Fl 3 4 O Z Z Z Z Z (by simp) ae Z ?_;refine dK<|jZ<|aL<|cP Z<|aA Z<|aM ?_;exact fI ((wI .i64 (g.1+(1:Int))),(List.set g.2 (Int.toNat a.1) ((at' g.2 a.1)++[K]))) (List.set F (Int.toNat a.1) al) h SF (aW.ix [2,3,4,5,6,7] Z Z) (aE.refl _ _)
      refine uS<|gY<|gY<|BC<|jZ ?_;exact cF (g.2) (F) h SF Z
     intro D H h;unfold EE at h;refine aL<|cP Z<|aA Z<|aM ?_;exact Ac ((wI .i64 (a.1+(1:Int))),aj,D) (H) h SF Z
    refine fK ?_;exact bQ (a.2.1,a.2.2) (E) h SF (aW.ix [0,1,2,4,5] Z Z) (aE.refl _ _)
   intro v G h;unfold vR at h;refine aT<|aA Z<|aB Z<|aM<|aP ?_;exact uT (v.1,v.2) (y,p,G) h (.inl Z) (Kk.r1 Z (RV.tmp Z)) Z (aW.refl _) (aE.refl _ _)
  intro t d h;unfold Be at h;refine bI Z (aW.cons 4 Z .nil) .nil (iC 0 Z Z Z Z) (aR.h (aW.ix [1] Z Z) .nil aR.z)<|bI Z (aW.cons 3 Z .nil) .nil (iC 0 Z Z Z Z) (aR.h (aW.ix [0] Z Z) .nil aR.z)<|dG h λak aw h=>zBa Z Z Z (zB8 Rx (CB U n o q m R ak aw) Z (gK [0,1,2,3] Z)) Z (λL=>(y_ [([6],[])] Z)) λL=>bS 7 Z Z<|eH (jKs (aQ.rows (i:=0) (j:=1) Z Z dL)) λac=>?_;refine aC (BF (r:=Value.agg #[vS (f.1),n,o,Value.pointer (some ⟨d.1,0,none⟩),L.1]) Z Z Z (by intro w;simp[Instr.build,Instr.fill,cL,b_,bW,cM,cN,cA,dD,eW ac])) Z ?_;refine aK (aO.box (cs:=[vS (f.1),n,o,vP d.1,L.1]) Z Z) Z λao=>aB Z<|aM<|aP ?_;exact uT (ak,t.1,t.2) (ao,d.1,L.1,L.2,d.2.1,d.2.2) h (.inl Z) (Kk.r1 Z (RV.tmp Z)) Z (aW.ix [0,1,2,3,4,5] Z Z) (aE.refl _ _)
 intro s b h;refine aA Z<|dG h λar av h=>aK (zB8 agk (Ht U b.1 n o b.2.1 n o q m R b.2.2.2.2.1 (List.zip b.2.2.2.2.2 s.2.2) b.2.2.1 (List.zip b.2.2.2.1 s.1) X z6 ar av) Z (aE.cons (aQ.res 0 Z) (aE.cons (cG Z) (aE.cons (iZ Z) (aE.cons (aQ.res 3 Z) (aE.cons (cG Z) (aE.cons (iZ Z) (aE.cons (FA Z) (aE.cons (EQ Z) (aE.cons (aQ.rows (i:=4) (j:=5) Z Z fH) (aE.cons (aQ.rows (i:=1) (j:=2) Z Z dL) (gK [4] Z)))))))))))) Z λaH=>aB Z<|aM<|aP ?_;cases h;exact mK Z
def AH (d:Int) (a:dJ) (b:Int) (c:V4):V1 (Int):=
 if c=true then(some (b))else(if d=(3:Int)then(some (-1:Int))else(if b<a.1 then(some (a.1))else(some (a.2))))
def xR (U:Nat) (c:Int) (a:dJ) (b:Int):V1 (Int):=
 if a.1<=b then(AH c a b (decide (b<=a.2)))else(AH c a b (false))
theorem aaa:aX prog 36:=call36
theorem Ja {e:Int} {a:dJ} {d:Int} (r:Int) (h:xR U e a d=some r):
  aZ prog 36 #[vI (e),Value.agg #[vI (a.1),vI (a.2)],vI (d)] [] (λx:Unit=>vI (r)) (λx l=>l) (λ_ l=>l):=by
 refine aZ.of func36 Z ntmps36 Z λc=>aT<|aK (aO.box (cs:=[vI (a.1),vI (a.2)]) Z Z) Z λf=>Q4 Z<|aI<|aU<|aI<|cC (λb=>AH e a d b=some r) (λb g=>[(0,vI (e)),(2,vI (d)),(4,vP f),(7,vB (b))]) (λb g=>[bU f [vI (a.1),vI (a.2)] 100]) ?_ ?_
 .refine aL<|aA Z<|aC (jA (i:=0) Z Z Z Z Z Q2) Z ?_;refine bY 0 Z<|aC (lD Z Z) Z<|aA Z<|mL h Z (λ_ h=>?_) λ_ h=>?_
  .refine bH Z<|aF Z (jA (i:=1) Z Z Z Z Z Q2) Z ?_;exact aF Z (bX 0 Z Z Z Z Z) Z<|aF Z (nH Z Z) Z<|bO Z<|Q4 Z<|cF (decide (d<=a.2)) () h SF Z
  exact aD Z<|aD Z<|aD Z<|aD Z<|bT Z<|Q4 Z<|cF (false) () h SF Z
 intro b g h;refine iA h Z (λ_ h=>?_) λ_ h=>?_
 .refine Q5 Z<|Q4 Z<|aP<|bB<|aG ?_;cases h;exact mK Z
 refine Q5 Z<|bP Z<|Q4 Z<|eF h Z (λh=>?_) λh=>?_
 .refine Q3 Z<|aP<|bB<|aG ?_;cases h;exact mK Z
 refine Q5 Z<|aC (jA (i:=0) Z Z Z Z Z Q2) Z ?_;refine bY 0 Z<|cX Z<|Q4 Z<|eF h Z (λh=>?_) λh=>?_
 .refine aT<|aC (jA (i:=0) Z Z Z Z Z Q2) Z ?_;refine bY 0 Z<|Q4 Z<|aP<|bB<|aG ?_;cases h;exact mK Z
 refine cZ<|jZ<|aT<|aC (jA (i:=1) Z Z Z Z Z Q2) Z ?_;refine bY 0 Z<|Q4 Z<|aP ?_;cases h;exact mK Z
def rP (a:bN):V1 bN:=
 some (a)
def nX (b:Qf) (h:fE) (d c:Int) (a:Int×bN) (e:(Int×bN)->V1 bN):V1 bN:=
 if a.1<(((at' b.1.2.2 c).2.2).length:Int)then(ck (0<=a.1/\a.1<(((at' b.1.2.2 c).2.2).length:Int)) (Option.bind (kC U ((((b.2.1.1.1,b.2.1.1.2.1,b.2.1.1.2.2)),((b.2.1.2.1.1,b.2.1.2.1.2)),b.2.1.2.2.1,b.2.1.2.2.2)) h d ((at' ((at' b.1.2.2 c).2.2) a.1).2)) λf=>(ck (0<=((at' ((at' b.1.2.2 c).2.2) a.1).1)/\((at' ((at' b.1.2.2 c).2.2) a.1).1)<(b.1.2.1.length:Int)) (ck (0<=d/\d<(b.2.2.length:Int)) (ck (0<=((at' ((at' b.1.2.2 c).2.2) a.1).1)/\((at' ((at' b.1.2.2 c).2.2) a.1).1)<((at' b.2.2 d).length:Int)) (Option.bind (xR U ((at' b.1.2.1 ((at' ((at' b.1.2.2 c).2.2) a.1).1)).2.1) ((((at' (at' b.2.2 d) ((at' ((at' b.1.2.2 c).2.2) a.1).1)).1),((at' (at' b.2.2 d) ((at' ((at' b.1.2.2 c).2.2) a.1).1)).2))) f) λg=>(ck (0<=((at' ((at' b.1.2.2 c).2.2) a.1).1)/\((at' ((at' b.1.2.2 c).2.2) a.1).1)<(a.2.length:Int)) (e ((wI .i64 (a.1+(1:Int))),(List.set a.2 (Int.toNat ((at' ((at' b.1.2.2 c).2.2) a.1).1)) g))))))))))else(rP (a.2))
def oZ (d:Qf) (b:fE) (a c:Int):V1 bN:=
 ck (0<=a/\a<(b.length:Int)) (ck ((List.length ([]:bN):Int)+((at' b a).length:Int)<=1099511627) (ck (0<=c/\c<(d.1.2.2.length:Int)) (bG (nX U d b a c) U ((0:Int),(([]:bN)++(at' b a))))))
theorem agl:aX prog 33:=call33
theorem IX (U:Nat) {a:Qf} {I:fE} {A p:Int} (j:Nat) (V C:V0) (e:Nat) (M N O P:V0) (z8:oB) (Q:V0) (w:nQ) (o:V0) (R:oB) (i:V0) (y:nQ) (r:bN) (h:oZ U a I A p=some r):
  aZ prog 33 #[vP j,i,vI (A),vI (p)] [bU j [vS (a.1.1),V,C,vP e,o] 148,Sl aN V a.1.2.1,Sl aJ C a.1.2.2,bU e [vS (a.2.1.1.1),M,N,O,P,vI (a.2.1.2.2.1),Q] 142,Sl aN M a.2.1.1.2.1,Sl aJ N a.2.1.1.2.2,Sl cQ O a.2.1.2.1.1,S2 aS P z8 a.2.1.2.1.2,S2 cQ Q w a.2.1.2.2.2,S2 aS o R a.2.2,S2 cQ i y I] (λx:V0=>x) (λx l=>Ar cK x r::l) (λ_ l=>l):=by
 let n:=(at' a.1.2.2 p)
 refine aZ.of func33 Z ntmps33 Z λc=>?_;refine aT<|aB Z<|aM<|aT<|aA Z<|aA Z<|eX h λS h=>aC (fJ Z Z (aQ.fact 10 Z) Z Z S) Z<|aC (eI Z (aQ.fact 10 Z) Z Z S) Z<|jY (qL cK)<|eX h λj3 h=>aK (sF 0 fH Z Z Z (zB9 (aQ.fact 10 Z) S.1 S.2) Z Z Z Z j3 Z) Z λL=>aB Z<|aM<|aI<|cC (λD=>rP D=some r) (λD b6=>[(9,L)]) (λD b6=>[Ar cK L D]) ?_ ?_
 .refine aT<|aA Z<|aC (aV Z) Z<|bD Z<|bD Z<|aC (eN Z (cG Z) Z Z Z) Z<|aA Z<|eX h λT h=>aC (a_ Z Z (FA Z) Z Z T) Z<|aC (cB Z Z Z Z Z) Z<|xE (v:=C) (ds:=a.1.2.2) dN (FA Z) λg=>let J:=Sl dZ ((at' g p).2) (n.2.2);?_
  refine jY (iQ ((yZ (fR (f:=bJ) (iZ Z) T.1 T.2)):aQ _ _ (J))) ?_;refine aC (sZ (gv:=λx=>x.2) Z (iZ Z) Z Z Z kD T) Z<|eL (cG Z) Z<|aA Z<|aM<|aU<|Dp (B:=Unit) (nX U a I A p) (λb s=>[(0,Value.pointer (some ⟨j,0,none⟩)),(1,i),(2,vI (A)),(9,L),(26,(at' g p).2),(27,vI ((n.2.2).length:Int)),(28,vI (b.1))]) (λb s=>[Ar cK L b.2]) (λb s=>[J,Rz eQ C g a.1.2.2,Pw bJ g a.1.2.2,bU j [vS (a.1.1),V,C,Value.pointer (some ⟨e,0,none⟩),o] 148,Sl aN V a.1.2.1,Sl aJ C a.1.2.2,bU e [vS (a.2.1.1.1),M,N,O,P,vI (a.2.1.2.2.1),Q] 142,Sl aN M a.2.1.1.2.1,Sl aJ N a.2.1.1.2.2,Sl cQ O a.2.1.2.1.1,S2 aS P z8 a.2.1.2.1.2,S2 cQ Q w a.2.1.2.2.2,S2 aS o R a.2.2,S2 cQ i y I]) ((0:Int),(([]:bN)++(at' I A))) () h SF (aW.refl _) (aE.refl _ _) ?_;intro ac b s h;let m:=(at' (n.2.2) b.1)
  let K:=(at' (at' a.2.2 A) (m.1))
  refine aT<|cX Z<|aM<|aI ?_;refine eF h Z (λh=>?_) λh=>?_
  .refine bK<|aI<|aU<|aT<|eX h λk h=>aC (a_ Z Z (cG Z) Z Z k) Z<|xE (v:=((at' g p).2)) (ds:=(n.2.2)) nF (cG Z) λq=>let t:=at' q b.1;?_
   refine jY (iQ ((fR (f:=lT) (iZ Z) k.1 k.2):aQ _ _ (Sl aS (t) (m.2)))) ?_;refine aC (sS (cs:=[vI (m.1),t]) Z (iZ Z) Z Z Z Z k) Z<|aK (aO.alloc (cs:=[vI (0:Int),zU]) Z Z) Z λab=>eH (Know.one ((cG Z))) λE=>cO 0 (vs:=[vI ((at' ((at' a.1.2.2 p).2.2) b.1).1),at' q b.1]) Z Z (cI Z (cI E Z)) Z Z Z<|aM<|aI ?_;refine xP [0,1,3,7,0,0,0,64,255,511] 8 mixedOrders ?_;refine bE Z<|iD Z (aV Z)<|dA Z<|bI Z .nil (jP 6 Z) (eN Z (cG Z) Z Z Z) aR.z<|bE Z<|bE Z<|dA Z<|iH 0 Z<|bS 8 Z Z<|dG h λW X h=>aK (zB8 aab (CU U e M N O P z8 Q w i y (t) W X) Z (gK [9,10,11,12,13,14,16,0] Z)) Z λad=>aB Z<|aM ?_;refine xP [0,0,2,0,8,24,56,120,0,256,1016,2040,4088,0,8192,24576,57344,0,253952,516096,0,1048576,4186112,8380416,0,33554424,67108863,134217727] 26 mixedOrders ?_;refine bE Z<|dA Z<|iH 0 Z<|bE Z<|iD Z (aV Z)<|dA Z<|dA Z<|bI Z .nil (jP 6 Z) (eN Z (cG Z) Z Z Z) aR.z<|dA Z<|iH 0 Z<|eX h λF h=>bI Z .nil (jP 7 Z) (a_ Z Z (cG Z) Z Z F) aR.z<|iD Z (cB Z Z Z Z Z)<|bI Z .nil (jP 7 Z) (fW Z (cG Z) Z Z Z nU F) aR.z<|bE Z<|iD Z (aV Z)<|dA Z<|bI Z .nil (jP 6 Z) (eN Z (cG Z) Z Z Z) aR.z<|bE Z<|eX h λd h=>bI Z .nil (jP 15 Z) (fJ Z Z (cG Z) Z Z d) aR.z<|bI Z .nil (jP 15 Z) (eI Z (cG Z) Z Z d) aR.z<|dA Z<|iH 0 Z<|eX h λG h=>bI Z .nil (jP 15 Z) (a_ Z Z (zB9 (cG Z) d.1 d.2) Z Z G) aR.z<|bI Z .nil (jP 15 Z) (eO (cs:=[vI (K.1),vI (K.2)]) Z (zB9 (cG Z) d.1 d.2) dL Z Z Z Z G) aR.z<|bE Z<|dG h λu Y h=>zBa Z Z Z (zB8 aaa (Ja U u Y) Z .nil) Z (λaa=>(y_ [([0],[])] Z)) λaa=>bS 26 Z Z<|eX h λH h=>aC (a_ Z Z (bL (aQ.res 1 Z) fH) Z Z H) Z<|Hc 1 u H Z Z Z Z Z Z Z<|dK<|jZ<|aL<|cP Z<|aA Z<|aM ?_;exact fI ((wI .i64 (b.1+(1:Int))),(List.set b.2 (Int.toNat (m.1)) u)) () h SF (aW.ix [1] Z Z) (gK [3,4,5,6,7,8,9,10,11,12,13,14,15,16] Z)
  refine fK ?_;exact bQ (b.2) () h SF (aW.refl _) (gK [3,4,5,6,7,8,9,10,11,12,13] Z)
 intro D b6 h;unfold rP at h;refine aT<|aA Z<|aB Z<|aM<|aP ?_;cases h;exact mS (L) Z Z (RV.tmp Z) (aW.refl _) aE.nil
def H_ (b:eY) (d:dB) (f:fE) (g:Int) (a:pT×Int×fE):V1 EK:=
 Option.bind (f_ U ((((b.1,b.2.1,b.2.2)),((((b.1,b.2.1,b.2.2)),((d.1,d.2)),a.2.1,a.2.2)),a.1)) f g) λc=>(if c<(0:Int)then(some (([]:bN),(11:Int)))else(Option.bind (oZ U ((((b.1,b.2.1,b.2.2)),((((b.1,b.2.1,b.2.2)),((d.1,d.2)),a.2.1,a.2.2)),a.1)) f g c) λe=>(some (e,(0:Int)))))
def E_ (b:eY) (c:dB) (e:fE) (f:Int) (a:Bz):V1 EK:=
 Option.bind (kX U ((b.1,b.2.1,b.2.2)) ((c.1,c.2))) λd=>(H_ U b c e f (d,a.1,a.2))
def Ct (b:eY) (c:dB) (d:fE) (e:Int) (a:Bz):V1 EK:=
 E_ U b c d e (a.1,a.2)
def Ia (d:dB) (a:Hw) (b:Iu->V1 EK) (c:fE):V1 EK:=
 b ((wI .i64 (a.1+(1:Int))),(max a.2.1 (at' d.1 a.1)),c)
def Ib (d:dB) (a:Hw) (e:Iu->V1 EK) (b:Bz) (f:(Int×fE)->V1 EK):V1 EK:=
 if b.1<((at' d.2 a.1).length:Int)then(ck (0<=b.1/\b.1<((at' d.2 a.1).length:Int)) (ck (0<=a.1/\a.1<(b.2.length:Int)) (Option.bind (mV U ((d.1,d.2)) ((at' (at' d.2 a.1) b.1).1) a.1) λc=>(ck (((at' b.2 a.1).length:Int)+(List.length ([c]):Int)<=1099511627) (ck (0<=a.1/\a.1<((List.set b.2 (Int.toNat a.1) ((at' b.2 a.1)++[c])).length:Int)) (f ((wI .i64 (b.1+(1:Int))),(List.set b.2 (Int.toNat a.1) ((at' b.2 a.1)++[c])))))))))else(Ia d a e (b.2))
def Cu (d:eY) (c:dB) (e:fE) (f:Int) (a:Hw) (b:Iu->V1 EK):V1 EK:=
 if a.1<(c.2.length:Int)then(ck (0<=a.1/\a.1<(c.2.length:Int)) (ck (0<=a.1/\a.1<(c.1.length:Int)) (bG (Ib U c a b) U ((0:Int),a.2.2))))else(Ct U d c e f (a.2.1,a.2.2))
def EZ (c:eY) (a:dB) (d:fE) (e:Int) (b:V4):V1 EK:=
 if b=true then(some (([]:bN),(2:Int)))else(ck (0<=(a.2.length:Int)/\(a.2.length:Int)<=1099511627) (bG (Cu U c a d e) U ((0:Int),(0:Int),(List.replicate (Int.toNat (a.2.length:Int)) ([]:bN)))))
def Ep (a:eY) (b:dB) (c:fE) (d:Int):V1 EK:=
 Option.bind (kY U ((a.1,a.2.1,a.2.2)) ((b.1,b.2)) c) λe=>(if e≠(0:Int)then(some (([]:bN),e))else(if d<(0:Int)then(EZ U a b c d (true))else(EZ U a b c d (decide ((c.length:Int)<=d)))))
theorem agd:aX prog 12:=call12
theorem Ur (U:Nat) {d:eY} {u:dB} {N:fE} {R:Int} (g m q n:V0) (T:oB) (V:V0) (z6:nQ) (r:bN×Int) (h:Ep U d u N R=some r):
  aZ prog 12 #[Value.agg #[vS (d.1),g,m],Value.agg #[q,n],V,vI (R)] [Sl aN g d.2.1,Sl aJ m d.2.2,Sl cQ q u.1,S2 aS n T u.2,S2 cQ V z6 N] (λx:V0=>Value.tuple #[x,vI (r.2)]) (λx l=>Ar cK x r.1::l) (λ_ l=>l):=by
 let W:=(Cu U d u N R)
 let S:=(u.2.length:Int)
 let Y:=(Int.toNat S)
 refine aZ.of func12 Z ntmps12 Z λc=>?_;refine aT<|aK (aO.box (cs:=[vS (d.1),g,m]) Z Z) Z λb1=>aK (aO.box (cs:=[q,n]) Z Z) Z λb2=>aB Z<|aB Z<|aM<|aI<|aT<|fQ 1 Z<|fQ 0 Z<|aA Z<|dG h λr3 w4 h=>aK (zB8 Vn (FS U g m q n T V z6 r3 w4) Z (gK [0,1,2,3,4] Z)) Z λx5=>aB Z<|aM<|aT<|aA Z<|lK Z<|aM ?_;refine eF h Z (λh=>?_) λh=>?_
 .refine aT<|aA Z<|aB Z<|aB Z<|aM<|aP<|aG<|jY (qL cK) ?_;cases h;exact gA (zU) Z Z (RV.tmp Z) (RV.tmp Z) (aW.ix [0] Z Z) aE.nil
 refine bK<|aI<|aI<|cC (λa8=>EZ U d u N R a8=some r) (λa8 b9=>[(2,V),(3,vI (R)),(4,vP b1),(5,vP b2),(27,vB (a8))]) (λa8 b9=>[bU b2 [q,n] 29,bU b1 [vS (d.1),g,m] 25]) ?_ ?_
 .refine aL<|aA Z<|cX Z<|aA Z ?_;refine mL h Z (λ_ h=>?_) λ_ h=>?_
  .refine aD Z<|aD Z<|aD Z<|aD Z<|bO Z<|aM ?_;exact cF (true) () h SF Z
  refine bH Z<|bH Z<|aF Z (mB Z (Bl Z) Z) Z<|aF Z (lD Z Z) Z<|bT Z<|aM ?_;exact cF (decide ((N.length:Int)<=R)) () h SF Z
 intro a8 b9 h;refine iA h Z (λ_ h=>?_) λ_ h=>?_
 .refine aT<|aB Z<|aB Z<|aM<|aP<|aG<|jY (qL cK) ?_;cases h;exact gA (zU) Z Z (RV.tmp Z) (RV.tmp Z) (aW.ix [0] Z Z) aE.nil
 refine bK<|aT<|fQ 1 Z<|fQ 0 Z<|IC (A:=pT×Int×fE) (B:=abQ) (vs:=[Value.agg #[vS (d.1),g,m],Value.agg #[q,n]]) (λo=>H_ U d u N R o=some r) (λo b=>vP b.1) (λo b=>[bU b.1 [vS (d.1),g,m,vP b.2.1,b.2.2.1] 148,Ar eD b.2.2.1 b.2.2.2.1,sR cS b.2.2.2.1 o.1,bU b.2.1 [vS (d.1),g,m,q,n,vI (o.2.1),b.2.2.2.2.1] 142,Ar eD b.2.2.2.2.1 b.2.2.2.2.2,sR cK b.2.2.2.2.2 o.2.2]) (λo b=>[Sl aN g d.2.1,Sl aJ m d.2.2,Sl cQ q u.1,S2 aS n T u.2,S2 cQ V z6 N]) (BB.fn (show aX prog 30 from call30) Z) func30 Z ntmps30 Z Z ?_ ?_
 .refine aT<|aK (aO.box (cs:=[vS (d.1),g,m]) Z Z) Z λao=>let J:=bU ao [vS (d.1),g,m] 25;aK (aO.box (cs:=[q,n]) Z Z) Z λap=>let K:=bU ap [q,n] 29;aB Z<|aM<|aI ?_
  refine xP [0,0,0,6,0,0,62,127,255,511] 7 mixedOrders ?_;refine qY 1 Z<|qY 1 Z<|qY 0 Z<|Nr (A:=Bz) (B:=Nat×V0×List V0) (vs:=[Value.agg #[vS (d.1),g,m],Value.agg #[q,n]]) (λt=>E_ U d u N R t=some r) (λt f=>vP f.1) (λt f=>[bU f.1 [vS (d.1),g,m,q,n,vI (t.1),f.2.1] 142,Ar eD f.2.1 f.2.2,sR cK f.2.2 t.2,K,J]) (λt f=>[Sl aN g d.2.1,Sl aJ m d.2.2,Sl cQ q u.1,S2 aS n T u.2,S2 cQ V z6 N]) Z Z Z (BB.fn (show aX prog 26 from call26) Z) func26 Z ntmps26 Z Z (λ_ _=>(y_ [([4],[])] Z)) ?_ ?_
  .refine aT<|aK (aO.box (cs:=[vS (d.1),g,m]) Z Z) Z λa2=>aK (aO.box (cs:=[q,n]) Z Z) Z λO=>let X:=bU O [q,n] 29;aB Z<|aM<|aI ?_
   refine xP [0,0,0,4,12,28,63,127,255] 6 mixedOrders ?_;refine qY 1 Z<|qY 0 Z<|dA Z<|iH 0 Z<|bI Z .nil (jP 3 Z) (mB Z (cG Z) Z) aR.z<|eX h λar h=>JR.stp (Ei cK Y)<|zBa Z Z Z (oC (e:=eD) (zU) Z Z Z Z ar Z Z Z) Z (λs=>(y_ [([2],[]),([3],[])] Z)) λs=>bS 6 Z Z<|eH (jKs (aQ.rows (i:=0) (j:=1) Z Z fH)) λaf=>?_;refine aC (BF (r:=Value.agg #[vS (d.1),g,m,q,n,vI (0:Int),s]) Z Z Z (by intro w;simp[Instr.build,Instr.fill,cL,b_,bW,cM,cN,cA,dD,eW af])) Z ?_;refine aK (aO.box (cs:=[vS (d.1),g,m,q,n,vI (0:Int),s]) Z Z) Z λy=>aB Z<|aM<|aI<|JK (B:=oA) (λv=>Ct U d u N R v=some r) (λv H=>[(5,vP y)]) (λv H=>[bU y [vS (d.1),g,m,q,n,vI (v.1),s] 142,Ar eD s H,sR cK H v.2,K,J]) ?_ ?_
   .refine aT<|bD Z<|bY 3 Z<|aC (mB Z (EQ Z) Z) Z<|aA Z<|aM<|aU<|eP (B:=oA) W (λa E=>[(3,vP O),(5,vP y),(19,n),(20,vI S),(21,vI (a.1))]) (λa E=>[bU y [vS (d.1),g,m,q,n,vI (a.2.1),s] 142,Ar eD s E,sR cK E a.2.2,X,K,J]) ((0:Int),(0:Int),(List.replicate Y ([]:bN))) (List.replicate Y (zU)) h SF (aW.ix [0,1,2,3,5,6] Z Z) ?_;intro aj a E h;let aa:=(at' u.2 a.1)
    let al:=(max a.2.1 (at' u.1 a.1))
    let ak:=bU y [vS (d.1),g,m,q,n,vI al,s] 142;refine aT<|cX Z<|aM<|aI ?_;refine eF h Z (λh=>?_) λh=>?_
    .refine bK<|aI<|JK (B:=oA) (λD=>Ia u a (bG W aj) D=some r) (λD I=>[(3,vP O),(5,vP y),(19,n),(20,vI S),(21,vI (a.1))]) (λD I=>[ak,Ar eD s I,sR cK I D,X,K,J]) ?_ ?_
     .refine aU<|aT<|aA Z<|eX h λC h=>aC (fJ Z Z (EQ Z) Z Z C) Z<|aC (eI Z (EQ Z) Z Z C) Z<|aB Z<|aB Z<|aM<|aI ?_;refine xP [0,0,2,6,14,0,32,0,224,480,1022,2047,4095,8191] 11 mixedOrders ?_;refine bE Z<|bE Z<|iD Z (aV Z)<|dA Z<|iH 0 Z<|dA Z<|iH 3 Z<|bE Z<|eX h λah h=>bI Z .nil (jP 2 Z) (a_ Z Z (cG Z) Z Z ah) aR.z<|bI Z .nil (jP 2 Z) (eC Z (cG Z) Z Z Z gC ah) aR.z<|iD Z (Gm Z Z)<|bS 11 Z Z<|aC (aV Z) Z<|bD Z<|i_ 0 Z Z Z Z Z Z<|aM<|aT<|aA Z<|aC (dO Z (zB9 (EQ Z) C.1 C.2) Z) Z<|aA Z<|aM<|aU<|eP (B:=oA) (Ib U u a (bG W aj)) (λp F=>[(3,vP O),(5,vP y),(6,vI (a.1)),(19,n),(20,vI S),(21,vI (a.1)),(39,(at' T a.1).1),(40,vI (aa.length:Int)),(41,vI (p.1))]) (λp F=>[ak,Ar eD s F,sR cK F p.2,X,K,J]) ((0:Int),a.2.2) (E) h SF (aW.refl _) ?_;intro a4 p F h;refine aT<|cX Z<|aM<|aI ?_;refine eF h Z (λh=>?_) λh=>?_
      .refine bK<|aI<|aU<|aT<|eX h λai h=>aC (a_ Z Z (zB9 (EQ Z) C.1 C.2) Z Z ai) Z<|aC (eO (cs:=[vI ((at' aa p.1).1),vI ((at' aa p.1).2)]) Z (zB9 (EQ Z) C.1 C.2) dL Z Z Z Z ai) Z<|aK (aO.alloc (cs:=SG) Z Z) Z λa3=>cO 0 (vs:=[vI ((at' (at' u.2 a.1) p.1).1),vI ((at' (at' u.2 a.1) p.1).2)]) Z Z Z Z Z Z<|aM ?_;refine xP [0,1,3,7,0,0,32,96,224,0,992,2016,0,0,8192,0,61440,126976,262112,524287,1048575] 19 mixedOrders ?_;refine bE Z<|iD Z (aV Z)<|dA Z<|iH 1 Z<|bE Z<|bE Z<|iD Z (aV Z)<|dA Z<|iH 1 Z<|bE Z<|eX h λP h=>kO (nT 3 Z) λab=>?_;refine bI Z (aW.cons 2 Z .nil) .nil (Ah 0 Z Z Z Z Z P.1 (by have q1:=P.2;have q2:=ab;(try simp only[zAb]at q1);(try simp only[zAb]at q2⊢);omega)) aR.z ?_;refine kO (nT 3 Z) λac=>bI Z (aW.cons 2 Z .nil) .nil (Fi 0 Z Z ac Z Z P) aR.z<|qY 4 Z<|dA Z<|iH 0 Z<|bE Z<|dG h λL aY h=>zBa Z Z Z (zB8 Ry (CE U q n T L aY) Z (gK [2,3] Z)) Z (λa1=>(y_ [([2],[]),([2],[]),([1],[]),([1],[])] Z)) λa1=>zBa Z Z Z (fX (e:=cK) ([L]) [(0,vI (L))] Z Z Z Z (vG (vI (L)) Z) Z Z Z) Z (λax=>(y_ [([3],[]),([3],[]),([2],[]),([2],[])] Z)) λax=>eX h λau h=>zBa Z Z Z (vD 4 fH Z Z Z (bL (aQ.res 0 Z) fH) Z Z Z Z P au Z) Z (λan=>(y_ [([2],[])] Z)) λan=>bS 19 Z Z<|eX h λQ h=>eH (nT 4 Z) λad=>?_;refine aC (Ah 3 Z Z Z Z Z Q.1 (by have q1:=Q.2;have q2:=ad;(try simp only[zAb]at q1);(try simp only[zAb]at q2⊢);omega)) Z ?_;refine eH (Gk 4 (k:=a.1) Z Q) λag=>?_;refine Fl 3 4 Q Z Z Z Z Z (by simp) ag Z ?_;refine dK<|jZ<|aL<|cP Z<|aA Z<|aM ?_;exact fI ((wI .i64 (p.1+(1:Int))),(List.set p.2 (Int.toNat a.1) ((at' p.2 a.1)++[L]))) (List.set F (Int.toNat a.1) an) h SF (aW.ix [2,3,4,5,6,7] Z Z) (aE.refl _ _)
      refine uS<|gY<|gY<|BC<|jZ ?_;exact cF (p.2) (F) h SF Z
     intro D I h;unfold Ia at h;refine aL<|cP Z<|aA Z<|aM ?_;exact Ac ((wI .i64 (a.1+(1:Int))),al,D) (I) h SF Z
    refine fK ?_;exact bQ (a.2.1,a.2.2) (E) h SF (aW.ix [0,1,2,4,5] Z Z) (aE.refl _ _)
   intro v H h;unfold Ct at h;refine aT<|aA Z<|aB Z<|aM<|aP ?_;exact uT (v.1,v.2) (y,s,H) h (.inl Z) (Kk.r1 Z (RV.tmp Z)) Z (aW.refl _) (aE.refl _ _)
  intro t f h;unfold E_ at h;refine bI Z (aW.cons 4 Z .nil) .nil (iC 0 Z Z Z Z) (aR.h (aW.ix [1] Z Z) .nil aR.z)<|bI Z (aW.cons 3 Z .nil) .nil (iC 0 Z Z Z Z) (aR.h (aW.ix [0] Z Z) .nil aR.z)<|dG h λam aH h=>zBa Z Z Z (zB8 Rx (CB U g m q n T am aH) Z (gK [0,1,2,3] Z)) Z (λM=>(y_ [([6],[])] Z)) λM=>bS 7 Z Z<|eH (jKs (aQ.rows (i:=0) (j:=1) Z Z dL)) λae=>?_;refine aC (BF (r:=Value.agg #[vS (d.1),g,m,Value.pointer (some ⟨f.1,0,none⟩),M.1]) Z Z Z (by intro w;simp[Instr.build,Instr.fill,cL,b_,bW,cM,cN,cA,dD,eW ae])) Z ?_;refine aK (aO.box (cs:=[vS (d.1),g,m,vP f.1,M.1]) Z Z) Z λaq=>aB Z<|aM<|aP ?_;exact uT (am,t.1,t.2) (aq,f.1,M.1,M.2,f.2.1,f.2.2) h (.inl Z) (Kk.r1 Z (RV.tmp Z)) Z (aW.ix [0,1,2,3,4,5] Z Z) (aE.refl _ _)
 intro o b h;let G:=b.2.2.2;refine aB Z<|aM<|aT<|aA Z<|aA Z<|aA Z<|dG h λav ay h=>aK (zB8 Vo (yN U b.1 g m b.2.1 g m q n T G.2.1 (List.zip G.2.2 o.2.2) b.2.2.1 (List.zip G.1 o.1) V z6 av ay) Z (aE.cons (aQ.res 0 Z) (aE.cons (cG Z) (aE.cons (iZ Z) (aE.cons (aQ.res 3 Z) (aE.cons (cG Z) (aE.cons (iZ Z) (aE.cons (FA Z) (aE.cons (EQ Z) (aE.cons (aQ.rows (i:=4) (j:=5) Z Z fH) (aE.cons (aQ.rows (i:=1) (j:=2) Z Z dL) (gK [4] Z)))))))))))) Z λa5=>aB Z<|aM<|aI<|aT<|aA Z<|cX Z<|aM ?_;refine eF h Z (λh=>?_) λh=>?_
 .refine aT<|aB Z<|aB Z<|aM<|aP<|aG<|jY (qL cK) ?_;cases h;exact gA (zU) Z Z (RV.tmp Z) (RV.tmp Z) (aW.ix [0] Z Z) aE.nil
 refine bK<|aT<|aA Z<|aA Z<|aA Z<|aA Z<|dG h λaw az h=>aK (zB8 agl (IX U b.1 g m b.2.1 g m q n T G.2.1 (List.zip G.2.2 o.2.2) b.2.2.1 (List.zip G.1 o.1) V z6 aw az) Z (aE.cons (aQ.res 0 Z) (aE.cons (cG Z) (aE.cons (iZ Z) (aE.cons (aQ.res 3 Z) (aE.cons (cG Z) (aE.cons (iZ Z) (aE.cons (FA Z) (aE.cons (EQ Z) (aE.cons (aQ.rows (i:=4) (j:=5) Z Z fH) (aE.cons (aQ.rows (i:=1) (j:=2) Z Z dL) (gK [4] Z)))))))))))) Z λa0=>aB Z<|aB Z<|aM<|aP ?_;cases h;exact gA (a0) Z Z (RV.tmp Z) (RV.tmp Z) (aW.ix [0] Z Z) aE.nil
def pQ (b:eY) (d:dB) (g a h:Int) (f:V4):V1 (Int):=
 if f=true then(some (0:Int))else(ck (0<=a/\a<(b.2.1.length:Int)) (Option.bind (k_ U ((((at' b.2.1 a).1),((at' b.2.1 a).2.1),((at' b.2.1 a).2.2.1),((at' b.2.1 a).2.2.2.1),((at' b.2.1 a).2.2.2.2.1),((at' b.2.1 a).2.2.2.2.2))) ((d.1,d.2)) g) λe=>(ck (0<=a/\a<(b.2.1.length:Int)) (Option.bind (xR U ((at' b.2.1 a).2.1) ((e.1,e.2)) h) λc=>(some (c))))))
def xS (a:eY) (b:dB) (c d e:Int):V1 (Int):=
 Option.bind (sT U ((a.1,a.2.1,a.2.2)) ((b.1,b.2))) λf=>(if f≠(0:Int)then(pQ U a b c d e (true))else(if c<(0:Int)then(pQ U a b c d e (true))else(if(b.1.length:Int)<=c then(pQ U a b c d e (true))else(if d<(0:Int)then(pQ U a b c d e (true))else(pQ U a b c d e (decide ((a.2.1.length:Int)<=d)))))))
theorem age:aX prog 13:=call13
theorem OZ (U:Nat) {b:eY} {m:dB} {n d o:Int} (j k e f:V0) (y:oB) (r:Int) (h:xS U b m n d o=some r):
  aZ prog 13 #[Value.agg #[vS (b.1),j,k],Value.agg #[e,f],vI (n),vI (d),vI (o)] [Sl aN j b.2.1,Sl aJ k b.2.2,Sl cQ e m.1,S2 aS f y m.2] (λx:Unit=>vI (r)) (λx l=>l) (λ_ l=>l):=by
 let a:=(at' b.2.1 d)
 refine aZ.of func13 Z ntmps13 Z λc=>?_;refine aT<|aK (aO.box (cs:=[vS (b.1),j,k]) Z Z) Z λA=>aK (aO.box (cs:=[e,f]) Z Z) Z λB=>aB Z<|aM<|aI<|aI<|cC (λg=>pQ U b m n d o g=some r) (λg C=>[(2,vI (n)),(3,vI (d)),(4,vI (o)),(5,vP A),(6,vP B),(38,vB (g))]) (λg C=>[bU B [e,f] 29,bU A [vS (b.1),j,k] 25]) ?_ ?_
 .refine aL<|fQ 1 Z<|fQ 0 Z<|dG h λq u h=>aK (zB8 Z_ (Kb U j k e f y q u) Z (gK [0,1,2,3] Z)) Z λG=>lK Z<|aA Z ?_;refine mL h Z (λ_ h=>?_) λ_ h=>?_
  .refine aD Z<|aD Z<|bO Z<|aA Z<|aD Z<|aD Z<|aD Z<|aD Z<|aD Z<|bO Z<|aA Z<|aD Z<|aD Z<|bO Z<|aA Z<|aD Z<|aD Z<|aD Z<|aD Z<|aD Z<|bO Z<|aM ?_;exact cF (true) () h SF Z
  refine bH Z<|aF Z (Hg Z Z) Z<|bT Z<|aA Z ?_;refine mL h Z (λ_ h=>?_) λ_ h=>?_
  .refine aD Z<|aD Z<|aD Z<|aD Z<|aD Z<|bO Z<|aA Z<|aD Z<|aD Z<|bO Z<|aA Z<|aD Z<|aD Z<|aD Z<|aD Z<|aD Z<|bO Z<|aM ?_;exact cF (true) () h SF Z
  refine bH Z<|aF Z (bR Z Z Z Z Z) Z<|aF Z (bX 0 Z Z Z Z Z) Z<|aF Z (dO Z (FA Z) Z) Z<|aF Z (lD Z Z) Z<|bT Z<|aA Z ?_;refine mL h Z (λ_ h=>?_) λ_ h=>?_
  .refine aD Z<|aD Z<|bO Z<|aA Z<|aD Z<|aD Z<|aD Z<|aD Z<|aD Z<|bO Z<|aM ?_;exact cF (true) () h SF Z
  refine bH Z<|aF Z (Hg Z Z) Z<|bT Z<|aA Z ?_;refine mL h Z (λ_ h=>?_) λ_ h=>?_
  .refine aD Z<|aD Z<|aD Z<|aD Z<|aD Z<|bO Z<|aM ?_;exact cF (true) () h SF Z
  refine bH Z<|aF Z (bR Z Z Z Z Z) Z<|aF Z (bX 1 Z Z Z Z Z) Z<|aF Z (dO Z (cG Z) Z) Z<|aF Z (lD Z Z) Z<|bT Z<|aM ?_;exact cF (decide ((b.2.1.length:Int)<=d)) () h SF Z
 intro g C h;refine iA h Z (λ_ h=>?_) λ_ h=>?_
 .refine aT<|aB Z<|aM<|aP<|aG ?_;cases h;exact mK Z
 refine bK<|aI ?_;refine xP [0,1,0,7,15,0,0,127,255,511,511,1023,4095] 12 mixedOrders ?_;refine dA Z<|iH 1 Z<|bE Z<|eX h λD h=>bI Z .nil (jP 0 Z) (a_ Z Z (cG Z) Z Z D) aR.z<|bI Z .nil (jP 0 Z) (eO (cs:=[vS (a.1),vI (a.2.1),vI (a.2.2.1),vI (a.2.2.2.1),vI (a.2.2.2.2.1),vI (a.2.2.2.2.2)]) Z (cG Z) lL Z Z Z Z D) aR.z<|qY 0 Z<|bE Z<|dG h λs E h=>zBa Z Z Z (zB8 Vp (EH U e f y s E) Z (gK [2,3] Z)) Z (λv=>(y_ [] Z)) λv=>iD Z (fN Z)<|iD Z (CZ Z Z)<|iD Z (CZ Z Z)<|iD Z (BE Z)<|bS 12 Z Z<|aB Z<|aM<|aT<|bD Z<|bY 1 Z<|aA Z<|eX h λi h=>aC (a_ Z Z (cG Z) Z Z i) Z<|aC (cB Z Z Z Z Z) Z<|aC (fW Z (cG Z) Z Z Z nU i) Z<|aA Z<|aA Z ?_;refine aC (nP (r:=Value.agg #[vI (s.1),vI (s.2)]) Z Z (by intro w;simp[Instr.build,Instr.fill,cL,b_,bW,cM,cN,cA,dD])) Z ?_;refine aA Z<|dG h λp t h=>aK (zB8 aaa (Ja U p t) Z .nil) Z λF=>aB Z<|aM<|aP ?_;cases h;exact mK Z
end Go.Proofs.YtemmagadjnlajaaGreatDoor
namespace Go.Proofs.YtemmagadjnlajaaGreatDoor
open Go Go.Sx
abbrev GU (p:PG) (k:Nat):V6 TM:=(at' p.2.2 (k:Int)).2.1
abbrev kJ (p:PG) (k:Nat):V6 ST:=(at' p.2.2 (k:Int)).2.2
structure Ti (p:PG) (k:Nat):Prop where
 guard:U_ p.2.1.length (GU p k)
 len:(kJ p k).length<=6
 var:∀j:Nat,j<(kJ p k).length->0<=(at' (kJ p k) (j:Int)).1/\(at' (kJ p k) (j:Int)).1<(p.2.1.length:Int)
 val:∀j:Nat,j<(kJ p k).length->U_ p.2.1.length (at' (kJ p k) (j:Int)).2
 dif:∀i j:Nat,i<j->j<(kJ p k).length->(at' (kJ p k) (i:Int)).1≠(at' (kJ p k) (j:Int)).1
structure GK (p:PG) (g:GR) (c:fE):Prop where
 graph:VG g
 valid:mP 1000 p=some true
 vars:GM g p.2.1
 conf:RCf g c p.2.1
 n1:1<=p.2.1.length
 n6:p.2.1.length<=6
 r12:p.2.2.length<=12
 rules:∀k:Nat,k<p.2.2.length->Ti p k
def Mb (a:Int) (b:dJ) (x:Int):Int:=if b.1<=x/\x<=b.2 then x else if a=3 then -1 else if x<b.1 then b.1 else b.2
theorem TA (f:Nat) (k:Int) (b:dJ) (x:Int):xR f k b x=some (Mb k b x):=by
 unfold xR AH Mb;by_cases a:b.1<=x
 .by_cases c:x<=b.2
  .simp only[a,c,and_self,if_true,decide_true]
  .simp only[a,c,and_false,if_true,if_false,decide_false,Bool.false_eq_true];split
   .rfl
   .split<;>rfl
 .simp only[a,false_and,if_false,Bool.false_eq_true];split
  .rfl
  .split<;>rfl
def HC (p:PG) (g:GR) (c:fE) (v:Nat) (r:Int):Prop:=(∃i:Nat,r=(i:Int)/\i<p.2.2.length/\UP p g c v (GU p i)≠0/\∀j,j<i->UP p g c v (GU p j)=0)\/(r = -1/\∀j,j<p.2.2.length->UP p g c v (GU p j)=0)
theorem aaK (n:Nat) (q:Nat->Prop):(∃i,i<n/\q i/\∀j,j<i->¬q j)\/∀j,j<n->¬q j:=by
 induction n with
 |zero=>exact .inr λj h=>absurd h (Nat.not_lt_zero j)
 | succ n ih =>
  rcases ih with⟨i,d,b,c⟩|h
  .exact .inl ⟨i,V7,b,c⟩
  .by_cases a:q n
   .exact .inl ⟨n,V7,a,h⟩
   .refine .inr λj f=>?_;by_cases e:j=n
    .rw[e];exact a
    .exact h j V7
theorem Mm (p:PG) (g:GR) (c:fE) (v:Nat):∃r,HC p g c v r:=by
 rcases aaK p.2.2.length λi=>UP p g c v (GU p i)≠0 with⟨i,b,d,e⟩|h
 .exact⟨i,.inl ⟨i,rfl,b,d,λj a=>zB7.1 (e j a)⟩⟩
 .exact⟨-1,.inr ⟨rfl,λj a=>zB7.1 (h j a)⟩⟩
noncomputable def XM (p:PG) (g:GR) (c:fE) (v:Nat):Int:=Classical.choose (Mm p g c v)
theorem Uk (p:PG) (g:GR) (c:fE) (v:Nat):HC p g c v (XM p g c v):=Classical.choose_spec (Mm p g c v)
noncomputable def VN (p:PG) (g:GR) (c:fE) (v i:Nat):Nat->bN
 |0=>at' c (v:Int)
 |k+1=>(VN p g c v i k).set (at' (kJ p i) (k:Int)).1.toNat (Mb (at' p.2.1 (at' (kJ p i) (k:Int)).1).2.1 (JQ g p.2.1 v (at' (kJ p i) (k:Int)).1.toNat) (UP p g c v (at' (kJ p i) (k:Int)).2))
section
variable {p:PG} {g:GR} {c:V6 (V6 Int)} {v:Nat}
theorem K_ {i:Nat}:∀k,(VN p g c v i k).length=(at' c (v:Int)).length
 |0=>rfl
 |k+1=>by rw[VN,zAb,K_ k]
theorem aaQ (h:GK p g c) (b:v<g.2.length) {i:Nat} (a:i<p.2.2.length):n_ 1000 (scn p g) c (v:Int) (i:Int)=some (decide (UP p g c v (GU p i)≠0)):=by
 unfold n_;rw[dM (show 0<=(i:Int)/\(i:Int)<(p.2.2.length:Int) by omega)];exact(aY (show kC 1000 _ c (v:Int) _=_ from UE h.graph h.conf.shape b (h.rules i a).guard)).trans Z
theorem abh (h:GK p g c) (q:v<g.2.length) (f:V6 (V6 (Int×Int))) {r:Int} (o:HC p g c v r):f_ 1000 (p,scn p g,f) c (v:Int)=some r:=by
 have m:=h.r12;have b:∀(k:Nat) a,k<p.2.2.length->nY 1000 (p,scn p g,f) c (v:Int) (k:Int) a=if UP p g c v (GU p k)≠0 then some (k:Int)else a (((k+1:Nat):Int)):=by
  intro k a d;unfold nY;rw[if_pos (show(k:Int)<(p.2.2.length:Int) by omega)];refine(aY (show n_ 1000 _ c (v:Int) (k:Int)=_ from aaQ h q d)).trans ?_;rw[Q9];by_cases e:UP p g c v (GU p k)=0
  .rw[if_neg (by simp[e]),if_neg (by simp[e])]
  .rw[if_pos (by simp[e]),if_pos e]
 unfold f_;rcases o with⟨i,rfl,n,l,j⟩|⟨rfl,j⟩
 .exact gW (K:=some (i:Int)) i (λk=>(k:Int)) (λk a d=>by rw[b k a V7,if_neg (by simp[j k d])]) (λa=>by rw[b i a n,if_pos l]) 1000 V7
 .exact gW (K:=some (-1)) p.2.2.length (λk=>(k:Int)) (λk a d=>by rw[b k a d,if_neg (by simp[j k d])]) (λa=>by
   unfold nY rQ;rw[if_neg (show¬(p.2.2.length:Int)<(p.2.2.length:Int)from Int.lt_irrefl _)]) 1000 V7
noncomputable def enN (p:PG) (g:GR) (c:V6 (V6 Int)):Nat:=Gz (λv=>decide (0<=XM p g c v)) g.2.length
theorem abg (h:GK p g c) {tab:V6 (V6 (Int×Int))} (ht:tab.length=g.2.length):mG 1000 (p,scn p g,tab) c=some ((enN p g c:Nat):Int):=by
 have h24:=h.graph.n24;unfold mG EV;let q:Nat->V4:=λv=>decide (0<=XM p g c v);have:=gW (step:=wM (tab.length:Int) (λy0=>nR 1000 y0 (p,scn p g,tab) c)) (K:=some ((Gz q g.2.length:Nat):Int)) g.2.length (λk=>(((Gz q k:Nat):Int),(k:Int))) (λk ag hk=>by
  have hm:=XA q (k:=k) V7;unfold wM AA nR;dsimp only;rw[Q8,aY (show Option.bind (f_ 1000 _ c (k:Int)) _=some (q k)from(aY (show f_ 1000 _ c (k:Int)=_ from abh h hk tab (Uk p g c k))).trans Z),Q9];cases hq:q k with
  |true=>
   rw[if_pos Z,Q6,afZ hm V7];simp only[Gz,hq,if_true]
  |false=>
   rw[if_neg Q2];simp only[Gz,hq];rfl) (λag=>by
  unfold wM Ea;dsimp only;rw[Q0]) 1000 V7
 exact(aY (show bG _ 1000 ((0:Int),(0:Int))=_ from this)).trans Z
theorem ajo (h:GK p g c) (j:v<g.2.length) {i:Nat} (u:i<p.2.2.length):oZ 1000 (p,scn p g,Jl g p.2.1) c (v:Int) (i:Int)=some (VN p g c v i (kJ p i).length):=by
 have s:=h.graph.n24;have t:=h.conf.len;have n:=h.conf.row v j;have A:=h.n6;have d:=h.rules i u;have z:=d.len;have o:(Jl g p.2.1).length=g.2.length:=by simp[Jl]
 have f:at' (Jl g p.2.1) (v:Int)=JL g p.2.1 v:=FJ _ j;have y:(JL g p.2.1 v).length=p.2.1.length:=by simp[JL]
 unfold oZ;dsimp only;rw[Q6,dM Q1,Q6,List.nil_append];have:=gW (step:=nX 1000 (p,scn p g,Jl g p.2.1) c (v:Int) (i:Int)) (K:=some (VN p g c v i (kJ p i).length)) (kJ p i).length (λk=>((k:Int),VN p g c v i k)) (λk r m=>by
  have⟨B,C⟩:=d.var k m;obtain⟨x,q⟩:∃x:Nat,(at' (kJ p i) (k:Int)).1=(x:Int):=⟨(at' (kJ p i) (k:Int)).1.toNat,V7⟩
  have l:x<p.2.1.length:=V7
  have a:at' (JL g p.2.1 v) (x:Int)=JQ g p.2.1 v x:=FJ _ l;have w:=K_ (p:=p) (g:=g) (c:=c) (v:=v) (i:=i) k;have b:=UE h.graph h.conf.shape j (d.val k m);unfold nX;dsimp only;rw[if_pos (show(k:Int)<((kJ p i).length:Int) by omega),dM (show 0<=(k:Int)/\(k:Int)<((kJ p i).length:Int) by omega)];refine(aY (show kC 1000 _ c (v:Int) _=_ from b)).trans ?_;rw[q,Q6,Q6,f,Q6,a,aY (TA 1000 _ _ _),Q6,Q9,zA7];have e:VN p g c v i (k+1)=(VN p g c v i k).set x (Mb (at' p.2.1 (x:Int)).2.1 (JQ g p.2.1 v x) (UP p g c v (at' (kJ p i) (k:Int)).2)):=by rw[VN,q,zA7]
  rw[e]) (λr=>by
  unfold nX rP;dsimp only;rw[if_neg (show¬((kJ p i).length:Int)<((kJ p i).length:Int)from Int.lt_irrefl _)]) 1000 V7
 exact this
theorem abo (h:GK p g c) (l:v<g.2.length) {i:Nat} (d:i<p.2.2.length):∀k,k<=(kJ p i).length->∀j:Nat,j<k->at' (VN p g c v i k) (at' (kJ p i) (j:Int)).1=Mb (at' p.2.1 (at' (kJ p i) (j:Int)).1).2.1 (JQ g p.2.1 v (at' (kJ p i) (j:Int)).1.toNat) (UP p g c v (at' (kJ p i) (j:Int)).2)
 |0,_,j,hj=>absurd hj (Nat.not_lt_zero j)
 | k + 1, hk, j, hj =>by
  have a:=h.rules i d;have⟨s,t⟩:=a.var j V7;have⟨q,r⟩:=a.var k V7;obtain⟨x,b⟩:∃x:Nat,(at' (kJ p i) (j:Int)).1=(x:Int):=⟨(at' (kJ p i) (j:Int)).1.toNat,V7⟩
  obtain⟨y,n⟩:∃y:Nat,(at' (kJ p i) (k:Int)).1=(y:Int):=⟨(at' (kJ p i) (k:Int)).1.toNat,V7⟩
  have f:=h.conf.row v l;have m:=K_ (p:=p) (g:=g) (c:=c) (v:=v) (i:=i) k;rw[VN,b,n,zA7,oP x V7];by_cases e:j=k
  .subst e;obtain rfl:y=x:=V7
   rw[if_pos Z];simp only[zA7]
  .have:=a.dif j k V7 V7;rw[Q0,<-b];have o:=abo h l d k V7 j V7;rw[o,b,zA7]
end
section
variable {p:PG} {g:GR} {c:V6 (V6 Int)} {v:Nat}
theorem GK.check (h:GK p g c):kY 1000 p g c=some 0:=TK h.graph h.valid h.vars h.conf
theorem GK.len (h:GK p g c):c.length=g.2.length:=h.conf.len
theorem ajG (h:GK p g c) (l:v<g.2.length) {r:Int} (k:HC p g c v r):Er 1000 p g c (v:Int)=some r:=by
 have i:=h.graph.n24;have j:=h.len;have f:q_ 1000 (p.1,p.2.1,p.2.2) (g.1,g.2) c=some true:=by
  unfold q_;exact(aY (show kY 1000 _ _ c=_ from h.check)).trans Z
 unfold Er;rw[aY f,if_neg Q2,Q0,zA6 V7];unfold Cv;rw[if_neg Q2,Q6];rw[JD h.graph (Cy 1000 p g c (v:Int)) (λa d=>If 1000 g a d) (λb=>Cw 1000 p g c (v:Int) b) (λa d=>rfl) (λa d b e=>rfl)];unfold Cw Fa;refine(aY (show kX 1000 _ _=_ from LB h.graph h.vars)).trans ?_;unfold Ic;exact(aY (show f_ 1000 _ c (v:Int)=_ from abh h l (Jl g p.2.1) k)).trans Z
theorem abG (h:GK p g c):xW 1000 p g c=some ((enN p g c:Nat):Int):=by
 have h24:=h.graph.n24;have e1:q_ 1000 (p.1,p.2.1,p.2.2) (g.1,g.2) c=some true:=by
  unfold q_;exact(aY (show kY 1000 _ _ c=_ from h.check)).trans Z
 unfold xW;rw[aY e1,if_neg Q2,Q6];rw[JD h.graph (vT 1000 p g c) (λa ag=>EF 1000 g a ag) (λb=>vR 1000 p g c b) (λa ag=>rfl) (λa ag b ag2=>rfl)];unfold vR Be;refine(aY (show kX 1000 _ _=_ from LB h.graph h.vars)).trans ?_;unfold ED;exact(aY (show mG 1000 _ c=_ from abg h (tab:=Jl g p.2.1) (by simp[Jl]))).trans Z
theorem ajF (h:GK p g c) (f:v<g.2.length) {r:Int} (e:HC p g c v r):Ep 1000 p g c (v:Int)=some (if r<0 then([],11)else(VN p g c v r.toNat (kJ p r.toNat).length,0)):=by
 have k:=h.graph.n24;have l:=h.len;unfold Ep;rw[aY (show kY 1000 (p.1,p.2.1,p.2.2) (g.1,g.2) c=_ from h.check),if_neg Q2,Q0,zA6 V7];unfold EZ;rw[if_neg Q2,Q6];rw[JD h.graph (Cu 1000 p g c (v:Int)) (λa d=>Ib 1000 g a d) (λb=>Ct 1000 p g c (v:Int) b) (λa d=>rfl) (λa d b j=>rfl)];unfold Ct E_;refine(aY (show kX 1000 _ _=_ from LB h.graph h.vars)).trans ?_;unfold H_;refine(aY (show f_ 1000 _ c (v:Int)=_ from abh h f (Jl g p.2.1) e)).trans ?_;rcases e with⟨i,rfl,m,_,_⟩|⟨rfl,_⟩
 .rw[Q0,Q0,zA7];exact(aY (show oZ 1000 _ c (v:Int) (i:Int)=_ from ajo h f m)).trans Z
 .rw[if_pos Q2,if_pos Q2]
theorem agW (h:GK p g c) (d:v<g.2.length) {x:Nat} (a:x<p.2.1.length) (y:Int):xS 1000 p g (v:Int) (x:Int) y=some (Mb (at' p.2.1 (x:Int)).2.1 (JQ g p.2.1 v x) y):=by
 have b:=h.graph.len;unfold xS;rw[aY (show sT 1000 (p.1,p.2.1,p.2.2) (g.1,g.2)=_ from Xl h.graph h.valid h.vars),if_neg Q2,Q0,Q0,Q0,zA6 V7];unfold pQ;rw[if_neg Q2,Q6];refine(aY (show k_ 1000 _ _ (v:Int)=_ from Ma h.graph (h.vars.small x a) (h.vars.kind x a) d)).trans ?_;rw[Q6];exact(aY (TA 1000 _ _ _)).trans Z
theorem adR (a:v<g.2.length):(enN p g c).testBit v=decide (0<=XM p g c v):=by
 unfold enN;rw[QB];simp[a]
theorem YM {r s:Int} (m:HC p g c v r) (n:HC p g c v s):r=s:=by
 rcases m with⟨i,rfl,k,f,d⟩|⟨rfl,d⟩<;>rcases n with⟨j,rfl,l,h,e⟩|⟨rfl,e⟩
 .by_cases a:i<j
  .exact absurd (e i a) f
  .by_cases b:j<i
   .exact absurd (d j b) h
   .omega
 .exact absurd (e i k) f
 .exact absurd (d j l) h
 .rfl
theorem alk (h:GK p g c) (hv:v<g.2.length) {r:Int} (hr:HC p g c v r):Eo 1000 ((enN p g c:Nat):Int) (v:Int)=some (decide (0<=r)):=by
 have h24:=h.graph.n24;rw[ahq (s:=enN p g c) (XA _ V7) V7,adR hv,YM (Uk p g c v) hr]
end
end Go.Proofs.YtemmagadjnlajaaGreatDoor
namespace Go.Proofs.YtemmagadjnlajaaGreatDoor
open Go.Sx
def DR (a:Int):V1 (Int):=
 some (a)
def DT (c:dJ) (b:dW->V1 (Int)) (a:Int):V1 (Int):=
 b (a,(wI .i64 (c.2+(1:Int))))
def sW (d:eY) (b:dJ) (e:dW->V1 (Int)) (a:dJ) (c:dW->V1 (Int)):V1 (Int):=
 ck (0<=b.2/\b.2<(d.2.2.length:Int)) (if a.2<(((at' d.2.2 b.2).2.2).length:Int)then(ck (0<=b.2/\b.2<(d.2.2.length:Int)) (ck (0<=a.2/\a.2<(((at' d.2.2 b.2).2.2).length:Int)) (c ((wI .i64 (a.1+(((at' ((at' d.2.2 b.2).2.2) a.2).2).length:Int))),(wI .i64 (a.2+(1:Int)))))))else(DT b e (a.1)))
def mQ (b:eY) (a:dJ) (c:dW->V1 (Int)):V1 (Int):=
 if a.2<(b.2.2.length:Int)then(ck (0<=a.2/\a.2<(b.2.2.length:Int)) (bG (sW b a c) U ((wI .i64 (a.1+(((at' b.2.2 a.2).2.1).length:Int))),(0:Int))))else(DR (a.1))
def uY (a:eY):V1 (Int):=
 bG (mQ U a) U ((0:Int),(0:Int))
theorem ZY:aX prog 15:=call15
theorem Lw {b:eY} (z q:V0) (r:Int) (h:uY U b=some r):
  aZ prog 15 #[Value.agg #[vS (b.1),z,q]] [Sl aN z b.2.1,Sl aJ q b.2.2] (λx:Unit=>vI (r)) (λx l=>l) (λ_ l=>l):=by
 refine aZ.of func15 Z ntmps15 Z λc=>?_;unfold uY at h;refine aT<|aK (aO.box (cs:=[vS (b.1),z,q]) Z Z) Z λA=>let p:=bU A [vS (b.1),z,q] 25;Q4 Z<|Q3 Z<|aI<|cC (λs=>DR s=some r) (λs C=>[(3,vI (s))]) (λs C=>[]) ?_ ?_
 .refine Q3 Z<|aU<|eP (mQ U b) (λg D=>[(1,vP A),(3,vI (g.1)),(4,vI (g.2))]) (λg D=>[p]) ((0:Int),(0:Int)) () h SF (aW.refl _) ?_;intro w g D h;let d:=(at' b.2.2 g.2)
  refine aI<|Q5 Z<|bD Z<|bY 0 Z<|eL (iZ Z) Z<|cX Z<|aM<|eF h Z (λh=>?_) λh=>?_
  .refine bK<|aI<|cC (λe=>DT g (bG (mQ U b) w) e=some r) (λe t=>[(1,vP A),(3,vI (e)),(4,vI (g.2))]) (λe t=>[p]) ?_ ?_
   .refine aU<|Q5 Z<|bD Z<|bY 0 Z<|aA Z<|eX h λj h=>aC (a_ Z Z (iZ Z) Z Z j) Z<|aC (cB Z Z Z Z Z) Z<|xE (v:=q) (ds:=b.2.2) dN (iZ Z) λi=>let n:=(at' i g.2);?_
    refine jY (iQ ((yY (fR (f:=bJ) (iZ Z) j.1 j.2)):aQ _ _ (Sl aS (n.1) (d.2.1))))<|aC (sZ (gv:=λx=>x.1) Z (iZ Z) Z Z Z qB j) Z<|eL (cG Z) Z<|cP Z<|Q4 Z<|Q3 Z<|aU<|Dp (B:=Unit) (sW b g (bG (mQ U b) w)) (λa o=>[(1,Value.pointer (some ⟨A,0,none⟩)),(3,vI (a.1)),(4,vI (g.2)),(5,vI (a.2))]) (λa o=>[p]) (λa o=>[Sl aS (n.1) (d.2.1),Rz eQ q i b.2.2,Pw bJ i b.2.2,Sl aN z b.2.1,Sl aJ q b.2.2]) ((wI .i64 (g.1+((d.2.1).length:Int))),(0:Int)) () h SF (aW.refl _) (aE.refl _ _) ?_;intro E a o h;refine aI<|Q5 Z<|bD Z<|bY 0 Z<|aA Z<|eX h λk h=>aC (a_ Z Z (Bl Z) Z Z k) Z<|aC (cB Z Z Z Z Z) Z<|jY (iQ ((yZ (fR (f:=bJ) (FA Z) k.1 k.2)):aQ _ _ (Sl dZ (n.2) (d.2.2))))<|aC (sZ (gv:=λx=>x.2) Z (FA Z) Z Z Z kD k) Z<|eL (cG Z) Z<|cX Z<|aM<|eF h Z (λh=>?_) λh=>?_
    .exact bK<|aI<|aU<|aL<|aA Z<|bD Z<|bY 0 Z<|aA Z<|eX h λu h=>aC (a_ Z Z (MU Z) Z Z u) Z<|aC (cB Z Z Z Z Z) Z<|aC (sZ (gv:=λx=>x.2) Z (FA Z) Z Z Z kD u) Z<|aA Z<|eX h λm h=>aC (a_ Z Z (cG Z) Z Z m) Z<|aC (cB Z Z Z Z Z) Z<|xE (v:=(n.2)) (ds:=(d.2.2)) nF (cG Z) λy=>jY (iQ ((fR (f:=lT) (iZ Z) m.1 m.2):aQ _ _ (Sl aS (at' y a.2) ((at' (d.2.2) a.2).2))))<|aC (sZ (gv:=λx=>x) Z (iZ Z) Z Z Z AF m) Z<|eL (cG Z) Z<|cP Z<|aB Z<|dK<|jZ<|aL<|aA Z<|cP Z<|Q4 Z<|fI ((wI .i64 (a.1+(((at' (d.2.2) a.2).2).length:Int))),(wI .i64 (a.2+(1:Int)))) () h SF (aW.refl _) (gK [4,5,6,7,8] Z)
    exact uS<|gY<|gY<|BC<|jZ<|bQ (a.1) () h SF (aW.refl _) (gK [4,5] Z)
   intro e t h;unfold DT at h;exact aL<|aA Z<|cP Z<|Q4 Z<|Ac (e,(wI .i64 (g.2+(1:Int)))) () h SF Z
  exact fK<|bQ (g.1) () h SF .nil (aE.refl _ _)
 intro s C h;unfold DR at h;refine Q5 Z<|Q4 Z<|aP ?_;cases h;exact gM Z
def AS (a:Int):V1 (Int):=
 some (a)
def pS (c:dB) (a:dJ) (b:dW->V1 (Int)):V1 (Int):=
 if a.2<(c.2.length:Int)then(ck (0<=a.2/\a.2<(c.2.length:Int)) (b ((max a.1 ((at' c.2 a.2).length:Int)),(wI .i64 (a.2+(1:Int))))))else(AS (a.1))
def mW (a:dB):V1 (Int):=
 bG (pS a) U ((1:Int),(0:Int))
theorem Vm:aX prog 16:=call16
theorem FQ {e:dB} (f g:V0) (n:oB) (r:Int) (h:mW U e=some r):
  aZ prog 16 #[Value.agg #[f,g]] [Sl cQ f e.1,S2 aS g n e.2] (λx:Unit=>vI (r)) (λx l=>l) (λ_ l=>l):=by
 refine aZ.of func16 Z ntmps16 Z λc=>?_;unfold mW at h;refine aT<|aK (aO.box (cs:=[f,g]) Z Z) Z λi=>Q4 Z<|Q3 Z<|aI<|cC (λd=>AS d=some r) (λd j=>[(3,vI (d))]) (λd j=>[]) ?_ ?_
 .refine Q3 Z<|aU<|eP (pS e) (λb k=>[(1,vP i),(3,vI (b.1)),(4,vI (b.2))]) (λb k=>[bU i [f,g] 29]) ((1:Int),(0:Int)) () h SF (aW.refl _) ?_;intro m b k h;refine aI<|Q5 Z<|bD Z<|bY 0 Z<|aC (mB Z (iZ Z) Z) Z<|cX Z<|aM<|eF h Z (λh=>?_) λh=>?_
  .exact bK<|aI<|aU<|aL<|aA Z<|bD Z<|bY 0 Z<|aA Z<|eX h λa h=>aC (fJ Z Z (iZ Z) Z Z a) Z<|aC (eI Z (iZ Z) Z Z a) Z<|aC (dO Z (zB9 (iZ Z) a.1 a.2) Z) Z<|aC (Gm Z Z) Z<|aB Z<|dK<|jZ<|aL<|aA Z<|cP Z<|Q4 Z<|Ac ((max b.1 ((at' e.2 b.2).length:Int)),(wI .i64 (b.2+(1:Int)))) () h SF Z
  exact fK<|bQ (b.1) () h SF .nil (aE.refl _ _)
 intro d j h;unfold AS at h;refine Q5 Z<|Q4 Z<|aP ?_;cases h;exact gM Z
def qP (U:Nat) (a:cJ):V1 V4:=
 some (decide ((a.length:Int)<=(250:Int)))
theorem aad:aX prog 83:=call83
theorem Hu {a:cJ} (b:V0) (r:V4) (h:qP U a=some r):
  aZ prog 83 #[b] [Sl aS b a] (λx:Unit=>vB (r)) (λx l=>l) (λ_ l=>l):=by
 refine aZ.of func83 Z ntmps83 Z λc=>?_;unfold qP at h;refine Q3 Z<|Q5 Z<|eL (cG Z) Z<|aC (nH Z Z) Z<|Q4 Z<|aP ?_;cases h;exact gM Z
def sL (a:Unit):V1 V4:=
 some (true)
def sM (b:Int) (a:(Int)->V1 V4) (c:Unit):V1 V4:=
 a (wI .i64 (b+(1:Int)))
def pD (e:eY) (b:Int) (c:(Int)->V1 V4) (a:Int) (d:(Int)->V1 V4):V1 V4:=
 if a<(((at' e.2.2 b).2.2).length:Int)then(ck (0<=a/\a<(((at' e.2.2 b).2.2).length:Int)) (Option.bind (qP U ((at' ((at' e.2.2 b).2.2) a).2)) λf=>(if(!f)=true then(some (false))else(d (wI .i64 (a+(1:Int)))))))else(sM b c (()))
def pC (d:eY) (b:Int) (a:(Int)->V1 V4) (c:V4):V1 V4:=
 if c=true then(some (false))else(bG (pD U d b a) U (0:Int))
def iK (c:eY) (a:Int) (b:(Int)->V1 V4):V1 V4:=
 if a<(c.2.2.length:Int)then(ck (0<=a/\a<(c.2.2.length:Int)) (if(40:Int)<((ByteArray.size ((at' c.2.2 a).1):Nat):Int)then(pC U c a b (true))else(if(10:Int)<(((at' c.2.2 a).2.2).length:Int)then(pC U c a b (true))else(Option.bind (qP U ((at' c.2.2 a).2.1)) λd=>(pC U c a b ((!d)))))))else(sL (()))
def pB (a:eY) (b:Unit):V1 V4:=
 bG (iK U a) U (0:Int)
def pE (c:eY) (a:Int) (b:(Int)->V1 V4):V1 V4:=
 if a<(c.2.1.length:Int)then(ck (0<=a/\a<(c.2.1.length:Int)) (if(40:Int)<((ByteArray.size ((at' c.2.1 a).1):Nat):Int)then(some (false))else(b (wI .i64 (a+(1:Int))))))else(pB U c (()))
def jK (b:eY) (a:V4):V1 V4:=
 if a=true then(some (false))else(bG (pE U b) U (0:Int))
def pZ (a:eY):V1 V4:=
 if(40:Int)<((ByteArray.size a.1:Nat):Int)then(jK U a (true))else(if(10:Int)<(a.2.1.length:Int)then(jK U a (true))else(jK U a (decide ((16:Int)<(a.2.2.length:Int)))))
theorem agm:aX prog 37:=call37
theorem JN {b:eY} (D q:V0) (r:V4) (h:pZ U b=some r):
  aZ prog 37 #[Value.agg #[vS (b.1),D,q]] [Sl aN D b.2.1,Sl aJ q b.2.2] (λx:Unit=>vB (r)) (λx l=>l) (λ_ l=>l):=by
 refine aZ.of func37 Z ntmps37 Z λc=>aT<|aK (aO.box (cs:=[vS (b.1),D,q]) Z Z) Z λs=>let i:=bU s [vS (b.1),D,q] 25;Q4 Z<|aI<|aI<|cC (λE=>jK U b E=some r) (λE T=>[(1,vP s),(22,vB (E))]) (λE T=>[i]) ?_ ?_
 .refine aL<|bD Z<|bY 0 Z<|aC (BG Z Z) Z<|aC (mA Z Z) Z<|aA Z<|mL h Z (λ_ h=>?_) λ_ h=>?_
  .exact aD Z<|aD Z<|aD Z<|aD Z<|bO Z<|aA Z<|aD Z<|aD Z<|aD Z<|aD Z<|bO Z<|aM<|cF (true) () h SF Z
  refine aF Z (bR Z Z Z Z Z) Z<|aF Z (bX 0 Z Z Z Z Z) Z<|aF Z (dO Z (cG Z) Z) Z<|aF Z (mA Z Z) Z<|bT Z<|aA Z<|mL h Z (λ_ h=>?_) λ_ h=>?_
  .exact aD Z<|aD Z<|aD Z<|aD Z<|bO Z<|aM<|cF (true) () h SF Z
  exact aF Z (bR Z Z Z Z Z) Z<|aF Z (bX 0 Z Z Z Z Z) Z<|aF Z (dO Z (iZ Z) Z) Z<|aF Z (mA Z Z) Z<|bT Z<|aM<|cF (decide ((16:Int)<(b.2.2.length:Int))) () h SF Z
 intro E T h;refine iA h Z (λ_ h=>?_) λ_ h=>?_
 .refine Q3 Z<|aP<|aG ?_;cases h;exact mK Z
 refine bK<|aI<|cC (λN=>pB U b N=some r) (λN V=>[(1,vP s)]) (λN V=>[i]) ?_ ?_
 .refine Q3 Z<|aU<|eP (pE U b) (λo H=>[(1,vP s),(3,vI (o))]) (λo H=>[i]) (0:Int) () h SF (aW.refl _) ?_;intro Y o H h;refine aI<|Q5 Z<|bD Z<|bY 0 Z<|eL (cG Z) Z<|cX Z<|aM<|eF h Z (λh=>?_) λh=>?_
  .refine bK<|aI<|aU<|aT<|bD Z<|bY 0 Z<|aA Z<|eX h λK h=>aC (a_ Z Z (cG Z) Z Z K) Z<|aC (cB Z Z Z Z Z) Z<|aC (fW Z (cG Z) Z Z Z rO K) Z<|aC (BG Z Z) Z<|aC (mA Z Z) Z<|aM<|eF h Z (λh=>?_) λh=>?_
   .refine Q3 Z<|aP<|bB<|aG<|aG<|bB<|aG ?_;cases h;exact mK Z
   exact cZ<|jZ<|aL<|aA Z<|cP Z<|Q4 Z<|Ac (wI .i64 (o+(1:Int))) () h SF Z
  exact fK<|cF () (()) h SF Z
 intro N V h;unfold pB at h;refine aI<|cC (λO=>sL O=some r) (λO W=>[]) (λO W=>[]) ?_ ?_
 .refine Q3 Z<|aU<|eP (iK U b) (λa F=>[(1,vP s),(4,vI (a))]) (λa F=>[i]) (0:Int) () h SF (aW.refl _) ?_;intro P a F h;let C:=(bG (iK U b) P)
  let m:=(at' b.2.2 a)
  refine aI<|Q5 Z<|bD Z<|bY 0 Z<|eL (iZ Z) Z<|cX Z<|aM<|eF h Z (λh=>?_) λh=>?_
  .refine bK<|aI<|cC (λn=>sM a C n=some r) (λn G=>[(1,vP s),(4,vI (a))]) (λn G=>[i]) ?_ ?_
   .refine aU<|aT<|bD Z<|bY 0 Z<|aA Z<|eX h λk h=>aC (a_ Z Z (iZ Z) Z Z k) Z<|xE (v:=q) (ds:=b.2.2) dN (iZ Z) λd=>let g:=(at' d a);let A:=Sl dZ (g.2) (m.2.2);let z:=Sl aS (g.1) (m.2.1);?_
    refine jY (iQ ((yY (fR (f:=bJ) (iZ Z) k.1 k.2)):aQ _ _ (z)))<|jY (iQ ((yZ (fR (f:=bJ) (FA Z) k.1 k.2)):aQ _ _ (A)))<|aC (sS (cs:=[vS (m.1),g.1,g.2]) Z (FA Z) Z Z Z Z k) Z<|aK (aO.alloc (cs:=vD3) Z Z) Z λu=>let L:=bU u [vS (m.1),g.1,g.2] 41;eH (Know.one ((iZ Z))) λI=>eH (Know.one ((cG Z))) λJ=>cO 0 (vs:=[vS ((at' b.2.2 a).1),(at' d a).1,(at' d a).2]) Z Z (cI Z (cI I (cI J Z))) Z Z Z<|aM<|aI<|aI<|xD (B:=Unit) (λj=>pC U b a C j=some r) (λj w=>[(1,Value.pointer (some ⟨s,0,none⟩)),(4,vI (a)),(5,Value.pointer (some ⟨u,0,none⟩)),(65,vB (j))]) (λj w=>[L,i]) (λj w=>[A,z,Rz eQ q d b.2.2,Pw bJ d b.2.2,Sl aN D b.2.1,Sl aJ q b.2.2]) ?_ ?_
    .refine aL<|bD Z<|bY 0 Z<|aC (BG Z Z) Z<|aC (mA Z Z) Z<|aA Z<|mL h Z (λ_ h=>?_) λ_ h=>?_
     .exact aD Z<|aD Z<|aD Z<|aD Z<|bO Z<|aA Z<|aD Z<|aD Z<|aD Z<|aD Z<|bO Z<|aM<|cF (true) () h SF Z
     refine aF Z (bR Z Z Z Z Z) Z<|aF Z (bX 0 Z Z Z Z Z) Z<|aF Z (dO Z (cG Z) Z) Z<|aF Z (mA Z Z) Z<|bT Z<|aA Z<|mL h Z (λ_ h=>?_) λ_ h=>?_
     .exact aD Z<|aD Z<|aD Z<|aD Z<|bO Z<|aM<|cF (true) () h SF Z
     exact aF Z (bR Z Z Z Z Z) Z<|aF Z (bX 0 Z Z Z Z Z) Z<|dG h λM S h=>fU Z (zB8 aad (Hu U (g.1) M S) Z (gK [1] Z)) Z λab=>aF Z (fF Z) Z<|bT Z<|aM<|cF ((!M)) () h SF Z
    intro j w h;refine iA h Z (λ_ h=>?_) λ_ h=>?_
    .refine Q3 Z<|aP<|aG<|bB<|aG<|aG<|bB<|aG ?_;cases h;exact mK Z
    refine bK<|Q3 Z<|aU<|Dp (B:=Unit) (pD U b a C) (λe y=>[(1,vP s),(4,vI (a)),(5,vP u),(6,vI (e))]) (λe y=>[L,i]) (λe y=>[A,z,Rz eQ q d b.2.2,Pw bJ d b.2.2,Sl aN D b.2.1,Sl aJ q b.2.2]) (0:Int) () h SF (aW.refl _) (aE.refl _ _) ?_;intro X e y h;refine aI<|Q5 Z<|bD Z<|bY 0 Z<|eL (cG Z) Z<|cX Z<|aM<|eF h Z (λh=>?_) λh=>?_
    .refine bK<|aI<|aU<|aT<|bD Z<|bY 0 Z<|aA Z<|eX h λp h=>aC (a_ Z Z (cG Z) Z Z p) Z<|aC (cB Z Z Z Z Z) Z<|xE (v:=(g.2)) (ds:=(m.2.2)) nF (cG Z) λt=>jY (iQ ((fR (f:=lT) (iZ Z) p.1 p.2):aQ _ _ (Sl aS (at' t e) ((at' (m.2.2) e).2))))<|aC (sZ (gv:=λx=>x) Z (iZ Z) Z Z Z AF p) Z<|dG h λQ R h=>aK (zB8 aad (Hu U (at' t e) Q R) Z (gK [0] Z)) Z λaa=>aC (fF Z) Z<|aM<|iA h Z (λ_ h=>?_) λ_ h=>?_
     .refine Q3 Z<|aP<|bB<|aG<|aG<|bB<|bB<|aG<|aG<|bB<|aG ?_;cases h;exact mK Z
     exact cZ<|jZ<|aL<|aA Z<|cP Z<|Q4 Z<|fI (wI .i64 (e+(1:Int))) () h SF (aW.refl _) (gK [3,4,5,6,7,8] Z)
    exact uS<|gY<|gY<|BC<|jZ<|bQ () (()) h SF (aW.ix [1] Z Z) (gK [4,5] Z)
   intro n G h;unfold sM at h;exact aL<|aA Z<|cP Z<|Q4 Z<|Ac (wI .i64 (a+(1:Int))) () h SF Z
  exact fK<|bQ () (()) h SF .nil (aE.refl _ _)
 intro O W h;unfold sL at h;refine Q3 Z<|aP ?_;cases h;exact gM Z
def wJ (a:eY) (b:dB) (e:V4):V1 V4:=
 if e=true then(some (false))else(Option.bind (mW U ((b.1,b.2))) λd=>(Option.bind (uY U ((a.1,a.2.1,a.2.2))) λc=>(some (decide ((wI .i64 ((wI .i64 ((wI .i64 (c*(b.2.length:Int)))*d))*d))<=(100000:Int))))))
def BW (a:eY) (b:dB):V1 V4:=
 Option.bind (pZ U ((a.1,a.2.1,a.2.2))) λc=>(if(!c)=true then(wJ U a b (true))else(Option.bind (jH U ((b.1,b.2))) λd=>(wJ U a b ((!d)))))
theorem agf:aX prog 14:=call14
theorem So (U:Nat) {b:eY} {k:dB} (d e f g:V0) (t:oB) (r:Bool) (h:BW U b k=some r):
  aZ prog 14 #[Value.agg #[vS (b.1),d,e],Value.agg #[f,g]] [Sl aN d b.2.1,Sl aJ e b.2.2,Sl cQ f k.1,S2 aS g t k.2] (λx:Unit=>vB (r)) (λx l=>l) (λ_ l=>l):=by
 refine aZ.of func14 Z ntmps14 Z λc=>?_;refine aT<|aK (aO.box (cs:=[vS (b.1),d,e]) Z Z) Z λu=>aK (aO.box (cs:=[f,g]) Z Z) Z λv=>aB Z<|aM<|aI<|aI<|cC (λi=>wJ U b k i=some r) (λi w=>[(2,vP u),(3,vP v),(13,vB (i))]) (λi w=>[bU v [f,g] 29,bU u [vS (b.1),d,e] 25]) ?_ ?_
 .refine aL<|fQ 1 Z<|dG h λn p h=>aK (zB8 agm (JN U d e n p) Z (gK [0,1] Z)) Z λB=>aC (fF Z) Z<|aA Z ?_;refine iO (by exact rfl) (by exact rfl) (λa=>?_) (λa=>?_)
  .have h:=Bt a h;refine aD Z<|aD Z<|aD Z<|bO Z<|aM ?_;exact cF (true) () h SF Z
  have h:=w_ a h;refine aF Z (iC 0 Z Z Z Z) Z<|dG h λj q h=>fU Z (zB8 agn (Lv U f g t j q) Z (gK [2,3] Z)) Z λC=>aF Z (fF Z) Z<|bT Z<|aM ?_;exact cF ((!j)) () h SF Z
 intro i w h;refine iA h Z (λ_ h=>?_) λ_ h=>?_
 .refine aT<|aB Z<|aM<|aP<|aG ?_;cases h;exact mK Z
 refine bK<|aT<|fQ 0 Z<|dG h λy A h=>aK (zB8 Vm (FQ U f g t y A) Z (gK [2,3] Z)) Z λD=>aB Z<|aM<|aI ?_;refine xP [0,1,0,4,12,31,0,127,0,511,1023,2047] 9 mixedOrders ?_;refine qY 1 Z<|dG h λm o h=>zBa Z Z Z (zB8 ZY (Lw U d e m o) Z (gK [0,1] Z)) Z (λs=>(y_ [] Z)) λs=>iD Z (bR Z Z Z Z Z)<|bI Z (aW.cons 0 Z .nil) .nil (bX 0 Z Z Z Z Z) (aR.h (aW.ix [0] Z Z) .nil aR.z)<|bI Z .nil (jP 3 Z) (mB Z (cG Z) Z) (aR.h .nil (jP 3 Z) aR.z)<|iD Z (C_ Z Z)<|iD Z (fN Z)<|iD Z (C_ Z Z)<|iD Z (fN Z)<|bS 9 Z Z<|aC (C_ Z Z) Z<|aC (nH Z Z) Z<|aB Z<|aM<|aP ?_;cases h;exact mK Z
def tA (a:Unit):V1 V4:=
 some (true)
def p_ (c:fE) (a:Int) (b:(Int)->V1 V4):V1 V4:=
 if a<(c.length:Int)then(ck (0<=a/\a<(c.length:Int)) (if(10:Int)<((at' c a).length:Int)then(some (false))else(b (wI .i64 (a+(1:Int))))))else(tA (()))
def uX (a:fE):V1 V4:=
 if(30:Int)<(a.length:Int)then(some (false))else(bG (p_ a) U (0:Int))
theorem agh:aX prog 17:=call17
theorem Ky {e:fE} (f:V0) (j:nQ) (r:V4) (h:uX U e=some r):
  aZ prog 17 #[f] [S2 cQ f j e] (λx:Unit=>vB (r)) (λx l=>l) (λ_ l=>l):=by
 refine aZ.of func17 Z ntmps17 Z λc=>Q3 Z<|aI<|Q5 Z<|aC (mB Z (cG Z) Z) Z<|aC (mA Z Z) Z<|aM<|eF h Z (λh=>?_) λh=>?_
 .refine Q3 Z<|aP<|aG ?_;cases h;exact gM Z
 refine bK<|aI<|cC (λb=>tA b=some r) (λb g=>[]) (λb g=>[]) ?_ ?_
 .refine Q3 Z<|aU<|eP (p_ e) (λd i=>[(0,f),(3,vI (d))]) (λd i=>[]) (0:Int) () h SF (aW.refl _) ?_;intro k d i h;refine aI<|Q5 Z<|aA Z<|aC (mB Z (cG Z) Z) Z<|cX Z<|aM<|eF h Z (λh=>?_) λh=>?_
  .refine bK<|aI<|aU<|Q5 Z<|aA Z<|eX h λa h=>aC (fJ Z Z (cG Z) Z Z a) Z<|aC (eI Z (cG Z) Z Z a) Z<|aC (dO Z (zB9 (cG Z) a.1 a.2) Z) Z<|aC (mA Z Z) Z<|aM<|eF h Z (λh=>?_) λh=>?_
   .refine Q3 Z<|aP<|bB<|aG<|aG<|bB<|aG ?_;cases h;exact gM Z
   exact cZ<|jZ<|aL<|aA Z<|cP Z<|Q4 Z<|Ac (wI .i64 (d+(1:Int))) () h SF Z
  exact fK<|cF () (()) h SF Z
 intro b g h;unfold tA at h;refine Q3 Z<|aP ?_;cases h;exact gM Z
def wX (a:Int):V1 (Int):=
 some (a)
def wY (c:dB) (a:dJ) (b:dW->V1 (Int)):V1 (Int):=
 if a.2<(c.1.length:Int)then(ck (0<=a.2/\a.2<(c.1.length:Int)) (b ((max a.1 (at' c.1 a.2)),(wI .i64 (a.2+(1:Int))))))else(wX (a.1))
def tU (a:dB):V1 (Int):=
 bG (wY a) U ((0:Int),(0:Int))
theorem adc:aX prog 130:=call130
theorem MB {e:dB} (f g:V0) (n:oB) (r:Int) (h:tU U e=some r):
  aZ prog 130 #[Value.agg #[f,g]] [Sl cQ f e.1,S2 aS g n e.2] (λx:Unit=>vI (r)) (λx l=>l) (λ_ l=>l):=by
 refine aZ.of func130 Z ntmps130 Z λc=>?_;unfold tU at h;refine aT<|aK (aO.box (cs:=[f,g]) Z Z) Z λi=>Q4 Z<|Q3 Z<|aI<|cC (λb=>wX b=some r) (λb j=>[(3,vI (b))]) (λb j=>[]) ?_ ?_
 .refine Q3 Z<|aU<|eP (wY e) (λa k=>[(1,vP i),(3,vI (a.1)),(4,vI (a.2))]) (λa k=>[bU i [f,g] 29]) ((0:Int),(0:Int)) () h SF (aW.refl _) ?_;intro m a k h;refine aI<|Q5 Z<|bD Z<|bY 0 Z<|eL (cG Z) Z<|cX Z<|aM<|eF h Z (λh=>?_) λh=>?_
  .exact bK<|aI<|aU<|aL<|aA Z<|bD Z<|bY 0 Z<|aA Z<|eX h λd h=>aC (a_ Z Z (cG Z) Z Z d) Z<|aC (eC Z (cG Z) Z Z Z gC d) Z<|aC (Gm Z Z) Z<|aB Z<|dK<|jZ<|aL<|aA Z<|cP Z<|Q4 Z<|Ac ((max a.1 (at' e.1 a.2)),(wI .i64 (a.2+(1:Int)))) () h SF Z
  exact fK<|bQ (a.1) () h SF .nil (aE.refl _ _)
 intro b j h;unfold wX at h;refine Q5 Z<|Q4 Z<|aP ?_;cases h;exact gM Z
def u_ (b:eY) (c:dB) (d a:Int):V1 dW:=
 ck (0<=a/\a<(b.2.1.length:Int)) (if((at' b.2.1 a).2.1)=(2:Int)then(some ((0:Int),(1:Int)))else(if((at' b.2.1 a).2.1)=(3:Int)then(ck (0<=d/\d<(c.2.length:Int)) (some ((-1:Int),(wI .i64 (((at' c.2 d).length:Int) - (1:Int))))))else(ck (0<=a/\a<(b.2.1.length:Int)) (ck (0<=a/\a<(b.2.1.length:Int)) (ck (0<=a/\a<(b.2.1.length:Int)) (ck (0<=a/\a<(b.2.1.length:Int)) (Option.bind (tU U ((c.1,c.2))) λe=>(some (((at' b.2.1 a).2.2.1),(wI .i64 ((wI .i64 (((at' b.2.1 a).2.2.2.1)+(wI .i64 (((at' b.2.1 a).2.2.2.2.1)*(c.2.length:Int)))))+(wI .i64 (((at' b.2.1 a).2.2.2.2.2)*e)))))))))))))
theorem aae:aX prog 85:=call85
theorem Lz (U:Nat) {b:eY} {g:dB} {t u:Int} (j k e f:V0) (v:oB) (r:dJ) (h:u_ U b g t u=some r):
  aZ prog 85 #[Value.agg #[vS (b.1),j,k],Value.agg #[e,f],vI (t),vI (u)] [Sl aN j b.2.1,Sl aJ k b.2.2,Sl cQ e g.1,S2 aS f v g.2] (λx:Unit=>Value.tuple #[vI (r.1),vI (r.2)]) (λx l=>l) (λ_ l=>l):=by
 refine aZ.of func85 Z ntmps85 Z λc=>?_;refine aT<|aK (aO.box (cs:=[vS (b.1),j,k]) Z Z) Z λw=>aK (aO.box (cs:=[e,f]) Z Z) Z λy=>aB Z<|aB Z<|aM<|aI<|aT<|bD Z<|bY 1 Z<|aA Z<|eX h λo h=>aC (a_ Z Z (cG Z) Z Z o) Z<|aC (cB Z Z Z Z Z) Z<|aC (fW Z (cG Z) Z Z Z nU o) Z<|aM<|aU<|aT<|bP Z<|aB Z<|aM ?_;refine eF h Z (λh=>?_) λh=>?_
 .refine aT<|aB Z<|aB Z<|aM<|aP<|bB<|aG ?_;cases h;exact gA () Z Z (RV.tmp Z) (RV.tmp Z) .nil aE.nil
 refine aT<|bP Z<|aB Z<|aM ?_;refine eF h Z (λh=>?_) λh=>?_
 .refine aI ?_;refine xP [0,1,0,7,15,31,63,0,255] 8 mixedOrders ?_;refine dA Z<|iH 0 Z<|bE Z<|eX h λd h=>bI Z .nil (jP 3 Z) (fJ Z Z (cG Z) Z Z d) aR.z<|bI Z .nil (jP 3 Z) (eI Z (cG Z) Z Z d) aR.z<|bI Z .nil (jP 3 Z) (dO Z (zB9 (cG Z) d.1 d.2) Z) aR.z<|iD Z (kT Z Z)<|iD Z (BE Z)<|bS 8 Z Z<|aB Z<|aM<|aP<|bB<|aG ?_;cases h;exact gA () Z Z (RV.tmp Z) (RV.tmp Z) .nil aE.nil
 refine cZ<|jZ<|aI ?_;refine xP [0,1,0,7,15,31,0,64,0,448,960,1984,0,4096,0,28672,61440,126976,0,262144,786432,2093056,4194240,0,8388608,0,58720256,125829120,260046848,0,536870912,2139095040,4294967232,1610612799,17179869183] 34 mixedOrders ?_;refine dA Z<|iH 1 Z<|bE Z<|eX h λp h=>bI Z .nil (jP 0 Z) (a_ Z Z (cG Z) Z Z p) aR.z<|iD Z (cB Z Z Z Z Z)<|bI Z .nil (jP 0 Z) (fW Z (cG Z) Z Z Z Iv p) aR.z<|dA Z<|iH 1 Z<|bE Z<|eX h λq h=>bI Z .nil (jP 0 Z) (a_ Z Z (cG Z) Z Z q) aR.z<|iD Z (cB Z Z Z Z Z)<|bI Z .nil (jP 0 Z) (fW Z (cG Z) Z Z Z Iw q) aR.z<|dA Z<|iH 1 Z<|bE Z<|eX h λs h=>bI Z .nil (jP 0 Z) (a_ Z Z (cG Z) Z Z s) aR.z<|iD Z (cB Z Z Z Z Z)<|bI Z .nil (jP 0 Z) (fW Z (cG Z) Z Z Z Ix s) aR.z<|dA Z<|iH 0 Z<|bI Z .nil (jP 3 Z) (mB Z (cG Z) Z) aR.z<|iD Z (C_ Z Z)<|iD Z (BD Z Z)<|dA Z<|iH 1 Z<|bE Z<|eX h λa h=>bI Z .nil (jP 0 Z) (a_ Z Z (cG Z) Z Z a) aR.z<|iD Z (cB Z Z Z Z Z)<|bI Z .nil (jP 0 Z) (fW Z (cG Z) Z Z Z Iy a) aR.z<|qY 0 Z<|dG h λi m h=>zBa Z Z Z (zB8 adc (MB U e f v i m) Z (gK [2,3] Z)) Z (λn=>(y_ [([],[0]),([],[0]),([1],[]),([],[3]),([0],[]),([],[0]),([],[0]),([1],[]),([],[0]),([],[0]),([1],[]),([],[0]),([],[0]),([1],[])] Z)) λn=>iD Z (C_ Z Z)<|iD Z (BD Z Z)<|iD Z (BE Z)<|bS 34 Z Z<|aB Z<|aM<|aP ?_;cases h;exact gA () Z Z (RV.tmp Z) (RV.tmp Z) .nil aE.nil
def DY (a:Unit):V1 (Int):=
 some (0:Int)
def DZ (b:Int) (a:(Int)->V1 (Int)) (c:V4):V1 (Int):=
 if c=true then(some (9:Int))else(a (wI .i64 (b+(1:Int))))
def wL (c:eY) (f:dB) (a:Int) (b:(Int)->V1 (Int)):V1 (Int):=
 if a<(c.2.1.length:Int)then(Option.bind (u_ U ((c.1,c.2.1,c.2.2)) ((f.1,f.2)) (0:Int) a) λd=>(ck (0<=a/\a<(c.2.1.length:Int)) (if((at' c.2.1 a).2.1)=(1:Int)then(Option.bind (uZ U (wI .i64 (d.2 - d.1)) (0:Int) (4095:Int)) λe=>(DZ a b ((!e))))else(DZ a b (false)))))else(DY (()))
def Cb (a:eY) (b:dB):V1 (Int):=
 Option.bind (Ao U ((a.1,a.2.1,a.2.2))) λc=>(if(!c)=true then(some (8:Int))else(Option.bind (mO U ((b.1,b.2))) λd=>(if(!d)=true then(some (1:Int))else(bG (wL U a b) U (0:Int)))))
theorem agM:aX prog 84:=call84
theorem Ss {e:eY} {p:dB} (i j f g:V0) (A:oB) (r:Int) (h:Cb U e p=some r):
  aZ prog 84 #[Value.agg #[vS (e.1),i,j],Value.agg #[f,g]] [Sl aN i e.2.1,Sl aJ j e.2.2,Sl cQ f p.1,S2 aS g A p.2] (λx:Unit=>vI (r)) (λx l=>l) (λ_ l=>l):=by
 refine aZ.of func84 Z ntmps84 Z λc=>aT<|aK (aO.box (cs:=[vS (e.1),i,j]) Z Z) Z λu=>let q:=bU u [vS (e.1),i,j] 25;aK (aO.box (cs:=[f,g]) Z Z) Z λt=>Q4 Z<|aI<|aT<|fQ 1 Z<|dG h λB D h=>aK (zB8 ada (PU U i j B D) Z (gK [0,1] Z)) Z λH=>aC (fF Z) Z<|aM ?_
 refine iA h Z (λ_ h=>?_) λ_ h=>?_
 .refine Q3 Z<|aP<|aG ?_;cases h;exact mK Z
 refine bK<|aI<|aT<|fQ 0 Z<|dG h λC E h=>aK (zB8 adb (PO U f g A C E) Z (gK [2,3] Z)) Z λI=>aC (fF Z) Z<|aM<|iA h Z (λ_ h=>?_) λ_ h=>?_
 .refine Q3 Z<|aP<|aG ?_;cases h;exact mK Z
 refine bK<|aI<|cC (λd=>DY d=some r) (λd k=>[]) (λd k=>[]) ?_ ?_
 .refine Q3 Z<|aU<|eP (wL U e p) (λa m=>[(2,vP u),(3,vP t),(5,vI (a))]) (λa m=>[bU t [f,g] 29,q]) (0:Int) () h SF (aW.refl _) ?_;intro v a m h;refine aI<|Q5 Z<|bD Z<|bY 1 Z<|eL (cG Z) Z<|cX Z<|aM<|eF h Z (λh=>?_) λh=>?_
  .refine bK<|aI<|aU<|aT<|fQ 1 Z<|fQ 0 Z<|aA Z<|dG h λw y h=>aK (zB8 aae (Lz U i j f g A w y) Z (gK [0,1,2,3] Z)) Z λF=>aA Z<|fL Z<|fL Z<|aB Z<|Q4 Z<|aI<|cC (λb=>DZ a (bG (wL U e p) v) b=some r) (λb n=>[(2,vP u),(3,vP t),(5,vI (a)),(41,vB (b))]) (λb n=>[bU t [f,g] 29,q]) ?_ ?_
   .refine aL<|bD Z<|bY 1 Z<|aA Z<|eX h λo h=>aC (a_ Z Z (cG Z) Z Z o) Z<|aC (cB Z Z Z Z Z) Z<|aC (fW Z (cG Z) Z Z Z nU o) Z<|bP Z<|aA Z<|mL h Z (λ_ h=>?_) λ_ h=>?_
    .exact bH Z<|bH Z<|aF Z (kT Z Z) Z<|dG h λs z h=>fU Z (zB8 L_ (Dm U s z) Z .nil) Z λG=>aF Z (fF Z) Z<|bO Z<|aM<|cF ((!s)) () h SF Z
    exact aD Z<|aD Z<|aD Z<|aD Z<|aD Z<|bT Z<|aM<|cF (false) () h SF Z
   intro b n h;refine iA h Z (λ_ h=>?_) λ_ h=>?_
   .refine Q3 Z<|aP<|bB<|aG<|aG<|bB<|aG ?_;cases h;exact mK Z
   exact cZ<|jZ<|aL<|aA Z<|cP Z<|Q4 Z<|Ac (wI .i64 (a+(1:Int))) () h SF Z
  exact fK<|bQ () (()) h SF .nil (aE.refl _ _)
 intro d k h;unfold DY at h;refine Q3 Z<|aP ?_;cases h;exact gM Z
def Cr (a:Unit):V1 (Int):=
 some (0:Int)
def Cs (b:Int) (a:(Int)->V1 (Int)) (c:Unit):V1 (Int):=
 a (wI .i64 (b+(1:Int)))
def yM (g:eY) (i:dB) (e:fE) (a:Int) (c:(Int)->V1 (Int)) (b:Int) (d:(Int)->V1 (Int)):V1 (Int):=
 ck (0<=a/\a<(e.length:Int)) (if b<((at' e a).length:Int)then(Option.bind (u_ U ((g.1,g.2.1,g.2.2)) ((i.1,i.2)) a b) λf=>(ck (0<=a/\a<(e.length:Int)) (ck (0<=b/\b<((at' e a).length:Int)) (Option.bind (uZ U (at' (at' e a) b) f.1 f.2) λh=>(if(!h)=true then(some (10:Int))else(d (wI .i64 (b+(1:Int)))))))))else(Cs a c (())))
def rH (d:eY) (e:dB) (c:fE) (a:Int) (b:(Int)->V1 (Int)):V1 (Int):=
 if a<(c.length:Int)then(ck (0<=a/\a<(c.length:Int)) (if((at' c a).length:Int)≠(d.2.1.length:Int)then(some (10:Int))else(bG (yM U d e c a b) U (0:Int))))else(Cr (()))
def Ap (a:eY) (b:dB) (c:fE):V1 (Int):=
 Option.bind (Cb U ((a.1,a.2.1,a.2.2)) ((b.1,b.2))) λd=>(if d≠(0:Int)then(some (d))else(if(c.length:Int)≠(b.2.length:Int)then(some (10:Int))else(bG (rH U a b c) U (0:Int))))
theorem ago:aX prog 39:=call39
theorem PY (U:Nat) {i:eY} {y:dB} {E:fE} (n o p q:V0) (J:oB) (A:V0) (Q:nQ) (r:Int) (h:Ap U i y E=some r):
  aZ prog 39 #[Value.agg #[vS (i.1),n,o],Value.agg #[p,q],A] [Sl aN n i.2.1,Sl aJ o i.2.2,Sl cQ p y.1,S2 aS q J y.2,S2 cQ A Q E] (λx:Unit=>vI (r)) (λx l=>l) (λ_ l=>l):=by
 let m:=(rH U i y E)
 refine aZ.of func39 Z ntmps39 Z λc=>?_;refine aT<|aK (aO.box (cs:=[vS (i.1),n,o]) Z Z) Z λC=>let j:=bU C [vS (i.1),n,o] 25;aK (aO.box (cs:=[p,q]) Z Z) Z λD=>let k:=bU D [p,q] 29;aB Z<|aM<|aI<|aT<|fQ 1 Z<|fQ 0 Z<|dG h λM N h=>aK (zB8 agM (Ss U n o p q J M N) Z (gK [0,1,2,3] Z)) Z λR=>aB Z<|aM<|aT<|aA Z<|lK Z<|aM ?_
 refine eF h Z (λh=>?_) λh=>?_
 .refine aT<|aA Z<|aB Z<|aM<|aP<|aG ?_;cases h;exact mK Z
 refine bK<|aI<|aT<|aA Z<|aC (mB Z (Bl Z) Z) Z<|bD Z<|bY 0 Z<|aC (mB Z (EQ Z) Z) Z<|lK Z<|aM ?_;refine eF h Z (λh=>?_) λh=>?_
 .refine aT<|aB Z<|aM<|aP<|aG ?_;cases h;exact mK Z
 refine bK<|aI<|cC (λB=>Cr B=some r) (λB K=>[]) (λB K=>[]) ?_ ?_
 .refine aT<|aB Z<|aM<|aU<|eP m (λa s=>[(2,A),(3,vP C),(4,vP D),(8,vI (a))]) (λa s=>[k,j]) (0:Int) () h SF (aW.refl _) ?_;intro w a s h;refine aI<|aT<|aA Z<|aA Z<|aC (mB Z (Bl Z) Z) Z<|cX Z<|aM ?_;refine eF h Z (λh=>?_) λh=>?_
  .refine bK<|aI<|cC (λd=>Cs a (bG m w) d=some r) (λd t=>[(2,A),(3,vP C),(4,vP D),(8,vI (a))]) (λd t=>[k,j]) ?_ ?_
   .refine aU<|aI<|aI ?_;refine xP [0,0,3,7,15,0,32,96,255] 8 mixedOrders ?_;refine bE Z<|bE Z<|eX h λf h=>bI Z .nil (jP 4 Z) (fJ Z Z (cG Z) Z Z f) aR.z<|bI Z .nil (jP 4 Z) (eI Z (cG Z) Z Z f) aR.z<|bI Z .nil (jP 4 Z) (dO Z (zB9 (cG Z) f.1 f.2) Z) aR.z<|dA Z<|iH 1 Z<|bI Z .nil (jP 0 Z) (dO Z (cG Z) Z) aR.z<|bS 8 Z Z<|lK Z<|aM ?_;refine eF h Z (λh=>?_) λh=>?_
    .refine aT<|aB Z<|aM<|aP<|aG<|bB<|aG<|aG<|bB<|aG ?_;cases h;exact mK Z
    refine bK<|aT<|aB Z<|aM<|aU<|eP (yM U i y E a (bG m w)) (λe u=>[(2,A),(3,vP C),(4,vP D),(8,vI (a)),(9,vI (e))]) (λe u=>[k,j]) (0:Int) () h SF (aW.refl _) ?_;intro L e u h;refine aI<|aT<|aA Z<|aA Z<|aA Z<|eX h λg h=>aC (fJ Z Z (Bl Z) Z Z g) Z<|aC (eI Z (Bl Z) Z Z g) Z<|aC (dO Z (zB9 (Bl Z) g.1 g.2) Z) Z<|cX Z<|aM ?_;refine eF h Z (λh=>?_) λh=>?_
    .refine bK<|aI<|aU<|aT<|fQ 1 Z<|fQ 0 Z<|aA Z<|aA Z<|dG h λF H h=>aK (zB8 aae (Lz U n o p q J F H) Z (gK [0,1,2,3] Z)) Z λO=>aA Z<|fL Z<|fL Z<|aB Z<|aB Z<|aM<|aT<|aA Z<|aA Z<|eX h λb h=>aC (fJ Z Z (Bl Z) Z Z b) Z<|aC (eI Z (Bl Z) Z Z b) Z<|aA Z<|eX h λv h=>aC (a_ Z Z (zB9 (Bl Z) b.1 b.2) Z Z v) Z<|aC (eC Z (zB9 (Bl Z) b.1 b.2) Z Z Z gC v) Z<|aA Z<|aA Z<|dG h λG I h=>aK (zB8 L_ (Dm U G I) Z .nil) Z λP=>aC (fF Z) Z<|aM ?_;refine iA h Z (λ_ h=>?_) λ_ h=>?_
     .refine aT<|aB Z<|aM<|aP<|bB<|aG<|aG<|bB<|bB<|aG<|aG<|bB<|aG ?_;cases h;exact mK Z
     refine cZ<|jZ<|aL<|aA Z<|cP Z<|aB Z<|aM ?_;exact Ac (wI .i64 (e+(1:Int))) () h SF Z
    refine uS<|gY<|gY<|BC<|jZ ?_;exact cF () (()) h SF Z
   intro d t h;unfold Cs at h;refine aL<|aA Z<|cP Z<|aB Z<|aM ?_;exact Ac (wI .i64 (a+(1:Int))) () h SF Z
  refine fK ?_;exact bQ () (()) h SF .nil (aE.refl _ _)
 intro B K h;unfold Cr at h;refine aT<|aB Z<|aM<|aP ?_;cases h;exact gM Z
def DJ (a:eY) (b:dB) (c:fE):V1 V4:=
 Option.bind (Ap U ((a.1,a.2.1,a.2.2)) ((b.1,b.2)) c) λd=>(some (decide (d=(0:Int))))
theorem agi:aX prog 18:=call18
theorem PZ {a:eY} {g:dB} {j:fE} (b d e f:V0) (k:oB) (i:V0) (m:nQ) (r:V4) (h:DJ U a g j=some r):
  aZ prog 18 #[Value.agg #[vS (a.1),b,d],Value.agg #[e,f],i] [Sl aN b a.2.1,Sl aJ d a.2.2,Sl cQ e g.1,S2 aS f k g.2,S2 cQ i m j] (λx:Unit=>vB (r)) (λx l=>l) (λ_ l=>l):=by
 refine aZ.of func18 Z ntmps18 Z λc=>aT<|aK (aO.box (cs:=[vS (a.1),b,d]) Z Z) Z λp=>aK (aO.box (cs:=[e,f]) Z Z) Z λq=>Q4 Z<|aT<|fQ 1 Z<|fQ 0 Z<|aA Z<|dG h λn o h=>aK (zB8 ago (PY U b d e f k i m n o) Z (gK [0,1,2,3,4] Z)) Z λs=>bP Z<|Q4 Z<|aP ?_;cases h;exact mK Z
def yP (a:V4):V1 V4:=
 some (a)
def Bm (a:eY) (b:dB) (h:fE) (i:Int):V1 V4:=
 Option.bind (BW U ((a.1,a.2.1,a.2.2)) ((b.1,b.2))) λj=>(if j=true then(Option.bind (uY U ((a.1,a.2.1,a.2.2))) λc=>(Option.bind (mW U ((b.1,b.2))) λd=>(Option.bind (mW U ((b.1,b.2))) λe=>(if(wI .i64 ((wI .i64 ((wI .i64 (c*(b.2.length:Int)))*d))*e))<=(20000:Int)then(Option.bind (uX U h) λf=>(if f=true then(if i<=(40:Int)then(Option.bind (DJ U ((a.1,a.2.1,a.2.2)) ((b.1,b.2)) h) λg=>(yP (g)))else(yP (false)))else(yP (false))))else(yP (false))))))else(yP (false)))
theorem aiP:aX prog 4:=call4
theorem Wk (U:Nat) {m:eY} {q:dB} {I:fE} {J:Int} (i j f g:V0) (o:oB) (p:V0) (G:nQ) (r:Bool) (h:Bm U m q I J=some r):
  aZ prog 4 #[Value.agg #[vS (m.1),i,j],Value.agg #[f,g],p,vI (J)] [Sl aN i m.2.1,Sl aJ j m.2.2,Sl cQ f q.1,S2 aS g o q.2,S2 cQ p G I] (λx:Unit=>vB (r)) (λx l=>l) (λ_ l=>l):=by
 refine aZ.of func4 Z ntmps4 Z λc=>?_;refine aT<|aK (aO.box (cs:=[vS (m.1),i,j]) Z Z) Z λO=>aK (aO.box (cs:=[f,g]) Z Z) Z λP=>aB Z<|aM<|aI<|cC (λk=>yP k=some r) (λk H=>[(8,vB (k))]) (λk H=>[]) ?_ ?_
 .refine xP [0,0,3,7,15,31,15,79,207,511,15,1087,4095,15,11327,32767,65535,131071,262143,524287,1048575,2097151,4194303,8388607,16777215,33554431,67108863,134217727,134217727,134217727,1073741823,2147483647,4294967295] 30 mixedOrders ?_;refine qY 1 Z<|qY 0 Z<|dG h λK L h=>zBa Z Z Z (zB8 agf (So U i j f g o K L) Z (gK [0,1,2,3] Z)) Z (λN=>(y_ [] Z)) λN=>iD Z (fN Z) ?_;refine JR.guard (by exact rfl) (by exact rfl) (by exact rfl) (λe=>?_) (λe=>?_)
  .have h:=Bt e h;refine dX Z (aW.cons 1 Z .nil) .nil (iC 0 Z Z Z Z) (NM Z)<|dG h λs w h=>Fo Z Z Z Z (zB8 ZY (Lw U i j s w) Z (gK [0,1] Z)) Z (λC=>(y_ [] Z)) λC=>dX Z .nil .nil (bR Z Z Z Z Z) hkN<|dX Z (aW.cons 0 Z .nil) .nil (bX 0 Z Z Z Z Z) (aR.h (aW.ix [0] Z Z) .nil (NM Z))<|dX Z .nil (jP 3 Z) (mB Z (cG Z) Z) (aR.h .nil (jP 3 Z) (NM Z))<|dX Z .nil .nil (C_ Z Z) (NM Z)<|dX Z (aW.cons 0 Z .nil) .nil (iC 0 Z Z Z Z) (aR.h (aW.ix [0] Z Z) .nil (NM Z))<|dG h λt y h=>Fo Z Z Z Z (zB8 Vm (FQ U f g o t y) Z (gK [2,3] Z)) Z (λD=>(y_ [([],[3]),([0],[])] Z)) λD=>dX Z .nil .nil (C_ Z Z) (NM Z)<|dX Z (aW.cons 0 Z .nil) .nil (iC 0 Z Z Z Z) (aR.h (aW.ix [0] Z Z) .nil (aR.h (aW.ix [0] Z Z) .nil (NM Z)))<|dG h λu z h=>Fo Z Z Z Z (zB8 Vm (FQ U f g o u z) Z (gK [2,3] Z)) Z (λE=>(y_ [([],[3]),([0],[])] Z)) λE=>dX Z .nil .nil (C_ Z Z) (NM Z)<|dX Z .nil .nil (nH Z Z) (NM Z)<|iD Z (wR Z Z)<|iD Z (fN Z) ?_;refine wE (by exact rfl) (by exact rfl) (by exact rfl) (λa=>?_) (λa=>?_)
   .have h:=Bt a h;refine dX Z .nil .nil (fN Z) (NM Z)<|dG h λv A h=>Fo Z Z Z Z (zB8 agh (Ky U p G v A) Z (gK [4] Z)) Z (λF=>(y_ [] Z)) λF=>iD Z (wR Z Z)<|iD Z (fN Z) ?_;refine JR.guard (by exact rfl) (by exact rfl) (by exact rfl) (λb=>?_) (λb=>?_)
    .have h:=Bt b h;refine dX Z .nil .nil (fN Z) (NM Z)<|dX Z .nil .nil (nH Z Z) (NM Z)<|iD Z (wR Z Z)<|iD Z (fN Z) ?_;refine wE (by exact rfl) (by exact rfl) (by exact rfl) (λd=>?_) (λd=>?_)
     .have h:=Bt d h;refine dX Z (aW.cons 1 Z .nil) .nil (iC 0 Z Z Z Z) (NM Z)<|dX Z (aW.cons 0 Z .nil) .nil (iC 0 Z Z Z Z) (NM Z)<|dX Z .nil .nil (fN Z) (NM Z)<|bS 30 Z Z<|dG h λn B h=>fU Z (zB8 agi (PZ U i j f g o p G n B) Z (gK [0,1,2,3,4] Z)) Z λM=>bO Z<|aB Z<|aM ?_;exact bQ (n) () h SF .nil (aE.refl _ _)
     have h:=MP d h;refine bA Z Z Z Z<|bA Z Z Z Z<|bA Z Z Z Z<|bS 30 Z Z<|aD Z<|bT Z<|aB Z<|aM ?_;exact bQ (false) () h SF .nil (aE.refl _ _)
    have h:=w_ b h;refine bA Z Z Z Z<|bA Z Z Z Z<|iD Z (sG Z Z)<|iD Z (fN Z)<|bA Z Z Z Z<|bA Z Z Z Z<|bA Z Z Z Z<|bS 30 Z Z<|aD Z<|bT Z<|aB Z<|aM ?_;exact bQ (false) () h SF .nil (aE.refl _ _)
   have h:=MP a h;refine bA Z Z Z Z<|bA Z Z Z Z<|iD Z (sG Z Z)<|iD Z (fN Z)<|bA Z Z Z Z<|bA Z Z Z Z<|iD Z (sG Z Z)<|iD Z (fN Z)<|bA Z Z Z Z<|bA Z Z Z Z<|bA Z Z Z Z<|bS 30 Z Z<|aD Z<|bT Z<|aB Z<|aM ?_;exact bQ (false) () h SF .nil (aE.refl _ _)
  have h:=w_ e h;refine bA Z Z Z Z<|bA Z Z Z Z<|bA Z Z Z Z<|bA Z Z Z Z<|bA Z Z Z Z<|bA Z Z Z Z<|bA Z Z Z Z<|bA Z Z Z Z<|bA Z Z Z Z<|bA Z Z Z Z<|bA Z Z Z Z<|bA Z Z Z Z<|bA Z Z Z Z<|iD Z (sG Z Z)<|iD Z (fN Z)<|bA Z Z Z Z<|bA Z Z Z Z<|iD Z (sG Z Z)<|iD Z (fN Z)<|bA Z Z Z Z<|bA Z Z Z Z<|iD Z (sG Z Z)<|iD Z (fN Z)<|bA Z Z Z Z<|bA Z Z Z Z<|bA Z Z Z Z<|bS 30 Z Z<|aD Z<|bT Z<|aB Z<|aM ?_;exact bQ (false) () h SF .nil (aE.refl _ _)
 intro k H h;unfold yP at h;refine aP ?_;cases h;exact gM Z
end Go.Proofs.YtemmagadjnlajaaGreatDoor
namespace Go.Gx
open Go Go.Sx
noncomputable section
inductive GV where
 |int (k:IntKind) (n:Int)
 |bool (b:Bool)
 |str (n len:Nat)
 |ptr (h off:Nat)
 |pnil
 |sl (h off len sz:Nat)
 |snil
 |map (h:Nat)
 |fn (f:FuncId) (first caps:List GV)
 |fnil
 |inil
 |agg (cs:List GV)
 |tup (vs:List GV)
 |un
 |bad
 |opn (h:Nat)
inductive GO where
 |cells (cs:List GV)
 |mp (es:List (GV×GV))
inductive Tr (α:Type) where
 |lf
 |nd (a:Option α) (l r:Tr α)
def ob {b a:Type} (o:V1 b) (f:b->V1 a):V1 a:=Option.casesOn (motive:=λ_=>V1 a) o none f
def Tr.get {b:Type} (t:Tr b):Nat->V1 b:=Tr.rec (motive:=λ_=>Nat->V1 b) (λ_=>none) (λa _ _ c d n=>Bool.casesOn (motive:=λ_=>V1 b) (Nat.beq n 0) (Bool.casesOn (motive:=λ_=>V1 b) (Nat.beq (Nat.mod n 2) 1) (d (Nat.sub (Nat.div n 2) 1)) (c (Nat.div n 2))) a) t
def HK {a:Type} (x:V1 a) (f:Nat):Nat->Tr a:=Nat.rec (motive:=λ_=>Nat->Tr a) (λ_=>.lf) (λ_ b n=>bif Nat.beq n 0 then .nd x .lf .lf else bif Nat.beq (Nat.mod n 2) 1 then .nd none (b (Nat.div n 2)) .lf else .nd none .lf (b (Nat.sub (Nat.div n 2) 1))) f
def Tr.set {b:Type} (x:V1 b) (t:Tr b):Nat->Tr b:=Tr.rec (motive:=λ_=>Nat->Tr b) (λn=>HK x (Nat.succ n) n) (λa l r c d n=>Bool.casesOn (motive:=λ_=>Tr b) (Nat.beq n 0) (Bool.casesOn (motive:=λ_=>Tr b) (Nat.beq (Nat.mod n 2) 1) (.nd a l (d (Nat.sub (Nat.div n 2) 1))) (.nd a (c (Nat.div n 2)) r)) (.nd x l r)) t
def KO {a R:Type} (x:V1 a) (f:Nat):Nat->(Tr a->R)->R:=Nat.rec (motive:=λ_=>Nat->(Tr a->R)->R) (λ_ k=>k .lf) (λ_ b n k=>Bool.casesOn (motive:=λ_=>R) (Nat.beq n 0) (Bool.casesOn (motive:=λ_=>R) (Nat.beq (Nat.mod n 2) 1) (b (Nat.sub (Nat.div n 2) 1) λt=>k (.nd none .lf t)) (b (Nat.div n 2) λt=>k (.nd none t .lf))) (k (.nd x .lf .lf))) f
def Tr.setK {b R:Type} (x:V1 b) (t:Tr b):Nat->(Tr b->R)->R:=Tr.rec (motive:=λ_=>Nat->(Tr b->R)->R) (λn k=>KO x (Nat.succ n) n k) (λa l r c d n k=>Bool.casesOn (motive:=λ_=>R) (Nat.beq n 0) (Bool.casesOn (motive:=λ_=>R) (Nat.beq (Nat.mod n 2) 1) (d (Nat.sub (Nat.div n 2) 1) λt=>k (.nd a l t)) (c (Nat.div n 2) λt=>k (.nd a t r))) (k (.nd x l r))) t
def sn {a:Type} (n:Nat) (f:Nat->a):a:=Nat.rec (motive:=λ_=>a) (f 0) (λm _=>f (Nat.succ m)) n
def fi {b:Type} (z:Int) (f:Int->b):b:=Int.casesOn (motive:=λ_=>b) z (λa=>sn a λa=>f (.ofNat a)) (λa=>sn a λa=>f (.negSucc a))
def fb (b:V4):V1 GV:=Bool.casesOn (motive:=λ_=>V1 GV) b (some (.bool false)) (some (.bool true))
structure GH where
 n:Nat
 t:Tr (Nat×GO)
def GH.get (H:GH) (h:Nat):V1 GO:=ob (H.t.get h) λp=>some p.2
def GH.ver (H:GH) (h:Nat):V1 Nat:=ob (H.t.get h) λp=>some p.1
def GH.set (H:GH) (h:Nat) (o:GO):GH:=⟨Nat.succ H.n,H.t.set (some (H.n,o)) h⟩
def GH.del (H:GH) (h:Nat):GH:=⟨H.n,H.t.set none h⟩
def GH.newK {a:Type} (H:GH) (o:GO) (f:Nat->GH->a):a:=sn H.n λn=>H.t.setK (some (n,o)) n λt=>sn (Nat.succ n) λm=>f n ⟨m,t⟩
def GH.setK {a:Type} (H:GH) (h:Nat) (o:GO) (f:GH->a):a:=sn H.n λn=>H.t.setK (some (n,o)) h λt=>sn (Nat.succ n) λm=>f ⟨m,t⟩
def GH.delK {a:Type} (H:GH) (h:Nat) (f:GH->a):a:=H.t.setK none h λt=>f ⟨H.n,t⟩
def afM (o:GO):V1 (V6 GV):=GO.casesOn (motive:=λ_=>V1 (V6 GV)) o (λa=>some a) (λ_=>none)
def GO.asM (o:GO):V1 (V6 (GV×GV)):=GO.casesOn (motive:=λ_=>V1 (V6 (GV×GV))) o (λ_=>none) (λa=>some a)
def GH.cells (H:GH) (h:Nat):V1 (V6 GV):=ob (H.get h) afM
abbrev GF:=V6 (Nat×GV)
def JJ (σ:GF) (t:Nat):V1 GV:=List.rec (motive:=λ_=>V1 GV) none (λp _ a=>Bool.casesOn (motive:=λ_=>V1 GV) (Nat.beq t p.1) a (some p.2)) σ
def ltI (a b:Int):V4:=Int.casesOn (motive:=λ_=>V4) a (λa=>Int.casesOn (motive:=λ_=>V4) b (λb=>Nat.blt a b) (λ_=>false)) (λa=>Int.casesOn (motive:=λ_=>V4) b (λ_=>true) (λb=>Nat.blt b a))
def eqI (a b:Int):V4:=Int.casesOn (motive:=λ_=>V4) a (λa=>Int.casesOn (motive:=λ_=>V4) b (λb=>Nat.beq a b) (λ_=>false)) (λa=>Int.casesOn (motive:=λ_=>V4) b (λ_=>false) (λb=>Nat.beq a b))
def asN (a:Int):V1 Nat:=Int.casesOn (motive:=λ_=>V1 Nat) a (λa=>some a) (λ_=>none)
def eqS (a b:Nat×Nat):V4:=bif Nat.beq a.2 b.2 then Nat.beq a.1 b.1 else false
def Xk (a b:V4):V4:=Bool.casesOn (motive:=λ_=>V4) a (Bool.casesOn (motive:=λ_=>V4) b true false) b
def LK {a:Type} (l:V6 a):Nat->V1 a:=List.rec (motive:=λ_=>Nat->V1 a) (λ_=>none) (λx _ b n=>Nat.casesOn (motive:=λ_=>V1 a) n (some x) b) l
def aen {a:Type} (v:a) (l:V6 a):Nat->V1 (V6 a):=List.rec (motive:=λ_=>Nat->V1 (V6 a)) (λ_=>none) (λx r b n=>Nat.casesOn (motive:=λ_=>V1 (V6 a)) n (some (v::r)) (λn=>ob (b n) λc=>some (x::c))) l
def KU (e:V6 GV):Nat->V6 GV->V1 (V6 GV):=List.rec (motive:=λ_=>Nat->V6 GV->V1 (V6 GV)) (λ_ a=>some a) (λv _ c o a=>ob (aen v a o) λb=>sn (Nat.succ o) λd=>c d b) e
def tk {a:Type} (l:V6 a):Nat->V1 (V6 a):=List.rec (motive:=λ_=>Nat->V1 (V6 a)) (λn=>Nat.casesOn (motive:=λ_=>V1 (V6 a)) n (some []) (λ_=>none)) (λx _ b n=>Nat.casesOn (motive:=λ_=>V1 (V6 a)) n (some []) (λn=>ob (b n) λr=>some (x::r))) l
def dp {a:Type} (l:V6 a):Nat->V1 (V6 a):=List.rec (motive:=λ_=>Nat->V1 (V6 a)) (λn=>Nat.casesOn (motive:=λ_=>V1 (V6 a)) n (some []) (λ_=>none)) (λx r b n=>Nat.casesOn (motive:=λ_=>V1 (V6 a)) n (some (x::r)) b) l
def slc {a:Type} (l:V6 a) (o n:Nat):V1 (V6 a):=ob (dp l o) λr=>tk r n
def qO (l:V6 UInt8):Nat:=List.rec (motive:=λ_=>Nat) 0 (λb _ a=>Nat.add b.toNat (Nat.mul 256 a)) l
def cE (s:ByteArray):V6 UInt8:=s.data.toList
def GV.asI (v:GV):V1 (IntKind×Int):=GV.casesOn (motive_1:=λ_=>V1 (IntKind×Int)) v (λa b=>some (a,b)) (λ_=>none) (λ_ _=>none) (λ_ _=>none) none (λ_ _ _ _=>none) none (λ_=>none) (λ_ _ _=>none) none none (λ_=>none) (λ_=>none) none none (λ_=>none)
def GV.asB (v:GV):V1 V4:=GV.casesOn (motive_1:=λ_=>V1 V4) v (λ_ _=>none) (λa=>some a) (λ_ _=>none) (λ_ _=>none) none (λ_ _ _ _=>none) none (λ_=>none) (λ_ _ _=>none) none none (λ_=>none) (λ_=>none) none none (λ_=>none)
def GV.asP (v:GV):V1 (Nat×Nat):=GV.casesOn (motive_1:=λ_=>V1 (Nat×Nat)) v (λ_ _=>none) (λ_=>none) (λ_ _=>none) (λa b=>some (a,b)) none (λ_ _ _ _=>none) none (λ_=>none) (λ_ _ _=>none) none none (λ_=>none) (λ_=>none) none none (λ_=>none)
def GV.asS (v:GV):V1 (Nat×Nat×Nat×Nat):=GV.casesOn (motive_1:=λ_=>V1 (Nat×Nat×Nat×Nat)) v (λ_ _=>none) (λ_=>none) (λ_ _=>none) (λ_ _=>none) none (λa b c d=>some (a,b,c,d)) none (λ_=>none) (λ_ _ _=>none) none none (λ_=>none) (λ_=>none) none none (λ_=>none)
def GV.asF (v:GV):V1 (Nat×V6 GV×V6 GV):=GV.casesOn (motive_1:=λ_=>V1 (Nat×V6 GV×V6 GV)) v (λ_ _=>none) (λ_=>none) (λ_ _=>none) (λ_ _=>none) none (λ_ _ _ _=>none) none (λ_=>none) (λa b c=>some (a,b,c)) none none (λ_=>none) (λ_=>none) none none (λ_=>none)
def GV.asT (v:GV):V1 (V6 GV):=GV.casesOn (motive_1:=λ_=>V1 (V6 GV)) v (λ_ _=>none) (λ_=>none) (λ_ _=>none) (λ_ _=>none) none (λ_ _ _ _=>none) none (λ_=>none) (λ_ _ _=>none) none none (λ_=>none) (λa=>some a) none none (λ_=>none)
def GV.asStr (v:GV):V1 (Nat×Nat):=GV.casesOn (motive_1:=λ_=>V1 (Nat×Nat)) v (λ_ _=>none) (λ_=>none) (λa b=>some (a,b)) (λ_ _=>none) none (λ_ _ _ _=>none) none (λ_=>none) (λ_ _ _=>none) none none (λ_=>none) (λ_=>none) none none (λ_=>none)
def GV.asM (v:GV):V1 (Nat):=GV.casesOn (motive_1:=λ_=>V1 (Nat)) v (λ_ _=>none) (λ_=>none) (λ_ _=>none) (λ_ _=>none) none (λ_ _ _ _=>none) none (λa=>some a) (λ_ _ _=>none) none none (λ_=>none) (λ_=>none) none none (λ_=>none)
def GV.asA (v:GV):V1 (V6 GV):=GV.casesOn (motive_1:=λ_=>V1 (V6 GV)) v (λ_ _=>none) (λ_=>none) (λ_ _=>none) (λ_ _=>none) none (λ_ _ _ _=>none) none (λ_=>none) (λ_ _ _=>none) none none (λa=>some a) (λ_=>none) none none (λ_=>none)
def GV.cells (v:GV):V1 (V6 GV):=GV.casesOn (motive_1:=λ_=>V1 (V6 GV)) v (λa b=>some [GV.int a b]) (λa=>some [GV.bool a]) (λa b=>some [GV.str a b]) (λa b=>some [GV.ptr a b]) (some [GV.pnil]) (λa b c d=>some [GV.sl a b c d]) (some [GV.snil]) (λa=>some [GV.map a]) (λa b c=>some [GV.fn a b c]) (some [GV.fnil]) (some [GV.inil]) (λa=>some a) (λa=>none) (none) (none) (λa=>none)
def GV.isSnil (v:GV):V4:=GV.casesOn (motive_1:=λ_=>V4) v (λ_ _=>false) (λ_=>false) (λ_ _=>false) (λ_ _=>false) (false) (λ_ _ _ _=>false) (true) (λ_=>false) (λ_ _ _=>false) (false) (false) (λ_=>false) (λ_=>false) (false) (false) (λ_=>false)
def GV.isInil (v:GV):V4:=GV.casesOn (motive_1:=λ_=>V4) v (λ_ _=>false) (λ_=>false) (λ_ _=>false) (λ_ _=>false) (false) (λ_ _ _ _=>false) (false) (λ_=>false) (λ_ _ _=>false) (false) (true) (λ_=>false) (λ_=>false) (false) (false) (λ_=>false)
def GV.nilck (v:GV):V1 GV:=GV.casesOn (motive_1:=λ_=>V1 GV) v (λa b=>none) (λa=>none) (λa b=>none) (λa b=>some (GV.ptr a b)) (none) (λa b c d=>none) (none) (λa=>none) (λa b c=>some (GV.fn a b c)) (none) (none) (λa=>none) (λa=>none) (none) (none) (λa=>none)
def tdE (d:TypeDesc):V4:=TypeDesc.casesOn (motive:=λ_=>V4) d false false (λ_=>false) (λ_=>false) (λ_=>false) false false (λ_=>false) (λ_=>false) (λ_ _=>false) (λ_ _=>false) (λ_ _=>false) (λ_=>false) (λ_ _ _=>false) (λa=>Nat.beq (Array.size a) 0) (λ_=>false) (λ_ _=>false)
def tdS (d:TypeDesc):V1 V9:=TypeDesc.casesOn (motive:=λ_=>V1 V9) d none none (λ_=>none) (λ_=>none) (λ_=>none) none none (λ_=>none) (λa=>some a) (λ_ _=>none) (λ_ _=>none) (λ_ _=>none) (λ_=>none) (λ_ _ _=>none) (λ_=>none) (λ_=>none) (λ_ _=>none)
def tdA (d:TypeDesc):V1 (Nat×V9):=TypeDesc.casesOn (motive:=λ_=>V1 (Nat×V9)) d none none (λ_=>none) (λ_=>none) (λ_=>none) none none (λ_=>none) (λ_=>none) (λa b=>some (a,b)) (λ_ _=>none) (λ_ _=>none) (λ_=>none) (λ_ _ _=>none) (λ_=>none) (λ_=>none) (λ_ _=>none)
def tdF (d:TypeDesc):V1 (Array Field):=TypeDesc.casesOn (motive:=λ_=>V1 (Array Field)) d none none (λ_=>none) (λ_=>none) (λ_=>none) none none (λ_=>none) (λ_=>none) (λ_ _=>none) (λ_ _=>none) (λ_ _=>none) (λa=>some a) (λ_ _ _=>none) (λ_=>none) (λ_=>none) (λ_ _=>none)
def tdI (d:TypeDesc):V1 IntKind:=TypeDesc.casesOn (motive:=λ_=>V1 IntKind) d none none (λa=>some a) (λ_=>none) (λ_=>none) none none (λ_=>none) (λ_=>none) (λ_ _=>none) (λ_ _=>none) (λ_ _=>none) (λ_=>none) (λ_ _ _=>none) (λ_=>none) (λ_=>none) (λ_ _=>none)
def Nb (d:TypeDesc):V4:=TypeDesc.casesOn (motive:=λ_=>V4) d false false (λ_=>false) (λ_=>false) (λ_=>false) (true) false (λ_=>false) (λ_=>false) (λ_ _=>false) (λ_ _=>false) (λ_ _=>false) (λ_=>false) (λ_ _ _=>false) (λ_=>false) (λ_=>false) (λ_ _=>false)
def tdB (d:TypeDesc):V4:=TypeDesc.casesOn (motive:=λ_=>V4) d false (true) (λ_=>false) (λ_=>false) (λ_=>false) false false (λ_=>false) (λ_=>false) (λ_ _=>false) (λ_ _=>false) (λ_ _=>false) (λ_=>false) (λ_ _ _=>false) (λ_=>false) (λ_=>false) (λ_ _=>false)
def tdM (d:TypeDesc):V1 (V9×V9):=TypeDesc.casesOn (motive:=λ_=>V1 (V9×V9)) d none none (λ_=>none) (λ_=>none) (λ_=>none) none none (λ_=>none) (λ_=>none) (λ_ _=>none) (λa b=>some (a,b)) (λ_ _=>none) (λ_=>none) (λ_ _ _=>none) (λ_=>none) (λ_=>none) (λ_ _=>none)
def YV:V0->V1 GV
 | .int k n=>some (.int k n)
 | .bool b=>some (.bool b)
 | .slice none 0 0=>some .snil
 | .pointer none=>some .pnil
 | .nilFunc=>some .fnil
 | .nilIface=>some .inil
 | .string s=>sn (qO (cE s)) λn=>sn (cE s).length λl=>some (.str n l)
 |_=>none
def aeq:oA->V1 (V6 GV)
 | []=>some []
 |v::vs=>ob (YV v) λx=>ob (aeq vs) λa=>some (x::a)
def ofV:V0->V1 GV
 | .agg cs=>ob (aeq cs.toList) λa=>some (.agg a)
 |v=>YV v
def Mv (s:Sem V0):V1 GV:=match s with
 | .pure v=>YV v
 |_=>none
def aaU (z:Int):V4:=Int.casesOn (motive:=λ_=>V4) z (λa=>Nat.blt a 9223372036854775808) (λa=>Nat.blt a 9223372036854775808)
def afo (k:IntKind):V4:=IntKind.casesOn (motive:=λ_=>V4) k false false false true false false false false
def gw (k:IntKind) (z:Int):V1 GV:=fi z λz=>bif afo k then(bif aaU z then some (.int k z)else none)else fi (k.wrap z) λz=>some (.int k z)
def eqK (a b:IntKind):V4:=decide (a=b)
def aiO (c:BinOp) (k:IntKind) (a b:Int):V1 GV:=BinOp.casesOn (motive:=λ_=>V1 GV) c (gw k (a+b)) (gw k (a - b)) (Mv (binOp .mul 0 (.int k a) (.int k b))) (Mv (binOp .quo 0 (.int k a) (.int k b))) (Mv (binOp .rem 0 (.int k a) (.int k b))) (Mv (binOp .and 0 (.int k a) (.int k b))) (Mv (binOp .or 0 (.int k a) (.int k b))) (Mv (binOp .xor 0 (.int k a) (.int k b))) (Mv (binOp .shl 0 (.int k a) (.int k b))) (Mv (binOp .shr 0 (.int k a) (.int k b))) (Mv (binOp .andNot 0 (.int k a) (.int k b))) (fb (eqI a b)) (fb (!eqI a b)) (fb (ltI a b)) (fb (!ltI b a)) (fb (ltI b a)) (fb (!ltI a b))
def NN (a:BinOp):V4:=BinOp.casesOn (motive:=λ_=>V4) a false false false false false false false false true true false false false false false false false
def agQ (a b:Nat×Nat):V1 GV:=bif Nat.blt (Nat.add a.2 b.2) 16777216 then sn (Nat.add a.1 (Nat.mul (Nat.pow 2 (Nat.mul 8 a.2)) b.1)) λn=>sn (Nat.add a.2 b.2) λl=>some (.str n l)else none
def akX (c:BinOp) (a b:Nat×Nat):V1 GV:=BinOp.casesOn (motive:=λ_=>V1 GV) c (agQ a b) none none none none none none none none none none (fb (eqS a b)) (fb (!eqS a b)) none none none none
def akW (a:BinOp):V1 GV:=BinOp.casesOn (motive:=λ_=>V1 GV) a none none none none none none none none none none none (some (.bool true)) (some (.bool false)) none none none none
def acJ (c:BinOp) (a b:V4):V1 GV:=BinOp.casesOn (motive:=λ_=>V1 GV) c none none none none none none none none none none none (fb (Xk a b)) (fb (!Xk a b)) none none none none
def nK (a:GF) (o:V3):V1 GV:=Operand.casesOn (motive:=λ_=>V1 GV) o (λt=>JJ a t) ofV (λ_=>none) (λf=>some (.fn f [] []))
def Kt (c:GF) (l:V6 V3):V1 (V6 GV):=List.rec (motive:=λ_=>V1 (V6 GV)) (some []) (λx _ a=>ob (nK c x) λv=>ob a λb=>some (v::b)) l
def Aa (c:GF) (l:V6 (Nat×V3)):V1 (V6 (Nat×GV)):=List.rec (motive:=λ_=>V1 (V6 (Nat×GV))) (some []) (λp _ a=>ob (nK c p.2) λv=>ob a λb=>some ((p.1,v)::b)) l
abbrev TB:=Nat->V1 Ty
def EA (a:TB) (T:V9):V1 (V9×Ty):=ob (a T) λt=>ob (tdS t.desc) λe=>ob (a e) λb=>some (e,b)
def Sj (b:TB) (l:V6 Field):V1 (V6 (Nat×Nat)):=List.rec (motive:=λ_=>V1 (V6 (Nat×Nat))) (some []) (λf _ a=>ob (b f.type) λt=>ob a λr=>some ((f.offset,t.size)::r)) l
def vF (b:TB) (T:V9):V1 (V6 Field):=ob (b T) λt=>ob (tdF t.desc) λa=>some a.toList
def Uf (a:TB) (T:V9):V1 (V6 (Nat×Nat)):=ob (vF a T) λb=>Sj a b
abbrev OR:=V1 (GV×GH)
def UD (c a b:GV):V1 GV:=ob c.asB λq=>Bool.casesOn (motive:=λ_=>V1 GV) q (some b) (some a)
def aeb (v:GV):V1 Nat:=bif v.isSnil then some 0 else ob v.asS λs=>some s.2.2.1
def VJ (t:Ty) (a b:GV):V1 V4:=Option.casesOn (motive:=λ_=>V1 V4) a.asI (Option.casesOn (motive:=λ_=>V1 V4) a.asStr (ob a.asB λx=>ob b.asB λy=>bif tdB t.desc then some (Xk x y)else none) λx=>ob b.asStr λy=>bif Nb t.desc then some (eqS x y)else none) λx=>ob b.asI λy=>ob (tdI t.desc) λ_=>bif eqK x.1 y.1 then some (eqI x.2 y.2)else none
def adS (g:TB) (cs c:V6 GV) (d:V6 Field):V1 V4:=List.rec (motive:=λ_=>V1 V4) (some true) (λf _ e=>ob (g f.type) λt=>ob (LK cs f.offset) λa=>ob (LK c f.offset) λb=>ob (VJ t a b) λq=>bif q then e else some false) d
def JV (t:Ty):V4:=bif tdB t.desc then true else bif Nb t.desc then true else Option.casesOn (motive:=λ_=>V4) (tdI t.desc) false λ_=>true
def BQ (c:TB) (a:V6 Field):V4:=List.rec (motive:=λ_=>V4) true (λf _ b=>Option.casesOn (motive:=λ_=>V4) (c f.type) false λt=>bif JV t then b else false) a
def Qt (T:Nat):V4:=bif Nat.blt 31 T then Nat.blt T 512 else false
def abU (a:TB) (c:BinOp) (T:V9) (v u:GV):V1 GV:=Option.casesOn (motive:=λ_=>V1 GV) v.asA (bif u.isSnil then ob (aeb v) λ_=>ob (a T) λt=>ob (tdS t.desc) λ_=>acJ c v.isSnil true else none) λd=>ob u.asA λe=>bif Qt T then ob (vF a T) λb=>bif BQ a b then ob (adS a d e b) λq=>acJ c q true else none else none
def Wp (d:TB) (c:BinOp) (T:V9) (v u:GV):V1 GV:=
 Option.casesOn (motive:=λ_=>V1 GV) v.asI
  (Option.casesOn (motive:=λ_=>V1 GV) v.asStr (Option.casesOn (motive:=λ_=>V1 GV) v.asB (bif v.isInil then(bif u.isInil then ob (d T) λt=>bif tdE t.desc then akW c else none else none)else abU d c T v u) λa=>ob u.asB λb=>ob (d T) λt=>bif tdB t.desc then acJ c a b else none) λa=>ob u.asStr λb=>akX c a b)
  λa=>ob u.asI λb=>bif NN c then Mv (binOp c 0 (.int a.1 a.2) (.int b.1 b.2))else bif eqK a.1 b.1 then aiO c a.1 a.2 b.2 else none
def vUn (c:UnOp) (v:GV):V1 GV:=UnOp.casesOn (motive:=λ_=>V1 GV) c (ob v.asI λa=>gw a.1 (0 - a.2)) none (ob v.asB λb=>fb (!b)) none
def afF (b:TB) (S D:V9) (v:GV):V1 GV:=ob v.asI λa=>ob (b S) λs=>ob (tdI s.desc) λ_=>ob (b D) λt=>ob (tdI t.desc) λk=>fi (k.wrap a.2) λz=>some (.int k z)
def vB (o:V1 GV) (d:Nat):V1 Nat:=Option.casesOn (motive:=λ_=>V1 Nat) o (some d) λv=>ob v.asI λa=>asN a.2
def aeQ (s:Nat×Nat) (l h:Nat):V1 GV:=bif Nat.ble l h then(bif Nat.ble h s.2 then sn (Nat.mod (Nat.shiftRight s.1 (Nat.mul 8 l)) (Nat.pow 2 (Nat.mul 8 (Nat.sub h l)))) λn=>sn (Nat.sub h l) λk=>some (.str n k)else none)else none
def aeO (s:Nat×Nat×Nat×Nat) (a l h:Nat):V1 GV:=bif Nat.beq a s.2.2.2 then(bif Nat.ble l h then(bif Nat.ble h s.2.2.1 then sn (Nat.add s.2.1 (Nat.mul l a)) λo=>sn (Nat.sub h l) λk=>some (.sl s.1 o k a)else none)else none)else none
def aeP (p:Nat×Nat) (n a l h:Nat):V1 GV:=bif Nat.ble l h then(bif Nat.ble h n then(bif Nat.beq a 0 then none else sn (Nat.add p.2 (Nat.mul l a)) λo=>sn (Nat.sub h l) λk=>some (.sl p.1 o k a))else none)else none
def Jn (c:TB) (T:V9) (v:GV) (f b:V1 GV) (H:GH):V1 GV:=ob (vB f 0) λl=>ob (c T) λt=>
 Option.casesOn (motive:=λ_=>V1 GV) v.asStr
  (Option.casesOn (motive:=λ_=>V1 GV) v.asS
   (Bool.casesOn (motive:=λ_=>V1 GV) v.isSnil (ob v.asP λp=>ob (tdA t.desc) λe=>ob (c e.2) λa=>ob (vB b e.1) λh=>ob (H.cells p.1) λd=>bif Nat.ble (Nat.add p.2 (Nat.mul e.1 a.size)) d.length then aeP p e.1 a.size l h else none) (ob (tdS t.desc) λe=>ob (c e) λa=>ob (vB b 0) λh=>bif Nat.beq l 0 then(bif Nat.beq h 0 then some .snil else none)else none))
   λs=>ob (tdS t.desc) λe=>ob (c e) λa=>ob (vB b s.2.2.1) λh=>aeO s a.size l h)
  λs=>ob (vB b s.2) λh=>bif Nb t.desc then aeQ s l h else none
def Wt (a:TB) (T:V9) (f:Nat) (v:GV):V1 GV:=ob v.asP λp=>ob (vF a T) λb=>ob (LK b f) λq=>ob (a q.type) λc=>bif Nat.beq c.size 0 then none else sn (Nat.add p.2 q.offset) λo=>some (.ptr p.1 o)
def GA (t:Ty) (a:V6 GV) (o:Nat):V1 GV:=bif Bh t.desc then ob (slc a o t.size) λr=>some (.agg r)else LK a o
def afJ (a:TB) (T:V9) (f:Nat) (v:GV):V1 GV:=ob v.asA λb=>ob (vF a T) λc=>ob (LK c f) λq=>ob (a q.type) λd=>GA d b q.offset
def aeM (a:TB) (T:V9) (s:Nat×Nat×Nat×Nat) (i:Nat):V1 GV:=ob (EA a T) λb=>bif Nat.blt i s.2.2.1 then sn (Nat.add s.2.1 (Nat.mul i b.2.size)) λo=>some (.ptr s.1 o)else none
def aeL (a:TB) (T:V9) (p:Nat×Nat) (i:Nat):V1 GV:=ob (a T) λt=>ob (tdA t.desc) λe=>ob (a e.2) λb=>bif Nat.blt i e.1 then sn (Nat.add p.2 (Nat.mul i b.size)) λo=>some (.ptr p.1 o)else none
def Wu (a:TB) (T:V9) (v w:GV):V1 GV:=ob w.asI λn=>ob (asN n.2) λn=>Option.casesOn (motive:=λ_=>V1 GV) v.asP (ob v.asS λs=>aeM a T s n) λp=>aeL a T p n
def vAt (a:TB) (T:V9) (v w:GV):V1 GV:=ob v.asStr λs=>ob w.asI λn=>ob (asN n.2) λn=>ob (a T) λt=>bif Nb t.desc then(bif Nat.blt n s.2 then sn (Nat.mod (Nat.shiftRight s.1 (Nat.mul 8 n)) 256) λb=>some (.int .u8 (.ofNat b))else none)else none
def aim (i:Nat) (v:GV):V1 GV:=ob v.asT λa=>LK a i
def VC (d:Ng) (l:V6 (Nat×GV)):V6 GV->V1 (V6 GV):=List.rec (motive:=λ_=>V6 GV->V1 (V6 GV)) (λa=>some a) (λp _ c a=>ob (LK d p.1) λq=>ob p.2.cells λb=>bif Nat.beq b.length q.2 then(bif Nat.beq q.2 0 then none else ob (KU b q.1 a) c)else none) l
def Ml (b:Nat) (l:V6 (Nat×GV)):V6 GV->V1 (V6 GV):=List.rec (motive:=λ_=>V6 GV->V1 (V6 GV)) (λa=>some a) (λp _ d a=>ob p.2.cells λc=>bif Nat.beq c.length b then(bif Nat.beq b 0 then none else ob (KU c (Nat.mul p.1 b) a) d)else none) l
def Ha (a:TB) (T:V9):V1 (V6 GV):=ob (a T) λt=>ob (ofV t.zero) λz=>z.cells
def Wr (a:TB) (T:V9) (c:V6 (Nat×GV)):V1 GV:=ob (a T) λt=>ob (Ha a T) λd=>Option.casesOn (motive:=λ_=>V1 GV) (tdF t.desc) (ob (tdA t.desc) λe=>ob (a e.2) λg=>ob (Ml g.size c d) λb=>some (.agg b)) λ_=>ob (Uf a T) λf=>ob (VC f c d) λb=>some (.agg b)
def abY (a:TB) (T:V9) (v:GV):V1 GV:=ob (a T) λt=>Option.casesOn (motive:=λ_=>V1 GV) v.asStr (ob (tdS t.desc) λ_=>ob (aeb v) λn=>some (.int .i64 (.ofNat n))) λs=>bif Nb t.desc then some (.int .i64 (.ofNat s.2))else none
def aj_ (a:TB) (T:V9) (v:GV):V1 GV:=ob (a T) λt=>ob (tdS t.desc) λ_=>bif v.isSnil then some (.int .i64 (.ofNat 0))else none
def Wv (v u:GV):V1 GV:=ob v.asI λa=>ob u.asI λb=>bif eqK a.1 b.1 then(bif ltI a.2 b.2 then some u else some v)else none
def acb (v u:GV):V1 GV:=ob v.asI λa=>ob u.asI λb=>bif eqK a.1 b.1 then(bif ltI b.2 a.2 then some u else some v)else none
def Hy (b:TB) (T:V9) (v:GV) (H:GH):V1 GV:=ob v.asP λp=>ob (H.cells p.1) λa=>ob (b T) λt=>GA t a p.2
def KE (e:TB) (T:V9) (v u:GV) (H:GH):OR:=ob v.asP λp=>ob (H.cells p.1) λd=>ob (e T) λt=>ob u.cells λb=>bif Nat.beq b.length t.size then bif Nat.beq t.size 0 then none else ob (KU b p.2 d) λa=>H.setK p.1 (.cells a) λc=>some (.un,c)else none
def Wq (v:GV) (H:GH):OR:=ob v.cells λb=>H.newK (.cells b) λh a=>some (.ptr h 0,a)
def Jm (b:TB) (T:V9) (H:GH):OR:=ob (Ha b T) λc=>H.newK (.cells c) λh a=>some (.ptr h 0,a)
def UT (z:V6 GV) (n:Nat):V6 GV:=Nat.rec (motive:=λ_=>V6 GV) [] (λ_ a=>z++a) n
def fc {R:Type} (a:V6 GV):(V6 GV->R)->R:=List.rec (motive:=λ_=>(V6 GV->R)->R) (λk=>k []) (λx _ b k=>b λr=>k (x::r)) a
def JG (b:TB) (T:V9) (n:Nat) (f:V6 (Nat×GV)) (H:GH):OR:=ob (EA b T) λa=>ob (Ha b a.1) λc=>bif Nat.beq c.length a.2.size then(bif Nat.blt (Nat.mul n a.2.size) 16777216 then(bif Nat.beq a.2.size 0 then none else ob (Ml a.2.size f (UT c n)) λe=>H.newK (.cells e) λh d=>some (.sl h 0 n a.2.size,d))else none)else none
def UA (b:TB) (T:V9) (v u:GV) (H:GH):OR:=ob (EA b T) λa=>ob (Ha b a.1) λd=>ob v.asI λk=>ob u.asI λc=>bif eqI k.2 c.2 then ob (asN k.2) λk=>(bif Nat.beq d.length a.2.size then(bif Nat.blt (Nat.mul k a.2.bytes) 16777216 then(bif Nat.blt k 16777216 then(bif Nat.beq a.2.size 0 then none else fc (UT d k) λl=>H.newK (.cells l) λh e=>some (.sl h 0 k a.2.size,e))else none)else none)else none)else none
def lap {R:Type} (a b:V6 GV):(V6 GV->R)->R:=List.rec (motive:=λ_=>(V6 GV->R)->R) (λk=>k b) (λx _ c k=>c λr=>k (x::r)) a
def zB (H:GH) (a:Nat) (v:GV):V1 (Nat×V6 GV):=bif v.isSnil then some (0,[])else ob v.asS λs=>bif Nat.beq s.2.2.2 a then ob (H.cells s.1) λcs=>ob (slc cs s.2.1 (Nat.mul s.2.2.1 a)) λr=>some (s.2.2.1,r)else none
def Vu (H:GH) (v:GV):GH:=Option.casesOn (motive:=λ_=>GH) v.asS H λs=>H.del s.1
def aax (H:GH) (v:GV) (f:GH->OR):OR:=Option.casesOn (motive:=λ_=>OR) v.asS (f H) λs=>H.delK s.1 f
def abR (b:TB) (T e:V9) (v u:GV) (H:GH):OR:=bif v.isSnil then ob (EA b T) λa=>ob (b e) λf=>ob (tdI f.desc) λ_=>ob (Ha b a.1) λc=>ob u.asI λk=>ob (asN k.2) λn=>bif Nat.beq c.length a.2.size then(bif Nat.blt (Nat.mul n (Nat.add a.2.bytes 1)) 16777216 then(bif Nat.beq a.2.size 0 then none else(bif Nat.beq n 0 then none else fc (UT c n) λl=>H.newK (.cells l) λh d=>some (.sl h 0 n a.2.size,d)))else none)else none else none
def Za (b:TB) (T c:V9) (v u:GV) (H:GH):OR:=bif Nat.beq T c then ob (EA b T) λa=>bif Nat.beq a.2.size 0 then none else ob (Ha b a.1) λf=>bif Nat.beq f.length a.2.size then ob (zB H a.2.size v) λp=>ob (zB H a.2.size u) λq=>Nat.casesOn (motive:=λ_=>OR) q.1 (some (v,H)) (λ_=>sn (Nat.add p.1 q.1) λn=>bif Nat.blt (Nat.mul n (Nat.add a.2.bytes 1)) 16777216 then lap p.2 q.2 λl=>aax H v λe=>e.newK (.cells l) λh d=>some (.sl h 0 n a.2.size,d)else none)else none else abR b T c v u H
def afG (g:TB) (T:V9) (v u:GV) (H:GH):OR:=ob v.asS λs=>ob u.asS λr=>ob (EA g T) λb=>bif Nat.beq s.2.2.2 b.2.size then(bif Nat.beq r.2.2.2 b.2.size then(bif Nat.beq r.2.2.1 s.2.2.1 then ob (H.cells r.1) λe=>ob (slc e r.2.1 (Nat.mul r.2.2.1 b.2.size)) λc=>ob (H.cells s.1) λf=>List.casesOn (motive:=λ_=>OR) c none (λ_ _=>ob (KU c s.2.1 f) λa=>H.setK s.1 (.cells a) λd=>some (.int .i64 (.ofNat r.2.2.1),d))else none)else none)else none
def LC (H:GH):OR:=H.newK (.mp []) λh a=>some (.map h,a)
def Xv (a b:GV):V1 V4:=Option.casesOn (motive:=λ_=>V1 V4) a.asI (ob a.asStr λx=>ob b.asStr λy=>some (eqS x y)) λx=>ob b.asI λy=>bif eqK x.1 y.1 then some (eqI x.2 y.2)else none
def T_ (k:GV) (a:V6 (GV×GV)):V1 (V1 GV):=List.rec (motive:=λ_=>V1 (V1 GV)) (some none) (λe _ c=>ob (Xv k e.1) λb=>bif b then some (some e.2)else c) a
def OC (t:Ty) (k:GV):V4:=Option.casesOn (motive:=λ_=>V4) k.asI (Option.casesOn (motive:=λ_=>V4) k.asStr false (λ_=>Nb t.desc)) (λx=>Option.casesOn (motive:=λ_=>V4) (tdI t.desc) false (λ_=>true))
def abj (a:TB) (T:V9):V1 (Ty×Ty):=ob (a T) λt=>ob (tdM t.desc) λb=>ob (a b.1) λc=>ob (a b.2) λd=>some (c,d)
def afH (c:TB) (T:V9) (a:V4) (v k:GV) (H:GH):V1 GV:=ob v.asM λh=>ob (H.get h) λo=>ob o.asM λb=>ob (abj c T) λt=>bif OC t.1 k then ob (T_ k b) λr=>ob (ofV t.2.zero) λz=>Option.casesOn (motive:=λ_=>V1 GV) r (bif a then some (.tup [z,.bool false])else some z) (λg=>bif a then some (.tup [g,.bool true])else some g)else none
def aca (c:TB) (T:V9) (v k u:GV) (H:GH):OR:=ob v.asM λh=>ob (H.get h) λo=>ob o.asM λa=>ob (abj c T) λt=>bif OC t.1 k then ob (T_ k a) λr=>Option.casesOn (motive:=λ_=>OR) r (H.setK h (.mp (a++[(k,u)])) λb=>some (.un,b)) (λ_=>none)else none
section
variable {R:Type}
abbrev KT (R:Type):=GF->GH->(GV->GH->V1 R)->V1 R
def k1 (x:V3) (f:GV->V1 GV):KT R:=λa H k=>ob (some x) λx=>ob (nK a x) λv=>ob (f v) λg=>k g H
def k2 (x y:V3) (f:GV->GV->V1 GV):KT R:=λa H k=>ob (some x) λx=>ob (nK a x) λv=>ob (nK a y) λu=>ob (f v u) λg=>k g H
def k3 (x y z:V3) (f:GV->GV->GV->V1 GV):KT R:=λa H k=>ob (some x) λx=>ob (nK a x) λv=>ob (nK a y) λu=>ob (nK a z) λt=>ob (f v u t) λg=>k g H
def MQ (x:V3):KT R:=λa H k=>ob (some x) λx=>ob (nK a x) λv=>k v H
def kFn (c:Fn) (first a:Array V3):KT R:=match c with
 | .func f=>λb H k=>ob (Kt b first.toList) λd=>ob (Kt b a.toList) λe=>k (.fn f d e) H
 |_=>λ_ _ _=>none
def Mk (a:GF) (o:V1 V3):V1 (V1 GV):=Option.casesOn (motive:=λ_=>V1 (V1 GV)) o (some none) λx=>ob (nK a x) λv=>some (some v)
def ahu (e:TB) (T:V9) (x:V3) (c b d:V1 V3):KT R:=Option.casesOn (motive:=λ_=>KT R) d (λa H k=>ob (some x) λx=>ob (nK a x) λv=>ob (Mk a c) λl=>ob (Mk a b) λh=>ob (Jn e T v l h H) λg=>k g H) (λ_ _ _ _=>none)
def aht (b:TB) (T:V9) (a:V6 (Nat×V3)):KT R:=λd H k=>ob (Aa d a) λc=>ob (Wr b T c) λg=>k g H
def Ae (r:OR) (k:GV->GH->V1 R):V1 R:=ob r λp=>Prod.casesOn (motive:=λ_=>V1 R) p λg h=>k g h
def Xs (a:TB) (T:V9) (x:V3):KT R:=λb H k=>ob (some x) λx=>ob (nK b x) λv=>ob (Hy a T v H) λg=>k g H
def RI (b:TB) (T:V9) (x y:V3):KT R:=λa H k=>ob (some x) λx=>ob (nK a x) λv=>ob (nK a y) λu=>Ae (KE b T v u H) k
def aef (x:V3):KT R:=λa H k=>ob (some x) λx=>ob (nK a x) λv=>Ae (Wq v H) k
def ahs (a:TB) (T:V9):KT R:=λb H k=>Ae (Jm a T H) k
def aeh (b:TB) (T:V9) (n:Nat) (a:V6 (Nat×V3)):KT R:=λd H k=>ob (Aa d a) λc=>Ae (JG b T n c H) k
def Xu (b:TB) (T:V9) (x y:V3):KT R:=λa H k=>ob (some x) λx=>ob (nK a x) λv=>ob (nK a y) λu=>Ae (UA b T v u H) k
def aaZ (r:V1 V3):KT R:=Option.casesOn (motive:=λ_=>KT R) r (λa H k=>Ae (LC H) k) (λ_ _ _ _=>none)
def Xt (c:TB) (T:V9) (x y:V3) (b:V4):KT R:=λa H k=>ob (some x) λx=>ob (nK a x) λv=>ob (nK a y) λu=>ob (afH c T b v u H) λg=>k g H
def RH (b:TB) (T:V9) (x y z:V3):KT R:=λa H k=>ob (some x) λx=>ob (nK a x) λv=>ob (nK a y) λu=>ob (nK a z) λt=>Ae (aca b T v u t H) k
def OB (a:V6 V3) (f:V3->KT R):KT R:=List.casesOn (motive:=λ_=>KT R) a (λ_ _ _=>none) λx r=>List.casesOn (motive:=λ_=>KT R) r (f x) (λ_ _ _ _ _=>none)
def IU (a:V6 V3) (f:V3->V3->KT R):KT R:=List.casesOn (motive:=λ_=>KT R) a (λ_ _ _=>none) λx r=>List.casesOn (motive:=λ_=>KT R) r (λ_ _ _=>none) λy r=>List.casesOn (motive:=λ_=>KT R) r (f x y) (λ_ _ _ _ _=>none)
def aaX (c:TB) (a:V6 V9) (x y:V3):KT R:=λb H k=>ob (LK a 0) λT=>ob (LK a 1) λT'=>ob (nK b x) λv=>ob (nK b y) λu=>Ae (Za c T T' v u H) k
def TR (b:TB) (c:V6 V9) (x y:V3):KT R:=λa H k=>ob (LK c 0) λT=>ob (nK a x) λv=>ob (nK a y) λu=>Ae (afG b T v u H) k
def YO (a:TB) (b:V6 V9) (x:V3):KT R:=λc H k=>ob (LK b 0) λT=>ob (nK c x) λv=>ob (aj_ a T v) λg=>k g H
def YP (a:TB) (b:V6 V9) (x:V3):KT R:=λc H k=>ob (LK b 0) λT=>ob (nK c x) λv=>ob (abY a T v) λg=>k g H
def VI (a:TB) (xs:Array V3) (b:Array V9):Builtin->KT R
 | .len=>OB xs.toList (YP a b.toList)
 | .max=>IU xs.toList λx y=>k2 x y Wv
 | .min=>IU xs.toList λx y=>k2 x y acb
 | .append=>IU xs.toList (aaX a b.toList)
 | .copy=>IU xs.toList (TR a b.toList)
 | .cap=>OB xs.toList (YO a b.toList)
 |_=>λ_ _ _=>none
abbrev CH:=Nat->V6 GV->GH->OR
def aaY (b:CH) (d:Array V3) (f:V3):KT R:=λa H k=>ob (nK a f) λv=>ob v.asF λg=>ob (Kt a d.toList) λc=>Ae (b g.1 (g.2.1++c++g.2.2) H) k
def ajg (b:TB) (a:CH) (c:Call):KT R:=Callee.casesOn (motive:=λ_=>KT R) c.callee (aaY a c.args) (λ_ _ _ _ _=>none) (VI b c.args c.argTypes)
end
def SK {R:Type} (d:TB) (g:CH) (o:Op):KT R:=Op.casesOn (motive:=λ_=>KT R) o (λa=>MQ a) (λa=>MQ a) (λa b c=>k3 a b c UD) (λa=>ahs d a) (λ_ b=>aef b) (λa b=>aht d a b.toList) (λa b c=>aeh d a b c.toList) (λ_ _ _ _=>λ_ _ _=>none) (λa b=>Xs d a b) (λa b c=>RI d a b c) (λ_=>λ_ _ _=>none) (λ_=>λ_ _ _=>none) (λa=>k1 a GV.nilck) (λa b c e _=>k2 c e (Wp d a b)) (λa _ c=>k1 c (vUn a)) (λa b c=>k1 c (afF d a b)) (λ_ _=>λ_ _ _=>none) (λ_ _=>λ_ _ _=>none) (λa b c=>kFn a b c) (λ_ b=>aaZ b) (λ_ _=>λ_ _ _=>none) (λa b c=>Xu d a b c) (λa b c e f=>ahu d a b c e f) (λa b c=>k1 b (Wt d a c)) (λa b c=>k1 b (afJ d a c)) (λa b c=>k2 b c (Wu d a)) (λa b c=>k2 b c (vAt d a)) (λa b c e=>Xt d a b c e) (λa b c e=>RH d a b c e) (λ_ _ _=>λ_ _ _=>none) (λ_ _ _ _=>λ_ _ _=>none) (λ_ _=>λ_ _ _=>none) (λ_ _=>λ_ _ _=>none) (λ_=>λ_ _ _=>none) (λ_ _ _ _=>λ_ _ _=>none) (λa b=>k1 a (aim b)) (λa=>ajg d g a) (λ_=>λ_ _ _=>none) (λ_=>λ_ _ _=>none) (λ_=>λ_ _ _=>none) (λ_ _=>λ_ _ _=>none) (λ_ _ _=>λ_ _ _=>none) (λ_ _=>λ_ _ _=>none)
def ajY (x:V3):Nat:=Operand.casesOn (motive:=λ_=>Nat) x (λt=>Nat.shiftLeft 1 t) (λ_=>0) (λ_=>0) (λ_=>0)
def ajX (all:V6 V5) (o:V5):Nat:=Nat.lor (o.op.operands.toList.foldl (λm x=>Nat.lor m (ajY x)) 0) (match o.guard with
 |none=>0
 |some g=>match LK all g.1 with
  |some a=>(match a.dst with|some d=>Nat.shiftLeft 1 d|none=>0)
  |none=>0)
def alo (m:Nat) (d:V1 Nat):Nat:=match d with
 |none=>m
 |some d=>bif Nat.testBit m d then Nat.sub m (Nat.shiftLeft 1 d)else m
def aej (all l:V6 V5) (m:Nat):Nat:=l.foldr (λo m=>Nat.lor (alo m o.dst) (ajX all o)) m
structure Cx where
 res:List ResultVar
 retm:Nat
 env:List (Nat×Nat)
def GT (e:V6 (Nat×Nat)) (id:Nat):Nat:=List.rec (motive:=λ_=>Nat) 0 (λp _ a=>bif Nat.beq p.1 id then p.2 else a) e
def ajk (c:Code) (d:Nat):Nat->V6 (Nat×Nat)->Nat:=Code.rec (motive:=λ_=>Nat->V6 (Nat×Nat)->Nat)
 (λm _=>m) (λ_ b _ m _=>aej b.toList b.toList m) (λ_ _ f a m e=>f (a m e) e) (λx _ _ f a m e=>Nat.lor (ajY x) (Nat.lor (f m e) (a m e))) (λid _ a m e=>a m ((id,m)::e))
 (λ_ a _ e=>Nat.lor (a 0 e) (a (a 0 e) e)) (λ_ _ _ _ _ _ _ _=>0) (λid _ e=>GT e id) (λ_ _ _ _=>0) (λ_ _ _=>0) (λ_ _ _=>0) (λ_ _=>d) (λ_ _ _=>0) c
def live (c:Code) (m:Nat) (a:Cx):Nat:=ajk c a.retm m a.env
def ajh (f m:Nat):Nat->V6 Nat:=Nat.rec (motive:=λ_=>Nat->V6 Nat) (λ_=>[]) (λ_ a i=>bif Nat.testBit m i then i::a (Nat.succ i)else a (Nat.succ i)) f
def oY (m:Nat):V6 Nat:=ajh (Nat.succ (Nat.log2 m)) m 0
def Hr (c:GF) (b:V6 Nat):V6 GV:=List.rec (motive:=λ_=>V6 GV) [] (λk _ a=>Option.casesOn (motive:=λ_=>GV) (JJ c k) .bad (λv=>v)::a) b
def mZ {R:Type} (d:V6 Nat):V6 GV->(GF->V1 R)->V1 R:=List.rec (motive:=λ_=>V6 GV->(GF->V1 R)->V1 R) (λb k=>List.casesOn (motive:=λ_=>V1 R) b (k []) λ_ _=>none) (λa _ c b k=>List.casesOn (motive:=λ_=>V1 R) b none λv r=>c r λe=>k ((a,v)::e)) d
inductive Ex where
 |normal
 |exit (id:Nat)
 |ret
inductive afS where
 |fn (f:Nat)
 |loop (b:Code) (cx:Cx)
structure GS where
 σ:GF
 H:GH
structure Tc where
 e:Ex
 vs:List GV
 H:GH
abbrev RS:=V1 Tc
abbrev QH0:=V6 GV->GH->RS
abbrev QH:=Nat->V6 GV->GH->RS
abbrev IH:=afS->V6 GV->GH->RS
def ahW (b:TB) (s:GS) (r:ResultVar):V1 GV:=ResultVar.casesOn (motive:=λ_=>V1 GV) r (λt=>JJ s.σ t) λa T=>ob (JJ s.σ a) λv=>Hy b T v s.H
def Ui (b:TB) (s:GS) (l:V6 ResultVar):V1 (V6 GV):=List.rec (motive:=λ_=>V1 (V6 GV)) (some []) (λr _ a=>ob (ahW b s r) λv=>ob a λc=>some (v::c)) l
def NS (l:V6 ResultVar):Nat:=List.rec (motive:=λ_=>Nat) 0 (λr _ b=>Nat.lor (ResultVar.casesOn (motive:=λ_=>Nat) r (λt=>Nat.shiftLeft 1 t) (λa _=>Nat.shiftLeft 1 a)) b) l
def YW (a:V6 GV):GV:=List.casesOn (motive:=λ_=>GV) a (.tup []) (λv r=>List.casesOn (motive:=λ_=>GV) r v (λ_ _=>.tup a))
def putD (d:V1 Nat) (v:GV) (a:GF):GF:=Option.casesOn (motive:=λ_=>GF) d a λd=>(d,v)::a
def Lj (a:V6 Nat) (s:GS):RS:=some ⟨.normal,Hr s.σ a,s.H⟩
def VZ (b:TB) (a:Cx) (s:GS):RS:=ob (Ui b s a.res) λc=>some ⟨.ret,c,s.H⟩
def afp (a:V6 Nat) (k:GS->RS) (r:RS):RS:=ob r λo=>Ex.casesOn (motive:=λ_=>RS) o.e (mZ a o.vs λb=>k ⟨b,o.H⟩) (λ_=>some o) (some o)
def nB (id:Nat) (r:RS):RS:=ob r λo=>Ex.casesOn (motive:=λ_=>RS) o.e (some o) (λi=>Bool.casesOn (motive:=λ_=>RS) (Nat.beq i id) (some o) (some ⟨.normal,o.vs,o.H⟩)) (some o)
def MZ (g:GV) (H:GH):OR:=some (g,H)
def Lb (d:V1 Nat) (s:GS) (k:GS->RS) (g:GV) (H:GH):RS:=k ⟨putD d g s.σ,H⟩
def evG (c:TB) (a:CH) (o:V5) (s:GS) (b:V4) (v:GV):OR:=GV.casesOn (motive_1:=λ_=>OR) v (λ_ _=>none) (λq=>Bool.casesOn (motive:=λ_=>OR) (Xk q b) (some (.un,s.H)) (SK c a o.op s.σ s.H MZ)) (λ_ _=>none) (λ_ _=>none) none (λ_ _ _ _=>none) none (λ_=>none) (λ_ _ _=>none) none none (λ_=>none) (λ_=>none) (some (.un,s.H)) none (λ_=>none)
def Ot (b:TB) (a:CH) (all:V6 V5) (o:V5) (k:GS->RS) (s:GS):RS:=Option.casesOn (motive:=λ_=>RS) o.guard (SK b a o.op s.σ s.H (Lb o.dst s k)) λg=>ob (LK all g.1) λd=>ob d.dst λc=>ob (JJ s.σ c) λv=>Ae (evG b a o s g.2 v) (Lb o.dst s k)
def JS (c:TB) (b:CH) (all:V6 V5) (k:GS->RS) (l:V6 V5):GS->RS:=List.rec (motive:=λ_=>GS->RS) k (λo _ a s=>Ot c b all o a s) l
def rU:Op->V4
 | .load .. =>true
 |_=>false
def RG:Op->V4
 | .lookup .. =>true
 |_=>false
def ldH (a:GF):Op->V1 Nat
 | .load _ x=>ob (some x) λx=>ob (nK a x) λv=>ob v.asP λp=>some p.1
 |_=>none
def vck {a:Type} (H:GH) (h v:Nat) (k:V1 a):V1 a:=ob (H.ver h) λu=>Bool.casesOn (motive:=λ_=>V1 a) (Nat.beq u v) none k
def pck (H:GH) (e:V1 (Nat×Nat)) (k:V1 Unit):V1 Unit:=Option.casesOn (motive:=λ_=>V1 Unit) e k λp=>vck H p.1 p.2 k
def On (m:V6 Nat) (i:Nat) (H:GH) (b:V6 (Nat×V1 (Nat×Nat))):V1 Unit:=List.rec (motive:=λ_=>V1 Unit) (some ()) (λp _ a=>Bool.casesOn (motive:=λ_=>V1 Unit) (before m i p.1) (pck H p.2 a) a) b
def Oo (m:V6 Nat) (i h v:Nat) (b:V6 (Nat×GH)):V1 (V1 (Nat×Nat)):=List.rec (motive:=λ_=>V1 (V1 (Nat×Nat))) (some (some (h,v))) (λq _ a=>Bool.casesOn (motive:=λ_=>V1 (V1 (Nat×Nat))) (before m i q.1) (vck q.2 h v a) a) b
def ldV (m:V6 Nat) (i:Nat) (a:V6 (Nat×GH)) (H:GH) (l:V1 Nat):V1 (V1 (Nat×Nat)):=Option.casesOn (motive:=λ_=>V1 (V1 (Nat×Nat))) l (some none) λh=>ob (H.ver h) λv=>Oo m i h v a
abbrev WT:=Nat->V6 (Nat×V1 (Nat×Nat))->V6 (Nat×GH)->GS->RS
def aaD (f:TB) (d:CH) (all:V6 V5) (m:V6 Nat) (o:V5) (K:WT):WT:=λi b a s=>
 Bool.casesOn (motive:=λ_=>RS) (gI o.op)
  (Bool.casesOn (motive:=λ_=>RS) (rU o.op) (Ot f d all o (K (Nat.succ i) b a) s)
   (Ot f d all o (λc=>ob (ldV m i a s.H (ldH s.σ o.op)) λe=>K (Nat.succ i) ((i,e)::b) a c) s))
  (Ot f d all o (λc=>ob (On m i c.H b) λ_=>K (Nat.succ i) b ((i,s.H)::a) c) s)
def evW (c:TB) (a:CH) (all:V6 V5) (m:V6 Nat) (k:GS->RS) (l:V6 V5):WT:=List.rec (motive:=λ_=>WT) (λ_ _ _ s=>k s) (λo _ b=>aaD c a all m o b) l
def JA (l:V6 V5) (p:Op->V4):V4:=(List.range l.length).all λi=>match l[i]? with
 |none=>true
 |some o=> !p o.op||(List.range l.length).all λj=>match l[j]? with
  |none=>true
  |some a=> !gI a.op||before (sX l) i j||before (sX l) j i
def aip (a:V4) (l:V6 V5):V4:=Bool.casesOn (motive:=λ_=>V4) a false (!JA l rU)
def QE (r:RS):OR:=ob r λo=>Ex.casesOn (motive:=λ_=>OR) o.e none (λ_=>none) (some (YW o.vs,o.H))
structure GP where
 tab:TB
 cat:Nat
 ext:Nat->List GV->GH->Option (GV×GH)
 exn:Nat->List GV->Option GV
def CR:GV:= .int .i64 (.ofNat 0)
def aiU (l:CH) (m:V6 GV) (H:GH):OR:=List.casesOn (motive:=λ_=>OR) m none λu r=>List.casesOn (motive:=λ_=>OR) r (ob u.asF λg=>H.newK (.cells [CR]) λa c=>c.newK (.cells [CR]) λb d=>ob (l g.1 (g.2.1++g.2.2) d) λx=>ob (x.2.cells a) λj=>ob (x.2.cells b) λk=>
 bif Nat.beq j.length 1 then(bif Nat.beq k.length 1 then x.2.setK a (.cells [CR]) λe=>e.setK b (.cells [CR]) λf=>f.delK a λh=>h.delK b λi=>some (.tup [CR,CR],i)else none)else none) (λ_ _=>none)
def aiT (a:IH):CH:=λf b H=>QE (a (.fn f) b H)
def callQ (G:GP) (q:QH):CH:=λf a H=>Bool.casesOn (motive:=λ_=>OR) (Nat.beq f G.cat) (Option.casesOn (motive:=λ_=>OR) (G.ext f a H) (Option.casesOn (motive:=λ_=>OR) (G.exn f a) (QE (q f a H)) λg=>some (g,H)) λr=>some r) (aiU (λf a H=>QE (q f a H)) a H)
def IN (G:GP) (a:IH):CH:=callQ G λf b H=>a (.fn f) b H
abbrev ET:=Nat->Cx->(GS->RS)->GS->RS
abbrev LH:=Code->Cx->QH0
def evC (g:TB) (ch:CH) (lp:LH) (c:Code):ET:=Code.rec (motive:=λ_=>ET)
 (λ_ _ k s=>k s)
 (λ_ d h _ _ k s=>Bool.casesOn (motive:=λ_=>RS) (aip h d.toList) (JS g ch d.toList k d.toList s) (evW g ch d.toList (sX d.toList) k d.toList 0 [] [] s))
 (λ_ b f e m a k s=>f (live b m a) a (e m a k) s)
 (λx _ _ f e m a k s=>ob (nK s.σ x) λv=>ob v.asB λq=>afp (oY m) k (Bool.casesOn (motive:=λ_=>RS) q (e m a (Lj (oY m)) s) (f m a (Lj (oY m)) s)))
 (λid _ e m a k s=>afp (oY m) k (nB id (e m ⟨a.res,a.retm,(id,m)::a.env⟩ (Lj (oY m)) s)))
 (λb _ _ a _ s=>lp b a (Hr s.σ (oY (live (.loop b) 0 a))) s.H)
 (λ_ _ _ _ _ _ _ _ _ _=>none)
 (λid _ a _ s=>some ⟨.exit id,Hr s.σ (oY (GT a.env id)),s.H⟩)
 (λ_ _ _ _ _ _=>none) (λ_ _ _ _ _=>none) (λ_ _ _ _ _=>none)
 (λ_ a _ s=>VZ g a s)
 (λ_ _ _ _ _=>none) c
def YF (b:TB) (c:CH) (d:LH) (fn:Func) (e:V6 GV) (H:GH):RS:=ob fn.body λa=>mZ (List.range (Nat.add fn.params.size fn.nfree)) e λf=>evC b c d a (NS fn.results.toList) ⟨fn.results.toList,NS fn.results.toList,[]⟩ (VZ b ⟨fn.results.toList,NS fn.results.toList,[]⟩) ⟨f,H⟩
def evL (f:TB) (d:CH) (c:LH) (b:Code) (a:Cx) (g:V6 GV) (H:GH):RS:=mZ (oY (live (.loop b) 0 a)) g λh=>ob (evC f d c b (live (.loop b) 0 a) a (Lj (oY (live (.loop b) 0 a))) ⟨h,H⟩) λo=>Ex.casesOn (motive:=λ_=>RS) o.e (c b a o.vs o.H) (λ_=>some o) (some o)
abbrev FT:=Nat->V1 Func
def step (G:GP) (d:FT) (a:IH) (t:afS):V6 GV->GH->RS:=afS.casesOn (motive:=λ_=>V6 GV->GH->RS) t (λf g H=>ob (d f) λe=>YF G.tab (IN G a) (λb c=>a (.loop b c)) e g H) (evL G.tab (IN G a) λb c=>a (.loop b c))
def run (G:GP) (b:FT) (a:Nat):IH:=Nat.rec (motive:=λ_=>IH) (λ_ _ _=>none) (λ_ c=>step G b c) a
def aah (G:GP) (c:FT) (b:Nat) (f:FuncId) (a:V6 GV) (H:GH):OR:=IN G (run G c b) f a H
def H0:GH:=⟨0,.lf⟩
end
end Go.Gx