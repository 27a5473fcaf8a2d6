/- Models and proofs. Conditions: none. -/
import Derived.Test.YtemmagadjnlajaaGreatDoorZCPr6
set_option linter.unusedVariables false
set_option linter.unusedSimpArgs false
set_option maxHeartbeats 4000000
set_option maxRecDepth 20000
open Go.Proofs.Tryz
variable (U:Nat)
namespace Go.Proofs.YtemmagadjnlajaaGreatDoor
open Go.Sx
def AI (a:pT):V1 (pT):=
 some (a)
def AJ (b:Int×pT) (a:(Int×pT)->V1 (pT)) (c:pT):V1 (pT):=
 a ((wI .i64 (b.1+(1:Int))),c)
def rY (d:eY) (g:dB) (b:Int×pT) (e:(Int×pT)->V1 (pT)) (a:Int×pT) (f:(Int×pT)->V1 (pT)):V1 (pT):=
 if a.1<(d.2.1.length:Int)then(ck (0<=a.1/\a.1<(d.2.1.length:Int)) (ck (0<=b.1/\b.1<(a.2.length:Int)) (ck (0<=b.1/\b.1<(a.2.length:Int)) (Option.bind (k_ U ((((at' d.2.1 a.1).1),((at' d.2.1 a.1).2.1),((at' d.2.1 a.1).2.2.1),((at' d.2.1 a.1).2.2.2.1),((at' d.2.1 a.1).2.2.2.2.1),((at' d.2.1 a.1).2.2.2.2.2))) ((g.1,g.2)) b.1) λc=>(ck (0<=a.1/\a.1<((at' a.2 b.1).length:Int)) (ck (0<=a.1/\a.1<((at' (List.set a.2 (Int.toNat b.1) (List.set (at' a.2 b.1) (Int.toNat a.1) (c.1,((at' (at' a.2 b.1) a.1).2)))) b.1).length:Int)) (f ((wI .i64 (a.1+(1:Int))),(List.set (List.set a.2 (Int.toNat b.1) (List.set (at' a.2 b.1) (Int.toNat a.1) (c.1,((at' (at' a.2 b.1) a.1).2)))) (Int.toNat b.1) (List.set (at' (List.set a.2 (Int.toNat b.1) (List.set (at' a.2 b.1) (Int.toNat a.1) (c.1,((at' (at' a.2 b.1) a.1).2)))) b.1) (Int.toNat a.1) (((at' (at' (List.set a.2 (Int.toNat b.1) (List.set (at' a.2 b.1) (Int.toNat a.1) (c.1,((at' (at' a.2 b.1) a.1).2)))) b.1) a.1).1),c.2)))))))))))else(AJ b e (a.2))
def pR (c:eY) (d:dB) (a:Int×pT) (b:(Int×pT)->V1 (pT)):V1 (pT):=
 if a.1<((List.replicate (Int.toNat (List.length d.1:Int)) ([]:cJ)).length:Int)then(ck (0<=(c.2.1.length:Int)/\(c.2.1.length:Int)<=1099511627) (ck (0<=a.1/\a.1<(a.2.length:Int)) (bG (rY U c d a b) U ((0:Int),(List.set a.2 (Int.toNat a.1) (List.replicate (Int.toNat (c.2.1.length:Int)) ((0:Int),(0:Int))))))))else(AI (a.2))
def kX (b:eY) (a:dB):V1 (pT):=
 ck (0<=(a.1.length:Int)/\(a.1.length:Int)<=1099511627) (bG (pR U b a) U ((0:Int),(List.replicate (Int.toNat (a.1.length:Int)) ([]:cJ))))
theorem Rx:aX prog 59:=call59
theorem CB (U:Nat) {f:eY} {y:dB} (X v1 Y v3:V0) (z4:oB) (r:pT) (h:kX U f y=some r):
  aZ prog 59 #[Value.agg #[vS (f.1),X,v1],Value.agg #[Y,v3]] [Sl aN X f.2.1,Sl aJ v1 f.2.2,Sl cQ Y y.1,S2 aS v3 z4 y.2] (λx:V0×List V0=>x.1) (λx l=>Ar eD x.1 x.2::sR cS x.2 r::l) (λ_ l=>l):=by
 let A:=(Int.toNat (y.1.length:Int))
 let W:=(List.replicate A ([]:cJ))
 let D:=vI (W.length:Int);refine aZ.of func59 Z ntmps59 Z λc=>?_;refine aT<|aK (aO.box (cs:=[vS (f.1),X,v1]) Z Z) Z λb1=>let C:=bU b1 [vS (f.1),X,v1] 25;aK (aO.box (cs:=[Y,v3]) Z Z) Z λb2=>let F:=bU b2 [Y,v3] 29;aB Z<|aM<|aT<|bD Z<|bY 0 Z<|eL (FA Z) Z<|eX h λj3 h=>jY (Ei cS A)<|aK (oC (e:=eD) (zU) Z Z Z Z j3 Z Z Z) Z λw=>aB Z<|aM<|aI<|JK (B:=oA) (λH=>AI H=some r) (λH J=>[(5,w)]) (λH J=>[Ar eD w J,sR cS J H]) ?_ ?_
 .refine aT<|aA Z<|aC (mB Z (aQ.rows (i:=0) (j:=1) Z Z dL) Z) Z<|aA Z<|aM<|aU<|eP (B:=oA) (pR U f y) (λb p=>[(2,vP b1),(3,vP b2),(5,w),(14,D),(15,vI (b.1))]) (λb p=>[Ar eD w p,sR cS p b.2,F,C]) ((0:Int),W) (List.replicate A (zU)) h SF (aW.refl _) ?_;intro V b p h;let v:=(Int.toNat b.1)
  refine aT<|cX Z<|aM<|aI ?_;refine eF h Z (λh=>?_) λh=>?_
  .refine bK<|aI<|JK (B:=oA) (λn=>AJ b (bG (pR U f y) V) n=some r) (λn s=>[(2,vP b1),(3,vP b2),(5,w),(14,D),(15,vI (b.1))]) (λn s=>[Ar eD w s,sR cS s n,F,C]) ?_ ?_
   .refine aU<|aT<|aA Z<|aB Z<|aM<|aT<|aA Z<|aA Z<|bD Z<|bY 3 Z<|eL (cG Z) Z<|eX h λaa h=>aK (oC (e:=cS) (((0:Int),(0:Int))) Z Z Z Z aa Z Z Z) Z λab=>let E:=(List.set p v ab);eX h λt h=>aC (fJ Z Z (aQ.rows (i:=1) (j:=2) Z Z dL) Z Z t) Z<|eH (Know.one ((bL (aQ.res 0 Z) dL))) λQ=>jY (Oe (k:=b.1) 2 0 Z Z Z t) ?_
    refine Fl 0 1 ⟨t.1,by first|exact t.2|simpa using t.2⟩ Z Z Z Z Z (by simp) Q Z ?_;refine aM<|aT<|bD Z<|bY 3 Z<|eL (cG Z) Z<|aA Z<|aM<|aU<|eP (rY U f y b (bG (pR U f y) V)) (λa I=>[(2,vP b1),(3,vP b2),(5,w),(6,vI (b.1)),(14,D),(15,vI (b.1)),(26,X),(27,vI (f.2.1.length:Int)),(28,vI (a.1))]) (λa I=>[Ar eD w E,sR cS E a.2,F,C]) ((0:Int),(List.set b.2 v (List.replicate (Int.toNat (f.2.1.length:Int)) ((0:Int),(0:Int))))) () h SF (aW.refl _) ?_;intro ag a I h;let G:=(at' a.2 b.1)
    let q:=(at' f.2.1 a.1)
    refine aT<|cX Z<|aM<|aI ?_;refine eF h Z (λh=>?_) λh=>?_
    .refine bK<|aI<|aU<|aT<|aA Z<|eX h λR h=>aC (a_ Z Z (cG Z) Z Z R) Z<|aC (eO (cs:=[vS (q.1),vI (q.2.1),vI (q.2.2.1),vI (q.2.2.2.1),vI (q.2.2.2.2.1),vI (q.2.2.2.2.2)]) Z (cG Z) lL Z Z Z Z R) Z<|aK (aO.alloc (cs:=vD2) Z Z) Z λaf=>aB Z<|cO 0 (vs:=[vS ((at' f.2.1 a.1).1),vI ((at' f.2.1 a.1).2.1),vI ((at' f.2.1 a.1).2.2.1),vI ((at' f.2.1 a.1).2.2.2.1),vI ((at' f.2.1 a.1).2.2.2.2.1),vI ((at' f.2.1 a.1).2.2.2.2.2)]) Z Z Z Z Z Z<|aM ?_;refine xP [0,0,3,7,0,0,0,96,224,0,0,0,0,7168,15360,31744,31744,31,196095,458239,992,2097151,4194303] 21 mixedOrders ?_;refine bE Z<|bE Z<|eX h λg h=>kO (nT 2 Z) λK=>?_;refine bI Z (aW.cons 1 Z .nil) .nil (Ah 0 Z Z Z Z Z g.1 (by have q1:=g.2;have q2:=K;(try simp only[zAb]at q1);(try simp only[zAb]at q2);(try simp only[zAb]);omega)) aR.z ?_;refine kO (nT 2 Z) λL=>bI Z (aW.cons 1 Z .nil) .nil (Fi 0 Z Z L Z Z g) aR.z<|bE Z<|bE Z<|bE Z<|eX h λd h=>kO (nT 2 Z) λM=>?_;refine bI Z (aW.cons 1 Z .nil) .nil (Ah 0 Z Z Z Z Z d.1 (by have q1:=d.2;have q2:=M;(try simp only[zAb]at q1);(try simp only[zAb]at q2);(try simp only[zAb]);omega)) aR.z ?_;refine kO (nT 2 Z) λN=>bI Z (aW.cons 1 Z .nil) .nil (Fi 0 Z Z N Z Z d) aR.z<|bE Z<|qY 0 Z<|qY 3 Z<|bE Z<|dG h λm ac h=>let u:=(List.set a.2 v (List.set G (Int.toNat a.1) (m.1,((at' G a.1).2))));zBa Z Z Z (zB8 Vp (EH U Y v3 z4 m ac) Z (gK [2,3] Z)) Z (λad=>(y_ [([1],[]),([1],[]),([1],[]),([1],[])] Z)) λad=>iD Z (fN Z)<|iD Z (CZ Z Z)<|iD Z (CZ Z Z)<|eX h λS h=>kO (Know.len (aQ.row (j:=2) Z dL g.1 g.2)) λO=>iD Z (Ft Z Z O Z Z S) ?_
     refine iD Z (Jq (i:=0) Z Z Z Z Z (by decide)) ?_;refine SU Z Z Z (IF (us:=[vI (m.1)]) (o:=0) (k:=b.1) 2 ((m.1,((at' G a.1).2))) ⟨g.1,by first|exact g.2|simpa using g.2⟩ S Z Z Z Z Z Z Z Z Z Z) (λae=>(y_ [] Z)) λae=>eX h λT h=>kO (Know.len (aQ.row (j:=2) Z dL d.1 (by first|exact d.2|simpa using d.2))) λP=>?_;refine iD Z (Ft Z Z P Z Z T)<|bS 21 Z Z ?_;refine aC (Jq (i:=1) Z Z Z Z Z (by decide)) Z ?_;refine KJ (IF (us:=[vI (m.2)]) (o:=1) (k:=b.1) 2 ((((at' (at' u b.1) a.1).1),m.2)) ⟨d.1,by first|exact d.2|simpa using d.2⟩ T Z Z Z Z Z Z Z Z Z Z) λah=>dK<|jZ<|aL<|cP Z<|aA Z<|aM ?_;exact fI ((wI .i64 (a.1+(1:Int))),(List.set u v (List.set (at' u b.1) (Int.toNat a.1) (((at' (at' u b.1) a.1).1),m.2)))) () h SF (aW.ix [1,2,3,4] Z Z) (aE.refl _ _)
    refine uS<|gY<|gY<|BC<|jZ ?_;exact cF (a.2) E h SF Z
   intro n s h;unfold AJ at h;refine aL<|cP Z<|aA Z<|aM ?_;exact Ac ((wI .i64 (b.1+(1:Int))),n) (s) h SF Z
  refine fK ?_;exact bQ (b.2) (p) h SF (aW.ix [0,1] Z Z) (aE.refl _ _)
 intro H J h;unfold AI at h;refine aT<|aA Z<|aB Z<|aM<|aP ?_;cases h;exact mS (w,J) Z Z (RV.tmp Z) (aW.refl _) aE.nil
def kY (a:eY) (b:dB) (e:fE):V1 (Int):=
 Option.bind (sT U ((a.1,a.2.1,a.2.2)) ((b.1,b.2))) λd=>(if d≠(0:Int)then(some (d))else(Option.bind (kX U ((a.1,a.2.1,a.2.2)) ((b.1,b.2))) λf=>(Option.bind (AO U f e) λc=>(if(!c)=true then(some (10:Int))else(some (0:Int))))))
theorem Vn:aX prog 24:=call24
theorem FS {p0:eY} {f:dB} {o:fE} (a b d e:V0) (n:oB) (k:V0) (s:nQ) (r:Int) (h:kY U p0 f o=some r):
  aZ prog 24 #[Value.agg #[vS (p0.1),a,b],Value.agg #[d,e],k] [Sl aN a p0.2.1,Sl aJ b p0.2.2,Sl cQ d f.1,S2 aS e n f.2,S2 cQ k s o] (λx:Unit=>vI (r)) (λx l=>l) (λ_ l=>l):=by
 refine aZ.of func24 Z ntmps24 Z λc=>aT<|aK (aO.box (cs:=[vS (p0.1),a,b]) Z Z) Z λy=>aK (aO.box (cs:=[d,e]) Z Z) Z λz=>Q4 Z<|aI<|aT<|fQ 1 Z<|fQ 0 Z<|dG h λt u h=>aK (zB8 Z_ (Kb U a b d e n t u) Z (gK [0,1,2,3] Z)) Z λA=>Q4 Z<|Q5 Z<|lK Z<|aM<|eF h Z (λh=>?_) λh=>?_
 .refine Q5 Z<|Q4 Z<|aP<|aG ?_;cases h;exact mK Z
 refine bK<|aI<|aT<|fQ 1 Z<|fQ 0 Z<|dG h λp v h=>aK (zB8 Rx (CB U a b d e n p v) Z (gK [0,1,2,3] Z)) Z λq=>aA Z<|dG h λg m h=>aK (zB8 agu (Nj U q.1 (List.zip q.2 p) k s g m) Z (aE.cons (aQ.rows (i:=0) (j:=1) Z Z dL) (gK [4] Z))) Z λw=>aC (fF Z) Z<|aM<|iA h Z (λ_ h=>?_) λ_ h=>?_
 .refine Q3 Z<|aP<|aG ?_;cases h;exact mK Z
 refine bK<|Q3 Z<|aP ?_;cases h;exact mK Z
def cY (U:Nat) (a:Ff):V1 (Int×Int×Int×bN):=
 ck (0<=(wI .i64 ((a.2.2.2.2.2.2.1.length:Int) - (1:Int)))/\(wI .i64 ((a.2.2.2.2.2.2.1.length:Int) - (1:Int)))<(a.2.2.2.2.2.2.1.length:Int)) (ck (0<=(wI .i64 ((a.2.2.2.2.2.2.1.length:Int) - (1:Int)))/\(wI .i64 ((a.2.2.2.2.2.2.1.length:Int) - (1:Int)))<=(a.2.2.2.2.2.2.1.length:Int)) (some ((at' a.2.2.2.2.2.2.1 (wI .i64 ((a.2.2.2.2.2.2.1.length:Int) - (1:Int)))),a.2.2.2.2.1,a.2.2.2.2.2.1,(List.take (Int.toNat (wI .i64 ((a.2.2.2.2.2.2.1.length:Int) - (1:Int)))) a.2.2.2.2.2.2.1))))
theorem LY:aX prog 28:=call28
theorem jX {p0:Ff} (a:Nat) (j:V0) (b:Nat) (n o p q:V0) (v:oB) (s:V0) (w:nQ) (d e:V0) (k:nQ) (g f:V0) (r:Int×Int×Int×bN) (h:cY U p0=some r):
  jT prog 28 #[vP a] [bU a [j,vP b,d,e,vI (p0.2.2.2.2.1),vI (p0.2.2.2.2.2.1),g,f] 81,Ar cK g p0.2.2.2.2.2.2.1] [Sl aS j p0.1,bU b [vS (p0.2.1.1.1),n,o,p,q,vI (p0.2.1.2.2.1),s] 142,Sl aN n p0.2.1.1.2.1,Sl aJ o p0.2.1.1.2.2,Sl cQ p p0.2.1.2.1.1,S2 aS q v p0.2.1.2.1.2,S2 cQ s w p0.2.1.2.2.2,Sl aS d p0.2.2.1,S2 cQ e k p0.2.2.2.1,Sl rW f p0.2.2.2.2.2.2.2] (λx:V0=>vI (r.1)) (λx l=>bU a [j,vP b,d,e,vI (r.2.1),vI (r.2.2.1),x,f] 81::Ar cK x r.2.2.2::l):=by
 refine jT.of (vs:=[vP a]) func28 Z ntmps28 Z λc=>Q3 Z<|Q5 Z<|aC (aV Z) Z<|bD Z<|bY 0 Z<|aC (dO Z (bL (aQ.res 1 Z) fH) Z) Z<|aC (kT Z Z) Z<|Q4 Z<|Q5 Z<|aC (aV Z) Z<|bD Z<|bY 0 Z<|aA Z<|eX h λm h=>aC (a_ Z Z (bL (aQ.res 1 Z) fH) Z Z m) Z<|aC (eC Z (bL (aQ.res 1 Z) fH) Z Z Z gC m) Z<|Q4 Z<|Q5 Z<|aA Z<|aC (aV Z) Z<|bD Z<|bY 0 Z<|aA Z<|eX h λt h=>aK (Ra 1 t Z Z Z Z Z Z) Z λu=>aC (aV Z) Z<|bD Z<|eH (Know.one ((bL (aQ.res 1 Z) fH))) λi=>i_ 0 Z Z i Z Z Z<|aM<|Q5 Z<|Q4 Z<|aP ?_;cases h;exact mS (u) Z Z (RV.tmp Z) (aW.refl _) aE.nil
def EB (a:Unit):V1 (Int):=
 some (-1:Int)
def AM (c:dB) (d e a:Int) (b:(Int)->V1 (Int)):V1 (Int):=
 if a<((at' c.2 d).length:Int)then(ck (0<=a/\a<((at' c.2 d).length:Int)) (if((at' (at' c.2 d) a).1)=e then(some (a))else(b (wI .i64 (a+(1:Int))))))else(EB (()))
def mV (b:dB) (a c:Int):V1 (Int):=
 ck (0<=a/\a<(b.2.length:Int)) (bG (AM b a c) U (0:Int))
theorem Ry:aX prog 62:=call62
theorem CE {p0:dB} {a g:Int} (i j:V0) (n:oB) (r:Int) (h:mV U p0 a g=some r):
  aZ prog 62 #[Value.agg #[i,j],vI (a),vI (g)] [Sl cQ i p0.1,S2 aS j n p0.2] (λx:Unit=>vI (r)) (λx l=>l) (λ_ l=>l):=by
 refine aZ.of func62 Z ntmps62 Z λc=>aT<|aK (aO.box (cs:=[i,j]) Z Z) Z λp=>Q4 Z<|aI<|cC (λf=>EB f=some r) (λf k=>[]) (λf k=>[]) ?_ ?_
 .refine aT<|bD Z<|bY 0 Z<|aA Z<|eX h λd h=>aC (fJ Z Z (iZ Z) Z Z d) Z<|aC (eI Z (iZ Z) Z Z d) Z<|aC (dO Z (zB9 (iZ Z) d.1 d.2) Z) Z<|aA Z<|aM<|aU<|eP (AM p0 a g) (λb m=>[(2,vI (g)),(13,(at' n a).1),(14,vI ((at' p0.2 a).length:Int)),(15,vI (b))]) (λb m=>[]) (0:Int) () h SF .nil ?_;intro q b m h;refine aT<|cX Z<|aM<|aI<|eF h Z (λh=>?_) λh=>?_
  .refine bK<|aI<|aU<|Q5 Z<|eX h λe h=>aC (a_ Z Z (zB9 (iZ Z) d.1 d.2) Z Z e) Z<|aC (eO (cs:=[vI ((at' (at' p0.2 a) b).1),vI ((at' (at' p0.2 a) b).2)]) Z (zB9 (iZ Z) d.1 d.2) dL Z Z Z Z e) Z<|aK (aO.alloc (cs:=SG) Z Z) Z λo=>aB Z<|cO 0 (vs:=[vI ((at' (at' p0.2 a) b).1),vI ((at' (at' p0.2 a) b).2)]) Z Z Z Z Z Z<|aM<|aT<|bD Z<|bY 0 Z<|aA Z<|bP Z<|aM<|eF h Z (λh=>?_) λh=>?_
   .refine Q5 Z<|Q4 Z<|aP<|bB<|aG<|aG<|bB<|aG ?_;cases h;exact mK Z
   exact cZ<|jZ<|aL<|cP Z<|aA Z<|aM<|fI (wI .i64 (b+(1:Int))) () h SF .nil (aE.refl _ _)
  exact fK<|cF () (()) h SF Z
 intro f k h;unfold EB at h;refine Q3 Z<|aP ?_;cases h;exact gM Z
def bV (U:Nat) (a:Ff) (b:Int):V1 Nf:=
 ck ((a.2.2.2.2.2.2.1.length:Int)+(List.length ([b]):Int)<=1099511627) (some (a.2.2.2.2.1,a.2.2.2.2.2.1,(a.2.2.2.2.2.2.1++[b])))
theorem IM:aX prog 63:=call63
theorem gF {p0:Ff} {i:Int} (a:Nat) (n:V0) (b:Nat) (p q s t:V0) (w:oB) (u:V0) (y:nQ) (d f:V0) (o:nQ) (j g:V0) (r:Nh) (h:bV U p0 i=some r):
  jT prog 63 #[Value.pointer (some ⟨a,0,none⟩),vI (i)] [bU a [n,Value.pointer (some ⟨b,0,none⟩),d,f,vI (p0.2.2.2.2.1),vI (p0.2.2.2.2.2.1),j,g] 81,Ar cK j p0.2.2.2.2.2.2.1] [Sl aS n p0.1,bU b [vS (p0.2.1.1.1),p,q,s,t,vI (p0.2.1.2.2.1),u] 142,Sl aN p p0.2.1.1.2.1,Sl aJ q p0.2.1.1.2.2,Sl cQ s p0.2.1.2.1.1,S2 aS t w p0.2.1.2.1.2,S2 cQ u y p0.2.1.2.2.2,Sl aS d p0.2.2.1,S2 cQ f o p0.2.2.2.1,Sl rW g p0.2.2.2.2.2.2.2] (λx:V0=>Value.tuple #[]) (λx l=>bU a [n,Value.pointer (some ⟨b,0,none⟩),d,f,vI (r.1),vI (r.2.1),x,g] 81::Ar cK x r.2.2::l):=by
 refine jT.of (vs:=[Value.pointer (some ⟨a,0,none⟩),vI (i)]) func63 Z ntmps63 Z λc=>?_;unfold bV at h;refine aL<|aC (fN Z) Z<|aC (fN Z) Z<|aC (aV Z) Z<|aC (bR Z Z Z Z Z) Z<|aC (bX 0 Z Z Z Z Z) Z<|aC (fN Z) Z<|aK (fX (e:=cK) ([i]) [(0,vI (i))] Z Z Z Z (vG (vI (i)) Z) Z Z Z) Z λz=>?_;have h:=Gs h;have⟨k,h⟩:=h;refine aK (sF 2 fH Z Z Z (bL (aQ.res 0 Z) fH) Z Z Z Z k Z) Z λv=>aC (aV Z) Z<|aC (bR Z Z Z Z Z) Z<|eH (Know.one ((bL (aQ.res 2 Z) fH))) λm=>i_ 1 Z Z m Z Z Z<|dK ?_;obtain rfl:=Option.some.inj h;exact pL (v) Z Z .normal (.inr Z) (aW.ix [1,2] Z Z) aE.nil
def jM (p0:Ff) (a:Int):V1 Nf:=
 ck (0<=p0.2.2.2.2.1/\p0.2.2.2.2.1<(p0.2.2.2.1.length:Int)) (ck (0<=a/\a<((at' p0.2.2.2.1 p0.2.2.2.2.1).length:Int)) (Option.bind (bV U ((p0.1,((((p0.2.1.1.1,p0.2.1.1.2.1,p0.2.1.1.2.2)),((p0.2.1.2.1.1,p0.2.1.2.1.2)),p0.2.1.2.2.1,p0.2.1.2.2.2)),p0.2.2.1,p0.2.2.2.1,p0.2.2.2.2.1,p0.2.2.2.2.2.1,p0.2.2.2.2.2.2.1,p0.2.2.2.2.2.2.2)) (at' (at' p0.2.2.2.1 p0.2.2.2.2.1) a)) λb=>(some (b.1,b.2.1,b.2.2))))
theorem agv:aX prog 64:=call64
theorem Gd (U:Nat) {p0:Ff} {p:Int} (b:Nat) (m:V0) (e:Nat) (q s t u:V0) (w:oB) (v:V0) (y:nQ) (f g:V0) (n:nQ) (i j:V0) (r:Nh) (h:jM U p0 p=some r):
  jT prog 64 #[Value.pointer (some ⟨b,0,none⟩),vI (p)] [bU b [m,Value.pointer (some ⟨e,0,none⟩),f,g,vI (p0.2.2.2.2.1),vI (p0.2.2.2.2.2.1),i,j] 81,Ar cK i p0.2.2.2.2.2.2.1] [Sl aS m p0.1,bU e [vS (p0.2.1.1.1),q,s,t,u,vI (p0.2.1.2.2.1),v] 142,Sl aN q p0.2.1.1.2.1,Sl aJ s p0.2.1.1.2.2,Sl cQ t p0.2.1.2.1.1,S2 aS u w p0.2.1.2.1.2,S2 cQ v y p0.2.1.2.2.2,Sl aS f p0.2.2.1,S2 cQ g n p0.2.2.2.1,Sl rW j p0.2.2.2.2.2.2.2] (λx:V0=>Value.tuple #[]) (λx l=>bU b [m,Value.pointer (some ⟨e,0,none⟩),f,g,vI (r.1),vI (r.2.1),x,j] 81::Ar cK x r.2.2::l):=by
 let a:=p0.2.2.2.2;refine jT.of (vs:=[Value.pointer (some ⟨b,0,none⟩),vI (p)]) func64 Z ntmps64 Z λc=>?_;unfold jM at h;refine xP [0,0,2,6,14,0,32,96,224,510,1022,0,4094,8190,16383] 14 mixedOrders ?_;refine bI Z (aW.nil) (jS.nil) (fN Z) aR.z<|bI Z (aW.nil) (jS.nil) (fN Z) aR.z<|bI Z (aW.nil) (jS.nil) (aV Z) aR.z<|bI Z (aW.nil) (jS.nil) (bR Z Z Z Z Z) aR.z<|bI Z (aW.cons 0 Z (aW.nil)) (jS.nil) (bX 0 Z Z Z Z Z) aR.z<|bI Z (aW.nil) (jS.nil) (fN Z) aR.z<|bI Z (aW.nil) (jS.nil) (aV Z) aR.z<|bI Z (aW.nil) (jS.nil) (bR Z Z Z Z Z) aR.z<|bI Z (aW.cons 0 Z (aW.nil)) (jS.nil) (bX 0 Z Z Z Z Z) aR.z ?_;have h:=Gs h;obtain⟨d,h⟩:=h;refine bI Z (aW.nil) (jP 8 Z) (fJ Z Z (cG Z) Z Z d) aR.z<|bI Z (aW.nil) (jP 8 Z) (eI Z (cG Z) Z Z d) aR.z<|bI Z (aW.nil) (jS.nil) (fN Z) aR.z ?_;have h:=Gs h;obtain⟨k,h⟩:=h;refine bI Z (aW.nil) (jP 8 Z) (a_ Z Z (zB9 (cG Z) d.1 d.2) Z Z k) aR.z<|bI Z (aW.nil) (jP 8 Z) (eC Z (zB9 (cG Z) d.1 d.2) Z Z Z gC k) aR.z<|bS 14 Z Z ?_;have h:=bnd h;obtain⟨A,o,h⟩:=h;refine aK (c_ (Min:=[bU b [m,Value.pointer (some ⟨e,0,none⟩),f,g,vI (a.1),vI (a.2.1),i,j] 81,Ar cK i a.2.2.1]) (Mr:=[]) IM (gF (p0:=((p0.1,((((p0.2.1.1.1,p0.2.1.1.2.1,p0.2.1.1.2.2)),((p0.2.1.2.1.1,p0.2.1.2.1.2)),p0.2.1.2.2.1,p0.2.1.2.2.2)),p0.2.2.1,p0.2.2.2.1,a.1,a.2.1,a.2.2.1,a.2.2.2))) U b m e q s t u w v y f g n i j A o) Z (aW.refl _) (gK [0,1,2,3,4,5,6,7,8,9] Z) (λ_ _=>rfl)) Z λB=>dK ?_;obtain rfl:=Option.some.inj h;exact pL (B) Z Z .normal (.inr Z) (aW.refl _) aE.nil
def iF (U:Nat) (a:Ff):V1 (Int):=
 if(a.2.2.2.2.2.2.2.length:Int)=(0:Int)then(some (-1:Int))else(ck (0<=(wI .i64 ((a.2.2.2.2.2.2.2.length:Int) - (1:Int)))/\(wI .i64 ((a.2.2.2.2.2.2.2.length:Int) - (1:Int)))<(a.2.2.2.2.2.2.2.length:Int)) (some (((at' a.2.2.2.2.2.2.2 (wI .i64 ((List.length a.2.2.2.2.2.2.2:Int) - (1:Int)))).2).length:Int)))
theorem WK:aX prog 120:=call120
theorem z_ (U:Nat) {p0:Ff} (d:Nat) (p:V0) (e:Nat) (q s t u:V0) (y:oB) (w:V0) (A:nQ) (i j:V0) (o:nQ) (k b:V0) (r:Int) (h:iF U p0=some r):
  aZ prog 120 #[vP d] [bU d [p,vP e,i,j,vI (p0.2.2.2.2.1),vI (p0.2.2.2.2.2.1),k,b] 81,Sl aS p p0.1,bU e [vS (p0.2.1.1.1),q,s,t,u,vI (p0.2.1.2.2.1),w] 142,Sl aN q p0.2.1.1.2.1,Sl aJ s p0.2.1.1.2.2,Sl cQ t p0.2.1.2.1.1,S2 aS u y p0.2.1.2.1.2,S2 cQ w A p0.2.1.2.2.2,Sl aS i p0.2.2.1,S2 cQ j o p0.2.2.2.1,Sl cQ k p0.2.2.2.2.2.2.1,Sl rW b p0.2.2.2.2.2.2.2] (λx:Unit=>vI (r)) (λx l=>l) (λ_ l=>l):=by
 let a:=p0.2.2.2.2.2.2.2;let g:=(wI .i64 ((a.length:Int) - (1:Int)))
 refine aZ.of func120 Z ntmps120 Z λc=>?_;refine aT<|aB Z<|aM<|aI<|aT<|aA Z<|aC (aV Z) Z<|bD Z<|aC (eN Z (cG Z) Z Z Z) Z<|eL (aQ.fact 11 Z) Z<|bP Z<|aM ?_;refine eF h Z (λh=>?_) λh=>?_
 .refine aT<|aB Z<|aM<|aP<|aG ?_;cases h;exact gM Z
 refine bK<|aI ?_;refine xP [0,1,3,7,0,16,48,112,240,496,1023,2047,4095,8191,16383] 10 mixedOrders ?_;refine bE Z<|iD Z (aV Z)<|dA Z<|bI Z .nil (jP 0 Z) (eN Z (cG Z) Z Z Z) aR.z<|bE Z<|iD Z (aV Z)<|dA Z<|bI Z .nil (jP 0 Z) (eN Z (cG Z) Z Z Z) aR.z<|bI Z .nil (jP 11 Z) (dO Z (cG Z) Z) aR.z<|iD Z (kT Z Z)<|bS 10 Z Z<|eX h λm h=>aC (a_ Z Z (aQ.fact 11 Z) Z Z m) Z<|aC (cB Z Z Z Z Z) Z<|xE (v:=b) (ds:=a) SN (aQ.fact 11 Z) λn=>?_;refine jY (iQ ((fR (f:=Mj) (iZ Z) m.1 m.2):aQ _ _ (Sl cQ (at' n g) ((at' a g).2)))) ?_;refine aC (sZ (gv:=λx=>x) Z (iZ Z) Z Z Z Tu m) Z<|eL (cG Z) Z<|aB Z<|aM<|aP ?_;cases h;exact gM Z
def jN (p0:Ff) (b:Int):V1 Nf:=
 Option.bind (iF U ((p0.1,((((p0.2.1.1.1,p0.2.1.1.2.1,p0.2.1.1.2.2)),((p0.2.1.2.1.1,p0.2.1.2.1.2)),p0.2.1.2.2.1,p0.2.1.2.2.2)),p0.2.2.1,p0.2.2.2.1,p0.2.2.2.2.1,p0.2.2.2.2.2.1,p0.2.2.2.2.2.2.1,p0.2.2.2.2.2.2.2))) λa=>(ck (0<=a/\a<(p0.2.2.1.length:Int)) (ck (0<=((at' p0.2.2.1 a).1)/\((at' p0.2.2.1 a).1)<(p0.2.2.2.1.length:Int)) (ck (0<=b/\b<((at' p0.2.2.2.1 ((at' p0.2.2.1 a).1)).length:Int)) (Option.bind (bV U ((p0.1,((((p0.2.1.1.1,p0.2.1.1.2.1,p0.2.1.1.2.2)),((p0.2.1.2.1.1,p0.2.1.2.1.2)),p0.2.1.2.2.1,p0.2.1.2.2.2)),p0.2.2.1,p0.2.2.2.1,p0.2.2.2.2.1,p0.2.2.2.2.2.1,p0.2.2.2.2.2.2.1,p0.2.2.2.2.2.2.2)) (at' (at' p0.2.2.2.1 ((at' p0.2.2.1 a).1)) b)) λc=>(some (c.1,c.2.1,c.2.2))))))
theorem agw:aX prog 65:=call65
theorem Ge (U:Nat) {p0:Ff} {A:Int} (a:Nat) (n:V0) (e:Nat) (q s t u:V0) (B:oB) (v:V0) (C:nQ) (g i:V0) (m:nQ) (j k:V0) (r:Nh) (h:jN U p0 A=some r):
  jT prog 65 #[Value.pointer (some ⟨a,0,none⟩),vI (A)] [bU a [n,Value.pointer (some ⟨e,0,none⟩),g,i,vI (p0.2.2.2.2.1),vI (p0.2.2.2.2.2.1),j,k] 81,Ar cK j p0.2.2.2.2.2.2.1] [Sl aS n p0.1,bU e [vS (p0.2.1.1.1),q,s,t,u,vI (p0.2.1.2.2.1),v] 142,Sl aN q p0.2.1.1.2.1,Sl aJ s p0.2.1.1.2.2,Sl cQ t p0.2.1.2.1.1,S2 aS u B p0.2.1.2.1.2,S2 cQ v C p0.2.1.2.2.2,Sl aS g p0.2.2.1,S2 cQ i m p0.2.2.2.1,Sl rW k p0.2.2.2.2.2.2.2] (λx:V0=>Value.tuple #[]) (λx l=>bU a [n,Value.pointer (some ⟨e,0,none⟩),g,i,vI (r.1),vI (r.2.1),x,k] 81::Ar cK x r.2.2::l):=by
 let d:=p0.2.2.2.2;refine jT.of (vs:=[Value.pointer (some ⟨a,0,none⟩),vI (A)]) func65 Z ntmps65 Z λc=>?_;unfold jN at h;refine xP [0,0,2,6,14,0,32,96,224,0,512,2016,4064,8160,16382,32766,0,131070,262142,524287] 19 mixedOrders ?_;refine bI Z (aW.nil) (jS.nil) (fN Z) aR.z<|bI Z (aW.nil) (jS.nil) (fN Z) aR.z<|bI Z (aW.nil) (jS.nil) (aV Z) aR.z<|bI Z (aW.nil) (jS.nil) (bR Z Z Z Z Z) aR.z<|bI Z (aW.cons 0 Z (aW.nil)) (jS.nil) (bX 0 Z Z Z Z Z) aR.z<|bI Z (aW.nil) (jS.nil) (fN Z) aR.z<|bI Z (aW.nil) (jS.nil) (aV Z) aR.z<|bI Z (aW.nil) (jS.nil) (bR Z Z Z Z Z) aR.z<|bI Z (aW.cons 0 Z (aW.nil)) (jS.nil) (bX 0 Z Z Z Z Z) aR.z<|bI Z (aW.nil) (jS.nil) (fN Z) aR.z ?_;have h:=bnd h;obtain⟨D,w,h⟩:=h;refine zBa Z Z Z (HF WK (z_ U a n e q s t u B v C g i m j k D w) Z (aE.cons (aQ.res 0 Z) (aE.cons (cG Z) (aE.cons (iZ Z) (aE.cons (FA Z) (aE.cons (EQ Z) (aE.cons (Bl Z) (aE.cons (MU Z) (aE.cons (aQ.fact 6 Z) (aE.cons (aQ.fact 7 Z) (aE.cons (aQ.fact 8 Z) (aE.cons (bL (aQ.res 1 Z) fH) (gK [9] Z)))))))))))) (λ_ _=>rfl)) Z (λF=>(nS.b Z (nS.h (aW.ix [0] Z Z) (jS.nil) (nS.h (aW.nil) (jS.nil) (nS.h (aW.nil) (jS.nil) (nS.h (aW.nil) (jS.nil) (nS.h (aW.ix [0] Z Z) (jS.nil) (nS.h (aW.nil) (jS.nil) (nS.h (aW.nil) (jS.nil) (nS.h (aW.nil) (jS.nil) (nS.h (aW.nil) (jS.nil) nS.z))))))))))) λF=>?_;have h:=Gs h;obtain⟨o,h⟩:=h;refine bI Z (aW.nil) (jP 7 Z) (a_ Z Z (cG Z) Z Z o) (NM Z)<|bI Z (aW.nil) (jS.nil) (cB Z Z Z Z Z) (NM Z)<|bI Z (aW.nil) (jP 7 Z) (fW Z (cG Z) Z Z Z kS o) (NM Z) ?_;have h:=Gs h;obtain⟨f,h⟩:=h;refine bI Z (aW.nil) (jP 8 Z) (fJ Z Z (cG Z) Z Z f) (NM Z)<|bI Z (aW.nil) (jP 8 Z) (eI Z (cG Z) Z Z f) (NM Z)<|bI Z (aW.nil) (jS.nil) (fN Z) (aR.h (aW.nil) (jS.nil) aR.z) ?_;have h:=Gs h;obtain⟨p,h⟩:=h;refine bI Z (aW.nil) (jP 8 Z) (a_ Z Z (zB9 (cG Z) f.1 f.2) Z Z p) (NM Z)<|bI Z (aW.nil) (jP 8 Z) (eC Z (zB9 (cG Z) f.1 f.2) Z Z Z gC p) (NM Z)<|bS 19 Z Z ?_;have h:=bnd h;obtain⟨E,y,h⟩:=h;refine aK (c_ (Min:=[bU a [n,Value.pointer (some ⟨e,0,none⟩),g,i,vI (d.1),vI (d.2.1),j,k] 81,Ar cK j d.2.2.1]) (Mr:=[]) IM (gF (p0:=((p0.1,((((p0.2.1.1.1,p0.2.1.1.2.1,p0.2.1.1.2.2)),((p0.2.1.2.1.1,p0.2.1.2.1.2)),p0.2.1.2.2.1,p0.2.1.2.2.2)),p0.2.2.1,p0.2.2.2.1,d.1,d.2.1,d.2.2.1,d.2.2.2))) U a n e q s t u B v C g i m j k E y) Z (aW.refl _) (gK [0,1,2,3,4,5,6,7,8,9] Z) (λ_ _=>rfl)) Z λG=>dK ?_;obtain rfl:=Option.some.inj h;exact pL (G) Z Z .normal (.inr Z) (aW.refl _) aE.nil
def jL (p0:Ff) (b:Int):V1 Nf:=
 Option.bind (iF U ((p0.1,((((p0.2.1.1.1,p0.2.1.1.2.1,p0.2.1.1.2.2)),((p0.2.1.2.1.1,p0.2.1.2.1.2)),p0.2.1.2.2.1,p0.2.1.2.2.2)),p0.2.2.1,p0.2.2.2.1,p0.2.2.2.2.1,p0.2.2.2.2.2.1,p0.2.2.2.2.2.2.1,p0.2.2.2.2.2.2.2))) λc=>(Option.bind (gR U ((((p0.2.1.1.1,p0.2.1.1.2.1,p0.2.1.1.2.2)),((p0.2.1.2.1.1,p0.2.1.2.1.2)),p0.2.1.2.2.1,p0.2.1.2.2.2)) b p0.2.2.2.2.1 c) λd=>(Option.bind (bV U ((p0.1,((((p0.2.1.1.1,p0.2.1.1.2.1,p0.2.1.1.2.2)),((p0.2.1.2.1.1,p0.2.1.2.1.2)),p0.2.1.2.2.1,p0.2.1.2.2.2)),p0.2.2.1,p0.2.2.2.1,p0.2.2.2.2.1,p0.2.2.2.2.2.1,p0.2.2.2.2.2.2.1,p0.2.2.2.2.2.2.2)) d) λa=>(some (a.1,a.2.1,a.2.2))))
theorem agx:aX prog 66:=call66
theorem Ga (U:Nat) {p0:Ff} {A:Int} (a:Nat) (m:V0) (d:Nat) (n o p q:V0) (t:oB) (s:V0) (u:nQ) (f g:V0) (k:nQ) (i j:V0) (r:Nh) (h:jL U p0 A=some r):
  jT prog 66 #[Value.pointer (some ⟨a,0,none⟩),vI (A)] [bU a [m,Value.pointer (some ⟨d,0,none⟩),f,g,vI (p0.2.2.2.2.1),vI (p0.2.2.2.2.2.1),i,j] 81,Ar cK i p0.2.2.2.2.2.2.1] [Sl aS m p0.1,bU d [vS (p0.2.1.1.1),n,o,p,q,vI (p0.2.1.2.2.1),s] 142,Sl aN n p0.2.1.1.2.1,Sl aJ o p0.2.1.1.2.2,Sl cQ p p0.2.1.2.1.1,S2 aS q t p0.2.1.2.1.2,S2 cQ s u p0.2.1.2.2.2,Sl aS f p0.2.2.1,S2 cQ g k p0.2.2.2.1,Sl rW j p0.2.2.2.2.2.2.2] (λx:V0=>Value.tuple #[]) (λx l=>bU a [m,Value.pointer (some ⟨d,0,none⟩),f,g,vI (r.1),vI (r.2.1),x,j] 81::Ar cK x r.2.2::l):=by
 let e:=p0.2.2.2.2;refine jT.of (vs:=[Value.pointer (some ⟨a,0,none⟩),vI (A)]) func66 Z ntmps66 Z λc=>?_;unfold jL at h;refine xP [0,0,2,6,14,0,0,64,192,448,0,1024,4094,8191] 13 mixedOrders ?_;refine bI Z (aW.nil) (jS.nil) (fN Z) aR.z<|bI Z (aW.nil) (jS.nil) (fN Z) aR.z<|bI Z (aW.nil) (jS.nil) (aV Z) aR.z<|bI Z (aW.nil) (jS.nil) (bR Z Z Z Z Z) aR.z<|bI Z (aW.cons 0 Z (aW.nil)) (jS.nil) (bX 0 Z Z Z Z Z) aR.z<|bI Z (aW.nil) (jS.nil) (fN Z) aR.z<|bI Z (aW.nil) (jS.nil) (fN Z) aR.z<|bI Z (aW.nil) (jS.nil) (aV Z) aR.z<|bI Z (aW.nil) (jS.nil) (bR Z Z Z Z Z) aR.z<|bI Z (aW.cons 0 Z (aW.nil)) (jS.nil) (bX 0 Z Z Z Z Z) aR.z<|bI Z (aW.nil) (jS.nil) (fN Z) aR.z ?_;have h:=bnd h;obtain⟨B,v,h⟩:=h;refine zBa Z Z Z (HF WK (z_ U a m d n o p q t s u f g k i j B v) Z (aE.cons (aQ.res 0 Z) (aE.cons (cG Z) (aE.cons (iZ Z) (aE.cons (FA Z) (aE.cons (EQ Z) (aE.cons (Bl Z) (aE.cons (MU Z) (aE.cons (aQ.fact 6 Z) (aE.cons (aQ.fact 7 Z) (aE.cons (aQ.fact 8 Z) (aE.cons (bL (aQ.res 1 Z) fH) (gK [9] Z)))))))))))) (λ_ _=>rfl)) Z (λE=>(nS.b Z (nS.h (aW.ix [0] Z Z) (jS.nil) (nS.h (aW.nil) (jS.nil) (nS.h (aW.nil) (jS.nil) (nS.h (aW.nil) (jS.nil) (nS.h (aW.nil) (jS.nil) (nS.h (aW.ix [0] Z Z) (jS.nil) (nS.h (aW.nil) (jS.nil) (nS.h (aW.nil) (jS.nil) (nS.h (aW.nil) (jS.nil) (nS.h (aW.nil) (jS.nil) nS.z)))))))))))) λE=>?_;have h:=bnd h;obtain⟨C,w,h⟩:=h;refine zBa Z Z Z (HF WL (Ew U d n o p q t s u C w) Z (gK [1,2,3,4,5,6] Z) (λ_ _=>rfl)) Z (λF=>(nS.b Z (nS.b Z (nS.b Z (nS.b Z (nS.b Z (nS.b Z (nS.b Z (nS.b Z (nS.b Z (nS.b Z (nS.h (aW.nil) (jS.nil) nS.z)))))))))))) λF=>bS 13 Z Z ?_;have h:=bnd h;obtain⟨D,y,h⟩:=h;refine aK (c_ (Min:=[bU a [m,Value.pointer (some ⟨d,0,none⟩),f,g,vI (e.1),vI (e.2.1),i,j] 81,Ar cK i e.2.2.1]) (Mr:=[]) IM (gF (p0:=((p0.1,((((p0.2.1.1.1,p0.2.1.1.2.1,p0.2.1.1.2.2)),((p0.2.1.2.1.1,p0.2.1.2.1.2)),p0.2.1.2.2.1,p0.2.1.2.2.2)),p0.2.2.1,p0.2.2.2.1,e.1,e.2.1,e.2.2.1,e.2.2.2))) U a m d n o p q t s u f g k i j D y) Z (aW.refl _) (gK [0,1,2,3,4,5,6,7,8,9] Z) (λ_ _=>rfl)) Z λG=>dK ?_;obtain rfl:=Option.some.inj h;exact pL (G) Z Z .normal (.inr Z) (aW.refl _) aE.nil
def AK (a:Unit):V1 V4:=
 some (true)
def AL (c:Int) (b:(Int)->V1 V4) (a:V4):V1 V4:=
 if a=true then(some (false))else(b (wI .i64 (c+(1:Int))))
def rZ (c:bN) (a:Int) (b:(Int)->V1 V4):V1 V4:=
 if a<(c.length:Int)then(ck (0<=a/\a<(c.length:Int)) (if(at' c a)<(-1073741824:Int)then(AL a b (true))else(AL a b (decide ((1073741824:Int)<(at' c a))))))else(AK (()))
def o_ (a:bN):V1 V4:=
 bG (rZ a) U (0:Int)
theorem NC:aX prog 159:=call159
theorem CC {d:bN} (g:V0) (r:V4) (h:o_ U d=some r):
  aZ prog 159 #[g] [Sl cQ g d] (λx:Unit=>vB (r)) (λx l=>l) (λ_ l=>l):=by
 refine aZ.of func159 Z ntmps159 Z λc=>?_;unfold o_ at h;refine Q3 Z<|aI<|cC (λf=>AK f=some r) (λf i=>[]) (λf i=>[]) ?_ ?_
 .refine Q5 Z<|eL (cG Z) Z<|aA Z<|aM<|aU<|eP (rZ d) (λb j=>[(5,g),(6,vI (d.length:Int)),(7,vI (b))]) (λb j=>[]) (0:Int) () h SF (aW.refl _) ?_;intro m b j h;refine aT<|cX Z<|aM<|aI<|eF h Z (λh=>?_) λh=>?_
  .refine bK<|aI<|aU<|aT<|eX h λk h=>aC (a_ Z Z (cG Z) Z Z k) Z<|aC (eC Z (cG Z) Z Z Z gC k) Z<|Q4 Z<|aI<|cC (λa=>AL b (bG (rZ d) m) a=some r) (λa e=>[(5,g),(6,vI (d.length:Int)),(7,vI (b)),(16,vB (a))]) (λa e=>[]) ?_ ?_
   .refine aL<|aA Z<|cX Z<|aA Z<|mL h Z (λ_ h=>?_) λ_ h=>?_
    .exact aD Z<|aD Z<|bO Z<|aM<|cF (true) () h SF Z
    exact bH Z<|aF Z (mA Z Z) Z<|bT Z<|aM<|cF (decide ((1073741824:Int)<(at' d b))) () h SF Z
   intro a e h;refine iA h Z (λ_ h=>?_) λ_ h=>?_
   .refine Q3 Z<|aP<|bB<|aG<|aG<|bB<|aG ?_;cases h;exact gM Z
   exact cZ<|jZ<|aL<|cP Z<|aA Z<|aM<|Ac (wI .i64 (b+(1:Int))) () h SF Z
  exact fK<|cF () (()) h SF Z
 intro f i h;unfold AK at h;refine Q3 Z<|aP ?_;cases h;exact gM Z
def wF (b c:Int) (a:V4):V1 dW:=
 if a=true then(some ((0:Int),(2:Int)))else(Option.bind (BU U b c) λd=>(some (d,(0:Int))))
def ER (a b:Int):V1 dW:=
 if a≠(18:Int)then(if a≠(19:Int)then(wF U a b (true))else(Option.bind (o_ U ([b])) λc=>(wF U a b ((!c)))))else(Option.bind (o_ U ([b])) λd=>(wF U a b ((!d))))
theorem acX:aX prog 122:=call122
theorem Sm {p0 a:Int} (r:dJ) (h:ER U p0 a=some r):
  aZ prog 122 #[vI (p0),vI (a)] [] (λx:Unit=>Value.tuple #[vI (r.1),vI (r.2)]) (λx l=>l) (λ_ l=>l):=by
 refine aZ.of func122 Z ntmps122 Z λc=>aT<|aB Z<|Q4 Z<|aI<|aI<|cC (λb=>wF U p0 a b=some r) (λb m=>[(0,vI (p0)),(1,vI (a)),(17,vB (b))]) (λb m=>[]) ?_ ?_
 .refine aL<|aA Z<|lK Z<|aA Z<|mL h Z (λ_ h=>?_) λ_ h=>?_
  .refine bH Z<|aF Z (xH Z Z) Z<|bO Z<|aA Z<|mL h Z (λ_ h=>?_) λ_ h=>?_
   .exact aD Z<|aD Z<|aD Z<|aD Z<|bO Z<|aM<|cF (true) () h SF Z
   exact bH Z<|fU Z (fX (e:=cK) ([a]) [(0,vI (a))] Z Z Z Z (vG (vI (a)) Z) Z Z Z) Z λg=>dG h λd j h=>fU Z (zB8 NC (CC U g d j) Z (aE.cons (bL (aQ.res 0 Z) fH) .nil)) Z λp=>aF Z (fF Z) Z<|bT Z<|aM<|bQ ((!d)) () h SF .nil (aE.refl _ _)
  exact aD Z<|aD Z<|bT Z<|aA Z<|bH Z<|fU Z (fX (e:=cK) ([a]) [(0,vI (a))] Z Z Z Z (vG (vI (a)) Z) Z Z Z) Z λi=>dG h λf k h=>fU Z (zB8 NC (CC U i f k) Z (aE.cons (bL (aQ.res 0 Z) fH) .nil)) Z λq=>aF Z (fF Z) Z<|bT Z<|aM<|bQ ((!f)) () h SF .nil (aE.refl _ _)
 intro b m h;refine iA h Z (λ_ h=>?_) λ_ h=>?_
 .refine aT<|aB Z<|Q4 Z<|aP<|aG ?_;cases h;exact gA () Z Z (RV.tmp Z) (RV.tmp Z) (aW.refl _) aE.nil
 refine bK<|Q5 Z<|aA Z<|dG h λn o h=>aK (zB8 WQ (Lt U n o) Z .nil) Z λs=>aB Z<|Q4 Z<|aP ?_;cases h;exact gA () Z Z (RV.tmp Z) (RV.tmp Z) (aW.refl _) aE.nil
def kW (p0:Ff) (c:Int):V1 Nf:=
 Option.bind (cY U ((p0.1,((((p0.2.1.1.1,p0.2.1.1.2.1,p0.2.1.1.2.2)),((p0.2.1.2.1.1,p0.2.1.2.1.2)),p0.2.1.2.2.1,p0.2.1.2.2.2)),p0.2.2.1,p0.2.2.2.1,p0.2.2.2.2.1,p0.2.2.2.2.2.1,p0.2.2.2.2.2.2.1,p0.2.2.2.2.2.2.2))) λa=>(Option.bind (ER U c a.1) λd=>(Option.bind (bV U ((p0.1,((((p0.2.1.1.1,p0.2.1.1.2.1,p0.2.1.1.2.2)),((p0.2.1.2.1.1,p0.2.1.2.1.2)),p0.2.1.2.2.1,p0.2.1.2.2.2)),p0.2.2.1,p0.2.2.2.1,a.2.1,a.2.2.1,a.2.2.2,p0.2.2.2.2.2.2.2)) d.1) λb=>(some (b.1,b.2.1,b.2.2))))
theorem agy:aX prog 67:=call67
theorem FM {p0:Ff} {v:Int} (a:Nat) (n:V0) (e:Nat) (p q s t:V0) (y:oB) (u:V0) (z:nQ) (f g:V0) (o:nQ) (k i:V0) (r:Nh) (h:kW U p0 v=some r):
  jT prog 67 #[vP a,vI (v)] [bU a [n,vP e,f,g,vI (p0.2.2.2.2.1),vI (p0.2.2.2.2.2.1),k,i] 81,Ar cK k p0.2.2.2.2.2.2.1] [Sl aS n p0.1,bU e [vS (p0.2.1.1.1),p,q,s,t,vI (p0.2.1.2.2.1),u] 142,Sl aN p p0.2.1.1.2.1,Sl aJ q p0.2.1.1.2.2,Sl cQ s p0.2.1.2.1.1,S2 aS t y p0.2.1.2.1.2,S2 cQ u z p0.2.1.2.2.2,Sl aS f p0.2.2.1,S2 cQ g o p0.2.2.2.1,Sl rW i p0.2.2.2.2.2.2.2] (λx:V0=>Value.tuple #[]) (λx l=>bU a [n,vP e,f,g,vI (r.1),vI (r.2.1),x,i] 81::Ar cK x r.2.2::l):=by
 let j:=p0.2.1.1;let d:=p0.2.1.2;let b:=p0.2.2.2.2;refine jT.of (vs:=[vP a,vI (v)]) func67 Z ntmps67 Z λc=>Q5 Z<|aA Z<|dG h λm C h=>aK (c_ (Min:=[bU a [n,vP e,f,g,vI (b.1),vI (b.2.1),k,i] 81,Ar cK k b.2.2.1]) (Mr:=[]) LY (jX (p0:=((p0.1,((((j.1,j.2.1,j.2.2)),((d.1.1,d.1.2)),d.2.1,d.2.2)),p0.2.2.1,p0.2.2.2.1,b.1,b.2.1,b.2.2.1,b.2.2.2))) U a n e p q s t y u z f g o k i m C) Z (aW.refl _) (gK [0,1,2,3,4,5,6,7,8,9] Z) (λ_ _=>rfl)) Z λw=>dG h λA D h=>aK (zB8 acX (Sm U A D) Z .nil) Z λG=>aA Z<|fL Z<|fL Z<|aB Z<|Q4 Z<|aL<|aA Z<|aA Z<|dG h λB E h=>aK (c_ (Min:=[bU a [n,vP e,f,g,vI (m.2.1),vI (m.2.2.1),w,i] 81,Ar cK w m.2.2.2]) (Mr:=[]) IM (gF (p0:=((p0.1,((((j.1,j.2.1,j.2.2)),((d.1.1,d.1.2)),d.2.1,d.2.2)),p0.2.2.1,p0.2.2.2.1,m.2.1,m.2.2.1,m.2.2.2,b.2.2.2))) U a n e p q s t y u z f g o w i B E) Z (aW.refl _) (gK [0,1,2,3,4,5,6,7,8,9] Z) (λ_ _=>rfl)) Z λF=>dK ?_;cases h;exact pL (F) Z Z .normal (.inr Z) (aW.refl _) aE.nil
def xO (b c d:Int) (a:V4):V1 dW:=
 if a=true then(some ((0:Int),(2:Int)))else(Option.bind (Am U b c d) λe=>(some (e,(0:Int))))
def Dw (a b c:Int):V1 dW:=
 if a<(30:Int)then(xO U a b c (true))else(if(42:Int)<a then(xO U a b c (true))else(Option.bind (o_ U ([b,c])) λd=>(xO U a b c ((!d)))))
theorem acY:aX prog 123:=call123
theorem PL {p0 a b:Int} (r:dJ) (h:Dw U p0 a b=some r):
  aZ prog 123 #[vI (p0),vI (a),vI (b)] [] (λx:Unit=>Value.tuple #[vI (r.1),vI (r.2)]) (λx l=>l) (λ_ l=>l):=by
 refine aZ.of func123 Z ntmps123 Z λc=>aT<|aB Z<|Q4 Z<|aI<|aI<|cC (λd=>xO U p0 a b d=some r) (λd j=>[(0,vI (p0)),(1,vI (a)),(2,vI (b)),(20,vB (d))]) (λd j=>[]) ?_ ?_
 .refine aL<|aA Z<|cX Z<|aA Z<|mL h Z (λ_ h=>?_) λ_ h=>?_
  .exact aD Z<|aD Z<|bO Z<|aA Z<|aD Z<|aD Z<|aD Z<|aD Z<|aD Z<|bO Z<|aM<|cF (true) () h SF Z
  refine bH Z<|aF Z (mA Z Z) Z<|bT Z<|aA Z<|mL h Z (λ_ h=>?_) λ_ h=>?_
  .exact aD Z<|aD Z<|aD Z<|aD Z<|aD Z<|bO Z<|aM<|cF (true) () h SF Z
  exact bH Z<|bH Z<|fU Z (fX (e:=cK) ([a,b]) [(0,vI (a)),(1,vI (b))] Z Z Z Z (aaH (vI (a)) (vI (b)) Z Z) Z Z Z) Z λg=>dG h λf i h=>fU Z (zB8 NC (CC U g f i) Z (aE.cons (bL (aQ.res 0 Z) fH) .nil)) Z λn=>aF Z (fF Z) Z<|bT Z<|aM<|bQ ((!f)) () h SF .nil (aE.refl _ _)
 intro d j h;refine iA h Z (λ_ h=>?_) λ_ h=>?_
 .refine aT<|aB Z<|Q4 Z<|aP<|aG ?_;cases h;exact gA () Z Z (RV.tmp Z) (RV.tmp Z) (aW.refl _) aE.nil
 refine bK<|Q5 Z<|aA Z<|aA Z<|dG h λk m h=>aK (zB8 WR (Kc U k m) Z .nil) Z λo=>aB Z<|Q4 Z<|aP ?_;cases h;exact gA () Z Z (RV.tmp Z) (RV.tmp Z) (aW.refl _) aE.nil
def kF (p0:Ff) (d:Int):V1 Nf:=
 Option.bind (cY U ((p0.1,((((p0.2.1.1.1,p0.2.1.1.2.1,p0.2.1.1.2.2)),((p0.2.1.2.1.1,p0.2.1.2.1.2)),p0.2.1.2.2.1,p0.2.1.2.2.2)),p0.2.2.1,p0.2.2.2.1,p0.2.2.2.2.1,p0.2.2.2.2.2.1,p0.2.2.2.2.2.2.1,p0.2.2.2.2.2.2.2))) λb=>(Option.bind (cY U ((p0.1,((((p0.2.1.1.1,p0.2.1.1.2.1,p0.2.1.1.2.2)),((p0.2.1.2.1.1,p0.2.1.2.1.2)),p0.2.1.2.2.1,p0.2.1.2.2.2)),p0.2.2.1,p0.2.2.2.1,b.2.1,b.2.2.1,b.2.2.2,p0.2.2.2.2.2.2.2))) λc=>(Option.bind (Dw U d c.1 b.1) λe=>(Option.bind (bV U ((p0.1,((((p0.2.1.1.1,p0.2.1.1.2.1,p0.2.1.1.2.2)),((p0.2.1.2.1.1,p0.2.1.2.1.2)),p0.2.1.2.2.1,p0.2.1.2.2.2)),p0.2.2.1,p0.2.2.2.1,c.2.1,c.2.2.1,c.2.2.2,p0.2.2.2.2.2.2.2)) e.1) λa=>(some (a.1,a.2.1,a.2.2)))))
theorem agz:aX prog 68:=call68
theorem Fb {p0:Ff} {z:Int} (b:Nat) (m:V0) (d:Nat) (q s t u:V0) (w:oB) (v:V0) (y:nQ) (g i:V0) (n:nQ) (k j:V0) (r:Nh) (h:kF U p0 z=some r):
  jT prog 68 #[vP b,vI (z)] [bU b [m,vP d,g,i,vI (p0.2.2.2.2.1),vI (p0.2.2.2.2.2.1),k,j] 81,Ar cK k p0.2.2.2.2.2.2.1] [Sl aS m p0.1,bU d [vS (p0.2.1.1.1),q,s,t,u,vI (p0.2.1.2.2.1),v] 142,Sl aN q p0.2.1.1.2.1,Sl aJ s p0.2.1.1.2.2,Sl cQ t p0.2.1.2.1.1,S2 aS u w p0.2.1.2.1.2,S2 cQ v y p0.2.1.2.2.2,Sl aS g p0.2.2.1,S2 cQ i n p0.2.2.2.1,Sl rW j p0.2.2.2.2.2.2.2] (λx:V0=>Value.tuple #[]) (λx l=>bU b [m,vP d,g,i,vI (r.1),vI (r.2.1),x,j] 81::Ar cK x r.2.2::l):=by
 let f:=p0.2.1.1;let a:=p0.2.1.2;let e:=p0.2.2.2.2;refine jT.of (vs:=[vP b,vI (z)]) func68 Z ntmps68 Z λc=>Q5 Z<|dG h λo G h=>aK (c_ (Min:=[bU b [m,vP d,g,i,vI (e.1),vI (e.2.1),k,j] 81,Ar cK k e.2.2.1]) (Mr:=[]) LY (jX (p0:=((p0.1,((((f.1,f.2.1,f.2.2)),((a.1.1,a.1.2)),a.2.1,a.2.2)),p0.2.2.1,p0.2.2.2.1,e.1,e.2.1,e.2.2.1,e.2.2.2))) U b m d q s t u w v y g i n k j o G) Z (aW.refl _) (gK [0,1,2,3,4,5,6,7,8,9] Z) (λ_ _=>rfl)) Z λD=>Q4 Z<|Q5 Z<|dG h λp H h=>aK (c_ (Min:=[bU b [m,vP d,g,i,vI (o.2.1),vI (o.2.2.1),D,j] 81,Ar cK D o.2.2.2]) (Mr:=[]) LY (jX (p0:=((p0.1,((((f.1,f.2.1,f.2.2)),((a.1.1,a.1.2)),a.2.1,a.2.2)),p0.2.2.1,p0.2.2.2.1,o.2.1,o.2.2.1,o.2.2.2,e.2.2.2))) U b m d q s t u w v y g i n D j p H) Z (aW.refl _) (gK [0,1,2,3,4,5,6,7,8,9] Z) (λ_ _=>rfl)) Z λE=>Q4 Z<|Q5 Z<|aA Z<|aA Z<|dG h λF I h=>aK (zB8 acY (PL U F I) Z .nil) Z λJ=>aA Z<|fL Z<|fL Z<|aB Z<|Q4 Z<|aL<|aA Z<|aA Z<|dG h λA B h=>aK (c_ (Min:=[bU b [m,vP d,g,i,vI (p.2.1),vI (p.2.2.1),E,j] 81,Ar cK E p.2.2.2]) (Mr:=[]) IM (gF (p0:=((p0.1,((((f.1,f.2.1,f.2.2)),((a.1.1,a.1.2)),a.2.1,a.2.2)),p0.2.2.1,p0.2.2.2.1,p.2.1,p.2.2.1,p.2.2.2,e.2.2.2))) U b m d q s t u w v y g i n E j A B) Z (aW.refl _) (gK [0,1,2,3,4,5,6,7,8,9] Z) (λ_ _=>rfl)) Z λC=>dK ?_;cases h;exact pL (C) Z Z .normal (.inr Z) (aW.refl _) aE.nil
def gS (p0:Ff) (b:Int):V1 Nf:=
 Option.bind (cY U ((p0.1,((((p0.2.1.1.1,p0.2.1.1.2.1,p0.2.1.1.2.2)),((p0.2.1.2.1.1,p0.2.1.2.1.2)),p0.2.1.2.2.1,p0.2.1.2.2.2)),p0.2.2.1,p0.2.2.2.1,p0.2.2.2.2.1,p0.2.2.2.2.2.1,p0.2.2.2.2.2.2.1,p0.2.2.2.2.2.2.2))) λa=>(if a.1=(0:Int)then(some (a.2.1,b,a.2.2.2))else(some (a.2.1,a.2.2.1,a.2.2.2)))
theorem agA:aX prog 69:=call69
theorem Dl {p0:Ff} {m:Int} (b:Nat) (j:V0) (d:Nat) (n o p q:V0) (u:oB) (s:V0) (v:nQ) (e f:V0) (k:nQ) (g i:V0) (r:Nh) (h:gS U p0 m=some r):
  jT prog 69 #[vP b,vI (m)] [bU b [j,vP d,e,f,vI (p0.2.2.2.2.1),vI (p0.2.2.2.2.2.1),g,i] 81,Ar cK g p0.2.2.2.2.2.2.1] [Sl aS j p0.1,bU d [vS (p0.2.1.1.1),n,o,p,q,vI (p0.2.1.2.2.1),s] 142,Sl aN n p0.2.1.1.2.1,Sl aJ o p0.2.1.1.2.2,Sl cQ p p0.2.1.2.1.1,S2 aS q u p0.2.1.2.1.2,S2 cQ s v p0.2.1.2.2.2,Sl aS e p0.2.2.1,S2 cQ f k p0.2.2.2.1,Sl rW i p0.2.2.2.2.2.2.2] (λx:V0=>Value.tuple #[]) (λx l=>bU b [j,vP d,e,f,vI (r.1),vI (r.2.1),x,i] 81::Ar cK x r.2.2::l):=by
 let a:=p0.2.2.2.2;refine jT.of (vs:=[vP b,vI (m)]) func69 Z ntmps69 Z λc=>Q5 Z<|dG h λw y h=>aK (c_ (Min:=[bU b [j,vP d,e,f,vI (a.1),vI (a.2.1),g,i] 81,Ar cK g a.2.2.1]) (Mr:=[]) LY (jX (p0:=((p0.1,((((p0.2.1.1.1,p0.2.1.1.2.1,p0.2.1.1.2.2)),((p0.2.1.2.1.1,p0.2.1.2.1.2)),p0.2.1.2.2.1,p0.2.1.2.2.2)),p0.2.2.1,p0.2.2.2.1,a.1,a.2.1,a.2.2.1,a.2.2.2))) U b j d n o p q u s v e f k g i w y) Z (aW.refl _) (gK [0,1,2,3,4,5,6,7,8,9] Z) (λ_ _=>rfl)) Z λt=>bP Z<|aM<|eF h Z (λh=>?_) λh=>?_
 .refine aL<|aA Z<|aA Z<|aC (aV Z) Z<|bD Z<|i_ 0 Z Z Z Z Z Z<|dK ?_;cases h;exact pL (t) Z Z .normal (.inr Z) (aW.refl _) aE.nil
 refine cZ ?_;cases h;exact pL (t) Z Z .normal (.inr Z) (aW.refl _) aE.nil
def rV (U:Nat) (a:Ff) (b:Int):V1 dW:=
 some (a.2.2.2.2.1,b)
theorem agB:aX prog 70:=call70
theorem Gc {p0:Ff} {i:Int} (a:Nat) (j:V0) (b:Nat) (m n o p:V0) (s:oB) (q:V0) (t:nQ) (d e:V0) (k:nQ) (f g:V0) (r:dJ) (h:rV U p0 i=some r):
  jT prog 70 #[Value.pointer (some ⟨a,0,none⟩),vI (i)] [bU a [j,Value.pointer (some ⟨b,0,none⟩),d,e,vI (p0.2.2.2.2.1),vI (p0.2.2.2.2.2.1),f,g] 81] [Sl aS j p0.1,bU b [vS (p0.2.1.1.1),m,n,o,p,vI (p0.2.1.2.2.1),q] 142,Sl aN m p0.2.1.1.2.1,Sl aJ n p0.2.1.1.2.2,Sl cQ o p0.2.1.2.1.1,S2 aS p s p0.2.1.2.1.2,S2 cQ q t p0.2.1.2.2.2,Sl aS d p0.2.2.1,S2 cQ e k p0.2.2.2.1,Sl cQ f p0.2.2.2.2.2.2.1,Sl rW g p0.2.2.2.2.2.2.2] (λx:Unit=>Value.tuple #[]) (λx l=>bU a [j,Value.pointer (some ⟨b,0,none⟩),d,e,vI (r.1),vI (r.2),f,g] 81::l):=by
 refine jT.of (vs:=[Value.pointer (some ⟨a,0,none⟩),vI (i)]) func70 Z ntmps70 Z λc=>?_;unfold rV at h;refine aL<|aC (fN Z) Z<|aC (fN Z) Z<|aC (aV Z) Z<|aC (bR Z Z Z Z Z) Z<|i_ 0 Z Z Z Z Z Z<|dK ?_;obtain rfl:=Option.some.inj h;exact pL (()) Z Z .normal (.inr Z) (aW.refl _) aE.nil
def Em (c:Int) (a:bN):V1 dW:=
 Option.bind (oF U c) λd=>(if(!d)=true then(some ((0:Int),(2:Int)))else(if(24:Int)<=(a.length:Int)then(some ((0:Int),(3:Int)))else(Option.bind (o_ U a) λe=>(if(!e)=true then(some ((0:Int),(2:Int)))else(Option.bind (En U c a) λb=>(some (b,(0:Int))))))))
theorem WM:aX prog 124:=call124
theorem M_ {p0:Int} {e:bN} (a:V0) (r:dJ) (h:Em U p0 e=some r):
  aZ prog 124 #[vI (p0),a] [Sl cQ a e] (λx:Unit=>Value.tuple #[vI (r.1),vI (r.2)]) (λx l=>l) (λ_ l=>l):=by
 refine aZ.of func124 Z ntmps124 Z λc=>aT<|aB Z<|Q4 Z<|aI<|Q5 Z<|dG h λf i h=>aK (zB8 Rv (zR U f i) Z .nil) Z λm=>aC (fF Z) Z<|aM<|iA h Z (λ_ h=>?_) λ_ h=>?_
 .refine aT<|aB Z<|Q4 Z<|aP<|aG ?_;cases h;exact gA () Z Z (RV.tmp Z) (RV.tmp Z) (aW.refl _) aE.nil
 refine bK<|aI<|Q5 Z<|eL (cG Z) Z<|aC (lD Z Z) Z<|aM<|eF h Z (λh=>?_) λh=>?_
 .refine aT<|aB Z<|Q4 Z<|aP<|aG ?_;cases h;exact gA () Z Z (RV.tmp Z) (RV.tmp Z) (aW.refl _) aE.nil
 refine bK<|aI<|Q5 Z<|dG h λg j h=>aK (zB8 NC (CC U a g j) Z (gK [0] Z)) Z λn=>aC (fF Z) Z<|aM<|iA h Z (λ_ h=>?_) λ_ h=>?_
 .refine aT<|aB Z<|Q4 Z<|aP<|aG ?_;cases h;exact gA () Z Z (RV.tmp Z) (RV.tmp Z) (aW.refl _) aE.nil
 refine bK<|Q5 Z<|aA Z<|dG h λb d h=>aK (zB8 WS (Na U a b d) Z (gK [0] Z)) Z λk=>aB Z<|Q4 Z<|aP ?_;cases h;exact gA () Z Z (RV.tmp Z) (RV.tmp Z) (aW.refl _) aE.nil
def gE (p0:Ff) (b:Int):V1 (Int×Int×bN×(V6 (Int×bN))):=
 if(0:Int)<(p0.2.2.1.length:Int)then(ck ((p0.2.2.2.2.2.2.2.length:Int)+(List.length ([((wI .i64 (p0.2.2.2.2.2.1 - (1:Int))),([]:bN))]):Int)<=1099511627) (some (p0.2.2.2.2.1,p0.2.2.2.2.2.1,p0.2.2.2.2.2.2.1,(p0.2.2.2.2.2.2.2++([((wI .i64 (p0.2.2.2.2.2.1 - (1:Int))),([]:bN))])))))else(ck (0<=b/\b<(p0.1.length:Int)) (Option.bind (Em U ((at' p0.1 b).2) ([]:bN)) λc=>(Option.bind (bV U ((p0.1,((((p0.2.1.1.1,p0.2.1.1.2.1,p0.2.1.1.2.2)),((p0.2.1.2.1.1,p0.2.1.2.1.2)),p0.2.1.2.2.1,p0.2.1.2.2.2)),p0.2.2.1,p0.2.2.2.1,p0.2.2.2.2.1,p0.2.2.2.2.2.1,p0.2.2.2.2.2.2.1,p0.2.2.2.2.2.2.2)) c.1) λa=>(some (a.1,(wI .i64 (b+(1:Int))),a.2.2,p0.2.2.2.2.2.2.2)))))
theorem agC:aX prog 71:=call71
theorem F_ (U:Nat) {p0:Ff} {u:Int} (d:Nat) (q:V0) (m:Nat) (y A B C:V0) (I:oB) (D:V0) (J:nQ) (n o:V0) (s:nQ) (g k:V0) (r:Int×Int×bN×(List (Int×bN))) (h:gE U p0 u=some r):
  jT prog 71 #[vP d,vI (u)] [bU d [q,vP m,n,o,vI (p0.2.2.2.2.1),vI (p0.2.2.2.2.2.1),g,k] 81,Ar cK g p0.2.2.2.2.2.2.1,Ns k p0.2.2.2.2.2.2.2] [Sl aS q p0.1,bU m [vS (p0.2.1.1.1),y,A,B,C,vI (p0.2.1.2.2.1),D] 142,Sl aN y p0.2.1.1.2.1,Sl aJ A p0.2.1.1.2.2,Sl cQ B p0.2.1.2.1.1,S2 aS C I p0.2.1.2.1.2,S2 cQ D J p0.2.1.2.2.2,Sl aS n p0.2.2.1,S2 cQ o s p0.2.2.2.1] (λx:GI=>Value.tuple #[]) (λx l=>bU d [q,vP m,n,o,vI (r.1),vI (r.2.1),x.1,x.2] 81::Ar cK x.1 r.2.2.1::Ns x.2 r.2.2.2::l):=by
 let a:=p0.2.2.2.2.2;let f:=(wI .i64 (a.1 - (1:Int)))
 refine jT.of (vs:=[vP d,vI (u)]) func71 Z ntmps71 Z λc=>?_;refine aeU 2 Z λp=>aI<|aT<|aA Z<|aC (aV Z) Z<|bD Z<|bY 2 Z<|eL (aQ.fact 7 Z) Z<|aC (mA Z Z) Z<|aM ?_;refine eF h Z (λh=>?_) λh=>?_
 .refine aI ?_;refine xP [0,0,2,6,14,0,32,96,224,480,992,2016,4094,8191,16383,32767] 13 mixedOrders ?_;refine bE Z<|bE Z<|iD Z (aV Z)<|dA Z<|LQ Z (AE 2 Z Z) (Fh Z Z Z) Hb.z<|bE Z<|iD Z (aV Z)<|dA Z<|LQ Z (AE 2 Z Z) (Fh Z Z Z) Hb.z<|iD Z (kT Z Z) ?_;refine iD Z (ZR (r:=Value.agg #[vI (wI .i64 (p0.2.2.2.2.2.1 - (1:Int))),zU]) Z (by intro w;simp[Instr.build,Instr.fill,cL,b_,bW,cM,cN,cA,dD])) ?_;refine JR.stp (iQ ((Q_ aQ.nil SX):aQ _ _ (Pw Mj ([(zU)]) ([(f,([]:bN))]))))<|ID Z Z Z (S_ (e:=LN) ([(zU)]) ([((f,([]:bN)))]) [(0,Value.agg #[vI f,zU])] Z Z Z Z (Hi (vI f) (zU)) Z Z (show List.all [vI f,zU] one=true from(cI Z (cI Z Z))) Z) Z (λM=>(uQ.b Z (uQ.b Z (uQ.b Z (uQ.b Z (uQ.b Z (uQ.b Z (uQ.h (AE 3 Z Z) (uQ.h (jQ .nil .nil) (uQ.h (jQ .nil .nil) (uQ.h (jQ .nil .nil) (uQ.h (jQ .nil .nil) uQ.z)))))))))))) λM=>eX h λK h=>JR.stp (qL cK)<|JR.stp (Vh 3 0 Z Z Z)<|JR.stp (Qm 2 Z (aek a.2.2 ((f,([]:bN)))))<|ID Z Z Z (aO.appendD 1 0 Z Z Z Z Z Z Z Z K Z) Z (λH=>(uQ.b Z (uQ.b Z (uQ.b Z (uQ.b Z (uQ.b Z (uQ.b Z (uQ.b Z (uQ.b Z (uQ.b Z (uQ.b Z (uQ.h (jQ .nil .nil) uQ.z)))))))))))) λH=>bS 13 Z Z<|aC (aV Z) Z<|bD Z<|eH (Know.one ((CX (i:=1) (j:=2) Z Z))) λt=>i_ 3 Z Z t Z Z Z<|aM<|aP<|aG<|jY (Nx 1 2 Z Z Z Z) ?_;cases h;exact pL (g,H) Z Z .ret (.inl Z) (aW.ix [2,3,1] Z Z) aE.nil
 refine bK<|aT<|aA Z<|aC (aV Z) Z<|bD Z<|bY 2 Z<|aA Z<|eX h λG h=>aC (a_ Z Z (cG Z) Z Z G) Z<|aC (cB Z Z Z Z Z) Z<|aC (fW Z (cG Z) Z Z Z HG G) Z<|dG h λL N h=>aK (zB8 WM (M_ U (zU) L N) Z (aE.cons aQ.nil .nil)) Z λO=>aA Z<|fL Z<|fL Z<|aB Z<|aB Z<|aM<|aT<|aA Z<|aA Z<|dG h λv E h=>aK (c_ (Min:=[bU d [q,vP m,n,o,vI (p0.2.2.2.2.1),vI (a.1),g,k] 81,Ar cK g a.2.1]) (Mr:=[Ad Zs k p a.2.2,sR cK p (Jz a.2.2)]) IM (gF (p0:=((p0.1,((((p0.2.1.1.1,p0.2.1.1.2.1,p0.2.1.1.2.2)),((p0.2.1.2.1.1,p0.2.1.2.1.2)),p0.2.1.2.2.1,p0.2.1.2.2.2)),p0.2.2.1,p0.2.2.2.1,p0.2.2.2.2.1,a.1,a.2.1,a.2.2))) U d q m y A B C I D J n o s g k v E) Z (aW.ix [2,3,0,1] Z Z) (aE.cons (cG Z) (aE.cons (iZ Z) (aE.cons (FA Z) (aE.cons (EQ Z) (aE.cons (Bl Z) (aE.cons (MU Z) (aE.cons (aQ.fact 6 Z) (aE.cons (aQ.fact 7 Z) (aE.cons (aQ.fact 8 Z) (aE.cons (CX (i:=0) (j:=1) Z Z) .nil)))))))))) (λ_ _=>rfl)) Z λF=>aM<|aL<|aA Z<|aA Z<|cP Z<|aC (aV Z) Z<|bD Z<|i_ 0 Z Z Z Z Z Z<|dK<|jY (Nx 2 3 Z Z Z Z) ?_;cases h;exact pL (F,k) Z Z .normal (.inr Z) (aW.refl _) aE.nil
def jO (p0:Ff) (d:Int):V1 (Int×Int×bN×(V6 (Int×bN))):=
 ck (0<=(wI .i64 ((p0.2.2.2.2.2.2.2.length:Int) - (1:Int)))/\(wI .i64 ((p0.2.2.2.2.2.2.2.length:Int) - (1:Int)))<(p0.2.2.2.2.2.2.2.length:Int)) (Option.bind (cY U ((p0.1,((((p0.2.1.1.1,p0.2.1.1.2.1,p0.2.1.1.2.2)),((p0.2.1.2.1.1,p0.2.1.2.1.2)),p0.2.1.2.2.1,p0.2.1.2.2.2)),p0.2.2.1,p0.2.2.2.1,p0.2.2.2.2.1,p0.2.2.2.2.2.1,p0.2.2.2.2.2.2.1,p0.2.2.2.2.2.2.2))) λa=>(ck (((at' (Jz p0.2.2.2.2.2.2.2) (wI .i64 ((List.length p0.2.2.2.2.2.2.2:Int) - (1:Int)))).length:Int)+(List.length ([a.1]):Int)<=1099511627) (ck (0<=(wI .i64 ((p0.2.2.2.2.2.2.2.length:Int) - (1:Int)))/\(wI .i64 ((p0.2.2.2.2.2.2.2.length:Int) - (1:Int)))<(p0.2.2.2.2.2.2.2.length:Int)) (ck (0<=(wI .i64 ((p0.2.2.2.2.2.2.2.length:Int) - (1:Int)))/\(wI .i64 ((p0.2.2.2.2.2.2.2.length:Int) - (1:Int)))<((List.set p0.2.2.2.2.2.2.2 (Int.toNat (wI .i64 ((List.length p0.2.2.2.2.2.2.2:Int) - (1:Int)))) ((at' p0.2.2.2.2.2.2.2 (wI .i64 ((List.length p0.2.2.2.2.2.2.2:Int) - (1:Int)))).1,((at' (Jz p0.2.2.2.2.2.2.2) (wI .i64 ((List.length p0.2.2.2.2.2.2.2:Int) - (1:Int))))++[a.1]))).length:Int)) (if((at' (Jz (List.set p0.2.2.2.2.2.2.2 (Int.toNat (wI .i64 ((List.length p0.2.2.2.2.2.2.2:Int) - (1:Int)))) ((at' p0.2.2.2.2.2.2.2 (wI .i64 ((List.length p0.2.2.2.2.2.2.2:Int) - (1:Int)))).1,((at' (Jz p0.2.2.2.2.2.2.2) (wI .i64 ((List.length p0.2.2.2.2.2.2.2:Int) - (1:Int))))++[a.1])))) (wI .i64 ((List.length p0.2.2.2.2.2.2.2:Int) - (1:Int)))).length:Int)<(p0.2.2.1.length:Int)then(ck (0<=(wI .i64 ((p0.2.2.2.2.2.2.2.length:Int) - (1:Int)))/\(wI .i64 ((p0.2.2.2.2.2.2.2.length:Int) - (1:Int)))<((List.set p0.2.2.2.2.2.2.2 (Int.toNat (wI .i64 ((List.length p0.2.2.2.2.2.2.2:Int) - (1:Int)))) ((at' p0.2.2.2.2.2.2.2 (wI .i64 ((List.length p0.2.2.2.2.2.2.2:Int) - (1:Int)))).1,((at' (Jz p0.2.2.2.2.2.2.2) (wI .i64 ((List.length p0.2.2.2.2.2.2.2:Int) - (1:Int))))++[a.1]))).length:Int)) (some (a.2.1,(wI .i64 (((at' (List.set p0.2.2.2.2.2.2.2 (Int.toNat (wI .i64 ((p0.2.2.2.2.2.2.2.length:Int) - (1:Int)))) ((at' p0.2.2.2.2.2.2.2 (wI .i64 ((p0.2.2.2.2.2.2.2.length:Int) - (1:Int)))).1,((at' (Jz p0.2.2.2.2.2.2.2) (wI .i64 ((p0.2.2.2.2.2.2.2.length:Int) - (1:Int))))++[a.1]))) (wI .i64 ((p0.2.2.2.2.2.2.2.length:Int) - (1:Int)))).1)+(1:Int))),a.2.2.2,(List.set p0.2.2.2.2.2.2.2 (Int.toNat (wI .i64 ((p0.2.2.2.2.2.2.2.length:Int) - (1:Int)))) ((at' p0.2.2.2.2.2.2.2 (wI .i64 ((p0.2.2.2.2.2.2.2.length:Int) - (1:Int)))).1,((at' (Jz p0.2.2.2.2.2.2.2) (wI .i64 ((p0.2.2.2.2.2.2.2.length:Int) - (1:Int))))++[a.1]))))))else(ck (0<=(wI .i64 ((p0.2.2.2.2.2.2.2.length:Int) - (1:Int)))/\(wI .i64 ((p0.2.2.2.2.2.2.2.length:Int) - (1:Int)))<((List.set p0.2.2.2.2.2.2.2 (Int.toNat (wI .i64 ((List.length p0.2.2.2.2.2.2.2:Int) - (1:Int)))) ((at' p0.2.2.2.2.2.2.2 (wI .i64 ((List.length p0.2.2.2.2.2.2.2:Int) - (1:Int)))).1,((at' (Jz p0.2.2.2.2.2.2.2) (wI .i64 ((List.length p0.2.2.2.2.2.2.2:Int) - (1:Int))))++[a.1]))).length:Int)) (Option.bind (Em U d (at' (Jz (List.set p0.2.2.2.2.2.2.2 (Int.toNat (wI .i64 ((p0.2.2.2.2.2.2.2.length:Int) - (1:Int)))) ((at' p0.2.2.2.2.2.2.2 (wI .i64 ((p0.2.2.2.2.2.2.2.length:Int) - (1:Int)))).1,((at' (Jz p0.2.2.2.2.2.2.2) (wI .i64 ((p0.2.2.2.2.2.2.2.length:Int) - (1:Int))))++[a.1])))) (wI .i64 ((p0.2.2.2.2.2.2.2.length:Int) - (1:Int))))) λc=>(ck (0<=(0:Int)/\(0:Int)<=(wI .i64 ((p0.2.2.2.2.2.2.2.length:Int) - (1:Int)))/\(wI .i64 ((p0.2.2.2.2.2.2.2.length:Int) - (1:Int)))<=((List.set p0.2.2.2.2.2.2.2 (Int.toNat (wI .i64 ((List.length p0.2.2.2.2.2.2.2:Int) - (1:Int)))) ((at' p0.2.2.2.2.2.2.2 (wI .i64 ((List.length p0.2.2.2.2.2.2.2:Int) - (1:Int)))).1,((at' (Jz p0.2.2.2.2.2.2.2) (wI .i64 ((List.length p0.2.2.2.2.2.2.2:Int) - (1:Int))))++[a.1]))).length:Int)) (Option.bind (bV U ((p0.1,((((p0.2.1.1.1,p0.2.1.1.2.1,p0.2.1.1.2.2)),((p0.2.1.2.1.1,p0.2.1.2.1.2)),p0.2.1.2.2.1,p0.2.1.2.2.2)),p0.2.2.1,p0.2.2.2.1,a.2.1,a.2.2.1,a.2.2.2,(List.take (Int.toNat (wI .i64 ((p0.2.2.2.2.2.2.2.length:Int) - (1:Int)))) (List.set p0.2.2.2.2.2.2.2 (Int.toNat (wI .i64 ((p0.2.2.2.2.2.2.2.length:Int) - (1:Int)))) ((at' p0.2.2.2.2.2.2.2 (wI .i64 ((p0.2.2.2.2.2.2.2.length:Int) - (1:Int)))).1,((at' (Jz p0.2.2.2.2.2.2.2) (wI .i64 ((p0.2.2.2.2.2.2.2.length:Int) - (1:Int))))++[a.1])))))) c.1) λb=>(some (b.1,b.2.1,b.2.2,(List.take (Int.toNat (wI .i64 ((p0.2.2.2.2.2.2.2.length:Int) - (1:Int)))) (List.set p0.2.2.2.2.2.2.2 (Int.toNat (wI .i64 ((p0.2.2.2.2.2.2.2.length:Int) - (1:Int)))) ((at' p0.2.2.2.2.2.2.2 (wI .i64 ((p0.2.2.2.2.2.2.2.length:Int) - (1:Int)))).1,((at' (Jz p0.2.2.2.2.2.2.2) (wI .i64 ((p0.2.2.2.2.2.2.2.length:Int) - (1:Int))))++[a.1])))))))))))))))
theorem agD:aX prog 72:=call72
theorem Gf (U:Nat) {p0:Ff} {W:Int} (d:Nat) (D:V0) (g:Nat) (P Q R S:V0) (z7:oB) (T:V0) (z9:nQ) (m n:V0) (E:nQ) (v o:V0) (r:Int×Int×bN×(List (Int×bN))) (h:jO U p0 W=some r):
  jT prog 72 #[vP d,vI (W)] [bU d [D,vP g,m,n,vI (p0.2.2.2.2.1),vI (p0.2.2.2.2.2.1),v,o] 81,Ar cK v p0.2.2.2.2.2.2.1,Ns o p0.2.2.2.2.2.2.2] [Sl aS D p0.1,bU g [vS (p0.2.1.1.1),P,Q,R,S,vI (p0.2.1.2.2.1),T] 142,Sl aN P p0.2.1.1.2.1,Sl aJ Q p0.2.1.1.2.2,Sl cQ R p0.2.1.2.1.1,S2 aS S z7 p0.2.1.2.1.2,S2 cQ T z9 p0.2.1.2.2.2,Sl aS m p0.2.2.1,S2 cQ n E p0.2.2.2.1] (λx:GI=>Value.tuple #[]) (λx l=>bU d [D,vP g,m,n,vI (r.1),vI (r.2.1),x.1,x.2] 81::Ar cK x.1 r.2.2.1::Ns x.2 r.2.2.2::l):=by
 let s:=p0.2.1.1;let f:=p0.2.1.2;let k:=p0.2.2.2.2;let a:=k.2.2.2;let q:=(wI .i64 ((a.length:Int) - (1:Int)))
 let B:=(at' (Jz a) q)
 let y:=(Int.toNat q)
 let w:=Mw o (Int.toNat 0) y 2;refine jT.of (vs:=[vP d,vI (W)]) func72 Z ntmps72 Z λc=>?_;refine aeU 2 Z λC=>aT<|aA Z<|aC (aV Z) Z<|bD Z<|bY 2 Z<|aC (dO Z (CX (i:=0) (j:=1) Z Z) Z) Z<|aC (kT Z Z) Z<|aB Z<|aM<|aI ?_;refine xP [0,1,3,7,0,0,32,96,224,0,992,2016,4064,0,8192,24576,65504,131071,262143,524287] 17 mixedOrders ?_;refine bE Z<|iD Z (aV Z)<|dA Z<|LQ Z (AE 2 Z Z) (Fh Z Z Z) Hb.z<|bE Z<|bE Z<|iD Z (aV Z)<|dA Z<|LQ Z (AE 2 Z Z) (Fh Z Z Z) Hb.z<|bE Z<|eX h λO h=>kO (Fp 0 Z) λV=>iD Z (Ft Z Z V Z Z O)<|iD Z (cB Z Z Z Z Z)<|bI Z (aW.cons 0 Z .nil) .nil (sZ (gv:=λx=>x) Z (Oc (i:=0) Z) Z Z Z (λ_ _=>rfl) O) aR.z<|bE Z<|dG h λp w5 h=>let M:=(List.take y (List.set a y ((at' a q).1,(B++[p.1]))));ID Z Z Z (c_ (Min:=[bU d [D,vP g,m,n,vI (k.1),vI (k.2.1),v,o] 81,Ar cK v k.2.2.1]) (Mr:=[Ad Zs o C a,sR cK C (Jz a)]) LY (jX (p0:=((p0.1,((((s.1,s.2.1,s.2.2)),((f.1.1,f.1.2)),f.2.1,f.2.2)),p0.2.2.1,p0.2.2.2.1,k.1,k.2.1,k.2.2.1,a))) U d D g P Q R S z7 T z9 m n E v o p w5) Z (aW.ix [2,3,0,1] Z Z) (aE.cons (cG Z) (aE.cons (iZ Z) (aE.cons (FA Z) (aE.cons (EQ Z) (aE.cons (Bl Z) (aE.cons (MU Z) (aE.cons (aQ.fact 6 Z) (aE.cons (aQ.fact 7 Z) (aE.cons (aQ.fact 8 Z) (aE.cons (CX (i:=0) (j:=1) Z Z) .nil)))))))))) (λ_ _=>rfl)) Z (λN=>(uQ.b Z (uQ.h (jQ (aW.ix [2] Z Z) .nil) (uQ.h (jQ .nil .nil) (uQ.h (jQ .nil .nil) (uQ.h (jQ .nil .nil) (uQ.h (AE 0 Z Z) (uQ.h (jQ .nil .nil) (uQ.h (jQ .nil .nil) (uQ.h (jQ .nil .nil) (uQ.h (jQ .nil .nil) (uQ.h (AE 0 Z Z) (uQ.h (jQ .nil .nil) (uQ.h (jQ .nil .nil) (uQ.h (jQ .nil .nil) uQ.z))))))))))))))) λN=>ID Z Z Z (fX (e:=cK) ([p.1]) [(0,vI (p.1))] Z Z Z Z (vG (vI (p.1)) Z) Z Z Z) Z (λu7=>(uQ.b Z (uQ.h (jQ (aW.ix [3] Z Z) .nil) (uQ.h (jQ .nil .nil) (uQ.h (jQ .nil .nil) (uQ.h (jQ .nil .nil) (uQ.h (AE 1 Z Z) (uQ.h (jQ .nil .nil) (uQ.h (jQ .nil .nil) (uQ.h (jQ .nil .nil) (uQ.h (jQ .nil .nil) (uQ.h (AE 1 Z Z) (uQ.h (jQ .nil .nil) (uQ.h (jQ .nil .nil) (uQ.h (jQ .nil .nil) uQ.z))))))))))))))) λu7=>eX h λj9 h=>ID Z Z Z (vD 4 fH Z Z Z (bL (aQ.res 0 Z) fH) Z Z Z Z ⟨O.1,by rw[ael];exact O.2⟩ j9 Z) Z (λu8=>(uQ.b Z (uQ.b Z (uQ.b Z (uQ.b Z (uQ.b Z (uQ.b Z (uQ.b Z (uQ.b Z (uQ.b Z (uQ.h (jQ .nil .nil) (uQ.h (AE 1 Z Z) (uQ.h (jQ .nil .nil) (uQ.h (jQ .nil .nil) (uQ.h (jQ .nil .nil) uQ.z))))))))))))))) λu8=>bS 17 Z Z<|eX h λK h=>eH (Fp 3 Z) λF=>aC (Ft Z Z F Z Z K) Z<|aC (cB Z Z Z Z Z) Z<|KJ (Rb 3 4 ((at' a q).1,(B++[p.1])) K Z Z Z Z Z Z) λad=>jY (Qm 4 Z (aem a _ ((at' a q).1,(B++[p.1]))))<|aM<|aI<|aI ?_
 refine xP [0,1,3,7,0,31,63,127,255,0,512,1536,3584,7680,16383] 14 mixedOrders ?_;refine bE Z<|iD Z (aV Z)<|dA Z<|LQ Z (AE 1 Z Z) (Fh Z Z Z) Hb.z<|bE Z<|eX h λt h=>kO (Fp 3 Z) λG=>iD Z (Ft Z Z G Z Z t)<|iD Z (cB Z Z Z Z Z)<|bI Z (aW.cons 3 Z .nil) .nil (sZ (gv:=λx=>x) Z (Oc (i:=0) Z) Z Z Z (λ_ _=>rfl) t) aR.z ?_;refine bI Z (aW.cons 4 Z .nil) .nil (dO Z (aQ.row (j:=0) Z fH t.1 (by first|exact t.2|simpa using t.2)) Z) aR.z ?_;refine bE Z<|iD Z (aV Z)<|dA Z<|LQ Z (AE 1 Z Z) (Fh Z Z Z) Hb.z<|bI Z .nil (jP 7 Z) (dO Z (cG Z) Z) aR.z<|bS 14 Z Z<|cX Z<|aM ?_;refine eF h Z (λh=>?_) λh=>?_
 .refine aT<|aA Z<|aA Z<|aC (aV Z) Z<|bD Z<|bY 1 Z<|aA Z<|eX h λL h=>eH (Fp 3 Z) λH=>aC (Ft Z Z H Z Z L) Z<|aC (cB Z Z Z Z Z) Z<|aC (fW Z (CX (i:=3) (j:=4) Z Z) Z Z Z Te L) Z<|cP Z<|aC (aV Z) Z<|bD Z<|i_ 1 Z Z Z Z Z Z<|aM<|aP<|aG<|jY (Nx 3 4 Z Z Z Z) ?_;cases h;exact pL (N,o) Z Z .ret (.inl Z) (aW.ix [1,2,3] Z Z) aE.nil
 refine bK<|aT<|aA Z<|aA Z<|aC (aV Z) Z<|bD Z<|bY 1 Z<|aA Z<|eX h λu h=>eH (Fp 3 Z) λI=>aC (Ft Z Z I Z Z u) Z<|aC (cB Z Z Z Z Z) Z<|aC (sZ (gv:=λx=>x) Z (Oc (i:=3) Z) Z Z Z (λ_ _=>rfl) u) Z<|dG h λX aa h=>aK (zB8 WM (M_ U (at' (List.set C y u8) q) X aa) Z (aE.cons (aQ.row (j:=4) Z fH u.1 (by first|exact u.2|simpa using u.2)) .nil)) Z λae=>?_;refine aA Z<|fL Z<|fL Z<|aB Z<|aB Z<|aM<|aT<|aA Z<|aA Z<|aC (aV Z) Z<|bD Z<|bY 1 Z<|aA Z<|eX h λA h=>aC (II Z Z (CX (i:=3) (j:=4) Z Z) Z Z A) Z<|aC (aV Z) Z<|bD Z<|eH (Know.one ((aQ.part (CX (i:=3) (j:=4) Z Z) Z A))) λJ=>i_ 1 Z Z J Z Z Z<|aM<|jY (Nx 3 4 Z Z Z Z)<|jY (PD (sz:=2) 3 Z A)<|aL<|aA Z<|aA Z<|dG h λY ab h=>aK (c_ (Min:=[bU d [D,vP g,m,n,vI (p.2.1),vI (p.2.2.1),N,w] 81,Ar cK N p.2.2.2]) (Mr:=[Ar cK u7 ([p.1]),Ns (w) M]) IM (gF (p0:=((p0.1,((((s.1,s.2.1,s.2.2)),((f.1.1,f.1.2)),f.2.1,f.2.2)),p0.2.2.1,p0.2.2.2.1,p.2.1,p.2.2.1,p.2.2.2,M))) U d D g P Q R S z7 T z9 m n E N (w) Y ab) Z (aW.ix [1,2,0,3] Z Z) (aE.cons (cG Z) (aE.cons (iZ Z) (aE.cons (FA Z) (aE.cons (EQ Z) (aE.cons (Bl Z) (aE.cons (MU Z) (aE.cons (aQ.fact 6 Z) (aE.cons (aQ.fact 7 Z) (aE.cons (aQ.fact 8 Z) (aE.cons (Ag (i:=1) Z) .nil)))))))))) (λ_ _=>rfl)) Z λac=>dK ?_;cases h;exact pL (ac,(w)) Z Z .normal (.inr Z) (aW.ix [0,1,3] Z Z) aE.nil
def FE (p0:cJ) (c:eY) (d:dB) (f:fE) (g:Int) (b:Bz) (a:Int×Int×Int×bN×(V6 (Int×bN))):V1 kZ:=
 Option.bind (cY U ((p0,((((c.1,c.2.1,c.2.2)),((d.1,d.2)),b.1,b.2)),(at' d.2 g),f,a.2.1,a.2.2.1,a.2.2.2.1,a.2.2.2.2))) λe=>(some (e.1,a.1,(0:Int)))
def eJ (p0:cJ) (d:eY) (e:dB) (f:fE) (g:Int) (b:Bz) (a:Int×Int×Int×bN×(V6 (Int×bN))) (c:(Int×Int×Int×bN×(V6 (Int×bN)))->V1 kZ):V1 kZ:=
 if a.2.2.1<(p0.length:Int)then(ck (0<=a.2.2.1/\a.2.2.1<(p0.length:Int)) (if(at' p0 a.2.2.1).1=(1:Int)then(Option.bind (bV U ((p0,((((d.1,d.2.1,d.2.2)),((e.1,e.2)),b.1,b.2)),(at' e.2 g),f,a.2.1,(wI .i64 (a.2.2.1+(1:Int))),a.2.2.2.1,a.2.2.2.2)) ((at' p0 a.2.2.1).2)) λj=>(c ((wI .i64 (a.1+(1:Int))),j.1,j.2.1,j.2.2,a.2.2.2.2)))else(if(at' p0 a.2.2.1).1=(2:Int)then(Option.bind (jM U ((p0,((((d.1,d.2.1,d.2.2)),((e.1,e.2)),b.1,b.2)),(at' e.2 g),f,a.2.1,(wI .i64 (a.2.2.1+(1:Int))),a.2.2.2.1,a.2.2.2.2)) ((at' p0 a.2.2.1).2)) λk=>(c ((wI .i64 (a.1+(1:Int))),k.1,k.2.1,k.2.2,a.2.2.2.2)))else(if(at' p0 a.2.2.1).1=(3:Int)then(Option.bind (jN U ((p0,((((d.1,d.2.1,d.2.2)),((e.1,e.2)),b.1,b.2)),(at' e.2 g),f,a.2.1,(wI .i64 (a.2.2.1+(1:Int))),a.2.2.2.1,a.2.2.2.2)) ((at' p0 a.2.2.1).2)) λl=>(c ((wI .i64 (a.1+(1:Int))),l.1,l.2.1,l.2.2,a.2.2.2.2)))else(if(at' p0 a.2.2.1).1=(4:Int)then(Option.bind (jL U ((p0,((((d.1,d.2.1,d.2.2)),((e.1,e.2)),b.1,b.2)),(at' e.2 g),f,a.2.1,(wI .i64 (a.2.2.1+(1:Int))),a.2.2.2.1,a.2.2.2.2)) ((at' p0 a.2.2.1).2)) λm=>(c ((wI .i64 (a.1+(1:Int))),m.1,m.2.1,m.2.2,a.2.2.2.2)))else(if(at' p0 a.2.2.1).1=(5:Int)then(Option.bind (kW U ((p0,((((d.1,d.2.1,d.2.2)),((e.1,e.2)),b.1,b.2)),(at' e.2 g),f,a.2.1,(wI .i64 (a.2.2.1+(1:Int))),a.2.2.2.1,a.2.2.2.2)) ((at' p0 a.2.2.1).2)) λn=>(c ((wI .i64 (a.1+(1:Int))),n.1,n.2.1,n.2.2,a.2.2.2.2)))else(if(at' p0 a.2.2.1).1=(6:Int)then(Option.bind (kF U ((p0,((((d.1,d.2.1,d.2.2)),((e.1,e.2)),b.1,b.2)),(at' e.2 g),f,a.2.1,(wI .i64 (a.2.2.1+(1:Int))),a.2.2.2.1,a.2.2.2.2)) ((at' p0 a.2.2.1).2)) λo=>(c ((wI .i64 (a.1+(1:Int))),o.1,o.2.1,o.2.2,a.2.2.2.2)))else(if(at' p0 a.2.2.1).1=(7:Int)then(Option.bind (gS U ((p0,((((d.1,d.2.1,d.2.2)),((e.1,e.2)),b.1,b.2)),(at' e.2 g),f,a.2.1,(wI .i64 (a.2.2.1+(1:Int))),a.2.2.2.1,a.2.2.2.2)) ((at' p0 a.2.2.1).2)) λp=>(c ((wI .i64 (a.1+(1:Int))),p.1,p.2.1,p.2.2,a.2.2.2.2)))else(if(at' p0 a.2.2.1).1=(8:Int)then(Option.bind (rV U ((p0,((((d.1,d.2.1,d.2.2)),((e.1,e.2)),b.1,b.2)),(at' e.2 g),f,a.2.1,(wI .i64 (a.2.2.1+(1:Int))),a.2.2.2.1,a.2.2.2.2)) ((at' p0 a.2.2.1).2)) λq=>(c ((wI .i64 (a.1+(1:Int))),q.1,q.2,a.2.2.2.1,a.2.2.2.2)))else(if(at' p0 a.2.2.1).1=(9:Int)then(Option.bind (gE U ((p0,((((d.1,d.2.1,d.2.2)),((e.1,e.2)),b.1,b.2)),(at' e.2 g),f,a.2.1,(wI .i64 (a.2.2.1+(1:Int))),a.2.2.2.1,a.2.2.2.2)) ((at' p0 a.2.2.1).2)) λh=>(c ((wI .i64 (a.1+(1:Int))),h.1,h.2.1,h.2.2.1,h.2.2.2)))else(if(at' p0 a.2.2.1).1=(10:Int)then(Option.bind (jO U ((p0,((((d.1,d.2.1,d.2.2)),((e.1,e.2)),b.1,b.2)),(at' e.2 g),f,a.2.1,(wI .i64 (a.2.2.1+(1:Int))),a.2.2.2.1,a.2.2.2.2)) ((at' p0 a.2.2.1).2)) λi=>(c ((wI .i64 (a.1+(1:Int))),i.1,i.2.1,i.2.2.1,i.2.2.2)))else(none))))))))))))else(FE U p0 d e f g b (a.1,a.2.1,a.2.2.1,a.2.2.2.1,a.2.2.2.2))
def Cf (p0:cJ) (d:eY) (e:dB) (f:fE) (b:Int) (a:Bz) (c:Unit):V1 kZ:=
 bG (eJ U p0 d e f b a) (U+1000000) ((0:Int),b,(0:Int),([]:bN),([]:FW))
def Ce (p0:cJ) (d:eY) (c:dB) (e:fE) (b:Int) (a:Bz):V1 kZ:=
 ck (0<=b/\b<(c.2.length:Int)) (Cf U p0 d c e b a (()))
def xY (p0:cJ) (b:eY) (c:dB) (d:fE) (e:Int) (a:Bz):V1 kZ:=
 Ce U p0 b c d e (a.1,a.2)
def FG (d:dB) (a:Hw) (b:Iu->V1 kZ) (c:fE):V1 kZ:=
 b ((wI .i64 (a.1+(1:Int))),(max a.2.1 (at' d.1 a.1)),c)
def FH (f:dB) (a:Hw) (d:Iu->V1 kZ) (b:Bz) (e:(Int×fE)->V1 kZ):V1 kZ:=
 if b.1<((at' f.2 a.1).length:Int)then(ck (0<=b.1/\b.1<((at' f.2 a.1).length:Int)) (ck (0<=a.1/\a.1<(b.2.length:Int)) (Option.bind (mV U ((f.1,f.2)) ((at' (at' f.2 a.1) b.1).1) a.1) λc=>(ck (((at' b.2 a.1).length:Int)+(List.length ([c]):Int)<=1099511627) (ck (0<=a.1/\a.1<((List.set b.2 (Int.toNat a.1) ((at' b.2 a.1)++[c])).length:Int)) (e ((wI .i64 (b.1+(1:Int))),(List.set b.2 (Int.toNat a.1) ((at' b.2 a.1)++[c])))))))))else(FG f a d (b.2))
def xZ (p0:cJ) (d:eY) (c:dB) (e:fE) (f:Int) (a:Hw) (b:Iu->V1 kZ):V1 kZ:=
 if a.1<(c.2.length:Int)then(ck (0<=a.1/\a.1<(c.2.length:Int)) (ck (0<=a.1/\a.1<(c.1.length:Int)) (bG (FH U c a b) U ((0:Int),a.2.2))))else(xY U p0 d c e f (a.2.1,a.2.2))
def xX (p0:cJ) (c:eY) (a:dB) (e:fE) (f:Int) (d:V4):V1 kZ:=
 if d=true then(some ((0:Int),(0:Int),(2:Int)))else(Option.bind (Al U p0 (c.2.1.length:Int)) λb=>(if b.2.2≠(0:Int)then(some ((0:Int),(0:Int),(7:Int)))else(ck (0<=(a.2.length:Int)/\(a.2.length:Int)<=1099511627) (bG (xZ U p0 c a e f) U ((0:Int),(0:Int),(List.replicate (Int.toNat (a.2.length:Int)) ([]:bN)))))))
def mN (p0:cJ) (a:eY) (b:dB) (d:fE) (c:Int):V1 kZ:=
 Option.bind (kY U ((a.1,a.2.1,a.2.2)) ((b.1,b.2)) d) λe=>(if e≠(0:Int)then(some ((0:Int),(0:Int),e))else(if c<(0:Int)then(xX U p0 a b d c (true))else(xX U p0 a b d c (decide ((b.1.length:Int)<=c)))))
theorem afk:aX prog 8:=call8
theorem Ke (U:Nat) {P:cJ} {E:eY} {J:dB} {p3:fE} {t:Int} (R K L I C:V0) (s:oB) (S:V0) (z7:nQ) (r:GG) (h:mN U P E J p3 t=some r):
  aZ prog 8 #[R,Value.agg #[vS (E.1),K,L],Value.agg #[I,C],S,vI (t)] [Sl aS R P,Sl aN K E.2.1,Sl aJ L E.2.2,Sl cQ I J.1,S2 aS C s J.2,S2 cQ S z7 p3] (λx:Unit=>Value.tuple #[vI (r.1),vI (r.2.1),vI (r.2.2)]) (λx l=>l) (λ_ l=>l):=by
 let aY:=(xZ U P E J p3 t)
 let ag:=(J.2.length:Int)
 refine aZ.of func8 Z ntmps8 Z λc=>?_;refine aT<|aK (aO.box (cs:=[vS (E.1),K,L]) Z Z) Z λb1=>let af:=bU b1 [vS (E.1),K,L] 25;aK (aO.box (cs:=[I,C]) Z Z) Z λb2=>let ah:=bU b2 [I,C] 29;aB Z<|aB Z<|aB Z<|aM<|aI<|aT<|fQ 1 Z<|fQ 0 Z<|aA Z<|dG h λr3 w4 h=>aK (zB8 Vn (FS U K L I C s S z7 r3 w4) Z (gK [1,2,3,4,5] Z)) Z λx5=>aB Z<|aM<|aT<|aA Z<|lK Z<|aM ?_
 refine eF h Z (λh=>?_) λh=>?_
 .refine aT<|aA Z<|aB Z<|aB Z<|aB Z<|aM<|aP<|aG ?_;cases h;exact Gi () Z Z (RV.tmp Z) (RV.tmp Z) (RV.tmp Z) .nil aE.nil
 refine bK<|aI<|aI<|cC (λa8=>xX U P E J p3 t a8=some r) (λa8 b9=>[(0,R),(3,S),(4,vI (t)),(6,vP b1),(7,vP b2),(11,vI (0:Int)),(35,vB (a8))]) (λa8 b9=>[ah,af]) ?_ ?_
 .refine aL<|aA Z<|cX Z<|aA Z ?_;refine mL h Z (λ_ h=>?_) λ_ h=>?_
  .refine aD Z<|aD Z<|aD Z<|aD Z<|aD Z<|bO Z<|aM ?_;exact cF (true) () h SF Z
  refine bH Z<|aF Z (bR Z Z Z Z Z) Z<|aF Z (bX 0 Z Z Z Z Z) Z<|aF Z (dO Z (EQ Z) Z) Z<|aF Z (lD Z Z) Z<|bT Z<|aM ?_;exact cF (decide ((J.1.length:Int)<=t)) () h SF Z
 intro a8 b9 h;refine iA h Z (λ_ h=>?_) λ_ h=>?_
 .refine aT<|aB Z<|aB Z<|aB Z<|aM<|aP<|aG ?_;cases h;exact Gi () Z Z (RV.tmp Z) (RV.tmp Z) (RV.tmp Z) .nil aE.nil
 refine bK<|aI<|aT<|aA Z<|bD Z<|bY 1 Z<|eL (iZ Z) Z<|dG h λbF bM h=>aK (zB8 agj (PK U R bF bM) Z (gK [0] Z)) Z λcn=>aA Z<|fL Z<|fL Z<|fL Z<|aB Z<|aB Z<|aB Z<|aM<|aT<|aA Z<|lK Z<|aM ?_;refine eF h Z (λh=>?_) λh=>?_
 .refine aT<|aB Z<|aB Z<|aB Z<|aM<|aP<|aG ?_;cases h;exact Gi () Z Z (RV.tmp Z) (RV.tmp Z) (RV.tmp Z) .nil aE.nil
 refine bK<|aI ?_;refine xP [0,0,0,6,0,16,0,112,240,0,0,2047,4095,8191] 11 mixedOrders ?_;refine bE Z<|qY 1 Z<|qY 0 Z<|Nr (A:=Bz) (B:=Nat×V0×List V0) (vs:=[Value.agg #[vS (E.1),K,L],Value.agg #[I,C]]) (λD=>Ce U P E J p3 t D=some r) (λD a=>vP a.1) (λD a=>[bU a.1 [vS (E.1),K,L,I,C,vI (D.1),a.2.1] 142,Ar eD a.2.1 a.2.2,sR cK a.2.2 D.2,ah,af]) (λD a=>[Sl aS R P,Sl aN K E.2.1,Sl aJ L E.2.2,Sl cQ I J.1,S2 aS C s J.2,S2 cQ S z7 p3]) Z Z Z (BB.fn (show aX prog 26 from call26) Z) func26 Z ntmps26 Z Z (λ_ _=>(y_ [] Z)) ?_ ?_
 .refine aT<|aK (aO.box (cs:=[vS (E.1),K,L]) Z Z) Z λcl=>aK (aO.box (cs:=[I,C]) Z Z) Z λa3=>let a0:=bU a3 [I,C] 29;aB Z<|aM<|aI ?_
  refine xP [0,0,0,4,12,28,63,127,255] 6 mixedOrders ?_;refine qY 1 Z<|qY 0 Z<|dA Z<|iH 0 Z<|bI Z .nil (jP 4 Z) (mB Z (cG Z) Z) aR.z<|eX h λbC h=>JR.stp (Ei cK (Int.toNat ag))<|zBa Z Z Z (oC (e:=eD) (zU) Z Z Z Z bC Z Z Z) Z (λq=>(y_ [([2],[]),([3],[])] Z)) λq=>bS 6 Z Z<|eH (jKs (aQ.rows (i:=0) (j:=1) Z Z fH)) λbl=>?_;refine aC (BF (r:=Value.agg #[vS (E.1),K,L,I,C,vI (0:Int),q]) Z Z Z (by intro w;simp[Instr.build,Instr.fill,cL,b_,bW,cM,cN,cA,dD,eW bl])) Z ?_;refine aK (aO.box (cs:=[vS (E.1),K,L,I,C,vI (0:Int),q]) Z Z) Z λN=>aB Z<|aM<|aI<|JK (B:=oA) (λM=>xY U P E J p3 t M=some r) (λM ai=>[(5,vP N)]) (λM ai=>[bU N [vS (E.1),K,L,I,C,vI (M.1),q] 142,Ar eD q ai,sR cK ai M.2,ah,af]) ?_ ?_
  .refine aT<|bD Z<|bY 3 Z<|aC (mB Z (Bl Z) Z) Z<|aA Z<|aM<|aU<|eP (B:=oA) aY (λd ad=>[(3,vP a3),(5,vP N),(19,C),(20,vI ag),(21,vI (d.1))]) (λd ad=>[bU N [vS (E.1),K,L,I,C,vI (d.2.1),q] 142,Ar eD q ad,sR cK ad d.2.2,a0,ah,af]) ((0:Int),(0:Int),(List.replicate (Int.toNat ag) ([]:bN))) (List.replicate (Int.toNat ag) (zU)) h SF (aW.ix [0,1,2,3,5,6] Z Z) ?_;intro be d ad h;let bg:=(max d.2.1 (at' J.1 d.1))
   let bf:=bU N [vS (E.1),K,L,I,C,vI bg,q] 142;refine aT<|cX Z<|aM<|aI ?_;refine eF h Z (λh=>?_) λh=>?_
   .refine bK<|aI<|JK (B:=oA) (λac=>FG J d (bG aY be) ac=some r) (λac aj=>[(3,vP a3),(5,vP N),(19,C),(20,vI ag),(21,vI (d.1))]) (λac aj=>[bf,Ar eD q aj,sR cK aj ac,a0,ah,af]) ?_ ?_
    .refine aU<|aT<|aA Z<|eX h λO h=>aC (fJ Z Z (Bl Z) Z Z O) Z<|aC (eI Z (Bl Z) Z Z O) Z<|aB Z<|aB Z<|aM<|aI ?_;refine xP [0,0,2,6,14,0,32,0,224,480,1022,2047,4095,8191] 11 mixedOrders ?_;refine bE Z<|bE Z<|iD Z (aV Z)<|dA Z<|iH 0 Z<|dA Z<|iH 3 Z<|bE Z<|eX h λbc h=>bI Z .nil (jP 3 Z) (a_ Z Z (cG Z) Z Z bc) aR.z<|bI Z .nil (jP 3 Z) (eC Z (cG Z) Z Z Z gC bc) aR.z<|iD Z (Gm Z Z)<|bS 11 Z Z<|aC (aV Z) Z<|bD Z<|i_ 0 Z Z Z Z Z Z<|aM<|aT<|aA Z<|aC (dO Z (zB9 (Bl Z) O.1 O.2) Z) Z<|aA Z<|aM<|aU<|eP (B:=oA) (FH U J d (bG aY be)) (λo ae=>[(3,vP a3),(5,vP N),(6,vI (d.1)),(19,C),(20,vI ag),(21,vI (d.1)),(39,(at' s d.1).1),(40,vI ((at' J.2 d.1).length:Int)),(41,vI (o.1))]) (λo ae=>[bf,Ar eD q ae,sR cK ae o.2,a0,ah,af]) ((0:Int),d.2.2) (ad) h SF (aW.refl _) ?_;intro ck o ae h;refine aT<|cX Z<|aM<|aI ?_;refine eF h Z (λh=>?_) λh=>?_
     .refine bK<|aI<|aU<|aT<|eX h λbd h=>aC (a_ Z Z (zB9 (Bl Z) O.1 O.2) Z Z bd) Z<|aC (eO (cs:=[vI ((at' (at' J.2 d.1) o.1).1),vI ((at' (at' J.2 d.1) o.1).2)]) Z (zB9 (Bl Z) O.1 O.2) dL Z Z Z Z bd) Z<|aK (aO.alloc (cs:=SG) Z Z) Z λcj=>cO 0 (vs:=[vI ((at' (at' J.2 d.1) o.1).1),vI ((at' (at' J.2 d.1) o.1).2)]) Z Z Z Z Z Z<|aM ?_;refine xP [0,1,3,7,0,0,32,96,224,0,992,2016,0,0,8192,0,61440,126976,262112,524287,1048575] 19 mixedOrders ?_;refine bE Z<|iD Z (aV Z)<|dA Z<|iH 1 Z<|bE Z<|bE Z<|iD Z (aV Z)<|dA Z<|iH 1 Z<|bE Z<|eX h λam h=>kO (nT 3 Z) λbi=>?_;refine bI Z (aW.cons 2 Z .nil) .nil (Ah 0 Z Z Z Z Z am.1 (by have q1:=am.2;have q2:=bi;(try simp only[zAb]at q1);(try simp only[zAb]at q2⊢);omega)) aR.z ?_;refine kO (nT 3 Z) λbj=>bI Z (aW.cons 2 Z .nil) .nil (Fi 0 Z Z bj Z Z am) aR.z<|qY 4 Z<|dA Z<|iH 0 Z<|bE Z<|dG h λak bu h=>zBa Z Z Z (zB8 Ry (CE U I C s ak bu) Z (gK [3,4] Z)) Z (λbw=>(y_ [([2],[]),([2],[]),([1],[]),([1],[])] Z)) λbw=>zBa Z Z Z (fX (e:=cK) ([ak]) [(0,vI (ak))] Z Z Z Z (vG (vI (ak)) Z) Z Z Z) Z (λbt=>(y_ [([3],[]),([3],[]),([2],[]),([2],[])] Z)) λbt=>eX h λbr h=>zBa Z Z Z (vD 4 fH Z Z Z (bL (aQ.res 0 Z) fH) Z Z Z Z am br Z) Z (λbh=>(y_ [([2],[])] Z)) λbh=>bS 19 Z Z<|eX h λan h=>eH (nT 4 Z) λbk=>?_;refine aC (Ah 3 Z Z Z Z Z an.1 (by have q1:=an.2;have q2:=bk;(try simp only[zAb]at q1);(try simp only[zAb]at q2⊢);omega)) Z ?_;refine eH (Gk 4 (k:=d.1) Z an) λbm=>?_;refine Fl 3 4 an Z Z Z Z Z (by simp) bm Z ?_;refine dK<|jZ<|aL<|cP Z<|aA Z<|aM ?_;exact fI ((wI .i64 (o.1+(1:Int))),(List.set o.2 (Int.toNat d.1) ((at' o.2 d.1)++[ak]))) (List.set ae (Int.toNat d.1) bh) h SF (aW.ix [2,3,4,5,6,7] Z Z) (aE.refl _ _)
     refine uS<|gY<|gY<|BC<|jZ ?_;exact cF (o.2) (ae) h SF Z
    intro ac aj h;unfold FG at h;refine aL<|cP Z<|aA Z<|aM ?_;exact Ac ((wI .i64 (d.1+(1:Int))),bg,ac) (aj) h SF Z
   refine fK ?_;exact bQ (d.2.1,d.2.2) (ad) h SF (aW.ix [0,1,2,4,5] Z Z) (aE.refl _ _)
  intro M ai h;unfold xY at h;refine aT<|aA Z<|aB Z<|aM<|aP ?_;exact uT (M.1,M.2) (N,q,ai) h (.inl Z) (Kk.r1 Z (RV.tmp Z)) Z (aW.refl _) (aE.refl _ _)
 intro D a h;let H:=sR cK a.2.2 D.2;let V:=(List.zip a.2.2 D.2)
 let G:=Ar eD a.2.1 a.2.2;let F:=bU a.1 [vS (E.1),K,L,I,C,vI (D.1),a.2.1] 142;unfold Ce at h;refine iD Z (bR Z Z Z Z Z)<|bI Z (aW.cons 3 Z .nil) .nil (bX 0 Z Z Z Z Z) (aR.h (aW.ix [0] Z Z) .nil aR.z)<|iD Z (fN Z)<|eX h λm h=>bI Z .nil (jP 4 Z) (fJ Z Z (cG Z) Z Z m) (aR.h .nil (jP 4 Z) aR.z)<|bI Z .nil (jP 4 Z) (eI Z (cG Z) Z Z m) (aR.h .nil (jP 4 Z) aR.z)<|iD Z (fN Z)<|iD Z (fN Z)<|bS 11 Z Z<|eH (Know.one ((cG Z))) λbo=>eH (Know.one ((zB9 (Bl Z) m.1 m.2))) λbp=>eH (jKs (MU Z)) λbq=>?_;refine aC (Y.bld5 (r:=Value.agg #[R,Value.pointer (some ⟨a.1,0,none⟩),(at' s t).1,S,vI (t),vI (0:Int),zU,zU]) Z Z Z Z Z (by intro w;simp[Instr.build,Instr.fill,cL,b_,bW,cM,cN,cA,dD,eW bo,eW bp,eW bq])) Z ?_;refine aK (aO.box (cs:=[R,vP a.1,(at' s t).1,S,vI (t),vI (0:Int),zU,zU]) Z Z) Z λg=>aB Z<|aM<|aT<|IC (A:=Unit) (B:=Nat) (vs:=[]) (λao=>Cf U P E J p3 t D ao=some r) (λao al=>Value.map (some al)) (λao al=>[Mp Bn Zb al ([((1:Int),(63:Nat)),((2:Int),(64:Nat)),((3:Int),(65:Nat)),((4:Int),(66:Nat)),((5:Int),(67:Nat)),((6:Int),(68:Nat)),((7:Int),(69:Nat)),((8:Int),(70:Nat)),((9:Int),(71:Nat)),((10:Int),(72:Nat))]),bU g [R,vP a.1,(at' s t).1,S,vI (t),vI (0:Int),zU,zU] 81,F,G,H]) (λao al=>[Sl aS R P,Sl aN K E.2.1,Sl aJ L E.2.2,Sl cQ I J.1,S2 aS C s J.2,S2 cQ S z7 p3]) (BB.fn (show aX prog 27 from call27) Z) func27 Z ntmps27 Z Z ?_ ?_
 .refine aT<|aB Z<|aM<|aT<|aK (aO.makeMap Bn Zb) Z λbB=>Af 0 (1:Int) ((63:Nat)) [((1:Int),(63:Nat))] Z zZ Z Z Z Z Z<|Af 0 (2:Int) ((64:Nat)) [((1:Int),(63:Nat)),((2:Int),(64:Nat))] Z zZ Z Z Z Z Z<|Af 0 (3:Int) ((65:Nat)) [((1:Int),(63:Nat)),((2:Int),(64:Nat)),((3:Int),(65:Nat))] Z zZ Z Z Z Z Z<|Af 0 (4:Int) ((66:Nat)) [((1:Int),(63:Nat)),((2:Int),(64:Nat)),((3:Int),(65:Nat)),((4:Int),(66:Nat))] Z zZ Z Z Z Z Z<|Af 0 (5:Int) ((67:Nat)) [((1:Int),(63:Nat)),((2:Int),(64:Nat)),((3:Int),(65:Nat)),((4:Int),(66:Nat)),((5:Int),(67:Nat))] Z zZ Z Z Z Z Z<|Af 0 (6:Int) ((68:Nat)) [((1:Int),(63:Nat)),((2:Int),(64:Nat)),((3:Int),(65:Nat)),((4:Int),(66:Nat)),((5:Int),(67:Nat)),((6:Int),(68:Nat))] Z zZ Z Z Z Z Z<|Af 0 (7:Int) ((69:Nat)) [((1:Int),(63:Nat)),((2:Int),(64:Nat)),((3:Int),(65:Nat)),((4:Int),(66:Nat)),((5:Int),(67:Nat)),((6:Int),(68:Nat)),((7:Int),(69:Nat))] Z zZ Z Z Z Z Z<|Af 0 (8:Int) ((70:Nat)) [((1:Int),(63:Nat)),((2:Int),(64:Nat)),((3:Int),(65:Nat)),((4:Int),(66:Nat)),((5:Int),(67:Nat)),((6:Int),(68:Nat)),((7:Int),(69:Nat)),((8:Int),(70:Nat))] Z zZ Z Z Z Z Z<|Af 0 (9:Int) ((71:Nat)) [((1:Int),(63:Nat)),((2:Int),(64:Nat)),((3:Int),(65:Nat)),((4:Int),(66:Nat)),((5:Int),(67:Nat)),((6:Int),(68:Nat)),((7:Int),(69:Nat)),((8:Int),(70:Nat)),((9:Int),(71:Nat))] Z zZ Z Z Z Z Z<|Af 0 (10:Int) ((72:Nat)) [((1:Int),(63:Nat)),((2:Int),(64:Nat)),((3:Int),(65:Nat)),((4:Int),(66:Nat)),((5:Int),(67:Nat)),((6:Int),(68:Nat)),((7:Int),(69:Nat)),((8:Int),(70:Nat)),((9:Int),(71:Nat)),((10:Int),(72:Nat))] Z zZ Z Z Z Z Z<|aA Z<|aB Z<|aM<|aP ?_;exact uT () (bB) h (.inl Z) (Kk.r1 Z (RV.tmp Z)) Z (aW.ix [0,1,2,3,4] Z Z) (aE.refl _ _)
 intro ao al h;let T:=Mp Bn Zb al ([((1:Int),(63:Nat)),((2:Int),(64:Nat)),((3:Int),(65:Nat)),((4:Int),(66:Nat)),((5:Int),(67:Nat)),((6:Int),(68:Nat)),((7:Int),(69:Nat)),((8:Int),(70:Nat)),((9:Int),(71:Nat)),((10:Int),(72:Nat))]);unfold Cf at h;refine aB Z<|aM<|aI<|JK (B:=GI) (λp=>FE U P E J p3 t D p=some r) (λp Q=>[(11,vI (p.1)),(17,vP g)]) (λp Q=>[bU g [R,vP a.1,(at' s t).1,S,vI (p.2.1),vI (p.2.2.1),Q.1,Q.2] 81,F,G,H,Ar cK Q.1 p.2.2.2.1,Ns Q.2 p.2.2.2.2]) ?_ ?_
 .refine aU<|jY (qL cK)<|jY Vi<|eP (B:=GI) (eJ U P E J p3 t D) (λf b=>[(0,R),(11,vI (f.1)),(17,vP g),(18,Value.map (some al))]) (λf b=>[T,bU g [R,vP a.1,(at' s t).1,S,vI (f.2.1),vI (f.2.2.1),b.1,b.2] 81,F,G,H,Ar cK b.1 f.2.2.2.1,Ns b.2 f.2.2.2.2]) ((0:Int),t,(0:Int),([]:bN),([]:FW)) ((zU),(zU)) h SF (aW.ix [2,3,4,5,6,1,0] Z Z) ?_;intro cm f b h;let y:=f.2.2.2.2;let v:=Ns b.2 y;let ab:=Ar cK b.1 f.2.2.2.1;let aa:=(wI .i64 (f.1+(1:Int)))
  let n:=(at' P f.2.2.1)
  let W:=bU g [R,vP a.1,(at' s t).1,S,vI (f.2.1),vI (wI .i64 (f.2.2.1+(1:Int))),b.1,b.2] 81;refine aI<|aT<|aA Z<|aC (aV Z) Z<|bD Z<|bY 1 Z<|aA Z<|eL (cG Z) Z<|cX Z<|aM ?_;refine eF h Z (λh=>?_) λh=>?_
  .refine bK<|aU<|aT<|aA Z<|aA Z<|aC (aV Z) Z<|bD Z<|bY 1 Z<|eX h λbs h=>aC (a_ Z Z (cG Z) Z Z bs) Z<|aC (eO (cs:=[vI (n.1),vI (n.2)]) Z (cG Z) dL Z Z Z Z bs) Z<|aK (aO.alloc (cs:=SG) Z Z) Z λbA=>let X:=bU bA [vI (n.1),vI (n.2)] 85;cO 0 (vs:=[vI ((at' P f.2.2.1).1),vI ((at' P f.2.2.1).2)]) Z Z Z Z Z Z<|aM<|aT<|aA Z<|aC (aV Z) Z<|bD Z<|bY 2 Z<|cP Z<|aC (aV Z) Z<|bD Z<|i_ 2 Z Z Z Z Z Z<|aM<|aT<|aA Z<|cP Z<|aB Z<|aM<|aL<|aA Z<|bD Z<|bY 0 Z ?_
   by_cases ap:n.1=(1:Int)
   .have h:=Bt ap h;refine aC (qS 1 (n.1) (u:=Value.func (.func 63) #[] #[]) zZ Z Z Z Z Z (by rw[ap];rfl)) Z ?_;refine aA Z<|bD Z<|bY 0 Z<|dG h λa4 bV h=>aK (qH (vs:=[vP g,vI ((at' P f.2.2.1).2)]) (cs:=[]) (Min:=[W,ab]) (Mr:=[X,T,F,G,H,v]) IM Z (gF U g R a.1 K L I C s a.2.1 V ((at' s t).1) S z7 b.1 b.2 a4 bV) Z (aW.ix [2,6,0,1,3,4,5,7] Z Z) (aE.cons (cG Z) (aE.cons (aQ.res 2 Z) (aE.cons (iZ Z) (aE.cons (FA Z) (aE.cons (EQ Z) (aE.cons (Bl Z) (aE.cons (aQ.rows (i:=3) (j:=4) Z Z fH) (aE.cons (zB9 (Bl Z) m.1 m.2) (aE.cons (MU Z) (aE.cons (Ag (i:=5) Z) .nil)))))))))) (λ_ _=>rfl)) Z λcc=>dK<|jZ ?_;exact fI (aa,a4.1,a4.2.1,a4.2.2,y) (cc,b.2) h SF (aW.ix [3,0,4,5,6,1,7] Z Z) (aE.refl _ _)
   have h:=MP ap h;by_cases aq:n.1=(2:Int)
   .have h:=Bt aq h;refine aC (qS 1 (n.1) (u:=Value.func (.func 64) #[] #[]) zZ Z Z Z Z Z (by rw[aq];rfl)) Z ?_;refine aA Z<|bD Z<|bY 0 Z<|dG h λa5 b0 h=>aK (qH (vs:=[vP g,vI ((at' P f.2.2.1).2)]) (cs:=[]) (Min:=[W,ab]) (Mr:=[X,T,F,G,H,v]) agv Z (Gd U g R a.1 K L I C s a.2.1 V ((at' s t).1) S z7 b.1 b.2 a5 b0) Z (aW.ix [2,6,0,1,3,4,5,7] Z Z) (aE.cons (cG Z) (aE.cons (aQ.res 2 Z) (aE.cons (iZ Z) (aE.cons (FA Z) (aE.cons (EQ Z) (aE.cons (Bl Z) (aE.cons (aQ.rows (i:=3) (j:=4) Z Z fH) (aE.cons (zB9 (Bl Z) m.1 m.2) (aE.cons (MU Z) (aE.cons (Ag (i:=5) Z) .nil)))))))))) (λ_ _=>rfl)) Z λcd=>dK<|jZ ?_;exact fI (aa,a5.1,a5.2.1,a5.2.2,y) (cd,b.2) h SF (aW.ix [3,0,4,5,6,1,7] Z Z) (aE.refl _ _)
   have h:=MP aq h;by_cases ar:n.1=(3:Int)
   .have h:=Bt ar h;refine aC (qS 1 (n.1) (u:=Value.func (.func 65) #[] #[]) zZ Z Z Z Z Z (by rw[ar];rfl)) Z ?_;refine aA Z<|bD Z<|bY 0 Z<|dG h λa6 b3 h=>aK (qH (vs:=[vP g,vI ((at' P f.2.2.1).2)]) (cs:=[]) (Min:=[W,ab]) (Mr:=[X,T,F,G,H,v]) agw Z (Ge U g R a.1 K L I C s a.2.1 V ((at' s t).1) S z7 b.1 b.2 a6 b3) Z (aW.ix [2,6,0,1,3,4,5,7] Z Z) (aE.cons (cG Z) (aE.cons (aQ.res 2 Z) (aE.cons (iZ Z) (aE.cons (FA Z) (aE.cons (EQ Z) (aE.cons (Bl Z) (aE.cons (aQ.rows (i:=3) (j:=4) Z Z fH) (aE.cons (zB9 (Bl Z) m.1 m.2) (aE.cons (MU Z) (aE.cons (Ag (i:=5) Z) .nil)))))))))) (λ_ _=>rfl)) Z λce=>dK<|jZ ?_;exact fI (aa,a6.1,a6.2.1,a6.2.2,y) (ce,b.2) h SF (aW.ix [3,0,4,5,6,1,7] Z Z) (aE.refl _ _)
   have h:=MP ar h;by_cases au:n.1=(4:Int)
   .have h:=Bt au h;refine aC (qS 1 (n.1) (u:=Value.func (.func 66) #[] #[]) zZ Z Z Z Z Z (by rw[au];rfl)) Z ?_;refine aA Z<|bD Z<|bY 0 Z<|dG h λa7 b4 h=>aK (qH (vs:=[vP g,vI ((at' P f.2.2.1).2)]) (cs:=[]) (Min:=[W,ab]) (Mr:=[X,T,F,G,H,v]) agx Z (Ga U g R a.1 K L I C s a.2.1 V ((at' s t).1) S z7 b.1 b.2 a7 b4) Z (aW.ix [2,6,0,1,3,4,5,7] Z Z) (aE.cons (cG Z) (aE.cons (aQ.res 2 Z) (aE.cons (iZ Z) (aE.cons (FA Z) (aE.cons (EQ Z) (aE.cons (Bl Z) (aE.cons (aQ.rows (i:=3) (j:=4) Z Z fH) (aE.cons (zB9 (Bl Z) m.1 m.2) (aE.cons (MU Z) (aE.cons (Ag (i:=5) Z) .nil)))))))))) (λ_ _=>rfl)) Z λcf=>dK<|jZ ?_;exact fI (aa,a7.1,a7.2.1,a7.2.2,y) (cf,b.2) h SF (aW.ix [3,0,4,5,6,1,7] Z Z) (aE.refl _ _)
   have h:=MP au h;by_cases av:n.1=(5:Int)
   .have h:=Bt av h;refine aC (qS 1 (n.1) (u:=Value.func (.func 67) #[] #[]) zZ Z Z Z Z Z (by rw[av];rfl)) Z ?_;refine aA Z<|bD Z<|bY 0 Z<|dG h λa9 b5 h=>aK (qH (vs:=[vP g,vI ((at' P f.2.2.1).2)]) (cs:=[]) (Min:=[W,ab]) (Mr:=[X,T,F,G,H,v]) agy Z (FM U g R a.1 K L I C s a.2.1 V ((at' s t).1) S z7 b.1 b.2 a9 b5) Z (aW.ix [2,6,0,1,3,4,5,7] Z Z) (aE.cons (cG Z) (aE.cons (aQ.res 2 Z) (aE.cons (iZ Z) (aE.cons (FA Z) (aE.cons (EQ Z) (aE.cons (Bl Z) (aE.cons (aQ.rows (i:=3) (j:=4) Z Z fH) (aE.cons (zB9 (Bl Z) m.1 m.2) (aE.cons (MU Z) (aE.cons (Ag (i:=5) Z) .nil)))))))))) (λ_ _=>rfl)) Z λcg=>dK<|jZ ?_;exact fI (aa,a9.1,a9.2.1,a9.2.2,y) (cg,b.2) h SF (aW.ix [3,0,4,5,6,1,7] Z Z) (aE.refl _ _)
   have h:=MP av h;by_cases aw:n.1=(6:Int)
   .have h:=Bt aw h;refine aC (qS 1 (n.1) (u:=Value.func (.func 68) #[] #[]) zZ Z Z Z Z Z (by rw[aw];rfl)) Z ?_;refine aA Z<|bD Z<|bY 0 Z<|dG h λba b6 h=>aK (qH (vs:=[vP g,vI ((at' P f.2.2.1).2)]) (cs:=[]) (Min:=[W,ab]) (Mr:=[X,T,F,G,H,v]) agz Z (Fb U g R a.1 K L I C s a.2.1 V ((at' s t).1) S z7 b.1 b.2 ba b6) Z (aW.ix [2,6,0,1,3,4,5,7] Z Z) (aE.cons (cG Z) (aE.cons (aQ.res 2 Z) (aE.cons (iZ Z) (aE.cons (FA Z) (aE.cons (EQ Z) (aE.cons (Bl Z) (aE.cons (aQ.rows (i:=3) (j:=4) Z Z fH) (aE.cons (zB9 (Bl Z) m.1 m.2) (aE.cons (MU Z) (aE.cons (Ag (i:=5) Z) .nil)))))))))) (λ_ _=>rfl)) Z λch=>dK<|jZ ?_;exact fI (aa,ba.1,ba.2.1,ba.2.2,y) (ch,b.2) h SF (aW.ix [3,0,4,5,6,1,7] Z Z) (aE.refl _ _)
   have h:=MP aw h;by_cases ax:n.1=(7:Int)
   .have h:=Bt ax h;refine aC (qS 1 (n.1) (u:=Value.func (.func 69) #[] #[]) zZ Z Z Z Z Z (by rw[ax];rfl)) Z ?_;refine aA Z<|bD Z<|bY 0 Z<|dG h λbb b7 h=>aK (qH (vs:=[vP g,vI ((at' P f.2.2.1).2)]) (cs:=[]) (Min:=[W,ab]) (Mr:=[X,T,F,G,H,v]) agA Z (Dl U g R a.1 K L I C s a.2.1 V ((at' s t).1) S z7 b.1 b.2 bb b7) Z (aW.ix [2,6,0,1,3,4,5,7] Z Z) (aE.cons (cG Z) (aE.cons (aQ.res 2 Z) (aE.cons (iZ Z) (aE.cons (FA Z) (aE.cons (EQ Z) (aE.cons (Bl Z) (aE.cons (aQ.rows (i:=3) (j:=4) Z Z fH) (aE.cons (zB9 (Bl Z) m.1 m.2) (aE.cons (MU Z) (aE.cons (Ag (i:=5) Z) .nil)))))))))) (λ_ _=>rfl)) Z λci=>dK<|jZ ?_;exact fI (aa,bb.1,bb.2.1,bb.2.2,y) (ci,b.2) h SF (aW.ix [3,0,4,5,6,1,7] Z Z) (aE.refl _ _)
   have h:=MP ax h;by_cases ay:n.1=(8:Int)
   .have h:=Bt ay h;refine aC (qS 1 (n.1) (u:=Value.func (.func 70) #[] #[]) zZ Z Z Z Z Z (by rw[ay];rfl)) Z ?_;refine aA Z<|bD Z<|bY 0 Z<|dG h λbn b8 h=>aK (qH (vs:=[vP g,vI ((at' P f.2.2.1).2)]) (cs:=[]) (Min:=[W]) (Mr:=[X,T,F,G,H,ab,v]) agB Z (Gc U g R a.1 K L I C s a.2.1 V ((at' s t).1) S z7 b.1 b.2 bn b8) Z (aW.ix [2,0,1,3,4,5,6,7] Z Z) (aE.cons (cG Z) (aE.cons (aQ.res 2 Z) (aE.cons (iZ Z) (aE.cons (FA Z) (aE.cons (EQ Z) (aE.cons (Bl Z) (aE.cons (aQ.rows (i:=3) (j:=4) Z Z fH) (aE.cons (zB9 (Bl Z) m.1 m.2) (aE.cons (MU Z) (aE.cons (bL (aQ.res 5 Z) fH) (aE.cons (Ag (i:=6) Z) .nil))))))))))) (λ_ _=>rfl)) Z λcp=>dK<|jZ ?_;exact fI (aa,bn.1,bn.2,f.2.2.2.1,y) (b.1,b.2) h SF (aW.ix [2,0,3,4,5,6,7] Z Z) (aE.refl _ _)
   have h:=MP ay h;by_cases az:n.1=(9:Int)
   .have h:=Bt az h;refine aC (qS 1 (n.1) (u:=Value.func (.func 71) #[] #[]) zZ Z Z Z Z Z (by rw[az];rfl)) Z ?_;refine aA Z<|bD Z<|bY 0 Z<|dG h λa1 ca h=>aK (qH (vs:=[vP g,vI ((at' P f.2.2.1).2)]) (cs:=[]) (Min:=[W,ab,v]) (Mr:=[X,T,F,G,H]) agC Z (F_ U g R a.1 K L I C s a.2.1 V ((at' s t).1) S z7 b.1 b.2 a1 ca) Z (aW.ix [2,6,7,0,1,3,4,5] Z Z) (aE.cons (cG Z) (aE.cons (aQ.res 2 Z) (aE.cons (iZ Z) (aE.cons (FA Z) (aE.cons (EQ Z) (aE.cons (Bl Z) (aE.cons (aQ.rows (i:=3) (j:=4) Z Z fH) (aE.cons (zB9 (Bl Z) m.1 m.2) (gK [5] Z))))))))) (λ_ _=>rfl)) Z λbx=>dK<|jZ ?_;exact fI (aa,a1.1,a1.2.1,a1.2.2.1,a1.2.2.2) (bx.1,bx.2) h SF (aW.ix [4,0,5,6,7,1,2] Z Z) (aE.refl _ _)
   have h:=MP az h;by_cases aH:n.1=(10:Int)
   .have h:=Bt aH h;refine aC (qS 1 (n.1) (u:=Value.func (.func 72) #[] #[]) zZ Z Z Z Z Z (by rw[aH];rfl)) Z ?_;refine aA Z<|bD Z<|bY 0 Z<|dG h λa2 cb h=>aK (qH (vs:=[vP g,vI ((at' P f.2.2.1).2)]) (cs:=[]) (Min:=[W,ab,v]) (Mr:=[X,T,F,G,H]) agD Z (Gf U g R a.1 K L I C s a.2.1 V ((at' s t).1) S z7 b.1 b.2 a2 cb) Z (aW.ix [2,6,7,0,1,3,4,5] Z Z) (aE.cons (cG Z) (aE.cons (aQ.res 2 Z) (aE.cons (iZ Z) (aE.cons (FA Z) (aE.cons (EQ Z) (aE.cons (Bl Z) (aE.cons (aQ.rows (i:=3) (j:=4) Z Z fH) (aE.cons (zB9 (Bl Z) m.1 m.2) (gK [5] Z))))))))) (λ_ _=>rfl)) Z λbz=>dK<|jZ ?_;exact fI (aa,a2.1,a2.2.1,a2.2.2.1,a2.2.2.2) (bz.1,bz.2) h SF (aW.ix [4,0,5,6,7,1,2] Z Z) (aE.refl _ _)
   have h:=MP aH h;cases h
  refine fK ?_;exact bQ (f.1,f.2.1,f.2.2.1,f.2.2.2.1,y) (b.1,b.2) h SF (aW.ix [1,2,3,4,5,6] Z Z) (aE.refl _ _)
 intro p Q h;refine aT<|aA Z<|dG h λbJ bP h=>aK (c_ (Min:=[bU g [R,vP a.1,(at' s t).1,S,vI (p.2.1),vI (p.2.2.1),Q.1,Q.2] 81,Ar cK Q.1 p.2.2.2.1]) (Mr:=[F,G,H,Ns Q.2 p.2.2.2.2]) LY (jX (p0:=((P,((((E.1,E.2.1,E.2.2)),((J.1,J.2)),D.1,D.2)),(at' J.2 t),p3,p.2.1,p.2.2.1,p.2.2.2.1,p.2.2.2.2))) U g R a.1 K L I C s a.2.1 V ((at' s t).1) S z7 Q.1 Q.2 bJ bP) Z (aW.ix [0,4,1,2,3,5] Z Z) (aE.cons (cG Z) (aE.cons (aQ.res 0 Z) (aE.cons (iZ Z) (aE.cons (FA Z) (aE.cons (EQ Z) (aE.cons (Bl Z) (aE.cons (aQ.rows (i:=1) (j:=2) Z Z fH) (aE.cons (zB9 (Bl Z) m.1 m.2) (aE.cons (MU Z) (aE.cons (Ag (i:=3) Z) .nil)))))))))) (λ_ _=>rfl)) Z λco=>aA Z<|aB Z<|aB Z<|aB Z<|aM<|aP ?_;cases h;exact Gi () Z Z (RV.tmp Z) (RV.tmp Z) (RV.tmp Z) .nil aE.nil
end Go.Proofs.YtemmagadjnlajaaGreatDoor
namespace Go.Proofs.YtemmagadjnlajaaGreatDoor
open Go Go.Sx
section
variable {T:V6 TM} {S:SCN} {lk:V6 TM} {c:V6 (V6 Int)} {v pl:Int} {st:V6 Int} {ls:V6 (Int×V6 Int)}
theorem MX (f:Nat) (a:Int) (h:st.length<=1000):bV f (T,S,lk,c,v,pl,st,ls) a=some (v,pl,st++[a]):=by
 unfold bV;dsimp only;rw[dM Q1]
theorem Jy {b:Type} [Inhabited b] (l:V6 b) (a:b) {k:Int} (d:k=(l.length:Int)):at' (l++[a]) k=a:=by rw[d];exact h_ l [] a _ Z
theorem ahw {b:Type} (l:V6 b) (a:b) (h:l.length<=1000):wI .i64 (((l++[a]).length:Int) - 1)=(l.length:Int):=by
 have:((l++[a]).length:Int)=(l.length:Int)+1:=V8
 rw[this,Q7];omega
theorem YS (f:Nat) (a:Int) (h:st.length<=1000):cY f (T,S,lk,c,v,pl,st++[a],ls)=some (a,v,pl,st):=by
 unfold cY;dsimp only;rw[ahw st a h,dM Q1,dM Q1,Jy st a Z,zA7,List.take_left]
theorem afw (f:Nat) (h:ls.length<=1000):iF f (T,S,lk,c,v,pl,st,ls)=some (JZ ls):=by
 unfold iF;dsimp only;rcases List.eq_nil_or_concat ls with rfl|⟨l,a,rfl⟩
 .rfl
 .rw[List.concat_eq_append]at h ⊢;have b:l.length<=1000:=by simp at h;omega
  rw[if_neg Q1,ahw l a b,dM Q1,Jy l a Z,XH]
end
theorem Kw (f:Nat) (l:V6 Int) (c:l.length<f) (i:l.length<=1000) (h:∀x∈l,Ez x):o_ f l=some true:=by
 unfold o_;exact gW (step:=rZ l) (K:=some true) l.length (λk=>(k:Int)) (λk b a=>by
  have d:at' l (k:Int)∈l:=by rw[Zl a];exact List.getElem_mem a
  have⟨e,g⟩:=h _ d;unfold rZ AL;rw[Q8,Q6,Q0,if_neg Q1,Q9]) (λb=>by
  unfold rZ AK;rw[Q0]) f c
theorem ahE (f:Nat) {o v:Int} (g:10<=f) (c:18<=o) (d:o<=19) (h:Ez v):ER f o v=some (unD o v,0):=by
 have b:=Kw f [v] Q1 V8 (by simpa using h);have a:wF f o v (!true)=some (unD o v,0):=by
  unfold wF;rw[if_neg Q2,aY (Ux f o v)]
 unfold ER;by_cases e:o=18
 .rw[if_neg (by simpa using e),aY b,a]
 .rw[if_pos e,if_neg Q1,aY b,a]
theorem aep (f:Nat) {o v w:Int} (e:10<=f) (c:30<=o) (d:o<=42) (h:Ez v) (k:Ez w):Dw f o v w=some (biD o v w,0):=by
 have b:=Kw f [v,w] Q1 V8 (by intro x a;simp at a;rcases a with rfl|rfl<;>assumption);unfold Dw;rw[Q0,Q0,aY b];unfold xO;rw[if_neg Q2,aY (Qq f o v w)]
theorem afu (f:Nat) {o:Int} (l:V6 Int) (d:40<=f) (a:20<=o) (b:o<=29) (e:l.length<=23) (h:∀x∈l,Ez x):Em f o l=some (Gu o l,0):=by
 have c:agg o=true:=by simp[agg,a,b]
 unfold Em;rw[aY (Up f o),c,if_neg Q2,Q0,aY (Kw f l V7 V7 h),if_neg Q2,aY (Xo f o l d V7)]
theorem adY {W:WLK} {d n v:Nat} (h:WOk W d n v) (f:Nat) {b:V4} {o a p:Int} (j:Fu o=some 0) (i:wfL d b (o,a)) (g:GL b (at' W.1.2.1.2 (v:Int)).length p) (k:6<=o) (e:o≠12):gR f W.1 o (v:Int) p=some (SL W o a p):=by
 have:=Xx h f j i g;unfold nA at this;dsimp only at this;rw[Q0,Q0,Q0,Q0,Q0,if_neg e,h.node]at this;cases c:gR f W.1 o (v:Int) p with
 |none=>
  rw[show gR f _ o (v:Int) p=none from c]at this;cases this
 |some r=>
  rw[aY (show gR f _ o (v:Int) p=some r from c)]at this;exact this
section
variable {T:V6 TM} {S:SCN} {lk:V6 TM} {c:V6 (V6 Int)} {v pl:Int} {st:V6 Int} {ls:V6 (Int×V6 Int)}
theorem ajn (f:Nat) (a:Int) (h:st.length<=1000) (b:0<=v/\v<(c.length:Int)) (d:0<=a/\a<((at' c v).length:Int)):jM f (T,S,lk,c,v,pl,st,ls) a=some (v,pl,st++[at' (at' c v) a]):=by
 unfold jM;dsimp only;rw[dM b,dM d,aY (show bV f _ _=_ from MX (T:=T) (S:=S) (lk:=lk) (c:=c) (v:=v) (pl:=pl) (ls:=ls) f (at' (at' c v) a) h)]
theorem ajp (f:Nat) (a:Int) (h:st.length<=1000) (g:ls.length<=1000) (b:0<=JZ ls/\JZ ls<(lk.length:Int)) (d:0<=(at' lk (JZ ls)).1/\(at' lk (JZ ls)).1<(c.length:Int)) (e:0<=a/\a<((at' c (at' lk (JZ ls)).1).length:Int)):jN f (T,S,lk,c,v,pl,st,ls) a=some (v,pl,st++[at' (at' c (at' lk (JZ ls)).1) a]):=by
 unfold jN;dsimp only;rw[aY (show iF f _=_ from afw (T:=T) (S:=S) (lk:=lk) (c:=c) (v:=v) (pl:=pl) (st:=st) f g),dM b,dM d,dM e,aY (show bV f _ _=_ from MX (T:=T) (S:=S) (lk:=lk) (c:=c) (v:=v) (pl:=pl) (ls:=ls) f _ h)]
theorem ajm (f:Nat) (a r:Int) (h:st.length<=1000) (b:ls.length<=1000) (d:gR f S a v (JZ ls)=some r):jL f (T,S,lk,c,v,pl,st,ls) a=some (v,pl,st++[r]):=by
 unfold jL;dsimp only;rw[aY (show iF f _=_ from afw (T:=T) (S:=S) (lk:=lk) (c:=c) (v:=v) (pl:=pl) (st:=st) f b),aY (show gR f _ a v (JZ ls)=_ from d),aY (show bV f _ _=_ from MX (T:=T) (S:=S) (lk:=lk) (c:=c) (v:=v) (pl:=pl) (ls:=ls) f _ h)]
theorem mUn (f:Nat) (o a:Int) (g:10<=f) (h:st.length<=1000) (b:18<=o) (d:o<=19) (e:Ez a):kW f (T,S,lk,c,v,pl,st++[a],ls) o=some (v,pl,st++[unD o a]):=by
 unfold kW;dsimp only;rw[aY (show cY f _=_ from YS (T:=T) (S:=S) (lk:=lk) (c:=c) (v:=v) (pl:=pl) (ls:=ls) f a h),aY (ahE f g b d e)];dsimp only;rw[aY (show bV f _ _=_ from MX (T:=T) (S:=S) (lk:=lk) (c:=c) (v:=v) (pl:=pl) (ls:=ls) f _ h)]
theorem mBi (f:Nat) (o a b:Int) (k:10<=f) (h:st.length<=900) (d:30<=o) (g:o<=42) (i:Ez a) (j:Ez b):kF f (T,S,lk,c,v,pl,st++[a,b],ls) o=some (v,pl,st++[biD o a b]):=by
 have e:st++[a,b]=(st++[a])++[b]:=V8
 rw[e];unfold kF;dsimp only;rw[aY (show cY f _=_ from YS (T:=T) (S:=S) (lk:=lk) (c:=c) (v:=v) (pl:=pl) (ls:=ls) f b Q1)];dsimp only;rw[aY (show cY f _=_ from YS (T:=T) (S:=S) (lk:=lk) (c:=c) (v:=v) (pl:=pl) (ls:=ls) f a V7)];dsimp only;rw[aY (aep f k d g i j)];dsimp only;rw[aY (show bV f _ _=_ from MX (T:=T) (S:=S) (lk:=lk) (c:=c) (v:=v) (pl:=pl) (ls:=ls) f _ V7)]
theorem afs (f:Nat) (a x:Int) (h:st.length<=1000):gS f (T,S,lk,c,v,pl,st++[x],ls) a=if x=0 then some (v,a,st)else some (v,pl,st):=by
 unfold gS;dsimp only;rw[aY (show cY f _=_ from YS (T:=T) (S:=S) (lk:=lk) (c:=c) (v:=v) (pl:=pl) (ls:=ls) f x h)]
theorem ahD (f:Nat) (a:Int) (h:ls.length<=1000) (b:0<lk.length) (d:1<=pl/\pl<=100000):gE f (T,S,lk,c,v,pl,st,ls) a=some (v,pl,st,ls++[(pl - 1,[])]):=by
 unfold gE;dsimp only;rw[Q8,Q7,dM Q1]
theorem ahC (f:Nat) (a o:Int) (i:40<=f) (h:st.length<=1000) (l:lk.length=0) (g:0<=a/\a<(T.length:Int)) (k:T.length<=100000) (b:at' T a=(10,o)) (d:20<=o) (e:o<=29):gE f (T,S,lk,c,v,pl,st,ls) a=some (v,a+1,st++[Gu o []],ls):=by
 unfold gE;dsimp only;rw[Q0,dM g,b,aY (afu f [] i d e V8 (by intro x j;cases j))];dsimp only;rw[aY (show bV f _ _=_ from MX (T:=T) (S:=S) (lk:=lk) (c:=c) (v:=v) (pl:=pl) (ls:=ls) f _ h),Q7]
theorem YZ {d:Type} (l:V6 d) (a b:d) {k:Nat} (e:k=l.length):(l++[a]).set k b=l++[b]:=by subst e;simp
theorem afv (f:Nat) (o x e:Int) (a:V6 Int) (i:40<=f) (h:st.length<=1000) (s:ls.length<=900) (t:a.length+1<=lk.length) (r:lk.length<=23) (q:0<=e/\e<=100000) (d:20<=o) (g:o<=29) (j:a.length+1=lk.length->∀y∈a++[x],Ez y):
  jO f (T,S,lk,c,v,pl,st++[x],ls++[(e,a)]) o=if a.length+1<lk.length then some (v,e+1,st,ls++[(e,a++[x])])else some (v,pl,st++[Gu o (a++[x])],ls):=by
 have k:wI .i64 (((ls++[(e,a)]).length:Int) - 1)=(ls.length:Int):=ahw ls _ V7;have l:at' (Jz (ls++[(e,a)])) (ls.length:Int)=a:=by
  show at' (List.map (λx=>x.2) (ls++[(e,a)])) _=_;rw[List.map_append];exact Jy _ a V8
 have m:at' (ls++[(e,a)]) (ls.length:Int)=(e,a):=Jy _ _ Z;have n:∀y,(ls++[(e,a)]).set ls.length y=ls++[y]:=λy=>YZ _ _ _ Z;have p:∀y:Int×V6 Int,at' (Jz (ls++[y])) (ls.length:Int)=y.2:=λy=>by
  show at' (List.map (λx=>x.2) (ls++[y])) _=_;rw[List.map_append];exact Jy _ y.2 V8
 unfold jO;dsimp only;rw[k,dM Q1,aY (show cY f _=_ from YS (T:=T) (S:=S) (lk:=lk) (c:=c) (v:=v) (pl:=pl) (ls:=ls++[(e,a)]) f x h)];dsimp only;rw[l,m,zA7,n,dM Q1,dM Q1,dM Q1,p];dsimp only;by_cases b:a.length+1<lk.length
 .rw[if_pos Q1,if_pos b,dM Q1,Jy ls _ Z,Q7]
 .rw[if_neg Q1,if_neg b,dM Q1,aY (afu f (a++[x]) i d g Q1 (j V7)),dM Q1];dsimp only;rw[List.take_left,aY (show bV f _ _=_ from MX (T:=T) (S:=S) (lk:=lk) (c:=c) (v:=v) (pl:=pl) (ls:=ls) f _ h)]
end
section
variable {T:V6 TM} {p:PG} {g:GRF} {c:V6 (V6 Int)} {gr:Int} {bk:V6 (V6 Int)} {nv n v:Nat}
def FY (v:Nat) (s:MS):Int×Int×Int×V6 Int×V6 (Int×V6 Int):=(s.2.1,(v:Int),(s.1:Int),s.2.2.1,s.2.2.2)
def RM (F:Nat) (T:V6 TM) (p:PG) (g:GRF) (c:V6 (V6 Int)) (v:Nat) (d:Int×V6 (V6 Int)) (s b:MS):Prop:=
 ∀a,eJ F T p g c (v:Int) d (FY v s) a=a (FY v b)
theorem mok {F:Nat} (hF:100<=F) (hW:WOk ((p,g,gr,bk),c,(v:Int),[]) nv n v) (hT:T.length<=1000) (hd:(at' g.2 (v:Int)).length<=23):
  MOk T nv (at' g.2 (v:Int)).length (lfW ((p,g,gr,bk),c,(v:Int),[])) (RM F T p g c v (gr,bk)):=by
 have⟨hv,M,h1,h2,h3,P,h5,h8,h9⟩:=id hW;dsimp only at hv h1 h2 h3 P h5 h8 h9;have l:∀{pl:Nat},pl<T.length->wI .i64 ((pl:Int)+1)=((pl+1:Nat):Int):=λh=>Q9;refine⟨?_,?_,?_,?_,?_,?_,?_,?_,?_,?_⟩
 .intro pl k S i t b f d hx W hp C aa;refine⟨wI .i64 (k+1),λs=>?_⟩
  have⟨w1,w2⟩:=MH hx;have H:∀a:Int,bV F (T,(p,g,gr,bk),at' g.2 (v:Int),c,(v:Int),((pl+1:Nat):Int),S,i) a=some ((v:Int),((pl+1:Nat):Int),S++[a]):=λa=>MX F a V7;have L:t.1=5\/t.1=12->0<=t.2/\t.2<(nv:Int):=λh=>Nz W.2 h;show eJ F T p g c (v:Int) (gr,bk) (FY v (pl,k,S,i)) s=s (FY v (pl+1,wI .i64 (k+1),S++[SL ((p,g,gr,bk),c,(v:Int),[]) t.1 t.2 (JZ i)],i));have j:∀a:Int,RO t=(1,a)->eJ F T p g c (v:Int) (gr,bk) (FY v (pl,k,S,i)) s=s (FY v (pl+1,wI .i64 (k+1),S++[a],i)):=λa G=>by
   unfold eJ FY;dsimp only;rw[Q8,Q6,d,G,l f];dsimp only;rw[if_pos Z,aY (show bV F _ _=_ from H a)]
  by_cases w:t.1=1
  .rw[show SL ((p,g,gr,bk),c,(v:Int),[]) t.1 t.2 (JZ i)=t.2 from if_pos w];exact j _ (if_pos w)
  by_cases x:t.1=2
  .rw[show SL ((p,g,gr,bk),c,(v:Int),[]) t.1 t.2 (JZ i)=1 by unfold SL;rw[if_neg w,if_pos x]];exact j _ (by unfold RO;rw[if_neg w,if_pos x])
  by_cases z:t.1=3
  .rw[show SL ((p,g,gr,bk),c,(v:Int),[]) t.1 t.2 (JZ i)=0 by unfold SL;rw[if_neg w,if_neg x,if_pos z]];exact j _ (by unfold RO;rw[if_neg w,if_neg x,if_pos z])
  by_cases B:t.1=4
  .rw[show SL ((p,g,gr,bk),c,(v:Int),[]) t.1 t.2 (JZ i) = -1 by unfold SL;rw[if_neg w,if_neg x,if_neg z,if_pos B]];exact j _ (by unfold RO;rw[if_neg w,if_neg x,if_neg z,if_pos B])
  by_cases I:t.1=5
  .have G:RO t=(2,t.2):=by unfold RO;rw[if_neg w,if_neg x,if_neg z,if_neg B,if_pos I]
   have D:SL ((p,g,gr,bk),c,(v:Int),[]) t.1 t.2 (JZ i)=at' (at' c (v:Int)) t.2:=by unfold SL;rw[if_neg w,if_neg x,if_neg z,if_neg B,if_pos I]
   have ab:=L (.inl I);have hr:=P v M;rw[D];unfold eJ FY;dsimp only;rw[Q8,Q6,d,G,l f];dsimp only;rw[if_neg Q2,if_pos Z,aY (show jM F _ _=_ from ajn (T:=T) (S:=(p,g,gr,bk)) (lk:=at' g.2 (v:Int)) (c:=c) (v:=(v:Int)) (pl:=((pl+1:Nat):Int)) (st:=S) (ls:=i) F t.2 V7 V7 V7)]
  by_cases J:t.1=12
  .have G:RO t=(3,t.2):=by unfold RO;rw[if_neg w,if_neg x,if_neg z,if_neg B,if_neg I,if_pos J]
   have ac:=L (.inr J);have hb:b=true:=by
    rcases W.1 with h|h
    .exact h
    .omega
   have⟨q,R,U⟩:=hp hb;have V:=h5 v M q U;obtain⟨u,hu⟩:∃u:Nat,(at' (at' g.2 (v:Int)) (q:Int)).1=(u:Int):=⟨_,(Int.toNat_of_nonneg V.1).symm⟩
   have hr:=P u V7;have D:SL ((p,g,gr,bk),c,(v:Int),[]) t.1 t.2 (JZ i)=at' (at' c (at' (at' g.2 (v:Int)) (JZ i)).1) t.2:=by unfold SL VO;rw[if_neg w,if_neg x,if_neg z,if_neg B,if_neg I,if_pos J]
   rw[D];unfold eJ FY;dsimp only;rw[Q8,Q6,d,G,l f];dsimp only;rw[if_neg Q2,if_neg Q2,if_pos Z,aY (show jN F _ _=_ from ajp (T:=T) (S:=(p,g,gr,bk)) (lk:=at' g.2 (v:Int)) (c:=c) (v:=(v:Int)) (pl:=((pl+1:Nat):Int)) (st:=S) (ls:=i) F t.2 V7 V7 (by rw[R];omega) (by rw[R,hu];omega) (by rw[R,hu,hr];omega))]
  have E:=adY hW F (o:=t.1) (a:=t.2) hx W hp V7 J;have G:RO t=(4,t.1):=by unfold RO;rw[if_neg w,if_neg x,if_neg z,if_neg B,if_neg I,if_neg J]
  unfold eJ FY;dsimp only;rw[Q8,Q6,d,G,l f];dsimp only;rw[if_neg Q2,if_neg Q2,if_neg Q2,if_pos Z,aY (show jL F _ _=_ from ajm (T:=T) (S:=(p,g,gr,bk)) (lk:=at' g.2 (v:Int)) (c:=c) (v:=(v:Int)) (pl:=((pl+1:Nat):Int)) (st:=S) (ls:=i) F t.1 _ V7 V7 E)]
 .intro pl k S i o A f d m r y C;refine⟨wI .i64 (k+1),λs=>?_⟩
  unfold eJ FY;dsimp only;rw[Q8,Q6,d,l f];dsimp only;rw[if_neg Q2,if_neg Q2,if_neg Q2,if_neg Q2,if_pos Z,aY (show kW F _ _=_ from mUn (T:=T) (S:=(p,g,gr,bk)) (lk:=at' g.2 (v:Int)) (c:=c) (v:=(v:Int)) (pl:=((pl+1:Nat):Int)) (st:=S) (ls:=i) F o A V7 V7 m r y)]
 .intro pl k S i o A w' f d m r y X C;refine⟨wI .i64 (k+1),λs=>?_⟩
  unfold eJ FY;dsimp only;rw[Q8,Q6,d,l f];dsimp only;rw[if_neg Q2,if_neg Q2,if_neg Q2,if_neg Q2,if_neg Q2,if_pos Z,aY (show kF F _ _=_ from mBi (T:=T) (S:=(p,g,gr,bk)) (lk:=at' g.2 (v:Int)) (c:=c) (v:=(v:Int)) (pl:=((pl+1:Nat):Int)) (st:=S) (ls:=i) F o A w' V7 V7 m r y X)]
 .intro pl k S i a f d C;refine⟨wI .i64 (k+1),λs=>?_⟩
  unfold eJ FY;dsimp only;rw[Q8,Q6,d,l f];dsimp only;have:=afs (T:=T) (S:=(p,g,gr,bk)) (lk:=at' g.2 (v:Int)) (c:=c) (v:=(v:Int)) (pl:=((pl+1:Nat):Int)) (st:=S) (ls:=i) F (a:Int) 0 V7;rw[if_pos Z]at this;rw[if_neg Q2,if_neg Q2,if_neg Q2,if_neg Q2,if_neg Q2,if_neg Q2,if_pos Z,aY (show gS F _ _=_ from this)]
 .intro pl k S i a A f d y C;refine⟨wI .i64 (k+1),λs=>?_⟩
  unfold eJ FY;dsimp only;rw[Q8,Q6,d,l f];dsimp only;have:=afs (T:=T) (S:=(p,g,gr,bk)) (lk:=at' g.2 (v:Int)) (c:=c) (v:=(v:Int)) (pl:=((pl+1:Nat):Int)) (st:=S) (ls:=i) F (a:Int) A V7;rw[if_neg y]at this;rw[if_neg Q2,if_neg Q2,if_neg Q2,if_neg Q2,if_neg Q2,if_neg Q2,if_pos Z,aY (show gS F _ _=_ from this)]
 .intro pl k S i a f d;refine⟨wI .i64 (k+1),λs=>?_⟩
  unfold eJ FY;dsimp only;rw[Q8,Q6,d];dsimp only;rw[if_neg Q2,if_neg Q2,if_neg Q2,if_neg Q2,if_neg Q2,if_neg Q2,if_neg Q2,if_pos Z];rfl
 .intro pl k S i a o O f d ha K m r C;refine⟨wI .i64 (k+1),λs=>?_⟩
  unfold eJ FY;dsimp only;rw[Q8,Q6,d,l f];dsimp only;rw[if_neg Q2,if_neg Q2,if_neg Q2,if_neg Q2,if_neg Q2,if_neg Q2,if_neg Q2,if_neg Q2,if_pos Z,aY (show gE F _ _=_ from ahC (T:=T) (S:=(p,g,gr,bk)) (lk:=at' g.2 (v:Int)) (c:=c) (v:=(v:Int)) (pl:=((pl+1:Nat):Int)) (st:=S) (ls:=i) F (a:Int) o V7 V7 O V7 V7 K m r)];rfl
 .intro pl k S i a O f d hL;refine⟨wI .i64 (k+1),λs=>?_⟩
  unfold eJ FY;dsimp only;rw[Q8,Q6,d,l f];dsimp only;rw[if_neg Q2,if_neg Q2,if_neg Q2,if_neg Q2,if_neg Q2,if_neg Q2,if_neg Q2,if_neg Q2,if_pos Z,aY (show gE F _ _=_ from ahD (T:=T) (S:=(p,g,gr,bk)) (lk:=at' g.2 (v:Int)) (c:=c) (v:=(v:Int)) (pl:=((pl+1:Nat):Int)) (st:=S) (ls:=i) F a V7 O V7),show((pl+1:Nat):Int) - 1=(pl:Int) by omega]
 .intro pl k S i e Y A o f d N he hL C m r;refine⟨wI .i64 (k+1),λs=>?_⟩
  unfold eJ FY;dsimp only;rw[Q8,Q6,d,l f];dsimp only;have:=afv (T:=T) (S:=(p,g,gr,bk)) (lk:=at' g.2 (v:Int)) (c:=c) (v:=(v:Int)) (pl:=((pl+1:Nat):Int)) (st:=S) (ls:=i) F o A (e:Int) Y V7 V7 V7 V7 hd V7 m r (λh=>V7);rw[if_pos N]at this;rw[if_neg Q2,if_neg Q2,if_neg Q2,if_neg Q2,if_neg Q2,if_neg Q2,if_neg Q2,if_neg Q2,if_neg Q2,if_pos Z,aY (show jO F _ _=_ from this)];rfl
 .intro pl k S i e Y A o f d N m r Q hL C he;refine⟨wI .i64 (k+1),λs=>?_⟩
  unfold eJ FY;dsimp only;rw[Q8,Q6,d,l f];dsimp only;have:=afv (T:=T) (S:=(p,g,gr,bk)) (lk:=at' g.2 (v:Int)) (c:=c) (v:=(v:Int)) (pl:=((pl+1:Nat):Int)) (st:=S) (ls:=i) F o A (e:Int) Y V7 V7 V7 V7 hd V7 m r (λ_=>Q);rw[Q0]at this;rw[if_neg Q2,if_neg Q2,if_neg Q2,if_neg Q2,if_neg Q2,if_neg Q2,if_neg Q2,if_neg Q2,if_neg Q2,if_pos Z,aY (show jO F _ _=_ from this)]
end
end Go.Proofs.YtemmagadjnlajaaGreatDoor
namespace Go.Proofs.YtemmagadjnlajaaGreatDoor
open Go.Sx
def zN (a:V4):V1 V4:=
 some (a)
def Eo (U:Nat) (b a:Int):V1 V4:=
 if(0:Int)<=a then(if a<(32:Int)then(ck (0<=(wI .u64 a)) (zN (decide ((Fv .u32 (Rm .u32 b (wI .u64 a)) (1:Int))=(1:Int)))))else(zN (false)))else(zN (false))
theorem agb:aX prog 10:=call10
theorem Uq {b d:Int} (r:V4) (h:Eo U b d=some r):
  aZ prog 10 #[vU (b),vI (d)] [] (λx:Unit=>vB (r)) (λx l=>l) (λ_ l=>l):=by
 refine aZ.of func10 Z ntmps10 Z λc=>Q3 Z<|aI<|cC (λa=>zN a=some r) (λa e=>[(4,vB (a))]) (λa e=>[]) ?_ ?_
 .refine aL<|aA Z<|aC (lD Z Z) Z<|aA Z<|mL h Z (λ_ h=>?_) λ_ h=>?_
  .refine bH Z<|aF Z (Hg Z Z) Z<|bO Z<|aA Z<|mL h Z (λ_ h=>?_) λ_ h=>?_
   .exact bH Z<|bH Z<|aF Z (ZS Z Z Z) Z<|eX h λf h=>aF Z (afe Z Z f) Z<|aF Z (afa Z Z) Z<|aF Z (oV Z Z) Z<|bO Z<|Q4 Z<|cF (decide ((Fv .u32 (Rm .u32 b (wI .u64 d)) (1:Int))=(1:Int))) () h SF Z
   exact aD Z<|aD Z<|aD Z<|aD Z<|aD Z<|aD Z<|bT Z<|Q4 Z<|cF (false) () h SF Z
  exact aD Z<|aD Z<|bT Z<|aA Z<|aD Z<|aD Z<|aD Z<|aD Z<|aD Z<|aD Z<|bT Z<|Q4 Z<|cF (false) () h SF Z
 intro a e h;unfold zN at h;refine aP ?_;cases h;exact gM Z
def Et (a:V4):V1 V4:=
 some (a)
def uZ (U:Nat) (a b c:Int):V1 V4:=
 if b<=a then(Et (decide (a<=c)))else(Et (false))
theorem L_:aX prog 86:=call86
theorem Dm {b f d:Int} (r:V4) (h:uZ U b f d=some r):
  aZ prog 86 #[vI (b),vI (f),vI (d)] [] (λx:Unit=>vB (r)) (λx l=>l) (λ_ l=>l):=by
 refine aZ.of func86 Z ntmps86 Z λc=>Q3 Z<|aI<|cC (λa=>Et a=some r) (λa e=>[(6,vB (a))]) (λa e=>[]) ?_ ?_
 .refine aL<|aA Z<|aA Z<|aC (lD Z Z) Z<|aA Z<|mL h Z (λ_ h=>?_) λ_ h=>?_
  .exact bH Z<|bH Z<|aF Z (nH Z Z) Z<|bO Z<|Q4 Z<|cF (decide (b<=d)) () h SF Z
  exact aD Z<|aD Z<|aD Z<|bT Z<|Q4 Z<|cF (false) () h SF Z
 intro a e h;unfold Et at h;refine aP ?_;cases h;exact gM Z
def tB (a:Unit):V1 V4:=
 some (true)
def tC (b:Int) (a:(Int)->V1 V4) (c:Unit):V1 V4:=
 a (wI .i64 (b+(1:Int)))
def lN (d:cJ) (b:Int) (e:(Int)->V1 V4) (a:Int) (c:(Int)->V1 V4):V1 V4:=
 if a<b then(ck (0<=a/\a<(d.length:Int)) (ck (0<=b/\b<(d.length:Int)) (if((at' d a).1)=((at' d b).1)then(some (false))else(c (wI .i64 (a+(1:Int)))))))else(tC b e (()))
def nC (d:cJ) (c:Int) (b:(Int)->V1 V4) (a:V4):V1 V4:=
 if a=true then(some (false))else(bG (lN d c b) U (0:Int))
def j_ (b:cJ) (f g a:Int) (c:(Int)->V1 V4):V1 V4:=
 if a<(b.length:Int)then(ck (0<=a/\a<(b.length:Int)) (Option.bind (uZ U ((at' b a).1) (0:Int) (wI .i64 (g - (1:Int)))) λd=>(if(!d)=true then(nC U b a c (true))else(ck (0<=a/\a<(b.length:Int)) (if((at' b a).1)=f then(nC U b a c (true))else(ck (0<=a/\a<(b.length:Int)) (Option.bind (uZ U ((at' b a).2) (1:Int) (15:Int)) λe=>(nC U b a c ((!e))))))))))else(tB (()))
def oE (a:cJ) (b c:Int):V1 V4:=
 bG (j_ U a b c) U (0:Int)
theorem adj:aX prog 166:=call166
theorem Kz (U:Nat) {j:cJ} {f g:Int} (k:V0) (r:Bool) (h:oE U j f g=some r):
  aZ prog 166 #[k,vI (f),vI (g)] [Sl aS k j] (λx:Unit=>vB (r)) (λx l=>l) (λ_ l=>l):=by
 refine aZ.of func166 Z ntmps166 Z λc=>?_;unfold oE at h;refine aT<|aB Z<|aM<|aI<|cC (λw=>tB w=some r) (λw D=>[]) (λw D=>[]) ?_ ?_
 .refine aT<|aB Z<|aM<|aU<|eP (j_ U j f g) (λd E=>[(0,k),(1,vI (f)),(2,vI (g)),(7,vI (d))]) (λd E=>[]) (0:Int) () h SF (aW.refl _) ?_;intro G d E h;let i:=(bG (j_ U j f g) G)
  refine aI<|aT<|aA Z<|aA Z<|eL (cG Z) Z<|cX Z<|aM ?_;refine eF h Z (λh=>?_) λh=>?_
  .refine bK<|aI<|cC (λy=>tC d i y=some r) (λy m=>[(0,k),(1,vI (f)),(2,vI (g)),(7,vI (d))]) (λy m=>[]) ?_ ?_
   .refine aU<|aI<|aI<|cC (λa=>nC U j d i a=some r) (λa n=>[(0,k),(1,vI (f)),(2,vI (g)),(7,vI (d)),(41,vB (a))]) (λa n=>[]) ?_ ?_
    .refine aL<|aA Z<|aA Z<|eX h λs h=>aC (a_ Z Z (cG Z) Z Z s) Z<|aC (cB Z Z Z Z Z) Z<|aC (fW Z (cG Z) Z Z Z kS s) Z<|aA Z<|aC (kT Z Z) Z<|dG h λA B h=>aK (zB8 L_ (Dm U A B) Z .nil) Z λH=>aC (fF Z) Z<|aA Z ?_;refine iO (by exact rfl) (by exact rfl) (λb=>?_) (λb=>?_)
     .have h:=Bt b h;refine aD Z<|aD Z<|aD Z<|aD Z<|aD Z<|aD Z<|aD Z<|bO Z<|aA Z<|aD Z<|aD Z<|aD Z<|aD Z<|aD Z<|aD Z<|aD Z<|bO Z<|aM ?_;exact cF (true) () h SF Z
     have h:=w_ b h;refine bH Z<|bH Z<|eX h λt h=>aF Z (a_ Z Z (cG Z) Z Z t) Z<|aF Z (cB Z Z Z Z Z) Z<|aF Z (fW Z (cG Z) Z Z Z kS t) Z<|bH Z<|aF Z (oV Z Z) Z<|bT Z<|aA Z ?_;refine mL h Z (λ_ h=>?_) λ_ h=>?_
     .refine aD Z<|aD Z<|aD Z<|aD Z<|aD Z<|aD Z<|aD Z<|bO Z<|aM ?_;exact cF (true) () h SF Z
     refine bH Z<|bH Z<|eX h λu h=>aF Z (a_ Z Z (cG Z) Z Z u) Z<|aF Z (cB Z Z Z Z Z) Z<|aF Z (fW Z (cG Z) Z Z Z HG u) Z<|dG h λv C h=>fU Z (zB8 L_ (Dm U v C) Z .nil) Z λI=>aF Z (fF Z) Z<|bT Z<|aM ?_;exact cF ((!v)) () h SF Z
    intro a n h;refine iA h Z (λ_ h=>?_) λ_ h=>?_
    .refine aT<|aB Z<|aM<|aP<|aG<|bB<|aG<|aG<|bB<|aG ?_;cases h;exact gM Z
    refine bK<|aT<|aB Z<|aM<|aU<|eP (lN j d i) (λe o=>[(0,k),(1,vI (f)),(2,vI (g)),(7,vI (d)),(8,vI (e))]) (λe o=>[]) (0:Int) () h SF (aW.refl _) ?_;intro F e o h;refine aI<|aT<|aA Z<|aA Z<|cX Z<|aM ?_;refine eF h Z (λh=>?_) λh=>?_
    .refine bK<|aI<|aU<|aI ?_;refine xP [0,0,3,7,15,0,0,96,224,480,1023] 10 mixedOrders ?_;refine bE Z<|bE Z<|eX h λp h=>bI Z .nil (jP 0 Z) (a_ Z Z (cG Z) Z Z p) aR.z<|iD Z (cB Z Z Z Z Z)<|bI Z .nil (jP 0 Z) (fW Z (cG Z) Z Z Z kS p) aR.z<|bE Z<|bE Z<|eX h λq h=>bI Z .nil (jP 0 Z) (a_ Z Z (cG Z) Z Z q) aR.z<|iD Z (cB Z Z Z Z Z)<|bI Z .nil (jP 0 Z) (fW Z (cG Z) Z Z Z kS q) aR.z<|bS 10 Z Z<|bP Z<|aM ?_;refine eF h Z (λh=>?_) λh=>?_
     .refine aT<|aB Z<|aM<|aP<|bB<|aG<|aG<|bB<|bB<|aG<|aG<|bB<|aG ?_;cases h;exact gM Z
     refine cZ<|jZ<|aL<|aA Z<|cP Z<|aB Z<|aM ?_;exact Ac (wI .i64 (e+(1:Int))) () h SF Z
    refine uS<|gY<|gY<|BC<|jZ ?_;exact cF () (()) h SF Z
   intro y m h;unfold tC at h;refine aL<|aA Z<|cP Z<|aB Z<|aM ?_;exact Ac (wI .i64 (d+(1:Int))) () h SF Z
  refine fK ?_;exact cF () (()) h SF Z
 intro w D h;unfold tB at h;refine aT<|aB Z<|aM<|aP ?_;cases h;exact gM Z
def G_ (a:Unit):V1 (Int):=
 some (-1:Int)
def DU (c:dB) (a e b:Int) (d:(Int)->V1 (Int)):V1 (Int):=
 ck (0<=a/\a<(c.2.length:Int)) (if b<((at' c.2 a).length:Int)then(ck (0<=a/\a<(c.2.length:Int)) (ck (0<=b/\b<((at' c.2 a).length:Int)) (if((at' (at' c.2 a) b).1)=e then(some (b))else(d (wI .i64 (b+(1:Int)))))))else(G_ (())))
def BY (a:dB) (b c:Int):V1 (Int):=
 bG (DU a b c) U (0:Int)
theorem adk:aX prog 167:=call167
theorem Sp {g:dB} {i j:Int} (k m:V0) (q:oB) (r:Int) (h:BY U g i j=some r):
  aZ prog 167 #[Value.agg #[k,m],vI (i),vI (j)] [Sl cQ k g.1,S2 aS m q g.2] (λx:Unit=>vI (r)) (λx l=>l) (λ_ l=>l):=by
 refine aZ.of func167 Z ntmps167 Z λc=>?_;unfold BY at h;refine aT<|aK (aO.box (cs:=[k,m]) Z Z) Z λn=>Q4 Z<|aI<|cC (λd=>G_ d=some r) (λd o=>[]) (λd o=>[]) ?_ ?_
 .refine Q3 Z<|aU<|eP (DU g i j) (λe p=>[(1,vI (i)),(2,vI (j)),(3,vP n),(7,vI (e))]) (λe p=>[bU n [k,m] 29]) (0:Int) () h SF (aW.refl _) ?_;intro s e p h;refine aI<|Q5 Z<|bD Z<|bY 0 Z<|aA Z<|eX h λf h=>aC (fJ Z Z (iZ Z) Z Z f) Z<|aC (eI Z (iZ Z) Z Z f) Z<|aC (dO Z (zB9 (iZ Z) f.1 f.2) Z) Z<|cX Z<|aM<|eF h Z (λh=>?_) λh=>?_
  .refine bK<|aI<|aU<|aT<|bD Z<|bY 0 Z<|aA Z<|eX h λa h=>aC (fJ Z Z (iZ Z) Z Z a) Z<|aC (eI Z (iZ Z) Z Z a) Z<|aA Z<|eX h λb h=>aC (a_ Z Z (zB9 (iZ Z) a.1 a.2) Z Z b) Z<|aC (cB Z Z Z Z Z) Z<|aC (fW Z (zB9 (iZ Z) a.1 a.2) Z Z Z kS b) Z<|aA Z<|bP Z<|aM<|eF h Z (λh=>?_) λh=>?_
   .refine Q5 Z<|Q4 Z<|aP<|bB<|aG<|aG<|bB<|aG ?_;cases h;exact mK Z
   exact cZ<|jZ<|aL<|aA Z<|cP Z<|Q4 Z<|Ac (wI .i64 (e+(1:Int))) () h SF Z
  exact fK<|bQ () (()) h SF .nil (aE.refl _ _)
 intro d o h;unfold G_ at h;refine Q3 Z<|aP ?_;cases h;exact gM Z
end Go.Proofs.YtemmagadjnlajaaGreatDoor