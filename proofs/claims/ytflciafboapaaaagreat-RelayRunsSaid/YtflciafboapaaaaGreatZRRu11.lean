/- Models and proofs. Conditions: none. -/
import Derived.Test.YtflciafboapaaaaGreatZRRu5
import Derived.Test.YtflciafboapaaaaGreatZRRu6
import Derived.Test.YtflciafboapaaaaGreatZRRu10
import Derived.Test.YtflciafboapaaaaGreatZRRu2
import Derived.Test.YtflciafboapaaaaGreatZRRu7
import Derived.Test.YtflciafboapaaaaGreatZRRu9
import Derived.Test.YtflciafboapaaaaGreatZRRu1
import Derived.OpenShut
set_option linter.unusedVariables false
set_option linter.unusedSimpArgs false
set_option maxHeartbeats 4000000
set_option maxRecDepth 20000
namespace Go.Proofs.YtflciafboapaaaaGreat
open Go.Sx
def uA (b:bO) (a:List bO×List (List bO)):Option AS:=
 some ((b,a.1,a.2))
def pL (c:NU) (b:UG->Option AS) (a:Int×List (List bO)×List bO):Option AS:=
 b (a.1,(wI .i64 (c.2.1+(1:Int))),a.2.2,a.2.1)
def uB (a:NU) (c:UG->Option AS) (b:Int×bO×List bO):Option AS:=
 ck ((a.2.2.1.length:Int)+(List.length ([b.2.1]):Int)<=1099511627) (ck ((a.2.2.2.length:Int)+(List.length ([b.2.2]):Int)<=1099511627) (pL a c (b.1,(a.2.2.2++[b.2.2]),(a.2.2.1++[b.2.1]))))
def uC (a:Int×bO×List bO×Int) (c:(Int×bO×List bO×Int)->Option AS) (d:bQ) (b:bO):Option AS:=
 ck ((a.2.2.1.length:Int)+(List.length ([b]):Int)<=1099511627) (c ((wI .i64 (a.1+(1:Int))),(a.2.1++[d]),(a.2.2.1++[b]),(wI .i64 (a.2.2.2+(1:Int)))))
def uD (U:Nat) (j:Ko) (i:cO) (k:AC) (h:NU) (b:Int×bO×List bO×Int) (d:(Int×bO×List bO×Int)->Option AS) (g:bQ) (f:Int) (a:bO×Int) (e:(bO×Int)->Option AS):Option AS:=
 if a.2<f then(Option.bind (qA U ((i.1,i.2)) k h.2.1 j.2.2.1 (wI .i64 ((wI .i64 ((5:Int)*b.1))+(wI .i64 ((2:Int)*a.2))))) λc=>(ck ((a.1.length:Int)+(List.length ([c]):Int)<=1099511627) (e ((a.1++[c]),(wI .i64 (a.2+(1:Int)))))))else(uC b d g (a.1))
def kN (U:Nat) (f:Ko) (g:cO) (h:AC) (e:NU) (b:Int×bO×List bO×Int) (a:(Int×bO×List bO×Int)->Option AS) (d:bQ) (c:Int):Option AS:=
 bJ (uD U f g h e b a d c) U (([]:bO),(0:Int))
def kO (U:Nat) (e:Ko) (f:cO) (i:AC) (j:Int) (b:NU) (g:UG->Option AS) (a:Int×bO×List bO×Int) (c:(Int×bO×List bO×Int)->Option AS):Option AS:=
 ck (0<=b.2.1/\b.2.1<(f.2.length:Int)) (if a.2.2.2<((at' f.2 b.2.1).length:Int)then(ck (0<=b.2.1/\b.2.1<(f.2.length:Int)) (ck (0<=a.2.2.2/\a.2.2.2<((at' f.2 b.2.1).length:Int)) (Option.bind (qA U ((f.1,f.2)) i ((at' (at' f.2 b.2.1) a.2.2.2).1) e.2.1 (wI .i64 ((3:Int)*a.1))) λd=>(ck ((a.2.1.length:Int)+(List.length ([d]):Int)<=1099511627) (if(0:Int)<(e.2.2.2.length:Int)then(ck ((e.2.2.2.length:Int)≠0) (ck (0<=(Int.tmod a.1 (e.2.2.2.length:Int))/\(Int.tmod a.1 (e.2.2.2.length:Int))<(e.2.2.2.length:Int)) (Option.bind (eQ U (at' e.2.2.2 (Int.tmod a.1 (e.2.2.2.length:Int))) (wI .i64 (j+(1:Int)))) λh=>(kN U e f i b a c d (h)))))else(kN U e f i b a c d (0:Int)))))))else(uB b g (a.1,a.2.1,a.2.2.1)))
def gG (U:Nat) (d:Ko) (c:cO) (e:AC) (f:Int) (g:bO) (a:NU) (b:UG->Option AS):Option AS:=
 if a.2.1<(c.2.length:Int)then(bJ (kO U d c e f a b) U (a.1,([]:bO),([]:rM),(0:Int)))else(uA g (a.2.2.1,a.2.2.2))
def nG (U:Nat) (b:Ko) (a:cO) (c:AC) (d:Int):Option AS:=
 Option.bind (jE U ((a.1,a.2)) c b.1) λe=>(bJ (gG U b a c d e) U ((0:Int),(0:Int),([]:rM),([]:Cq)))
theorem Sq:bB Tryz.prog 11:=Tryz.call11
theorem wJ (U:Nat) {S:Ko} {p1:cO} {p2:AC} {p3:Int} (v0 v1 v2 v3 v4 v5:V0) (z6:lE) (T:V0) (r:(bO×List bO×List (List bO))) (h:nG U S p1 p2 p3=some r):
  bD Tryz.prog 11 #[Value.agg #[v0,v1,v2,v3],Value.agg #[v4,v5],T,vI (p3)] [Sl aN v0 S.1,Sl aN v1 S.2.1,Sl aN v2 S.2.2.1,Sl aN v3 S.2.2.2,Sl aN v4 p1.1,S2 aX v5 z6 p1.2,Sl aH T p2] (λx:YZ=>Value.agg #[x.1,x.2.2.1,x.2.2.2.2.1]) (λx l=>l) (λx l=>S2 aN x.1 x.2.1 r.1::S3 aN x.2.2.1 x.2.2.2.1 r.2.1::S4 aN x.2.2.2.2.1 x.2.2.2.2.2 r.2.2::l):=by
 let ai:=(tg 1 ([]:fY))
 let L:=Sl aN v1 S.2.1;let K:=S2 aX v5 z6 p1.2;let am:=Sl aN v3 S.2.2.2;let al:=Sl aN v2 S.2.2.1;refine bD.of Tryz.func11 Z Tryz.ntmps11 Z λc=>?_;refine aU<|aK (aP.box (cs:=[v0,v1,v2,v3]) Z Z) Z λb1=>let ao:=bL b1 [v0,v1,v2,v3] 26;aK (aP.box (cs:=[v4,v5]) Z Z) Z λb2=>let P:=bL b2 [v4,v5] 31;aK (aP.alloc (cs:=[cT,cT,cT]) Z Z) Z λb3=>let ak:=bL b3 [cT,cT,cT] 43;aO<|aU<|dM 1 Z<|aA Z<|bU Z<|dQ 2 Z<|eT h λr4 w5 h=>let aq:=(gG U S p1 p2 p3 r4);aK (zBg WW (Gn U v4 v5 z6 T v0 r4 w5) Z (iN [4,5,6,0] Z)) Z λQ=>let aj:=Ar bM.raw Q.1 Q.2;bW (fQ 1 Z (mF (j:=0) Z jA))<|bF (vM (c_ (i:=0) (j:=0) Z Z)) λbC=>?_
 refine aB (Ow (r:=Value.agg #[Q.1,cT,cT]) Z (by intro w;simp[Instr.build,Instr.fill,eZ,eF,dO,e_,fC,eG,fR,iY bC])) Z ?_;refine aK (aP.alloc (cs:=[cT,cT,cT]) Z Z) Z λb8=>bF (vM (c_ (i:=1) (j:=0) Z Z)) λbG=>cG 0 (vs:=[Q.1,cT,cT]) Z Z (gJ bG (gJ Z (gJ Z Z))) Z Z Z<|aO<|aU<|aC Z<|aO<|aL<|kU (B:=NT) (λV=>uA r4 V=some r) (λV d=>[(8,vP b3),(9,vP b8)]) (λV d=>[bL b8 [Q.1,d.1,d.2.2.2.1] 43,aj,ak,Ar bM.raw d.1 d.2.1,gN bM.raw d.2.1 d.2.2.1,Ar bM.raw d.2.2.2.1 d.2.2.2.2.1,wK bM.raw d.2.2.2.2.1 d.2.2.2.2.2.1 d.2.2.2.2.2.2]) (λV d=>[tA aN Q.2 r4,Sl aN v0 S.1,L,al,am,Sl aN v4 p1.1,K,Sl aH T p2,AD aN d.2.2.1 V.1,De aN d.2.2.2.2.2.2 V.2]) ?_ ?_
 ·refine aU<|aC Z<|aO<|aS<|bW (eX bM.raw)<|bW (iA bM.raw)<|bW (cJ (eD:aF _ _ (AD aN (tg 1 ([]:AU)) ([]:rM))))<|bW (eX bM.raw)<|bW (tX bM.raw)<|bW (cJ (eD:aF _ _ (De aN (tg 2 ([]:Mq)) ([]:Cq))))<|oS (B:=NT) aq (λk g=>[(2,T),(3,vI (p3)),(4,vP b1),(5,vP b2),(8,vP b3),(9,vP b8),(10,vI (k.1)),(11,vI (k.2.1))]) (λk g=>[bL b8 [Q.1,g.1,g.2.2.2.1] 43,aj,ak,P,ao,Ar bM.raw g.1 g.2.1,gN bM.raw g.2.1 g.2.2.1,Ar bM.raw g.2.2.2.1 g.2.2.2.2.1,wK bM.raw g.2.2.2.2.1 g.2.2.2.2.2.1 g.2.2.2.2.2.2]) (λk g=>[tA aN Q.2 r4,Sl aN v0 S.1,L,al,am,Sl aN v4 p1.1,K,Sl aH T p2,AD aN g.2.2.1 k.2.2.1,De aN g.2.2.2.2.2.2 k.2.2.2]) ((0:Int),(0:Int),([]:rM),([]:Cq)) ((tg 1 (cT)),ai,(tg 1 ([]:AU)),(tg 2 (cT)),(tg 2 ([]:fY)),(tg 2 ([]:AU)),(tg 2 ([]:Mq))) h SF (aZ.ix [4,5,6,7,8,3,2,1,0] Z Z) (iN [2,3,4,5,6,7,8,9,1,0] Z) ?_;intro bn k g h;let ag:=Ar bM.raw g.1 g.2.1;let ae:=AD aN g.2.2.1 k.2.2.1;let ac:=gN bM.raw g.2.1 g.2.2.1;let bc:=(kO U S p1 p2 p3 k (bJ aq bn))
  let y:=g.2.2.2;let ah:=Ar bM.raw y.1 y.2.1;let af:=De aN y.2.2.2 k.2.2.2;let ad:=bL b8 [Q.1,g.1,y.1] 43;let a9:=wK bM.raw y.2.1 y.2.2.1 y.2.2.2;refine aL<|aU<|aA Z<|bU Z<|dQ 3 Z<|aB (dU Z (Ja Z) Z) Z<|cV Z<|aO ?_;refine eN h Z (λh=>?_) λh=>?_
  ·refine cL<|aL<|kU (B:=V0×V0×List V0×List (List V0)×List V0×List (List V0)×List (List (List V0))) (λN=>pL k (bJ aq bn) N=some r) (λN n=>[(2,T),(3,vI (p3)),(4,vP b1),(5,vP b2),(8,vP b3),(9,vP b8),(10,vI (N.1)),(11,vI (k.2.1))]) (λN n=>[bL b8 [Q.1,n.1,n.2.1] 43,aj,ak,P,ao,Ar bM.raw n.1 n.2.2.1,gN bM.raw n.2.2.1 n.2.2.2.1,Ar bM.raw n.2.1 n.2.2.2.2.1,wK bM.raw n.2.2.2.2.1 n.2.2.2.2.2.1 n.2.2.2.2.2.2]) (λN n=>[De aN n.2.2.2.2.2.2 N.2.1,AD aN n.2.2.2.1 N.2.2,tA aN Q.2 r4,Sl aN v0 S.1,L,al,am,Sl aN v4 p1.1,K,Sl aH T p2]) ?_ ?_
   ·refine aS<|aU<|aC Z<|aO<|aU<|aC Z<|aO<|aL<|kU (B:=V0×List V0×V0×List V0×List (List V0)) (λO=>uB k (bJ aq bn) O=some r) (λO m=>[(2,T),(3,vI (p3)),(4,vP b1),(5,vP b2),(8,vP b3),(9,vP b8),(10,vI (O.1)),(11,vI (k.2.1)),(12,m.1),(13,m.2.2.1)]) (λO m=>[ad,aj,ak,P,ao,ag,ac,ah,a9,Ar bM.raw m.1 m.2.1,Ar bM.raw m.2.2.1 m.2.2.2.1,gN bM.raw m.2.2.2.1 m.2.2.2.2]) (λO m=>[tA aN Q.2 r4,Sl aN v0 S.1,L,al,am,Sl aN v4 p1.1,K,Sl aH T p2,ae,af,tA aN m.2.1 O.2.1,AD aN m.2.2.2.2 O.2.2]) ?_ ?_
    ·refine aU<|aC Z<|aO<|aS<|bW (eX bM.raw)<|bW (cJ (eD:aF _ _ (tA aN ai ([]:bO))))<|bW (eX bM.raw)<|bW (iA bM.raw)<|bW (cJ (eD:aF _ _ (AD aN (tg 2 ([]:AU)) ([]:rM))))<|oS (B:=V0×List V0×V0×List V0×List (List V0)) bc (λa f=>[(2,T),(3,vI (p3)),(4,vP b1),(5,vP b2),(8,vP b3),(9,vP b8),(10,vI (a.1)),(11,vI (k.2.1)),(12,f.1),(13,f.2.2.1),(14,vI (a.2.2.2))]) (λa f=>[ad,aj,ak,P,ao,ag,ac,ah,a9,Ar bM.raw f.1 f.2.1,Ar bM.raw f.2.2.1 f.2.2.2.1,gN bM.raw f.2.2.2.1 f.2.2.2.2]) (λa f=>[tA aN Q.2 r4,Sl aN v0 S.1,L,al,am,Sl aN v4 p1.1,K,Sl aH T p2,ae,af,tA aN f.2.1 a.2.1,AD aN f.2.2.2.2 a.2.2.1]) (k.1,([]:bO),([]:rM),(0:Int)) ((tg 1 (cT)),ai,(tg 2 (cT)),(tg 2 ([]:fY)),(tg 2 ([]:AU))) h SF (aZ.ix [3,4,5,6,7,8,9,10,11,2,1,0] Z Z) (iN [2,3,4,5,6,7,8,9,10,11,1,0] Z) ?_;intro a3 a f h;let C:=f.2.2;let a8:=Ar bM.raw C.1 C.2.1;let a7:=AD aN C.2.2 a.2.2.1;let a6:=gN bM.raw C.2.1 C.2.2;refine aL<|aU<|aA Z<|bU Z<|dQ 3 Z<|aA Z<|cU h λap h=>aB (bN Z Z (Ja Z) Z Z ap) Z<|aB (bT Z (Ja Z) Z Z ap) Z<|aB (fE Z (zBh (Ja Z) ap.1 ap.2) Z) Z<|cV Z<|aO ?_;refine eN h Z (λh=>?_) λh=>?_
     ·refine cL<|aL<|aS<|aL ?_;refine sW [0,0,0,0,8,0,56,120,0,504,1016,2040,0,4096,0,16384,65534,131070,262143,524287] 18 mixedOrders ?_;refine aV Z<|jD 3 Z<|aV Z<|cH Z<|fO 3 Z<|aV Z<|cU h λR h=>aY Z .nil (fN 6 Z) (bN Z Z (cA Z) Z Z R) aJ.z<|aY Z .nil (fN 6 Z) (bT Z (cA Z) Z Z R) aJ.z<|aV Z<|cU h λbf h=>aY Z .nil (fN 6 Z) (bE Z Z (zBh (cA Z) R.1 R.2) Z Z bf) aJ.z<|gC Z (cZ Z Z Z Z Z)<|aY Z .nil (fN 6 Z) (eL Z (zBh (cA Z) R.1 R.2) Z Z Z gT bf) aJ.z<|cH Z<|fO 4 Z<|aV Z<|gC Z (wB Z Z)<|eT h λA bz h=>zBi Z Z Z (aP.call WX (Ht U v4 v5 z6 T v1 A bz) Z (iC.cons (zA0 (i:=5) Z) (iC.cons (zA0 (i:=6) Z) (iC.cons (zA0 (i:=7) Z) (fN 2 Z)))) (λ_ _=>rfl) (λ_ _=>rfl)) Z (λu=>(mC [] Z)) λu=>let a4:=tA aN (f.2.1++[u]) (a.2.1++[A]);a_ (Know.one ((cA Z))) λa0=>zBj (cJ (gR (cA Z) eD))<|zBi Z Z Z (cM (e:=bM.raw) ([u]) [(0,u)] Z Z Z Z (jO (u) a0) Z Z (gJ a0 Z)) Z (λbu=>(mC [] Z)) λbu=>bP 18 Z Z<|bF (aW (Cv Z)) λax=>bF (aW (cA Z)) λay=>cU h λbg h=>bW (cJ (gF (Cv Z) (cA Z))) ?_
      refine aK (aP.append 10 0 Z Z Z Z Z Z Z (by have q:=bg;have q0:=ax;have q1:=ay;(try simp only[zA9,zAg,zA4]at *);omega) (by have q:=bg;have q0:=ax;have q1:=ay;(try simp only[zA9,zAg,zA4]at *);omega) Z) Z λan=>let a5:=Ar bM.raw an (f.2.1++[u]);?_
      refine aC Z<|aO<|aU<|aC Z<|aO<|aU<|aC Z<|aO<|aL<|kU (B:=Unit) (λD=>kN U S p1 p2 k a (bJ bc a3) A D=some r) (λD aw=>[(2,T),(3,vI (p3)),(4,vP b1),(5,vP b2),(8,vP b3),(9,vP b8),(10,vI (a.1)),(11,vI (k.2.1)),(12,an),(13,C.1),(14,vI (a.2.2.2)),(15,cT),(16,vI (D))]) (λD aw=>[ad,aj,ak,P,ao,ag,ac,ah,a9,a5,a8,a6]) (λD aw=>[a4,Sl aN u A,tA aN Q.2 r4,Sl aN v0 S.1,L,al,am,Sl aN v4 p1.1,K,Sl aH T p2,ae,af,a7]) ?_ ?_
      ·refine aU<|bU Z<|dQ 5 Z<|iH (ED Z) Z<|aB (tH Z Z) Z<|aO ?_;refine eN h Z (λh=>?_) λh=>?_
       ·refine sW [0,1,0,0,8,24,60,127,255,0,512,2047,4095] 11 mixedOrders ?_;refine cH Z<|fO 5 Z<|aV Z<|cH Z<|fO 5 Z<|aY Z .nil (fN 7 Z) (fE Z (cA Z) Z) aJ.z<|cU h λbt h=>gC Z (Nm Z Z bt)<|cU h λbj h=>aY Z .nil (fN 7 Z) (bE Z Z (cA Z) Z Z bj) aJ.z<|aY Z .nil (fN 7 Z) (cK Z (cA Z) Z Z Z eY bj) aJ.z<|aV Z<|gC Z (yT Z Z)<|bP 11 Z Z<|eT h λbm bB h=>aK (zBg Bc (g_ U bm bB) Z .nil) Z λbQ=>aC Z<|aO ?_;exact cI (bm) () h SF (aZ.ix [1,2,3,4,5,6,7,8,9,10,11,12] Z Z) (iN [0,2,3,4,5,6,7,8,9,10,11,12,14] Z)
       refine cL ?_;exact cI (0:Int) () h SF (aZ.ix [1,2,3,4,5,6,7,8,9,10,11,12] Z Z) (iN [0,2,3,4,5,6,7,8,9,10,11,12,14] Z)
      intro D aw h;unfold kN at h;refine aL<|kU (B:=Fx) (λM=>uC a (bJ bc a3) A M=some r) (λM p=>[(2,T),(3,vI (p3)),(4,vP b1),(5,vP b2),(8,vP b3),(9,vP b8),(10,vI (a.1)),(11,vI (k.2.1)),(12,an),(13,C.1),(14,vI (a.2.2.2)),(15,p.1)]) (λM p=>[ad,aj,ak,P,ao,ag,ac,ah,a9,a5,a8,a6,Ar bM.raw p.1 p.2]) (λM p=>[a4,Sl aN u A,tA aN Q.2 r4,Sl aN v0 S.1,L,al,am,Sl aN v4 p1.1,K,Sl aH T p2,ae,af,a7,tA aN p.2 M]) ?_ ?_
      ·refine aU<|aC Z<|aO<|aS<|bW (eX bM.raw)<|bW (cJ (eD:aF _ _ (tA aN ai ([]:bO))))<|oS (B:=Fx) (uD U S p1 p2 k a (bJ bc a3) A D) (λE s=>[(2,T),(3,vI (p3)),(4,vP b1),(5,vP b2),(8,vP b3),(9,vP b8),(10,vI (a.1)),(11,vI (k.2.1)),(12,an),(13,C.1),(14,vI (a.2.2.2)),(15,s.1),(16,vI (D)),(17,vI (E.2))]) (λE s=>[ad,aj,ak,P,ao,ag,ac,ah,a9,a5,a8,a6,Ar bM.raw s.1 s.2]) (λE s=>[a4,Sl aN u A,tA aN Q.2 r4,Sl aN v0 S.1,L,al,am,Sl aN v4 p1.1,K,Sl aH T p2,ae,af,a7,tA aN s.2 E.1]) (([]:bO),(0:Int)) ((tg 1 (cT)),ai) h SF (aZ.ix [1,2,3,4,5,6,7,8,9,10,11,12,0] Z Z) (iN [1,2,3,4,5,6,7,8,9,10,11,12,13,0] Z) ?_;intro bH E s h;refine aL<|aU<|aA Z<|aA Z<|cV Z<|aO ?_;refine eN h Z (λh=>?_) λh=>?_
       ·refine cL<|aL<|aS<|aQ<|aA Z<|dM 3 Z<|aA Z<|aA Z<|bU Z<|dQ 4 Z<|aA Z<|aB (wB Z Z) Z<|aA Z<|aB (wB Z Z) Z<|cP Z<|eT h λbl bA h=>aK (aP.call WX (Ht U v4 v5 z6 T v2 bl bA) Z (iC.cons (zA0 (i:=7) Z) (iC.cons (zA0 (i:=8) Z) (iC.cons (zA0 (i:=9) Z) (fN 5 Z)))) (λ_ _=>rfl) (λ_ _=>rfl)) Z λar=>bF (Know.one ((cA Z))) λa2=>bW (cJ (gR (cA Z) eD))<|aK (cM (e:=bM.raw) ([ar]) [(0,ar)] Z Z Z Z (jO (ar) a2) Z Z (gJ a2 Z)) Z λbK=>bF (aW (aF.fact 15 Z)) λaM=>bF (aW (cA Z)) λaT=>cU h λbi h=>bW (cJ (gF (aF.fact 15 Z) (cA Z))) ?_;refine aK (aP.append 13 0 Z Z Z Z Z Z Z (by have q:=bi;have q0:=aM;have q1:=aT;(try simp only[zA9,zAg,zA4]at *);omega) (by have q:=bi;have q0:=aM;have q1:=aT;(try simp only[zA9,zAg,zA4]at *);omega) Z) Z λbx=>?_;refine aC Z<|fJ<|lL<|aQ<|aA Z<|cP Z<|aC Z<|aO ?_;exact iG ((E.1++[bl]),(wI .i64 (E.2+(1:Int)))) (bx,(s.2++[ar])) h SF (aZ.ix [1,2,3,4,5,6,7,8,9,10,11,12,13] Z Z) (iN [3,4,5,6,7,8,9,10,11,12,13,14,15,0] Z)
       refine fG ?_;exact fT (E.1) (s.1,s.2) h SF Z
      intro M p h;refine aU<|aA Z<|aA Z<|bF (vM (c_ (i:=12) (j:=13) Z Z)) λa1=>bW (iA bM.raw)<|bW (rQ 0 13 Z Z Z)<|bW (cJ (gR (aF.fact 13 Z) eD))<|aK (cM (e:=bM.raw) ([p.1]) [(0,p.1)] Z Z Z Z (jO (p.1) a1) Z Z (gJ a1 Z)) Z λbI=>bF (aW (aF.fact 13 Z)) λaz=>bF (aW (cA Z)) λaD=>bF (dX 13 Z) λaE=>bF (dX 1 Z) λaG=>cU h λbh h=>bW (cJ (gF (aF.fact 13 Z) (cA Z)))<|bW (nO 13 1 Z Z Z) ?_;refine aK (aP.append 11 0 Z Z Z Z Z Z Z (by have q:=bh;have q0:=az;have q1:=aD;have q2:=aE;have q3:=aG;(try simp only[zA9,zAg,zA4]at *);omega) (by have q:=bh;have q0:=az;have q1:=aD;have q2:=aE;have q3:=aG;(try simp only[zA9,zAg,zA4]at *);omega) Z) Z λbw=>?_;refine aC Z<|aO<|aQ<|aA Z<|cP Z<|aC Z<|fJ<|lL<|aQ<|aA Z<|cP Z<|aC Z<|aO ?_;exact iG ((wI .i64 (a.1+(1:Int))),(a.2.1++[A]),(a.2.2.1++[M]),(wI .i64 (a.2.2.2+(1:Int)))) (an,(f.2.1++[u]),bw,(C.2.1++[p.1]),(C.2.2++[p.2])) h SF (aZ.ix [1,2,3,4,5,6,7,8,9,10,11,12] Z Z) (iN [4,5,6,7,8,9,10,11,12,13,2,0] Z)
     refine fG ?_;exact fT (a.1,a.2.1,a.2.2.1) (f.1,f.2.1,C.1,C.2.1,C.2.2) h SF Z
    intro O m h;let t:=m.2.2.1;refine cU h λau h=>cU h λbb h=>Ea [0,1,0,4,15,0,32,0,128,511,127,2047,4095,8191] 11 [[0,1,2,5,6,7,3,4,10,8,9,11,12,13],[0,1,2,5,6,7,3,8,4,10,9,11,12,13],[0,1,2,5,6,7,8,3,4,10,9,11,12,13]] mixedOrders (by decide +kernel) (by decide +kernel) ?_;intro o ho;simp only[zAm,zB7,or_false]at ho;rcases ho with rfl|rfl|rfl
    all_goals
     iterate 11 first
      |refine aY (i:=0) Z .nil .nil (cR Z Z Z Z Z) aJ.z ?_
      |refine aY (i:=1) Z (aZ.cons 0 Z .nil) .nil (dL 0 Z Z Z Z Z) aJ.z ?_
      |refine aY (i:=2) Z .nil .nil (eO Z) aJ.z ?_
      |refine a_ (vM (c_ (i:=9) (j:=10) Z Z)) λab=>?_
       refine zBj (iA bM.raw)<|zBj (rQ 0 10 Z Z Z)<|zBj (cJ (gR (FZ Z) eD))<|zBi (i:=3) Z Z Z (cM (e:=bM.raw) ([m.1]) [(0,m.1)] Z Z Z Z (jO (m.1) ab) Z Z (gJ ab Z)) Z (λbo=>(mC [([2],[]),([2],[])] Z)) λbo=>?_
      |refine a_ (vM (c_ (i:=11) (j:=11) Z Z)) λab=>?_
       refine zBj (iA bM.raw)<|zBj (rQ 0 12 Z Z Z)<|zBj (cJ (gR (yA Z) eD))<|zBi (i:=3) Z Z Z (cM (e:=bM.raw) ([m.1]) [(0,m.1)] Z Z Z Z (jO (m.1) ab) Z Z (gJ ab Z)) Z (λbo=>(mC [([4],[]),([4],[])] Z)) λbo=>?_
      |refine a_ (aW (PQ Z)) λF=>?_
       refine a_ (aW (cA Z)) λG=>a_ (dX 8 Z) λH=>a_ (dX 1 Z) λI=>zBj (cJ (gF (PQ Z) (cA Z)))<|zBj (nO 8 1 Z Z Z) ?_;refine zBi (i:=4) Z Z Z (aP.append 6 0 Z Z Z Z Z Z Z (by have q:=au;have q0:=F;have q1:=G;have q2:=H;have q3:=I;(try simp only[zA9,zAg,zA4]at *);omega) (by have q:=au;have q0:=F;have q1:=G;have q2:=H;have q3:=I;(try simp only[zA9,zAg,zA4]at *);omega) Z) Z (λav=>(mC [([1],[])] Z)) λav=>?_
      |refine a_ (aW (FZ Z)) λF=>?_
       refine a_ (aW (mM Z)) λG=>a_ (dX 10 Z) λH=>a_ (dX 3 Z) λI=>zBj (cJ (gF (FZ Z) (mM Z)))<|zBj (nO 10 3 Z Z Z) ?_;refine zBi (i:=4) Z Z Z (aP.append 8 2 Z Z Z Z Z Z Z (by have q:=au;have q0:=F;have q1:=G;have q2:=H;have q3:=I;(try simp only[zA9,zAg,zA4]at *);omega) (by have q:=au;have q0:=F;have q1:=G;have q2:=H;have q3:=I;(try simp only[zA9,zAg,zA4]at *);omega) Z) Z (λav=>(mC [([3],[])] Z)) λav=>?_
      |refine a_ (aW (FZ Z)) λF=>?_
       refine a_ (aW (cA Z)) λG=>a_ (dX 10 Z) λH=>a_ (dX 1 Z) λI=>zBj (cJ (gF (FZ Z) (cA Z)))<|zBj (nO 10 1 Z Z Z) ?_;refine zBi (i:=4) Z Z Z (aP.append 8 0 Z Z Z Z Z Z Z (by have q:=au;have q0:=F;have q1:=G;have q2:=H;have q3:=I;(try simp only[zA9,zAg,zA4]at *);omega) (by have q:=au;have q0:=F;have q1:=G;have q2:=H;have q3:=I;(try simp only[zA9,zAg,zA4]at *);omega) Z) Z (λav=>(mC [([3],[])] Z)) λav=>?_
      |refine aY (i:=5) Z .nil .nil (cR Z Z Z Z Z) aJ.z ?_
      |refine aY (i:=6) Z (aZ.cons 0 Z .nil) .nil (dL 0 Z Z Z Z Z) aJ.z ?_
      |refine aY (i:=7) Z .nil .nil (eO Z) aJ.z ?_
      |refine a_ (vM (gA (i:=10) (q:=11) (j:=13) Z Z Z)) λJ=>?_
       refine zBj (tX bM.raw)<|zBj (Gy 11 12 Z Z Z)<|zBj (CM 0 11 Z Z Z)<|zBj (cJ (gR (aF.fact 13 Z) eD))<|zBi (i:=8) Z Z Z (cM (e:=bM.raw) ([t]) [(0,t)] Z Z Z Z (jO (t) J) Z Z (gJ J Z)) Z (λba=>(mC [([3],[]),([3],[])] Z)) λba=>?_
      |refine a_ (vM (gA (i:=11) (q:=12) (j:=12) Z Z Z)) λJ=>?_
       refine zBj (tX bM.raw)<|zBj (Gy 12 13 Z Z Z)<|zBj (CM 0 12 Z Z Z)<|zBj (cJ (gR (Cv Z) eD))<|zBi (i:=8) Z Z Z (cM (e:=bM.raw) ([t]) [(0,t)] Z Z Z Z (jO (t) J) Z Z (gJ J Z)) Z (λba=>(mC [([4],[]),([4],[])] Z)) λba=>?_
      |refine a_ (vM (gA (i:=10) (q:=11) (j:=11) Z Z Z)) λJ=>?_
       refine zBj (tX bM.raw)<|zBj (Gy 11 12 Z Z Z)<|zBj (CM 0 11 Z Z Z)<|zBj (cJ (gR (yA Z) eD))<|zBi (i:=8) Z Z Z (cM (e:=bM.raw) ([t]) [(0,t)] Z Z Z Z (jO (t) J) Z Z (gJ J Z)) Z (λba=>(mC [([2],[]),([2],[])] Z)) λba=>?_
      |refine a_ (aW (Cv Z)) λW=>?_
       refine a_ (aW (by first|exact aF.fact 0 Z|exact aF.fact 1 Z)) λX=>?_;refine a_ (jY 11 Z) λY=>a_ (jY 1 Z) λaa=>?_;refine zBj (cJ (by first|exact gF (Cv Z) (cA Z)|exact gF (Cv Z) (mM Z))) ?_;refine zBj (EH 11 1 Z Z Z) ?_;refine zBi (i:=9) Z Z Z (aP.append 9 0 Z Z Z Z Z Z Z (by have q:=bb;have q0:=W;have q1:=X;have q2:=Y;have q3:=aa;(try simp only[zA9,zAg,zA4]at *);omega) (by have q:=bb;have q0:=W;have q1:=X;have q2:=Y;have q3:=aa;(try simp only[zA9,zAg,zA4]at *);omega) Z) Z (λbd=>(mC [] Z)) λbd=>?_
      |refine a_ (aW (Cv Z)) λW=>?_
       refine a_ (aW (yP Z)) λX=>a_ (jY 11 Z) λY=>a_ (jY 2 Z) λaa=>zBj (cJ (gF (Cv Z) (yP Z)))<|zBj (EH 11 2 Z Z Z) ?_;refine zBi (i:=9) Z Z Z (aP.append 9 1 Z Z Z Z Z Z Z (by have q:=bb;have q0:=W;have q1:=X;have q2:=Y;have q3:=aa;(try simp only[zA9,zAg,zA4]at *);omega) (by have q:=bb;have q0:=W;have q1:=X;have q2:=Y;have q3:=aa;(try simp only[zA9,zAg,zA4]at *);omega) Z) Z (λbd=>(mC [] Z)) λbd=>?_
      |refine aY (i:=10) Z .nil .nil (cR Z Z Z Z Z) (by first|exact aJ.b Z (EQ Z)|exact aJ.b Z PP|exact aJ.b Z PP) ?_
     refine bP 11 Z Z ?_
     first
      |refine bF (vM (gA (i:=7) (q:=8) (j:=2) Z Z Z)) λbe=>?_
      |refine bF (vM (gA (i:=7) (q:=8) (j:=1) Z Z Z)) λbe=>?_
     refine pJ 2 Z Z be Z Z Z<|bU Z<|bF (vM (gM (i:=9) (q:=10) (j:=0) Z Z Z)) λbs=>pJ 2 Z Z bs Z Z Z<|fJ<|lL ?_;exact cI (O.1,(k.2.2.2++[O.2.2]),(k.2.2.1++[O.2.1])) (av,bd,(g.2.1++[m.1]),(g.2.2.1++[m.2.1]),(y.2.1++[t]),(y.2.2.1++[m.2.2.2.1]),(y.2.2.2++[m.2.2.2.2])) h SF (aZ.ix [2,3,4,5,6,7,8,9,10] Z Z) (by first|exact aI.cons (cA Z) (iN [2,4,5,6,7,8,9,10,11] Z)|exact aI.cons (cA Z) (iN [1,4,5,6,7,8,9,10,11] Z))
   intro N n h;unfold pL at h;refine aQ<|aA Z<|cP Z<|aC Z<|aO ?_;exact iG (N.1,(wI .i64 (k.2.1+(1:Int))),N.2.2,N.2.1) (n.1,n.2.2.1,n.2.2.2.1,n.2.1,n.2.2.2.2.1,n.2.2.2.2.2.1,n.2.2.2.2.2.2) h SF (aZ.refl _) (iN [2,3,4,5,6,7,8,9,1,0] Z)
  refine fG ?_;exact cI (k.2.2.1,k.2.2.2) (g.1,g.2.1,g.2.2.1,y.1,y.2.1,y.2.2.1,y.2.2.2) h SF (aZ.ix [0,1,2,5,6,7,8] Z Z) (aI.refl _ _)
 intro V d h;let v:=d.2.2.2;let bk:=wK bM.raw v.2.1 v.2.2.1 v.2.2.2;unfold uA at h;refine aU<|dM 0 Z<|bF (vM (c_ (i:=1) (j:=0) Z Z)) λbp=>bF (vM (gA (i:=3) (q:=4) (j:=8) Z Z Z)) λbq=>bF (vM (gM (i:=5) (q:=6) (j:=9) Z Z Z)) λbr=>cG 2 (vs:=[Q.1,d.1,d.2.2.2.1]) Z Z (gJ bp (gJ bq (gJ br Z))) Z Z Z<|aO<|aR<|bW (fQ 1 Z (c_ (i:=0) (j:=0) Z Z))<|bW (sU [Ar bM.raw d.1 d.2.1,gN bM.raw d.2.1 d.2.2.1] [bL b8 [Q.1,d.1,v.1] 43,bL b3 [Q.1,d.1,v.1] 43,Ar bM.raw v.1 v.2.1,bk] (aZ.ix [2,3,0,1,4,5] Z Z) (gA (i:=0) (q:=1) (j:=9) Z Z Z))<|bW (sU [Ar bM.raw v.1 v.2.1,bk] [bL b8 [Q.1,d.1,v.1] 43,bL b3 [Q.1,d.1,v.1] 43] (aZ.ix [2,3,0,1] Z Z) (gM (i:=0) (q:=1) (j:=11) Z Z Z)) ?_;cases h;exact iS (Q.1,(List.zip Q.2 r4),d.1,(Z3 d.2.1 d.2.2.1 V.1),v.1,(Z4 v.2.1 v.2.2.1 v.2.2.2 V.2)) Z Z (RV.cell 1 Z Z Z Z) .nil (iN [2,1,0] Z)
def Cf (a:Fw):Option pB:=
 some (a)
def sK (a:Ru) (c:Rt->Option pB) (b:Fw):Option pB:=
 c (b,(wI .i64 (a.2+(1:Int))))
def sL (a:Ru) (c:Rt->Option pB) (d:Int) (b:gK) (e:Bool):Option pB:=
 if e=true then(ck ((a.1.length:Int)+(List.length ([(b.1,d,b.2)]):Int)<=1099511627) (sK a c (a.1++([(b.1,d,b.2)]))))else(sK a c (a.1))
def Cg (e:cO) (c:Ru) (d:Rt->Option pB) (a:Int) (b:gK):Option pB:=
 ck (0<=a/\a<(e.2.length:Int)) (if(0:Int)<((at' e.2 a).length:Int)then(sL c d a b (true))else(sL c d a b (decide (b.1=(1:Int)))))
def sJ (U:Nat) (d:cO) (c:kC) (a:Ru) (f:Rt->Option pB) (e:Bool):Option pB:=
 if e=true then(ck (0<=a.2/\a.2<(c.length:Int)) (Option.bind (eQ U ((at' c a.2).2.1) (d.2.length:Int)) λb=>(ck (0<=a.2/\a.2<(c.length:Int)) (ck (0<=a.2/\a.2<(c.length:Int)) (ck (0<=b/\b<(d.2.length:Int)) (Option.bind (eQ U ((at' c a.2).1) (4:Int)) λg=>(Option.bind (eQ U ((at' c a.2).2.2) ((at' d.2 b).length:Int)) λh=>(Cg d a f b ((wI .i64 ((1:Int)+g)),h)))))))))else(Cf (a.1))
def mZ (U:Nat) (d:cO) (c:kC) (a:Ru) (b:Rt->Option pB):Option pB:=
 if a.2<(c.length:Int)then(sJ U d c a b (decide (a.2<(60:Int))))else(sJ U d c a b (false))
def mP (U:Nat) (a:cO) (b:kC):Option pB:=
 bJ (mZ U a b) U (([]:kC),(0:Int))
theorem WS:bB Tryz.prog 30:=Tryz.call30
theorem Gk (U:Nat) {A:cO} {M:kC} (N O:V0) (z2:lE) (D:V0) (r:Fw) (h:mP U A M=some r):
  bD Tryz.prog 30 #[Value.agg #[N,O],D] [Sl aN N A.1,S2 aX O z2 A.2,Sl cD D M] (λx:V0=>x) (λx l=>Ar bS x r::l) (λ_ l=>l):=by
 refine bD.of Tryz.func30 Z Tryz.ntmps30 Z λc=>?_;unfold mP at h;refine aU<|aK (aP.box (cs:=[N,O]) Z Z) Z λE=>let q:=bL E [N,O] 31;aC Z<|aO<|aU<|aC Z<|aO<|aL<|EV (B:=V0) (λF=>Cf F=some r) (λF I=>[(5,I)]) (λF I=>[Ar bS I F]) ?_ ?_
 ·refine aU<|aC Z<|aO<|aS<|bW (eX bS)<|fI (B:=V0) (mZ U A M) (λa g=>[(1,D),(2,vP E),(5,g),(6,vI (a.2))]) (λa g=>[q,Ar bS g a.1]) (([]:kC),(0:Int)) (cT) h SF (aZ.ix [1,0] Z Z) ?_;intro Q a g h;let C:=Ar bS g a.1;let u:=(bJ (mZ U A M) Q)
  refine aL<|aL<|eR (λm=>sJ U A M a u m=some r) (λm G=>[(1,D),(2,vP E),(5,g),(6,vI (a.2)),(16,vB (m))]) (λm G=>[q,C]) ?_ ?_
  ·refine aQ<|aA Z<|aA Z<|iH (yP Z) Z<|cV Z<|aA Z ?_;refine BZ h Z (λ_ h=>?_) λ_ h=>?_
   ·refine dC Z<|aT Z (CO Z Z) Z<|dR Z<|aO ?_;exact fT (decide (a.2<(60:Int))) () h SF Z
   refine aM Z<|aM Z<|eV Z<|aO ?_;exact fT (false) () h SF Z
  intro m G h;refine tC h Z (λ_ h=>?_) λ_ h=>?_
  ·refine cL<|aL<|EV (B:=V0) (λj=>sK a u j=some r) (λj p=>[(1,D),(2,vP E),(5,p),(6,vI (a.2))]) (λj p=>[q,Ar bS p j]) ?_ ?_
   ·refine aS<|aL ?_;refine sW [0,0,3,7,15,0,32,96,255,511] 8 mixedOrders ?_;refine aV Z<|aV Z<|cU h λK h=>aY Z .nil (fN 2 Z) (bE Z Z (cA Z) Z Z K) aJ.z<|gC Z (cZ Z Z Z Z Z)<|aY Z .nil (fN 2 Z) (eL Z (cA Z) Z Z Z ME K) aJ.z<|cH Z<|fO 0 Z<|aY Z .nil (fN 1 Z) (dU Z (cA Z) Z) aJ.z<|bP 8 Z Z<|eT h λf S h=>aK (zBg Bc (g_ U f S) Z .nil) Z λab=>aC Z<|aO<|aL<|EV (B:=Nat) (λd=>Cg A a u f d=some r) (λd k=>[(1,D),(2,vP E),(5,g),(6,vI (a.2)),(7,vI (f)),(8,vP k)]) (λd k=>[bL k [vI (d.1),vI (f),vI (d.2)] 28,q,C]) ?_ ?_
    ·have⟨j39,h⟩:=OF h;refine cU h λL h=>cU h λt h=>eT h λv T h=>eT h λy V h=>Ea [0,0,3,7,15,31,63,0,0,0,768,1792,3840,0,8192,0,57344,122880,253952,524095,1048575,0,4194303] 22 [[0,1,2,3,4,7,8,9,10,11,12,13,14,15,16,17,18,5,6,19,20,21,22],[0,1,2,3,4,7,8,9,10,11,12,13,14,15,16,17,18,5,6,21,19,20,22],[0,1,2,3,4,7,8,9,10,11,12,13,14,15,16,17,18,21,5,6,19,20,22]] mixedOrders (by decide +kernel) (by decide +kernel) ?_;intro o Y;simp only[zAm,zB7,or_false]at Y;rcases Y with rfl|rfl|rfl
     all_goals
      iterate 22 first
       |refine aY (i:=0) Z .nil .nil (eO Z) aJ.z ?_
       |refine aY (i:=1) Z .nil .nil (eO Z) aJ.z ?_
       |refine aY (i:=2) Z .nil (fN 2 Z) (bE Z Z (cA Z) Z Z j39) aJ.z ?_
       |refine aY (i:=3) Z .nil .nil (cZ Z Z Z Z Z) aJ.z ?_
       |refine aY (i:=4) Z .nil (fN 2 Z) (eL Z (cA Z) Z Z Z MD j39) aJ.z ?_
       |refine zBi (i:=5) Z Z Z (zBg Bc (g_ U v T) Z .nil) Z (λW=>(by first|exact pX.h .nil (fN 1 Z) (mC [([],[1]),([],[1]),([0],[]),([],[2]),([],[2])] Z)|exact pX.h .nil (fN 1 Z) (mC [([],[1]),([],[1]),([1],[]),([],[2]),([],[2])] Z))) λW=>?_
       |refine aY (i:=6) Z .nil .nil (yT Z Z) (by first|exact aJ.b Z aJ.z|exact aJ.b Z PP) ?_
       |refine aY (i:=7) Z .nil .nil (eO Z) aJ.z ?_
       |refine aY (i:=8) Z .nil .nil (eO Z) aJ.z ?_
       |refine aY (i:=9) Z .nil .nil (eO Z) aJ.z ?_
       |refine aY (i:=10) Z .nil (fN 2 Z) (bE Z Z (cA Z) Z Z L) aJ.z ?_
       |refine aY (i:=11) Z .nil .nil (cZ Z Z Z Z Z) aJ.z ?_
       |refine aY (i:=12) Z .nil (fN 2 Z) (eL Z (cA Z) Z Z Z MF L) aJ.z ?_
       |refine aY (i:=13) Z .nil .nil (cR Z Z Z Z Z) aJ.z ?_
       |refine aY (i:=14) Z (aZ.cons 0 Z .nil) .nil (dL 0 Z Z Z Z Z) aJ.z ?_
       |refine aY (i:=15) Z .nil .nil (eO Z) aJ.z ?_
       |refine aY (i:=16) Z .nil (fN 1 Z) (bN Z Z (cA Z) Z Z t) aJ.z ?_
       |refine aY (i:=17) Z .nil (fN 1 Z) (bT Z (cA Z) Z Z t) aJ.z ?_
       |refine aY (i:=18) Z .nil (fN 1 Z) (fE Z (zBh (cA Z) t.1 t.2) Z) aJ.z ?_
       |refine zBi (i:=19) Z Z Z (zBg Bc (g_ U y V) Z .nil) Z (λX=>(mC [] Z)) λX=>?_
       |refine aY (i:=20) Z .nil .nil (Jh (r:=Value.agg #[vI (wI .i64 ((1:Int)+v)),vI (f),vI (y)]) Z Z Z (by intro w;simp[Instr.build,Instr.fill,eZ,eF,dO,e_,fC,eG,fR])) (by first|exact aJ.b Z (EQ Z)|exact aJ.b Z PP|exact aJ.b Z PP) ?_
       |refine zBi (i:=21) Z Z Z (aP.alloc (cs:=[vI (0:Int),vI (0:Int),vI (0:Int)]) Z Z) Z (λJ=>(by first|exact pX.h .nil .nil (mC [([],[1]),([],[1]),([],[1]),([1],[]),([],[2]),([],[2]),([],[2]),([],[2])] Z)|exact pX.h .nil .nil (mC [([],[1]),([],[1]),([],[1]),([1],[]),([],[2]),([],[2]),([],[2]),([],[2])] Z)|exact pX.h .nil (fN 1 Z) (mC [([],[1]),([],[1]),([1],[]),([],[2]),([],[2]),([],[2]),([],[2])] Z))) λJ=>?_
      refine bP 22 Z Z<|cG 0 (vs:=[vI (wI .i64 ((1:Int)+v)),vI (f),vI (y)]) Z Z Z Z Z Z<|aO ?_;exact fT ((wI .i64 ((1:Int)+v)),y) (J) h SF Z
    intro d k h;refine aL<|eR (λn=>sL a u f d n=some r) (λn H=>[(1,D),(2,vP E),(5,g),(6,vI (a.2)),(8,vP k),(60,vB (n))]) (λn H=>[bL k [vI (d.1),vI (f),vI (d.2)] 28,q,C]) ?_ ?_
    ·refine aQ<|bU Z<|dQ 1 Z<|aA Z<|cU h λs h=>aB (bN Z Z (mM Z) Z Z s) Z<|aB (bT Z (mM Z) Z Z s) Z<|aB (fE Z (zBh (mM Z) s.1 s.2) Z) Z<|aB (tH Z Z) Z<|aA Z ?_;refine BZ h Z (λ_ h=>?_) λ_ h=>?_
     ·refine aM Z<|aM Z<|aM Z<|dR Z<|aO ?_;exact fT (true) () h SF Z
     refine aT Z (cR Z Z Z Z Z) Z<|aT Z (dL 0 Z Z Z Z Z) Z<|aT Z (JV Z Z) Z<|eV Z<|aO ?_;exact fT (decide (d.1=(1:Int))) () h SF Z
    intro n H h;refine tC h Z (λ_ h=>?_) λ_ h=>?_
    ·refine aQ<|aA Z<|dM 0 Z<|aK (cM (e:=bS) ([((d.1,f,d.2))]) [(0,Value.agg #[vI (d.1),vI (f),vI (d.2)])] Z Z Z Z (Ee (vI (d.1)) (vI (f)) (vI (d.2))) Z Z Z) Z λaa=>cU h λP h=>aK (dN 3 bZ Z Z Z (cB (aF.res 0 Z) bZ) Z Z Z Z P Z) Z λR=>aC Z<|fJ<|lL ?_;exact cI (a.1++([(d.1,f,d.2)])) (R) h SF (aZ.ix [2,3] Z Z) (aI.refl _ _)
    refine eM<|lL ?_;exact cI (a.1) (g) h SF (aZ.ix [1,2] Z Z) (aI.refl _ _)
   intro j p h;unfold sK at h;refine aQ<|aA Z<|cP Z<|aC Z<|aO ?_;exact xY (j,(wI .i64 (a.2+(1:Int)))) (p) h SF Z
  refine fG ?_;exact cI (a.1) (g) h SF (aZ.ix [1] Z Z) (aI.refl _ _)
 intro F I h;unfold Cf at h;refine aU<|aA Z<|aC Z<|aO<|aR ?_;cases h;exact iS (I) Z Z (RV.tmp Z) (aZ.refl _) aI.nil
def vX (c:HA) (b:IY->Option pB) (a:Fw):Option pB:=
 b ((wI .i64 (c.1+(1:Int))),a)
def vY (b:HA) (a:IY->Option pB) (c:Fw):Option pB:=
 a ((wI .i64 (b.1+(1:Int))),c)
def rC (f g:Int) (e b:HA) (c:IY->Option pB) (a:HA) (d:IY->Option pB):Option pB:=
 if a.1<g then(ck ((a.2.length:Int)+(List.length ([(f,e.1,b.1)]):Int)<=1099511627) (d ((wI .i64 (a.1+(1:Int))),(a.2++([(f,e.1,b.1)])))))else(vY b c (a.2))
def mA (U:Nat) (e f:Int) (g:cO) (c:HA) (d:IY->Option pB) (a:HA) (b:IY->Option pB):Option pB:=
 if a.1<((at' g.2 c.1).length:Int)then(bJ (rC e f c a b) U ((0:Int),a.2))else(vX c d (a.2))
def jN (U:Nat) (d e:Int) (c:cO) (a:HA) (b:IY->Option pB):Option pB:=
 if a.1<(c.2.length:Int)then(ck (0<=a.1/\a.1<(c.2.length:Int)) (bJ (mA U d e c a b) U ((0:Int),a.2)))else(some (a.2))
def jI (U:Nat) (a b:Int) (c:cO) (d:kC):Option pB:=
 bJ (jN U a b c) U ((0:Int),d)
theorem Sv:bB Tryz.prog 73:=Tryz.call73
theorem Cm (U:Nat) {g q:Int} {p:cO} {J:kC} (v:Nat) (A z:V0) (N:lE) (b:Nat) (L:V0) (r:Fw) (h:jI U g q p J=some r):
  B_ Tryz.prog 73 #[vI (g),vI (q),vP v,vP b] [bL b [L] 57,Ar bS L J] [bL v [A,z] 31,Sl aN A p.1,S2 aX z N p.2] (λx:V0=>Value.tuple #[]) (λx l=>bL b [x] 57::Ar bS x r::l):=by
 let F:=(jN U g q p)
 let u:=S2 aX z N p.2;let t:=bL v [A,z] 31;let s:=vI (p.2.length:Int);refine B_.of (vs:=[vI (g),vI (q),vP v,vP b]) Tryz.func73 Z Tryz.ntmps73 Z λc=>?_;unfold jI at h;refine aU<|bU Z<|aB (fZ Z (cA Z) Z Z Z) Z<|aB (dU Z (yP Z) Z) Z<|aA Z<|aO<|aS<|oS (B:=V0) F (λd C=>[(0,vI (g)),(1,vI (q)),(3,vP b),(10,z),(11,s),(12,vI (d.1))]) (λd C=>[bL b [C] 57,Ar bS C d.2]) (λd C=>[t,Sl aN A p.1,u]) ((0:Int),J) (L) h SF (aZ.refl _) (aI.refl _ _) ?_;intro M d C h;let E:=vI ((at' p.2 d.1).length:Int);let D:=(mA U g q p d (bJ F M))
 refine aU<|cV Z<|aO<|aL ?_;refine eN h Z (λh=>?_) λh=>?_
 ·refine cL<|aL<|kU (B:=V0) (λi=>vX d (bJ F M) i=some r) (λi m=>[(0,vI (g)),(1,vI (q)),(3,vP b),(10,z),(11,s),(12,vI (d.1))]) (λi m=>[bL b [m] 57,Ar bS m i]) (λi m=>[t,Sl aN A p.1,u]) ?_ ?_
  ·refine aS<|aU<|aA Z<|cU h λy h=>aB (bN Z Z (yP Z) Z Z y) Z<|aB (bT Z (yP Z) Z Z y) Z<|aC Z<|aC Z<|aO<|aU<|aA Z<|aB (fE Z (zBh (yP Z) y.1 y.2) Z) Z<|aA Z<|aO<|aS<|oS (B:=V0) D (λa k=>[(0,vI (g)),(1,vI (q)),(3,vP b),(6,vI (d.1)),(10,z),(11,s),(12,vI (d.1)),(18,E),(19,vI (a.1))]) (λa k=>[bL b [k] 57,Ar bS k a.2]) (λa k=>[t,Sl aN A p.1,u]) ((0:Int),d.2) (C) h SF (aZ.refl _) (aI.refl _ _) ?_;intro H a k h;refine aU<|cV Z<|aO<|aL ?_;refine eN h Z (λh=>?_) λh=>?_
   ·refine cL<|aL<|kU (B:=V0) (λj=>vY a (bJ D H) j=some r) (λj n=>[(0,vI (g)),(1,vI (q)),(3,vP b),(6,vI (d.1)),(10,z),(11,s),(12,vI (d.1)),(18,E),(19,vI (a.1))]) (λj n=>[bL b [n] 57,Ar bS n j]) (λj n=>[t,Sl aN A p.1,u]) ?_ ?_
    ·refine aS<|aU<|aA Z<|aC Z<|aO<|aU<|aA Z<|aA Z<|aO<|aS<|oS (B:=V0) (rC g q d a (bJ D H)) (λf o=>[(0,vI (g)),(1,vI (q)),(3,vP b),(6,vI (d.1)),(8,vI (a.1)),(10,z),(11,s),(12,vI (d.1)),(18,E),(19,vI (a.1)),(22,vI (q)),(23,vI (f.1))]) (λf o=>[bL b [o] 57,Ar bS o f.2]) (λf o=>[t,Sl aN A p.1,u]) ((0:Int),a.2) (k) h SF (aZ.refl _) (aI.refl _ _) ?_;intro O f o h;refine aU<|cV Z<|aO<|aL ?_;refine eN h Z (λh=>?_) λh=>?_
     ·refine cL<|aL<|aS<|aQ<|dQ 0 Z<|aA Z<|aA Z<|aA Z ?_;refine aB (Jh (r:=Value.agg #[vI (g),vI (d.1),vI (a.1)]) Z Z Z (by intro w;simp[Instr.build,Instr.fill,eZ,eF,dO,e_,fC,eG,fR])) Z ?_;refine aK (cM (e:=bS) ([((g,d.1,a.1))]) [(0,Value.agg #[vI (g),vI (d.1),vI (a.1)])] Z Z Z Z (Ee (vI (g)) (vI (d.1)) (vI (a.1))) Z Z Z) Z λP=>cU h λI h=>aK (dN 2 bZ Z Z Z (cB (aF.res 0 Z) bZ) Z Z Z Z I Z) Z λK=>bF (Know.one ((cB (aF.res 2 Z) bZ))) λG=>pJ 1 Z Z G Z Z Z<|fJ<|lL<|aQ<|cP Z<|aA Z<|aO ?_;exact iG ((wI .i64 (f.1+(1:Int))),(f.2++([(g,d.1,a.1)]))) (K) h SF (aZ.ix [1,2] Z Z) (aI.refl _ _)
     refine rP<|fX<|fX<|yQ<|lL ?_;exact fT (f.2) (o) h SF Z
    intro j n h;unfold vY at h;refine aQ<|cP Z<|aA Z<|aO ?_;exact xY ((wI .i64 (a.1+(1:Int))),j) (n) h SF Z
   refine rP<|fX<|fX<|yQ<|lL ?_;exact fT (a.2) (k) h SF Z
  intro i m h;unfold vX at h;refine aQ<|cP Z<|aA Z<|aO ?_;exact xY ((wI .i64 (d.1+(1:Int))),i) (m) h SF Z
 refine rP<|fX<|fX<|yQ ?_;cases h;exact KD (C) Z Z .normal (.inr Z) (aZ.refl _) aI.nil
def Aq (U:Nat) (a:cO) (e:Int) (b:Fw):Option pB:=
 Option.bind (jI U (2:Int) (1:Int) ((a.1,a.2)) b) λc=>(Option.bind (jI U (3:Int) e ((a.1,a.2)) c) λd=>(some (d)))
def vA (U:Nat) (c:cO) (d:Int) (a:HA) (b:IY->Option pB):Option pB:=
 if a.1<(c.2.length:Int)then(ck ((a.2.length:Int)+(List.length ([((1:Int),a.1,(0:Int))]):Int)<=1099511627) (b ((wI .i64 (a.1+(1:Int))),(a.2++([((1:Int),a.1,(0:Int))])))))else(Aq U c d (a.2))
def u_ (U:Nat) (a:cO) (b:Int) (c:Bool):Option pB:=
 if c=true then(some ([]:kC))else(Option.bind (jI U (3:Int) b ((a.1,a.2)) ([]:kC)) λd=>(bJ (vA U a b) U ((0:Int),d)))
def kX (U:Nat) (a:cO) (b:Int):Option pB:=
 Option.bind (iK U ((a.1,a.2))) λc=>(if(!c)=true then(u_ U a b (true))else(if b<(1:Int)then(u_ U a b (true))else(u_ U a b (decide ((8:Int)<b)))))
theorem WU:bB Tryz.prog 31:=Tryz.call31
theorem Hy (U:Nat) {p:cO} {k:Int} (n o:V0) (y:lE) (r:Fw) (h:kX U p k=some r):
  bD Tryz.prog 31 #[Value.agg #[n,o],vI (k)] [Sl aN n p.1,S2 aX o y p.2] (λx:V0=>x) (λx l=>Ar bS x r::l) (λ_ l=>l):=by
 refine bD.of Tryz.func31 Z Tryz.ntmps31 Z λc=>?_;refine aU<|aK (aP.box (cs:=[n,o]) Z Z) Z λm=>let g:=bL m [n,o] 31;aC Z<|aO<|aL<|aL<|eR (λs=>u_ U p k s=some r) (λs I=>[(1,vI (k)),(2,vP m),(18,vB (s))]) (λs I=>[g]) ?_ ?_
 ·refine aQ<|dM 0 Z<|eT h λC G h=>aK (zBg Su (DV U n o y C G) Z (iN [0,1] Z)) Z λN=>aB (kM Z) Z<|aA Z ?_;refine tD (by exact rfl) (by exact rfl) (λj=>?_) (λj=>?_)
  ·have h:=Iv j h;refine aM Z<|aM Z<|dR Z<|aA Z<|aM Z<|aM Z<|dR Z<|aO ?_;exact fT (true) () h SF Z
  have h:=FA j h;refine dC Z<|aT Z (CO Z Z) Z<|eV Z<|aA Z ?_;refine BZ h Z (λ_ h=>?_) λ_ h=>?_
  ·refine aM Z<|aM Z<|dR Z<|aO ?_;exact fT (true) () h SF Z
  refine dC Z<|aT Z (tH Z Z) Z<|eV Z<|aO ?_;exact fT (decide ((8:Int)<k)) () h SF Z
 intro s I h;refine tC h Z (λ_ h=>?_) λ_ h=>?_
 ·refine aU<|aC Z<|aO<|aR<|aG<|bW (eX bS) ?_;cases h;exact iS (cT) Z Z (RV.tmp Z) (aZ.ix [0] Z Z) aI.nil
 refine cL<|aU<|aK (aP.alloc (cs:=[cT]) Z Z) Z λd=>let u:=Value.func (.func 73) #[] #[vP m,vP d];aO<|aU<|aB (HE (cs:=[.tmp 2,.tmp 5]) (vs:=[vP m,vP d]) Z) Z<|aC Z<|aO<|aU<|aA Z<|aA Z<|bW (eX bS)<|eT h λJ M h=>aK (FG (vs:=[vI (3:Int),vI (k)]) (cs:=[vP m,vP d]) (Min:=[bL d [cT] 57,Ar bS (cT) ([]:kC)]) (Mr:=[g]) Sv Z (Cm U m n o y d (cT) J M) Z (aZ.ix [1,0,2] Z Z) (aI.cons (aF.res 0 Z) (iN [0,1] Z)) (λ_ _=>rfl)) Z λO=>aO<|aL<|EV (B:=V0) (λf=>Aq U p k f=some r) (λf b=>[(1,vI (k)),(5,vP d),(6,u)]) (λf b=>[bL d [b] 57,Ar bS b f,g]) ?_ ?_
 ·refine aU<|bU Z<|dQ 2 Z<|aB (dU Z (mM Z) Z) Z<|aA Z<|aO<|aS<|fI (B:=V0) (vA U p k) (λa i=>[(1,vI (k)),(5,vP d),(6,u),(25,vI (p.2.length:Int)),(26,vI (a.1))]) (λa i=>[bL d [i] 57,Ar bS i a.2,g]) ((0:Int),J) (O) h SF (aZ.refl _) ?_;intro K a i h;refine aU<|cV Z<|aO<|aL ?_;refine eN h Z (λh=>?_) λh=>?_
  ·refine cL<|aL<|aS<|aU<|aA Z<|aC Z<|aO<|aQ<|dQ 0 Z<|aA Z ?_;refine aB (DC (r:=Value.agg #[vI (1:Int),vI (a.1),vI (0:Int)]) Z Z (by intro w;simp[Instr.build,Instr.fill,eZ,eF,dO,e_,fC,eG,fR])) Z ?_;refine aK (cM (e:=bS) ([(((1:Int),a.1,(0:Int)))]) [(0,Value.agg #[vI (1:Int),vI (a.1),vI (0:Int)])] Z Z Z Z (Ee (vI (1:Int)) (vI (a.1)) (vI (0:Int))) Z Z Z) Z λL=>cU h λz h=>aK (dN 2 bZ Z Z Z (cB (aF.res 0 Z) bZ) Z Z Z Z z Z) Z λD=>bF (Know.one ((cB (aF.res 2 Z) bZ))) λt=>pJ 1 Z Z t Z Z Z<|fJ<|lL<|aQ<|cP Z<|aA Z<|aO ?_;exact iG ((wI .i64 (a.1+(1:Int))),(a.2++([((1:Int),a.1,(0:Int))]))) (D) h SF (aZ.ix [1,2,3] Z Z) (aI.refl _ _)
  refine fG ?_;exact fT (a.2) (i) h SF Z
 intro f b h;refine aU<|aA Z<|eT h λv E h=>aK (FG (vs:=[vI (2:Int),vI (1:Int)]) (cs:=[vP m,vP d]) (Min:=[bL d [b] 57,Ar bS b f]) (Mr:=[g]) Sv Z (Cm U m n o y d b v E) Z (aZ.refl _) (aI.cons (aF.res 0 Z) (iN [0,1] Z)) (λ_ _=>rfl)) Z λq=>aO<|aU<|aA Z<|aA Z<|eT h λA F h=>aK (FG (vs:=[vI (3:Int),vI (k)]) (cs:=[vP m,vP d]) (Min:=[bL d [q] 57,Ar bS q v]) (Mr:=[g]) Sv Z (Cm U m n o y d q A F) Z (aZ.refl _) (aI.cons (aF.res 0 Z) (iN [0,1] Z)) (λ_ _=>rfl)) Z λH=>aO<|aU<|dQ 0 Z<|aC Z<|aO<|aR ?_;cases h;exact iS (H) Z Z (RV.tmp Z) (aZ.ix [1] Z Z) aI.nil
def Ad (a:(List (Int×Int×Int))×(List (Int×Int×Int))×(List (Int×Int×Int))):Option pB:=
 ck ((List.length ([]:kC):Int)+(a.1.length:Int)<=1099511627) (ck (((([]:kC)++a.1).length:Int)+(a.2.1.length:Int)<=1099511627) (ck ((((([]:kC)++a.1)++a.2.1).length:Int)+(a.2.2.length:Int)<=1099511627) (ck (((((([]:kC)++a.1)++a.2.1)++a.2.2).length:Int)+(a.1.length:Int)<=1099511627) (some ((((([]:kC)++a.1)++a.2.1)++a.2.2)++a.1)))))
def Ae (a:Ro) (c:Za->Option pB) (b:(List (Int×Int×Int))×(List (Int×Int×Int))):Option pB:=
 c (b.1,(a.2.1++([((1:Int),a.2.2.2,(0:Int))])),b.2,(wI .i64 (a.2.2.2+(1:Int))))
def uX (c:Ro) (a:Zc) (b:Zb->Option pB) (d:Fw):Option pB:=
 b ((wI .i64 (a.1+(1:Int))),d,(a.2.2++([((2:Int),c.2.2.2,a.1)])))
def uY (f:Int) (b:Ro) (c:Zc) (d:Zb->Option pB) (a:HA) (e:IY->Option pB):Option pB:=
 if a.1<f then(ck ((a.2.length:Int)+(List.length ([((3:Int),b.2.2.2,c.1)]):Int)<=1099511627) (e ((wI .i64 (a.1+(1:Int))),(a.2++([((3:Int),b.2.2.2,c.1)])))))else(uX b c d (a.2))
def oK (U:Nat) (e:cO) (f:Int) (b:Ro) (c:Za->Option pB) (a:Zc) (d:Zb->Option pB):Option pB:=
 ck (0<=b.2.2.2/\b.2.2.2<(e.2.length:Int)) (if a.1<((at' e.2 b.2.2.2).length:Int)then(ck ((a.2.2.length:Int)+(List.length ([((2:Int),b.2.2.2,a.1)]):Int)<=1099511627) (bJ (uY f b a d) U ((0:Int),a.2.1)))else(Ae b c (a.2.1,a.2.2)))
def lC (U:Nat) (c:cO) (d:Int) (a:Ro) (b:Za->Option pB):Option pB:=
 if a.2.2.2<(c.2.length:Int)then(ck ((a.2.1.length:Int)+(List.length ([((1:Int),a.2.2.2,(0:Int))]):Int)<=1099511627) (bJ (oK U c d a b) U ((0:Int),a.1,a.2.2.1)))else(Ad (a.1,a.2.1,a.2.2.1))
def Ac (U:Nat) (b:cO) (c:Int) (a:Bool):Option pB:=
 if a=true then(some ([]:kC))else(bJ (lC U b c) U (([]:kC),([]:kC),([]:kC),(0:Int)))
def kW (U:Nat) (a:cO) (b:Int):Option pB:=
 Option.bind (iL U ((a.1,a.2))) λc=>(if(!c)=true then(Ac U a b (true))else(Option.bind (gX U b (1:Int) (8:Int)) λd=>(Ac U a b ((!d)))))
theorem WV:bB Tryz.prog 32:=Tryz.call32
theorem Hw (U:Nat) {u:cO} {j:Int} (z A:V0) (W:lE) (r:Fw) (h:kW U u j=some r):
  bD Tryz.prog 32 #[Value.agg #[z,A],vI (j)] [Sl aN z u.1,S2 aX A W u.2] (λx:V0=>x) (λx l=>Ar bS x r::l) (λ_ l=>l):=by
 refine bD.of Tryz.func32 Z Tryz.ntmps32 Z λc=>?_;refine aU<|aK (aP.box (cs:=[z,A]) Z Z) Z λt=>aC Z<|aO<|aL<|aL<|eR (λF=>Ac U u j F=some r) (λF V=>[(1,vI (j)),(2,vP t),(18,vB (F))]) (λF V=>[bL t [z,A] 31]) ?_ ?_
 ·refine aQ<|dM 0 Z<|eT h λP S h=>aK (zBg Sw (DX U z A W P S) Z (iN [0,1] Z)) Z λag=>aB (kM Z) Z<|aA Z ?_;refine tD (by exact rfl) (by exact rfl) (λy=>?_) (λy=>?_)
  ·have h:=Iv y h;refine aM Z<|aM Z<|aM Z<|dR Z<|aO ?_;exact fT (true) () h SF Z
  have h:=FA y h;refine dC Z<|eT h λH T h=>qH Z (zBg uF (jH U H T) Z .nil) Z λah=>aT Z (kM Z) Z<|eV Z<|aO ?_;exact fT ((!H)) () h SF Z
 intro F V h;refine tC h Z (λ_ h=>?_) λ_ h=>?_
 ·refine aU<|aC Z<|aO<|aR<|aG<|bW (eX bS) ?_;cases h;exact iS (cT) Z Z (RV.tmp Z) (aZ.ix [0] Z Z) aI.nil
 refine cL<|aU<|aC Z<|aC Z<|aC Z<|aO<|aL<|EV (B:=V0×V0×V0) (λo=>Ad o=some r) (λo m=>[(5,m.1),(6,m.2.1),(7,m.2.2)]) (λo m=>[Ar bS m.1 o.1,Ar bS m.2.1 o.2.1,Ar bS m.2.2 o.2.2]) ?_ ?_
 ·refine aU<|aC Z<|aO<|aS<|bW (eX bS)<|bW (eX bS)<|bW (eX bS)<|fI (B:=V0×V0×V0) (lC U u j) (λa d=>[(1,vI (j)),(2,vP t),(5,d.1),(6,d.2.1),(7,d.2.2),(8,vI (a.2.2.2))]) (λa d=>[bL t [z,A] 31,Ar bS d.1 a.1,Ar bS d.2.1 a.2.1,Ar bS d.2.2 a.2.2.1]) (([]:kC),([]:kC),([]:kC),(0:Int)) ((cT),(cT),(cT)) h SF (aZ.ix [3,0,1,2] Z Z) ?_;intro D a d h;refine aL<|aU<|aA Z<|bU Z<|dQ 0 Z<|aB (dU Z (mM Z) Z) Z<|cV Z<|aO ?_;refine eN h Z (λh=>?_) λh=>?_
  ·refine cL<|aL<|EV (B:=V0×V0×V0) (λk=>Ae a (bJ (lC U u j) D) k=some r) (λk f=>[(1,vI (j)),(2,vP t),(5,f.2.1),(6,f.1),(7,f.2.2),(8,vI (a.2.2.2))]) (λk f=>[bL t [z,A] 31,Ar bS f.2.1 k.1,Ar bS f.1 (a.2.1++([((1:Int),a.2.2.2,(0:Int))])),Ar bS f.2.2 k.2]) ?_ ?_
   ·refine aS<|aU<|aA Z<|aA Z ?_;refine aB (DC (r:=Value.agg #[vI (1:Int),vI (a.2.2.2),vI (0:Int)]) Z Z (by intro w;simp[Instr.build,Instr.fill,eZ,eF,dO,e_,fC,eG,fR])) Z ?_;refine aK (cM (e:=bS) ([(((1:Int),a.2.2.2,(0:Int)))]) [(0,Value.agg #[vI (1:Int),vI (a.2.2.2),vI (0:Int)])] Z Z Z Z (Ee (vI (1:Int)) (vI (a.2.2.2)) (vI (0:Int))) Z Z Z) Z λad=>cU h λM h=>aK (dN 3 bZ Z Z Z (cB (aF.res 0 Z) bZ) Z Z Z Z M Z) Z λq=>aC Z<|aO<|aU<|aC Z<|aO<|aS<|fI (B:=V0×V0) (oK U u j a (bJ (lC U u j) D)) (λb g=>[(1,vI (j)),(2,vP t),(5,g.1),(6,q),(7,g.2),(8,vI (a.2.2.2)),(9,vI (b.1))]) (λb g=>[bL t [z,A] 31,Ar bS g.1 b.2.1,Ar bS q (a.2.1++([((1:Int),a.2.2.2,(0:Int))])),Ar bS g.2 b.2.2]) ((0:Int),a.1,a.2.2.1) (d.1,d.2.2) h SF (aZ.ix [1,2,3,4] Z Z) ?_;intro G b g h;refine aL<|aU<|aA Z<|bU Z<|dQ 0 Z<|aA Z<|cU h λC h=>aB (bN Z Z (mM Z) Z Z C) Z<|aB (bT Z (mM Z) Z Z C) Z<|aB (fE Z (zBh (mM Z) C.1 C.2) Z) Z<|cV Z<|aO ?_;refine eN h Z (λh=>?_) λh=>?_
    ·refine cL<|aL<|EV (B:=V0×V0) (λs=>uX a b (bJ (oK U u j a (bJ (lC U u j) D)) G) s=some r) (λs n=>[(1,vI (j)),(2,vP t),(5,n.2),(6,q),(7,n.1),(8,vI (a.2.2.2)),(9,vI (b.1))]) (λs n=>[bL t [z,A] 31,Ar bS n.2 s,Ar bS q (a.2.1++([((1:Int),a.2.2.2,(0:Int))])),Ar bS n.1 (b.2.2++([((2:Int),a.2.2.2,b.1)]))]) ?_ ?_
     ·refine aS<|aU<|aA Z<|aA Z<|aA Z ?_;refine aB (Jh (r:=Value.agg #[vI (2:Int),vI (a.2.2.2),vI (b.1)]) Z Z Z (by intro w;simp[Instr.build,Instr.fill,eZ,eF,dO,e_,fC,eG,fR])) Z ?_;refine aK (cM (e:=bS) ([(((2:Int),a.2.2.2,b.1))]) [(0,Value.agg #[vI (2:Int),vI (a.2.2.2),vI (b.1)])] Z Z Z Z (Ee (vI (2:Int)) (vI (a.2.2.2)) (vI (b.1))) Z Z Z) Z λae=>cU h λN h=>aK (dN 4 bZ Z Z Z (cB (aF.res 0 Z) bZ) Z Z Z Z N Z) Z λE=>aC Z<|aO<|aU<|aC Z<|aO<|aS<|fI (B:=V0) (uY j a b (bJ (oK U u j a (bJ (lC U u j) D)) G)) (λp v=>[(1,vI (j)),(2,vP t),(5,v),(6,q),(7,E),(8,vI (a.2.2.2)),(9,vI (b.1)),(10,vI (p.1))]) (λp v=>[bL t [z,A] 31,Ar bS v p.2,Ar bS q (a.2.1++([((1:Int),a.2.2.2,(0:Int))])),Ar bS E (b.2.2++([((2:Int),a.2.2.2,b.1)]))]) ((0:Int),b.2.1) (g.1) h SF (aZ.ix [1,2,3,4] Z Z) ?_;intro X p v h;refine aL<|aU<|aA Z<|aA Z<|cV Z<|aO ?_;refine eN h Z (λh=>?_) λh=>?_
      ·refine cL<|aL<|aS<|aQ<|aA Z<|aA Z<|aA Z ?_;refine aB (Jh (r:=Value.agg #[vI (3:Int),vI (a.2.2.2),vI (b.1)]) Z Z Z (by intro w;simp[Instr.build,Instr.fill,eZ,eF,dO,e_,fC,eG,fR])) Z ?_;refine aK (cM (e:=bS) ([(((3:Int),a.2.2.2,b.1))]) [(0,Value.agg #[vI (3:Int),vI (a.2.2.2),vI (b.1)])] Z Z Z Z (Ee (vI (3:Int)) (vI (a.2.2.2)) (vI (b.1))) Z Z Z) Z λaf=>cU h λO h=>aK (dN 2 bZ Z Z Z (cB (aF.res 0 Z) bZ) Z Z Z Z O Z) Z λR=>aC Z<|fJ<|lL<|aQ<|aA Z<|cP Z<|aC Z<|aO ?_;exact iG ((wI .i64 (p.1+(1:Int))),(p.2++([((3:Int),a.2.2.2,b.1)]))) (R) h SF (aZ.ix [1,2,3,4] Z Z) (aI.refl _ _)
      refine rP<|fX<|fX<|yQ<|lL ?_;exact fT (p.2) (E,v) h SF Z
     intro s n h;unfold uX at h;refine aQ<|aA Z<|cP Z<|aC Z<|aO ?_;exact xY ((wI .i64 (b.1+(1:Int))),s,(b.2.2++([((2:Int),a.2.2.2,b.1)]))) (n.2,n.1) h SF Z
    refine rP<|fX<|fX<|yQ<|lL ?_;exact fT (b.2.1,b.2.2) (q,g.1,g.2) h SF Z
   intro k f h;unfold Ae at h;refine aQ<|aA Z<|cP Z<|aC Z<|aO ?_;exact xY (k.1,(a.2.1++([((1:Int),a.2.2.2,(0:Int))])),k.2,(wI .i64 (a.2.2.2+(1:Int)))) (f.2.1,f.1,f.2.2) h SF Z
  refine fG ?_;exact cI (a.1,a.2.1,a.2.2.1) (d.1,d.2.1,d.2.2) h SF (aZ.ix [1,2,3] Z Z) (aI.refl _ _)
 intro o m h;unfold Ad at h;refine aU<|aK (cM (e:=bS) ([]:kC) [] Z Z Z Z ((λi h=>by simp at h;subst h;rfl)) Z Z Z) Z λY=>aA Z<|cU h λI h=>aK (dN 0 bZ Z Z Z (cB (aF.res 1 Z) bZ) Z Z Z Z I Z) Z λaa=>aA Z<|cU h λJ h=>aK (dN 0 bZ Z Z Z (cB (aF.res 2 Z) bZ) Z Z Z Z J Z) Z λab=>aA Z<|cU h λK h=>aK (dN 0 bZ Z Z Z (cB (aF.res 3 Z) bZ) Z Z Z Z K Z) Z λac=>aA Z<|cU h λL h=>aK (dN 0 bZ Z Z Z (cB (aF.res 1 Z) bZ) Z Z Z Z L Z) Z λQ=>aC Z<|aO<|aR ?_;cases h;exact iS (Q) Z Z (RV.tmp Z) (aZ.ix [0] Z Z) aI.nil
end Go.Proofs.YtflciafboapaaaaGreat
namespace Go.Proofs.YtflciafboapaaaaGreat
open Go Go.Sx
theorem YQ {g:GR} {a:List D_} {c:bO} (h:Wc g c a) {v:Nat} (b:v<g.2.length):Ff g a v (at' c (v:Int))=true:=Dv.2 ⟨h.row v b,λx d=>h.ok v b x d⟩
def Wb (g:GR) (a:List D_):Prop:=∀b,OK (λc=>Wc g c a) (jE 1000 g a b)
theorem Rh {g:GR} (u:VG g) {d:List D_} (n:d.length<=20) (h:Wb g d) {v:Nat} (q:v<g.2.length) (l:bQ) {a:Int} (C:0<=a) (D:a<=1000000):OK (λs=>Ff g d v s=true) (qA 1000 g d (v:Int) l a):=by
 have j:=u.n24;have E:g.2.length*d.length<=24*20:=Nat.mul_le_mul j n;have A:wI .i64 ((g.2.length:Int)*(d.length:Int))=((g.2.length*d.length:Nat):Int):=by
  rw[<-Int.natCast_mul,wr (by omega) (by omega)]
 have t:(v+1)*d.length<=g.2.length*d.length:=zAr _ q;rw[Nat.succ_mul]at t;have o:wI .i64 ((v:Int)*(d.length:Int))=((v*d.length:Nat):Int):=by
  rw[<-Int.natCast_mul,wr (by omega) (by omega)]
 unfold qA;rw[A,cF (by omega)];have e:∀all:bQ,OK (λs=>Ff g d v s=true) (zC 1000 g d (v:Int) all):=λall=>by
  obtain⟨c,w,f⟩:=h all;have:=f.len;unfold zC;rw[bG (show jE 1000 (g.1,g.2) d all=some c from w),cF (by omega)];exact⟨_,rfl,YQ f q⟩
 refine Bo (Q:=λs=>Ff g d v s=true) (λx=>∃k:Nat,x.1=(k:Int)/\k<=d.length/\x.2.length=g.2.length*d.length) (λx=>d.length - x.1.toNat) (λx B r m=> ?_) 1000 _ ⟨0,rfl,by omega,by rw[List.length_replicate,zAi]⟩ (by simp;omega);obtain⟨i,all⟩:=x;obtain⟨k,rfl,F,p⟩:=r;dsimp only at p;unfold zE zD;dsimp only;by_cases y:k<d.length
 ·rw[if_pos (by omega)];by_cases z:0<l.length
  ·have G:=Int.tmod_nonneg (a:=a+(k:Int)) (l.length:Int) (by omega);have H:=Int.tmod_lt_of_pos (a+(k:Int)) (b:=(l.length:Int)) (by omega);rw[if_pos (by rw[zAa];omega),cF (by omega),o,wr (x:=a+_) (by omega) (by omega),cF (by omega),wr (x:=((v*d.length:Nat):Int)+_) (by omega) (by omega),cF (by omega),dD (by omega)];exact m _ ⟨k+1,rfl,by omega,by simpa using p⟩ (by dsimp only;omega)
  ·rw[if_neg (by rw[zAa];omega)];exact e all
 ·rw[if_neg (by omega),if_neg (by decide)];exact e all
def abT (g:GR) (a:List D_) (b v j:Nat) (s:bQ) (w:bO):Prop:=Ff g a (Az g v j) s=true/\w.length<=b/\∀x∈w,Ff g a v x=true
theorem QT {g:GR} (D:VG g) {vars:List D_} (L:vars.length<=20) (o:Wb g vars) (r:List Int×List Int×List Int×bQ) {cap:Nat} (h8:cap<=8):OK (λy=>VY g vars cap y) (nG 1000 r g vars (cap:Int)):=by
 have ad:=D.n24;obtain⟨c,hc,I⟩:=o r.1;unfold nG;rw[bG (show jE 1000 (g.1,g.2) vars r.1=some c from hc)];refine Bo (Q:=λy=>VY g vars cap y) (λx=>∃v:Nat,x.2.1=(v:Int)/\v<=g.2.length/\(0<=x.1/\x.1<=24*(v:Int))/\x.2.2.1.length=v/\x.2.2.2.length=v/\∀w,w<v->(at' x.2.2.1 (w:Int)).length=(row g w).length/\(at' x.2.2.2 (w:Int)).length=(row g w).length/\∀j:Nat,j<(row g w).length->abT g vars cap w j (rI x.2.2.1 w j) (rI x.2.2.2 w j))
  (λx=>g.2.length - x.2.1.toNat) (λx ag F R=> ?_) 1000 _ ⟨0,rfl,by omega,⟨by decide,by decide⟩,rfl,rfl,λw O=>absurd O (Nat.not_lt_zero w)⟩ (by dsimp only;omega)
 obtain⟨k,vv,ca,wi⟩:=x;obtain⟨v,rfl,ah,⟨J,S⟩,p,t,d⟩:=F;dsimp only at J S p t d;unfold gG;dsimp only;by_cases h:v<g.2.length
 rotate_left
 ·obtain rfl:v=g.2.length:=by omega
  rw[if_neg (by omega)];exact⟨_,rfl,⟨I.len,⟨p,λv h=>(d v h).1⟩,⟨t,λv h=>(d v h).2.1⟩⟩,⟨λv h=>YQ I h,λv i h B=>((d v h).2.2 i B).1,λv i h B=>((d v h).2.2 i B).2.2⟩,λv i h B=>((d v h).2.2 i B).2.1⟩
 have ab:=(D.node v h).deg;have K:at' g.2 (v:Int)=row g v:=rfl;rw[if_pos (by omega)];refine Bo (Q:=λy=>VY g vars cap y) (λz=>∃i:Nat,z.2.2.2=(i:Int)/\i<=(row g v).length/\(0<=z.1/\z.1<=24*(v:Int)+(i:Int))/\z.2.1.length=i/\z.2.2.1.length=i/\∀j:Nat,j<i->abT g vars cap v j (at' z.2.1 (j:Int)) (at' z.2.2.1 (j:Int)))
  (λz=>(row g v).length - z.2.2.2.toNat) (λz P F G=> ?_) 1000 _ ⟨0,rfl,by omega,⟨J,by dsimp only;omega⟩,rfl,rfl,λw O=>absurd O (Nat.not_lt_zero w)⟩ (by dsimp only;omega)
 obtain⟨l,kn,ws,ii⟩:=z;obtain⟨i,rfl,ae,⟨C,aa⟩,q,A,f⟩:=F;dsimp only at C aa q A f;unfold kO;dsimp only;rw[cF (by omega),K];by_cases B:i<(row g v).length
 rotate_left
 ·obtain rfl:i=(row g v).length:=by omega
  rw[if_neg (by omega)];unfold uB pL;dsimp only;rw[cF (by simp;omega),cF (by simp;omega),dD (by omega)];refine R _ ⟨v+1,rfl,by omega,⟨C,by dsimp only;omega⟩,by simp[p],by simp[t],λw O=> ?_⟩ (by dsimp only;omega);dsimp only[rI];rw[GQ ca kn (by omega),GQ wi ws (by omega),p,t];by_cases e:w<v
  ·rw[if_pos e,if_pos e];exact d w e
  ·obtain rfl:w=v:=by omega
   rw[if_neg e,if_neg e];exact⟨q,A,f⟩
 have V:=Bi D h B;have W:=(Er D h B).ul;have T:at' (row g v) (i:Int)=jP (row g v) i:=rfl;obtain⟨s,hs,U⟩:=Rh D L o W r.2.1 (a:=3*l) (by omega) (by omega);rw[if_pos (by omega),cF (by omega),cF (by omega),T,V,wr (x:=3*l) (by omega) (by omega),bG (show qA 1000 (g.1,g.2) vars _ _ _=some s from hs),cF (by simp;omega)];have E:∀m:Nat,m<=cap->OK (λy=>VY g vars cap y) (kN 1000 r g vars (k,(v:Int),ca,wi) (l,kn,ws,(i:Int)) P s (m:Int)):=λm hm=>by
  unfold kN;refine Bo (Q:=λy=>VY g vars cap y) (λu=>∃j:Nat,u.2=(j:Int)/\j<=m/\u.1.length=j/\∀x∈u.1,Ff g vars v x=true) (λu=>m - u.2.toNat) (λu ac F H=> ?_) 1000 _ ⟨0,rfl,by omega,rfl,λx X=>absurd X zB7⟩ (by dsimp only;omega);obtain⟨w,jj⟩:=u;obtain⟨j,rfl,hj,M,n⟩:=F;dsimp only at M n;unfold uD;dsimp only;by_cases af:j<m
  ·obtain⟨x,X,Y⟩:=Rh D L o h r.2.2.1 (a:=5*l+2*(j:Int)) (by omega) (by omega);rw[if_pos (by omega),wr (x:=5*l) (by omega) (by omega),wr (x:=2*(j:Int)) (by omega) (by omega),wr (x:=5*l+2*(j:Int)) (by omega) (by omega),bG (show qA 1000 (g.1,g.2) vars _ _ _=some x from X),cF (by simp;omega),dD (by omega)];refine H _ ⟨j+1,rfl,by omega,by simp[M],λy N=> ?_⟩ (by dsimp only;omega);rcases zB0.1 N with N|N
   ·exact n y N
   ·rw[List.mem_singleton.1 N];exact Y
  ·rw[if_neg (by omega)];unfold uC;dsimp only;rw[cF (by simp;omega),wr (x:=l+1) (by omega) (by omega),dD (by omega)];refine G _ ⟨i+1,rfl,by omega,⟨by dsimp only;omega,by dsimp only;omega⟩,by simp[q],by simp[A],λz hz=> ?_⟩ (by dsimp only;omega);dsimp only;rw[GQ kn s (by omega),GQ ws w (by omega),q,A];by_cases e:z<i
   ·rw[if_pos e,if_pos e];exact f z e
   ·obtain rfl:z=i:=by omega
    rw[if_neg e,if_neg e];exact⟨U,by omega,n⟩
 by_cases hq:0<r.2.2.2.length
 ·have t1:=Int.tmod_nonneg (a:=l) (r.2.2.2.length:Int) C;have t2:=Int.tmod_lt_of_pos l (b:=(r.2.2.2.length:Int)) (by omega);have r1:=Int.emod_nonneg (at' r.2.2.2 (Int.tmod l (r.2.2.2.length:Int))) (b:=(cap:Int)+1) (by omega);have r2:=zB8 (at' r.2.2.2 (Int.tmod l (r.2.2.2.length:Int))) (b:=(cap:Int)+1) (by omega);rw[if_pos (by omega),cF (by omega),cF (by omega),wr (x:=(cap:Int)+1) (by omega) (by omega),bG (nX _ _ (by omega) (by omega))];obtain⟨m,hm⟩:∃m:Nat,at' r.2.2.2 (Int.tmod l (r.2.2.2.length:Int))%((cap:Int)+1)=(m:Int):=⟨_,(Int.toNat_of_nonneg r1).symm⟩
  rw[hm]at r2 ⊢;exact E m (by omega)
 ·rw[if_neg (by omega)];exact E 0 (by omega)
theorem Zu (v:Int) {m:Int} (h:m<1):eQ 1000 v m=some 0:=by
 unfold eQ;rw[if_pos h]
theorem Vs {g:GR} (m:VG g) (l:kC):OK (λo:kC=>o.length<=60/\∀e∈o,HL g e=true) (mP 1000 g l):=by
 have C:=m.n24;have I:=m.n1;unfold mP;refine Bo (Q:=λo:kC=>o.length<=60/\∀e∈o,HL g e=true) (λx:List (Int×Int×Int)×Int=>∃k:Nat,x.2=(k:Int)/\k<=60/\x.1.length<=k/\∀e∈x.1,HL g e=true) (λx=>60 - x.2.toNat) (λx s D h=> ?_) 1000 _ ⟨0,rfl,by omega,by simp,λe f=>absurd f zB7⟩ (by dsimp only;omega);obtain⟨o,i⟩:=x;obtain⟨k,rfl,J,H,a⟩:=D;dsimp only at H a;have d:OK (λo:kC=>o.length<=60/\∀e∈o,HL g e=true) (sJ 1000 g l (o,(k:Int)) s false):=⟨o,rfl,by omega,a⟩
 unfold mZ;dsimp only;by_cases G:k<l.length
 rotate_left
 ·rw[if_neg (by omega)];exact d
 rw[if_pos (by omega)];by_cases F:k<60
 rotate_left
 ·rw[zA3 (by omega)];exact d
 rw[zA5 (by omega)];unfold sJ;dsimp only;have y:=Int.emod_nonneg (at' l (k:Int)).2.1 (b:=(g.2.length:Int)) (by omega);have z:=zB8 (at' l (k:Int)).2.1 (b:=(g.2.length:Int)) (by omega);have A:=Int.emod_nonneg (at' l (k:Int)).1 (b:=4) (by omega);have B:=zB8 (at' l (k:Int)).1 (b:=4) (by omega);rw[if_pos Z,cF (by omega),bG (nX _ _ (by omega) (by omega)),cF (by omega),cF (by omega)];generalize (at' l (k:Int)).2.1%(g.2.length:Int)=v at y z;rw[cF (by omega),bG (nX _ _ (by omega) (by omega))];generalize (at' l (k:Int)).1%4=q at A B;obtain⟨v,rfl⟩:∃w:Nat,v=(w:Int):=⟨v.toNat,by omega⟩
 have u:=(m.node v (by omega)).deg;have c:at' g.2 (v:Int)=row g v:=rfl;obtain⟨j,r,p⟩:∃j,eQ 1000 (at' l (k:Int)).2.2 ((at' g.2 (v:Int)).length:Int)=some j/\((row g v).length≠0->0<=j/\j<((row g v).length:Int)):=by
  rw[c];by_cases n:(row g v).length=0
  ·exact⟨0,Zu _ (by omega),λe=>absurd n e⟩
  ·exact⟨_,nX _ _ (by omega) (by omega),λ_=>⟨Int.emod_nonneg _ (by omega),zB8 _ (by omega)⟩⟩
 rw[bG r,wr (x:=1+q) (by omega) (by omega)];have t:∀b:Bool,(b=true->1+q=1\/(row g v).length≠0)->OK (λo:kC=>o.length<=60/\∀e∈o,HL g e=true) (sL (o,(k:Int)) s (v:Int) (1+q,j) b):=λb E=>by
  unfold sL sK;dsimp only;cases b with
  | true =>
   rw[if_pos Z,cF (by simp;omega),dD (by omega)];refine h _ ⟨k+1,rfl,by omega,by simp;omega,λe f=> ?_⟩ (by dsimp only;omega);rcases zB0.1 f with f|f
   ·exact a e f
   ·rw[List.mem_singleton.1 f];refine Lv (by omega) (by omega) ?_;rcases E rfl with e|e
    ·exact .inl e
    ·have:=p e;exact .inr (by rw[c];omega)
  |false=>
   rw[if_neg (by decide),dD (by omega)];exact h _ ⟨k+1,rfl,by omega,by dsimp only;omega,a⟩ (by dsimp only;omega)
 unfold Cg;rw[cF (by omega),c];by_cases n:(row g v).length=0
 ·rw[if_neg (by omega)];exact t _ λe=> .inl (zB2 e)
 ·rw[if_pos (by omega)];exact t _ λ_=> .inr n
def We (g:GR) (a:Int) (t:Nat):kC:=(List.range g.2.length).flatMap fun(v:Nat)=>(List.range (row g v).length).flatMap fun(i:Nat)=>(List.range t).flatMap λ_=>[(a,(v:Int),(i:Int))]
def acZ (g:GR):kC:=(List.range g.2.length).flatMap fun(v:Nat)=>[((1:Int),(v:Int),(0:Int))]
theorem GT (g:GR) (a:Nat):mB g a=We g 3 a++(acZ g++(We g 2 1++We g 3 a)):=by
 unfold mB YT SO abW YX We acZ;simp only[List.map_append,List.map_flatMap,zBf,List.map_nil,List.range_one,List.flatMap_cons,List.flatMap_nil,List.append_nil];rfl
theorem pO {c:Type} {f:Nat->List c} {M:Nat}:∀{n:Nat},(∀k,k<n->(f k).length<=M)->((List.range n).flatMap f).length<=n*M
 |0,_=>by simp
 |n+1,h=>by
  have a:=pO (n:=n) (f:=f) (M:=M) λk d=>h k (by omega);have b:=h n (by omega);rw[List.range_succ,List.flatMap_append,List.flatMap_singleton,zA4,Nat.succ_mul];omega
theorem Ef {a:Type} (f:Nat->List a) (n:Nat):(List.range (n+1)).flatMap f=(List.range n).flatMap f++f n:=by rw[List.range_succ,List.flatMap_append,List.flatMap_singleton]
theorem Ej {g B:Type} {f:Nat->List g} {n M:Nat} (c:List g) {step:Int×List g->(Int×List g->Option B)->Option B} {K:List g->Option B} (l:∀k,k<n->(f k).length<=M) (p:∀(k:Nat) d e,k<n->d.length<=c.length+n*M->step ((k:Int),d) e=e (((k+1:Nat):Int),d++f k)) (m:∀d e,d.length<=c.length+n*M->step ((n:Int),d) e=K d) (o:n<1000):bJ step 1000 ((0:Int),c)=K (c++(List.range n).flatMap f):=by
 have i:∀k,k<=n->(c++(List.range k).flatMap f).length<=c.length+n*M:=λk h=>by
  have a:=pO (n:=k) (f:=f) (M:=M) λj q=>l j (by omega);have b:=zAr M h;rw[zA4];omega
 have:=dJ (step:=step) (K:=K (c++(List.range n).flatMap f)) n (λk=>((k:Int),c++(List.range k).flatMap f)) (λk e h=>by rw[p k _ e h (i k (by omega)),Ef,zAz]) (λe=>m _ e (i n (zAe _))) 1000 o;simpa using this
theorem VU {g:GR} (l:VG g) (cap:Nat):∀e∈mB g cap,HL g e=true:=by
 have d:∀(b:Int) (t:Nat),1<=b->b<=4->∀e∈We g b t,HL g e=true:=λb t h j e a=>by
  obtain⟨v,c,a⟩:=List.mem_flatMap.1 a;obtain⟨i,f,a⟩:=List.mem_flatMap.1 a;obtain⟨k,m,a⟩:=List.mem_flatMap.1 a;have c:=zAp.1 c;have f:(i:Nat)<(at' g.2 (v:Int)).length:=zAp.1 f;rw[List.mem_singleton.1 a];exact Lv ⟨h,j⟩ (by omega) (.inr (by omega))
 intro e a;rw[GT]at a;rcases zB0.1 a with a|a
 ·exact d 3 cap (by omega) (by omega) e a
 rcases zB0.1 a with a|a
 ·obtain⟨v,c,a⟩:=List.mem_flatMap.1 a;have c:=zAp.1 c;rw[List.mem_singleton.1 a];exact Lv ⟨by decide,by decide⟩ (by omega) (.inl Z)
 rcases zB0.1 a with a|a
 ·exact d 2 1 (by omega) (by omega) e a
 ·exact d 3 cap (by omega) (by omega) e a
section
variable {g:GR} {cap:Nat}
theorem OH (b:VG g) (a:Int) (t:Nat):(We g a t).length<=g.2.length*((g.2.length - 1)*t):=by
 unfold We;refine pO λv c=> ?_;have d:=(b.node v c).deg;refine zB1 (pO (M:=t) λi e=> ?_) (zAr _ (by omega));have:=pO (f:=λ_=>[(a,(v:Int),(i:Int))]) (n:=t) (M:=1) λk h=>zAe _;omega
theorem TH (g:GR):(acZ g).length<=g.2.length:=by
 have:=pO (f:=fun(v:Nat)=>[((1:Int),(v:Int),(0:Int))]) (n:=g.2.length) (M:=1) λk a=>zAe _;unfold acZ;omega
theorem Tp (d:VG g) (cap:Nat):(mB g cap).length<=g.2.length*((g.2.length - 1)*(2*cap+1))+g.2.length:=by
 have a:=OH d 3 cap;have b:=OH d 2 1;have c:=TH g;rw[GT];simp only[zA4];have:g.2.length*((g.2.length - 1)*(2*cap+1))=2*(g.2.length*((g.2.length - 1)*cap))+g.2.length*((g.2.length - 1)*1):=by
  rw[Nat.mul_add,Nat.mul_add,Nat.mul_left_comm (g.2.length - 1) 2 cap,Nat.mul_left_comm g.2.length 2]
 omega
theorem JF (p:VG g) (a:Int) {t:Nat} (D:t<=8) (d:List (Int×Int×Int)) (x:d.length<=100000):jI 1000 a (t:Int) g d=some (d++We g a t):=by
 have z:=p.n24;have y:∀v i:Nat,((List.range t).flatMap λ_=>[(a,(v:Int),(i:Int))]).length<=8:=λv i=>by
  have:=pO (f:=λ_=>[(a,(v:Int),(i:Int))]) (n:=t) (M:=1) λk w=>zAe _;omega
 have B:∀v:Nat,v<g.2.length->((List.range (row g v).length).flatMap fun(i:Nat)=>(List.range t).flatMap λ_=>[(a,(v:Int),(i:Int))]).length<=192:=λv s=>by
  have A:=(p.node v s).deg;have:=pO (f:=fun(i:Nat)=>(List.range t).flatMap λ_=>[(a,(v:Int),((i:Nat):Int))]) (n:=(row g v).length) (M:=8) λk w=>y v k;omega
 unfold jI;refine Ej (M:=192) (step:=jN 1000 a (t:Int) g) (K:=λl=>some l) (f:=fun(v:Nat)=>(List.range (row g v).length).flatMap fun(i:Nat)=>(List.range t).flatMap λ_=>[(a,(v:Int),(i:Int))]) d B (λv c m s u=> ?_) (λc m _=> ?_) (by omega)
 ·have A:=(p.node v s).deg;have e:at' g.2 (v:Int)=row g v:=rfl;unfold jN;dsimp only;rw[if_pos (by omega),cF (by omega)];refine Ej (M:=8) (step:=mA 1000 a (t:Int) g ((v:Int),c) m) (K:=λl=>m (((v+1:Nat):Int),l)) (f:=fun(i:Nat)=>(List.range t).flatMap λ_=>[(a,(v:Int),(i:Int))]) c (λi _=>y v i) (λi b h C q=> ?_) (λb h _=> ?_) (by omega)
  ·unfold mA;dsimp only;rw[e,if_pos (by omega)];refine Ej (M:=1) (step:=rC a (t:Int) ((v:Int),c) ((i:Int),b) h) (K:=λl=>h (((i+1:Nat):Int),l)) (f:=λ_=>[(a,(v:Int),(i:Int))]) b (λ_ _=>zAe _) (λk j o w r=> ?_) (λj o _=> ?_) (by omega)
   ·unfold rC;dsimp only;rw[if_pos (by omega),cF (by simp;omega),dD (by omega)]
   ·unfold rC vY;dsimp only;rw[if_neg (by omega),dD (by omega)]
  ·unfold mA vX;dsimp only;rw[e,if_neg (by omega),dD (by omega)]
 ·unfold jN;dsimp only;rw[if_neg (by omega)]
theorem Nv (f:VG g) (c:Int) {t:Nat} (h:t<=8):(We g c t).length<=4608:=by
 have e:=f.n24;have a:=OH f c t;have b:(g.2.length - 1)*t<=24*8:=Nat.mul_le_mul (by omega) h;have d:g.2.length*((g.2.length - 1)*t)<=24*(24*8):=Nat.mul_le_mul e b;omega
theorem Rj (a:VG g) (o:1<=cap) (d:cap<=8):kX 1000 g (cap:Int)=some (mB g cap):=by
 have j:=a.n24;have l:=Nv a 3 d;have k:=Nv a 2 (t:=1) (by omega);have m:=TH g;have h:iK 1000 (g.1,g.2)=some true:=(JL g).1 a;unfold kX;rw[bG h,if_neg (by decide),if_neg (by omega),zA3 (by omega)];unfold u_;rw[if_neg (by decide),bG (show jI 1000 3 (cap:Int) (g.1,g.2) []=_ from JF a 3 d [] (by simp)),zBb,GT];refine(Ej (M:=1) (n:=g.2.length) (step:=vA 1000 g (cap:Int)) (K:=Aq 1000 g (cap:Int)) (f:=fun(v:Nat)=>[((1:Int),(v:Int),(0:Int))]) (We g 3 cap) (λ_ _=>zAe _) (λv b i h e=> ?_) (λb i _=> ?_) (by omega)).trans ?_
 ·unfold vA;dsimp only;rw[if_pos (by omega),cF (by simp;omega),dD (by omega)]
 ·unfold vA;dsimp only;rw[if_neg (by omega)]
 ·have c:((List.range g.2.length).flatMap fun(v:Nat)=>[((1:Int),(v:Int),(0:Int))])=acZ g:=rfl;rw[c];unfold Aq;rw[bG (show jI 1000 2 1 (g.1,g.2) _=_ from JF a 2 (t:=1) (by omega) _ (by simp;omega)),bG (show jI 1000 3 (cap:Int) (g.1,g.2) _=_ from JF a 3 d _ (by simp;omega))];simp only[zAz]
theorem UD (b:VG g) {cap:Int} (h:¬(1<=cap/\cap<=8)):kX 1000 g cap=some []/\kW 1000 g cap=some []:=by
 have d:iK 1000 (g.1,g.2)=some true:=(JL g).1 b;have c:iL 1000 (g.1,g.2)=some true:=(E_ g).1 b;constructor
 ·unfold kX;rw[bG d,if_neg (by decide)];by_cases a:cap<1
  ·rw[if_pos a];rfl
  ·rw[if_neg a,zA5 (by omega)];rfl
 ·unfold kW;rw[bG c,if_neg (by decide),bG (iJ 1000 _ _ _),zA3 h];rfl
theorem Ri (h:VG g) (L:1<=cap) (N:cap<=8):kW 1000 g (cap:Int)=some (mB g cap):=by
 have D:=h.n24;have E:iL 1000 (g.1,g.2)=some true:=(E_ g).1 h;unfold kW;rw[bG E,if_neg (by decide),bG (iJ 1000 _ _ _),zA5 (show 1<=(cap:Int)/\(cap:Int)<=8 by omega)];unfold Ac;rw[if_neg (by decide)];let H:Nat->List (Int×Int×Int):=λv=>(List.range (row g v).length).flatMap fun(i:Nat)=>(List.range cap).flatMap λ_=>[((3:Int),(v:Int),(i:Int))]
 let W:Nat->List (Int×Int×Int):=λv=>(List.range (row g v).length).flatMap fun(i:Nat)=>[((2:Int),(v:Int),(i:Int))]
 have G:∀v i:Nat,∀c,c<=cap->((List.range c).flatMap λ_=>[((3:Int),(v:Int),(i:Int))]).length<=8:=λv i c O=>by
  have:=pO (f:=λ_=>[((3:Int),(v:Int),(i:Int))]) (n:=c) (M:=1) λk r=>zAe _;omega
 have x:∀v k:Nat,k<=24->((List.range k).flatMap fun(i:Nat)=>(List.range cap).flatMap λ_=>[((3:Int),(v:Int),(i:Int))]).length<=192:=λv k r=>by
  have:=pO (f:=fun(i:Nat)=>(List.range cap).flatMap λ_=>[((3:Int),(v:Int),((i:Nat):Int))]) (n:=k) (M:=8) λj m=>G v j cap (zAe _);omega
 have y:∀v k:Nat,k<=24->((List.range k).flatMap fun(i:Nat)=>[((2:Int),(v:Int),(i:Int))]).length<=24:=λv k r=>by
  have:=pO (f:=fun(i:Nat)=>[((2:Int),(v:Int),((i:Nat):Int))]) (n:=k) (M:=1) λj m=>zAe _;omega
 have u:∀v,v<=g.2.length->((List.range v).flatMap H).length<=4608:=λv o=>by
  have:=pO (f:=H) (n:=v) (M:=192) λj m=>x j _ (by have:=(h.node j (by omega)).deg;omega);omega
 have w:∀v,v<=g.2.length->((List.range v).flatMap W).length<=576:=λv o=>by
  have:=pO (f:=W) (n:=v) (M:=24) λj m=>y j _ (by have:=(h.node j (by omega)).deg;omega);omega
 have t:∀v,v<=g.2.length->((List.range v).flatMap fun(v:Nat)=>[((1:Int),(v:Int),(0:Int))]).length<=24:=λv o=>by
  have:=pO (f:=fun(v:Nat)=>[((1:Int),(v:Int),(0:Int))]) (n:=v) (M:=1) λj m=>zAe _;omega
 have C:(List.range g.2.length).flatMap W=We g 2 1:=by
  unfold We;simp only[List.range_one,List.flatMap_cons,List.flatMap_nil,List.append_nil];rfl
 refine dJ (step:=lC 1000 g (cap:Int)) (K:=some (mB g cap)) g.2.length (λv=>((List.range v).flatMap H,((List.range v).flatMap fun(v:Nat)=>[((1:Int),(v:Int),(0:Int))]),(List.range v).flatMap W,(v:Int))) (λv s o=> ?_) (λs=> ?_) 1000 (by omega)
 ·have P:=(h.node v o).deg;have a:at' g.2 (v:Int)=row g v:=rfl;have z:=u v (by omega);have A:=w v (by omega);have B:=t v (by omega);unfold lC;dsimp only;rw[if_pos (by omega),cF (by simp only[List.length_singleton];omega)];let F:Nat->Int×List (Int×Int×Int)×List (Int×Int×Int):=λi=>((i:Int),(List.range v).flatMap H++((List.range i).flatMap fun(i:Nat)=>(List.range cap).flatMap λ_=>[((3:Int),(v:Int),(i:Int))]),(List.range v).flatMap W++((List.range i).flatMap fun(i:Nat)=>[((2:Int),(v:Int),(i:Int))]))
  have q:((0:Int),(List.range v).flatMap H,(List.range v).flatMap W)=F 0:=by simp[F]
  rw[q];refine dJ (step:=oK 1000 g (cap:Int) ((List.range v).flatMap H,((List.range v).flatMap fun(v:Nat)=>[((1:Int),(v:Int),(0:Int))]),(List.range v).flatMap W,(v:Int)) s) (row g v).length F (λi b Q=> ?_) (λb=> ?_) 1000 (by omega)
  ·have I:=x v i (by omega);have J:=y v i (by omega);unfold oK;dsimp only[F];rw[cF (by omega),a,if_pos (by omega),cF (by simp only[List.length_singleton,zA4];omega)];refine(Ej (M:=1) (n:=cap) (step:=uY (cap:Int) ((List.range v).flatMap H,((List.range v).flatMap fun(v:Nat)=>[((1:Int),(v:Int),(0:Int))]),(List.range v).flatMap W,(v:Int)) ((i:Int),(List.range v).flatMap H++((List.range i).flatMap fun(i:Nat)=>(List.range cap).flatMap λ_=>[((3:Int),(v:Int),(i:Int))]),(List.range v).flatMap W++((List.range i).flatMap fun(i:Nat)=>[((2:Int),(v:Int),(i:Int))])) b) (K:=λl=>uX ((List.range v).flatMap H,((List.range v).flatMap fun(v:Nat)=>[((1:Int),(v:Int),(0:Int))]),(List.range v).flatMap W,(v:Int)) ((i:Int),(List.range v).flatMap H++((List.range i).flatMap fun(i:Nat)=>(List.range cap).flatMap λ_=>[((3:Int),(v:Int),(i:Int))]),(List.range v).flatMap W++((List.range i).flatMap fun(i:Nat)=>[((2:Int),(v:Int),(i:Int))])) b l) (f:=λ_=>[((3:Int),(v:Int),(i:Int))]) _ (λ_ _=>zAe _) (λk e p r d=> ?_) (λe p _=> ?_) (by omega)).trans ?_
   ·simp only[zA4]at d;unfold uY;dsimp only;rw[if_pos (by omega),cF (by simp only[List.length_singleton];omega),dD (by omega)]
   ·unfold uY;dsimp only;rw[if_neg (by omega)]
   ·unfold uX;dsimp only[F];rw[dD (by omega)];simp only[Ef,zAz]
  ·unfold oK Ae;dsimp only[F];rw[cF (by omega),a,if_neg (by omega),dD (by omega),Ef H v,Ef W v,Ef _ v]
 ·have z:=u g.2.length (zAe _);have A:=w g.2.length (zAe _);have B:=t g.2.length (zAe _);unfold lC Ad;dsimp only;rw[if_neg (by omega),zBb,cF (by simp only[zAg];omega),cF (by omega),cF (by simp only[zA4];omega),cF (by simp only[zA4];omega),C,GT];simp only[zAz];rfl
end
def exX:E:= .ite (.bi 37 (.ag 24 (.lf 12 0)) (.lf 6 0)) (.bi 33 (.ag 24 (.lf 12 0)) (.lf 1 1)) (.lf 6 0)
def exY:E:= .ag 23 (.bi 35 (.lf 12 0) (.ag 24 (.lf 12 0)))
def guT:E:= .bi 41 (.lf 10 0) (.bi 42 (.bi 36 (.lf 5 0) (.lf 1 0)) (.bi 36 (.lf 5 1) (.lf 4 0)))
def guB:E:= .bi 41 (.un 19 (.lf 10 0)) (.bi 42 (.bi 36 (.lf 5 0) exX) (.bi 36 (.lf 5 1) exY))
def lsB (g:GR) (c:bO) (v:Nat):bQ:=(List.range (row g v).length).map λq=>afg g c v q
def XB (g:GR) (c:bO) (v:Nat):Int:=if OZ (lsB g c v)<(g.1.length:Int)then sat (wI .i64 (OZ (lsB g c v)+1))else(g.1.length:Int)
def YB (g:GR) (c:bO) (v:Nat):Int:=h_ ((List.range (row g v).length).map λq=>Qn (decide (afg g c v q=OZ (lsB g c v))))
def TB (g:GR) (c:bO) (v:Nat):gK:=if v=0 then(0,-1)else(XB g c v,YB g c v)
def Cl (k:Nat) (x y:Int):Prop:=(y<(k:Int)->x=y)/\((k:Int)<=y->(k:Int)<=x)
def inP:E:= .bi 35 (.lf 11 0) (.lf 5 1)
def aho:E:= .bi 41 (.bi 41 (.lf 10 0) (.un 19 (.lf 5 2))) (.lf 5 5)
def ahp:E:= .bi 41 (.un 19 (.lf 10 0)) (.ag 21 (.bi 41 inP (.bi 42 (.bi 36 (.lf 12 3) (.lf 5 3)) (.bi 41 (.lf 5 2) (.un 19 (.lf 12 2))))))
def ahq:E:= .bi 41 (.lf 5 2) (.ag 20 (.bi 42 (.bi 36 (.lf 12 1) (.lf 17 0)) (.bi 41 (.un 19 (.lf 12 2)) (.bi 35 (.lf 12 3) (.lf 5 3)))))
def ahr:E:= .bi 41 (.bi 41 (.un 19 (.lf 5 2)) (.un 19 (.lf 5 5))) (.ag 21 (.bi 41 (.bi 41 (.bi 35 (.lf 12 1) (.lf 17 0)) (.lf 12 5)) (.un 19 (.lf 12 2))))
def RS:List RL:=[(guT,[(0,.lf 1 0),(1,.lf 4 0)]),(guB,[(0,exX),(1,exY)]),(aho,[(2,.lf 2 0),(3,.un 19 (.lf 5 3)),(4,.lf 1 0),(5,.lf 3 0)]),
 (ahp,[(2,.ag 21 (.bi 41 inP (.lf 12 2))),(3,.ag 21 (.bi 41 inP (.lf 12 3))),(4,.lf 1 0),(5,.lf 3 0)]),(ahq,[(2,.lf 3 0)]),(ahr,[(5,.lf 2 0)])]
def ldK:E:= .bi 33 (.bi 30 (.lf 12 0) (.lf 6 0)) (.lf 12 1)
def ldM:E:= .ag 24 (.ite (.bi 37 (.bi 33 (.lf 12 1) (.lf 1 1)) (.lf 6 0)) ldK (.bi 30 (.bi 33 (.lf 7 0) (.lf 1 1)) (.lf 6 0)))
def ldI:E:= .bi 30 (.lf 8 0) (.lf 6 0)
def ldQ:E:= .bi 31 ldM (.lf 6 0)
def ldD:E:= .bi 33 (.bi 32 ldM (.lf 6 0)) (.lf 1 1)
def ldP:E:= .ag 23 (.bi 35 ldK ldM)
def guO:E:= .bi 41 (.bi 38 ldI ldM) (.bi 42 (.bi 42 (.bi 36 (.lf 5 0) (.lf 8 0)) (.bi 36 (.lf 5 1) (.lf 1 0))) (.bi 36 (.lf 5 2) (.lf 4 0)))
def guJ:E:= .bi 41 (.bi 39 ldI ldM) (.bi 42 (.bi 42 (.bi 36 (.lf 5 0) ldQ) (.bi 36 (.lf 5 1) ldD)) (.bi 36 (.lf 5 2) ldP))
def RE:List RL:=[(guO,[(0,.lf 8 0),(1,.lf 1 0),(2,.lf 4 0)]),(guJ,[(0,ldQ),(1,ldD),(2,ldP)])]
theorem aby:pA 3 RE=true:=by decide +kernel
def AG:List D_:=[(ByteArray.mk #[108,101,97,100],1,0,0,0,1),(ByteArray.mk #[100],1,0,-1,1,0),(ByteArray.mk #[112],3,0,0,0,0)]
theorem YO:∀x,x<AG.length->Ih (at' AG (x:Int)):=by
 intro x a;have a:x<3:=a
 match x,a with
 |0,_=>exact⟨by decide,by decide,by decide⟩
 |1,_=>exact⟨by decide,by decide,by decide⟩
 |2,_=>exact⟨by decide,by decide,by decide⟩
theorem afd (g:GR) (v:Nat):lo g (at' AG ((0:Nat):Int)) v=0:=rfl
theorem afe (g:GR) (v:Nat):lo g (at' AG ((1:Nat):Int)) v=0:=rfl
theorem ahv (g:GR) (v:Nat):lo g (at' AG ((2:Nat):Int)) v = -1:=rfl
theorem aeU (g:GR) (v:Nat):hi g (at' AG ((0:Nat):Int)) v=jF g g.1.length:=by
 show(0:Int)+0*(g.2.length:Int)+1*jF g g.1.length=_;omega
theorem aeV (g:GR) (v:Nat):hi g (at' AG ((1:Nat):Int)) v=(g.2.length:Int) - 1:=by
 show(-1:Int)+1*(g.2.length:Int)+0*jF g g.1.length=_;omega
theorem ahs (g:GR) (v:Nat):hi g (at' AG ((2:Nat):Int)) v=((row g v).length:Int) - 1:=rfl
theorem afA {g:GR} (b:VG g):jR g AG:=by
 have e:=b.n24;have f:=b.n1;have d:=b.len;have h:=BU b g.1.length (by omega);refine⟨by decide,YO,λx a=> ?_,λx a c=> ?_⟩
 ·have a:x<3:=a
  match x,a with
  |0,_=>exact .inl Z
  |1,_=>exact .inl Z
  |2,_=>exact .inr (.inr Z)
 ·have a:x<3:=a
  match x,a,c with
  |0,_,_=>rw[afd,aeU];omega
  |1,_,_=>rw[afe,aeV];omega
  |2,_,c=>exact absurd c (by decide)
theorem SB {g:GR} (G:VG g) (d:List D_) (f:bQ) (ht:d.length<=900) (W:∀x,x<d.length->Ih (at' d (x:Int)) /\ -100000<=(at' d (x:Int)).2.2.1) (J:∀x v,x<d.length->lo g (at' d (x:Int)) v<=hi g (at' d (x:Int)) v):
  OK (λc=>Wc g c d) (jE 1000 g d f):=by
 have S:=G.n24;have m:=G.len;have R:jE 1000 g d f=sS 1000 g d f (jF g g.2.length):=by
  unfold jE;refine dJ (F:=λk:Nat=>((jF g k,(k:Int)):gK)) g.2.length (λk D hk=> ?_) (λD=> ?_) 1000 (by omega)
  ·unfold xV;simp only;rw[if_pos (by omega),cF (by omega),wr (by omega) (by omega)];rfl
  ·unfold xV;simp only;rw[if_neg (by omega)]
 rw[R];obtain⟨N,m2⟩:=BU G g.2.length (by omega);unfold sS;have L:=Qx (step:=lO 1000 g d f (jF g g.2.length)) (K:=λx=>some x.1) g.2.length (λv x=>x.2=(v:Int)/\x.1.length=v/\∀w,w<v->(at' x.1 (w:Int)).length=d.length/\WE g d w (at' x.1 (w:Int))) (λv x D A t=> ?_) (λx D t=> ?_) 1000 (([]:bO),(0:Int)) ⟨rfl,rfl,λw X=>by omega⟩ (by omega)
 ·obtain⟨⟨c,i⟩,⟨_,u,s⟩,I⟩:=L;exact⟨c,I,u,λv A=>(s v A).1,λv A x B=>(s v A).2 x (by rw[(s v A).1];exact B)⟩
 ·obtain⟨c,i⟩:=x;obtain⟨rfl,u,s⟩:=t;simp only at u s;have M:(at' g.2 (v:Int)).length<g.2.length:=(G.node v A).deg;unfold lO;simp only;rw[if_pos (by omega)];have E:=Qx (step:=pI 1000 g d f (jF g g.2.length) (c,(v:Int)) D) (K:=λy=>D (c++[y.1],(v:Int)+1)) d.length (λx y=>y.2=(x:Int)/\y.1.length=x/\WE g d v y.1) (λx y p B t=> ?_) (λy p t=> ?_) 1000 (([]:bQ),(0:Int)) ⟨rfl,rfl,λx B=>by simp at B⟩ (by omega)
  ·obtain⟨⟨l,j⟩,⟨_,n,C⟩,I⟩:=E;refine⟨(c++[l],(v:Int)+1),⟨by simp,by simp[u],λw X=> ?_⟩,I⟩
   simp only;rw[GQ c l (by omega),u];by_cases e:w<v
   ·rw[if_pos e];exact s w e
   ·rw[if_neg e];have:w=v:=by omega
    subst this;exact⟨n,C⟩
  ·obtain⟨l,j⟩:=y;obtain⟨rfl,n,C⟩:=t;simp only at n C;obtain⟨⟨s1,O,P⟩,s4⟩:=W x B;have Q:=J x v B;have q:∀a b:Int,a=lo g (at' d (x:Int)) v->b=hi g (at' d (x:Int)) v -> -100000<=a->a<=b+1->b<=100000000->(a<=b\/(a = -1/\b = -1))->∃H,(H.2=((x+1:Nat):Int)/\H.1.length=x+1/\WE g d v H.1)/\pH 1000 d f (c,(v:Int)) (l,(x:Int)) p (a,b)=p H:=by
    intro a b T V q1 q2 q3 q4;have U:a<=b:=by omega
    unfold pH;simp only;have w1:wI .i64 ((v:Int)*(d.length:Int))=(v:Int)*(d.length:Int):=by
     have p1:0<=(v:Int)*(d.length:Int):=Int.mul_nonneg (by omega) (by omega);have p2:(v:Int)*(d.length:Int)<=24*900:=Int.mul_le_mul (by omega) (by omega) (by omega) (by omega);exact wr (by omega) (by omega)
    have p1:0<=(v:Int)*(d.length:Int):=Int.mul_nonneg (by omega) (by omega);have p2:(v:Int)*(d.length:Int)<=24*900:=Int.mul_le_mul (by omega) (by omega) (by omega) (by omega);rw[w1,wr (x:=(v:Int)*(d.length:Int)+(x:Int)) (by omega) (by omega),Qm _ _ (by omega),bG Z,wr (x:=b - a) (by omega) (by omega),wr (x:=b - a+1) (by omega) (by omega),nX _ _ (by omega) (by omega),bG Z];have r1:=Int.emod_nonneg (at' f ((v:Int)*(d.length:Int)+(x:Int))) (b:=b - a+1) (by omega);have r2:=zB8 (at' f ((v:Int)*(d.length:Int)+(x:Int))) (b:=b - a+1) (by omega);generalize at' f ((v:Int)*(d.length:Int)+(x:Int))%(b - a+1)=r at r1 r2;rw[wr (x:=a+r) (by omega) (by omega),cF (by simp;omega),wr (by omega) (by omega)];refine⟨_,⟨by simp,by simp[n],λz Y=> ?_⟩,rfl⟩
    simp only[zA4,zA9,zAg,n]at Y;simp only;rw[GQ l _ (by omega),n];by_cases e:z<x
    ·rw[if_pos e];exact C z (by omega)
    ·rw[if_neg e];have:z=x:=by omega
     subst this;rw[<-T,<-V];omega
   unfold pI;simp only;rw[if_pos (by omega),cF (by omega),cF (by omega),cF (by omega),cF (by omega),cF (by omega)];by_cases h:(at' d (x:Int)).2.1=2
   ·rw[if_pos h];exact q 0 1 (by unfold lo;rw[if_pos h]) (by unfold hi;rw[if_pos h]) (by omega) (by omega) (by omega) (by omega)
   ·rw[if_neg h];by_cases o:(at' d (x:Int)).2.1=3
    ·rw[if_pos o,cF (by omega),wr (by omega) (by omega)];exact q (-1) _ (by unfold lo;rw[if_neg h,if_pos o]) (by unfold hi;rw[if_neg h,if_pos o]) (by omega) (by omega) (by omega) (by omega)
    ·rw[if_neg o];unfold lo hi at Q;rw[if_neg h,if_neg o,if_neg h,if_neg o,m]at Q;have q1:0<=(at' d (x:Int)).2.2.2.2.1*(g.2.length:Int):=Int.mul_nonneg O.1 (by omega);have q2:(at' d (x:Int)).2.2.2.2.1*(g.2.length:Int)<=100000*24:=Int.mul_le_mul O.2 (by omega) (by omega) (by omega);have q3:0<=(at' d (x:Int)).2.2.2.2.2*jF g g.2.length:=Int.mul_nonneg P.1 N;have q4:(at' d (x:Int)).2.2.2.2.2*jF g g.2.length<=100000*255:=Int.mul_le_mul P.2 m2 N (by omega);rw[wr (x:=(at' d (x:Int)).2.2.2.2.1*(g.2.length:Int)) (by omega) (by omega),wr (x:=(at' d (x:Int)).2.2.2.2.2*jF g g.2.length) (by omega) (by omega),wr (x:=(at' d (x:Int)).2.2.2.1+(at' d (x:Int)).2.2.2.2.1*(g.2.length:Int)) (by omega) (by omega),wr (by omega) (by omega)];exact q _ _ (by unfold lo;rw[if_neg h,if_neg o]) (by unfold hi;rw[if_neg h,if_neg o,m]) (by omega) (by omega) (by omega) (by omega)
  ·obtain⟨l,j⟩:=y;obtain⟨rfl,n,C⟩:=t;simp only at n C;unfold pI Cn;simp only;rw[if_neg (by omega),cF (by simp;omega),wr (by omega) (by omega)]
 ·obtain⟨c,i⟩:=x;obtain⟨rfl,u,s⟩:=t;unfold lO xU;simp only;rw[if_neg (by omega)]
theorem Xl {g:GR} (d:VG g) (b:bQ):OK (λc=>Wc g c AG) (jE 1000 g AG b):=SB d AG b (by decide) (λq a=>⟨YO q a,by
  have a:q<3:=a
  match q,a with
  |0,_=>decide
  |1,_=>decide
  |2,_=>decide⟩) (λq v a=>by
  have e:=d.len;have f:=d.n1;have h:=BU d g.1.length (by omega);have a:q<3:=a
  match q,a with
  |0,_=>rw[afd,aeU];omega
  |1,_=>rw[afe,aeV];omega
  |2,_=>rw[ahv,ahs];omega)
end Go.Proofs.YtflciafboapaaaaGreat
namespace Go.Proofs.YtflciafboapaaaaGreat
open Go.Sx
def Br (U:Nat) : Option (ByteArray):=
 some (ByteArray.mk #[112,114,111,103,114,97,109,32,108,101,97,100,101,114,59,10,118,97,114,32,108,101,97,100,32,58,32,48,32,46,46,32,105,100,115,59,10,118,97,114,32,100,32,58,32,48,32,46,46,32,110,32,45,32,49,59,10,118,97,114,32,112,32,58,32,112,111,114,116,59,10,114,117,108,101,32,111,119,110,58,32,105,100,32,42,32,110,32,60,61,32,109,105,110,40,113,46,100,32,43,32,49,32,60,32,110,32,63,32,113,46,108,101,97,100,32,42,32,110,32,43,32,113,46,100,32,58,32,40,105,100,115,32,43,32,49,41,32,42,32,110,41,32,38,38,32,40,108,101,97,100,32,33,61,32,105,100,32,124,124,32,100,32,33,61,32,48,32,124,124,32,112,32,33,61,32,110,111,110,101,41,32,45,62,32,108,101,97,100,32,58,61,32,105,100,44,32,100,32,58,61,32,48,44,32,112,32,58,61,32,110,111,110,101,59,10,114,117,108,101,32,106,111,105,110,58,32,105,100,32,42,32,110,32,62,32,109,105,110,40,113,46,100,32,43,32,49,32,60,32,110,32,63,32,113,46,108,101,97,100,32,42,32,110,32,43,32,113,46,100,32,58,32,40,105,100,115,32,43,32,49,41,32,42,32,110,41,32,38,38,32,40,108,101,97,100,32,33,61,32,109,105,110,40,113,46,100,32,43,32,49,32,60,32,110,32,63,32,113,46,108,101,97,100,32,42,32,110,32,43,32,113,46,100,32,58,32,40,105,100,115,32,43,32,49,41,32,42,32,110,41,32,47,32,110,32,124,124,32,100,32,33,61,32,109,105,110,40,113,46,100,32,43,32,49,32,60,32,110,32,63,32,113,46,108,101,97,100,32,42,32,110,32,43,32,113,46,100,32,58,32,40,105,100,115,32,43,32,49,41,32,42,32,110,41,32,37,32,110,32,43,32,49,32,124,124,32,112,32,33,61,32,102,105,114,115,116,40,113,46,108,101,97,100,32,42,32,110,32,43,32,113,46,100,32,61,61,32,109,105,110,40,113,46,100,32,43,32,49,32,60,32,110,32,63,32,113,46,108,101,97,100,32,42,32,110,32,43,32,113,46,100,32,58,32,40,105,100,115,32,43,32,49,41,32,42,32,110,41,41,41,10,32,32,45,62,32,108,101,97,100,32,58,61,32,109,105,110,40,113,46,100,32,43,32,49,32,60,32,110,32,63,32,113,46,108,101,97,100,32,42,32,110,32,43,32,113,46,100,32,58,32,40,105,100,115,32,43,32,49,41,32,42,32,110,41,32,47,32,110,44,32,100,32,58,61,32,109,105,110,40,113,46,100,32,43,32,49,32,60,32,110,32,63,32,113,46,108,101,97,100,32,42,32,110,32,43,32,113,46,100,32,58,32,40,105,100,115,32,43,32,49,41,32,42,32,110,41,32,37,32,110,32,43,32,49,44,32,112,32,58,61,32,102,105,114,115,116,40,113,46,108,101,97,100,32,42,32,110,32,43,32,113,46,100,32,61,61,32,109,105,110,40,113,46,100,32,43,32,49,32,60,32,110,32,63,32,113,46,108,101,97,100,32,42,32,110,32,43,32,113,46,100,32,58,32,40,105,100,115,32,43,32,49,41,32,42,32,110,41,41,59,10])
theorem acP:bB Tryz.prog 28:=Tryz.call28
theorem MN (U:Nat) (r:ByteArray) (h:Br U = some r):
  bD Tryz.prog 28 #[] [] (λx:Unit=>vS (r)) (λx l=>l) (λ_ l=>l):=by
 refine bD.of Tryz.func28 Z Tryz.ntmps28 Z λc=>?_;unfold Br at h;refine aU<|aC Z<|aO<|aU<|aC Z<|aO<|aR ?_;cases h;exact iZ Z
def ES (U:Nat) : Option ((List (ByteArray×Int×Int×Int×Int×Int))):=
 Option.bind (zO U (ByteArray.mk #[108,101,97,100]) (0:Int) (0:Int) (1:Int)) λa=>(Option.bind (zO U (ByteArray.mk #[100]) (-1:Int) (1:Int) (0:Int)) λb=>(Option.bind (Ch U (ByteArray.mk #[112])) λc=>(some ([(a.1,a.2.1,a.2.2.1,a.2.2.2.1,a.2.2.2.2.1,a.2.2.2.2.2),(b.1,b.2.1,b.2.2.1,b.2.2.2.1,b.2.2.2.2.1,b.2.2.2.2.2),(c.1,c.2.1,c.2.2.1,c.2.2.2.1,c.2.2.2.2.1,c.2.2.2.2.2)]))))
theorem acQ:bB Tryz.prog 29:=Tryz.call29
theorem PC (U:Nat) (r:(List (ByteArray×Int×Int×Int×Int×Int))) (h:ES U = some r):
  bD Tryz.prog 29 #[] [] (λx:V0=>x) (λx l=>Ar lG x r::l) (λ_ l=>l):=by
 refine bD.of Tryz.func29 Z Tryz.ntmps29 Z λc=>?_;refine aU<|aC Z<|aO<|aU<|eT h λa g h=>aK (zBg WY (Gm U a g) Z .nil) Z λk=>eT h λb i h=>aK (zBg WY (Gm U b i) Z .nil) Z λm=>eT h λd j h=>aK (zBg acS (Ky U d j) Z .nil) Z λn=>aK (cM (e:=lG) ([((a.1,a.2.1,a.2.2.1,a.2.2.2.1,a.2.2.2.2.1,a.2.2.2.2.2)),((b.1,b.2.1,b.2.2.1,b.2.2.2.1,b.2.2.2.2.1,b.2.2.2.2.2)),((d.1,d.2.1,d.2.2.1,d.2.2.2.1,d.2.2.2.2.1,d.2.2.2.2.2))]) [(0,Value.agg #[vS (a.1),vI (a.2.1),vI (a.2.2.1),vI (a.2.2.2.1),vI (a.2.2.2.2.1),vI (a.2.2.2.2.2)]),(1,Value.agg #[vS (b.1),vI (b.2.1),vI (b.2.2.1),vI (b.2.2.2.1),vI (b.2.2.2.2.1),vI (b.2.2.2.2.2)]),(2,Value.agg #[vS (d.1),vI (d.2.1),vI (d.2.2.1),vI (d.2.2.2.1),vI (d.2.2.2.2.1),vI (d.2.2.2.2.2)])] Z Z Z Z (XF (vS (a.1)) (vI (a.2.1)) (vI (a.2.2.1)) (vI (a.2.2.2.1)) (vI (a.2.2.2.2.1)) (vI (a.2.2.2.2.2)) (vS (b.1)) (vI (b.2.1)) (vI (b.2.2.1)) (vI (b.2.2.2.1)) (vI (b.2.2.2.2.1)) (vI (b.2.2.2.2.2)) (vS (d.1)) (vI (d.2.1)) (vI (d.2.2.1)) (vI (d.2.2.2.1)) (vI (d.2.2.2.2.1)) (vI (d.2.2.2.2.2))) Z Z Z) Z λf=>aC Z<|aO<|aR ?_;cases h;exact iS (f) Z Z (RV.tmp Z) (aZ.refl _) aI.nil
noncomputable def kH (a:Bool):Option Bool:=
 some (a)
noncomputable def rT (U:Nat) (b:Rp) (a:xF) (e:Unit):Option Bool:=
 Option.bind (DK U) λc=>(if c=true then(if b.2=(0:Int)then(if a.1=(0:Int)then(Option.bind (rX U ((b.1.1,b.1.2.1,b.1.2.2)) ((a.2.1,a.2.2.1,a.2.2.2))) λd=>(kH (d)))else(kH (false)))else(kH (false)))else(kH (false)))
noncomputable def lY (U:Nat) (f:Rp) (e:xF) (b c:Fw) (a:Int) (d:(Int)->Option Bool):Option Bool:=
 if a<(b.length:Int)then(ck (0<=a/\a<(b.length:Int)) (ck (0<=a/\a<(c.length:Int)) (if(((at' b a).1),((at' b a).2.1),((at' b a).2.2))≠(((at' c a).1),((at' c a).2.1),((at' c a).2.2))then(some (false))else(d (wI .i64 (a+(1:Int)))))))else(rT U f e (()))
noncomputable def rS (U:Nat) (f:Int) (c:Fy) (e:Rp) (d:xF):Option Bool:=
 Option.bind (kX U ((c.1,c.2)) f) λa=>(Option.bind (kW U ((c.1,c.2)) f) λb=>(if(a.length:Int)≠(b.length:Int)then(some (false))else(bJ (lY U e d a b) U (0:Int))))
noncomputable def x_ (U:Nat) (l:kC) (m:Int) (c:Fy) (d:ByteArray×List (ByteArray×Int×Int×Int×Int×Int)×List (fL×List (Int×fL))) (j:List yI) (e:Int) (b:kJ):Option Bool:=
 Option.bind (mP U ((c.1,c.2)) l) λf=>(Option.bind (kX U ((c.1,c.2)) (wI .i64 ((1:Int)+e))) λg=>(ck ((f.length:Int)+(g.length:Int)<=1099511627) (Option.bind (BS U ((d.1,d.2.1,j)) ((c.1,c.2)) (wI .i64 ((1:Int)+e)) ((b.1,b.2.1,b.2.2)) (f++g)) λk=>(Option.bind (mP U ((c.1,c.2)) l) λh=>(Option.bind (kW U ((c.1,c.2)) (wI .i64 ((1:Int)+e))) λi=>(ck ((h.length:Int)+(i.length:Int)<=1099511627) (Option.bind (BR U ((d.1,d.2.1,j)) ((c.1,c.2)) (wI .i64 ((1:Int)+e)) ((b.1,b.2.1,b.2.2)) (h++i)) λa=>(rS U m c k (a.2,a.1.1,a.1.2.1,a.1.2.2)))))))))
noncomputable def zH (U:Nat) (b:AT) (f:Ko) (j:kC) (i:Int):Option Bool:=
 Option.bind (kR U ((b.1,b.2.1,b.2.2.1,b.2.2.2.1,b.2.2.2.2.1,b.2.2.2.2.2)) (5:Int)) λg=>(Option.bind (Br U) λk=>(Option.bind (sO U k) λc=>WL c.2.2 λh=>(Option.bind (eQ U i (3:Int)) λe=>(Option.bind (ES U) λd=>(Option.bind (nG U ((f.1,f.2.1,f.2.2.1,f.2.2.2)) ((g.1,g.2)) d (wI .i64 ((1:Int)+e))) λa=>(x_ U j i g c h e (a.1,a.2.1,a.2.2)))))))
theorem IR (U:Nat) {p0:AT} {p1:Ko} {p2:kC} {p3:Int} (O P Q I J K L v7:V0) (r:Bool) (h:zH U p0 p1 p2 p3=some r):
  bD Tryz.prog 5 #[Value.agg #[vI (p0.1),O,P,Q,vB (p0.2.2.2.2.1),vB (p0.2.2.2.2.2)],Value.agg #[I,J,K,L],v7,vI (p3)] [Sl aN O p0.2.1,Sl aN P p0.2.2.1,Sl aN Q p0.2.2.2.1,Sl aN I p1.1,Sl aN J p1.2.1,Sl aN K p1.2.2.1,Sl aN L p1.2.2.2,Sl cD v7 p2] (λx:Unit=>vB (r)) (λx l=>l) (λ_ l=>l):=by
 refine bD.of Tryz.func5 Z Tryz.ntmps5 Z λc=>?_;refine aU<|aK (aP.box (cs:=[vI (p0.1),O,P,Q,vB (p0.2.2.2.2.1),vB (p0.2.2.2.2.2)]) Z Z) Z λb1=>aK (aP.box (cs:=[I,J,K,L]) Z Z) Z λb2=>aC Z<|aO<|aU<|dM 1 Z<|eT h λv w4 h=>aK (zBg aeC (Ew U O P Q v w4) Z (iN [0,1,2] Z)) Z λf=>aK (aP.alloc (cs:=[cT,cT]) Z Z) Z λb6=>bF (Know.one ((cB (aF.res 1 Z) jA))) λa0=>bF (vM (fP (i:=2) (j:=3) Z Z cW)) λa1=>cG 0 (vs:=[f.1,f.2.1]) Z Z (gJ a0 (gJ a1 Z)) Z Z Z<|aO<|aU<|eT h λr9 a5 h=>aK (zBg acP (MN U r9 a5) Z .nil) Z λbi=>eT h λu a6 h=>aK (aP.call abX (KA U u a6) Z .nil (λ_ _=>rfl) (λ_ _=>rfl)) Z fun⟨g,k,F,av⟩=>?_;have h:=Vf h F av;refine aK (aP.alloc (cs:=[vS (ByteArray.mk #[]),cT,cT]) Z Z) Z λS=>bF (Know.one ((cA Z))) λao=>bF (Know.one ((mM Z))) λap=>cG 0 (vs:=[vS (u.1),g,k]) Z Z (gJ Z (gJ ao (gJ ap Z))) Z Z Z<|aO<|aU<|aA Z<|eT h λam a7 h=>aK (zBg Bc (g_ U am a7) Z .nil) Z λbj=>cP Z<|aC Z<|aO<|aL<|kU (B:=acj) (λq=>x_ U p2 p3 v u F am q=some r) (λq a=>[(2,v7),(3,vI (p3)),(9,vP b6),(10,vP S),(11,vI (wI .i64 ((1:Int)+am))),(12,vP a.1)]) (λq a=>[bL a.1 [a.2.1,a.2.2.2.1,a.2.2.2.2.2.1] 43,bL S [vS (u.1),g,k] 36,bL b6 [f.1,f.2.1] 31]) (λq a=>[S2 aX f.2.1 (List.zip f.2.2 v.2) v.2,Sl aN f.1 v.1,Sl aH g u.2.1,Sl aE k F,PF (Value.agg #[vS u.1,g,k]),Sl aN O p0.2.1,Sl aN P p0.2.2.1,Sl aN Q p0.2.2.2.1,Sl aN I p1.1,Sl aN J p1.2.1,Sl aN K p1.2.2.1,Sl aN L p1.2.2.2,Sl cD v7 p2,S2 aN a.2.1 a.2.2.1 q.1,S3 aN a.2.2.2.1 a.2.2.2.2.1 q.2.1,S4 aN a.2.2.2.2.2.1 a.2.2.2.2.2.2 q.2.2]) ?_ ?_
 ·have⟨r154,w155,h⟩:=bnd h;refine eT h λC ac h=>Ea [0,0,0,0,15,0,63] 6 [[0,1,3,2,4,5,6],[0,1,3,2,5,4,6],[0,1,3,5,2,4,6]] mixedOrders (by decide +kernel) (by decide +kernel) ?_;intro o ho;simp only[zAm,zB7,or_false]at ho;rcases ho with rfl|rfl|rfl
  all_goals
   iterate 6 first
    |refine aY (i:=0) Z (aZ.cons 5 Z .nil) .nil (gV 0 Z Z Z Z) aJ.z ?_
    |refine aY (i:=1) Z (aZ.cons 1 Z .nil) .nil (gV 0 Z Z Z Z) aJ.z ?_
    |refine zBi (i:=2) Z Z Z (zBg acQ (PC U r154 w155) Z .nil) Z (λy=>(by first|exact pX.h .nil .nil (mC [([2],[]),([6],[])] Z)|exact pX.h .nil .nil (mC [([3],[]),([7],[])] Z))) λy=>?_
    |refine aY (i:=3) Z .nil .nil (eO Z) aJ.z ?_
    |refine zBj (fQ 3 Z (cB (aF.res 0 Z) jA)) ?_
     refine zBj (sU [Ar bM.raw f.2.1 f.2.2,gN b_ f.2.2 v.2] [Ar lG y r154,bL S [vS (u.1),g,k] 36,bL b6 [f.1,f.2.1] 31,bL b2 [I,J,K,L] 26,bL b1 [vI (p0.1),O,P,Q,vB (p0.2.2.2.2.1),vB (p0.2.2.2.2.2)] 24] (aZ.ix [3,4,0,1,2,5,6] Z Z) (fP (i:=0) (j:=1) Z Z cW))<|zBj (fQ 0 Z (cB (aF.res 0 Z) nC))<|zBi (i:=4) Z Z Z (aP.call Sq (wJ U I J K L f.1 f.2.1 (List.zip f.2.2 v.2) y C ac) Z (iC.cons (zA0 (i:=9) Z) (iC.cons (zA0 (i:=10) Z) (iC.cons (zA0 (i:=11) Z) (iC.cons (zA0 (i:=12) Z) (iC.cons (zA0 (i:=2) Z) (iC.cons (zA0 (i:=1) Z) (fN 0 Z))))))) (λ_ _=>rfl) (λ_ _=>rfl)) Z (λp=>(mC [] Z)) λp=>?_
    |refine zBj (fQ 4 Z (cB (aF.res 0 Z) jA)) ?_
     refine zBj (sU [Ar bM.raw f.2.1 f.2.2,gN b_ f.2.2 v.2] [bL G [cT,cT,cT] 43,Ar lG y r154,bL S [vS (u.1),g,k] 36,bL b6 [f.1,f.2.1] 31,bL b2 [I,J,K,L] 26,bL b1 [vI (p0.1),O,P,Q,vB (p0.2.2.2.2.1),vB (p0.2.2.2.2.2)] 24] (aZ.ix [4,5,0,1,2,3,6,7] Z Z) (fP (i:=0) (j:=1) Z Z cW))<|zBj (fQ 1 Z (cB (aF.res 0 Z) nC))<|zBi (i:=4) Z Z Z (aP.call Sq (wJ U I J K L f.1 f.2.1 (List.zip f.2.2 v.2) y C ac) Z (iC.cons (zA0 (i:=9) Z) (iC.cons (zA0 (i:=10) Z) (iC.cons (zA0 (i:=11) Z) (iC.cons (zA0 (i:=12) Z) (iC.cons (zA0 (i:=2) Z) (iC.cons (zA0 (i:=1) Z) (fN 0 Z))))))) (λ_ _=>rfl) (λ_ _=>rfl)) Z (λp=>(mC [] Z)) λp=>?_
    |refine zBj (fQ 4 Z (cB (aF.res 0 Z) jA)) ?_
     refine zBj (sU [Ar bM.raw f.2.1 f.2.2,gN b_ f.2.2 v.2] [Ar lG y r154,bL G [cT,cT,cT] 43,bL S [vS (u.1),g,k] 36,bL b6 [f.1,f.2.1] 31,bL b2 [I,J,K,L] 26,bL b1 [vI (p0.1),O,P,Q,vB (p0.2.2.2.2.1),vB (p0.2.2.2.2.2)] 24] (aZ.ix [4,5,0,1,2,3,6,7] Z Z) (fP (i:=0) (j:=1) Z Z cW))<|zBj (fQ 0 Z (cB (aF.res 0 Z) nC))<|zBi (i:=4) Z Z Z (aP.call Sq (wJ U I J K L f.1 f.2.1 (List.zip f.2.2 v.2) y C ac) Z (iC.cons (zA0 (i:=9) Z) (iC.cons (zA0 (i:=10) Z) (iC.cons (zA0 (i:=11) Z) (iC.cons (zA0 (i:=12) Z) (iC.cons (zA0 (i:=2) Z) (iC.cons (zA0 (i:=1) Z) (fN 0 Z))))))) (λ_ _=>rfl) (λ_ _=>rfl)) Z (λp=>(mC [] Z)) λp=>?_
    |refine zBi (i:=5) Z Z Z (aP.alloc (cs:=[cT,cT,cT]) Z Z) Z (λG=>(by first|exact pX.h .nil .nil (mC [([2],[]),([3],[])] Z)|exact pX.h .nil .nil (mC [([3],[]),([7],[])] Z)|exact pX.h .nil .nil (mC [([2],[]),([6],[])] Z))) λG=>?_
   refine bP 6 Z Z<|bF (vM (cA Z)) λaj=>bF (vM (mM Z)) λak=>bF (vM (yP Z)) λal=>cG 0 (vs:=[p.1,p.2.2.1,p.2.2.2.2.1]) Z Z (gJ aj (gJ ak (gJ al Z))) Z Z Z<|aO ?_;exact cI (C.1,C.2.1,C.2.2) (G,p.1,p.2.1,p.2.2.1,p.2.2.2.1,p.2.2.2.2.1,p.2.2.2.2.2) h SF (aZ.ix [0,1,2] Z Z) (iN [4,5,6,7,8,9,10,11,12,13,14,15,16,0,1,2] Z)
 intro q a h;refine aL ?_;refine sW [0,0,3,0,0,31,63,127] 5 mixedOrders ?_;refine jD 2 Z<|aV Z<|eT h λY a8 h=>zBi Z Z Z (zBg WS (Gk U f.1 f.2.1 (List.zip f.2.2 v.2) v7 Y a8) Z (iN [1,0,12] Z)) Z (λbg=>(mC [] Z)) λbg=>aY Z (aZ.cons 3 Z .nil) .nil (gV 0 Z Z Z Z) (aJ.h (aZ.ix [2] Z Z) .nil aJ.z)<|gC Z (eO Z)<|bP 5 Z Z<|eT h λaa a9 h=>aK (zBg WU (Hy U f.1 f.2.1 (List.zip f.2.2 v.2) aa a9) Z (iN [1,0] Z)) Z λbk=>cU h λa2 h=>aK (dN 1 bZ Z Z Z (cB (aF.res 0 Z) bZ) Z Z Z Z a2 Z) Z λab=>aC Z<|aO<|aU<|dM 3 Z<|dM 4 Z<|aA Z<|dM 2 Z<|aA Z<|bW (fQ 1 Z (cB (aF.res 0 Z) bZ))<|eT h λs ba h=>aK (aP.call acO (Rm U g k f.1 f.2.1 (List.zip f.2.2 v.2) a.2.1 a.2.2.1 a.2.2.2.1 a.2.2.2.2.1 a.2.2.2.2.2.1 a.2.2.2.2.2.2 ab s ba) Z (iC.cons (zA0 (i:=3) Z) (iC.cons (zA0 (i:=4) Z) (iC.cons (zA0 (i:=5) Z) (iC.cons (zA0 (i:=2) Z) (iC.cons (zA0 (i:=1) Z) (iC.cons (zA0 (i:=14) Z) (iC.cons (zA0 (i:=15) Z) (iC.cons (zA0 (i:=16) Z) (fN 0 Z))))))))) (λ_ _=>rfl) (λ_ _=>rfl)) Z λe=>aA Z<|jJ Z<|jJ Z<|aK (aP.alloc (cs:=[cT,cT,cT]) Z Z) Z λN=>bF (vM (cA Z)) λaq=>bF (vM (mM Z)) λar=>bF (vM (yP Z)) λau=>cG 0 (vs:=[e.1,e.2.2.1,e.2.2.2.2.1]) Z Z (gJ aq (gJ ar (gJ au Z))) Z Z Z<|aC Z<|aO<|aL<|kU (B:=acj) (λn=>rS U p3 v s n=some r) (λn d=>[(3,vI (p3)),(9,vP b6),(14,vP N),(15,vI (s.2)),(16,vP d.1),(17,vI (n.1))]) (λn d=>[bL d.1 [d.2.1,d.2.2.2.1,d.2.2.2.2.2.1] 43,bL N [e.1,e.2.2.1,e.2.2.2.2.1] 43,bL b6 [f.1,f.2.1] 31]) (λn d=>[S2 aN e.1 e.2.1 s.1.1,S3 aN e.2.2.1 e.2.2.2.1 s.1.2.1,S4 aN e.2.2.2.2.1 e.2.2.2.2.2 s.1.2.2,Sl cD ab (Y++aa),S2 aX f.2.1 (List.zip f.2.2 v.2) v.2,Sl aN f.1 v.1,Sl aH g u.2.1,Sl aE k F,PF (Value.agg #[vS u.1,g,k]),Sl aN O p0.2.1,Sl aN P p0.2.2.1,Sl aN Q p0.2.2.2.1,Sl aN I p1.1,Sl aN J p1.2.1,Sl aN K p1.2.2.1,Sl aN L p1.2.2.2,Sl cD v7 p2,S2 aN a.2.1 a.2.2.1 q.1,S3 aN a.2.2.2.1 a.2.2.2.2.1 q.2.1,S4 aN a.2.2.2.2.2.1 a.2.2.2.2.2.2 q.2.2,S2 aN d.2.1 d.2.2.1 n.2.1,S3 aN d.2.2.2.1 d.2.2.2.2.1 n.2.2.1,S4 aN d.2.2.2.2.2.1 d.2.2.2.2.2.2 n.2.2.2]) ?_ ?_
 ·have⟨r93,w94,h⟩:=bnd h;refine eT h λa4 bf h=>cU h λH h=>eT h λA af h=>Ea [0,0,0,0,0,0,48,0,0,496,1008,2047,4095,8191,8191,0,49151,131071] 17 [[0,1,2,3,4,5,7,8,6,9,10,11,12,13,14,15,16,17],[0,1,2,3,4,5,7,8,6,9,10,15,11,12,13,14,16,17],[0,1,2,3,4,5,7,8,6,9,15,10,11,12,13,14,16,17],[0,1,2,3,4,5,7,8,6,15,9,10,11,12,13,14,16,17],[0,1,2,3,4,5,7,8,15,6,9,10,11,12,13,14,16,17]] mixedOrders (by decide +kernel) (by decide +kernel) ?_;intro o ho;simp only[zAm,zB7,or_false]at ho;rcases ho with rfl|rfl|rfl|rfl|rfl
  all_goals
   iterate 17 first
    |refine aY (i:=0) Z (aZ.cons 3 Z .nil) .nil (gV 0 Z Z Z Z) aJ.z ?_
    |refine aY (i:=1) Z (aZ.cons 4 Z .nil) .nil (gV 0 Z Z Z Z) aJ.z ?_
    |refine aY (i:=2) Z .nil .nil (eO Z) aJ.z ?_
    |refine aY (i:=3) Z (aZ.cons 2 Z .nil) .nil (gV 0 Z Z Z Z) aJ.z ?_
    |refine aY (i:=4) Z (aZ.cons 4 Z .nil) .nil (gV 0 Z Z Z Z) aJ.z ?_
    |refine aY (i:=5) Z .nil .nil (eO Z) aJ.z ?_
    |refine zBi (i:=6) Z Z Z (zBg WS (Gk U f.1 f.2.1 (List.zip f.2.2 v.2) v7 r93 w94) Z (iN [5,4,16] Z)) Z (λaz=>(by first|exact pX.h .nil .nil (mC [([5],[]),([3],[]),([5],[]),([4],[])] Z)|exact pX.h .nil .nil (mC [([6],[]),([4],[]),([6],[]),([5],[])] Z))) λaz=>?_
    |refine aY (i:=7) Z (aZ.cons 4 Z .nil) .nil (gV 0 Z Z Z Z) aJ.z ?_
    |refine aY (i:=8) Z .nil .nil (eO Z) aJ.z ?_
    |refine zBi (i:=9) Z Z Z (zBg WV (Hw U f.1 f.2.1 (List.zip f.2.2 v.2) a4 bf) Z (iN [5,4] Z)) Z (λaD=>(by first|exact pX.b Z (mC [([4],[]),([6],[]),([5],[])] Z)|exact pX.b Z (mC [([5],[]),([7],[]),([6],[])] Z))) λaD=>?_
    |first
      |refine zBi (i:=10) Z Z Z (dN 1 bZ Z Z Z (cB (aF.res 0 Z) bZ) Z Z Z Z H Z) Z (λw=>(mC [([4],[]),([6],[]),([5],[])] Z)) λw=>?_
      |refine zBi (i:=10) Z Z Z (dN 2 bZ Z Z Z (cB (aF.res 1 Z) bZ) Z Z Z Z H Z) Z (λw=>(mC [([5],[]),([7],[]),([6],[])] Z)) λw=>?_
      |refine zBi (i:=10) Z Z Z (dN 2 bZ Z Z Z (cB (aF.res 0 Z) bZ) Z Z Z Z H Z) Z (λw=>(mC [([5],[]),([7],[]),([6],[])] Z)) λw=>?_
      |refine zBi (i:=10) Z Z Z (dN 1 bZ Z Z Z (cB (aF.res 0 Z) bZ) Z Z Z Z H Z) Z (λw=>(mC [([5],[]),([7],[]),([6],[])] Z)) λw=>?_
    |refine zBj (fQ 1 Z (cB (aF.res 0 Z) bZ)) ?_
     refine zBi (i:=11) Z Z Z (aP.call WR (Kl U g k f.1 f.2.1 (List.zip f.2.2 v.2) a.2.1 a.2.2.1 a.2.2.2.1 a.2.2.2.2.1 a.2.2.2.2.2.1 a.2.2.2.2.2.2 w A af) Z (iC.cons (zA0 (i:=7) Z) (iC.cons (zA0 (i:=8) Z) (iC.cons (zA0 (i:=9) Z) (iC.cons (zA0 (i:=6) Z) (iC.cons (zA0 (i:=5) Z) (iC.cons (zA0 (i:=18) Z) (iC.cons (zA0 (i:=19) Z) (iC.cons (zA0 (i:=20) Z) (fN 0 Z))))))))) (λ_ _=>rfl) (λ_ _=>rfl)) Z (λm=>(mC [] Z)) λm=>?_
    |refine zBj (fQ 2 Z (cB (aF.res 0 Z) bZ)) ?_
     refine zBi (i:=11) Z Z Z (aP.call WR (Kl U g k f.1 f.2.1 (List.zip f.2.2 v.2) a.2.1 a.2.2.1 a.2.2.2.1 a.2.2.2.2.1 a.2.2.2.2.2.1 a.2.2.2.2.2.2 w A af) Z (iC.cons (zA0 (i:=7) Z) (iC.cons (zA0 (i:=8) Z) (iC.cons (zA0 (i:=9) Z) (iC.cons (zA0 (i:=6) Z) (iC.cons (zA0 (i:=5) Z) (iC.cons (zA0 (i:=18) Z) (iC.cons (zA0 (i:=19) Z) (iC.cons (zA0 (i:=20) Z) (fN 0 Z))))))))) (λ_ _=>rfl) (λ_ _=>rfl)) Z (λm=>(mC [] Z)) λm=>?_
    |refine aY (i:=12) Z .nil .nil (eO Z) (by first|exact aJ.b Z (EQ Z)|exact aJ.b Z PP|exact aJ.b Z PP|exact aJ.b Z PP|exact aJ.b Z PP) ?_
    |refine aY (i:=13) Z .nil .nil (qS Z Z) (by first|exact aJ.b Z (EQ Z)|exact aJ.b Z PP|exact aJ.b Z PP|exact aJ.b Z PP|exact aJ.b Z PP) ?_
    |refine aY (i:=14) Z .nil .nil (qS Z Z) (by first|exact aJ.b Z (EQ Z)|exact aJ.b Z PP|exact aJ.b Z PP|exact aJ.b Z PP|exact aJ.b Z PP) ?_
    |refine zBi (i:=15) Z Z Z (aP.alloc (cs:=[cT,cT,cT]) Z Z) Z (λae=>(by first|exact pX.h .nil .nil (mC [([6],[]),([6],[]),([4],[]),([6],[]),([5],[])] Z)|exact pX.h .nil .nil (mC [([7],[]),([7],[]),([5],[]),([7],[]),([6],[])] Z)|exact pX.h .nil .nil (mC [([6],[]),([6],[]),([4],[]),([6],[]),([5],[])] Z)|exact pX.h .nil .nil (mC [([5],[]),([5],[]),([3],[]),([5],[]),([4],[])] Z))) λae=>?_
    |refine a_ (vM (cA Z)) λT =>?_
     refine a_ (vM (mM Z)) λV=>a_ (vM (yP Z)) λW=>?_
     first
      |refine Ia (i:=16) Z Z Z (Hf 0 (vs:=[m.1,m.2.2.1,m.2.2.2.2.1]) Z Z (gJ T (gJ V (gJ W Z))) Z Z Z) (λad=>(mC [] Z)) λad=>?_
      |refine Ia (i:=16) Z Z Z (Hf 1 (vs:=[m.1,m.2.2.1,m.2.2.2.2.1]) Z Z (gJ T (gJ V (gJ W Z))) Z Z Z) (λad=>(mC [] Z)) λad=>?_
   refine bP 17 Z Z<|aC Z<|aO ?_;exact cI (A.2,A.1.1,A.1.2.1,A.1.2.2) (ae,m.1,m.2.1,m.2.2.1,m.2.2.2.1,m.2.2.2.2.1,m.2.2.2.2.2) h SF (by first|exact aZ.ix [0,2,6] Z Z|exact aZ.ix [1,2,6] Z Z) (iN [4,5,6,7,8,9,10,11,12,13,14,15,16,17,18,19,20,21,22,23,0,1,2] Z)
 intro n d h;refine aL ?_;refine sW [0,0,3,0,0,31,63,127] 5 mixedOrders ?_;refine jD 2 Z<|aV Z<|eT h λD bb h=>zBi Z Z Z (zBg WU (Hy U f.1 f.2.1 (List.zip f.2.2 v.2) D bb) Z (iN [5,4] Z)) Z (λan=>(mC [] Z)) λan=>aY Z (aZ.cons 3 Z .nil) .nil (gV 0 Z Z Z Z) (aJ.h (aZ.ix [2] Z Z) .nil aJ.z)<|gC Z (eO Z)<|bP 5 Z Z<|eT h λE bc h=>aK (zBg WV (Hw U f.1 f.2.1 (List.zip f.2.2 v.2) E bc) Z (iN [5,4] Z)) Z λaW=>aC Z<|aC Z<|aO<|aL<|aU<|aA Z<|aB (fE Z (cB (aF.res 1 Z) bZ) Z) Z<|aA Z<|aB (fE Z (cB (aF.res 0 Z) bZ) Z) Z<|k_ Z<|aO ?_;refine eN h Z (λh=>?_) λh=>?_
 ·refine aU<|aC Z<|aO<|aR<|aG ?_;cases h;exact nH Z
 refine cL<|aL<|kU (B:=Unit) (λR=>rT U s n R=some r) (λR ag=>[(14,vP N),(15,vI (s.2)),(16,vP d.1),(17,vI (n.1))]) (λR ag=>[bL d.1 [d.2.1,d.2.2.2.1,d.2.2.2.2.2.1] 43,bL N [e.1,e.2.2.1,e.2.2.2.2.1] 43]) (λR ag=>[S2 aN e.1 e.2.1 s.1.1,S3 aN e.2.2.1 e.2.2.2.1 s.1.2.1,S4 aN e.2.2.2.2.1 e.2.2.2.2.2 s.1.2.2,Sl cD ab (Y++aa),S2 aX f.2.1 (List.zip f.2.2 v.2) v.2,Sl aN f.1 v.1,Sl aH g u.2.1,Sl aE k F,PF (Value.agg #[vS u.1,g,k]),Sl aN O p0.2.1,Sl aN P p0.2.2.1,Sl aN Q p0.2.2.2.1,Sl aN I p1.1,Sl aN J p1.2.1,Sl aN K p1.2.2.1,Sl aN L p1.2.2.2,Sl cD v7 p2,S2 aN a.2.1 a.2.2.1 q.1,S3 aN a.2.2.2.1 a.2.2.2.2.1 q.2.1,S4 aN a.2.2.2.2.2.1 a.2.2.2.2.2.2 q.2.2,S2 aN d.2.1 d.2.2.1 n.2.1,S3 aN d.2.2.2.1 d.2.2.2.2.1 n.2.2.1,S4 aN d.2.2.2.2.2.1 d.2.2.2.2.2.2 n.2.2.2]) ?_ ?_
 ·refine aU<|aC Z<|aO<|aS<|oS (B:=Unit) (lY U s n D E) (λt ai=>[(14,vP N),(15,vI (s.2)),(16,vP d.1),(17,vI (n.1)),(18,an),(19,aW),(20,vI (t))]) (λt ai=>[Ar bS aW E,Ar bS an D,bL d.1 [d.2.1,d.2.2.2.1,d.2.2.2.2.2.1] 43,bL N [e.1,e.2.2.1,e.2.2.2.2.1] 43]) (λt ai=>[S2 aN e.1 e.2.1 s.1.1,S3 aN e.2.2.1 e.2.2.2.1 s.1.2.1,S4 aN e.2.2.2.2.1 e.2.2.2.2.2 s.1.2.2,Sl cD ab (Y++aa),S2 aX f.2.1 (List.zip f.2.2 v.2) v.2,Sl aN f.1 v.1,Sl aH g u.2.1,Sl aE k F,PF (Value.agg #[vS u.1,g,k]),Sl aN O p0.2.1,Sl aN P p0.2.2.1,Sl aN Q p0.2.2.2.1,Sl aN I p1.1,Sl aN J p1.2.1,Sl aN K p1.2.2.1,Sl aN L p1.2.2.2,Sl cD v7 p2,S2 aN a.2.1 a.2.2.1 q.1,S3 aN a.2.2.2.1 a.2.2.2.2.1 q.2.1,S4 aN a.2.2.2.2.2.1 a.2.2.2.2.2.2 q.2.2,S2 aN d.2.1 d.2.2.1 n.2.1,S3 aN d.2.2.2.1 d.2.2.2.2.1 n.2.2.1,S4 aN d.2.2.2.2.2.1 d.2.2.2.2.2.2 n.2.2.2]) (0:Int) () h SF (aZ.ix [0,1,2,3] Z Z) (aI.refl _ _) ?_;intro bh t ai h;refine aL<|aU<|aA Z<|aA Z<|aB (fE Z (cB (aF.res 1 Z) bZ) Z) Z<|cV Z<|aO ?_;refine eN h Z (λh=>?_) λh=>?_
  ·refine cL<|aL<|aS<|aL ?_;refine sW [0,0,3,7,0,0,48,112,255] 8 mixedOrders ?_;refine aV Z<|aV Z<|cU h λaw h=>aY Z (aZ.cons 1 Z .nil) .nil (bE Z Z (cB (aF.res 0 Z) bZ) Z Z aw) aJ.z<|aY Z (aZ.cons 1 Z .nil) .nil (gU (cs:=[vI ((at' D t).1),vI ((at' D t).2.1),vI ((at' D t).2.2)]) Z (cB (aF.res 0 Z) bZ) bZ Z Z Z Z aw) aJ.z<|aV Z<|aV Z<|cU h λax h=>aY Z (aZ.cons 0 Z .nil) .nil (bE Z Z (cB (aF.res 0 Z) bZ) Z Z ax) aJ.z<|aY Z (aZ.cons 0 Z .nil) .nil (gU (cs:=[vI ((at' E t).1),vI ((at' E t).2.1),vI ((at' E t).2.2)]) Z (cB (aF.res 0 Z) bZ) bZ Z Z Z Z ax) aJ.z<|bP 8 Z Z<|aB (acE Z Z (aaO (((at' D t).1),((at' D t).2.1),((at' D t).2.2)) (((at' E t).1),((at' E t).2.1),((at' E t).2.2)) _ _)) Z<|aO ?_;refine eN h Z (λh=>?_) λh=>?_
   ·refine aU<|aC Z<|aO<|aR<|bI<|aG<|aG<|bI<|aG ?_;cases h;exact nH Z
   refine eM<|lL<|aQ<|aA Z<|cP Z<|aC Z<|aO ?_;exact xY (wI .i64 (t+(1:Int))) () h SF Z
  refine fG ?_;exact cI () (()) h SF (aZ.ix [2,3] Z Z) (aI.refl _ _)
 intro R ag h;refine aL<|kU (B:=Unit) (λM=>kH M=some r) (λM ah=>[(8,vB (M))]) (λM ah=>[]) (λM ah=>[S2 aN e.1 e.2.1 s.1.1,S3 aN e.2.2.1 e.2.2.2.1 s.1.2.1,S4 aN e.2.2.2.2.1 e.2.2.2.2.2 s.1.2.2,Sl cD ab (Y++aa),S2 aX f.2.1 (List.zip f.2.2 v.2) v.2,Sl aN f.1 v.1,Sl aH g u.2.1,Sl aE k F,PF (Value.agg #[vS u.1,g,k]),Sl aN O p0.2.1,Sl aN P p0.2.2.1,Sl aN Q p0.2.2.2.1,Sl aN I p1.1,Sl aN J p1.2.1,Sl aN K p1.2.2.1,Sl aN L p1.2.2.2,Sl cD v7 p2,S2 aN a.2.1 a.2.2.1 q.1,S3 aN a.2.2.2.1 a.2.2.2.2.1 q.2.1,S4 aN a.2.2.2.2.2.1 a.2.2.2.2.2.2 q.2.2,S2 aN d.2.1 d.2.2.1 n.2.1,S3 aN d.2.2.2.1 d.2.2.2.2.1 n.2.2.1,S4 aN d.2.2.2.2.2.1 d.2.2.2.2.2.2 n.2.2.2]) ?_ ?_
 ·refine aQ<|eT h λa3 bd h=>aK (zBg WP (MM U a3 bd) Z .nil) Z λbl=>aA Z ?_;refine tD (by exact rfl) (by exact rfl) (λX=>?_) (λX=>?_)
  ·have h:=Iv X h;refine dC Z<|aT Z (JV Z Z) Z<|dR Z<|aA Z ?_;refine BZ h Z (λ_ h=>?_) λ_ h=>?_
   ·refine dC Z<|aT Z (JV Z Z) Z<|dR Z<|aA Z ?_;refine BZ h Z (λ_ h=>?_) λ_ h=>?_
    ·refine aT Z (gV 1 Z Z Z Z) Z<|aT Z (gV 0 Z Z Z Z) Z<|eT h λay be h=>qH Z (zBg acL (PD U e.1 e.2.1 e.2.2.1 e.2.2.2.1 e.2.2.2.2.1 e.2.2.2.2.2 d.2.1 d.2.2.1 d.2.2.2.1 d.2.2.2.2.1 d.2.2.2.2.2.1 d.2.2.2.2.2.2 ay be) Z (iN [0,1,2,20,21,22] Z)) Z λbm=>dR Z<|aC Z<|aO ?_;exact cI (ay) () h SF .nil (aI.refl _ _)
    refine aM Z<|aM Z<|aM Z<|eV Z<|aC Z<|aO ?_;exact cI (false) () h SF .nil (aI.refl _ _)
   refine aM Z<|aM Z<|eV Z<|aA Z<|aM Z<|aM Z<|aM Z<|eV Z<|aC Z<|aO ?_;exact cI (false) () h SF .nil (aI.refl _ _)
  have h:=FA X h;refine aM Z<|aM Z<|eV Z<|aA Z<|aM Z<|aM Z<|eV Z<|aA Z<|aM Z<|aM Z<|aM Z<|eV Z<|aC Z<|aO ?_;exact cI (false) () h SF .nil (aI.refl _ _)
 intro M ah h;unfold kH at h;refine aR ?_;cases h;exact iZ Z
end Go.Proofs.YtflciafboapaaaaGreat
namespace Go.Proofs.YtflciafboapaaaaGreat
open Go Go.Sx
def AO (z:List yI):Fz:=(ByteArray.mk #[108,101,97,100,101,114],AG,z)
theorem afl:adQ RE=true:=by decide +kernel
theorem Kj {g:GR} (c:VG g) {n k cap:Nat} (e:g.2.length<=n) (f:n*((n - 1)*(2*cap+1))+n<=k):(mB g cap).length<=k:=by
 have a:=Tp c cap;have b:(g.2.length - 1)*(2*cap+1)<=(n - 1)*(2*cap+1):=zAr _ (by omega);have d:=Nat.mul_le_mul e b;omega
theorem YG (x:U_) (r:List Int×List Int×List Int×bQ) (l:kC) (a:Int):zH 1000 x r l a=some true:=by
 obtain⟨g,M,w,p,U⟩:=OG x 5 (by omega) (by omega);have c:VG g:=w.vg;have A:kR 1000 (x.1,x.2.1,x.2.2.1,x.2.2.2.1,x.2.2.2.2.1,x.2.2.2.2.2) 5=some g:=M;have S:=Int.emod_nonneg a (b:=3) (by omega);have T:=zB8 a (b:=3) (by omega);obtain⟨n,N⟩:∃n:Nat,1+a%3=(n:Int):=⟨(1+a%3).toNat,by omega⟩
 obtain⟨y,R,D⟩:=QT c (vars:=AG) (by decide) (Xl c) r (cap:=n) (by omega);obtain⟨o,G,O,B⟩:=Vs c l;have P:=Kj (k:=145) (cap:=n) c p (by have:5*((5 - 1)*(2*n+1))<=5*(4*7):=Nat.mul_le_mul_left _ (Nat.mul_le_mul_left _ (by omega));omega);unfold zH;rw[bG A,bG (show Br 1000=some HQ from rfl),bG (Ys 1000)];refine ZQ λz v=> ?_;have v:(AO z).2.2.map AE=FQ RE:=v;have u:jR g (AO z).2.1:=afA c;have t:pA (AO z).2.1.length RE=true:=aby;have J:JS (AO z) g RE:=Yx c u t afl;have H:wI .i64 (1+a%3)=(n:Int):=by rw[wr (by omega) (by omega),N]
 rw[bG (nX a 3 (by omega) (by omega)),bG (show ES 1000=some AG from rfl),H,bG (show nG 1000 (r.1,r.2.1,r.2.2.1,r.2.2.2) (g.1,g.2) AG (n:Int)=some y from R)];have C:∀e∈mB g n,HL g e=true:=VU c n;have s:LZ g AG (Ho (eB (AO z) g) AG RE) (n:Int) y (o++mB g n)=(perfs g (Ho (eB (AO z) g) AG RE) n y (o++mB g n),0):=abz (by omega) (by omega) D λe L=>(zB0.1 L).elim (B e) (C e);have j:(o++mB g n).length<=900:=by rw[zA4];omega
 unfold x_;rw[H,bG (show mP 1000 (g.1,g.2) l=some o from G),bG (show kX 1000 (g.1,g.2) (n:Int)=some (mB g n)from Rj c (by omega) (by omega)),cF (by omega)];refine(bG (show BS 1000 _ _ _ _ _=_ from adV c u v t (n:Int) y j)).trans ?_;rw[bG (show mP 1000 (g.1,g.2) l=some o from G),bG (show kW 1000 (g.1,g.2) (n:Int)=some (mB g n)from Ri c (by omega) (by omega)),cF (by omega)];refine(bG (show BR 1000 _ _ _ _ _=_ from adU c u J v t (n:Int) y j)).trans ?_;have i:=VR (y:=y) (cap:=(n:Int)) (l:=o++mB g n) c u t;have d:LZ g (AO z).2.1 (Ho (eB (AO z) g) (AO z).2.1 RE) (n:Int) y (o++mB g n)=(perfs g (Ho (eB (AO z) g) AG RE) n y (o++mB g n),0):=s;rw[d]at i;have E:rT 1000 (perfs g (Ho (eB (AO z) g) AG RE) n y (o++mB g n),0) (0,perfs g (Ho (eB (AO z) g) AG RE) n y (o++mB g n)) ()=some true:=by
  unfold rT kH;rw[bG XZ,if_pos Z,if_pos Z,if_pos Z];exact bG (show rX 1000 _ _=some true from i)
 have f:∀q:kC,q.length<900->bJ (lY 1000 (perfs g (Ho (eB (AO z) g) AG RE) n y (o++mB g n),0) (0,perfs g (Ho (eB (AO z) g) AG RE) n y (o++mB g n)) q q) 1000 (0:Int)=some true:=λq W=>
  dJ (step:=lY 1000 (perfs g (Ho (eB (AO z) g) AG RE) n y (o++mB g n),0) (0,perfs g (Ho (eB (AO z) g) AG RE) n y (o++mB g n)) q q) (K:=some true) q.length (λk=>(k:Int)) (λk I V=>by
   unfold lY;rw[if_pos (by omega),cF (by omega),cF (by omega),if_neg (λh=>h Z),dD (by omega)]) (λI=>by
   unfold lY;rw[if_neg (by omega)];exact E) 1000 (by omega)
 rw[d];show rS 1000 a g (perfs g (Ho (eB (AO z) g) AG RE) n y (o++mB g n),0) (0,perfs g (Ho (eB (AO z) g) AG RE) n y (o++mB g n))=some true;unfold rS;by_cases F:1<=a/\a<=8
 ·obtain⟨m,rfl⟩:∃m:Nat,a=(m:Int):=⟨a.toNat,by omega⟩
  have Q:=Kj (k:=345) (cap:=m) c p (by have:5*((5 - 1)*(2*m+1))<=5*(4*17):=Nat.mul_le_mul_left _ (Nat.mul_le_mul_left _ (by omega));omega);rw[bG (show kX 1000 (g.1,g.2) (m:Int)=some (mB g m)from Rj c (by omega) (by omega)),bG (show kW 1000 (g.1,g.2) (m:Int)=some (mB g m)from Ri c (by omega) (by omega)),if_neg (λh=>h Z)];exact f _ (by omega)
 ·rw[bG (show kX 1000 (g.1,g.2) a=_ from(UD c F).1),bG (show kW 1000 (g.1,g.2) a=_ from(UD c F).2),if_neg (λh=>h Z)];exact f _ (by simp)
end Go.Proofs.YtflciafboapaaaaGreat
namespace Go.Sx
open Go.RowKit Go.ChangeShapes Go.WideShapes Go.ChangeAt Go.Proofs Go.Joins Go.Deep
section
variable {H:Type} {enc:TypeId×V0->H} {P:Program} {w:World} {base:Nat} {spare:Nat->Bool} {held:Bool}
theorem MH {a:Type} (l:List a) (d:a):l=(List.range l.length).map λi=>l.getD i d:=by
 apply List.ext_getElem?;intro i;by_cases h:i<l.length
 ·simp[h]
 ·simp[h]
theorem QN {r:Reach} {x:Nat} {t:TypeId} {b:Array Field} {v:V0} {d:DataW H} {p:List MemPlace} (s:P.underlying t=some (.struct b)) (c:oneCellFields P b=true) (z:P.cellsOf t=b.size)
  (E:Value.okWide P w r x t v) (h:DataW.Trod enc P w base spare held t v d p):
  ∃(V:Nat->V0) (Y:Nat->DataW H×List MemPlace) (n:Nat),v = .agg ((List.range b.size).map V).toArray/\∀(i:Nat) (f:Field),b[i]? = some f->DataW.trod enc P w base spare held n f.type [V i]=some (Y i):=by
 obtain⟨a,rfl,l⟩:=okWide_struct s E;obtain⟨m,A⟩:=h;obtain⟨u,n,_,_,_,q,B⟩:=DataW.trod_struct s A;refine⟨λi=>a.toList.getD i undef,λi=>u.getD i (.nil,[]),n,?_,λi f j=> ?_⟩
 ·congr 1;apply Array.toList_inj.1;show a.toList=(List.range b.size).map λi=>a.toList.getD i undef;have y:b.size=a.toList.length:=by rw[<-z,<-l];rfl
  rw[y];exact MH a.toList undef
 ·have D:i<b.size:=(zAj.1 j).1;obtain⟨o,k⟩:=hone_of c i f j;have g:=B i f j;have e:(Value.cells (.agg a)).toList=a.toList:=rfl;have C:i<a.toList.length:=by rw[Array.length_toList];omega
  rw[o,k,e,take1_drop _ _ undef C]at g;rw[g];have F:i<u.length:=by omega
  simp[F]
theorem X_ {k:IntKind} {e:TypeId} (a:P.underlying e=some (.int k)) {n:Nat} {v:V0} {x:DataW H×List MemPlace} (h:DataW.trod enc P w base spare held n e [v]=some x):∃y:Int,v = .int k y:=by
 obtain⟨y,b,_,_⟩:=DataW.trod_int a h;exact⟨y,by simpa using b⟩
theorem NF {e:TypeId} (a:P.underlying e=some .bool) {n:Nat} {v:V0} {x:DataW H×List MemPlace} (h:DataW.trod enc P w base spare held n e [v]=some x):∃y:Bool,v = .bool y:=by
 obtain⟨y,b,_⟩:=DataW.trod_bool a h;exact⟨y,by simpa using b⟩
end
end Go.Sx