/- Models and proofs. Conditions: none. -/
import Derived.Test.YtahgemjmgopleaaGreatDoorZCTe8
import Derived.Test.YtahgemjmgopleaaGreatDoorZCTe5
import Derived.Test.YtahgemjmgopleaaGreatDoorZCTe7
import Derived.Test.YtahgemjmgopleaaGreatDoorZCTe6
import Derived.Test.YtahgemjmgopleaaGreatDoorZCTe2
set_option linter.unusedVariables false
set_option linter.unusedSimpArgs false
set_option maxHeartbeats 4000000
set_option maxRecDepth 20000
namespace Go.Proofs.YtahgemjmgopleaaGreatDoor
open Go.Sx
def Gd (U:Nat) (c:eY) (d:Int) (a:aX):Option (Int):=
 Option.bind (sE U ((at' c d).1) a) λb=>(some (b))
def BJ (U:Nat) (d:cW) (h:bO) (e:Int) (f:eY) (g:Int) (i:Fv->bO->Int->Int->eY->Int->Option (Int)) (a:aX×Int) (b:(aX×Int)->Option (Int)):Option (Int):=
 ck (0<=e∧e<(d.2.length:Int)) (if a.2<((at' d.2 e).length:Int)then(Option.bind (i ((d.1,d.2)) h e a.2 f (wI .i64 (g+(1:Int)))) λc=>(ck ((a.1.length:Int)+(List.length ([c]):Int)<=1099511627) (b ((a.1++[c]),(wI .i64 (a.2+(1:Int)))))))else(Gd U f g (a.1)))
def kM (g:Fv->bO->Int->Int->eY->Int->Option (Int)) (U:Nat) (c:cW) (d:bO) (e:Int) (f:Int) (a:eY) (b:Int):Option (Int):=
 ck (0<=b∧b<(a.length:Int)) (Option.bind (jK U ((at' a b).1)) λi=>(if i=(0:Int)then(ck (0<=b∧b<(a.length:Int)) (Option.bind (Cj U ((c.1,c.2)) d e f ((((at' a b).1),((at' a b).2)))) λu=>(some (u))))else(if i=(1:Int)then(Option.bind (tM U ((at' a b).1)) λh=>(if h=true then(bK (BJ U c d e a b g) U (([]:aX),(0:Int)))else(Option.bind (g ((c.1,c.2)) d e f a (wI .i64 (b+(1:Int)))) λj=>(Option.bind (DC U ((at' a b).1) j) λk=>(some (k.1))))))else(if i=(2:Int)then(Option.bind (g ((c.1,c.2)) d e f a (wI .i64 (b+(1:Int)))) λl=>(Option.bind (sP U a b (1:Int)) λm=>(Option.bind (g ((c.1,c.2)) d e f a m) λn=>(Option.bind (CK U ((at' a b).1) l n) λo=>(some (o.1))))))else(Option.bind (g ((c.1,c.2)) d e f a (wI .i64 (b+(1:Int)))) λp=>(if p≠(0:Int)then(Option.bind (sP U a b (1:Int)) λq=>(Option.bind (g ((c.1,c.2)) d e f a q) λr=>(some (r))))else(Option.bind (sP U a b (2:Int)) λs=>(Option.bind (g ((c.1,c.2)) d e f a s) λt=>(some (t))))))))))
def dY:Nat->Fv->bO->Int->Int->eY->Int->Option (Int)
 |0,_,_,_,_,_,_=>none
 |U+1,p0,p1,p2,p3,p4,p5=>kM (dY U) U p0 p1 p2 p3 p4 p5
theorem Cf:aV Tryz.prog 126:=Tryz.call126
theorem Qa (P:Fv->bO->Int->Int->eY->Int->Option (Int)) (U:Nat) (d:∀{u:cW} {w:bO} {v:Int} {y:Int} {o:eY} {j:Int} (f:Value)  (g:Value)  (q:iX)  (i:Value)  (s:lU)  (a:Value) (r:Int),P u w v y o j=some r->aW Tryz.prog 126 #[Value.agg #[f,g],i,vI (v),vI (y),a,vI (j)] [Sl bX f u.1,S2 bD g q u.2,S2 bX i s w,Sl bD a o] (λx:Unit=>vI (r)) (λx l=>l) (λ_ l=>l)) {u:cW} {w:bO} {v:Int} {y:Int} {o:eY} {j:Int} (f:Value)  (g:Value)  (q:iX)  (i:Value)  (s:lU)  (a:Value) (r:Int) (h:kM P U u w v y o j=some r):
  aW Tryz.prog 126 #[Value.agg #[f,g],i,vI (v),vI (y),a,vI (j)] [Sl bX f u.1,S2 bD g q u.2,S2 bX i s w,Sl bD a o] (λx:Unit=>vI (r)) (λx l=>l) (λ_ l=>l):=by
 refine aW.of Tryz.func126 Z Tryz.ntmps126 Z λc=>?_;refine aR<|aH (aN.box (cs:=[f,g]) Z Z) Z λb1=>aB Z<|aL<|aR<|aA Z<|aA Z<|dW h λj2 h=>aC (a_ Z Z (aD.fact 3 Z) Z Z j2) Z<|aC (dX Z Z Z Z Z) Z<|aC (e_ Z (aD.fact 3 Z) Z Z Z jS j2) Z<|aB Z<|aL<|aK<|aR<|aA Z<|dZ h λr3 w4 h=>aH (zBg OY (DT U  r3 w4) Z .nil) Z λx5=>aL<|aS<|aR<|bS Z<|aB Z<|aL ?_;refine d_ h Z (λh=>?_) λh=>?_
 ·refine aK ?_;refine JR.start [0,0,0,0,0,0,48,112,255,511] 8 mixedOrders (by decide +kernel) ?_;refine zBj (by exact rfl) ?_;refine gK 0 Z<|aY Z<|aY Z<|aY Z<|aY Z<|aY Z<|dW h λj7 h=>bM Z .nil (kH 3 Z) (a_ Z Z (aD.fact 0 Z) Z Z j7) aU.z<|bM Z .nil (kH 3 Z) (jT (cs:=[vI ((at' o j).1),vI ((at' o j).2)]) Z (aD.fact 0 Z) cG Z Z Z Z j7) aU.z<|bP 8 Z Z<|dZ h λr8 w9 h=>aH (zBg abD (Qd U f g q i s r8 w9) Z (jP [0,1,2] Z)) Z λap=>aB Z<|aL<|aQ<|bG<|aI ?_;cases h;exact oA Z
 refine aR<|bS Z<|aB Z<|aL ?_;refine d_ h Z (λh=>?_) λh=>?_
 ·refine aK<|aR<|aA Z<|dZ h λC R h=>aH (zBg abE (I_ U  C R) Z .nil) Z λaq=>aL ?_;refine tT h Z (λ_ h=>?_) λ_ h=>?_
  ·refine aR<|aB Z<|aL<|aK<|CM (B:=Value) (λk=>Gd U o j k=some r) (λk m=>[(13,vI ((at' o j).1)),(14,m)]) (λk m=>[Ar cS m k]) ?_ ?_
   ·refine aR<|aB Z<|aL<|aS<|gF (cK cS)<|eB (B:=Value) (BJ U u w v o j P) (λb n=>[(1,i),(2,vI (v)),(4,a),(5,vI (j)),(6,vP b1),(13,vI ((at' o j).1)),(14,n),(15,vI (b.2))]) (λb n=>[cJ b1 [f,g] 29,Ar cS n b.1]) (([]:aX),(0:Int)) (lL) h SF (bA.ix [1,0] Z Z) ?_;intro an b n h;refine aK<|aR<|aA Z<|bN Z<|dL 0 Z<|aA Z<|dW h λt h=>aC (cY Z Z (aD.fact 1 Z) Z Z t) Z<|aC (cL Z (aD.fact 1 Z) Z Z t) Z<|aC (fX Z (zBi (aD.fact 1 Z) t.1 t.2) Z) Z<|cZ Z<|aL ?_;refine d_ h Z (λh=>?_) λh=>?_
    ·refine cE<|aK<|aS<|aO<|aA Z<|cM 0 Z<|aA Z<|aA Z<|aA Z<|aA Z<|aA Z<|cD Z<|dZ h λp T h=>aH (zBg Cf (d f g q i s a p T) Z (jP [0,1,2,3] Z)) Z λau=>aH (bT (e:=cS) ([p]) [(0,vI (p))] Z Z Z Z (eV (vI (p)) Z) Z Z Z) Z λao=>dW h λA h=>aH (bH 2 dD Z Z Z (aT (aD.res 0 Z) dD) Z Z Z Z A Z) Z λQ=>aB Z<|eN<|jH<|aO<|aA Z<|cD Z<|aB Z<|aL ?_;exact nC ((b.1++[p]),(wI .i64 (b.2+(1:Int)))) (Q) h SF (bA.ix [1,2] Z Z) (aG.refl _ _)
    refine eS ?_;exact bU (b.1) (n) h SF (bA.ix [1] Z Z) (aG.refl _ _)
   intro k m h;refine aR<|aA Z<|aA Z<|dZ h λD S h=>aH (zBg abF (Qc U m D S) Z (aG.cons (aT (aD.res 0 Z) dD) .nil)) Z λar=>aB Z<|aL<|aQ<|aI<|bG<|aI ?_;cases h;exact oA Z
  refine cE<|aR<|aA Z<|cM 0 Z<|aA Z<|aA Z<|aA Z<|aA Z<|aA Z<|cD Z<|dZ h λE V h=>aH (zBg Cf (d f g q i s a E V) Z (jP [0,1,2,3] Z)) Z λav=>dZ h λF W h=>aH (zBg abG (Ns U  F W) Z .nil) Z λaw=>aA Z<|eQ Z<|eQ Z<|aB Z<|aB Z<|aL<|aR<|aA Z<|aB Z<|aL<|aQ<|bG<|aI ?_;cases h;exact oA Z
 refine aR<|bS Z<|aB Z<|aL ?_;refine d_ h Z (λh=>?_) λh=>?_
 ·refine aK ?_;refine JR.start [0,0,0,0,0,0,0,64,254,0,0,0,0,0,0,0,49662,131070,262143,524287,1048575,1048575,2097151,8388607] 23 mixedOrders (by decide +kernel) ?_;refine zBj (by exact rfl) ?_;refine aY Z<|gK 0 Z<|aY Z<|aY Z<|aY Z<|aY Z<|aY Z<|iY Z (yR Z Z)<|dZ h λG X h=>zBh Z Z Z (zBg Cf (d f g q i s a G X) Z (jP [0,1,2,3] Z)) Z (λah=>(kG [] Z)) λah=>bM Z (bA.cons 0 Z .nil) .nil (lN 0 Z Z Z Z) (aU.h (bA.ix [0] Z Z) .nil aU.z)<|iY Z (oC Z)<|iY Z (oC Z)<|iY Z (oC Z)<|iY Z (oC Z)<|iY Z (oC Z)<|iY Z (oC Z)<|dZ h λH Y h=>zBh Z Z Z (zBg OZ (BX U a H Y) Z (jP [3] Z)) Z (λai=>(kG [([0],[])] Z)) λai=>dZ h λI aa h=>zBh Z Z Z (zBg Cf (d f g q i s a I aa) Z (jP [0,1,2,3] Z)) Z (λaj=>(kG [] Z)) λaj=>dZ h λJ ab h=>zBh Z Z Z (zBg abH (MB U  J ab) Z .nil) Z (λak=>(kG [] Z)) λak=>iY Z (oC Z)<|iY Z (AL Z Z)<|iY Z (AL Z Z)<|iY Z (wS Z)<|bP 23 Z Z<|aB Z<|aL<|aR<|aA Z<|aB Z<|aL<|aQ<|bG<|aI ?_;cases h;exact oA Z
 refine dM<|jH<|aK<|aR<|cM 0 Z<|aA Z<|aA Z<|aA Z<|aA Z<|aA Z<|cD Z<|dZ h λK ac h=>aH (zBg Cf (d f g q i s a K ac) Z (jP [0,1,2,3] Z)) Z λax=>jQ Z<|aL ?_;refine d_ h Z (λh=>?_) λh=>?_
 ·refine aK ?_;refine JR.start [0,0,0,0,0,0,0,96,255,511] 8 mixedOrders (by decide +kernel) ?_;refine zBj (by exact rfl) ?_;refine gK 0 Z<|aY Z<|aY Z<|aY Z<|aY Z<|aY Z<|aY Z<|dZ h λL ad h=>zBh Z Z Z (zBg OZ (BX U a L ad) Z (jP [3] Z)) Z (λal=>(kG [([0],[])] Z)) λal=>bP 8 Z Z<|dZ h λM ae h=>aH (zBg Cf (d f g q i s a M ae) Z (jP [0,1,2,3] Z)) Z λay=>aB Z<|aL<|aQ<|aI ?_;cases h;exact oA Z
 refine cE<|aK ?_;refine JR.start [0,0,0,0,0,0,0,96,255,511] 8 mixedOrders (by decide +kernel) ?_;refine zBj (by exact rfl) ?_;refine gK 0 Z<|aY Z<|aY Z<|aY Z<|aY Z<|aY Z<|aY Z<|dZ h λN af h=>zBh Z Z Z (zBg OZ (BX U a N af) Z (jP [3] Z)) Z (λam=>(kG [([0],[])] Z)) λam=>bP 8 Z Z<|dZ h λO ag h=>aH (zBg Cf (d f g q i s a O ag) Z (jP [0,1,2,3] Z)) Z λaz=>aB Z<|aL<|aQ ?_;cases h;exact oA Z
theorem MA (U:Nat):∀{e:cW} {i:bO} {j:Int} {k:Int} {m:eY} {n:Int} (a:Value)  (b:Value)  (f:iX)  (c:Value)  (g:lU)  (d:Value) (r:Int),dY U e i j k m n=some r->
  aW Tryz.prog 126 #[Value.agg #[a,b],c,vI (j),vI (k),d,vI (n)] [Sl bX a e.1,S2 bD b f e.2,S2 bX c g i,Sl bD d m] (λx:Unit=>vI (r)) (λx l=>l) (λ_ l=>l):=by
 induction U with
 |zero=>intros;rename_i h;cases h
 |succ U o=>exact λa b f c g d r h=>Qa (dY U) U o a b f c g d r h
end Go.Proofs.YtahgemjmgopleaaGreatDoor
namespace Go.Proofs.YtahgemjmgopleaaGreatDoor
open Go Go.Sx
def M_ (x:Int):Prop:= -1073741824<=x∧x<=1073741824
theorem PG (f:Nat) {x:Int} (h:M_ x):oO f x=some true:=by
 unfold oO sR;rw[if_pos h.1,zA6 h.2]
theorem MP (f:Nat) (b:Bool):fH f b=some (SQ b):=by cases b<;>rfl
theorem GB (b:Bool):M_ (SQ b):=by cases b<;>exact⟨by decide,by decide⟩
theorem Vv (f:Nat) (l:aX) (x:Int) (h:l.length<f) (m:l.length<=1000):uK f l x=some (decide (x∈l)):=by
 unfold uK;have a:=TU (step:=pO l x) (K:=some false) (bad:=some true) l.length (λk=>at' l (k:Int)≠x) (λk=>(k:Int)) (λk g b d=>by
  unfold pO;rw[if_pos (by omega),cO (by omega),if_neg d,dH (by omega)]) (λk g b d=>by
  unfold pO;rw[if_pos (by omega),cO (by omega),if_pos (zAy.1 d)]) (λg=>by
  unfold pO yC;rw[if_neg (by omega)]) f h
 by_cases c:x∈l
 ·rw[zA6 c];refine a.2 λq=> ?_;obtain⟨i,j,e⟩:=List.mem_iff_getElem.1 c;exact q i j (by rw[gN j,e])
 ·rw[zA5 c];refine a.1 λk b e=>c ?_;rw[<-e,gN b];exact zB7 b
abbrev F7:=Sq
def Vs (l:aX) (s:F7):F7:=
 (if at' l s.2.2.2.2.2.2≠0 then wI .i64 (s.1+1)else s.1,(if at' l s.2.2.2.2.2.2≠0∧s.2.1<0 then s.2.2.2.2.2.2 else s.2.1),min s.2.2.1 (at' l s.2.2.2.2.2.2),max s.2.2.2.1 (at' l s.2.2.2.2.2.2),max s.2.2.2.2.1 (min s.2.2.2.1 (at' l s.2.2.2.2.2.2)),wI .i64 (s.2.2.2.2.2.1+at' l s.2.2.2.2.2.2),wI .i64 (s.2.2.2.2.2.2+1))
def VK (l:aX):Nat->F7
 |0=>(0,-1,1073741824,-1073741824,-1073741824,0,0)
 |k+1=>Vs l (VK l k)
theorem Ui (l:aX):∀k,k<=l.length->l.length<=1000->(VK l k).1=(((l.take k).countP nz:Nat):Int)∧(VK l k).2.2.2.2.2.2=(k:Int)
 |0,_,_=>⟨by simp[VK],rfl⟩
 |k+1,hk,hl=>by
  obtain⟨b,c⟩:=Ui l k (by omega) hl;have d:(l.take k).countP nz<=k:=zB0 List.countP_le_length (by simp;omega);unfold VK Vs;dsimp only;rw[c,b,wA (by omega),List.countP_append,dH (by omega),dH (by omega)];refine⟨?_,rfl⟩
  by_cases a:at' l (k:Int)=0
  ·rw[if_neg (by simpa using a)];simp[nz,a]
  ·rw[if_pos a];simp[nz,a]
theorem Ob (f:Nat) (o:Int) (l:aX) (h:l.length<f) (g:l.length<=1000):∃a,sE f o l=xG f o l (((l.countP nz:Nat):Int),a):=by
 refine⟨((VK l l.length).2.1,(VK l l.length).2.2.1,(VK l l.length).2.2.2.1,(VK l l.length).2.2.2.2.1,(VK l l.length).2.2.2.2.2.1),?_⟩
 unfold sE;refine cR (step:=nQ f o l) l.length (VK l) (λk i p=> ?_) (λi=> ?_) f h
 ·have d:=(Ui l k (by omega) g).2;generalize j:VK l k=s at d;obtain⟨r,m,t,u,v,w,n⟩:=s;have d:n=(k:Int):=d;subst d;have e:VK l (k+1)=Vs l (VK l k):=rfl;rw[e,j];unfold nQ Bj Bm Bl Vs;dsimp only;rw[if_pos (by omega)];simp only[cO (show 0<=(k:Int)∧(k:Int)<(l.length:Int) by omega)];by_cases b:at' l (k:Int)=0
  ·rw[if_neg (by simpa using b),if_neg (by simpa using b),if_neg (by decide),if_neg (by simpa using b),if_neg (by simp[b])]
  ·rw[if_pos b,if_pos b,if_pos b];by_cases c:m<0
   ·rw[zA6 c,if_pos Z,if_pos ⟨b,c⟩]
   ·rw[zA5 c,if_neg (by decide),if_neg (λq=>c q.2)]
 ·obtain⟨c,d⟩:=Ui l l.length (zAd _) g;rw[List.take_length]at c;unfold nQ;rw[d,if_neg (by omega),c]
theorem acw (f:Nat) (l:aX) (h:l.length<f) (b:l.length<=1000):sE f 21 l=some (Kg 21 l):=by
 obtain⟨a,e⟩:=Ob f 21 l h b;rw[e];unfold xG;dsimp only;rw[if_neg (by decide),if_pos Z,aZ (MP f _),Kg,if_neg (by decide),if_pos Z];have:(decide ((0:Int)<((l.countP nz:Nat):Int)))=l.any nz:=by
  rw[Bool.eq_iff_iff,zA8,List.any_eq_true,show((0:Int)<((l.countP nz:Nat):Int))↔0<l.countP nz by omega,List.countP_pos_iff]
 rw[this]
theorem acx (f:Nat) (l:aX) (h:l.length+2<f) (hl:l.length<=900):sE f 27 l=some ((Nf l:Nat):Int):=by
 obtain⟨a,e⟩:=Ob f 27 l (by omega) (by omega);obtain⟨h1,h2,h3⟩:=Rx l;rw[e];unfold xG;dsimp only;rw[if_neg (by decide),if_neg (by decide),if_neg (by decide),if_neg (by decide),if_neg (by decide),if_neg (by decide),if_neg (by decide),if_neg (by decide),if_pos Z];exact cR (step:=xH f l) (K:=some ((Nf l:Nat):Int)) (Nf l) (λk=>(k:Int)) (λk ag hk=>by
  unfold xH;rw[aZ (Vv f l (k:Int) (by omega) (by omega)),if_pos (by simpa using h2 k hk),dH (by omega)]) (λag=>by
  unfold xH Bi;rw[aZ (Vv f l _ (by omega) (by omega)),if_neg (by simpa using h1)]) f (by omega)
section
variable {g:GR} {c:List (List Int)} {v nv f:Nat} {T:List (Int×Int)} {k k1 j:Int} {p:Int}
theorem adM (l:VG g) (d:uB g nv c) (r:v<g.2.length) {q a:Nat} (o:q<(row g v).length) (s:a<nv) (n:at' T k=(12,(a:Int))) (b:0<=k∧k<(T.length:Int)):dY (f+1) g c (v:Int) (q:Int) T k=some (at' (at' c (jL (row g v) q).1) (a:Int)):=by
 obtain⟨u,h,i⟩:=l.to r o;have t:=d.row u h;have m:=d.len;have e:(at' (at' g.2 (v:Int)) (q:Int)).1=(u:Int):=i;show kM (dY f) f g c (v:Int) (q:Int) T k=_;unfold kM;rw[cO b,n,aZ (show jK f 12=some 0 from rfl),if_pos Z,cO b];unfold Cj;dsimp only;rw[if_neg (by decide),if_neg (by decide),if_neg (by decide),if_neg (by decide),if_neg (by decide),if_pos Z,cO (by omega),cO (by show 0<=(q:Int)∧(q:Int)<((row g v).length:Int);omega),e,cO (by omega),cO (by omega)];rfl
theorem afE (d:uB g nv c) (i:v<g.2.length) {a:Nat} (l:a<nv) (h:at' T k=(5,(a:Int))) (b:0<=k∧k<(T.length:Int)):dY (f+1) g c (v:Int) p T k=some (at' (at' c (v:Int)) (a:Int)):=by
 have m:=d.row v i;have e:=d.len;show kM (dY f) f g c (v:Int) p T k=_;unfold kM;rw[cO b,h,aZ (show jK f 5=some 0 from rfl),if_pos Z,cO b];unfold Cj;dsimp only;rw[if_neg (by decide),if_neg (by decide),if_neg (by decide),if_neg (by decide),if_pos Z,cO (by omega),cO (by omega)];rfl
theorem adL {b:Bool} {a:Int} (e:at' T k=(if b then 2 else 3,a)) (d:0<=k∧k<(T.length:Int)):dY (f+1) g c (v:Int) p T k=some (SQ b):=by
 show kM (dY f) f g c (v:Int) p T k=_;unfold kM;rw[cO d,e];cases b<;>(rw[aZ (show jK f _=some 0 from rfl),if_pos Z,cO d];rfl)
theorem ahl {x a:Int} (e:at' T k=(19,a)) (d:0<=k∧k<(T.length:Int)) (b:wI .i64 (k+1)=k1) (i:dY f g c (v:Int) p T k1=some x) (h:M_ x):dY (f+1) g c (v:Int) p T k=some (SQ (decide (x=0))):=by
 show kM (dY f) f g c (v:Int) p T k=_;unfold kM;rw[cO d,e,aZ (show jK f 19=some 1 from rfl),if_neg (by decide),if_pos Z,aZ (show tM f 19=some false from rfl),if_neg (by decide),b,aZ (show dY f _ c (v:Int) p T k1=_ from i)];unfold DC;dsimp only;rw[if_pos (by decide),if_neg (by decide),aZ (PG f h)];unfold uU;rw[if_neg (by decide),if_neg (by decide),aZ (MP f _)];rfl
theorem rBi {o x y z a:Int} (A:30<=o) (B:o<=42) (r:at' T k=(o,a)) (d:0<=k∧k<(T.length:Int)) (b:wI .i64 (k+1)=k1) (q:sP f T k 1=some j) (t:dY f g c (v:Int) p T k1=some x) (u:dY f g c (v:Int) p T j=some y) (e:M_ x) (h:M_ y)
  (w:qH f o x y=some z) (i:M_ z):dY (f+1) g c (v:Int) p T k=some z:=by
 have n:jK f o=some 2:=by
  unfold jK Ab Ac Ad;rw[if_pos (by omega),zA5 (by omega),if_neg (by decide),if_pos (by omega),zA5 (by omega),if_neg (by decide),if_pos (by omega),zA6 (by omega),if_pos Z]
 show kM (dY f) f g c (v:Int) p T k=_;unfold kM;rw[cO d,r,aZ n,if_neg (by decide),if_neg (by decide),if_pos Z,b,aZ (show dY f _ c (v:Int) p T k1=_ from t),aZ q,aZ (show dY f _ c (v:Int) p T j=_ from u)];unfold CK pN;dsimp only;rw[if_neg (by omega),if_neg (by omega),aZ (PG f e),if_neg (by decide),aZ (PG f h),if_neg (by decide),aZ w];have s:nW f z=some z:=by
  unfold nW;obtain⟨l,m⟩:=i;rw[Int.max_eq_left l,Int.min_eq_left m]
 rw[aZ s];rfl
theorem rAg (hV:VG g) (hv:v<g.2.length) {o a:Int} (ho:o=21∨o=27) (hf:100<=f) (hk:at' T k=(o,a)) (hkr:0<=k∧k<(T.length:Int)) (hk1:wI .i64 (k+1)=k1) {F:Nat->Int} (hF:∀q:Nat,q<(row g v).length->dY f g c (v:Int) (q:Int) T k1=some (F q)):dY (f+1) g c (v:Int) p T k=some (Kg o ((List.range (row g v).length).map F)):=by
 have hd:=(hV.node v hv).deg;have h24:=hV.n24;have ha:jK f o=some 1:=by rcases ho with rfl|rfl<;>rfl
 have hg:tM f o=some true:=by rcases ho with rfl|rfl<;>rfl
 have hdeg:(row g v).length<=24:=by omega
 show kM (dY f) f g c (v:Int) p T k=_;unfold kM;rw[cO hkr,hk,aZ ha,if_neg (by decide),if_pos Z,aZ hg,if_pos Z];refine cR (step:=BJ f g c (v:Int) T k (dY f)) (row g v).length (λq=>((List.range q).map F,(q:Int))) (λq ag hq=> ?_) (λag=> ?_) f (by omega)
 ·unfold BJ;dsimp only;rw[cO (by omega),if_pos (show(q:Int)<((row g v).length:Int) by omega),hk1,aZ (show dY f _ c (v:Int) (q:Int) T k1=_ from hF q hq),cO (by simp;omega),dH (by omega),zB8,List.map_append,zB4]
 ·unfold BJ Gd;dsimp only;rw[cO (by omega),if_neg (show¬((row g v).length:Int)<((row g v).length:Int) by omega),hk];dsimp only;have hl:((List.range (row g v).length).map F).length=(row g v).length:=by simp
  rcases ho with rfl|rfl
  ·rw[aZ (acw f _ (by omega) (by omega))]
  ·rw[aZ (acx f _ (by omega) (by omega))];rfl
end
theorem adH {g:GR} {a:List Jh} (b:kK g a) {x:Nat} (c:x<a.length) (v:Nat):lo g (at' a (x:Int)) v<=hi g (at' a (x:Int)) v:=by
 rcases b.kind x c with k|k|k
 ·have h:=(b.range x c k).2.1;unfold lo hi at h ⊢;rw[k]at h ⊢;simpa using h
 ·unfold lo hi;rw[k];simp
 ·unfold lo hi;rw[k];simp;omega
theorem Wx {g:GR} {a:List Jh} (b:kK g a) {x:Nat} (c:x<a.length) (v:Nat) (y:Int):lo g (at' a (x:Int)) v<=FN (at' a (x:Int)).2.1 (zI g a v x) y∧FN (at' a (x:Int)).2.1 (zI g a v x) y<=hi g (at' a (x:Int)) v:=by
 have h:=adH b c v;unfold FN zI;dsimp only;split
 ·assumption
 ·split
  ·rename_i k;unfold lo hi;rw[k];simp;omega
  ·split<;>omega
section
variable {S:DY} {vars:List Jh} {R:List RL} {c:List (List Int)} {t v:Nat}
theorem aam (f:kK S.2.1 vars) {a:List Int} (d:a.length=vars.length) (h:∀x,x<vars.length->lo S.2.1 (at' vars (x:Int)) v<=at' a (x:Int)∧at' a (x:Int)<=hi S.2.1 (at' vars (x:Int)) v) (s:Nat×E):
  (Hg S vars c v a s).length=vars.length∧∀x,x<vars.length->lo S.2.1 (at' vars (x:Int)) v<=at' (Hg S vars c v a s) (x:Int)∧at' (Hg S vars c v a s) (x:Int)<=hi S.2.1 (at' vars (x:Int)) v:=by
 unfold Hg;refine⟨by rw[zA2,d],λx b=> ?_⟩
 by_cases g:s.1<a.length
 ·rw[AN a s.1 x _ g];split
  ·rename_i e;rw[<-e];exact Wx f b v _
  ·exact h x b
 ·rw[List.set_eq_of_length_le (by omega)];exact h x b
theorem Oj (k:kK S.2.1 vars) (h:Jo S.2.1 c vars) (j:v<S.2.1.2.length) (i:Int):(Dl S vars R c v i).length=vars.length∧∀x,x<vars.length->lo S.2.1 (at' vars (x:Int)) v<=at' (Dl S vars R c v i) (x:Int)∧at' (Dl S vars R c v i) (x:Int)<=hi S.2.1 (at' vars (x:Int)) v:=by
 have g:∀(l:List (Nat×E)) (d:List Int),d.length=vars.length->(∀x,x<vars.length->lo S.2.1 (at' vars (x:Int)) v<=at' d (x:Int)∧at' d (x:Int)<=hi S.2.1 (at' vars (x:Int)) v)->
   (l.foldl (Hg S vars c v) d).length=vars.length∧∀x,x<vars.length->lo S.2.1 (at' vars (x:Int)) v<=at' (l.foldl (Hg S vars c v) d) (x:Int)∧at' (l.foldl (Hg S vars c v) d) (x:Int)<=hi S.2.1 (at' vars (x:Int)) v:=by
  intro l
  induction l with
  |nil=>intro d e f;exact⟨e,f⟩
  |cons s l m=>
   intro d e f;obtain⟨a,b⟩:=aam (c:=c) k e f s;exact m _ a b
 exact g _ _ (h.row v j) (h.ok v j)
theorem Ou (e:kK S.2.1 vars) (a:Jo S.2.1 c vars):Jo S.2.1 (kY S vars R c t) vars:=by
 have d:=a.len;refine⟨by rw[Ot,d],λv b=> ?_,λv b x f=> ?_⟩
 ·rw[Ms (by omega)];split
  ·exact(Oj e a b _).1
  ·exact a.row v b
 ·unfold val;rw[Ms (by omega)];split
  ·exact(Oj e a b _).2 x f
  ·exact a.ok v b x f
end
end Go.Proofs.YtahgemjmgopleaaGreatDoor
namespace Go.Proofs.YtahgemjmgopleaaGreatDoor
open Go.Sx
def Ak  (a:Unit):Option (Int):=
 some (-1:Int)
def uV (U:Nat) (c:jC) (e:cW) (f:bO) (g:Int) (a:Int) (b:(Int)->Option (Int)):Option (Int):=
 if a<(c.2.2.length:Int)then(ck (0<=a∧a<(c.2.2.length:Int)) (Option.bind (dY U ((e.1,e.2)) f g (-1:Int) ((at' c.2.2 a).2.1.2) (0:Int)) λd=>(if d≠(0:Int)then(some (a))else(b (wI .i64 (a+(1:Int)))))))else(Ak  (()))
def nO (U:Nat) (a:jC) (b:cW) (c:bO) (d:Int):Option (Int):=
 bK (uV U a b c d) U (0:Int)
theorem UJ:aV Tryz.prog 124:=Tryz.call124
theorem Hy (U:Nat) {b:jC} {k:cW} {o:bO} {m:Int} (e:Value)  (f:Value)  (g:Value)  (i:Value)  (w:iX)  (n:Value)  (y:lU) (r:Int) (h:nO U b k o m=some r):
  aW Tryz.prog 124 #[Value.agg #[vS (b.1),e,f],Value.agg #[g,i],n,vI (m)] [Sl aP e b.2.1,Sl aJ f b.2.2,PF (Value.agg #[vS b.1,e,f]),Sl bX g k.1,S2 bD i w k.2,S2 bX n y o] (λx:Unit=>vI (r)) (λx l=>l) (λ_ l=>l):=by
 refine aW.of Tryz.func124 Z Tryz.ntmps124 Z λc=>?_;unfold nO at h;refine aR<|aH (aN.box (cs:=[vS (b.1),e,f]) Z Z) Z λs=>aH (aN.box (cs:=[g,i]) Z Z) Z λt=>aB Z<|aL<|aK<|dK (λj=>Ak  j=some r) (λj u=>[]) (λj u=>[]) ?_ ?_
 ·refine aR<|aB Z<|aL<|aS<|eB (uV U b k o m) (λd v=>[(2,n),(3,vI (m)),(4,vP s),(5,vP t),(9,vI (d))]) (λd v=>[cJ t [g,i] 29,cJ s [vS (b.1),e,f] 36]) (0:Int) () h SF (bA.refl _) ?_;intro B d v h;refine aK<|aR<|aA Z<|bN Z<|dL 1 Z<|iF (aD.fact 1 Z) Z<|cZ Z<|aL ?_;refine d_ h Z (λh=>?_) λh=>?_
  ·refine cE<|aK<|aS<|aK ?_;refine JR.start [0,0,0,0,8,0,56,120,248,511,1023] 9 mixedOrders (by decide +kernel) ?_;refine zBj (by exact rfl) ?_;refine gK 0 Z<|aY Z<|aY Z<|cB Z<|fD 1 Z<|aY Z<|dW h λa h=>bM Z .nil (kH 1 Z) (a_ Z Z (aD.fact 0 Z) Z Z a) aU.z<|iY Z (dX Z Z Z Z Z)<|bM Z .nil (kH 1 Z) (e_ Z (aD.fact 0 Z) Z Z Z tH a) aU.z<|bP 9 Z Z<|dZ h λp q h=>aH (zBg Cf (MA U g i w n y ((at' b.2.2 d).2.1.1) p q) Z (aG.cons (aD.fact 3 Z) (aG.cons (aD.fact 4 Z) (aG.cons (aD.fact 5 Z) (aG.cons (jD (aD.fact 1 Z) tJ a.1 a.2) .nil))))) Z λA=>jQ Z<|aL ?_;refine d_ h Z (λh=>?_) λh=>?_
   ·refine aR<|aA Z<|aB Z<|aL<|aQ<|bG<|aI<|aI<|bG<|aI ?_;cases h;exact oA Z
   refine dM<|jH<|aO<|aA Z<|cD Z<|aB Z<|aL ?_;exact tV (wI .i64 (d+(1:Int))) () h SF Z
  refine eS ?_;exact bU () (()) h SF .nil (aG.refl _ _)
 intro j u h;unfold Ak at h;refine aR<|aB Z<|aL<|aQ ?_;cases h;exact fW Z
def vZ  (a:Int):Option (Int):=
 some (a)
def rM (c:eL) (b:gC->Option (Int)) (a:Int):Option (Int):=
 b (a,(wI .i64 (c.2+(1:Int))))
def nY (U:Nat) (c:jC) (e:cW) (f:bO) (a:eL) (b:gC->Option (Int)):Option (Int):=
 if a.2<(f.length:Int)then(Option.bind (nO U ((c.1,c.2.1,c.2.2)) ((e.1,e.2)) f a.2) λd=>(if(0:Int)<=d then(ck (0<=(wI .u64 a.2)) (rM a b (Fx .u32 a.1 (zE .u32 (1:Int) (wI .u64 a.2)))))else(rM a b (a.1))))else(vZ  (a.1))
def kU (U:Nat) (a:jC) (b:cW) (c:bO):Option (Int):=
 bK (nY U a b c) U ((0:Int),(0:Int))
theorem YA:aV Tryz.prog 82:=Tryz.call82
theorem Fp (U:Nat) {d:jC} {n:cW} {s:bO} (e:Value)  (f:Value)  (g:Value)  (i:Value)  (z:iX)  (o:Value)  (A:lU) (r:Int) (h:kU U d n s=some r):
  aW Tryz.prog 82 #[Value.agg #[vS (d.1),e,f],Value.agg #[g,i],o] [Sl aP e d.2.1,Sl aJ f d.2.2,PF (Value.agg #[vS d.1,e,f]),Sl bX g n.1,S2 bD i z n.2,S2 bX o A s] (λx:Unit=>vU (r)) (λx l=>l) (λ_ l=>l):=by
 refine aW.of Tryz.func82 Z Tryz.ntmps82 Z λc=>?_;unfold kU at h;refine aR<|aH (aN.box (cs:=[vS (d.1),e,f]) Z Z) Z λp=>aH (aN.box (cs:=[g,i]) Z Z) Z λq=>aB Z<|aL<|aR<|aB Z<|aL<|aK<|dK (λj=>vZ  j=some r) (λj y=>[(7,vU (j))]) (λj y=>[]) ?_ ?_
 ·refine aR<|aB Z<|aL<|aS<|eB (nY U d n s) (λb k=>[(2,o),(3,vP p),(4,vP q),(7,vU (b.1)),(8,vI (b.2))]) (λb k=>[cJ q [g,i] 29,cJ p [vS (d.1),e,f] 36]) ((0:Int),(0:Int)) () h SF (bA.refl _) ?_;intro u b k h;refine aK<|aR<|aA Z<|aA Z<|aC (gM Z (aD.fact 5 Z) Z) Z<|cZ Z<|aL ?_;refine d_ h Z (λh=>?_) λh=>?_
  ·refine cE<|aK<|dK (λa=>rM b (bK (nY U d n s) u) a=some r) (λa m=>[(2,o),(3,vP p),(4,vP q),(7,vU (a)),(8,vI (b.2))]) (λa m=>[cJ q [g,i] 29,cJ p [vS (d.1),e,f] 36]) ?_ ?_
   ·refine aS<|aR<|cM 1 Z<|cM 0 Z<|aA Z<|aA Z<|dZ h λv w h=>aH (zBg UJ (Hy U e f g i z o A v w) Z (jP [0,1,2,3,4,5] Z)) Z λB=>aC (wC Z Z) Z<|aL ?_;refine d_ h Z (λh=>?_) λh=>?_
    ·refine aO<|aA Z<|aA Z<|aC (Cw Z Z Z) Z<|dW h λt h=>aC (FL Z Z t) Z<|aC (Kr Z Z) Z<|aB Z<|eN<|jH ?_;exact eW (Fx .u32 b.1 (zE .u32 (1:Int) (wI .u64 b.2))) () h SF Z
    refine dM<|jH ?_;exact eW (b.1) () h SF Z
   intro a m h;unfold rM at h;refine aO<|aA Z<|cD Z<|aB Z<|aL ?_;exact tV (a,(wI .i64 (b.2+(1:Int)))) () h SF Z
  refine eS ?_;exact bU (b.1) () h SF .nil (aG.refl _ _)
 intro j y h;unfold vZ at h;refine aR<|aA Z<|aB Z<|aL<|aQ ?_;cases h;exact fW Z
def mA (U:Nat) (b:jC) (c:cW) (d:Int) (a:Int):Option gC:=
 ck (0<=a∧a<(b.2.1.length:Int)) (if((at' b.2.1 a).2.1)=(2:Int)then(some ((0:Int),(1:Int)))else(if((at' b.2.1 a).2.1)=(3:Int)then(ck (0<=d∧d<(c.2.length:Int)) (some ((-1:Int),(wI .i64 (((at' c.2 d).length:Int) - (1:Int))))))else(ck (0<=a∧a<(b.2.1.length:Int)) (ck (0<=a∧a<(b.2.1.length:Int)) (ck (0<=a∧a<(b.2.1.length:Int)) (ck (0<=a∧a<(b.2.1.length:Int)) (Option.bind (nV U ((c.1,c.2))) λe=>(some (((at' b.2.1 a).2.2.1),(wI .i64 ((wI .i64 (((at' b.2.1 a).2.2.2.1)+(wI .i64 (((at' b.2.1 a).2.2.2.2.1)*(c.2.length:Int)))))+(wI .i64 (((at' b.2.1 a).2.2.2.2.2)*e)))))))))))))
theorem TA:aV Tryz.prog 77:=Tryz.call77
theorem Fb (U:Nat) {a:jC} {j:cW} {t:Int} {u:Int} (e:Value)  (f:Value)  (g:Value)  (i:Value)  (v:iX) (r:eL) (h:mA U a j t u=some r):
  aW Tryz.prog 77 #[Value.agg #[vS (a.1),e,f],Value.agg #[g,i],vI (t),vI (u)] [Sl aP e a.2.1,Sl aJ f a.2.2,PF (Value.agg #[vS a.1,e,f]),Sl bX g j.1,S2 bD i v j.2] (λx:Unit=>Value.tuple #[vI (r.1),vI (r.2)]) (λx l=>l) (λ_ l=>l):=by
 refine aW.of Tryz.func77 Z Tryz.ntmps77 Z λc=>?_;refine aR<|aH (aN.box (cs:=[vS (a.1),e,f]) Z Z) Z λw=>aH (aN.box (cs:=[g,i]) Z Z) Z λy=>aB Z<|aB Z<|aL<|aK<|aR<|bN Z<|dL 1 Z<|aA Z<|dW h λo h=>aC (a_ Z Z (aD.fact 0 Z) Z Z o) Z<|aC (dX Z Z Z Z Z) Z<|aC (e_ Z (aD.fact 0 Z) Z Z Z lC o) Z<|aL<|aS<|aR<|bS Z<|aB Z<|aL ?_;refine d_ h Z (λh=>?_) λh=>?_
 ·refine aR<|aB Z<|aB Z<|aL<|aQ<|bG<|aI ?_;cases h;exact eD () Z Z (RV.tmp Z) (RV.tmp Z) .nil aG.nil
 refine aR<|bS Z<|aB Z<|aL ?_;refine d_ h Z (λh=>?_) λh=>?_
 ·refine aK ?_;refine JR.start [0,1,0,7,15,31,63,0,255] 8 mixedOrders (by decide +kernel) ?_;refine zBj (by exact rfl) ?_;refine cB Z<|fD 0 Z<|aY Z<|dW h λd h=>bM Z .nil (kH 4 Z) (cY Z Z (aD.fact 0 Z) Z Z d) aU.z<|bM Z .nil (kH 4 Z) (cL Z (aD.fact 0 Z) Z Z d) aU.z<|bM Z .nil (kH 4 Z) (fX Z (zBi (aD.fact 0 Z) d.1 d.2) Z) aU.z<|iY Z (lO Z Z)<|iY Z (wS Z)<|bP 8 Z Z<|aB Z<|aL<|aQ<|bG<|aI ?_;cases h;exact eD () Z Z (RV.tmp Z) (RV.tmp Z) .nil aG.nil
 refine dM<|jH<|aK ?_;refine JR.start [0,1,0,7,15,31,0,64,0,448,960,1984,0,4096,0,28672,61440,126976,0,262144,786432,2093056,4194240,0,8388608,0,58720256,125829120,260046848,0,536870912,2139095040,4294967232,1610612799,17179869183] 34 mixedOrders (by decide +kernel) ?_;refine zBj (by exact rfl) ?_;refine cB Z<|fD 1 Z<|aY Z<|dW h λp h=>bM Z .nil (kH 0 Z) (a_ Z Z (aD.fact 0 Z) Z Z p) aU.z<|iY Z (dX Z Z Z Z Z)<|bM Z .nil (kH 0 Z) (e_ Z (aD.fact 0 Z) Z Z Z AA p) aU.z<|cB Z<|fD 1 Z<|aY Z<|dW h λq h=>bM Z .nil (kH 0 Z) (a_ Z Z (aD.fact 0 Z) Z Z q) aU.z<|iY Z (dX Z Z Z Z Z)<|bM Z .nil (kH 0 Z) (e_ Z (aD.fact 0 Z) Z Z Z AB q) aU.z<|cB Z<|fD 1 Z<|aY Z<|dW h λs h=>bM Z .nil (kH 0 Z) (a_ Z Z (aD.fact 0 Z) Z Z s) aU.z<|iY Z (dX Z Z Z Z Z)<|bM Z .nil (kH 0 Z) (e_ Z (aD.fact 0 Z) Z Z Z AC s) aU.z<|cB Z<|fD 0 Z<|bM Z .nil (kH 4 Z) (gM Z (aD.fact 0 Z) Z) aU.z<|iY Z (zH Z Z)<|iY Z (yR Z Z)<|cB Z<|fD 1 Z<|aY Z<|dW h λb h=>bM Z .nil (kH 0 Z) (a_ Z Z (aD.fact 0 Z) Z Z b) aU.z<|iY Z (dX Z Z Z Z Z)<|bM Z .nil (kH 0 Z) (e_ Z (aD.fact 0 Z) Z Z Z AD b) aU.z<|gK 0 Z<|dZ h λk m h=>zBh Z Z Z (zBg UI (Eo U g i v k m) Z (jP [3,4] Z)) Z (λn=>(kG [([],[0]),([],[0]),([1],[]),([],[4]),([0],[]),([],[0]),([],[0]),([1],[]),([],[0]),([],[0]),([1],[]),([],[0]),([],[0]),([1],[])] Z)) λn=>iY Z (zH Z Z)<|iY Z (yR Z Z)<|iY Z (wS Z)<|bP 34 Z Z<|aB Z<|aL<|aQ ?_;cases h;exact eD () Z Z (RV.tmp Z) (RV.tmp Z) .nil aG.nil
def Be  (a:Unit):Option (Int):=
 some (0:Int)
def Bf (b:Int) (a:(Int)->Option (Int)) (c:Bool):Option (Int):=
 if c=true then(some (9:Int))else(a (wI .i64 (b+(1:Int))))
def tA (U:Nat) (c:jC) (f:cW) (a:Int) (b:(Int)->Option (Int)):Option (Int):=
 if a<(c.2.1.length:Int)then(Option.bind (mA U ((c.1,c.2.1,c.2.2)) ((f.1,f.2)) (0:Int) a) λd=>(ck (0<=a∧a<(c.2.1.length:Int)) (if((at' c.2.1 a).2.1)=(1:Int)then(Option.bind (qG U (wI .i64 (d.2 - d.1)) (0:Int) (4095:Int)) λe=>(Bf a b ((!e))))else(Bf a b (false)))))else(Be  (()))
def zU (U:Nat) (a:jC) (b:cW):Option (Int):=
 Option.bind (Dz U ((a.1,a.2.1,a.2.2))) λc=>(if(!c)=true then(some (8:Int))else(Option.bind (gW U ((b.1,b.2))) λd=>(if(!d)=true then(some (1:Int))else(bK (tA U a b) U (0:Int)))))
theorem aeG:aV Tryz.prog 76:=Tryz.call76
theorem PZ (U:Nat) {d:jC} {p:cW} (f:Value)  (g:Value)  (i:Value)  (j:Value)  (z:iX) (r:Int) (h:zU U d p=some r):
  aW Tryz.prog 76 #[Value.agg #[vS (d.1),f,g],Value.agg #[i,j]] [Sl aP f d.2.1,Sl aJ g d.2.2,PF (Value.agg #[vS d.1,f,g]),Sl bX i p.1,S2 bD j z p.2] (λx:Unit=>vI (r)) (λx l=>l) (λ_ l=>l):=by
 refine aW.of Tryz.func76 Z Tryz.ntmps76 Z λc=>?_;refine aR<|aH (aN.box (cs:=[vS (d.1),f,g]) Z Z) Z λs=>aH (aN.box (cs:=[i,j]) Z Z) Z λt=>aB Z<|aL<|aK<|aR<|cM 1 Z<|dZ h λA C h=>aH (zBg OX (No U f g A C) Z (jP [0,1,2] Z)) Z λG=>aC (lV Z) Z<|aL ?_;refine tT h Z (λ_ h=>?_) λ_ h=>?_
 ·refine aR<|aB Z<|aL<|aQ<|aI ?_;cases h;exact oA Z
 refine cE<|aK<|aR<|cM 0 Z<|dZ h λB D h=>aH (zBg Pb (By U i j z B D) Z (jP [3,4] Z)) Z λH=>aC (lV Z) Z<|aL ?_;refine tT h Z (λ_ h=>?_) λ_ h=>?_
 ·refine aR<|aB Z<|aL<|aQ<|aI ?_;cases h;exact oA Z
 refine cE<|aK<|dK (λe=>Be  e=some r) (λe k=>[]) (λe k=>[]) ?_ ?_
 ·refine aR<|aB Z<|aL<|aS<|eB (tA U d p) (λa m=>[(2,vP s),(3,vP t),(5,vI (a))]) (λa m=>[cJ t [i,j] 29,cJ s [vS (d.1),f,g] 36]) (0:Int) () h SF (bA.refl _) ?_;intro u a m h;refine aK<|aR<|aA Z<|bN Z<|dL 1 Z<|iF (aD.fact 0 Z) Z<|cZ Z<|aL ?_;refine d_ h Z (λh=>?_) λh=>?_
  ·refine cE<|aK<|aS<|aR<|cM 1 Z<|cM 0 Z<|aA Z<|dZ h λv w h=>aH (zBg TA (Fb U f g i j z v w) Z (jP [0,1,2,3,4] Z)) Z λE=>aA Z<|eQ Z<|eQ Z<|aB Z<|aB Z<|aL<|aK<|dK (λb=>Bf a (bK (tA U d p) u) b=some r) (λb n=>[(2,vP s),(3,vP t),(5,vI (a)),(41,vB (b))]) (λb n=>[cJ t [i,j] 29,cJ s [vS (d.1),f,g] 36]) ?_ ?_
   ·refine aO<|bN Z<|dL 1 Z<|aA Z<|dW h λo h=>aC (a_ Z Z (aD.fact 0 Z) Z Z o) Z<|aC (dX Z Z Z Z Z) Z<|aC (e_ Z (aD.fact 0 Z) Z Z Z lC o) Z<|bS Z<|aA Z ?_;refine wN h Z (λ_ h=>?_) λ_ h=>?_
    ·refine bZ Z<|bZ Z<|aM Z (lO Z Z) Z<|dZ h λq y h=>kJ Z (zBg HM (yT U  q y) Z .nil) Z λF=>aM Z (lV Z) Z<|dA Z<|aL ?_;exact eW ((!q)) () h SF Z
    refine aE Z<|aE Z<|aE Z<|aE Z<|aE Z<|c_ Z<|aL ?_;exact eW (false) () h SF Z
   intro b n h;refine tT h Z (λ_ h=>?_) λ_ h=>?_
   ·refine aR<|aB Z<|aL<|aQ<|bG<|aI<|aI<|bG<|aI ?_;cases h;exact oA Z
   refine dM<|jH<|aO<|aA Z<|cD Z<|aB Z<|aL ?_;exact tV (wI .i64 (a+(1:Int))) () h SF Z
  refine eS ?_;exact bU () (()) h SF .nil (aG.refl _ _)
 intro e k h;unfold Be at h;refine aR<|aB Z<|aL<|aQ ?_;cases h;exact fW Z
def Af  (a:Unit):Option (Int):=
 some (0:Int)
def Ag (b:Int) (a:(Int)->Option (Int)) (c:Unit):Option (Int):=
 a (wI .i64 (b+(1:Int)))
def uT (U:Nat) (g:jC) (i:cW) (e:bO) (a:Int) (c:(Int)->Option (Int)) (b:Int) (d:(Int)->Option (Int)):Option (Int):=
 ck (0<=a∧a<(e.length:Int)) (if b<((at' e a).length:Int)then(Option.bind (mA U ((g.1,g.2.1,g.2.2)) ((i.1,i.2)) a b) λf=>(ck (0<=a∧a<(e.length:Int)) (ck (0<=b∧b<((at' e a).length:Int)) (Option.bind (qG U (at' (at' e a) b) f.1 f.2) λh=>(if(!h)=true then(some (10:Int))else(d (wI .i64 (b+(1:Int)))))))))else(Ag a c (())))
def oV (U:Nat) (d:jC) (e:cW) (c:bO) (a:Int) (b:(Int)->Option (Int)):Option (Int):=
 if a<(c.length:Int)then(ck (0<=a∧a<(c.length:Int)) (if((at' c a).length:Int)≠(d.2.1.length:Int)then(some (10:Int))else(bK (uT U d e c a b) U (0:Int))))else(Af  (()))
def kI (U:Nat) (a:jC) (b:cW) (c:bO):Option (Int):=
 Option.bind (zU U ((a.1,a.2.1,a.2.2)) ((b.1,b.2))) λd=>(if d≠(0:Int)then(some (d))else(if(c.length:Int)≠(b.2.length:Int)then(some (10:Int))else(bK (oV U a b c) U (0:Int))))
theorem Tx:aV Tryz.prog 44:=Tryz.call44
theorem DU (U:Nat) {d:jC} {o:cW} {s:bO} (j:Value)  (k:Value)  (m:Value)  (n:Value)  (G:iX)  (A:Value)  (N:lU) (r:Int) (h:kI U d o s=some r):
  aW Tryz.prog 44 #[Value.agg #[vS (d.1),j,k],Value.agg #[m,n],A] [Sl aP j d.2.1,Sl aJ k d.2.2,PF (Value.agg #[vS d.1,j,k]),Sl bX m o.1,S2 bD n G o.2,S2 bX A N s] (λx:Unit=>vI (r)) (λx l=>l) (λ_ l=>l):=by
 refine aW.of Tryz.func44 Z Tryz.ntmps44 Z λc=>?_;refine aR<|aH (aN.box (cs:=[vS (d.1),j,k]) Z Z) Z λp=>aH (aN.box (cs:=[m,n]) Z Z) Z λq=>aB Z<|aL<|aK<|aR<|cM 1 Z<|cM 0 Z<|dZ h λJ K h=>aH (zBg aeG (PZ U j k m n G J K) Z (jP [0,1,2,3,4] Z)) Z λO=>aB Z<|aL<|aR<|aA Z<|jQ Z<|aL ?_;refine d_ h Z (λh=>?_) λh=>?_
 ·refine aR<|aA Z<|aB Z<|aL<|aQ<|aI ?_;cases h;exact oA Z
 refine cE<|aK<|aR<|aA Z<|aC (gM Z (aD.fact 5 Z) Z) Z<|bN Z<|dL 0 Z<|aC (gM Z (aD.fact 4 Z) Z) Z<|jQ Z<|aL ?_;refine d_ h Z (λh=>?_) λh=>?_
 ·refine aR<|aB Z<|aL<|aQ<|aI ?_;cases h;exact oA Z
 refine cE<|aK<|dK (λB=>Af  B=some r) (λB H=>[]) (λB H=>[]) ?_ ?_
 ·refine aR<|aB Z<|aL<|aS<|eB (oV U d o s) (λa t=>[(2,A),(3,vP p),(4,vP q),(8,vI (a))]) (λa t=>[cJ q [m,n] 29,cJ p [vS (d.1),j,k] 36]) (0:Int) () h SF (bA.refl _) ?_;intro y a t h;refine aK<|aR<|aA Z<|aA Z<|aC (gM Z (aD.fact 5 Z) Z) Z<|cZ Z<|aL ?_;refine d_ h Z (λh=>?_) λh=>?_
  ·refine cE<|aK<|dK (λe=>Ag a (bK (oV U d o s) y) e=some r) (λe u=>[(2,A),(3,vP p),(4,vP q),(8,vI (a))]) (λe u=>[cJ q [m,n] 29,cJ p [vS (d.1),j,k] 36]) ?_ ?_
   ·refine aS<|aK<|aK ?_;refine JR.start [0,0,3,7,15,0,32,96,255] 8 mixedOrders (by decide +kernel) ?_;refine zBj (by exact rfl) ?_;refine aY Z<|aY Z<|dW h λg h=>bM Z .nil (kH 5 Z) (cY Z Z (aD.fact 0 Z) Z Z g) aU.z<|bM Z .nil (kH 5 Z) (cL Z (aD.fact 0 Z) Z Z g) aU.z<|bM Z .nil (kH 5 Z) (fX Z (zBi (aD.fact 0 Z) g.1 g.2) Z) aU.z<|cB Z<|fD 1 Z<|bM Z .nil (kH 0 Z) (fX Z (aD.fact 0 Z) Z) aU.z<|bP 8 Z Z<|jQ Z<|aL ?_;refine d_ h Z (λh=>?_) λh=>?_
    ·refine aR<|aB Z<|aL<|aQ<|aI<|bG<|aI<|aI<|bG<|aI ?_;cases h;exact oA Z
    refine cE<|aR<|aB Z<|aL<|aS<|eB (uT U d o s a (bK (oV U d o s) y)) (λf v=>[(2,A),(3,vP p),(4,vP q),(8,vI (a)),(9,vI (f))]) (λf v=>[cJ q [m,n] 29,cJ p [vS (d.1),j,k] 36]) (0:Int) () h SF (bA.refl _) ?_;intro I f v h;refine aK<|aR<|aA Z<|aA Z<|aA Z<|dW h λi h=>aC (cY Z Z (aD.fact 5 Z) Z Z i) Z<|aC (cL Z (aD.fact 5 Z) Z Z i) Z<|aC (fX Z (zBi (aD.fact 5 Z) i.1 i.2) Z) Z<|cZ Z<|aL ?_;refine d_ h Z (λh=>?_) λh=>?_
    ·refine cE<|aK<|aS<|aR<|cM 1 Z<|cM 0 Z<|aA Z<|aA Z<|dZ h λC E h=>aH (zBg TA (Fb U j k m n G C E) Z (jP [0,1,2,3,4] Z)) Z λL=>aA Z<|eQ Z<|eQ Z<|aB Z<|aB Z<|aL<|aR<|aA Z<|aA Z<|dW h λb h=>aC (cY Z Z (aD.fact 5 Z) Z Z b) Z<|aC (cL Z (aD.fact 5 Z) Z Z b) Z<|aA Z<|dW h λw h=>aC (a_ Z Z (zBi (aD.fact 5 Z) b.1 b.2) Z Z w) Z<|aC (bY Z (zBi (aD.fact 5 Z) b.1 b.2) Z Z Z eH w) Z<|aA Z<|aA Z<|dZ h λD F h=>aH (zBg HM (yT U  D F) Z .nil) Z λM=>aC (lV Z) Z<|aL ?_;refine tT h Z (λ_ h=>?_) λ_ h=>?_
     ·refine aR<|aB Z<|aL<|aQ<|bG<|aI<|aI<|bG<|bG<|aI<|aI<|bG<|aI ?_;cases h;exact oA Z
     refine dM<|jH<|aO<|aA Z<|cD Z<|aB Z<|aL ?_;exact tV (wI .i64 (f+(1:Int))) () h SF Z
    refine qC<|eZ<|eZ<|wQ<|jH ?_;exact eW () (()) h SF Z
   intro e u h;unfold Ag at h;refine aO<|aA Z<|cD Z<|aB Z<|aL ?_;exact tV (wI .i64 (a+(1:Int))) () h SF Z
  refine eS ?_;exact bU () (()) h SF .nil (aG.refl _ _)
 intro B H h;unfold Af at h;refine aR<|aB Z<|aL<|aQ ?_;cases h;exact fW Z
def wY (U:Nat) (a:jC) (b:cW) (c:bO):Option Bool:=
 Option.bind (kI U ((a.1,a.2.1,a.2.2)) ((b.1,b.2)) c) λd=>(some (decide (d=(0:Int))))
theorem aeQ:aV Tryz.prog 99:=Tryz.call99
theorem Nq (U:Nat) {a:jC} {g:cW} {j:bO} (b:Value)  (d:Value)  (e:Value)  (f:Value)  (k:iX)  (i:Value)  (m:lU) (r:Bool) (h:wY U a g j=some r):
  aW Tryz.prog 99 #[Value.agg #[vS (a.1),b,d],Value.agg #[e,f],i] [Sl aP b a.2.1,Sl aJ d a.2.2,PF (Value.agg #[vS a.1,b,d]),Sl bX e g.1,S2 bD f k g.2,S2 bX i m j] (λx:Unit=>vB (r)) (λx l=>l) (λ_ l=>l):=by
 refine aW.of Tryz.func99 Z Tryz.ntmps99 Z λc=>?_;refine aR<|aH (aN.box (cs:=[vS (a.1),b,d]) Z Z) Z λp=>aH (aN.box (cs:=[e,f]) Z Z) Z λq=>aB Z<|aL<|aR<|cM 1 Z<|cM 0 Z<|aA Z<|dZ h λn o h=>aH (zBg Tx (DU U b d e f k i m n o) Z (jP [0,1,2,3,4,5] Z)) Z λs=>bS Z<|aB Z<|aL<|aQ ?_;cases h;exact oA Z
def gR (U:Nat) (a:jC) (b:cW) (c:bO):Option (Int):=
 Option.bind (wY U ((a.1,a.2.1,a.2.2)) ((b.1,b.2)) c) λd=>(if(!d)=true then(some (0:Int))else(Option.bind (kU U ((a.1,a.2.1,a.2.2)) ((b.1,b.2)) c) λe=>(some (e))))
theorem Yw:aV Tryz.prog 61:=Tryz.call61
theorem Fo (U:Nat) {a:jC} {i:cW} {m:bO} (b:Value)  (d:Value)  (e:Value)  (f:Value)  (j:iX)  (g:Value)  (k:lU) (r:Int) (h:gR U a i m=some r):
  aW Tryz.prog 61 #[Value.agg #[vS (a.1),b,d],Value.agg #[e,f],g] [Sl aP b a.2.1,Sl aJ d a.2.2,PF (Value.agg #[vS a.1,b,d]),Sl bX e i.1,S2 bD f j i.2,S2 bX g k m] (λx:Unit=>vU (r)) (λx l=>l) (λ_ l=>l):=by
 refine aW.of Tryz.func61 Z Tryz.ntmps61 Z λc=>?_;refine aR<|aH (aN.box (cs:=[vS (a.1),b,d]) Z Z) Z λs=>aH (aN.box (cs:=[e,f]) Z Z) Z λt=>aB Z<|aL<|aK<|aR<|cM 1 Z<|cM 0 Z<|aA Z<|dZ h λn p h=>aH (zBg aeQ (Nq U b d e f j g k n p) Z (jP [0,1,2,3,4,5] Z)) Z λu=>aC (lV Z) Z<|aL ?_;refine tT h Z (λ_ h=>?_) λ_ h=>?_
 ·refine aR<|aB Z<|aL<|aQ<|aI ?_;cases h;exact oA Z
 refine cE<|aR<|cM 1 Z<|cM 0 Z<|aA Z<|dZ h λo q h=>aH (zBg YA (Fp U b d e f j g k o q) Z (jP [0,1,2,3,4,5] Z)) Z λv=>aB Z<|aL<|aQ ?_;cases h;exact oA Z
def oY  (a:Bool):Option Bool:=
 some (a)
def mB (U:Nat) (a:Int):Option Bool:=
 if(1:Int)<=a then(oY  (decide (a<=(4:Int))))else(oY  (false))
theorem Yt:aV Tryz.prog 45:=Tryz.call45
theorem HA (U:Nat) {b:Int} (r:Bool) (h:mB U b=some r):
  aW Tryz.prog 45 #[vI (b)] [] (λx:Unit=>vB (r)) (λx l=>l) (λ_ l=>l):=by
 refine aW.of Tryz.func45 Z Tryz.ntmps45 Z λc=>?_;refine aR<|aB Z<|aL<|aK<|dK (λa=>oY  a=some r) (λa d=>[(2,vB (a))]) (λa d=>[]) ?_ ?_
 ·refine aO<|aA Z<|aC (wC Z Z) Z<|aA Z ?_;refine wN h Z (λ_ h=>?_) λ_ h=>?_
  ·refine bZ Z<|aM Z (uF Z Z) Z<|dA Z<|aB Z<|aL ?_;exact eW (decide (b<=(4:Int))) () h SF Z
  refine aE Z<|aE Z<|c_ Z<|aB Z<|aL ?_;exact eW (false) () h SF Z
 intro a d h;unfold oY at h;refine aQ ?_;cases h;exact fW Z
def Bg  (a:bO):Option bO:=
 some (a)
def xE (c:bO) (a:bO×Int) (b:Gp->Option bO):Option bO:=
 if a.2<(c.length:Int)then(ck (0<=a.2∧a.2<(c.length:Int)) (ck ((List.length ([]:aX):Int)+((at' c a.2).length:Int)<=1099511627) (ck ((a.1.length:Int)+(List.length ([(([]:aX)++(at' c a.2))]):Int)<=1099511627) (b ((a.1++([(([]:aX)++(at' c a.2))])),(wI .i64 (a.2+(1:Int))))))))else(Bg  (a.1))
def vN (U:Nat) (a:bO):Option bO:=
 bK (xE a) U (([]:bO),(0:Int))
theorem Yu:aV Tryz.prog 46:=Tryz.call46
theorem Ja (U:Nat) {o:bO} (v:Value)  (z:lU) (r:bO) (h:vN U o=some r):
  aW Tryz.prog 46 #[v] [S2 bX v z o] (λx:Fu=>x.1) (λx l=>Ar fE.raw x.1 x.2::k_ cS x.2 r::l) (λ_ l=>l):=by
 refine aW.of Tryz.func46 Z Tryz.ntmps46 Z λc=>?_;unfold vN at h;refine aR<|aB Z<|aL<|aR<|aB Z<|aL<|aK<|CM (B:=Fu) (λm=>Bg  m=some r) (λm g=>[(3,g.1)]) (λm g=>[Ar fE.raw g.1 g.2,k_ cS g.2 m]) ?_ ?_
 ·refine aR<|aB Z<|aL<|aS<|gF (cK fE.raw) (gF (mD cS) ?_);refine eB (B:=Fu) (xE o) (λb a=>[(0,v),(3,a.1),(4,vI (b.2))]) (λb a=>[Ar fE.raw a.1 a.2,k_ cS a.2 b.1]) (([]:bO),(0:Int)) ((lL),([]:gV)) h SF (bA.ix [1,0] Z Z) ?_;intro w b a h;refine aK<|aR<|aA Z<|aA Z<|aC (gM Z (aD.fact 0 Z) Z) Z<|cZ Z<|aL ?_;refine d_ h Z (λh=>?_) λh=>?_
  ·refine cE<|aK<|aS<|aO<|aA Z<|aA Z<|aA Z<|dW h λd h=>aC (cY Z Z (aD.fact 0 Z) Z Z d) Z<|aC (cL Z (aD.fact 0 Z) Z Z d) Z<|gF (cK cS)<|dW h λp h=>aH (bH 0 dD Z Z Z (zBi (aD.fact 0 Z) d.1 d.2) Z Z Z Z p Z) Z λf=>gF (mD cS)<|bE (Know.one ((aT (aD.res 1 Z) dD))) λk=>gF (Lm 0 1 Z Z Z) ?_;refine aH (bT (e:=fE.raw) [f] [(0,f)] Z Z Z Z (eV (f) k) Z Z (by simp[cellsOf,fE.raw,k])) Z λy=>?_;refine bE (eT 3 Z) λi=>bE (eT 1 Z) λj=>dW h λn h=>gF (Kb 3 1 Z Z Z) ?_;refine aH (aN.append 1 0 Z Z Z Z Z Z Z (by have q:=n;have s:=i;have t:=j;(try simp only[zAh,List.length_nil]at q s t ⊢);omega) (by have q:=n;have s:=i;have t:=j;(try simp only[zAh,List.length_nil]at q s t ⊢);omega) Z) Z λu=>?_;refine aB Z<|eN<|jH<|aO<|aA Z<|cD Z<|aB Z<|aL ?_;exact nC ((b.1++([(([]:aX)++(at' o b.2))])),(wI .i64 (b.2+(1:Int)))) (u,(a.2++[f])) h SF (bA.ix [1,2] Z Z) (aG.refl _ _)
  refine eS ?_;exact eW (b.1) (a.1,a.2) h SF Z
 intro m g h;unfold Bg at h;refine aR<|aA Z<|aB Z<|aL<|aQ ?_;cases h;exact gE (g.1,g.2) Z Z (RV.tmp Z) (bA.refl _) aG.nil
def w_ (U:Nat) (a:Int):Option ((Int×Int×Int×Int×Int)):=
 Option.bind (kC U (24:Int)) λb=>(some (((0:Int),(0:Int),(0:Int),(0:Int),(eG .u32 a b))))
theorem aew:aV Tryz.prog 47:=Tryz.call47
theorem Nv (U:Nat) {a:Int} (r:(Int×Int×Int×Int×Int)) (h:w_ U a=some r):
  aW Tryz.prog 47 #[vU (a)] [] (λx:Unit=>Value.agg #[vI (r.1),vI (r.2.1),vI (r.2.2.1),vI (r.2.2.2.1),vU (r.2.2.2.2)]) (λx l=>l) (λ_ l=>l):=by
 refine aW.of Tryz.func47 Z Tryz.ntmps47 Z λc=>?_;refine aR<|aH (aN.alloc (cs:=SV) Z Z) Z λe=>aL<|aR<|aA Z<|dZ h λb d h=>aH (zBg Lu (BM U  b d) Z .nil) Z λf=>wE Z ?_;refine aC (Tl (r:=Value.agg #[vI (0:Int),vI (0:Int),vI (0:Int),vI (0:Int),vU (eG .u32 a b)]) Z (by intro w;simp[Instr.build,Instr.fill,cT,b_,bW,cU,cV,cA,dJ])) Z ?_;refine bF 0 (vs:=[vI (0:Int),vI (0:Int),vI (0:Int),vI (0:Int),vU (eG .u32 a b)]) Z Z Z Z Z Z<|aL<|aQ ?_;cases h;exact gE () Z Z (RV.cell 0 Z Z Z Z) .nil aG.nil
def mX  (a:Bool):Option Bool:=
 some (a)
def rH (U:Nat) (a:cW) (c:Int) (d:Int):Option Bool:=
 Option.bind (gW U ((a.1,a.2))) λe=>(if e=true then(Option.bind (mB U c) λf=>(if f=true then(Option.bind (kC U (a.2.length:Int)) λb=>(mX  (decide ((kE .u32 d b)=(0:Int)))))else(mX  (false))))else(mX  (false)))
theorem aeH:aV Tryz.prog 79:=Tryz.call79
theorem JP (U:Nat) {i:cW} {o:Int} {j:Int} (f:Value)  (g:Value)  (p:iX) (r:Bool) (h:rH U i o j=some r):
  aW Tryz.prog 79 #[Value.agg #[f,g],vI (o),vU (j)] [Sl bX f i.1,S2 bD g p i.2] (λx:Unit=>vB (r)) (λx l=>l) (λ_ l=>l):=by
 refine aW.of Tryz.func79 Z Tryz.ntmps79 Z λc=>?_;refine aR<|aH (aN.box (cs:=[f,g]) Z Z) Z λw=>aB Z<|aL<|aK<|dK (λd=>mX  d=some r) (λd n=>[(6,vB (d))]) (λd n=>[]) ?_ ?_
 ·refine aO<|cM 0 Z<|dZ h λq t h=>aH (zBg Pb (By U f g p q t) Z (jP [0,1] Z)) Z λy=>aA Z ?_;refine rZ (by exact rfl) (by exact rfl) (λb=>?_) (λb=>?_)
  ·have h:=LS b h;refine bZ Z<|dZ h λs k h=>kJ Z (zBg Yt (HA U  s k) Z .nil) Z λu=>dA Z<|aA Z ?_;refine rZ (by exact rfl) (by exact rfl) (λa=>?_) (λa=>?_)
   ·have h:=LS a h;refine bZ Z<|aM Z (cQ Z Z Z Z Z) Z<|aM Z (dN 0 Z Z Z Z Z) Z<|aM Z (gM Z (aD.fact 1 Z) Z) Z<|dZ h λe m h=>kJ Z (zBg Lu (BM U  e m) Z .nil) Z λv=>aM Z (zG Z Z) Z<|aM Z (Cy Z Z) Z<|dA Z<|aB Z<|aL ?_;exact bU (decide ((kE .u32 j e)=(0:Int))) () h SF .nil (aG.refl _ _)
   have h:=HU a h;refine aE Z<|aE Z<|aE Z<|aE Z<|aE Z<|aE Z<|aE Z<|c_ Z<|aB Z<|aL ?_;exact bU (false) () h SF .nil (aG.refl _ _)
  have h:=HU b h;refine aE Z<|aE Z<|c_ Z<|aA Z<|aE Z<|aE Z<|aE Z<|aE Z<|aE Z<|aE Z<|aE Z<|c_ Z<|aB Z<|aL ?_;exact bU (false) () h SF .nil (aG.refl _ _)
 intro d n h;unfold mX at h;refine aQ ?_;cases h;exact fW Z
def CN  (a:Unit):Option (Int):=
 some (0:Int)
def oW (U:Nat) (c:Int) (a:Int) (b:(Int)->Option (Int)):Option (Int):=
 if a<(32:Int)then(Option.bind (nN U c a) λd=>(if d=true then(ck (0<=(wI .u64 a)) (some (zE .u32 (1:Int) (wI .u64 a))))else(b (wI .i64 (a+(1:Int))))))else(CN  (()))
def s_ (U:Nat) (a:Int):Option (Int):=
 bK (oW U a) U (0:Int)
theorem Yz:aV Tryz.prog 80:=Tryz.call80
theorem Hz (U:Nat) {d:Int} (r:Int) (h:s_ U d=some r):
  aW Tryz.prog 80 #[vU (d)] [] (λx:Unit=>vU (r)) (λx l=>l) (λ_ l=>l):=by
 refine aW.of Tryz.func80 Z Tryz.ntmps80 Z λc=>?_;unfold s_ at h;refine aR<|aB Z<|aL<|aK<|dK (λa=>CN  a=some r) (λa g=>[]) (λa g=>[]) ?_ ?_
 ·refine aR<|aB Z<|aL<|aS<|eB (oW U d) (λb i=>[(0,vU (d)),(3,vI (b))]) (λb i=>[]) (0:Int) () h SF (bA.refl _) ?_;intro m b i h;refine aK<|aR<|aA Z<|cZ Z<|aL ?_;refine d_ h Z (λh=>?_) λh=>?_
  ·refine cE<|aK<|aS<|aR<|aA Z<|aA Z<|dZ h λj f h=>aH (zBg HL (uY U  j f) Z .nil) Z λk=>aL ?_;refine tT h Z (λ_ h=>?_) λ_ h=>?_
   ·refine aR<|aA Z<|aC (Cw Z Z Z) Z<|dW h λe h=>aC (FL Z Z e) Z<|aB Z<|aL<|aQ<|bG<|aI<|aI<|bG<|aI ?_;cases h;exact fW Z
   refine dM<|jH<|aO<|aA Z<|cD Z<|aB Z<|aL ?_;exact tV (wI .i64 (b+(1:Int))) () h SF Z
  refine eS ?_;exact eW () (()) h SF Z
 intro a g h;unfold CN at h;refine aR<|aB Z<|aL<|aQ ?_;cases h;exact fW Z
def yD  (a:Int):Option (Int):=
 some (a)
def sS (c:eL) (b:gC->Option (Int)) (a:Int):Option (Int):=
 b (a,(wI .i64 (c.2+(1:Int))))
def yE (a:eL) (b:gC->Option (Int)) (c:Bool):Option (Int):=
 if c=true then(ck (0<=(wI .u64 a.2)) (sS a b (Fx .u32 a.1 (zE .u32 (1:Int) (wI .u64 a.2)))))else(sS a b (a.1))
def nA (U:Nat) (c:cW) (g:Int) (a:eL) (b:gC->Option (Int)):Option (Int):=
 if a.2<(c.2.length:Int)then(Option.bind (nN U g a.2) λd=>(if d=true then(Option.bind (jW U ((c.1,c.2)) a.1) λe=>(Option.bind (nN U e a.2) λf=>(yE a b ((!f)))))else(yE a b (false))))else(yD  (a.1))
def rF (U:Nat) (a:cW) (b:Int):Option (Int):=
 bK (nA U a b) U ((0:Int),(0:Int))
theorem aeI:aV Tryz.prog 81:=Tryz.call81
theorem MD (U:Nat) {k:cW} {f:Int} (g:Value)  (i:Value)  (B:iX) (r:Int) (h:rF U k f=some r):
  aW Tryz.prog 81 #[Value.agg #[g,i],vU (f)] [Sl bX g k.1,S2 bD i B k.2] (λx:Unit=>vU (r)) (λx l=>l) (λ_ l=>l):=by
 refine aW.of Tryz.func81 Z Tryz.ntmps81 Z λc=>?_;unfold rF at h;refine aR<|aH (aN.box (cs:=[g,i]) Z Z) Z λj=>aB Z<|aL<|aR<|aB Z<|aL<|aK<|dK (λm=>yD  m=some r) (λm z=>[(5,vU (m))]) (λm z=>[]) ?_ ?_
 ·refine aR<|aB Z<|aL<|aS<|eB (nA U k f) (λa A=>[(1,vU (f)),(2,vP j),(5,vU (a.1)),(6,vI (a.2))]) (λa A=>[cJ j [g,i] 29]) ((0:Int),(0:Int)) () h SF (bA.refl _) ?_;intro p a A h;refine aK<|aR<|aA Z<|bN Z<|dL 0 Z<|aC (gM Z (aD.fact 1 Z) Z) Z<|cZ Z<|aL ?_;refine d_ h Z (λh=>?_) λh=>?_
  ·refine cE<|aK<|dK (λb=>sS a (bK (nA U k f) p) b=some r) (λb n=>[(1,vU (f)),(2,vP j),(5,vU (b)),(6,vI (a.2))]) (λb n=>[cJ j [g,i] 29]) ?_ ?_
   ·refine aS<|aK<|dK (λd=>yE a (bK (nA U k f) p) d=some r) (λd o=>[(1,vU (f)),(2,vP j),(5,vU (a.1)),(6,vI (a.2)),(24,vB (d))]) (λd o=>[cJ j [g,i] 29]) ?_ ?_
    ·refine aO<|aA Z<|aA Z<|dZ h λt v h=>aH (zBg HL (uY U  t v) Z .nil) Z λC=>aA Z ?_;refine rZ (by exact rfl) (by exact rfl) (λe=>?_) (λe=>?_)
     ·have h:=LS e h;refine aM Z (lN 0 Z Z Z Z) Z<|bZ Z<|dZ h λu w h=>kJ Z (zBg Yy (CY U g i B u w) Z (jP [0,1] Z)) Z λD=>bZ Z<|dZ h λq y h=>kJ Z (zBg HL (uY U  q y) Z .nil) Z λE=>aM Z (lV Z) Z<|dA Z<|aL ?_;exact eW ((!q)) () h SF Z
     have h:=HU e h;refine aE Z<|aE Z<|aE Z<|aE Z<|aE Z<|aE Z<|c_ Z<|aL ?_;exact eW (false) () h SF Z
    intro d o h;refine tT h Z (λ_ h=>?_) λ_ h=>?_
    ·refine aO<|aA Z<|aA Z<|aC (Cw Z Z Z) Z<|dW h λs h=>aC (FL Z Z s) Z<|aC (Kr Z Z) Z<|aB Z<|eN<|jH ?_;exact eW (Fx .u32 a.1 (zE .u32 (1:Int) (wI .u64 a.2))) () h SF Z
    refine dM<|jH ?_;exact eW (a.1) () h SF Z
   intro b n h;unfold sS at h;refine aO<|aA Z<|cD Z<|aB Z<|aL ?_;exact tV (b,(wI .i64 (a.2+(1:Int)))) () h SF Z
  refine eS ?_;exact bU (a.1) () h SF .nil (aG.refl _ _)
 intro m z h;unfold yD at h;refine aR<|aA Z<|aB Z<|aL<|aQ ?_;cases h;exact fW Z
def rQ (U:Nat) (e:cW) (b:Int) (f:Int) (a:Int):Option (Int):=
 if b=(1:Int)then(Option.bind (s_ U a) λc=>(some (c)))else(if b=(2:Int)then(Option.bind (rF U ((e.1,e.2)) a) λd=>(some (d)))else(if b=(4:Int)then(some (f))else(some (a))))
def rP (U:Nat) (c:cW) (d:Int) (a:Int) (e:Int) (f:Bool):Option (Int):=
 if f=true then(some (0:Int))else(if(eG .u32 e a)=(0:Int)then(Option.bind (s_ U a) λb=>(rQ U c d a (b)))else(rQ U c d a (eG .u32 e a)))
def sQ (U:Nat) (a:cW) (c:Int) (b:Int) (e:Int):Option (Int):=
 Option.bind (rH U ((a.1,a.2)) c b) λd=>(if(!d)=true then(rP U a c b e (true))else(rP U a c b e (decide (b=(0:Int)))))
theorem aex:aV Tryz.prog 48:=Tryz.call48
theorem Ky (U:Nat) {j:cW} {f:Int} {b:Int} {k:Int} (d:Value)  (e:Value)  (w:iX) (r:Int) (h:sQ U j f b k=some r):
  aW Tryz.prog 48 #[Value.agg #[d,e],vI (f),vU (b),vU (k)] [Sl bX d j.1,S2 bD e w j.2] (λx:Unit=>vU (r)) (λx l=>l) (λ_ l=>l):=by
 refine aW.of Tryz.func48 Z Tryz.ntmps48 Z λc=>?_;refine aR<|aH (aN.box (cs:=[d,e]) Z Z) Z λn=>aB Z<|aL<|aK<|aK<|dK (λg=>rP U j f b k g=some r) (λg y=>[(1,vI (f)),(2,vU (b)),(3,vU (k)),(4,vP n),(18,vB (g))]) (λg y=>[cJ n [d,e] 29]) ?_ ?_
 ·refine aO<|cM 0 Z<|aA Z<|aA Z<|dZ h λq v h=>aH (zBg aeH (JP U d e w q v) Z (jP [0,1] Z)) Z λD=>aC (lV Z) Z<|aA Z ?_;refine rZ (by exact rfl) (by exact rfl) (λa=>?_) (λa=>?_)
  ·have h:=LS a h;refine aE Z<|aE Z<|dA Z<|aL ?_;exact eW (true) () h SF Z
  have h:=HU a h;refine bZ Z<|aM Z (Cy Z Z) Z<|c_ Z<|aL ?_;exact eW (decide (b=(0:Int))) () h SF Z
 intro g y h;refine tT h Z (λ_ h=>?_) λ_ h=>?_
 ·refine aR<|aB Z<|aL<|aQ<|aI ?_;cases h;exact oA Z
 refine cE<|aR<|aA Z<|aA Z<|wE Z<|aB Z<|aL<|aK<|dK (λi=>rQ U j f b i=some r) (λi z=>[(1,vI (f)),(2,vU (b)),(4,vP n),(9,vU (i))]) (λi z=>[cJ n [d,e] 29]) ?_ ?_
 ·refine aR<|aA Z<|bS Z<|aL ?_;refine d_ h Z (λh=>?_) λh=>?_
  ·refine aO<|aA Z<|dZ h λm u h=>aH (zBg Yz (Hz U  m u) Z .nil) Z λC=>aB Z<|aL ?_;exact eW (m) () h SF Z
  refine cE ?_;exact eW (eG .u32 k b) () h SF Z
 intro i z h;refine aK<|aR<|aA Z<|aL<|aS<|aR<|bS Z<|aB Z<|aL ?_;refine d_ h Z (λh=>?_) λh=>?_
 ·refine aR<|aA Z<|dZ h λo s h=>aH (zBg Yz (Hz U  o s) Z .nil) Z λA=>aB Z<|aL<|aQ<|bG<|aI ?_;cases h;exact oA Z
 refine aR<|bS Z<|aB Z<|aL ?_;refine d_ h Z (λh=>?_) λh=>?_
 ·refine aR<|cM 0 Z<|aA Z<|dZ h λp t h=>aH (zBg aeI (MD U d e w p t) Z (jP [0,1] Z)) Z λB=>aB Z<|aL<|aQ<|bG<|aI ?_;cases h;exact oA Z
 refine aR<|bS Z<|aB Z<|aL ?_;refine d_ h Z (λh=>?_) λh=>?_
 ·refine aR<|aA Z<|aB Z<|aL<|aQ<|bG<|aI ?_;cases h;exact oA Z
 refine dM<|jH<|aR<|aA Z<|aB Z<|aL<|aQ ?_;cases h;exact oA Z
def Ae (c:Int) (a:eL) (b:Bool):Option (Int):=
 if b=true then(some (-1:Int))else(some (min (max c a.1) a.2))
def wX (U:Nat) (a:jC) (f:cW) (g:Int) (b:Int) (d:Int):Option (Int):=
 Option.bind (mA U ((a.1,a.2.1,a.2.2)) ((f.1,f.2)) g b) λc=>(ck (0<=b∧b<(a.2.1.length:Int)) (if((at' a.2.1 b).2.1)=(3:Int)then(Option.bind (qG U d c.1 c.2) λe=>(Ae d c ((!e))))else(Ae d c (false))))
theorem abv:aV Tryz.prog 125:=Tryz.call125
theorem Np (U:Nat) {a:jC} {n:cW} {q:Int} {s:Int} {i:Int} (f:Value)  (g:Value)  (k:Value)  (m:Value)  (t:iX) (r:Int) (h:wX U a n q s i=some r):
  aW Tryz.prog 125 #[Value.agg #[vS (a.1),f,g],Value.agg #[k,m],vI (q),vI (s),vI (i)] [Sl aP f a.2.1,Sl aJ g a.2.2,PF (Value.agg #[vS a.1,f,g]),Sl bX k n.1,S2 bD m t n.2] (λx:Unit=>vI (r)) (λx l=>l) (λ_ l=>l):=by
 refine aW.of Tryz.func125 Z Tryz.ntmps125 Z λc=>?_;refine aR<|aH (aN.box (cs:=[vS (a.1),f,g]) Z Z) Z λw=>aH (aN.box (cs:=[k,m]) Z Z) Z λy=>aB Z<|aL<|aR<|cM 1 Z<|cM 0 Z<|aA Z<|aA Z<|dZ h λj u h=>aH (zBg TA (Fb U f g k m t j u) Z (jP [0,1,2,3,4] Z)) Z λz=>aA Z<|eQ Z<|eQ Z<|aB Z<|aB Z<|aL<|aK<|aK<|dK (λb=>Ae i j b=some r) (λb p=>[(4,vI (i)),(11,vI (j.1)),(12,vI (j.2)),(34,vB (b))]) (λb p=>[]) ?_ ?_
 ·refine aO<|bN Z<|dL 1 Z<|aA Z<|dW h λd h=>aC (a_ Z Z (aD.fact 0 Z) Z Z d) Z<|aC (dX Z Z Z Z Z) Z<|aC (e_ Z (aD.fact 0 Z) Z Z Z lC d) Z<|bS Z<|aA Z ?_;refine wN h Z (λ_ h=>?_) λ_ h=>?_
  ·refine bZ Z<|bZ Z<|bZ Z<|dZ h λe o h=>kJ Z (zBg HM (yT U  e o) Z .nil) Z λv=>aM Z (lV Z) Z<|dA Z<|aL ?_;exact bU ((!e)) () h SF .nil (aG.refl _ _)
  refine aE Z<|aE Z<|aE Z<|aE Z<|aE Z<|c_ Z<|aL ?_;exact bU (false) () h SF .nil (aG.refl _ _)
 intro b p h;refine tT h Z (λ_ h=>?_) λ_ h=>?_
 ·refine aR<|aB Z<|aL<|aQ<|aI ?_;cases h;exact fW Z
 refine cE<|aR<|aA Z<|aA Z<|aC (DZ Z Z) Z<|aA Z<|aC (NN Z Z) Z<|aB Z<|aL<|aQ ?_;cases h;exact fW Z
def Bp  (a:aX):Option aX:=
 some (a)
def xJ (U:Nat) (b:jC) (e:cW) (i:bO) (h:Int) (c:Int) (a:qA) (d:wF->Option aX):Option aX:=
 if a.1<(((at' b.2.2 c).2.2.2).length:Int)then(ck (0<=a.1∧a.1<(((at' b.2.2 c).2.2.2).length:Int)) (ck (0<=a.1∧a.1<(((at' b.2.2 c).2.2.2).length:Int)) (ck (0<=a.1∧a.1<(((at' b.2.2 c).2.2.2).length:Int)) (Option.bind (dY U ((e.1,e.2)) i h (-1:Int) ((at' ((at' b.2.2 c).2.2.2) a.1).2.2) (0:Int)) λf=>(Option.bind (wX U ((b.1,b.2.1,b.2.2)) ((e.1,e.2)) h ((at' ((at' b.2.2 c).2.2.2) a.1).1) f) λg=>(ck (0<=((at' ((at' b.2.2 c).2.2.2) a.1).1)∧((at' ((at' b.2.2 c).2.2.2) a.1).1)<(a.2.length:Int)) (d ((wI .i64 (a.1+(1:Int))),(List.set a.2 (Int.toNat ((at' ((at' b.2.2 c).2.2.2) a.1).1)) g)))))))))else(Bp  (a.2))
def zV (U:Nat) (b:jC) (d:cW) (c:bO) (a:Int):Option aX:=
 ck (0<=a∧a<(c.length:Int)) (ck ((List.length ([]:aX):Int)+((at' c a).length:Int)<=1099511627) (Option.bind (nO U ((b.1,b.2.1,b.2.2)) ((d.1,d.2)) c a) λe=>(ck (0<=e∧e<(b.2.2.length:Int)) (bK (xJ U b d c a e) U ((0:Int),(([]:aX)++(at' c a)))))))
theorem aeJ:aV Tryz.prog 83:=Tryz.call83
theorem Qf (U:Nat) {e:jC} {A:cW} {B:bO} {t:Int} (i:Value)  (j:Value)  (k:Value)  (m:Value)  (C:iX)  (w:Value)  (I:lU) (r:aX) (h:zV U e A B t=some r):
  aW Tryz.prog 83 #[Value.agg #[vS (e.1),i,j],Value.agg #[k,m],w,vI (t)] [Sl aP i e.2.1,Sl aJ j e.2.2,PF (Value.agg #[vS e.1,i,j]),Sl bX k A.1,S2 bD m C A.2,S2 bX w I B] (λx:Value=>x) (λx l=>Ar cS x r::l) (λ_ l=>l):=by
 refine aW.of Tryz.func83 Z Tryz.ntmps83 Z λc=>?_;refine aR<|aH (aN.box (cs:=[vS (e.1),i,j]) Z Z) Z λJ=>aH (aN.box (cs:=[k,m]) Z Z) Z λK=>aB Z<|aL<|aR<|aA Z<|aA Z<|dW h λy h=>aC (cY Z Z (aD.fact 5 Z) Z Z y) Z<|aC (cL Z (aD.fact 5 Z) Z Z y) Z<|gF (cK cS)<|dW h λL h=>aH (bH 0 dD Z Z Z (zBi (aD.fact 5 Z) y.1 y.2) Z Z Z Z L Z) Z λv=>aB Z<|aL<|aK ?_;refine JR.start [0,1,0,0,0,0,60,127,255,511,1023] 7 mixedOrders (by decide +kernel) ?_;refine zBj (by exact rfl) ?_;refine cB Z<|fD 2 Z<|gK 2 Z<|gK 1 Z<|aY Z<|aY Z<|dZ h λu N h=>zBh Z Z Z (zBg UJ (Hy U i j k m C w I u N) Z (jP [0,1,2,3,4,5] Z)) Z (λO=>(kG [([2],[])] Z)) λO=>bP 7 Z Z<|dW h λb h=>aC (a_ Z Z (aD.fact 1 Z) Z Z b) Z<|aC (dX Z Z Z Z Z) Z<|aC (e_ Z (aD.fact 1 Z) Z Z Z tI b) Z<|aB Z<|aL<|aK<|dK (λd=>Bp  d=some r) (λd n=>[(9,v)]) (λd n=>[Ar cS v d]) ?_ ?_
 ·refine aR<|aB Z<|aL<|aS<|eB (xJ U e A B t u) (λa o=>[(2,w),(3,vI (t)),(4,vP J),(5,vP K),(9,v),(10,(at' e.2.2 u).2.2.1),(11,vI (a.1))]) (λa o=>[Ar cS v a.2,cJ K [k,m] 29,cJ J [vS (e.1),i,j] 36]) ((0:Int),(([]:aX)++(at' B t))) () h SF (bA.refl _) ?_;intro M a o h;refine aK<|aR<|aA Z<|aA Z<|aC (fX Z (jD (aD.fact 1 Z) cH b.1 b.2) Z) Z<|cZ Z<|aL ?_;refine d_ h Z (λh=>?_) λh=>?_
  ·refine cE<|aK<|aS ?_;refine JR.start [0,0,0,6,14,30,0,0,0,0,0,1536,3584,7680,0,0,0,0,0,393216,917504,1966080,4177920,8388544,16777215,33554431] 24 mixedOrders (by decide +kernel) ?_;refine zBj (by exact rfl) ?_;refine aY Z<|aY Z<|aY Z<|dW h λp h=>bM Z .nil (kH 1 Z) (a_ Z Z (jD (aD.fact 0 Z) cH b.1 b.2) Z Z p) aU.z<|iY Z (dX Z Z Z Z Z)<|bM Z .nil (kH 1 Z) (e_ Z (jD (aD.fact 0 Z) cH b.1 b.2) Z Z Z Fg p) aU.z<|gK 2 Z<|gK 1 Z<|aY Z<|aY Z<|aY Z<|dW h λq h=>bM Z .nil (kH 1 Z) (a_ Z Z (jD (aD.fact 0 Z) cH b.1 b.2) Z Z q) aU.z<|iY Z (dX Z Z Z Z Z)<|bM Z .nil (kH 1 Z) (e_ Z (jD (aD.fact 0 Z) cH b.1 b.2) Z Z Z Fg q) aU.z<|gK 1 Z<|aY Z<|aY Z<|aY Z<|aY Z<|dW h λf h=>bM Z .nil (kH 1 Z) (a_ Z Z (jD (aD.fact 0 Z) cH b.1 b.2) Z Z f) aU.z<|iY Z (dX Z Z Z Z Z)<|bM Z .nil (kH 1 Z) (e_ Z (jD (aD.fact 0 Z) cH b.1 b.2) Z Z Z Kq f) aU.z<|dZ h λD E h=>zBh Z Z Z (zBg Cf (MA U k m C w I ((at' ((at' e.2.2 u).2.2.2) a.1).2.1) D E) Z (aG.cons (aD.fact 3 Z) (aG.cons (aD.fact 4 Z) (aG.cons (aD.fact 5 Z) (aG.cons (jD (jD (aD.fact 1 Z) cH b.1 b.2) BP f.1 f.2) .nil))))) Z (λG=>(kG [([],[1]),([],[1]),([1],[]),([2],[]),([],[1]),([],[1])] Z)) λG=>dZ h λg F h=>zBh Z Z Z (zBg abv (Np U i j k m C g F) Z (jP [0,1,2,3,4] Z)) Z (λH=>(kG [([],[1]),([],[1])] Z)) λH=>bP 24 Z Z<|dW h λs h=>aC (a_ Z Z (aT (aD.res 0 Z) dD) Z Z s) Z<|zF 0 g s Z Z Z Z Z Z Z<|eN<|jH<|aO<|aA Z<|cD Z<|aB Z<|aL ?_;exact tV ((wI .i64 (a.1+(1:Int))),(List.set a.2 (Int.toNat ((at' ((at' e.2.2 u).2.2.2) a.1).1)) g)) () h SF Z
  refine eS ?_;exact bU (a.2) () h SF (bA.ix [0] Z Z) (aG.refl _ _)
 intro d n h;unfold Bp at h;refine aR<|aA Z<|aB Z<|aL<|aQ ?_;cases h;exact gE (v) Z Z (RV.tmp Z) (bA.refl _) aG.nil
def Bo  (a:bO):Option Gp:=
 some (a,(0:Int))
def xI (b:Int×bO) (a:(Int×bO)->Option Gp) (c:bO):Option Gp:=
 a ((wI .i64 (b.1+(1:Int))),c)
def tB (U:Nat) (c:jC) (f:cW) (g:bO) (h:Int) (a:Int×bO) (b:(Int×bO)->Option Gp):Option Gp:=
 if a.1<(g.length:Int)then(Option.bind (nN U h a.1) λd=>(if d=true then(Option.bind (zV U ((c.1,c.2.1,c.2.2)) ((f.1,f.2)) g a.1) λe=>(ck (0<=a.1∧a.1<(a.2.length:Int)) (xI a b (List.set a.2 (Int.toNat a.1) e))))else(xI a b (a.2))))else(Bo  (a.2))
def Bn (U:Nat) (d:jC) (e:cW) (b:bO) (f:Int) (c:Bool):Option Gp:=
 if c=true then(some (([]:bO),(11:Int)))else(Option.bind (vN U b) λa=>(bK (tB U d e b f) U ((0:Int),a)))
def vO (U:Nat) (a:jC) (b:cW) (c:bO) (d:Int):Option Gp:=
 Option.bind (kI U ((a.1,a.2.1,a.2.2)) ((b.1,b.2)) c) λf=>(if f≠(0:Int)then(some (([]:bO),f))else(if d=(0:Int)then(Bn U a b c d (true))else(Option.bind (kU U ((a.1,a.2.1,a.2.2)) ((b.1,b.2)) c) λe=>(Bn U a b c d (decide ((kE .u32 d e)≠(0:Int)))))))
theorem aey:aV Tryz.prog 49:=Tryz.call49
theorem Qe (U:Nat) {f:jC} {z:cW} {D:bO} {s:Int} (p:Value)  (q:Value)  (t:Value)  (u:Value)  (I:iX)  (v:Value)  (H:lU) (r:bO×Int) (h:vO U f z D s=some r):
  aW Tryz.prog 49 #[Value.agg #[vS (f.1),p,q],Value.agg #[t,u],v,vU (s)] [Sl aP p f.2.1,Sl aJ q f.2.2,PF (Value.agg #[vS f.1,p,q]),Sl bX t z.1,S2 bD u I z.2,S2 bX v H D] (λx:Fu=>Value.tuple #[x.1,vI (r.2)]) (λx l=>Ar fE.raw x.1 x.2::k_ cS x.2 r.1::l) (λ_ l=>l):=by
 refine aW.of Tryz.func49 Z Tryz.ntmps49 Z λc=>?_;refine aR<|aH (aN.box (cs:=[vS (f.1),p,q]) Z Z) Z λw=>aH (aN.box (cs:=[t,u]) Z Z) Z λy=>aB Z<|aB Z<|aL<|aK<|aR<|cM 1 Z<|cM 0 Z<|aA Z<|dZ h λR S h=>aH (zBg Tx (DU U p q t u I v H R S) Z (jP [0,1,2,3,4,5] Z)) Z λW=>aB Z<|aL<|aR<|aA Z<|jQ Z<|aL ?_;refine d_ h Z (λh=>?_) λh=>?_
 ·refine aR<|aA Z<|aB Z<|aB Z<|aL<|aQ<|aI<|gF (cK fE.raw) (gF (mD cS) ?_);cases h;exact eD ((lL),([]:gV)) Z Z (RV.tmp Z) (RV.tmp Z) (bA.ix [1,0] Z Z) aG.nil
 refine cE<|aK<|aK<|dK (λA=>Bn U f z D s A=some r) (λA Q=>[(2,v),(3,vU (s)),(4,vP w),(5,vP y),(30,vB (A))]) (λA Q=>[cJ y [t,u] 29,cJ w [vS (f.1),p,q] 36]) ?_ ?_
 ·refine aO<|aA Z<|bS Z<|aA Z ?_;refine wN h Z (λ_ h=>?_) λ_ h=>?_
  ·refine aE Z<|aE Z<|aE Z<|aE Z<|aE Z<|aE Z<|aE Z<|dA Z<|aL ?_;exact eW (true) () h SF Z
  refine bZ Z<|aM Z (lN 1 Z Z Z Z) Z<|aM Z (lN 0 Z Z Z Z) Z<|bZ Z<|dZ h λG O h=>kJ Z (zBg YA (Fp U p q t u I v H G O) Z (jP [0,1,2,3,4,5] Z)) Z λV=>aM Z (zG Z Z) Z<|aM Z (Dd Z Z) Z<|c_ Z<|aL ?_;exact eW (decide ((kE .u32 s G)≠(0:Int))) () h SF Z
 intro A Q h;refine tT h Z (λ_ h=>?_) λ_ h=>?_
 ·refine aR<|aB Z<|aB Z<|aL<|aQ<|aI<|gF (cK fE.raw) (gF (mD cS) ?_);cases h;exact eD ((lL),([]:gV)) Z Z (RV.tmp Z) (RV.tmp Z) (bA.ix [1,0] Z Z) aG.nil
 refine cE<|aR<|aA Z<|dZ h λE L h=>aH (zBg Yu (Ja U v H E L) Z (jP [5] Z)) Z λb=>aB Z<|aL<|aK<|CM (B:=gV) (λg=>Bo  g=some r) (λg m=>[(11,b.1)]) (λg m=>[Ar fE.raw b.1 m,k_ cS m g]) ?_ ?_
 ·refine aR<|aB Z<|aL<|aS<|eB (B:=gV) (tB U f z D s) (λa d=>[(2,v),(3,vU (s)),(4,vP w),(5,vP y),(11,b.1),(12,vI (a.1))]) (λa d=>[Ar fE.raw b.1 d,k_ cS d a.2,cJ y [t,u] 29,cJ w [vS (f.1),p,q] 36]) ((0:Int),E) (b.2) h SF (bA.refl _) ?_;intro J a d h;refine aK<|aR<|aA Z<|aA Z<|aC (gM Z (aD.fact 5 Z) Z) Z<|cZ Z<|aL ?_;refine d_ h Z (λh=>?_) λh=>?_
  ·refine cE<|aK<|CM (B:=gV) (λe=>xI a (bK (tB U f z D s) J) e=some r) (λe n=>[(2,v),(3,vU (s)),(4,vP w),(5,vP y),(11,b.1),(12,vI (a.1))]) (λe n=>[Ar fE.raw b.1 n,k_ cS n e,cJ y [t,u] 29,cJ w [vS (f.1),p,q] 36]) ?_ ?_
   ·refine aS<|aR<|aA Z<|aA Z<|dZ h λK M h=>aH (zBg HL (uY U  K M) Z .nil) Z λT=>aL ?_;refine tT h Z (λ_ h=>?_) λ_ h=>?_
    ·refine aO<|aA Z<|aA Z<|cM 3 Z<|cM 2 Z<|aA Z<|aA Z<|dZ h λF N h=>aH (zBg aeJ (Qf U p q t u I v H F N) Z (jP [0,1,2,3,4,5] Z)) Z λP=>dW h λo h=>aC (cY Z Z (bB (i:=1) (j:=2) Z Z dD) Z Z o) Z<|bE (Know.one ((aT (aD.res 0 Z) dD))) λC=>gF (yQ (k:=a.1) 2 0 Z Z Z o) ?_;refine qD 0 1 ⟨o.1,by first|exact o.2|simpa using o.2⟩ Z Z Z Z Z (by simp) C Z ?_;refine eN<|jH ?_;exact eW (List.set a.2 (Int.toNat a.1) F) (List.set d (Int.toNat a.1) P) h SF Z
    refine dM<|jH ?_;exact eW (a.2) (d) h SF Z
   intro e n h;unfold xI at h;refine aO<|aA Z<|cD Z<|aB Z<|aL ?_;exact tV ((wI .i64 (a.1+(1:Int))),e) (n) h SF Z
  refine eS ?_;exact bU (a.2) (d) h SF (bA.ix [0,1] Z Z) (aG.refl _ _)
 intro g m h;unfold Bo at h;refine aR<|aA Z<|aB Z<|aB Z<|aL<|aQ ?_;cases h;exact eD (b.1,m) Z Z (RV.tmp Z) (RV.tmp Z) (bA.refl _) aG.nil
def oZ  (a:Bool):Option Bool:=
 some (a)
def rR (U:Nat) (a:BN) (c:Bool):Option Bool:=
 if c=true then(some (false))else(if a.1<=(4096:Int)then(if a.1<=a.2.1 then(if a.2.1<=(wI .i64 ((24:Int)*a.1))then(Option.bind (kC U (24:Int)) λb=>(oZ  (decide ((kE .u32 a.2.2.2.2 b)=(0:Int)))))else(oZ  (false)))else(oZ  (false)))else(oZ  (false)))
def xA (U:Nat) (a:BN):Option Bool:=
 if a.2.2.1<(0:Int)then(rR U a (true))else(if a.2.2.2.1<a.2.2.1 then(rR U a (true))else(if(1:Int)<(wI .i64 (a.2.2.2.1 - a.2.2.1))then(rR U a (true))else(rR U a (decide (a.1<a.2.2.2.1)))))
theorem aeK:aV Tryz.prog 84:=Tryz.call84
theorem Nw (U:Nat) {a:BN} (r:Bool) (h:xA U a=some r):
  aW Tryz.prog 84 #[Value.agg #[vI (a.1),vI (a.2.1),vI (a.2.2.1),vI (a.2.2.2.1),vU (a.2.2.2.2)]] [] (λx:Unit=>vB (r)) (λx l=>l) (λ_ l=>l):=by
 refine aW.of Tryz.func84 Z Tryz.ntmps84 Z λc=>?_;refine aR<|aH (aN.box (cs:=[vI (a.1),vI (a.2.1),vI (a.2.2.1),vI (a.2.2.2.1),vU (a.2.2.2.2)]) Z Z) Z λm=>aB Z<|aL<|aK<|aK<|dK (λf=>rR U a f=some r) (λf n=>[(1,vP m),(27,vB (f))]) (λf n=>[cJ m [vI (a.1),vI (a.2.1),vI (a.2.2.1),vI (a.2.2.2.1),vU (a.2.2.2.2)] 53]) ?_ ?_
 ·refine aO<|bN Z<|dL 0 Z<|cZ Z<|aA Z ?_;refine wN h Z (λ_ h=>?_) λ_ h=>?_
  ·refine aE Z<|aE Z<|aE Z<|aE Z<|aE Z<|dA Z<|aA Z<|aE Z<|aE Z<|aE Z<|aE Z<|aE Z<|aE Z<|dA Z<|aA Z<|aE Z<|aE Z<|aE Z<|aE Z<|aE Z<|dA Z<|aL ?_;exact eW (true) () h SF Z
  refine aM Z (cQ Z Z Z Z Z) Z<|aM Z (dN 0 Z Z Z Z Z) Z<|aM Z (cQ Z Z Z Z Z) Z<|aM Z (dN 0 Z Z Z Z Z) Z<|aM Z (uE Z Z) Z<|c_ Z<|aA Z ?_;refine wN h Z (λ_ h=>?_) λ_ h=>?_
  ·refine aE Z<|aE Z<|aE Z<|aE Z<|aE Z<|aE Z<|dA Z<|aA Z<|aE Z<|aE Z<|aE Z<|aE Z<|aE Z<|dA Z<|aL ?_;exact eW (true) () h SF Z
  refine aM Z (cQ Z Z Z Z Z) Z<|aM Z (dN 0 Z Z Z Z Z) Z<|aM Z (cQ Z Z Z Z Z) Z<|aM Z (dN 0 Z Z Z Z Z) Z<|aM Z (lO Z Z) Z<|aM Z (uE Z Z) Z<|c_ Z<|aA Z ?_;refine wN h Z (λ_ h=>?_) λ_ h=>?_
  ·refine aE Z<|aE Z<|aE Z<|aE Z<|aE Z<|dA Z<|aL ?_;exact eW (true) () h SF Z
  refine aM Z (cQ Z Z Z Z Z) Z<|aM Z (dN 0 Z Z Z Z Z) Z<|aM Z (cQ Z Z Z Z Z) Z<|aM Z (dN 0 Z Z Z Z Z) Z<|aM Z (uE Z Z) Z<|c_ Z<|aL ?_;exact eW (decide (a.1<a.2.2.2.1)) () h SF Z
 intro f n h;refine tT h Z (λ_ h=>?_) λ_ h=>?_
 ·refine aR<|aB Z<|aL<|aQ<|aI ?_;cases h;exact oA Z
 refine cE<|aK<|dK (λg=>oZ  g=some r) (λg o=>[(2,vB (g))]) (λg o=>[]) ?_ ?_
 ·refine JR.start [0,1,3,7,15,31,15,79,255,511,1023,2047,4095,2047,10239,26623,65535,131071,262143,524287,1048575,524287,4194303,8388607,16777215,33554431] 22 mixedOrders (by decide +kernel) ?_;refine zBj (by exact rfl) ?_;refine cB Z<|fD 0 Z<|iY Z (uF Z Z)<|aY Z ?_;refine Gy (by exact rfl) (by exact rfl) (by exact rfl) (λe=>?_) (λe=>?_)
  ·have h:=LS e h;refine mY Z .nil .nil (cQ Z Z Z Z Z) aU.z<|mY Z (bA.cons 0 Z .nil) .nil (dN 0 Z Z Z Z Z) aU.z<|mY Z .nil .nil (cQ Z Z Z Z Z) aU.z<|mY Z (bA.cons 0 Z .nil) .nil (dN 0 Z Z Z Z Z) aU.z<|mY Z .nil .nil (uF Z Z) aU.z<|iY Z (KH Z Z)<|aY Z ?_;refine Gy (by exact rfl) (by exact rfl) (by exact rfl) (λb=>?_) (λb=>?_)
   ·have h:=LS b h;refine mY Z .nil .nil (cQ Z Z Z Z Z) aU.z<|mY Z (bA.cons 0 Z .nil) .nil (dN 0 Z Z Z Z Z) aU.z<|mY Z .nil .nil (cQ Z Z Z Z Z) aU.z<|mY Z (bA.cons 0 Z .nil) .nil (dN 0 Z Z Z Z Z) aU.z<|mY Z .nil .nil (zH Z Z) aU.z<|mY Z .nil .nil (uF Z Z) aU.z<|iY Z (KH Z Z)<|aY Z ?_;refine Gy (by exact rfl) (by exact rfl) (by exact rfl) (λd=>?_) (λd=>?_)
    ·have h:=LS d h;refine mY Z .nil .nil (cQ Z Z Z Z Z) aU.z<|mY Z (bA.cons 0 Z .nil) .nil (dN 0 Z Z Z Z Z) aU.z<|dZ h λi j h=>XP Z Z Z Z (zBg Lu (BM U  i j) Z .nil) Z (λk=>(kG [([0],[])] Z)) λk=>bP 22 Z Z<|aM Z (zG Z Z) Z<|aM Z (Cy Z Z) Z<|dA Z<|aB Z<|aL ?_;exact bU (decide ((kE .u32 a.2.2.2.2 i)=(0:Int))) () h SF .nil (aG.refl _ _)
    have h:=ifN d h;refine dQ Z Z Z Z<|dQ Z Z Z Z<|dQ Z Z Z Z<|bP 22 Z Z<|aE Z<|aE Z<|c_ Z<|aB Z<|aL ?_;exact bU (false) () h SF .nil (aG.refl _ _)
   have h:=ifN b h;refine dQ Z Z Z Z<|dQ Z Z Z Z<|dQ Z Z Z Z<|dQ Z Z Z Z<|dQ Z Z Z Z<|dQ Z Z Z Z<|iY Z (Ip Z Z)<|aY Z<|dQ Z Z Z Z<|dQ Z Z Z Z<|dQ Z Z Z Z<|bP 22 Z Z<|aE Z<|aE Z<|c_ Z<|aB Z<|aL ?_;exact bU (false) () h SF .nil (aG.refl _ _)
  have h:=ifN e h;refine dQ Z Z Z Z<|dQ Z Z Z Z<|dQ Z Z Z Z<|dQ Z Z Z Z<|dQ Z Z Z Z<|iY Z (Ip Z Z)<|aY Z<|dQ Z Z Z Z<|dQ Z Z Z Z<|dQ Z Z Z Z<|dQ Z Z Z Z<|dQ Z Z Z Z<|dQ Z Z Z Z<|iY Z (Ip Z Z)<|aY Z<|dQ Z Z Z Z<|dQ Z Z Z Z<|dQ Z Z Z Z<|bP 22 Z Z<|aE Z<|aE Z<|c_ Z<|aB Z<|aL ?_;exact bU (false) () h SF .nil (aG.refl _ _)
 intro g o h;unfold oZ at h;refine aQ ?_;cases h;exact fW Z
def Al  (a:Int):Option (Int):=
 some (a)
def uW (c:eL) (b:gC->Option (Int)) (a:Int):Option (Int):=
 b (a,(wI .i64 (c.2+(1:Int))))
def rO (U:Nat) (d:Int) (a:eL) (b:gC->Option (Int)):Option (Int):=
 if a.2<(32:Int)then(Option.bind (nN U d a.2) λc=>(if c=true then(uW a b (wI .i64 (a.1+(1:Int))))else(uW a b (a.1))))else(Al  (a.1))
def wZ (U:Nat) (a:Int):Option (Int):=
 bK (rO U a) U ((0:Int),(0:Int))
theorem aeL:aV Tryz.prog 85:=Tryz.call85
theorem Nu (U:Nat) {d:Int} (r:Int) (h:wZ U d=some r):
  aW Tryz.prog 85 #[vU (d)] [] (λx:Unit=>vI (r)) (λx l=>l) (λ_ l=>l):=by
 refine aW.of Tryz.func85 Z Tryz.ntmps85 Z λc=>?_;unfold wZ at h;refine aR<|aB Z<|aL<|aR<|aB Z<|aL<|aK<|dK (λe=>Al  e=some r) (λe j=>[(3,vI (e))]) (λe j=>[]) ?_ ?_
 ·refine aR<|aB Z<|aL<|aS<|eB (rO U d) (λb k=>[(0,vU (d)),(3,vI (b.1)),(4,vI (b.2))]) (λb k=>[]) ((0:Int),(0:Int)) () h SF (bA.refl _) ?_;intro m b k h;refine aK<|aR<|aA Z<|cZ Z<|aL ?_;refine d_ h Z (λh=>?_) λh=>?_
  ·refine cE<|aK<|dK (λa=>uW b (bK (rO U d) m) a=some r) (λa f=>[(0,vU (d)),(3,vI (a)),(4,vI (b.2))]) (λa f=>[]) ?_ ?_
   ·refine aS<|aR<|aA Z<|aA Z<|dZ h λg i h=>aH (zBg HL (uY U  g i) Z .nil) Z λn=>aL ?_;refine tT h Z (λ_ h=>?_) λ_ h=>?_
    ·refine aO<|aA Z<|cD Z<|aB Z<|eN<|jH ?_;exact eW (wI .i64 (b.1+(1:Int))) () h SF Z
    refine dM<|jH ?_;exact eW (b.1) () h SF Z
   intro a f h;unfold uW at h;refine aO<|aA Z<|cD Z<|aB Z<|aL ?_;exact tV (a,(wI .i64 (b.2+(1:Int)))) () h SF Z
  refine eS ?_;exact eW (b.1) () h SF Z
 intro e j h;unfold Al at h;refine aR<|aA Z<|aB Z<|aL<|aQ ?_;cases h;exact fW Z
def Am (b:BN) (c:Int) (a:eL):Option Ow:=
 some ((((wI .i64 (b.1+(1:Int))),(wI .i64 (b.2.1+c)),a.1,(wI .i64 (b.2.2.1+(1:Int))),a.2)),(0:Int))
def Co (U:Nat) (a:BN) (c:Int) (d:Int) (e:Bool):Option Ow:=
 if e=true then(some ((((0:Int),(0:Int),(0:Int),(0:Int),(0:Int))),(11:Int)))else(if a.1=(4096:Int)then(some ((((0:Int),(0:Int),(0:Int),(0:Int),(0:Int))),(3:Int)))else(Option.bind (wZ U c) λb=>(if(eG .u32 (kE .u32 a.2.2.2.2 c) d)=(0:Int)then(Am a b ((wI .i64 (a.2.2.1+(1:Int))),d))else(Am a b (a.2.2.1,(eG .u32 (kE .u32 a.2.2.2.2 c) d))))))
def uL (U:Nat) (a:BN) (b:Int) (c:Int):Option Ow:=
 Option.bind (xA U ((a.1,a.2.1,a.2.2.1,a.2.2.2.1,a.2.2.2.2))) λe=>(if(!e)=true then(some ((((0:Int),(0:Int),(0:Int),(0:Int),(0:Int))),(7:Int)))else(if b=(0:Int)then(Co U a b c (true))else(Option.bind (kC U (24:Int)) λd=>(Co U a b c (decide ((kE .u32 (Fx .u32 b c) d)≠(0:Int)))))))
theorem aez:aV Tryz.prog 50:=Tryz.call50
theorem Sj (U:Nat) {a:BN} {f:Int} {e:Int} (r:(Int×Int×Int×Int×Int)×Int) (h:uL U a f e=some r):
  aW Tryz.prog 50 #[Value.agg #[vI (a.1),vI (a.2.1),vI (a.2.2.1),vI (a.2.2.2.1),vU (a.2.2.2.2)],vU (f),vU (e)] [] (λx:Unit=>Value.tuple #[Value.agg #[vI (r.1.1),vI (r.1.2.1),vI (r.1.2.2.1),vI (r.1.2.2.2.1),vU (r.1.2.2.2.2)],vI (r.2)]) (λx l=>l) (λ_ l=>l):=by
 refine aW.of Tryz.func50 Z Tryz.ntmps50 Z λc=>?_;refine aR<|aH (aN.box (cs:=[vI (a.1),vI (a.2.1),vI (a.2.2.1),vI (a.2.2.2.1),vU (a.2.2.2.2)]) Z Z) Z λk=>aH (aN.alloc (cs:=SV) Z Z) Z λm=>aB Z<|aL<|aK<|aS<|aR<|cM 1 Z<|dZ h λs t h=>aH (zBg aeK (Nw U  s t) Z .nil) Z λv=>aC (lV Z) Z<|aB Z<|aL ?_;refine tT h Z (λ_ h=>?_) λ_ h=>?_
 ·refine aR ?_;refine aC (Cv (r:=Value.agg #[vI (0:Int),vI (0:Int),vI (0:Int),vI (0:Int),vU (0:Int)]) (by intro w;simp[Instr.build,Instr.fill,cT,b_,bW,cU,cV,cA,dJ])) Z ?_;refine bF 0 (vs:=SV) Z Z Z Z Z Z<|aB Z<|aL<|aQ<|bG<|aI ?_;cases h;exact eD () Z Z (RV.cell 0 Z Z Z Z) (RV.tmp Z) .nil aG.nil
 refine aK<|dK (λg=>Co U a f e g=some r) (λg q=>[(1,vU (f)),(2,vU (e)),(3,vP k),(6,vP m),(13,vB (g))]) (λg q=>[cJ m SV 53,cJ k [vI (a.1),vI (a.2.1),vI (a.2.2.1),vI (a.2.2.2.1),vU (a.2.2.2.2)] 53]) ?_ ?_
 ·refine aO<|aA Z<|bS Z<|aA Z ?_;refine wN h Z (λ_ h=>?_) λ_ h=>?_
  ·refine aE Z<|aE Z<|aE Z<|aE Z<|aE Z<|aE Z<|dA Z<|aB Z<|aL ?_;exact eW (true) () h SF Z
  refine bZ Z<|bZ Z<|aM Z (Kr Z Z) Z<|dZ h λj o h=>kJ Z (zBg Lu (BM U  j o) Z .nil) Z λu=>aM Z (zG Z Z) Z<|aM Z (Dd Z Z) Z<|c_ Z<|aB Z<|aL ?_;exact eW (decide ((kE .u32 (Fx .u32 f e) j)≠(0:Int))) () h SF Z
 intro g q h;refine tT h Z (λ_ h=>?_) λ_ h=>?_
 ·refine aR ?_;refine aC (Cv (r:=Value.agg #[vI (0:Int),vI (0:Int),vI (0:Int),vI (0:Int),vU (0:Int)]) (by intro w;simp[Instr.build,Instr.fill,cT,b_,bW,cU,cV,cA,dJ])) Z ?_;refine bF 0 (vs:=SV) Z Z Z Z Z Z<|aB Z<|aL<|aQ<|bG<|aI ?_;cases h;exact eD () Z Z (RV.cell 0 Z Z Z Z) (RV.tmp Z) .nil aG.nil
 refine aR<|bN Z<|dL 1 Z<|bS Z<|aB Z<|aL ?_;refine d_ h Z (λh=>?_) λh=>?_
 ·refine aR ?_;refine aC (Cv (r:=Value.agg #[vI (0:Int),vI (0:Int),vI (0:Int),vI (0:Int),vU (0:Int)]) (by intro w;simp[Instr.build,Instr.fill,cT,b_,bW,cU,cV,cA,dJ])) Z ?_;refine bF 0 (vs:=SV) Z Z Z Z Z Z<|aB Z<|aL<|aQ<|bG<|aI ?_;cases h;exact eD () Z Z (RV.cell 0 Z Z Z Z) (RV.tmp Z) .nil aG.nil
 refine dM<|jH<|aR<|bN Z<|dL 1 Z<|cD Z<|bN Z<|gJ 1 Z Z Z Z Z Z<|aL<|aK ?_;refine JR.start [0,1,0,4,15,31,63] 4 mixedOrders (by decide +kernel) ?_;refine zBj (by exact rfl) ?_;refine cB Z<|fD 1 Z<|aY Z<|dZ h λd n h=>zBh Z Z Z (zBg aeL (Nu U  d n) Z .nil) Z (λp=>(kG [([1],[])] Z)) λp=>bP 4 Z Z<|cD Z<|bN Z<|gJ 1 Z Z Z Z Z Z<|aL<|aR<|bN Z<|dL 1 Z<|cD Z<|bN Z<|gJ 1 Z Z Z Z Z Z<|aL<|aR<|bN Z<|dL 1 Z<|aA Z<|aC (zG Z Z) Z<|aA Z<|wE Z<|bN Z<|gJ 1 Z Z Z Z Z Z<|aL<|aK<|dK (λb=>Am a d b=some r) (λb i=>[(3,vP k),(6,vP m)]) (λb i=>[cJ m SV 53,cJ k [vI (wI .i64 (a.1+(1:Int))),vI (wI .i64 (a.2.1+d)),vI (b.1),vI (wI .i64 (a.2.2.1+(1:Int))),vU (b.2)] 53]) ?_ ?_
 ·refine aR<|bN Z<|dL 1 Z<|bS Z<|aL ?_;refine d_ h Z (λh=>?_) λh=>?_
  ·refine aO<|bN Z<|dL 1 Z<|aA Z<|bN Z<|gJ 1 Z Z Z Z Z Z<|bN Z<|gJ 1 Z Z Z Z Z Z<|aL ?_;exact eW ((wI .i64 (a.2.2.1+(1:Int))),e) () h SF Z
  refine cE ?_;exact eW (a.2.2.1,(eG .u32 (kE .u32 a.2.2.2.2 f) e)) () h SF Z
 intro b i h;unfold Am at h;refine aR<|cM 1 Z<|bF 0 (vs:=[vI (wI .i64 (a.1+(1:Int))),vI (wI .i64 (a.2.1+d)),vI (b.1),vI (wI .i64 (a.2.2.1+(1:Int))),vU (b.2)]) Z Z Z Z Z Z<|aB Z<|aL<|aQ ?_;cases h;exact eD () Z Z (RV.cell 0 Z Z Z Z) (RV.tmp Z) .nil aG.nil
end Go.Proofs.YtahgemjmgopleaaGreatDoor
namespace Go.Proofs.YtahgemjmgopleaaGreatDoor
open Go Go.Sx
theorem WR {g:GR} (a:VG g):nV 1000 g=some (kW g g.1.length):=by
 have d:=a.n24;have b:=a.len;unfold nV;refine cR (F:=λk:Nat=>((kW g k,(k:Int)):eL)) g.1.length (λk c e=> ?_) (λc=> ?_) 1000 (by omega)
 ·unfold tR;simp only;rw[if_pos (by omega),cO (by omega),wr (by omega) (by omega)];rfl
 ·unfold tR tQ;simp only;rw[if_neg (by omega)]
section
variable {p:Dr} {g:GR} {R:List RL} {c:List (List Int)} {v:Nat}
theorem YX (b:VG g) (j:kK g p.2.1) {x:Nat} (k:x<p.2.1.length) (r:v<g.2.length):mA 1000 p g (v:Int) (x:Int)=some (zI g p.2.1 v x):=by
 obtain⟨⟨s,t⟩,⟨l,m⟩,n,o⟩:=j.small x k;have f:=j.kind x k;have q:=b.n24;have i:=b.len;have d:=IF b g.1.length (by omega);show mA 1000 p g (v:Int) (x:Int)=some (lo g (at' p.2.1 (x:Int)) v,hi g (at' p.2.1 (x:Int)) v);unfold mA;generalize u:at' p.2.1 (x:Int)=y at s t l m n o f;have w:0<=y.2.2.2.2.1*(g.2.length:Int):=Int.mul_nonneg l (by omega);have z:y.2.2.2.2.1*(g.2.length:Int)<=100000*24:=Int.mul_le_mul m (by omega) (by omega) (by omega);have A:0<=y.2.2.2.2.2*kW g g.1.length:=Int.mul_nonneg n d.1;have B:y.2.2.2.2.2*kW g g.1.length<=100000*255:=Int.mul_le_mul o d.2 d.1 (by omega);have a:0<=(x:Int)∧(x:Int)<(p.2.1.length:Int):=by omega
 rw[cO a];unfold lo hi;rcases f with h|h|h
 ·simp only[h];rw[if_neg (by decide),if_neg (by decide),cO a,cO a,cO a,cO a,aZ (WR b),if_neg (by decide),if_neg (by decide),if_neg (by decide),if_neg (by decide),wr (x:=y.2.2.2.2.1*_) (by omega) (by omega),wr (x:=y.2.2.2.2.2*_) (by omega) (by omega),wr (x:=y.2.2.2.1+_) (by omega) (by omega),wr (by omega) (by omega)]
 ·simp only[h];rw[if_pos trivial,if_pos trivial,if_pos trivial]
 ·have e:=(b.node v r).deg;simp only[h];rw[if_neg (by decide),if_pos trivial,cO (by omega),if_neg (by decide),if_pos trivial,if_neg (by decide),if_pos trivial];show some ((-1:Int),wI .i64 (((row g v).length:Int) - 1))=_;rw[wr (by omega) (by omega)]
theorem agQ (b:VG g) (d:kK g p.2.1):zU 1000 p g=some 0:=by
 have l:=b.n1;have j:=d.len;unfold zU;rw[aZ (show Dz 1000 _=some true from rfl),if_neg (by decide),aZ (show gW 1000 g=some true from(Cp g).1 b),if_neg (by decide)];refine cR (step:=tA 1000 p g) (K:=some 0) p.2.1.length (λk=>(k:Int)) (λk f e=> ?_) (λf=> ?_) 1000 (by omega)
 ·unfold tA Bf;rw[if_pos (by omega),aZ (show mA 1000 _ _ (0:Int) (k:Int)=_ from YX b d e (v:=0) (by omega)),cO (by omega),dH (by omega)];by_cases a:(at' p.2.1 (k:Int)).2.1=1
  ·obtain⟨m,n,o⟩:=d.range k e a;rw[if_pos a];have h:(zI g p.2.1 0 k).1=lo g (at' p.2.1 (k:Int)) 0:=rfl;have i:(zI g p.2.1 0 k).2=hi g (at' p.2.1 (k:Int)) 0:=rfl;rw[h,i,wr (by omega) (by omega),aZ (rU 1000 _ _ _),zA6 (by omega),if_neg (by decide)]
  ·rw[if_neg a,if_neg (by decide)]
 ·unfold tA Be;rw[if_neg (by omega)]
theorem Pf (hV:VG g) (hp:kK g p.2.1) (hc:Jo g c p.2.1):kI 1000 p g c=some 0:=by
 have h24:=hV.n24;have hcl:=hc.len;have hvl:=hp.len;unfold kI;rw[aZ (show zU 1000 _ _=some 0 from agQ hV hp),if_neg (by decide),if_neg (by simp[hcl])];refine cR (step:=oV 1000 p g c) (K:=some 0) g.2.length (λk=>(k:Int)) (λk ag hk=> ?_) (λag=> ?_) 1000 (by omega)
 ·have hr:=hc.row k hk;unfold oV;rw[if_pos (by omega),cO (by omega),if_neg (by omega)];refine cR (step:=uT 1000 p g c (k:Int) ag) p.2.1.length (λx=>(x:Int)) (λx ag2 hx=> ?_) (λag2=> ?_) 1000 (by omega)
  ·obtain⟨o1,o2⟩:=hc.ok k hk x hx;unfold uT;have hd:decide ((zI g p.2.1 k x).1<=at' (at' c (k:Int)) (x:Int)∧at' (at' c (k:Int)) (x:Int)<=(zI g p.2.1 k x).2)=true:=zA6 ⟨o1,o2⟩;rw[cO (by omega),if_pos (by omega),aZ (show mA 1000 _ _ (k:Int) (x:Int)=_ from YX hV hp hx hk),cO (by omega),cO (by omega),aZ (rU 1000 _ _ _),hd,if_neg (by decide),dH (by omega)]
  ·unfold uT Ag;rw[cO (by omega),if_neg (by omega),dH (by omega)]
 ·unfold oV Af;rw[if_neg (by omega)]
theorem adA (c:List (List Int)) (h:c.length<=900) (d:∀v,v<c.length->(at' c (v:Int)).length<=1000):vN 1000 c=some c:=by
 unfold vN;refine cR (step:=xE c) (K:=some c) c.length (λk=>(c.take k,(k:Int))) (λk b a=> ?_) (λb=> ?_) 1000 (by omega)
 ·have:=d k a;unfold xE;dsimp only;rw[if_pos (by omega),cO (by omega),cO (by simp;omega),cO (by simp;omega),List.nil_append,wA a,dH (by omega)]
 ·unfold xE Bg;dsimp only;rw[if_neg (by omega),List.take_length]
def Hl (p:Dr) (g:GR) (R:List RL):Prop:=∀c,Jo g c p.2.1->∀v:Nat,v<g.2.length->∀r∈R,dY 1000 g c (v:Int) (-1) r.1.ts 0=some (Ec (cC p g) c v r.1)∧∀s∈r.2,dY 1000 g c (v:Int) (-1) s.2.ts 0=some (Ec (cC p g) c v s.2)
theorem Zh (x:Hl p g R) (z:Jo g c p.2.1) (B:v<g.2.length) (t:p.2.2.map wK=EI R) (y:qI p.2.1.length R=true):nO 1000 p g c (v:Int)=some (yY (cC p g) R c v):=by
 have D:=Ek t;have w:=VD y;let l:=R.map λr=>Ec (cC p g) c v r.1;have A:l.length=R.length:=by simp[l]
 have n:∀i,i<R.length->at' l (i:Int)=Ec (cC p g) c v (at' R (i:Int)).1:=λi q=>by
  rw[gN (by omega),gN q];simp[l]
 have d:∀(k:Nat) a,k<R.length->uV 1000 p g c (v:Int) (k:Int) a=if at' l (k:Int)≠0 then some (k:Int)else a (((k+1:Nat):Int)):=by
  intro k a b;have e:(at' p.2.2 (k:Int)).2.1.2=(at' R (k:Int)).1.ts:=congrArg Prod.fst (KX t b);unfold uV;rw[if_pos (by omega),cO (by omega),e,aZ (show dY 1000 _ c (v:Int) (-1) _ 0=_ from(x c z v B _ (by rw[gN b];exact zB7 b)).1),n k b,dH (by omega)]
 unfold nO yY;by_cases f:∃i,i<R.length∧at' l (i:Int)≠0
 ·obtain⟨i,q,u⟩:=f;obtain⟨m,C,o,h⟩:=Of (p:=λi=>at' l (i:Int)≠0) i u;have h:∀j,j<m->at' l (j:Int)=0:=λj s=>zAy.1 (h j s);rw[show CC _=(m:Int)from Di (l:=l) (by omega) o h];exact cR (K:=some (m:Int)) m (λk=>(k:Int)) (λk a b=>by rw[d k a (by omega),if_neg (by simp[h k b])]) (λa=>by rw[d m a (by omega),if_pos o]) 1000 (by omega)
 ·have f:∀j,j<l.length->at' l (j:Int)=0:=λj s=>zAy.1 λe=>f ⟨j,by omega,e⟩;rw[show CC _=(-1:Int)from Dh (l:=l) f];exact cR (K:=some (-1)) R.length (λk=>(k:Int)) (λk a b=>by rw[d k a b,if_neg (by simp[f k (by omega)])]) (λa=>by
   unfold uV Ak;rw[if_neg (by omega)]) 1000 (by omega)
theorem Rk (hV:VG g) (hA:Hl p g R) (hc:Jo g c p.2.1) (hz:p.2.2.map wK=EI R) (hR:qI p.2.1.length R=true):kU 1000 p g c=some ((Xw (cC p g) R c:Nat):Int):=by
 have h24:=hV.n24;have hcl:=hc.len;let q:Nat->Bool:=λv=>decide (0<=yY (cC p g) R c v);unfold kU;exact cR (step:=nY 1000 p g c) (K:=some ((mM q g.2.length:Nat):Int)) g.2.length (λk=>(((mM q k:Nat):Int),(k:Int))) (λk ag hk=>by
  have hm:=Dk q (k:=k) (by omega);unfold nY rM;dsimp only;rw[if_pos (by omega),aZ (show nO 1000 _ _ c (k:Int)=_ from Zh hA hc hk hz hR),dH (by omega)];cases hq:q k with
  |true=>
   rw[if_pos (zBf hq),SH (by omega),cO (by omega),EF hm (by omega)];simp only[mM,hq,if_true]
  |false=>
   rw[if_neg (of_decide_eq_false hq)];simp only[mM,hq];rfl) (λag=>by
  unfold nY vZ;dsimp only;rw[if_neg (by omega)]) 1000 (by omega)
theorem XD (hV:VG g) (hp:kK g p.2.1) (hA:Hl p g R) (hc:Jo g c p.2.1) (hz:p.2.2.map wK=EI R) (hR:qI p.2.1.length R=true):gR 1000 p g c=some ((Xw (cC p g) R c:Nat):Int):=by
 unfold gR
 have:wY 1000 p g c=some true:=by
  unfold wY
  rw[aZ (show kI 1000 _ _ c=_ from Pf hV hp hc)];rfl
 rw[aZ (show wY 1000 _ _ c=_ from this),if_neg (by decide),aZ (show kU 1000 _ _ c=_ from Rk hV hA hc hz hR)]
theorem aeR (k:VG g) (i:kK g p.2.1) {x:Nat} (j:x<p.2.1.length) (l:v<g.2.length) (y:Int):wX 1000 p g (v:Int) (x:Int) y=some (FN (at' p.2.1 (x:Int)).2.1 (zI g p.2.1 v x) y):=by
 have e:=adH i j v;have f:(zI g p.2.1 v x).1<=(zI g p.2.1 v x).2:=e;unfold wX;rw[aZ (show mA 1000 _ _ (v:Int) (x:Int)=_ from YX k i j l),cO (by omega)];generalize zI g p.2.1 v x=b at f;unfold Ae FN;by_cases d:(at' p.2.1 (x:Int)).2.1=3
 ·rw[if_pos d,aZ (rU 1000 _ _ _)];by_cases a:b.1<=y∧y<=b.2
  ·rw[zA6 a,if_neg (by decide),if_pos a,Int.max_eq_left a.1,Int.min_eq_left a.2]
  ·rw[zA5 a,if_pos (by decide),if_neg a,if_pos d]
 ·rw[if_neg d,if_neg (by decide)];by_cases a:b.1<=y∧y<=b.2
  ·rw[if_pos a,Int.max_eq_left a.1,Int.min_eq_left a.2]
  ·rw[if_neg a,if_neg d];by_cases h:y<b.1
   ·rw[if_pos h,Int.max_eq_right (by omega),Int.min_eq_left f]
   ·rw[if_neg h,Int.max_eq_left (by omega),Int.min_eq_right (by omega)]
theorem ahg (E:VG g) (F:kK g p.2.1) (C:Hl p g R) (t:Jo g c p.2.1) (u:v<g.2.length) (z:p.2.2.map wK=EI R) (D:qI p.2.1.length R=true) (P:0<=yY (cC p g) R c v):zV 1000 p g c (v:Int)=some (Dl (cC p g) p.2.1 R c v (yY (cC p g) R c v)):=by
 have I:=E.n24;have J:=t.len;have n:=t.row v u;have O:=F.len;have Q:=Ek z;unfold zV;rw[cO (by omega),cO (by simp;omega),aZ (show nO 1000 _ _ c (v:Int)=_ from Zh C t u z D),List.nil_append];obtain⟨i,L,b,_⟩:=(R_ (cC p g) R c v).resolve_left (λe=>by omega);rw[L,cO (by omega)];have x:=KX z b;obtain⟨-,o,f⟩:=PP D b;have A:(at' p.2.2 (i:Int)).2.2.2.map (λs=>(s.1,s.2.2))=(at' R (i:Int)).2.map λs=>((s.1:Int),s.2.ts):=congrArg Prod.snd x;have r:(at' p.2.2 (i:Int)).2.2.2.length=(at' R (i:Int)).2.length:=by simpa using congrArg List.length A
 unfold Dl;let a:=(at' R (i:Int)).2;exact cR (step:=xJ 1000 p g c (v:Int) (i:Int)) (K:=some (a.foldl (Hg (cC p g) p.2.1 c v) (at' c (v:Int)))) a.length (λk=>((k:Int),(a.take k).foldl (Hg (cC p g) p.2.1 c v) (at' c (v:Int)))) (λk H h=>by
  have m:k<(at' p.2.2 (i:Int)).2.2.2.length:=by rw[r];exact h
  have B:((at' (at' p.2.2 (i:Int)).2.2.2 (k:Int)).1,(at' (at' p.2.2 (i:Int)).2.2.2 (k:Int)).2.2)=(((at' a (k:Int)).1:Int),(at' a (k:Int)).2.ts):=by
   have:=congrArg (λq=>q[k]?) A;simp only[List.getElem?_map,zA0 m,zA0 (show k<(at' R (i:Int)).2.length from h),Option.map_some,Option.some.injEq]at this;rw[gN m,gN h];exact this
  have j:=congrArg Prod.fst B;have l:=congrArg Prod.snd B;dsimp only at j l;have d:at' a (k:Int)∈(at' R (i:Int)).2:=by rw[gN h];exact zB7 h
  obtain⟨y,M⟩:=f _ d;have G:((a.take k).foldl (Hg (cC p g) p.2.1 c v) (at' c (v:Int))).length=p.2.1.length:=by rw[Mm,n]
  have N:a.length<=20:=o;have w:=(C c t v u _ (by rw[gN b];exact zB7 b)).2 _ d;unfold xJ;dsimp only;rw[if_pos (by omega)];simp only[cO (show 0<=(k:Int)∧(k:Int)<((at' p.2.2 (i:Int)).2.2.2.length:Int) by omega)];rw[j,l,aZ (show dY 1000 _ c (v:Int) (-1) _ 0=_ from w),aZ (show wX 1000 _ _ (v:Int) _ _=_ from aeR E F y u _),cO (by omega),dH (by omega),zAe,wA h,List.foldl_append];rfl) (λH=>by
  unfold xJ Bp;dsimp only;rw[if_neg (by show¬(a.length:Int)<_;rw[r];exact Int.lt_irrefl _),List.take_length]) 1000 (by show(at' R (i:Int)).2.length<1000;omega)
theorem ahq (hV:VG g) (hp:kK g p.2.1) (hA:Hl p g R) (hc:Jo g c p.2.1) (hz:p.2.2.map wK=EI R) (hR:qI p.2.1.length R=true) {t:Nat} (ht32:t<4294967296) (ht0:t≠0) (ht:∀v,t.testBit v=true->(Xw (cC p g) R c).testBit v=true):
  vO 1000 p g c (t:Int)=some (kY (cC p g) p.2.1 R c t,0):=by
 have h24:=hV.n24;have hcl:=hc.len;have hvl:=hp.len;have hVS:VG (cC p g).2.1:=hV;have hbit:∀v,t.testBit v=true->v<g.2.length∧0<=yY (cC p g) R c v:=λv hv=>by
  have h:=ht v hv;rw[Pk,zA1,zA8,zA8]at h;exact h
 have hz0:rV t (Xw (cC p g) R c)=0:=EU λv=>by
  rw[AO ht32 (YT hVS R c)];cases hx:t.testBit v with
  |false=>simp
  |true=>rw[ht v hx];simp
 unfold vO;rw[aZ (show kI 1000 _ _ c=_ from Pf hV hp hc),if_neg (by decide),if_neg (by omega),aZ (show kU 1000 _ _ c=_ from Rk hV hA hc hz hR),uH,hz0,zA5 (by simp)];unfold Bn;rw[if_neg (by decide),aZ (adA c (by omega) (λv hv=>by rw[hc.row v (by omega)];omega))];let f:Nat->List Int:=λv=>if t.testBit v=true then Dl (cC p g) p.2.1 R c v (yY (cC p g) R c v)else at' c (v:Int);let Q:Nat->List (List Int):=λk=>(List.range k).map f++c.drop k;have hQ:∀k,k<=c.length->(Q k).length=c.length:=λk hk=>by simp[Q];omega
 have hset:∀k,k<c.length->(Q k).set k (f k)=Q (k+1):=λk hk=>by
  show((List.range k).map f++c.drop k).set k (f k)=(List.range (k+1)).map f++c.drop (k+1);rw[List.set_append_right _ _ (by simp),List.length_map,List.length_range,Nat.sub_self,List.drop_eq_getElem_cons hk,List.set_cons_zero,zB8,List.map_append,zB4,zB2];rfl
 have hkeep:∀k,k<c.length->f k=at' c (k:Int)->Q k=Q (k+1):=λk hk hf=>by
  show(List.range k).map f++c.drop k=(List.range (k+1)).map f++c.drop (k+1);rw[zB8,List.drop_eq_getElem_cons hk,List.map_append,zB4,hf,gN hk];simp
 have key:=cR (step:=tB 1000 p g c (t:Int)) (K:=some (kY (cC p g) p.2.1 R c t,0)) c.length (λk=>((k:Int),Q k)) (λk ag hk=>by
  unfold tB xI;dsimp only;rw[if_pos (by omega),aZ (EN ht32 (by omega)),dH (by omega)];by_cases hb:t.testBit k=true
  ·rw[if_pos hb,aZ (show zV 1000 _ _ c (k:Int)=_ from ahg hV hp hA hc (by omega) hz hR (hbit k hb).2),cO (by rw[hQ k (by omega)];omega),zAe];have:Dl (cC p g) p.2.1 R c k (yY (cC p g) R c k)=f k:=by simp only[f];rw[if_pos hb]
   rw[this,hset k hk]
  ·rw[if_neg hb,hkeep k hk (by simp only[f];rw[if_neg hb])]) (λag=>by
  unfold tB Bo;dsimp only;rw[if_neg (by omega)];simp[Q,kY,f]) 1000 (by omega)
 have e0:Q 0=c:=by simp[Q]
 rw[e0]at key;exact key
end
end Go.Proofs.YtahgemjmgopleaaGreatDoor