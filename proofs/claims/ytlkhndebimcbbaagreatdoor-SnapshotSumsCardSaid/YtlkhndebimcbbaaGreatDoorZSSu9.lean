/- Models and proofs. Conditions: none. -/
import Derived.Test.YtlkhndebimcbbaaGreatDoorZSSu6
import Derived.Test.YtlkhndebimcbbaaGreatDoorZSSu8
import Derived.Test.YtlkhndebimcbbaaGreatDoorZSSu2
import Derived.Test.YtlkhndebimcbbaaGreatDoorZSSu3
import Derived.Test.YtlkhndebimcbbaaGreatDoorZSSu7
import Derived.Test.YtlkhndebimcbbaaGreatDoorZSSu1
import Derived.OpenShut
import Derived.LaidLaws
import Derived.LaidHandle
import Derived.Lay
import Derived.MakeChecks
set_option linter.unusedVariables false
set_option linter.unusedSimpArgs false
set_option maxHeartbeats 4000000
set_option maxRecDepth 20000
namespace Go.Proofs.YtlkhndebimcbbaaGreatDoor
open Go.Sx
noncomputable def sW (b:List bE×(List (Int×Int×Int×Int×Int))×Int) (a:Bool):Option (List bE×(List (Int×Int×Int×Int×Int))×Bool):=
 some (b.1,b.2.1,a)
noncomputable def vM (U:Nat) (d:ByteArray) (c:cG) (e:Int) (f:bE) (g:aO):Option (List bE×(List (Int×Int×Int×Int×Int))×Bool):=
 Option.bind (nM U d) λb=>WM b.2.2 λh=>(Option.bind (vL U ((b.1,b.2.1,h)) ((c.1,c.2)) e f g) λa=>(if a.2.2=(0:Int)then(if(List.length a.1:Int)=(List.length a.2.1:Int)then(sW a (decide ((0:Int)<(List.length a.1:Int))))else(sW a (false)))else(sW a (false))))
theorem agu:aU Tryz.prog 9:=Tryz.call9
theorem Qi (U:Nat) {w:ByteArray} {i:cG} {y:Int} {p:bE} {q:aO} (k:Value)  (m:Value)  (t:lJ)  (n:Value)  (u:qF)  (o:Value) (r:Qm) (h:vM U w i y p q=some r):
  aY Tryz.prog 9 #[vS (w),Value.agg #[k,m],vI (y),n,o] [Sl bO k i.1,S2 bA m t i.2,S2 bO n u p,Sl yZ o q,Gb 0 (cellsOf HY w_)] (λx:Value×List Value×List (List Value)×Value=>Value.tuple #[x.1,x.2.2.2,vB (r.2.2)]) (λx l=>Ar cQ.raw x.1 x.2.1::IP bX x.2.1 x.2.2.1 r.1::Ar cJ x.2.2.2 r.2.1::l) (λ_ l=>l):=by
 refine aY.of Tryz.func9 Z Tryz.ntmps9 Z λc=>?_;refine aW<|aH (aN.box (cs:=[k,m]) Z Z) Z λD=>aE Z<|aE Z<|aE Z<|aM<|aK ?_;refine JR.start [0,1,0,0,0,0,63,127,255,255,255,511,3071,8191] 13 mixedOrders (by decide +kernel) ?_;refine JR.open (by exact rfl) ?_;refine bH Z<|fU h λs A h=>JR.loud Z Z Z (aN.call WW (IG U s A) Z (lE 4 Z) (λ_ _=>rfl) (λ_ _=>rfl)) Z (fun⟨d,e,v,g⟩=>(vY [] Z)) fun⟨d,e,v,g⟩=>?_;have h:=UT h v g;refine bK Z (aZ.cons 0 Z .nil) .nil (jN 0 Z Z Z Z) (aL.h (aZ.ix [0] Z Z) .nil aL.z)<|iX Z (fH Z)<|iX Z (fH Z)<|iX Z (fH Z)<|fU h λj C h=>JR.loud Z Z Z (aN.callQ adh (Qg U d e k m t n u o j C) Z (oO [0,1,2,3,4,5,6,7] Z)) Z (λb=>(vY [] Z)) λb=>iX Z (fH Z)<|iX Z (lZ Z Z)<|iX Z (lZ Z Z)<|iX Z (lZ Z Z)<|iX Z (mE Z)<|iX Z (mE Z)<|bQ 13 Z Z<|aE Z<|aM<|aK<|Bv (B:=Unit) (λa=>sW j a=some r) (λa f=>[(10,b.1),(11,b.2.2.2),(12,vB (a))]) (λa f=>[Ar cQ.raw b.1 b.2.1,IP bX b.2.1 b.2.2.1 j.1,Ar cJ b.2.2.2 j.2.1]) (λa f=>[Sl aR d s.2.1,Sl aJ e v,PF (Value.agg #[vS s.1,d,e]),Sl bO k i.1,S2 bA m t i.2,S2 bO n u p,Sl yZ o q,Gb 0 (cellsOf HY w_)]) ?_ ?_
 ·refine aS<|aA Z<|aA Z<|aA Z<|cT Z<|aA Z ?_;refine FG h Z (λ_ h=>?_) λ_ h=>?_
  ·refine eR Z<|aX Z (JA 0 1 Z Z Z Z) Z<|eR Z<|aX Z (h_ Z (bF (aF.res 2 Z) jK) Z) Z<|aX Z (Tb Z Z) Z<|fM Z<|aA Z ?_;refine FG h Z (λ_ h=>?_) λ_ h=>?_
   ·refine eR Z<|aX Z (JA 0 1 Z Z Z Z) Z<|aX Z (yP Z Z) Z<|fM Z<|aE Z<|aE Z<|aE Z<|aM ?_;exact cK (decide ((0:Int)<(List.length j.1:Int))) () h SF (aZ.ix [0,1,2] Z Z) (aG.refl _ _)
   refine aP Z<|aP Z<|aP Z<|iI Z<|aE Z<|aE Z<|aE Z<|aM ?_;exact cK (false) () h SF (aZ.ix [0,1,2] Z Z) (aG.refl _ _)
  refine aP Z<|aP Z<|aP Z<|aP Z<|aP Z<|iI Z<|aA Z<|aP Z<|aP Z<|aP Z<|iI Z<|aE Z<|aE Z<|aE Z<|aM ?_;exact cK (false) () h SF (aZ.ix [0,1,2] Z Z) (aG.refl _ _)
 intro a f h;unfold sW at h;refine aV ?_;cases h;exact IM (b.1,b.2.1,b.2.2.1,b.2.2.2) Z Z (RV.tmp Z) (RV.tmp Z) (RV.tmp Z) (aZ.refl _) aG.nil
end Go.Proofs.YtlkhndebimcbbaaGreatDoor
namespace Go.Proofs.YtlkhndebimcbbaaGreatDoor
open Go Go.Sx
theorem YV {D d:ByteArray} {a:List De} {R:List RL} {pr:KU} (F:nM 1000 D=some (d,a,pr)) (ad:FB R=pr) {g:GR} (hV:VG g) (hp:tB g a) (hR:xU a.length R=true) {b:Int} (aa:1<=b) (ab:b<=4)
  {u:bE} (X:Du g u a) {h:aO} (af:h.length<=900) (hw:∀k:Nat,k<h.length->∃m:Nat,at' h (k:Int)=(m:Int)∧m<4294967296)
  (Q:Nat->bE->CT->Prop) (h0:Q 0 u (0,0,0,0,dM .u32 ((pZ (aQ (d,a,[]) g) R (eO g) u:Nat):Int) 16777215))
  (I:∀k c n t l E,k<h.length->Q k c n->pZ (aQ (d,a,[]) g) R (eO g) c≠0->t≠0->(∀i,t.testBit i=true->(pZ (aQ (d,a,[]) g) R (eO g) c).testBit i=true)->(b=4->t=pZ (aQ (d,a,[]) g) R (eO g) c)->
   fX 1000 n (t:Int) ((pZ (aQ (d,a,[]) g) R (eO g) (g_ (aQ (d,a,[]) g) a R c t):Nat):Int)=some (l,E)->Q (k+1) (g_ (aQ (d,a,[]) g) a R c t) l):
  ∃(k:Nat) (v:zT) (o:List CT),vM 1000 D g b u h=some (v,o,true)∧v.length=k+1∧o.length=k+1∧k<=h.length∧(∀j,j<=k->Q j (at' v (j:Int)) (at' o (j:Int)))∧
   (∀j,j<k->∃t,(∀i,t.testBit i=true->(pZ (aQ (d,a,[]) g) R (eO g) (at' v (j:Int))).testBit i=true)∧pZ (aQ (d,a,[]) g) R (eO g) (at' v (j:Int))≠0∧at' v ((j+1:Nat):Int)=g_ (aQ (d,a,[]) g) a R (at' v (j:Int)) t∧(b=4->t=pZ (aQ (d,a,[]) g) R (eO g) (at' v (j:Int))))∧
   (k=h.length∨pZ (aQ (d,a,[]) g) R (eO g) (at' v (k:Int))=0):=by
 let s:sF:=(d,a,[])
 let f:=CO s a R g b h u;let w:=JL s a R g b h u;let PP:Nat->Prop:=λk=>(∀j,j<=k->Q j (f j) (w j))∧∀j,j<k->∃t,(∀i,t.testBit i=true->(pZ (aQ s g) R (eO g) (f j)).testBit i=true)∧pZ (aQ s g) R (eO g) (f j)≠0∧f (j+1)=g_ (aQ s g) a R (f j) t∧(b=4->t=pZ (aQ s g) R (eO g) (f j))
 have V:∀z:List xE,z.map Aa=FB R->∃k,vL 1000 (d,a,z) g b u h=some ((List.range (k+1)).map f,(List.range (k+1)).map w,0)∧k<=h.length∧PP k∧(∀j,j<k->pZ (aQ s g) R (eO g) (f j)≠0)∧(k=h.length∨pZ (aQ s g) R (eO g) (f k)=0):=λz T=>by
  let U:sF:=(d,a,z)
  have H:CO U a R g b h u=f:=funext λj=>KA _ _ _ _ _ _ _ _ _;have M:JL U a R g b h u=w:=funext λj=>adO _ _ _ _ _ _ _ _ _;obtain⟨k,c,ch,W,h3,rfl,h5,h6,h7⟩:=ZD (p:=U) hV hp T hR (kind:=b) aa ab X (ws:=h) af hw
   (λk c ch n=>PP k∧c=f k∧n=w k) ⟨⟨λj r=>by(obtain rfl:j=0:=by omega);exact h0,λj r=>by omega⟩,rfl,rfl⟩
   (λk c ch n t l E hk ah hI y ae C _ B hr K Y=>by
    obtain⟨⟨ha,hb⟩,rfl,rfl⟩:=hI;have G:f (k+1)=g_ (aQ s g) a R (f k) t:=(congrFun H (k+1)).symm.trans hr;have N:l=w (k+1):=Y.trans (congrFun M (k+1));subst N;have hQ:=I k (f k) (w k) t _ E hk (ha k (Nat.le_refl k)) y ae C B K;refine⟨⟨λj r=> ?_,λj r=> ?_⟩,G.symm,rfl⟩
    ·by_cases e:j<=k
     ·exact ha j e
     ·obtain rfl:j=k+1:=by omega
      rw[G];exact hQ
    ·by_cases e:j<k
     ·exact hb j e
     ·obtain rfl:j=k:=by omega
      exact⟨t,C,y,G,B⟩)
  rw[show U.2.1=a from rfl,H,M]at W;rw[show U.2.1=a from rfl,H]at h6 h7;exact⟨k,W,h5,h3.1,h6,h7⟩
 obtain⟨z0,ag⟩:=exZ (FB R);obtain⟨A,_,P,J,S,q⟩:=V z0 ag;have x:∀j,j<=A->at' ((List.range (A+1)).map f) (j:Int)=f j:=λj r=>lD _ (by omega);have L:∀j,j<=A->at' ((List.range (A+1)).map w) (j:Int)=w j:=λj r=>lD _ (by omega);refine⟨A,(List.range (A+1)).map f,(List.range (A+1)).map w,?_,by simp,by simp,P,λj r=>by rw[x j r,L j r];exact J.1 j r,λj r=>by rw[x j (by omega),x (j+1) (by omega)];exact J.2 j r,by rw[x A (Nat.le_refl _)];exact q⟩
 unfold vM;rw[bG F];refine aae λz T=> ?_;have T:z.map Aa=FB R:=by rw[ad];exact T
 obtain⟨k,W,hk,_,y,O⟩:=V z T;have ac:k=A:=YU (p:=s) (p':=s) (vars:=a) hk O y P q S;subst ac;refine(bG (show vL 1000 (d,a,z) g b u h=_ from W)).trans ?_;unfold sW;dsimp only;rw[if_pos Z,if_pos (by simp),decide_eq_true (by simp)]
theorem Av {p:sF} {g:GR} {R:List RL} {c:bE} {v:Nat}:(pZ (aQ p g) R (eO g) c).testBit v=true↔v<g.2.length∧0<=dL (aQ p g) R c v:=by
 rw[Nf];refine⟨λh=>⟨h.1,h.2.1⟩,λh=>⟨h.1,h.2,?_⟩⟩
 unfold eO;rw[aaf,decide_eq_true h.1]
theorem abW {p:sF} {g:GR} {d:aO} {E:Nat} {j H:Nat->Nat} {S:Nat->Int} (o:VG g) (n:oL g 0 d) (m:∀v,v<g.2.length->0<=D d v) (s:TP g d j H) (K:tB g fR) (F:∀v,v<g.2.length->D d v<=(E:Int)):
  Stg (BX E) (6*E+4) (UM g d E j (λv=>(D d v).toNat) S) (TsN g d E j (λv=>(D d v).toNat)) (λc=>pZ (aQ p g) RN (eO g) c)
   (λc t C=>(∀i,t.testBit i=true->(pZ (aQ p g) RN (eO g) c).testBit i=true)∧C=g_ (aQ p g) fR RN c t):=by
 have l:RT g.2.length E j (λv=>(D d v).toNat):=YQ o n m s F;refine⟨λi c h=>aeC h,λi c h J r=>abF l F h J r,λi c v h f=> ?_,λi c t C h L=> ?_⟩
 ·refine Av.2 ?_;obtain⟨M,_,h⟩:=h;have z:Gi g d c->v<g.2.length->0<=dL (aQ p g) RX c v->0<=dL (aQ p g) RN c v:=λI f q=>by
   rw[show RN=RB++RX from rfl,Jb (NR o n m I f),if_pos q];omega
  match i,h,f with
  | .tree k,⟨_,h⟩,f=>
   obtain⟨a,b⟩:=Kq (p:=p) (R':=RX) (Uu o n m h f);exact⟨f.1,by rw[show RN=RB++RX from rfl,a];exact b⟩
  | .good k,⟨_,h1,_⟩,⟨f,hv0,_,r⟩=>exact⟨f,z h1 f ((enN o n m s h1 f).1.2 (.inr (.inl (Se hv0 r))))⟩
  | .lev cl k,⟨_,h1,_,_,h4,_⟩,⟨f,hd,r⟩=>
   refine⟨f,z h1 f ((enN o n m s h1 f).1.2 (.inr (.inl ?_)))⟩
   have e:v≠0:=λe=>r (by rw[e]);obtain⟨a,x⟩:=l.up v f e;have A:(D d v).toNat<=k+1:=hd;have G:(D d v).toNat=(D d (j v)).toNat+1:=x;exact⟨e,.inl λq=>r (by rw[<-q];exact h4 _ a (show(D d (j v)).toNat<=k by omega))⟩
  | .low cl k,⟨_,h1,_,_,h4,h5,_⟩,⟨f,hd,r⟩=>
   refine⟨f,z h1 f ((enN o n m s h1 f).1.2 (.inr (.inr ⟨r,λw y B e=> ?_⟩)))⟩
   obtain⟨_,x⟩:=l.up w y B;rw[e]at x;have A:E<(D d v).toNat+(k+1):=hd;have G:(D d w).toNat=(D d v).toNat+1:=x;exact⟨h5 w y (show E<(D d w).toNat+k by omega),by rw[h4 w y (l.le w y),h4 v f (l.le v f)]⟩
  | .rest,⟨h1,h2⟩,f=>
   obtain rfl:v=0:=f;exact⟨l.n1,z h1 l.n1 ((enN o n m s h1 l.n1).1.2 (.inl ⟨rfl,(h2 0 l.n1).1⟩))⟩
 ·obtain⟨u,rfl⟩:=L;exact YI o n m l (Su o n m s K h.1 λv f=>Av.1 (u v f)) h
structure Jp (g:GR) (d:aO) (E:Nat) (par:Nat->Nat) (S:Nat->Int) (c0:bE) (k:Nat) (c:bE) (cnt:CT):Prop where
 r:Du g c fR
 x:∀v,v<g.2.length->xC c v=xC c0 v
 s:∃R B pe,Da k cnt R B pe∧Ap (BX E) (6*E+4) (UM g d E par (λv=>(D d v).toNat) S) (TsN g d E par (λv=>(D d v).toNat)) R pe c
def Db (g:GR) (d:aO) (a:Nat->Nat) (S:Nat->Int) (c:bE):Prop:=Gi g d c∧AG g.2.length a (sC c) (bC c)∧∀v,v<g.2.length->aC c v=S v
section
variable {p:sF} {g:GR} {c c0:List (List Int)} {d:List Int} {E:Nat} {S:Nat->Int} (hV:VG g) (hD:oL g 0 d) (h0:∀v,v<g.2.length->0<=D d v) {par fp:Nat->Nat} (hP:TP g d par fp) (hp:tB g fR) (hE:∀v,v<g.2.length->D d v<=(E:Int))
 include hV hD h0 hP hp hE
theorem Pj (e:Du g c0 fR) (h:DC g par (xC c0) S):Jp g d E par S c0 0 c0 (0,0,0,0,dM .u32 ((pZ (aQ p g) RN (eO g) c0:Nat):Int) 16777215):=by
 have a:pZ (aQ p g) RN (eO g) c0<16777216:=QI.lt hV (JP (aQ p g) RN (eO g) c0);have f:dM .u32 ((pZ (aQ p g) RN (eO g) c0:Nat):Int) 16777215=((pZ (aQ p g) RN (eO g) c0:Nat):Int):=by
  rw[show(16777215:Int)=((16777215:Nat):Int)from rfl,DI (by omega) (by omega),show(16777215:Nat)=2^24 - 1 from rfl,Nat.and_two_pow_sub_one_eq_mod,Nat.mod_eq_of_lt (by omega)]
 have b:UM g d E par (λv=>(D d v).toNat) S (.tree 0) c0:=⟨e,h,Nat.zero_le _,HT h0 λv i=>(Hu (W:=KW) e i).1.1⟩
 exact⟨e,λv _=>rfl,0,0,pZ (aQ p g) RN (eO g) c0,⟨rfl,⟨by dsimp only;omega,by dsimp only;omega⟩,rfl,rfl,f,by omega,a⟩,Ap.start (abW (p:=p) hV hD h0 hP hp hE) b⟩
theorem RU {k t:Nat} {j f:CT} {o:Int} (C:k<900) (h:Jp g d E par S c0 k c j) (r:t≠0) (e:∀i,t.testBit i=true->(pZ (aQ p g) RN (eO g) c).testBit i=true) (l:fX 1000 j (t:Int) ((pZ (aQ p g) RN (eO g) (g_ (aQ p g) fR RN c t):Nat):Int)=some (f,o)):Jp g d E par S c0 (k+1) (g_ (aQ p g) fR RN c t) f:=by
 obtain⟨u,G,R,B,H,m,z⟩:=h;have F:t<16777216:=QI.lt hV (λi A=>(Av.1 (e i A)).1);have q:pZ (aQ p g) RN (eO g) (g_ (aQ p g) fR RN c t)<16777216:=QI.lt hV (JP (aQ p g) RN (eO g) _);obtain⟨y,w,s,a,b,_⟩:=Ju (abW (p:=p) hV hD h0 hP hp hE) z ⟨e,rfl⟩ m C F r q l;exact⟨Mi (S:=aQ p g) hp u,λv n=>((Su hV hD h0 hP hp u λv n=>Av.1 (e v n)).x v n).trans (G v n),y,w,s,a,b⟩
theorem No {R B h k:Nat} {e:CT} (f:Da k e R B h) (j:Ap (BX E) (6*E+4) (UM g d E par (λv=>(D d v).toNat) S) (TsN g d E par (λv=>(D d v).toNat)) R h c) (l:6*E+4<=R):Db g d par S c:=by
 obtain⟨i,b,a⟩:=Ap.done (abW (p:=(ByteArray.mk #[],[],[])) hV hD h0 hP hp hE) j l;obtain⟨_,_,b⟩:=b
 match i,b,a with
 | .tree k,⟨q,_⟩,a=>simp only[BX]at a;omega
 | .good k,⟨q,_⟩,a=>simp only[BX]at a;omega
 | .lev false k,⟨q,_⟩,a=>simp only[BX]at a;omega
 | .lev true k,⟨q,_⟩,a=>simp only[BX]at a;omega
 | .low false k,⟨q,_⟩,a=>simp only[BX]at a;omega
 | .low true k,⟨q,_⟩,a=>simp only[BX]at a;omega
 | .rest,_,a=>simp only[BX]at a;omega
 | .done,b,_=>exact b
theorem Ry {t:Nat} (k:Du g c fR) (f:DC g par (xC c) S) (h:Db g d par S c) (e:∀i,t.testBit i=true->(pZ (aQ p g) RN (eO g) c).testBit i=true):Db g d par S (g_ (aQ p g) fR RN c t):=by
 have j:RT g.2.length E par (λv=>(D d v).toNat):=YQ hV hD h0 hP hE;obtain⟨a,b⟩:=(Su (t:=t) hV hD h0 hP hp k λv l=>Av.1 (e v l)).ws h.1 S f;exact⟨a,Be j b.ws h.2.1,b.right h.2.2⟩
end
theorem Mw {g:GR} (h:VG g):tB g fR:=by
 have f:=h.n24;have e:∀x,x<fR.length->DD (at' fR (x:Int)):=λx c=>by
  have c:x<6:=c
  match x,c with
  |0,_=>exact⟨by decide,by decide,by decide⟩
  |1,_=>exact⟨by decide,by decide,by decide⟩
  |2,_=>exact⟨by decide,by decide,by decide⟩
  |3,_=>exact⟨by decide,by decide,by decide⟩
  |4,_=>exact⟨by decide,by decide,by decide⟩
  |5,_=>exact⟨by decide,by decide,by decide⟩
 refine⟨by decide,e,λx c=> ?_,λx c d=> ?_⟩
 ·have c:x<6:=c
  match x,c with
  |0,_=>exact .inl Z
  |1,_=>exact .inr (.inr Z)
  |2,_=>exact .inr (.inl Z)
  |3,_=>exact .inr (.inl Z)
  |4,_=>exact .inl Z
  |5,_=>exact .inl Z
 ·have c:x<6:=c
  match x,c,d with
  |0,_,_=>
   have a:lo g (at' fR ((0:Nat):Int)) 0=0:=Ym g 0;have b:hi g (at' fR ((0:Nat):Int)) 0=(g.2.length:Int):=Ya g 0;rw[a,b];omega
  |1,_,d=>exact absurd d (by decide)
  |2,_,d=>exact absurd d (by decide)
  |3,_,d=>exact absurd d (by decide)
  | 4, _, _ =>
   have b:hi g (at' fR ((4:Nat):Int)) 0=15:=by
    show(15:Int)+0*(g.2.length:Int)+0*jR g g.1.length=15;omega
   have a:lo g (at' fR ((4:Nat):Int)) 0=0:=rfl;rw[a,b];omega
  | 5, _, _ =>
   have b:hi g (at' fR ((5:Nat):Int)) 0=15*(g.2.length:Int):=by
    show(0:Int)+15*(g.2.length:Int)+0*jR g g.1.length=_;omega
   have a:lo g (at' fR ((5:Nat):Int)) 0=0:=rfl;rw[a,b];omega
def sH (n:Nat):aO:=[(n:Int),-1,1,1,15,wI .i64 (15*(n:Int))]
theorem cfN {g:GR} {c:bE} (k:0<g.2.length∧g.2.length<=24) (a:Du g c fR):Ji g (sH g.2.length) c:=by
 refine⟨a.len,λv b=>⟨a.row v b,λx d=> ?_⟩⟩
 obtain⟨⟨f,h⟩,i,j⟩:=Hu (W:=KW) a b;obtain⟨l,m,n,o⟩:=PS a b;have d:x<6:=d;unfold Vr
 match x,d with
 |0,_=>
  have e:at' (sH g.2.length) ((0:Nat):Int)=(g.2.length:Int):=rfl;rw[e,if_neg (by omega)];exact⟨f,h⟩
 |1,_=>
  have e:at' (sH g.2.length) ((1:Nat):Int) = -1:=rfl;rw[e,if_pos Z];exact⟨i,j⟩
 |2,_=>
  have e:at' (sH g.2.length) ((2:Nat):Int)=1:=rfl;rw[e,if_neg (by omega)];show 0<=oF c v 2∧oF c v 2<=1;omega
 |3,_=>
  have e:at' (sH g.2.length) ((3:Nat):Int)=1:=rfl;rw[e,if_neg (by omega)];show 0<=oF c v 3∧oF c v 3<=1;omega
 |4,_=>
  have e:at' (sH g.2.length) ((4:Nat):Int)=15:=rfl;rw[e,if_neg (by omega)];show 0<=oF c v 4∧oF c v 4<=15;omega
 |5,_=>
  have e:at' (sH g.2.length) ((5:Nat):Int)=15*(g.2.length:Int):=wr (by omega) (by omega);rw[e,if_neg (by omega)];show 0<=oF c v 5∧oF c v 5<=_;omega
section
variable {g:GR} (hV:VG g) (hc:Hi g) {d:List Int} (hD:oL g 0 d)
 include hV hc hD
theorem ahG:∀v,v<g.2.length->0<=D d v:=λv a=>(Gp hV (s:=0) (by have:=hV.n1;omega) hD).2 hc v (by rw[hD.len];exact a)
theorem SK {c:List (List Int)} (j:Ji g (sH g.2.length) c):
  ((Gi g d c∧∀v,v<g.2.length->ZX (BN g c) c v)->qE 1000 g (c.map λl=>l.take 4)=some true)∧
  (¬(Gi g d c∧∀v,v<g.2.length->ZX (BN g c) c v)->qE 1000 g (c.map λl=>l.take 4)=some false):=by
 have D:=hV.n24;have h1:=hV.n1;have hl:=j.1;have hr:∀v,v<g.2.length->(at' c (v:Int)).length=6:=λv a=>(j.2 v a).1;let b:=c.map λl=>l.take 4;have y:b.length=g.2.length:=by show(c.map _).length=_;simp[hl]
 have o:∀v,v<g.2.length->at' b (v:Int)=(at' c (v:Int)).take 4:=λv a=>DG (by omega);have f:∀v,v<g.2.length->∀i:Nat,i<4->at' (at' b (v:Int)) (i:Int)=at' (at' c (v:Int)) (i:Int):=λv a i W=>by rw[o v a,Gk W]
 have s:∀v,v<g.2.length->(at' b (v:Int)).length=4:=λv a=>by rw[o v a,List.length_take,hr v a];rfl
 have p:Ji g [(g.2.length:Int),-1,1,1] b:=j.cut (m:=4) (by simp[sH]);have x:Ji g [(g.2.length:Int),-1] (b.map λl=>l.take 2):=p.cut (m:=2) (by simp);have G:∀v,v<g.2.length->at' (at' c (v:Int)) 2=0∨at' (at' c (v:Int)) 2=1:=λv a=>by
  have:=(j.2 v a).2 2 (by simp[sH]);unfold Vr at this;rw[if_neg (by show¬(1:Int) = -1;omega)]at this;have e:at' (sH g.2.length) ((2:Nat):Int)=1:=rfl;rw[e]at this;have C:at' (at' c (v:Int)) ((2:Nat):Int)=at' (at' c (v:Int)) 2:=rfl;rw[C]at this;omega
 have A:∀v,v<g.2.length -> -1<=at' (at' c (v:Int)) 1∧at' (at' c (v:Int)) 1<((at' g.2 (v:Int)).length:Int):=λv a=>by
  have:=(j.2 v a).2 1 (by simp[sH]);unfold Vr at this;rw[if_pos (by rfl)]at this;have C:at' (at' c (v:Int)) ((1:Nat):Int)=at' (at' c (v:Int)) 1:=rfl;rw[C]at this;have V:(row g v).length=(at' g.2 (v:Int)).length:=rfl;omega
 have I:∀v,v<g.2.length->at' (at' b (v:Int)) 1=at' (at' c (v:Int)) 1:=λv a=>f v a 1 (by omega);have n:∀v,v<g.2.length->BN g b v=BN g c v:=λv a=>by unfold BN;rw[I v a]
 have z:SZ g b:=⟨y,λv a=>⟨by have:=s v a;omega,by rw[I v a];exact A v a⟩⟩
 have q:∀v,v<g.2.length->(Fx g d v (at' (b.map λl=>l.take 2) (v:Int))↔Fx g d v (at' c (v:Int))):=λv a=>by
  rw[DG (by omega)];unfold Fx;have t0:at' ((at' b (v:Int)).take 2) 0=at' (at' c (v:Int)) 0:=(Gk (i:=0) (by omega)).trans (f v a 0 (by omega));have H:at' ((at' b (v:Int)).take 2) 1=at' (at' c (v:Int)) 1:=(Gk (i:=1) (by omega)).trans (f v a 1 (by omega));rw[t0,H]
 obtain⟨H,t2⟩:=OJ hV hD Z hc (c:=b.map λl=>l.take 2) x;have Q:eL 1000 (g.1,g.2)=some true:=(z_ hV).1 hc;have R:qE 1000 g b=Option.bind (vJ 1000 g (b.map λl=>l.take 2)) λr=>oI 1000 g b (!r):=by
  unfold qE rX FJ kL;have P:dK 1000 (g.1,g.2) b [(g.1.length:Int),-1,1,1]=some true:=by rw[hV.len];exact(Fz hV (by simp) b).1 p
  rw[Q,bG Z,bG Z,if_pos Z,P,bG Z,bG Z,if_neg (by simp),bZ (by omega)];have B:=dU (step:=tY 1000 g b) (K:=yK 1000 g b (FA 2 b b.length)) b.length (λk=>((k:Int),FA 2 b k)) (λk O X=> ?_) (λO=> ?_) 1000 (by omega)
  ·rw[show(((0:Nat):Int),FA 2 b 0)=((0:Int),List.replicate (Int.toNat (b.length:Int)) ([]:List Int)) by simp[FA]]at B;rw[B,OT];rfl
  ·have Y:=s k (by omega);unfold tY;dsimp only;rw[if_pos (by omega),bZ (by omega),bZ (by omega),bZ (by rw[OU (by omega)];omega),yX (by omega)];have:=LC (m:=2) X;rw[show Int.toNat (k:Int)=k from rfl,show Int.toNat (2:Int)=2 from rfl,this]
  ·unfold tY;dsimp only;rw[if_neg (by omega)]
 rw[R];by_cases w:Gi g d c
 ·have E:ZG g d (BN g c):=Ij hV hc hD w;have F:ZG g d (BN g b):=⟨by rw[n 0 (by omega)];exact E.root,λv a t=>by rw[n v a];exact E.up v a t⟩
  obtain⟨M,N⟩:=VU hV y (λv a=>by have:=s v a;omega) (λv a=>by
   have e:at' (at' b (v:Int)) 2=at' (at' c (v:Int)) 2:=f v a 2 (by omega);rw[e];exact G v a) F
  have J:∀v,v<g.2.length->(ZX (BN g b) b v↔ZX (BN g c) c v):=λv a=>by
   unfold ZX;by_cases t:v=0
   ·exact⟨λ_=> .inl t,λ_=> .inl t⟩
   ·obtain⟨u,L,e,_⟩:=E.up v a t;rw[n v a,e];have q2:at' (at' b (u:Int)) 2=at' (at' c (u:Int)) 2:=f u L 2 (by omega);have q3:at' (at' b (u:Int)) 3=at' (at' c (u:Int)) 3:=f u L 3 (by omega);have r2:at' (at' b (v:Int)) 2=at' (at' c (v:Int)) 2:=f v a 2 (by omega);have r3:at' (at' b (v:Int)) 3=at' (at' c (v:Int)) 3:=f v a 3 (by omega);rw[q2,q3,r2,r3]
  have S:oI 1000 g b (!true)=bL (gY b (vX g b b.length)) 1000 0:=by
   have T:oG 1000 (g.1,g.2) b 1=some (vX g b b.length):=KR D z;unfold oI;rw[if_neg (by simp),T];rfl
  rw[H λv a=>(q v a).2 (w v a),bG Z,S];exact⟨λh=>M λv a=>(J v a).2 (h.2 v a),λh=>N λU=>h ⟨w,λv a=>(J v a).1 (U v a)⟩⟩
 ·rw[t2 λh=>w λv a=>(q v a).1 (h v a),bG Z];refine⟨λh=>absurd h.1 w,λ_=> ?_⟩
  unfold oI;rw[if_pos (by simp)]
variable {par fp:Nat->Nat} (hP:TP g d par fp)
 include hP
 omit hc in
theorem abG (h:∀v,v<g.2.length->0<=D d v) {c:List (List Int)} (b:Gi g d c):BN g c 0 = -1∧∀v,v<g.2.length->v≠0->BN g c v=(par v:Int):=by
  refine⟨if_neg ?_,λv f a=> ?_⟩
  ·have:=PK hV hD h b;show¬0<=GG c 0;omega
  ·have e:at' (at' c (v:Int)) 1=(fp v:Int):=HL hP b f a;unfold BN;rw[if_pos (by omega),e];exact(hP.at_ v f a).2.2.1
noncomputable def AP (g:GR) (par:Nat->Nat) (c:List (List Int)) (v:Nat):Int:=wV (λv=>if v=0 then -1 else(par v:Int)) g.2.length c v g.2.length
 omit hc hV hD in
theorem Ub (f:∀v,v<g.2.length->0<=D d v):ZG g d (λv=>if v=0 then -1 else(par v:Int)):=by
  refine⟨rfl,λv e c=> ?_⟩
  obtain⟨_,_,_,a,b⟩:=hP.at_ v e c;exact⟨par v,a,by rw[if_neg c],b⟩
 omit hc in
theorem Uq (e:∀v,v<g.2.length->0<=D d v) {c:List (List Int)} (a:Du g c fR):DC g par (xC c) (AP g par c):=
  Zc (W:=KW) hV hD e hP (Ub hP e) (λv f b=>by rw[if_neg b]) λv f=>(PS a f).2.2.1
theorem abS {c:List (List Int)} (o:Du g c fR):∃b,eH 1000 g c=some b∧(b=true↔Db g d par (AP g par c) c):=by
 have C:=hV.n24;have h1:=hV.n1;have I:=ahG hV hc hD;have n:Ji g (sH g.2.length) c:=cfN ⟨by omega,C⟩ o;have F:=n.1;have z:∀v,v<g.2.length->(at' c (v:Int)).length=6:=λv i=>(n.2 v i).1;have U:eL 1000 (g.1,g.2)=some true:=(z_ hV).1 hc;have S:iP 1000 g c=some true:=by
  have q1:=Fz hV (hs:=sH g.2.length) (by simp[sH]) c;unfold iP AA iC;rw[U,bG Z,bG Z,if_pos Z];have:dK 1000 (g.1,g.2) c [(g.1.length:Int),-1,1,1,15,wI .i64 (15*(g.1.length:Int))]=dK 1000 g c (sH g.2.length):=by rw[hV.len];rfl
  rw[this,q1.1 n];rfl
 have V:eH 1000 g c=Option.bind (qE 1000 g (c.map λl=>l.take 4)) λr=>oA 1000 g c (!r):=by
  unfold eH;rw[show iP 1000 (g.1,g.2) c=some true from S,bG Z,if_neg (by simp),bZ (by omega)];have x:=dU (step:=oB 1000 g c) (K:=rC 1000 g c (FA 4 c c.length)) c.length (λk=>((k:Int),FA 4 c k)) (λk Q E=> ?_) (λQ=> ?_) 1000 (by omega)
  ·rw[show(((0:Nat):Int),FA 4 c 0)=((0:Int),List.replicate (Int.toNat (c.length:Int)) ([]:List Int)) by simp[FA]]at x;rw[x,OT];rfl
  ·have Y:=z k (by omega);unfold oB;dsimp only;rw[if_pos (by omega),bZ (by omega),bZ (by omega),bZ (by rw[OU (by omega)];omega),yX (by omega)];have:=LC (m:=4) E;rw[show Int.toNat (k:Int)=k from rfl,show Int.toNat (4:Int)=4 from rfl,this]
  ·unfold oB;dsimp only;rw[if_neg (by omega)]
 rw[V];obtain⟨w1,N⟩:=SK hV hc hD n;by_cases p:Gi g d c
 rotate_left
 ·rw[N λh=>p h.1,bG Z];exact⟨false,rfl,⟨λh=>(by cases h),λh=>absurd h.1 p⟩⟩
 obtain⟨p0,H⟩:=abG hV hD hP I p;have L:(∀v,v<g.2.length->ZX (BN g c) c v)↔AG g.2.length par (sC c) (bC c):=by
  constructor
  ·intro h v i j;have:=(h v i).resolve_left j;rw[H v i j]at this;by_cases q:sC c (par v)=0
   ·exact .inr (this q)
   ·exact .inl q
  ·intro h v i;by_cases j:v=0
   ·exact .inl j
   ·right;rw[H v i j];intro q;exact(h v i j).resolve_left λr=>r q
 by_cases y:AG g.2.length par (sC c) (bC c)
 rotate_left
 ·rw[N λh=>y (L.1 h.2),bG Z];exact⟨false,rfl,⟨λh=>(by cases h),λh=>absurd h.2.1 y⟩⟩
 have D:ZG g d (BN g c):=Ij hV hc hD p;have hx:∀v,v<g.2.length->0<=FY c v∧FY c v<=15:=λv i=>(PS o i).2.2.1;have G:SZ g c:=⟨F,λv i=>⟨by have:=z v i;omega,by
  obtain⟨_,a,b⟩:=Hu (W:=KW) o i;have X:(row g v).length=(at' g.2 (v:Int)).length:=rfl;exact⟨a,by have:GG c v=at' (at' c (v:Int)) 1:=rfl;omega⟩⟩⟩
 obtain⟨R,r1,r2,r3⟩:=abY hV hD F z hx D I G;obtain⟨O,P⟩:=Zd hV F z r2 r3;have J:(∀v,v<g.2.length->SAt g c v)↔∀v,v<g.2.length->aC c v=AP g par c v:=by
  have s:∀v,v<g.2.length->wV (BN g c) g.2.length c v g.2.length=AP g par c v:=λv i=>by
   have e:∀(f:Nat) (w:Int) (u:Nat),(w = -1∨∃q:Nat,q<g.2.length∧w=q)->onP (BN g c) f w u=onP (λv=>if v=0 then -1 else(par v:Int)) f w u:=by
    intro f
    induction f with
    |zero=>intro w u _;rfl
    | succ f A =>
     intro w u hw;simp only[onP];rcases hw with rfl|⟨q,M,rfl⟩
     ·rfl
     ·rw[show Int.toNat (q:Int)=q from rfl];by_cases B:q=0
      ·subst B;rw[p0,A (-1) u (.inl Z)];rfl
      ·obtain⟨_,_,_,a,_⟩:=hP.at_ q M B;rw[H q M B,A _ u (.inr ⟨par q,a,rfl⟩),if_neg B]
   have T:∀k,k<=g.2.length->wV (BN g c) g.2.length c v k=wV (λv=>if v=0 then -1 else(par v:Int)) g.2.length c v k:=by
    intro k
    induction k with
    |zero=>intro _;rfl
    |succ k A=>
     intro E;simp only[wV];rw[A (by omega),e _ _ _ (.inr ⟨k,E,rfl⟩)]
   exact T _ (Nat.le_refl _)
  exact⟨λh v i=>by rw[<-s v i];exact h v i,λh v i=>by
   show at' (at' c (v:Int)) 5=_;rw[s v i];exact h v i⟩
 rw[w1 ⟨p,L.2 y⟩,bG Z];unfold oA;rw[if_neg (by simp),show qN 1000 (g.1,g.2) c=some R from r1,bG Z];by_cases t:∀v,v<g.2.length->SAt g c v
 ·exact⟨true,O t,⟨λ_=>⟨p,y,J.1 t⟩,λ_=>rfl⟩⟩
 ·exact⟨false,P t,⟨λh=>(by cases h),λh=>absurd (J.2 h.2.2) t⟩⟩
end
theorem aaU {g:GR} (m:VM g.1 g.2) (h:∀v:Nat,1<=v->v<g.2.length->∃u:Nat,u<v∧mD g.2 u v):Hi g:=by
 have f:VG g:=m.vg;have t:=f.n1;have j:∀v,v<g.2.length->∃k,xK g 0 k v:=by
  intro v
  induction v using Nat.strongRecOn with
  | _ v ih =>
   intro c;by_cases l:v=0
   ·subst l;exact⟨0,rfl,c⟩
   ·obtain⟨u,e,x,s,p⟩:=h v (by omega) c;obtain⟨k,r⟩:=ih u e (by omega);obtain⟨i,q,d⟩:=EA s;refine⟨k+1,u,r,i,q,?_⟩
    show(at' (at' g.2 (u:Int)) (i:Int)).1=_;rw[d,p]
 intro u v e c;obtain⟨a,n⟩:=j u e;obtain⟨b,o⟩:=j v c;exact⟨a+b,(Gj f n).trans o⟩
structure af_ (g:GR) (d:aO) (E:Nat) (par fp:Nat->Nat):Prop where
 v:VG g
 c:Hi g
 dist:oL g 0 d
 d0:∀v,v<g.2.length->0<=D d v
 p:TP g d par fp
 e:∀v,v<g.2.length->D d v<=(E:Int)
 en:E<g.2.length
 ecc:nY 1000 g 0=some (E:Int)
structure ZT (g:GR) (d:aO) (E:Nat) (par fp:Nat->Nat):Prop extends af_ g d E par fp where
 refEcc:nZ 1000 g 0=some (E:Int)
theorem ajQ (x:Oj) (a:Nat) (n:1<=a) (k:a<=24):∃g d E e j,e_ 1000 x (a:Int)=some g∧g.2.length<=a∧af_ g d E e j:=by
 obtain⟨g,t,i,w,q⟩:=Na x a n k;have h:VG g:=i.vg;have y:=h.n1;have l:=aaU i q;obtain⟨r,z,o⟩:=zA h l (s:=0) (by omega);obtain⟨d,_,f,m,v,c,A⟩:=o;have b:∀v,v<g.2.length->0<=D d v:=λv c=>(Gp h (s:=0) (by omega) f).2 l v (by rw[f.len];exact c);obtain⟨e,j,p⟩:=ahk h f b;have B:=b v c;have C:=f.hi v c;have u:r<(g.2.length:Int):=by
  have F:=f.lt c;omega
 refine⟨g,d,r.toNat,e,j,t,w,⟨h,l,f,b,p,λv c=> ?_,by omega,?_⟩⟩
 ·have:=m v c;omega
 ·rw[Int.toNat_of_nonneg (by omega)];exact z
theorem ajR (x:Oj) (a:Nat) (l:1<=a) (h:a<=24):∃g d E b f,e_ 1000 x (a:Int)=some g∧g.2.length<=a∧ZT g d E b f:=by
 obtain⟨g,d,E,b,f,n,o,N⟩:=ajQ x a l h;have p:=N.v.n1;obtain⟨r,q,m⟩:=zA N.v N.c (s:=0) (by omega);obtain⟨t,j,i,_⟩:=Mb N.v (s:=0) (by omega);have e:=Jj m (i N.c);have k:=Option.some.inj (q.symm.trans N.ecc);exact⟨g,d,E,b,f,n,o,N,by rw[<-k,e];exact j⟩
theorem agB:FB RN=CL:=rfl
theorem YT:xU fR.length RN=true:=abQ
theorem ahq:∀x,x<fR.length->DD (at' fR (x:Int)) ∧ -100000<=(at' fR (x:Int)).2.2.1∧(at' fR (x:Int)).2.2.1<=(at' fR (x:Int)).2.2.2.1:=by
 intro x a;have a:x<6:=a
 match x,a with
 |0,_=>exact⟨⟨by decide,by decide,by decide⟩,by decide,by decide⟩
 |1,_=>exact⟨⟨by decide,by decide,by decide⟩,by decide,by decide⟩
 |2,_=>exact⟨⟨by decide,by decide,by decide⟩,by decide,by decide⟩
 |3,_=>exact⟨⟨by decide,by decide,by decide⟩,by decide,by decide⟩
 |4,_=>exact⟨⟨by decide,by decide,by decide⟩,by decide,by decide⟩
 |5,_=>exact⟨⟨by decide,by decide,by decide⟩,by decide,by decide⟩
theorem Rs {p:sF} {g:GR} (d:VG g) (R:List RL) (c:bE):Da 0 (0,0,0,0,dM .u32 ((pZ (aQ p g) R (eO g) c:Nat):Int) 16777215) 0 0 (pZ (aQ p g) R (eO g) c):=by
 have a:pZ (aQ p g) R (eO g) c<16777216:=QI.lt d (JP (aQ p g) R (eO g) c);have b:dM .u32 ((pZ (aQ p g) R (eO g) c:Nat):Int) 16777215=((pZ (aQ p g) R (eO g) c:Nat):Int):=by
  rw[show(16777215:Int)=((16777215:Nat):Int)from rfl,DI (by omega) (by omega),show(16777215:Nat)=2^24 - 1 from rfl,Nat.and_two_pow_sub_one_eq_mod,Nat.mod_eq_of_lt (by omega)]
 exact⟨rfl,⟨by dsimp only;omega,by dsimp only;omega⟩,rfl,rfl,b,by omega,a⟩
theorem acp {n E:Nat} {d:Nat->Nat} {q:Nat->Prop} (g:∀v,v<n->d v<=E):∀(k v:Nat),E<=d v+k->v<n->q v->∃w,w<n∧q w∧∀u,u<n->q u->d u<=d w
 |0,v,h,hv,hq=>⟨v,hv,hq,λu f _=>by have:=g u f;omega⟩
 | k + 1, v, h, hv, hq => by
  by_cases e:∃u,u<n∧q u∧d v<d u
  ·obtain⟨u,a,b,c⟩:=e;exact acp g k u (by omega) a b
  ·exact⟨v,hv,hq,λu f h=>Nat.le_of_not_lt λc=>e ⟨u,f,h,c⟩⟩
theorem KE {P:Nat->Int} {n u:Nat} {c a:bE}:∀{k:Nat},(∀v,v<k->FY a v=FY c v)->wV P n a u k=wV P n c u k
 |0,_=>rfl
 |k+1,h=>by
  simp only[wV];rw[KE λv b=>h v (by omega),h k (by omega)]
abbrev pN:sF:=(ByteArray.mk #[115,110,97,112,115,104,111,116],fR,[])
section
variable {p:sF} {g:GR} {c:List (List Int)} {d:List Int} (hV:VG g) (hD:oL g 0 d) (h0:∀v,v<g.2.length->0<=D d v) {par fp:Nat->Nat} (hP:TP g d par fp) (hc:Du g c fR)
 include hV hD h0 hP hc
theorem adU:pZ (aQ p g) RN (eO g) c≠0:=by
 intro C;have l:RT g.2.length g.2.length par (λv=>(D d v).toNat):=YQ hV hD h0 hP λv f=>hD.hi v f;have h:∀v,v<g.2.length->¬0<=dL (aQ p g) RN c v:=λv f q=>by
  have:=Av.2 ⟨f,q⟩;rw[C,Nat.zero_testBit]at this;cases this
 have t:∀v,v<g.2.length->FL g c v:=λv f=>Classical.byContradiction λq=>by
  obtain⟨a,b⟩:=Kq (p:=p) (R':=RX) q;exact h v f (by rw[show RN=RB++RX from rfl,a];exact b)
 have y:Gi g d c:=VC hV hD h0 (λv f=>(Hu (W:=KW) hc f).1.1) t;have B:∀v,v<g.2.length->¬0<=dL (aQ p g) RX c v:=λv f q=>h v f (by rw[show RN=RB++RX from rfl,Jb (t v f),if_pos q];omega);have i:=λv f=>λq=>B v f ((enN (p:=p) hV hD h0 hP y f).1.2 q);have F:AG g.2.length par (sC c) (bC c):=λv f n=>Classical.byContradiction λq=>i v f (.inr (.inl (Se n q)));have A:∀v,v<g.2.length->sC c v=0:=λv f=>Decidable.byContradiction λq=>by
  obtain⟨w,o,z,j⟩:=acp (q:=λu=>sC c u≠0) l.le g.2.length v (by omega) f q;refine i w o (.inr (.inr ⟨z,λx s k e=> ?_⟩));obtain⟨_,a⟩:=l.up x s k;have m:sC c x=0:=Decidable.byContradiction λr=>by
   have:=j x s r;rw[e]at a;omega
  refine⟨m,Decidable.byContradiction λr=>i x s (.inr (.inl ⟨k,.inl λE=>r ?_⟩))⟩
  rw[<-E,e]
 exact i 0 l.n1 (.inl ⟨rfl,A 0 l.n1⟩)
end
structure ahD (g:GR) (kind:Int) (k len:Nat) (cs:List (List (List Int))) (cnts:List CT):Prop where
 l1:cs.length=k+1
 l2:cnts.length=k+1
 le:k<=len
 step:∀j,j<k->∃t,(∀i,t.testBit i=true->(pZ (aQ pN g) RN (eO g) (at' cs (j:Int))).testBit i=true)∧pZ (aQ pN g) RN (eO g) (at' cs (j:Int))≠0∧at' cs ((j+1:Nat):Int)=g_ (aQ pN g) fR RN (at' cs (j:Int)) t∧(kind=4->t=pZ (aQ pN g) RN (eO g) (at' cs (j:Int)))
section
variable {g:GR} {d:List Int} {E:Nat} {par fp:Nat->Nat} (N:ZT g d E par fp) {kind:Int} (hk1:1<=kind) (hk4:kind<=4) {c0:List (List Int)} {ws:List Int} (hws:ws.length<=900) (hw:∀k:Nat,k<ws.length->∃m:Nat,at' ws (k:Int)=(m:Int)∧m<4294967296)
 include N
theorem aep {c:List (List Int)} (f:Du g c fR):(Db g d par (AP g par c) c->eH 1000 g c=some true)∧(¬Db g d par (AP g par c) c->eH 1000 g c=some false):=by
 obtain⟨b,a,e⟩:=abS N.v N.c N.dist N.p f;refine⟨λh=>by rw[a,e.2 h],λh=> ?_⟩
 cases b with
 |true=>exact absurd (e.1 Z) h
 |false=>exact a
 omit N in
theorem KD {c a:List (List Int)} (h:∀v,v<g.2.length->xC a v=xC c v):AP g par a=AP g par c:=funext λu=>KE λv b=>h v b
 include hk1 hk4 hws hw
theorem ajV (w:Du g c0 fR):
  ∃l f,vM 1000 CM g kind c0 ws=some (l,f,true)∧ahD g kind ws.length ws.length l f∧at' l 0=c0∧(∀j,j<=ws.length->Jp g d E par (AP g par c0) c0 j (at' l (j:Int)) (at' f (j:Int)))∧
   (∀j,j<ws.length->Db g d par (AP g par c0) (at' l (j:Int))->Db g d par (AP g par c0) (at' l ((j+1:Nat):Int)))∧
   (kind=4->∀j,j<=ws.length->(at' f (j:Int)).2.2.1=(j:Int))∧(kind=4->6*E+4<=ws.length->Db g d par (AP g par c0) (at' l (ws.length:Int))):=by
 have M:=abW (p:=pN) (S:=AP g par c0) N.v N.dist N.d0 N.p (Mw N.v) N.e;have o:=Uq N.v N.dist N.p N.d0 w;have I:=Pj (p:=pN) N.v N.dist N.d0 N.p (Mw N.v) N.e w o;have F:UM g d E par (λv=>(D d v).toNat) (AP g par c0) (.tree 0) c0:=⟨w,o,Nat.zero_le _,HT N.d0 λv hv=>(Hu (W:=KW) w hv).1.1⟩
 obtain⟨k,l,f,P,Q,R,T,u,J,U⟩:=YV (YM 1000) agB N.v (Mw N.v) YT hk1 hk4 w hws hw (λk c q=>Jp g d E par (AP g par c0) c0 k c q∧(k=0->c=c0)∧
   (kind=4->∃B,Da k q k B (pZ (aQ pN g) RN (eO g) c)∧Ap (BX E) (6*E+4) (UM g d E par (λv=>(D d v).toNat) (AP g par c0)) (TsN g d E par (λv=>(D d v).toNat)) k (pZ (aQ pN g) RN (eO g) c) c))
  ⟨I,λ_=>rfl,λ_=>⟨0,Rs N.v RN c0,Ap.start M F⟩⟩
  (λk c q t K V hk L aa z h hk4 n=>⟨RU (p:=pN) N.v N.dist N.d0 N.p (Mw N.v) N.e (by omega) L.1 z h n,λe=>by omega,λe=>by
   obtain⟨B,s,A⟩:=L.2.2 e;have ht:t<16777216:=QI.lt N.v (λi hi=>(Av.1 (h i hi)).1);have G:pZ (aQ pN g) RN (eO g) (g_ (aQ pN g) fR RN c t)<16777216:=QI.lt N.v (JP (aQ pN g) RN (eO g) _);obtain⟨R',O,ab,a,b,c⟩:=Ju M A ⟨h,rfl⟩ s (by omega) ht z G n;obtain⟨rfl,rfl⟩:=c (hk4 e);exact⟨O,a,b⟩⟩)
 obtain rfl:k=ws.length:=U.resolve_right λe=>adU (p:=pN) N.v N.dist N.d0 N.p (u k (Nat.le_refl k)).1.r e;refine⟨l,f,P,⟨Q,R,T,J⟩,(u 0 (Nat.zero_le _)).2.1 Z,λj y=>(u j y).1,λj y Y=> ?_,λe j y=> ?_,λe hl=> ?_⟩
 ·obtain⟨t,s,_,X,_⟩:=J j y;have C:=(u j (by omega)).1;have H:DC g par (xC (at' l (j:Int))) (AP g par c0):=by
   have:=Uq N.v N.dist N.p N.d0 C.r;rw[KD C.x]at this;exact this
  rw[X];exact Ry (p:=pN) N.v N.dist N.d0 N.p (Mw N.v) N.e C.r H Y s
 ·obtain⟨B,s,_⟩:=(u j y).2.2 e;exact s.rounds
 ·obtain⟨B,s,A⟩:=(u ws.length (Nat.le_refl _)).2.2 e;exact No N.v N.dist N.d0 N.p (Mw N.v) N.e s A hl
 omit hk1 hk4 hws hw in
theorem ajN {c0 c:List (List Int)} {k:Nat} {a:CT} (b:Jp g d E par (AP g par c0) c0 k c a):(Db g d par (AP g par c0) c->eH 1000 g c=some true)∧(¬Db g d par (AP g par c0) c->eH 1000 g c=some false):=by
  have:=aep N b.r;rw[KD b.x]at this;exact this
end
end Go.Proofs.YtlkhndebimcbbaaGreatDoor
namespace Go.Proofs.YtlkhndebimcbbaaGreatDoor
open Go.Sx
def kR (U:Nat) (b:cG) (a:bE):Option (Int×Bool):=
 Option.bind (eH U ((b.1,b.2)) a) λc=>(if(!c)=true then(some ((0:Int),false))else(ck (0<=(0:Int)∧(0:Int)<(List.length a:Int)) (ck (0<=(5:Int)∧(5:Int)<(List.length (at' a (0:Int)):Int)) (some ((at' (at' a (0:Int)) (5:Int)),true)))))
theorem ade:aU Tryz.prog 12:=Tryz.call12
theorem HS (U:Nat) {e:cG} {i:bE} (b:Value)  (d:Value)  (j:lJ)  (f:Value)  (k:qF) (r:Int×Bool) (h:kR U e i=some r):
  aY Tryz.prog 12 #[Value.agg #[b,d],f] [Sl bO b e.1,S2 bA d j e.2,S2 bO f k i] (λx:Unit=>Value.tuple #[vI (r.1),vB (r.2)]) (λx l=>l) (λ_ l=>l):=by
 refine aY.of Tryz.func12 Z Tryz.ntmps12 Z λc=>?_;refine aW<|aH (aN.box (cs:=[b,d]) Z Z) Z λo=>aE Z<|aE Z<|aM<|aK<|aW<|eQ 0 Z<|aA Z<|fU h λm n h=>aH (aN.callQ WV (Cd U b d j f k m n) Z (oO [0,1,2] Z)) Z λp=>aB (tK Z) Z<|aM ?_;refine BM h Z (λ_ h=>?_) λ_ h=>?_
 ·refine aW<|aE Z<|aE Z<|aM<|aV<|aI ?_;cases h;exact lK () Z Z (RV.tmp Z) (RV.tmp Z) .nil aG.nil
 refine cU<|aW<|aA Z<|dB h λa h=>aB (cC Z Z (aF.fact 2 Z) Z Z a) Z<|aB (cE Z (aF.fact 2 Z) Z Z a) Z<|dB h λg h=>aB (bB Z Z (aF.el (aF.fact 2 Z) a.1 a.2) Z Z g) Z<|aB (bS Z (aF.el (aF.fact 2 Z) a.1 a.2) Z Z Z cX g) Z<|aE Z<|aE Z<|aM<|aV ?_;cases h;exact lK () Z Z (RV.tmp Z) (RV.tmp Z) .nil aG.nil
end Go.Proofs.YtlkhndebimcbbaaGreatDoor
namespace Go.Proofs.YtlkhndebimcbbaaGreatDoor
open Go Go.Sx
section
variable {g:GR} {d:List Int} {E:Nat} {par fp:Nat->Nat} (N:ZT g d E par fp)
 include N
theorem VO {c:List (List Int)}:AP g par c 0=FN c g.2.length:=by
 refine Mk λv a=> ?_;have b:=N.d0 v a;have e:=N.dist.lt a;exact PD (Ub N.p N.d0) (λv a h=>(N.dist.zero v a).1 h) (D d v).toNat v _ a (by omega) (by omega)
theorem aeL {a c:List (List Int)} {k:Nat} {b:CT} (f:Jp g d E par (AP g par a) a k c b):kR 1000 g c=some (0,false)∨kR 1000 g c=some (FN a g.2.length,true):=by
 have l:=N.v.n1;have n:=f.r.len;have m:(at' c 0).length=6:=f.r.row 0 (by omega);obtain⟨i,j⟩:=ajN N f;unfold kR;by_cases h:Db g d par (AP g par a) c
 ·right;have e:at' (at' c 0) 5=FN a g.2.length:=by rw[<-VO N];exact h.2.2 0 (by omega)
  rw[show eH 1000 (g.1,g.2) c=some true from i h,bG Z,if_neg (by simp),bZ (by omega),bZ (by omega),e]
 ·left;rw[show eH 1000 (g.1,g.2) c=some false from j h,bG Z,if_pos (by simp)]
end
end Go.Proofs.YtlkhndebimcbbaaGreatDoor
namespace Go.Proofs.YtlkhndebimcbbaaGreatDoor
open Go.Sx
def yC (U:Nat) (a:ByteArray):Option ((ByteArray×Int×Int×Int×Int×Int)):=
 some ((a,(2:Int),(0:Int),(0:Int),(0:Int),(0:Int)))
theorem W_:aU Tryz.prog 45:=Tryz.call45
theorem Fl (U:Nat) {a:ByteArray} (r:Qn) (h:yC U a=some r):
  aY Tryz.prog 45 #[vS (a)] [] (λx:Unit=>Value.agg #[vS (r.1),vI (r.2.1),vI (r.2.2.1),vI (r.2.2.2.1),vI (r.2.2.2.2.1),vI (r.2.2.2.2.2)]) (λx l=>l) (λ_ l=>l):=by
 refine aY.of Tryz.func45 Z Tryz.ntmps45 Z λc=>?_;unfold yC at h;refine aW<|aH (aN.alloc (cs:=vD3) Z Z) Z λb=>aM<|aW<|aA Z ?_;refine aB (Cm (r:=Value.agg #[vS (a),vI (2:Int),vI (0:Int),vI (0:Int),vI (0:Int),vI (0:Int)]) Z Z (by intro w;simp[Instr.build,Instr.fill,eX,dY,dH,eY,eZ,dZ,gK])) Z ?_;refine bT 0 (vs:=[vS (a),vI (2:Int),vI (0:Int),vI (0:Int),vI (0:Int),vI (0:Int)]) Z Z Z Z Z Z<|aM<|aV ?_;cases h;exact hZ () Z Z (RV.cell 0 Z Z Z Z) .nil aG.nil
def GA (U:Nat)  : Option Zl:=
 Option.bind (Gz U) λc=>(Option.bind (yC U (ByteArray.mk #[115])) λa=>(Option.bind (yC U (ByteArray.mk #[98])) λb=>(ck ((List.length c:Int)+(List.length ([(a.1,a.2.1,a.2.2.1,a.2.2.2.1,a.2.2.2.2.1,a.2.2.2.2.2),(b.1,b.2.1,b.2.2.1,b.2.2.2.1,b.2.2.2.2.1,b.2.2.2.2.2)]):Int)<=1099511627) (some (c++([(a.1,a.2.1,a.2.2.1,a.2.2.2.1,a.2.2.2.2.1,a.2.2.2.2.2),(b.1,b.2.1,b.2.2.1,b.2.2.2.1,b.2.2.2.2.1,b.2.2.2.2.2)]))))))
theorem adg:aU Tryz.prog 25:=Tryz.call25
theorem NK (U:Nat)  (r:Zm) (h:GA U  = some r):
  aY Tryz.prog 25 #[] [] (λx:Value=>x) (λx l=>Ar iD x r::l) (λ_ l=>l):=by
 refine aY.of Tryz.func25 Z Tryz.ntmps25 Z λc=>?_;refine aW<|aE Z<|aM<|aW<|fU h λg j h=>aH (aN.callQ adn (NJ U  g j) Z .nil) Z λn=>fU h λa k h=>aH (aN.callQ W_ (Fl U  a k) Z .nil) Z λo=>fU h λb m h=>aH (aN.callQ W_ (Fl U  b m) Z .nil) Z λp=>aH (cA (e:=iD) ([((a.1,a.2.1,a.2.2.1,a.2.2.2.1,a.2.2.2.2.1,a.2.2.2.2.2)),((b.1,b.2.1,b.2.2.1,b.2.2.2.1,b.2.2.2.2.1,b.2.2.2.2.2))]) [(0,Value.agg #[vS (a.1),vI (a.2.1),vI (a.2.2.1),vI (a.2.2.2.1),vI (a.2.2.2.2.1),vI (a.2.2.2.2.2)]),(1,Value.agg #[vS (b.1),vI (b.2.1),vI (b.2.2.1),vI (b.2.2.2.1),vI (b.2.2.2.2.1),vI (b.2.2.2.2.2)])] Z Z Z Z (JX (vS (a.1)) (vI (a.2.1)) (vI (a.2.2.1)) (vI (a.2.2.2.1)) (vI (a.2.2.2.2.1)) (vI (a.2.2.2.2.2)) (vS (b.1)) (vI (b.2.1)) (vI (b.2.2.1)) (vI (b.2.2.2.1)) (vI (b.2.2.2.2.1)) (vI (b.2.2.2.2.2))) Z Z Z) Z λi=>dB h λd h=>aH (eW 1 iF Z Z Z (bF (aF.res 0 Z) iF) Z Z Z Z d Z) Z λf=>aE Z<|aM<|aV ?_;cases h;exact hZ (f) Z Z (RV.tmp Z) (aZ.ix [1] Z Z) aG.nil
def CF (U:Nat)  : Option Zl:=
 Option.bind (GA U) λc=>(Option.bind (rW U (ByteArray.mk #[120]) (15:Int) (0:Int) (0:Int)) λa=>(Option.bind (rW U (ByteArray.mk #[97]) (0:Int) (15:Int) (0:Int)) λb=>(ck ((List.length c:Int)+(List.length ([(a.1,a.2.1,a.2.2.1,a.2.2.2.1,a.2.2.2.2.1,a.2.2.2.2.2),(b.1,b.2.1,b.2.2.1,b.2.2.2.1,b.2.2.2.2.1,b.2.2.2.2.2)]):Int)<=1099511627) (some (c++([(a.1,a.2.1,a.2.2.1,a.2.2.2.1,a.2.2.2.2.1,a.2.2.2.2.2),(b.1,b.2.1,b.2.2.1,b.2.2.2.1,b.2.2.2.2.1,b.2.2.2.2.2)]))))))
theorem agt:aU Tryz.prog 8:=Tryz.call8
theorem NL (U:Nat)  (r:Zm) (h:CF U  = some r):
  aY Tryz.prog 8 #[] [] (λx:Value=>x) (λx l=>Ar iD x r::l) (λ_ l=>l):=by
 refine aY.of Tryz.func8 Z Tryz.ntmps8 Z λc=>?_;refine aW<|aE Z<|aM<|aW<|fU h λg j h=>aH (aN.callQ adg (NK U  g j) Z .nil) Z λn=>fU h λa k h=>aH (aN.callQ Rm (AV U  a k) Z .nil) Z λo=>fU h λb m h=>aH (aN.callQ Rm (AV U  b m) Z .nil) Z λp=>aH (cA (e:=iD) ([((a.1,a.2.1,a.2.2.1,a.2.2.2.1,a.2.2.2.2.1,a.2.2.2.2.2)),((b.1,b.2.1,b.2.2.1,b.2.2.2.1,b.2.2.2.2.1,b.2.2.2.2.2))]) [(0,Value.agg #[vS (a.1),vI (a.2.1),vI (a.2.2.1),vI (a.2.2.2.1),vI (a.2.2.2.2.1),vI (a.2.2.2.2.2)]),(1,Value.agg #[vS (b.1),vI (b.2.1),vI (b.2.2.1),vI (b.2.2.2.1),vI (b.2.2.2.2.1),vI (b.2.2.2.2.2)])] Z Z Z Z (JX (vS (a.1)) (vI (a.2.1)) (vI (a.2.2.1)) (vI (a.2.2.2.1)) (vI (a.2.2.2.2.1)) (vI (a.2.2.2.2.2)) (vS (b.1)) (vI (b.2.1)) (vI (b.2.2.1)) (vI (b.2.2.2.1)) (vI (b.2.2.2.2.1)) (vI (b.2.2.2.2.2))) Z Z Z) Z λi=>dB h λd h=>aH (eW 1 iF Z Z Z (bF (aF.res 0 Z) iF) Z Z Z Z d Z) Z λf=>aE Z<|aM<|aV ?_;cases h;exact hZ (f) Z Z (RV.tmp Z) (aZ.ix [1] Z Z) aG.nil
end Go.Proofs.YtlkhndebimcbbaaGreatDoor
namespace Go.Proofs.YtlkhndebimcbbaaGreatDoor
open Go Go.Sx
theorem aeV:CF 1000=some fR:=by kernel_rfl
section
variable {g:GR} {d:List Int} {E:Nat} {par fp:Nat->Nat} (N:ZT g d E par fp)
 include N
end
theorem Ur {c:List (List Int)}:∀{k:Nat},(∀v,v<k->0<=FY c v∧FY c v<=15)->0<=FN c k∧FN c k<=15*(k:Int)
 |0,_=>by simp[FN]
 |k+1,h=>by
  have b:=Ur (k:=k) λv a=>h v (by omega);have:=h k (by omega);simp only[FN];omega
end Go.Proofs.YtlkhndebimcbbaaGreatDoor
namespace Go.Proofs.YtlkhndebimcbbaaGreatDoor
open Go.Sx
def uL (U:Nat)  : Option (ByteArray):=
 some (ByteArray.mk #[112,114,111,103,114,97,109,32,115,110,97,112,115,104,111,116,59,10,118,97,114,32,100,32,58,32,48,32,46,46,32,110,59,10,118,97,114,32,112,32,58,32,112,111,114,116,59,10,118,97,114,32,115,32,58,32,98,111,111,108,59,10,118,97,114,32,98,32,58,32,98,111,111,108,59,10,118,97,114,32,120,32,58,32,48,32,46,46,32,49,53,59,10,118,97,114,32,97,32,58,32,48,32,46,46,32,49,53,32,42,32,110,59,10,114,117,108,101,32,116,111,112,58,32,114,111,111,116,32,38,38,32,40,100,32,33,61,32,48,32,124,124,32,112,32,33,61,32,110,111,110,101,41,32,45,62,32,100,32,58,61,32,48,44,32,112,32,58,61,32,110,111,110,101,59,10,114,117,108,101,32,108,111,119,58,32,33,114,111,111,116,32,38,38,32,40,100,32,33,61,32,40,109,105,110,40,113,46,100,41,32,60,32,110,32,63,32,109,105,110,40,113,46,100,41,32,43,32,49,32,58,32,110,41,32,124,124,32,112,32,33,61,32,102,105,114,115,116,40,113,46,100,32,61,61,32,109,105,110,40,113,46,100,41,41,41,10,32,32,45,62,32,100,32,58,61,32,40,109,105,110,40,113,46,100,41,32,60,32,110,32,63,32,109,105,110,40,113,46,100,41,32,43,32,49,32,58,32,110,41,44,32,112,32,58,61,32,102,105,114,115,116,40,113,46,100,32,61,61,32,109,105,110,40,113,46,100,41,41,59,10,114,117,108,101,32,98,101,103,105,110,58,32,114,111,111,116,32,38,38,32,33,115,32,45,62,32,115,32,58,61,32,116,114,117,101,44,32,98,32,58,61,32,33,98,59,10,114,117,108,101,32,116,97,107,101,58,32,33,114,111,111,116,32,38,38,32,115,111,109,101,40,113,32,61,61,32,112,32,38,38,32,40,113,46,98,32,33,61,32,98,32,124,124,32,115,32,38,38,32,33,113,46,115,41,41,32,45,62,32,115,32,58,61,32,115,111,109,101,40,113,32,61,61,32,112,32,38,38,32,113,46,115,41,44,32,98,32,58,61,32,115,111,109,101,40,113,32,61,61,32,112,32,38,38,32,113,46,98,41,59,10,114,117,108,101,32,102,105,110,105,115,104,58,32,115,32,38,38,32,97,108,108,40,113,46,112,32,33,61,32,113,46,98,97,99,107,32,124,124,32,33,113,46,115,32,38,38,32,113,46,98,32,61,61,32,98,41,32,45,62,32,115,32,58,61,32,102,97,108,115,101,44,32,97,32,58,61,32,120,32,43,32,115,117,109,40,113,46,112,32,61,61,32,113,46,98,97,99,107,32,63,32,113,46,97,32,58,32,48,41,59,10])
theorem adb:aU Tryz.prog 10:=Tryz.call10
theorem IE (U:Nat)  (r:ByteArray) (h:uL U  = some r):
  aY Tryz.prog 10 #[] [] (λx:Unit=>vS (r)) (λx l=>l) (λ_ l=>l):=by
 refine aY.of Tryz.func10 Z Tryz.ntmps10 Z λc=>?_;unfold uL at h;refine aW<|aE Z<|aM<|aW<|aE Z<|aM<|aV ?_;cases h;exact lP Z
end Go.Proofs.YtlkhndebimcbbaaGreatDoor
namespace Go.Proofs.YtlkhndebimcbbaaGreatDoor
open Go Go.Sx Go.Gx
set_option maxRecDepth 100000
def BD (a:Nat):Option (Bool):=some (true)
theorem WU:aU Tryz.prog 13:=Tryz.call13
theorem Xn:okT (JG HN gp2 4000 13 [] H0)=true:=by kernel_rfl
theorem Lm (a:Nat) (r:Bool) (h:BD a=some r):
  aY Tryz.prog 13 #[] [Gb 0 (cellsOf HY w_)] (λx:Unit=>Value.bool (r)) (λx l=>l) (λ_ l=>l):=by
 obtain rfl:=Option.some.inj h;obtain⟨d,c⟩:=YD Xn;rw[Gm GL]at c;exact Nt XR WU (λf e h=>h.bool_inv) λT b=>Gl (gs:=gl T) ajK c (fE.start b Z) .nil
end Go.Proofs.YtlkhndebimcbbaaGreatDoor
namespace Go.Proofs.YtlkhndebimcbbaaGreatDoor
open Go.Sx
noncomputable def kG  (a:Bool):Option (Bool):=
 some (a)
noncomputable def qZ (U:Nat) (a:Qm) (c:Unit):Option (Bool):=
 Option.bind (BD U) λb=>(if b=true then(kG  (a.2.2))else(kG  (false)))
noncomputable def nE (b:Int) (a:(Int)->Option (Bool)) (c:Unit):Option (Bool):=
 a (wI .i64 (b+(1:Int)))
noncomputable def kI (b:Int) (a:(Int)->Option (Bool)) (c:Bool):Option (Bool):=
 if c=true then(some (false))else(a (wI .i64 (b+(1:Int))))
noncomputable def iN (e:bE) (c:Qm) (b:Int) (f:(Int)->Option (Bool)) (a:Int) (d:(Int)->Option (Bool)):Option (Bool):=
 if a<(List.length e:Int)then(ck (0<=b∧b<(List.length c.1:Int)) (if(List.length (at' c.1 b):Int)≠(List.length e:Int)then(kI a d (true))else(ck (0<=b∧b<(List.length c.1:Int)) (ck (0<=a∧a<(List.length (at' c.1 b):Int)) (if(List.length (at' (at' c.1 b) a):Int)≠(6:Int)then(kI a d (true))else(ck (0<=b∧b<(List.length c.1:Int)) (ck (0<=a∧a<(List.length (at' c.1 b):Int)) (ck (0<=(4:Int)∧(4:Int)<(List.length (at' (at' c.1 b) a):Int)) (ck (0<=a∧a<(List.length e:Int)) (ck (0<=(4:Int)∧(4:Int)<(List.length (at' e a):Int)) (kI a d (decide ((at' (at' (at' c.1 b) a) (4:Int))≠(at' (at' e a) (4:Int)))))))))))))))else(nE b f (()))
noncomputable def kH (U:Nat) (d:bE) (e:Qm) (b:Int) (a:(Int)->Option (Bool)) (c:Bool):Option (Bool):=
 if c=true then(some (false))else(bL (iN d e b a) U (0:Int))
noncomputable def dW (U:Nat) (g:(aO×fO)) (d:bE) (f:Int) (b:Qm) (a:Int) (c:(Int)->Option (Bool)):Option (Bool):=
 if a<(List.length b.1:Int)then(ck (0<=a∧a<(List.length b.1:Int)) (Option.bind (kR U ((g.1,g.2)) (at' b.1 a)) λe=>(if e.2=true then(kH U d b a c (decide (e.1≠f)))else(kH U d b a c (false)))))else(qZ U b (()))
noncomputable def nD (U:Nat) (g:aO) (d:(aO×fO)) (a:bE) (b:Int):Option (Bool):=
 Option.bind (uL U) λc=>(Option.bind (pR U g (250:Int)) λe=>(Option.bind (vM U c ((d.1,d.2)) (3:Int) a e) λf=>(bL (dW U d a b f) U (0:Int))))
noncomputable def kJ (U:Nat) (d:aO) (e:(aO×fO)) (b:bE) (a:fF) (c:iQ->Option (Bool)):Option (Bool):=
 if a.2<(List.length b:Int)then(ck (0<=a.2∧a.2<(List.length b:Int)) (ck (0<=(4:Int)∧(4:Int)<(List.length (at' b a.2):Int)) (c ((wI .i64 (a.1+(at' (at' b a.2) (4:Int)))),(wI .i64 (a.2+(1:Int)))))))else(nD U d e b (a.1))
noncomputable def rU (U:Nat) (a:Dt) (d:aO) (e:aO):Option (Bool):=
 Option.bind (e_ U ((a.1,a.2.1,a.2.2.1,a.2.2.2.1,a.2.2.2.2.1,a.2.2.2.2.2)) (6:Int)) λc=>(Option.bind (CF U) λf=>(Option.bind (mR U ((c.1,c.2)) f d) λb=>(bL (kJ U e c b) U ((0:Int),(0:Int)))))
theorem En (U:Nat) {p0:Dt} {p1:aO} {p2:aO} (v0:Value)  (v1:Value)  (v2:Value)  (v3:Value)  (v4:Value) (r:Bool) (h:rU U p0 p1 p2=some r):
  aY Tryz.prog 3 #[Value.agg #[vI (p0.1),v0,v1,v2,vB (p0.2.2.2.2.1),vB (p0.2.2.2.2.2)],v3,v4] [Sl bO v0 p0.2.1,Sl bO v1 p0.2.2.1,Sl bO v2 p0.2.2.2.1,Sl bO v3 p1,Sl yZ v4 p2,Gb 0 (cellsOf HY w_)] (λx:Unit=>vB (r)) (λx l=>l) (λ_ l=>l):=by
 refine aY.of Tryz.func3 Z Tryz.ntmps3 Z λc=>?_;refine aW<|aH (aN.box (cs:=[vI (p0.1),v0,v1,v2,vB (p0.2.2.2.2.1),vB (p0.2.2.2.2.2)]) Z Z) Z λb1=>aE Z<|aM<|aW<|eQ 0 Z<|fU h λm w3 h=>aH (aN.callQ agr (Cc U v0 v1 v2 m w3) Z (oO [0,1,2] Z)) Z λd=>aH (aN.alloc (cs:=[lH,lH]) Z Z) Z λt=>cF (Know.one ((bF (aF.res 1 Z) dC))) λaq=>cF (Know.one (aF.sl (bV (i:=2) (j:=3) Z Z bU))) λar=>bT 0 (vs:=[d.1,d.2.1]) Z Z (kW aq (kW ar Z)) Z Z Z<|aM<|aK ?_;refine JR.start [0,0,0,7,15] 3 mixedOrders (by decide +kernel) ?_;refine JR.open (by exact rfl) ?_;refine nU 0 Z<|fU h λr8 w9 h=>JR.loud Z Z Z (aN.callQ agt (NL U  r8 w9) Z .nil) Z (λao=>(vY [([1],[])] Z)) λao=>iX Z (fH Z)<|bQ 3 Z Z<|fU h λf ay h=>aH (aN.callQ ags (KO U d.1 d.2.1 (List.zip d.2.2 m.2) ao v3 f ay) Z (aG.cons (bF (aF.res 2 Z) dC) (aG.cons (bV (i:=3) (j:=4) Z Z bU) (aG.cons (bF (aF.res 0 Z) iF) (oO [3] Z))))) Z λa=>aE Z<|aM<|aW<|aE Z<|aM<|aK<|eS (λg=>nD U p2 m f g=some r) (λg N=>[(2,v4),(7,vP t),(8,a.1),(9,vI (g))]) (λg N=>[Ar cQ.raw a.1 a.2,jZ bX a.2 f,bY t [d.1,d.2.1] 28,Ar bX d.1 m.1,Ar cQ.raw d.2.1 d.2.2,jZ b_ d.2.2 m.2]) ?_ ?_
 ·refine aW<|aE Z<|aM<|aT<|eV (kJ U p2 m f) (λq W=>[(2,v4),(7,vP t),(8,a.1),(9,vI (q.1)),(10,vI (q.2))]) (λq W=>[Ar cQ.raw a.1 a.2,jZ bX a.2 f,bY t [d.1,d.2.1] 28,Ar bX d.1 m.1,Ar cQ.raw d.2.1 d.2.2,jZ b_ d.2.2 m.2]) ((0:Int),(0:Int)) () h SF (aZ.ix [0,1,3,4,5,6] Z Z) ?_;intro a0 q W h;refine aK<|aW<|aA Z<|aA Z<|aB (gQ Z (bV (i:=0) (j:=1) Z Z dC) Z) Z<|cY Z<|aM ?_;refine fJ h Z (λh=>?_) λh=>?_
  ·refine cU<|aK<|aT<|aS<|aA Z<|aA Z<|aA Z<|dB h λv h=>aB (cC Z Z (bV (i:=0) (j:=1) Z Z dC) Z Z v) Z<|cF (dA 1 Z) λaj=>aB (iY 0 Z Z aj Z Z v) Z<|dB h λam h=>aB (bB Z Z (aF.row (j:=1) Z dC v.1 v.2) Z Z am) Z<|aB (bS Z (aF.row (j:=1) Z dC v.1 v.2) Z Z Z cX am) Z<|cL Z<|aE Z<|eM<|oD<|aS<|aA Z<|cL Z<|aE Z<|aM ?_;exact Al ((wI .i64 (q.1+(at' (at' f q.2) (4:Int)))),(wI .i64 (q.2+(1:Int)))) () h SF Z
  refine fV ?_;exact jG (q.1) () h SF Z
 intro g N h;refine aK ?_;refine JR.start [0,0,0,0,9,31,63,127,127,127,255,1535,4095] 12 mixedOrders (by decide +kernel) ?_;refine JR.open (by exact rfl)<|fU h λav az h=>JR.loud Z Z Z (aN.callQ adb (IE U  av az) Z .nil) Z (λaR=>An.z) λaR=>bK Z (aZ.cons 2 Z .nil) .nil (jN 0 Z Z Z Z) (aL.h (aZ.ix [2] Z Z) .nil aL.z)<|iX Z (fH Z)<|iX Z (fH Z)<|fU h λaw aC h=>JR.loud Z Z Z (aN.callQ adc (KP U v4 aw aC) Z (oO [4] Z)) Z (λap=>(vY [([3],[])] Z)) λap=>fU h λe aD h=>JR.loud Z Z Z (aN.callQ agu (Qi U d.1 d.2.1 (List.zip d.2.2 m.2) a.1 (List.zip a.2 f) ap e aD) Z (aG.cons (bF (aF.res 4 Z) dC) (aG.cons (bV (i:=5) (j:=6) Z Z bU) (aG.cons (bV (i:=1) (j:=2) Z Z dC) (aG.cons (bF (aF.res 0 Z) uV) (oO [5] Z)))))) Z (λb=>(vY [] Z)) λb=>iX Z (fH Z)<|iX Z (lZ Z Z)<|iX Z (lZ Z Z)<|iX Z (lZ Z Z)<|iX Z (mE Z)<|iX Z (mE Z)<|bQ 12 Z Z<|aE Z<|aM<|aK<|eS (λH=>qZ U e H=some r) (λH O=>[(13,vB (e.2.2))]) (λH O=>[]) ?_ ?_
 ·refine aW<|aE Z<|aM<|aT<|eV (dW U m f g e) (λk Q=>[(7,vP t),(8,a.1),(9,vI (g)),(11,b.1),(13,vB (e.2.2)),(14,vI (k))]) (λk Q=>[Ar cQ.raw b.1 b.2.1,IP bX b.2.1 b.2.2.1 e.1,Ar cQ.raw a.1 a.2,jZ bX a.2 f,bY t [d.1,d.2.1] 28,Ar bX d.1 m.1,Ar cQ.raw d.2.1 d.2.2,jZ b_ d.2.2 m.2]) (0:Int) () h SF (aZ.ix [0,1,4,5,6,7,8,9] Z Z) ?_;intro K k Q h;refine aK<|aW<|aA Z<|aA Z<|aB (JA 0 1 Z Z Z Z) Z<|cY Z<|aM ?_;refine fJ h Z (λh=>?_) λh=>?_
  ·refine cU<|aK<|eS (λI=>nE k (bL (dW U m f g e) K) I=some r) (λI R=>[(7,vP t),(8,a.1),(9,vI (g)),(11,b.1),(13,vB (e.2.2)),(14,vI (k))]) (λI R=>[Ar cQ.raw b.1 b.2.1,IP bX b.2.1 b.2.2.1 e.1,Ar cQ.raw a.1 a.2,jZ bX a.2 f,bY t [d.1,d.2.1] 28,Ar bX d.1 m.1,Ar cQ.raw d.2.1 d.2.2,jZ b_ d.2.2 m.2]) ?_ ?_
   ·refine aT<|aK ?_;refine JR.start [0,0,0,6,14,31,63,127,127,255,1023] 10 mixedOrders (by decide +kernel) ?_;refine JR.open (by exact rfl) ?_;refine nU 4 Z<|bH Z<|bH Z<|dB h λF h=>cZ (pA 1 Z) λX=>?_;refine bK Z (aZ.cons 0 Z .nil) .nil (gO 0 Z Z Z Z Z F.1 (by have L:=F.2;have M:=X;(try simp only[List.length_set]at L);(try simp only[List.length_set]at M);(try simp only[List.length_set]);omega)) aL.z ?_;refine cZ (pA 1 Z) λY=>bK Z (aZ.cons 0 Z .nil) .nil (iY 0 Z Z Y Z Z F) aL.z<|fU h λan aQ h=>JR.loud Z Z Z (aN.callQ ade (HS U d.1 d.2.1 (List.zip d.2.2 m.2) (at' b.2.1 k) (List.zip (at' b.2.2.1 k) (at' e.1 k)) an aQ) Z (aG.cons (bF (aF.res 5 Z) dC) (aG.cons (bV (i:=6) (j:=7) Z Z bU) (aG.cons (vZ (j:=1) Z dC F.1 F.2) .nil)))) Z (λaU=>(vY [] Z)) λaU=>iX Z (fH Z)<|iX Z (lZ Z Z)<|iX Z (lZ Z Z)<|iX Z (mE Z)<|bQ 10 Z Z<|aE Z<|aM<|aK<|aK<|eS (λy=>kH U f e k (bL (dW U m f g e) K) y=some r) (λy S=>[(7,vP t),(8,a.1),(9,vI (g)),(11,b.1),(13,vB (e.2.2)),(14,vI (k)),(68,vB (y))]) (λy S=>[Ar cQ.raw b.1 b.2.1,IP bX b.2.1 b.2.2.1 e.1,Ar cQ.raw a.1 a.2,jZ bX a.2 f,bY t [d.1,d.2.1] 28,Ar bX d.1 m.1,Ar cQ.raw d.2.1 d.2.2,jZ b_ d.2.2 m.2]) ?_ ?_
    ·refine aS<|aA Z<|aA Z ?_;refine Bc (by exact rfl) (by exact rfl) (λE=>?_) (λE=>?_)
     ·have h:=Pd E h;refine eR Z<|eR Z<|aX Z (Dg Z Z) Z<|fM Z<|aM ?_;exact jG (decide (an.1≠g)) () h SF Z
     have h:=Lc E h;refine aP Z<|aP Z<|aP Z<|iI Z<|aM ?_;exact jG (false) () h SF Z
    intro y S h;refine BM h Z (λ_ h=>?_) λ_ h=>?_
    ·refine aW<|aE Z<|aM<|aV<|aI<|bP<|aI<|aI<|bP<|aI ?_;cases h;exact vN Z
    refine cU<|aW<|aE Z<|aM<|aT<|eV (iN f e k (bL (dW U m f g e) K)) (λp T=>[(7,vP t),(8,a.1),(9,vI (g)),(11,b.1),(13,vB (e.2.2)),(14,vI (k)),(17,vI (p))]) (λp T=>[Ar cQ.raw b.1 b.2.1,IP bX b.2.1 b.2.2.1 e.1,Ar cQ.raw a.1 a.2,jZ bX a.2 f,bY t [d.1,d.2.1] 28,Ar bX d.1 m.1,Ar cQ.raw d.2.1 d.2.2,jZ b_ d.2.2 m.2]) (0:Int) () h SF (aZ.refl _) ?_;intro au p T h;refine aK<|aW<|aA Z<|aA Z<|aB (gQ Z (bV (i:=2) (j:=3) Z Z dC) Z) Z<|cY Z<|aM ?_;refine fJ h Z (λh=>?_) λh=>?_
    ·refine cU<|aK<|aT<|aK<|eS (λA=>kI p (bL (iN f e k (bL (dW U m f g e) K)) au) A=some r) (λA V=>[(7,vP t),(8,a.1),(9,vI (g)),(11,b.1),(13,vB (e.2.2)),(14,vI (k)),(17,vI (p)),(111,vB (A))]) (λA V=>[Ar cQ.raw b.1 b.2.1,IP bX b.2.1 b.2.2.1 e.1,Ar cQ.raw a.1 a.2,jZ bX a.2 f,bY t [d.1,d.2.1] 28,Ar bX d.1 m.1,Ar cQ.raw d.2.1 d.2.2,jZ b_ d.2.2 m.2]) ?_ ?_
     ·refine JR.start [0,0,3,7,15,0,32,127,255,511,511,2047,4095,511,16383,32767,65535,131071,262143,524287,1048575,1048575,4194303,8388607,1048575,33554431,67108863,134217727,268435455,1048575,1048575,1611661311,3759144959,8054112255,16644046847,34359738367,68719476735] 35 mixedOrders (by decide +kernel) ?_;refine JR.open (by exact rfl) ?_;refine bH Z<|bH Z<|dB h λG h=>cZ (pA 1 Z) λaa=>?_;refine bK Z (aZ.cons 0 Z .nil) .nil (gO 0 Z Z Z Z Z G.1 (by have L:=G.2;have M:=aa;(try simp only[List.length_set]at L);(try simp only[List.length_set]at M);(try simp only[List.length_set]);omega)) aL.z ?_;refine cZ (pA 1 Z) λab=>bK Z (aZ.cons 0 Z .nil) .nil (iY 0 Z Z ab Z Z G) aL.z<|bK Z (aZ.cons 1 Z .nil) .nil (gQ Z (vZ (j:=0) Z dC G.1 G.2) Z) aL.z<|bH Z<|bK Z (aZ.cons 2 Z (aZ.cons 2 Z .nil)) .nil (gQ Z (bV (i:=0) (j:=1) Z Z dC) Z) aL.z<|iX Z (Dg Z Z)<|bH Z ?_;refine Hl (by exact rfl) (by exact rfl) (by exact rfl) (λC=>?_) (λC=>?_)
      ·have h:=Pd C h;refine bN Z Z Z Z<|bN Z Z Z Z<|bN Z Z Z Z<|bN Z Z Z Z<|bN Z Z Z Z<|bN Z Z Z Z<|bN Z Z Z Z<|bN Z Z Z Z<|bN Z Z Z Z<|iX Z (Te Z Z)<|bH Z<|bN Z Z Z Z<|bN Z Z Z Z<|bN Z Z Z Z<|bN Z Z Z Z<|bN Z Z Z Z<|bN Z Z Z Z<|bN Z Z Z Z<|bN Z Z Z Z<|bN Z Z Z Z<|bN Z Z Z Z<|bN Z Z Z Z<|bN Z Z Z Z<|bN Z Z Z Z<|bN Z Z Z Z<|bN Z Z Z Z<|bQ 35 Z Z<|aP Z<|fM Z<|aM ?_;exact jG (true) () h SF Z
      have h:=ifN C h;refine fG Z .nil .nil (fH Z) aL.z<|fG Z .nil .nil (fH Z) aL.z<|dB h λo h=>cZ (pA 1 Z) λac=>?_;refine fG Z (aZ.cons 0 Z .nil) .nil (gO 0 Z Z Z Z Z o.1 (by have L:=o.2;have M:=ac;(try simp only[List.length_set]at L);(try simp only[List.length_set]at M);(try simp only[List.length_set]);omega)) aL.z ?_;refine cZ (pA 1 Z) λad=>fG Z (aZ.cons 0 Z .nil) .nil (iY 0 Z Z ad Z Z o) aL.z<|fG Z .nil .nil (fH Z) aL.z<|dB h λJ h=>fG Z (aZ.cons 1 Z .nil) .nil (cC Z Z (vZ (j:=0) Z dC o.1 o.2) Z Z J) aL.z<|fG Z (aZ.cons 1 Z .nil) .nil (cE Z (vZ (j:=0) Z dC o.1 o.2) Z Z J) aL.z<|fG Z (aZ.cons 1 Z .nil) .nil (h_ Z (aF.el (vZ (j:=0) Z dC o.1 o.2) J.1 J.2) Z) aL.z<|fG Z .nil .nil (Dg Z Z) aL.z<|iX Z (Td Z Z)<|bH Z ?_;refine Hl (by exact rfl) (by exact rfl) (by exact rfl) (λD=>?_) (λD=>?_)
      ·have h:=Pd D h;refine bN Z Z Z Z<|bN Z Z Z Z<|bN Z Z Z Z<|bN Z Z Z Z<|bN Z Z Z Z<|bN Z Z Z Z<|bN Z Z Z Z<|bN Z Z Z Z<|bN Z Z Z Z<|bN Z Z Z Z<|bN Z Z Z Z<|bN Z Z Z Z<|bN Z Z Z Z<|bN Z Z Z Z<|bN Z Z Z Z<|bQ 35 Z Z<|aP Z<|fM Z<|aM ?_;exact jG (true) () h SF Z
      have h:=ifN D h;refine fG Z .nil .nil (fH Z) aL.z<|fG Z .nil .nil (fH Z) aL.z<|dB h λn h=>cZ (pA 1 Z) λae=>?_;refine fG Z (aZ.cons 0 Z .nil) .nil (gO 0 Z Z Z Z Z n.1 (by have L:=n.2;have M:=ae;(try simp only[List.length_set]at L);(try simp only[List.length_set]at M);(try simp only[List.length_set]);omega)) aL.z ?_;refine cZ (pA 1 Z) λaf=>fG Z (aZ.cons 0 Z .nil) .nil (iY 0 Z Z af Z Z n) aL.z<|fG Z .nil .nil (fH Z) aL.z<|dB h λu h=>fG Z (aZ.cons 1 Z .nil) .nil (cC Z Z (vZ (j:=0) Z dC n.1 n.2) Z Z u) aL.z<|fG Z (aZ.cons 1 Z .nil) .nil (cE Z (vZ (j:=0) Z dC n.1 n.2) Z Z u) aL.z<|dB h λak h=>fG Z (aZ.cons 1 Z .nil) .nil (bB Z Z (aF.el (vZ (j:=0) Z dC n.1 n.2) u.1 u.2) Z Z ak) aL.z<|fG Z (aZ.cons 1 Z .nil) .nil (bS Z (aF.el (vZ (j:=0) Z dC n.1 n.2) u.1 u.2) Z Z Z cX ak) aL.z<|fG Z .nil .nil (fH Z) aL.z<|fG Z .nil .nil (fH Z) aL.z<|dB h λs h=>cZ (dA 3 Z) λag=>?_;refine fG Z (aZ.cons 2 Z .nil) .nil (gO 0 Z Z Z Z Z s.1 (by have L:=s.2;have M:=ag;(try simp only[List.length_set]at L);(try simp only[List.length_set]at M);(try simp only[List.length_set]);omega)) aL.z ?_;refine cZ (dA 3 Z) λah=>fG Z (aZ.cons 2 Z .nil) .nil (iY 0 Z Z ah Z Z s) aL.z<|dB h λal h=>cZ (Know.len (aF.row (j:=3) Z dC s.1 s.2)) λai=>fG Z .nil .nil (Jz Z Z ai Z Z al) aL.z<|fG Z (aZ.cons 3 Z .nil) .nil (bS Z (aF.row (j:=0) Z dC s.1 s.2) Z Z Z cX al) aL.z<|bQ 35 Z Z<|aX Z (Dg Z Z) Z<|iI Z<|aM ?_;exact jG (decide ((at' (at' (at' e.1 k) p) (4:Int))≠(at' (at' f p) (4:Int)))) () h SF Z
     intro A V h;refine BM h Z (λ_ h=>?_) λ_ h=>?_
     ·refine aW<|aE Z<|aM<|aV<|bP<|aI<|aI<|bP<|bP<|aI<|aI<|bP<|aI ?_;cases h;exact vN Z
     refine dO<|oD<|aS<|aA Z<|cL Z<|aE Z<|aM ?_;exact Al (wI .i64 (p+(1:Int))) () h SF Z
    refine s_<|fW<|fW<|zO<|oD ?_;exact jG () (()) h SF Z
   intro I R h;unfold nE at h;refine aS<|aA Z<|cL Z<|aE Z<|aM ?_;exact Al (wI .i64 (k+(1:Int))) () h SF Z
  refine fV ?_;exact cK () (()) h SF .nil (aG.refl _ _)
 intro H O h;refine aK<|eS (λw=>kG  w=some r) (λw P=>[(6,vB (w))]) (λw P=>[]) ?_ ?_
 ·refine aS<|fU h λax aJ h=>aH (aN.callQ WU (Lm U  ax aJ) Z (oO [5] Z)) Z λa1=>aA Z ?_;refine Bc (by exact rfl) (by exact rfl) (λB=>?_) (λB=>?_)
  ·have h:=Pd B h;refine eR Z<|fM Z<|aE Z<|aM ?_;exact jG (e.2.2) () h SF Z
  have h:=Lc B h;refine aP Z<|iI Z<|aE Z<|aM ?_;exact jG (false) () h SF Z
 intro w P h;unfold kG at h;refine aV ?_;cases h;exact lP Z
end Go.Proofs.YtlkhndebimcbbaaGreatDoor
namespace Go.Proofs.YtlkhndebimcbbaaGreatDoor
open Go Go.Sx
theorem VP (x:Oj) (s a:aO):rU 1000 x s a=some true:=by
 obtain⟨g,d,E,R,S,M,W,N⟩:=ajR x 6 (by omega) (by omega);have G:=N.v.n24;obtain⟨b,J,i⟩:=Vf N.v fR s (by decide) ahq;obtain⟨y,C,Q,B⟩:=VV a (n:=250) (by omega);obtain⟨q,f,t,I,_,H,_⟩:=ajV N (kind:=3) (by decide) (by decide) (ws:=y) (by omega) B i;have V:=I.l1;have L:=i.len;have F:∀v,v<g.2.length->0<=FY b v∧FY b v<=15:=λv o=>(PS i o).2.2.1;unfold rU;rw[show e_ 1000 (x.1,x.2.1,x.2.2.1,x.2.2.2.1,x.2.2.2.2.1,x.2.2.2.2.2) 6=some g from M,bG Z,bG aeV,bG (show mR 1000 (g.1,g.2) fR s=some b from J)];refine(dU (step:=kJ 1000 a (g.1,g.2) b) (K:=nD 1000 a (g.1,g.2) b (FN b g.2.length)) g.2.length (λv=>(FN b v,(v:Int))) (λv p o=> ?_) (λp=> ?_) 1000 (by omega)).trans ?_
 ·have w:(at' b (v:Int)).length=6:=i.row v o;have T:=Ur (c:=b) (k:=v) λu X=>F u (by omega);have P:=F v o;unfold kJ;dsimp only;rw[if_pos (by omega),bZ (by omega),bZ (by rw[w];decide),fC (by omega)];have:wI .i64 (FN b v+at' (at' b (v:Int)) 4)=FN b (v+1):=by
   have e:at' (at' b (v:Int)) 4=FY b v:=rfl;rw[e,wr (by omega) (by omega)];rfl
  rw[this]
 ·unfold kJ;dsimp only;rw[if_neg (by omega)]
 unfold nD;rw[bG (show uL 1000=some CM from rfl),bG (show pR 1000 a 250=_ from C)];refine(bG (show vM 1000 CM g 3 b y=_ from t)).trans ?_;refine dU (step:=dW 1000 (g.1,g.2) b (FN b g.2.length) (q,f,true)) (K:=some true) (y.length+1) (λj=>(j:Int)) (λj p U=> ?_) (λp=> ?_) 1000 (by omega)
 ·have m:=H j (by omega);have O:=m.r.len;have l:kH 1000 b (q,f,true) (j:Int) p false=p ((j+1:Nat):Int):=by
   unfold kH;rw[if_neg (by decide)];refine dU (step:=iN b (q,f,true) (j:Int) p) (K:=p ((j+1:Nat):Int)) g.2.length (λv=>(v:Int)) (λv z o=> ?_) (λz=> ?_) 1000 (by omega)
   ·have w:(at' (at' q (j:Int)) (v:Int)).length=6:=m.r.row v o;have A:(at' b (v:Int)).length=6:=i.row v o;have D:at' (at' (at' q (j:Int)) (v:Int)) 4=at' (at' b (v:Int)) 4:=m.x v o;unfold iN kI;dsimp only;rw[if_pos (by omega),bZ (by omega),if_neg (by omega),bZ (by omega),bZ (by omega),if_neg (by rw[w];decide),bZ (by omega),bZ (by omega),bZ (by rw[w];decide),bZ (by omega),bZ (by rw[A];decide),D,decide_eq_false (by simp),if_neg (by decide),fC (by omega)]
   ·unfold iN nE;dsimp only;rw[if_neg (by omega),fC (by omega)]
  unfold dW;dsimp only;rw[if_pos (by omega),bZ (by omega)];rcases aeL N m with h|h
  ·rw[bG (show kR 1000 (g.1,g.2) (at' q (j:Int))=_ from h)];dsimp only;rw[if_neg (by decide)];exact l
  ·rw[bG (show kR 1000 (g.1,g.2) (at' q (j:Int))=_ from h)];dsimp only;rw[if_pos Z,decide_eq_false (by simp)];exact l
 ·unfold dW qZ kG;dsimp only;rw[if_neg (by omega),bG (show BD 1000=some true from rfl),if_pos Z]
end Go.Proofs.YtlkhndebimcbbaaGreatDoor
namespace Go.Sx
open Go.RowKit Go.ChangeShapes Go.WideShapes Go.ChangeAt Go.Proofs Go.Joins Go.Deep
section
variable {H:Type} {enc:TypeId×Value->H} {P:Program} {w:World} {base:Nat} {spare:Nat->Bool} {held:Bool}
theorem Ld {a:Type} (l:List a) (d:a):l=(List.range l.length).map λi=>l.getD i d:=by
 apply List.ext_getElem?;intro i;by_cases h:i<l.length
 ·simp[h]
 ·simp[h]
theorem YG {r:Reach} {x:Nat} {t:TypeId} {b:Array Field} {v:Value} {d:DataW H} {p:List MemPlace} (s:P.underlying t=some (.struct b)) (c:oneCellFields P b=true) (z:P.cellsOf t=b.size)
  (E:Value.okWide P w r x t v) (h:DataW.Trod enc P w base spare held t v d p):
  ∃(V:Nat->Value) (Y:Nat->DataW H×List MemPlace) (n:Nat),v = .agg ((List.range b.size).map V).toArray∧∀(i:Nat) (f:Field),b[i]? = some f->DataW.trod enc P w base spare held n f.type [V i]=some (Y i):=by
 obtain⟨a,rfl,l⟩:=okWide_struct s E;obtain⟨m,A⟩:=h;obtain⟨u,n,_,_,_,q,B⟩:=DataW.trod_struct s A;refine⟨λi=>a.toList.getD i undef,λi=>u.getD i (.nil,[]),n,?_,λi f j=> ?_⟩
 ·congr 1;apply Array.toList_inj.1;show a.toList=(List.range b.size).map λi=>a.toList.getD i undef;have y:b.size=a.toList.length:=by rw[<-z,<-l];rfl
  rw[y];exact Ld a.toList undef
 ·have D:i<b.size:=(Array.getElem?_eq_some_iff.1 j).1;obtain⟨o,k⟩:=hone_of c i f j;have g:=B i f j;have e:(Value.cells (.agg a)).toList=a.toList:=rfl;have C:i<a.toList.length:=by rw[Array.length_toList];omega
  rw[o,k,e,take1_drop _ _ undef C]at g;rw[g];have F:i<u.length:=by omega
  simp[F]
theorem Yj {k:IntKind} {e:TypeId} (a:P.underlying e=some (.int k)) {n:Nat} {v:Value} {x:DataW H×List MemPlace} (h:DataW.trod enc P w base spare held n e [v]=some x):∃y:Int,v = .int k y:=by
 obtain⟨y,b,_,_⟩:=DataW.trod_int a h;exact⟨y,by simpa using b⟩
theorem LU {e:TypeId} (a:P.underlying e=some .bool) {n:Nat} {v:Value} {x:DataW H×List MemPlace} (h:DataW.trod enc P w base spare held n e [v]=some x):∃y:Bool,v = .bool y:=by
 obtain⟨y,b,_⟩:=DataW.trod_bool a h;exact⟨y,by simpa using b⟩
end
end Go.Sx
section
set_option maxRecDepth 100000
namespace Go.Sx
open Go.RowKit Go.ChangeShapes Go.WideShapes Go.ChangeAt Go.Proofs Go.Joins
theorem RF {P:Program} {W:World} {n:String} {b m t B:Nat} {k:IntKind} {a:aO} (h:laidMet P [(n,.agg (a.map λx=> .lit (.int k x)))] W) (I:P.globalNamed n=some b)
  (ht:(P.globals[b]?).map (·.type)=some t) (hu:P.underlying t=some (.array m B)) (w:P.underlying B=some (.int k)) (S:P.cellsOf B=1) (u:P.cellsOf t=m) (hm:0<m):(Gb b (cellsOf (cQ.int k) a)).p W (λ_=>True):=by
 obtain⟨ps,⟨g,t2,j,F,p,q,C,D,E,M,e5,N⟩,aa,d⟩:=h;rw[I]at C;cases C;rw[ht]at D;cases D;refine⟨trivial,?_⟩
 obtain⟨L,ml,_,l,Y,y,V⟩:=DataW.trod_array hu M;simp only[Prod.mk.injEq,DataW.agg.injEq]at l;have e:a.length=m:=by rw[<-y];simpa using congrArg List.length l.1
 have U:j.size=m:=by rw[<-u,<-Y];simp
 have v:j.toList=cellsOf (cQ.int k) a:=by
  refine List.ext_getElem? λi=> ?_;by_cases X:i<m
  ·have o:=V i X;rw[S,Nat.mul_one]at o;have J:a[i]? = some (a[i]'(by omega)):=List.getElem?_eq_getElem _;have G:=vF (cQ.int k) a i _ J 0 _ Z;rw[show i*(cQ.int k).sz+0=i from Nat.mul_one i]at G;rw[G];have K:L[i]? = some (L[i]'(by omega)):=List.getElem?_eq_getElem _;rw[K]at o;obtain⟨z,hz,A,_⟩:=DataW.trod_int w o;have s:j.toList[i]? = some (.int k z):=by
    have:=congrArg (·[0]?) hz;simpa [List.getElem?_take,List.getElem?_drop]using this
   rw[s];have r:=congrArg (·[i]?) l.1;simp only[List.getElem?_map,J,K,Option.map_some,Option.some.injEq]at r;rw[A]at r;have O:a[i]=z:=by simpa using r
   rw[O]
  ·rw[List.getElem?_eq_none (by simp;omega),List.getElem?_eq_none (by rw[dR,e];show m*1<=i;omega)]
 have f:MemPlace.cell b 0∈ps:=by
  rw[N];refine List.mem_append_left _ (List.mem_append_left _ ?_);exact List.mem_map.2 ⟨0,by simp;omega,rfl⟩
 obtain⟨⟨c,T,H⟩,_⟩:=d b 0 f;refine⟨T,?_⟩
 have Q:c=j:=by
  have R:(W.var? P n)=some c:=by unfold World.var?;rw[I];simp[H]
  rw[R]at E;exact Option.some.inj E
 rw[H,Q,<-v]
theorem Pk {H:Type} {enc:TypeId×Value->H} {os:Os} (D:List (String×DataW Unit)) (N:(D.all λx=>x.2.handleName?.isNone)=true) (l:os.Started) {f:FuncId} {c:Func} {s:ChangeSpec} {r:Bool} (L:Tryz.prog.funcs[f]? = some c) (n:Tryz.prog.inits.idxOf? f=none)
  (o:(c.params.toList.all λt=>Tryz.prog.readableRec t&&decide (t<Tryz.prog.types.size))=true) (A:c.resultTypes = #[4]) (k:s.vars=[])
  (u:∀a:List (DataW H),a.length=c.params.toList.length->s.fn H a={results:=[.lit (.bool true)],args:=a})
  (m:∃(w:World) (b:Tape) (i:Input),w.os=os∧(w.forCall b i).Shaped Tryz.prog∧i.vars=[]∧Input.okWide Tryz.prog (w.forCall b i) .any w.heap.size f i∧
   ((s.pre enc Tryz.prog c [] false (w.forCall b i).memory i.args∧laidMetH Tryz.prog D (w.forCall b i).memory)∧sizedMet enc Tryz.prog c (OpenSpec.ofChange s) false (w.forCall b i).memory i.args)∧({}:Assume).holds Tryz.prog (lone (Frame.enter Tryz.prog f i.args .normal) [] (w.forCall b i)))
  (E:∀(W:World) (g:Nat) (args:Array Value) (a:List (DataW H)) (p:List MemPlace),laidMetH Tryz.prog D W->(∀(j:Nat) t v,c.params[j]? = some t->args[j]? = some v->Value.okWide Tryz.prog W .any g t v)->
   DataW.TrodAll enc Tryz.prog W 0 (λ_=>true) true c.params.toList args.toList a p->Calls Tryz.prog f args W λe P=>e = .returned (.bool true)∧MF W P):
  ReturnsInHanded {} Go.Proofs.YtlkhndebimcbbaaGreatDoor.Tryz.pinned.checked os f .any (λw args=>(s.pre enc Tryz.prog c [] false w args∧laidMetH Tryz.prog D w)∧sizedMet enc Tryz.prog c (OpenSpec.ofChange s) false w args) (s.post enc Tryz.prog c false r false false):=by
 refine returnsInHanded_of_change_and (C:=Go.Proofs.YtlkhndebimcbbaaGreatDoor.Tryz.pinned.checked) (X:=λw _=>laidMetH Tryz.prog D w) (λ_ _ _ U h=>by rw[MakeChecks.laidMetH_plain _ _ _ N]at h ⊢;exact h.of_heap U) ajT l n L m ?_;intro W g args a Y G B J _ _ T _;have M:=J.lt;have K:=J;obtain⟨p,q,I,Q,rfl,_,_⟩:=J;rw[k]at Q;obtain⟨rfl,rfl⟩:=trodVars_none Q;refine(E W g args a p T B I).mono ?_;rintro e P ⟨rfl,R⟩;refine⟨_,rfl,?_⟩
 have z:a.length=c.params.toList.length:=by
  have:∀(F:List TypeId) (y:fT) (a:List (DataW H)) (p:List MemPlace),DataW.TrodAll enc Tryz.prog W 0 (λ_=>true) true F y a p->a.length=F.length:=by
   intro F
   induction F with
   |nil=>intro y a p h;cases y<;>cases a<;>first|rfl|exact h.elim
   | cons t F ih =>
    intro y a p h;cases y with
    |nil=>exact h.elim
    |cons v y=>
     cases a with
     |nil=>exact h.elim
     |cons d a=>obtain⟨_,_,_,S,_⟩:=h;simp[ih y a _ S]
  exact this _ _ _ _ I
 have O:s.fn H (a++[])={results:=[.lit (.bool true)],args:=a}:=by rw[List.append_nil];exact u a z
 refine⟨a,[],p++[],[],p,[],K,?_,?_,?_,R.frame _,λh=>by cases h⟩
 ·rw[O,A];exact trodAll_mk1 (shut_bool Tryz.underlying4 true)
 ·rw[O];exact Fo agV R _ _ _ _ o I (λx V=>M x (List.mem_append_left _ V))
 ·rw[O,k];exact rfl
theorem Vv {P:Program} {n:String} {k:IntKind} {a:aO} {W:World} (h:laidMetH P [(n,.agg (a.map λx=> .lit (.int k x)))] W):laidMet P [(n,.agg (a.map λx=> .lit (.int k x)))] W:=by
 rw[MakeChecks.laidMetH_plain _ _ _ (by rfl)]at h;exact h
end Go.Sx
end
