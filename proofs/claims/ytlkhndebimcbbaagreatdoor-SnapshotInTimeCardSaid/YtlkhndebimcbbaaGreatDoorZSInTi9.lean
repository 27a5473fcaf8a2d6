/- Models and proofs. Conditions: none. -/
import Derived.Test.YtlkhndebimcbbaaGreatDoorZSInTi4
import Derived.Test.YtlkhndebimcbbaaGreatDoorZSInTi8
import Derived.Test.YtlkhndebimcbbaaGreatDoorZSInTi2
import Derived.Test.YtlkhndebimcbbaaGreatDoorZSInTi7
import Derived.Test.YtlkhndebimcbbaaGreatDoorZSInTi3
set_option linter.unusedVariables false
set_option linter.unusedSimpArgs false
set_option maxHeartbeats 4000000
set_option maxRecDepth 20000
namespace Go.Proofs.YtlkhndebimcbbaaGreatDoor
open Go Go.Sx
theorem zL {k:Nat} (h:k<1000000):wI .i64 ((k:Int)+1)=((k+1:Nat):Int):=by rw[ajW h];push_cast;rfl
def Vj (g:GR) (b:aQ) (v x:Nat) (a:Int):Prop:=if at' b (x:Int) = -1 then -1<=a∧a<=((row g v).length:Int) - 1 else 0<=a∧a<=at' b (x:Int)
def agd (g:GR) (a:aQ) (v:Nat) (l:aQ):Prop:=l.length=a.length∧∀x,x<a.length->Vj g a v x (at' l (x:Int))
def Jf (g:GR) (hs:aQ) (c:bF):Prop:=c.length=g.2.length∧∀v,v<g.2.length->agd g hs v (at' c (v:Int))
theorem Fx {g:GR} (l:VG g) {hs:aQ} (y:hs.length<900) (c:bF):(Jf g hs c->dN 1000 g c hs=some true)∧(¬Jf g hs c->dN 1000 g c hs=some false):=by
 have t:=l.n24;have r:=l.len;unfold dN;by_cases p:c.length=g.2.length
 ·rw[if_neg (by omega)];have m:=vJ (step:=fN 1000 g c hs) (K:=some true) (bad:=some false) c.length (λv=>agd g hs v (at' c (v:Int))) (λk=>(k:Int)) (λk j u i=> ?_) (λk j u i=> ?_) (λj=> ?_) 1000 (by omega)
  ·refine⟨λh=>m.1 λv w=>h.2 v (by omega),λh=>m.2 λs=>h ⟨p,λv w=>s v (by omega)⟩⟩
  all_goals unfold fN
  ·have b:=vJ (step:=cZ g c hs (k:Int) j) (K:=j ((k+1:Nat):Int)) (bad:=some false) hs.length (λx=>Vj g hs k x (at' (at' c (k:Int)) (x:Int))) (λx=>(x:Int)) ?_ ?_ ?_ 1000 (by omega)
   ·rw[if_pos (by omega),cA (by omega),if_neg (by have:=i.1;omega)];exact b.1 i.2
   ·intro x d o a;unfold cZ gU gV;have n:=i.1;have f:(at' g.2 (k:Int)).length<g.2.length:=(l.node k (by omega)).deg;rw[if_pos (by omega),cA (by omega),cA (by omega)];unfold Vj at a;by_cases e:at' hs (x:Int) = -1
    ·rw[if_pos e]at a;rw[if_pos e,cA (by omega),wr (by omega) (by omega)];dsimp only;rw[if_neg (by omega),if_neg (by rw[decide_eq_true_eq];show¬((row g k).length:Int) - 1<_;omega),zL (by omega)]
    ·rw[if_neg e]at a;rw[if_neg e];dsimp only;rw[if_neg (by omega),if_neg (by rw[decide_eq_true_eq];omega),zL (by omega)]
   ·intro x d o a;unfold cZ gU gV;have n:=i.1;have f:(at' g.2 (k:Int)).length<g.2.length:=(l.node k (by omega)).deg;rw[if_pos (by omega),cA (by omega),cA (by omega)];unfold Vj at a;by_cases e:at' hs (x:Int) = -1
    ·rw[if_pos e]at a;rw[if_pos e,cA (by omega),wr (by omega) (by omega)];dsimp only;by_cases q:at' (at' c (k:Int)) (x:Int) < -1
     ·rw[if_pos q,if_pos Z]
     ·rw[if_neg q,if_pos (by rw[decide_eq_true_eq];show((row g k).length:Int) - 1<_;omega)]
    ·rw[if_neg e]at a;rw[if_neg e];dsimp only;by_cases q:at' (at' c (k:Int)) (x:Int)<0
     ·rw[if_pos q,if_pos Z]
     ·rw[if_neg q,if_pos (by rw[decide_eq_true_eq];omega)]
   ·intro d;unfold cZ lI;have n:=i.1;rw[if_neg (by omega),zL (by omega)]
  ·rw[if_pos (by omega),cA (by omega)];by_cases n:(at' c (k:Int)).length=hs.length
   ·rw[if_neg (by omega)];have b:=vJ (step:=cZ g c hs (k:Int) j) (K:=j ((k+1:Nat):Int)) (bad:=some false) hs.length (λx=>Vj g hs k x (at' (at' c (k:Int)) (x:Int))) (λx=>(x:Int)) ?_ ?_ ?_ 1000 (by omega)
    ·exact b.2 λh=>i ⟨n,h⟩
    ·intro x d o a;unfold cZ gU gV;have f:(at' g.2 (k:Int)).length<g.2.length:=(l.node k (by omega)).deg;rw[if_pos (by omega),cA (by omega),cA (by omega)];unfold Vj at a;by_cases e:at' hs (x:Int) = -1
     ·rw[if_pos e]at a;rw[if_pos e,cA (by omega),wr (by omega) (by omega)];dsimp only;rw[if_neg (by omega),if_neg (by rw[decide_eq_true_eq];show¬((row g k).length:Int) - 1<_;omega),zL (by omega)]
     ·rw[if_neg e]at a;rw[if_neg e];dsimp only;rw[if_neg (by omega),if_neg (by rw[decide_eq_true_eq];omega),zL (by omega)]
    ·intro x d o a;unfold cZ gU gV;have f:(at' g.2 (k:Int)).length<g.2.length:=(l.node k (by omega)).deg;rw[if_pos (by omega),cA (by omega),cA (by omega)];unfold Vj at a;by_cases e:at' hs (x:Int) = -1
     ·rw[if_pos e]at a;rw[if_pos e,cA (by omega),wr (by omega) (by omega)];dsimp only;by_cases q:at' (at' c (k:Int)) (x:Int) < -1
      ·rw[if_pos q,if_pos Z]
      ·rw[if_neg q,if_pos (by rw[decide_eq_true_eq];show((row g k).length:Int) - 1<_;omega)]
     ·rw[if_neg e]at a;rw[if_neg e];dsimp only;by_cases q:at' (at' c (k:Int)) (x:Int)<0
      ·rw[if_pos q,if_pos Z]
      ·rw[if_neg q,if_pos (by rw[decide_eq_true_eq];omega)]
    ·intro d;unfold cZ lI;rw[if_neg (by omega),zL (by omega)]
   ·rw[if_pos (by omega)]
  ·rw[if_neg (by omega)];rfl
 ·rw[if_pos (by omega)];exact⟨λh=>absurd h.1 p,λ_=>rfl⟩
def IsF (q:Nat->Prop) (n:Nat) (p:Int):Prop:=(∃i:Nat,i<n∧p=i∧q i∧∀k,k<i->¬q k)∨(p = -1∧∀k,k<n->¬q k)
theorem IsF.uniq {q:Nat->Prop} {n:Nat} {p g:Int} (h:IsF q n p) (k:IsF q n g):p=g:=by
 rcases h with⟨i,a,b,c,l⟩|⟨a,b⟩<;>rcases k with⟨j,d,e,f,m⟩|⟨d,e⟩
 ·have:i=j:=by
   rcases Nat.lt_trichotomy i j with q|q|q
   ·exact absurd c (m i q)
   ·exact q
   ·exact absurd f (l j q)
  omega
 ·exact absurd c (e i a)
 ·exact absurd f (b j d)
 ·omega
def Zx (g:GR) (d:aQ) (v i:Nat):Prop:=at' d (fL (row g v) i).1=D d v - 1
instance (g:GR) (d:aQ) (v i:Nat):Decidable (Zx g d v i):=inferInstanceAs (Decidable (_=_))
theorem YS (p q:aQ) (h:q.length<900):wX 1000 p q=some (decide (p=q)):=by
 unfold wX;by_cases f:p.length=q.length
 ·rw[if_neg (by omega)];have a:=vJ (step:=uZ p q) (K:=some true) (bad:=some false) p.length (λk=>at' p (k:Int)=at' q (k:Int)) (λk=>(k:Int)) (λk c d b=> ?_) (λk c d b=> ?_) (λc=> ?_) 1000 (by omega)
  ·by_cases e:p=q
   ·rw[decide_eq_true e];exact a.1 λk d=>by rw[e]
   ·rw[decide_eq_false e];exact a.2 λg=>e (Pn f λv i=>g v i)
  all_goals unfold uZ
  ·rw[if_pos (by omega),cA (by omega),cA (by omega),if_neg (by simpa using b),zL (by omega)]
  ·rw[if_pos (by omega),cA (by omega),cA (by omega),if_pos b]
  ·rw[if_neg (by omega)];rfl
 ·rw[if_pos (by omega),decide_eq_false λe=>f (by rw[e])]
section
variable {g:GR} (hV:VG g) {d:List Int} {s:Nat} (hD:oU g s d)
 include hV hD
theorem ahh {v i:Nat} (b:v<g.2.length) (a:i<(row g v).length):0<=(fL (row g v) i).1∧(fL (row g v) i).1<(d.length:Int):=by
 obtain⟨u,c,e⟩:=hV.to b a;have:=hD.len;omega
theorem adR {v:Nat} (a:v<g.2.length):wI .i64 (D d v - 1)=D d v - 1:=by
 have b:=hD.lo v a;have c:=hD.hi v a;have:=hV.n24;exact wr (by omega) (by omega)
theorem aeF {v i:Nat} (a:v<g.2.length) (c:i<(row g v).length):yO 1000 ((fL (row g v) i).1,(fL (row g v) i).2) d (v:Int)=some (decide (Zx g d v i)):=by
 have b:=ahh hV hD a c;have f:=hD.len;unfold yO;rw[cA b,cA (by omega)];have e:wI .i64 (at' d (v:Int) - 1)=D d v - 1:=adR hV hD a;rw[e];rfl
theorem PQ {v:Nat} (m:v<g.2.length) (c:List Int):∃p,IsF (Zx g d v) (row g v).length p∧vW 1000 g (v:Int) d c=some (decide (c=[D d v,p])):=by
 have o:=hV.n24;have l:=(hV.node v m).deg;have r:=hD.len;have n:∀a:Int,wH 1000 (v:Int) d c a=some (decide (c=[D d v,a])):=λa=>by
  unfold wH;rw[cA (by omega),YS _ _ (by simp),bH Z]
 unfold vW;rw[cA (by omega)];have i:∀b k,k<=(row g v).length->(∀j,j<k->¬Zx g d v j)->(row g v).length - k<b->∃p,IsF (Zx g d v) (row g v).length p∧bJ (sR 1000 g (v:Int) d c) b (k:Int)=some (decide (c=[D d v,p])):=by
  intro b
  induction b with
  |zero=>intro k _ _ h;omega
  | succ b ih =>
   intro k x f w;show∃p,_∧sR 1000 g (v:Int) d c (k:Int) (bJ (sR 1000 g (v:Int) d c) b)=_;unfold sR;by_cases e:k<(row g v).length
   ·rw[if_pos (show(k:Int)<((row g v).length:Int) by omega),cA (show 0<=(k:Int)∧(k:Int)<((row g v).length:Int) by omega)];have u:=aeF hV hD m e;rw[show((at' (at' g.2 (v:Int)) (k:Int)).1,(at' (at' g.2 (v:Int)) (k:Int)).2)=((fL (row g v) k).1,(fL (row g v) k).2)from rfl,u,bH Z];by_cases q:Zx g d v k
    ·rw[decide_eq_true q,if_pos Z];exact⟨k,.inl ⟨k,e,rfl,q,f⟩,n _⟩
    ·rw[decide_eq_false q,if_neg (by simp),zL (by omega)];exact ih (k+1) (by omega) (λj t=>by
      by_cases h:j=k
      ·subst h;exact q
      ·exact f j (by omega)) (by omega)
   ·rw[if_neg (show¬(k:Int)<((row g v).length:Int) by omega)];exact⟨-1,.inr ⟨rfl,λj t=>f j (by omega)⟩,n _⟩
 exact i 1000 0 (by omega) (λj h=>by omega) (by omega)
def Fv (g:GR) (d:List Int) (v:Nat) (l:List Int):Prop:=at' l 0=D d v∧IsF (Zx g d v) (row g v).length (at' l 1)
theorem OJ (G:s=0) (u:Hg g) {c:List (List Int)} (j:Jf g [(g.2.length:Int),-1] c):
  ((∀v,v<g.2.length->Fv g d v (at' c (v:Int)))->vV 1000 g c=some true)∧(¬(∀v,v<g.2.length->Fv g d v (at' c (v:Int)))->vV 1000 g c=some false):=by
 subst G;have H:=hV.n24;have M:=hV.n1;have I:=hD.len;have q:=hV.len;have F:pB 1000 (g.1,g.2) c=some true:=by
  unfold pB HA lJ;have B:eT 1000 (g.1,g.2)=some true:=(Al hV).1 u;have C:dN 1000 (g.1,g.2) c [(g.1.length:Int),-1]=some true:=by
   rw[q];exact(Fx hV (by simp) c).1 j
  rw[B,bH Z,bH Z,if_pos Z,C,bH Z]
 obtain⟨h,w,t⟩:=M_ hV (s:=0) (by omega);have x:h=d:=by
  have L:=zX hV (s:=0) (by omega) hD;have A:=zX hV (s:=0) (by omega) t;rw[L]at A;exact(Option.some.inj A).symm
 subst x;unfold vV;have E:oC 1000 (g.1,g.2) 0=some h:=w;rw[F,bH Z,if_neg (by simp),E,bH Z];have i:∀v,v<g.2.length->∀p,(at' c (v:Int)=[D h v,p])↔(at' (at' c (v:Int)) 0=D h v∧at' (at' c (v:Int)) 1=p):=λv J p=>by
  have y:=(j.2 v J).1;simp only[List.length_cons,List.length_nil]at y;generalize at' c (v:Int)=l at y ⊢
  match l,y with
  | [a,b],_=>
   show[a,b]=[D h v,p]↔a=D h v∧b=p;simp
 have N:=j.1;refine vJ (step:=Ak 1000 g c h) (K:=some true) (bad:=some false) g.2.length (λv=>Fv g h v (at' c (v:Int))) (λk=>(k:Int)) (λk z o r=> ?_) (λk z o r=> ?_) (λz=> ?_) 1000 (by omega)
 all_goals unfold Ak
 ·obtain⟨p,m,n⟩:=PQ hV hD o (at' c (k:Int));have f:vW 1000 (g.1,g.2) (k:Int) h (at' c (k:Int))=_:=n;rw[if_pos (by omega),cA (by omega),f,bH Z,decide_eq_true ((i k o p).2 ⟨r.1,r.2.uniq m⟩),if_neg (by simp),zL (by omega)]
 ·obtain⟨p,m,n⟩:=PQ hV hD o (at' c (k:Int));have f:vW 1000 (g.1,g.2) (k:Int) h (at' c (k:Int))=_:=n;rw[if_pos (by omega),cA (by omega),f,bH Z,decide_eq_false λe=>r (by
   have:=(i k o p).1 e;exact⟨this.1,by rw[this.2];exact m⟩),if_pos (by simp)]
 ·rw[if_neg (by omega)];rfl
end
theorem agy {g:GR} (a:VG g) (c:Hg g):∃r,oD 1000 g 0=some r∧gZ 1000 g 0=some r:=by
 have h:=a.n1;obtain⟨r,f,d⟩:=zN a c (s:=0) (by omega);obtain⟨i,b,e,_⟩:=L_ a (s:=0) (by omega);have:=Jg d (e c);subst this;exact⟨r,f,b⟩
def Fy (m:Nat) (c:bF) (k:Nat):bF:=(c.take k).map (λl=>List.drop (Int.toNat 0) (List.take m l))++List.replicate (c.length - k) []
theorem Lz {m:Nat} {c:bF} {k:Nat} (a:k<c.length):(Fy m c k).set k (List.drop (Int.toNat 0) (List.take m (at' c (k:Int))))=Fy m c (k+1):=by
 unfold Fy;obtain⟨j,b⟩:∃j,c.length - k=j+1:=⟨c.length - k - 1,by omega⟩
 rw[b,List.replicate_succ,Sp _ _ _ _ k (by simp;omega)];have e:c.take (k+1)=c.take k++[at' c (k:Int)]:=by
  rw[List.take_add_one,List.getElem?_eq_getElem a];congr 1;have:=fQ (xs:=c) (i:=k);rw[this,List.getD_eq_getElem?_getD,List.getElem?_eq_getElem a];rfl
 rw[e,List.map_append,List.append_assoc];congr 1;show _::_=[_]++_;rw[show c.length - (k+1)=j by omega];rfl
theorem OU {m:Nat} {c:bF} {k:Nat} (a:k<=c.length):(Fy m c k).length=c.length:=by
 unfold Fy;simp;omega
theorem OT {m:Nat} {c:bF}:Fy m c c.length=c.map (λl=>l.take m):=by
 unfold Fy;rw[List.take_length,Nat.sub_self];simp
theorem DJ {m:Nat} {c:bF} {v:Nat} (a:v<c.length):at' (c.map (λl=>l.take m)) (v:Int)=(at' c (v:Int)).take m:=Tb (λl:aQ=>l.take m) (by omega) (by omega)
theorem Gg {m:Nat} {l:aQ} {i:Nat} (a:i<m):at' (l.take m) (i:Int)=at' l (i:Int):=by
 rw[fQ,fQ,List.getD_eq_getElem?_getD,List.getD_eq_getElem?_getD,List.getElem?_take_of_lt a]
theorem abh {g:GR} {c b:aQ} {v x:Nat} {a:Int} (h:Vj g c v x a) (e:at' b (x:Int)=at' c (x:Int)):Vj g b v x a:=by
 unfold Vj at h ⊢;rw[e];exact h
theorem Jf.cut {g:GR} {b:aQ} {c:bF} {m:Nat} (h:Jf g b c) (k:m<=b.length):Jf g (b.take m) (c.map (λl=>l.take m)):=by
 refine⟨by simpa using h.1,λv e=> ?_⟩
 have d:v<c.length:=by rw[h.1];exact e
 rw[DJ d];obtain⟨j,f⟩:=h.2 v e;refine⟨by simp;omega,λx i=> ?_⟩
 have a:x<m:=by simp at i;omega
 rw[Gg a];exact abh (f x (by omega)) (Gg a)
def BK (g:GR) (c:bF) (v:Nat):Int:=if 0<=at' (at' c (v:Int)) 1 then(at' (at' g.2 (v:Int)) (at' (at' c (v:Int)) 1)).1 else -1
def wE (g:GR) (c:bF) (k:Nat):aQ:=(List.range k).map (BK g c)
theorem BZ {g:GR} {c:bF} {k:Nat}:(wE g c k).length=k:=by simp[wE]
theorem Ny {g:GR} {c:bF} {k v:Nat} (a:v<k):at' (wE g c k) (v:Int)=BK g c v:=by
 rw[fQ,List.getD_eq_getElem?_getD];simp[wE,a]
theorem Vx {g:GR} {c:bF} {k:Nat}:wE g c (k+1)=wE g c k++[BK g c k]:=by simp[wE,List.range_succ]
def SV (g:GR) (c:bF):Prop:=c.length=g.2.length∧∀v,v<g.2.length->2<=(at' c (v:Int)).length ∧ -1<=at' (at' c (v:Int)) 1∧at' (at' c (v:Int)) 1<((at' g.2 (v:Int)).length:Int)
theorem KM {g:GR} {c:bF} (p:g.2.length<=24) (h:SV g c):oM 1000 g c 1=some (wE g c c.length):=by
 have v:=h.1;unfold oM;rw[cA (by omega)];have n:=eY (step:=pO g c 1) (K:=some (wE g c c.length)) c.length (λk=>((k:Int),wE g c k++List.replicate (c.length - k) 0)) (λk o u=> ?_) (λo=> ?_) 1000 (by omega)
 ·simpa [wE]using n
 ·obtain⟨s,t,q⟩:=h.2 k (by omega);obtain⟨j,r⟩:∃j,c.length - k=j+1:=⟨c.length - k - 1,by omega⟩
  have i:(wE g c k++List.replicate (c.length - k) 0).length=c.length:=by simp[BZ];omega
  have l:∀a:Int,(wE g c k++List.replicate (c.length - k) 0).set k a=wE g c k++a::List.replicate j 0:=λa=>by rw[r,List.replicate_succ,Sp _ _ _ _ k BZ]
  have f:∀a b:Int,(wE g c k++a::List.replicate j 0).set k b=wE g c k++b::List.replicate j 0:=λa b=>Sp _ _ _ _ k BZ;have d:wE g c k++BK g c k::List.replicate j 0=wE g c (k+1)++List.replicate (c.length - (k+1)) 0:=by rw[Vx,List.append_assoc,show c.length - (k+1)=j by omega];rfl
  unfold pO sB;dsimp only;rw[if_pos (by omega),cA (by omega),cA (by rw[i];omega),cA (by omega),show Int.toNat (k:Int)=k from rfl,l];by_cases e:0<=at' (at' c (k:Int)) 1
  ·have m:BK g c k=(at' (at' g.2 (k:Int)) (at' (at' c (k:Int)) 1)).1:=if_pos e;rw[if_pos e,cA (by omega),cA (by omega),cA ⟨e,q⟩,cA (by simp[BZ];omega),f,<-m,d,zL (by omega)]
  ·have m:BK g c k = -1:=if_neg e;rw[if_neg e,<-m,d,zL (by omega)]
 ·unfold pO wJ;dsimp only;rw[if_neg (by omega),Nat.sub_self];simp
structure ZK (g:GR) (d:aQ) (P:Nat->Int):Prop where
 root:P 0 = -1
 up:∀v,v<g.2.length->v≠0->∃u:Nat,u<g.2.length∧P v=u∧D d u=D d v - 1
theorem Ig {g:GR} (l:VG g) (r:Hg g) {d:aQ} (k:oU g 0 d) {c:bF} (o:∀v,v<g.2.length->Fv g d v (at' c (v:Int))):ZK g d (BK g c):=by
 have y:=l.n1;have a:∀v,v<g.2.length->0<=D d v:=λv j=>(Gk l (s:=0) (by omega) k).2 r v (by rw[k.len];exact j);refine⟨?_,λv j p=> ?_⟩
 ·obtain⟨_,h⟩:=o 0 (by omega);rcases h with⟨i,b,_,f,_⟩|⟨b,_⟩
  ·obtain⟨u,m,e⟩:=l.to (v:=0) (by omega) b;unfold Zx at f;rw[e]at f;have n:=(k.zero 0 (by omega)).2 Z;have z:=a u m;have A:D d u=D d 0 - 1:=f;omega
  ·exact if_neg (by rw[show at' (at' c ((0:Nat):Int)) 1 = -1 from b];omega)
 ·obtain⟨_,h⟩:=o v j;have x:0<D d v:=by
   have:=a v j;rcases Int.lt_or_eq_of_le this with q|q
   ·exact q
   ·exact absurd ((k.zero v j).1 q.symm) p
  rcases h with⟨i,b,n,f,_⟩|⟨_,b⟩
  ·obtain⟨u,m,e⟩:=l.to j b;unfold Zx at f;rw[e]at f;refine⟨u,m,?_,f⟩
   unfold BK;rw[if_pos (by omega),n];exact e
  ·obtain⟨u,m,⟨i,w,e⟩,t⟩:=k.near v j x;exact absurd (by unfold Zx;rw[e];exact t) (b i w)
def ZO (P:Nat->Int) (c:bF) (v:Nat):Prop:=v=0∨(at' (at' c (P v)) 2=0->at' (at' c (v:Int)) 2=0∧at' (at' c (v:Int)) 3=at' (at' c (P v)) 3)
section
variable {g:GR} (hV:VG g) {d:List Int} {c:List (List Int)} (hl:c.length=g.2.length) (hr:∀v,v<g.2.length->4<=(at' c (v:Int)).length) (h2:∀v,v<g.2.length->at' (at' c (v:Int)) 2=0∨at' (at' c (v:Int)) 2=1) (hP:ZK g d (BK g c))
 include hV hl hr h2 hP
theorem VK:((∀v,v<g.2.length->ZO (BK g c) c v)->bJ (iA c (wE g c c.length)) 1000 0=some true)∧(¬(∀v,v<g.2.length->ZO (BK g c) c v)->bJ (iA c (wE g c c.length)) 1000 0=some false):=by
 have r:=hV.n24;have s:(wE g c c.length).length=c.length:=BZ;refine vJ (step:=iA c (wE g c c.length)) (K:=some true) (bad:=some false) g.2.length (ZO (BK g c) c) (λk=>(k:Int)) (λk n f a=> ?_) (λk n f a=> ?_) (λn=> ?_) 1000 (by omega)
 ·unfold iA uG uH rJ;rw[if_pos (by omega),cA (by omega),Ny (by omega)];by_cases b:k=0
  ·subst b;rw[if_pos (by rw[hP.root];omega),if_pos Z];rfl
  ·obtain⟨u,j,e,_⟩:=hP.up k f b;have m:=hr u j;have l:=hr k f;rcases a with a|a
   ·exact absurd a b
   rw[e]at a ⊢;rw[if_neg (by omega),cA (by omega),cA (by omega)];rcases h2 u j with q|q
   ·obtain⟨o,p⟩:=a q;rw[decide_eq_false (by omega),if_neg (by simp),cA (by omega),cA (by omega),cA (by omega),cA (by omega),if_neg (by omega),cA (by omega),cA (by omega),cA (by omega),cA (by omega),decide_eq_false (by omega),if_neg (by simp),zL (by omega)]
   ·rw[decide_eq_true q,if_pos Z,zL (by omega)]
 ·unfold iA uG uH rJ;rw[if_pos (by omega),cA (by omega),Ny (by omega)];have b:k≠0:=λe=>a (.inl e);obtain⟨u,j,e,_⟩:=hP.up k f b;have m:=hr u j;have l:=hr k f;have i:¬(at' (at' c (u:Int)) 2=0->at' (at' c (k:Int)) 2=0∧at' (at' c (k:Int)) 3=at' (at' c (u:Int)) 3):=λh=>a (.inr (by rw[e];exact h));rw[e];rw[if_neg (by omega),cA (by omega),cA (by omega)];have q:at' (at' c (u:Int)) 2=0:=by
   rcases h2 u j with q|q
   ·exact q
   ·exact absurd (λh=>by omega) i
  rw[decide_eq_false (by omega),if_neg (by simp),cA (by omega),cA (by omega),cA (by omega),cA (by omega)];by_cases o:at' (at' c (k:Int)) 2=0
  ·rw[if_neg (by omega),cA (by omega),cA (by omega),cA (by omega),cA (by omega),if_pos];rw[decide_eq_true_eq];exact λp=>i λ_=>⟨o,p⟩
  ·rw[if_pos (by omega),if_pos Z]
 ·unfold iA;rw[if_neg (by omega)];rfl
end
def onP (P:Nat->Int):Nat->Int->Nat->Bool
 |0,_,_=>false
 |f+1,w,u=>if w<0 then false else decide (w=(u:Int))||onP P f (P w.toNat) u
def Je (c:bF) (v:Nat):Int:=at' (at' c (v:Int)) 4
def yJ (P:Nat->Int) (n:Nat) (c:bF) (u:Nat):Nat->Int
 |0=>0
 |k+1=>yJ P n c u k+if onP P (n+1) (k:Int) u then Je c k else 0
theorem Gz {P:Nat->Int} {f:Nat} {w:Int} {u:Nat} (h:w<0):onP P f w u=false:=by
 cases f with
 |zero=>rfl
 |succ f=>simp[onP,h]
theorem NF {P:Nat->Int} {n:Nat} {c:bF} {u:Nat}:∀{k:Nat},(∀v,v<k->0<=Je c v∧Je c v<=15)->0<=yJ P n c u k∧yJ P n c u k<=15*k
 |0,_=>by simp[yJ]
 |k+1,h=>by
  have d:=NF (P:=P) (n:=n) (u:=u) (k:=k) λv b=>h v (by omega);have a:=h k (by omega);simp only[yJ];split<;>(push_cast;omega)
section
variable {g:GR} {d:List Int} {P:Nat->Int} (hP:ZK g d P) (h0:∀v,v<g.2.length->0<=D d v)
 include hP h0
 omit h0 in
theorem Ko:∀(f w u:Nat),w<g.2.length->onP P f (w:Int) u=true->D d u<=D d w
  |0,w,u,_,h=>by cases h
  | f + 1, w, u, hw, h => by
   simp only[onP]at h;rw[if_neg (by omega),Bool.or_eq_true,decide_eq_true_eq]at h;rcases h with h|h
   ·have:w=u:=by omega
    subst this;omega
   ·rw[show Int.toNat (w:Int)=w from rfl]at h;by_cases e:w=0
    ·subst e;rw[hP.root,Gz (by omega)]at h;cases h
    ·obtain⟨p,b,a,c⟩:=hP.up w hw e;rw[a]at h;have:=Ko f p u b h;omega
theorem Kq (n:D d 0=0):∀(m w f:Nat) (u:Nat),w<g.2.length->D d w=(m:Int)->m<f->onP P f (w:Int) u=onP P (m+1) (w:Int) u:=by
 intro m
 induction m with
 | zero =>
  intro w f u b i j;obtain⟨f,rfl⟩:∃k,f=k+1:=⟨f - 1,by omega⟩
  simp only[onP];rw[if_neg (by omega),if_neg (by omega)];congr 1;have e:w=0:=by
   rcases Nat.eq_zero_or_pos w with e|e
   ·exact e
   ·obtain⟨p,a,c,h⟩:=hP.up w b (by omega);have:=h0 p a;omega
  subst e;rw[show Int.toNat ((0:Nat):Int)=0 from rfl,hP.root,Gz (by omega)]
 |succ m l=>
  intro w f u b i j;obtain⟨f,rfl⟩:∃k,f=k+1:=⟨f - 1,by omega⟩
  simp only[onP];rw[if_neg (by omega),if_neg (by omega)];congr 1;have e:w≠0:=λe=>by subst e;omega
  obtain⟨p,a,c,h⟩:=hP.up w b e;rw[show Int.toNat (w:Int)=w from rfl,c,l p f u a (by omega) (by omega)];rfl
end
section
variable {g:GR} (hV:VG g) {d:List Int} (hD:oU g 0 d) {c:List (List Int)} (hl:c.length=g.2.length) (hr:∀v,v<g.2.length->(at' c (v:Int)).length=6) (hx:∀v,v<g.2.length->0<=Je c v∧Je c v<=15) (hP:ZK g d (BK g c)) (h0:∀v,v<g.2.length->0<=D d v)
 include hV hD hl hP h0
 include hr hx
 omit hD in
theorem Su {v:Nat} (B:v<g.2.length) (r:List Int) (n:Int×List Int->Option (List Int)) (S:D d 0=0):∀(m a:Nat) (w:Nat) (R:List Int),w<g.2.length->D d w=(m:Int)->m+1<a->R.length=g.2.length->(∀u,u<g.2.length->0<=at' R (u:Int)∧at' R (u:Int)<=1000000 - 15*(m+1:Nat))->
   ∃l:List Int,l.length=g.2.length∧(∀u,u<g.2.length->at' l (u:Int)=at' R (u:Int)+if onP (BK g c) (m+1) (w:Int) u then Je c v else 0)∧bJ (f_ c (wE g c c.length) ((v:Int),r) n) a ((w:Int),R)=n (((v+1:Nat):Int),l):=by
  have E:=hV.n24;have J:(wE g c c.length).length=g.2.length:=by rw[BZ,hl]
  have L:=hx v B;have K:=hr v B;have step:∀(m:Nat) (w:Nat) (R:List Int) (f:Int×List Int->Option (List Int)),w<g.2.length->R.length=g.2.length->(∀u,u<g.2.length->0<=at' R (u:Int)∧at' R (u:Int)<=1000000 - 15*(m+1:Nat))->
    f_ c (wE g c c.length) ((v:Int),r) n ((w:Int),R) f=f (BK g c w,R.set w (at' R (w:Int)+Je c v)):=by
   intro m w R f h j i;have:=i w h;unfold f_;dsimp only;rw[if_pos (by omega),cA (by omega),cA (by omega),cA (by omega),cA (by omega),cA (by omega),Ny (by omega)];have e:at' (at' c (v:Int)) 4=Je c v:=rfl;rw[e,wr (by omega) (by omega)];rfl
  have t:∀(R:List Int) (f:Int×List Int->Option (List Int)),f_ c (wE g c c.length) ((v:Int),r) n (-1,R) f=n (((v+1:Nat):Int),R):=by
   intro R f;unfold f_ tE;dsimp only;rw[if_neg (by omega),zL (by omega)]
  have b:∀(R:List Int) (w u:Nat) (y:Int),w<R.length->at' (R.set w y) (u:Int)=if u=w then y else at' R (u:Int):=λR w u y h=>tP R w u y h;intro m
  induction m with
  | zero =>
   intro a w R h F G j i;obtain⟨a,rfl⟩:∃k,a=k+2:=⟨a - 2,by omega⟩
   have e:w=0:=by
    rcases Nat.eq_zero_or_pos w with e|e
    ·exact e
    ·obtain⟨p,o,s,C⟩:=hP.up w h (by omega);have:=h0 p o;omega
   subst e;refine⟨R.set 0 (at' R 0+Je c v),by simp[j],λu q=> ?_,?_⟩
   ·rw[b R 0 u _ (by omega)];have I:onP (BK g c) (0+1) ((0:Nat):Int) u=decide (((0:Nat):Int)=(u:Int)):=by
     show(if((0:Nat):Int)<0 then false else decide (((0:Nat):Int)=(u:Int))||false)=_;rw[if_neg (by omega),Bool.or_false]
    rw[I];by_cases e:u=0
    ·subst e;rw[if_pos Z,if_pos (by simp)];rfl
    ·rw[if_neg e,if_neg (by simp;omega)];omega
   ·show f_ _ _ _ _ (((0:Nat):Int),R) (bJ _ (a+1))=_;rw[step 0 0 R _ h j i,hP.root];show f_ _ _ _ _ (-1,_) (bJ _ a)=_;rw[t];rfl
  | succ m ih =>
   intro a w R h F G j i;obtain⟨a,rfl⟩:∃k,a=k+1:=⟨a - 1,by omega⟩
   have e:w≠0:=λe=>by subst e;omega
   obtain⟨p,o,s,C⟩:=hP.up w h e;obtain⟨l,M,N,O⟩:=ih a p (R.set w (at' R (w:Int)+Je c v)) o (by omega) (by omega) (by simp[j]) (λu q=>by
    rw[b R w u _ (by omega)];have P:=i u q;have Q:=i w h;split<;>(push_cast at *;omega))
   refine⟨l,M,λu q=> ?_,?_⟩
   ·rw[N u q,b R w u _ (by omega)];have z:onP (BK g c) (m+1+1) (w:Int) u=(decide ((w:Int)=(u:Int))||onP (BK g c) (m+1) (p:Int) u):=by
     show(if(w:Int)<0 then false else _)=_;rw[if_neg (by omega),show Int.toNat (w:Int)=w from rfl,s]
    rw[z];by_cases A:u=w
    ·subst A;have x:onP (BK g c) (m+1) (p:Int) u=false:=by
      cases H:onP (BK g c) (m+1) (p:Int) u with
      |false=>rfl
      |true=>have:=Ko hP _ p u o H;omega
     rw[if_pos Z,x];simp
    ·rw[if_neg A,decide_eq_false (by omega),Bool.false_or]
   ·show f_ _ _ _ _ ((w:Int),R) (bJ _ a)=_;rw[step (m+1) w R _ h j i,s];exact O
theorem abS (j:SV g c):∃R:List Int,qZ 1000 g c=some R∧R.length=g.2.length∧∀u,u<g.2.length->at' R (u:Int)=yJ (BK g c) g.2.length c u g.2.length:=by
 have h:=hV.n24;have F:=hV.n1;have y:D d 0=0:=(hD.zero 0 (by omega)).2 Z;unfold qZ;have B:oM 1000 (g.1,g.2) c 1=some (wE g c c.length):=KM h j;rw[B,bH Z,cA (by omega)];have o:=BU (step:=kZ 1000 c (wE g c c.length)) (K:=λx=>some x.2) g.2.length (λk x=>x.1=(k:Int)∧x.2.length=g.2.length∧∀u,u<g.2.length->at' x.2 (u:Int)=yJ (BK g c) g.2.length c u k) (λk x s b i=> ?_) (λx s i=> ?_) 1000 ((0:Int),List.replicate (Int.toNat (c.length:Int)) (0:Int)) ⟨rfl,by simp[hl],λu e=> ?_⟩ (by omega)
 ·obtain⟨x,⟨_,p,q⟩,r⟩:=o;exact⟨x.2,r,p,q⟩
 ·obtain⟨a,R⟩:=x;obtain⟨f,z,l⟩:=i;dsimp only at f z l;subst f;have C:=hD.hi k b;have t:=h0 k b;obtain⟨m,w⟩:∃m:Nat,D d k=(m:Int):=⟨(D d k).toNat,by omega⟩
  have E:=hD.lt b;obtain⟨A,p,q,r⟩:=Su hV hl hr hx hP h0 b R s y m 1000 k R b w (by omega) z (λu e=>by
   have:=NF (P:=BK g c) (n:=g.2.length) (c:=c) (u:=u) (k:=k) λv G=>hx v (by omega);rw[l u e];omega)
  refine⟨(((k+1:Nat):Int),A),⟨rfl,p,λu e=> ?_⟩,?_⟩
  ·rw[q u e,l u e];simp only[yJ];rw[Kq hP h0 y m k (g.2.length+1) u b w (by omega)]
  ·unfold kZ;dsimp only;rw[if_pos (by omega)];exact r
 ·obtain⟨a,R⟩:=x;obtain⟨f,_⟩:=i;dsimp only at f;subst f;unfold kZ tD;dsimp only;rw[if_neg (by omega)]
 ·rw[hl,fQ,List.getD_eq_getElem?_getD];simp[yJ,e]
def SAt (g:GR) (c:List (List Int)) (u:Nat):Prop:=at' (at' c (u:Int)) 5=yJ (BK g c) g.2.length c u g.2.length
 omit hD hP h0 hx in
theorem YW {R:List Int} (h1:R.length=g.2.length) (h2:∀u,u<g.2.length->at' R (u:Int)=yJ (BK g c) g.2.length c u g.2.length):((∀v,v<g.2.length->SAt g c v)->bJ (iR c R) 1000 0=some true)∧(¬(∀v,v<g.2.length->SAt g c v)->bJ (iR c R) 1000 0=some false):=by
  have h24:=hV.n24
  refine vJ (step:=iR c R) (K:=some true) (bad:=some false) g.2.length (SAt g c) (λk=>(k:Int)) (λk ag hk hp=> ?_) (λk ag hk hp=> ?_) (λag=> ?_) 1000 (by omega)
  ·have hrk:=hr k hk
   unfold iR
   rw[if_pos (by omega),cA (by omega),cA (by omega),cA (by omega),if_neg (by rw[h2 k hk,show at' (at' c (k:Int)) 5=_ from hp];simp),zL (by omega)]
  ·have hrk:=hr k hk
   unfold iR
   rw[if_pos (by omega),cA (by omega),cA (by omega),cA (by omega),if_pos (by rw[h2 k hk];exact hp)]
  ·unfold iR
   rw[if_neg (by omega)];rfl
end
end Go.Proofs.YtlkhndebimcbbaaGreatDoor
namespace Go.Proofs.YtlkhndebimcbbaaGreatDoor
open Go Go.Sx
def pG (g:GR) (d:aQ) (v:Nat) (p:Int):Prop:=(∃i:Nat,i<(row g v).length∧p=i∧at' d (fL (row g v) i).1=D d v - 1∧∀k,k<i->¬at' d (fL (row g v) k).1=D d v - 1)∨(p = -1∧∀k,k<(row g v).length->¬at' d (fL (row g v) k).1=D d v - 1)
theorem pG.uniq {g:GR} {d:aQ} {v:Nat} {p l:Int} (h:pG g d v p) (m:pG g d v l):p=l:=by
 rcases h with⟨i,a,b,c,n⟩|⟨a,b⟩<;>rcases m with⟨j,e,f,k,o⟩|⟨e,f⟩
 ·have:i=j:=by
   rcases Nat.lt_trichotomy i j with q|q|q
   ·exact absurd c (o i q)
   ·exact q
   ·exact absurd k (n j q)
  omega
 ·exact absurd c (f i a)
 ·exact absurd k (b j e)
 ·omega
section
variable {g:GR} {d:List Int} {c:List (List Int)} (hV:VG g) (hD:oU g 0 d) (h0:∀v,v<g.2.length->0<=D d v)
 include hV hD h0
theorem ahe (hcol:∀u,u<g.2.length->EB c u=D d u) {v:Nat} (hv:v<g.2.length):(TB g c v).1=D d v∧pG g d v (TB g c v).2:=by
 have h24:=hV.n24
 have hn1:=hV.n1
 have hlen:=hV.len
 have hnc:∀i u:Nat,(fL (row g v) i).1=(u:Int)->u<g.2.length->zV g c v i=D d u∧at' d (fL (row g v) i).1=D d u:=λi u hue hu=>⟨by rw[EG hue];exact hcol u hu,by rw[hue]⟩
 unfold TB
 by_cases hv0:v=0
 ·subst hv0
  rw[if_pos rfl]
  have hz:=(hD.zero 0 hv).2 rfl
  refine⟨hz.symm,.inr ⟨rfl,λk hk e=> ?_⟩⟩
  obtain⟨u,hu,hue,_⟩:=hV.port hv hk
  rw[(hnc k u hue hu).2]at e
  have:=h0 u hu
  omega
 ·rw[if_neg hv0]
  have hpos:0<D d v:=by
   have:=h0 v hv
   have hne:D d v≠0:=λe=>hv0 ((hD.zero v hv).1 e)
   omega
  obtain⟨u0,hu0,⟨i0,hi0,hue0⟩,hd0⟩:=hD.near v hv hpos
  have hin0:zV g c v i0=D d v - 1:=by rw[(hnc i0 u0 hue0 hu0).1,hd0]
  have hge:∀i,i<(row g v).length->D d v - 1<=zV g c v i:=λi hi=>by
   obtain⟨u,hu,hue,hadj⟩:=hV.port hv hi
   rw[(hnc i u hue hu).1]
   have:=(hD.next u hu (h0 u hu) v hv (hV.back hv hadj)).2
   omega
  have hmin:zU (Iu g c v)=D d v - 1:=by
   have h1:zU (Iu g c v)<=D d v - 1:=hin0▸Nt (List.mem_map.2 ⟨i0,List.mem_range.2 hi0,rfl⟩)
   rcases Kh (Iu g c v)with e|e
   ·have:=hD.hi v hv
    omega
   ·obtain⟨i,hi,he⟩:=RQ e
    have:=hge i hi
    omega
  have hhi:=hD.hi v hv
  have hX:XB g c v=D d v:=by
   unfold XB
   rw[hmin,if_pos (by omega),wr (by omega) (by omega)]
   unfold Ue;omega
  refine⟨hX,?_⟩
  show pG g d v (YB g c v)
  obtain⟨m,hm,hpm,hlt⟩:=Gu (p:=λi=>i<(row g v).length∧zV g c v i=D d v - 1) i0 ⟨hi0,hin0⟩
  have hY:YB g c v=(m:Int):=by
   unfold YB
   rw[hmin]
   refine sD (by simpa using hpm.1) ?_ λj hj=> ?_
   ·rw[lM _ hpm.1,decide_eq_true hpm.2];simp[AE]
   ·have hjl:j<(row g v).length:=by omega
    rw[lM _ hjl,decide_eq_false λe=>hlt j hj ⟨hjl,e⟩];simp[AE]
  refine .inl ⟨m,hpm.1,hY,?_,λk hk e=> ?_⟩
  ·obtain⟨u,hu,hue,_⟩:=hV.port hv hpm.1
   rw[(hnc m u hue hu).2,<-(hnc m u hue hu).1];exact hpm.2
  ·have hkl:k<(row g v).length:=by omega
   obtain⟨u,hu,hue,_⟩:=hV.port hv hkl
   rw[(hnc k u hue hu).2,<-(hnc k u hue hu).1]at e
   exact hlt k hk ⟨hkl,e⟩
end
structure Zy (g:GR) (d:aQ) (k:Nat) (c:bF):Prop where
 near:∀v,v<g.2.length->D d v<(k:Int)->EB c v=D d v∧pG g d v (GC c v)
 far:∀v,v<g.2.length->(k:Int)<=D d v->(k:Int)<=EB c v
def TrT (g:GR) (d:aQ) (k:Nat) (c:bF) (v:Nat):Prop:=v<g.2.length∧((D d v<=(k:Int)∧¬(EB c v=D d v∧pG g d v (GC c v)))∨((k:Int)<D d v∧EB c v<=(k:Int)))
structure TrS (g:GR) (c:bF) (t:Nat) (c':bF):Prop where
 stay:∀v,v<g.2.length->t.testBit v=false->EB c' v=EB c v∧GC c' v=GC c v
 move:∀v,v<g.2.length->t.testBit v=true->EB c' v=(TB g c v).1∧GC c' v=(TB g c v).2
section
variable {g:GR} {d:List Int} {c c':List (List Int)} {k t:Nat} (hV:VG g) (hD:oU g 0 d) (h0:∀v,v<g.2.length->0<=D d v)
 include hV hD h0
theorem YY (h:Zy g d k c) {v:Nat} (w:v<g.2.length):(D d v<=(k:Int)->(TB g c v).1=D d v∧pG g d v (TB g c v).2)∧((k:Int)<D d v->(k:Int)<(TB g c v).1):=by
 have P:=hV.n24;have W:=hV.n1;have O:=hV.len;have T:=hD.hi v w;have x:∀i,i<(row g v).length->∃u,u<g.2.length∧at' d (fL (row g v) i).1=D d u∧D d v - 1<=D d u∧(D d u<(k:Int)->zV g c v i=D d u)∧((k:Int)<=D d u->(k:Int)<=zV g c v i):=λi b=>by
  obtain⟨u,n,y,A⟩:=hV.port w b;have:=(hD.next u n (h0 u n) v w (hV.back w A)).2;rw[EG y,y];exact⟨u,n,rfl,by omega,λq=>(h.near u n q).1,λq=>h.far u n q⟩
 unfold TB;by_cases z:v=0
 ·subst z;rw[if_pos Z];have Y:=(hD.zero 0 w).2 Z;refine⟨λ_=>⟨Y.symm,.inr ⟨rfl,λi b e=> ?_⟩⟩,λq=>by omega⟩
  obtain⟨u,n,y,_⟩:=x i b;have:=h0 u n;omega
 rw[if_neg z];have E:0<D d v:=by
  have:=h0 v w;have X:D d v≠0:=λe=>z ((hD.zero v w).1 e);omega
 have r:zU (Iu g c v)=1073741824∨∃i,i<(row g v).length∧zV g c v i=zU (Iu g c v):=by
  rcases Kh (Iu g c v)with e|e
  ·exact .inl e
  ·exact .inr (RQ e)
 refine⟨λU=> ?_,λU=> ?_⟩
 ·obtain⟨u0,K,⟨L,B,F⟩,H⟩:=hD.near v w E;have o:zV g c v L=D d v - 1:=by
   rw[EG F,(h.near u0 K (by omega)).1,H]
  have f:∀i,i<(row g v).length->D d v - 1<=zV g c v i∧(zV g c v i=D d v - 1↔at' d (fL (row g v) i).1=D d v - 1):=λi b=>by
   obtain⟨u,n,e,M,N,G⟩:=x i b;by_cases q:D d u<(k:Int)
   ·have:=N q;omega
   ·have:=G (by omega);omega
  have s:zU (Iu g c v)=D d v - 1:=by
   have M:zU (Iu g c v)<=D d v - 1:=o▸Nt (List.mem_map.2 ⟨L,List.mem_range.2 B,rfl⟩);rcases r with e|⟨i,b,S⟩
   ·omega
   ·have:=(f i b).1;omega
  have Q:XB g c v=D d v:=by
   unfold XB;rw[s,if_pos (by omega),wr (by omega) (by omega)];unfold Ue;omega
  refine⟨Q,?_⟩
  show pG g d v (YB g c v);obtain⟨m,V,a,C⟩:=Gu (p:=λi=>i<(row g v).length∧zV g c v i=D d v - 1) L ⟨B,o⟩;have R:YB g c v=(m:Int):=by
   unfold YB;rw[s];refine sD (by simpa using a.1) ?_ λj J=> ?_
   ·rw[lM _ a.1,decide_eq_true a.2];simp[AE]
   ·have l:j<(row g v).length:=by omega
    rw[lM _ l,decide_eq_false λe=>C j J ⟨l,e⟩];simp[AE]
  refine .inl ⟨m,a.1,R,((f m a.1).2).1 a.2,λj J e=> ?_⟩;have l:j<(row g v).length:=by omega
  exact C j J ⟨l,((f j l).2).2 e⟩
 ·have I:∀i,i<(row g v).length->(k:Int)<=zV g c v i:=λi b=>by
   obtain⟨u,n,e,M,N,G⟩:=x i b;exact G (by omega)
  have V:(k:Int)<=zU (Iu g c v):=by
   rcases r with e|⟨i,b,S⟩
   ·omega
   ·have:=I i b;omega
  show(k:Int)<XB g c v;unfold XB;by_cases q:zU (Iu g c v)<(g.1.length:Int)
  ·rw[if_pos q,wr (by omega) (by omega)];unfold Ue;omega
  ·rw[if_neg q];omega
theorem Um (h:Zy g d k c) {v:Nat} (f:TrT g d k c v):¬FI g c v:=by
 obtain⟨m,f⟩:=f;obtain⟨a,b⟩:=YY hV hD h0 h m;rintro⟨n,o⟩;rcases f with⟨e,i⟩|⟨e,i⟩
 ·obtain⟨j,l⟩:=a e;exact i ⟨by rw[n,j],by rw[o];exact l⟩
 ·have:=b e;omega
theorem YZ (h:Zy g d k c) (l:TrS g c t c'):Zy g d k c'∧∀v,TrT g d k c' v->TrT g d k c v∧t.testBit v=false:=by
 refine⟨⟨λv e n=> ?_,λv e n=> ?_⟩,λv ⟨e,m⟩=> ?_⟩
 all_goals obtain⟨a,b⟩:=YY hV hD h0 h e
 ·cases f:t.testBit v with
  |true=>obtain⟨i,j⟩:=l.move v e f;rw[i,j];exact a (by omega)
  |false=>obtain⟨i,j⟩:=l.stay v e f;rw[i,j];exact h.near v e n
 ·cases f:t.testBit v with
  |true=>
   rw[(l.move v e f).1];by_cases q:D d v<=(k:Int)
   ·rw[(a q).1];exact n
   ·have:=b (by omega);omega
  |false=>rw[(l.stay v e f).1];exact h.far v e n
 ·cases f:t.testBit v with
  |true=>
   exfalso;obtain⟨i,j⟩:=l.move v e f;rw[i,j]at m;rcases m with⟨o,p⟩|⟨o,p⟩
   ·exact p (a o)
   ·have:=b o;omega
  |false=>
   obtain⟨i,j⟩:=l.stay v e f;rw[i,j]at m;exact⟨⟨e,m⟩,rfl⟩
 omit hV hD in
theorem HP (b:∀v,v<g.2.length->0<=EB c v):Zy g d 0 c:=⟨λv a q=>by have:=h0 v a;omega,λv a _=>b v a⟩
 omit hV hD h0 in
theorem Qi (h:Zy g d k c) (e:∀v,¬TrT g d k c v):Zy g d (k+1) c:=by
  have b:∀v,v<g.2.length->(D d v<=(k:Int)->EB c v=D d v∧pG g d v (GC c v))∧((k:Int)<D d v->(k:Int)<EB c v):=λv a=>
   ⟨λq=>Classical.not_not.1 λr=>e v ⟨a,.inl ⟨q,r⟩⟩,λq=>Decidable.not_not.1 λf=>e v ⟨a,.inr ⟨q,by omega⟩⟩⟩
  exact⟨λv a q=>(b v a).1 (by omega),λv a q=>by have:=(b v a).2 (by omega);omega⟩
end
theorem agV {g:GR} {a:List Dd} (b:tK g a) {x:Nat} (c:x<a.length) (v:Nat):lo g (at' a (x:Int)) v<=hi g (at' a (x:Int)) v:=by
 rcases b.kind x c with k|k|k
 ·have h:=(b.range x c k).2.1;unfold lo hi at h ⊢;rw[k]at h ⊢;simpa using h
 ·unfold lo hi;rw[k];simp
 ·unfold lo hi;rw[k];simp;omega
theorem UQ {g:GR} {a:List Dd} (b:tK g a) {x:Nat} (c:x<a.length) (v:Nat) (y:Int):lo g (at' a (x:Int)) v<=mM (at' a (x:Int)).2.1 (pP g a v x) y∧mM (at' a (x:Int)).2.1 (pP g a v x) y<=hi g (at' a (x:Int)) v:=by
 have h:=agV b c v;unfold mM pP;dsimp only;split
 ·assumption
 ·split
  ·rename_i k;unfold lo hi;rw[k];simp;omega
  ·split<;>omega
section
variable {S:A_} {vars:List Dd} {R:List RL} {c:List (List Int)} {t v:Nat}
theorem YQ (f:tK S.2.1 vars) {a:List Int} (d:a.length=vars.length) (h:∀x,x<vars.length->lo S.2.1 (at' vars (x:Int)) v<=at' a (x:Int)∧at' a (x:Int)<=hi S.2.1 (at' vars (x:Int)) v) (s:Nat×E):
  (Ee S vars c v a s).length=vars.length∧∀x,x<vars.length->lo S.2.1 (at' vars (x:Int)) v<=at' (Ee S vars c v a s) (x:Int)∧at' (Ee S vars c v a s) (x:Int)<=hi S.2.1 (at' vars (x:Int)) v:=by
 unfold Ee;refine⟨by rw[List.length_set,d],λx b=> ?_⟩
 by_cases g:s.1<a.length
 ·rw[tP a s.1 x _ g];split
  ·rename_i e;rw[<-e];exact UQ f b v _
  ·exact h x b
 ·rw[List.set_eq_of_length_le (by omega)];exact h x b
theorem LW (k:tK S.2.1 vars) (h:Du S.2.1 c vars) (j:v<S.2.1.2.length) (i:Int):(lY S vars R c v i).length=vars.length∧∀x,x<vars.length->lo S.2.1 (at' vars (x:Int)) v<=at' (lY S vars R c v i) (x:Int)∧at' (lY S vars R c v i) (x:Int)<=hi S.2.1 (at' vars (x:Int)) v:=by
 have g:∀(l:List (Nat×E)) (d:List Int),d.length=vars.length->(∀x,x<vars.length->lo S.2.1 (at' vars (x:Int)) v<=at' d (x:Int)∧at' d (x:Int)<=hi S.2.1 (at' vars (x:Int)) v)->
   (l.foldl (Ee S vars c v) d).length=vars.length∧∀x,x<vars.length->lo S.2.1 (at' vars (x:Int)) v<=at' (l.foldl (Ee S vars c v) d) (x:Int)∧at' (l.foldl (Ee S vars c v) d) (x:Int)<=hi S.2.1 (at' vars (x:Int)) v:=by
  intro l
  induction l with
  |nil=>intro d e f;exact⟨e,f⟩
  |cons s l m=>
   intro d e f;obtain⟨a,b⟩:=YQ (c:=c) k e f s;exact m _ a b
 exact g _ _ (h.row v j) (h.ok v j)
theorem Mg (e:tK S.2.1 vars) (a:Du S.2.1 c vars):Du S.2.1 (iD S vars R c t) vars:=by
 have d:=a.len;refine⟨by rw[Mf,d],λv b=> ?_,λv b x f=> ?_⟩
 ·rw[zJ (by omega)];split
  ·exact(LW e a b _).1
  ·exact a.row v b
 ·unfold val;rw[zJ (by omega)];split
  ·exact(LW e a b _).2 x f
  ·exact a.ok v b x f
theorem Sr {x:Nat} (j:∀r∈R,∀s∈r.2,s.1≠x) (k:v<c.length):at' (at' (iD S vars R c t) (v:Int)) (x:Int)=at' (at' c (v:Int)) (x:Int):=by
 rw[zJ k];split
 ·have f:∀(l:List (Nat×E)) (b:List Int),(∀s∈l,s.1≠x)->at' (l.foldl (Ee S vars c v) b) (x:Int)=at' b (x:Int):=by
   intro l
   induction l with
   |nil=>intro b _;rfl
   |cons s l m=>
    intro b h;refine(m _ λn d=>h n (List.mem_cons_of_mem _ d)).trans ?_;unfold Ee;by_cases a:s.1<b.length
    ·rw[tP b s.1 x _ a,if_neg (λe=>h s List.mem_cons_self e.symm)]
    ·rw[List.set_eq_of_length_le (by omega)]
  refine f _ _ λs a=> ?_;generalize dQ S R c v=i at a;unfold at' at a;by_cases g:i.toNat<R.length
  ·rw[List.getD_eq_getElem?_getD,List.getElem?_eq_getElem g,Option.getD_some]at a;exact j _ (List.getElem_mem g) s a
  ·rw[List.getD_eq_getElem?_getD,List.getElem?_eq_none (by omega),Option.getD_none]at a;cases a
 ·rfl
end
theorem Ry (a b:aQ):qH (a++b)=if 0<=qH a then qH a else if 0<=qH b then(a.length:Int)+qH b else -1:=by
 unfold qH;rw[List.findIdx?_append];cases c:a.findIdx? nz with
 |some i=>simp
 |none=>
  cases d:b.findIdx? nz with
  |some i=>simp;omega
  |none=>simp
theorem aaa {c:Type} [Inhabited c] (a b:List c) {i:Nat} (h:i<a.length):at' (a++b) (i:Int)=at' a (i:Int):=by
 rw[fQ,fQ,List.getD_eq_getElem?_getD,List.getD_eq_getElem?_getD,List.getElem?_append_left h]
theorem aab {c:Type} [Inhabited c] (a b:List c) (i:Nat):at' (a++b) ((a.length+i:Nat):Int)=at' b (i:Int):=by
 rw[fQ,fQ,List.getD_eq_getElem?_getD,List.getD_eq_getElem?_getD,List.getElem?_append_right (by omega),Nat.add_sub_cancel_left]
section
variable {S:A_} {A B R:List RL} {vars:List Dd} {c:List (List Int)} {v:Nat}
theorem Me:dQ S (A++B) c v=if 0<=dQ S A c v then dQ S A c v else if 0<=dQ S B c v then(A.length:Int)+dQ S B c v else -1:=by
 unfold dQ;rw[List.map_append,Ry,List.length_map]
theorem RZ {i:Nat} (h:i<A.length):lY S vars (A++B) c v (i:Int)=lY S vars A c v (i:Int):=by
 unfold lY;rw[aaa _ _ h]
theorem R_ (i:Nat):lY S vars (A++B) c v ((A.length+i:Nat):Int)=lY S vars B c v (i:Int):=by
 unfold lY;rw[aab]
theorem Eb {i:Nat} (b:i<R.length) (d:fU S c v (at' R (i:Int)).1≠0) (f:∀j:Nat,j<i->fU S c v (at' R (j:Int)).1=0):dQ S R c v=(i:Int):=by
 have e:∀j:Nat,j<R.length->at' (R.map λr=>fU S c v r.1) (j:Int)=fU S c v (at' R (j:Int)).1:=λj a=>by
  rw[lS (by simpa using a),lS a];simp
 exact sD (by simpa using b) (by rw[e i b];exact d) λj a=>by rw[e j (by omega)];exact f j a
theorem Ki {x:Nat} (j:∀r∈R,∀s∈r.2,s.1≠x) (i:Int):at' (lY S vars R c v i) (x:Int)=at' (at' c (v:Int)) (x:Int):=by
 have f:∀(l:List (Nat×E)) (b:List Int),(∀s∈l,s.1≠x)->at' (l.foldl (Ee S vars c v) b) (x:Int)=at' b (x:Int):=by
  intro l
  induction l with
  |nil=>intro b _;rfl
  |cons s l k=>
   intro b h;refine(k _ λm d=>h m (List.mem_cons_of_mem _ d)).trans ?_;unfold Ee;by_cases a:s.1<b.length
   ·rw[tP b s.1 x _ a,if_neg (λe=>h s List.mem_cons_self e.symm)]
   ·rw[List.set_eq_of_length_le (by omega)]
 refine f _ _ λs a=> ?_;unfold at' at a;by_cases g:i.toNat<R.length
 ·rw[List.getD_eq_getElem?_getD,List.getElem?_eq_getElem g,Option.getD_some]at a;exact j _ (List.getElem_mem g) s a
 ·rw[List.getD_eq_getElem?_getD,List.getElem?_eq_none (by omega),Option.getD_none]at a;cases a
end
def HF (g:GR) (c:List (List Int)):List (List Int):=(List.range g.2.length).map λv=>[EB c v,GC c v]
section
variable {p:sQ} {g:GR} {W:List Dd} {R':List RL} {c:List (List Int)} {v t:Nat}
theorem TW (a:v<g.2.length):EB (HF g c) v=EB c v:=by
 show at' (at' (HF g c) (v:Int)) 0=_;rw[show at' (HF g c) (v:Int)=[EB c v,GC c v]from lM _ a];rfl
theorem abB (a:v<g.2.length):GC (HF g c) v=GC c v:=by
 show at' (at' (HF g c) (v:Int)) 1=_;rw[show at' (HF g c) (v:Int)=[EB c v,GC c v]from lM _ a];rfl
theorem Hr (d:Du g c (sO++W)) (e:v<g.2.length):(0<=EB c v∧EB c v<=(g.2.length:Int)) ∧ -1<=GC c v∧GC c v<=((row g v).length:Int) - 1:=by
 have a:=d.ok v e 0 (by show 0<W.length+2;omega);have b:=d.ok v e 1 (by show 1<W.length+2;omega);have f:lo g (at' (sO++W) ((0:Nat):Int)) v=0:=Ye g v;have h:hi g (at' (sO++W) ((0:Nat):Int)) v=(g.2.length:Int):=XT g v;have i:lo g (at' (sO++W) ((1:Nat):Int)) v = -1:=aep g v;have j:hi g (at' (sO++W) ((1:Nat):Int)) v=((row g v).length:Int) - 1:=aeg g v;rw[f,h]at a;rw[i,j]at b;exact⟨a,b⟩
theorem abC (f:Du g c (sO++W)):Du g (HF g c) sO:=by
 refine⟨by simp[HF],λu d=>by rw[show at' (HF g c) (u:Int)=[EB c u,GC c u]from lM _ d];rfl,λu d x e=> ?_⟩
 obtain⟨a,b⟩:=Hr f d;have e:x<2:=e
 match x,e with
 |0,_=>rw[Ye,XT];show 0<=EB (HF g c) u∧EB (HF g c) u<=_;rw[TW d];exact a
 |1,_=>rw[aep,aeg];show -1<=GC (HF g c) u∧GC (HF g c) u<=_;rw[abB d];exact b
theorem acM (a:VG g) (d:Du g c (sO++W)) (b:v<g.2.length):(0<=(TB g c v).1∧(TB g c v).1<=(g.2.length:Int)) ∧ -1<=(TB g c v).2∧(TB g c v).2<=((row g v).length:Int) - 1:=by
 rw[<-ZN a b λu e=>TW (c:=c) e];exact age a (abC d) b
theorem acs (l:List Int) (h:2<=l.length) (x y:Int):at' ((l.set 0 x).set 1 y) 0=x∧at' ((l.set 0 x).set 1 y) 1=y:=by
 match l,h with
 |a::b::l,_=>exact⟨rfl,rfl⟩
theorem aew (r:VG g) (l:Du g c (sO++W)) (n:v<g.2.length) (h:0<=dQ (aT p g) RB c v):at' (lY (aT p g) (sO++W) RB c v (dQ (aT p g) RB c v)) 0=(TB g c v).1∧at' (lY (aT p g) (sO++W) RB c v (dQ (aT p g) RB c v)) 1=(TB g c v).2:=by
 have m:2<=(at' c (v:Int)).length:=by
  have e:(at' c (v:Int)).length=W.length+2:=l.row v n;omega
 have j:pP g sO v 0=(0,(g.2.length:Int)):=by unfold pP;rw[Ye,XT]
 have k:pP g sO v 1=(-1,((row g v).length:Int) - 1):=by unfold pP;rw[aep,aeg]
 obtain⟨⟨o,b⟩,q,d⟩:=acM r l n;rcases PR h with⟨e,a,_⟩|⟨e,a,_⟩
 ·have f:lY (aT p g) (sO++W) RB c v 0=((at' c (v:Int)).set 0 (mM 1 (pP g sO v 0) 0)).set 1 (mM 3 (pP g sO v 1) (-1)):=rfl;have i:TB g c v=(0,-1):=by unfold TB;rw[if_pos a]
  rw[i]at d b ⊢;dsimp only at d b;rw[e,f,j,k,BP (by omega) (by omega),BP (by omega) (by omega)];exact acs _ m _ _
 ·have f:lY (aT p g) (sO++W) RB c v 1=((at' c (v:Int)).set 0 (mM 1 (pP g sO v 0) (fU (aT p g) c v exX))).set 1 (mM 3 (pP g sO v 1) (fU (aT p g) c v exY)):=rfl;have i:TB g c v=(XB g c v,YB g c v):=by unfold TB;rw[if_neg a]
  rw[i]at o b q d ⊢;dsimp only at o b q d;rw[e,f,j,k,Xw,Xx,BP (by omega) (by omega),BP (by omega) (by omega)];exact acs _ m _ _
theorem IY (h:FI g c v):dQ (aT p g) (RB++R') c v=if 0<=dQ (aT p g) R' c v then 2+dQ (aT p g) R' c v else -1:=by
 rw[Me,if_neg (Md.2 h)];rfl
theorem Kl (h:¬FI g c v):dQ (aT p g) (RB++R') c v=dQ (aT p g) RB c v∧0<=dQ (aT p g) RB c v:=by
 have:0<=dQ (aT p g) RB c v:=Decidable.not_not.1 λq=>h (Md.1 q);exact⟨by rw[Me,if_pos this],this⟩
theorem Pu (h:FI g c v) (a:0<=dQ (aT p g) (RB++R') c v):0<=dQ (aT p g) R' c v∧lY (aT p g) (sO++W) (RB++R') c v (dQ (aT p g) (RB++R') c v)=lY (aT p g) (sO++W) R' c v (dQ (aT p g) R' c v):=by
 rw[IY h]at a;by_cases q:0<=dQ (aT p g) R' c v
 ·refine⟨q,?_⟩
  rw[IY h,if_pos q];obtain⟨i,b⟩:∃i:Nat,dQ (aT p g) R' c v=(i:Int):=⟨_,(Int.toNat_of_nonneg q).symm⟩
  rw[b,show(2:Int)+(i:Int)=((RB.length+i:Nat):Int) by simp[RB]];exact R_ i
 ·rw[if_neg q]at a;omega
theorem aeP (u:VG g) (m:Du g c (sO++W)) (l:∀r∈R',∀s∈r.2,2<=s.1) (j:∀v,t.testBit v=true->v<g.2.length∧0<=dQ (aT p g) (RB++R') c v):TrS g c t (iD (aT p g) (sO++W) (RB++R') c t):=by
 have a:=m.len;refine⟨λv f b=> ?_,λv f b=> ?_⟩
 ·unfold EB GC;rw[zJ (by rw[a];exact f),if_neg (by rw[b];decide)];exact⟨rfl,rfl⟩
 ·obtain⟨_,y⟩:=j v b;unfold EB GC;rw[zJ (by rw[a];exact f),if_pos b];by_cases d:FI g c v
  ·obtain⟨_,e⟩:=Pu (W:=W) d y;rw[e];have z:=Ki (S:=aT p g) (R:=R') (vars:=sO++W) (c:=c) (v:=v) (x:=0) (λr h s k=>by have:=l r h s k;omega) (dQ (aT p g) R' c v);have A:=Ki (S:=aT p g) (R:=R') (vars:=sO++W) (c:=c) (v:=v) (x:=1) (λr h s k=>by have:=l r h s k;omega) (dQ (aT p g) R' c v);exact⟨z.trans d.1,A.trans d.2⟩
  ·obtain⟨e,o⟩:=Kl (p:=p) (R':=R') d;rw[e];obtain⟨i,n,w⟩:∃i:Nat,dQ (aT p g) RB c v=(i:Int)∧i<RB.length:=by
    rcases Ec (aT p g) RB c v with q|⟨i,B,C,_⟩
    ·omega
    ·exact⟨i,B,C⟩
   rw[n,RZ w,<-n];exact aew u m f o
end
section
variable {L:Int->Int->Int->Int} {deg:Nat} {x y:E} {q:Int}
theorem Cs:(E.bi 41 x y).den L deg q≠0↔x.den L deg q≠0∧y.den L deg q≠0:=by
 show AE (decide (x.den L deg q≠0)&&decide (y.den L deg q≠0))≠0↔_;rw[tX,Bool.and_eq_true,decide_eq_true_eq,decide_eq_true_eq]
theorem Xo:(E.bi 42 x y).den L deg q≠0↔x.den L deg q≠0∨y.den L deg q≠0:=by
 show AE (decide (x.den L deg q≠0)||decide (y.den L deg q≠0))≠0↔_;rw[tX,Bool.or_eq_true,decide_eq_true_eq,decide_eq_true_eq]
theorem IN:(E.un 19 x).den L deg q≠0↔x.den L deg q=0:=by
 show AE (decide (x.den L deg q=0))≠0↔_;rw[tX,decide_eq_true_eq]
theorem JI:(E.bi 35 x y).den L deg q≠0↔x.den L deg q=y.den L deg q:=by
 show AE (decide (x.den L deg q=y.den L deg q))≠0↔_;rw[tX,decide_eq_true_eq]
theorem Xn:(E.bi 36 x y).den L deg q≠0↔x.den L deg q≠y.den L deg q:=by
 show AE (decide (x.den L deg q≠y.den L deg q))≠0↔_;rw[tX,decide_eq_true_eq]
theorem OW:(E.ag 21 x).den L deg q≠0↔∃i:Nat,i<deg∧x.den L deg (i:Int)≠0:=by
 show AE (((List.range deg).map λi=>x.den L deg ((i:Nat):Int)).any nz)≠0↔_;rw[tX,List.any_eq_true];constructor
 ·rintro⟨z,c,b⟩;obtain⟨i,a,rfl⟩:=List.mem_map.1 c;exact⟨i,List.mem_range.1 a,by simpa [nz]using b⟩
 ·rintro⟨i,a,b⟩;exact⟨_,List.mem_map.2 ⟨i,List.mem_range.2 a,rfl⟩,by simpa [nz]using b⟩
theorem aaQ:(E.ag 20 x).den L deg q≠0↔∀i:Nat,i<deg->x.den L deg (i:Int)≠0:=by
 show AE (((List.range deg).map λi=>x.den L deg ((i:Nat):Int)).all nz)≠0↔_;rw[tX,List.all_eq_true];constructor
 ·intro h i a;have:=h _ (List.mem_map.2 ⟨i,List.mem_range.2 a,rfl⟩);simpa [nz]using this
 ·intro h z b;obtain⟨i,a,rfl⟩:=List.mem_map.1 b;simpa [nz]using h i (List.mem_range.1 a)
end
def oL (c:List (List Int)) (v:Nat) (x:Int):Int:=at' (at' c (v:Int)) x
def NV (g:GR) (c:List (List Int)) (v i:Nat) (x:Int):Int:=at' (at' c (fL (row g v) i).1) x
theorem zW {g:GR} {c:List (List Int)} {v i u:Nat} {x:Int} (h:(fL (row g v) i).1=(u:Int)):NV g c v i x=oL c u x:=by unfold NV oL;rw[h]
def Pd:E:= .bi 35 (.lf 11 0) (.lf 5 1)
def agI:E:= .bi 41 (.bi 41 (.lf 10 0) (.un 19 (.lf 5 2))) (.lf 5 5)
def XN:E:= .bi 41 (.un 19 (.lf 10 0)) (.ag 21 (.bi 41 Pd (.bi 42 (.bi 36 (.lf 12 3) (.lf 5 3)) (.bi 41 (.lf 5 2) (.un 19 (.lf 12 2))))))
def XP:E:= .bi 41 (.lf 5 2) (.ag 20 (.bi 42 (.bi 36 (.lf 12 1) (.lf 17 0)) (.bi 41 (.un 19 (.lf 12 2)) (.bi 35 (.lf 12 3) (.lf 5 3)))))
def agJ:E:= .bi 41 (.bi 41 (.un 19 (.lf 5 2)) (.un 19 (.lf 5 5))) (.ag 21 (.bi 41 (.bi 41 (.bi 35 (.lf 12 1) (.lf 17 0)) (.lf 12 5)) (.un 19 (.lf 12 2))))
def RS:List RL:=[(guT,[(0,.lf 1 0),(1,.lf 4 0)]),(guB,[(0,exX),(1,exY)]),(agI,[(2,.lf 2 0),(3,.un 19 (.lf 5 3)),(4,.lf 1 0),(5,.lf 3 0)]),
 (XN,[(2,.ag 21 (.bi 41 Pd (.lf 12 2))),(3,.ag 21 (.bi 41 Pd (.lf 12 3))),(4,.lf 1 0),(5,.lf 3 0)]),(XP,[(2,.lf 3 0)]),(agJ,[(5,.lf 2 0)])]
section
variable {p:sQ} {g:GR} {c:List (List Int)} {v:Nat}
theorem aeG {a:Nat} {q:Int}:(E.lf 10 0).den (TK (aT p g,c,(v:Int),[])) a q≠0↔v=0:=by
 show AE (decide ((v:Int)=0))≠0↔_;rw[tX,decide_eq_true_eq];omega
theorem aha {a:Nat} {q:Int}:(E.lf 10 0).den (TK (aT p g,c,(v:Int),[])) a q=0↔v≠0:=by
 show AE (decide ((v:Int)=0))=0↔_;rw[agk,decide_eq_false_iff_not];omega
theorem Rf (d:v<g.2.length) {a i:Nat} (b:i<(row g v).length):(E.lf 17 0).den (TK (aT p g,c,(v:Int),[])) a (i:Int)=Dg g v i:=by
 show at' (at' (fK g) (v:Int)) (i:Int)=_;unfold fK;rw[lM _ d,lM _ b]
theorem XO:fU (aT p g) c v XN≠0↔v≠0∧∃i:Nat,i<(row g v).length∧(i:Int)=oL c v 1∧(NV g c v i 3≠oL c v 3∨(oL c v 2≠0∧NV g c v i 2=0)):=by
 unfold fU XN Pd;rw[Cs,IN,aha,OW];simp only[Cs,Xo,IN,JI,Xn];exact Iff.rfl
theorem XQ (b:v<g.2.length):fU (aT p g) c v XP≠0↔oL c v 2≠0∧∀i:Nat,i<(row g v).length->NV g c v i 1≠Dg g v i∨(NV g c v i 2=0∧NV g c v i 3=oL c v 3):=by
 unfold fU XP;rw[Cs,aaQ];simp only[Cs,Xo,IN,JI,Xn];refine and_congr Iff.rfl ⟨λh i a=> ?_,λh i a=> ?_⟩
 ·have:=h i a;rw[Rf b a]at this;exact this
 ·rw[Rf b a];exact h i a
end
end Go.Proofs.YtlkhndebimcbbaaGreatDoor
namespace Go.Proofs.YtlkhndebimcbbaaGreatDoor
structure RT (n E:Nat) (par dp:Nat->Nat):Prop where
 n1:0<n
 d0:dp 0=0
 up:∀v,v<n->v≠0->par v<n∧dp v=dp (par v)+1
 le:∀v,v<n->dp v<=E
def KW (a:Nat->Nat) (s b:Nat->Int) (v:Nat):Prop:=v≠0∧(b (a v)≠b v∨(s v≠0∧s (a v)=0))
def SL (n:Nat) (a:Nat->Nat) (s b:Nat->Int) (v:Nat):Prop:=s v≠0∧∀w,w<n->w≠0->a w=v->s w=0∧b w=b v
structure WS (n:Nat) (par:Nat->Nat) (m:Nat->Prop) (s b s' b':Nat->Int):Prop where
 stay:∀v,v<n->¬m v->s' v=s v∧b' v=b v
 take:∀v,v<n->m v->KW par s b v->s' v=s (par v)∧b' v=b (par v)
 fin:∀v,v<n->m v->¬KW par s b v->SL n par s b v->s' v=0∧b' v=b v
 oth:∀v,v<n->m v->¬KW par s b v->¬SL n par s b v->(s' v=s v∧b' v=b v)∨(v=0∧s 0=0∧s' 0≠0∧b' 0≠b 0)
def gd (a:Nat->Nat) (s b:Nat->Int) (v:Nat):Prop:=s (a v)≠0∨(s v=0∧b v=b (a v))
def AG (n:Nat) (a:Nat->Nat) (s b:Nat->Int):Prop:=∀v,v<n->v≠0->gd a s b v
def Qt (n:Nat) (s b:Nat->Int):Prop:=∀v,v<n->s v=0∧b v=b 0
def Wk (n:Nat) (a:Nat->Nat) (b:Nat->Int) (j:Nat):Prop:=∀v,v<n->a v<=j->b v=b 0
def UD (n E:Nat) (a:Nat->Nat) (s:Nat->Int) (i:Nat):Prop:=∀v,v<n->E<a v+i->s v=0
def CI (n:Nat) (a:Nat->Nat) (s b:Nat->Int):Prop:=∀v,v<n->(b v=b 0->s v=0->∀w,w<n->w≠0->a w=v->s w=0∧b w=b 0)∧(b v≠b 0->s v=0∧∀w,w<n->w≠0->a w=v->b w≠b 0)
section
variable {n E:Nat} {par dp:Nat->Nat} {m:Nat->Prop} {s b s' b':Nat->Int} (hT:RT n E par dp) (hW:WS n par m s b s' b')
theorem WS.cases (hW:WS n par m s b s' b') {v:Nat} (d:v<n):(s' v=s v∧b' v=b v)∨(m v∧KW par s b v∧s' v=s (par v)∧b' v=b (par v))∨(m v∧¬KW par s b v∧SL n par s b v∧s' v=0∧b' v=b v)∨(m v∧v=0∧s 0=0∧s' 0≠0∧b' 0≠b 0):=by
 by_cases a:m v
 ·by_cases c:KW par s b v
  ·exact .inr (.inl ⟨a,c,hW.take v d a c⟩)
  ·by_cases e:SL n par s b v
   ·exact .inr (.inr (.inl ⟨a,c,e,hW.fin v d a c e⟩))
   ·rcases hW.oth v d a c e with h|h
    ·exact .inl h
    ·exact .inr (.inr (.inr ⟨a,h⟩))
 ·exact .inl (hW.stay v d a)
theorem WS.rest (hW:WS n par m s b s' b') {v:Nat} (e:v<n) (c:v≠0) (a:s v=0) (d:b v=b (par v)):s' v=s v∧b' v=b v:=by
 rcases hW.cases e with h|⟨_,h,_⟩|⟨_,_,h,_⟩|⟨_,h,_⟩
 ·exact h
 ·rcases h.2 with q|q
  ·exact absurd d.symm q
  ·exact absurd a q.1
 ·exact absurd a h.1
 ·exact absurd h c
theorem Sa {v:Nat} (c:v≠0) (h:¬gd par s b v):KW par s b v:=by
 refine⟨c,?_⟩
 by_cases a:b (par v)=b v
 ·refine .inr ⟨λq=>h (.inr ⟨q,a.symm⟩),Decidable.not_not.1 λq=>h (.inl q)⟩
 ·exact .inl a
 include hT hW
theorem IT {v:Nat} (i:v<n) (g:v≠0) (x:par v=0∨gd par s b (par v)) (h:gd par s b v∨m v):gd par s' b' v:=by
 obtain⟨o,_⟩:=hT.up v i g;rcases hW.cases o with⟨d,k⟩|⟨_,t,d,_⟩|⟨_,_,w,d,k⟩|⟨_,u,_,d,_⟩
 ·unfold gd;rw[d,k];by_cases l:s (par v)=0
  ·right;have j:gd par s b v->s' v=0∧b' v=b (par v):=λh=>by
    rcases h with q|⟨a,c⟩
    ·exact absurd l q
    ·obtain⟨e,f⟩:=hW.rest i g a c;rw[e,f];exact⟨a,c⟩
   rcases h with h|h
   ·exact j h
   ·by_cases p:gd par s b v
    ·exact j p
    ·obtain⟨e,f⟩:=hW.take v i h (Sa g p);rw[e,f];exact⟨l,rfl⟩
  ·exact .inl l
 ·left;rw[d];rcases x with q|q|⟨a,c⟩
  ·exact absurd q t.1
  ·exact q
  ·rcases t.2 with r|r
   ·exact absurd c.symm r
   ·exact absurd a r.1
 ·obtain⟨a,c⟩:=w.2 v i g Z;obtain⟨e,f⟩:=hW.rest i g a c;exact .inr ⟨by rw[e,a],by rw[f,k,c]⟩
 ·left;rw[u];exact d
theorem Bf (h:AG n par s b):AG n par s' b':=λv c a=>by
 refine IT hT hW c a ?_ (.inl (h v c a));by_cases e:par v=0
 ·exact .inl e
 ·exact .inr (h _ (hT.up v c a).1 e)
 omit hW
theorem acq (h:AG n par s b) (g:s 0=0):Qt n s b:=by
 have c:∀k v,v<n->dp v=k->s v=0∧b v=b 0:=by
  intro k
  induction k with
  |zero=>
   intro v a i;by_cases e:v=0
   ·subst e;exact⟨g,rfl⟩
   ·have:=(hT.up v a e).2;omega
  |succ k o=>
   intro v a i;have e:v≠0:=λe=>by subst e;have:=hT.d0;omega
   obtain⟨l,j⟩:=hT.up v a e;obtain⟨d,f⟩:=o _ l (by omega);rcases h v a e with q|⟨p,r⟩
   ·exact absurd d q
   ·exact⟨p,by rw[r,f]⟩
 exact λv a=>c _ v a Z
 omit hT in
theorem Qt.ag (h:Qt n s b) (hT:RT n E par dp):AG n par s b:=λv a c=> .inr ⟨(h v a).1,by rw[(h v a).2,(h _ (hT.up v a c).1).2]⟩
 include hW
theorem Mb (h:AG n par s b) (d:s 0≠0):(s' 0=s 0∧b' 0=b 0)∨(m 0∧SL n par s b 0∧s' 0=0∧b' 0=b 0∧Qt n s' b'):=by
 rcases hW.cases hT.n1 with e|⟨_,e,_⟩|⟨g,_,f,a,c⟩|⟨_,_,e,_⟩
 ·exact .inl e
 ·exact absurd Z e.1
 ·exact .inr ⟨g,f,a,c,acq hT (Bf hT hW h) a⟩
 ·exact absurd e d
theorem Pm {j:Nat} (h:Wk n dp b j) (f:b' 0=b 0):Wk n dp b' j:=λv c d=>by
 rw[f];rcases hW.cases c with e|⟨_,g,_,e⟩|⟨_,_,_,_,e⟩|⟨_,e,_⟩
 ·rw[e.2];exact h v c d
 ·rw[e];obtain⟨a,i⟩:=hT.up v c g.1;exact h _ a (by omega)
 ·rw[e];exact h v c d
 ·rw[e,f]
theorem Yd {j v:Nat} (h:Wk n dp b j) (k:b' 0=b 0) (f:v<n) (r:dp v<=j+1):(b v≠b 0->KW par s b v)∧(b' v≠b' 0->b v≠b 0∧¬m v):=by
 have g:b v≠b 0->KW par s b v:=λd=>by
  have e:v≠0:=λe=>d (by rw[e]);obtain⟨a,o⟩:=hT.up v f e;exact⟨e,.inl λq=>d (by rw[<-q];exact h _ a (by omega))⟩
 refine⟨g,λd=> ?_⟩
 rw[k]at d;have l:KW par s b v->b (par v)=b 0:=λi=>by
  obtain⟨a,o⟩:=hT.up v f i.1;exact h _ a (by omega)
 have c:b v≠b 0:=λq=>d (by
  rcases hW.cases f with e|⟨_,i,_,e⟩|⟨_,_,_,_,e⟩|⟨_,e,_⟩
  ·rw[e.2,q]
  ·rw[e,l i]
  ·rw[e,q]
  ·rw[e,k])
 exact⟨c,λp=>d (by rw[(hW.take v f p (g c)).2,l (g c)])⟩
theorem Yh {i:Nat} (f:Wk n dp b E) (h:UD n E dp s i) (g:s 0≠0):UD n E dp s' i:=λv c j=>by
 have d:=h v c j;have e:v≠0:=λe=>g (by rw[<-e];exact d);obtain⟨a,_⟩:=hT.up v c e;rw[(hW.rest c e d (by rw[f v c (hT.le v c),f _ a (hT.le _ a)])).1,d]
theorem Yg {i v:Nat} (t:AG n par s b) (u:Wk n dp b E) (h:UD n E dp s i) (d:v<n) (y:E<dp v+(i+1)):(s v≠0->SL n par s b v)∧(s 0≠0->s' v≠0->s v≠0∧¬m v):=by
 have c:∀w,w<n->b w=b 0:=λw f=>u w f (hT.le w f);have o:s v≠0->SL n par s b v:=λj=>⟨j,λw f l e=>by
  obtain⟨_,p⟩:=hT.up w f l;rw[e]at p;exact⟨h w f (by omega),by rw[c w f,c v d]⟩⟩
 refine⟨o,λl j=> ?_⟩
 have g:s v≠0:=λq=>j (by
  have e:v≠0:=λe=>l (by rw[<-e];exact q);obtain⟨a,_⟩:=hT.up v d e;rw[(hW.rest d e q (by rw[c v d,c _ a])).1,q])
 refine⟨g,λx=>j ?_⟩
 by_cases k:KW par s b v
 ·obtain⟨a,_⟩:=hT.up v d k.1;rcases k.2 with q|q
  ·exact absurd (by rw[c v d,c _ a]) q
  ·rcases t v d k.1 with r|r
   ·exact absurd q.2 r
   ·exact absurd r.1 q.1
 ·exact(hW.fin v d x k (o g)).1
theorem aaM (I:AG n par s b) (h:CI n par s b) (G:b' 0=b 0):CI n par s' b':=λv j=>by
 rw[G]
 -- a child of a finished node stays as it is
 have y:∀w,w<n->w≠0->∀x,par w=x->b x=b 0->s w=0->b w=b 0->s' w=0∧b' w=b 0:=λw f d x e C D t=>by
  obtain⟨o,p⟩:=hW.rest f d D (by rw[e,t,C]);rw[o,p];exact⟨D,t⟩
 have k:∀w,w<n->w≠0->b (par w)≠b 0->b w≠b 0->b' w≠b 0:=λw f d C t=>by
  rcases hW.cases f with e|⟨_,_,_,e⟩|⟨_,_,_,_,e⟩|⟨_,e,_⟩
  ·rw[e.2];exact t
  ·rw[e];exact C
  ·rw[e];exact t
  ·exact absurd e d
 rcases hW.cases j with⟨l,i⟩|⟨_,u,l,i⟩|⟨_,_,F,l,i⟩|⟨_,e,J,l,i⟩
 ·refine⟨λc z w f d e=> ?_,λc=>⟨?_,λw f d e=> ?_⟩⟩
  ·rw[l]at z;rw[i]at c;obtain⟨o,p⟩:=(h v j).1 c z w f d e;exact y w f d v e c o p
  ·rw[l];rw[i]at c;exact((h v j).2 c).1
  ·rw[i]at c;exact k w f d (by rw[e];exact c) (((h v j).2 c).2 w f d e)
 ·obtain⟨H,_⟩:=hT.up v j u.1;have A:b (par v)≠b v:=u.2.resolve_right λq=>by
   rcases I v j u.1 with r|r
   ·exact r q.2
   ·exact q.1 r.1
  by_cases g:b (par v)=b 0
  ·have B:s (par v)≠0:=λq=>A (by rw[((h _ H).1 g q v j u.1 Z).2,g]);exact⟨λ_ z=>absurd (by rw[<-l];exact z) B,λc=>absurd (by rw[i];exact g) c⟩
  ·obtain⟨o,p⟩:=(h _ H).2 g;refine⟨λc=>absurd (by rw[<-i];exact c) g,λ_=>⟨by rw[l];exact o,λw f d e=> ?_⟩⟩
   have c:=p v j u.1 Z;exact k w f d (by rw[e];exact c) (((h v j).2 c).2 w f d e)
 ·have c:b v=b 0:=Decidable.not_not.1 λq=>F.1 ((h v j).2 q).1;refine⟨λ_ _ w f d e=> ?_,λq=>absurd (by rw[i];exact c) q⟩
  obtain⟨o,p⟩:=F.2 w f d e;exact y w f d v e c o (by rw[p,c])
 ·exact absurd G i
 omit hW
theorem aaL (h:CI n par s b) (o:SL n par s b 0):∀v,v<n->v≠0->s v=0∧b v=b 0:=by
 have d:∀k v,v<n->v≠0->dp v=k->s v=0∧b v=b 0:=by
  intro k
  induction k with
  |zero=>intro v c a j;have:=(hT.up v c a).2;omega
  | succ k ih =>
   intro v c a j;obtain⟨f,l⟩:=hT.up v c a;by_cases e:par v=0
   ·exact o.2 v c a e
   ·obtain⟨g,i⟩:=ih _ f e (by omega);exact(h _ f).1 i g v c a Z
 exact λv c a=>d _ v c a Z
 include hW
theorem Xe (h:Qt n s b) (k:s' 0≠0) (i:b' 0≠b 0):CI n par s' b'∧Wk n dp b' 0∧AG n par s' b':=by
 have j:∀v,v<n->v≠0->s' v=0∧b' v=b 0:=λv c d=>by
  obtain⟨a,_⟩:=hT.up v c d;obtain⟨f,g⟩:=hW.rest c d (h v c).1 (by rw[(h v c).2,(h _ a).2]);rw[f,g];exact h v c
 refine⟨λv c=> ?_,λv c o=> ?_,Bf hT hW (h.ag hT)⟩
 ·by_cases e:v=0
  ·subst e;exact⟨λ_ q=>absurd q k,λq=>absurd Z q⟩
  ·obtain⟨f,g⟩:=j v c e;refine⟨λq=>absurd (by rw[<-q,g]) i,λ_=>⟨f,λw l d _ q=>i ?_⟩⟩
   rw[<-q,(j w l d).2]
 ·by_cases e:v=0
  ·rw[e]
  ·have:=(hT.up v c e).2;omega
theorem abE (h:Qt n s b) (f:s' 0=s 0) (d:b' 0=b 0):Qt n s' b':=λv c=>by
 by_cases e:v=0
 ·subst e;exact⟨by rw[f];exact(h 0 c).1,rfl⟩
 ·obtain⟨a,_⟩:=hT.up v c e;obtain⟨g,i⟩:=hW.rest c e (h v c).1 (by rw[(h v c).2,(h _ a).2]);rw[g,i,d];exact h v c
end
end Go.Proofs.YtlkhndebimcbbaaGreatDoor
namespace Go.Proofs.YtlkhndebimcbbaaGreatDoor
open Go Go.Sx
structure TP (g:GR) (d:aQ) (par fp:Nat->Nat):Prop where
 at_:∀v,v<g.2.length->v≠0->fp v<(row g v).length∧pG g d v (fp v:Int)∧(fL (row g v) (fp v)).1=(par v:Int)∧par v<g.2.length∧D d (par v)=D d v - 1
def Ge (g:GR) (d:aQ) (c:bF):Prop:=∀v,v<g.2.length->EB c v=D d v∧pG g d v (GC c v)
def sC (c:bF) (v:Nat):Int:=oL c v 2
def bC (c:bF) (v:Nat):Int:=oL c v 3
section
variable {g:GR} {d:List Int} {c:List (List Int)} (hV:VG g) (hD:oU g 0 d) (h0:∀v,v<g.2.length->0<=D d v)
 include hV
theorem B_ {v i u:Nat} (f:v<g.2.length) (a:i<(row g v).length) (b:(fL (row g v) i).1=(u:Int)):AN (row g v) (u:Int)=(i:Int):=
 Ih i a b λk e=>by
  have:=((hV.node v f).links i a).2.2.2 k e;rwa[b]at this
 include hD h0
theorem ahi:∃x y:Nat->Nat,TP g d x y:=by
 have n:∀v,∃u f:Nat,v<g.2.length->v≠0->f<(row g v).length∧pG g d v (f:Int)∧(fL (row g v) f).1=(u:Int)∧u<g.2.length∧D d u=D d v - 1:=λv=>by
  by_cases j:v<g.2.length∧v≠0
  ·obtain⟨j,l⟩:=j;have o:0<D d v:=by
    have:=h0 v j;have A:D d v≠0:=λe=>l ((hD.zero v j).1 e);omega
   obtain⟨G,C,⟨E,t,r⟩,s⟩:=hD.near v j o;obtain⟨m,F,h,w⟩:=Gu (p:=λi=>i<(row g v).length∧at' d (fL (row g v) i).1=D d v - 1) E ⟨t,by rw[r];exact s⟩;obtain⟨u,B,q,_⟩:=hV.port j h.1;refine⟨u,m,λ_ _=>⟨h.1,.inl ⟨m,h.1,rfl,h.2,λk z e=>w k z ⟨by omega,e⟩⟩,q,B,?_⟩⟩
   have:=h.2;rw[q]at this;exact this
  ·exact⟨0,0,λa b=>absurd ⟨a,b⟩ j⟩
 refine⟨λv=>(n v).choose,λv=>(n v).choose_spec.choose,⟨λv j l=>(n v).choose_spec.choose_spec j l⟩⟩
 omit hV hD h0 in
theorem Mi {k:Nat} (h:Zy g d k c) (b:∀v,v<g.2.length->D d v<(k:Int)):Ge g d c:=λv a=>h.near v a (b v a)
theorem NQ (h:Ge g d c) {v:Nat} (e:v<g.2.length):FI g c v:=by
 obtain⟨a,b⟩:=ahe hV hD h0 (λu f=>(h u f).1) e;exact⟨by rw[a];exact(h v e).1,(h v e).2.uniq b⟩
 omit h0 in
theorem Vu (h0:∀v,v<g.2.length->0<=D d v) (h:∀v,v<g.2.length->0<=EB c v) (i:∀v,v<g.2.length->FI g c v):Ge g d c:=by
  have f:=hV.n24;have a:∀k:Nat,Zy g d k c:=by
   intro k
   induction k with
   |zero=>exact HP h0 h
   |succ k e=>exact Qi e λv b=>Um hV hD h0 e b (i v b.1)
  exact Mi (a (g.2.length+1)) λv j=>by have:=hD.hi v j;omega
 omit h0 in
theorem PI (h0:∀v,v<g.2.length->0<=D d v) (h:Ge g d c):GC c 0 = -1:=by
  have k:=hV.n1;rcases(h 0 (by omega)).2 with⟨i,e,_,a,_⟩|⟨a,_⟩
  ·obtain⟨u,f,b,_⟩:=hV.port (v:=0) (by omega) e;rw[b]at a;have j:D d u=D d 0 - 1:=a;have:=(hD.zero 0 (by omega)).2 Z;have:=h0 u f;omega
  ·exact a
variable {par fp:Nat->Nat} (hP:TP g d par fp)
 include hP
theorem YI {E:Nat} (h:∀v,v<g.2.length->D d v<=(E:Int)):RT g.2.length E par (λv=>(D d v).toNat):=by
 have i:=hV.n1;refine⟨by omega,?_,λv e f=> ?_,λv e=> ?_⟩
 ·rw[(hD.zero 0 (by omega)).2 Z];rfl
 ·obtain⟨_,_,_,a,b⟩:=hP.at_ v e f;have:=h0 _ a;exact⟨a,by rw[b];omega⟩
 ·have:=h v e;omega
 omit hV hD h0 in
theorem HG (h:Ge g d c) {v:Nat} (b:v<g.2.length) (a:v≠0):GC c v=(fp v:Int):=(h v b).2.uniq (hP.at_ v b a).2.1
theorem Nn (h:Ge g d c) {v i u:Nat} (r:v<g.2.length) (t:i<(row g v).length) (n:(fL (row g v) i).1=(u:Int)):NV g c v i 1=Dg g v i↔u≠0∧par u=v:=by
 obtain⟨w,j,p,l⟩:=hV.port r t;obtain rfl:u=w:=by omega
 obtain⟨k,o,m⟩:=hV.back r l;have s:Dg g v i=(k:Int):=by
  unfold Dg;rw[n,Int.toNat_natCast];exact B_ hV j o m
 rw[zW n,s,show oL c u 1=GC c u from rfl];constructor
 ·intro e;have f:u≠0:=λq=>by
   subst q;rw[PI hV hD h0 h]at e;omega
  rw[HG hP h j f]at e;have:fp u=k:=by omega
  subst this;have:=(hP.at_ u j f).2.2.1;exact⟨f,by omega⟩
 ·rintro⟨f,e⟩;rw[HG hP h j f];obtain⟨a,_,b,_⟩:=hP.at_ u j f;rw[e]at b;have x:=B_ hV j a b;have y:=B_ hV j o m;omega
 omit hV hD h0 in
theorem YX (h:Ge g d c) {v:Nat} (f:v<g.2.length):(v≠0∧∃i:Nat,i<(row g v).length∧(i:Int)=oL c v 1∧(NV g c v i 3≠oL c v 3∨(oL c v 2≠0∧NV g c v i 2=0)))↔KW par (sC c) (bC c) v:=by
  constructor
  ·rintro⟨e,i,k,l,j⟩;have:oL c v 1=(fp v:Int):=HG hP h f e;obtain rfl:i=fp v:=by omega
   have b:=(hP.at_ v f e).2.2.1;rw[zW b,zW b]at j;exact⟨e,j⟩
  ·rintro⟨e,j⟩;obtain⟨a,_,b,_⟩:=hP.at_ v f e;refine⟨e,fp v,a,(HG hP h f e).symm,?_⟩
   rw[zW b,zW b];exact j
theorem aaY (h:Ge g d c) {v:Nat} (o:v<g.2.length):(oL c v 2≠0∧∀i:Nat,i<(row g v).length->NV g c v i 1≠Dg g v i∨(NV g c v i 2=0∧NV g c v i 3=oL c v 3))↔SL g.2.length par (sC c) (bC c) v:=by
 constructor
 ·rintro⟨n,p⟩;refine⟨n,λw r m e=> ?_⟩
  obtain⟨a,_,f,_⟩:=hP.at_ w r m;rw[e]at f;obtain⟨i,l,j⟩:=hV.back r ⟨fp w,a,f⟩;have s:=(Nn hV hD h0 hP h o l j).2 ⟨m,e⟩;have:=(p i l).resolve_left λq=>q s;rw[zW j,zW j]at this;exact this
 ·rintro⟨n,p⟩;refine⟨n,λi l=> ?_⟩
  obtain⟨u,t,k,_⟩:=hV.port o l;by_cases q:NV g c v i 1=Dg g v i
  ·obtain⟨a,b⟩:=(Nn hV hD h0 hP h o l k).1 q;refine .inr ?_;rw[zW k,zW k];exact p u t a b
  ·exact .inl q
 omit hV hD h0 in
theorem PZ (h:Ge g d c) {v:Nat} (q:v<g.2.length) (l:v≠0) (p:sQ) (x:Nat) (s:oL c (par v) x=0∨oL c (par v) x=1):fU (aT p g) c v (.ag 21 (.bi 41 Pd (.lf 12 x)))=oL c (par v) x:=by
  obtain⟨a,_,f,_⟩:=hP.at_ v q l;have r:oL c v 1=(fp v:Int):=HG hP h q l;have j:∀b:Bool,(b=true↔oL c (par v) x≠0)->AE b=oL c (par v) x:=λb j=>by
   rcases s with e|e
   ·rw[e]at j ⊢;have:b=false:=by cases b with|true=>exact absurd Z (j.1 Z)|false=>rfl
    rw[this];rfl
   ·rw[e]at j ⊢;rw[j.2 (by decide)];rfl
  have m:fU (aT p g) c v (.ag 21 (.bi 41 Pd (.lf 12 x)))≠0↔oL c (par v) x≠0:=by
   unfold fU;rw[OW];constructor
   ·rintro⟨i,t,k⟩;unfold Pd at k;rw[Cs,JI]at k;have e:(i:Int)=oL c v 1:=k.1;obtain rfl:i=fp v:=by omega
    have o:NV g c v (fp v) x≠0:=k.2;rw[zW f]at o;exact o
   ·intro k;refine⟨fp v,a,?_⟩
    unfold Pd;rw[Cs,JI];refine⟨r.symm,?_⟩
    show NV g c v (fp v) x≠0;rw[zW f];exact k
  have n:∃b:Bool,fU (aT p g) c v (.ag 21 (.bi 41 Pd (.lf 12 x)))=AE b:=⟨_,rfl⟩
  obtain⟨b,e⟩:=n;rw[e];rw[e,tX]at m;exact j b m
end
def RW:List RL:=[(agI,[(2,.lf 2 0),(3,.un 19 (.lf 5 3)),(4,.lf 1 0),(5,.lf 3 0)]),
 (XN,[(2,.ag 21 (.bi 41 Pd (.lf 12 2))),(3,.ag 21 (.bi 41 Pd (.lf 12 3))),(4,.lf 1 0),(5,.lf 3 0)]),(XP,[(2,.lf 3 0)]),(agJ,[(5,.lf 2 0)])]
theorem ajS {l:aQ} (h:l.length=6):l=[at' l 0,at' l 1,at' l 2,at' l 3,at' l 4,at' l 5]:=by
 match l,h with
 | [a,b,c,d,e,f],_=>rfl
theorem DN {k a b x:Int} (h:a<=x∧x<=b):mM k (a,b) x=x:=BP h.1 h.2
def aee:E:= .bi 41 (.lf 10 0) (.un 19 (.lf 5 2))
def exS:E:= .ag 26 (.ite (.bi 35 (.lf 12 1) (.lf 17 0)) (.lf 12 5) (.lf 1 0))
def exA:E:= .bi 33 (.lf 5 4) exS
def KQ:List Dd:=[(ByteArray.mk #[115],2,0,0,0,0),(ByteArray.mk #[98],2,0,0,0,0),(ByteArray.mk #[120],1,0,15,0,0),(ByteArray.mk #[97],1,0,0,15,0)]
def fS:List Dd:=sO++KQ
def RX:List RL:=[(aee,[(2,.lf 2 0),(3,.un 19 (.lf 5 3))]),(XN,[(2,.ag 21 (.bi 41 Pd (.lf 12 2))),(3,.ag 21 (.bi 41 Pd (.lf 12 3)))]),(XP,[(2,.lf 3 0),(5,exA)])]
def RN:List RL:=RB++RX
theorem abK:yH 6 RN=true:=by decide +kernel
theorem afZ:∀r∈RX,∀s∈r.2,2<=s.1:=by decide
section
variable {p:sQ} {g:GR} {c:List (List Int)} {v t:Nat}
theorem Sk (a:Du g c fS) (b:v<g.2.length):(oL c v 2=0∨oL c v 2=1)∧(oL c v 3=0∨oL c v 3=1)∧(0<=oL c v 4∧oL c v 4<=15)∧(0<=oL c v 5∧oL c v 5<=15*(g.2.length:Int)):=by
 have i:=a.ok v b 2 (by decide);have j:=a.ok v b 3 (by decide);have k:=a.ok v b 4 (by decide);have l:=a.ok v b 5 (by decide);have m:0<=oL c v 2∧oL c v 2<=1:=i;have n:0<=oL c v 3∧oL c v 3<=1:=j;have d:0<=oL c v 4∧oL c v 4<=hi g (at' fS ((4:Nat):Int)) v:=k;have f:hi g (at' fS ((4:Nat):Int)) v=15:=by
  show(15:Int)+0*(g.2.length:Int)+0*jX g g.1.length=15;omega
 rw[f]at d;have e:0<=oL c v 5∧oL c v 5<=hi g (at' fS ((5:Nat):Int)) v:=l;have h:hi g (at' fS ((5:Nat):Int)) v=15*(g.2.length:Int):=by
  show(0:Int)+15*(g.2.length:Int)+0*jX g g.1.length=_;omega
 rw[h]at e;omega
theorem agv (g:GR) (v:Nat):pP g fS v 2=(0,1)∧pP g fS v 3=(0,1)∧pP g fS v 5=(0,15*(g.2.length:Int)):=by
 refine⟨rfl,rfl,?_⟩
 show((0:Int),(0:Int)+15*(g.2.length:Int)+0*jX g g.1.length)=_;congr 1;omega
theorem agX (n:Du g c fS) (o:v<g.2.length):
  lY (aT p g) fS RX c v 0=[oL c v 0,oL c v 1,1,AE (decide (oL c v 3=0)),oL c v 4,oL c v 5]∧
  (∀s b,fU (aT p g) c v (.ag 21 (.bi 41 Pd (.lf 12 2)))=s->fU (aT p g) c v (.ag 21 (.bi 41 Pd (.lf 12 3)))=b->0<=s∧s<=1->0<=b∧b<=1->lY (aT p g) fS RX c v 1=[oL c v 0,oL c v 1,s,b,oL c v 4,oL c v 5])∧
  lY (aT p g) fS RX c v 2=[oL c v 0,oL c v 1,0,oL c v 3,oL c v 4,mM 1 (0,15*(g.2.length:Int)) (fU (aT p g) c v exA)]:=by
 have a:(at' c (v:Int)).length=6:=n.row v o;have e:=ajS a;obtain⟨d,f,h⟩:=agv g v;have q:lY (aT p g) fS RX c v 0=((at' c (v:Int)).set 2 (mM 2 (pP g fS v 2) 1)).set 3 (mM 2 (pP g fS v 3) (AE (decide (oL c v 3=0)))):=rfl;have r:lY (aT p g) fS RX c v 1=((at' c (v:Int)).set 2 (mM 2 (pP g fS v 2) (fU (aT p g) c v (.ag 21 (.bi 41 Pd (.lf 12 2)))))).set 3 (mM 2 (pP g fS v 3) (fU (aT p g) c v (.ag 21 (.bi 41 Pd (.lf 12 3))))):=rfl;have u:lY (aT p g) fS RX c v 2=((at' c (v:Int)).set 2 (mM 2 (pP g fS v 2) 0)).set 5 (mM 1 (pP g fS v 5) (fU (aT p g) c v exA)):=rfl;have m:∀b:Bool,0<=AE b∧AE b<=1:=λb=>by cases b<;>decide
 refine⟨?_,λs b i j k l=> ?_,?_⟩
 ·rw[q,d,f,DN (by omega),DN (m _),e];rfl
 ·rw[r,d,f,i,j,DN k,DN l,e];rfl
 ·rw[u,d,h,DN (by omega)];generalize mM 1 (0,15*(g.2.length:Int)) (fU (aT p g) c v exA)=z;rw[e];rfl
theorem XM:fU (aT p g) c v aee≠0↔v=0∧oL c v 2=0:=by
 unfold fU aee;rw[Cs,IN,aeG];exact Iff.rfl
variable {d:List Int} (hV:VG g) (hD:oU g 0 d) (h0:∀v,v<g.2.length->0<=D d v) {par fp:Nat->Nat} (hP:TP g d par fp)
 include hV hD h0 hP
theorem enN (w:Ge g d c) (m:v<g.2.length):(0<=dQ (aT p g) RX c v↔(v=0∧oL c v 2=0)∨KW par (sC c) (bC c) v∨SL g.2.length par (sC c) (bC c) v)∧
  ((v=0∧oL c v 2=0)->dQ (aT p g) RX c v=0)∧(KW par (sC c) (bC c) v->dQ (aT p g) RX c v=1)∧(¬KW par (sC c) (bC c) v->SL g.2.length par (sC c) (bC c) v->dQ (aT p g) RX c v=2):=by
 have b:=XM (p:=p) (g:=g) (c:=c) (v:=v);have f:=(XO (p:=p) (g:=g) (c:=c) (v:=v)).trans (YX hP w m);have u:=(XQ (p:=p) (g:=g) (c:=c) m).trans (aaY hV hD h0 hP w m);have n:∀{e:E},¬fU (aT p g) c v e≠0->fU (aT p g) c v e=0:=λh=>Decidable.not_not.1 h;have o:(v=0∧oL c v 2=0)->dQ (aT p g) RX c v=0:=λh=>Eb (i:=0) (by decide) (b.2 h) λj l=>by omega
 have r:KW par (sC c) (bC c) v->dQ (aT p g) RX c v=1:=λh=>Eb (i:=1) (by decide) (f.2 h) λj l=>by
  obtain rfl:j=0:=by omega
  exact n λq=>h.1 (b.1 q).1
 have s:¬KW par (sC c) (bC c) v->SL g.2.length par (sC c) (bC c) v->dQ (aT p g) RX c v=2:=λa h=>Eb (i:=2) (by decide) (u.2 h) λj l=>by
  match j,l with
  |0,_=>exact n λq=>h.1 (b.1 q).2
  |1,_=>exact n λq=>a (f.1 q)
 refine⟨⟨λh=> ?_,λh=> ?_⟩,o,r,s⟩
 ·obtain⟨i,x,k,a⟩:=(Ec (aT p g) RX c v).resolve_left (λe=>by omega);have k:i<3:=k
  match i,k with
  |0,_=>exact .inl (b.1 a)
  |1,_=>exact .inr (.inl (f.1 a))
  |2,_=>exact .inr (.inr (u.1 a))
 ·by_cases a:KW par (sC c) (bC c) v
  ·rw[r a];decide
  ·rcases h with h|h|h
   ·rw[o h];decide
   ·exact absurd h a
   ·rw[s a h];decide
end
theorem Ui:∀(l:List Int) (a b:Int),0<=a->b<=1000000->(∀x∈l,0<=x)->a+l.sum<=b->l.foldl (λa x=>wI .i64 (a+x)) a=a+l.sum
 | [],a,b,_,_,_,_=>by simp
 | x :: l, a, b, ha, hb, c, hs => by
  have f:=c x List.mem_cons_self;have e:0<=l.sum:=by
   have:∀l:List Int,(∀x∈l,0<=x)->0<=l.sum:=λl=>by
    induction l with
    |nil=>intro _;simp
    |cons y l g=>intro h;have:=g λx c=>h x (List.mem_cons_of_mem _ c);have:=h y List.mem_cons_self;rw[List.sum_cons];omega
   exact this l λy d=>c y (List.mem_cons_of_mem _ d)
  rw[List.sum_cons]at hs ⊢;rw[List.foldl_cons,wr (by omega) (by omega),Ui l (a+x) b (by omega) hb (λy d=>c y (List.mem_cons_of_mem _ d)) (by omega)];omega
def Is (g:GR) (a:Nat->Nat) (f:Nat->Int) (v:Nat):Int:=((List.range (row g v).length).map λi=>if(fL (row g v) i).1.toNat≠0∧a (fL (row g v) i).1.toNat=v then f (fL (row g v) i).1.toNat else 0).sum
section
variable {p:sQ} {g:GR} {c:List (List Int)} {v:Nat} {d:List Int} (hV:VG g) (hD:oU g 0 d) (h0:∀v,v<g.2.length->0<=D d v) {par fp:Nat->Nat} (hP:TP g d par fp)
 include hV hD h0 hP
theorem aec (m:Du g c fS) (w:Ge g d c) (j:v<g.2.length) (z:oL c v 4+Is g par (λu=>oL c u 5) v<=15*(g.2.length:Int)):mM 1 (0,15*(g.2.length:Int)) (fU (aT p g) c v exA)=oL c v 4+Is g par (λu=>oL c u 5) v:=by
 have t:=hV.n24;let L:List Int:=(List.range (row g v).length).map λi=>if(fL (row g v) i).1.toNat≠0∧par (fL (row g v) i).1.toNat=v then oL c (fL (row g v) i).1.toNat 5 else 0;have k:L.sum=Is g par (λu=>oL c u 5) v:=rfl;have e:∀x∈L,0<=x:=λx e=>by
  obtain⟨i,b,rfl⟩:=List.mem_map.1 e;obtain⟨u,s,a,_⟩:=hV.port j (List.mem_range.1 b);rw[a,Int.toNat_natCast];split
  ·exact(Sk m s).2.2.2.1
  ·omega
 have G:=(Sk m j).2.2.1;have C:fU (aT p g) c v exS=max (-1073741824) (min (P_ L) 1073741824):=by
  show max (-1073741824) (min (P_ ((List.range (row g v).length).map λi=>(E.ite (.bi 35 (.lf 12 1) (.lf 17 0)) (.lf 12 5) (.lf 1 0)).den (TK (aT p g,c,(v:Int),[])) (row g v).length ((i:Nat):Int))) 1073741824)=_;congr 3;refine List.map_congr_left λi b=> ?_;have b:=List.mem_range.1 b;obtain⟨u,s,a,_⟩:=hV.port j b;show(if(E.bi 35 (.lf 12 1) (.lf 17 0)).den (TK (aT p g,c,(v:Int),[])) (row g v).length ((i:Nat):Int)≠0 then NV g c v i 5 else 0)=_;have o:=Nn hV hD h0 hP w j b a;have n:(E.bi 35 (.lf 12 1) (.lf 17 0)).den (TK (aT p g,c,(v:Int),[])) (row g v).length ((i:Nat):Int)≠0↔NV g c v i 1=Dg g v i:=by
   rw[JI,Rf j b];exact Iff.rfl
  rw[a,Int.toNat_natCast];by_cases q:u≠0∧par u=v
  ·rw[if_pos q,if_pos (n.2 (o.2 q)),zW a]
  ·rw[if_neg q,if_neg λr=>q (o.1 (n.1 r))]
 have B:0<=L.sum:=by
  have:∀l:List Int,(∀x∈l,0<=x)->0<=l.sum:=λl=>by
   induction l with
   |nil=>intro _;simp
   |cons y l F=>intro h;have:=F λx e=>h x (List.mem_cons_of_mem _ e);have:=h y List.mem_cons_self;rw[List.sum_cons];omega
  exact this L e
 have f:P_ L=L.sum:=by
  unfold P_;rw[Ui L 0 1000000 (by omega) (by omega) e (by rw[k]at *;omega)];omega
 have A:fU (aT p g) c v exA=oL c v 4+L.sum:=by
  show Ue (wI .i64 (oL c v 4+fU (aT p g) c v exS))=_;rw[C,f,wr (by omega) (by omega)];unfold Ue;omega
 rw[A,k];exact BP (by rw[<-k];omega) z
end
structure Stg {I C:Type} (idx:I->Nat) (last:Nat) (Ph:I->C->Prop) (T:I->C->Nat->Prop) (en:C->Nat) (St:C->Nat->C->Prop):Prop where
 le:∀i c,Ph i c->idx i<=last
 adv:∀i c,Ph i c->idx i<last->(∀v,¬T i c v)->∃i',idx i<idx i'∧Ph i' c
 en:∀i c v,Ph i c->T i c v->(en c).testBit v=true
 step:∀i c t c',Ph i c->St c t c'->∃i',Ph i' c'∧(idx i<idx i'∨(i'=i∧∀v,T i c' v->T i c v∧t.testBit v=false))
def AB {I C:Type} (a:I->Nat) (b:Nat) (d:I->C->Prop) (T:I->C->Nat->Prop) (R e:Nat) (c:C):Prop:=∃i,d i c∧(a i=b∨R<a i∨(R=a i∧∀v,T i c v->e.testBit v=true))
section
variable {I C:Type} {idx:I->Nat} {last:Nat} {Ph:I->C->Prop} {T:I->C->Nat->Prop} {en:C->Nat} {St:C->Nat->C->Prop} {c c':C} {R pe pe' t:Nat}
theorem AB.start (h:Stg idx last Ph T en St) {i:I} (a:Ph i c):AB idx last Ph T 0 (en c) c:=by
 refine⟨i,a,?_⟩
 rcases Nat.eq_zero_or_pos (idx i)with e|e
 ·exact .inr (.inr ⟨e.symm,λv b=>h.en i c v a b⟩)
 ·exact .inr (.inl e)
theorem AB.next (h:Stg idx last Ph T en St) (n:AB idx last Ph T R pe c) (q:St c t c') (g:∀v,pe'.testBit v=(pe.testBit v && !t.testBit v&&(en c').testBit v)):AB idx last Ph T R pe' c':=by
 obtain⟨i,l,j⟩:=n;obtain⟨r,d,f⟩:=h.step i c t c' l q;refine⟨r,d,?_⟩
 have p:=h.le _ _ d;have k:=h.le _ _ l;rcases f with f|⟨rfl,f⟩
 ·rcases j with e|e|⟨e,_⟩
  ·omega
  ·exact .inr (.inl (by omega))
  ·exact .inr (.inl (by omega))
 ·rcases j with e|e|⟨e,o⟩
  ·exact .inl e
  ·exact .inr (.inl e)
  ·refine .inr (.inr ⟨e,λv m=> ?_⟩);obtain⟨a,b⟩:=f v m;rw[g,o v a,b,h.en _ _ v d m];rfl
theorem AB.round (h:Stg idx last Ph T en St) (g:AB idx last Ph T R 0 c):AB idx last Ph T (R+1) (en c) c:=by
 obtain⟨i,a,k⟩:=g;rcases k with e|e|⟨e,j⟩
 ·exact⟨i,a,.inl e⟩
 ·refine⟨i,a,?_⟩
  by_cases q:R+1=idx i
  ·exact .inr (.inr ⟨q,λv b=>h.en i c v a b⟩)
  ·exact .inr (.inl (by omega))
 ·by_cases q:idx i=last
  ·exact⟨i,a,.inl q⟩
  ·have l:=h.le _ _ a;obtain⟨d,m,f⟩:=h.adv i c a (by omega) λv b=>by have:=j v b;rw[Nat.zero_testBit]at this;cases this
   refine⟨d,f,?_⟩
   by_cases q:R+1=idx d
   ·exact .inr (.inr ⟨q,λv b=>h.en d c v f b⟩)
   ·exact .inr (.inl (by omega))
theorem AB.done (h:Stg idx last Ph T en St) (b:AB idx last Ph T R pe c) (d:last<=R):∃i,Ph i c∧idx i=last:=by
 obtain⟨i,a,e⟩:=b;have:=h.le _ _ a;exact⟨i,a,by omega⟩
theorem Jq (h:Stg idx last Ph T en St) (s:AB idx last Ph T R pe c) (w:St c t c') {k:Nat} {f b:CT} {B:Nat} (u:Da k f R B pe) (v:k<900) (x:t<16777216) (r:t≠0) (n:en c'<16777216) {m:Int} (g:fZ 1000 f (t:Int) (en c':Int)=some (b,m)):
  ∃l q pe',Da (k+1) b l q pe'∧AB idx last Ph T l pe' c'∧(t=pe->l=R+1∧pe'=en c'):=by
 obtain⟨pe',j,d⟩:=u.add v x r n g;have p:=AB.next h s w j;rcases d with⟨o,a⟩|⟨o,a⟩
 ·subst o;exact⟨R+1,R+1,_,a,AB.round h p,λ_=>⟨rfl,rfl⟩⟩
 ·refine⟨R,R+1,pe',a,p,λe=>absurd (Nat.eq_of_testBit_eq λi=> ?_) o⟩
  rw[j,<-e,Nat.zero_testBit];cases t.testBit i<;>rfl
end
end Go.Proofs.YtlkhndebimcbbaaGreatDoor
namespace Go.Proofs.YtlkhndebimcbbaaGreatDoor
open Go.Sx
def qU  (a:Bool):Option (Bool):=
 some (a)
def wT (U:Nat) (a:Int):Option (Bool):=
 if(1:Int)<=a then(qU  (decide (a<=(4:Int))))else(qU  (false))
theorem adu:aX Tryz.prog 75:=Tryz.call75
theorem KA (U:Nat) {b:Int} (r:Bool) (h:wT U b=some r):
  aY Tryz.prog 75 #[vI (b)] [] (λx:Unit=>vB (r)) (λx l=>l) (λ_ l=>l):=by
 refine aY.of Tryz.func75 Z Tryz.ntmps75 Z λc=>?_;refine aV<|aE Z<|aM<|aK<|dO (λa=>qU  a=some r) (λa d=>[(2,vB (a))]) (λa d=>[]) ?_ ?_
 ·refine aR<|aA Z<|aB (De Z Z) Z<|aA Z ?_;refine Dv h Z (λ_ h=>?_) λ_ h=>?_
  ·refine cS Z<|aP Z (BN Z Z) Z<|dW Z<|aE Z<|aM ?_;exact iB (decide (b<=(4:Int))) () h SF Z
  refine aI Z<|aI Z<|fO Z<|aE Z<|aM ?_;exact iB (false) () h SF Z
 intro a d h;unfold qU at h;refine aW ?_;cases h;exact lA Z
def zG (U:Nat) (a:BF) (b:cE) (d:Int) (e:bF) (f:Int):Option (Int):=
 Option.bind (sG U ((a.1,a.2.1,a.2.2)) ((b.1,b.2)) e) λc=>(if c≠(0:Int)then(some (c))else(Option.bind (wT U d) λg=>(if(!g)=true then(some (12:Int))else(if(4096:Int)<f then(some (3:Int))else(some (0:Int))))))
theorem adl:aX Tryz.prog 46:=Tryz.call46
theorem Qf (U:Nat) {a:BF} {g:cE} {j:Int} {k:bF} {m:Int} (b:Value)  (d:Value)  (e:Value)  (f:Value)  (n:k_)  (i:Value)  (o:rB) (r:Int) (h:zG U a g j k m=some r):
  aY Tryz.prog 46 #[Value.agg #[vS (a.1),b,d],Value.agg #[e,f],vI (j),i,vI (m)] [Sl aU b a.2.1,Sl aL d a.2.2,PF (Value.agg #[vS a.1,b,d]),Sl bO e g.1,S2 bB f n g.2,S2 bO i o k] (λx:Unit=>vI (r)) (λx l=>l) (λ_ l=>l):=by
 refine aY.of Tryz.func46 Z Tryz.ntmps46 Z λc=>?_;refine aV<|aH (aN.box (cs:=[vS (a.1),b,d]) Z Z) Z λu=>aH (aN.box (cs:=[e,f]) Z Z) Z λv=>aE Z<|aM<|aK<|aV<|eK 1 Z<|eK 0 Z<|aA Z<|fH h λp s h=>aH (aN.callQ adp (KD U b d e f n i o p s) Z (oS [0,1,2,3,4,5] Z)) Z λw=>aE Z<|aM<|aV<|aA Z<|q_ Z<|aM ?_;refine eV h Z (λh=>?_) λh=>?_
 ·refine aV<|aA Z<|aE Z<|aM<|aW<|aJ ?_;cases h;exact tU Z
 refine cK<|aK<|aV<|aA Z<|fH h λq t h=>aH (aN.callQ adu (KA U  q t) Z .nil) Z λy=>aB (oQ Z) Z<|aM ?_;refine AZ h Z (λ_ h=>?_) λ_ h=>?_
 ·refine aV<|aE Z<|aM<|aW<|aJ ?_;cases h;exact tU Z
 refine cK<|aK<|aV<|aA Z<|aB (zC Z Z) Z<|aM ?_;refine eV h Z (λh=>?_) λh=>?_
 ·refine aV<|aE Z<|aM<|aW<|aJ ?_;cases h;exact tU Z
 refine cK<|aV<|aE Z<|aM<|aW ?_;cases h;exact tU Z
def uT (U:Nat) (a:Int):Option ((Int×Int×Int×Int×Int)):=
 some (((0:Int),(0:Int),(0:Int),(0:Int),(dR .u32 a (16777215:Int))))
theorem aaf:aX Tryz.prog 109:=Tryz.call109
theorem Iv (U:Nat) {a:Int} (r:(Int×Int×Int×Int×Int)) (h:uT U a=some r):
  aY Tryz.prog 109 #[vU (a)] [] (λx:Unit=>Value.agg #[vI (r.1),vI (r.2.1),vI (r.2.2.1),vI (r.2.2.2.1),vU (r.2.2.2.2)]) (λx l=>l) (λ_ l=>l):=by
 refine aY.of Tryz.func109 Z Tryz.ntmps109 Z λc=>?_;unfold uT at h;refine aV<|aH (aN.alloc (cs:=vD2) Z Z) Z λb=>aM<|aV<|aA Z<|Ab Z ?_;refine aB (Wx (r:=Value.agg #[vI (0:Int),vI (0:Int),vI (0:Int),vI (0:Int),vU (dR .u32 a (16777215:Int))]) Z (by intro w;simp[Instr.build,Instr.fill,fC,eB,dH,fD,fE,eD,gR])) Z ?_;refine bS 0 (vs:=[vI (0:Int),vI (0:Int),vI (0:Int),vI (0:Int),vU (dR .u32 a (16777215:Int))]) Z Z Z Z Z Z<|aM<|aW ?_;cases h;exact gH () Z Z (RV.cell 0 Z Z Z Z) .nil aG.nil
end Go.Proofs.YtlkhndebimcbbaaGreatDoor
namespace Go.Proofs.YtlkhndebimcbbaaGreatDoor
open Go Go.Sx
def eX (g:GR):Nat:=2^g.2.length - 1
theorem ZX {g:GR} (b:VG g):eX g<4294967296:=by
 have a:=b.n24;have:(2:Nat)^g.2.length<=2^24:=Nat.pow_le_pow_right (by omega) a;unfold eX;omega
def aC (c:bF) (v:Nat):Int:=oL c v 5
def xC (c:bF) (v:Nat):Int:=oL c v 4
structure DF (g:GR) (par:Nat->Nat) (x S:Nat->Int):Prop where
 eq:∀v,v<g.2.length->S v=x v+Is g par S v
 bd:∀v,v<g.2.length->S v<=15*(g.2.length:Int)
def MvN (n:Nat) (a:Nat->Nat) (S:Nat->Int) (c b:bF) (v:Nat):Prop:=
 (v=0∧sC c 0=0∧sC b v≠0∧bC b v≠bC c v∧aC b v=aC c v)∨
 (KW a (sC c) (bC c) v∧sC b v=sC c (a v)∧bC b v=bC c (a v)∧aC b v=aC c v)∨
 (¬KW a (sC c) (bC c) v∧SL n a (sC c) (bC c) v∧sC b v=0∧bC b v=bC c v∧((∀w,w<n->w≠0->a w=v->aC c w=S w)->aC b v=S v))
structure StN (n:Nat) (par:Nat->Nat) (S:Nat->Int) (c:bF) (t:Nat) (c':bF):Prop where
 stay:∀v,v<n->t.testBit v=false->sC c' v=sC c v∧bC c' v=bC c v∧aC c' v=aC c v
 move:∀v,v<n->t.testBit v=true->MvN n par S c c' v
def CN (n:Nat) (a:Nat->Nat) (S:Nat->Int) (c:bF):Prop:=CI n a (sC c) (bC c)∧∀v,v<n->bC c v=bC c 0->sC c v=0->aC c v=S v
section
variable {n E:Nat} {par dp:Nat->Nat} {S:Nat->Int} {c c':List (List Int)} {t:Nat}
theorem StN.ws (h:StN n par S c t c'):WS n par (λv=>t.testBit v=true) (sC c) (bC c) (sC c') (bC c'):=by
 refine⟨λv f d=> ?_,λv f d g=> ?_,λv f d g i=> ?_,λv f d g i=> ?_⟩
 ·obtain⟨a,b,_⟩:=h.stay v f (by simpa using d);exact⟨a,b⟩
 ·rcases h.move v f d with q|q|q
  ·exact absurd q.1 g.1
  ·exact⟨q.2.1,q.2.2.1⟩
  ·exact absurd g q.1
 ·rcases h.move v f d with q|q|q
  ·have:=q.2.1;rw[<-q.1]at this;exact absurd this i.1
  ·exact absurd q.1 g
  ·exact⟨q.2.2.1,q.2.2.2.1⟩
 ·rcases h.move v f d with q|q|q
  ·obtain⟨rfl,a,b,e,_⟩:=q;exact .inr ⟨rfl,a,b,e⟩
  ·exact absurd q.1 g
  ·exact absurd q.2.1 i
theorem StN.right (h:StN n par S c t c') (b:∀v,v<n->aC c v=S v):∀v,v<n->aC c' v=S v:=λv a=>by
 cases d:t.testBit v with
 |false=>rw[(h.stay v a d).2.2];exact b v a
 |true=>
  rcases h.move v a d with q|q|q
  ·rw[q.2.2.2.2];exact b v a
  ·rw[q.2.2.2];exact b v a
  ·exact q.2.2.2.2 λw e _ _=>b w e
variable (hT:RT n E par dp) (h:StN n par S c t c')
 include hT h
theorem Tq (x:AG n par (sC c) (bC c)) (z:sC c 0≠0) (i:CN n par S c) (p:bC c' 0=bC c 0):CN n par S c':=by
 have y:=h.ws;refine⟨aaM hT y x i.1 p,λv g f d=> ?_⟩
 rw[p]at f;cases s:t.testBit v with
 |false=>
  obtain⟨a,b,e⟩:=h.stay v g s;rw[a]at d;rw[b]at f;rw[e];exact i.2 v g f d
 | true =>
  rcases h.move v g s with q|q|q
  ·exact absurd q.2.1 z
  ·obtain⟨k,l,B,_⟩:=q;rw[l]at d;rw[B]at f;obtain⟨A,_⟩:=hT.up v g k.1;obtain⟨m,o⟩:=(i.1 _ A).1 f d v g k.1 Z;rcases k.2 with r|r
   ·exact absurd (by rw[f,o]) r
   ·exact absurd m r.1
  ·obtain⟨_,l,_,C,D⟩:=q;rw[C]at f;refine D λw u j e=> ?_;obtain⟨m,o⟩:=l.2 w u j e;exact i.2 w u (by rw[o,f]) m
theorem Tp (i:CN n par S c) (j:SL n par (sC c) (bC c) 0) (l:t.testBit 0=true):∀v,v<n->aC c' v=S v:=by
 have d:=aaL hT i.1 j;have b:∀v,v<n->v≠0->aC c v=S v:=λv a g=>i.2 v a (d v a g).2 (d v a g).1;intro v a;by_cases e:v=0
 ·subst e;rcases h.move 0 a l with q|q|q
  ·exact absurd q.2.1 j.1
  ·exact absurd Z q.1.1
  ·exact q.2.2.2.2 λw m f _=>b w m f
 ·cases k:t.testBit v with
  |false=>rw[(h.stay v a k).2.2];exact b v a e
  |true=>
   rcases h.move v a k with q|q|q
   ·exact absurd q.1 e
   ·rw[q.2.2.2];exact b v a e
   ·exact absurd (d v a e).1 q.2.1.1
theorem abD (d:Qt n (sC c) (bC c)):(sC c' 0≠0∧bC c' 0≠bC c 0∧CN n par S c'∧Wk n dp (bC c') 0∧AG n par (sC c') (bC c'))∨(Qt n (sC c') (bC c')∧t.testBit 0=false):=by
 have i:=h.ws;have j:=hT.n1;cases o:t.testBit 0 with
 |false=>
  right;obtain⟨a,b,_⟩:=h.stay 0 j o;exact⟨abE hT i d a b,rfl⟩
 | true =>
  left;rcases h.move 0 j o with q|q|q
  ·obtain⟨_,_,k,l,_⟩:=q;obtain⟨a,b,e⟩:=Xe hT i d k l;refine⟨k,l,⟨a,λv f m p=> ?_⟩,b,e⟩
   by_cases g:v=0
   ·subst g;exact absurd p k
   ·obtain⟨a,_⟩:=hT.up v f g;have:=(i.rest f g (d v f).1 (by rw[(d v f).2,(d _ a).2])).2;rw[this,(d v f).2]at m;exact absurd m.symm l
  ·exact absurd Z q.1.1
  ·exact absurd (d 0 j).1 q.2.1.1
end
theorem aeL {p:sQ} {g:GR} {d:List Int} {c:List (List Int)} {a P:Nat->Nat} {S:Nat->Int} {t:Nat} (r:VG g) (z:oU g 0 d) (y:∀v,v<g.2.length->0<=D d v) (j:TP g d a P) (m:Du g c fS) (l:Ge g d c) (G:DF g a (xC c) S)
  (A:∀v,t.testBit v=true->v<g.2.length∧0<=dQ (aT p g) RN c v):StN g.2.length a S c t (iD (aT p g) fS RN c t):=by
 have n:=m.len;refine⟨λv b s=> ?_,λv b s=> ?_⟩
 ·have e:at' (iD (aT p g) fS RN c t) (v:Int)=at' c (v:Int):=by rw[zJ (by rw[n];exact b),if_neg (by rw[s];decide)]
  unfold sC bC aC oL;rw[e];exact⟨rfl,rfl,rfl⟩
 ·obtain⟨_,T⟩:=A v s;obtain⟨B,N⟩:=Pu (p:=p) (W:=KQ) (R':=RX) (NQ r z y l b) T;have e:at' (iD (aT p g) fS RN c t) (v:Int)=lY (aT p g) fS RX c v (dQ (aT p g) RX c v):=by
   rw[zJ (by rw[n];exact b),if_pos s];exact N
  obtain⟨O,K,L,M⟩:=enN (p:=p) r z y j l b;obtain⟨V,X,Y⟩:=agX (p:=p) m b;have o:sC (iD (aT p g) fS RN c t) v=at' (lY (aT p g) fS RX c v (dQ (aT p g) RX c v)) 2∧bC (iD (aT p g) fS RN c t) v=at' (lY (aT p g) fS RX c v (dQ (aT p g) RX c v)) 3∧aC (iD (aT p g) fS RN c t) v=at' (lY (aT p g) fS RX c v (dQ (aT p g) RX c v)) 5:=by
   unfold sC bC aC oL;rw[e];exact⟨rfl,rfl,rfl⟩
  unfold MvN;rw[o.1,o.2.1,o.2.2];by_cases w:v=0∧oL c v 2=0
  ·left;rw[K w,V];obtain⟨rfl,q2⟩:=w;refine⟨rfl,q2,show(1:Int)≠0 by decide,?_,rfl⟩
   show AE (decide (oL c 0 3=0))≠oL c 0 3;rcases(Sk m b).2.1 with q|q<;>rw[q]<;>decide
  ·right;by_cases f:KW a (sC c) (bC c) v
   ·left;obtain⟨C,_⟩:=(j.at_ v b f.1).2.2.2;obtain⟨I,J,_⟩:=Sk m C;have k:∀x:Nat,oL c (a v) (x:Int)=0∨oL c (a v) (x:Int)=1->0<=oL c (a v) (x:Int)∧oL c (a v) (x:Int)<=1:=λx h=>by omega
    rw[L f,X _ _ (PZ j l b f.1 p 2 I) (PZ j l b f.1 p 3 J) (k 2 I) (k 3 J)];exact⟨f,rfl,rfl,rfl⟩
   ·right;have F:=(O.1 B).resolve_left w |>.resolve_left f;rw[M f F,Y];refine⟨f,F,rfl,rfl,λU=> ?_⟩
    show mM 1 (0,15*(g.2.length:Int)) (fU (aT p g) c v exA)=S v;have H:Is g a (λu=>oL c u 5) v=Is g a S v:=by
     unfold Is;congr 1;refine List.map_congr_left λi o=> ?_;obtain⟨u,C,E,_⟩:=r.port b (List.mem_range.1 o);rw[E,Int.toNat_natCast];by_cases q:u≠0∧a u=v
     ·rw[if_pos q,if_pos q];exact U u C q.1 q.2
     ·rw[if_neg q,if_neg q]
    have R:=G.eq v b;have Q:=G.bd v b;have hx:xC c v=oL c v 4:=rfl;rw[aec r z y j m l b (by rw[H];omega),H,R];rfl
inductive SN where
 |tree (k:Nat)
 |good (k:Nat)
 |lev (cl:Bool) (k:Nat)
 |low (cl:Bool) (k:Nat)
 |rest
 |done
def BV (E:Nat):SN->Nat
 | .tree k=>k
 | .good k=>E+1+k
 | .lev false k=>2*E+1+k
 | .low false k=>3*E+1+k
 | .rest=>4*E+2
 | .lev true k=>4*E+3+k
 | .low true k=>5*E+3+k
 | .done=>6*E+4
def GdN (n:Nat) (a c:Nat->Nat) (s b:Nat->Int) (k:Nat):Prop:=∀v,v<n->v≠0->c v<=k->gd a s b v
section
variable (g:GR) (d:List Int) (E:Nat) (par dp:Nat->Nat) (S:Nat->Int)
def UE (i:SN) (c:List (List Int)):Prop:=Du g c fS∧DF g par (xC c) S∧match i with
 | .tree k=>k<=E∧Zy g d k c
 | .good k=>k<E∧Ge g d c∧GdN g.2.length par dp (sC c) (bC c) k
 | .lev cl k=>k<E∧Ge g d c∧AG g.2.length par (sC c) (bC c)∧sC c 0≠0∧Wk g.2.length dp (bC c) k∧(cl=true->CN g.2.length par S c)
 | .low cl k=>k<=E∧Ge g d c∧AG g.2.length par (sC c) (bC c)∧sC c 0≠0∧Wk g.2.length dp (bC c) E∧UD g.2.length E dp (sC c) k∧(cl=true->CN g.2.length par S c)
 | .rest=>Ge g d c∧Qt g.2.length (sC c) (bC c)
 | .done=>Ge g d c∧AG g.2.length par (sC c) (bC c)∧∀v,v<g.2.length->aC c v=S v
def TsN (i:SN) (c:List (List Int)) (v:Nat):Prop:=match i with
 | .tree k=>TrT g d k c v
 | .good k=>v<g.2.length∧v≠0∧dp v<=k+1∧¬gd par (sC c) (bC c) v
 | .lev _ k=>v<g.2.length∧dp v<=k+1∧bC c v≠bC c 0
 | .low _ k=>v<g.2.length∧E<dp v+(k+1)∧sC c v≠0
 | .rest=>v=0
 | .done=>False
end
section
variable {g:GR} {d:List Int} {E:Nat} {par dp:Nat->Nat} {S:Nat->Int} {c c':List (List Int)} {t:Nat} (hT:RT g.2.length E par dp)
 include hT
theorem aer {s:Nat->Int}:UD g.2.length E dp s 0:=λv a b=>by have:=hT.le v a;omega
theorem JY {cl:Bool} {k:Nat} (m:Du g c fS) (l:DF g par (xC c) S) (n:k<=E) (a:Ge g d c) (b:AG g.2.length par (sC c) (bC c)) (f:sC c 0≠0) (h:Wk g.2.length dp (bC c) k) (j:cl=true->CN g.2.length par S c):∃i,BV E (.lev cl k)<=BV E i∧UE g d E par dp S i c:=by
 by_cases e:k<E
 ·exact⟨.lev cl k,Nat.le_refl _,m,l,e,a,b,f,h,j⟩
 ·obtain rfl:k=E:=by omega
  refine⟨.low cl 0,?_,m,l,Nat.zero_le _,a,b,f,h,aer hT,j⟩
  cases cl<;>(simp only[BV];omega)
theorem Pf {k:Nat} (l:Du g c fS) (j:DF g par (xC c) S) (w:k<=E) (h:Ge g d c) (n:GdN g.2.length par dp (sC c) (bC c) k):∃i,E+1+k<=BV E i∧UE g d E par dp S i c:=by
 by_cases e:k<E
 ·exact⟨.good k,Nat.le_refl _,l,j,e,h,n⟩
 ·have o:AG g.2.length par (sC c) (bC c):=λv f r=>n v f r (by have:=hT.le v f;omega);by_cases p:sC c 0=0
  ·exact⟨.rest,by simp only[BV];omega,l,j,h,acq hT o p⟩
  ·have s:Wk g.2.length dp (bC c) 0:=λv f u=>by
    by_cases m:v=0
    ·rw[m]
    ·have:=(hT.up v f m).2;omega
   obtain⟨i,a,b⟩:=JY (cl:=false) hT l j (Nat.zero_le _) h o p s (λq=>by cases q);exact⟨i,by simp only[BV]at a ⊢;omega,b⟩
theorem ajG:GdN g.2.length par dp (sC c) (bC c) 0:=λv b a e=>by have:=(hT.up v b a).2;omega
 omit hT in
theorem aeA {i:SN} (h:UE g d E par dp S i c):BV E i<=6*E+4:=by
  obtain⟨_,_,h⟩:=h
  match i,h with
  | .tree k,h=>have:=h.1;simp only[BV];omega
  | .good k,h=>have:=h.1;simp only[BV];omega
  | .lev false k,h=>have:=h.1;simp only[BV];omega
  | .lev true k,h=>have:=h.1;simp only[BV];omega
  | .low false k,h=>have:=h.1;simp only[BV];omega
  | .low true k,h=>have:=h.1;simp only[BV];omega
  | .rest,h=>simp only[BV];omega
  | .done,h=>exact Nat.le_refl _
theorem abz (s:∀v,v<g.2.length->D d v<=(E:Int)) {i:SN} (h:UE g d E par dp S i c) (u:BV E i<6*E+4) (f:∀v,¬TsN g d E par dp i c v):∃p,BV E i<BV E p∧UE g d E par dp S p c:=by
 obtain⟨n,m,h⟩:=h
 match i,h,f with
 | .tree k, ⟨hk, h⟩, f =>
  have l:=Qi h f;by_cases e:k<E
  ·exact⟨.tree (k+1),by simp only[BV];omega,n,m,e,l⟩
  ·obtain⟨i,a,b⟩:=Pf (k:=0) hT n m (Nat.zero_le _) (Mi l λv j=>by have:=s v j;omega) (ajG hT);exact⟨i,by simp only[BV]at a ⊢;omega,b⟩
 | .good k,⟨hk,h1,h2⟩,f=>
  obtain⟨i,a,b⟩:=Pf (k:=k+1) hT n m hk h1 (λv j r o=>Classical.not_not.1 λq=>f v ⟨j,r,o,q⟩);exact⟨i,by simp only[BV]at a ⊢;omega,b⟩
 | .lev cl k,⟨hk,h1,h2,h3,h4,h5⟩,f=>
  obtain⟨i,a,b⟩:=JY (k:=k+1) hT n m hk h1 h2 h3 (λv j o=>Decidable.not_not.1 λq=>f v ⟨j,o,q⟩) h5;refine⟨i,?_,b⟩
  cases cl<;>(simp only[BV]at a ⊢;omega)
 | .low cl k, ⟨hk, h1, h2, h3, h4, h5, h6⟩, f =>
  have l:UD g.2.length E dp (sC c) (k+1):=λv j o=>Decidable.not_not.1 λq=>f v ⟨j,o,q⟩;by_cases e:k<E
  ·refine⟨.low cl (k+1),?_,n,m,e,h1,h2,h3,h4,l,h6⟩
   cases cl<;>(simp only[BV];omega)
  ·exact absurd (l 0 hT.n1 (by have:=hT.d0;omega)) h3
 | .rest,_,f=>exact absurd Z (f 0)
 | .done,_,_=>simp only[BV]at u;omega
end
structure StK (g:GR) (d:List Int) (par:Nat->Nat) (c:List (List Int)) (t:Nat) (c':List (List Int)):Prop where
 tr:TrS g c t c'
 rc:Du g c' fS
 x:∀v,v<g.2.length->xC c' v=xC c v
 ws:Ge g d c->∀S,DF g par (xC c) S->Ge g d c'∧StN g.2.length par S c t c'
section
variable {g:GR} {d:List Int} {E:Nat} {par dp:Nat->Nat} {S:Nat->Int} {c c':List (List Int)} {t:Nat} (hV:VG g) (hD:oU g 0 d) (h0:∀v,v<g.2.length->0<=D d v) (hT:RT g.2.length E par dp) (hs:StK g d par c t c')
 include hV hD h0 hT hs
theorem Yz {i:SN} (h:UE g d E par dp S i c):∃F,UE g d E par dp S F c'∧(BV E i<BV E F∨(F=i∧∀v,TsN g d E par dp i c' v->TsN g d E par dp i c v∧t.testBit v=false)):=by
 obtain⟨M,u,h⟩:=h;have m:=hs.rc;have l:DF g par (xC c') S:=⟨λv n=>by rw[hs.x v n];exact u.eq v n,u.bd⟩
 have G:∀{v:Nat},¬(t.testBit v=true)->t.testBit v=false:=λh=>by simpa using h
 match i,h with
 | .tree k,⟨hk,h⟩=>
  obtain⟨a,b⟩:=YZ hV hD h0 h hs.tr;exact⟨.tree k,⟨m,l,hk,a⟩,.inr ⟨rfl,b⟩⟩
 | .good k, ⟨hk, h1, h2⟩ =>
  obtain⟨f,j⟩:=hs.ws h1 S u;have p:=j.ws;have H:∀v,v<g.2.length->v≠0->dp v<=k+1->par v=0∨gd par (sC c) (bC c) (par v):=λv n o r=>by
   obtain⟨a,b⟩:=hT.up v n o;by_cases e:par v=0
   ·exact .inl e
   ·exact .inr (h2 _ a e (by omega))
  refine⟨.good k,⟨m,l,hk,f,λv n o r=>IT hT p n o (H v n o (by omega)) (.inl (h2 v n o r))⟩,.inr ⟨rfl,λv ⟨n,o,r,y⟩=> ?_⟩⟩
  exact⟨⟨n,o,r,λq=>y (IT hT p n o (H v n o r) (.inl q))⟩,G λq=>y (IT hT p n o (H v n o r) (.inr q))⟩
 | .lev cl k, ⟨hk, h1, h2, h3, h4, h5⟩ =>
  obtain⟨f,j⟩:=hs.ws h1 S u;have p:=j.ws;rcases Mb hT p h2 h3 with⟨z,s⟩|⟨C,B,z,s,A⟩
  ·refine⟨.lev cl k,⟨m,l,hk,f,Bf hT p h2,by rw[z];exact h3,Pm hT p h4 s,λq=>Tq hT j h2 h3 (h5 q) s⟩,.inr ⟨rfl,λv ⟨n,r,y⟩=> ?_⟩⟩
   obtain⟨a,b⟩:=(Yd hT p h4 s n r).2 y;exact⟨⟨n,r,a⟩,G b⟩
  ·cases cl with
   |false=>exact⟨.rest,⟨m,l,f,A⟩,.inl (by simp only[BV];omega)⟩
   |true=>exact⟨.done,⟨m,l,f,Bf hT p h2,Tp hT j (h5 Z) B C⟩,.inl (by simp only[BV];omega)⟩
 | .low cl k, ⟨hk, h1, h2, h3, h4, h5, h6⟩ =>
  obtain⟨f,j⟩:=hs.ws h1 S u;have p:=j.ws;rcases Mb hT p h2 h3 with⟨z,s⟩|⟨C,B,z,s,A⟩
  ·refine⟨.low cl k,⟨m,l,hk,f,Bf hT p h2,by rw[z];exact h3,Pm hT p h4 s,Yh hT p h4 h5 h3,λq=>Tq hT j h2 h3 (h6 q) s⟩,.inr ⟨rfl,λv ⟨n,r,y⟩=> ?_⟩⟩
   obtain⟨a,b⟩:=(Yg hT p h2 h4 h5 n r).2 h3 y;exact⟨⟨n,r,a⟩,G b⟩
  ·cases cl with
   |false=>exact⟨.rest,⟨m,l,f,A⟩,.inl (by simp only[BV];omega)⟩
   |true=>exact⟨.done,⟨m,l,f,Bf hT p h2,Tp hT j (h6 Z) B C⟩,.inl (by simp only[BV];omega)⟩
 | .rest, ⟨h1, h2⟩ =>
  obtain⟨f,j⟩:=hs.ws h1 S u;rcases abD hT j h2 with⟨I,N,J,K,L⟩|⟨A,w⟩
  ·obtain⟨i,a,b⟩:=JY (cl:=true) hT m l (Nat.zero_le _) f L I K (λ_=>J);exact⟨i,b,.inl (by simp only[BV]at a ⊢;omega)⟩
  ·exact⟨.rest,⟨m,l,f,A⟩,.inr ⟨rfl,λv n=>⟨n,by rw[show v=0 from n];exact w⟩⟩⟩
 | .done,⟨h1,h2,h3⟩=>
  obtain⟨f,j⟩:=hs.ws h1 S u;exact⟨.done,⟨m,l,f,Bf hT j.ws h2,j.right h3⟩,.inr ⟨rfl,λv q=>q.elim⟩⟩
end
theorem Sq {p:sQ} {g:GR} {d:List Int} {c:List (List Int)} {i u:Nat->Nat} {t:Nat} (m:VG g) (q:oU g 0 d) (o:∀v,v<g.2.length->0<=D d v) (w:TP g d i u) (y:tK g fS) (k:Du g c fS)
  (h:∀v,t.testBit v=true->v<g.2.length∧0<=dQ (aT p g) RN c v):StK g d i c t (iD (aT p g) fS RN c t):=by
 have l:=aeP (p:=p) (W:=KQ) (R':=RX) (t:=t) m k afZ h;have n:=k.len;refine⟨l,Mg (S:=aT p g) y k,λv e=>Sr (x:=4) (by decide) (by rw[n];exact e),λj S f=>⟨λv e=> ?_,aeL m q o w k j f h⟩⟩
 have s:=NQ m q o j e;cases r:t.testBit v with
 |false=>obtain⟨a,b⟩:=l.stay v e r;rw[show iD (aT p g) fS RN c t=iD (aT p g) (sO++KQ) (RB++RX) c t from rfl,a,b];exact j v e
 |true=>obtain⟨a,b⟩:=l.move v e r;rw[show iD (aT p g) fS RN c t=iD (aT p g) (sO++KQ) (RB++RX) c t from rfl,a,b,<-s.1,<-s.2];exact j v e
theorem Uk:∀(l:oH) (f h:Nat->Int),(l.map λi=>f i+h i).sum=(l.map f).sum+(l.map h).sum
 | [],f,h=>by simp
 |x::l,f,h=>by rw[List.map_cons,List.map_cons,List.map_cons,List.sum_cons,List.sum_cons,List.sum_cons,Uk l f h];omega
theorem GN:∀(l:oH) (f:Nat->Int),(∀i∈l,f i=0)->(l.map f).sum=0
 | [],f,_=>by simp
 |x::l,f,h=>by rw[List.map_cons,List.sum_cons,h x List.mem_cons_self,GN l f λi a=>h i (List.mem_cons_of_mem _ a)];rfl
theorem Ul:∀(m:Nat) (f:Nat->Int) (i:Nat),i<m->(∀j,j<m->j≠i->f j=0)->((List.range m).map f).sum=f i
 |0,f,i,h,_=>by omega
 | m + 1, f, i, h, hz => by
  rw[List.range_succ,List.map_append,List.sum_append,List.map_singleton];have b:([f m]:aQ).sum=f m:=by simp
  rw[b];by_cases e:i=m
  ·subst e;rw[GN _ f λj a=>hz j (by have:=List.mem_range.1 a;omega) (by have:=List.mem_range.1 a;omega)];omega
  ·rw[Ul m f i (by omega) λj a c=>hz j (by omega) c,hz m (by omega) (λq=>e q.symm)];omega
section
variable {g:GR} {d:List Int} {par fp:Nat->Nat} {P:Nat->Int} {c:List (List Int)} (hV:VG g) (hD:oU g 0 d) (h0:∀v,v<g.2.length->0<=D d v) (hT:TP g d par fp) (hP:ZK g d P) (hPp:∀v,v<g.2.length->v≠0->P v=(par v:Int))
theorem Kp {f:Nat} {v:Nat}:onP P (f+1) (v:Int) v=true:=by
 simp only[onP];rw[if_neg (by omega)];simp
 include hP hPp hT
theorem TV:∀(f w v:Nat),w<g.2.length->onP P f (w:Int) v=true->w≠v->∃u,u<g.2.length∧u≠0∧par u=v∧onP P f (w:Int) u=true
 |0,w,v,_,h,_=>by cases h
 | f + 1, w, v, hw, h, hne => by
  simp only[onP]at h;rw[if_neg (by omega),Bool.or_eq_true,decide_eq_true_eq]at h;rcases h with h|h
  ·exact absurd (by omega) hne
  ·rw[show Int.toNat (w:Int)=w from rfl]at h;by_cases e:w=0
   ·subst e;rw[hP.root,Gz (by omega)]at h;cases h
   ·rw[hPp w hw e]at h;obtain⟨_,_,_,a,_⟩:=hT.at_ w hw e;by_cases q:par w=v
    ·exact⟨w,hw,e,q,Kp⟩
    ·obtain⟨u,b,i,j,k⟩:=TV f (par w) v a h q;refine⟨u,b,i,j,?_⟩
     simp only[onP];rw[if_neg (by omega),show Int.toNat (w:Int)=w from rfl,hPp w hw e,k,Bool.or_true]
theorem Yw:∀(f w u:Nat),w<g.2.length->u<g.2.length->u≠0->onP P f (w:Int) u=true->onP P (f+1) (w:Int) (par u)=true
 |0,w,u,_,_,_,h=>by cases h
 | f + 1, w, u, hw, hu, hu0, h => by
  have a:=h;simp only[onP]at a;rw[if_neg (by omega),Bool.or_eq_true,decide_eq_true_eq]at a;rw[show onP P (f+1+1) (w:Int) (par u)=if(w:Int)<0 then false else decide ((w:Int)=((par u:Nat):Int))||onP P (f+1) (P (Int.toNat (w:Int))) (par u)from rfl,if_neg (by omega),show Int.toNat (w:Int)=w from rfl];rcases a with a|a
  ·have:w=u:=by omega
   subst this;rw[hPp w hu hu0,Kp,Bool.or_true]
  ·rw[show Int.toNat (w:Int)=w from rfl]at a;by_cases e:w=0
   ·subst e;rw[hP.root,Gz (by omega)]at a;cases a
   ·rw[hPp w hw e]at a ⊢;obtain⟨_,_,_,b,_⟩:=hT.at_ w hw e;rw[Yw f (par w) u b hu hu0 a,Bool.or_true]
theorem PD (m:∀v,v<g.2.length->0<=D d v):∀(f l w u k:Nat),w<g.2.length->onP P f (w:Int) u=true->onP P l (w:Int) k=true->D d u=D d k->u=k
 |0,_,w,_,_,_,h,_,_=>by cases h
 |f+1,0,w,_,_,_,_,h,_=>by cases h
 | f + 1, l + 1, w, u, k, hw, h, i, hd => by
  simp only[onP]at h i;rw[if_neg (by omega),Bool.or_eq_true,decide_eq_true_eq,show Int.toNat (w:Int)=w from rfl]at h i;by_cases e:w=0
  ·subst e;rw[hP.root,Gz (by omega)]at h i;have a:=h.resolve_right (by decide);have b:=i.resolve_right (by decide);omega
  ·obtain⟨_,_,_,j,n⟩:=hT.at_ w hw e;rw[hPp w hw e]at h i;rcases h with h|h
   ·rcases i with i|i
    ·omega
    ·have:=Ko hP l (par w) k j i;have:u=w:=by omega
     subst this;omega
   ·rcases i with i|i
    ·have:=Ko hP f (par w) u j h;have:k=w:=by omega
     subst this;omega
    ·exact PD m f l (par w) u k j h i hd
 include hV hD h0
theorem Mh {v:Nat} (z:v<g.2.length):∀k,k<=g.2.length->yJ P g.2.length c v k=(if v<k then Je c v else 0)+Is g par (λu=>yJ P g.2.length c u k) v
 |0,_=>by
  unfold Is;simp only[yJ];rw[GN _ _ λi _=>by split<;>rfl,if_neg (by omega)];rfl
 | k + 1, hk => by
  have O:=hV.n24;have b:k<g.2.length:=hk;have V:=Mh z k (by omega);have U:=(hD.zero 0 (by omega)).2 Z;have Q:=h0 k b;have R:=hD.hi k b;have n:∀f u,f>(D d k).toNat->onP P f (k:Int) u=onP P ((D d k).toNat+1) (k:Int) u:=λf u W=>Kq hP h0 U (D d k).toNat k f u b (by omega) (by omega)
  -- the new summand at the children
  have J:((List.range (row g v).length).map λi=>if((fL (row g v) i).1.toNat≠0∧par (fL (row g v) i).1.toNat=v)∧onP P (g.2.length+1) (k:Int) (fL (row g v) i).1.toNat=true then Je c k else 0).sum=if onP P (g.2.length+1) (k:Int) v=true∧k≠v then Je c k else 0:=by
   by_cases q:onP P (g.2.length+1) (k:Int) v=true∧k≠v
   ·rw[if_pos q];obtain⟨u,t,p,o,x⟩:=TV hT hP hPp _ k v b q.1 q.2;obtain⟨a,_,l,_⟩:=hT.at_ u t p;rw[o]at l;obtain⟨i,A,w⟩:=hV.back t ⟨fp u,a,l⟩;rw[Ul _ _ i A λj K T=> ?_]
    ·rw[w,Int.toNat_natCast,if_pos ⟨⟨p,o⟩,x⟩]
    ·obtain⟨L,H,m,_⟩:=hV.port z K;rw[m,Int.toNat_natCast,if_neg];rintro⟨⟨C,E⟩,F⟩;have M:=(hT.at_ u t p).2.2.2.2;have G:=(hT.at_ L H C).2.2.2.2;rw[o]at M;rw[E]at G;have:=PD hT hP hPp h0 _ _ k u L b x F (by omega);subst this;have X:=B_ hV z A w;have Y:=B_ hV z K m;omega
   ·rw[if_neg q];refine GN _ _ λi A=>if_neg ?_;obtain⟨u,t,I,_⟩:=hV.port z (List.mem_range.1 A);rw[I,Int.toNat_natCast];rintro⟨⟨C,E⟩,F⟩;have y:=Yw hT hP hPp _ k u b t C F;rw[E,n _ _ (by omega),<-n (g.2.length+1) v (by omega)]at y;have S:=Ko hP _ k u b F;have G:=(hT.at_ u t C).2.2.2.2;rw[E]at G;exact q ⟨y,λe=>by subst e;omega⟩
  have h:Is g par (λu=>yJ P g.2.length c u (k+1)) v=Is g par (λu=>yJ P g.2.length c u k) v+((List.range (row g v).length).map λi=>if((fL (row g v) i).1.toNat≠0∧par (fL (row g v) i).1.toNat=v)∧onP P (g.2.length+1) (k:Int) (fL (row g v) i).1.toNat=true then Je c k else 0).sum:=by
   unfold Is;rw[<-Uk];congr 1;refine List.map_congr_left λi _=> ?_;simp only[yJ];by_cases q:(fL (row g v) i).1.toNat≠0∧par (fL (row g v) i).1.toNat=v
   ·rw[if_pos q,if_pos q];by_cases r:onP P (g.2.length+1) (k:Int) (fL (row g v) i).1.toNat=true
    ·rw[if_pos r,if_pos ⟨q,r⟩]
    ·rw[if_neg r,if_neg λs=>r s.2]
   ·rw[if_neg q,if_neg q,if_neg λs=>q s.1];rfl
  rw[h,J];show yJ P g.2.length c v k+(if onP P (g.2.length+1) (k:Int) v=true then Je c k else 0)=_;rw[V];by_cases e:k=v
  ·subst e;rw[if_neg (Nat.lt_irrefl k),if_pos (Kp (f:=g.2.length)),if_pos (Nat.lt_succ_self k),if_neg λq=>q.2 Z];omega
  ·have N:(if v<k+1 then Je c v else 0)=if v<k then Je c v else 0:=by
    by_cases q:v<k
    ·rw[if_pos q,if_pos (by omega)]
    ·rw[if_neg q,if_neg (by omega)]
   rw[N];generalize (if v<k then Je c v else 0)=B;by_cases q:onP P (g.2.length+1) (k:Int) v=true
   ·rw[if_pos q,if_pos ⟨q,e⟩];omega
   ·rw[if_neg q,if_neg λr=>q r.1];omega
theorem YV {W:List Dd} (b:∀v,v<g.2.length->0<=Je c v∧Je c v<=15):DF g par (xC c) (λv=>yJ P g.2.length c v g.2.length):=by
 refine⟨λv a=> ?_,λv a=>(NF b).2⟩
 have:=Mh hV hD h0 hT hP hPp (c:=c) a g.2.length (Nat.le_refl _);rw[if_pos a]at this;exact this
end
theorem abO (p b:sQ) (g:GR) (a:List Dd) (R:List RL) (c:bF) (t:Nat):iD (aT p g) a R c t=iD (aT b g) a R c t:=rfl
theorem OY (p b:sQ) (g:GR) (R:List RL) (a:Nat) (c:bF):qG (aT p g) R a c=qG (aT b g) R a c:=rfl
noncomputable def nxt (g:GR) (a:Int) (c:Nat) (w:Int):Nat:=(((nT 1000 g).bind λb=>eS 1000 b a (c:Int) w).getD 0).toNat
noncomputable def CL (p:sQ) (vars:List Dd) (R:List RL) (g:GR) (kind:Int) (ws:aQ) (a:bF):Nat->bF
 |0=>a
 |k+1=>iD (aT p g) vars R (CL p vars R g kind ws a k) (nxt g kind (qG (aT p g) R (eX g) (CL p vars R g kind ws a k)) (at' ws (k:Int)))
theorem Kv (p p':sQ) (vars:List Dd) (R:List RL) (g:GR) (kind:Int) (ws:aQ) (a:bF) (k:Nat):CL p vars R g kind ws a k=CL p' vars R g kind ws a k:=by
 induction k with
 |zero=>rfl
 |succ k b=>
  rw[CL,CL,b,abO p p',OY p p']
theorem exZ (D:KO):∃z:List xR,z.map Am=D:=by
 refine⟨D.map λd=>(ByteArray.mk #[],(.bool true,d.1),(.bool true,d.2.map λs=>(s.1,(.bool true,s.2)))),?_⟩
 rw[List.map_map]
 conv=>rhs;rw[<-List.map_id D]
 refine List.map_congr_left λd _=> ?_;show(d.1,(d.2.map λs=>(s.1,((.bool true:Value),s.2))).map λs=>(s.1,s.2.2))=d;rw[List.map_map];exact Prod.ext Z (by
  conv=>rhs;rw[<-List.map_id d.2]
  rfl)
end Go.Proofs.YtlkhndebimcbbaaGreatDoor
namespace Go.Proofs.YtlkhndebimcbbaaGreatDoor
open Go.Sx
def GJ  (a:acu):Option Bb:=
 if a.2.2.2.2.2.1≠(0:Int)then(some (([]:Ac),([]:Ml),a.2.2.2.2.2.1))else(some (a.2.2.2.2.2.2.2.2.2.2,a.2.2.2.2.2.2.2.2.2.1,(0:Int)))
def Au  (a:acv):Option Bb:=
 GJ  (a.2.2.2.2.2.1,a.2.2.2.2.2.2.1,a.2.2.2.2.2.2.2.1,a.2.2.2.2.2.2.2.2.1,a.2.2.2.2.2.2.2.2.2.1,a.2.2.2.2.2.2.2.2.2.2,a.2.2.1,a.2.2.2.1,a.2.2.2.2.1,a.1,a.2.1)
def xG  (a:aQ×Int×Int×Int×Int×Int×bF×aQ×(List (Int×Int×Int×Int×Int))×List bF):Option Bb:=
 Au  (a.2.2.2.2.2.2.2.2.1,a.2.2.2.2.2.2.2.2.2,a.2.2.2.2.2.2.2.1,a.1,a.2.2.2.2.2.2.1,a.2.1,a.2.2.1,a.2.2.2.1,a.2.2.2.2.1,a.2.2.2.2.2.1,(0:Int))
def CQ (e:Mm) (b:Zb) (f:Za->Option Bb) (d:Int) (h:bF) (c:Int) (a:(Int×Int×Int×Int×Int)×Int) (g:Ac):Option Bb:=
 ck ((List.length b.2.2.2.2.2.2.2.2.2.1:Int)+(List.length ([d]):Int)<=1099511627) (ck ((List.length b.2.1:Int)+(List.length ([(dR .u32 c e.1)]):Int)<=1099511627) (f ((dR .u32 c e.1),(b.2.1++([(dR .u32 c e.1)])),(wI .i64 (b.2.2.1+(1:Int))),a.1.1,a.1.2.1,a.1.2.2.1,a.1.2.2.2.1,a.1.2.2.2.2,h,(b.2.2.2.2.2.2.2.2.2.1++[d]),(b.2.2.2.2.2.2.2.2.2.2.1++([(a.1.1,a.1.2.1,a.1.2.2.1,a.1.2.2.2.1,a.1.2.2.2.2)])),g)))
def CP (U:Nat) (e:BF) (k:cE) (l:Int) (c:Mm) (a:Zb) (i:Za->Option Bb) (d:Int):Option Bb:=
 if¬(a.1≠(0:Int))then(xG  (a.2.1,a.2.2.2.1,a.2.2.2.2.1,a.2.2.2.2.2.1,a.2.2.2.2.2.2.1,a.2.2.2.2.2.2.2.1,a.2.2.2.2.2.2.2.2.1,a.2.2.2.2.2.2.2.2.2.1,a.2.2.2.2.2.2.2.2.2.2.1,a.2.2.2.2.2.2.2.2.2.2.2))else(Option.bind (fR U c.2.1 l a.1 d) λj=>(if(!j)=true then(Au  (a.2.2.2.2.2.2.2.2.2.2.1,a.2.2.2.2.2.2.2.2.2.2.2,([]:aQ),([]:aQ),([]:bF),(0:Int),(0:Int),(0:Int),(0:Int),(0:Int),(11:Int)))else(Option.bind (jL U ((((e.1,e.2.1,e.2.2)),((((e.1,e.2.1,e.2.2)),((k.1,k.2)),c.2.2.2.1,c.2.2.2.2)),c.2.2.1)) a.2.2.2.2.2.2.2.2.1 d) λf=>(Option.bind (eG U ((((e.1,e.2.1,e.2.2)),((((e.1,e.2.1,e.2.2)),((k.1,k.2)),c.2.2.2.1,c.2.2.2.2)),c.2.2.1)) f) λg=>(Option.bind (fZ U ((a.2.2.2.1,a.2.2.2.2.1,a.2.2.2.2.2.1,a.2.2.2.2.2.2.1,a.2.2.2.2.2.2.2.1)) d (dR .u32 g c.1)) λb=>(Option.bind (mB U f) λh=>(ck ((List.length a.2.2.2.2.2.2.2.2.2.2.2:Int)+(List.length (([]:Ac)++[h]):Int)<=1099511627) (ck ((List.length a.2.2.2.2.2.2.2.2.2.2.1:Int)+(List.length ([(b.1.1,b.1.2.1,b.1.2.2.1,b.1.2.2.2.1,b.1.2.2.2.2)]):Int)<=1099511627) (CQ c a i d f g b (a.2.2.2.2.2.2.2.2.2.2.2++(([]:Ac)++[h])))))))))))
def tB (U:Nat) (g:BF) (h:cE) (f:Int) (e:aQ) (c:Mm) (a:Zb) (b:Za->Option Bb):Option Bb:=
 if a.2.2.1<(List.length e:Int)then(ck (0<=a.2.2.1∧a.2.2.1<(List.length e:Int)) (Option.bind (eS U c.2.1 f a.1 (at' e a.2.2.1)) λd=>(CP U g h f c a b (d))))else(xG  (a.2.1,a.2.2.2.1,a.2.2.2.2.1,a.2.2.2.2.2.1,a.2.2.2.2.2.2.1,a.2.2.2.2.2.2.2.1,a.2.2.2.2.2.2.2.2.1,a.2.2.2.2.2.2.2.2.2.1,a.2.2.2.2.2.2.2.2.2.2.1,a.2.2.2.2.2.2.2.2.2.2.2))
def CO (U:Nat) (f:BF) (g:cE) (h:Int) (i:aQ) (b:Mm) (e:bF) (c:Int) (a:(Int×Int×Int×Int×Int)) (d:Ac):Option Bb:=
 ck ((List.length ([]:aQ):Int)+(List.length ([(dR .u32 c b.1)]):Int)<=1099511627) (bJ (tB U f g h i b) U ((dR .u32 c b.1),(([]:aQ)++([(dR .u32 c b.1)])),(0:Int),a.1,a.2.1,a.2.2.1,a.2.2.2.1,a.2.2.2.2,e,([]:aQ),(([]:Ml)++([(a.1,a.2.1,a.2.2.1,a.2.2.2.1,a.2.2.2.2)])),d))
def CM (U:Nat) (d:BF) (g:cE) (h:Int) (i:bF) (j:aQ) (b:Mm):Option Bb:=
 Option.bind (mB U i) λe=>(Option.bind (eG U ((((d.1,d.2.1,d.2.2)),((((d.1,d.2.1,d.2.2)),((g.1,g.2)),b.2.2.2.1,b.2.2.2.2)),b.2.2.1)) e) λf=>(Option.bind (uT U (dR .u32 f b.1)) λa=>(Option.bind (mB U e) λc=>(ck ((List.length ([]:Ac):Int)+(List.length (([]:Ac)++[c]):Int)<=1099511627) (ck ((List.length ([]:Ml):Int)+(List.length ([(a.1,a.2.1,a.2.2.1,a.2.2.2.1,a.2.2.2.2)]):Int)<=1099511627) (CO U d g h j b e f a (([]:Ac)++(([]:Ac)++[c]))))))))
def Av (U:Nat) (e:BF) (b:cE) (f:Int) (g:bF) (h:aQ) (a:fW×Int×bF):Option Bb:=
 Option.bind (nT U ((b.1,b.2))) λc=>(Option.bind (zF U ((b.1,b.2))) λd=>(CM U e b f g h (d,c,a.1,a.2.1,a.2.2)))
def Aw (U:Nat) (c:BF) (d:cE) (e:Int) (f:bF) (g:aQ) (a:Int×bF):Option Bb:=
 Option.bind (mW U ((c.1,c.2.1,c.2.2)) ((d.1,d.2))) λb=>(Av U c d e f g (b,a.1,a.2))
def uB (U:Nat) (b:BF) (c:cE) (d:Int) (e:bF) (f:aQ) (a:Int×bF):Option Bb:=
 Aw U b c d e f (a.1,a.2)
def yT (d:cE) (a:Int×Int×bF) (b:(Int×Int×bF)->Option Bb) (c:bF):Option Bb:=
 b ((wI .i64 (a.1+(1:Int))),(max a.2.1 (at' d.1 a.1)),c)
def tC (U:Nat) (f:cE) (a:Int×Int×bF) (d:(Int×Int×bF)->Option Bb) (b:Int×bF) (e:(Int×bF)->Option Bb):Option Bb:=
 if b.1<(List.length (at' f.2 a.1):Int)then(ck (0<=b.1∧b.1<(List.length (at' f.2 a.1):Int)) (ck (0<=a.1∧a.1<(List.length b.2:Int)) (Option.bind (sF U ((f.1,f.2)) ((at' (at' f.2 a.1) b.1).1) a.1) λc=>(ck ((List.length (at' b.2 a.1):Int)+(List.length ([c]):Int)<=1099511627) (ck (0<=a.1∧a.1<(List.length (List.set b.2 (Int.toNat a.1) ((at' b.2 a.1)++[c])):Int)) (e ((wI .i64 (b.1+(1:Int))),(List.set b.2 (Int.toNat a.1) ((at' b.2 a.1)++[c])))))))))else(yT f a d (b.2))
def oE (U:Nat) (d:BF) (c:cE) (e:Int) (f:bF) (g:aQ) (a:Int×Int×bF) (b:(Int×Int×bF)->Option Bb):Option Bb:=
 if a.1<(List.length c.2:Int)then(ck (0<=a.1∧a.1<(List.length c.2:Int)) (ck (0<=a.1∧a.1<(List.length c.1:Int)) (bJ (tC U c a b) U ((0:Int),a.2.2))))else(uB U d c e f g (a.2.1,a.2.2))
def vX (U:Nat) (b:BF) (a:cE) (c:Int) (d:bF) (e:aQ):Option Bb:=
 Option.bind (zG U ((b.1,b.2.1,b.2.2)) ((a.1,a.2)) c d (List.length e:Int)) λf=>(if f≠(0:Int)then(some (([]:Ac),([]:Ml),f))else(ck (0<=(List.length a.2:Int)∧(List.length a.2:Int)<=1099511627) (bJ (oE U b a c d e) U ((0:Int),(0:Int),(List.replicate (Int.toNat (List.length a.2:Int)) ([]:aQ))))))
theorem adb:aX Tryz.prog 27:=Tryz.call27
theorem Qe (U:Nat) {s:BF} {G:cE} {R:Int} {p3:bF} {p4:aQ} (u:Value)  (v:Value)  (E:Value)  (D:Value)  (z4:k_)  (v5:Value)  (z6:rB)  (v7:Value) (r:List bF×(List (Int×Int×Int×Int×Int))×Int) (h:vX U s G R p3 p4=some r):
  aY Tryz.prog 27 #[Value.agg #[vS (s.1),u,v],Value.agg #[E,D],vI (R),v5,v7] [Sl aU u s.2.1,Sl aL v s.2.2,PF (Value.agg #[vS s.1,u,v]),Sl bO E G.1,S2 bB D z4 G.2,S2 bO v5 z6 p3,Sl Ai v7 p4,Gb 0 (cellsOf HU xM)] (λx:Value×List Value×List (List Value)×Value=>Value.tuple #[x.1,x.2.2.2,vI (r.2.2)]) (λx l=>Ar dA.raw x.1 x.2.1::Lq bZ x.2.1 x.2.2.1 r.1::Ar cN x.2.2.2 r.2.1::l) (λ_ l=>l):=by
 refine aY.of Tryz.func27 Z Tryz.ntmps27 Z λc=>?_;refine aV<|aH (aN.box (cs:=[vS (s.1),u,v]) Z Z) Z λb1=>aH (aN.box (cs:=[E,D]) Z Z) Z λb2=>aE Z<|aE Z<|aE Z<|aM<|aK<|aV<|eK 1 Z<|eK 0 Z<|aA Z<|aA Z<|aA Z<|kF (aF.fact 6 Z) Z<|fH h λr3 w4 h=>aH (aN.callQ adl (Qf U u v E D z4 v5 z6 r3 w4) Z (oS [0,1,2,3,4,5] Z)) Z λx5=>aE Z<|aM<|aV<|aA Z<|q_ Z<|aM ?_;refine eV h Z (λh=>?_) λh=>?_
 ·refine aV<|aA Z<|aE Z<|aE Z<|aE Z<|aM<|aW<|aJ<|jD (gQ dA.raw) (jD (AC bZ) ?_);refine jD (gQ cN) ?_;cases h;exact IJ ((lC),([]:fV),([]:List (List Value)),(lC)) Z Z (RV.tmp Z) (RV.tmp Z) (RV.tmp Z) (a_.ix [2,1,0] Z Z) aG.nil
 refine cK<|aV<|aH (aN.alloc (cs:=[lC]) Z Z) Z λM=>aM<|aV<|aH (aN.alloc (cs:=[lC]) Z Z) Z λN=>aM<|aV<|eK 3 Z<|eK 2 Z<|aA Z<|aB (x_ (cs:=[.tmp 14,.tmp 15]) (vs:=[vP M,vP N]) Z) Z<|Bt (A:=Mm) (B:=Nat×Value×Nat×Value×List Value×Value×List Value) (vs:=[Value.agg #[vS (s.1),u,v],Value.agg #[E,D],vI (R),Value.func (.func 48) #[] #[vP M,vP N]]) (λg=>CM U s G R p3 p4 g=some r) (λg a=>Value.agg #[vP a.1,a.2.1,vI (R),vU (g.1),Value.func (.func 48) #[] #[vP M,vP N]]) (λg a=>[Ar pF a.2.1 g.2.1,bV a.1 [vS (s.1),u,v,vP a.2.2.1,a.2.2.2.1] 106,Ar dA.raw a.2.2.2.1 a.2.2.2.2.1,lU cF a.2.2.2.2.1 g.2.2.1,bV a.2.2.1 [vS (s.1),u,v,E,D,vI (g.2.2.2.1),a.2.2.2.2.2.1] 134,Ar dA.raw a.2.2.2.2.2.1 a.2.2.2.2.2.2,lU bZ a.2.2.2.2.2.2 g.2.2.2.2,bV N [lC] 35,bV M [lC] 34]) (λg a=>[Sl aU u s.2.1,Sl aL v s.2.2,PF (Value.agg #[vS s.1,u,v]),Sl bO E G.1,S2 bB D z4 G.2,S2 bO v5 z6 p3,Sl Ai v7 p4,Gb 0 (cellsOf HU xM)]) (tG.fn (show aX Tryz.prog 47 from Tryz.call47) Z) Tryz.func47 Z Tryz.ntmps47 Z Z ?_ ?_
 ·refine aV<|aH (aN.box (cs:=[vS (s.1),u,v]) Z Z) Z λaf=>aH (aN.box (cs:=[E,D]) Z Z) Z λag=>aH (aN.alloc (cs:=vD1) Z Z) Z λah=>aM<|aK ?_;refine JR.start [0,0,3,0,15,0,0,95,0,511,1023] 9 mixedOrders (by decide +kernel) ?_;refine JR.open (by exact rfl) ?_;refine pX 2 Z<|pX 1 Z<|SU (A:=fW×Int×bF) (B:=Nat×Nat×Value×List Value×Value×List Value) (vs:=[Value.agg #[vS (s.1),u,v],Value.agg #[E,D]]) (λP=>Av U s G R p3 p4 P=some r) (λP t=>vP t.1) (λP t=>[bV t.1 [vS (s.1),u,v,vP t.2.1,t.2.2.1] 106,Ar dA.raw t.2.2.1 t.2.2.2.1,lU cF t.2.2.2.1 P.1,bV t.2.1 [vS (s.1),u,v,E,D,vI (P.2.1),t.2.2.2.2.1] 134,Ar dA.raw t.2.2.2.2.1 t.2.2.2.2.2,lU bZ t.2.2.2.2.2 P.2.2,bV ah vD1 92,bV ag [E,D] 28,bV af [vS (s.1),u,v] 57,bV N [lC] 35,bV M [lC] 34]) (λP t=>[Sl aU u s.2.1,Sl aL v s.2.2,PF (Value.agg #[vS s.1,u,v]),Sl bO E G.1,S2 bB D z4 G.2,S2 bO v5 z6 p3,Sl Ai v7 p4,Gb 0 (cellsOf HU xM)]) Z Z Z (tG.fn (show aX Tryz.prog 39 from Tryz.call39) Z) Tryz.func39 Z Tryz.ntmps39 Z Z (λ_ _=>(wF [] Z)) ?_ ?_
  ·refine aV<|aH (aN.box (cs:=[vS (s.1),u,v]) Z Z) Z λar=>aH (aN.box (cs:=[E,D]) Z Z) Z λau=>aE Z<|aM<|aK ?_;refine JR.start [0,0,0,6,0,0,62,127,255,511] 7 mixedOrders (by decide +kernel) ?_;refine JR.open (by exact rfl) ?_;refine pX 1 Z<|pX 1 Z<|pX 0 Z<|SU (A:=Int×bF) (B:=Nat×Value×List Value) (vs:=[Value.agg #[vS (s.1),u,v],Value.agg #[E,D]]) (λS=>Aw U s G R p3 p4 S=some r) (λS I=>vP I.1) (λS I=>[bV I.1 [vS (s.1),u,v,E,D,vI (S.1),I.2.1] 134,Ar dA.raw I.2.1 I.2.2,lU bZ I.2.2 S.2,bV au [E,D] 28,bV ar [vS (s.1),u,v] 57,bV ah vD1 92,bV ag [E,D] 28,bV af [vS (s.1),u,v] 57,bV N [lC] 35,bV M [lC] 34]) (λS I=>[Sl aU u s.2.1,Sl aL v s.2.2,PF (Value.agg #[vS s.1,u,v]),Sl bO E G.1,S2 bB D z4 G.2,S2 bO v5 z6 p3,Sl Ai v7 p4,Gb 0 (cellsOf HU xM)]) Z Z Z (tG.fn (show aX Tryz.prog 64 from Tryz.call64) Z) Tryz.func64 Z Tryz.ntmps64 Z Z (λ_ _=>(wF [([4],[])] Z)) ?_ ?_
   ·refine aV<|aH (aN.box (cs:=[vS (s.1),u,v]) Z Z) Z λc5=>aH (aN.box (cs:=[E,D]) Z Z) Z λai=>aE Z<|aM<|aK ?_;refine JR.start [0,0,0,4,12,28,63,127,255] 6 mixedOrders (by decide +kernel) ?_;refine JR.open (by exact rfl) ?_;refine pX 1 Z<|pX 0 Z<|dB Z<|jR 0 Z<|bK Z .nil (kA 4 Z) (iF Z (aF.fact 0 Z) Z) aO.z<|cX h λcj h=>JR.stp (zA bZ (Int.toNat (List.length G.2:Int)))<|JR.loud Z Z Z (mH (e:=dA.raw) (lC) Z Z Z Z cj Z Z Z) Z (λL=>(wF [([2],[]),([3],[])] Z)) λL=>bP 6 Z Z<|cG (Know.one (aF.sl (cB (i:=0) (j:=1) Z Z dJ))) λbR=>?_;refine aB (Wy (r:=Value.agg #[vS (s.1),u,v,E,D,vI (0:Int),L]) Z Z Z (by intro w;simp[Instr.build,Instr.fill,fC,eB,dH,fD,fE,eD,gR,eN bR])) Z ?_;refine aH (aN.box (cs:=[vS (s.1),u,v,E,D,vI (0:Int),L]) Z Z) Z λT=>aE Z<|aM<|aK<|DZ (B:=fV) (λX=>uB U s G R p3 p4 X=some r) (λX av=>[(5,vP T)]) (λX av=>[bV T [vS (s.1),u,v,E,D,vI (X.1),L] 134,Ar dA.raw L av,lU bZ av X.2,bV au [E,D] 28,bV ar [vS (s.1),u,v] 57,bV ah vD1 92,bV ag [E,D] 28,bV af [vS (s.1),u,v] 57,bV N [lC] 35,bV M [lC] 34]) ?_ ?_
    ·refine aV<|bT Z<|dD 3 Z<|aB (iF Z (aF.fact 4 Z) Z) Z<|aA Z<|aM<|aS<|dU (B:=fV) (oE U s G R p3 p4) (λo aj=>[(3,vP ai),(5,vP T),(19,D),(20,vI (List.length G.2:Int)),(21,vI (o.1))]) (λo aj=>[bV T [vS (s.1),u,v,E,D,vI (o.2.1),L] 134,Ar dA.raw L aj,lU bZ aj o.2.2,bV ai [E,D] 28,bV au [E,D] 28,bV ar [vS (s.1),u,v] 57,bV ah vD1 92,bV ag [E,D] 28,bV af [vS (s.1),u,v] 57,bV N [lC] 35,bV M [lC] 34]) ((0:Int),(0:Int),(List.replicate (Int.toNat (List.length G.2:Int)) ([]:aQ))) (List.replicate (Int.toNat (List.length G.2:Int)) (lC)) h SF (a_.ix [0,1,2,3,5,6,7,8,9,10,11] Z Z) ?_;intro bh o aj h;refine aV<|cM Z<|aM<|aK ?_;refine eV h Z (λh=>?_) λh=>?_
     ·refine cK<|aK<|DZ (B:=fV) (λae=>yT G o (bJ (oE U s G R p3 p4) bh) ae=some r) (λae aw=>[(3,vP ai),(5,vP T),(19,D),(20,vI (List.length G.2:Int)),(21,vI (o.1))]) (λae aw=>[bV T [vS (s.1),u,v,E,D,vI (max o.2.1 (at' G.1 o.1)),L] 134,Ar dA.raw L aw,lU bZ aw ae,bV ai [E,D] 28,bV au [E,D] 28,bV ar [vS (s.1),u,v] 57,bV ah vD1 92,bV ag [E,D] 28,bV af [vS (s.1),u,v] 57,bV N [lC] 35,bV M [lC] 34]) ?_ ?_
      ·refine aS<|aV<|aA Z<|cX h λaa h=>aB (bX Z Z (aF.fact 4 Z) Z Z aa) Z<|aB (bW Z (aF.fact 4 Z) Z Z aa) Z<|aE Z<|aE Z<|aM<|aK ?_;refine JR.start [0,0,2,6,14,0,32,0,224,480,1022,2047,4095,8191] 11 mixedOrders (by decide +kernel) ?_;refine JR.open (by exact rfl) ?_;refine bG Z<|bG Z<|jS Z (b_ Z)<|dB Z<|jR 0 Z<|dB Z<|jR 3 Z<|bG Z<|cX h λbe h=>bK Z .nil (kA 3 Z) (aZ Z Z (aF.fact 0 Z) Z Z be) aO.z<|bK Z .nil (kA 3 Z) (bQ Z (aF.fact 0 Z) Z Z Z cQ be) aO.z<|jS Z (Ls Z Z)<|bP 11 Z Z<|aB (b_ Z) Z<|bT Z<|iI 0 Z Z Z Z Z Z<|aM<|aV<|aA Z<|aB (fX Z (aF.el (aF.fact 4 Z) aa.1 aa.2) Z) Z<|aA Z<|aM<|aS<|dU (B:=fV) (tC U G o (bJ (oE U s G R p3 p4) bh)) (λK ak=>[(3,vP ai),(5,vP T),(6,vI (o.1)),(19,D),(20,vI (List.length G.2:Int)),(21,vI (o.1)),(39,(at' z4 o.1).1),(40,vI (List.length (at' G.2 o.1):Int)),(41,vI (K.1))]) (λK ak=>[bV T [vS (s.1),u,v,E,D,vI (max o.2.1 (at' G.1 o.1)),L] 134,Ar dA.raw L ak,lU bZ ak K.2,bV ai [E,D] 28,bV au [E,D] 28,bV ar [vS (s.1),u,v] 57,bV ah vD1 92,bV ag [E,D] 28,bV af [vS (s.1),u,v] 57,bV N [lC] 35,bV M [lC] 34]) ((0:Int),o.2.2) (aj) h SF (a_.refl _) ?_;intro c7 K ak h;refine aV<|cM Z<|aM<|aK ?_;refine eV h Z (λh=>?_) λh=>?_
       ·refine cK<|aK<|aS<|aV<|cX h λbf h=>aB (aZ Z Z (aF.el (aF.fact 4 Z) aa.1 aa.2) Z Z bf) Z<|aB (jA (cs:=[vI ((at' (at' G.2 o.1) K.1).1),vI ((at' (at' G.2 o.1) K.1).2)]) Z (aF.el (aF.fact 4 Z) aa.1 aa.2) bU Z Z Z Z bf) Z<|aH (aN.alloc (cs:=VH) Z Z) Z λc6=>bS 0 (vs:=[vI ((at' (at' G.2 o.1) K.1).1),vI ((at' (at' G.2 o.1) K.1).2)]) Z Z Z Z Z Z<|aM ?_;refine JR.start [0,1,3,7,0,0,32,96,224,0,992,2016,0,0,8192,0,61440,126976,262112,524287,1048575] 19 mixedOrders (by decide +kernel) ?_;refine JR.open (by exact rfl) ?_;refine bG Z<|jS Z (b_ Z)<|dB Z<|jR 1 Z<|bG Z<|bG Z<|jS Z (b_ Z)<|dB Z<|jR 1 Z<|bG Z<|cX h λaP h=>eO (dL 3 Z) λbo=>?_;refine bK Z (a_.cons 2 Z .nil) .nil (jU 0 Z Z Z Z Z aP.1 (by have q1:=aP.2;have q2:=bo;(try simp only[List.length_set]at q1);(try simp only[List.length_set]at q2);(try simp only[List.length_set]);omega)) aO.z ?_;refine eO (dL 3 Z) λbp=>bK Z (a_.cons 2 Z .nil) .nil (nQ 0 Z Z bp Z Z aP) aO.z<|pX 4 Z<|dB Z<|jR 0 Z<|bG Z<|fH h λax cR h=>JR.loud Z Z Z (aN.callQ adG (KC U E D z4 ax cR) Z (oS [3,4] Z)) Z (λcW=>(wF [([2],[]),([2],[]),([1],[]),([1],[])] Z)) λcW=>JR.loud Z Z Z (bY (e:=bZ) ([ax]) [(0,vI (ax))] Z Z Z Z (mO (vI (ax)) Z) Z Z Z) Z (λcw=>(wF [([3],[]),([3],[]),([2],[]),([2],[])] Z)) λcw=>cX h λck h=>JR.loud Z Z Z (qT 4 dJ Z Z Z (bD (aF.res 0 Z) dJ) Z Z Z Z aP ck Z) Z (λbn=>(wF [([2],[])] Z)) λbn=>bP 19 Z Z<|cX h λab h=>cG (dL 4 Z) λbq=>?_;refine aB (jU 3 Z Z Z Z Z ab.1 (by have q1:=ab.2;have q2:=bq;(try simp only[List.length_set]at q1);(try simp only[List.length_set]at q2);(try simp only[List.length_set]);omega)) Z ?_;refine cG (Bd 4 (k:=o.1) Z ⟨ab.1,by first|exact ab.2|simpa using ab.2⟩) λb0=>?_;refine qE 3 4 ⟨ab.1,by first|exact ab.2|simpa using ab.2⟩ Z Z Z Z Z (by simp) b0 Z ?_;refine eI<|mA<|aR<|cH Z<|aA Z<|aM ?_;exact mG ((wI .i64 (K.1+(1:Int))),(List.set K.2 (Int.toNat o.1) ((at' K.2 o.1)++[ax]))) (List.set ak (Int.toNat o.1) bn) h SF (a_.ix [2,3,4,5,6,7,8,9,10,11,12] Z Z) (aG.refl _ _)
       refine pH<|dV<|dV<|vM<|mA ?_;exact iB (K.2) (ak) h SF Z
      intro ae aw h;unfold yT at h;refine aR<|cH Z<|aA Z<|aM ?_;exact xT ((wI .i64 (o.1+(1:Int))),(max o.2.1 (at' G.1 o.1)),ae) (aw) h SF Z
     refine e_ ?_;exact cC (o.2.1,o.2.2) (aj) h SF (a_.ix [0,1,2,4,5,6,7,8,9,10] Z Z) (aG.refl _ _)
    intro X av h;unfold uB at h;refine aV<|aA Z<|aE Z<|aM<|aW ?_;exact tJ (X.1,X.2) (T,L,av) h (.inl Z) (Hb.r1 Z (RV.tmp Z)) Z (a_.refl _) (aG.refl _ _)
   intro S I h;unfold Aw at h;refine bK Z (a_.cons 4 Z .nil) .nil (iN 0 Z Z Z Z) (aO.h (a_.ix [1] Z Z) .nil aO.z)<|bK Z (a_.cons 3 Z .nil) .nil (iN 0 Z Z Z Z) (aO.h (a_.ix [0] Z Z) .nil aO.z)<|fH h λbm cP h=>JR.loud Z Z Z (aN.callQ WV (Ej U u v E D z4 bm cP) Z (oS [0,1,2,3,4] Z)) Z (λay=>(wF [([6],[])] Z)) λay=>bP 7 Z Z<|cG (Know.one (aF.sl (cB (i:=0) (j:=1) Z Z bU))) λbN=>?_;refine aB (Wy (r:=Value.agg #[vS (s.1),u,v,Value.pointer (some ⟨I.1,0,none⟩),ay.1]) Z Z Z (by intro w;simp[Instr.build,Instr.fill,fC,eB,dH,fD,fE,eD,gR,eN bN])) Z ?_;refine aH (aN.box (cs:=[vS (s.1),u,v,vP I.1,ay.1]) Z Z) Z λb3=>aE Z<|aM<|aW ?_;exact tJ (bm,S.1,S.2) (b3,I.1,ay.1,ay.2,I.2.1,I.2.2) h (.inl Z) (Hb.r1 Z (RV.tmp Z)) Z (a_.ix [0,1,2,3,4,5,8,9,10,11,12] Z Z) (aG.refl _ _)
  intro P t h;unfold Av at h;refine bK Z (a_.cons 7 Z .nil) .nil (iN 0 Z Z Z Z) (aO.h (a_.ix [1] Z Z) .nil aO.z)<|fH h λbl cL h=>JR.loud Z Z Z (aN.callQ adw (Ix U E D z4 bl cL) Z (oS [3,4] Z)) Z (λa0=>(wF [] Z)) λa0=>jS Z (iG Z)<|bK Z (a_.cons 8 Z .nil) .nil (iN 0 Z Z Z Z) (aO.h (a_.ix [7] Z Z) .nil (aO.h (a_.ix [1] Z Z) .nil aO.z))<|fH h λaT cO h=>JR.loud Z Z Z (aN.callQ adx (Qd U E D z4 aT cO) Z (oS [3,4] Z)) Z (λcV=>(wF [] Z)) λcV=>jS Z (iG Z)<|bP 9 Z Z<|cG (Know.one ((bD (aF.res 0 Z) vG))) λbI=>?_;refine aB (Y.bld5 (r:=Value.agg #[Value.pointer (some ⟨t.1,0,none⟩),a0,vI (R),vU (aT),Value.func (.func 48) #[] #[Value.pointer (some ⟨M,0,none⟩),Value.pointer (some ⟨N,0,none⟩)]]) Z Z Z Z Z (by intro w;simp[Instr.build,Instr.fill,fC,eB,dH,fD,fE,eD,gR,eN bI])) Z ?_;refine cG (Know.one ((bD (aF.res 0 Z) vG))) λbL=>bS 7 (vs:=[vP t.1,a0,vI (R),vU (aT),Value.func (.func 48) #[] #[vP M,vP N]]) Z Z (lE Z (lE bL (lE Z (lE Z (lE Z Z))))) Z Z Z<|aM<|aW ?_;exact tJ (aT,bl,P.1,P.2.1,P.2.2) (t.1,a0,t.2.1,t.2.2.1,t.2.2.2.1,t.2.2.2.2.1,t.2.2.2.2.2) h (.inl Z) (Hb.r1 Z (RV.cell 7 Z Z Z Z)) Z (a_.ix [0,1,2,3,4,5,6,10,11] Z Z) (aG.refl _ _)
 intro g a h;refine aH (aN.alloc (cs:=vD1) Z Z) Z λdf=>cG (Know.one ((bD (aF.res 1 Z) vG))) λb4=>bS 0 (vs:=[vP a.1,a.2.1,vI (R),vU (g.1),Value.func (.func 48) #[] #[vP M,vP N]]) Z Z (lE Z (lE b4 (lE Z (lE Z (lE Z Z))))) Z Z Z<|aM<|aK<|aV<|eK 0 Z<|aA Z<|aA Z<|Bt (A:=acu) (B:=Value×Value×Value×Value×Value×List Value×List Value×List (List Value)) (vs:=[Value.agg #[vP a.1,a.2.1,vI (R),vU (g.1),Value.func (.func 48) #[] #[vP M,vP N]],v5,v7]) (λJ=>GJ  J=some r) (λJ F=>Value.tuple #[Value.agg #[F.1,F.2.1,F.2.2.1,vI (J.1),vI (J.2.1),vI (J.2.2.1),vI (J.2.2.2.1),vU (J.2.2.2.2.1)],vI (J.2.2.2.2.2.1)]) (λJ F=>[Ar cN F.2.2.2.1 J.2.2.2.2.2.2.2.2.2.1,Lq bZ F.2.2.2.2.2.2.1 F.2.2.2.2.2.2.2 J.2.2.2.2.2.2.2.2.2.2,Ar dA.raw F.2.2.2.2.1 F.2.2.2.2.2.2.1,bV N [F.2.2.2.1] 35,bV M [F.2.2.2.2.1] 34,Ar pF F.1 J.2.2.2.2.2.2.1,Ar pF F.2.1 J.2.2.2.2.2.2.2.1,Ar dA.raw F.2.2.1 F.2.2.2.2.2.1,lU bZ F.2.2.2.2.2.1 J.2.2.2.2.2.2.2.2.1]) (λJ F=>[Sl aU u s.2.1,Sl aL v s.2.2,PF (Value.agg #[vS s.1,u,v]),Sl bO E G.1,S2 bB D z4 G.2,S2 bO v5 z6 p3,Sl Ai v7 p4,Gb 0 (cellsOf HU xM)]) (tG.fn (show aX Tryz.prog 50 from Tryz.call50) Z) Tryz.func50 Z Tryz.ntmps50 Z Z ?_ ?_
 ·refine aV<|aH (aN.box (cs:=[vP a.1,a.2.1,vI (R),vU (g.1),Value.func (.func 48) #[] #[vP M,vP N]]) Z Z) Z λao=>cG (Know.one ((aF.fact 6 Z))) λca=>?_;refine aH (aN.box (cs:=[v7]) Z (by rw[eN ca])) Z λap=>?_;refine aH (aN.alloc (cs:=Qo) Z Z) Z λa1=>aE Z<|aM<|aV<|eK 2 Z<|aA Z<|dD 1 Z<|kF (aF.fact 6 Z) Z<|aB (x_ (cs:=[.tmp 3,.tmp 5]) (vs:=[vP ao,vP ap]) Z) Z<|Bt (A:=acv) (B:=Value×Value×List Value×List (List Value)×Value×Value×Value×List Value) (vs:=[Value.agg #[vP a.1,a.2.1,vI (R),vU (g.1),Value.func (.func 48) #[] #[vP M,vP N]],v5,vI (List.length p4:Int),Value.func (.func 79) #[] #[vP ao,vP ap]]) (λy=>Au  y=some r) (λy C=>Value.tuple #[Value.agg #[C.2.2.2.2.1,C.2.2.2.2.2.1,C.2.2.2.2.2.2.1,vI (y.2.2.2.2.2.1),vI (y.2.2.2.2.2.2.1),vI (y.2.2.2.2.2.2.2.1),vI (y.2.2.2.2.2.2.2.2.1),vU (y.2.2.2.2.2.2.2.2.2.1)],vI (y.2.2.2.2.2.2.2.2.2.2)]) (λy C=>[Ar cN C.1 y.1,Lq bZ C.2.2.1 C.2.2.2.1 y.2.1,Ar dA.raw C.2.1 C.2.2.1,bV a1 Qo 72,bV N [C.1] 35,bV M [C.2.1] 34,Ar pF C.2.2.2.2.1 y.2.2.1,Ar pF C.2.2.2.2.2.1 y.2.2.2.1,Ar dA.raw C.2.2.2.2.2.2.1 C.2.2.2.2.2.2.2,lU bZ C.2.2.2.2.2.2.2 y.2.2.2.2.1]) (λy C=>[Sl aU u s.2.1,Sl aL v s.2.2,PF (Value.agg #[vS s.1,u,v]),Sl bO E G.1,S2 bB D z4 G.2,S2 bO v5 z6 p3,Sl Ai v7 p4,Gb 0 (cellsOf HU xM)]) (tG.fn (show aX Tryz.prog 78 from Tryz.call78) Z) Tryz.func78 Z Tryz.ntmps78 Z Z ?_ ?_
  ·refine aV<|aH (aN.box (cs:=[vP a.1,a.2.1,vI (R),vU (g.1),Value.func (.func 48) #[] #[vP M,vP N]]) Z Z) Z λa4=>aH (aN.alloc (cs:=Qo) Z Z) Z λaC=>aE Z<|aM<|aV<|aH (aN.alloc (cs:=Qo) Z Z) Z λaD=>aM<|aV<|aA Z<|fH h λa2 cY h=>aH (aN.callQ MU (yX U v5 z6 a2 cY) Z (oS [5] Z)) Z λad=>aE Z<|aM<|aK ?_;refine JR.start [0,1,0,7,0,16,63,127] 6 mixedOrders (by decide +kernel) ?_;refine JR.open (by exact rfl) ?_;refine dB Z<|jR 4 Z<|bG Z<|fH h λaq c0 h=>JR.loud Z Z Z (aN.callQ WO (v_ U a.1 u v a.2.2.1 u v E D z4 a.2.2.2.2.2.1 (List.zip a.2.2.2.2.2.2 g.2.2.2.2) a.2.2.2.1 (List.zip a.2.2.2.2.1 g.2.2.1) ad.1 (List.zip ad.2 a2) aq c0) Z (aG.cons (aF.res 10 Z) (aG.cons (aF.fact 0 Z) (aG.cons (aF.fact 1 Z) (aG.cons (aF.res 13 Z) (aG.cons (aF.fact 0 Z) (aG.cons (aF.fact 1 Z) (aG.cons (aF.fact 3 Z) (aG.cons (aF.fact 4 Z) (aG.cons (cB (i:=14) (j:=15) Z Z dJ) (aG.cons (cB (i:=11) (j:=12) Z Z bU) (aG.cons (cB (i:=0) (j:=1) Z Z dJ) .nil)))))))))))) Z (λc2=>(wF [] Z)) λc2=>jS Z (dC Z Z Z Z Z)<|bK Z (a_.cons 4 Z .nil) .nil (eH 0 Z Z Z Z Z) (aO.h (a_.ix [4] Z Z) .nil aO.z)<|bP 6 Z Z<|Ab Z<|aE Z<|aM<|aV<|aA Z<|fH h λm c1 h=>aH (aN.callQ aaf (Iv U  m c1) Z .nil) Z λdi=>aH (aN.alloc (cs:=vD2) Z Z) Z λaI=>bS 0 (vs:=[vI (m.1),vI (m.2.1),vI (m.2.2.1),vI (m.2.2.2.1),vU (m.2.2.2.2)]) Z Z Z Z Z Z<|aM<|aV<|bT Z<|dD 5 Z<|aA Z<|aA Z<|eK 0 Z<|Bt (A:=Ac) (B:=Value×Value×List Value×List (List Value)) (vs:=[ad.1,vU (dR .u32 aq g.1),Value.agg #[vI (m.1),vI (m.2.1),vI (m.2.2.1),vI (m.2.2.2.1),vU (m.2.2.2.2)],vP M,vP N]) (λaz=>CO U s G R p4 g a2 aq m az=some r) (λaz V=>Value.tuple #[]) (λaz V=>[Ar cN V.1 (([]:Ml)++([(m.1,m.2.1,m.2.2.1,m.2.2.2.1,m.2.2.2.2)])),Lq bZ V.2.2.1 V.2.2.2 az,Ar dA.raw V.2.1 V.2.2.1,bV aI [vI (m.1),vI (m.2.1),vI (m.2.2.1),vI (m.2.2.2.1),vU (m.2.2.2.2)] 47,Ar dA.raw ad.1 ad.2,lU bZ ad.2 a2,bV aD Qo 72,bV aC Qo 72,bV a4 [vP a.1,a.2.1,vI (R),vU (g.1),Value.func (.func 48) #[] #[vP M,vP N]] 92,bV a1 Qo 72,bV ap [v7] 25,bV ao [vP a.1,a.2.1,vI (R),vU (g.1),Value.func (.func 48) #[] #[vP M,vP N]] 92,Ar pF a.2.1 g.2.1,bV a.1 [vS (s.1),u,v,vP a.2.2.1,a.2.2.2.1] 106,Ar dA.raw a.2.2.2.1 a.2.2.2.2.1,lU cF a.2.2.2.2.1 g.2.2.1,bV a.2.2.1 [vS (s.1),u,v,E,D,vI (g.2.2.2.1),a.2.2.2.2.2.1] 134,Ar dA.raw a.2.2.2.2.2.1 a.2.2.2.2.2.2,lU bZ a.2.2.2.2.2.2 g.2.2.2.2,bV N [V.1] 35,bV M [V.2.1] 34]) (λaz V=>[Sl aU u s.2.1,Sl aL v s.2.2,PF (Value.agg #[vS s.1,u,v]),Sl bO E G.1,S2 bB D z4 G.2,S2 bO v5 z6 p3,Sl Ai v7 p4,Gb 0 (cellsOf HU xM)]) (Hh (us:=[ad.1,vU (dR .u32 aq g.1),Value.agg #[vI (m.1),vI (m.2.1),vI (m.2.2.1),vI (m.2.2.2.1),vU (m.2.2.2.2)]]) (cs:=[vP M,vP N]) (show aX Tryz.prog 48 from Tryz.call48) Z Z Z) Tryz.func48 Z Tryz.ntmps48 Z Z ?_ ?_
   ·refine aV<|aH (aN.box (cs:=[vI (m.1),vI (m.2.1),vI (m.2.2.1),vI (m.2.2.2.1),vU (m.2.2.2.2)]) Z Z) Z λc4=>aM<|aK ?_;refine JR.start [0,0,2,6,15,31] 4 mixedOrders (by decide +kernel) ?_;refine JR.open (by exact rfl) ?_;refine jR 19 Z<|bG Z<|fH h λbk cJ h=>JR.loud Z Z Z (aN.callQ MU (yX U ad.1 (List.zip ad.2 a2) bk cJ) Z (aG.cons (cB (i:=2) (j:=3) Z Z dJ) .nil)) Z (λan=>(wF [([21],[])] Z)) λan=>eO (Know.one (aF.sl (cB (i:=0) (j:=1) Z Z dJ))) λba=>JR.stp (AC bZ)<|JR.stp (SX 1 2 Z Z Z)<|JR.stp (Jr 0 1 Z Z Z) ?_;refine JR.loud Z Z Z (bY (e:=dA.raw) (([]:fV)++[an.1]) [(0,an.1)] Z Z Z Z (mO (an.1) ba) Z Z (by simp[cellsOf,dA.raw,ba])) Z (λct=>(wF [([21],[])] Z)) λct=>?_;refine bP 4 Z Z<|jD (gQ dA.raw) (jD (AC bZ) ?_);refine cG (AA 0 Z) λa7=>cG (AA 3 Z) λa8=>cX h λbd h=>jD (Js 0 3 Z Z Z) ?_;refine aH (aN.append 1 2 Z Z Z Z Z Z Z (by have q:=bd;have q1:=a7;have q2:=a8;(try simp only[List.length_cons,List.length_nil,List.length_append]at q q1 q2 ⊢);omega) (by have q:=bd;have q1:=a7;have q2:=a8;(try simp only[List.length_cons,List.length_nil,List.length_append]at q q1 q2 ⊢);omega) Z) Z λcu=>?_;refine cG (Jn 1 Z) λbE=>iI 22 Z Z bE Z Z Z<|aM<|aR<|dD 21 Z<|eK 3 Z<|aH (bY (e:=cN) ([((m.1,m.2.1,m.2.2.1,m.2.2.2.1,m.2.2.2.2))]) [(0,Value.agg #[vI (m.1),vI (m.2.1),vI (m.2.2.1),vI (m.2.2.2.1),vU (m.2.2.2.2)])] Z Z Z Z (O_ (vI (m.1)) (vI (m.2.1)) (vI (m.2.2.1)) (vI (m.2.2.2.1)) (vU (m.2.2.2.2))) Z Z Z) Z λdb=>jD (gQ cN)<|cX h λci h=>aH (eQ 0 gG Z Z Z (bD (aF.res 1 Z) gG) Z Z Z Z ci Z) Z λcv=>cG (Know.one ((bD (aF.res 0 Z) gG))) λbH=>iI 23 Z Z bH Z Z Z<|eI ?_;exact tJ (([]:Ac)++(([]:Ac)++[bk])) (cv,cu,(([]:fV)++(([]:fV)++[an.1])),(([]:List (List Value))++(([]:List (List Value))++[an.2]))) h (.inr Z) (Hb.r0 Z) Z (a_.ix [0,2,3,6,7,8,9,10,11,12,13,14,16,17,18,19,20,21,22,23,24] Z Z) (aG.refl _ _)
   intro az V h;refine aM<|aV<|bT Z<|dD 6 Z<|aA Z<|aH (bY (e:=pF) ([(dR .u32 aq g.1)]) [(0,vU (dR .u32 aq g.1))] Z Z Z Z (mO (vU (dR .u32 aq g.1)) Z) Z Z Z) Z λdh=>jD (gQ pF)<|cX h λce h=>aH (eQ 0 vG Z Z Z (bD (aF.res 1 Z) vG) Z Z Z Z ce Z) Z λcm=>bT Z<|cG (Know.one ((bD (aF.res 0 Z) vG))) λbr=>iI 8 Z Z br Z Z Z<|aM<|aK<|DZ (B:=Value×List Value×Value×Value×Value×Value×List Value×List (List Value)) (λn=>xG  n=some r) (λn p=>[(1,p.1),(8,vP aC),(10,vP aD),(12,vP aI)]) (λn p=>[Ar pF p.2.2.2.1 n.1,Ar cN p.2.2.2.2.1 n.2.2.2.2.2.2.2.2.1,Lq bZ p.2.2.2.2.2.2.1 p.2.2.2.2.2.2.2 n.2.2.2.2.2.2.2.2.2,Ar dA.raw p.2.2.2.2.2.1 p.2.2.2.2.2.2.1,bV aI [vI (n.2.1),vI (n.2.2.1),vI (n.2.2.2.1),vI (n.2.2.2.2.1),vU (n.2.2.2.2.2.1)] 47,Ar dA.raw p.1 p.2.1,lU bZ p.2.1 n.2.2.2.2.2.2.1,bV aD [p.2.2.1,p.2.2.2.1,lC,vI (0:Int),vI (0:Int),vI (0:Int),vI (0:Int),vU (0:Int)] 72,bV aC Qo 72,bV a1 Qo 72,bV N [p.2.2.2.2.1] 35,bV M [p.2.2.2.2.2.1] 34,Ar pF p.2.2.1 n.2.2.2.2.2.2.2.1]) ?_ ?_
   ·refine aV<|aA Z<|aA Z<|aM<|aS<|jD (gQ pF)<|dU (B:=Value×List Value×Value×Value×Value×Value×List Value×List (List Value)) (tB U s G R p4 g) (λb d=>[(1,d.1),(3,Value.func (.func 79) #[] #[vP ao,vP ap]),(4,vP a4),(8,vP aC),(10,vP aD),(11,vU (b.1)),(12,vP aI),(39,vI (List.length p4:Int)),(40,vI (b.2.2.1))]) (λb d=>[Ar pF d.2.2.2.1 b.2.1,Ar cN d.2.2.2.2.1 b.2.2.2.2.2.2.2.2.2.2.1,Lq bZ d.2.2.2.2.2.2.1 d.2.2.2.2.2.2.2 b.2.2.2.2.2.2.2.2.2.2.2,Ar dA.raw d.2.2.2.2.2.1 d.2.2.2.2.2.2.1,bV aI [vI (b.2.2.2.1),vI (b.2.2.2.2.1),vI (b.2.2.2.2.2.1),vI (b.2.2.2.2.2.2.1),vU (b.2.2.2.2.2.2.2.1)] 47,Ar dA.raw d.1 d.2.1,lU bZ d.2.1 b.2.2.2.2.2.2.2.2.1,bV aD [d.2.2.1,d.2.2.2.1,lC,vI (0:Int),vI (0:Int),vI (0:Int),vI (0:Int),vU (0:Int)] 72,bV aC Qo 72,bV a4 [vP a.1,a.2.1,vI (R),vU (g.1),Value.func (.func 48) #[] #[vP M,vP N]] 92,bV a1 Qo 72,bV ap [v7] 25,bV ao [vP a.1,a.2.1,vI (R),vU (g.1),Value.func (.func 48) #[] #[vP M,vP N]] 92,Ar pF a.2.1 g.2.1,bV a.1 [vS (s.1),u,v,vP a.2.2.1,a.2.2.2.1] 106,Ar dA.raw a.2.2.2.1 a.2.2.2.2.1,lU cF a.2.2.2.2.1 g.2.2.1,bV a.2.2.1 [vS (s.1),u,v,E,D,vI (g.2.2.2.1),a.2.2.2.2.2.1] 134,Ar dA.raw a.2.2.2.2.2.1 a.2.2.2.2.2.2,lU bZ a.2.2.2.2.2.2 g.2.2.2.2,bV N [d.2.2.2.2.1] 35,bV M [d.2.2.2.2.2.1] 34,Ar pF d.2.2.1 b.2.2.2.2.2.2.2.2.2.1]) ((dR .u32 aq g.1),(([]:aQ)++([(dR .u32 aq g.1)])),(0:Int),m.1,m.2.1,m.2.2.1,m.2.2.2.1,m.2.2.2.2,a2,([]:aQ),(([]:Ml)++([(m.1,m.2.1,m.2.2.1,m.2.2.2.1,m.2.2.2.2)])),az) (ad.1,ad.2,(lC),cm,V.1,V.2.1,V.2.2.1,V.2.2.2) h SF (a_.ix [1,3,4,5,6,7,8,9,10,11,12,13,14,15,16,17,18,19,20,21,22,23,0] Z Z) ?_;intro bg b d h;refine aV<|cM Z<|aM<|aK ?_;refine eV h Z (λh=>?_) λh=>?_
    ·refine cK<|aK<|aS<|aV<|aA Z<|aE Z<|aM<|aV<|aA Z<|aA Z<|aA Z<|Bt (A:=Int) (B:=Unit) (vs:=[vI (b.2.2.1),vU (b.1),vP ao,vP ap]) (λO=>CP U s G R g b (bJ (tB U s G R p4 g) bg) O=some r) (λO a3=>Value.tuple #[vU (O),vB (decide (b.1≠(0:Int)))]) (λO a3=>[Ar pF d.2.2.2.1 b.2.1,Ar cN d.2.2.2.2.1 b.2.2.2.2.2.2.2.2.2.2.1,Lq bZ d.2.2.2.2.2.2.1 d.2.2.2.2.2.2.2 b.2.2.2.2.2.2.2.2.2.2.2,Ar dA.raw d.2.2.2.2.2.1 d.2.2.2.2.2.2.1,bV aI [vI (b.2.2.2.1),vI (b.2.2.2.2.1),vI (b.2.2.2.2.2.1),vI (b.2.2.2.2.2.2.1),vU (b.2.2.2.2.2.2.2.1)] 47,Ar dA.raw d.1 d.2.1,lU bZ d.2.1 b.2.2.2.2.2.2.2.2.1,bV aD [d.2.2.1,d.2.2.2.1,lC,vI (0:Int),vI (0:Int),vI (0:Int),vI (0:Int),vU (0:Int)] 72,bV aC Qo 72,bV a4 [vP a.1,a.2.1,vI (R),vU (g.1),Value.func (.func 48) #[] #[vP M,vP N]] 92,bV a1 Qo 72,bV ap [v7] 25,bV ao [vP a.1,a.2.1,vI (R),vU (g.1),Value.func (.func 48) #[] #[vP M,vP N]] 92,Ar pF a.2.1 g.2.1,bV a.1 [vS (s.1),u,v,vP a.2.2.1,a.2.2.2.1] 106,Ar dA.raw a.2.2.2.1 a.2.2.2.2.1,lU cF a.2.2.2.2.1 g.2.2.1,bV a.2.2.1 [vS (s.1),u,v,E,D,vI (g.2.2.2.1),a.2.2.2.2.2.1] 134,Ar dA.raw a.2.2.2.2.2.1 a.2.2.2.2.2.2,lU bZ a.2.2.2.2.2.2 g.2.2.2.2,bV N [d.2.2.2.2.1] 35,bV M [d.2.2.2.2.2.1] 34,Ar pF d.2.2.1 b.2.2.2.2.2.2.2.2.2.1]) (λO a3=>[Sl aU u s.2.1,Sl aL v s.2.2,PF (Value.agg #[vS s.1,u,v]),Sl bO E G.1,S2 bB D z4 G.2,S2 bO v5 z6 p3,Sl Ai v7 p4,Gb 0 (cellsOf HU xM)]) (Hh (us:=[vI (b.2.2.1),vU (b.1)]) (cs:=[vP ao,vP ap]) (show aX Tryz.prog 79 from Tryz.call79) Z Z Z) Tryz.func79 Z Tryz.ntmps79 Z Z ?_ ?_
     ·refine aV<|aE Z<|aE Z<|aM<|aK ?_;refine JR.start [0,1,0,4,0,0,0,96,224,511,0,1024,1023,8191] 13 mixedOrders (by decide +kernel) ?_;refine JR.open (by exact rfl) ?_;refine dB Z<|jR 12 Z<|dB Z<|jR 12 Z<|bG Z<|jR 11 Z<|bG Z<|cX h λbc h=>bK Z .nil (kA 6 Z) (aZ Z Z (aF.fact 0 Z) Z Z bc) aO.z<|bK Z .nil (kA 6 Z) (bQ Z (aF.fact 0 Z) Z Z Z Hm bc) aO.z<|fH h λbj cI h=>JR.loud Z Z Z (aN.callQ WX (xJ U a.2.1 bj cI) Z (aG.cons (bD (aF.res 13 Z) vG) (oS [7] Z))) Z (λcU=>(wF [] Z)) λcU=>jS Z (iG Z)<|jS Z (Df Z Z)<|jS Z (nZ Z)<|bP 13 Z Z<|aE Z<|aM<|aW ?_;exact tJ (bj) () h (.inl Z) (Hb.r2 Z (RV.tmp Z) (RV.tmp Z)) Z (a_.refl _) (aG.refl _ _)
     intro O a3 h;refine aA Z<|iY Z<|iY Z<|aE Z<|aE Z<|aM<|aK<|aV<|aA Z<|aB (acS Z) Z<|aM ?_;refine eV h Z (λh=>?_) λh=>?_
     ·refine pH<|dV<|ZG Z<|dV<|dV<|vM<|Ae ?_;exact cC (b.2.1,b.2.2.2.1,b.2.2.2.2.1,b.2.2.2.2.2.1,b.2.2.2.2.2.2.1,b.2.2.2.2.2.2.2.1,b.2.2.2.2.2.2.2.2.1,b.2.2.2.2.2.2.2.2.2.1,b.2.2.2.2.2.2.2.2.2.2.1,b.2.2.2.2.2.2.2.2.2.2.2) (d.1,d.2.1,d.2.2.1,d.2.2.2.1,d.2.2.2.2.1,d.2.2.2.2.2.1,d.2.2.2.2.2.2.1,d.2.2.2.2.2.2.2) h SF (a_.ix [0,1,2,3,4,5,6,7,8,10,20,21,22] Z Z) (aG.refl _ _)
     refine cK<|aK<|aV<|bT Z<|dD 9 Z<|bT Z<|dD 9 Z<|aA Z<|aA Z<|fH h λcl cx h=>aH (aN.callQ Td (xI U a.2.1 cl cx) Z (aG.cons (bD (aF.res 13 Z) vG) (oS [7] Z))) Z λdd=>aB (oQ Z) Z<|aM ?_;refine AZ h Z (λ_ h=>?_) λ_ h=>?_
     ·refine aV ?_;refine aB (MJ (r:=Value.agg #[lC,lC,lC,vI (0:Int),vI (0:Int),vI (0:Int),vI (0:Int),vU (0:Int)]) (by intro w;simp[Instr.build,Instr.fill,fC,eB,dH,fD,fE,eD,gR])) Z ?_;refine bS 8 (vs:=Qo) Z Z Z Z Z Z<|aE Z<|aM<|aW<|aJ<|bM<|aJ<|aJ<|bM<|aJ<|jD (gQ pF)<|jD (gQ pF)<|jD (gQ dA.raw) (jD (DD bZ) ?_);exact tJ (b.2.2.2.2.2.2.2.2.2.2.1,b.2.2.2.2.2.2.2.2.2.2.2,([]:aQ),([]:aQ),([]:bF),(0:Int),(0:Int),(0:Int),(0:Int),(0:Int),(11:Int)) (d.2.2.2.2.1,d.2.2.2.2.2.1,d.2.2.2.2.2.2.1,d.2.2.2.2.2.2.2,(lC),(lC),(lC),([]:fV)) h (.inl Z) (Hb.r2 Z (RV.cell 12 Z Z Z Z) (RV.tmp Z)) Z (a_.ix [5,6,7,14,24,25,2,3,1,0] Z Z) (aG.refl _ _)
     refine cK<|aV<|bT Z<|dD 9 Z<|aA Z<|aA Z<|fH h λal cy h=>aH (aN.callQ aag (Ei U a.1 u v a.2.2.1 u v E D z4 a.2.2.2.2.2.1 (List.zip a.2.2.2.2.2.2 g.2.2.2.2) a.2.2.2.1 (List.zip a.2.2.2.2.1 g.2.2.1) d.1 (List.zip d.2.1 b.2.2.2.2.2.2.2.2.1) al cy) Z (aG.cons (aF.res 14 Z) (aG.cons (aF.fact 0 Z) (aG.cons (aF.fact 1 Z) (aG.cons (aF.res 17 Z) (aG.cons (aF.fact 0 Z) (aG.cons (aF.fact 1 Z) (aG.cons (aF.fact 3 Z) (aG.cons (aF.fact 4 Z) (aG.cons (cB (i:=18) (j:=19) Z Z dJ) (aG.cons (cB (i:=15) (j:=16) Z Z bU) (aG.cons (cB (i:=5) (j:=6) Z Z dJ) .nil)))))))))))) Z λQ=>aE Z<|aM<|aK ?_;refine JR.start [0,1,0,7,0,16,63,127] 6 mixedOrders (by decide +kernel) ?_;refine JR.open (by exact rfl) ?_;refine dB Z<|jR 11 Z<|bG Z<|fH h λW cz h=>JR.loud Z Z Z (aN.callQ WO (v_ U a.1 u v a.2.2.1 u v E D z4 a.2.2.2.2.2.1 (List.zip a.2.2.2.2.2.2 g.2.2.2.2) a.2.2.2.1 (List.zip a.2.2.2.2.1 g.2.2.1) Q.1 (List.zip Q.2 al) W cz) Z (aG.cons (aF.res 16 Z) (aG.cons (aF.fact 0 Z) (aG.cons (aF.fact 1 Z) (aG.cons (aF.res 19 Z) (aG.cons (aF.fact 0 Z) (aG.cons (aF.fact 1 Z) (aG.cons (aF.fact 3 Z) (aG.cons (aF.fact 4 Z) (aG.cons (cB (i:=20) (j:=21) Z Z dJ) (aG.cons (cB (i:=17) (j:=18) Z Z bU) (aG.cons (cB (i:=0) (j:=1) Z Z dJ) .nil)))))))))))) Z (λcT=>(wF [] Z)) λcT=>jS Z (dC Z Z Z Z Z)<|bK Z (a_.cons 11 Z .nil) .nil (eH 0 Z Z Z Z Z) (aO.h (a_.ix [11] Z Z) .nil aO.z)<|bP 6 Z Z<|Ab Z<|aE Z<|aM<|aV<|eK 6 Z<|aA Z<|aA Z<|fH h λf cA h=>aH (aN.callQ aah (K_ U  f cA) Z .nil) Z λde=>aA Z<|iY Z<|iY Z<|bS 6 (vs:=[vI (f.1.1),vI (f.1.2.1),vI (f.1.2.2.1),vI (f.1.2.2.2.1),vU (f.1.2.2.2.2)]) Z Z Z Z Z Z<|aM<|aV<|bT Z<|dD 11 Z<|aA Z<|aA Z<|eK 6 Z<|Bt (A:=Ac) (B:=Value×Value×List Value×List (List Value)) (vs:=[Q.1,vU (dR .u32 W g.1),Value.agg #[vI (f.1.1),vI (f.1.2.1),vI (f.1.2.2.1),vI (f.1.2.2.2.1),vU (f.1.2.2.2.2)],vP M,vP N]) (λac=>CQ g b (bJ (tB U s G R p4 g) bg) O al W f ac=some r) (λac H=>Value.tuple #[]) (λac H=>[Ar dA.raw Q.1 Q.2,lU bZ Q.2 al,Ar pF d.2.2.2.1 b.2.1,Ar cN H.1 (b.2.2.2.2.2.2.2.2.2.2.1++([(f.1.1,f.1.2.1,f.1.2.2.1,f.1.2.2.2.1,f.1.2.2.2.2)])),Lq bZ H.2.2.1 H.2.2.2 ac,Ar dA.raw H.2.1 H.2.2.1,bV aI [vI (f.1.1),vI (f.1.2.1),vI (f.1.2.2.1),vI (f.1.2.2.2.1),vU (f.1.2.2.2.2)] 47,bV aD [d.2.2.1,d.2.2.2.1,lC,vI (0:Int),vI (0:Int),vI (0:Int),vI (0:Int),vU (0:Int)] 72,bV aC Qo 72,bV a4 [vP a.1,a.2.1,vI (R),vU (g.1),Value.func (.func 48) #[] #[vP M,vP N]] 92,bV a1 Qo 72,bV ap [v7] 25,bV ao [vP a.1,a.2.1,vI (R),vU (g.1),Value.func (.func 48) #[] #[vP M,vP N]] 92,Ar pF a.2.1 g.2.1,bV a.1 [vS (s.1),u,v,vP a.2.2.1,a.2.2.2.1] 106,Ar dA.raw a.2.2.2.1 a.2.2.2.2.1,lU cF a.2.2.2.2.1 g.2.2.1,bV a.2.2.1 [vS (s.1),u,v,E,D,vI (g.2.2.2.1),a.2.2.2.2.2.1] 134,Ar dA.raw a.2.2.2.2.2.1 a.2.2.2.2.2.2,lU bZ a.2.2.2.2.2.2 g.2.2.2.2,bV N [H.1] 35,bV M [H.2.1] 34,Ar pF d.2.2.1 b.2.2.2.2.2.2.2.2.2.1]) (λac H=>[Sl aU u s.2.1,Sl aL v s.2.2,PF (Value.agg #[vS s.1,u,v]),Sl bO E G.1,S2 bB D z4 G.2,S2 bO v5 z6 p3,Sl Ai v7 p4,Gb 0 (cellsOf HU xM)]) (Hh (us:=[Q.1,vU (dR .u32 W g.1),Value.agg #[vI (f.1.1),vI (f.1.2.1),vI (f.1.2.2.1),vI (f.1.2.2.2.1),vU (f.1.2.2.2.2)]]) (cs:=[vP M,vP N]) (show aX Tryz.prog 48 from Tryz.call48) Z Z Z) Tryz.func48 Z Tryz.ntmps48 Z Z ?_ ?_
     ·refine aV<|aH (aN.box (cs:=[vI (f.1.1),vI (f.1.2.1),vI (f.1.2.2.1),vI (f.1.2.2.2.1),vU (f.1.2.2.2.2)]) Z Z) Z λc3=>aM<|aK ?_;refine JR.start [0,0,2,6,15,31] 4 mixedOrders (by decide +kernel) ?_;refine JR.open (by exact rfl) ?_;refine jR 24 Z<|bG Z<|fH h λbi cD h=>JR.loud Z Z Z (aN.callQ MU (yX U Q.1 (List.zip Q.2 al) bi cD) Z (aG.cons (cB (i:=1) (j:=2) Z Z dJ) .nil)) Z (λam=>(wF [([26],[])] Z)) λam=>eO (Know.one (aF.sl (cB (i:=0) (j:=1) Z Z dJ))) λa9=>JR.stp (AC bZ)<|JR.stp (SX 1 2 Z Z Z)<|JR.stp (Jr 0 1 Z Z Z) ?_;refine JR.loud Z Z Z (bY (e:=dA.raw) (([]:fV)++[am.1]) [(0,am.1)] Z Z Z Z (mO (am.1) a9) Z Z (by simp[cellsOf,dA.raw,a9])) Z (λcp=>(wF [([26],[])] Z)) λcp=>?_;refine bP 4 Z Z<|cG (AA 7 Z) λa5=>cG (AA 1 Z) λa6=>cX h λbb h=>jD (Js 7 1 Z Z Z) ?_;refine aH (aN.append 7 0 Z Z Z Z Z Z Z (by have q:=bb;have q1:=a5;have q2:=a6;(try simp only[List.length_cons,List.length_nil,List.length_append]at q q1 q2 ⊢);omega) (by have q:=bb;have q1:=a5;have q2:=a6;(try simp only[List.length_cons,List.length_nil,List.length_append]at q q1 q2 ⊢);omega) Z) Z λcq=>?_;refine cG (Jn 7 Z) λbA=>iI 25 Z Z bA Z Z Z<|aM<|aR<|dD 24 Z<|eK 1 Z<|aH (bY (e:=cN) ([((f.1.1,f.1.2.1,f.1.2.2.1,f.1.2.2.2.1,f.1.2.2.2.2))]) [(0,Value.agg #[vI (f.1.1),vI (f.1.2.1),vI (f.1.2.2.1),vI (f.1.2.2.2.1),vU (f.1.2.2.2.2)])] Z Z Z Z (O_ (vI (f.1.1)) (vI (f.1.2.1)) (vI (f.1.2.2.1)) (vI (f.1.2.2.2.1)) (vU (f.1.2.2.2.2))) Z Z Z) Z λda=>cX h λch h=>aH (eQ 6 gG Z Z Z (bD (aF.res 0 Z) gG) Z Z Z Z ch Z) Z λcr=>cG (Know.one ((bD (aF.res 6 Z) gG))) λbC=>iI 25 Z Z bC Z Z Z<|eI ?_;exact tJ (b.2.2.2.2.2.2.2.2.2.2.2++(([]:Ac)++[bi])) (cr,cq,(d.2.2.2.2.2.2.1++(([]:fV)++[am.1])),(d.2.2.2.2.2.2.2++(([]:List (List Value))++[am.2]))) h (.inr Z) (Hb.r0 Z) Z (a_.ix [3,4,5,6,7,8,9,12,13,14,15,16,17,18,19,20,21,22,23,24,25,26,27] Z Z) (aG.refl _ _)
     intro ac H h;refine aM<|aV<|bT Z<|dD 7 Z<|aA Z<|aH (bY (e:=pF) ([O]) [(0,vU (O))] Z Z Z Z (mO (vU (O)) Z) Z Z Z) Z λc8=>cX h λcf h=>aH (eQ 23 vG Z Z Z (bD (aF.res 0 Z) vG) Z Z Z Z cf Z) Z λcn=>bT Z<|cG (Know.one ((bD (aF.res 23 Z) vG))) λbx=>iI 8 Z Z bx Z Z Z<|aM<|aR<|bT Z<|dD 8 Z<|aA Z<|aH (bY (e:=pF) ([(dR .u32 W g.1)]) [(0,vU (dR .u32 W g.1))] Z Z Z Z (mO (vU (dR .u32 W g.1)) Z) Z Z Z) Z λc9=>cX h λcg h=>aH (eQ 4 vG Z Z Z (bD (aF.res 0 Z) vG) Z Z Z Z cg Z) Z λco=>bT Z<|cG (Know.one ((bD (aF.res 4 Z) vG))) λbz=>iI 9 Z Z bz Z Z Z<|eI<|mA<|aR<|cH Z<|aA Z<|aM ?_;exact mG ((dR .u32 W g.1),(b.2.1++([(dR .u32 W g.1)])),(wI .i64 (b.2.2.1+(1:Int))),f.1.1,f.1.2.1,f.1.2.2.1,f.1.2.2.2.1,f.1.2.2.2.2,al,(b.2.2.2.2.2.2.2.2.2.1++[O]),(b.2.2.2.2.2.2.2.2.2.2.1++([(f.1.1,f.1.2.1,f.1.2.2.1,f.1.2.2.2.1,f.1.2.2.2.2)])),ac) (Q.1,Q.2,cn,co,H.1,H.2.1,H.2.2.1,H.2.2.2) h SF (a_.ix [4,5,6,7,8,2,3,9,10,11,12,13,14,15,16,17,18,19,20,21,22,23,24] Z Z) (aG.refl _ _)
    refine e_ ?_;exact cC (b.2.1,b.2.2.2.1,b.2.2.2.2.1,b.2.2.2.2.2.1,b.2.2.2.2.2.2.1,b.2.2.2.2.2.2.2.1,b.2.2.2.2.2.2.2.2.1,b.2.2.2.2.2.2.2.2.2.1,b.2.2.2.2.2.2.2.2.2.2.1,b.2.2.2.2.2.2.2.2.2.2.2) (d.1,d.2.1,d.2.2.1,d.2.2.2.1,d.2.2.2.2.1,d.2.2.2.2.2.1,d.2.2.2.2.2.2.1,d.2.2.2.2.2.2.2) h SF (a_.ix [0,1,2,3,4,5,6,7,8,10,20,21,22] Z Z) (aG.refl _ _)
   intro n p h;unfold xG at h;refine aK ?_;refine JR.start [0,0,1,5,15,31] 4 mixedOrders (by decide +kernel) ?_;refine JR.open (by exact rfl) ?_;refine bG Z<|pX 4 Z<|dB Z<|eO (Know.one (aF.sl (cB (i:=5) (j:=6) Z Z dJ))) λbs=>Dx Z Z Z (Od 7 Z Z bs Z Z Z) (λcS=>(wF [([4],[])] Z)) λcS=>bP 4 Z Z<|bT Z<|SR (Jo 7 (us:=[vI (n.2.1),vI (n.2.2.1),vI (n.2.2.2.1),vI (n.2.2.2.2.1),vU (n.2.2.2.2.2.1)]) Z Z Z Z Z Z Z Z Z) λdc=>aM<|aV<|eK 7 Z<|cG (Know.one ((bD (aF.res 12 Z) vG))) λbt=>cG (Know.one ((bD (aF.res 0 Z) vG))) λbu=>cG (Know.one (aF.sl (cB (i:=5) (j:=6) Z Z dJ))) λbw=>bS 8 (vs:=[p.2.2.1,p.2.2.2.1,p.1,vI (n.2.1),vI (n.2.2.1),vI (n.2.2.2.1),vI (n.2.2.2.2.1),vU (n.2.2.2.2.2.1)]) Z Z (lE bt (lE bu (lE bw (lE Z (lE Z (lE Z (lE Z (lE Z Z)))))))) Z Z Z<|aE Z<|aM<|aW ?_;exact tJ (n.2.2.2.2.2.2.2.2.1,n.2.2.2.2.2.2.2.2.2,n.2.2.2.2.2.2.2.1,n.1,n.2.2.2.2.2.2.1,n.2.1,n.2.2.1,n.2.2.2.1,n.2.2.2.2.1,n.2.2.2.2.2.1,(0:Int)) (p.2.2.2.2.1,p.2.2.2.2.2.1,p.2.2.2.2.2.2.1,p.2.2.2.2.2.2.2,p.2.2.1,p.2.2.2.1,p.1,p.2.1) h (.inl Z) (Hb.r2 Z (RV.cell 8 Z Z Z Z) (RV.tmp Z)) Z (a_.ix [1,2,3,9,10,11,12,0,5,6] Z Z) (aG.refl _ _)
  intro y C h;unfold Au at h;refine iY Z<|iY Z<|cG (Know.one ((bD (aF.res 6 Z) vG))) λcb=>cG (Know.one ((bD (aF.res 7 Z) vG))) λcc=>cG (Know.one (aF.sl (cB (i:=8) (j:=9) Z Z dJ))) λcd=>bS 3 (vs:=[C.2.2.2.2.1,C.2.2.2.2.2.1,C.2.2.2.2.2.2.1,vI (y.2.2.2.2.2.1),vI (y.2.2.2.2.2.2.1),vI (y.2.2.2.2.2.2.2.1),vI (y.2.2.2.2.2.2.2.2.1),vU (y.2.2.2.2.2.2.2.2.2.1)]) Z Z (lE cb (lE cc (lE cd (lE Z (lE Z (lE Z (lE Z (lE Z Z)))))))) Z Z Z<|aE Z<|aM<|aW ?_;exact tJ (y.2.2.2.2.2.1,y.2.2.2.2.2.2.1,y.2.2.2.2.2.2.2.1,y.2.2.2.2.2.2.2.2.1,y.2.2.2.2.2.2.2.2.2.1,y.2.2.2.2.2.2.2.2.2.2,y.2.2.1,y.2.2.2.1,y.2.2.2.2.1,y.1,y.2.1) (C.2.2.2.2.1,C.2.2.2.2.2.1,C.2.2.2.2.2.2.1,C.1,C.2.1,C.2.2.2.2.2.2.2,C.2.2.1,C.2.2.2.1) h (.inl Z) (Hb.r2 Z (RV.cell 3 Z Z Z Z) (RV.tmp Z)) Z (a_.ix [0,1,2,4,5,6,7,8,9] Z Z) (aG.refl _ _)
 intro J F h;refine aA Z<|iY Z<|iY Z<|aH (aN.alloc (cs:=Qo) Z Z) Z λdg=>cG (Know.one ((bD (aF.res 6 Z) vG))) λb5=>cG (Know.one ((bD (aF.res 7 Z) vG))) λb6=>cG (Know.one (aF.sl (cB (i:=8) (j:=9) Z Z dJ))) λb9=>bS 0 (vs:=[F.1,F.2.1,F.2.2.1,vI (J.1),vI (J.2.1),vI (J.2.2.1),vI (J.2.2.2.1),vU (J.2.2.2.2.1)]) Z Z (lE b5 (lE b6 (lE b9 (lE Z (lE Z (lE Z (lE Z (lE Z Z)))))))) Z Z Z<|aE Z<|aM<|aV<|aA Z<|q_ Z<|aM ?_;refine eV h Z (λh=>?_) λh=>?_
 ·refine aV<|aA Z<|aE Z<|aE Z<|aE Z<|aM<|aW<|aJ<|jD (gQ dA.raw) (jD (AC bZ) ?_);refine jD (gQ cN) ?_;cases h;exact IJ ((lC),([]:fV),([]:List (List Value)),(lC)) Z Z (RV.tmp Z) (RV.tmp Z) (RV.tmp Z) (a_.ix [2,1,0] Z Z) aG.nil
 refine cK<|aK ?_;refine JR.start [0,0,1,7,15] 3 mixedOrders (by decide +kernel) ?_;refine JR.open (by exact rfl) ?_;refine jR 5 Z<|jR 4 Z<|jS Z (nZ Z)<|bP 3 Z Z<|aE Z<|aE Z<|aM<|aW ?_;cases h;exact IJ (F.2.2.2.2.1,F.2.2.2.2.2.2.1,F.2.2.2.2.2.2.2,F.2.2.2.1) Z Z (RV.tmp Z) (RV.tmp Z) (RV.tmp Z) (a_.ix [3,2,1] Z Z) aG.nil
end Go.Proofs.YtlkhndebimcbbaaGreatDoor
namespace Go.Proofs.YtlkhndebimcbbaaGreatDoor
open Go Go.Sx
theorem VD {g:GR} (e:VG g) (p:sQ) (b:Int) (c:bF) (o:aQ):
  bJ (oE 1000 p g b c o) 1000 ((0:Int),(0:Int),(List.replicate (Int.toNat (List.length g.2:Int)) ([]:aQ)))=uB 1000 p g b c o (jX g g.2.length,fK g):=by
 have z:=e.n24;have s:=e.len;let f:Nat->aQ:=λv=>(List.range (row g v).length).map (Dg g v);let Q:Nat->bF:=λk=>(List.range k).map f++List.replicate (g.2.length - k) [];have q:∀k,k<=g.2.length->(Q k).length=g.2.length:=λk i=>by simp[Q];omega
 rw[show List.replicate (Int.toNat (List.length g.2:Int)) ([]:aQ)=Q 0 by simp[Q]];refine eY (step:=oE 1000 p g b c o) g.2.length (λk=>((k:Int),jX g k,Q k)) (λk d i=> ?_) (λd=> ?_) 1000 (by omega)
 ·have r:=(e.node k i).deg;have t:k<(Q k).length:=by rw[q k (by omega)];exact i
  unfold oE;dsimp only;rw[if_pos (by omega),cA (by omega),cA (by omega)];let a:Nat->aQ:=λj=>(List.range j).map (Dg g k);have y:Q k=(Q k).set k (a 0):=by
   have:at' (Q k) (k:Int)=a 0:=by
    rw[lS t];simp[Q,a]
   rw[<-this];exact(Kw (Q k) (k:Int) (by simpa using t) (by omega)).symm
  rw[show(Q k)=(Q k).set k (a 0)from y];have h:∀A:bF,A.length=g.2.length->bJ (tC 1000 g ((k:Int),jX g k,(Q k).set k (a 0)) d) 1000 ((0:Int),A.set k (a 0))=d (((k+1:Nat):Int),jX g (k+1),A.set k (f k)):=by
   intro A D;refine eY (step:=tC 1000 g ((k:Int),jX g k,(Q k).set k (a 0)) d) (K:=d (((k+1:Nat):Int),jX g (k+1),A.set k (f k))) (row g k).length (λj=>((j:Int),A.set k (a j))) (λj m C=> ?_) (λm=> ?_) 1000 (by omega)
   ·obtain⟨u,w,l⟩:=e.to i C;have B:=(e.node u w).deg;have x:at' (A.set k (a j)) (k:Int)=a j:=by rw[tP _ _ _ _ (by omega),if_pos Z]
    have n:(a j).length=j:=by simp[a]
    unfold tC;dsimp only;rw[if_pos (show(j:Int)<((row g k).length:Int) by omega),cA (show 0<=(j:Int)∧(j:Int)<((row g k).length:Int) by omega),cA (by simp only[List.length_set];omega),show at' (at' g.2 (k:Int)) (j:Int)=fL (row g k) j from rfl,l,bH (show sF 1000 _ (u:Int) (k:Int)=_ from Vy g u (k:Int) w (by omega)),x,cA (by rw[n];simp;omega),cA (by simp only[List.length_set];omega),fT (by omega),Int.toNat_natCast,List.set_set];have:a j++[AN (row g u) (k:Int)]=a (j+1):=by
     simp only[a];rw[List.range_succ,List.map_append,List.map_singleton,Dg,l,Int.toNat_natCast]
    rw[this]
   ·unfold tC yT;dsimp only;rw[if_neg (show¬((row g k).length:Int)<((row g k).length:Int)from Int.lt_irrefl _),fT (by omega)];rfl
  have:=h (Q k) (q k (by omega));rw[yR f [] g.2.length k i]at this;exact this
 ·unfold oE;dsimp only;rw[if_neg (by omega)];simp[Q,fK,f]
noncomputable def JH (p:sQ) (vars:List Dd) (R:List RL) (g:GR) (kind:Int) (ws:aQ) (a:bF):Nat->CT
 |0=>(0,0,0,0,dR .u32 ((qG (aT p g) R (eX g) a:Nat):Int) 16777215)
 |k+1=>((fZ 1000 (JH p vars R g kind ws a k) ((nxt g kind (qG (aT p g) R (eX g) (CL p vars R g kind ws a k)) (at' ws (k:Int)):Nat):Int) ((qG (aT p g) R (eX g) (CL p vars R g kind ws a (k+1)):Nat):Int)).getD ((0,0,0,0,0),0)).1
theorem adO (p p':sQ) (vars:List Dd) (R:List RL) (g:GR) (kind:Int) (ws:aQ) (a:bF) (k:Nat):JH p vars R g kind ws a k=JH p' vars R g kind ws a k:=by
 induction k with
 |zero=>rfl
 |succ k b=>rw[JH,JH,b,Kv p p',Kv p p' vars R g kind ws a (k+1),OY p p',OY p p']
section
variable {p:sQ} {g:GR} {R:List RL}
theorem Zv (hV:VG g) (hp:tK g p.2.1) (hz:p.2.2.map Am=Fz R) (hR:yH p.2.1.length R=true) {kind:Int} (hk1:1<=kind) (hk4:kind<=4) {c0:List (List Int)} (hc0:Du g c0 p.2.1) {ws:List Int} (hws:ws.length<=900) (hw:∀k:Nat,k<ws.length->∃m:Nat,at' ws (k:Int)=(m:Int)∧m<4294967296)
  (P:Nat->List (List Int)->List Nat->CT->Prop) (h0:P 0 c0 [] (0,0,0,0,dR .u32 ((qG (aT p g) R (eX g) c0:Nat):Int) 16777215))
  (hstep:∀k c ch cnt t cnt' err,k<ws.length->Aa g p.2.1.length c->P k c ch cnt->qG (aT p g) R (eX g) c≠0->t≠0->(∀i,t.testBit i=true->(qG (aT p g) R (eX g) c).testBit i=true)->(kind<=2->∀v u,t.testBit v=true->t.testBit u=true->¬KU g v u)->(kind=4->t=qG (aT p g) R (eX g) c)->CL p p.2.1 R g kind ws c0 (k+1)=iD (aT p g) p.2.1 R c t->
   fZ 1000 cnt (t:Int) ((qG (aT p g) R (eX g) (iD (aT p g) p.2.1 R c t):Nat):Int)=some (cnt',err)->cnt'=JH p p.2.1 R g kind ws c0 (k+1)->P (k+1) (iD (aT p g) p.2.1 R c t) (ch++[t]) cnt'):
  ∃k c ch,vX 1000 p g kind c0 ws=some ((List.range (k+1)).map (CL p p.2.1 R g kind ws c0),(List.range (k+1)).map (JH p p.2.1 R g kind ws c0),0)∧P k c ch (JH p p.2.1 R g kind ws c0 k)∧c=CL p p.2.1 R g kind ws c0 k∧k<=ws.length∧(∀j,j<k->qG (aT p g) R (eX g) (CL p p.2.1 R g kind ws c0 j)≠0)∧(k=ws.length∨qG (aT p g) R (eX g) c=0):=by
 have h24:=hV.n24;have hvl:=hp.len;let S:=aT p g;have hVS:VG S.2.1:=hV;obtain⟨net,hnet,hN⟩:=aex hV;have hcheck:zG 1000 p g kind c0 (ws.length:Int)=some 0:=by
  unfold zG;rw[bH (show sG 1000 _ _ c0=_ from Xb hV hp hc0),if_neg (by decide)];have:wT 1000 kind=some true:=by
   unfold wT qU;rw[if_pos hk1,decide_eq_true hk4]
  rw[bH this,if_neg (by decide),if_neg (by omega)]
 unfold vX;rw[bH (show zG 1000 _ _ kind c0 _=_ from hcheck),if_neg (by decide),cA (by omega),VD hV p kind c0 ws];unfold uB Aw;rw[bH (show mW 1000 _ _=_ from Qh hV hp)];unfold Av;rw[bH (show nT 1000 _=_ from hnet),bH (show zF 1000 _=some ((eX g:Nat):Int)from acT hV)];have hen:∀c,Aa g p.2.1.length c->eG 1000 (p,(p,g,jX g g.2.length,fK g),CZ g p.2.1) c=some ((enD S R c:Nat):Int):=λc hc=>Rv hV hc hz hR (by simp[CZ]);have hand:∀c,dR .u32 ((enD S R c:Nat):Int) ((eX g:Nat):Int)=((qG S R (eX g) c:Nat):Int):=λc=>DK (adT hVS R c) (ZX hV);have hcopy:∀c,Aa g p.2.1.length c->mB 1000 c=some c:=λc hc=>Ts c (by rw[hc.len];omega) (λv hv=>by rw[hc.row v (by rw[<-hc.len];exact hv)];omega);unfold CM;dsimp only;rw[bH (hcopy c0 hc0.shape),bH (show eG 1000 _ c0=_ from hen c0 hc0.shape),hand,bH (show uT 1000 _=some (0,0,0,0,dR .u32 ((qG S R (eX g) c0:Nat):Int) 16777215)from rfl),bH (hcopy c0 hc0.shape),cA (by simp),cA (by simp)];unfold CO;dsimp only;rw[hand,cA (by simp),List.nil_append,List.nil_append,List.nil_append,List.nil_append];let A:Int×List Int×(List (List (Int×Int)))×Int×List (List Int):=(((eX g:Nat):Int),net,CZ g p.2.1,jX g g.2.length,fK g)
 let rc:=CL p p.2.1 R g kind ws c0;let cw:=JH p p.2.1 R g kind ws c0;let T:=List (List (List Int))×List CT×Int;let QQ:T->Prop:=λr=>∃k c ch,r=((List.range (k+1)).map rc,(List.range (k+1)).map cw,0)∧P k c ch (cw k)∧c=rc k∧k<=ws.length∧(∀j,j<k->qG S R (eX g) (rc j)≠0)∧(k=ws.length∨qG S R (eX g) c=0)
 have fin:∀(k:Nat) (c:List (List Int)) (ch:List Nat) (ens:List Int),P k c ch (cw k)->c=rc k->k<=ws.length->(∀j,j<k->qG S R (eX g) (rc j)≠0)->(k=ws.length∨qG S R (eX g) c=0)->
   OK QQ (xG (ens,(cw k).1,(cw k).2.1,(cw k).2.2.1,(cw k).2.2.2.1,(cw k).2.2.2.2,c,abi ch,(List.range (k+1)).map cw,(List.range (k+1)).map rc)):=λk c ch ens a1 a2 a3 a6 a7=>⟨_,rfl,k,c,ch,rfl,a1,a2,a3,a6,a7⟩
 have key:=wP (step:=tB 1000 p g kind ws A) (Q:=QQ)
  (λx=>∃(k:Nat) (c:List (List Int)) (ch:List Nat) (ens:List Int),x=(((qG S R (eX g) c:Nat):Int),ens,(k:Int),(cw k).1,(cw k).2.1,(cw k).2.2.1,(cw k).2.2.2.1,(cw k).2.2.2.2,c,abi ch,(List.range (k+1)).map cw,(List.range (k+1)).map rc)∧P k c ch (cw k)∧Aa g p.2.1.length c∧c=rc k∧k<=ws.length∧ch.length=k∧ens.length=k+1∧∀j,j<k->qG S R (eX g) (rc j)≠0) (λx=>ws.length - x.2.2.1.toNat) (λx ag hI hrec=>by
  obtain⟨k,c,ch,ens,rfl,b1,b2,b3,b4,b5,b6,b9⟩:=hI;unfold tB;dsimp only;by_cases hlt:k<ws.length
  rotate_left
  ·rw[if_neg (by omega)];exact fin k c ch ens b1 b3 b4 b9 (.inl (by omega))
  obtain⟨w,hwe,hw32⟩:=hw k hlt;have hin:QE g (qG S R (eX g) c):=JK S R (eX g) c;obtain⟨t,ht,hsub,hne⟩:=Sf hV hN hk1 hk4 hin hw32;rw[if_pos (by omega),cA (by omega),hwe,bH (show eS 1000 net kind _ _=_ from ht)];unfold CP;dsimp only;by_cases he0:qG S R (eX g) c=0
  ·rw[if_pos (by omega)];exact fin k c ch ens b1 b3 b4 b9 (.inr he0)
  obtain⟨ht0,hperm,hk2,hk4'⟩:=hne he0;have ht32:t<4294967296:=by have:=QE.lt hV (λi hi=>hin i (hsub i hi));omega
  rw[if_neg (by omega),bH (show fR 1000 net kind _ _=_ from hperm),if_neg (by decide)];have hst:jL 1000 (p,(p,g,jX g g.2.length,fK g),CZ g p.2.1) c (t:Int)=some (iD S p.2.1 R c t):=abP (gr:=jX g g.2.length) hV hp b2 hz hR ht32 (λv hv=>((Nb S R (eX g) c v).1 (hsub v hv)).2.1);have hsh:Aa g p.2.1.length (iD S p.2.1 R c t):=b2.step;obtain⟨⟨cnt',err⟩,hadd⟩:=WC (cw k) ht32 ((qG S R (eX g) (iD S p.2.1 R c t):Nat):Int);rw[bH (show jL 1000 _ c (t:Int)=_ from hst),bH (show eG 1000 _ _=_ from hen _ hsh),hand,bH (show fZ 1000 _ (t:Int) _=_ from hadd),bH (hcopy _ hsh),cA (by simp;omega),cA (by simp;omega)];unfold CQ;dsimp only;rw[hand,cA (by simp[abi];omega),cA (by simp;omega),fT (by omega)];have en:nxt g kind (qG S R (eX g) (rc k)) (at' ws (k:Int))=t:=by
   unfold nxt;rw[bH hnet,hwe,<-b3,ht];simp
  have hr:rc (k+1)=iD S p.2.1 R c t:=by
   show iD S p.2.1 R (rc k) (nxt g kind (qG S R (eX g) (rc k)) (at' ws (k:Int)))=_;rw[en,<-b3]
  obtain rfl:cnt'=cw (k+1):=by
   show cnt'=((fZ 1000 (cw k) ((nxt g kind (qG S R (eX g) (rc k)) (at' ws (k:Int)):Nat):Int) ((qG S R (eX g) (rc (k+1)):Nat):Int)).getD ((0,0,0,0,0),0)).1;rw[en,hr,hadd];rfl
  refine hrec _ ⟨k+1,iD S p.2.1 R c t,ch++[t],ens++[((qG S R (eX g) (iD S p.2.1 R c t):Nat):Int)],?_,hstep k c ch (cw k) t (cw (k+1)) err hlt b2 b1 he0 ht0 hsub hk2 hk4' hr hadd Z,hsh,hr.symm,by omega,by simp[b5],by simp[b6],λj hj=> ?_⟩ (by dsimp only;omega)
  ·rw[List.nil_append,List.range_succ (n:=k+1),List.map_append,List.map_singleton,List.map_append,List.map_singleton,hr];simp[abi]
  ·by_cases e:j<k
   ·exact b9 j e
   ·obtain rfl:j=k:=by omega
    rw[<-b3];exact he0) 1000 (((qG S R (eX g) c0:Nat):Int),[((qG S R (eX g) c0:Nat):Int)],(0:Int),0,0,0,0,dR .u32 ((qG S R (eX g) c0:Nat):Int) 16777215,c0,[],[(0,0,0,0,dR .u32 ((qG S R (eX g) c0:Nat):Int) 16777215)],[c0])
  ⟨0,c0,[],[((qG S R (eX g) c0:Nat):Int)],rfl,h0,hc0.shape,rfl,by omega,rfl,rfl,λj hj=>by omega⟩ (by dsimp only;omega)
 obtain⟨r,hr,k,c,ch,rfl,hrest⟩:=key;exact⟨k,c,ch,hr,hrest⟩
end
theorem YM {p p':sQ} {g:GR} {R:List RL} {vars:List Dd} {kind:Int} {ws:List Int} {b:List (List Int)} {k a:Nat}
  (l:k<=ws.length) (f:k=ws.length∨qG (aT p g) R (eX g) (CL p vars R g kind ws b k)=0) (h:∀j,j<k->qG (aT p g) R (eX g) (CL p vars R g kind ws b j)≠0)
  (i:a<=ws.length) (c:a=ws.length∨qG (aT p' g) R (eX g) (CL p' vars R g kind ws b a)=0) (d:∀j,j<a->qG (aT p' g) R (eX g) (CL p' vars R g kind ws b j)≠0):k=a:=by
 rcases Nat.lt_trichotomy k a with q|q|q
 ·have:=d k q;rw[Kv p' p,OY p' p]at this;rcases f with e|e
  ·omega
  ·exact absurd e this
 ·exact q
 ·have:=h a q;rw[Kv p p',OY p p']at this;rcases c with e|e
  ·omega
  ·exact absurd e this
end Go.Proofs.YtlkhndebimcbbaaGreatDoor
namespace Go.Proofs.YtlkhndebimcbbaaGreatDoor
open Go.Sx
noncomputable def tF (b:List bF×(List (Int×Int×Int×Int×Int))×Int) (a:Bool):Option (List bF×(List (Int×Int×Int×Int×Int))×Bool):=
 some (b.1,b.2.1,a)
noncomputable def vY (U:Nat) (d:ByteArray) (c:cE) (e:Int) (f:bF) (g:aQ):Option (List bF×(List (Int×Int×Int×Int×Int))×Bool):=
 Option.bind (nU U d) λb=>WE b.2.2 λh=>(Option.bind (vX U ((b.1,b.2.1,h)) ((c.1,c.2)) e f g) λa=>(if a.2.2=(0:Int)then(if(List.length a.1:Int)=(List.length a.2.1:Int)then(tF a (decide ((0:Int)<(List.length a.1:Int))))else(tF a (false)))else(tF a (false))))
theorem ags:aX Tryz.prog 9:=Tryz.call9
theorem Qg (U:Nat) {w:ByteArray} {i:cE} {y:Int} {p:bF} {q:aQ} (k:Value)  (m:Value)  (t:k_)  (n:Value)  (u:rB)  (o:Value) (r:List bF×(List (Int×Int×Int×Int×Int))×Bool) (h:vY U w i y p q=some r):
  aY Tryz.prog 9 #[vS (w),Value.agg #[k,m],vI (y),n,o] [Sl bO k i.1,S2 bB m t i.2,S2 bO n u p,Sl Ai o q,Gb 0 (cellsOf HU xM)] (λx:Value×List Value×List (List Value)×Value=>Value.tuple #[x.1,x.2.2.2,vB (r.2.2)]) (λx l=>Ar dA.raw x.1 x.2.1::Lq bZ x.2.1 x.2.2.1 r.1::Ar cN x.2.2.2 r.2.1::l) (λ_ l=>l):=by
 refine aY.of Tryz.func9 Z Tryz.ntmps9 Z λc=>?_;refine aV<|aH (aN.box (cs:=[k,m]) Z Z) Z λD=>aE Z<|aE Z<|aE Z<|aM<|aK ?_;refine JR.start [0,1,0,0,0,0,63,127,255,255,255,511,3071,8191] 13 mixedOrders (by decide +kernel) ?_;refine JR.open (by exact rfl) ?_;refine bG Z<|fH h λs A h=>JR.loud Z Z Z (aN.call WM (ID U s A) Z (kA 4 Z) (λ_ _=>rfl) (λ_ _=>rfl)) Z (fun⟨d,e,v,g⟩=>(wF [] Z)) fun⟨d,e,v,g⟩=>?_;have h:=UL h v g;refine bK Z (a_.cons 0 Z .nil) .nil (iN 0 Z Z Z Z) (aO.h (a_.ix [0] Z Z) .nil aO.z)<|jS Z (iG Z)<|jS Z (iG Z)<|jS Z (iG Z)<|fH h λj C h=>JR.loud Z Z Z (aN.callQ adb (Qe U d e k m t n u o j C) Z (oS [0,1,2,3,4,5,6,7] Z)) Z (λb=>(wF [] Z)) λb=>jS Z (iG Z)<|jS Z (pI Z Z)<|jS Z (pI Z Z)<|jS Z (pI Z Z)<|jS Z (nZ Z)<|jS Z (nZ Z)<|bP 13 Z Z<|aE Z<|aM<|aK<|Bu (B:=Unit) (λa=>tF j a=some r) (λa f=>[(10,b.1),(11,b.2.2.2),(12,vB (a))]) (λa f=>[Ar dA.raw b.1 b.2.1,Lq bZ b.2.1 b.2.2.1 j.1,Ar cN b.2.2.2 j.2.1]) (λa f=>[Sl aU d s.2.1,Sl aL e v,PF (Value.agg #[vS s.1,d,e]),Sl bO k i.1,S2 bB m t i.2,S2 bO n u p,Sl Ai o q,Gb 0 (cellsOf HU xM)]) ?_ ?_
 ·refine aR<|aA Z<|aA Z<|aA Z<|cP Z<|aA Z ?_;refine Dv h Z (λ_ h=>?_) λ_ h=>?_
  ·refine cS Z<|aP Z (Jv 0 1 Z Z Z Z) Z<|cS Z<|aP Z (fX Z (bD (aF.res 2 Z) gG) Z) Z<|aP Z (OB Z Z) Z<|dW Z<|aA Z ?_;refine Dv h Z (λ_ h=>?_) λ_ h=>?_
   ·refine cS Z<|aP Z (Jv 0 1 Z Z Z Z) Z<|aP Z (zC Z Z) Z<|dW Z<|aE Z<|aE Z<|aE Z<|aM ?_;exact cC (decide ((0:Int)<(List.length j.1:Int))) () h SF (a_.ix [0,1,2] Z Z) (aG.refl _ _)
   refine aI Z<|aI Z<|aI Z<|fO Z<|aE Z<|aE Z<|aE Z<|aM ?_;exact cC (false) () h SF (a_.ix [0,1,2] Z Z) (aG.refl _ _)
  refine aI Z<|aI Z<|aI Z<|aI Z<|aI Z<|fO Z<|aA Z<|aI Z<|aI Z<|aI Z<|fO Z<|aE Z<|aE Z<|aE Z<|aM ?_;exact cC (false) () h SF (a_.ix [0,1,2] Z Z) (aG.refl _ _)
 intro a f h;unfold tF at h;refine aW ?_;cases h;exact IJ (b.1,b.2.1,b.2.2.1,b.2.2.2) Z Z (RV.tmp Z) (RV.tmp Z) (RV.tmp Z) (a_.refl _) aG.nil
end Go.Proofs.YtlkhndebimcbbaaGreatDoor
namespace Go.Proofs.YtlkhndebimcbbaaGreatDoor
open Go Go.Sx
theorem YN {text nm:ByteArray} {vars:List Dd} {R:List RL} {pr:KO} (hprog:nU 1000 text=some (nm,vars,pr)) (hpr:Fz R=pr) {g:GR} (hV:VG g) (hp:tK g vars) (hR:yH vars.length R=true) {kind:Int} (hk1:1<=kind) (hk4:kind<=4)
  {c0:bF} (hc0:Du g c0 vars) {ws:aQ} (hws:ws.length<=900) (hw:∀k:Nat,k<ws.length->∃m:Nat,at' ws (k:Int)=(m:Int)∧m<4294967296)
  (Q:Nat->bF->CT->Prop) (h0:Q 0 c0 (0,0,0,0,dR .u32 ((qG (aT (nm,vars,[]) g) R (eX g) c0:Nat):Int) 16777215))
  (hstep:∀k c cnt t cnt' err,k<ws.length->Q k c cnt->qG (aT (nm,vars,[]) g) R (eX g) c≠0->t≠0->(∀i,t.testBit i=true->(qG (aT (nm,vars,[]) g) R (eX g) c).testBit i=true)->(kind=4->t=qG (aT (nm,vars,[]) g) R (eX g) c)->
   fZ 1000 cnt (t:Int) ((qG (aT (nm,vars,[]) g) R (eX g) (iD (aT (nm,vars,[]) g) vars R c t):Nat):Int)=some (cnt',err)->Q (k+1) (iD (aT (nm,vars,[]) g) vars R c t) cnt'):
  ∃(k:Nat) (cs:Ac) (cnts:List CT),vY 1000 text g kind c0 ws=some (cs,cnts,true)∧cs.length=k+1∧cnts.length=k+1∧k<=ws.length∧(∀j,j<=k->Q j (at' cs (j:Int)) (at' cnts (j:Int)))∧
   (∀j,j<k->∃t,(∀i,t.testBit i=true->(qG (aT (nm,vars,[]) g) R (eX g) (at' cs (j:Int))).testBit i=true)∧qG (aT (nm,vars,[]) g) R (eX g) (at' cs (j:Int))≠0∧at' cs ((j+1:Nat):Int)=iD (aT (nm,vars,[]) g) vars R (at' cs (j:Int)) t∧(kind=4->t=qG (aT (nm,vars,[]) g) R (eX g) (at' cs (j:Int))))∧
   (k=ws.length∨qG (aT (nm,vars,[]) g) R (eX g) (at' cs (k:Int))=0):=by
 let p0:sQ:=(nm,vars,[])
 let rc:=CL p0 vars R g kind ws c0;let cw:=JH p0 vars R g kind ws c0;let PP:Nat->Prop:=λk=>(∀j,j<=k->Q j (rc j) (cw j))∧∀j,j<k->∃t,(∀i,t.testBit i=true->(qG (aT p0 g) R (eX g) (rc j)).testBit i=true)∧qG (aT p0 g) R (eX g) (rc j)≠0∧rc (j+1)=iD (aT p0 g) vars R (rc j) t∧(kind=4->t=qG (aT p0 g) R (eX g) (rc j))
 have run:∀z:List xR,z.map Am=Fz R->∃k,vX 1000 (nm,vars,z) g kind c0 ws=some ((List.range (k+1)).map rc,(List.range (k+1)).map cw,0)∧k<=ws.length∧PP k∧(∀j,j<k->qG (aT p0 g) R (eX g) (rc j)≠0)∧(k=ws.length∨qG (aT p0 g) R (eX g) (rc k)=0):=λz hz=>by
  let pz:sQ:=(nm,vars,z)
  have hrr:CL pz vars R g kind ws c0=rc:=funext λj=>Kv _ _ _ _ _ _ _ _ _;have hcc:JH pz vars R g kind ws c0=cw:=funext λj=>adO _ _ _ _ _ _ _ _ _;obtain⟨k,c,ch,h1,h3,rfl,h5,h6,h7⟩:=Zv (p:=pz) hV hp hz hR (kind:=kind) hk1 hk4 hc0 (ws:=ws) hws hw
   (λk c ch cnt=>PP k∧c=rc k∧cnt=cw k) ⟨⟨λj hj=>by(obtain rfl:j=0:=by omega);exact h0,λj hj=>by omega⟩,rfl,rfl⟩
   (λk c ch cnt t cnt' err hk hsh hI hne ht0 hsub _ hk4' hr hadd hcw=>by
    obtain⟨⟨ha,hb⟩,rfl,rfl⟩:=hI;have hr':rc (k+1)=iD (aT p0 g) vars R (rc k) t:=(congrFun hrr (k+1)).symm.trans hr;have hcw':cnt'=cw (k+1):=hcw.trans (congrFun hcc (k+1));subst hcw';have hQ:=hstep k (rc k) (cw k) t _ err hk (ha k (Nat.le_refl k)) hne ht0 hsub hk4' hadd;refine⟨⟨λj hj=> ?_,λj hj=> ?_⟩,hr'.symm,rfl⟩
    ·by_cases e:j<=k
     ·exact ha j e
     ·obtain rfl:j=k+1:=by omega
      rw[hr'];exact hQ
    ·by_cases e:j<k
     ·exact hb j e
     ·obtain rfl:j=k:=by omega
      exact⟨t,hsub,hne,hr',hk4'⟩)
  rw[show pz.2.1=vars from rfl,hrr,hcc]at h1;rw[show pz.2.1=vars from rfl,hrr]at h6 h7;exact⟨k,h1,h5,h3.1,h6,h7⟩
 obtain⟨z0,hz0⟩:=exZ (Fz R);obtain⟨k0,_,hk0,hP0,hne0,hend0⟩:=run z0 hz0;have hat:∀j,j<=k0->at' ((List.range (k0+1)).map rc) (j:Int)=rc j:=λj hj=>lM _ (by omega);have hat2:∀j,j<=k0->at' ((List.range (k0+1)).map cw) (j:Int)=cw j:=λj hj=>lM _ (by omega);refine⟨k0,(List.range (k0+1)).map rc,(List.range (k0+1)).map cw,?_,by simp,by simp,hk0,λj hj=>by rw[hat j hj,hat2 j hj];exact hP0.1 j hj,λj hj=>by rw[hat j (by omega),hat (j+1) (by omega)];exact hP0.2 j hj,by rw[hat k0 (Nat.le_refl _)];exact hend0⟩
 unfold vY;rw[bH hprog];refine ZY λz hz=> ?_;have hz:z.map Am=Fz R:=by rw[hpr];exact hz
 obtain⟨k,h1,hk,_,hne,hend⟩:=run z hz;have hkk:k=k0:=YM (p:=p0) (p':=p0) (vars:=vars) hk hend hne hk0 hend0 hne0;subst hkk;refine(bH (show vX 1000 (nm,vars,z) g kind c0 ws=_ from h1)).trans ?_;unfold tF;dsimp only;rw[if_pos Z,if_pos (by simp),decide_eq_true (by simp)]
end Go.Proofs.YtlkhndebimcbbaaGreatDoor