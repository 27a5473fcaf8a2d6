/- Models and proofs. Conditions: none. -/
import Derived.Test.YtlkhndebimcbbaaGreatDoorZNRc4
import Derived.Test.YtlkhndebimcbbaaGreatDoorZNRc8
import Derived.Test.YtlkhndebimcbbaaGreatDoorZNRc2
import Derived.Test.YtlkhndebimcbbaaGreatDoorZNRc7
import Derived.Test.YtlkhndebimcbbaaGreatDoorZNRc3
set_option linter.unusedVariables false
set_option linter.unusedSimpArgs false
set_option maxHeartbeats 4000000
set_option maxRecDepth 20000
namespace Go.Proofs.YtlkhndebimcbbaaGreatDoor
open Go Go.Sx
theorem Aw {k:Nat} (h:k<1000000):wI .i64 ((k:Int)+1)=((k+1:Nat):Int):=by rw[aly h];push_cast;rfl
def WL (g:GR) (b:aR) (v x:Nat) (a:Int):Prop:=if at' b (x:Int) = -1 then -1<=a∧a<=((row g v).length:Int) - 1 else 0<=a∧a<=at' b (x:Int)
def ahD (g:GR) (a:aR) (v:Nat) (l:aR):Prop:=l.length=a.length∧∀x,x<a.length->WL g a v x (at' l (x:Int))
def Kh (g:GR) (hs:aR) (c:bF):Prop:=c.length=g.2.length∧∀v,v<g.2.length->ahD g hs v (at' c (v:Int))
theorem Gw {g:GR} (l:VG g) {hs:aR} (y:hs.length<900) (c:bF):(Kh g hs c->eH 1000 g c hs=some true)∧(¬Kh g hs c->eH 1000 g c hs=some false):=by
 have t:=l.n24;have r:=l.len;unfold eH;by_cases p:c.length=g.2.length
 ·rw[if_neg (by omega)];have m:=wU (step:=gA 1000 g c hs) (K:=some true) (bad:=some false) c.length (λv=>ahD g hs v (at' c (v:Int))) (λk=>(k:Int)) (λk j u i=> ?_) (λk j u i=> ?_) (λj=> ?_) 1000 (by omega)
  ·refine⟨λh=>m.1 λv w=>h.2 v (by omega),λh=>m.2 λs=>h ⟨p,λv w=>s v (by omega)⟩⟩
  all_goals unfold gA
  ·have b:=wU (step:=dH g c hs (k:Int) j) (K:=j ((k+1:Nat):Int)) (bad:=some false) hs.length (λx=>WL g hs k x (at' (at' c (k:Int)) (x:Int))) (λx=>(x:Int)) ?_ ?_ ?_ 1000 (by omega)
   ·rw[if_pos (by omega),cB (by omega),if_neg (by have:=i.1;omega)];exact b.1 i.2
   ·intro x d o a;unfold dH iD iF;have n:=i.1;have f:(at' g.2 (k:Int)).length<g.2.length:=(l.node k (by omega)).deg;rw[if_pos (by omega),cB (by omega),cB (by omega)];unfold WL at a;by_cases e:at' hs (x:Int) = -1
    ·rw[if_pos e]at a;rw[if_pos e,cB (by omega),wr (by omega) (by omega)];dsimp only;rw[if_neg (by omega),if_neg (by rw[zA3];show¬((row g k).length:Int) - 1<_;omega),Aw (by omega)]
    ·rw[if_neg e]at a;rw[if_neg e];dsimp only;rw[if_neg (by omega),if_neg (by rw[zA3];omega),Aw (by omega)]
   ·intro x d o a;unfold dH iD iF;have n:=i.1;have f:(at' g.2 (k:Int)).length<g.2.length:=(l.node k (by omega)).deg;rw[if_pos (by omega),cB (by omega),cB (by omega)];unfold WL at a;by_cases e:at' hs (x:Int) = -1
    ·rw[if_pos e]at a;rw[if_pos e,cB (by omega),wr (by omega) (by omega)];dsimp only;by_cases q:at' (at' c (k:Int)) (x:Int) < -1
     ·rw[if_pos q,if_pos Z]
     ·rw[if_neg q,if_pos (by rw[zA3];show((row g k).length:Int) - 1<_;omega)]
    ·rw[if_neg e]at a;rw[if_neg e];dsimp only;by_cases q:at' (at' c (k:Int)) (x:Int)<0
     ·rw[if_pos q,if_pos Z]
     ·rw[if_neg q,if_pos (by rw[zA3];omega)]
   ·intro d;unfold dH lY;have n:=i.1;rw[if_neg (by omega),Aw (by omega)]
  ·rw[if_pos (by omega),cB (by omega)];by_cases n:(at' c (k:Int)).length=hs.length
   ·rw[if_neg (by omega)];have b:=wU (step:=dH g c hs (k:Int) j) (K:=j ((k+1:Nat):Int)) (bad:=some false) hs.length (λx=>WL g hs k x (at' (at' c (k:Int)) (x:Int))) (λx=>(x:Int)) ?_ ?_ ?_ 1000 (by omega)
    ·exact b.2 λh=>i ⟨n,h⟩
    ·intro x d o a;unfold dH iD iF;have f:(at' g.2 (k:Int)).length<g.2.length:=(l.node k (by omega)).deg;rw[if_pos (by omega),cB (by omega),cB (by omega)];unfold WL at a;by_cases e:at' hs (x:Int) = -1
     ·rw[if_pos e]at a;rw[if_pos e,cB (by omega),wr (by omega) (by omega)];dsimp only;rw[if_neg (by omega),if_neg (by rw[zA3];show¬((row g k).length:Int) - 1<_;omega),Aw (by omega)]
     ·rw[if_neg e]at a;rw[if_neg e];dsimp only;rw[if_neg (by omega),if_neg (by rw[zA3];omega),Aw (by omega)]
    ·intro x d o a;unfold dH iD iF;have f:(at' g.2 (k:Int)).length<g.2.length:=(l.node k (by omega)).deg;rw[if_pos (by omega),cB (by omega),cB (by omega)];unfold WL at a;by_cases e:at' hs (x:Int) = -1
     ·rw[if_pos e]at a;rw[if_pos e,cB (by omega),wr (by omega) (by omega)];dsimp only;by_cases q:at' (at' c (k:Int)) (x:Int) < -1
      ·rw[if_pos q,if_pos Z]
      ·rw[if_neg q,if_pos (by rw[zA3];show((row g k).length:Int) - 1<_;omega)]
     ·rw[if_neg e]at a;rw[if_neg e];dsimp only;by_cases q:at' (at' c (k:Int)) (x:Int)<0
      ·rw[if_pos q,if_pos Z]
      ·rw[if_neg q,if_pos (by rw[zA3];omega)]
    ·intro d;unfold dH lY;rw[if_neg (by omega),Aw (by omega)]
   ·rw[if_pos (by omega)]
  ·rw[if_neg (by omega)];rfl
 ·rw[if_pos (by omega)];exact⟨λh=>absurd h.1 p,λ_=>rfl⟩
def IsF (q:Nat->Prop) (n:Nat) (p:Int):Prop:=(∃i:Nat,i<n∧p=i∧q i∧∀k,k<i->¬q k)∨(p = -1∧∀k,k<n->¬q k)
theorem IsF.uniq {q:Nat->Prop} {n:Nat} {p g:Int} (h:IsF q n p) (k:IsF q n g):p=g:=by
 rcases h with⟨i,a,b,c,l⟩|⟨a,b⟩<;>rcases k with⟨j,d,e,f,m⟩|⟨d,e⟩
 ·have:i=j:=by
   rcases zAz i j with q|q|q
   ·exact absurd c (m i q)
   ·exact q
   ·exact absurd f (l j q)
  omega
 ·exact absurd c (e i a)
 ·exact absurd f (b j d)
 ·omega
def Low (g:GR) (d:aR) (v i:Nat):Prop:=at' d (fQ (row g v) i).1=D d v - 1
instance (g:GR) (d:aR) (v i:Nat):Decidable (Low g d v i):=inferInstanceAs (Decidable (_=_))
theorem aak (p q:aR) (h:q.length<900):yK 1000 p q=some (decide (p=q)):=by
 unfold yK;by_cases f:p.length=q.length
 ·rw[if_neg (by omega)];have a:=wU (step:=wJ p q) (K:=some true) (bad:=some false) p.length (λk=>at' p (k:Int)=at' q (k:Int)) (λk=>(k:Int)) (λk c d b=> ?_) (λk c d b=> ?_) (λc=> ?_) 1000 (by omega)
  ·by_cases e:p=q
   ·rw[zAc e];exact a.1 λk d=>by rw[e]
   ·rw[zA8 e];exact a.2 λg=>e (QF f λv i=>g v i)
  all_goals unfold wJ
  ·rw[if_pos (by omega),cB (by omega),cB (by omega),if_neg (by simpa using b),Aw (by omega)]
  ·rw[if_pos (by omega),cB (by omega),cB (by omega),if_pos b]
  ·rw[if_neg (by omega)];rfl
 ·rw[if_pos (by omega),zA8 λe=>f (by rw[e])]
section
variable {g:GR} (hV:VG g) {d:List Int} {s:Nat} (hD:pR g s d)
 include hV hD
theorem aiG {v i:Nat} (b:v<g.2.length) (a:i<(row g v).length):0<=(fQ (row g v) i).1∧(fQ (row g v) i).1<(d.length:Int):=by
 obtain⟨u,c,e⟩:=hV.to b a;have:=hD.len;omega
theorem afr {v:Nat} (a:v<g.2.length):wI .i64 (D d v - 1)=D d v - 1:=by
 have b:=hD.lo v a;have c:=hD.hi v a;have:=hV.n24;exact wr (by omega) (by omega)
theorem agh {v i:Nat} (a:v<g.2.length) (c:i<(row g v).length):zV 1000 ((fQ (row g v) i).1,(fQ (row g v) i).2) d (v:Int)=some (decide (Low g d v i)):=by
 have b:=aiG hV hD a c;have f:=hD.len;unfold zV;rw[cB b,cB (by omega)];have e:wI .i64 (at' d (v:Int) - 1)=D d v - 1:=afr hV hD a;rw[e];rfl
theorem Rh {v:Nat} (m:v<g.2.length) (c:List Int):∃p,IsF (Low g d v) (row g v).length p∧xF 1000 g (v:Int) d c=some (decide (c=[D d v,p])):=by
 have o:=hV.n24;have l:=(hV.node v m).deg;have r:=hD.len;have n:∀a:Int,xT 1000 (v:Int) d c a=some (decide (c=[D d v,a])):=λa=>by
  unfold xT;rw[cB (by omega),aak _ _ (by simp),bD Z]
 unfold xF;rw[cB (by omega)];have i:∀b k,k<=(row g v).length->(∀j,j<k->¬Low g d v j)->(row g v).length - k<b->∃p,IsF (Low g d v) (row g v).length p∧bI (uA 1000 g (v:Int) d c) b (k:Int)=some (decide (c=[D d v,p])):=by
  intro b
  induction b with
  |zero=>intro k _ _ h;omega
  | succ b ih =>
   intro k x f w;show∃p,_∧uA 1000 g (v:Int) d c (k:Int) (bI (uA 1000 g (v:Int) d c) b)=_;unfold uA;by_cases e:k<(row g v).length
   ·rw[if_pos (show(k:Int)<((row g v).length:Int) by omega),cB (show 0<=(k:Int)∧(k:Int)<((row g v).length:Int) by omega)];have u:=agh hV hD m e;rw[show((at' (at' g.2 (v:Int)) (k:Int)).1,(at' (at' g.2 (v:Int)) (k:Int)).2)=((fQ (row g v) k).1,(fQ (row g v) k).2)from rfl,u,bD Z];by_cases q:Low g d v k
    ·rw[zAc q,if_pos Z];exact⟨k,.inl ⟨k,e,rfl,q,f⟩,n _⟩
    ·rw[zA8 q,if_neg (by simp),Aw (by omega)];exact ih (k+1) (by omega) (λj t=>by
      by_cases h:j=k
      ·subst h;exact q
      ·exact f j (by omega)) (by omega)
   ·rw[if_neg (show¬(k:Int)<((row g v).length:Int) by omega)];exact⟨-1,.inr ⟨rfl,λj t=>f j (by omega)⟩,n _⟩
 exact i 1000 0 (by omega) (λj h=>by omega) (by omega)
def Gu (g:GR) (d:List Int) (v:Nat) (l:List Int):Prop:=at' l 0=D d v∧IsF (Low g d v) (row g v).length (at' l 1)
theorem Qf (G:s=0) (u:Eh g) {c:List (List Int)} (j:Kh g [(g.2.length:Int),-1] c):
  ((∀v,v<g.2.length->Gu g d v (at' c (v:Int)))->xE 1000 g c=some true)∧(¬(∀v,v<g.2.length->Gu g d v (at' c (v:Int)))->xE 1000 g c=some false):=by
 subst G;have H:=hV.n24;have M:=hV.n1;have I:=hD.len;have q:=hV.len;have F:p_ 1000 (g.1,g.2) c=some true:=by
  unfold p_ ID lZ;have B:dC 1000 (g.1,g.2)=some true:=(xX hV).1 u;have C:eH 1000 (g.1,g.2) c [(g.1.length:Int),-1]=some true:=by
   rw[q];exact(Gw hV (by simp) c).1 j
  rw[B,bD Z,bD Z,if_pos Z,C,bD Z]
 obtain⟨h,w,t⟩:=Ol hV (s:=0) (by omega);have x:h=d:=by
  have L:=AN hV (s:=0) (by omega) hD;have A:=AN hV (s:=0) (by omega) t;rw[L]at A;exact(Option.some.inj A).symm
 subst x;unfold xE;have E:pC 1000 (g.1,g.2) 0=some h:=w;rw[F,bD Z,if_neg (by simp),E,bD Z];have i:∀v,v<g.2.length->∀p,(at' c (v:Int)=[D h v,p])↔(at' (at' c (v:Int)) 0=D h v∧at' (at' c (v:Int)) 1=p):=λv J p=>by
  have y:=(j.2 v J).1;simp only[zAh,List.length_nil]at y;generalize at' c (v:Int)=l at y ⊢
  match l,y with
  | [a,b],_=>
   show[a,b]=[D h v,p]↔a=D h v∧b=p;simp
 have N:=j.1;refine wU (step:=A_ 1000 g c h) (K:=some true) (bad:=some false) g.2.length (λv=>Gu g h v (at' c (v:Int))) (λk=>(k:Int)) (λk z o r=> ?_) (λk z o r=> ?_) (λz=> ?_) 1000 (by omega)
 all_goals unfold A_
 ·obtain⟨p,m,n⟩:=Rh hV hD o (at' c (k:Int));have f:xF 1000 (g.1,g.2) (k:Int) h (at' c (k:Int))=_:=n;rw[if_pos (by omega),cB (by omega),f,bD Z,zAc ((i k o p).2 ⟨r.1,r.2.uniq m⟩),if_neg (by simp),Aw (by omega)]
 ·obtain⟨p,m,n⟩:=Rh hV hD o (at' c (k:Int));have f:xF 1000 (g.1,g.2) (k:Int) h (at' c (k:Int))=_:=n;rw[if_pos (by omega),cB (by omega),f,bD Z,zA8 λe=>r (by
   have:=(i k o p).1 e;exact⟨this.1,by rw[this.2];exact m⟩),if_pos (by simp)]
 ·rw[if_neg (by omega)];rfl
end
theorem acv (g:GR):(VG g∧Eh g->dC 1000 g=some true∧hZ 1000 g=some true)∧(¬(VG g∧Eh g)->dC 1000 g=some false∧hZ 1000 g=some false):=by
 by_cases a:VG g
 ·obtain⟨b,c⟩:=xX a;obtain⟨d,f⟩:=TM a;exact⟨λh=>⟨b h.2,d h.2⟩,λh=>⟨c λq=>h ⟨a,q⟩,f λq=>h ⟨a,q⟩⟩⟩
 ·refine⟨λh=>absurd h.1 a,λ_=>⟨?_,?_⟩⟩
  ·unfold dC;have e:gQ 1000 (g.1,g.2)=some false:=(NF g).2 a;rw[e,bD Z,if_pos (by simp)]
  ·unfold hZ kH nX;have e:lQ 1000 (g.1,g.2)=some false:=(ON g).2 a;rw[e,bD Z,if_pos (by simp),if_pos Z,bD Z];rfl
theorem ahX {g:GR} (a:VG g) (c:Eh g):∃r,iJ 1000 g 0=some r∧gC 1000 g 0=some r:=by
 have h:=a.n1;obtain⟨r,f,d⟩:=AB a c (s:=0) (by omega);obtain⟨i,b,e,_⟩:=IM a (s:=0) (by omega);have:=Ki d (e c);subst this;exact⟨r,f,b⟩
def Gy (m:Nat) (c:bF) (k:Nat):bF:=(c.take k).map (λl=>List.drop (Int.toNat 0) (List.take m l))++List.replicate (c.length - k) []
theorem MQ {m:Nat} {c:bF} {k:Nat} (a:k<c.length):(Gy m c k).set k (List.drop (Int.toNat 0) (List.take m (at' c (k:Int))))=Gy m c (k+1):=by
 unfold Gy;obtain⟨j,b⟩:∃j,c.length - k=j+1:=⟨c.length - k - 1,by omega⟩
 rw[b,List.replicate_succ,TV _ _ _ _ k (by simp;omega)];have e:c.take (k+1)=c.take k++[at' c (k:Int)]:=by
  rw[List.take_add_one,zA0 a];congr 1;have:=gG (xs:=c) (i:=k);rw[this,zA1,zA0 a];rfl
 rw[e,List.map_append,zB4];congr 1;show _::_=[_]++_;rw[show c.length - (k+1)=j by omega];rfl
theorem Qo {m:Nat} {c:bF} {k:Nat} (a:k<=c.length):(Gy m c k).length=c.length:=by
 unfold Gy;simp;omega
theorem Qn {m:Nat} {c:bF}:Gy m c c.length=c.map (λl=>l.take m):=by
 unfold Gy;rw[List.take_length,Nat.sub_self];simp
theorem EB {m:Nat} {c:bF} {v:Nat} (a:v<c.length):at' (c.map (λl=>l.take m)) (v:Int)=(at' c (v:Int)).take m:=UA (λl:aR=>l.take m) (by omega) (by omega)
theorem Hm {m:Nat} {l:aR} {i:Nat} (a:i<m):at' (l.take m) (i:Int)=at' l (i:Int):=by
 rw[gG,gG,zA1,zA1,List.getElem?_take_of_lt a]
theorem acG {g:GR} {c b:aR} {v x:Nat} {a:Int} (h:WL g c v x a) (e:at' b (x:Int)=at' c (x:Int)):WL g b v x a:=by
 unfold WL at h ⊢;rw[e];exact h
theorem Kh.cut {g:GR} {b:aR} {c:bF} {m:Nat} (h:Kh g b c) (k:m<=b.length):Kh g (b.take m) (c.map (λl=>l.take m)):=by
 refine⟨by simpa using h.1,λv e=> ?_⟩
 have d:v<c.length:=by rw[h.1];exact e
 rw[EB d];obtain⟨j,f⟩:=h.2 v e;refine⟨by simp;omega,λx i=> ?_⟩
 have a:x<m:=by simp at i;omega
 rw[Hm a];exact acG (f x (by omega)) (Hm a)
def Cz (g:GR) (c:bF) (v:Nat):Int:=if 0<=at' (at' c (v:Int)) 1 then(at' (at' g.2 (v:Int)) (at' (at' c (v:Int)) 1)).1 else -1
def xN (g:GR) (c:bF) (k:Nat):aR:=(List.range k).map (Cz g c)
theorem CU {g:GR} {c:bF} {k:Nat}:(xN g c k).length=k:=by simp[xN]
theorem OM {g:GR} {c:bF} {k v:Nat} (a:v<k):at' (xN g c k) (v:Int)=Cz g c v:=by
 rw[gG,zA1];simp[xN,a]
theorem Xa {g:GR} {c:bF} {k:Nat}:xN g c (k+1)=xN g c k++[Cz g c k]:=by simp[xN,List.range_succ]
def Us (g:GR) (c:bF):Prop:=c.length=g.2.length∧∀v,v<g.2.length->2<=(at' c (v:Int)).length ∧ -1<=at' (at' c (v:Int)) 1∧at' (at' c (v:Int)) 1<((at' g.2 (v:Int)).length:Int)
theorem Ma {g:GR} {c:bF} (p:g.2.length<=24) (h:Us g c):pM 1000 g c 1=some (xN g c c.length):=by
 have v:=h.1;unfold pM;rw[cB (by omega)];have n:=eL (step:=qK g c 1) (K:=some (xN g c c.length)) c.length (λk=>((k:Int),xN g c k++List.replicate (c.length - k) 0)) (λk o u=> ?_) (λo=> ?_) 1000 (by omega)
 ·simpa [xN]using n
 ·obtain⟨s,t,q⟩:=h.2 k (by omega);obtain⟨j,r⟩:∃j,c.length - k=j+1:=⟨c.length - k - 1,by omega⟩
  have i:(xN g c k++List.replicate (c.length - k) 0).length=c.length:=by simp[CU];omega
  have l:∀a:Int,(xN g c k++List.replicate (c.length - k) 0).set k a=xN g c k++a::List.replicate j 0:=λa=>by rw[r,List.replicate_succ,TV _ _ _ _ k CU]
  have f:∀a b:Int,(xN g c k++a::List.replicate j 0).set k b=xN g c k++b::List.replicate j 0:=λa b=>TV _ _ _ _ k CU;have d:xN g c k++Cz g c k::List.replicate j 0=xN g c (k+1)++List.replicate (c.length - (k+1)) 0:=by rw[Xa,zB4,show c.length - (k+1)=j by omega];rfl
  unfold qK tH;dsimp only;rw[if_pos (by omega),cB (by omega),cB (by rw[i];omega),cB (by omega),show Int.toNat (k:Int)=k from rfl,l];by_cases e:0<=at' (at' c (k:Int)) 1
  ·have m:Cz g c k=(at' (at' g.2 (k:Int)) (at' (at' c (k:Int)) 1)).1:=if_pos e;rw[if_pos e,cB (by omega),cB (by omega),cB ⟨e,q⟩,cB (by simp[CU];omega),f,<-m,d,Aw (by omega)]
  ·have m:Cz g c k = -1:=if_neg e;rw[if_neg e,<-m,d,Aw (by omega)]
 ·unfold qK xU;dsimp only;rw[if_neg (by omega),Nat.sub_self];simp
structure Par (g:GR) (d:aR) (P:Nat->Int):Prop where
 root:P 0 = -1
 up:∀v,v<g.2.length->v≠0->∃u:Nat,u<g.2.length∧P v=u∧D d u=D d v - 1
theorem Ji {g:GR} (l:VG g) (r:Eh g) {d:aR} (k:pR g 0 d) {c:bF} (o:∀v,v<g.2.length->Gu g d v (at' c (v:Int))):Par g d (Cz g c):=by
 have y:=l.n1;have a:∀v,v<g.2.length->0<=D d v:=λv j=>(Hr l (s:=0) (by omega) k).2 r v (by rw[k.len];exact j);refine⟨?_,λv j p=> ?_⟩
 ·obtain⟨_,h⟩:=o 0 (by omega);rcases h with⟨i,b,_,f,_⟩|⟨b,_⟩
  ·obtain⟨u,m,e⟩:=l.to (v:=0) (by omega) b;unfold Low at f;rw[e]at f;have n:=(k.zero 0 (by omega)).2 Z;have z:=a u m;have A:D d u=D d 0 - 1:=f;omega
  ·exact if_neg (by rw[show at' (at' c ((0:Nat):Int)) 1 = -1 from b];omega)
 ·obtain⟨_,h⟩:=o v j;have x:0<D d v:=by
   have:=a v j;rcases Int.lt_or_eq_of_le this with q|q
   ·exact q
   ·exact absurd ((k.zero v j).1 q.symm) p
  rcases h with⟨i,b,n,f,_⟩|⟨_,b⟩
  ·obtain⟨u,m,e⟩:=l.to j b;unfold Low at f;rw[e]at f;refine⟨u,m,?_,f⟩
   unfold Cz;rw[if_pos (by omega),n];exact e
  ·obtain⟨u,m,⟨i,w,e⟩,t⟩:=k.near v j x;exact absurd (by unfold Low;rw[e];exact t) (b i w)
def WAt (P:Nat->Int) (c:bF) (v:Nat):Prop:=v=0∨(at' (at' c (P v)) 2=0->at' (at' c (v:Int)) 2=0∧at' (at' c (v:Int)) 3=at' (at' c (P v)) 3)
section
variable {g:GR} (hV:VG g) {d:List Int} {c:List (List Int)} (hl:c.length=g.2.length) (hr:∀v,v<g.2.length->4<=(at' c (v:Int)).length) (h2:∀v,v<g.2.length->at' (at' c (v:Int)) 2=0∨at' (at' c (v:Int)) 2=1) (hP:Par g d (Cz g c))
 include hV hl hr h2 hP
theorem Xk:((∀v,v<g.2.length->WAt (Cz g c) c v)->bI (iM c (xN g c c.length)) 1000 0=some true)∧(¬(∀v,v<g.2.length->WAt (Cz g c) c v)->bI (iM c (xN g c c.length)) 1000 0=some false):=by
 have r:=hV.n24;have s:(xN g c c.length).length=c.length:=CU;refine wU (step:=iM c (xN g c c.length)) (K:=some true) (bad:=some false) g.2.length (WAt (Cz g c) c) (λk=>(k:Int)) (λk n f a=> ?_) (λk n f a=> ?_) (λn=> ?_) 1000 (by omega)
 ·unfold iM vO vQ sI;rw[if_pos (by omega),cB (by omega),OM (by omega)];by_cases b:k=0
  ·subst b;rw[if_pos (by rw[hP.root];omega),if_pos Z];rfl
  ·obtain⟨u,j,e,_⟩:=hP.up k f b;have m:=hr u j;have l:=hr k f;rcases a with a|a
   ·exact absurd a b
   rw[e]at a ⊢;rw[if_neg (by omega),cB (by omega),cB (by omega)];rcases h2 u j with q|q
   ·obtain⟨o,p⟩:=a q;rw[zA8 (by omega),if_neg (by simp),cB (by omega),cB (by omega),cB (by omega),cB (by omega),if_neg (by omega),cB (by omega),cB (by omega),cB (by omega),cB (by omega),zA8 (by omega),if_neg (by simp),Aw (by omega)]
   ·rw[zAc q,if_pos Z,Aw (by omega)]
 ·unfold iM vO vQ sI;rw[if_pos (by omega),cB (by omega),OM (by omega)];have b:k≠0:=λe=>a (.inl e);obtain⟨u,j,e,_⟩:=hP.up k f b;have m:=hr u j;have l:=hr k f;have i:¬(at' (at' c (u:Int)) 2=0->at' (at' c (k:Int)) 2=0∧at' (at' c (k:Int)) 3=at' (at' c (u:Int)) 3):=λh=>a (.inr (by rw[e];exact h));rw[e];rw[if_neg (by omega),cB (by omega),cB (by omega)];have q:at' (at' c (u:Int)) 2=0:=by
   rcases h2 u j with q|q
   ·exact q
   ·exact absurd (λh=>by omega) i
  rw[zA8 (by omega),if_neg (by simp),cB (by omega),cB (by omega),cB (by omega),cB (by omega)];by_cases o:at' (at' c (k:Int)) 2=0
  ·rw[if_neg (by omega),cB (by omega),cB (by omega),cB (by omega),cB (by omega),if_pos];rw[zA3];exact λp=>i λ_=>⟨o,p⟩
  ·rw[if_pos (by omega),if_pos Z]
 ·unfold iM;rw[if_neg (by omega)];rfl
end
def onP (P:Nat->Int):Nat->Int->Nat->Bool
 |0,_,_=>false
 |f+1,w,u=>if w<0 then false else decide (w=(u:Int))||onP P f (P w.toNat) u
def Kg (c:bF) (v:Nat):Int:=at' (at' c (v:Int)) 4
def zP (P:Nat->Int) (n:Nat) (c:bF) (u:Nat):Nat->Int
 |0=>0
 |k+1=>zP P n c u k+if onP P (n+1) (k:Int) u then Kg c k else 0
theorem HE {P:Nat->Int} {f:Nat} {w:Int} {u:Nat} (h:w<0):onP P f w u=false:=by
 cases f with
 |zero=>rfl
 |succ f=>simp[onP,h]
theorem OV {P:Nat->Int} {n:Nat} {c:bF} {u:Nat}:∀{k:Nat},(∀v,v<k->0<=Kg c v∧Kg c v<=15)->0<=zP P n c u k∧zP P n c u k<=15*k
 |0,_=>by simp[zP]
 |k+1,h=>by
  have d:=OV (P:=P) (n:=n) (u:=u) (k:=k) λv b=>h v (by omega);have a:=h k (by omega);simp only[zP];split<;>(push_cast;omega)
section
variable {g:GR} {d:List Int} {P:Nat->Int} (hP:Par g d P) (h0:∀v,v<g.2.length->0<=D d v)
 include hP h0
 omit h0 in
theorem Lv:∀(f w u:Nat),w<g.2.length->onP P f (w:Int) u=true->D d u<=D d w
  |0,w,u,_,h=>by cases h
  | f + 1, w, u, hw, h => by
   simp only[onP]at h;rw[if_neg (by omega),zAr,zA3]at h;rcases h with h|h
   ·have:w=u:=by omega
    subst this;omega
   ·rw[show Int.toNat (w:Int)=w from rfl]at h;by_cases e:w=0
    ·subst e;rw[hP.root,HE (by omega)]at h;cases h
    ·obtain⟨p,b,a,c⟩:=hP.up w hw e;rw[a]at h;have:=Lv f p u b h;omega
theorem Ly (n:D d 0=0):∀(m w f:Nat) (u:Nat),w<g.2.length->D d w=(m:Int)->m<f->onP P f (w:Int) u=onP P (m+1) (w:Int) u:=by
 intro m
 induction m with
 | zero =>
  intro w f u b i j;obtain⟨f,rfl⟩:∃k,f=k+1:=⟨f - 1,by omega⟩
  simp only[onP];rw[if_neg (by omega),if_neg (by omega)];congr 1;have e:w=0:=by
   rcases Nat.eq_zero_or_pos w with e|e
   ·exact e
   ·obtain⟨p,a,c,h⟩:=hP.up w b (by omega);have:=h0 p a;omega
  subst e;rw[show Int.toNat ((0:Nat):Int)=0 from rfl,hP.root,HE (by omega)]
 |succ m l=>
  intro w f u b i j;obtain⟨f,rfl⟩:∃k,f=k+1:=⟨f - 1,by omega⟩
  simp only[onP];rw[if_neg (by omega),if_neg (by omega)];congr 1;have e:w≠0:=λe=>by subst e;omega
  obtain⟨p,a,c,h⟩:=hP.up w b e;rw[show Int.toNat (w:Int)=w from rfl,c,l p f u a (by omega) (by omega)];rfl
end
section
variable {g:GR} (hV:VG g) {d:List Int} (hD:pR g 0 d) {c:List (List Int)} (hl:c.length=g.2.length) (hr:∀v,v<g.2.length->(at' c (v:Int)).length=6) (hx:∀v,v<g.2.length->0<=Kg c v∧Kg c v<=15) (hP:Par g d (Cz g c)) (h0:∀v,v<g.2.length->0<=D d v)
 include hV hD hl hP h0
 include hr hx
 omit hD in
theorem TZ {v:Nat} (B:v<g.2.length) (r:List Int) (n:Int×List Int->Option (List Int)) (S:D d 0=0):∀(m a:Nat) (w:Nat) (R:List Int),w<g.2.length->D d w=(m:Int)->m+1<a->R.length=g.2.length->(∀u,u<g.2.length->0<=at' R (u:Int)∧at' R (u:Int)<=1000000 - 15*(m+1:Nat))->
   ∃l:List Int,l.length=g.2.length∧(∀u,u<g.2.length->at' l (u:Int)=at' R (u:Int)+if onP (Cz g c) (m+1) (w:Int) u then Kg c v else 0)∧bI (gR c (xN g c c.length) ((v:Int),r) n) a ((w:Int),R)=n (((v+1:Nat):Int),l):=by
  have E:=hV.n24;have J:(xN g c c.length).length=g.2.length:=by rw[CU,hl]
  have L:=hx v B;have K:=hr v B;have step:∀(m:Nat) (w:Nat) (R:List Int) (f:Int×List Int->Option (List Int)),w<g.2.length->R.length=g.2.length->(∀u,u<g.2.length->0<=at' R (u:Int)∧at' R (u:Int)<=1000000 - 15*(m+1:Nat))->
    gR c (xN g c c.length) ((v:Int),r) n ((w:Int),R) f=f (Cz g c w,R.set w (at' R (w:Int)+Kg c v)):=by
   intro m w R f h j i;have:=i w h;unfold gR;dsimp only;rw[if_pos (by omega),cB (by omega),cB (by omega),cB (by omega),cB (by omega),cB (by omega),OM (by omega)];have e:at' (at' c (v:Int)) 4=Kg c v:=rfl;rw[e,wr (by omega) (by omega)];rfl
  have t:∀(R:List Int) (f:Int×List Int->Option (List Int)),gR c (xN g c c.length) ((v:Int),r) n (-1,R) f=n (((v+1:Nat):Int),R):=by
   intro R f;unfold gR uO;dsimp only;rw[if_neg (by omega),Aw (by omega)]
  have b:∀(R:List Int) (w u:Nat) (y:Int),w<R.length->at' (R.set w y) (u:Int)=if u=w then y else at' R (u:Int):=λR w u y h=>tE R w u y h;intro m
  induction m with
  | zero =>
   intro a w R h F G j i;obtain⟨a,rfl⟩:∃k,a=k+2:=⟨a - 2,by omega⟩
   have e:w=0:=by
    rcases Nat.eq_zero_or_pos w with e|e
    ·exact e
    ·obtain⟨p,o,s,C⟩:=hP.up w h (by omega);have:=h0 p o;omega
   subst e;refine⟨R.set 0 (at' R 0+Kg c v),by simp[j],λu q=> ?_,?_⟩
   ·rw[b R 0 u _ (by omega)];have I:onP (Cz g c) (0+1) ((0:Nat):Int) u=decide (((0:Nat):Int)=(u:Int)):=by
     show(if((0:Nat):Int)<0 then false else decide (((0:Nat):Int)=(u:Int))||false)=_;rw[if_neg (by omega),Bool.or_false]
    rw[I];by_cases e:u=0
    ·subst e;rw[if_pos Z,if_pos (by simp)];rfl
    ·rw[if_neg e,if_neg (by simp;omega)];omega
   ·show gR _ _ _ _ (((0:Nat):Int),R) (bI _ (a+1))=_;rw[step 0 0 R _ h j i,hP.root];show gR _ _ _ _ (-1,_) (bI _ a)=_;rw[t];rfl
  | succ m ih =>
   intro a w R h F G j i;obtain⟨a,rfl⟩:∃k,a=k+1:=⟨a - 1,by omega⟩
   have e:w≠0:=λe=>by subst e;omega
   obtain⟨p,o,s,C⟩:=hP.up w h e;obtain⟨l,M,N,O⟩:=ih a p (R.set w (at' R (w:Int)+Kg c v)) o (by omega) (by omega) (by simp[j]) (λu q=>by
    rw[b R w u _ (by omega)];have P:=i u q;have Q:=i w h;split<;>(push_cast at *;omega))
   refine⟨l,M,λu q=> ?_,?_⟩
   ·rw[N u q,b R w u _ (by omega)];have z:onP (Cz g c) (m+1+1) (w:Int) u=(decide ((w:Int)=(u:Int))||onP (Cz g c) (m+1) (p:Int) u):=by
     show(if(w:Int)<0 then false else _)=_;rw[if_neg (by omega),show Int.toNat (w:Int)=w from rfl,s]
    rw[z];by_cases A:u=w
    ·subst A;have x:onP (Cz g c) (m+1) (p:Int) u=false:=by
      cases H:onP (Cz g c) (m+1) (p:Int) u with
      |false=>rfl
      |true=>have:=Lv hP _ p u o H;omega
     rw[if_pos Z,x];simp
    ·rw[if_neg A,zA8 (by omega),Bool.false_or]
   ·show gR _ _ _ _ ((w:Int),R) (bI _ a)=_;rw[step (m+1) w R _ h j i,s];exact O
theorem adr (j:Us g c):∃R:List Int,rW 1000 g c=some R∧R.length=g.2.length∧∀u,u<g.2.length->at' R (u:Int)=zP (Cz g c) g.2.length c u g.2.length:=by
 have h:=hV.n24;have F:=hV.n1;have y:D d 0=0:=(hD.zero 0 (by omega)).2 Z;unfold rW;have B:pM 1000 (g.1,g.2) c 1=some (xN g c c.length):=Ma h j;rw[B,bD Z,cB (by omega)];have o:=CM (step:=lJ 1000 c (xN g c c.length)) (K:=λx=>some x.2) g.2.length (λk x=>x.1=(k:Int)∧x.2.length=g.2.length∧∀u,u<g.2.length->at' x.2 (u:Int)=zP (Cz g c) g.2.length c u k) (λk x s b i=> ?_) (λx s i=> ?_) 1000 ((0:Int),List.replicate (Int.toNat (c.length:Int)) (0:Int)) ⟨rfl,by simp[hl],λu e=> ?_⟩ (by omega)
 ·obtain⟨x,⟨_,p,q⟩,r⟩:=o;exact⟨x.2,r,p,q⟩
 ·obtain⟨a,R⟩:=x;obtain⟨f,z,l⟩:=i;dsimp only at f z l;subst f;have C:=hD.hi k b;have t:=h0 k b;obtain⟨m,w⟩:∃m:Nat,D d k=(m:Int):=⟨(D d k).toNat,by omega⟩
  have E:=hD.lt b;obtain⟨A,p,q,r⟩:=TZ hV hl hr hx hP h0 b R s y m 1000 k R b w (by omega) z (λu e=>by
   have:=OV (P:=Cz g c) (n:=g.2.length) (c:=c) (u:=u) (k:=k) λv G=>hx v (by omega);rw[l u e];omega)
  refine⟨(((k+1:Nat):Int),A),⟨rfl,p,λu e=> ?_⟩,?_⟩
  ·rw[q u e,l u e];simp only[zP];rw[Ly hP h0 y m k (g.2.length+1) u b w (by omega)]
  ·unfold lJ;dsimp only;rw[if_pos (by omega)];exact r
 ·obtain⟨a,R⟩:=x;obtain⟨f,_⟩:=i;dsimp only at f;subst f;unfold lJ uN;dsimp only;rw[if_neg (by omega)]
 ·rw[hl,gG,zA1];simp[zP,e]
def SAt (g:GR) (c:List (List Int)) (u:Nat):Prop:=at' (at' c (u:Int)) 5=zP (Cz g c) g.2.length c u g.2.length
 omit hD hP h0 hx in
theorem aao {R:List Int} (j:R.length=g.2.length) (h:∀u,u<g.2.length->at' R (u:Int)=zP (Cz g c) g.2.length c u g.2.length):((∀v,v<g.2.length->SAt g c v)->bI (jC c R) 1000 0=some true)∧(¬(∀v,v<g.2.length->SAt g c v)->bI (jC c R) 1000 0=some false):=by
  have i:=hV.n24;refine wU (step:=jC c R) (K:=some true) (bad:=some false) g.2.length (SAt g c) (λk=>(k:Int)) (λk f a b=> ?_) (λk f a b=> ?_) (λf=> ?_) 1000 (by omega)
  ·have e:=hr k a;unfold jC;rw[if_pos (by omega),cB (by omega),cB (by omega),cB (by omega),if_neg (by rw[h k a,show at' (at' c (k:Int)) 5=_ from b];simp),Aw (by omega)]
  ·have e:=hr k a;unfold jC;rw[if_pos (by omega),cB (by omega),cB (by omega),cB (by omega),if_pos (by rw[h k a];exact b)]
  ·unfold jC;rw[if_neg (by omega)];rfl
end
end Go.Proofs.YtlkhndebimcbbaaGreatDoor
namespace Go.Proofs.YtlkhndebimcbbaaGreatDoor
open Go Go.Sx
def qE (g:GR) (d:aR) (v:Nat) (p:Int):Prop:=(∃i:Nat,i<(row g v).length∧p=i∧at' d (fQ (row g v) i).1=D d v - 1∧∀k,k<i->¬at' d (fQ (row g v) k).1=D d v - 1)∨(p = -1∧∀k,k<(row g v).length->¬at' d (fQ (row g v) k).1=D d v - 1)
theorem qE.uniq {g:GR} {d:aR} {v:Nat} {p l:Int} (h:qE g d v p) (m:qE g d v l):p=l:=by
 rcases h with⟨i,a,b,c,n⟩|⟨a,b⟩<;>rcases m with⟨j,e,f,k,o⟩|⟨e,f⟩
 ·have:i=j:=by
   rcases zAz i j with q|q|q
   ·exact absurd c (o i q)
   ·exact q
   ·exact absurd k (n j q)
  omega
 ·exact absurd c (f i a)
 ·exact absurd k (b j e)
 ·omega
section
variable {g:GR} {d:List Int} {c:List (List Int)} (hV:VG g) (hD:pR g 0 d) (h0:∀v,v<g.2.length->0<=D d v)
 include hV hD h0
theorem aiD (s:∀u,u<g.2.length->Fy c u=D d u) {v:Nat} (l:v<g.2.length):(TB g c v).1=D d v∧qE g d v (TB g c v).2:=by
 have J:=hV.n24;have O:=hV.n1;have I:=hV.len;have b:∀i u:Nat,(fQ (row g v) i).1=(u:Int)->u<g.2.length->AK g c v i=D d u∧at' d (fQ (row g v) i).1=D d u:=λi u a f=>⟨by rw[FD a];exact s u f,by rw[a]⟩
 unfold TB;by_cases q:v=0
 ·subst q;rw[if_pos Z];have Q:=(hD.zero 0 l).2 Z;refine⟨Q.symm,.inr ⟨rfl,λk G e=> ?_⟩⟩
  obtain⟨u,f,a,_⟩:=hV.port l G;rw[(b k u a f).2]at e;have:=h0 u f;omega
 ·rw[if_neg q];have z:0<D d v:=by
   have:=h0 v l;have P:D d v≠0:=λe=>q ((hD.zero v l).1 e);omega
  obtain⟨R,H,⟨B,t,A⟩,C⟩:=hD.near v l z;have n:AK g c v B=D d v - 1:=by rw[(b B R A H).1,C]
  have E:∀i,i<(row g v).length->D d v - 1<=AK g c v i:=λi F=>by
   obtain⟨u,f,a,r⟩:=hV.port l F;rw[(b i u a f).1];have:=(hD.next u f (h0 u f) v l (hV.back l r)).2;omega
  have o:AJ (Jv g c v)=D d v - 1:=by
   have S:AJ (Jv g c v)<=D d v - 1:=n▸OF (zAw.2 ⟨B,zAg.2 t,rfl⟩);rcases Ln (Jv g c v)with e|e
   ·have:=hD.hi v l;omega
   ·obtain⟨i,F,T⟩:=TC e;have:=E i F;omega
  have M:=hD.hi v l;have K:XB g c v=D d v:=by
   unfold XB;rw[o,if_pos (by omega),wr (by omega) (by omega)];unfold VA;omega
  refine⟨K,?_⟩
  show qE g d v (YB g c v);obtain⟨m,U,h,y⟩:=HA (p:=λi=>i<(row g v).length∧AK g c v i=D d v - 1) B ⟨t,n⟩;have L:YB g c v=(m:Int):=by
   unfold YB;rw[o];refine tI (by simpa using h.1) ?_ λj N=> ?_
   ·rw[kZ _ h.1,zAc h.2];simp[Bv]
   ·have w:j<(row g v).length:=by omega
    rw[kZ _ w,zA8 λe=>y j N ⟨w,e⟩];simp[Bv]
  refine .inl ⟨m,h.1,L,?_,λk G e=> ?_⟩
  ·obtain⟨u,f,a,_⟩:=hV.port l h.1;rw[(b m u a f).2,<-(b m u a f).1];exact h.2
  ·have x:k<(row g v).length:=by omega
   obtain⟨u,f,a,_⟩:=hV.port l x;rw[(b k u a f).2,<-(b k u a f).1]at e;exact y k G ⟨x,e⟩
end
structure TrK (g:GR) (d:aR) (k:Nat) (c:bF):Prop where
 near:∀v,v<g.2.length->D d v<(k:Int)->Fy c v=D d v∧qE g d v (HJ c v)
 far:∀v,v<g.2.length->(k:Int)<=D d v->(k:Int)<=Fy c v
def TrT (g:GR) (d:aR) (k:Nat) (c:bF) (v:Nat):Prop:=v<g.2.length∧((D d v<=(k:Int)∧¬(Fy c v=D d v∧qE g d v (HJ c v)))∨((k:Int)<D d v∧Fy c v<=(k:Int)))
structure TrS (g:GR) (c:bF) (t:Nat) (c':bF):Prop where
 stay:∀v,v<g.2.length->t.testBit v=false->Fy c' v=Fy c v∧HJ c' v=HJ c v
 move:∀v,v<g.2.length->t.testBit v=true->Fy c' v=(TB g c v).1∧HJ c' v=(TB g c v).2
section
variable {g:GR} {d:List Int} {c c':List (List Int)} {k t:Nat} (hV:VG g) (hD:pR g 0 d) (h0:∀v,v<g.2.length->0<=D d v)
 include hV hD h0
theorem aaq (h:TrK g d k c) {v:Nat} (w:v<g.2.length):(D d v<=(k:Int)->(TB g c v).1=D d v∧qE g d v (TB g c v).2)∧((k:Int)<D d v->(k:Int)<(TB g c v).1):=by
 have P:=hV.n24;have W:=hV.n1;have O:=hV.len;have T:=hD.hi v w;have x:∀i,i<(row g v).length->∃u,u<g.2.length∧at' d (fQ (row g v) i).1=D d u∧D d v - 1<=D d u∧(D d u<(k:Int)->AK g c v i=D d u)∧((k:Int)<=D d u->(k:Int)<=AK g c v i):=λi b=>by
  obtain⟨u,n,y,A⟩:=hV.port w b;have:=(hD.next u n (h0 u n) v w (hV.back w A)).2;rw[FD y,y];exact⟨u,n,rfl,by omega,λq=>(h.near u n q).1,λq=>h.far u n q⟩
 unfold TB;by_cases z:v=0
 ·subst z;rw[if_pos Z];have Y:=(hD.zero 0 w).2 Z;refine⟨λ_=>⟨Y.symm,.inr ⟨rfl,λi b e=> ?_⟩⟩,λq=>by omega⟩
  obtain⟨u,n,y,_⟩:=x i b;have:=h0 u n;omega
 rw[if_neg z];have E:0<D d v:=by
  have:=h0 v w;have X:D d v≠0:=λe=>z ((hD.zero v w).1 e);omega
 have r:AJ (Jv g c v)=1073741824∨∃i,i<(row g v).length∧AK g c v i=AJ (Jv g c v):=by
  rcases Ln (Jv g c v)with e|e
  ·exact .inl e
  ·exact .inr (TC e)
 refine⟨λU=> ?_,λU=> ?_⟩
 ·obtain⟨u0,K,⟨L,B,F⟩,H⟩:=hD.near v w E;have o:AK g c v L=D d v - 1:=by
   rw[FD F,(h.near u0 K (by omega)).1,H]
  have f:∀i,i<(row g v).length->D d v - 1<=AK g c v i∧(AK g c v i=D d v - 1↔at' d (fQ (row g v) i).1=D d v - 1):=λi b=>by
   obtain⟨u,n,e,M,N,G⟩:=x i b;by_cases q:D d u<(k:Int)
   ·have:=N q;omega
   ·have:=G (by omega);omega
  have s:AJ (Jv g c v)=D d v - 1:=by
   have M:AJ (Jv g c v)<=D d v - 1:=o▸OF (zAw.2 ⟨L,zAg.2 B,rfl⟩);rcases r with e|⟨i,b,S⟩
   ·omega
   ·have:=(f i b).1;omega
  have Q:XB g c v=D d v:=by
   unfold XB;rw[s,if_pos (by omega),wr (by omega) (by omega)];unfold VA;omega
  refine⟨Q,?_⟩
  show qE g d v (YB g c v);obtain⟨m,V,a,C⟩:=HA (p:=λi=>i<(row g v).length∧AK g c v i=D d v - 1) L ⟨B,o⟩;have R:YB g c v=(m:Int):=by
   unfold YB;rw[s];refine tI (by simpa using a.1) ?_ λj J=> ?_
   ·rw[kZ _ a.1,zAc a.2];simp[Bv]
   ·have l:j<(row g v).length:=by omega
    rw[kZ _ l,zA8 λe=>C j J ⟨l,e⟩];simp[Bv]
  refine .inl ⟨m,a.1,R,((f m a.1).2).1 a.2,λj J e=> ?_⟩;have l:j<(row g v).length:=by omega
  exact C j J ⟨l,((f j l).2).2 e⟩
 ·have I:∀i,i<(row g v).length->(k:Int)<=AK g c v i:=λi b=>by
   obtain⟨u,n,e,M,N,G⟩:=x i b;exact G (by omega)
  have V:(k:Int)<=AJ (Jv g c v):=by
   rcases r with e|⟨i,b,S⟩
   ·omega
   ·have:=I i b;omega
  show(k:Int)<XB g c v;unfold XB;by_cases q:AJ (Jv g c v)<(g.1.length:Int)
  ·rw[if_pos q,wr (by omega) (by omega)];unfold VA;omega
  ·rw[if_neg q];omega
theorem VJ (h:TrK g d k c) {v:Nat} (f:TrT g d k c v):¬GI g c v:=by
 obtain⟨m,f⟩:=f;obtain⟨a,b⟩:=aaq hV hD h0 h m;rintro⟨n,o⟩;rcases f with⟨e,i⟩|⟨e,i⟩
 ·obtain⟨j,l⟩:=a e;exact i ⟨by rw[n,j],by rw[o];exact l⟩
 ·have:=b e;omega
theorem aar (h:TrK g d k c) (l:TrS g c t c'):TrK g d k c'∧∀v,TrT g d k c' v->TrT g d k c v∧t.testBit v=false:=by
 refine⟨⟨λv e n=> ?_,λv e n=> ?_⟩,λv ⟨e,m⟩=> ?_⟩
 all_goals obtain⟨a,b⟩:=aaq hV hD h0 h e
 ·cases f:t.testBit v with
  |true=>obtain⟨i,j⟩:=l.move v e f;rw[i,j];exact a (by omega)
  |false=>obtain⟨i,j⟩:=l.stay v e f;rw[i,j];exact h.near v e n
 ·cases f:t.testBit v with
  |true=>
   rw[(l.move v e f).1];by_cases q:D d v<=(k:Int)
   ·rw[(a q).1];exact n
   ·have:=b (by omega);omega
  |false=>rw[(l.stay v e f).1];exact h.far v e n
 ·cases f:t.testBit v with
  |true=>
   exfalso;obtain⟨i,j⟩:=l.move v e f;rw[i,j]at m;rcases m with⟨o,p⟩|⟨o,p⟩
   ·exact p (a o)
   ·have:=b o;omega
  |false=>
   obtain⟨i,j⟩:=l.stay v e f;rw[i,j]at m;exact⟨⟨e,m⟩,rfl⟩
 omit hV hD in
theorem IT (b:∀v,v<g.2.length->0<=Fy c v):TrK g d 0 c:=⟨λv a q=>by have:=h0 v a;omega,λv a _=>b v a⟩
 omit hV hD h0 in
theorem RH (h:TrK g d k c) (e:∀v,¬TrT g d k c v):TrK g d (k+1) c:=by
  have b:∀v,v<g.2.length->(D d v<=(k:Int)->Fy c v=D d v∧qE g d v (HJ c v))∧((k:Int)<D d v->(k:Int)<Fy c v):=λv a=>
   ⟨λq=>Classical.not_not.1 λr=>e v ⟨a,.inl ⟨q,r⟩⟩,λq=>zAk.1 λf=>e v ⟨a,.inr ⟨q,by omega⟩⟩⟩
  exact⟨λv a q=>(b v a).1 (by omega),λv a q=>by have:=(b v a).2 (by omega);omega⟩
end
theorem ait {g:GR} {a:List D_} (b:tC g a) {x:Nat} (c:x<a.length) (v:Nat):lo g (at' a (x:Int)) v<=hi g (at' a (x:Int)) v:=by
 rcases b.kind x c with k|k|k
 ·have h:=(b.range x c k).2.1;unfold lo hi at h ⊢;rw[k]at h ⊢;simpa using h
 ·unfold lo hi;rw[k];simp
 ·unfold lo hi;rw[k];simp;omega
theorem Wq {g:GR} {a:List D_} (b:tC g a) {x:Nat} (c:x<a.length) (v:Nat) (y:Int):lo g (at' a (x:Int)) v<=nH (at' a (x:Int)).2.1 (qL g a v x) y∧nH (at' a (x:Int)).2.1 (qL g a v x) y<=hi g (at' a (x:Int)) v:=by
 have h:=ait b c v;unfold nH qL;dsimp only;split
 ·assumption
 ·split
  ·rename_i k;unfold lo hi;rw[k];simp;omega
  ·split<;>omega
section
variable {S:BS} {vars:List D_} {R:List RL} {c:List (List Int)} {t v:Nat}
theorem aai (f:tC S.2.1 vars) {a:List Int} (d:a.length=vars.length) (h:∀x,x<vars.length->lo S.2.1 (at' vars (x:Int)) v<=at' a (x:Int)∧at' a (x:Int)<=hi S.2.1 (at' vars (x:Int)) v) (s:Nat×E):
  (EU S vars c v a s).length=vars.length∧∀x,x<vars.length->lo S.2.1 (at' vars (x:Int)) v<=at' (EU S vars c v a s) (x:Int)∧at' (EU S vars c v a s) (x:Int)<=hi S.2.1 (at' vars (x:Int)) v:=by
 unfold EU;refine⟨by rw[zA2,d],λx b=> ?_⟩
 by_cases g:s.1<a.length
 ·rw[tE a s.1 x _ g];split
  ·rename_i e;rw[<-e];exact Wq f b v _
  ·exact h x b
 ·rw[List.set_eq_of_length_le (by omega)];exact h x b
theorem Nj (k:tC S.2.1 vars) (h:DY S.2.1 c vars) (j:v<S.2.1.2.length) (i:Int):(mS S vars R c v i).length=vars.length∧∀x,x<vars.length->lo S.2.1 (at' vars (x:Int)) v<=at' (mS S vars R c v i) (x:Int)∧at' (mS S vars R c v i) (x:Int)<=hi S.2.1 (at' vars (x:Int)) v:=by
 have g:∀(l:List (Nat×E)) (d:List Int),d.length=vars.length->(∀x,x<vars.length->lo S.2.1 (at' vars (x:Int)) v<=at' d (x:Int)∧at' d (x:Int)<=hi S.2.1 (at' vars (x:Int)) v)->
   (l.foldl (EU S vars c v) d).length=vars.length∧∀x,x<vars.length->lo S.2.1 (at' vars (x:Int)) v<=at' (l.foldl (EU S vars c v) d) (x:Int)∧at' (l.foldl (EU S vars c v) d) (x:Int)<=hi S.2.1 (at' vars (x:Int)) v:=by
  intro l
  induction l with
  |nil=>intro d e f;exact⟨e,f⟩
  |cons s l m=>
   intro d e f;obtain⟨a,b⟩:=aai (c:=c) k e f s;exact m _ a b
 exact g _ _ (h.row v j) (h.ok v j)
theorem Nu (e:tC S.2.1 vars) (a:DY S.2.1 c vars):DY S.2.1 (iP S vars R c t) vars:=by
 have d:=a.len;refine⟨by rw[Nt,d],λv b=> ?_,λv b x f=> ?_⟩
 ·rw[Au (by omega)];split
  ·exact(Nj e a b _).1
  ·exact a.row v b
 ·unfold val;rw[Au (by omega)];split
  ·exact(Nj e a b _).2 x f
  ·exact a.ok v b x f
theorem TX {x:Nat} (j:∀r∈R,∀s∈r.2,s.1≠x) (k:v<c.length):at' (at' (iP S vars R c t) (v:Int)) (x:Int)=at' (at' c (v:Int)) (x:Int):=by
 rw[Au k];split
 ·have f:∀(l:List (Nat×E)) (b:List Int),(∀s∈l,s.1≠x)->at' (l.foldl (EU S vars c v) b) (x:Int)=at' b (x:Int):=by
   intro l
   induction l with
   |nil=>intro b _;rfl
   |cons s l m=>
    intro b h;refine(m _ λn d=>h n (zAe _ d)).trans ?_;unfold EU;by_cases a:s.1<b.length
    ·rw[tE b s.1 x _ a,if_neg (λe=>h s zA7 e.symm)]
    ·rw[List.set_eq_of_length_le (by omega)]
  refine f _ _ λs a=> ?_;generalize eI S R c v=i at a;unfold at' at a;by_cases g:i.toNat<R.length
  ·rw[zA1,zA0 g,Option.getD_some]at a;exact j _ (List.getElem_mem g) s a
  ·rw[zA1,zAp (by omega),Option.getD_none]at a;cases a
 ·rfl
end
theorem Tm (a b:aR):rE (a++b)=if 0<=rE a then rE a else if 0<=rE b then(a.length:Int)+rE b else -1:=by
 unfold rE;rw[List.findIdx?_append];cases c:a.findIdx? nz with
 |some i=>simp
 |none=>
  cases d:b.findIdx? nz with
  |some i=>simp;omega
  |none=>simp
theorem abt {c:Type} [Inhabited c] (a b:List c) {i:Nat} (h:i<a.length):at' (a++b) (i:Int)=at' a (i:Int):=by
 rw[gG,gG,zA1,zA1,zAa h]
theorem abu {c:Type} [Inhabited c] (a b:List c) (i:Nat):at' (a++b) ((a.length+i:Nat):Int)=at' b (i:Int):=by
 rw[gG,gG,zA1,zA1,zA9 (by omega),Nat.add_sub_cancel_left]
section
variable {S:BS} {A B R:List RL} {vars:List D_} {c:List (List Int)} {v:Nat}
theorem Ns:eI S (A++B) c v=if 0<=eI S A c v then eI S A c v else if 0<=eI S B c v then(A.length:Int)+eI S B c v else -1:=by
 unfold eI;rw[List.map_append,Tm,List.length_map]
theorem TG {i:Nat} (h:i<A.length):mS S vars (A++B) c v (i:Int)=mS S vars A c v (i:Int):=by
 unfold mS;rw[abt _ _ h]
theorem TH (i:Nat):mS S vars (A++B) c v ((A.length+i:Nat):Int)=mS S vars B c v (i:Int):=by
 unfold mS;rw[abu]
theorem EQ {i:Nat} (b:i<R.length) (d:gK S c v (at' R (i:Int)).1≠0) (f:∀j:Nat,j<i->gK S c v (at' R (j:Int)).1=0):eI S R c v=(i:Int):=by
 have e:∀j:Nat,j<R.length->at' (R.map λr=>gK S c v r.1) (j:Int)=gK S c v (at' R (j:Int)).1:=λj a=>by
  rw[lX (by simpa using a),lX a];simp
 exact tI (by simpa using b) (by rw[e i b];exact d) λj a=>by rw[e j (by omega)];exact f j a
theorem Lo {x:Nat} (j:∀r∈R,∀s∈r.2,s.1≠x) (i:Int):at' (mS S vars R c v i) (x:Int)=at' (at' c (v:Int)) (x:Int):=by
 have f:∀(l:List (Nat×E)) (b:List Int),(∀s∈l,s.1≠x)->at' (l.foldl (EU S vars c v) b) (x:Int)=at' b (x:Int):=by
  intro l
  induction l with
  |nil=>intro b _;rfl
  |cons s l k=>
   intro b h;refine(k _ λm d=>h m (zAe _ d)).trans ?_;unfold EU;by_cases a:s.1<b.length
   ·rw[tE b s.1 x _ a,if_neg (λe=>h s zA7 e.symm)]
   ·rw[List.set_eq_of_length_le (by omega)]
 refine f _ _ λs a=> ?_;unfold at' at a;by_cases g:i.toNat<R.length
 ·rw[zA1,zA0 g,Option.getD_some]at a;exact j _ (List.getElem_mem g) s a
 ·rw[zA1,zAp (by omega),Option.getD_none]at a;cases a
end
def IJ (g:GR) (c:List (List Int)):List (List Int):=(List.range g.2.length).map λv=>[Fy c v,HJ c v]
section
variable {p:sW} {g:GR} {W:List D_} {R':List RL} {c:List (List Int)} {v t:Nat}
theorem Vr (a:v<g.2.length):Fy (IJ g c) v=Fy c v:=by
 show at' (at' (IJ g c) (v:Int)) 0=_;rw[show at' (IJ g c) (v:Int)=[Fy c v,HJ c v]from kZ _ a];rfl
theorem ac_ (a:v<g.2.length):HJ (IJ g c) v=HJ c v:=by
 show at' (at' (IJ g c) (v:Int)) 1=_;rw[show at' (IJ g c) (v:Int)=[Fy c v,HJ c v]from kZ _ a];rfl
theorem Is (d:DY g c (tZ++W)) (e:v<g.2.length):(0<=Fy c v∧Fy c v<=(g.2.length:Int)) ∧ -1<=HJ c v∧HJ c v<=((row g v).length:Int) - 1:=by
 have a:=d.ok v e 0 (by show 0<W.length+2;omega);have b:=d.ok v e 1 (by show 1<W.length+2;omega);have f:lo g (at' (tZ++W) ((0:Nat):Int)) v=0:=ZA g v;have h:hi g (at' (tZ++W) ((0:Nat):Int)) v=(g.2.length:Int):=Zo g v;have i:lo g (at' (tZ++W) ((1:Nat):Int)) v = -1:=afR g v;have j:hi g (at' (tZ++W) ((1:Nat):Int)) v=((row g v).length:Int) - 1:=afH g v;rw[f,h]at a;rw[i,j]at b;exact⟨a,b⟩
theorem ada (f:DY g c (tZ++W)):DY g (IJ g c) tZ:=by
 refine⟨by simp[IJ],λu d=>by rw[show at' (IJ g c) (u:Int)=[Fy c u,HJ c u]from kZ _ d];rfl,λu d x e=> ?_⟩
 obtain⟨a,b⟩:=Is f d;have e:x<2:=e
 match x,e with
 |0,_=>rw[ZA,Zo];show 0<=Fy (IJ g c) u∧Fy (IJ g c) u<=_;rw[Vr d];exact a
 |1,_=>rw[afR,afH];show -1<=HJ (IJ g c) u∧HJ (IJ g c) u<=_;rw[ac_ d];exact b
theorem aem (a:VG g) (d:DY g c (tZ++W)) (b:v<g.2.length):(0<=(TB g c v).1∧(TB g c v).1<=(g.2.length:Int)) ∧ -1<=(TB g c v).2∧(TB g c v).2<=((row g v).length:Int) - 1:=by
 rw[<-abi a b λu e=>Vr (c:=c) e];exact ahE a (ada d) b
theorem adU (l:List Int) (h:2<=l.length) (x y:Int):at' ((l.set 0 x).set 1 y) 0=x∧at' ((l.set 0 x).set 1 y) 1=y:=by
 match l,h with
 |a::b::l,_=>exact⟨rfl,rfl⟩
theorem afY (r:VG g) (l:DY g c (tZ++W)) (n:v<g.2.length) (h:0<=eI (aU p g) RB c v):at' (mS (aU p g) (tZ++W) RB c v (eI (aU p g) RB c v)) 0=(TB g c v).1∧at' (mS (aU p g) (tZ++W) RB c v (eI (aU p g) RB c v)) 1=(TB g c v).2:=by
 have m:2<=(at' c (v:Int)).length:=by
  have e:(at' c (v:Int)).length=W.length+2:=l.row v n;omega
 have j:qL g tZ v 0=(0,(g.2.length:Int)):=by unfold qL;rw[ZA,Zo]
 have k:qL g tZ v 1=(-1,((row g v).length:Int) - 1):=by unfold qL;rw[afR,afH]
 obtain⟨⟨o,b⟩,q,d⟩:=aem r l n;rcases Ri h with⟨e,a,_⟩|⟨e,a,_⟩
 ·have f:mS (aU p g) (tZ++W) RB c v 0=((at' c (v:Int)).set 0 (nH 1 (qL g tZ v 0) 0)).set 1 (nH 3 (qL g tZ v 1) (-1)):=rfl;have i:TB g c v=(0,-1):=by unfold TB;rw[if_pos a]
  rw[i]at d b ⊢;dsimp only at d b;rw[e,f,j,k,CG (by omega) (by omega),CG (by omega) (by omega)];exact adU _ m _ _
 ·have f:mS (aU p g) (tZ++W) RB c v 1=((at' c (v:Int)).set 0 (nH 1 (qL g tZ v 0) (gK (aU p g) c v exX))).set 1 (nH 3 (qL g tZ v 1) (gK (aU p g) c v exY)):=rfl;have i:TB g c v=(XB g c v,YB g c v):=by unfold TB;rw[if_neg a]
  rw[i]at o b q d ⊢;dsimp only at o b q d;rw[e,f,j,k,YT,YU,CG (by omega) (by omega),CG (by omega) (by omega)];exact adU _ m _ _
theorem JY (h:GI g c v):eI (aU p g) (RB++R') c v=if 0<=eI (aU p g) R' c v then 2+eI (aU p g) R' c v else -1:=by
 rw[Ns,if_neg (Nr.2 h)];rfl
theorem Ls (h:¬GI g c v):eI (aU p g) (RB++R') c v=eI (aU p g) RB c v∧0<=eI (aU p g) RB c v:=by
 have:0<=eI (aU p g) RB c v:=zAk.1 λq=>h (Nr.1 q);exact⟨by rw[Ns,if_pos this],this⟩
theorem QN (h:GI g c v) (a:0<=eI (aU p g) (RB++R') c v):0<=eI (aU p g) R' c v∧mS (aU p g) (tZ++W) (RB++R') c v (eI (aU p g) (RB++R') c v)=mS (aU p g) (tZ++W) R' c v (eI (aU p g) R' c v):=by
 rw[JY h]at a;by_cases q:0<=eI (aU p g) R' c v
 ·refine⟨q,?_⟩
  rw[JY h,if_pos q];obtain⟨i,b⟩:∃i:Nat,eI (aU p g) R' c v=(i:Int):=⟨_,(Int.toNat_of_nonneg q).symm⟩
  rw[b,show(2:Int)+(i:Int)=((RB.length+i:Nat):Int) by simp[RB]];exact TH i
 ·rw[if_neg q]at a;omega
theorem agr (u:VG g) (m:DY g c (tZ++W)) (l:∀r∈R',∀s∈r.2,2<=s.1) (j:∀v,t.testBit v=true->v<g.2.length∧0<=eI (aU p g) (RB++R') c v):TrS g c t (iP (aU p g) (tZ++W) (RB++R') c t):=by
 have a:=m.len;refine⟨λv f b=> ?_,λv f b=> ?_⟩
 ·unfold Fy HJ;rw[Au (by rw[a];exact f),if_neg (by rw[b];decide)];exact⟨rfl,rfl⟩
 ·obtain⟨_,y⟩:=j v b;unfold Fy HJ;rw[Au (by rw[a];exact f),if_pos b];by_cases d:GI g c v
  ·obtain⟨_,e⟩:=QN (W:=W) d y;rw[e];have z:=Lo (S:=aU p g) (R:=R') (vars:=tZ++W) (c:=c) (v:=v) (x:=0) (λr h s k=>by have:=l r h s k;omega) (eI (aU p g) R' c v);have A:=Lo (S:=aU p g) (R:=R') (vars:=tZ++W) (c:=c) (v:=v) (x:=1) (λr h s k=>by have:=l r h s k;omega) (eI (aU p g) R' c v);exact⟨z.trans d.1,A.trans d.2⟩
  ·obtain⟨e,o⟩:=Ls (p:=p) (R':=R') d;rw[e];obtain⟨i,n,w⟩:∃i:Nat,eI (aU p g) RB c v=(i:Int)∧i<RB.length:=by
    rcases ER (aU p g) RB c v with q|⟨i,B,C,_⟩
    ·omega
    ·exact⟨i,B,C⟩
   rw[n,TG w,<-n];exact afY u m f o
end
section
variable {L:Int->Int->Int->Int} {deg:Nat} {x y:E} {q:Int}
theorem Dp:(E.bi 41 x y).den L deg q≠0↔x.den L deg q≠0∧y.den L deg q≠0:=by
 show Bv (decide (x.den L deg q≠0)&&decide (y.den L deg q≠0))≠0↔_;rw[vC,zA6,zA3,zA3]
theorem YK:(E.bi 42 x y).den L deg q≠0↔x.den L deg q≠0∨y.den L deg q≠0:=by
 show Bv (decide (x.den L deg q≠0)||decide (y.den L deg q≠0))≠0↔_;rw[vC,zAr,zA3,zA3]
theorem JM:(E.un 19 x).den L deg q≠0↔x.den L deg q=0:=by
 show Bv (decide (x.den L deg q=0))≠0↔_;rw[vC,zA3]
theorem KM:(E.bi 35 x y).den L deg q≠0↔x.den L deg q=y.den L deg q:=by
 show Bv (decide (x.den L deg q=y.den L deg q))≠0↔_;rw[vC,zA3]
theorem YJ:(E.bi 36 x y).den L deg q≠0↔x.den L deg q≠y.den L deg q:=by
 show Bv (decide (x.den L deg q≠y.den L deg q))≠0↔_;rw[vC,zA3]
theorem Qq:(E.ag 21 x).den L deg q≠0↔∃i:Nat,i<deg∧x.den L deg (i:Int)≠0:=by
 show Bv (((List.range deg).map λi=>x.den L deg ((i:Nat):Int)).any nz)≠0↔_;rw[vC,List.any_eq_true];constructor
 ·rintro⟨z,c,b⟩;obtain⟨i,a,rfl⟩:=zAw.1 c;exact⟨i,zAg.1 a,by simpa [nz]using b⟩
 ·rintro⟨i,a,b⟩;exact⟨_,zAw.2 ⟨i,zAg.2 a,rfl⟩,by simpa [nz]using b⟩
theorem ack:(E.ag 20 x).den L deg q≠0↔∀i:Nat,i<deg->x.den L deg (i:Int)≠0:=by
 show Bv (((List.range deg).map λi=>x.den L deg ((i:Nat):Int)).all nz)≠0↔_;rw[vC,zA5];constructor
 ·intro h i a;have:=h _ (zAw.2 ⟨i,zAg.2 a,rfl⟩);simpa [nz]using this
 ·intro h z b;obtain⟨i,a,rfl⟩:=zAw.1 b;simpa [nz]using h i (zAg.1 a)
end
def pK (c:List (List Int)) (v:Nat) (x:Int):Int:=at' (at' c (v:Int)) x
def Pp (g:GR) (c:List (List Int)) (v i:Nat) (x:Int):Int:=at' (at' c (fQ (row g v) i).1) x
theorem AL {g:GR} {c:List (List Int)} {v i u:Nat} {x:Int} (h:(fQ (row g v) i).1=(u:Int)):Pp g c v i x=pK c u x:=by unfold Pp pK;rw[h]
def Qz:E:= .bi 35 (.lf 11 0) (.lf 5 1)
def aih:E:= .bi 41 (.bi 41 (.lf 10 0) (.un 19 (.lf 5 2))) (.lf 5 5)
def Zi:E:= .bi 41 (.un 19 (.lf 10 0)) (.ag 21 (.bi 41 Qz (.bi 42 (.bi 36 (.lf 12 3) (.lf 5 3)) (.bi 41 (.lf 5 2) (.un 19 (.lf 12 2))))))
def Zk:E:= .bi 41 (.lf 5 2) (.ag 20 (.bi 42 (.bi 36 (.lf 12 1) (.lf 17 0)) (.bi 41 (.un 19 (.lf 12 2)) (.bi 35 (.lf 12 3) (.lf 5 3)))))
def aii:E:= .bi 41 (.bi 41 (.un 19 (.lf 5 2)) (.un 19 (.lf 5 5))) (.ag 21 (.bi 41 (.bi 41 (.bi 35 (.lf 12 1) (.lf 17 0)) (.lf 12 5)) (.un 19 (.lf 12 2))))
def RS:List RL:=[(guT,[(0,.lf 1 0),(1,.lf 4 0)]),(guB,[(0,exX),(1,exY)]),(aih,[(2,.lf 2 0),(3,.un 19 (.lf 5 3)),(4,.lf 1 0),(5,.lf 3 0)]),
 (Zi,[(2,.ag 21 (.bi 41 Qz (.lf 12 2))),(3,.ag 21 (.bi 41 Qz (.lf 12 3))),(4,.lf 1 0),(5,.lf 3 0)]),(Zk,[(2,.lf 3 0)]),(aii,[(5,.lf 2 0)])]
section
variable {p:sW} {g:GR} {c:List (List Int)} {v:Nat}
theorem agi {a:Nat} {q:Int}:(E.lf 10 0).den (Vg (aU p g,c,(v:Int),[])) a q≠0↔v=0:=by
 show Bv (decide ((v:Int)=0))≠0↔_;rw[vC,zA3];omega
theorem aiz {a:Nat} {q:Int}:(E.lf 10 0).den (Vg (aU p g,c,(v:Int),[])) a q=0↔v≠0:=by
 show Bv (decide ((v:Int)=0))=0↔_;rw[ahJ,decide_eq_false_iff_not];omega
theorem SR (d:v<g.2.length) {a i:Nat} (b:i<(row g v).length):(E.lf 17 0).den (Vg (aU p g,c,(v:Int),[])) a (i:Int)=Bw g v i:=by
 show at' (at' (fK g) (v:Int)) (i:Int)=_;unfold fK;rw[kZ _ d,kZ _ b]
theorem Zj:gK (aU p g) c v Zi≠0↔v≠0∧∃i:Nat,i<(row g v).length∧(i:Int)=pK c v 1∧(Pp g c v i 3≠pK c v 3∨(pK c v 2≠0∧Pp g c v i 2=0)):=by
 unfold gK Zi Qz;rw[Dp,JM,aiz,Qq];simp only[Dp,YK,JM,KM,YJ];exact Iff.rfl
theorem Zl (b:v<g.2.length):gK (aU p g) c v Zk≠0↔pK c v 2≠0∧∀i:Nat,i<(row g v).length->Pp g c v i 1≠Bw g v i∨(Pp g c v i 2=0∧Pp g c v i 3=pK c v 3):=by
 unfold gK Zk;rw[Dp,ack];simp only[Dp,YK,JM,KM,YJ];refine and_congr Iff.rfl ⟨λh i a=> ?_,λh i a=> ?_⟩
 ·have:=h i a;rw[SR b a]at this;exact this
 ·rw[SR b a];exact h i a
end
end Go.Proofs.YtlkhndebimcbbaaGreatDoor
namespace Go.Proofs.YtlkhndebimcbbaaGreatDoor
structure RT (n E:Nat) (par dp:Nat->Nat):Prop where
 n1:0<n
 d0:dp 0=0
 up:∀v,v<n->v≠0->par v<n∧dp v=dp (par v)+1
 le:∀v,v<n->dp v<=E
def Mk (a:Nat->Nat) (s b:Nat->Int) (v:Nat):Prop:=v≠0∧(b (a v)≠b v∨(s v≠0∧s (a v)=0))
def Um (n:Nat) (a:Nat->Nat) (s b:Nat->Int) (v:Nat):Prop:=s v≠0∧∀w,w<n->w≠0->a w=v->s w=0∧b w=b v
structure WS (n:Nat) (par:Nat->Nat) (m:Nat->Prop) (s b s' b':Nat->Int):Prop where
 stay:∀v,v<n->¬m v->s' v=s v∧b' v=b v
 take:∀v,v<n->m v->Mk par s b v->s' v=s (par v)∧b' v=b (par v)
 fin:∀v,v<n->m v->¬Mk par s b v->Um n par s b v->s' v=0∧b' v=b v
 oth:∀v,v<n->m v->¬Mk par s b v->¬Um n par s b v->(s' v=s v∧b' v=b v)∨(v=0∧s 0=0∧s' 0≠0∧b' 0≠b 0)
def gd (a:Nat->Nat) (s b:Nat->Int) (v:Nat):Prop:=s (a v)≠0∨(s v=0∧b v=b (a v))
def AG (n:Nat) (a:Nat->Nat) (s b:Nat->Int):Prop:=∀v,v<n->v≠0->gd a s b v
def Qt (n:Nat) (s b:Nat->Int):Prop:=∀v,v<n->s v=0∧b v=b 0
def XI (n:Nat) (a:Nat->Nat) (b:Nat->Int) (j:Nat):Prop:=∀v,v<n->a v<=j->b v=b 0
def Wc (n E:Nat) (a:Nat->Nat) (s:Nat->Int) (i:Nat):Prop:=∀v,v<n->E<a v+i->s v=0
def CI (n:Nat) (a:Nat->Nat) (s b:Nat->Int):Prop:=∀v,v<n->(b v=b 0->s v=0->∀w,w<n->w≠0->a w=v->s w=0∧b w=b 0)∧(b v≠b 0->s v=0∧∀w,w<n->w≠0->a w=v->b w≠b 0)
section
variable {n E:Nat} {par dp:Nat->Nat} {m:Nat->Prop} {s b s' b':Nat->Int} (hT:RT n E par dp) (hW:WS n par m s b s' b')
theorem WS.cases (hW:WS n par m s b s' b') {v:Nat} (d:v<n):(s' v=s v∧b' v=b v)∨(m v∧Mk par s b v∧s' v=s (par v)∧b' v=b (par v))∨(m v∧¬Mk par s b v∧Um n par s b v∧s' v=0∧b' v=b v)∨(m v∧v=0∧s 0=0∧s' 0≠0∧b' 0≠b 0):=by
 by_cases a:m v
 ·by_cases c:Mk par s b v
  ·exact .inr (.inl ⟨a,c,hW.take v d a c⟩)
  ·by_cases e:Um n par s b v
   ·exact .inr (.inr (.inl ⟨a,c,e,hW.fin v d a c e⟩))
   ·rcases hW.oth v d a c e with h|h
    ·exact .inl h
    ·exact .inr (.inr (.inr ⟨a,h⟩))
 ·exact .inl (hW.stay v d a)
theorem WS.rest (hW:WS n par m s b s' b') {v:Nat} (e:v<n) (c:v≠0) (a:s v=0) (d:b v=b (par v)):s' v=s v∧b' v=b v:=by
 rcases hW.cases e with h|⟨_,h,_⟩|⟨_,_,h,_⟩|⟨_,h,_⟩
 ·exact h
 ·rcases h.2 with q|q
  ·exact absurd d.symm q
  ·exact absurd a q.1
 ·exact absurd a h.1
 ·exact absurd h c
theorem TI {v:Nat} (c:v≠0) (h:¬gd par s b v):Mk par s b v:=by
 refine⟨c,?_⟩
 by_cases a:b (par v)=b v
 ·refine .inr ⟨λq=>h (.inr ⟨q,a.symm⟩),zAk.1 λq=>h (.inl q)⟩
 ·exact .inl a
 include hT hW
theorem JS {v:Nat} (i:v<n) (g:v≠0) (x:par v=0∨gd par s b (par v)) (h:gd par s b v∨m v):gd par s' b' v:=by
 obtain⟨o,_⟩:=hT.up v i g;rcases hW.cases o with⟨d,k⟩|⟨_,t,d,_⟩|⟨_,_,w,d,k⟩|⟨_,u,_,d,_⟩
 ·unfold gd;rw[d,k];by_cases l:s (par v)=0
  ·right;have j:gd par s b v->s' v=0∧b' v=b (par v):=λh=>by
    rcases h with q|⟨a,c⟩
    ·exact absurd l q
    ·obtain⟨e,f⟩:=hW.rest i g a c;rw[e,f];exact⟨a,c⟩
   rcases h with h|h
   ·exact j h
   ·by_cases p:gd par s b v
    ·exact j p
    ·obtain⟨e,f⟩:=hW.take v i h (TI g p);rw[e,f];exact⟨l,rfl⟩
  ·exact .inl l
 ·left;rw[d];rcases x with q|q|⟨a,c⟩
  ·exact absurd q t.1
  ·exact q
  ·rcases t.2 with r|r
   ·exact absurd c.symm r
   ·exact absurd a r.1
 ·obtain⟨a,c⟩:=w.2 v i g Z;obtain⟨e,f⟩:=hW.rest i g a c;exact .inr ⟨by rw[e,a],by rw[f,k,c]⟩
 ·left;rw[u];exact d
theorem BZ (h:AG n par s b):AG n par s' b':=λv c a=>by
 refine JS hT hW c a ?_ (.inl (h v c a));by_cases e:par v=0
 ·exact .inl e
 ·exact .inr (h _ (hT.up v c a).1 e)
 omit hW
theorem adS (h:AG n par s b) (g:s 0=0):Qt n s b:=by
 have c:∀k v,v<n->dp v=k->s v=0∧b v=b 0:=by
  intro k
  induction k with
  |zero=>
   intro v a i;by_cases e:v=0
   ·subst e;exact⟨g,rfl⟩
   ·have:=(hT.up v a e).2;omega
  |succ k o=>
   intro v a i;have e:v≠0:=λe=>by subst e;have:=hT.d0;omega
   obtain⟨l,j⟩:=hT.up v a e;obtain⟨d,f⟩:=o _ l (by omega);rcases h v a e with q|⟨p,r⟩
   ·exact absurd d q
   ·exact⟨p,by rw[r,f]⟩
 exact λv a=>c _ v a Z
 omit hT in
theorem Qt.ag (h:Qt n s b) (hT:RT n E par dp):AG n par s b:=λv a c=> .inr ⟨(h v a).1,by rw[(h v a).2,(h _ (hT.up v a c).1).2]⟩
 include hW
theorem Np (h:AG n par s b) (d:s 0≠0):(s' 0=s 0∧b' 0=b 0)∨(m 0∧Um n par s b 0∧s' 0=0∧b' 0=b 0∧Qt n s' b'):=by
 rcases hW.cases hT.n1 with e|⟨_,e,_⟩|⟨g,_,f,a,c⟩|⟨_,_,e,_⟩
 ·exact .inl e
 ·exact absurd Z e.1
 ·exact .inr ⟨g,f,a,c,adS hT (BZ hT hW h) a⟩
 ·exact absurd e d
theorem QE {j:Nat} (h:XI n dp b j) (f:b' 0=b 0):XI n dp b' j:=λv c d=>by
 rw[f];rcases hW.cases c with e|⟨_,g,_,e⟩|⟨_,_,_,_,e⟩|⟨_,e,_⟩
 ·rw[e.2];exact h v c d
 ·rw[e];obtain⟨a,i⟩:=hT.up v c g.1;exact h _ a (by omega)
 ·rw[e];exact h v c d
 ·rw[e,f]
theorem Zz {j v:Nat} (h:XI n dp b j) (k:b' 0=b 0) (f:v<n) (r:dp v<=j+1):(b v≠b 0->Mk par s b v)∧(b' v≠b' 0->b v≠b 0∧¬m v):=by
 have g:b v≠b 0->Mk par s b v:=λd=>by
  have e:v≠0:=λe=>d (by rw[e]);obtain⟨a,o⟩:=hT.up v f e;exact⟨e,.inl λq=>d (by rw[<-q];exact h _ a (by omega))⟩
 refine⟨g,λd=> ?_⟩
 rw[k]at d;have l:Mk par s b v->b (par v)=b 0:=λi=>by
  obtain⟨a,o⟩:=hT.up v f i.1;exact h _ a (by omega)
 have c:b v≠b 0:=λq=>d (by
  rcases hW.cases f with e|⟨_,i,_,e⟩|⟨_,_,_,_,e⟩|⟨_,e,_⟩
  ·rw[e.2,q]
  ·rw[e,l i]
  ·rw[e,q]
  ·rw[e,k])
 exact⟨c,λp=>d (by rw[(hW.take v f p (g c)).2,l (g c)])⟩
theorem ZD {i:Nat} (f:XI n dp b E) (h:Wc n E dp s i) (g:s 0≠0):Wc n E dp s' i:=λv c j=>by
 have d:=h v c j;have e:v≠0:=λe=>g (by rw[<-e];exact d);obtain⟨a,_⟩:=hT.up v c e;rw[(hW.rest c e d (by rw[f v c (hT.le v c),f _ a (hT.le _ a)])).1,d]
theorem ZC {i v:Nat} (t:AG n par s b) (u:XI n dp b E) (h:Wc n E dp s i) (d:v<n) (y:E<dp v+(i+1)):(s v≠0->Um n par s b v)∧(s 0≠0->s' v≠0->s v≠0∧¬m v):=by
 have c:∀w,w<n->b w=b 0:=λw f=>u w f (hT.le w f);have o:s v≠0->Um n par s b v:=λj=>⟨j,λw f l e=>by
  obtain⟨_,p⟩:=hT.up w f l;rw[e]at p;exact⟨h w f (by omega),by rw[c w f,c v d]⟩⟩
 refine⟨o,λl j=> ?_⟩
 have g:s v≠0:=λq=>j (by
  have e:v≠0:=λe=>l (by rw[<-e];exact q);obtain⟨a,_⟩:=hT.up v d e;rw[(hW.rest d e q (by rw[c v d,c _ a])).1,q])
 refine⟨g,λx=>j ?_⟩
 by_cases k:Mk par s b v
 ·obtain⟨a,_⟩:=hT.up v d k.1;rcases k.2 with q|q
  ·exact absurd (by rw[c v d,c _ a]) q
  ·rcases t v d k.1 with r|r
   ·exact absurd q.2 r
   ·exact absurd r.1 q.1
 ·exact(hW.fin v d x k (o g)).1
theorem acf (I:AG n par s b) (h:CI n par s b) (G:b' 0=b 0):CI n par s' b':=λv j=>by
 rw[G]
 -- a child of a finished node stays as it is
 have y:∀w,w<n->w≠0->∀x,par w=x->b x=b 0->s w=0->b w=b 0->s' w=0∧b' w=b 0:=λw f d x e C D t=>by
  obtain⟨o,p⟩:=hW.rest f d D (by rw[e,t,C]);rw[o,p];exact⟨D,t⟩
 have k:∀w,w<n->w≠0->b (par w)≠b 0->b w≠b 0->b' w≠b 0:=λw f d C t=>by
  rcases hW.cases f with e|⟨_,_,_,e⟩|⟨_,_,_,_,e⟩|⟨_,e,_⟩
  ·rw[e.2];exact t
  ·rw[e];exact C
  ·rw[e];exact t
  ·exact absurd e d
 rcases hW.cases j with⟨l,i⟩|⟨_,u,l,i⟩|⟨_,_,F,l,i⟩|⟨_,e,J,l,i⟩
 ·refine⟨λc z w f d e=> ?_,λc=>⟨?_,λw f d e=> ?_⟩⟩
  ·rw[l]at z;rw[i]at c;obtain⟨o,p⟩:=(h v j).1 c z w f d e;exact y w f d v e c o p
  ·rw[l];rw[i]at c;exact((h v j).2 c).1
  ·rw[i]at c;exact k w f d (by rw[e];exact c) (((h v j).2 c).2 w f d e)
 ·obtain⟨H,_⟩:=hT.up v j u.1;have A:b (par v)≠b v:=u.2.resolve_right λq=>by
   rcases I v j u.1 with r|r
   ·exact r q.2
   ·exact q.1 r.1
  by_cases g:b (par v)=b 0
  ·have B:s (par v)≠0:=λq=>A (by rw[((h _ H).1 g q v j u.1 Z).2,g]);exact⟨λ_ z=>absurd (by rw[<-l];exact z) B,λc=>absurd (by rw[i];exact g) c⟩
  ·obtain⟨o,p⟩:=(h _ H).2 g;refine⟨λc=>absurd (by rw[<-i];exact c) g,λ_=>⟨by rw[l];exact o,λw f d e=> ?_⟩⟩
   have c:=p v j u.1 Z;exact k w f d (by rw[e];exact c) (((h v j).2 c).2 w f d e)
 ·have c:b v=b 0:=zAk.1 λq=>F.1 ((h v j).2 q).1;refine⟨λ_ _ w f d e=> ?_,λq=>absurd (by rw[i];exact c) q⟩
  obtain⟨o,p⟩:=F.2 w f d e;exact y w f d v e c o (by rw[p,c])
 ·exact absurd G i
 omit hW
theorem ace (h:CI n par s b) (o:Um n par s b 0):∀v,v<n->v≠0->s v=0∧b v=b 0:=by
 have d:∀k v,v<n->v≠0->dp v=k->s v=0∧b v=b 0:=by
  intro k
  induction k with
  |zero=>intro v c a j;have:=(hT.up v c a).2;omega
  | succ k ih =>
   intro v c a j;obtain⟨f,l⟩:=hT.up v c a;by_cases e:par v=0
   ·exact o.2 v c a e
   ·obtain⟨g,i⟩:=ih _ f e (by omega);exact(h _ f).1 i g v c a Z
 exact λv c a=>d _ v c a Z
 include hW
theorem Yz (h:Qt n s b) (k:s' 0≠0) (i:b' 0≠b 0):CI n par s' b'∧XI n dp b' 0∧AG n par s' b':=by
 have j:∀v,v<n->v≠0->s' v=0∧b' v=b 0:=λv c d=>by
  obtain⟨a,_⟩:=hT.up v c d;obtain⟨f,g⟩:=hW.rest c d (h v c).1 (by rw[(h v c).2,(h _ a).2]);rw[f,g];exact h v c
 refine⟨λv c=> ?_,λv c o=> ?_,BZ hT hW (h.ag hT)⟩
 ·by_cases e:v=0
  ·subst e;exact⟨λ_ q=>absurd q k,λq=>absurd Z q⟩
  ·obtain⟨f,g⟩:=j v c e;refine⟨λq=>absurd (by rw[<-q,g]) i,λ_=>⟨f,λw l d _ q=>i ?_⟩⟩
   rw[<-q,(j w l d).2]
 ·by_cases e:v=0
  ·rw[e]
  ·have:=(hT.up v c e).2;omega
theorem adc (h:Qt n s b) (f:s' 0=s 0) (d:b' 0=b 0):Qt n s' b':=λv c=>by
 by_cases e:v=0
 ·subst e;exact⟨by rw[f];exact(h 0 c).1,rfl⟩
 ·obtain⟨a,_⟩:=hT.up v c e;obtain⟨g,i⟩:=hW.rest c e (h v c).1 (by rw[(h v c).2,(h _ a).2]);rw[g,i,d];exact h v c
end
end Go.Proofs.YtlkhndebimcbbaaGreatDoor
namespace Go.Proofs.YtlkhndebimcbbaaGreatDoor
open Go Go.Sx
structure TP (g:GR) (d:aR) (par fp:Nat->Nat):Prop where
 at_:∀v,v<g.2.length->v≠0->fp v<(row g v).length∧qE g d v (fp v:Int)∧(fQ (row g v) (fp v)).1=(par v:Int)∧par v<g.2.length∧D d (par v)=D d v - 1
def Hi (g:GR) (d:aR) (c:bF):Prop:=∀v,v<g.2.length->Fy c v=D d v∧qE g d v (HJ c v)
def sC (c:bF) (v:Nat):Int:=pK c v 2
def bC (c:bF) (v:Nat):Int:=pK c v 3
section
variable {g:GR} {d:List Int} {c:List (List Int)} (hV:VG g) (hD:pR g 0 d) (h0:∀v,v<g.2.length->0<=D d v)
 include hV
theorem CV {v i u:Nat} (f:v<g.2.length) (a:i<(row g v).length) (b:(fQ (row g v) i).1=(u:Int)):AM (row g v) (u:Int)=(i:Int):=
 Jj i a b λk e=>by
  have:=((hV.node v f).links i a).2.2.2 k e;rwa[b]at this
 include hD h0
theorem aiH:∃x y:Nat->Nat,TP g d x y:=by
 have n:∀v,∃u f:Nat,v<g.2.length->v≠0->f<(row g v).length∧qE g d v (f:Int)∧(fQ (row g v) f).1=(u:Int)∧u<g.2.length∧D d u=D d v - 1:=λv=>by
  by_cases j:v<g.2.length∧v≠0
  ·obtain⟨j,l⟩:=j;have o:0<D d v:=by
    have:=h0 v j;have A:D d v≠0:=λe=>l ((hD.zero v j).1 e);omega
   obtain⟨G,C,⟨E,t,r⟩,s⟩:=hD.near v j o;obtain⟨m,F,h,w⟩:=HA (p:=λi=>i<(row g v).length∧at' d (fQ (row g v) i).1=D d v - 1) E ⟨t,by rw[r];exact s⟩;obtain⟨u,B,q,_⟩:=hV.port j h.1;refine⟨u,m,λ_ _=>⟨h.1,.inl ⟨m,h.1,rfl,h.2,λk z e=>w k z ⟨by omega,e⟩⟩,q,B,?_⟩⟩
   have:=h.2;rw[q]at this;exact this
  ·exact⟨0,0,λa b=>absurd ⟨a,b⟩ j⟩
 refine⟨λv=>(n v).choose,λv=>(n v).choose_spec.choose,⟨λv j l=>(n v).choose_spec.choose_spec j l⟩⟩
 omit hV hD h0 in
theorem Nx {k:Nat} (h:TrK g d k c) (b:∀v,v<g.2.length->D d v<(k:Int)):Hi g d c:=λv a=>h.near v a (b v a)
theorem Pj (h:Hi g d c) {v:Nat} (e:v<g.2.length):GI g c v:=by
 obtain⟨a,b⟩:=aiD hV hD h0 (λu f=>(h u f).1) e;exact⟨by rw[a];exact(h v e).1,(h v e).2.uniq b⟩
 omit h0 in
theorem WY (h0:∀v,v<g.2.length->0<=D d v) (h:∀v,v<g.2.length->0<=Fy c v) (i:∀v,v<g.2.length->GI g c v):Hi g d c:=by
  have f:=hV.n24;have a:∀k:Nat,TrK g d k c:=by
   intro k
   induction k with
   |zero=>exact IT h0 h
   |succ k e=>exact RH e λv b=>VJ hV hD h0 e b (i v b.1)
  exact Nx (a (g.2.length+1)) λv j=>by have:=hD.hi v j;omega
 omit h0 in
theorem Q_ (h0:∀v,v<g.2.length->0<=D d v) (h:Hi g d c):HJ c 0 = -1:=by
  have k:=hV.n1;rcases(h 0 (by omega)).2 with⟨i,e,_,a,_⟩|⟨a,_⟩
  ·obtain⟨u,f,b,_⟩:=hV.port (v:=0) (by omega) e;rw[b]at a;have j:D d u=D d 0 - 1:=a;have:=(hD.zero 0 (by omega)).2 Z;have:=h0 u f;omega
  ·exact a
variable {par fp:Nat->Nat} (hP:TP g d par fp)
 include hP
theorem aab {E:Nat} (h:∀v,v<g.2.length->D d v<=(E:Int)):RT g.2.length E par (λv=>(D d v).toNat):=by
 have i:=hV.n1;refine⟨by omega,?_,λv e f=> ?_,λv e=> ?_⟩
 ·rw[(hD.zero 0 (by omega)).2 Z];rfl
 ·obtain⟨_,_,_,a,b⟩:=hP.at_ v e f;have:=h0 _ a;exact⟨a,by rw[b];omega⟩
 ·have:=h v e;omega
 omit hV hD h0 in
theorem IK (h:Hi g d c) {v:Nat} (b:v<g.2.length) (a:v≠0):HJ c v=(fp v:Int):=(h v b).2.uniq (hP.at_ v b a).2.1
theorem Oz (h:Hi g d c) {v i u:Nat} (r:v<g.2.length) (t:i<(row g v).length) (n:(fQ (row g v) i).1=(u:Int)):Pp g c v i 1=Bw g v i↔u≠0∧par u=v:=by
 obtain⟨w,j,p,l⟩:=hV.port r t;obtain rfl:u=w:=by omega
 obtain⟨k,o,m⟩:=hV.back r l;have s:Bw g v i=(k:Int):=by
  unfold Bw;rw[n,zAd];exact CV hV j o m
 rw[AL n,s,show pK c u 1=HJ c u from rfl];constructor
 ·intro e;have f:u≠0:=λq=>by
   subst q;rw[Q_ hV hD h0 h]at e;omega
  rw[IK hP h j f]at e;have:fp u=k:=by omega
  subst this;have:=(hP.at_ u j f).2.2.1;exact⟨f,by omega⟩
 ·rintro⟨f,e⟩;rw[IK hP h j f];obtain⟨a,_,b,_⟩:=hP.at_ u j f;rw[e]at b;have x:=CV hV j a b;have y:=CV hV j o m;omega
 omit hV hD h0 in
theorem aap (h:Hi g d c) {v:Nat} (f:v<g.2.length):(v≠0∧∃i:Nat,i<(row g v).length∧(i:Int)=pK c v 1∧(Pp g c v i 3≠pK c v 3∨(pK c v 2≠0∧Pp g c v i 2=0)))↔Mk par (sC c) (bC c) v:=by
  constructor
  ·rintro⟨e,i,k,l,j⟩;have:pK c v 1=(fp v:Int):=IK hP h f e;obtain rfl:i=fp v:=by omega
   have b:=(hP.at_ v f e).2.2.1;rw[AL b,AL b]at j;exact⟨e,j⟩
  ·rintro⟨e,j⟩;obtain⟨a,_,b,_⟩:=hP.at_ v f e;refine⟨e,fp v,a,(IK hP h f e).symm,?_⟩
   rw[AL b,AL b];exact j
theorem acu (h:Hi g d c) {v:Nat} (o:v<g.2.length):(pK c v 2≠0∧∀i:Nat,i<(row g v).length->Pp g c v i 1≠Bw g v i∨(Pp g c v i 2=0∧Pp g c v i 3=pK c v 3))↔Um g.2.length par (sC c) (bC c) v:=by
 constructor
 ·rintro⟨n,p⟩;refine⟨n,λw r m e=> ?_⟩
  obtain⟨a,_,f,_⟩:=hP.at_ w r m;rw[e]at f;obtain⟨i,l,j⟩:=hV.back r ⟨fp w,a,f⟩;have s:=(Oz hV hD h0 hP h o l j).2 ⟨m,e⟩;have:=(p i l).resolve_left λq=>q s;rw[AL j,AL j]at this;exact this
 ·rintro⟨n,p⟩;refine⟨n,λi l=> ?_⟩
  obtain⟨u,t,k,_⟩:=hV.port o l;by_cases q:Pp g c v i 1=Bw g v i
  ·obtain⟨a,b⟩:=(Oz hV hD h0 hP h o l k).1 q;refine .inr ?_;rw[AL k,AL k];exact p u t a b
  ·exact .inl q
 omit hV hD h0 in
theorem Rt (h:Hi g d c) {v:Nat} (q:v<g.2.length) (l:v≠0) (p:sW) (x:Nat) (s:pK c (par v) x=0∨pK c (par v) x=1):gK (aU p g) c v (.ag 21 (.bi 41 Qz (.lf 12 x)))=pK c (par v) x:=by
  obtain⟨a,_,f,_⟩:=hP.at_ v q l;have r:pK c v 1=(fp v:Int):=IK hP h q l;have j:∀b:Bool,(b=true↔pK c (par v) x≠0)->Bv b=pK c (par v) x:=λb j=>by
   rcases s with e|e
   ·rw[e]at j ⊢;have:b=false:=by cases b with|true=>exact absurd Z (j.1 Z)|false=>rfl
    rw[this];rfl
   ·rw[e]at j ⊢;rw[j.2 (by decide)];rfl
  have m:gK (aU p g) c v (.ag 21 (.bi 41 Qz (.lf 12 x)))≠0↔pK c (par v) x≠0:=by
   unfold gK;rw[Qq];constructor
   ·rintro⟨i,t,k⟩;unfold Qz at k;rw[Dp,KM]at k;have e:(i:Int)=pK c v 1:=k.1;obtain rfl:i=fp v:=by omega
    have o:Pp g c v (fp v) x≠0:=k.2;rw[AL f]at o;exact o
   ·intro k;refine⟨fp v,a,?_⟩
    unfold Qz;rw[Dp,KM];refine⟨r.symm,?_⟩
    show Pp g c v (fp v) x≠0;rw[AL f];exact k
  have n:∃b:Bool,gK (aU p g) c v (.ag 21 (.bi 41 Qz (.lf 12 x)))=Bv b:=⟨_,rfl⟩
  obtain⟨b,e⟩:=n;rw[e];rw[e,vC]at m;exact j b m
end
def RW:List RL:=[(aih,[(2,.lf 2 0),(3,.un 19 (.lf 5 3)),(4,.lf 1 0),(5,.lf 3 0)]),
 (Zi,[(2,.ag 21 (.bi 41 Qz (.lf 12 2))),(3,.ag 21 (.bi 41 Qz (.lf 12 3))),(4,.lf 1 0),(5,.lf 3 0)]),(Zk,[(2,.lf 3 0)]),(aii,[(5,.lf 2 0)])]
theorem alv {l:aR} (h:l.length=6):l=[at' l 0,at' l 1,at' l 2,at' l 3,at' l 4,at' l 5]:=by
 match l,h with
 | [a,b,c,d,e,f],_=>rfl
theorem EE {k a b x:Int} (h:a<=x∧x<=b):nH k (a,b) x=x:=CG h.1 h.2
def afF:E:= .bi 41 (.lf 10 0) (.un 19 (.lf 5 2))
def exS:E:= .ag 26 (.ite (.bi 35 (.lf 12 1) (.lf 17 0)) (.lf 12 5) (.lf 1 0))
def exA:E:= .bi 33 (.lf 5 4) exS
def Me:List D_:=[(ByteArray.mk #[115],2,0,0,0,0),(ByteArray.mk #[98],2,0,0,0,0),(ByteArray.mk #[120],1,0,15,0,0),(ByteArray.mk #[97],1,0,0,15,0)]
def f_:List D_:=tZ++Me
def RX:List RL:=[(afF,[(2,.lf 2 0),(3,.un 19 (.lf 5 3))]),(Zi,[(2,.ag 21 (.bi 41 Qz (.lf 12 2))),(3,.ag 21 (.bi 41 Qz (.lf 12 3)))]),(Zk,[(2,.lf 3 0),(5,exA)])]
def RN:List RL:=RB++RX
theorem adj:yO 6 RN=true:=by decide +kernel
theorem ahy:∀r∈RX,∀s∈r.2,2<=s.1:=by decide
section
variable {p:sW} {g:GR} {c:List (List Int)} {v t:Nat}
theorem TS (a:DY g c f_) (b:v<g.2.length):(pK c v 2=0∨pK c v 2=1)∧(pK c v 3=0∨pK c v 3=1)∧(0<=pK c v 4∧pK c v 4<=15)∧(0<=pK c v 5∧pK c v 5<=15*(g.2.length:Int)):=by
 have i:=a.ok v b 2 (by decide);have j:=a.ok v b 3 (by decide);have k:=a.ok v b 4 (by decide);have l:=a.ok v b 5 (by decide);have m:0<=pK c v 2∧pK c v 2<=1:=i;have n:0<=pK c v 3∧pK c v 3<=1:=j;have d:0<=pK c v 4∧pK c v 4<=hi g (at' f_ ((4:Nat):Int)) v:=k;have f:hi g (at' f_ ((4:Nat):Int)) v=15:=by
  show(15:Int)+0*(g.2.length:Int)+0*iO g g.1.length=15;omega
 rw[f]at d;have e:0<=pK c v 5∧pK c v 5<=hi g (at' f_ ((5:Nat):Int)) v:=l;have h:hi g (at' f_ ((5:Nat):Int)) v=15*(g.2.length:Int):=by
  show(0:Int)+15*(g.2.length:Int)+0*iO g g.1.length=_;omega
 rw[h]at e;omega
theorem ahU (g:GR) (v:Nat):qL g f_ v 2=(0,1)∧qL g f_ v 3=(0,1)∧qL g f_ v 5=(0,15*(g.2.length:Int)):=by
 refine⟨rfl,rfl,?_⟩
 show((0:Int),(0:Int)+15*(g.2.length:Int)+0*iO g g.1.length)=_;congr 1;omega
theorem aiv (n:DY g c f_) (o:v<g.2.length):
  mS (aU p g) f_ RX c v 0=[pK c v 0,pK c v 1,1,Bv (decide (pK c v 3=0)),pK c v 4,pK c v 5]∧
  (∀s b,gK (aU p g) c v (.ag 21 (.bi 41 Qz (.lf 12 2)))=s->gK (aU p g) c v (.ag 21 (.bi 41 Qz (.lf 12 3)))=b->0<=s∧s<=1->0<=b∧b<=1->mS (aU p g) f_ RX c v 1=[pK c v 0,pK c v 1,s,b,pK c v 4,pK c v 5])∧
  mS (aU p g) f_ RX c v 2=[pK c v 0,pK c v 1,0,pK c v 3,pK c v 4,nH 1 (0,15*(g.2.length:Int)) (gK (aU p g) c v exA)]:=by
 have a:(at' c (v:Int)).length=6:=n.row v o;have e:=alv a;obtain⟨d,f,h⟩:=ahU g v;have q:mS (aU p g) f_ RX c v 0=((at' c (v:Int)).set 2 (nH 2 (qL g f_ v 2) 1)).set 3 (nH 2 (qL g f_ v 3) (Bv (decide (pK c v 3=0)))):=rfl;have r:mS (aU p g) f_ RX c v 1=((at' c (v:Int)).set 2 (nH 2 (qL g f_ v 2) (gK (aU p g) c v (.ag 21 (.bi 41 Qz (.lf 12 2)))))).set 3 (nH 2 (qL g f_ v 3) (gK (aU p g) c v (.ag 21 (.bi 41 Qz (.lf 12 3))))):=rfl;have u:mS (aU p g) f_ RX c v 2=((at' c (v:Int)).set 2 (nH 2 (qL g f_ v 2) 0)).set 5 (nH 1 (qL g f_ v 5) (gK (aU p g) c v exA)):=rfl;have m:∀b:Bool,0<=Bv b∧Bv b<=1:=λb=>by cases b<;>decide
 refine⟨?_,λs b i j k l=> ?_,?_⟩
 ·rw[q,d,f,EE (by omega),EE (m _),e];rfl
 ·rw[r,d,f,i,j,EE k,EE l,e];rfl
 ·rw[u,d,h,EE (by omega)];generalize nH 1 (0,15*(g.2.length:Int)) (gK (aU p g) c v exA)=z;rw[e];rfl
theorem Zh:gK (aU p g) c v afF≠0↔v=0∧pK c v 2=0:=by
 unfold gK afF;rw[Dp,JM,agi];exact Iff.rfl
variable {d:List Int} (hV:VG g) (hD:pR g 0 d) (h0:∀v,v<g.2.length->0<=D d v) {par fp:Nat->Nat} (hP:TP g d par fp)
 include hV hD h0 hP
theorem enN (w:Hi g d c) (m:v<g.2.length):(0<=eI (aU p g) RX c v↔(v=0∧pK c v 2=0)∨Mk par (sC c) (bC c) v∨Um g.2.length par (sC c) (bC c) v)∧
  ((v=0∧pK c v 2=0)->eI (aU p g) RX c v=0)∧(Mk par (sC c) (bC c) v->eI (aU p g) RX c v=1)∧(¬Mk par (sC c) (bC c) v->Um g.2.length par (sC c) (bC c) v->eI (aU p g) RX c v=2):=by
 have b:=Zh (p:=p) (g:=g) (c:=c) (v:=v);have f:=(Zj (p:=p) (g:=g) (c:=c) (v:=v)).trans (aap hP w m);have u:=(Zl (p:=p) (g:=g) (c:=c) m).trans (acu hV hD h0 hP w m);have n:∀{e:E},¬gK (aU p g) c v e≠0->gK (aU p g) c v e=0:=λh=>zAk.1 h;have o:(v=0∧pK c v 2=0)->eI (aU p g) RX c v=0:=λh=>EQ (i:=0) (by decide) (b.2 h) λj l=>by omega
 have r:Mk par (sC c) (bC c) v->eI (aU p g) RX c v=1:=λh=>EQ (i:=1) (by decide) (f.2 h) λj l=>by
  obtain rfl:j=0:=by omega
  exact n λq=>h.1 (b.1 q).1
 have s:¬Mk par (sC c) (bC c) v->Um g.2.length par (sC c) (bC c) v->eI (aU p g) RX c v=2:=λa h=>EQ (i:=2) (by decide) (u.2 h) λj l=>by
  match j,l with
  |0,_=>exact n λq=>h.1 (b.1 q).2
  |1,_=>exact n λq=>a (f.1 q)
 refine⟨⟨λh=> ?_,λh=> ?_⟩,o,r,s⟩
 ·obtain⟨i,x,k,a⟩:=(ER (aU p g) RX c v).resolve_left (λe=>by omega);have k:i<3:=k
  match i,k with
  |0,_=>exact .inl (b.1 a)
  |1,_=>exact .inr (.inl (f.1 a))
  |2,_=>exact .inr (.inr (u.1 a))
 ·by_cases a:Mk par (sC c) (bC c) v
  ·rw[r a];decide
  ·rcases h with h|h|h
   ·rw[o h];decide
   ·exact absurd h a
   ·rw[s a h];decide
end
theorem VE:∀(l:List Int) (a b:Int),0<=a->b<=1000000->(∀x∈l,0<=x)->a+l.sum<=b->l.foldl (λa x=>wI .i64 (a+x)) a=a+l.sum
 | [],a,b,_,_,_,_=>by simp
 | x :: l, a, b, ha, hb, c, hs => by
  have f:=c x zA7;have e:0<=l.sum:=by
   have:∀l:List Int,(∀x∈l,0<=x)->0<=l.sum:=λl=>by
    induction l with
    |nil=>intro _;simp
    |cons y l g=>intro h;have:=g λx c=>h x (zAe _ c);have:=h y zA7;rw[List.sum_cons];omega
   exact this l λy d=>c y (zAe _ d)
  rw[List.sum_cons]at hs ⊢;rw[List.foldl_cons,wr (by omega) (by omega),VE l (a+x) b (by omega) hb (λy d=>c y (zAe _ d)) (by omega)];omega
def Ju (g:GR) (a:Nat->Nat) (f:Nat->Int) (v:Nat):Int:=((List.range (row g v).length).map λi=>if(fQ (row g v) i).1.toNat≠0∧a (fQ (row g v) i).1.toNat=v then f (fQ (row g v) i).1.toNat else 0).sum
section
variable {p:sW} {g:GR} {c:List (List Int)} {v:Nat} {d:List Int} (hV:VG g) (hD:pR g 0 d) (h0:∀v,v<g.2.length->0<=D d v) {par fp:Nat->Nat} (hP:TP g d par fp)
 include hV hD h0 hP
theorem afD (m:DY g c f_) (w:Hi g d c) (j:v<g.2.length) (z:pK c v 4+Ju g par (λu=>pK c u 5) v<=15*(g.2.length:Int)):nH 1 (0,15*(g.2.length:Int)) (gK (aU p g) c v exA)=pK c v 4+Ju g par (λu=>pK c u 5) v:=by
 have t:=hV.n24;let L:List Int:=(List.range (row g v).length).map λi=>if(fQ (row g v) i).1.toNat≠0∧par (fQ (row g v) i).1.toNat=v then pK c (fQ (row g v) i).1.toNat 5 else 0;have k:L.sum=Ju g par (λu=>pK c u 5) v:=rfl;have e:∀x∈L,0<=x:=λx e=>by
  obtain⟨i,b,rfl⟩:=zAw.1 e;obtain⟨u,s,a,_⟩:=hV.port j (zAg.1 b);rw[a,zAd];split
  ·exact(TS m s).2.2.2.1
  ·omega
 have G:=(TS m j).2.2.1;have C:gK (aU p g) c v exS=max (-1073741824) (min (Ru L) 1073741824):=by
  show max (-1073741824) (min (Ru ((List.range (row g v).length).map λi=>(E.ite (.bi 35 (.lf 12 1) (.lf 17 0)) (.lf 12 5) (.lf 1 0)).den (Vg (aU p g,c,(v:Int),[])) (row g v).length ((i:Nat):Int))) 1073741824)=_;congr 3;refine List.map_congr_left λi b=> ?_;have b:=zAg.1 b;obtain⟨u,s,a,_⟩:=hV.port j b;show(if(E.bi 35 (.lf 12 1) (.lf 17 0)).den (Vg (aU p g,c,(v:Int),[])) (row g v).length ((i:Nat):Int)≠0 then Pp g c v i 5 else 0)=_;have o:=Oz hV hD h0 hP w j b a;have n:(E.bi 35 (.lf 12 1) (.lf 17 0)).den (Vg (aU p g,c,(v:Int),[])) (row g v).length ((i:Nat):Int)≠0↔Pp g c v i 1=Bw g v i:=by
   rw[KM,SR j b];exact Iff.rfl
  rw[a,zAd];by_cases q:u≠0∧par u=v
  ·rw[if_pos q,if_pos (n.2 (o.2 q)),AL a]
  ·rw[if_neg q,if_neg λr=>q (o.1 (n.1 r))]
 have B:0<=L.sum:=by
  have:∀l:List Int,(∀x∈l,0<=x)->0<=l.sum:=λl=>by
   induction l with
   |nil=>intro _;simp
   |cons y l F=>intro h;have:=F λx e=>h x (zAe _ e);have:=h y zA7;rw[List.sum_cons];omega
  exact this L e
 have f:Ru L=L.sum:=by
  unfold Ru;rw[VE L 0 1000000 (by omega) (by omega) e (by rw[k]at *;omega)];omega
 have A:gK (aU p g) c v exA=pK c v 4+L.sum:=by
  show VA (wI .i64 (pK c v 4+gK (aU p g) c v exS))=_;rw[C,f,wr (by omega) (by omega)];unfold VA;omega
 rw[A,k];exact CG (by rw[<-k];omega) z
end
structure Stg {I C:Type} (idx:I->Nat) (last:Nat) (Ph:I->C->Prop) (T:I->C->Nat->Prop) (en:C->Nat) (St:C->Nat->C->Prop):Prop where
 le:∀i c,Ph i c->idx i<=last
 adv:∀i c,Ph i c->idx i<last->(∀v,¬T i c v)->∃i',idx i<idx i'∧Ph i' c
 en:∀i c v,Ph i c->T i c v->(en c).testBit v=true
 step:∀i c t c',Ph i c->St c t c'->∃i',Ph i' c'∧(idx i<idx i'∨(i'=i∧∀v,T i c' v->T i c v∧t.testBit v=false))
def Br {I C:Type} (a:I->Nat) (b:Nat) (d:I->C->Prop) (T:I->C->Nat->Prop) (R e:Nat) (c:C):Prop:=∃i,d i c∧(a i=b∨R<a i∨(R=a i∧∀v,T i c v->e.testBit v=true))
section
variable {I C:Type} {idx:I->Nat} {last:Nat} {Ph:I->C->Prop} {T:I->C->Nat->Prop} {en:C->Nat} {St:C->Nat->C->Prop} {c c':C} {R pe pe' t:Nat}
theorem Br.start (h:Stg idx last Ph T en St) {i:I} (a:Ph i c):Br idx last Ph T 0 (en c) c:=by
 refine⟨i,a,?_⟩
 rcases Nat.eq_zero_or_pos (idx i)with e|e
 ·exact .inr (.inr ⟨e.symm,λv b=>h.en i c v a b⟩)
 ·exact .inr (.inl e)
theorem Br.next (h:Stg idx last Ph T en St) (n:Br idx last Ph T R pe c) (q:St c t c') (g:∀v,pe'.testBit v=(pe.testBit v && !t.testBit v&&(en c').testBit v)):Br idx last Ph T R pe' c':=by
 obtain⟨i,l,j⟩:=n;obtain⟨r,d,f⟩:=h.step i c t c' l q;refine⟨r,d,?_⟩
 have p:=h.le _ _ d;have k:=h.le _ _ l;rcases f with f|⟨rfl,f⟩
 ·rcases j with e|e|⟨e,_⟩
  ·omega
  ·exact .inr (.inl (by omega))
  ·exact .inr (.inl (by omega))
 ·rcases j with e|e|⟨e,o⟩
  ·exact .inl e
  ·exact .inr (.inl e)
  ·refine .inr (.inr ⟨e,λv m=> ?_⟩);obtain⟨a,b⟩:=f v m;rw[g,o v a,b,h.en _ _ v d m];rfl
theorem Br.round (h:Stg idx last Ph T en St) (g:Br idx last Ph T R 0 c):Br idx last Ph T (R+1) (en c) c:=by
 obtain⟨i,a,k⟩:=g;rcases k with e|e|⟨e,j⟩
 ·exact⟨i,a,.inl e⟩
 ·refine⟨i,a,?_⟩
  by_cases q:R+1=idx i
  ·exact .inr (.inr ⟨q,λv b=>h.en i c v a b⟩)
  ·exact .inr (.inl (by omega))
 ·by_cases q:idx i=last
  ·exact⟨i,a,.inl q⟩
  ·have l:=h.le _ _ a;obtain⟨d,m,f⟩:=h.adv i c a (by omega) λv b=>by have:=j v b;rw[Nat.zero_testBit]at this;cases this
   refine⟨d,f,?_⟩
   by_cases q:R+1=idx d
   ·exact .inr (.inr ⟨q,λv b=>h.en d c v f b⟩)
   ·exact .inr (.inl (by omega))
theorem Br.done (h:Stg idx last Ph T en St) (b:Br idx last Ph T R pe c) (d:last<=R):∃i,Ph i c∧idx i=last:=by
 obtain⟨i,a,e⟩:=b;have:=h.le _ _ a;exact⟨i,a,by omega⟩
theorem Ku (h:Stg idx last Ph T en St) (s:Br idx last Ph T R pe c) (w:St c t c') {k:Nat} {f b:CT} {B:Nat} (u:DX k f R B pe) (v:k<900) (x:t<16777216) (r:t≠0) (n:en c'<16777216) {m:Int} (g:gO 1000 f (t:Int) (en c':Int)=some (b,m)):
  ∃l q pe',DX (k+1) b l q pe'∧Br idx last Ph T l pe' c'∧(t=pe->l=R+1∧pe'=en c'):=by
 obtain⟨pe',j,d⟩:=u.add v x r n g;have p:=Br.next h s w j;rcases d with⟨o,a⟩|⟨o,a⟩
 ·subst o;exact⟨R+1,R+1,_,a,Br.round h p,λ_=>⟨rfl,rfl⟩⟩
 ·refine⟨R,R+1,pe',a,p,λe=>absurd (Nat.eq_of_testBit_eq λi=> ?_) o⟩
  rw[j,<-e,Nat.zero_testBit];cases t.testBit i<;>rfl
end
end Go.Proofs.YtlkhndebimcbbaaGreatDoor
namespace Go.Proofs.YtlkhndebimcbbaaGreatDoor
open Go.Sx
def rR  (a:Bool):Option Bool:=
 some (a)
def yG (U:Nat) (a:Int):Option Bool:=
 if(1:Int)<=a then(rR  (decide (a<=(4:Int))))else(rR  (false))
theorem aeX:aW Tryz.prog 75:=Tryz.call75
theorem LP (U:Nat) {b:Int} (r:Bool) (h:yG U b=some r):
  aY Tryz.prog 75 #[vI (b)] [] (λx:Unit=>vB (r)) (λx l=>l) (λ_ l=>l):=by
 refine aY.of Tryz.func75 Z Tryz.ntmps75 Z λc=>?_;refine aX<|aD Z<|aN<|aK<|dW (λa=>rR  a=some r) (λa d=>[(2,vB (a))]) (λa d=>[]) ?_ ?_
 ·refine aQ<|aA Z<|aB (Bu Z Z) Z<|aA Z ?_;refine Eo h Z (λ_ h=>?_) λ_ h=>?_
  ·refine cP Z<|aP Z (CE Z Z) Z<|dO Z<|aD Z<|aN ?_;exact gJ (decide (b<=(4:Int))) () h SF Z
  refine aI Z<|aI Z<|fH Z<|aD Z<|aN ?_;exact gJ (false) () h SF Z
 intro a d h;unfold rR at h;refine aV ?_;cases h;exact lA Z
def Aq (U:Nat) (a:yU) (b:cD) (d:Int) (e:bF) (f:Int):Option (Int):=
 Option.bind (nS U ((a.1,a.2.1,a.2.2)) ((b.1,b.2)) e) λc=>(if c≠(0:Int)then(some (c))else(Option.bind (yG U d) λg=>(if(!g)=true then(some (12:Int))else(if(4096:Int)<f then(some (3:Int))else(some (0:Int))))))
theorem aeN:aW Tryz.prog 46:=Tryz.call46
theorem RF (U:Nat) {a:yU} {g:cD} {j:Int} {k:bF} {m:Int} (b:Value)  (d:Value)  (e:Value)  (f:Value)  (n:kA)  (i:Value)  (o:q_) (r:Int) (h:Aq U a g j k m=some r):
  aY Tryz.prog 46 #[Value.agg #[vS (a.1),b,d],Value.agg #[e,f],vI (j),i,vI (m)] [Sl aS b a.2.1,Sl aL d a.2.2,PF (Value.agg #[vS a.1,b,d]),Sl bN e g.1,S2 bA f n g.2,S2 bN i o k] (λx:Unit=>vI (r)) (λx l=>l) (λ_ l=>l):=by
 refine aY.of Tryz.func46 Z Tryz.ntmps46 Z λc=>?_;refine aX<|aH (aO.box (cs:=[vS (a.1),b,d]) Z Z) Z λu=>aH (aO.box (cs:=[e,f]) Z Z) Z λv=>aD Z<|aN<|aK<|aX<|dN 1 Z<|dN 0 Z<|aA Z<|eZ h λp s h=>aH (zBa Yp (Fc U b d e f n i o p s) Z (mT [0,1,2,3,4,5] Z)) Z λw=>aD Z<|aN<|aX<|aA Z<|rB Z<|aN ?_;refine fD h Z (λh=>?_) λh=>?_
 ·refine aX<|aA Z<|aD Z<|aN<|aV<|aJ ?_;cases h;exact rX Z
 refine cL<|aK<|aX<|aA Z<|eZ h λq t h=>aH (zBa aeX (LP U  q t) Z .nil) Z λy=>aB (lU Z) Z<|aN ?_;refine Am h Z (λ_ h=>?_) λ_ h=>?_
 ·refine aX<|aD Z<|aN<|aV<|aJ ?_;cases h;exact rX Z
 refine cL<|aK<|aX<|aA Z<|aB (xQ Z Z) Z<|aN ?_;refine fD h Z (λh=>?_) λh=>?_
 ·refine aX<|aD Z<|aN<|aV<|aJ ?_;cases h;exact rX Z
 refine cL<|aX<|aD Z<|aN<|aV ?_;cases h;exact rX Z
def wD (U:Nat) (a:Int):Option ((Int×Int×Int×Int×Int)):=
 some (((0:Int),(0:Int),(0:Int),(0:Int),(eK .u32 a (16777215:Int))))
theorem aby:aW Tryz.prog 109:=Tryz.call109
theorem Jw (U:Nat) {a:Int} (r:(Int×Int×Int×Int×Int)) (h:wD U a=some r):
  aY Tryz.prog 109 #[vU (a)] [] (λx:Unit=>Value.agg #[vI (r.1),vI (r.2.1),vI (r.2.2.1),vI (r.2.2.2.1),vU (r.2.2.2.2)]) (λx l=>l) (λ_ l=>l):=by
 refine aY.of Tryz.func109 Z Tryz.ntmps109 Z λc=>?_;unfold wD at h;refine aX<|aH (aO.alloc (cs:=vD2) Z Z) Z λb=>aN<|aX<|aA Z<|AT Z ?_;refine aB (XV (r:=Value.agg #[vI (0:Int),vI (0:Int),vI (0:Int),vI (0:Int),vU (eK .u32 a (16777215:Int))]) Z (by intro w;simp[Instr.build,Instr.fill,dR,cW,cO,dU,dV,cX,eY])) Z ?_;refine bQ 0 (vs:=[vI (0:Int),vI (0:Int),vI (0:Int),vI (0:Int),vU (eK .u32 a (16777215:Int))]) Z Z Z Z Z Z<|aN<|aV ?_;cases h;exact fP () Z Z (RV.cell 0 Z Z Z Z) .nil aG.nil
end Go.Proofs.YtlkhndebimcbbaaGreatDoor
namespace Go.Proofs.YtlkhndebimcbbaaGreatDoor
open Go Go.Sx
def fI (g:GR):Nat:=2^g.2.length - 1
theorem abq {g:GR} (b:VG g):fI g<4294967296:=by
 have a:=b.n24;have:(2:Nat)^g.2.length<=2^24:=Nat.pow_le_pow_right (by omega) a;unfold fI;omega
def aC (c:bF) (v:Nat):Int:=pK c v 5
def xC (c:bF) (v:Nat):Int:=pK c v 4
structure Ey (g:GR) (par:Nat->Nat) (x S:Nat->Int):Prop where
 eq:∀v,v<g.2.length->S v=x v+Ju g par S v
 bd:∀v,v<g.2.length->S v<=15*(g.2.length:Int)
def MvN (n:Nat) (a:Nat->Nat) (S:Nat->Int) (c b:bF) (v:Nat):Prop:=
 (v=0∧sC c 0=0∧sC b v≠0∧bC b v≠bC c v∧aC b v=aC c v)∨
 (Mk a (sC c) (bC c) v∧sC b v=sC c (a v)∧bC b v=bC c (a v)∧aC b v=aC c v)∨
 (¬Mk a (sC c) (bC c) v∧Um n a (sC c) (bC c) v∧sC b v=0∧bC b v=bC c v∧((∀w,w<n->w≠0->a w=v->aC c w=S w)->aC b v=S v))
structure StN (n:Nat) (par:Nat->Nat) (S:Nat->Int) (c:bF) (t:Nat) (c':bF):Prop where
 stay:∀v,v<n->t.testBit v=false->sC c' v=sC c v∧bC c' v=bC c v∧aC c' v=aC c v
 move:∀v,v<n->t.testBit v=true->MvN n par S c c' v
def CN (n:Nat) (a:Nat->Nat) (S:Nat->Int) (c:bF):Prop:=CI n a (sC c) (bC c)∧∀v,v<n->bC c v=bC c 0->sC c v=0->aC c v=S v
section
variable {n E:Nat} {par dp:Nat->Nat} {S:Nat->Int} {c c':List (List Int)} {t:Nat}
theorem StN.ws (h:StN n par S c t c'):WS n par (λv=>t.testBit v=true) (sC c) (bC c) (sC c') (bC c'):=by
 refine⟨λv f d=> ?_,λv f d g=> ?_,λv f d g i=> ?_,λv f d g i=> ?_⟩
 ·obtain⟨a,b,_⟩:=h.stay v f (by simpa using d);exact⟨a,b⟩
 ·rcases h.move v f d with q|q|q
  ·exact absurd q.1 g.1
  ·exact⟨q.2.1,q.2.2.1⟩
  ·exact absurd g q.1
 ·rcases h.move v f d with q|q|q
  ·have:=q.2.1;rw[<-q.1]at this;exact absurd this i.1
  ·exact absurd q.1 g
  ·exact⟨q.2.2.1,q.2.2.2.1⟩
 ·rcases h.move v f d with q|q|q
  ·obtain⟨rfl,a,b,e,_⟩:=q;exact .inr ⟨rfl,a,b,e⟩
  ·exact absurd q.1 g
  ·exact absurd q.2.1 i
theorem StN.right (h:StN n par S c t c') (b:∀v,v<n->aC c v=S v):∀v,v<n->aC c' v=S v:=λv a=>by
 cases d:t.testBit v with
 |false=>rw[(h.stay v a d).2.2];exact b v a
 |true=>
  rcases h.move v a d with q|q|q
  ·rw[q.2.2.2.2];exact b v a
  ·rw[q.2.2.2];exact b v a
  ·exact q.2.2.2.2 λw e _ _=>b w e
variable (hT:RT n E par dp) (h:StN n par S c t c')
 include hT h
theorem UO (x:AG n par (sC c) (bC c)) (z:sC c 0≠0) (i:CN n par S c) (p:bC c' 0=bC c 0):CN n par S c':=by
 have y:=h.ws;refine⟨acf hT y x i.1 p,λv g f d=> ?_⟩
 rw[p]at f;cases s:t.testBit v with
 |false=>
  obtain⟨a,b,e⟩:=h.stay v g s;rw[a]at d;rw[b]at f;rw[e];exact i.2 v g f d
 | true =>
  rcases h.move v g s with q|q|q
  ·exact absurd q.2.1 z
  ·obtain⟨k,l,B,_⟩:=q;rw[l]at d;rw[B]at f;obtain⟨A,_⟩:=hT.up v g k.1;obtain⟨m,o⟩:=(i.1 _ A).1 f d v g k.1 Z;rcases k.2 with r|r
   ·exact absurd (by rw[f,o]) r
   ·exact absurd m r.1
  ·obtain⟨_,l,_,C,D⟩:=q;rw[C]at f;refine D λw u j e=> ?_;obtain⟨m,o⟩:=l.2 w u j e;exact i.2 w u (by rw[o,f]) m
theorem UN (i:CN n par S c) (j:Um n par (sC c) (bC c) 0) (l:t.testBit 0=true):∀v,v<n->aC c' v=S v:=by
 have d:=ace hT i.1 j;have b:∀v,v<n->v≠0->aC c v=S v:=λv a g=>i.2 v a (d v a g).2 (d v a g).1;intro v a;by_cases e:v=0
 ·subst e;rcases h.move 0 a l with q|q|q
  ·exact absurd q.2.1 j.1
  ·exact absurd Z q.1.1
  ·exact q.2.2.2.2 λw m f _=>b w m f
 ·cases k:t.testBit v with
  |false=>rw[(h.stay v a k).2.2];exact b v a e
  |true=>
   rcases h.move v a k with q|q|q
   ·exact absurd q.1 e
   ·rw[q.2.2.2];exact b v a e
   ·exact absurd (d v a e).1 q.2.1.1
theorem adb (d:Qt n (sC c) (bC c)):(sC c' 0≠0∧bC c' 0≠bC c 0∧CN n par S c'∧XI n dp (bC c') 0∧AG n par (sC c') (bC c'))∨(Qt n (sC c') (bC c')∧t.testBit 0=false):=by
 have i:=h.ws;have j:=hT.n1;cases o:t.testBit 0 with
 |false=>
  right;obtain⟨a,b,_⟩:=h.stay 0 j o;exact⟨adc hT i d a b,rfl⟩
 | true =>
  left;rcases h.move 0 j o with q|q|q
  ·obtain⟨_,_,k,l,_⟩:=q;obtain⟨a,b,e⟩:=Yz hT i d k l;refine⟨k,l,⟨a,λv f m p=> ?_⟩,b,e⟩
   by_cases g:v=0
   ·subst g;exact absurd p k
   ·obtain⟨a,_⟩:=hT.up v f g;have:=(i.rest f g (d v f).1 (by rw[(d v f).2,(d _ a).2])).2;rw[this,(d v f).2]at m;exact absurd m.symm l
  ·exact absurd Z q.1.1
  ·exact absurd (d 0 j).1 q.2.1.1
end
theorem agn {p:sW} {g:GR} {d:List Int} {c:List (List Int)} {a P:Nat->Nat} {S:Nat->Int} {t:Nat} (r:VG g) (z:pR g 0 d) (y:∀v,v<g.2.length->0<=D d v) (j:TP g d a P) (m:DY g c f_) (l:Hi g d c) (G:Ey g a (xC c) S)
  (A:∀v,t.testBit v=true->v<g.2.length∧0<=eI (aU p g) RN c v):StN g.2.length a S c t (iP (aU p g) f_ RN c t):=by
 have n:=m.len;refine⟨λv b s=> ?_,λv b s=> ?_⟩
 ·have e:at' (iP (aU p g) f_ RN c t) (v:Int)=at' c (v:Int):=by rw[Au (by rw[n];exact b),if_neg (by rw[s];decide)]
  unfold sC bC aC pK;rw[e];exact⟨rfl,rfl,rfl⟩
 ·obtain⟨_,T⟩:=A v s;obtain⟨B,N⟩:=QN (p:=p) (W:=Me) (R':=RX) (Pj r z y l b) T;have e:at' (iP (aU p g) f_ RN c t) (v:Int)=mS (aU p g) f_ RX c v (eI (aU p g) RX c v):=by
   rw[Au (by rw[n];exact b),if_pos s];exact N
  obtain⟨O,K,L,M⟩:=enN (p:=p) r z y j l b;obtain⟨V,X,Y⟩:=aiv (p:=p) m b;have o:sC (iP (aU p g) f_ RN c t) v=at' (mS (aU p g) f_ RX c v (eI (aU p g) RX c v)) 2∧bC (iP (aU p g) f_ RN c t) v=at' (mS (aU p g) f_ RX c v (eI (aU p g) RX c v)) 3∧aC (iP (aU p g) f_ RN c t) v=at' (mS (aU p g) f_ RX c v (eI (aU p g) RX c v)) 5:=by
   unfold sC bC aC pK;rw[e];exact⟨rfl,rfl,rfl⟩
  unfold MvN;rw[o.1,o.2.1,o.2.2];by_cases w:v=0∧pK c v 2=0
  ·left;rw[K w,V];obtain⟨rfl,q2⟩:=w;refine⟨rfl,q2,show(1:Int)≠0 by decide,?_,rfl⟩
   show Bv (decide (pK c 0 3=0))≠pK c 0 3;rcases(TS m b).2.1 with q|q<;>rw[q]<;>decide
  ·right;by_cases f:Mk a (sC c) (bC c) v
   ·left;obtain⟨C,_⟩:=(j.at_ v b f.1).2.2.2;obtain⟨I,J,_⟩:=TS m C;have k:∀x:Nat,pK c (a v) (x:Int)=0∨pK c (a v) (x:Int)=1->0<=pK c (a v) (x:Int)∧pK c (a v) (x:Int)<=1:=λx h=>by omega
    rw[L f,X _ _ (Rt j l b f.1 p 2 I) (Rt j l b f.1 p 3 J) (k 2 I) (k 3 J)];exact⟨f,rfl,rfl,rfl⟩
   ·right;have F:=(O.1 B).resolve_left w |>.resolve_left f;rw[M f F,Y];refine⟨f,F,rfl,rfl,λU=> ?_⟩
    show nH 1 (0,15*(g.2.length:Int)) (gK (aU p g) c v exA)=S v;have H:Ju g a (λu=>pK c u 5) v=Ju g a S v:=by
     unfold Ju;congr 1;refine List.map_congr_left λi o=> ?_;obtain⟨u,C,E,_⟩:=r.port b (zAg.1 o);rw[E,zAd];by_cases q:u≠0∧a u=v
     ·rw[if_pos q,if_pos q];exact U u C q.1 q.2
     ·rw[if_neg q,if_neg q]
    have R:=G.eq v b;have Q:=G.bd v b;have hx:xC c v=pK c v 4:=rfl;rw[afD r z y j m l b (by rw[H];omega),H,R];rfl
inductive SN where
 |tree (k:Nat)
 |good (k:Nat)
 |lev (cl:Bool) (k:Nat)
 |low (cl:Bool) (k:Nat)
 |rest
 |done
def CO (E:Nat):SN->Nat
 | .tree k=>k
 | .good k=>E+1+k
 | .lev false k=>2*E+1+k
 | .low false k=>3*E+1+k
 | .rest=>4*E+2
 | .lev true k=>4*E+3+k
 | .low true k=>5*E+3+k
 | .done=>6*E+4
def GdN (n:Nat) (a c:Nat->Nat) (s b:Nat->Int) (k:Nat):Prop:=∀v,v<n->v≠0->c v<=k->gd a s b v
section
variable (g:GR) (d:List Int) (E:Nat) (par dp:Nat->Nat) (S:Nat->Int)
def Wd (i:SN) (c:List (List Int)):Prop:=DY g c f_∧Ey g par (xC c) S∧match i with
 | .tree k=>k<=E∧TrK g d k c
 | .good k=>k<E∧Hi g d c∧GdN g.2.length par dp (sC c) (bC c) k
 | .lev cl k=>k<E∧Hi g d c∧AG g.2.length par (sC c) (bC c)∧sC c 0≠0∧XI g.2.length dp (bC c) k∧(cl=true->CN g.2.length par S c)
 | .low cl k=>k<=E∧Hi g d c∧AG g.2.length par (sC c) (bC c)∧sC c 0≠0∧XI g.2.length dp (bC c) E∧Wc g.2.length E dp (sC c) k∧(cl=true->CN g.2.length par S c)
 | .rest=>Hi g d c∧Qt g.2.length (sC c) (bC c)
 | .done=>Hi g d c∧AG g.2.length par (sC c) (bC c)∧∀v,v<g.2.length->aC c v=S v
def TsN (i:SN) (c:List (List Int)) (v:Nat):Prop:=match i with
 | .tree k=>TrT g d k c v
 | .good k=>v<g.2.length∧v≠0∧dp v<=k+1∧¬gd par (sC c) (bC c) v
 | .lev _ k=>v<g.2.length∧dp v<=k+1∧bC c v≠bC c 0
 | .low _ k=>v<g.2.length∧E<dp v+(k+1)∧sC c v≠0
 | .rest=>v=0
 | .done=>False
end
section
variable {g:GR} {d:List Int} {E:Nat} {par dp:Nat->Nat} {S:Nat->Int} {c c':List (List Int)} {t:Nat} (hT:RT g.2.length E par dp)
 include hT
theorem afT {s:Nat->Int}:Wc g.2.length E dp s 0:=λv a b=>by have:=hT.le v a;omega
theorem Lc {cl:Bool} {k:Nat} (m:DY g c f_) (l:Ey g par (xC c) S) (n:k<=E) (a:Hi g d c) (b:AG g.2.length par (sC c) (bC c)) (f:sC c 0≠0) (h:XI g.2.length dp (bC c) k) (j:cl=true->CN g.2.length par S c):∃i,CO E (.lev cl k)<=CO E i∧Wd g d E par dp S i c:=by
 by_cases e:k<E
 ·exact⟨.lev cl k,zAf _,m,l,e,a,b,f,h,j⟩
 ·obtain rfl:k=E:=by omega
  refine⟨.low cl 0,?_,m,l,Nat.zero_le _,a,b,f,h,afT hT,j⟩
  cases cl<;>(simp only[CO];omega)
theorem QA {k:Nat} (l:DY g c f_) (j:Ey g par (xC c) S) (w:k<=E) (h:Hi g d c) (n:GdN g.2.length par dp (sC c) (bC c) k):∃i,E+1+k<=CO E i∧Wd g d E par dp S i c:=by
 by_cases e:k<E
 ·exact⟨.good k,zAf _,l,j,e,h,n⟩
 ·have o:AG g.2.length par (sC c) (bC c):=λv f r=>n v f r (by have:=hT.le v f;omega);by_cases p:sC c 0=0
  ·exact⟨.rest,by simp only[CO];omega,l,j,h,adS hT o p⟩
  ·have s:XI g.2.length dp (bC c) 0:=λv f u=>by
    by_cases m:v=0
    ·rw[m]
    ·have:=(hT.up v f m).2;omega
   obtain⟨i,a,b⟩:=Lc (cl:=false) hT l j (Nat.zero_le _) h o p s (λq=>by cases q);exact⟨i,by simp only[CO]at a ⊢;omega,b⟩
theorem ali:GdN g.2.length par dp (sC c) (bC c) 0:=λv b a e=>by have:=(hT.up v b a).2;omega
 omit hT in
theorem agb {i:SN} (h:Wd g d E par dp S i c):CO E i<=6*E+4:=by
  obtain⟨_,_,h⟩:=h
  match i,h with
  | .tree k,h=>have:=h.1;simp only[CO];omega
  | .good k,h=>have:=h.1;simp only[CO];omega
  | .lev false k,h=>have:=h.1;simp only[CO];omega
  | .lev true k,h=>have:=h.1;simp only[CO];omega
  | .low false k,h=>have:=h.1;simp only[CO];omega
  | .low true k,h=>have:=h.1;simp only[CO];omega
  | .rest,h=>simp only[CO];omega
  | .done,h=>exact zAf _
theorem acY (s:∀v,v<g.2.length->D d v<=(E:Int)) {i:SN} (h:Wd g d E par dp S i c) (u:CO E i<6*E+4) (f:∀v,¬TsN g d E par dp i c v):∃p,CO E i<CO E p∧Wd g d E par dp S p c:=by
 obtain⟨n,m,h⟩:=h
 match i,h,f with
 | .tree k, ⟨hk, h⟩, f =>
  have l:=RH h f;by_cases e:k<E
  ·exact⟨.tree (k+1),by simp only[CO];omega,n,m,e,l⟩
  ·obtain⟨i,a,b⟩:=QA (k:=0) hT n m (Nat.zero_le _) (Nx l λv j=>by have:=s v j;omega) (ali hT);exact⟨i,by simp only[CO]at a ⊢;omega,b⟩
 | .good k,⟨hk,h1,h2⟩,f=>
  obtain⟨i,a,b⟩:=QA (k:=k+1) hT n m hk h1 (λv j r o=>Classical.not_not.1 λq=>f v ⟨j,r,o,q⟩);exact⟨i,by simp only[CO]at a ⊢;omega,b⟩
 | .lev cl k,⟨hk,h1,h2,h3,h4,h5⟩,f=>
  obtain⟨i,a,b⟩:=Lc (k:=k+1) hT n m hk h1 h2 h3 (λv j o=>zAk.1 λq=>f v ⟨j,o,q⟩) h5;refine⟨i,?_,b⟩
  cases cl<;>(simp only[CO]at a ⊢;omega)
 | .low cl k, ⟨hk, h1, h2, h3, h4, h5, h6⟩, f =>
  have l:Wc g.2.length E dp (sC c) (k+1):=λv j o=>zAk.1 λq=>f v ⟨j,o,q⟩;by_cases e:k<E
  ·refine⟨.low cl (k+1),?_,n,m,e,h1,h2,h3,h4,l,h6⟩
   cases cl<;>(simp only[CO];omega)
  ·exact absurd (l 0 hT.n1 (by have:=hT.d0;omega)) h3
 | .rest,_,f=>exact absurd Z (f 0)
 | .done,_,_=>simp only[CO]at u;omega
end
structure StK (g:GR) (d:List Int) (par:Nat->Nat) (c:List (List Int)) (t:Nat) (c':List (List Int)):Prop where
 tr:TrS g c t c'
 rc:DY g c' f_
 x:∀v,v<g.2.length->xC c' v=xC c v
 ws:Hi g d c->∀S,Ey g par (xC c) S->Hi g d c'∧StN g.2.length par S c t c'
section
variable {g:GR} {d:List Int} {E:Nat} {par dp:Nat->Nat} {S:Nat->Int} {c c':List (List Int)} {t:Nat} (hV:VG g) (hD:pR g 0 d) (h0:∀v,v<g.2.length->0<=D d v) (hT:RT g.2.length E par dp) (hs:StK g d par c t c')
 include hV hD h0 hT hs
theorem ZV {i:SN} (h:Wd g d E par dp S i c):∃F,Wd g d E par dp S F c'∧(CO E i<CO E F∨(F=i∧∀v,TsN g d E par dp i c' v->TsN g d E par dp i c v∧t.testBit v=false)):=by
 obtain⟨M,u,h⟩:=h;have m:=hs.rc;have l:Ey g par (xC c') S:=⟨λv n=>by rw[hs.x v n];exact u.eq v n,u.bd⟩
 have G:∀{v:Nat},¬(t.testBit v=true)->t.testBit v=false:=λh=>by simpa using h
 match i,h with
 | .tree k,⟨hk,h⟩=>
  obtain⟨a,b⟩:=aar hV hD h0 h hs.tr;exact⟨.tree k,⟨m,l,hk,a⟩,.inr ⟨rfl,b⟩⟩
 | .good k, ⟨hk, h1, h2⟩ =>
  obtain⟨f,j⟩:=hs.ws h1 S u;have p:=j.ws;have H:∀v,v<g.2.length->v≠0->dp v<=k+1->par v=0∨gd par (sC c) (bC c) (par v):=λv n o r=>by
   obtain⟨a,b⟩:=hT.up v n o;by_cases e:par v=0
   ·exact .inl e
   ·exact .inr (h2 _ a e (by omega))
  refine⟨.good k,⟨m,l,hk,f,λv n o r=>JS hT p n o (H v n o (by omega)) (.inl (h2 v n o r))⟩,.inr ⟨rfl,λv ⟨n,o,r,y⟩=> ?_⟩⟩
  exact⟨⟨n,o,r,λq=>y (JS hT p n o (H v n o r) (.inl q))⟩,G λq=>y (JS hT p n o (H v n o r) (.inr q))⟩
 | .lev cl k, ⟨hk, h1, h2, h3, h4, h5⟩ =>
  obtain⟨f,j⟩:=hs.ws h1 S u;have p:=j.ws;rcases Np hT p h2 h3 with⟨z,s⟩|⟨C,B,z,s,A⟩
  ·refine⟨.lev cl k,⟨m,l,hk,f,BZ hT p h2,by rw[z];exact h3,QE hT p h4 s,λq=>UO hT j h2 h3 (h5 q) s⟩,.inr ⟨rfl,λv ⟨n,r,y⟩=> ?_⟩⟩
   obtain⟨a,b⟩:=(Zz hT p h4 s n r).2 y;exact⟨⟨n,r,a⟩,G b⟩
  ·cases cl with
   |false=>exact⟨.rest,⟨m,l,f,A⟩,.inl (by simp only[CO];omega)⟩
   |true=>exact⟨.done,⟨m,l,f,BZ hT p h2,UN hT j (h5 Z) B C⟩,.inl (by simp only[CO];omega)⟩
 | .low cl k, ⟨hk, h1, h2, h3, h4, h5, h6⟩ =>
  obtain⟨f,j⟩:=hs.ws h1 S u;have p:=j.ws;rcases Np hT p h2 h3 with⟨z,s⟩|⟨C,B,z,s,A⟩
  ·refine⟨.low cl k,⟨m,l,hk,f,BZ hT p h2,by rw[z];exact h3,QE hT p h4 s,ZD hT p h4 h5 h3,λq=>UO hT j h2 h3 (h6 q) s⟩,.inr ⟨rfl,λv ⟨n,r,y⟩=> ?_⟩⟩
   obtain⟨a,b⟩:=(ZC hT p h2 h4 h5 n r).2 h3 y;exact⟨⟨n,r,a⟩,G b⟩
  ·cases cl with
   |false=>exact⟨.rest,⟨m,l,f,A⟩,.inl (by simp only[CO];omega)⟩
   |true=>exact⟨.done,⟨m,l,f,BZ hT p h2,UN hT j (h6 Z) B C⟩,.inl (by simp only[CO];omega)⟩
 | .rest, ⟨h1, h2⟩ =>
  obtain⟨f,j⟩:=hs.ws h1 S u;rcases adb hT j h2 with⟨I,N,J,K,L⟩|⟨A,w⟩
  ·obtain⟨i,a,b⟩:=Lc (cl:=true) hT m l (Nat.zero_le _) f L I K (λ_=>J);exact⟨i,b,.inl (by simp only[CO]at a ⊢;omega)⟩
  ·exact⟨.rest,⟨m,l,f,A⟩,.inr ⟨rfl,λv n=>⟨n,by rw[show v=0 from n];exact w⟩⟩⟩
 | .done,⟨h1,h2,h3⟩=>
  obtain⟨f,j⟩:=hs.ws h1 S u;exact⟨.done,⟨m,l,f,BZ hT j.ws h2,j.right h3⟩,.inr ⟨rfl,λv q=>q.elim⟩⟩
end
theorem TW {p:sW} {g:GR} {d:List Int} {c:List (List Int)} {i u:Nat->Nat} {t:Nat} (m:VG g) (q:pR g 0 d) (o:∀v,v<g.2.length->0<=D d v) (w:TP g d i u) (y:tC g f_) (k:DY g c f_)
  (h:∀v,t.testBit v=true->v<g.2.length∧0<=eI (aU p g) RN c v):StK g d i c t (iP (aU p g) f_ RN c t):=by
 have l:=agr (p:=p) (W:=Me) (R':=RX) (t:=t) m k ahy h;have n:=k.len;refine⟨l,Nu (S:=aU p g) y k,λv e=>TX (x:=4) (by decide) (by rw[n];exact e),λj S f=>⟨λv e=> ?_,agn m q o w k j f h⟩⟩
 have s:=Pj m q o j e;cases r:t.testBit v with
 |false=>obtain⟨a,b⟩:=l.stay v e r;rw[show iP (aU p g) f_ RN c t=iP (aU p g) (tZ++Me) (RB++RX) c t from rfl,a,b];exact j v e
 |true=>obtain⟨a,b⟩:=l.move v e r;rw[show iP (aU p g) f_ RN c t=iP (aU p g) (tZ++Me) (RB++RX) c t from rfl,a,b,<-s.1,<-s.2];exact j v e
theorem VH:∀(l:pG) (f h:Nat->Int),(l.map λi=>f i+h i).sum=(l.map f).sum+(l.map h).sum
 | [],f,h=>by simp
 |x::l,f,h=>by rw[zB3,zB3,zB3,List.sum_cons,List.sum_cons,List.sum_cons,VH l f h];omega
theorem HS:∀(l:pG) (f:Nat->Int),(∀i∈l,f i=0)->(l.map f).sum=0
 | [],f,_=>by simp
 |x::l,f,h=>by rw[zB3,List.sum_cons,h x zA7,HS l f λi a=>h i (zAe _ a)];rfl
theorem VI:∀(m:Nat) (f:Nat->Int) (i:Nat),i<m->(∀j,j<m->j≠i->f j=0)->((List.range m).map f).sum=f i
 |0,f,i,h,_=>by omega
 | m + 1, f, i, h, hz => by
  rw[List.range_succ,List.map_append,List.sum_append,List.map_singleton];have b:([f m]:aR).sum=f m:=by simp
  rw[b];by_cases e:i=m
  ·subst e;rw[HS _ f λj a=>hz j (by have:=zAg.1 a;omega) (by have:=zAg.1 a;omega)];omega
  ·rw[VI m f i (by omega) λj a c=>hz j (by omega) c,hz m (by omega) (λq=>e q.symm)];omega
section
variable {g:GR} {d:List Int} {par fp:Nat->Nat} {P:Nat->Int} {c:List (List Int)} (hV:VG g) (hD:pR g 0 d) (h0:∀v,v<g.2.length->0<=D d v) (hT:TP g d par fp) (hP:Par g d P) (hPp:∀v,v<g.2.length->v≠0->P v=(par v:Int))
theorem Lw {f:Nat} {v:Nat}:onP P (f+1) (v:Int) v=true:=by
 simp only[onP];rw[if_neg (by omega)];simp
 include hP hPp hT
theorem Vq:∀(f w v:Nat),w<g.2.length->onP P f (w:Int) v=true->w≠v->∃u,u<g.2.length∧u≠0∧par u=v∧onP P f (w:Int) u=true
 |0,w,v,_,h,_=>by cases h
 | f + 1, w, v, hw, h, hne => by
  simp only[onP]at h;rw[if_neg (by omega),zAr,zA3]at h;rcases h with h|h
  ·exact absurd (by omega) hne
  ·rw[show Int.toNat (w:Int)=w from rfl]at h;by_cases e:w=0
   ·subst e;rw[hP.root,HE (by omega)]at h;cases h
   ·rw[hPp w hw e]at h;obtain⟨_,_,_,a,_⟩:=hT.at_ w hw e;by_cases q:par w=v
    ·exact⟨w,hw,e,q,Lw⟩
    ·obtain⟨u,b,i,j,k⟩:=Vq f (par w) v a h q;refine⟨u,b,i,j,?_⟩
     simp only[onP];rw[if_neg (by omega),show Int.toNat (w:Int)=w from rfl,hPp w hw e,k,Bool.or_true]
theorem ZS:∀(f w u:Nat),w<g.2.length->u<g.2.length->u≠0->onP P f (w:Int) u=true->onP P (f+1) (w:Int) (par u)=true
 |0,w,u,_,_,_,h=>by cases h
 | f + 1, w, u, hw, hu, hu0, h => by
  have a:=h;simp only[onP]at a;rw[if_neg (by omega),zAr,zA3]at a;rw[show onP P (f+1+1) (w:Int) (par u)=if(w:Int)<0 then false else decide ((w:Int)=((par u:Nat):Int))||onP P (f+1) (P (Int.toNat (w:Int))) (par u)from rfl,if_neg (by omega),show Int.toNat (w:Int)=w from rfl];rcases a with a|a
  ·have:w=u:=by omega
   subst this;rw[hPp w hu hu0,Lw,Bool.or_true]
  ·rw[show Int.toNat (w:Int)=w from rfl]at a;by_cases e:w=0
   ·subst e;rw[hP.root,HE (by omega)]at a;cases a
   ·rw[hPp w hw e]at a ⊢;obtain⟨_,_,_,b,_⟩:=hT.at_ w hw e;rw[ZS f (par w) u b hu hu0 a,Bool.or_true]
theorem QV (m:∀v,v<g.2.length->0<=D d v):∀(f l w u k:Nat),w<g.2.length->onP P f (w:Int) u=true->onP P l (w:Int) k=true->D d u=D d k->u=k
 |0,_,w,_,_,_,h,_,_=>by cases h
 |f+1,0,w,_,_,_,_,h,_=>by cases h
 | f + 1, l + 1, w, u, k, hw, h, i, hd => by
  simp only[onP]at h i;rw[if_neg (by omega),zAr,zA3,show Int.toNat (w:Int)=w from rfl]at h i;by_cases e:w=0
  ·subst e;rw[hP.root,HE (by omega)]at h i;have a:=h.resolve_right (by decide);have b:=i.resolve_right (by decide);omega
  ·obtain⟨_,_,_,j,n⟩:=hT.at_ w hw e;rw[hPp w hw e]at h i;rcases h with h|h
   ·rcases i with i|i
    ·omega
    ·have:=Lv hP l (par w) k j i;have:u=w:=by omega
     subst this;omega
   ·rcases i with i|i
    ·have:=Lv hP f (par w) u j h;have:k=w:=by omega
     subst this;omega
    ·exact QV m f l (par w) u k j h i hd
 include hV hD h0
theorem Nw {v:Nat} (z:v<g.2.length):∀k,k<=g.2.length->zP P g.2.length c v k=(if v<k then Kg c v else 0)+Ju g par (λu=>zP P g.2.length c u k) v
 |0,_=>by
  unfold Ju;simp only[zP];rw[HS _ _ λi _=>by split<;>rfl,if_neg (by omega)];rfl
 | k + 1, hk => by
  have O:=hV.n24;have b:k<g.2.length:=hk;have V:=Nw z k (by omega);have U:=(hD.zero 0 (by omega)).2 Z;have Q:=h0 k b;have R:=hD.hi k b;have n:∀f u,f>(D d k).toNat->onP P f (k:Int) u=onP P ((D d k).toNat+1) (k:Int) u:=λf u W=>Ly hP h0 U (D d k).toNat k f u b (by omega) (by omega)
  -- the new summand at the children
  have J:((List.range (row g v).length).map λi=>if((fQ (row g v) i).1.toNat≠0∧par (fQ (row g v) i).1.toNat=v)∧onP P (g.2.length+1) (k:Int) (fQ (row g v) i).1.toNat=true then Kg c k else 0).sum=if onP P (g.2.length+1) (k:Int) v=true∧k≠v then Kg c k else 0:=by
   by_cases q:onP P (g.2.length+1) (k:Int) v=true∧k≠v
   ·rw[if_pos q];obtain⟨u,t,p,o,x⟩:=Vq hT hP hPp _ k v b q.1 q.2;obtain⟨a,_,l,_⟩:=hT.at_ u t p;rw[o]at l;obtain⟨i,A,w⟩:=hV.back t ⟨fp u,a,l⟩;rw[VI _ _ i A λj K T=> ?_]
    ·rw[w,zAd,if_pos ⟨⟨p,o⟩,x⟩]
    ·obtain⟨L,H,m,_⟩:=hV.port z K;rw[m,zAd,if_neg];rintro⟨⟨C,E⟩,F⟩;have M:=(hT.at_ u t p).2.2.2.2;have G:=(hT.at_ L H C).2.2.2.2;rw[o]at M;rw[E]at G;have:=QV hT hP hPp h0 _ _ k u L b x F (by omega);subst this;have X:=CV hV z A w;have Y:=CV hV z K m;omega
   ·rw[if_neg q];refine HS _ _ λi A=>if_neg ?_;obtain⟨u,t,I,_⟩:=hV.port z (zAg.1 A);rw[I,zAd];rintro⟨⟨C,E⟩,F⟩;have y:=ZS hT hP hPp _ k u b t C F;rw[E,n _ _ (by omega),<-n (g.2.length+1) v (by omega)]at y;have S:=Lv hP _ k u b F;have G:=(hT.at_ u t C).2.2.2.2;rw[E]at G;exact q ⟨y,λe=>by subst e;omega⟩
  have h:Ju g par (λu=>zP P g.2.length c u (k+1)) v=Ju g par (λu=>zP P g.2.length c u k) v+((List.range (row g v).length).map λi=>if((fQ (row g v) i).1.toNat≠0∧par (fQ (row g v) i).1.toNat=v)∧onP P (g.2.length+1) (k:Int) (fQ (row g v) i).1.toNat=true then Kg c k else 0).sum:=by
   unfold Ju;rw[<-VH];congr 1;refine List.map_congr_left λi _=> ?_;simp only[zP];by_cases q:(fQ (row g v) i).1.toNat≠0∧par (fQ (row g v) i).1.toNat=v
   ·rw[if_pos q,if_pos q];by_cases r:onP P (g.2.length+1) (k:Int) (fQ (row g v) i).1.toNat=true
    ·rw[if_pos r,if_pos ⟨q,r⟩]
    ·rw[if_neg r,if_neg λs=>r s.2]
   ·rw[if_neg q,if_neg q,if_neg λs=>q s.1];rfl
  rw[h,J];show zP P g.2.length c v k+(if onP P (g.2.length+1) (k:Int) v=true then Kg c k else 0)=_;rw[V];by_cases e:k=v
  ·subst e;rw[if_neg (Nat.lt_irrefl k),if_pos (Lw (f:=g.2.length)),if_pos (Nat.lt_succ_self k),if_neg λq=>q.2 Z];omega
  ·have N:(if v<k+1 then Kg c v else 0)=if v<k then Kg c v else 0:=by
    by_cases q:v<k
    ·rw[if_pos q,if_pos (by omega)]
    ·rw[if_neg q,if_neg (by omega)]
   rw[N];generalize (if v<k then Kg c v else 0)=B;by_cases q:onP P (g.2.length+1) (k:Int) v=true
   ·rw[if_pos q,if_pos ⟨q,e⟩];omega
   ·rw[if_neg q,if_neg λr=>q r.1];omega
theorem aan {W:List D_} (b:∀v,v<g.2.length->0<=Kg c v∧Kg c v<=15):Ey g par (xC c) (λv=>zP P g.2.length c v g.2.length):=by
 refine⟨λv a=> ?_,λv a=>(OV b).2⟩
 have:=Nw hV hD h0 hT hP hPp (c:=c) a g.2.length (zAf _);rw[if_pos a]at this;exact this
end
theorem adn (p b:sW) (g:GR) (a:List D_) (R:List RL) (c:bF) (t:Nat):iP (aU p g) a R c t=iP (aU b g) a R c t:=rfl
theorem Qs (p b:sW) (g:GR) (R:List RL) (a:Nat) (c:bF):qZ (aU p g) R a c=qZ (aU b g) R a c:=rfl
noncomputable def nxt (g:GR) (a:Int) (c:Nat) (w:Int):Nat:=(((oQ 1000 g).bind λb=>fG 1000 b a (c:Int) w).getD 0).toNat
noncomputable def DF (p:sW) (vars:List D_) (R:List RL) (g:GR) (kind:Int) (ws:aR) (a:bF):Nat->bF
 |0=>a
 |k+1=>iP (aU p g) vars R (DF p vars R g kind ws a k) (nxt g kind (qZ (aU p g) R (fI g) (DF p vars R g kind ws a k)) (at' ws (k:Int)))
theorem LE (p p':sW) (vars:List D_) (R:List RL) (g:GR) (kind:Int) (ws:aR) (a:bF) (k:Nat):DF p vars R g kind ws a k=DF p' vars R g kind ws a k:=by
 induction k with
 |zero=>rfl
 |succ k b=>
  rw[DF,DF,b,adn p p',Qs p p']
theorem exZ (D:Mc):∃z:List wZ,z.map zJ=D:=by
 refine⟨D.map λd=>(ByteArray.mk #[],(.bool true,d.1),(.bool true,d.2.map λs=>(s.1,(.bool true,s.2)))),?_⟩
 rw[List.map_map]
 conv=>rhs;rw[<-List.map_id D]
 refine List.map_congr_left λd _=> ?_;show(d.1,(d.2.map λs=>(s.1,((.bool true:Value),s.2))).map λs=>(s.1,s.2.2))=d;rw[List.map_map];exact Prod.ext Z (by
  conv=>rhs;rw[<-List.map_id d.2]
  rfl)
end Go.Proofs.YtlkhndebimcbbaaGreatDoor
namespace Go.Proofs.YtlkhndebimcbbaaGreatDoor
open Go.Sx
def HO  (a:adV):Option BW:=
 if a.2.2.2.2.2.1≠(0:Int)then(some (([]:AU),([]:Ef),a.2.2.2.2.2.1))else(some (a.2.2.2.2.2.2.2.2.2.2,a.2.2.2.2.2.2.2.2.2.1,(0:Int)))
def Bh  (a:adW):Option BW:=
 HO  (a.2.2.2.2.2.1,a.2.2.2.2.2.2.1,a.2.2.2.2.2.2.2.1,a.2.2.2.2.2.2.2.2.1,a.2.2.2.2.2.2.2.2.2.1,a.2.2.2.2.2.2.2.2.2.2,a.2.2.1,a.2.2.2.1,a.2.2.2.2.1,a.1,a.2.1)
def yP  (a:aR×Int×Int×Int×Int×Int×bF×aR×(List (Int×Int×Int×Int×Int))×List bF):Option BW:=
 Bh  (a.2.2.2.2.2.2.2.2.1,a.2.2.2.2.2.2.2.2.2,a.2.2.2.2.2.2.2.1,a.1,a.2.2.2.2.2.2.1,a.2.1,a.2.2.1,a.2.2.2.1,a.2.2.2.2.1,a.2.2.2.2.2.1,(0:Int))
def DK (e:NA) (b:aau) (f:aat->Option BW) (d:Int) (h:bF) (c:Int) (a:(Int×Int×Int×Int×Int)×Int) (g:AU):Option BW:=
 ck ((b.2.2.2.2.2.2.2.2.2.1.length:Int)+(List.length ([d]):Int)<=1099511627) (ck ((b.2.1.length:Int)+(List.length ([(eK .u32 c e.1)]):Int)<=1099511627) (f ((eK .u32 c e.1),(b.2.1++([(eK .u32 c e.1)])),(wI .i64 (b.2.2.1+(1:Int))),a.1.1,a.1.2.1,a.1.2.2.1,a.1.2.2.2.1,a.1.2.2.2.2,h,(b.2.2.2.2.2.2.2.2.2.1++[d]),(b.2.2.2.2.2.2.2.2.2.2.1++([(a.1.1,a.1.2.1,a.1.2.2.1,a.1.2.2.2.1,a.1.2.2.2.2)])),g)))
def DJ (U:Nat) (e:yU) (k:cD) (l:Int) (c:NA) (a:aau) (i:aat->Option BW) (d:Int):Option BW:=
 if¬(a.1≠(0:Int))then(yP  (a.2.1,a.2.2.2.1,a.2.2.2.2.1,a.2.2.2.2.2.1,a.2.2.2.2.2.2.1,a.2.2.2.2.2.2.2.1,a.2.2.2.2.2.2.2.2.1,a.2.2.2.2.2.2.2.2.2.1,a.2.2.2.2.2.2.2.2.2.2.1,a.2.2.2.2.2.2.2.2.2.2.2))else(Option.bind (gH U c.2.1 l a.1 d) λj=>(if(!j)=true then(Bh  (a.2.2.2.2.2.2.2.2.2.2.1,a.2.2.2.2.2.2.2.2.2.2.2,([]:aR),([]:aR),([]:bF),(0:Int),(0:Int),(0:Int),(0:Int),(0:Int),(11:Int)))else(Option.bind (jY U ((((e.1,e.2.1,e.2.2)),((((e.1,e.2.1,e.2.2)),((k.1,k.2)),c.2.2.2.1,c.2.2.2.2)),c.2.2.1)) a.2.2.2.2.2.2.2.2.1 d) λf=>(Option.bind (dJ U ((((e.1,e.2.1,e.2.2)),((((e.1,e.2.1,e.2.2)),((k.1,k.2)),c.2.2.2.1,c.2.2.2.2)),c.2.2.1)) f) λg=>(Option.bind (gO U ((a.2.2.2.1,a.2.2.2.2.1,a.2.2.2.2.2.1,a.2.2.2.2.2.2.1,a.2.2.2.2.2.2.2.1)) d (eK .u32 g c.1)) λb=>(Option.bind (mW U f) λh=>(ck ((a.2.2.2.2.2.2.2.2.2.2.2.length:Int)+((([]:AU)++[h]).length:Int)<=1099511627) (ck ((a.2.2.2.2.2.2.2.2.2.2.1.length:Int)+(List.length ([(b.1.1,b.1.2.1,b.1.2.2.1,b.1.2.2.2.1,b.1.2.2.2.2)]):Int)<=1099511627) (DK c a i d f g b (a.2.2.2.2.2.2.2.2.2.2.2++(([]:AU)++[h])))))))))))
def uL (U:Nat) (g:yU) (h:cD) (f:Int) (e:aR) (c:NA) (a:aau) (b:aat->Option BW):Option BW:=
 if a.2.2.1<(e.length:Int)then(ck (0<=a.2.2.1∧a.2.2.1<(e.length:Int)) (Option.bind (fG U c.2.1 f a.1 (at' e a.2.2.1)) λd=>(DJ U g h f c a b (d))))else(yP  (a.2.1,a.2.2.2.1,a.2.2.2.2.1,a.2.2.2.2.2.1,a.2.2.2.2.2.2.1,a.2.2.2.2.2.2.2.1,a.2.2.2.2.2.2.2.2.1,a.2.2.2.2.2.2.2.2.2.1,a.2.2.2.2.2.2.2.2.2.2.1,a.2.2.2.2.2.2.2.2.2.2.2))
def DI (U:Nat) (f:yU) (g:cD) (h:Int) (i:aR) (b:NA) (e:bF) (c:Int) (a:(Int×Int×Int×Int×Int)) (d:AU):Option BW:=
 ck ((List.length ([]:aR):Int)+(List.length ([(eK .u32 c b.1)]):Int)<=1099511627) (bI (uL U f g h i b) U ((eK .u32 c b.1),(([]:aR)++([(eK .u32 c b.1)])),(0:Int),a.1,a.2.1,a.2.2.1,a.2.2.2.1,a.2.2.2.2,e,([]:aR),(([]:Ef)++([(a.1,a.2.1,a.2.2.1,a.2.2.2.1,a.2.2.2.2)])),d))
def DG (U:Nat) (d:yU) (g:cD) (h:Int) (i:bF) (j:aR) (b:NA):Option BW:=
 Option.bind (mW U i) λe=>(Option.bind (dJ U ((((d.1,d.2.1,d.2.2)),((((d.1,d.2.1,d.2.2)),((g.1,g.2)),b.2.2.2.1,b.2.2.2.2)),b.2.2.1)) e) λf=>(Option.bind (wD U (eK .u32 f b.1)) λa=>(Option.bind (mW U e) λc=>(ck ((List.length ([]:AU):Int)+((([]:AU)++[c]).length:Int)<=1099511627) (ck ((List.length ([]:Ef):Int)+(List.length ([(a.1,a.2.1,a.2.2.1,a.2.2.2.1,a.2.2.2.2)]):Int)<=1099511627) (DI U d g h j b e f a (([]:AU)++(([]:AU)++[c]))))))))
def Bi (U:Nat) (e:yU) (b:cD) (f:Int) (g:bF) (h:aR) (a:fV×Int×bF):Option BW:=
 Option.bind (oQ U ((b.1,b.2))) λc=>(Option.bind (Ap U ((b.1,b.2))) λd=>(DG U e b f g h (d,c,a.1,a.2.1,a.2.2)))
def Bj (U:Nat) (c:yU) (d:cD) (e:Int) (f:bF) (g:aR) (a:Int×bF):Option BW:=
 Option.bind (kF U ((c.1,c.2.1,c.2.2)) ((d.1,d.2))) λb=>(Bi U c d e f g (b,a.1,a.2))
def vJ (U:Nat) (b:yU) (c:cD) (d:Int) (e:bF) (f:aR) (a:Int×bF):Option BW:=
 Bj U b c d e f (a.1,a.2)
def zZ (d:cD) (a:Int×Int×bF) (b:(Int×Int×bF)->Option BW) (c:bF):Option BW:=
 b ((wI .i64 (a.1+(1:Int))),(max a.2.1 (at' d.1 a.1)),c)
def uM (U:Nat) (f:cD) (a:Int×Int×bF) (d:(Int×Int×bF)->Option BW) (b:Int×bF) (e:(Int×bF)->Option BW):Option BW:=
 if b.1<((at' f.2 a.1).length:Int)then(ck (0<=b.1∧b.1<((at' f.2 a.1).length:Int)) (ck (0<=a.1∧a.1<(b.2.length:Int)) (Option.bind (nR U ((f.1,f.2)) ((at' (at' f.2 a.1) b.1).1) a.1) λc=>(ck (((at' b.2 a.1).length:Int)+(List.length ([c]):Int)<=1099511627) (ck (0<=a.1∧a.1<((List.set b.2 (Int.toNat a.1) ((at' b.2 a.1)++[c])).length:Int)) (e ((wI .i64 (b.1+(1:Int))),(List.set b.2 (Int.toNat a.1) ((at' b.2 a.1)++[c])))))))))else(zZ f a d (b.2))
def pD (U:Nat) (d:yU) (c:cD) (e:Int) (f:bF) (g:aR) (a:Int×Int×bF) (b:(Int×Int×bF)->Option BW):Option BW:=
 if a.1<(c.2.length:Int)then(ck (0<=a.1∧a.1<(c.2.length:Int)) (ck (0<=a.1∧a.1<(c.1.length:Int)) (bI (uM U c a b) U ((0:Int),a.2.2))))else(vJ U d c e f g (a.2.1,a.2.2))
def xG (U:Nat) (b:yU) (a:cD) (c:Int) (d:bF) (e:aR):Option BW:=
 Option.bind (Aq U ((b.1,b.2.1,b.2.2)) ((a.1,a.2)) c d (e.length:Int)) λf=>(if f≠(0:Int)then(some (([]:AU),([]:Ef),f))else(ck (0<=(a.2.length:Int)∧(a.2.length:Int)<=1099511627) (bI (pD U b a c d e) U ((0:Int),(0:Int),(List.replicate (Int.toNat (a.2.length:Int)) ([]:aR))))))
theorem aeE:aW Tryz.prog 27:=Tryz.call27
theorem RE (U:Nat) {s:yU} {G:cD} {R:Int} {p3:bF} {p4:aR} (u:Value)  (v:Value)  (E:Value)  (D:Value)  (z4:kA)  (v5:Value)  (z6:q_)  (v7:Value) (r:List bF×(List (Int×Int×Int×Int×Int))×Int) (h:xG U s G R p3 p4=some r):
  aY Tryz.prog 27 #[Value.agg #[vS (s.1),u,v],Value.agg #[E,D],vI (R),v5,v7] [Sl aS u s.2.1,Sl aL v s.2.2,PF (Value.agg #[vS s.1,u,v]),Sl bN E G.1,S2 bA D z4 G.2,S2 bN v5 z6 p3,Sl Ak v7 p4,Gb 0 (cellsOf Ig xO)] (λx:Value×List Value×List (List Value)×Value=>Value.tuple #[x.1,x.2.2.2,vI (r.2.2)]) (λx l=>Ar dD.raw x.1 x.2.1::Mh bZ x.2.1 x.2.2.1 r.1::Ar cE x.2.2.2 r.2.1::l) (λ_ l=>l):=by
 refine aY.of Tryz.func27 Z Tryz.ntmps27 Z λc=>?_;refine aX<|aH (aO.box (cs:=[vS (s.1),u,v]) Z Z) Z λb1=>aH (aO.box (cs:=[E,D]) Z Z) Z λb2=>aD Z<|aD Z<|aD Z<|aN<|aK<|aX<|dN 1 Z<|dN 0 Z<|aA Z<|aA Z<|aA Z<|jN (aE.fact 6 Z) Z<|eZ h λr3 w4 h=>aH (zBa aeN (RF U u v E D z4 v5 z6 r3 w4) Z (mT [0,1,2,3,4,5] Z)) Z λx5=>aD Z<|aN<|aX<|aA Z<|rB Z<|aN ?_;refine fD h Z (λh=>?_) λh=>?_
 ·refine aX<|aA Z<|aD Z<|aD Z<|aD Z<|aN<|aV<|aJ<|jL (gN dD.raw) (jL (Bt bZ) ?_);refine jL (gN cE) ?_;cases h;exact JH ((lB),([]:fO),([]:List (List Value)),(lB)) Z Z (RV.tmp Z) (RV.tmp Z) (RV.tmp Z) (a_.ix [2,1,0] Z Z) aG.nil
 refine cL<|aX<|aH (aO.alloc (cs:=[lB]) Z Z) Z λM=>aN<|aX<|aH (aO.alloc (cs:=[lB]) Z Z) Z λN=>aN<|aX<|dN 3 Z<|dN 2 Z<|aA Z<|aB (zG (cs:=[.tmp 14,.tmp 15]) (vs:=[vP M,vP N]) Z) Z<|Bp (A:=NA) (B:=Nat×Value×Nat×Value×List Value×Value×List Value) (vs:=[Value.agg #[vS (s.1),u,v],Value.agg #[E,D],vI (R),Value.func (.func 48) #[] #[vP M,vP N]]) (λg=>DG U s G R p3 p4 g=some r) (λg a=>Value.agg #[vP a.1,a.2.1,vI (R),vU (g.1),Value.func (.func 48) #[] #[vP M,vP N]]) (λg a=>[Ar qD a.2.1 g.2.1,bV a.1 [vS (s.1),u,v,vP a.2.2.1,a.2.2.2.1] 106,Ar dD.raw a.2.2.2.1 a.2.2.2.2.1,lK cG a.2.2.2.2.1 g.2.2.1,bV a.2.2.1 [vS (s.1),u,v,E,D,vI (g.2.2.2.1),a.2.2.2.2.2.1] 134,Ar dD.raw a.2.2.2.2.2.1 a.2.2.2.2.2.2,lK bZ a.2.2.2.2.2.2 g.2.2.2.2,bV N [lB] 35,bV M [lB] 34]) (λg a=>[Sl aS u s.2.1,Sl aL v s.2.2,PF (Value.agg #[vS s.1,u,v]),Sl bN E G.1,S2 bA D z4 G.2,S2 bN v5 z6 p3,Sl Ak v7 p4,Gb 0 (cellsOf Ig xO)]) (sN.fn (show aW Tryz.prog 47 from Tryz.call47) Z) Tryz.func47 Z Tryz.ntmps47 Z Z ?_ ?_
 ·refine aX<|aH (aO.box (cs:=[vS (s.1),u,v]) Z Z) Z λaf=>aH (aO.box (cs:=[E,D]) Z Z) Z λag=>aH (aO.alloc (cs:=vD1) Z Z) Z λah=>aN<|aK ?_;refine JR.start [0,0,3,0,15,0,0,95,0,511,1023] 9 mixedOrders (by decide +kernel) ?_;refine zBd (by exact rfl) ?_;refine mA 2 Z<|mA 1 Z<|NQ (A:=fV×Int×bF) (B:=Nat×Nat×Value×List Value×Value×List Value) (vs:=[Value.agg #[vS (s.1),u,v],Value.agg #[E,D]]) (λP=>Bi U s G R p3 p4 P=some r) (λP t=>vP t.1) (λP t=>[bV t.1 [vS (s.1),u,v,vP t.2.1,t.2.2.1] 106,Ar dD.raw t.2.2.1 t.2.2.2.1,lK cG t.2.2.2.1 P.1,bV t.2.1 [vS (s.1),u,v,E,D,vI (P.2.1),t.2.2.2.2.1] 134,Ar dD.raw t.2.2.2.2.1 t.2.2.2.2.2,lK bZ t.2.2.2.2.2 P.2.2,bV ah vD1 92,bV ag [E,D] 28,bV af [vS (s.1),u,v] 57,bV N [lB] 35,bV M [lB] 34]) (λP t=>[Sl aS u s.2.1,Sl aL v s.2.2,PF (Value.agg #[vS s.1,u,v]),Sl bN E G.1,S2 bA D z4 G.2,S2 bN v5 z6 p3,Sl Ak v7 p4,Gb 0 (cellsOf Ig xO)]) Z Z Z (sN.fn (show aW Tryz.prog 39 from Tryz.call39) Z) Tryz.func39 Z Tryz.ntmps39 Z Z (λ_ _=>(uB [] Z)) ?_ ?_
  ·refine aX<|aH (aO.box (cs:=[vS (s.1),u,v]) Z Z) Z λar=>aH (aO.box (cs:=[E,D]) Z Z) Z λau=>aD Z<|aN<|aK ?_;refine JR.start [0,0,0,6,0,0,62,127,255,511] 7 mixedOrders (by decide +kernel) ?_;refine zBd (by exact rfl) ?_;refine mA 1 Z<|mA 1 Z<|mA 0 Z<|NQ (A:=Int×bF) (B:=Nat×Value×List Value) (vs:=[Value.agg #[vS (s.1),u,v],Value.agg #[E,D]]) (λS=>Bj U s G R p3 p4 S=some r) (λS I=>vP I.1) (λS I=>[bV I.1 [vS (s.1),u,v,E,D,vI (S.1),I.2.1] 134,Ar dD.raw I.2.1 I.2.2,lK bZ I.2.2 S.2,bV au [E,D] 28,bV ar [vS (s.1),u,v] 57,bV ah vD1 92,bV ag [E,D] 28,bV af [vS (s.1),u,v] 57,bV N [lB] 35,bV M [lB] 34]) (λS I=>[Sl aS u s.2.1,Sl aL v s.2.2,PF (Value.agg #[vS s.1,u,v]),Sl bN E G.1,S2 bA D z4 G.2,S2 bN v5 z6 p3,Sl Ak v7 p4,Gb 0 (cellsOf Ig xO)]) Z Z Z (sN.fn (show aW Tryz.prog 64 from Tryz.call64) Z) Tryz.func64 Z Tryz.ntmps64 Z Z (λ_ _=>(uB [([4],[])] Z)) ?_ ?_
   ·refine aX<|aH (aO.box (cs:=[vS (s.1),u,v]) Z Z) Z λc8=>aH (aO.box (cs:=[E,D]) Z Z) Z λai=>aD Z<|aN<|aK ?_;refine JR.start [0,0,0,4,12,28,63,127,255] 6 mixedOrders (by decide +kernel) ?_;refine zBd (by exact rfl) ?_;refine mA 1 Z<|mA 0 Z<|dB Z<|iZ 0 Z<|bJ Z .nil (jS 4 Z) (gU Z (aE.fact 0 Z) Z) aM.z<|cT h λci h=>JR.stp (w_ bZ (Int.toNat (G.2.length:Int)))<|zBc Z Z Z (mL (e:=dD.raw) (lB) Z Z Z Z ci Z Z Z) Z (λL=>(uB [([2],[]),([3],[])] Z)) λL=>bO 6 Z Z<|cH (Know.one (aE.sl (bW (i:=0) (j:=1) Z Z dK))) λbT=>?_;refine aB (NU (r:=Value.agg #[vS (s.1),u,v,E,D,vI (0:Int),L]) Z Z Z (by intro w;simp[Instr.build,Instr.fill,dR,cW,cO,dU,dV,cX,eY,eO bT])) Z ?_;refine aH (aO.box (cs:=[vS (s.1),u,v,E,D,vI (0:Int),L]) Z Z) Z λT=>aD Z<|aN<|aK<|CR (B:=fO) (λX=>vJ U s G R p3 p4 X=some r) (λX av=>[(5,vP T)]) (λX av=>[bV T [vS (s.1),u,v,E,D,vI (X.1),L] 134,Ar dD.raw L av,lK bZ av X.2,bV au [E,D] 28,bV ar [vS (s.1),u,v] 57,bV ah vD1 92,bV ag [E,D] 28,bV af [vS (s.1),u,v] 57,bV N [lB] 35,bV M [lB] 34]) ?_ ?_
    ·refine aX<|bX Z<|dQ 3 Z<|aB (gU Z (aE.fact 4 Z) Z) Z<|aA Z<|aN<|aT<|dX (B:=fO) (pD U s G R p3 p4) (λo aj=>[(3,vP ai),(5,vP T),(19,D),(20,vI (G.2.length:Int)),(21,vI (o.1))]) (λo aj=>[bV T [vS (s.1),u,v,E,D,vI (o.2.1),L] 134,Ar dD.raw L aj,lK bZ aj o.2.2,bV ai [E,D] 28,bV au [E,D] 28,bV ar [vS (s.1),u,v] 57,bV ah vD1 92,bV ag [E,D] 28,bV af [vS (s.1),u,v] 57,bV N [lB] 35,bV M [lB] 34]) ((0:Int),(0:Int),(List.replicate (Int.toNat (G.2.length:Int)) ([]:aR))) (List.replicate (Int.toNat (G.2.length:Int)) (lB)) h SF (a_.ix [0,1,2,3,5,6,7,8,9,10,11] Z Z) ?_;intro bh o aj h;refine aX<|cM Z<|aN<|aK ?_;refine fD h Z (λh=>?_) λh=>?_
     ·refine cL<|aK<|CR (B:=fO) (λae=>zZ G o (bI (pD U s G R p3 p4) bh) ae=some r) (λae aw=>[(3,vP ai),(5,vP T),(19,D),(20,vI (G.2.length:Int)),(21,vI (o.1))]) (λae aw=>[bV T [vS (s.1),u,v,E,D,vI (max o.2.1 (at' G.1 o.1)),L] 134,Ar dD.raw L aw,lK bZ aw ae,bV ai [E,D] 28,bV au [E,D] 28,bV ar [vS (s.1),u,v] 57,bV ah vD1 92,bV ag [E,D] 28,bV af [vS (s.1),u,v] 57,bV N [lB] 35,bV M [lB] 34]) ?_ ?_
      ·refine aT<|aX<|aA Z<|cT h λaa h=>aB (cC Z Z (aE.fact 4 Z) Z Z aa) Z<|aB (b_ Z (aE.fact 4 Z) Z Z aa) Z<|aD Z<|aD Z<|aN<|aK ?_;refine JR.start [0,0,2,6,14,0,32,0,224,480,1022,2047,4095,8191] 11 mixedOrders (by decide +kernel) ?_;refine zBd (by exact rfl) ?_;refine bG Z<|bG Z<|jD Z (bY Z)<|dB Z<|iZ 0 Z<|dB Z<|iZ 3 Z<|bG Z<|cT h λbe h=>bJ Z .nil (jS 3 Z) (aZ Z Z (aE.fact 0 Z) Z Z be) aM.z<|bJ Z .nil (jS 3 Z) (bR Z (aE.fact 0 Z) Z Z Z cR be) aM.z<|jD Z (IZ Z Z)<|bO 11 Z Z<|aB (bY Z) Z<|bX Z<|iC 0 Z Z Z Z Z Z<|aN<|aX<|aA Z<|aB (fX Z (zBb (aE.fact 4 Z) aa.1 aa.2) Z) Z<|aA Z<|aN<|aT<|dX (B:=fO) (uM U G o (bI (pD U s G R p3 p4) bh)) (λK ak=>[(3,vP ai),(5,vP T),(6,vI (o.1)),(19,D),(20,vI (G.2.length:Int)),(21,vI (o.1)),(39,(at' z4 o.1).1),(40,vI ((at' G.2 o.1).length:Int)),(41,vI (K.1))]) (λK ak=>[bV T [vS (s.1),u,v,E,D,vI (max o.2.1 (at' G.1 o.1)),L] 134,Ar dD.raw L ak,lK bZ ak K.2,bV ai [E,D] 28,bV au [E,D] 28,bV ar [vS (s.1),u,v] 57,bV ah vD1 92,bV ag [E,D] 28,bV af [vS (s.1),u,v] 57,bV N [lB] 35,bV M [lB] 34]) ((0:Int),o.2.2) (aj) h SF (a_.refl _) ?_;intro da K ak h;refine aX<|cM Z<|aN<|aK ?_;refine fD h Z (λh=>?_) λh=>?_
       ·refine cL<|aK<|aT<|aX<|cT h λbf h=>aB (aZ Z Z (zBb (aE.fact 4 Z) aa.1 aa.2) Z Z bf) Z<|aB (iX (cs:=[vI ((at' (at' G.2 o.1) K.1).1),vI ((at' (at' G.2 o.1) K.1).2)]) Z (zBb (aE.fact 4 Z) aa.1 aa.2) bS Z Z Z Z bf) Z<|aH (aO.alloc (cs:=VO) Z Z) Z λc9=>bQ 0 (vs:=[vI ((at' (at' G.2 o.1) K.1).1),vI ((at' (at' G.2 o.1) K.1).2)]) Z Z Z Z Z Z<|aN ?_;refine JR.start [0,1,3,7,0,0,32,96,224,0,992,2016,0,0,8192,0,61440,126976,262112,524287,1048575] 19 mixedOrders (by decide +kernel) ?_;refine zBd (by exact rfl) ?_;refine bG Z<|jD Z (bY Z)<|dB Z<|iZ 1 Z<|bG Z<|bG Z<|jD Z (bY Z)<|dB Z<|iZ 1 Z<|bG Z<|cT h λaP h=>eJ (dM 3 Z) λbo=>?_;refine bJ Z (a_.cons 2 Z .nil) .nil (iS 0 Z Z Z Z Z aP.1 (by have q1:=aP.2;have q2:=bo;(try simp only[zA2]at q1);(try simp only[zA2]at q2);(try simp only[zA2]);omega)) aM.z ?_;refine eJ (dM 3 Z) λbp=>bJ Z (a_.cons 2 Z .nil) .nil (mI 0 Z Z bp Z Z aP) aM.z<|mA 4 Z<|dB Z<|iZ 0 Z<|bG Z<|eZ h λax cS h=>zBc Z Z Z (zBa Ys (Fb U E D z4 ax cS) Z (mT [3,4] Z)) Z (λc1=>(uB [([2],[]),([2],[]),([1],[]),([1],[])] Z)) λc1=>zBc Z Z Z (cA (e:=bZ) ([ax]) [(0,vI (ax))] Z Z Z Z (l_ (vI (ax)) Z) Z Z Z) Z (λcv=>(uB [([3],[]),([3],[]),([2],[]),([2],[])] Z)) λcv=>cT h λcj h=>zBc Z Z Z (oL 4 dK Z Z Z (bB (aE.res 0 Z) dK) Z Z Z Z aP cj Z) Z (λbn=>(uB [([2],[])] Z)) λbn=>bO 19 Z Z<|cT h λab h=>cH (dM 4 Z) λbq=>?_;refine aB (iS 3 Z Z Z Z Z ab.1 (by have q1:=ab.2;have q2:=bq;(try simp only[zA2]at q1);(try simp only[zA2]at q2);(try simp only[zA2]);omega)) Z ?_;refine cH (Aj 4 (k:=o.1) Z ⟨ab.1,by first|exact ab.2|simpa using ab.2⟩) λbU=>?_;refine pI 3 4 ⟨ab.1,by first|exact ab.2|simpa using ab.2⟩ Z Z Z Z Z (by simp) bU Z ?_;refine eM<|mN<|aQ<|cJ Z<|aA Z<|aN ?_;exact lS ((wI .i64 (K.1+(1:Int))),(List.set K.2 (Int.toNat o.1) ((at' K.2 o.1)++[ax]))) (List.set ak (Int.toNat o.1) bn) h SF (a_.ix [2,3,4,5,6,7,8,9,10,11,12] Z Z) (aG.refl _ _)
       refine pH<|d_<|d_<|u_<|mN ?_;exact gJ (K.2) (ak) h SF Z
      intro ae aw h;unfold zZ at h;refine aQ<|cJ Z<|aA Z<|aN ?_;exact xR ((wI .i64 (o.1+(1:Int))),(max o.2.1 (at' G.1 o.1)),ae) (aw) h SF Z
     refine e_ ?_;exact cF (o.2.1,o.2.2) (aj) h SF (a_.ix [0,1,2,4,5,6,7,8,9,10] Z Z) (aG.refl _ _)
    intro X av h;unfold vJ at h;refine aX<|aA Z<|aD Z<|aN<|aV ?_;exact sL (X.1,X.2) (T,L,av) h (.inl Z) (GX.r1 Z (RV.tmp Z)) Z (a_.refl _) (aG.refl _ _)
   intro S I h;unfold Bj at h;refine bJ Z (a_.cons 4 Z .nil) .nil (fJ 0 Z Z Z Z) (aM.h (a_.ix [1] Z Z) .nil aM.z)<|bJ Z (a_.cons 3 Z .nil) .nil (fJ 0 Z Z Z Z) (aM.h (a_.ix [0] Z Z) .nil aM.z)<|eZ h λbm cQ h=>zBc Z Z Z (zBa S_ (BK U u v E D z4 bm cQ) Z (mT [0,1,2,3,4] Z)) Z (λay=>(uB [([6],[])] Z)) λay=>bO 7 Z Z<|cH (Know.one (aE.sl (bW (i:=0) (j:=1) Z Z bS))) λbP=>?_;refine aB (NU (r:=Value.agg #[vS (s.1),u,v,Value.pointer (some ⟨I.1,0,none⟩),ay.1]) Z Z Z (by intro w;simp[Instr.build,Instr.fill,dR,cW,cO,dU,dV,cX,eY,eO bP])) Z ?_;refine aH (aO.box (cs:=[vS (s.1),u,v,vP I.1,ay.1]) Z Z) Z λb0=>aD Z<|aN<|aV ?_;exact sL (bm,S.1,S.2) (b0,I.1,ay.1,ay.2,I.2.1,I.2.2) h (.inl Z) (GX.r1 Z (RV.tmp Z)) Z (a_.ix [0,1,2,3,4,5,8,9,10,11,12] Z Z) (aG.refl _ _)
  intro P t h;unfold Bi at h;refine bJ Z (a_.cons 7 Z .nil) .nil (fJ 0 Z Z Z Z) (aM.h (a_.ix [1] Z Z) .nil aM.z)<|eZ h λbl cN h=>zBc Z Z Z (zBa aeY (Jy U E D z4 bl cN) Z (mT [3,4] Z)) Z (λa0=>(uB [] Z)) λa0=>jD Z (fY Z)<|bJ Z (a_.cons 8 Z .nil) .nil (fJ 0 Z Z Z Z) (aM.h (a_.ix [7] Z Z) .nil (aM.h (a_.ix [1] Z Z) .nil aM.z))<|eZ h λaU cP h=>zBc Z Z Z (zBa aeZ (RA U E D z4 aU cP) Z (mT [3,4] Z)) Z (λc0=>(uB [] Z)) λc0=>jD Z (fY Z)<|bO 9 Z Z<|cH (Know.one ((bB (aE.res 0 Z) wS))) λbK=>?_;refine aB (Y.bld5 (r:=Value.agg #[Value.pointer (some ⟨t.1,0,none⟩),a0,vI (R),vU (aU),Value.func (.func 48) #[] #[Value.pointer (some ⟨M,0,none⟩),Value.pointer (some ⟨N,0,none⟩)]]) Z Z Z Z Z (by intro w;simp[Instr.build,Instr.fill,dR,cW,cO,dU,dV,cX,eY,eO bK])) Z ?_;refine cH (Know.one ((bB (aE.res 0 Z) wS))) λbL=>bQ 7 (vs:=[vP t.1,a0,vI (R),vU (aU),Value.func (.func 48) #[] #[vP M,vP N]]) Z Z (lN Z (lN bL (lN Z (lN Z (lN Z Z))))) Z Z Z<|aN<|aV ?_;exact sL (aU,bl,P.1,P.2.1,P.2.2) (t.1,a0,t.2.1,t.2.2.1,t.2.2.2.1,t.2.2.2.2.1,t.2.2.2.2.2) h (.inl Z) (GX.r1 Z (RV.cell 7 Z Z Z Z)) Z (a_.ix [0,1,2,3,4,5,6,10,11] Z Z) (aG.refl _ _)
 intro g a h;refine aH (aO.alloc (cs:=vD1) Z Z) Z λdi=>cH (Know.one ((bB (aE.res 1 Z) wS))) λb3=>bQ 0 (vs:=[vP a.1,a.2.1,vI (R),vU (g.1),Value.func (.func 48) #[] #[vP M,vP N]]) Z Z (lN Z (lN b3 (lN Z (lN Z (lN Z Z))))) Z Z Z<|aN<|aK<|aX<|dN 0 Z<|aA Z<|aA Z<|Bp (A:=adV) (B:=Value×Value×Value×Value×Value×List Value×List Value×List (List Value)) (vs:=[Value.agg #[vP a.1,a.2.1,vI (R),vU (g.1),Value.func (.func 48) #[] #[vP M,vP N]],v5,v7]) (λJ=>HO  J=some r) (λJ F=>Value.tuple #[Value.agg #[F.1,F.2.1,F.2.2.1,vI (J.1),vI (J.2.1),vI (J.2.2.1),vI (J.2.2.2.1),vU (J.2.2.2.2.1)],vI (J.2.2.2.2.2.1)]) (λJ F=>[Ar cE F.2.2.2.1 J.2.2.2.2.2.2.2.2.2.1,Mh bZ F.2.2.2.2.2.2.1 F.2.2.2.2.2.2.2 J.2.2.2.2.2.2.2.2.2.2,Ar dD.raw F.2.2.2.2.1 F.2.2.2.2.2.2.1,bV N [F.2.2.2.1] 35,bV M [F.2.2.2.2.1] 34,Ar qD F.1 J.2.2.2.2.2.2.1,Ar qD F.2.1 J.2.2.2.2.2.2.2.1,Ar dD.raw F.2.2.1 F.2.2.2.2.2.1,lK bZ F.2.2.2.2.2.1 J.2.2.2.2.2.2.2.2.1]) (λJ F=>[Sl aS u s.2.1,Sl aL v s.2.2,PF (Value.agg #[vS s.1,u,v]),Sl bN E G.1,S2 bA D z4 G.2,S2 bN v5 z6 p3,Sl Ak v7 p4,Gb 0 (cellsOf Ig xO)]) (sN.fn (show aW Tryz.prog 50 from Tryz.call50) Z) Tryz.func50 Z Tryz.ntmps50 Z Z ?_ ?_
 ·refine aX<|aH (aO.box (cs:=[vP a.1,a.2.1,vI (R),vU (g.1),Value.func (.func 48) #[] #[vP M,vP N]]) Z Z) Z λao=>cH (Know.one ((aE.fact 6 Z))) λb9=>?_;refine aH (aO.box (cs:=[v7]) Z (by rw[eO b9])) Z λap=>?_;refine aH (aO.alloc (cs:=RR) Z Z) Z λa1=>aD Z<|aN<|aX<|dN 2 Z<|aA Z<|dQ 1 Z<|jN (aE.fact 6 Z) Z<|aB (zG (cs:=[.tmp 3,.tmp 5]) (vs:=[vP ao,vP ap]) Z) Z<|Bp (A:=adW) (B:=Value×Value×List Value×List (List Value)×Value×Value×Value×List Value) (vs:=[Value.agg #[vP a.1,a.2.1,vI (R),vU (g.1),Value.func (.func 48) #[] #[vP M,vP N]],v5,vI (p4.length:Int),Value.func (.func 79) #[] #[vP ao,vP ap]]) (λy=>Bh  y=some r) (λy C=>Value.tuple #[Value.agg #[C.2.2.2.2.1,C.2.2.2.2.2.1,C.2.2.2.2.2.2.1,vI (y.2.2.2.2.2.1),vI (y.2.2.2.2.2.2.1),vI (y.2.2.2.2.2.2.2.1),vI (y.2.2.2.2.2.2.2.2.1),vU (y.2.2.2.2.2.2.2.2.2.1)],vI (y.2.2.2.2.2.2.2.2.2.2)]) (λy C=>[Ar cE C.1 y.1,Mh bZ C.2.2.1 C.2.2.2.1 y.2.1,Ar dD.raw C.2.1 C.2.2.1,bV a1 RR 72,bV N [C.1] 35,bV M [C.2.1] 34,Ar qD C.2.2.2.2.1 y.2.2.1,Ar qD C.2.2.2.2.2.1 y.2.2.2.1,Ar dD.raw C.2.2.2.2.2.2.1 C.2.2.2.2.2.2.2,lK bZ C.2.2.2.2.2.2.2 y.2.2.2.2.1]) (λy C=>[Sl aS u s.2.1,Sl aL v s.2.2,PF (Value.agg #[vS s.1,u,v]),Sl bN E G.1,S2 bA D z4 G.2,S2 bN v5 z6 p3,Sl Ak v7 p4,Gb 0 (cellsOf Ig xO)]) (sN.fn (show aW Tryz.prog 78 from Tryz.call78) Z) Tryz.func78 Z Tryz.ntmps78 Z Z ?_ ?_
  ·refine aX<|aH (aO.box (cs:=[vP a.1,a.2.1,vI (R),vU (g.1),Value.func (.func 48) #[] #[vP M,vP N]]) Z Z) Z λa4=>aH (aO.alloc (cs:=RR) Z Z) Z λaC=>aD Z<|aN<|aX<|aH (aO.alloc (cs:=RR) Z Z) Z λaF=>aN<|aX<|aA Z<|eZ h λa2 c2 h=>aH (zBa Od (Ac U v5 z6 a2 c2) Z (mT [5] Z)) Z λad=>aD Z<|aN<|aK ?_;refine JR.start [0,1,0,7,0,16,63,127] 6 mixedOrders (by decide +kernel) ?_;refine zBd (by exact rfl) ?_;refine dB Z<|iZ 4 Z<|bG Z<|eZ h λaq c3 h=>zBc Z Z Z (zBa SX (qY U a.1 u v a.2.2.1 u v E D z4 a.2.2.2.2.2.1 (List.zip a.2.2.2.2.2.2 g.2.2.2.2) a.2.2.2.1 (List.zip a.2.2.2.2.1 g.2.2.1) ad.1 (List.zip ad.2 a2) aq c3) Z (aG.cons (aE.res 10 Z) (aG.cons (aE.fact 0 Z) (aG.cons (aE.fact 1 Z) (aG.cons (aE.res 13 Z) (aG.cons (aE.fact 0 Z) (aG.cons (aE.fact 1 Z) (aG.cons (aE.fact 3 Z) (aG.cons (aE.fact 4 Z) (aG.cons (bW (i:=14) (j:=15) Z Z dK) (aG.cons (bW (i:=11) (j:=12) Z Z bS) (aG.cons (bW (i:=0) (j:=1) Z Z dK) .nil)))))))))))) Z (λc5=>(uB [] Z)) λc5=>jD Z (c_ Z Z Z Z Z)<|bJ Z (a_.cons 4 Z .nil) .nil (eB 0 Z Z Z Z Z) (aM.h (a_.ix [4] Z Z) .nil aM.z)<|bO 6 Z Z<|AT Z<|aD Z<|aN<|aX<|aA Z<|eZ h λm c4 h=>aH (zBa aby (Jw U  m c4) Z .nil) Z λdl=>aH (aO.alloc (cs:=vD2) Z Z) Z λaI=>bQ 0 (vs:=[vI (m.1),vI (m.2.1),vI (m.2.2.1),vI (m.2.2.2.1),vU (m.2.2.2.2)]) Z Z Z Z Z Z<|aN<|aX<|bX Z<|dQ 5 Z<|aA Z<|aA Z<|dN 0 Z<|Bp (A:=AU) (B:=Value×Value×List Value×List (List Value)) (vs:=[ad.1,vU (eK .u32 aq g.1),Value.agg #[vI (m.1),vI (m.2.1),vI (m.2.2.1),vI (m.2.2.2.1),vU (m.2.2.2.2)],vP M,vP N]) (λaz=>DI U s G R p4 g a2 aq m az=some r) (λaz V=>Value.tuple #[]) (λaz V=>[Ar cE V.1 (([]:Ef)++([(m.1,m.2.1,m.2.2.1,m.2.2.2.1,m.2.2.2.2)])),Mh bZ V.2.2.1 V.2.2.2 az,Ar dD.raw V.2.1 V.2.2.1,bV aI [vI (m.1),vI (m.2.1),vI (m.2.2.1),vI (m.2.2.2.1),vU (m.2.2.2.2)] 47,Ar dD.raw ad.1 ad.2,lK bZ ad.2 a2,bV aF RR 72,bV aC RR 72,bV a4 [vP a.1,a.2.1,vI (R),vU (g.1),Value.func (.func 48) #[] #[vP M,vP N]] 92,bV a1 RR 72,bV ap [v7] 25,bV ao [vP a.1,a.2.1,vI (R),vU (g.1),Value.func (.func 48) #[] #[vP M,vP N]] 92,Ar qD a.2.1 g.2.1,bV a.1 [vS (s.1),u,v,vP a.2.2.1,a.2.2.2.1] 106,Ar dD.raw a.2.2.2.1 a.2.2.2.2.1,lK cG a.2.2.2.2.1 g.2.2.1,bV a.2.2.1 [vS (s.1),u,v,E,D,vI (g.2.2.2.1),a.2.2.2.2.2.1] 134,Ar dD.raw a.2.2.2.2.2.1 a.2.2.2.2.2.2,lK bZ a.2.2.2.2.2.2 g.2.2.2.2,bV N [V.1] 35,bV M [V.2.1] 34]) (λaz V=>[Sl aS u s.2.1,Sl aL v s.2.2,PF (Value.agg #[vS s.1,u,v]),Sl bN E G.1,S2 bA D z4 G.2,S2 bN v5 z6 p3,Sl Ak v7 p4,Gb 0 (cellsOf Ig xO)]) (Ih (us:=[ad.1,vU (eK .u32 aq g.1),Value.agg #[vI (m.1),vI (m.2.1),vI (m.2.2.1),vI (m.2.2.2.1),vU (m.2.2.2.2)]]) (cs:=[vP M,vP N]) (show aW Tryz.prog 48 from Tryz.call48) Z Z Z) Tryz.func48 Z Tryz.ntmps48 Z Z ?_ ?_
   ·refine aX<|aH (aO.box (cs:=[vI (m.1),vI (m.2.1),vI (m.2.2.1),vI (m.2.2.2.1),vU (m.2.2.2.2)]) Z Z) Z λc7=>aN<|aK ?_;refine JR.start [0,0,2,6,15,31] 4 mixedOrders (by decide +kernel) ?_;refine zBd (by exact rfl) ?_;refine iZ 19 Z<|bG Z<|eZ h λbk cK h=>zBc Z Z Z (zBa Od (Ac U ad.1 (List.zip ad.2 a2) bk cK) Z (aG.cons (bW (i:=2) (j:=3) Z Z dK) .nil)) Z (λan=>(uB [([21],[])] Z)) λan=>eJ (Know.one (aE.sl (bW (i:=0) (j:=1) Z Z dK))) λba=>JR.stp (Bt bZ)<|JR.stp (Ut 1 2 Z Z Z)<|JR.stp (Kv 0 1 Z Z Z) ?_;refine zBc Z Z Z (cA (e:=dD.raw) (([]:fO)++[an.1]) [(0,an.1)] Z Z Z Z (l_ (an.1) ba) Z Z (by simp[cellsOf,dD.raw,ba])) Z (λcr=>(uB [([21],[])] Z)) λcr=>?_;refine bO 4 Z Z<|jL (gN dD.raw) (jL (Bt bZ) ?_);refine cH (xP 0 Z) λa7=>cH (xP 3 Z) λa8=>cT h λbd h=>jL (Kw 0 3 Z Z Z) ?_;refine aH (aO.append 1 2 Z Z Z Z Z Z Z (by have q:=bd;have q1:=a7;have q2:=a8;(try simp only[zAh,List.length_nil,zAi]at q q1 q2 ⊢);omega) (by have q:=bd;have q1:=a7;have q2:=a8;(try simp only[zAh,List.length_nil,zAi]at q q1 q2 ⊢);omega) Z) Z λct=>?_;refine cH (Kq 1 Z) λbE=>iC 22 Z Z bE Z Z Z<|aN<|aQ<|dQ 21 Z<|dN 3 Z<|aH (cA (e:=cE) ([((m.1,m.2.1,m.2.2.1,m.2.2.2.1,m.2.2.2.2))]) [(0,Value.agg #[vI (m.1),vI (m.2.1),vI (m.2.2.1),vI (m.2.2.2.1),vU (m.2.2.2.2)])] Z Z Z Z (Qw (vI (m.1)) (vI (m.2.1)) (vI (m.2.2.1)) (vI (m.2.2.2.1)) (vU (m.2.2.2.2))) Z Z Z) Z λde=>jL (gN cE)<|cT h λch h=>aH (eW 0 jA Z Z Z (bB (aE.res 1 Z) jA) Z Z Z Z ch Z) Z λcu=>cH (Know.one ((bB (aE.res 0 Z) jA))) λbH=>iC 23 Z Z bH Z Z Z<|eM ?_;exact sL (([]:AU)++(([]:AU)++[bk])) (cu,ct,(([]:fO)++(([]:fO)++[an.1])),(([]:List (List Value))++(([]:List (List Value))++[an.2]))) h (.inr Z) (GX.r0 Z) Z (a_.ix [0,2,3,6,7,8,9,10,11,12,13,14,16,17,18,19,20,21,22,23,24] Z Z) (aG.refl _ _)
   intro az V h;refine aN<|aX<|bX Z<|dQ 6 Z<|aA Z<|aH (cA (e:=qD) ([(eK .u32 aq g.1)]) [(0,vU (eK .u32 aq g.1))] Z Z Z Z (l_ (vU (eK .u32 aq g.1)) Z) Z Z Z) Z λdk=>jL (gN qD)<|cT h λcd h=>aH (eW 0 wS Z Z Z (bB (aE.res 1 Z) wS) Z Z Z Z cd Z) Z λcl=>bX Z<|cH (Know.one ((bB (aE.res 0 Z) wS))) λbr=>iC 8 Z Z br Z Z Z<|aN<|aK<|CR (B:=Value×List Value×Value×Value×Value×Value×List Value×List (List Value)) (λn=>yP  n=some r) (λn p=>[(1,p.1),(8,vP aC),(10,vP aF),(12,vP aI)]) (λn p=>[Ar qD p.2.2.2.1 n.1,Ar cE p.2.2.2.2.1 n.2.2.2.2.2.2.2.2.1,Mh bZ p.2.2.2.2.2.2.1 p.2.2.2.2.2.2.2 n.2.2.2.2.2.2.2.2.2,Ar dD.raw p.2.2.2.2.2.1 p.2.2.2.2.2.2.1,bV aI [vI (n.2.1),vI (n.2.2.1),vI (n.2.2.2.1),vI (n.2.2.2.2.1),vU (n.2.2.2.2.2.1)] 47,Ar dD.raw p.1 p.2.1,lK bZ p.2.1 n.2.2.2.2.2.2.1,bV aF [p.2.2.1,p.2.2.2.1,lB,vI (0:Int),vI (0:Int),vI (0:Int),vI (0:Int),vU (0:Int)] 72,bV aC RR 72,bV a1 RR 72,bV N [p.2.2.2.2.1] 35,bV M [p.2.2.2.2.2.1] 34,Ar qD p.2.2.1 n.2.2.2.2.2.2.2.1]) ?_ ?_
   ·refine aX<|aA Z<|aA Z<|aN<|aT<|jL (gN qD)<|dX (B:=Value×List Value×Value×Value×Value×Value×List Value×List (List Value)) (uL U s G R p4 g) (λb d=>[(1,d.1),(3,Value.func (.func 79) #[] #[vP ao,vP ap]),(4,vP a4),(8,vP aC),(10,vP aF),(11,vU (b.1)),(12,vP aI),(39,vI (p4.length:Int)),(40,vI (b.2.2.1))]) (λb d=>[Ar qD d.2.2.2.1 b.2.1,Ar cE d.2.2.2.2.1 b.2.2.2.2.2.2.2.2.2.2.1,Mh bZ d.2.2.2.2.2.2.1 d.2.2.2.2.2.2.2 b.2.2.2.2.2.2.2.2.2.2.2,Ar dD.raw d.2.2.2.2.2.1 d.2.2.2.2.2.2.1,bV aI [vI (b.2.2.2.1),vI (b.2.2.2.2.1),vI (b.2.2.2.2.2.1),vI (b.2.2.2.2.2.2.1),vU (b.2.2.2.2.2.2.2.1)] 47,Ar dD.raw d.1 d.2.1,lK bZ d.2.1 b.2.2.2.2.2.2.2.2.1,bV aF [d.2.2.1,d.2.2.2.1,lB,vI (0:Int),vI (0:Int),vI (0:Int),vI (0:Int),vU (0:Int)] 72,bV aC RR 72,bV a4 [vP a.1,a.2.1,vI (R),vU (g.1),Value.func (.func 48) #[] #[vP M,vP N]] 92,bV a1 RR 72,bV ap [v7] 25,bV ao [vP a.1,a.2.1,vI (R),vU (g.1),Value.func (.func 48) #[] #[vP M,vP N]] 92,Ar qD a.2.1 g.2.1,bV a.1 [vS (s.1),u,v,vP a.2.2.1,a.2.2.2.1] 106,Ar dD.raw a.2.2.2.1 a.2.2.2.2.1,lK cG a.2.2.2.2.1 g.2.2.1,bV a.2.2.1 [vS (s.1),u,v,E,D,vI (g.2.2.2.1),a.2.2.2.2.2.1] 134,Ar dD.raw a.2.2.2.2.2.1 a.2.2.2.2.2.2,lK bZ a.2.2.2.2.2.2 g.2.2.2.2,bV N [d.2.2.2.2.1] 35,bV M [d.2.2.2.2.2.1] 34,Ar qD d.2.2.1 b.2.2.2.2.2.2.2.2.2.1]) ((eK .u32 aq g.1),(([]:aR)++([(eK .u32 aq g.1)])),(0:Int),m.1,m.2.1,m.2.2.1,m.2.2.2.1,m.2.2.2.2,a2,([]:aR),(([]:Ef)++([(m.1,m.2.1,m.2.2.1,m.2.2.2.1,m.2.2.2.2)])),az) (ad.1,ad.2,(lB),cl,V.1,V.2.1,V.2.2.1,V.2.2.2) h SF (a_.ix [1,3,4,5,6,7,8,9,10,11,12,13,14,15,16,17,18,19,20,21,22,23,0] Z Z) ?_;intro bg b d h;refine aX<|cM Z<|aN<|aK ?_;refine fD h Z (λh=>?_) λh=>?_
    ·refine cL<|aK<|aT<|aX<|aA Z<|aD Z<|aN<|aX<|aA Z<|aA Z<|aA Z<|Bp (A:=Int) (B:=Unit) (vs:=[vI (b.2.2.1),vU (b.1),vP ao,vP ap]) (λO=>DJ U s G R g b (bI (uL U s G R p4 g) bg) O=some r) (λO a3=>Value.tuple #[vU (O),vB (decide (b.1≠(0:Int)))]) (λO a3=>[Ar qD d.2.2.2.1 b.2.1,Ar cE d.2.2.2.2.1 b.2.2.2.2.2.2.2.2.2.2.1,Mh bZ d.2.2.2.2.2.2.1 d.2.2.2.2.2.2.2 b.2.2.2.2.2.2.2.2.2.2.2,Ar dD.raw d.2.2.2.2.2.1 d.2.2.2.2.2.2.1,bV aI [vI (b.2.2.2.1),vI (b.2.2.2.2.1),vI (b.2.2.2.2.2.1),vI (b.2.2.2.2.2.2.1),vU (b.2.2.2.2.2.2.2.1)] 47,Ar dD.raw d.1 d.2.1,lK bZ d.2.1 b.2.2.2.2.2.2.2.2.1,bV aF [d.2.2.1,d.2.2.2.1,lB,vI (0:Int),vI (0:Int),vI (0:Int),vI (0:Int),vU (0:Int)] 72,bV aC RR 72,bV a4 [vP a.1,a.2.1,vI (R),vU (g.1),Value.func (.func 48) #[] #[vP M,vP N]] 92,bV a1 RR 72,bV ap [v7] 25,bV ao [vP a.1,a.2.1,vI (R),vU (g.1),Value.func (.func 48) #[] #[vP M,vP N]] 92,Ar qD a.2.1 g.2.1,bV a.1 [vS (s.1),u,v,vP a.2.2.1,a.2.2.2.1] 106,Ar dD.raw a.2.2.2.1 a.2.2.2.2.1,lK cG a.2.2.2.2.1 g.2.2.1,bV a.2.2.1 [vS (s.1),u,v,E,D,vI (g.2.2.2.1),a.2.2.2.2.2.1] 134,Ar dD.raw a.2.2.2.2.2.1 a.2.2.2.2.2.2,lK bZ a.2.2.2.2.2.2 g.2.2.2.2,bV N [d.2.2.2.2.1] 35,bV M [d.2.2.2.2.2.1] 34,Ar qD d.2.2.1 b.2.2.2.2.2.2.2.2.2.1]) (λO a3=>[Sl aS u s.2.1,Sl aL v s.2.2,PF (Value.agg #[vS s.1,u,v]),Sl bN E G.1,S2 bA D z4 G.2,S2 bN v5 z6 p3,Sl Ak v7 p4,Gb 0 (cellsOf Ig xO)]) (Ih (us:=[vI (b.2.2.1),vU (b.1)]) (cs:=[vP ao,vP ap]) (show aW Tryz.prog 79 from Tryz.call79) Z Z Z) Tryz.func79 Z Tryz.ntmps79 Z Z ?_ ?_
     ·refine aX<|aD Z<|aD Z<|aN<|aK ?_;refine JR.start [0,1,0,4,0,0,0,96,224,511,0,1024,1023,8191] 13 mixedOrders (by decide +kernel) ?_;refine zBd (by exact rfl) ?_;refine dB Z<|iZ 12 Z<|dB Z<|iZ 12 Z<|bG Z<|iZ 11 Z<|bG Z<|cT h λbc h=>bJ Z .nil (jS 6 Z) (aZ Z Z (aE.fact 0 Z) Z Z bc) aM.z<|bJ Z .nil (jS 6 Z) (bR Z (aE.fact 0 Z) Z Z Z Im bc) aM.z<|eZ h λbj cI h=>zBc Z Z Z (zBa Yr (yS U a.2.1 bj cI) Z (aG.cons (bB (aE.res 13 Z) wS) (mT [7] Z))) Z (λcY=>(uB [] Z)) λcY=>jD Z (fY Z)<|jD Z (F_ Z Z)<|jD Z (oZ Z)<|bO 13 Z Z<|aD Z<|aN<|aV ?_;exact sL (bj) () h (.inl Z) (GX.r2 Z (RV.tmp Z) (RV.tmp Z)) Z (a_.refl _) (aG.refl _ _)
     intro O a3 h;refine aA Z<|jM Z<|jM Z<|aD Z<|aD Z<|aN<|aK<|aX<|aA Z<|aB (aes Z) Z<|aN ?_;refine fD h Z (λh=>?_) λh=>?_
     ·refine pH<|d_<|aba Z<|d_<|d_<|u_<|AV ?_;exact cF (b.2.1,b.2.2.2.1,b.2.2.2.2.1,b.2.2.2.2.2.1,b.2.2.2.2.2.2.1,b.2.2.2.2.2.2.2.1,b.2.2.2.2.2.2.2.2.1,b.2.2.2.2.2.2.2.2.2.1,b.2.2.2.2.2.2.2.2.2.2.1,b.2.2.2.2.2.2.2.2.2.2.2) (d.1,d.2.1,d.2.2.1,d.2.2.2.1,d.2.2.2.2.1,d.2.2.2.2.2.1,d.2.2.2.2.2.2.1,d.2.2.2.2.2.2.2) h SF (a_.ix [0,1,2,3,4,5,6,7,8,10,20,21,22] Z Z) (aG.refl _ _)
     refine cL<|aK<|aX<|bX Z<|dQ 9 Z<|bX Z<|dQ 9 Z<|aA Z<|aA Z<|eZ h λck cw h=>aH (zBa UC (yR U a.2.1 ck cw) Z (aG.cons (bB (aE.res 13 Z) wS) (mT [7] Z))) Z λdg=>aB (lU Z) Z<|aN ?_;refine Am h Z (λ_ h=>?_) λ_ h=>?_
     ·refine aX ?_;refine aB (Io (r:=Value.agg #[lB,lB,lB,vI (0:Int),vI (0:Int),vI (0:Int),vI (0:Int),vU (0:Int)]) (by intro w;simp[Instr.build,Instr.fill,dR,cW,cO,dU,dV,cX,eY])) Z ?_;refine bQ 8 (vs:=RR) Z Z Z Z Z Z<|aD Z<|aN<|aV<|aJ<|bM<|aJ<|aJ<|bM<|aJ<|jL (gN qD)<|jL (gN qD)<|jL (gN dD.raw) (jL (Ew bZ) ?_);exact sL (b.2.2.2.2.2.2.2.2.2.2.1,b.2.2.2.2.2.2.2.2.2.2.2,([]:aR),([]:aR),([]:bF),(0:Int),(0:Int),(0:Int),(0:Int),(0:Int),(11:Int)) (d.2.2.2.2.1,d.2.2.2.2.2.1,d.2.2.2.2.2.2.1,d.2.2.2.2.2.2.2,(lB),(lB),(lB),([]:fO)) h (.inl Z) (GX.r2 Z (RV.cell 12 Z Z Z Z) (RV.tmp Z)) Z (a_.ix [5,6,7,14,24,25,2,3,1,0] Z Z) (aG.refl _ _)
     refine cL<|aX<|bX Z<|dQ 9 Z<|aA Z<|aA Z<|eZ h λal cx h=>aH (zBa abz (EZ U a.1 u v a.2.2.1 u v E D z4 a.2.2.2.2.2.1 (List.zip a.2.2.2.2.2.2 g.2.2.2.2) a.2.2.2.1 (List.zip a.2.2.2.2.1 g.2.2.1) d.1 (List.zip d.2.1 b.2.2.2.2.2.2.2.2.1) al cx) Z (aG.cons (aE.res 14 Z) (aG.cons (aE.fact 0 Z) (aG.cons (aE.fact 1 Z) (aG.cons (aE.res 17 Z) (aG.cons (aE.fact 0 Z) (aG.cons (aE.fact 1 Z) (aG.cons (aE.fact 3 Z) (aG.cons (aE.fact 4 Z) (aG.cons (bW (i:=18) (j:=19) Z Z dK) (aG.cons (bW (i:=15) (j:=16) Z Z bS) (aG.cons (bW (i:=5) (j:=6) Z Z dK) .nil)))))))))))) Z λQ=>aD Z<|aN<|aK ?_;refine JR.start [0,1,0,7,0,16,63,127] 6 mixedOrders (by decide +kernel) ?_;refine zBd (by exact rfl) ?_;refine dB Z<|iZ 11 Z<|bG Z<|eZ h λW cy h=>zBc Z Z Z (zBa SX (qY U a.1 u v a.2.2.1 u v E D z4 a.2.2.2.2.2.1 (List.zip a.2.2.2.2.2.2 g.2.2.2.2) a.2.2.2.1 (List.zip a.2.2.2.2.1 g.2.2.1) Q.1 (List.zip Q.2 al) W cy) Z (aG.cons (aE.res 16 Z) (aG.cons (aE.fact 0 Z) (aG.cons (aE.fact 1 Z) (aG.cons (aE.res 19 Z) (aG.cons (aE.fact 0 Z) (aG.cons (aE.fact 1 Z) (aG.cons (aE.fact 3 Z) (aG.cons (aE.fact 4 Z) (aG.cons (bW (i:=20) (j:=21) Z Z dK) (aG.cons (bW (i:=17) (j:=18) Z Z bS) (aG.cons (bW (i:=0) (j:=1) Z Z dK) .nil)))))))))))) Z (λcV=>(uB [] Z)) λcV=>jD Z (c_ Z Z Z Z Z)<|bJ Z (a_.cons 11 Z .nil) .nil (eB 0 Z Z Z Z Z) (aM.h (a_.ix [11] Z Z) .nil aM.z)<|bO 6 Z Z<|AT Z<|aD Z<|aN<|aX<|dN 6 Z<|aA Z<|aA Z<|eZ h λf cz h=>aH (zBa abA (Mq U  f cz) Z .nil) Z λdh=>aA Z<|jM Z<|jM Z<|bQ 6 (vs:=[vI (f.1.1),vI (f.1.2.1),vI (f.1.2.2.1),vI (f.1.2.2.2.1),vU (f.1.2.2.2.2)]) Z Z Z Z Z Z<|aN<|aX<|bX Z<|dQ 11 Z<|aA Z<|aA Z<|dN 6 Z<|Bp (A:=AU) (B:=Value×Value×List Value×List (List Value)) (vs:=[Q.1,vU (eK .u32 W g.1),Value.agg #[vI (f.1.1),vI (f.1.2.1),vI (f.1.2.2.1),vI (f.1.2.2.2.1),vU (f.1.2.2.2.2)],vP M,vP N]) (λac=>DK g b (bI (uL U s G R p4 g) bg) O al W f ac=some r) (λac H=>Value.tuple #[]) (λac H=>[Ar dD.raw Q.1 Q.2,lK bZ Q.2 al,Ar qD d.2.2.2.1 b.2.1,Ar cE H.1 (b.2.2.2.2.2.2.2.2.2.2.1++([(f.1.1,f.1.2.1,f.1.2.2.1,f.1.2.2.2.1,f.1.2.2.2.2)])),Mh bZ H.2.2.1 H.2.2.2 ac,Ar dD.raw H.2.1 H.2.2.1,bV aI [vI (f.1.1),vI (f.1.2.1),vI (f.1.2.2.1),vI (f.1.2.2.2.1),vU (f.1.2.2.2.2)] 47,bV aF [d.2.2.1,d.2.2.2.1,lB,vI (0:Int),vI (0:Int),vI (0:Int),vI (0:Int),vU (0:Int)] 72,bV aC RR 72,bV a4 [vP a.1,a.2.1,vI (R),vU (g.1),Value.func (.func 48) #[] #[vP M,vP N]] 92,bV a1 RR 72,bV ap [v7] 25,bV ao [vP a.1,a.2.1,vI (R),vU (g.1),Value.func (.func 48) #[] #[vP M,vP N]] 92,Ar qD a.2.1 g.2.1,bV a.1 [vS (s.1),u,v,vP a.2.2.1,a.2.2.2.1] 106,Ar dD.raw a.2.2.2.1 a.2.2.2.2.1,lK cG a.2.2.2.2.1 g.2.2.1,bV a.2.2.1 [vS (s.1),u,v,E,D,vI (g.2.2.2.1),a.2.2.2.2.2.1] 134,Ar dD.raw a.2.2.2.2.2.1 a.2.2.2.2.2.2,lK bZ a.2.2.2.2.2.2 g.2.2.2.2,bV N [H.1] 35,bV M [H.2.1] 34,Ar qD d.2.2.1 b.2.2.2.2.2.2.2.2.2.1]) (λac H=>[Sl aS u s.2.1,Sl aL v s.2.2,PF (Value.agg #[vS s.1,u,v]),Sl bN E G.1,S2 bA D z4 G.2,S2 bN v5 z6 p3,Sl Ak v7 p4,Gb 0 (cellsOf Ig xO)]) (Ih (us:=[Q.1,vU (eK .u32 W g.1),Value.agg #[vI (f.1.1),vI (f.1.2.1),vI (f.1.2.2.1),vI (f.1.2.2.2.1),vU (f.1.2.2.2.2)]]) (cs:=[vP M,vP N]) (show aW Tryz.prog 48 from Tryz.call48) Z Z Z) Tryz.func48 Z Tryz.ntmps48 Z Z ?_ ?_
     ·refine aX<|aH (aO.box (cs:=[vI (f.1.1),vI (f.1.2.1),vI (f.1.2.2.1),vI (f.1.2.2.2.1),vU (f.1.2.2.2.2)]) Z Z) Z λc6=>aN<|aK ?_;refine JR.start [0,0,2,6,15,31] 4 mixedOrders (by decide +kernel) ?_;refine zBd (by exact rfl) ?_;refine iZ 24 Z<|bG Z<|eZ h λbi cB h=>zBc Z Z Z (zBa Od (Ac U Q.1 (List.zip Q.2 al) bi cB) Z (aG.cons (bW (i:=1) (j:=2) Z Z dK) .nil)) Z (λam=>(uB [([26],[])] Z)) λam=>eJ (Know.one (aE.sl (bW (i:=0) (j:=1) Z Z dK))) λa9=>JR.stp (Bt bZ)<|JR.stp (Ut 1 2 Z Z Z)<|JR.stp (Kv 0 1 Z Z Z) ?_;refine zBc Z Z Z (cA (e:=dD.raw) (([]:fO)++[am.1]) [(0,am.1)] Z Z Z Z (l_ (am.1) a9) Z Z (by simp[cellsOf,dD.raw,a9])) Z (λco=>(uB [([26],[])] Z)) λco=>?_;refine bO 4 Z Z<|cH (xP 7 Z) λa5=>cH (xP 1 Z) λa6=>cT h λbb h=>jL (Kw 7 1 Z Z Z) ?_;refine aH (aO.append 7 0 Z Z Z Z Z Z Z (by have q:=bb;have q1:=a5;have q2:=a6;(try simp only[zAh,List.length_nil,zAi]at q q1 q2 ⊢);omega) (by have q:=bb;have q1:=a5;have q2:=a6;(try simp only[zAh,List.length_nil,zAi]at q q1 q2 ⊢);omega) Z) Z λcp=>?_;refine cH (Kq 7 Z) λbC=>iC 25 Z Z bC Z Z Z<|aN<|aQ<|dQ 24 Z<|dN 1 Z<|aH (cA (e:=cE) ([((f.1.1,f.1.2.1,f.1.2.2.1,f.1.2.2.2.1,f.1.2.2.2.2))]) [(0,Value.agg #[vI (f.1.1),vI (f.1.2.1),vI (f.1.2.2.1),vI (f.1.2.2.2.1),vU (f.1.2.2.2.2)])] Z Z Z Z (Qw (vI (f.1.1)) (vI (f.1.2.1)) (vI (f.1.2.2.1)) (vI (f.1.2.2.2.1)) (vU (f.1.2.2.2.2))) Z Z Z) Z λdd=>cT h λcg h=>aH (eW 6 jA Z Z Z (bB (aE.res 0 Z) jA) Z Z Z Z cg Z) Z λcq=>cH (Know.one ((bB (aE.res 6 Z) jA))) λbD=>iC 25 Z Z bD Z Z Z<|eM ?_;exact sL (b.2.2.2.2.2.2.2.2.2.2.2++(([]:AU)++[bi])) (cq,cp,(d.2.2.2.2.2.2.1++(([]:fO)++[am.1])),(d.2.2.2.2.2.2.2++(([]:List (List Value))++[am.2]))) h (.inr Z) (GX.r0 Z) Z (a_.ix [3,4,5,6,7,8,9,12,13,14,15,16,17,18,19,20,21,22,23,24,25,26,27] Z Z) (aG.refl _ _)
     intro ac H h;refine aN<|aX<|bX Z<|dQ 7 Z<|aA Z<|aH (cA (e:=qD) ([O]) [(0,vU (O))] Z Z Z Z (l_ (vU (O)) Z) Z Z Z) Z λdb=>cT h λce h=>aH (eW 23 wS Z Z Z (bB (aE.res 0 Z) wS) Z Z Z Z ce Z) Z λcm=>bX Z<|cH (Know.one ((bB (aE.res 23 Z) wS))) λbx=>iC 8 Z Z bx Z Z Z<|aN<|aQ<|bX Z<|dQ 8 Z<|aA Z<|aH (cA (e:=qD) ([(eK .u32 W g.1)]) [(0,vU (eK .u32 W g.1))] Z Z Z Z (l_ (vU (eK .u32 W g.1)) Z) Z Z Z) Z λdc=>cT h λcf h=>aH (eW 4 wS Z Z Z (bB (aE.res 0 Z) wS) Z Z Z Z cf Z) Z λcn=>bX Z<|cH (Know.one ((bB (aE.res 4 Z) wS))) λbz=>iC 9 Z Z bz Z Z Z<|eM<|mN<|aQ<|cJ Z<|aA Z<|aN ?_;exact lS ((eK .u32 W g.1),(b.2.1++([(eK .u32 W g.1)])),(wI .i64 (b.2.2.1+(1:Int))),f.1.1,f.1.2.1,f.1.2.2.1,f.1.2.2.2.1,f.1.2.2.2.2,al,(b.2.2.2.2.2.2.2.2.2.1++[O]),(b.2.2.2.2.2.2.2.2.2.2.1++([(f.1.1,f.1.2.1,f.1.2.2.1,f.1.2.2.2.1,f.1.2.2.2.2)])),ac) (Q.1,Q.2,cm,cn,H.1,H.2.1,H.2.2.1,H.2.2.2) h SF (a_.ix [4,5,6,7,8,2,3,9,10,11,12,13,14,15,16,17,18,19,20,21,22,23,24] Z Z) (aG.refl _ _)
    refine e_ ?_;exact cF (b.2.1,b.2.2.2.1,b.2.2.2.2.1,b.2.2.2.2.2.1,b.2.2.2.2.2.2.1,b.2.2.2.2.2.2.2.1,b.2.2.2.2.2.2.2.2.1,b.2.2.2.2.2.2.2.2.2.1,b.2.2.2.2.2.2.2.2.2.2.1,b.2.2.2.2.2.2.2.2.2.2.2) (d.1,d.2.1,d.2.2.1,d.2.2.2.1,d.2.2.2.2.1,d.2.2.2.2.2.1,d.2.2.2.2.2.2.1,d.2.2.2.2.2.2.2) h SF (a_.ix [0,1,2,3,4,5,6,7,8,10,20,21,22] Z Z) (aG.refl _ _)
   intro n p h;unfold yP at h;refine aK ?_;refine JR.start [0,0,1,5,15,31] 4 mixedOrders (by decide +kernel) ?_;refine zBd (by exact rfl) ?_;refine bG Z<|mA 4 Z<|dB Z<|eJ (Know.one (aE.sl (bW (i:=5) (j:=6) Z Z dK))) λbs=>Es Z Z Z (PC 7 Z Z bs Z Z Z) (λcU=>(uB [([4],[])] Z)) λcU=>bO 4 Z Z<|bX Z<|Uq (Kr 7 (us:=[vI (n.2.1),vI (n.2.2.1),vI (n.2.2.2.1),vI (n.2.2.2.2.1),vU (n.2.2.2.2.2.1)]) Z Z Z Z Z Z Z Z Z) λdf=>aN<|aX<|dN 7 Z<|cH (Know.one ((bB (aE.res 12 Z) wS))) λbt=>cH (Know.one ((bB (aE.res 0 Z) wS))) λbu=>cH (Know.one (aE.sl (bW (i:=5) (j:=6) Z Z dK))) λbw=>bQ 8 (vs:=[p.2.2.1,p.2.2.2.1,p.1,vI (n.2.1),vI (n.2.2.1),vI (n.2.2.2.1),vI (n.2.2.2.2.1),vU (n.2.2.2.2.2.1)]) Z Z (lN bt (lN bu (lN bw (lN Z (lN Z (lN Z (lN Z (lN Z Z)))))))) Z Z Z<|aD Z<|aN<|aV ?_;exact sL (n.2.2.2.2.2.2.2.2.1,n.2.2.2.2.2.2.2.2.2,n.2.2.2.2.2.2.2.1,n.1,n.2.2.2.2.2.2.1,n.2.1,n.2.2.1,n.2.2.2.1,n.2.2.2.2.1,n.2.2.2.2.2.1,(0:Int)) (p.2.2.2.2.1,p.2.2.2.2.2.1,p.2.2.2.2.2.2.1,p.2.2.2.2.2.2.2,p.2.2.1,p.2.2.2.1,p.1,p.2.1) h (.inl Z) (GX.r2 Z (RV.cell 8 Z Z Z Z) (RV.tmp Z)) Z (a_.ix [1,2,3,9,10,11,12,0,5,6] Z Z) (aG.refl _ _)
  intro y C h;unfold Bh at h;refine jM Z<|jM Z<|cH (Know.one ((bB (aE.res 6 Z) wS))) λca=>cH (Know.one ((bB (aE.res 7 Z) wS))) λcb=>cH (Know.one (aE.sl (bW (i:=8) (j:=9) Z Z dK))) λcc=>bQ 3 (vs:=[C.2.2.2.2.1,C.2.2.2.2.2.1,C.2.2.2.2.2.2.1,vI (y.2.2.2.2.2.1),vI (y.2.2.2.2.2.2.1),vI (y.2.2.2.2.2.2.2.1),vI (y.2.2.2.2.2.2.2.2.1),vU (y.2.2.2.2.2.2.2.2.2.1)]) Z Z (lN ca (lN cb (lN cc (lN Z (lN Z (lN Z (lN Z (lN Z Z)))))))) Z Z Z<|aD Z<|aN<|aV ?_;exact sL (y.2.2.2.2.2.1,y.2.2.2.2.2.2.1,y.2.2.2.2.2.2.2.1,y.2.2.2.2.2.2.2.2.1,y.2.2.2.2.2.2.2.2.2.1,y.2.2.2.2.2.2.2.2.2.2,y.2.2.1,y.2.2.2.1,y.2.2.2.2.1,y.1,y.2.1) (C.2.2.2.2.1,C.2.2.2.2.2.1,C.2.2.2.2.2.2.1,C.1,C.2.1,C.2.2.2.2.2.2.2,C.2.2.1,C.2.2.2.1) h (.inl Z) (GX.r2 Z (RV.cell 3 Z Z Z Z) (RV.tmp Z)) Z (a_.ix [0,1,2,4,5,6,7,8,9] Z Z) (aG.refl _ _)
 intro J F h;refine aA Z<|jM Z<|jM Z<|aH (aO.alloc (cs:=RR) Z Z) Z λdj=>cH (Know.one ((bB (aE.res 6 Z) wS))) λb4=>cH (Know.one ((bB (aE.res 7 Z) wS))) λb5=>cH (Know.one (aE.sl (bW (i:=8) (j:=9) Z Z dK))) λb6=>bQ 0 (vs:=[F.1,F.2.1,F.2.2.1,vI (J.1),vI (J.2.1),vI (J.2.2.1),vI (J.2.2.2.1),vU (J.2.2.2.2.1)]) Z Z (lN b4 (lN b5 (lN b6 (lN Z (lN Z (lN Z (lN Z (lN Z Z)))))))) Z Z Z<|aD Z<|aN<|aX<|aA Z<|rB Z<|aN ?_;refine fD h Z (λh=>?_) λh=>?_
 ·refine aX<|aA Z<|aD Z<|aD Z<|aD Z<|aN<|aV<|aJ<|jL (gN dD.raw) (jL (Bt bZ) ?_);refine jL (gN cE) ?_;cases h;exact JH ((lB),([]:fO),([]:List (List Value)),(lB)) Z Z (RV.tmp Z) (RV.tmp Z) (RV.tmp Z) (a_.ix [2,1,0] Z Z) aG.nil
 refine cL<|aK ?_;refine JR.start [0,0,1,7,15] 3 mixedOrders (by decide +kernel) ?_;refine zBd (by exact rfl) ?_;refine iZ 5 Z<|iZ 4 Z<|jD Z (oZ Z)<|bO 3 Z Z<|aD Z<|aD Z<|aN<|aV ?_;cases h;exact JH (F.2.2.2.2.1,F.2.2.2.2.2.2.1,F.2.2.2.2.2.2.2,F.2.2.2.1) Z Z (RV.tmp Z) (RV.tmp Z) (RV.tmp Z) (a_.ix [3,2,1] Z Z) aG.nil
end Go.Proofs.YtlkhndebimcbbaaGreatDoor
namespace Go.Proofs.YtlkhndebimcbbaaGreatDoor
open Go Go.Sx
theorem Xg {g:GR} (e:VG g) (p:sW) (b:Int) (c:bF) (o:aR):
  bI (pD 1000 p g b c o) 1000 ((0:Int),(0:Int),(List.replicate (Int.toNat (g.2.length:Int)) ([]:aR)))=vJ 1000 p g b c o (iO g g.2.length,fK g):=by
 have z:=e.n24;have s:=e.len;let f:Nat->aR:=λv=>(List.range (row g v).length).map (Bw g v);let Q:Nat->bF:=λk=>(List.range k).map f++List.replicate (g.2.length - k) [];have q:∀k,k<=g.2.length->(Q k).length=g.2.length:=λk i=>by simp[Q];omega
 rw[show List.replicate (Int.toNat (g.2.length:Int)) ([]:aR)=Q 0 by simp[Q]];refine eL (step:=pD 1000 p g b c o) g.2.length (λk=>((k:Int),iO g k,Q k)) (λk d i=> ?_) (λd=> ?_) 1000 (by omega)
 ·have r:=(e.node k i).deg;have t:k<(Q k).length:=by rw[q k (by omega)];exact i
  unfold pD;dsimp only;rw[if_pos (by omega),cB (by omega),cB (by omega)];let a:Nat->aR:=λj=>(List.range j).map (Bw g k);have y:Q k=(Q k).set k (a 0):=by
   have:at' (Q k) (k:Int)=a 0:=by
    rw[lX t];simp[Q,a]
   rw[<-this];exact(GK (Q k) (k:Int) (by simpa using t) (by omega)).symm
  rw[show(Q k)=(Q k).set k (a 0)from y];have h:∀A:bF,A.length=g.2.length->bI (uM 1000 g ((k:Int),iO g k,(Q k).set k (a 0)) d) 1000 ((0:Int),A.set k (a 0))=d (((k+1:Nat):Int),iO g (k+1),A.set k (f k)):=by
   intro A D;refine eL (step:=uM 1000 g ((k:Int),iO g k,(Q k).set k (a 0)) d) (K:=d (((k+1:Nat):Int),iO g (k+1),A.set k (f k))) (row g k).length (λj=>((j:Int),A.set k (a j))) (λj m C=> ?_) (λm=> ?_) 1000 (by omega)
   ·obtain⟨u,w,l⟩:=e.to i C;have B:=(e.node u w).deg;have x:at' (A.set k (a j)) (k:Int)=a j:=by rw[tE _ _ _ _ (by omega),if_pos Z]
    have n:(a j).length=j:=by simp[a]
    unfold uM;dsimp only;rw[if_pos (show(j:Int)<((row g k).length:Int) by omega),cB (show 0<=(j:Int)∧(j:Int)<((row g k).length:Int) by omega),cB (by simp only[zA2];omega),show at' (at' g.2 (k:Int)) (j:Int)=fQ (row g k) j from rfl,l,bD (show nR 1000 _ (u:Int) (k:Int)=_ from Nl g u (k:Int) w (by omega)),x,cB (by rw[n];simp;omega),cB (by simp only[zA2];omega),fM (by omega),zAd,List.set_set];have:a j++[AM (row g u) (k:Int)]=a (j+1):=by
     simp only[a];rw[List.range_succ,List.map_append,List.map_singleton,Bw,l,zAd]
    rw[this]
   ·unfold uM zZ;dsimp only;rw[if_neg (show¬((row g k).length:Int)<((row g k).length:Int)from Int.lt_irrefl _),fM (by omega)];rfl
  have:=h (Q k) (q k (by omega));rw[vG f [] g.2.length k i]at this;exact this
 ·unfold pD;dsimp only;rw[if_neg (by omega)];simp[Q,fK,f]
noncomputable def KL (p:sW) (vars:List D_) (R:List RL) (g:GR) (kind:Int) (ws:aR) (a:bF):Nat->CT
 |0=>(0,0,0,0,eK .u32 ((qZ (aU p g) R (fI g) a:Nat):Int) 16777215)
 |k+1=>((gO 1000 (KL p vars R g kind ws a k) ((nxt g kind (qZ (aU p g) R (fI g) (DF p vars R g kind ws a k)) (at' ws (k:Int)):Nat):Int) ((qZ (aU p g) R (fI g) (DF p vars R g kind ws a (k+1)):Nat):Int)).getD ((0,0,0,0,0),0)).1
theorem afo (p p':sW) (vars:List D_) (R:List RL) (g:GR) (kind:Int) (ws:aR) (a:bF) (k:Nat):KL p vars R g kind ws a k=KL p' vars R g kind ws a k:=by
 induction k with
 |zero=>rfl
 |succ k b=>rw[KL,KL,b,LE p p',LE p p' vars R g kind ws a (k+1),Qs p p',Qs p p']
section
variable {p:sW} {g:GR} {R:List RL}
theorem aaO (hV:VG g) (hp:tC g p.2.1) (hz:p.2.2.map zJ=En R) (hR:yO p.2.1.length R=true) {kind:Int} (hk1:1<=kind) (hk4:kind<=4) {c0:List (List Int)} (hc0:DY g c0 p.2.1) {ws:List Int} (hws:ws.length<=900) (hw:∀k:Nat,k<ws.length->∃m:Nat,at' ws (k:Int)=(m:Int)∧m<4294967296)
  (P:Nat->List (List Int)->List Nat->CT->Prop) (h0:P 0 c0 [] (0,0,0,0,eK .u32 ((qZ (aU p g) R (fI g) c0:Nat):Int) 16777215))
  (hstep:∀k c ch cnt t cnt' err,k<ws.length->AS g p.2.1.length c->P k c ch cnt->qZ (aU p g) R (fI g) c≠0->t≠0->(∀i,t.testBit i=true->(qZ (aU p g) R (fI g) c).testBit i=true)->(kind<=2->∀v u,t.testBit v=true->t.testBit u=true->¬Db g v u)->(kind=4->t=qZ (aU p g) R (fI g) c)->DF p p.2.1 R g kind ws c0 (k+1)=iP (aU p g) p.2.1 R c t->
   gO 1000 cnt (t:Int) ((qZ (aU p g) R (fI g) (iP (aU p g) p.2.1 R c t):Nat):Int)=some (cnt',err)->cnt'=KL p p.2.1 R g kind ws c0 (k+1)->P (k+1) (iP (aU p g) p.2.1 R c t) (ch++[t]) cnt'):
  ∃k c ch,xG 1000 p g kind c0 ws=some ((List.range (k+1)).map (DF p p.2.1 R g kind ws c0),(List.range (k+1)).map (KL p p.2.1 R g kind ws c0),0)∧P k c ch (KL p p.2.1 R g kind ws c0 k)∧c=DF p p.2.1 R g kind ws c0 k∧k<=ws.length∧(∀j,j<k->qZ (aU p g) R (fI g) (DF p p.2.1 R g kind ws c0 j)≠0)∧(k=ws.length∨qZ (aU p g) R (fI g) c=0):=by
 have h24:=hV.n24;have hvl:=hp.len;let S:=aU p g;have hVS:VG S.2.1:=hV;obtain⟨net,hnet,hN⟩:=afZ hV;have hcheck:Aq 1000 p g kind c0 (ws.length:Int)=some 0:=by
  unfold Aq;rw[bD (show nS 1000 _ _ c0=_ from Ql hV hp hc0),if_neg (by decide)];have:yG 1000 kind=some true:=by
   unfold yG rR;rw[if_pos hk1,zAc hk4]
  rw[bD this,if_neg (by decide),if_neg (by omega)]
 unfold xG;rw[bD (show Aq 1000 _ _ kind c0 _=_ from hcheck),if_neg (by decide),cB (by omega),Xg hV p kind c0 ws];unfold vJ Bj;rw[bD (show kF 1000 _ _=_ from L_ hV hp)];unfold Bi;rw[bD (show oQ 1000 _=_ from hnet),bD (show Ap 1000 _=some ((fI g:Nat):Int)from aet hV)];have hen:∀c,AS g p.2.1.length c->dJ 1000 (p,(p,g,iO g g.2.length,fK g),Ct g p.2.1) c=some ((enD S R c:Nat):Int):=λc hc=>KQ hV hc hz hR (by simp[Ct]);have hand:∀c,eK .u32 ((enD S R c:Nat):Int) ((fI g:Nat):Int)=((qZ S R (fI g) c:Nat):Int):=λc=>EC (afu hVS R c) (abq hV);have hcopy:∀c,AS g p.2.1.length c->mW 1000 c=some c:=λc hc=>UP c (by rw[hc.len];omega) (λv hv=>by rw[hc.row v (by rw[<-hc.len];exact hv)];omega);unfold DG;dsimp only;rw[bD (hcopy c0 hc0.shape),bD (show dJ 1000 _ c0=_ from hen c0 hc0.shape),hand,bD (show wD 1000 _=some (0,0,0,0,eK .u32 ((qZ S R (fI g) c0:Nat):Int) 16777215)from rfl),bD (hcopy c0 hc0.shape),cB (by simp),cB (by simp)];unfold DI;dsimp only;rw[hand,cB (by simp),List.nil_append,List.nil_append,List.nil_append,List.nil_append];let A:Int×List Int×(List (List (Int×Int)))×Int×List (List Int):=(((fI g:Nat):Int),net,Ct g p.2.1,iO g g.2.length,fK g)
 let rc:=DF p p.2.1 R g kind ws c0;let cw:=KL p p.2.1 R g kind ws c0;let T:=List (List (List Int))×List CT×Int;let QQ:T->Prop:=λr=>∃k c ch,r=((List.range (k+1)).map rc,(List.range (k+1)).map cw,0)∧P k c ch (cw k)∧c=rc k∧k<=ws.length∧(∀j,j<k->qZ S R (fI g) (rc j)≠0)∧(k=ws.length∨qZ S R (fI g) c=0)
 have fin:∀(k:Nat) (c:List (List Int)) (ch:List Nat) (ens:List Int),P k c ch (cw k)->c=rc k->k<=ws.length->(∀j,j<k->qZ S R (fI g) (rc j)≠0)->(k=ws.length∨qZ S R (fI g) c=0)->
   OK QQ (yP (ens,(cw k).1,(cw k).2.1,(cw k).2.2.1,(cw k).2.2.2.1,(cw k).2.2.2.2,c,acH ch,(List.range (k+1)).map cw,(List.range (k+1)).map rc)):=λk c ch ens a1 a2 a3 a6 a7=>⟨_,rfl,k,c,ch,rfl,a1,a2,a3,a6,a7⟩
 have key:=yC (step:=uL 1000 p g kind ws A) (Q:=QQ)
  (λx=>∃(k:Nat) (c:List (List Int)) (ch:List Nat) (ens:List Int),x=(((qZ S R (fI g) c:Nat):Int),ens,(k:Int),(cw k).1,(cw k).2.1,(cw k).2.2.1,(cw k).2.2.2.1,(cw k).2.2.2.2,c,acH ch,(List.range (k+1)).map cw,(List.range (k+1)).map rc)∧P k c ch (cw k)∧AS g p.2.1.length c∧c=rc k∧k<=ws.length∧ch.length=k∧ens.length=k+1∧∀j,j<k->qZ S R (fI g) (rc j)≠0) (λx=>ws.length - x.2.2.1.toNat) (λx ag hI hrec=>by
  obtain⟨k,c,ch,ens,rfl,b1,b2,b3,b4,b5,b6,b9⟩:=hI;unfold uL;dsimp only;by_cases hlt:k<ws.length
  rotate_left
  ·rw[if_neg (by omega)];exact fin k c ch ens b1 b3 b4 b9 (.inl (by omega))
  obtain⟨w,hwe,hw32⟩:=hw k hlt;have hin:Sk g (qZ S R (fI g) c):=KP S R (fI g) c;obtain⟨t,ht,hsub,hne⟩:=TN hV hN hk1 hk4 hin hw32;rw[if_pos (by omega),cB (by omega),hwe,bD (show fG 1000 net kind _ _=_ from ht)];unfold DJ;dsimp only;by_cases he0:qZ S R (fI g) c=0
  ·rw[if_pos (by omega)];exact fin k c ch ens b1 b3 b4 b9 (.inr he0)
  obtain⟨ht0,hperm,hk2,hk4'⟩:=hne he0;have ht32:t<4294967296:=by have:=Sk.lt hV (λi hi=>hin i (hsub i hi));omega
  rw[if_neg (by omega),bD (show gH 1000 net kind _ _=_ from hperm),if_neg (by decide)];have hst:jY 1000 (p,(p,g,iO g g.2.length,fK g),Ct g p.2.1) c (t:Int)=some (iP S p.2.1 R c t):=ado (gr:=iO g g.2.length) hV hp b2 hz hR ht32 (λv hv=>((Om S R (fI g) c v).1 (hsub v hv)).2.1);have hsh:AS g p.2.1.length (iP S p.2.1 R c t):=b2.step;obtain⟨⟨cnt',err⟩,hadd⟩:=X_ (cw k) ht32 ((qZ S R (fI g) (iP S p.2.1 R c t):Nat):Int);rw[bD (show jY 1000 _ c (t:Int)=_ from hst),bD (show dJ 1000 _ _=_ from hen _ hsh),hand,bD (show gO 1000 _ (t:Int) _=_ from hadd),bD (hcopy _ hsh),cB (by simp;omega),cB (by simp;omega)];unfold DK;dsimp only;rw[hand,cB (by simp[acH];omega),cB (by simp;omega),fM (by omega)];have en:nxt g kind (qZ S R (fI g) (rc k)) (at' ws (k:Int))=t:=by
   unfold nxt;rw[bD hnet,hwe,<-b3,ht];simp
  have hr:rc (k+1)=iP S p.2.1 R c t:=by
   show iP S p.2.1 R (rc k) (nxt g kind (qZ S R (fI g) (rc k)) (at' ws (k:Int)))=_;rw[en,<-b3]
  obtain rfl:cnt'=cw (k+1):=by
   show cnt'=((gO 1000 (cw k) ((nxt g kind (qZ S R (fI g) (rc k)) (at' ws (k:Int)):Nat):Int) ((qZ S R (fI g) (rc (k+1)):Nat):Int)).getD ((0,0,0,0,0),0)).1;rw[en,hr,hadd];rfl
  refine hrec _ ⟨k+1,iP S p.2.1 R c t,ch++[t],ens++[((qZ S R (fI g) (iP S p.2.1 R c t):Nat):Int)],?_,hstep k c ch (cw k) t (cw (k+1)) err hlt b2 b1 he0 ht0 hsub hk2 hk4' hr hadd Z,hsh,hr.symm,by omega,by simp[b5],by simp[b6],λj hj=> ?_⟩ (by dsimp only;omega)
  ·rw[List.nil_append,List.range_succ (n:=k+1),List.map_append,List.map_singleton,List.map_append,List.map_singleton,hr];simp[acH]
  ·by_cases e:j<k
   ·exact b9 j e
   ·obtain rfl:j=k:=by omega
    rw[<-b3];exact he0) 1000 (((qZ S R (fI g) c0:Nat):Int),[((qZ S R (fI g) c0:Nat):Int)],(0:Int),0,0,0,0,eK .u32 ((qZ S R (fI g) c0:Nat):Int) 16777215,c0,[],[(0,0,0,0,eK .u32 ((qZ S R (fI g) c0:Nat):Int) 16777215)],[c0])
  ⟨0,c0,[],[((qZ S R (fI g) c0:Nat):Int)],rfl,h0,hc0.shape,rfl,by omega,rfl,rfl,λj hj=>by omega⟩ (by dsimp only;omega)
 obtain⟨r,hr,k,c,ch,rfl,hrest⟩:=key;exact⟨k,c,ch,hr,hrest⟩
end
theorem aae {p p':sW} {g:GR} {R:List RL} {vars:List D_} {kind:Int} {ws:List Int} {b:List (List Int)} {k a:Nat}
  (l:k<=ws.length) (f:k=ws.length∨qZ (aU p g) R (fI g) (DF p vars R g kind ws b k)=0) (h:∀j,j<k->qZ (aU p g) R (fI g) (DF p vars R g kind ws b j)≠0)
  (i:a<=ws.length) (c:a=ws.length∨qZ (aU p' g) R (fI g) (DF p' vars R g kind ws b a)=0) (d:∀j,j<a->qZ (aU p' g) R (fI g) (DF p' vars R g kind ws b j)≠0):k=a:=by
 rcases zAz k a with q|q|q
 ·have:=d k q;rw[LE p' p,Qs p' p]at this;rcases f with e|e
  ·omega
  ·exact absurd e this
 ·exact q
 ·have:=h a q;rw[LE p p',Qs p p']at this;rcases c with e|e
  ·omega
  ·exact absurd e this
end Go.Proofs.YtlkhndebimcbbaaGreatDoor
namespace Go.Proofs.YtlkhndebimcbbaaGreatDoor
open Go.Sx
noncomputable def uP (b:List bF×(List (Int×Int×Int×Int×Int))×Int) (a:Bool):Option (List bF×(List (Int×Int×Int×Int×Int))×Bool):=
 some (b.1,b.2.1,a)
noncomputable def xH (U:Nat) (d:ByteArray) (c:cD) (e:Int) (f:bF) (g:aR):Option (List bF×(List (Int×Int×Int×Int×Int))×Bool):=
 Option.bind (mO U d) λb=>Wl b.2.2 λh=>(Option.bind (xG U ((b.1,b.2.1,h)) ((c.1,c.2)) e f g) λa=>(if a.2.2=(0:Int)then(if(a.1.length:Int)=(a.2.1.length:Int)then(uP a (decide ((0:Int)<(a.1.length:Int))))else(uP a (false)))else(uP a (false))))
theorem ahR:aW Tryz.prog 9:=Tryz.call9
theorem RG (U:Nat) {w:ByteArray} {i:cD} {y:Int} {p:bF} {q:aR} (k:Value)  (m:Value)  (t:kA)  (n:Value)  (u:q_)  (o:Value) (r:VK) (h:xH U w i y p q=some r):
  aY Tryz.prog 9 #[vS (w),Value.agg #[k,m],vI (y),n,o] [Sl bN k i.1,S2 bA m t i.2,S2 bN n u p,Sl Ak o q,Gb 0 (cellsOf Ig xO)] (λx:Value×List Value×List (List Value)×Value=>Value.tuple #[x.1,x.2.2.2,vB (r.2.2)]) (λx l=>Ar dD.raw x.1 x.2.1::Mh bZ x.2.1 x.2.2.1 r.1::Ar cE x.2.2.2 r.2.1::l) (λ_ l=>l):=by
 refine aY.of Tryz.func9 Z Tryz.ntmps9 Z λc=>?_;refine aX<|aH (aO.box (cs:=[k,m]) Z Z) Z λD=>aD Z<|aD Z<|aD Z<|aN<|aK ?_;refine JR.start [0,1,0,0,0,0,63,127,255,255,255,511,3071,8191] 13 mixedOrders (by decide +kernel) ?_;refine zBd (by exact rfl) ?_;refine bG Z<|eZ h λs A h=>zBc Z Z Z (aO.call SU (Ee U s A) Z (jS 4 Z) (λ_ _=>rfl) (λ_ _=>rfl)) Z (fun⟨d,e,v,g⟩=>(uB [] Z)) fun⟨d,e,v,g⟩=>?_;have h:=ML h v g;refine bJ Z (a_.cons 0 Z .nil) .nil (fJ 0 Z Z Z Z) (aM.h (a_.ix [0] Z Z) .nil aM.z)<|jD Z (fY Z)<|jD Z (fY Z)<|jD Z (fY Z)<|eZ h λj C h=>zBc Z Z Z (zBa aeE (RE U d e k m t n u o j C) Z (mT [0,1,2,3,4,5,6,7] Z)) Z (λb=>(uB [] Z)) λb=>jD Z (fY Z)<|jD Z (qF Z Z)<|jD Z (qF Z Z)<|jD Z (qF Z Z)<|jD Z (oZ Z)<|jD Z (oZ Z)<|bO 13 Z Z<|aD Z<|aN<|aK<|Bq (B:=Unit) (λa=>uP j a=some r) (λa f=>[(10,b.1),(11,b.2.2.2),(12,vB (a))]) (λa f=>[Ar dD.raw b.1 b.2.1,Mh bZ b.2.1 b.2.2.1 j.1,Ar cE b.2.2.2 j.2.1]) (λa f=>[Sl aS d s.2.1,Sl aL e v,PF (Value.agg #[vS s.1,d,e]),Sl bN k i.1,S2 bA m t i.2,S2 bN n u p,Sl Ak o q,Gb 0 (cellsOf Ig xO)]) ?_ ?_
 ·refine aQ<|aA Z<|aA Z<|aA Z<|cS Z<|aA Z ?_;refine Eo h Z (λ_ h=>?_) λ_ h=>?_
  ·refine cP Z<|aP Z (Hk 0 1 Z Z Z Z) Z<|cP Z<|aP Z (fX Z (bB (aE.res 2 Z) jA) Z) Z<|aP Z (MH Z Z) Z<|dO Z<|aA Z ?_;refine Eo h Z (λ_ h=>?_) λ_ h=>?_
   ·refine cP Z<|aP Z (Hk 0 1 Z Z Z Z) Z<|aP Z (xQ Z Z) Z<|dO Z<|aD Z<|aD Z<|aD Z<|aN ?_;exact cF (decide ((0:Int)<(j.1.length:Int))) () h SF (a_.ix [0,1,2] Z Z) (aG.refl _ _)
   refine aI Z<|aI Z<|aI Z<|fH Z<|aD Z<|aD Z<|aD Z<|aN ?_;exact cF (false) () h SF (a_.ix [0,1,2] Z Z) (aG.refl _ _)
  refine aI Z<|aI Z<|aI Z<|aI Z<|aI Z<|fH Z<|aA Z<|aI Z<|aI Z<|aI Z<|fH Z<|aD Z<|aD Z<|aD Z<|aN ?_;exact cF (false) () h SF (a_.ix [0,1,2] Z Z) (aG.refl _ _)
 intro a f h;unfold uP at h;refine aV ?_;cases h;exact JH (b.1,b.2.1,b.2.2.1,b.2.2.2) Z Z (RV.tmp Z) (RV.tmp Z) (RV.tmp Z) (a_.refl _) aG.nil
end Go.Proofs.YtlkhndebimcbbaaGreatDoor
namespace Go.Proofs.YtlkhndebimcbbaaGreatDoor
open Go Go.Sx
theorem aaf {text nm:ByteArray} {vars:List D_} {R:List RL} {pr:Mc} (hprog:mO 1000 text=some (nm,vars,pr)) (hpr:En R=pr) {g:GR} (hV:VG g) (hp:tC g vars) (hR:yO vars.length R=true) {kind:Int} (hk1:1<=kind) (hk4:kind<=4)
  {c0:bF} (hc0:DY g c0 vars) {ws:aR} (hws:ws.length<=900) (hw:∀k:Nat,k<ws.length->∃m:Nat,at' ws (k:Int)=(m:Int)∧m<4294967296)
  (Q:Nat->bF->CT->Prop) (h0:Q 0 c0 (0,0,0,0,eK .u32 ((qZ (aU (nm,vars,[]) g) R (fI g) c0:Nat):Int) 16777215))
  (hstep:∀k c cnt t cnt' err,k<ws.length->Q k c cnt->qZ (aU (nm,vars,[]) g) R (fI g) c≠0->t≠0->(∀i,t.testBit i=true->(qZ (aU (nm,vars,[]) g) R (fI g) c).testBit i=true)->(kind=4->t=qZ (aU (nm,vars,[]) g) R (fI g) c)->
   gO 1000 cnt (t:Int) ((qZ (aU (nm,vars,[]) g) R (fI g) (iP (aU (nm,vars,[]) g) vars R c t):Nat):Int)=some (cnt',err)->Q (k+1) (iP (aU (nm,vars,[]) g) vars R c t) cnt'):
  ∃(k:Nat) (cs:AU) (cnts:List CT),xH 1000 text g kind c0 ws=some (cs,cnts,true)∧cs.length=k+1∧cnts.length=k+1∧k<=ws.length∧(∀j,j<=k->Q j (at' cs (j:Int)) (at' cnts (j:Int)))∧
   (∀j,j<k->∃t,(∀i,t.testBit i=true->(qZ (aU (nm,vars,[]) g) R (fI g) (at' cs (j:Int))).testBit i=true)∧qZ (aU (nm,vars,[]) g) R (fI g) (at' cs (j:Int))≠0∧at' cs ((j+1:Nat):Int)=iP (aU (nm,vars,[]) g) vars R (at' cs (j:Int)) t∧(kind=4->t=qZ (aU (nm,vars,[]) g) R (fI g) (at' cs (j:Int))))∧
   (k=ws.length∨qZ (aU (nm,vars,[]) g) R (fI g) (at' cs (k:Int))=0):=by
 let p0:sW:=(nm,vars,[])
 let rc:=DF p0 vars R g kind ws c0;let cw:=KL p0 vars R g kind ws c0;let PP:Nat->Prop:=λk=>(∀j,j<=k->Q j (rc j) (cw j))∧∀j,j<k->∃t,(∀i,t.testBit i=true->(qZ (aU p0 g) R (fI g) (rc j)).testBit i=true)∧qZ (aU p0 g) R (fI g) (rc j)≠0∧rc (j+1)=iP (aU p0 g) vars R (rc j) t∧(kind=4->t=qZ (aU p0 g) R (fI g) (rc j))
 have run:∀z:List wZ,z.map zJ=En R->∃k,xG 1000 (nm,vars,z) g kind c0 ws=some ((List.range (k+1)).map rc,(List.range (k+1)).map cw,0)∧k<=ws.length∧PP k∧(∀j,j<k->qZ (aU p0 g) R (fI g) (rc j)≠0)∧(k=ws.length∨qZ (aU p0 g) R (fI g) (rc k)=0):=λz hz=>by
  let pz:sW:=(nm,vars,z)
  have hrr:DF pz vars R g kind ws c0=rc:=funext λj=>LE _ _ _ _ _ _ _ _ _;have hcc:KL pz vars R g kind ws c0=cw:=funext λj=>afo _ _ _ _ _ _ _ _ _;obtain⟨k,c,ch,h1,h3,rfl,h5,h6,h7⟩:=aaO (p:=pz) hV hp hz hR (kind:=kind) hk1 hk4 hc0 (ws:=ws) hws hw
   (λk c ch cnt=>PP k∧c=rc k∧cnt=cw k) ⟨⟨λj hj=>by(obtain rfl:j=0:=by omega);exact h0,λj hj=>by omega⟩,rfl,rfl⟩
   (λk c ch cnt t cnt' err hk hsh hI hne ht0 hsub _ hk4' hr hadd hcw=>by
    obtain⟨⟨ha,hb⟩,rfl,rfl⟩:=hI;have hr':rc (k+1)=iP (aU p0 g) vars R (rc k) t:=(congrFun hrr (k+1)).symm.trans hr;have hcw':cnt'=cw (k+1):=hcw.trans (congrFun hcc (k+1));subst hcw';have hQ:=hstep k (rc k) (cw k) t _ err hk (ha k (zAf k)) hne ht0 hsub hk4' hadd;refine⟨⟨λj hj=> ?_,λj hj=> ?_⟩,hr'.symm,rfl⟩
    ·by_cases e:j<=k
     ·exact ha j e
     ·obtain rfl:j=k+1:=by omega
      rw[hr'];exact hQ
    ·by_cases e:j<k
     ·exact hb j e
     ·obtain rfl:j=k:=by omega
      exact⟨t,hsub,hne,hr',hk4'⟩)
  rw[show pz.2.1=vars from rfl,hrr,hcc]at h1;rw[show pz.2.1=vars from rfl,hrr]at h6 h7;exact⟨k,h1,h5,h3.1,h6,h7⟩
 obtain⟨z0,hz0⟩:=exZ (En R);obtain⟨k0,_,hk0,hP0,hne0,hend0⟩:=run z0 hz0;have hat:∀j,j<=k0->at' ((List.range (k0+1)).map rc) (j:Int)=rc j:=λj hj=>kZ _ (by omega);have hat2:∀j,j<=k0->at' ((List.range (k0+1)).map cw) (j:Int)=cw j:=λj hj=>kZ _ (by omega);refine⟨k0,(List.range (k0+1)).map rc,(List.range (k0+1)).map cw,?_,by simp,by simp,hk0,λj hj=>by rw[hat j hj,hat2 j hj];exact hP0.1 j hj,λj hj=>by rw[hat j (by omega),hat (j+1) (by omega)];exact hP0.2 j hj,by rw[hat k0 (zAf _)];exact hend0⟩
 unfold xH;rw[bD hprog];refine Ux λz hz=> ?_;have hz:z.map zJ=En R:=by rw[hpr];exact hz
 obtain⟨k,h1,hk,_,hne,hend⟩:=run z hz;have hkk:k=k0:=aae (p:=p0) (p':=p0) (vars:=vars) hk hend hne hk0 hend0 hne0;subst hkk;refine(bD (show xG 1000 (nm,vars,z) g kind c0 ws=_ from h1)).trans ?_;unfold uP;dsimp only;rw[if_pos Z,if_pos (by simp),zAc (by simp)]
theorem acl {p:sW} {g:GR} {R:List RL} {c:bF}:enD (aU p g) R c=qZ (aU p g) R (fI g) c:=by
 refine Nat.eq_of_testBit_eq λv=> ?_;unfold qZ;rw[Nat.testBit_and];cases h:(enD (aU p g) R c).testBit v with
 |false=>rfl
 |true=>
  rw[UR,zA6,zA3]at h;unfold fI;rw[Uy,zAc (show v<g.2.length from h.1)];rfl
end Go.Proofs.YtlkhndebimcbbaaGreatDoor