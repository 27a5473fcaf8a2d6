/- Models and proofs. Conditions: none. -/
import Derived.Test.YtlkhndebimcbbaaGreatDoorZSInTi2
import Derived.Test.YtlkhndebimcbbaaGreatDoorZSInTi3
import Derived.KernelRfl
set_option linter.unusedVariables false
set_option linter.unusedSimpArgs false
set_option maxHeartbeats 4000000
set_option maxRecDepth 20000
namespace Go.Proofs.YtlkhndebimcbbaaGreatDoor
open Go.Sx
theorem Cz {R:Type} {step:Int->(Int->Option R)->Option R} {K:Option R} {bad:R} (N:Nat) (p:Nat->Prop)
  (r:∀(k:Nat) c,k<N->p k->step k c=c ((k:Int)+1)) (i:∀(k:Nat) c,k<N->¬p k->step k c=some bad) (j:∀c,step N c=K):
  ∀(b:Nat),N<b->((∀k,k<N->p k)->bJ step b 0=K)∧(¬(∀k,k<N->p k)->bJ step b 0=some bad):=by
 intro b q;have s:∀(d a b:Nat),a+d=N->d<b->((∀k,a<=k->k<N->p k)->bJ step b (a:Int)=K)∧(¬(∀k,a<=k->k<N->p k)->bJ step b (a:Int)=some bad):=by
  intro d
  induction d with
  |zero=>
   intro a b v q;obtain rfl:a=N:=by omega
   cases b with
   |zero=>omega
   |succ f=>exact⟨λ_=>j _,λh=>absurd (λk m g=>by omega) h⟩
  | succ d ih =>
   intro a b v q;cases b with
   |zero=>omega
   | succ f =>
    obtain⟨t,u⟩:=ih (a+1) f (by omega) (by omega);have e:((a+1:Nat):Int)=(a:Int)+1:=by omega
    rw[e]at t u;by_cases n:p a
    ·have w:bJ step (f+1) (a:Int)=bJ step f ((a:Int)+1):=r a _ (by omega) n;rw[w];refine⟨λh=>t λk m g=>h k (by omega) g,λh=>u λo=>h λk m g=> ?_⟩
     by_cases l:k=a
     ·subst l;exact n
     ·exact o k (by omega) g
    ·exact⟨λh=>absurd (h a (Nat.le_refl _) (by omega)) n,λ_=>i a _ (by omega) n⟩
 obtain⟨m,g⟩:=s N 0 b (by omega) q;exact⟨λh=>m λk _ l=>h k l,λh=>g λo=>h λk l=>o k (by omega) l⟩
abbrev GR:=List Int×fW
theorem zI (a:Nat) (v c d:Int):sI a v c d=some (decide (c<=v∧v<=d)):=by
 unfold sI zH;by_cases h:c<=v
 ·rw[if_pos h];congr 1;exact decide_eq_decide.2 ⟨λb=>⟨h,b⟩,λb=>b.2⟩
 ·rw[if_neg h,decide_eq_false (λb=>h b.1)]
abbrev row (g:GR) (v:Nat):fM:=at' g.2 (v:Int)
abbrev KX (g:GR) (v:Nat):Int:=at' g.1 (v:Int)
abbrev fL (l:fM) (i:Nat):fP:=at' l (i:Int)
def light (g:GR):Prop:=g.1.length<=30∧g.2.length<=30∧∀v,v<g.2.length->(row g v).length<=30
def Hj (l:fM) (v n i:Nat):Prop:=(0<=(fL l i).1∧(fL l i).1<=(n:Int) - 1)∧(fL l i).1≠v∧(1<=(fL l i).2∧(fL l i).2<=15)∧∀k,k<i->(fL l k).1≠(fL l i).1
def qF (l:fM) (v n:Nat):Prop:=∀i,i<l.length->Hj l v n i
theorem BA (l:fM) (v n:Nat) (o:l.length<=30) (p:n<=30):(qF l v n->kX 1000 l v n=some true)∧(¬qF l v n->kX 1000 l v n=some false):=by
 unfold kX;have a:∀(i:Nat) (b:Int->Option Bool),i<l.length->((∀k,k<i->(fL l k).1≠(fL l i).1)->bJ (iP l i b) 1000 0=b ((i:Int)+1))∧(¬(∀k,k<i->(fL l k).1≠(fL l i).1)->bJ (iP l i b) 1000 0=some false):=by
  intro i b h;refine Cz i _ (λk d m c=> ?_) (λk d m c=> ?_) (λd=> ?_) 1000 (by omega)
  ·unfold iP;rw[if_pos (by omega),cA (by omega),cA (by omega),if_neg c,wr (by omega) (by omega)]
  ·unfold iP;rw[if_pos (by omega),cA (by omega),cA (by omega),if_pos (Decidable.not_not.1 c)]
  ·unfold iP pD;rw[if_neg (by omega),wr (by omega) (by omega)]
 refine Cz l.length (Hj l v n) (λi b h c=> ?_) (λi b h c=> ?_) (λb=> ?_) 1000 (by omega)
 ·obtain⟨e,f,g,j⟩:=c;unfold gA kC;rw[if_pos (by omega),cA (by omega),wr (x:=(n:Int) - 1) (by omega) (by omega),zI,decide_eq_true e,bH Z,if_neg (by simp),cA (by omega),if_neg f,cA (by omega),zI,decide_eq_true g,bH Z,if_neg (by simp)];exact(a i b h).1 j
 ·unfold gA kC;rw[if_pos (by omega),cA (by omega),wr (x:=(n:Int) - 1) (by omega) (by omega),zI];by_cases e:0<=(fL l i).1∧(fL l i).1<=(n:Int) - 1
  ·rw[decide_eq_true e,bH Z,if_neg (by simp),cA (by omega)];by_cases f:(fL l i).1=v
   ·rw[if_pos f];rfl
   ·rw[if_neg f,cA (by omega),zI];by_cases g:1<=(fL l i).2∧(fL l i).2<=15
    ·rw[decide_eq_true g,bH Z,if_neg (by simp)];exact(a i b h).2 λj=>c ⟨e,f,g,j⟩
    ·rw[decide_eq_false g];rfl
  ·rw[decide_eq_false e];rfl
 ·unfold gA pC;rw[if_neg (by omega)]
def AN (l:fM) (u:Int):Int:=match l.findIdx? (λx=>decide (x.1=u))with
 |some i=>i
 |none=> -1
theorem Ih {l:fM} {u:Int} (i:Nat) (b:i<l.length) (d:(fL l i).1=u) (c:∀k,k<i->(fL l k).1≠u):AN l u=i:=by
 have:l.findIdx? (λx=>decide (x.1=u))=some i:=by
  rw[List.findIdx?_eq_some_iff_getElem];have e:∀k (a:k<l.length),fL l k=l[k]:=λk a=>by rw[fL,fQ,List.getD_eq_getElem?_getD,List.getElem?_eq_getElem a];rfl
  refine⟨b,by rw[<-e i b];simpa using d,λk a=> ?_⟩
  have:=c k a;rw[e k (by omega)]at this;simpa using this
 rw[AN,this]
theorem PG {l:fM} {u:Int} (b:∀k,k<l.length->(fL l k).1≠u):AN l u = -1:=by
 have:l.findIdx? (λx=>decide (x.1=u))=none:=by
  rw[List.findIdx?_eq_none_iff];intro x c;obtain⟨k,a,rfl⟩:=List.getElem_of_mem c;have:=b k a;rw[fL,fQ,List.getD_eq_getElem?_getD,List.getElem?_eq_getElem a]at this;simpa using this
 rw[AN,this]
theorem CG (l:fM) (u:Int):(∃i,i<l.length∧(fL l i).1=u∧(∀k,k<i->(fL l k).1≠u)∧AN l u=i)∨((∀k,k<l.length->(fL l k).1≠u)∧AN l u = -1):=by
 by_cases h:∀k,k<l.length->(fL l k).1≠u
 ·exact .inr ⟨h,PG h⟩
 ·left;have f:∃k,k<l.length∧(fL l k).1=u:=by
   apply Classical.byContradiction;intro o;exact h λk g e=>o ⟨k,g,e⟩
  obtain⟨k,g,n⟩:=f;have:∀m,(∃k,k<=m∧k<l.length∧(fL l k).1=u)->∃i,i<l.length∧(fL l i).1=u∧∀k,k<i->(fL l k).1≠u:=by
   intro m
   induction m with
   |zero=>rintro⟨k,d,a,b⟩;exact⟨k,a,b,λj p=>by omega⟩
   |succ m q=>
    rintro⟨k,d,a,b⟩;by_cases c:∃j,j<=m∧j<l.length∧(fL l j).1=u
    ·exact q c
    ·exact⟨k,a,b,λj p e=>c ⟨j,by omega,by omega,e⟩⟩
  obtain⟨i,d,a,b⟩:=this k ⟨k,Nat.le_refl _,g,n⟩;exact⟨i,d,a,b,Ih i d a b⟩
theorem Se (g:GR) (v:Nat) (u:Int) (m:v<g.2.length) (l:(row g v).length<=30):wW 1000 g v u=some (AN (row g v) u):=by
 unfold wW;rcases CG (row g v) u with⟨i,j,h,c,b⟩|⟨c,b⟩
 ·rw[b];refine Ao (λx:Int=>∃k:Nat,x=k∧k<=i) (λx=>31 - x.toNat) ?_ 1000 _ ⟨0,rfl,by omega⟩ (by omega);rintro x d ⟨k,rfl,f⟩ a;unfold yS;rw[cA (by omega),if_pos (show(k:Int)<((row g v).length:Int) by omega),cA (by omega),cA (show 0<=(k:Int)∧(k:Int)<((row g v).length:Int) by omega)];by_cases e:k=i
  ·subst e;exact if_pos h
  ·rw[if_neg (c k (by omega)),wr (by omega) (by omega)];exact a _ ⟨k+1,by omega,by omega⟩ (by omega)
 ·rw[b];refine Ao (λx:Int=>∃k:Nat,x=k∧k<=(row g v).length) (λx=>31 - x.toNat) ?_ 1000 _ ⟨0,rfl,by omega⟩ (by omega);rintro x d ⟨k,rfl,f⟩ a;unfold yS;rw[cA (by omega)];by_cases e:k<(row g v).length
  ·rw[if_pos (show(k:Int)<((row g v).length:Int) by omega),cA (by omega),cA (show 0<=(k:Int)∧(k:Int)<((row g v).length:Int) by omega),if_neg (c k e),wr (by omega) (by omega)];exact a _ ⟨k+1,by omega,by omega⟩ (by omega)
  ·rw[if_neg (show¬(k:Int)<((row g v).length:Int) by omega)];rfl
theorem Gs {X R:Type} {step:X->(X->Option R)->Option R} {K:X->Option R} {bad:R} (N:Nat) (p:Nat->Prop) (I:Nat->X->Prop)
  (t:∀(k:Nat) x g,k<N->I k x->p k->∃c,I (k+1) c∧step x g=g c) (j:∀(k:Nat) x g,k<N->I k x->¬p k->step x g=some bad) (l:∀x g,I N x->step x g=K x):
  ∀(b:Nat) (x:X),I 0 x->N<b->((∀k,k<N->p k)->∃c,I N c∧bJ step b x=K c)∧(¬(∀k,k<N->p k)->bJ step b x=some bad):=by
 intro b x e s;have v:∀(d a b:Nat) (x:X),a+d=N->d<b->I a x->((∀k,a<=k->k<N->p k)->∃c,I N c∧bJ step b x=K c)∧(¬(∀k,a<=k->k<N->p k)->bJ step b x=some bad):=by
  intro d
  induction d with
  |zero=>
   intro a b x w s e;obtain rfl:a=N:=by omega
   cases b with
   |zero=>omega
   |succ f=>exact⟨λ_=>⟨x,e,l _ _ e⟩,λh=>absurd (λk n i=>by omega) h⟩
  | succ d ih =>
   intro a b x w s e;cases b with
   |zero=>omega
   | succ f =>
    by_cases o:p a
    ·obtain⟨c,r,u⟩:=t a x (bJ step f) (by omega) e o;have u:bJ step (f+1) x=bJ step f c:=u;obtain⟨y,z⟩:=ih (a+1) f c (by omega) (by omega) r;rw[u];refine⟨λh=>y λk n i=>h k (by omega) i,λh=>z λq=>h λk n i=> ?_⟩
     by_cases m:k=a
     ·subst m;exact o
     ·exact q k (by omega) i
    ·exact⟨λh=>absurd (h a (Nat.le_refl _) (by omega)) o,λ_=>j a x _ (by omega) e o⟩
 obtain⟨n,i⟩:=v N 0 b x (by omega) s e;exact⟨λh=>n λk _ m=>h k m,λh=>i λq=>h λk m=>q k (by omega) m⟩
def Dc (g:GR) (v i:Nat):Prop:=∃j,j<(at' g.2 (fL (row g v) i).1).length∧(fL (at' g.2 (fL (row g v) i).1) j).1=v∧(fL (at' g.2 (fL (row g v) i).1) j).2=(fL (row g v) i).2
structure QT (g:GR) (v:Nat):Prop where
 id:0<=KX g v∧KX g v<=255
 deg:(row g v).length<g.2.length
 links:qF (row g v) v g.2.length
 ids:∀k,k<v->KX g k≠KX g v
structure VG (g:GR):Prop where
 n1:1<=g.2.length
 n24:g.2.length<=24
 len:g.1.length=g.2.length
 node:∀v,v<g.2.length->QT g v
 sym:∀v,v<g.2.length->∀i,i<(row g v).length->Dc g v i
theorem PM (g:GR) (N:light g):(VG g->t_ 1000 g=some true)∧(¬VG g->t_ 1000 g=some false):=by
 obtain⟨S,H,t⟩:=N;unfold t_;rw[zI,bH Z];by_cases z:1<=g.2.length∧g.2.length<=24
 rotate_left
 ·rw[decide_eq_false (by omega)];exact⟨λh=>absurd ⟨h.n1,h.n24⟩ z,λ_=>rfl⟩
 rw[decide_eq_true (by omega),if_neg (by simp)];by_cases I:g.1.length=g.2.length
 rotate_left
 ·rw[decide_eq_true (by omega)];exact⟨λh=>absurd h.len I,λ_=>rfl⟩
 rw[decide_eq_false (by omega)];unfold w_;rw[if_neg (by simp)];have o:∀(v:Nat) (b:Int->Option Bool),v<g.2.length->((∀k,k<v->KX g k≠KX g v)->bJ (nC g v b) 1000 0=b ((v:Int)+1))∧(¬(∀k,k<v->KX g k≠KX g v)->bJ (nC g v b) 1000 0=some false):=by
  intro v b d;refine Cz v _ (λk a C c=> ?_) (λk a C c=> ?_) (λa=> ?_) 1000 (by omega)
  ·unfold nC;rw[if_pos (by omega),cA (by omega),cA (by omega),if_neg c,wr (by omega) (by omega)]
  ·unfold nC;rw[if_pos (by omega),cA (by omega),cA (by omega),if_pos (Decidable.not_not.1 c)]
  ·unfold nC xE;rw[if_neg (by omega),wr (by omega) (by omega)]
 have l:=Cz (step:=j_ 1000 g) (K:=sN 1000 g ()) (bad:=false) g.2.length (QT g) (λv b d c=> ?_) (λv b d c=> ?_) (λb=> ?_) 1000 (by omega)
 rotate_left
 ·unfold j_ qB;rw[if_pos (by omega),cA (by omega),zI,decide_eq_true c.id,bH Z,if_neg (by simp),cA (by omega),if_neg (show¬((g.2.length:Int)<=((row g v).length:Int))from by have:=c.deg;omega),cA (by omega),(BA (row g v) v g.2.length (t v d) H).1 c.links,bH Z,if_neg (by simp)];exact(o v b d).1 c.ids
 ·unfold j_ qB;rw[if_pos (by omega),cA (by omega),zI];by_cases x:0<=KX g v∧KX g v<=255
  rotate_left
  ·rw[decide_eq_false x];rfl
  rw[decide_eq_true x,bH Z,if_neg (by simp),cA (by omega)];by_cases J:(row g v).length<g.2.length
  rotate_left
  ·rw[if_pos (show(g.2.length:Int)<=((row g v).length:Int) by omega)];rfl
  rw[if_neg (show¬(g.2.length:Int)<=((row g v).length:Int) by omega),cA (by omega)];by_cases y:qF (row g v) v g.2.length
  rotate_left
  ·rw[(BA (row g v) v g.2.length (t v d) H).2 y];rfl
  rw[(BA (row g v) v g.2.length (t v d) H).1 y,bH Z,if_neg (by simp)];exact(o v b d).2 λL=>c ⟨x,J,y,L⟩
 ·unfold j_;rw[if_neg (by omega)]
 by_cases q:∀v,v<g.2.length->QT g v
 rotate_left
 ·exact⟨λh=>absurd h.node q,λ_=>l.2 q⟩
 rw[l.1 q];unfold sN;have f:∀(v:Nat) (b:Int->Option Bool),v<g.2.length->((∀i,i<(row g v).length->Dc g v i)->bJ (jZ 1000 g v b) 1000 0=b ((v:Int)+1))∧(¬(∀i,i<(row g v).length->Dc g v i)->bJ (jZ 1000 g v b) 1000 0=some false):=by
  intro v b d;have P:=t v d;have n:∀(i:Nat) a,i<(row g v).length->(Dc g v i->jZ 1000 g v b i a=a ((i:Int)+1))∧(¬Dc g v i->jZ 1000 g v b i a=some false):=by
   intro i a r;unfold jZ;rw[cA (by omega),if_pos (show(i:Int)<((row g v).length:Int) by omega),cA (by omega),cA (show 0<=(i:Int)∧(i:Int)<((row g v).length:Int) by omega)];have R:=((q v d).links i r).1;obtain⟨u,G⟩:∃u:Nat,(fL (row g v) i).1=u:=⟨(fL (row g v) i).1.toNat,by omega⟩
   have p:u<g.2.length:=by omega
   unfold Dc;rw[show(at' (at' g.2 (v:Int)) (i:Int))=fL (row g v) i from rfl,G,Se g u v p (t u p),bH Z];have F:=(q u p).links;rcases CG (row g u) v with⟨j,w,m,B,A⟩|⟨M,A⟩
   ·rw[A,if_neg (by omega),cA (by omega),cA (show 0<=(j:Int)∧(j:Int)<((at' g.2 (u:Int)).length:Int)from⟨by omega,by have:j<(row g u).length:=w;exact_mod_cast this⟩)];unfold xD;constructor
    ·rintro⟨k,C,s,E⟩;have D:k=j:=by
      rcases Nat.lt_trichotomy k j with h|h|h
      ·exact absurd s (B k h)
      ·exact h
      ·exact absurd (m.trans s.symm) ((F k C).2.2.2 j h)
     subst D;rw[if_neg (by rw[decide_eq_false];simp;exact λh=>h E),wr (by omega) (by omega)]
    ·intro h;rw[if_pos];exact decide_eq_true λQ=>h ⟨j,w,m,Q⟩
   ·rw[A,if_pos (by decide)];exact⟨fun⟨j,w,m,_⟩=>absurd m (M j w),λ_=>rfl⟩
  refine Cz (row g v).length _ (λi a r c=>(n i a r).1 c) (λi a r c=>(n i a r).2 c) (λa=> ?_) 1000 (by omega);unfold jZ xB;rw[cA (by omega),if_neg (show¬(((row g v).length:Nat):Int)<((row g v).length:Int) by omega),wr (by omega) (by omega)]
 have e:=Cz (step:=jY 1000 g) (K:=some true) (bad:=false) g.2.length (λv=>∀i,i<(row g v).length->Dc g v i) (λv b d c=> ?_) (λv b d c=> ?_) (λb=> ?_) 1000 (by omega)
 ·exact⟨λh=>e.1 h.sym,λh=>e.2 λO=>h ⟨z.1,z.2,I,q,O⟩⟩
 ·unfold jY;rw[if_pos (by omega)];exact(f v b d).1 c
 ·unfold jY;rw[if_pos (by omega)];exact(f v b d).2 c
 ·unfold jY xA;rw[if_neg (by omega)]
theorem tP {a:Type} [Inhabited a] (l:List a) (i k:Nat) (y:a) (b:i<l.length):at' (l.set i y) (k:Int)=if k=i then y else at' l (k:Int):=by
 rw[fQ,fQ,List.getD_eq_getElem?_getD,List.getD_eq_getElem?_getD,List.getElem?_set];by_cases h:i=k
 ·rw[if_pos h,if_pos h.symm,if_pos (by omega)];rfl
 ·rw[if_neg h,if_neg (Ne.symm h)]
def VX (l:aQ) (k:Nat):Prop:=(0<=at' l (k:Int)∧at' l (k:Int)<=255)∧∀j,j<k->at' l (j:Int)≠at' l (k:Int)
theorem uL (l:aQ) (C:l.length<=30):((∀k,k<l.length->VX l k)->jN 1000 l=some true)∧(¬(∀k,k<l.length->VX l k)->jN 1000 l=some false):=by
 unfold jN;have i:=Gs (step:=gE l) (K:=λ_=>some true) (bad:=false) l.length (VX l) (λk x=>x.1=(k:Int)∧x.2.length=256∧∀z:Nat,z<256->(at' x.2 (z:Int)=true↔∃j,j<k∧at' l (j:Int)=(z:Int))) ?_ ?_ ?_ 1000 ((0:Int),(List.replicate 256 false)) ⟨rfl,List.length_replicate ..,λz c=> ?_⟩ (by omega)
 ·exact⟨λh=>by obtain⟨x,_,b⟩:=i.1 h;exact b,i.2⟩
 ·rintro k ⟨t,m⟩ q w ⟨b,a,f⟩ ⟨D,v⟩;dsimp only at b a f;subst b;obtain⟨z,c⟩:∃z:Nat,at' l (k:Int)=z:=⟨(at' l (k:Int)).toNat,by omega⟩
  have p:z<256:=by omega
  have o:¬at' m (z:Int)=true:=by
   rw[f z p];rintro⟨j,e,d⟩;exact v j e (d.trans c.symm)
  refine⟨((k:Int)+1,m.set z true),⟨by simp,by simp[a],λy B=> ?_⟩,?_⟩
  ·dsimp only;rw[tP _ _ _ _ (by omega)];by_cases g:y=z
   ·subst g;rw[if_pos Z];exact⟨λ_=>⟨k,by omega,c⟩,λ_=>rfl⟩
   ·rw[if_neg g,f y B];constructor
    ·rintro⟨j,e,d⟩;exact⟨j,by omega,d⟩
    ·rintro⟨j,e,d⟩;by_cases n:j=k
     ·subst n;rw[c]at d;omega
     ·exact⟨j,by omega,d⟩
  ·unfold gE iU;dsimp only;rw[if_pos (by omega),cA (by omega),c,if_neg (by omega),if_neg (by omega),cA ⟨by omega,a⟩,if_neg o,cA ⟨by omega,a⟩,wr (by omega) (by omega)];rfl
 ·rintro k ⟨t,m⟩ q w ⟨b,a,f⟩ A;dsimp only at b a f;subst b;unfold gE iU;dsimp only;rw[if_pos (by omega),cA (by omega)];by_cases r:at' l (k:Int)<0
  ·rw[if_pos r,if_pos Z]
  rw[if_neg r];by_cases s:255<at' l (k:Int)
  ·rw[if_pos s,if_pos Z]
  rw[if_neg s];obtain⟨z,c⟩:∃z:Nat,at' l (k:Int)=z:=⟨(at' l (k:Int)).toNat,by omega⟩
  rw[c,cA ⟨by omega,a⟩,if_pos];rw[f z (by omega)];apply Classical.byContradiction;intro u;exact A ⟨by omega,λj e d=>u ⟨j,e,d.trans c⟩⟩
 ·rintro⟨t,m⟩ q ⟨b,_,_⟩;dsimp only at b;subst b;unfold gE nM;dsimp only;rw[if_neg (by omega)]
 ·rw[show at' (List.replicate 256 false) (z:Int)=false by rw[fQ,List.getD_eq_getElem?_getD,List.getElem?_replicate,if_pos c];rfl];exact⟨λh=>(by cases h),fun⟨j,e,_⟩=>(by omega)⟩
theorem Vq {d e:Type} [DecidableEq d] (k c:d) (v:e):∀l:List (d×e),mE c (CF k v l)=if c=k then some v else mE c l
 | []=>by simp only[CF,mE]
 | x :: xs => by
  simp only[CF];by_cases h:k=x.1
  ·rw[if_pos h];simp only[mE];by_cases a:c=k
   ·rw[if_pos a,if_pos a]
   ·rw[if_neg a,if_neg a,if_neg (λb=>a (b.trans h.symm))]
  ·rw[if_neg h];simp only[mE];by_cases a:c=x.1
   ·rw[if_pos a,if_neg (λb=>h (b.symm.trans a)),if_pos a]
   ·rw[if_neg a,Vq k c v xs];by_cases b:c=k
    ·rw[if_pos b,if_pos b]
    ·rw[if_neg b,if_neg b,if_neg a]
theorem Pq {a b:Type} [DecidableEq a] {k:a} {v:b} {z:a×b} {l:List (a×b)} (c:mE k l=none):z∈CF k v l↔z=(k,v)∨z∈l:=by
 rw[HC k v l c];simp[or_comm]
theorem HB {a c:Type} [DecidableEq a] {k:a}:∀{l:List (a×c)},(∀v,(k,v)∉l)->mE k l=none
 | [],_=>rfl
 |x::xs,h=>by
  simp only[mE];rw[if_neg (λe=>h x.2 (by rw[e];exact List.mem_cons_self ..))];exact HB λv b=>h v (List.mem_cons_of_mem _ b)
theorem uA {b c:Type} [DecidableEq b] {k:b} {v:c}:∀{l:List (b×c)},mE k l=none->(k,v)∉l
 | [],_=>by simp
 | x :: xs, h => by
  simp only[mE]at h;by_cases e:k=x.1
  ·rw[if_pos e]at h;cases h
  ·rw[if_neg e]at h;intro d;rcases List.mem_cons.1 d with a|a
   ·exact e (by rw[<-a])
   ·exact uA h a
theorem BX {a b:Type} [DecidableEq a] {k:a} {v:b}:∀{l:List (a×b)},mE k l=some v->(k,v)∈l
 |x::xs,h=>by
  simp only[mE]at h;by_cases e:k=x.1
  ·rw[if_pos e]at h;cases h;rw[e];exact List.mem_cons_self ..
  ·rw[if_neg e]at h;exact List.mem_cons_of_mem _ (BX h)
theorem Kk {a b:Type} (p:a×b->Prop) [DecidablePred p]:∀l:List (a×b),KZ (λd x=>if p d then some false else x) (some true) l=some (decide (∀z∈l,¬p z))
 | []=>by simp[KZ]
 |x::xs=>by
  show(if p x then some false else KZ _ (some true) xs)=_;rw[Kk p xs];by_cases h:p x
  ·rw[if_pos h];congr 1;symm;exact decide_eq_false λc=>c x (List.mem_cons_self ..) h
  ·rw[if_neg h];congr 1;apply decide_eq_decide.2;simp[h]
def Oo (c:fW) (v i:Nat) (z:(Int×Int)×Int):Prop:=∃a b:Nat,(a<v∨(a=v∧b<i))∧b<(at' c (a:Int)).length∧z=(((a:Int),(fL (at' c (a:Int)) b).1),(fL (at' c (a:Int)) b).2)
def Lr (a:fW):Prop:=(∀v,v<a.length->qF (at' a (v:Int)) v a.length)∧∀v,v<a.length->∀i,i<(at' a (v:Int)).length->Dc ([],a) v i
theorem GQ (c:fW) (hn:c.length<=30) (hd:∀v,v<c.length->(at' c (v:Int)).length<=30):(Lr c->gN 1000 c=some true)∧(¬Lr c->gN 1000 c=some false):=by
 unfold gN;have s:∀(v:Nat) (m:List ((Int×Int)×Int)) p,v<c.length->(∀z,z∈m↔Oo c v 0 z)->
   (qF (at' c (v:Int)) v c.length->∃X,(∀z,z∈X↔Oo c (v+1) 0 z)∧bJ (cI c ((v:Int),m) p) 1000 ((0:Int),m)=p ((v:Int)+1,X))∧
   (¬qF (at' c (v:Int)) v c.length->bJ (cI c ((v:Int),m) p) 1000 ((0:Int),m)=some false):=by
  intro v m p F hm;have af:=hd v F;have R:=Gs (step:=cI c ((v:Int),m) p) (K:=λx=>p ((v:Int)+1,x.2)) (bad:=false) (at' c (v:Int)).length (Hj (at' c (v:Int)) v c.length) (λi x=>x.1=(i:Int)∧∀z,z∈x.2↔Oo c v i z) ?_ ?_ ?_ 1000 ((0:Int),m) ⟨rfl,hm⟩ (by omega)
  ·refine⟨λh=> ?_,λh=>R.2 h⟩
   obtain⟨x,⟨ah,ad⟩,f⟩:=R.1 h;refine⟨x.2,λz=>(ad z).trans ⟨?_,?_⟩,f⟩
   ·rintro⟨a,b,y,e,l⟩;exact⟨a,b,by omega,e,l⟩
   ·rintro⟨a,b,y,e,l⟩;refine⟨a,b,?_,e,l⟩
    by_cases W:a=v
    ·subst W;exact .inr ⟨rfl,e⟩
    ·omega
  ·rintro i ⟨H,g⟩ I M ⟨f,d⟩ ⟨p1,p2,p3,p4⟩;dsimp only at f d;subst f;have q:mE (((v:Int),(fL (at' c (v:Int)) i).1)) g=none:=by
    apply HB;intro w hw;obtain⟨a,b,y,e,l⟩:=(d _).1 hw;simp only[Prod.mk.injEq]at l;obtain⟨⟨C,A⟩,_⟩:=l;have:a=v:=by omega
    subst this;have hb:b<i:=by omega
    exact p4 b hb A.symm
   refine⟨((i:Int)+1,CF (((v:Int),(fL (at' c (v:Int)) i).1)) (fL (at' c (v:Int)) i).2 g),⟨by simp,λz=> ?_⟩,?_⟩
   ·dsimp only;rw[Pq q,d];constructor
    ·rintro(rfl|⟨a,b,y,e,l⟩)
     ·exact⟨v,i,.inr ⟨rfl,by omega⟩,M,rfl⟩
     ·exact⟨a,b,by omega,e,l⟩
    ·rintro⟨a,b,y,e,l⟩;by_cases J:a=v∧b=i
     ·left;rw[l,J.1,J.2]
     ·right;exact⟨a,b,by omega,e,l⟩
   ·replace p1:0<=(at' (at' c (v:Int)) (i:Int)).1∧(at' (at' c (v:Int)) (i:Int)).1<=(c.length:Int) - 1:=p1;replace p3:1<=(at' (at' c (v:Int)) (i:Int)).2∧(at' (at' c (v:Int)) (i:Int)).2<=15:=p3;unfold cI gW jC;dsimp only;rw[if_pos (by omega),cA (by omega),if_neg (by omega),if_neg (by omega),if_neg (by rw[decide_eq_false p2];simp),if_neg (by omega),if_neg (by rw[decide_eq_false (by omega)];simp),q,if_neg (by simp),wr (by omega) (by omega)]
  ·rintro i ⟨H,g⟩ I M ⟨f,d⟩ P;dsimp only at f d;subst f;unfold cI gW jC;dsimp only;rw[if_pos (by omega),cA (by omega)];by_cases y:(fL (at' c (v:Int)) i).1<0
   ·rw[if_pos y,if_pos Z]
   rw[if_neg y];by_cases e:(c.length:Int)<=(fL (at' c (v:Int)) i).1
   ·rw[if_pos e,if_pos Z]
   rw[if_neg e];by_cases l:(fL (at' c (v:Int)) i).1=v
   ·rw[if_pos (decide_eq_true l)]
   rw[if_neg (by rw[decide_eq_false l];simp)];by_cases C:(fL (at' c (v:Int)) i).2<1
   ·rw[if_pos C,if_pos Z]
   rw[if_neg C];by_cases A:15<(fL (at' c (v:Int)) i).2
   ·rw[if_pos (decide_eq_true A)]
   rw[if_neg (by rw[decide_eq_false A];simp)];have:∃k,k<i∧(fL (at' c (v:Int)) k).1=(fL (at' c (v:Int)) i).1:=by
    apply Classical.byContradiction;intro hc;exact P ⟨by omega,l,by omega,λk N L=>hc ⟨k,N,L⟩⟩
   obtain⟨k,N,L⟩:=this;have n:=(d _).2 ⟨v,k,.inr ⟨rfl,N⟩,by omega,rfl⟩;rw[if_pos];rw[<-L];cases q:mE (((v:Int),(fL (at' c (v:Int)) k).1)) g with
   |some w=>rfl
   | none => exact absurd n (by
     intro n;exact uA q n)
  ·rintro⟨H,g⟩ I ⟨f,d⟩;dsimp only at f d;subst f;unfold cI mQ;dsimp only;rw[if_neg (by omega),wr (by omega) (by omega)]
 have t:=Gs (step:=cW 1000 c) (K:=λx=>jB x.2) (bad:=false) c.length (λv=>qF (at' c (v:Int)) v c.length) (λv x=>x.1=(v:Int)∧∀z,z∈x.2↔Oo c v 0 z) ?_ ?_ ?_ 1000 ((0:Int),[]) ⟨rfl,λz=>⟨λh=>(by cases h),fun⟨a,b,y,_⟩=>(by omega)⟩⟩ (by omega)
 rotate_left
 ·rintro v ⟨H,g⟩ p F ⟨f,d⟩ P;dsimp only at f d;subst f;obtain⟨X,y,e⟩:=(s v g p F d).1 P;refine⟨((v:Int)+1,X),⟨by simp,y⟩,?_⟩
  ·unfold cW;dsimp only;rw[if_pos (by omega),cA (by omega)];exact e
 ·rintro v ⟨H,g⟩ p F ⟨f,d⟩ P;dsimp only at f d;subst f;unfold cW;dsimp only;rw[if_pos (by omega),cA (by omega)];exact(s v g p F d).2 P
 ·rintro⟨H,g⟩ p ⟨f,d⟩;dsimp only at f d;subst f;unfold cW;dsimp only;rw[if_neg (by omega)]
 by_cases D:∀v,v<c.length->qF (at' c (v:Int)) v c.length
 rotate_left
 ·exact⟨λh=>absurd h.1 D,λ_=>t.2 D⟩
 obtain⟨⟨H,g⟩,⟨f,d⟩,L⟩:=t.1 D;rw[L];dsimp only at d ⊢;have N:jB g=some (decide (∀z∈g,¬(Option.getD (mE (z.1.2,z.1.1) g) (0:Int))≠z.2)):=Kk (λz:(Int×Int)×Int=>(Option.getD (mE (z.1.2,z.1.1) g) (0:Int))≠z.2) g;rw[N];have E:(∀z∈g,¬(Option.getD (mE (z.1.2,z.1.1) g) (0:Int))≠z.2)↔∀v,v<c.length->∀i,i<(at' c (v:Int)).length->Dc ([],c) v i:=by
  constructor
  ·intro h v F i M;have hw:=(D v F i M).2.2.1;have n:=(d (((v:Int),(fL (at' c (v:Int)) i).1),(fL (at' c (v:Int)) i).2)).2 ⟨v,i,.inl F,M,rfl⟩;have e:=Decidable.not_not.1 (h _ n);dsimp only at e;cases q:mE ((fL (at' c (v:Int)) i).1,(v:Int)) g with
   |none=>rw[q]at e;simp only[Option.getD]at e;omega
   | some w =>
    rw[q]at e;simp only[Option.getD]at e;obtain⟨a,b,l,C,A⟩:=(d _).1 (BX q);simp only[Prod.mk.injEq]at A;obtain⟨⟨T,U⟩,h8⟩:=A;refine⟨b,?_,?_,?_⟩
    ·show b<(at' c (fL (at' c (v:Int)) i).1).length;rw[T];exact C
    ·show(fL (at' c (fL (at' c (v:Int)) i).1) b).1=v;rw[T];exact U.symm
    ·show(fL (at' c (fL (at' c (v:Int)) i).1) b).2=(fL (at' c (v:Int)) i).2;rw[T,<-h8];exact e
  ·intro h z hz ac;obtain⟨a,b,l,C,rfl⟩:=(d z).1 hz;have W:a<c.length:=by omega
   apply ac;obtain⟨j,r,o,B⟩:=h a W b C;have hu:=(D a W b C).1;obtain⟨u,Q⟩:∃u:Nat,(fL (at' c (a:Int)) b).1=u:=⟨(fL (at' c (a:Int)) b).1.toNat,by omega⟩
   replace r:j<(at' c (fL (at' c (a:Int)) b).1).length:=r;replace o:(fL (at' c (fL (at' c (a:Int)) b).1) j).1=a:=o;replace B:(fL (at' c (fL (at' c (a:Int)) b).1) j).2=(fL (at' c (a:Int)) b).2:=B;rw[Q]at r o B;have G:u<c.length:=by omega
   dsimp only;rw[Q,<-B];have n:=(d (((u:Int),(fL (at' c (u:Int)) j).1),(fL (at' c (u:Int)) j).2)).2 ⟨u,j,.inl G,r,rfl⟩;rw[o]at n;cases q:mE ((u:Int),(a:Int)) g with
   |none=>exact absurd n (uA q)
   | some w =>
    obtain⟨Y,S,ae,aa,A⟩:=(d _).1 (BX q);simp only[Prod.mk.injEq]at A;obtain⟨⟨T,U⟩,h8⟩:=A;have:Y=u:=by omega
    subst this;have ab:S=j:=by
     rcases Nat.lt_trichotomy S j with O|O|O
     ·exact absurd (U.symm.trans o.symm) ((D Y G j r).2.2.2 S O)
     ·exact O
     ·exact absurd (o.trans U) ((D Y G S aa).2.2.2 j O)
    subst ab;exact h8
 by_cases V:∀v,v<c.length->∀i,i<(at' c (v:Int)).length->Dc ([],c) v i
 ·rw[decide_eq_true (E.2 V)];exact⟨λ_=>rfl,λh=>absurd ⟨D,V⟩ h⟩
 ·rw[decide_eq_false (λh=>V (E.1 h))];exact⟨λh=>absurd h.2 V,λ_=>rfl⟩
theorem Kr:∀(N:Nat) (f:Nat->Nat) (k:Nat),(∀i,i<k->f i<N)->(∀i j,i<j->j<k->f i≠f j)->k<=N
 |0,f,k,h,_=>by
  cases k with
  |zero=>omega
  |succ k=>exact absurd (h 0 (by omega)) (by omega)
 | N + 1, f, k, h, hd => by
  by_cases b:∃a,a<k∧f a=N
  ·obtain⟨a,g,l⟩:=b;have:=Kr N (λi=>if i<a then f i else f (i+1)) (k - 1) (λi c=>by
    split
    ·have:=h i (by omega);have:=hd i a (by omega) g;omega
    ·have:=h (i+1) (by omega);have:=hd a (i+1) (by omega) (by omega);omega) (λi j d m=>by
    split<;>split
    ·exact hd i j d (by omega)
    ·exact hd i (j+1) (by omega) (by omega)
    ·omega
    ·exact hd (i+1) (j+1) (by omega) (by omega))
   omega
  ·have:=Kr N f k (λi c=>by
    have:=h i c;have:f i≠N:=λe=>b ⟨i,c,e⟩;omega) hd
   omega
theorem Rq {l:fM} {v n:Nat} (b:v<n) (h:qF l v n):l.length<n:=by
 have:=Kr n (λi=>if i=l.length then v else(fL l i).1.toNat) (l.length+1) (λi e=>by
  split
  ·exact b
  ·have:=(h i (by omega)).1;omega) (λi j a f=>by
  rw[if_neg (by omega)];have c:=(h i (by omega)).1;split
  ·have:=(h i (by omega)).2.1;omega
  ·have d:=(h j (by omega)).1;have:=(h j (by omega)).2.2.2 i a;omega)
 omega
theorem Qv (g:GR) (j:light g):(VG g->h_ 1000 g=some true)∧(¬VG g->h_ 1000 g=some false):=by
 obtain⟨e,f,i⟩:=j;unfold h_ pV pW;by_cases l:g.1.length<1
 ·rw[if_pos (by omega)];exact⟨λh=>by have:=h.n1;have:=h.len;omega,λ_=>rfl⟩
 rw[if_neg (by omega)];by_cases m:24<g.1.length
 ·rw[if_pos (by omega)];exact⟨λh=>by have:=h.n24;have:=h.len;omega,λ_=>rfl⟩
 rw[if_neg (by omega)];by_cases d:g.1.length=g.2.length
 rotate_left
 ·rw[decide_eq_true (by omega)];exact⟨λh=>absurd h.len d,λ_=>rfl⟩
 rw[decide_eq_false (by omega),if_neg (by simp)];by_cases b:∀k,k<g.1.length->VX g.1 k
 rotate_left
 ·rw[(uL g.1 e).2 b,bH Z];exact⟨λh=>absurd (λk n=>⟨(h.node k (by omega)).id,(h.node k (by omega)).ids⟩) b,λ_=>rfl⟩
 rw[(uL g.1 e).1 b,bH Z,if_pos Z];by_cases a:Lr g.2
 ·rw[(GQ g.2 f i).1 a];exact⟨λ_=>rfl,λh=>absurd ⟨by omega,by omega,d,λv c=>⟨(b v (by omega)).1,Rq c (a.1 v c),a.1 v c,(b v (by omega)).2⟩,a.2⟩ h⟩
 ·rw[(GQ g.2 f i).2 a];exact⟨λh=>absurd ⟨λv c=>(h.node v c).links,h.sym⟩ a,λ_=>rfl⟩
theorem VG.light {g:GR} (h:VG g):light g:=⟨by have:=h.n24;have:=h.len;omega,by have:=h.n24;omega,λv a=>by have:=(h.node v a).deg;have:=h.n24;omega⟩
abbrev D (d:aQ) (v:Nat):Int:=at' d (v:Int)
def KU (g:GR) (v u:Nat):Prop:=∃i,i<(row g v).length∧(fL (row g v) i).1=(u:Int)
theorem VG.port {g:GR} (h:VG g) {v i:Nat} (b:v<g.2.length) (a:i<(row g v).length):∃u:Nat,u<g.2.length∧(fL (row g v) i).1=(u:Int)∧KU g v u:=by
 have c:=((h.node v b).links i a).1;exact⟨(fL (row g v) i).1.toNat,by omega,by omega,i,a,by omega⟩
theorem VG.back {g:GR} (h:VG g) {v u:Nat} (f:v<g.2.length) (c:KU g v u):KU g u v:=by
 obtain⟨i,d,e⟩:=c;obtain⟨j,b,a,_⟩:=h.sym v f i d;rw[e]at b a;exact⟨j,b,a⟩
theorem VG.adj_lt {g:GR} (h:VG g) {v u:Nat} (c:v<g.2.length) (a:KU g v u):u<g.2.length:=by
 obtain⟨i,b,d⟩:=a;have:=((h.node v c).links i b).1;omega
def Gj (d:aQ):Nat:=d.countP λx=>decide (x<0)
structure QJ (g:GR) (s:Nat) (d:aQ):Prop where
 len:d.length=g.2.length
 lo:∀v,v<g.2.length -> -1<=D d v
 zero:∀v,v<g.2.length->(D d v=0↔v=s)
 near:∀v,v<g.2.length->0<D d v->∃u,u<g.2.length∧KU g v u∧D d u=D d v - 1
 hi:∀v,v<g.2.length->D d v+(Gj d:Int)<=(g.2.length:Int)
structure Qu (g:GR) (q d:aQ) (b:Int) (done:Nat->Prop):Prop where
 mem:∀y∈q,∃v,v<g.2.length∧y=((v:Nat):Int)∧0<=D d v
 top:∀v,v<g.2.length->D d v<=b
 sort:q.Pairwise λa c=>at' d a<=at' d c
 done:∀v,v<g.2.length->0<=D d v->((v:Nat):Int)∉q->done v->∀u,u<g.2.length->KU g v u->0<=D d u∧D d u<=D d v+1
theorem Eu {d:aQ} {v:Nat} (h:v<d.length):D d v=d[v]:=by
 rw[D,fQ,List.getD_eq_getElem?_getD,List.getElem?_eq_getElem h];rfl
theorem JG {d:aQ} {u:Nat} {x:Int} (a:u<d.length) (b:D d u<0) (e:0<=x):Gj (d.set u x)+1=Gj d:=by
 unfold Gj;rw[List.countP_set a];have c:0<d.countP λx=>decide (x<0):=by
  rw[List.countP_pos_iff];exact⟨d[u],List.getElem_mem a,by rw[<-Eu a];simpa using b⟩
 rw[Eu a]at b;rw[if_pos (by simpa using b),if_neg (by simp;omega)];omega
theorem assign {g:GR} {s:Nat} {q d:aQ} {b:Int} {done:Nat->Prop} (E:VG g) (l:QJ g s d) {x u:Nat} (m:Qu g q d (D d x+1) done) (B:x<g.2.length) (K:0<=D d x) (J:u<g.2.length) (t:D d u<0) (F:KU g x u):
  QJ g s (d.set u (D d x+1))∧Qu g (q++[(u:Int)]) (d.set u (D d x+1)) (D d x+1) done:=by
 have o:=l.len;have e:∀v,D (d.set u (D d x+1)) v=if v=u then D d x+1 else D d v:=λv=>tP _ _ _ _ (by omega);have G:=JG (x:=D d x+1) (by omega:u<d.length) t (by omega);refine⟨⟨by simp[o],λv f=> ?_,λv f=> ?_,λv f=> ?_,λv f=> ?_⟩,⟨λy j=> ?_,λv f=> ?_,?_,λv f k n H w A i=> ?_⟩⟩
 ·rw[e];split
  ·omega
  ·exact l.lo v f
 ·rw[e];split
  ·rename_i h;subst h;have:=(l.zero v f)
   constructor
   ·intro;omega
   ·intro h;have:=this.2 h;omega
  ·exact l.zero v f
 ·rw[e];split
  ·rename_i h;subst h;intro _;refine⟨x,B,E.back B F,?_⟩
   rw[e,if_neg (by intro h;subst h;omega)];omega
  ·intro k;obtain⟨w,A,i,I⟩:=l.near v f k;refine⟨w,A,i,?_⟩
   rw[e,if_neg (by intro h;subst h;omega)];exact I
 ·rw[e];split
  ·have:=l.hi x B;omega
  ·have:=l.hi v f;omega
 ·rcases List.mem_append.1 j with j|j
  ·obtain⟨v,f,rfl,k⟩:=m.mem y j;refine⟨v,f,rfl,?_⟩
   rw[e];split<;>omega
  ·simp only[List.mem_singleton]at j;refine⟨u,J,j,?_⟩
   rw[e,if_pos Z];omega
 ·rw[e];split
  ·omega
  ·exact m.top v f
 ·rw[List.pairwise_append];have n:∀y∈q,at' (d.set u (D d x+1)) y=at' d y:=by
   intro y j;obtain⟨v,f,rfl,k⟩:=m.mem y j;have:=e v;rw[if_neg (by intro h;subst h;omega)]at this;exact this
  refine⟨m.sort.imp_of_mem λ{a c} h1 r h=> ?_,List.pairwise_singleton ..,λy j z C=> ?_⟩
  ·rw[n a h1,n c r];exact h
  ·simp only[List.mem_singleton]at C;subst C;rw[n y j];have r:=e u;rw[if_pos Z]at r;obtain⟨v,f,rfl,k⟩:=m.mem y j;have:=m.top v f;show D d v<=D (d.set u (D d x+1)) u;omega
 ·have p:v≠u:=by
   rintro rfl;exact n (by simp)
  rw[e,if_neg p]at k;rw[e v,if_neg p];have:=m.done v f k (λh=>n (List.mem_append_left _ h)) H w A i;rw[e w,if_neg (by rintro rfl;omega)];exact this
theorem NA {g:GR} (E:VG g) {s x:Nat} (I:x<g.2.length) (a e:aQ) (R:List Int×aQ->Option aQ) (r:aQ->Prop)
  (o:QJ g s e) (ae:0<=D e x) (m:Qu g a e (D e x+1) (λv=>v≠x)) (hm:a.length+Gj e<=g.2.length)
  (K:∀q d,QJ g s d->D d x=D e x->Qu g q d (D d x+1) (λ_=>True)->q.length+Gj d=a.length+Gj e->(∀y∈q,D e x<=at' d y)->OK r (R (q,d)))
  (l:∀y∈a,D e x<=at' e y):
  OK r (bJ (qX g ((x:Int)::a,e) R) 1000 ((0:Int),a,e)):=by
 have U:=(E.node x I).deg;have aa:=E.n24;refine wP (λz:Int×List Int×aQ=>∃k:Nat,z.1=k∧k<=(row g x).length∧QJ g s z.2.2∧D z.2.2 x=D e x∧Qu g z.2.1 z.2.2 (D e x+1) (λv=>v≠x)∧z.2.1.length+Gj z.2.2=a.length+Gj e∧(∀i,i<k->∀u:Nat,(fL (row g x) i).1=u->0<=D z.2.2 u)∧(∀y∈z.2.1,D e x<=at' z.2.2 y)) (λz=>31 - z.1.toNat) ?_ 1000 _ ⟨0,rfl,by omega,o,rfl,m,rfl,λi L=>by omega,l⟩ (by simp);rintro⟨z1,q,d⟩ X ⟨k,W,hk,o,f,m,A,F,l⟩ p;dsimp only at W o f m A F l;subst W;have V:=o.len;have e0:at' ((x:Int)::a) 0=(x:Int):=rfl;unfold qX qW;dsimp only;rw[e0];by_cases N:k<(row g x).length
 ·rw[if_pos (show(k:Int)<((row g x).length:Int) by omega),cA (show 0<=(k:Int)∧(k:Int)<((row g x).length:Int) by omega)];obtain⟨u,G,O,j⟩:=E.port I N;rw[show at' (at' g.2 (x:Int)) (k:Int)=fL (row g x) k from rfl,O,cA (by omega)];have ac:=o.hi x I;by_cases c:at' d (u:Int)<0
  ·have J:Qu g q d (D d x+1) (λv=>v≠x):=by rw[f];exact m
   obtain⟨Y,c2⟩:=assign (b:=0) E o J I (by omega) G c j;have ab:=JG (x:=D d x+1) (by omega:u<d.length) c (by omega);have n:∀v,D (d.set u (D d x+1)) v=if v=u then D d x+1 else D d v:=λv=>tP _ _ _ _ (by omega);have Q:x≠u:=by rintro rfl;have:D d x<0:=c;omega
   rw[if_pos c,cA (by omega),cA (by omega),cA (by simp only[List.length_singleton];omega),wr (x:=(k:Int)+1) (by omega) (by omega),wr (x:=at' d (x:Int)+1) (by show -9223372036854775808<=D d x+1;omega) (by show D d x+1<=_;omega)];refine p _ ⟨k+1,by simp,by omega,Y,?_,?_,?_,?_,?_⟩ (by dsimp only;omega)
   ·show D (d.set u (D d x+1)) x=_;rw[n,if_neg Q];exact f
   ·rw[<-f];exact c2
   ·show(q++[(u:Int)]).length+Gj (d.set u (D d x+1))=_;simp only[List.length_append,List.length_singleton];omega
   ·intro i L w P;show 0<=D (d.set u (D d x+1)) w;rw[n];split
    ·omega
    ·by_cases t:i=k
     ·subst t;omega
     ·exact F i (by omega) w P
   ·intro y B;show D e x<=at' (d.set u (D d x+1)) y;rcases List.mem_append.1 B with B|B
    ·have h1:=l y B;obtain⟨v,H,rfl,S⟩:=m.mem y B;have T:=n v;rw[if_neg (by intro h;subst h;have:D d v<0:=c;omega)]at T;rw[show at' (d.set u (D d x+1)) (v:Int)=D d v from T];exact h1
    ·simp only[List.mem_singleton]at B;subst B;rw[show at' (d.set u (D d x+1)) (u:Int)=D d x+1 from(n u).trans (if_pos Z)];omega
  ·rw[if_neg c,wr (by omega) (by omega)];refine p _ ⟨k+1,by simp,by omega,o,f,m,A,?_,l⟩ (by dsimp only;omega);intro i L w P;by_cases t:i=k
   ·subst t;have:w=u:=by omega
    subst this;show 0<=at' d (w:Int);omega
   ·exact F i (by omega) w P
 ·rw[if_neg (show¬(k:Int)<((row g x).length:Int) by omega)];have ad:k=(row g x).length:=by omega
  refine K q d o f ⟨m.mem,λv H=>by rw[f];exact m.top v H,m.sort,λv H S hq _ u G j=> ?_⟩ A l;by_cases C:v=x
  ·subst C;obtain⟨i,L,M⟩:=j;exact⟨F i (by omega) u M,by rw[f];exact m.top u G⟩
  ·exact m.done v H S hq C u G j
structure oU (g:GR) (s:Nat) (d:aQ):Prop where
 len:d.length=g.2.length
 lo:∀v,v<g.2.length -> -1<=D d v
 zero:∀v,v<g.2.length->(D d v=0↔v=s)
 near:∀v,v<g.2.length->0<D d v->∃u,u<g.2.length∧KU g v u∧D d u=D d v - 1
 next:∀v,v<g.2.length->0<=D d v->∀u,u<g.2.length->KU g v u->0<=D d u∧D d u<=D d v+1
 hi:∀v,v<g.2.length->D d v<=(g.2.length:Int)
theorem PX {g:GR} (t:VG g) {s:Nat} (f:aQ) (k:aQ) (b:QJ g s f) (c:Qu g k f (match k with|[]=>1000|y::_=>at' f y+1) (λ_=>True)) (j:k.length+Gj f<=g.2.length):
  OK (oU g s) (bJ (nS 1000 g) 1000 (k,f)):=by
 have G:=t.n24;refine wP (λz:List Int×aQ=>QJ g s z.2∧Qu g z.1 z.2 (match z.1 with|[]=>1000|y::_=>at' z.2 y+1) (λ_=>True)∧z.1.length+Gj z.2<=g.2.length) (λz=>z.1.length+Gj z.2) ?_ 1000 _ ⟨b,c,j⟩ (by dsimp only;omega);rintro⟨q,d⟩ C ⟨b,c,j⟩ m;dsimp only at b c j;unfold nS uR;dsimp only;cases q with
 |nil=>
  rw[if_neg (by simp)];exact⟨d,rfl,b.len,b.lo,b.zero,b.near,λv e l u n a=>c.done v e l (by simp) trivial u n a,λv e=>by have:=b.hi v e;omega⟩
 | cons y rest =>
  obtain⟨x,A,rfl,p⟩:=c.mem y (List.mem_cons_self ..);have F:at' ((x:Int)::rest) 0=(x:Int):=rfl;rw[if_pos (by simp only[List.length_cons];omega),cA (by simp only[List.length_cons];omega),cA (by simp only[List.length_cons];omega),F,cA (by omega)];have w:=List.pairwise_cons.1 c.sort;simp only[List.length_cons]at j;refine NA t A rest d C _ b p ⟨λz I=>c.mem z (List.mem_cons_of_mem _ I),c.top,w.2,λv e l H o u n a=>c.done v e l (λh=> ?_) trivial u n a⟩ (by omega) (λB E r J i K D=> ?_) w.1
  ·rcases List.mem_cons.1 h with h|h
   ·exact o (by omega)
   ·exact H h
  ·refine m (B,E) ⟨r,⟨i.mem,λv e=> ?_,i.sort,i.done⟩,by dsimp only;omega⟩ (by simp only[List.length_cons];omega);dsimp only;have L:=i.top v e;cases B with
   |nil=>
    dsimp only;have:=r.hi x A;omega
   |cons z M=>
    dsimp only;have:=D z (List.mem_cons_self ..);omega
theorem EK {g:GR} (l:VG g) {s:Nat} (m:s<g.2.length):OK (oU g s) (jW 1000 g (s:Int)):=by
 have q:=l.n24;unfold jW;rw[cA (by omega)];refine wP (λz:lB=>∃k:Nat,z.1=k∧k<=g.2.length∧z.2.length=g.2.length∧∀v,v<k->D z.2 v = -1) (λz=>31 - z.1.toNat) ?_ 1000 _ ⟨0,rfl,by omega,by simp,λv c=>by omega⟩ (by simp);rintro⟨C,d⟩ A ⟨k,o,B,e,j⟩ i;dsimp only at o e j;subst o;unfold zQ;simp only[List.length_replicate,Int.toNat_natCast];by_cases u:k<g.2.length
 ·rw[if_pos (by omega),cA (by omega),wr (by omega) (by omega)];refine i _ ⟨k+1,by simp,by omega,by simp[e],λv c=> ?_⟩ (by dsimp only;omega);show at' (d.set k (-1)) (v:Int) = -1;rw[tP _ _ _ _ (by omega)];split
  ·rfl
  ·exact j v (by omega)
 ·rw[if_neg (by omega)];unfold zP;rw[cA (by omega)];have b:∀v,v<g.2.length->D d v = -1:=λv c=>j v (by omega);have a:∀v,D (d.set s 0) v=if v=s then 0 else D d v:=λv=>tP _ _ _ _ (by omega);have t:=JG (x:=0) (by omega:s<d.length) (by rw[b s m];omega) (by omega);have r:Gj d<=d.length:=List.countP_le_length ..;refine PX l _ _ ⟨by simp[e],λv c=> ?_,λv c=> ?_,λv c=> ?_,λv c=> ?_⟩ ⟨λy n=> ?_,λv c=> ?_,List.pairwise_singleton ..,λv c p w=> ?_⟩ ?_
  ·rw[Int.toNat_natCast,a];split
   ·omega
   ·rw[b v c];omega
  ·rw[Int.toNat_natCast,a];split
   ·rename_i h;exact⟨λ_=>h,λ_=>rfl⟩
   ·rename_i h;rw[b v c];exact⟨λf=>by omega,λf=>absurd f h⟩
  ·rw[Int.toNat_natCast,a];split
   ·omega
   ·rw[b v c];omega
  ·rw[Int.toNat_natCast,a];split
   ·omega
   ·rw[b v c];omega
  ·simp only[List.mem_singleton]at n;refine⟨s,m,n,?_⟩
   rw[Int.toNat_natCast,a,if_pos Z];omega
  ·rw[Int.toNat_natCast];have f:at' (d.set s 0) (s:Int)=0:=(a s).trans (if_pos Z);show D (d.set s 0) v<=at' (d.set s 0) (s:Int)+1;rw[f,a];split
   ·omega
   ·rw[b v c];omega
  ·rw[Int.toNat_natCast,a,if_neg (by rintro rfl;exact w (by simp)),b v c]at p;omega
  ·rw[Int.toNat_natCast];simp only[List.length_singleton];omega
theorem M_ {g:GR} (a:VG g) {s:Nat} (e:s<g.2.length):OK (oU g s) (oC 1000 g (s:Int)):=by
 unfold oC mP;rw[(Qv g a.light).1 a,bH Z,if_neg (by simp),if_neg (by omega),decide_eq_false (by omega),if_neg (by simp)];obtain⟨d,c,b⟩:=EK a e;rw[c];exact⟨d,rfl,b⟩
def xY (g:GR) (s:Nat):Nat->Nat->Prop
 |0,v=>v=s∧s<g.2.length
 |k+1,v=>∃u,xY g s k u∧KU g u v
theorem xY.lt {g:GR} (a:VG g) {s:Nat}:∀{k v:Nat},xY g s k v->v<g.2.length
 |0,_,h=>by obtain⟨rfl,h⟩:=h;exact h
 |_+1,_,h=>by obtain⟨u,b,c⟩:=h;exact a.adj_lt (xY.lt a b) c
theorem xY.trans {g:GR} {s t:Nat} {k:Nat} (h:xY g s k t):∀{m v:Nat},xY g t m v->xY g s (k+m) v
 |0,_,h2=>by obtain⟨rfl,_⟩:=h2;exact h
 |_+1,_,h2=>by obtain⟨u,a,b⟩:=h2;exact⟨u,xY.trans h a,b⟩
theorem Gf {g:GR} (a:VG g) {s:Nat}:∀{k v:Nat},xY g s k v->xY g v k s
 |0,_,h=>by obtain⟨rfl,h⟩:=h;exact⟨rfl,h⟩
 |k+1,v,h=>by
  obtain⟨u,b,c⟩:=h;have d:=xY.lt a b;have e:xY g v 1 u:=⟨v,⟨rfl,a.adj_lt d c⟩,a.back d c⟩
  have:=xY.trans e (Gf a b);rwa[Nat.add_comm]at this
theorem oU.le {g:GR} (a:VG g) {s:Nat} {d:aQ} (h:oU g s d):∀{k v:Nat},xY g s k v->0<=D d v∧D d v<=k
 |0,v,hw=>by
  obtain⟨rfl,i⟩:=hw;have:=(h.zero v i).2 Z;omega
 |k+1,v,hw=>by
  obtain⟨u,b,c⟩:=hw;have e:=xY.lt a b;have f:=oU.le a h b;have j:=h.next u e f.1 v (a.adj_lt e c) c;omega
theorem Li {g:GR} (b:VG g) {s:Nat} {d:aQ} (h:oU g s d):∀(k v:Nat),v<g.2.length->D d v=k->xY g s k v
 |0,v,hv,he=>by
  have:=(h.zero v hv).1 he;exact⟨this,by omega⟩
 |k+1,v,hv,he=>by
  obtain⟨u,c,a,e⟩:=h.near v hv (by omega);exact⟨u,Li b h k u c (by omega),b.back hv a⟩
theorem oU.pos {g:GR} (a:VG g) {s:Nat} {d:aQ} (h:oU g s d) {v:Nat} (b:v<g.2.length) (c:0<=D d v):xY g s (D d v).toNat v:=
 Li a h _ v b (by omega)
theorem Pa (d:aQ) (h:d.length<=30):OK (λr:Int=> -1<=r∧(∀v,v<d.length->D d v<=r)∧(r = -1∨∃v,v<d.length∧D d v=r)) (sZ 1000 d):=by
 unfold sZ;refine wP (λz:fP=>∃k:Nat,z.2=k∧k<=d.length ∧ -1<=z.1∧(∀v,v<k->D d v<=z.1)∧(z.1 = -1∨∃v,v<k∧D d v=z.1)) (λz=>31 - z.2.toNat) ?_ 1000 _ ⟨0,rfl,by omega,by omega,λv b=>by omega,.inl Z⟩ (by simp);rintro⟨m,z⟩ n ⟨k,j,o,g,c,a⟩ e;dsimp only at j g c a;subst j;unfold Bl Bj;dsimp only;by_cases l:k<d.length
 ·rw[if_pos (by omega),cA (by omega),wr (by omega) (by omega)];refine e _ ⟨k+1,by simp,by omega,by dsimp only;omega,λv b=> ?_,?_⟩ (by dsimp only;omega)
  ·by_cases f:v=k
   ·subst f;show D d v<=max m (D d v);omega
   ·have:=c v (by omega);show D d v<=max m (D d k);omega
  ·by_cases p:m<=D d k
   ·exact .inr ⟨k,by omega,by show D d k=max m (D d k);omega⟩
   ·rcases a with a|⟨v,b,i⟩
    ·left;show max m (D d k) = -1;omega
    ·exact .inr ⟨v,by omega,by show D d v=max m (D d k);omega⟩
 ·rw[if_neg (by omega)];refine⟨m,rfl,g,λv b=>c v (by omega),?_⟩
  rcases a with a|⟨v,b,i⟩
  ·exact .inl a
  ·exact .inr ⟨v,by omega,i⟩
def Hg (g:GR):Prop:=∀u v,u<g.2.length->v<g.2.length->∃k,xY g u k v
theorem Al {g:GR} (a:VG g):(Hg g->eT 1000 g=some true)∧(¬Hg g->eT 1000 g=some false):=by
 have r:=a.n1;have n:=a.n24;unfold eT;obtain⟨d,o,e⟩:=EK a (s:=0) (by omega);have j:=e.len;rw[(Qv g a.light).1 a,bH Z,if_neg (by simp),show jW 1000 (g.1,g.2) 0=some d from o,bH Z];have c:=Cz (step:=kV d) (K:=some true) (bad:=false) d.length (λv=>0<=D d v) (λk i f p=> ?_) (λk i f p=> ?_) (λi=> ?_) 1000 (by omega)
 ·have b:(∀v,v<d.length->0<=D d v)↔Hg g:=by
   constructor
   ·intro h u v q l;exact⟨_,xY.trans (Gf a (oU.pos a e q (h u (by omega)))) (oU.pos a e l (h v (by omega)))⟩
   ·intro h v l;obtain⟨k,f⟩:=h 0 v (by omega) (by omega);exact(oU.le a e f).1
  exact⟨λh=>c.1 (b.2 h),λh=>c.2 λm=>h (b.1 m)⟩
 ·unfold kV;rw[if_pos (by omega),cA (by omega),if_neg (show¬D d k<0 by omega),wr (by omega) (by omega)]
 ·unfold kV;rw[if_pos (by omega),cA (by omega),if_pos (show D d k<0 by omega)]
 ·unfold kV qI;rw[if_neg (by omega)]
def Ecc (g:GR) (s:Nat) (r:Int):Prop:=∃d,jW 1000 g (s:Int)=some d∧oU g s d∧(∀v,v<g.2.length->D d v<=r)∧∃v,v<g.2.length∧D d v=r
theorem Jg {g:GR} {s:Nat} {r e:Int} (h:Ecc g s r) (f:Ecc g s e):r=e:=by
 obtain⟨d,i,_,j,v,l,o⟩:=h;obtain⟨n,a,_,b,m,c,k⟩:=f;rw[i]at a;cases a;have:=j m c;have:=b v l;omega
theorem Ru {g:GR} (e:VG g) {s:Nat} (i:s<g.2.length):∃d r,jW 1000 g (s:Int)=some d∧sZ 1000 d=some r∧Ecc g s r:=by
 obtain⟨d,f,a⟩:=EK e i;have h:=a.len;have j:=e.n24;obtain⟨r,l,o,b,c⟩:=Pa d (by omega);have n:=b s (by omega);have:=(a.zero s i).2 Z;refine⟨d,r,f,l,d,f,a,λv m=>b v (by omega),?_⟩
 rcases c with c|⟨v,m,k⟩
 ·omega
 ·exact⟨v,by omega,k⟩
theorem zN {g:GR} (a:VG g) (f:Hg g) {s:Nat} (h:s<g.2.length):OK (Ecc g s) (oD 1000 g (s:Int)):=by
 unfold oD nN;rw[(Al a).1 f,bH Z,if_neg (by simp),if_neg (by omega),decide_eq_false (by omega),if_neg (by simp)];obtain⟨d,r,b,c,e⟩:=Ru a h;rw[b,bH Z,c,bH Z];exact⟨r,rfl,e⟩
theorem Vy (g:GR) (v:Nat) (u:Int) (m:v<g.2.length) (l:(row g v).length<=30):sF 1000 g v u=some (AN (row g v) u):=by
 unfold sF;rw[cA (by omega)];rcases CG (row g v) u with⟨i,j,h,c,b⟩|⟨c,b⟩
 ·rw[b];refine Ao (λx:Int=>∃k:Nat,x=k∧k<=i) (λx=>31 - x.toNat) ?_ 1000 _ ⟨0,rfl,by omega⟩ (by omega);rintro x d ⟨k,rfl,f⟩ a;unfold uQ;rw[if_pos (show(k:Int)<((row g v).length:Int) by omega),cA (show 0<=(k:Int)∧(k:Int)<((row g v).length:Int) by omega)];by_cases e:k=i
  ·subst e;exact if_pos h
  ·rw[if_neg (c k (by omega)),wr (by omega) (by omega)];exact a _ ⟨k+1,by omega,by omega⟩ (by omega)
 ·rw[b];refine Ao (λx:Int=>∃k:Nat,x=k∧k<=(row g v).length) (λx=>31 - x.toNat) ?_ 1000 _ ⟨0,rfl,by omega⟩ (by omega);rintro x d ⟨k,rfl,f⟩ a;unfold uQ;by_cases e:k<(row g v).length
  ·rw[if_pos (show(k:Int)<((row g v).length:Int) by omega),cA (show 0<=(k:Int)∧(k:Int)<((row g v).length:Int) by omega),if_neg (c k e),wr (by omega) (by omega)];exact a _ ⟨k+1,by omega,by omega⟩ (by omega)
  ·rw[if_neg (show¬(k:Int)<((row g v).length:Int) by omega)];rfl
section
def ajU (f:Nat->Nat):Nat->Nat
 |0=>0
 |k+1=>ajU f k+f k
open Classical in
noncomputable def ind (p:Prop):Nat:=if p then 1 else 0
theorem Ra {g:GR} (a:VG g) {v:Nat} (d:v<g.2.length):¬KU g v v:=by
 rintro⟨i,c,b⟩;exact((a.node v d).links i c).2.1 b
end
theorem My (a:Nat) (h:a<4294967296):IntKind.u32.wrap (a:Int)=a:=by rw[<-Er];exact if_pos ⟨by omega,by omega⟩
def Oh (x:Int):Nat:=(BitVec.ofInt 32 x).toNat
theorem Jp (x:Int):Oh x<4294967296:=(BitVec.ofInt 32 x).isLt
theorem yK {a:Nat} (h:a<4294967296):Oh (a:Int)=a:=by
 unfold Oh;rw[BitVec.ofInt_natCast,BitVec.toNat_ofNat];exact Nat.mod_eq_of_lt h
theorem MP (x y:Int):dR .u32 x y=((Oh x &&& Oh y:Nat):Int):=by
 show IntKind.u32.wrap (((BitVec.ofInt 32 x &&& BitVec.ofInt 32 y).toNat:Nat):Int)=_;rw[BitVec.toNat_and];exact My _ (Nat.lt_of_le_of_lt Nat.and_le_left (Jp x))
theorem acW (x y:Int):MQ .u32 x y=((Oh x ||| Oh y:Nat):Int):=by
 show IntKind.u32.wrap (((BitVec.ofInt 32 x ||| BitVec.ofInt 32 y).toNat:Nat):Int)=_;rw[BitVec.toNat_or];exact My _ (Nat.or_lt_two_pow (n:=32) (Jp x) (Jp y))
theorem WJ (x y:Int):uK .u32 x y=0↔∀i,(Oh x).testBit i=true->(Oh y).testBit i=true:=by
 have e:uK .u32 x y=(((BitVec.ofInt 32 x &&& ~~~ BitVec.ofInt 32 y).toNat:Nat):Int):=My _ (BitVec.ofInt 32 x &&& ~~~ BitVec.ofInt 32 y).isLt;have b:∀i,(BitVec.ofInt 32 x &&& ~~~ BitVec.ofInt 32 y).toNat.testBit i=((Oh x).testBit i&&(decide (i<32) && !(Oh y).testBit i)):=by
  intro i;have:=BitVec.getLsbD_and (x:=BitVec.ofInt 32 x) (y:= ~~~ BitVec.ofInt 32 y) (i:=i);rw[BitVec.getLsbD_not]at this;exact this
 have d:∀i,(Oh x).testBit i=true->i<32:=by
  intro i a;apply Classical.byContradiction;intro f;rw[Nat.testBit_lt_two_pow (Nat.lt_of_lt_of_le (Jp x) (Nat.pow_le_pow_right (n:=2) (by omega) (show 32<=i by omega)))]at a;cases a
 rw[e];constructor
 ·intro h i a;have c:(BitVec.ofInt 32 x &&& ~~~ BitVec.ofInt 32 y).toNat=0:=by omega
  have:=b i;rw[c,Nat.zero_testBit,a,decide_eq_true (d i a)]at this;simpa using this
 ·intro h;have:(BitVec.ofInt 32 x &&& ~~~ BitVec.ofInt 32 y).toNat=0:=by
   apply Nat.eq_of_testBit_eq;intro i;rw[b i,Nat.zero_testBit];cases a:(Oh x).testBit i with
   |false=>rfl
   |true=>rw[h i a];simp
  omega
theorem Ij {k:Nat} (a:k<32):2^k<4294967296:=Nat.pow_lt_pow_right (n:=32) (by omega) a
theorem ach {k:Nat} (a:k<32):Cn .u32 1 (k:Int)=((2^k:Nat):Int):=by
 show IntKind.u32.wrap (1*2^(min ((k:Int).toNat) 32))=_;rw[Int.toNat_natCast,Nat.min_eq_left (by omega),Int.one_mul,show(2:Int)^k=((2^k:Nat):Int) by simp];exact My _ (Ij a)
theorem MR {a k:Nat} (b:k<32):r_ .u32 (a:Int) (k:Int)=((a / 2^k:Nat):Int):=by
 show Int.fdiv (a:Int) (2^(min ((k:Int).toNat) 32))=_;rw[Int.toNat_natCast,Nat.min_eq_left (by omega),show(2:Int)^k=((2^k:Nat):Int) by simp,Int.fdiv_eq_ediv_of_nonneg _ (Int.natCast_nonneg _)];simp
theorem XS {a k:Nat} (d:k<32) (c:a<4294967296):dR .u32 (r_ .u32 (a:Int) (k:Int)) 1=1↔a.testBit k=true:=by
 have b:Oh 1=1:=yK (a:=1) (by omega);rw[MR d,MP,yK (Nat.lt_of_le_of_lt (Nat.div_le_self _ _) c),b,Nat.and_one_is_mod,Nat.testBit_eq_decide_div_mod_eq,decide_eq_true_eq];omega
def Ji (g:GR) (s:Nat):Prop:=(∀v,s.testBit v=true->v<g.2.length)∧∀v u,s.testBit v=true->s.testBit u=true->¬KU g v u
theorem acT {g:GR} (a:VG g):zF 1000 g=some ((2^g.2.length - 1:Nat):Int):=by
 have c:=a.n24;have d:=a.len;have e:=Ij (show g.2.length<32 by omega);have b:1<=2^g.2.length:=Nat.one_le_two_pow;unfold zF;rw[cA (by omega),d,ach (by omega),show((2^g.2.length:Nat):Int) - 1=((2^g.2.length - 1:Nat):Int) by omega];congr 1;exact if_pos ⟨by omega,by omega⟩
theorem oU.lt {g:GR} {s:Nat} {d:aQ} (h:oU g s d) {v:Nat} (p:v<g.2.length):D d v<(g.2.length:Int):=by
 apply Classical.byContradiction;intro t;have all:∀m:Nat,(m:Int)<=D d v->∃w,w<g.2.length∧D d w=D d v - m:=by
  intro m
  induction m with
  |zero=>intro _;exact⟨v,p,by omega⟩
  |succ m q=>
   intro x;obtain⟨w,e,c⟩:=q (by omega);obtain⟨u,n,_,o⟩:=h.near w e (by omega);exact⟨u,n,by omega⟩
 have b:∀i:Nat,i<g.2.length+1->∃w,w<g.2.length∧D d w=(i:Int):=by
  intro i a;obtain⟨w,e,c⟩:=all (D d v - i).toNat (by omega);exact⟨w,e,by omega⟩
 have:=Kr g.2.length (λi=>if a:i<g.2.length+1 then Classical.choose (b i a)else 0) (g.2.length+1) (λi a=>by
  rw[dif_pos a];exact(Classical.choose_spec (b i a)).1) (λi j l f c=>by
  rw[dif_pos (by omega),dif_pos f]at c;have k:=(Classical.choose_spec (b i (by omega))).2;have r:=(Classical.choose_spec (b j f)).2;rw[c]at k;omega)
 omega
def T (e:aQ) (k v w:Nat):Int:=if 0<=D e w∧(D e w<k∨(D e w=k∧w<v))then D e w else -1
theorem VA {g:GR} (G:VG g) {s:Nat} {e:aQ} (V:oU g s e) {k v:Nat} (af:1<=k) (hk:k<g.2.length) (q:v<g.2.length) (C:aQ) (J:lB->Option aQ) (r:aQ)
  (B:C.length=g.2.length) (W:∀w,w<g.2.length->D C w=T e k v w)
  (K:∀d:aQ,d.length=g.2.length->(∀w,w<g.2.length->D d w=T e k (v+1) w)->J ((v:Int)+1,d)=some r):
  bJ (kY g ((k:Int),C) ((v:Int),C) J) 1000 ((0:Int),C)=some r:=by
 have X:=(G.node v q).deg;have ab:=G.n24;refine Ao (λz:lB=>∃i:Nat,z.1=i∧i<=(row g v).length∧z.2.length=g.2.length∧(∀w,w<g.2.length->w≠v->D z.2 w=T e k v w)∧((D z.2 v=T e k v v∧(D z.2 v<0->∀j,j<i->∀u:Nat,(fL (row g v) j).1=u->D e u≠(k:Int) - 1))∨(D z.2 v=k∧D e v=k))) (λz=>31 - z.1.toNat) ?_ 1000 _ ⟨0,rfl,by omega,B,λw t _=>W w t,.inl ⟨W v q,λ_ j hj=>by omega⟩⟩ (by simp);rintro⟨z,d⟩ aa ⟨i,hz,hi,B,t,H⟩ o;dsimp only at hz B t H;subst hz;have tv:T e k v v=D e v∨T e k v v = -1:=by unfold T;split<;>simp
 have E:(0<=D d v∨i=(row g v).length)->J (wI .i64 ((v:Int)+1),d)=some r:=by
  intro hx;rw[wr (by omega) (by omega)];refine K d B λw y=> ?_;by_cases l:w=v
  ·subst l;rcases H with⟨A,F⟩|⟨A,F⟩
   ·rw[A];unfold T at A ⊢;by_cases a:0<=D e w∧(D e w<k∨(D e w=k∧w<w))
    ·rw[if_pos a,if_pos (by omega)]
    ·rw[if_neg a]at A ⊢;rw[if_neg];intro b;have ac:D e w=k:=by omega
     obtain⟨u,R,⟨j,hj,O⟩,I⟩:=V.near w q (by omega);have ae:i=(row g w).length:=by omega
     exact F (by omega) j (by omega) u O (by omega)
   ·rw[A];unfold T;rw[if_pos (by omega)];omega
  ·rw[t w y l];unfold T;by_cases a:0<=D e w∧(D e w<k∨(D e w=k∧w<v))
   ·rw[if_pos a,if_pos (by omega)]
   ·rw[if_neg a,if_neg (by omega)]
 unfold kY qR qQ nA;dsimp only;rw[cA (by omega)];by_cases M:i<(row g v).length
 rotate_left
 ·rw[if_neg (show¬(i:Int)<((row g v).length:Int) by omega),if_neg (by simp)];exact E (.inr (by omega))
 obtain⟨u,R,I,n⟩:=G.port q M;rw[if_pos (show(i:Int)<((row g v).length:Int) by omega),cA (by omega)];by_cases f:at' d (v:Int)<0
 rotate_left
 ·rw[if_neg (by rw[decide_eq_false f];simp)];exact E (.inl (by show 0<=at' d (v:Int);omega))
 have S:u≠v:=by rintro rfl;exact Ra G q n
 rw[if_pos (decide_eq_true f),cA (by omega),cA (show 0<=(i:Int)∧(i:Int)<((row g v).length:Int) by omega),show at' (at' g.2 (v:Int)) (i:Int)=fL (row g v) i from rfl,I,cA (by omega),wr (x:=(k:Int) - 1) (by omega) (by omega),wr (x:=(i:Int)+1) (by omega) (by omega)];have P:D d v<0:=f;have p:D d v=T e k v v∧(D d v<0->∀j,j<i->∀u:Nat,(fL (row g v) j).1=u->D e u≠(k:Int) - 1):=by
  rcases H with H|⟨h,_⟩
  ·exact H
  ·omega
 have c:=t u R S;have Q:=V.next u R;by_cases m:at' d (u:Int)=(k:Int) - 1
 ·have Y:D d u=(k:Int) - 1:=m;rw[if_pos m,cA (by omega)];have ad:D e u=(k:Int) - 1:=by
   unfold T at c;by_cases a:0<=D e u∧(D e u<k∨(D e u=k∧u<v))
   ·rw[if_pos a]at c;omega
   ·rw[if_neg a]at c;omega
  have L:D e v=k:=by
   have A:=Q (by omega) v q (G.back q n);have F:=p.1;unfold T at F;by_cases a:0<=D e v∧(D e v<k∨(D e v=k∧v<v))
   ·rw[if_pos a]at F;omega
   ·omega
  refine o _ ⟨i+1,by simp,by omega,by simp[B],λw y l=> ?_,.inr ⟨?_,L⟩⟩ (by dsimp only;omega)
  ·show at' (d.set (Int.toNat (v:Int)) (k:Int)) (w:Int)=_;rw[Int.toNat_natCast,tP _ _ _ _ (by omega),if_neg l];exact t w y l
  ·show at' (d.set (Int.toNat (v:Int)) (k:Int)) (v:Int)=_;rw[Int.toNat_natCast,tP _ _ _ _ (by omega),if_pos Z]
 ·rw[if_neg m];refine o _ ⟨i+1,by simp,by omega,B,t,.inl ⟨p.1,λhn j hj w U he=> ?_⟩⟩ (by dsimp only;omega);by_cases N:j=i
  ·subst N;have:w=u:=by omega
   subst this;unfold T at c;rw[if_pos (by omega)]at c;exact m (by show D d w=_;omega)
  ·exact p.2 hn j (by omega) w U he
theorem Pn {d e:aQ} (c:d.length=e.length) (h:∀v,v<d.length->D d v=D e v):d=e:=by
 apply List.ext_getElem c;intro i a b;rw[<-Eu a,<-Eu b];exact h i a
theorem zX {g:GR} (r:VG g) {s:Nat} (L:s<g.2.length) {e:aQ} (m:oU g s e):rO 1000 g (s:Int)=some e:=by
 have F:=r.n24;unfold rO qN;rw[(PM g r.light).1 r,bH Z,if_neg (by simp),zI,wr (by omega) (by omega),decide_eq_true (by omega),bH Z,if_neg (by simp)];refine Ao (λz:List Int×Int=>∃k:Nat,z.2=k∧k<=g.2.length∧z.1=List.replicate k (-1)) (λz=>31 - z.2.toNat) ?_ 1000 _ ⟨0,rfl,by omega,rfl⟩ (by simp);rintro⟨l,z⟩ J ⟨k,b,G,p⟩ x;dsimp only at b p;subst b p;unfold vL;dsimp only;by_cases H:k<g.2.length
 ·rw[if_pos (by omega),cA (by simp only[List.length_replicate,List.length_singleton];omega),wr (by omega) (by omega)];exact x _ ⟨k+1,by simp,by omega,by dsimp only;rw[List.replicate_succ']⟩ (by dsimp only;omega)
 rw[if_neg (by omega)];have i:k=g.2.length:=by omega
 subst i;unfold vK;rw[cA (by simp only[List.length_replicate];omega),Int.toNat_natCast];have y:∀w,w<g.2.length->D ((List.replicate g.2.length (-1:Int)).set s 0) w=T e 1 0 w:=by
  intro w t;have q:=tP (List.replicate g.2.length (-1:Int)) s w 0 (by simp only[List.length_replicate];omega);have b:=m.zero w t;show at' _ _=_;rw[q];by_cases c:w=s
  ·have:=b.2 c;rw[if_pos c];unfold T;rw[if_pos (by omega)];omega
  ·have:D e w≠0:=λh=>c (b.1 h);rw[if_neg c,fQ,List.getD_eq_getElem?_getD,List.getElem?_replicate,if_pos t];unfold T;rw[if_neg (by omega)];rfl
 refine Ao (λz:lB=>∃k:Nat,z.1=k∧1<=k∧(k<=g.2.length)∧z.2.length=g.2.length∧∀w,w<g.2.length->D z.2 w=T e k 0 w) (λz=>31 - z.1.toNat) ?_ 1000 _ ⟨1,rfl,by omega,by omega,by simp,y⟩ (by simp);rintro⟨z,d⟩ E ⟨k,b,A,G,j,f⟩ n;dsimp only at b j f;subst b;unfold eW qO;dsimp only;by_cases i:k<g.2.length
 rotate_left
 ·rw[if_neg (by omega)];congr 1;refine Pn (j.trans m.len.symm) λv I=> ?_;have q:=m.lt (v:=v) (by omega);have C:=m.lo v (by omega);rw[f v (by omega)];unfold T;by_cases a:0<=D e v
  ·rw[if_pos (by omega)]
  ·rw[if_neg (by omega)];omega
 rw[if_pos (by omega)];refine Ao (λz:lB=>∃v:Nat,z.1=v∧v<=g.2.length∧z.2.length=g.2.length∧∀w,w<g.2.length->D z.2 w=T e k v w) (λz=>31 - z.1.toNat) ?_ 1000 _ ⟨0,rfl,by omega,j,f⟩ (by simp);rintro⟨z,d⟩ u ⟨v,b,I,j,f⟩ o;dsimp only at b j f;subst b;unfold hZ qP;dsimp only;by_cases B:v<g.2.length
 ·rw[if_pos (by omega)];exact VA r m A i B d u e j f λK q C=>o _ ⟨v+1,by simp,by omega,q,C⟩ (by dsimp only;omega)
 ·rw[if_neg (by omega),wr (by omega) (by omega)];refine n _ ⟨k+1,by simp,by omega,by omega,j,λw t=> ?_⟩ (by dsimp only;omega);rw[f w t];unfold T;by_cases a:0<=D e w∧(D e w<k∨(D e w=k∧w<v))
  ·rw[if_pos a,if_pos (by omega)]
  ·rw[if_neg a,if_neg (by omega)]
theorem Kt (d:aQ) (h:d.length<=30):OK (λr:Int=>(¬(∀v,v<d.length->0<=D d v)->r = -1)∧((∀v,v<d.length->0<=D d v) -> -1<=r∧(∀v,v<d.length->D d v<=r)∧(r = -1∨∃v,v<d.length∧D d v=r))) (pY 1000 d):=by
 unfold pY;refine wP (λz:fP=>∃k:Nat,z.2=k∧k<=d.length ∧ -1<=z.1∧(∀v,v<k->0<=D d v∧D d v<=z.1)∧(z.1 = -1∨∃v,v<k∧D d v=z.1)) (λz=>31 - z.2.toNat) ?_ 1000 _ ⟨0,rfl,by omega,by omega,λv c=>by omega,.inl Z⟩ (by simp);rintro⟨m,z⟩ p ⟨k,n,q,j,e,b⟩ f;dsimp only at n j e b;subst n;unfold xF rQ;dsimp only;by_cases g:k<d.length
 ·rw[if_pos (by omega),cA (by omega)];by_cases a:at' d (k:Int)<0
  ·rw[if_pos a];exact⟨-1,rfl,λ_=>rfl,λh=>absurd (h k g) (by show¬0<=at' d (k:Int);omega)⟩
  rw[if_neg a,cA (by omega),wr (by omega) (by omega)];have o:0<=D d k:=by show 0<=at' d (k:Int);omega
  refine f _ ⟨k+1,by simp,by omega,by dsimp only;omega,λv c=> ?_,?_⟩ (by dsimp only;omega)
  ·by_cases i:v=k
   ·subst i;show 0<=D d v∧D d v<=max m (D d v);omega
   ·have:=e v (by omega);show 0<=D d v∧D d v<=max m (D d k);omega
  ·by_cases s:m<=D d k
   ·exact .inr ⟨k,by omega,by show D d k=max m (D d k);omega⟩
   ·rcases b with b|⟨v,c,l⟩
    ·left;show max m (D d k) = -1;omega
    ·exact .inr ⟨v,by omega,by show D d v=max m (D d k);omega⟩
 ·rw[if_neg (by omega)];refine⟨m,rfl,λh=>absurd (λv c=>(e v (by omega)).1) h,λ_=>⟨j,λv c=>(e v (by omega)).2,?_⟩⟩
  rcases b with b|⟨v,c,l⟩
  ·exact .inl b
  ·exact .inr ⟨v,by omega,l⟩
theorem Gk {g:GR} (b:VG g) {s:Nat} (i:s<g.2.length) {d:aQ} (a:oU g s d):(∀v,v<d.length->0<=D d v)↔Hg g:=by
 have c:=a.len;constructor
 ·intro h u v j e;exact⟨_,xY.trans (Gf b (oU.pos b a j (h u (by omega)))) (oU.pos b a e (h v (by omega)))⟩
 ·intro h v e;obtain⟨k,f⟩:=h s v i (by omega);exact(oU.le b a f).1
theorem L_ {g:GR} (b:VG g) {s:Nat} (c:s<g.2.length):OK (λr:Int=>(Hg g->Ecc g s r)∧(¬Hg g->r = -1)) (gZ 1000 g (s:Int)):=by
 obtain⟨d,o,a⟩:=EK b c;have k:=a.len;have n:=b.n24;unfold gZ;obtain⟨r,q,l,m⟩:=Kt d (by omega);rw[zX b c a,bH Z,q];have j:=Gk b c a;refine⟨r,rfl,λe=> ?_,λe=>l λh=>e (j.1 h)⟩
 obtain⟨u,f,i⟩:=m (j.2 e);have w:=f s (by omega);have:=(a.zero s c).2 Z;refine⟨d,o,a,λv t=>f v (by omega),?_⟩
 rcases i with i|⟨v,t,p⟩
 ·omega
 ·exact⟨v,by omega,p⟩
theorem XX {X R:Type} {step:X->(X->Option R)->Option R} {K:X->Option R} {bad:R} (N:Nat) (p:Nat->Prop) (I:Nat->X->Prop) (B:Nat)
  (t:∀(k:Nat) x q,k<N->k<B->I k x->p k->∃c,I (k+1) c∧step x q=q c) (l:∀(k:Nat) x q,k<N->k<B->I k x->¬p k->step x q=some bad) (s:∀x q,I N x->N<B->step x q=K x):
  ∀(b:Nat) (x:X),I 0 x->B<=b->(N<B∨∃k,k<N∧k<B∧¬p k)->((∀k,k<N->p k)->∃c,I N c∧bJ step b x=K c)∧(¬(∀k,k<N->p k)->bJ step b x=some bad):=by
 intro b x e v hB;have r:∀(d a b:Nat) (x:X),I a x->a+d<N->a+d<B->¬p (a+d)->d<b->bJ step b x=some bad:=by
  intro d
  induction d with
  |zero=>
   intro a b x e j g i v;obtain⟨f,rfl⟩:∃f,b=f+1:=⟨b - 1,by omega⟩
   exact l a x _ j g e i
  | succ d y =>
   intro a b x e j g i v;obtain⟨f,rfl⟩:∃f,b=f+1:=⟨b - 1,by omega⟩
   by_cases u:p a
   ·obtain⟨c,n,o⟩:=t a x (bJ step f) (by omega) (by omega) e u;have o:bJ step (f+1) x=bJ step f c:=o;rw[o];exact y (a+1) f c n (by omega) (by omega) (by rw[show a+1+d=a+(d+1) by omega];exact i) (by omega)
   ·exact l a x _ (by omega) (by omega) e u
 have m:∀(d a b:Nat) (x:X),I a x->a+d=N->N<B->(∀k,a<=k->k<N->p k)->d<b->∃c,I N c∧bJ step b x=K c:=by
  intro d
  induction d with
  |zero=>
   intro a b x e j g i v;obtain⟨f,rfl⟩:∃f,b=f+1:=⟨b - 1,by omega⟩
   obtain rfl:a=N:=by omega
   exact⟨x,e,s x _ e g⟩
  |succ d y=>
   intro a b x e j g i v;obtain⟨f,rfl⟩:∃f,b=f+1:=⟨b - 1,by omega⟩
   obtain⟨c,n,o⟩:=t a x (bJ step f) (by omega) (by omega) e (i a (Nat.le_refl _) (by omega));have o:bJ step (f+1) x=bJ step f c:=o;rw[o];exact y (a+1) f c n (by omega) g (λk j g=>i k (by omega) g) (by omega)
 constructor
 ·intro h;rcases hB with hB|⟨k,j,_,g⟩
  ·exact m N 0 b x e (by omega) hB (λk _ w=>h k w) (by omega)
  ·exact absurd (h k j) g
 ·intro h;have:∃k,k<N∧k<B∧¬p k:=by
   rcases hB with hB|hB
   ·apply Classical.byContradiction;intro A;exact h λk w=>Classical.byContradiction λi=>A ⟨k,w,by omega,i⟩
   ·exact hB
  obtain⟨k,j,g,z⟩:=this;exact r k 0 b x e (by omega) (by omega) (by rw[Nat.zero_add];exact z) (by omega)
theorem VB {a:fW} (q:a.length<=30) {v:Nat} (r:v<a.length):(at' a (v:Int)).length<1000∨∃k,k<(at' a (v:Int)).length∧k<1000∧¬Hj (at' a (v:Int)) v a.length k:=by
 by_cases h:(at' a (v:Int)).length<1000
 ·exact .inl h
 ·right;apply Classical.byContradiction;intro f;have b:∀k,k<40->Hj (at' a (v:Int)) v a.length k:=λk p=>Classical.byContradiction λl=>f ⟨k,by omega,by omega,l⟩;have:=Kr a.length (λi=>(fL (at' a (v:Int)) i).1.toNat) 40 (λi g=>by have:=(b i g).1;omega) (λi j c d o=>by
   have m:=(b i (by omega)).1;have n:=(b j d).1;have e:=(b j d).2.2.2 i c;exact e (by omega))
  omega
theorem Ff (c:fW) (hn:c.length<=30):(Lr c->gN 1000 c=some true)∧(¬Lr c->gN 1000 c=some false):=by
 unfold gN;have s:∀(v:Nat) (m:List ((Int×Int)×Int)) p,v<c.length->(∀z,z∈m↔Oo c v 0 z)->
   (qF (at' c (v:Int)) v c.length->∃Y,(∀z,z∈Y↔Oo c (v+1) 0 z)∧bJ (cI c ((v:Int),m) p) 1000 ((0:Int),m)=p ((v:Int)+1,Y))∧
   (¬qF (at' c (v:Int)) v c.length->bJ (cI c ((v:Int),m) p) 1000 ((0:Int),m)=some false):=by
  intro v m p F hm;have L:=VB hn F;have S:=XX (step:=cI c ((v:Int),m) p) (K:=λx=>p ((v:Int)+1,x.2)) (bad:=false) (at' c (v:Int)).length (Hj (at' c (v:Int)) v c.length) (λi x=>x.1=(i:Int)∧∀z,z∈x.2↔Oo c v i z) 1000 ?_ ?_ ?_ 1000 ((0:Int),m) ⟨rfl,hm⟩ (by omega) L
  ·refine⟨λh=> ?_,λh=>S.2 h⟩
   obtain⟨x,⟨ah,ae⟩,f⟩:=S.1 h;refine⟨x.2,λz=>(ae z).trans ⟨?_,?_⟩,f⟩
   ·rintro⟨a,b,y,e,l⟩;exact⟨a,b,by omega,e,l⟩
   ·rintro⟨a,b,y,e,l⟩;refine⟨a,b,?_,e,l⟩
    by_cases X:a=v
    ·subst X;exact .inr ⟨rfl,e⟩
    ·omega
  ·rintro i ⟨H,g⟩ I N ac ⟨f,d⟩ ⟨p1,p2,p3,p4⟩;dsimp only at f d;subst f;have q:mE (((v:Int),(fL (at' c (v:Int)) i).1)) g=none:=by
    apply HB;intro w hw;obtain⟨a,b,y,e,l⟩:=(d _).1 hw;simp only[Prod.mk.injEq]at l;obtain⟨⟨C,A⟩,_⟩:=l;have:a=v:=by omega
    subst this;have hb:b<i:=by omega
    exact p4 b hb A.symm
   refine⟨((i:Int)+1,CF (((v:Int),(fL (at' c (v:Int)) i).1)) (fL (at' c (v:Int)) i).2 g),⟨by simp,λz=> ?_⟩,?_⟩
   ·dsimp only;rw[Pq q,d];constructor
    ·rintro(rfl|⟨a,b,y,e,l⟩)
     ·exact⟨v,i,.inr ⟨rfl,by omega⟩,N,rfl⟩
     ·exact⟨a,b,by omega,e,l⟩
    ·rintro⟨a,b,y,e,l⟩;by_cases J:a=v∧b=i
     ·left;rw[l,J.1,J.2]
     ·right;exact⟨a,b,by omega,e,l⟩
   ·replace p1:0<=(at' (at' c (v:Int)) (i:Int)).1∧(at' (at' c (v:Int)) (i:Int)).1<=(c.length:Int) - 1:=p1;replace p3:1<=(at' (at' c (v:Int)) (i:Int)).2∧(at' (at' c (v:Int)) (i:Int)).2<=15:=p3;unfold cI gW jC;dsimp only;rw[if_pos (by omega),cA (by omega),if_neg (by omega),if_neg (by omega),if_neg (by rw[decide_eq_false p2];simp),if_neg (by omega),if_neg (by rw[decide_eq_false (by omega)];simp),q,if_neg (by simp),wr (by omega) (by omega)]
  ·rintro i ⟨H,g⟩ I N ac ⟨f,d⟩ Q;dsimp only at f d;subst f;unfold cI gW jC;dsimp only;rw[if_pos (by omega),cA (by omega)];by_cases y:(fL (at' c (v:Int)) i).1<0
   ·rw[if_pos y,if_pos Z]
   rw[if_neg y];by_cases e:(c.length:Int)<=(fL (at' c (v:Int)) i).1
   ·rw[if_pos e,if_pos Z]
   rw[if_neg e];by_cases l:(fL (at' c (v:Int)) i).1=v
   ·rw[if_pos (decide_eq_true l)]
   rw[if_neg (by rw[decide_eq_false l];simp)];by_cases C:(fL (at' c (v:Int)) i).2<1
   ·rw[if_pos C,if_pos Z]
   rw[if_neg C];by_cases A:15<(fL (at' c (v:Int)) i).2
   ·rw[if_pos (decide_eq_true A)]
   rw[if_neg (by rw[decide_eq_false A];simp)];have:∃k,k<i∧(fL (at' c (v:Int)) k).1=(fL (at' c (v:Int)) i).1:=by
    apply Classical.byContradiction;intro hc;exact Q ⟨by omega,l,by omega,λk O M=>hc ⟨k,O,M⟩⟩
   obtain⟨k,O,M⟩:=this;have n:=(d _).2 ⟨v,k,.inr ⟨rfl,O⟩,by omega,rfl⟩;rw[if_pos];rw[<-M];cases q:mE (((v:Int),(fL (at' c (v:Int)) k).1)) g with
   |some w=>rfl
   | none => exact absurd n (by
     intro n;exact uA q n)
  ·rintro⟨H,g⟩ I ⟨f,d⟩ _;dsimp only at f d;subst f;unfold cI mQ;dsimp only;rw[if_neg (by omega),wr (by omega) (by omega)]
 have t:=Gs (step:=cW 1000 c) (K:=λx=>jB x.2) (bad:=false) c.length (λv=>qF (at' c (v:Int)) v c.length) (λv x=>x.1=(v:Int)∧∀z,z∈x.2↔Oo c v 0 z) ?_ ?_ ?_ 1000 ((0:Int),[]) ⟨rfl,λz=>⟨λh=>(by cases h),fun⟨a,b,y,_⟩=>(by omega)⟩⟩ (by omega)
 rotate_left
 ·rintro v ⟨H,g⟩ p F ⟨f,d⟩ Q;dsimp only at f d;subst f;obtain⟨Y,y,e⟩:=(s v g p F d).1 Q;refine⟨((v:Int)+1,Y),⟨by simp,y⟩,?_⟩
  ·unfold cW;dsimp only;rw[if_pos (by omega),cA (by omega)];exact e
 ·rintro v ⟨H,g⟩ p F ⟨f,d⟩ Q;dsimp only at f d;subst f;unfold cW;dsimp only;rw[if_pos (by omega),cA (by omega)];exact(s v g p F d).2 Q
 ·rintro⟨H,g⟩ p ⟨f,d⟩;dsimp only at f d;subst f;unfold cW;dsimp only;rw[if_neg (by omega)]
 by_cases D:∀v,v<c.length->qF (at' c (v:Int)) v c.length
 rotate_left
 ·exact⟨λh=>absurd h.1 D,λ_=>t.2 D⟩
 obtain⟨⟨H,g⟩,⟨f,d⟩,M⟩:=t.1 D;rw[M];dsimp only at d ⊢;have O:jB g=some (decide (∀z∈g,¬(Option.getD (mE (z.1.2,z.1.1) g) (0:Int))≠z.2)):=Kk (λz:(Int×Int)×Int=>(Option.getD (mE (z.1.2,z.1.1) g) (0:Int))≠z.2) g;rw[O];have E:(∀z∈g,¬(Option.getD (mE (z.1.2,z.1.1) g) (0:Int))≠z.2)↔∀v,v<c.length->∀i,i<(at' c (v:Int)).length->Dc ([],c) v i:=by
  constructor
  ·intro h v F i N;have hw:=(D v F i N).2.2.1;have n:=(d (((v:Int),(fL (at' c (v:Int)) i).1),(fL (at' c (v:Int)) i).2)).2 ⟨v,i,.inl F,N,rfl⟩;have e:=Decidable.not_not.1 (h _ n);dsimp only at e;cases q:mE ((fL (at' c (v:Int)) i).1,(v:Int)) g with
   |none=>rw[q]at e;simp only[Option.getD]at e;omega
   | some w =>
    rw[q]at e;simp only[Option.getD]at e;obtain⟨a,b,l,C,A⟩:=(d _).1 (BX q);simp only[Prod.mk.injEq]at A;obtain⟨⟨U,V⟩,h8⟩:=A;refine⟨b,?_,?_,?_⟩
    ·show b<(at' c (fL (at' c (v:Int)) i).1).length;rw[U];exact C
    ·show(fL (at' c (fL (at' c (v:Int)) i).1) b).1=v;rw[U];exact V.symm
    ·show(fL (at' c (fL (at' c (v:Int)) i).1) b).2=(fL (at' c (v:Int)) i).2;rw[U,<-h8];exact e
  ·intro h z hz ad;obtain⟨a,b,l,C,rfl⟩:=(d z).1 hz;have X:a<c.length:=by omega
   apply ad;obtain⟨j,r,o,B⟩:=h a X b C;have hu:=(D a X b C).1;obtain⟨u,R⟩:∃u:Nat,(fL (at' c (a:Int)) b).1=u:=⟨(fL (at' c (a:Int)) b).1.toNat,by omega⟩
   replace r:j<(at' c (fL (at' c (a:Int)) b).1).length:=r;replace o:(fL (at' c (fL (at' c (a:Int)) b).1) j).1=a:=o;replace B:(fL (at' c (fL (at' c (a:Int)) b).1) j).2=(fL (at' c (a:Int)) b).2:=B;rw[R]at r o B;have G:u<c.length:=by omega
   dsimp only;rw[R,<-B];have n:=(d (((u:Int),(fL (at' c (u:Int)) j).1),(fL (at' c (u:Int)) j).2)).2 ⟨u,j,.inl G,r,rfl⟩;rw[o]at n;cases q:mE ((u:Int),(a:Int)) g with
   |none=>exact absurd n (uA q)
   | some w =>
    obtain⟨a',T,af,aa,A⟩:=(d _).1 (BX q);simp only[Prod.mk.injEq]at A;obtain⟨⟨U,V⟩,h8⟩:=A;have:a'=u:=by omega
    subst this;have ab:T=j:=by
     rcases Nat.lt_trichotomy T j with P|P|P
     ·exact absurd (V.symm.trans o.symm) ((D a' G j r).2.2.2 T P)
     ·exact P
     ·exact absurd (o.trans V) ((D a' G T aa).2.2.2 j P)
    subst ab;exact h8
 by_cases W:∀v,v<c.length->∀i,i<(at' c (v:Int)).length->Dc ([],c) v i
 ·rw[decide_eq_true (E.2 W)];exact⟨λ_=>rfl,λh=>absurd ⟨D,W⟩ h⟩
 ·rw[decide_eq_false (λh=>W (E.1 h))];exact⟨λh=>absurd h.2 W,λ_=>rfl⟩
theorem VJ (g:GR):(VG g->h_ 1000 g=some true)∧(¬VG g->h_ 1000 g=some false):=by
 unfold h_ pV pW;by_cases e:g.1.length<1
 ·rw[if_pos (by omega)];exact⟨λh=>by have:=h.n1;have:=h.len;omega,λ_=>rfl⟩
 rw[if_neg (by omega)];by_cases f:24<g.1.length
 ·rw[if_pos (by omega)];exact⟨λh=>by have:=h.n24;have:=h.len;omega,λ_=>rfl⟩
 rw[if_neg (by omega)];by_cases d:g.1.length=g.2.length
 rotate_left
 ·rw[decide_eq_true (by omega)];exact⟨λh=>absurd h.len d,λ_=>rfl⟩
 rw[decide_eq_false (by omega),if_neg (by simp)];by_cases b:∀k,k<g.1.length->VX g.1 k
 rotate_left
 ·rw[(uL g.1 (by omega)).2 b,bH Z];exact⟨λh=>absurd (λk i=>⟨(h.node k (by omega)).id,(h.node k (by omega)).ids⟩) b,λ_=>rfl⟩
 rw[(uL g.1 (by omega)).1 b,bH Z,if_pos Z];by_cases a:Lr g.2
 ·rw[(Ff g.2 (by omega)).1 a];exact⟨λ_=>rfl,λh=>absurd ⟨by omega,by omega,d,λv c=>⟨(b v (by omega)).1,Rq c (a.1 v c),a.1 v c,(b v (by omega)).2⟩,a.2⟩ h⟩
 ·rw[(Ff g.2 (by omega)).2 a];exact⟨λh=>absurd ⟨λv c=>(h.node v c).links,h.sym⟩ a,λ_=>rfl⟩
abbrev Oi:=Dt
theorem wB (v m:Int) (g:1<=m) (h:m<=4611686018427387904):g_ 1000 v m=some (v%m):=by
 unfold g_ rE;rw[if_neg (by omega),cA (by omega)];have c:=Int.tmod_eq_emod (a:=v) (b:=m);have f:=Int.emod_nonneg v (show m≠0 by omega);have i:=Int.emod_lt_of_pos v (show 0<m by omega);by_cases e:0<=v∨m∣v
 ·rw[if_pos e]at c;have d:v.tmod m=v%m:=by simpa using c
  rw[d,if_neg (by omega)]
 ·rw[if_neg e]at c;have:(m.natAbs:Int)=m:=by omega
  rw[c,if_pos (by omega),wr (by omega) (by omega)];congr 1;omega
theorem OH (l:aQ) (i:Int) (h:0<=i):sL 1000 l i=some (at' l i):=by
 unfold sL;by_cases a:i<(l.length:Int)
 ·rw[if_pos a,cA ⟨h,a⟩]
 ·rw[if_neg a];unfold at';rw[List.getD_eq_getElem?_getD,List.getElem?_eq_none (by omega)];rfl
theorem Px {i:Type} [DecidableEq i]:∀(e c:List i),e.Nodup->(∀x∈e,x∈c)->e.length<=c.length
 | [],_,_,_=>Nat.zero_le _
 | a :: t, c, hn, hs => by
  have b:=List.nodup_cons.1 hn;have f:=hs a (List.mem_cons_self ..);have:=Px t (c.erase a) b.2 λx h=>by
   have d:x≠a:=λj=>b.1 (j▸h);exact(List.mem_erase_of_ne d).2 (hs x (List.mem_cons_of_mem _ h))
  rw[List.length_erase_of_mem f]at this;have g:0<c.length:=List.length_pos_of_mem f;simp only[List.length_cons];omega
theorem Y_ (d:Int) (c:aQ) (t:Nat) (k:t<=200) (h:∀s,s<t->(d+(s:Int))%256∈c):t<=c.length:=by
 have:=Px ((List.range t).map λs:Nat=>(d+(s:Int))%256) c (by
  rw[List.nodup_iff_pairwise_ne,List.pairwise_map];refine List.Pairwise.imp_of_mem ?_ List.pairwise_lt_range;intro a b e g f;rw[List.mem_range]at e g;omega) (λx j=>by
  obtain⟨s,i,rfl⟩:=List.mem_map.1 j;exact h s (List.mem_range.1 i))
 simpa using this
structure Jh (ids:aQ):Prop where
 rng:∀y∈ids,0<=y∧y<=255
 nd:ids.Nodup
theorem Jh.snoc {c:aQ} {y:Int} (h:Jh c) (j:0<=y∧y<=255) (i:y∉c):Jh (c++[y]):=by
 refine⟨λz d=> ?_,?_⟩
 ·rcases List.mem_append.1 d with d|d
  ·exact h.rng z d
  ·rw[List.mem_singleton.1 d];exact j
 ·rw[List.nodup_append];refine⟨h.nd,by simp,?_⟩
  intro a e b f;rw[List.mem_singleton.1 f];exact λg=>i (g▸e)
theorem BW {a:Type} [Inhabited a] {l:List a} {i:Nat} (h:i<l.length):at' l (i:Int)∈l:=by
 rw[fQ,List.getD_eq_getElem?_getD,List.getElem?_eq_getElem h];exact List.getElem_mem h
theorem Ez {a:Type} [Inhabited a] {l:List a} {x:a} (h:x∈l):∃i,i<l.length∧at' l ((i:Nat):Int)=x:=by
 obtain⟨i,b,c⟩:=List.getElem_of_mem h;refine⟨i,b,?_⟩
 rw[fQ,List.getD_eq_getElem?_getD,List.getElem?_eq_getElem b];exact c
theorem XG {Q:List Int×fW->Prop} {a:aQ} (H:a.length<=24) (b:Int) (r:lB->Option (List Int×fW))
  (m:∀y,0<=y->y<=255->y∉a->OK Q (r ((a.length:Int)+1,a++[y]))):OK Q (bJ (lH ((a.length:Int),a) r) 1000 (b%256,0)):=by
 refine wP (λs:fP=>∃(t u:Nat),s.1=(b+(t:Int))%256∧s.2=u∧u<=a.length∧t<=a.length∧(∀k,k<t->(b+(k:Int))%256∈a)∧∀j,j<u->at' a (j:Int)≠s.1)
  (λs=>(a.length - ((s.1 - b)%256).toNat)*30+(a.length - s.2.toNat)) ?_ 1000 _ ⟨0,0,by simp,rfl,by omega,by omega,λk p=>by omega,λj o=>by omega⟩ ?_
 ·rintro⟨i,j⟩ z ⟨t,u,g,v,F,C,w,l⟩ d;dsimp only at g v l;subst v;unfold lH rZ lG;dsimp only;by_cases x:(u:Int)<(a.length:Int)
  ·rw[if_pos x,cA (by omega)];by_cases f:at' a (u:Int)=i
   ·rw[if_pos f,cA (by decide)];have n:(b+(t:Int))%256∈a:=by rw[<-g,<-f];exact BW (by omega)
    have c:∀k,k<t+1->(b+(k:Int))%256∈a:=λk p=>by
     rcases Nat.lt_succ_iff_lt_or_eq.1 p with h|h
     ·exact w k h
     ·subst h;exact n
    have E:=Y_ b a (t+1) (by omega) c;have G:0<=i∧i<=255:=by omega
    rw[wr (by omega) (by omega),Int.tmod_eq_emod_of_nonneg (by omega),wr (by omega) (by omega)];refine d _ ⟨t+1,0,?_,by simp,by omega,E,c,λj o=>by omega⟩ ?_
    ·dsimp only;omega
    ·dsimp only;have A:((i+1)%256 - b)%256=(t:Int)+1:=by omega
     have B:(i - b)%256=(t:Int):=by omega
     rw[A,B];omega
   ·rw[if_neg f,wr (by omega) (by omega)];refine d _ ⟨t,u+1,g,by dsimp only;omega,by omega,C,w,λj o=> ?_⟩ ?_
    ·rcases Nat.lt_succ_iff_lt_or_eq.1 o with h|h
     ·exact l j h
     ·subst h;exact f
    ·dsimp only;omega
  ·rw[if_neg x];rw[cA (by simp;omega),wr (by omega) (by omega)];refine m i (by omega) (by omega) λD=> ?_;obtain⟨k,p,q⟩:=Ez D;exact l k (by omega) q
 ·dsimp only;have e:(b%256 - b)%256=0:=by omega
  rw[e];omega
theorem Yq (x:Oi) (a:Nat) (u:1<=a) (k:a<=24):OK (λg:GR=>Jh g.1∧g.2=List.replicate g.1.length []∧1<=g.1.length∧g.1.length<=a) (pA 1000 x (a:Int)):=by
 unfold pA;rw[bH (wB _ _ (by omega) (by omega))];generalize f:(wI .i64 (x.1 - 1))%(a:Int)=r;have m:0<=r:=by rw[<-f];exact Int.emod_nonneg _ (by omega)
 have n:r<a:=by rw[<-f];exact Int.emod_lt_of_pos _ (by omega)
 have i:wI .i64 (1+r)=1+r:=wr (by omega) (by omega);rw[i,cA (by omega)];refine wP (λs:lB=>s.1=(s.2.length:Int)∧(s.2.length:Int)<=1+r∧Jh s.2) (λs=>(1+r - s.1).toNat) ?_ 1000 _ ⟨rfl,by simp;omega,⟨λy o=>by simp at o,List.nodup_nil⟩⟩ (by dsimp only;omega);rintro⟨v,d⟩ j ⟨e,l,c⟩ b;dsimp only at e l c;subst e;unfold jG n_;dsimp only;rw[i];by_cases h:(d.length:Int)<1+r
 ·rw[if_pos h,bH (OH _ _ (by omega)),bH (wB _ _ (by decide) (by decide))];exact XG (by omega) _ j λy p q t=>b _ ⟨by simp,by simp;omega,c.snoc ⟨p,q⟩ t⟩ (by dsimp only;omega)
 ·rw[if_neg h];refine⟨_,rfl,c,?_,by dsimp only;omega,by dsimp only;omega⟩
  dsimp only;congr 1;omega
structure VM (ids:aQ) (P:fW):Prop where
 n1:1<=P.length
 n24:P.length<=24
 len:ids.length=P.length
 ok:Jh ids
 nd:∀v:Nat,v<P.length->((at' P (v:Int)).map Prod.fst).Nodup
 lk:∀v:Nat,v<P.length->∀x∈at' P (v:Int),(0<=x.1∧x.1<=(P.length:Int) - 1)∧x.1≠(v:Int)∧(1<=x.2∧x.2<=15)∧((v:Int),x.2)∈at' P x.1
theorem Yr {d:Type} [Inhabited d] {l:List d} (h:l.Nodup) {i j:Nat} (b:i<l.length) (c:j<l.length) (a:i<j):at' l (i:Int)≠at' l (j:Int):=by
 rw[fQ,fQ,List.getD_eq_getElem?_getD,List.getD_eq_getElem?_getD,List.getElem?_eq_getElem b,List.getElem?_eq_getElem c];exact List.pairwise_iff_getElem.1 (List.nodup_iff_pairwise_ne.1 h) i j b c a
theorem VM.vg {ids:aQ} {P:fW} (h:VM ids P):VG (ids,P):=by
 have hlen:=h.len;have links:∀v,v<P.length->qF (row (ids,P) v) v P.length:=by
  intro v hv i hi;have hm:fL (row (ids,P) v) i∈at' P (v:Int):=BW hi;obtain⟨a1,a2,a3,_⟩:=h.lk v hv _ hm;refine⟨a1,a2,a3,λk hk=> ?_⟩
  have hk2:k<(row (ids,P) v).length:=by omega
  have:=List.pairwise_iff_getElem.1 (List.nodup_iff_pairwise_ne.1 (h.nd v hv)) k i (by simpa using hk2) (by simpa using hi) hk;rw[List.getElem_map,List.getElem_map]at this;have e:∀j (hj:j<(row (ids,P) v).length),fL (row (ids,P) v) j=(at' P (v:Int))[j]'hj:=λj hj=>by
   unfold fL;rw[fQ,List.getD_eq_getElem?_getD,List.getElem?_eq_getElem hj];rfl
  rw[e k hk2,e i hi];exact this
 refine⟨h.n1,h.n24,h.len,λv hv=>⟨?_,Rq hv (links v hv),links v hv,λk hk=> ?_⟩,λv hv i hi=> ?_⟩
 ·exact h.ok.rng _ (BW (by dsimp only at hv ⊢;omega))
 ·exact Yr h.ok.nd (by dsimp only at hv ⊢;omega) (by dsimp only at hv ⊢;omega) hk
 ·have hm:fL (row (ids,P) v) i∈at' P (v:Int):=BW hi;obtain⟨_,_,_,a4⟩:=h.lk v hv _ hm;obtain⟨j,hj,he⟩:=Ez a4;exact⟨j,hj,by unfold fL;rw[he],by unfold fL;rw[he]⟩
theorem VM.start {a:aQ} (h:Jh a) (d:1<=a.length) (b:a.length<=24):VM a (List.replicate a.length []):=by
 have e:∀v:Nat,at' (List.replicate a.length ([]:fM)) (v:Int)=[]:=λv=>by
  rw[fQ,List.getD_eq_getElem?_getD,List.getElem?_replicate];split<;>rfl
 refine⟨by simpa using d,by simpa using b,by simp,h,λv _=>by rw[e];exact List.nodup_nil,λv _ x c=> ?_⟩
 rw[e]at c;cases c
def mI (P:fW) (v u:Nat):Prop:=∃x∈at' P (v:Int),x.1=(u:Int)
theorem LU (d:aQ) (P:fW) (a b:Nat) (u:a<P.length) (w:(at' P (a:Int)).length<=900):(mI P a b->mZ 1000 (d,P) a b=some true)∧(¬mI P a b->mZ 1000 (d,P) a b=some false):=by
 have c:∀(r:Bool),(r=true->mI P a b)->(r=false->¬mI P a b)->mZ 1000 (d,P) a b=some r:=by
  intro r q p;unfold mZ;refine Ao (λi:Int=>∃k:Nat,i=k∧k<=(at' P (a:Int)).length∧∀j,j<k->(at' (at' P (a:Int)) ((j:Nat):Int)).1≠(b:Int)) (λi=>(at' P (a:Int)).length - i.toNat) ?_ 1000 0 ⟨0,rfl,by omega,λj m=>by omega⟩ (by omega);rintro i t ⟨k,rfl,v,f⟩ g;unfold z_ vE;dsimp only;rw[cA (by omega)];by_cases o:(k:Int)<((at' P (a:Int)).length:Int)
  ·rw[if_pos o,cA (by omega),cA (by omega)];by_cases e:(at' (at' P (a:Int)) (k:Int)).1=(b:Int)
   ·rw[if_pos e];cases r with
    |true=>rfl
    |false=>exact absurd ⟨_,BW (by omega),e⟩ (p Z)
   ·rw[if_neg e,wr (by omega) (by omega)];refine g _ ⟨k+1,by omega,by omega,λj m=> ?_⟩ (by omega);rcases Nat.lt_succ_iff_lt_or_eq.1 m with h|h
    ·exact f j h
    ·subst h;exact e
  ·rw[if_neg o];cases r with
   |false=>rfl
   |true=>
    obtain⟨x,s,e⟩:=q Z;obtain⟨j,m,n⟩:=Ez s;exact absurd (by rw[n];exact e) (f j (by omega))
 exact⟨λh=>c true (λ_=>h) (λl=>by cases l),λh=>c false (λl=>by cases l) (λ_=>h)⟩
theorem aac (P:fW) (a b:Nat) (x y:fM) (e:a<P.length) (f:b<P.length) (v:Nat):at' ((P.set a x).set b y) (v:Int)=if v=b then y else if v=a then x else at' P (v:Int):=by
 rw[fQ,fQ,List.getD_eq_getElem?_getD,List.getD_eq_getElem?_getD,List.getElem?_set,List.getElem?_set];by_cases h:v=b
 ·subst h;rw[if_pos Z,if_pos Z,if_pos (by simpa using f)];rfl
 ·rw[if_neg (λd=>h d.symm),if_neg h];by_cases c:v=a
  ·subst c;rw[if_pos Z,if_pos Z,if_pos e];rfl
  ·rw[if_neg (λd=>c d.symm),if_neg c]
theorem VM.add {m:aQ} {P:fW} (h:VM m P) {a b:Nat} {w:Int} (J:a<P.length) (A:b<P.length) (p:a≠b) (B:¬mI P a b) (D:1<=w∧w<=15)
  {x y:fM} (E:x.Perm (((b:Int),w)::at' P (a:Int))) (F:y.Perm (((a:Int),w)::at' P (b:Int))):
  VM m ((P.set a x).set b y)∧(∀v u,mI P v u->mI ((P.set a x).set b y) v u)∧mI ((P.set a x).set b y) a b:=by
 have r:¬mI P b a:=by
  rintro⟨z,g,i⟩;obtain⟨_,_,_,l⟩:=h.lk b A z g;rw[i]at l;exact B ⟨_,l,rfl⟩
 have C:=aac P a b x y J A;have k:((P.set a x).set b y).length=P.length:=by simp
 have d:∀(v:Nat) (z:fP),z∈at' ((P.set a x).set b y) (v:Int)↔z∈at' P (v:Int)∨(v=b∧z=((a:Int),w))∨(v=a∧z=((b:Int),w)):=by
  intro v z;rw[C v];by_cases f:v=b
  ·subst f;rw[if_pos Z,F.mem_iff,List.mem_cons];constructor
   ·rintro(c|c)
    ·exact .inr (.inl ⟨rfl,c⟩)
    ·exact .inl c
   ·rintro(c|⟨_,c⟩|⟨e,_⟩)
    ·exact .inr c
    ·exact .inl c
    ·exact absurd e.symm p
  ·rw[if_neg f];by_cases c:v=a
   ·subst c;rw[if_pos Z,E.mem_iff,List.mem_cons];constructor
    ·rintro(e|e)
     ·exact .inr (.inr ⟨rfl,e⟩)
     ·exact .inl e
    ·rintro(e|⟨n,_⟩|⟨_,e⟩)
     ·exact .inr e
     ·exact absurd n f
     ·exact .inl e
   ·rw[if_neg c];exact⟨.inl,λe=>e.elim id λn=>n.elim (λo=>absurd o.1 f) λo=>absurd o.1 c⟩
 refine⟨⟨by rw[k];exact h.n1,by rw[k];exact h.n24,by rw[k];exact h.len,h.ok,λv j=> ?_,λv j z g=> ?_⟩,λv u s=> ?_,?_⟩
 ·rw[k]at j;rw[C v];by_cases f:v=b
  ·subst f;rw[if_pos Z,(F.map Prod.fst).nodup_iff,List.map_cons,List.nodup_cons];exact⟨λq=>by obtain⟨z,g,i⟩:=List.mem_map.1 q;exact r ⟨z,g,i⟩,h.nd v j⟩
  ·rw[if_neg f];by_cases c:v=a
   ·subst c;rw[if_pos Z,(E.map Prod.fst).nodup_iff,List.map_cons,List.nodup_cons];exact⟨λq=>by obtain⟨z,g,i⟩:=List.mem_map.1 q;exact B ⟨z,g,i⟩,h.nd v j⟩
   ·rw[if_neg c];exact h.nd v j
 ·rw[k]at j ⊢;rcases(d v z).1 g with f|⟨rfl,rfl⟩|⟨rfl,rfl⟩
  ·obtain⟨G,H,I,t⟩:=h.lk v j z f;refine⟨G,H,I,?_⟩
   obtain⟨u,K⟩:∃u:Nat,z.1=u:=⟨z.1.toNat,by omega⟩
   rw[K]at t ⊢;exact(d u _).2 (.inl t)
  ·exact⟨by dsimp only;omega,by dsimp only;omega,D,(d a _).2 (.inr (.inr ⟨rfl,rfl⟩))⟩
  ·exact⟨by dsimp only;omega,by dsimp only;omega,D,(d b _).2 (.inr (.inl ⟨rfl,rfl⟩))⟩
 ·obtain⟨z,g,i⟩:=s;exact⟨z,(d v z).2 (.inl g),i⟩
 ·exact⟨_,(d a _).2 (.inr (.inr ⟨rfl,rfl⟩)),rfl⟩
theorem TL (x:Oi) {c:aQ} {P:fW} (h:VM c P) {a b:Nat} {w:Int} (g:a<P.length) (m:b<P.length) (o:1<=w∧w<=15):
  ∃f,mU 1000 x (c,P) a b w=some f∧VM c f∧f.length=P.length∧(∀v u,mI P v u->mI f v u)∧(a≠b->mI f a b):=by
 have p:=h.n24;have n:∀v:Nat,v<P.length->(at' P (v:Int)).length<24:=λv s=>by
  have:=(h.vg.node v s).deg;have e:(at' P (v:Int)).length=(row (c,P) v).length:=rfl;dsimp only at this;omega
 have t:=n a g;have z:=n b m;unfold mU;by_cases d:a=b
 ·subst d;rw[if_pos Z];exact⟨P,rfl,h,rfl,λ_ _ h=>h,λr=>absurd Z r⟩
 rw[if_neg (by omega)];by_cases i:mI P a b
 ·rw[bH ((LU c P a b g (by omega)).1 i)];exact⟨P,rfl,h,rfl,λ_ _ h=>h,λ_=>i⟩
 rw[bH ((LU c P a b g (by omega)).2 i)];unfold oY;rw[if_neg (by simp)];dsimp only;cases q:x.2.2.2.2.2 with
 | true =>
  rw[if_pos Z];have e:at' (P.set (Int.toNat (a:Int)) ([((b:Int),w)]++at' P (a:Int))) (b:Int)=at' P (b:Int):=by
   rw[fQ,List.getD_eq_getElem?_getD,List.getElem?_set,if_neg (by simpa using d),fQ,List.getD_eq_getElem?_getD]
  rw[e];rw[cA (by omega),cA (by simp;omega),cA (by omega),cA (by simp;omega),cA (by simp;omega),cA (by simp;omega)];obtain⟨j,k,l⟩:=h.add g m d i o (List.Perm.refl _) (List.Perm.refl _);exact⟨_,rfl,j,by simp,k,λ_=>l⟩
 |false=>
  rw[if_neg (by simp)];rw[cA (by omega),cA (by omega),cA (by simp;omega),cA (by simp;omega),cA (by simpa using d),cA (by simp;omega),cA (by simp;omega)];obtain⟨j,k,l⟩:=h.add g m d i o (x:=at' P (a:Int)++[((b:Int),w)]) (y:=at' P (b:Int)++[((a:Int),w)]) List.perm_append_comm List.perm_append_comm;exact⟨_,rfl,j,by simp,k,λ_=>l⟩
theorem Mu (v:Int):wI .i64 (1+v%15)=1+v%15∧1<=1+v%15∧1+v%15<=15:=by
 have:=Int.emod_nonneg v (show(15:Int)≠0 by decide);have:=Int.emod_lt_of_pos v (show(0:Int)<15 by decide);exact⟨wr (by omega) (by omega),by omega,by omega⟩
theorem abT (x:Oi) (c:Nat) (F:1<=c) (m:c<=24):
  OK (λg:GR=>VM g.1 g.2∧g.2.length<=c∧∀v:Nat,1<=v->v<g.2.length->∃u:Nat,u<v∧mI g.2 u v) (mT 1000 x (c:Int)):=by
 unfold mT;obtain⟨⟨d,S⟩,D,h,z,e,q⟩:=Yq x c F m;dsimp only at z h e q;rw[bH D];dsimp only;subst z;have r:=VM.start h e (by omega);refine wP (λs:Int×fW=>∃k:Nat,s.1=k∧1<=k∧k<=d.length∧VM d s.2∧s.2.length=d.length∧∀v:Nat,1<=v->v<k->∃u:Nat,u<v∧mI s.2 u v) (λs=>d.length - s.1.toNat) ?_ 1000 _ ⟨1,rfl,by omega,e,r,by simp,λv l f=>by omega⟩ (by dsimp only;omega);rintro⟨i,P⟩ T ⟨k,B,H,I,p,G,o⟩ j;dsimp only at B p G o;subst B;unfold tM oW;dsimp only;by_cases A:(k:Int)<(P.length:Int)
 ·rw[if_pos A,wr (by omega) (by omega),bH (OH _ _ (by omega)),bH (wB _ _ (by omega) (by omega)),bH (OH _ _ (by omega)),bH (wB _ _ (by decide) (by decide))];obtain⟨N,O,Q⟩:=Mu (at' x.2.2.1 ((k:Int) - 1));rw[N];generalize C:at' x.2.1 ((k:Int) - 1)%(k:Int)=u;have U:0<=u:=by rw[<-C];exact Int.emod_nonneg _ (by omega)
  have V:u<k:=by rw[<-C];exact Int.emod_lt_of_pos _ (by omega)
  obtain⟨u,rfl⟩:∃n:Nat,u=n:=⟨u.toNat,by omega⟩
  obtain⟨R,E,K,W,L,M⟩:=TL x p (a:=u) (b:=k) (by omega) (by omega) ⟨O,Q⟩;rw[bH E,wr (by omega) (by omega)];refine j _ ⟨k+1,by dsimp only;omega,by omega,by omega,K,by dsimp only;omega,λv l f=> ?_⟩ (by dsimp only;omega);by_cases y:v=k
  ·subst y;exact⟨u,by omega,M (by omega)⟩
  ·obtain⟨J,t,w⟩:=o v l (by omega);exact⟨J,t,L _ _ w⟩
 ·rw[if_neg A];exact⟨_,rfl,p,by dsimp only;omega,λv l f=>o v l (by dsimp only at f;omega)⟩
theorem abr (x:Oi) {c:aQ} {P:fW} (h:VM c P):OK (λg:GR=>VM g.1 g.2∧g.1=c∧g.2.length=P.length∧∀v u,mI P v u->mI g.2 v u) (mV 1000 x (c,P)):=by
 unfold mV;have z:=h.n24;have B:=h.n1;refine wP (λs:Int×fW=>∃k:Nat,s.1=k∧k<=100∧VM c s.2∧s.2.length=P.length∧∀v u,mI P v u->mI s.2 v u) (λs=>200 - s.1.toNat) ?_ 1000 _ ⟨P.length,rfl,by omega,h,rfl,λ_ _ h=>h⟩ (by dsimp only;omega);rintro⟨i,Q⟩ w ⟨k,p,A,f,o,e⟩ d;dsimp only at p f o e;subst p;have done:∀b:Bool,b=false->OK (λg:GR=>VM g.1 g.2∧g.1=c∧g.2.length=P.length∧∀v u,mI P v u->mI g.2 v u) (lV 1000 x (c,P) ((k:Int),Q) w b):=by
  rintro b rfl;exact⟨_,rfl,f,rfl,o,e⟩
 unfold oZ;dsimp only;rw[wr (by omega) (by omega)];by_cases l:(k:Int)+1<(x.2.1.length:Int)
 rotate_left
 ·rw[if_neg l];exact done _ Z
 rw[if_pos l];by_cases m:(k:Int)<60
 rotate_left
 ·exact done _ (decide_eq_false m)
 rw[decide_eq_true m];unfold lV;dsimp only;rw[if_pos Z,cA (by omega),bH (wB _ _ (by omega) (by omega)),wr (by omega) (by omega),cA (by omega),bH (wB _ _ (by omega) (by omega)),bH (OH _ _ (by omega)),bH (wB _ _ (by decide) (by decide))];obtain⟨E,F,G⟩:=Mu (at' x.2.2.1 (k:Int));rw[E];generalize r:at' x.2.1 (k:Int)%(P.length:Int)=u;have K:0<=u:=by rw[<-r];exact Int.emod_nonneg _ (by omega)
 have L:u<P.length:=by rw[<-r];exact Int.emod_lt_of_pos _ (by omega)
 obtain⟨u,rfl⟩:∃n:Nat,u=n:=⟨u.toNat,by omega⟩
 generalize q:at' x.2.1 ((k:Int)+1)%(P.length:Int)=t;have I:0<=t:=by rw[<-q];exact Int.emod_nonneg _ (by omega)
 have J:t<P.length:=by rw[<-q];exact Int.emod_lt_of_pos _ (by omega)
 obtain⟨t,rfl⟩:∃n:Nat,t=n:=⟨t.toNat,by omega⟩
 obtain⟨H,y,C,M,D,N⟩:=TL x f (a:=u) (b:=t) (by omega) (by omega) ⟨F,G⟩;rw[bH y,wr (by omega) (by omega)];exact d _ ⟨k+2,by dsimp only;omega,by omega,C,by dsimp only;omega,λv u j=>D _ _ (e v u j)⟩ (by dsimp only;omega)
theorem MY (x:Oi) (a:Nat) (m:1<=a) (c:a<=24):
  OK (λg:GR=>VM g.1 g.2∧g.2.length<=a∧∀v:Nat,1<=v->v<g.2.length->∃u:Nat,u<v∧mI g.2 u v) (fF 1000 x (a:Int)):=by
 unfold fF;obtain⟨⟨s,P⟩,k,o,n,i⟩:=abT x a m c;obtain⟨⟨j,t⟩,l,b,p,d,h⟩:=abr x o;rw[bH k,bH l];dsimp only at n i b p d h;refine⟨_,rfl,b,by dsimp only;omega,λv r f=> ?_⟩
 obtain⟨u,q,e⟩:=i v r (by dsimp only at f;omega);exact⟨u,q,h _ _ e⟩
end Go.Proofs.YtlkhndebimcbbaaGreatDoor
namespace Go.Proofs.YtlkhndebimcbbaaGreatDoor
open Go Go.Sx
abbrev val (c:bF) (v x:Nat):Int:=at' (at' c (v:Int)) (x:Int)
def acd (g:GR) (b:Int) (v:Nat) (a:Int):Prop:=if b = -1 then -1<=a∧a<=((row g v).length:Int) - 1 else 0<=a∧a<=b
instance (g:GR) (top:Int) (v:Nat) (a:Int):Decidable (acd g top v a):=by unfold acd;infer_instance
def jX (g:GR):Nat->Int
 |0=>0
 |k+1=>max (jX g k) (at' g.1 (k:Int))
theorem Ke {g:GR} (a:VG g):∀k,k<=g.2.length->0<=jX g k∧jX g k<=255
 |0,_=>by simp[jX]
 |k+1,h=>by
  have b:=Ke a k (by omega);have c:0<=at' g.1 (k:Int)∧at' g.1 (k:Int)<=255:=(a.node k (by omega)).id;simp only[jX];omega
abbrev Dd:=Ep
def DG (x:Dd):Prop:=(-100000<=x.2.2.2.1∧x.2.2.2.1<=100000)∧(0<=x.2.2.2.2.1∧x.2.2.2.2.1<=100000)∧(0<=x.2.2.2.2.2∧x.2.2.2.2.2<=100000)
def lo (g:GR) (x:Dd) (v:Nat):Int:=if x.2.1=2 then 0 else if x.2.1=3 then -1 else x.2.2.1
def hi (g:GR) (x:Dd) (v:Nat):Int:=if x.2.1=2 then 1 else if x.2.1=3 then((row g v).length:Int) - 1 else x.2.2.2.1+x.2.2.2.2.1*(g.2.length:Int)+x.2.2.2.2.2*jX g g.1.length
structure Du (g:GR) (c:bF) (vars:List Dd):Prop where
 len:c.length=g.2.length
 row:∀v,v<g.2.length->(at' c (v:Int)).length=vars.length
 ok:∀v,v<g.2.length->∀x,x<vars.length->lo g (at' vars (x:Int)) v<=val c v x∧val c v x<=hi g (at' vars (x:Int)) v
def EY (a b:Nat):Nat:=(BitVec.ofInt 32 (a:Int) &&& ~~~ BitVec.ofInt 32 (b:Int)).toNat
theorem OX (a b:Nat):EY a b<4294967296:=(BitVec.ofInt 32 (a:Int) &&& ~~~ BitVec.ofInt 32 (b:Int)).isLt
theorem Ho {a i:Nat} (b:a<4294967296) (h:a.testBit i=true):i<32:=by
 apply Classical.byContradiction;intro c;rw[Nat.testBit_lt_two_pow (Nat.lt_of_lt_of_le b (Nat.pow_le_pow_right (n:=2) (by omega) (show 32<=i by omega)))]at h;cases h
theorem LC {a b:Nat} (d:a<4294967296) (e:b<4294967296) (i:Nat):(EY a b).testBit i=(a.testBit i && !b.testBit i):=by
 have:=BitVec.getLsbD_and (x:=BitVec.ofInt 32 (a:Int)) (y:= ~~~ BitVec.ofInt 32 (b:Int)) (i:=i);rw[BitVec.getLsbD_not]at this;have h:(EY a b).testBit i=((Oh (a:Int)).testBit i&&(decide (i<32) && !(Oh (b:Int)).testBit i)):=this;rw[yK d,yK e]at h;rw[h];cases c:a.testBit i with
 |false=>simp
 |true=>simp[Ho d c]
theorem OI (a b:Nat):uK .u32 (a:Int) (b:Int)=(EY a b:Int):=My _ (OX a b)
theorem DK {a b:Nat} (c:a<4294967296) (d:b<4294967296):dR .u32 (a:Int) (b:Int)=((a &&& b:Nat):Int):=by rw[MP,yK c,yK d]
theorem ahF {a b:Nat} (c:a<4294967296) (d:b<4294967296):MQ .u32 (a:Int) (b:Int)=((a ||| b:Nat):Int):=by rw[acW,yK c,yK d]
theorem aco {a b:Nat} (c:a<4294967296) (d:b<4294967296):a ||| b<4294967296:=Nat.or_lt_two_pow (n:=32) c d
theorem Rb {a b:Nat} (c:a<4294967296):a &&& b<4294967296:=Nat.lt_of_le_of_lt Nat.and_le_left c
theorem Re {a k:Nat} (c:a<4294967296) (b:k<32):MQ .u32 (a:Int) (Cn .u32 1 (k:Int))=((a ||| 2^k:Nat):Int):=by rw[ach b,ahF c (Ij b)]
theorem TM (p:Nat->Bool) {k:Nat} (a:k<=32):Bn p k<4294967296:=Nat.lt_of_lt_of_le (Pp p k) (Nat.pow_le_pow_right (n:=2) (by omega) a)
theorem ajW {i:Nat} (h:i<1000000):wI .i64 ((i:Int)+1)=(i:Int)+1:=wr (by omega) (by omega)
theorem VG.to {g:GR} (c:VG g) {v i:Nat} (e:v<g.2.length) (d:i<(row g v).length):∃u:Nat,u<g.2.length∧(fL (row g v) i).1=(u:Int):=by
 obtain⟨u,a,b,_⟩:=c.port e d;exact⟨u,a,b⟩
theorem ZZ {n i:Nat}:(2^n - 1).testBit i=decide (i<n):=Nat.testBit_two_pow_sub_one n i
def d0 (g:GR) (c:bF) (d v:Nat):Int:=if d.testBit v=true then at' (at' c (v:Int)) 0 else if v=0 then 0 else(g.2.length:Int)
def start (g:GR) (c:bF) (d:Nat):aQ:=(List.range g.2.length).map (d0 g c d)
def sO:List Dd:=[(ByteArray.mk #[100],1,0,0,1,0),(ByteArray.mk #[112],3,0,0,0,0)]
theorem NE {a:Type} [Inhabited a] (l:List a) (x:a) {i:Nat} (b:i<l.length+1):at' (l++[x]) (i:Int)=if i<l.length then at' l (i:Int)else x:=by
 rw[fQ,fQ];by_cases h:i<l.length
 ·rw[if_pos h,List.getD_eq_getElem?_getD,List.getD_eq_getElem?_getD,List.getElem?_append_left h]
 ·have:i=l.length:=by omega
  subst this;rw[if_neg h];simp
def Wv (g:GR) (a:List Dd) (v:Nat) (l:aQ):Prop:=∀x,x<l.length->lo g (at' a (x:Int)) v<=at' l (x:Int)∧at' l (x:Int)<=hi g (at' a (x:Int)) v
theorem UX {g:GR} (G:VG g) (d:List Dd) (f:aQ) (ht:d.length<=900) (U:∀x,x<d.length->DG (at' d (x:Int)) ∧ -100000<=(at' d (x:Int)).2.2.1∧(at' d (x:Int)).2.2.1<=(at' d (x:Int)).2.2.2.1):
  OK (λc=>Du g c d) (mY 1000 g d f):=by
 have Q:=G.n24;have C:=G.len;have P:mY 1000 g d f=rC 1000 g d f (jX g g.2.length):=by
  unfold mY;refine eY (F:=λk:Nat=>((jX g k,(k:Int)):fP)) g.2.length (λk B hk=> ?_) (λB=> ?_) 1000 (by omega)
  ·unfold vC;simp only;rw[if_pos (by omega),cA (by omega),wr (by omega) (by omega)];rfl
  ·unfold vC;simp only;rw[if_neg (by omega)]
 rw[P];obtain⟨M,X⟩:=Ke G g.2.length (by omega);unfold rC;have J:=BU (step:=kH 1000 g d f (jX g g.2.length)) (K:=λx=>some x.1) g.2.length (λv x=>x.2=(v:Int)∧x.1.length=v∧∀w,w<v->(at' x.1 (w:Int)).length=d.length∧Wv g d w (at' x.1 (w:Int))) (λv x B t q=> ?_) (λx B q=> ?_) 1000 (([]:bF),(0:Int)) ⟨rfl,rfl,λw V=>by omega⟩ (by omega)
 ·obtain⟨⟨c,i⟩,⟨_,s,p⟩,I⟩:=J;exact⟨c,I,s,λv t=>(p v t).1,λv t x D=>(p v t).2 x (by rw[(p v t).1];exact D)⟩
 ·obtain⟨c,i⟩:=x;obtain⟨rfl,s,p⟩:=q;simp only at s p;have L:(at' g.2 (v:Int)).length<g.2.length:=(G.node v t).deg;unfold kH;simp only;rw[if_pos (by omega)];have E:=BU (step:=nX 1000 g d f (jX g g.2.length) (c,(v:Int)) B) (K:=λy=>B (c++[y.1],(v:Int)+1)) d.length (λx y=>y.2=(x:Int)∧y.1.length=x∧Wv g d v y.1) (λx y n D q=> ?_) (λy n q=> ?_) 1000 (([]:aQ),(0:Int)) ⟨rfl,rfl,λx D=>by simp at D⟩ (by omega)
  ·obtain⟨⟨l,j⟩,⟨_,h,u⟩,I⟩:=E;refine⟨(c++[l],(v:Int)+1),⟨by simp,by simp[s],λw V=> ?_⟩,I⟩
   simp only;rw[NE c l (by omega),s];by_cases e:w<v
   ·rw[if_pos e];exact p w e
   ·rw[if_neg e];have:w=v:=by omega
    subst this;exact⟨h,u⟩
  ·obtain⟨l,j⟩:=y;obtain⟨rfl,h,u⟩:=q;simp only at h u;obtain⟨⟨s1,N,O⟩,s4,s5⟩:=U x D;have o:∀a b:Int,a=lo g (at' d (x:Int)) v->b=hi g (at' d (x:Int)) v -> -100000<=a->a<=b+1->b<=100000000->(a<=b∨(a = -1∧b = -1))->∃H,(H.2=((x+1:Nat):Int)∧H.1.length=x+1∧Wv g d v H.1)∧nW 1000 d f (c,(v:Int)) (l,(x:Int)) n (a,b)=n H:=by
    intro a b R T q1 q2 q3 q4;have S:a<=b:=by omega
    unfold nW;simp only;have w1:wI .i64 ((v:Int)*(d.length:Int))=(v:Int)*(d.length:Int):=by
     have Y:0<=(v:Int)*(d.length:Int):=Int.mul_nonneg (by omega) (by omega);have p2:(v:Int)*(d.length:Int)<=24*900:=Int.mul_le_mul (by omega) (by omega) (by omega) (by omega);exact wr (by omega) (by omega)
    have Y:0<=(v:Int)*(d.length:Int):=Int.mul_nonneg (by omega) (by omega);have p2:(v:Int)*(d.length:Int)<=24*900:=Int.mul_le_mul (by omega) (by omega) (by omega) (by omega);rw[w1,wr (x:=(v:Int)*(d.length:Int)+(x:Int)) (by omega) (by omega),OH _ _ (by omega),bH Z,wr (x:=b - a) (by omega) (by omega),wr (x:=b - a+1) (by omega) (by omega),wB _ _ (by omega) (by omega),bH Z];have r1:=Int.emod_nonneg (at' f ((v:Int)*(d.length:Int)+(x:Int))) (b:=b - a+1) (by omega);have r2:=Int.emod_lt_of_pos (at' f ((v:Int)*(d.length:Int)+(x:Int))) (b:=b - a+1) (by omega);generalize at' f ((v:Int)*(d.length:Int)+(x:Int))%(b - a+1)=r at r1 r2;rw[wr (x:=a+r) (by omega) (by omega),cA (by simp;omega),wr (by omega) (by omega)];refine⟨_,⟨by simp,by simp[h],λz W=> ?_⟩,rfl⟩
    simp only[List.length_append,List.length_cons,List.length_nil,h]at W;simp only;rw[NE l _ (by omega),h];by_cases e:z<x
    ·rw[if_pos e];exact u z (by omega)
    ·rw[if_neg e];have:z=x:=by omega
     subst this;rw[<-R,<-T];omega
   unfold nX;simp only;rw[if_pos (by omega),cA (by omega),cA (by omega),cA (by omega),cA (by omega),cA (by omega)];by_cases m:(at' d (x:Int)).2.1=2
   ·rw[if_pos m];exact o 0 1 (by unfold lo;rw[if_pos m]) (by unfold hi;rw[if_pos m]) (by omega) (by omega) (by omega) (by omega)
   ·rw[if_neg m];by_cases A:(at' d (x:Int)).2.1=3
    ·rw[if_pos A,cA (by omega),wr (by omega) (by omega)];exact o (-1) _ (by unfold lo;rw[if_neg m,if_pos A]) (by unfold hi;rw[if_neg m,if_pos A]) (by omega) (by omega) (by omega) (by omega)
    ·rw[if_neg A];have q1:0<=(at' d (x:Int)).2.2.2.2.1*(g.2.length:Int):=Int.mul_nonneg N.1 (by omega);have q2:(at' d (x:Int)).2.2.2.2.1*(g.2.length:Int)<=100000*24:=Int.mul_le_mul N.2 (by omega) (by omega) (by omega);have q3:0<=(at' d (x:Int)).2.2.2.2.2*jX g g.2.length:=Int.mul_nonneg O.1 M;have q4:(at' d (x:Int)).2.2.2.2.2*jX g g.2.length<=100000*255:=Int.mul_le_mul O.2 X M (by omega);rw[wr (x:=(at' d (x:Int)).2.2.2.2.1*(g.2.length:Int)) (by omega) (by omega),wr (x:=(at' d (x:Int)).2.2.2.2.2*jX g g.2.length) (by omega) (by omega),wr (x:=(at' d (x:Int)).2.2.2.1+(at' d (x:Int)).2.2.2.2.1*(g.2.length:Int)) (by omega) (by omega),wr (by omega) (by omega)];exact o _ _ (by unfold lo;rw[if_neg m,if_neg A]) (by unfold hi;rw[if_neg m,if_neg A,C]) (by omega) (by omega) (by omega) (by omega)
  ·obtain⟨l,j⟩:=y;obtain⟨rfl,h,u⟩:=q;simp only at h u;unfold nX zZ;simp only;rw[if_neg (by omega),cA (by simp;omega),wr (by omega) (by omega)]
 ·obtain⟨c,i⟩:=x;obtain⟨rfl,s,p⟩:=q;unfold kH vA;simp only;rw[if_neg (by omega)]
def low (a b:Int):Int:=if 0<=b∧(a<0∨b<a)then b else a
end Go.Proofs.YtlkhndebimcbbaaGreatDoor
namespace Go.Proofs.YtlkhndebimcbbaaGreatDoor
open Go.Sx
def yY (a:Int) (b:Bool):Option (Int):=
 if b=true then(some (-1:Int))else(if a<=(17:Int)then(some (0:Int))else(if a<=(29:Int)then(some (1:Int))else(if a<=(42:Int)then(some (2:Int))else(some (3:Int)))))
def wY (U:Nat) (a:Int):Option (Int):=
 if a<(1:Int)then(yY a (true))else(yY a (decide ((43:Int)<a)))
theorem aaB:aX Tryz.prog 178:=Tryz.call178
theorem NN (U:Nat) {b:Int} (r:Int) (h:wY U b=some r):
  aY Tryz.prog 178 #[vI (b)] [] (λx:Unit=>vI (r)) (λx l=>l) (λ_ l=>l):=by
 refine aY.of Tryz.func178 Z Tryz.ntmps178 Z λc=>?_;refine aV<|aE Z<|aM<|aK<|aS<|aK<|dO (λa=>yY b a=some r) (λa d=>[(0,vI (b)),(3,vB (a))]) (λa d=>[]) ?_ ?_
 ·refine aR<|aA Z<|cM Z<|aA Z ?_;refine Dv h Z (λ_ h=>?_) λ_ h=>?_
  ·refine aI Z<|aI Z<|dW Z<|aE Z<|aM ?_;exact iB (true) () h SF Z
  refine cS Z<|aP Z (zC Z Z) Z<|fO Z<|aE Z<|aM ?_;exact iB (decide ((43:Int)<b)) () h SF Z
 intro a d h;refine AZ h Z (λ_ h=>?_) λ_ h=>?_
 ·refine aV<|aE Z<|aM<|aW<|bM<|aJ ?_;cases h;exact lA Z
 refine aV<|aA Z<|aB (BN Z Z) Z<|aE Z<|aM ?_;refine eV h Z (λh=>?_) λh=>?_
 ·refine aV<|aE Z<|aM<|aW<|bM<|aJ ?_;cases h;exact lA Z
 refine aV<|aA Z<|aB (BN Z Z) Z<|aE Z<|aM ?_;refine eV h Z (λh=>?_) λh=>?_
 ·refine aV<|aE Z<|aM<|aW<|bM<|aJ ?_;cases h;exact lA Z
 refine aV<|aA Z<|aB (BN Z Z) Z<|aE Z<|aM ?_;refine eV h Z (λh=>?_) λh=>?_
 ·refine aV<|aE Z<|aM<|aW<|bM<|aJ ?_;cases h;exact lA Z
 refine dK<|mA<|aV<|aE Z<|aM<|aW ?_;cases h;exact lA Z
def Eo  (a:Unit):Option (Int):=
 some (-1:Int)
def lO (U:Nat) (d:fM) (a:fP) (c:iZ->Option (Int)):Option (Int):=
 if a.1<(List.length d:Int)then(ck (0<=a.1∧a.1<(List.length d:Int)) (Option.bind (wY U ((at' d a.1).1)) λb=>(if b<(0:Int)then(some (-1:Int))else(if(wI .i64 (a.2+(wI .i64 (b - (1:Int)))))=(0:Int)then(some (wI .i64 (a.1+(1:Int))))else(c ((wI .i64 (a.1+(1:Int))),(wI .i64 (a.2+(wI .i64 (b - (1:Int)))))))))))else(Eo  (()))
def Br (U:Nat) (b:fM) (c:Int) (a:Bool):Option (Int):=
 if a=true then(some (-1:Int))else(bJ (lO U b) U (c,(1:Int)))
def CE (U:Nat) (b:fM) (a:Int):Option (Int):=
 if a<(0:Int)then(Br U b a (true))else(Br U b a (decide ((List.length b:Int)<=a)))
theorem aaw:aX Tryz.prog 161:=Tryz.call161
theorem Sw (U:Nat) {g:fM} {b:Int} (k:Value) (r:Int) (h:CE U g b=some r):
  aY Tryz.prog 161 #[k,vI (b)] [Sl bB k g] (λx:Unit=>vI (r)) (λx l=>l) (λ_ l=>l):=by
 refine aY.of Tryz.func161 Z Tryz.ntmps161 Z λc=>?_;refine aV<|aE Z<|aM<|aK<|aK<|dO (λd=>Br U g b d=some r) (λd n=>[(0,k),(1,vI (b)),(14,vB (d))]) (λd n=>[]) ?_ ?_
 ·refine aR<|aA Z<|cM Z<|aA Z ?_;refine Dv h Z (λ_ h=>?_) λ_ h=>?_
  ·refine aI Z<|aI Z<|aI Z<|aI Z<|dW Z<|aM ?_;exact iB (true) () h SF Z
  refine cS Z<|cS Z<|aP Z (fX Z (aF.fact 0 Z) Z) Z<|aP Z (De Z Z) Z<|fO Z<|aM ?_;exact iB (decide ((List.length g:Int)<=b)) () h SF Z
 intro d n h;refine AZ h Z (λ_ h=>?_) λ_ h=>?_
 ·refine aV<|aE Z<|aM<|aW<|aJ ?_;cases h;exact lA Z
 refine cK<|aK<|dO (λj=>Eo  j=some r) (λj o=>[]) (λj o=>[]) ?_ ?_
 ·refine aV<|aE Z<|aM<|aS<|dU (lO U g) (λa e=>[(0,k),(1,vI (a.1)),(5,vI (a.2))]) (λa e=>[]) (b,(1:Int)) () h SF (a_.refl _) ?_;intro p a e h;refine aK<|aV<|aA Z<|aA Z<|kF (aF.fact 0 Z) Z<|cM Z<|aM ?_;refine eV h Z (λh=>?_) λh=>?_
  ·refine cK<|aK<|aS<|aV<|aA Z<|aA Z<|cX h λf h=>aB (aZ Z Z (aF.fact 0 Z) Z Z f) Z<|aB (fY Z Z Z Z Z) Z<|aB (jO Z (aF.fact 0 Z) Z Z Z mJ f) Z<|fH h λi m h=>aH (aN.callQ aaB (NN U  i m) Z .nil) Z λq=>aE Z<|aM<|aK<|aV<|aA Z<|cM Z<|aM ?_;refine eV h Z (λh=>?_) λh=>?_
   ·refine aV<|aE Z<|aM<|aW<|aJ<|bM<|aJ<|aJ<|bM<|aJ ?_;cases h;exact lA Z
   refine cK<|aV<|aA Z<|aA Z<|aB (oK Z Z) Z<|cH Z<|aE Z<|aM<|aV<|aA Z<|cP Z<|aM ?_;refine eV h Z (λh=>?_) λh=>?_
   ·refine aV<|aA Z<|cH Z<|aE Z<|aM<|aW<|bM<|aJ<|aJ<|bM<|aJ ?_;cases h;exact lA Z
   refine dK<|mA<|aR<|aA Z<|cH Z<|aE Z<|aM ?_;exact xT ((wI .i64 (a.1+(1:Int))),(wI .i64 (a.2+(wI .i64 (i - (1:Int)))))) () h SF Z
  refine e_ ?_;exact iB () (()) h SF Z
 intro j o h;unfold Eo at h;refine aV<|aE Z<|aM<|aW ?_;cases h;exact lA Z
def iX (U:Nat) (a:Bool):Option (Int):=
 if a=true then(some (1:Int))else(some (0:Int))
theorem yL:aX Tryz.prog 187:=Tryz.call187
theorem lF (U:Nat) {a:Bool} (r:Int) (h:iX U a=some r):
  aY Tryz.prog 187 #[vB (a)] [] (λx:Unit=>vI (r)) (λx l=>l) (λ_ l=>l):=by
 refine aY.of Tryz.func187 Z Tryz.ntmps187 Z λc=>?_;refine aV<|aE Z<|aM<|aK<|aV<|aA Z<|aM ?_;refine AZ h Z (λ_ h=>?_) λ_ h=>?_
 ·refine aV<|aE Z<|aM<|aW<|aJ ?_;cases h;exact lA Z
 refine cK<|aV<|aE Z<|aM<|aW ?_;cases h;exact lA Z
def sE (U:Nat) (a:VF) (d:Int) (b:Int) (c:Int):Option (Int):=
 if d=(6:Int)then(some (List.length a.2.1.1:Int))else(if d=(7:Int)then(some (a.2.2.1))else(if d=(8:Int)then(ck (0<=b∧b<(List.length a.2.1.1:Int)) (some (at' a.2.1.1 b)))else(if d=(9:Int)then(ck (0<=b∧b<(List.length a.2.1.2:Int)) (some (List.length (at' a.2.1.2 b):Int)))else(if d=(10:Int)then(Option.bind (iX U (decide (b=(0:Int)))) λf=>(some (f)))else(if d=(11:Int)then(some (c))else(ck (0<=b∧b<(List.length a.2.1.2:Int)) (ck (0<=c∧c<(List.length (at' a.2.1.2 b):Int)) (if d=(13:Int)then(ck (0<=((at' (at' a.2.1.2 b) c).1)∧((at' (at' a.2.1.2 b) c).1)<(List.length a.2.1.1:Int)) (some (at' a.2.1.1 ((at' (at' a.2.1.2 b) c).1))))else(if d=(14:Int)then(ck (0<=((at' (at' a.2.1.2 b) c).1)∧((at' (at' a.2.1.2 b) c).1)<(List.length a.2.1.2:Int)) (some (List.length (at' a.2.1.2 ((at' (at' a.2.1.2 b) c).1)):Int)))else(if d=(15:Int)then(Option.bind (iX U (decide (((at' (at' a.2.1.2 b) c).1)=(0:Int)))) λe=>(some (e)))else(if d=(16:Int)then(some ((at' (at' a.2.1.2 b) c).2))else(ck (0<=b∧b<(List.length a.2.2.2:Int)) (ck (0<=c∧c<(List.length (at' a.2.2.2 b):Int)) (some (at' (at' a.2.2.2 b) c)))))))))))))))
theorem aaC:aX Tryz.prog 186:=Tryz.call186
theorem Ef (U:Nat) {d:VF} {s:Int} {f:Int} {g:Int} (i:Nat)  (t:Value)  (u:Value)  (v:Value)  (w:Value)  (F:k_)  (y:Value)  (G:rB) (r:Int) (h:sE U d s f g=some r):
  aY Tryz.prog 186 #[vP i,vI (s),vI (f),vI (g)] [bV i [vS (d.1.1),t,u,v,w,vI (d.2.2.1),y] 134,Sl aU t d.1.2.1,Sl aL u d.1.2.2,Sl bO v d.2.1.1,S2 bB w F d.2.1.2,S2 bO y G d.2.2.2] (λx:Unit=>vI (r)) (λx l=>l) (λ_ l=>l):=by
 refine aY.of Tryz.func186 Z Tryz.ntmps186 Z λc=>?_;refine aV<|aE Z<|aM<|aK<|aV<|aA Z<|aM<|aS<|aV<|cP Z<|aE Z<|aM ?_;refine eV h Z (λh=>?_) λh=>?_
 ·refine aV<|aA Z<|aB (b_ Z) Z<|bT Z<|bT Z<|aB (dG Z (aF.fact 0 Z) Z Z Z) Z<|kF (aF.fact 3 Z) Z<|aE Z<|aM<|aW<|bM<|aJ ?_;cases h;exact lA Z
 refine aV<|cP Z<|aE Z<|aM ?_;refine eV h Z (λh=>?_) λh=>?_
 ·refine aV<|aA Z<|aB (b_ Z) Z<|bT Z<|aB (dG Z (aF.fact 0 Z) Z Z Z) Z<|aE Z<|aM<|aW<|bM<|aJ ?_;cases h;exact lA Z
 refine aV<|cP Z<|aE Z<|aM ?_;refine eV h Z (λh=>?_) λh=>?_
 ·refine aV<|aA Z<|aB (b_ Z) Z<|bT Z<|bT Z<|aB (dG Z (aF.fact 0 Z) Z Z Z) Z<|aA Z<|cX h λq h=>aB (aZ Z Z (aF.fact 3 Z) Z Z q) Z<|aB (bQ Z (aF.fact 3 Z) Z Z Z cQ q) Z<|aE Z<|aM<|aW<|bM<|aJ ?_;cases h;exact lA Z
 refine aV<|cP Z<|aE Z<|aM ?_;refine eV h Z (λh=>?_) λh=>?_
 ·refine aV<|aA Z<|aB (b_ Z) Z<|bT Z<|bT Z<|aB (dG Z (aF.fact 0 Z) Z Z Z) Z<|aA Z<|cX h λn h=>aB (bX Z Z (aF.fact 4 Z) Z Z n) Z<|aB (bW Z (aF.fact 4 Z) Z Z n) Z<|aB (fX Z (aF.el (aF.fact 4 Z) n.1 n.2) Z) Z<|aE Z<|aM<|aW<|bM<|aJ ?_;cases h;exact lA Z
 refine aV<|cP Z<|aE Z<|aM ?_;refine eV h Z (λh=>?_) λh=>?_
 ·refine aV<|aA Z<|cP Z<|fH h λB C h=>aH (aN.callQ yL (lF U  B C) Z .nil) Z λD=>aE Z<|aM<|aW<|bM<|aJ ?_;cases h;exact lA Z
 refine aV<|cP Z<|aE Z<|aM ?_;refine eV h Z (λh=>?_) λh=>?_
 ·refine aV<|aA Z<|aE Z<|aM<|aW<|bM<|aJ ?_;cases h;exact lA Z
 refine dK<|mA<|aV<|aA Z<|aB (b_ Z) Z<|bT Z<|bT Z<|aB (dG Z (aF.fact 0 Z) Z Z Z) Z<|aA Z<|cX h λa h=>aB (bX Z Z (aF.fact 4 Z) Z Z a) Z<|aB (bW Z (aF.fact 4 Z) Z Z a) Z<|aA Z<|cX h λj h=>aB (aZ Z Z (aF.el (aF.fact 4 Z) a.1 a.2) Z Z j) Z<|aB (jA (cs:=[vI ((at' (at' d.2.1.2 f) g).1),vI ((at' (at' d.2.1.2 f) g).2)]) Z (aF.el (aF.fact 4 Z) a.1 a.2) bU Z Z Z Z j) Z<|aH (aN.alloc (cs:=VH) Z Z) Z λA=>bS 0 (vs:=[vI ((at' (at' d.2.1.2 f) g).1),vI ((at' (at' d.2.1.2 f) g).2)]) Z Z Z Z Z Z<|aM<|aK<|aV<|aA Z<|aM<|aS<|aV<|cP Z<|aE Z<|aM ?_;refine eV h Z (λh=>?_) λh=>?_
 ·refine aK ?_;refine JR.start [0,1,3,7,15,0,32,127,255,511] 7 mixedOrders (by decide +kernel) ?_;refine JR.open (by exact rfl) ?_;refine bG Z<|jS Z (b_ Z)<|dB Z<|dB Z<|bK Z .nil (kA 0 Z) (dG Z (aF.fact 0 Z) Z Z Z) aO.z<|dB Z<|jR 0 Z<|bP 7 Z Z<|cX h λk h=>aB (aZ Z Z (aF.fact 3 Z) Z Z k) Z<|aB (bQ Z (aF.fact 3 Z) Z Z Z cQ k) Z<|aE Z<|aM<|aW<|bM<|aJ ?_;cases h;exact tU Z
 refine aV<|cP Z<|aE Z<|aM ?_;refine eV h Z (λh=>?_) λh=>?_
 ·refine aK ?_;refine JR.start [0,1,3,7,15,0,32,127,255,511,1023] 7 mixedOrders (by decide +kernel) ?_;refine JR.open (by exact rfl) ?_;refine bG Z<|jS Z (b_ Z)<|dB Z<|dB Z<|bK Z .nil (kA 0 Z) (dG Z (aF.fact 0 Z) Z Z Z) aO.z<|dB Z<|jR 0 Z<|bP 7 Z Z<|cX h λe h=>aB (bX Z Z (aF.fact 4 Z) Z Z e) Z<|aB (bW Z (aF.fact 4 Z) Z Z e) Z<|aB (fX Z (aF.el (aF.fact 4 Z) e.1 e.2) Z) Z<|aE Z<|aM<|aW<|bM<|aJ ?_;cases h;exact tU Z
 refine aV<|cP Z<|aE Z<|aM ?_;refine eV h Z (λh=>?_) λh=>?_
 ·refine aV<|bT Z<|dD 0 Z<|cP Z<|fH h λo p h=>aH (aN.callQ yL (lF U  o p) Z .nil) Z λE=>aE Z<|aM<|aW<|bM<|aJ ?_;cases h;exact tU Z
 refine aV<|cP Z<|aE Z<|aM ?_;refine eV h Z (λh=>?_) λh=>?_
 ·refine aV<|bT Z<|dD 0 Z<|aE Z<|aM<|aW<|bM<|aJ ?_;cases h;exact tU Z
 refine dK<|mA<|aV<|aA Z<|aB (b_ Z) Z<|bT Z<|aB (dG Z (aF.fact 0 Z) Z Z Z) Z<|aA Z<|cX h λb h=>aB (bX Z Z (aF.fact 5 Z) Z Z b) Z<|aB (bW Z (aF.fact 5 Z) Z Z b) Z<|aA Z<|cX h λm h=>aB (aZ Z Z (aF.el (aF.fact 5 Z) b.1 b.2) Z Z m) Z<|aB (bQ Z (aF.el (aF.fact 5 Z) b.1 b.2) Z Z Z cQ m) Z<|aE Z<|aM<|aW ?_;cases h;exact tU Z
def lX (U:Nat) (a:NR) (b:fP) (c:Int):Option (Int):=
 if b.1=(1:Int)then(some (b.2))else(if b.1=(2:Int)then(some (1:Int))else(if b.1=(3:Int)then(some (0:Int))else(if b.1=(4:Int)then(some (-1:Int))else(if b.1=(5:Int)then(ck (0<=a.2.2.1∧a.2.2.1<(List.length a.2.1:Int)) (ck (0<=b.2∧b.2<(List.length (at' a.2.1 a.2.2.1):Int)) (some (at' (at' a.2.1 a.2.2.1) b.2))))else(if b.1=(12:Int)then(ck (0<=a.2.2.1∧a.2.2.1<(List.length a.1.2.1.2:Int)) (ck (0<=c∧c<(List.length (at' a.1.2.1.2 a.2.2.1):Int)) (ck (0<=((at' (at' a.1.2.1.2 a.2.2.1) c).1)∧((at' (at' a.1.2.1.2 a.2.2.1) c).1)<(List.length a.2.1:Int)) (ck (0<=b.2∧b.2<(List.length (at' a.2.1 ((at' (at' a.1.2.1.2 a.2.2.1) c).1)):Int)) (some (at' (at' a.2.1 ((at' (at' a.1.2.1.2 a.2.2.1) c).1)) b.2))))))else(Option.bind (sE U ((((a.1.1.1,a.1.1.2.1,a.1.1.2.2)),((a.1.2.1.1,a.1.2.1.2)),a.1.2.2.1,a.1.2.2.2)) b.1 a.2.2.1 c) λd=>(some (d))))))))
theorem aay:aX Tryz.prog 167:=Tryz.call167
theorem ES (U:Nat) {d:NR} {k:fP} {y:Int} (g:Nat)  (e:Nat)  (o:Value)  (p:Value)  (q:Value)  (s:Value)  (B:k_)  (t:Value)  (C:rB)  (A:Value)  (v:rB)  (m:Value) (r:Int) (h:lX U d k y=some r):
  aY Tryz.prog 167 #[vP g,Value.agg #[vI (k.1),vI (k.2)],vI (y)] [bV g [vP e,A,vI (d.2.2.1),m] 206,bV e [vS (d.1.1.1),o,p,q,s,vI (d.1.2.2.1),t] 134,Sl aU o d.1.1.2.1,Sl aL p d.1.1.2.2,Sl bO q d.1.2.1.1,S2 bB s B d.1.2.1.2,S2 bO t C d.1.2.2.2,S2 bO A v d.2.1,Sl bB m d.2.2.2] (λx:Unit=>vI (r)) (λx l=>l) (λ_ l=>l):=by
 refine aY.of Tryz.func167 Z Tryz.ntmps167 Z λc=>?_;refine aV<|aH (aN.box (cs:=[vI (k.1),vI (k.2)]) Z Z) Z λE=>aE Z<|aM<|aK<|aV<|bT Z<|dD 0 Z<|aM<|aS<|aV<|cP Z<|aE Z<|aM ?_;refine eV h Z (λh=>?_) λh=>?_
 ·refine aV<|bT Z<|dD 0 Z<|aE Z<|aM<|aW<|bM<|aJ ?_;cases h;exact tU Z
 refine aV<|cP Z<|aE Z<|aM ?_;refine eV h Z (λh=>?_) λh=>?_
 ·refine aV<|aE Z<|aM<|aW<|bM<|aJ ?_;cases h;exact tU Z
 refine aV<|cP Z<|aE Z<|aM ?_;refine eV h Z (λh=>?_) λh=>?_
 ·refine aV<|aE Z<|aM<|aW<|bM<|aJ ?_;cases h;exact tU Z
 refine aV<|cP Z<|aE Z<|aM ?_;refine eV h Z (λh=>?_) λh=>?_
 ·refine aV<|aE Z<|aM<|aW<|bM<|aJ ?_;cases h;exact tU Z
 refine aV<|cP Z<|aE Z<|aM ?_;refine eV h Z (λh=>?_) λh=>?_
 ·refine aK ?_;refine JR.start [0,1,3,7,0,16,48,112,255,511,0,1024,4095,8191,16383] 12 mixedOrders (by decide +kernel) ?_;refine JR.open (by exact rfl) ?_;refine bG Z<|jS Z (b_ Z)<|dB Z<|bK Z .nil (kA 0 Z) (dG Z (aF.fact 0 Z) Z Z Z) aO.z<|bG Z<|jS Z (b_ Z)<|dB Z<|bK Z .nil (kA 0 Z) (dG Z (aF.fact 0 Z) Z Z Z) aO.z<|cX h λf h=>bK Z .nil (kA 7 Z) (bX Z Z (aF.fact 0 Z) Z Z f) aO.z<|bK Z .nil (kA 7 Z) (bW Z (aF.fact 0 Z) Z Z f) aO.z<|dB Z<|jR 0 Z<|bP 12 Z Z<|cX h λw h=>aB (aZ Z Z (aF.el (aF.fact 7 Z) f.1 f.2) Z Z w) Z<|aB (bQ Z (aF.el (aF.fact 7 Z) f.1 f.2) Z Z Z cQ w) Z<|aE Z<|aM<|aW<|bM<|aJ ?_;cases h;exact tU Z
 refine aV<|cP Z<|aE Z<|aM ?_;refine eV h Z (λh=>?_) λh=>?_
 ·refine aK ?_;refine JR.start [0,1,3,7,0,16,48,112,240,496,1008,2032,0,4096,12288,28672,65520,131056,0,524272,1048560,2097136,4194303,8388607,0,16777216,67108863,134217727,268435455] 26 mixedOrders (by decide +kernel) ?_;refine JR.open (by exact rfl) ?_;refine bG Z<|jS Z (b_ Z)<|dB Z<|bK Z .nil (kA 0 Z) (dG Z (aF.fact 0 Z) Z Z Z) aO.z<|bG Z<|jS Z (b_ Z)<|dB Z<|bK Z .nil (kA 0 Z) (dG Z (aF.fact 0 Z) Z Z Z) aO.z<|jS Z (b_ Z)<|dB Z<|dB Z<|bK Z .nil (kA 1 Z) (dG Z (aF.fact 0 Z) Z Z Z) aO.z<|bG Z<|jS Z (b_ Z)<|dB Z<|bK Z .nil (kA 0 Z) (dG Z (aF.fact 0 Z) Z Z Z) aO.z<|cX h λa h=>bK Z .nil (kA 5 Z) (bX Z Z (aF.fact 0 Z) Z Z a) aO.z<|bK Z .nil (kA 5 Z) (bW Z (aF.fact 0 Z) Z Z a) aO.z<|bG Z<|cX h λi h=>bK Z .nil (kA 5 Z) (aZ Z Z (aF.el (aF.fact 0 Z) a.1 a.2) Z Z i) aO.z<|jS Z (fY Z Z Z Z Z)<|bK Z .nil (kA 5 Z) (jO Z (aF.el (aF.fact 0 Z) a.1 a.2) Z Z Z mJ i) aO.z<|cX h λb h=>bK Z .nil (kA 7 Z) (bX Z Z (aF.fact 0 Z) Z Z b) aO.z<|bK Z .nil (kA 7 Z) (bW Z (aF.fact 0 Z) Z Z b) aO.z<|dB Z<|jR 0 Z<|bP 26 Z Z<|cX h λj h=>aB (aZ Z Z (aF.el (aF.fact 7 Z) b.1 b.2) Z Z j) Z<|aB (bQ Z (aF.el (aF.fact 7 Z) b.1 b.2) Z Z Z cQ j) Z<|aE Z<|aM<|aW<|bM<|aJ ?_;cases h;exact tU Z
 refine dK<|mA<|aK ?_;refine JR.start [0,1,3,7,0,16,0,64,192,448,0,2047,4095] 11 mixedOrders (by decide +kernel) ?_;refine JR.open (by exact rfl) ?_;refine bG Z<|jS Z (b_ Z)<|dB Z<|bK Z .nil (kA 0 Z) (dG Z (aF.fact 0 Z) Z Z Z) aO.z<|dB Z<|jR 0 Z<|bG Z<|jS Z (b_ Z)<|dB Z<|bK Z .nil (kA 0 Z) (dG Z (aF.fact 0 Z) Z Z Z) aO.z<|bG Z<|bP 11 Z Z<|fH h λn u h=>aH (aN.callQ aaC (Ef U e o p q s B t C n u) Z (oS [1,2,3,4,5,6] Z)) Z λD=>aE Z<|aM<|aW ?_;cases h;exact tU Z
def Ap (U:Nat) (b:Int) (a:Int):Option (Int):=
 if b=(18:Int)then(some (wI .i64 (0 - a)))else(Option.bind (iX U (decide (a=(0:Int)))) λc=>(some (c)))
theorem aaz:aX Tryz.prog 168:=Tryz.call168
theorem NG (U:Nat) {a:Int} {b:Int} (r:Int) (h:Ap U a b=some r):
  aY Tryz.prog 168 #[vI (a),vI (b)] [] (λx:Unit=>vI (r)) (λx l=>l) (λ_ l=>l):=by
 refine aY.of Tryz.func168 Z Tryz.ntmps168 Z λc=>?_;refine aV<|aE Z<|aM<|aK<|aV<|aA Z<|cP Z<|aM ?_;refine eV h Z (λh=>?_) λh=>?_
 ·refine aV<|aA Z<|aB (SZ Z) Z<|aE Z<|aM<|aW<|aJ ?_;cases h;exact lA Z
 refine cK<|aV<|aA Z<|cP Z<|fH h λd e h=>aH (aN.callQ yL (lF U  d e) Z .nil) Z λf=>aE Z<|aM<|aW ?_;cases h;exact lA Z
def jM (U:Nat) (a:Int):Option (Int):=
 some (max (-1073741824:Int) (min a (1073741824:Int)))
theorem EA:aX Tryz.prog 189:=Tryz.call189
theorem mF (U:Nat) {a:Int} (r:Int) (h:jM U a=some r):
  aY Tryz.prog 189 #[vI (a)] [] (λx:Unit=>vI (r)) (λx l=>l) (λ_ l=>l):=by
 refine aY.of Tryz.func189 Z Tryz.ntmps189 Z λc=>?_;unfold jM at h;refine aV<|aE Z<|aM<|aV<|aA Z<|aB (acg Z Z) Z<|aB (Ls Z Z) Z<|aE Z<|aM<|aW ?_;cases h;exact lA Z
def pU  (a:Int):Option (Int):=
 some (a)
def sY (a:Int) (b:Int) (c:Bool):Option (Int):=
 if c=true then(pU  (wI .i64 ((wI .i64 (Int.tdiv a b)) - (1:Int))))else(pU  (wI .i64 (Int.tdiv a b)))
def qY (U:Nat) (b:Int) (a:Int):Option (Int):=
 if a=(0:Int)then(some (0:Int))else(ck (a≠0) (ck (a≠0) (if(Int.tmod b a)≠(0:Int)then(sY b a (((decide (b<(0:Int))) != (decide (a<(0:Int))))))else(sY b a (false)))))
theorem Tj:aX Tryz.prog 190:=Tryz.call190
theorem Dj (U:Nat) {a:Int} {b:Int} (r:Int) (h:qY U a b=some r):
  aY Tryz.prog 190 #[vI (a),vI (b)] [] (λx:Unit=>vI (r)) (λx l=>l) (λ_ l=>l):=by
 refine aY.of Tryz.func190 Z Tryz.ntmps190 Z λc=>?_;refine aV<|aE Z<|aM<|aK<|aV<|aA Z<|cP Z<|aM ?_;refine eV h Z (λh=>?_) λh=>?_
 ·refine aV<|aE Z<|aM<|aW<|aJ ?_;cases h;exact lA Z
 refine cK<|aV<|aA Z<|aA Z<|cX h λj h=>aB (WA Z Z j) Z<|aE Z<|aM<|aK<|dO (λd=>pU  d=some r) (λd g=>[(5,vI (d))]) (λd g=>[]) ?_ ?_
 ·refine aK<|dO (λe=>sY a b e=some r) (λe i=>[(5,vI (wI .i64 (Int.tdiv a b))),(21,vB (e))]) (λe i=>[]) ?_ ?_
  ·refine aR<|aA Z<|aA Z<|cX h λf h=>aB (OF Z Z f) Z<|q_ Z<|aA Z ?_;refine Dv h Z (λ_ h=>?_) λ_ h=>?_
   ·refine cS Z<|aP Z (HW Z Z) Z<|cS Z<|aP Z (HW Z Z) Z<|aP Z (acR Z Z Z) Z<|dW Z<|aM ?_;exact iB (((decide (a<(0:Int))) != (decide (b<(0:Int))))) () h SF Z
   refine aI Z<|aI Z<|aI Z<|aI Z<|aI Z<|fO Z<|aM ?_;exact iB (false) () h SF Z
  intro e i h;refine AZ h Z (λ_ h=>?_) λ_ h=>?_
  ·refine aR<|aA Z<|aB (oK Z Z) Z<|aE Z<|aM ?_;exact iB (wI .i64 ((wI .i64 (Int.tdiv a b)) - (1:Int))) () h SF Z
  refine cK ?_;exact iB (wI .i64 (Int.tdiv a b)) () h SF Z
 intro d g h;unfold pU at h;refine aV<|aA Z<|aE Z<|aM<|aW ?_;cases h;exact lA Z
def uU (U:Nat) (c:Int) (a:Int) (b:Int):Option (Bool):=
 if c=(35:Int)then(some (decide (a=b)))else(if c=(36:Int)then(some (decide (a≠b)))else(if c=(37:Int)then(some (decide (a<b)))else(if c=(38:Int)then(some (decide (a<=b)))else(if c=(39:Int)then(some (decide (b<a)))else(some (decide (b<=a)))))))
theorem aaE:aX Tryz.prog 191:=Tryz.call191
theorem Iy (U:Nat) {a:Int} {b:Int} {d:Int} (r:Bool) (h:uU U a b d=some r):
  aY Tryz.prog 191 #[vI (a),vI (b),vI (d)] [] (λx:Unit=>vB (r)) (λx l=>l) (λ_ l=>l):=by
 refine aY.of Tryz.func191 Z Tryz.ntmps191 Z λc=>?_;refine aV<|aE Z<|aM<|aK<|aV<|aA Z<|aM<|aS<|aV<|cP Z<|aE Z<|aM ?_;refine eV h Z (λh=>?_) λh=>?_
 ·refine aV<|aA Z<|aA Z<|cP Z<|aE Z<|aM<|aW<|bM<|aJ ?_;cases h;exact lA Z
 refine aV<|cP Z<|aE Z<|aM ?_;refine eV h Z (λh=>?_) λh=>?_
 ·refine aV<|aA Z<|aA Z<|q_ Z<|aE Z<|aM<|aW<|bM<|aJ ?_;cases h;exact lA Z
 refine aV<|cP Z<|aE Z<|aM ?_;refine eV h Z (λh=>?_) λh=>?_
 ·refine aV<|aA Z<|aA Z<|cM Z<|aE Z<|aM<|aW<|bM<|aJ ?_;cases h;exact lA Z
 refine aV<|cP Z<|aE Z<|aM ?_;refine eV h Z (λh=>?_) λh=>?_
 ·refine aV<|aA Z<|aA Z<|aB (BN Z Z) Z<|aE Z<|aM<|aW<|bM<|aJ ?_;cases h;exact lA Z
 refine aV<|cP Z<|aE Z<|aM ?_;refine eV h Z (λh=>?_) λh=>?_
 ·refine aV<|aA Z<|aA Z<|aB (zC Z Z) Z<|aE Z<|aM<|aW<|bM<|aJ ?_;cases h;exact lA Z
 refine dK<|mA<|aV<|aA Z<|aA Z<|aB (De Z Z) Z<|aE Z<|aM<|aW ?_;cases h;exact lA Z
def pS  (a:Int):Option (Int):=
 some (a)
def pT  (a:Int):Option (Int):=
 some (a)
def yP (U:Nat) (c:Int) (b:Int) (a:Int):Option (Int):=
 if c=(30:Int)then(Option.bind (jM U (wI .i64 (b*a))) λn=>(some (n)))else(if c=(31:Int)then(Option.bind (qY U b a) λo=>(Option.bind (jM U o) λp=>(some (p))))else(if c=(32:Int)then(if a=(0:Int)then(some (0:Int))else(Option.bind (qY U b a) λd=>(Option.bind (jM U (wI .i64 (b - (wI .i64 (a*d))))) λe=>(some (e)))))else(if c=(33:Int)then(Option.bind (jM U (wI .i64 (b+a))) λf=>(some (f)))else(if c=(34:Int)then(Option.bind (jM U (wI .i64 (b - a))) λg=>(some (g)))else(if c=(41:Int)then(if b≠(0:Int)then(Option.bind (iX U (decide (a≠(0:Int)))) λh=>(pS  (h)))else(Option.bind (iX U false) λi=>(pS  (i))))else(if c=(42:Int)then(if b≠(0:Int)then(Option.bind (iX U true) λj=>(pT  (j)))else(Option.bind (iX U (decide (a≠(0:Int)))) λk=>(pT  (k))))else(Option.bind (uU U c b a) λl=>(Option.bind (iX U l) λm=>(some (m))))))))))
theorem aaA:aX Tryz.prog 170:=Tryz.call170
theorem Lc (U:Nat) {E:Int} {F:Int} {G:Int} (r:Int) (h:yP U E F G=some r):
  aY Tryz.prog 170 #[vI (E),vI (F),vI (G)] [] (λx:Unit=>vI (r)) (λx l=>l) (λ_ l=>l):=by
 refine aY.of Tryz.func170 Z Tryz.ntmps170 Z λc=>?_;refine aV<|aE Z<|aM<|aK<|aV<|aA Z<|aM<|aS<|aV<|cP Z<|aE Z<|aM ?_;refine eV h Z (λh=>?_) λh=>?_
 ·refine aV<|aA Z<|aA Z<|aB (AD Z Z) Z<|fH h λH K h=>aH (aN.callQ EA (mF U  H K) Z .nil) Z λY=>aE Z<|aM<|aW<|bM<|aJ ?_;cases h;exact lA Z
 refine aV<|cP Z<|aE Z<|aM ?_;refine eV h Z (λh=>?_) λh=>?_
 ·refine aV<|aA Z<|aA Z<|fH h λI L h=>aH (aN.callQ Tj (Dj U  I L) Z .nil) Z λx8=>fH h λJ s h=>aH (aN.callQ EA (mF U  J s) Z .nil) Z λM=>aE Z<|aM<|aW<|bM<|aJ ?_;cases h;exact lA Z
 refine aV<|cP Z<|aE Z<|aM ?_;refine eV h Z (λh=>?_) λh=>?_
 ·refine aK<|aV<|aA Z<|cP Z<|aM ?_;refine eV h Z (λh=>?_) λh=>?_
  ·refine aV<|aE Z<|aM<|aW<|aJ<|bM<|aJ ?_;cases h;exact lA Z
  refine cK<|aV<|aA Z<|aA Z<|aA Z<|aA Z<|fH h λk t h=>aH (aN.callQ Tj (Dj U  k t) Z .nil) Z λN=>aB (AD Z Z) Z<|aB (oK Z Z) Z<|fH h λm u h=>aH (aN.callQ EA (mF U  m u) Z .nil) Z λO=>aE Z<|aM<|aW<|bM<|aJ ?_;cases h;exact lA Z
 refine aV<|cP Z<|aE Z<|aM ?_;refine eV h Z (λh=>?_) λh=>?_
 ·refine aV<|aA Z<|aA Z<|cH Z<|fH h λn v h=>aH (aN.callQ EA (mF U  n v) Z .nil) Z λP=>aE Z<|aM<|aW<|bM<|aJ ?_;cases h;exact lA Z
 refine aV<|cP Z<|aE Z<|aM ?_;refine eV h Z (λh=>?_) λh=>?_
 ·refine aV<|aA Z<|aA Z<|aB (oK Z Z) Z<|fH h λo w h=>aH (aN.callQ EA (mF U  o w) Z .nil) Z λQ=>aE Z<|aM<|aW<|bM<|aJ ?_;cases h;exact lA Z
 refine aV<|cP Z<|aE Z<|aM ?_;refine eV h Z (λh=>?_) λh=>?_
 ·refine aK<|dO (λa=>pS  a=some r) (λa d=>[(6,vI (a))]) (λa d=>[]) ?_ ?_
  ·refine aR<|aA Z<|q_ Z<|aA Z ?_;refine Dv h Z (λ_ h=>?_) λ_ h=>?_
   ·refine cS Z<|aP Z (Df Z Z) Z<|dW Z<|fH h λf y h=>aH (aN.callQ yL (lF U  f y) Z .nil) Z λR=>aE Z<|aM ?_;exact iB (f) () h SF Z
   refine aI Z<|aI Z<|fO Z<|fH h λg z h=>aH (aN.callQ yL (lF U  g z) Z .nil) Z λS=>aE Z<|aM ?_;exact iB (g) () h SF Z
  intro a d h;unfold pS at h;refine aW<|bM<|aJ ?_;cases h;exact lA Z
 refine aV<|cP Z<|aE Z<|aM ?_;refine eV h Z (λh=>?_) λh=>?_
 ·refine aK<|dO (λb=>pT  b=some r) (λb e=>[(6,vI (b))]) (λb e=>[]) ?_ ?_
  ·refine aR<|aA Z<|q_ Z<|aA Z ?_;refine Dv h Z (λ_ h=>?_) λ_ h=>?_
   ·refine aI Z<|aI Z<|dW Z<|fH h λi A h=>aH (aN.callQ yL (lF U  i A) Z .nil) Z λT=>aE Z<|aM ?_;exact iB (i) () h SF Z
   refine cS Z<|aP Z (Df Z Z) Z<|fO Z<|fH h λj B h=>aH (aN.callQ yL (lF U  j B) Z .nil) Z λV=>aE Z<|aM ?_;exact iB (j) () h SF Z
  intro b e h;unfold pT at h;refine aW<|bM<|aJ ?_;cases h;exact lA Z
 refine dK<|mA<|aV<|aA Z<|aA Z<|aA Z<|fH h λp C h=>aH (aN.callQ aaE (Iy U  p C) Z .nil) Z λW=>fH h λq D h=>aH (aN.callQ yL (lF U  q D) Z .nil) Z λX=>aE Z<|aM<|aW ?_;cases h;exact lA Z
def yM  (a:Int):Option (Int):=
 some (a)
def tY (c:fP) (b:iZ->Option (Int)) (a:Int):Option (Int):=
 b (a,(wI .i64 (c.2+(1:Int))))
def rH (c:aQ) (a:fP) (b:iZ->Option (Int)):Option (Int):=
 if a.2<(List.length c:Int)then(ck (0<=a.2∧a.2<(List.length c:Int)) (if(at' c a.2)≠(0:Int)then(tY a b (wI .i64 (a.1+(1:Int))))else(tY a b (a.1))))else(yM  (a.1))
def qJ (U:Nat) (a:aQ):Option (Int):=
 bJ (rH a) U ((0:Int),(0:Int))
theorem MS:aX Tryz.prog 197:=Tryz.call197
theorem CX (U:Nat) {d:aQ} (i:Value) (r:Int) (h:qJ U d=some r):
  aY Tryz.prog 197 #[i] [Sl bO i d] (λx:Unit=>vI (r)) (λx l=>l) (λ_ l=>l):=by
 refine aY.of Tryz.func197 Z Tryz.ntmps197 Z λc=>?_;unfold qJ at h;refine aV<|aE Z<|aM<|aV<|aE Z<|aM<|aK<|dO (λe=>yM  e=some r) (λe j=>[(3,vI (e))]) (λe j=>[]) ?_ ?_
 ·refine aV<|aA Z<|kF (aF.fact 0 Z) Z<|aA Z<|aM<|aS<|dU (rH d) (λb k=>[(3,vI (b.1)),(6,i),(7,vI (List.length d:Int)),(8,vI (b.2))]) (λb k=>[]) ((0:Int),(0:Int)) () h SF (a_.refl _) ?_;intro m b k h;refine aV<|cM Z<|aM<|aK ?_;refine eV h Z (λh=>?_) λh=>?_
  ·refine cK<|aK<|dO (λa=>tY b (bJ (rH d) m) a=some r) (λa f=>[(3,vI (a)),(6,i),(7,vI (List.length d:Int)),(8,vI (b.2))]) (λa f=>[]) ?_ ?_
   ·refine aS<|aV<|cX h λg h=>aB (aZ Z Z (aF.fact 0 Z) Z Z g) Z<|aB (bQ Z (aF.fact 0 Z) Z Z Z cQ g) Z<|aE Z<|aM<|aV<|aA Z<|q_ Z<|aM ?_;refine eV h Z (λh=>?_) λh=>?_
    ·refine aR<|aA Z<|cH Z<|aE Z<|eI<|mA ?_;exact iB (wI .i64 (b.1+(1:Int))) () h SF Z
    refine dK<|mA ?_;exact iB (b.1) () h SF Z
   intro a f h;unfold tY at h;refine aR<|cH Z<|aA Z<|aM ?_;exact xT (a,(wI .i64 (b.2+(1:Int)))) () h SF Z
  refine e_ ?_;exact iB (b.1) () h SF Z
 intro e j h;unfold yM at h;refine aV<|aA Z<|aE Z<|aM<|aW ?_;cases h;exact lA Z
def pE  (a:Unit):Option (Int):=
 some (-1:Int)
def gC (c:aQ) (e:Int->Option Bool) (a:Int) (b:(Int)->Option (Int)):Option (Int):=
 if a<(List.length c:Int)then(ck (0<=a∧a<(List.length c:Int)) (Option.bind (e (at' c a)) λd=>(if d=true then(some (a))else(b (wI .i64 (a+(1:Int)))))))else(pE  (()))
def mX (U:Nat) (b:aQ) (a:Int->Option Bool):Option (Int):=
 bJ (gC b a) U (0:Int)
theorem aaF:aX Tryz.prog 198:=Tryz.call198
theorem FP (U:Nat) {b:aQ} {o:Int->Option Bool} (k:FuncId) (a:fV) (j:List bA) (e:aX Tryz.prog k) (f:∀(t:Int) (r:Bool),o t=some r->aY Tryz.prog k ([vI (t)]++a).toArray j (λ_:Unit=>vB (r)) (λ_ l=>l) (λ_ l=>l)) (i:Value) (r:Int) (h:mX U b o=some r):
  aY Tryz.prog 198 #[i,Value.func (.func k) #[] (a).toArray] ([Sl bO i b]++j) (λx:Unit=>vI (r)) (λx l=>l) (λ_ l=>l):=by
 refine aY.of Tryz.func198 Z Tryz.ntmps198 Z λc=>?_;unfold mX at h;refine aV<|aE Z<|aM<|aK<|Bu (B:=Unit) (λg=>pE  g=some r) (λg m=>[]) (λg m=>[]) (λg m=>([Sl bO i b]++j)) ?_ ?_
 ·refine aV<|aA Z<|kF (aF.fact 0 Z) Z<|aA Z<|aM<|aS<|Ev (B:=Unit) (gC b o) (λd n=>[(0,i),(1,Value.func (.func k) #[] (a).toArray),(7,vI (List.length b:Int)),(8,vI (d))]) (λd n=>[]) (λd n=>([Sl bO i b]++j)) (0:Int) () h SF (a_.refl _) (aG.refl _ _) ?_;intro v d n h;refine aV<|cM Z<|aM<|aK ?_;refine eV h Z (λh=>?_) λh=>?_
  ·refine cK<|aK<|aS<|aV<|aA Z<|aE Z<|aM<|aV<|aA Z<|aA Z<|aA Z<|cX h λs h=>aB (aZ Z Z (aF.fact 0 Z) Z Z s) Z<|aB (bQ Z (aF.fact 0 Z) Z Z Z cQ s) Z<|fH h λp q h=>aH (vO (vs:=[vI (at' b d)]) (cs:=a) e Z (f (at' b d) p q) Z (aG.tail _) (λ_ _=>rfl)) Z λu=>aM ?_;refine AZ h Z (λ_ h=>?_) λ_ h=>?_
   ·refine aV<|aA Z<|aE Z<|aM<|aW<|bM<|aJ<|aJ<|bM<|aJ ?_;cases h;exact lA Z
   refine dK<|mA<|aR<|cH Z<|aA Z<|aM ?_;exact xT (wI .i64 (d+(1:Int))) () h SF Z
  refine e_ ?_;exact iB () (()) h SF Z
 intro g m h;unfold pE at h;refine aV<|aE Z<|aM<|aW ?_;cases h;exact lA Z
def oO (U:Nat) (a:Int):Option (Bool):=
 some (decide (a≠(0:Int)))
theorem aaG:aX Tryz.prog 199:=Tryz.call199
theorem Ld (U:Nat) {a:Int} (r:Bool) (h:oO U a=some r):
  aY Tryz.prog 199 #[vI (a)] [] (λx:Unit=>vB (r)) (λx l=>l) (λ_ l=>l):=by
 refine aY.of Tryz.func199 Z Tryz.ntmps199 Z λc=>?_;unfold oO at h;refine aV<|aE Z<|aM<|aV<|aA Z<|q_ Z<|aE Z<|aM<|aW ?_;cases h;exact lA Z
def tQ  (a:fP):Option iZ:=
 some (a.1,a.2)
def o_ (c:Int×Int×Int) (b:(Int×Int×Int)->Option iZ) (a:fP):Option iZ:=
 b (a.1,a.2,(wI .i64 (c.2.2+(1:Int))))
def tR (c:aQ) (a:Int×Int×Int) (b:(Int×Int×Int)->Option iZ):Option iZ:=
 if a.2.2<(List.length c:Int)then(ck (0<=a.2.2∧a.2.2<(List.length c:Int)) (if a.1<(at' c a.2.2)then(o_ a b ((at' c a.2.2),a.1))else(o_ a b (a.1,(max a.2.1 (at' c a.2.2))))))else(tQ  (a.1,a.2.1))
def qK (U:Nat) (a:aQ):Option iZ:=
 bJ (tR a) U ((-1073741824:Int),(-1073741824:Int),(0:Int))
theorem Tk:aX Tryz.prog 200:=Tryz.call200
theorem AT (U:Nat) {d:aQ} (j:Value) (r:fP) (h:qK U d=some r):
  aY Tryz.prog 200 #[j] [Sl bO j d] (λx:Unit=>Value.tuple #[vI (r.1),vI (r.2)]) (λx l=>l) (λ_ l=>l):=by
 refine aY.of Tryz.func200 Z Tryz.ntmps200 Z λc=>?_;unfold qK at h;refine aV<|aE Z<|aE Z<|aM<|aV<|aE Z<|aE Z<|aM<|aK<|dO (λe=>tQ  e=some r) (λe m=>[(2,vI (e.1)),(3,vI (e.2))]) (λe m=>[]) ?_ ?_
 ·refine aV<|aA Z<|kF (aF.fact 0 Z) Z<|aA Z<|aM<|aS<|dU (tR d) (λb f=>[(2,vI (b.1)),(3,vI (b.2.1)),(6,j),(7,vI (List.length d:Int)),(8,vI (b.2.2))]) (λb f=>[]) ((-1073741824:Int),(-1073741824:Int),(0:Int)) () h SF (a_.refl _) ?_;intro k b f h;refine aV<|cM Z<|aM<|aK ?_;refine eV h Z (λh=>?_) λh=>?_
  ·refine cK<|aK<|dO (λa=>o_ b (bJ (tR d) k) a=some r) (λa g=>[(2,vI (a.1)),(3,vI (a.2)),(6,j),(7,vI (List.length d:Int)),(8,vI (b.2.2))]) (λa g=>[]) ?_ ?_
   ·refine aS<|aV<|cX h λi h=>aB (aZ Z Z (aF.fact 0 Z) Z Z i) Z<|aB (bQ Z (aF.fact 0 Z) Z Z Z cQ i) Z<|aE Z<|aM<|aV<|aA Z<|aA Z<|aB (zC Z Z) Z<|aM ?_;refine eV h Z (λh=>?_) λh=>?_
    ·refine aR<|aA Z<|aA Z<|aE Z<|aE Z<|eI<|mA ?_;exact iB ((at' d b.2.2),b.1) () h SF Z
    refine aR<|aA Z<|aA Z<|aB (Ls Z Z) Z<|aE Z<|eI<|mA ?_;exact iB (b.1,(max b.2.1 (at' d b.2.2))) () h SF Z
   intro a g h;unfold o_ at h;refine aR<|cH Z<|aA Z<|aM ?_;exact xT (a.1,a.2,(wI .i64 (b.2.2+(1:Int)))) () h SF Z
  refine e_ ?_;exact iB (b.1,b.2.1) () h SF Z
 intro e m h;unfold tQ at h;refine aV<|aA Z<|aA Z<|aE Z<|aE Z<|aM<|aW ?_;cases h;exact nG () Z Z (RV.tmp Z) (RV.tmp Z) (a_.refl _) aG.nil
def u_  (a:Unit):Option (Int):=
 some (-1:Int)
def kG (c:aQ) (d:Int) (a:Int) (b:(Int)->Option (Int)):Option (Int):=
 if a<(List.length c:Int)then(ck (0<=a∧a<(List.length c:Int)) (if d=(at' c a)then(some (a))else(b (wI .i64 (a+(1:Int))))))else(u_  (()))
def pZ (U:Nat) (a:aQ) (b:Int):Option (Int):=
 bJ (kG a b) U (0:Int)
theorem aaJ:aX Tryz.prog 209:=Tryz.call209
theorem KG (U:Nat) {d:aQ} {e:Int} (f:Value) (r:Int) (h:pZ U d e=some r):
  aY Tryz.prog 209 #[f,vI (e)] [Sl bO f d] (λx:Unit=>vI (r)) (λx l=>l) (λ_ l=>l):=by
 refine aY.of Tryz.func209 Z Tryz.ntmps209 Z λc=>?_;unfold pZ at h;refine aV<|aE Z<|aM<|aK<|dO (λa=>u_  a=some r) (λa g=>[]) (λa g=>[]) ?_ ?_
 ·refine aV<|aA Z<|kF (aF.fact 0 Z) Z<|aA Z<|aM<|aS<|dU (kG d e) (λb i=>[(0,f),(1,vI (e)),(7,vI (List.length d:Int)),(8,vI (b))]) (λb i=>[]) (0:Int) () h SF (a_.refl _) ?_;intro k b i h;refine aV<|cM Z<|aM<|aK ?_;refine eV h Z (λh=>?_) λh=>?_
  ·refine cK<|aK<|aS<|aV<|aA Z<|aE Z<|aM<|aV<|aA Z<|aA Z<|aA Z<|cX h λj h=>aB (aZ Z Z (aF.fact 0 Z) Z Z j) Z<|aB (bQ Z (aF.fact 0 Z) Z Z Z cQ j) Z<|cP Z<|aM ?_;refine eV h Z (λh=>?_) λh=>?_
   ·refine aV<|aA Z<|aE Z<|aM<|aW<|bM<|aJ<|aJ<|bM<|aJ ?_;cases h;exact lA Z
   refine dK<|mA<|aR<|cH Z<|aA Z<|aM ?_;exact xT (wI .i64 (b+(1:Int))) () h SF Z
  refine e_ ?_;exact iB () (()) h SF Z
 intro a g h;unfold u_ at h;refine aV<|aE Z<|aM<|aW ?_;cases h;exact lA Z
def rP (U:Nat) (a:aQ) (b:Int):Option (Bool):=
 Option.bind (pZ U a b) λc=>(some (decide ((0:Int)<=c)))
theorem aaI:aX Tryz.prog 205:=Tryz.call205
theorem G_ (U:Nat) {b:aQ} {d:Int} (a:Value) (r:Bool) (h:rP U b d=some r):
  aY Tryz.prog 205 #[a,vI (d)] [Sl bO a b] (λx:Unit=>vB (r)) (λx l=>l) (λ_ l=>l):=by
 refine aY.of Tryz.func205 Z Tryz.ntmps205 Z λc=>?_;refine aV<|aE Z<|aM<|aV<|aA Z<|aA Z<|fH h λe f h=>aH (aN.callQ aaJ (KG U a e f) Z (oS [0] Z)) Z λg=>aB (De Z Z) Z<|aE Z<|aM<|aW ?_;cases h;exact lA Z
def Bh  (a:Int):Option (Int):=
 some (a)
def zD (U:Nat) (c:aQ) (a:Int) (b:(Int)->Option (Int)):Option (Int):=
 Option.bind (rP U c a) λd=>(if d=true then(b (wI .i64 (a+(1:Int))))else(Bh  (a)))
def AL (U:Nat) (a:aQ):Option (Int):=
 bJ (zD U a) U (0:Int)
theorem aaH:aX Tryz.prog 201:=Tryz.call201
theorem Sv (U:Nat) {e:aQ} (d:Value) (r:Int) (h:AL U e=some r):
  aY Tryz.prog 201 #[d] [Sl bO d e] (λx:Unit=>vI (r)) (λx l=>l) (λ_ l=>l):=by
 refine aY.of Tryz.func201 Z Tryz.ntmps201 Z λc=>?_;unfold AL at h;refine aV<|aE Z<|aM<|aV<|aE Z<|aM<|aK<|dO (λa=>Bh  a=some r) (λa g=>[(3,vI (a))]) (λa g=>[]) ?_ ?_
 ·refine aS<|dU (zD U e) (λb i=>[(0,d),(3,vI (b))]) (λb i=>[]) (0:Int) () h SF (a_.refl _) ?_;intro m b i h;refine aK<|aV<|aA Z<|aA Z<|fH h λj f h=>aH (aN.callQ aaI (G_ U d j f) Z (oS [0] Z)) Z λk=>aM ?_;refine AZ h Z (λ_ h=>?_) λ_ h=>?_
  ·refine cK<|aS<|aR<|aA Z<|cH Z<|aE Z<|eI<|mA ?_;exact xT (wI .i64 (b+(1:Int))) () h SF Z
  refine e_ ?_;exact iB (b) () h SF Z
 intro a g h;unfold Bh at h;refine aV<|aA Z<|aE Z<|aM<|aW ?_;cases h;exact lA Z
def An  (a:Int):Option (Int):=
 some (a)
def sW (c:aQ) (a:fP) (b:iZ->Option (Int)):Option (Int):=
 if a.2<(List.length c:Int)then(ck (0<=a.2∧a.2<(List.length c:Int)) (b ((min a.1 (at' c a.2)),(wI .i64 (a.2+(1:Int))))))else(An  (a.1))
def Cu (U:Nat) (a:Int):Option (Int):=
 Option.bind (jM U a) λb=>(some (b))
def sX (U:Nat) (c:aQ) (a:fP) (b:iZ->Option (Int)):Option (Int):=
 if a.2<(List.length c:Int)then(ck (0<=a.2∧a.2<(List.length c:Int)) (b ((wI .i64 (a.1+(at' c a.2))),(wI .i64 (a.2+(1:Int))))))else(Cu U (a.1))
def Bm (U:Nat) (b:Int) (a:aQ):Option (Int):=
 if b=(20:Int)then(Option.bind (qJ U a) λi=>(Option.bind (iX U (decide (i=(List.length a:Int)))) λj=>(some (j))))else(if b=(21:Int)then(Option.bind (qJ U a) λk=>(Option.bind (iX U (decide ((0:Int)<k))) λc=>(some (c))))else(if b=(22:Int)then(Option.bind (qJ U a) λd=>(some (d)))else(if b=(23:Int)then(Option.bind (mX U a (λl=>oO U l)) λe=>(some (e)))else(if b=(24:Int)then(bJ (sW a) U ((1073741824:Int),(0:Int)))else(if b=(25:Int)then(Option.bind (qK U a) λf=>(some (f.1)))else(if b=(26:Int)then(bJ (sX U a) U ((0:Int),(0:Int)))else(if b=(27:Int)then(Option.bind (AL U a) λg=>(some (g)))else(if b=(28:Int)then(Option.bind (qK U a) λh=>(some (h.2)))else(if(List.length a:Int)=(0:Int)then(some (0:Int))else(ck (0<=(0:Int)∧(0:Int)<(List.length a:Int)) (some (at' a (0:Int)))))))))))))
theorem aaD:aX Tryz.prog 188:=Tryz.call188
theorem Qc (U:Nat) {H:Int} {g:aQ} (f:Value) (r:Int) (h:Bm U H g=some r):
  aY Tryz.prog 188 #[vI (H),f] [Sl bO f g] (λx:Unit=>vI (r)) (λx l=>l) (λ_ l=>l):=by
 refine aY.of Tryz.func188 Z Tryz.ntmps188 Z λc=>?_;refine aV<|aE Z<|aM<|aK<|aV<|aA Z<|aM<|aS<|aV<|cP Z<|aE Z<|aM ?_;refine eV h Z (λh=>?_) λh=>?_
 ·refine aV<|aA Z<|fH h λK N h=>aH (aN.callQ MS (CX U f K N) Z (oS [0] Z)) Z λY=>aA Z<|kF (aF.fact 0 Z) Z<|cP Z<|fH h λL O h=>aH (aN.callQ yL (lF U  L O) Z .nil) Z λx7=>aE Z<|aM<|aW<|bM<|aJ ?_;cases h;exact lA Z
 refine aV<|cP Z<|aE Z<|aM ?_;refine eV h Z (λh=>?_) λh=>?_
 ·refine aV<|aA Z<|fH h λM z h=>aH (aN.callQ MS (CX U f M z) Z (oS [0] Z)) Z λP=>aB (zC Z Z) Z<|fH h λq A h=>aH (aN.callQ yL (lF U  q A) Z .nil) Z λQ=>aE Z<|aM<|aW<|bM<|aJ ?_;cases h;exact lA Z
 refine aV<|cP Z<|aE Z<|aM ?_;refine eV h Z (λh=>?_) λh=>?_
 ·refine aV<|aA Z<|fH h λs B h=>aH (aN.callQ MS (CX U f s B) Z (oS [0] Z)) Z λR=>aE Z<|aM<|aW<|bM<|aJ ?_;cases h;exact lA Z
 refine aV<|cP Z<|aE Z<|aM ?_;refine eV h Z (λh=>?_) λh=>?_
 ·refine aV<|aA Z<|fH h λt C h=>aH (aN.callQ aaF (FP U 199 [] [] aaG (λy0 r h=>Ld U  r h) f t C) Z (oS [0] Z)) Z λS=>aE Z<|aM<|aW<|bM<|aJ ?_;cases h;exact lA Z
 refine aV<|cP Z<|aE Z<|aM ?_;refine eV h Z (λh=>?_) λh=>?_
 ·refine aV<|aE Z<|aM<|aK<|dO (λd=>An  d=some r) (λd i=>[(5,vI (d))]) (λd i=>[]) ?_ ?_
  ·refine aV<|aA Z<|kF (aF.fact 0 Z) Z<|aA Z<|aM<|aS<|dU (sW g) (λa j=>[(5,vI (a.1)),(40,f),(41,vI (List.length g:Int)),(42,vI (a.2))]) (λa j=>[]) ((1073741824:Int),(0:Int)) () h SF (a_.refl _) ?_;intro I a j h;refine aV<|cM Z<|aM<|aK ?_;refine eV h Z (λh=>?_) λh=>?_
   ·refine cK<|aK<|aS<|aV<|cX h λn h=>aB (aZ Z Z (aF.fact 0 Z) Z Z n) Z<|aB (bQ Z (aF.fact 0 Z) Z Z Z cQ n) Z<|aE Z<|aM<|aR<|aA Z<|aA Z<|aB (acg Z Z) Z<|aE Z<|eI<|mA<|aR<|cH Z<|aA Z<|aM ?_;exact xT ((min a.1 (at' g a.2)),(wI .i64 (a.2+(1:Int)))) () h SF Z
   refine e_ ?_;exact iB (a.1) () h SF Z
  intro d i h;unfold An at h;refine aV<|aA Z<|aE Z<|aM<|aW<|bM<|aJ ?_;cases h;exact lA Z
 refine aV<|cP Z<|aE Z<|aM ?_;refine eV h Z (λh=>?_) λh=>?_
 ·refine aV<|aA Z<|fH h λu D h=>aH (aN.callQ Tk (AT U f u D) Z (oS [0] Z)) Z λT=>aA Z<|iY Z<|iY Z<|aE Z<|aE Z<|aM<|aV<|aA Z<|aE Z<|aM<|aW<|bM<|aJ ?_;cases h;exact lA Z
 refine aV<|cP Z<|aE Z<|aM ?_;refine eV h Z (λh=>?_) λh=>?_
 ·refine aV<|aE Z<|aM<|aK<|dO (λe=>Cu U e=some r) (λe k=>[(10,vI (e))]) (λe k=>[]) ?_ ?_
  ·refine aV<|aA Z<|kF (aF.fact 0 Z) Z<|aA Z<|aM<|aS<|dU (sX U g) (λb m=>[(10,vI (b.1)),(61,f),(62,vI (List.length g:Int)),(63,vI (b.2))]) (λb m=>[]) ((0:Int),(0:Int)) () h SF (a_.refl _) ?_;intro J b m h;refine aV<|cM Z<|aM<|aK ?_;refine eV h Z (λh=>?_) λh=>?_
   ·refine cK<|aK<|aS<|aV<|cX h λo h=>aB (aZ Z Z (aF.fact 0 Z) Z Z o) Z<|aB (bQ Z (aF.fact 0 Z) Z Z Z cQ o) Z<|aE Z<|aM<|aR<|aA Z<|aA Z<|cH Z<|aE Z<|eI<|mA<|aR<|cH Z<|aA Z<|aM ?_;exact xT ((wI .i64 (b.1+(at' g b.2))),(wI .i64 (b.2+(1:Int)))) () h SF Z
   refine e_ ?_;exact iB (b.1) () h SF Z
  intro e k h;refine aV<|aA Z<|fH h λv E h=>aH (aN.callQ EA (mF U  v E) Z .nil) Z λV=>aE Z<|aM<|aW<|bM<|aJ ?_;cases h;exact lA Z
 refine aV<|cP Z<|aE Z<|aM ?_;refine eV h Z (λh=>?_) λh=>?_
 ·refine aV<|aA Z<|fH h λw F h=>aH (aN.callQ aaH (Sv U f w F) Z (oS [0] Z)) Z λW=>aE Z<|aM<|aW<|bM<|aJ ?_;cases h;exact lA Z
 refine aV<|cP Z<|aE Z<|aM ?_;refine eV h Z (λh=>?_) λh=>?_
 ·refine aV<|aA Z<|fH h λy G h=>aH (aN.callQ Tk (AT U f y G) Z (oS [0] Z)) Z λX=>aA Z<|iY Z<|iY Z<|aE Z<|aE Z<|aM<|aV<|aA Z<|aE Z<|aM<|aW<|bM<|aJ ?_;cases h;exact lA Z
 refine dK<|mA<|aK<|aV<|aA Z<|kF (aF.fact 0 Z) Z<|cP Z<|aM ?_;refine eV h Z (λh=>?_) λh=>?_
 ·refine aV<|aE Z<|aM<|aW<|aJ ?_;cases h;exact lA Z
 refine cK<|aV<|aA Z<|cX h λp h=>aB (aZ Z Z (aF.fact 0 Z) Z Z p) Z<|aB (bQ Z (aF.fact 0 Z) Z Z Z cQ p) Z<|aE Z<|aM<|aW ?_;cases h;exact lA Z
def nH  (a:fP):Option iZ:=
 some (a.1,a.2)
def kL (U:Nat) (a:NR) (e:Int) (b:lB) (c:Int):Option iZ:=
 ck (0<=(List.length (at' a.1.2.1.2 a.2.2.1):Int)∧(List.length (at' a.1.2.1.2 a.2.2.1):Int)<=((24:Nat):Int)∧(List.length (at' a.1.2.1.2 a.2.2.1):Int)<=(List.length b.2:Int)) (Option.bind (Bm U ((at' a.2.2.2 e).1) (List.take (Int.toNat (List.length (at' a.1.2.1.2 a.2.2.1):Int)) b.2)) λd=>(nH  (d,c)))
def rK (U:Nat) (b:NR) (c:Int) (a:lB):Option iZ:=
 if(List.length (at' b.1.2.1.2 b.2.2.1):Int)=(0:Int)then(Option.bind (CE U b.2.2.2 c) λd=>(kL U b c a (d)))else(kL U b c a (a.1))
def kM (U:Nat) (b:NR) (e:Int) (f:abU->Int->Int->Option iZ) (a:Int×Int×aQ) (c:(Int×Int×aQ)->Option iZ):Option iZ:=
 if a.2.1<(List.length (at' b.1.2.1.2 b.2.2.1):Int)then(Option.bind (f ((((((b.1.1.1,b.1.1.2.1,b.1.1.2.2)),((b.1.2.1.1,b.1.2.1.2)),b.1.2.2.1,b.1.2.2.2)),b.2.1,b.2.2.1,b.2.2.2)) (wI .i64 (e+(1:Int))) a.2.1) λd=>(ck ((0<=a.2.1∧a.2.1<((24:Nat):Int))∧List.length a.2.2=24) (c (d.2,(wI .i64 (a.2.1+(1:Int))),(List.set a.2.2 (Int.toNat a.2.1) d.1)))))else(rK U b e (a.1,a.2.2))
def cY (e:abU->Int->Int->Option iZ) (U:Nat) (a:NR) (b:Int) (c:Int):Option iZ:=
 ck (0<=b∧b<(List.length a.2.2.2:Int)) (if((at' a.2.2.2 b).1)<=(17:Int)then(Option.bind (lX U ((((((a.1.1.1,a.1.1.2.1,a.1.1.2.2)),((a.1.2.1.1,a.1.2.1.2)),a.1.2.2.1,a.1.2.2.2)),a.2.1,a.2.2.1,a.2.2.2)) ((((at' a.2.2.2 b).1),((at' a.2.2.2 b).2))) c) λm=>(some (m,(wI .i64 (b+(1:Int))))))else(if((at' a.2.2.2 b).1)<=(19:Int)then(Option.bind (e ((((((a.1.1.1,a.1.1.2.1,a.1.1.2.2)),((a.1.2.1.1,a.1.2.1.2)),a.1.2.2.1,a.1.2.2.2)),a.2.1,a.2.2.1,a.2.2.2)) (wI .i64 (b+(1:Int))) c) λl=>(Option.bind (Ap U ((at' a.2.2.2 b).1) l.1) λj=>(some (j,l.2))))else(if((at' a.2.2.2 b).1)<=(29:Int)then(ck (0<=a.2.2.1∧a.2.2.1<(List.length a.1.2.1.2:Int)) (bJ (kM U a b e) U ((0:Int),(0:Int),(List.replicate 24 (0:Int)))))else(if((at' a.2.2.2 b).1)<=(42:Int)then(Option.bind (e ((((((a.1.1.1,a.1.1.2.1,a.1.1.2.2)),((a.1.2.1.1,a.1.2.1.2)),a.1.2.2.1,a.1.2.2.2)),a.2.1,a.2.2.1,a.2.2.2)) (wI .i64 (b+(1:Int))) c) λf=>(Option.bind (e ((((((a.1.1.1,a.1.1.2.1,a.1.1.2.2)),((a.1.2.1.1,a.1.2.1.2)),a.1.2.2.1,a.1.2.2.2)),a.2.1,a.2.2.1,a.2.2.2)) f.2 c) λg=>(Option.bind (yP U ((at' a.2.2.2 b).1) f.1 g.1) λk=>(some (k,g.2)))))else(Option.bind (e ((((((a.1.1.1,a.1.1.2.1,a.1.1.2.2)),((a.1.2.1.1,a.1.2.1.2)),a.1.2.2.1,a.1.2.2.2)),a.2.1,a.2.2.1,a.2.2.2)) (wI .i64 (b+(1:Int))) c) λh=>(Option.bind (e ((((((a.1.1.1,a.1.1.2.1,a.1.1.2.2)),((a.1.2.1.1,a.1.2.1.2)),a.1.2.2.1,a.1.2.2.2)),a.2.1,a.2.2.1,a.2.2.2)) h.2 c) λi=>(Option.bind (e ((((((a.1.1.1,a.1.1.2.1,a.1.1.2.2)),((a.1.2.1.1,a.1.2.1.2)),a.1.2.2.1,a.1.2.2.2)),a.2.1,a.2.2.1,a.2.2.2)) i.2 c) λd=>(if h.1≠(0:Int)then(some (i.1,d.2))else(some (d.1,d.2))))))))))
def bR:Nat->abU->Int->Int->Option iZ
 |0,_,_,_=>none
 |U+1,p0,p1,p2=>cY (bR U) U p0 p1 p2
theorem Bg:aX Tryz.prog 153:=Tryz.call153
theorem CW (X:abU->Int->Int->Option iZ) (U:Nat) (p:∀{a:NR} {m:Int} {M:Int} (b:Nat)  (f:Nat)  (q:Value)  (s:Value)  (t:Value)  (u:Value)  (C:k_)  (v:Value)  (D:rB)  (w:Value)  (g:rB)  (d:Value) (r:fP),X a m M=some r->aY Tryz.prog 153 #[vP b,vI (m),vI (M)] [bV b [vP f,w,vI (a.2.2.1),d] 206,bV f [vS (a.1.1.1),q,s,t,u,vI (a.1.2.2.1),v] 134,Sl aU q a.1.1.2.1,Sl aL s a.1.1.2.2,Sl bO t a.1.2.1.1,S2 bB u C a.1.2.1.2,S2 bO v D a.1.2.2.2,S2 bO w g a.2.1,Sl bB d a.2.2.2] (λx:Unit=>Value.tuple #[vI (r.1),vI (r.2)]) (λx l=>l) (λ_ l=>l)) {a:NR} {m:Int} {M:Int} (b:Nat)  (f:Nat)  (q:Value)  (s:Value)  (t:Value)  (u:Value)  (C:k_)  (v:Value)  (D:rB)  (w:Value)  (g:rB)  (d:Value) (r:fP) (h:cY X U a m M=some r):
  aY Tryz.prog 153 #[vP b,vI (m),vI (M)] [bV b [vP f,w,vI (a.2.2.1),d] 206,bV f [vS (a.1.1.1),q,s,t,u,vI (a.1.2.2.1),v] 134,Sl aU q a.1.1.2.1,Sl aL s a.1.1.2.2,Sl bO t a.1.2.1.1,S2 bB u C a.1.2.1.2,S2 bO v D a.1.2.2.2,S2 bO w g a.2.1,Sl bB d a.2.2.2] (λx:Unit=>Value.tuple #[vI (r.1),vI (r.2)]) (λx l=>l) (λ_ l=>l):=by
 refine aY.of Tryz.func153 Z Tryz.ntmps153 Z λc=>?_;refine aV<|aE Z<|aE Z<|aM<|aV<|aA Z<|aB (b_ Z) Z<|bT Z<|aB (dG Z (aF.fact 0 Z) Z Z Z) Z<|aA Z<|cX h λj1 h=>aB (aZ Z Z (aF.fact 8 Z) Z Z j1) Z<|aB (jA (cs:=[vI ((at' a.2.2.2 m).1),vI ((at' a.2.2.2 m).2)]) Z (aF.fact 8 Z) bU Z Z Z Z j1) Z<|aH (aN.alloc (cs:=VH) Z Z) Z λb2=>bS 0 (vs:=[vI ((at' a.2.2.2 m).1),vI ((at' a.2.2.2 m).2)]) Z Z Z Z Z Z<|aM<|aK<|aS<|aV<|bT Z<|dD 0 Z<|aB (BN Z Z) Z<|aE Z<|aM ?_;refine eV h Z (λh=>?_) λh=>?_
 ·refine aV<|aA Z<|eK 0 Z<|aA Z<|fH h λr4 w5 h=>aH (aN.callQ aay (ES U b f q s t u C v D w g d r4 w5) Z (oS [0,1,2,3,4,5,6,7,8] Z)) Z λx6=>aA Z<|cH Z<|aE Z<|aE Z<|aM<|aW<|bM<|aJ ?_;cases h;exact nG () Z Z (RV.tmp Z) (RV.tmp Z) .nil aG.nil
 refine aV<|bT Z<|dD 0 Z<|aB (BN Z Z) Z<|aE Z<|aM ?_;refine eV h Z (λh=>?_) λh=>?_
 ·refine aV<|aA Z<|aA Z<|cH Z<|aA Z<|fH h λr8 w9 h=>aH (aN.callQ Bg (p b f q s t u C v D w g d r8 w9) Z (oS [0,1,2,3,4,5,6,7,8] Z)) Z λak=>aA Z<|iY Z<|iY Z<|aE Z<|aE Z<|aM<|aV<|bT Z<|dD 0 Z<|aA Z<|fH h λP Y h=>aH (aN.callQ aaz (NG U  P Y) Z .nil) Z λal=>aA Z<|aE Z<|aE Z<|aM<|aW<|bM<|aJ ?_;cases h;exact nG () Z Z (RV.tmp Z) (RV.tmp Z) .nil aG.nil
 refine aV<|bT Z<|dD 0 Z<|aB (BN Z Z) Z<|aE Z<|aM ?_;refine eV h Z (λh=>?_) λh=>?_
 ·refine aV<|aA Z<|bT Z<|dD 0 Z<|aA Z<|Bt (A:=fP) (B:=Unit) (vs:=[vP b,vI ((at' a.2.2.2 m).1),vI (m)]) (λn=>nH  n=some r) (λn G=>Value.tuple #[vI (n.1),vI (n.2)]) (λn G=>[]) (λn G=>[bV b [vP f,w,vI (a.2.2.1),d] 206,bV f [vS (a.1.1.1),q,s,t,u,vI (a.1.2.2.1),v] 134,Sl aU q a.1.1.2.1,Sl aL s a.1.1.2.2,Sl bO t a.1.2.1.1,S2 bB u C a.1.2.1.2,S2 bO v D a.1.2.2.2,S2 bO w g a.2.1,Sl bB d a.2.2.2]) (tG.fn (show aX Tryz.prog 169 from Tryz.call169) Z) Tryz.func169 Z Tryz.ntmps169 Z Z ?_ ?_
  ·refine aV<|aE Z<|aE Z<|aM<|aV ?_;refine aH (aN.alloc (cs:=cellsOf bZ (List.replicate 24 (0:Int))) Z (by kernel_rfl)) Z λo=>?_;refine aM<|aK ?_;refine JR.start [0,1,3,7,15,31,63,127,0,256,768,1792,4095,8191,16383,32767] 12 mixedOrders (by decide +kernel) ?_;refine JR.open (by exact rfl) ?_;refine bG Z<|jS Z (b_ Z)<|dB Z<|bK Z .nil (kA 0 Z) (dG Z (aF.fact 0 Z) Z Z Z) aO.z<|jS Z (b_ Z)<|dB Z<|dB Z<|bK Z .nil (kA 1 Z) (dG Z (aF.fact 0 Z) Z Z Z) aO.z<|bG Z<|jS Z (b_ Z)<|dB Z<|bK Z .nil (kA 0 Z) (dG Z (aF.fact 0 Z) Z Z Z) aO.z<|bP 12 Z Z<|cX h λE h=>aB (bX Z Z (aF.fact 5 Z) Z Z E) Z<|aB (bW Z (aF.fact 5 Z) Z Z E) Z<|aB (fX Z (aF.el (aF.fact 5 Z) E.1 E.2) Z) Z<|aE Z<|aM<|aK<|dO (λk=>rK U a m k=some r) (λk H=>[(0,vP b),(1,vI ((at' a.2.2.2 m).1)),(2,vI (m)),(7,vI (k.1)),(8,vP o),(9,vI (List.length (at' a.1.2.1.2 a.2.2.1):Int))]) (λk H=>[bV o (cellsOf bZ k.2) 234]) ?_ ?_
   ·refine aV<|aA Z<|aA Z<|aM<|aS<|dU (kM U a m X) (λj J=>[(0,vP b),(1,vI ((at' a.2.2.2 m).1)),(2,vI (m)),(7,vI (j.1)),(8,vP o),(9,vI (List.length (at' a.1.2.1.2 a.2.2.1):Int)),(26,vI (List.length (at' a.1.2.1.2 a.2.2.1):Int)),(27,vI (j.2.1))]) (λj J=>[bV o (cellsOf bZ j.2.2) 234]) ((0:Int),(0:Int),(List.replicate 24 (0:Int))) () h SF (a_.ix [0] Z Z) ?_;intro aj j J h;refine aV<|cM Z<|aM<|aK ?_;refine eV h Z (λh=>?_) λh=>?_
    ·refine cK<|aK<|aS<|aV<|aA Z<|aE Z<|aM<|aR<|aA Z<|aA Z<|aA Z<|cH Z<|aA Z<|fH h λF ac h=>aH (aN.callQ Bg (p b f q s t u C v D w g d F ac) Z (oS [0,1,2,3,4,5,6,7,8] Z)) Z λao=>aA Z<|iY Z<|iY Z<|cX h λL h=>aB (oJ Z Z Z Z Z L.1) Z<|Jl 0 (e:=bZ) F.1 L Z Z Z Z Z Z Z<|aE Z<|eI<|mA<|aR<|cH Z<|aA Z<|aM ?_;exact xT (F.2,(wI .i64 (j.2.1+(1:Int))),(List.set j.2.2 (Int.toNat j.2.1) F.1)) () h SF Z
    refine e_ ?_;exact iB (j.1,j.2.2) () h SF Z
   intro k H h;refine aK<|dO (λy=>kL U a m k y=some r) (λy I=>[(1,vI ((at' a.2.2.2 m).1)),(7,vI (y)),(8,vP o),(9,vI (List.length (at' a.1.2.1.2 a.2.2.1):Int))]) (λy I=>[bV o (cellsOf bZ k.2) 234]) ?_ ?_
   ·refine aV<|aA Z<|cP Z<|aM ?_;refine eV h Z (λh=>?_) λh=>?_
    ·refine aR<|aA Z<|aB (b_ Z) Z<|bT Z<|aB (dG Z (aF.fact 0 Z) Z Z Z) Z<|aA Z<|fH h λO ab h=>aH (aN.callQ aaw (Sw U d O ab) Z (oS [8] Z)) Z λan=>aE Z<|aM ?_;exact iB (O) () h SF Z
    refine cK ?_;exact iB (k.1) () h SF Z
   intro y I h;refine aV<|aA Z<|aA Z<|cX h λK h=>aB (Q_ Z Z Z Z K) Z<|fH h λN aa h=>aH (aN.callQ aaD (Qc U (Value.slice (some ⟨o,0,none⟩) (Int.toNat (List.length (at' a.1.2.1.2 a.2.2.1):Int)) 24) N aa) Z (aG.cons (Wi (i:=0) Z dJ K (by decide)) .nil)) Z λam=>?_;refine aA Z<|aE Z<|aE Z<|aM<|aW ?_;exact tJ (N,y) () h (.inl Z) (Hb.r2 Z (RV.tmp Z) (RV.tmp Z)) Z .nil (aG.refl _ _)
  intro n G h;unfold nH at h;refine iY Z<|iY Z<|aE Z<|aE Z<|aM<|aW<|bM<|aJ ?_;cases h;exact nG () Z Z (RV.tmp Z) (RV.tmp Z) (a_.refl _) aG.nil
 refine aV<|bT Z<|dD 0 Z<|aB (BN Z Z) Z<|aE Z<|aM ?_;refine eV h Z (λh=>?_) λh=>?_
 ·refine aV<|aA Z<|aA Z<|cH Z<|aA Z<|fH h λQ ad h=>aH (aN.callQ Bg (p b f q s t u C v D w g d Q ad) Z (oS [0,1,2,3,4,5,6,7,8] Z)) Z λap=>aA Z<|iY Z<|iY Z<|aE Z<|aE Z<|aM<|aV<|aA Z<|aA Z<|aA Z<|fH h λR ae h=>aH (aN.callQ Bg (p b f q s t u C v D w g d R ae) Z (oS [0,1,2,3,4,5,6,7,8] Z)) Z λaq=>aA Z<|iY Z<|iY Z<|aE Z<|aE Z<|aM<|aV<|bT Z<|dD 0 Z<|aA Z<|aA Z<|fH h λS af h=>aH (aN.callQ aaA (Lc U  S af) Z .nil) Z λar=>aA Z<|aE Z<|aE Z<|aM<|aW<|bM<|aJ ?_;cases h;exact nG () Z Z (RV.tmp Z) (RV.tmp Z) .nil aG.nil
 refine dK<|mA<|aV<|aA Z<|aA Z<|cH Z<|aA Z<|fH h λT ag h=>aH (aN.callQ Bg (p b f q s t u C v D w g d T ag) Z (oS [0,1,2,3,4,5,6,7,8] Z)) Z λau=>aA Z<|iY Z<|iY Z<|aE Z<|aE Z<|aM<|aV<|aA Z<|aA Z<|aA Z<|fH h λV ah h=>aH (aN.callQ Bg (p b f q s t u C v D w g d V ah) Z (oS [0,1,2,3,4,5,6,7,8] Z)) Z λav=>aA Z<|iY Z<|iY Z<|aE Z<|aE Z<|aM<|aV<|aA Z<|aA Z<|aA Z<|fH h λW ai h=>aH (aN.callQ Bg (p b f q s t u C v D w g d W ai) Z (oS [0,1,2,3,4,5,6,7,8] Z)) Z λaw=>aA Z<|iY Z<|iY Z<|aE Z<|aE Z<|aM<|aK<|aV<|aA Z<|q_ Z<|aM ?_;refine eV h Z (λh=>?_) λh=>?_
 ·refine aV<|aA Z<|aA Z<|aE Z<|aE Z<|aM<|aW<|aJ ?_;cases h;exact nG () Z Z (RV.tmp Z) (RV.tmp Z) .nil aG.nil
 refine cK<|aV<|aA Z<|aA Z<|aE Z<|aE Z<|aM<|aW ?_;cases h;exact nG () Z Z (RV.tmp Z) (RV.tmp Z) .nil aG.nil
theorem Eg (U:Nat):∀{a:NR} {p:Int} {q:Int} (b:Nat)  (c:Nat)  (f:Value)  (g:Value)  (i:Value)  (j:Value)  (n:k_)  (k:Value)  (o:rB)  (m:Value)  (e:rB)  (d:Value) (r:fP),bR U a p q=some r->
  aY Tryz.prog 153 #[vP b,vI (p),vI (q)] [bV b [vP c,m,vI (a.2.2.1),d] 206,bV c [vS (a.1.1.1),f,g,i,j,vI (a.1.2.2.1),k] 134,Sl aU f a.1.1.2.1,Sl aL g a.1.1.2.2,Sl bO i a.1.2.1.1,S2 bB j n a.1.2.1.2,S2 bO k o a.1.2.2.2,S2 bO m e a.2.1,Sl bB d a.2.2.2] (λx:Unit=>Value.tuple #[vI (r.1),vI (r.2)]) (λx l=>l) (λ_ l=>l):=by
 induction U with
 |zero=>intros;rename_i h;cases h
 |succ U s=>exact λb c f g i j n k o m e d r h=>CW (bR U) U s b c f g i j n k o m e d r h
end Go.Proofs.YtlkhndebimcbbaaGreatDoor