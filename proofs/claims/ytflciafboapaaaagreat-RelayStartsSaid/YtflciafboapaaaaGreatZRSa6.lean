/- Models and proofs. Conditions: none. -/
import Derived.Test.YtflciafboapaaaaGreatZRSa5
import Derived.Test.YtflciafboapaaaaGreatZRSa4
import Derived.Test.YtflciafboapaaaaGreatZRSa2
import Derived.KernelRfl
import Derived.Test.YtflciafboapaaaaGreatZRSa3
set_option linter.unusedVariables false
set_option linter.unusedSimpArgs false
set_option maxHeartbeats 4000000
set_option maxRecDepth 20000
namespace Go.Proofs.YtflciafboapaaaaGreat
open Go.Sx
theorem EC {R:Type} {step:Int->(Int->Option R)->Option R} {K:Option R} {bad:R} (N:Nat) (p:Nat->Prop)
  (r:∀(k:Nat) c,k<N->p k->step k c=c ((k:Int)+1)) (i:∀(k:Nat) c,k<N->¬p k->step k c=some bad) (j:∀c,step N c=K):
  ∀(b:Nat),N<b->((∀k,k<N->p k)->bP step b 0=K)∧(¬(∀k,k<N->p k)->bP step b 0=some bad):=by
 intro b q;have s:∀(d a b:Nat),a+d=N->d<b->((∀k,a<=k->k<N->p k)->bP step b (a:Int)=K)∧(¬(∀k,a<=k->k<N->p k)->bP step b (a:Int)=some bad):=by
  intro d
  induction d with
  |zero=>
   intro a b v q;obtain rfl:a=N:=by omega
   cases b with
   |zero=>omega
   |succ f=>exact⟨λ_=>j _,λh=>absurd (λk m g=>by omega) h⟩
  | succ d ih =>
   intro a b v q;cases b with
   |zero=>omega
   | succ f =>
    obtain⟨t,u⟩:=ih (a+1) f (by omega) (by omega);have e:((a+1:Nat):Int)=(a:Int)+1:=by omega
    rw[e]at t u;by_cases n:p a
    ·have w:bP step (f+1) (a:Int)=bP step f ((a:Int)+1):=r a _ (by omega) n;rw[w];refine⟨λh=>t λk m g=>h k (by omega) g,λh=>u λo=>h λk m g=> ?_⟩
     by_cases l:k=a
     ·subst l;exact n
     ·exact o k (by omega) g
    ·exact⟨λh=>absurd (h a (zAe _) (by omega)) n,λ_=>i a _ (by omega) n⟩
 obtain⟨m,g⟩:=s N 0 b (by omega) q;exact⟨λh=>m λk _ l=>h k l,λh=>g λo=>h λk l=>o k (by omega) l⟩
abbrev GR:=List Int×gA
theorem AL (a:Nat) (v c d:Int):yC a v c d=some (decide (c<=v∧v<=d)):=by
 unfold yC DT;by_cases h:c<=v
 ·rw[if_pos h];congr 1;exact decide_eq_decide.2 ⟨λb=>⟨h,b⟩,λb=>b.2⟩
 ·rw[if_neg h,zA6 (λb=>h b.1)]
abbrev row (g:GR) (v:Nat):fU:=at' g.2 (v:Int)
abbrev Kl (g:GR) (v:Nat):Int:=at' g.1 (v:Int)
abbrev iP (l:fU) (i:Nat):fY:=at' l (i:Int)
def Rq (g:GR):Prop:=g.1.length<=30∧g.2.length<=30∧∀v,v<g.2.length->(row g v).length<=30
def GZ (l:fU) (v n i:Nat):Prop:=(0<=(iP l i).1∧(iP l i).1<=(n:Int) - 1)∧(iP l i).1≠v∧(1<=(iP l i).2∧(iP l i).2<=15)∧∀k,k<i->(iP l k).1≠(iP l i).1
def qK (l:fU) (v n:Nat):Prop:=∀i,i<l.length->GZ l v n i
theorem BG (l:fU) (v n:Nat) (o:l.length<=30) (p:n<=30):(qK l v n->qO 1000 l v n=some true)∧(¬qK l v n->qO 1000 l v n=some false):=by
 unfold qO;have a:∀(i:Nat) (b:Int->Option Bool),i<l.length->((∀k,k<i->(iP l k).1≠(iP l i).1)->bP (j_ l i b) 1000 0=b ((i:Int)+1))∧(¬(∀k,k<i->(iP l k).1≠(iP l i).1)->bP (j_ l i b) 1000 0=some false):=by
  intro i b h;refine EC i _ (λk d m c=> ?_) (λk d m c=> ?_) (λd=> ?_) 1000 (by omega)
  ·unfold j_;rw[if_pos (by omega),dD (by omega),dD (by omega),if_neg c,wr (by omega) (by omega)]
  ·unfold j_;rw[if_pos (by omega),dD (by omega),dD (by omega),if_pos (zB8.1 c)]
  ·unfold j_ zS;rw[if_neg (by omega),wr (by omega) (by omega)]
 refine EC l.length (GZ l v n) (λi b h c=> ?_) (λi b h c=> ?_) (λb=> ?_) 1000 (by omega)
 ·obtain⟨e,f,g,j⟩:=c;unfold pC l_;rw[if_pos (by omega),dD (by omega),wr (x:=(n:Int) - 1) (by omega) (by omega),AL,zAd e,bN Z,if_neg (by simp),dD (by omega),if_neg f,dD (by omega),AL,zAd g,bN Z,if_neg (by simp)];exact(a i b h).1 j
 ·unfold pC l_;rw[if_pos (by omega),dD (by omega),wr (x:=(n:Int) - 1) (by omega) (by omega),AL];by_cases e:0<=(iP l i).1∧(iP l i).1<=(n:Int) - 1
  ·rw[zAd e,bN Z,if_neg (by simp),dD (by omega)];by_cases f:(iP l i).1=v
   ·rw[if_pos f];rfl
   ·rw[if_neg f,dD (by omega),AL];by_cases g:1<=(iP l i).2∧(iP l i).2<=15
    ·rw[zAd g,bN Z,if_neg (by simp)];exact(a i b h).2 λj=>c ⟨e,f,g,j⟩
    ·rw[zA6 g];rfl
  ·rw[zA6 e];rfl
 ·unfold pC zR;rw[if_neg (by omega)]
def yD (l:fU) (u:Int):Int:=match l.findIdx? (λx=>decide (x.1=u))with
 |some i=>i
 |none=> -1
theorem Ib {l:fU} {u:Int} (i:Nat) (b:i<l.length) (d:(iP l i).1=u) (c:∀k,k<i->(iP l k).1≠u):yD l u=i:=by
 have:l.findIdx? (λx=>decide (x.1=u))=some i:=by
  rw[List.findIdx?_eq_some_iff_getElem];have e:∀k (a:k<l.length),iP l k=l[k]:=λk a=>by rw[iP,kX,zA8,zA2 a];rfl
  refine⟨b,by rw[<-e i b];simpa using d,λk a=> ?_⟩
  have:=c k a;rw[e k (by omega)]at this;simpa using this
 rw[yD,this]
theorem N_ {l:fU} {u:Int} (b:∀k,k<l.length->(iP l k).1≠u):yD l u = -1:=by
 have:l.findIdx? (λx=>decide (x.1=u))=none:=by
  rw[List.findIdx?_eq_none_iff];intro x c;obtain⟨k,a,rfl⟩:=List.getElem_of_mem c;have:=b k a;rw[iP,kX,zA8,zA2 a]at this;simpa using this
 rw[yD,this]
theorem wZ (l:fU) (u:Int):(∃i,i<l.length∧(iP l i).1=u∧(∀k,k<i->(iP l k).1≠u)∧yD l u=i)∨((∀k,k<l.length->(iP l k).1≠u)∧yD l u = -1):=by
 by_cases h:∀k,k<l.length->(iP l k).1≠u
 ·exact .inr ⟨h,N_ h⟩
 ·left;have f:∃k,k<l.length∧(iP l k).1=u:=by
   apply Classical.byContradiction;intro o;exact h λk g e=>o ⟨k,g,e⟩
  obtain⟨k,g,n⟩:=f;have:∀m,(∃k,k<=m∧k<l.length∧(iP l k).1=u)->∃i,i<l.length∧(iP l i).1=u∧∀k,k<i->(iP l k).1≠u:=by
   intro m
   induction m with
   |zero=>rintro⟨k,d,a,b⟩;exact⟨k,a,b,λj p=>by omega⟩
   |succ m q=>
    rintro⟨k,d,a,b⟩;by_cases c:∃j,j<=m∧j<l.length∧(iP l j).1=u
    ·exact q c
    ·exact⟨k,a,b,λj p e=>c ⟨j,by omega,by omega,e⟩⟩
  obtain⟨i,d,a,b⟩:=this k ⟨k,zAe _,g,n⟩;exact⟨i,d,a,b,Ib i d a b⟩
theorem Qc (g:GR) (v:Nat) (u:Int) (m:v<g.2.length) (l:(row g v).length<=30):CC 1000 g v u=some (yD (row g v) u):=by
 unfold CC;rcases wZ (row g v) u with⟨i,j,h,c,b⟩|⟨c,b⟩
 ·rw[b];refine Gc (λx:Int=>∃k:Nat,x=k∧k<=i) (λx=>31 - x.toNat) ?_ 1000 _ ⟨0,rfl,by omega⟩ (by omega);rintro x d ⟨k,rfl,f⟩ a;unfold BI;rw[dD (by omega),if_pos (show(k:Int)<((row g v).length:Int) by omega),dD (by omega),dD (show 0<=(k:Int)∧(k:Int)<((row g v).length:Int) by omega)];by_cases e:k=i
  ·subst e;exact if_pos h
  ·rw[if_neg (c k (by omega)),wr (by omega) (by omega)];exact a _ ⟨k+1,by omega,by omega⟩ (by omega)
 ·rw[b];refine Gc (λx:Int=>∃k:Nat,x=k∧k<=(row g v).length) (λx=>31 - x.toNat) ?_ 1000 _ ⟨0,rfl,by omega⟩ (by omega);rintro x d ⟨k,rfl,f⟩ a;unfold BI;rw[dD (by omega)];by_cases e:k<(row g v).length
  ·rw[if_pos (show(k:Int)<((row g v).length:Int) by omega),dD (by omega),dD (show 0<=(k:Int)∧(k:Int)<((row g v).length:Int) by omega),if_neg (c k e),wr (by omega) (by omega)];exact a _ ⟨k+1,by omega,by omega⟩ (by omega)
  ·rw[if_neg (show¬(k:Int)<((row g v).length:Int) by omega)];rfl
theorem Gd {X R:Type} {step:X->(X->Option R)->Option R} {K:X->Option R} {bad:R} (N:Nat) (p:Nat->Prop) (I:Nat->X->Prop)
  (t:∀(k:Nat) x g,k<N->I k x->p k->∃c,I (k+1) c∧step x g=g c) (j:∀(k:Nat) x g,k<N->I k x->¬p k->step x g=some bad) (l:∀x g,I N x->step x g=K x):
  ∀(b:Nat) (x:X),I 0 x->N<b->((∀k,k<N->p k)->∃c,I N c∧bP step b x=K c)∧(¬(∀k,k<N->p k)->bP step b x=some bad):=by
 intro b x e s;have v:∀(d a b:Nat) (x:X),a+d=N->d<b->I a x->((∀k,a<=k->k<N->p k)->∃c,I N c∧bP step b x=K c)∧(¬(∀k,a<=k->k<N->p k)->bP step b x=some bad):=by
  intro d
  induction d with
  |zero=>
   intro a b x w s e;obtain rfl:a=N:=by omega
   cases b with
   |zero=>omega
   |succ f=>exact⟨λ_=>⟨x,e,l _ _ e⟩,λh=>absurd (λk n i=>by omega) h⟩
  | succ d ih =>
   intro a b x w s e;cases b with
   |zero=>omega
   | succ f =>
    by_cases o:p a
    ·obtain⟨c,r,u⟩:=t a x (bP step f) (by omega) e o;have u:bP step (f+1) x=bP step f c:=u;obtain⟨y,z⟩:=ih (a+1) f c (by omega) (by omega) r;rw[u];refine⟨λh=>y λk n i=>h k (by omega) i,λh=>z λq=>h λk n i=> ?_⟩
     by_cases m:k=a
     ·subst m;exact o
     ·exact q k (by omega) i
    ·exact⟨λh=>absurd (h a (zAe _) (by omega)) o,λ_=>j a x _ (by omega) e o⟩
 obtain⟨n,i⟩:=v N 0 b x (by omega) s e;exact⟨λh=>n λk _ m=>h k m,λh=>i λq=>h λk m=>q k (by omega) m⟩
def CX (g:GR) (v i:Nat):Prop:=∃j,j<(at' g.2 (iP (row g v) i).1).length∧(iP (at' g.2 (iP (row g v) i).1) j).1=v∧(iP (at' g.2 (iP (row g v) i).1) j).2=(iP (row g v) i).2
structure Pa (g:GR) (v:Nat):Prop where
 id:0<=Kl g v∧Kl g v<=255
 deg:(row g v).length<g.2.length
 links:qK (row g v) v g.2.length
 ids:∀k,k<v->Kl g k≠Kl g v
structure VG (g:GR):Prop where
 n1:1<=g.2.length
 n24:g.2.length<=24
 len:g.1.length=g.2.length
 node:∀v,v<g.2.length->Pa g v
 sym:∀v,v<g.2.length->∀i,i<(row g v).length->CX g v i
theorem Od (g:GR) (N:Rq g):(VG g->yO 1000 g=some true)∧(¬VG g->yO 1000 g=some false):=by
 obtain⟨S,H,t⟩:=N;unfold yO;rw[AL,bN Z];by_cases z:1<=g.2.length∧g.2.length<=24
 rotate_left
 ·rw[zA6 (by omega)];exact⟨λh=>absurd ⟨h.n1,h.n24⟩ z,λ_=>rfl⟩
 rw[zAd (by omega),if_neg (by simp)];by_cases I:g.1.length=g.2.length
 rotate_left
 ·rw[zAd (by omega)];exact⟨λh=>absurd h.len I,λ_=>rfl⟩
 rw[zA6 (by omega)];unfold AI;rw[if_neg (by simp)];have o:∀(v:Nat) (b:Int->Option Bool),v<g.2.length->((∀k,k<v->Kl g k≠Kl g v)->bP (pS g v b) 1000 0=b ((v:Int)+1))∧(¬(∀k,k<v->Kl g k≠Kl g v)->bP (pS g v b) 1000 0=some false):=by
  intro v b d;refine EC v _ (λk a C c=> ?_) (λk a C c=> ?_) (λa=> ?_) 1000 (by omega)
  ·unfold pS;rw[if_pos (by omega),dD (by omega),dD (by omega),if_neg c,wr (by omega) (by omega)]
  ·unfold pS;rw[if_pos (by omega),dD (by omega),dD (by omega),if_pos (zB8.1 c)]
  ·unfold pS DW;rw[if_neg (by omega),wr (by omega) (by omega)]
 have l:=EC (step:=sN 1000 g) (K:=AJ 1000 g ()) (bad:=false) g.2.length (Pa g) (λv b d c=> ?_) (λv b d c=> ?_) (λb=> ?_) 1000 (by omega)
 rotate_left
 ·unfold sN sL;rw[if_pos (by omega),dD (by omega),AL,zAd c.id,bN Z,if_neg (by simp),dD (by omega),if_neg (show¬((g.2.length:Int)<=((row g v).length:Int))from by have:=c.deg;omega),dD (by omega),(BG (row g v) v g.2.length (t v d) H).1 c.links,bN Z,if_neg (by simp)];exact(o v b d).1 c.ids
 ·unfold sN sL;rw[if_pos (by omega),dD (by omega),AL];by_cases x:0<=Kl g v∧Kl g v<=255
  rotate_left
  ·rw[zA6 x];rfl
  rw[zAd x,bN Z,if_neg (by simp),dD (by omega)];by_cases J:(row g v).length<g.2.length
  rotate_left
  ·rw[if_pos (show(g.2.length:Int)<=((row g v).length:Int) by omega)];rfl
  rw[if_neg (show¬(g.2.length:Int)<=((row g v).length:Int) by omega),dD (by omega)];by_cases y:qK (row g v) v g.2.length
  rotate_left
  ·rw[(BG (row g v) v g.2.length (t v d) H).2 y];rfl
  rw[(BG (row g v) v g.2.length (t v d) H).1 y,bN Z,if_neg (by simp)];exact(o v b d).2 λL=>c ⟨x,J,y,L⟩
 ·unfold sN;rw[if_neg (by omega)]
 by_cases q:∀v,v<g.2.length->Pa g v
 rotate_left
 ·exact⟨λh=>absurd h.node q,λ_=>l.2 q⟩
 rw[l.1 q];unfold AJ;have f:∀(v:Nat) (b:Int->Option Bool),v<g.2.length->((∀i,i<(row g v).length->CX g v i)->bP (nA 1000 g v b) 1000 0=b ((v:Int)+1))∧(¬(∀i,i<(row g v).length->CX g v i)->bP (nA 1000 g v b) 1000 0=some false):=by
  intro v b d;have P:=t v d;have n:∀(i:Nat) a,i<(row g v).length->(CX g v i->nA 1000 g v b i a=a ((i:Int)+1))∧(¬CX g v i->nA 1000 g v b i a=some false):=by
   intro i a r;unfold nA;rw[dD (by omega),if_pos (show(i:Int)<((row g v).length:Int) by omega),dD (by omega),dD (show 0<=(i:Int)∧(i:Int)<((row g v).length:Int) by omega)];have R:=((q v d).links i r).1;obtain⟨u,G⟩:∃u:Nat,(iP (row g v) i).1=u:=⟨(iP (row g v) i).1.toNat,by omega⟩
   have p:u<g.2.length:=by omega
   unfold CX;rw[show(at' (at' g.2 (v:Int)) (i:Int))=iP (row g v) i from rfl,G,Qc g u v p (t u p),bN Z];have F:=(q u p).links;rcases wZ (row g u) v with⟨j,w,m,B,A⟩|⟨M,A⟩
   ·rw[A,if_neg (by omega),dD (by omega),dD (show 0<=(j:Int)∧(j:Int)<((at' g.2 (u:Int)).length:Int)from⟨by omega,by have:j<(row g u).length:=w;exact_mod_cast this⟩)];unfold AK;constructor
    ·rintro⟨k,C,s,E⟩;have D:k=j:=by
      rcases Nat.lt_trichotomy k j with h|h|h
      ·exact absurd s (B k h)
      ·exact h
      ·exact absurd (m.trans s.symm) ((F k C).2.2.2 j h)
     subst D;rw[if_neg (by rw[zA6];simp;exact λh=>h E),wr (by omega) (by omega)]
    ·intro h;rw[if_pos];exact zAd λQ=>h ⟨j,w,m,Q⟩
   ·rw[A,if_pos (by decide)];exact⟨fun⟨j,w,m,_⟩=>absurd m (M j w),λ_=>rfl⟩
  refine EC (row g v).length _ (λi a r c=>(n i a r).1 c) (λi a r c=>(n i a r).2 c) (λa=> ?_) 1000 (by omega);unfold nA DV;rw[dD (by omega),if_neg (show¬(((row g v).length:Nat):Int)<((row g v).length:Int) by omega),wr (by omega) (by omega)]
 have e:=EC (step:=sM 1000 g) (K:=some true) (bad:=false) g.2.length (λv=>∀i,i<(row g v).length->CX g v i) (λv b d c=> ?_) (λv b d c=> ?_) (λb=> ?_) 1000 (by omega)
 ·exact⟨λh=>e.1 h.sym,λh=>e.2 λO=>h ⟨z.1,z.2,I,q,O⟩⟩
 ·unfold sM;rw[if_pos (by omega)];exact(f v b d).1 c
 ·unfold sM;rw[if_pos (by omega)];exact(f v b d).2 c
 ·unfold sM DU;rw[if_neg (by omega)]
theorem wM {a:Type} [Inhabited a] (l:List a) (i k:Nat) (y:a) (b:i<l.length):at' (l.set i y) (k:Int)=if k=i then y else at' l (k:Int):=by
 rw[kX,kX,zA8,zA8,List.getElem?_set];by_cases h:i=k
 ·rw[if_pos h,if_pos h.symm,if_pos (by omega)];rfl
 ·rw[if_neg h,if_neg (Ne.symm h)]
def TM (l:bT) (k:Nat):Prop:=(0<=at' l (k:Int)∧at' l (k:Int)<=255)∧∀j,j<k->at' l (j:Int)≠at' l (k:Int)
theorem uR (l:bT) (C:l.length<=30):((∀k,k<l.length->TM l k)->jQ 1000 l=some true)∧(¬(∀k,k<l.length->TM l k)->jQ 1000 l=some false):=by
 unfold jQ;have i:=Gd (step:=gO l) (K:=λ_=>some true) (bad:=false) l.length (TM l) (λk x=>x.1=(k:Int)∧x.2.length=256∧∀z:Nat,z<256->(at' x.2 (z:Int)=true↔∃j,j<k∧at' l (j:Int)=(z:Int))) ?_ ?_ ?_ 1000 ((0:Int),(List.replicate 256 false)) ⟨rfl,List.length_replicate ..,λz c=> ?_⟩ (by omega)
 ·exact⟨λh=>by obtain⟨x,_,b⟩:=i.1 h;exact b,i.2⟩
 ·rintro k ⟨t,m⟩ q w ⟨b,a,f⟩ ⟨D,v⟩;dsimp only at b a f;subst b;obtain⟨z,c⟩:∃z:Nat,at' l (k:Int)=z:=⟨(at' l (k:Int)).toNat,by omega⟩
  have p:z<256:=by omega
  have o:¬at' m (z:Int)=true:=by
   rw[f z p];rintro⟨j,e,d⟩;exact v j e (d.trans c.symm)
  refine⟨((k:Int)+1,m.set z true),⟨by simp,by simp[a],λy B=> ?_⟩,?_⟩
  ·dsimp only;rw[wM _ _ _ _ (by omega)];by_cases g:y=z
   ·subst g;rw[if_pos Z];exact⟨λ_=>⟨k,by omega,c⟩,λ_=>rfl⟩
   ·rw[if_neg g,f y B];constructor
    ·rintro⟨j,e,d⟩;exact⟨j,by omega,d⟩
    ·rintro⟨j,e,d⟩;by_cases n:j=k
     ·subst n;rw[c]at d;omega
     ·exact⟨j,by omega,d⟩
  ·unfold gO iU;dsimp only;rw[if_pos (by omega),dD (by omega),c,if_neg (by omega),if_neg (by omega),dD ⟨by omega,a⟩,if_neg o,dD ⟨by omega,a⟩,wr (by omega) (by omega)];rfl
 ·rintro k ⟨t,m⟩ q w ⟨b,a,f⟩ A;dsimp only at b a f;subst b;unfold gO iU;dsimp only;rw[if_pos (by omega),dD (by omega)];by_cases r:at' l (k:Int)<0
  ·rw[if_pos r,if_pos Z]
  rw[if_neg r];by_cases s:255<at' l (k:Int)
  ·rw[if_pos s,if_pos Z]
  rw[if_neg s];obtain⟨z,c⟩:∃z:Nat,at' l (k:Int)=z:=⟨(at' l (k:Int)).toNat,by omega⟩
  rw[c,dD ⟨by omega,a⟩,if_pos];rw[f z (by omega)];apply Classical.byContradiction;intro u;exact A ⟨by omega,λj e d=>u ⟨j,e,d.trans c⟩⟩
 ·rintro⟨t,m⟩ q ⟨b,_,_⟩;dsimp only at b;subst b;unfold gO nK;dsimp only;rw[if_neg (by omega)]
 ·rw[show at' (List.replicate 256 false) (z:Int)=false by rw[kX,zA8,List.getElem?_replicate,if_pos c];rfl];exact⟨λh=>(by cases h),fun⟨j,e,_⟩=>(by omega)⟩
theorem Ti {d e:Type} [DecidableEq d] (k c:d) (v:e):∀l:List (d×e),mJ c (CG k v l)=if c=k then some v else mJ c l
 | []=>by simp only[CG,mJ]
 | x :: xs => by
  simp only[CG];by_cases h:k=x.1
  ·rw[if_pos h];simp only[mJ];by_cases a:c=k
   ·rw[if_pos a,if_pos a]
   ·rw[if_neg a,if_neg a,if_neg (λb=>a (b.trans h.symm))]
  ·rw[if_neg h];simp only[mJ];by_cases a:c=x.1
   ·rw[if_pos a,if_neg (λb=>h (b.symm.trans a)),if_pos a]
   ·rw[if_neg a,Ti k c v xs];by_cases b:c=k
    ·rw[if_pos b,if_pos b]
    ·rw[if_neg b,if_neg b,if_neg a]
theorem NO {a b:Type} [DecidableEq a] {k:a} {v:b} {z:a×b} {l:List (a×b)} (c:mJ k l=none):z∈CG k v l↔z=(k,v)∨z∈l:=by
 rw[Hs k v l c];simp[or_comm]
theorem Hr {a c:Type} [DecidableEq a] {k:a}:∀{l:List (a×c)},(∀v,(k,v)∉l)->mJ k l=none
 | [],_=>rfl
 |x::xs,h=>by
  simp only[mJ];rw[if_neg (λe=>h x.2 (by rw[e];exact zAb ..))];exact Hr λv b=>h v (zAj _ b)
theorem uL {b c:Type} [DecidableEq b] {k:b} {v:c}:∀{l:List (b×c)},mJ k l=none->(k,v)∉l
 | [],_=>by simp
 | x :: xs, h => by
  simp only[mJ]at h;by_cases e:k=x.1
  ·rw[if_pos e]at h;cases h
  ·rw[if_neg e]at h;intro d;rcases zAm.1 d with a|a
   ·exact e (by rw[<-a])
   ·exact uL h a
theorem Ca {a b:Type} [DecidableEq a] {k:a} {v:b}:∀{l:List (a×b)},mJ k l=some v->(k,v)∈l
 |x::xs,h=>by
  simp only[mJ]at h;by_cases e:k=x.1
  ·rw[if_pos e]at h;cases h;rw[e];exact zAb ..
  ·rw[if_neg e]at h;exact zAj _ (Ca h)
theorem JH {a b:Type} (p:a×b->Prop) [DecidablePred p]:∀l:List (a×b),Ko (λd x=>if p d then some false else x) (some true) l=some (decide (∀z∈l,¬p z))
 | []=>by simp[Ko]
 |x::xs=>by
  show(if p x then some false else Ko _ (some true) xs)=_;rw[JH p xs];by_cases h:p x
  ·rw[if_pos h];congr 1;symm;exact zA6 λc=>c x (zAb ..) h
  ·rw[if_neg h];congr 1;apply decide_eq_decide.2;simp[h]
def Nk (c:gA) (v i:Nat) (z:(Int×Int)×Int):Prop:=∃a b:Nat,(a<v∨(a=v∧b<i))∧b<(at' c (a:Int)).length∧z=(((a:Int),(iP (at' c (a:Int)) b).1),(iP (at' c (a:Int)) b).2)
def KC (a:gA):Prop:=(∀v,v<a.length->qK (at' a (v:Int)) v a.length)∧∀v,v<a.length->∀i,i<(at' a (v:Int)).length->CX ([],a) v i
theorem Gu (c:gA) (hn:c.length<=30) (hd:∀v,v<c.length->(at' c (v:Int)).length<=30):(KC c->gT 1000 c=some true)∧(¬KC c->gT 1000 c=some false):=by
 unfold gT;have s:∀(v:Nat) (m:List ((Int×Int)×Int)) p,v<c.length->(∀z,z∈m↔Nk c v 0 z)->
   (qK (at' c (v:Int)) v c.length->∃X,(∀z,z∈X↔Nk c (v+1) 0 z)∧bP (cT c ((v:Int),m) p) 1000 ((0:Int),m)=p ((v:Int)+1,X))∧
   (¬qK (at' c (v:Int)) v c.length->bP (cT c ((v:Int),m) p) 1000 ((0:Int),m)=some false):=by
  intro v m p F hm;have af:=hd v F;have R:=Gd (step:=cT c ((v:Int),m) p) (K:=λx=>p ((v:Int)+1,x.2)) (bad:=false) (at' c (v:Int)).length (GZ (at' c (v:Int)) v c.length) (λi x=>x.1=(i:Int)∧∀z,z∈x.2↔Nk c v i z) ?_ ?_ ?_ 1000 ((0:Int),m) ⟨rfl,hm⟩ (by omega)
  ·refine⟨λh=> ?_,λh=>R.2 h⟩
   obtain⟨x,⟨ah,ad⟩,f⟩:=R.1 h;refine⟨x.2,λz=>(ad z).trans ⟨?_,?_⟩,f⟩
   ·rintro⟨a,b,y,e,l⟩;exact⟨a,b,by omega,e,l⟩
   ·rintro⟨a,b,y,e,l⟩;refine⟨a,b,?_,e,l⟩
    by_cases W:a=v
    ·subst W;exact .inr ⟨rfl,e⟩
    ·omega
  ·rintro i ⟨H,g⟩ I M ⟨f,d⟩ ⟨p1,p2,p3,p4⟩;dsimp only at f d;subst f;have q:mJ (((v:Int),(iP (at' c (v:Int)) i).1)) g=none:=by
    apply Hr;intro w hw;obtain⟨a,b,y,e,l⟩:=(d _).1 hw;simp only[Prod.mk.injEq]at l;obtain⟨⟨C,A⟩,_⟩:=l;have:a=v:=by omega
    subst this;have hb:b<i:=by omega
    exact p4 b hb A.symm
   refine⟨((i:Int)+1,CG (((v:Int),(iP (at' c (v:Int)) i).1)) (iP (at' c (v:Int)) i).2 g),⟨by simp,λz=> ?_⟩,?_⟩
   ·dsimp only;rw[NO q,d];constructor
    ·rintro(rfl|⟨a,b,y,e,l⟩)
     ·exact⟨v,i,.inr ⟨rfl,by omega⟩,M,rfl⟩
     ·exact⟨a,b,by omega,e,l⟩
    ·rintro⟨a,b,y,e,l⟩;by_cases J:a=v∧b=i
     ·left;rw[l,J.1,J.2]
     ·right;exact⟨a,b,by omega,e,l⟩
   ·replace p1:0<=(at' (at' c (v:Int)) (i:Int)).1∧(at' (at' c (v:Int)) (i:Int)).1<=(c.length:Int) - 1:=p1;replace p3:1<=(at' (at' c (v:Int)) (i:Int)).2∧(at' (at' c (v:Int)) (i:Int)).2<=15:=p3;unfold cT h_ jF;dsimp only;rw[if_pos (by omega),dD (by omega),if_neg (by omega),if_neg (by omega),if_neg (by rw[zA6 p2];simp),if_neg (by omega),if_neg (by rw[zA6 (by omega)];simp),q,if_neg (by simp),wr (by omega) (by omega)]
  ·rintro i ⟨H,g⟩ I M ⟨f,d⟩ P;dsimp only at f d;subst f;unfold cT h_ jF;dsimp only;rw[if_pos (by omega),dD (by omega)];by_cases y:(iP (at' c (v:Int)) i).1<0
   ·rw[if_pos y,if_pos Z]
   rw[if_neg y];by_cases e:(c.length:Int)<=(iP (at' c (v:Int)) i).1
   ·rw[if_pos e,if_pos Z]
   rw[if_neg e];by_cases l:(iP (at' c (v:Int)) i).1=v
   ·rw[if_pos (zAd l)]
   rw[if_neg (by rw[zA6 l];simp)];by_cases C:(iP (at' c (v:Int)) i).2<1
   ·rw[if_pos C,if_pos Z]
   rw[if_neg C];by_cases A:15<(iP (at' c (v:Int)) i).2
   ·rw[if_pos (zAd A)]
   rw[if_neg (by rw[zA6 A];simp)];have:∃k,k<i∧(iP (at' c (v:Int)) k).1=(iP (at' c (v:Int)) i).1:=by
    apply Classical.byContradiction;intro hc;exact P ⟨by omega,l,by omega,λk N L=>hc ⟨k,N,L⟩⟩
   obtain⟨k,N,L⟩:=this;have n:=(d _).2 ⟨v,k,.inr ⟨rfl,N⟩,by omega,rfl⟩;rw[if_pos];rw[<-L];cases q:mJ (((v:Int),(iP (at' c (v:Int)) k).1)) g with
   |some w=>rfl
   | none => exact absurd n (by
     intro n;exact uL q n)
  ·rintro⟨H,g⟩ I ⟨f,d⟩;dsimp only at f d;subst f;unfold cT mU;dsimp only;rw[if_neg (by omega),wr (by omega) (by omega)]
 have t:=Gd (step:=dU 1000 c) (K:=λx=>jE x.2) (bad:=false) c.length (λv=>qK (at' c (v:Int)) v c.length) (λv x=>x.1=(v:Int)∧∀z,z∈x.2↔Nk c v 0 z) ?_ ?_ ?_ 1000 ((0:Int),[]) ⟨rfl,λz=>⟨λh=>(by cases h),fun⟨a,b,y,_⟩=>(by omega)⟩⟩ (by omega)
 rotate_left
 ·rintro v ⟨H,g⟩ p F ⟨f,d⟩ P;dsimp only at f d;subst f;obtain⟨X,y,e⟩:=(s v g p F d).1 P;refine⟨((v:Int)+1,X),⟨by simp,y⟩,?_⟩
  ·unfold dU;dsimp only;rw[if_pos (by omega),dD (by omega)];exact e
 ·rintro v ⟨H,g⟩ p F ⟨f,d⟩ P;dsimp only at f d;subst f;unfold dU;dsimp only;rw[if_pos (by omega),dD (by omega)];exact(s v g p F d).2 P
 ·rintro⟨H,g⟩ p ⟨f,d⟩;dsimp only at f d;subst f;unfold dU;dsimp only;rw[if_neg (by omega)]
 by_cases D:∀v,v<c.length->qK (at' c (v:Int)) v c.length
 rotate_left
 ·exact⟨λh=>absurd h.1 D,λ_=>t.2 D⟩
 obtain⟨⟨H,g⟩,⟨f,d⟩,L⟩:=t.1 D;rw[L];dsimp only at d ⊢;have N:jE g=some (decide (∀z∈g,¬(Option.getD (mJ (z.1.2,z.1.1) g) (0:Int))≠z.2)):=JH (λz:(Int×Int)×Int=>(Option.getD (mJ (z.1.2,z.1.1) g) (0:Int))≠z.2) g;rw[N];have E:(∀z∈g,¬(Option.getD (mJ (z.1.2,z.1.1) g) (0:Int))≠z.2)↔∀v,v<c.length->∀i,i<(at' c (v:Int)).length->CX ([],c) v i:=by
  constructor
  ·intro h v F i M;have hw:=(D v F i M).2.2.1;have n:=(d (((v:Int),(iP (at' c (v:Int)) i).1),(iP (at' c (v:Int)) i).2)).2 ⟨v,i,.inl F,M,rfl⟩;have e:=zB8.1 (h _ n);dsimp only at e;cases q:mJ ((iP (at' c (v:Int)) i).1,(v:Int)) g with
   |none=>rw[q]at e;simp only[Option.getD]at e;omega
   | some w =>
    rw[q]at e;simp only[Option.getD]at e;obtain⟨a,b,l,C,A⟩:=(d _).1 (Ca q);simp only[Prod.mk.injEq]at A;obtain⟨⟨T,U⟩,h8⟩:=A;refine⟨b,?_,?_,?_⟩
    ·show b<(at' c (iP (at' c (v:Int)) i).1).length;rw[T];exact C
    ·show(iP (at' c (iP (at' c (v:Int)) i).1) b).1=v;rw[T];exact U.symm
    ·show(iP (at' c (iP (at' c (v:Int)) i).1) b).2=(iP (at' c (v:Int)) i).2;rw[T,<-h8];exact e
  ·intro h z hz ac;obtain⟨a,b,l,C,rfl⟩:=(d z).1 hz;have W:a<c.length:=by omega
   apply ac;obtain⟨j,r,o,B⟩:=h a W b C;have hu:=(D a W b C).1;obtain⟨u,Q⟩:∃u:Nat,(iP (at' c (a:Int)) b).1=u:=⟨(iP (at' c (a:Int)) b).1.toNat,by omega⟩
   replace r:j<(at' c (iP (at' c (a:Int)) b).1).length:=r;replace o:(iP (at' c (iP (at' c (a:Int)) b).1) j).1=a:=o;replace B:(iP (at' c (iP (at' c (a:Int)) b).1) j).2=(iP (at' c (a:Int)) b).2:=B;rw[Q]at r o B;have G:u<c.length:=by omega
   dsimp only;rw[Q,<-B];have n:=(d (((u:Int),(iP (at' c (u:Int)) j).1),(iP (at' c (u:Int)) j).2)).2 ⟨u,j,.inl G,r,rfl⟩;rw[o]at n;cases q:mJ ((u:Int),(a:Int)) g with
   |none=>exact absurd n (uL q)
   | some w =>
    obtain⟨Y,S,ae,aa,A⟩:=(d _).1 (Ca q);simp only[Prod.mk.injEq]at A;obtain⟨⟨T,U⟩,h8⟩:=A;have:Y=u:=by omega
    subst this;have ab:S=j:=by
     rcases Nat.lt_trichotomy S j with O|O|O
     ·exact absurd (U.symm.trans o.symm) ((D Y G j r).2.2.2 S O)
     ·exact O
     ·exact absurd (o.trans U) ((D Y G S aa).2.2.2 j O)
    subst ab;exact h8
 by_cases V:∀v,v<c.length->∀i,i<(at' c (v:Int)).length->CX ([],c) v i
 ·rw[zAd (E.2 V)];exact⟨λ_=>rfl,λh=>absurd ⟨D,V⟩ h⟩
 ·rw[zA6 (λh=>V (E.1 h))];exact⟨λh=>absurd h.2 V,λ_=>rfl⟩
theorem Mv:∀(N:Nat) (f:Nat->Nat) (k:Nat),(∀i,i<k->f i<N)->(∀i j,i<j->j<k->f i≠f j)->k<=N
 |0,f,k,h,_=>by
  cases k with
  |zero=>omega
  |succ k=>exact absurd (h 0 (by omega)) (by omega)
 | N + 1, f, k, h, hd => by
  by_cases b:∃a,a<k∧f a=N
  ·obtain⟨a,g,l⟩:=b;have:=Mv N (λi=>if i<a then f i else f (i+1)) (k - 1) (λi c=>by
    split
    ·have:=h i (by omega);have:=hd i a (by omega) g;omega
    ·have:=h (i+1) (by omega);have:=hd a (i+1) (by omega) (by omega);omega) (λi j d m=>by
    split<;>split
    ·exact hd i j d (by omega)
    ·exact hd i (j+1) (by omega) (by omega)
    ·omega
    ·exact hd (i+1) (j+1) (by omega) (by omega))
   omega
  ·have:=Mv N f k (λi c=>by
    have:=h i c;have:f i≠N:=λe=>b ⟨i,c,e⟩;omega) hd
   omega
theorem PC {l:fU} {v n:Nat} (b:v<n) (h:qK l v n):l.length<n:=by
 have:=Mv n (λi=>if i=l.length then v else(iP l i).1.toNat) (l.length+1) (λi e=>by
  split
  ·exact b
  ·have:=(h i (by omega)).1;omega) (λi j a f=>by
  rw[if_neg (by omega)];have c:=(h i (by omega)).1;split
  ·have:=(h i (by omega)).2.1;omega
  ·have d:=(h j (by omega)).1;have:=(h j (by omega)).2.2.2 i a;omega)
 omega
theorem acE (g:GR) (j:Rq g):(VG g->iG 1000 g=some true)∧(¬VG g->iG 1000 g=some false):=by
 obtain⟨e,f,i⟩:=j;unfold iG pN pO;by_cases l:g.1.length<1
 ·rw[if_pos (by omega)];exact⟨λh=>by have:=h.n1;have:=h.len;omega,λ_=>rfl⟩
 rw[if_neg (by omega)];by_cases m:24<g.1.length
 ·rw[if_pos (by omega)];exact⟨λh=>by have:=h.n24;have:=h.len;omega,λ_=>rfl⟩
 rw[if_neg (by omega)];by_cases d:g.1.length=g.2.length
 rotate_left
 ·rw[zAd (by omega)];exact⟨λh=>absurd h.len d,λ_=>rfl⟩
 rw[zA6 (by omega),if_neg (by simp)];by_cases b:∀k,k<g.1.length->TM g.1 k
 rotate_left
 ·rw[(uR g.1 e).2 b,bN Z];exact⟨λh=>absurd (λk n=>⟨(h.node k (by omega)).id,(h.node k (by omega)).ids⟩) b,λ_=>rfl⟩
 rw[(uR g.1 e).1 b,bN Z,if_pos Z];by_cases a:KC g.2
 ·rw[(Gu g.2 f i).1 a];exact⟨λ_=>rfl,λh=>absurd ⟨by omega,by omega,d,λv c=>⟨(b v (by omega)).1,PC c (a.1 v c),a.1 v c,(b v (by omega)).2⟩,a.2⟩ h⟩
 ·rw[(Gu g.2 f i).2 a];exact⟨λh=>absurd ⟨λv c=>(h.node v c).links,h.sym⟩ a,λ_=>rfl⟩
abbrev D (d:bT) (v:Nat):Int:=at' d (v:Int)
def Adj (g:GR) (v u:Nat):Prop:=∃i,i<(row g v).length∧(iP (row g v) i).1=(u:Int)
theorem VG.port {g:GR} (h:VG g) {v i:Nat} (b:v<g.2.length) (a:i<(row g v).length):∃u:Nat,u<g.2.length∧(iP (row g v) i).1=(u:Int)∧Adj g v u:=by
 have c:=((h.node v b).links i a).1;exact⟨(iP (row g v) i).1.toNat,by omega,by omega,i,a,by omega⟩
def Yh (d:bT):Nat:=d.countP λx=>decide (x<0)
structure abA (g:GR) (s:Nat) (d:bT):Prop where
 len:d.length=g.2.length
 lo:∀v,v<g.2.length -> -1<=D d v
 zero:∀v,v<g.2.length->(D d v=0↔v=s)
 near:∀v,v<g.2.length->0<D d v->∃u,u<g.2.length∧Adj g v u∧D d u=D d v - 1
 hi:∀v,v<g.2.length->D d v+(Yh d:Int)<=(g.2.length:Int)
structure Qu (g:GR) (q d:bT) (b:Int) (done:Nat->Prop):Prop where
 mem:∀y∈q,∃v,v<g.2.length∧y=((v:Nat):Int)∧0<=D d v
 top:∀v,v<g.2.length->D d v<=b
 sort:q.Pairwise λa c=>at' d a<=at' d c
 done:∀v,v<g.2.length->0<=D d v->((v:Nat):Int)∉q->done v->∀u,u<g.2.length->Adj g v u->0<=D d u∧D d u<=D d v+1
theorem Kv {d:bT} {v:Nat} (h:v<d.length):D d v=d[v]:=by
 rw[D,kX,zA8,zA2 h];rfl
theorem UL {d:bT} {u:Nat} {x:Int} (a:u<d.length) (b:D d u<0) (e:0<=x):Yh (d.set u x)+1=Yh d:=by
 unfold Yh;rw[List.countP_set a];have c:0<d.countP λx=>decide (x<0):=by
  rw[List.countP_pos_iff];exact⟨d[u],List.getElem_mem a,by rw[<-Kv a];simpa using b⟩
 rw[Kv a]at b;rw[if_pos (by simpa using b),if_neg (by simp;omega)];omega
theorem Zs (d:bT) (h:d.length<=30):OK (λr:Int=> -1<=r∧(∀v,v<d.length->D d v<=r)∧(r = -1∨∃v,v<d.length∧D d v=r)) (BY 1000 d):=by
 unfold BY;refine Ge (λz:fY=>∃k:Nat,z.2=k∧k<=d.length ∧ -1<=z.1∧(∀v,v<k->D d v<=z.1)∧(z.1 = -1∨∃v,v<k∧D d v=z.1)) (λz=>31 - z.2.toNat) ?_ 1000 _ ⟨0,rfl,by omega,by omega,λv b=>by omega,.inl Z⟩ (by simp);rintro⟨m,z⟩ n ⟨k,j,o,g,c,a⟩ e;dsimp only at j g c a;subst j;unfold Bl Bj;dsimp only;by_cases l:k<d.length
 ·rw[if_pos (by omega),dD (by omega),wr (by omega) (by omega)];refine e _ ⟨k+1,by simp,by omega,by dsimp only;omega,λv b=> ?_,?_⟩ (by dsimp only;omega)
  ·by_cases f:v=k
   ·subst f;show D d v<=max m (D d v);omega
   ·have:=c v (by omega);show D d v<=max m (D d k);omega
  ·by_cases p:m<=D d k
   ·exact .inr ⟨k,by omega,by show D d k=max m (D d k);omega⟩
   ·rcases a with a|⟨v,b,i⟩
    ·left;show max m (D d k) = -1;omega
    ·exact .inr ⟨v,by omega,by show D d v=max m (D d k);omega⟩
 ·rw[if_neg (by omega)];refine⟨m,rfl,g,λv b=>c v (by omega),?_⟩
  rcases a with a|⟨v,b,i⟩
  ·exact .inl a
  ·exact .inr ⟨v,by omega,i⟩
theorem Lb (g:GR) (v:Nat) (u:Int) (m:v<g.2.length) (l:(row g v).length<=30):iY 1000 g v u=some (yD (row g v) u):=by
 unfold iY;rw[dD (by omega)];rcases wZ (row g v) u with⟨i,j,h,c,b⟩|⟨c,b⟩
 ·rw[b];refine Gc (λx:Int=>∃k:Nat,x=k∧k<=i) (λx=>31 - x.toNat) ?_ 1000 _ ⟨0,rfl,by omega⟩ (by omega);rintro x d ⟨k,rfl,f⟩ a;unfold uV;rw[if_pos (show(k:Int)<((row g v).length:Int) by omega),dD (show 0<=(k:Int)∧(k:Int)<((row g v).length:Int) by omega)];by_cases e:k=i
  ·subst e;exact if_pos h
  ·rw[if_neg (c k (by omega)),wr (by omega) (by omega)];exact a _ ⟨k+1,by omega,by omega⟩ (by omega)
 ·rw[b];refine Gc (λx:Int=>∃k:Nat,x=k∧k<=(row g v).length) (λx=>31 - x.toNat) ?_ 1000 _ ⟨0,rfl,by omega⟩ (by omega);rintro x d ⟨k,rfl,f⟩ a;unfold uV;by_cases e:k<(row g v).length
  ·rw[if_pos (show(k:Int)<((row g v).length:Int) by omega),dD (show 0<=(k:Int)∧(k:Int)<((row g v).length:Int) by omega),if_neg (c k e),wr (by omega) (by omega)];exact a _ ⟨k+1,by omega,by omega⟩ (by omega)
  ·rw[if_neg (show¬(k:Int)<((row g v).length:Int) by omega)];rfl
section
def aee (f:Nat->Nat):Nat->Nat
 |0=>0
 |k+1=>aee f k+f k
open Classical in
noncomputable def ind (p:Prop):Nat:=if p then 1 else 0
end
theorem Sm (a:Nat) (h:a<4294967296):IntKind.u32.wrap (a:Int)=a:=by rw[<-Lt];exact if_pos ⟨by omega,by omega⟩
def Xb (x:Int):Nat:=(BitVec.ofInt 32 x).toNat
theorem OY (x:Int):Xb x<4294967296:=(BitVec.ofInt 32 x).isLt
theorem Er {a:Nat} (h:a<4294967296):Xb (a:Int)=a:=by
 unfold Xb;rw[BitVec.ofInt_natCast,BitVec.toNat_ofNat];exact Nat.mod_eq_of_lt h
theorem XB (x y:Int):SD .u32 x y=((Xb x &&& Xb y:Nat):Int):=by
 show IntKind.u32.wrap (((BitVec.ofInt 32 x &&& BitVec.ofInt 32 y).toNat:Nat):Int)=_;rw[BitVec.toNat_and];exact Sm _ (Nat.lt_of_le_of_lt Nat.and_le_left (OY x))
theorem aae (x y:Int):Up .u32 x y=((Xb x ||| Xb y:Nat):Int):=by
 show IntKind.u32.wrap (((BitVec.ofInt 32 x ||| BitVec.ofInt 32 y).toNat:Nat):Int)=_;rw[BitVec.toNat_or];exact Sm _ (Nat.or_lt_two_pow (n:=32) (OY x) (OY y))
theorem Zz {k:Nat} (a:k<32):2^k<4294967296:=Nat.pow_lt_pow_right (n:=32) (by omega) a
theorem abK {k:Nat} (a:k<32):Kj .u32 1 (k:Int)=((2^k:Nat):Int):=by
 show IntKind.u32.wrap (1*2^(min ((k:Int).toNat) 32))=_;rw[zAf,Nat.min_eq_left (by omega),Int.one_mul,show(2:Int)^k=((2^k:Nat):Int) by simp];exact Sm _ (Zz a)
theorem XC {a k:Nat} (b:k<32):Uq .u32 (a:Int) (k:Int)=((a / 2^k:Nat):Int):=by
 show Int.fdiv (a:Int) (2^(min ((k:Int).toNat) 32))=_;rw[zAf,Nat.min_eq_left (by omega),show(2:Int)^k=((2^k:Nat):Int) by simp,Int.fdiv_eq_ediv_of_nonneg _ (Int.natCast_nonneg _)];simp
theorem Vo {a k:Nat} (d:k<32) (c:a<4294967296):SD .u32 (Uq .u32 (a:Int) (k:Int)) 1=1↔a.testBit k=true:=by
 have b:Xb 1=1:=Er (a:=1) (by omega);rw[XC d,XB,Er (Nat.lt_of_le_of_lt (Nat.div_le_self _ _) c),b,Nat.and_one_is_mod,Nat.testBit_eq_decide_div_mod_eq,zA7];omega
def IR (g:GR) (s:Nat):Prop:=(∀v,s.testBit v=true->v<g.2.length)∧∀v u,s.testBit v=true->s.testBit u=true->¬Adj g v u
def T (e:bT) (k v w:Nat):Int:=if 0<=D e w∧(D e w<k∨(D e w=k∧w<v))then D e w else -1
theorem Vv {X R:Type} {step:X->(X->Option R)->Option R} {K:X->Option R} {bad:R} (N:Nat) (p:Nat->Prop) (I:Nat->X->Prop) (B:Nat)
  (t:∀(k:Nat) x q,k<N->k<B->I k x->p k->∃c,I (k+1) c∧step x q=q c) (l:∀(k:Nat) x q,k<N->k<B->I k x->¬p k->step x q=some bad) (s:∀x q,I N x->N<B->step x q=K x):
  ∀(b:Nat) (x:X),I 0 x->B<=b->(N<B∨∃k,k<N∧k<B∧¬p k)->((∀k,k<N->p k)->∃c,I N c∧bP step b x=K c)∧(¬(∀k,k<N->p k)->bP step b x=some bad):=by
 intro b x e v hB;have r:∀(d a b:Nat) (x:X),I a x->a+d<N->a+d<B->¬p (a+d)->d<b->bP step b x=some bad:=by
  intro d
  induction d with
  |zero=>
   intro a b x e j g i v;obtain⟨f,rfl⟩:∃f,b=f+1:=⟨b - 1,by omega⟩
   exact l a x _ j g e i
  | succ d y =>
   intro a b x e j g i v;obtain⟨f,rfl⟩:∃f,b=f+1:=⟨b - 1,by omega⟩
   by_cases u:p a
   ·obtain⟨c,n,o⟩:=t a x (bP step f) (by omega) (by omega) e u;have o:bP step (f+1) x=bP step f c:=o;rw[o];exact y (a+1) f c n (by omega) (by omega) (by rw[show a+1+d=a+(d+1) by omega];exact i) (by omega)
   ·exact l a x _ (by omega) (by omega) e u
 have m:∀(d a b:Nat) (x:X),I a x->a+d=N->N<B->(∀k,a<=k->k<N->p k)->d<b->∃c,I N c∧bP step b x=K c:=by
  intro d
  induction d with
  |zero=>
   intro a b x e j g i v;obtain⟨f,rfl⟩:∃f,b=f+1:=⟨b - 1,by omega⟩
   obtain rfl:a=N:=by omega
   exact⟨x,e,s x _ e g⟩
  |succ d y=>
   intro a b x e j g i v;obtain⟨f,rfl⟩:∃f,b=f+1:=⟨b - 1,by omega⟩
   obtain⟨c,n,o⟩:=t a x (bP step f) (by omega) (by omega) e (i a (zAe _) (by omega));have o:bP step (f+1) x=bP step f c:=o;rw[o];exact y (a+1) f c n (by omega) g (λk j g=>i k (by omega) g) (by omega)
 constructor
 ·intro h;rcases hB with hB|⟨k,j,_,g⟩
  ·exact m N 0 b x e (by omega) hB (λk _ w=>h k w) (by omega)
  ·exact absurd (h k j) g
 ·intro h;have:∃k,k<N∧k<B∧¬p k:=by
   rcases hB with hB|hB
   ·apply Classical.byContradiction;intro A;exact h λk w=>Classical.byContradiction λi=>A ⟨k,w,by omega,i⟩
   ·exact hB
  obtain⟨k,j,g,z⟩:=this;exact r k 0 b x e (by omega) (by omega) (by rw[Nat.zero_add];exact z) (by omega)
theorem To {a:gA} (q:a.length<=30) {v:Nat} (r:v<a.length):(at' a (v:Int)).length<1000∨∃k,k<(at' a (v:Int)).length∧k<1000∧¬GZ (at' a (v:Int)) v a.length k:=by
 by_cases h:(at' a (v:Int)).length<1000
 ·exact .inl h
 ·right;apply Classical.byContradiction;intro f;have b:∀k,k<40->GZ (at' a (v:Int)) v a.length k:=λk p=>Classical.byContradiction λl=>f ⟨k,by omega,by omega,l⟩;have:=Mv a.length (λi=>(iP (at' a (v:Int)) i).1.toNat) 40 (λi g=>by have:=(b i g).1;omega) (λi j c d o=>by
   have m:=(b i (by omega)).1;have n:=(b j d).1;have e:=(b j d).2.2.2 i c;exact e (by omega))
  omega
theorem EW (c:gA) (hn:c.length<=30):(KC c->gT 1000 c=some true)∧(¬KC c->gT 1000 c=some false):=by
 unfold gT;have s:∀(v:Nat) (m:List ((Int×Int)×Int)) p,v<c.length->(∀z,z∈m↔Nk c v 0 z)->
   (qK (at' c (v:Int)) v c.length->∃Y,(∀z,z∈Y↔Nk c (v+1) 0 z)∧bP (cT c ((v:Int),m) p) 1000 ((0:Int),m)=p ((v:Int)+1,Y))∧
   (¬qK (at' c (v:Int)) v c.length->bP (cT c ((v:Int),m) p) 1000 ((0:Int),m)=some false):=by
  intro v m p F hm;have L:=To hn F;have S:=Vv (step:=cT c ((v:Int),m) p) (K:=λx=>p ((v:Int)+1,x.2)) (bad:=false) (at' c (v:Int)).length (GZ (at' c (v:Int)) v c.length) (λi x=>x.1=(i:Int)∧∀z,z∈x.2↔Nk c v i z) 1000 ?_ ?_ ?_ 1000 ((0:Int),m) ⟨rfl,hm⟩ (by omega) L
  ·refine⟨λh=> ?_,λh=>S.2 h⟩
   obtain⟨x,⟨ah,ae⟩,f⟩:=S.1 h;refine⟨x.2,λz=>(ae z).trans ⟨?_,?_⟩,f⟩
   ·rintro⟨a,b,y,e,l⟩;exact⟨a,b,by omega,e,l⟩
   ·rintro⟨a,b,y,e,l⟩;refine⟨a,b,?_,e,l⟩
    by_cases X:a=v
    ·subst X;exact .inr ⟨rfl,e⟩
    ·omega
  ·rintro i ⟨H,g⟩ I N ac ⟨f,d⟩ ⟨p1,p2,p3,p4⟩;dsimp only at f d;subst f;have q:mJ (((v:Int),(iP (at' c (v:Int)) i).1)) g=none:=by
    apply Hr;intro w hw;obtain⟨a,b,y,e,l⟩:=(d _).1 hw;simp only[Prod.mk.injEq]at l;obtain⟨⟨C,A⟩,_⟩:=l;have:a=v:=by omega
    subst this;have hb:b<i:=by omega
    exact p4 b hb A.symm
   refine⟨((i:Int)+1,CG (((v:Int),(iP (at' c (v:Int)) i).1)) (iP (at' c (v:Int)) i).2 g),⟨by simp,λz=> ?_⟩,?_⟩
   ·dsimp only;rw[NO q,d];constructor
    ·rintro(rfl|⟨a,b,y,e,l⟩)
     ·exact⟨v,i,.inr ⟨rfl,by omega⟩,N,rfl⟩
     ·exact⟨a,b,by omega,e,l⟩
    ·rintro⟨a,b,y,e,l⟩;by_cases J:a=v∧b=i
     ·left;rw[l,J.1,J.2]
     ·right;exact⟨a,b,by omega,e,l⟩
   ·replace p1:0<=(at' (at' c (v:Int)) (i:Int)).1∧(at' (at' c (v:Int)) (i:Int)).1<=(c.length:Int) - 1:=p1;replace p3:1<=(at' (at' c (v:Int)) (i:Int)).2∧(at' (at' c (v:Int)) (i:Int)).2<=15:=p3;unfold cT h_ jF;dsimp only;rw[if_pos (by omega),dD (by omega),if_neg (by omega),if_neg (by omega),if_neg (by rw[zA6 p2];simp),if_neg (by omega),if_neg (by rw[zA6 (by omega)];simp),q,if_neg (by simp),wr (by omega) (by omega)]
  ·rintro i ⟨H,g⟩ I N ac ⟨f,d⟩ Q;dsimp only at f d;subst f;unfold cT h_ jF;dsimp only;rw[if_pos (by omega),dD (by omega)];by_cases y:(iP (at' c (v:Int)) i).1<0
   ·rw[if_pos y,if_pos Z]
   rw[if_neg y];by_cases e:(c.length:Int)<=(iP (at' c (v:Int)) i).1
   ·rw[if_pos e,if_pos Z]
   rw[if_neg e];by_cases l:(iP (at' c (v:Int)) i).1=v
   ·rw[if_pos (zAd l)]
   rw[if_neg (by rw[zA6 l];simp)];by_cases C:(iP (at' c (v:Int)) i).2<1
   ·rw[if_pos C,if_pos Z]
   rw[if_neg C];by_cases A:15<(iP (at' c (v:Int)) i).2
   ·rw[if_pos (zAd A)]
   rw[if_neg (by rw[zA6 A];simp)];have:∃k,k<i∧(iP (at' c (v:Int)) k).1=(iP (at' c (v:Int)) i).1:=by
    apply Classical.byContradiction;intro hc;exact Q ⟨by omega,l,by omega,λk O M=>hc ⟨k,O,M⟩⟩
   obtain⟨k,O,M⟩:=this;have n:=(d _).2 ⟨v,k,.inr ⟨rfl,O⟩,by omega,rfl⟩;rw[if_pos];rw[<-M];cases q:mJ (((v:Int),(iP (at' c (v:Int)) k).1)) g with
   |some w=>rfl
   | none => exact absurd n (by
     intro n;exact uL q n)
  ·rintro⟨H,g⟩ I ⟨f,d⟩ _;dsimp only at f d;subst f;unfold cT mU;dsimp only;rw[if_neg (by omega),wr (by omega) (by omega)]
 have t:=Gd (step:=dU 1000 c) (K:=λx=>jE x.2) (bad:=false) c.length (λv=>qK (at' c (v:Int)) v c.length) (λv x=>x.1=(v:Int)∧∀z,z∈x.2↔Nk c v 0 z) ?_ ?_ ?_ 1000 ((0:Int),[]) ⟨rfl,λz=>⟨λh=>(by cases h),fun⟨a,b,y,_⟩=>(by omega)⟩⟩ (by omega)
 rotate_left
 ·rintro v ⟨H,g⟩ p F ⟨f,d⟩ Q;dsimp only at f d;subst f;obtain⟨Y,y,e⟩:=(s v g p F d).1 Q;refine⟨((v:Int)+1,Y),⟨by simp,y⟩,?_⟩
  ·unfold dU;dsimp only;rw[if_pos (by omega),dD (by omega)];exact e
 ·rintro v ⟨H,g⟩ p F ⟨f,d⟩ Q;dsimp only at f d;subst f;unfold dU;dsimp only;rw[if_pos (by omega),dD (by omega)];exact(s v g p F d).2 Q
 ·rintro⟨H,g⟩ p ⟨f,d⟩;dsimp only at f d;subst f;unfold dU;dsimp only;rw[if_neg (by omega)]
 by_cases D:∀v,v<c.length->qK (at' c (v:Int)) v c.length
 rotate_left
 ·exact⟨λh=>absurd h.1 D,λ_=>t.2 D⟩
 obtain⟨⟨H,g⟩,⟨f,d⟩,M⟩:=t.1 D;rw[M];dsimp only at d ⊢;have O:jE g=some (decide (∀z∈g,¬(Option.getD (mJ (z.1.2,z.1.1) g) (0:Int))≠z.2)):=JH (λz:(Int×Int)×Int=>(Option.getD (mJ (z.1.2,z.1.1) g) (0:Int))≠z.2) g;rw[O];have E:(∀z∈g,¬(Option.getD (mJ (z.1.2,z.1.1) g) (0:Int))≠z.2)↔∀v,v<c.length->∀i,i<(at' c (v:Int)).length->CX ([],c) v i:=by
  constructor
  ·intro h v F i N;have hw:=(D v F i N).2.2.1;have n:=(d (((v:Int),(iP (at' c (v:Int)) i).1),(iP (at' c (v:Int)) i).2)).2 ⟨v,i,.inl F,N,rfl⟩;have e:=zB8.1 (h _ n);dsimp only at e;cases q:mJ ((iP (at' c (v:Int)) i).1,(v:Int)) g with
   |none=>rw[q]at e;simp only[Option.getD]at e;omega
   | some w =>
    rw[q]at e;simp only[Option.getD]at e;obtain⟨a,b,l,C,A⟩:=(d _).1 (Ca q);simp only[Prod.mk.injEq]at A;obtain⟨⟨U,V⟩,h8⟩:=A;refine⟨b,?_,?_,?_⟩
    ·show b<(at' c (iP (at' c (v:Int)) i).1).length;rw[U];exact C
    ·show(iP (at' c (iP (at' c (v:Int)) i).1) b).1=v;rw[U];exact V.symm
    ·show(iP (at' c (iP (at' c (v:Int)) i).1) b).2=(iP (at' c (v:Int)) i).2;rw[U,<-h8];exact e
  ·intro h z hz ad;obtain⟨a,b,l,C,rfl⟩:=(d z).1 hz;have X:a<c.length:=by omega
   apply ad;obtain⟨j,r,o,B⟩:=h a X b C;have hu:=(D a X b C).1;obtain⟨u,R⟩:∃u:Nat,(iP (at' c (a:Int)) b).1=u:=⟨(iP (at' c (a:Int)) b).1.toNat,by omega⟩
   replace r:j<(at' c (iP (at' c (a:Int)) b).1).length:=r;replace o:(iP (at' c (iP (at' c (a:Int)) b).1) j).1=a:=o;replace B:(iP (at' c (iP (at' c (a:Int)) b).1) j).2=(iP (at' c (a:Int)) b).2:=B;rw[R]at r o B;have G:u<c.length:=by omega
   dsimp only;rw[R,<-B];have n:=(d (((u:Int),(iP (at' c (u:Int)) j).1),(iP (at' c (u:Int)) j).2)).2 ⟨u,j,.inl G,r,rfl⟩;rw[o]at n;cases q:mJ ((u:Int),(a:Int)) g with
   |none=>exact absurd n (uL q)
   | some w =>
    obtain⟨a',T,af,aa,A⟩:=(d _).1 (Ca q);simp only[Prod.mk.injEq]at A;obtain⟨⟨U,V⟩,h8⟩:=A;have:a'=u:=by omega
    subst this;have ab:T=j:=by
     rcases Nat.lt_trichotomy T j with P|P|P
     ·exact absurd (V.symm.trans o.symm) ((D a' G j r).2.2.2 T P)
     ·exact P
     ·exact absurd (o.trans V) ((D a' G T aa).2.2.2 j P)
    subst ab;exact h8
 by_cases W:∀v,v<c.length->∀i,i<(at' c (v:Int)).length->CX ([],c) v i
 ·rw[zAd (E.2 W)];exact⟨λ_=>rfl,λh=>absurd ⟨D,W⟩ h⟩
 ·rw[zA6 (λh=>W (E.1 h))];exact⟨λh=>absurd h.2 W,λ_=>rfl⟩
theorem Ls (g:GR):(VG g->iG 1000 g=some true)∧(¬VG g->iG 1000 g=some false):=by
 unfold iG pN pO;by_cases e:g.1.length<1
 ·rw[if_pos (by omega)];exact⟨λh=>by have:=h.n1;have:=h.len;omega,λ_=>rfl⟩
 rw[if_neg (by omega)];by_cases f:24<g.1.length
 ·rw[if_pos (by omega)];exact⟨λh=>by have:=h.n24;have:=h.len;omega,λ_=>rfl⟩
 rw[if_neg (by omega)];by_cases d:g.1.length=g.2.length
 rotate_left
 ·rw[zAd (by omega)];exact⟨λh=>absurd h.len d,λ_=>rfl⟩
 rw[zA6 (by omega),if_neg (by simp)];by_cases b:∀k,k<g.1.length->TM g.1 k
 rotate_left
 ·rw[(uR g.1 (by omega)).2 b,bN Z];exact⟨λh=>absurd (λk i=>⟨(h.node k (by omega)).id,(h.node k (by omega)).ids⟩) b,λ_=>rfl⟩
 rw[(uR g.1 (by omega)).1 b,bN Z,if_pos Z];by_cases a:KC g.2
 ·rw[(EW g.2 (by omega)).1 a];exact⟨λ_=>rfl,λh=>absurd ⟨by omega,by omega,d,λv c=>⟨(b v (by omega)).1,PC c (a.1 v c),a.1 v c,(b v (by omega)).2⟩,a.2⟩ h⟩
 ·rw[(EW g.2 (by omega)).2 a];exact⟨λh=>absurd ⟨λv c=>(h.node v c).links,h.sym⟩ a,λ_=>rfl⟩
abbrev OZ:=wB
theorem wD (v m:Int) (g:1<=m) (h:m<=4611686018427387904):iD 1000 v m=some (v%m):=by
 unfold iD rH;rw[if_neg (by omega),dD (by omega)];have c:=Int.tmod_eq_emod (a:=v) (b:=m);have f:=Int.emod_nonneg v (show m≠0 by omega);have i:=Int.emod_lt_of_pos v (show 0<m by omega);by_cases e:0<=v∨m∣v
 ·rw[if_pos e]at c;have d:v.tmod m=v%m:=by simpa using c
  rw[d,if_neg (by omega)]
 ·rw[if_neg e]at c;have:(m.natAbs:Int)=m:=by omega
  rw[c,if_pos (by omega),wr (by omega) (by omega)];congr 1;omega
theorem Nv (l:bT) (i:Int) (h:0<=i):sJ 1000 l i=some (at' l i):=by
 unfold sJ;by_cases a:i<(l.length:Int)
 ·rw[if_pos a,dD ⟨h,a⟩]
 ·rw[if_neg a];unfold at';rw[zA8,zAn (by omega)];rfl
theorem NU {i:Type} [DecidableEq i]:∀(e c:List i),e.Nodup->(∀x∈e,x∈c)->e.length<=c.length
 | [],_,_,_=>Nat.zero_le _
 | a :: t, c, hn, hs => by
  have b:=List.nodup_cons.1 hn;have f:=hs a (zAb ..);have:=NU t (c.erase a) b.2 λx h=>by
   have d:x≠a:=λj=>b.1 (j▸h);exact(List.mem_erase_of_ne d).2 (hs x (zAj _ h))
  rw[List.length_erase_of_mem f]at this;have g:0<c.length:=List.length_pos_of_mem f;simp only[zAk];omega
theorem WH (d:Int) (c:bT) (t:Nat) (k:t<=200) (h:∀s,s<t->(d+(s:Int))%256∈c):t<=c.length:=by
 have:=NU ((List.range t).map λs:Nat=>(d+(s:Int))%256) c (by
  rw[List.nodup_iff_pairwise_ne,List.pairwise_map];refine List.Pairwise.imp_of_mem ?_ List.pairwise_lt_range;intro a b e g f;rw[zAo]at e g;omega) (λx j=>by
  obtain⟨s,i,rfl⟩:=zB7.1 j;exact h s (zAo.1 i))
 simpa using this
structure IQ (ids:bT):Prop where
 rng:∀y∈ids,0<=y∧y<=255
 nd:ids.Nodup
theorem IQ.snoc {c:bT} {y:Int} (h:IQ c) (j:0<=y∧y<=255) (i:y∉c):IQ (c++[y]):=by
 refine⟨λz d=> ?_,?_⟩
 ·rcases zB4.1 d with d|d
  ·exact h.rng z d
  ·rw[List.mem_singleton.1 d];exact j
 ·rw[List.nodup_append];refine⟨h.nd,by simp,?_⟩
  intro a e b f;rw[List.mem_singleton.1 f];exact λg=>i (g▸e)
theorem B_ {a:Type} [Inhabited a] {l:List a} {i:Nat} (h:i<l.length):at' l (i:Int)∈l:=by
 rw[kX,zA8,zA2 h];exact List.getElem_mem h
theorem Hc {a:Type} [Inhabited a] {l:List a} {x:a} (h:x∈l):∃i,i<l.length∧at' l ((i:Nat):Int)=x:=by
 obtain⟨i,b,c⟩:=List.getElem_of_mem h;refine⟨i,b,?_⟩
 rw[kX,zA8,zA2 b];exact c
theorem Vi {Q:List Int×gA->Prop} {a:bT} (H:a.length<=24) (b:Int) (r:Int×bT->Option (List Int×gA))
  (m:∀y,0<=y->y<=255->y∉a->OK Q (r ((a.length:Int)+1,a++[y]))):OK Q (bP (lE ((a.length:Int),a) r) 1000 (b%256,0)):=by
 refine Ge (λs:fY=>∃(t u:Nat),s.1=(b+(t:Int))%256∧s.2=u∧u<=a.length∧t<=a.length∧(∀k,k<t->(b+(k:Int))%256∈a)∧∀j,j<u->at' a (j:Int)≠s.1)
  (λs=>(a.length - ((s.1 - b)%256).toNat)*30+(a.length - s.2.toNat)) ?_ 1000 _ ⟨0,0,by simp,rfl,by omega,by omega,λk p=>by omega,λj o=>by omega⟩ ?_
 ·rintro⟨i,j⟩ z ⟨t,u,g,v,F,C,w,l⟩ d;dsimp only at g v l;subst v;unfold lE sD lD;dsimp only;by_cases x:(u:Int)<(a.length:Int)
  ·rw[if_pos x,dD (by omega)];by_cases f:at' a (u:Int)=i
   ·rw[if_pos f,dD (by decide)];have n:(b+(t:Int))%256∈a:=by rw[<-g,<-f];exact B_ (by omega)
    have c:∀k,k<t+1->(b+(k:Int))%256∈a:=λk p=>by
     rcases Nat.lt_succ_iff_lt_or_eq.1 p with h|h
     ·exact w k h
     ·subst h;exact n
    have E:=WH b a (t+1) (by omega) c;have G:0<=i∧i<=255:=by omega
    rw[wr (by omega) (by omega),Int.tmod_eq_emod_of_nonneg (by omega),wr (by omega) (by omega)];refine d _ ⟨t+1,0,?_,by simp,by omega,E,c,λj o=>by omega⟩ ?_
    ·dsimp only;omega
    ·dsimp only;have A:((i+1)%256 - b)%256=(t:Int)+1:=by omega
     have B:(i - b)%256=(t:Int):=by omega
     rw[A,B];omega
   ·rw[if_neg f,wr (by omega) (by omega)];refine d _ ⟨t,u+1,g,by dsimp only;omega,by omega,C,w,λj o=> ?_⟩ ?_
    ·rcases Nat.lt_succ_iff_lt_or_eq.1 o with h|h
     ·exact l j h
     ·subst h;exact f
    ·dsimp only;omega
  ·rw[if_neg x];rw[dD (by simp;omega),wr (by omega) (by omega)];refine m i (by omega) (by omega) λD=> ?_;obtain⟨k,p,q⟩:=Hc D;exact l k (by omega) q
 ·dsimp only;have e:(b%256 - b)%256=0:=by omega
  rw[e];omega
theorem NT (x:OZ) (a:Nat) (u:1<=a) (k:a<=24):OK (λg:GR=>IQ g.1∧g.2=List.replicate g.1.length []∧1<=g.1.length∧g.1.length<=a) (lZ 1000 x (a:Int)):=by
 unfold lZ;rw[bN (wD _ _ (by omega) (by omega))];generalize f:(wI .i64 (x.1 - 1))%(a:Int)=r;have m:0<=r:=by rw[<-f];exact Int.emod_nonneg _ (by omega)
 have n:r<a:=by rw[<-f];exact Int.emod_lt_of_pos _ (by omega)
 have i:wI .i64 (1+r)=1+r:=wr (by omega) (by omega);rw[i,dD (by omega)];refine Ge (λs:Int×bT=>s.1=(s.2.length:Int)∧(s.2.length:Int)<=1+r∧IQ s.2) (λs=>(1+r - s.1).toNat) ?_ 1000 _ ⟨rfl,by simp;omega,⟨λy o=>by simp at o,List.nodup_nil⟩⟩ (by dsimp only;omega);rintro⟨v,d⟩ j ⟨e,l,c⟩ b;dsimp only at e l c;subst e;unfold jK oD;dsimp only;rw[i];by_cases h:(d.length:Int)<1+r
 ·rw[if_pos h,bN (Nv _ _ (by omega)),bN (wD _ _ (by decide) (by decide))];exact Vi (by omega) _ j λy p q t=>b _ ⟨by simp,by simp;omega,c.snoc ⟨p,q⟩ t⟩ (by dsimp only;omega)
 ·rw[if_neg h];refine⟨_,rfl,c,?_,by dsimp only;omega,by dsimp only;omega⟩
  dsimp only;congr 1;omega
structure VM (ids:bT) (P:gA):Prop where
 n1:1<=P.length
 n24:P.length<=24
 len:ids.length=P.length
 ok:IQ ids
 nd:∀v:Nat,v<P.length->((at' P (v:Int)).map Prod.fst).Nodup
 lk:∀v:Nat,v<P.length->∀x∈at' P (v:Int),(0<=x.1∧x.1<=(P.length:Int) - 1)∧x.1≠(v:Int)∧(1<=x.2∧x.2<=15)∧((v:Int),x.2)∈at' P x.1
theorem VO {d:Type} [Inhabited d] {l:List d} (h:l.Nodup) {i j:Nat} (b:i<l.length) (c:j<l.length) (a:i<j):at' l (i:Int)≠at' l (j:Int):=by
 rw[kX,kX,zA8,zA8,zA2 b,zA2 c];exact List.pairwise_iff_getElem.1 (List.nodup_iff_pairwise_ne.1 h) i j b c a
theorem VM.vg {ids:bT} {P:gA} (h:VM ids P):VG (ids,P):=by
 have hlen:=h.len;have links:∀v,v<P.length->qK (row (ids,P) v) v P.length:=by
  intro v hv i hi;have hm:iP (row (ids,P) v) i∈at' P (v:Int):=B_ hi;obtain⟨a1,a2,a3,_⟩:=h.lk v hv _ hm;refine⟨a1,a2,a3,λk hk=> ?_⟩
  have hk2:k<(row (ids,P) v).length:=by omega
  have:=List.pairwise_iff_getElem.1 (List.nodup_iff_pairwise_ne.1 (h.nd v hv)) k i (by simpa using hk2) (by simpa using hi) hk;rw[List.getElem_map,List.getElem_map]at this;have e:∀j (hj:j<(row (ids,P) v).length),iP (row (ids,P) v) j=(at' P (v:Int))[j]'hj:=λj hj=>by
   unfold iP;rw[kX,zA8,zA2 hj];rfl
  rw[e k hk2,e i hi];exact this
 refine⟨h.n1,h.n24,h.len,λv hv=>⟨?_,PC hv (links v hv),links v hv,λk hk=> ?_⟩,λv hv i hi=> ?_⟩
 ·exact h.ok.rng _ (B_ (by dsimp only at hv ⊢;omega))
 ·exact VO h.ok.nd (by dsimp only at hv ⊢;omega) (by dsimp only at hv ⊢;omega) hk
 ·have hm:iP (row (ids,P) v) i∈at' P (v:Int):=B_ hi;obtain⟨_,_,_,a4⟩:=h.lk v hv _ hm;obtain⟨j,hj,he⟩:=Hc a4;exact⟨j,hj,by unfold iP;rw[he],by unfold iP;rw[he]⟩
theorem VM.start {a:bT} (h:IQ a) (d:1<=a.length) (b:a.length<=24):VM a (List.replicate a.length []):=by
 have e:∀v:Nat,at' (List.replicate a.length ([]:fU)) (v:Int)=[]:=λv=>by
  rw[kX,zA8,List.getElem?_replicate];split<;>rfl
 refine⟨by simpa using d,by simpa using b,by simp,h,λv _=>by rw[e];exact List.nodup_nil,λv _ x c=> ?_⟩
 rw[e]at c;cases c
def nO (P:gA) (v u:Nat):Prop:=∃x∈at' P (v:Int),x.1=(u:Int)
theorem KY (d:bT) (P:gA) (a b:Nat) (u:a<P.length) (w:(at' P (a:Int)).length<=900):(nO P a b->m_ 1000 (d,P) a b=some true)∧(¬nO P a b->m_ 1000 (d,P) a b=some false):=by
 have c:∀(r:Bool),(r=true->nO P a b)->(r=false->¬nO P a b)->m_ 1000 (d,P) a b=some r:=by
  intro r q p;unfold m_;refine Gc (λi:Int=>∃k:Nat,i=k∧k<=(at' P (a:Int)).length∧∀j,j<k->(at' (at' P (a:Int)) ((j:Nat):Int)).1≠(b:Int)) (λi=>(at' P (a:Int)).length - i.toNat) ?_ 1000 0 ⟨0,rfl,by omega,λj m=>by omega⟩ (by omega);rintro i t ⟨k,rfl,v,f⟩ g;unfold zQ vF;dsimp only;rw[dD (by omega)];by_cases o:(k:Int)<((at' P (a:Int)).length:Int)
  ·rw[if_pos o,dD (by omega),dD (by omega)];by_cases e:(at' (at' P (a:Int)) (k:Int)).1=(b:Int)
   ·rw[if_pos e];cases r with
    |true=>rfl
    |false=>exact absurd ⟨_,B_ (by omega),e⟩ (p Z)
   ·rw[if_neg e,wr (by omega) (by omega)];refine g _ ⟨k+1,by omega,by omega,λj m=> ?_⟩ (by omega);rcases Nat.lt_succ_iff_lt_or_eq.1 m with h|h
    ·exact f j h
    ·subst h;exact e
  ·rw[if_neg o];cases r with
   |false=>rfl
   |true=>
    obtain⟨x,s,e⟩:=q Z;obtain⟨j,m,n⟩:=Hc s;exact absurd (by rw[n];exact e) (f j (by omega))
 exact⟨λh=>c true (λ_=>h) (λl=>by cases l),λh=>c false (λl=>by cases l) (λ_=>h)⟩
theorem Xz (P:gA) (a b:Nat) (x y:fU) (e:a<P.length) (f:b<P.length) (v:Nat):at' ((P.set a x).set b y) (v:Int)=if v=b then y else if v=a then x else at' P (v:Int):=by
 rw[kX,kX,zA8,zA8,List.getElem?_set,List.getElem?_set];by_cases h:v=b
 ·subst h;rw[if_pos Z,if_pos Z,if_pos (by simpa using f)];rfl
 ·rw[if_neg (λd=>h d.symm),if_neg h];by_cases c:v=a
  ·subst c;rw[if_pos Z,if_pos Z,if_pos e];rfl
  ·rw[if_neg (λd=>c d.symm),if_neg c]
theorem VM.add {m:bT} {P:gA} (h:VM m P) {a b:Nat} {w:Int} (J:a<P.length) (A:b<P.length) (p:a≠b) (B:¬nO P a b) (D:1<=w∧w<=15)
  {x y:fU} (E:x.Perm (((b:Int),w)::at' P (a:Int))) (F:y.Perm (((a:Int),w)::at' P (b:Int))):
  VM m ((P.set a x).set b y)∧(∀v u,nO P v u->nO ((P.set a x).set b y) v u)∧nO ((P.set a x).set b y) a b:=by
 have r:¬nO P b a:=by
  rintro⟨z,g,i⟩;obtain⟨_,_,_,l⟩:=h.lk b A z g;rw[i]at l;exact B ⟨_,l,rfl⟩
 have C:=Xz P a b x y J A;have k:((P.set a x).set b y).length=P.length:=by simp
 have d:∀(v:Nat) (z:fY),z∈at' ((P.set a x).set b y) (v:Int)↔z∈at' P (v:Int)∨(v=b∧z=((a:Int),w))∨(v=a∧z=((b:Int),w)):=by
  intro v z;rw[C v];by_cases f:v=b
  ·subst f;rw[if_pos Z,F.mem_iff,zAm];constructor
   ·rintro(c|c)
    ·exact .inr (.inl ⟨rfl,c⟩)
    ·exact .inl c
   ·rintro(c|⟨_,c⟩|⟨e,_⟩)
    ·exact .inr c
    ·exact .inl c
    ·exact absurd e.symm p
  ·rw[if_neg f];by_cases c:v=a
   ·subst c;rw[if_pos Z,E.mem_iff,zAm];constructor
    ·rintro(e|e)
     ·exact .inr (.inr ⟨rfl,e⟩)
     ·exact .inl e
    ·rintro(e|⟨n,_⟩|⟨_,e⟩)
     ·exact .inr e
     ·exact absurd n f
     ·exact .inl e
   ·rw[if_neg c];exact⟨.inl,λe=>e.elim id λn=>n.elim (λo=>absurd o.1 f) λo=>absurd o.1 c⟩
 refine⟨⟨by rw[k];exact h.n1,by rw[k];exact h.n24,by rw[k];exact h.len,h.ok,λv j=> ?_,λv j z g=> ?_⟩,λv u s=> ?_,?_⟩
 ·rw[k]at j;rw[C v];by_cases f:v=b
  ·subst f;rw[if_pos Z,(F.map Prod.fst).nodup_iff,zBa,List.nodup_cons];exact⟨λq=>by obtain⟨z,g,i⟩:=zB7.1 q;exact r ⟨z,g,i⟩,h.nd v j⟩
  ·rw[if_neg f];by_cases c:v=a
   ·subst c;rw[if_pos Z,(E.map Prod.fst).nodup_iff,zBa,List.nodup_cons];exact⟨λq=>by obtain⟨z,g,i⟩:=zB7.1 q;exact B ⟨z,g,i⟩,h.nd v j⟩
   ·rw[if_neg c];exact h.nd v j
 ·rw[k]at j ⊢;rcases(d v z).1 g with f|⟨rfl,rfl⟩|⟨rfl,rfl⟩
  ·obtain⟨G,H,I,t⟩:=h.lk v j z f;refine⟨G,H,I,?_⟩
   obtain⟨u,K⟩:∃u:Nat,z.1=u:=⟨z.1.toNat,by omega⟩
   rw[K]at t ⊢;exact(d u _).2 (.inl t)
  ·exact⟨by dsimp only;omega,by dsimp only;omega,D,(d a _).2 (.inr (.inr ⟨rfl,rfl⟩))⟩
  ·exact⟨by dsimp only;omega,by dsimp only;omega,D,(d b _).2 (.inr (.inl ⟨rfl,rfl⟩))⟩
 ·obtain⟨z,g,i⟩:=s;exact⟨z,(d v z).2 (.inl g),i⟩
 ·exact⟨_,(d a _).2 (.inr (.inr ⟨rfl,rfl⟩)),rfl⟩
theorem Rs (x:OZ) {c:bT} {P:gA} (h:VM c P) {a b:Nat} {w:Int} (g:a<P.length) (m:b<P.length) (o:1<=w∧w<=15):
  ∃f,mW 1000 x (c,P) a b w=some f∧VM c f∧f.length=P.length∧(∀v u,nO P v u->nO f v u)∧(a≠b->nO f a b):=by
 have p:=h.n24;have n:∀v:Nat,v<P.length->(at' P (v:Int)).length<24:=λv s=>by
  have:=(h.vg.node v s).deg;have e:(at' P (v:Int)).length=(row (c,P) v).length:=rfl;dsimp only at this;omega
 have t:=n a g;have z:=n b m;unfold mW;by_cases d:a=b
 ·subst d;rw[if_pos Z];exact⟨P,rfl,h,rfl,λ_ _ h=>h,λr=>absurd Z r⟩
 rw[if_neg (by omega)];by_cases i:nO P a b
 ·rw[bN ((KY c P a b g (by omega)).1 i)];exact⟨P,rfl,h,rfl,λ_ _ h=>h,λ_=>i⟩
 rw[bN ((KY c P a b g (by omega)).2 i)];unfold o_;rw[if_neg (by simp)];dsimp only;cases q:x.2.2.2.2.2 with
 | true =>
  rw[if_pos Z];have e:at' (P.set (Int.toNat (a:Int)) ([((b:Int),w)]++at' P (a:Int))) (b:Int)=at' P (b:Int):=by
   rw[kX,zA8,List.getElem?_set,if_neg (by simpa using d),kX,zA8]
  rw[e];rw[dD (by omega),dD (by simp;omega),dD (by omega),dD (by simp;omega),dD (by simp;omega),dD (by simp;omega)];obtain⟨j,k,l⟩:=h.add g m d i o (List.Perm.refl _) (List.Perm.refl _);exact⟨_,rfl,j,by simp,k,λ_=>l⟩
 |false=>
  rw[if_neg (by simp)];rw[dD (by omega),dD (by omega),dD (by simp;omega),dD (by simp;omega),dD (by simpa using d),dD (by simp;omega),dD (by simp;omega)];obtain⟨j,k,l⟩:=h.add g m d i o (x:=at' P (a:Int)++[((b:Int),w)]) (y:=at' P (b:Int)++[((a:Int),w)]) List.perm_append_comm List.perm_append_comm;exact⟨_,rfl,j,by simp,k,λ_=>l⟩
theorem Lu (v:Int):wI .i64 (1+v%15)=1+v%15∧1<=1+v%15∧1+v%15<=15:=by
 have:=Int.emod_nonneg v (show(15:Int)≠0 by decide);have:=Int.emod_lt_of_pos v (show(0:Int)<15 by decide);exact⟨wr (by omega) (by omega),by omega,by omega⟩
theorem Ze (x:OZ) (c:Nat) (F:1<=c) (m:c<=24):
  OK (λg:GR=>VM g.1 g.2∧g.2.length<=c∧∀v:Nat,1<=v->v<g.2.length->∃u:Nat,u<v∧nO g.2 u v) (jG 1000 x (c:Int)):=by
 unfold jG;obtain⟨⟨d,S⟩,D,h,z,e,q⟩:=NT x c F m;dsimp only at z h e q;rw[bN D];dsimp only;subst z;have r:=VM.start h e (by omega);refine Ge (λs:Int×gA=>∃k:Nat,s.1=k∧1<=k∧k<=d.length∧VM d s.2∧s.2.length=d.length∧∀v:Nat,1<=v->v<k->∃u:Nat,u<v∧nO s.2 u v) (λs=>d.length - s.1.toNat) ?_ 1000 _ ⟨1,rfl,by omega,e,r,by simp,λv l f=>by omega⟩ (by dsimp only;omega);rintro⟨i,P⟩ T ⟨k,B,H,I,p,G,o⟩ j;dsimp only at B p G o;subst B;unfold tY oZ;dsimp only;by_cases A:(k:Int)<(P.length:Int)
 ·rw[if_pos A,wr (by omega) (by omega),bN (Nv _ _ (by omega)),bN (wD _ _ (by omega) (by omega)),bN (Nv _ _ (by omega)),bN (wD _ _ (by decide) (by decide))];obtain⟨N,O,Q⟩:=Lu (at' x.2.2.1 ((k:Int) - 1));rw[N];generalize C:at' x.2.1 ((k:Int) - 1)%(k:Int)=u;have U:0<=u:=by rw[<-C];exact Int.emod_nonneg _ (by omega)
  have V:u<k:=by rw[<-C];exact Int.emod_lt_of_pos _ (by omega)
  obtain⟨u,rfl⟩:∃n:Nat,u=n:=⟨u.toNat,by omega⟩
  obtain⟨R,E,K,W,L,M⟩:=Rs x p (a:=u) (b:=k) (by omega) (by omega) ⟨O,Q⟩;rw[bN E,wr (by omega) (by omega)];refine j _ ⟨k+1,by dsimp only;omega,by omega,by omega,K,by dsimp only;omega,λv l f=> ?_⟩ (by dsimp only;omega);by_cases y:v=k
  ·subst y;exact⟨u,by omega,M (by omega)⟩
  ·obtain⟨J,t,w⟩:=o v l (by omega);exact⟨J,t,L _ _ w⟩
 ·rw[if_neg A];exact⟨_,rfl,p,by dsimp only;omega,λv l f=>o v l (by dsimp only at f;omega)⟩
theorem Rv (x:OZ) {c:bT} {P:gA} (h:VM c P):OK (λg:GR=>VM g.1 g.2∧g.1=c∧g.2.length=P.length∧∀v u,nO P v u->nO g.2 v u) (kS 1000 x (c,P)):=by
 unfold kS;have z:=h.n24;have B:=h.n1;refine Ge (λs:Int×gA=>∃k:Nat,s.1=k∧k<=100∧VM c s.2∧s.2.length=P.length∧∀v u,nO P v u->nO s.2 v u) (λs=>200 - s.1.toNat) ?_ 1000 _ ⟨P.length,rfl,by omega,h,rfl,λ_ _ h=>h⟩ (by dsimp only;omega);rintro⟨i,Q⟩ w ⟨k,p,A,f,o,e⟩ d;dsimp only at p f o e;subst p;have done:∀b:Bool,b=false->OK (λg:GR=>VM g.1 g.2∧g.1=c∧g.2.length=P.length∧∀v u,nO P v u->nO g.2 v u) (lX 1000 x (c,P) ((k:Int),Q) w b):=by
  rintro b rfl;exact⟨_,rfl,f,rfl,o,e⟩
 unfold pA;dsimp only;rw[wr (by omega) (by omega)];by_cases l:(k:Int)+1<(x.2.1.length:Int)
 rotate_left
 ·rw[if_neg l];exact done _ Z
 rw[if_pos l];by_cases m:(k:Int)<60
 rotate_left
 ·exact done _ (zA6 m)
 rw[zAd m];unfold lX;dsimp only;rw[if_pos Z,dD (by omega),bN (wD _ _ (by omega) (by omega)),wr (by omega) (by omega),dD (by omega),bN (wD _ _ (by omega) (by omega)),bN (Nv _ _ (by omega)),bN (wD _ _ (by decide) (by decide))];obtain⟨E,F,G⟩:=Lu (at' x.2.2.1 (k:Int));rw[E];generalize r:at' x.2.1 (k:Int)%(P.length:Int)=u;have K:0<=u:=by rw[<-r];exact Int.emod_nonneg _ (by omega)
 have L:u<P.length:=by rw[<-r];exact Int.emod_lt_of_pos _ (by omega)
 obtain⟨u,rfl⟩:∃n:Nat,u=n:=⟨u.toNat,by omega⟩
 generalize q:at' x.2.1 ((k:Int)+1)%(P.length:Int)=t;have I:0<=t:=by rw[<-q];exact Int.emod_nonneg _ (by omega)
 have J:t<P.length:=by rw[<-q];exact Int.emod_lt_of_pos _ (by omega)
 obtain⟨t,rfl⟩:∃n:Nat,t=n:=⟨t.toNat,by omega⟩
 obtain⟨H,y,C,M,D,N⟩:=Rs x f (a:=u) (b:=t) (by omega) (by omega) ⟨F,G⟩;rw[bN y,wr (by omega) (by omega)];exact d _ ⟨k+2,by dsimp only;omega,by omega,C,by dsimp only;omega,λv u j=>D _ _ (e v u j)⟩ (by dsimp only;omega)
theorem LX (x:OZ) (a:Nat) (m:1<=a) (c:a<=24):
  OK (λg:GR=>VM g.1 g.2∧g.2.length<=a∧∀v:Nat,1<=v->v<g.2.length->∃u:Nat,u<v∧nO g.2 u v) (lS 1000 x (a:Int)):=by
 unfold lS;obtain⟨⟨s,P⟩,k,o,n,i⟩:=Ze x a m c;obtain⟨⟨j,t⟩,l,b,p,d,h⟩:=Rv x o;rw[bN k,bN l];dsimp only at n i b p d h;refine⟨_,rfl,b,by dsimp only;omega,λv r f=> ?_⟩
 obtain⟨u,q,e⟩:=i v r (by dsimp only at f;omega);exact⟨u,q,h _ _ e⟩
theorem aaa (x:OZ) (a:Nat) (k:1<=a) (b:a<=24):OK (λg:GR=>VM g.1 g.2∧g.2.length<=a) (oH 1000 x (a:Int)):=by
 unfold oH;cases m:x.2.2.2.2.1 with
 |false=>
  obtain⟨⟨j,P⟩,h,r,p,_⟩:=LX x a k b;rw[if_pos (by rfl)];rw[<-m]at *
  rw[bN h];exact⟨_,rfl,r,p⟩
 |true=>
  obtain⟨⟨j,P⟩,h,e,l,f,i⟩:=NT x a k b;dsimp only at l e f i;subst l;obtain⟨⟨n,t⟩,o,d,s,c,q⟩:=Rv x (VM.start e f (by omega));dsimp only at d s c q;rw[if_neg (by simp)];rw[<-m]at *
  rw[bN h,bN o];exact⟨_,rfl,d,by simp at c ⊢;omega⟩
end Go.Proofs.YtflciafboapaaaaGreat
namespace Go.Proofs.YtflciafboapaaaaGreat
open Go Go.Sx
abbrev val (c:bM) (v x:Nat):Int:=at' (at' c (v:Int)) (x:Int)
def Zn (g:GR) (b:Int) (v:Nat) (a:Int):Prop:=if b = -1 then -1<=a∧a<=((row g v).length:Int) - 1 else 0<=a∧a<=b
instance (g:GR) (top:Int) (v:Nat) (a:Int):Decidable (Zn g top v a):=by unfold Zn;infer_instance
def iJ (g:GR):Nat->Int
 |0=>0
 |k+1=>max (iJ g k) (at' g.1 (k:Int))
theorem JC {g:GR} (a:VG g):∀k,k<=g.2.length->0<=iJ g k∧iJ g k<=255
 |0,_=>by simp[iJ]
 |k+1,h=>by
  have b:=JC a k (by omega);have c:0<=at' g.1 (k:Int)∧at' g.1 (k:Int)<=255:=(a.node k (by omega)).id;simp only[iJ];omega
abbrev zY:=Eh
def Dt (x:zY):Prop:=(-100000<=x.2.2.2.1∧x.2.2.2.1<=100000)∧(0<=x.2.2.2.2.1∧x.2.2.2.2.1<=100000)∧(0<=x.2.2.2.2.2∧x.2.2.2.2.2<=100000)
def lo (g:GR) (x:zY) (v:Nat):Int:=if x.2.1=2 then 0 else if x.2.1=3 then -1 else x.2.2.1
def hi (g:GR) (x:zY) (v:Nat):Int:=if x.2.1=2 then 1 else if x.2.1=3 then((row g v).length:Int) - 1 else x.2.2.2.1+x.2.2.2.2.1*(g.2.length:Int)+x.2.2.2.2.2*iJ g g.1.length
structure Xc (g:GR) (c:bM) (vars:List zY):Prop where
 len:c.length=g.2.length
 row:∀v,v<g.2.length->(at' c (v:Int)).length=vars.length
 ok:∀v,v<g.2.length->∀x,x<vars.length->lo g (at' vars (x:Int)) v<=val c v x∧val c v x<=hi g (at' vars (x:Int)) v
def ND (a b:Nat):Nat:=(BitVec.ofInt 32 (a:Int) &&& ~~~ BitVec.ofInt 32 (b:Int)).toNat
theorem UU (a b:Nat):ND a b<4294967296:=(BitVec.ofInt 32 (a:Int) &&& ~~~ BitVec.ofInt 32 (b:Int)).isLt
theorem aaf {a i:Nat} (b:a<4294967296) (h:a.testBit i=true):i<32:=by
 apply Classical.byContradiction;intro c;rw[Nat.testBit_lt_two_pow (zAv b (Nat.pow_le_pow_right (n:=2) (by omega) (show 32<=i by omega)))]at h;cases h
theorem SS {a b:Nat} (d:a<4294967296) (e:b<4294967296) (i:Nat):(ND a b).testBit i=(a.testBit i && !b.testBit i):=by
 have:=BitVec.getLsbD_and (x:=BitVec.ofInt 32 (a:Int)) (y:= ~~~ BitVec.ofInt 32 (b:Int)) (i:=i);rw[BitVec.getLsbD_not]at this;have h:(ND a b).testBit i=((Xb (a:Int)).testBit i&&(decide (i<32) && !(Xb (b:Int)).testBit i)):=this;rw[Er d,Er e]at h;rw[h];cases c:a.testBit i with
 |false=>simp
 |true=>simp[aaf d c]
theorem Uo (a b:Nat):FQ .u32 (a:Int) (b:Int)=(ND a b:Int):=Sm _ (UU a b)
theorem adN {a b:Nat} (c:a<4294967296) (d:b<4294967296):Up .u32 (a:Int) (b:Int)=((a ||| b:Nat):Int):=by rw[aae,Er c,Er d]
theorem Pq {a k:Nat} (c:a<4294967296) (b:k<32):Up .u32 (a:Int) (Kj .u32 1 (k:Int))=((a ||| 2^k:Nat):Int):=by rw[abK b,adN c (Zz b)]
theorem IC (p:Nat->Bool) {k:Nat} (a:k<=32):nN p k<4294967296:=zAv (NN p k) (Nat.pow_le_pow_right (n:=2) (by omega) a)
theorem YG {a b:Nat} (h:∀i,a.testBit i=b.testBit i):a=b:=Nat.eq_of_testBit_eq h
theorem VG.to {g:GR} (c:VG g) {v i:Nat} (e:v<g.2.length) (d:i<(row g v).length):∃u:Nat,u<g.2.length∧(iP (row g v) i).1=(u:Int):=by
 obtain⟨u,a,b,_⟩:=c.port e d;exact⟨u,a,b⟩
def wG:List zY:=[(ByteArray.mk #[99],1,0,0,1,0)]
theorem RO:∀x,x<wG.length->Dt (at' wG (x:Int)):=by
 intro x a;obtain rfl:x=0:=by simp[wG]at a;exact a
 exact⟨by decide,by decide,by decide⟩
def d0 (g:GR) (c:bM) (d v:Nat):Int:=if d.testBit v=true then at' (at' c (v:Int)) 0 else if v=0 then 0 else(g.2.length:Int)
def start (g:GR) (c:bM) (d:Nat):bT:=(List.range g.2.length).map (d0 g c d)
theorem RP {a:Type} [Inhabited a] (l:List a) (x:a) {i:Nat} (b:i<l.length+1):at' (l++[x]) (i:Int)=if i<l.length then at' l (i:Int)else x:=by
 rw[kX,kX];by_cases h:i<l.length
 ·rw[if_pos h,zA8,zA8,zAa h]
 ·have:i=l.length:=by omega
  subst this;rw[if_neg h];simp
def Ua (g:GR) (a:List zY) (v:Nat) (l:bT):Prop:=∀x,x<l.length->lo g (at' a (x:Int)) v<=at' l (x:Int)∧at' l (x:Int)<=hi g (at' a (x:Int)) v
theorem SP {g:GR} (G:VG g) (d:List zY) (f:bT) (ht:d.length<=900) (U:∀x,x<d.length->Dt (at' d (x:Int)) ∧ -100000<=(at' d (x:Int)).2.2.1∧(at' d (x:Int)).2.2.1<=(at' d (x:Int)).2.2.2.1):
  OK (λc=>Xc g c d) (lL 1000 g d f):=by
 have Q:=G.n24;have C:=G.len;have P:lL 1000 g d f=rE 1000 g d f (iJ g g.2.length):=by
  unfold lL;refine dY (F:=λk:Nat=>((iJ g k,(k:Int)):fY)) g.2.length (λk B hk=> ?_) (λB=> ?_) 1000 (by omega)
  ·unfold vE;simp only;rw[if_pos (by omega),dD (by omega),wr (by omega) (by omega)];rfl
  ·unfold vE;simp only;rw[if_neg (by omega)]
 rw[P];obtain⟨M,X⟩:=JC G g.2.length (by omega);unfold rE;have J:=NH (step:=kF 1000 g d f (iJ g g.2.length)) (K:=λx=>some x.1) g.2.length (λv x=>x.2=(v:Int)∧x.1.length=v∧∀w,w<v->(at' x.1 (w:Int)).length=d.length∧Ua g d w (at' x.1 (w:Int))) (λv x B t q=> ?_) (λx B q=> ?_) 1000 (([]:bM),(0:Int)) ⟨rfl,rfl,λw V=>by omega⟩ (by omega)
 ·obtain⟨⟨c,i⟩,⟨_,s,p⟩,I⟩:=J;exact⟨c,I,s,λv t=>(p v t).1,λv t x D=>(p v t).2 x (by rw[(p v t).1];exact D)⟩
 ·obtain⟨c,i⟩:=x;obtain⟨rfl,s,p⟩:=q;simp only at s p;have L:(at' g.2 (v:Int)).length<g.2.length:=(G.node v t).deg;unfold kF;simp only;rw[if_pos (by omega)];have E:=NH (step:=nZ 1000 g d f (iJ g g.2.length) (c,(v:Int)) B) (K:=λy=>B (c++[y.1],(v:Int)+1)) d.length (λx y=>y.2=(x:Int)∧y.1.length=x∧Ua g d v y.1) (λx y n D q=> ?_) (λy n q=> ?_) 1000 (([]:bT),(0:Int)) ⟨rfl,rfl,λx D=>by simp at D⟩ (by omega)
  ·obtain⟨⟨l,j⟩,⟨_,h,u⟩,I⟩:=E;refine⟨(c++[l],(v:Int)+1),⟨by simp,by simp[s],λw V=> ?_⟩,I⟩
   simp only;rw[RP c l (by omega),s];by_cases e:w<v
   ·rw[if_pos e];exact p w e
   ·rw[if_neg e];have:w=v:=by omega
    subst this;exact⟨h,u⟩
  ·obtain⟨l,j⟩:=y;obtain⟨rfl,h,u⟩:=q;simp only at h u;obtain⟨⟨s1,N,O⟩,s4,s5⟩:=U x D;have o:∀a b:Int,a=lo g (at' d (x:Int)) v->b=hi g (at' d (x:Int)) v -> -100000<=a->a<=b+1->b<=100000000->(a<=b∨(a = -1∧b = -1))->∃H,(H.2=((x+1:Nat):Int)∧H.1.length=x+1∧Ua g d v H.1)∧nY 1000 d f (c,(v:Int)) (l,(x:Int)) n (a,b)=n H:=by
    intro a b R T q1 q2 q3 q4;have S:a<=b:=by omega
    unfold nY;simp only;have w1:wI .i64 ((v:Int)*(d.length:Int))=(v:Int)*(d.length:Int):=by
     have Y:0<=(v:Int)*(d.length:Int):=Int.mul_nonneg (by omega) (by omega);have p2:(v:Int)*(d.length:Int)<=24*900:=Int.mul_le_mul (by omega) (by omega) (by omega) (by omega);exact wr (by omega) (by omega)
    have Y:0<=(v:Int)*(d.length:Int):=Int.mul_nonneg (by omega) (by omega);have p2:(v:Int)*(d.length:Int)<=24*900:=Int.mul_le_mul (by omega) (by omega) (by omega) (by omega);rw[w1,wr (x:=(v:Int)*(d.length:Int)+(x:Int)) (by omega) (by omega),Nv _ _ (by omega),bN Z,wr (x:=b - a) (by omega) (by omega),wr (x:=b - a+1) (by omega) (by omega),wD _ _ (by omega) (by omega),bN Z];have r1:=Int.emod_nonneg (at' f ((v:Int)*(d.length:Int)+(x:Int))) (b:=b - a+1) (by omega);have r2:=Int.emod_lt_of_pos (at' f ((v:Int)*(d.length:Int)+(x:Int))) (b:=b - a+1) (by omega);generalize at' f ((v:Int)*(d.length:Int)+(x:Int))%(b - a+1)=r at r1 r2;rw[wr (x:=a+r) (by omega) (by omega),dD (by simp;omega),wr (by omega) (by omega)];refine⟨_,⟨by simp,by simp[h],λz W=> ?_⟩,rfl⟩
    simp only[zAc,zAk,zB5,h]at W;simp only;rw[RP l _ (by omega),h];by_cases e:z<x
    ·rw[if_pos e];exact u z (by omega)
    ·rw[if_neg e];have:z=x:=by omega
     subst this;rw[<-R,<-T];omega
   unfold nZ;simp only;rw[if_pos (by omega),dD (by omega),dD (by omega),dD (by omega),dD (by omega),dD (by omega)];by_cases m:(at' d (x:Int)).2.1=2
   ·rw[if_pos m];exact o 0 1 (by unfold lo;rw[if_pos m]) (by unfold hi;rw[if_pos m]) (by omega) (by omega) (by omega) (by omega)
   ·rw[if_neg m];by_cases A:(at' d (x:Int)).2.1=3
    ·rw[if_pos A,dD (by omega),wr (by omega) (by omega)];exact o (-1) _ (by unfold lo;rw[if_neg m,if_pos A]) (by unfold hi;rw[if_neg m,if_pos A]) (by omega) (by omega) (by omega) (by omega)
    ·rw[if_neg A];have q1:0<=(at' d (x:Int)).2.2.2.2.1*(g.2.length:Int):=Int.mul_nonneg N.1 (by omega);have q2:(at' d (x:Int)).2.2.2.2.1*(g.2.length:Int)<=100000*24:=Int.mul_le_mul N.2 (by omega) (by omega) (by omega);have q3:0<=(at' d (x:Int)).2.2.2.2.2*iJ g g.2.length:=Int.mul_nonneg O.1 M;have q4:(at' d (x:Int)).2.2.2.2.2*iJ g g.2.length<=100000*255:=Int.mul_le_mul O.2 X M (by omega);rw[wr (x:=(at' d (x:Int)).2.2.2.2.1*(g.2.length:Int)) (by omega) (by omega),wr (x:=(at' d (x:Int)).2.2.2.2.2*iJ g g.2.length) (by omega) (by omega),wr (x:=(at' d (x:Int)).2.2.2.1+(at' d (x:Int)).2.2.2.2.1*(g.2.length:Int)) (by omega) (by omega),wr (by omega) (by omega)];exact o _ _ (by unfold lo;rw[if_neg m,if_neg A]) (by unfold hi;rw[if_neg m,if_neg A,C]) (by omega) (by omega) (by omega) (by omega)
  ·obtain⟨l,j⟩:=y;obtain⟨rfl,h,u⟩:=q;simp only at h u;unfold nZ zP;simp only;rw[if_neg (by omega),dD (by simp;omega),wr (by omega) (by omega)]
 ·obtain⟨c,i⟩:=x;obtain⟨rfl,s,p⟩:=q;unfold kF vD;simp only;rw[if_neg (by omega)]
end Go.Proofs.YtflciafboapaaaaGreat
namespace Go.Proofs.YtflciafboapaaaaGreat
open Go.Sx
def yQ  (a:Int):Option (Int):=
 some (a)
def uN (c:bT) (a:fY) (b:gW->Option (Int)):Option (Int):=
 if a.2<(c.length:Int)then(ck (0<=a.2∧a.2<(c.length:Int)) (b ((max a.1 (at' c a.2)),(wI .i64 (a.2+(1:Int))))))else(yQ  (a.1))
def Aa (U:Nat) (a:bT):Option (Int):=
 if(a.length:Int)<(1:Int)then(none)else(ck (0<=(0:Int)∧(0:Int)<(a.length:Int)) (bP (uN a) U ((at' a (0:Int)),(1:Int))))
theorem XM:bB Tryz.prog 128:=Tryz.call128
theorem MH (U:Nat) {f:bT} (g:Value) (r:Int) (h:Aa U f=some r):
  bO Tryz.prog 128 #[g] [Sl aJ g f] (λx:Unit=>vI (r)) (λx l=>l) (λ_ l=>l):=by
 refine bO.of Tryz.func128 Z Tryz.ntmps128 Z λc=>?_;refine aX<|aH Z<|aP<|aM<|aX<|aB Z<|lT (aA.fact 0 Z) Z<|dM Z<|aP ?_;refine f_ h Z (λh=>?_) λh=>?_
 ·refine aT ?_;cases h
 refine dC<|aX<|aB Z<|eB h λj h=>aD (b_ Z Z (aA.fact 0 Z) Z Z j) Z<|aD (dJ Z (aA.fact 0 Z) Z Z Z gX j) Z<|aH Z<|aP<|aM<|jH (λb=>yQ  b=some r) (λb i=>[(3,vI (b))]) (λb i=>[]) ?_ ?_
 ·refine aX<|aH Z<|aP<|aV<|iI (uN f) (λa d=>[(0,g),(3,vI (a.1)),(4,vI (a.2))]) (λa d=>[]) ((at' f (0:Int)),(1:Int)) () h SF (aR.refl _) ?_;intro k a d h;refine aM<|aX<|aB Z<|aB Z<|lT (aA.fact 0 Z) Z<|dM Z<|aP ?_;refine f_ h Z (λh=>?_) λh=>?_
  ·refine dC<|aM<|aV<|aT<|aB Z<|aB Z<|aB Z<|eB h λe h=>aD (b_ Z Z (aA.fact 0 Z) Z Z e) Z<|aD (dJ Z (aA.fact 0 Z) Z Z Z gX e) Z<|aD (I_ Z Z) Z<|aH Z<|fH<|oV<|aT<|aB Z<|dK Z<|aH Z<|aP ?_;exact Bw ((max a.1 (at' f a.2)),(wI .i64 (a.2+(1:Int)))) () h SF Z
  refine gC ?_;exact kC (a.1) () h SF Z
 intro b i h;unfold yQ at h;refine aX<|aB Z<|aH Z<|aP<|aY ?_;cases h;exact mN Z
def oI (U:Nat) (a:Eh) (b:dL) (d:Int):Option gW:=
 Option.bind (Aa U b.1) λc=>(some (a.2.2.1,(wI .i64 ((wI .i64 (a.2.2.2.1+(wI .i64 (a.2.2.2.2.1*(b.1.length:Int)))))+(wI .i64 (a.2.2.2.2.2*c))))))
theorem XN:bB Tryz.prog 161:=Tryz.call161
theorem Gw (U:Nat) {a:Eh} {d:dL} {f:Int} (b:Value)  (e:Value)  (k:iZ) (r:fY) (h:oI U a d f=some r):
  bO Tryz.prog 161 #[Value.agg #[vS (a.1),vI (a.2.1),vI (a.2.2.1),vI (a.2.2.2.1),vI (a.2.2.2.2.1),vI (a.2.2.2.2.2)],Value.agg #[b,e],vI (f)] [Sl aJ b d.1,S2 aW e k d.2] (λx:Unit=>Value.tuple #[vI (r.1),vI (r.2)]) (λx l=>l) (λ_ l=>l):=by
 refine bO.of Tryz.func161 Z Tryz.ntmps161 Z λc=>?_;refine aX<|aI (aN.box (cs:=[vS (a.1),vI (a.2.1),vI (a.2.2.1),vI (a.2.2.2.1),vI (a.2.2.2.2.1),vI (a.2.2.2.2.2)]) Z Z) Z λm=>aI (aN.box (cs:=[b,e]) Z Z) Z λn=>aH Z<|aH Z<|aP<|aM ?_;refine JR.start [0,1,0,4,0,16,0,64,192,496,1020,0,2048,0,8192,24576,63488,131068,57347,524287] 19 mixedOrders (by decide +kernel) ?_;refine zBf (by exact rfl) ?_;refine cD Z<|fI 1 Z<|cD Z<|fI 1 Z<|cD Z<|fI 1 Z<|cD Z<|fI 0 Z<|bQ Z .nil (mK 0 Z) (gY Z (aA.fact 0 Z) Z) aO.z<|i_ Z (Fh Z Z)<|i_ Z (Co Z Z)<|cD Z<|fI 1 Z<|cD Z<|fI 0 Z<|fZ h λg i h=>zBd Z Z Z (zBc XM (MH U b g i) Z (g_ [0] Z)) Z (λj=>(nL [([1],[]),([],[0]),([0],[]),([1],[]),([1],[]),([1],[])] Z)) λj=>i_ Z (Fh Z Z)<|i_ Z (Co Z Z)<|i_ Z (Du Z)<|bS 19 Z Z<|aH Z<|aP<|aY ?_;cases h;exact kH () Z Z (RV.tmp Z) (RV.tmp Z) .nil aE.nil
def rS (U:Nat) (a:Eh) (b:dL) (c:Int):Option gW:=
 some ((0:Int),(1:Int))
theorem XO:bB Tryz.prog 162:=Tryz.call162
theorem Gy (U:Nat) {a:Eh} {b:dL} {f:Int} (d:Value)  (e:Value)  (g:iZ) (r:fY) (h:rS U a b f=some r):
  bO Tryz.prog 162 #[Value.agg #[vS (a.1),vI (a.2.1),vI (a.2.2.1),vI (a.2.2.2.1),vI (a.2.2.2.2.1),vI (a.2.2.2.2.2)],Value.agg #[d,e],vI (f)] [Sl aJ d b.1,S2 aW e g b.2] (λx:Unit=>Value.tuple #[vI (r.1),vI (r.2)]) (λx l=>l) (λ_ l=>l):=by
 refine bO.of Tryz.func162 Z Tryz.ntmps162 Z λc=>?_;unfold rS at h;refine aX<|aI (aN.box (cs:=[vS (a.1),vI (a.2.1),vI (a.2.2.1),vI (a.2.2.2.1),vI (a.2.2.2.2.1),vI (a.2.2.2.2.2)]) Z Z) Z λi=>aI (aN.box (cs:=[d,e]) Z Z) Z λj=>aH Z<|aH Z<|aP<|aX<|aH Z<|aH Z<|aP<|aY ?_;cases h;exact kH () Z Z (RV.tmp Z) (RV.tmp Z) .nil aE.nil
def oJ (U:Nat) (c:Eh) (b:dL) (a:Int):Option gW:=
 ck (0<=a∧a<(b.2.length:Int)) (some ((-1:Int),(wI .i64 (((at' b.2 a).length:Int) - (1:Int)))))
theorem XP:bB Tryz.prog 163:=Tryz.call163
theorem Gz (U:Nat) {a:Eh} {d:dL} {g:Int} (e:Value)  (f:Value)  (i:iZ) (r:fY) (h:oJ U a d g=some r):
  bO Tryz.prog 163 #[Value.agg #[vS (a.1),vI (a.2.1),vI (a.2.2.1),vI (a.2.2.2.1),vI (a.2.2.2.2.1),vI (a.2.2.2.2.2)],Value.agg #[e,f],vI (g)] [Sl aJ e d.1,S2 aW f i d.2] (λx:Unit=>Value.tuple #[vI (r.1),vI (r.2)]) (λx l=>l) (λ_ l=>l):=by
 refine bO.of Tryz.func163 Z Tryz.ntmps163 Z λc=>?_;refine aX<|aI (aN.box (cs:=[vS (a.1),vI (a.2.1),vI (a.2.2.1),vI (a.2.2.2.1),vI (a.2.2.2.2.1),vI (a.2.2.2.2.2)]) Z Z) Z λj=>aI (aN.box (cs:=[e,f]) Z Z) Z λk=>aH Z<|aH Z<|aP<|aM ?_;refine JR.start [0,1,0,7,15,31,63,0,255] 8 mixedOrders (by decide +kernel) ?_;refine zBf (by exact rfl) ?_;refine cD Z<|fI 0 Z<|a_ Z<|eB h λb h=>bQ Z .nil (mK 1 Z) (bV Z Z (aA.fact 0 Z) Z Z b) aO.z<|bQ Z .nil (mK 1 Z) (cM Z (aA.fact 0 Z) Z Z b) aO.z<|bQ Z .nil (mK 1 Z) (gY Z (zBe (aA.fact 0 Z) b.1 b.2) Z) aO.z<|i_ Z (Au Z Z)<|i_ Z (Du Z)<|bS 8 Z Z<|aH Z<|aP<|aY ?_;cases h;exact kH () Z Z (RV.tmp Z) (RV.tmp Z) .nil aE.nil
def x_  (a:Unit):Option gW:=
 some ((0:Int),(-1:Int))
def mI (c:Int) (a:(Int)->Option gW) (b:Unit):Option gW:=
 a (wI .i64 (c+(1:Int)))
def fJ (U:Nat) (a:Eh) (d:dL) (h:Int) (b:Int) (c:(Int)->Option gW):Option gW:=
 if b<(List.length ([((1:Int),(161:Nat)),((2:Int),(162:Nat)),((3:Int),(163:Nat))]):Int)then(ck (0<=b∧b<(List.length ([((1:Int),(161:Nat)),((2:Int),(162:Nat)),((3:Int),(163:Nat))]):Int)) (if b=(0:Int)then(if(1:Int)=a.2.1 then(Option.bind (oI U ((a.1,a.2.1,a.2.2.1,a.2.2.2.1,a.2.2.2.2.1,a.2.2.2.2.2)) ((d.1,d.2)) h) λe=>(some (e.1,e.2)))else(mI b c (())))else(if b=(1:Int)then(if(2:Int)=a.2.1 then(Option.bind (rS U ((a.1,a.2.1,a.2.2.1,a.2.2.2.1,a.2.2.2.2.1,a.2.2.2.2.2)) ((d.1,d.2)) h) λf=>(some (f.1,f.2)))else(mI b c (())))else(if(3:Int)=a.2.1 then(Option.bind (oJ U ((a.1,a.2.1,a.2.2.1,a.2.2.2.1,a.2.2.2.2.1,a.2.2.2.2.2)) ((d.1,d.2)) h) λg=>(some (g.1,g.2)))else(mI b c (()))))))else(x_  (()))
def kA (U:Nat) (a:Eh) (b:dL) (c:Int):Option gW:=
 bP (fJ U a b c) U (0:Int)
theorem UC:bB Tryz.prog 97:=Tryz.call97
theorem CZ (U:Nat) {a:Eh} {v:dL} {n:Int} (i:Value)  (j:Value)  (D:iZ) (r:fY) (h:kA U a v n=some r):
  bO Tryz.prog 97 #[Value.agg #[vS (a.1),vI (a.2.1),vI (a.2.2.1),vI (a.2.2.2.1),vI (a.2.2.2.2.1),vI (a.2.2.2.2.2)],Value.agg #[i,j],vI (n)] [Sl aJ i v.1,S2 aW j D v.2] (λx:Unit=>Value.tuple #[vI (r.1),vI (r.2)]) (λx l=>l) (λ_ l=>l):=by
 let b:=a.2.2.2;let s:=Value.func (.func 163) #[] #[];let p:=Value.func (.func 162) #[] #[];let o:=Value.func (.func 161) #[] #[];let z:=vI (List.length ([((1:Int),(161:Nat)),((2:Int),(162:Nat)),((3:Int),(163:Nat))]):Int);refine bO.of Tryz.func97 Z Tryz.ntmps97 Z λc=>?_;unfold kA at h;refine aX<|aI (aN.box (cs:=[vS (a.1),vI (a.2.1),vI (a.2.2.1),vI (b.1),vI (b.2.1),vI (b.2.2)]) Z Z) Z λE=>let y:=bI E [vS (a.1),vI (a.2.1),vI (a.2.2.1),vI (b.1),vI (b.2.1),vI (b.2.2)] 82;aI (aN.box (cs:=[i,j]) Z Z) Z λC=>aH Z<|aH Z<|aP<|aX ?_
 refine aD (Cp (r:=Value.agg #[vI (1:Int),Value.func (.func 161) #[] #[]]) Z Z (by intro w;simp[Instr.build,Instr.fill,dO,cV,cL,dQ,dR,cW,eN])) Z ?_;refine aD (Cp (r:=Value.agg #[vI (2:Int),Value.func (.func 162) #[] #[]]) Z Z (by intro w;simp[Instr.build,Instr.fill,dO,cV,cL,dQ,dR,cW,eN])) Z ?_;refine aD (Cp (r:=Value.agg #[vI (3:Int),Value.func (.func 163) #[] #[]]) Z Z (by intro w;simp[Instr.build,Instr.fill,dO,cV,cL,dQ,dR,cW,eN])) Z ?_;refine aI (cU (e:=Io) ([(((1:Int),((161:Nat)))),(((2:Int),((162:Nat)))),(((3:Int),((163:Nat))))]) [(0,Value.agg #[vI (1:Int),o]),(1,Value.agg #[vI (2:Int),p]),(2,Value.agg #[vI (3:Int),s])] Z Z Z Z (Vg (vI (1:Int)) (o) (vI (2:Int)) (p) (vI (3:Int)) (s)) Z Z Z) Z λJ=>let A:=Ar Io J ([((1:Int),(161:Nat)),((2:Int),(162:Nat)),((3:Int),(163:Nat))]);aH Z<|aP<|aM<|jH (λB=>x_  B=some r) (λB N=>[]) (λB N=>[]) ?_ ?_
 ·refine aX<|aB Z<|aD (gY Z (cB (aA.res 0 Z) Bd) Z) Z<|aB Z<|aP<|aV<|iI (fJ U a v n) (λm O=>[(2,vI (n)),(3,vP E),(4,vP C),(15,J),(16,z),(17,vI (m))]) (λm O=>[A,bI C [i,j] 31,y]) (0:Int) () h SF (aR.refl _) ?_;intro F m O h;refine aX<|dM Z<|aP<|aM ?_;refine f_ h Z (λh=>?_) λh=>?_
  ·refine dC<|aM<|jH (λk=>mI m (bP (fJ U a v n) F) k=some r) (λk t=>[(2,vI (n)),(3,vP E),(4,vP C),(15,J),(16,z),(17,vI (m))]) (λk t=>[A,bI C [i,j] 31,y]) ?_ ?_
   ·refine aV<|aX<|eB h λg h=>aD (b_ Z Z (cB (aA.res 0 Z) Bd) Z Z g) Z ?_;by_cases d:m=(0:Int)
    ·have h:=Km d h;refine aD (fN (cs:=[vI (1:Int),o]) Z (cB (aA.res 0 Z) Bd) Bd (by rw[d];rfl) Z Z Z g) Z ?_;refine aI (aN.alloc (cs:=[vI (0:Int),Value.nilFunc]) Z Z) Z λP=>bL 0 (vs:=[vI (1:Int),Value.func (.func 161) #[] #[]]) Z Z Z Z Z Z<|aP<|aX<|cA Z<|eW 0 Z<|cA Z<|eW 3 Z<|eL Z<|aP ?_;refine f_ h Z (λh=>?_) λh=>?_
     ·refine aX<|cA Z<|eW 0 Z<|cY 3 Z<|cY 2 Z<|aB Z<|fZ h λG K h=>aI (qE (vs:=[Value.agg #[vS (a.1),vI (a.2.1),vI (a.2.2.1),vI (a.2.2.2.1),vI (a.2.2.2.2.1),vI (a.2.2.2.2.2)],Value.agg #[i,j],vI (n)]) (cs:=[]) XN Z (Gw U i j D G K) Z (g_ [0,1] Z) (λ_ _=>rfl)) Z λS=>iR Z<|iR Z<|aH Z<|aH Z<|aP<|aY<|cE<|aL<|aL<|cE<|aL ?_;cases h;exact kH () Z Z (RV.tmp Z) (RV.tmp Z) .nil aE.nil
     refine fV<|oV ?_;exact cK () (()) h SF (aR.ix [1,2,3] Z Z) (aE.refl _ _)
    have h:=Zt d h;by_cases f:m=(1:Int)
    ·have h:=Km f h;refine aD (fN (cs:=[vI (2:Int),p]) Z (cB (aA.res 0 Z) Bd) Bd (by rw[f];rfl) Z Z Z g) Z ?_;refine aI (aN.alloc (cs:=[vI (0:Int),Value.nilFunc]) Z Z) Z λQ=>bL 0 (vs:=[vI (2:Int),Value.func (.func 162) #[] #[]]) Z Z Z Z Z Z<|aP<|aX<|cA Z<|eW 0 Z<|cA Z<|eW 3 Z<|eL Z<|aP ?_;refine f_ h Z (λh=>?_) λh=>?_
     ·refine aX<|cA Z<|eW 0 Z<|cY 3 Z<|cY 2 Z<|aB Z<|fZ h λH L h=>aI (qE (vs:=[Value.agg #[vS (a.1),vI (a.2.1),vI (a.2.2.1),vI (a.2.2.2.1),vI (a.2.2.2.2.1),vI (a.2.2.2.2.2)],Value.agg #[i,j],vI (n)]) (cs:=[]) XO Z (Gy U i j D H L) Z (g_ [0,1] Z) (λ_ _=>rfl)) Z λT=>iR Z<|iR Z<|aH Z<|aH Z<|aP<|aY<|cE<|aL<|aL<|cE<|aL ?_;cases h;exact kH () Z Z (RV.tmp Z) (RV.tmp Z) .nil aE.nil
     refine fV<|oV ?_;exact cK () (()) h SF (aR.ix [1,2,3] Z Z) (aE.refl _ _)
    have h:=Zt f h;have u:m=(2:Int):=by have q:=g;simp only[zAk,zB5]at q;omega
    refine aD (fN (cs:=[vI (3:Int),s]) Z (cB (aA.res 0 Z) Bd) Bd (by rw[u];rfl) Z Z Z g) Z ?_;refine aI (aN.alloc (cs:=[vI (0:Int),Value.nilFunc]) Z Z) Z λR=>bL 0 (vs:=[vI (3:Int),Value.func (.func 163) #[] #[]]) Z Z Z Z Z Z<|aP<|aX<|cA Z<|eW 0 Z<|cA Z<|eW 3 Z<|eL Z<|aP ?_;refine f_ h Z (λh=>?_) λh=>?_
    ·refine aX<|cA Z<|eW 0 Z<|cY 3 Z<|cY 2 Z<|aB Z<|fZ h λI M h=>aI (qE (vs:=[Value.agg #[vS (a.1),vI (a.2.1),vI (a.2.2.1),vI (a.2.2.2.1),vI (a.2.2.2.2.1),vI (a.2.2.2.2.2)],Value.agg #[i,j],vI (n)]) (cs:=[]) XP Z (Gz U i j D I M) Z (g_ [0,1] Z) (λ_ _=>rfl)) Z λV=>iR Z<|iR Z<|aH Z<|aH Z<|aP<|aY<|cE<|aL<|aL<|cE<|aL ?_;cases h;exact kH () Z Z (RV.tmp Z) (RV.tmp Z) .nil aE.nil
    refine fV<|oV ?_;exact cK () (()) h SF (aR.ix [1,2,3] Z Z) (aE.refl _ _)
   intro k t h;unfold mI at h;refine aT<|dK Z<|aB Z<|aP ?_;exact Bw (wI .i64 (m+(1:Int))) () h SF Z
  refine gC ?_;exact cK () (()) h SF .nil (aE.refl _ _)
 intro B N h;unfold x_ at h;refine aX<|aH Z<|aH Z<|aP<|aY ?_;cases h;exact kH () Z Z (RV.tmp Z) (RV.tmp Z) (aR.refl _) aE.nil
def uT  (a:gA):Option (gA):=
 some (a)
def uU (b:Int×gA) (a:(Int×gA)->Option (gA)) (c:gA):Option (gA):=
 a ((wI .i64 (b.1+(1:Int))),c)
def nT (U:Nat) (d:jX) (g:dL) (b:Int×gA) (e:(Int×gA)->Option (gA)) (a:Int×gA) (f:(Int×gA)->Option (gA)):Option (gA):=
 if a.1<(d.2.1.length:Int)then(ck (0<=a.1∧a.1<(d.2.1.length:Int)) (ck (0<=b.1∧b.1<(a.2.length:Int)) (ck (0<=b.1∧b.1<(a.2.length:Int)) (Option.bind (kA U ((((at' d.2.1 a.1).1),((at' d.2.1 a.1).2.1),((at' d.2.1 a.1).2.2.1),((at' d.2.1 a.1).2.2.2.1),((at' d.2.1 a.1).2.2.2.2.1),((at' d.2.1 a.1).2.2.2.2.2))) ((g.1,g.2)) b.1) λc=>(ck (0<=a.1∧a.1<((at' a.2 b.1).length:Int)) (ck (0<=a.1∧a.1<((at' (List.set a.2 (Int.toNat b.1) (List.set (at' a.2 b.1) (Int.toNat a.1) (c.1,((at' (at' a.2 b.1) a.1).2)))) b.1).length:Int)) (f ((wI .i64 (a.1+(1:Int))),(List.set (List.set a.2 (Int.toNat b.1) (List.set (at' a.2 b.1) (Int.toNat a.1) (c.1,((at' (at' a.2 b.1) a.1).2)))) (Int.toNat b.1) (List.set (at' (List.set a.2 (Int.toNat b.1) (List.set (at' a.2 b.1) (Int.toNat a.1) (c.1,((at' (at' a.2 b.1) a.1).2)))) b.1) (Int.toNat a.1) (((at' (at' (List.set a.2 (Int.toNat b.1) (List.set (at' a.2 b.1) (Int.toNat a.1) (c.1,((at' (at' a.2 b.1) a.1).2)))) b.1) a.1).1),c.2)))))))))))else(uU b e (a.2))
def lW (U:Nat) (c:jX) (d:dL) (a:Int×gA) (b:(Int×gA)->Option (gA)):Option (gA):=
 if a.1<((List.replicate (Int.toNat (List.length d.1:Int)) ([]:fU)).length:Int)then(ck (0<=(c.2.1.length:Int)∧(c.2.1.length:Int)<=1099511627) (ck (0<=a.1∧a.1<(a.2.length:Int)) (bP (nT U c d a b) U ((0:Int),(List.set a.2 (Int.toNat a.1) (List.replicate (Int.toNat (c.2.1.length:Int)) ((0:Int),(0:Int))))))))else(uT  (a.2))
def fL (U:Nat) (b:jX) (a:dL):Option (gA):=
 ck (0<=(a.1.length:Int)∧(a.1.length:Int)<=1099511627) (bP (lW U b a) U ((0:Int),(List.replicate (Int.toNat (a.1.length:Int)) ([]:fU))))
theorem Je:bB Tryz.prog 48:=Tryz.call48
theorem sU (U:Nat) {d:jX} {y:dL} (H:Value)  (Y:Value)  (v2:Value)  (v3:Value)  (z4:iZ) (r:gA) (h:fL U d y=some r):
  bO Tryz.prog 48 #[Value.agg #[vS (d.1),H,Y],Value.agg #[v2,v3]] [Sl aG H d.2.1,Sl aC Y d.2.2,PF (Value.agg #[vS d.1,H,Y]),Sl aJ v2 y.1,S2 aW v3 z4 y.2] (λx:Fa=>x.1) (λx l=>Ar aZ.raw x.1 x.2::eH bD x.2 r::l) (λ_ l=>l):=by
 let A:=(Int.toNat (y.1.length:Int))
 let X:=(List.replicate A ([]:fU))
 let D:=vI (X.length:Int);refine bO.of Tryz.func48 Z Tryz.ntmps48 Z λc=>?_;refine aX<|aI (aN.box (cs:=[vS (d.1),H,Y]) Z Z) Z λb1=>let C:=bI b1 [vS (d.1),H,Y] 36;aI (aN.box (cs:=[v2,v3]) Z Z) Z λb2=>let F:=bI b2 [v2,v3] 31;aH Z<|aP<|aX<|cA Z<|eW 0 Z<|lT (aA.fact 3 Z) Z<|eB h λj3 h=>cG (lC bD A)<|aI (jD (e:=aZ.raw) (cJ) Z Z Z Z j3 Z Z Z) Z λw=>aH Z<|aP<|aM<|DN (B:=cR) (λI=>uT  I=some r) (λI K=>[(5,w)]) (λI K=>[Ar aZ.raw w K,eH bD K I]) ?_ ?_
 ·refine aX<|aB Z<|aD (eP Z (bZ (i:=0) (j:=1) Z Z bG) Z) Z<|aB Z<|aP<|aV<|iI (B:=cR) (lW U d y) (λb p=>[(2,vP b1),(3,vP b2),(5,w),(14,D),(15,vI (b.1))]) (λb p=>[Ar aZ.raw w p,eH bD p b.2,F,C]) ((0:Int),X) (List.replicate A (cJ)) h SF (aR.refl _) ?_;intro W b p h;let v:=(Int.toNat b.1)
  refine aX<|dM Z<|aP<|aM ?_;refine f_ h Z (λh=>?_) λh=>?_
  ·refine dC<|aM<|DN (B:=cR) (λn=>uU b (bP (lW U d y) W) n=some r) (λn s=>[(2,vP b1),(3,vP b2),(5,w),(14,D),(15,vI (b.1))]) (λn s=>[Ar aZ.raw w s,eH bD s n,F,C]) ?_ ?_
   ·refine aV<|aX<|aB Z<|aH Z<|aP<|aX<|aB Z<|aB Z<|cA Z<|eW 3 Z<|lT (aA.fact 0 Z) Z<|eB h λaa h=>aI (jD (e:=bD) (((0:Int),(0:Int))) Z Z Z Z aa Z Z Z) Z λab=>let E:=(List.set p v ab);eB h λt h=>aD (bV Z Z (bZ (i:=1) (j:=2) Z Z bG) Z Z t) Z<|aQ (Know.one ((cB (aA.res 0 Z) bG))) λR=>cG (sA (k:=b.1) 2 0 Z Z Z t) ?_
    refine mP 0 1 ⟨t.1,by first|exact t.2|simpa using t.2⟩ Z Z Z Z Z (by simp) R Z ?_;refine aP<|aX<|cA Z<|eW 3 Z<|lT (aA.fact 0 Z) Z<|aB Z<|aP<|aV<|iI (nT U d y b (bP (lW U d y) W)) (λa J=>[(2,vP b1),(3,vP b2),(5,w),(6,vI (b.1)),(14,D),(15,vI (b.1)),(26,H),(27,vI (d.2.1.length:Int)),(28,vI (a.1))]) (λa J=>[Ar aZ.raw w E,eH bD E a.2,F,C]) ((0:Int),(List.set b.2 v (List.replicate (Int.toNat (d.2.1.length:Int)) ((0:Int),(0:Int))))) () h SF (aR.refl _) ?_;intro ag a J h;let G:=(at' a.2 b.1)
    let q:=(at' d.2.1 a.1)
    refine aX<|dM Z<|aP<|aM ?_;refine f_ h Z (λh=>?_) λh=>?_
    ·refine dC<|aM<|aV<|aX<|aB Z<|eB h λS h=>aD (b_ Z Z (aA.fact 0 Z) Z Z S) Z<|aD (fN (cs:=[vS (q.1),vI (q.2.1),vI (q.2.2.1),vI (q.2.2.2.1),vI (q.2.2.2.2.1),vI (q.2.2.2.2.2)]) Z (aA.fact 0 Z) tX Z Z Z Z S) Z<|aI (aN.alloc (cs:=vD1) Z Z) Z λaf=>aH Z<|bL 0 (vs:=[vS ((at' d.2.1 a.1).1),vI ((at' d.2.1 a.1).2.1),vI ((at' d.2.1 a.1).2.2.1),vI ((at' d.2.1 a.1).2.2.2.1),vI ((at' d.2.1 a.1).2.2.2.2.1),vI ((at' d.2.1 a.1).2.2.2.2.2)]) Z Z Z Z Z Z<|aP ?_;refine JR.start [0,0,3,7,0,0,0,96,224,0,0,0,0,7168,15360,31744,31744,31,196095,458239,992,2097151,4194303] 21 mixedOrders (by decide +kernel) ?_;refine zBf (by exact rfl) ?_;refine a_ Z<|a_ Z<|eB h λg h=>aU (cH 2 Z) λL=>?_;refine bQ Z (aR.cons 1 Z .nil) .nil (iO 0 Z Z Z Z Z g.1 (by have q1:=g.2;have q2:=L;(try simp only[zA1]at q1);(try simp only[zA1]at q2);(try simp only[zA1]);omega)) aO.z ?_;refine aU (cH 2 Z) λM=>bQ Z (aR.cons 1 Z .nil) .nil (eR 0 Z Z M Z Z g) aO.z<|a_ Z<|a_ Z<|a_ Z<|eB h λf h=>aU (cH 2 Z) λN=>?_;refine bQ Z (aR.cons 1 Z .nil) .nil (iO 0 Z Z Z Z Z f.1 (by have q1:=f.2;have q2:=N;(try simp only[zA1]at q1);(try simp only[zA1]at q2);(try simp only[zA1]);omega)) aO.z ?_;refine aU (cH 2 Z) λO=>bQ Z (aR.cons 1 Z .nil) .nil (eR 0 Z Z O Z Z f) aO.z<|a_ Z<|gE 0 Z<|gE 3 Z<|a_ Z<|fZ h λm ac h=>let u:=(List.set a.2 v (List.set G (Int.toNat a.1) (m.1,((at' G a.1).2))));zBd Z Z Z (zBc UC (CZ U v2 v3 z4 m ac) Z (g_ [3,4] Z)) Z (λad=>(nL [([1],[]),([1],[]),([1],[]),([1],[])] Z)) λad=>i_ Z (iW Z)<|i_ Z (pH Z Z)<|i_ Z (pH Z Z)<|eB h λT h=>aU (Know.len (aA.row (j:=2) Z bG g.1 g.2)) λP=>i_ Z (hZ Z Z P Z Z T) ?_
     refine i_ Z (Eu (i:=0) Z Z Z Z Z (by decide)) ?_;refine An Z Z Z (pF (us:=[vI (m.1)]) (o:=0) (k:=b.1) 2 ((m.1,((at' G a.1).2))) ⟨g.1,by first|exact g.2|simpa using g.2⟩ T Z Z Z Z Z Z Z Z Z Z) (λae=>(nL [] Z)) λae=>eB h λV h=>aU (Know.len (aA.row (j:=2) Z bG f.1 (by first|exact f.2|simpa using f.2))) λQ=>?_;refine i_ Z (hZ Z Z Q Z Z V)<|bS 21 Z Z ?_;refine aD (Eu (i:=1) Z Z Z Z Z (by decide)) Z ?_;refine qI (pF (us:=[vI (m.2)]) (o:=1) (k:=b.1) 2 ((((at' (at' u b.1) a.1).1),m.2)) ⟨f.1,by first|exact f.2|simpa using f.2⟩ V Z Z Z Z Z Z Z Z Z Z) λah=>fH<|oV<|aT<|dK Z<|aB Z<|aP ?_;exact iN ((wI .i64 (a.1+(1:Int))),(List.set u v (List.set (at' u b.1) (Int.toNat a.1) (((at' (at' u b.1) a.1).1),m.2)))) () h SF (aR.ix [1,2,3,4] Z Z) (aE.refl _ _)
    refine vH<|gR<|gR<|Am<|oV ?_;exact kC (a.2) E h SF Z
   intro n s h;unfold uU at h;refine aT<|dK Z<|aB Z<|aP ?_;exact Bw ((wI .i64 (b.1+(1:Int))),n) (s) h SF Z
  refine gC ?_;exact cK (b.2) (p) h SF (aR.ix [0,1] Z Z) (aE.refl _ _)
 intro I K h;unfold uT at h;refine aX<|aB Z<|aH Z<|aP<|aY ?_;cases h;exact jR (w,K) Z Z (RV.tmp Z) (aR.refl _) aE.nil
def wP  (a:Unit):Option (Int):=
 some (0:Int)
def pJ (b:Int) (a:(Int)->Option (Int)) (c:Unit):Option (Int):=
 a (wI .i64 (b+(1:Int)))
def wQ (b:Int) (a:(Int)->Option (Int)) (c:Bool):Option (Int):=
 if c=true then(some (9:Int))else(pJ b a (()))
def mT (U:Nat) (c:jX) (e:dL) (a:Int) (b:(Int)->Option (Int)):Option (Int):=
 if a<(c.2.1.length:Int)then(ck (0<=a∧a<(c.2.1.length:Int)) (if((at' c.2.1 a).2.1)≠(1:Int)then(pJ a b (()))else(Option.bind (kA U ((((at' c.2.1 a).1),((at' c.2.1 a).2.1),((at' c.2.1 a).2.2.1),((at' c.2.1 a).2.2.2.1),((at' c.2.1 a).2.2.2.2.1),((at' c.2.1 a).2.2.2.2.2))) ((e.1,e.2)) (0:Int)) λd=>(if d.2<d.1 then(wQ a b (true))else(wQ a b (decide ((4096:Int)<(wI .i64 ((wI .i64 (d.2 - d.1))+(1:Int))))))))))else(wP  (()))
def mH (U:Nat) (a:jX) (b:dL):Option (Int):=
 Option.bind (BH U ((a.1,a.2.1,a.2.2))) λc=>(if(!c)=true then(some (8:Int))else(Option.bind (iG U ((b.1,b.2))) λd=>(if(!d)=true then(some (1:Int))else(bP (mT U a b) U (0:Int)))))
theorem QP:bB Tryz.prog 107:=Tryz.call107
theorem EX (U:Nat) {b:jX} {n:dL} (g:Value)  (v:Value)  (i:Value)  (j:Value)  (y:iZ) (r:Int) (h:mH U b n=some r):
  bO Tryz.prog 107 #[Value.agg #[vS (b.1),g,v],Value.agg #[i,j]] [Sl aG g b.2.1,Sl aC v b.2.2,PF (Value.agg #[vS b.1,g,v]),Sl aJ i n.1,S2 aW j y n.2] (λx:Unit=>vI (r)) (λx l=>l) (λ_ l=>l):=by
 refine bO.of Tryz.func107 Z Tryz.ntmps107 Z λc=>?_;refine aX<|aI (aN.box (cs:=[vS (b.1),g,v]) Z Z) Z λF=>aI (aN.box (cs:=[i,j]) Z Z) Z λm=>aH Z<|aP<|aM<|aX<|cY 1 Z<|fZ h λA C h=>aI (zBc LR (Kt U g v A C) Z (g_ [0,1,2] Z)) Z λG=>aD (wL Z) Z<|aP ?_;refine Bf h Z (λ_ h=>?_) λ_ h=>?_
 ·refine aX<|aH Z<|aP<|aY<|aL ?_;cases h;exact zJ Z
 refine dC<|aM<|aX<|cY 0 Z<|fZ h λB D h=>aI (zBc Pv (BJ U i j y B D) Z (g_ [3,4] Z)) Z λH=>aD (wL Z) Z<|aP ?_;refine Bf h Z (λ_ h=>?_) λ_ h=>?_
 ·refine aX<|aH Z<|aP<|aY<|aL ?_;cases h;exact zJ Z
 refine dC<|aM<|jH (λe=>wP  e=some r) (λe o=>[]) (λe o=>[]) ?_ ?_
 ·refine aX<|cA Z<|eW 1 Z<|lT (aA.fact 0 Z) Z<|aB Z<|aP<|aV<|iI (mT U b n) (λa p=>[(3,vP m),(16,g),(17,vI (b.2.1.length:Int)),(18,vI (a))]) (λa p=>[bI m [i,j] 31]) (0:Int) () h SF (aR.ix [0] Z Z) ?_;intro u a p h;refine aX<|dM Z<|aP<|aM ?_;refine f_ h Z (λh=>?_) λh=>?_
  ·refine dC<|aM<|jH (λf=>pJ a (bP (mT U b n) u) f=some r) (λf q=>[(3,vP m),(16,g),(17,vI (b.2.1.length:Int)),(18,vI (a))]) (λf q=>[bI m [i,j] 31]) ?_ ?_
   ·refine aV<|aX<|eB h λt h=>aD (b_ Z Z (aA.fact 0 Z) Z Z t) Z<|aD (fN (cs:=[vS ((at' b.2.1 a).1),vI ((at' b.2.1 a).2.1),vI ((at' b.2.1 a).2.2.1),vI ((at' b.2.1 a).2.2.2.1),vI ((at' b.2.1 a).2.2.2.2.1),vI ((at' b.2.1 a).2.2.2.2.2)]) Z (aA.fact 0 Z) tX Z Z Z Z t) Z<|aI (aN.alloc (cs:=vD1) Z Z) Z λz=>bL 0 (vs:=[vS ((at' b.2.1 a).1),vI ((at' b.2.1 a).2.1),vI ((at' b.2.1 a).2.2.1),vI ((at' b.2.1 a).2.2.2.1),vI ((at' b.2.1 a).2.2.2.2.1),vI ((at' b.2.1 a).2.2.2.2.2)]) Z Z Z Z Z Z<|aP<|aM<|aX<|cA Z<|eW 0 Z<|oM Z<|aP ?_;refine f_ h Z (λh=>?_) λh=>?_
    ·refine vH<|gR<|Am<|En ?_;exact cK () (()) h SF (aR.ix [1] Z Z) (aE.refl _ _)
    refine dC<|aX<|cY 0 Z<|cY 1 Z<|fZ h λk w h=>aI (zBc UC (CZ U i j y k w) Z (g_ [3,4] Z)) Z λE=>aB Z<|iR Z<|iR Z<|aH Z<|aH Z<|aP<|aM<|jH (λd=>wQ a (bP (mT U b n) u) d=some r) (λd s=>[(3,vP m),(16,g),(17,vI (b.2.1.length:Int)),(18,vI (a)),(40,vB (d))]) (λd s=>[bI m [i,j] 31]) ?_ ?_
    ·refine aT<|aB Z<|aB Z<|dM Z<|aB Z ?_;refine Fq h Z (λ_ h=>?_) λ_ h=>?_
     ·refine aK Z<|aK Z<|aK Z<|aK Z<|aK Z<|fX Z<|aP ?_;exact cK (true) () h SF (aR.ix [1] Z Z) (aE.refl _ _)
     refine iA Z<|iA Z<|aS Z (Au Z Z) Z<|aS Z (Co Z Z) Z<|aS Z (Aq Z Z) Z<|fG Z<|aP ?_;exact cK (decide ((4096:Int)<(wI .i64 ((wI .i64 (k.2 - k.1))+(1:Int))))) () h SF (aR.ix [1] Z Z) (aE.refl _ _)
    intro d s h;refine Bf h Z (λ_ h=>?_) λ_ h=>?_
    ·refine aX<|aH Z<|aP<|aY<|cE<|aL<|aL<|cE<|aL ?_;cases h;exact zJ Z
    refine fV<|oV ?_;exact kC () (()) h SF Z
   intro f q h;unfold pJ at h;refine aT<|dK Z<|aB Z<|aP ?_;exact Bw (wI .i64 (a+(1:Int))) () h SF Z
  refine gC ?_;exact cK () (()) h SF .nil (aE.refl _ _)
 intro e o h;unfold wP at h;refine aX<|aH Z<|aP<|aY ?_;cases h;exact mN Z
def q_  (a:Unit):Option Bool:=
 some (true)
def rA (c:Int) (b:(Int)->Option Bool) (a:Bool):Option Bool:=
 if a=true then(some (false))else(b (wI .i64 (c+(1:Int))))
def kD (c:fU) (d:bT) (a:Int) (b:(Int)->Option Bool):Option Bool:=
 if a<(d.length:Int)then(ck (0<=a∧a<(d.length:Int)) (ck (0<=a∧a<(c.length:Int)) (if(at' d a)<((at' c a).1)then(rA a b (true))else(ck (0<=a∧a<(c.length:Int)) (rA a b (decide (((at' c a).2)<(at' d a))))))))else(q_  (()))
def mX (U:Nat) (a:fU) (b:bT):Option Bool:=
 if(b.length:Int)≠(a.length:Int)then(some (false))else(bP (kD a b) U (0:Int))
theorem Ux:bB Tryz.prog 50:=Tryz.call50
theorem Ec (U:Nat) {k:fU} {d:bT} (n:Value)  (o:Value) (r:Bool) (h:mX U k d=some r):
  bO Tryz.prog 50 #[n,o] [Sl aW n k,Sl aJ o d] (λx:Unit=>vB (r)) (λx l=>l) (λ_ l=>l):=by
 refine bO.of Tryz.func50 Z Tryz.ntmps50 Z λc=>?_;refine aX<|aH Z<|aP<|aM<|aX<|aB Z<|lT (aA.fact 1 Z) Z<|aB Z<|lT (aA.fact 0 Z) Z<|oM Z<|aP ?_;refine f_ h Z (λh=>?_) λh=>?_
 ·refine aX<|aH Z<|aP<|aY<|aL ?_;cases h;exact mN Z
 refine dC<|aM<|jH (λm=>q_  m=some r) (λm p=>[]) (λm p=>[]) ?_ ?_
 ·refine aX<|aB Z<|lT (aA.fact 1 Z) Z<|aB Z<|aP<|aV<|iI (kD k d) (λb q=>[(0,n),(12,o),(13,vI (d.length:Int)),(14,vI (b))]) (λb q=>[]) (0:Int) () h SF (aR.refl _) ?_;intro s b q h;refine aX<|dM Z<|aP<|aM ?_;refine f_ h Z (λh=>?_) λh=>?_
  ·refine dC<|aM<|aV<|aX<|aB Z<|eB h λf h=>aD (b_ Z Z (aA.fact 1 Z) Z Z f) Z<|aD (dJ Z (aA.fact 1 Z) Z Z Z gX f) Z<|aH Z<|aH Z<|aP<|aM<|jH (λa=>rA b (bP (kD k d) s) a=some r) (λa e=>[(0,n),(12,o),(13,vI (d.length:Int)),(14,vI (b)),(34,vB (a))]) (λa e=>[]) ?_ ?_
   ·refine aT<|aB Z<|aB Z<|aB Z<|eB h λg h=>aD (b_ Z Z (aA.fact 0 Z) Z Z g) Z ?_;refine aD (Eu (i:=0) Z Z Z Z Z (by decide)) Z ?_;refine aD (qL Z (aA.fact 0 Z) Z Z Z Ap g) Z<|dM Z<|aB Z ?_;refine Fq h Z (λ_ h=>?_) λ_ h=>?_
    ·refine aK Z<|aK Z<|aK Z<|aK Z<|aK Z<|aK Z<|aK Z<|fX Z<|aP ?_;exact kC (true) () h SF Z
    refine iA Z<|iA Z<|iA Z<|eB h λj h=>aS Z (b_ Z Z (aA.fact 0 Z) Z Z j) Z ?_;refine aS Z (Eu (i:=1) Z Z Z Z Z (by decide)) Z ?_;refine aS Z (qL Z (aA.fact 0 Z) Z Z Z Pd j) Z<|aS Z (Aq Z Z) Z<|fG Z<|aP ?_;exact kC (decide (((at' k b).2)<(at' d b))) () h SF Z
   intro a e h;refine Bf h Z (λ_ h=>?_) λ_ h=>?_
   ·refine aX<|aH Z<|aP<|aY<|cE<|aL<|aL<|cE<|aL ?_;cases h;exact mN Z
   refine fV<|oV<|aT<|dK Z<|aB Z<|aP ?_;exact Bw (wI .i64 (b+(1:Int))) () h SF Z
  refine gC ?_;exact kC () (()) h SF Z
 intro m p h;unfold q_ at h;refine aX<|aH Z<|aP<|aY ?_;cases h;exact mN Z
def pR  (a:Unit):Option Bool:=
 some (true)
def kT (U:Nat) (c:gA) (e:bM) (a:Int) (b:(Int)->Option Bool):Option Bool:=
 if a<(c.length:Int)then(ck (0<=a∧a<(c.length:Int)) (ck (0<=a∧a<(e.length:Int)) (Option.bind (mX U (at' c a) (at' e a)) λd=>(if(!d)=true then(some (false))else(b (wI .i64 (a+(1:Int))))))))else(pR  (()))
def nU (U:Nat) (a:gA) (b:bM):Option Bool:=
 if(b.length:Int)≠(a.length:Int)then(some (false))else(bP (kT U a b) U (0:Int))
theorem XJ:bB Tryz.prog 119:=Tryz.call119
theorem Il (U:Nat) {f:gA} {g:bM} (j:Value)  (p:iZ)  (k:Value)  (q:jY) (r:Bool) (h:nU U f g=some r):
  bO Tryz.prog 119 #[j,k] [S2 aW j p f,S2 aJ k q g] (λx:Unit=>vB (r)) (λx l=>l) (λ_ l=>l):=by
 refine bO.of Tryz.func119 Z Tryz.ntmps119 Z λc=>?_;refine aX<|aH Z<|aP<|aM<|aX<|aB Z<|aD (eP Z (aA.fact 1 Z) Z) Z<|aB Z<|aD (eP Z (aA.fact 0 Z) Z) Z<|oM Z<|aP ?_;refine f_ h Z (λh=>?_) λh=>?_
 ·refine aX<|aH Z<|aP<|aY<|aL ?_;cases h;exact mN Z
 refine dC<|aM<|jH (λe=>pR  e=some r) (λe n=>[]) (λe n=>[]) ?_ ?_
 ·refine aX<|aB Z<|aD (eP Z (aA.fact 0 Z) Z) Z<|aB Z<|aP<|aV<|iI (kT U f g) (λd o=>[(1,k),(12,j),(13,vI (f.length:Int)),(14,vI (d))]) (λd o=>[]) (0:Int) () h SF (aR.refl _) ?_;intro t d o h;refine aX<|dM Z<|aP<|aM ?_;refine f_ h Z (λh=>?_) λh=>?_
  ·refine dC<|aM<|aV<|aX<|aB Z<|eB h λa h=>aD (bV Z Z (aA.fact 0 Z) Z Z a) Z<|aD (cM Z (aA.fact 0 Z) Z Z a) Z<|aH Z<|aH Z<|aP<|aX<|aB Z<|aB Z<|aB Z<|eB h λb h=>aD (bV Z Z (aA.fact 1 Z) Z Z b) Z<|aD (cM Z (aA.fact 1 Z) Z Z b) Z<|fZ h λi m h=>aI (zBc Ux (Ec U ((at' p d).1) ((at' q d).1) i m) Z (aE.cons (zBe (aA.fact 0 Z) a.1 a.2) (aE.cons (zBe (aA.fact 1 Z) b.1 b.2) .nil))) Z λs=>aD (wL Z) Z<|aP ?_;refine Bf h Z (λ_ h=>?_) λ_ h=>?_
   ·refine aX<|aH Z<|aP<|aY<|cE<|aL<|aL<|cE<|aL ?_;cases h;exact mN Z
   refine fV<|oV<|aT<|dK Z<|aB Z<|aP ?_;exact Bw (wI .i64 (d+(1:Int))) () h SF Z
  refine gC ?_;exact kC () (()) h SF Z
 intro e n h;unfold pR at h;refine aX<|aH Z<|aP<|aY ?_;cases h;exact mN Z
def fC (U:Nat) (a:jX) (b:dL) (e:bM):Option (Int):=
 Option.bind (mH U ((a.1,a.2.1,a.2.2)) ((b.1,b.2))) λd=>(if d≠(0:Int)then(some (d))else(Option.bind (fL U ((a.1,a.2.1,a.2.2)) ((b.1,b.2))) λf=>(Option.bind (nU U f e) λc=>(if(!c)=true then(some (10:Int))else(some (0:Int))))))
theorem LV:bB Tryz.prog 75:=Tryz.call75
theorem xM (U:Nat) {a:jX} {g:dL} {p:bM} (b:Value)  (d:Value)  (e:Value)  (f:Value)  (o:iZ)  (m:Value)  (t:jY) (r:Int) (h:fC U a g p=some r):
  bO Tryz.prog 75 #[Value.agg #[vS (a.1),b,d],Value.agg #[e,f],m] [Sl aG b a.2.1,Sl aC d a.2.2,PF (Value.agg #[vS a.1,b,d]),Sl aJ e g.1,S2 aW f o g.2,S2 aJ m t p] (λx:Unit=>vI (r)) (λx l=>l) (λ_ l=>l):=by
 refine bO.of Tryz.func75 Z Tryz.ntmps75 Z λc=>?_;refine aX<|aI (aN.box (cs:=[vS (a.1),b,d]) Z Z) Z λz=>aI (aN.box (cs:=[e,f]) Z Z) Z λA=>aH Z<|aP<|aM<|aX<|cY 1 Z<|cY 0 Z<|fZ h λu v h=>aI (zBc QP (EX U b d e f o u v) Z (g_ [0,1,2,3,4] Z)) Z λB=>aH Z<|aP<|aX<|aB Z<|oM Z<|aP ?_;refine f_ h Z (λh=>?_) λh=>?_
 ·refine aX<|aB Z<|aH Z<|aP<|aY<|aL ?_;cases h;exact zJ Z
 refine dC<|aM<|aX<|cY 1 Z<|cY 0 Z<|fZ h λq w h=>aI (zBc Je (sU U b d e f o q w) Z (g_ [0,1,2,3,4] Z)) Z λs=>aB Z<|fZ h λk n h=>aI (zBc XJ (Il U s.1 (List.zip s.2 q) m t k n) Z (aE.cons (bZ (i:=0) (j:=1) Z Z bG) (g_ [5] Z))) Z λy=>aD (wL Z) Z<|aP ?_;refine Bf h Z (λ_ h=>?_) λ_ h=>?_
 ·refine aX<|aH Z<|aP<|aY<|aL ?_;cases h;exact zJ Z
 refine dC<|aX<|aH Z<|aP<|aY ?_;cases h;exact zJ Z
def wY  (a:bM):Option bM:=
 some (a)
def sK (c:bM) (a:xQ) (b:Ei->Option bM):Option bM:=
 if a.1<(c.length:Int)then(ck (0<=a.1∧a.1<(c.length:Int)) (ck ((List.length ([]:bT):Int)+((at' c a.1).length:Int)<=1099511627) (ck (0<=a.1∧a.1<(a.2.length:Int)) (b ((wI .i64 (a.1+(1:Int))),(List.set a.2 (Int.toNat a.1) (([]:bT)++(at' c a.1))))))))else(wY  (a.2))
def jU (U:Nat) (a:bM):Option bM:=
 ck (0<=(a.length:Int)∧(a.length:Int)<=1099511627) (bP (sK a) U ((0:Int),(List.replicate (Int.toNat (a.length:Int)) ([]:bT))))
theorem He:bB Tryz.prog 76:=Tryz.call76
theorem rO (U:Nat) {g:bM} (t:Value)  (w:jY) (r:bM) (h:jU U g=some r):
  bO Tryz.prog 76 #[t] [S2 aJ t w g] (λx:Fa=>x.1) (λx l=>Ar aZ.raw x.1 x.2::eH eC x.2 r::l) (λ_ l=>l):=by
 refine bO.of Tryz.func76 Z Tryz.ntmps76 Z λc=>?_;refine aX<|aH Z<|aP<|aX<|aB Z<|aD (eP Z (aA.fact 0 Z) Z) Z<|eB h λu h=>cG (lC eC (Int.toNat (g.length:Int)))<|aI (jD (e:=aZ.raw) (cJ) Z Z Z Z u Z Z Z) Z λp=>aH Z<|aP<|aM<|DN (B:=cR) (λm=>wY  m=some r) (λm n=>[(3,p)]) (λm n=>[Ar aZ.raw p n,eH eC n m]) ?_ ?_
 ·refine aX<|aB Z<|aD (eP Z (aA.fact 0 Z) Z) Z<|aB Z<|aP<|aV<|iI (B:=cR) (sK g) (λa b=>[(3,p),(9,t),(10,vI (g.length:Int)),(11,vI (a.1))]) (λa b=>[Ar aZ.raw p b,eH eC b a.2]) ((0:Int),(List.replicate (Int.toNat (g.length:Int)) ([]:bT))) (List.replicate (Int.toNat (g.length:Int)) (cJ)) h SF (aR.refl _) ?_;intro v a b h;refine aX<|dM Z<|aP<|aM ?_;refine f_ h Z (λh=>?_) λh=>?_
  ·refine dC<|aM<|aV<|aX<|aB Z<|eB h λf h=>aD (bV Z Z (aA.fact 0 Z) Z Z f) Z<|aD (cM Z (aA.fact 0 Z) Z Z f) Z<|aH Z<|aH Z<|aP<|aT<|aB Z<|aB Z<|aB Z<|cG (gZ eC)<|eB h λq h=>aI (mB 0 fO Z Z Z (zBe (aA.fact 0 Z) f.1 f.2) Z Z Z Z q Z) Z λs=>eB h λd h=>aD (bV Z Z (bZ (i:=1) (j:=2) Z Z fO) Z Z d) Z<|aQ (Know.one ((cB (aA.res 0 Z) fO))) λo=>cG (sA (k:=a.1) 2 0 Z Z Z d) ?_;refine mP 0 1 ⟨d.1,by first|exact d.2|simpa using d.2⟩ Z Z Z Z Z (by simp) o Z ?_;refine fH<|oV<|aT<|dK Z<|aB Z<|aP ?_;exact Bw ((wI .i64 (a.1+(1:Int))),(List.set a.2 (Int.toNat a.1) (([]:bT)++(at' g a.1)))) (List.set b (Int.toNat a.1) s) h SF Z
  refine gC ?_;exact kC (a.2) (b) h SF Z
 intro m n h;unfold wY at h;refine aX<|aB Z<|aH Z<|aP<|aY ?_;cases h;exact jR (p,n) Z Z (RV.tmp Z) (aR.refl _) aE.nil
end Go.Proofs.YtflciafboapaaaaGreat
namespace Go.Proofs.YtflciafboapaaaaGreat
open Go Go.Sx
abbrev BQ:=ByteArray×(List zY)×(List mE)
structure jV (g:GR) (vars:List zY):Prop where
 len:vars.length<=20
 small:∀x,x<vars.length->Dt (at' vars (x:Int))
 kind:∀x,x<vars.length->(at' vars (x:Int)).2.1=1∨(at' vars (x:Int)).2.1=2∨(at' vars (x:Int)).2.1=3
 range:∀x,x<vars.length->(at' vars (x:Int)).2.1=1 -> -100000<=lo g (at' vars (x:Int)) 0∧lo g (at' vars (x:Int)) 0<=hi g (at' vars (x:Int)) 0∧hi g (at' vars (x:Int)) 0 - lo g (at' vars (x:Int)) 0+1<=4096
theorem aaW {g:GR} (a:VG g):Aa 1000 g.1=some (iJ g g.1.length):=by
 have d:=a.n24;have b:=a.len;have h:=a.n1;have f:0<=at' g.1 ((0:Nat):Int):=(a.node 0 (by omega)).id.1;unfold Aa;rw[if_neg (by omega),dD (by omega)];have:=dY (step:=uN g.1) (K:=some (iJ g g.1.length)) (g.1.length - 1) (λk=>(iJ g (k+1),((k+1:Nat):Int))) (λk c i=>by
  unfold uN;dsimp only;rw[if_pos (by omega),dD (by omega),eI (by omega)];rfl) (λc=>by
  unfold uN yQ;dsimp only;rw[if_neg (by omega),show g.1.length - 1+1=g.1.length by omega]) 1000 (by omega)
 have e:iJ g (0+1)=at' g.1 (0:Int):=by
  show max (iJ g 0) (at' g.1 ((0:Nat):Int))=_;simp only[iJ];have:at' g.1 ((0:Nat):Int)=at' g.1 (0:Int):=rfl;omega
 rw[e]at this;exact this
theorem KF {g:GR} (c:VG g) {x:zY} (o:Dt x) (n:x.2.1=1∨x.2.1=2∨x.2.1=3) {v:Nat} (p:v<g.2.length):kA 1000 x g (v:Int)=some (lo g x v,hi g x v):=by
 obtain⟨⟨B,C⟩,⟨r,s⟩,t,u⟩:=o;have l:=c.n24;have d:=c.len;have e:=JC c g.1.length (by omega);have w:0<=x.2.2.2.2.1*(g.1.length:Int):=Int.mul_nonneg r (by omega);have y:x.2.2.2.2.1*(g.1.length:Int)<=100000*24:=Int.mul_le_mul s (by omega) (by omega) (by omega);have z:0<=x.2.2.2.2.2*iJ g g.1.length:=Int.mul_nonneg t e.1;have A:x.2.2.2.2.2*iJ g g.1.length<=100000*255:=Int.mul_le_mul u e.2 e.1 (by omega);have i:oI 1000 x g (v:Int)=some (x.2.2.1,x.2.2.2.1+x.2.2.2.2.1*(g.2.length:Int)+x.2.2.2.2.2*iJ g g.1.length):=by
  unfold oI;rw[bN (aaW c),wr (x:=x.2.2.2.2.1*_) (by omega) (by omega),wr (x:=x.2.2.2.2.2*_) (by omega) (by omega),wr (x:=x.2.2.2.1+_) (by omega) (by omega),wr (by omega) (by omega),d]
 have j:oJ 1000 x g (v:Int)=some (-1,((row g v).length:Int) - 1):=by
  have k:=(c.node v p).deg;unfold oJ;rw[dD (by omega)];show some ((-1:Int),wI .i64 (((row g v).length:Int) - 1))=_;rw[wr (by omega) (by omega)]
 have q:∀(f:Nat) (a:Int),bP (fJ 1000 x g (v:Int)) (f+1) a=fJ 1000 x g (v:Int) a (bP (fJ 1000 x g (v:Int)) f):=λf a=>rfl;have b:∀(f:Nat) (a:Int),a=0∨a=1∨a=2->bP (fJ 1000 x g (v:Int)) (f+1) a=if a=0 then(if 1=x.2.1 then oI 1000 x g (v:Int)else bP (fJ 1000 x g (v:Int)) f 1)else if a=1 then(if 2=x.2.1 then rS 1000 x g (v:Int)else bP (fJ 1000 x g (v:Int)) f 2)else(if 3=x.2.1 then oJ 1000 x g (v:Int)else bP (fJ 1000 x g (v:Int)) f 3):=by
  intro f a m;rw[q];generalize bP (fJ 1000 x g (v:Int)) f=G;unfold fJ mI;rcases m with rfl|rfl|rfl
  ·rw[if_pos (by decide),dD (by decide),if_pos Z,if_pos Z];split
   ·rw[i];rfl
   ·rfl
  ·rw[if_pos (by decide),dD (by decide),if_neg (show¬(1:Int)=0 by decide),if_pos Z,if_neg (show¬(1:Int)=0 by decide),if_pos Z];split
   ·rfl
   ·rfl
  ·rw[if_pos (by decide),dD (by decide),if_neg (show¬(2:Int)=0 by decide),if_neg (show¬(2:Int)=1 by decide),if_neg (show¬(2:Int)=0 by decide),if_neg (show¬(2:Int)=1 by decide)];split
   ·rw[j];rfl
   ·rfl
 unfold kA lo hi;rcases n with h|h|h
 ·rw[b 999 0 (.inl Z),if_pos Z,if_pos h.symm,i,h,if_neg (by decide),if_neg (by decide),if_neg (by decide),if_neg (by decide)]
 ·rw[b 999 0 (.inl Z),if_pos Z,if_neg (by omega),b 998 1 (.inr (.inl Z)),if_neg (by decide),if_pos Z,if_pos h.symm,h,if_pos Z,if_pos Z];rfl
 ·rw[b 999 0 (.inl Z),if_pos Z,if_neg (by omega),b 998 1 (.inr (.inl Z)),if_neg (by decide),if_pos Z,if_neg (by omega),b 997 2 (.inr (.inr Z)),if_neg (by decide),if_neg (by decide),if_pos h.symm,j,h,if_neg (by decide),if_pos Z,if_neg (by decide),if_pos Z]
def yV (g:GR) (a:List zY) (v x:Nat):fY:=(lo g (at' a (x:Int)) v,hi g (at' a (x:Int)) v)
def Bb (g:GR) (a:List zY) (v:Nat):fU:=(List.range a.length).map (yV g a v)
def qU (g:GR) (a:List zY):gA:=(List.range g.2.length).map (Bb g a)
theorem rB {a:Type} [Inhabited a] (f:Nat->a) {n k:Nat} (h:k<n):at' ((List.range n).map f) (k:Int)=f k:=by
 rw[iX (by simpa using h)];simp
theorem oU {a:Type} (f:Nat->a) (z:a) (n k:Nat) (h:k<n):((List.range k).map f++List.replicate (n - k) z).set k (f k)=(List.range (k+1)).map f++List.replicate (n - (k+1)) z:=by
 rw[show n - k=(n - (k+1))+1 by omega,List.replicate_succ,List.set_append_right _ _ (by simp),List.range_succ];simp
theorem Cd {g:GR} (m:VG g) {p:BQ} (n:jV g p.2.1):fL 1000 p g=some (qU g p.2.1):=by
 have s:=m.n24;have d:=m.len;have w:=n.len;let a:=p.2.1;let Q:Nat->gA:=λk=>(List.range k).map (Bb g a)++List.replicate (g.2.length - k) [];have c:∀k,k<=g.2.length->(Q k).length=g.2.length:=λk f=>by simp[Q];omega
 let R:Nat->Nat->fU:=λk j=>(List.range j).map (yV g a k)++List.replicate (a.length - j) (0,0);have l:∀k j,j<=a.length->(R k j).length=a.length:=λk j b=>by simp[R];omega
 unfold fL;rw[dD (by omega)];rw[show List.replicate (Int.toNat (g.1.length:Int)) ([]:fU)=Q 0 by simp[Q,d]];refine dY (step:=lW 1000 p g) (K:=some (qU g a)) g.2.length (λk=>((k:Int),Q k)) (λk e f=> ?_) (λe=> ?_) 1000 (by omega)
 ·unfold lW;dsimp only;rw[if_pos (by simp;omega),dD (by omega),dD (by rw[c k (by omega)];omega)];refine Eq.trans (?_:_=bP (nT 1000 p g ((k:Int),Q k) e) 1000 ((0:Int),(Q k).set k (R k 0))) ?_
  ·rw[zAf,zAf];simp[R,a]
  refine dY (step:=nT 1000 p g ((k:Int),Q k) e) (K:=e (((k+1:Nat):Int),Q (k+1))) a.length (λj=>((j:Int),(Q k).set k (R k j))) (λj h b=> ?_) (λh=> ?_) 1000 (by show p.2.1.length<1000;omega)
  ·have u:j<p.2.1.length:=b;have t:=KF m (n.small j b) (n.kind j b) f;have v:k<(Q k).length:=by rw[c k (by omega)];exact f
   have o:∀X:fU,at' ((Q k).set k X) (k:Int)=X:=λX=>by rw[wM _ _ _ _ v,if_pos Z]
   have i:j<(R k j).length:=by rw[l k j (by omega)];exact b
   unfold nT;dsimp only;rw[if_pos (by omega),dD (by omega),dD (by simp only[zA1];omega),dD (by simp only[zA1];omega),bN (show kA 1000 _ g (k:Int)=_ from t),zAf,zAf];simp only[o,List.set_set];rw[dD (by omega),dD (by simp only[zA1];omega),eI (by omega)];have:(R k j).set j (lo g (at' p.2.1 (j:Int)) k,hi g (at' p.2.1 (j:Int)) k)=R k (j+1):=oU (yV g a k) (0,0) a.length j b;rw[wM _ _ _ _ i,if_pos Z];dsimp only;rw[this]
  ·unfold nT uU;dsimp only;rw[if_neg (show¬((a.length:Nat):Int)<(p.2.1.length:Int)from Int.lt_irrefl _),eI (by omega)];have q:R k a.length=Bb g a k:=by simp[R,Bb]
   have r:(Q k).set k (Bb g a k)=Q (k+1):=oU (Bb g a) [] g.2.length k f;rw[q,r]
 ·unfold lW uT;dsimp only;rw[if_neg (by simp;omega)];simp[Q,qU]
theorem Mc {g:GR} (c:VG g) {p:BQ} (b:jV g p.2.1):mH 1000 p g=some 0:=by
 have i:=c.n1;have h:=b.len;unfold mH;rw[bN (show BH 1000 _=some true from rfl),if_neg (by decide),bN (show iG 1000 g=some true from(Ls g).1 c),if_neg (by decide)];refine dY (step:=mT 1000 p g) (K:=some 0) p.2.1.length (λk=>(k:Int)) (λk e d=> ?_) (λe=> ?_) 1000 (by omega)
 ·unfold mT pJ wQ pJ;rw[if_pos (by omega),dD (by omega),eI (by omega)];by_cases a:(at' p.2.1 (k:Int)).2.1=1
  ·obtain⟨j,l,m⟩:=b.range k d a;have f:=KF c (b.small k d) (b.kind k d) (v:=0) (by omega);rw[if_neg (by simpa using a),bN (show kA 1000 _ g (0:Int)=_ from f)];dsimp only;rw[if_neg (by omega),wr (x:=hi g (at' p.2.1 (k:Int)) 0 - lo g (at' p.2.1 (k:Int)) 0) (by omega) (by omega),wr (by omega) (by omega),if_neg (by rw[zA7];omega)]
  ·rw[if_pos a]
 ·unfold mT wP;rw[if_neg (by omega)]
theorem WC {g:GR} {a:List zY} (i:a.length<=20) {v:Nat} {l:bT} (c:l.length=a.length) (d:∀x,x<a.length->lo g (at' a (x:Int)) v<=at' l (x:Int)∧at' l (x:Int)<=hi g (at' a (x:Int)) v):mX 1000 (Bb g a v) l=some true:=by
 have f:(Bb g a v).length=a.length:=by simp[Bb]
 unfold mX;rw[if_neg (by rw[f,c];simp)];refine dY (step:=kD (Bb g a v) l) (K:=some true) l.length (λk=>(k:Int)) (λk b h=> ?_) (λb=> ?_) 1000 (by omega)
 ·have e:at' (Bb g a v) (k:Int)=yV g a v k:=rB _ (by omega);have:=d k (by omega);unfold kD rA;rw[if_pos (by omega),dD (by omega),dD (by omega),e];rw[if_neg (show¬at' l (k:Int)<(yV g a v k).1 from Int.not_lt.2 this.1),dD (by omega),if_neg (by rw[zA7];exact Int.not_lt.2 this.2),eI (by omega)]
 ·unfold kD q_;rw[if_neg (by omega)]
theorem Jk {g:GR} (a:VG g) {p:BQ} (f:jV g p.2.1) {c:bM} (b:Xc g c p.2.1):fC 1000 p g c=some 0:=by
 have i:=a.n24;have l:(qU g p.2.1).length=g.2.length:=by simp[qU]
 have d:=b.len;unfold fC;rw[bN (show mH 1000 _ _=some 0 from Mc a f),if_neg (by decide),bN (show fL 1000 _ _=_ from Cd a f)];have:nU 1000 (qU g p.2.1) c=some true:=by
  unfold nU;rw[if_neg (by rw[l,d];simp)];refine dY (step:=kT 1000 (qU g p.2.1) c) (K:=some true) g.2.length (λk=>(k:Int)) (λk h e=> ?_) (λh=> ?_) 1000 (by omega)
  ·have j:at' (qU g p.2.1) (k:Int)=Bb g p.2.1 k:=rB _ e;unfold kT;rw[if_pos (by omega),dD (by omega),dD (by omega),j,bN (WC f.len (b.row k e) (b.ok k e)),if_neg (by decide),eI (by omega)]
  ·unfold kT pR;rw[if_neg (by omega)]
 rw[bN this,if_neg (by decide)]
theorem FW (c:bM) (h:c.length<=900) (e:∀v,v<c.length->(at' c (v:Int)).length<=1000):jU 1000 c=some c:=by
 unfold jU;rw[dD (by omega)];let Q:Nat->bM:=λk=>(List.range k).map (λv:Nat=>at' c (v:Int))++List.replicate (c.length - k) [];rw[show List.replicate (Int.toNat (c.length:Int)) ([]:bT)=Q 0 by simp[Q]];refine dY (step:=sK c) (K:=some c) c.length (λk=>((k:Int),Q k)) (λk b a=> ?_) (λb=> ?_) 1000 (by omega)
 ·have g:(Q k).length=c.length:=by simp[Q];omega
  have:=e k a;unfold sK;dsimp only;rw[if_pos (by omega),dD (by omega),dD (by simp;omega),dD (by omega),eI (by omega),zAf,List.nil_append];have:(Q k).set k (at' c (k:Int))=Q (k+1):=oU (λv:Nat=>at' c (v:Int)) [] c.length k a;rw[this]
 ·unfold sK wY;dsimp only;rw[if_neg (by omega)];congr 1;refine List.ext_getElem (by simp[Q]) λi f d=> ?_;simp[Q,iX d]
def sat (x:Int):Int:=max (-1073741824) (min x 1073741824)
def unD (o x:Int):Int:=if o=18 then wI .i64 (0 - x)else XA (decide (x=0))
def YN (a b:Int):Int:=if b=0 then 0 else if Int.tmod a b≠0∧((decide (a<0)) != (decide (b<0)))=true then wI .i64 (wI .i64 (Int.tdiv a b) - 1)else wI .i64 (Int.tdiv a b)
def aax (o x y:Int):Bool:=if o=35 then decide (x=y)else if o=36 then decide (x≠y)else if o=37 then decide (x<y)else if o=38 then decide (x<=y)else if o=39 then decide (y<x)else decide (y<=x)
def biD (o x y:Int):Int:=
 if o=30 then sat (wI .i64 (x*y))else if o=31 then sat (YN x y)else if o=32 then(if y=0 then 0 else sat (wI .i64 (x - wI .i64 (y*YN x y))))else if o=33 then sat (wI .i64 (x+y))else if o=34 then sat (wI .i64 (x - y))
 else if o=41 then XA (decide (x≠0)&&decide (y≠0))else if o=42 then XA (decide (x≠0)||decide (y≠0))else XA (aax o x y)
theorem WJ (f:Nat) (o x:Int):z_ f o x=some (unD o x):=by
 unfold z_ unD;split
 ·rfl
 ·rw[bN (uP f _)]
theorem Wg (f:Nat) (a b:Int):qY f a b=some (YN a b):=by
 unfold qY YN;by_cases c:b=0
 ·rw[if_pos c,if_pos c]
 ·rw[if_neg c,if_neg c,dD c,dD c];by_cases d:Int.tmod a b=0
  ·rw[if_neg (by simpa using d),if_neg (by simp[d])];rfl
  ·rw[if_pos d];unfold tA pM;by_cases e:((decide (a<0)) != (decide (b<0)))=true
   ·rw[if_pos e,if_pos ⟨d,e⟩]
   ·rw[if_neg e,if_neg (λq=>e q.2)]
theorem aay (f:Nat) (o x y:Int):uX f o x y=some (aax o x y):=by
 unfold uX aax
 repeat' split
 all_goals rfl
theorem SE (f:Nat) (o x y:Int):yN f o x y=some (biD o x y):=by
 unfold yN biD;by_cases h:o=30
 ·rw[if_pos h,if_pos h];rfl
 rw[if_neg h,if_neg h];by_cases h:o=31
 ·rw[if_pos h,if_pos h,bN (Wg f x y)];rfl
 rw[if_neg h,if_neg h];by_cases h:o=32
 ·rw[if_pos h,if_pos h];by_cases b:y=0
  ·rw[if_pos b,if_pos b]
  ·rw[if_neg b,if_neg b,bN (Wg f x y)];rfl
 rw[if_neg h,if_neg h];by_cases h:o=33
 ·rw[if_pos h,if_pos h];rfl
 rw[if_neg h,if_neg h];by_cases h:o=34
 ·rw[if_pos h,if_pos h];rfl
 rw[if_neg h,if_neg h];by_cases h:o=41
 ·rw[if_pos h,if_pos h];by_cases a:x=0
  ·rw[if_neg (by simpa using a),bN (uP f _)];simp[a,pK]
  ·rw[if_pos a,bN (uP f _)];simp[a,pK]
 rw[if_neg h,if_neg h];by_cases h:o=42
 ·rw[if_pos h,if_pos h];by_cases a:x=0
  ·rw[if_neg (by simpa using a),bN (uP f _)];simp[a,pL]
  ·rw[if_pos a,bN (uP f _)];simp[a,pL]
 rw[if_neg h,if_neg h,bN (aay f o x y),bN (uP f _)]
def E.den (L:Int->Int->Int->Int) (b:Nat):E->Int->Int
 |lf o a,p=>L o a p
 |un o x,p=>unD o (x.den L b p)
 |ag o x,_=>Rf o ((List.range b).map λq=>x.den L b ((q:Nat):Int))
 |bi o x y,p=>biD o (x.den L b p) (y.den L b p)
 |ite x y z,p=>if x.den L b p≠0 then y.den L b p else z.den L b p
def E.wf (c:Nat):Bool->E->Bool
 |b,lf o a=>decide (1<=o)&&decide (o<=17)&&(b||decide (o<=10))&&((decide (o≠5)&&decide (o≠12))||(decide (0<=a)&&decide (a<(c:Int))))
 |b,un o x=>decide (18<=o)&&decide (o<=19)&&x.wf c b
 |_,ag o x=>(decide (o=20)||decide (o=21)||decide (o=22)||decide (o=23)||decide (o=24)||decide (o=26)||decide (o=27))&&x.wf c true
 |b,bi o x y=>decide (30<=o)&&decide (o<=42)&&x.wf c b&&y.wf c b
 |b,ite x y z=>x.wf c b&&y.wf c b&&z.wf c b
theorem Xj {i:Nat}:∀{e:E} {b:Bool},e.wf i b=true->e.arOk=true:=by
 intro e
 induction e with
 |lf o a=>intro b h;simp[E.wf,E.arOk]at h ⊢;omega
 |un o x f=>intro b h;simp[E.wf,E.arOk]at h ⊢;exact⟨h.1,f h.2⟩
 |ag o x f=>intro b h;simp[E.wf,E.arOk]at h ⊢;exact⟨by omega,f h.2⟩
 |bi o x y c d=>intro b h;simp[E.wf,E.arOk]at h ⊢;exact⟨⟨h.1.1,c h.1.2⟩,d h.2⟩
 |ite x y z c d g=>intro b h;simp[E.wf,E.arOk]at h ⊢;exact⟨⟨c h.1.1,d h.1.2⟩,g h.2⟩
def VL (W:WLK) (p:Int):Int:=(at' (at' W.1.2.1.2 W.2.2.1) p).1
def VC (W:WLK) (o a p:Int):Int:=
 if o=1 then a else if o=2 then 1 else if o=3 then 0 else if o=4 then -1 else if o=5 then at' (at' W.2.1 W.2.2.1) a else if o=12 then at' (at' W.2.1 (VL W p)) a
 else if o=6 then(W.1.2.1.1.length:Int)else if o=7 then W.1.2.2.1 else if o=8 then at' W.1.2.1.1 W.2.2.1 else if o=9 then((at' W.1.2.1.2 W.2.2.1).length:Int)else if o=10 then XA (decide (W.2.2.1=0))else if o=11 then p
 else if o=13 then at' W.1.2.1.1 (VL W p)else if o=14 then((at' W.1.2.1.2 (VL W p)).length:Int)else if o=15 then XA (decide (VL W p=0))else if o=16 then(at' (at' W.1.2.1.2 W.2.2.1) p).2 else at' (at' W.1.2.2.2 W.2.2.1) p
structure WOk (W:WLK) (nv n v:Nat):Prop where
 node:W.2.2.1=(v:Int)
 lt:v<n
 ports:W.1.2.1.2.length=n
 ids:W.1.2.1.1.length=n
 c:W.2.1.length=n
 row:∀u:Nat,u<n->(at' W.2.1 (u:Int)).length=nv
 to:∀u:Nat,u<n->∀i:Nat,i<(at' W.1.2.1.2 (u:Int)).length->0<=(at' (at' W.1.2.1.2 (u:Int)) (i:Int)).1∧(at' (at' W.1.2.1.2 (u:Int)) (i:Int)).1<(n:Int)
 bl:W.1.2.2.2.length=n
 br:∀u:Nat,u<n->(at' W.1.2.2.2 (u:Int)).length=(at' W.1.2.1.2 (u:Int)).length
def Pb (b:Bool) (a:Nat) (p:Int):Prop:=b=true->∃q:Nat,p=(q:Int)∧q<a
theorem YB {W:WLK} {k n v:Nat} (h:WOk W k n v) (f:Nat) {b:Bool} {o a p:Int} (s:(E.lf o a).wf k b=true) (r:Pb b (at' W.1.2.1.2 (v:Int)).length p):lY f W (o,a) p=some (VC W o a p):=by
 obtain⟨y,c,A,B,C,l,m,F,w⟩:=h;simp only[E.wf,zA3,zB2,zA7]at s;obtain⟨⟨⟨G,H⟩,d⟩,I⟩:=s;have z:(at' W.2.1 (v:Int)).length=k:=l v c;unfold lY VC VL;dsimp only;rw[y];by_cases e:o=1
 ·simp only[if_pos e]
 simp only[if_neg e];by_cases e:o=2
 ·simp only[if_pos e]
 simp only[if_neg e];by_cases e:o=3
 ·simp only[if_pos e]
 simp only[if_neg e];by_cases e:o=4
 ·simp only[if_pos e]
 simp only[if_neg e];by_cases e:o=5
 ·simp only[if_pos e];rw[dD (by omega),dD (by omega)]
 simp only[if_neg e];by_cases e:o=12
 ·have i:b=true:=by
   rcases d with d|d
   ·exact d
   ·omega
  obtain⟨q,rfl,j⟩:=r i;have g:=m v c q j;obtain⟨u,x⟩:∃u:Nat,(at' (at' W.1.2.1.2 (v:Int)) (q:Int)).1=(u:Int):=⟨_,(Int.toNat_of_nonneg g.1).symm⟩
  simp only[if_pos e];rw[x]at g ⊢;have D:=l u (by omega);rw[dD (by omega),dD (by omega),dD (by omega),dD (by omega)]
 simp only[if_neg e];unfold sG;dsimp only;by_cases e:o=6
 ·simp only[if_pos e];rfl
 simp only[if_neg e];by_cases e:o=7
 ·simp only[if_pos e];rfl
 simp only[if_neg e];by_cases e:o=8
 ·simp only[if_pos e];rw[dD (by omega)];rfl
 simp only[if_neg e];by_cases e:o=9
 ·simp only[if_pos e];rw[dD (by omega)];rfl
 simp only[if_neg e];by_cases e:o=10
 ·simp only[if_pos e];rw[bN (uP f _)];rfl
 simp only[if_neg e];by_cases e:o=11
 ·simp only[if_pos e];rfl
 simp only[if_neg e];have i:b=true:=by
  rcases d with d|d
  ·exact d
  ·omega
 obtain⟨q,rfl,j⟩:=r i;have g:=m v c q j;rw[dD (by omega),dD (by omega)];by_cases e:o=13
 ·simp only[if_pos e];rw[dD (by omega)];rfl
 simp only[if_neg e];by_cases e:o=14
 ·simp only[if_pos e];rw[dD (by omega)];rfl
 simp only[if_neg e];by_cases e:o=15
 ·simp only[if_pos e];rw[bN (uP f _)];rfl
 simp only[if_neg e];by_cases e:o=16
 ·simp only[if_pos e];rfl
 simp only[if_neg e];have t:=w v c;rw[dD (by omega),dD (by omega)];rfl
theorem WY {W:WLK} {nv n v:Nat} (h:WOk W nv n v) {deg:Nat} (m:(at' W.1.2.1.2 (v:Int)).length=deg) (L:deg<=24) (S:W.2.2.2.length<=800):
  ∀(e:E) (b:Bool) (c k:Nat) (p:Int) (g d:fU),W.2.2.2=g++(e.ts++d)->g.length=k->e.wf nv b=true->Pb b deg p->e.depth+850<=c->
   cC c W (k:Int) p=some (e.den (VC W) deg p,(((k+e.ts.length:Nat)):Int)):=by
 obtain⟨Q,ab,h1,h2,h3,h4,h5,_,_⟩:=id h;have i:∀{t:fY} {l g d:fU} {k:Nat},W.2.2.2=g++((t::l)++d)->g.length=k->at' W.2.2.2 (k:Int)=t∧(k:Int)<(W.2.2.2.length:Int):=by
  intro t l g d k j r;refine⟨QN (rest:=l++d) (by simpa using j) r,?_⟩
  rw[j];simp;omega
 intro e
 induction e with
 |lf o a=>
  intro b c k p g d j r u w B;obtain⟨c,rfl⟩:∃f,c=f+1:=⟨c - 1,by omega⟩
  obtain⟨A,s⟩:=i (l:=[]) j r;show dV (cC c) c W (k:Int) p=_;unfold dV;rw[dD ⟨by omega,s⟩,A];dsimp only;have X:=u;simp only[E.wf,zA3,zB2,zA7]at X;have hl:=YB h c u (m▸w);rw[if_pos (by omega),bN (show lY c _ (o,a) p=some (VC W o a p)from hl),eI (by omega)];rfl
 |un o x ih=>
  intro b c k p g d j r u w B;obtain⟨c,rfl⟩:∃f,c=f+1:=⟨c - 1,by omega⟩
  obtain⟨A,s⟩:=i (l:=x.ts) j r;show dV (cC c) c W (k:Int) p=_;unfold dV;rw[dD ⟨by omega,s⟩,A];dsimp only;simp only[E.wf,zA3,zA7]at u;simp only[E.depth]at B;have F:=ih b c (k+1) p (g++[(o,0)]) d (by rw[j];simp[E.ts]) (by simp[r]) u.2 w (by omega);rw[if_neg (by omega),if_pos (by omega),eI (by omega),bN (show cC c _ _ p=_ from F),bN (WJ c _ _)];simp only[E.den,E.ts,zAk];rw[show k+1+x.ts.length=k+(x.ts.length+1) by omega]
 |bi o x y G H=>
  intro b c k p g d j r u w B;obtain⟨c,rfl⟩:∃f,c=f+1:=⟨c - 1,by omega⟩
  obtain⟨A,s⟩:=i (l:=x.ts++y.ts) j r;show dV (cC c) c W (k:Int) p=_;unfold dV;rw[dD ⟨by omega,s⟩,A];dsimp only;simp only[E.wf,zA3,zA7]at u;simp only[E.depth]at B;have F:=G b c (k+1) p (g++[(o,0)]) (y.ts++d) (by rw[j];simp[E.ts]) (by simp[r]) u.1.2 w (by omega);have Y:=H b c (k+1+x.ts.length) p (g++(o,0)::x.ts) d (by rw[j];simp[E.ts]) (by simp[r];omega) u.2 w (by omega);rw[if_neg (by omega),if_neg (by omega),if_neg (by omega),if_pos (by omega),eI (by omega),bN (show cC c _ _ p=_ from F),bN (show cC c _ _ p=_ from Y),bN (SE c _ _ _)];simp only[E.den,E.ts,zAk,zAc];rw[show k+1+x.ts.length+y.ts.length=k+(x.ts.length+y.ts.length+1) by omega]
 |ite x y z G H aa=>
  intro b c k p g d j r u w B;obtain⟨c,rfl⟩:∃f,c=f+1:=⟨c - 1,by omega⟩
  obtain⟨A,s⟩:=i (l:=x.ts++(y.ts++z.ts)) j r;show dV (cC c) c W (k:Int) p=_;unfold dV;rw[dD ⟨by omega,s⟩,A];dsimp only;simp only[E.wf,zA3]at u;simp only[E.depth]at B;have F:=G b c (k+1) p (g++[(43,0)]) (y.ts++z.ts++d) (by rw[j];simp[E.ts]) (by simp[r]) u.1.1 w (by omega);have Y:=H b c (k+1+x.ts.length) p (g++(43,0)::x.ts) (z.ts++d) (by rw[j];simp[E.ts]) (by simp[r];omega) u.1.2 w (by omega);have hz:=aa b c (k+1+x.ts.length+y.ts.length) p (g++(43,0)::(x.ts++y.ts)) d (by rw[j];simp[E.ts]) (by simp[r];omega) u.2 w (by omega);rw[if_neg (by decide),if_neg (by decide),if_neg (by decide),if_neg (by decide),eI (by omega),bN (show cC c _ _ p=_ from F),bN (show cC c _ _ p=_ from Y),bN (show cC c _ _ p=_ from hz)];simp only[E.den,E.ts,zAk,zAc];rw[show k+1+x.ts.length+y.ts.length+z.ts.length=k+(x.ts.length+(y.ts.length+z.ts.length)+1) by omega];split<;>rfl
 | ag o x ih =>
  intro b c k p g d j r u w B;obtain⟨c,rfl⟩:∃f,c=f+1:=⟨c - 1,by omega⟩
  obtain⟨A,s⟩:=i (l:=x.ts) j r;have T:=Xj u;have R:=u;simp only[E.wf,zA3,zB2,zA7]at R;simp only[E.depth]at B;have P:(E.ag o x).ts.length=x.ts.length+1:=rfl;have M:=congrArg List.length j;simp only[zAc]at M;show dV (cC c) c W (k:Int) p=_;unfold dV;rw[dD ⟨by omega,s⟩,A];dsimp only;rw[if_neg (by omega),if_neg (by omega),if_pos (by omega),dD (by omega)];let D:Nat->Int:=λq=>x.den (VC W) deg ((q:Nat):Int);let V:Nat->bT:=λq=>(List.range q).map D++List.replicate (24 - q) 0;have J:∀q,q<=24->(V q).length=24:=λq U=>by simp[V];omega
  have O:∀q,q<24->(V q).set q (D q)=V (q+1):=λq U=>by
   show((List.range q).map D++List.replicate (24 - q) 0).set q (D q)=(List.range (q+1)).map D++List.replicate (24 - (q+1)) 0;rw[show 24 - q=(24 - (q+1))+1 by omega,List.replicate_succ,List.set_append_right _ _ (by simp),List.range_succ];simp
  let N:Nat->Int:=λq=>if q=0 then 0 else(((k+1+x.ts.length:Nat)):Int)
  refine Eq.trans (dY (step:=kL c W (k:Int) (cC c)) (K:=some ((E.ag o x).den (VC W) deg p,(((k+(E.ag o x).ts.length:Nat)):Int))) deg (λq=>(N q,(q:Int),V q)) (λq ag U=> ?_) (λag=> ?_) c (by omega)) Z
  ·unfold kL;dsimp only;have F:=ih true c (k+1) ((q:Nat):Int) (g++[(o,0)]) d (by rw[j];simp[E.ts]) (by simp[r]) R.2 (λ_=>⟨q,rfl,U⟩) (by omega);rw[if_pos (by rw[Q,m];omega),eI (by omega),bN (show cC c _ _ _=_ from F),dD ⟨by omega,J q (by omega)⟩,eI (by omega),zAf];show ag (_,_,(V q).set q (D q))=_;rw[O q (by omega)];simp only[N];rw[if_neg (by omega)]
  ·unfold kL;dsimp only;rw[if_neg (by rw[Q,m];omega)];have C:List.take deg (V deg)=(List.range deg).map D:=by
    show List.take deg ((List.range deg).map D++_)=_;exact List.take_left' (by simp)
   have I:∀y:Int,y=(((k+1+x.ts.length:Nat)):Int)->kK c W (k:Int) (N deg,V deg) y=some ((E.ag o x).den (VC W) deg p,(((k+(E.ag o x).ts.length:Nat)):Int)):=by
    rintro y rfl;unfold kK;dsimp only;rw[Q,m,dD ⟨by omega,by omega,by rw[J deg L];omega⟩,A,zAf,C,bN (Yq c o _ (by omega) (by simp;omega) (by omega))];unfold nG;rw[P,show k+1+x.ts.length=k+(x.ts.length+1) by omega];rfl
   unfold rP;dsimp only;by_cases h0:deg=0
   ·rw[if_pos (by rw[Q,m];omega),bN (aaB c (E.ag o x) T j r S (by omega))];exact I _ (by rw[P];omega)
   ·rw[if_neg (by rw[Q,m];omega)];exact I _ (by simp only[N];rw[if_neg h0])
end Go.Proofs.YtflciafboapaaaaGreat
namespace Go.Proofs.YtflciafboapaaaaGreat
open Go.Sx
def gQ (U:Nat) (a:Tv) (b:bM) (c:Int) (d:fU):Option (Int):=
 Option.bind (cC U ((((((a.1.1,a.1.2.1,a.1.2.2)),((a.2.1.1,a.2.1.2)),a.2.2.1,a.2.2.2)),b,c,d)) (0:Int) (-1:Int)) λe=>(some (e.1))
theorem QR:bB Tryz.prog 172:=Tryz.call172
theorem xV (U:Nat) {d:Tv} {s:bM} {f:Int} {t:fU} (a:Nat)  (m:Value)  (n:Value)  (o:Value)  (p:Value)  (u:iZ)  (q:Value)  (v:jY)  (e:Value)  (y:jY)  (b:Value) (r:Int) (h:gQ U d s f t=some r):
  bO Tryz.prog 172 #[vP a,e,vI (f),b] [bI a [vS (d.1.1),m,n,o,p,vI (d.2.2.1),q] 206,Sl aG m d.1.2.1,Sl aC n d.1.2.2,Sl aJ o d.2.1.1,S2 aW p u d.2.1.2,S2 aJ q v d.2.2.2,S2 aJ e y s,Sl aW b t] (λx:Unit=>vI (r)) (λx l=>l) (λ_ l=>l):=by
 refine bO.of Tryz.func172 Z Tryz.ntmps172 Z λc=>?_;refine aX<|aH Z<|aP<|aX<|aB Z<|aB Z<|aB Z<|aB Z<|aQ (Know.one (aA.sl (aA.fact 6 Z))) λg=>aQ (Know.one ((aA.fact 7 Z))) λi=>?_;refine aD (Uc (r:=Value.agg #[Value.pointer (some ⟨a,0,none⟩),e,vI (f),b]) Z Z Z Z (by intro w;simp[Instr.build,Instr.fill,dO,cV,cL,dQ,dR,cW,eN,dG g,dG i])) Z ?_;refine aI (aN.alloc (cs:=[Value.pointer none,cJ,vI (0:Int),cJ]) Z Z) Z λz=>aQ (Know.one (aA.sl (aA.fact 6 Z))) λj=>aQ (Know.one ((aA.fact 7 Z))) λk=>bL 0 (vs:=[vP a,e,vI (f),b]) Z Z (dH Z (dH j (dH Z (dH k Z)))) Z Z Z<|aP<|aX<|fZ h λA B h=>aI (zBc Be (D_ U z a m n o p u q v e y b A B) Z (aE.cons (aA.res 0 Z) (g_ [0,1,2,3,4,5,6,7] Z))) Z λC=>aB Z<|iR Z<|iR Z<|aH Z<|aH Z<|aP<|aX<|aB Z<|aH Z<|aP<|aY ?_;cases h;exact zJ Z
def kP (U:Nat) (a:Tv) (c:bM) (d:Int) (b:Int):Option Bool:=
 ck (0<=b∧b<(a.1.2.2.length:Int)) (Option.bind (gQ U ((((a.1.1,a.1.2.1,a.1.2.2)),((a.2.1.1,a.2.1.2)),a.2.2.1,a.2.2.2)) c d ((at' a.1.2.2 b).2.1.2)) λe=>(some (decide (e≠(0:Int)))))
theorem XQ:bB Tryz.prog 165:=Tryz.call165
theorem Di (U:Nat) {a:Tv} {n:bM} {o:Int} {e:Int} (b:Nat)  (f:Value)  (g:Value)  (i:Value)  (j:Value)  (p:iZ)  (k:Value)  (q:jY)  (m:Value)  (s:jY) (r:Bool) (h:kP U a n o e=some r):
  bO Tryz.prog 165 #[vP b,m,vI (o),vI (e)] [bI b [vS (a.1.1),f,g,i,j,vI (a.2.2.1),k] 206,Sl aG f a.1.2.1,Sl aC g a.1.2.2,Sl aJ i a.2.1.1,S2 aW j p a.2.1.2,S2 aJ k q a.2.2.2,S2 aJ m s n] (λx:Unit=>vB (r)) (λx l=>l) (λ_ l=>l):=by
 refine bO.of Tryz.func165 Z Tryz.ntmps165 Z λc=>?_;refine aX<|aH Z<|aP<|aX<|aB Z<|aB Z<|aB Z<|aB Z<|aD (bE Z) Z<|cA Z<|cA Z<|aD (eK Z (aA.fact 0 Z) Z Z Z) Z<|aB Z<|eB h λd h=>aD (b_ Z Z (aA.fact 2 Z) Z Z d) Z<|aD (nS Z Z Z Z Z) Z<|aD (qL Z (aA.fact 2 Z) Z Z Z zV d) Z<|fZ h λt u h=>aI (zBc QR (xV U b f g i j p k q m s ((at' a.1.2.2 e).2.1.1) t u) Z (aE.cons (aA.fact 0 Z) (aE.cons (aA.fact 1 Z) (aE.cons (aA.fact 2 Z) (aE.cons (aA.fact 3 Z) (aE.cons (aA.fact 4 Z) (aE.cons (aA.fact 5 Z) (aE.cons (aA.fact 6 Z) (aE.cons (vT (aA.fact 2 Z) zX d.1 d.2) .nil))))))))) Z λv=>oM Z<|aH Z<|aP<|aY ?_;cases h;exact mN Z
def nI  (a:Unit):Option (Int):=
 some (-1:Int)
def kN (U:Nat) (a:HJ) (d:bM) (e:Int) (b:Int) (c:(Int)->Option (Int)):Option (Int):=
 if b<(a.1.2.2.length:Int)then(Option.bind (kP U ((((a.2.1.1.1,a.2.1.1.2.1,a.2.1.1.2.2)),((a.2.1.2.1.1,a.2.1.2.1.2)),a.2.1.2.2.1,a.2.1.2.2.2)) d e b) λf=>(if f=true then(some (b))else(c (wI .i64 (b+(1:Int))))))else(nI  (()))
def cO (U:Nat) (a:HJ) (b:bM) (c:Int):Option (Int):=
 bP (kN U a b c) U (0:Int)
theorem FS:bB Tryz.prog 102:=Tryz.call102
theorem lN (U:Nat) {p0:HJ} {p1:bM} {p2:Int} (b:Nat)  (v:Value)  (w:Value)  (d:Nat)  (k:Value)  (m:Value)  (n:Value)  (o:Value)  (y:iZ)  (p:Value)  (f:jY)  (e:Value)  (s:iZ)  (a:Value)  (g:jY) (r:Int) (h:cO U p0 p1 p2=some r):
  bO Tryz.prog 102 #[vP b,a,vI (p2)] [bI b [vS (p0.1.1),v,w,vP d,e] 157,Sl aG v p0.1.2.1,Sl aC w p0.1.2.2,bI d [vS (p0.2.1.1.1),k,m,n,o,vI (p0.2.1.2.2.1),p] 206,Sl aG k p0.2.1.1.2.1,Sl aC m p0.2.1.1.2.2,Sl aJ n p0.2.1.2.1.1,S2 aW o y p0.2.1.2.1.2,S2 aJ p f p0.2.1.2.2.2,S2 aW e s p0.2.2,S2 aJ a g p1] (λx:Unit=>vI (r)) (λx l=>l) (λ_ l=>l):=by
 refine bO.of Tryz.func102 Z Tryz.ntmps102 Z λc=>?_;unfold cO at h;refine aX<|aH Z<|aP<|aM<|jH (λi=>nI  i=some r) (λi t=>[]) (λi t=>[]) ?_ ?_
 ·refine aX<|aB Z<|aD (bE Z) Z<|cA Z<|cA Z<|aD (eK Z (aA.fact 0 Z) Z Z Z) Z<|lT (aA.fact 2 Z) Z<|aB Z<|aP<|aV<|iI (kN U p0 p1 p2) (λj u=>[(0,vP b),(1,a),(2,vI (p2)),(13,vI (p0.1.2.2.length:Int)),(14,vI (j))]) (λj u=>[]) (0:Int) () h SF (aR.refl _) ?_;intro B j u h;refine aX<|dM Z<|aP<|aM ?_;refine f_ h Z (λh=>?_) λh=>?_
  ·refine dC<|aM<|aV<|aX<|aB Z<|aH Z<|aP<|aX<|aB Z<|aD (bE Z) Z<|cA Z<|aD (eK Z (aA.fact 0 Z) Z Z Z) Z<|aB Z<|aB Z<|aB Z<|fZ h λz q h=>aI (zBc XQ (Di U d k m n o y p f a g z q) Z (g_ [3,4,5,6,7,8,10] Z)) Z λA=>aP ?_;refine Bf h Z (λ_ h=>?_) λ_ h=>?_
   ·refine aX<|aB Z<|aH Z<|aP<|aY<|cE<|aL<|aL<|cE<|aL ?_;cases h;exact mN Z
   refine fV<|oV<|aT<|dK Z<|aB Z<|aP ?_;exact Bw (wI .i64 (j+(1:Int))) () h SF Z
  refine gC ?_;exact kC () (()) h SF Z
 intro i t h;unfold nI at h;refine aX<|aH Z<|aP<|aY ?_;cases h;exact mN Z
def uS (d:Int) (a:fY) (b:Int) (c:Bool):Option (Int):=
 if c=true then(some (b))else(if d=(3:Int)then(some (-1:Int))else(if b<a.1 then(some (a.1))else(some (a.2))))
def wV (U:Nat) (c:Int) (a:fY) (b:Int):Option (Int):=
 if a.1<=b then(uS c a b (decide (b<=a.2)))else(uS c a b (false))
theorem XR:bB Tryz.prog 173:=Tryz.call173
theorem JS (U:Nat) {e:Int} {a:fY} {d:Int} (r:Int) (h:wV U e a d=some r):
  bO Tryz.prog 173 #[vI (e),Value.agg #[vI (a.1),vI (a.2)],vI (d)] [] (λx:Unit=>vI (r)) (λx l=>l) (λ_ l=>l):=by
 refine bO.of Tryz.func173 Z Tryz.ntmps173 Z λc=>?_;refine aX<|aI (aN.box (cs:=[vI (a.1),vI (a.2)]) Z Z) Z λf=>aH Z<|aP<|aM<|aV<|aM<|jH (λb=>uS e a d b=some r) (λb g=>[(0,vI (e)),(2,vI (d)),(4,vP f),(7,vB (b))]) (λb g=>[bI f [vI (a.1),vI (a.2)] 138]) ?_ ?_
 ·refine aT<|aB Z ?_;refine aD (oQ (i:=0) Z Z Z Z Z (by decide)) Z ?_;refine eW 0 Z<|aD (BS Z Z) Z<|aB Z ?_;refine Fq h Z (λ_ h=>?_) λ_ h=>?_
  ·refine iA Z ?_;refine aS Z (oQ (i:=1) Z Z Z Z Z (by decide)) Z ?_;refine aS Z (fS 0 Z Z Z Z Z) Z<|aS Z (FN Z Z) Z<|fX Z<|aH Z<|aP ?_;exact kC (decide (d<=a.2)) () h SF Z
  refine aK Z<|aK Z<|aK Z<|aK Z<|fG Z<|aH Z<|aP ?_;exact kC (false) () h SF Z
 intro b g h;refine Bf h Z (λ_ h=>?_) λ_ h=>?_
 ·refine aX<|aB Z<|aH Z<|aP<|aY<|cE<|aL ?_;cases h;exact zJ Z
 refine aX<|aB Z<|eL Z<|aH Z<|aP ?_;refine f_ h Z (λh=>?_) λh=>?_
 ·refine aX<|aH Z<|aP<|aY<|cE<|aL ?_;cases h;exact zJ Z
 refine aX<|aB Z ?_;refine aD (oQ (i:=0) Z Z Z Z Z (by decide)) Z ?_;refine eW 0 Z<|dM Z<|aH Z<|aP ?_;refine f_ h Z (λh=>?_) λh=>?_
 ·refine aX ?_;refine aD (oQ (i:=0) Z Z Z Z Z (by decide)) Z ?_;refine eW 0 Z<|aH Z<|aP<|aY<|cE<|aL ?_;cases h;exact zJ Z
 refine fV<|oV<|aX ?_;refine aD (oQ (i:=1) Z Z Z Z Z (by decide)) Z ?_;refine eW 0 Z<|aH Z<|aP<|aY ?_;cases h;exact zJ Z
def nH  (a:bT):Option bT:=
 some (a)
def kM (U:Nat) (b:HJ) (h:bM) (d:Int) (c:Int) (a:Int×bT) (e:(Int×bT)->Option bT):Option bT:=
 if a.1<(((at' b.1.2.2 c).2.2.2).length:Int)then(ck (0<=a.1∧a.1<(((at' b.1.2.2 c).2.2.2).length:Int)) (Option.bind (gQ U ((((b.2.1.1.1,b.2.1.1.2.1,b.2.1.1.2.2)),((b.2.1.2.1.1,b.2.1.2.1.2)),b.2.1.2.2.1,b.2.1.2.2.2)) h d ((at' ((at' b.1.2.2 c).2.2.2) a.1).2.2)) λf=>(ck (0<=((at' ((at' b.1.2.2 c).2.2.2) a.1).1)∧((at' ((at' b.1.2.2 c).2.2.2) a.1).1)<(b.1.2.1.length:Int)) (ck (0<=d∧d<(b.2.2.length:Int)) (ck (0<=((at' ((at' b.1.2.2 c).2.2.2) a.1).1)∧((at' ((at' b.1.2.2 c).2.2.2) a.1).1)<((at' b.2.2 d).length:Int)) (Option.bind (wV U ((at' b.1.2.1 ((at' ((at' b.1.2.2 c).2.2.2) a.1).1)).2.1) ((((at' (at' b.2.2 d) ((at' ((at' b.1.2.2 c).2.2.2) a.1).1)).1),((at' (at' b.2.2 d) ((at' ((at' b.1.2.2 c).2.2.2) a.1).1)).2))) f) λg=>(ck (0<=((at' ((at' b.1.2.2 c).2.2.2) a.1).1)∧((at' ((at' b.1.2.2 c).2.2.2) a.1).1)<(a.2.length:Int)) (e ((wI .i64 (a.1+(1:Int))),(List.set a.2 (Int.toNat ((at' ((at' b.1.2.2 c).2.2.2) a.1).1)) g))))))))))else(nH  (a.2))
def iC (U:Nat) (d:HJ) (b:bM) (a:Int) (c:Int):Option bT:=
 ck (0<=a∧a<(b.length:Int)) (ck ((List.length ([]:bT):Int)+((at' b a).length:Int)<=1099511627) (ck (0<=c∧c<(d.1.2.2.length:Int)) (bP (kM U d b a c) U ((0:Int),(([]:bT)++(at' b a))))))
theorem QQ:bB Tryz.prog 123:=Tryz.call123
theorem zA (U:Nat) {p0:HJ} {p1:bM} {p2:Int} {n:Int} (i:Nat)  (O:Value)  (P:Value)  (j:Nat)  (E:Value)  (F:Value)  (G:Value)  (H:Value)  (Q:iZ)  (I:Value)  (A:jY)  (y:Value)  (M:iZ)  (g:Value)  (B:jY) (r:bT) (h:iC U p0 p1 p2 n=some r):
  bO Tryz.prog 123 #[vP i,g,vI (p2),vI (n)] [bI i [vS (p0.1.1),O,P,vP j,y] 157,Sl aG O p0.1.2.1,Sl aC P p0.1.2.2,bI j [vS (p0.2.1.1.1),E,F,G,H,vI (p0.2.1.2.2.1),I] 206,Sl aG E p0.2.1.1.2.1,Sl aC F p0.2.1.1.2.2,Sl aJ G p0.2.1.2.1.1,S2 aW H Q p0.2.1.2.1.2,S2 aJ I A p0.2.1.2.2.2,S2 aW y M p0.2.2,S2 aJ g B p1] (λx:Value=>x) (λx l=>Ar eC x r::l) (λ_ l=>l):=by
 let k:=(at' p0.1.2.2 n)
 refine bO.of Tryz.func123 Z Tryz.ntmps123 Z λc=>?_;refine aX<|aH Z<|aP<|aX<|aB Z<|aB Z<|eB h λC h=>aD (bV Z Z (aA.fact 10 Z) Z Z C) Z<|aD (cM Z (aA.fact 10 Z) Z Z C) Z<|cG (gZ eC)<|eB h λS h=>aI (mB 0 fO Z Z Z (zBe (aA.fact 10 Z) C.1 C.2) Z Z Z Z S Z) Z λw=>aH Z<|aP<|aM<|jH (λo=>nH  o=some r) (λo N=>[(9,w)]) (λo N=>[Ar eC w o]) ?_ ?_
 ·refine aX<|aB Z<|aD (bE Z) Z<|cA Z<|cA Z<|aD (eK Z (aA.fact 0 Z) Z Z Z) Z<|aB Z<|eB h λe h=>aD (b_ Z Z (aA.fact 2 Z) Z Z e) Z<|aD (nS Z Z Z Z Z) Z<|aD (qL Z (aA.fact 2 Z) Z Z Z zW e) Z<|aD (gY Z (vT (aA.fact 2 Z) gS e.1 e.2) Z) Z<|aB Z<|aP<|aV<|iI (kM U p0 p1 p2 n) (λa p=>[(0,vP i),(1,g),(2,vI (p2)),(9,w),(26,k.2.2.1),(27,vI ((k.2.2.2).length:Int)),(28,vI (a.1))]) (λa p=>[Ar eC w a.2]) ((0:Int),(([]:bT)++(at' p1 p2))) () h SF (aR.refl _) ?_;intro T a p h;let f:=(at' (k.2.2.2) a.1)
  let v:=(at' (at' p0.2.2 p2) (f.1))
  refine aX<|dM Z<|aP<|aM ?_;refine f_ h Z (λh=>?_) λh=>?_
  ·refine dC<|aM<|aV<|aX<|eB h λb h=>aD (b_ Z Z (vT (aA.fact 2 Z) gS e.1 e.2) Z Z b) Z<|aD (Pn (cs:=[vI (f.1),f.2.1]) Z (vT (aA.fact 2 Z) gS e.1 e.2) Kh Z Z Z Z b) Z<|aI (aN.alloc (cs:=[vI (0:Int),cJ]) Z Z) Z λR=>aQ (Know.one ((vT (vT (aA.fact 2 Z) gS e.1 e.2) CW b.1 b.2))) λq=>bL 0 (vs:=[vI ((at' ((at' p0.1.2.2 n).2.2.2) a.1).1),(at' ((at' p0.1.2.2 n).2.2.2) a.1).2.1]) Z Z (dH Z (dH q Z)) Z Z Z<|aP<|aM ?_;refine JR.start [0,1,3,7,0,0,0,64,255,511] 8 mixedOrders (by decide +kernel) ?_;refine zBf (by exact rfl) ?_;refine a_ Z<|i_ Z (bE Z)<|cD Z<|bQ Z .nil (mK 0 Z) (eK Z (aA.fact 0 Z) Z Z Z) aO.z<|a_ Z<|a_ Z<|cD Z<|fI 0 Z<|bS 8 Z Z<|fZ h λD J h=>aI (zBc QR (xV U j E F G H Q I A g B (f.2.1) D J) Z (aE.cons (aA.fact 3 Z) (aE.cons (aA.fact 4 Z) (aE.cons (aA.fact 5 Z) (aE.cons (aA.fact 6 Z) (aE.cons (aA.fact 7 Z) (aE.cons (aA.fact 8 Z) (aE.cons (aA.fact 10 Z) (aE.cons (vT (vT (aA.fact 2 Z) gS e.1 e.2) CW b.1 b.2) .nil))))))))) Z λV=>aH Z<|aP ?_;refine JR.start [0,0,2,0,8,24,56,120,0,256,1016,2040,4088,0,8192,24576,57344,0,253952,516096,0,1048576,4186112,8380416,0,33554424,67108863,134217727] 26 mixedOrders (by decide +kernel) ?_;refine zBf (by exact rfl) ?_;refine a_ Z<|cD Z<|fI 0 Z<|a_ Z<|i_ Z (bE Z)<|cD Z<|cD Z<|bQ Z .nil (mK 0 Z) (eK Z (aA.fact 0 Z) Z Z Z) aO.z<|cD Z<|fI 0 Z<|eB h λs h=>bQ Z .nil (mK 1 Z) (b_ Z Z (aA.fact 0 Z) Z Z s) aO.z<|i_ Z (nS Z Z Z Z Z)<|bQ Z .nil (mK 1 Z) (qL Z (aA.fact 0 Z) Z Z Z xU s) aO.z<|a_ Z<|i_ Z (bE Z)<|cD Z<|bQ Z .nil (mK 0 Z) (eK Z (aA.fact 0 Z) Z Z Z) aO.z<|a_ Z<|eB h λd h=>bQ Z .nil (mK 9 Z) (bV Z Z (aA.fact 0 Z) Z Z d) aO.z<|bQ Z .nil (mK 9 Z) (cM Z (aA.fact 0 Z) Z Z d) aO.z<|cD Z<|fI 0 Z<|eB h λt h=>bQ Z .nil (mK 9 Z) (b_ Z Z (zBe (aA.fact 0 Z) d.1 d.2) Z Z t) aO.z<|bQ Z .nil (mK 9 Z) (fN (cs:=[vI (v.1),vI (v.2)]) Z (zBe (aA.fact 0 Z) d.1 d.2) bG Z Z Z Z t) aO.z<|a_ Z<|fZ h λm K h=>zBd Z Z Z (zBc XR (JS U  m K) Z .nil) Z (λL=>(nL [([0],[])] Z)) λL=>bS 26 Z Z<|eB h λu h=>aD (b_ Z Z (cB (aA.res 1 Z) fO) Z Z u) Z<|TS 1 m u Z Z Z Z Z Z Z<|fH<|oV<|aT<|dK Z<|aB Z<|aP ?_;exact iN ((wI .i64 (a.1+(1:Int))),(List.set a.2 (Int.toNat (f.1)) m)) () h SF (aR.ix [1] Z Z) (aE.refl _ _)
  refine gC ?_;exact kC (a.2) () h SF Z
 intro o N h;unfold nH at h;refine aX<|aB Z<|aH Z<|aP<|aY ?_;cases h;exact jR (w) Z Z (RV.tmp Z) (aR.refl _) aE.nil
def nJ  (a:bM):Option bM:=
 some (a)
def kO (b:xQ) (a:Ei->Option bM) (c:bM):Option bM:=
 a ((wI .i64 (b.1+(1:Int))),c)
def iS (U:Nat) (b:HJ) (d:bM) (g:Int) (a:xQ) (c:Ei->Option bM):Option bM:=
 if a.1<(d.length:Int)then(ck (0<=a.1) (if(SD .u32 (Uq .u32 g a.1) (1:Int))=(1:Int)then(Option.bind (cO U ((((b.1.1,b.1.2.1,b.1.2.2)),((((b.2.1.1.1,b.2.1.1.2.1,b.2.1.1.2.2)),((b.2.1.2.1.1,b.2.1.2.1.2)),b.2.1.2.2.1,b.2.1.2.2.2)),b.2.2)) d a.1) λe=>(Option.bind (iC U ((((b.1.1,b.1.2.1,b.1.2.2)),((((b.2.1.1.1,b.2.1.1.2.1,b.2.1.1.2.2)),((b.2.1.2.1.1,b.2.1.2.1.2)),b.2.1.2.2.1,b.2.1.2.2.2)),b.2.2)) d a.1 e) λf=>(ck (0<=a.1∧a.1<(a.2.length:Int)) (kO a c (List.set a.2 (Int.toNat a.1) f)))))else(kO a c (a.2))))else(nJ  (a.2))
def lK (U:Nat) (b:HJ) (a:bM) (c:Int):Option bM:=
 Option.bind (jU U a) λd=>(bP (iS U b a c) U ((0:Int),d))
theorem aas:bB Tryz.prog 80:=Tryz.call80
theorem Ea (U:Nat) {e:HJ} {v:bM} {w:Int} (g:Nat)  (D:Value)  (E:Value)  (o:Nat)  (F:Value)  (G:Value)  (H:Value)  (I:Value)  (Q:iZ)  (J:Value)  (t:jY)  (p:Value)  (u:iZ)  (d:Value)  (q:jY) (r:bM) (h:lK U e v w=some r):
  bO Tryz.prog 80 #[vP g,d,vU (w)] [bI g [vS (e.1.1),D,E,vP o,p] 157,Sl aG D e.1.2.1,Sl aC E e.1.2.2,bI o [vS (e.2.1.1.1),F,G,H,I,vI (e.2.1.2.2.1),J] 206,Sl aG F e.2.1.1.2.1,Sl aC G e.2.1.1.2.2,Sl aJ H e.2.1.2.1.1,S2 aW I Q e.2.1.2.1.2,S2 aJ J t e.2.1.2.2.2,S2 aW p u e.2.2,S2 aJ d q v] (λx:Fa=>x.1) (λx l=>Ar aZ.raw x.1 x.2::eH eC x.2 r::l) (λ_ l=>l):=by
 refine bO.of Tryz.func80 Z Tryz.ntmps80 Z λc=>?_;refine aX<|aH Z<|aP<|aX<|aB Z<|fZ h λR S h=>aI (zBc He (rO U d q R S) Z (g_ [10] Z)) Z λs=>aH Z<|aP<|aM<|DN (B:=cR) (λy=>nJ  y=some r) (λy z=>[(7,s.1)]) (λy z=>[Ar aZ.raw s.1 z,eH eC z y]) ?_ ?_
 ·refine aX<|aB Z<|aD (eP Z (aA.fact 10 Z) Z) Z<|aB Z<|aP<|aV<|iI (B:=cR) (iS U e v w) (λa b=>[(0,vP g),(1,d),(2,vU (w)),(7,s.1),(12,vI (v.length:Int)),(13,vI (a.1))]) (λa b=>[Ar aZ.raw s.1 b,eH eC b a.2]) ((0:Int),R) (s.2) h SF (aR.refl _) ?_;intro L a b h;refine aX<|dM Z<|aP<|aM ?_;refine f_ h Z (λh=>?_) λh=>?_
  ·refine dC<|aM<|DN (B:=cR) (λf=>kO a (bP (iS U e v w) L) f=some r) (λf m=>[(0,vP g),(1,d),(2,vU (w)),(7,s.1),(12,vI (v.length:Int)),(13,vI (a.1))]) (λf m=>[Ar aZ.raw s.1 m,eH eC m f]) ?_ ?_
   ·refine aV<|aX<|aB Z<|aH Z<|aP<|aX<|aB Z<|aB Z<|eB h λK h=>aD (abI Z Z K) Z<|acr Z<|eL Z<|aP ?_;refine f_ h Z (λh=>?_) λh=>?_
    ·refine aT<|aB Z<|aB Z<|aB Z<|aB Z<|aB Z<|aB Z<|aB Z<|aB Z<|fZ h λM N h=>aI (zBc FS (lN U g D E o F G H I Q J t p u d q M N) Z (g_ [0,1,2,3,4,5,6,7,8,9,10] Z)) Z λT=>fZ h λC O h=>aI (zBc QQ (zA U g D E o F G H I Q J t p u d q C O) Z (g_ [0,1,2,3,4,5,6,7,8,9,10] Z)) Z λP=>eB h λn h=>aD (bV Z Z (bZ (i:=1) (j:=2) Z Z fO) Z Z n) Z<|aQ (Know.one ((cB (aA.res 0 Z) fO))) λA=>cG (sA (k:=a.1) 2 0 Z Z Z n) ?_;refine mP 0 1 ⟨n.1,by first|exact n.2|simpa using n.2⟩ Z Z Z Z Z (by simp) A Z ?_;refine fH<|oV ?_;exact kC (List.set a.2 (Int.toNat a.1) C) (List.set b (Int.toNat a.1) P) h SF Z
    refine fV<|oV ?_;exact kC (a.2) (b) h SF Z
   intro f m h;unfold kO at h;refine aT<|dK Z<|aB Z<|aP ?_;exact Bw ((wI .i64 (a.1+(1:Int))),f) (m) h SF Z
  refine gC ?_;exact kC (a.2) (b) h SF Z
 intro y z h;unfold nJ at h;refine aX<|aB Z<|aH Z<|aP<|aY ?_;cases h;exact jR (s.1,z) Z Z (RV.tmp Z) (aR.refl _) aE.nil
def yR  (a:Int):Option (Int):=
 some (a)
def uO (c:fY) (b:gW->Option (Int)) (a:Int):Option (Int):=
 b (a,(wI .i64 (c.2+(1:Int))))
def rM (e:Int) (d:Int->Option Bool) (a:fY) (b:gW->Option (Int)):Option (Int):=
 if a.2<e then(Option.bind (d a.2) λc=>(if c=true then(ck (0<=a.2) (uO a b (Up .u32 a.1 (Kj .u32 (1:Int) a.2))))else(uO a b (a.1))))else(yR  (a.1))
def Ab (U:Nat) (b:Int) (a:Int->Option Bool):Option (Int):=
 bP (rM b a) U ((0:Int),(0:Int))
theorem XK:bB Tryz.prog 121:=Tryz.call121
theorem MJ (U:Nat) {j:Int} {n:Int->Option Bool} (m:FuncId) (d:cR) (k:List bA) (f:bB Tryz.prog m) (g:∀(u:Int) (r:Bool),n u=some r->bO Tryz.prog m ([vI (u)]++d).toArray k (λ_:Unit=>vB (r)) (λ_ l=>l) (λ_ l=>l)) (r:Int) (h:Ab U j n=some r):
  bO Tryz.prog 121 #[vI (j),Value.func (.func m) #[] (d).toArray] ([]++k) (λx:Unit=>vU (r)) (λx l=>l) (λ_ l=>l):=by
 refine bO.of Tryz.func121 Z Tryz.ntmps121 Z λc=>?_;unfold Ab at h;refine aX<|aH Z<|aP<|aX<|aH Z<|aP<|aM<|iV (B:=Unit) (λi=>yR  i=some r) (λi o=>[(5,vU (i))]) (λi o=>[]) (λi o=>([]++k)) ?_ ?_
 ·refine aX<|aB Z<|aB Z<|aP<|aV<|mA (B:=Unit) (rM j n) (λb p=>[(1,Value.func (.func m) #[] (d).toArray),(5,vU (b.1)),(7,vI (j)),(8,vI (b.2))]) (λb p=>[]) (λb p=>([]++k)) ((0:Int),(0:Int)) () h SF (aR.refl _) (aE.refl _ _) ?_;intro v b p h;refine aX<|dM Z<|aP<|aM ?_;refine f_ h Z (λh=>?_) λh=>?_
  ·refine dC<|aM<|iV (B:=Unit) (λa=>uO b (bP (rM j n) v) a=some r) (λa e=>[(1,Value.func (.func m) #[] (d).toArray),(5,vU (a)),(7,vI (j)),(8,vI (b.2))]) (λa e=>[]) (λa e=>([]++k)) ?_ ?_
   ·refine aV<|aX<|aB Z<|aH Z<|aP<|aX<|aB Z<|aB Z<|fZ h λs t h=>aI (qE (vs:=[vI (b.2)]) (cs:=d) f Z (g b.2 s t) Z (aE.tail _) (λ_ _=>rfl)) Z λw=>aP ?_;refine Bf h Z (λ_ h=>?_) λ_ h=>?_
    ·refine aT<|aB Z<|aB Z<|eB h λq h=>aD (Uf Z Z q) Z<|aD (ZZ Z Z) Z<|aH Z<|fH<|oV ?_;exact kC (Up .u32 b.1 (Kj .u32 (1:Int) b.2)) () h SF Z
    refine fV<|oV ?_;exact kC (b.1) () h SF Z
   intro a e h;unfold uO at h;refine aT<|dK Z<|aB Z<|aP ?_;exact Bw (a,(wI .i64 (b.2+(1:Int)))) () h SF Z
  refine gC ?_;exact kC (b.1) () h SF Z
 intro i o h;unfold yR at h;refine aX<|aB Z<|aH Z<|aP<|aY ?_;cases h;exact mN Z
def kJ (U:Nat) (b:Int) (a:HJ) (c:bM):Option Bool:=
 Option.bind (cO U ((((a.1.1,a.1.2.1,a.1.2.2)),((((a.2.1.1.1,a.2.1.1.2.1,a.2.1.1.2.2)),((a.2.1.2.1.1,a.2.1.2.1.2)),a.2.1.2.2.1,a.2.1.2.2.2)),a.2.2)) c b) λd=>(some (decide ((0:Int)<=d)))
theorem XL:bB Tryz.prog 122:=Tryz.call122
theorem Bc (U:Nat) {v:Int} {a:HJ} {w:bM} (j:Nat)  (d:Nat)  (o:Value)  (p:Value)  (e:Nat)  (q:Value)  (s:Value)  (t:Value)  (u:Value)  (y:iZ)  (f:Value)  (k:jY)  (g:Value)  (m:iZ)  (b:Nat)  (i:Value)  (n:jY) (r:Bool) (h:kJ U v a w=some r):
  bO Tryz.prog 122 #[vI (v),vP j,vP b] [bI j [vP d] 106,bI d [vS (a.1.1),o,p,vP e,g] 157,Sl aG o a.1.2.1,Sl aC p a.1.2.2,bI e [vS (a.2.1.1.1),q,s,t,u,vI (a.2.1.2.2.1),f] 206,Sl aG q a.2.1.1.2.1,Sl aC s a.2.1.1.2.2,Sl aJ t a.2.1.2.1.1,S2 aW u y a.2.1.2.1.2,S2 aJ f k a.2.1.2.2.2,S2 aW g m a.2.2,bI b [i] 39,S2 aJ i n w] (λx:Unit=>vB (r)) (λx l=>l) (λ_ l=>l):=by
 refine bO.of Tryz.func122 Z Tryz.ntmps122 Z λc=>?_;refine aX<|aH Z<|aP<|aX<|aD (eK Z (aA.fact 0 Z) Z Z Z) Z<|aD (eK Z (aA.fact 11 Z) Z Z Z) Z<|aB Z<|fZ h λz A h=>aI (zBc FS (lN U d o p e q s t u y f k g m i n z A) Z (g_ [1,2,3,4,5,6,7,8,9,10,12] Z)) Z λB=>aD (BS Z Z) Z<|aH Z<|aP<|aY ?_;cases h;exact mN Z
end Go.Proofs.YtflciafboapaaaaGreat