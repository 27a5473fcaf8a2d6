/- Models and proofs. Conditions: none. -/
import Derived.Test.YtahgemjmgopleaaGreatDoorZCTe5
import Derived.Test.YtahgemjmgopleaaGreatDoorZCTe6
import Derived.Test.YtahgemjmgopleaaGreatDoorZCTe2
import Derived.KernelRfl
set_option linter.unusedVariables false
set_option linter.unusedSimpArgs false
set_option maxHeartbeats 4000000
set_option maxRecDepth 20000
namespace Go.Proofs.YtahgemjmgopleaaGreatDoor
open Go.Sx
theorem AZ {R:Type} {step:Int->(Int->Option R)->Option R} {K:Option R} {bad:R} (N:Nat) (p:Nat->Prop)
  (r:∀(k:Nat) c,k<N->p k->step k c=c ((k:Int)+1)) (i:∀(k:Nat) c,k<N->¬p k->step k c=some bad) (j:∀c,step N c=K):
  ∀(b:Nat),N<b->((∀k,k<N->p k)->bK step b 0=K)∧(¬(∀k,k<N->p k)->bK step b 0=some bad):=by
 intro b q;have s:∀(d a b:Nat),a+d=N->d<b->((∀k,a<=k->k<N->p k)->bK step b (a:Int)=K)∧(¬(∀k,a<=k->k<N->p k)->bK step b (a:Int)=some bad):=by
  intro d
  induction d with
  |zero=>
   intro a b v q;obtain rfl:a=N:=by omega
   cases b with
   |zero=>omega
   |succ f=>exact⟨λ_=>j _,λh=>absurd (λk m g=>by omega) h⟩
  | succ d ih =>
   intro a b v q;cases b with
   |zero=>omega
   | succ f =>
    obtain⟨t,u⟩:=ih (a+1) f (by omega) (by omega);have e:((a+1:Nat):Int)=(a:Int)+1:=by omega
    rw[e]at t u;by_cases n:p a
    ·have w:bK step (f+1) (a:Int)=bK step f ((a:Int)+1):=r a _ (by omega) n;rw[w];refine⟨λh=>t λk m g=>h k (by omega) g,λh=>u λo=>h λk m g=> ?_⟩
     by_cases l:k=a
     ·subst l;exact n
     ·exact o k (by omega) g
    ·exact⟨λh=>absurd (h a (zAd _) (by omega)) n,λ_=>i a _ (by omega) n⟩
 obtain⟨m,g⟩:=s N 0 b (by omega) q;exact⟨λh=>m λk _ l=>h k l,λh=>g λo=>h λk l=>o k (by omega) l⟩
abbrev GR:=List Int×h_
theorem rU (a:Nat) (v c d:Int):qG a v c d=some (decide (c<=v∧v<=d)):=by
 unfold qG BI;by_cases h:c<=v
 ·rw[if_pos h];congr 1;exact decide_eq_decide.2 ⟨λb=>⟨h,b⟩,λb=>b.2⟩
 ·rw[if_neg h,zA5 (λb=>h b.1)]
abbrev row (g:GR) (v:Nat):eY:=at' g.2 (v:Int)
abbrev Hc (g:GR) (v:Nat):Int:=at' g.1 (v:Int)
abbrev jL (l:eY) (i:Nat):eL:=at' l (i:Int)
def light (g:GR):Prop:=g.1.length<=30∧g.2.length<=30∧∀v,v<g.2.length->(row g v).length<=30
def Jm (l:eY) (v n i:Nat):Prop:=(0<=(jL l i).1∧(jL l i).1<=(n:Int) - 1)∧(jL l i).1≠v∧(1<=(jL l i).2∧(jL l i).2<=15)∧∀k,k<i->(jL l k).1≠(jL l i).1
def qK (l:eY) (v n:Nat):Prop:=∀i,i<l.length->Jm l v n i
theorem sZ (l:eY) (v n:Nat) (o:l.length<=30) (p:n<=30):(qK l v n->lT 1000 l v n=some true)∧(¬qK l v n->lT 1000 l v n=some false):=by
 unfold lT;have a:∀(i:Nat) (b:Int->Option Bool),i<l.length->((∀k,k<i->(jL l k).1≠(jL l i).1)->bK (jA l i b) 1000 0=b ((i:Int)+1))∧(¬(∀k,k<i->(jL l k).1≠(jL l i).1)->bK (jA l i b) 1000 0=some false):=by
  intro i b h;refine AZ i _ (λk d m c=> ?_) (λk d m c=> ?_) (λd=> ?_) 1000 (by omega)
  ·unfold jA;rw[if_pos (by omega),cO (by omega),cO (by omega),if_neg c,wr (by omega) (by omega)]
  ·unfold jA;rw[if_pos (by omega),cO (by omega),cO (by omega),if_pos (zAy.1 c)]
  ·unfold jA qT;rw[if_neg (by omega),wr (by omega) (by omega)]
 refine AZ l.length (Jm l v n) (λi b h c=> ?_) (λi b h c=> ?_) (λb=> ?_) 1000 (by omega)
 ·obtain⟨e,f,g,j⟩:=c;unfold gY kR;rw[if_pos (by omega),cO (by omega),wr (x:=(n:Int) - 1) (by omega) (by omega),rU,zA6 e,aZ Z,if_neg (by simp),cO (by omega),if_neg f,cO (by omega),rU,zA6 g,aZ Z,if_neg (by simp)];exact(a i b h).1 j
 ·unfold gY kR;rw[if_pos (by omega),cO (by omega),wr (x:=(n:Int) - 1) (by omega) (by omega),rU];by_cases e:0<=(jL l i).1∧(jL l i).1<=(n:Int) - 1
  ·rw[zA6 e,aZ Z,if_neg (by simp),cO (by omega)];by_cases f:(jL l i).1=v
   ·rw[if_pos f];rfl
   ·rw[if_neg f,cO (by omega),rU];by_cases g:1<=(jL l i).2∧(jL l i).2<=15
    ·rw[zA6 g,aZ Z,if_neg (by simp)];exact(a i b h).2 λj=>c ⟨e,f,g,j⟩
    ·rw[zA5 g];rfl
  ·rw[zA5 e];rfl
 ·unfold gY qS;rw[if_neg (by omega)]
def DG (l:eY) (u:Int):Int:=match l.findIdx? (λx=>decide (x.1=u))with
 |some i=>i
 |none=> -1
theorem RN {l:eY} {u:Int} (i:Nat) (b:i<l.length) (d:(jL l i).1=u) (c:∀k,k<i->(jL l k).1≠u):DG l u=i:=by
 have:l.findIdx? (λx=>decide (x.1=u))=some i:=by
  rw[List.findIdx?_eq_some_iff_getElem];have e:∀k (a:k<l.length),jL l k=l[k]:=λk a=>by rw[jL,lZ,zA7,zA0 a];rfl
  refine⟨b,by rw[<-e i b];simpa using d,λk a=> ?_⟩
  have:=c k a;rw[e k (by omega)]at this;simpa using this
 rw[DG,this]
theorem RJ {l:eY} {u:Int} (b:∀k,k<l.length->(jL l k).1≠u):DG l u = -1:=by
 have:l.findIdx? (λx=>decide (x.1=u))=none:=by
  rw[List.findIdx?_eq_none_iff];intro x c;obtain⟨k,a,rfl⟩:=List.getElem_of_mem c;have:=b k a;rw[jL,lZ,zA7,zA0 a]at this;simpa using this
 rw[DG,this]
theorem Cn (l:eY) (u:Int):(∃i,i<l.length∧(jL l i).1=u∧(∀k,k<i->(jL l k).1≠u)∧DG l u=i)∨((∀k,k<l.length->(jL l k).1≠u)∧DG l u = -1):=by
 by_cases h:∀k,k<l.length->(jL l k).1≠u
 ·exact .inr ⟨h,RJ h⟩
 ·left;have f:∃k,k<l.length∧(jL l k).1=u:=by
   apply Classical.byContradiction;intro o;exact h λk g e=>o ⟨k,g,e⟩
  obtain⟨k,g,n⟩:=f;have:∀m,(∃k,k<=m∧k<l.length∧(jL l k).1=u)->∃i,i<l.length∧(jL l i).1=u∧∀k,k<i->(jL l k).1≠u:=by
   intro m
   induction m with
   |zero=>rintro⟨k,d,a,b⟩;exact⟨k,a,b,λj p=>by omega⟩
   |succ m q=>
    rintro⟨k,d,a,b⟩;by_cases c:∃j,j<=m∧j<l.length∧(jL l j).1=u
    ·exact q c
    ·exact⟨k,a,b,λj p e=>c ⟨j,by omega,by omega,e⟩⟩
  obtain⟨i,d,a,b⟩:=this k ⟨k,zAd _,g,n⟩;exact⟨i,d,a,b,RN i d a b⟩
theorem Mk (g:GR) (v:Nat) (u:Int) (m:v<g.2.length) (l:(row g v).length<=30):vL 1000 g v u=some (DG (row g v) u):=by
 unfold vL;rcases Cn (row g v) u with⟨i,j,h,c,b⟩|⟨c,b⟩
 ·rw[b];refine GM (λx:Int=>∃k:Nat,x=k∧k<=i) (λx=>31 - x.toNat) ?_ 1000 _ ⟨0,rfl,by omega⟩ (by omega);rintro x d ⟨k,rfl,f⟩ a;unfold Bd;rw[cO (by omega),if_pos (show(k:Int)<((row g v).length:Int) by omega),cO (by omega),cO (show 0<=(k:Int)∧(k:Int)<((row g v).length:Int) by omega)];by_cases e:k=i
  ·subst e;exact if_pos h
  ·rw[if_neg (c k (by omega)),wr (by omega) (by omega)];exact a _ ⟨k+1,by omega,by omega⟩ (by omega)
 ·rw[b];refine GM (λx:Int=>∃k:Nat,x=k∧k<=(row g v).length) (λx=>31 - x.toNat) ?_ 1000 _ ⟨0,rfl,by omega⟩ (by omega);rintro x d ⟨k,rfl,f⟩ a;unfold Bd;rw[cO (by omega)];by_cases e:k<(row g v).length
  ·rw[if_pos (show(k:Int)<((row g v).length:Int) by omega),cO (by omega),cO (show 0<=(k:Int)∧(k:Int)<((row g v).length:Int) by omega),if_neg (c k e),wr (by omega) (by omega)];exact a _ ⟨k+1,by omega,by omega⟩ (by omega)
  ·rw[if_neg (show¬(k:Int)<((row g v).length:Int) by omega)];rfl
theorem IC {X R:Type} {step:X->(X->Option R)->Option R} {K:X->Option R} {bad:R} (N:Nat) (p:Nat->Prop) (I:Nat->X->Prop)
  (t:∀(k:Nat) x g,k<N->I k x->p k->∃c,I (k+1) c∧step x g=g c) (j:∀(k:Nat) x g,k<N->I k x->¬p k->step x g=some bad) (l:∀x g,I N x->step x g=K x):
  ∀(b:Nat) (x:X),I 0 x->N<b->((∀k,k<N->p k)->∃c,I N c∧bK step b x=K c)∧(¬(∀k,k<N->p k)->bK step b x=some bad):=by
 intro b x e s;have v:∀(d a b:Nat) (x:X),a+d=N->d<b->I a x->((∀k,a<=k->k<N->p k)->∃c,I N c∧bK step b x=K c)∧(¬(∀k,a<=k->k<N->p k)->bK step b x=some bad):=by
  intro d
  induction d with
  |zero=>
   intro a b x w s e;obtain rfl:a=N:=by omega
   cases b with
   |zero=>omega
   |succ f=>exact⟨λ_=>⟨x,e,l _ _ e⟩,λh=>absurd (λk n i=>by omega) h⟩
  | succ d ih =>
   intro a b x w s e;cases b with
   |zero=>omega
   | succ f =>
    by_cases o:p a
    ·obtain⟨c,r,u⟩:=t a x (bK step f) (by omega) e o;have u:bK step (f+1) x=bK step f c:=u;obtain⟨y,z⟩:=ih (a+1) f c (by omega) (by omega) r;rw[u];refine⟨λh=>y λk n i=>h k (by omega) i,λh=>z λq=>h λk n i=> ?_⟩
     by_cases m:k=a
     ·subst m;exact o
     ·exact q k (by omega) i
    ·exact⟨λh=>absurd (h a (zAd _) (by omega)) o,λ_=>j a x _ (by omega) e o⟩
 obtain⟨n,i⟩:=v N 0 b x (by omega) s e;exact⟨λh=>n λk _ m=>h k m,λh=>i λq=>h λk m=>q k (by omega) m⟩
def AE (g:GR) (v i:Nat):Prop:=∃j,j<(at' g.2 (jL (row g v) i).1).length∧(jL (at' g.2 (jL (row g v) i).1) j).1=v∧(jL (at' g.2 (jL (row g v) i).1) j).2=(jL (row g v) i).2
structure Ll (g:GR) (v:Nat):Prop where
 id:0<=Hc g v∧Hc g v<=255
 deg:(row g v).length<g.2.length
 links:qK (row g v) v g.2.length
 ids:∀k,k<v->Hc g k≠Hc g v
structure VG (g:GR):Prop where
 n1:1<=g.2.length
 n24:g.2.length<=24
 len:g.1.length=g.2.length
 node:∀v,v<g.2.length->Ll g v
 sym:∀v,v<g.2.length->∀i,i<(row g v).length->AE g v i
theorem adN (g:GR) (N:light g):(VG g->gW 1000 g=some true)∧(¬VG g->gW 1000 g=some false):=by
 obtain⟨S,H,t⟩:=N;unfold gW;rw[rU,aZ Z];by_cases z:1<=g.2.length∧g.2.length<=24
 rotate_left
 ·rw[zA5 (by omega)];exact⟨λh=>absurd ⟨h.n1,h.n24⟩ z,λ_=>rfl⟩
 rw[zA6 (by omega),if_neg (by simp)];by_cases I:g.1.length=g.2.length
 rotate_left
 ·rw[zA6 (by omega)];exact⟨λh=>absurd h.len I,λ_=>rfl⟩
 rw[zA5 (by omega)];unfold uO;rw[if_neg (by simp)];have o:∀(v:Nat) (b:Int->Option Bool),v<g.2.length->((∀k,k<v->Hc g k≠Hc g v)->bK (gU g v b) 1000 0=b ((v:Int)+1))∧(¬(∀k,k<v->Hc g k≠Hc g v)->bK (gU g v b) 1000 0=some false):=by
  intro v b d;refine AZ v _ (λk a C c=> ?_) (λk a C c=> ?_) (λa=> ?_) 1000 (by omega)
  ·unfold gU;rw[if_pos (by omega),cO (by omega),cO (by omega),if_neg c,wr (by omega) (by omega)]
  ·unfold gU;rw[if_pos (by omega),cO (by omega),cO (by omega),if_pos (zAy.1 c)]
  ·unfold gU uS;rw[if_neg (by omega),wr (by omega) (by omega)]
 have l:=AZ (step:=f_ 1000 g) (K:=oU 1000 g ()) (bad:=false) g.2.length (Ll g) (λv b d c=> ?_) (λv b d c=> ?_) (λb=> ?_) 1000 (by omega)
 rotate_left
 ·unfold f_ mN;rw[if_pos (by omega),cO (by omega),rU,zA6 c.id,aZ Z,if_neg (by simp),cO (by omega),if_neg (show¬((g.2.length:Int)<=((row g v).length:Int))from by have:=c.deg;omega),cO (by omega),(sZ (row g v) v g.2.length (t v d) H).1 c.links,aZ Z,if_neg (by simp)];exact(o v b d).1 c.ids
 ·unfold f_ mN;rw[if_pos (by omega),cO (by omega),rU];by_cases x:0<=Hc g v∧Hc g v<=255
  rotate_left
  ·rw[zA5 x];rfl
  rw[zA6 x,aZ Z,if_neg (by simp),cO (by omega)];by_cases J:(row g v).length<g.2.length
  rotate_left
  ·rw[if_pos (show(g.2.length:Int)<=((row g v).length:Int) by omega)];rfl
  rw[if_neg (show¬(g.2.length:Int)<=((row g v).length:Int) by omega),cO (by omega)];by_cases y:qK (row g v) v g.2.length
  rotate_left
  ·rw[(sZ (row g v) v g.2.length (t v d) H).2 y];rfl
  rw[(sZ (row g v) v g.2.length (t v d) H).1 y,aZ Z,if_neg (by simp)];exact(o v b d).2 λL=>c ⟨x,J,y,L⟩
 ·unfold f_;rw[if_neg (by omega)]
 by_cases q:∀v,v<g.2.length->Ll g v
 rotate_left
 ·exact⟨λh=>absurd h.node q,λ_=>l.2 q⟩
 rw[l.1 q];unfold oU;have f:∀(v:Nat) (b:Int->Option Bool),v<g.2.length->((∀i,i<(row g v).length->AE g v i)->bK (fL 1000 g v b) 1000 0=b ((v:Int)+1))∧(¬(∀i,i<(row g v).length->AE g v i)->bK (fL 1000 g v b) 1000 0=some false):=by
  intro v b d;have P:=t v d;have n:∀(i:Nat) a,i<(row g v).length->(AE g v i->fL 1000 g v b i a=a ((i:Int)+1))∧(¬AE g v i->fL 1000 g v b i a=some false):=by
   intro i a r;unfold fL;rw[cO (by omega),if_pos (show(i:Int)<((row g v).length:Int) by omega),cO (by omega),cO (show 0<=(i:Int)∧(i:Int)<((row g v).length:Int) by omega)];have R:=((q v d).links i r).1;obtain⟨u,G⟩:∃u:Nat,(jL (row g v) i).1=u:=⟨(jL (row g v) i).1.toNat,by omega⟩
   have p:u<g.2.length:=by omega
   unfold AE;rw[show(at' (at' g.2 (v:Int)) (i:Int))=jL (row g v) i from rfl,G,Mk g u v p (t u p),aZ Z];have F:=(q u p).links;rcases Cn (row g u) v with⟨j,w,m,B,A⟩|⟨M,A⟩
   ·rw[A,if_neg (by omega),cO (by omega),cO (show 0<=(j:Int)∧(j:Int)<((at' g.2 (u:Int)).length:Int)from⟨by omega,by have:j<(row g u).length:=w;exact_mod_cast this⟩)];unfold uR;constructor
    ·rintro⟨k,C,s,E⟩;have D:k=j:=by
      rcases zB1 k j with h|h|h
      ·exact absurd s (B k h)
      ·exact h
      ·exact absurd (m.trans s.symm) ((F k C).2.2.2 j h)
     subst D;rw[if_neg (by rw[zA5];simp;exact λh=>h E),wr (by omega) (by omega)]
    ·intro h;rw[if_pos];exact zA6 λQ=>h ⟨j,w,m,Q⟩
   ·rw[A,if_pos (by decide)];exact⟨fun⟨j,w,m,_⟩=>absurd m (M j w),λ_=>rfl⟩
  refine AZ (row g v).length _ (λi a r c=>(n i a r).1 c) (λi a r c=>(n i a r).2 c) (λa=> ?_) 1000 (by omega);unfold fL uQ;rw[cO (by omega),if_neg (show¬(((row g v).length:Nat):Int)<((row g v).length:Int) by omega),wr (by omega) (by omega)]
 have e:=AZ (step:=fZ 1000 g) (K:=some true) (bad:=false) g.2.length (λv=>∀i,i<(row g v).length->AE g v i) (λv b d c=> ?_) (λv b d c=> ?_) (λb=> ?_) 1000 (by omega)
 ·exact⟨λh=>e.1 h.sym,λh=>e.2 λO=>h ⟨z.1,z.2,I,q,O⟩⟩
 ·unfold fZ;rw[if_pos (by omega)];exact(f v b d).1 c
 ·unfold fZ;rw[if_pos (by omega)];exact(f v b d).2 c
 ·unfold fZ uP;rw[if_neg (by omega)]
theorem AN {a:Type} [Inhabited a] (l:List a) (i k:Nat) (y:a) (b:i<l.length):at' (l.set i y) (k:Int)=if k=i then y else at' l (k:Int):=by
 rw[lZ,lZ,zA7,zA7,List.getElem?_set];by_cases h:i=k
 ·rw[if_pos h,if_pos h.symm,if_pos (by omega)];rfl
 ·rw[if_neg h,if_neg (Ne.symm h)]
def XG (l:aX) (k:Nat):Prop:=(0<=at' l (k:Int)∧at' l (k:Int)<=255)∧∀j,j<k->at' l (j:Int)≠at' l (k:Int)
theorem xR (l:aX) (C:l.length<=30):((∀k,k<l.length->XG l k)->kB 1000 l=some true)∧(¬(∀k,k<l.length->XG l k)->kB 1000 l=some false):=by
 unfold kB;have i:=IC (step:=g_ l) (K:=λ_=>some true) (bad:=false) l.length (XG l) (λk x=>x.1=(k:Int)∧x.2.length=256∧∀z:Nat,z<256->(at' x.2 (z:Int)=true↔∃j,j<k∧at' l (j:Int)=(z:Int))) ?_ ?_ ?_ 1000 ((0:Int),(List.replicate 256 false)) ⟨rfl,List.length_replicate ..,λz c=> ?_⟩ (by omega)
 ·exact⟨λh=>by obtain⟨x,_,b⟩:=i.1 h;exact b,i.2⟩
 ·rintro k ⟨t,m⟩ q w ⟨b,a,f⟩ ⟨D,v⟩;dsimp only at b a f;subst b;obtain⟨z,c⟩:∃z:Nat,at' l (k:Int)=z:=⟨(at' l (k:Int)).toNat,by omega⟩
  have p:z<256:=by omega
  have o:¬at' m (z:Int)=true:=by
   rw[f z p];rintro⟨j,e,d⟩;exact v j e (d.trans c.symm)
  refine⟨((k:Int)+1,m.set z true),⟨by simp,by simp[a],λy B=> ?_⟩,?_⟩
  ·dsimp only;rw[AN _ _ _ _ (by omega)];by_cases g:y=z
   ·subst g;rw[if_pos Z];exact⟨λ_=>⟨k,by omega,c⟩,λ_=>rfl⟩
   ·rw[if_neg g,f y B];constructor
    ·rintro⟨j,e,d⟩;exact⟨j,by omega,d⟩
    ·rintro⟨j,e,d⟩;by_cases n:j=k
     ·subst n;rw[c]at d;omega
     ·exact⟨j,by omega,d⟩
  ·unfold g_ jF;dsimp only;rw[if_pos (by omega),cO (by omega),c,if_neg (by omega),if_neg (by omega),cO ⟨by omega,a⟩,if_neg o,cO ⟨by omega,a⟩,wr (by omega) (by omega)];rfl
 ·rintro k ⟨t,m⟩ q w ⟨b,a,f⟩ A;dsimp only at b a f;subst b;unfold g_ jF;dsimp only;rw[if_pos (by omega),cO (by omega)];by_cases r:at' l (k:Int)<0
  ·rw[if_pos r,if_pos Z]
  rw[if_neg r];by_cases s:255<at' l (k:Int)
  ·rw[if_pos s,if_pos Z]
  rw[if_neg s];obtain⟨z,c⟩:∃z:Nat,at' l (k:Int)=z:=⟨(at' l (k:Int)).toNat,by omega⟩
  rw[c,cO ⟨by omega,a⟩,if_pos];rw[f z (by omega)];apply Classical.byContradiction;intro u;exact A ⟨by omega,λj e d=>u ⟨j,e,d.trans c⟩⟩
 ·rintro⟨t,m⟩ q ⟨b,_,_⟩;dsimp only at b;subst b;unfold g_ pE;dsimp only;rw[if_neg (by omega)]
 ·rw[show at' (List.replicate 256 false) (z:Int)=false by rw[lZ,zA7,List.getElem?_replicate,if_pos c];rfl];exact⟨λh=>(by cases h),fun⟨j,e,_⟩=>(by omega)⟩
theorem WZ {d e:Type} [DecidableEq d] (k c:d) (v:e):∀l:List (d×e),nX c (ES k v l)=if c=k then some v else nX c l
 | []=>by simp only[ES,nX]
 | x :: xs => by
  simp only[ES];by_cases h:k=x.1
  ·rw[if_pos h];simp only[nX];by_cases a:c=k
   ·rw[if_pos a,if_pos a]
   ·rw[if_neg a,if_neg a,if_neg (λb=>a (b.trans h.symm))]
  ·rw[if_neg h];simp only[nX];by_cases a:c=x.1
   ·rw[if_pos a,if_neg (λb=>h (b.symm.trans a)),if_pos a]
   ·rw[if_neg a,WZ k c v xs];by_cases b:c=k
    ·rw[if_pos b,if_pos b]
    ·rw[if_neg b,if_neg b,if_neg a]
theorem Rt {a b:Type} [DecidableEq a] {k:a} {v:b} {z:a×b} {l:List (a×b)} (c:nX k l=none):z∈ES k v l↔z=(k,v)∨z∈l:=by
 rw[JD k v l c];simp[or_comm]
theorem JC {a c:Type} [DecidableEq a] {k:a}:∀{l:List (a×c)},(∀v,(k,v)∉l)->nX k l=none
 | [],_=>rfl
 |x::xs,h=>by
  simp only[nX];rw[if_neg (λe=>h x.2 (by rw[e];exact zAa ..))];exact JC λv b=>h v (zAg _ b)
theorem xD {b c:Type} [DecidableEq b] {k:b} {v:c}:∀{l:List (b×c)},nX k l=none->(k,v)∉l
 | [],_=>by simp
 | x :: xs, h => by
  simp only[nX]at h;by_cases e:k=x.1
  ·rw[if_pos e]at h;cases h
  ·rw[if_neg e]at h;intro d;rcases zAl.1 d with a|a
   ·exact e (by rw[<-a])
   ·exact xD h a
theorem Ei {a b:Type} [DecidableEq a] {k:a} {v:b}:∀{l:List (a×b)},nX k l=some v->(k,v)∈l
 |x::xs,h=>by
  simp only[nX]at h;by_cases e:k=x.1
  ·rw[if_pos e]at h;cases h;rw[e];exact zAa ..
  ·rw[if_neg e]at h;exact zAg _ (Ei h)
theorem Md {a b:Type} (p:a×b->Prop) [DecidablePred p]:∀l:List (a×b),Ng (λd x=>if p d then some false else x) (some true) l=some (decide (∀z∈l,¬p z))
 | []=>by simp[Ng]
 |x::xs=>by
  show(if p x then some false else Ng _ (some true) xs)=_;rw[Md p xs];by_cases h:p x
  ·rw[if_pos h];congr 1;symm;exact zA5 λc=>c x (zAa ..) h
  ·rw[if_neg h];congr 1;apply decide_eq_decide.2;simp[h]
def QM (c:h_) (v i:Nat) (z:(Int×Int)×Int):Prop:=∃a b:Nat,(a<v∨(a=v∧b<i))∧b<(at' c (a:Int)).length∧z=(((a:Int),(jL (at' c (a:Int)) b).1),(jL (at' c (a:Int)) b).2)
def NL (a:h_):Prop:=(∀v,v<a.length->qK (at' a (v:Int)) v a.length)∧∀v,v<a.length->∀i,i<(at' a (v:Int)).length->AE ([],a) v i
theorem IS (c:h_) (hn:c.length<=30) (hd:∀v,v<c.length->(at' c (v:Int)).length<=30):(NL c->iB 1000 c=some true)∧(¬NL c->iB 1000 c=some false):=by
 unfold iB;have s:∀(v:Nat) (m:List ((Int×Int)×Int)) p,v<c.length->(∀z,z∈m↔QM c v 0 z)->
   (qK (at' c (v:Int)) v c.length->∃X,(∀z,z∈X↔QM c (v+1) 0 z)∧bK (dR c ((v:Int),m) p) 1000 ((0:Int),m)=p ((v:Int)+1,X))∧
   (¬qK (at' c (v:Int)) v c.length->bK (dR c ((v:Int),m) p) 1000 ((0:Int),m)=some false):=by
  intro v m p F hm;have af:=hd v F;have R:=IC (step:=dR c ((v:Int),m) p) (K:=λx=>p ((v:Int)+1,x.2)) (bad:=false) (at' c (v:Int)).length (Jm (at' c (v:Int)) v c.length) (λi x=>x.1=(i:Int)∧∀z,z∈x.2↔QM c v i z) ?_ ?_ ?_ 1000 ((0:Int),m) ⟨rfl,hm⟩ (by omega)
  ·refine⟨λh=> ?_,λh=>R.2 h⟩
   obtain⟨x,⟨ah,ad⟩,f⟩:=R.1 h;refine⟨x.2,λz=>(ad z).trans ⟨?_,?_⟩,f⟩
   ·rintro⟨a,b,y,e,l⟩;exact⟨a,b,by omega,e,l⟩
   ·rintro⟨a,b,y,e,l⟩;refine⟨a,b,?_,e,l⟩
    by_cases W:a=v
    ·subst W;exact .inr ⟨rfl,e⟩
    ·omega
  ·rintro i ⟨H,g⟩ I M ⟨f,d⟩ ⟨p1,p2,p3,p4⟩;dsimp only at f d;subst f;have q:nX (((v:Int),(jL (at' c (v:Int)) i).1)) g=none:=by
    apply JC;intro w hw;obtain⟨a,b,y,e,l⟩:=(d _).1 hw;simp only[Prod.mk.injEq]at l;obtain⟨⟨C,A⟩,_⟩:=l;have:a=v:=by omega
    subst this;have hb:b<i:=by omega
    exact p4 b hb A.symm
   refine⟨((i:Int)+1,ES (((v:Int),(jL (at' c (v:Int)) i).1)) (jL (at' c (v:Int)) i).2 g),⟨by simp,λz=> ?_⟩,?_⟩
   ·dsimp only;rw[Rt q,d];constructor
    ·rintro(rfl|⟨a,b,y,e,l⟩)
     ·exact⟨v,i,.inr ⟨rfl,by omega⟩,M,rfl⟩
     ·exact⟨a,b,by omega,e,l⟩
    ·rintro⟨a,b,y,e,l⟩;by_cases J:a=v∧b=i
     ·left;rw[l,J.1,J.2]
     ·right;exact⟨a,b,by omega,e,l⟩
   ·replace p1:0<=(at' (at' c (v:Int)) (i:Int)).1∧(at' (at' c (v:Int)) (i:Int)).1<=(c.length:Int) - 1:=p1;replace p3:1<=(at' (at' c (v:Int)) (i:Int)).2∧(at' (at' c (v:Int)) (i:Int)).2<=15:=p3;unfold dR iJ jV;dsimp only;rw[if_pos (by omega),cO (by omega),if_neg (by omega),if_neg (by omega),if_neg (by rw[zA5 p2];simp),if_neg (by omega),if_neg (by rw[zA5 (by omega)];simp),q,if_neg (by simp),wr (by omega) (by omega)]
  ·rintro i ⟨H,g⟩ I M ⟨f,d⟩ P;dsimp only at f d;subst f;unfold dR iJ jV;dsimp only;rw[if_pos (by omega),cO (by omega)];by_cases y:(jL (at' c (v:Int)) i).1<0
   ·rw[if_pos y,if_pos Z]
   rw[if_neg y];by_cases e:(c.length:Int)<=(jL (at' c (v:Int)) i).1
   ·rw[if_pos e,if_pos Z]
   rw[if_neg e];by_cases l:(jL (at' c (v:Int)) i).1=v
   ·rw[if_pos (zA6 l)]
   rw[if_neg (by rw[zA5 l];simp)];by_cases C:(jL (at' c (v:Int)) i).2<1
   ·rw[if_pos C,if_pos Z]
   rw[if_neg C];by_cases A:15<(jL (at' c (v:Int)) i).2
   ·rw[if_pos (zA6 A)]
   rw[if_neg (by rw[zA5 A];simp)];have:∃k,k<i∧(jL (at' c (v:Int)) k).1=(jL (at' c (v:Int)) i).1:=by
    apply Classical.byContradiction;intro hc;exact P ⟨by omega,l,by omega,λk N L=>hc ⟨k,N,L⟩⟩
   obtain⟨k,N,L⟩:=this;have n:=(d _).2 ⟨v,k,.inr ⟨rfl,N⟩,by omega,rfl⟩;rw[if_pos];rw[<-L];cases q:nX (((v:Int),(jL (at' c (v:Int)) k).1)) g with
   |some w=>rfl
   | none => exact absurd n (by
     intro n;exact xD q n)
  ·rintro⟨H,g⟩ I ⟨f,d⟩;dsimp only at f d;subst f;unfold dR oI;dsimp only;rw[if_neg (by omega),wr (by omega) (by omega)]
 have t:=IC (step:=eJ 1000 c) (K:=λx=>jU x.2) (bad:=false) c.length (λv=>qK (at' c (v:Int)) v c.length) (λv x=>x.1=(v:Int)∧∀z,z∈x.2↔QM c v 0 z) ?_ ?_ ?_ 1000 ((0:Int),[]) ⟨rfl,λz=>⟨λh=>(by cases h),fun⟨a,b,y,_⟩=>(by omega)⟩⟩ (by omega)
 rotate_left
 ·rintro v ⟨H,g⟩ p F ⟨f,d⟩ P;dsimp only at f d;subst f;obtain⟨X,y,e⟩:=(s v g p F d).1 P;refine⟨((v:Int)+1,X),⟨by simp,y⟩,?_⟩
  ·unfold eJ;dsimp only;rw[if_pos (by omega),cO (by omega)];exact e
 ·rintro v ⟨H,g⟩ p F ⟨f,d⟩ P;dsimp only at f d;subst f;unfold eJ;dsimp only;rw[if_pos (by omega),cO (by omega)];exact(s v g p F d).2 P
 ·rintro⟨H,g⟩ p ⟨f,d⟩;dsimp only at f d;subst f;unfold eJ;dsimp only;rw[if_neg (by omega)]
 by_cases D:∀v,v<c.length->qK (at' c (v:Int)) v c.length
 rotate_left
 ·exact⟨λh=>absurd h.1 D,λ_=>t.2 D⟩
 obtain⟨⟨H,g⟩,⟨f,d⟩,L⟩:=t.1 D;rw[L];dsimp only at d ⊢;have N:jU g=some (decide (∀z∈g,¬(Option.getD (nX (z.1.2,z.1.1) g) (0:Int))≠z.2)):=Md (λz:(Int×Int)×Int=>(Option.getD (nX (z.1.2,z.1.1) g) (0:Int))≠z.2) g;rw[N];have E:(∀z∈g,¬(Option.getD (nX (z.1.2,z.1.1) g) (0:Int))≠z.2)↔∀v,v<c.length->∀i,i<(at' c (v:Int)).length->AE ([],c) v i:=by
  constructor
  ·intro h v F i M;have hw:=(D v F i M).2.2.1;have n:=(d (((v:Int),(jL (at' c (v:Int)) i).1),(jL (at' c (v:Int)) i).2)).2 ⟨v,i,.inl F,M,rfl⟩;have e:=zAy.1 (h _ n);dsimp only at e;cases q:nX ((jL (at' c (v:Int)) i).1,(v:Int)) g with
   |none=>rw[q]at e;simp only[Option.getD]at e;omega
   | some w =>
    rw[q]at e;simp only[Option.getD]at e;obtain⟨a,b,l,C,A⟩:=(d _).1 (Ei q);simp only[Prod.mk.injEq]at A;obtain⟨⟨T,U⟩,h8⟩:=A;refine⟨b,?_,?_,?_⟩
    ·show b<(at' c (jL (at' c (v:Int)) i).1).length;rw[T];exact C
    ·show(jL (at' c (jL (at' c (v:Int)) i).1) b).1=v;rw[T];exact U.symm
    ·show(jL (at' c (jL (at' c (v:Int)) i).1) b).2=(jL (at' c (v:Int)) i).2;rw[T,<-h8];exact e
  ·intro h z hz ac;obtain⟨a,b,l,C,rfl⟩:=(d z).1 hz;have W:a<c.length:=by omega
   apply ac;obtain⟨j,r,o,B⟩:=h a W b C;have hu:=(D a W b C).1;obtain⟨u,Q⟩:∃u:Nat,(jL (at' c (a:Int)) b).1=u:=⟨(jL (at' c (a:Int)) b).1.toNat,by omega⟩
   replace r:j<(at' c (jL (at' c (a:Int)) b).1).length:=r;replace o:(jL (at' c (jL (at' c (a:Int)) b).1) j).1=a:=o;replace B:(jL (at' c (jL (at' c (a:Int)) b).1) j).2=(jL (at' c (a:Int)) b).2:=B;rw[Q]at r o B;have G:u<c.length:=by omega
   dsimp only;rw[Q,<-B];have n:=(d (((u:Int),(jL (at' c (u:Int)) j).1),(jL (at' c (u:Int)) j).2)).2 ⟨u,j,.inl G,r,rfl⟩;rw[o]at n;cases q:nX ((u:Int),(a:Int)) g with
   |none=>exact absurd n (xD q)
   | some w =>
    obtain⟨Y,S,ae,aa,A⟩:=(d _).1 (Ei q);simp only[Prod.mk.injEq]at A;obtain⟨⟨T,U⟩,h8⟩:=A;have:Y=u:=by omega
    subst this;have ab:S=j:=by
     rcases zB1 S j with O|O|O
     ·exact absurd (U.symm.trans o.symm) ((D Y G j r).2.2.2 S O)
     ·exact O
     ·exact absurd (o.trans U) ((D Y G S aa).2.2.2 j O)
    subst ab;exact h8
 by_cases V:∀v,v<c.length->∀i,i<(at' c (v:Int)).length->AE ([],c) v i
 ·rw[zA6 (E.2 V)];exact⟨λ_=>rfl,λh=>absurd ⟨D,V⟩ h⟩
 ·rw[zA5 (λh=>V (E.1 h))];exact⟨λh=>absurd h.2 V,λ_=>rfl⟩
theorem Mi:∀(N:Nat) (f:Nat->Nat) (k:Nat),(∀i,i<k->f i<N)->(∀i j,i<j->j<k->f i≠f j)->k<=N
 |0,f,k,h,_=>by
  cases k with
  |zero=>omega
  |succ k=>exact absurd (h 0 (by omega)) (by omega)
 | N + 1, f, k, h, hd => by
  by_cases b:∃a,a<k∧f a=N
  ·obtain⟨a,g,l⟩:=b;have:=Mi N (λi=>if i<a then f i else f (i+1)) (k - 1) (λi c=>by
    split
    ·have:=h i (by omega);have:=hd i a (by omega) g;omega
    ·have:=h (i+1) (by omega);have:=hd a (i+1) (by omega) (by omega);omega) (λi j d m=>by
    split<;>split
    ·exact hd i j d (by omega)
    ·exact hd i (j+1) (by omega) (by omega)
    ·omega
    ·exact hd (i+1) (j+1) (by omega) (by omega))
   omega
  ·have:=Mi N f k (λi c=>by
    have:=h i c;have:f i≠N:=λe=>b ⟨i,c,e⟩;omega) hd
   omega
theorem TG {l:eY} {v n:Nat} (b:v<n) (h:qK l v n):l.length<n:=by
 have:=Mi n (λi=>if i=l.length then v else(jL l i).1.toNat) (l.length+1) (λi e=>by
  split
  ·exact b
  ·have:=(h i (by omega)).1;omega) (λi j a f=>by
  rw[if_neg (by omega)];have c:=(h i (by omega)).1;split
  ·have:=(h i (by omega)).2.1;omega
  ·have d:=(h j (by omega)).1;have:=(h j (by omega)).2.2.2 i a;omega)
 omega
theorem aaK (g:GR) (j:light g):(VG g->jJ 1000 g=some true)∧(¬VG g->jJ 1000 g=some false):=by
 obtain⟨e,f,i⟩:=j;unfold jJ rB rC;by_cases l:g.1.length<1
 ·rw[if_pos (by omega)];exact⟨λh=>by have:=h.n1;have:=h.len;omega,λ_=>rfl⟩
 rw[if_neg (by omega)];by_cases m:24<g.1.length
 ·rw[if_pos (by omega)];exact⟨λh=>by have:=h.n24;have:=h.len;omega,λ_=>rfl⟩
 rw[if_neg (by omega)];by_cases d:g.1.length=g.2.length
 rotate_left
 ·rw[zA6 (by omega)];exact⟨λh=>absurd h.len d,λ_=>rfl⟩
 rw[zA5 (by omega),if_neg (by simp)];by_cases b:∀k,k<g.1.length->XG g.1 k
 rotate_left
 ·rw[(xR g.1 e).2 b,aZ Z];exact⟨λh=>absurd (λk n=>⟨(h.node k (by omega)).id,(h.node k (by omega)).ids⟩) b,λ_=>rfl⟩
 rw[(xR g.1 e).1 b,aZ Z,if_pos Z];by_cases a:NL g.2
 ·rw[(IS g.2 f i).1 a];exact⟨λ_=>rfl,λh=>absurd ⟨by omega,by omega,d,λv c=>⟨(b v (by omega)).1,TG c (a.1 v c),a.1 v c,(b v (by omega)).2⟩,a.2⟩ h⟩
 ·rw[(IS g.2 f i).2 a];exact⟨λh=>absurd ⟨λv c=>(h.node v c).links,h.sym⟩ a,λ_=>rfl⟩
theorem VG.light {g:GR} (h:VG g):light g:=⟨by have:=h.n24;have:=h.len;omega,by have:=h.n24;omega,λv a=>by have:=(h.node v a).deg;have:=h.n24;omega⟩
abbrev D (d:aX) (v:Nat):Int:=at' d (v:Int)
def JZ (g:GR) (v u:Nat):Prop:=∃i,i<(row g v).length∧(jL (row g v) i).1=(u:Int)
theorem VG.port {g:GR} (h:VG g) {v i:Nat} (b:v<g.2.length) (a:i<(row g v).length):∃u:Nat,u<g.2.length∧(jL (row g v) i).1=(u:Int)∧JZ g v u:=by
 have c:=((h.node v b).links i a).1;exact⟨(jL (row g v) i).1.toNat,by omega,by omega,i,a,by omega⟩
theorem VG.back {g:GR} (h:VG g) {v u:Nat} (f:v<g.2.length) (c:JZ g v u):JZ g u v:=by
 obtain⟨i,d,e⟩:=c;obtain⟨j,b,a,_⟩:=h.sym v f i d;rw[e]at b a;exact⟨j,b,a⟩
theorem VG.adj_lt {g:GR} (h:VG g) {v u:Nat} (c:v<g.2.length) (a:JZ g v u):u<g.2.length:=by
 obtain⟨i,b,d⟩:=a;have:=((h.node v c).links i b).1;omega
def Iu (d:aX):Nat:=d.countP λx=>decide (x<0)
structure SY (g:GR) (s:Nat) (d:aX):Prop where
 len:d.length=g.2.length
 lo:∀v,v<g.2.length -> -1<=D d v
 zero:∀v,v<g.2.length->(D d v=0↔v=s)
 near:∀v,v<g.2.length->0<D d v->∃u,u<g.2.length∧JZ g v u∧D d u=D d v - 1
 hi:∀v,v<g.2.length->D d v+(Iu d:Int)<=(g.2.length:Int)
structure Qu (g:GR) (q d:aX) (b:Int) (done:Nat->Prop):Prop where
 mem:∀y∈q,∃v,v<g.2.length∧y=((v:Nat):Int)∧0<=D d v
 top:∀v,v<g.2.length->D d v<=b
 sort:q.Pairwise λa c=>at' d a<=at' d c
 done:∀v,v<g.2.length->0<=D d v->((v:Nat):Int)∉q->done v->∀u,u<g.2.length->JZ g v u->0<=D d u∧D d u<=D d v+1
theorem ND {d:aX} {v:Nat} (h:v<d.length):D d v=d[v]:=by
 rw[D,lZ,zA7,zA0 h];rfl
theorem LB {d:aX} {u:Nat} {x:Int} (a:u<d.length) (b:D d u<0) (e:0<=x):Iu (d.set u x)+1=Iu d:=by
 unfold Iu;rw[List.countP_set a];have c:0<d.countP λx=>decide (x<0):=by
  rw[List.countP_pos_iff];exact⟨d[u],zB7 a,by rw[<-ND a];simpa using b⟩
 rw[ND a]at b;rw[if_pos (by simpa using b),if_neg (by simp;omega)];omega
theorem assign {g:GR} {s:Nat} {q d:aX} {b:Int} {done:Nat->Prop} (E:VG g) (l:SY g s d) {x u:Nat} (m:Qu g q d (D d x+1) done) (B:x<g.2.length) (K:0<=D d x) (J:u<g.2.length) (t:D d u<0) (F:JZ g x u):
  SY g s (d.set u (D d x+1))∧Qu g (q++[(u:Int)]) (d.set u (D d x+1)) (D d x+1) done:=by
 have o:=l.len;have e:∀v,D (d.set u (D d x+1)) v=if v=u then D d x+1 else D d v:=λv=>AN _ _ _ _ (by omega);have G:=LB (x:=D d x+1) (by omega:u<d.length) t (by omega);refine⟨⟨by simp[o],λv f=> ?_,λv f=> ?_,λv f=> ?_,λv f=> ?_⟩,⟨λy j=> ?_,λv f=> ?_,?_,λv f k n H w A i=> ?_⟩⟩
 ·rw[e];split
  ·omega
  ·exact l.lo v f
 ·rw[e];split
  ·rename_i h;subst h;have:=(l.zero v f)
   constructor
   ·intro;omega
   ·intro h;have:=this.2 h;omega
  ·exact l.zero v f
 ·rw[e];split
  ·rename_i h;subst h;intro _;refine⟨x,B,E.back B F,?_⟩
   rw[e,if_neg (by intro h;subst h;omega)];omega
  ·intro k;obtain⟨w,A,i,I⟩:=l.near v f k;refine⟨w,A,i,?_⟩
   rw[e,if_neg (by intro h;subst h;omega)];exact I
 ·rw[e];split
  ·have:=l.hi x B;omega
  ·have:=l.hi v f;omega
 ·rcases List.mem_append.1 j with j|j
  ·obtain⟨v,f,rfl,k⟩:=m.mem y j;refine⟨v,f,rfl,?_⟩
   rw[e];split<;>omega
  ·simp only[List.mem_singleton]at j;refine⟨u,J,j,?_⟩
   rw[e,if_pos Z];omega
 ·rw[e];split
  ·omega
  ·exact m.top v f
 ·rw[List.pairwise_append];have n:∀y∈q,at' (d.set u (D d x+1)) y=at' d y:=by
   intro y j;obtain⟨v,f,rfl,k⟩:=m.mem y j;have:=e v;rw[if_neg (by intro h;subst h;omega)]at this;exact this
  refine⟨m.sort.imp_of_mem λ{a c} h1 r h=> ?_,List.pairwise_singleton ..,λy j z C=> ?_⟩
  ·rw[n a h1,n c r];exact h
  ·simp only[List.mem_singleton]at C;subst C;rw[n y j];have r:=e u;rw[if_pos Z]at r;obtain⟨v,f,rfl,k⟩:=m.mem y j;have:=m.top v f;show D d v<=D (d.set u (D d x+1)) u;omega
 ·have p:v≠u:=by
   rintro rfl;exact n (by simp)
  rw[e,if_neg p]at k;rw[e v,if_neg p];have:=m.done v f k (λh=>n (List.mem_append_left _ h)) H w A i;rw[e w,if_neg (by rintro rfl;omega)];exact this
theorem PS {g:GR} (E:VG g) {s x:Nat} (I:x<g.2.length) (a e:aX) (R:List Int×aX->Option aX) (r:aX->Prop)
  (o:SY g s e) (ae:0<=D e x) (m:Qu g a e (D e x+1) (λv=>v≠x)) (hm:a.length+Iu e<=g.2.length)
  (K:∀q d,SY g s d->D d x=D e x->Qu g q d (D d x+1) (λ_=>True)->q.length+Iu d=a.length+Iu e->(∀y∈q,D e x<=at' d y)->OK r (R (q,d)))
  (l:∀y∈a,D e x<=at' e y):
  OK r (bK (sM g ((x:Int)::a,e) R) 1000 ((0:Int),a,e)):=by
 have U:=(E.node x I).deg;have aa:=E.n24;refine A_ (λz:Int×List Int×aX=>∃k:Nat,z.1=k∧k<=(row g x).length∧SY g s z.2.2∧D z.2.2 x=D e x∧Qu g z.2.1 z.2.2 (D e x+1) (λv=>v≠x)∧z.2.1.length+Iu z.2.2=a.length+Iu e∧(∀i,i<k->∀u:Nat,(jL (row g x) i).1=u->0<=D z.2.2 u)∧(∀y∈z.2.1,D e x<=at' z.2.2 y)) (λz=>31 - z.1.toNat) ?_ 1000 _ ⟨0,rfl,by omega,o,rfl,m,rfl,λi L=>by omega,l⟩ (by simp);rintro⟨z1,q,d⟩ X ⟨k,W,hk,o,f,m,A,F,l⟩ p;dsimp only at W o f m A F l;subst W;have V:=o.len;have e0:at' ((x:Int)::a) 0=(x:Int):=rfl;unfold sM sL;dsimp only;rw[e0];by_cases N:k<(row g x).length
 ·rw[if_pos (show(k:Int)<((row g x).length:Int) by omega),cO (show 0<=(k:Int)∧(k:Int)<((row g x).length:Int) by omega)];obtain⟨u,G,O,j⟩:=E.port I N;rw[show at' (at' g.2 (x:Int)) (k:Int)=jL (row g x) k from rfl,O,cO (by omega)];have ac:=o.hi x I;by_cases c:at' d (u:Int)<0
  ·have J:Qu g q d (D d x+1) (λv=>v≠x):=by rw[f];exact m
   obtain⟨Y,c2⟩:=assign (b:=0) E o J I (by omega) G c j;have ab:=LB (x:=D d x+1) (by omega:u<d.length) c (by omega);have n:∀v,D (d.set u (D d x+1)) v=if v=u then D d x+1 else D d v:=λv=>AN _ _ _ _ (by omega);have Q:x≠u:=by rintro rfl;have:D d x<0:=c;omega
   rw[if_pos c,cO (by omega),cO (by omega),cO (by simp only[List.length_singleton];omega),wr (x:=(k:Int)+1) (by omega) (by omega),wr (x:=at' d (x:Int)+1) (by show -9223372036854775808<=D d x+1;omega) (by show D d x+1<=_;omega)];refine p _ ⟨k+1,by simp,by omega,Y,?_,?_,?_,?_,?_⟩ (by dsimp only;omega)
   ·show D (d.set u (D d x+1)) x=_;rw[n,if_neg Q];exact f
   ·rw[<-f];exact c2
   ·show(q++[(u:Int)]).length+Iu (d.set u (D d x+1))=_;simp only[zAi,List.length_singleton];omega
   ·intro i L w P;show 0<=D (d.set u (D d x+1)) w;rw[n];split
    ·omega
    ·by_cases t:i=k
     ·subst t;omega
     ·exact F i (by omega) w P
   ·intro y B;show D e x<=at' (d.set u (D d x+1)) y;rcases List.mem_append.1 B with B|B
    ·have h1:=l y B;obtain⟨v,H,rfl,S⟩:=m.mem y B;have T:=n v;rw[if_neg (by intro h;subst h;have:D d v<0:=c;omega)]at T;rw[show at' (d.set u (D d x+1)) (v:Int)=D d v from T];exact h1
    ·simp only[List.mem_singleton]at B;subst B;rw[show at' (d.set u (D d x+1)) (u:Int)=D d x+1 from(n u).trans (if_pos Z)];omega
  ·rw[if_neg c,wr (by omega) (by omega)];refine p _ ⟨k+1,by simp,by omega,o,f,m,A,?_,l⟩ (by dsimp only;omega);intro i L w P;by_cases t:i=k
   ·subst t;have:w=u:=by omega
    subst this;show 0<=at' d (w:Int);omega
   ·exact F i (by omega) w P
 ·rw[if_neg (show¬(k:Int)<((row g x).length:Int) by omega)];have ad:k=(row g x).length:=by omega
  refine K q d o f ⟨m.mem,λv H=>by rw[f];exact m.top v H,m.sort,λv H S hq _ u G j=> ?_⟩ A l;by_cases C:v=x
  ·subst C;obtain⟨i,L,M⟩:=j;exact⟨F i (by omega) u M,by rw[f];exact m.top u G⟩
  ·exact m.done v H S hq C u G j
structure Ct (g:GR) (s:Nat) (d:aX):Prop where
 len:d.length=g.2.length
 lo:∀v,v<g.2.length -> -1<=D d v
 zero:∀v,v<g.2.length->(D d v=0↔v=s)
 near:∀v,v<g.2.length->0<D d v->∃u,u<g.2.length∧JZ g v u∧D d u=D d v - 1
 next:∀v,v<g.2.length->0<=D d v->∀u,u<g.2.length->JZ g v u->0<=D d u∧D d u<=D d v+1
 hi:∀v,v<g.2.length->D d v<=(g.2.length:Int)
theorem Sf {g:GR} (t:VG g) {s:Nat} (f:aX) (k:aX) (b:SY g s f) (c:Qu g k f (match k with|[]=>1000|y::_=>at' f y+1) (λ_=>True)) (j:k.length+Iu f<=g.2.length):
  OK (Ct g s) (bK (pK 1000 g) 1000 (k,f)):=by
 have G:=t.n24;refine A_ (λz:List Int×aX=>SY g s z.2∧Qu g z.1 z.2 (match z.1 with|[]=>1000|y::_=>at' z.2 y+1) (λ_=>True)∧z.1.length+Iu z.2<=g.2.length) (λz=>z.1.length+Iu z.2) ?_ 1000 _ ⟨b,c,j⟩ (by dsimp only;omega);rintro⟨q,d⟩ C ⟨b,c,j⟩ m;dsimp only at b c j;unfold pK xW;dsimp only;cases q with
 |nil=>
  rw[if_neg (by simp)];exact⟨d,rfl,b.len,b.lo,b.zero,b.near,λv e l u n a=>c.done v e l (by simp) trivial u n a,λv e=>by have:=b.hi v e;omega⟩
 | cons y rest =>
  obtain⟨x,A,rfl,p⟩:=c.mem y (zAa ..);have F:at' ((x:Int)::rest) 0=(x:Int):=rfl;rw[if_pos (by simp only[zAh];omega),cO (by simp only[zAh];omega),cO (by simp only[zAh];omega),F,cO (by omega)];have w:=List.pairwise_cons.1 c.sort;simp only[zAh]at j;refine PS t A rest d C _ b p ⟨λz I=>c.mem z (zAg _ I),c.top,w.2,λv e l H o u n a=>c.done v e l (λh=> ?_) trivial u n a⟩ (by omega) (λB E r J i K D=> ?_) w.1
  ·rcases zAl.1 h with h|h
   ·exact o (by omega)
   ·exact H h
  ·refine m (B,E) ⟨r,⟨i.mem,λv e=> ?_,i.sort,i.done⟩,by dsimp only;omega⟩ (by simp only[zAh];omega);dsimp only;have L:=i.top v e;cases B with
   |nil=>
    dsimp only;have:=r.hi x A;omega
   |cons z M=>
    dsimp only;have:=D z (zAa ..);omega
theorem JL {g:GR} (l:VG g) {s:Nat} (m:s<g.2.length):OK (Ct g s) (zS 1000 g (s:Int)):=by
 have q:=l.n24;unfold zS;rw[cO (by omega)];refine A_ (λz:qA=>∃k:Nat,z.1=k∧k<=g.2.length∧z.2.length=g.2.length∧∀v,v<k->D z.2 v = -1) (λz=>31 - z.1.toNat) ?_ 1000 _ ⟨0,rfl,by omega,by simp,λv c=>by omega⟩ (by simp);rintro⟨C,d⟩ A ⟨k,o,B,e,j⟩ i;dsimp only at o e j;subst o;unfold BU;simp only[List.length_replicate,zAe];by_cases u:k<g.2.length
 ·rw[if_pos (by omega),cO (by omega),wr (by omega) (by omega)];refine i _ ⟨k+1,by simp,by omega,by simp[e],λv c=> ?_⟩ (by dsimp only;omega);show at' (d.set k (-1)) (v:Int) = -1;rw[AN _ _ _ _ (by omega)];split
  ·rfl
  ·exact j v (by omega)
 ·rw[if_neg (by omega)];unfold BS;rw[cO (by omega)];have b:∀v,v<g.2.length->D d v = -1:=λv c=>j v (by omega);have a:∀v,D (d.set s 0) v=if v=s then 0 else D d v:=λv=>AN _ _ _ _ (by omega);have t:=LB (x:=0) (by omega:s<d.length) (by rw[b s m];omega) (by omega);have r:Iu d<=d.length:=List.countP_le_length ..;refine Sf l _ _ ⟨by simp[e],λv c=> ?_,λv c=> ?_,λv c=> ?_,λv c=> ?_⟩ ⟨λy n=> ?_,λv c=> ?_,List.pairwise_singleton ..,λv c p w=> ?_⟩ ?_
  ·rw[zAe,a];split
   ·omega
   ·rw[b v c];omega
  ·rw[zAe,a];split
   ·rename_i h;exact⟨λ_=>h,λ_=>rfl⟩
   ·rename_i h;rw[b v c];exact⟨λf=>by omega,λf=>absurd f h⟩
  ·rw[zAe,a];split
   ·omega
   ·rw[b v c];omega
  ·rw[zAe,a];split
   ·omega
   ·rw[b v c];omega
  ·simp only[List.mem_singleton]at n;refine⟨s,m,n,?_⟩
   rw[zAe,a,if_pos Z];omega
  ·rw[zAe];have f:at' (d.set s 0) (s:Int)=0:=(a s).trans (if_pos Z);show D (d.set s 0) v<=at' (d.set s 0) (s:Int)+1;rw[f,a];split
   ·omega
   ·rw[b v c];omega
  ·rw[zAe,a,if_neg (by rintro rfl;exact w (by simp)),b v c]at p;omega
  ·rw[zAe];simp only[List.length_singleton];omega
theorem Pj {g:GR} (a:VG g) {s:Nat} (e:s<g.2.length):OK (Ct g s) (p_ 1000 g (s:Int)):=by
 unfold p_ oH;rw[(aaK g a.light).1 a,aZ Z,if_neg (by simp),if_neg (by omega),zA5 (by omega),if_neg (by simp)];obtain⟨d,c,b⟩:=JL a e;rw[c];exact⟨d,rfl,b⟩
def EC (g:GR) (s:Nat):Nat->Nat->Prop
 |0,v=>v=s∧s<g.2.length
 |k+1,v=>∃u,EC g s k u∧JZ g u v
theorem EC.lt {g:GR} (a:VG g) {s:Nat}:∀{k v:Nat},EC g s k v->v<g.2.length
 |0,_,h=>by obtain⟨rfl,h⟩:=h;exact h
 |_+1,_,h=>by obtain⟨u,b,c⟩:=h;exact a.adj_lt (EC.lt a b) c
theorem Ct.le {g:GR} (a:VG g) {s:Nat} {d:aX} (h:Ct g s d):∀{k v:Nat},EC g s k v->0<=D d v∧D d v<=k
 |0,v,hw=>by
  obtain⟨rfl,i⟩:=hw;have:=(h.zero v i).2 Z;omega
 |k+1,v,hw=>by
  obtain⟨u,b,c⟩:=hw;have e:=EC.lt a b;have f:=Ct.le a h b;have j:=h.next u e f.1 v (a.adj_lt e c) c;omega
theorem NE {g:GR} (b:VG g) {s:Nat} {d:aX} (h:Ct g s d):∀(k v:Nat),v<g.2.length->D d v=k->EC g s k v
 |0,v,hv,he=>by
  have:=(h.zero v hv).1 he;exact⟨this,by omega⟩
 |k+1,v,hv,he=>by
  obtain⟨u,c,a,e⟩:=h.near v hv (by omega);exact⟨u,NE b h k u c (by omega),b.back hv a⟩
theorem Ct.pos {g:GR} (a:VG g) {s:Nat} {d:aX} (h:Ct g s d) {v:Nat} (b:v<g.2.length) (c:0<=D d v):EC g s (D d v).toNat v:=
 NE a h _ v b (by omega)
theorem Xg (g:GR) (v:Nat) (u:Int) (m:v<g.2.length) (l:(row g v).length<=30):uJ 1000 g v u=some (DG (row g v) u):=by
 unfold uJ;rw[cO (by omega)];rcases Cn (row g v) u with⟨i,j,h,c,b⟩|⟨c,b⟩
 ·rw[b];refine GM (λx:Int=>∃k:Nat,x=k∧k<=i) (λx=>31 - x.toNat) ?_ 1000 _ ⟨0,rfl,by omega⟩ (by omega);rintro x d ⟨k,rfl,f⟩ a;unfold xV;rw[if_pos (show(k:Int)<((row g v).length:Int) by omega),cO (show 0<=(k:Int)∧(k:Int)<((row g v).length:Int) by omega)];by_cases e:k=i
  ·subst e;exact if_pos h
  ·rw[if_neg (c k (by omega)),wr (by omega) (by omega)];exact a _ ⟨k+1,by omega,by omega⟩ (by omega)
 ·rw[b];refine GM (λx:Int=>∃k:Nat,x=k∧k<=(row g v).length) (λx=>31 - x.toNat) ?_ 1000 _ ⟨0,rfl,by omega⟩ (by omega);rintro x d ⟨k,rfl,f⟩ a;unfold xV;by_cases e:k<(row g v).length
  ·rw[if_pos (show(k:Int)<((row g v).length:Int) by omega),cO (show 0<=(k:Int)∧(k:Int)<((row g v).length:Int) by omega),if_neg (c k e),wr (by omega) (by omega)];exact a _ ⟨k+1,by omega,by omega⟩ (by omega)
  ·rw[if_neg (show¬(k:Int)<((row g v).length:Int) by omega)];rfl
section
def afQ (f:Nat->Nat):Nat->Nat
 |0=>0
 |k+1=>afQ f k+f k
theorem aaq {f:Nat->Nat}:∀{n:Nat} (v:Nat),v<n->f v<=afQ f n
 |0,v,h=>by omega
 |n+1,v,h=>by
  show f v<=afQ f n+f n;by_cases e:v=n
  ·subst e;omega
  ·have:=aaq (f:=f) (n:=n) v (by omega);omega
open Classical in
noncomputable def ind (p:Prop):Nat:=if p then 1 else 0
end
theorem OG (a:Nat) (h:a<4294967296):IntKind.u32.wrap (a:Int)=a:=by rw[<-Fw];exact if_pos ⟨by omega,by omega⟩
def Qr (x:Int):Nat:=(BitVec.ofInt 32 x).toNat
theorem Lj (x:Int):Qr x<4294967296:=(BitVec.ofInt 32 x).isLt
theorem tG {a:Nat} (h:a<4294967296):Qr (a:Int)=a:=by
 unfold Qr;rw[BitVec.ofInt_natCast,BitVec.toNat_ofNat];exact Nat.mod_eq_of_lt h
theorem KI (x y:Int):eG .u32 x y=((Qr x &&& Qr y:Nat):Int):=by
 show IntKind.u32.wrap (((BitVec.ofInt 32 x &&& BitVec.ofInt 32 y).toNat:Nat):Int)=_;rw[BitVec.toNat_and];exact OG _ (Nat.lt_of_le_of_lt Nat.and_le_left (Lj x))
theorem Yk (x y:Int):Fx .u32 x y=((Qr x ||| Qr y:Nat):Int):=by
 show IntKind.u32.wrap (((BitVec.ofInt 32 x ||| BitVec.ofInt 32 y).toNat:Nat):Int)=_;rw[BitVec.toNat_or];exact OG _ (Nat.or_lt_two_pow (n:=32) (Lj x) (Lj y))
theorem Yj (x y:Int):kE .u32 x y=0↔∀i,(Qr x).testBit i=true->(Qr y).testBit i=true:=by
 have e:kE .u32 x y=(((BitVec.ofInt 32 x &&& ~~~ BitVec.ofInt 32 y).toNat:Nat):Int):=OG _ (BitVec.ofInt 32 x &&& ~~~ BitVec.ofInt 32 y).isLt;have b:∀i,(BitVec.ofInt 32 x &&& ~~~ BitVec.ofInt 32 y).toNat.testBit i=((Qr x).testBit i&&(decide (i<32) && !(Qr y).testBit i)):=by
  intro i;have:=BitVec.getLsbD_and (x:=BitVec.ofInt 32 x) (y:= ~~~ BitVec.ofInt 32 y) (i:=i);rw[BitVec.getLsbD_not]at this;exact this
 have d:∀i,(Qr x).testBit i=true->i<32:=by
  intro i a;apply Classical.byContradiction;intro f;rw[Nat.testBit_lt_two_pow (zAj (Lj x) (Nat.pow_le_pow_right (n:=2) (by omega) (show 32<=i by omega)))]at a;cases a
 rw[e];constructor
 ·intro h i a;have c:(BitVec.ofInt 32 x &&& ~~~ BitVec.ofInt 32 y).toNat=0:=by omega
  have:=b i;rw[c,zBe,a,zA6 (d i a)]at this;simpa using this
 ·intro h;have:(BitVec.ofInt 32 x &&& ~~~ BitVec.ofInt 32 y).toNat=0:=by
   apply Nat.eq_of_testBit_eq;intro i;rw[b i,zBe];cases a:(Qr x).testBit i with
   |false=>rfl
   |true=>rw[h i a];simp
  omega
theorem Fh {k:Nat} (a:k<32):2^k<4294967296:=Nat.pow_lt_pow_right (n:=32) (by omega) a
theorem UF {k:Nat} (a:k<32):zE .u32 1 (k:Int)=((2^k:Nat):Int):=by
 show IntKind.u32.wrap (1*2^(min ((k:Int).toNat) 32))=_;rw[zAe,Nat.min_eq_left (by omega),Int.one_mul,show(2:Int)^k=((2^k:Nat):Int) by simp];exact OG _ (Fh a)
theorem Ir {a k:Nat} (b:k<32):mZ .u32 (a:Int) (k:Int)=((a / 2^k:Nat):Int):=by
 show Int.fdiv (a:Int) (2^(min ((k:Int).toNat) 32))=_;rw[zAe,Nat.min_eq_left (by omega),show(2:Int)^k=((2^k:Nat):Int) by simp,Int.fdiv_eq_ediv_of_nonneg _ (Int.natCast_nonneg _)];simp
theorem LR {a k:Nat} (d:k<32) (c:a<4294967296):eG .u32 (mZ .u32 (a:Int) (k:Int)) 1=1↔a.testBit k=true:=by
 have b:Qr 1=1:=tG (a:=1) (by omega);rw[Ir d,KI,tG (Nat.lt_of_le_of_lt (Nat.div_le_self _ _) c),b,Nat.and_one_is_mod,Nat.testBit_eq_decide_div_mod_eq,zA8];omega
def Le (g:GR) (s:Nat):Prop:=(∀v,s.testBit v=true->v<g.2.length)∧∀v u,s.testBit v=true->s.testBit u=true->¬JZ g v u
theorem aee {g:GR} (a:VG g):BH 1000 g=some ((2^g.2.length - 1:Nat):Int):=by
 have c:=a.n24;have d:=a.len;have e:=Fh (show g.2.length<32 by omega);have b:1<=2^g.2.length:=Nat.one_le_two_pow;unfold BH;rw[cO (by omega),d,UF (by omega),show((2^g.2.length:Nat):Int) - 1=((2^g.2.length - 1:Nat):Int) by omega];congr 1;exact if_pos ⟨by omega,by omega⟩
theorem SH {k:Nat} (a:k<32):wI .u64 (k:Int)=k:=by
 show IntKind.u64.wrap (k:Int)=k;have:∀j:Fin 32,IntKind.u64.wrap ((j.1:Nat):Int)=(j.1:Nat):=by decide
 exact this ⟨k,a⟩
theorem EN {s v:Nat} (b:s<4294967296) (a:v<32):nN 1000 (s:Int) (v:Int)=some (s.testBit v):=by
 unfold nN vX;rw[if_pos (by omega),if_pos (by omega),SH a,cO (by omega)];congr 1;by_cases h:s.testBit v=true
 ·rw[h];exact zA6 ((LR a b).2 h)
 ·rw[Bool.not_eq_true]at h;rw[h];exact zA5 λc=>by rw[(LR a b).1 c]at h;cases h
theorem Xj {n:Nat} (j:n<=24):OK (λr:Int=>∃m:Nat,r=m∧m<4294967296∧∀v,m.testBit v=true↔v<n) (kC 1000 (n:Int)):=by
 unfold kC;refine A_ (λz:eL=>∃k:Nat,z.2=k∧k<=n∧∃m:Nat,z.1=m∧m<4294967296∧∀v,m.testBit v=true↔v<k) (λz=>31 - z.2.toNat) ?_ 1000 _ ⟨0,rfl,by omega,0,rfl,by omega,λv=>by simp⟩ (by simp);rintro⟨a,z⟩ h ⟨k,f,i,m,e,b,d⟩ c;dsimp only at f e;subst f e;unfold vW vV z_;dsimp only;by_cases g:k<n
 ·rw[if_pos (by omega),if_pos (by rw[zA8];omega),SH (by omega),cO (by omega),UF (by omega),Yk,tG b,tG (Fh (by omega)),wr (by omega) (by omega)];refine c _ ⟨k+1,by simp,by omega,_,rfl,Nat.or_lt_two_pow (n:=32) b (Fh (by omega)),λv=> ?_⟩ (by dsimp only;omega);rw[Nat.testBit_or,zAp,zAu,d v,zA8];omega
 ·rw[if_neg (by omega),if_neg (by simp)];have:k=n:=by omega
  subst this;exact⟨_,rfl,m,rfl,b,d⟩
theorem Ct.lt {g:GR} {s:Nat} {d:aX} (h:Ct g s d) {v:Nat} (p:v<g.2.length):D d v<(g.2.length:Int):=by
 apply Classical.byContradiction;intro t;have all:∀m:Nat,(m:Int)<=D d v->∃w,w<g.2.length∧D d w=D d v - m:=by
  intro m
  induction m with
  |zero=>intro _;exact⟨v,p,by omega⟩
  |succ m q=>
   intro x;obtain⟨w,e,c⟩:=q (by omega);obtain⟨u,n,_,o⟩:=h.near w e (by omega);exact⟨u,n,by omega⟩
 have b:∀i:Nat,i<g.2.length+1->∃w,w<g.2.length∧D d w=(i:Int):=by
  intro i a;obtain⟨w,e,c⟩:=all (D d v - i).toNat (by omega);exact⟨w,e,by omega⟩
 have:=Mi g.2.length (λi=>if a:i<g.2.length+1 then Classical.choose (b i a)else 0) (g.2.length+1) (λi a=>by
  rw[dif_pos a];exact(Classical.choose_spec (b i a)).1) (λi j l f c=>by
  rw[dif_pos (by omega),dif_pos f]at c;have k:=(Classical.choose_spec (b i (by omega))).2;have r:=(Classical.choose_spec (b j f)).2;rw[c]at k;omega)
 omega
def T (e:aX) (k v w:Nat):Int:=if 0<=D e w∧(D e w<k∨(D e w=k∧w<v))then D e w else -1
theorem Ni (l:aX) (h:l.length<=30):vM 1000 l l=some true:=by
 unfold vM;rw[if_neg (by simp)];refine GM (λz:Int=>∃k:Nat,z=k∧k<=l.length) (λz=>31 - z.toNat) ?_ 1000 _ ⟨0,rfl,by omega⟩ (by simp);rintro z c ⟨k,rfl,d⟩ a;unfold Aa tP;by_cases b:k<l.length
 ·rw[if_pos (by omega),cO (by omega),cO (by omega),if_neg (by simp),wr (by omega) (by omega)];exact a _ ⟨k+1,by simp,by omega⟩ (by omega)
 ·rw[if_neg (by omega)]
theorem Zt {X R:Type} {step:X->(X->Option R)->Option R} {K:X->Option R} {bad:R} (N:Nat) (p:Nat->Prop) (I:Nat->X->Prop) (B:Nat)
  (t:∀(k:Nat) x q,k<N->k<B->I k x->p k->∃c,I (k+1) c∧step x q=q c) (l:∀(k:Nat) x q,k<N->k<B->I k x->¬p k->step x q=some bad) (s:∀x q,I N x->N<B->step x q=K x):
  ∀(b:Nat) (x:X),I 0 x->B<=b->(N<B∨∃k,k<N∧k<B∧¬p k)->((∀k,k<N->p k)->∃c,I N c∧bK step b x=K c)∧(¬(∀k,k<N->p k)->bK step b x=some bad):=by
 intro b x e v hB;have r:∀(d a b:Nat) (x:X),I a x->a+d<N->a+d<B->¬p (a+d)->d<b->bK step b x=some bad:=by
  intro d
  induction d with
  |zero=>
   intro a b x e j g i v;obtain⟨f,rfl⟩:∃f,b=f+1:=⟨b - 1,by omega⟩
   exact l a x _ j g e i
  | succ d y =>
   intro a b x e j g i v;obtain⟨f,rfl⟩:∃f,b=f+1:=⟨b - 1,by omega⟩
   by_cases u:p a
   ·obtain⟨c,n,o⟩:=t a x (bK step f) (by omega) (by omega) e u;have o:bK step (f+1) x=bK step f c:=o;rw[o];exact y (a+1) f c n (by omega) (by omega) (by rw[show a+1+d=a+(d+1) by omega];exact i) (by omega)
   ·exact l a x _ (by omega) (by omega) e u
 have m:∀(d a b:Nat) (x:X),I a x->a+d=N->N<B->(∀k,a<=k->k<N->p k)->d<b->∃c,I N c∧bK step b x=K c:=by
  intro d
  induction d with
  |zero=>
   intro a b x e j g i v;obtain⟨f,rfl⟩:∃f,b=f+1:=⟨b - 1,by omega⟩
   obtain rfl:a=N:=by omega
   exact⟨x,e,s x _ e g⟩
  |succ d y=>
   intro a b x e j g i v;obtain⟨f,rfl⟩:∃f,b=f+1:=⟨b - 1,by omega⟩
   obtain⟨c,n,o⟩:=t a x (bK step f) (by omega) (by omega) e (i a (zAd _) (by omega));have o:bK step (f+1) x=bK step f c:=o;rw[o];exact y (a+1) f c n (by omega) g (λk j g=>i k (by omega) g) (by omega)
 constructor
 ·intro h;rcases hB with hB|⟨k,j,_,g⟩
  ·exact m N 0 b x e (by omega) hB (λk _ w=>h k w) (by omega)
  ·exact absurd (h k j) g
 ·intro h;have:∃k,k<N∧k<B∧¬p k:=by
   rcases hB with hB|hB
   ·apply Classical.byContradiction;intro A;exact h λk w=>Classical.byContradiction λi=>A ⟨k,w,by omega,i⟩
   ·exact hB
  obtain⟨k,j,g,z⟩:=this;exact r k 0 b x e (by omega) (by omega) (by rw[Nat.zero_add];exact z) (by omega)
theorem Xk {a:h_} (q:a.length<=30) {v:Nat} (r:v<a.length):(at' a (v:Int)).length<1000∨∃k,k<(at' a (v:Int)).length∧k<1000∧¬Jm (at' a (v:Int)) v a.length k:=by
 by_cases h:(at' a (v:Int)).length<1000
 ·exact .inl h
 ·right;apply Classical.byContradiction;intro f;have b:∀k,k<40->Jm (at' a (v:Int)) v a.length k:=λk p=>Classical.byContradiction λl=>f ⟨k,by omega,by omega,l⟩;have:=Mi a.length (λi=>(jL (at' a (v:Int)) i).1.toNat) 40 (λi g=>by have:=(b i g).1;omega) (λi j c d o=>by
   have m:=(b i (by omega)).1;have n:=(b j d).1;have e:=(b j d).2.2.2 i c;exact e (by omega))
  omega
theorem Cp (g:GR):(VG g->gW 1000 g=some true)∧(¬VG g->gW 1000 g=some false):=by
 unfold gW;rw[rU,aZ Z];by_cases y:1<=g.2.length∧g.2.length<=24
 rotate_left
 ·rw[zA5 (by omega)];exact⟨λh=>absurd ⟨h.n1,h.n24⟩ y,λ_=>rfl⟩
 rw[zA6 (by omega),if_neg (by simp)];by_cases G:g.1.length=g.2.length
 rotate_left
 ·rw[zA6 (by omega)];exact⟨λh=>absurd h.len G,λ_=>rfl⟩
 rw[zA5 (by omega)];unfold uO;rw[if_neg (by simp)];have o:∀(v:Nat) (b:Int->Option Bool),v<g.2.length->((∀k,k<v->Hc g k≠Hc g v)->bK (gU g v b) 1000 0=b ((v:Int)+1))∧(¬(∀k,k<v->Hc g k≠Hc g v)->bK (gU g v b) 1000 0=some false):=by
  intro v b e;refine AZ v _ (λk a B c=> ?_) (λk a B c=> ?_) (λa=> ?_) 1000 (by omega)
  ·unfold gU;rw[if_pos (by omega),cO (by omega),cO (by omega),if_neg c,wr (by omega) (by omega)]
  ·unfold gU;rw[if_pos (by omega),cO (by omega),cO (by omega),if_pos (zAy.1 c)]
  ·unfold gU uS;rw[if_neg (by omega),wr (by omega) (by omega)]
 have l:=AZ (step:=f_ 1000 g) (K:=oU 1000 g ()) (bad:=false) g.2.length (Ll g) (λv b e c=> ?_) (λv b e c=> ?_) (λb=> ?_) 1000 (by omega)
 rotate_left
 ·unfold f_ mN;rw[if_pos (by omega),cO (by omega),rU,zA6 c.id,aZ Z,if_neg (by simp),cO (by omega),if_neg (show¬((g.2.length:Int)<=((row g v).length:Int))from by have:=c.deg;omega),cO (by omega),(sZ (row g v) v g.2.length (by have:=c.deg;omega) (by omega)).1 c.links,aZ Z,if_neg (by simp)];exact(o v b e).1 c.ids
 ·unfold f_ mN;rw[if_pos (by omega),cO (by omega),rU];by_cases w:0<=Hc g v∧Hc g v<=255
  rotate_left
  ·rw[zA5 w];rfl
  rw[zA6 w,aZ Z,if_neg (by simp),cO (by omega)];by_cases H:(row g v).length<g.2.length
  rotate_left
  ·rw[if_pos (show(g.2.length:Int)<=((row g v).length:Int) by omega)];rfl
  rw[if_neg (show¬(g.2.length:Int)<=((row g v).length:Int) by omega),cO (by omega)];by_cases x:qK (row g v) v g.2.length
  rotate_left
  ·rw[(sZ (row g v) v g.2.length (by omega) (by omega)).2 x];rfl
  rw[(sZ (row g v) v g.2.length (by omega) (by omega)).1 x,aZ Z,if_neg (by simp)];exact(o v b e).2 λI=>c ⟨w,H,x,I⟩
 ·unfold f_;rw[if_neg (by omega)]
 by_cases p:∀v,v<g.2.length->Ll g v
 rotate_left
 ·exact⟨λh=>absurd h.node p,λ_=>l.2 p⟩
 rw[l.1 p];unfold oU;have f:∀(v:Nat) (b:Int->Option Bool),v<g.2.length->((∀i,i<(row g v).length->AE g v i)->bK (fL 1000 g v b) 1000 0=b ((v:Int)+1))∧(¬(∀i,i<(row g v).length->AE g v i)->bK (fL 1000 g v b) 1000 0=some false):=by
  intro v b e;have M:=(p v e).deg;have n:∀(i:Nat) a,i<(row g v).length->(AE g v i->fL 1000 g v b i a=a ((i:Int)+1))∧(¬AE g v i->fL 1000 g v b i a=some false):=by
   intro i a r;unfold fL;rw[cO (by omega),if_pos (show(i:Int)<((row g v).length:Int) by omega),cO (by omega),cO (show 0<=(i:Int)∧(i:Int)<((row g v).length:Int) by omega)];have O:=((p v e).links i r).1;obtain⟨u,F⟩:∃u:Nat,(jL (row g v) i).1=u:=⟨(jL (row g v) i).1.toNat,by omega⟩
   have q:u<g.2.length:=by omega
   unfold AE;rw[show(at' (at' g.2 (v:Int)) (i:Int))=jL (row g v) i from rfl,F,Mk g u v q (by have:=(p u q).deg;omega),aZ Z];have E:=(p u q).links;rcases Cn (row g u) v with⟨j,t,m,A,z⟩|⟨J,z⟩
   ·rw[z,if_neg (by omega),cO (by omega),cO (show 0<=(j:Int)∧(j:Int)<((at' g.2 (u:Int)).length:Int)from⟨by omega,by have:j<(row g u).length:=t;exact_mod_cast this⟩)];unfold uR;constructor
    ·rintro⟨k,B,s,D⟩;have C:k=j:=by
      rcases zB1 k j with h|h|h
      ·exact absurd s (A k h)
      ·exact h
      ·exact absurd (m.trans s.symm) ((E k B).2.2.2 j h)
     subst C;rw[if_neg (by rw[zA5];simp;exact λh=>h D),wr (by omega) (by omega)]
    ·intro h;rw[if_pos];exact zA6 λN=>h ⟨j,t,m,N⟩
   ·rw[z,if_pos (by decide)];exact⟨fun⟨j,t,m,_⟩=>absurd m (J j t),λ_=>rfl⟩
  refine AZ (row g v).length _ (λi a r c=>(n i a r).1 c) (λi a r c=>(n i a r).2 c) (λa=> ?_) 1000 (by omega);unfold fL uQ;rw[cO (by omega),if_neg (show¬(((row g v).length:Nat):Int)<((row g v).length:Int) by omega),wr (by omega) (by omega)]
 have d:=AZ (step:=fZ 1000 g) (K:=some true) (bad:=false) g.2.length (λv=>∀i,i<(row g v).length->AE g v i) (λv b e c=> ?_) (λv b e c=> ?_) (λb=> ?_) 1000 (by omega)
 ·exact⟨λh=>d.1 h.sym,λh=>d.2 λL=>h ⟨y.1,y.2,G,p,L⟩⟩
 ·unfold fZ;rw[if_pos (by omega)];exact(f v b e).1 c
 ·unfold fZ;rw[if_pos (by omega)];exact(f v b e).2 c
 ·unfold fZ uP;rw[if_neg (by omega)]
theorem Hw (c:h_) (hn:c.length<=30):(NL c->iB 1000 c=some true)∧(¬NL c->iB 1000 c=some false):=by
 unfold iB;have s:∀(v:Nat) (m:List ((Int×Int)×Int)) p,v<c.length->(∀z,z∈m↔QM c v 0 z)->
   (qK (at' c (v:Int)) v c.length->∃Y,(∀z,z∈Y↔QM c (v+1) 0 z)∧bK (dR c ((v:Int),m) p) 1000 ((0:Int),m)=p ((v:Int)+1,Y))∧
   (¬qK (at' c (v:Int)) v c.length->bK (dR c ((v:Int),m) p) 1000 ((0:Int),m)=some false):=by
  intro v m p F hm;have L:=Xk hn F;have S:=Zt (step:=dR c ((v:Int),m) p) (K:=λx=>p ((v:Int)+1,x.2)) (bad:=false) (at' c (v:Int)).length (Jm (at' c (v:Int)) v c.length) (λi x=>x.1=(i:Int)∧∀z,z∈x.2↔QM c v i z) 1000 ?_ ?_ ?_ 1000 ((0:Int),m) ⟨rfl,hm⟩ (by omega) L
  ·refine⟨λh=> ?_,λh=>S.2 h⟩
   obtain⟨x,⟨ah,ae⟩,f⟩:=S.1 h;refine⟨x.2,λz=>(ae z).trans ⟨?_,?_⟩,f⟩
   ·rintro⟨a,b,y,e,l⟩;exact⟨a,b,by omega,e,l⟩
   ·rintro⟨a,b,y,e,l⟩;refine⟨a,b,?_,e,l⟩
    by_cases X:a=v
    ·subst X;exact .inr ⟨rfl,e⟩
    ·omega
  ·rintro i ⟨H,g⟩ I N ac ⟨f,d⟩ ⟨p1,p2,p3,p4⟩;dsimp only at f d;subst f;have q:nX (((v:Int),(jL (at' c (v:Int)) i).1)) g=none:=by
    apply JC;intro w hw;obtain⟨a,b,y,e,l⟩:=(d _).1 hw;simp only[Prod.mk.injEq]at l;obtain⟨⟨C,A⟩,_⟩:=l;have:a=v:=by omega
    subst this;have hb:b<i:=by omega
    exact p4 b hb A.symm
   refine⟨((i:Int)+1,ES (((v:Int),(jL (at' c (v:Int)) i).1)) (jL (at' c (v:Int)) i).2 g),⟨by simp,λz=> ?_⟩,?_⟩
   ·dsimp only;rw[Rt q,d];constructor
    ·rintro(rfl|⟨a,b,y,e,l⟩)
     ·exact⟨v,i,.inr ⟨rfl,by omega⟩,N,rfl⟩
     ·exact⟨a,b,by omega,e,l⟩
    ·rintro⟨a,b,y,e,l⟩;by_cases J:a=v∧b=i
     ·left;rw[l,J.1,J.2]
     ·right;exact⟨a,b,by omega,e,l⟩
   ·replace p1:0<=(at' (at' c (v:Int)) (i:Int)).1∧(at' (at' c (v:Int)) (i:Int)).1<=(c.length:Int) - 1:=p1;replace p3:1<=(at' (at' c (v:Int)) (i:Int)).2∧(at' (at' c (v:Int)) (i:Int)).2<=15:=p3;unfold dR iJ jV;dsimp only;rw[if_pos (by omega),cO (by omega),if_neg (by omega),if_neg (by omega),if_neg (by rw[zA5 p2];simp),if_neg (by omega),if_neg (by rw[zA5 (by omega)];simp),q,if_neg (by simp),wr (by omega) (by omega)]
  ·rintro i ⟨H,g⟩ I N ac ⟨f,d⟩ Q;dsimp only at f d;subst f;unfold dR iJ jV;dsimp only;rw[if_pos (by omega),cO (by omega)];by_cases y:(jL (at' c (v:Int)) i).1<0
   ·rw[if_pos y,if_pos Z]
   rw[if_neg y];by_cases e:(c.length:Int)<=(jL (at' c (v:Int)) i).1
   ·rw[if_pos e,if_pos Z]
   rw[if_neg e];by_cases l:(jL (at' c (v:Int)) i).1=v
   ·rw[if_pos (zA6 l)]
   rw[if_neg (by rw[zA5 l];simp)];by_cases C:(jL (at' c (v:Int)) i).2<1
   ·rw[if_pos C,if_pos Z]
   rw[if_neg C];by_cases A:15<(jL (at' c (v:Int)) i).2
   ·rw[if_pos (zA6 A)]
   rw[if_neg (by rw[zA5 A];simp)];have:∃k,k<i∧(jL (at' c (v:Int)) k).1=(jL (at' c (v:Int)) i).1:=by
    apply Classical.byContradiction;intro hc;exact Q ⟨by omega,l,by omega,λk O M=>hc ⟨k,O,M⟩⟩
   obtain⟨k,O,M⟩:=this;have n:=(d _).2 ⟨v,k,.inr ⟨rfl,O⟩,by omega,rfl⟩;rw[if_pos];rw[<-M];cases q:nX (((v:Int),(jL (at' c (v:Int)) k).1)) g with
   |some w=>rfl
   | none => exact absurd n (by
     intro n;exact xD q n)
  ·rintro⟨H,g⟩ I ⟨f,d⟩ _;dsimp only at f d;subst f;unfold dR oI;dsimp only;rw[if_neg (by omega),wr (by omega) (by omega)]
 have t:=IC (step:=eJ 1000 c) (K:=λx=>jU x.2) (bad:=false) c.length (λv=>qK (at' c (v:Int)) v c.length) (λv x=>x.1=(v:Int)∧∀z,z∈x.2↔QM c v 0 z) ?_ ?_ ?_ 1000 ((0:Int),[]) ⟨rfl,λz=>⟨λh=>(by cases h),fun⟨a,b,y,_⟩=>(by omega)⟩⟩ (by omega)
 rotate_left
 ·rintro v ⟨H,g⟩ p F ⟨f,d⟩ Q;dsimp only at f d;subst f;obtain⟨Y,y,e⟩:=(s v g p F d).1 Q;refine⟨((v:Int)+1,Y),⟨by simp,y⟩,?_⟩
  ·unfold eJ;dsimp only;rw[if_pos (by omega),cO (by omega)];exact e
 ·rintro v ⟨H,g⟩ p F ⟨f,d⟩ Q;dsimp only at f d;subst f;unfold eJ;dsimp only;rw[if_pos (by omega),cO (by omega)];exact(s v g p F d).2 Q
 ·rintro⟨H,g⟩ p ⟨f,d⟩;dsimp only at f d;subst f;unfold eJ;dsimp only;rw[if_neg (by omega)]
 by_cases D:∀v,v<c.length->qK (at' c (v:Int)) v c.length
 rotate_left
 ·exact⟨λh=>absurd h.1 D,λ_=>t.2 D⟩
 obtain⟨⟨H,g⟩,⟨f,d⟩,M⟩:=t.1 D;rw[M];dsimp only at d ⊢;have O:jU g=some (decide (∀z∈g,¬(Option.getD (nX (z.1.2,z.1.1) g) (0:Int))≠z.2)):=Md (λz:(Int×Int)×Int=>(Option.getD (nX (z.1.2,z.1.1) g) (0:Int))≠z.2) g;rw[O];have E:(∀z∈g,¬(Option.getD (nX (z.1.2,z.1.1) g) (0:Int))≠z.2)↔∀v,v<c.length->∀i,i<(at' c (v:Int)).length->AE ([],c) v i:=by
  constructor
  ·intro h v F i N;have hw:=(D v F i N).2.2.1;have n:=(d (((v:Int),(jL (at' c (v:Int)) i).1),(jL (at' c (v:Int)) i).2)).2 ⟨v,i,.inl F,N,rfl⟩;have e:=zAy.1 (h _ n);dsimp only at e;cases q:nX ((jL (at' c (v:Int)) i).1,(v:Int)) g with
   |none=>rw[q]at e;simp only[Option.getD]at e;omega
   | some w =>
    rw[q]at e;simp only[Option.getD]at e;obtain⟨a,b,l,C,A⟩:=(d _).1 (Ei q);simp only[Prod.mk.injEq]at A;obtain⟨⟨U,V⟩,h8⟩:=A;refine⟨b,?_,?_,?_⟩
    ·show b<(at' c (jL (at' c (v:Int)) i).1).length;rw[U];exact C
    ·show(jL (at' c (jL (at' c (v:Int)) i).1) b).1=v;rw[U];exact V.symm
    ·show(jL (at' c (jL (at' c (v:Int)) i).1) b).2=(jL (at' c (v:Int)) i).2;rw[U,<-h8];exact e
  ·intro h z hz ad;obtain⟨a,b,l,C,rfl⟩:=(d z).1 hz;have X:a<c.length:=by omega
   apply ad;obtain⟨j,r,o,B⟩:=h a X b C;have hu:=(D a X b C).1;obtain⟨u,R⟩:∃u:Nat,(jL (at' c (a:Int)) b).1=u:=⟨(jL (at' c (a:Int)) b).1.toNat,by omega⟩
   replace r:j<(at' c (jL (at' c (a:Int)) b).1).length:=r;replace o:(jL (at' c (jL (at' c (a:Int)) b).1) j).1=a:=o;replace B:(jL (at' c (jL (at' c (a:Int)) b).1) j).2=(jL (at' c (a:Int)) b).2:=B;rw[R]at r o B;have G:u<c.length:=by omega
   dsimp only;rw[R,<-B];have n:=(d (((u:Int),(jL (at' c (u:Int)) j).1),(jL (at' c (u:Int)) j).2)).2 ⟨u,j,.inl G,r,rfl⟩;rw[o]at n;cases q:nX ((u:Int),(a:Int)) g with
   |none=>exact absurd n (xD q)
   | some w =>
    obtain⟨a',T,af,aa,A⟩:=(d _).1 (Ei q);simp only[Prod.mk.injEq]at A;obtain⟨⟨U,V⟩,h8⟩:=A;have:a'=u:=by omega
    subst this;have ab:T=j:=by
     rcases zB1 T j with P|P|P
     ·exact absurd (V.symm.trans o.symm) ((D a' G j r).2.2.2 T P)
     ·exact P
     ·exact absurd (o.trans V) ((D a' G T aa).2.2.2 j P)
    subst ab;exact h8
 by_cases W:∀v,v<c.length->∀i,i<(at' c (v:Int)).length->AE ([],c) v i
 ·rw[zA6 (E.2 W)];exact⟨λ_=>rfl,λh=>absurd ⟨D,W⟩ h⟩
 ·rw[zA5 (λh=>W (E.1 h))];exact⟨λh=>absurd h.2 W,λ_=>rfl⟩
theorem Xs (g:GR):(VG g->jJ 1000 g=some true)∧(¬VG g->jJ 1000 g=some false):=by
 unfold jJ rB rC;by_cases e:g.1.length<1
 ·rw[if_pos (by omega)];exact⟨λh=>by have:=h.n1;have:=h.len;omega,λ_=>rfl⟩
 rw[if_neg (by omega)];by_cases f:24<g.1.length
 ·rw[if_pos (by omega)];exact⟨λh=>by have:=h.n24;have:=h.len;omega,λ_=>rfl⟩
 rw[if_neg (by omega)];by_cases d:g.1.length=g.2.length
 rotate_left
 ·rw[zA6 (by omega)];exact⟨λh=>absurd h.len d,λ_=>rfl⟩
 rw[zA5 (by omega),if_neg (by simp)];by_cases b:∀k,k<g.1.length->XG g.1 k
 rotate_left
 ·rw[(xR g.1 (by omega)).2 b,aZ Z];exact⟨λh=>absurd (λk i=>⟨(h.node k (by omega)).id,(h.node k (by omega)).ids⟩) b,λ_=>rfl⟩
 rw[(xR g.1 (by omega)).1 b,aZ Z,if_pos Z];by_cases a:NL g.2
 ·rw[(Hw g.2 (by omega)).1 a];exact⟨λ_=>rfl,λh=>absurd ⟨by omega,by omega,d,λv c=>⟨(b v (by omega)).1,TG c (a.1 v c),a.1 v c,(b v (by omega)).2⟩,a.2⟩ h⟩
 ·rw[(Hw g.2 (by omega)).2 a];exact⟨λh=>absurd ⟨λv c=>(h.node v c).links,h.sym⟩ a,λ_=>rfl⟩
abbrev Tf:=Es
theorem wB (v m:Int) (g:1<=m) (h:m<=4611686018427387904):gT 1000 v m=some (v%m):=by
 unfold gT sX;rw[if_neg (by omega),cO (by omega)];have c:=Int.tmod_eq_emod (a:=v) (b:=m);have f:=Int.emod_nonneg v (show m≠0 by omega);have i:=Int.emod_lt_of_pos v (show 0<m by omega);by_cases e:0<=v∨m∣v
 ·rw[if_pos e]at c;have d:v.tmod m=v%m:=by simpa using c
  rw[d,if_neg (by omega)]
 ·rw[if_neg e]at c;have:(m.natAbs:Int)=m:=by omega
  rw[c,if_pos (by omega),wr (by omega) (by omega)];congr 1;omega
theorem Q_ (l:aX) (i:Int) (h:0<=i):uM 1000 l i=some (at' l i):=by
 unfold uM;by_cases a:i<(l.length:Int)
 ·rw[if_pos a,cO ⟨h,a⟩]
 ·rw[if_neg a];unfold at';rw[zA7,zAt (by omega)];rfl
theorem RD {i:Type} [DecidableEq i]:∀(e c:List i),e.Nodup->(∀x∈e,x∈c)->e.length<=c.length
 | [],_,_,_=>Nat.zero_le _
 | a :: t, c, hn, hs => by
  have b:=zBb.1 hn;have f:=hs a (zAa ..);have:=RD t (c.erase a) b.2 λx h=>by
   have d:x≠a:=λj=>b.1 (j▸h);exact(List.mem_erase_of_ne d).2 (hs x (zAg _ h))
  rw[List.length_erase_of_mem f]at this;have g:0<c.length:=List.length_pos_of_mem f;simp only[zAh];omega
theorem aat (d:Int) (c:aX) (t:Nat) (k:t<=200) (h:∀s,s<t->(d+(s:Int))%256∈c):t<=c.length:=by
 have:=RD ((List.range t).map λs:Nat=>(d+(s:Int))%256) c (by
  rw[List.nodup_iff_pairwise_ne,List.pairwise_map];refine List.Pairwise.imp_of_mem ?_ List.pairwise_lt_range;intro a b e g f;rw[zAn]at e g;omega) (λx j=>by
  obtain⟨s,i,rfl⟩:=zB5.1 j;exact h s (zAn.1 i))
 simpa using this
structure Ld (ids:aX):Prop where
 rng:∀y∈ids,0<=y∧y<=255
 nd:ids.Nodup
theorem Ld.snoc {c:aX} {y:Int} (h:Ld c) (j:0<=y∧y<=255) (i:y∉c):Ld (c++[y]):=by
 refine⟨λz d=> ?_,?_⟩
 ·rcases List.mem_append.1 d with d|d
  ·exact h.rng z d
  ·rw[List.mem_singleton.1 d];exact j
 ·rw[List.nodup_append];refine⟨h.nd,by simp,?_⟩
  intro a e b f;rw[List.mem_singleton.1 f];exact λg=>i (g▸e)
theorem Eh {a:Type} [Inhabited a] {l:List a} {i:Nat} (h:i<l.length):at' l (i:Int)∈l:=by
 rw[lZ,zA7,zA0 h];exact zB7 h
theorem Jr {a:Type} [Inhabited a] {l:List a} {x:a} (h:x∈l):∃i,i<l.length∧at' l ((i:Nat):Int)=x:=by
 obtain⟨i,b,c⟩:=List.getElem_of_mem h;refine⟨i,b,?_⟩
 rw[lZ,zA7,zA0 b];exact c
theorem Zk {Q:List Int×h_->Prop} {a:aX} (H:a.length<=24) (b:Int) (r:qA->Option (List Int×h_))
  (m:∀y,0<=y->y<=255->y∉a->OK Q (r ((a.length:Int)+1,a++[y]))):OK Q (bK (mF ((a.length:Int),a) r) 1000 (b%256,0)):=by
 refine A_ (λs:eL=>∃(t u:Nat),s.1=(b+(t:Int))%256∧s.2=u∧u<=a.length∧t<=a.length∧(∀k,k<t->(b+(k:Int))%256∈a)∧∀j,j<u->at' a (j:Int)≠s.1)
  (λs=>(a.length - ((s.1 - b)%256).toNat)*30+(a.length - s.2.toNat)) ?_ 1000 _ ⟨0,0,by simp,rfl,by omega,by omega,λk p=>by omega,λj o=>by omega⟩ ?_
 ·rintro⟨i,j⟩ z ⟨t,u,g,v,F,C,w,l⟩ d;dsimp only at g v l;subst v;unfold mF uG mE;dsimp only;by_cases x:(u:Int)<(a.length:Int)
  ·rw[if_pos x,cO (by omega)];by_cases f:at' a (u:Int)=i
   ·rw[if_pos f,cO (by decide)];have n:(b+(t:Int))%256∈a:=by rw[<-g,<-f];exact Eh (by omega)
    have c:∀k,k<t+1->(b+(k:Int))%256∈a:=λk p=>by
     rcases Nat.lt_succ_iff_lt_or_eq.1 p with h|h
     ·exact w k h
     ·subst h;exact n
    have E:=aat b a (t+1) (by omega) c;have G:0<=i∧i<=255:=by omega
    rw[wr (by omega) (by omega),Int.tmod_eq_emod_of_nonneg (by omega),wr (by omega) (by omega)];refine d _ ⟨t+1,0,?_,by simp,by omega,E,c,λj o=>by omega⟩ ?_
    ·dsimp only;omega
    ·dsimp only;have A:((i+1)%256 - b)%256=(t:Int)+1:=by omega
     have B:(i - b)%256=(t:Int):=by omega
     rw[A,B];omega
   ·rw[if_neg f,wr (by omega) (by omega)];refine d _ ⟨t,u+1,g,by dsimp only;omega,by omega,C,w,λj o=> ?_⟩ ?_
    ·rcases Nat.lt_succ_iff_lt_or_eq.1 o with h|h
     ·exact l j h
     ·subst h;exact f
    ·dsimp only;omega
  ·rw[if_neg x];rw[cO (by simp;omega),wr (by omega) (by omega)];refine m i (by omega) (by omega) λD=> ?_;obtain⟨k,p,q⟩:=Jr D;exact l k (by omega) q
 ·dsimp only;have e:(b%256 - b)%256=0:=by omega
  rw[e];omega
theorem RB (x:Tf) (a:Nat) (u:1<=a) (k:a<=24):OK (λg:GR=>Ld g.1∧g.2=List.replicate g.1.length []∧1<=g.1.length∧g.1.length<=a) (nG 1000 x (a:Int)):=by
 unfold nG;rw[aZ (wB _ _ (by omega) (by omega))];generalize f:(wI .i64 (x.1 - 1))%(a:Int)=r;have m:0<=r:=by rw[<-f];exact Int.emod_nonneg _ (by omega)
 have n:r<a:=by rw[<-f];exact Int.emod_lt_of_pos _ (by omega)
 have i:wI .i64 (1+r)=1+r:=wr (by omega) (by omega);rw[i,cO (by omega)];refine A_ (λs:qA=>s.1=(s.2.length:Int)∧(s.2.length:Int)<=1+r∧Ld s.2) (λs=>(1+r - s.1).toNat) ?_ 1000 _ ⟨rfl,by simp;omega,⟨λy o=>by simp at o,List.nodup_nil⟩⟩ (by dsimp only;omega);rintro⟨v,d⟩ j ⟨e,l,c⟩ b;dsimp only at e l c;subst e;unfold jY pU;dsimp only;rw[i];by_cases h:(d.length:Int)<1+r
 ·rw[if_pos h,aZ (Q_ _ _ (by omega)),aZ (wB _ _ (by decide) (by decide))];exact Zk (by omega) _ j λy p q t=>b _ ⟨by simp,by simp;omega,c.snoc ⟨p,q⟩ t⟩ (by dsimp only;omega)
 ·rw[if_neg h];refine⟨_,rfl,c,?_,by dsimp only;omega,by dsimp only;omega⟩
  dsimp only;congr 1;omega
structure VM (ids:aX) (P:h_):Prop where
 n1:1<=P.length
 n24:P.length<=24
 len:ids.length=P.length
 ok:Ld ids
 nd:∀v:Nat,v<P.length->((at' P (v:Int)).map Prod.fst).Nodup
 lk:∀v:Nat,v<P.length->∀x∈at' P (v:Int),(0<=x.1∧x.1<=(P.length:Int) - 1)∧x.1≠(v:Int)∧(1<=x.2∧x.2<=15)∧((v:Int),x.2)∈at' P x.1
theorem ZM {d:Type} [Inhabited d] {l:List d} (h:l.Nodup) {i j:Nat} (b:i<l.length) (c:j<l.length) (a:i<j):at' l (i:Int)≠at' l (j:Int):=by
 rw[lZ,lZ,zA7,zA7,zA0 b,zA0 c];exact List.pairwise_iff_getElem.1 (List.nodup_iff_pairwise_ne.1 h) i j b c a
theorem VM.vg {ids:aX} {P:h_} (h:VM ids P):VG (ids,P):=by
 have hlen:=h.len;have links:∀v,v<P.length->qK (row (ids,P) v) v P.length:=by
  intro v hv i hi;have hm:jL (row (ids,P) v) i∈at' P (v:Int):=Eh hi;obtain⟨a1,a2,a3,_⟩:=h.lk v hv _ hm;refine⟨a1,a2,a3,λk hk=> ?_⟩
  have hk2:k<(row (ids,P) v).length:=by omega
  have:=List.pairwise_iff_getElem.1 (List.nodup_iff_pairwise_ne.1 (h.nd v hv)) k i (by simpa using hk2) (by simpa using hi) hk;rw[List.getElem_map,List.getElem_map]at this;have e:∀j (hj:j<(row (ids,P) v).length),jL (row (ids,P) v) j=(at' P (v:Int))[j]'hj:=λj hj=>by
   unfold jL;rw[lZ,zA7,zA0 hj];rfl
  rw[e k hk2,e i hi];exact this
 refine⟨h.n1,h.n24,h.len,λv hv=>⟨?_,TG hv (links v hv),links v hv,λk hk=> ?_⟩,λv hv i hi=> ?_⟩
 ·exact h.ok.rng _ (Eh (by dsimp only at hv ⊢;omega))
 ·exact ZM h.ok.nd (by dsimp only at hv ⊢;omega) (by dsimp only at hv ⊢;omega) hk
 ·have hm:jL (row (ids,P) v) i∈at' P (v:Int):=Eh hi;obtain⟨_,_,_,a4⟩:=h.lk v hv _ hm;obtain⟨j,hj,he⟩:=Jr a4;exact⟨j,hj,by unfold jL;rw[he],by unfold jL;rw[he]⟩
theorem VM.start {a:aX} (h:Ld a) (d:1<=a.length) (b:a.length<=24):VM a (List.replicate a.length []):=by
 have e:∀v:Nat,at' (List.replicate a.length ([]:eY)) (v:Int)=[]:=λv=>by
  rw[lZ,zA7,List.getElem?_replicate];split<;>rfl
 refine⟨by simpa using d,by simpa using b,by simp,h,λv _=>by rw[e];exact List.nodup_nil,λv _ x c=> ?_⟩
 rw[e]at c;cases c
def pF (P:h_) (v u:Nat):Prop:=∃x∈at' P (v:Int),x.1=(u:Int)
theorem Oh (d:aX) (P:h_) (a b:Nat) (u:a<P.length) (w:(at' P (a:Int)).length<=900):(pF P a b->oS 1000 (d,P) a b=some true)∧(¬pF P a b->oS 1000 (d,P) a b=some false):=by
 have c:∀(r:Bool),(r=true->pF P a b)->(r=false->¬pF P a b)->oS 1000 (d,P) a b=some r:=by
  intro r q p;unfold oS;refine GM (λi:Int=>∃k:Nat,i=k∧k<=(at' P (a:Int)).length∧∀j,j<k->(at' (at' P (a:Int)) ((j:Nat):Int)).1≠(b:Int)) (λi=>(at' P (a:Int)).length - i.toNat) ?_ 1000 0 ⟨0,rfl,by omega,λj m=>by omega⟩ (by omega);rintro i t ⟨k,rfl,v,f⟩ g;unfold B_ yN;dsimp only;rw[cO (by omega)];by_cases o:(k:Int)<((at' P (a:Int)).length:Int)
  ·rw[if_pos o,cO (by omega),cO (by omega)];by_cases e:(at' (at' P (a:Int)) (k:Int)).1=(b:Int)
   ·rw[if_pos e];cases r with
    |true=>rfl
    |false=>exact absurd ⟨_,Eh (by omega),e⟩ (p Z)
   ·rw[if_neg e,wr (by omega) (by omega)];refine g _ ⟨k+1,by omega,by omega,λj m=> ?_⟩ (by omega);rcases Nat.lt_succ_iff_lt_or_eq.1 m with h|h
    ·exact f j h
    ·subst h;exact e
  ·rw[if_neg o];cases r with
   |false=>rfl
   |true=>
    obtain⟨x,s,e⟩:=q Z;obtain⟨j,m,n⟩:=Jr s;exact absurd (by rw[n];exact e) (f j (by omega))
 exact⟨λh=>c true (λ_=>h) (λl=>by cases l),λh=>c false (λl=>by cases l) (λ_=>h)⟩
theorem abk (P:h_) (a b:Nat) (x y:eY) (e:a<P.length) (f:b<P.length) (v:Nat):at' ((P.set a x).set b y) (v:Int)=if v=b then y else if v=a then x else at' P (v:Int):=by
 rw[lZ,lZ,zA7,zA7,List.getElem?_set,List.getElem?_set];by_cases h:v=b
 ·subst h;rw[if_pos Z,if_pos Z,if_pos (by simpa using f)];rfl
 ·rw[if_neg (λd=>h d.symm),if_neg h];by_cases c:v=a
  ·subst c;rw[if_pos Z,if_pos Z,if_pos e];rfl
  ·rw[if_neg (λd=>c d.symm),if_neg c]
theorem VM.add {m:aX} {P:h_} (h:VM m P) {a b:Nat} {w:Int} (J:a<P.length) (A:b<P.length) (p:a≠b) (B:¬pF P a b) (D:1<=w∧w<=15)
  {x y:eY} (E:x.Perm (((b:Int),w)::at' P (a:Int))) (F:y.Perm (((a:Int),w)::at' P (b:Int))):
  VM m ((P.set a x).set b y)∧(∀v u,pF P v u->pF ((P.set a x).set b y) v u)∧pF ((P.set a x).set b y) a b:=by
 have r:¬pF P b a:=by
  rintro⟨z,g,i⟩;obtain⟨_,_,_,l⟩:=h.lk b A z g;rw[i]at l;exact B ⟨_,l,rfl⟩
 have C:=abk P a b x y J A;have k:((P.set a x).set b y).length=P.length:=by simp
 have d:∀(v:Nat) (z:eL),z∈at' ((P.set a x).set b y) (v:Int)↔z∈at' P (v:Int)∨(v=b∧z=((a:Int),w))∨(v=a∧z=((b:Int),w)):=by
  intro v z;rw[C v];by_cases f:v=b
  ·subst f;rw[if_pos Z,F.mem_iff,zAl];constructor
   ·rintro(c|c)
    ·exact .inr (.inl ⟨rfl,c⟩)
    ·exact .inl c
   ·rintro(c|⟨_,c⟩|⟨e,_⟩)
    ·exact .inr c
    ·exact .inl c
    ·exact absurd e.symm p
  ·rw[if_neg f];by_cases c:v=a
   ·subst c;rw[if_pos Z,E.mem_iff,zAl];constructor
    ·rintro(e|e)
     ·exact .inr (.inr ⟨rfl,e⟩)
     ·exact .inl e
    ·rintro(e|⟨n,_⟩|⟨_,e⟩)
     ·exact .inr e
     ·exact absurd n f
     ·exact .inl e
   ·rw[if_neg c];exact⟨.inl,λe=>e.elim id λn=>n.elim (λo=>absurd o.1 f) λo=>absurd o.1 c⟩
 refine⟨⟨by rw[k];exact h.n1,by rw[k];exact h.n24,by rw[k];exact h.len,h.ok,λv j=> ?_,λv j z g=> ?_⟩,λv u s=> ?_,?_⟩
 ·rw[k]at j;rw[C v];by_cases f:v=b
  ·subst f;rw[if_pos Z,(F.map Prod.fst).nodup_iff,zBa,zBb];exact⟨λq=>by obtain⟨z,g,i⟩:=zB5.1 q;exact r ⟨z,g,i⟩,h.nd v j⟩
  ·rw[if_neg f];by_cases c:v=a
   ·subst c;rw[if_pos Z,(E.map Prod.fst).nodup_iff,zBa,zBb];exact⟨λq=>by obtain⟨z,g,i⟩:=zB5.1 q;exact B ⟨z,g,i⟩,h.nd v j⟩
   ·rw[if_neg c];exact h.nd v j
 ·rw[k]at j ⊢;rcases(d v z).1 g with f|⟨rfl,rfl⟩|⟨rfl,rfl⟩
  ·obtain⟨G,H,I,t⟩:=h.lk v j z f;refine⟨G,H,I,?_⟩
   obtain⟨u,K⟩:∃u:Nat,z.1=u:=⟨z.1.toNat,by omega⟩
   rw[K]at t ⊢;exact(d u _).2 (.inl t)
  ·exact⟨by dsimp only;omega,by dsimp only;omega,D,(d a _).2 (.inr (.inr ⟨rfl,rfl⟩))⟩
  ·exact⟨by dsimp only;omega,by dsimp only;omega,D,(d b _).2 (.inr (.inl ⟨rfl,rfl⟩))⟩
 ·obtain⟨z,g,i⟩:=s;exact⟨z,(d v z).2 (.inl g),i⟩
 ·exact⟨_,(d a _).2 (.inr (.inr ⟨rfl,rfl⟩)),rfl⟩
theorem Vn (x:Tf) {c:aX} {P:h_} (h:VM c P) {a b:Nat} {w:Int} (g:a<P.length) (m:b<P.length) (o:1<=w∧w<=15):
  ∃f,oL 1000 x (c,P) a b w=some f∧VM c f∧f.length=P.length∧(∀v u,pF P v u->pF f v u)∧(a≠b->pF f a b):=by
 have p:=h.n24;have n:∀v:Nat,v<P.length->(at' P (v:Int)).length<24:=λv s=>by
  have:=(h.vg.node v s).deg;have e:(at' P (v:Int)).length=(row (c,P) v).length:=rfl;dsimp only at this;omega
 have t:=n a g;have z:=n b m;unfold oL;by_cases d:a=b
 ·subst d;rw[if_pos Z];exact⟨P,rfl,h,rfl,λ_ _ h=>h,λr=>absurd Z r⟩
 rw[if_neg (by omega)];by_cases i:pF P a b
 ·rw[aZ ((Oh c P a b g (by omega)).1 i)];exact⟨P,rfl,h,rfl,λ_ _ h=>h,λ_=>i⟩
 rw[aZ ((Oh c P a b g (by omega)).2 i)];unfold qN;rw[if_neg (by simp)];dsimp only;cases q:x.2.2.2.2.2 with
 | true =>
  rw[if_pos Z];have e:at' (P.set (Int.toNat (a:Int)) ([((b:Int),w)]++at' P (a:Int))) (b:Int)=at' P (b:Int):=by
   rw[lZ,zA7,List.getElem?_set,if_neg (by simpa using d),lZ,zA7]
  rw[e];rw[cO (by omega),cO (by simp;omega),cO (by omega),cO (by simp;omega),cO (by simp;omega),cO (by simp;omega)];obtain⟨j,k,l⟩:=h.add g m d i o (List.Perm.refl _) (List.Perm.refl _);exact⟨_,rfl,j,by simp,k,λ_=>l⟩
 |false=>
  rw[if_neg (by simp)];rw[cO (by omega),cO (by omega),cO (by simp;omega),cO (by simp;omega),cO (by simpa using d),cO (by simp;omega),cO (by simp;omega)];obtain⟨j,k,l⟩:=h.add g m d i o (x:=at' P (a:Int)++[((b:Int),w)]) (y:=at' P (b:Int)++[((a:Int),w)]) List.perm_append_comm List.perm_append_comm;exact⟨_,rfl,j,by simp,k,λ_=>l⟩
theorem OC (v:Int):wI .i64 (1+v%15)=1+v%15∧1<=1+v%15∧1+v%15<=15:=by
 have:=Int.emod_nonneg v (show(15:Int)≠0 by decide);have:=Int.emod_lt_of_pos v (show(0:Int)<15 by decide);exact⟨wr (by omega) (by omega),by omega,by omega⟩
theorem adn (x:Tf) (c:Nat) (F:1<=c) (m:c<=24):
  OK (λg:GR=>VM g.1 g.2∧g.2.length<=c∧∀v:Nat,1<=v->v<g.2.length->∃u:Nat,u<v∧pF g.2 u v) (oK 1000 x (c:Int)):=by
 unfold oK;obtain⟨⟨d,S⟩,D,h,z,e,q⟩:=RB x c F m;dsimp only at z h e q;rw[aZ D];dsimp only;subst z;have r:=VM.start h e (by omega);refine A_ (λs:Int×h_=>∃k:Nat,s.1=k∧1<=k∧k<=d.length∧VM d s.2∧s.2.length=d.length∧∀v:Nat,1<=v->v<k->∃u:Nat,u<v∧pF s.2 u v) (λs=>d.length - s.1.toNat) ?_ 1000 _ ⟨1,rfl,by omega,e,r,by simp,λv l f=>by omega⟩ (by dsimp only;omega);rintro⟨i,P⟩ T ⟨k,B,H,I,p,G,o⟩ j;dsimp only at B p G o;subst B;unfold wH qM;dsimp only;by_cases A:(k:Int)<(P.length:Int)
 ·rw[if_pos A,wr (by omega) (by omega),aZ (Q_ _ _ (by omega)),aZ (wB _ _ (by omega) (by omega)),aZ (Q_ _ _ (by omega)),aZ (wB _ _ (by decide) (by decide))];obtain⟨N,O,Q⟩:=OC (at' x.2.2.1 ((k:Int) - 1));rw[N];generalize C:at' x.2.1 ((k:Int) - 1)%(k:Int)=u;have U:0<=u:=by rw[<-C];exact Int.emod_nonneg _ (by omega)
  have V:u<k:=by rw[<-C];exact Int.emod_lt_of_pos _ (by omega)
  obtain⟨u,rfl⟩:∃n:Nat,u=n:=⟨u.toNat,by omega⟩
  obtain⟨R,E,K,W,L,M⟩:=Vn x p (a:=u) (b:=k) (by omega) (by omega) ⟨O,Q⟩;rw[aZ E,wr (by omega) (by omega)];refine j _ ⟨k+1,by dsimp only;omega,by omega,by omega,K,by dsimp only;omega,λv l f=> ?_⟩ (by dsimp only;omega);by_cases y:v=k
  ·subst y;exact⟨u,by omega,M (by omega)⟩
  ·obtain⟨J,t,w⟩:=o v l (by omega);exact⟨J,t,L _ _ w⟩
 ·rw[if_neg A];exact⟨_,rfl,p,by dsimp only;omega,λv l f=>o v l (by dsimp only at f;omega)⟩
theorem Vq (x:Tf) {c:aX} {P:h_} (h:VM c P):OK (λg:GR=>VM g.1 g.2∧g.1=c∧g.2.length=P.length∧∀v u,pF P v u->pF g.2 v u) (lS 1000 x (c,P)):=by
 unfold lS;have z:=h.n24;have B:=h.n1;refine A_ (λs:Int×h_=>∃k:Nat,s.1=k∧k<=100∧VM c s.2∧s.2.length=P.length∧∀v u,pF P v u->pF s.2 v u) (λs=>200 - s.1.toNat) ?_ 1000 _ ⟨P.length,rfl,by omega,h,rfl,λ_ _ h=>h⟩ (by dsimp only;omega);rintro⟨i,Q⟩ w ⟨k,p,A,f,o,e⟩ d;dsimp only at p f o e;subst p;have done:∀b:Bool,b=false->OK (λg:GR=>VM g.1 g.2∧g.1=c∧g.2.length=P.length∧∀v u,pF P v u->pF g.2 v u) (nD 1000 x (c,P) ((k:Int),Q) w b):=by
  rintro b rfl;exact⟨_,rfl,f,rfl,o,e⟩
 unfold qO;dsimp only;rw[wr (by omega) (by omega)];by_cases l:(k:Int)+1<(x.2.1.length:Int)
 rotate_left
 ·rw[if_neg l];exact done _ Z
 rw[if_pos l];by_cases m:(k:Int)<60
 rotate_left
 ·exact done _ (zA5 m)
 rw[zA6 m];unfold nD;dsimp only;rw[if_pos Z,cO (by omega),aZ (wB _ _ (by omega) (by omega)),wr (by omega) (by omega),cO (by omega),aZ (wB _ _ (by omega) (by omega)),aZ (Q_ _ _ (by omega)),aZ (wB _ _ (by decide) (by decide))];obtain⟨E,F,G⟩:=OC (at' x.2.2.1 (k:Int));rw[E];generalize r:at' x.2.1 (k:Int)%(P.length:Int)=u;have K:0<=u:=by rw[<-r];exact Int.emod_nonneg _ (by omega)
 have L:u<P.length:=by rw[<-r];exact Int.emod_lt_of_pos _ (by omega)
 obtain⟨u,rfl⟩:∃n:Nat,u=n:=⟨u.toNat,by omega⟩
 generalize q:at' x.2.1 ((k:Int)+1)%(P.length:Int)=t;have I:0<=t:=by rw[<-q];exact Int.emod_nonneg _ (by omega)
 have J:t<P.length:=by rw[<-q];exact Int.emod_lt_of_pos _ (by omega)
 obtain⟨t,rfl⟩:∃n:Nat,t=n:=⟨t.toNat,by omega⟩
 obtain⟨H,y,C,M,D,N⟩:=Vn x f (a:=u) (b:=t) (by omega) (by omega) ⟨F,G⟩;rw[aZ y,wr (by omega) (by omega)];exact d _ ⟨k+2,by dsimp only;omega,by omega,C,by dsimp only;omega,λv u j=>D _ _ (e v u j)⟩ (by dsimp only;omega)
theorem Ph (x:Tf) (a:Nat) (m:1<=a) (c:a<=24):
  OK (λg:GR=>VM g.1 g.2∧g.2.length<=a∧∀v:Nat,1<=v->v<g.2.length->∃u:Nat,u<v∧pF g.2 u v) (mW 1000 x (a:Int)):=by
 unfold mW;obtain⟨⟨s,P⟩,k,o,n,i⟩:=adn x a m c;obtain⟨⟨j,t⟩,l,b,p,d,h⟩:=Vq x o;rw[aZ k,aZ l];dsimp only at n i b p d h;refine⟨_,rfl,b,by dsimp only;omega,λv r f=> ?_⟩
 obtain⟨u,q,e⟩:=i v r (by dsimp only at f;omega);exact⟨u,q,h _ _ e⟩
theorem aef (x:Tf) (a:Nat) (k:1<=a) (b:a<=24):OK (λg:GR=>VM g.1 g.2∧g.2.length<=a) (pX 1000 x (a:Int)):=by
 unfold pX;cases m:x.2.2.2.2.1 with
 |false=>
  obtain⟨⟨j,P⟩,h,r,p,_⟩:=Ph x a k b;rw[if_pos (by rfl)];rw[<-m]at *
  rw[aZ h];exact⟨_,rfl,r,p⟩
 |true=>
  obtain⟨⟨j,P⟩,h,e,l,f,i⟩:=RB x a k b;dsimp only at l e f i;subst l;obtain⟨⟨n,t⟩,o,d,s,c,q⟩:=Vq x (VM.start e f (by omega));dsimp only at d s c q;rw[if_neg (by simp)];rw[<-m]at *
  rw[aZ h,aZ o];exact⟨_,rfl,d,by simp at c ⊢;omega⟩
end Go.Proofs.YtahgemjmgopleaaGreatDoor
namespace Go.Proofs.YtahgemjmgopleaaGreatDoor
open Go Go.Sx
abbrev val (c:bO) (v x:Nat):Int:=at' (at' c (v:Int)) (x:Int)
def adw (g:GR) (b:Int) (v:Nat) (a:Int):Prop:=if b = -1 then -1<=a∧a<=((row g v).length:Int) - 1 else 0<=a∧a<=b
instance (g:GR) (top:Int) (v:Nat) (a:Int):Decidable (adw g top v a):=by unfold adw;infer_instance
def kW (g:GR):Nat->Int
 |0=>0
 |k+1=>max (kW g k) (at' g.1 (k:Int))
theorem IF {g:GR} (a:VG g):∀k,k<=g.2.length->0<=kW g k∧kW g k<=255
 |0,_=>by simp[kW]
 |k+1,h=>by
  have b:=IF a k (by omega);have c:0<=at' g.1 (k:Int)∧at' g.1 (k:Int)<=255:=(a.node k (by omega)).id;simp only[kW];omega
abbrev Jh:=Gn
def Cu (x:Jh):Prop:=(-100000<=x.2.2.2.1∧x.2.2.2.1<=100000)∧(0<=x.2.2.2.2.1∧x.2.2.2.2.1<=100000)∧(0<=x.2.2.2.2.2∧x.2.2.2.2.2<=100000)
def lo (g:GR) (x:Jh) (v:Nat):Int:=if x.2.1=2 then 0 else if x.2.1=3 then -1 else x.2.2.1
def hi (g:GR) (x:Jh) (v:Nat):Int:=if x.2.1=2 then 1 else if x.2.1=3 then((row g v).length:Int) - 1 else x.2.2.2.1+x.2.2.2.2.1*(g.2.length:Int)+x.2.2.2.2.2*kW g g.1.length
structure Jo (g:GR) (c:bO) (vars:List Jh):Prop where
 len:c.length=g.2.length
 row:∀v,v<g.2.length->(at' c (v:Int)).length=vars.length
 ok:∀v,v<g.2.length->∀x,x<vars.length->lo g (at' vars (x:Int)) v<=val c v x∧val c v x<=hi g (at' vars (x:Int)) v
def rV (a b:Nat):Nat:=(BitVec.ofInt 32 (a:Int) &&& ~~~ BitVec.ofInt 32 (b:Int)).toNat
theorem Iw (a b:Nat):rV a b<4294967296:=(BitVec.ofInt 32 (a:Int) &&& ~~~ BitVec.ofInt 32 (b:Int)).isLt
theorem Dv {a i:Nat} (b:a<4294967296) (h:a.testBit i=true):i<32:=by
 apply Classical.byContradiction;intro c;rw[Nat.testBit_lt_two_pow (zAj b (Nat.pow_le_pow_right (n:=2) (by omega) (show 32<=i by omega)))]at h;cases h
theorem AO {a b:Nat} (d:a<4294967296) (e:b<4294967296) (i:Nat):(rV a b).testBit i=(a.testBit i && !b.testBit i):=by
 have:=BitVec.getLsbD_and (x:=BitVec.ofInt 32 (a:Int)) (y:= ~~~ BitVec.ofInt 32 (b:Int)) (i:=i);rw[BitVec.getLsbD_not]at this;have h:(rV a b).testBit i=((Qr (a:Int)).testBit i&&(decide (i<32) && !(Qr (b:Int)).testBit i)):=this;rw[tG d,tG e]at h;rw[h];cases c:a.testBit i with
 |false=>simp
 |true=>simp[Dv d c]
theorem uH (a b:Nat):kE .u32 (a:Int) (b:Int)=(rV a b:Int):=OG _ (Iw a b)
theorem AF {a b:Nat} (c:a<4294967296) (d:b<4294967296):eG .u32 (a:Int) (b:Int)=((a &&& b:Nat):Int):=by rw[KI,tG c,tG d]
theorem abl {a b:Nat} (c:a<4294967296) (d:b<4294967296):Fx .u32 (a:Int) (b:Int)=((a ||| b:Nat):Int):=by rw[Yk,tG c,tG d]
theorem RH {a b:Nat} (c:a<4294967296) (d:b<4294967296):a ||| b<4294967296:=Nat.or_lt_two_pow (n:=32) c d
theorem Lo {a b:Nat} (c:a<4294967296):a &&& b<4294967296:=Nat.lt_of_le_of_lt Nat.and_le_left c
theorem EF {a k:Nat} (c:a<4294967296) (b:k<32):Fx .u32 (a:Int) (zE .u32 1 (k:Int))=((a ||| 2^k:Nat):Int):=by rw[UF b,abl c (Fh b)]
theorem ZL {a k:Nat} (d:k<32) (c:a<4294967296):eG .u32 (mZ .u32 (a:Int) (k:Int)) 1=0↔a.testBit k=false:=by
 have b:Qr 1=1:=tG (a:=1) (by omega);rw[Ir d,KI,tG (Nat.lt_of_le_of_lt (Nat.div_le_self _ _) c),b,Nat.and_one_is_mod,Nat.testBit_eq_decide_div_mod_eq,decide_eq_false_iff_not];omega
theorem Dk (p:Nat->Bool) {k:Nat} (a:k<=32):mM p k<4294967296:=zAj (Rs p k) (Nat.pow_le_pow_right (n:=2) (by omega) a)
theorem EU {a b:Nat} (h:∀i,a.testBit i=b.testBit i):a=b:=Nat.eq_of_testBit_eq h
def Ts (q:Bool) (m v:Nat):Nat:=if q then m ||| 2^v else m
theorem abg {q:Bool} {m v:Nat} (a:m<4294967296) (b:v<32):Ts q m v<4294967296:=by
 unfold Ts;split
 ·exact RH a (Fh b)
 ·exact a
theorem ac_ (m v:Nat):(m ||| 2^v) ||| 2^v=m ||| 2^v:=by rw[Nat.or_assoc,Nat.or_self]
theorem NC {i:Nat} (h:i<1000000):wI .i64 ((i:Int)+1)=(i:Int)+1:=wr (by omega) (by omega)
theorem VG.to {g:GR} (c:VG g) {v i:Nat} (e:v<g.2.length) (d:i<(row g v).length):∃u:Nat,u<g.2.length∧(jL (row g v) i).1=(u:Int):=by
 obtain⟨u,a,b,_⟩:=c.port e d;exact⟨u,a,b⟩
def Gr:List Jh:=[(ByteArray.mk #[99],1,0,0,1,0)]
theorem afY:EQ 1000=some Gr:=rfl
theorem VJ:∀x,x<Gr.length->Cu (at' Gr (x:Int)):=by
 intro x a;obtain rfl:x=0:=by simp[Gr]at a;exact a
 exact⟨by decide,by decide,by decide⟩
def JE (g:GR) (s:Nat) (v i:Nat):Bool:=s.testBit (jL (row g v) i).1.toNat
theorem Hs {g:GR} (d:VG g) {s:Nat} (x:s<4294967296):jW 1000 g (s:Int)=some ((mM (λv=>AM (JE g s v) (row g v).length) g.2.length:Nat):Int):=by
 have p:=d.n24;unfold jW;rw[(Cp g).1 d,aZ Z,if_neg (by simp)];refine cR (F:=λv:Nat=>(((mM (λv=>AM (JE g s v) (row g v).length) v:Nat):Int),(v:Int))) g.2.length (λv h o=> ?_) (λh=> ?_) 1000 (by omega)
 ·unfold i_;simp only;rw[if_pos (by omega)];have m:(at' g.2 (v:Int)).length<g.2.length:=(d.node v o).deg;have w:=Dk (λv=>AM (JE g s v) (row g v).length) (k:=v) (by omega);have l:=cR (step:=kQ 1000 g (s:Int) (((mM (λv=>AM (JE g s v) (row g v).length) v:Nat):Int),(v:Int)) h) (K:=h (((Ts (AM (JE g s v) (row g v).length) (mM (λv=>AM (JE g s v) (row g v).length) v) v:Nat):Int),(v:Int)+1)) (F:=λi:Nat=>(((Ts (AM (JE g s v) i) (mM (λv=>AM (JE g s v) (row g v).length) v) v:Nat):Int),(i:Int))) (row g v).length (λi j n=> ?_) (λj=> ?_) 1000 (by show(at' g.2 (v:Int)).length<1000;omega)
  ·exact l
  ·obtain⟨u,y,b⟩:=d.to o n;have c:(at' (at' g.2 (v:Int)) (i:Int)).1=(u:Int):=b;have t:i<(at' g.2 (v:Int)).length:=n;unfold kQ nH;simp only;rw[cO (by omega),if_pos (by omega),cO (by omega),cO (by omega),c,EN x (by omega),aZ Z,SH (by omega),NC (by omega)];have a:JE g s v i=s.testBit u:=by unfold JE;rw[b];rfl
   have r:=abg (q:=AM (JE g s v) i) w (show v<32 by omega);by_cases f:s.testBit u=true
   ·rw[if_pos f,cO (by omega),EF r (by omega)];have:AM (JE g s v) (i+1)=true:=by simp[AM,a,f]
    have e:Ts (AM (JE g s v) i) (mM (λv=>AM (JE g s v) (row g v).length) v) v ||| 2^v=Ts true (mM (λv=>AM (JE g s v) (row g v).length) v) v:=by
     unfold Ts;split
     ·exact ac_ _ _
     ·rfl
    rw[this,e];rfl
   ·rw[if_neg f];have:AM (JE g s v) (i+1)=AM (JE g s v) i:=by simp[AM,a,f]
    simp only[this];rfl
  ·unfold kQ qR;simp only;rw[cO (by omega),if_neg (by show¬(((row g v).length:Nat):Int)<((row g v).length:Int);omega),NC (by omega)]
 ·unfold i_ qQ;simp only;rw[if_neg (by omega)]
def Gs:List Jh:=[(ByteArray.mk #[109],2,0,0,0,0)]
theorem afX:EP 1000=some Gs:=rfl
theorem VI:∀x,x<Gs.length->Cu (at' Gs (x:Int)):=by
 intro x a;obtain rfl:x=0:=by simp[Gs]at a;exact a
 exact⟨by decide,by decide,by decide⟩
def d0 (g:GR) (c:bO) (d v:Nat):Int:=if d.testBit v=true then at' (at' c (v:Int)) 0 else if v=0 then 0 else(g.2.length:Int)
theorem PW {a:Type} [Inhabited a] (l:List a) (x:a) {i:Nat} (b:i<l.length+1):at' (l++[x]) (i:Int)=if i<l.length then at' l (i:Int)else x:=by
 rw[lZ,lZ];by_cases h:i<l.length
 ·rw[if_pos h,zA7,zA7,zAc h]
 ·have:i=l.length:=by omega
  subst this;rw[if_neg h];simp
def Ya (g:GR) (a:List Jh) (v:Nat) (l:aX):Prop:=∀x,x<l.length->lo g (at' a (x:Int)) v<=at' l (x:Int)∧at' l (x:Int)<=hi g (at' a (x:Int)) v
theorem NT {g:GR} (G:VG g) (d:List Jh) (f:aX) (ht:d.length<=900) (U:∀x,x<d.length->Cu (at' d (x:Int)) ∧ -100000<=(at' d (x:Int)).2.2.1∧(at' d (x:Int)).2.2.1<=(at' d (x:Int)).2.2.2.1):
  OK (λc=>Jo g c d) (mL 1000 g d f):=by
 have Q:=G.n24;have C:=G.len;have P:mL 1000 g d f=sV 1000 g d f (kW g g.2.length):=by
  unfold mL;refine cR (F:=λk:Nat=>((kW g k,(k:Int)):eL)) g.2.length (λk B hk=> ?_) (λB=> ?_) 1000 (by omega)
  ·unfold yL;simp only;rw[if_pos (by omega),cO (by omega),wr (by omega) (by omega)];rfl
  ·unfold yL;simp only;rw[if_neg (by omega)]
 rw[P];obtain⟨M,X⟩:=IF G g.2.length (by omega);unfold sV;have J:=zN (step:=kZ 1000 g d f (kW g g.2.length)) (K:=λx=>some x.1) g.2.length (λv x=>x.2=(v:Int)∧x.1.length=v∧∀w,w<v->(at' x.1 (w:Int)).length=d.length∧Ya g d w (at' x.1 (w:Int))) (λv x B t q=> ?_) (λx B q=> ?_) 1000 (([]:bO),(0:Int)) ⟨rfl,rfl,λw V=>by omega⟩ (by omega)
 ·obtain⟨⟨c,i⟩,⟨_,s,p⟩,I⟩:=J;exact⟨c,I,s,λv t=>(p v t).1,λv t x D=>(p v t).2 x (by rw[(p v t).1];exact D)⟩
 ·obtain⟨c,i⟩:=x;obtain⟨rfl,s,p⟩:=q;simp only at s p;have L:(at' g.2 (v:Int)).length<g.2.length:=(G.node v t).deg;unfold kZ;simp only;rw[if_pos (by omega)];have E:=zN (step:=pS 1000 g d f (kW g g.2.length) (c,(v:Int)) B) (K:=λy=>B (c++[y.1],(v:Int)+1)) d.length (λx y=>y.2=(x:Int)∧y.1.length=x∧Ya g d v y.1) (λx y n D q=> ?_) (λy n q=> ?_) 1000 (([]:aX),(0:Int)) ⟨rfl,rfl,λx D=>by simp at D⟩ (by omega)
  ·obtain⟨⟨l,j⟩,⟨_,h,u⟩,I⟩:=E;refine⟨(c++[l],(v:Int)+1),⟨by simp,by simp[s],λw V=> ?_⟩,I⟩
   simp only;rw[PW c l (by omega),s];by_cases e:w<v
   ·rw[if_pos e];exact p w e
   ·rw[if_neg e];have:w=v:=by omega
    subst this;exact⟨h,u⟩
  ·obtain⟨l,j⟩:=y;obtain⟨rfl,h,u⟩:=q;simp only at h u;obtain⟨⟨s1,N,O⟩,s4,s5⟩:=U x D;have o:∀a b:Int,a=lo g (at' d (x:Int)) v->b=hi g (at' d (x:Int)) v -> -100000<=a->a<=b+1->b<=100000000->(a<=b∨(a = -1∧b = -1))->∃H,(H.2=((x+1:Nat):Int)∧H.1.length=x+1∧Ya g d v H.1)∧pR 1000 d f (c,(v:Int)) (l,(x:Int)) n (a,b)=n H:=by
    intro a b R T q1 q2 q3 q4;have S:a<=b:=by omega
    unfold pR;simp only;have w1:wI .i64 ((v:Int)*(d.length:Int))=(v:Int)*(d.length:Int):=by
     have Y:0<=(v:Int)*(d.length:Int):=Int.mul_nonneg (by omega) (by omega);have p2:(v:Int)*(d.length:Int)<=24*900:=Int.mul_le_mul (by omega) (by omega) (by omega) (by omega);exact wr (by omega) (by omega)
    have Y:0<=(v:Int)*(d.length:Int):=Int.mul_nonneg (by omega) (by omega);have p2:(v:Int)*(d.length:Int)<=24*900:=Int.mul_le_mul (by omega) (by omega) (by omega) (by omega);rw[w1,wr (x:=(v:Int)*(d.length:Int)+(x:Int)) (by omega) (by omega),Q_ _ _ (by omega),aZ Z,wr (x:=b - a) (by omega) (by omega),wr (x:=b - a+1) (by omega) (by omega),wB _ _ (by omega) (by omega),aZ Z];have r1:=Int.emod_nonneg (at' f ((v:Int)*(d.length:Int)+(x:Int))) (b:=b - a+1) (by omega);have r2:=Int.emod_lt_of_pos (at' f ((v:Int)*(d.length:Int)+(x:Int))) (b:=b - a+1) (by omega);generalize at' f ((v:Int)*(d.length:Int)+(x:Int))%(b - a+1)=r at r1 r2;rw[wr (x:=a+r) (by omega) (by omega),cO (by simp;omega),wr (by omega) (by omega)];refine⟨_,⟨by simp,by simp[h],λz W=> ?_⟩,rfl⟩
    simp only[zAi,zAh,List.length_nil,h]at W;simp only;rw[PW l _ (by omega),h];by_cases e:z<x
    ·rw[if_pos e];exact u z (by omega)
    ·rw[if_neg e];have:z=x:=by omega
     subst this;rw[<-R,<-T];omega
   unfold pS;simp only;rw[if_pos (by omega),cO (by omega),cO (by omega),cO (by omega),cO (by omega),cO (by omega)];by_cases m:(at' d (x:Int)).2.1=2
   ·rw[if_pos m];exact o 0 1 (by unfold lo;rw[if_pos m]) (by unfold hi;rw[if_pos m]) (by omega) (by omega) (by omega) (by omega)
   ·rw[if_neg m];by_cases A:(at' d (x:Int)).2.1=3
    ·rw[if_pos A,cO (by omega),wr (by omega) (by omega)];exact o (-1) _ (by unfold lo;rw[if_neg m,if_pos A]) (by unfold hi;rw[if_neg m,if_pos A]) (by omega) (by omega) (by omega) (by omega)
    ·rw[if_neg A];have q1:0<=(at' d (x:Int)).2.2.2.2.1*(g.2.length:Int):=Int.mul_nonneg N.1 (by omega);have q2:(at' d (x:Int)).2.2.2.2.1*(g.2.length:Int)<=100000*24:=Int.mul_le_mul N.2 (by omega) (by omega) (by omega);have q3:0<=(at' d (x:Int)).2.2.2.2.2*kW g g.2.length:=Int.mul_nonneg O.1 M;have q4:(at' d (x:Int)).2.2.2.2.2*kW g g.2.length<=100000*255:=Int.mul_le_mul O.2 X M (by omega);rw[wr (x:=(at' d (x:Int)).2.2.2.2.1*(g.2.length:Int)) (by omega) (by omega),wr (x:=(at' d (x:Int)).2.2.2.2.2*kW g g.2.length) (by omega) (by omega),wr (x:=(at' d (x:Int)).2.2.2.1+(at' d (x:Int)).2.2.2.2.1*(g.2.length:Int)) (by omega) (by omega),wr (by omega) (by omega)];exact o _ _ (by unfold lo;rw[if_neg m,if_neg A]) (by unfold hi;rw[if_neg m,if_neg A,C]) (by omega) (by omega) (by omega) (by omega)
  ·obtain⟨l,j⟩:=y;obtain⟨rfl,h,u⟩:=q;simp only at h u;unfold pS BZ;simp only;rw[if_neg (by omega),cO (by simp;omega),wr (by omega) (by omega)]
 ·obtain⟨c,i⟩:=x;obtain⟨rfl,s,p⟩:=q;unfold kZ yK;simp only;rw[if_neg (by omega)]
def Lc (g:GR) (s r v:Nat):Prop:=∃f,s.testBit f=true∧∃m,m<=r∧EC g f m v
theorem EC.from {g:GR} {s:Nat}:∀{k v:Nat},EC g s k v->s<g.2.length
 |0,_,h=>h.2
 |_+1,_,h=>by obtain⟨u,a,_⟩:=h;exact EC.from a
theorem Wu {g:GR} {s v:Nat}:Lc g s 0 v↔s.testBit v=true∧v<g.2.length:=by
 constructor
 ·rintro⟨f,c,m,e,d⟩;obtain rfl:m=0:=by omega
  obtain⟨rfl,h⟩:=d;exact⟨c,h⟩
 ·rintro⟨a,b⟩;exact⟨v,a,0,by omega,rfl,b⟩
theorem Wt {g:GR} (c:VG g) {s r v:Nat}:Lc g s (r+1) v↔Lc g s r v∨(v<g.2.length∧∃u,JZ g v u∧Lc g s r u):=by
 constructor
 ·rintro⟨f,a,m,i,b⟩;by_cases h:m<=r
  ·exact .inl ⟨f,a,m,h,b⟩
  ·obtain⟨k,rfl⟩:∃k,m=k+1:=⟨m - 1,by omega⟩
   obtain⟨u,d,e⟩:=b;have j:=EC.lt c d;exact .inr ⟨c.adj_lt j e,u,c.back j e,f,a,k,by omega,d⟩
 ·rintro(⟨f,a,m,i,b⟩|⟨n,u,l,f,a,m,i,b⟩)
  ·exact⟨f,a,m,by omega,b⟩
  ·exact⟨f,a,m+1,by omega,u,b,c.back n l⟩
theorem Ws {g:GR} {s r q v:Nat} (h:Lc g s r v) (d:r<=q):Lc g s q v:=by
 obtain⟨f,a,m,c,b⟩:=h;exact⟨f,a,m,by omega,b⟩
theorem Yl {g:GR} (a:VG g) {s r v:Nat} (h:Lc g s r v):Lc g s g.2.length v:=by
 obtain⟨f,j,m,n,c⟩:=h;have k:=EC.from c;have e:=EC.lt a c;obtain⟨d,_,b⟩:=JL a k;have i:=Ct.le a b c;have l:=b.hi v e;exact⟨f,j,(D d v).toNat,by omega,Ct.pos a b e i.1⟩
structure Nr (g:GR) (s k:Nat) (l:aX):Prop where
 len:l.length=g.2.length
 lo:∀v,v<g.2.length -> -1<=D l v
 hi:∀v,v<g.2.length->D l v<=(g.2.length:Int)
 near:∀v,v<g.2.length->0<=D l v->∃f,f<k∧s.testBit f=true∧EC g f (D l v).toNat v
 le:∀v f m,f<k->s.testBit f=true->EC g f m v->0<=D l v∧D l v<=m
theorem Nr.ball {g:GR} (i:VG g) {s:Nat} {l:aX} (h:Nr g s g.2.length l) {v r:Nat} (d:v<g.2.length):(0<=D l v∧D l v<=(r:Int))↔Lc g s r v:=by
 constructor
 ·rintro⟨c,e⟩;obtain⟨f,j,b,a⟩:=h.near v d c;exact⟨f,b,_,by omega,a⟩
 ·rintro⟨f,b,m,k,a⟩;have:=h.le v f m (EC.from a) b a;omega
def low (a b:Int):Int:=if 0<=b∧(a<0∨b<a)then b else a
theorem Nr.skip {g:GR} {s k:Nat} {l:aX} (h:Nr g s k l) (a:s.testBit k=false):Nr g s (k+1) l where
 len:=h.len
 lo:=h.lo
 hi:=h.hi
 near v hv h0:=by
  obtain⟨f,b,r⟩:=h.near v hv h0;exact⟨f,by omega,r⟩
 le v f m b hbf hw:=by
  by_cases e:f=k
  ·subst e;rw[a]at hbf;cases hbf
  ·exact h.le v f m (by omega) hbf hw
theorem Nr.step {g:GR} (c:VG g) {s k:Nat} {l n d:aX} (h:Nr g s k l) (o:s.testBit k=true) (j:Ct g k d) (q:n.length=g.2.length) (b:∀v,v<g.2.length->D n v=low (D l v) (D d v)):Nr g s (k+1) n where
 len:=q
 lo v a:=by
  have:=h.lo v a;rw[b v a];unfold low;split<;>omega
 hi v a:=by
  have:=h.hi v a;have:=j.hi v a;rw[b v a];unfold low;split<;>omega
 near v a h0:=by
  rw[b v a]at h0 ⊢;unfold low at h0 ⊢;by_cases i:0<=D d v∧(D l v<0∨D d v<D l v)
  ·rw[if_pos i]at h0 ⊢;exact⟨k,by omega,o,Ct.pos c j a i.1⟩
  ·rw[if_neg i]at h0 ⊢;obtain⟨f,p,r⟩:=h.near v a h0;exact⟨f,by omega,r⟩
 le v f m p hbf hw:=by
  have a:=EC.lt c hw;rw[b v a];unfold low;by_cases e:f=k
  ·subst e;have:=Ct.le c j hw;split<;>omega
  ·have:=h.le v f m (by omega) hbf hw;split<;>omega
theorem Nr.start {g:GR} {s:Nat} {l:aX} (a:l.length=g.2.length) (h:∀v,v<g.2.length->D l v = -1):Nr g s 0 l where
 len:=a
 lo v hv:=by rw[h v hv];omega
 hi v hv:=by rw[h v hv];omega
 near v hv h0:=by rw[h v hv]at h0;omega
 le v f m hf:=by omega
theorem Nh {g:GR} (I:VG g) {k:Nat} {l d:aX} (Q:k<g.2.length) (N:l.length=g.2.length) (J:Ct g k d) (u:qA->Option aX):
  ∃F,F.length=g.2.length∧(∀v,v<g.2.length->D F v=low (D l v) (D d v))∧bK (fF ((k:Int),l) u d) 1000 ((0:Int),l)=u ((k:Int)+1,F):=by
 have H:=I.n24;have L:=J.len;have E:=zN (step:=fF ((k:Int),l) u d) (K:=λx=>u ((k:Int)+1,x.2)) g.2.length
  (λi x=>x.1=(i:Int)∧x.2.length=g.2.length∧∀v,v<g.2.length->D x.2 v=if v<i then low (D l v) (D d v)else D l v)
  (λi x y M A=> ?_) (λx y A=> ?_) 1000 ((0:Int),l) ⟨rfl,N,λv o=>by rw[if_neg (by omega)]⟩ (by omega)
 ·obtain⟨P,⟨O,B,C⟩,e⟩:=E;exact⟨P.2,B,λv o=>by rw[C v o,if_pos o],e⟩
 ·obtain⟨a,b⟩:=x;obtain⟨r,w,s⟩:=A;dsimp only at r w s;subst r;have m:D b i=D l i:=by rw[s i M,if_neg (by omega)]
  have f:at' b (i:Int)=at' l (i:Int):=m;by_cases t:0<=D d i∧(D l i<0∨D d i<D l i)
  ·refine⟨((i:Int)+1,b.set i (D d i)),⟨by push_cast;rfl,by simp[w],λv o=> ?_⟩,?_⟩
   ·show at' (b.set i (D d i)) (v:Int)=_;rw[AN _ _ _ _ (by omega)];by_cases e:v=i
    ·subst e;rw[if_pos Z,if_pos (by omega)];unfold low;rw[if_pos t]
    ·rw[if_neg e];have:=s v o;by_cases q:v<i
     ·rw[if_pos (by omega)];rw[if_pos q]at this;exact this
     ·rw[if_neg (by omega)];rw[if_neg q]at this;exact this
   ·unfold fF iS iR;obtain⟨p,G⟩:=t;have h:0<=at' d (i:Int):=p;dsimp only;rw[if_pos (by omega),cO (by omega),if_pos h,cO (by omega)];by_cases z:D l i<0
    ·have j:at' l (i:Int)<0:=z;rw[f,if_pos j,if_pos Z,cO (by omega),NC (by omega)];rfl
    ·have j:¬at' l (i:Int)<0:=z;have n:at' d (i:Int)<at' l (i:Int):=by rcases G with c|c;exact absurd c z;exact c
     rw[f,if_neg j,cO (by omega),zA6 n,if_pos Z,cO (by omega),NC (by omega)];rfl
  ·refine⟨((i:Int)+1,b),⟨by push_cast;rfl,w,λv o=> ?_⟩,?_⟩
   ·have:=s v o;by_cases e:v=i
    ·subst e;rw[if_pos (by omega)];unfold low;rw[if_neg t];exact m
    ·by_cases q:v<i
     ·rw[if_pos (by omega)];rw[if_pos q]at this;exact this
     ·rw[if_neg (by omega)];rw[if_neg q]at this;exact this
   ·unfold fF iS iR;dsimp only;rw[if_pos (by omega),cO (by omega)];by_cases p:0<=D d i
    ·have h:0<=at' d (i:Int):=p;have j:¬at' l (i:Int)<0:=λc=>t ⟨p,.inl c⟩;have n:¬at' d (i:Int)<at' l (i:Int):=λc=>t ⟨p,.inr c⟩;rw[if_pos h,cO (by omega),f,if_neg j,cO (by omega),zA5 n,if_neg (by simp),NC (by omega)]
    ·have h:¬0<=at' d (i:Int):=p;rw[if_neg h,if_neg (by simp),NC (by omega)]
 ·obtain⟨a,b⟩:=x;obtain⟨r,w,s⟩:=A;dsimp only at r;subst r;unfold fF iQ;dsimp only;rw[if_neg (by omega),NC (by omega)]
theorem TZ {g:GR} (o:VG g) {s:Nat} (E:s<4294967296):∃l,lK 1000 g (s:Int)=some l∧Nr g s g.2.length l:=by
 have H:=o.n24;have q:g.1.length=g.2.length:=o.len;have L:(List.replicate (Int.toNat (g.1.length:Int)) (0:Int)).length=g.2.length:=by simp[q]
 have r:∀w,Nr g s 0 w->∃l,Nr g s g.2.length l∧bK (eI 1000 g (s:Int)) 1000 ((0:Int),w)=some l:=by
  intro w G;have m:=zN (step:=eI 1000 g (s:Int)) (K:=λx=>some x.2) g.2.length (λk x=>x.1=(k:Int)∧Nr g s k x.2) (λk x t z j=> ?_) (λx t j=> ?_) 1000 ((0:Int),w) ⟨rfl,G⟩ (by omega)
  ·obtain⟨B,⟨_,h⟩,e⟩:=m;exact⟨B.2,h,e⟩
  ·obtain⟨a,b⟩:=x;obtain⟨f,i⟩:=j;dsimp only at f i;subst f;by_cases u:s.testBit k=true
   ·obtain⟨d,I,C⟩:=Pj o z;obtain⟨N,A,y,e⟩:=Nh o z i.len C t;refine⟨((k:Int)+1,N),⟨by push_cast;rfl,Nr.step o i u C A y⟩,?_⟩
    unfold eI;dsimp only;rw[if_pos (by omega),cO (by omega),if_neg (λc=>by rw[(ZL (by omega) E).1 c]at u;cases u)];show Option.bind (p_ 1000 g (k:Int)) _=_;rw[I,aZ Z];exact e
   ·have p:s.testBit k=false:=by simpa using u
    refine⟨((k:Int)+1,b),⟨by push_cast;rfl,Nr.skip i p⟩,?_⟩
    unfold eI iQ;dsimp only;rw[if_pos (by omega),cO (by omega),if_pos ((ZL (by omega) E).2 p),NC (by omega)]
  ·obtain⟨a,b⟩:=x;obtain⟨f,i⟩:=j;dsimp only at f;subst f;unfold eI nL;dsimp only;rw[if_neg (by omega)]
 unfold lK;rw[cO (by omega)];have m:=zN (step:=kL 1000 g (s:Int)) (K:=λx=>nK 1000 g (s:Int) x.2) g.2.length
  (λk x=>x.1=(k:Int)∧x.2.length=g.2.length∧∀v,v<k->D x.2 v = -1) (λk x t z j=> ?_) (λx t j=> ?_) 1000 ((0:Int),List.replicate (Int.toNat (g.1.length:Int)) (0:Int)) ⟨rfl,L,λv M=>by omega⟩ (by omega)
 ·obtain⟨B,⟨_,i,n⟩,e⟩:=m;obtain⟨l,J,F⟩:=r B.2 (Nr.start i n);exact⟨l,by rw[e];exact F,J⟩
 ·obtain⟨a,b⟩:=x;obtain⟨f,i,n⟩:=j;dsimp only at f i n;subst f;refine⟨((k:Int)+1,b.set k (-1)),⟨by push_cast;rfl,by simp[i],λv M=> ?_⟩,?_⟩
  ·show at' (b.set k (-1)) (v:Int) = -1;rw[AN _ _ _ _ (by omega)];by_cases e:v=k
   ·rw[if_pos e]
   ·rw[if_neg e];exact n v (by omega)
  ·unfold kL;dsimp only;rw[if_pos (by omega),cO (by omega),NC (by omega)];rfl
 ·obtain⟨a,b⟩:=x;obtain⟨f,i,n⟩:=j;dsimp only at f;subst f;unfold kL;dsimp only;rw[if_neg (by omega)]
theorem afz {g:GR} (d:VG g) {m v:Nat}:(mM (λv=>AM (JE g m v) (row g v).length) g.2.length).testBit v=true↔v<g.2.length∧∃u,JZ g v u∧m.testBit u=true:=by
 rw[Cs,zA1,zA8,Lq];constructor
 ·rintro⟨c,i,b,h⟩;obtain⟨u,e,a⟩:=d.to c b;refine⟨c,u,⟨i,b,a⟩,?_⟩
  unfold JE at h;rw[a]at h;exact h
 ·rintro⟨c,u,⟨i,b,a⟩,h⟩;refine⟨c,i,b,?_⟩
  unfold JE;rw[a];exact h
theorem PL {g:GR} (i:VG g) {s r:Nat} (z:s<4294967296):∃m:Nat,m<4294967296∧mK 1000 g (s:Int) (r:Int)=some (m:Int)∧∀v,m.testBit v=true↔Lc g s r v:=by
 have p:=i.n24;obtain⟨_,C,a,rfl,o,q⟩:=Xj (n:=g.2.length) p;have w:=zN (step:=pQ 1000 g (r:Int)) (K:=λx=>some x.1) (min r g.2.length)
  (λk x=>x.2=(k:Int)∧∃m:Nat,x.1=(m:Int)∧m<4294967296∧∀v,m.testBit v=true↔Lc g s k v) (λk x B E t=> ?_) (λx B t=> ?_) 1000 (eG .u32 (s:Int) (a:Int),(0:Int)) ⟨rfl,s &&& a,AF z o,Lo z,λv=> ?_⟩ (by omega)
 ·obtain⟨F,⟨_,m,D,d,f⟩,e⟩:=w;refine⟨m,d,?_,λv=>(f v).trans ⟨λh=>Ws h (by omega),λh=> ?_⟩⟩
  ·unfold mK yG;rw[(Cp g).1 i,aZ Z,if_neg (by simp),zA5 (by omega),if_neg (by simp),C,aZ Z];exact e.trans (by rw[D])
  ·rcases Nat.le_total r g.2.length with c|c
   ·rw[Nat.min_eq_left c];exact h
   ·rw[Nat.min_eq_right c];exact Yl i h
 ·obtain⟨b,A⟩:=x;obtain⟨j,m,l,d,f⟩:=t;dsimp only at j l;subst j l;have y:=Dk (λv=>AM (JE g m v) (row g v).length) (k:=g.2.length) (by omega);refine⟨(((m ||| mM (λv=>AM (JE g m v) (row g v).length) g.2.length:Nat):Int),(k:Int)+1),⟨by push_cast;rfl,_,rfl,RH d y,λv=> ?_⟩,?_⟩
  ·rw[Nat.testBit_or,zAu,afz i,Wt i,f v];exact or_congr Iff.rfl (and_congr Iff.rfl (exists_congr λu=>and_congr Iff.rfl (f u)))
  ·unfold pQ sU;dsimp only;rw[if_pos (by omega),zA6 (by omega),if_pos Z];show Option.bind (jW 1000 g (m:Int)) _=_;rw[Hs i d,aZ Z,abl d y,NC (by omega)]
 ·obtain⟨b,A⟩:=x;obtain⟨j,m,l,_⟩:=t;dsimp only at j l;subst j l;unfold pQ sU yH;dsimp only;by_cases c:((min r g.2.length:Nat):Int)<(r:Int)
  ·rw[if_pos c,zA5 (by omega),if_neg (by simp)]
  ·rw[if_neg c,if_neg (by simp)]
 ·rw[zBc,zA1,Wu,q v]
end Go.Proofs.YtahgemjmgopleaaGreatDoor
namespace Go.Proofs.YtahgemjmgopleaaGreatDoor
open Go.Sx
def vE  (a:aX):Option aX:=
 some (a)
def vF (a:qA) (c:wF->Option aX) (b:aX):Option aX:=
 c ((wI .i64 (a.1+(1:Int))),b)
def qX (d:cW) (a:qA) (e:wF->Option aX) (b:qA) (c:wF->Option aX):Option aX:=
 if b.1<((at' d.2 a.1).length:Int)then(ck (0<=b.1∧b.1<((at' d.2 a.1).length:Int)) (ck (0<=a.1∧a.1<(b.2.length:Int)) (ck (0<=((at' (at' d.2 a.1) b.1).1)) (ck (0<=a.1∧a.1<(b.2.length:Int)) (c ((wI .i64 (b.1+(1:Int))),(List.set b.2 (Int.toNat a.1) (Fx .u32 (at' b.2 a.1) (zE .u32 (1:Int) ((at' (at' d.2 a.1) b.1).1))))))))))else(vF a e (b.2))
def lR (U:Nat) (c:cW) (a:qA) (b:wF->Option aX):Option aX:=
 if a.1<(c.2.length:Int)then(ck (0<=a.1∧a.1<(c.2.length:Int)) (bK (qX c a b) U ((0:Int),a.2)))else(vE  (a.2))
def pL (U:Nat) (a:cW):Option aX:=
 ck (0<=(a.2.length:Int)∧(a.2.length:Int)<=1099511627) (bK (lR U a) U ((0:Int),(List.replicate (Int.toNat (a.2.length:Int)) (0:Int))))
theorem aeO:aV Tryz.prog 89:=Tryz.call89
theorem Kv (U:Nat) {d:cW} (v:Value)  (j:Value)  (y:iX) (r:aX) (h:pL U d=some r):
  aW Tryz.prog 89 #[Value.agg #[v,j]] [Sl bX v d.1,S2 bD j y d.2] (λx:Value=>x) (λx l=>Ar fG x r::l) (λ_ l=>l):=by
 refine aW.of Tryz.func89 Z Tryz.ntmps89 Z λc=>?_;refine aR<|aH (aN.box (cs:=[v,j]) Z Z) Z λD=>aB Z<|aL<|aR<|bN Z<|dL 0 Z<|aC (gM Z (aD.fact 1 Z) Z) Z<|dW h λB h=>aH (r_ (e:=fG) (0:Int) Z Z Z Z B Z Z Z) Z λi=>aB Z<|aL<|aK<|dK (λk=>vE  k=some r) (λk w=>[(3,i)]) (λk w=>[Ar fG i k]) ?_ ?_
 ·refine aR<|bN Z<|dL 1 Z<|aC (gM Z (aD.fact 1 Z) Z) Z<|aA Z<|aL<|aS<|eB (lR U d) (λa m=>[(3,i),(13,j),(14,vI (d.2.length:Int)),(15,vI (a.1))]) (λa m=>[Ar fG i a.2]) ((0:Int),(List.replicate (Int.toNat (d.2.length:Int)) (0:Int))) () h SF (bA.ix [0] Z Z) ?_;intro t a m h;refine aR<|cZ Z<|aL<|aK ?_;refine d_ h Z (λh=>?_) λh=>?_
  ·refine cE<|aK<|dK (λg=>vF a (bK (lR U d) t) g=some r) (λg n=>[(3,i),(13,j),(14,vI (d.2.length:Int)),(15,vI (a.1))]) (λg n=>[Ar fG i g]) ?_ ?_
   ·refine aS<|aR<|aA Z<|dW h λf h=>aC (cY Z Z (aD.fact 1 Z) Z Z f) Z<|aC (cL Z (aD.fact 1 Z) Z Z f) Z<|aB Z<|aB Z<|aL<|aR<|aA Z<|aC (fX Z (zBi (aD.fact 1 Z) f.1 f.2) Z) Z<|aA Z<|aL<|aS<|eB (qX d a (bK (lR U d) t)) (λb o=>[(3,i),(4,vI (a.1)),(13,j),(14,vI (d.2.length:Int)),(15,vI (a.1)),(20,(at' y a.1).1),(21,vI ((at' d.2 a.1).length:Int)),(22,vI (b.1))]) (λb o=>[Ar fG i b.2]) ((0:Int),a.2) () h SF (bA.refl _) ?_;intro C b o h;refine aR<|cZ Z<|aL<|aK ?_;refine d_ h Z (λh=>?_) λh=>?_
    ·refine cE<|aK<|aS<|aR<|dW h λp h=>aC (a_ Z Z (zBi (aD.fact 1 Z) f.1 f.2) Z Z p) Z<|aC (jT (cs:=[vI ((at' (at' d.2 a.1) b.1).1),vI ((at' (at' d.2 a.1) b.1).2)]) Z (zBi (aD.fact 1 Z) f.1 f.2) cG Z Z Z Z p) Z<|aH (aN.alloc (cs:=XA) Z Z) Z λA=>bF 0 (vs:=[vI ((at' (at' d.2 a.1) b.1).1),vI ((at' (at' d.2 a.1) b.1).2)]) Z Z Z Z Z Z<|aL ?_;refine JR.start [0,0,3,7,0,16,48,127,255,511] 7 mixedOrders (by decide +kernel) ?_;refine zBj (by exact rfl) ?_;refine aY Z<|aY Z<|dW h λq h=>bM Z (bA.cons 1 Z .nil) .nil (a_ Z Z (aT (aD.res 0 Z) cP) Z Z q) aU.z<|bM Z (bA.cons 1 Z .nil) .nil (bY Z (aT (aD.res 0 Z) cP) Z Z Z AI q) aU.z<|cB Z<|fD 0 Z<|dW h λu h=>iY Z (FL Z Z u)<|bP 7 Z Z<|aC (Kr Z Z) Z<|dW h λs h=>aC (a_ Z Z (aT (aD.res 1 Z) cP) Z Z s) Z<|zF 1 (Fx .u32 (at' b.2 a.1) (zE .u32 (1:Int) ((at' (at' d.2 a.1) b.1).1))) s Z Z Z Z Z Z Z<|eN<|jH<|aO<|cD Z<|aA Z<|aL ?_;exact nC ((wI .i64 (b.1+(1:Int))),(List.set b.2 (Int.toNat a.1) (Fx .u32 (at' b.2 a.1) (zE .u32 (1:Int) ((at' (at' d.2 a.1) b.1).1))))) () h SF (bA.ix [1] Z Z) (aG.refl _ _)
    refine qC<|eZ<|eZ<|wQ<|jH ?_;exact eW (b.2) () h SF Z
   intro g n h;unfold vF at h;refine aO<|cD Z<|aA Z<|aL ?_;exact tV ((wI .i64 (a.1+(1:Int))),g) () h SF Z
  refine eS ?_;exact eW (a.2) () h SF Z
 intro k w h;unfold vE at h;refine aR<|aA Z<|aB Z<|aL<|aQ ?_;cases h;exact gE (i) Z Z (RV.tmp Z) (bA.refl _) aG.nil
end Go.Proofs.YtahgemjmgopleaaGreatDoor
namespace Go.Proofs.YtahgemjmgopleaaGreatDoor
open Go Go.Sx
structure Kp (m k:Nat):Prop where
 bit:m.testBit k=true
 low:∀j,j<k->m.testBit j=false
theorem BW {m:Nat} (h:m≠0):∃k,Kp m k:=by
 obtain⟨i,c⟩:=Nat.exists_testBit_of_ne_zero h;obtain⟨k,_,a,b⟩:=Of (p:=λi=>m.testBit i=true) i c;exact⟨k,a,λj d=>by simpa using b j d⟩
theorem RO {m k:Nat} (h:Kp m k) (i:Nat):(m - 1).testBit i=if i<k then true else if i=k then false else m.testBit i:=by
 have b:m=2^(k+1)*(m / 2^(k+1))+2^k:=by
  refine Nat.eq_of_testBit_eq λi=> ?_;have a:2^k<2^(k+1):=Nat.pow_lt_pow_right (by omega) (by omega);rw[Nat.testBit_two_pow_mul_add _ a,zAp,Nat.testBit_div_two_pow];rcases zB1 i k with q|q|q
  ·rw[if_pos (by omega),h.low i q,zA5 (by omega)]
  ·subst q;rw[if_pos (by omega),h.bit,zA6 Z]
  ·rw[if_neg (by omega),show i - (k+1)+(k+1)=i by omega]
 have c:0<2^k:=Nat.pow_pos (by omega);have a:2^k - 1<2^(k+1):=by rw[Nat.pow_succ];omega
 have e:m - 1=2^(k+1)*(m / 2^(k+1))+(2^k - 1):=by omega
 rw[e,Nat.testBit_two_pow_mul_add _ a,Nat.testBit_two_pow_sub_one,Nat.testBit_div_two_pow];rcases zB1 i k with q|q|q
 ·rw[if_pos (by omega),if_pos q,zA6 q]
 ·subst q;rw[if_pos (by omega),if_neg (by omega),if_pos Z,zA5 (by omega)]
 ·rw[if_neg (by omega),if_neg (by omega),if_neg (by omega),show i - (k+1)+(k+1)=i by omega]
theorem akL {m:Nat} (b:m<4294967296) (a:m≠0):wI .u32 (0 - (m:Int))=((4294967296 - m:Nat):Int):=by
 rw[Fw];have:IntKind.u32.wrap (0 - (m:Int))=(0 - (m:Int))%4294967296:=rfl;rw[this];omega
theorem ahk {m:Nat} (b:m<4294967296) (a:m≠0):wI .u32 ((m:Int) - 1)=((m - 1:Nat):Int):=by
 rw[show(m:Int) - 1=((m - 1:Nat):Int) by omega,Fw,OG _ (by omega)]
theorem acQ {m k:Nat} (a:m<4294967296) (h:Kp m k):eG .u32 (m:Int) (wI .u32 (0 - (m:Int)))=((2^k:Nat):Int):=by
 have b:m≠0:=λe=>by have:=h.bit;rw[e]at this;simp at this
 have c:k<32:=Dv a h.bit;rw[akL a b,AF a (by omega)];congr 1;refine Nat.eq_of_testBit_eq λi=> ?_;rw[zBc,show 4294967296 - m=2^32 - ((m - 1)+1) by omega,Nat.testBit_two_pow_sub_succ (by omega),zAp,RO h];rcases zB1 i k with q|q|q
 ·rw[h.low i q,zA5 (show¬k=i by omega)];rfl
 ·subst q;rw[h.bit,if_neg (by omega),if_pos Z,zA6 c,zA6 Z];rfl
 ·rw[if_neg (by omega),if_neg (by omega),zA5 (show¬k=i by omega)];cases m.testBit i<;>simp
theorem Jt {m k:Nat} (a:m<4294967296) (h:Kp m k):∃b:Nat,eG .u32 (m:Int) (wI .u32 ((m:Int) - 1))=(b:Int)∧b<4294967296∧∀i,b.testBit i=(m.testBit i&&decide (i≠k)):=by
 have c:m≠0:=λe=>by have:=h.bit;rw[e]at this;simp at this
 refine⟨m &&& (m - 1),by rw[ahk a c,AF a (by omega)],Lo a,λi=> ?_⟩
 rw[zBc,RO h];rcases zB1 i k with q|q|q
 ·rw[h.low i q];rfl
 ·subst q;simp
 ·rw[if_neg (by omega),if_neg (by omega)];have:decide (i≠k)=true:=zA6 (by omega);rw[this];cases m.testBit i<;>rfl
theorem afU:∀k:Fin 32,((0:Int)<=mZ .u32 (wI .u32 ((((2^k.val:Nat):Int))*125613361)) 27∧mZ .u32 (wI .u32 ((((2^k.val:Nat):Int))*125613361)) 27<((32:Nat):Int))∧wI .i64 (at' Au (mZ .u32 (wI .u32 ((((2^k.val:Nat):Int))*125613361)) 27))=(k.val:Int):=by decide +kernel
theorem Sv (f:Nat) {m k:Nat} (a:m<4294967296) (h:Kp m k):iU f (m:Int)=some (k:Int):=by
 have d:m≠0:=λe=>by have:=h.bit;rw[e]at this;simp at this
 obtain⟨b,c⟩:=afU ⟨k,Dv a h.bit⟩;unfold iU;rw[if_neg (by omega),cO (by decide),acQ a h,cO ⟨b,rfl⟩,c]
structure Lk (g:GR) (r:aX):Prop where
 len:r.length=g.2.length
 at':∀v:Nat,v<g.2.length->∃m:Nat,Go.Sx.at' r (v:Int)=(m:Int)∧m<4294967296∧∀u,m.testBit u=true↔JZ g v u
theorem T_ {g:GR} (I:VG g):∃r,pL 1000 g=some r∧Lk g r:=by
 have R:=I.n24;unfold pL;rw[cO (by omega)];obtain⟨⟨a,r⟩,⟨y,B,C⟩,J⟩:=zN (step:=lR 1000 g) (K:=λz=>some z.2) g.2.length
  (λk z=>z.1=(k:Int)∧z.2.length=g.2.length∧∀v:Nat,v<g.2.length->∃m:Nat,Go.Sx.at' z.2 (v:Int)=(m:Int)∧m<4294967296∧∀u,m.testBit u=true↔v<k∧JZ g v u) (λk z E M G=>by
  obtain⟨a,r⟩:=z;obtain⟨y,B,C⟩:=G;dsimp only at y B C;subst y;have O:=(I.node k M).deg;obtain⟨⟨b,U⟩,⟨s,d,c⟩,J⟩:=zN (step:=qX g ((k:Int),r) E) (K:=λz=>E (((k+1:Nat):Int),z.2)) (row g k).length
   (λj z=>z.1=(j:Int)∧z.2.length=g.2.length∧∀v:Nat,v<g.2.length->∃m:Nat,Go.Sx.at' z.2 (v:Int)=(m:Int)∧m<4294967296∧∀u,m.testBit u=true↔(v<k∧JZ g v u)∨(v=k∧∃i,i<j∧(jL (row g k) i).1=(u:Int))) (λj z F S H=>by
   obtain⟨b,q⟩:=z;obtain⟨s,d,c⟩:=H;dsimp only at s d c;subst s;obtain⟨w,V,x,N⟩:=I.port M S;obtain⟨m,T,l,t⟩:=c k M;refine⟨(((j+1:Nat):Int),q.set k (((m ||| 2^w:Nat)):Int)),⟨rfl,by simpa using d,λv f=> ?_⟩,?_⟩
   ·show∃P,Go.Sx.at' (q.set k _) (v:Int)=_∧_;rw[AN q k v _ (by omega)];by_cases e:v=k
    ·subst e;refine⟨_,if_pos Z,RH l (Fh (by omega)),λu=> ?_⟩
     rw[Nat.testBit_or,zAp,zAu,t u,zA8];constructor
     ·rintro((h|⟨_,i,A,h⟩)|h)
      ·exact .inl h
      ·exact .inr ⟨rfl,i,by omega,h⟩
      ·exact .inr ⟨rfl,j,by omega,by rw[x,h]⟩
     ·rintro(h|⟨_,i,A,h⟩)
      ·exact .inl (.inl h)
      ·by_cases L:i=j
       ·subst L;right;rw[x]at h;omega
       ·exact .inl (.inr ⟨rfl,i,by omega,h⟩)
    ·obtain⟨P,n,o,p⟩:=c v f;refine⟨P,by rw[if_neg e];exact n,o,λu=> ?_⟩
     rw[p u];constructor
     ·rintro(h|⟨h,_⟩)
      ·exact .inl h
      ·exact absurd h e
     ·rintro(h|⟨h,_⟩)
      ·exact .inl h
      ·exact absurd h e
   ·unfold qX;dsimp only;rw[if_pos (show(j:Int)<((row g k).length:Int) by omega),cO (show 0<=(j:Int)∧(j:Int)<((row g k).length:Int) by omega),cO (by omega),show Go.Sx.at' (Go.Sx.at' g.2 (k:Int)) (j:Int)=jL (row g k) j from rfl,x,cO (by omega),cO (by omega),T,EF l (by omega),dH (by omega),zAe]) (λz F H=>by
   obtain⟨b,q⟩:=z;obtain⟨s,d,c⟩:=H;dsimp only at s d c;subst s;unfold qX vF;dsimp only;rw[if_neg (show¬((row g k).length:Int)<((row g k).length:Int) by omega),dH (by omega)]) 1000 ((0:Int),r) ⟨rfl,B,λv f=>by
    obtain⟨m,n,o,p⟩:=C v f;refine⟨m,n,o,λu=> ?_⟩
    rw[p u];constructor
    ·exact λh=> .inl h
    ·rintro(h|⟨_,i,A,_⟩)
     ·exact h
     ·omega⟩ (by omega)
  dsimp only at s d c;refine⟨(((k+1:Nat):Int),U),⟨rfl,d,λv f=> ?_⟩,?_⟩
  ·obtain⟨m,n,o,p⟩:=c v f;refine⟨m,n,o,λu=> ?_⟩
   rw[p u];constructor
   ·rintro(⟨Q,D⟩|⟨rfl,i,A,h⟩)
    ·exact⟨by omega,D⟩
    ·exact⟨by omega,i,A,h⟩
   ·rintro⟨Q,D⟩;by_cases e:v=k
    ·subst e;obtain⟨i,A,h⟩:=D;exact .inr ⟨rfl,i,A,h⟩
    ·exact .inl ⟨by omega,D⟩
  ·unfold lR;dsimp only;rw[if_pos (by omega),cO (by omega)];exact J) (λz E G=>by
  obtain⟨a,r⟩:=z;obtain⟨y,B,C⟩:=G;dsimp only at y;subst y;unfold lR vE;dsimp only;rw[if_neg (by omega)]) 1000 ((0:Int),List.replicate (Int.toNat (g.2.length:Int)) (0:Int)) ⟨rfl,by simp,λv f=>⟨0,by
   rw[zAe,gN (by simpa using f)];simp,by omega,λu=>by simp⟩⟩ (by omega)
 refine⟨r,J,B,λv f=> ?_⟩
 obtain⟨m,n,o,p⟩:=C v f;exact⟨m,n,o,λu=>by rw[p u];exact⟨λh=>h.2,λh=>⟨f,h⟩⟩⟩
def Hj (g:GR) (m:Nat):Prop:=∀i,m.testBit i=true->i<g.2.length
theorem Hj.lt {g:GR} (b:VG g) {m:Nat} (h:Hj g m):m<16777216:=by
 have a:=b.n24;refine zAj (Nat.lt_pow_two_of_testBit (n:=24) m λi d=> ?_) (zAd _);cases c:m.testBit i with
 |false=>rfl
 |true=>have:=h i c;omega
theorem agF {m:Nat} (h:∀i,i<32->m.testBit i=false) (b:m<4294967296):m=0:=by
 refine Nat.eq_of_testBit_eq λi=> ?_;rw[zBe];rcases zAm i 32 with q|q
 ·exact h i q
 ·cases a:m.testBit i with
  |false=>rfl
  |true=>have:=Dv b a;omega
theorem TT {g:GR} (z:VG g) {r:aX} (y:Lk g r) {t:Nat} (C:Hj g t) (n:∀v u,t.testBit v=true->t.testBit u=true->¬JZ g v u) (F:Nat):∀(d s a b:Nat),s+d=32->b<4294967296->(∀i,i<s->b.testBit i=false)->(∀i,b.testBit i=true->t.testBit i=true)->d<a->
  bK (iA F r (t:Int)) a (b:Int)=some true:=by
 have J:=z.n24;have p:t<4294967296:=by have:=C.lt z;omega
 intro d
 induction d using Nat.strongRecOn with
 | _ d ih =>
  intro s a b P B o c O;obtain⟨a,rfl⟩:∃f,a=f+1:=⟨a - 1,by omega⟩
  show iA F r (t:Int) (b:Int) (bK _ a)=_;unfold iA kD;by_cases G:b=0
  ·rw[if_neg (by omega)]
  obtain⟨k,l⟩:=BW G;have w:=C k (c k l.bit);have K:s<=k:=by
   rcases zAm k s with q|q
   ·have:=l.bit;rw[o k q]at this;cases this
   ·exact q
  obtain⟨m,L,h,j⟩:=y.at' k w;rw[if_pos (by omega),aZ (Sv F B l),cO (by have:=y.len;omega),L,AF h p];have M:m &&& t=0:=by
   refine agF (λi _=> ?_) (Lo h);rw[zBc];cases H:m.testBit i with
   |false=>rfl
   |true=>
    cases I:t.testBit i with
    |false=>rfl
    |true=>exact absurd ((j i).1 H) (n k i (c k l.bit) I)
  rw[M,if_neg (by simp)];obtain⟨N,D,E,x⟩:=Jt B l;rw[D];have A:k<32:=by omega
  refine ih (32 - (k+1)) (by omega) (k+1) a N (by omega) E (λi n=> ?_) (λi n=> ?_) (by omega)
  ·rw[x];by_cases e:i=k
   ·simp[e]
   ·rw[l.low i (by omega)];rfl
  ·rw[x,zA1]at n;exact c i n.1
theorem Ks {g:GR} (a:VG g) {r:aX} (d:Lk g r) {t:Nat} (c:Hj g t) (b:∀v u,t.testBit v=true->t.testBit u=true->¬JZ g v u):iK 1000 r (t:Int)=some true:=
 TT a d c b 1000 32 0 1000 t (by omega) (by have:=c.lt a;omega) (λi b=>by omega) (λi h=>h) (by omega)
theorem Rn {g:GR} (M:VG g) {r:aX} (T:Lk g r) {W:Nat} (U:Hj g W) (F:Nat):∀(d s a b t:Nat),s+d=32->b<4294967296->t<4294967296->(∀i,i<s->b.testBit i=false)->(∀i,b.testBit i=true->W.testBit i=true)->(∀i,t.testBit i=true->W.testBit i=true)->(∀v u,t.testBit v=true->t.testBit u=true->¬JZ g v u)->(W≠0->t≠0∨b=W)->d<a->
  ∃C:Nat,bK (dC F r) a ((b:Int),(t:Int))=some (C:Int)∧C<4294967296∧(∀i,C.testBit i=true->W.testBit i=true)∧(∀v u,C.testBit v=true->C.testBit u=true->¬JZ g v u)∧(W≠0->C≠0):=by
 have aa:=M.n24;intro d
 induction d using Nat.strongRecOn with
 | _ d ih =>
  intro s a b t hs V c I w n j O hf;obtain⟨a,rfl⟩:∃f,a=f+1:=⟨a - 1,by omega⟩
  have P:bK (dC F r) (a+1) ((b:Int),(t:Int))=dC F r ((b:Int),(t:Int)) (bK (dC F r) a):=rfl;rw[P];unfold dC jX iG;dsimp only;by_cases S:b=0
  ·rw[if_neg (by omega)];refine⟨t,rfl,c,n,j,λX=> ?_⟩
   rcases O X with h|h
   ·exact h
   ·exact absurd (h.symm.trans S) X
  obtain⟨k,D⟩:=BW S;have E:=w k D.bit;have G:=U k E;have ab:s<=k:=by
   rcases zAm k s with q|q
   ·have:=D.bit;rw[I k q]at this;cases this
   ·exact q
  obtain⟨m,hm,J,A⟩:=T.at' k G;obtain⟨L,Y,Q,R⟩:=Jt V D;have p:k<32:=by omega
  have x:∀i,i<k+1->L.testBit i=false:=λi l=>by
   rw[R];by_cases e:i=k
   ·simp[e]
   ·rw[D.low i (by omega)];rfl
  have z:∀i,L.testBit i=true->W.testBit i=true:=λi l=>by
   rw[R,zA1]at l;exact w i l.1
  rw[if_pos (by omega),aZ (Sv F V D),cO (by have:=T.len;omega),hm,AF J c,Y];by_cases K:m &&& t=0
  ·rw[K,if_pos (by rfl),cO (by omega),EF c p];have H:(t ||| 2^k).testBit k=true:=by rw[Nat.testBit_or,zAp];simp
   have y:∀u,t.testBit u=true->¬JZ g k u:=λu o N=>by
    have:=congrArg (λq=>q.testBit u) K;simp only[zBc,zBe,(A u).2 N,o]at this;cases this
   refine ih (32 - (k+1)) (by omega) (k+1) a L (t ||| 2^k) (by omega) Q (RH c (Fh p)) x z (λi l=> ?_) (λv u B o=> ?_) (λ_=> .inl λe=>by rw[e]at H;simp at H) (by omega)
   ·rw[Nat.testBit_or,zAp,zAu,zA8]at l;rcases l with l|rfl
    ·exact n i l
    ·exact E
   ·rw[Nat.testBit_or,zAp,zAu,zA8]at B o;rcases B with B|rfl
    ·rcases o with o|rfl
     ·exact j v u B o
     ·exact λN=>y v B (M.back (U v (n v B)) N)
    ·rcases o with o|rfl
     ·exact y u o
     ·rintro⟨i,l,he⟩;exact((M.node k G).links i l).2.1 he
  ·rw[if_neg (by omega)];refine ih (32 - (k+1)) (by omega) (k+1) a L t (by omega) Q c x z n j (λ_=> .inl λe=> ?_) (by omega);rw[e]at K;exact K (Nat.and_zero m)
theorem Ml {g:GR} (hV:VG g) {r:aX} (hN:Lk g r) {kind:Int} (hk1:1<=kind) (hk4:kind<=4) {e w:Nat} (he:Hj g e) (hw:w<4294967296):
  ∃t:Nat,eK 1000 r kind (e:Int) (w:Int)=some (t:Int)∧(∀i,t.testBit i=true->e.testBit i=true)∧(e≠0->t≠0∧gO 1000 r kind (e:Int) (t:Int)=some true∧(kind<=2->∀v u,t.testBit v=true->t.testBit u=true->¬JZ g v u)∧(kind=4->t=e)):=by
 have he24:=he.lt hV;have he32:e<4294967296:=by omega
 -- the wish
 obtain⟨W,hW,hW32,hWe,hW0,hWm⟩:∃W:Nat,eK 1000 r kind (e:Int) (w:Int)=fY 1000 r kind (e:Int) (W:Int)∧W<4294967296∧(∀i,W.testBit i=true->e.testBit i=true)∧(e≠0->W≠0)∧(e=0->W=0):=by
  unfold eK;rw[AF hw he32];by_cases h0:w &&& e=0
  ·rw[h0,if_pos (show((0:Nat):Int)=0 from rfl)];by_cases hee:e=0
   ·refine⟨0,by rw[hee];rfl,by omega,λi h=>by simp at h,λh=>absurd hee h,λ_=>rfl⟩
   ·obtain⟨k,hk⟩:=BW hee;have hk32:=Dv he32 hk.bit;refine⟨2^k,by rw[acQ he32 hk],Fh hk32,λi h=> ?_,λ_=>Nat.ne_of_gt (Nat.pow_pos (by omega)),λh=>absurd h hee⟩
    rw[zAp,zA8]at h;rw[<-h];exact hk.bit
  ·rw[if_neg (by omega)];refine⟨w &&& e,rfl,Lo hw,λi h=> ?_,λ_=>h0,λh=>by rw[h];exact Nat.and_zero w⟩
   rw[zBc,zA1]at h;exact h.2
 have hWG:Hj g W:=λi hi=>he i (hWe i hi);have permits:∀(t:Nat),t≠0->t<4294967296->(∀i,t.testBit i=true->e.testBit i=true)->∀b,(if kind=1 then some (decide ((eG .u32 (t:Int) (wI .u32 ((t:Int) - 1)))=0))else if kind=2 then(Option.bind (iK 1000 r (t:Int)) λr7=>some r7)else if kind=4 then some (decide ((t:Int)=(e:Int)))else some true)=some b->gO 1000 r kind (e:Int) (t:Int)=some b:=by
  intro t h0 h32 hsub b hb;unfold gO mT;have hd:rV t e=0:=by
   refine Nat.eq_of_testBit_eq λi=> ?_;rw[AO h32 he32,zBe];cases h1:t.testBit i with
   |false=>rfl
   |true=>rw[hsub i h1];rfl
  rw[if_neg (by omega),uH,hd,if_neg (by simp)];exact hb
 rw[hW];unfold fY;by_cases k1:kind=1
 ·rw[if_pos k1];by_cases hw0:W=0
  ·refine⟨0,by rw[hw0];rfl,λi h=>by simp at h,λh=>absurd hw0 (hW0 h)⟩
  ·obtain⟨k,hk⟩:=BW hw0;have hk32:=Dv hW32 hk.bit;have hL:Kp (2^k) k:=⟨by rw[zAp];simp,λj hj=>by rw[zAp];exact zA5 (by omega)⟩
   refine⟨2^k,by rw[acQ hW32 hk],λi h=> ?_,λhee=>⟨Nat.ne_of_gt (Nat.pow_pos (by omega)),?_,λ_ v u hv hu hadj=> ?_,λh=>by omega⟩⟩
   ·rw[zAp,zA8]at h;rw[<-h];exact hWe k hk.bit
   ·refine permits _ (Nat.ne_of_gt (Nat.pow_pos (by omega))) (Fh hk32) (λi h=> ?_) true ?_
    ·rw[zAp,zA8]at h;rw[<-h];exact hWe k hk.bit
    ·obtain⟨m',e1,e2,e3⟩:=Jt (Fh hk32) hL;rw[if_pos k1,e1];have:m'=0:=Nat.eq_of_testBit_eq λi=>by
      rw[e3,zAp,zBe];by_cases q:k=i
      ·simp[q]
      ·simp[q]
     rw[this];rfl
   ·rw[zAp,zA8]at hv hu;subst hv;subst hu;obtain⟨i,hi,he⟩:=hadj;exact((hV.node k (hWG k hk.bit)).links i hi).2.1 he
 rw[if_neg k1];by_cases k2:kind=2
 ·rw[if_pos k2];obtain⟨t,h1,h2,h3,h4,h5⟩:=Rn hV hN hWG 1000 32 0 1000 W 0 (by omega) hW32 (by omega) (λi hi=>by omega) (λi h=>h) (λi h=>by simp at h) (λv u h=>by simp at h) (λ_=> .inr Z) (by omega);refine⟨t,h1,λi h=>hWe i (h3 i h),λhee=>⟨h5 (hW0 hee),?_,λ_=>h4,λh=>by omega⟩⟩
  refine permits t (h5 (hW0 hee)) h2 (λi h=>hWe i (h3 i h)) true ?_;rw[if_neg k1,if_pos k2,aZ (Ks hV hN (λi h=>hWG i (h3 i h)) h4)]
 rw[if_neg k2];by_cases k4:kind=4
 ·rw[if_pos k4];refine⟨e,rfl,λi h=>h,λhee=>⟨hee,permits e hee he32 (λi h=>h) true ?_,λh=>by omega,λ_=>rfl⟩⟩
  rw[if_neg k1,if_neg k2,if_pos k4];simp
 ·rw[if_neg k4];refine⟨W,rfl,hWe,λhee=>⟨hW0 hee,permits W (hW0 hee) hW32 hWe true ?_,λh=>by omega,λh=>absurd h k4⟩⟩
  rw[if_neg k1,if_neg k2,if_neg k4]
end Go.Proofs.YtahgemjmgopleaaGreatDoor
namespace Go.Proofs.YtahgemjmgopleaaGreatDoor
open Go.Sx
def Bv  (a:Int):Option (Int):=
 some (a)
def xO (c:aX) (a:eL) (b:gC->Option (Int)):Option (Int):=
 if a.2<(c.length:Int)then(ck (0<=a.2∧a.2<(c.length:Int)) (b ((max a.1 (at' c a.2)),(wI .i64 (a.2+(1:Int))))))else(Bv  (a.1))
def Ck (U:Nat) (a:aX):Option (Int):=
 if(a.length:Int)<(1:Int)then(none)else(ck (0<=(0:Int)∧(0:Int)<(a.length:Int)) (bK (xO a) U ((at' a (0:Int)),(1:Int))))
theorem abU:aV Tryz.prog 206:=Tryz.call206
theorem Qk (U:Nat) {f:aX} (g:Value) (r:Int) (h:Ck U f=some r):
  aW Tryz.prog 206 #[g] [Sl bX g f] (λx:Unit=>vI (r)) (λx l=>l) (λ_ l=>l):=by
 refine aW.of Tryz.func206 Z Tryz.ntmps206 Z λc=>?_;refine aR<|aB Z<|aL<|aK<|aR<|aA Z<|iF (aD.fact 0 Z) Z<|cZ Z<|aL ?_;refine d_ h Z (λh=>?_) λh=>?_
 ·refine aO ?_;cases h
 refine cE<|aR<|aA Z<|dW h λj h=>aC (a_ Z Z (aD.fact 0 Z) Z Z j) Z<|aC (bY Z (aD.fact 0 Z) Z Z Z eH j) Z<|aB Z<|aL<|aK<|dK (λb=>Bv  b=some r) (λb i=>[(3,vI (b))]) (λb i=>[]) ?_ ?_
 ·refine aR<|aB Z<|aL<|aS<|eB (xO f) (λa d=>[(0,g),(3,vI (a.1)),(4,vI (a.2))]) (λa d=>[]) ((at' f (0:Int)),(1:Int)) () h SF (bA.refl _) ?_;intro k a d h;refine aK<|aR<|aA Z<|aA Z<|iF (aD.fact 0 Z) Z<|cZ Z<|aL ?_;refine d_ h Z (λh=>?_) λh=>?_
  ·refine cE<|aK<|aS<|aO<|aA Z<|aA Z<|aA Z<|dW h λe h=>aC (a_ Z Z (aD.fact 0 Z) Z Z e) Z<|aC (bY Z (aD.fact 0 Z) Z Z Z eH e) Z<|aC (DZ Z Z) Z<|aB Z<|eN<|jH<|aO<|aA Z<|cD Z<|aB Z<|aL ?_;exact tV ((max a.1 (at' f a.2)),(wI .i64 (a.2+(1:Int)))) () h SF Z
  refine eS ?_;exact eW (a.1) () h SF Z
 intro b i h;unfold Bv at h;refine aR<|aA Z<|aB Z<|aL<|aQ ?_;cases h;exact fW Z
def pY (U:Nat) (a:Gn) (b:cW) (d:Int):Option gC:=
 Option.bind (Ck U b.1) λc=>(some (a.2.2.1,(wI .i64 ((wI .i64 (a.2.2.2.1+(wI .i64 (a.2.2.2.2.1*(b.1.length:Int)))))+(wI .i64 (a.2.2.2.2.2*c))))))
theorem abT:aV Tryz.prog 205:=Tryz.call205
theorem IU (U:Nat) {a:Gn} {d:cW} {f:Int} (b:Value)  (e:Value)  (k:iX) (r:eL) (h:pY U a d f=some r):
  aW Tryz.prog 205 #[Value.agg #[vS (a.1),vI (a.2.1),vI (a.2.2.1),vI (a.2.2.2.1),vI (a.2.2.2.2.1),vI (a.2.2.2.2.2)],Value.agg #[b,e],vI (f)] [Sl bX b d.1,S2 bD e k d.2] (λx:Unit=>Value.tuple #[vI (r.1),vI (r.2)]) (λx l=>l) (λ_ l=>l):=by
 refine aW.of Tryz.func205 Z Tryz.ntmps205 Z λc=>?_;refine aR<|aH (aN.box (cs:=[vS (a.1),vI (a.2.1),vI (a.2.2.1),vI (a.2.2.2.1),vI (a.2.2.2.2.1),vI (a.2.2.2.2.2)]) Z Z) Z λm=>aH (aN.box (cs:=[b,e]) Z Z) Z λn=>aB Z<|aB Z<|aL<|aK ?_;refine JR.start [0,1,0,4,0,16,0,64,192,496,1020,0,2048,0,8192,24576,63488,131068,57347,524287] 19 mixedOrders (by decide +kernel) ?_;refine zBj (by exact rfl) ?_;refine cB Z<|fD 1 Z<|cB Z<|fD 1 Z<|cB Z<|fD 1 Z<|cB Z<|fD 0 Z<|bM Z .nil (kH 0 Z) (fX Z (aD.fact 0 Z) Z) aU.z<|iY Z (zH Z Z)<|iY Z (yR Z Z)<|cB Z<|fD 1 Z<|cB Z<|fD 0 Z<|dZ h λg i h=>zBh Z Z Z (zBg abU (Qk U b g i) Z (jP [0] Z)) Z (λj=>(kG [([1],[]),([],[0]),([0],[]),([1],[]),([1],[]),([1],[])] Z)) λj=>iY Z (zH Z Z)<|iY Z (yR Z Z)<|iY Z (wS Z)<|bP 19 Z Z<|aB Z<|aL<|aQ ?_;cases h;exact eD () Z Z (RV.tmp Z) (RV.tmp Z) .nil aG.nil
def tK (U:Nat) (a:Gn) (b:cW) (c:Int):Option gC:=
 some ((0:Int),(1:Int))
theorem abV:aV Tryz.prog 207:=Tryz.call207
theorem IV (U:Nat) {a:Gn} {b:cW} {f:Int} (d:Value)  (e:Value)  (g:iX) (r:eL) (h:tK U a b f=some r):
  aW Tryz.prog 207 #[Value.agg #[vS (a.1),vI (a.2.1),vI (a.2.2.1),vI (a.2.2.2.1),vI (a.2.2.2.2.1),vI (a.2.2.2.2.2)],Value.agg #[d,e],vI (f)] [Sl bX d b.1,S2 bD e g b.2] (λx:Unit=>Value.tuple #[vI (r.1),vI (r.2)]) (λx l=>l) (λ_ l=>l):=by
 refine aW.of Tryz.func207 Z Tryz.ntmps207 Z λc=>?_;unfold tK at h;refine aR<|aH (aN.box (cs:=[vS (a.1),vI (a.2.1),vI (a.2.2.1),vI (a.2.2.2.1),vI (a.2.2.2.2.1),vI (a.2.2.2.2.2)]) Z Z) Z λi=>aH (aN.box (cs:=[d,e]) Z Z) Z λj=>aB Z<|aB Z<|aL<|aR<|aB Z<|aB Z<|aL<|aQ ?_;cases h;exact eD () Z Z (RV.tmp Z) (RV.tmp Z) .nil aG.nil
def pZ (U:Nat) (c:Gn) (b:cW) (a:Int):Option gC:=
 ck (0<=a∧a<(b.2.length:Int)) (some ((-1:Int),(wI .i64 (((at' b.2 a).length:Int) - (1:Int)))))
theorem abW:aV Tryz.prog 208:=Tryz.call208
theorem IW (U:Nat) {a:Gn} {d:cW} {g:Int} (e:Value)  (f:Value)  (i:iX) (r:eL) (h:pZ U a d g=some r):
  aW Tryz.prog 208 #[Value.agg #[vS (a.1),vI (a.2.1),vI (a.2.2.1),vI (a.2.2.2.1),vI (a.2.2.2.2.1),vI (a.2.2.2.2.2)],Value.agg #[e,f],vI (g)] [Sl bX e d.1,S2 bD f i d.2] (λx:Unit=>Value.tuple #[vI (r.1),vI (r.2)]) (λx l=>l) (λ_ l=>l):=by
 refine aW.of Tryz.func208 Z Tryz.ntmps208 Z λc=>?_;refine aR<|aH (aN.box (cs:=[vS (a.1),vI (a.2.1),vI (a.2.2.1),vI (a.2.2.2.1),vI (a.2.2.2.2.1),vI (a.2.2.2.2.2)]) Z Z) Z λj=>aH (aN.box (cs:=[e,f]) Z Z) Z λk=>aB Z<|aB Z<|aL<|aK ?_;refine JR.start [0,1,0,7,15,31,63,0,255] 8 mixedOrders (by decide +kernel) ?_;refine zBj (by exact rfl) ?_;refine cB Z<|fD 0 Z<|aY Z<|dW h λb h=>bM Z .nil (kH 1 Z) (cY Z Z (aD.fact 0 Z) Z Z b) aU.z<|bM Z .nil (kH 1 Z) (cL Z (aD.fact 0 Z) Z Z b) aU.z<|bM Z .nil (kH 1 Z) (fX Z (zBi (aD.fact 0 Z) b.1 b.2) Z) aU.z<|iY Z (lO Z Z)<|iY Z (wS Z)<|bP 8 Z Z<|aB Z<|aL<|aQ ?_;cases h;exact eD () Z Z (RV.tmp Z) (RV.tmp Z) .nil aG.nil
def AP  (a:Unit):Option gC:=
 some ((0:Int),(-1:Int))
def nU (c:Int) (a:(Int)->Option gC) (b:Unit):Option gC:=
 a (wI .i64 (c+(1:Int)))
def fR (U:Nat) (a:Gn) (d:cW) (h:Int) (b:Int) (c:(Int)->Option gC):Option gC:=
 if b<(List.length ([((1:Int),(205:Nat)),((2:Int),(207:Nat)),((3:Int),(208:Nat))]):Int)then(ck (0<=b∧b<(List.length ([((1:Int),(205:Nat)),((2:Int),(207:Nat)),((3:Int),(208:Nat))]):Int)) (if b=(0:Int)then(if(1:Int)=a.2.1 then(Option.bind (pY U ((a.1,a.2.1,a.2.2.1,a.2.2.2.1,a.2.2.2.2.1,a.2.2.2.2.2)) ((d.1,d.2)) h) λe=>(some (e.1,e.2)))else(nU b c (())))else(if b=(1:Int)then(if(2:Int)=a.2.1 then(Option.bind (tK U ((a.1,a.2.1,a.2.2.1,a.2.2.2.1,a.2.2.2.2.1,a.2.2.2.2.2)) ((d.1,d.2)) h) λf=>(some (f.1,f.2)))else(nU b c (())))else(if(3:Int)=a.2.1 then(Option.bind (pZ U ((a.1,a.2.1,a.2.2.1,a.2.2.2.1,a.2.2.2.2.1,a.2.2.2.2.2)) ((d.1,d.2)) h) λg=>(some (g.1,g.2)))else(nU b c (()))))))else(AP  (()))
def kT (U:Nat) (a:Gn) (b:cW) (c:Int):Option gC:=
 bK (fR U a b c) U (0:Int)
theorem UO:aV Tryz.prog 170:=Tryz.call170
theorem Fj (U:Nat) {a:Gn} {p:cW} {m:Int} (g:Value)  (i:Value)  (y:iX) (r:eL) (h:kT U a p m=some r):
  aW Tryz.prog 170 #[Value.agg #[vS (a.1),vI (a.2.1),vI (a.2.2.1),vI (a.2.2.2.1),vI (a.2.2.2.2.1),vI (a.2.2.2.2.2)],Value.agg #[g,i],vI (m)] [Sl bX g p.1,S2 bD i y p.2] (λx:Unit=>Value.tuple #[vI (r.1),vI (r.2)]) (λx l=>l) (λ_ l=>l):=by
 refine aW.of Tryz.func170 Z Tryz.ntmps170 Z λc=>?_;unfold kT at h;refine aR<|aH (aN.box (cs:=[vS (a.1),vI (a.2.1),vI (a.2.2.1),vI (a.2.2.2.1),vI (a.2.2.2.2.1),vI (a.2.2.2.2.2)]) Z Z) Z λt=>aH (aN.box (cs:=[g,i]) Z Z) Z λu=>aB Z<|aB Z<|aL<|aR ?_;refine aC (FK (r:=Value.agg #[vI (1:Int),Value.func (.func 205) #[] #[]]) Z Z (by intro w;simp[Instr.build,Instr.fill,cT,b_,bW,cU,cV,cA,dJ])) Z ?_;refine aC (FK (r:=Value.agg #[vI (2:Int),Value.func (.func 207) #[] #[]]) Z Z (by intro w;simp[Instr.build,Instr.fill,cT,b_,bW,cU,cV,cA,dJ])) Z ?_;refine aC (FK (r:=Value.agg #[vI (3:Int),Value.func (.func 208) #[] #[]]) Z Z (by intro w;simp[Instr.build,Instr.fill,cT,b_,bW,cU,cV,cA,dJ])) Z ?_;refine aH (bT (e:=KB) ([(((1:Int),((205:Nat)))),(((2:Int),((207:Nat)))),(((3:Int),((208:Nat))))]) [(0,Value.agg #[vI (1:Int),Value.func (.func 205) #[] #[]]),(1,Value.agg #[vI (2:Int),Value.func (.func 207) #[] #[]]),(2,Value.agg #[vI (3:Int),Value.func (.func 208) #[] #[]])] Z Z Z Z (Zg (vI (1:Int)) (Value.func (.func 205) #[] #[]) (vI (2:Int)) (Value.func (.func 207) #[] #[]) (vI (3:Int)) (Value.func (.func 208) #[] #[])) Z Z Z) Z λv=>aB Z<|aL<|aK<|dK (λs=>AP  s=some r) (λs G=>[]) (λs G=>[]) ?_ ?_
 ·refine aR<|aA Z<|aC (fX Z (aT (aD.res 0 Z) Db) Z) Z<|aA Z<|aL<|aS<|eB (fR U a p m) (λk H=>[(2,vI (m)),(3,vP t),(4,vP u),(15,v),(16,vI (List.length ([((1:Int),(205:Nat)),((2:Int),(207:Nat)),((3:Int),(208:Nat))]):Int)),(17,vI (k))]) (λk H=>[Ar KB v ([((1:Int),(205:Nat)),((2:Int),(207:Nat)),((3:Int),(208:Nat))]),cJ u [g,i] 29,cJ t [vS (a.1),vI (a.2.1),vI (a.2.2.1),vI (a.2.2.2.1),vI (a.2.2.2.2.1),vI (a.2.2.2.2.2)] 64]) (0:Int) () h SF (bA.refl _) ?_;intro z k H h;refine aR<|cZ Z<|aL<|aK ?_;refine d_ h Z (λh=>?_) λh=>?_
  ·refine cE<|aK<|dK (λj=>nU k (bK (fR U a p m) z) j=some r) (λj n=>[(2,vI (m)),(3,vP t),(4,vP u),(15,v),(16,vI (List.length ([((1:Int),(205:Nat)),((2:Int),(207:Nat)),((3:Int),(208:Nat))]):Int)),(17,vI (k))]) (λj n=>[Ar KB v ([((1:Int),(205:Nat)),((2:Int),(207:Nat)),((3:Int),(208:Nat))]),cJ u [g,i] 29,cJ t [vS (a.1),vI (a.2.1),vI (a.2.2.1),vI (a.2.2.2.1),vI (a.2.2.2.2.1),vI (a.2.2.2.2.2)] 64]) ?_ ?_
   ·refine aS<|aR<|dW h λf h=>aC (a_ Z Z (aT (aD.res 0 Z) Db) Z Z f) Z ?_;by_cases b:k=(0:Int)
    ·have h:=LS b h;refine aC (jT (cs:=[vI (1:Int),Value.func (.func 205) #[] #[]]) Z (aT (aD.res 0 Z) Db) Db (by rw[b];rfl) Z Z Z f) Z ?_;refine aH (aN.alloc (cs:=[vI (0:Int),Value.nilFunc]) Z Z) Z λI=>bF 0 (vs:=[vI (1:Int),Value.func (.func 205) #[] #[]]) Z Z Z Z Z Z<|aL<|aR<|bN Z<|dL 0 Z<|bN Z<|dL 3 Z<|bS Z<|aL ?_;refine d_ h Z (λh=>?_) λh=>?_
     ·refine aR<|bN Z<|dL 0 Z<|cM 3 Z<|cM 2 Z<|aA Z<|dZ h λA D h=>aH (uA (vs:=[Value.agg #[vS (a.1),vI (a.2.1),vI (a.2.2.1),vI (a.2.2.2.1),vI (a.2.2.2.2.1),vI (a.2.2.2.2.2)],Value.agg #[g,i],vI (m)]) (cs:=[]) abT Z (IU U g i y A D) Z (jP [0,1] Z) (λ_ _=>rfl)) Z λL=>eQ Z<|eQ Z<|aB Z<|aB Z<|aL<|aQ<|bG<|aI<|aI<|bG<|aI ?_;cases h;exact eD () Z Z (RV.tmp Z) (RV.tmp Z) .nil aG.nil
     refine dM<|jH ?_;exact bU () (()) h SF (bA.ix [1,2,3] Z Z) (aG.refl _ _)
    have h:=ifN b h;by_cases d:k=(1:Int)
    ·have h:=LS d h;refine aC (jT (cs:=[vI (2:Int),Value.func (.func 207) #[] #[]]) Z (aT (aD.res 0 Z) Db) Db (by rw[d];rfl) Z Z Z f) Z ?_;refine aH (aN.alloc (cs:=[vI (0:Int),Value.nilFunc]) Z Z) Z λJ=>bF 0 (vs:=[vI (2:Int),Value.func (.func 207) #[] #[]]) Z Z Z Z Z Z<|aL<|aR<|bN Z<|dL 0 Z<|bN Z<|dL 3 Z<|bS Z<|aL ?_;refine d_ h Z (λh=>?_) λh=>?_
     ·refine aR<|bN Z<|dL 0 Z<|cM 3 Z<|cM 2 Z<|aA Z<|dZ h λB E h=>aH (uA (vs:=[Value.agg #[vS (a.1),vI (a.2.1),vI (a.2.2.1),vI (a.2.2.2.1),vI (a.2.2.2.2.1),vI (a.2.2.2.2.2)],Value.agg #[g,i],vI (m)]) (cs:=[]) abV Z (IV U g i y B E) Z (jP [0,1] Z) (λ_ _=>rfl)) Z λM=>eQ Z<|eQ Z<|aB Z<|aB Z<|aL<|aQ<|bG<|aI<|aI<|bG<|aI ?_;cases h;exact eD () Z Z (RV.tmp Z) (RV.tmp Z) .nil aG.nil
     refine dM<|jH ?_;exact bU () (()) h SF (bA.ix [1,2,3] Z Z) (aG.refl _ _)
    have h:=ifN d h;have o:k=(2:Int):=by have q:=f;simp only[zAh,List.length_nil]at q;omega
    refine aC (jT (cs:=[vI (3:Int),Value.func (.func 208) #[] #[]]) Z (aT (aD.res 0 Z) Db) Db (by rw[o];rfl) Z Z Z f) Z ?_;refine aH (aN.alloc (cs:=[vI (0:Int),Value.nilFunc]) Z Z) Z λK=>bF 0 (vs:=[vI (3:Int),Value.func (.func 208) #[] #[]]) Z Z Z Z Z Z<|aL<|aR<|bN Z<|dL 0 Z<|bN Z<|dL 3 Z<|bS Z<|aL ?_;refine d_ h Z (λh=>?_) λh=>?_
    ·refine aR<|bN Z<|dL 0 Z<|cM 3 Z<|cM 2 Z<|aA Z<|dZ h λC F h=>aH (uA (vs:=[Value.agg #[vS (a.1),vI (a.2.1),vI (a.2.2.1),vI (a.2.2.2.1),vI (a.2.2.2.2.1),vI (a.2.2.2.2.2)],Value.agg #[g,i],vI (m)]) (cs:=[]) abW Z (IW U g i y C F) Z (jP [0,1] Z) (λ_ _=>rfl)) Z λN=>eQ Z<|eQ Z<|aB Z<|aB Z<|aL<|aQ<|bG<|aI<|aI<|bG<|aI ?_;cases h;exact eD () Z Z (RV.tmp Z) (RV.tmp Z) .nil aG.nil
    refine dM<|jH ?_;exact bU () (()) h SF (bA.ix [1,2,3] Z Z) (aG.refl _ _)
   intro j n h;unfold nU at h;refine aO<|cD Z<|aA Z<|aL ?_;exact tV (wI .i64 (k+(1:Int))) () h SF Z
  refine eS ?_;exact bU () (()) h SF .nil (aG.refl _ _)
 intro s G h;unfold AP at h;refine aR<|aB Z<|aB Z<|aL<|aQ ?_;cases h;exact eD () Z Z (RV.tmp Z) (RV.tmp Z) (bA.refl _) aG.nil
def zL  (a:Unit):Option (Int):=
 some (0:Int)
def qY (b:Int) (a:(Int)->Option (Int)) (c:Unit):Option (Int):=
 a (wI .i64 (b+(1:Int)))
def zM (b:Int) (a:(Int)->Option (Int)) (c:Bool):Option (Int):=
 if c=true then(some (9:Int))else(qY b a (()))
def oG (U:Nat) (c:jC) (e:cW) (a:Int) (b:(Int)->Option (Int)):Option (Int):=
 if a<(c.2.1.length:Int)then(ck (0<=a∧a<(c.2.1.length:Int)) (if((at' c.2.1 a).2.1)≠(1:Int)then(qY a b (()))else(Option.bind (kT U ((((at' c.2.1 a).1),((at' c.2.1 a).2.1),((at' c.2.1 a).2.2.1),((at' c.2.1 a).2.2.2.1),((at' c.2.1 a).2.2.2.2.1),((at' c.2.1 a).2.2.2.2.2))) ((e.1,e.2)) (0:Int)) λd=>(if d.2<d.1 then(zM a b (true))else(zM a b (decide ((4096:Int)<(wI .i64 ((wI .i64 (d.2 - d.1))+(1:Int))))))))))else(zL  (()))
def wV (U:Nat) (a:jC) (b:cW):Option (Int):=
 Option.bind (DF U ((a.1,a.2.1,a.2.2))) λc=>(if(!c)=true then(some (8:Int))else(Option.bind (jJ U ((b.1,b.2))) λd=>(if(!d)=true then(some (1:Int))else(bK (oG U a b) U (0:Int)))))
theorem abw:aV Tryz.prog 127:=Tryz.call127
theorem Nk (U:Nat) {b:jC} {n:cW} (g:Value)  (v:Value)  (i:Value)  (j:Value)  (y:iX) (r:Int) (h:wV U b n=some r):
  aW Tryz.prog 127 #[Value.agg #[vS (b.1),g,v],Value.agg #[i,j]] [Sl aP g b.2.1,Sl aJ v b.2.2,PF (Value.agg #[vS b.1,g,v]),Sl bX i n.1,S2 bD j y n.2] (λx:Unit=>vI (r)) (λx l=>l) (λ_ l=>l):=by
 refine aW.of Tryz.func127 Z Tryz.ntmps127 Z λc=>?_;refine aR<|aH (aN.box (cs:=[vS (b.1),g,v]) Z Z) Z λF=>aH (aN.box (cs:=[i,j]) Z Z) Z λm=>aB Z<|aL<|aK<|aR<|cM 1 Z<|dZ h λA C h=>aH (zBg O_ (NB U g v A C) Z (jP [0,1,2] Z)) Z λG=>aC (lV Z) Z<|aL ?_;refine tT h Z (λ_ h=>?_) λ_ h=>?_
 ·refine aR<|aB Z<|aL<|aQ<|aI ?_;cases h;exact oA Z
 refine cE<|aK<|aR<|cM 0 Z<|dZ h λB D h=>aH (zBg Tz (DO U i j y B D) Z (jP [3,4] Z)) Z λH=>aC (lV Z) Z<|aL ?_;refine tT h Z (λ_ h=>?_) λ_ h=>?_
 ·refine aR<|aB Z<|aL<|aQ<|aI ?_;cases h;exact oA Z
 refine cE<|aK<|dK (λe=>zL  e=some r) (λe o=>[]) (λe o=>[]) ?_ ?_
 ·refine aR<|bN Z<|dL 1 Z<|iF (aD.fact 0 Z) Z<|aA Z<|aL<|aS<|eB (oG U b n) (λa p=>[(3,vP m),(16,g),(17,vI (b.2.1.length:Int)),(18,vI (a))]) (λa p=>[cJ m [i,j] 29]) (0:Int) () h SF (bA.ix [0] Z Z) ?_;intro u a p h;refine aR<|cZ Z<|aL<|aK ?_;refine d_ h Z (λh=>?_) λh=>?_
  ·refine cE<|aK<|dK (λf=>qY a (bK (oG U b n) u) f=some r) (λf q=>[(3,vP m),(16,g),(17,vI (b.2.1.length:Int)),(18,vI (a))]) (λf q=>[cJ m [i,j] 29]) ?_ ?_
   ·refine aS<|aR<|dW h λt h=>aC (a_ Z Z (aD.fact 0 Z) Z Z t) Z<|aC (jT (cs:=[vS ((at' b.2.1 a).1),vI ((at' b.2.1 a).2.1),vI ((at' b.2.1 a).2.2.1),vI ((at' b.2.1 a).2.2.2.1),vI ((at' b.2.1 a).2.2.2.2.1),vI ((at' b.2.1 a).2.2.2.2.2)]) Z (aD.fact 0 Z) wG Z Z Z Z t) Z<|aH (aN.alloc (cs:=vD4) Z Z) Z λz=>bF 0 (vs:=[vS ((at' b.2.1 a).1),vI ((at' b.2.1 a).2.1),vI ((at' b.2.1 a).2.2.1),vI ((at' b.2.1 a).2.2.2.1),vI ((at' b.2.1 a).2.2.2.2.1),vI ((at' b.2.1 a).2.2.2.2.2)]) Z Z Z Z Z Z<|aL<|aK<|aR<|bN Z<|dL 0 Z<|jQ Z<|aL ?_;refine d_ h Z (λh=>?_) λh=>?_
    ·refine qC<|eZ<|wQ<|Cd ?_;exact bU () (()) h SF (bA.ix [1] Z Z) (aG.refl _ _)
    refine cE<|aR<|cM 0 Z<|cM 1 Z<|dZ h λk w h=>aH (zBg UO (Fj U i j y k w) Z (jP [3,4] Z)) Z λE=>aA Z<|eQ Z<|eQ Z<|aB Z<|aB Z<|aL<|aK<|dK (λd=>zM a (bK (oG U b n) u) d=some r) (λd s=>[(3,vP m),(16,g),(17,vI (b.2.1.length:Int)),(18,vI (a)),(40,vB (d))]) (λd s=>[cJ m [i,j] 29]) ?_ ?_
    ·refine aO<|aA Z<|aA Z<|cZ Z<|aA Z ?_;refine wN h Z (λ_ h=>?_) λ_ h=>?_
     ·refine aE Z<|aE Z<|aE Z<|aE Z<|aE Z<|dA Z<|aL ?_;exact bU (true) () h SF (bA.ix [1] Z Z) (aG.refl _ _)
     refine bZ Z<|bZ Z<|aM Z (lO Z Z) Z<|aM Z (yR Z Z) Z<|aM Z (uE Z Z) Z<|c_ Z<|aL ?_;exact bU (decide ((4096:Int)<(wI .i64 ((wI .i64 (k.2 - k.1))+(1:Int))))) () h SF (bA.ix [1] Z Z) (aG.refl _ _)
    intro d s h;refine tT h Z (λ_ h=>?_) λ_ h=>?_
    ·refine aR<|aB Z<|aL<|aQ<|bG<|aI<|aI<|bG<|aI ?_;cases h;exact oA Z
    refine dM<|jH ?_;exact eW () (()) h SF Z
   intro f q h;unfold qY at h;refine aO<|cD Z<|aA Z<|aL ?_;exact tV (wI .i64 (a+(1:Int))) () h SF Z
  refine eS ?_;exact bU () (()) h SF .nil (aG.refl _ _)
 intro e o h;unfold zL at h;refine aR<|aB Z<|aL<|aQ ?_;cases h;exact fW Z
def yA  (a:Unit):Option Bool:=
 some (true)
def yB (c:Int) (b:(Int)->Option Bool) (a:Bool):Option Bool:=
 if a=true then(some (false))else(b (wI .i64 (c+(1:Int))))
def pM (c:eY) (d:aX) (a:Int) (b:(Int)->Option Bool):Option Bool:=
 if a<(d.length:Int)then(ck (0<=a∧a<(d.length:Int)) (ck (0<=a∧a<(c.length:Int)) (if(at' d a)<((at' c a).1)then(yB a b (true))else(ck (0<=a∧a<(c.length:Int)) (yB a b (decide (((at' c a).2)<(at' d a))))))))else(yA  (()))
def zT (U:Nat) (a:eY) (b:aX):Option Bool:=
 if(b.length:Int)≠(a.length:Int)then(some (false))else(bK (pM a b) U (0:Int))
theorem abI:aV Tryz.prog 171:=Tryz.call171
theorem Mz (U:Nat) {k:eY} {d:aX} (n:Value)  (o:Value) (r:Bool) (h:zT U k d=some r):
  aW Tryz.prog 171 #[n,o] [Sl bD n k,Sl bX o d] (λx:Unit=>vB (r)) (λx l=>l) (λ_ l=>l):=by
 refine aW.of Tryz.func171 Z Tryz.ntmps171 Z λc=>?_;refine aR<|aB Z<|aL<|aK<|aR<|aA Z<|iF (aD.fact 1 Z) Z<|aA Z<|iF (aD.fact 0 Z) Z<|jQ Z<|aL ?_;refine d_ h Z (λh=>?_) λh=>?_
 ·refine aR<|aB Z<|aL<|aQ<|aI ?_;cases h;exact fW Z
 refine cE<|aK<|dK (λm=>yA  m=some r) (λm p=>[]) (λm p=>[]) ?_ ?_
 ·refine aR<|aA Z<|iF (aD.fact 1 Z) Z<|aA Z<|aL<|aS<|eB (pM k d) (λb q=>[(0,n),(12,o),(13,vI (d.length:Int)),(14,vI (b))]) (λb q=>[]) (0:Int) () h SF (bA.refl _) ?_;intro s b q h;refine aR<|cZ Z<|aL<|aK ?_;refine d_ h Z (λh=>?_) λh=>?_
  ·refine cE<|aK<|aS<|aR<|aA Z<|dW h λf h=>aC (a_ Z Z (aD.fact 1 Z) Z Z f) Z<|aC (bY Z (aD.fact 1 Z) Z Z Z eH f) Z<|aB Z<|aB Z<|aL<|aK<|dK (λa=>yB b (bK (pM k d) s) a=some r) (λa e=>[(0,n),(12,o),(13,vI (d.length:Int)),(14,vI (b)),(34,vB (a))]) (λa e=>[]) ?_ ?_
   ·refine aO<|aA Z<|aA Z<|aA Z<|dW h λg h=>aC (a_ Z Z (aD.fact 0 Z) Z Z g) Z ?_;refine aC (GA (i:=0) Z Z Z Z Z (by decide)) Z ?_;refine aC (e_ Z (aD.fact 0 Z) Z Z Z jS g) Z<|cZ Z<|aA Z ?_;refine wN h Z (λ_ h=>?_) λ_ h=>?_
    ·refine aE Z<|aE Z<|aE Z<|aE Z<|aE Z<|aE Z<|aE Z<|dA Z<|aL ?_;exact eW (true) () h SF Z
    refine bZ Z<|bZ Z<|bZ Z<|dW h λj h=>aM Z (a_ Z Z (aD.fact 0 Z) Z Z j) Z ?_;refine aM Z (GA (i:=1) Z Z Z Z Z (by decide)) Z ?_;refine aM Z (e_ Z (aD.fact 0 Z) Z Z Z Ez j) Z<|aM Z (uE Z Z) Z<|c_ Z<|aL ?_;exact eW (decide (((at' k b).2)<(at' d b))) () h SF Z
   intro a e h;refine tT h Z (λ_ h=>?_) λ_ h=>?_
   ·refine aR<|aB Z<|aL<|aQ<|bG<|aI<|aI<|bG<|aI ?_;cases h;exact fW Z
   refine dM<|jH<|aO<|cD Z<|aA Z<|aL ?_;exact tV (wI .i64 (b+(1:Int))) () h SF Z
  refine eS ?_;exact eW () (()) h SF Z
 intro m p h;unfold yA at h;refine aR<|aB Z<|aL<|aQ ?_;cases h;exact fW Z
def vR  (a:Unit):Option Bool:=
 some (true)
def rK (U:Nat) (c:h_) (e:bO) (a:Int) (b:(Int)->Option Bool):Option Bool:=
 if a<(c.length:Int)then(ck (0<=a∧a<(c.length:Int)) (ck (0<=a∧a<(e.length:Int)) (Option.bind (zT U (at' c a) (at' e a)) λd=>(if(!d)=true then(some (false))else(b (wI .i64 (a+(1:Int))))))))else(vR  (()))
def x_ (U:Nat) (a:h_) (b:bO):Option Bool:=
 if(b.length:Int)≠(a.length:Int)then(some (false))else(bK (rK U a b) U (0:Int))
theorem abx:aV Tryz.prog 128:=Tryz.call128
theorem Kx (U:Nat) {p0:h_} {p1:bO} (v0:Value)  (z1:iX)  (v2:Value)  (z3:lU) (r:Bool) (h:x_ U p0 p1=some r):
  aW Tryz.prog 128 #[v0,v2] [S2 bD v0 z1 p0,S2 bX v2 z3 p1] (λx:Unit=>vB (r)) (λx l=>l) (λ_ l=>l):=by
 refine aW.of Tryz.func128 Z Tryz.ntmps128 Z λc=>?_;refine aR<|aB Z<|aL<|aK<|aR<|aA Z<|aC (gM Z (aD.fact 1 Z) Z) Z<|aA Z<|aC (gM Z (aD.fact 0 Z) Z) Z<|jQ Z<|aL ?_;refine d_ h Z (λh=>?_) λh=>?_
 ·refine aR<|aB Z<|aL<|aQ<|aI ?_;cases h;exact fW Z
 refine cE<|aK<|dK (λa2=>vR  a2=some r) (λa2 b3=>[]) (λa2 b3=>[]) ?_ ?_
 ·refine aR<|aA Z<|aC (gM Z (aD.fact 0 Z) Z) Z<|aA Z<|aL<|aS<|eB (rK U p0 p1) (λa6 b7=>[(1,v2),(12,v0),(13,vI (p0.length:Int)),(14,vI (a6))]) (λa6 b7=>[]) (0:Int) () h SF (bA.refl _) ?_;intro k8 a6 b7 h;refine aR<|cZ Z<|aL<|aK ?_;refine d_ h Z (λh=>?_) λh=>?_
  ·refine cE<|aK<|aS<|aR<|aA Z<|dW h λj10 h=>aC (cY Z Z (aD.fact 0 Z) Z Z j10) Z<|aC (cL Z (aD.fact 0 Z) Z Z j10) Z<|aB Z<|aB Z<|aL<|aR<|aA Z<|aA Z<|aA Z<|dW h λj11 h=>aC (cY Z Z (aD.fact 1 Z) Z Z j11) Z<|aC (cL Z (aD.fact 1 Z) Z Z j11) Z<|dZ h λr12 w13 h=>aH (zBg abI (Mz U ((at' z1 a6).1) ((at' z3 a6).1) r12 w13) Z (aG.cons (zBi (aD.fact 0 Z) j10.1 j10.2) (aG.cons (zBi (aD.fact 1 Z) j11.1 j11.2) .nil))) Z λx14=>aC (lV Z) Z<|aL ?_;refine tT h Z (λ_ h=>?_) λ_ h=>?_
   ·refine aR<|aB Z<|aL<|aQ<|bG<|aI<|aI<|bG<|aI ?_;cases h;exact fW Z
   refine dM<|jH<|aO<|cD Z<|aA Z<|aL ?_;exact tV (wI .i64 (a6+(1:Int))) () h SF Z
  refine eS ?_;exact eW () (()) h SF Z
 intro a2 b3 h;unfold vR at h;refine aR<|aB Z<|aL<|aQ ?_;cases h;exact fW Z
def xT  (a:h_):Option (h_):=
 some (a)
def xU (b:Int×h_) (a:(Int×h_)->Option (h_)) (c:h_):Option (h_):=
 a ((wI .i64 (b.1+(1:Int))),c)
def pJ (U:Nat) (d:jC) (g:cW) (b:Int×h_) (e:(Int×h_)->Option (h_)) (a:Int×h_) (f:(Int×h_)->Option (h_)):Option (h_):=
 if a.1<(d.2.1.length:Int)then(ck (0<=a.1∧a.1<(d.2.1.length:Int)) (ck (0<=b.1∧b.1<(a.2.length:Int)) (ck (0<=b.1∧b.1<(a.2.length:Int)) (Option.bind (kT U ((((at' d.2.1 a.1).1),((at' d.2.1 a.1).2.1),((at' d.2.1 a.1).2.2.1),((at' d.2.1 a.1).2.2.2.1),((at' d.2.1 a.1).2.2.2.2.1),((at' d.2.1 a.1).2.2.2.2.2))) ((g.1,g.2)) b.1) λc=>(ck (0<=a.1∧a.1<((at' a.2 b.1).length:Int)) (ck (0<=a.1∧a.1<((at' (List.set a.2 (Int.toNat b.1) (List.set (at' a.2 b.1) (Int.toNat a.1) (c.1,((at' (at' a.2 b.1) a.1).2)))) b.1).length:Int)) (f ((wI .i64 (a.1+(1:Int))),(List.set (List.set a.2 (Int.toNat b.1) (List.set (at' a.2 b.1) (Int.toNat a.1) (c.1,((at' (at' a.2 b.1) a.1).2)))) (Int.toNat b.1) (List.set (at' (List.set a.2 (Int.toNat b.1) (List.set (at' a.2 b.1) (Int.toNat a.1) (c.1,((at' (at' a.2 b.1) a.1).2)))) b.1) (Int.toNat a.1) (((at' (at' (List.set a.2 (Int.toNat b.1) (List.set (at' a.2 b.1) (Int.toNat a.1) (c.1,((at' (at' a.2 b.1) a.1).2)))) b.1) a.1).1),c.2)))))))))))else(xU b e (a.2))
def m_ (U:Nat) (c:jC) (d:cW) (a:Int×h_) (b:(Int×h_)->Option (h_)):Option (h_):=
 if a.1<((List.replicate (Int.toNat (List.length d.1:Int)) ([]:eY)).length:Int)then(ck (0<=(c.2.1.length:Int)∧(c.2.1.length:Int)<=1099511627) (ck (0<=a.1∧a.1<(a.2.length:Int)) (bK (pJ U c d a b) U ((0:Int),(List.set a.2 (Int.toNat a.1) (List.replicate (Int.toNat (c.2.1.length:Int)) ((0:Int),(0:Int))))))))else(xT  (a.2))
def oM (U:Nat) (b:jC) (a:cW):Option (h_):=
 ck (0<=(a.1.length:Int)∧(a.1.length:Int)<=1099511627) (bK (m_ U b a) U ((0:Int),(List.replicate (Int.toNat (a.1.length:Int)) ([]:eY))))
theorem UK:aV Tryz.prog 129:=Tryz.call129
theorem Gk (U:Nat) {d:jC} {q:cW} (v:Value)  (y:Value)  (A:Value)  (C:Value)  (z4:iX) (r:h_) (h:oM U d q=some r):
  aW Tryz.prog 129 #[Value.agg #[vS (d.1),v,y],Value.agg #[A,C]] [Sl aP v d.2.1,Sl aJ y d.2.2,PF (Value.agg #[vS d.1,v,y]),Sl bX A q.1,S2 bD C z4 q.2] (λx:Fu=>x.1) (λx l=>Ar fE.raw x.1 x.2::k_ dO x.2 r::l) (λ_ l=>l):=by
 refine aW.of Tryz.func129 Z Tryz.ntmps129 Z λc=>?_;refine aR<|aH (aN.box (cs:=[vS (d.1),v,y]) Z Z) Z λD=>aH (aN.box (cs:=[A,C]) Z Z) Z λE=>aB Z<|aL<|aR<|bN Z<|dL 0 Z<|iF (aD.fact 3 Z) Z<|dW h λj3 h=>gF (BB dO (Int.toNat (q.1.length:Int)))<|aH (r_ (e:=fE.raw) (lL) Z Z Z Z j3 Z Z Z) Z λu=>aB Z<|aL<|aK<|CM (B:=gV) (λF=>xT  F=some r) (λF H=>[(5,u)]) (λF H=>[Ar fE.raw u H,k_ dO H F]) ?_ ?_
 ·refine aR<|aA Z<|aC (gM Z (bB (i:=0) (j:=1) Z Z cG) Z) Z<|aA Z<|aL<|aS<|eB (B:=gV) (m_ U d q) (λb m=>[(2,vP D),(3,vP E),(5,u),(14,vI ((List.replicate (Int.toNat (List.length q.1:Int)) ([]:eY)).length:Int)),(15,vI (b.1))]) (λb m=>[Ar fE.raw u m,k_ dO m b.2,cJ E [A,C] 29,cJ D [vS (d.1),v,y] 36]) ((0:Int),(List.replicate (Int.toNat (q.1.length:Int)) ([]:eY))) (List.replicate (Int.toNat (q.1.length:Int)) (lL)) h SF (bA.refl _) ?_;intro S b m h;refine aR<|cZ Z<|aL<|aK ?_;refine d_ h Z (λh=>?_) λh=>?_
  ·refine cE<|aK<|CM (B:=gV) (λp=>xU b (bK (m_ U d q) S) p=some r) (λp s=>[(2,vP D),(3,vP E),(5,u),(14,vI ((List.replicate (Int.toNat (List.length q.1:Int)) ([]:eY)).length:Int)),(15,vI (b.1))]) (λp s=>[Ar fE.raw u s,k_ dO s p,cJ E [A,C] 29,cJ D [vS (d.1),v,y] 36]) ?_ ?_
   ·refine aS<|aR<|aA Z<|aB Z<|aL<|aR<|aA Z<|aA Z<|bN Z<|dL 3 Z<|iF (aD.fact 0 Z) Z<|dW h λT h=>aH (r_ (e:=dO) (((0:Int),(0:Int))) Z Z Z Z T Z Z Z) Z λw=>dW h λt h=>aC (cY Z Z (bB (i:=1) (j:=2) Z Z cG) Z Z t) Z<|bE (Know.one ((aT (aD.res 0 Z) cG))) λO=>gF (yQ (k:=b.1) 2 0 Z Z Z t) ?_;refine qD 0 1 ⟨t.1,by first|exact t.2|simpa using t.2⟩ Z Z Z Z Z (by simp) O Z ?_;refine aL<|aR<|bN Z<|dL 3 Z<|iF (aD.fact 0 Z) Z<|aA Z<|aL<|aS<|eB (pJ U d q b (bK (m_ U d q) S)) (λa G=>[(2,vP D),(3,vP E),(5,u),(6,vI (b.1)),(14,vI ((List.replicate (Int.toNat (List.length q.1:Int)) ([]:eY)).length:Int)),(15,vI (b.1)),(26,v),(27,vI (d.2.1.length:Int)),(28,vI (a.1))]) (λa G=>[Ar fE.raw u (List.set m (Int.toNat b.1) w),k_ dO (List.set m (Int.toNat b.1) w) a.2,cJ E [A,C] 29,cJ D [vS (d.1),v,y] 36]) ((0:Int),(List.set b.2 (Int.toNat b.1) (List.replicate (Int.toNat (d.2.1.length:Int)) ((0:Int),(0:Int))))) () h SF (bA.refl _) ?_;intro ac a G h;refine aR<|cZ Z<|aL<|aK ?_;refine d_ h Z (λh=>?_) λh=>?_
    ·refine cE<|aK<|aS<|aR<|aA Z<|dW h λP h=>aC (a_ Z Z (aD.fact 0 Z) Z Z P) Z<|aC (jT (cs:=[vS ((at' d.2.1 a.1).1),vI ((at' d.2.1 a.1).2.1),vI ((at' d.2.1 a.1).2.2.1),vI ((at' d.2.1 a.1).2.2.2.1),vI ((at' d.2.1 a.1).2.2.2.2.1),vI ((at' d.2.1 a.1).2.2.2.2.2)]) Z (aD.fact 0 Z) wG Z Z Z Z P) Z<|aH (aN.alloc (cs:=vD4) Z Z) Z λab=>aB Z<|bF 0 (vs:=[vS ((at' d.2.1 a.1).1),vI ((at' d.2.1 a.1).2.1),vI ((at' d.2.1 a.1).2.2.1),vI ((at' d.2.1 a.1).2.2.2.1),vI ((at' d.2.1 a.1).2.2.2.2.1),vI ((at' d.2.1 a.1).2.2.2.2.2)]) Z Z Z Z Z Z<|aL ?_;refine JR.start [0,0,3,7,0,0,0,96,224,0,0,0,0,7168,15360,31744,31744,31,196095,458239,992,2097151,4194303] 21 mixedOrders (by decide +kernel) ?_;refine zBj (by exact rfl) ?_;refine aY Z<|aY Z<|dW h λn h=>gG (eT 2 Z) λI=>?_;refine bM Z (bA.cons 1 Z .nil) .nil (lD 0 Z Z Z Z Z n.1 (by have V:=n.2;have W:=I;(try simp only[zA2]at V);(try simp only[zA2]at W);(try simp only[zA2]);omega)) aU.z ?_;refine gG (eT 2 Z) λJ=>bM Z (bA.cons 1 Z .nil) .nil (qV 0 Z Z J Z Z n) aU.z<|aY Z<|aY Z<|aY Z<|dW h λg h=>gG (eT 2 Z) λK=>?_;refine bM Z (bA.cons 1 Z .nil) .nil (lD 0 Z Z Z Z Z g.1 (by have V:=g.2;have W:=K;(try simp only[zA2]at V);(try simp only[zA2]at W);(try simp only[zA2]);omega)) aU.z ?_;refine gG (eT 2 Z) λL=>bM Z (bA.cons 1 Z .nil) .nil (qV 0 Z Z L Z Z g) aU.z<|aY Z<|gK 0 Z<|gK 3 Z<|aY Z<|dZ h λf X h=>zBh Z Z Z (zBg UO (Fj U A C z4 f X) Z (jP [3,4] Z)) Z (λY=>(kG [([1],[]),([1],[]),([1],[]),([1],[])] Z)) λY=>iY Z (oC Z)<|iY Z (AL Z Z)<|iY Z (AL Z Z)<|dW h λQ h=>gG (Know.len (aD.row (j:=2) Z cG n.1 n.2)) λM=>iY Z (QW Z Z M Z Z Q) ?_;refine iY Z (GA (i:=0) Z Z Z Z Z (by decide)) ?_;refine FG Z Z Z (FI (us:=[vI (f.1)]) (o:=0) (k:=b.1) 2 ((f.1,((at' (at' a.2 b.1) a.1).2))) ⟨n.1,by first|exact n.2|simpa using n.2⟩ Q Z Z Z Z Z Z Z Z Z Z) (λaa=>(kG [] Z)) λaa=>dW h λR h=>gG (Know.len (aD.row (j:=2) Z cG g.1 (by first|exact g.2|simpa using g.2))) λN=>?_;refine iY Z (QW Z Z N Z Z R)<|bP 21 Z Z ?_;refine aC (GA (i:=1) Z Z Z Z Z (by decide)) Z ?_;refine Ux (FI (us:=[vI (f.2)]) (o:=1) (k:=b.1) 2 ((((at' (at' (List.set a.2 (Int.toNat b.1) (List.set (at' a.2 b.1) (Int.toNat a.1) (f.1,((at' (at' a.2 b.1) a.1).2)))) b.1) a.1).1),f.2)) ⟨g.1,by first|exact g.2|simpa using g.2⟩ R Z Z Z Z Z Z Z Z Z Z) λad=>eN<|jH<|aO<|cD Z<|aA Z<|aL ?_;exact nC ((wI .i64 (a.1+(1:Int))),(List.set (List.set a.2 (Int.toNat b.1) (List.set (at' a.2 b.1) (Int.toNat a.1) (f.1,((at' (at' a.2 b.1) a.1).2)))) (Int.toNat b.1) (List.set (at' (List.set a.2 (Int.toNat b.1) (List.set (at' a.2 b.1) (Int.toNat a.1) (f.1,((at' (at' a.2 b.1) a.1).2)))) b.1) (Int.toNat a.1) (((at' (at' (List.set a.2 (Int.toNat b.1) (List.set (at' a.2 b.1) (Int.toNat a.1) (f.1,((at' (at' a.2 b.1) a.1).2)))) b.1) a.1).1),f.2)))) () h SF (bA.ix [1,2,3,4] Z Z) (aG.refl _ _)
    refine qC<|eZ<|eZ<|wQ<|jH ?_;exact eW (a.2) (List.set m (Int.toNat b.1) w) h SF Z
   intro p s h;unfold xU at h;refine aO<|cD Z<|aA Z<|aL ?_;exact tV ((wI .i64 (b.1+(1:Int))),p) (s) h SF Z
  refine eS ?_;exact bU (b.2) (m) h SF (bA.ix [0,1] Z Z) (aG.refl _ _)
 intro F H h;unfold xT at h;refine aR<|aA Z<|aB Z<|aL<|aQ ?_;cases h;exact gE (u,H) Z Z (RV.tmp Z) (bA.refl _) aG.nil
def rE (U:Nat) (a:jC) (b:cW) (e:bO):Option (Int):=
 Option.bind (wV U ((a.1,a.2.1,a.2.2)) ((b.1,b.2))) λd=>(if d≠(0:Int)then(some (d))else(Option.bind (oM U ((a.1,a.2.1,a.2.2)) ((b.1,b.2))) λf=>(Option.bind (x_ U f e) λc=>(if(!c)=true then(some (10:Int))else(some (0:Int))))))
theorem aeM:aV Tryz.prog 86:=Tryz.call86
theorem My (U:Nat) {a:jC} {g:cW} {p:bO} (b:Value)  (d:Value)  (e:Value)  (f:Value)  (o:iX)  (m:Value)  (t:lU) (r:Int) (h:rE U a g p=some r):
  aW Tryz.prog 86 #[Value.agg #[vS (a.1),b,d],Value.agg #[e,f],m] [Sl aP b a.2.1,Sl aJ d a.2.2,PF (Value.agg #[vS a.1,b,d]),Sl bX e g.1,S2 bD f o g.2,S2 bX m t p] (λx:Unit=>vI (r)) (λx l=>l) (λ_ l=>l):=by
 refine aW.of Tryz.func86 Z Tryz.ntmps86 Z λc=>?_;refine aR<|aH (aN.box (cs:=[vS (a.1),b,d]) Z Z) Z λz=>aH (aN.box (cs:=[e,f]) Z Z) Z λA=>aB Z<|aL<|aK<|aR<|cM 1 Z<|cM 0 Z<|dZ h λu v h=>aH (zBg abw (Nk U b d e f o u v) Z (jP [0,1,2,3,4] Z)) Z λB=>aB Z<|aL<|aR<|aA Z<|jQ Z<|aL ?_;refine d_ h Z (λh=>?_) λh=>?_
 ·refine aR<|aA Z<|aB Z<|aL<|aQ<|aI ?_;cases h;exact oA Z
 refine cE<|aK<|aR<|cM 1 Z<|cM 0 Z<|dZ h λq w h=>aH (zBg UK (Gk U b d e f o q w) Z (jP [0,1,2,3,4] Z)) Z λs=>aA Z<|dZ h λk n h=>aH (zBg abx (Kx U s.1 (List.zip s.2 q) m t k n) Z (aG.cons (bB (i:=0) (j:=1) Z Z cG) (jP [5] Z))) Z λy=>aC (lV Z) Z<|aL ?_;refine tT h Z (λ_ h=>?_) λ_ h=>?_
 ·refine aR<|aB Z<|aL<|aQ<|aI ?_;cases h;exact oA Z
 refine cE<|aR<|aB Z<|aL<|aQ ?_;cases h;exact oA Z
def zZ  (a:bO):Option bO:=
 some (a)
def uN (p0:bO) (a11:Int×bO) (ag10:(Int×bO)->Option bO):Option bO:=
 if a11.1<(p0.length:Int)then(ck (0<=a11.1∧a11.1<(p0.length:Int)) (ck ((List.length ([]:aX):Int)+((at' p0 a11.1).length:Int)<=1099511627) (ck (0<=a11.1∧a11.1<(a11.2.length:Int)) (ag10 ((wI .i64 (a11.1+(1:Int))),(List.set a11.2 (Int.toNat a11.1) (([]:aX)++(at' p0 a11.1))))))))else(zZ  (a11.2))
def wW (U:Nat) (a:bO):Option bO:=
 ck (0<=(a.length:Int)∧(a.length:Int)<=1099511627) (bK (uN a) U ((0:Int),(List.replicate (Int.toNat (a.length:Int)) ([]:aX))))
theorem UL:aV Tryz.prog 131:=Tryz.call131
theorem Hx (U:Nat) {g:bO} (t:Value)  (w:lU) (r:bO) (h:wW U g=some r):
  aW Tryz.prog 131 #[t] [S2 bX t w g] (λx:Fu=>x.1) (λx l=>Ar fE.raw x.1 x.2::k_ cS x.2 r::l) (λ_ l=>l):=by
 refine aW.of Tryz.func131 Z Tryz.ntmps131 Z λc=>?_;refine aR<|aB Z<|aL<|aR<|aA Z<|aC (gM Z (aD.fact 0 Z) Z) Z<|dW h λu h=>gF (BB cS (Int.toNat (g.length:Int)))<|aH (r_ (e:=fE.raw) (lL) Z Z Z Z u Z Z Z) Z λp=>aB Z<|aL<|aK<|CM (B:=gV) (λm=>zZ  m=some r) (λm n=>[(3,p)]) (λm n=>[Ar fE.raw p n,k_ cS n m]) ?_ ?_
 ·refine aR<|aA Z<|aC (gM Z (aD.fact 0 Z) Z) Z<|aA Z<|aL<|aS<|eB (B:=gV) (uN g) (λa b=>[(3,p),(9,t),(10,vI (g.length:Int)),(11,vI (a.1))]) (λa b=>[Ar fE.raw p b,k_ cS b a.2]) ((0:Int),(List.replicate (Int.toNat (g.length:Int)) ([]:aX))) (List.replicate (Int.toNat (g.length:Int)) (lL)) h SF (bA.refl _) ?_;intro v a b h;refine aR<|cZ Z<|aL<|aK ?_;refine d_ h Z (λh=>?_) λh=>?_
  ·refine cE<|aK<|aS<|aR<|aA Z<|dW h λf h=>aC (cY Z Z (aD.fact 0 Z) Z Z f) Z<|aC (cL Z (aD.fact 0 Z) Z Z f) Z<|aB Z<|aB Z<|aL<|aO<|aA Z<|aA Z<|aA Z<|gF (cK cS)<|dW h λq h=>aH (bH 0 dD Z Z Z (zBi (aD.fact 0 Z) f.1 f.2) Z Z Z Z q Z) Z λs=>dW h λd h=>aC (cY Z Z (bB (i:=1) (j:=2) Z Z dD) Z Z d) Z<|bE (Know.one ((aT (aD.res 0 Z) dD))) λo=>gF (yQ (k:=a.1) 2 0 Z Z Z d) ?_;refine qD 0 1 ⟨d.1,by first|exact d.2|simpa using d.2⟩ Z Z Z Z Z (by simp) o Z ?_;refine eN<|jH<|aO<|cD Z<|aA Z<|aL ?_;exact tV ((wI .i64 (a.1+(1:Int))),(List.set a.2 (Int.toNat a.1) (([]:aX)++(at' g a.1)))) (List.set b (Int.toNat a.1) s) h SF Z
  refine eS ?_;exact eW (a.2) (b) h SF Z
 intro m n h;unfold zZ at h;refine aR<|aA Z<|aB Z<|aL<|aQ ?_;cases h;exact gE (p,n) Z Z (RV.tmp Z) (bA.refl _) aG.nil
end Go.Proofs.YtahgemjmgopleaaGreatDoor
namespace Go.Proofs.YtahgemjmgopleaaGreatDoor
open Go Go.Sx
abbrev Dr:=ByteArray×(List Jh)×(List yU)
structure kK (g:GR) (vars:List Jh):Prop where
 len:vars.length<=20
 small:∀x,x<vars.length->Cu (at' vars (x:Int))
 kind:∀x,x<vars.length->(at' vars (x:Int)).2.1=1∨(at' vars (x:Int)).2.1=2∨(at' vars (x:Int)).2.1=3
 range:∀x,x<vars.length->(at' vars (x:Int)).2.1=1 -> -100000<=lo g (at' vars (x:Int)) 0∧lo g (at' vars (x:Int)) 0<=hi g (at' vars (x:Int)) 0∧hi g (at' vars (x:Int)) 0 - lo g (at' vars (x:Int)) 0+1<=4096
theorem afu {g:GR} (a:VG g):Ck 1000 g.1=some (kW g g.1.length):=by
 have d:=a.n24;have b:=a.len;have h:=a.n1;have f:0<=at' g.1 ((0:Nat):Int):=(a.node 0 (by omega)).id.1;unfold Ck;rw[if_neg (by omega),cO (by omega)];have:=cR (step:=xO g.1) (K:=some (kW g g.1.length)) (g.1.length - 1) (λk=>(kW g (k+1),((k+1:Nat):Int))) (λk c i=>by
  unfold xO;dsimp only;rw[if_pos (by omega),cO (by omega),dH (by omega)];rfl) (λc=>by
  unfold xO Bv;dsimp only;rw[if_neg (by omega),show g.1.length - 1+1=g.1.length by omega]) 1000 (by omega)
 have e:kW g (0+1)=at' g.1 (0:Int):=by
  show max (kW g 0) (at' g.1 ((0:Nat):Int))=_;simp only[kW];have:at' g.1 ((0:Nat):Int)=at' g.1 (0:Int):=rfl;omega
 rw[e]at this;exact this
theorem NQ {g:GR} (c:VG g) {x:Jh} (o:Cu x) (n:x.2.1=1∨x.2.1=2∨x.2.1=3) {v:Nat} (p:v<g.2.length):kT 1000 x g (v:Int)=some (lo g x v,hi g x v):=by
 obtain⟨⟨B,C⟩,⟨r,s⟩,t,u⟩:=o;have l:=c.n24;have d:=c.len;have e:=IF c g.1.length (by omega);have w:0<=x.2.2.2.2.1*(g.1.length:Int):=Int.mul_nonneg r (by omega);have y:x.2.2.2.2.1*(g.1.length:Int)<=100000*24:=Int.mul_le_mul s (by omega) (by omega) (by omega);have z:0<=x.2.2.2.2.2*kW g g.1.length:=Int.mul_nonneg t e.1;have A:x.2.2.2.2.2*kW g g.1.length<=100000*255:=Int.mul_le_mul u e.2 e.1 (by omega);have i:pY 1000 x g (v:Int)=some (x.2.2.1,x.2.2.2.1+x.2.2.2.2.1*(g.2.length:Int)+x.2.2.2.2.2*kW g g.1.length):=by
  unfold pY;rw[aZ (afu c),wr (x:=x.2.2.2.2.1*_) (by omega) (by omega),wr (x:=x.2.2.2.2.2*_) (by omega) (by omega),wr (x:=x.2.2.2.1+_) (by omega) (by omega),wr (by omega) (by omega),d]
 have j:pZ 1000 x g (v:Int)=some (-1,((row g v).length:Int) - 1):=by
  have k:=(c.node v p).deg;unfold pZ;rw[cO (by omega)];show some ((-1:Int),wI .i64 (((row g v).length:Int) - 1))=_;rw[wr (by omega) (by omega)]
 have q:∀(f:Nat) (a:Int),bK (fR 1000 x g (v:Int)) (f+1) a=fR 1000 x g (v:Int) a (bK (fR 1000 x g (v:Int)) f):=λf a=>rfl;have b:∀(f:Nat) (a:Int),a=0∨a=1∨a=2->bK (fR 1000 x g (v:Int)) (f+1) a=if a=0 then(if 1=x.2.1 then pY 1000 x g (v:Int)else bK (fR 1000 x g (v:Int)) f 1)else if a=1 then(if 2=x.2.1 then tK 1000 x g (v:Int)else bK (fR 1000 x g (v:Int)) f 2)else(if 3=x.2.1 then pZ 1000 x g (v:Int)else bK (fR 1000 x g (v:Int)) f 3):=by
  intro f a m;rw[q];generalize bK (fR 1000 x g (v:Int)) f=G;unfold fR nU;rcases m with rfl|rfl|rfl
  ·rw[if_pos (by decide),cO (by decide),if_pos Z,if_pos Z];split
   ·rw[i];rfl
   ·rfl
  ·rw[if_pos (by decide),cO (by decide),if_neg (show¬(1:Int)=0 by decide),if_pos Z,if_neg (show¬(1:Int)=0 by decide),if_pos Z];split
   ·rfl
   ·rfl
  ·rw[if_pos (by decide),cO (by decide),if_neg (show¬(2:Int)=0 by decide),if_neg (show¬(2:Int)=1 by decide),if_neg (show¬(2:Int)=0 by decide),if_neg (show¬(2:Int)=1 by decide)];split
   ·rw[j];rfl
   ·rfl
 unfold kT lo hi;rcases n with h|h|h
 ·rw[b 999 0 (.inl Z),if_pos Z,if_pos h.symm,i,h,if_neg (by decide),if_neg (by decide),if_neg (by decide),if_neg (by decide)]
 ·rw[b 999 0 (.inl Z),if_pos Z,if_neg (by omega),b 998 1 (.inr (.inl Z)),if_neg (by decide),if_pos Z,if_pos h.symm,h,if_pos Z,if_pos Z];rfl
 ·rw[b 999 0 (.inl Z),if_pos Z,if_neg (by omega),b 998 1 (.inr (.inl Z)),if_neg (by decide),if_pos Z,if_neg (by omega),b 997 2 (.inr (.inr Z)),if_neg (by decide),if_neg (by decide),if_pos h.symm,j,h,if_neg (by decide),if_pos Z,if_neg (by decide),if_pos Z]
def zI (g:GR) (a:List Jh) (v x:Nat):eL:=(lo g (at' a (x:Int)) v,hi g (at' a (x:Int)) v)
def He (g:GR) (a:List Jh) (v:Nat):eY:=(List.range a.length).map (zI g a v)
def Fc (g:GR) (a:List Jh):h_:=(List.range g.2.length).map (He g a)
theorem El {a:Type} [Inhabited a] (f:Nat->a) {n k:Nat} (h:k<n):at' ((List.range n).map f) (k:Int)=f k:=by
 rw[gN (by simpa using h)];simp
theorem Bc {a:Type} (f:Nat->a) (z:a) (n k:Nat) (h:k<n):((List.range k).map f++List.replicate (n - k) z).set k (f k)=(List.range (k+1)).map f++List.replicate (n - (k+1)) z:=by
 rw[show n - k=(n - (k+1))+1 by omega,List.replicate_succ,List.set_append_right _ _ (by simp),zB8];simp
theorem Sm {g:GR} (m:VG g) {p:Dr} (n:kK g p.2.1):oM 1000 p g=some (Fc g p.2.1):=by
 have s:=m.n24;have d:=m.len;have w:=n.len;let a:=p.2.1;let Q:Nat->h_:=λk=>(List.range k).map (He g a)++List.replicate (g.2.length - k) [];have c:∀k,k<=g.2.length->(Q k).length=g.2.length:=λk f=>by simp[Q];omega
 let R:Nat->Nat->eY:=λk j=>(List.range j).map (zI g a k)++List.replicate (a.length - j) (0,0);have l:∀k j,j<=a.length->(R k j).length=a.length:=λk j b=>by simp[R];omega
 unfold oM;rw[cO (by omega)];rw[show List.replicate (Int.toNat (g.1.length:Int)) ([]:eY)=Q 0 by simp[Q,d]];refine cR (step:=m_ 1000 p g) (K:=some (Fc g a)) g.2.length (λk=>((k:Int),Q k)) (λk e f=> ?_) (λe=> ?_) 1000 (by omega)
 ·unfold m_;dsimp only;rw[if_pos (by simp;omega),cO (by omega),cO (by rw[c k (by omega)];omega)];refine Eq.trans (?_:_=bK (pJ 1000 p g ((k:Int),Q k) e) 1000 ((0:Int),(Q k).set k (R k 0))) ?_
  ·rw[zAe,zAe];simp[R,a]
  refine cR (step:=pJ 1000 p g ((k:Int),Q k) e) (K:=e (((k+1:Nat):Int),Q (k+1))) a.length (λj=>((j:Int),(Q k).set k (R k j))) (λj h b=> ?_) (λh=> ?_) 1000 (by show p.2.1.length<1000;omega)
  ·have u:j<p.2.1.length:=b;have t:=NQ m (n.small j b) (n.kind j b) f;have v:k<(Q k).length:=by rw[c k (by omega)];exact f
   have o:∀X:eY,at' ((Q k).set k X) (k:Int)=X:=λX=>by rw[AN _ _ _ _ v,if_pos Z]
   have i:j<(R k j).length:=by rw[l k j (by omega)];exact b
   unfold pJ;dsimp only;rw[if_pos (by omega),cO (by omega),cO (by simp only[zA2];omega),cO (by simp only[zA2];omega),aZ (show kT 1000 _ g (k:Int)=_ from t),zAe,zAe];simp only[o,List.set_set];rw[cO (by omega),cO (by simp only[zA2];omega),dH (by omega)];have:(R k j).set j (lo g (at' p.2.1 (j:Int)) k,hi g (at' p.2.1 (j:Int)) k)=R k (j+1):=Bc (zI g a k) (0,0) a.length j b;rw[AN _ _ _ _ i,if_pos Z];dsimp only;rw[this]
  ·unfold pJ xU;dsimp only;rw[if_neg (show¬((a.length:Nat):Int)<(p.2.1.length:Int)from Int.lt_irrefl _),dH (by omega)];have q:R k a.length=He g a k:=by simp[R,He]
   have r:(Q k).set k (He g a k)=Q (k+1):=Bc (He g a) [] g.2.length k f;rw[q,r]
 ·unfold m_ xT;dsimp only;rw[if_neg (by simp;omega)];simp[Q,Fc]
theorem acv {g:GR} (c:VG g) {p:Dr} (b:kK g p.2.1):wV 1000 p g=some 0:=by
 have i:=c.n1;have h:=b.len;unfold wV;rw[aZ (show DF 1000 _=some true from rfl),if_neg (by decide),aZ (show jJ 1000 g=some true from(Xs g).1 c),if_neg (by decide)];refine cR (step:=oG 1000 p g) (K:=some 0) p.2.1.length (λk=>(k:Int)) (λk e d=> ?_) (λe=> ?_) 1000 (by omega)
 ·unfold oG qY zM qY;rw[if_pos (by omega),cO (by omega),dH (by omega)];by_cases a:(at' p.2.1 (k:Int)).2.1=1
  ·obtain⟨j,l,m⟩:=b.range k d a;have f:=NQ c (b.small k d) (b.kind k d) (v:=0) (by omega);rw[if_neg (by simpa using a),aZ (show kT 1000 _ g (0:Int)=_ from f)];dsimp only;rw[if_neg (by omega),wr (x:=hi g (at' p.2.1 (k:Int)) 0 - lo g (at' p.2.1 (k:Int)) 0) (by omega) (by omega),wr (by omega) (by omega),if_neg (by rw[zA8];omega)]
  ·rw[if_pos a]
 ·unfold oG zL;rw[if_neg (by omega)]
theorem aap {g:GR} {a:List Jh} (i:a.length<=20) {v:Nat} {l:aX} (c:l.length=a.length) (d:∀x,x<a.length->lo g (at' a (x:Int)) v<=at' l (x:Int)∧at' l (x:Int)<=hi g (at' a (x:Int)) v):zT 1000 (He g a v) l=some true:=by
 have f:(He g a v).length=a.length:=by simp[He]
 unfold zT;rw[if_neg (by rw[f,c];simp)];refine cR (step:=pM (He g a v) l) (K:=some true) l.length (λk=>(k:Int)) (λk b h=> ?_) (λb=> ?_) 1000 (by omega)
 ·have e:at' (He g a v) (k:Int)=zI g a v k:=El _ (by omega);have:=d k (by omega);unfold pM yB;rw[if_pos (by omega),cO (by omega),cO (by omega),e];rw[if_neg (show¬at' l (k:Int)<(zI g a v k).1 from Int.not_lt.2 this.1),cO (by omega),if_neg (by rw[zA8];exact Int.not_lt.2 this.2),dH (by omega)]
 ·unfold pM yA;rw[if_neg (by omega)]
theorem Rh {g:GR} (a:VG g) {p:Dr} (f:kK g p.2.1) {c:bO} (b:Jo g c p.2.1):rE 1000 p g c=some 0:=by
 have i:=a.n24;have l:(Fc g p.2.1).length=g.2.length:=by simp[Fc]
 have d:=b.len;unfold rE;rw[aZ (show wV 1000 _ _=some 0 from acv a f),if_neg (by decide),aZ (show oM 1000 _ _=_ from Sm a f)];have:x_ 1000 (Fc g p.2.1) c=some true:=by
  unfold x_;rw[if_neg (by rw[l,d];simp)];refine cR (step:=rK 1000 (Fc g p.2.1) c) (K:=some true) g.2.length (λk=>(k:Int)) (λk h e=> ?_) (λh=> ?_) 1000 (by omega)
  ·have j:at' (Fc g p.2.1) (k:Int)=He g p.2.1 k:=El _ e;unfold rK;rw[if_pos (by omega),cO (by omega),cO (by omega),j,aZ (aap f.len (b.row k e) (b.ok k e)),if_neg (by decide),dH (by omega)]
  ·unfold rK vR;rw[if_neg (by omega)]
 rw[aZ this,if_neg (by decide)]
theorem UZ (c:bO) (h:c.length<=900) (e:∀v,v<c.length->(at' c (v:Int)).length<=1000):wW 1000 c=some c:=by
 unfold wW;rw[cO (by omega)];let Q:Nat->bO:=λk=>(List.range k).map (λv:Nat=>at' c (v:Int))++List.replicate (c.length - k) [];rw[show List.replicate (Int.toNat (c.length:Int)) ([]:aX)=Q 0 by simp[Q]];refine cR (step:=uN c) (K:=some c) c.length (λk=>((k:Int),Q k)) (λk b a=> ?_) (λb=> ?_) 1000 (by omega)
 ·have g:(Q k).length=c.length:=by simp[Q];omega
  have:=e k a;unfold uN;dsimp only;rw[if_pos (by omega),cO (by omega),cO (by simp;omega),cO (by omega),dH (by omega),zAe,List.nil_append];have:(Q k).set k (at' c (k:Int))=Q (k+1):=Bc (λv:Nat=>at' c (v:Int)) [] c.length k a;rw[this]
 ·unfold uN zZ;dsimp only;rw[if_neg (by omega)];congr 1;refine List.ext_getElem (by simp[Q]) λi f d=> ?_;simp[Q,gN d]
end Go.Proofs.YtahgemjmgopleaaGreatDoor