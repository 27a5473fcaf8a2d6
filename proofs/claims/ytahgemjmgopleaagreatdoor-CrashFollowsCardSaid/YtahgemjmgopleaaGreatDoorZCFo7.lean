/- Models and proofs. Conditions: none. -/
import Derived.Test.YtahgemjmgopleaaGreatDoorZCFo5
import Derived.Test.YtahgemjmgopleaaGreatDoorZCFo6
import Derived.Test.YtahgemjmgopleaaGreatDoorZCFo2
import Derived.KernelRfl
set_option linter.unusedVariables false
set_option linter.unusedSimpArgs false
set_option maxHeartbeats 4000000
set_option maxRecDepth 20000
namespace Go.Proofs.YtahgemjmgopleaaGreatDoor
open Go.Sx
theorem Bu {R:Type} {step:Int->(Int->Option R)->Option R} {K:Option R} {bad:R} (N:Nat) (p:Nat->Prop)
  (r:∀(k:Nat) c,k<N->p k->step k c=c ((k:Int)+1)) (i:∀(k:Nat) c,k<N->¬p k->step k c=some bad) (j:∀c,step N c=K):
  ∀(b:Nat),N<b->((∀k,k<N->p k)->bL step b 0=K)∧(¬(∀k,k<N->p k)->bL step b 0=some bad):=by
 intro b q;have s:∀(d a b:Nat),a+d=N->d<b->((∀k,a<=k->k<N->p k)->bL step b (a:Int)=K)∧(¬(∀k,a<=k->k<N->p k)->bL step b (a:Int)=some bad):=by
  intro d
  induction d with
  |zero=>
   intro a b v q;obtain rfl:a=N:=by omega
   cases b with
   |zero=>omega
   |succ f=>exact⟨λ_=>j _,λh=>absurd (λk m g=>by omega) h⟩
  | succ d ih =>
   intro a b v q;cases b with
   |zero=>omega
   | succ f =>
    obtain⟨t,u⟩:=ih (a+1) f (by omega) (by omega);have e:((a+1:Nat):Int)=(a:Int)+1:=by omega
    rw[e]at t u;by_cases n:p a
    ·have w:bL step (f+1) (a:Int)=bL step f ((a:Int)+1):=r a _ (by omega) n;rw[w];refine⟨λh=>t λk m g=>h k (by omega) g,λh=>u λo=>h λk m g=> ?_⟩
     by_cases l:k=a
     ·subst l;exact n
     ·exact o k (by omega) g
    ·exact⟨λh=>absurd (h a (zAd _) (by omega)) n,λ_=>i a _ (by omega) n⟩
 obtain⟨m,g⟩:=s N 0 b (by omega) q;exact⟨λh=>m λk _ l=>h k l,λh=>g λo=>h λk l=>o k (by omega) l⟩
abbrev GR:=List Int×iA
theorem rT (a:Nat) (v c d:Int):qE a v c d=some (decide (c<=v∧v<=d)):=by
 unfold qE B_;by_cases h:c<=v
 ·rw[if_pos h];congr 1;exact decide_eq_decide.2 ⟨λb=>⟨h,b⟩,λb=>b.2⟩
 ·rw[if_neg h,zA7 (λb=>h b.1)]
abbrev row (g:GR) (v:Nat):e_:=at' g.2 (v:Int)
abbrev HJ (g:GR) (v:Nat):Int:=at' g.1 (v:Int)
abbrev jT (l:e_) (i:Nat):eV:=at' l (i:Int)
def adT (g:GR):Prop:=g.1.length<=30∧g.2.length<=30∧∀v,v<g.2.length->(row g v).length<=30
def J_ (l:e_) (v n i:Nat):Prop:=(0<=(jT l i).1∧(jT l i).1<=(n:Int) - 1)∧(jT l i).1≠v∧(1<=(jT l i).2∧(jT l i).2<=15)∧∀k,k<i->(jT l k).1≠(jT l i).1
def qK (l:e_) (v n:Nat):Prop:=∀i,i<l.length->J_ l v n i
theorem sZ (l:e_) (v n:Nat) (o:l.length<=30) (p:n<=30):(qK l v n->lN 1000 l v n=some true)∧(¬qK l v n->lN 1000 l v n=some false):=by
 unfold lN;have a:∀(i:Nat) (b:Int->Option Bool),i<l.length->((∀k,k<i->(jT l k).1≠(jT l i).1)->bL (jK l i b) 1000 0=b ((i:Int)+1))∧(¬(∀k,k<i->(jT l k).1≠(jT l i).1)->bL (jK l i b) 1000 0=some false):=by
  intro i b h;refine Bu i _ (λk d m c=> ?_) (λk d m c=> ?_) (λd=> ?_) 1000 (by omega)
  ·unfold jK;rw[if_pos (by omega),cV (by omega),cV (by omega),if_neg c,wr (by omega) (by omega)]
  ·unfold jK;rw[if_pos (by omega),cV (by omega),cV (by omega),if_pos (zAy.1 c)]
  ·unfold jK qS;rw[if_neg (by omega),wr (by omega) (by omega)]
 refine Bu l.length (J_ l v n) (λi b h c=> ?_) (λi b h c=> ?_) (λb=> ?_) 1000 (by omega)
 ·obtain⟨e,f,g,j⟩:=c;unfold iB kU;rw[if_pos (by omega),cV (by omega),wr (x:=(n:Int) - 1) (by omega) (by omega),rT,zA5 e,bA Z,if_neg (by simp),cV (by omega),if_neg f,cV (by omega),rT,zA5 g,bA Z,if_neg (by simp)];exact(a i b h).1 j
 ·unfold iB kU;rw[if_pos (by omega),cV (by omega),wr (x:=(n:Int) - 1) (by omega) (by omega),rT];by_cases e:0<=(jT l i).1∧(jT l i).1<=(n:Int) - 1
  ·rw[zA5 e,bA Z,if_neg (by simp),cV (by omega)];by_cases f:(jT l i).1=v
   ·rw[if_pos f];rfl
   ·rw[if_neg f,cV (by omega),rT];by_cases g:1<=(jT l i).2∧(jT l i).2<=15
    ·rw[zA5 g,bA Z,if_neg (by simp)];exact(a i b h).2 λj=>c ⟨e,f,g,j⟩
    ·rw[zA7 g];rfl
  ·rw[zA7 e];rfl
 ·unfold iB qR;rw[if_neg (by omega)]
def Cm (l:e_) (u:Int):Int:=match l.findIdx? (λx=>decide (x.1=u))with
 |some i=>i
 |none=> -1
theorem SS {l:e_} {u:Int} (i:Nat) (b:i<l.length) (d:(jT l i).1=u) (c:∀k,k<i->(jT l k).1≠u):Cm l u=i:=by
 have:l.findIdx? (λx=>decide (x.1=u))=some i:=by
  rw[List.findIdx?_eq_some_iff_getElem];have e:∀k (a:k<l.length),jT l k=l[k]:=λk a=>by rw[jT,lQ,zA6,zA0 a];rfl
  refine⟨b,by rw[<-e i b];simpa using d,λk a=> ?_⟩
  have:=c k a;rw[e k (by omega)]at this;simpa using this
 rw[Cm,this]
theorem SR {l:e_} {u:Int} (b:∀k,k<l.length->(jT l k).1≠u):Cm l u = -1:=by
 have:l.findIdx? (λx=>decide (x.1=u))=none:=by
  rw[List.findIdx?_eq_none_iff];intro x c;obtain⟨k,a,rfl⟩:=List.getElem_of_mem c;have:=b k a;rw[jT,lQ,zA6,zA0 a]at this;simpa using this
 rw[Cm,this]
theorem CO (l:e_) (u:Int):(∃i,i<l.length∧(jT l i).1=u∧(∀k,k<i->(jT l k).1≠u)∧Cm l u=i)∨((∀k,k<l.length->(jT l k).1≠u)∧Cm l u = -1):=by
 by_cases h:∀k,k<l.length->(jT l k).1≠u
 ·exact .inr ⟨h,SR h⟩
 ·left;have f:∃k,k<l.length∧(jT l k).1=u:=by
   apply Classical.byContradiction;intro o;exact h λk g e=>o ⟨k,g,e⟩
  obtain⟨k,g,n⟩:=f;have:∀m,(∃k,k<=m∧k<l.length∧(jT l k).1=u)->∃i,i<l.length∧(jT l i).1=u∧∀k,k<i->(jT l k).1≠u:=by
   intro m
   induction m with
   |zero=>rintro⟨k,d,a,b⟩;exact⟨k,a,b,λj p=>by omega⟩
   |succ m q=>
    rintro⟨k,d,a,b⟩;by_cases c:∃j,j<=m∧j<l.length∧(jT l j).1=u
    ·exact q c
    ·exact⟨k,a,b,λj p e=>c ⟨j,by omega,by omega,e⟩⟩
  obtain⟨i,d,a,b⟩:=this k ⟨k,zAd _,g,n⟩;exact⟨i,d,a,b,SS i d a b⟩
theorem Nn (g:GR) (v:Nat) (u:Int) (m:v<g.2.length) (l:(row g v).length<=30):vT 1000 g v u=some (Cm (row g v) u):=by
 unfold vT;rcases CO (row g v) u with⟨i,j,h,c,b⟩|⟨c,b⟩
 ·rw[b];refine Ho (λx:Int=>∃k:Nat,x=k∧k<=i) (λx=>31 - x.toNat) ?_ 1000 _ ⟨0,rfl,by omega⟩ (by omega);rintro x d ⟨k,rfl,f⟩ a;unfold By;rw[cV (by omega),if_pos (show(k:Int)<((row g v).length:Int) by omega),cV (by omega),cV (show 0<=(k:Int)∧(k:Int)<((row g v).length:Int) by omega)];by_cases e:k=i
  ·subst e;exact if_pos h
  ·rw[if_neg (c k (by omega)),wr (by omega) (by omega)];exact a _ ⟨k+1,by omega,by omega⟩ (by omega)
 ·rw[b];refine Ho (λx:Int=>∃k:Nat,x=k∧k<=(row g v).length) (λx=>31 - x.toNat) ?_ 1000 _ ⟨0,rfl,by omega⟩ (by omega);rintro x d ⟨k,rfl,f⟩ a;unfold By;rw[cV (by omega)];by_cases e:k<(row g v).length
  ·rw[if_pos (show(k:Int)<((row g v).length:Int) by omega),cV (by omega),cV (show 0<=(k:Int)∧(k:Int)<((row g v).length:Int) by omega),if_neg (c k e),wr (by omega) (by omega)];exact a _ ⟨k+1,by omega,by omega⟩ (by omega)
  ·rw[if_neg (show¬(k:Int)<((row g v).length:Int) by omega)];rfl
theorem Jm {X R:Type} {step:X->(X->Option R)->Option R} {K:X->Option R} {bad:R} (N:Nat) (p:Nat->Prop) (I:Nat->X->Prop)
  (t:∀(k:Nat) x g,k<N->I k x->p k->∃c,I (k+1) c∧step x g=g c) (j:∀(k:Nat) x g,k<N->I k x->¬p k->step x g=some bad) (l:∀x g,I N x->step x g=K x):
  ∀(b:Nat) (x:X),I 0 x->N<b->((∀k,k<N->p k)->∃c,I N c∧bL step b x=K c)∧(¬(∀k,k<N->p k)->bL step b x=some bad):=by
 intro b x e s;have v:∀(d a b:Nat) (x:X),a+d=N->d<b->I a x->((∀k,a<=k->k<N->p k)->∃c,I N c∧bL step b x=K c)∧(¬(∀k,a<=k->k<N->p k)->bL step b x=some bad):=by
  intro d
  induction d with
  |zero=>
   intro a b x w s e;obtain rfl:a=N:=by omega
   cases b with
   |zero=>omega
   |succ f=>exact⟨λ_=>⟨x,e,l _ _ e⟩,λh=>absurd (λk n i=>by omega) h⟩
  | succ d ih =>
   intro a b x w s e;cases b with
   |zero=>omega
   | succ f =>
    by_cases o:p a
    ·obtain⟨c,r,u⟩:=t a x (bL step f) (by omega) e o;have u:bL step (f+1) x=bL step f c:=u;obtain⟨y,z⟩:=ih (a+1) f c (by omega) (by omega) r;rw[u];refine⟨λh=>y λk n i=>h k (by omega) i,λh=>z λq=>h λk n i=> ?_⟩
     by_cases m:k=a
     ·subst m;exact o
     ·exact q k (by omega) i
    ·exact⟨λh=>absurd (h a (zAd _) (by omega)) o,λ_=>j a x _ (by omega) e o⟩
 obtain⟨n,i⟩:=v N 0 b x (by omega) s e;exact⟨λh=>n λk _ m=>h k m,λh=>i λq=>h λk m=>q k (by omega) m⟩
def AZ (g:GR) (v i:Nat):Prop:=∃j,j<(at' g.2 (jT (row g v) i).1).length∧(jT (at' g.2 (jT (row g v) i).1) j).1=v∧(jT (at' g.2 (jT (row g v) i).1) j).2=(jT (row g v) i).2
structure Mk (g:GR) (v:Nat):Prop where
 id:0<=HJ g v∧HJ g v<=255
 deg:(row g v).length<g.2.length
 links:qK (row g v) v g.2.length
 ids:∀k,k<v->HJ g k≠HJ g v
structure VG (g:GR):Prop where
 n1:1<=g.2.length
 n24:g.2.length<=24
 len:g.1.length=g.2.length
 node:∀v,v<g.2.length->Mk g v
 sym:∀v,v<g.2.length->∀i,i<(row g v).length->AZ g v i
theorem adX (g:GR) (N:adT g):(VG g->iZ 1000 g=some true)∧(¬VG g->iZ 1000 g=some false):=by
 obtain⟨S,H,t⟩:=N;unfold iZ;rw[rT,bA Z];by_cases z:1<=g.2.length∧g.2.length<=24
 rotate_left
 ·rw[zA7 (by omega)];exact⟨λh=>absurd ⟨h.n1,h.n24⟩ z,λ_=>rfl⟩
 rw[zA5 (by omega),if_neg (by simp)];by_cases I:g.1.length=g.2.length
 rotate_left
 ·rw[zA5 (by omega)];exact⟨λh=>absurd h.len I,λ_=>rfl⟩
 rw[zA7 (by omega)];unfold uV;rw[if_neg (by simp)];have o:∀(v:Nat) (b:Int->Option Bool),v<g.2.length->((∀k,k<v->HJ g k≠HJ g v)->bL (h_ g v b) 1000 0=b ((v:Int)+1))∧(¬(∀k,k<v->HJ g k≠HJ g v)->bL (h_ g v b) 1000 0=some false):=by
  intro v b d;refine Bu v _ (λk a C c=> ?_) (λk a C c=> ?_) (λa=> ?_) 1000 (by omega)
  ·unfold h_;rw[if_pos (by omega),cV (by omega),cV (by omega),if_neg c,wr (by omega) (by omega)]
  ·unfold h_;rw[if_pos (by omega),cV (by omega),cV (by omega),if_pos (zAy.1 c)]
  ·unfold h_ uZ;rw[if_neg (by omega),wr (by omega) (by omega)]
 have l:=Bu (step:=gS 1000 g) (K:=oH 1000 g ()) (bad:=false) g.2.length (Mk g) (λv b d c=> ?_) (λv b d c=> ?_) (λb=> ?_) 1000 (by omega)
 rotate_left
 ·unfold gS mB;rw[if_pos (by omega),cV (by omega),rT,zA5 c.id,bA Z,if_neg (by simp),cV (by omega),if_neg (show¬((g.2.length:Int)<=((row g v).length:Int))from by have:=c.deg;omega),cV (by omega),(sZ (row g v) v g.2.length (t v d) H).1 c.links,bA Z,if_neg (by simp)];exact(o v b d).1 c.ids
 ·unfold gS mB;rw[if_pos (by omega),cV (by omega),rT];by_cases x:0<=HJ g v∧HJ g v<=255
  rotate_left
  ·rw[zA7 x];rfl
  rw[zA5 x,bA Z,if_neg (by simp),cV (by omega)];by_cases J:(row g v).length<g.2.length
  rotate_left
  ·rw[if_pos (show(g.2.length:Int)<=((row g v).length:Int) by omega)];rfl
  rw[if_neg (show¬(g.2.length:Int)<=((row g v).length:Int) by omega),cV (by omega)];by_cases y:qK (row g v) v g.2.length
  rotate_left
  ·rw[(sZ (row g v) v g.2.length (t v d) H).2 y];rfl
  rw[(sZ (row g v) v g.2.length (t v d) H).1 y,bA Z,if_neg (by simp)];exact(o v b d).2 λL=>c ⟨x,J,y,L⟩
 ·unfold gS;rw[if_neg (by omega)]
 by_cases q:∀v,v<g.2.length->Mk g v
 rotate_left
 ·exact⟨λh=>absurd h.node q,λ_=>l.2 q⟩
 rw[l.1 q];unfold oH;have f:∀(v:Nat) (b:Int->Option Bool),v<g.2.length->((∀i,i<(row g v).length->AZ g v i)->bL (fL 1000 g v b) 1000 0=b ((v:Int)+1))∧(¬(∀i,i<(row g v).length->AZ g v i)->bL (fL 1000 g v b) 1000 0=some false):=by
  intro v b d;have P:=t v d;have n:∀(i:Nat) a,i<(row g v).length->(AZ g v i->fL 1000 g v b i a=a ((i:Int)+1))∧(¬AZ g v i->fL 1000 g v b i a=some false):=by
   intro i a r;unfold fL;rw[cV (by omega),if_pos (show(i:Int)<((row g v).length:Int) by omega),cV (by omega),cV (show 0<=(i:Int)∧(i:Int)<((row g v).length:Int) by omega)];have R:=((q v d).links i r).1;obtain⟨u,G⟩:∃u:Nat,(jT (row g v) i).1=u:=⟨(jT (row g v) i).1.toNat,by omega⟩
   have p:u<g.2.length:=by omega
   unfold AZ;rw[show(at' (at' g.2 (v:Int)) (i:Int))=jT (row g v) i from rfl,G,Nn g u v p (t u p),bA Z];have F:=(q u p).links;rcases CO (row g u) v with⟨j,w,m,B,A⟩|⟨M,A⟩
   ·rw[A,if_neg (by omega),cV (by omega),cV (show 0<=(j:Int)∧(j:Int)<((at' g.2 (u:Int)).length:Int)from⟨by omega,by have:j<(row g u).length:=w;exact_mod_cast this⟩)];unfold uY;constructor
    ·rintro⟨k,C,s,E⟩;have D:k=j:=by
      rcases zAx k j with h|h|h
      ·exact absurd s (B k h)
      ·exact h
      ·exact absurd (m.trans s.symm) ((F k C).2.2.2 j h)
     subst D;rw[if_neg (by rw[zA7];simp;exact λh=>h E),wr (by omega) (by omega)]
    ·intro h;rw[if_pos];exact zA5 λQ=>h ⟨j,w,m,Q⟩
   ·rw[A,if_pos (by decide)];exact⟨fun⟨j,w,m,_⟩=>absurd m (M j w),λ_=>rfl⟩
  refine Bu (row g v).length _ (λi a r c=>(n i a r).1 c) (λi a r c=>(n i a r).2 c) (λa=> ?_) 1000 (by omega);unfold fL uX;rw[cV (by omega),if_neg (show¬(((row g v).length:Nat):Int)<((row g v).length:Int) by omega),wr (by omega) (by omega)]
 have e:=Bu (step:=gR 1000 g) (K:=some true) (bad:=false) g.2.length (λv=>∀i,i<(row g v).length->AZ g v i) (λv b d c=> ?_) (λv b d c=> ?_) (λb=> ?_) 1000 (by omega)
 ·exact⟨λh=>e.1 h.sym,λh=>e.2 λO=>h ⟨z.1,z.2,I,q,O⟩⟩
 ·unfold gR;rw[if_pos (by omega)];exact(f v b d).1 c
 ·unfold gR;rw[if_pos (by omega)];exact(f v b d).2 c
 ·unfold gR uW;rw[if_neg (by omega)]
theorem CX {a:Type} [Inhabited a] (l:List a) (i k:Nat) (y:a) (b:i<l.length):at' (l.set i y) (k:Int)=if k=i then y else at' l (k:Int):=by
 rw[lQ,lQ,zA6,zA6,List.getElem?_set];by_cases h:i=k
 ·rw[if_pos h,if_pos h.symm,if_pos (by omega)];rfl
 ·rw[if_neg h,if_neg (Ne.symm h)]
def XX (l:aY) (k:Nat):Prop:=(0<=at' l (k:Int)∧at' l (k:Int)<=255)∧∀j,j<k->at' l (j:Int)≠at' l (k:Int)
theorem xV (l:aY) (C:l.length<=30):((∀k,k<l.length->XX l k)->kF 1000 l=some true)∧(¬(∀k,k<l.length->XX l k)->kF 1000 l=some false):=by
 unfold kF;have i:=Jm (step:=iF l) (K:=λ_=>some true) (bad:=false) l.length (XX l) (λk x=>x.1=(k:Int)∧x.2.length=256∧∀z:Nat,z<256->(at' x.2 (z:Int)=true↔∃j,j<k∧at' l (j:Int)=(z:Int))) ?_ ?_ ?_ 1000 ((0:Int),(List.replicate 256 false)) ⟨rfl,List.length_replicate ..,λz c=> ?_⟩ (by omega)
 ·exact⟨λh=>by obtain⟨x,_,b⟩:=i.1 h;exact b,i.2⟩
 ·rintro k ⟨t,m⟩ q w ⟨b,a,f⟩ ⟨D,v⟩;dsimp only at b a f;subst b;obtain⟨z,c⟩:∃z:Nat,at' l (k:Int)=z:=⟨(at' l (k:Int)).toNat,by omega⟩
  have p:z<256:=by omega
  have o:¬at' m (z:Int)=true:=by
   rw[f z p];rintro⟨j,e,d⟩;exact v j e (d.trans c.symm)
  refine⟨((k:Int)+1,m.set z true),⟨by simp,by simp[a],λy B=> ?_⟩,?_⟩
  ·dsimp only;rw[CX _ _ _ _ (by omega)];by_cases g:y=z
   ·subst g;rw[if_pos Z];exact⟨λ_=>⟨k,by omega,c⟩,λ_=>rfl⟩
   ·rw[if_neg g,f y B];constructor
    ·rintro⟨j,e,d⟩;exact⟨j,by omega,d⟩
    ·rintro⟨j,e,d⟩;by_cases n:j=k
     ·subst n;rw[c]at d;omega
     ·exact⟨j,by omega,d⟩
  ·unfold iF jP;dsimp only;rw[if_pos (by omega),cV (by omega),c,if_neg (by omega),if_neg (by omega),cV ⟨by omega,a⟩,if_neg o,cV ⟨by omega,a⟩,wr (by omega) (by omega)];rfl
 ·rintro k ⟨t,m⟩ q w ⟨b,a,f⟩ A;dsimp only at b a f;subst b;unfold iF jP;dsimp only;rw[if_pos (by omega),cV (by omega)];by_cases r:at' l (k:Int)<0
  ·rw[if_pos r,if_pos Z]
  rw[if_neg r];by_cases s:255<at' l (k:Int)
  ·rw[if_pos s,if_pos Z]
  rw[if_neg s];obtain⟨z,c⟩:∃z:Nat,at' l (k:Int)=z:=⟨(at' l (k:Int)).toNat,by omega⟩
  rw[c,cV ⟨by omega,a⟩,if_pos];rw[f z (by omega)];apply Classical.byContradiction;intro u;exact A ⟨by omega,λj e d=>u ⟨j,e,d.trans c⟩⟩
 ·rintro⟨t,m⟩ q ⟨b,_,_⟩;dsimp only at b;subst b;unfold iF oV;dsimp only;rw[if_neg (by omega)]
 ·rw[show at' (List.replicate 256 false) (z:Int)=false by rw[lQ,zA6,List.getElem?_replicate,if_pos c];rfl];exact⟨λh=>(by cases h),fun⟨j,e,_⟩=>(by omega)⟩
theorem Xt {d e:Type} [DecidableEq d] (k c:d) (v:e):∀l:List (d×e),nM c (Fq k v l)=if c=k then some v else nM c l
 | []=>by simp only[Fq,nM]
 | x :: xs => by
  simp only[Fq];by_cases h:k=x.1
  ·rw[if_pos h];simp only[nM];by_cases a:c=k
   ·rw[if_pos a,if_pos a]
   ·rw[if_neg a,if_neg a,if_neg (λb=>a (b.trans h.symm))]
  ·rw[if_neg h];simp only[nM];by_cases a:c=x.1
   ·rw[if_pos a,if_neg (λb=>h (b.symm.trans a)),if_pos a]
   ·rw[if_neg a,Xt k c v xs];by_cases b:c=k
    ·rw[if_pos b,if_pos b]
    ·rw[if_neg b,if_neg b,if_neg a]
theorem SB {a b:Type} [DecidableEq a] {k:a} {v:b} {z:a×b} {l:List (a×b)} (c:nM k l=none):z∈Fq k v l↔z=(k,v)∨z∈l:=by
 rw[Kr k v l c];simp[or_comm]
theorem Kq {a c:Type} [DecidableEq a] {k:a}:∀{l:List (a×c)},(∀v,(k,v)∉l)->nM k l=none
 | [],_=>rfl
 |x::xs,h=>by
  simp only[nM];rw[if_neg (λe=>h x.2 (by rw[e];exact zAb ..))];exact Kq λv b=>h v (zAf _ b)
theorem xD {b c:Type} [DecidableEq b] {k:b} {v:c}:∀{l:List (b×c)},nM k l=none->(k,v)∉l
 | [],_=>by simp
 | x :: xs, h => by
  simp only[nM]at h;by_cases e:k=x.1
  ·rw[if_pos e]at h;cases h
  ·rw[if_neg e]at h;intro d;rcases zAn.1 d with a|a
   ·exact e (by rw[<-a])
   ·exact xD h a
theorem ED {a b:Type} [DecidableEq a] {k:a} {v:b}:∀{l:List (a×b)},nM k l=some v->(k,v)∈l
 |x::xs,h=>by
  simp only[nM]at h;by_cases e:k=x.1
  ·rw[if_pos e]at h;cases h;rw[e];exact zAb ..
  ·rw[if_neg e]at h;exact zAf _ (ED h)
theorem Nf {a b:Type} (p:a×b->Prop) [DecidablePred p]:∀l:List (a×b),NW (λd x=>if p d then some false else x) (some true) l=some (decide (∀z∈l,¬p z))
 | []=>by simp[NW]
 |x::xs=>by
  show(if p x then some false else NW _ (some true) xs)=_;rw[Nf p xs];by_cases h:p x
  ·rw[if_pos h];congr 1;symm;exact zA7 λc=>c x (zAb ..) h
  ·rw[if_neg h];congr 1;apply decide_eq_decide.2;simp[h]
def RH (c:iA) (v i:Nat) (z:(Int×Int)×Int):Prop:=∃a b:Nat,(a<v∨(a=v∧b<i))∧b<(at' c (a:Int)).length∧z=(((a:Int),(jT (at' c (a:Int)) b).1),(jT (at' c (a:Int)) b).2)
def Oy (a:iA):Prop:=(∀v,v<a.length->qK (at' a (v:Int)) v a.length)∧∀v,v<a.length->∀i,i<(at' a (v:Int)).length->AZ ([],a) v i
theorem JB (c:iA) (hn:c.length<=30) (hd:∀v,v<c.length->(at' c (v:Int)).length<=30):(Oy c->iL 1000 c=some true)∧(¬Oy c->iL 1000 c=some false):=by
 unfold iL;have s:∀(v:Nat) (m:List ((Int×Int)×Int)) p,v<c.length->(∀z,z∈m↔RH c v 0 z)->
   (qK (at' c (v:Int)) v c.length->∃X,(∀z,z∈X↔RH c (v+1) 0 z)∧bL (dM c ((v:Int),m) p) 1000 ((0:Int),m)=p ((v:Int)+1,X))∧
   (¬qK (at' c (v:Int)) v c.length->bL (dM c ((v:Int),m) p) 1000 ((0:Int),m)=some false):=by
  intro v m p F hm;have af:=hd v F;have R:=Jm (step:=dM c ((v:Int),m) p) (K:=λx=>p ((v:Int)+1,x.2)) (bad:=false) (at' c (v:Int)).length (J_ (at' c (v:Int)) v c.length) (λi x=>x.1=(i:Int)∧∀z,z∈x.2↔RH c v i z) ?_ ?_ ?_ 1000 ((0:Int),m) ⟨rfl,hm⟩ (by omega)
  ·refine⟨λh=> ?_,λh=>R.2 h⟩
   obtain⟨x,⟨ah,ad⟩,f⟩:=R.1 h;refine⟨x.2,λz=>(ad z).trans ⟨?_,?_⟩,f⟩
   ·rintro⟨a,b,y,e,l⟩;exact⟨a,b,by omega,e,l⟩
   ·rintro⟨a,b,y,e,l⟩;refine⟨a,b,?_,e,l⟩
    by_cases W:a=v
    ·subst W;exact .inr ⟨rfl,e⟩
    ·omega
  ·rintro i ⟨H,g⟩ I M ⟨f,d⟩ ⟨p1,p2,p3,p4⟩;dsimp only at f d;subst f;have q:nM (((v:Int),(jT (at' c (v:Int)) i).1)) g=none:=by
    apply Kq;intro w hw;obtain⟨a,b,y,e,l⟩:=(d _).1 hw;simp only[Prod.mk.injEq]at l;obtain⟨⟨C,A⟩,_⟩:=l;have:a=v:=by omega
    subst this;have hb:b<i:=by omega
    exact p4 b hb A.symm
   refine⟨((i:Int)+1,Fq (((v:Int),(jT (at' c (v:Int)) i).1)) (jT (at' c (v:Int)) i).2 g),⟨by simp,λz=> ?_⟩,?_⟩
   ·dsimp only;rw[SB q,d];constructor
    ·rintro(rfl|⟨a,b,y,e,l⟩)
     ·exact⟨v,i,.inr ⟨rfl,by omega⟩,M,rfl⟩
     ·exact⟨a,b,by omega,e,l⟩
    ·rintro⟨a,b,y,e,l⟩;by_cases J:a=v∧b=i
     ·left;rw[l,J.1,J.2]
     ·right;exact⟨a,b,by omega,e,l⟩
   ·replace p1:0<=(at' (at' c (v:Int)) (i:Int)).1∧(at' (at' c (v:Int)) (i:Int)).1<=(c.length:Int) - 1:=p1;replace p3:1<=(at' (at' c (v:Int)) (i:Int)).2∧(at' (at' c (v:Int)) (i:Int)).2<=15:=p3;unfold dM iS jZ;dsimp only;rw[if_pos (by omega),cV (by omega),if_neg (by omega),if_neg (by omega),if_neg (by rw[zA7 p2];simp),if_neg (by omega),if_neg (by rw[zA7 (by omega)];simp),q,if_neg (by simp),wr (by omega) (by omega)]
  ·rintro i ⟨H,g⟩ I M ⟨f,d⟩ P;dsimp only at f d;subst f;unfold dM iS jZ;dsimp only;rw[if_pos (by omega),cV (by omega)];by_cases y:(jT (at' c (v:Int)) i).1<0
   ·rw[if_pos y,if_pos Z]
   rw[if_neg y];by_cases e:(c.length:Int)<=(jT (at' c (v:Int)) i).1
   ·rw[if_pos e,if_pos Z]
   rw[if_neg e];by_cases l:(jT (at' c (v:Int)) i).1=v
   ·rw[if_pos (zA5 l)]
   rw[if_neg (by rw[zA7 l];simp)];by_cases C:(jT (at' c (v:Int)) i).2<1
   ·rw[if_pos C,if_pos Z]
   rw[if_neg C];by_cases A:15<(jT (at' c (v:Int)) i).2
   ·rw[if_pos (zA5 A)]
   rw[if_neg (by rw[zA7 A];simp)];have:∃k,k<i∧(jT (at' c (v:Int)) k).1=(jT (at' c (v:Int)) i).1:=by
    apply Classical.byContradiction;intro hc;exact P ⟨by omega,l,by omega,λk N L=>hc ⟨k,N,L⟩⟩
   obtain⟨k,N,L⟩:=this;have n:=(d _).2 ⟨v,k,.inr ⟨rfl,N⟩,by omega,rfl⟩;rw[if_pos];rw[<-L];cases q:nM (((v:Int),(jT (at' c (v:Int)) k).1)) g with
   |some w=>rfl
   | none => exact absurd n (by
     intro n;exact xD q n)
  ·rintro⟨H,g⟩ I ⟨f,d⟩;dsimp only at f d;subst f;unfold dM nW;dsimp only;rw[if_neg (by omega),wr (by omega) (by omega)]
 have t:=Jm (step:=eJ 1000 c) (K:=λx=>jY x.2) (bad:=false) c.length (λv=>qK (at' c (v:Int)) v c.length) (λv x=>x.1=(v:Int)∧∀z,z∈x.2↔RH c v 0 z) ?_ ?_ ?_ 1000 ((0:Int),[]) ⟨rfl,λz=>⟨λh=>(by cases h),fun⟨a,b,y,_⟩=>(by omega)⟩⟩ (by omega)
 rotate_left
 ·rintro v ⟨H,g⟩ p F ⟨f,d⟩ P;dsimp only at f d;subst f;obtain⟨X,y,e⟩:=(s v g p F d).1 P;refine⟨((v:Int)+1,X),⟨by simp,y⟩,?_⟩
  ·unfold eJ;dsimp only;rw[if_pos (by omega),cV (by omega)];exact e
 ·rintro v ⟨H,g⟩ p F ⟨f,d⟩ P;dsimp only at f d;subst f;unfold eJ;dsimp only;rw[if_pos (by omega),cV (by omega)];exact(s v g p F d).2 P
 ·rintro⟨H,g⟩ p ⟨f,d⟩;dsimp only at f d;subst f;unfold eJ;dsimp only;rw[if_neg (by omega)]
 by_cases D:∀v,v<c.length->qK (at' c (v:Int)) v c.length
 rotate_left
 ·exact⟨λh=>absurd h.1 D,λ_=>t.2 D⟩
 obtain⟨⟨H,g⟩,⟨f,d⟩,L⟩:=t.1 D;rw[L];dsimp only at d ⊢;have N:jY g=some (decide (∀z∈g,¬(Option.getD (nM (z.1.2,z.1.1) g) (0:Int))≠z.2)):=Nf (λz:(Int×Int)×Int=>(Option.getD (nM (z.1.2,z.1.1) g) (0:Int))≠z.2) g;rw[N];have E:(∀z∈g,¬(Option.getD (nM (z.1.2,z.1.1) g) (0:Int))≠z.2)↔∀v,v<c.length->∀i,i<(at' c (v:Int)).length->AZ ([],c) v i:=by
  constructor
  ·intro h v F i M;have hw:=(D v F i M).2.2.1;have n:=(d (((v:Int),(jT (at' c (v:Int)) i).1),(jT (at' c (v:Int)) i).2)).2 ⟨v,i,.inl F,M,rfl⟩;have e:=zAy.1 (h _ n);dsimp only at e;cases q:nM ((jT (at' c (v:Int)) i).1,(v:Int)) g with
   |none=>rw[q]at e;simp only[Option.getD]at e;omega
   | some w =>
    rw[q]at e;simp only[Option.getD]at e;obtain⟨a,b,l,C,A⟩:=(d _).1 (ED q);simp only[Prod.mk.injEq]at A;obtain⟨⟨T,U⟩,h8⟩:=A;refine⟨b,?_,?_,?_⟩
    ·show b<(at' c (jT (at' c (v:Int)) i).1).length;rw[T];exact C
    ·show(jT (at' c (jT (at' c (v:Int)) i).1) b).1=v;rw[T];exact U.symm
    ·show(jT (at' c (jT (at' c (v:Int)) i).1) b).2=(jT (at' c (v:Int)) i).2;rw[T,<-h8];exact e
  ·intro h z hz ac;obtain⟨a,b,l,C,rfl⟩:=(d z).1 hz;have W:a<c.length:=by omega
   apply ac;obtain⟨j,r,o,B⟩:=h a W b C;have hu:=(D a W b C).1;obtain⟨u,Q⟩:∃u:Nat,(jT (at' c (a:Int)) b).1=u:=⟨(jT (at' c (a:Int)) b).1.toNat,by omega⟩
   replace r:j<(at' c (jT (at' c (a:Int)) b).1).length:=r;replace o:(jT (at' c (jT (at' c (a:Int)) b).1) j).1=a:=o;replace B:(jT (at' c (jT (at' c (a:Int)) b).1) j).2=(jT (at' c (a:Int)) b).2:=B;rw[Q]at r o B;have G:u<c.length:=by omega
   dsimp only;rw[Q,<-B];have n:=(d (((u:Int),(jT (at' c (u:Int)) j).1),(jT (at' c (u:Int)) j).2)).2 ⟨u,j,.inl G,r,rfl⟩;rw[o]at n;cases q:nM ((u:Int),(a:Int)) g with
   |none=>exact absurd n (xD q)
   | some w =>
    obtain⟨Y,S,ae,aa,A⟩:=(d _).1 (ED q);simp only[Prod.mk.injEq]at A;obtain⟨⟨T,U⟩,h8⟩:=A;have:Y=u:=by omega
    subst this;have ab:S=j:=by
     rcases zAx S j with O|O|O
     ·exact absurd (U.symm.trans o.symm) ((D Y G j r).2.2.2 S O)
     ·exact O
     ·exact absurd (o.trans U) ((D Y G S aa).2.2.2 j O)
    subst ab;exact h8
 by_cases V:∀v,v<c.length->∀i,i<(at' c (v:Int)).length->AZ ([],c) v i
 ·rw[zA5 (E.2 V)];exact⟨λ_=>rfl,λh=>absurd ⟨D,V⟩ h⟩
 ·rw[zA7 (λh=>V (E.1 h))];exact⟨λh=>absurd h.2 V,λ_=>rfl⟩
theorem QE:∀(N:Nat) (f:Nat->Nat) (k:Nat),(∀i,i<k->f i<N)->(∀i j,i<j->j<k->f i≠f j)->k<=N
 |0,f,k,h,_=>by
  cases k with
  |zero=>omega
  |succ k=>exact absurd (h 0 (by omega)) (by omega)
 | N + 1, f, k, h, hd => by
  by_cases b:∃a,a<k∧f a=N
  ·obtain⟨a,g,l⟩:=b;have:=QE N (λi=>if i<a then f i else f (i+1)) (k - 1) (λi c=>by
    split
    ·have:=h i (by omega);have:=hd i a (by omega) g;omega
    ·have:=h (i+1) (by omega);have:=hd a (i+1) (by omega) (by omega);omega) (λi j d m=>by
    split<;>split
    ·exact hd i j d (by omega)
    ·exact hd i (j+1) (by omega) (by omega)
    ·omega
    ·exact hd (i+1) (j+1) (by omega) (by omega))
   omega
  ·have:=QE N f k (λi c=>by
    have:=h i c;have:f i≠N:=λe=>b ⟨i,c,e⟩;omega) hd
   omega
theorem Ul {l:e_} {v n:Nat} (b:v<n) (h:qK l v n):l.length<n:=by
 have:=QE n (λi=>if i=l.length then v else(jT l i).1.toNat) (l.length+1) (λi e=>by
  split
  ·exact b
  ·have:=(h i (by omega)).1;omega) (λi j a f=>by
  rw[if_neg (by omega)];have c:=(h i (by omega)).1;split
  ·have:=(h i (by omega)).2.1;omega
  ·have d:=(h j (by omega)).1;have:=(h j (by omega)).2.2.2 i a;omega)
 omega
theorem ahV (g:GR) (j:adT g):(VG g->iY 1000 g=some true)∧(¬VG g->iY 1000 g=some false):=by
 obtain⟨e,f,i⟩:=j;unfold iY rE rF;by_cases l:g.1.length<1
 ·rw[if_pos (by omega)];exact⟨λh=>by have:=h.n1;have:=h.len;omega,λ_=>rfl⟩
 rw[if_neg (by omega)];by_cases m:24<g.1.length
 ·rw[if_pos (by omega)];exact⟨λh=>by have:=h.n24;have:=h.len;omega,λ_=>rfl⟩
 rw[if_neg (by omega)];by_cases d:g.1.length=g.2.length
 rotate_left
 ·rw[zA5 (by omega)];exact⟨λh=>absurd h.len d,λ_=>rfl⟩
 rw[zA7 (by omega),if_neg (by simp)];by_cases b:∀k,k<g.1.length->XX g.1 k
 rotate_left
 ·rw[(xV g.1 e).2 b,bA Z];exact⟨λh=>absurd (λk n=>⟨(h.node k (by omega)).id,(h.node k (by omega)).ids⟩) b,λ_=>rfl⟩
 rw[(xV g.1 e).1 b,bA Z,if_pos Z];by_cases a:Oy g.2
 ·rw[(JB g.2 f i).1 a];exact⟨λ_=>rfl,λh=>absurd ⟨by omega,by omega,d,λv c=>⟨(b v (by omega)).1,Ul c (a.1 v c),a.1 v c,(b v (by omega)).2⟩,a.2⟩ h⟩
 ·rw[(JB g.2 f i).2 a];exact⟨λh=>absurd ⟨λv c=>(h.node v c).links,h.sym⟩ a,λ_=>rfl⟩
abbrev D (d:aY) (v:Nat):Int:=at' d (v:Int)
def NP (g:GR) (v u:Nat):Prop:=∃i,i<(row g v).length∧(jT (row g v) i).1=(u:Int)
theorem VG.port {g:GR} (h:VG g) {v i:Nat} (b:v<g.2.length) (a:i<(row g v).length):∃u:Nat,u<g.2.length∧(jT (row g v) i).1=(u:Int)∧NP g v u:=by
 have c:=((h.node v b).links i a).1;exact⟨(jT (row g v) i).1.toNat,by omega,by omega,i,a,by omega⟩
theorem VG.back {g:GR} (h:VG g) {v u:Nat} (f:v<g.2.length) (c:NP g v u):NP g u v:=by
 obtain⟨i,d,e⟩:=c;obtain⟨j,b,a,_⟩:=h.sym v f i d;rw[e]at b a;exact⟨j,b,a⟩
def acv (d:aY):Nat:=d.countP λx=>decide (x<0)
structure agJ (g:GR) (s:Nat) (d:aY):Prop where
 len:d.length=g.2.length
 lo:∀v,v<g.2.length -> -1<=D d v
 zero:∀v,v<g.2.length->(D d v=0↔v=s)
 near:∀v,v<g.2.length->0<D d v->∃u,u<g.2.length∧NP g v u∧D d u=D d v - 1
 hi:∀v,v<g.2.length->D d v+(acv d:Int)<=(g.2.length:Int)
structure Qu (g:GR) (q d:aY) (b:Int) (done:Nat->Prop):Prop where
 mem:∀y∈q,∃v,v<g.2.length∧y=((v:Nat):Int)∧0<=D d v
 top:∀v,v<g.2.length->D d v<=b
 sort:q.Pairwise λa c=>at' d a<=at' d c
 done:∀v,v<g.2.length->0<=D d v->((v:Nat):Int)∉q->done v->∀u,u<g.2.length->NP g v u->0<=D d u∧D d u<=D d v+1
theorem Om {d:aY} {v:Nat} (h:v<d.length):D d v=d[v]:=by
 rw[D,lQ,zA6,zA0 h];rfl
theorem YZ {d:aY} {u:Nat} {x:Int} (a:u<d.length) (b:D d u<0) (e:0<=x):acv (d.set u x)+1=acv d:=by
 unfold acv;rw[List.countP_set a];have c:0<d.countP λx=>decide (x<0):=by
  rw[List.countP_pos_iff];exact⟨d[u],List.getElem_mem a,by rw[<-Om a];simpa using b⟩
 rw[Om a]at b;rw[if_pos (by simpa using b),if_neg (by simp;omega)];omega
theorem assign {g:GR} {s:Nat} {q d:aY} {b:Int} {done:Nat->Prop} (E:VG g) (l:agJ g s d) {x u:Nat} (m:Qu g q d (D d x+1) done) (B:x<g.2.length) (K:0<=D d x) (J:u<g.2.length) (t:D d u<0) (F:NP g x u):
  agJ g s (d.set u (D d x+1))∧Qu g (q++[(u:Int)]) (d.set u (D d x+1)) (D d x+1) done:=by
 have o:=l.len;have e:∀v,D (d.set u (D d x+1)) v=if v=u then D d x+1 else D d v:=λv=>CX _ _ _ _ (by omega);have G:=YZ (x:=D d x+1) (by omega:u<d.length) t (by omega);refine⟨⟨by simp[o],λv f=> ?_,λv f=> ?_,λv f=> ?_,λv f=> ?_⟩,⟨λy j=> ?_,λv f=> ?_,?_,λv f k n H w A i=> ?_⟩⟩
 ·rw[e];split
  ·omega
  ·exact l.lo v f
 ·rw[e];split
  ·rename_i h;subst h;have:=(l.zero v f)
   constructor
   ·intro;omega
   ·intro h;have:=this.2 h;omega
  ·exact l.zero v f
 ·rw[e];split
  ·rename_i h;subst h;intro _;refine⟨x,B,E.back B F,?_⟩
   rw[e,if_neg (by intro h;subst h;omega)];omega
  ·intro k;obtain⟨w,A,i,I⟩:=l.near v f k;refine⟨w,A,i,?_⟩
   rw[e,if_neg (by intro h;subst h;omega)];exact I
 ·rw[e];split
  ·have:=l.hi x B;omega
  ·have:=l.hi v f;omega
 ·rcases List.mem_append.1 j with j|j
  ·obtain⟨v,f,rfl,k⟩:=m.mem y j;refine⟨v,f,rfl,?_⟩
   rw[e];split<;>omega
  ·simp only[List.mem_singleton]at j;refine⟨u,J,j,?_⟩
   rw[e,if_pos Z];omega
 ·rw[e];split
  ·omega
  ·exact m.top v f
 ·rw[List.pairwise_append];have n:∀y∈q,at' (d.set u (D d x+1)) y=at' d y:=by
   intro y j;obtain⟨v,f,rfl,k⟩:=m.mem y j;have:=e v;rw[if_neg (by intro h;subst h;omega)]at this;exact this
  refine⟨m.sort.imp_of_mem λ{a c} h1 r h=> ?_,List.pairwise_singleton ..,λy j z C=> ?_⟩
  ·rw[n a h1,n c r];exact h
  ·simp only[List.mem_singleton]at C;subst C;rw[n y j];have r:=e u;rw[if_pos Z]at r;obtain⟨v,f,rfl,k⟩:=m.mem y j;have:=m.top v f;show D d v<=D (d.set u (D d x+1)) u;omega
 ·have p:v≠u:=by
   rintro rfl;exact n (by simp)
  rw[e,if_neg p]at k;rw[e v,if_neg p];have:=m.done v f k (λh=>n (List.mem_append_left _ h)) H w A i;rw[e w,if_neg (by rintro rfl;omega)];exact this
theorem Kv (g:GR) (v:Nat) (u:Int) (m:v<g.2.length) (l:(row g v).length<=30):kO 1000 g v u=some (Cm (row g v) u):=by
 unfold kO;rw[cV (by omega)];rcases CO (row g v) u with⟨i,j,h,c,b⟩|⟨c,b⟩
 ·rw[b];refine Ho (λx:Int=>∃k:Nat,x=k∧k<=i) (λx=>31 - x.toNat) ?_ 1000 _ ⟨0,rfl,by omega⟩ (by omega);rintro x d ⟨k,rfl,f⟩ a;unfold xZ;rw[if_pos (show(k:Int)<((row g v).length:Int) by omega),cV (show 0<=(k:Int)∧(k:Int)<((row g v).length:Int) by omega)];by_cases e:k=i
  ·subst e;exact if_pos h
  ·rw[if_neg (c k (by omega)),wr (by omega) (by omega)];exact a _ ⟨k+1,by omega,by omega⟩ (by omega)
 ·rw[b];refine Ho (λx:Int=>∃k:Nat,x=k∧k<=(row g v).length) (λx=>31 - x.toNat) ?_ 1000 _ ⟨0,rfl,by omega⟩ (by omega);rintro x d ⟨k,rfl,f⟩ a;unfold xZ;by_cases e:k<(row g v).length
  ·rw[if_pos (show(k:Int)<((row g v).length:Int) by omega),cV (show 0<=(k:Int)∧(k:Int)<((row g v).length:Int) by omega),if_neg (c k e),wr (by omega) (by omega)];exact a _ ⟨k+1,by omega,by omega⟩ (by omega)
  ·rw[if_neg (show¬(k:Int)<((row g v).length:Int) by omega)];rfl
section
def alo (f:Nat->Nat):Nat->Nat
 |0=>0
 |k+1=>alo f k+f k
open Classical in
noncomputable def ind (p:Prop):Nat:=if p then 1 else 0
end
theorem NO (a:Nat) (h:a<4294967296):IntKind.u32.wrap (a:Int)=a:=by rw[<-FX];exact if_pos ⟨by omega,by omega⟩
def Ox (x:Int):Nat:=(BitVec.ofInt 32 x).toNat
theorem Mi (x:Int):Ox x<4294967296:=(BitVec.ofInt 32 x).isLt
theorem xU {a:Nat} (h:a<4294967296):Ox (a:Int)=a:=by
 unfold Ox;rw[BitVec.ofInt_natCast,BitVec.toNat_ofNat];exact Nat.mod_eq_of_lt h
theorem PP (x y:Int):dD .u32 x y=((Ox x &&& Ox y:Nat):Int):=by
 show IntKind.u32.wrap (((BitVec.ofInt 32 x &&& BitVec.ofInt 32 y).toNat:Nat):Int)=_;rw[BitVec.toNat_and];exact NO _ (Nat.lt_of_le_of_lt Nat.and_le_left (Mi x))
theorem aeq (x y:Int):I_ .u32 x y=((Ox x ||| Ox y:Nat):Int):=by
 show IntKind.u32.wrap (((BitVec.ofInt 32 x ||| BitVec.ofInt 32 y).toNat:Nat):Int)=_;rw[BitVec.toNat_or];exact NO _ (Nat.or_lt_two_pow (n:=32) (Mi x) (Mi y))
theorem Yy (x y:Int):jS .u32 x y=0↔∀i,(Ox x).testBit i=true->(Ox y).testBit i=true:=by
 have e:jS .u32 x y=(((BitVec.ofInt 32 x &&& ~~~ BitVec.ofInt 32 y).toNat:Nat):Int):=NO _ (BitVec.ofInt 32 x &&& ~~~ BitVec.ofInt 32 y).isLt;have b:∀i,(BitVec.ofInt 32 x &&& ~~~ BitVec.ofInt 32 y).toNat.testBit i=((Ox x).testBit i&&(decide (i<32) && !(Ox y).testBit i)):=by
  intro i;have:=BitVec.getLsbD_and (x:=BitVec.ofInt 32 x) (y:= ~~~ BitVec.ofInt 32 y) (i:=i);rw[BitVec.getLsbD_not]at this;exact this
 have d:∀i,(Ox x).testBit i=true->i<32:=by
  intro i a;apply Classical.byContradiction;intro f;rw[Nat.testBit_lt_two_pow (zAj (Mi x) (Nat.pow_le_pow_right (n:=2) (by omega) (show 32<=i by omega)))]at a;cases a
 rw[e];constructor
 ·intro h i a;have c:(BitVec.ofInt 32 x &&& ~~~ BitVec.ofInt 32 y).toNat=0:=by omega
  have:=b i;rw[c,zBf,a,zA5 (d i a)]at this;simpa using this
 ·intro h;have:(BitVec.ofInt 32 x &&& ~~~ BitVec.ofInt 32 y).toNat=0:=by
   apply zBh;intro i;rw[b i,zBf];cases a:(Ox x).testBit i with
   |false=>rfl
   |true=>rw[h i a];simp
  omega
theorem H_ {k:Nat} (a:k<32):2^k<4294967296:=Nat.pow_lt_pow_right (n:=32) (by omega) a
theorem Yz {k:Nat} (a:k<32):AS .u32 1 (k:Int)=((2^k:Nat):Int):=by
 show IntKind.u32.wrap (1*2^(min ((k:Int).toNat) 32))=_;rw[zAh,Nat.min_eq_left (by omega),Int.one_mul,show(2:Int)^k=((2^k:Nat):Int) by simp];exact NO _ (H_ a)
theorem LG {a k:Nat} (b:k<32):pQ .u32 (a:Int) (k:Int)=((a / 2^k:Nat):Int):=by
 show Int.fdiv (a:Int) (2^(min ((k:Int).toNat) 32))=_;rw[zAh,Nat.min_eq_left (by omega),show(2:Int)^k=((2^k:Nat):Int) by simp,Int.fdiv_eq_ediv_of_nonneg _ (Int.natCast_nonneg _)];simp
theorem Qo {a k:Nat} (d:k<32) (c:a<4294967296):dD .u32 (pQ .u32 (a:Int) (k:Int)) 1=1↔a.testBit k=true:=by
 have b:Ox 1=1:=xU (a:=1) (by omega);rw[LG d,PP,xU (Nat.lt_of_le_of_lt (Nat.div_le_self _ _) c),b,Nat.and_one_is_mod,Nat.testBit_eq_decide_div_mod_eq,zA8];omega
def Mf (g:GR) (s:Nat):Prop:=(∀v,s.testBit v=true->v<g.2.length)∧∀v u,s.testBit v=true->s.testBit u=true->¬NP g v u
theorem Yt {g:GR} (a:VG g):uN 1000 g=some ((2^g.2.length - 1:Nat):Int):=by
 have c:=a.n24;have d:=a.len;have e:=H_ (show g.2.length<32 by omega);have b:1<=2^g.2.length:=Nat.one_le_two_pow;unfold uN;rw[cV (by omega),d,Yz (by omega),show((2^g.2.length:Nat):Int) - 1=((2^g.2.length - 1:Nat):Int) by omega];congr 1;exact if_pos ⟨by omega,by omega⟩
theorem XN {k:Nat} (a:k<32):wI .u64 (k:Int)=k:=by
 show IntKind.u64.wrap (k:Int)=k;have:∀j:Fin 32,IntKind.u64.wrap ((j.1:Nat):Int)=(j.1:Nat):=by decide
 exact this ⟨k,a⟩
theorem Gv {s v:Nat} (b:s<4294967296) (a:v<32):pW 1000 (s:Int) (v:Int)=some (s.testBit v):=by
 unfold pW vZ;rw[if_pos (by omega),if_pos (by omega),XN a,cV (by omega)];congr 1;by_cases h:s.testBit v=true
 ·rw[h];exact zA5 ((Qo a b).2 h)
 ·rw[Bool.not_eq_true]at h;rw[h];exact zA7 λc=>by rw[(Qo a b).1 c]at h;cases h
def T (e:aY) (k v w:Nat):Int:=if 0<=D e w∧(D e w<k∨(D e w=k∧w<v))then D e w else -1
theorem NY (l:aY) (h:l.length<=30):vV 1000 l l=some true:=by
 unfold vV;rw[if_neg (by simp)];refine Ho (λz:Int=>∃k:Nat,z=k∧k<=l.length) (λz=>31 - z.toNat) ?_ 1000 _ ⟨0,rfl,by omega⟩ (by simp);rintro z c ⟨k,rfl,d⟩ a;unfold Aw tS;by_cases b:k<l.length
 ·rw[if_pos (by omega),cV (by omega),cV (by omega),if_neg (by simp),wr (by omega) (by omega)];exact a _ ⟨k+1,by simp,by omega⟩ (by omega)
 ·rw[if_neg (by omega)]
theorem ZJ {X R:Type} {step:X->(X->Option R)->Option R} {K:X->Option R} {bad:R} (N:Nat) (p:Nat->Prop) (I:Nat->X->Prop) (B:Nat)
  (t:∀(k:Nat) x q,k<N->k<B->I k x->p k->∃c,I (k+1) c∧step x q=q c) (l:∀(k:Nat) x q,k<N->k<B->I k x->¬p k->step x q=some bad) (s:∀x q,I N x->N<B->step x q=K x):
  ∀(b:Nat) (x:X),I 0 x->B<=b->(N<B∨∃k,k<N∧k<B∧¬p k)->((∀k,k<N->p k)->∃c,I N c∧bL step b x=K c)∧(¬(∀k,k<N->p k)->bL step b x=some bad):=by
 intro b x e v hB;have r:∀(d a b:Nat) (x:X),I a x->a+d<N->a+d<B->¬p (a+d)->d<b->bL step b x=some bad:=by
  intro d
  induction d with
  |zero=>
   intro a b x e j g i v;obtain⟨f,rfl⟩:∃f,b=f+1:=⟨b - 1,by omega⟩
   exact l a x _ j g e i
  | succ d y =>
   intro a b x e j g i v;obtain⟨f,rfl⟩:∃f,b=f+1:=⟨b - 1,by omega⟩
   by_cases u:p a
   ·obtain⟨c,n,o⟩:=t a x (bL step f) (by omega) (by omega) e u;have o:bL step (f+1) x=bL step f c:=o;rw[o];exact y (a+1) f c n (by omega) (by omega) (by rw[show a+1+d=a+(d+1) by omega];exact i) (by omega)
   ·exact l a x _ (by omega) (by omega) e u
 have m:∀(d a b:Nat) (x:X),I a x->a+d=N->N<B->(∀k,a<=k->k<N->p k)->d<b->∃c,I N c∧bL step b x=K c:=by
  intro d
  induction d with
  |zero=>
   intro a b x e j g i v;obtain⟨f,rfl⟩:∃f,b=f+1:=⟨b - 1,by omega⟩
   obtain rfl:a=N:=by omega
   exact⟨x,e,s x _ e g⟩
  |succ d y=>
   intro a b x e j g i v;obtain⟨f,rfl⟩:∃f,b=f+1:=⟨b - 1,by omega⟩
   obtain⟨c,n,o⟩:=t a x (bL step f) (by omega) (by omega) e (i a (zAd _) (by omega));have o:bL step (f+1) x=bL step f c:=o;rw[o];exact y (a+1) f c n (by omega) g (λk j g=>i k (by omega) g) (by omega)
 constructor
 ·intro h;rcases hB with hB|⟨k,j,_,g⟩
  ·exact m N 0 b x e (by omega) hB (λk _ w=>h k w) (by omega)
  ·exact absurd (h k j) g
 ·intro h;have:∃k,k<N∧k<B∧¬p k:=by
   rcases hB with hB|hB
   ·apply Classical.byContradiction;intro A;exact h λk w=>Classical.byContradiction λi=>A ⟨k,w,by omega,i⟩
   ·exact hB
  obtain⟨k,j,g,z⟩:=this;exact r k 0 b x e (by omega) (by omega) (by rw[Nat.zero_add];exact z) (by omega)
theorem XD {a:iA} (q:a.length<=30) {v:Nat} (r:v<a.length):(at' a (v:Int)).length<1000∨∃k,k<(at' a (v:Int)).length∧k<1000∧¬J_ (at' a (v:Int)) v a.length k:=by
 by_cases h:(at' a (v:Int)).length<1000
 ·exact .inl h
 ·right;apply Classical.byContradiction;intro f;have b:∀k,k<40->J_ (at' a (v:Int)) v a.length k:=λk p=>Classical.byContradiction λl=>f ⟨k,by omega,by omega,l⟩;have:=QE a.length (λi=>(jT (at' a (v:Int)) i).1.toNat) 40 (λi g=>by have:=(b i g).1;omega) (λi j c d o=>by
   have m:=(b i (by omega)).1;have n:=(b j d).1;have e:=(b j d).2.2.2 i c;exact e (by omega))
  omega
theorem Fv (g:GR):(VG g->iZ 1000 g=some true)∧(¬VG g->iZ 1000 g=some false):=by
 unfold iZ;rw[rT,bA Z];by_cases y:1<=g.2.length∧g.2.length<=24
 rotate_left
 ·rw[zA7 (by omega)];exact⟨λh=>absurd ⟨h.n1,h.n24⟩ y,λ_=>rfl⟩
 rw[zA5 (by omega),if_neg (by simp)];by_cases G:g.1.length=g.2.length
 rotate_left
 ·rw[zA5 (by omega)];exact⟨λh=>absurd h.len G,λ_=>rfl⟩
 rw[zA7 (by omega)];unfold uV;rw[if_neg (by simp)];have o:∀(v:Nat) (b:Int->Option Bool),v<g.2.length->((∀k,k<v->HJ g k≠HJ g v)->bL (h_ g v b) 1000 0=b ((v:Int)+1))∧(¬(∀k,k<v->HJ g k≠HJ g v)->bL (h_ g v b) 1000 0=some false):=by
  intro v b e;refine Bu v _ (λk a B c=> ?_) (λk a B c=> ?_) (λa=> ?_) 1000 (by omega)
  ·unfold h_;rw[if_pos (by omega),cV (by omega),cV (by omega),if_neg c,wr (by omega) (by omega)]
  ·unfold h_;rw[if_pos (by omega),cV (by omega),cV (by omega),if_pos (zAy.1 c)]
  ·unfold h_ uZ;rw[if_neg (by omega),wr (by omega) (by omega)]
 have l:=Bu (step:=gS 1000 g) (K:=oH 1000 g ()) (bad:=false) g.2.length (Mk g) (λv b e c=> ?_) (λv b e c=> ?_) (λb=> ?_) 1000 (by omega)
 rotate_left
 ·unfold gS mB;rw[if_pos (by omega),cV (by omega),rT,zA5 c.id,bA Z,if_neg (by simp),cV (by omega),if_neg (show¬((g.2.length:Int)<=((row g v).length:Int))from by have:=c.deg;omega),cV (by omega),(sZ (row g v) v g.2.length (by have:=c.deg;omega) (by omega)).1 c.links,bA Z,if_neg (by simp)];exact(o v b e).1 c.ids
 ·unfold gS mB;rw[if_pos (by omega),cV (by omega),rT];by_cases w:0<=HJ g v∧HJ g v<=255
  rotate_left
  ·rw[zA7 w];rfl
  rw[zA5 w,bA Z,if_neg (by simp),cV (by omega)];by_cases H:(row g v).length<g.2.length
  rotate_left
  ·rw[if_pos (show(g.2.length:Int)<=((row g v).length:Int) by omega)];rfl
  rw[if_neg (show¬(g.2.length:Int)<=((row g v).length:Int) by omega),cV (by omega)];by_cases x:qK (row g v) v g.2.length
  rotate_left
  ·rw[(sZ (row g v) v g.2.length (by omega) (by omega)).2 x];rfl
  rw[(sZ (row g v) v g.2.length (by omega) (by omega)).1 x,bA Z,if_neg (by simp)];exact(o v b e).2 λI=>c ⟨w,H,x,I⟩
 ·unfold gS;rw[if_neg (by omega)]
 by_cases p:∀v,v<g.2.length->Mk g v
 rotate_left
 ·exact⟨λh=>absurd h.node p,λ_=>l.2 p⟩
 rw[l.1 p];unfold oH;have f:∀(v:Nat) (b:Int->Option Bool),v<g.2.length->((∀i,i<(row g v).length->AZ g v i)->bL (fL 1000 g v b) 1000 0=b ((v:Int)+1))∧(¬(∀i,i<(row g v).length->AZ g v i)->bL (fL 1000 g v b) 1000 0=some false):=by
  intro v b e;have M:=(p v e).deg;have n:∀(i:Nat) a,i<(row g v).length->(AZ g v i->fL 1000 g v b i a=a ((i:Int)+1))∧(¬AZ g v i->fL 1000 g v b i a=some false):=by
   intro i a r;unfold fL;rw[cV (by omega),if_pos (show(i:Int)<((row g v).length:Int) by omega),cV (by omega),cV (show 0<=(i:Int)∧(i:Int)<((row g v).length:Int) by omega)];have O:=((p v e).links i r).1;obtain⟨u,F⟩:∃u:Nat,(jT (row g v) i).1=u:=⟨(jT (row g v) i).1.toNat,by omega⟩
   have q:u<g.2.length:=by omega
   unfold AZ;rw[show(at' (at' g.2 (v:Int)) (i:Int))=jT (row g v) i from rfl,F,Nn g u v q (by have:=(p u q).deg;omega),bA Z];have E:=(p u q).links;rcases CO (row g u) v with⟨j,t,m,A,z⟩|⟨J,z⟩
   ·rw[z,if_neg (by omega),cV (by omega),cV (show 0<=(j:Int)∧(j:Int)<((at' g.2 (u:Int)).length:Int)from⟨by omega,by have:j<(row g u).length:=t;exact_mod_cast this⟩)];unfold uY;constructor
    ·rintro⟨k,B,s,D⟩;have C:k=j:=by
      rcases zAx k j with h|h|h
      ·exact absurd s (A k h)
      ·exact h
      ·exact absurd (m.trans s.symm) ((E k B).2.2.2 j h)
     subst C;rw[if_neg (by rw[zA7];simp;exact λh=>h D),wr (by omega) (by omega)]
    ·intro h;rw[if_pos];exact zA5 λN=>h ⟨j,t,m,N⟩
   ·rw[z,if_pos (by decide)];exact⟨fun⟨j,t,m,_⟩=>absurd m (J j t),λ_=>rfl⟩
  refine Bu (row g v).length _ (λi a r c=>(n i a r).1 c) (λi a r c=>(n i a r).2 c) (λa=> ?_) 1000 (by omega);unfold fL uX;rw[cV (by omega),if_neg (show¬(((row g v).length:Nat):Int)<((row g v).length:Int) by omega),wr (by omega) (by omega)]
 have d:=Bu (step:=gR 1000 g) (K:=some true) (bad:=false) g.2.length (λv=>∀i,i<(row g v).length->AZ g v i) (λv b e c=> ?_) (λv b e c=> ?_) (λb=> ?_) 1000 (by omega)
 ·exact⟨λh=>d.1 h.sym,λh=>d.2 λL=>h ⟨y.1,y.2,G,p,L⟩⟩
 ·unfold gR;rw[if_pos (by omega)];exact(f v b e).1 c
 ·unfold gR;rw[if_pos (by omega)];exact(f v b e).2 c
 ·unfold gR uW;rw[if_neg (by omega)]
theorem Ic (c:iA) (hn:c.length<=30):(Oy c->iL 1000 c=some true)∧(¬Oy c->iL 1000 c=some false):=by
 unfold iL;have s:∀(v:Nat) (m:List ((Int×Int)×Int)) p,v<c.length->(∀z,z∈m↔RH c v 0 z)->
   (qK (at' c (v:Int)) v c.length->∃Y,(∀z,z∈Y↔RH c (v+1) 0 z)∧bL (dM c ((v:Int),m) p) 1000 ((0:Int),m)=p ((v:Int)+1,Y))∧
   (¬qK (at' c (v:Int)) v c.length->bL (dM c ((v:Int),m) p) 1000 ((0:Int),m)=some false):=by
  intro v m p F hm;have L:=XD hn F;have S:=ZJ (step:=dM c ((v:Int),m) p) (K:=λx=>p ((v:Int)+1,x.2)) (bad:=false) (at' c (v:Int)).length (J_ (at' c (v:Int)) v c.length) (λi x=>x.1=(i:Int)∧∀z,z∈x.2↔RH c v i z) 1000 ?_ ?_ ?_ 1000 ((0:Int),m) ⟨rfl,hm⟩ (by omega) L
  ·refine⟨λh=> ?_,λh=>S.2 h⟩
   obtain⟨x,⟨ah,ae⟩,f⟩:=S.1 h;refine⟨x.2,λz=>(ae z).trans ⟨?_,?_⟩,f⟩
   ·rintro⟨a,b,y,e,l⟩;exact⟨a,b,by omega,e,l⟩
   ·rintro⟨a,b,y,e,l⟩;refine⟨a,b,?_,e,l⟩
    by_cases X:a=v
    ·subst X;exact .inr ⟨rfl,e⟩
    ·omega
  ·rintro i ⟨H,g⟩ I N ac ⟨f,d⟩ ⟨p1,p2,p3,p4⟩;dsimp only at f d;subst f;have q:nM (((v:Int),(jT (at' c (v:Int)) i).1)) g=none:=by
    apply Kq;intro w hw;obtain⟨a,b,y,e,l⟩:=(d _).1 hw;simp only[Prod.mk.injEq]at l;obtain⟨⟨C,A⟩,_⟩:=l;have:a=v:=by omega
    subst this;have hb:b<i:=by omega
    exact p4 b hb A.symm
   refine⟨((i:Int)+1,Fq (((v:Int),(jT (at' c (v:Int)) i).1)) (jT (at' c (v:Int)) i).2 g),⟨by simp,λz=> ?_⟩,?_⟩
   ·dsimp only;rw[SB q,d];constructor
    ·rintro(rfl|⟨a,b,y,e,l⟩)
     ·exact⟨v,i,.inr ⟨rfl,by omega⟩,N,rfl⟩
     ·exact⟨a,b,by omega,e,l⟩
    ·rintro⟨a,b,y,e,l⟩;by_cases J:a=v∧b=i
     ·left;rw[l,J.1,J.2]
     ·right;exact⟨a,b,by omega,e,l⟩
   ·replace p1:0<=(at' (at' c (v:Int)) (i:Int)).1∧(at' (at' c (v:Int)) (i:Int)).1<=(c.length:Int) - 1:=p1;replace p3:1<=(at' (at' c (v:Int)) (i:Int)).2∧(at' (at' c (v:Int)) (i:Int)).2<=15:=p3;unfold dM iS jZ;dsimp only;rw[if_pos (by omega),cV (by omega),if_neg (by omega),if_neg (by omega),if_neg (by rw[zA7 p2];simp),if_neg (by omega),if_neg (by rw[zA7 (by omega)];simp),q,if_neg (by simp),wr (by omega) (by omega)]
  ·rintro i ⟨H,g⟩ I N ac ⟨f,d⟩ Q;dsimp only at f d;subst f;unfold dM iS jZ;dsimp only;rw[if_pos (by omega),cV (by omega)];by_cases y:(jT (at' c (v:Int)) i).1<0
   ·rw[if_pos y,if_pos Z]
   rw[if_neg y];by_cases e:(c.length:Int)<=(jT (at' c (v:Int)) i).1
   ·rw[if_pos e,if_pos Z]
   rw[if_neg e];by_cases l:(jT (at' c (v:Int)) i).1=v
   ·rw[if_pos (zA5 l)]
   rw[if_neg (by rw[zA7 l];simp)];by_cases C:(jT (at' c (v:Int)) i).2<1
   ·rw[if_pos C,if_pos Z]
   rw[if_neg C];by_cases A:15<(jT (at' c (v:Int)) i).2
   ·rw[if_pos (zA5 A)]
   rw[if_neg (by rw[zA7 A];simp)];have:∃k,k<i∧(jT (at' c (v:Int)) k).1=(jT (at' c (v:Int)) i).1:=by
    apply Classical.byContradiction;intro hc;exact Q ⟨by omega,l,by omega,λk O M=>hc ⟨k,O,M⟩⟩
   obtain⟨k,O,M⟩:=this;have n:=(d _).2 ⟨v,k,.inr ⟨rfl,O⟩,by omega,rfl⟩;rw[if_pos];rw[<-M];cases q:nM (((v:Int),(jT (at' c (v:Int)) k).1)) g with
   |some w=>rfl
   | none => exact absurd n (by
     intro n;exact xD q n)
  ·rintro⟨H,g⟩ I ⟨f,d⟩ _;dsimp only at f d;subst f;unfold dM nW;dsimp only;rw[if_neg (by omega),wr (by omega) (by omega)]
 have t:=Jm (step:=eJ 1000 c) (K:=λx=>jY x.2) (bad:=false) c.length (λv=>qK (at' c (v:Int)) v c.length) (λv x=>x.1=(v:Int)∧∀z,z∈x.2↔RH c v 0 z) ?_ ?_ ?_ 1000 ((0:Int),[]) ⟨rfl,λz=>⟨λh=>(by cases h),fun⟨a,b,y,_⟩=>(by omega)⟩⟩ (by omega)
 rotate_left
 ·rintro v ⟨H,g⟩ p F ⟨f,d⟩ Q;dsimp only at f d;subst f;obtain⟨Y,y,e⟩:=(s v g p F d).1 Q;refine⟨((v:Int)+1,Y),⟨by simp,y⟩,?_⟩
  ·unfold eJ;dsimp only;rw[if_pos (by omega),cV (by omega)];exact e
 ·rintro v ⟨H,g⟩ p F ⟨f,d⟩ Q;dsimp only at f d;subst f;unfold eJ;dsimp only;rw[if_pos (by omega),cV (by omega)];exact(s v g p F d).2 Q
 ·rintro⟨H,g⟩ p ⟨f,d⟩;dsimp only at f d;subst f;unfold eJ;dsimp only;rw[if_neg (by omega)]
 by_cases D:∀v,v<c.length->qK (at' c (v:Int)) v c.length
 rotate_left
 ·exact⟨λh=>absurd h.1 D,λ_=>t.2 D⟩
 obtain⟨⟨H,g⟩,⟨f,d⟩,M⟩:=t.1 D;rw[M];dsimp only at d ⊢;have O:jY g=some (decide (∀z∈g,¬(Option.getD (nM (z.1.2,z.1.1) g) (0:Int))≠z.2)):=Nf (λz:(Int×Int)×Int=>(Option.getD (nM (z.1.2,z.1.1) g) (0:Int))≠z.2) g;rw[O];have E:(∀z∈g,¬(Option.getD (nM (z.1.2,z.1.1) g) (0:Int))≠z.2)↔∀v,v<c.length->∀i,i<(at' c (v:Int)).length->AZ ([],c) v i:=by
  constructor
  ·intro h v F i N;have hw:=(D v F i N).2.2.1;have n:=(d (((v:Int),(jT (at' c (v:Int)) i).1),(jT (at' c (v:Int)) i).2)).2 ⟨v,i,.inl F,N,rfl⟩;have e:=zAy.1 (h _ n);dsimp only at e;cases q:nM ((jT (at' c (v:Int)) i).1,(v:Int)) g with
   |none=>rw[q]at e;simp only[Option.getD]at e;omega
   | some w =>
    rw[q]at e;simp only[Option.getD]at e;obtain⟨a,b,l,C,A⟩:=(d _).1 (ED q);simp only[Prod.mk.injEq]at A;obtain⟨⟨U,V⟩,h8⟩:=A;refine⟨b,?_,?_,?_⟩
    ·show b<(at' c (jT (at' c (v:Int)) i).1).length;rw[U];exact C
    ·show(jT (at' c (jT (at' c (v:Int)) i).1) b).1=v;rw[U];exact V.symm
    ·show(jT (at' c (jT (at' c (v:Int)) i).1) b).2=(jT (at' c (v:Int)) i).2;rw[U,<-h8];exact e
  ·intro h z hz ad;obtain⟨a,b,l,C,rfl⟩:=(d z).1 hz;have X:a<c.length:=by omega
   apply ad;obtain⟨j,r,o,B⟩:=h a X b C;have hu:=(D a X b C).1;obtain⟨u,R⟩:∃u:Nat,(jT (at' c (a:Int)) b).1=u:=⟨(jT (at' c (a:Int)) b).1.toNat,by omega⟩
   replace r:j<(at' c (jT (at' c (a:Int)) b).1).length:=r;replace o:(jT (at' c (jT (at' c (a:Int)) b).1) j).1=a:=o;replace B:(jT (at' c (jT (at' c (a:Int)) b).1) j).2=(jT (at' c (a:Int)) b).2:=B;rw[R]at r o B;have G:u<c.length:=by omega
   dsimp only;rw[R,<-B];have n:=(d (((u:Int),(jT (at' c (u:Int)) j).1),(jT (at' c (u:Int)) j).2)).2 ⟨u,j,.inl G,r,rfl⟩;rw[o]at n;cases q:nM ((u:Int),(a:Int)) g with
   |none=>exact absurd n (xD q)
   | some w =>
    obtain⟨a',T,af,aa,A⟩:=(d _).1 (ED q);simp only[Prod.mk.injEq]at A;obtain⟨⟨U,V⟩,h8⟩:=A;have:a'=u:=by omega
    subst this;have ab:T=j:=by
     rcases zAx T j with P|P|P
     ·exact absurd (V.symm.trans o.symm) ((D a' G j r).2.2.2 T P)
     ·exact P
     ·exact absurd (o.trans V) ((D a' G T aa).2.2.2 j P)
    subst ab;exact h8
 by_cases W:∀v,v<c.length->∀i,i<(at' c (v:Int)).length->AZ ([],c) v i
 ·rw[zA5 (E.2 W)];exact⟨λ_=>rfl,λh=>absurd ⟨D,W⟩ h⟩
 ·rw[zA7 (λh=>W (E.1 h))];exact⟨λh=>absurd h.2 W,λ_=>rfl⟩
theorem XM (g:GR):(VG g->iY 1000 g=some true)∧(¬VG g->iY 1000 g=some false):=by
 unfold iY rE rF;by_cases e:g.1.length<1
 ·rw[if_pos (by omega)];exact⟨λh=>by have:=h.n1;have:=h.len;omega,λ_=>rfl⟩
 rw[if_neg (by omega)];by_cases f:24<g.1.length
 ·rw[if_pos (by omega)];exact⟨λh=>by have:=h.n24;have:=h.len;omega,λ_=>rfl⟩
 rw[if_neg (by omega)];by_cases d:g.1.length=g.2.length
 rotate_left
 ·rw[zA5 (by omega)];exact⟨λh=>absurd h.len d,λ_=>rfl⟩
 rw[zA7 (by omega),if_neg (by simp)];by_cases b:∀k,k<g.1.length->XX g.1 k
 rotate_left
 ·rw[(xV g.1 (by omega)).2 b,bA Z];exact⟨λh=>absurd (λk i=>⟨(h.node k (by omega)).id,(h.node k (by omega)).ids⟩) b,λ_=>rfl⟩
 rw[(xV g.1 (by omega)).1 b,bA Z,if_pos Z];by_cases a:Oy g.2
 ·rw[(Ic g.2 (by omega)).1 a];exact⟨λ_=>rfl,λh=>absurd ⟨by omega,by omega,d,λv c=>⟨(b v (by omega)).1,Ul c (a.1 v c),a.1 v c,(b v (by omega)).2⟩,a.2⟩ h⟩
 ·rw[(Ic g.2 (by omega)).2 a];exact⟨λh=>absurd ⟨λv c=>(h.node v c).links,h.sym⟩ a,λ_=>rfl⟩
abbrev TQ:=EM
theorem wB (v m:Int) (g:1<=m) (h:m<=4611686018427387904):hZ 1000 v m=some (v%m):=by
 unfold hZ sX;rw[if_neg (by omega),cV (by omega)];have c:=Int.tmod_eq_emod (a:=v) (b:=m);have f:=Int.emod_nonneg v (show m≠0 by omega);have i:=Int.emod_lt_of_pos v (show 0<m by omega);by_cases e:0<=v∨m∣v
 ·rw[if_pos e]at c;have d:v.tmod m=v%m:=by simpa using c
  rw[d,if_neg (by omega)]
 ·rw[if_neg e]at c;have:(m.natAbs:Int)=m:=by omega
  rw[c,if_pos (by omega),wr (by omega) (by omega)];congr 1;omega
theorem Sb (l:aY) (i:Int) (h:0<=i):uS 1000 l i=some (at' l i):=by
 unfold uS;by_cases a:i<(l.length:Int)
 ·rw[if_pos a,cV ⟨h,a⟩]
 ·rw[if_neg a];unfold at';rw[zA6,zAt (by omega)];rfl
theorem SK {i:Type} [DecidableEq i]:∀(e c:List i),e.Nodup->(∀x∈e,x∈c)->e.length<=c.length
 | [],_,_,_=>Nat.zero_le _
 | a :: t, c, hn, hs => by
  have b:=zBc.1 hn;have f:=hs a (zAb ..);have:=SK t (c.erase a) b.2 λx h=>by
   have d:x≠a:=λj=>b.1 (j▸h);exact(List.mem_erase_of_ne d).2 (hs x (zAf _ h))
  rw[List.length_erase_of_mem f]at this;have g:0<c.length:=List.length_pos_of_mem f;simp only[zAk];omega
theorem aaD (d:Int) (c:aY) (t:Nat) (k:t<=200) (h:∀s,s<t->(d+(s:Int))%256∈c):t<=c.length:=by
 have:=SK ((List.range t).map λs:Nat=>(d+(s:Int))%256) c (by
  rw[List.nodup_iff_pairwise_ne,List.pairwise_map];refine List.Pairwise.imp_of_mem ?_ List.pairwise_lt_range;intro a b e g f;rw[zAm]at e g;omega) (λx j=>by
  obtain⟨s,i,rfl⟩:=zB4.1 j;exact h s (zAm.1 i))
 simpa using this
structure Me (ids:aY):Prop where
 rng:∀y∈ids,0<=y∧y<=255
 nd:ids.Nodup
theorem Me.snoc {c:aY} {y:Int} (h:Me c) (j:0<=y∧y<=255) (i:y∉c):Me (c++[y]):=by
 refine⟨λz d=> ?_,?_⟩
 ·rcases List.mem_append.1 d with d|d
  ·exact h.rng z d
  ·rw[List.mem_singleton.1 d];exact j
 ·rw[List.nodup_append];refine⟨h.nd,by simp,?_⟩
  intro a e b f;rw[List.mem_singleton.1 f];exact λg=>i (g▸e)
theorem EC {a:Type} [Inhabited a] {l:List a} {i:Nat} (h:i<l.length):at' l (i:Int)∈l:=by
 rw[lQ,zA6,zA0 h];exact List.getElem_mem h
theorem Kd {a:Type} [Inhabited a] {l:List a} {x:a} (h:x∈l):∃i,i<l.length∧at' l ((i:Nat):Int)=x:=by
 obtain⟨i,b,c⟩:=List.getElem_of_mem h;refine⟨i,b,?_⟩
 rw[lQ,zA6,zA0 b];exact c
theorem ZA {Q:List Int×iA->Prop} {a:aY} (H:a.length<=24) (b:Int) (r:rU->Option (List Int×iA))
  (m:∀y,0<=y->y<=255->y∉a->OK Q (r ((a.length:Int)+1,a++[y]))):OK Q (bL (lX ((a.length:Int),a) r) 1000 (b%256,0)):=by
 refine Fi (λs:eV=>∃(t u:Nat),s.1=(b+(t:Int))%256∧s.2=u∧u<=a.length∧t<=a.length∧(∀k,k<t->(b+(k:Int))%256∈a)∧∀j,j<u->at' a (j:Int)≠s.1)
  (λs=>(a.length - ((s.1 - b)%256).toNat)*30+(a.length - s.2.toNat)) ?_ 1000 _ ⟨0,0,by simp,rfl,by omega,by omega,λk p=>by omega,λj o=>by omega⟩ ?_
 ·rintro⟨i,j⟩ z ⟨t,u,g,v,F,C,w,l⟩ d;dsimp only at g v l;subst v;unfold lX uF lW;dsimp only;by_cases x:(u:Int)<(a.length:Int)
  ·rw[if_pos x,cV (by omega)];by_cases f:at' a (u:Int)=i
   ·rw[if_pos f,cV (by decide)];have n:(b+(t:Int))%256∈a:=by rw[<-g,<-f];exact EC (by omega)
    have c:∀k,k<t+1->(b+(k:Int))%256∈a:=λk p=>by
     rcases Nat.lt_succ_iff_lt_or_eq.1 p with h|h
     ·exact w k h
     ·subst h;exact n
    have E:=aaD b a (t+1) (by omega) c;have G:0<=i∧i<=255:=by omega
    rw[wr (by omega) (by omega),Int.tmod_eq_emod_of_nonneg (by omega),wr (by omega) (by omega)];refine d _ ⟨t+1,0,?_,by simp,by omega,E,c,λj o=>by omega⟩ ?_
    ·dsimp only;omega
    ·dsimp only;have A:((i+1)%256 - b)%256=(t:Int)+1:=by omega
     have B:(i - b)%256=(t:Int):=by omega
     rw[A,B];omega
   ·rw[if_neg f,wr (by omega) (by omega)];refine d _ ⟨t,u+1,g,by dsimp only;omega,by omega,C,w,λj o=> ?_⟩ ?_
    ·rcases Nat.lt_succ_iff_lt_or_eq.1 o with h|h
     ·exact l j h
     ·subst h;exact f
    ·dsimp only;omega
  ·rw[if_neg x];rw[cV (by simp;omega),wr (by omega) (by omega)];refine m i (by omega) (by omega) λD=> ?_;obtain⟨k,p,q⟩:=Kd D;exact l k (by omega) q
 ·dsimp only;have e:(b%256 - b)%256=0:=by omega
  rw[e];omega
theorem SJ (x:TQ) (a:Nat) (u:1<=a) (k:a<=24):OK (λg:GR=>Me g.1∧g.2=List.replicate g.1.length []∧1<=g.1.length∧g.1.length<=a) (mV 1000 x (a:Int)):=by
 unfold mV;rw[bA (wB _ _ (by omega) (by omega))];generalize f:(wI .i64 (x.1 - 1))%(a:Int)=r;have m:0<=r:=by rw[<-f];exact Int.emod_nonneg _ (by omega)
 have n:r<a:=by rw[<-f];exact Int.emod_lt_of_pos _ (by omega)
 have i:wI .i64 (1+r)=1+r:=wr (by omega) (by omega);rw[i,cV (by omega)];refine Fi (λs:rU=>s.1=(s.2.length:Int)∧(s.2.length:Int)<=1+r∧Me s.2) (λs=>(1+r - s.1).toNat) ?_ 1000 _ ⟨rfl,by simp;omega,⟨λy o=>by simp at o,List.nodup_nil⟩⟩ (by dsimp only;omega);rintro⟨v,d⟩ j ⟨e,l,c⟩ b;dsimp only at e l c;subst e;unfold kB pP;dsimp only;rw[i];by_cases h:(d.length:Int)<1+r
 ·rw[if_pos h,bA (Sb _ _ (by omega)),bA (wB _ _ (by decide) (by decide))];exact ZA (by omega) _ j λy p q t=>b _ ⟨by simp,by simp;omega,c.snoc ⟨p,q⟩ t⟩ (by dsimp only;omega)
 ·rw[if_neg h];refine⟨_,rfl,c,?_,by dsimp only;omega,by dsimp only;omega⟩
  dsimp only;congr 1;omega
structure VM (ids:aY) (P:iA):Prop where
 n1:1<=P.length
 n24:P.length<=24
 len:ids.length=P.length
 ok:Me ids
 nd:∀v:Nat,v<P.length->((at' P (v:Int)).map Prod.fst).Nodup
 lk:∀v:Nat,v<P.length->∀x∈at' P (v:Int),(0<=x.1∧x.1<=(P.length:Int) - 1)∧x.1≠(v:Int)∧(1<=x.2∧x.2<=15)∧((v:Int),x.2)∈at' P x.1
theorem ZZ {d:Type} [Inhabited d] {l:List d} (h:l.Nodup) {i j:Nat} (b:i<l.length) (c:j<l.length) (a:i<j):at' l (i:Int)≠at' l (j:Int):=by
 rw[lQ,lQ,zA6,zA6,zA0 b,zA0 c];exact List.pairwise_iff_getElem.1 (List.nodup_iff_pairwise_ne.1 h) i j b c a
theorem VM.vg {ids:aY} {P:iA} (h:VM ids P):VG (ids,P):=by
 have hlen:=h.len;have links:∀v,v<P.length->qK (row (ids,P) v) v P.length:=by
  intro v hv i hi;have hm:jT (row (ids,P) v) i∈at' P (v:Int):=EC hi;obtain⟨a1,a2,a3,_⟩:=h.lk v hv _ hm;refine⟨a1,a2,a3,λk hk=> ?_⟩
  have hk2:k<(row (ids,P) v).length:=by omega
  have:=List.pairwise_iff_getElem.1 (List.nodup_iff_pairwise_ne.1 (h.nd v hv)) k i (by simpa using hk2) (by simpa using hi) hk;rw[List.getElem_map,List.getElem_map]at this;have e:∀j (hj:j<(row (ids,P) v).length),jT (row (ids,P) v) j=(at' P (v:Int))[j]'hj:=λj hj=>by
   unfold jT;rw[lQ,zA6,zA0 hj];rfl
  rw[e k hk2,e i hi];exact this
 refine⟨h.n1,h.n24,h.len,λv hv=>⟨?_,Ul hv (links v hv),links v hv,λk hk=> ?_⟩,λv hv i hi=> ?_⟩
 ·exact h.ok.rng _ (EC (by dsimp only at hv ⊢;omega))
 ·exact ZZ h.ok.nd (by dsimp only at hv ⊢;omega) (by dsimp only at hv ⊢;omega) hk
 ·have hm:jT (row (ids,P) v) i∈at' P (v:Int):=EC hi;obtain⟨_,_,_,a4⟩:=h.lk v hv _ hm;obtain⟨j,hj,he⟩:=Kd a4;exact⟨j,hj,by unfold jT;rw[he],by unfold jT;rw[he]⟩
theorem VM.start {a:aY} (h:Me a) (d:1<=a.length) (b:a.length<=24):VM a (List.replicate a.length []):=by
 have e:∀v:Nat,at' (List.replicate a.length ([]:e_)) (v:Int)=[]:=λv=>by
  rw[lQ,zA6,List.getElem?_replicate];split<;>rfl
 refine⟨by simpa using d,by simpa using b,by simp,h,λv _=>by rw[e];exact List.nodup_nil,λv _ x c=> ?_⟩
 rw[e]at c;cases c
def oZ (P:iA) (v u:Nat):Prop:=∃x∈at' P (v:Int),x.1=(u:Int)
theorem OV (d:aY) (P:iA) (a b:Nat) (u:a<P.length) (w:(at' P (a:Int)).length<=900):(oZ P a b->oF 1000 (d,P) a b=some true)∧(¬oZ P a b->oF 1000 (d,P) a b=some false):=by
 have c:∀(r:Bool),(r=true->oZ P a b)->(r=false->¬oZ P a b)->oF 1000 (d,P) a b=some r:=by
  intro r q p;unfold oF;refine Ho (λi:Int=>∃k:Nat,i=k∧k<=(at' P (a:Int)).length∧∀j,j<k->(at' (at' P (a:Int)) ((j:Nat):Int)).1≠(b:Int)) (λi=>(at' P (a:Int)).length - i.toNat) ?_ 1000 0 ⟨0,rfl,by omega,λj m=>by omega⟩ (by omega);rintro i t ⟨k,rfl,v,f⟩ g;unfold Cu yS;dsimp only;rw[cV (by omega)];by_cases o:(k:Int)<((at' P (a:Int)).length:Int)
  ·rw[if_pos o,cV (by omega),cV (by omega)];by_cases e:(at' (at' P (a:Int)) (k:Int)).1=(b:Int)
   ·rw[if_pos e];cases r with
    |true=>rfl
    |false=>exact absurd ⟨_,EC (by omega),e⟩ (p Z)
   ·rw[if_neg e,wr (by omega) (by omega)];refine g _ ⟨k+1,by omega,by omega,λj m=> ?_⟩ (by omega);rcases Nat.lt_succ_iff_lt_or_eq.1 m with h|h
    ·exact f j h
    ·subst h;exact e
  ·rw[if_neg o];cases r with
   |false=>rfl
   |true=>
    obtain⟨x,s,e⟩:=q Z;obtain⟨j,m,n⟩:=Kd s;exact absurd (by rw[n];exact e) (f j (by omega))
 exact⟨λh=>c true (λ_=>h) (λl=>by cases l),λh=>c false (λl=>by cases l) (λ_=>h)⟩
theorem aby (P:iA) (a b:Nat) (x y:e_) (e:a<P.length) (f:b<P.length) (v:Nat):at' ((P.set a x).set b y) (v:Int)=if v=b then y else if v=a then x else at' P (v:Int):=by
 rw[lQ,lQ,zA6,zA6,List.getElem?_set,List.getElem?_set];by_cases h:v=b
 ·subst h;rw[if_pos Z,if_pos Z,if_pos (by simpa using f)];rfl
 ·rw[if_neg (λd=>h d.symm),if_neg h];by_cases c:v=a
  ·subst c;rw[if_pos Z,if_pos Z,if_pos e];rfl
  ·rw[if_neg (λd=>c d.symm),if_neg c]
theorem VM.add {m:aY} {P:iA} (h:VM m P) {a b:Nat} {w:Int} (J:a<P.length) (A:b<P.length) (p:a≠b) (B:¬oZ P a b) (D:1<=w∧w<=15)
  {x y:e_} (E:x.Perm (((b:Int),w)::at' P (a:Int))) (F:y.Perm (((a:Int),w)::at' P (b:Int))):
  VM m ((P.set a x).set b y)∧(∀v u,oZ P v u->oZ ((P.set a x).set b y) v u)∧oZ ((P.set a x).set b y) a b:=by
 have r:¬oZ P b a:=by
  rintro⟨z,g,i⟩;obtain⟨_,_,_,l⟩:=h.lk b A z g;rw[i]at l;exact B ⟨_,l,rfl⟩
 have C:=aby P a b x y J A;have k:((P.set a x).set b y).length=P.length:=by simp
 have d:∀(v:Nat) (z:eV),z∈at' ((P.set a x).set b y) (v:Int)↔z∈at' P (v:Int)∨(v=b∧z=((a:Int),w))∨(v=a∧z=((b:Int),w)):=by
  intro v z;rw[C v];by_cases f:v=b
  ·subst f;rw[if_pos Z,F.mem_iff,zAn];constructor
   ·rintro(c|c)
    ·exact .inr (.inl ⟨rfl,c⟩)
    ·exact .inl c
   ·rintro(c|⟨_,c⟩|⟨e,_⟩)
    ·exact .inr c
    ·exact .inl c
    ·exact absurd e.symm p
  ·rw[if_neg f];by_cases c:v=a
   ·subst c;rw[if_pos Z,E.mem_iff,zAn];constructor
    ·rintro(e|e)
     ·exact .inr (.inr ⟨rfl,e⟩)
     ·exact .inl e
    ·rintro(e|⟨n,_⟩|⟨_,e⟩)
     ·exact .inr e
     ·exact absurd n f
     ·exact .inl e
   ·rw[if_neg c];exact⟨.inl,λe=>e.elim id λn=>n.elim (λo=>absurd o.1 f) λo=>absurd o.1 c⟩
 refine⟨⟨by rw[k];exact h.n1,by rw[k];exact h.n24,by rw[k];exact h.len,h.ok,λv j=> ?_,λv j z g=> ?_⟩,λv u s=> ?_,?_⟩
 ·rw[k]at j;rw[C v];by_cases f:v=b
  ·subst f;rw[if_pos Z,(F.map Prod.fst).nodup_iff,List.map_cons,zBc];exact⟨λq=>by obtain⟨z,g,i⟩:=zB4.1 q;exact r ⟨z,g,i⟩,h.nd v j⟩
  ·rw[if_neg f];by_cases c:v=a
   ·subst c;rw[if_pos Z,(E.map Prod.fst).nodup_iff,List.map_cons,zBc];exact⟨λq=>by obtain⟨z,g,i⟩:=zB4.1 q;exact B ⟨z,g,i⟩,h.nd v j⟩
   ·rw[if_neg c];exact h.nd v j
 ·rw[k]at j ⊢;rcases(d v z).1 g with f|⟨rfl,rfl⟩|⟨rfl,rfl⟩
  ·obtain⟨G,H,I,t⟩:=h.lk v j z f;refine⟨G,H,I,?_⟩
   obtain⟨u,K⟩:∃u:Nat,z.1=u:=⟨z.1.toNat,by omega⟩
   rw[K]at t ⊢;exact(d u _).2 (.inl t)
  ·exact⟨by dsimp only;omega,by dsimp only;omega,D,(d a _).2 (.inr (.inr ⟨rfl,rfl⟩))⟩
  ·exact⟨by dsimp only;omega,by dsimp only;omega,D,(d b _).2 (.inr (.inl ⟨rfl,rfl⟩))⟩
 ·obtain⟨z,g,i⟩:=s;exact⟨z,(d v z).2 (.inl g),i⟩
 ·exact⟨_,(d a _).2 (.inr (.inr ⟨rfl,rfl⟩)),rfl⟩
theorem VP (x:TQ) {c:aY} {P:iA} (h:VM c P) {a b:Nat} {w:Int} (g:a<P.length) (m:b<P.length) (o:1<=w∧w<=15):
  ∃f,nZ 1000 x (c,P) a b w=some f∧VM c f∧f.length=P.length∧(∀v u,oZ P v u->oZ f v u)∧(a≠b->oZ f a b):=by
 have p:=h.n24;have n:∀v:Nat,v<P.length->(at' P (v:Int)).length<24:=λv s=>by
  have:=(h.vg.node v s).deg;have e:(at' P (v:Int)).length=(row (c,P) v).length:=rfl;dsimp only at this;omega
 have t:=n a g;have z:=n b m;unfold nZ;by_cases d:a=b
 ·subst d;rw[if_pos Z];exact⟨P,rfl,h,rfl,λ_ _ h=>h,λr=>absurd Z r⟩
 rw[if_neg (by omega)];by_cases i:oZ P a b
 ·rw[bA ((OV c P a b g (by omega)).1 i)];exact⟨P,rfl,h,rfl,λ_ _ h=>h,λ_=>i⟩
 rw[bA ((OV c P a b g (by omega)).2 i)];unfold qM;rw[if_neg (by simp)];dsimp only;cases q:x.2.2.2.2.2 with
 | true =>
  rw[if_pos Z];have e:at' (P.set (Int.toNat (a:Int)) ([((b:Int),w)]++at' P (a:Int))) (b:Int)=at' P (b:Int):=by
   rw[lQ,zA6,List.getElem?_set,if_neg (by simpa using d),lQ,zA6]
  rw[e];rw[cV (by omega),cV (by simp;omega),cV (by omega),cV (by simp;omega),cV (by simp;omega),cV (by simp;omega)];obtain⟨j,k,l⟩:=h.add g m d i o (List.Perm.refl _) (List.Perm.refl _);exact⟨_,rfl,j,by simp,k,λ_=>l⟩
 |false=>
  rw[if_neg (by simp)];rw[cV (by omega),cV (by omega),cV (by simp;omega),cV (by simp;omega),cV (by simpa using d),cV (by simp;omega),cV (by simp;omega)];obtain⟨j,k,l⟩:=h.add g m d i o (x:=at' P (a:Int)++[((b:Int),w)]) (y:=at' P (b:Int)++[((a:Int),w)]) List.perm_append_comm List.perm_append_comm;exact⟨_,rfl,j,by simp,k,λ_=>l⟩
theorem Pq (v:Int):wI .i64 (1+v%15)=1+v%15∧1<=1+v%15∧1+v%15<=15:=by
 have:=Int.emod_nonneg v (show(15:Int)≠0 by decide);have:=Int.emod_lt_of_pos v (show(0:Int)<15 by decide);exact⟨wr (by omega) (by omega),by omega,by omega⟩
theorem ady (x:TQ) (c:Nat) (F:1<=c) (m:c<=24):
  OK (λg:GR=>VM g.1 g.2∧g.2.length<=c∧∀v:Nat,1<=v->v<g.2.length->∃u:Nat,u<v∧oZ g.2 u v) (nY 1000 x (c:Int)):=by
 unfold nY;obtain⟨⟨d,S⟩,D,h,z,e,q⟩:=SJ x c F m;dsimp only at z h e q;rw[bA D];dsimp only;subst z;have r:=VM.start h e (by omega);refine Fi (λs:Int×iA=>∃k:Nat,s.1=k∧1<=k∧k<=d.length∧VM d s.2∧s.2.length=d.length∧∀v:Nat,1<=v->v<k->∃u:Nat,u<v∧oZ s.2 u v) (λs=>d.length - s.1.toNat) ?_ 1000 _ ⟨1,rfl,by omega,e,r,by simp,λv l f=>by omega⟩ (by dsimp only;omega);rintro⟨i,P⟩ T ⟨k,B,H,I,p,G,o⟩ j;dsimp only at B p G o;subst B;unfold wJ qL;dsimp only;by_cases A:(k:Int)<(P.length:Int)
 ·rw[if_pos A,wr (by omega) (by omega),bA (Sb _ _ (by omega)),bA (wB _ _ (by omega) (by omega)),bA (Sb _ _ (by omega)),bA (wB _ _ (by decide) (by decide))];obtain⟨N,O,Q⟩:=Pq (at' x.2.2.1 ((k:Int) - 1));rw[N];generalize C:at' x.2.1 ((k:Int) - 1)%(k:Int)=u;have U:0<=u:=by rw[<-C];exact Int.emod_nonneg _ (by omega)
  have V:u<k:=by rw[<-C];exact Int.emod_lt_of_pos _ (by omega)
  obtain⟨u,rfl⟩:∃n:Nat,u=n:=⟨u.toNat,by omega⟩
  obtain⟨R,E,K,W,L,M⟩:=VP x p (a:=u) (b:=k) (by omega) (by omega) ⟨O,Q⟩;rw[bA E,wr (by omega) (by omega)];refine j _ ⟨k+1,by dsimp only;omega,by omega,by omega,K,by dsimp only;omega,λv l f=> ?_⟩ (by dsimp only;omega);by_cases y:v=k
  ·subst y;exact⟨u,by omega,M (by omega)⟩
  ·obtain⟨J,t,w⟩:=o v l (by omega);exact⟨J,t,L _ _ w⟩
 ·rw[if_neg A];exact⟨_,rfl,p,by dsimp only;omega,λv l f=>o v l (by dsimp only at f;omega)⟩
theorem VQ (x:TQ) {c:aY} {P:iA} (h:VM c P):OK (λg:GR=>VM g.1 g.2∧g.1=c∧g.2.length=P.length∧∀v u,oZ P v u->oZ g.2 v u) (lM 1000 x (c,P)):=by
 unfold lM;have z:=h.n24;have B:=h.n1;refine Fi (λs:Int×iA=>∃k:Nat,s.1=k∧k<=100∧VM c s.2∧s.2.length=P.length∧∀v u,oZ P v u->oZ s.2 v u) (λs=>200 - s.1.toNat) ?_ 1000 _ ⟨P.length,rfl,by omega,h,rfl,λ_ _ h=>h⟩ (by dsimp only;omega);rintro⟨i,Q⟩ w ⟨k,p,A,f,o,e⟩ d;dsimp only at p f o e;subst p;have done:∀b:Bool,b=false->OK (λg:GR=>VM g.1 g.2∧g.1=c∧g.2.length=P.length∧∀v u,oZ P v u->oZ g.2 v u) (mS 1000 x (c,P) ((k:Int),Q) w b):=by
  rintro b rfl;exact⟨_,rfl,f,rfl,o,e⟩
 unfold qN;dsimp only;rw[wr (by omega) (by omega)];by_cases l:(k:Int)+1<(x.2.1.length:Int)
 rotate_left
 ·rw[if_neg l];exact done _ Z
 rw[if_pos l];by_cases m:(k:Int)<60
 rotate_left
 ·exact done _ (zA7 m)
 rw[zA5 m];unfold mS;dsimp only;rw[if_pos Z,cV (by omega),bA (wB _ _ (by omega) (by omega)),wr (by omega) (by omega),cV (by omega),bA (wB _ _ (by omega) (by omega)),bA (Sb _ _ (by omega)),bA (wB _ _ (by decide) (by decide))];obtain⟨E,F,G⟩:=Pq (at' x.2.2.1 (k:Int));rw[E];generalize r:at' x.2.1 (k:Int)%(P.length:Int)=u;have K:0<=u:=by rw[<-r];exact Int.emod_nonneg _ (by omega)
 have L:u<P.length:=by rw[<-r];exact Int.emod_lt_of_pos _ (by omega)
 obtain⟨u,rfl⟩:∃n:Nat,u=n:=⟨u.toNat,by omega⟩
 generalize q:at' x.2.1 ((k:Int)+1)%(P.length:Int)=t;have I:0<=t:=by rw[<-q];exact Int.emod_nonneg _ (by omega)
 have J:t<P.length:=by rw[<-q];exact Int.emod_lt_of_pos _ (by omega)
 obtain⟨t,rfl⟩:∃n:Nat,t=n:=⟨t.toNat,by omega⟩
 obtain⟨H,y,C,M,D,N⟩:=VP x f (a:=u) (b:=t) (by omega) (by omega) ⟨F,G⟩;rw[bA y,wr (by omega) (by omega)];exact d _ ⟨k+2,by dsimp only;omega,by omega,C,by dsimp only;omega,λv u j=>D _ _ (e v u j)⟩ (by dsimp only;omega)
theorem Qf (x:TQ) (a:Nat) (m:1<=a) (c:a<=24):
  OK (λg:GR=>VM g.1 g.2∧g.2.length<=a∧∀v:Nat,1<=v->v<g.2.length->∃u:Nat,u<v∧oZ g.2 u v) (mH 1000 x (a:Int)):=by
 unfold mH;obtain⟨⟨s,P⟩,k,o,n,i⟩:=ady x a m c;obtain⟨⟨j,t⟩,l,b,p,d,h⟩:=VQ x o;rw[bA k,bA l];dsimp only at n i b p d h;refine⟨_,rfl,b,by dsimp only;omega,λv r f=> ?_⟩
 obtain⟨u,q,e⟩:=i v r (by dsimp only at f;omega);exact⟨u,q,h _ _ e⟩
theorem aen (x:TQ) (a:Nat) (k:1<=a) (b:a<=24):OK (λg:GR=>VM g.1 g.2∧g.2.length<=a) (pT 1000 x (a:Int)):=by
 unfold pT;cases m:x.2.2.2.2.1 with
 |false=>
  obtain⟨⟨j,P⟩,h,r,p,_⟩:=Qf x a k b;rw[if_pos (by rfl)];rw[<-m]at *
  rw[bA h];exact⟨_,rfl,r,p⟩
 |true=>
  obtain⟨⟨j,P⟩,h,e,l,f,i⟩:=SJ x a k b;dsimp only at l e f i;subst l;obtain⟨⟨n,t⟩,o,d,s,c,q⟩:=VQ x (VM.start e f (by omega));dsimp only at d s c q;rw[if_neg (by simp)];rw[<-m]at *
  rw[bA h,bA o];exact⟨_,rfl,d,by simp at c ⊢;omega⟩
end Go.Proofs.YtahgemjmgopleaaGreatDoor
namespace Go.Proofs.YtahgemjmgopleaaGreatDoor
open Go Go.Sx
abbrev val (c:bO) (v x:Nat):Int:=at' (at' c (v:Int)) (x:Int)
def adI (g:GR) (b:Int) (v:Nat) (a:Int):Prop:=if b = -1 then -1<=a∧a<=((row g v).length:Int) - 1 else 0<=a∧a<=b
instance (g:GR) (top:Int) (v:Nat) (a:Int):Decidable (adI g top v a):=by unfold adI;infer_instance
def gO (g:GR):Nat->Int
 |0=>0
 |k+1=>max (gO g k) (at' g.1 (k:Int))
theorem Jp {g:GR} (a:VG g):∀k,k<=g.2.length->0<=gO g k∧gO g k<=255
 |0,_=>by simp[gO]
 |k+1,h=>by
  have b:=Jp a k (by omega);have c:0<=at' g.1 (k:Int)∧at' g.1 (k:Int)<=255:=(a.node k (by omega)).id;simp only[gO];omega
abbrev Kb:=GW
def Gl (x:Kb):Prop:=(-100000<=x.2.2.2.1∧x.2.2.2.1<=100000)∧(0<=x.2.2.2.2.1∧x.2.2.2.2.1<=100000)∧(0<=x.2.2.2.2.2∧x.2.2.2.2.2<=100000)
def lo (g:GR) (x:Kb) (v:Nat):Int:=if x.2.1=2 then 0 else if x.2.1=3 then -1 else x.2.2.1
def hi (g:GR) (x:Kb) (v:Nat):Int:=if x.2.1=2 then 1 else if x.2.1=3 then((row g v).length:Int) - 1 else x.2.2.2.1+x.2.2.2.2.1*(g.2.length:Int)+x.2.2.2.2.2*gO g g.1.length
structure HC (g:GR) (c:bO) (vars:List Kb):Prop where
 len:c.length=g.2.length
 row:∀v,v<g.2.length->(at' c (v:Int)).length=vars.length
 ok:∀v,v<g.2.length->∀x,x<vars.length->lo g (at' vars (x:Int)) v<=val c v x∧val c v x<=hi g (at' vars (x:Int)) v
def wU (a b:Nat):Nat:=(BitVec.ofInt 32 (a:Int) &&& ~~~ BitVec.ofInt 32 (b:Int)).toNat
theorem Je (a b:Nat):wU a b<4294967296:=(BitVec.ofInt 32 (a:Int) &&& ~~~ BitVec.ofInt 32 (b:Int)).isLt
theorem Gp {a i:Nat} (b:a<4294967296) (h:a.testBit i=true):i<32:=by
 apply Classical.byContradiction;intro c;rw[Nat.testBit_lt_two_pow (zAj b (Nat.pow_le_pow_right (n:=2) (by omega) (show 32<=i by omega)))]at h;cases h
theorem Bf {a b:Nat} (d:a<4294967296) (e:b<4294967296) (i:Nat):(wU a b).testBit i=(a.testBit i && !b.testBit i):=by
 have:=BitVec.getLsbD_and (x:=BitVec.ofInt 32 (a:Int)) (y:= ~~~ BitVec.ofInt 32 (b:Int)) (i:=i);rw[BitVec.getLsbD_not]at this;have h:(wU a b).testBit i=((Ox (a:Int)).testBit i&&(decide (i<32) && !(Ox (b:Int)).testBit i)):=this;rw[xU d,xU e]at h;rw[h];cases c:a.testBit i with
 |false=>simp
 |true=>simp[Gp d c]
theorem uH (a b:Nat):jS .u32 (a:Int) (b:Int)=(wU a b:Int):=NO _ (Je a b)
theorem zU {a b:Nat} (c:a<4294967296) (d:b<4294967296):dD .u32 (a:Int) (b:Int)=((a &&& b:Nat):Int):=by rw[PP,xU c,xU d]
theorem agX {a b:Nat} (c:a<4294967296) (d:b<4294967296):I_ .u32 (a:Int) (b:Int)=((a ||| b:Nat):Int):=by rw[aeq,xU c,xU d]
theorem aae {a b:Nat} (c:a<4294967296) (d:b<4294967296):a ||| b<4294967296:=Nat.or_lt_two_pow (n:=32) c d
theorem PN {a b:Nat} (c:a<4294967296):a &&& b<4294967296:=Nat.lt_of_le_of_lt Nat.and_le_left c
theorem Gn {a k:Nat} (c:a<4294967296) (b:k<32):I_ .u32 (a:Int) (AS .u32 1 (k:Int))=((a ||| 2^k:Nat):Int):=by rw[Yz b,agX c (H_ b)]
theorem Hr (p:Nat->Bool) {k:Nat} (a:k<=32):pY p k<4294967296:=zAj (SA p k) (Nat.pow_le_pow_right (n:=2) (by omega) a)
theorem Ht {a b:Nat} (h:∀i,a.testBit i=b.testBit i):a=b:=zBh h
def T_ (q:Bool) (m v:Nat):Nat:=if q then m ||| 2^v else m
theorem abt {q:Bool} {m v:Nat} (a:m<4294967296) (b:v<32):T_ q m v<4294967296:=by
 unfold T_;split
 ·exact aae a (H_ b)
 ·exact a
theorem adn (m v:Nat):(m ||| 2^v) ||| 2^v=m ||| 2^v:=by rw[Nat.or_assoc,Nat.or_self]
theorem ahX {i:Nat} (h:i<1000000):wI .i64 ((i:Int)+1)=(i:Int)+1:=wr (by omega) (by omega)
theorem VG.to {g:GR} (c:VG g) {v i:Nat} (e:v<g.2.length) (d:i<(row g v).length):∃u:Nat,u<g.2.length∧(jT (row g v) i).1=(u:Int):=by
 obtain⟨u,a,b,_⟩:=c.port e d;exact⟨u,a,b⟩
def FE:List Kb:=[(ByteArray.mk #[99],1,0,0,1,0)]
theorem afV:Fo 1000=some FE:=rfl
theorem Wj:∀x,x<FE.length->Gl (at' FE (x:Int)):=by
 intro x a;obtain rfl:x=0:=by simp[FE]at a;exact a
 exact⟨by decide,by decide,by decide⟩
def NR (g:GR) (s:Nat) (v i:Nat):Bool:=s.testBit (jT (row g v) i).1.toNat
theorem NX {g:GR} (d:VG g) {s:Nat} (x:s<4294967296):oA 1000 g (s:Int)=some ((pY (λv=>CE (NR g s v) (row g v).length) g.2.length:Nat):Int):=by
 have p:=d.n24;unfold oA;rw[(Fv g).1 d,bA Z,if_neg (by simp)];refine cQ (F:=λv:Nat=>(((pY (λv=>CE (NR g s v) (row g v).length) v:Nat):Int),(v:Int))) g.2.length (λv h o=> ?_) (λh=> ?_) 1000 (by omega)
 ·unfold jJ;simp only;rw[if_pos (by omega)];have m:(at' g.2 (v:Int)).length<g.2.length:=(d.node v o).deg;have w:=Hr (λv=>CE (NR g s v) (row g v).length) (k:=v) (by omega);have l:=cQ (step:=kT 1000 g (s:Int) (((pY (λv=>CE (NR g s v) (row g v).length) v:Nat):Int),(v:Int)) h) (K:=h (((T_ (CE (NR g s v) (row g v).length) (pY (λv=>CE (NR g s v) (row g v).length) v) v:Nat):Int),(v:Int)+1)) (F:=λi:Nat=>(((T_ (CE (NR g s v) i) (pY (λv=>CE (NR g s v) (row g v).length) v) v:Nat):Int),(i:Int))) (row g v).length (λi j n=> ?_) (λj=> ?_) 1000 (by show(at' g.2 (v:Int)).length<1000;omega)
  ·exact l
  ·obtain⟨u,y,b⟩:=d.to o n;have c:(at' (at' g.2 (v:Int)) (i:Int)).1=(u:Int):=b;have t:i<(at' g.2 (v:Int)).length:=n;unfold kT mW;simp only;rw[cV (by omega),if_pos (by omega),cV (by omega),cV (by omega),c,Gv x (by omega),bA Z,XN (by omega),ahX (by omega)];have a:NR g s v i=s.testBit u:=by unfold NR;rw[b];rfl
   have r:=abt (q:=CE (NR g s v) i) w (show v<32 by omega);by_cases f:s.testBit u=true
   ·rw[if_pos f,cV (by omega),Gn r (by omega)];have:CE (NR g s v) (i+1)=true:=by simp[CE,a,f]
    have e:T_ (CE (NR g s v) i) (pY (λv=>CE (NR g s v) (row g v).length) v) v ||| 2^v=T_ true (pY (λv=>CE (NR g s v) (row g v).length) v) v:=by
     unfold T_;split
     ·exact adn _ _
     ·rfl
    rw[this,e];rfl
   ·rw[if_neg f];have:CE (NR g s v) (i+1)=CE (NR g s v) i:=by simp[CE,a,f]
    simp only[this];rfl
  ·unfold kT qQ;simp only;rw[cV (by omega),if_neg (by show¬(((row g v).length:Nat):Int)<((row g v).length:Int);omega),ahX (by omega)]
 ·unfold jJ qP;simp only;rw[if_neg (by omega)]
def Lw:List Kb:=[(ByteArray.mk #[109],2,0,0,0,0)]
def d0 (g:GR) (c:bO) (d v:Nat):Int:=if d.testBit v=true then at' (at' c (v:Int)) 0 else if v=0 then 0 else(g.2.length:Int)
def start (g:GR) (c:bO) (d:Nat):aY:=(List.range g.2.length).map (d0 g c d)
theorem QN {a:Type} [Inhabited a] (l:List a) (x:a) {i:Nat} (b:i<l.length+1):at' (l++[x]) (i:Int)=if i<l.length then at' l (i:Int)else x:=by
 rw[lQ,lQ];by_cases h:i<l.length
 ·rw[if_pos h,zA6,zA6,zAc h]
 ·have:i=l.length:=by omega
  subst this;rw[if_neg h];simp
def Yn (g:GR) (a:List Kb) (v:Nat) (l:aY):Prop:=∀x,x<l.length->lo g (at' a (x:Int)) v<=at' l (x:Int)∧at' l (x:Int)<=hi g (at' a (x:Int)) v
theorem Xc {g:GR} (G:VG g) (d:List Kb) (f:aY) (ht:d.length<=900) (U:∀x,x<d.length->Gl (at' d (x:Int)) ∧ -100000<=(at' d (x:Int)).2.2.1∧(at' d (x:Int)).2.2.1<=(at' d (x:Int)).2.2.2.1):
  OK (λc=>HC g c d) (oE 1000 g d f):=by
 have Q:=G.n24;have C:=G.len;have P:oE 1000 g d f=sV 1000 g d f (gO g g.2.length):=by
  unfold oE;refine cQ (F:=λk:Nat=>((gO g k,(k:Int)):eV)) g.2.length (λk B hk=> ?_) (λB=> ?_) 1000 (by omega)
  ·unfold yQ;simp only;rw[if_pos (by omega),cV (by omega),wr (by omega) (by omega)];rfl
  ·unfold yQ;simp only;rw[if_neg (by omega)]
 rw[P];obtain⟨M,X⟩:=Jp G g.2.length (by omega);unfold sV;have J:=Gy (step:=lA 1000 g d f (gO g g.2.length)) (K:=λx=>some x.1) g.2.length (λv x=>x.2=(v:Int)∧x.1.length=v∧∀w,w<v->(at' x.1 (w:Int)).length=d.length∧Yn g d w (at' x.1 (w:Int))) (λv x B t q=> ?_) (λx B q=> ?_) 1000 (([]:bO),(0:Int)) ⟨rfl,rfl,λw V=>by omega⟩ (by omega)
 ·obtain⟨⟨c,i⟩,⟨_,s,p⟩,I⟩:=J;exact⟨c,I,s,λv t=>(p v t).1,λv t x D=>(p v t).2 x (by rw[(p v t).1];exact D)⟩
 ·obtain⟨c,i⟩:=x;obtain⟨rfl,s,p⟩:=q;simp only at s p;have L:(at' g.2 (v:Int)).length<g.2.length:=(G.node v t).deg;unfold lA;simp only;rw[if_pos (by omega)];have E:=Gy (step:=pL 1000 g d f (gO g g.2.length) (c,(v:Int)) B) (K:=λy=>B (c++[y.1],(v:Int)+1)) d.length (λx y=>y.2=(x:Int)∧y.1.length=x∧Yn g d v y.1) (λx y n D q=> ?_) (λy n q=> ?_) 1000 (([]:aY),(0:Int)) ⟨rfl,rfl,λx D=>by simp at D⟩ (by omega)
  ·obtain⟨⟨l,j⟩,⟨_,h,u⟩,I⟩:=E;refine⟨(c++[l],(v:Int)+1),⟨by simp,by simp[s],λw V=> ?_⟩,I⟩
   simp only;rw[QN c l (by omega),s];by_cases e:w<v
   ·rw[if_pos e];exact p w e
   ·rw[if_neg e];have:w=v:=by omega
    subst this;exact⟨h,u⟩
  ·obtain⟨l,j⟩:=y;obtain⟨rfl,h,u⟩:=q;simp only at h u;obtain⟨⟨s1,N,O⟩,s4,s5⟩:=U x D;have o:∀a b:Int,a=lo g (at' d (x:Int)) v->b=hi g (at' d (x:Int)) v -> -100000<=a->a<=b+1->b<=100000000->(a<=b∨(a = -1∧b = -1))->∃H,(H.2=((x+1:Nat):Int)∧H.1.length=x+1∧Yn g d v H.1)∧pK 1000 d f (c,(v:Int)) (l,(x:Int)) n (a,b)=n H:=by
    intro a b R T q1 q2 q3 q4;have S:a<=b:=by omega
    unfold pK;simp only;have w1:wI .i64 ((v:Int)*(d.length:Int))=(v:Int)*(d.length:Int):=by
     have Y:0<=(v:Int)*(d.length:Int):=Int.mul_nonneg (by omega) (by omega);have p2:(v:Int)*(d.length:Int)<=24*900:=Int.mul_le_mul (by omega) (by omega) (by omega) (by omega);exact wr (by omega) (by omega)
    have Y:0<=(v:Int)*(d.length:Int):=Int.mul_nonneg (by omega) (by omega);have p2:(v:Int)*(d.length:Int)<=24*900:=Int.mul_le_mul (by omega) (by omega) (by omega) (by omega);rw[w1,wr (x:=(v:Int)*(d.length:Int)+(x:Int)) (by omega) (by omega),Sb _ _ (by omega),bA Z,wr (x:=b - a) (by omega) (by omega),wr (x:=b - a+1) (by omega) (by omega),wB _ _ (by omega) (by omega),bA Z];have r1:=Int.emod_nonneg (at' f ((v:Int)*(d.length:Int)+(x:Int))) (b:=b - a+1) (by omega);have r2:=Int.emod_lt_of_pos (at' f ((v:Int)*(d.length:Int)+(x:Int))) (b:=b - a+1) (by omega);generalize at' f ((v:Int)*(d.length:Int)+(x:Int))%(b - a+1)=r at r1 r2;rw[wr (x:=a+r) (by omega) (by omega),cV (by simp;omega),wr (by omega) (by omega)];refine⟨_,⟨by simp,by simp[h],λz W=> ?_⟩,rfl⟩
    simp only[zAi,zAk,List.length_nil,h]at W;simp only;rw[QN l _ (by omega),h];by_cases e:z<x
    ·rw[if_pos e];exact u z (by omega)
    ·rw[if_neg e];have:z=x:=by omega
     subst this;rw[<-R,<-T];omega
   unfold pL;simp only;rw[if_pos (by omega),cV (by omega),cV (by omega),cV (by omega),cV (by omega),cV (by omega)];by_cases m:(at' d (x:Int)).2.1=2
   ·rw[if_pos m];exact o 0 1 (by unfold lo;rw[if_pos m]) (by unfold hi;rw[if_pos m]) (by omega) (by omega) (by omega) (by omega)
   ·rw[if_neg m];by_cases A:(at' d (x:Int)).2.1=3
    ·rw[if_pos A,cV (by omega),wr (by omega) (by omega)];exact o (-1) _ (by unfold lo;rw[if_neg m,if_pos A]) (by unfold hi;rw[if_neg m,if_pos A]) (by omega) (by omega) (by omega) (by omega)
    ·rw[if_neg A];have q1:0<=(at' d (x:Int)).2.2.2.2.1*(g.2.length:Int):=Int.mul_nonneg N.1 (by omega);have q2:(at' d (x:Int)).2.2.2.2.1*(g.2.length:Int)<=100000*24:=Int.mul_le_mul N.2 (by omega) (by omega) (by omega);have q3:0<=(at' d (x:Int)).2.2.2.2.2*gO g g.2.length:=Int.mul_nonneg O.1 M;have q4:(at' d (x:Int)).2.2.2.2.2*gO g g.2.length<=100000*255:=Int.mul_le_mul O.2 X M (by omega);rw[wr (x:=(at' d (x:Int)).2.2.2.2.1*(g.2.length:Int)) (by omega) (by omega),wr (x:=(at' d (x:Int)).2.2.2.2.2*gO g g.2.length) (by omega) (by omega),wr (x:=(at' d (x:Int)).2.2.2.1+(at' d (x:Int)).2.2.2.2.1*(g.2.length:Int)) (by omega) (by omega),wr (by omega) (by omega)];exact o _ _ (by unfold lo;rw[if_neg m,if_neg A]) (by unfold hi;rw[if_neg m,if_neg A,C]) (by omega) (by omega) (by omega) (by omega)
  ·obtain⟨l,j⟩:=y;obtain⟨rfl,h,u⟩:=q;simp only at h u;unfold pL Ct;simp only;rw[if_neg (by omega),cV (by simp;omega),wr (by omega) (by omega)]
 ·obtain⟨c,i⟩:=x;obtain⟨rfl,s,p⟩:=q;unfold lA yP;simp only;rw[if_neg (by omega)]
def low (a b:Int):Int:=if 0<=b∧(a<0∨b<a)then b else a
end Go.Proofs.YtahgemjmgopleaaGreatDoor
namespace Go.Proofs.YtahgemjmgopleaaGreatDoor
open Go.Sx
def vL  (a:aY):Option aY:=
 some (a)
def vM (a:rU) (c:xS->Option aY) (b:aY):Option aY:=
 c ((wI .i64 (a.1+(1:Int))),b)
def q_ (d:cC) (a:rU) (e:xS->Option aY) (b:rU) (c:xS->Option aY):Option aY:=
 if b.1<((at' d.2 a.1).length:Int)then(ck (0<=b.1∧b.1<((at' d.2 a.1).length:Int)) (ck (0<=a.1∧a.1<(b.2.length:Int)) (ck (0<=((at' (at' d.2 a.1) b.1).1)) (ck (0<=a.1∧a.1<(b.2.length:Int)) (c ((wI .i64 (b.1+(1:Int))),(List.set b.2 (Int.toNat a.1) (I_ .u32 (at' b.2 a.1) (AS .u32 (1:Int) ((at' (at' d.2 a.1) b.1).1))))))))))else(vM a e (b.2))
def lL (U:Nat) (c:cC) (a:rU) (b:xS->Option aY):Option aY:=
 if a.1<(c.2.length:Int)then(ck (0<=a.1∧a.1<(c.2.length:Int)) (bL (q_ c a b) U ((0:Int),a.2)))else(vL  (a.2))
def jV (U:Nat) (a:cC):Option aY:=
 ck (0<=(a.2.length:Int)∧(a.2.length:Int)<=1099511627) (bL (lL U a) U ((0:Int),(List.replicate (Int.toNat (a.2.length:Int)) (0:Int))))
theorem YQ:aU Tryz.prog 89:=Tryz.call89
theorem FS (U:Nat) {d:cC} (v:Value)  (j:Value)  (y:jA) (r:aY) (h:jV U d=some r):
  aW Tryz.prog 89 #[Value.agg #[v,j]] [Sl bR v d.1,S2 bD j y d.2] (λx:Value=>x) (λx l=>Ar fX x r::l) (λ_ l=>l):=by
 refine aW.of Tryz.func89 Z Tryz.ntmps89 Z λc=>?_;refine aT<|aG (aM.box (cs:=[v,j]) Z Z) Z λD=>aB Z<|aL<|aT<|bN Z<|cT 0 Z<|aC (gE Z (aD.fact 1 Z) Z) Z<|dB h λB h=>aG (qB (e:=fX) (0:Int) Z Z Z Z B Z Z Z) Z λi=>aB Z<|aL<|aK<|dQ (λk=>vL  k=some r) (λk w=>[(3,i)]) (λk w=>[Ar fX i k]) ?_ ?_
 ·refine aT<|bN Z<|cT 1 Z<|aC (gE Z (aD.fact 1 Z) Z) Z<|aA Z<|aL<|aS<|dZ (lL U d) (λa m=>[(3,i),(13,j),(14,vI (d.2.length:Int)),(15,vI (a.1))]) (λa m=>[Ar fX i a.2]) ((0:Int),(List.replicate (Int.toNat (d.2.length:Int)) (0:Int))) () h SF (a_.ix [0] Z Z) ?_;intro t a m h;refine aT<|cN Z<|aL<|aK ?_;refine dY h Z (λh=>?_) λh=>?_
  ·refine cD<|aK<|dQ (λg=>vM a (bL (lL U d) t) g=some r) (λg n=>[(3,i),(13,j),(14,vI (d.2.length:Int)),(15,vI (a.1))]) (λg n=>[Ar fX i g]) ?_ ?_
   ·refine aS<|aT<|aA Z<|dB h λf h=>aC (b_ Z Z (aD.fact 1 Z) Z Z f) Z<|aC (bX Z (aD.fact 1 Z) Z Z f) Z<|aB Z<|aB Z<|aL<|aT<|aA Z<|aC (fV Z (zBj (aD.fact 1 Z) f.1 f.2) Z) Z<|aA Z<|aL<|aS<|dZ (q_ d a (bL (lL U d) t)) (λb o=>[(3,i),(4,vI (a.1)),(13,j),(14,vI (d.2.length:Int)),(15,vI (a.1)),(20,(at' y a.1).1),(21,vI ((at' d.2 a.1).length:Int)),(22,vI (b.1))]) (λb o=>[Ar fX i b.2]) ((0:Int),a.2) () h SF (a_.refl _) ?_;intro C b o h;refine aT<|cN Z<|aL<|aK ?_;refine dY h Z (λh=>?_) λh=>?_
    ·refine cD<|aK<|aS<|aT<|dB h λp h=>aC (aZ Z Z (zBj (aD.fact 1 Z) f.1 f.2) Z Z p) Z<|aC (gX (cs:=[vI ((at' (at' d.2 a.1) b.1).1),vI ((at' (at' d.2 a.1) b.1).2)]) Z (zBj (aD.fact 1 Z) f.1 f.2) bV Z Z Z Z p) Z<|aG (aM.alloc (cs:=Rm) Z Z) Z λA=>bH 0 (vs:=[vI ((at' (at' d.2 a.1) b.1).1),vI ((at' (at' d.2 a.1) b.1).2)]) Z Z Z Z Z Z<|aL ?_;refine JR.start [0,0,3,7,0,16,48,127,255,511] 7 mixedOrders (by decide +kernel) ?_;refine zBl (by exact rfl) ?_;refine aX Z<|aX Z<|dB h λq h=>bG Z (a_.cons 1 Z .nil) .nil (aZ Z Z (bB (aD.res 0 Z) fS) Z Z q) aP.z<|bG Z (a_.cons 1 Z .nil) .nil (bY Z (bB (aD.res 0 Z) fS) Z Z Z DV q) aP.z<|cP Z<|fG 0 Z<|dB h λu h=>fW Z (HQ Z Z u)<|bK 7 Z Z<|aC (PG Z Z) Z<|dB h λs h=>aC (aZ Z Z (bB (aD.res 1 Z) fS) Z Z s) Z<|zS 1 (I_ .u32 (at' b.2 a.1) (AS .u32 (1:Int) ((at' (at' d.2 a.1) b.1).1))) s Z Z Z Z Z Z Z<|eM<|jE<|aO<|cB Z<|aA Z<|aL ?_;exact kM ((wI .i64 (b.1+(1:Int))),(List.set b.2 (Int.toNat a.1) (I_ .u32 (at' b.2 a.1) (AS .u32 (1:Int) ((at' (at' d.2 a.1) b.1).1))))) () h SF (a_.ix [1] Z Z) (aE.refl _ _)
    refine mJ<|d_<|d_<|sJ<|jE ?_;exact fE (b.2) () h SF Z
   intro g n h;unfold vM at h;refine aO<|cB Z<|aA Z<|aL ?_;exact uG ((wI .i64 (a.1+(1:Int))),g) () h SF Z
  refine eR ?_;exact fE (a.2) () h SF Z
 intro k w h;unfold vL at h;refine aT<|aA Z<|aB Z<|aL<|aR ?_;cases h;exact iJ (i) Z Z (RV.tmp Z) (a_.refl _) aE.nil
end Go.Proofs.YtahgemjmgopleaaGreatDoor
namespace Go.Proofs.YtahgemjmgopleaaGreatDoor
open Go Go.Sx
structure Lk (m k:Nat):Prop where
 bit:m.testBit k=true
 low:∀j,j<k->m.testBit j=false
theorem Fl {m:Nat} (h:m≠0):∃k,Lk m k:=by
 obtain⟨i,c⟩:=Nat.exists_testBit_of_ne_zero h;obtain⟨k,_,a,b⟩:=OT (p:=λi=>m.testBit i=true) i c;exact⟨k,a,λj d=>by simpa using b j d⟩
theorem SU {m k:Nat} (h:Lk m k) (i:Nat):(m - 1).testBit i=if i<k then true else if i=k then false else m.testBit i:=by
 have b:m=2^(k+1)*(m / 2^(k+1))+2^k:=by
  refine zBh λi=> ?_;have a:2^k<2^(k+1):=Nat.pow_lt_pow_right (by omega) (by omega);rw[Nat.testBit_two_pow_mul_add _ a,zAu,Nat.testBit_div_two_pow];rcases zAx i k with q|q|q
  ·rw[if_pos (by omega),h.low i q,zA7 (by omega)]
  ·subst q;rw[if_pos (by omega),h.bit,zA5 Z]
  ·rw[if_neg (by omega),show i - (k+1)+(k+1)=i by omega]
 have c:0<2^k:=Nat.pow_pos (by omega);have a:2^k - 1<2^(k+1):=by rw[Nat.pow_succ];omega
 have e:m - 1=2^(k+1)*(m / 2^(k+1))+(2^k - 1):=by omega
 rw[e,Nat.testBit_two_pow_mul_add _ a,zBb,Nat.testBit_div_two_pow];rcases zAx i k with q|q|q
 ·rw[if_pos (by omega),if_pos q,zA5 q]
 ·subst q;rw[if_pos (by omega),if_neg (by omega),if_pos Z,zA7 (by omega)]
 ·rw[if_neg (by omega),if_neg (by omega),if_neg (by omega),show i - (k+1)+(k+1)=i by omega]
theorem ali {m:Nat} (b:m<4294967296) (a:m≠0):wI .u32 (0 - (m:Int))=((4294967296 - m:Nat):Int):=by
 rw[FX];have:IntKind.u32.wrap (0 - (m:Int))=(0 - (m:Int))%4294967296:=rfl;rw[this];omega
theorem ahI {m:Nat} (b:m<4294967296) (a:m≠0):wI .u32 ((m:Int) - 1)=((m - 1:Nat):Int):=by
 rw[show(m:Int) - 1=((m - 1:Nat):Int) by omega,FX,NO _ (by omega)]
theorem adf {m k:Nat} (a:m<4294967296) (h:Lk m k):dD .u32 (m:Int) (wI .u32 (0 - (m:Int)))=((2^k:Nat):Int):=by
 have b:m≠0:=λe=>by have:=h.bit;rw[e]at this;simp at this
 have c:k<32:=Gp a h.bit;rw[ali a b,zU a (by omega)];congr 1;refine zBh λi=> ?_;rw[zBd,show 4294967296 - m=2^32 - ((m - 1)+1) by omega,Nat.testBit_two_pow_sub_succ (by omega),zAu,SU h];rcases zAx i k with q|q|q
 ·rw[h.low i q,zA7 (show¬k=i by omega)];rfl
 ·subst q;rw[h.bit,if_neg (by omega),if_pos Z,zA5 c,zA5 Z];rfl
 ·rw[if_neg (by omega),if_neg (by omega),zA7 (show¬k=i by omega)];cases m.testBit i<;>simp
theorem Qe {m k:Nat} (a:m<4294967296) (h:Lk m k):∃b:Nat,dD .u32 (m:Int) (wI .u32 ((m:Int) - 1))=(b:Int)∧b<4294967296∧∀i,b.testBit i=(m.testBit i&&decide (i≠k)):=by
 have c:m≠0:=λe=>by have:=h.bit;rw[e]at this;simp at this
 refine⟨m &&& (m - 1),by rw[ahI a c,zU a (by omega)],PN a,λi=> ?_⟩
 rw[zBd,SU h];rcases zAx i k with q|q|q
 ·rw[h.low i q];rfl
 ·subst q;simp
 ·rw[if_neg (by omega),if_neg (by omega)];have:decide (i≠k)=true:=zA5 (by omega);rw[this];cases m.testBit i<;>rfl
theorem afT:∀k:Fin 32,((0:Int)<=pQ .u32 (wI .u32 ((((2^k.val:Nat):Int))*125613361)) 27∧pQ .u32 (wI .u32 ((((2^k.val:Nat):Int))*125613361)) 27<((32:Nat):Int))∧wI .i64 (at' vE (pQ .u32 (wI .u32 ((((2^k.val:Nat):Int))*125613361)) 27))=(k.val:Int):=by decide +kernel
theorem aaI (f:Nat) {m k:Nat} (a:m<4294967296) (h:Lk m k):kN f (m:Int)=some (k:Int):=by
 have d:m≠0:=λe=>by have:=h.bit;rw[e]at this;simp at this
 obtain⟨b,c⟩:=afT ⟨k,Gp a h.bit⟩;unfold kN;rw[if_neg (by omega),cV (by decide),adf a h,cV ⟨b,rfl⟩,c]
structure Mj (g:GR) (r:aY):Prop where
 len:r.length=g.2.length
 at':∀v:Nat,v<g.2.length->∃m:Nat,Go.Sx.at' r (v:Int)=(m:Int)∧m<4294967296∧∀u,m.testBit u=true↔NP g v u
theorem Nh {g:GR} (I:VG g):∃r,jV 1000 g=some r∧Mj g r:=by
 have R:=I.n24;unfold jV;rw[cV (by omega)];obtain⟨⟨a,r⟩,⟨y,B,C⟩,J⟩:=Gy (step:=lL 1000 g) (K:=λz=>some z.2) g.2.length
  (λk z=>z.1=(k:Int)∧z.2.length=g.2.length∧∀v:Nat,v<g.2.length->∃m:Nat,Go.Sx.at' z.2 (v:Int)=(m:Int)∧m<4294967296∧∀u,m.testBit u=true↔v<k∧NP g v u) (λk z E M G=>by
  obtain⟨a,r⟩:=z;obtain⟨y,B,C⟩:=G;dsimp only at y B C;subst y;have O:=(I.node k M).deg;obtain⟨⟨b,U⟩,⟨s,d,c⟩,J⟩:=Gy (step:=q_ g ((k:Int),r) E) (K:=λz=>E (((k+1:Nat):Int),z.2)) (row g k).length
   (λj z=>z.1=(j:Int)∧z.2.length=g.2.length∧∀v:Nat,v<g.2.length->∃m:Nat,Go.Sx.at' z.2 (v:Int)=(m:Int)∧m<4294967296∧∀u,m.testBit u=true↔(v<k∧NP g v u)∨(v=k∧∃i,i<j∧(jT (row g k) i).1=(u:Int))) (λj z F S H=>by
   obtain⟨b,q⟩:=z;obtain⟨s,d,c⟩:=H;dsimp only at s d c;subst s;obtain⟨w,V,x,N⟩:=I.port M S;obtain⟨m,T,l,t⟩:=c k M;refine⟨(((j+1:Nat):Int),q.set k (((m ||| 2^w:Nat)):Int)),⟨rfl,by simpa using d,λv f=> ?_⟩,?_⟩
   ·show∃P,Go.Sx.at' (q.set k _) (v:Int)=_∧_;rw[CX q k v _ (by omega)];by_cases e:v=k
    ·subst e;refine⟨_,if_pos Z,aae l (H_ (by omega)),λu=> ?_⟩
     rw[Nat.testBit_or,zAu,zAz,t u,zA8];constructor
     ·rintro((h|⟨_,i,A,h⟩)|h)
      ·exact .inl h
      ·exact .inr ⟨rfl,i,by omega,h⟩
      ·exact .inr ⟨rfl,j,by omega,by rw[x,h]⟩
     ·rintro(h|⟨_,i,A,h⟩)
      ·exact .inl (.inl h)
      ·by_cases L:i=j
       ·subst L;right;rw[x]at h;omega
       ·exact .inl (.inr ⟨rfl,i,by omega,h⟩)
    ·obtain⟨P,n,o,p⟩:=c v f;refine⟨P,by rw[if_neg e];exact n,o,λu=> ?_⟩
     rw[p u];constructor
     ·rintro(h|⟨h,_⟩)
      ·exact .inl h
      ·exact absurd h e
     ·rintro(h|⟨h,_⟩)
      ·exact .inl h
      ·exact absurd h e
   ·unfold q_;dsimp only;rw[if_pos (show(j:Int)<((row g k).length:Int) by omega),cV (show 0<=(j:Int)∧(j:Int)<((row g k).length:Int) by omega),cV (by omega),show Go.Sx.at' (Go.Sx.at' g.2 (k:Int)) (j:Int)=jT (row g k) j from rfl,x,cV (by omega),cV (by omega),T,Gn l (by omega),dL (by omega),zAh]) (λz F H=>by
   obtain⟨b,q⟩:=z;obtain⟨s,d,c⟩:=H;dsimp only at s d c;subst s;unfold q_ vM;dsimp only;rw[if_neg (show¬((row g k).length:Int)<((row g k).length:Int) by omega),dL (by omega)]) 1000 ((0:Int),r) ⟨rfl,B,λv f=>by
    obtain⟨m,n,o,p⟩:=C v f;refine⟨m,n,o,λu=> ?_⟩
    rw[p u];constructor
    ·exact λh=> .inl h
    ·rintro(h|⟨_,i,A,_⟩)
     ·exact h
     ·omega⟩ (by omega)
  dsimp only at s d c;refine⟨(((k+1:Nat):Int),U),⟨rfl,d,λv f=> ?_⟩,?_⟩
  ·obtain⟨m,n,o,p⟩:=c v f;refine⟨m,n,o,λu=> ?_⟩
   rw[p u];constructor
   ·rintro(⟨Q,D⟩|⟨rfl,i,A,h⟩)
    ·exact⟨by omega,D⟩
    ·exact⟨by omega,i,A,h⟩
   ·rintro⟨Q,D⟩;by_cases e:v=k
    ·subst e;obtain⟨i,A,h⟩:=D;exact .inr ⟨rfl,i,A,h⟩
    ·exact .inl ⟨by omega,D⟩
  ·unfold lL;dsimp only;rw[if_pos (by omega),cV (by omega)];exact J) (λz E G=>by
  obtain⟨a,r⟩:=z;obtain⟨y,B,C⟩:=G;dsimp only at y;subst y;unfold lL vL;dsimp only;rw[if_neg (by omega)]) 1000 ((0:Int),List.replicate (Int.toNat (g.2.length:Int)) (0:Int)) ⟨rfl,by simp,λv f=>⟨0,by
   rw[zAh,jI (by simpa using f)];simp,by omega,λu=>by simp⟩⟩ (by omega)
 refine⟨r,J,B,λv f=> ?_⟩
 obtain⟨m,n,o,p⟩:=C v f;exact⟨m,n,o,λu=>by rw[p u];exact⟨λh=>h.2,λh=>⟨f,h⟩⟩⟩
def Gf (g:GR) (m:Nat):Prop:=∀i,m.testBit i=true->i<g.2.length
theorem Gf.lt {g:GR} (b:VG g) {m:Nat} (h:Gf g m):m<16777216:=by
 have a:=b.n24;refine zAj (Nat.lt_pow_two_of_testBit (n:=24) m λi d=> ?_) (zAd _);cases c:m.testBit i with
 |false=>rfl
 |true=>have:=h i c;omega
theorem aha {m:Nat} (h:∀i,i<32->m.testBit i=false) (b:m<4294967296):m=0:=by
 refine zBh λi=> ?_;rw[zBf];rcases zAo i 32 with q|q
 ·exact h i q
 ·cases a:m.testBit i with
  |false=>rfl
  |true=>have:=Gp b a;omega
theorem Uz {g:GR} (z:VG g) {r:aY} (y:Mj g r) {t:Nat} (C:Gf g t) (n:∀v u,t.testBit v=true->t.testBit u=true->¬NP g v u) (F:Nat):∀(d s a b:Nat),s+d=32->b<4294967296->(∀i,i<s->b.testBit i=false)->(∀i,b.testBit i=true->t.testBit i=true)->d<a->
  bL (iK F r (t:Int)) a (b:Int)=some true:=by
 have J:=z.n24;have p:t<4294967296:=by have:=C.lt z;omega
 intro d
 induction d using Nat.strongRecOn with
 | _ d ih =>
  intro s a b P B o c O;obtain⟨a,rfl⟩:∃f,a=f+1:=⟨a - 1,by omega⟩
  show iK F r (t:Int) (b:Int) (bL _ a)=_;unfold iK kJ;by_cases G:b=0
  ·rw[if_neg (by omega)]
  obtain⟨k,l⟩:=Fl G;have w:=C k (c k l.bit);have K:s<=k:=by
   rcases zAo k s with q|q
   ·have:=l.bit;rw[o k q]at this;cases this
   ·exact q
  obtain⟨m,L,h,j⟩:=y.at' k w;rw[if_pos (by omega),bA (aaI F B l),cV (by have:=y.len;omega),L,zU h p];have M:m &&& t=0:=by
   refine aha (λi _=> ?_) (PN h);rw[zBd];cases H:m.testBit i with
   |false=>rfl
   |true=>
    cases I:t.testBit i with
    |false=>rfl
    |true=>exact absurd ((j i).1 H) (n k i (c k l.bit) I)
  rw[M,if_neg (by simp)];obtain⟨N,D,E,x⟩:=Qe B l;rw[D];have A:k<32:=by omega
  refine ih (32 - (k+1)) (by omega) (k+1) a N (by omega) E (λi n=> ?_) (λi n=> ?_) (by omega)
  ·rw[x];by_cases e:i=k
   ·simp[e]
   ·rw[l.low i (by omega)];rfl
  ·rw[x,zA3]at n;exact c i n.1
theorem Ln {g:GR} (a:VG g) {r:aY} (d:Mj g r) {t:Nat} (c:Gf g t) (b:∀v u,t.testBit v=true->t.testBit u=true->¬NP g v u):iU 1000 r (t:Int)=some true:=
 Uz a d c b 1000 32 0 1000 t (by omega) (by have:=c.lt a;omega) (λi b=>by omega) (λi h=>h) (by omega)
theorem Ss {g:GR} (M:VG g) {r:aY} (T:Mj g r) {W:Nat} (U:Gf g W) (F:Nat):∀(d s a b t:Nat),s+d=32->b<4294967296->t<4294967296->(∀i,i<s->b.testBit i=false)->(∀i,b.testBit i=true->W.testBit i=true)->(∀i,t.testBit i=true->W.testBit i=true)->(∀v u,t.testBit v=true->t.testBit u=true->¬NP g v u)->(W≠0->t≠0∨b=W)->d<a->
  ∃C:Nat,bL (cZ F r) a ((b:Int),(t:Int))=some (C:Int)∧C<4294967296∧(∀i,C.testBit i=true->W.testBit i=true)∧(∀v u,C.testBit v=true->C.testBit u=true->¬NP g v u)∧(W≠0->C≠0):=by
 have aa:=M.n24;intro d
 induction d using Nat.strongRecOn with
 | _ d ih =>
  intro s a b t hs V c I w n j O hf;obtain⟨a,rfl⟩:∃f,a=f+1:=⟨a - 1,by omega⟩
  have P:bL (cZ F r) (a+1) ((b:Int),(t:Int))=cZ F r ((b:Int),(t:Int)) (bL (cZ F r) a):=rfl;rw[P];unfold cZ kA iN;dsimp only;by_cases S:b=0
  ·rw[if_neg (by omega)];refine⟨t,rfl,c,n,j,λX=> ?_⟩
   rcases O X with h|h
   ·exact h
   ·exact absurd (h.symm.trans S) X
  obtain⟨k,D⟩:=Fl S;have E:=w k D.bit;have G:=U k E;have ab:s<=k:=by
   rcases zAo k s with q|q
   ·have:=D.bit;rw[I k q]at this;cases this
   ·exact q
  obtain⟨m,hm,J,A⟩:=T.at' k G;obtain⟨L,Y,Q,R⟩:=Qe V D;have p:k<32:=by omega
  have x:∀i,i<k+1->L.testBit i=false:=λi l=>by
   rw[R];by_cases e:i=k
   ·simp[e]
   ·rw[D.low i (by omega)];rfl
  have z:∀i,L.testBit i=true->W.testBit i=true:=λi l=>by
   rw[R,zA3]at l;exact w i l.1
  rw[if_pos (by omega),bA (aaI F V D),cV (by have:=T.len;omega),hm,zU J c,Y];by_cases K:m &&& t=0
  ·rw[K,if_pos (by rfl),cV (by omega),Gn c p];have H:(t ||| 2^k).testBit k=true:=by rw[Nat.testBit_or,zAu];simp
   have y:∀u,t.testBit u=true->¬NP g k u:=λu o N=>by
    have:=congrArg (λq=>q.testBit u) K;simp only[zBd,zBf,(A u).2 N,o]at this;cases this
   refine ih (32 - (k+1)) (by omega) (k+1) a L (t ||| 2^k) (by omega) Q (aae c (H_ p)) x z (λi l=> ?_) (λv u B o=> ?_) (λ_=> .inl λe=>by rw[e]at H;simp at H) (by omega)
   ·rw[Nat.testBit_or,zAu,zAz,zA8]at l;rcases l with l|rfl
    ·exact n i l
    ·exact E
   ·rw[Nat.testBit_or,zAu,zAz,zA8]at B o;rcases B with B|rfl
    ·rcases o with o|rfl
     ·exact j v u B o
     ·exact λN=>y v B (M.back (U v (n v B)) N)
    ·rcases o with o|rfl
     ·exact y u o
     ·rintro⟨i,l,he⟩;exact((M.node k G).links i l).2.1 he
  ·rw[if_neg (by omega)];refine ih (32 - (k+1)) (by omega) (k+1) a L t (by omega) Q c x z n j (λ_=> .inl λe=> ?_) (by omega);rw[e]at K;exact K (Nat.and_zero m)
theorem IF {g:GR} (hV:VG g) {r:aY} (hN:Mj g r) {kind:Int} (hk1:1<=kind) (hk4:kind<=4) {e w:Nat} (he:Gf g e) (hw:w<4294967296):
  ∃t:Nat,cY 1000 r kind (e:Int) (w:Int)=some (t:Int)∧(∀i,t.testBit i=true->e.testBit i=true)∧(e≠0->t≠0∧fF 1000 r kind (e:Int) (t:Int)=some true∧(kind<=2->∀v u,t.testBit v=true->t.testBit u=true->¬NP g v u)∧(kind=4->t=e)):=by
 have he24:=he.lt hV;have he32:e<4294967296:=by omega
 -- the wish
 obtain⟨W,hW,hW32,hWe,hW0,hWm⟩:∃W:Nat,cY 1000 r kind (e:Int) (w:Int)=gJ 1000 r kind (e:Int) (W:Int)∧W<4294967296∧(∀i,W.testBit i=true->e.testBit i=true)∧(e≠0->W≠0)∧(e=0->W=0):=by
  unfold cY;rw[zU hw he32];by_cases h0:w &&& e=0
  ·rw[h0,if_pos (show((0:Nat):Int)=0 from rfl)];by_cases hee:e=0
   ·refine⟨0,by rw[hee];rfl,by omega,λi h=>by simp at h,λh=>absurd hee h,λ_=>rfl⟩
   ·obtain⟨k,hk⟩:=Fl hee;have hk32:=Gp he32 hk.bit;refine⟨2^k,by rw[adf he32 hk],H_ hk32,λi h=> ?_,λ_=>Nat.ne_of_gt (Nat.pow_pos (by omega)),λh=>absurd h hee⟩
    rw[zAu,zA8]at h;rw[<-h];exact hk.bit
  ·rw[if_neg (by omega)];refine⟨w &&& e,rfl,PN hw,λi h=> ?_,λ_=>h0,λh=>by rw[h];exact Nat.and_zero w⟩
   rw[zBd,zA3]at h;exact h.2
 have hWG:Gf g W:=λi hi=>he i (hWe i hi);have permits:∀(t:Nat),t≠0->t<4294967296->(∀i,t.testBit i=true->e.testBit i=true)->∀b,(if kind=1 then some (decide ((dD .u32 (t:Int) (wI .u32 ((t:Int) - 1)))=0))else if kind=2 then(Option.bind (iU 1000 r (t:Int)) λr7=>some r7)else if kind=4 then some (decide ((t:Int)=(e:Int)))else some true)=some b->fF 1000 r kind (e:Int) (t:Int)=some b:=by
  intro t h0 h32 hsub b hb;unfold fF mF;have hd:wU t e=0:=by
   refine zBh λi=> ?_;rw[Bf h32 he32,zBf];cases h1:t.testBit i with
   |false=>rfl
   |true=>rw[hsub i h1];rfl
  rw[if_neg (by omega),uH,hd,if_neg (by simp)];exact hb
 rw[hW];unfold gJ;by_cases k1:kind=1
 ·rw[if_pos k1];by_cases hw0:W=0
  ·refine⟨0,by rw[hw0];rfl,λi h=>by simp at h,λh=>absurd hw0 (hW0 h)⟩
  ·obtain⟨k,hk⟩:=Fl hw0;have hk32:=Gp hW32 hk.bit;have hL:Lk (2^k) k:=⟨by rw[zAu];simp,λj hj=>by rw[zAu];exact zA7 (by omega)⟩
   refine⟨2^k,by rw[adf hW32 hk],λi h=> ?_,λhee=>⟨Nat.ne_of_gt (Nat.pow_pos (by omega)),?_,λ_ v u hv hu hadj=> ?_,λh=>by omega⟩⟩
   ·rw[zAu,zA8]at h;rw[<-h];exact hWe k hk.bit
   ·refine permits _ (Nat.ne_of_gt (Nat.pow_pos (by omega))) (H_ hk32) (λi h=> ?_) true ?_
    ·rw[zAu,zA8]at h;rw[<-h];exact hWe k hk.bit
    ·obtain⟨m',e1,e2,e3⟩:=Qe (H_ hk32) hL;rw[if_pos k1,e1];have:m'=0:=zBh λi=>by
      rw[e3,zAu,zBf];by_cases q:k=i
      ·simp[q]
      ·simp[q]
     rw[this];rfl
   ·rw[zAu,zA8]at hv hu;subst hv;subst hu;obtain⟨i,hi,he⟩:=hadj;exact((hV.node k (hWG k hk.bit)).links i hi).2.1 he
 rw[if_neg k1];by_cases k2:kind=2
 ·rw[if_pos k2];obtain⟨t,h1,h2,h3,h4,h5⟩:=Ss hV hN hWG 1000 32 0 1000 W 0 (by omega) hW32 (by omega) (λi hi=>by omega) (λi h=>h) (λi h=>by simp at h) (λv u h=>by simp at h) (λ_=> .inr Z) (by omega);refine⟨t,h1,λi h=>hWe i (h3 i h),λhee=>⟨h5 (hW0 hee),?_,λ_=>h4,λh=>by omega⟩⟩
  refine permits t (h5 (hW0 hee)) h2 (λi h=>hWe i (h3 i h)) true ?_;rw[if_neg k1,if_pos k2,bA (Ln hV hN (λi h=>hWG i (h3 i h)) h4)]
 rw[if_neg k2];by_cases k4:kind=4
 ·rw[if_pos k4];refine⟨e,rfl,λi h=>h,λhee=>⟨hee,permits e hee he32 (λi h=>h) true ?_,λh=>by omega,λ_=>rfl⟩⟩
  rw[if_neg k1,if_neg k2,if_pos k4];simp
 ·rw[if_neg k4];refine⟨W,rfl,hWe,λhee=>⟨hW0 hee,permits W (hW0 hee) hW32 hWe true ?_,λh=>by omega,λh=>absurd h k4⟩⟩
  rw[if_neg k1,if_neg k2,if_neg k4]
end Go.Proofs.YtahgemjmgopleaaGreatDoor
namespace Go.Proofs.YtahgemjmgopleaaGreatDoor
open Go.Sx
def BQ  (a:Int):Option (Int):=
 some (a)
def xO (c:aY) (a:eV) (b:fO->Option (Int)):Option (Int):=
 if a.2<(c.length:Int)then(ck (0<=a.2∧a.2<(c.length:Int)) (b ((max a.1 (at' c a.2)),(wI .i64 (a.2+(1:Int))))))else(BQ  (a.1))
def CM (U:Nat) (a:aY):Option (Int):=
 if(a.length:Int)<(1:Int)then(none)else(ck (0<=(0:Int)∧(0:Int)<(a.length:Int)) (bL (xO a) U ((at' a (0:Int)),(1:Int))))
theorem acd:aU Tryz.prog 206:=Tryz.call206
theorem QZ (U:Nat) {f:aY} (g:Value) (r:Int) (h:CM U f=some r):
  aW Tryz.prog 206 #[g] [Sl bR g f] (λx:Unit=>vI (r)) (λx l=>l) (λ_ l=>l):=by
 refine aW.of Tryz.func206 Z Tryz.ntmps206 Z λc=>?_;refine aT<|aB Z<|aL<|aK<|aT<|aA Z<|gW (aD.fact 0 Z) Z<|cN Z<|aL ?_;refine dY h Z (λh=>?_) λh=>?_
 ·refine aO ?_;cases h
 refine cD<|aT<|aA Z<|dB h λj h=>aC (aZ Z Z (aD.fact 0 Z) Z Z j) Z<|aC (bY Z (aD.fact 0 Z) Z Z Z eD j) Z<|aB Z<|aL<|aK<|dQ (λb=>BQ  b=some r) (λb i=>[(3,vI (b))]) (λb i=>[]) ?_ ?_
 ·refine aT<|aB Z<|aL<|aS<|dZ (xO f) (λa d=>[(0,g),(3,vI (a.1)),(4,vI (a.2))]) (λa d=>[]) ((at' f (0:Int)),(1:Int)) () h SF (a_.refl _) ?_;intro k a d h;refine aK<|aT<|aA Z<|aA Z<|gW (aD.fact 0 Z) Z<|cN Z<|aL ?_;refine dY h Z (λh=>?_) λh=>?_
  ·refine cD<|aK<|aS<|aO<|aA Z<|aA Z<|aA Z<|dB h λe h=>aC (aZ Z Z (aD.fact 0 Z) Z Z e) Z<|aC (bY Z (aD.fact 0 Z) Z Z Z eD e) Z<|aC (FL Z Z) Z<|aB Z<|eM<|jE<|aO<|aA Z<|cB Z<|aB Z<|aL ?_;exact uG ((max a.1 (at' f a.2)),(wI .i64 (a.2+(1:Int)))) () h SF Z
  refine eR ?_;exact fE (a.1) () h SF Z
 intro b i h;unfold BQ at h;refine aT<|aA Z<|aB Z<|aL<|aR ?_;cases h;exact gF Z
def pU (U:Nat) (a:GW) (b:cC) (d:Int):Option fO:=
 Option.bind (CM U b.1) λc=>(some (a.2.2.1,(wI .i64 ((wI .i64 (a.2.2.2.1+(wI .i64 (a.2.2.2.2.1*(b.1.length:Int)))))+(wI .i64 (a.2.2.2.2.2*c))))))
theorem acb:aU Tryz.prog 205:=Tryz.call205
theorem JE (U:Nat) {a:GW} {d:cC} {f:Int} (b:Value)  (e:Value)  (k:jA) (r:eV) (h:pU U a d f=some r):
  aW Tryz.prog 205 #[Value.agg #[vS (a.1),vI (a.2.1),vI (a.2.2.1),vI (a.2.2.2.1),vI (a.2.2.2.2.1),vI (a.2.2.2.2.2)],Value.agg #[b,e],vI (f)] [Sl bR b d.1,S2 bD e k d.2] (λx:Unit=>Value.tuple #[vI (r.1),vI (r.2)]) (λx l=>l) (λ_ l=>l):=by
 refine aW.of Tryz.func205 Z Tryz.ntmps205 Z λc=>?_;refine aT<|aG (aM.box (cs:=[vS (a.1),vI (a.2.1),vI (a.2.2.1),vI (a.2.2.2.1),vI (a.2.2.2.2.1),vI (a.2.2.2.2.2)]) Z Z) Z λm=>aG (aM.box (cs:=[b,e]) Z Z) Z λn=>aB Z<|aB Z<|aL<|aK ?_;refine JR.start [0,1,0,4,0,16,0,64,192,496,1020,0,2048,0,8192,24576,63488,131068,57347,524287] 19 mixedOrders (by decide +kernel) ?_;refine zBl (by exact rfl) ?_;refine cP Z<|fG 1 Z<|cP Z<|fG 1 Z<|cP Z<|fG 1 Z<|cP Z<|fG 0 Z<|bG Z .nil (iI 0 Z) (fV Z (aD.fact 0 Z) Z) aP.z<|fW Z (zT Z Z)<|fW Z (wH Z Z)<|cP Z<|fG 1 Z<|cP Z<|fG 0 Z<|dN h λg i h=>zBk Z Z Z (zBi acd (QZ U b g i) Z (jF [0] Z)) Z (λj=>(oU [([1],[]),([],[0]),([0],[]),([1],[]),([1],[]),([1],[])] Z)) λj=>fW Z (zT Z Z)<|fW Z (wH Z Z)<|fW Z (qY Z)<|bK 19 Z Z<|aB Z<|aL<|aR ?_;cases h;exact eW () Z Z (RV.tmp Z) (RV.tmp Z) .nil aE.nil
def tQ (U:Nat) (a:GW) (b:cC) (c:Int):Option fO:=
 some ((0:Int),(1:Int))
theorem ace:aU Tryz.prog 207:=Tryz.call207
theorem JF (U:Nat) {a:GW} {b:cC} {f:Int} (d:Value)  (e:Value)  (g:jA) (r:eV) (h:tQ U a b f=some r):
  aW Tryz.prog 207 #[Value.agg #[vS (a.1),vI (a.2.1),vI (a.2.2.1),vI (a.2.2.2.1),vI (a.2.2.2.2.1),vI (a.2.2.2.2.2)],Value.agg #[d,e],vI (f)] [Sl bR d b.1,S2 bD e g b.2] (λx:Unit=>Value.tuple #[vI (r.1),vI (r.2)]) (λx l=>l) (λ_ l=>l):=by
 refine aW.of Tryz.func207 Z Tryz.ntmps207 Z λc=>?_;unfold tQ at h;refine aT<|aG (aM.box (cs:=[vS (a.1),vI (a.2.1),vI (a.2.2.1),vI (a.2.2.2.1),vI (a.2.2.2.2.1),vI (a.2.2.2.2.2)]) Z Z) Z λi=>aG (aM.box (cs:=[d,e]) Z Z) Z λj=>aB Z<|aB Z<|aL<|aT<|aB Z<|aB Z<|aL<|aR ?_;cases h;exact eW () Z Z (RV.tmp Z) (RV.tmp Z) .nil aE.nil
def pV (U:Nat) (c:GW) (b:cC) (a:Int):Option fO:=
 ck (0<=a∧a<(b.2.length:Int)) (some ((-1:Int),(wI .i64 (((at' b.2 a).length:Int) - (1:Int)))))
theorem acf:aU Tryz.prog 208:=Tryz.call208
theorem JG (U:Nat) {a:GW} {d:cC} {g:Int} (e:Value)  (f:Value)  (i:jA) (r:eV) (h:pV U a d g=some r):
  aW Tryz.prog 208 #[Value.agg #[vS (a.1),vI (a.2.1),vI (a.2.2.1),vI (a.2.2.2.1),vI (a.2.2.2.2.1),vI (a.2.2.2.2.2)],Value.agg #[e,f],vI (g)] [Sl bR e d.1,S2 bD f i d.2] (λx:Unit=>Value.tuple #[vI (r.1),vI (r.2)]) (λx l=>l) (λ_ l=>l):=by
 refine aW.of Tryz.func208 Z Tryz.ntmps208 Z λc=>?_;refine aT<|aG (aM.box (cs:=[vS (a.1),vI (a.2.1),vI (a.2.2.1),vI (a.2.2.2.1),vI (a.2.2.2.2.1),vI (a.2.2.2.2.2)]) Z Z) Z λj=>aG (aM.box (cs:=[e,f]) Z Z) Z λk=>aB Z<|aB Z<|aL<|aK ?_;refine JR.start [0,1,0,7,15,31,63,0,255] 8 mixedOrders (by decide +kernel) ?_;refine zBl (by exact rfl) ?_;refine cP Z<|fG 0 Z<|aX Z<|dB h λb h=>bG Z .nil (iI 1 Z) (b_ Z Z (aD.fact 0 Z) Z Z b) aP.z<|bG Z .nil (iI 1 Z) (bX Z (aD.fact 0 Z) Z Z b) aP.z<|bG Z .nil (iI 1 Z) (fV Z (zBj (aD.fact 0 Z) b.1 b.2) Z) aP.z<|fW Z (mM Z Z)<|fW Z (qY Z)<|bK 8 Z Z<|aB Z<|aL<|aR ?_;cases h;exact eW () Z Z (RV.tmp Z) (RV.tmp Z) .nil aE.nil
def Bg  (a:Unit):Option fO:=
 some ((0:Int),(-1:Int))
def nJ (c:Int) (a:(Int)->Option fO) (b:Unit):Option fO:=
 a (wI .i64 (c+(1:Int)))
def fY (U:Nat) (a:GW) (d:cC) (h:Int) (b:Int) (c:(Int)->Option fO):Option fO:=
 if b<(List.length ([((1:Int),(205:Nat)),((2:Int),(207:Nat)),((3:Int),(208:Nat))]):Int)then(ck (0<=b∧b<(List.length ([((1:Int),(205:Nat)),((2:Int),(207:Nat)),((3:Int),(208:Nat))]):Int)) (if b=(0:Int)then(if(1:Int)=a.2.1 then(Option.bind (pU U ((a.1,a.2.1,a.2.2.1,a.2.2.2.1,a.2.2.2.2.1,a.2.2.2.2.2)) ((d.1,d.2)) h) λe=>(some (e.1,e.2)))else(nJ b c (())))else(if b=(1:Int)then(if(2:Int)=a.2.1 then(Option.bind (tQ U ((a.1,a.2.1,a.2.2.1,a.2.2.2.1,a.2.2.2.2.1,a.2.2.2.2.2)) ((d.1,d.2)) h) λf=>(some (f.1,f.2)))else(nJ b c (())))else(if(3:Int)=a.2.1 then(Option.bind (pV U ((a.1,a.2.1,a.2.2.1,a.2.2.2.1,a.2.2.2.2.1,a.2.2.2.2.2)) ((d.1,d.2)) h) λg=>(some (g.1,g.2)))else(nJ b c (()))))))else(Bg  (()))
def kX (U:Nat) (a:GW) (b:cC) (c:Int):Option fO:=
 bL (fY U a b c) U (0:Int)
theorem Vp:aU Tryz.prog 170:=Tryz.call170
theorem FU (U:Nat) {a:GW} {p:cC} {m:Int} (g:Value)  (i:Value)  (y:jA) (r:eV) (h:kX U a p m=some r):
  aW Tryz.prog 170 #[Value.agg #[vS (a.1),vI (a.2.1),vI (a.2.2.1),vI (a.2.2.2.1),vI (a.2.2.2.2.1),vI (a.2.2.2.2.2)],Value.agg #[g,i],vI (m)] [Sl bR g p.1,S2 bD i y p.2] (λx:Unit=>Value.tuple #[vI (r.1),vI (r.2)]) (λx l=>l) (λ_ l=>l):=by
 refine aW.of Tryz.func170 Z Tryz.ntmps170 Z λc=>?_;unfold kX at h;refine aT<|aG (aM.box (cs:=[vS (a.1),vI (a.2.1),vI (a.2.2.1),vI (a.2.2.2.1),vI (a.2.2.2.2.1),vI (a.2.2.2.2.2)]) Z Z) Z λt=>aG (aM.box (cs:=[g,i]) Z Z) Z λu=>aB Z<|aB Z<|aL<|aT ?_;refine aC (Ip (r:=Value.agg #[vI (1:Int),Value.func (.func 205) #[] #[]]) Z Z (by intro w;simp[Instr.build,Instr.fill,dH,cR,cI,dJ,dK,cS,eI])) Z ?_;refine aC (Ip (r:=Value.agg #[vI (2:Int),Value.func (.func 207) #[] #[]]) Z Z (by intro w;simp[Instr.build,Instr.fill,dH,cR,cI,dJ,dK,cS,eI])) Z ?_;refine aC (Ip (r:=Value.agg #[vI (3:Int),Value.func (.func 208) #[] #[]]) Z Z (by intro w;simp[Instr.build,Instr.fill,dH,cR,cI,dJ,dK,cS,eI])) Z ?_;refine aG (cE (e:=Lz) ([(((1:Int),((205:Nat)))),(((2:Int),((207:Nat)))),(((3:Int),((208:Nat))))]) [(0,Value.agg #[vI (1:Int),Value.func (.func 205) #[] #[]]),(1,Value.agg #[vI (2:Int),Value.func (.func 207) #[] #[]]),(2,Value.agg #[vI (3:Int),Value.func (.func 208) #[] #[]])] Z Z Z Z (Zw (vI (1:Int)) (Value.func (.func 205) #[] #[]) (vI (2:Int)) (Value.func (.func 207) #[] #[]) (vI (3:Int)) (Value.func (.func 208) #[] #[])) Z Z Z) Z λv=>aB Z<|aL<|aK<|dQ (λs=>Bg  s=some r) (λs G=>[]) (λs G=>[]) ?_ ?_
 ·refine aT<|aA Z<|aC (fV Z (bB (aD.res 0 Z) DC) Z) Z<|aA Z<|aL<|aS<|dZ (fY U a p m) (λk H=>[(2,vI (m)),(3,vP t),(4,vP u),(15,v),(16,vI (List.length ([((1:Int),(205:Nat)),((2:Int),(207:Nat)),((3:Int),(208:Nat))]):Int)),(17,vI (k))]) (λk H=>[Ar Lz v ([((1:Int),(205:Nat)),((2:Int),(207:Nat)),((3:Int),(208:Nat))]),bS u [g,i] 29,bS t [vS (a.1),vI (a.2.1),vI (a.2.2.1),vI (a.2.2.2.1),vI (a.2.2.2.2.1),vI (a.2.2.2.2.2)] 64]) (0:Int) () h SF (a_.refl _) ?_;intro z k H h;refine aT<|cN Z<|aL<|aK ?_;refine dY h Z (λh=>?_) λh=>?_
  ·refine cD<|aK<|dQ (λj=>nJ k (bL (fY U a p m) z) j=some r) (λj n=>[(2,vI (m)),(3,vP t),(4,vP u),(15,v),(16,vI (List.length ([((1:Int),(205:Nat)),((2:Int),(207:Nat)),((3:Int),(208:Nat))]):Int)),(17,vI (k))]) (λj n=>[Ar Lz v ([((1:Int),(205:Nat)),((2:Int),(207:Nat)),((3:Int),(208:Nat))]),bS u [g,i] 29,bS t [vS (a.1),vI (a.2.1),vI (a.2.2.1),vI (a.2.2.2.1),vI (a.2.2.2.2.1),vI (a.2.2.2.2.2)] 64]) ?_ ?_
   ·refine aS<|aT<|dB h λf h=>aC (aZ Z Z (bB (aD.res 0 Z) DC) Z Z f) Z ?_;by_cases b:k=(0:Int)
    ·have h:=Jl b h;refine aC (gX (cs:=[vI (1:Int),Value.func (.func 205) #[] #[]]) Z (bB (aD.res 0 Z) DC) DC (by rw[b];rfl) Z Z Z f) Z ?_;refine aG (aM.alloc (cs:=[vI (0:Int),Value.nilFunc]) Z Z) Z λI=>bH 0 (vs:=[vI (1:Int),Value.func (.func 205) #[] #[]]) Z Z Z Z Z Z<|aL<|aT<|bN Z<|cT 0 Z<|bN Z<|cT 3 Z<|bU Z<|aL ?_;refine dY h Z (λh=>?_) λh=>?_
     ·refine aT<|bN Z<|cT 0 Z<|cG 3 Z<|cG 2 Z<|aA Z<|dN h λA D h=>aG (pN (vs:=[Value.agg #[vS (a.1),vI (a.2.1),vI (a.2.2.1),vI (a.2.2.2.1),vI (a.2.2.2.2.1),vI (a.2.2.2.2.2)],Value.agg #[g,i],vI (m)]) (cs:=[]) acb Z (JE U g i y A D) Z (jF [0,1] Z) (λ_ _=>rfl)) Z λL=>eS Z<|eS Z<|aB Z<|aB Z<|aL<|aR<|bE<|aI<|aI<|bE<|aI ?_;cases h;exact eW () Z Z (RV.tmp Z) (RV.tmp Z) .nil aE.nil
     refine cU<|jE ?_;exact bZ () (()) h SF (a_.ix [1,2,3] Z Z) (aE.refl _ _)
    have h:=ZI b h;by_cases d:k=(1:Int)
    ·have h:=Jl d h;refine aC (gX (cs:=[vI (2:Int),Value.func (.func 207) #[] #[]]) Z (bB (aD.res 0 Z) DC) DC (by rw[d];rfl) Z Z Z f) Z ?_;refine aG (aM.alloc (cs:=[vI (0:Int),Value.nilFunc]) Z Z) Z λJ=>bH 0 (vs:=[vI (2:Int),Value.func (.func 207) #[] #[]]) Z Z Z Z Z Z<|aL<|aT<|bN Z<|cT 0 Z<|bN Z<|cT 3 Z<|bU Z<|aL ?_;refine dY h Z (λh=>?_) λh=>?_
     ·refine aT<|bN Z<|cT 0 Z<|cG 3 Z<|cG 2 Z<|aA Z<|dN h λB E h=>aG (pN (vs:=[Value.agg #[vS (a.1),vI (a.2.1),vI (a.2.2.1),vI (a.2.2.2.1),vI (a.2.2.2.2.1),vI (a.2.2.2.2.2)],Value.agg #[g,i],vI (m)]) (cs:=[]) ace Z (JF U g i y B E) Z (jF [0,1] Z) (λ_ _=>rfl)) Z λM=>eS Z<|eS Z<|aB Z<|aB Z<|aL<|aR<|bE<|aI<|aI<|bE<|aI ?_;cases h;exact eW () Z Z (RV.tmp Z) (RV.tmp Z) .nil aE.nil
     refine cU<|jE ?_;exact bZ () (()) h SF (a_.ix [1,2,3] Z Z) (aE.refl _ _)
    have h:=ZI d h;have o:k=(2:Int):=by have q:=f;simp only[zAk,List.length_nil]at q;omega
    refine aC (gX (cs:=[vI (3:Int),Value.func (.func 208) #[] #[]]) Z (bB (aD.res 0 Z) DC) DC (by rw[o];rfl) Z Z Z f) Z ?_;refine aG (aM.alloc (cs:=[vI (0:Int),Value.nilFunc]) Z Z) Z λK=>bH 0 (vs:=[vI (3:Int),Value.func (.func 208) #[] #[]]) Z Z Z Z Z Z<|aL<|aT<|bN Z<|cT 0 Z<|bN Z<|cT 3 Z<|bU Z<|aL ?_;refine dY h Z (λh=>?_) λh=>?_
    ·refine aT<|bN Z<|cT 0 Z<|cG 3 Z<|cG 2 Z<|aA Z<|dN h λC F h=>aG (pN (vs:=[Value.agg #[vS (a.1),vI (a.2.1),vI (a.2.2.1),vI (a.2.2.2.1),vI (a.2.2.2.2.1),vI (a.2.2.2.2.2)],Value.agg #[g,i],vI (m)]) (cs:=[]) acf Z (JG U g i y C F) Z (jF [0,1] Z) (λ_ _=>rfl)) Z λN=>eS Z<|eS Z<|aB Z<|aB Z<|aL<|aR<|bE<|aI<|aI<|bE<|aI ?_;cases h;exact eW () Z Z (RV.tmp Z) (RV.tmp Z) .nil aE.nil
    refine cU<|jE ?_;exact bZ () (()) h SF (a_.ix [1,2,3] Z Z) (aE.refl _ _)
   intro j n h;unfold nJ at h;refine aO<|cB Z<|aA Z<|aL ?_;exact uG (wI .i64 (k+(1:Int))) () h SF Z
  refine eR ?_;exact bZ () (()) h SF .nil (aE.refl _ _)
 intro s G h;unfold Bg at h;refine aT<|aB Z<|aB Z<|aL<|aR ?_;cases h;exact eW () Z Z (RV.tmp Z) (RV.tmp Z) (a_.refl _) aE.nil
def Ad  (a:Unit):Option (Int):=
 some (0:Int)
def rA (b:Int) (a:(Int)->Option (Int)) (c:Unit):Option (Int):=
 a (wI .i64 (b+(1:Int)))
def Ae (b:Int) (a:(Int)->Option (Int)) (c:Bool):Option (Int):=
 if c=true then(some (9:Int))else(rA b a (()))
def nV (U:Nat) (c:iH) (e:cC) (a:Int) (b:(Int)->Option (Int)):Option (Int):=
 if a<(c.2.1.length:Int)then(ck (0<=a∧a<(c.2.1.length:Int)) (if((at' c.2.1 a).2.1)≠(1:Int)then(rA a b (()))else(Option.bind (kX U ((((at' c.2.1 a).1),((at' c.2.1 a).2.1),((at' c.2.1 a).2.2.1),((at' c.2.1 a).2.2.2.1),((at' c.2.1 a).2.2.2.2.1),((at' c.2.1 a).2.2.2.2.2))) ((e.1,e.2)) (0:Int)) λd=>(if d.2<d.1 then(Ae a b (true))else(Ae a b (decide ((4096:Int)<(wI .i64 ((wI .i64 (d.2 - d.1))+(1:Int))))))))))else(Ad  (()))
def wX (U:Nat) (a:iH) (b:cC):Option (Int):=
 Option.bind (Ee U ((a.1,a.2.1,a.2.2))) λc=>(if(!c)=true then(some (8:Int))else(Option.bind (iY U ((b.1,b.2))) λd=>(if(!d)=true then(some (1:Int))else(bL (nV U a b) U (0:Int)))))
theorem abI:aU Tryz.prog 127:=Tryz.call127
theorem NZ (U:Nat) {b:iH} {n:cC} (g:Value)  (v:Value)  (i:Value)  (j:Value)  (y:jA) (r:Int) (h:wX U b n=some r):
  aW Tryz.prog 127 #[Value.agg #[vS (b.1),g,v],Value.agg #[i,j]] [Sl aN g b.2.1,Sl aJ v b.2.2,PF (Value.agg #[vS b.1,g,v]),Sl bR i n.1,S2 bD j y n.2] (λx:Unit=>vI (r)) (λx l=>l) (λ_ l=>l):=by
 refine aW.of Tryz.func127 Z Tryz.ntmps127 Z λc=>?_;refine aT<|aG (aM.box (cs:=[vS (b.1),g,v]) Z Z) Z λF=>aG (aM.box (cs:=[i,j]) Z Z) Z λm=>aB Z<|aL<|aK<|aT<|cG 1 Z<|dN h λA C h=>aG (zBi PV (Ol U g v A C) Z (jF [0,1,2] Z)) Z λG=>aC (jC Z) Z<|aL ?_;refine tP h Z (λ_ h=>?_) λ_ h=>?_
 ·refine aT<|aB Z<|aL<|aR<|aI ?_;cases h;exact mR Z
 refine cD<|aK<|aT<|cG 0 Z<|dN h λB D h=>aG (zBi P_ (BS U i j y B D) Z (jF [3,4] Z)) Z λH=>aC (jC Z) Z<|aL ?_;refine tP h Z (λ_ h=>?_) λ_ h=>?_
 ·refine aT<|aB Z<|aL<|aR<|aI ?_;cases h;exact mR Z
 refine cD<|aK<|dQ (λe=>Ad  e=some r) (λe o=>[]) (λe o=>[]) ?_ ?_
 ·refine aT<|bN Z<|cT 1 Z<|gW (aD.fact 0 Z) Z<|aA Z<|aL<|aS<|dZ (nV U b n) (λa p=>[(3,vP m),(16,g),(17,vI (b.2.1.length:Int)),(18,vI (a))]) (λa p=>[bS m [i,j] 29]) (0:Int) () h SF (a_.ix [0] Z Z) ?_;intro u a p h;refine aT<|cN Z<|aL<|aK ?_;refine dY h Z (λh=>?_) λh=>?_
  ·refine cD<|aK<|dQ (λf=>rA a (bL (nV U b n) u) f=some r) (λf q=>[(3,vP m),(16,g),(17,vI (b.2.1.length:Int)),(18,vI (a))]) (λf q=>[bS m [i,j] 29]) ?_ ?_
   ·refine aS<|aT<|dB h λt h=>aC (aZ Z Z (aD.fact 0 Z) Z Z t) Z<|aC (gX (cs:=[vS ((at' b.2.1 a).1),vI ((at' b.2.1 a).2.1),vI ((at' b.2.1 a).2.2.1),vI ((at' b.2.1 a).2.2.2.1),vI ((at' b.2.1 a).2.2.2.2.1),vI ((at' b.2.1 a).2.2.2.2.2)]) Z (aD.fact 0 Z) wG Z Z Z Z t) Z<|aG (aM.alloc (cs:=vD4) Z Z) Z λz=>bH 0 (vs:=[vS ((at' b.2.1 a).1),vI ((at' b.2.1 a).2.1),vI ((at' b.2.1 a).2.2.1),vI ((at' b.2.1 a).2.2.2.1),vI ((at' b.2.1 a).2.2.2.2.1),vI ((at' b.2.1 a).2.2.2.2.2)]) Z Z Z Z Z Z<|aL<|aK<|aT<|bN Z<|cT 0 Z<|kH Z<|aL ?_;refine dY h Z (λh=>?_) λh=>?_
    ·refine mJ<|d_<|sJ<|CB ?_;exact bZ () (()) h SF (a_.ix [1] Z Z) (aE.refl _ _)
    refine cD<|aT<|cG 0 Z<|cG 1 Z<|dN h λk w h=>aG (zBi Vp (FU U i j y k w) Z (jF [3,4] Z)) Z λE=>aA Z<|eS Z<|eS Z<|aB Z<|aB Z<|aL<|aK<|dQ (λd=>Ae a (bL (nV U b n) u) d=some r) (λd s=>[(3,vP m),(16,g),(17,vI (b.2.1.length:Int)),(18,vI (a)),(40,vB (d))]) (λd s=>[bS m [i,j] 29]) ?_ ?_
    ·refine aO<|aA Z<|aA Z<|cN Z<|aA Z ?_;refine AP h Z (λ_ h=>?_) λ_ h=>?_
     ·refine aH Z<|aH Z<|aH Z<|aH Z<|aH Z<|dC Z<|aL ?_;exact bZ (true) () h SF (a_.ix [1] Z Z) (aE.refl _ _)
     refine cJ Z<|cJ Z<|aQ Z (mM Z Z) Z<|aQ Z (wH Z Z) Z<|aQ Z (tM Z Z) Z<|dR Z<|aL ?_;exact bZ (decide ((4096:Int)<(wI .i64 ((wI .i64 (k.2 - k.1))+(1:Int))))) () h SF (a_.ix [1] Z Z) (aE.refl _ _)
    intro d s h;refine tP h Z (λ_ h=>?_) λ_ h=>?_
    ·refine aT<|aB Z<|aL<|aR<|bE<|aI<|aI<|bE<|aI ?_;cases h;exact mR Z
    refine cU<|jE ?_;exact fE () (()) h SF Z
   intro f q h;unfold rA at h;refine aO<|cB Z<|aA Z<|aL ?_;exact uG (wI .i64 (a+(1:Int))) () h SF Z
  refine eR ?_;exact bZ () (()) h SF .nil (aE.refl _ _)
 intro e o h;unfold Ad at h;refine aT<|aB Z<|aL<|aR ?_;cases h;exact gF Z
def yF  (a:Unit):Option Bool:=
 some (true)
def yG (c:Int) (b:(Int)->Option Bool) (a:Bool):Option Bool:=
 if a=true then(some (false))else(b (wI .i64 (c+(1:Int))))
def pG (c:e_) (d:aY) (a:Int) (b:(Int)->Option Bool):Option Bool:=
 if a<(d.length:Int)then(ck (0<=a∧a<(d.length:Int)) (ck (0<=a∧a<(c.length:Int)) (if(at' d a)<((at' c a).1)then(yG a b (true))else(ck (0<=a∧a<(c.length:Int)) (yG a b (decide (((at' c a).2)<(at' d a))))))))else(yF  (()))
def Aj (U:Nat) (a:e_) (b:aY):Option Bool:=
 if(b.length:Int)≠(a.length:Int)then(some (false))else(bL (pG a b) U (0:Int))
theorem abS:aU Tryz.prog 171:=Tryz.call171
theorem Nx (U:Nat) {k:e_} {d:aY} (n:Value)  (o:Value) (r:Bool) (h:Aj U k d=some r):
  aW Tryz.prog 171 #[n,o] [Sl bD n k,Sl bR o d] (λx:Unit=>vB (r)) (λx l=>l) (λ_ l=>l):=by
 refine aW.of Tryz.func171 Z Tryz.ntmps171 Z λc=>?_;refine aT<|aB Z<|aL<|aK<|aT<|aA Z<|gW (aD.fact 1 Z) Z<|aA Z<|gW (aD.fact 0 Z) Z<|kH Z<|aL ?_;refine dY h Z (λh=>?_) λh=>?_
 ·refine aT<|aB Z<|aL<|aR<|aI ?_;cases h;exact gF Z
 refine cD<|aK<|dQ (λm=>yF  m=some r) (λm p=>[]) (λm p=>[]) ?_ ?_
 ·refine aT<|aA Z<|gW (aD.fact 1 Z) Z<|aA Z<|aL<|aS<|dZ (pG k d) (λb q=>[(0,n),(12,o),(13,vI (d.length:Int)),(14,vI (b))]) (λb q=>[]) (0:Int) () h SF (a_.refl _) ?_;intro s b q h;refine aT<|cN Z<|aL<|aK ?_;refine dY h Z (λh=>?_) λh=>?_
  ·refine cD<|aK<|aS<|aT<|aA Z<|dB h λf h=>aC (aZ Z Z (aD.fact 1 Z) Z Z f) Z<|aC (bY Z (aD.fact 1 Z) Z Z Z eD f) Z<|aB Z<|aB Z<|aL<|aK<|dQ (λa=>yG b (bL (pG k d) s) a=some r) (λa e=>[(0,n),(12,o),(13,vI (d.length:Int)),(14,vI (b)),(34,vB (a))]) (λa e=>[]) ?_ ?_
   ·refine aO<|aA Z<|aA Z<|aA Z<|dB h λg h=>aC (aZ Z Z (aD.fact 0 Z) Z Z g) Z ?_;refine aC (He (i:=0) Z Z Z Z Z (by decide)) Z ?_;refine aC (fD Z (aD.fact 0 Z) Z Z Z jX g) Z<|cN Z<|aA Z ?_;refine AP h Z (λ_ h=>?_) λ_ h=>?_
    ·refine aH Z<|aH Z<|aH Z<|aH Z<|aH Z<|aH Z<|aH Z<|dC Z<|aL ?_;exact fE (true) () h SF Z
    refine cJ Z<|cJ Z<|cJ Z<|dB h λj h=>aQ Z (aZ Z Z (aD.fact 0 Z) Z Z j) Z ?_;refine aQ Z (He (i:=1) Z Z Z Z Z (by decide)) Z ?_;refine aQ Z (fD Z (aD.fact 0 Z) Z Z Z EU j) Z<|aQ Z (tM Z Z) Z<|dR Z<|aL ?_;exact fE (decide (((at' k b).2)<(at' d b))) () h SF Z
   intro a e h;refine tP h Z (λ_ h=>?_) λ_ h=>?_
   ·refine aT<|aB Z<|aL<|aR<|bE<|aI<|aI<|bE<|aI ?_;cases h;exact gF Z
   refine cU<|jE<|aO<|cB Z<|aA Z<|aL ?_;exact uG (wI .i64 (b+(1:Int))) () h SF Z
  refine eR ?_;exact fE () (()) h SF Z
 intro m p h;unfold yF at h;refine aT<|aB Z<|aL<|aR ?_;cases h;exact gF Z
def vX  (a:Unit):Option Bool:=
 some (true)
def rM (U:Nat) (c:iA) (e:bO) (a:Int) (b:(Int)->Option Bool):Option Bool:=
 if a<(c.length:Int)then(ck (0<=a∧a<(c.length:Int)) (ck (0<=a∧a<(e.length:Int)) (Option.bind (Aj U (at' c a) (at' e a)) λd=>(if(!d)=true then(some (false))else(b (wI .i64 (a+(1:Int))))))))else(vX  (()))
def yE (U:Nat) (a:iA) (b:bO):Option Bool:=
 if(b.length:Int)≠(a.length:Int)then(some (false))else(bL (rM U a b) U (0:Int))
theorem abJ:aU Tryz.prog 128:=Tryz.call128
theorem Ls (U:Nat) {f:iA} {g:bO} (j:Value)  (p:jA)  (k:Value)  (q:lO) (r:Bool) (h:yE U f g=some r):
  aW Tryz.prog 128 #[j,k] [S2 bD j p f,S2 bR k q g] (λx:Unit=>vB (r)) (λx l=>l) (λ_ l=>l):=by
 refine aW.of Tryz.func128 Z Tryz.ntmps128 Z λc=>?_;refine aT<|aB Z<|aL<|aK<|aT<|aA Z<|aC (gE Z (aD.fact 1 Z) Z) Z<|aA Z<|aC (gE Z (aD.fact 0 Z) Z) Z<|kH Z<|aL ?_;refine dY h Z (λh=>?_) λh=>?_
 ·refine aT<|aB Z<|aL<|aR<|aI ?_;cases h;exact gF Z
 refine cD<|aK<|dQ (λe=>vX  e=some r) (λe n=>[]) (λe n=>[]) ?_ ?_
 ·refine aT<|aA Z<|aC (gE Z (aD.fact 0 Z) Z) Z<|aA Z<|aL<|aS<|dZ (rM U f g) (λd o=>[(1,k),(12,j),(13,vI (f.length:Int)),(14,vI (d))]) (λd o=>[]) (0:Int) () h SF (a_.refl _) ?_;intro t d o h;refine aT<|cN Z<|aL<|aK ?_;refine dY h Z (λh=>?_) λh=>?_
  ·refine cD<|aK<|aS<|aT<|aA Z<|dB h λa h=>aC (b_ Z Z (aD.fact 0 Z) Z Z a) Z<|aC (bX Z (aD.fact 0 Z) Z Z a) Z<|aB Z<|aB Z<|aL<|aT<|aA Z<|aA Z<|aA Z<|dB h λb h=>aC (b_ Z Z (aD.fact 1 Z) Z Z b) Z<|aC (bX Z (aD.fact 1 Z) Z Z b) Z<|dN h λi m h=>aG (zBi abS (Nx U ((at' p d).1) ((at' q d).1) i m) Z (aE.cons (zBj (aD.fact 0 Z) a.1 a.2) (aE.cons (zBj (aD.fact 1 Z) b.1 b.2) .nil))) Z λs=>aC (jC Z) Z<|aL ?_;refine tP h Z (λ_ h=>?_) λ_ h=>?_
   ·refine aT<|aB Z<|aL<|aR<|bE<|aI<|aI<|bE<|aI ?_;cases h;exact gF Z
   refine cU<|jE<|aO<|cB Z<|aA Z<|aL ?_;exact uG (wI .i64 (d+(1:Int))) () h SF Z
  refine eR ?_;exact fE () (()) h SF Z
 intro e n h;unfold vX at h;refine aT<|aB Z<|aL<|aR ?_;cases h;exact gF Z
def xX  (a:iA):Option (iA):=
 some (a)
def xY (b:Int×iA) (a:(Int×iA)->Option (iA)) (c:iA):Option (iA):=
 a ((wI .i64 (b.1+(1:Int))),c)
def pD (U:Nat) (d:iH) (g:cC) (b:Int×iA) (e:(Int×iA)->Option (iA)) (a:Int×iA) (f:(Int×iA)->Option (iA)):Option (iA):=
 if a.1<(d.2.1.length:Int)then(ck (0<=a.1∧a.1<(d.2.1.length:Int)) (ck (0<=b.1∧b.1<(a.2.length:Int)) (ck (0<=b.1∧b.1<(a.2.length:Int)) (Option.bind (kX U ((((at' d.2.1 a.1).1),((at' d.2.1 a.1).2.1),((at' d.2.1 a.1).2.2.1),((at' d.2.1 a.1).2.2.2.1),((at' d.2.1 a.1).2.2.2.2.1),((at' d.2.1 a.1).2.2.2.2.2))) ((g.1,g.2)) b.1) λc=>(ck (0<=a.1∧a.1<((at' a.2 b.1).length:Int)) (ck (0<=a.1∧a.1<((at' (List.set a.2 (Int.toNat b.1) (List.set (at' a.2 b.1) (Int.toNat a.1) (c.1,((at' (at' a.2 b.1) a.1).2)))) b.1).length:Int)) (f ((wI .i64 (a.1+(1:Int))),(List.set (List.set a.2 (Int.toNat b.1) (List.set (at' a.2 b.1) (Int.toNat a.1) (c.1,((at' (at' a.2 b.1) a.1).2)))) (Int.toNat b.1) (List.set (at' (List.set a.2 (Int.toNat b.1) (List.set (at' a.2 b.1) (Int.toNat a.1) (c.1,((at' (at' a.2 b.1) a.1).2)))) b.1) (Int.toNat a.1) (((at' (at' (List.set a.2 (Int.toNat b.1) (List.set (at' a.2 b.1) (Int.toNat a.1) (c.1,((at' (at' a.2 b.1) a.1).2)))) b.1) a.1).1),c.2)))))))))))else(xY b e (a.2))
def mO (U:Nat) (c:iH) (d:cC) (a:Int×iA) (b:(Int×iA)->Option (iA)):Option (iA):=
 if a.1<((List.replicate (Int.toNat (List.length d.1:Int)) ([]:e_)).length:Int)then(ck (0<=(c.2.1.length:Int)∧(c.2.1.length:Int)<=1099511627) (ck (0<=a.1∧a.1<(a.2.length:Int)) (bL (pD U c d a b) U ((0:Int),(List.set a.2 (Int.toNat a.1) (List.replicate (Int.toNat (c.2.1.length:Int)) ((0:Int),(0:Int))))))))else(xX  (a.2))
def iX (U:Nat) (b:iH) (a:cC):Option (iA):=
 ck (0<=(a.1.length:Int)∧(a.1.length:Int)<=1099511627) (bL (mO U b a) U ((0:Int),(List.replicate (Int.toNat (a.1.length:Int)) ([]:e_))))
theorem LJ:aU Tryz.prog 129:=Tryz.call129
theorem AL (U:Nat) {d:iH} {q:cC} (v:Value)  (y:Value)  (A:Value)  (C:Value)  (z4:jA) (r:iA) (h:iX U d q=some r):
  aW Tryz.prog 129 #[Value.agg #[vS (d.1),v,y],Value.agg #[A,C]] [Sl aN v d.2.1,Sl aJ y d.2.2,PF (Value.agg #[vS d.1,v,y]),Sl bR A q.1,S2 bD C z4 q.2] (λx:Ik=>x.1) (λx l=>Ar eO.raw x.1 x.2::jM cW x.2 r::l) (λ_ l=>l):=by
 refine aW.of Tryz.func129 Z Tryz.ntmps129 Z λc=>?_;refine aT<|aG (aM.box (cs:=[vS (d.1),v,y]) Z Z) Z λD=>aG (aM.box (cs:=[A,C]) Z Z) Z λE=>aB Z<|aL<|aT<|bN Z<|cT 0 Z<|gW (aD.fact 3 Z) Z<|dB h λj3 h=>eX (uB cW (Int.toNat (q.1.length:Int)))<|aG (qB (e:=eO.raw) (iO) Z Z Z Z j3 Z Z Z) Z λu=>aB Z<|aL<|aK<|Bn (B:=fP) (λF=>xX  F=some r) (λF H=>[(5,u)]) (λF H=>[Ar eO.raw u H,jM cW H F]) ?_ ?_
 ·refine aT<|aA Z<|aC (gE Z (bF (i:=0) (j:=1) Z Z bV) Z) Z<|aA Z<|aL<|aS<|dZ (B:=fP) (mO U d q) (λb m=>[(2,vP D),(3,vP E),(5,u),(14,vI ((List.replicate (Int.toNat (List.length q.1:Int)) ([]:e_)).length:Int)),(15,vI (b.1))]) (λb m=>[Ar eO.raw u m,jM cW m b.2,bS E [A,C] 29,bS D [vS (d.1),v,y] 36]) ((0:Int),(List.replicate (Int.toNat (q.1.length:Int)) ([]:e_))) (List.replicate (Int.toNat (q.1.length:Int)) (iO)) h SF (a_.refl _) ?_;intro S b m h;refine aT<|cN Z<|aL<|aK ?_;refine dY h Z (λh=>?_) λh=>?_
  ·refine cD<|aK<|Bn (B:=fP) (λp=>xY b (bL (mO U d q) S) p=some r) (λp s=>[(2,vP D),(3,vP E),(5,u),(14,vI ((List.replicate (Int.toNat (List.length q.1:Int)) ([]:e_)).length:Int)),(15,vI (b.1))]) (λp s=>[Ar eO.raw u s,jM cW s p,bS E [A,C] 29,bS D [vS (d.1),v,y] 36]) ?_ ?_
   ·refine aS<|aT<|aA Z<|aB Z<|aL<|aT<|aA Z<|aA Z<|bN Z<|cT 3 Z<|gW (aD.fact 0 Z) Z<|dB h λT h=>aG (qB (e:=cW) (((0:Int),(0:Int))) Z Z Z Z T Z Z Z) Z λw=>dB h λt h=>aC (b_ Z Z (bF (i:=1) (j:=2) Z Z bV) Z Z t) Z<|bQ (Know.one ((bB (aD.res 0 Z) bV))) λO=>eX (yV (k:=b.1) 2 0 Z Z Z t) ?_;refine mK 0 1 ⟨t.1,by first|exact t.2|simpa using t.2⟩ Z Z Z Z Z (by simp) O Z ?_;refine aL<|aT<|bN Z<|cT 3 Z<|gW (aD.fact 0 Z) Z<|aA Z<|aL<|aS<|dZ (pD U d q b (bL (mO U d q) S)) (λa G=>[(2,vP D),(3,vP E),(5,u),(6,vI (b.1)),(14,vI ((List.replicate (Int.toNat (List.length q.1:Int)) ([]:e_)).length:Int)),(15,vI (b.1)),(26,v),(27,vI (d.2.1.length:Int)),(28,vI (a.1))]) (λa G=>[Ar eO.raw u (List.set m (Int.toNat b.1) w),jM cW (List.set m (Int.toNat b.1) w) a.2,bS E [A,C] 29,bS D [vS (d.1),v,y] 36]) ((0:Int),(List.set b.2 (Int.toNat b.1) (List.replicate (Int.toNat (d.2.1.length:Int)) ((0:Int),(0:Int))))) () h SF (a_.refl _) ?_;intro ac a G h;refine aT<|cN Z<|aL<|aK ?_;refine dY h Z (λh=>?_) λh=>?_
    ·refine cD<|aK<|aS<|aT<|aA Z<|dB h λP h=>aC (aZ Z Z (aD.fact 0 Z) Z Z P) Z<|aC (gX (cs:=[vS ((at' d.2.1 a.1).1),vI ((at' d.2.1 a.1).2.1),vI ((at' d.2.1 a.1).2.2.1),vI ((at' d.2.1 a.1).2.2.2.1),vI ((at' d.2.1 a.1).2.2.2.2.1),vI ((at' d.2.1 a.1).2.2.2.2.2)]) Z (aD.fact 0 Z) wG Z Z Z Z P) Z<|aG (aM.alloc (cs:=vD4) Z Z) Z λab=>aB Z<|bH 0 (vs:=[vS ((at' d.2.1 a.1).1),vI ((at' d.2.1 a.1).2.1),vI ((at' d.2.1 a.1).2.2.1),vI ((at' d.2.1 a.1).2.2.2.1),vI ((at' d.2.1 a.1).2.2.2.2.1),vI ((at' d.2.1 a.1).2.2.2.2.2)]) Z Z Z Z Z Z<|aL ?_;refine JR.start [0,0,3,7,0,0,0,96,224,0,0,0,0,7168,15360,31744,31744,31,196095,458239,992,2097151,4194303] 21 mixedOrders (by decide +kernel) ?_;refine zBl (by exact rfl) ?_;refine aX Z<|aX Z<|dB h λn h=>fU (eC 2 Z) λI=>?_;refine bG Z (a_.cons 1 Z .nil) .nil (jB 0 Z Z Z Z Z n.1 (by have V:=n.2;have W:=I;(try simp only[zA1]at V);(try simp only[zA1]at W);(try simp only[zA1]);omega)) aP.z ?_;refine fU (eC 2 Z) λJ=>bG Z (a_.cons 1 Z .nil) .nil (nH 0 Z Z J Z Z n) aP.z<|aX Z<|aX Z<|aX Z<|dB h λg h=>fU (eC 2 Z) λK=>?_;refine bG Z (a_.cons 1 Z .nil) .nil (jB 0 Z Z Z Z Z g.1 (by have V:=g.2;have W:=K;(try simp only[zA1]at V);(try simp only[zA1]at W);(try simp only[zA1]);omega)) aP.z ?_;refine fU (eC 2 Z) λL=>bG Z (a_.cons 1 Z .nil) .nil (nH 0 Z Z L Z Z g) aP.z<|aX Z<|gN 0 Z<|gN 3 Z<|aX Z<|dN h λf X h=>zBk Z Z Z (zBi Vp (FU U A C z4 f X) Z (jF [3,4] Z)) Z (λY=>(oU [([1],[]),([1],[]),([1],[]),([1],[])] Z)) λY=>fW Z (eY Z)<|fW Z (Be Z Z)<|fW Z (Be Z Z)<|dB h λQ h=>fU (Know.len (aD.row (j:=2) Z bV n.1 n.2)) λM=>fW Z (RX Z Z M Z Z Q) ?_;refine fW Z (He (i:=0) Z Z Z Z Z (by decide)) ?_;refine Ep Z Z Z (Gi (us:=[vI (f.1)]) (o:=0) (k:=b.1) 2 ((f.1,((at' (at' a.2 b.1) a.1).2))) ⟨n.1,by first|exact n.2|simpa using n.2⟩ Q Z Z Z Z Z Z Z Z Z Z) (λaa=>(oU [] Z)) λaa=>dB h λR h=>fU (Know.len (aD.row (j:=2) Z bV g.1 (by first|exact g.2|simpa using g.2))) λN=>?_;refine fW Z (RX Z Z N Z Z R)<|bK 21 Z Z ?_;refine aC (He (i:=1) Z Z Z Z Z (by decide)) Z ?_;refine LC (Gi (us:=[vI (f.2)]) (o:=1) (k:=b.1) 2 ((((at' (at' (List.set a.2 (Int.toNat b.1) (List.set (at' a.2 b.1) (Int.toNat a.1) (f.1,((at' (at' a.2 b.1) a.1).2)))) b.1) a.1).1),f.2)) ⟨g.1,by first|exact g.2|simpa using g.2⟩ R Z Z Z Z Z Z Z Z Z Z) λad=>eM<|jE<|aO<|cB Z<|aA Z<|aL ?_;exact kM ((wI .i64 (a.1+(1:Int))),(List.set (List.set a.2 (Int.toNat b.1) (List.set (at' a.2 b.1) (Int.toNat a.1) (f.1,((at' (at' a.2 b.1) a.1).2)))) (Int.toNat b.1) (List.set (at' (List.set a.2 (Int.toNat b.1) (List.set (at' a.2 b.1) (Int.toNat a.1) (f.1,((at' (at' a.2 b.1) a.1).2)))) b.1) (Int.toNat a.1) (((at' (at' (List.set a.2 (Int.toNat b.1) (List.set (at' a.2 b.1) (Int.toNat a.1) (f.1,((at' (at' a.2 b.1) a.1).2)))) b.1) a.1).1),f.2)))) () h SF (a_.ix [1,2,3,4] Z Z) (aE.refl _ _)
    refine mJ<|d_<|d_<|sJ<|jE ?_;exact fE (a.2) (List.set m (Int.toNat b.1) w) h SF Z
   intro p s h;unfold xY at h;refine aO<|cB Z<|aA Z<|aL ?_;exact uG ((wI .i64 (b.1+(1:Int))),p) (s) h SF Z
  refine eR ?_;exact bZ (b.2) (m) h SF (a_.ix [0,1] Z Z) (aE.refl _ _)
 intro F H h;unfold xX at h;refine aT<|aA Z<|aB Z<|aL<|aR ?_;cases h;exact iJ (u,H) Z Z (RV.tmp Z) (a_.refl _) aE.nil
def kP (U:Nat) (a:iH) (b:cC) (e:bO):Option (Int):=
 Option.bind (wX U ((a.1,a.2.1,a.2.2)) ((b.1,b.2))) λd=>(if d≠(0:Int)then(some (d))else(Option.bind (iX U ((a.1,a.2.1,a.2.2)) ((b.1,b.2))) λf=>(Option.bind (yE U f e) λc=>(if(!c)=true then(some (10:Int))else(some (0:Int))))))
theorem YP:aU Tryz.prog 86:=Tryz.call86
theorem GT (U:Nat) {a:iH} {g:cC} {p:bO} (b:Value)  (d:Value)  (e:Value)  (f:Value)  (o:jA)  (m:Value)  (t:lO) (r:Int) (h:kP U a g p=some r):
  aW Tryz.prog 86 #[Value.agg #[vS (a.1),b,d],Value.agg #[e,f],m] [Sl aN b a.2.1,Sl aJ d a.2.2,PF (Value.agg #[vS a.1,b,d]),Sl bR e g.1,S2 bD f o g.2,S2 bR m t p] (λx:Unit=>vI (r)) (λx l=>l) (λ_ l=>l):=by
 refine aW.of Tryz.func86 Z Tryz.ntmps86 Z λc=>?_;refine aT<|aG (aM.box (cs:=[vS (a.1),b,d]) Z Z) Z λz=>aG (aM.box (cs:=[e,f]) Z Z) Z λA=>aB Z<|aL<|aK<|aT<|cG 1 Z<|cG 0 Z<|dN h λu v h=>aG (zBi abI (NZ U b d e f o u v) Z (jF [0,1,2,3,4] Z)) Z λB=>aB Z<|aL<|aT<|aA Z<|kH Z<|aL ?_;refine dY h Z (λh=>?_) λh=>?_
 ·refine aT<|aA Z<|aB Z<|aL<|aR<|aI ?_;cases h;exact mR Z
 refine cD<|aK<|aT<|cG 1 Z<|cG 0 Z<|dN h λq w h=>aG (zBi LJ (AL U b d e f o q w) Z (jF [0,1,2,3,4] Z)) Z λs=>aA Z<|dN h λk n h=>aG (zBi abJ (Ls U s.1 (List.zip s.2 q) m t k n) Z (aE.cons (bF (i:=0) (j:=1) Z Z bV) (jF [5] Z))) Z λy=>aC (jC Z) Z<|aL ?_;refine tP h Z (λ_ h=>?_) λ_ h=>?_
 ·refine aT<|aB Z<|aL<|aR<|aI ?_;cases h;exact mR Z
 refine cD<|aT<|aB Z<|aL<|aR ?_;cases h;exact mR Z
def Aq  (a:bO):Option bO:=
 some (a)
def uT (c:bO) (a:Ce) (b:(Int×bO)->Option bO):Option bO:=
 if a.1<(c.length:Int)then(ck (0<=a.1∧a.1<(c.length:Int)) (ck ((List.length ([]:aY):Int)+((at' c a.1).length:Int)<=1099511627) (ck (0<=a.1∧a.1<(a.2.length:Int)) (b ((wI .i64 (a.1+(1:Int))),(List.set a.2 (Int.toNat a.1) (([]:aY)++(at' c a.1))))))))else(Aq  (a.2))
def s_ (U:Nat) (a:bO):Option bO:=
 ck (0<=(a.length:Int)∧(a.length:Int)<=1099511627) (bL (uT a) U ((0:Int),(List.replicate (Int.toNat (a.length:Int)) ([]:aY))))
theorem PR:aU Tryz.prog 131:=Tryz.call131
theorem Ej (U:Nat) {g:bO} (t:Value)  (w:lO) (r:bO) (h:s_ U g=some r):
  aW Tryz.prog 131 #[t] [S2 bR t w g] (λx:Ik=>x.1) (λx l=>Ar eO.raw x.1 x.2::jM cK x.2 r::l) (λ_ l=>l):=by
 refine aW.of Tryz.func131 Z Tryz.ntmps131 Z λc=>?_;refine aT<|aB Z<|aL<|aT<|aA Z<|aC (gE Z (aD.fact 0 Z) Z) Z<|dB h λu h=>eX (uB cK (Int.toNat (g.length:Int)))<|aG (qB (e:=eO.raw) (iO) Z Z Z Z u Z Z Z) Z λp=>aB Z<|aL<|aK<|Bn (B:=fP) (λm=>Aq  m=some r) (λm n=>[(3,p)]) (λm n=>[Ar eO.raw p n,jM cK n m]) ?_ ?_
 ·refine aT<|aA Z<|aC (gE Z (aD.fact 0 Z) Z) Z<|aA Z<|aL<|aS<|dZ (B:=fP) (uT g) (λa b=>[(3,p),(9,t),(10,vI (g.length:Int)),(11,vI (a.1))]) (λa b=>[Ar eO.raw p b,jM cK b a.2]) ((0:Int),(List.replicate (Int.toNat (g.length:Int)) ([]:aY))) (List.replicate (Int.toNat (g.length:Int)) (iO)) h SF (a_.refl _) ?_;intro v a b h;refine aT<|cN Z<|aL<|aK ?_;refine dY h Z (λh=>?_) λh=>?_
  ·refine cD<|aK<|aS<|aT<|aA Z<|dB h λf h=>aC (b_ Z Z (aD.fact 0 Z) Z Z f) Z<|aC (bX Z (aD.fact 0 Z) Z Z f) Z<|aB Z<|aB Z<|aL<|aO<|aA Z<|aA Z<|aA Z<|eX (dG cK)<|dB h λq h=>aG (eG 0 dW Z Z Z (zBj (aD.fact 0 Z) f.1 f.2) Z Z Z Z q Z) Z λs=>dB h λd h=>aC (b_ Z Z (bF (i:=1) (j:=2) Z Z dW) Z Z d) Z<|bQ (Know.one ((bB (aD.res 0 Z) dW))) λo=>eX (yV (k:=a.1) 2 0 Z Z Z d) ?_;refine mK 0 1 ⟨d.1,by first|exact d.2|simpa using d.2⟩ Z Z Z Z Z (by simp) o Z ?_;refine eM<|jE<|aO<|cB Z<|aA Z<|aL ?_;exact uG ((wI .i64 (a.1+(1:Int))),(List.set a.2 (Int.toNat a.1) (([]:aY)++(at' g a.1)))) (List.set b (Int.toNat a.1) s) h SF Z
  refine eR ?_;exact fE (a.2) (b) h SF Z
 intro m n h;unfold Aq at h;refine aT<|aA Z<|aB Z<|aL<|aR ?_;cases h;exact iJ (p,n) Z Z (RV.tmp Z) (a_.refl _) aE.nil
end Go.Proofs.YtahgemjmgopleaaGreatDoor
namespace Go.Proofs.YtahgemjmgopleaaGreatDoor
open Go Go.Sx
abbrev BW:=ByteArray×(List Kb)×(List zI)
structure jQ (g:GR) (vars:List Kb):Prop where
 len:vars.length<=20
 small:∀x,x<vars.length->Gl (at' vars (x:Int))
 kind:∀x,x<vars.length->(at' vars (x:Int)).2.1=1∨(at' vars (x:Int)).2.1=2∨(at' vars (x:Int)).2.1=3
 range:∀x,x<vars.length->(at' vars (x:Int)).2.1=1 -> -100000<=lo g (at' vars (x:Int)) 0∧lo g (at' vars (x:Int)) 0<=hi g (at' vars (x:Int)) 0∧hi g (at' vars (x:Int)) 0 - lo g (at' vars (x:Int)) 0+1<=4096
theorem afz {g:GR} (a:VG g):CM 1000 g.1=some (gO g g.1.length):=by
 have d:=a.n24;have b:=a.len;have h:=a.n1;have f:0<=at' g.1 ((0:Nat):Int):=(a.node 0 (by omega)).id.1;unfold CM;rw[if_neg (by omega),cV (by omega)];have:=cQ (step:=xO g.1) (K:=some (gO g g.1.length)) (g.1.length - 1) (λk=>(gO g (k+1),((k+1:Nat):Int))) (λk c i=>by
  unfold xO;dsimp only;rw[if_pos (by omega),cV (by omega),dL (by omega)];rfl) (λc=>by
  unfold xO BQ;dsimp only;rw[if_neg (by omega),show g.1.length - 1+1=g.1.length by omega]) 1000 (by omega)
 have e:gO g (0+1)=at' g.1 (0:Int):=by
  show max (gO g 0) (at' g.1 ((0:Nat):Int))=_;simp only[gO];have:at' g.1 ((0:Nat):Int)=at' g.1 (0:Int):=rfl;omega
 rw[e]at this;exact this
theorem OC {g:GR} (c:VG g) {x:Kb} (o:Gl x) (n:x.2.1=1∨x.2.1=2∨x.2.1=3) {v:Nat} (p:v<g.2.length):kX 1000 x g (v:Int)=some (lo g x v,hi g x v):=by
 obtain⟨⟨B,C⟩,⟨r,s⟩,t,u⟩:=o;have l:=c.n24;have d:=c.len;have e:=Jp c g.1.length (by omega);have w:0<=x.2.2.2.2.1*(g.1.length:Int):=Int.mul_nonneg r (by omega);have y:x.2.2.2.2.1*(g.1.length:Int)<=100000*24:=Int.mul_le_mul s (by omega) (by omega) (by omega);have z:0<=x.2.2.2.2.2*gO g g.1.length:=Int.mul_nonneg t e.1;have A:x.2.2.2.2.2*gO g g.1.length<=100000*255:=Int.mul_le_mul u e.2 e.1 (by omega);have i:pU 1000 x g (v:Int)=some (x.2.2.1,x.2.2.2.1+x.2.2.2.2.1*(g.2.length:Int)+x.2.2.2.2.2*gO g g.1.length):=by
  unfold pU;rw[bA (afz c),wr (x:=x.2.2.2.2.1*_) (by omega) (by omega),wr (x:=x.2.2.2.2.2*_) (by omega) (by omega),wr (x:=x.2.2.2.1+_) (by omega) (by omega),wr (by omega) (by omega),d]
 have j:pV 1000 x g (v:Int)=some (-1,((row g v).length:Int) - 1):=by
  have k:=(c.node v p).deg;unfold pV;rw[cV (by omega)];show some ((-1:Int),wI .i64 (((row g v).length:Int) - 1))=_;rw[wr (by omega) (by omega)]
 have q:∀(f:Nat) (a:Int),bL (fY 1000 x g (v:Int)) (f+1) a=fY 1000 x g (v:Int) a (bL (fY 1000 x g (v:Int)) f):=λf a=>rfl;have b:∀(f:Nat) (a:Int),a=0∨a=1∨a=2->bL (fY 1000 x g (v:Int)) (f+1) a=if a=0 then(if 1=x.2.1 then pU 1000 x g (v:Int)else bL (fY 1000 x g (v:Int)) f 1)else if a=1 then(if 2=x.2.1 then tQ 1000 x g (v:Int)else bL (fY 1000 x g (v:Int)) f 2)else(if 3=x.2.1 then pV 1000 x g (v:Int)else bL (fY 1000 x g (v:Int)) f 3):=by
  intro f a m;rw[q];generalize bL (fY 1000 x g (v:Int)) f=G;unfold fY nJ;rcases m with rfl|rfl|rfl
  ·rw[if_pos (by decide),cV (by decide),if_pos Z,if_pos Z];split
   ·rw[i];rfl
   ·rfl
  ·rw[if_pos (by decide),cV (by decide),if_neg (show¬(1:Int)=0 by decide),if_pos Z,if_neg (show¬(1:Int)=0 by decide),if_pos Z];split
   ·rfl
   ·rfl
  ·rw[if_pos (by decide),cV (by decide),if_neg (show¬(2:Int)=0 by decide),if_neg (show¬(2:Int)=1 by decide),if_neg (show¬(2:Int)=0 by decide),if_neg (show¬(2:Int)=1 by decide)];split
   ·rw[j];rfl
   ·rfl
 unfold kX lo hi;rcases n with h|h|h
 ·rw[b 999 0 (.inl Z),if_pos Z,if_pos h.symm,i,h,if_neg (by decide),if_neg (by decide),if_neg (by decide),if_neg (by decide)]
 ·rw[b 999 0 (.inl Z),if_pos Z,if_neg (by omega),b 998 1 (.inr (.inl Z)),if_neg (by decide),if_pos Z,if_pos h.symm,h,if_pos Z,if_pos Z];rfl
 ·rw[b 999 0 (.inl Z),if_pos Z,if_neg (by omega),b 998 1 (.inr (.inl Z)),if_neg (by decide),if_pos Z,if_neg (by omega),b 997 2 (.inr (.inr Z)),if_neg (by decide),if_neg (by decide),if_pos h.symm,j,h,if_neg (by decide),if_pos Z,if_neg (by decide),if_pos Z]
def zV (g:GR) (a:List Kb) (v x:Nat):eV:=(lo g (at' a (x:Int)) v,hi g (at' a (x:Int)) v)
def HK (g:GR) (a:List Kb) (v:Nat):e_:=(List.range a.length).map (zV g a v)
def Cr (g:GR) (a:List Kb):iA:=(List.range g.2.length).map (HK g a)
theorem EG {a:Type} [Inhabited a] (f:Nat->a) {n k:Nat} (h:k<n):at' ((List.range n).map f) (k:Int)=f k:=by
 rw[jI (by simpa using h)];simp
theorem tB {a:Type} (f:Nat->a) (z:a) (n k:Nat) (h:k<n):((List.range k).map f++List.replicate (n - k) z).set k (f k)=(List.range (k+1)).map f++List.replicate (n - (k+1)) z:=by
 rw[show n - k=(n - (k+1))+1 by omega,List.replicate_succ,List.set_append_right _ _ (by simp),zB2];simp
theorem JP {g:GR} (m:VG g) {p:BW} (n:jQ g p.2.1):iX 1000 p g=some (Cr g p.2.1):=by
 have s:=m.n24;have d:=m.len;have w:=n.len;let a:=p.2.1;let Q:Nat->iA:=λk=>(List.range k).map (HK g a)++List.replicate (g.2.length - k) [];have c:∀k,k<=g.2.length->(Q k).length=g.2.length:=λk f=>by simp[Q];omega
 let R:Nat->Nat->e_:=λk j=>(List.range j).map (zV g a k)++List.replicate (a.length - j) (0,0);have l:∀k j,j<=a.length->(R k j).length=a.length:=λk j b=>by simp[R];omega
 unfold iX;rw[cV (by omega)];rw[show List.replicate (Int.toNat (g.1.length:Int)) ([]:e_)=Q 0 by simp[Q,d]];refine cQ (step:=mO 1000 p g) (K:=some (Cr g a)) g.2.length (λk=>((k:Int),Q k)) (λk e f=> ?_) (λe=> ?_) 1000 (by omega)
 ·unfold mO;dsimp only;rw[if_pos (by simp;omega),cV (by omega),cV (by rw[c k (by omega)];omega)];refine Eq.trans (?_:_=bL (pD 1000 p g ((k:Int),Q k) e) 1000 ((0:Int),(Q k).set k (R k 0))) ?_
  ·rw[zAh,zAh];simp[R,a]
  refine cQ (step:=pD 1000 p g ((k:Int),Q k) e) (K:=e (((k+1:Nat):Int),Q (k+1))) a.length (λj=>((j:Int),(Q k).set k (R k j))) (λj h b=> ?_) (λh=> ?_) 1000 (by show p.2.1.length<1000;omega)
  ·have u:j<p.2.1.length:=b;have t:=OC m (n.small j b) (n.kind j b) f;have v:k<(Q k).length:=by rw[c k (by omega)];exact f
   have o:∀X:e_,at' ((Q k).set k X) (k:Int)=X:=λX=>by rw[CX _ _ _ _ v,if_pos Z]
   have i:j<(R k j).length:=by rw[l k j (by omega)];exact b
   unfold pD;dsimp only;rw[if_pos (by omega),cV (by omega),cV (by simp only[zA1];omega),cV (by simp only[zA1];omega),bA (show kX 1000 _ g (k:Int)=_ from t),zAh,zAh];simp only[o,List.set_set];rw[cV (by omega),cV (by simp only[zA1];omega),dL (by omega)];have:(R k j).set j (lo g (at' p.2.1 (j:Int)) k,hi g (at' p.2.1 (j:Int)) k)=R k (j+1):=tB (zV g a k) (0,0) a.length j b;rw[CX _ _ _ _ i,if_pos Z];dsimp only;rw[this]
  ·unfold pD xY;dsimp only;rw[if_neg (show¬((a.length:Nat):Int)<(p.2.1.length:Int)from Int.lt_irrefl _),dL (by omega)];have q:R k a.length=HK g a k:=by simp[R,HK]
   have r:(Q k).set k (HK g a k)=Q (k+1):=tB (HK g a) [] g.2.length k f;rw[q,r]
 ·unfold mO xX;dsimp only;rw[if_neg (by simp;omega)];simp[Q,Cr]
theorem acD {g:GR} (c:VG g) {p:BW} (b:jQ g p.2.1):wX 1000 p g=some 0:=by
 have i:=c.n1;have h:=b.len;unfold wX;rw[bA (show Ee 1000 _=some true from rfl),if_neg (by decide),bA (show iY 1000 g=some true from(XM g).1 c),if_neg (by decide)];refine cQ (step:=nV 1000 p g) (K:=some 0) p.2.1.length (λk=>(k:Int)) (λk e d=> ?_) (λe=> ?_) 1000 (by omega)
 ·unfold nV rA Ae rA;rw[if_pos (by omega),cV (by omega),dL (by omega)];by_cases a:(at' p.2.1 (k:Int)).2.1=1
  ·obtain⟨j,l,m⟩:=b.range k d a;have f:=OC c (b.small k d) (b.kind k d) (v:=0) (by omega);rw[if_neg (by simpa using a),bA (show kX 1000 _ g (0:Int)=_ from f)];dsimp only;rw[if_neg (by omega),wr (x:=hi g (at' p.2.1 (k:Int)) 0 - lo g (at' p.2.1 (k:Int)) 0) (by omega) (by omega),wr (by omega) (by omega),if_neg (by rw[zA8];omega)]
  ·rw[if_pos a]
 ·unfold nV Ad;rw[if_neg (by omega)]
theorem aaB {g:GR} {a:List Kb} (i:a.length<=20) {v:Nat} {l:aY} (c:l.length=a.length) (d:∀x,x<a.length->lo g (at' a (x:Int)) v<=at' l (x:Int)∧at' l (x:Int)<=hi g (at' a (x:Int)) v):Aj 1000 (HK g a v) l=some true:=by
 have f:(HK g a v).length=a.length:=by simp[HK]
 unfold Aj;rw[if_neg (by rw[f,c];simp)];refine cQ (step:=pG (HK g a v) l) (K:=some true) l.length (λk=>(k:Int)) (λk b h=> ?_) (λb=> ?_) 1000 (by omega)
 ·have e:at' (HK g a v) (k:Int)=zV g a v k:=EG _ (by omega);have:=d k (by omega);unfold pG yG;rw[if_pos (by omega),cV (by omega),cV (by omega),e];rw[if_neg (show¬at' l (k:Int)<(zV g a v k).1 from Int.not_lt.2 this.1),cV (by omega),if_neg (by rw[zA8];exact Int.not_lt.2 this.2),dL (by omega)]
 ·unfold pG yF;rw[if_neg (by omega)]
theorem Jb {g:GR} (a:VG g) {p:BW} (f:jQ g p.2.1) {c:bO} (b:HC g c p.2.1):kP 1000 p g c=some 0:=by
 have i:=a.n24;have l:(Cr g p.2.1).length=g.2.length:=by simp[Cr]
 have d:=b.len;unfold kP;rw[bA (show wX 1000 _ _=some 0 from acD a f),if_neg (by decide),bA (show iX 1000 _ _=_ from JP a f)];have:yE 1000 (Cr g p.2.1) c=some true:=by
  unfold yE;rw[if_neg (by rw[l,d];simp)];refine cQ (step:=rM 1000 (Cr g p.2.1) c) (K:=some true) g.2.length (λk=>(k:Int)) (λk h e=> ?_) (λh=> ?_) 1000 (by omega)
  ·have j:at' (Cr g p.2.1) (k:Int)=HK g p.2.1 k:=EG _ e;unfold rM;rw[if_pos (by omega),cV (by omega),cV (by omega),j,bA (aaB f.len (b.row k e) (b.ok k e)),if_neg (by decide),dL (by omega)]
  ·unfold rM vX;rw[if_neg (by omega)]
 rw[bA this,if_neg (by decide)]
theorem Qg (c:bO) (h:c.length<=900) (e:∀v,v<c.length->(at' c (v:Int)).length<=1000):s_ 1000 c=some c:=by
 unfold s_;rw[cV (by omega)];let Q:Nat->bO:=λk=>(List.range k).map (λv:Nat=>at' c (v:Int))++List.replicate (c.length - k) [];rw[show List.replicate (Int.toNat (c.length:Int)) ([]:aY)=Q 0 by simp[Q]];refine cQ (step:=uT c) (K:=some c) c.length (λk=>((k:Int),Q k)) (λk b a=> ?_) (λb=> ?_) 1000 (by omega)
 ·have g:(Q k).length=c.length:=by simp[Q];omega
  have:=e k a;unfold uT;dsimp only;rw[if_pos (by omega),cV (by omega),cV (by simp;omega),cV (by omega),dL (by omega),zAh,List.nil_append];have:(Q k).set k (at' c (k:Int))=Q (k+1):=tB (λv:Nat=>at' c (v:Int)) [] c.length k a;rw[this]
 ·unfold uT Aq;dsimp only;rw[if_neg (by omega)];congr 1;refine List.ext_getElem (by simp[Q]) λi f d=> ?_;simp[Q,jI d]
def sat (x:Int):Int:=max (-1073741824) (min x 1073741824)
def unD (o x:Int):Int:=if o=18 then wI .i64 (0 - x)else Mt (decide (x=0))
def adq (a b:Int):Int:=if b=0 then 0 else if Int.tmod a b≠0∧((decide (a<0)) != (decide (b<0)))=true then wI .i64 (wI .i64 (Int.tdiv a b) - 1)else wI .i64 (Int.tdiv a b)
def aeZ (o x y:Int):Bool:=if o=35 then decide (x=y)else if o=36 then decide (x≠y)else if o=37 then decide (x<y)else if o=38 then decide (x<=y)else if o=39 then decide (y<x)else decide (y<=x)
def biD (o x y:Int):Int:=
 if o=30 then sat (wI .i64 (x*y))else if o=31 then sat (adq x y)else if o=32 then(if y=0 then 0 else sat (wI .i64 (x - wI .i64 (y*adq x y))))else if o=33 then sat (wI .i64 (x+y))else if o=34 then sat (wI .i64 (x - y))
 else if o=41 then Mt (decide (x≠0)&&decide (y≠0))else if o=42 then Mt (decide (x≠0)||decide (y≠0))else Mt (aeZ o x y)
theorem aaJ (f:Nat) (o x:Int):CJ f o x=some (unD o x):=by
 unfold CJ unD;split
 ·rfl
 ·rw[bA (xR f _)]
theorem aao (f:Nat) (a b:Int):sN f a b=some (adq a b):=by
 unfold sN adq;by_cases c:b=0
 ·rw[if_pos c,if_pos c]
 ·rw[if_neg c,if_neg c,cV c,cV c];by_cases d:Int.tmod a b=0
  ·rw[if_neg (by simpa using d),if_neg (by simp[d])];rfl
  ·rw[if_pos d];unfold vQ rD;by_cases e:((decide (a<0)) != (decide (b<0)))=true
   ·rw[if_pos e,if_pos ⟨d,e⟩]
   ·rw[if_neg e,if_neg (λq=>e q.2)]
theorem ae_ (f:Nat) (o x y:Int):yD f o x y=some (aeZ o x y):=by
 unfold yD aeZ
 repeat' split
 all_goals rfl
theorem WU (f:Nat) (o x y:Int):Bw f o x y=some (biD o x y):=by
 unfold Bw biD;by_cases h:o=30
 ·rw[if_pos h,if_pos h];rfl
 rw[if_neg h,if_neg h];by_cases h:o=31
 ·rw[if_pos h,if_pos h,bA (aao f x y)];rfl
 rw[if_neg h,if_neg h];by_cases h:o=32
 ·rw[if_pos h,if_pos h];by_cases b:y=0
  ·rw[if_pos b,if_pos b]
  ·rw[if_neg b,if_neg b,bA (aao f x y)];rfl
 rw[if_neg h,if_neg h];by_cases h:o=33
 ·rw[if_pos h,if_pos h];rfl
 rw[if_neg h,if_neg h];by_cases h:o=34
 ·rw[if_pos h,if_pos h];rfl
 rw[if_neg h,if_neg h];by_cases h:o=41
 ·rw[if_pos h,if_pos h];by_cases a:x=0
  ·rw[if_neg (by simpa using a),bA (xR f _)];simp[a,rB]
  ·rw[if_pos a,bA (xR f _)];simp[a,rB]
 rw[if_neg h,if_neg h];by_cases h:o=42
 ·rw[if_pos h,if_pos h];by_cases a:x=0
  ·rw[if_neg (by simpa using a),bA (xR f _)];simp[a,rC]
  ·rw[if_pos a,bA (xR f _)];simp[a,rC]
 rw[if_neg h,if_neg h,bA (ae_ f o x y),bA (xR f _)]
def E.den (L:Int->Int->Int->Int) (b:Nat):E->Int->Int
 |lf o a,p=>L o a p
 |un o x,p=>unD o (x.den L b p)
 |ag o x,_=>MN o ((List.range b).map λq=>x.den L b ((q:Nat):Int))
 |bi o x y,p=>biD o (x.den L b p) (y.den L b p)
 |ite x y z,p=>if x.den L b p≠0 then y.den L b p else z.den L b p
def E.wf (c:Nat):Bool->E->Bool
 |b,lf o a=>decide (1<=o)&&decide (o<=17)&&(b||decide (o<=10))&&((decide (o≠5)&&decide (o≠12))||(decide (0<=a)&&decide (a<(c:Int))))
 |b,un o x=>decide (18<=o)&&decide (o<=19)&&x.wf c b
 |_,ag o x=>(decide (o=20)||decide (o=21)||decide (o=22)||decide (o=23)||decide (o=24)||decide (o=26)||decide (o=27))&&x.wf c true
 |b,bi o x y=>decide (30<=o)&&decide (o<=42)&&x.wf c b&&y.wf c b
 |b,ite x y z=>x.wf c b&&y.wf c b&&z.wf c b
theorem abf {i:Nat}:∀{e:E} {b:Bool},e.wf i b=true->e.arOk=true:=by
 intro e
 induction e with
 |lf o a=>intro b h;simp[E.wf,E.arOk]at h ⊢;omega
 |un o x f=>intro b h;simp[E.wf,E.arOk]at h ⊢;exact⟨h.1,f h.2⟩
 |ag o x f=>intro b h;simp[E.wf,E.arOk]at h ⊢;exact⟨by omega,f h.2⟩
 |bi o x y c d=>intro b h;simp[E.wf,E.arOk]at h ⊢;exact⟨⟨h.1.1,c h.1.2⟩,d h.2⟩
 |ite x y z c d g=>intro b h;simp[E.wf,E.arOk]at h ⊢;exact⟨⟨c h.1.1,d h.1.2⟩,g h.2⟩
def ZX (W:WLK) (p:Int):Int:=(at' (at' W.1.2.1.2 W.2.2.1) p).1
def lfD (W:WLK) (o a p:Int):Int:=
 if o=1 then a else if o=2 then 1 else if o=3 then 0 else if o=4 then -1 else if o=5 then at' (at' W.2.1 W.2.2.1) a else if o=12 then at' (at' W.2.1 (ZX W p)) a
 else if o=6 then(W.1.2.1.1.length:Int)else if o=7 then W.1.2.2.1 else if o=8 then at' W.1.2.1.1 W.2.2.1 else if o=9 then((at' W.1.2.1.2 W.2.2.1).length:Int)else if o=10 then Mt (decide (W.2.2.1=0))else if o=11 then p
 else if o=13 then at' W.1.2.1.1 (ZX W p)else if o=14 then((at' W.1.2.1.2 (ZX W p)).length:Int)else if o=15 then Mt (decide (ZX W p=0))else if o=16 then(at' (at' W.1.2.1.2 W.2.2.1) p).2 else at' (at' W.1.2.2.2 W.2.2.1) p
structure WOk (W:WLK) (nv n v:Nat):Prop where
 node:W.2.2.1=(v:Int)
 lt:v<n
 ports:W.1.2.1.2.length=n
 ids:W.1.2.1.1.length=n
 c:W.2.1.length=n
 row:∀u:Nat,u<n->(at' W.2.1 (u:Int)).length=nv
 to:∀u:Nat,u<n->∀i:Nat,i<(at' W.1.2.1.2 (u:Int)).length->0<=(at' (at' W.1.2.1.2 (u:Int)) (i:Int)).1∧(at' (at' W.1.2.1.2 (u:Int)) (i:Int)).1<(n:Int)
 bl:W.1.2.2.2.length=n
 br:∀u:Nat,u<n->(at' W.1.2.2.2 (u:Int)).length=(at' W.1.2.1.2 (u:Int)).length
def Yh (b:Bool) (a:Nat) (p:Int):Prop:=b=true->∃q:Nat,p=(q:Int)∧q<a
theorem adb {W:WLK} {k n v:Nat} (h:WOk W k n v) (f:Nat) {b:Bool} {o a p:Int} (s:(E.lf o a).wf k b=true) (r:Yh b (at' W.1.2.1.2 (v:Int)).length p):mU f W (o,a) p=some (lfD W o a p):=by
 obtain⟨y,c,A,B,C,l,m,F,w⟩:=h;simp only[E.wf,zA3,zAz,zA8]at s;obtain⟨⟨⟨G,H⟩,d⟩,I⟩:=s;have z:(at' W.2.1 (v:Int)).length=k:=l v c;unfold mU lfD ZX;dsimp only;rw[y];by_cases e:o=1
 ·simp only[if_pos e]
 simp only[if_neg e];by_cases e:o=2
 ·simp only[if_pos e]
 simp only[if_neg e];by_cases e:o=3
 ·simp only[if_pos e]
 simp only[if_neg e];by_cases e:o=4
 ·simp only[if_pos e]
 simp only[if_neg e];by_cases e:o=5
 ·simp only[if_pos e];rw[cV (by omega),cV (by omega)]
 simp only[if_neg e];by_cases e:o=12
 ·have i:b=true:=by
   rcases d with d|d
   ·exact d
   ·omega
  obtain⟨q,rfl,j⟩:=r i;have g:=m v c q j;obtain⟨u,x⟩:∃u:Nat,(at' (at' W.1.2.1.2 (v:Int)) (q:Int)).1=(u:Int):=⟨_,(Int.toNat_of_nonneg g.1).symm⟩
  simp only[if_pos e];rw[x]at g ⊢;have D:=l u (by omega);rw[cV (by omega),cV (by omega),cV (by omega),cV (by omega)]
 simp only[if_neg e];unfold uM;dsimp only;by_cases e:o=6
 ·simp only[if_pos e];rfl
 simp only[if_neg e];by_cases e:o=7
 ·simp only[if_pos e];rfl
 simp only[if_neg e];by_cases e:o=8
 ·simp only[if_pos e];rw[cV (by omega)];rfl
 simp only[if_neg e];by_cases e:o=9
 ·simp only[if_pos e];rw[cV (by omega)];rfl
 simp only[if_neg e];by_cases e:o=10
 ·simp only[if_pos e];rw[bA (xR f _)];rfl
 simp only[if_neg e];by_cases e:o=11
 ·simp only[if_pos e];rfl
 simp only[if_neg e];have i:b=true:=by
  rcases d with d|d
  ·exact d
  ·omega
 obtain⟨q,rfl,j⟩:=r i;have g:=m v c q j;rw[cV (by omega),cV (by omega)];by_cases e:o=13
 ·simp only[if_pos e];rw[cV (by omega)];rfl
 simp only[if_neg e];by_cases e:o=14
 ·simp only[if_pos e];rw[cV (by omega)];rfl
 simp only[if_neg e];by_cases e:o=15
 ·simp only[if_pos e];rw[bA (xR f _)];rfl
 simp only[if_neg e];by_cases e:o=16
 ·simp only[if_pos e];rfl
 simp only[if_neg e];have t:=w v c;rw[cV (by omega),cV (by omega)];rfl
theorem aaX {W:WLK} {nv n v:Nat} (h:WOk W nv n v) {deg:Nat} (m:(at' W.1.2.1.2 (v:Int)).length=deg) (L:deg<=24) (S:W.2.2.2.length<=800):
  ∀(e:E) (b:Bool) (c k:Nat) (p:Int) (g d:e_),W.2.2.2=g++(e.ts++d)->g.length=k->e.wf nv b=true->Yh b deg p->e.depth+850<=c->
   cF c W (k:Int) p=some (e.den (lfD W) deg p,(((k+e.ts.length:Nat)):Int)):=by
 obtain⟨Q,ab,h1,h2,h3,h4,h5,_,_⟩:=id h;have i:∀{t:eV} {l g d:e_} {k:Nat},W.2.2.2=g++((t::l)++d)->g.length=k->at' W.2.2.2 (k:Int)=t∧(k:Int)<(W.2.2.2.length:Int):=by
  intro t l g d k j r;refine⟨LF (rest:=l++d) (by simpa using j) r,?_⟩
  rw[j];simp;omega
 intro e
 induction e with
 |lf o a=>
  intro b c k p g d j r u w B;obtain⟨c,rfl⟩:∃f,c=f+1:=⟨c - 1,by omega⟩
  obtain⟨A,s⟩:=i (l:=[]) j r;show eL (cF c) c W (k:Int) p=_;unfold eL;rw[cV ⟨by omega,s⟩,A];dsimp only;have X:=u;simp only[E.wf,zA3,zAz,zA8]at X;have hl:=adb h c u (m▸w);rw[if_pos (by omega),bA (show mU c _ (o,a) p=some (lfD W o a p)from hl),dL (by omega)];rfl
 |un o x ih=>
  intro b c k p g d j r u w B;obtain⟨c,rfl⟩:∃f,c=f+1:=⟨c - 1,by omega⟩
  obtain⟨A,s⟩:=i (l:=x.ts) j r;show eL (cF c) c W (k:Int) p=_;unfold eL;rw[cV ⟨by omega,s⟩,A];dsimp only;simp only[E.wf,zA3,zA8]at u;simp only[E.depth]at B;have F:=ih b c (k+1) p (g++[(o,0)]) d (by rw[j];simp[E.ts]) (by simp[r]) u.2 w (by omega);rw[if_neg (by omega),if_pos (by omega),dL (by omega),bA (show cF c _ _ p=_ from F),bA (aaJ c _ _)];simp only[E.den,E.ts,zAk];rw[show k+1+x.ts.length=k+(x.ts.length+1) by omega]
 |bi o x y G H=>
  intro b c k p g d j r u w B;obtain⟨c,rfl⟩:∃f,c=f+1:=⟨c - 1,by omega⟩
  obtain⟨A,s⟩:=i (l:=x.ts++y.ts) j r;show eL (cF c) c W (k:Int) p=_;unfold eL;rw[cV ⟨by omega,s⟩,A];dsimp only;simp only[E.wf,zA3,zA8]at u;simp only[E.depth]at B;have F:=G b c (k+1) p (g++[(o,0)]) (y.ts++d) (by rw[j];simp[E.ts]) (by simp[r]) u.1.2 w (by omega);have Y:=H b c (k+1+x.ts.length) p (g++(o,0)::x.ts) d (by rw[j];simp[E.ts]) (by simp[r];omega) u.2 w (by omega);rw[if_neg (by omega),if_neg (by omega),if_neg (by omega),if_pos (by omega),dL (by omega),bA (show cF c _ _ p=_ from F),bA (show cF c _ _ p=_ from Y),bA (WU c _ _ _)];simp only[E.den,E.ts,zAk,zAi];rw[show k+1+x.ts.length+y.ts.length=k+(x.ts.length+y.ts.length+1) by omega]
 |ite x y z G H aa=>
  intro b c k p g d j r u w B;obtain⟨c,rfl⟩:∃f,c=f+1:=⟨c - 1,by omega⟩
  obtain⟨A,s⟩:=i (l:=x.ts++(y.ts++z.ts)) j r;show eL (cF c) c W (k:Int) p=_;unfold eL;rw[cV ⟨by omega,s⟩,A];dsimp only;simp only[E.wf,zA3]at u;simp only[E.depth]at B;have F:=G b c (k+1) p (g++[(43,0)]) (y.ts++z.ts++d) (by rw[j];simp[E.ts]) (by simp[r]) u.1.1 w (by omega);have Y:=H b c (k+1+x.ts.length) p (g++(43,0)::x.ts) (z.ts++d) (by rw[j];simp[E.ts]) (by simp[r];omega) u.1.2 w (by omega);have hz:=aa b c (k+1+x.ts.length+y.ts.length) p (g++(43,0)::(x.ts++y.ts)) d (by rw[j];simp[E.ts]) (by simp[r];omega) u.2 w (by omega);rw[if_neg (by decide),if_neg (by decide),if_neg (by decide),if_neg (by decide),dL (by omega),bA (show cF c _ _ p=_ from F),bA (show cF c _ _ p=_ from Y),bA (show cF c _ _ p=_ from hz)];simp only[E.den,E.ts,zAk,zAi];rw[show k+1+x.ts.length+y.ts.length+z.ts.length=k+(x.ts.length+(y.ts.length+z.ts.length)+1) by omega];split<;>rfl
 | ag o x ih =>
  intro b c k p g d j r u w B;obtain⟨c,rfl⟩:∃f,c=f+1:=⟨c - 1,by omega⟩
  obtain⟨A,s⟩:=i (l:=x.ts) j r;have T:=abf u;have R:=u;simp only[E.wf,zA3,zAz,zA8]at R;simp only[E.depth]at B;have P:(E.ag o x).ts.length=x.ts.length+1:=rfl;have M:=congrArg List.length j;simp only[zAi]at M;show eL (cF c) c W (k:Int) p=_;unfold eL;rw[cV ⟨by omega,s⟩,A];dsimp only;rw[if_neg (by omega),if_neg (by omega),if_pos (by omega),cV (by omega)];let D:Nat->Int:=λq=>x.den (lfD W) deg ((q:Nat):Int);let V:Nat->aY:=λq=>(List.range q).map D++List.replicate (24 - q) 0;have J:∀q,q<=24->(V q).length=24:=λq U=>by simp[V];omega
  have O:∀q,q<24->(V q).set q (D q)=V (q+1):=λq U=>by
   show((List.range q).map D++List.replicate (24 - q) 0).set q (D q)=(List.range (q+1)).map D++List.replicate (24 - (q+1)) 0;rw[show 24 - q=(24 - (q+1))+1 by omega,List.replicate_succ,List.set_append_right _ _ (by simp),zB2];simp
  let N:Nat->Int:=λq=>if q=0 then 0 else(((k+1+x.ts.length:Nat)):Int)
  refine Eq.trans (cQ (step:=lF c W (k:Int) (cF c)) (K:=some ((E.ag o x).den (lfD W) deg p,(((k+(E.ag o x).ts.length:Nat)):Int))) deg (λq=>(N q,(q:Int),V q)) (λq ag U=> ?_) (λag=> ?_) c (by omega)) Z
  ·unfold lF;dsimp only;have F:=ih true c (k+1) ((q:Nat):Int) (g++[(o,0)]) d (by rw[j];simp[E.ts]) (by simp[r]) R.2 (λ_=>⟨q,rfl,U⟩) (by omega);rw[if_pos (by rw[Q,m];omega),dL (by omega),bA (show cF c _ _ _=_ from F),cV ⟨by omega,J q (by omega)⟩,dL (by omega),zAh];show ag (_,_,(V q).set q (D q))=_;rw[O q (by omega)];simp only[N];rw[if_neg (by omega)]
  ·unfold lF;dsimp only;rw[if_neg (by rw[Q,m];omega)];have C:List.take deg (V deg)=(List.range deg).map D:=by
    show List.take deg ((List.range deg).map D++_)=_;exact List.take_left' (by simp)
   have I:∀y:Int,y=(((k+1+x.ts.length:Nat)):Int)->lE c W (k:Int) (N deg,V deg) y=some ((E.ag o x).den (lfD W) deg p,(((k+(E.ag o x).ts.length:Nat)):Int)):=by
    rintro y rfl;unfold lE;dsimp only;rw[Q,m,cV ⟨by omega,by omega,by rw[J deg L];omega⟩,A,zAh,C,bA (acG c o _ (by omega) (by simp;omega) (by omega))];unfold oP;rw[P,show k+1+x.ts.length=k+(x.ts.length+1) by omega];rfl
   unfold tG;dsimp only;by_cases h0:deg=0
   ·rw[if_pos (by rw[Q,m];omega),bA (afe c (E.ag o x) T j r S (by omega))];exact I _ (by rw[P];omega)
   ·rw[if_neg (by rw[Q,m];omega)];exact I _ (by simp only[N];rw[if_neg h0])
end Go.Proofs.YtahgemjmgopleaaGreatDoor
namespace Go.Proofs.YtahgemjmgopleaaGreatDoor
open Go.Sx
def iG (U:Nat) (a:XK) (b:bO) (c:Int) (d:e_):Option (Int):=
 Option.bind (cF U ((((((a.1.1,a.1.2.1,a.1.2.2)),((a.2.1.1,a.2.1.2)),a.2.2.1,a.2.2.2)),b,c,d)) (0:Int) (-1:Int)) λe=>(some (e.1))
theorem Vt:aU Tryz.prog 209:=Tryz.call209
theorem A_ (U:Nat) {d:XK} {s:bO} {f:Int} {t:e_} (a:Nat)  (m:Value)  (n:Value)  (o:Value)  (p:Value)  (u:jA)  (q:Value)  (v:lO)  (e:Value)  (y:lO)  (b:Value) (r:Int) (h:iG U d s f t=some r):
  aW Tryz.prog 209 #[vP a,e,vI (f),b] [bS a [vS (d.1.1),m,n,o,p,vI (d.2.2.1),q] 224,Sl aN m d.1.2.1,Sl aJ n d.1.2.2,Sl bR o d.2.1.1,S2 bD p u d.2.1.2,S2 bR q v d.2.2.2,S2 bR e y s,Sl bD b t] (λx:Unit=>vI (r)) (λx l=>l) (λ_ l=>l):=by
 refine aW.of Tryz.func209 Z Tryz.ntmps209 Z λc=>?_;refine aT<|aB Z<|aL<|aT<|aA Z<|aA Z<|aA Z<|aA Z<|bQ (Know.one (aD.sl (aD.fact 6 Z))) λg=>bQ (Know.one ((aD.fact 7 Z))) λi=>?_;refine aC (ael (r:=Value.agg #[Value.pointer (some ⟨a,0,none⟩),e,vI (f),b]) Z Z Z Z (by intro w;simp[Instr.build,Instr.fill,dH,cR,cI,dJ,dK,cS,eI,gQ g,gQ i])) Z ?_;refine aG (aM.alloc (cs:=[Value.pointer none,iO,vI (0:Int),iO]) Z Z) Z λz=>bQ (Know.one (aD.sl (aD.fact 6 Z))) λj=>bQ (Know.one ((aD.fact 7 Z))) λk=>bH 0 (vs:=[vP a,e,vI (f),b]) Z Z (c_ Z (c_ j (c_ Z (c_ k Z)))) Z Z Z<|aL<|aT<|dN h λA B h=>aG (zBi DD (GK U z a m n o p u q v e y b A B) Z (aE.cons (aD.res 0 Z) (jF [0,1,2,3,4,5,6,7] Z))) Z λC=>aA Z<|eS Z<|eS Z<|aB Z<|aB Z<|aL<|aT<|aA Z<|aB Z<|aL<|aR ?_;cases h;exact mR Z
def lJ (U:Nat) (a:XK) (c:bO) (d:Int) (b:Int):Option Bool:=
 ck (0<=b∧b<(a.1.2.2.length:Int)) (Option.bind (iG U ((((a.1.1,a.1.2.1,a.1.2.2)),((a.2.1.1,a.2.1.2)),a.2.2.1,a.2.2.2)) c d ((at' a.1.2.2 b).2.1.2)) λe=>(some (decide (e≠(0:Int)))))
theorem abX:aU Tryz.prog 179:=Tryz.call179
theorem Ga (U:Nat) {a:XK} {n:bO} {o:Int} {e:Int} (b:Nat)  (f:Value)  (g:Value)  (i:Value)  (j:Value)  (p:jA)  (k:Value)  (q:lO)  (m:Value)  (s:lO) (r:Bool) (h:lJ U a n o e=some r):
  aW Tryz.prog 179 #[vP b,m,vI (o),vI (e)] [bS b [vS (a.1.1),f,g,i,j,vI (a.2.2.1),k] 224,Sl aN f a.1.2.1,Sl aJ g a.1.2.2,Sl bR i a.2.1.1,S2 bD j p a.2.1.2,S2 bR k q a.2.2.2,S2 bR m s n] (λx:Unit=>vB (r)) (λx l=>l) (λ_ l=>l):=by
 refine aW.of Tryz.func179 Z Tryz.ntmps179 Z λc=>?_;refine aT<|aB Z<|aL<|aT<|aA Z<|aA Z<|aA Z<|aA Z<|aC (cA Z) Z<|bN Z<|bN Z<|aC (fJ Z (aD.fact 0 Z) Z Z Z) Z<|aA Z<|dB h λd h=>aC (aZ Z Z (aD.fact 2 Z) Z Z d) Z<|aC (dX Z Z Z Z Z) Z<|aC (fD Z (aD.fact 2 Z) Z Z Z tI d) Z<|dN h λt u h=>aG (zBi Vt (A_ U b f g i j p k q m s ((at' a.1.2.2 e).2.1.1) t u) Z (aE.cons (aD.fact 0 Z) (aE.cons (aD.fact 1 Z) (aE.cons (aD.fact 2 Z) (aE.cons (aD.fact 3 Z) (aE.cons (aD.fact 4 Z) (aE.cons (aD.fact 5 Z) (aE.cons (aD.fact 6 Z) (aE.cons (jN (aD.fact 2 Z) tK d.1 d.2) .nil))))))))) Z λv=>kH Z<|aB Z<|aL<|aR ?_;cases h;exact gF Z
def oS  (a:Unit):Option (Int):=
 some (-1:Int)
def lH (U:Nat) (a:KI) (d:bO) (e:Int) (b:Int) (c:(Int)->Option (Int)):Option (Int):=
 if b<(a.1.2.2.length:Int)then(Option.bind (lJ U ((((a.2.1.1.1,a.2.1.1.2.1,a.2.1.1.2.2)),((a.2.1.2.1.1,a.2.1.2.1.2)),a.2.1.2.2.1,a.2.1.2.2.2)) d e b) λf=>(if f=true then(some (b))else(c (wI .i64 (b+(1:Int))))))else(oS  (()))
def fZ (U:Nat) (a:KI) (b:bO) (c:Int):Option (Int):=
 bL (lH U a b c) U (0:Int)
theorem Vo:aU Tryz.prog 141:=Tryz.call141
theorem Cc (U:Nat) {a:KI} {n:bO} {m:Int} (d:Nat)  (z:Value)  (A:Value)  (e:Nat)  (o:Value)  (p:Value)  (q:Value)  (s:Value)  (B:jA)  (t:Value)  (g:lO)  (f:Value)  (v:jA)  (b:Value)  (i:lO) (r:Int) (h:fZ U a n m=some r):
  aW Tryz.prog 141 #[vP d,b,vI (m)] [bS d [vS (a.1.1),z,A,vP e,f] 183,Sl aN z a.1.2.1,Sl aJ A a.1.2.2,bS e [vS (a.2.1.1.1),o,p,q,s,vI (a.2.1.2.2.1),t] 224,Sl aN o a.2.1.1.2.1,Sl aJ p a.2.1.1.2.2,Sl bR q a.2.1.2.1.1,S2 bD s B a.2.1.2.1.2,S2 bR t g a.2.1.2.2.2,S2 bD f v a.2.2,S2 bR b i n] (λx:Unit=>vI (r)) (λx l=>l) (λ_ l=>l):=by
 refine aW.of Tryz.func141 Z Tryz.ntmps141 Z λc=>?_;unfold fZ at h;refine aT<|aB Z<|aL<|aK<|dQ (λj=>oS  j=some r) (λj w=>[]) (λj w=>[]) ?_ ?_
 ·refine aT<|aA Z<|aC (cA Z) Z<|bN Z<|bN Z<|aC (fJ Z (aD.fact 0 Z) Z Z Z) Z<|gW (aD.fact 2 Z) Z<|aA Z<|aL<|aS<|dZ (lH U a n m) (λk y=>[(0,vP d),(1,b),(2,vI (m)),(13,vI (a.1.2.2.length:Int)),(14,vI (k))]) (λk y=>[]) (0:Int) () h SF (a_.refl _) ?_;intro E k y h;refine aT<|cN Z<|aL<|aK ?_;refine dY h Z (λh=>?_) λh=>?_
  ·refine cD<|aK<|aS<|aT<|aA Z<|aB Z<|aL<|aT<|aA Z<|aC (cA Z) Z<|bN Z<|aC (fJ Z (aD.fact 0 Z) Z Z Z) Z<|aA Z<|aA Z<|aA Z<|dN h λC u h=>aG (zBi abX (Ga U e o p q s B t g b i C u) Z (jF [3,4,5,6,7,8,10] Z)) Z λD=>aL ?_;refine tP h Z (λ_ h=>?_) λ_ h=>?_
   ·refine aT<|aA Z<|aB Z<|aL<|aR<|bE<|aI<|aI<|bE<|aI ?_;cases h;exact gF Z
   refine cU<|jE<|aO<|cB Z<|aA Z<|aL ?_;exact uG (wI .i64 (k+(1:Int))) () h SF Z
  refine eR ?_;exact fE () (()) h SF Z
 intro j w h;unfold oS at h;refine aT<|aB Z<|aL<|aR ?_;cases h;exact gF Z
end Go.Proofs.YtahgemjmgopleaaGreatDoor