/- Models and proofs. Conditions: none. -/
import Derived.Test.YtflciafboapaaaaGreatZRSt5
import Derived.Test.YtflciafboapaaaaGreatZRSt4
import Derived.Test.YtflciafboapaaaaGreatZRSt2
import Derived.KernelRfl
import Derived.Test.YtflciafboapaaaaGreatZRSt3
set_option linter.unusedVariables false
set_option linter.unusedSimpArgs false
set_option maxHeartbeats 4000000
set_option maxRecDepth 20000
namespace Go.Proofs.YtflciafboapaaaaGreat
open Go.Sx
theorem AM {R:Type} {step:Int->(Int->Option R)->Option R} {K:Option R} {bad:R} (N:Nat) (p:Nat->Prop)
  (r:∀(k:Nat) c,k<N->p k->step k c=c ((k:Int)+1)) (i:∀(k:Nat) c,k<N->¬p k->step k c=some bad) (j:∀c,step N c=K):
  ∀(b:Nat),N<b->((∀k,k<N->p k)->bP step b 0=K)∧(¬(∀k,k<N->p k)->bP step b 0=some bad):=by
 intro b q;have s:∀(d a b:Nat),a+d=N->d<b->((∀k,a<=k->k<N->p k)->bP step b (a:Int)=K)∧(¬(∀k,a<=k->k<N->p k)->bP step b (a:Int)=some bad):=by
  intro d
  induction d with
  |zero=>
   intro a b v q;obtain rfl:a=N:=by omega
   cases b with
   |zero=>omega
   |succ f=>exact⟨λ_=>j _,λh=>absurd (λk m g=>by omega) h⟩
  | succ d ih =>
   intro a b v q;cases b with
   |zero=>omega
   | succ f =>
    obtain⟨t,u⟩:=ih (a+1) f (by omega) (by omega);have e:((a+1:Nat):Int)=(a:Int)+1:=by omega
    rw[e]at t u;by_cases n:p a
    ·have w:bP step (f+1) (a:Int)=bP step f ((a:Int)+1):=r a _ (by omega) n;rw[w];refine⟨λh=>t λk m g=>h k (by omega) g,λh=>u λo=>h λk m g=> ?_⟩
     by_cases l:k=a
     ·subst l;exact n
     ·exact o k (by omega) g
    ·exact⟨λh=>absurd (h a (zAg _) (by omega)) n,λ_=>i a _ (by omega) n⟩
 obtain⟨m,g⟩:=s N 0 b (by omega) q;exact⟨λh=>m λk _ l=>h k l,λh=>g λo=>h λk l=>o k (by omega) l⟩
abbrev GR:=List Int×jR
theorem jA (a:Nat) (v c d:Int):iA a v c d=some (decide (c<=v∧v<=d)):=by
 unfold iA Bu;by_cases h:c<=v
 ·rw[if_pos h];congr 1;exact decide_eq_decide.2 ⟨λb=>⟨h,b⟩,λb=>b.2⟩
 ·rw[if_neg h,zA3 (λb=>h b.1)]
abbrev row (g:GR) (v:Nat):fP:=at' g.2 (v:Int)
abbrev Gt (g:GR) (v:Nat):Int:=at' g.1 (v:Int)
abbrev jL (l:fP) (i:Nat):gC:=at' l (i:Int)
def light (g:GR):Prop:=g.1.length<=30∧g.2.length<=30∧∀v,v<g.2.length->(row g v).length<=30
def IG (l:fP) (v n i:Nat):Prop:=(0<=(jL l i).1∧(jL l i).1<=(n:Int) - 1)∧(jL l i).1≠v∧(1<=(jL l i).2∧(jL l i).2<=15)∧∀k,k<i->(jL l k).1≠(jL l i).1
def qW (l:fP) (v n:Nat):Prop:=∀i,i<l.length->IG l v n i
theorem sD (l:fP) (v n:Nat) (o:l.length<=30) (p:n<=30):(qW l v n->lN 1000 l v n=some true)∧(¬qW l v n->lN 1000 l v n=some false):=by
 unfold lN;have a:∀(i:Nat) (b:Int->Option Bool),i<l.length->((∀k,k<i->(jL l k).1≠(jL l i).1)->bP (jN l i b) 1000 0=b ((i:Int)+1))∧(¬(∀k,k<i->(jL l k).1≠(jL l i).1)->bP (jN l i b) 1000 0=some false):=by
  intro i b h;refine AM i _ (λk d m c=> ?_) (λk d m c=> ?_) (λd=> ?_) 1000 (by omega)
  ·unfold jN;rw[if_pos (by omega),cO (by omega),cO (by omega),if_neg c,wr (by omega) (by omega)]
  ·unfold jN;rw[if_pos (by omega),cO (by omega),cO (by omega),if_pos (zAw.1 c)]
  ·unfold jN pO;rw[if_neg (by omega),wr (by omega) (by omega)]
 refine AM l.length (IG l v n) (λi b h c=> ?_) (λi b h c=> ?_) (λb=> ?_) 1000 (by omega)
 ·obtain⟨e,f,g,j⟩:=c;unfold iS kX;rw[if_pos (by omega),cO (by omega),wr (x:=(n:Int) - 1) (by omega) (by omega),jA,zA4 e,bN Z,if_neg (by simp),cO (by omega),if_neg f,cO (by omega),jA,zA4 g,bN Z,if_neg (by simp)];exact(a i b h).1 j
 ·unfold iS kX;rw[if_pos (by omega),cO (by omega),wr (x:=(n:Int) - 1) (by omega) (by omega),jA];by_cases e:0<=(jL l i).1∧(jL l i).1<=(n:Int) - 1
  ·rw[zA4 e,bN Z,if_neg (by simp),cO (by omega)];by_cases f:(jL l i).1=v
   ·rw[if_pos f];rfl
   ·rw[if_neg f,cO (by omega),jA];by_cases g:1<=(jL l i).2∧(jL l i).2<=15
    ·rw[zA4 g,bN Z,if_neg (by simp)];exact(a i b h).2 λj=>c ⟨e,f,g,j⟩
    ·rw[zA3 g];rfl
  ·rw[zA3 e];rfl
 ·unfold iS pN;rw[if_neg (by omega)]
def AA (l:fP) (u:Int):Int:=match l.findIdx? (λx=>decide (x.1=u))with
 |some i=>i
 |none=> -1
theorem Jz {l:fP} {u:Int} (i:Nat) (b:i<l.length) (d:(jL l i).1=u) (c:∀k,k<i->(jL l k).1≠u):AA l u=i:=by
 have:l.findIdx? (λx=>decide (x.1=u))=some i:=by
  rw[List.findIdx?_eq_some_iff_getElem];have e:∀k (a:k<l.length),jL l k=l[k]:=λk a=>by rw[jL,BV,zAk,zA2 a];rfl
  refine⟨b,by rw[<-e i b];simpa using d,λk a=> ?_⟩
  have:=c k a;rw[e k (by omega)]at this;simpa using this
 rw[AA,this]
theorem PL {l:fP} {u:Int} (b:∀k,k<l.length->(jL l k).1≠u):AA l u = -1:=by
 have:l.findIdx? (λx=>decide (x.1=u))=none:=by
  rw[List.findIdx?_eq_none_iff];intro x c;obtain⟨k,a,rfl⟩:=List.getElem_of_mem c;have:=b k a;rw[jL,BV,zAk,zA2 a]at this;simpa using this
 rw[AA,this]
theorem uV (l:fP) (u:Int):(∃i,i<l.length∧(jL l i).1=u∧(∀k,k<i->(jL l k).1≠u)∧AA l u=i)∨((∀k,k<l.length->(jL l k).1≠u)∧AA l u = -1):=by
 by_cases h:∀k,k<l.length->(jL l k).1≠u
 ·exact .inr ⟨h,PL h⟩
 ·left;have f:∃k,k<l.length∧(jL l k).1=u:=by
   apply Classical.byContradiction;intro o;exact h λk g e=>o ⟨k,g,e⟩
  obtain⟨k,g,n⟩:=f;have:∀m,(∃k,k<=m∧k<l.length∧(jL l k).1=u)->∃i,i<l.length∧(jL l i).1=u∧∀k,k<i->(jL l k).1≠u:=by
   intro m
   induction m with
   |zero=>rintro⟨k,d,a,b⟩;exact⟨k,a,b,λj p=>by omega⟩
   |succ m q=>
    rintro⟨k,d,a,b⟩;by_cases c:∃j,j<=m∧j<l.length∧(jL l j).1=u
    ·exact q c
    ·exact⟨k,a,b,λj p e=>c ⟨j,by omega,by omega,e⟩⟩
  obtain⟨i,d,a,b⟩:=this k ⟨k,zAg _,g,n⟩;exact⟨i,d,a,b,Jz i d a b⟩
theorem Hs (g:GR) (v:Nat) (u:Int) (m:v<g.2.length) (l:(row g v).length<=30):rB 1000 g v u=some (AA (row g v) u):=by
 unfold rB;rcases uV (row g v) u with⟨i,j,h,c,b⟩|⟨c,b⟩
 ·rw[b];refine Kb (λx:Int=>∃k:Nat,x=k∧k<=i) (λx=>31 - x.toNat) ?_ 1000 _ ⟨0,rfl,by omega⟩ (by omega);rintro x d ⟨k,rfl,f⟩ a;unfold AQ;rw[cO (by omega),if_pos (show(k:Int)<((row g v).length:Int) by omega),cO (by omega),cO (show 0<=(k:Int)∧(k:Int)<((row g v).length:Int) by omega)];by_cases e:k=i
  ·subst e;exact if_pos h
  ·rw[if_neg (c k (by omega)),wr (by omega) (by omega)];exact a _ ⟨k+1,by omega,by omega⟩ (by omega)
 ·rw[b];refine Kb (λx:Int=>∃k:Nat,x=k∧k<=(row g v).length) (λx=>31 - x.toNat) ?_ 1000 _ ⟨0,rfl,by omega⟩ (by omega);rintro x d ⟨k,rfl,f⟩ a;unfold AQ;rw[cO (by omega)];by_cases e:k<(row g v).length
  ·rw[if_pos (show(k:Int)<((row g v).length:Int) by omega),cO (by omega),cO (show 0<=(k:Int)∧(k:Int)<((row g v).length:Int) by omega),if_neg (c k e),wr (by omega) (by omega)];exact a _ ⟨k+1,by omega,by omega⟩ (by omega)
  ·rw[if_neg (show¬(k:Int)<((row g v).length:Int) by omega)];rfl
theorem HX {X R:Type} {step:X->(X->Option R)->Option R} {K:X->Option R} {bad:R} (N:Nat) (p:Nat->Prop) (I:Nat->X->Prop)
  (t:∀(k:Nat) x g,k<N->I k x->p k->∃c,I (k+1) c∧step x g=g c) (j:∀(k:Nat) x g,k<N->I k x->¬p k->step x g=some bad) (l:∀x g,I N x->step x g=K x):
  ∀(b:Nat) (x:X),I 0 x->N<b->((∀k,k<N->p k)->∃c,I N c∧bP step b x=K c)∧(¬(∀k,k<N->p k)->bP step b x=some bad):=by
 intro b x e s;have v:∀(d a b:Nat) (x:X),a+d=N->d<b->I a x->((∀k,a<=k->k<N->p k)->∃c,I N c∧bP step b x=K c)∧(¬(∀k,a<=k->k<N->p k)->bP step b x=some bad):=by
  intro d
  induction d with
  |zero=>
   intro a b x w s e;obtain rfl:a=N:=by omega
   cases b with
   |zero=>omega
   |succ f=>exact⟨λ_=>⟨x,e,l _ _ e⟩,λh=>absurd (λk n i=>by omega) h⟩
  | succ d ih =>
   intro a b x w s e;cases b with
   |zero=>omega
   | succ f =>
    by_cases o:p a
    ·obtain⟨c,r,u⟩:=t a x (bP step f) (by omega) e o;have u:bP step (f+1) x=bP step f c:=u;obtain⟨y,z⟩:=ih (a+1) f c (by omega) (by omega) r;rw[u];refine⟨λh=>y λk n i=>h k (by omega) i,λh=>z λq=>h λk n i=> ?_⟩
     by_cases m:k=a
     ·subst m;exact o
     ·exact q k (by omega) i
    ·exact⟨λh=>absurd (h a (zAg _) (by omega)) o,λ_=>j a x _ (by omega) e o⟩
 obtain⟨n,i⟩:=v N 0 b x (by omega) s e;exact⟨λh=>n λk _ m=>h k m,λh=>i λq=>h λk m=>q k (by omega) m⟩
def Ah (g:GR) (v i:Nat):Prop:=∃j,j<(at' g.2 (jL (row g v) i).1).length∧(jL (at' g.2 (jL (row g v) i).1) j).1=v∧(jL (at' g.2 (jL (row g v) i).1) j).2=(jL (row g v) i).2
structure Kr (g:GR) (v:Nat):Prop where
 id:0<=Gt g v∧Gt g v<=255
 deg:(row g v).length<g.2.length
 links:qW (row g v) v g.2.length
 ids:∀k,k<v->Gt g k≠Gt g v
structure VG (g:GR):Prop where
 n1:1<=g.2.length
 n24:g.2.length<=24
 len:g.1.length=g.2.length
 node:∀v,v<g.2.length->Kr g v
 sym:∀v,v<g.2.length->∀i,i<(row g v).length->Ah g v i
theorem JA (g:GR) (N:light g):(VG g->jV 1000 g=some true)∧(¬VG g->jV 1000 g=some false):=by
 obtain⟨S,H,t⟩:=N;unfold jV;rw[jA,bN Z];by_cases z:1<=g.2.length∧g.2.length<=24
 rotate_left
 ·rw[zA3 (by omega)];exact⟨λh=>absurd ⟨h.n1,h.n24⟩ z,λ_=>rfl⟩
 rw[zA4 (by omega),if_neg (by simp)];by_cases I:g.1.length=g.2.length
 rotate_left
 ·rw[zA4 (by omega)];exact⟨λh=>absurd h.len I,λ_=>rfl⟩
 rw[zA3 (by omega)];unfold tT;rw[if_neg (by simp)];have o:∀(v:Nat) (b:Int->Option Bool),v<g.2.length->((∀k,k<v->Gt g k≠Gt g v)->bP (iL g v b) 1000 0=b ((v:Int)+1))∧(¬(∀k,k<v->Gt g k≠Gt g v)->bP (iL g v b) 1000 0=some false):=by
  intro v b d;refine AM v _ (λk a C c=> ?_) (λk a C c=> ?_) (λa=> ?_) 1000 (by omega)
  ·unfold iL;rw[if_pos (by omega),cO (by omega),cO (by omega),if_neg c,wr (by omega) (by omega)]
  ·unfold iL;rw[if_pos (by omega),cO (by omega),cO (by omega),if_pos (zAw.1 c)]
  ·unfold iL tX;rw[if_neg (by omega),wr (by omega) (by omega)]
 have l:=AM (step:=iC 1000 g) (K:=nN 1000 g ()) (bad:=false) g.2.length (Kr g) (λv b d c=> ?_) (λv b d c=> ?_) (λb=> ?_) 1000 (by omega)
 rotate_left
 ·unfold iC mH;rw[if_pos (by omega),cO (by omega),jA,zA4 c.id,bN Z,if_neg (by simp),cO (by omega),if_neg (show¬((g.2.length:Int)<=((row g v).length:Int))from by have:=c.deg;omega),cO (by omega),(sD (row g v) v g.2.length (t v d) H).1 c.links,bN Z,if_neg (by simp)];exact(o v b d).1 c.ids
 ·unfold iC mH;rw[if_pos (by omega),cO (by omega),jA];by_cases x:0<=Gt g v∧Gt g v<=255
  rotate_left
  ·rw[zA3 x];rfl
  rw[zA4 x,bN Z,if_neg (by simp),cO (by omega)];by_cases J:(row g v).length<g.2.length
  rotate_left
  ·rw[if_pos (show(g.2.length:Int)<=((row g v).length:Int) by omega)];rfl
  rw[if_neg (show¬(g.2.length:Int)<=((row g v).length:Int) by omega),cO (by omega)];by_cases y:qW (row g v) v g.2.length
  rotate_left
  ·rw[(sD (row g v) v g.2.length (t v d) H).2 y];rfl
  rw[(sD (row g v) v g.2.length (t v d) H).1 y,bN Z,if_neg (by simp)];exact(o v b d).2 λL=>c ⟨x,J,y,L⟩
 ·unfold iC;rw[if_neg (by omega)]
 by_cases q:∀v,v<g.2.length->Kr g v
 rotate_left
 ·exact⟨λh=>absurd h.node q,λ_=>l.2 q⟩
 rw[l.1 q];unfold nN;have f:∀(v:Nat) (b:Int->Option Bool),v<g.2.length->((∀i,i<(row g v).length->Ah g v i)->bP (gA 1000 g v b) 1000 0=b ((v:Int)+1))∧(¬(∀i,i<(row g v).length->Ah g v i)->bP (gA 1000 g v b) 1000 0=some false):=by
  intro v b d;have P:=t v d;have n:∀(i:Nat) a,i<(row g v).length->(Ah g v i->gA 1000 g v b i a=a ((i:Int)+1))∧(¬Ah g v i->gA 1000 g v b i a=some false):=by
   intro i a r;unfold gA;rw[cO (by omega),if_pos (show(i:Int)<((row g v).length:Int) by omega),cO (by omega),cO (show 0<=(i:Int)∧(i:Int)<((row g v).length:Int) by omega)];have R:=((q v d).links i r).1;obtain⟨u,G⟩:∃u:Nat,(jL (row g v) i).1=u:=⟨(jL (row g v) i).1.toNat,by omega⟩
   have p:u<g.2.length:=by omega
   unfold Ah;rw[show(at' (at' g.2 (v:Int)) (i:Int))=jL (row g v) i from rfl,G,Hs g u v p (t u p),bN Z];have F:=(q u p).links;rcases uV (row g u) v with⟨j,w,m,B,A⟩|⟨M,A⟩
   ·rw[A,if_neg (by omega),cO (by omega),cO (show 0<=(j:Int)∧(j:Int)<((at' g.2 (u:Int)).length:Int)from⟨by omega,by have:j<(row g u).length:=w;exact_mod_cast this⟩)];unfold tW;constructor
    ·rintro⟨k,C,s,E⟩;have D:k=j:=by
      rcases Nat.lt_trichotomy k j with h|h|h
      ·exact absurd s (B k h)
      ·exact h
      ·exact absurd (m.trans s.symm) ((F k C).2.2.2 j h)
     subst D;rw[if_neg (by rw[zA3];simp;exact λh=>h E),wr (by omega) (by omega)]
    ·intro h;rw[if_pos];exact zA4 λQ=>h ⟨j,w,m,Q⟩
   ·rw[A,if_pos (by decide)];exact⟨fun⟨j,w,m,_⟩=>absurd m (M j w),λ_=>rfl⟩
  refine AM (row g v).length _ (λi a r c=>(n i a r).1 c) (λi a r c=>(n i a r).2 c) (λa=> ?_) 1000 (by omega);unfold gA tV;rw[cO (by omega),if_neg (show¬(((row g v).length:Nat):Int)<((row g v).length:Int) by omega),wr (by omega) (by omega)]
 have e:=AM (step:=iB 1000 g) (K:=some true) (bad:=false) g.2.length (λv=>∀i,i<(row g v).length->Ah g v i) (λv b d c=> ?_) (λv b d c=> ?_) (λb=> ?_) 1000 (by omega)
 ·exact⟨λh=>e.1 h.sym,λh=>e.2 λO=>h ⟨z.1,z.2,I,q,O⟩⟩
 ·unfold iB;rw[if_pos (by omega)];exact(f v b d).1 c
 ·unfold iB;rw[if_pos (by omega)];exact(f v b d).2 c
 ·unfold iB tU;rw[if_neg (by omega)]
theorem BC {a:Type} [Inhabited a] (l:List a) (i k:Nat) (y:a) (b:i<l.length):at' (l.set i y) (k:Int)=if k=i then y else at' l (k:Int):=by
 rw[BV,BV,zAk,zAk,List.getElem?_set];by_cases h:i=k
 ·rw[if_pos h,if_pos h.symm,if_pos (by omega)];rfl
 ·rw[if_neg h,if_neg (Ne.symm h)]
def Vg (l:cC) (k:Nat):Prop:=(0<=at' l (k:Int)∧at' l (k:Int)<=255)∧∀j,j<k->at' l (j:Int)≠at' l (k:Int)
theorem wQ (l:cC) (C:l.length<=30):((∀k,k<l.length->Vg l k)->kI 1000 l=some true)∧(¬(∀k,k<l.length->Vg l k)->kI 1000 l=some false):=by
 unfold kI;have i:=HX (step:=iV l) (K:=λ_=>some true) (bad:=false) l.length (Vg l) (λk x=>x.1=(k:Int)∧x.2.length=256∧∀z:Nat,z<256->(at' x.2 (z:Int)=true↔∃j,j<k∧at' l (j:Int)=(z:Int))) ?_ ?_ ?_ 1000 ((0:Int),(List.replicate 256 false)) ⟨rfl,List.length_replicate ..,λz c=> ?_⟩ (by omega)
 ·exact⟨λh=>by obtain⟨x,_,b⟩:=i.1 h;exact b,i.2⟩
 ·rintro k ⟨t,m⟩ q w ⟨b,a,f⟩ ⟨D,v⟩;dsimp only at b a f;subst b;obtain⟨z,c⟩:∃z:Nat,at' l (k:Int)=z:=⟨(at' l (k:Int)).toNat,by omega⟩
  have p:z<256:=by omega
  have o:¬at' m (z:Int)=true:=by
   rw[f z p];rintro⟨j,e,d⟩;exact v j e (d.trans c.symm)
  refine⟨((k:Int)+1,m.set z true),⟨by simp,by simp[a],λy B=> ?_⟩,?_⟩
  ·dsimp only;rw[BC _ _ _ _ (by omega)];by_cases g:y=z
   ·subst g;rw[if_pos Z];exact⟨λ_=>⟨k,by omega,c⟩,λ_=>rfl⟩
   ·rw[if_neg g,f y B];constructor
    ·rintro⟨j,e,d⟩;exact⟨j,by omega,d⟩
    ·rintro⟨j,e,d⟩;by_cases n:j=k
     ·subst n;rw[c]at d;omega
     ·exact⟨j,by omega,d⟩
  ·unfold iV jT;dsimp only;rw[if_pos (by omega),cO (by omega),c,if_neg (by omega),if_neg (by omega),cO ⟨by omega,a⟩,if_neg o,cO ⟨by omega,a⟩,wr (by omega) (by omega)];rfl
 ·rintro k ⟨t,m⟩ q w ⟨b,a,f⟩ A;dsimp only at b a f;subst b;unfold iV jT;dsimp only;rw[if_pos (by omega),cO (by omega)];by_cases r:at' l (k:Int)<0
  ·rw[if_pos r,if_pos Z]
  rw[if_neg r];by_cases s:255<at' l (k:Int)
  ·rw[if_pos s,if_pos Z]
  rw[if_neg s];obtain⟨z,c⟩:∃z:Nat,at' l (k:Int)=z:=⟨(at' l (k:Int)).toNat,by omega⟩
  rw[c,cO ⟨by omega,a⟩,if_pos];rw[f z (by omega)];apply Classical.byContradiction;intro u;exact A ⟨by omega,λj e d=>u ⟨j,e,d.trans c⟩⟩
 ·rintro⟨t,m⟩ q ⟨b,_,_⟩;dsimp only at b;subst b;unfold iV n_;dsimp only;rw[if_neg (by omega)]
 ·rw[show at' (List.replicate 256 false) (z:Int)=false by rw[BV,zAk,List.getElem?_replicate,if_pos c];rfl];exact⟨λh=>(by cases h),fun⟨j,e,_⟩=>(by omega)⟩
theorem UB {d e:Type} [DecidableEq d] (k c:d) (v:e):∀l:List (d×e),nC c (Ev k v l)=if c=k then some v else nC c l
 | []=>by simp only[Ev,nC]
 | x :: xs => by
  simp only[Ev];by_cases h:k=x.1
  ·rw[if_pos h];simp only[nC];by_cases a:c=k
   ·rw[if_pos a,if_pos a]
   ·rw[if_neg a,if_neg a,if_neg (λb=>a (b.trans h.symm))]
  ·rw[if_neg h];simp only[nC];by_cases a:c=x.1
   ·rw[if_pos a,if_neg (λb=>h (b.symm.trans a)),if_pos a]
   ·rw[if_neg a,UB k c v xs];by_cases b:c=k
    ·rw[if_pos b,if_pos b]
    ·rw[if_neg b,if_neg b,if_neg a]
theorem Px {a b:Type} [DecidableEq a] {k:a} {v:b} {z:a×b} {l:List (a×b)} (c:nC k l=none):z∈Ev k v l↔z=(k,v)∨z∈l:=by
 rw[IW k v l c];simp[or_comm]
theorem IV {a c:Type} [DecidableEq a] {k:a}:∀{l:List (a×c)},(∀v,(k,v)∉l)->nC k l=none
 | [],_=>rfl
 |x::xs,h=>by
  simp only[nC];rw[if_neg (λe=>h x.2 (by rw[e];exact zAc ..))];exact IV λv b=>h v (zAj _ b)
theorem wB {b c:Type} [DecidableEq b] {k:b} {v:c}:∀{l:List (b×c)},nC k l=none->(k,v)∉l
 | [],_=>by simp
 | x :: xs, h => by
  simp only[nC]at h;by_cases e:k=x.1
  ·rw[if_pos e]at h;cases h
  ·rw[if_neg e]at h;intro d;rcases zAq.1 d with a|a
   ·exact e (by rw[<-a])
   ·exact wB h a
theorem DN {a b:Type} [DecidableEq a] {k:a} {v:b}:∀{l:List (a×b)},nC k l=some v->(k,v)∈l
 |x::xs,h=>by
  simp only[nC]at h;by_cases e:k=x.1
  ·rw[if_pos e]at h;cases h;rw[e];exact zAc ..
  ·rw[if_neg e]at h;exact zAj _ (DN h)
theorem Ld {a b:Type} (p:a×b->Prop) [DecidablePred p]:∀l:List (a×b),LU (λd x=>if p d then some false else x) (some true) l=some (decide (∀z∈l,¬p z))
 | []=>by simp[LU]
 |x::xs=>by
  show(if p x then some false else LU _ (some true) xs)=_;rw[Ld p xs];by_cases h:p x
  ·rw[if_pos h];congr 1;symm;exact zA3 λc=>c x (zAc ..) h
  ·rw[if_neg h];congr 1;apply decide_eq_decide.2;simp[h]
def OZ (c:jR) (v i:Nat) (z:(Int×Int)×Int):Prop:=∃a b:Nat,(a<v∨(a=v∧b<i))∧b<(at' c (a:Int)).length∧z=(((a:Int),(jL (at' c (a:Int)) b).1),(jL (at' c (a:Int)) b).2)
def Mn (a:jR):Prop:=(∀v,v<a.length->qW (at' a (v:Int)) v a.length)∧∀v,v<a.length->∀i,i<(at' a (v:Int)).length->Ah ([],a) v i
theorem Ik (c:jR) (hn:c.length<=30) (hd:∀v,v<c.length->(at' c (v:Int)).length<=30):(Mn c->iX 1000 c=some true)∧(¬Mn c->iX 1000 c=some false):=by
 unfold iX;have s:∀(v:Nat) (m:List ((Int×Int)×Int)) p,v<c.length->(∀z,z∈m↔OZ c v 0 z)->
   (qW (at' c (v:Int)) v c.length->∃X,(∀z,z∈X↔OZ c (v+1) 0 z)∧bP (d_ c ((v:Int),m) p) 1000 ((0:Int),m)=p ((v:Int)+1,X))∧
   (¬qW (at' c (v:Int)) v c.length->bP (d_ c ((v:Int),m) p) 1000 ((0:Int),m)=some false):=by
  intro v m p F hm;have af:=hd v F;have R:=HX (step:=d_ c ((v:Int),m) p) (K:=λx=>p ((v:Int)+1,x.2)) (bad:=false) (at' c (v:Int)).length (IG (at' c (v:Int)) v c.length) (λi x=>x.1=(i:Int)∧∀z,z∈x.2↔OZ c v i z) ?_ ?_ ?_ 1000 ((0:Int),m) ⟨rfl,hm⟩ (by omega)
  ·refine⟨λh=> ?_,λh=>R.2 h⟩
   obtain⟨x,⟨ah,ad⟩,f⟩:=R.1 h;refine⟨x.2,λz=>(ad z).trans ⟨?_,?_⟩,f⟩
   ·rintro⟨a,b,y,e,l⟩;exact⟨a,b,by omega,e,l⟩
   ·rintro⟨a,b,y,e,l⟩;refine⟨a,b,?_,e,l⟩
    by_cases W:a=v
    ·subst W;exact .inr ⟨rfl,e⟩
    ·omega
  ·rintro i ⟨H,g⟩ I M ⟨f,d⟩ ⟨p1,p2,p3,p4⟩;dsimp only at f d;subst f;have q:nC (((v:Int),(jL (at' c (v:Int)) i).1)) g=none:=by
    apply IV;intro w hw;obtain⟨a,b,y,e,l⟩:=(d _).1 hw;simp only[Prod.mk.injEq]at l;obtain⟨⟨C,A⟩,_⟩:=l;have:a=v:=by omega
    subst this;have hb:b<i:=by omega
    exact p4 b hb A.symm
   refine⟨((i:Int)+1,Ev (((v:Int),(jL (at' c (v:Int)) i).1)) (jL (at' c (v:Int)) i).2 g),⟨by simp,λz=> ?_⟩,?_⟩
   ·dsimp only;rw[Px q,d];constructor
    ·rintro(rfl|⟨a,b,y,e,l⟩)
     ·exact⟨v,i,.inr ⟨rfl,by omega⟩,M,rfl⟩
     ·exact⟨a,b,by omega,e,l⟩
    ·rintro⟨a,b,y,e,l⟩;by_cases J:a=v∧b=i
     ·left;rw[l,J.1,J.2]
     ·right;exact⟨a,b,by omega,e,l⟩
   ·replace p1:0<=(at' (at' c (v:Int)) (i:Int)).1∧(at' (at' c (v:Int)) (i:Int)).1<=(c.length:Int) - 1:=p1;replace p3:1<=(at' (at' c (v:Int)) (i:Int)).2∧(at' (at' c (v:Int)) (i:Int)).2<=15:=p3;unfold d_ jD kD;dsimp only;rw[if_pos (by omega),cO (by omega),if_neg (by omega),if_neg (by omega),if_neg (by rw[zA3 p2];simp),if_neg (by omega),if_neg (by rw[zA3 (by omega)];simp),q,if_neg (by simp),wr (by omega) (by omega)]
  ·rintro i ⟨H,g⟩ I M ⟨f,d⟩ P;dsimp only at f d;subst f;unfold d_ jD kD;dsimp only;rw[if_pos (by omega),cO (by omega)];by_cases y:(jL (at' c (v:Int)) i).1<0
   ·rw[if_pos y,if_pos Z]
   rw[if_neg y];by_cases e:(c.length:Int)<=(jL (at' c (v:Int)) i).1
   ·rw[if_pos e,if_pos Z]
   rw[if_neg e];by_cases l:(jL (at' c (v:Int)) i).1=v
   ·rw[if_pos (zA4 l)]
   rw[if_neg (by rw[zA3 l];simp)];by_cases C:(jL (at' c (v:Int)) i).2<1
   ·rw[if_pos C,if_pos Z]
   rw[if_neg C];by_cases A:15<(jL (at' c (v:Int)) i).2
   ·rw[if_pos (zA4 A)]
   rw[if_neg (by rw[zA3 A];simp)];have:∃k,k<i∧(jL (at' c (v:Int)) k).1=(jL (at' c (v:Int)) i).1:=by
    apply Classical.byContradiction;intro hc;exact P ⟨by omega,l,by omega,λk N L=>hc ⟨k,N,L⟩⟩
   obtain⟨k,N,L⟩:=this;have n:=(d _).2 ⟨v,k,.inr ⟨rfl,N⟩,by omega,rfl⟩;rw[if_pos];rw[<-L];cases q:nC (((v:Int),(jL (at' c (v:Int)) k).1)) g with
   |some w=>rfl
   | none => exact absurd n (by
     intro n;exact wB q n)
  ·rintro⟨H,g⟩ I ⟨f,d⟩;dsimp only at f d;subst f;unfold d_ nI;dsimp only;rw[if_neg (by omega),wr (by omega) (by omega)]
 have t:=HX (step:=eM 1000 c) (K:=λx=>kC x.2) (bad:=false) c.length (λv=>qW (at' c (v:Int)) v c.length) (λv x=>x.1=(v:Int)∧∀z,z∈x.2↔OZ c v 0 z) ?_ ?_ ?_ 1000 ((0:Int),[]) ⟨rfl,λz=>⟨λh=>(by cases h),fun⟨a,b,y,_⟩=>(by omega)⟩⟩ (by omega)
 rotate_left
 ·rintro v ⟨H,g⟩ p F ⟨f,d⟩ P;dsimp only at f d;subst f;obtain⟨X,y,e⟩:=(s v g p F d).1 P;refine⟨((v:Int)+1,X),⟨by simp,y⟩,?_⟩
  ·unfold eM;dsimp only;rw[if_pos (by omega),cO (by omega)];exact e
 ·rintro v ⟨H,g⟩ p F ⟨f,d⟩ P;dsimp only at f d;subst f;unfold eM;dsimp only;rw[if_pos (by omega),cO (by omega)];exact(s v g p F d).2 P
 ·rintro⟨H,g⟩ p ⟨f,d⟩;dsimp only at f d;subst f;unfold eM;dsimp only;rw[if_neg (by omega)]
 by_cases D:∀v,v<c.length->qW (at' c (v:Int)) v c.length
 rotate_left
 ·exact⟨λh=>absurd h.1 D,λ_=>t.2 D⟩
 obtain⟨⟨H,g⟩,⟨f,d⟩,L⟩:=t.1 D;rw[L];dsimp only at d ⊢;have N:kC g=some (decide (∀z∈g,¬(Option.getD (nC (z.1.2,z.1.1) g) (0:Int))≠z.2)):=Ld (λz:(Int×Int)×Int=>(Option.getD (nC (z.1.2,z.1.1) g) (0:Int))≠z.2) g;rw[N];have E:(∀z∈g,¬(Option.getD (nC (z.1.2,z.1.1) g) (0:Int))≠z.2)↔∀v,v<c.length->∀i,i<(at' c (v:Int)).length->Ah ([],c) v i:=by
  constructor
  ·intro h v F i M;have hw:=(D v F i M).2.2.1;have n:=(d (((v:Int),(jL (at' c (v:Int)) i).1),(jL (at' c (v:Int)) i).2)).2 ⟨v,i,.inl F,M,rfl⟩;have e:=zAw.1 (h _ n);dsimp only at e;cases q:nC ((jL (at' c (v:Int)) i).1,(v:Int)) g with
   |none=>rw[q]at e;simp only[Option.getD]at e;omega
   | some w =>
    rw[q]at e;simp only[Option.getD]at e;obtain⟨a,b,l,C,A⟩:=(d _).1 (DN q);simp only[Prod.mk.injEq]at A;obtain⟨⟨T,U⟩,h8⟩:=A;refine⟨b,?_,?_,?_⟩
    ·show b<(at' c (jL (at' c (v:Int)) i).1).length;rw[T];exact C
    ·show(jL (at' c (jL (at' c (v:Int)) i).1) b).1=v;rw[T];exact U.symm
    ·show(jL (at' c (jL (at' c (v:Int)) i).1) b).2=(jL (at' c (v:Int)) i).2;rw[T,<-h8];exact e
  ·intro h z hz ac;obtain⟨a,b,l,C,rfl⟩:=(d z).1 hz;have W:a<c.length:=by omega
   apply ac;obtain⟨j,r,o,B⟩:=h a W b C;have hu:=(D a W b C).1;obtain⟨u,Q⟩:∃u:Nat,(jL (at' c (a:Int)) b).1=u:=⟨(jL (at' c (a:Int)) b).1.toNat,by omega⟩
   replace r:j<(at' c (jL (at' c (a:Int)) b).1).length:=r;replace o:(jL (at' c (jL (at' c (a:Int)) b).1) j).1=a:=o;replace B:(jL (at' c (jL (at' c (a:Int)) b).1) j).2=(jL (at' c (a:Int)) b).2:=B;rw[Q]at r o B;have G:u<c.length:=by omega
   dsimp only;rw[Q,<-B];have n:=(d (((u:Int),(jL (at' c (u:Int)) j).1),(jL (at' c (u:Int)) j).2)).2 ⟨u,j,.inl G,r,rfl⟩;rw[o]at n;cases q:nC ((u:Int),(a:Int)) g with
   |none=>exact absurd n (wB q)
   | some w =>
    obtain⟨Y,S,ae,aa,A⟩:=(d _).1 (DN q);simp only[Prod.mk.injEq]at A;obtain⟨⟨T,U⟩,h8⟩:=A;have:Y=u:=by omega
    subst this;have ab:S=j:=by
     rcases Nat.lt_trichotomy S j with O|O|O
     ·exact absurd (U.symm.trans o.symm) ((D Y G j r).2.2.2 S O)
     ·exact O
     ·exact absurd (o.trans U) ((D Y G S aa).2.2.2 j O)
    subst ab;exact h8
 by_cases V:∀v,v<c.length->∀i,i<(at' c (v:Int)).length->Ah ([],c) v i
 ·rw[zA4 (E.2 V)];exact⟨λ_=>rfl,λh=>absurd ⟨D,V⟩ h⟩
 ·rw[zA3 (λh=>V (E.1 h))];exact⟨λh=>absurd h.2 V,λ_=>rfl⟩
theorem Ob:∀(N:Nat) (f:Nat->Nat) (k:Nat),(∀i,i<k->f i<N)->(∀i j,i<j->j<k->f i≠f j)->k<=N
 |0,f,k,h,_=>by
  cases k with
  |zero=>omega
  |succ k=>exact absurd (h 0 (by omega)) (by omega)
 | N + 1, f, k, h, hd => by
  by_cases b:∃a,a<k∧f a=N
  ·obtain⟨a,g,l⟩:=b;have:=Ob N (λi=>if i<a then f i else f (i+1)) (k - 1) (λi c=>by
    split
    ·have:=h i (by omega);have:=hd i a (by omega) g;omega
    ·have:=h (i+1) (by omega);have:=hd a (i+1) (by omega) (by omega);omega) (λi j d m=>by
    split<;>split
    ·exact hd i j d (by omega)
    ·exact hd i (j+1) (by omega) (by omega)
    ·omega
    ·exact hd (i+1) (j+1) (by omega) (by omega))
   omega
  ·have:=Ob N f k (λi c=>by
    have:=h i c;have:f i≠N:=λe=>b ⟨i,c,e⟩;omega) hd
   omega
theorem Wr {l:fP} {v n:Nat} (b:v<n) (h:qW l v n):l.length<n:=by
 have:=Ob n (λi=>if i=l.length then v else(jL l i).1.toNat) (l.length+1) (λi e=>by
  split
  ·exact b
  ·have:=(h i (by omega)).1;omega) (λi j a f=>by
  rw[if_neg (by omega)];have c:=(h i (by omega)).1;split
  ·have:=(h i (by omega)).2.1;omega
  ·have d:=(h j (by omega)).1;have:=(h j (by omega)).2.2.2 i a;omega)
 omega
theorem aeg (g:GR) (j:light g):(VG g->kN 1000 g=some true)∧(¬VG g->kN 1000 g=some false):=by
 obtain⟨e,f,i⟩:=j;unfold kN pX pY;by_cases l:g.1.length<1
 ·rw[if_pos (by omega)];exact⟨λh=>by have:=h.n1;have:=h.len;omega,λ_=>rfl⟩
 rw[if_neg (by omega)];by_cases m:24<g.1.length
 ·rw[if_pos (by omega)];exact⟨λh=>by have:=h.n24;have:=h.len;omega,λ_=>rfl⟩
 rw[if_neg (by omega)];by_cases d:g.1.length=g.2.length
 rotate_left
 ·rw[zA4 (by omega)];exact⟨λh=>absurd h.len d,λ_=>rfl⟩
 rw[zA3 (by omega),if_neg (by simp)];by_cases b:∀k,k<g.1.length->Vg g.1 k
 rotate_left
 ·rw[(wQ g.1 e).2 b,bN Z];exact⟨λh=>absurd (λk n=>⟨(h.node k (by omega)).id,(h.node k (by omega)).ids⟩) b,λ_=>rfl⟩
 rw[(wQ g.1 e).1 b,bN Z,if_pos Z];by_cases a:Mn g.2
 ·rw[(Ik g.2 f i).1 a];exact⟨λ_=>rfl,λh=>absurd ⟨by omega,by omega,d,λv c=>⟨(b v (by omega)).1,Wr c (a.1 v c),a.1 v c,(b v (by omega)).2⟩,a.2⟩ h⟩
 ·rw[(Ik g.2 f i).2 a];exact⟨λh=>absurd ⟨λv c=>(h.node v c).links,h.sym⟩ a,λ_=>rfl⟩
theorem VG.light {g:GR} (h:VG g):light g:=⟨by have:=h.n24;have:=h.len;omega,by have:=h.n24;omega,λv a=>by have:=(h.node v a).deg;have:=h.n24;omega⟩
abbrev D (d:cC) (v:Nat):Int:=at' d (v:Int)
def Adj (g:GR) (v u:Nat):Prop:=∃i,i<(row g v).length∧(jL (row g v) i).1=(u:Int)
theorem VG.port {g:GR} (h:VG g) {v i:Nat} (b:v<g.2.length) (a:i<(row g v).length):∃u:Nat,u<g.2.length∧(jL (row g v) i).1=(u:Int)∧Adj g v u:=by
 have c:=((h.node v b).links i a).1;exact⟨(jL (row g v) i).1.toNat,by omega,by omega,i,a,by omega⟩
def Zz (d:cC):Nat:=d.countP λx=>decide (x<0)
structure adf (g:GR) (s:Nat) (d:cC):Prop where
 len:d.length=g.2.length
 lo:∀v,v<g.2.length -> -1<=D d v
 zero:∀v,v<g.2.length->(D d v=0↔v=s)
 near:∀v,v<g.2.length->0<D d v->∃u,u<g.2.length∧Adj g v u∧D d u=D d v - 1
 hi:∀v,v<g.2.length->D d v+(Zz d:Int)<=(g.2.length:Int)
structure Qu (g:GR) (q d:cC) (b:Int) (done:Nat->Prop):Prop where
 mem:∀y∈q,∃v,v<g.2.length∧y=((v:Nat):Int)∧0<=D d v
 top:∀v,v<g.2.length->D d v<=b
 sort:q.Pairwise λa c=>at' d a<=at' d c
 done:∀v,v<g.2.length->0<=D d v->((v:Nat):Int)∉q->done v->∀u,u<g.2.length->Adj g v u->0<=D d u∧D d u<=D d v+1
theorem Mg {d:cC} {v:Nat} (h:v<d.length):D d v=d[v]:=by
 rw[D,BV,zAk,zA2 h];rfl
theorem Wj {d:cC} {u:Nat} {x:Int} (a:u<d.length) (b:D d u<0) (e:0<=x):Zz (d.set u x)+1=Zz d:=by
 unfold Zz;rw[List.countP_set a];have c:0<d.countP λx=>decide (x<0):=by
  rw[List.countP_pos_iff];exact⟨d[u],List.getElem_mem a,by rw[<-Mg a];simpa using b⟩
 rw[Mg a]at b;rw[if_pos (by simpa using b),if_neg (by simp;omega)];omega
theorem MR (g:GR) (v:Nat) (u:Int) (m:v<g.2.length) (l:(row g v).length<=30):mF 1000 g v u=some (AA (row g v) u):=by
 unfold mF;rw[cO (by omega)];rcases uV (row g v) u with⟨i,j,h,c,b⟩|⟨c,b⟩
 ·rw[b];refine Kb (λx:Int=>∃k:Nat,x=k∧k<=i) (λx=>31 - x.toNat) ?_ 1000 _ ⟨0,rfl,by omega⟩ (by omega);rintro x d ⟨k,rfl,f⟩ a;unfold wU;rw[if_pos (show(k:Int)<((row g v).length:Int) by omega),cO (show 0<=(k:Int)∧(k:Int)<((row g v).length:Int) by omega)];by_cases e:k=i
  ·subst e;exact if_pos h
  ·rw[if_neg (c k (by omega)),wr (by omega) (by omega)];exact a _ ⟨k+1,by omega,by omega⟩ (by omega)
 ·rw[b];refine Kb (λx:Int=>∃k:Nat,x=k∧k<=(row g v).length) (λx=>31 - x.toNat) ?_ 1000 _ ⟨0,rfl,by omega⟩ (by omega);rintro x d ⟨k,rfl,f⟩ a;unfold wU;by_cases e:k<(row g v).length
  ·rw[if_pos (show(k:Int)<((row g v).length:Int) by omega),cO (show 0<=(k:Int)∧(k:Int)<((row g v).length:Int) by omega),if_neg (c k e),wr (by omega) (by omega)];exact a _ ⟨k+1,by omega,by omega⟩ (by omega)
  ·rw[if_neg (show¬(k:Int)<((row g v).length:Int) by omega)];rfl
section
def afD (f:Nat->Nat):Nat->Nat
 |0=>0
 |k+1=>afD f k+f k
open Classical in
noncomputable def ind (p:Prop):Nat:=if p then 1 else 0
end
theorem abj (a:Nat) (h:a<4294967296):IntKind.u32.wrap (a:Int)=a:=by rw[<-LC];exact if_pos ⟨by omega,by omega⟩
def N32 (x:Int):Nat:=(BitVec.ofInt 32 x).toNat
theorem Vs (x:Int):N32 x<4294967296:=(BitVec.ofInt 32 x).isLt
theorem Sf {a:Nat} (h:a<4294967296):N32 (a:Int)=a:=by
 unfold N32;rw[BitVec.ofInt_natCast,BitVec.toNat_ofNat];exact Nat.mod_eq_of_lt h
theorem abD (x y:Int):VK .u32 x y=((N32 x ||| N32 y:Nat):Int):=by
 show IntKind.u32.wrap (((BitVec.ofInt 32 x ||| BitVec.ofInt 32 y).toNat:Nat):Int)=_;rw[BitVec.toNat_or];exact abj _ (Nat.or_lt_two_pow (n:=32) (Vs x) (Vs y))
theorem aaX {k:Nat} (a:k<32):2^k<4294967296:=Nat.pow_lt_pow_right (n:=32) (by omega) a
theorem ado {k:Nat} (a:k<32):LP .u32 1 (k:Int)=((2^k:Nat):Int):=by
 show IntKind.u32.wrap (1*2^(min ((k:Int).toNat) 32))=_;rw[zAe,Nat.min_eq_left (by omega),Int.one_mul,show(2:Int)^k=((2^k:Nat):Int) by simp];exact abj _ (aaX a)
def Km (g:GR) (s:Nat):Prop:=(∀v,s.testBit v=true->v<g.2.length)∧∀v u,s.testBit v=true->s.testBit u=true->¬Adj g v u
theorem afF {k:Nat} (a:k<32):wI .u64 (k:Int)=k:=by
 show IntKind.u64.wrap (k:Int)=k;have:∀j:Fin 32,IntKind.u64.wrap ((j.1:Nat):Int)=(j.1:Nat):=by decide
 exact this ⟨k,a⟩
def T (e:cC) (k v w:Nat):Int:=if 0<=D e w∧(D e w<k∨(D e w=k∧w<v))then D e w else -1
theorem WU {X R:Type} {step:X->(X->Option R)->Option R} {K:X->Option R} {bad:R} (N:Nat) (p:Nat->Prop) (I:Nat->X->Prop) (B:Nat)
  (t:∀(k:Nat) x q,k<N->k<B->I k x->p k->∃c,I (k+1) c∧step x q=q c) (l:∀(k:Nat) x q,k<N->k<B->I k x->¬p k->step x q=some bad) (s:∀x q,I N x->N<B->step x q=K x):
  ∀(b:Nat) (x:X),I 0 x->B<=b->(N<B∨∃k,k<N∧k<B∧¬p k)->((∀k,k<N->p k)->∃c,I N c∧bP step b x=K c)∧(¬(∀k,k<N->p k)->bP step b x=some bad):=by
 intro b x e v hB;have r:∀(d a b:Nat) (x:X),I a x->a+d<N->a+d<B->¬p (a+d)->d<b->bP step b x=some bad:=by
  intro d
  induction d with
  |zero=>
   intro a b x e j g i v;obtain⟨f,rfl⟩:∃f,b=f+1:=⟨b - 1,by omega⟩
   exact l a x _ j g e i
  | succ d y =>
   intro a b x e j g i v;obtain⟨f,rfl⟩:∃f,b=f+1:=⟨b - 1,by omega⟩
   by_cases u:p a
   ·obtain⟨c,n,o⟩:=t a x (bP step f) (by omega) (by omega) e u;have o:bP step (f+1) x=bP step f c:=o;rw[o];exact y (a+1) f c n (by omega) (by omega) (by rw[show a+1+d=a+(d+1) by omega];exact i) (by omega)
   ·exact l a x _ (by omega) (by omega) e u
 have m:∀(d a b:Nat) (x:X),I a x->a+d=N->N<B->(∀k,a<=k->k<N->p k)->d<b->∃c,I N c∧bP step b x=K c:=by
  intro d
  induction d with
  |zero=>
   intro a b x e j g i v;obtain⟨f,rfl⟩:∃f,b=f+1:=⟨b - 1,by omega⟩
   obtain rfl:a=N:=by omega
   exact⟨x,e,s x _ e g⟩
  |succ d y=>
   intro a b x e j g i v;obtain⟨f,rfl⟩:∃f,b=f+1:=⟨b - 1,by omega⟩
   obtain⟨c,n,o⟩:=t a x (bP step f) (by omega) (by omega) e (i a (zAg _) (by omega));have o:bP step (f+1) x=bP step f c:=o;rw[o];exact y (a+1) f c n (by omega) g (λk j g=>i k (by omega) g) (by omega)
 constructor
 ·intro h;rcases hB with hB|⟨k,j,_,g⟩
  ·exact m N 0 b x e (by omega) hB (λk _ w=>h k w) (by omega)
  ·exact absurd (h k j) g
 ·intro h;have:∃k,k<N∧k<B∧¬p k:=by
   rcases hB with hB|hB
   ·apply Classical.byContradiction;intro A;exact h λk w=>Classical.byContradiction λi=>A ⟨k,w,by omega,i⟩
   ·exact hB
  obtain⟨k,j,g,z⟩:=this;exact r k 0 b x e (by omega) (by omega) (by rw[Nat.zero_add];exact z) (by omega)
theorem UJ {a:jR} (q:a.length<=30) {v:Nat} (r:v<a.length):(at' a (v:Int)).length<1000∨∃k,k<(at' a (v:Int)).length∧k<1000∧¬IG (at' a (v:Int)) v a.length k:=by
 by_cases h:(at' a (v:Int)).length<1000
 ·exact .inl h
 ·right;apply Classical.byContradiction;intro f;have b:∀k,k<40->IG (at' a (v:Int)) v a.length k:=λk p=>Classical.byContradiction λl=>f ⟨k,by omega,by omega,l⟩;have:=Ob a.length (λi=>(jL (at' a (v:Int)) i).1.toNat) 40 (λi g=>by have:=(b i g).1;omega) (λi j c d o=>by
   have m:=(b i (by omega)).1;have n:=(b j d).1;have e:=(b j d).2.2.2 i c;exact e (by omega))
  omega
theorem Oe (g:GR):(VG g->jV 1000 g=some true)∧(¬VG g->jV 1000 g=some false):=by
 unfold jV;rw[jA,bN Z];by_cases y:1<=g.2.length∧g.2.length<=24
 rotate_left
 ·rw[zA3 (by omega)];exact⟨λh=>absurd ⟨h.n1,h.n24⟩ y,λ_=>rfl⟩
 rw[zA4 (by omega),if_neg (by simp)];by_cases G:g.1.length=g.2.length
 rotate_left
 ·rw[zA4 (by omega)];exact⟨λh=>absurd h.len G,λ_=>rfl⟩
 rw[zA3 (by omega)];unfold tT;rw[if_neg (by simp)];have o:∀(v:Nat) (b:Int->Option Bool),v<g.2.length->((∀k,k<v->Gt g k≠Gt g v)->bP (iL g v b) 1000 0=b ((v:Int)+1))∧(¬(∀k,k<v->Gt g k≠Gt g v)->bP (iL g v b) 1000 0=some false):=by
  intro v b e;refine AM v _ (λk a B c=> ?_) (λk a B c=> ?_) (λa=> ?_) 1000 (by omega)
  ·unfold iL;rw[if_pos (by omega),cO (by omega),cO (by omega),if_neg c,wr (by omega) (by omega)]
  ·unfold iL;rw[if_pos (by omega),cO (by omega),cO (by omega),if_pos (zAw.1 c)]
  ·unfold iL tX;rw[if_neg (by omega),wr (by omega) (by omega)]
 have l:=AM (step:=iC 1000 g) (K:=nN 1000 g ()) (bad:=false) g.2.length (Kr g) (λv b e c=> ?_) (λv b e c=> ?_) (λb=> ?_) 1000 (by omega)
 rotate_left
 ·unfold iC mH;rw[if_pos (by omega),cO (by omega),jA,zA4 c.id,bN Z,if_neg (by simp),cO (by omega),if_neg (show¬((g.2.length:Int)<=((row g v).length:Int))from by have:=c.deg;omega),cO (by omega),(sD (row g v) v g.2.length (by have:=c.deg;omega) (by omega)).1 c.links,bN Z,if_neg (by simp)];exact(o v b e).1 c.ids
 ·unfold iC mH;rw[if_pos (by omega),cO (by omega),jA];by_cases w:0<=Gt g v∧Gt g v<=255
  rotate_left
  ·rw[zA3 w];rfl
  rw[zA4 w,bN Z,if_neg (by simp),cO (by omega)];by_cases H:(row g v).length<g.2.length
  rotate_left
  ·rw[if_pos (show(g.2.length:Int)<=((row g v).length:Int) by omega)];rfl
  rw[if_neg (show¬(g.2.length:Int)<=((row g v).length:Int) by omega),cO (by omega)];by_cases x:qW (row g v) v g.2.length
  rotate_left
  ·rw[(sD (row g v) v g.2.length (by omega) (by omega)).2 x];rfl
  rw[(sD (row g v) v g.2.length (by omega) (by omega)).1 x,bN Z,if_neg (by simp)];exact(o v b e).2 λI=>c ⟨w,H,x,I⟩
 ·unfold iC;rw[if_neg (by omega)]
 by_cases p:∀v,v<g.2.length->Kr g v
 rotate_left
 ·exact⟨λh=>absurd h.node p,λ_=>l.2 p⟩
 rw[l.1 p];unfold nN;have f:∀(v:Nat) (b:Int->Option Bool),v<g.2.length->((∀i,i<(row g v).length->Ah g v i)->bP (gA 1000 g v b) 1000 0=b ((v:Int)+1))∧(¬(∀i,i<(row g v).length->Ah g v i)->bP (gA 1000 g v b) 1000 0=some false):=by
  intro v b e;have M:=(p v e).deg;have n:∀(i:Nat) a,i<(row g v).length->(Ah g v i->gA 1000 g v b i a=a ((i:Int)+1))∧(¬Ah g v i->gA 1000 g v b i a=some false):=by
   intro i a r;unfold gA;rw[cO (by omega),if_pos (show(i:Int)<((row g v).length:Int) by omega),cO (by omega),cO (show 0<=(i:Int)∧(i:Int)<((row g v).length:Int) by omega)];have O:=((p v e).links i r).1;obtain⟨u,F⟩:∃u:Nat,(jL (row g v) i).1=u:=⟨(jL (row g v) i).1.toNat,by omega⟩
   have q:u<g.2.length:=by omega
   unfold Ah;rw[show(at' (at' g.2 (v:Int)) (i:Int))=jL (row g v) i from rfl,F,Hs g u v q (by have:=(p u q).deg;omega),bN Z];have E:=(p u q).links;rcases uV (row g u) v with⟨j,t,m,A,z⟩|⟨J,z⟩
   ·rw[z,if_neg (by omega),cO (by omega),cO (show 0<=(j:Int)∧(j:Int)<((at' g.2 (u:Int)).length:Int)from⟨by omega,by have:j<(row g u).length:=t;exact_mod_cast this⟩)];unfold tW;constructor
    ·rintro⟨k,B,s,D⟩;have C:k=j:=by
      rcases Nat.lt_trichotomy k j with h|h|h
      ·exact absurd s (A k h)
      ·exact h
      ·exact absurd (m.trans s.symm) ((E k B).2.2.2 j h)
     subst C;rw[if_neg (by rw[zA3];simp;exact λh=>h D),wr (by omega) (by omega)]
    ·intro h;rw[if_pos];exact zA4 λN=>h ⟨j,t,m,N⟩
   ·rw[z,if_pos (by decide)];exact⟨fun⟨j,t,m,_⟩=>absurd m (J j t),λ_=>rfl⟩
  refine AM (row g v).length _ (λi a r c=>(n i a r).1 c) (λi a r c=>(n i a r).2 c) (λa=> ?_) 1000 (by omega);unfold gA tV;rw[cO (by omega),if_neg (show¬(((row g v).length:Nat):Int)<((row g v).length:Int) by omega),wr (by omega) (by omega)]
 have d:=AM (step:=iB 1000 g) (K:=some true) (bad:=false) g.2.length (λv=>∀i,i<(row g v).length->Ah g v i) (λv b e c=> ?_) (λv b e c=> ?_) (λb=> ?_) 1000 (by omega)
 ·exact⟨λh=>d.1 h.sym,λh=>d.2 λL=>h ⟨y.1,y.2,G,p,L⟩⟩
 ·unfold iB;rw[if_pos (by omega)];exact(f v b e).1 c
 ·unfold iB;rw[if_pos (by omega)];exact(f v b e).2 c
 ·unfold iB tU;rw[if_neg (by omega)]
theorem GN (c:jR) (hn:c.length<=30):(Mn c->iX 1000 c=some true)∧(¬Mn c->iX 1000 c=some false):=by
 unfold iX;have s:∀(v:Nat) (m:List ((Int×Int)×Int)) p,v<c.length->(∀z,z∈m↔OZ c v 0 z)->
   (qW (at' c (v:Int)) v c.length->∃Y,(∀z,z∈Y↔OZ c (v+1) 0 z)∧bP (d_ c ((v:Int),m) p) 1000 ((0:Int),m)=p ((v:Int)+1,Y))∧
   (¬qW (at' c (v:Int)) v c.length->bP (d_ c ((v:Int),m) p) 1000 ((0:Int),m)=some false):=by
  intro v m p F hm;have L:=UJ hn F;have S:=WU (step:=d_ c ((v:Int),m) p) (K:=λx=>p ((v:Int)+1,x.2)) (bad:=false) (at' c (v:Int)).length (IG (at' c (v:Int)) v c.length) (λi x=>x.1=(i:Int)∧∀z,z∈x.2↔OZ c v i z) 1000 ?_ ?_ ?_ 1000 ((0:Int),m) ⟨rfl,hm⟩ (by omega) L
  ·refine⟨λh=> ?_,λh=>S.2 h⟩
   obtain⟨x,⟨ah,ae⟩,f⟩:=S.1 h;refine⟨x.2,λz=>(ae z).trans ⟨?_,?_⟩,f⟩
   ·rintro⟨a,b,y,e,l⟩;exact⟨a,b,by omega,e,l⟩
   ·rintro⟨a,b,y,e,l⟩;refine⟨a,b,?_,e,l⟩
    by_cases X:a=v
    ·subst X;exact .inr ⟨rfl,e⟩
    ·omega
  ·rintro i ⟨H,g⟩ I N ac ⟨f,d⟩ ⟨p1,p2,p3,p4⟩;dsimp only at f d;subst f;have q:nC (((v:Int),(jL (at' c (v:Int)) i).1)) g=none:=by
    apply IV;intro w hw;obtain⟨a,b,y,e,l⟩:=(d _).1 hw;simp only[Prod.mk.injEq]at l;obtain⟨⟨C,A⟩,_⟩:=l;have:a=v:=by omega
    subst this;have hb:b<i:=by omega
    exact p4 b hb A.symm
   refine⟨((i:Int)+1,Ev (((v:Int),(jL (at' c (v:Int)) i).1)) (jL (at' c (v:Int)) i).2 g),⟨by simp,λz=> ?_⟩,?_⟩
   ·dsimp only;rw[Px q,d];constructor
    ·rintro(rfl|⟨a,b,y,e,l⟩)
     ·exact⟨v,i,.inr ⟨rfl,by omega⟩,N,rfl⟩
     ·exact⟨a,b,by omega,e,l⟩
    ·rintro⟨a,b,y,e,l⟩;by_cases J:a=v∧b=i
     ·left;rw[l,J.1,J.2]
     ·right;exact⟨a,b,by omega,e,l⟩
   ·replace p1:0<=(at' (at' c (v:Int)) (i:Int)).1∧(at' (at' c (v:Int)) (i:Int)).1<=(c.length:Int) - 1:=p1;replace p3:1<=(at' (at' c (v:Int)) (i:Int)).2∧(at' (at' c (v:Int)) (i:Int)).2<=15:=p3;unfold d_ jD kD;dsimp only;rw[if_pos (by omega),cO (by omega),if_neg (by omega),if_neg (by omega),if_neg (by rw[zA3 p2];simp),if_neg (by omega),if_neg (by rw[zA3 (by omega)];simp),q,if_neg (by simp),wr (by omega) (by omega)]
  ·rintro i ⟨H,g⟩ I N ac ⟨f,d⟩ Q;dsimp only at f d;subst f;unfold d_ jD kD;dsimp only;rw[if_pos (by omega),cO (by omega)];by_cases y:(jL (at' c (v:Int)) i).1<0
   ·rw[if_pos y,if_pos Z]
   rw[if_neg y];by_cases e:(c.length:Int)<=(jL (at' c (v:Int)) i).1
   ·rw[if_pos e,if_pos Z]
   rw[if_neg e];by_cases l:(jL (at' c (v:Int)) i).1=v
   ·rw[if_pos (zA4 l)]
   rw[if_neg (by rw[zA3 l];simp)];by_cases C:(jL (at' c (v:Int)) i).2<1
   ·rw[if_pos C,if_pos Z]
   rw[if_neg C];by_cases A:15<(jL (at' c (v:Int)) i).2
   ·rw[if_pos (zA4 A)]
   rw[if_neg (by rw[zA3 A];simp)];have:∃k,k<i∧(jL (at' c (v:Int)) k).1=(jL (at' c (v:Int)) i).1:=by
    apply Classical.byContradiction;intro hc;exact Q ⟨by omega,l,by omega,λk O M=>hc ⟨k,O,M⟩⟩
   obtain⟨k,O,M⟩:=this;have n:=(d _).2 ⟨v,k,.inr ⟨rfl,O⟩,by omega,rfl⟩;rw[if_pos];rw[<-M];cases q:nC (((v:Int),(jL (at' c (v:Int)) k).1)) g with
   |some w=>rfl
   | none => exact absurd n (by
     intro n;exact wB q n)
  ·rintro⟨H,g⟩ I ⟨f,d⟩ _;dsimp only at f d;subst f;unfold d_ nI;dsimp only;rw[if_neg (by omega),wr (by omega) (by omega)]
 have t:=HX (step:=eM 1000 c) (K:=λx=>kC x.2) (bad:=false) c.length (λv=>qW (at' c (v:Int)) v c.length) (λv x=>x.1=(v:Int)∧∀z,z∈x.2↔OZ c v 0 z) ?_ ?_ ?_ 1000 ((0:Int),[]) ⟨rfl,λz=>⟨λh=>(by cases h),fun⟨a,b,y,_⟩=>(by omega)⟩⟩ (by omega)
 rotate_left
 ·rintro v ⟨H,g⟩ p F ⟨f,d⟩ Q;dsimp only at f d;subst f;obtain⟨Y,y,e⟩:=(s v g p F d).1 Q;refine⟨((v:Int)+1,Y),⟨by simp,y⟩,?_⟩
  ·unfold eM;dsimp only;rw[if_pos (by omega),cO (by omega)];exact e
 ·rintro v ⟨H,g⟩ p F ⟨f,d⟩ Q;dsimp only at f d;subst f;unfold eM;dsimp only;rw[if_pos (by omega),cO (by omega)];exact(s v g p F d).2 Q
 ·rintro⟨H,g⟩ p ⟨f,d⟩;dsimp only at f d;subst f;unfold eM;dsimp only;rw[if_neg (by omega)]
 by_cases D:∀v,v<c.length->qW (at' c (v:Int)) v c.length
 rotate_left
 ·exact⟨λh=>absurd h.1 D,λ_=>t.2 D⟩
 obtain⟨⟨H,g⟩,⟨f,d⟩,M⟩:=t.1 D;rw[M];dsimp only at d ⊢;have O:kC g=some (decide (∀z∈g,¬(Option.getD (nC (z.1.2,z.1.1) g) (0:Int))≠z.2)):=Ld (λz:(Int×Int)×Int=>(Option.getD (nC (z.1.2,z.1.1) g) (0:Int))≠z.2) g;rw[O];have E:(∀z∈g,¬(Option.getD (nC (z.1.2,z.1.1) g) (0:Int))≠z.2)↔∀v,v<c.length->∀i,i<(at' c (v:Int)).length->Ah ([],c) v i:=by
  constructor
  ·intro h v F i N;have hw:=(D v F i N).2.2.1;have n:=(d (((v:Int),(jL (at' c (v:Int)) i).1),(jL (at' c (v:Int)) i).2)).2 ⟨v,i,.inl F,N,rfl⟩;have e:=zAw.1 (h _ n);dsimp only at e;cases q:nC ((jL (at' c (v:Int)) i).1,(v:Int)) g with
   |none=>rw[q]at e;simp only[Option.getD]at e;omega
   | some w =>
    rw[q]at e;simp only[Option.getD]at e;obtain⟨a,b,l,C,A⟩:=(d _).1 (DN q);simp only[Prod.mk.injEq]at A;obtain⟨⟨U,V⟩,h8⟩:=A;refine⟨b,?_,?_,?_⟩
    ·show b<(at' c (jL (at' c (v:Int)) i).1).length;rw[U];exact C
    ·show(jL (at' c (jL (at' c (v:Int)) i).1) b).1=v;rw[U];exact V.symm
    ·show(jL (at' c (jL (at' c (v:Int)) i).1) b).2=(jL (at' c (v:Int)) i).2;rw[U,<-h8];exact e
  ·intro h z hz ad;obtain⟨a,b,l,C,rfl⟩:=(d z).1 hz;have X:a<c.length:=by omega
   apply ad;obtain⟨j,r,o,B⟩:=h a X b C;have hu:=(D a X b C).1;obtain⟨u,R⟩:∃u:Nat,(jL (at' c (a:Int)) b).1=u:=⟨(jL (at' c (a:Int)) b).1.toNat,by omega⟩
   replace r:j<(at' c (jL (at' c (a:Int)) b).1).length:=r;replace o:(jL (at' c (jL (at' c (a:Int)) b).1) j).1=a:=o;replace B:(jL (at' c (jL (at' c (a:Int)) b).1) j).2=(jL (at' c (a:Int)) b).2:=B;rw[R]at r o B;have G:u<c.length:=by omega
   dsimp only;rw[R,<-B];have n:=(d (((u:Int),(jL (at' c (u:Int)) j).1),(jL (at' c (u:Int)) j).2)).2 ⟨u,j,.inl G,r,rfl⟩;rw[o]at n;cases q:nC ((u:Int),(a:Int)) g with
   |none=>exact absurd n (wB q)
   | some w =>
    obtain⟨a',T,af,aa,A⟩:=(d _).1 (DN q);simp only[Prod.mk.injEq]at A;obtain⟨⟨U,V⟩,h8⟩:=A;have:a'=u:=by omega
    subst this;have ab:T=j:=by
     rcases Nat.lt_trichotomy T j with P|P|P
     ·exact absurd (V.symm.trans o.symm) ((D a' G j r).2.2.2 T P)
     ·exact P
     ·exact absurd (o.trans V) ((D a' G T aa).2.2.2 j P)
    subst ab;exact h8
 by_cases W:∀v,v<c.length->∀i,i<(at' c (v:Int)).length->Ah ([],c) v i
 ·rw[zA4 (E.2 W)];exact⟨λ_=>rfl,λh=>absurd ⟨D,W⟩ h⟩
 ·rw[zA3 (λh=>W (E.1 h))];exact⟨λh=>absurd h.2 W,λ_=>rfl⟩
theorem UT (g:GR):(VG g->kN 1000 g=some true)∧(¬VG g->kN 1000 g=some false):=by
 unfold kN pX pY;by_cases e:g.1.length<1
 ·rw[if_pos (by omega)];exact⟨λh=>by have:=h.n1;have:=h.len;omega,λ_=>rfl⟩
 rw[if_neg (by omega)];by_cases f:24<g.1.length
 ·rw[if_pos (by omega)];exact⟨λh=>by have:=h.n24;have:=h.len;omega,λ_=>rfl⟩
 rw[if_neg (by omega)];by_cases d:g.1.length=g.2.length
 rotate_left
 ·rw[zA4 (by omega)];exact⟨λh=>absurd h.len d,λ_=>rfl⟩
 rw[zA3 (by omega),if_neg (by simp)];by_cases b:∀k,k<g.1.length->Vg g.1 k
 rotate_left
 ·rw[(wQ g.1 (by omega)).2 b,bN Z];exact⟨λh=>absurd (λk i=>⟨(h.node k (by omega)).id,(h.node k (by omega)).ids⟩) b,λ_=>rfl⟩
 rw[(wQ g.1 (by omega)).1 b,bN Z,if_pos Z];by_cases a:Mn g.2
 ·rw[(GN g.2 (by omega)).1 a];exact⟨λ_=>rfl,λh=>absurd ⟨by omega,by omega,d,λv c=>⟨(b v (by omega)).1,Wr c (a.1 v c),a.1 v c,(b v (by omega)).2⟩,a.2⟩ h⟩
 ·rw[(GN g.2 (by omega)).2 a];exact⟨λh=>absurd ⟨λv c=>(h.node v c).links,h.sym⟩ a,λ_=>rfl⟩
end Go.Proofs.YtflciafboapaaaaGreat
namespace Go.Proofs.YtflciafboapaaaaGreat
open Go Go.Sx
abbrev val (c:bV) (v x:Nat):Int:=at' (at' c (v:Int)) (x:Int)
def aaL (g:GR) (b:Int) (v:Nat) (a:Int):Prop:=if b = -1 then -1<=a∧a<=((row g v).length:Int) - 1 else 0<=a∧a<=b
instance (g:GR) (top:Int) (v:Nat) (a:Int):Decidable (aaL g top v a):=by unfold aaL;infer_instance
def kT (g:GR):Nat->Int
 |0=>0
 |k+1=>max (kT g k) (at' g.1 (k:Int))
theorem KZ {g:GR} (a:VG g):∀k,k<=g.2.length->0<=kT g k∧kT g k<=255
 |0,_=>by simp[kT]
 |k+1,h=>by
  have b:=KZ a k (by omega);have c:0<=at' g.1 (k:Int)∧at' g.1 (k:Int)<=255:=(a.node k (by omega)).id;simp only[kT];omega
abbrev Fe:=FW
def Kx (x:Fe):Prop:=(-100000<=x.2.2.2.1∧x.2.2.2.1<=100000)∧(0<=x.2.2.2.2.1∧x.2.2.2.2.1<=100000)∧(0<=x.2.2.2.2.2∧x.2.2.2.2.2<=100000)
def lo (g:GR) (x:Fe) (v:Nat):Int:=if x.2.1=2 then 0 else if x.2.1=3 then -1 else x.2.2.1
def hi (g:GR) (x:Fe) (v:Nat):Int:=if x.2.1=2 then 1 else if x.2.1=3 then((row g v).length:Int) - 1 else x.2.2.2.1+x.2.2.2.2.1*(g.2.length:Int)+x.2.2.2.2.2*kT g g.1.length
structure Yu (g:GR) (c:bV) (vars:List Fe):Prop where
 len:c.length=g.2.length
 row:∀v,v<g.2.length->(at' c (v:Int)).length=vars.length
 ok:∀v,v<g.2.length->∀x,x<vars.length->lo g (at' vars (x:Int)) v<=val c v x∧val c v x<=hi g (at' vars (x:Int)) v
theorem afj {a b:Nat} (c:a<4294967296) (d:b<4294967296):VK .u32 (a:Int) (b:Int)=((a ||| b:Nat):Int):=by rw[abD,Sf c,Sf d]
theorem QN {a k:Nat} (c:a<4294967296) (b:k<32):VK .u32 (a:Int) (LP .u32 1 (k:Int))=((a ||| 2^k:Nat):Int):=by rw[ado b,afj c (aaX b)]
theorem NX (p:Nat->Bool) {k:Nat} (a:k<=32):rZ p k<4294967296:=zAz (Pv p k) (Nat.pow_le_pow_right (n:=2) (by omega) a)
theorem VG.to {g:GR} (c:VG g) {v i:Nat} (e:v<g.2.length) (d:i<(row g v).length):∃u:Nat,u<g.2.length∧(jL (row g v) i).1=(u:Int):=by
 obtain⟨u,a,b,_⟩:=c.port e d;exact⟨u,a,b⟩
def Me:List Fe:=[(ByteArray.mk #[99],1,0,0,1,0)]
theorem aay:∀x,x<Me.length->Kx (at' Me (x:Int)):=by
 intro x a;obtain rfl:x=0:=by simp[Me]at a;exact a
 exact⟨by decide,by decide,by decide⟩
def d0 (g:GR) (c:bV) (d v:Nat):Int:=if d.testBit v=true then at' (at' c (v:Int)) 0 else if v=0 then 0 else(g.2.length:Int)
def start (g:GR) (c:bV) (d:Nat):cC:=(List.range g.2.length).map (d0 g c d)
end Go.Proofs.YtflciafboapaaaaGreat
namespace Go.Proofs.YtflciafboapaaaaGreat
open Go.Sx
def Be  (a:Int):Option (Int):=
 some (a)
def wN (c:cC) (a:gC) (b:gH->Option (Int)):Option (Int):=
 if a.2<(c.length:Int)then(ck (0<=a.2∧a.2<(c.length:Int)) (b ((max a.1 (at' c a.2)),(wI .i64 (a.2+(1:Int))))))else(Be  (a.1))
def B_ (U:Nat) (a:cC):Option (Int):=
 if(a.length:Int)<(1:Int)then(none)else(ck (0<=(0:Int)∧(0:Int)<(a.length:Int)) (bP (wN a) U ((at' a (0:Int)),(1:Int))))
theorem YT:bD Tryz.prog 128:=Tryz.call128
theorem OC (U:Nat) {f:cC} (g:Value) (r:Int) (h:B_ U f=some r):
  bG Tryz.prog 128 #[g] [Sl aP g f] (λx:Unit=>vI (r)) (λx l=>l) (λ_ l=>l):=by
 refine bG.of Tryz.func128 Z Tryz.ntmps128 Z λc=>?_;refine aX<|aD Z<|aQ<|aN<|aX<|aB Z<|jM (aA.fact 0 Z) Z<|cX Z<|aQ ?_;refine eJ h Z (λh=>?_) λh=>?_
 ·refine aU ?_;cases h
 refine cK<|aX<|aB Z<|cQ h λj h=>aC (bI Z Z (aA.fact 0 Z) Z Z j) Z<|aC (cL Z (aA.fact 0 Z) Z Z Z fN j) Z<|aD Z<|aQ<|aN<|eG (λb=>Be  b=some r) (λb i=>[(3,vI (b))]) (λb i=>[]) ?_ ?_
 ·refine aX<|aD Z<|aQ<|aW<|fJ (wN f) (λa d=>[(0,g),(3,vI (a.1)),(4,vI (a.2))]) (λa d=>[]) ((at' f (0:Int)),(1:Int)) () h SF (a_.refl _) ?_;intro k a d h;refine aN<|aX<|aB Z<|aB Z<|jM (aA.fact 0 Z) Z<|cX Z<|aQ ?_;refine eJ h Z (λh=>?_) λh=>?_
  ·refine cK<|aN<|aW<|aU<|aB Z<|aB Z<|aB Z<|cQ h λe h=>aC (bI Z Z (aA.fact 0 Z) Z Z e) Z<|aC (cL Z (aA.fact 0 Z) Z Z Z fN e) Z<|aC (HO Z Z) Z<|aD Z<|fU<|lJ<|aU<|aB Z<|cW Z<|aD Z<|aQ ?_;exact vT ((max a.1 (at' f a.2)),(wI .i64 (a.2+(1:Int)))) () h SF Z
  refine fF ?_;exact gJ (a.1) () h SF Z
 intro b i h;unfold Be at h;refine aX<|aB Z<|aD Z<|aQ<|aT ?_;cases h;exact iJ Z
def oT (U:Nat) (a:FW) (b:cS) (d:Int):Option gH:=
 Option.bind (B_ U b.1) λc=>(some (a.2.2.1,(wI .i64 ((wI .i64 (a.2.2.2.1+(wI .i64 (a.2.2.2.2.1*(b.1.length:Int)))))+(wI .i64 (a.2.2.2.2.2*c))))))
theorem YU:bD Tryz.prog 161:=Tryz.call161
theorem Il (U:Nat) {a:FW} {d:cS} {f:Int} (b:Value)  (e:Value)  (k:kY) (r:gC) (h:oT U a d f=some r):
  bG Tryz.prog 161 #[Value.agg #[vS (a.1),vI (a.2.1),vI (a.2.2.1),vI (a.2.2.2.1),vI (a.2.2.2.2.1),vI (a.2.2.2.2.2)],Value.agg #[b,e],vI (f)] [Sl aP b d.1,S2 bA e k d.2] (λx:Unit=>Value.tuple #[vI (r.1),vI (r.2)]) (λx l=>l) (λ_ l=>l):=by
 refine bG.of Tryz.func161 Z Tryz.ntmps161 Z λc=>?_;refine aX<|aM (aS.box (cs:=[vS (a.1),vI (a.2.1),vI (a.2.2.1),vI (a.2.2.2.1),vI (a.2.2.2.2.1),vI (a.2.2.2.2.2)]) Z Z) Z λm=>aM (aS.box (cs:=[b,e]) Z Z) Z λn=>aD Z<|aD Z<|aQ<|aN ?_;refine JR.start [0,1,0,4,0,16,0,64,192,496,1020,0,2048,0,8192,24576,63488,131068,57347,524287] 19 mixedOrders (by decide +kernel) ?_;refine zBc (by exact rfl) ?_;refine cB Z<|eI 1 Z<|cB Z<|eI 1 Z<|cB Z<|eI 1 Z<|cB Z<|eI 0 Z<|bE Z .nil (fW 0 Z) (fG Z (aA.fact 0 Z) Z) aO.z<|e_ Z (Fp Z Z)<|e_ Z (Fl Z Z)<|cB Z<|eI 1 Z<|cB Z<|eI 0 Z<|eO h λg i h=>zBd Z Z Z (zBa YT (OC U b g i) Z (iD [0] Z)) Z (λj=>(pB [([1],[]),([],[0]),([0],[]),([1],[]),([1],[]),([1],[])] Z)) λj=>e_ Z (Fp Z Z)<|e_ Z (Fl Z Z)<|e_ Z (Cm Z)<|bM 19 Z Z<|aD Z<|aQ<|aT ?_;cases h;exact hJ () Z Z (RV.tmp Z) (RV.tmp Z) .nil aI.nil
def sM (U:Nat) (a:FW) (b:cS) (c:Int):Option gH:=
 some ((0:Int),(1:Int))
theorem YV:bD Tryz.prog 162:=Tryz.call162
theorem Im (U:Nat) {a:FW} {b:cS} {f:Int} (d:Value)  (e:Value)  (g:kY) (r:gC) (h:sM U a b f=some r):
  bG Tryz.prog 162 #[Value.agg #[vS (a.1),vI (a.2.1),vI (a.2.2.1),vI (a.2.2.2.1),vI (a.2.2.2.2.1),vI (a.2.2.2.2.2)],Value.agg #[d,e],vI (f)] [Sl aP d b.1,S2 bA e g b.2] (λx:Unit=>Value.tuple #[vI (r.1),vI (r.2)]) (λx l=>l) (λ_ l=>l):=by
 refine bG.of Tryz.func162 Z Tryz.ntmps162 Z λc=>?_;unfold sM at h;refine aX<|aM (aS.box (cs:=[vS (a.1),vI (a.2.1),vI (a.2.2.1),vI (a.2.2.2.1),vI (a.2.2.2.2.1),vI (a.2.2.2.2.2)]) Z Z) Z λi=>aM (aS.box (cs:=[d,e]) Z Z) Z λj=>aD Z<|aD Z<|aQ<|aX<|aD Z<|aD Z<|aQ<|aT ?_;cases h;exact hJ () Z Z (RV.tmp Z) (RV.tmp Z) .nil aI.nil
def oU (U:Nat) (c:FW) (b:cS) (a:Int):Option gH:=
 ck (0<=a∧a<(b.2.length:Int)) (some ((-1:Int),(wI .i64 (((at' b.2 a).length:Int) - (1:Int)))))
theorem YW:bD Tryz.prog 163:=Tryz.call163
theorem Io (U:Nat) {a:FW} {d:cS} {g:Int} (e:Value)  (f:Value)  (i:kY) (r:gC) (h:oU U a d g=some r):
  bG Tryz.prog 163 #[Value.agg #[vS (a.1),vI (a.2.1),vI (a.2.2.1),vI (a.2.2.2.1),vI (a.2.2.2.2.1),vI (a.2.2.2.2.2)],Value.agg #[e,f],vI (g)] [Sl aP e d.1,S2 bA f i d.2] (λx:Unit=>Value.tuple #[vI (r.1),vI (r.2)]) (λx l=>l) (λ_ l=>l):=by
 refine bG.of Tryz.func163 Z Tryz.ntmps163 Z λc=>?_;refine aX<|aM (aS.box (cs:=[vS (a.1),vI (a.2.1),vI (a.2.2.1),vI (a.2.2.2.1),vI (a.2.2.2.2.1),vI (a.2.2.2.2.2)]) Z Z) Z λj=>aM (aS.box (cs:=[e,f]) Z Z) Z λk=>aD Z<|aD Z<|aQ<|aN ?_;refine JR.start [0,1,0,7,15,31,63,0,255] 8 mixedOrders (by decide +kernel) ?_;refine zBc (by exact rfl) ?_;refine cB Z<|eI 0 Z<|aV Z<|cQ h λb h=>bE Z .nil (fW 1 Z) (bH Z Z (aA.fact 0 Z) Z Z b) aO.z<|bE Z .nil (fW 1 Z) (bS Z (aA.fact 0 Z) Z Z b) aO.z<|bE Z .nil (fW 1 Z) (fG Z (zBb (aA.fact 0 Z) b.1 b.2) Z) aO.z<|e_ Z (oD Z Z)<|e_ Z (Cm Z)<|bM 8 Z Z<|aD Z<|aQ<|aT ?_;cases h;exact hJ () Z Z (RV.tmp Z) (RV.tmp Z) .nil aI.nil
def Au  (a:Unit):Option gH:=
 some ((0:Int),(-1:Int))
def mZ (c:Int) (a:(Int)->Option gH) (b:Unit):Option gH:=
 a (wI .i64 (c+(1:Int)))
def gO (U:Nat) (a:FW) (d:cS) (h:Int) (b:Int) (c:(Int)->Option gH):Option gH:=
 if b<(List.length ([((1:Int),(161:Nat)),((2:Int),(162:Nat)),((3:Int),(163:Nat))]):Int)then(ck (0<=b∧b<(List.length ([((1:Int),(161:Nat)),((2:Int),(162:Nat)),((3:Int),(163:Nat))]):Int)) (if b=(0:Int)then(if(1:Int)=a.2.1 then(Option.bind (oT U ((a.1,a.2.1,a.2.2.1,a.2.2.2.1,a.2.2.2.2.1,a.2.2.2.2.2)) ((d.1,d.2)) h) λe=>(some (e.1,e.2)))else(mZ b c (())))else(if b=(1:Int)then(if(2:Int)=a.2.1 then(Option.bind (sM U ((a.1,a.2.1,a.2.2.1,a.2.2.2.1,a.2.2.2.2.1,a.2.2.2.2.2)) ((d.1,d.2)) h) λf=>(some (f.1,f.2)))else(mZ b c (())))else(if(3:Int)=a.2.1 then(Option.bind (oU U ((a.1,a.2.1,a.2.2.1,a.2.2.2.1,a.2.2.2.2.1,a.2.2.2.2.2)) ((d.1,d.2)) h) λg=>(some (g.1,g.2)))else(mZ b c (()))))))else(Au  (()))
def kZ (U:Nat) (a:FW) (b:cS) (c:Int):Option gH:=
 bP (gO U a b c) U (0:Int)
theorem VZ:bD Tryz.prog 97:=Tryz.call97
theorem EQ (U:Nat) {a:FW} {v:cS} {n:Int} (i:Value)  (j:Value)  (D:kY) (r:gC) (h:kZ U a v n=some r):
  bG Tryz.prog 97 #[Value.agg #[vS (a.1),vI (a.2.1),vI (a.2.2.1),vI (a.2.2.2.1),vI (a.2.2.2.2.1),vI (a.2.2.2.2.2)],Value.agg #[i,j],vI (n)] [Sl aP i v.1,S2 bA j D v.2] (λx:Unit=>Value.tuple #[vI (r.1),vI (r.2)]) (λx l=>l) (λ_ l=>l):=by
 let b:=a.2.2.2;let s:=Value.func (.func 163) #[] #[];let p:=Value.func (.func 162) #[] #[];let o:=Value.func (.func 161) #[] #[];let z:=vI (List.length ([((1:Int),(161:Nat)),((2:Int),(162:Nat)),((3:Int),(163:Nat))]):Int);refine bG.of Tryz.func97 Z Tryz.ntmps97 Z λc=>?_;unfold kZ at h;refine aX<|aM (aS.box (cs:=[vS (a.1),vI (a.2.1),vI (a.2.2.1),vI (b.1),vI (b.2.1),vI (b.2.2)]) Z Z) Z λE=>let y:=bO E [vS (a.1),vI (a.2.1),vI (a.2.2.1),vI (b.1),vI (b.2.1),vI (b.2.2)] 82;aM (aS.box (cs:=[i,j]) Z Z) Z λC=>aD Z<|aD Z<|aQ<|aX ?_
 refine aC (Ei (r:=Value.agg #[vI (1:Int),Value.func (.func 161) #[] #[]]) Z Z (by intro w;simp[Instr.build,Instr.fill,fY,fD,eL,fZ,f_,fE,h_])) Z ?_;refine aC (Ei (r:=Value.agg #[vI (2:Int),Value.func (.func 162) #[] #[]]) Z Z (by intro w;simp[Instr.build,Instr.fill,fY,fD,eL,fZ,f_,fE,h_])) Z ?_;refine aC (Ei (r:=Value.agg #[vI (3:Int),Value.func (.func 163) #[] #[]]) Z Z (by intro w;simp[Instr.build,Instr.fill,fY,fD,eL,fZ,f_,fE,h_])) Z ?_;refine aM (dK (e:=JN) ([(((1:Int),((161:Nat)))),(((2:Int),((162:Nat)))),(((3:Int),((163:Nat))))]) [(0,Value.agg #[vI (1:Int),o]),(1,Value.agg #[vI (2:Int),p]),(2,Value.agg #[vI (3:Int),s])] Z Z Z Z (WH (vI (1:Int)) (o) (vI (2:Int)) (p) (vI (3:Int)) (s)) Z Z Z) Z λJ=>let A:=Ar JN J ([((1:Int),(161:Nat)),((2:Int),(162:Nat)),((3:Int),(163:Nat))]);aD Z<|aQ<|aN<|eG (λB=>Au  B=some r) (λB N=>[]) (λB N=>[]) ?_ ?_
 ·refine aX<|aB Z<|aC (fG Z (dM (aA.res 0 Z) CV) Z) Z<|aB Z<|aQ<|aW<|fJ (gO U a v n) (λm O=>[(2,vI (n)),(3,vP E),(4,vP C),(15,J),(16,z),(17,vI (m))]) (λm O=>[A,bO C [i,j] 31,y]) (0:Int) () h SF (a_.refl _) ?_;intro F m O h;refine aX<|cX Z<|aQ<|aN ?_;refine eJ h Z (λh=>?_) λh=>?_
  ·refine cK<|aN<|eG (λk=>mZ m (bP (gO U a v n) F) k=some r) (λk t=>[(2,vI (n)),(3,vP E),(4,vP C),(15,J),(16,z),(17,vI (m))]) (λk t=>[A,bO C [i,j] 31,y]) ?_ ?_
   ·refine aW<|aX<|cQ h λg h=>aC (bI Z Z (dM (aA.res 0 Z) CV) Z Z g) Z ?_;by_cases d:m=(0:Int)
    ·have h:=Ff d h;refine aC (gM (cs:=[vI (1:Int),o]) Z (dM (aA.res 0 Z) CV) CV (by rw[d];rfl) Z Z Z g) Z ?_;refine aM (aS.alloc (cs:=[vI (0:Int),Value.nilFunc]) Z Z) Z λP=>cA 0 (vs:=[vI (1:Int),Value.func (.func 161) #[] #[]]) Z Z Z Z Z Z<|aQ<|aX<|bX Z<|dU 0 Z<|bX Z<|dU 3 Z<|cI Z<|aQ ?_;refine eJ h Z (λh=>?_) λh=>?_
     ·refine aX<|bX Z<|dU 0 Z<|cM 3 Z<|cM 2 Z<|aB Z<|eO h λG K h=>aM (s_ (vs:=[Value.agg #[vS (a.1),vI (a.2.1),vI (a.2.2.1),vI (a.2.2.2.1),vI (a.2.2.2.2.1),vI (a.2.2.2.2.2)],Value.agg #[i,j],vI (n)]) (cs:=[]) YU Z (Il U i j D G K) Z (iD [0,1] Z) (λ_ _=>rfl)) Z λS=>iG Z<|iG Z<|aD Z<|aD Z<|aQ<|aT<|bF<|aJ<|aJ<|bF<|aJ ?_;cases h;exact hJ () Z Z (RV.tmp Z) (RV.tmp Z) .nil aI.nil
     refine eC<|lJ ?_;exact cE () (()) h SF (a_.ix [1,2,3] Z Z) (aI.refl _ _)
    have h:=Uv d h;by_cases f:m=(1:Int)
    ·have h:=Ff f h;refine aC (gM (cs:=[vI (2:Int),p]) Z (dM (aA.res 0 Z) CV) CV (by rw[f];rfl) Z Z Z g) Z ?_;refine aM (aS.alloc (cs:=[vI (0:Int),Value.nilFunc]) Z Z) Z λQ=>cA 0 (vs:=[vI (2:Int),Value.func (.func 162) #[] #[]]) Z Z Z Z Z Z<|aQ<|aX<|bX Z<|dU 0 Z<|bX Z<|dU 3 Z<|cI Z<|aQ ?_;refine eJ h Z (λh=>?_) λh=>?_
     ·refine aX<|bX Z<|dU 0 Z<|cM 3 Z<|cM 2 Z<|aB Z<|eO h λH L h=>aM (s_ (vs:=[Value.agg #[vS (a.1),vI (a.2.1),vI (a.2.2.1),vI (a.2.2.2.1),vI (a.2.2.2.2.1),vI (a.2.2.2.2.2)],Value.agg #[i,j],vI (n)]) (cs:=[]) YV Z (Im U i j D H L) Z (iD [0,1] Z) (λ_ _=>rfl)) Z λT=>iG Z<|iG Z<|aD Z<|aD Z<|aQ<|aT<|bF<|aJ<|aJ<|bF<|aJ ?_;cases h;exact hJ () Z Z (RV.tmp Z) (RV.tmp Z) .nil aI.nil
     refine eC<|lJ ?_;exact cE () (()) h SF (a_.ix [1,2,3] Z Z) (aI.refl _ _)
    have h:=Uv f h;have u:m=(2:Int):=by have q:=g;simp only[zAf,zAt]at q;omega
    refine aC (gM (cs:=[vI (3:Int),s]) Z (dM (aA.res 0 Z) CV) CV (by rw[u];rfl) Z Z Z g) Z ?_;refine aM (aS.alloc (cs:=[vI (0:Int),Value.nilFunc]) Z Z) Z λR=>cA 0 (vs:=[vI (3:Int),Value.func (.func 163) #[] #[]]) Z Z Z Z Z Z<|aQ<|aX<|bX Z<|dU 0 Z<|bX Z<|dU 3 Z<|cI Z<|aQ ?_;refine eJ h Z (λh=>?_) λh=>?_
    ·refine aX<|bX Z<|dU 0 Z<|cM 3 Z<|cM 2 Z<|aB Z<|eO h λI M h=>aM (s_ (vs:=[Value.agg #[vS (a.1),vI (a.2.1),vI (a.2.2.1),vI (a.2.2.2.1),vI (a.2.2.2.2.1),vI (a.2.2.2.2.2)],Value.agg #[i,j],vI (n)]) (cs:=[]) YW Z (Io U i j D I M) Z (iD [0,1] Z) (λ_ _=>rfl)) Z λV=>iG Z<|iG Z<|aD Z<|aD Z<|aQ<|aT<|bF<|aJ<|aJ<|bF<|aJ ?_;cases h;exact hJ () Z Z (RV.tmp Z) (RV.tmp Z) .nil aI.nil
    refine eC<|lJ ?_;exact cE () (()) h SF (a_.ix [1,2,3] Z Z) (aI.refl _ _)
   intro k t h;unfold mZ at h;refine aU<|cW Z<|aB Z<|aQ ?_;exact vT (wI .i64 (m+(1:Int))) () h SF Z
  refine fF ?_;exact cE () (()) h SF .nil (aI.refl _ _)
 intro B N h;unfold Au at h;refine aX<|aD Z<|aD Z<|aQ<|aT ?_;cases h;exact hJ () Z Z (RV.tmp Z) (RV.tmp Z) (a_.refl _) aI.nil
def wS  (a:jR):Option (jR):=
 some (a)
def wT (b:Int×jR) (a:(Int×jR)->Option (jR)) (c:jR):Option (jR):=
 a ((wI .i64 (b.1+(1:Int))),c)
def oH (U:Nat) (d:fH) (g:cS) (b:Int×jR) (e:(Int×jR)->Option (jR)) (a:Int×jR) (f:(Int×jR)->Option (jR)):Option (jR):=
 if a.1<(d.2.1.length:Int)then(ck (0<=a.1∧a.1<(d.2.1.length:Int)) (ck (0<=b.1∧b.1<(a.2.length:Int)) (ck (0<=b.1∧b.1<(a.2.length:Int)) (Option.bind (kZ U ((((at' d.2.1 a.1).1),((at' d.2.1 a.1).2.1),((at' d.2.1 a.1).2.2.1),((at' d.2.1 a.1).2.2.2.1),((at' d.2.1 a.1).2.2.2.2.1),((at' d.2.1 a.1).2.2.2.2.2))) ((g.1,g.2)) b.1) λc=>(ck (0<=a.1∧a.1<((at' a.2 b.1).length:Int)) (ck (0<=a.1∧a.1<((at' (List.set a.2 (Int.toNat b.1) (List.set (at' a.2 b.1) (Int.toNat a.1) (c.1,((at' (at' a.2 b.1) a.1).2)))) b.1).length:Int)) (f ((wI .i64 (a.1+(1:Int))),(List.set (List.set a.2 (Int.toNat b.1) (List.set (at' a.2 b.1) (Int.toNat a.1) (c.1,((at' (at' a.2 b.1) a.1).2)))) (Int.toNat b.1) (List.set (at' (List.set a.2 (Int.toNat b.1) (List.set (at' a.2 b.1) (Int.toNat a.1) (c.1,((at' (at' a.2 b.1) a.1).2)))) b.1) (Int.toNat a.1) (((at' (at' (List.set a.2 (Int.toNat b.1) (List.set (at' a.2 b.1) (Int.toNat a.1) (c.1,((at' (at' a.2 b.1) a.1).2)))) b.1) a.1).1),c.2)))))))))))else(wT b e (a.2))
def mO (U:Nat) (c:fH) (d:cS) (a:Int×jR) (b:(Int×jR)->Option (jR)):Option (jR):=
 if a.1<((List.replicate (Int.toNat (List.length d.1:Int)) ([]:fP)).length:Int)then(ck (0<=(c.2.1.length:Int)∧(c.2.1.length:Int)<=1099511627) (ck (0<=a.1∧a.1<(a.2.length:Int)) (bP (oH U c d a b) U ((0:Int),(List.set a.2 (Int.toNat a.1) (List.replicate (Int.toNat (c.2.1.length:Int)) ((0:Int),(0:Int))))))))else(wS  (a.2))
def kS (U:Nat) (b:fH) (a:cS):Option (jR):=
 ck (0<=(a.1.length:Int)∧(a.1.length:Int)<=1099511627) (bP (mO U b a) U ((0:Int),(List.replicate (Int.toNat (a.1.length:Int)) ([]:fP))))
theorem QS:bD Tryz.prog 48:=Tryz.call48
theorem CJ (U:Nat) {d:fH} {y:cS} (H:Value)  (Y:Value)  (v2:Value)  (v3:Value)  (z4:kY) (r:jR) (h:kS U d y=some r):
  bG Tryz.prog 48 #[Value.agg #[vS (d.1),H,Y],Value.agg #[v2,v3]] [Sl aG H d.2.1,Sl aF Y d.2.2,PF (Value.agg #[vS d.1,H,Y]),Sl aP v2 y.1,S2 bA v3 z4 y.2] (λx:Ha=>x.1) (λx l=>Ar aE x.1 x.2::gN bY x.2 r::l) (λ_ l=>l):=by
 let A:=(Int.toNat (y.1.length:Int))
 let X:=(List.replicate A ([]:fP))
 let D:=vI (X.length:Int);refine bG.of Tryz.func48 Z Tryz.ntmps48 Z λc=>?_;refine aX<|aM (aS.box (cs:=[vS (d.1),H,Y]) Z Z) Z λb1=>let C:=bO b1 [vS (d.1),H,Y] 36;aM (aS.box (cs:=[v2,v3]) Z Z) Z λb2=>let F:=bO b2 [v2,v3] 31;aD Z<|aQ<|aX<|bX Z<|dU 0 Z<|jM (aA.fact 3 Z) Z<|cQ h λj3 h=>cD (tA bY A)<|aM (qX (e:=aE) (cY) Z Z Z Z j3 Z Z Z) Z λw=>aD Z<|aQ<|aN<|LS (B:=fM) (λI=>wS  I=some r) (λI K=>[(5,w)]) (λI K=>[Ar aE w K,gN bY K I]) ?_ ?_
 ·refine aX<|aB Z<|aC (dD Z (eV (i:=0) (j:=1) Z Z cF) Z) Z<|aB Z<|aQ<|aW<|fJ (B:=fM) (mO U d y) (λb p=>[(2,vP b1),(3,vP b2),(5,w),(14,D),(15,vI (b.1))]) (λb p=>[Ar aE w p,gN bY p b.2,F,C]) ((0:Int),X) (List.replicate A (cY)) h SF (a_.refl _) ?_;intro W b p h;let v:=(Int.toNat b.1)
  refine aX<|cX Z<|aQ<|aN ?_;refine eJ h Z (λh=>?_) λh=>?_
  ·refine cK<|aN<|LS (B:=fM) (λn=>wT b (bP (mO U d y) W) n=some r) (λn s=>[(2,vP b1),(3,vP b2),(5,w),(14,D),(15,vI (b.1))]) (λn s=>[Ar aE w s,gN bY s n,F,C]) ?_ ?_
   ·refine aW<|aX<|aB Z<|aD Z<|aQ<|aX<|aB Z<|aB Z<|bX Z<|dU 3 Z<|jM (aA.fact 0 Z) Z<|cQ h λaa h=>aM (qX (e:=bY) (((0:Int),(0:Int))) Z Z Z Z aa Z Z Z) Z λab=>let E:=(List.set p v ab);cQ h λt h=>aC (bH Z Z (eV (i:=1) (j:=2) Z Z cF) Z Z t) Z<|bB (Know.one ((dM (aA.res 0 Z) cF))) λR=>cD (Ap (k:=b.1) 2 0 Z Z Z t) ?_
    refine sZ 0 1 ⟨t.1,by first|exact t.2|simpa using t.2⟩ Z Z Z Z Z (by simp) R Z ?_;refine aQ<|aX<|bX Z<|dU 3 Z<|jM (aA.fact 0 Z) Z<|aB Z<|aQ<|aW<|fJ (oH U d y b (bP (mO U d y) W)) (λa J=>[(2,vP b1),(3,vP b2),(5,w),(6,vI (b.1)),(14,D),(15,vI (b.1)),(26,H),(27,vI (d.2.1.length:Int)),(28,vI (a.1))]) (λa J=>[Ar aE w E,gN bY E a.2,F,C]) ((0:Int),(List.set b.2 v (List.replicate (Int.toNat (d.2.1.length:Int)) ((0:Int),(0:Int))))) () h SF (a_.refl _) ?_;intro ag a J h;let G:=(at' a.2 b.1)
    let q:=(at' d.2.1 a.1)
    refine aX<|cX Z<|aQ<|aN ?_;refine eJ h Z (λh=>?_) λh=>?_
    ·refine cK<|aN<|aW<|aX<|aB Z<|cQ h λS h=>aC (bI Z Z (aA.fact 0 Z) Z Z S) Z<|aC (gM (cs:=[vS (q.1),vI (q.2.1),vI (q.2.2.1),vI (q.2.2.2.1),vI (q.2.2.2.2.1),vI (q.2.2.2.2.2)]) Z (aA.fact 0 Z) BL Z Z Z Z S) Z<|aM (aS.alloc (cs:=vD1) Z Z) Z λaf=>aD Z<|cA 0 (vs:=[vS ((at' d.2.1 a.1).1),vI ((at' d.2.1 a.1).2.1),vI ((at' d.2.1 a.1).2.2.1),vI ((at' d.2.1 a.1).2.2.2.1),vI ((at' d.2.1 a.1).2.2.2.2.1),vI ((at' d.2.1 a.1).2.2.2.2.2)]) Z Z Z Z Z Z<|aQ ?_;refine JR.start [0,0,3,7,0,0,0,96,224,0,0,0,0,7168,15360,31744,31744,31,196095,458239,992,2097151,4194303] 21 mixedOrders (by decide +kernel) ?_;refine zBc (by exact rfl) ?_;refine aV Z<|aV Z<|cQ h λg h=>aY (dC 2 Z) λL=>?_;refine bE Z (a_.cons 1 Z .nil) .nil (kQ 0 Z Z Z Z Z g.1 (by have q1:=g.2;have q2:=L;(try simp only[zA0]at q1);(try simp only[zA0]at q2);(try simp only[zA0]);omega)) aO.z ?_;refine aY (dC 2 Z) λM=>bE Z (a_.cons 1 Z .nil) .nil (eN 0 Z Z M Z Z g) aO.z<|aV Z<|aV Z<|aV Z<|cQ h λf h=>aY (dC 2 Z) λN=>?_;refine bE Z (a_.cons 1 Z .nil) .nil (kQ 0 Z Z Z Z Z f.1 (by have q1:=f.2;have q2:=N;(try simp only[zA0]at q1);(try simp only[zA0]at q2);(try simp only[zA0]);omega)) aO.z ?_;refine aY (dC 2 Z) λO=>bE Z (a_.cons 1 Z .nil) .nil (eN 0 Z Z O Z Z f) aO.z<|aV Z<|iR 0 Z<|iR 3 Z<|aV Z<|eO h λm ac h=>let u:=(List.set a.2 v (List.set G (Int.toNat a.1) (m.1,((at' G a.1).2))));zBd Z Z Z (zBa VZ (EQ U v2 v3 z4 m ac) Z (iD [3,4] Z)) Z (λad=>(pB [([1],[]),([1],[]),([1],[]),([1],[])] Z)) λad=>e_ Z (dZ Z)<|e_ Z (uK Z Z)<|e_ Z (uK Z Z)<|cQ h λT h=>aY (Know.len (aA.row (j:=2) Z cF g.1 g.2)) λP=>e_ Z (cJ Z Z P Z Z T) ?_
     refine e_ Z (Gb (i:=0) Z Z Z Z Z (by decide)) ?_;refine HE Z Z Z (pQ (us:=[vI (m.1)]) (o:=0) (k:=b.1) 2 ((m.1,((at' G a.1).2))) ⟨g.1,by first|exact g.2|simpa using g.2⟩ T Z Z Z Z Z Z Z Z Z Z) (λae=>(pB [] Z)) λae=>cQ h λV h=>aY (Know.len (aA.row (j:=2) Z cF f.1 (by first|exact f.2|simpa using f.2))) λQ=>?_;refine e_ Z (cJ Z Z Q Z Z V)<|bM 21 Z Z ?_;refine aC (Gb (i:=1) Z Z Z Z Z (by decide)) Z ?_;refine nU (pQ (us:=[vI (m.2)]) (o:=1) (k:=b.1) 2 ((((at' (at' u b.1) a.1).1),m.2)) ⟨f.1,by first|exact f.2|simpa using f.2⟩ V Z Z Z Z Z Z Z Z Z Z) λah=>fU<|lJ<|aU<|cW Z<|aB Z<|aQ ?_;exact kG ((wI .i64 (a.1+(1:Int))),(List.set u v (List.set (at' u b.1) (Int.toNat a.1) (((at' (at' u b.1) a.1).1),m.2)))) () h SF (a_.ix [1,2,3,4] Z Z) (aI.refl _ _)
    refine sG<|gR<|gR<|Af<|lJ ?_;exact gJ (a.2) E h SF Z
   intro n s h;unfold wT at h;refine aU<|cW Z<|aB Z<|aQ ?_;exact vT ((wI .i64 (b.1+(1:Int))),n) (s) h SF Z
  refine fF ?_;exact cE (b.2) (p) h SF (a_.ix [0,1] Z Z) (aI.refl _ _)
 intro I K h;unfold wS at h;refine aX<|aB Z<|aD Z<|aQ<|aT ?_;cases h;exact pL (w,K) Z Z (RV.tmp Z) (a_.refl _) aI.nil
def yB  (a:Unit):Option (Int):=
 some (0:Int)
def pT (b:Int) (a:(Int)->Option (Int)) (c:Unit):Option (Int):=
 a (wI .i64 (b+(1:Int)))
def yC (b:Int) (a:(Int)->Option (Int)) (c:Bool):Option (Int):=
 if c=true then(some (9:Int))else(pT b a (()))
def nH (U:Nat) (c:fH) (e:cS) (a:Int) (b:(Int)->Option (Int)):Option (Int):=
 if a<(c.2.1.length:Int)then(ck (0<=a∧a<(c.2.1.length:Int)) (if((at' c.2.1 a).2.1)≠(1:Int)then(pT a b (()))else(Option.bind (kZ U ((((at' c.2.1 a).1),((at' c.2.1 a).2.1),((at' c.2.1 a).2.2.1),((at' c.2.1 a).2.2.2.1),((at' c.2.1 a).2.2.2.2.1),((at' c.2.1 a).2.2.2.2.2))) ((e.1,e.2)) (0:Int)) λd=>(if d.2<d.1 then(yC a b (true))else(yC a b (decide ((4096:Int)<(wI .i64 ((wI .i64 (d.2 - d.1))+(1:Int))))))))))else(yB  (()))
def pC (U:Nat) (a:fH) (b:cS):Option (Int):=
 Option.bind (Dq U ((a.1,a.2.1,a.2.2))) λc=>(if(!c)=true then(some (8:Int))else(Option.bind (kN U ((b.1,b.2))) λd=>(if(!d)=true then(some (1:Int))else(bP (nH U a b) U (0:Int)))))
theorem Ss:bD Tryz.prog 107:=Tryz.call107
theorem GQ (U:Nat) {b:fH} {n:cS} (g:Value)  (v:Value)  (i:Value)  (j:Value)  (y:kY) (r:Int) (h:pC U b n=some r):
  bG Tryz.prog 107 #[Value.agg #[vS (b.1),g,v],Value.agg #[i,j]] [Sl aG g b.2.1,Sl aF v b.2.2,PF (Value.agg #[vS b.1,g,v]),Sl aP i n.1,S2 bA j y n.2] (λx:Unit=>vI (r)) (λx l=>l) (λ_ l=>l):=by
 refine bG.of Tryz.func107 Z Tryz.ntmps107 Z λc=>?_;refine aX<|aM (aS.box (cs:=[vS (b.1),g,v]) Z Z) Z λF=>aM (aS.box (cs:=[i,j]) Z Z) Z λm=>aD Z<|aQ<|aN<|aX<|cM 1 Z<|eO h λA C h=>aM (zBa NB (Md U g v A C) Z (iD [0,1,2] Z)) Z λG=>aC (iQ Z) Z<|aQ ?_;refine qS h Z (λ_ h=>?_) λ_ h=>?_
 ·refine aX<|aD Z<|aQ<|aT<|aJ ?_;cases h;exact lY Z
 refine cK<|aN<|aX<|cM 0 Z<|eO h λB D h=>aM (zBa VU (GT U i j y B D) Z (iD [3,4] Z)) Z λH=>aC (iQ Z) Z<|aQ ?_;refine qS h Z (λ_ h=>?_) λ_ h=>?_
 ·refine aX<|aD Z<|aQ<|aT<|aJ ?_;cases h;exact lY Z
 refine cK<|aN<|eG (λe=>yB  e=some r) (λe o=>[]) (λe o=>[]) ?_ ?_
 ·refine aX<|bX Z<|dU 1 Z<|jM (aA.fact 0 Z) Z<|aB Z<|aQ<|aW<|fJ (nH U b n) (λa p=>[(3,vP m),(16,g),(17,vI (b.2.1.length:Int)),(18,vI (a))]) (λa p=>[bO m [i,j] 31]) (0:Int) () h SF (a_.ix [0] Z Z) ?_;intro u a p h;refine aX<|cX Z<|aQ<|aN ?_;refine eJ h Z (λh=>?_) λh=>?_
  ·refine cK<|aN<|eG (λf=>pT a (bP (nH U b n) u) f=some r) (λf q=>[(3,vP m),(16,g),(17,vI (b.2.1.length:Int)),(18,vI (a))]) (λf q=>[bO m [i,j] 31]) ?_ ?_
   ·refine aW<|aX<|cQ h λt h=>aC (bI Z Z (aA.fact 0 Z) Z Z t) Z<|aC (gM (cs:=[vS ((at' b.2.1 a).1),vI ((at' b.2.1 a).2.1),vI ((at' b.2.1 a).2.2.1),vI ((at' b.2.1 a).2.2.2.1),vI ((at' b.2.1 a).2.2.2.2.1),vI ((at' b.2.1 a).2.2.2.2.2)]) Z (aA.fact 0 Z) BL Z Z Z Z t) Z<|aM (aS.alloc (cs:=vD1) Z Z) Z λz=>cA 0 (vs:=[vS ((at' b.2.1 a).1),vI ((at' b.2.1 a).2.1),vI ((at' b.2.1 a).2.2.1),vI ((at' b.2.1 a).2.2.2.1),vI ((at' b.2.1 a).2.2.2.2.1),vI ((at' b.2.1 a).2.2.2.2.2)]) Z Z Z Z Z Z<|aQ<|aN<|aX<|bX Z<|dU 0 Z<|kA Z<|aQ ?_;refine eJ h Z (λh=>?_) λh=>?_
    ·refine sG<|gR<|Af<|Eb ?_;exact cE () (()) h SF (a_.ix [1] Z Z) (aI.refl _ _)
    refine cK<|aX<|cM 0 Z<|cM 1 Z<|eO h λk w h=>aM (zBa VZ (EQ U i j y k w) Z (iD [3,4] Z)) Z λE=>aB Z<|iG Z<|iG Z<|aD Z<|aD Z<|aQ<|aN<|eG (λd=>yC a (bP (nH U b n) u) d=some r) (λd s=>[(3,vP m),(16,g),(17,vI (b.2.1.length:Int)),(18,vI (a)),(40,vB (d))]) (λd s=>[bO m [i,j] 31]) ?_ ?_
    ·refine aU<|aB Z<|aB Z<|cX Z<|aB Z ?_;refine AL h Z (λ_ h=>?_) λ_ h=>?_
     ·refine aK Z<|aK Z<|aK Z<|aK Z<|aK Z<|dG Z<|aQ ?_;exact cE (true) () h SF (a_.ix [1] Z Z) (aI.refl _ _)
     refine dH Z<|dH Z<|aR Z (oD Z Z) Z<|aR Z (Fl Z Z) Z<|aR Z (sL Z Z) Z<|dR Z<|aQ ?_;exact cE (decide ((4096:Int)<(wI .i64 ((wI .i64 (k.2 - k.1))+(1:Int))))) () h SF (a_.ix [1] Z Z) (aI.refl _ _)
    intro d s h;refine qS h Z (λ_ h=>?_) λ_ h=>?_
    ·refine aX<|aD Z<|aQ<|aT<|bF<|aJ<|aJ<|bF<|aJ ?_;cases h;exact lY Z
    refine eC<|lJ ?_;exact gJ () (()) h SF Z
   intro f q h;unfold pT at h;refine aU<|cW Z<|aB Z<|aQ ?_;exact vT (wI .i64 (a+(1:Int))) () h SF Z
  refine fF ?_;exact cE () (()) h SF .nil (aI.refl _ _)
 intro e o h;unfold yB at h;refine aX<|aD Z<|aQ<|aT ?_;cases h;exact iJ Z
def wY  (a:Unit):Option Bool:=
 some (true)
def wZ (c:Int) (b:(Int)->Option Bool) (a:Bool):Option Bool:=
 if a=true then(some (false))else(b (wI .i64 (c+(1:Int))))
def r_ (c:fP) (d:cC) (a:Int) (b:(Int)->Option Bool):Option Bool:=
 if a<(d.length:Int)then(ck (0<=a∧a<(d.length:Int)) (ck (0<=a∧a<(c.length:Int)) (if(at' d a)<((at' c a).1)then(wZ a b (true))else(ck (0<=a∧a<(c.length:Int)) (wZ a b (decide (((at' c a).2)<(at' d a))))))))else(wY  (()))
def tK (U:Nat) (a:fP) (b:cC):Option Bool:=
 if(b.length:Int)≠(a.length:Int)then(some (false))else(bP (r_ a b) U (0:Int))
theorem VQ:bD Tryz.prog 50:=Tryz.call50
theorem FQ (U:Nat) {k:fP} {d:cC} (n:Value)  (o:Value) (r:Bool) (h:tK U k d=some r):
  bG Tryz.prog 50 #[n,o] [Sl bA n k,Sl aP o d] (λx:Unit=>vB (r)) (λx l=>l) (λ_ l=>l):=by
 refine bG.of Tryz.func50 Z Tryz.ntmps50 Z λc=>?_;refine aX<|aD Z<|aQ<|aN<|aX<|aB Z<|jM (aA.fact 1 Z) Z<|aB Z<|jM (aA.fact 0 Z) Z<|kA Z<|aQ ?_;refine eJ h Z (λh=>?_) λh=>?_
 ·refine aX<|aD Z<|aQ<|aT<|aJ ?_;cases h;exact iJ Z
 refine cK<|aN<|eG (λm=>wY  m=some r) (λm p=>[]) (λm p=>[]) ?_ ?_
 ·refine aX<|aB Z<|jM (aA.fact 1 Z) Z<|aB Z<|aQ<|aW<|fJ (r_ k d) (λb q=>[(0,n),(12,o),(13,vI (d.length:Int)),(14,vI (b))]) (λb q=>[]) (0:Int) () h SF (a_.refl _) ?_;intro s b q h;refine aX<|cX Z<|aQ<|aN ?_;refine eJ h Z (λh=>?_) λh=>?_
  ·refine cK<|aN<|aW<|aX<|aB Z<|cQ h λf h=>aC (bI Z Z (aA.fact 1 Z) Z Z f) Z<|aC (cL Z (aA.fact 1 Z) Z Z Z fN f) Z<|aD Z<|aD Z<|aQ<|aN<|eG (λa=>wZ b (bP (r_ k d) s) a=some r) (λa e=>[(0,n),(12,o),(13,vI (d.length:Int)),(14,vI (b)),(34,vB (a))]) (λa e=>[]) ?_ ?_
   ·refine aU<|aB Z<|aB Z<|aB Z<|cQ h λg h=>aC (bI Z Z (aA.fact 0 Z) Z Z g) Z ?_;refine aC (Gb (i:=0) Z Z Z Z Z (by decide)) Z ?_;refine aC (fI Z (aA.fact 0 Z) Z Z Z gU g) Z<|cX Z<|aB Z ?_;refine AL h Z (λ_ h=>?_) λ_ h=>?_
    ·refine aK Z<|aK Z<|aK Z<|aK Z<|aK Z<|aK Z<|aK Z<|dG Z<|aQ ?_;exact gJ (true) () h SF Z
    refine dH Z<|dH Z<|dH Z<|cQ h λj h=>aR Z (bI Z Z (aA.fact 0 Z) Z Z j) Z ?_;refine aR Z (Gb (i:=1) Z Z Z Z Z (by decide)) Z ?_;refine aR Z (fI Z (aA.fact 0 Z) Z Z Z Ef j) Z<|aR Z (sL Z Z) Z<|dR Z<|aQ ?_;exact gJ (decide (((at' k b).2)<(at' d b))) () h SF Z
   intro a e h;refine qS h Z (λ_ h=>?_) λ_ h=>?_
   ·refine aX<|aD Z<|aQ<|aT<|bF<|aJ<|aJ<|bF<|aJ ?_;cases h;exact iJ Z
   refine eC<|lJ<|aU<|cW Z<|aB Z<|aQ ?_;exact vT (wI .i64 (b+(1:Int))) () h SF Z
  refine fF ?_;exact gJ () (()) h SF Z
 intro m p h;unfold wY at h;refine aX<|aD Z<|aQ<|aT ?_;cases h;exact iJ Z
def uS  (a:Unit):Option Bool:=
 some (true)
def uT (U:Nat) (c:jR) (e:bV) (a:Int) (b:(Int)->Option Bool):Option Bool:=
 if a<(c.length:Int)then(ck (0<=a∧a<(c.length:Int)) (ck (0<=a∧a<(e.length:Int)) (Option.bind (tK U (at' c a) (at' e a)) λd=>(if(!d)=true then(some (false))else(b (wI .i64 (a+(1:Int))))))))else(uS  (()))
def wX (U:Nat) (a:jR) (b:bV):Option Bool:=
 if(b.length:Int)≠(a.length:Int)then(some (false))else(bP (uT U a b) U (0:Int))
theorem YR:bD Tryz.prog 119:=Tryz.call119
theorem JK (U:Nat) {f:jR} {g:bV} (j:Value)  (p:kY)  (k:Value)  (q:mR) (r:Bool) (h:wX U f g=some r):
  bG Tryz.prog 119 #[j,k] [S2 bA j p f,S2 aP k q g] (λx:Unit=>vB (r)) (λx l=>l) (λ_ l=>l):=by
 refine bG.of Tryz.func119 Z Tryz.ntmps119 Z λc=>?_;refine aX<|aD Z<|aQ<|aN<|aX<|aB Z<|aC (dD Z (aA.fact 1 Z) Z) Z<|aB Z<|aC (dD Z (aA.fact 0 Z) Z) Z<|kA Z<|aQ ?_;refine eJ h Z (λh=>?_) λh=>?_
 ·refine aX<|aD Z<|aQ<|aT<|aJ ?_;cases h;exact iJ Z
 refine cK<|aN<|eG (λe=>uS  e=some r) (λe n=>[]) (λe n=>[]) ?_ ?_
 ·refine aX<|aB Z<|aC (dD Z (aA.fact 0 Z) Z) Z<|aB Z<|aQ<|aW<|fJ (uT U f g) (λd o=>[(1,k),(12,j),(13,vI (f.length:Int)),(14,vI (d))]) (λd o=>[]) (0:Int) () h SF (a_.refl _) ?_;intro t d o h;refine aX<|cX Z<|aQ<|aN ?_;refine eJ h Z (λh=>?_) λh=>?_
  ·refine cK<|aN<|aW<|aX<|aB Z<|cQ h λa h=>aC (bH Z Z (aA.fact 0 Z) Z Z a) Z<|aC (bS Z (aA.fact 0 Z) Z Z a) Z<|aD Z<|aD Z<|aQ<|aX<|aB Z<|aB Z<|aB Z<|cQ h λb h=>aC (bH Z Z (aA.fact 1 Z) Z Z b) Z<|aC (bS Z (aA.fact 1 Z) Z Z b) Z<|eO h λi m h=>aM (zBa VQ (FQ U ((at' p d).1) ((at' q d).1) i m) Z (aI.cons (zBb (aA.fact 0 Z) a.1 a.2) (aI.cons (zBb (aA.fact 1 Z) b.1 b.2) .nil))) Z λs=>aC (iQ Z) Z<|aQ ?_;refine qS h Z (λ_ h=>?_) λ_ h=>?_
   ·refine aX<|aD Z<|aQ<|aT<|bF<|aJ<|aJ<|bF<|aJ ?_;cases h;exact iJ Z
   refine eC<|lJ<|aU<|cW Z<|aB Z<|aQ ?_;exact vT (wI .i64 (d+(1:Int))) () h SF Z
  refine fF ?_;exact gJ () (()) h SF Z
 intro e n h;unfold uS at h;refine aX<|aD Z<|aQ<|aT ?_;cases h;exact iJ Z
def mG (U:Nat) (a:fH) (b:cS) (e:bV):Option (Int):=
 Option.bind (pC U ((a.1,a.2.1,a.2.2)) ((b.1,b.2))) λd=>(if d≠(0:Int)then(some (d))else(Option.bind (kS U ((a.1,a.2.1,a.2.2)) ((b.1,b.2))) λf=>(Option.bind (wX U f e) λc=>(if(!c)=true then(some (10:Int))else(some (0:Int))))))
theorem VW:bD Tryz.prog 75:=Tryz.call75
theorem FP (U:Nat) {a:fH} {g:cS} {p:bV} (b:Value)  (d:Value)  (e:Value)  (f:Value)  (o:kY)  (m:Value)  (t:mR) (r:Int) (h:mG U a g p=some r):
  bG Tryz.prog 75 #[Value.agg #[vS (a.1),b,d],Value.agg #[e,f],m] [Sl aG b a.2.1,Sl aF d a.2.2,PF (Value.agg #[vS a.1,b,d]),Sl aP e g.1,S2 bA f o g.2,S2 aP m t p] (λx:Unit=>vI (r)) (λx l=>l) (λ_ l=>l):=by
 refine bG.of Tryz.func75 Z Tryz.ntmps75 Z λc=>?_;refine aX<|aM (aS.box (cs:=[vS (a.1),b,d]) Z Z) Z λz=>aM (aS.box (cs:=[e,f]) Z Z) Z λA=>aD Z<|aQ<|aN<|aX<|cM 1 Z<|cM 0 Z<|eO h λu v h=>aM (zBa Ss (GQ U b d e f o u v) Z (iD [0,1,2,3,4] Z)) Z λB=>aD Z<|aQ<|aX<|aB Z<|kA Z<|aQ ?_;refine eJ h Z (λh=>?_) λh=>?_
 ·refine aX<|aB Z<|aD Z<|aQ<|aT<|aJ ?_;cases h;exact lY Z
 refine cK<|aN<|aX<|cM 1 Z<|cM 0 Z<|eO h λq w h=>aM (zBa QS (CJ U b d e f o q w) Z (iD [0,1,2,3,4] Z)) Z λs=>aB Z<|eO h λk n h=>aM (zBa YR (JK U s.1 (List.zip s.2 q) m t k n) Z (aI.cons (eV (i:=0) (j:=1) Z Z cF) (iD [5] Z))) Z λy=>aC (iQ Z) Z<|aQ ?_;refine qS h Z (λ_ h=>?_) λ_ h=>?_
 ·refine aX<|aD Z<|aQ<|aT<|aJ ?_;cases h;exact lY Z
 refine cK<|aX<|aD Z<|aQ<|aT ?_;cases h;exact lY Z
def yT  (a:bV):Option bV:=
 some (a)
def tS (c:bV) (a:Int×bV) (b:(Int×bV)->Option bV):Option bV:=
 if a.1<(c.length:Int)then(ck (0<=a.1∧a.1<(c.length:Int)) (ck ((List.length ([]:cC):Int)+((at' c a.1).length:Int)<=1099511627) (ck (0<=a.1∧a.1<(a.2.length:Int)) (b ((wI .i64 (a.1+(1:Int))),(List.set a.2 (Int.toNat a.1) (([]:cC)++(at' c a.1))))))))else(yT  (a.2))
def mX (U:Nat) (a:bV):Option bV:=
 ck (0<=(a.length:Int)∧(a.length:Int)<=1099511627) (bP (tS a) U ((0:Int),(List.replicate (Int.toNat (a.length:Int)) ([]:cC))))
theorem NI:bD Tryz.prog 76:=Tryz.call76
theorem Bf (U:Nat) {g:bV} (t:Value)  (w:mR) (r:bV) (h:mX U g=some r):
  bG Tryz.prog 76 #[t] [S2 aP t w g] (λx:Ha=>x.1) (λx l=>Ar aE x.1 x.2::gN iF x.2 r::l) (λ_ l=>l):=by
 refine bG.of Tryz.func76 Z Tryz.ntmps76 Z λc=>?_;refine aX<|aD Z<|aQ<|aX<|aB Z<|aC (dD Z (aA.fact 0 Z) Z) Z<|cQ h λu h=>cD (tA iF (Int.toNat (g.length:Int)))<|aM (qX (e:=aE) (cY) Z Z Z Z u Z Z Z) Z λp=>aD Z<|aQ<|aN<|LS (B:=fM) (λm=>yT  m=some r) (λm n=>[(3,p)]) (λm n=>[Ar aE p n,gN iF n m]) ?_ ?_
 ·refine aX<|aB Z<|aC (dD Z (aA.fact 0 Z) Z) Z<|aB Z<|aQ<|aW<|fJ (B:=fM) (tS g) (λa b=>[(3,p),(9,t),(10,vI (g.length:Int)),(11,vI (a.1))]) (λa b=>[Ar aE p b,gN iF b a.2]) ((0:Int),(List.replicate (Int.toNat (g.length:Int)) ([]:cC))) (List.replicate (Int.toNat (g.length:Int)) (cY)) h SF (a_.refl _) ?_;intro v a b h;refine aX<|cX Z<|aQ<|aN ?_;refine eJ h Z (λh=>?_) λh=>?_
  ·refine cK<|aN<|aW<|aX<|aB Z<|cQ h λf h=>aC (bH Z Z (aA.fact 0 Z) Z Z f) Z<|aC (bS Z (aA.fact 0 Z) Z Z f) Z<|aD Z<|aD Z<|aQ<|aU<|aB Z<|aB Z<|aB Z<|cD (iM iF)<|cQ h λq h=>aM (jZ 0 iH Z Z Z (zBb (aA.fact 0 Z) f.1 f.2) Z Z Z Z q Z) Z λs=>cQ h λd h=>aC (bH Z Z (eV (i:=1) (j:=2) Z Z iH) Z Z d) Z<|bB (Know.one ((dM (aA.res 0 Z) iH))) λo=>cD (Ap (k:=a.1) 2 0 Z Z Z d) ?_;refine sZ 0 1 ⟨d.1,by first|exact d.2|simpa using d.2⟩ Z Z Z Z Z (by simp) o Z ?_;refine fU<|lJ<|aU<|cW Z<|aB Z<|aQ ?_;exact vT ((wI .i64 (a.1+(1:Int))),(List.set a.2 (Int.toNat a.1) (([]:cC)++(at' g a.1)))) (List.set b (Int.toNat a.1) s) h SF Z
  refine fF ?_;exact gJ (a.2) (b) h SF Z
 intro m n h;unfold yT at h;refine aX<|aB Z<|aD Z<|aQ<|aT ?_;cases h;exact pL (p,n) Z Z (RV.tmp Z) (a_.refl _) aI.nil
end Go.Proofs.YtflciafboapaaaaGreat
namespace Go.Proofs.YtflciafboapaaaaGreat
open Go Go.Sx
abbrev Ee:=ByteArray×(List Fe)×(List pR)
structure gV (g:GR) (vars:List Fe):Prop where
 len:vars.length<=20
 small:∀x,x<vars.length->Kx (at' vars (x:Int))
 kind:∀x,x<vars.length->(at' vars (x:Int)).2.1=1∨(at' vars (x:Int)).2.1=2∨(at' vars (x:Int)).2.1=3
 range:∀x,x<vars.length->(at' vars (x:Int)).2.1=1 -> -100000<=lo g (at' vars (x:Int)) 0∧lo g (at' vars (x:Int)) 0<=hi g (at' vars (x:Int)) 0∧hi g (at' vars (x:Int)) 0 - lo g (at' vars (x:Int)) 0+1<=4096
theorem acx {g:GR} (a:VG g):B_ 1000 g.1=some (kT g g.1.length):=by
 have d:=a.n24;have b:=a.len;have h:=a.n1;have f:0<=at' g.1 ((0:Nat):Int):=(a.node 0 (by omega)).id.1;unfold B_;rw[if_neg (by omega),cO (by omega)];have:=dO (step:=wN g.1) (K:=some (kT g g.1.length)) (g.1.length - 1) (λk=>(kT g (k+1),((k+1:Nat):Int))) (λk c i=>by
  unfold wN;dsimp only;rw[if_pos (by omega),cO (by omega),dJ (by omega)];rfl) (λc=>by
  unfold wN Be;dsimp only;rw[if_neg (by omega),show g.1.length - 1+1=g.1.length by omega]) 1000 (by omega)
 have e:kT g (0+1)=at' g.1 (0:Int):=by
  show max (kT g 0) (at' g.1 ((0:Nat):Int))=_;simp only[kT];have:at' g.1 ((0:Nat):Int)=at' g.1 (0:Int):=rfl;omega
 rw[e]at this;exact this
theorem Mt {g:GR} (c:VG g) {x:Fe} (o:Kx x) (n:x.2.1=1∨x.2.1=2∨x.2.1=3) {v:Nat} (p:v<g.2.length):kZ 1000 x g (v:Int)=some (lo g x v,hi g x v):=by
 obtain⟨⟨B,C⟩,⟨r,s⟩,t,u⟩:=o;have l:=c.n24;have d:=c.len;have e:=KZ c g.1.length (by omega);have w:0<=x.2.2.2.2.1*(g.1.length:Int):=Int.mul_nonneg r (by omega);have y:x.2.2.2.2.1*(g.1.length:Int)<=100000*24:=Int.mul_le_mul s (by omega) (by omega) (by omega);have z:0<=x.2.2.2.2.2*kT g g.1.length:=Int.mul_nonneg t e.1;have A:x.2.2.2.2.2*kT g g.1.length<=100000*255:=Int.mul_le_mul u e.2 e.1 (by omega);have i:oT 1000 x g (v:Int)=some (x.2.2.1,x.2.2.2.1+x.2.2.2.2.1*(g.2.length:Int)+x.2.2.2.2.2*kT g g.1.length):=by
  unfold oT;rw[bN (acx c),wr (x:=x.2.2.2.2.1*_) (by omega) (by omega),wr (x:=x.2.2.2.2.2*_) (by omega) (by omega),wr (x:=x.2.2.2.1+_) (by omega) (by omega),wr (by omega) (by omega),d]
 have j:oU 1000 x g (v:Int)=some (-1,((row g v).length:Int) - 1):=by
  have k:=(c.node v p).deg;unfold oU;rw[cO (by omega)];show some ((-1:Int),wI .i64 (((row g v).length:Int) - 1))=_;rw[wr (by omega) (by omega)]
 have q:∀(f:Nat) (a:Int),bP (gO 1000 x g (v:Int)) (f+1) a=gO 1000 x g (v:Int) a (bP (gO 1000 x g (v:Int)) f):=λf a=>rfl;have b:∀(f:Nat) (a:Int),a=0∨a=1∨a=2->bP (gO 1000 x g (v:Int)) (f+1) a=if a=0 then(if 1=x.2.1 then oT 1000 x g (v:Int)else bP (gO 1000 x g (v:Int)) f 1)else if a=1 then(if 2=x.2.1 then sM 1000 x g (v:Int)else bP (gO 1000 x g (v:Int)) f 2)else(if 3=x.2.1 then oU 1000 x g (v:Int)else bP (gO 1000 x g (v:Int)) f 3):=by
  intro f a m;rw[q];generalize bP (gO 1000 x g (v:Int)) f=G;unfold gO mZ;rcases m with rfl|rfl|rfl
  ·rw[if_pos (by decide),cO (by decide),if_pos Z,if_pos Z];split
   ·rw[i];rfl
   ·rfl
  ·rw[if_pos (by decide),cO (by decide),if_neg (show¬(1:Int)=0 by decide),if_pos Z,if_neg (show¬(1:Int)=0 by decide),if_pos Z];split
   ·rfl
   ·rfl
  ·rw[if_pos (by decide),cO (by decide),if_neg (show¬(2:Int)=0 by decide),if_neg (show¬(2:Int)=1 by decide),if_neg (show¬(2:Int)=0 by decide),if_neg (show¬(2:Int)=1 by decide)];split
   ·rw[j];rfl
   ·rfl
 unfold kZ lo hi;rcases n with h|h|h
 ·rw[b 999 0 (.inl Z),if_pos Z,if_pos h.symm,i,h,if_neg (by decide),if_neg (by decide),if_neg (by decide),if_neg (by decide)]
 ·rw[b 999 0 (.inl Z),if_pos Z,if_neg (by omega),b 998 1 (.inr (.inl Z)),if_neg (by decide),if_pos Z,if_pos h.symm,h,if_pos Z,if_pos Z];rfl
 ·rw[b 999 0 (.inl Z),if_pos Z,if_neg (by omega),b 998 1 (.inr (.inl Z)),if_neg (by decide),if_pos Z,if_neg (by omega),b 997 2 (.inr (.inr Z)),if_neg (by decide),if_neg (by decide),if_pos h.symm,j,h,if_neg (by decide),if_pos Z,if_neg (by decide),if_pos Z]
def pI (g:GR) (a:List Fe) (v x:Nat):gC:=(lo g (at' a (x:Int)) v,hi g (at' a (x:Int)) v)
def Gw (g:GR) (a:List Fe) (v:Nat):fP:=(List.range a.length).map (pI g a v)
def AH (g:GR) (a:List Fe):jR:=(List.range g.2.length).map (Gw g a)
theorem DU {a:Type} [Inhabited a] (f:Nat->a) {n k:Nat} (h:k<n):at' ((List.range n).map f) (k:Int)=f k:=by
 rw[jU (by simpa using h)];simp
theorem AP {a:Type} (f:Nat->a) (z:a) (n k:Nat) (h:k<n):((List.range k).map f++List.replicate (n - k) z).set k (f k)=(List.range (k+1)).map f++List.replicate (n - (k+1)) z:=by
 rw[show n - k=(n - (k+1))+1 by omega,List.replicate_succ,List.set_append_right _ _ (by simp),List.range_succ];simp
theorem Lw {g:GR} (m:VG g) {p:Ee} (n:gV g p.2.1):kS 1000 p g=some (AH g p.2.1):=by
 have s:=m.n24;have d:=m.len;have w:=n.len;let a:=p.2.1;let Q:Nat->jR:=λk=>(List.range k).map (Gw g a)++List.replicate (g.2.length - k) [];have c:∀k,k<=g.2.length->(Q k).length=g.2.length:=λk f=>by simp[Q];omega
 let R:Nat->Nat->fP:=λk j=>(List.range j).map (pI g a k)++List.replicate (a.length - j) (0,0);have l:∀k j,j<=a.length->(R k j).length=a.length:=λk j b=>by simp[R];omega
 unfold kS;rw[cO (by omega)];rw[show List.replicate (Int.toNat (g.1.length:Int)) ([]:fP)=Q 0 by simp[Q,d]];refine dO (step:=mO 1000 p g) (K:=some (AH g a)) g.2.length (λk=>((k:Int),Q k)) (λk e f=> ?_) (λe=> ?_) 1000 (by omega)
 ·unfold mO;dsimp only;rw[if_pos (by simp;omega),cO (by omega),cO (by rw[c k (by omega)];omega)];refine Eq.trans (?_:_=bP (oH 1000 p g ((k:Int),Q k) e) 1000 ((0:Int),(Q k).set k (R k 0))) ?_
  ·rw[zAe,zAe];simp[R,a]
  refine dO (step:=oH 1000 p g ((k:Int),Q k) e) (K:=e (((k+1:Nat):Int),Q (k+1))) a.length (λj=>((j:Int),(Q k).set k (R k j))) (λj h b=> ?_) (λh=> ?_) 1000 (by show p.2.1.length<1000;omega)
  ·have u:j<p.2.1.length:=b;have t:=Mt m (n.small j b) (n.kind j b) f;have v:k<(Q k).length:=by rw[c k (by omega)];exact f
   have o:∀X:fP,at' ((Q k).set k X) (k:Int)=X:=λX=>by rw[BC _ _ _ _ v,if_pos Z]
   have i:j<(R k j).length:=by rw[l k j (by omega)];exact b
   unfold oH;dsimp only;rw[if_pos (by omega),cO (by omega),cO (by simp only[zA0];omega),cO (by simp only[zA0];omega),bN (show kZ 1000 _ g (k:Int)=_ from t),zAe,zAe];simp only[o,List.set_set];rw[cO (by omega),cO (by simp only[zA0];omega),dJ (by omega)];have:(R k j).set j (lo g (at' p.2.1 (j:Int)) k,hi g (at' p.2.1 (j:Int)) k)=R k (j+1):=AP (pI g a k) (0,0) a.length j b;rw[BC _ _ _ _ i,if_pos Z];dsimp only;rw[this]
  ·unfold oH wT;dsimp only;rw[if_neg (show¬((a.length:Nat):Int)<(p.2.1.length:Int)from Int.lt_irrefl _),dJ (by omega)];have q:R k a.length=Gw g a k:=by simp[R,Gw]
   have r:(Q k).set k (Gw g a k)=Q (k+1):=AP (Gw g a) [] g.2.length k f;rw[q,r]
 ·unfold mO wS;dsimp only;rw[if_neg (by simp;omega)];simp[Q,AH]
theorem SS {g:GR} (c:VG g) {p:Ee} (b:gV g p.2.1):pC 1000 p g=some 0:=by
 have i:=c.n1;have h:=b.len;unfold pC;rw[bN (show Dq 1000 _=some true from rfl),if_neg (by decide),bN (show kN 1000 g=some true from(UT g).1 c),if_neg (by decide)];refine dO (step:=nH 1000 p g) (K:=some 0) p.2.1.length (λk=>(k:Int)) (λk e d=> ?_) (λe=> ?_) 1000 (by omega)
 ·unfold nH pT yC pT;rw[if_pos (by omega),cO (by omega),dJ (by omega)];by_cases a:(at' p.2.1 (k:Int)).2.1=1
  ·obtain⟨j,l,m⟩:=b.range k d a;have f:=Mt c (b.small k d) (b.kind k d) (v:=0) (by omega);rw[if_neg (by simpa using a),bN (show kZ 1000 _ g (0:Int)=_ from f)];dsimp only;rw[if_neg (by omega),wr (x:=hi g (at' p.2.1 (k:Int)) 0 - lo g (at' p.2.1 (k:Int)) 0) (by omega) (by omega),wr (by omega) (by omega),if_neg (by rw[zAb];omega)]
  ·rw[if_pos a]
 ·unfold nH yB;rw[if_neg (by omega)]
theorem NK (c:bV) (h:c.length<=900) (e:∀v,v<c.length->(at' c (v:Int)).length<=1000):mX 1000 c=some c:=by
 unfold mX;rw[cO (by omega)];let Q:Nat->bV:=λk=>(List.range k).map (λv:Nat=>at' c (v:Int))++List.replicate (c.length - k) [];rw[show List.replicate (Int.toNat (c.length:Int)) ([]:cC)=Q 0 by simp[Q]];refine dO (step:=tS c) (K:=some c) c.length (λk=>((k:Int),Q k)) (λk b a=> ?_) (λb=> ?_) 1000 (by omega)
 ·have g:(Q k).length=c.length:=by simp[Q];omega
  have:=e k a;unfold tS;dsimp only;rw[if_pos (by omega),cO (by omega),cO (by simp;omega),cO (by omega),dJ (by omega),zAe,List.nil_append];have:(Q k).set k (at' c (k:Int))=Q (k+1):=AP (λv:Nat=>at' c (v:Int)) [] c.length k a;rw[this]
 ·unfold tS yT;dsimp only;rw[if_neg (by omega)];congr 1;refine List.ext_getElem (by simp[Q]) λi f d=> ?_;simp[Q,jU d]
def sat (x:Int):Int:=max (-1073741824) (min x 1073741824)
def unD (o x:Int):Int:=if o=18 then wI .i64 (0 - x)else Uc (decide (x=0))
def aal (a b:Int):Int:=if b=0 then 0 else if Int.tmod a b≠0∧((decide (a<0)) != (decide (b<0)))=true then wI .i64 (wI .i64 (Int.tdiv a b) - 1)else wI .i64 (Int.tdiv a b)
def abY (o x y:Int):Bool:=if o=35 then decide (x=y)else if o=36 then decide (x≠y)else if o=37 then decide (x<y)else if o=38 then decide (x<=y)else if o=39 then decide (y<x)else decide (y<=x)
def biD (o x y:Int):Int:=
 if o=30 then sat (wI .i64 (x*y))else if o=31 then sat (aal x y)else if o=32 then(if y=0 then 0 else sat (wI .i64 (x - wI .i64 (y*aal x y))))else if o=33 then sat (wI .i64 (x+y))else if o=34 then sat (wI .i64 (x - y))
 else if o=41 then Uc (decide (x≠0)&&decide (y≠0))else if o=42 then Uc (decide (x≠0)||decide (y≠0))else Uc (abY o x y)
theorem XU (f:Nat) (o x:Int):BY f o x=some (unD o x):=by
 unfold BY unD;split
 ·rfl
 ·rw[bN (wO f _)]
theorem Xu (f:Nat) (a b:Int):rV f a b=some (aal a b):=by
 unfold rV aal;by_cases c:b=0
 ·rw[if_pos c,if_pos c]
 ·rw[if_neg c,if_neg c,cO c,cO c];by_cases d:Int.tmod a b=0
  ·rw[if_neg (by simpa using d),if_neg (by simp[d])];rfl
  ·rw[if_pos d];unfold uO pW;by_cases e:((decide (a<0)) != (decide (b<0)))=true
   ·rw[if_pos e,if_pos ⟨d,e⟩]
   ·rw[if_neg e,if_neg (λq=>e q.2)]
theorem abZ (f:Nat) (o x y:Int):wW f o x y=some (abY o x y):=by
 unfold wW abY
 repeat' split
 all_goals rfl
theorem Ud (f:Nat) (o x y:Int):AO f o x y=some (biD o x y):=by
 unfold AO biD;by_cases h:o=30
 ·rw[if_pos h,if_pos h];rfl
 rw[if_neg h,if_neg h];by_cases h:o=31
 ·rw[if_pos h,if_pos h,bN (Xu f x y)];rfl
 rw[if_neg h,if_neg h];by_cases h:o=32
 ·rw[if_pos h,if_pos h];by_cases b:y=0
  ·rw[if_pos b,if_pos b]
  ·rw[if_neg b,if_neg b,bN (Xu f x y)];rfl
 rw[if_neg h,if_neg h];by_cases h:o=33
 ·rw[if_pos h,if_pos h];rfl
 rw[if_neg h,if_neg h];by_cases h:o=34
 ·rw[if_pos h,if_pos h];rfl
 rw[if_neg h,if_neg h];by_cases h:o=41
 ·rw[if_pos h,if_pos h];by_cases a:x=0
  ·rw[if_neg (by simpa using a),bN (wO f _)];simp[a,pU]
  ·rw[if_pos a,bN (wO f _)];simp[a,pU]
 rw[if_neg h,if_neg h];by_cases h:o=42
 ·rw[if_pos h,if_pos h];by_cases a:x=0
  ·rw[if_neg (by simpa using a),bN (wO f _)];simp[a,pV]
  ·rw[if_pos a,bN (wO f _)];simp[a,pV]
 rw[if_neg h,if_neg h,bN (abZ f o x y),bN (wO f _)]
def E.den (L:Int->Int->Int->Int) (b:Nat):E->Int->Int
 |lf o a,p=>L o a p
 |un o x,p=>unD o (x.den L b p)
 |ag o x,_=>KR o ((List.range b).map λq=>x.den L b ((q:Nat):Int))
 |bi o x y,p=>biD o (x.den L b p) (y.den L b p)
 |ite x y z,p=>if x.den L b p≠0 then y.den L b p else z.den L b p
def E.wf (c:Nat):Bool->E->Bool
 |b,lf o a=>decide (1<=o)&&decide (o<=17)&&(b||decide (o<=10))&&((decide (o≠5)&&decide (o≠12))||(decide (0<=a)&&decide (a<(c:Int))))
 |b,un o x=>decide (18<=o)&&decide (o<=19)&&x.wf c b
 |_,ag o x=>(decide (o=20)||decide (o=21)||decide (o=22)||decide (o=23)||decide (o=24)||decide (o=26)||decide (o=27))&&x.wf c true
 |b,bi o x y=>decide (30<=o)&&decide (o<=42)&&x.wf c b&&y.wf c b
 |b,ite x y z=>x.wf c b&&y.wf c b&&z.wf c b
theorem Yp {i:Nat}:∀{e:E} {b:Bool},e.wf i b=true->e.arOk=true:=by
 intro e
 induction e with
 |lf o a=>intro b h;simp[E.wf,E.arOk]at h ⊢;omega
 |un o x f=>intro b h;simp[E.wf,E.arOk]at h ⊢;exact⟨h.1,f h.2⟩
 |ag o x f=>intro b h;simp[E.wf,E.arOk]at h ⊢;exact⟨by omega,f h.2⟩
 |bi o x y c d=>intro b h;simp[E.wf,E.arOk]at h ⊢;exact⟨⟨h.1.1,c h.1.2⟩,d h.2⟩
 |ite x y z c d g=>intro b h;simp[E.wf,E.arOk]at h ⊢;exact⟨⟨c h.1.1,d h.1.2⟩,g h.2⟩
def Xe (W:WLK) (p:Int):Int:=(at' (at' W.1.2.1.2 W.2.2.1) p).1
def lfD (W:WLK) (o a p:Int):Int:=
 if o=1 then a else if o=2 then 1 else if o=3 then 0 else if o=4 then -1 else if o=5 then at' (at' W.2.1 W.2.2.1) a else if o=12 then at' (at' W.2.1 (Xe W p)) a
 else if o=6 then(W.1.2.1.1.length:Int)else if o=7 then W.1.2.2.1 else if o=8 then at' W.1.2.1.1 W.2.2.1 else if o=9 then((at' W.1.2.1.2 W.2.2.1).length:Int)else if o=10 then Uc (decide (W.2.2.1=0))else if o=11 then p
 else if o=13 then at' W.1.2.1.1 (Xe W p)else if o=14 then((at' W.1.2.1.2 (Xe W p)).length:Int)else if o=15 then Uc (decide (Xe W p=0))else if o=16 then(at' (at' W.1.2.1.2 W.2.2.1) p).2 else at' (at' W.1.2.2.2 W.2.2.1) p
structure WOk (W:WLK) (nv n v:Nat):Prop where
 node:W.2.2.1=(v:Int)
 lt:v<n
 ports:W.1.2.1.2.length=n
 ids:W.1.2.1.1.length=n
 c:W.2.1.length=n
 row:∀u:Nat,u<n->(at' W.2.1 (u:Int)).length=nv
 to:∀u:Nat,u<n->∀i:Nat,i<(at' W.1.2.1.2 (u:Int)).length->0<=(at' (at' W.1.2.1.2 (u:Int)) (i:Int)).1∧(at' (at' W.1.2.1.2 (u:Int)) (i:Int)).1<(n:Int)
 bl:W.1.2.2.2.length=n
 br:∀u:Nat,u<n->(at' W.1.2.2.2 (u:Int)).length=(at' W.1.2.1.2 (u:Int)).length
def Vt (b:Bool) (a:Nat) (p:Int):Prop:=b=true->∃q:Nat,p=(q:Int)∧q<a
theorem Z_ {W:WLK} {k n v:Nat} (h:WOk W k n v) (f:Nat) {b:Bool} {o a p:Int} (s:(E.lf o a).wf k b=true) (r:Vt b (at' W.1.2.1.2 (v:Int)).length p):mQ f W (o,a) p=some (lfD W o a p):=by
 obtain⟨y,c,A,B,C,l,m,F,w⟩:=h;simp only[E.wf,zA7,zB6,zAb]at s;obtain⟨⟨⟨G,H⟩,d⟩,I⟩:=s;have z:(at' W.2.1 (v:Int)).length=k:=l v c;unfold mQ lfD Xe;dsimp only;rw[y];by_cases e:o=1
 ·simp only[if_pos e]
 simp only[if_neg e];by_cases e:o=2
 ·simp only[if_pos e]
 simp only[if_neg e];by_cases e:o=3
 ·simp only[if_pos e]
 simp only[if_neg e];by_cases e:o=4
 ·simp only[if_pos e]
 simp only[if_neg e];by_cases e:o=5
 ·simp only[if_pos e];rw[cO (by omega),cO (by omega)]
 simp only[if_neg e];by_cases e:o=12
 ·have i:b=true:=by
   rcases d with d|d
   ·exact d
   ·omega
  obtain⟨q,rfl,j⟩:=r i;have g:=m v c q j;obtain⟨u,x⟩:∃u:Nat,(at' (at' W.1.2.1.2 (v:Int)) (q:Int)).1=(u:Int):=⟨_,(Int.toNat_of_nonneg g.1).symm⟩
  simp only[if_pos e];rw[x]at g ⊢;have D:=l u (by omega);rw[cO (by omega),cO (by omega),cO (by omega),cO (by omega)]
 simp only[if_neg e];unfold tI;dsimp only;by_cases e:o=6
 ·simp only[if_pos e];rfl
 simp only[if_neg e];by_cases e:o=7
 ·simp only[if_pos e];rfl
 simp only[if_neg e];by_cases e:o=8
 ·simp only[if_pos e];rw[cO (by omega)];rfl
 simp only[if_neg e];by_cases e:o=9
 ·simp only[if_pos e];rw[cO (by omega)];rfl
 simp only[if_neg e];by_cases e:o=10
 ·simp only[if_pos e];rw[bN (wO f _)];rfl
 simp only[if_neg e];by_cases e:o=11
 ·simp only[if_pos e];rfl
 simp only[if_neg e];have i:b=true:=by
  rcases d with d|d
  ·exact d
  ·omega
 obtain⟨q,rfl,j⟩:=r i;have g:=m v c q j;rw[cO (by omega),cO (by omega)];by_cases e:o=13
 ·simp only[if_pos e];rw[cO (by omega)];rfl
 simp only[if_neg e];by_cases e:o=14
 ·simp only[if_pos e];rw[cO (by omega)];rfl
 simp only[if_neg e];by_cases e:o=15
 ·simp only[if_pos e];rw[bN (wO f _)];rfl
 simp only[if_neg e];by_cases e:o=16
 ·simp only[if_pos e];rfl
 simp only[if_neg e];have t:=w v c;rw[cO (by omega),cO (by omega)];rfl
theorem Yg {W:WLK} {nv n v:Nat} (h:WOk W nv n v) {deg:Nat} (m:(at' W.1.2.1.2 (v:Int)).length=deg) (L:deg<=24) (S:W.2.2.2.length<=800):
  ∀(e:E) (b:Bool) (c k:Nat) (p:Int) (g d:fP),W.2.2.2=g++(e.ts++d)->g.length=k->e.wf nv b=true->Vt b deg p->e.depth+850<=c->
   cN c W (k:Int) p=some (e.den (lfD W) deg p,(((k+e.ts.length:Nat)):Int)):=by
 obtain⟨Q,ab,h1,h2,h3,h4,h5,_,_⟩:=id h;have i:∀{t:gC} {l g d:fP} {k:Nat},W.2.2.2=g++((t::l)++d)->g.length=k->at' W.2.2.2 (k:Int)=t∧(k:Int)<(W.2.2.2.length:Int):=by
  intro t l g d k j r;refine⟨Sq (rest:=l++d) (by simpa using j) r,?_⟩
  rw[j];simp;omega
 intro e
 induction e with
 |lf o a=>
  intro b c k p g d j r u w B;obtain⟨c,rfl⟩:∃f,c=f+1:=⟨c - 1,by omega⟩
  obtain⟨A,s⟩:=i (l:=[]) j r;show eQ (cN c) c W (k:Int) p=_;unfold eQ;rw[cO ⟨by omega,s⟩,A];dsimp only;have X:=u;simp only[E.wf,zA7,zB6,zAb]at X;have hl:=Z_ h c u (m▸w);rw[if_pos (by omega),bN (show mQ c _ (o,a) p=some (lfD W o a p)from hl),dJ (by omega)];rfl
 |un o x ih=>
  intro b c k p g d j r u w B;obtain⟨c,rfl⟩:∃f,c=f+1:=⟨c - 1,by omega⟩
  obtain⟨A,s⟩:=i (l:=x.ts) j r;show eQ (cN c) c W (k:Int) p=_;unfold eQ;rw[cO ⟨by omega,s⟩,A];dsimp only;simp only[E.wf,zA7,zAb]at u;simp only[E.depth]at B;have F:=ih b c (k+1) p (g++[(o,0)]) d (by rw[j];simp[E.ts]) (by simp[r]) u.2 w (by omega);rw[if_neg (by omega),if_pos (by omega),dJ (by omega),bN (show cN c _ _ p=_ from F),bN (XU c _ _)];simp only[E.den,E.ts,zAf];rw[show k+1+x.ts.length=k+(x.ts.length+1) by omega]
 |bi o x y G H=>
  intro b c k p g d j r u w B;obtain⟨c,rfl⟩:∃f,c=f+1:=⟨c - 1,by omega⟩
  obtain⟨A,s⟩:=i (l:=x.ts++y.ts) j r;show eQ (cN c) c W (k:Int) p=_;unfold eQ;rw[cO ⟨by omega,s⟩,A];dsimp only;simp only[E.wf,zA7,zAb]at u;simp only[E.depth]at B;have F:=G b c (k+1) p (g++[(o,0)]) (y.ts++d) (by rw[j];simp[E.ts]) (by simp[r]) u.1.2 w (by omega);have Y:=H b c (k+1+x.ts.length) p (g++(o,0)::x.ts) d (by rw[j];simp[E.ts]) (by simp[r];omega) u.2 w (by omega);rw[if_neg (by omega),if_neg (by omega),if_neg (by omega),if_pos (by omega),dJ (by omega),bN (show cN c _ _ p=_ from F),bN (show cN c _ _ p=_ from Y),bN (Ud c _ _ _)];simp only[E.den,E.ts,zAf,zA9];rw[show k+1+x.ts.length+y.ts.length=k+(x.ts.length+y.ts.length+1) by omega]
 |ite x y z G H aa=>
  intro b c k p g d j r u w B;obtain⟨c,rfl⟩:∃f,c=f+1:=⟨c - 1,by omega⟩
  obtain⟨A,s⟩:=i (l:=x.ts++(y.ts++z.ts)) j r;show eQ (cN c) c W (k:Int) p=_;unfold eQ;rw[cO ⟨by omega,s⟩,A];dsimp only;simp only[E.wf,zA7]at u;simp only[E.depth]at B;have F:=G b c (k+1) p (g++[(43,0)]) (y.ts++z.ts++d) (by rw[j];simp[E.ts]) (by simp[r]) u.1.1 w (by omega);have Y:=H b c (k+1+x.ts.length) p (g++(43,0)::x.ts) (z.ts++d) (by rw[j];simp[E.ts]) (by simp[r];omega) u.1.2 w (by omega);have hz:=aa b c (k+1+x.ts.length+y.ts.length) p (g++(43,0)::(x.ts++y.ts)) d (by rw[j];simp[E.ts]) (by simp[r];omega) u.2 w (by omega);rw[if_neg (by decide),if_neg (by decide),if_neg (by decide),if_neg (by decide),dJ (by omega),bN (show cN c _ _ p=_ from F),bN (show cN c _ _ p=_ from Y),bN (show cN c _ _ p=_ from hz)];simp only[E.den,E.ts,zAf,zA9];rw[show k+1+x.ts.length+y.ts.length+z.ts.length=k+(x.ts.length+(y.ts.length+z.ts.length)+1) by omega];split<;>rfl
 | ag o x ih =>
  intro b c k p g d j r u w B;obtain⟨c,rfl⟩:∃f,c=f+1:=⟨c - 1,by omega⟩
  obtain⟨A,s⟩:=i (l:=x.ts) j r;have T:=Yp u;have R:=u;simp only[E.wf,zA7,zB6,zAb]at R;simp only[E.depth]at B;have P:(E.ag o x).ts.length=x.ts.length+1:=rfl;have M:=congrArg List.length j;simp only[zA9]at M;show eQ (cN c) c W (k:Int) p=_;unfold eQ;rw[cO ⟨by omega,s⟩,A];dsimp only;rw[if_neg (by omega),if_neg (by omega),if_pos (by omega),cO (by omega)];let D:Nat->Int:=λq=>x.den (lfD W) deg ((q:Nat):Int);let V:Nat->cC:=λq=>(List.range q).map D++List.replicate (24 - q) 0;have J:∀q,q<=24->(V q).length=24:=λq U=>by simp[V];omega
  have O:∀q,q<24->(V q).set q (D q)=V (q+1):=λq U=>by
   show((List.range q).map D++List.replicate (24 - q) 0).set q (D q)=(List.range (q+1)).map D++List.replicate (24 - (q+1)) 0;rw[show 24 - q=(24 - (q+1))+1 by omega,List.replicate_succ,List.set_append_right _ _ (by simp),List.range_succ];simp
  let N:Nat->Int:=λq=>if q=0 then 0 else(((k+1+x.ts.length:Nat)):Int)
  refine Eq.trans (dO (step:=lG c W (k:Int) (cN c)) (K:=some ((E.ag o x).den (lfD W) deg p,(((k+(E.ag o x).ts.length:Nat)):Int))) deg (λq=>(N q,(q:Int),V q)) (λq ag U=> ?_) (λag=> ?_) c (by omega)) Z
  ·unfold lG;dsimp only;have F:=ih true c (k+1) ((q:Nat):Int) (g++[(o,0)]) d (by rw[j];simp[E.ts]) (by simp[r]) R.2 (λ_=>⟨q,rfl,U⟩) (by omega);rw[if_pos (by rw[Q,m];omega),dJ (by omega),bN (show cN c _ _ _=_ from F),cO ⟨by omega,J q (by omega)⟩,dJ (by omega),zAe];show ag (_,_,(V q).set q (D q))=_;rw[O q (by omega)];simp only[N];rw[if_neg (by omega)]
  ·unfold lG;dsimp only;rw[if_neg (by rw[Q,m];omega)];have C:List.take deg (V deg)=(List.range deg).map D:=by
    show List.take deg ((List.range deg).map D++_)=_;exact List.take_left' (by simp)
   have I:∀y:Int,y=(((k+1+x.ts.length:Nat)):Int)->lF c W (k:Int) (N deg,V deg) y=some ((E.ag o x).den (lfD W) deg p,(((k+(E.ag o x).ts.length:Nat)):Int)):=by
    rintro y rfl;unfold lF;dsimp only;rw[Q,m,cO ⟨by omega,by omega,by rw[J deg L];omega⟩,A,zAe,C,bN (ZL c o _ (by omega) (by simp;omega) (by omega))];unfold nW;rw[P,show k+1+x.ts.length=k+(x.ts.length+1) by omega];rfl
   unfold sH;dsimp only;by_cases h0:deg=0
   ·rw[if_pos (by rw[Q,m];omega),bN (acb c (E.ag o x) T j r S (by omega))];exact I _ (by rw[P];omega)
   ·rw[if_neg (by rw[Q,m];omega)];exact I _ (by simp only[N];rw[if_neg h0])
end Go.Proofs.YtflciafboapaaaaGreat
namespace Go.Proofs.YtflciafboapaaaaGreat
open Go.Sx
def iW (U:Nat) (a:UQ) (b:bV) (c:Int) (d:fP):Option (Int):=
 Option.bind (cN U ((((((a.1.1,a.1.2.1,a.1.2.2)),((a.2.1.1,a.2.1.2)),a.2.2.1,a.2.2.2)),b,c,d)) (0:Int) (-1:Int)) λe=>(some (e.1))
theorem Sy:bD Tryz.prog 172:=Tryz.call172
theorem Ai (U:Nat) {d:UQ} {s:bV} {f:Int} {t:fP} (a:Nat)  (m:Value)  (n:Value)  (o:Value)  (p:Value)  (u:kY)  (q:Value)  (v:mR)  (e:Value)  (y:mR)  (b:Value) (r:Int) (h:iW U d s f t=some r):
  bG Tryz.prog 172 #[vP a,e,vI (f),b] [bO a [vS (d.1.1),m,n,o,p,vI (d.2.2.1),q] 206,Sl aG m d.1.2.1,Sl aF n d.1.2.2,Sl aP o d.2.1.1,S2 bA p u d.2.1.2,S2 aP q v d.2.2.2,S2 aP e y s,Sl bA b t] (λx:Unit=>vI (r)) (λx l=>l) (λ_ l=>l):=by
 refine bG.of Tryz.func172 Z Tryz.ntmps172 Z λc=>?_;refine aX<|aD Z<|aQ<|aX<|aB Z<|aB Z<|aB Z<|aB Z<|bB (Know.one (aA.sl (aA.fact 6 Z))) λg=>bB (Know.one ((aA.fact 7 Z))) λi=>?_;refine aC (Vx (r:=Value.agg #[Value.pointer (some ⟨a,0,none⟩),e,vI (f),b]) Z Z Z Z (by intro w;simp[Instr.build,Instr.fill,fY,fD,eL,fZ,f_,fE,h_,eR g,eR i])) Z ?_;refine aM (aS.alloc (cs:=[Value.pointer none,cY,vI (0:Int),cY]) Z Z) Z λz=>bB (Know.one (aA.sl (aA.fact 6 Z))) λj=>bB (Know.one ((aA.fact 7 Z))) λk=>cA 0 (vs:=[vP a,e,vI (f),b]) Z Z (eZ Z (eZ j (eZ Z (eZ k Z)))) Z Z Z<|aQ<|aX<|eO h λA B h=>aM (zBa C_ (FJ U z a m n o p u q v e y b A B) Z (aI.cons (aA.res 0 Z) (iD [0,1,2,3,4,5,6,7] Z))) Z λC=>aB Z<|iG Z<|iG Z<|aD Z<|aD Z<|aQ<|aX<|aB Z<|aD Z<|aQ<|aT ?_;cases h;exact lY Z
def lK (U:Nat) (a:UQ) (c:bV) (d:Int) (b:Int):Option Bool:=
 ck (0<=b∧b<(a.1.2.2.length:Int)) (Option.bind (iW U ((((a.1.1,a.1.2.1,a.1.2.2)),((a.2.1.1,a.2.1.2)),a.2.2.1,a.2.2.2)) c d ((at' a.1.2.2 b).2.1.2)) λe=>(some (decide (e≠(0:Int)))))
theorem YX:bD Tryz.prog 165:=Tryz.call165
theorem Fb (U:Nat) {a:UQ} {n:bV} {o:Int} {e:Int} (b:Nat)  (f:Value)  (g:Value)  (i:Value)  (j:Value)  (p:kY)  (k:Value)  (q:mR)  (m:Value)  (s:mR) (r:Bool) (h:lK U a n o e=some r):
  bG Tryz.prog 165 #[vP b,m,vI (o),vI (e)] [bO b [vS (a.1.1),f,g,i,j,vI (a.2.2.1),k] 206,Sl aG f a.1.2.1,Sl aF g a.1.2.2,Sl aP i a.2.1.1,S2 bA j p a.2.1.2,S2 aP k q a.2.2.2,S2 aP m s n] (λx:Unit=>vB (r)) (λx l=>l) (λ_ l=>l):=by
 refine bG.of Tryz.func165 Z Tryz.ntmps165 Z λc=>?_;refine aX<|aD Z<|aQ<|aX<|aB Z<|aB Z<|aB Z<|aB Z<|aC (bU Z) Z<|bX Z<|bX Z<|aC (fX Z (aA.fact 0 Z) Z Z Z) Z<|aB Z<|cQ h λd h=>aC (bI Z Z (aA.fact 2 Z) Z Z d) Z<|aC (dX Z Z Z Z Z) Z<|aC (fI Z (aA.fact 2 Z) Z Z Z sI d) Z<|eO h λt u h=>aM (zBa Sy (Ai U b f g i j p k q m s ((at' a.1.2.2 e).2.1.1) t u) Z (aI.cons (aA.fact 0 Z) (aI.cons (aA.fact 1 Z) (aI.cons (aA.fact 2 Z) (aI.cons (aA.fact 3 Z) (aI.cons (aA.fact 4 Z) (aI.cons (aA.fact 5 Z) (aI.cons (aA.fact 6 Z) (aI.cons (jS (aA.fact 2 Z) sK d.1 d.2) .nil))))))))) Z λv=>kA Z<|aD Z<|aQ<|aT ?_;cases h;exact iJ Z
def nY  (a:Unit):Option (Int):=
 some (-1:Int)
def lI (U:Nat) (a:UP) (d:bV) (e:Int) (b:Int) (c:(Int)->Option (Int)):Option (Int):=
 if b<(a.1.2.2.length:Int)then(Option.bind (lK U ((((a.2.1.1.1,a.2.1.1.2.1,a.2.1.1.2.2)),((a.2.1.2.1.1,a.2.1.2.1.2)),a.2.1.2.2.1,a.2.1.2.2.2)) d e b) λf=>(if f=true then(some (b))else(c (wI .i64 (b+(1:Int))))))else(nY  (()))
def fS (U:Nat) (a:UP) (b:bV) (c:Int):Option (Int):=
 bP (lI U a b c) U (0:Int)
theorem Nw:bD Tryz.prog 102:=Tryz.call102
theorem uF (U:Nat) {p0:UP} {p1:bV} {p2:Int} (b:Nat)  (v:Value)  (w:Value)  (d:Nat)  (k:Value)  (m:Value)  (n:Value)  (o:Value)  (y:kY)  (p:Value)  (f:mR)  (e:Value)  (s:kY)  (a:Value)  (g:mR) (r:Int) (h:fS U p0 p1 p2=some r):
  bG Tryz.prog 102 #[vP b,a,vI (p2)] [bO b [vS (p0.1.1),v,w,vP d,e] 157,Sl aG v p0.1.2.1,Sl aF w p0.1.2.2,bO d [vS (p0.2.1.1.1),k,m,n,o,vI (p0.2.1.2.2.1),p] 206,Sl aG k p0.2.1.1.2.1,Sl aF m p0.2.1.1.2.2,Sl aP n p0.2.1.2.1.1,S2 bA o y p0.2.1.2.1.2,S2 aP p f p0.2.1.2.2.2,S2 bA e s p0.2.2,S2 aP a g p1] (λx:Unit=>vI (r)) (λx l=>l) (λ_ l=>l):=by
 refine bG.of Tryz.func102 Z Tryz.ntmps102 Z λc=>?_;unfold fS at h;refine aX<|aD Z<|aQ<|aN<|eG (λi=>nY  i=some r) (λi t=>[]) (λi t=>[]) ?_ ?_
 ·refine aX<|aB Z<|aC (bU Z) Z<|bX Z<|bX Z<|aC (fX Z (aA.fact 0 Z) Z Z Z) Z<|jM (aA.fact 2 Z) Z<|aB Z<|aQ<|aW<|fJ (lI U p0 p1 p2) (λj u=>[(0,vP b),(1,a),(2,vI (p2)),(13,vI (p0.1.2.2.length:Int)),(14,vI (j))]) (λj u=>[]) (0:Int) () h SF (a_.refl _) ?_;intro B j u h;refine aX<|cX Z<|aQ<|aN ?_;refine eJ h Z (λh=>?_) λh=>?_
  ·refine cK<|aN<|aW<|aX<|aB Z<|aD Z<|aQ<|aX<|aB Z<|aC (bU Z) Z<|bX Z<|aC (fX Z (aA.fact 0 Z) Z Z Z) Z<|aB Z<|aB Z<|aB Z<|eO h λz q h=>aM (zBa YX (Fb U d k m n o y p f a g z q) Z (iD [3,4,5,6,7,8,10] Z)) Z λA=>aQ ?_;refine qS h Z (λ_ h=>?_) λ_ h=>?_
   ·refine aX<|aB Z<|aD Z<|aQ<|aT<|bF<|aJ<|aJ<|bF<|aJ ?_;cases h;exact iJ Z
   refine eC<|lJ<|aU<|cW Z<|aB Z<|aQ ?_;exact vT (wI .i64 (j+(1:Int))) () h SF Z
  refine fF ?_;exact gJ () (()) h SF Z
 intro i t h;unfold nY at h;refine aX<|aD Z<|aQ<|aT ?_;cases h;exact iJ Z
def wR (d:Int) (a:gC) (b:Int) (c:Bool):Option (Int):=
 if c=true then(some (b))else(if d=(3:Int)then(some (-1:Int))else(if b<a.1 then(some (a.1))else(some (a.2))))
def yI (U:Nat) (c:Int) (a:gC) (b:Int):Option (Int):=
 if a.1<=b then(wR c a b (decide (b<=a.2)))else(wR c a b (false))
theorem Y_:bD Tryz.prog 173:=Tryz.call173
theorem Lo (U:Nat) {e:Int} {a:gC} {d:Int} (r:Int) (h:yI U e a d=some r):
  bG Tryz.prog 173 #[vI (e),Value.agg #[vI (a.1),vI (a.2)],vI (d)] [] (λx:Unit=>vI (r)) (λx l=>l) (λ_ l=>l):=by
 refine bG.of Tryz.func173 Z Tryz.ntmps173 Z λc=>?_;refine aX<|aM (aS.box (cs:=[vI (a.1),vI (a.2)]) Z Z) Z λf=>aD Z<|aQ<|aN<|aW<|aN<|eG (λb=>wR e a d b=some r) (λb g=>[(0,vI (e)),(2,vI (d)),(4,vP f),(7,vB (b))]) (λb g=>[bO f [vI (a.1),vI (a.2)] 138]) ?_ ?_
 ·refine aU<|aB Z ?_;refine aC (pA (i:=0) Z Z Z Z Z (by decide)) Z ?_;refine dU 0 Z<|aC (tC Z Z) Z<|aB Z ?_;refine AL h Z (λ_ h=>?_) λ_ h=>?_
  ·refine dH Z ?_;refine aR Z (pA (i:=1) Z Z Z Z Z (by decide)) Z ?_;refine aR Z (dQ 0 Z Z Z Z Z) Z<|aR Z (BM Z Z) Z<|dG Z<|aD Z<|aQ ?_;exact gJ (decide (d<=a.2)) () h SF Z
  refine aK Z<|aK Z<|aK Z<|aK Z<|dR Z<|aD Z<|aQ ?_;exact gJ (false) () h SF Z
 intro b g h;refine qS h Z (λ_ h=>?_) λ_ h=>?_
 ·refine aX<|aB Z<|aD Z<|aQ<|aT<|bF<|aJ ?_;cases h;exact lY Z
 refine aX<|aB Z<|cI Z<|aD Z<|aQ ?_;refine eJ h Z (λh=>?_) λh=>?_
 ·refine aX<|aD Z<|aQ<|aT<|bF<|aJ ?_;cases h;exact lY Z
 refine aX<|aB Z ?_;refine aC (pA (i:=0) Z Z Z Z Z (by decide)) Z ?_;refine dU 0 Z<|cX Z<|aD Z<|aQ ?_;refine eJ h Z (λh=>?_) λh=>?_
 ·refine aX ?_;refine aC (pA (i:=0) Z Z Z Z Z (by decide)) Z ?_;refine dU 0 Z<|aD Z<|aQ<|aT<|bF<|aJ ?_;cases h;exact lY Z
 refine eC<|lJ<|aX ?_;refine aC (pA (i:=1) Z Z Z Z Z (by decide)) Z ?_;refine dU 0 Z<|aD Z<|aQ<|aT ?_;cases h;exact lY Z
def nX  (a:cC):Option cC:=
 some (a)
def lH (U:Nat) (b:UP) (h:bV) (d:Int) (c:Int) (a:Int×cC) (e:(Int×cC)->Option cC):Option cC:=
 if a.1<(((at' b.1.2.2 c).2.2.2).length:Int)then(ck (0<=a.1∧a.1<(((at' b.1.2.2 c).2.2.2).length:Int)) (Option.bind (iW U ((((b.2.1.1.1,b.2.1.1.2.1,b.2.1.1.2.2)),((b.2.1.2.1.1,b.2.1.2.1.2)),b.2.1.2.2.1,b.2.1.2.2.2)) h d ((at' ((at' b.1.2.2 c).2.2.2) a.1).2.2)) λf=>(ck (0<=((at' ((at' b.1.2.2 c).2.2.2) a.1).1)∧((at' ((at' b.1.2.2 c).2.2.2) a.1).1)<(b.1.2.1.length:Int)) (ck (0<=d∧d<(b.2.2.length:Int)) (ck (0<=((at' ((at' b.1.2.2 c).2.2.2) a.1).1)∧((at' ((at' b.1.2.2 c).2.2.2) a.1).1)<((at' b.2.2 d).length:Int)) (Option.bind (yI U ((at' b.1.2.1 ((at' ((at' b.1.2.2 c).2.2.2) a.1).1)).2.1) ((((at' (at' b.2.2 d) ((at' ((at' b.1.2.2 c).2.2.2) a.1).1)).1),((at' (at' b.2.2 d) ((at' ((at' b.1.2.2 c).2.2.2) a.1).1)).2))) f) λg=>(ck (0<=((at' ((at' b.1.2.2 c).2.2.2) a.1).1)∧((at' ((at' b.1.2.2 c).2.2.2) a.1).1)<(a.2.length:Int)) (e ((wI .i64 (a.1+(1:Int))),(List.set a.2 (Int.toNat ((at' ((at' b.1.2.2 c).2.2.2) a.1).1)) g))))))))))else(nX  (a.2))
def mE (U:Nat) (d:UP) (b:bV) (a:Int) (c:Int):Option cC:=
 ck (0<=a∧a<(b.length:Int)) (ck ((List.length ([]:cC):Int)+((at' b a).length:Int)<=1099511627) (ck (0<=c∧c<(d.1.2.2.length:Int)) (bP (lH U d b a c) U ((0:Int),(([]:cC)++(at' b a))))))
theorem YS:bD Tryz.prog 123:=Tryz.call123
theorem FK (U:Nat) {p0:UP} {p1:bV} {p2:Int} {n:Int} (i:Nat)  (O:Value)  (P:Value)  (j:Nat)  (E:Value)  (F:Value)  (G:Value)  (H:Value)  (Q:kY)  (I:Value)  (A:mR)  (y:Value)  (M:kY)  (g:Value)  (B:mR) (r:cC) (h:mE U p0 p1 p2 n=some r):
  bG Tryz.prog 123 #[vP i,g,vI (p2),vI (n)] [bO i [vS (p0.1.1),O,P,vP j,y] 157,Sl aG O p0.1.2.1,Sl aF P p0.1.2.2,bO j [vS (p0.2.1.1.1),E,F,G,H,vI (p0.2.1.2.2.1),I] 206,Sl aG E p0.2.1.1.2.1,Sl aF F p0.2.1.1.2.2,Sl aP G p0.2.1.2.1.1,S2 bA H Q p0.2.1.2.1.2,S2 aP I A p0.2.1.2.2.2,S2 bA y M p0.2.2,S2 aP g B p1] (λx:Value=>x) (λx l=>Ar iF x r::l) (λ_ l=>l):=by
 let k:=(at' p0.1.2.2 n)
 refine bG.of Tryz.func123 Z Tryz.ntmps123 Z λc=>?_;refine aX<|aD Z<|aQ<|aX<|aB Z<|aB Z<|cQ h λC h=>aC (bH Z Z (aA.fact 10 Z) Z Z C) Z<|aC (bS Z (aA.fact 10 Z) Z Z C) Z<|cD (iM iF)<|cQ h λS h=>aM (jZ 0 iH Z Z Z (zBb (aA.fact 10 Z) C.1 C.2) Z Z Z Z S Z) Z λw=>aD Z<|aQ<|aN<|eG (λo=>nX  o=some r) (λo N=>[(9,w)]) (λo N=>[Ar iF w o]) ?_ ?_
 ·refine aX<|aB Z<|aC (bU Z) Z<|bX Z<|bX Z<|aC (fX Z (aA.fact 0 Z) Z Z Z) Z<|aB Z<|cQ h λe h=>aC (bI Z Z (aA.fact 2 Z) Z Z e) Z<|aC (dX Z Z Z Z Z) Z<|aC (fI Z (aA.fact 2 Z) Z Z Z sJ e) Z<|aC (fG Z (jS (aA.fact 2 Z) cP e.1 e.2) Z) Z<|aB Z<|aQ<|aW<|fJ (lH U p0 p1 p2 n) (λa p=>[(0,vP i),(1,g),(2,vI (p2)),(9,w),(26,k.2.2.1),(27,vI ((k.2.2.2).length:Int)),(28,vI (a.1))]) (λa p=>[Ar iF w a.2]) ((0:Int),(([]:cC)++(at' p1 p2))) () h SF (a_.refl _) ?_;intro T a p h;let f:=(at' (k.2.2.2) a.1)
  let v:=(at' (at' p0.2.2 p2) (f.1))
  refine aX<|cX Z<|aQ<|aN ?_;refine eJ h Z (λh=>?_) λh=>?_
  ·refine cK<|aN<|aW<|aX<|cQ h λb h=>aC (bI Z Z (jS (aA.fact 2 Z) cP e.1 e.2) Z Z b) Z<|aC (QK (cs:=[vI (f.1),f.2.1]) Z (jS (aA.fact 2 Z) cP e.1 e.2) LM Z Z Z Z b) Z<|aM (aS.alloc (cs:=[vI (0:Int),cY]) Z Z) Z λR=>bB (Know.one ((jS (jS (aA.fact 2 Z) cP e.1 e.2) BA b.1 b.2))) λq=>cA 0 (vs:=[vI ((at' ((at' p0.1.2.2 n).2.2.2) a.1).1),(at' ((at' p0.1.2.2 n).2.2.2) a.1).2.1]) Z Z (eZ Z (eZ q Z)) Z Z Z<|aQ<|aN ?_;refine JR.start [0,1,3,7,0,0,0,64,255,511] 8 mixedOrders (by decide +kernel) ?_;refine zBc (by exact rfl) ?_;refine aV Z<|e_ Z (bU Z)<|cB Z<|bE Z .nil (fW 0 Z) (fX Z (aA.fact 0 Z) Z Z Z) aO.z<|aV Z<|aV Z<|cB Z<|eI 0 Z<|bM 8 Z Z<|eO h λD J h=>aM (zBa Sy (Ai U j E F G H Q I A g B (f.2.1) D J) Z (aI.cons (aA.fact 3 Z) (aI.cons (aA.fact 4 Z) (aI.cons (aA.fact 5 Z) (aI.cons (aA.fact 6 Z) (aI.cons (aA.fact 7 Z) (aI.cons (aA.fact 8 Z) (aI.cons (aA.fact 10 Z) (aI.cons (jS (jS (aA.fact 2 Z) cP e.1 e.2) BA b.1 b.2) .nil))))))))) Z λV=>aD Z<|aQ ?_;refine JR.start [0,0,2,0,8,24,56,120,0,256,1016,2040,4088,0,8192,24576,57344,0,253952,516096,0,1048576,4186112,8380416,0,33554424,67108863,134217727] 26 mixedOrders (by decide +kernel) ?_;refine zBc (by exact rfl) ?_;refine aV Z<|cB Z<|eI 0 Z<|aV Z<|e_ Z (bU Z)<|cB Z<|cB Z<|bE Z .nil (fW 0 Z) (fX Z (aA.fact 0 Z) Z Z Z) aO.z<|cB Z<|eI 0 Z<|cQ h λs h=>bE Z .nil (fW 1 Z) (bI Z Z (aA.fact 0 Z) Z Z s) aO.z<|e_ Z (dX Z Z Z Z Z)<|bE Z .nil (fW 1 Z) (fI Z (aA.fact 0 Z) Z Z Z nV s) aO.z<|aV Z<|e_ Z (bU Z)<|cB Z<|bE Z .nil (fW 0 Z) (fX Z (aA.fact 0 Z) Z Z Z) aO.z<|aV Z<|cQ h λd h=>bE Z .nil (fW 9 Z) (bH Z Z (aA.fact 0 Z) Z Z d) aO.z<|bE Z .nil (fW 9 Z) (bS Z (aA.fact 0 Z) Z Z d) aO.z<|cB Z<|eI 0 Z<|cQ h λt h=>bE Z .nil (fW 9 Z) (bI Z Z (zBb (aA.fact 0 Z) d.1 d.2) Z Z t) aO.z<|bE Z .nil (fW 9 Z) (gM (cs:=[vI (v.1),vI (v.2)]) Z (zBb (aA.fact 0 Z) d.1 d.2) cF Z Z Z Z t) aO.z<|aV Z<|eO h λm K h=>zBd Z Z Z (zBa Y_ (Lo U  m K) Z .nil) Z (λL=>(pB [([0],[])] Z)) λL=>bM 26 Z Z<|cQ h λu h=>aC (bI Z Z (dM (aA.res 1 Z) iH) Z Z u) Z<|OS 1 m u Z Z Z Z Z Z Z<|fU<|lJ<|aU<|cW Z<|aB Z<|aQ ?_;exact kG ((wI .i64 (a.1+(1:Int))),(List.set a.2 (Int.toNat (f.1)) m)) () h SF (a_.ix [1] Z Z) (aI.refl _ _)
  refine fF ?_;exact gJ (a.2) () h SF Z
 intro o N h;unfold nX at h;refine aX<|aB Z<|aD Z<|aQ<|aT ?_;cases h;exact pL (w) Z Z (RV.tmp Z) (a_.refl _) aI.nil
end Go.Proofs.YtflciafboapaaaaGreat
namespace Go.Proofs.YtflciafboapaaaaGreat
open Go Go.Sx
abbrev RL:=E×List (Nat×E)
abbrev Ks:=Ee×GR×Int×bV
def Aw (R:List RL):Na:=R.map λr=>(r.1.ts,r.2.map λs=>((s.1:Int),s.2.ts))
def MC (a:Nat) (e:E):Bool:=e.wf a false&&decide (e.depth<=100)&&decide (e.ts.length<=800)
def kF (a:Nat) (R:List RL):Bool:=decide (R.length<=20)&&R.all λr=>MC a r.1&&decide (r.2.length<=20)&&r.2.all λs=>decide (s.1<a)&&MC a s.2
instance:Inhabited E:=⟨.lf 1 0⟩
def Sr (g:GR) (v i:Nat):Int:=AA (row g (jL (row g v) i).1.toNat) (v:Int)
def kK (g:GR):bV:=(List.range g.2.length).map λv=>(List.range (row g v).length).map (Sr g v)
def DG (S:Ks) (c:bV) (v:Nat) (e:E):Int:=e.den (lfD (S,c,(v:Int),[])) (row S.2.1 v).length (-1)
def sB (S:Ks) (R:List RL) (c:bV) (v:Nat):Int:=Co (R.map λr=>DG S c v r.1)
def Ft (a:Int) (b:gC) (x:Int):Int:=if b.1<=x∧x<=b.2 then x else if a=3 then -1 else if x<b.1 then b.1 else b.2
def JI (S:Ks) (a:List Fe) (c:bV) (v:Nat) (b:cC) (s:Nat×E):cC:=b.set s.1 (Ft (at' a (s.1:Int)).2.1 (pI S.2.1 a v s.1) (DG S c v s.2))
def MP (S:Ks) (a:List Fe) (R:List RL) (c:bV) (v:Nat) (i:Int):cC:=(at' R i).2.foldl (JI S a c v) (at' c (v:Int))
structure HL (g:GR) (nv:Nat) (c:bV):Prop where
 len:c.length=g.2.length
 row:∀v:Nat,v<g.2.length->(at' c (v:Int)).length=nv
theorem Yu.shape {g:GR} {c:bV} {a:List Fe} (h:Yu g c a):HL g a.length c:=⟨h.len,h.row⟩
section
variable {S:Ks} {nv:Nat} {c:List (List Int)} {v:Nat}
theorem wok (b:S.2.2.2=kK S.2.1) (d:VG S.2.1) (e:HL S.2.1 nv c) (h:v<S.2.1.2.length) (j:List (Int×Int)):WOk (S,c,(v:Int),j) nv S.2.1.2.length v:=by
 refine⟨rfl,h,rfl,d.len,e.len,e.row,λu a i g=> ?_,by show S.2.2.2.length=_;rw[b];simp[kK],λu a=>by
  show(at' S.2.2.2 (u:Int)).length=_;rw[b,kK,DU _ a,List.length_map,List.length_range]⟩
 obtain⟨w,k,f⟩:=d.to a g;show 0<=(jL (row S.2.1 u) i).1∧(jL (row S.2.1 u) i).1<_;rw[f];omega
theorem Qj (i:S.2.2.2=kK S.2.1) (a:VG S.2.1) (j:HL S.2.1 nv c) (f:v<S.2.1.2.length) {e:E} (b:MC nv e=true):iW 1000 S c (v:Int) e.ts=some (DG S c v e):=by
 simp only[MC,zA7,zAb]at b;have g:=a.n24;have d:=(a.node v f).deg;unfold iW;have:=Yg (wok i a j f e.ts) (deg:=(row S.2.1 v).length) Z (by omega) b.2 e false 1000 0 (-1) [] [] (by simp) Z b.1.1 (λh=>by cases h) (by omega);rw[bN (show cN 1000 _ (0:Int) (-1)=_ from this)];rfl
end
section
variable {p:Ee} {g:GR} {gr:Int} {R:List RL} {nv:Nat} {c:List (List Int)} {v:Nat}
theorem DT (a:p.2.2.map pK=Aw R):p.2.2.length=R.length:=by simpa [Aw]using congrArg List.length a
theorem Kd (b:p.2.2.map pK=Aw R) {i:Nat} (a:i<R.length):pK (at' p.2.2 (i:Int))=((at' R (i:Int)).1.ts,(at' R (i:Int)).2.map λs=>((s.1:Int),s.2.ts)):=by
 have d:=DT b;have:=congrArg (λq=>q[i]?) b;simp only[Aw,List.getElem?_map,zA2 a,zA2 (show i<p.2.2.length by omega),Option.map_some,Option.some.injEq]at this;rw[jU a,jU (show i<p.2.2.length by omega)];exact this
theorem Kg (a:kF nv R=true) {i:Nat} (b:i<R.length):MC nv (at' R (i:Int)).1=true∧(at' R (i:Int)).2.length<=20∧∀s∈(at' R (i:Int)).2,s.1<nv∧MC nv s.2=true:=by
 simp only[kF,zA7,zA5,zAb]at a;have:=a.2 (at' R (i:Int)) (by rw[jU b];exact List.getElem_mem b);exact⟨this.1.1,this.1.2,λs d=>this.2 s d⟩
theorem Tq (a:kF nv R=true):R.length<=20:=by
 simp only[kF,zA7,zAb]at a;exact a.1
theorem WO (f:VG g) (h:HL g nv c) (j:v<g.2.length) (b:p.2.2.map pK=Aw R) (d:kF nv R=true) {i:Nat} (a:i<R.length):lK 1000 (p,g,gr,kK g) c (v:Int) (i:Int)=some (nz (DG (p,g,gr,kK g) c v (at' R (i:Int)).1)):=by
 have k:=DT b;have e:(at' p.2.2 (i:Int)).2.1.2=(at' R (i:Int)).1.ts:=congrArg Prod.fst (Kd b a);unfold lK;dsimp only;rw[cO (by omega),e];rw[bN (show iW 1000 _ c (v:Int) _=_ from Qj (S:=(p,g,gr,kK g)) Z f h j (Kg d a).1)];rfl
theorem Og (z:VG g) (A:HL g nv c) (C:v<g.2.length) (w:p.2.2.map pK=Aw R) (s:kF nv R=true) (h:List (List (Int×Int))):fS 1000 (p,(p,g,gr,kK g),h) c (v:Int)=some (sB (p,g,gr,kK g) R c v):=by
 have E:=DT w;have y:=Tq s;let l:=R.map λr=>DG (p,g,gr,kK g) c v r.1;have B:l.length=R.length:=by simp[l]
 have o:∀i,i<R.length->at' l (i:Int)=DG (p,g,gr,kK g) c v (at' R (i:Int)).1:=λi t=>by
  rw[jU (by omega),jU t];simp[l]
 have b:∀(k:Nat) a,k<R.length->lI 1000 (p,(p,g,gr,kK g),h) c (v:Int) (k:Int) a=if nz (at' l (k:Int))=true then some (k:Int)else a (((k+1:Nat):Int)):=by
  intro k a d;unfold lI;dsimp only;rw[if_pos (by omega),bN (show lK 1000 _ c (v:Int) (k:Int)=_ from WO z A C w s d),o k d,dJ (by omega)]
 unfold fS sB;by_cases f:∃i,i<R.length∧at' l (i:Int)≠0
 ·obtain⟨i,t,x⟩:=f;obtain⟨m,D,q,n⟩:=ML (p:=λi=>at' l (i:Int)≠0) i x;have n:∀j,j<m->at' l (j:Int)=0:=λj u=>zAw.1 (n j u);rw[show Co _=(m:Int)from Dd (l:=l) (by omega) q n];exact dO (K:=some (m:Int)) m (λk=>(k:Int)) (λk a d=>by rw[b k a (by omega),if_neg (by simp[nz,n k d])]) (λa=>by rw[b m a (by omega),if_pos (by simpa [nz]using q)]) 1000 (by omega)
 ·have f:∀j,j<l.length->at' l (j:Int)=0:=λj u=>zAw.1 λe=>f ⟨j,by omega,e⟩;rw[show Co _=(-1:Int)from Dc (l:=l) f];exact dO (K:=some (-1)) R.length (λk=>(k:Int)) (λk a d=>by rw[b k a d,if_neg (by simp[nz,f k (by omega)])]) (λa=>by
   unfold lI nY;dsimp only;rw[if_neg (by omega)]) 1000 (by omega)
theorem Lj (S:Ks) (R:List RL) (c:List (List Int)) (v:Nat):sB S R c v = -1∨∃i:Nat,sB S R c v=(i:Int)∧i<R.length∧DG S c v (at' R (i:Int)).1≠0:=by
 let l:=R.map λr=>DG S c v r.1;by_cases h:∃i,i<l.length∧at' l (i:Int)≠0
 ·obtain⟨i,n,k⟩:=h;obtain⟨m,o,f,a⟩:=ML (p:=λi=>at' l (i:Int)≠0) i k;have a:∀j,j<m->at' l (j:Int)=0:=λj b=>zAw.1 (a j b);have d:m<R.length:=by simp[l]at n;omega
  refine .inr ⟨m,Dd (l:=l) (by omega) f a,d,?_⟩;have:at' l (m:Int)=DG S c v (at' R (m:Int)).1:=by rw[jU (by simpa [l]using d),jU d];simp[l]
  rw[<-this];exact f
 ·exact .inl (Dc (l:=l) λj b=>zAw.1 λe=>h ⟨j,b,e⟩)
end
theorem Wb (f:Nat) (k:Int) (b:gC) (x:Int):yI f k b x=some (Ft k b x):=by
 unfold yI wR Ft;by_cases a:b.1<=x
 ·by_cases c:x<=b.2
  ·simp only[a,c,and_self,if_true,decide_true]
  ·simp only[a,c,and_false,if_true,if_false,decide_false,Bool.false_eq_true];split
   ·rfl
   ·split<;>rfl
 ·simp only[a,false_and,if_false,Bool.false_eq_true];split
  ·rfl
  ·split<;>rfl
theorem PX {S:Ks} {a:List Fe} {c:bV} {v:Nat} (l:List (Nat×E)) (b:cC):(l.foldl (JI S a c v) b).length=b.length:=by
 induction l generalizing b with
 |nil=>rfl
 |cons s l d=>rw[List.foldl_cons,d];simp[JI]
section
variable {p:Ee} {g:GR} {gr:Int} {R:List RL} {c:List (List Int)} {v:Nat}
theorem aae (A:VG g) (J:gV g p.2.1) (o:HL g p.2.1.length c) (x:v<g.2.length) (E:p.2.2.map pK=Aw R) (H:kF p.2.1.length R=true) {i:Nat} (B:i<R.length):
  mE 1000 (p,(p,g,gr,kK g),AH g p.2.1) c (v:Int) (i:Int)=some (MP (p,g,gr,kK g) p.2.1 R c v (i:Int)):=by
 have G:=A.n24;have I:=o.len;have l:=o.row v x;have N:=J.len;have O:=DT E;have r:=Kd E B;obtain⟨-,m,d⟩:=Kg H B;have D:(AH g p.2.1).length=g.2.length:=by simp[AH]
 have w:at' (AH g p.2.1) (v:Int)=Gw g p.2.1 v:=DU _ x;have L:(Gw g p.2.1 v).length=p.2.1.length:=by simp[Gw]
 have y:(at' p.2.2 (i:Int)).2.2.2.map (λs=>(s.1,s.2.2))=(at' R (i:Int)).2.map λs=>((s.1:Int),s.2.ts):=congrArg Prod.snd r;have n:(at' p.2.2 (i:Int)).2.2.2.length=(at' R (i:Int)).2.length:=by simpa using congrArg List.length y
 unfold mE;dsimp only;rw[cO (by omega),cO (by simp;omega),cO (by omega),List.nil_append];unfold MP;let a:=(at' R (i:Int)).2;have:=dO (step:=lH 1000 (p,(p,g,gr,kK g),AH g p.2.1) c (v:Int) (i:Int)) (K:=some (a.foldl (JI (p,g,gr,kK g) p.2.1 c v) (at' c (v:Int)))) a.length (λk=>((k:Int),(a.take k).foldl (JI (p,g,gr,kK g) p.2.1 c v) (at' c (v:Int)))) (λk F e=>by
  have j:k<(at' p.2.2 (i:Int)).2.2.2.length:=by rw[n];exact e
  have z:((at' (at' p.2.2 (i:Int)).2.2.2 (k:Int)).1,(at' (at' p.2.2 (i:Int)).2.2.2 (k:Int)).2.2)=(((at' a (k:Int)).1:Int),(at' a (k:Int)).2.ts):=by
   have:=congrArg (λq=>q[k]?) y;simp only[List.getElem?_map,zA2 j,zA2 (show k<(at' R (i:Int)).2.length from e),Option.map_some,Option.some.injEq]at this;rw[jU j,jU e];exact this
  have f:=congrArg Prod.fst z;have h:=congrArg Prod.snd z;dsimp only at f h;obtain⟨t,u⟩:=d (at' a (k:Int)) (by rw[jU e];exact List.getElem_mem e);have C:((a.take k).foldl (JI (p,g,gr,kK g) p.2.1 c v) (at' c (v:Int))).length=p.2.1.length:=by rw[PX,l]
  have b:at' (Gw g p.2.1 v) ((at' a (k:Int)).1:Int)=pI g p.2.1 v (at' a (k:Int)).1:=DU _ t;have M:a.length<=20:=m;unfold lH;dsimp only;rw[if_pos (by omega),cO (by omega),f,h,bN (show iW 1000 _ c (v:Int) _=_ from Qj (S:=(p,g,gr,kK g)) Z A o x u),cO (by omega),cO (by omega),w,cO (by omega),b,bN (Wb 1000 _ _ _),cO (by omega),dJ (by omega),zAe,oL e,List.foldl_append];rfl) (λF=>by
  unfold lH nX;dsimp only;rw[if_neg (by show¬(a.length:Int)<_;rw[n];exact Int.lt_irrefl _),zB4]) 1000 (by show(at' R (i:Int)).2.length<1000;omega)
 exact this
end
def eT (p:Ee) (g:GR):Ks:=(p,g,kT g g.2.length,kK g)
theorem JB {a:Type} [Inhabited a] (l:List a) {k:Nat} (h:k<l.length):l.set k (at' l (k:Int))=l:=by
 have:=EE l (k:Int) (by simpa using h) (by omega);simpa using this
def Yi (c:bV) (v:Nat):Int:=at' (at' c (v:Int)) 0
def UD (g:GR) (c:bV) (v i:Nat):Int:=at' (at' c (jL (row g v) i).1) 0
theorem aag {g:GR} {c:bV} {v i u:Nat} (h:(jL (row g v) i).1=(u:Int)):UD g c v i=Yi c u:=by unfold UD Yi;rw[h]
end Go.Proofs.YtflciafboapaaaaGreat
namespace Go.Proofs.YtflciafboapaaaaGreat
open Go.Sx
def yW (b:Int) (a:Bool):Option (Int):=
 if a=true then(some (2:Int))else(if b=(43:Int)then(some (3:Int))else(some (-1:Int)))
def yV (a:Int) (b:Bool):Option (Int):=
 if b=true then(some (1:Int))else(if(30:Int)<=a then(yW a (decide (a<=(42:Int))))else(yW a (false)))
def yU (a:Int) (b:Bool):Option (Int):=
 if b=true then(some (0:Int))else(if(18:Int)<=a then(yV a (decide (a<=(29:Int))))else(yV a (false)))
def lV (U:Nat) (a:Int):Option (Int):=
 if(1:Int)<=a then(yU a (decide (a<=(17:Int))))else(yU a (false))
theorem NF:bD Tryz.prog 200:=Tryz.call200
theorem Dt (U:Nat) {b:Int} (r:Int) (h:lV U b=some r):
  bG Tryz.prog 200 #[vI (b)] [] (λx:Unit=>vI (r)) (λx l=>l) (λ_ l=>l):=by
 refine bG.of Tryz.func200 Z Tryz.ntmps200 Z λc=>?_;refine aX<|aD Z<|aQ<|aN<|aW<|aN<|eG (λd=>yU b d=some r) (λd g=>[(0,vI (b)),(3,vB (d))]) (λd g=>[]) ?_ ?_
 ·refine aU<|aB Z<|aC (tC Z Z) Z<|aB Z ?_;refine AL h Z (λ_ h=>?_) λ_ h=>?_
  ·refine dH Z<|aR Z (BM Z Z) Z<|dG Z<|aD Z<|aQ ?_;exact gJ (decide (b<=(17:Int))) () h SF Z
  refine aK Z<|aK Z<|dR Z<|aD Z<|aQ ?_;exact gJ (false) () h SF Z
 intro d g h;refine qS h Z (λ_ h=>?_) λ_ h=>?_
 ·refine aX<|aD Z<|aQ<|aT<|bF<|aJ ?_;cases h;exact iJ Z
 refine aN<|eG (λe=>yV b e=some r) (λe i=>[(0,vI (b)),(10,vB (e))]) (λe i=>[]) ?_ ?_
 ·refine aU<|aB Z<|aC (tC Z Z) Z<|aB Z ?_;refine AL h Z (λ_ h=>?_) λ_ h=>?_
  ·refine dH Z<|aR Z (BM Z Z) Z<|dG Z<|aD Z<|aQ ?_;exact gJ (decide (b<=(29:Int))) () h SF Z
  refine aK Z<|aK Z<|dR Z<|aD Z<|aQ ?_;exact gJ (false) () h SF Z
 intro e i h;refine qS h Z (λ_ h=>?_) λ_ h=>?_
 ·refine aX<|aD Z<|aQ<|aT<|bF<|aJ ?_;cases h;exact iJ Z
 refine aN<|eG (λa=>yW b a=some r) (λa f=>[(0,vI (b)),(17,vB (a))]) (λa f=>[]) ?_ ?_
 ·refine aU<|aB Z<|aC (tC Z Z) Z<|aB Z ?_;refine AL h Z (λ_ h=>?_) λ_ h=>?_
  ·refine dH Z<|aR Z (BM Z Z) Z<|dG Z<|aD Z<|aQ ?_;exact gJ (decide (b<=(42:Int))) () h SF Z
  refine aK Z<|aK Z<|dR Z<|aD Z<|aQ ?_;exact gJ (false) () h SF Z
 intro a f h;refine qS h Z (λ_ h=>?_) λ_ h=>?_
 ·refine aX<|aD Z<|aQ<|aT<|bF<|aJ ?_;cases h;exact iJ Z
 refine aX<|aB Z<|cI Z<|aD Z<|aQ ?_;refine eJ h Z (λh=>?_) λh=>?_
 ·refine aX<|aD Z<|aQ<|aT<|bF<|aJ ?_;cases h;exact iJ Z
 refine eC<|lJ<|aX<|aD Z<|aQ<|aT ?_;cases h;exact iJ Z
def sQ  (a:Int):Option (Int):=
 some (a)
def sR (c:cS) (a:gC) (b:gH->Option (Int)):Option (Int):=
 if a.2<(c.1.length:Int)then(ck (0<=a.2∧a.2<(c.1.length:Int)) (b ((max a.1 (at' c.1 a.2)),(wI .i64 (a.2+(1:Int))))))else(sQ  (a.1))
def lO (U:Nat) (a:cS):Option (Int):=
 bP (sR a) U ((0:Int),(0:Int))
theorem Sw:bD Tryz.prog 164:=Tryz.call164
theorem DW (U:Nat) {e:cS} (f:Value)  (g:Value)  (n:kY) (r:Int) (h:lO U e=some r):
  bG Tryz.prog 164 #[Value.agg #[f,g]] [Sl aP f e.1,S2 bA g n e.2] (λx:Unit=>vI (r)) (λx l=>l) (λ_ l=>l):=by
 refine bG.of Tryz.func164 Z Tryz.ntmps164 Z λc=>?_;unfold lO at h;refine aX<|aM (aS.box (cs:=[f,g]) Z Z) Z λi=>aD Z<|aQ<|aX<|aD Z<|aQ<|aN<|eG (λb=>sQ  b=some r) (λb j=>[(3,vI (b))]) (λb j=>[]) ?_ ?_
 ·refine aX<|aD Z<|aQ<|aW<|fJ (sR e) (λa k=>[(1,vP i),(3,vI (a.1)),(4,vI (a.2))]) (λa k=>[bO i [f,g] 31]) ((0:Int),(0:Int)) () h SF (a_.refl _) ?_;intro m a k h;refine aN<|aX<|aB Z<|bX Z<|dU 0 Z<|jM (aA.fact 0 Z) Z<|cX Z<|aQ ?_;refine eJ h Z (λh=>?_) λh=>?_
  ·refine cK<|aN<|aW<|aU<|aB Z<|bX Z<|dU 0 Z<|aB Z<|cQ h λd h=>aC (bI Z Z (aA.fact 0 Z) Z Z d) Z<|aC (cL Z (aA.fact 0 Z) Z Z Z fN d) Z<|aC (HO Z Z) Z<|aD Z<|fU<|lJ<|aU<|aB Z<|cW Z<|aD Z<|aQ ?_;exact vT ((max a.1 (at' e.1 a.2)),(wI .i64 (a.2+(1:Int)))) () h SF Z
  refine fF ?_;exact cE (a.1) () h SF .nil (aI.refl _ _)
 intro b j h;unfold sQ at h;refine aX<|aB Z<|aD Z<|aQ<|aT ?_;cases h;exact iJ Z
def fT (U:Nat) (a:Bool):Option (Int):=
 if a=true then(some (1:Int))else(some (0:Int))
theorem qZ:bD Tryz.prog 223:=Tryz.call223
theorem gW (U:Nat) {a:Bool} (r:Int) (h:fT U a=some r):
  bG Tryz.prog 223 #[vB (a)] [] (λx:Unit=>vI (r)) (λx l=>l) (λ_ l=>l):=by
 refine bG.of Tryz.func223 Z Tryz.ntmps223 Z λc=>?_;refine aX<|aD Z<|aQ<|aN<|aX<|aB Z<|aQ ?_;refine qS h Z (λ_ h=>?_) λ_ h=>?_
 ·refine aX<|aD Z<|aQ<|aT<|aJ ?_;cases h;exact iJ Z
 refine cK<|aX<|aD Z<|aQ<|aT ?_;cases h;exact iJ Z
def HZ (U:Nat) (a:cS) (d:Int) (b:Int) (c:Int):Option (Int):=
 if d=(6:Int)then(some (a.2.length:Int))else(if d=(7:Int)then(Option.bind (lO U ((a.1,a.2))) λh=>(some (h)))else(if d=(8:Int)then(ck (0<=b∧b<(a.1.length:Int)) (some (at' a.1 b)))else(if d=(9:Int)then(ck (0<=b∧b<(a.2.length:Int)) (some ((at' a.2 b).length:Int)))else(if d=(10:Int)then(Option.bind (fT U (decide (b=(0:Int)))) λe=>(some (e)))else(if d=(11:Int)then(some (c))else(ck (0<=b∧b<(a.2.length:Int)) (ck (0<=c∧c<((at' a.2 b).length:Int)) (if d=(13:Int)then(ck (0<=((at' (at' a.2 b) c).1)∧((at' (at' a.2 b) c).1)<(a.1.length:Int)) (some (at' a.1 ((at' (at' a.2 b) c).1))))else(if d=(14:Int)then(ck (0<=((at' (at' a.2 b) c).1)∧((at' (at' a.2 b) c).1)<(a.2.length:Int)) (some ((at' a.2 ((at' (at' a.2 b) c).1)).length:Int)))else(if d=(15:Int)then(Option.bind (fT U (decide (((at' (at' a.2 b) c).1)=(0:Int)))) λf=>(some (f)))else(if d=(16:Int)then(ck (0<=b∧b<(a.2.length:Int)) (ck (0<=c∧c<((at' a.2 b).length:Int)) (some ((at' (at' a.2 b) c).2))))else(Option.bind (rB U ((a.1,a.2)) ((at' (at' a.2 b) c).1) b) λg=>(some (g))))))))))))))
theorem Zi:bD Tryz.prog 222:=Tryz.call222
theorem Ou (U:Nat) {m:cS} {w:Int} {y:Int} {z:Int} (j:Value)  (k:Value)  (u:kY) (r:Int) (h:HZ U m w y z=some r):
  bG Tryz.prog 222 #[Value.agg #[j,k],vI (w),vI (y),vI (z)] [Sl aP j m.1,S2 bA k u m.2] (λx:Unit=>vI (r)) (λx l=>l) (λ_ l=>l):=by
 refine bG.of Tryz.func222 Z Tryz.ntmps222 Z λc=>?_;refine aX<|aM (aS.box (cs:=[j,k]) Z Z) Z λF=>aD Z<|aQ<|aN<|aX<|aB Z<|aQ<|aW<|aX<|cI Z<|aD Z<|aQ ?_;refine eJ h Z (λh=>?_) λh=>?_
 ·refine aX<|bX Z<|dU 0 Z<|aC (dD Z (aA.fact 1 Z) Z) Z<|aD Z<|aQ<|aT<|bF<|aJ ?_;cases h;exact lY Z
 refine aX<|cI Z<|aD Z<|aQ ?_;refine eJ h Z (λh=>?_) λh=>?_
 ·refine aX<|cM 0 Z<|eO h λA B h=>aM (zBa Sw (DW U j k u A B) Z (iD [0,1] Z)) Z λG=>aD Z<|aQ<|aT<|bF<|aJ ?_;cases h;exact lY Z
 refine aX<|cI Z<|aD Z<|aQ ?_;refine eJ h Z (λh=>?_) λh=>?_
 ·refine aX<|bX Z<|dU 0 Z<|aB Z<|cQ h λv h=>aC (bI Z Z (aA.fact 0 Z) Z Z v) Z<|aC (cL Z (aA.fact 0 Z) Z Z Z fN v) Z<|aD Z<|aQ<|aT<|bF<|aJ ?_;cases h;exact lY Z
 refine aX<|cI Z<|aD Z<|aQ ?_;refine eJ h Z (λh=>?_) λh=>?_
 ·refine aX<|bX Z<|dU 0 Z<|aB Z<|cQ h λd h=>aC (bH Z Z (aA.fact 1 Z) Z Z d) Z<|aC (bS Z (aA.fact 1 Z) Z Z d) Z<|aC (fG Z (zBb (aA.fact 1 Z) d.1 d.2) Z) Z<|aD Z<|aQ<|aT<|bF<|aJ ?_;cases h;exact lY Z
 refine aX<|cI Z<|aD Z<|aQ ?_;refine eJ h Z (λh=>?_) λh=>?_
 ·refine aX<|aB Z<|cI Z<|eO h λn q h=>aM (zBa qZ (gW U  n q) Z .nil) Z λC=>aD Z<|aQ<|aT<|bF<|aJ ?_;cases h;exact lY Z
 refine aX<|cI Z<|aD Z<|aQ ?_;refine eJ h Z (λh=>?_) λh=>?_
 ·refine aX<|aB Z<|aD Z<|aQ<|aT<|bF<|aJ ?_;cases h;exact lY Z
 refine eC<|lJ<|aX<|bX Z<|dU 0 Z<|aB Z<|cQ h λa h=>aC (bH Z Z (aA.fact 1 Z) Z Z a) Z<|aC (bS Z (aA.fact 1 Z) Z Z a) Z<|aB Z<|cQ h λf h=>aC (bI Z Z (zBb (aA.fact 1 Z) a.1 a.2) Z Z f) Z<|aC (dX Z Z Z Z Z) Z<|aC (fI Z (zBb (aA.fact 1 Z) a.1 a.2) Z Z Z gU f) Z<|aD Z<|aQ<|aN<|aX<|aB Z<|aQ<|aW<|aX<|cI Z<|aD Z<|aQ ?_;refine eJ h Z (λh=>?_) λh=>?_
 ·refine aX<|bX Z<|dU 0 Z<|aB Z<|cQ h λg h=>aC (bI Z Z (aA.fact 0 Z) Z Z g) Z<|aC (cL Z (aA.fact 0 Z) Z Z Z fN g) Z<|aD Z<|aQ<|aT<|bF<|aJ ?_;cases h;exact lY Z
 refine aX<|cI Z<|aD Z<|aQ ?_;refine eJ h Z (λh=>?_) λh=>?_
 ·refine aX<|bX Z<|dU 0 Z<|aB Z<|cQ h λe h=>aC (bH Z Z (aA.fact 1 Z) Z Z e) Z<|aC (bS Z (aA.fact 1 Z) Z Z e) Z<|aC (fG Z (zBb (aA.fact 1 Z) e.1 e.2) Z) Z<|aD Z<|aQ<|aT<|bF<|aJ ?_;cases h;exact lY Z
 refine aX<|cI Z<|aD Z<|aQ ?_;refine eJ h Z (λh=>?_) λh=>?_
 ·refine aX<|aB Z<|cI Z<|eO h λo s h=>aM (zBa qZ (gW U  o s) Z .nil) Z λD=>aD Z<|aQ<|aT<|bF<|aJ ?_;cases h;exact lY Z
 refine aX<|cI Z<|aD Z<|aQ ?_;refine eJ h Z (λh=>?_) λh=>?_
 ·refine aX<|bX Z<|dU 0 Z<|aB Z<|cQ h λb h=>aC (bH Z Z (aA.fact 1 Z) Z Z b) Z<|aC (bS Z (aA.fact 1 Z) Z Z b) Z<|aB Z<|cQ h λi h=>aC (bI Z Z (zBb (aA.fact 1 Z) b.1 b.2) Z Z i) Z<|aC (dX Z Z Z Z Z) Z<|aC (fI Z (zBb (aA.fact 1 Z) b.1 b.2) Z Z Z Ef i) Z<|aD Z<|aQ<|aT<|bF<|aJ ?_;cases h;exact lY Z
 refine eC<|lJ<|aX<|cM 0 Z<|aB Z<|aB Z<|eO h λp t h=>aM (zBa Ny (EI U j k u p t) Z (iD [0,1] Z)) Z λE=>aD Z<|aQ<|aT ?_;cases h;exact lY Z
def BZ (U:Nat) (c:cS) (e:bV) (b:Int) (d:Int) (a:gC):Option (Int):=
 if a.1=(1:Int)then(some (a.2))else(if a.1=(2:Int)then(some (1:Int))else(if a.1=(3:Int)then(some (0:Int))else(if a.1=(4:Int)then(some (-1:Int))else(if a.1=(5:Int)then(ck (0<=b∧b<(e.length:Int)) (ck (0<=a.2∧a.2<((at' e b).length:Int)) (some (at' (at' e b) a.2))))else(if a.1=(12:Int)then(ck (0<=b∧b<(c.2.length:Int)) (ck (0<=d∧d<((at' c.2 b).length:Int)) (ck (0<=((at' (at' c.2 b) d).1)∧((at' (at' c.2 b) d).1)<(e.length:Int)) (ck (0<=a.2∧a.2<((at' e ((at' (at' c.2 b) d).1)).length:Int)) (some (at' (at' e ((at' (at' c.2 b) d).1)) a.2))))))else(Option.bind (HZ U ((c.1,c.2)) a.1 b d) λf=>(some (f))))))))
theorem Zb:bD Tryz.prog 201:=Tryz.call201
theorem Ow (U:Nat) {k:cS} {p:bV} {q:Int} {s:Int} {g:gC} (i:Value)  (j:Value)  (u:kY)  (t:Value)  (w:mR) (r:Int) (h:BZ U k p q s g=some r):
  bG Tryz.prog 201 #[Value.agg #[i,j],t,vI (q),vI (s),Value.agg #[vI (g.1),vI (g.2)]] [Sl aP i k.1,S2 bA j u k.2,S2 aP t w p] (λx:Unit=>vI (r)) (λx l=>l) (λ_ l=>l):=by
 refine bG.of Tryz.func201 Z Tryz.ntmps201 Z λc=>?_;refine aX<|aM (aS.box (cs:=[i,j]) Z Z) Z λy=>aM (aS.box (cs:=[vI (g.1),vI (g.2)]) Z Z) Z λA=>aD Z<|aQ<|aN<|aX<|bX Z<|dU 0 Z<|aQ<|aW<|aX<|cI Z<|aD Z<|aQ ?_;refine eJ h Z (λh=>?_) λh=>?_
 ·refine aX<|bX Z<|dU 0 Z<|aD Z<|aQ<|aT<|bF<|aJ ?_;cases h;exact lY Z
 refine aX<|cI Z<|aD Z<|aQ ?_;refine eJ h Z (λh=>?_) λh=>?_
 ·refine aX<|aD Z<|aQ<|aT<|bF<|aJ ?_;cases h;exact lY Z
 refine aX<|cI Z<|aD Z<|aQ ?_;refine eJ h Z (λh=>?_) λh=>?_
 ·refine aX<|aD Z<|aQ<|aT<|bF<|aJ ?_;cases h;exact lY Z
 refine aX<|cI Z<|aD Z<|aQ ?_;refine eJ h Z (λh=>?_) λh=>?_
 ·refine aX<|aD Z<|aQ<|aT<|bF<|aJ ?_;cases h;exact lY Z
 refine aX<|cI Z<|aD Z<|aQ ?_;refine eJ h Z (λh=>?_) λh=>?_
 ·refine aN ?_;refine JR.start [0,0,3,7,0,16,63,127,255] 6 mixedOrders (by decide +kernel) ?_;refine zBc (by exact rfl) ?_;refine aV Z<|aV Z<|cQ h λd h=>bE Z .nil (fW 2 Z) (bH Z Z (aA.fact 0 Z) Z Z d) aO.z<|bE Z .nil (fW 2 Z) (bS Z (aA.fact 0 Z) Z Z d) aO.z<|cB Z<|eI 0 Z<|bM 6 Z Z<|cQ h λo h=>aC (bI Z Z (zBb (aA.fact 2 Z) d.1 d.2) Z Z o) Z<|aC (cL Z (zBb (aA.fact 2 Z) d.1 d.2) Z Z Z fN o) Z<|aD Z<|aQ<|aT<|bF<|aJ ?_;cases h;exact lY Z
 refine aX<|cI Z<|aD Z<|aQ ?_;refine eJ h Z (λh=>?_) λh=>?_
 ·refine aN ?_;refine JR.start [0,0,2,0,14,30,0,126,254,510,1023,2047,0,4096,16383,32767,65535] 14 mixedOrders (by decide +kernel) ?_;refine zBc (by exact rfl) ?_;refine aV Z<|cB Z<|eI 1 Z<|aV Z<|cQ h λa h=>bE Z .nil (fW 1 Z) (bH Z Z (aA.fact 0 Z) Z Z a) aO.z<|bE Z .nil (fW 1 Z) (bS Z (aA.fact 0 Z) Z Z a) aO.z<|aV Z<|cQ h λe h=>bE Z .nil (fW 1 Z) (bI Z Z (zBb (aA.fact 0 Z) a.1 a.2) Z Z e) aO.z<|e_ Z (dX Z Z Z Z Z)<|bE Z .nil (fW 1 Z) (fI Z (zBb (aA.fact 0 Z) a.1 a.2) Z Z Z gU e) aO.z<|cQ h λb h=>bE Z .nil (fW 2 Z) (bH Z Z (aA.fact 0 Z) Z Z b) aO.z<|bE Z .nil (fW 2 Z) (bS Z (aA.fact 0 Z) Z Z b) aO.z<|cB Z<|eI 0 Z<|bM 14 Z Z<|cQ h λf h=>aC (bI Z Z (zBb (aA.fact 2 Z) b.1 b.2) Z Z f) Z<|aC (cL Z (zBb (aA.fact 2 Z) b.1 b.2) Z Z Z fN f) Z<|aD Z<|aQ<|aT<|bF<|aJ ?_;cases h;exact lY Z
 refine eC<|lJ<|aX<|cM 1 Z<|bX Z<|dU 0 Z<|aB Z<|aB Z<|eO h λm n h=>aM (zBa Zi (Ou U i j u m n) Z (iD [0,1] Z)) Z λv=>aD Z<|aQ<|aT ?_;cases h;exact lY Z
def rD  (a:Bool):Option Bool:=
 some (a)
def yN (U:Nat) (a:Int):Option Bool:=
 if(20:Int)<=a then(rD  (decide (a<=(29:Int))))else(rD  (false))
theorem Zc:bD Tryz.prog 202:=Tryz.call202
theorem Iq (U:Nat) {b:Int} (r:Bool) (h:yN U b=some r):
  bG Tryz.prog 202 #[vI (b)] [] (λx:Unit=>vB (r)) (λx l=>l) (λ_ l=>l):=by
 refine bG.of Tryz.func202 Z Tryz.ntmps202 Z λc=>?_;refine aX<|aD Z<|aQ<|aN<|eG (λa=>rD  a=some r) (λa d=>[(2,vB (a))]) (λa d=>[]) ?_ ?_
 ·refine aU<|aB Z<|aC (tC Z Z) Z<|aB Z ?_;refine AL h Z (λ_ h=>?_) λ_ h=>?_
  ·refine dH Z<|aR Z (BM Z Z) Z<|dG Z<|aD Z<|aQ ?_;exact gJ (decide (b<=(29:Int))) () h SF Z
  refine aK Z<|aK Z<|dR Z<|aD Z<|aQ ?_;exact gJ (false) () h SF Z
 intro a d h;unfold rD at h;refine aT ?_;cases h;exact iJ Z
def nA (U:Nat) (a:Int):Option (Int):=
 some (min (max a (-1073741824:Int)) (1073741824:Int))
theorem SA:bD Tryz.prog 224:=Tryz.call224
theorem DX (U:Nat) {a:Int} (r:Int) (h:nA U a=some r):
  bG Tryz.prog 224 #[vI (a)] [] (λx:Unit=>vI (r)) (λx l=>l) (λ_ l=>l):=by
 refine bG.of Tryz.func224 Z Tryz.ntmps224 Z λc=>?_;unfold nA at h;refine aX<|aD Z<|aQ<|aX<|aB Z<|aC (HO Z Z) Z<|aC (Mo Z Z) Z<|aD Z<|aQ<|aT ?_;cases h;exact iJ Z
def xA  (a:Unit):Option Bool:=
 some (false)
def oK (c:cC) (d:Int) (a:Int) (b:(Int)->Option Bool):Option Bool:=
 if a<(c.length:Int)then(ck (0<=a∧a<(c.length:Int)) (if(at' c a)=d then(some (true))else(b (wI .i64 (a+(1:Int))))))else(xA  (()))
def tO (U:Nat) (a:cC) (b:Int):Option Bool:=
 bP (oK a b) U (0:Int)
theorem Zj:bD Tryz.prog 225:=Tryz.call225
theorem Lt (U:Nat) {e:cC} {d:Int} (f:Value) (r:Bool) (h:tO U e d=some r):
  bG Tryz.prog 225 #[f,vI (d)] [Sl aP f e] (λx:Unit=>vB (r)) (λx l=>l) (λ_ l=>l):=by
 refine bG.of Tryz.func225 Z Tryz.ntmps225 Z λc=>?_;unfold tO at h;refine aX<|aD Z<|aQ<|aN<|eG (λa=>xA  a=some r) (λa g=>[]) (λa g=>[]) ?_ ?_
 ·refine aX<|aD Z<|aQ<|aW<|fJ (oK e d) (λb i=>[(0,f),(1,vI (d)),(5,vI (b))]) (λb i=>[]) (0:Int) () h SF (a_.refl _) ?_;intro k b i h;refine aN<|aX<|aB Z<|aB Z<|jM (aA.fact 0 Z) Z<|cX Z<|aQ ?_;refine eJ h Z (λh=>?_) λh=>?_
  ·refine cK<|aN<|aW<|aX<|aB Z<|aB Z<|cQ h λj h=>aC (bI Z Z (aA.fact 0 Z) Z Z j) Z<|aC (cL Z (aA.fact 0 Z) Z Z Z fN j) Z<|aB Z<|cI Z<|aQ ?_;refine eJ h Z (λh=>?_) λh=>?_
   ·refine aX<|aD Z<|aQ<|aT<|bF<|aJ<|aJ<|bF<|aJ ?_;cases h;exact iJ Z
   refine eC<|lJ<|aU<|aB Z<|cW Z<|aD Z<|aQ ?_;exact vT (wI .i64 (b+(1:Int))) () h SF Z
  refine fF ?_;exact gJ () (()) h SF Z
 intro a g h;unfold xA at h;refine aX<|aD Z<|aQ<|aT ?_;cases h;exact iJ Z
end Go.Proofs.YtflciafboapaaaaGreat