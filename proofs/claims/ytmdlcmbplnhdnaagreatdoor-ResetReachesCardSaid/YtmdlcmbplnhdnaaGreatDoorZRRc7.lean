/- Models and proofs. Conditions: none. -/
import Derived.Test.YtmdlcmbplnhdnaaGreatDoorZRRc6
import Derived.Test.YtmdlcmbplnhdnaaGreatDoorZRRc5
import Derived.Test.YtmdlcmbplnhdnaaGreatDoorZRRc2
import Derived.KernelRfl
set_option linter.unusedVariables false
set_option linter.unusedSimpArgs false
set_option maxHeartbeats 4000000
set_option maxRecDepth 20000
namespace Go.Proofs.YtmdlcmbplnhdnaaGreatDoor
open Go.Sx
theorem xC {R:Type} {step:Int->(Int->Option R)->Option R} {K:Option R} {bad:R} (N:Nat) (p:Nat->Prop)
  (r:∀(k:Nat) c,k<N->p k->step k c=c ((k:Int)+1)) (i:∀(k:Nat) c,k<N->¬p k->step k c=some bad) (j:∀c,step N c=K):
  ∀(b:Nat),N<b->((∀k,k<N->p k)->bI step b 0=K)∧(¬(∀k,k<N->p k)->bI step b 0=some bad):=by
 intro b q;have s:∀(d a b:Nat),a+d=N->d<b->((∀k,a<=k->k<N->p k)->bI step b (a:Int)=K)∧(¬(∀k,a<=k->k<N->p k)->bI step b (a:Int)=some bad):=by
  intro d
  induction d with
  |zero=>
   intro a b v q;obtain rfl:a=N:=by omega
   cases b with
   |zero=>omega
   |succ f=>exact⟨λ_=>j _,λh=>absurd (λk m g=>by omega) h⟩
  | succ d ih =>
   intro a b v q;cases b with
   |zero=>omega
   | succ f =>
    obtain⟨t,u⟩:=ih (a+1) f (by omega) (by omega);have e:((a+1:Nat):Int)=(a:Int)+1:=by omega
    rw[e]at t u;by_cases n:p a
    ·have w:bI step (f+1) (a:Int)=bI step f ((a:Int)+1):=r a _ (by omega) n;rw[w];refine⟨λh=>t λk m g=>h k (by omega) g,λh=>u λo=>h λk m g=> ?_⟩
     by_cases l:k=a
     ·subst l;exact n
     ·exact o k (by omega) g
    ·exact⟨λh=>absurd (h a (Nat.le_refl _) (by omega)) n,λ_=>i a _ (by omega) n⟩
 obtain⟨m,g⟩:=s N 0 b (by omega) q;exact⟨λh=>m λk _ l=>h k l,λh=>g λo=>h λk l=>o k (by omega) l⟩
abbrev GR:=List Int×fP
theorem tC (a:Nat) (v c d:Int):sV a v c d=some (decide (c<=v∧v<=d)):=by
 unfold sV zW;by_cases h:c<=v
 ·rw[if_pos h];congr 1;exact decide_eq_decide.2 ⟨λb=>⟨h,b⟩,λb=>b.2⟩
 ·rw[if_neg h,decide_eq_false (λb=>h b.1)]
abbrev row (g:GR) (v:Nat):fS:=at' g.2 (v:Int)
abbrev EZ (g:GR) (v:Nat):Int:=at' g.1 (v:Int)
abbrev fZ (l:fS) (i:Nat):fU:=at' l (i:Int)
def light (g:GR):Prop:=g.1.length<=30∧g.2.length<=30∧∀v,v<g.2.length->(row g v).length<=30
def Hr (l:fS) (v n i:Nat):Prop:=(0<=(fZ l i).1∧(fZ l i).1<=(n:Int) - 1)∧(fZ l i).1≠v∧(1<=(fZ l i).2∧(fZ l i).2<=15)∧∀k,k<i->(fZ l k).1≠(fZ l i).1
def pF (l:fS) (v n:Nat):Prop:=∀i,i<l.length->Hr l v n i
theorem rQ (l:fS) (v n:Nat) (o:l.length<=30) (p:n<=30):(pF l v n->lA 1000 l v n=some true)∧(¬pF l v n->lA 1000 l v n=some false):=by
 unfold lA;have a:∀(i:Nat) (b:Int->Option Bool),i<l.length->((∀k,k<i->(fZ l k).1≠(fZ l i).1)->bI (iO l i b) 1000 0=b ((i:Int)+1))∧(¬(∀k,k<i->(fZ l k).1≠(fZ l i).1)->bI (iO l i b) 1000 0=some false):=by
  intro i b h;refine xC i _ (λk d m c=> ?_) (λk d m c=> ?_) (λd=> ?_) 1000 (by omega)
  ·unfold iO;rw[if_pos (by omega),cA (by omega),cA (by omega),if_neg c,wr (by omega) (by omega)]
  ·unfold iO;rw[if_pos (by omega),cA (by omega),cA (by omega),if_pos (Decidable.not_not.1 c)]
  ·unfold iO pN;rw[if_neg (by omega),wr (by omega) (by omega)]
 refine xC l.length (Hr l v n) (λi b h c=> ?_) (λi b h c=> ?_) (λb=> ?_) 1000 (by omega)
 ·obtain⟨e,f,g,j⟩:=c;unfold gF kB;rw[if_pos (by omega),cA (by omega),wr (x:=(n:Int) - 1) (by omega) (by omega),tC,decide_eq_true e,bB Z,if_neg (by simp),cA (by omega),if_neg f,cA (by omega),tC,decide_eq_true g,bB Z,if_neg (by simp)];exact(a i b h).1 j
 ·unfold gF kB;rw[if_pos (by omega),cA (by omega),wr (x:=(n:Int) - 1) (by omega) (by omega),tC];by_cases e:0<=(fZ l i).1∧(fZ l i).1<=(n:Int) - 1
  ·rw[decide_eq_true e,bB Z,if_neg (by simp),cA (by omega)];by_cases f:(fZ l i).1=v
   ·rw[if_pos f];rfl
   ·rw[if_neg f,cA (by omega),tC];by_cases g:1<=(fZ l i).2∧(fZ l i).2<=15
    ·rw[decide_eq_true g,bB Z,if_neg (by simp)];exact(a i b h).2 λj=>c ⟨e,f,g,j⟩
    ·rw[decide_eq_false g];rfl
  ·rw[decide_eq_false e];rfl
 ·unfold gF pM;rw[if_neg (by omega)]
def Ak (l:fS) (u:Int):Int:=match l.findIdx? (λx=>decide (x.1=u))with
 |some i=>i
 |none=> -1
theorem Ir {l:fS} {u:Int} (i:Nat) (b:i<l.length) (d:(fZ l i).1=u) (c:∀k,k<i->(fZ l k).1≠u):Ak l u=i:=by
 have:l.findIdx? (λx=>decide (x.1=u))=some i:=by
  rw[List.findIdx?_eq_some_iff_getElem];have e:∀k (a:k<l.length),fZ l k=l[k]:=λk a=>by rw[fZ,gR,List.getD_eq_getElem?_getD,List.getElem?_eq_getElem a];rfl
  refine⟨b,by rw[<-e i b];simpa using d,λk a=> ?_⟩
  have:=c k a;rw[e k (by omega)]at this;simpa using this
 rw[Ak,this]
theorem PT {l:fS} {u:Int} (b:∀k,k<l.length->(fZ l k).1≠u):Ak l u = -1:=by
 have:l.findIdx? (λx=>decide (x.1=u))=none:=by
  rw[List.findIdx?_eq_none_iff];intro x c;obtain⟨k,a,rfl⟩:=List.getElem_of_mem c;have:=b k a;rw[fZ,gR,List.getD_eq_getElem?_getD,List.getElem?_eq_getElem a]at this;simpa using this
 rw[Ak,this]
theorem AI (l:fS) (u:Int):(∃i,i<l.length∧(fZ l i).1=u∧(∀k,k<i->(fZ l k).1≠u)∧Ak l u=i)∨((∀k,k<l.length->(fZ l k).1≠u)∧Ak l u = -1):=by
 by_cases h:∀k,k<l.length->(fZ l k).1≠u
 ·exact .inr ⟨h,PT h⟩
 ·left;have f:∃k,k<l.length∧(fZ l k).1=u:=by
   apply Classical.byContradiction;intro o;exact h λk g e=>o ⟨k,g,e⟩
  obtain⟨k,g,n⟩:=f;have:∀m,(∃k,k<=m∧k<l.length∧(fZ l k).1=u)->∃i,i<l.length∧(fZ l i).1=u∧∀k,k<i->(fZ l k).1≠u:=by
   intro m
   induction m with
   |zero=>rintro⟨k,d,a,b⟩;exact⟨k,a,b,λj p=>by omega⟩
   |succ m q=>
    rintro⟨k,d,a,b⟩;by_cases c:∃j,j<=m∧j<l.length∧(fZ l j).1=u
    ·exact q c
    ·exact⟨k,a,b,λj p e=>c ⟨j,by omega,by omega,e⟩⟩
  obtain⟨i,d,a,b⟩:=this k ⟨k,Nat.le_refl _,g,n⟩;exact⟨i,d,a,b,Ir i d a b⟩
theorem KI (g:GR) (v:Nat) (u:Int) (m:v<g.2.length) (l:(row g v).length<=30):xL 1000 g v u=some (Ak (row g v) u):=by
 unfold xL;rcases AI (row g v) u with⟨i,j,h,c,b⟩|⟨c,b⟩
 ·rw[b];refine AC (λx:Int=>∃k:Nat,x=k∧k<=i) (λx=>31 - x.toNat) ?_ 1000 _ ⟨0,rfl,by omega⟩ (by omega);rintro x d ⟨k,rfl,f⟩ a;unfold zC;rw[cA (by omega),if_pos (show(k:Int)<((row g v).length:Int) by omega),cA (by omega),cA (show 0<=(k:Int)∧(k:Int)<((row g v).length:Int) by omega)];by_cases e:k=i
  ·subst e;exact if_pos h
  ·rw[if_neg (c k (by omega)),wr (by omega) (by omega)];exact a _ ⟨k+1,by omega,by omega⟩ (by omega)
 ·rw[b];refine AC (λx:Int=>∃k:Nat,x=k∧k<=(row g v).length) (λx=>31 - x.toNat) ?_ 1000 _ ⟨0,rfl,by omega⟩ (by omega);rintro x d ⟨k,rfl,f⟩ a;unfold zC;rw[cA (by omega)];by_cases e:k<(row g v).length
  ·rw[if_pos (show(k:Int)<((row g v).length:Int) by omega),cA (by omega),cA (show 0<=(k:Int)∧(k:Int)<((row g v).length:Int) by omega),if_neg (c k e),wr (by omega) (by omega)];exact a _ ⟨k+1,by omega,by omega⟩ (by omega)
  ·rw[if_neg (show¬(k:Int)<((row g v).length:Int) by omega)];rfl
theorem GB {X R:Type} {step:X->(X->Option R)->Option R} {K:X->Option R} {bad:R} (N:Nat) (p:Nat->Prop) (I:Nat->X->Prop)
  (t:∀(k:Nat) x g,k<N->I k x->p k->∃c,I (k+1) c∧step x g=g c) (j:∀(k:Nat) x g,k<N->I k x->¬p k->step x g=some bad) (l:∀x g,I N x->step x g=K x):
  ∀(b:Nat) (x:X),I 0 x->N<b->((∀k,k<N->p k)->∃c,I N c∧bI step b x=K c)∧(¬(∀k,k<N->p k)->bI step b x=some bad):=by
 intro b x e s;have v:∀(d a b:Nat) (x:X),a+d=N->d<b->I a x->((∀k,a<=k->k<N->p k)->∃c,I N c∧bI step b x=K c)∧(¬(∀k,a<=k->k<N->p k)->bI step b x=some bad):=by
  intro d
  induction d with
  |zero=>
   intro a b x w s e;obtain rfl:a=N:=by omega
   cases b with
   |zero=>omega
   |succ f=>exact⟨λ_=>⟨x,e,l _ _ e⟩,λh=>absurd (λk n i=>by omega) h⟩
  | succ d ih =>
   intro a b x w s e;cases b with
   |zero=>omega
   | succ f =>
    by_cases o:p a
    ·obtain⟨c,r,u⟩:=t a x (bI step f) (by omega) e o;have u:bI step (f+1) x=bI step f c:=u;obtain⟨y,z⟩:=ih (a+1) f c (by omega) (by omega) r;rw[u];refine⟨λh=>y λk n i=>h k (by omega) i,λh=>z λq=>h λk n i=> ?_⟩
     by_cases m:k=a
     ·subst m;exact o
     ·exact q k (by omega) i
    ·exact⟨λh=>absurd (h a (Nat.le_refl _) (by omega)) o,λ_=>j a x _ (by omega) e o⟩
 obtain⟨n,i⟩:=v N 0 b x (by omega) s e;exact⟨λh=>n λk _ m=>h k m,λh=>i λq=>h λk m=>q k (by omega) m⟩
def yG (g:GR) (v i:Nat):Prop:=∃j,j<(at' g.2 (fZ (row g v) i).1).length∧(fZ (at' g.2 (fZ (row g v) i).1) j).1=v∧(fZ (at' g.2 (fZ (row g v) i).1) j).2=(fZ (row g v) i).2
structure JA (g:GR) (v:Nat):Prop where
 id:0<=EZ g v∧EZ g v<=255
 deg:(row g v).length<g.2.length
 links:pF (row g v) v g.2.length
 ids:∀k,k<v->EZ g k≠EZ g v
structure VG (g:GR):Prop where
 n1:1<=g.2.length
 n24:g.2.length<=24
 len:g.1.length=g.2.length
 node:∀v,v<g.2.length->JA g v
 sym:∀v,v<g.2.length->∀i,i<(row g v).length->yG g v i
theorem PY (g:GR) (N:light g):(VG g->lI 1000 g=some true)∧(¬VG g->lI 1000 g=some false):=by
 obtain⟨S,H,t⟩:=N;unfold lI;rw[tC,bB Z];by_cases z:1<=g.2.length∧g.2.length<=24
 rotate_left
 ·rw[decide_eq_false (by omega)];exact⟨λh=>absurd ⟨h.n1,h.n24⟩ z,λ_=>rfl⟩
 rw[decide_eq_true (by omega),if_neg (by simp)];by_cases I:g.1.length=g.2.length
 rotate_left
 ·rw[decide_eq_true (by omega)];exact⟨λh=>absurd h.len I,λ_=>rfl⟩
 rw[decide_eq_false (by omega)];unfold sY;rw[if_neg (by simp)];have o:∀(v:Nat) (b:Int->Option Bool),v<g.2.length->((∀k,k<v->EZ g k≠EZ g v)->bI (fY g v b) 1000 0=b ((v:Int)+1))∧(¬(∀k,k<v->EZ g k≠EZ g v)->bI (fY g v b) 1000 0=some false):=by
  intro v b d;refine xC v _ (λk a C c=> ?_) (λk a C c=> ?_) (λa=> ?_) 1000 (by omega)
  ·unfold fY;rw[if_pos (by omega),cA (by omega),cA (by omega),if_neg c,wr (by omega) (by omega)]
  ·unfold fY;rw[if_pos (by omega),cA (by omega),cA (by omega),if_pos (Decidable.not_not.1 c)]
  ·unfold fY tB;rw[if_neg (by omega),wr (by omega) (by omega)]
 have l:=xC (step:=fN 1000 g) (K:=nP 1000 g ()) (bad:=false) g.2.length (JA g) (λv b d c=> ?_) (λv b d c=> ?_) (λb=> ?_) 1000 (by omega)
 rotate_left
 ·unfold fN lU;rw[if_pos (by omega),cA (by omega),tC,decide_eq_true c.id,bB Z,if_neg (by simp),cA (by omega),if_neg (show¬((g.2.length:Int)<=((row g v).length:Int))from by have:=c.deg;omega),cA (by omega),(rQ (row g v) v g.2.length (t v d) H).1 c.links,bB Z,if_neg (by simp)];exact(o v b d).1 c.ids
 ·unfold fN lU;rw[if_pos (by omega),cA (by omega),tC];by_cases x:0<=EZ g v∧EZ g v<=255
  rotate_left
  ·rw[decide_eq_false x];rfl
  rw[decide_eq_true x,bB Z,if_neg (by simp),cA (by omega)];by_cases J:(row g v).length<g.2.length
  rotate_left
  ·rw[if_pos (show(g.2.length:Int)<=((row g v).length:Int) by omega)];rfl
  rw[if_neg (show¬(g.2.length:Int)<=((row g v).length:Int) by omega),cA (by omega)];by_cases y:pF (row g v) v g.2.length
  rotate_left
  ·rw[(rQ (row g v) v g.2.length (t v d) H).2 y];rfl
  rw[(rQ (row g v) v g.2.length (t v d) H).1 y,bB Z,if_neg (by simp)];exact(o v b d).2 λL=>c ⟨x,J,y,L⟩
 ·unfold fN;rw[if_neg (by omega)]
 by_cases q:∀v,v<g.2.length->JA g v
 rotate_left
 ·exact⟨λh=>absurd h.node q,λ_=>l.2 q⟩
 rw[l.1 q];unfold nP;have f:∀(v:Nat) (b:Int->Option Bool),v<g.2.length->((∀i,i<(row g v).length->yG g v i)->bI (eL 1000 g v b) 1000 0=b ((v:Int)+1))∧(¬(∀i,i<(row g v).length->yG g v i)->bI (eL 1000 g v b) 1000 0=some false):=by
  intro v b d;have P:=t v d;have n:∀(i:Nat) a,i<(row g v).length->(yG g v i->eL 1000 g v b i a=a ((i:Int)+1))∧(¬yG g v i->eL 1000 g v b i a=some false):=by
   intro i a r;unfold eL;rw[cA (by omega),if_pos (show(i:Int)<((row g v).length:Int) by omega),cA (by omega),cA (show 0<=(i:Int)∧(i:Int)<((row g v).length:Int) by omega)];have R:=((q v d).links i r).1;obtain⟨u,G⟩:∃u:Nat,(fZ (row g v) i).1=u:=⟨(fZ (row g v) i).1.toNat,by omega⟩
   have p:u<g.2.length:=by omega
   unfold yG;rw[show(at' (at' g.2 (v:Int)) (i:Int))=fZ (row g v) i from rfl,G,KI g u v p (t u p),bB Z];have F:=(q u p).links;rcases AI (row g u) v with⟨j,w,m,B,A⟩|⟨M,A⟩
   ·rw[A,if_neg (by omega),cA (by omega),cA (show 0<=(j:Int)∧(j:Int)<((at' g.2 (u:Int)).length:Int)from⟨by omega,by have:j<(row g u).length:=w;exact_mod_cast this⟩)];unfold tA;constructor
    ·rintro⟨k,C,s,E⟩;have D:k=j:=by
      rcases Nat.lt_trichotomy k j with h|h|h
      ·exact absurd s (B k h)
      ·exact h
      ·exact absurd (m.trans s.symm) ((F k C).2.2.2 j h)
     subst D;rw[if_neg (by rw[decide_eq_false];simp;exact λh=>h E),wr (by omega) (by omega)]
    ·intro h;rw[if_pos];exact decide_eq_true λQ=>h ⟨j,w,m,Q⟩
   ·rw[A,if_pos (by decide)];exact⟨fun⟨j,w,m,_⟩=>absurd m (M j w),λ_=>rfl⟩
  refine xC (row g v).length _ (λi a r c=>(n i a r).1 c) (λi a r c=>(n i a r).2 c) (λa=> ?_) 1000 (by omega);unfold eL s_;rw[cA (by omega),if_neg (show¬(((row g v).length:Nat):Int)<((row g v).length:Int) by omega),wr (by omega) (by omega)]
 have e:=xC (step:=fM 1000 g) (K:=some true) (bad:=false) g.2.length (λv=>∀i,i<(row g v).length->yG g v i) (λv b d c=> ?_) (λv b d c=> ?_) (λb=> ?_) 1000 (by omega)
 ·exact⟨λh=>e.1 h.sym,λh=>e.2 λO=>h ⟨z.1,z.2,I,q,O⟩⟩
 ·unfold fM;rw[if_pos (by omega)];exact(f v b d).1 c
 ·unfold fM;rw[if_pos (by omega)];exact(f v b d).2 c
 ·unfold fM sZ;rw[if_neg (by omega)]
theorem vV {a:Type} [Inhabited a] (l:List a) (i k:Nat) (y:a) (b:i<l.length):at' (l.set i y) (k:Int)=if k=i then y else at' l (k:Int):=by
 rw[gR,gR,List.getD_eq_getElem?_getD,List.getD_eq_getElem?_getD,List.getElem?_set];by_cases h:i=k
 ·rw[if_pos h,if_pos h.symm,if_pos (by omega)];rfl
 ·rw[if_neg h,if_neg (Ne.symm h)]
def Wc (l:aS) (k:Nat):Prop:=(0<=at' l (k:Int)∧at' l (k:Int)<=255)∧∀j,j<k->at' l (j:Int)≠at' l (k:Int)
theorem uV (l:aS) (C:l.length<=30):((∀k,k<l.length->Wc l k)->jO 1000 l=some true)∧(¬(∀k,k<l.length->Wc l k)->jO 1000 l=some false):=by
 unfold jO;have i:=GB (step:=gJ l) (K:=λ_=>some true) (bad:=false) l.length (Wc l) (λk x=>x.1=(k:Int)∧x.2.length=256∧∀z:Nat,z<256->(at' x.2 (z:Int)=true↔∃j,j<k∧at' l (j:Int)=(z:Int))) ?_ ?_ ?_ 1000 ((0:Int),(List.replicate 256 false)) ⟨rfl,List.length_replicate ..,λz c=> ?_⟩ (by omega)
 ·exact⟨λh=>by obtain⟨x,_,b⟩:=i.1 h;exact b,i.2⟩
 ·rintro k ⟨t,m⟩ q w ⟨b,a,f⟩ ⟨D,v⟩;dsimp only at b a f;subst b;obtain⟨z,c⟩:∃z:Nat,at' l (k:Int)=z:=⟨(at' l (k:Int)).toNat,by omega⟩
  have p:z<256:=by omega
  have o:¬at' m (z:Int)=true:=by
   rw[f z p];rintro⟨j,e,d⟩;exact v j e (d.trans c.symm)
  refine⟨((k:Int)+1,m.set z true),⟨by simp,by simp[a],λy B=> ?_⟩,?_⟩
  ·dsimp only;rw[vV _ _ _ _ (by omega)];by_cases g:y=z
   ·subst g;rw[if_pos Z];exact⟨λ_=>⟨k,by omega,c⟩,λ_=>rfl⟩
   ·rw[if_neg g,f y B];constructor
    ·rintro⟨j,e,d⟩;exact⟨j,by omega,d⟩
    ·rintro⟨j,e,d⟩;by_cases n:j=k
     ·subst n;rw[c]at d;omega
     ·exact⟨j,by omega,d⟩
  ·unfold gJ iV;dsimp only;rw[if_pos (by omega),cA (by omega),c,if_neg (by omega),if_neg (by omega),cA ⟨by omega,a⟩,if_neg o,cA ⟨by omega,a⟩,wr (by omega) (by omega)];rfl
 ·rintro k ⟨t,m⟩ q w ⟨b,a,f⟩ A;dsimp only at b a f;subst b;unfold gJ iV;dsimp only;rw[if_pos (by omega),cA (by omega)];by_cases r:at' l (k:Int)<0
  ·rw[if_pos r,if_pos Z]
  rw[if_neg r];by_cases s:255<at' l (k:Int)
  ·rw[if_pos s,if_pos Z]
  rw[if_neg s];obtain⟨z,c⟩:∃z:Nat,at' l (k:Int)=z:=⟨(at' l (k:Int)).toNat,by omega⟩
  rw[c,cA ⟨by omega,a⟩,if_pos];rw[f z (by omega)];apply Classical.byContradiction;intro u;exact A ⟨by omega,λj e d=>u ⟨j,e,d.trans c⟩⟩
 ·rintro⟨t,m⟩ q ⟨b,_,_⟩;dsimp only at b;subst b;unfold gJ nX;dsimp only;rw[if_neg (by omega)]
 ·rw[show at' (List.replicate 256 false) (z:Int)=false by rw[gR,List.getD_eq_getElem?_getD,List.getElem?_replicate,if_pos c];rfl];exact⟨λh=>(by cases h),fun⟨j,e,_⟩=>(by omega)⟩
theorem VA {d e:Type} [DecidableEq d] (k c:d) (v:e):∀l:List (d×e),mT c (CP k v l)=if c=k then some v else mT c l
 | []=>by simp only[CP,mT]
 | x :: xs => by
  simp only[CP];by_cases h:k=x.1
  ·rw[if_pos h];simp only[mT];by_cases a:c=k
   ·rw[if_pos a,if_pos a]
   ·rw[if_neg a,if_neg a,if_neg (λb=>a (b.trans h.symm))]
  ·rw[if_neg h];simp only[mT];by_cases a:c=x.1
   ·rw[if_pos a,if_neg (λb=>h (b.symm.trans a)),if_pos a]
   ·rw[if_neg a,VA k c v xs];by_cases b:c=k
    ·rw[if_pos b,if_pos b]
    ·rw[if_neg b,if_neg b,if_neg a]
theorem PE {a b:Type} [DecidableEq a] {k:a} {v:b} {z:a×b} {l:List (a×b)} (c:mT k l=none):z∈CP k v l↔z=(k,v)∨z∈l:=by
 rw[HM k v l c];simp[or_comm]
theorem HL {a c:Type} [DecidableEq a] {k:a}:∀{l:List (a×c)},(∀v,(k,v)∉l)->mT k l=none
 | [],_=>rfl
 |x::xs,h=>by
  simp only[mT];rw[if_neg (λe=>h x.2 (by rw[e];exact List.mem_cons_self ..))];exact HL λv b=>h v (List.mem_cons_of_mem _ b)
theorem uN {b c:Type} [DecidableEq b] {k:b} {v:c}:∀{l:List (b×c)},mT k l=none->(k,v)∉l
 | [],_=>by simp
 | x :: xs, h => by
  simp only[mT]at h;by_cases e:k=x.1
  ·rw[if_pos e]at h;cases h
  ·rw[if_neg e]at h;intro d;rcases List.mem_cons.1 d with a|a
   ·exact e (by rw[<-a])
   ·exact uN h a
theorem Cg {a b:Type} [DecidableEq a] {k:a} {v:b}:∀{l:List (a×b)},mT k l=some v->(k,v)∈l
 |x::xs,h=>by
  simp only[mT]at h;by_cases e:k=x.1
  ·rw[if_pos e]at h;cases h;rw[e];exact List.mem_cons_self ..
  ·rw[if_neg e]at h;exact List.mem_cons_of_mem _ (Cg h)
theorem KA {a b:Type} (p:a×b->Prop) [DecidablePred p]:∀l:List (a×b),Lm (λd x=>if p d then some false else x) (some true) l=some (decide (∀z∈l,¬p z))
 | []=>by simp[Lm]
 |x::xs=>by
  show(if p x then some false else Lm _ (some true) xs)=_;rw[KA p xs];by_cases h:p x
  ·rw[if_pos h];congr 1;symm;exact decide_eq_false λc=>c x (List.mem_cons_self ..) h
  ·rw[if_neg h];congr 1;apply decide_eq_decide.2;simp[h]
def OH (c:fP) (v i:Nat) (z:(Int×Int)×Int):Prop:=∃a b:Nat,(a<v∨(a=v∧b<i))∧b<(at' c (a:Int)).length∧z=(((a:Int),(fZ (at' c (a:Int)) b).1),(fZ (at' c (a:Int)) b).2)
def LD (a:fP):Prop:=(∀v,v<a.length->pF (at' a (v:Int)) v a.length)∧∀v,v<a.length->∀i,i<(at' a (v:Int)).length->yG ([],a) v i
theorem GZ (c:fP) (hn:c.length<=30) (hd:∀v,v<c.length->(at' c (v:Int)).length<=30):(LD c->gT 1000 c=some true)∧(¬LD c->gT 1000 c=some false):=by
 unfold gT;have s:∀(v:Nat) (m:List ((Int×Int)×Int)) p,v<c.length->(∀z,z∈m↔OH c v 0 z)->
   (pF (at' c (v:Int)) v c.length->∃X,(∀z,z∈X↔OH c (v+1) 0 z)∧bI (cJ c ((v:Int),m) p) 1000 ((0:Int),m)=p ((v:Int)+1,X))∧
   (¬pF (at' c (v:Int)) v c.length->bI (cJ c ((v:Int),m) p) 1000 ((0:Int),m)=some false):=by
  intro v m p F hm;have af:=hd v F;have R:=GB (step:=cJ c ((v:Int),m) p) (K:=λx=>p ((v:Int)+1,x.2)) (bad:=false) (at' c (v:Int)).length (Hr (at' c (v:Int)) v c.length) (λi x=>x.1=(i:Int)∧∀z,z∈x.2↔OH c v i z) ?_ ?_ ?_ 1000 ((0:Int),m) ⟨rfl,hm⟩ (by omega)
  ·refine⟨λh=> ?_,λh=>R.2 h⟩
   obtain⟨x,⟨ah,ad⟩,f⟩:=R.1 h;refine⟨x.2,λz=>(ad z).trans ⟨?_,?_⟩,f⟩
   ·rintro⟨a,b,y,e,l⟩;exact⟨a,b,by omega,e,l⟩
   ·rintro⟨a,b,y,e,l⟩;refine⟨a,b,?_,e,l⟩
    by_cases W:a=v
    ·subst W;exact .inr ⟨rfl,e⟩
    ·omega
  ·rintro i ⟨H,g⟩ I M ⟨f,d⟩ ⟨p1,p2,p3,p4⟩;dsimp only at f d;subst f;have q:mT (((v:Int),(fZ (at' c (v:Int)) i).1)) g=none:=by
    apply HL;intro w hw;obtain⟨a,b,y,e,l⟩:=(d _).1 hw;simp only[Prod.mk.injEq]at l;obtain⟨⟨C,A⟩,_⟩:=l;have:a=v:=by omega
    subst this;have hb:b<i:=by omega
    exact p4 b hb A.symm
   refine⟨((i:Int)+1,CP (((v:Int),(fZ (at' c (v:Int)) i).1)) (fZ (at' c (v:Int)) i).2 g),⟨by simp,λz=> ?_⟩,?_⟩
   ·dsimp only;rw[PE q,d];constructor
    ·rintro(rfl|⟨a,b,y,e,l⟩)
     ·exact⟨v,i,.inr ⟨rfl,by omega⟩,M,rfl⟩
     ·exact⟨a,b,by omega,e,l⟩
    ·rintro⟨a,b,y,e,l⟩;by_cases J:a=v∧b=i
     ·left;rw[l,J.1,J.2]
     ·right;exact⟨a,b,by omega,e,l⟩
   ·replace p1:0<=(at' (at' c (v:Int)) (i:Int)).1∧(at' (at' c (v:Int)) (i:Int)).1<=(c.length:Int) - 1:=p1;replace p3:1<=(at' (at' c (v:Int)) (i:Int)).2∧(at' (at' c (v:Int)) (i:Int)).2<=15:=p3;unfold cJ h_ jG;dsimp only;rw[if_pos (by omega),cA (by omega),if_neg (by omega),if_neg (by omega),if_neg (by rw[decide_eq_false p2];simp),if_neg (by omega),if_neg (by rw[decide_eq_false (by omega)];simp),q,if_neg (by simp),wr (by omega) (by omega)]
  ·rintro i ⟨H,g⟩ I M ⟨f,d⟩ P;dsimp only at f d;subst f;unfold cJ h_ jG;dsimp only;rw[if_pos (by omega),cA (by omega)];by_cases y:(fZ (at' c (v:Int)) i).1<0
   ·rw[if_pos y,if_pos Z]
   rw[if_neg y];by_cases e:(c.length:Int)<=(fZ (at' c (v:Int)) i).1
   ·rw[if_pos e,if_pos Z]
   rw[if_neg e];by_cases l:(fZ (at' c (v:Int)) i).1=v
   ·rw[if_pos (decide_eq_true l)]
   rw[if_neg (by rw[decide_eq_false l];simp)];by_cases C:(fZ (at' c (v:Int)) i).2<1
   ·rw[if_pos C,if_pos Z]
   rw[if_neg C];by_cases A:15<(fZ (at' c (v:Int)) i).2
   ·rw[if_pos (decide_eq_true A)]
   rw[if_neg (by rw[decide_eq_false A];simp)];have:∃k,k<i∧(fZ (at' c (v:Int)) k).1=(fZ (at' c (v:Int)) i).1:=by
    apply Classical.byContradiction;intro hc;exact P ⟨by omega,l,by omega,λk N L=>hc ⟨k,N,L⟩⟩
   obtain⟨k,N,L⟩:=this;have n:=(d _).2 ⟨v,k,.inr ⟨rfl,N⟩,by omega,rfl⟩;rw[if_pos];rw[<-L];cases q:mT (((v:Int),(fZ (at' c (v:Int)) k).1)) g with
   |some w=>rfl
   | none => exact absurd n (by
     intro n;exact uN q n)
  ·rintro⟨H,g⟩ I ⟨f,d⟩;dsimp only at f d;subst f;unfold cJ m_;dsimp only;rw[if_neg (by omega),wr (by omega) (by omega)]
 have t:=GB (step:=cX 1000 c) (K:=λx=>jF x.2) (bad:=false) c.length (λv=>pF (at' c (v:Int)) v c.length) (λv x=>x.1=(v:Int)∧∀z,z∈x.2↔OH c v 0 z) ?_ ?_ ?_ 1000 ((0:Int),[]) ⟨rfl,λz=>⟨λh=>(by cases h),fun⟨a,b,y,_⟩=>(by omega)⟩⟩ (by omega)
 rotate_left
 ·rintro v ⟨H,g⟩ p F ⟨f,d⟩ P;dsimp only at f d;subst f;obtain⟨X,y,e⟩:=(s v g p F d).1 P;refine⟨((v:Int)+1,X),⟨by simp,y⟩,?_⟩
  ·unfold cX;dsimp only;rw[if_pos (by omega),cA (by omega)];exact e
 ·rintro v ⟨H,g⟩ p F ⟨f,d⟩ P;dsimp only at f d;subst f;unfold cX;dsimp only;rw[if_pos (by omega),cA (by omega)];exact(s v g p F d).2 P
 ·rintro⟨H,g⟩ p ⟨f,d⟩;dsimp only at f d;subst f;unfold cX;dsimp only;rw[if_neg (by omega)]
 by_cases D:∀v,v<c.length->pF (at' c (v:Int)) v c.length
 rotate_left
 ·exact⟨λh=>absurd h.1 D,λ_=>t.2 D⟩
 obtain⟨⟨H,g⟩,⟨f,d⟩,L⟩:=t.1 D;rw[L];dsimp only at d ⊢;have N:jF g=some (decide (∀z∈g,¬(Option.getD (mT (z.1.2,z.1.1) g) (0:Int))≠z.2)):=KA (λz:(Int×Int)×Int=>(Option.getD (mT (z.1.2,z.1.1) g) (0:Int))≠z.2) g;rw[N];have E:(∀z∈g,¬(Option.getD (mT (z.1.2,z.1.1) g) (0:Int))≠z.2)↔∀v,v<c.length->∀i,i<(at' c (v:Int)).length->yG ([],c) v i:=by
  constructor
  ·intro h v F i M;have hw:=(D v F i M).2.2.1;have n:=(d (((v:Int),(fZ (at' c (v:Int)) i).1),(fZ (at' c (v:Int)) i).2)).2 ⟨v,i,.inl F,M,rfl⟩;have e:=Decidable.not_not.1 (h _ n);dsimp only at e;cases q:mT ((fZ (at' c (v:Int)) i).1,(v:Int)) g with
   |none=>rw[q]at e;simp only[Option.getD]at e;omega
   | some w =>
    rw[q]at e;simp only[Option.getD]at e;obtain⟨a,b,l,C,A⟩:=(d _).1 (Cg q);simp only[Prod.mk.injEq]at A;obtain⟨⟨T,U⟩,h8⟩:=A;refine⟨b,?_,?_,?_⟩
    ·show b<(at' c (fZ (at' c (v:Int)) i).1).length;rw[T];exact C
    ·show(fZ (at' c (fZ (at' c (v:Int)) i).1) b).1=v;rw[T];exact U.symm
    ·show(fZ (at' c (fZ (at' c (v:Int)) i).1) b).2=(fZ (at' c (v:Int)) i).2;rw[T,<-h8];exact e
  ·intro h z hz ac;obtain⟨a,b,l,C,rfl⟩:=(d z).1 hz;have W:a<c.length:=by omega
   apply ac;obtain⟨j,r,o,B⟩:=h a W b C;have hu:=(D a W b C).1;obtain⟨u,Q⟩:∃u:Nat,(fZ (at' c (a:Int)) b).1=u:=⟨(fZ (at' c (a:Int)) b).1.toNat,by omega⟩
   replace r:j<(at' c (fZ (at' c (a:Int)) b).1).length:=r;replace o:(fZ (at' c (fZ (at' c (a:Int)) b).1) j).1=a:=o;replace B:(fZ (at' c (fZ (at' c (a:Int)) b).1) j).2=(fZ (at' c (a:Int)) b).2:=B;rw[Q]at r o B;have G:u<c.length:=by omega
   dsimp only;rw[Q,<-B];have n:=(d (((u:Int),(fZ (at' c (u:Int)) j).1),(fZ (at' c (u:Int)) j).2)).2 ⟨u,j,.inl G,r,rfl⟩;rw[o]at n;cases q:mT ((u:Int),(a:Int)) g with
   |none=>exact absurd n (uN q)
   | some w =>
    obtain⟨Y,S,ae,aa,A⟩:=(d _).1 (Cg q);simp only[Prod.mk.injEq]at A;obtain⟨⟨T,U⟩,h8⟩:=A;have:Y=u:=by omega
    subst this;have ab:S=j:=by
     rcases Nat.lt_trichotomy S j with O|O|O
     ·exact absurd (U.symm.trans o.symm) ((D Y G j r).2.2.2 S O)
     ·exact O
     ·exact absurd (o.trans U) ((D Y G S aa).2.2.2 j O)
    subst ab;exact h8
 by_cases V:∀v,v<c.length->∀i,i<(at' c (v:Int)).length->yG ([],c) v i
 ·rw[decide_eq_true (E.2 V)];exact⟨λ_=>rfl,λh=>absurd ⟨D,V⟩ h⟩
 ·rw[decide_eq_false (λh=>V (E.1 h))];exact⟨λh=>absurd h.2 V,λ_=>rfl⟩
theorem KE:∀(N:Nat) (f:Nat->Nat) (k:Nat),(∀i,i<k->f i<N)->(∀i j,i<j->j<k->f i≠f j)->k<=N
 |0,f,k,h,_=>by
  cases k with
  |zero=>omega
  |succ k=>exact absurd (h 0 (by omega)) (by omega)
 | N + 1, f, k, h, hd => by
  by_cases b:∃a,a<k∧f a=N
  ·obtain⟨a,g,l⟩:=b;have:=KE N (λi=>if i<a then f i else f (i+1)) (k - 1) (λi c=>by
    split
    ·have:=h i (by omega);have:=hd i a (by omega) g;omega
    ·have:=h (i+1) (by omega);have:=hd a (i+1) (by omega) (by omega);omega) (λi j d m=>by
    split<;>split
    ·exact hd i j d (by omega)
    ·exact hd i (j+1) (by omega) (by omega)
    ·omega
    ·exact hd (i+1) (j+1) (by omega) (by omega))
   omega
  ·have:=KE N f k (λi c=>by
    have:=h i c;have:f i≠N:=λe=>b ⟨i,c,e⟩;omega) hd
   omega
theorem RO {l:fS} {v n:Nat} (b:v<n) (h:pF l v n):l.length<n:=by
 have:=KE n (λi=>if i=l.length then v else(fZ l i).1.toNat) (l.length+1) (λi e=>by
  split
  ·exact b
  ·have:=(h i (by omega)).1;omega) (λi j a f=>by
  rw[if_neg (by omega)];have c:=(h i (by omega)).1;split
  ·have:=(h i (by omega)).2.1;omega
  ·have d:=(h j (by omega)).1;have:=(h j (by omega)).2.2.2 i a;omega)
 omega
theorem QI (g:GR) (j:light g):(VG g->gE 1000 g=some true)∧(¬VG g->gE 1000 g=some false):=by
 obtain⟨e,f,i⟩:=j;unfold gE qC qD;by_cases l:g.1.length<1
 ·rw[if_pos (by omega)];exact⟨λh=>by have:=h.n1;have:=h.len;omega,λ_=>rfl⟩
 rw[if_neg (by omega)];by_cases m:24<g.1.length
 ·rw[if_pos (by omega)];exact⟨λh=>by have:=h.n24;have:=h.len;omega,λ_=>rfl⟩
 rw[if_neg (by omega)];by_cases d:g.1.length=g.2.length
 rotate_left
 ·rw[decide_eq_true (by omega)];exact⟨λh=>absurd h.len d,λ_=>rfl⟩
 rw[decide_eq_false (by omega),if_neg (by simp)];by_cases b:∀k,k<g.1.length->Wc g.1 k
 rotate_left
 ·rw[(uV g.1 e).2 b,bB Z];exact⟨λh=>absurd (λk n=>⟨(h.node k (by omega)).id,(h.node k (by omega)).ids⟩) b,λ_=>rfl⟩
 rw[(uV g.1 e).1 b,bB Z,if_pos Z];by_cases a:LD g.2
 ·rw[(GZ g.2 f i).1 a];exact⟨λ_=>rfl,λh=>absurd ⟨by omega,by omega,d,λv c=>⟨(b v (by omega)).1,RO c (a.1 v c),a.1 v c,(b v (by omega)).2⟩,a.2⟩ h⟩
 ·rw[(GZ g.2 f i).2 a];exact⟨λh=>absurd ⟨λv c=>(h.node v c).links,h.sym⟩ a,λ_=>rfl⟩
theorem VG.light {g:GR} (h:VG g):light g:=⟨by have:=h.n24;have:=h.len;omega,by have:=h.n24;omega,λv a=>by have:=(h.node v a).deg;have:=h.n24;omega⟩
abbrev D (d:aS) (v:Nat):Int:=at' d (v:Int)
def Co (g:GR) (v u:Nat):Prop:=∃i,i<(row g v).length∧(fZ (row g v) i).1=(u:Int)
theorem VG.port {g:GR} (h:VG g) {v i:Nat} (b:v<g.2.length) (a:i<(row g v).length):∃u:Nat,u<g.2.length∧(fZ (row g v) i).1=(u:Int)∧Co g v u:=by
 have c:=((h.node v b).links i a).1;exact⟨(fZ (row g v) i).1.toNat,by omega,by omega,i,a,by omega⟩
theorem VG.back {g:GR} (h:VG g) {v u:Nat} (f:v<g.2.length) (c:Co g v u):Co g u v:=by
 obtain⟨i,d,e⟩:=c;obtain⟨j,b,a,_⟩:=h.sym v f i d;rw[e]at b a;exact⟨j,b,a⟩
theorem VG.adj_lt {g:GR} (h:VG g) {v u:Nat} (c:v<g.2.length) (a:Co g v u):u<g.2.length:=by
 obtain⟨i,b,d⟩:=a;have:=((h.node v c).links i b).1;omega
def Gu (d:aS):Nat:=d.countP λx=>decide (x<0)
structure QX (g:GR) (s:Nat) (d:aS):Prop where
 len:d.length=g.2.length
 lo:∀v,v<g.2.length -> -1<=D d v
 zero:∀v,v<g.2.length->(D d v=0↔v=s)
 near:∀v,v<g.2.length->0<D d v->∃u,u<g.2.length∧Co g v u∧D d u=D d v - 1
 hi:∀v,v<g.2.length->D d v+(Gu d:Int)<=(g.2.length:Int)
structure Qu (g:GR) (q d:aS) (b:Int) (done:Nat->Prop):Prop where
 mem:∀y∈q,∃v,v<g.2.length∧y=((v:Nat):Int)∧0<=D d v
 top:∀v,v<g.2.length->D d v<=b
 sort:q.Pairwise λa c=>at' d a<=at' d c
 done:∀v,v<g.2.length->0<=D d v->((v:Nat):Int)∉q->done v->∀u,u<g.2.length->Co g v u->0<=D d u∧D d u<=D d v+1
theorem EB {d:aS} {v:Nat} (h:v<d.length):D d v=d[v]:=by
 rw[D,gR,List.getD_eq_getElem?_getD,List.getElem?_eq_getElem h];rfl
theorem JS {d:aS} {u:Nat} {x:Int} (a:u<d.length) (b:D d u<0) (e:0<=x):Gu (d.set u x)+1=Gu d:=by
 unfold Gu;rw[List.countP_set a];have c:0<d.countP λx=>decide (x<0):=by
  rw[List.countP_pos_iff];exact⟨d[u],List.getElem_mem a,by rw[<-EB a];simpa using b⟩
 rw[EB a]at b;rw[if_pos (by simpa using b),if_neg (by simp;omega)];omega
theorem assign {g:GR} {s:Nat} {q d:aS} {b:Int} {done:Nat->Prop} (E:VG g) (l:QX g s d) {x u:Nat} (m:Qu g q d (D d x+1) done) (B:x<g.2.length) (K:0<=D d x) (J:u<g.2.length) (t:D d u<0) (F:Co g x u):
  QX g s (d.set u (D d x+1))∧Qu g (q++[(u:Int)]) (d.set u (D d x+1)) (D d x+1) done:=by
 have o:=l.len;have e:∀v,D (d.set u (D d x+1)) v=if v=u then D d x+1 else D d v:=λv=>vV _ _ _ _ (by omega);have G:=JS (x:=D d x+1) (by omega:u<d.length) t (by omega);refine⟨⟨by simp[o],λv f=> ?_,λv f=> ?_,λv f=> ?_,λv f=> ?_⟩,⟨λy j=> ?_,λv f=> ?_,?_,λv f k n H w A i=> ?_⟩⟩
 ·rw[e];split
  ·omega
  ·exact l.lo v f
 ·rw[e];split
  ·rename_i h;subst h;have:=(l.zero v f)
   constructor
   ·intro;omega
   ·intro h;have:=this.2 h;omega
  ·exact l.zero v f
 ·rw[e];split
  ·rename_i h;subst h;intro _;refine⟨x,B,E.back B F,?_⟩
   rw[e,if_neg (by intro h;subst h;omega)];omega
  ·intro k;obtain⟨w,A,i,I⟩:=l.near v f k;refine⟨w,A,i,?_⟩
   rw[e,if_neg (by intro h;subst h;omega)];exact I
 ·rw[e];split
  ·have:=l.hi x B;omega
  ·have:=l.hi v f;omega
 ·rcases List.mem_append.1 j with j|j
  ·obtain⟨v,f,rfl,k⟩:=m.mem y j;refine⟨v,f,rfl,?_⟩
   rw[e];split<;>omega
  ·simp only[List.mem_singleton]at j;refine⟨u,J,j,?_⟩
   rw[e,if_pos Z];omega
 ·rw[e];split
  ·omega
  ·exact m.top v f
 ·rw[List.pairwise_append];have n:∀y∈q,at' (d.set u (D d x+1)) y=at' d y:=by
   intro y j;obtain⟨v,f,rfl,k⟩:=m.mem y j;have:=e v;rw[if_neg (by intro h;subst h;omega)]at this;exact this
  refine⟨m.sort.imp_of_mem λ{a c} h1 r h=> ?_,List.pairwise_singleton ..,λy j z C=> ?_⟩
  ·rw[n a h1,n c r];exact h
  ·simp only[List.mem_singleton]at C;subst C;rw[n y j];have r:=e u;rw[if_pos Z]at r;obtain⟨v,f,rfl,k⟩:=m.mem y j;have:=m.top v f;show D d v<=D (d.set u (D d x+1)) u;omega
 ·have p:v≠u:=by
   rintro rfl;exact n (by simp)
  rw[e,if_neg p]at k;rw[e v,if_neg p];have:=m.done v f k (λh=>n (List.mem_append_left _ h)) H w A i;rw[e w,if_neg (by rintro rfl;omega)];exact this
theorem NR {g:GR} (E:VG g) {s x:Nat} (I:x<g.2.length) (a e:aS) (R:List Int×aS->Option aS) (r:aS->Prop)
  (o:QX g s e) (ae:0<=D e x) (m:Qu g a e (D e x+1) (λv=>v≠x)) (hm:a.length+Gu e<=g.2.length)
  (K:∀q d,QX g s d->D d x=D e x->Qu g q d (D d x+1) (λ_=>True)->q.length+Gu d=a.length+Gu e->(∀y∈q,D e x<=at' d y)->OK r (R (q,d)))
  (l:∀y∈a,D e x<=at' e y):
  OK r (bI (rD g ((x:Int)::a,e) R) 1000 ((0:Int),a,e)):=by
 have U:=(E.node x I).deg;have aa:=E.n24;refine xD (λz:Int×List Int×aS=>∃k:Nat,z.1=k∧k<=(row g x).length∧QX g s z.2.2∧D z.2.2 x=D e x∧Qu g z.2.1 z.2.2 (D e x+1) (λv=>v≠x)∧z.2.1.length+Gu z.2.2=a.length+Gu e∧(∀i,i<k->∀u:Nat,(fZ (row g x) i).1=u->0<=D z.2.2 u)∧(∀y∈z.2.1,D e x<=at' z.2.2 y)) (λz=>31 - z.1.toNat) ?_ 1000 _ ⟨0,rfl,by omega,o,rfl,m,rfl,λi L=>by omega,l⟩ (by simp);rintro⟨z1,q,d⟩ X ⟨k,W,hk,o,f,m,A,F,l⟩ p;dsimp only at W o f m A F l;subst W;have V:=o.len;have e0:at' ((x:Int)::a) 0=(x:Int):=rfl;unfold rD rB;dsimp only;rw[e0];by_cases N:k<(row g x).length
 ·rw[if_pos (show(k:Int)<((row g x).length:Int) by omega),cA (show 0<=(k:Int)∧(k:Int)<((row g x).length:Int) by omega)];obtain⟨u,G,O,j⟩:=E.port I N;rw[show at' (at' g.2 (x:Int)) (k:Int)=fZ (row g x) k from rfl,O,cA (by omega)];have ac:=o.hi x I;by_cases c:at' d (u:Int)<0
  ·have J:Qu g q d (D d x+1) (λv=>v≠x):=by rw[f];exact m
   obtain⟨Y,c2⟩:=assign (b:=0) E o J I (by omega) G c j;have ab:=JS (x:=D d x+1) (by omega:u<d.length) c (by omega);have n:∀v,D (d.set u (D d x+1)) v=if v=u then D d x+1 else D d v:=λv=>vV _ _ _ _ (by omega);have Q:x≠u:=by rintro rfl;have:D d x<0:=c;omega
   rw[if_pos c,cA (by omega),cA (by omega),cA (by simp only[List.length_singleton];omega),wr (x:=(k:Int)+1) (by omega) (by omega),wr (x:=at' d (x:Int)+1) (by show -9223372036854775808<=D d x+1;omega) (by show D d x+1<=_;omega)];refine p _ ⟨k+1,by simp,by omega,Y,?_,?_,?_,?_,?_⟩ (by dsimp only;omega)
   ·show D (d.set u (D d x+1)) x=_;rw[n,if_neg Q];exact f
   ·rw[<-f];exact c2
   ·show(q++[(u:Int)]).length+Gu (d.set u (D d x+1))=_;simp only[List.length_append,List.length_singleton];omega
   ·intro i L w P;show 0<=D (d.set u (D d x+1)) w;rw[n];split
    ·omega
    ·by_cases t:i=k
     ·subst t;omega
     ·exact F i (by omega) w P
   ·intro y B;show D e x<=at' (d.set u (D d x+1)) y;rcases List.mem_append.1 B with B|B
    ·have h1:=l y B;obtain⟨v,H,rfl,S⟩:=m.mem y B;have T:=n v;rw[if_neg (by intro h;subst h;have:D d v<0:=c;omega)]at T;rw[show at' (d.set u (D d x+1)) (v:Int)=D d v from T];exact h1
    ·simp only[List.mem_singleton]at B;subst B;rw[show at' (d.set u (D d x+1)) (u:Int)=D d x+1 from(n u).trans (if_pos Z)];omega
  ·rw[if_neg c,wr (by omega) (by omega)];refine p _ ⟨k+1,by simp,by omega,o,f,m,A,?_,l⟩ (by dsimp only;omega);intro i L w P;by_cases t:i=k
   ·subst t;have:w=u:=by omega
    subst this;show 0<=at' d (w:Int);omega
   ·exact F i (by omega) w P
 ·rw[if_neg (show¬(k:Int)<((row g x).length:Int) by omega)];have ad:k=(row g x).length:=by omega
  refine K q d o f ⟨m.mem,λv H=>by rw[f];exact m.top v H,m.sort,λv H S hq _ u G j=> ?_⟩ A l;by_cases C:v=x
  ·subst C;obtain⟨i,L,M⟩:=j;exact⟨F i (by omega) u M,by rw[f];exact m.top u G⟩
  ·exact m.done v H S hq C u G j
structure qZ (g:GR) (s:Nat) (d:aS):Prop where
 len:d.length=g.2.length
 lo:∀v,v<g.2.length -> -1<=D d v
 zero:∀v,v<g.2.length->(D d v=0↔v=s)
 near:∀v,v<g.2.length->0<D d v->∃u,u<g.2.length∧Co g v u∧D d u=D d v - 1
 next:∀v,v<g.2.length->0<=D d v->∀u,u<g.2.length->Co g v u->0<=D d u∧D d u<=D d v+1
 hi:∀v,v<g.2.length->D d v<=(g.2.length:Int)
theorem Qi {g:GR} (t:VG g) {s:Nat} (f:aS) (k:aS) (b:QX g s f) (c:Qu g k f (match k with|[]=>1000|y::_=>at' f y+1) (λ_=>True)) (j:k.length+Gu f<=g.2.length):
  OK (qZ g s) (bI (oH 1000 g) 1000 (k,f)):=by
 have G:=t.n24;refine xD (λz:List Int×aS=>QX g s z.2∧Qu g z.1 z.2 (match z.1 with|[]=>1000|y::_=>at' z.2 y+1) (λ_=>True)∧z.1.length+Gu z.2<=g.2.length) (λz=>z.1.length+Gu z.2) ?_ 1000 _ ⟨b,c,j⟩ (by dsimp only;omega);rintro⟨q,d⟩ C ⟨b,c,j⟩ m;dsimp only at b c j;unfold oH u_;dsimp only;cases q with
 |nil=>
  rw[if_neg (by simp)];exact⟨d,rfl,b.len,b.lo,b.zero,b.near,λv e l u n a=>c.done v e l (by simp) trivial u n a,λv e=>by have:=b.hi v e;omega⟩
 | cons y rest =>
  obtain⟨x,A,rfl,p⟩:=c.mem y (List.mem_cons_self ..);have F:at' ((x:Int)::rest) 0=(x:Int):=rfl;rw[if_pos (by simp only[List.length_cons];omega),cA (by simp only[List.length_cons];omega),cA (by simp only[List.length_cons];omega),F,cA (by omega)];have w:=List.pairwise_cons.1 c.sort;simp only[List.length_cons]at j;refine NR t A rest d C _ b p ⟨λz I=>c.mem z (List.mem_cons_of_mem _ I),c.top,w.2,λv e l H o u n a=>c.done v e l (λh=> ?_) trivial u n a⟩ (by omega) (λB E r J i K D=> ?_) w.1
  ·rcases List.mem_cons.1 h with h|h
   ·exact o (by omega)
   ·exact H h
  ·refine m (B,E) ⟨r,⟨i.mem,λv e=> ?_,i.sort,i.done⟩,by dsimp only;omega⟩ (by simp only[List.length_cons];omega);dsimp only;have L:=i.top v e;cases B with
   |nil=>
    dsimp only;have:=r.hi x A;omega
   |cons z M=>
    dsimp only;have:=D z (List.mem_cons_self ..);omega
theorem Cj {g:GR} (l:VG g) {s:Nat} (m:s<g.2.length):OK (qZ g s) (jX 1000 g (s:Int)):=by
 have q:=l.n24;unfold jX;rw[cA (by omega)];refine xD (λz:oB=>∃k:Nat,z.1=k∧k<=g.2.length∧z.2.length=g.2.length∧∀v,v<k->D z.2 v = -1) (λz=>31 - z.1.toNat) ?_ 1000 _ ⟨0,rfl,by omega,by simp,λv c=>by omega⟩ (by simp);rintro⟨C,d⟩ A ⟨k,o,B,e,j⟩ i;dsimp only at o e j;subst o;unfold Ae;simp only[List.length_replicate,Int.toNat_natCast];by_cases u:k<g.2.length
 ·rw[if_pos (by omega),cA (by omega),wr (by omega) (by omega)];refine i _ ⟨k+1,by simp,by omega,by simp[e],λv c=> ?_⟩ (by dsimp only;omega);show at' (d.set k (-1)) (v:Int) = -1;rw[vV _ _ _ _ (by omega)];split
  ·rfl
  ·exact j v (by omega)
 ·rw[if_neg (by omega)];unfold Ad;rw[cA (by omega)];have b:∀v,v<g.2.length->D d v = -1:=λv c=>j v (by omega);have a:∀v,D (d.set s 0) v=if v=s then 0 else D d v:=λv=>vV _ _ _ _ (by omega);have t:=JS (x:=0) (by omega:s<d.length) (by rw[b s m];omega) (by omega);have r:Gu d<=d.length:=List.countP_le_length ..;refine Qi l _ _ ⟨by simp[e],λv c=> ?_,λv c=> ?_,λv c=> ?_,λv c=> ?_⟩ ⟨λy n=> ?_,λv c=> ?_,List.pairwise_singleton ..,λv c p w=> ?_⟩ ?_
  ·rw[Int.toNat_natCast,a];split
   ·omega
   ·rw[b v c];omega
  ·rw[Int.toNat_natCast,a];split
   ·rename_i h;exact⟨λ_=>h,λ_=>rfl⟩
   ·rename_i h;rw[b v c];exact⟨λf=>by omega,λf=>absurd f h⟩
  ·rw[Int.toNat_natCast,a];split
   ·omega
   ·rw[b v c];omega
  ·rw[Int.toNat_natCast,a];split
   ·omega
   ·rw[b v c];omega
  ·simp only[List.mem_singleton]at n;refine⟨s,m,n,?_⟩
   rw[Int.toNat_natCast,a,if_pos Z];omega
  ·rw[Int.toNat_natCast];have f:at' (d.set s 0) (s:Int)=0:=(a s).trans (if_pos Z);show D (d.set s 0) v<=at' (d.set s 0) (s:Int)+1;rw[f,a];split
   ·omega
   ·rw[b v c];omega
  ·rw[Int.toNat_natCast,a,if_neg (by rintro rfl;exact w (by simp)),b v c]at p;omega
  ·rw[Int.toNat_natCast];simp only[List.length_singleton];omega
theorem Nq {g:GR} (a:VG g) {s:Nat} (e:s<g.2.length):OK (qZ g s) (oV 1000 g (s:Int)):=by
 unfold oV mZ;rw[(QI g a.light).1 a,bB Z,if_neg (by simp),if_neg (by omega),decide_eq_false (by omega),if_neg (by simp)];obtain⟨d,c,b⟩:=Cj a e;rw[c];exact⟨d,rfl,b⟩
def yL (g:GR) (s:Nat):Nat->Nat->Prop
 |0,v=>v=s∧s<g.2.length
 |k+1,v=>∃u,yL g s k u∧Co g u v
theorem yL.lt {g:GR} (a:VG g) {s:Nat}:∀{k v:Nat},yL g s k v->v<g.2.length
 |0,_,h=>by obtain⟨rfl,h⟩:=h;exact h
 |_+1,_,h=>by obtain⟨u,b,c⟩:=h;exact a.adj_lt (yL.lt a b) c
theorem yL.trans {g:GR} {s t:Nat} {k:Nat} (h:yL g s k t):∀{m v:Nat},yL g t m v->yL g s (k+m) v
 |0,_,h2=>by obtain⟨rfl,_⟩:=h2;exact h
 |_+1,_,h2=>by obtain⟨u,a,b⟩:=h2;exact⟨u,yL.trans h a,b⟩
theorem Gn {g:GR} (a:VG g) {s:Nat}:∀{k v:Nat},yL g s k v->yL g v k s
 |0,_,h=>by obtain⟨rfl,h⟩:=h;exact⟨rfl,h⟩
 |k+1,v,h=>by
  obtain⟨u,b,c⟩:=h;have d:=yL.lt a b;have e:yL g v 1 u:=⟨v,⟨rfl,a.adj_lt d c⟩,a.back d c⟩
  have:=yL.trans e (Gn a b);rwa[Nat.add_comm]at this
theorem qZ.le {g:GR} (a:VG g) {s:Nat} {d:aS} (h:qZ g s d):∀{k v:Nat},yL g s k v->0<=D d v∧D d v<=k
 |0,v,hw=>by
  obtain⟨rfl,i⟩:=hw;have:=(h.zero v i).2 Z;omega
 |k+1,v,hw=>by
  obtain⟨u,b,c⟩:=hw;have e:=yL.lt a b;have f:=qZ.le a h b;have j:=h.next u e f.1 v (a.adj_lt e c) c;omega
theorem Ly {g:GR} (b:VG g) {s:Nat} {d:aS} (h:qZ g s d):∀(k v:Nat),v<g.2.length->D d v=k->yL g s k v
 |0,v,hv,he=>by
  have:=(h.zero v hv).1 he;exact⟨this,by omega⟩
 |k+1,v,hv,he=>by
  obtain⟨u,c,a,e⟩:=h.near v hv (by omega);exact⟨u,Ly b h k u c (by omega),b.back hv a⟩
theorem qZ.pos {g:GR} (a:VG g) {s:Nat} {d:aS} (h:qZ g s d) {v:Nat} (b:v<g.2.length) (c:0<=D d v):yL g s (D d v).toNat v:=
 Ly a h _ v b (by omega)
theorem Pt (d:aS) (h:d.length<=30):OK (λr:Int=> -1<=r∧(∀v,v<d.length->D d v<=r)∧(r = -1∨∃v,v<d.length∧D d v=r)) (mR 1000 d):=by
 unfold mR;refine xD (λz:fU=>∃k:Nat,z.2=k∧k<=d.length ∧ -1<=z.1∧(∀v,v<k->D d v<=z.1)∧(z.1 = -1∨∃v,v<k∧D d v=z.1)) (λz=>31 - z.2.toNat) ?_ 1000 _ ⟨0,rfl,by omega,by omega,λv b=>by omega,.inl Z⟩ (by simp);rintro⟨m,z⟩ n ⟨k,j,o,g,c,a⟩ e;dsimp only at j g c a;subst j;unfold xB rY;dsimp only;by_cases l:k<d.length
 ·rw[if_pos (by omega),cA (by omega),wr (by omega) (by omega)];refine e _ ⟨k+1,by simp,by omega,by dsimp only;omega,λv b=> ?_,?_⟩ (by dsimp only;omega)
  ·by_cases f:v=k
   ·subst f;show D d v<=max m (D d v);omega
   ·have:=c v (by omega);show D d v<=max m (D d k);omega
  ·by_cases p:m<=D d k
   ·exact .inr ⟨k,by omega,by show D d k=max m (D d k);omega⟩
   ·rcases a with a|⟨v,b,i⟩
    ·left;show max m (D d k) = -1;omega
    ·exact .inr ⟨v,by omega,by show D d v=max m (D d k);omega⟩
 ·rw[if_neg (by omega)];refine⟨m,rfl,g,λv b=>c v (by omega),?_⟩
  rcases a with a|⟨v,b,i⟩
  ·exact .inl a
  ·exact .inr ⟨v,by omega,i⟩
def EU (g:GR):Prop:=∀u v,u<g.2.length->v<g.2.length->∃k,yL g u k v
theorem wX {g:GR} (a:VG g):(EU g->dR 1000 g=some true)∧(¬EU g->dR 1000 g=some false):=by
 have r:=a.n1;have n:=a.n24;unfold dR;obtain⟨d,o,e⟩:=Cj a (s:=0) (by omega);have j:=e.len;rw[(QI g a.light).1 a,bB Z,if_neg (by simp),show jX 1000 (g.1,g.2) 0=some d from o,bB Z];have c:=xC (step:=kZ d) (K:=some true) (bad:=false) d.length (λv=>0<=D d v) (λk i f p=> ?_) (λk i f p=> ?_) (λi=> ?_) 1000 (by omega)
 ·have b:(∀v,v<d.length->0<=D d v)↔EU g:=by
   constructor
   ·intro h u v q l;exact⟨_,yL.trans (Gn a (qZ.pos a e q (h u (by omega)))) (qZ.pos a e l (h v (by omega)))⟩
   ·intro h v l;obtain⟨k,f⟩:=h 0 v (by omega) (by omega);exact(qZ.le a e f).1
  exact⟨λh=>c.1 (b.2 h),λh=>c.2 λm=>h (b.1 m)⟩
 ·unfold kZ;rw[if_pos (by omega),cA (by omega),if_neg (show¬D d k<0 by omega),wr (by omega) (by omega)]
 ·unfold kZ;rw[if_pos (by omega),cA (by omega),if_pos (show D d k<0 by omega)]
 ·unfold kZ qR;rw[if_neg (by omega)]
def ZB (g:GR) (s:Nat) (r:Int):Prop:=∃d,jX 1000 g (s:Int)=some d∧qZ g s d∧(∀v,v<g.2.length->D d v<=r)∧∃v,v<g.2.length∧D d v=r
theorem QY {g:GR} {s:Nat} {r e:Int} (h:ZB g s r) (f:ZB g s e):r=e:=by
 obtain⟨d,i,_,j,v,l,o⟩:=h;obtain⟨n,a,_,b,m,c,k⟩:=f;rw[i]at a;cases a;have:=j m c;have:=b v l;omega
theorem ZB.pos {g:GR} {s:Nat} {r:Int} (b:s<g.2.length) (h:ZB g s r):0<=r∧r<=(g.2.length:Int):=by
 obtain⟨d,f,a,c,v,e,i⟩:=h;have:=c s b;have:=(a.zero s b).2 Z;have:=a.hi v e;omega
theorem RU {g:GR} (e:VG g) {s:Nat} (i:s<g.2.length):∃d r,jX 1000 g (s:Int)=some d∧mR 1000 d=some r∧ZB g s r:=by
 obtain⟨d,f,a⟩:=Cj e i;have h:=a.len;have j:=e.n24;obtain⟨r,l,o,b,c⟩:=Pt d (by omega);have n:=b s (by omega);have:=(a.zero s i).2 Z;refine⟨d,r,f,l,d,f,a,λv m=>b v (by omega),?_⟩
 rcases c with c|⟨v,m,k⟩
 ·omega
 ·exact⟨v,by omega,k⟩
theorem Df {g:GR} (a:VG g) (f:EU g) {s:Nat} (h:s<g.2.length):OK (ZB g s) (jP 1000 g (s:Int)):=by
 unfold jP kQ;rw[(wX a).1 f,bB Z,if_neg (by simp),if_neg (by omega),decide_eq_false (by omega),if_neg (by simp)];obtain⟨d,r,b,c,e⟩:=RU a h;rw[b,bB Z,c,bB Z];exact⟨r,rfl,e⟩
theorem Mg (g:GR) (v:Nat) (u:Int) (m:v<g.2.length) (l:(row g v).length<=30):nG 1000 g v u=some (Ak (row g v) u):=by
 unfold nG;rw[cA (by omega)];rcases AI (row g v) u with⟨i,j,h,c,b⟩|⟨c,b⟩
 ·rw[b];refine AC (λx:Int=>∃k:Nat,x=k∧k<=i) (λx=>31 - x.toNat) ?_ 1000 _ ⟨0,rfl,by omega⟩ (by omega);rintro x d ⟨k,rfl,f⟩ a;unfold uZ;rw[if_pos (show(k:Int)<((row g v).length:Int) by omega),cA (show 0<=(k:Int)∧(k:Int)<((row g v).length:Int) by omega)];by_cases e:k=i
  ·subst e;exact if_pos h
  ·rw[if_neg (c k (by omega)),wr (by omega) (by omega)];exact a _ ⟨k+1,by omega,by omega⟩ (by omega)
 ·rw[b];refine AC (λx:Int=>∃k:Nat,x=k∧k<=(row g v).length) (λx=>31 - x.toNat) ?_ 1000 _ ⟨0,rfl,by omega⟩ (by omega);rintro x d ⟨k,rfl,f⟩ a;unfold uZ;by_cases e:k<(row g v).length
  ·rw[if_pos (show(k:Int)<((row g v).length:Int) by omega),cA (show 0<=(k:Int)∧(k:Int)<((row g v).length:Int) by omega),if_neg (c k e),wr (by omega) (by omega)];exact a _ ⟨k+1,by omega,by omega⟩ (by omega)
  ·rw[if_neg (show¬(k:Int)<((row g v).length:Int) by omega)];rfl
section
def oA (f:Nat->Nat):Nat->Nat
 |0=>0
 |k+1=>oA f k+f k
theorem Jk {f h:Nat->Nat}:∀{n:Nat},(∀v,v<n->f v<=h v)->oA f n<=oA h n
 |0,_=>Nat.le_refl _
 |n+1,H=>Nat.add_le_add (Jk λv a=>H v (by omega)) (H n (by omega))
theorem C_ {f h:Nat->Nat}:∀{n:Nat},(∀v,v<n->f v=h v)->oA f n=oA h n
 |0,_=>rfl
 |n+1,H=>by
  show oA f n+f n=oA h n+h n;rw[C_ λv a=>H v (by omega),H n (by omega)]
theorem Eh (f h:Nat->Nat):∀n:Nat,oA (λv=>f v+h v) n=oA f n+oA h n
 |0=>rfl
 |n+1=>by
  show oA (λv=>f v+h v) n+(f n+h n)=oA f n+f n+(oA h n+h n)
  rw[Eh f h n];omega
theorem FS (c:Nat):∀n:Nat,oA (λ_=>c) n=c*n
 |0=>rfl
 |n+1=>by
  show oA (λ_=>c) n+c=c*(n+1)
  rw[FS c n,Nat.mul_succ]
theorem Mt (F:Nat->Nat->Nat) (m:Nat):∀n:Nat,oA (λv=>oA (F v) m) n=oA (λu=>oA (λv=>F v u) n) m
 |0=>by
  show 0=oA (λ_=>0) m;rw[FS];omega
 |n+1=>by
  show oA (λv=>oA (F v) m) n+oA (F n) m=oA (λu=>oA (λv=>F v u) n+F n u) m;rw[Mt F m n,Eh (λu=>oA (λv=>F v u) n) (F n) m]
theorem Ql {f:Nat->Nat}:∀{n:Nat} (v:Nat),v<n->f v<=oA f n
 |0,v,h=>by omega
 |n+1,v,h=>by
  show f v<=oA f n+f n;by_cases e:v=n
  ·subst e;omega
  ·have:=Ql (f:=f) (n:=n) v (by omega);omega
open Classical in
noncomputable def ind (p:Prop):Nat:=if p then 1 else 0
theorem Lk {p:Prop} (h:p):ind p=1:=if_pos h
theorem Ny {p:Prop} (h:¬p):ind p=0:=if_neg h
theorem AO (p:Prop):(p∧ind p=1)∨(¬p∧ind p=0):=by
 by_cases h:p
 ·exact .inl ⟨h,Lk h⟩
 ·exact .inr ⟨h,Ny h⟩
theorem KO (a:Nat):∀n:Nat,oA (λu=>ind (u=a)) n=ind (a<n)
 |0=>(Ny (by omega)).symm
 |n+1=>by
  show oA (λu=>ind (u=a)) n+ind (n=a)=_;rw[KO a n];rcases AO (a<n)with⟨e,b⟩|⟨e,b⟩<;>rcases AO (n=a)with⟨f,c⟩|⟨f,c⟩<;>rcases AO (a<n+1)with⟨g,d⟩|⟨g,d⟩<;>omega
theorem KN (f:Nat->Nat) (n:Nat):∀k:Nat,(∀i,i<k->f i<n)->(∀i j,i<j->j<k->f i≠f j)->oA (λu=>ind (∃i,i<k∧f i=u)) n=k
 |0,_,_=>by
  rw[C_ (h:=λ_=>0) λv _=>Ny (fun⟨i,c,_⟩=>by omega),FS];omega
 | k + 1, h, hd => by
  have e:∀u,u<n->ind (∃i,i<k+1∧f i=u)=ind (∃i,i<k∧f i=u)+ind (u=f k):=by
   intro u _;rcases AO (∃i,i<k∧f i=u)with⟨⟨i,c,b⟩,d⟩|⟨m,d⟩
   ·rw[d,Ny (p:=u=f k) (λa=>hd i k c (by omega) (b.trans a)),Lk ⟨i,by omega,b⟩]
   ·rw[d];by_cases a:u=f k
    ·rw[Lk a,Lk ⟨k,by omega,a.symm⟩]
    ·rw[Ny a,Ny];rintro⟨i,c,b⟩;by_cases l:i=k
     ·subst l;exact a b.symm
     ·exact m ⟨i,by omega,b⟩
  rw[C_ e,Eh (λu=>ind (∃i,i<k∧f i=u)) (λu=>ind (u=f k)),KN f n k (λi c=>h i (by omega)) (λi j g o=>hd i j g (by omega)),KO,Lk (h k (by omega))]
theorem aaQ {g:GR} (e:VG g) {v:Nat} (h:v<g.2.length):(row g v).length=oA (λu=>ind (Co g v u)) g.2.length:=by
 have b:=(e.node v h).links;rw[<-KN (λi=>(fZ (row g v) i).1.toNat) g.2.length (row g v).length (λi a=>by have:=(b i a).1;omega) (λi j c d=>by
  have k:=(b i (by omega)).1;have l:=(b j d).1;have:=(b j d).2.2.2 i c;omega)]
 refine C_ λu _=> ?_;have:(∃i,i<(row g v).length∧(fZ (row g v) i).1.toNat=u)↔Co g v u:=by
  constructor
  ·rintro⟨i,a,f⟩;have:=(b i a).1;exact⟨i,a,by omega⟩
  ·rintro⟨i,a,f⟩;exact⟨i,a,by omega⟩
 rw[propext this]
theorem Rs {g:GR} (a:VG g) {v:Nat} (d:v<g.2.length):¬Co g v v:=by
 rintro⟨i,c,b⟩;exact((a.node v d).links i c).2.1 b
def RN (g:GR):Nat:=oA (λv=>(row g v).length) g.2.length
theorem acq {g:GR} (i:VG g) (z:EU g):2*(g.2.length - 1)<=RN g:=by
 have C:=i.n1;obtain⟨d,_,q⟩:=Cj i (s:=0) (by omega);have j:∀v,v<g.2.length->0<=D d v:=λv c=>by
  obtain⟨k,B⟩:=z 0 v (by omega) c;exact(qZ.le i q B).1
 have r:oA (λv=>oA (λu=>ind (Co g v u∧D d u=D d v - 1)+ind (Co g v u∧D d u=D d v+1)) g.2.length) g.2.length<=RN g:=by
  unfold RN;refine Jk λv c=> ?_;rw[aaQ i c];refine Jk λu m=> ?_;rcases AO (Co g v u∧D d u=D d v - 1)with⟨a,l⟩|⟨a,l⟩
  ·rw[l,Ny (p:=Co g v u∧D d u=D d v+1) (λb=>by omega),Lk a.1];omega
  ·rcases AO (Co g v u∧D d u=D d v+1)with⟨b,o⟩|⟨b,o⟩
   ·rw[l,o,Lk b.1];omega
   ·rw[l,o];omega
 have t:oA (λv=>oA (λu=>ind (Co g v u∧D d u=D d v+1)) g.2.length) g.2.length=oA (λv=>oA (λu=>ind (Co g v u∧D d u=D d v - 1)) g.2.length) g.2.length:=by
  rw[Mt];refine C_ λu m=>C_ λv c=> ?_;rw[propext (show(Co g v u∧D d u=D d v+1)↔(Co g u v∧D d v=D d u - 1)from⟨λh=>⟨i.back c h.1,by omega⟩,λh=>⟨i.back m h.1,by omega⟩⟩)]
 have w:oA (λv=>ind (v≠0)) g.2.length<=oA (λv=>oA (λu=>ind (Co g v u∧D d u=D d v - 1)) g.2.length) g.2.length:=by
  refine Jk λv c=> ?_;by_cases e:v=0
  ·rw[Ny (λh=>h e)];omega
  ·rw[Lk e];have G:=j v c;have E:=q.zero v c;obtain⟨u,m,y,A⟩:=q.near v c (by
    have:D d v≠0:=λh=>e (E.1 h);omega)
   have:=Ql (f:=λu=>ind (Co g v u∧D d u=D d v - 1)) u m;rw[Lk ⟨y,A⟩]at this;exact this
 have x:∀n,1<=n->oA (λv=>ind (v≠0)) n=n - 1:=by
  intro n
  induction n with
  |zero=>intro h;omega
  |succ n F=>
   intro _;show oA (λv=>ind (v≠0)) n+ind (n≠0)=n;by_cases e:n=0
   ·subst e;rw[Ny (by omega)];rfl
   ·rw[F (by omega),Lk e];omega
 rw[x _ C]at w;rw[C_ (λv _=>Eh (λu=>ind (Co g v u∧D d u=D d v - 1)) (λu=>ind (Co g v u∧D d u=D d v+1)) g.2.length),Eh (λv=>oA (λu=>ind (Co g v u∧D d u=D d v - 1)) g.2.length) (λv=>oA (λu=>ind (Co g v u∧D d u=D d v+1)) g.2.length),t]at r;omega
end
theorem MK (a:Nat) (h:a<4294967296):IntKind.u32.wrap (a:Int)=a:=by rw[<-Ew];exact if_pos ⟨by omega,by omega⟩
def OB (x:Int):Nat:=(BitVec.ofInt 32 x).toNat
theorem Jz (x:Int):OB x<4294967296:=(BitVec.ofInt 32 x).isLt
theorem yW {a:Nat} (h:a<4294967296):OB (a:Int)=a:=by
 unfold OB;rw[BitVec.ofInt_natCast,BitVec.toNat_ofNat];exact Nat.mod_eq_of_lt h
theorem Nc (x y:Int):eB .u32 x y=((OB x &&& OB y:Nat):Int):=by
 show IntKind.u32.wrap (((BitVec.ofInt 32 x &&& BitVec.ofInt 32 y).toNat:Nat):Int)=_;rw[BitVec.toNat_and];exact MK _ (Nat.lt_of_le_of_lt Nat.and_le_left (Jz x))
theorem adf (x y:Int):Nf .u32 x y=((OB x ||| OB y:Nat):Int):=by
 show IntKind.u32.wrap (((BitVec.ofInt 32 x ||| BitVec.ofInt 32 y).toNat:Nat):Int)=_;rw[BitVec.toNat_or];exact MK _ (Nat.or_lt_two_pow (n:=32) (Jz x) (Jz y))
theorem WN (x y:Int):uU .u32 x y=0↔∀i,(OB x).testBit i=true->(OB y).testBit i=true:=by
 have e:uU .u32 x y=(((BitVec.ofInt 32 x &&& ~~~ BitVec.ofInt 32 y).toNat:Nat):Int):=MK _ (BitVec.ofInt 32 x &&& ~~~ BitVec.ofInt 32 y).isLt;have b:∀i,(BitVec.ofInt 32 x &&& ~~~ BitVec.ofInt 32 y).toNat.testBit i=((OB x).testBit i&&(decide (i<32) && !(OB y).testBit i)):=by
  intro i;have:=BitVec.getLsbD_and (x:=BitVec.ofInt 32 x) (y:= ~~~ BitVec.ofInt 32 y) (i:=i);rw[BitVec.getLsbD_not]at this;exact this
 have d:∀i,(OB x).testBit i=true->i<32:=by
  intro i a;apply Classical.byContradiction;intro f;rw[Nat.testBit_lt_two_pow (Nat.lt_of_lt_of_le (Jz x) (Nat.pow_le_pow_right (n:=2) (by omega) (show 32<=i by omega)))]at a;cases a
 rw[e];constructor
 ·intro h i a;have c:(BitVec.ofInt 32 x &&& ~~~ BitVec.ofInt 32 y).toNat=0:=by omega
  have:=b i;rw[c,Nat.zero_testBit,a,decide_eq_true (d i a)]at this;simpa using this
 ·intro h;have:(BitVec.ofInt 32 x &&& ~~~ BitVec.ofInt 32 y).toNat=0:=by
   apply Nat.eq_of_testBit_eq;intro i;rw[b i,Nat.zero_testBit];cases a:(OB x).testBit i with
   |false=>rfl
   |true=>rw[h i a];simp
  omega
theorem Iu {k:Nat} (a:k<32):2^k<4294967296:=Nat.pow_lt_pow_right (n:=32) (by omega) a
theorem aco {k:Nat} (a:k<32):Cv .u32 1 (k:Int)=((2^k:Nat):Int):=by
 show IntKind.u32.wrap (1*2^(min ((k:Int).toNat) 32))=_;rw[Int.toNat_natCast,Nat.min_eq_left (by omega),Int.one_mul,show(2:Int)^k=((2^k:Nat):Int) by simp];exact MK _ (Iu a)
theorem Ng {a k:Nat} (b:k<32):sP .u32 (a:Int) (k:Int)=((a / 2^k:Nat):Int):=by
 show Int.fdiv (a:Int) (2^(min ((k:Int).toNat) 32))=_;rw[Int.toNat_natCast,Nat.min_eq_left (by omega),show(2:Int)^k=((2^k:Nat):Int) by simp,Int.fdiv_eq_ediv_of_nonneg _ (Int.natCast_nonneg _)];simp
theorem XY {a k:Nat} (d:k<32) (c:a<4294967296):eB .u32 (sP .u32 (a:Int) (k:Int)) 1=1↔a.testBit k=true:=by
 have b:OB 1=1:=yW (a:=1) (by omega);rw[Ng d,Nc,yW (Nat.lt_of_le_of_lt (Nat.div_le_self _ _) c),b,Nat.and_one_is_mod,Nat.testBit_eq_decide_div_mod_eq,decide_eq_true_eq];omega
def Jq (g:GR) (s:Nat):Prop:=(∀v,s.testBit v=true->v<g.2.length)∧∀v u,s.testBit v=true->s.testBit u=true->¬Co g v u
theorem adb {g:GR} (a:VG g):zT 1000 g=some ((2^g.2.length - 1:Nat):Int):=by
 have c:=a.n24;have d:=a.len;have e:=Iu (show g.2.length<32 by omega);have b:1<=2^g.2.length:=Nat.one_le_two_pow;unfold zT;rw[cA (by omega),d,aco (by omega),show((2^g.2.length:Nat):Int) - 1=((2^g.2.length - 1:Nat):Int) by omega];congr 1;exact if_pos ⟨by omega,by omega⟩
theorem qZ.lt {g:GR} {s:Nat} {d:aS} (h:qZ g s d) {v:Nat} (p:v<g.2.length):D d v<(g.2.length:Int):=by
 apply Classical.byContradiction;intro t;have all:∀m:Nat,(m:Int)<=D d v->∃w,w<g.2.length∧D d w=D d v - m:=by
  intro m
  induction m with
  |zero=>intro _;exact⟨v,p,by omega⟩
  |succ m q=>
   intro x;obtain⟨w,e,c⟩:=q (by omega);obtain⟨u,n,_,o⟩:=h.near w e (by omega);exact⟨u,n,by omega⟩
 have b:∀i:Nat,i<g.2.length+1->∃w,w<g.2.length∧D d w=(i:Int):=by
  intro i a;obtain⟨w,e,c⟩:=all (D d v - i).toNat (by omega);exact⟨w,e,by omega⟩
 have:=KE g.2.length (λi=>if a:i<g.2.length+1 then Classical.choose (b i a)else 0) (g.2.length+1) (λi a=>by
  rw[dif_pos a];exact(Classical.choose_spec (b i a)).1) (λi j l f c=>by
  rw[dif_pos (by omega),dif_pos f]at c;have k:=(Classical.choose_spec (b i (by omega))).2;have r:=(Classical.choose_spec (b j f)).2;rw[c]at k;omega)
 omega
def T (e:aS) (k v w:Nat):Int:=if 0<=D e w∧(D e w<k∨(D e w=k∧w<v))then D e w else -1
theorem VJ {g:GR} (G:VG g) {s:Nat} {e:aS} (V:qZ g s e) {k v:Nat} (af:1<=k) (hk:k<g.2.length) (q:v<g.2.length) (C:aS) (J:oB->Option aS) (r:aS)
  (B:C.length=g.2.length) (W:∀w,w<g.2.length->D C w=T e k v w)
  (K:∀d:aS,d.length=g.2.length->(∀w,w<g.2.length->D d w=T e k (v+1) w)->J ((v:Int)+1,d)=some r):
  bI (lB g ((k:Int),C) ((v:Int),C) J) 1000 ((0:Int),C)=some r:=by
 have X:=(G.node v q).deg;have ab:=G.n24;refine AC (λz:oB=>∃i:Nat,z.1=i∧i<=(row g v).length∧z.2.length=g.2.length∧(∀w,w<g.2.length->w≠v->D z.2 w=T e k v w)∧((D z.2 v=T e k v v∧(D z.2 v<0->∀j,j<i->∀u:Nat,(fZ (row g v) j).1=u->D e u≠(k:Int) - 1))∨(D z.2 v=k∧D e v=k))) (λz=>31 - z.1.toNat) ?_ 1000 _ ⟨0,rfl,by omega,B,λw t _=>W w t,.inl ⟨W v q,λ_ j hj=>by omega⟩⟩ (by simp);rintro⟨z,d⟩ aa ⟨i,hz,hi,B,t,H⟩ o;dsimp only at hz B t H;subst hz;have tv:T e k v v=D e v∨T e k v v = -1:=by unfold T;split<;>simp
 have E:(0<=D d v∨i=(row g v).length)->J (wI .i64 ((v:Int)+1),d)=some r:=by
  intro hx;rw[wr (by omega) (by omega)];refine K d B λw y=> ?_;by_cases l:w=v
  ·subst l;rcases H with⟨A,F⟩|⟨A,F⟩
   ·rw[A];unfold T at A ⊢;by_cases a:0<=D e w∧(D e w<k∨(D e w=k∧w<w))
    ·rw[if_pos a,if_pos (by omega)]
    ·rw[if_neg a]at A ⊢;rw[if_neg];intro b;have ac:D e w=k:=by omega
     obtain⟨u,R,⟨j,hj,O⟩,I⟩:=V.near w q (by omega);have ae:i=(row g w).length:=by omega
     exact F (by omega) j (by omega) u O (by omega)
   ·rw[A];unfold T;rw[if_pos (by omega)];omega
  ·rw[t w y l];unfold T;by_cases a:0<=D e w∧(D e w<k∨(D e w=k∧w<v))
   ·rw[if_pos a,if_pos (by omega)]
   ·rw[if_neg a,if_neg (by omega)]
 unfold lB qX qW nO;dsimp only;rw[cA (by omega)];by_cases M:i<(row g v).length
 rotate_left
 ·rw[if_neg (show¬(i:Int)<((row g v).length:Int) by omega),if_neg (by simp)];exact E (.inr (by omega))
 obtain⟨u,R,I,n⟩:=G.port q M;rw[if_pos (show(i:Int)<((row g v).length:Int) by omega),cA (by omega)];by_cases f:at' d (v:Int)<0
 rotate_left
 ·rw[if_neg (by rw[decide_eq_false f];simp)];exact E (.inl (by show 0<=at' d (v:Int);omega))
 have S:u≠v:=by rintro rfl;exact Rs G q n
 rw[if_pos (decide_eq_true f),cA (by omega),cA (show 0<=(i:Int)∧(i:Int)<((row g v).length:Int) by omega),show at' (at' g.2 (v:Int)) (i:Int)=fZ (row g v) i from rfl,I,cA (by omega),wr (x:=(k:Int) - 1) (by omega) (by omega),wr (x:=(i:Int)+1) (by omega) (by omega)];have P:D d v<0:=f;have p:D d v=T e k v v∧(D d v<0->∀j,j<i->∀u:Nat,(fZ (row g v) j).1=u->D e u≠(k:Int) - 1):=by
  rcases H with H|⟨h,_⟩
  ·exact H
  ·omega
 have c:=t u R S;have Q:=V.next u R;by_cases m:at' d (u:Int)=(k:Int) - 1
 ·have Y:D d u=(k:Int) - 1:=m;rw[if_pos m,cA (by omega)];have ad:D e u=(k:Int) - 1:=by
   unfold T at c;by_cases a:0<=D e u∧(D e u<k∨(D e u=k∧u<v))
   ·rw[if_pos a]at c;omega
   ·rw[if_neg a]at c;omega
  have L:D e v=k:=by
   have A:=Q (by omega) v q (G.back q n);have F:=p.1;unfold T at F;by_cases a:0<=D e v∧(D e v<k∨(D e v=k∧v<v))
   ·rw[if_pos a]at F;omega
   ·omega
  refine o _ ⟨i+1,by simp,by omega,by simp[B],λw y l=> ?_,.inr ⟨?_,L⟩⟩ (by dsimp only;omega)
  ·show at' (d.set (Int.toNat (v:Int)) (k:Int)) (w:Int)=_;rw[Int.toNat_natCast,vV _ _ _ _ (by omega),if_neg l];exact t w y l
  ·show at' (d.set (Int.toNat (v:Int)) (k:Int)) (v:Int)=_;rw[Int.toNat_natCast,vV _ _ _ _ (by omega),if_pos Z]
 ·rw[if_neg m];refine o _ ⟨i+1,by simp,by omega,B,t,.inl ⟨p.1,λhn j hj w U he=> ?_⟩⟩ (by dsimp only;omega);by_cases N:j=i
  ·subst N;have:w=u:=by omega
   subst this;unfold T at c;rw[if_pos (by omega)]at c;exact m (by show D d w=_;omega)
  ·exact p.2 hn j (by omega) w U he
theorem Pz {d e:aS} (c:d.length=e.length) (h:∀v,v<d.length->D d v=D e v):d=e:=by
 apply List.ext_getElem c;intro i a b;rw[<-EB a,<-EB b];exact h i a
theorem Al {g:GR} (r:VG g) {s:Nat} (L:s<g.2.length) {e:aS} (m:qZ g s e):jY 1000 g (s:Int)=some e:=by
 have F:=r.n24;unfold jY nN;rw[(PY g r.light).1 r,bB Z,if_neg (by simp),tC,wr (by omega) (by omega),decide_eq_true (by omega),bB Z,if_neg (by simp)];refine AC (λz:List Int×Int=>∃k:Nat,z.2=k∧k<=g.2.length∧z.1=List.replicate k (-1)) (λz=>31 - z.2.toNat) ?_ 1000 _ ⟨0,rfl,by omega,rfl⟩ (by simp);rintro⟨l,z⟩ J ⟨k,b,G,p⟩ x;dsimp only at b p;subst b p;unfold vY;dsimp only;by_cases H:k<g.2.length
 ·rw[if_pos (by omega),cA (by simp only[List.length_replicate,List.length_singleton];omega),wr (by omega) (by omega)];exact x _ ⟨k+1,by simp,by omega,by dsimp only;rw[List.replicate_succ']⟩ (by dsimp only;omega)
 rw[if_neg (by omega)];have i:k=g.2.length:=by omega
 subst i;unfold vX;rw[cA (by simp only[List.length_replicate];omega),Int.toNat_natCast];have y:∀w,w<g.2.length->D ((List.replicate g.2.length (-1:Int)).set s 0) w=T e 1 0 w:=by
  intro w t;have q:=vV (List.replicate g.2.length (-1:Int)) s w 0 (by simp only[List.length_replicate];omega);have b:=m.zero w t;show at' _ _=_;rw[q];by_cases c:w=s
  ·have:=b.2 c;rw[if_pos c];unfold T;rw[if_pos (by omega)];omega
  ·have:D e w≠0:=λh=>c (b.1 h);rw[if_neg c,gR,List.getD_eq_getElem?_getD,List.getElem?_replicate,if_pos t];unfold T;rw[if_neg (by omega)];rfl
 refine AC (λz:oB=>∃k:Nat,z.1=k∧1<=k∧(k<=g.2.length)∧z.2.length=g.2.length∧∀w,w<g.2.length->D z.2 w=T e k 0 w) (λz=>31 - z.1.toNat) ?_ 1000 _ ⟨1,rfl,by omega,by omega,by simp,y⟩ (by simp);rintro⟨z,d⟩ E ⟨k,b,A,G,j,f⟩ n;dsimp only at b j f;subst b;unfold fD qU;dsimp only;by_cases i:k<g.2.length
 rotate_left
 ·rw[if_neg (by omega)];congr 1;refine Pz (j.trans m.len.symm) λv I=> ?_;have q:=m.lt (v:=v) (by omega);have C:=m.lo v (by omega);rw[f v (by omega)];unfold T;by_cases a:0<=D e v
  ·rw[if_pos (by omega)]
  ·rw[if_neg (by omega)];omega
 rw[if_pos (by omega)];refine AC (λz:oB=>∃v:Nat,z.1=v∧v<=g.2.length∧z.2.length=g.2.length∧∀w,w<g.2.length->D z.2 w=T e k v w) (λz=>31 - z.1.toNat) ?_ 1000 _ ⟨0,rfl,by omega,j,f⟩ (by simp);rintro⟨z,d⟩ u ⟨v,b,I,j,f⟩ o;dsimp only at b j f;subst b;unfold iF qV;dsimp only;by_cases B:v<g.2.length
 ·rw[if_pos (by omega)];exact VJ r m A i B d u e j f λK q C=>o _ ⟨v+1,by simp,by omega,q,C⟩ (by dsimp only;omega)
 ·rw[if_neg (by omega),wr (by omega) (by omega)];refine n _ ⟨k+1,by simp,by omega,by omega,j,λw t=> ?_⟩ (by dsimp only;omega);rw[f w t];unfold T;by_cases a:0<=D e w∧(D e w<k∨(D e w=k∧w<v))
  ·rw[if_pos a,if_pos (by omega)]
  ·rw[if_neg a,if_neg (by omega)]
theorem KH (d:aS) (h:d.length<=30):OK (λr:Int=>(¬(∀v,v<d.length->0<=D d v)->r = -1)∧((∀v,v<d.length->0<=D d v) -> -1<=r∧(∀v,v<d.length->D d v<=r)∧(r = -1∨∃v,v<d.length∧D d v=r))) (mS 1000 d):=by
 unfold mS;refine xD (λz:fU=>∃k:Nat,z.2=k∧k<=d.length ∧ -1<=z.1∧(∀v,v<k->0<=D d v∧D d v<=z.1)∧(z.1 = -1∨∃v,v<k∧D d v=z.1)) (λz=>31 - z.2.toNat) ?_ 1000 _ ⟨0,rfl,by omega,by omega,λv c=>by omega,.inl Z⟩ (by simp);rintro⟨m,z⟩ p ⟨k,n,q,j,e,b⟩ f;dsimp only at n j e b;subst n;unfold xR sA;dsimp only;by_cases g:k<d.length
 ·rw[if_pos (by omega),cA (by omega)];by_cases a:at' d (k:Int)<0
  ·rw[if_pos a];exact⟨-1,rfl,λ_=>rfl,λh=>absurd (h k g) (by show¬0<=at' d (k:Int);omega)⟩
  rw[if_neg a,cA (by omega),wr (by omega) (by omega)];have o:0<=D d k:=by show 0<=at' d (k:Int);omega
  refine f _ ⟨k+1,by simp,by omega,by dsimp only;omega,λv c=> ?_,?_⟩ (by dsimp only;omega)
  ·by_cases i:v=k
   ·subst i;show 0<=D d v∧D d v<=max m (D d v);omega
   ·have:=e v (by omega);show 0<=D d v∧D d v<=max m (D d k);omega
  ·by_cases s:m<=D d k
   ·exact .inr ⟨k,by omega,by show D d k=max m (D d k);omega⟩
   ·rcases b with b|⟨v,c,l⟩
    ·left;show max m (D d k) = -1;omega
    ·exact .inr ⟨v,by omega,by show D d v=max m (D d k);omega⟩
 ·rw[if_neg (by omega)];refine⟨m,rfl,λh=>absurd (λv c=>(e v (by omega)).1) h,λ_=>⟨j,λv c=>(e v (by omega)).2,?_⟩⟩
  rcases b with b|⟨v,c,l⟩
  ·exact .inl b
  ·exact .inr ⟨v,by omega,l⟩
theorem Pm {g:GR} (b:VG g) {s:Nat} (i:s<g.2.length) {d:aS} (a:qZ g s d):(∀v,v<d.length->0<=D d v)↔EU g:=by
 have c:=a.len;constructor
 ·intro h u v j e;exact⟨_,yL.trans (Gn b (qZ.pos b a j (h u (by omega)))) (qZ.pos b a e (h v (by omega)))⟩
 ·intro h v e;obtain⟨k,f⟩:=h s v i (by omega);exact(qZ.le b a f).1
theorem Mj {g:GR} (b:VG g) {s:Nat} (c:s<g.2.length):OK (λr:Int=>(EU g->ZB g s r)∧(¬EU g->r = -1)) (iC 1000 g (s:Int)):=by
 obtain⟨d,o,a⟩:=Cj b c;have k:=a.len;have n:=b.n24;unfold iC;obtain⟨r,q,l,m⟩:=KH d (by omega);rw[Al b c a,bB Z,q];have j:=Pm b c a;refine⟨r,rfl,λe=> ?_,λe=>l λh=>e (j.1 h)⟩
 obtain⟨u,f,i⟩:=m (j.2 e);have w:=f s (by omega);have:=(a.zero s c).2 Z;refine⟨d,o,a,λv t=>f v (by omega),?_⟩
 rcases i with i|⟨v,t,p⟩
 ·omega
 ·exact⟨v,by omega,p⟩
theorem SB {g:GR} (c:VG g):(EU g->gU 1000 g=some true)∧(¬EU g->gU 1000 g=some false):=by
 have j:=c.n1;obtain⟨r,a,e,f⟩:=Mj c (s:=0) (by omega);unfold iC at a;unfold gU;obtain⟨d,h,a⟩:=bnd a;obtain⟨x,i,a⟩:=bnd a;cases a;rw[show jY 1000 (g.1,g.2) 0=some d from h,bB Z,i,bB Z];constructor
 ·intro b;rw[decide_eq_true (ZB.pos (by omega) (e b)).1]
 ·intro b;rw[f b];rfl
theorem Yd {X R:Type} {step:X->(X->Option R)->Option R} {K:X->Option R} {bad:R} (N:Nat) (p:Nat->Prop) (I:Nat->X->Prop) (B:Nat)
  (t:∀(k:Nat) x q,k<N->k<B->I k x->p k->∃c,I (k+1) c∧step x q=q c) (l:∀(k:Nat) x q,k<N->k<B->I k x->¬p k->step x q=some bad) (s:∀x q,I N x->N<B->step x q=K x):
  ∀(b:Nat) (x:X),I 0 x->B<=b->(N<B∨∃k,k<N∧k<B∧¬p k)->((∀k,k<N->p k)->∃c,I N c∧bI step b x=K c)∧(¬(∀k,k<N->p k)->bI step b x=some bad):=by
 intro b x e v hB;have r:∀(d a b:Nat) (x:X),I a x->a+d<N->a+d<B->¬p (a+d)->d<b->bI step b x=some bad:=by
  intro d
  induction d with
  |zero=>
   intro a b x e j g i v;obtain⟨f,rfl⟩:∃f,b=f+1:=⟨b - 1,by omega⟩
   exact l a x _ j g e i
  | succ d y =>
   intro a b x e j g i v;obtain⟨f,rfl⟩:∃f,b=f+1:=⟨b - 1,by omega⟩
   by_cases u:p a
   ·obtain⟨c,n,o⟩:=t a x (bI step f) (by omega) (by omega) e u;have o:bI step (f+1) x=bI step f c:=o;rw[o];exact y (a+1) f c n (by omega) (by omega) (by rw[show a+1+d=a+(d+1) by omega];exact i) (by omega)
   ·exact l a x _ (by omega) (by omega) e u
 have m:∀(d a b:Nat) (x:X),I a x->a+d=N->N<B->(∀k,a<=k->k<N->p k)->d<b->∃c,I N c∧bI step b x=K c:=by
  intro d
  induction d with
  |zero=>
   intro a b x e j g i v;obtain⟨f,rfl⟩:∃f,b=f+1:=⟨b - 1,by omega⟩
   obtain rfl:a=N:=by omega
   exact⟨x,e,s x _ e g⟩
  |succ d y=>
   intro a b x e j g i v;obtain⟨f,rfl⟩:∃f,b=f+1:=⟨b - 1,by omega⟩
   obtain⟨c,n,o⟩:=t a x (bI step f) (by omega) (by omega) e (i a (Nat.le_refl _) (by omega));have o:bI step (f+1) x=bI step f c:=o;rw[o];exact y (a+1) f c n (by omega) g (λk j g=>i k (by omega) g) (by omega)
 constructor
 ·intro h;rcases hB with hB|⟨k,j,_,g⟩
  ·exact m N 0 b x e (by omega) hB (λk _ w=>h k w) (by omega)
  ·exact absurd (h k j) g
 ·intro h;have:∃k,k<N∧k<B∧¬p k:=by
   rcases hB with hB|hB
   ·apply Classical.byContradiction;intro A;exact h λk w=>Classical.byContradiction λi=>A ⟨k,w,by omega,i⟩
   ·exact hB
  obtain⟨k,j,g,z⟩:=this;exact r k 0 b x e (by omega) (by omega) (by rw[Nat.zero_add];exact z) (by omega)
theorem VK {a:fP} (q:a.length<=30) {v:Nat} (r:v<a.length):(at' a (v:Int)).length<1000∨∃k,k<(at' a (v:Int)).length∧k<1000∧¬Hr (at' a (v:Int)) v a.length k:=by
 by_cases h:(at' a (v:Int)).length<1000
 ·exact .inl h
 ·right;apply Classical.byContradiction;intro f;have b:∀k,k<40->Hr (at' a (v:Int)) v a.length k:=λk p=>Classical.byContradiction λl=>f ⟨k,by omega,by omega,l⟩;have:=KE a.length (λi=>(fZ (at' a (v:Int)) i).1.toNat) 40 (λi g=>by have:=(b i g).1;omega) (λi j c d o=>by
   have m:=(b i (by omega)).1;have n:=(b j d).1;have e:=(b j d).2.2.2 i c;exact e (by omega))
  omega
theorem NP (g:GR):(VG g->lI 1000 g=some true)∧(¬VG g->lI 1000 g=some false):=by
 unfold lI;rw[tC,bB Z];by_cases y:1<=g.2.length∧g.2.length<=24
 rotate_left
 ·rw[decide_eq_false (by omega)];exact⟨λh=>absurd ⟨h.n1,h.n24⟩ y,λ_=>rfl⟩
 rw[decide_eq_true (by omega),if_neg (by simp)];by_cases G:g.1.length=g.2.length
 rotate_left
 ·rw[decide_eq_true (by omega)];exact⟨λh=>absurd h.len G,λ_=>rfl⟩
 rw[decide_eq_false (by omega)];unfold sY;rw[if_neg (by simp)];have o:∀(v:Nat) (b:Int->Option Bool),v<g.2.length->((∀k,k<v->EZ g k≠EZ g v)->bI (fY g v b) 1000 0=b ((v:Int)+1))∧(¬(∀k,k<v->EZ g k≠EZ g v)->bI (fY g v b) 1000 0=some false):=by
  intro v b e;refine xC v _ (λk a B c=> ?_) (λk a B c=> ?_) (λa=> ?_) 1000 (by omega)
  ·unfold fY;rw[if_pos (by omega),cA (by omega),cA (by omega),if_neg c,wr (by omega) (by omega)]
  ·unfold fY;rw[if_pos (by omega),cA (by omega),cA (by omega),if_pos (Decidable.not_not.1 c)]
  ·unfold fY tB;rw[if_neg (by omega),wr (by omega) (by omega)]
 have l:=xC (step:=fN 1000 g) (K:=nP 1000 g ()) (bad:=false) g.2.length (JA g) (λv b e c=> ?_) (λv b e c=> ?_) (λb=> ?_) 1000 (by omega)
 rotate_left
 ·unfold fN lU;rw[if_pos (by omega),cA (by omega),tC,decide_eq_true c.id,bB Z,if_neg (by simp),cA (by omega),if_neg (show¬((g.2.length:Int)<=((row g v).length:Int))from by have:=c.deg;omega),cA (by omega),(rQ (row g v) v g.2.length (by have:=c.deg;omega) (by omega)).1 c.links,bB Z,if_neg (by simp)];exact(o v b e).1 c.ids
 ·unfold fN lU;rw[if_pos (by omega),cA (by omega),tC];by_cases w:0<=EZ g v∧EZ g v<=255
  rotate_left
  ·rw[decide_eq_false w];rfl
  rw[decide_eq_true w,bB Z,if_neg (by simp),cA (by omega)];by_cases H:(row g v).length<g.2.length
  rotate_left
  ·rw[if_pos (show(g.2.length:Int)<=((row g v).length:Int) by omega)];rfl
  rw[if_neg (show¬(g.2.length:Int)<=((row g v).length:Int) by omega),cA (by omega)];by_cases x:pF (row g v) v g.2.length
  rotate_left
  ·rw[(rQ (row g v) v g.2.length (by omega) (by omega)).2 x];rfl
  rw[(rQ (row g v) v g.2.length (by omega) (by omega)).1 x,bB Z,if_neg (by simp)];exact(o v b e).2 λI=>c ⟨w,H,x,I⟩
 ·unfold fN;rw[if_neg (by omega)]
 by_cases p:∀v,v<g.2.length->JA g v
 rotate_left
 ·exact⟨λh=>absurd h.node p,λ_=>l.2 p⟩
 rw[l.1 p];unfold nP;have f:∀(v:Nat) (b:Int->Option Bool),v<g.2.length->((∀i,i<(row g v).length->yG g v i)->bI (eL 1000 g v b) 1000 0=b ((v:Int)+1))∧(¬(∀i,i<(row g v).length->yG g v i)->bI (eL 1000 g v b) 1000 0=some false):=by
  intro v b e;have M:=(p v e).deg;have n:∀(i:Nat) a,i<(row g v).length->(yG g v i->eL 1000 g v b i a=a ((i:Int)+1))∧(¬yG g v i->eL 1000 g v b i a=some false):=by
   intro i a r;unfold eL;rw[cA (by omega),if_pos (show(i:Int)<((row g v).length:Int) by omega),cA (by omega),cA (show 0<=(i:Int)∧(i:Int)<((row g v).length:Int) by omega)];have O:=((p v e).links i r).1;obtain⟨u,F⟩:∃u:Nat,(fZ (row g v) i).1=u:=⟨(fZ (row g v) i).1.toNat,by omega⟩
   have q:u<g.2.length:=by omega
   unfold yG;rw[show(at' (at' g.2 (v:Int)) (i:Int))=fZ (row g v) i from rfl,F,KI g u v q (by have:=(p u q).deg;omega),bB Z];have E:=(p u q).links;rcases AI (row g u) v with⟨j,t,m,A,z⟩|⟨J,z⟩
   ·rw[z,if_neg (by omega),cA (by omega),cA (show 0<=(j:Int)∧(j:Int)<((at' g.2 (u:Int)).length:Int)from⟨by omega,by have:j<(row g u).length:=t;exact_mod_cast this⟩)];unfold tA;constructor
    ·rintro⟨k,B,s,D⟩;have C:k=j:=by
      rcases Nat.lt_trichotomy k j with h|h|h
      ·exact absurd s (A k h)
      ·exact h
      ·exact absurd (m.trans s.symm) ((E k B).2.2.2 j h)
     subst C;rw[if_neg (by rw[decide_eq_false];simp;exact λh=>h D),wr (by omega) (by omega)]
    ·intro h;rw[if_pos];exact decide_eq_true λN=>h ⟨j,t,m,N⟩
   ·rw[z,if_pos (by decide)];exact⟨fun⟨j,t,m,_⟩=>absurd m (J j t),λ_=>rfl⟩
  refine xC (row g v).length _ (λi a r c=>(n i a r).1 c) (λi a r c=>(n i a r).2 c) (λa=> ?_) 1000 (by omega);unfold eL s_;rw[cA (by omega),if_neg (show¬(((row g v).length:Nat):Int)<((row g v).length:Int) by omega),wr (by omega) (by omega)]
 have d:=xC (step:=fM 1000 g) (K:=some true) (bad:=false) g.2.length (λv=>∀i,i<(row g v).length->yG g v i) (λv b e c=> ?_) (λv b e c=> ?_) (λb=> ?_) 1000 (by omega)
 ·exact⟨λh=>d.1 h.sym,λh=>d.2 λL=>h ⟨y.1,y.2,G,p,L⟩⟩
 ·unfold fM;rw[if_pos (by omega)];exact(f v b e).1 c
 ·unfold fM;rw[if_pos (by omega)];exact(f v b e).2 c
 ·unfold fM sZ;rw[if_neg (by omega)]
theorem Ft (c:fP) (hn:c.length<=30):(LD c->gT 1000 c=some true)∧(¬LD c->gT 1000 c=some false):=by
 unfold gT;have s:∀(v:Nat) (m:List ((Int×Int)×Int)) p,v<c.length->(∀z,z∈m↔OH c v 0 z)->
   (pF (at' c (v:Int)) v c.length->∃Y,(∀z,z∈Y↔OH c (v+1) 0 z)∧bI (cJ c ((v:Int),m) p) 1000 ((0:Int),m)=p ((v:Int)+1,Y))∧
   (¬pF (at' c (v:Int)) v c.length->bI (cJ c ((v:Int),m) p) 1000 ((0:Int),m)=some false):=by
  intro v m p F hm;have L:=VK hn F;have S:=Yd (step:=cJ c ((v:Int),m) p) (K:=λx=>p ((v:Int)+1,x.2)) (bad:=false) (at' c (v:Int)).length (Hr (at' c (v:Int)) v c.length) (λi x=>x.1=(i:Int)∧∀z,z∈x.2↔OH c v i z) 1000 ?_ ?_ ?_ 1000 ((0:Int),m) ⟨rfl,hm⟩ (by omega) L
  ·refine⟨λh=> ?_,λh=>S.2 h⟩
   obtain⟨x,⟨ah,ae⟩,f⟩:=S.1 h;refine⟨x.2,λz=>(ae z).trans ⟨?_,?_⟩,f⟩
   ·rintro⟨a,b,y,e,l⟩;exact⟨a,b,by omega,e,l⟩
   ·rintro⟨a,b,y,e,l⟩;refine⟨a,b,?_,e,l⟩
    by_cases X:a=v
    ·subst X;exact .inr ⟨rfl,e⟩
    ·omega
  ·rintro i ⟨H,g⟩ I N ac ⟨f,d⟩ ⟨p1,p2,p3,p4⟩;dsimp only at f d;subst f;have q:mT (((v:Int),(fZ (at' c (v:Int)) i).1)) g=none:=by
    apply HL;intro w hw;obtain⟨a,b,y,e,l⟩:=(d _).1 hw;simp only[Prod.mk.injEq]at l;obtain⟨⟨C,A⟩,_⟩:=l;have:a=v:=by omega
    subst this;have hb:b<i:=by omega
    exact p4 b hb A.symm
   refine⟨((i:Int)+1,CP (((v:Int),(fZ (at' c (v:Int)) i).1)) (fZ (at' c (v:Int)) i).2 g),⟨by simp,λz=> ?_⟩,?_⟩
   ·dsimp only;rw[PE q,d];constructor
    ·rintro(rfl|⟨a,b,y,e,l⟩)
     ·exact⟨v,i,.inr ⟨rfl,by omega⟩,N,rfl⟩
     ·exact⟨a,b,by omega,e,l⟩
    ·rintro⟨a,b,y,e,l⟩;by_cases J:a=v∧b=i
     ·left;rw[l,J.1,J.2]
     ·right;exact⟨a,b,by omega,e,l⟩
   ·replace p1:0<=(at' (at' c (v:Int)) (i:Int)).1∧(at' (at' c (v:Int)) (i:Int)).1<=(c.length:Int) - 1:=p1;replace p3:1<=(at' (at' c (v:Int)) (i:Int)).2∧(at' (at' c (v:Int)) (i:Int)).2<=15:=p3;unfold cJ h_ jG;dsimp only;rw[if_pos (by omega),cA (by omega),if_neg (by omega),if_neg (by omega),if_neg (by rw[decide_eq_false p2];simp),if_neg (by omega),if_neg (by rw[decide_eq_false (by omega)];simp),q,if_neg (by simp),wr (by omega) (by omega)]
  ·rintro i ⟨H,g⟩ I N ac ⟨f,d⟩ Q;dsimp only at f d;subst f;unfold cJ h_ jG;dsimp only;rw[if_pos (by omega),cA (by omega)];by_cases y:(fZ (at' c (v:Int)) i).1<0
   ·rw[if_pos y,if_pos Z]
   rw[if_neg y];by_cases e:(c.length:Int)<=(fZ (at' c (v:Int)) i).1
   ·rw[if_pos e,if_pos Z]
   rw[if_neg e];by_cases l:(fZ (at' c (v:Int)) i).1=v
   ·rw[if_pos (decide_eq_true l)]
   rw[if_neg (by rw[decide_eq_false l];simp)];by_cases C:(fZ (at' c (v:Int)) i).2<1
   ·rw[if_pos C,if_pos Z]
   rw[if_neg C];by_cases A:15<(fZ (at' c (v:Int)) i).2
   ·rw[if_pos (decide_eq_true A)]
   rw[if_neg (by rw[decide_eq_false A];simp)];have:∃k,k<i∧(fZ (at' c (v:Int)) k).1=(fZ (at' c (v:Int)) i).1:=by
    apply Classical.byContradiction;intro hc;exact Q ⟨by omega,l,by omega,λk O M=>hc ⟨k,O,M⟩⟩
   obtain⟨k,O,M⟩:=this;have n:=(d _).2 ⟨v,k,.inr ⟨rfl,O⟩,by omega,rfl⟩;rw[if_pos];rw[<-M];cases q:mT (((v:Int),(fZ (at' c (v:Int)) k).1)) g with
   |some w=>rfl
   | none => exact absurd n (by
     intro n;exact uN q n)
  ·rintro⟨H,g⟩ I ⟨f,d⟩ _;dsimp only at f d;subst f;unfold cJ m_;dsimp only;rw[if_neg (by omega),wr (by omega) (by omega)]
 have t:=GB (step:=cX 1000 c) (K:=λx=>jF x.2) (bad:=false) c.length (λv=>pF (at' c (v:Int)) v c.length) (λv x=>x.1=(v:Int)∧∀z,z∈x.2↔OH c v 0 z) ?_ ?_ ?_ 1000 ((0:Int),[]) ⟨rfl,λz=>⟨λh=>(by cases h),fun⟨a,b,y,_⟩=>(by omega)⟩⟩ (by omega)
 rotate_left
 ·rintro v ⟨H,g⟩ p F ⟨f,d⟩ Q;dsimp only at f d;subst f;obtain⟨Y,y,e⟩:=(s v g p F d).1 Q;refine⟨((v:Int)+1,Y),⟨by simp,y⟩,?_⟩
  ·unfold cX;dsimp only;rw[if_pos (by omega),cA (by omega)];exact e
 ·rintro v ⟨H,g⟩ p F ⟨f,d⟩ Q;dsimp only at f d;subst f;unfold cX;dsimp only;rw[if_pos (by omega),cA (by omega)];exact(s v g p F d).2 Q
 ·rintro⟨H,g⟩ p ⟨f,d⟩;dsimp only at f d;subst f;unfold cX;dsimp only;rw[if_neg (by omega)]
 by_cases D:∀v,v<c.length->pF (at' c (v:Int)) v c.length
 rotate_left
 ·exact⟨λh=>absurd h.1 D,λ_=>t.2 D⟩
 obtain⟨⟨H,g⟩,⟨f,d⟩,M⟩:=t.1 D;rw[M];dsimp only at d ⊢;have O:jF g=some (decide (∀z∈g,¬(Option.getD (mT (z.1.2,z.1.1) g) (0:Int))≠z.2)):=KA (λz:(Int×Int)×Int=>(Option.getD (mT (z.1.2,z.1.1) g) (0:Int))≠z.2) g;rw[O];have E:(∀z∈g,¬(Option.getD (mT (z.1.2,z.1.1) g) (0:Int))≠z.2)↔∀v,v<c.length->∀i,i<(at' c (v:Int)).length->yG ([],c) v i:=by
  constructor
  ·intro h v F i N;have hw:=(D v F i N).2.2.1;have n:=(d (((v:Int),(fZ (at' c (v:Int)) i).1),(fZ (at' c (v:Int)) i).2)).2 ⟨v,i,.inl F,N,rfl⟩;have e:=Decidable.not_not.1 (h _ n);dsimp only at e;cases q:mT ((fZ (at' c (v:Int)) i).1,(v:Int)) g with
   |none=>rw[q]at e;simp only[Option.getD]at e;omega
   | some w =>
    rw[q]at e;simp only[Option.getD]at e;obtain⟨a,b,l,C,A⟩:=(d _).1 (Cg q);simp only[Prod.mk.injEq]at A;obtain⟨⟨U,V⟩,h8⟩:=A;refine⟨b,?_,?_,?_⟩
    ·show b<(at' c (fZ (at' c (v:Int)) i).1).length;rw[U];exact C
    ·show(fZ (at' c (fZ (at' c (v:Int)) i).1) b).1=v;rw[U];exact V.symm
    ·show(fZ (at' c (fZ (at' c (v:Int)) i).1) b).2=(fZ (at' c (v:Int)) i).2;rw[U,<-h8];exact e
  ·intro h z hz ad;obtain⟨a,b,l,C,rfl⟩:=(d z).1 hz;have X:a<c.length:=by omega
   apply ad;obtain⟨j,r,o,B⟩:=h a X b C;have hu:=(D a X b C).1;obtain⟨u,R⟩:∃u:Nat,(fZ (at' c (a:Int)) b).1=u:=⟨(fZ (at' c (a:Int)) b).1.toNat,by omega⟩
   replace r:j<(at' c (fZ (at' c (a:Int)) b).1).length:=r;replace o:(fZ (at' c (fZ (at' c (a:Int)) b).1) j).1=a:=o;replace B:(fZ (at' c (fZ (at' c (a:Int)) b).1) j).2=(fZ (at' c (a:Int)) b).2:=B;rw[R]at r o B;have G:u<c.length:=by omega
   dsimp only;rw[R,<-B];have n:=(d (((u:Int),(fZ (at' c (u:Int)) j).1),(fZ (at' c (u:Int)) j).2)).2 ⟨u,j,.inl G,r,rfl⟩;rw[o]at n;cases q:mT ((u:Int),(a:Int)) g with
   |none=>exact absurd n (uN q)
   | some w =>
    obtain⟨a',T,af,aa,A⟩:=(d _).1 (Cg q);simp only[Prod.mk.injEq]at A;obtain⟨⟨U,V⟩,h8⟩:=A;have:a'=u:=by omega
    subst this;have ab:T=j:=by
     rcases Nat.lt_trichotomy T j with P|P|P
     ·exact absurd (V.symm.trans o.symm) ((D a' G j r).2.2.2 T P)
     ·exact P
     ·exact absurd (o.trans V) ((D a' G T aa).2.2.2 j P)
    subst ab;exact h8
 by_cases W:∀v,v<c.length->∀i,i<(at' c (v:Int)).length->yG ([],c) v i
 ·rw[decide_eq_true (E.2 W)];exact⟨λ_=>rfl,λh=>absurd ⟨D,W⟩ h⟩
 ·rw[decide_eq_false (λh=>W (E.1 h))];exact⟨λh=>absurd h.2 W,λ_=>rfl⟩
theorem ME (g:GR):(VG g->gE 1000 g=some true)∧(¬VG g->gE 1000 g=some false):=by
 unfold gE qC qD;by_cases e:g.1.length<1
 ·rw[if_pos (by omega)];exact⟨λh=>by have:=h.n1;have:=h.len;omega,λ_=>rfl⟩
 rw[if_neg (by omega)];by_cases f:24<g.1.length
 ·rw[if_pos (by omega)];exact⟨λh=>by have:=h.n24;have:=h.len;omega,λ_=>rfl⟩
 rw[if_neg (by omega)];by_cases d:g.1.length=g.2.length
 rotate_left
 ·rw[decide_eq_true (by omega)];exact⟨λh=>absurd h.len d,λ_=>rfl⟩
 rw[decide_eq_false (by omega),if_neg (by simp)];by_cases b:∀k,k<g.1.length->Wc g.1 k
 rotate_left
 ·rw[(uV g.1 (by omega)).2 b,bB Z];exact⟨λh=>absurd (λk i=>⟨(h.node k (by omega)).id,(h.node k (by omega)).ids⟩) b,λ_=>rfl⟩
 rw[(uV g.1 (by omega)).1 b,bB Z,if_pos Z];by_cases a:LD g.2
 ·rw[(Ft g.2 (by omega)).1 a];exact⟨λ_=>rfl,λh=>absurd ⟨by omega,by omega,d,λv c=>⟨(b v (by omega)).1,RO c (a.1 v c),a.1 v c,(b v (by omega)).2⟩,a.2⟩ h⟩
 ·rw[(Ft g.2 (by omega)).2 a];exact⟨λh=>absurd ⟨λv c=>(h.node v c).links,h.sym⟩ a,λ_=>rfl⟩
abbrev OC:=Dw
theorem wM (v m:Int) (g:1<=m) (h:m<=4611686018427387904):iD 1000 v m=some (v%m):=by
 unfold iD rM;rw[if_neg (by omega),cA (by omega)];have c:=Int.tmod_eq_emod (a:=v) (b:=m);have f:=Int.emod_nonneg v (show m≠0 by omega);have i:=Int.emod_lt_of_pos v (show 0<m by omega);by_cases e:0<=v∨m∣v
 ·rw[if_pos e]at c;have d:v.tmod m=v%m:=by simpa using c
  rw[d,if_neg (by omega)]
 ·rw[if_neg e]at c;have:(m.natAbs:Int)=m:=by omega
  rw[c,if_pos (by omega),wr (by omega) (by omega)];congr 1;omega
theorem O_ (l:aS) (i:Int) (h:0<=i):sW 1000 l i=some (at' l i):=by
 unfold sW;by_cases a:i<(l.length:Int)
 ·rw[if_pos a,cA ⟨h,a⟩]
 ·rw[if_neg a];unfold at';rw[List.getD_eq_getElem?_getD,List.getElem?_eq_none (by omega)];rfl
theorem PN {i:Type} [DecidableEq i]:∀(e c:List i),e.Nodup->(∀x∈e,x∈c)->e.length<=c.length
 | [],_,_,_=>Nat.zero_le _
 | a :: t, c, hn, hs => by
  have b:=List.nodup_cons.1 hn;have f:=hs a (List.mem_cons_self ..);have:=PN t (c.erase a) b.2 λx h=>by
   have d:x≠a:=λj=>b.1 (j▸h);exact(List.mem_erase_of_ne d).2 (hs x (List.mem_cons_of_mem _ h))
  rw[List.length_erase_of_mem f]at this;have g:0<c.length:=List.length_pos_of_mem f;simp only[List.length_cons];omega
theorem Zd (d:Int) (c:aS) (t:Nat) (k:t<=200) (h:∀s,s<t->(d+(s:Int))%256∈c):t<=c.length:=by
 have:=PN ((List.range t).map λs:Nat=>(d+(s:Int))%256) c (by
  rw[List.nodup_iff_pairwise_ne,List.pairwise_map];refine List.Pairwise.imp_of_mem ?_ List.pairwise_lt_range;intro a b e g f;rw[List.mem_range]at e g;omega) (λx j=>by
  obtain⟨s,i,rfl⟩:=List.mem_map.1 j;exact h s (List.mem_range.1 i))
 simpa using this
structure Jp (ids:aS):Prop where
 rng:∀y∈ids,0<=y∧y<=255
 nd:ids.Nodup
theorem Jp.snoc {c:aS} {y:Int} (h:Jp c) (j:0<=y∧y<=255) (i:y∉c):Jp (c++[y]):=by
 refine⟨λz d=> ?_,?_⟩
 ·rcases List.mem_append.1 d with d|d
  ·exact h.rng z d
  ·rw[List.mem_singleton.1 d];exact j
 ·rw[List.nodup_append];refine⟨h.nd,by simp,?_⟩
  intro a e b f;rw[List.mem_singleton.1 f];exact λg=>i (g▸e)
theorem Cf {a:Type} [Inhabited a] {l:List a} {i:Nat} (h:i<l.length):at' l (i:Int)∈l:=by
 rw[gR,List.getD_eq_getElem?_getD,List.getElem?_eq_getElem h];exact List.getElem_mem h
theorem EE {a:Type} [Inhabited a] {l:List a} {x:a} (h:x∈l):∃i,i<l.length∧at' l ((i:Nat):Int)=x:=by
 obtain⟨i,b,c⟩:=List.getElem_of_mem h;refine⟨i,b,?_⟩
 rw[gR,List.getD_eq_getElem?_getD,List.getElem?_eq_getElem b];exact c
theorem XL {Q:List Int×fP->Prop} {a:aS} (H:a.length<=24) (b:Int) (r:oB->Option (List Int×fP))
  (m:∀y,0<=y->y<=255->y∉a->OK Q (r ((a.length:Int)+1,a++[y]))):OK Q (bI (lN ((a.length:Int),a) r) 1000 (b%256,0)):=by
 refine xD (λs:fU=>∃(t u:Nat),s.1=(b+(t:Int))%256∧s.2=u∧u<=a.length∧t<=a.length∧(∀k,k<t->(b+(k:Int))%256∈a)∧∀j,j<u->at' a (j:Int)≠s.1)
  (λs=>(a.length - ((s.1 - b)%256).toNat)*30+(a.length - s.2.toNat)) ?_ 1000 _ ⟨0,0,by simp,rfl,by omega,by omega,λk p=>by omega,λj o=>by omega⟩ ?_
 ·rintro⟨i,j⟩ z ⟨t,u,g,v,F,C,w,l⟩ d;dsimp only at g v l;subst v;unfold lN sO lM;dsimp only;by_cases x:(u:Int)<(a.length:Int)
  ·rw[if_pos x,cA (by omega)];by_cases f:at' a (u:Int)=i
   ·rw[if_pos f,cA (by decide)];have n:(b+(t:Int))%256∈a:=by rw[<-g,<-f];exact Cf (by omega)
    have c:∀k,k<t+1->(b+(k:Int))%256∈a:=λk p=>by
     rcases Nat.lt_succ_iff_lt_or_eq.1 p with h|h
     ·exact w k h
     ·subst h;exact n
    have E:=Zd b a (t+1) (by omega) c;have G:0<=i∧i<=255:=by omega
    rw[wr (by omega) (by omega),Int.tmod_eq_emod_of_nonneg (by omega),wr (by omega) (by omega)];refine d _ ⟨t+1,0,?_,by simp,by omega,E,c,λj o=>by omega⟩ ?_
    ·dsimp only;omega
    ·dsimp only;have A:((i+1)%256 - b)%256=(t:Int)+1:=by omega
     have B:(i - b)%256=(t:Int):=by omega
     rw[A,B];omega
   ·rw[if_neg f,wr (by omega) (by omega)];refine d _ ⟨t,u+1,g,by dsimp only;omega,by omega,C,w,λj o=> ?_⟩ ?_
    ·rcases Nat.lt_succ_iff_lt_or_eq.1 o with h|h
     ·exact l j h
     ·subst h;exact f
    ·dsimp only;omega
  ·rw[if_neg x];rw[cA (by simp;omega),wr (by omega) (by omega)];refine m i (by omega) (by omega) λD=> ?_;obtain⟨k,p,q⟩:=EE D;exact l k (by omega) q
 ·dsimp only;have e:(b%256 - b)%256=0:=by omega
  rw[e];omega
theorem Yy (x:OC) (a:Nat) (u:1<=a) (k:a<=24):OK (λg:GR=>Jp g.1∧g.2=List.replicate g.1.length []∧1<=g.1.length∧g.1.length<=a) (pK 1000 x (a:Int)):=by
 unfold pK;rw[bB (wM _ _ (by omega) (by omega))];generalize f:(wI .i64 (x.1 - 1))%(a:Int)=r;have m:0<=r:=by rw[<-f];exact Int.emod_nonneg _ (by omega)
 have n:r<a:=by rw[<-f];exact Int.emod_lt_of_pos _ (by omega)
 have i:wI .i64 (1+r)=1+r:=wr (by omega) (by omega);rw[i,cA (by omega)];refine xD (λs:oB=>s.1=(s.2.length:Int)∧(s.2.length:Int)<=1+r∧Jp s.2) (λs=>(1+r - s.1).toNat) ?_ 1000 _ ⟨rfl,by simp;omega,⟨λy o=>by simp at o,List.nodup_nil⟩⟩ (by dsimp only;omega);rintro⟨v,d⟩ j ⟨e,l,c⟩ b;dsimp only at e l c;subst e;unfold jJ oS;dsimp only;rw[i];by_cases h:(d.length:Int)<1+r
 ·rw[if_pos h,bB (O_ _ _ (by omega)),bB (wM _ _ (by decide) (by decide))];exact XL (by omega) _ j λy p q t=>b _ ⟨by simp,by simp;omega,c.snoc ⟨p,q⟩ t⟩ (by dsimp only;omega)
 ·rw[if_neg h];refine⟨_,rfl,c,?_,by dsimp only;omega,by dsimp only;omega⟩
  dsimp only;congr 1;omega
structure VM (ids:aS) (P:fP):Prop where
 n1:1<=P.length
 n24:P.length<=24
 len:ids.length=P.length
 ok:Jp ids
 nd:∀v:Nat,v<P.length->((at' P (v:Int)).map Prod.fst).Nodup
 lk:∀v:Nat,v<P.length->∀x∈at' P (v:Int),(0<=x.1∧x.1<=(P.length:Int) - 1)∧x.1≠(v:Int)∧(1<=x.2∧x.2<=15)∧((v:Int),x.2)∈at' P x.1
theorem Yz {d:Type} [Inhabited d] {l:List d} (h:l.Nodup) {i j:Nat} (b:i<l.length) (c:j<l.length) (a:i<j):at' l (i:Int)≠at' l (j:Int):=by
 rw[gR,gR,List.getD_eq_getElem?_getD,List.getD_eq_getElem?_getD,List.getElem?_eq_getElem b,List.getElem?_eq_getElem c];exact List.pairwise_iff_getElem.1 (List.nodup_iff_pairwise_ne.1 h) i j b c a
theorem VM.vg {ids:aS} {P:fP} (h:VM ids P):VG (ids,P):=by
 have hlen:=h.len;have links:∀v,v<P.length->pF (row (ids,P) v) v P.length:=by
  intro v hv i hi;have hm:fZ (row (ids,P) v) i∈at' P (v:Int):=Cf hi;obtain⟨a1,a2,a3,_⟩:=h.lk v hv _ hm;refine⟨a1,a2,a3,λk hk=> ?_⟩
  have hk2:k<(row (ids,P) v).length:=by omega
  have:=List.pairwise_iff_getElem.1 (List.nodup_iff_pairwise_ne.1 (h.nd v hv)) k i (by simpa using hk2) (by simpa using hi) hk;rw[List.getElem_map,List.getElem_map]at this;have e:∀j (hj:j<(row (ids,P) v).length),fZ (row (ids,P) v) j=(at' P (v:Int))[j]'hj:=λj hj=>by
   unfold fZ;rw[gR,List.getD_eq_getElem?_getD,List.getElem?_eq_getElem hj];rfl
  rw[e k hk2,e i hi];exact this
 refine⟨h.n1,h.n24,h.len,λv hv=>⟨?_,RO hv (links v hv),links v hv,λk hk=> ?_⟩,λv hv i hi=> ?_⟩
 ·exact h.ok.rng _ (Cf (by dsimp only at hv ⊢;omega))
 ·exact Yz h.ok.nd (by dsimp only at hv ⊢;omega) (by dsimp only at hv ⊢;omega) hk
 ·have hm:fZ (row (ids,P) v) i∈at' P (v:Int):=Cf hi;obtain⟨_,_,_,a4⟩:=h.lk v hv _ hm;obtain⟨j,hj,he⟩:=EE a4;exact⟨j,hj,by unfold fZ;rw[he],by unfold fZ;rw[he]⟩
theorem VM.start {a:aS} (h:Jp a) (d:1<=a.length) (b:a.length<=24):VM a (List.replicate a.length []):=by
 have e:∀v:Nat,at' (List.replicate a.length ([]:fS)) (v:Int)=[]:=λv=>by
  rw[gR,List.getD_eq_getElem?_getD,List.getElem?_replicate];split<;>rfl
 refine⟨by simpa using d,by simpa using b,by simp,h,λv _=>by rw[e];exact List.nodup_nil,λv _ x c=> ?_⟩
 rw[e]at c;cases c
def mV (P:fP) (v u:Nat):Prop:=∃x∈at' P (v:Int),x.1=(u:Int)
theorem Mc (d:aS) (P:fP) (a b:Nat) (u:a<P.length) (w:(at' P (a:Int)).length<=900):(mV P a b->nL 1000 (d,P) a b=some true)∧(¬mV P a b->nL 1000 (d,P) a b=some false):=by
 have c:∀(r:Bool),(r=true->mV P a b)->(r=false->¬mV P a b)->nL 1000 (d,P) a b=some r:=by
  intro r q p;unfold nL;refine AC (λi:Int=>∃k:Nat,i=k∧k<=(at' P (a:Int)).length∧∀j,j<k->(at' (at' P (a:Int)) ((j:Nat):Int)).1≠(b:Int)) (λi=>(at' P (a:Int)).length - i.toNat) ?_ 1000 0 ⟨0,rfl,by omega,λj m=>by omega⟩ (by omega);rintro i t ⟨k,rfl,v,f⟩ g;unfold Aq vQ;dsimp only;rw[cA (by omega)];by_cases o:(k:Int)<((at' P (a:Int)).length:Int)
  ·rw[if_pos o,cA (by omega),cA (by omega)];by_cases e:(at' (at' P (a:Int)) (k:Int)).1=(b:Int)
   ·rw[if_pos e];cases r with
    |true=>rfl
    |false=>exact absurd ⟨_,Cf (by omega),e⟩ (p Z)
   ·rw[if_neg e,wr (by omega) (by omega)];refine g _ ⟨k+1,by omega,by omega,λj m=> ?_⟩ (by omega);rcases Nat.lt_succ_iff_lt_or_eq.1 m with h|h
    ·exact f j h
    ·subst h;exact e
  ·rw[if_neg o];cases r with
   |false=>rfl
   |true=>
    obtain⟨x,s,e⟩:=q Z;obtain⟨j,m,n⟩:=EE s;exact absurd (by rw[n];exact e) (f j (by omega))
 exact⟨λh=>c true (λ_=>h) (λl=>by cases l),λh=>c false (λl=>by cases l) (λ_=>h)⟩
theorem aaf (P:fP) (a b:Nat) (x y:fS) (e:a<P.length) (f:b<P.length) (v:Nat):at' ((P.set a x).set b y) (v:Int)=if v=b then y else if v=a then x else at' P (v:Int):=by
 rw[gR,gR,List.getD_eq_getElem?_getD,List.getD_eq_getElem?_getD,List.getElem?_set,List.getElem?_set];by_cases h:v=b
 ·subst h;rw[if_pos Z,if_pos Z,if_pos (by simpa using f)];rfl
 ·rw[if_neg (λd=>h d.symm),if_neg h];by_cases c:v=a
  ·subst c;rw[if_pos Z,if_pos Z,if_pos e];rfl
  ·rw[if_neg (λd=>c d.symm),if_neg c]
theorem VM.add {m:aS} {P:fP} (h:VM m P) {a b:Nat} {w:Int} (J:a<P.length) (A:b<P.length) (p:a≠b) (B:¬mV P a b) (D:1<=w∧w<=15)
  {x y:fS} (E:x.Perm (((b:Int),w)::at' P (a:Int))) (F:y.Perm (((a:Int),w)::at' P (b:Int))):
  VM m ((P.set a x).set b y)∧(∀v u,mV P v u->mV ((P.set a x).set b y) v u)∧mV ((P.set a x).set b y) a b:=by
 have r:¬mV P b a:=by
  rintro⟨z,g,i⟩;obtain⟨_,_,_,l⟩:=h.lk b A z g;rw[i]at l;exact B ⟨_,l,rfl⟩
 have C:=aaf P a b x y J A;have k:((P.set a x).set b y).length=P.length:=by simp
 have d:∀(v:Nat) (z:fU),z∈at' ((P.set a x).set b y) (v:Int)↔z∈at' P (v:Int)∨(v=b∧z=((a:Int),w))∨(v=a∧z=((b:Int),w)):=by
  intro v z;rw[C v];by_cases f:v=b
  ·subst f;rw[if_pos Z,F.mem_iff,List.mem_cons];constructor
   ·rintro(c|c)
    ·exact .inr (.inl ⟨rfl,c⟩)
    ·exact .inl c
   ·rintro(c|⟨_,c⟩|⟨e,_⟩)
    ·exact .inr c
    ·exact .inl c
    ·exact absurd e.symm p
  ·rw[if_neg f];by_cases c:v=a
   ·subst c;rw[if_pos Z,E.mem_iff,List.mem_cons];constructor
    ·rintro(e|e)
     ·exact .inr (.inr ⟨rfl,e⟩)
     ·exact .inl e
    ·rintro(e|⟨n,_⟩|⟨_,e⟩)
     ·exact .inr e
     ·exact absurd n f
     ·exact .inl e
   ·rw[if_neg c];exact⟨.inl,λe=>e.elim id λn=>n.elim (λo=>absurd o.1 f) λo=>absurd o.1 c⟩
 refine⟨⟨by rw[k];exact h.n1,by rw[k];exact h.n24,by rw[k];exact h.len,h.ok,λv j=> ?_,λv j z g=> ?_⟩,λv u s=> ?_,?_⟩
 ·rw[k]at j;rw[C v];by_cases f:v=b
  ·subst f;rw[if_pos Z,(F.map Prod.fst).nodup_iff,List.map_cons,List.nodup_cons];exact⟨λq=>by obtain⟨z,g,i⟩:=List.mem_map.1 q;exact r ⟨z,g,i⟩,h.nd v j⟩
  ·rw[if_neg f];by_cases c:v=a
   ·subst c;rw[if_pos Z,(E.map Prod.fst).nodup_iff,List.map_cons,List.nodup_cons];exact⟨λq=>by obtain⟨z,g,i⟩:=List.mem_map.1 q;exact B ⟨z,g,i⟩,h.nd v j⟩
   ·rw[if_neg c];exact h.nd v j
 ·rw[k]at j ⊢;rcases(d v z).1 g with f|⟨rfl,rfl⟩|⟨rfl,rfl⟩
  ·obtain⟨G,H,I,t⟩:=h.lk v j z f;refine⟨G,H,I,?_⟩
   obtain⟨u,K⟩:∃u:Nat,z.1=u:=⟨z.1.toNat,by omega⟩
   rw[K]at t ⊢;exact(d u _).2 (.inl t)
  ·exact⟨by dsimp only;omega,by dsimp only;omega,D,(d a _).2 (.inr (.inr ⟨rfl,rfl⟩))⟩
  ·exact⟨by dsimp only;omega,by dsimp only;omega,D,(d b _).2 (.inr (.inl ⟨rfl,rfl⟩))⟩
 ·obtain⟨z,g,i⟩:=s;exact⟨z,(d v z).2 (.inl g),i⟩
 ·exact⟨_,(d a _).2 (.inr (.inr ⟨rfl,rfl⟩)),rfl⟩
theorem TW (x:OC) {c:aS} {P:fP} (h:VM c P) {a b:Nat} {w:Int} (g:a<P.length) (m:b<P.length) (o:1<=w∧w<=15):
  ∃f,nE 1000 x (c,P) a b w=some f∧VM c f∧f.length=P.length∧(∀v u,mV P v u->mV f v u)∧(a≠b->mV f a b):=by
 have p:=h.n24;have n:∀v:Nat,v<P.length->(at' P (v:Int)).length<24:=λv s=>by
  have:=(h.vg.node v s).deg;have e:(at' P (v:Int)).length=(row (c,P) v).length:=rfl;dsimp only at this;omega
 have t:=n a g;have z:=n b m;unfold nE;by_cases d:a=b
 ·subst d;rw[if_pos Z];exact⟨P,rfl,h,rfl,λ_ _ h=>h,λr=>absurd Z r⟩
 rw[if_neg (by omega)];by_cases i:mV P a b
 ·rw[bB ((Mc c P a b g (by omega)).1 i)];exact⟨P,rfl,h,rfl,λ_ _ h=>h,λ_=>i⟩
 rw[bB ((Mc c P a b g (by omega)).2 i)];unfold pH;rw[if_neg (by simp)];dsimp only;cases q:x.2.2.2.2.2 with
 | true =>
  rw[if_pos Z];have e:at' (P.set (Int.toNat (a:Int)) ([((b:Int),w)]++at' P (a:Int))) (b:Int)=at' P (b:Int):=by
   rw[gR,List.getD_eq_getElem?_getD,List.getElem?_set,if_neg (by simpa using d),gR,List.getD_eq_getElem?_getD]
  rw[e];rw[cA (by omega),cA (by simp;omega),cA (by omega),cA (by simp;omega),cA (by simp;omega),cA (by simp;omega)];obtain⟨j,k,l⟩:=h.add g m d i o (List.Perm.refl _) (List.Perm.refl _);exact⟨_,rfl,j,by simp,k,λ_=>l⟩
 |false=>
  rw[if_neg (by simp)];rw[cA (by omega),cA (by omega),cA (by simp;omega),cA (by simp;omega),cA (by simpa using d),cA (by simp;omega),cA (by simp;omega)];obtain⟨j,k,l⟩:=h.add g m d i o (x:=at' P (a:Int)++[((b:Int),w)]) (y:=at' P (b:Int)++[((a:Int),w)]) List.perm_append_comm List.perm_append_comm;exact⟨_,rfl,j,by simp,k,λ_=>l⟩
theorem MG (v:Int):wI .i64 (1+v%15)=1+v%15∧1<=1+v%15∧1+v%15<=15:=by
 have:=Int.emod_nonneg v (show(15:Int)≠0 by decide);have:=Int.emod_lt_of_pos v (show(0:Int)<15 by decide);exact⟨wr (by omega) (by omega),by omega,by omega⟩
theorem abZ (x:OC) (c:Nat) (F:1<=c) (m:c<=24):
  OK (λg:GR=>VM g.1 g.2∧g.2.length<=c∧∀v:Nat,1<=v->v<g.2.length->∃u:Nat,u<v∧mV g.2 u v) (nD 1000 x (c:Int)):=by
 unfold nD;obtain⟨⟨d,S⟩,D,h,z,e,q⟩:=Yy x c F m;dsimp only at z h e q;rw[bB D];dsimp only;subst z;have r:=VM.start h e (by omega);refine xD (λs:Int×fP=>∃k:Nat,s.1=k∧1<=k∧k<=d.length∧VM d s.2∧s.2.length=d.length∧∀v:Nat,1<=v->v<k->∃u:Nat,u<v∧mV s.2 u v) (λs=>d.length - s.1.toNat) ?_ 1000 _ ⟨1,rfl,by omega,e,r,by simp,λv l f=>by omega⟩ (by dsimp only;omega);rintro⟨i,P⟩ T ⟨k,B,H,I,p,G,o⟩ j;dsimp only at B p G o;subst B;unfold tY pG;dsimp only;by_cases A:(k:Int)<(P.length:Int)
 ·rw[if_pos A,wr (by omega) (by omega),bB (O_ _ _ (by omega)),bB (wM _ _ (by omega) (by omega)),bB (O_ _ _ (by omega)),bB (wM _ _ (by decide) (by decide))];obtain⟨N,O,Q⟩:=MG (at' x.2.2.1 ((k:Int) - 1));rw[N];generalize C:at' x.2.1 ((k:Int) - 1)%(k:Int)=u;have U:0<=u:=by rw[<-C];exact Int.emod_nonneg _ (by omega)
  have V:u<k:=by rw[<-C];exact Int.emod_lt_of_pos _ (by omega)
  obtain⟨u,rfl⟩:∃n:Nat,u=n:=⟨u.toNat,by omega⟩
  obtain⟨R,E,K,W,L,M⟩:=TW x p (a:=u) (b:=k) (by omega) (by omega) ⟨O,Q⟩;rw[bB E,wr (by omega) (by omega)];refine j _ ⟨k+1,by dsimp only;omega,by omega,by omega,K,by dsimp only;omega,λv l f=> ?_⟩ (by dsimp only;omega);by_cases y:v=k
  ·subst y;exact⟨u,by omega,M (by omega)⟩
  ·obtain⟨J,t,w⟩:=o v l (by omega);exact⟨J,t,L _ _ w⟩
 ·rw[if_neg A];exact⟨_,rfl,p,by dsimp only;omega,λv l f=>o v l (by dsimp only at f;omega)⟩
theorem abA (x:OC) {c:aS} {P:fP} (h:VM c P):OK (λg:GR=>VM g.1 g.2∧g.1=c∧g.2.length=P.length∧∀v u,mV P v u->mV g.2 v u) (nF 1000 x (c,P)):=by
 unfold nF;have z:=h.n24;have B:=h.n1;refine xD (λs:Int×fP=>∃k:Nat,s.1=k∧k<=100∧VM c s.2∧s.2.length=P.length∧∀v u,mV P v u->mV s.2 v u) (λs=>200 - s.1.toNat) ?_ 1000 _ ⟨P.length,rfl,by omega,h,rfl,λ_ _ h=>h⟩ (by dsimp only;omega);rintro⟨i,Q⟩ w ⟨k,p,A,f,o,e⟩ d;dsimp only at p f o e;subst p;have done:∀b:Bool,b=false->OK (λg:GR=>VM g.1 g.2∧g.1=c∧g.2.length=P.length∧∀v u,mV P v u->mV g.2 v u) (mF 1000 x (c,P) ((k:Int),Q) w b):=by
  rintro b rfl;exact⟨_,rfl,f,rfl,o,e⟩
 unfold pI;dsimp only;rw[wr (by omega) (by omega)];by_cases l:(k:Int)+1<(x.2.1.length:Int)
 rotate_left
 ·rw[if_neg l];exact done _ Z
 rw[if_pos l];by_cases m:(k:Int)<60
 rotate_left
 ·exact done _ (decide_eq_false m)
 rw[decide_eq_true m];unfold mF;dsimp only;rw[if_pos Z,cA (by omega),bB (wM _ _ (by omega) (by omega)),wr (by omega) (by omega),cA (by omega),bB (wM _ _ (by omega) (by omega)),bB (O_ _ _ (by omega)),bB (wM _ _ (by decide) (by decide))];obtain⟨E,F,G⟩:=MG (at' x.2.2.1 (k:Int));rw[E];generalize r:at' x.2.1 (k:Int)%(P.length:Int)=u;have K:0<=u:=by rw[<-r];exact Int.emod_nonneg _ (by omega)
 have L:u<P.length:=by rw[<-r];exact Int.emod_lt_of_pos _ (by omega)
 obtain⟨u,rfl⟩:∃n:Nat,u=n:=⟨u.toNat,by omega⟩
 generalize q:at' x.2.1 ((k:Int)+1)%(P.length:Int)=t;have I:0<=t:=by rw[<-q];exact Int.emod_nonneg _ (by omega)
 have J:t<P.length:=by rw[<-q];exact Int.emod_lt_of_pos _ (by omega)
 obtain⟨t,rfl⟩:∃n:Nat,t=n:=⟨t.toNat,by omega⟩
 obtain⟨H,y,C,M,D,N⟩:=TW x f (a:=u) (b:=t) (by omega) (by omega) ⟨F,G⟩;rw[bB y,wr (by omega) (by omega)];exact d _ ⟨k+2,by dsimp only;omega,by omega,C,by dsimp only;omega,λv u j=>D _ _ (e v u j)⟩ (by dsimp only;omega)
theorem No (x:OC) (a:Nat) (m:1<=a) (c:a<=24):
  OK (λg:GR=>VM g.1 g.2∧g.2.length<=a∧∀v:Nat,1<=v->v<g.2.length->∃u:Nat,u<v∧mV g.2 u v) (fK 1000 x (a:Int)):=by
 unfold fK;obtain⟨⟨s,P⟩,k,o,n,i⟩:=abZ x a m c;obtain⟨⟨j,t⟩,l,b,p,d,h⟩:=abA x o;rw[bB k,bB l];dsimp only at n i b p d h;refine⟨_,rfl,b,by dsimp only;omega,λv r f=> ?_⟩
 obtain⟨u,q,e⟩:=i v r (by dsimp only at f;omega);exact⟨u,q,h _ _ e⟩
end Go.Proofs.YtmdlcmbplnhdnaaGreatDoor
namespace Go.Proofs.YtmdlcmbplnhdnaaGreatDoor
open Go Go.Sx
abbrev val (c:bG) (v x:Nat):Int:=at' (at' c (v:Int)) (x:Int)
def aci (g:GR) (b:Int) (v:Nat) (a:Int):Prop:=if b = -1 then -1<=a∧a<=((row g v).length:Int) - 1 else 0<=a∧a<=b
instance (g:GR) (top:Int) (v:Nat) (a:Int):Decidable (aci g top v a):=by unfold aci;infer_instance
def iR (g:GR):Nat->Int
 |0=>0
 |k+1=>max (iR g k) (at' g.1 (k:Int))
theorem Ku {g:GR} (a:VG g):∀k,k<=g.2.length->0<=iR g k∧iR g k<=255
 |0,_=>by simp[iR]
 |k+1,h=>by
  have b:=Ku a k (by omega);have c:0<=at' g.1 (k:Int)∧at' g.1 (k:Int)<=255:=(a.node k (by omega)).id;simp only[iR];omega
abbrev Dr:=Ev
def DI (x:Dr):Prop:=(0<=x.2.2.2.1∧x.2.2.2.1<=100000)∧(0<=x.2.2.2.2.1∧x.2.2.2.2.1<=100000)∧(0<=x.2.2.2.2.2∧x.2.2.2.2.2<=100000)
def lo (g:GR) (x:Dr) (v:Nat):Int:=if x.2.1=2 then 0 else if x.2.1=3 then -1 else x.2.2.1
def hi (g:GR) (x:Dr) (v:Nat):Int:=if x.2.1=2 then 1 else if x.2.1=3 then((row g v).length:Int) - 1 else x.2.2.2.1+x.2.2.2.2.1*(g.2.length:Int)+x.2.2.2.2.2*iR g g.1.length
structure Dx (g:GR) (c:bG) (vars:List Dr):Prop where
 len:c.length=g.2.length
 row:∀v,v<g.2.length->(at' c (v:Int)).length=vars.length
 ok:∀v,v<g.2.length->∀x,x<vars.length->lo g (at' vars (x:Int)) v<=val c v x∧val c v x<=hi g (at' vars (x:Int)) v
def Fh (a b:Nat):Nat:=(BitVec.ofInt 32 (a:Int) &&& ~~~ BitVec.ofInt 32 (b:Int)).toNat
theorem Pp (a b:Nat):Fh a b<4294967296:=(BitVec.ofInt 32 (a:Int) &&& ~~~ BitVec.ofInt 32 (b:Int)).isLt
theorem Hy {a i:Nat} (b:a<4294967296) (h:a.testBit i=true):i<32:=by
 apply Classical.byContradiction;intro c;rw[Nat.testBit_lt_two_pow (Nat.lt_of_lt_of_le b (Nat.pow_le_pow_right (n:=2) (by omega) (show 32<=i by omega)))]at h;cases h
theorem LP {a b:Nat} (d:a<4294967296) (e:b<4294967296) (i:Nat):(Fh a b).testBit i=(a.testBit i && !b.testBit i):=by
 have:=BitVec.getLsbD_and (x:=BitVec.ofInt 32 (a:Int)) (y:= ~~~ BitVec.ofInt 32 (b:Int)) (i:=i);rw[BitVec.getLsbD_not]at this;have h:(Fh a b).testBit i=((OB (a:Int)).testBit i&&(decide (i<32) && !(OB (b:Int)).testBit i)):=this;rw[yW d,yW e]at h;rw[h];cases c:a.testBit i with
 |false=>simp
 |true=>simp[Hy d c]
theorem Pa (a b:Nat):uU .u32 (a:Int) (b:Int)=(Fh a b:Int):=MK _ (Pp a b)
theorem DL {a b:Nat} (c:a<4294967296) (d:b<4294967296):eB .u32 (a:Int) (b:Int)=((a &&& b:Nat):Int):=by rw[Nc,yW c,yW d]
theorem ahT {a b:Nat} (c:a<4294967296) (d:b<4294967296):Nf .u32 (a:Int) (b:Int)=((a ||| b:Nat):Int):=by rw[adf,yW c,yW d]
theorem acx {a b:Nat} (c:a<4294967296) (d:b<4294967296):a ||| b<4294967296:=Nat.or_lt_two_pow (n:=32) c d
theorem Rt {a b:Nat} (c:a<4294967296):a &&& b<4294967296:=Nat.lt_of_le_of_lt Nat.and_le_left c
theorem Rv {a k:Nat} (c:a<4294967296) (b:k<32):Nf .u32 (a:Int) (Cv .u32 1 (k:Int))=((a ||| 2^k:Nat):Int):=by rw[aco b,ahT c (Iu b)]
theorem TX (p:Nat->Bool) {k:Nat} (a:k<=32):BC p k<4294967296:=Nat.lt_of_lt_of_le (PD p k) (Nat.pow_le_pow_right (n:=2) (by omega) a)
theorem aki {i:Nat} (h:i<1000000):wI .i64 ((i:Int)+1)=(i:Int)+1:=wr (by omega) (by omega)
theorem VG.to {g:GR} (c:VG g) {v i:Nat} (e:v<g.2.length) (d:i<(row g v).length):∃u:Nat,u<g.2.length∧(fZ (row g v) i).1=(u:Int):=by
 obtain⟨u,a,b,_⟩:=c.port e d;exact⟨u,a,b⟩
theorem Ti {n i:Nat}:(2^n - 1).testBit i=decide (i<n):=Nat.testBit_two_pow_sub_one n i
def d0 (g:GR) (c:bG) (d v:Nat):Int:=if d.testBit v=true then at' (at' c (v:Int)) 0 else if v=0 then 0 else(g.2.length:Int)
def start (g:GR) (c:bG) (d:Nat):aS:=(List.range g.2.length).map (d0 g c d)
def tE:List Dr:=[(ByteArray.mk #[100],1,0,0,1,0),(ByteArray.mk #[112],3,0,0,0,0)]
theorem NV {a:Type} [Inhabited a] (l:List a) (x:a) {i:Nat} (b:i<l.length+1):at' (l++[x]) (i:Int)=if i<l.length then at' l (i:Int)else x:=by
 rw[gR,gR];by_cases h:i<l.length
 ·rw[if_pos h,List.getD_eq_getElem?_getD,List.getD_eq_getElem?_getD,List.getElem?_append_left h]
 ·have:i=l.length:=by omega
  subst this;rw[if_neg h];simp
def WA (g:GR) (a:List Dr) (v:Nat) (l:aS):Prop:=∀x,x<l.length->lo g (at' a (x:Int)) v<=at' l (x:Int)∧at' l (x:Int)<=hi g (at' a (x:Int)) v
theorem Vg {g:GR} (G:VG g) (d:List Dr) (f:aS) (ht:d.length<=900) (U:∀x,x<d.length->DI (at' d (x:Int)) ∧ -100000<=(at' d (x:Int)).2.2.1∧(at' d (x:Int)).2.2.1<=(at' d (x:Int)).2.2.2.1):
  OK (λc=>Dx g c d) (nK 1000 g d f):=by
 have Q:=G.n24;have C:=G.len;have P:nK 1000 g d f=rJ 1000 g d f (iR g g.2.length):=by
  unfold nK;refine eS (F:=λk:Nat=>((iR g k,(k:Int)):fU)) g.2.length (λk B hk=> ?_) (λB=> ?_) 1000 (by omega)
  ·unfold vN;simp only;rw[if_pos (by omega),cA (by omega),wr (by omega) (by omega)];rfl
  ·unfold vN;simp only;rw[if_neg (by omega)]
 rw[P];obtain⟨M,X⟩:=Ku G g.2.length (by omega);unfold rJ;have J:=D_ (step:=kG 1000 g d f (iR g g.2.length)) (K:=λx=>some x.1) g.2.length (λv x=>x.2=(v:Int)∧x.1.length=v∧∀w,w<v->(at' x.1 (w:Int)).length=d.length∧WA g d w (at' x.1 (w:Int))) (λv x B t q=> ?_) (λx B q=> ?_) 1000 (([]:bG),(0:Int)) ⟨rfl,rfl,λw V=>by omega⟩ (by omega)
 ·obtain⟨⟨c,i⟩,⟨_,s,p⟩,I⟩:=J;exact⟨c,I,s,λv t=>(p v t).1,λv t x D=>(p v t).2 x (by rw[(p v t).1];exact D)⟩
 ·obtain⟨c,i⟩:=x;obtain⟨rfl,s,p⟩:=q;simp only at s p;have L:(at' g.2 (v:Int)).length<g.2.length:=(G.node v t).deg;unfold kG;simp only;rw[if_pos (by omega)];have E:=D_ (step:=oM 1000 g d f (iR g g.2.length) (c,(v:Int)) B) (K:=λy=>B (c++[y.1],(v:Int)+1)) d.length (λx y=>y.2=(x:Int)∧y.1.length=x∧WA g d v y.1) (λx y n D q=> ?_) (λy n q=> ?_) 1000 (([]:aS),(0:Int)) ⟨rfl,rfl,λx D=>by simp at D⟩ (by omega)
  ·obtain⟨⟨l,j⟩,⟨_,h,u⟩,I⟩:=E;refine⟨(c++[l],(v:Int)+1),⟨by simp,by simp[s],λw V=> ?_⟩,I⟩
   simp only;rw[NV c l (by omega),s];by_cases e:w<v
   ·rw[if_pos e];exact p w e
   ·rw[if_neg e];have:w=v:=by omega
    subst this;exact⟨h,u⟩
  ·obtain⟨l,j⟩:=y;obtain⟨rfl,h,u⟩:=q;simp only at h u;obtain⟨⟨s1,N,O⟩,s4,s5⟩:=U x D;have o:∀a b:Int,a=lo g (at' d (x:Int)) v->b=hi g (at' d (x:Int)) v -> -100000<=a->a<=b+1->b<=100000000->(a<=b∨(a = -1∧b = -1))->∃H,(H.2=((x+1:Nat):Int)∧H.1.length=x+1∧WA g d v H.1)∧oL 1000 d f (c,(v:Int)) (l,(x:Int)) n (a,b)=n H:=by
    intro a b R T q1 q2 q3 q4;have S:a<=b:=by omega
    unfold oL;simp only;have w1:wI .i64 ((v:Int)*(d.length:Int))=(v:Int)*(d.length:Int):=by
     have Y:0<=(v:Int)*(d.length:Int):=Int.mul_nonneg (by omega) (by omega);have p2:(v:Int)*(d.length:Int)<=24*900:=Int.mul_le_mul (by omega) (by omega) (by omega) (by omega);exact wr (by omega) (by omega)
    have Y:0<=(v:Int)*(d.length:Int):=Int.mul_nonneg (by omega) (by omega);have p2:(v:Int)*(d.length:Int)<=24*900:=Int.mul_le_mul (by omega) (by omega) (by omega) (by omega);rw[w1,wr (x:=(v:Int)*(d.length:Int)+(x:Int)) (by omega) (by omega),O_ _ _ (by omega),bB Z,wr (x:=b - a) (by omega) (by omega),wr (x:=b - a+1) (by omega) (by omega),wM _ _ (by omega) (by omega),bB Z];have r1:=Int.emod_nonneg (at' f ((v:Int)*(d.length:Int)+(x:Int))) (b:=b - a+1) (by omega);have r2:=Int.emod_lt_of_pos (at' f ((v:Int)*(d.length:Int)+(x:Int))) (b:=b - a+1) (by omega);generalize at' f ((v:Int)*(d.length:Int)+(x:Int))%(b - a+1)=r at r1 r2;rw[wr (x:=a+r) (by omega) (by omega),cA (by simp;omega),wr (by omega) (by omega)];refine⟨_,⟨by simp,by simp[h],λz W=> ?_⟩,rfl⟩
    simp only[List.length_append,List.length_cons,List.length_nil,h]at W;simp only;rw[NV l _ (by omega),h];by_cases e:z<x
    ·rw[if_pos e];exact u z (by omega)
    ·rw[if_neg e];have:z=x:=by omega
     subst this;rw[<-R,<-T];omega
   unfold oM;simp only;rw[if_pos (by omega),cA (by omega),cA (by omega),cA (by omega),cA (by omega),cA (by omega)];by_cases m:(at' d (x:Int)).2.1=2
   ·rw[if_pos m];exact o 0 1 (by unfold lo;rw[if_pos m]) (by unfold hi;rw[if_pos m]) (by omega) (by omega) (by omega) (by omega)
   ·rw[if_neg m];by_cases A:(at' d (x:Int)).2.1=3
    ·rw[if_pos A,cA (by omega),wr (by omega) (by omega)];exact o (-1) _ (by unfold lo;rw[if_neg m,if_pos A]) (by unfold hi;rw[if_neg m,if_pos A]) (by omega) (by omega) (by omega) (by omega)
    ·rw[if_neg A];have q1:0<=(at' d (x:Int)).2.2.2.2.1*(g.2.length:Int):=Int.mul_nonneg N.1 (by omega);have q2:(at' d (x:Int)).2.2.2.2.1*(g.2.length:Int)<=100000*24:=Int.mul_le_mul N.2 (by omega) (by omega) (by omega);have q3:0<=(at' d (x:Int)).2.2.2.2.2*iR g g.2.length:=Int.mul_nonneg O.1 M;have q4:(at' d (x:Int)).2.2.2.2.2*iR g g.2.length<=100000*255:=Int.mul_le_mul O.2 X M (by omega);rw[wr (x:=(at' d (x:Int)).2.2.2.2.1*(g.2.length:Int)) (by omega) (by omega),wr (x:=(at' d (x:Int)).2.2.2.2.2*iR g g.2.length) (by omega) (by omega),wr (x:=(at' d (x:Int)).2.2.2.1+(at' d (x:Int)).2.2.2.2.1*(g.2.length:Int)) (by omega) (by omega),wr (by omega) (by omega)];exact o _ _ (by unfold lo;rw[if_neg m,if_neg A]) (by unfold hi;rw[if_neg m,if_neg A,C]) (by omega) (by omega) (by omega) (by omega)
  ·obtain⟨l,j⟩:=y;obtain⟨rfl,h,u⟩:=q;simp only at h u;unfold oM Ap;simp only;rw[if_neg (by omega),cA (by simp;omega),wr (by omega) (by omega)]
 ·obtain⟨c,i⟩:=x;obtain⟨rfl,s,p⟩:=q;unfold kG vM;simp only;rw[if_neg (by omega)]
def low (a b:Int):Int:=if 0<=b∧(a<0∨b<a)then b else a
end Go.Proofs.YtmdlcmbplnhdnaaGreatDoor
namespace Go.Proofs.YtmdlcmbplnhdnaaGreatDoor
open Go.Sx
def tJ  (a:aS):Option aS:=
 some (a)
def tK (a:oB) (c:x_->Option aS) (b:aS):Option aS:=
 c ((wI .i64 (a.1+(1:Int))),b)
def pX (d:cF) (a:oB) (e:x_->Option aS) (b:oB) (c:x_->Option aS):Option aS:=
 if b.1<(List.length (at' d.2 a.1):Int)then(ck (0<=b.1∧b.1<(List.length (at' d.2 a.1):Int)) (ck (0<=a.1∧a.1<(List.length b.2:Int)) (ck (0<=((at' (at' d.2 a.1) b.1).1)) (ck (0<=a.1∧a.1<(List.length b.2:Int)) (c ((wI .i64 (b.1+(1:Int))),(List.set b.2 (Int.toNat a.1) (Nf .u32 (at' b.2 a.1) (Cv .u32 (1:Int) ((at' (at' d.2 a.1) b.1).1))))))))))else(tK a e (b.2))
def kY (U:Nat) (c:cF) (a:oB) (b:x_->Option aS):Option aS:=
 if a.1<(List.length c.2:Int)then(ck (0<=a.1∧a.1<(List.length c.2:Int)) (bI (pX c a b) U ((0:Int),a.2)))else(tJ  (a.2))
def oI (U:Nat) (a:cF):Option aS:=
 ck (0<=(List.length a.2:Int)∧(List.length a.2:Int)<=1099511627) (bI (kY U a) U ((0:Int),(List.replicate (Int.toNat (List.length a.2:Int)) (0:Int))))
theorem adK:aV Tryz.prog 79:=Tryz.call79
theorem IF (U:Nat) {d:cF} (v:Value)  (j:Value)  (y:kH) (r:aS) (h:oI U d=some r):
  aX Tryz.prog 79 #[Value.agg #[v,j]] [Sl bP v d.1,S2 a_ j y d.2] (λx:Value=>x) (λx l=>Ar pP x r::l) (λ_ l=>l):=by
 refine aX.of Tryz.func79 Z Tryz.ntmps79 Z λc=>?_;refine aW<|aG (aN.box (cs:=[v,j]) Z Z) Z λD=>aC Z<|aM<|aW<|bU Z<|dK 0 Z<|aB (iY Z (aE.fact 1 Z) Z) Z<|dD h λB h=>aG (qP (e:=pP) (0:Int) Z Z Z Z B Z Z Z) Z λi=>aC Z<|aM<|aK<|eD (λk=>tJ  k=some r) (λk w=>[(3,i)]) (λk w=>[Ar pP i k]) ?_ ?_
 ·refine aW<|bU Z<|dK 1 Z<|aB (iY Z (aE.fact 1 Z) Z) Z<|aA Z<|aM<|aT<|dZ (kY U d) (λa m=>[(3,i),(13,j),(14,vI (List.length d.2:Int)),(15,vI (a.1))]) (λa m=>[Ar pP i a.2]) ((0:Int),(List.replicate (Int.toNat (List.length d.2:Int)) (0:Int))) () h SF (aY.ix [0] Z Z) ?_;intro t a m h;refine aW<|cO Z<|aM<|aK ?_;refine fE h Z (λh=>?_) λh=>?_
  ·refine cK<|aK<|eD (λg=>tK a (bI (kY U d) t) g=some r) (λg n=>[(3,i),(13,j),(14,vI (List.length d.2:Int)),(15,vI (a.1))]) (λg n=>[Ar pP i g]) ?_ ?_
   ·refine aT<|aW<|aA Z<|dD h λf h=>aB (cH Z Z (aE.fact 1 Z) Z Z f) Z<|aB (cG Z (aE.fact 1 Z) Z Z f) Z<|aC Z<|aC Z<|aM<|aW<|aA Z<|aB (gW Z (aE.el (aE.fact 1 Z) f.1 f.2) Z) Z<|aA Z<|aM<|aT<|dZ (pX d a (bI (kY U d) t)) (λb o=>[(3,i),(4,vI (a.1)),(13,j),(14,vI (List.length d.2:Int)),(15,vI (a.1)),(20,(at' y a.1).1),(21,vI (List.length (at' d.2 a.1):Int)),(22,vI (b.1))]) (λb o=>[Ar pP i b.2]) ((0:Int),a.2) () h SF (aY.refl _) ?_;intro C b o h;refine aW<|cO Z<|aM<|aK ?_;refine fE h Z (λh=>?_) λh=>?_
    ·refine cK<|aK<|aT<|aW<|dD h λp h=>aB (aZ Z Z (aE.el (aE.fact 1 Z) f.1 f.2) Z Z p) Z<|aB (iM (cs:=[vI ((at' (at' d.2 a.1) b.1).1),vI ((at' (at' d.2 a.1) b.1).2)]) Z (aE.el (aE.fact 1 Z) f.1 f.2) bR Z Z Z Z p) Z<|aG (aN.alloc (cs:=Uv) Z Z) Z λA=>bQ 0 (vs:=[vI ((at' (at' d.2 a.1) b.1).1),vI ((at' (at' d.2 a.1) b.1).2)]) Z Z Z Z Z Z<|aM ?_;refine JR.start [0,0,3,7,0,16,48,127,255,511] 7 mixedOrders (by decide +kernel) ?_;refine JR.open (by exact rfl) ?_;refine bF Z<|bF Z<|dD h λq h=>bK Z (aY.cons 1 Z .nil) .nil (aZ Z Z (bE (aE.res 0 Z) vT) Z Z q) aL.z<|bK Z (aY.cons 1 Z .nil) .nil (bX Z (bE (aE.res 0 Z) vT) Z Z Z Hu q) aL.z<|cY Z<|iS 0 Z<|dD h λu h=>iW Z (OZ Z Z u)<|bM 7 Z Z<|aB (ZX Z Z) Z<|dD h λs h=>aB (aZ Z Z (bE (aE.res 1 Z) vT) Z Z s) Z<|AQ 1 (Nf .u32 (at' b.2 a.1) (Cv .u32 (1:Int) ((at' (at' d.2 a.1) b.1).1))) s Z Z Z Z Z Z Z<|eT<|mQ<|aO<|cI Z<|aA Z<|aM ?_;exact lK ((wI .i64 (b.1+(1:Int))),(List.set b.2 (Int.toNat a.1) (Nf .u32 (at' b.2 a.1) (Cv .u32 (1:Int) ((at' (at' d.2 a.1) b.1).1))))) () h SF (aY.ix [1] Z Z) (aF.refl _ _)
    refine qO<|eM<|eM<|wQ<|mQ ?_;exact gM (b.2) () h SF Z
   intro g n h;unfold tK at h;refine aO<|cI Z<|aA Z<|aM ?_;exact yX ((wI .i64 (a.1+(1:Int))),g) () h SF Z
  refine fH ?_;exact gM (a.2) () h SF Z
 intro k w h;unfold tJ at h;refine aW<|aA Z<|aC Z<|aM<|aU ?_;cases h;exact fV (i) Z Z (RV.tmp Z) (aY.refl _) aF.nil
end Go.Proofs.YtmdlcmbplnhdnaaGreatDoor
namespace Go.Proofs.YtmdlcmbplnhdnaaGreatDoor
open Go Go.Sx
structure UK (m k:Nat):Prop where
 bit:m.testBit k=true
 low:∀j,j<k->m.testBit j=false
theorem NF {m:Nat} (h:m≠0):∃k,UK m k:=by
 obtain⟨i,c⟩:=Nat.exists_testBit_of_ne_zero h;obtain⟨k,_,a,b⟩:=GD (p:=λi=>m.testBit i=true) i c;exact⟨k,a,λj d=>by simpa using b j d⟩
theorem PU {m k:Nat} (h:UK m k) (i:Nat):(m - 1).testBit i=if i<k then true else if i=k then false else m.testBit i:=by
 have b:m=2^(k+1)*(m / 2^(k+1))+2^k:=by
  refine Nat.eq_of_testBit_eq λi=> ?_;have a:2^k<2^(k+1):=Nat.pow_lt_pow_right (by omega) (by omega);rw[Nat.testBit_two_pow_mul_add _ a,Nat.testBit_two_pow,Nat.testBit_div_two_pow];rcases Nat.lt_trichotomy i k with q|q|q
  ·rw[if_pos (by omega),h.low i q,decide_eq_false (by omega)]
  ·subst q;rw[if_pos (by omega),h.bit,decide_eq_true Z]
  ·rw[if_neg (by omega),show i - (k+1)+(k+1)=i by omega]
 have c:0<2^k:=Nat.pow_pos (by omega);have a:2^k - 1<2^(k+1):=by rw[Nat.pow_succ];omega
 have e:m - 1=2^(k+1)*(m / 2^(k+1))+(2^k - 1):=by omega
 rw[e,Nat.testBit_two_pow_mul_add _ a,Nat.testBit_two_pow_sub_one,Nat.testBit_div_two_pow];rcases Nat.lt_trichotomy i k with q|q|q
 ·rw[if_pos (by omega),if_pos q,decide_eq_true q]
 ·subst q;rw[if_pos (by omega),if_neg (by omega),if_pos Z,decide_eq_false (by omega)]
 ·rw[if_neg (by omega),if_neg (by omega),if_neg (by omega),show i - (k+1)+(k+1)=i by omega]
theorem aka {m:Nat} (b:m<4294967296) (a:m≠0):wI .u32 (0 - (m:Int))=((4294967296 - m:Nat):Int):=by
 rw[Ew];have:IntKind.u32.wrap (0 - (m:Int))=(0 - (m:Int))%4294967296:=rfl;rw[this];omega
theorem ahk {m:Nat} (b:m<4294967296) (a:m≠0):wI .u32 ((m:Int) - 1)=((m - 1:Nat):Int):=by
 rw[show(m:Int) - 1=((m - 1:Nat):Int) by omega,Ew,MK _ (by omega)]
theorem aew {m k:Nat} (a:m<4294967296) (h:UK m k):eB .u32 (m:Int) (wI .u32 (0 - (m:Int)))=((2^k:Nat):Int):=by
 have b:m≠0:=λe=>by have:=h.bit;rw[e]at this;simp at this
 have c:k<32:=Hy a h.bit;rw[aka a b,DL a (by omega)];congr 1;refine Nat.eq_of_testBit_eq λi=> ?_;rw[Nat.testBit_and,show 4294967296 - m=2^32 - ((m - 1)+1) by omega,Nat.testBit_two_pow_sub_succ (by omega),Nat.testBit_two_pow,PU h];rcases Nat.lt_trichotomy i k with q|q|q
 ·rw[h.low i q,decide_eq_false (show¬k=i by omega)];rfl
 ·subst q;rw[h.bit,if_neg (by omega),if_pos Z,decide_eq_true c,decide_eq_true Z];rfl
 ·rw[if_neg (by omega),if_neg (by omega),decide_eq_false (show¬k=i by omega)];cases m.testBit i<;>simp
theorem RH {m k:Nat} (a:m<4294967296) (h:UK m k):∃b:Nat,eB .u32 (m:Int) (wI .u32 ((m:Int) - 1))=(b:Int)∧b<4294967296∧∀i,b.testBit i=(m.testBit i&&decide (i≠k)):=by
 have c:m≠0:=λe=>by have:=h.bit;rw[e]at this;simp at this
 refine⟨m &&& (m - 1),by rw[ahk a c,DL a (by omega)],Rt a,λi=> ?_⟩
 rw[Nat.testBit_and,PU h];rcases Nat.lt_trichotomy i k with q|q|q
 ·rw[h.low i q];rfl
 ·subst q;simp
 ·rw[if_neg (by omega),if_neg (by omega)];have:decide (i≠k)=true:=decide_eq_true (by omega);rw[this];cases m.testBit i<;>rfl
theorem afa:∀k:Fin 32,((0:Int)<=sP .u32 (wI .u32 ((((2^k.val:Nat):Int))*125613361)) 27∧sP .u32 (wI .u32 ((((2^k.val:Nat):Int))*125613361)) 27<((32:Nat):Int))∧wI .i64 (at' wP (sP .u32 (wI .u32 ((((2^k.val:Nat):Int))*125613361)) 27))=(k.val:Int):=by decide +kernel
theorem acE (f:Nat) {m k:Nat} (a:m<4294967296) (h:UK m k):jV f (m:Int)=some (k:Int):=by
 have d:m≠0:=λe=>by have:=h.bit;rw[e]at this;simp at this
 obtain⟨b,c⟩:=afa ⟨k,Hy a h.bit⟩;unfold jV;rw[if_neg (by omega),cA (by decide),aew a h,cA ⟨b,rfl⟩,c]
structure OD (g:GR) (r:aS):Prop where
 len:r.length=g.2.length
 at':∀v:Nat,v<g.2.length->∃m:Nat,Go.Sx.at' r (v:Int)=(m:Int)∧m<4294967296∧∀u,m.testBit u=true↔Co g v u
theorem aeC {g:GR} (I:VG g):∃r,oI 1000 g=some r∧OD g r:=by
 have R:=I.n24;unfold oI;rw[cA (by omega)];obtain⟨⟨a,r⟩,⟨y,B,C⟩,J⟩:=D_ (step:=kY 1000 g) (K:=λz=>some z.2) g.2.length
  (λk z=>z.1=(k:Int)∧z.2.length=g.2.length∧∀v:Nat,v<g.2.length->∃m:Nat,Go.Sx.at' z.2 (v:Int)=(m:Int)∧m<4294967296∧∀u,m.testBit u=true↔v<k∧Co g v u) (λk z E M G=>by
  obtain⟨a,r⟩:=z;obtain⟨y,B,C⟩:=G;dsimp only at y B C;subst y;have O:=(I.node k M).deg;obtain⟨⟨b,U⟩,⟨s,d,c⟩,J⟩:=D_ (step:=pX g ((k:Int),r) E) (K:=λz=>E (((k+1:Nat):Int),z.2)) (row g k).length
   (λj z=>z.1=(j:Int)∧z.2.length=g.2.length∧∀v:Nat,v<g.2.length->∃m:Nat,Go.Sx.at' z.2 (v:Int)=(m:Int)∧m<4294967296∧∀u,m.testBit u=true↔(v<k∧Co g v u)∨(v=k∧∃i,i<j∧(fZ (row g k) i).1=(u:Int))) (λj z F S H=>by
   obtain⟨b,q⟩:=z;obtain⟨s,d,c⟩:=H;dsimp only at s d c;subst s;obtain⟨w,V,x,N⟩:=I.port M S;obtain⟨m,T,l,t⟩:=c k M;refine⟨(((j+1:Nat):Int),q.set k (((m ||| 2^w:Nat)):Int)),⟨rfl,by simpa using d,λv f=> ?_⟩,?_⟩
   ·show∃P,Go.Sx.at' (q.set k _) (v:Int)=_∧_;rw[vV q k v _ (by omega)];by_cases e:v=k
    ·subst e;refine⟨_,if_pos Z,acx l (Iu (by omega)),λu=> ?_⟩
     rw[Nat.testBit_or,Nat.testBit_two_pow,Bool.or_eq_true,t u,decide_eq_true_eq];constructor
     ·rintro((h|⟨_,i,A,h⟩)|h)
      ·exact .inl h
      ·exact .inr ⟨rfl,i,by omega,h⟩
      ·exact .inr ⟨rfl,j,by omega,by rw[x,h]⟩
     ·rintro(h|⟨_,i,A,h⟩)
      ·exact .inl (.inl h)
      ·by_cases L:i=j
       ·subst L;right;rw[x]at h;omega
       ·exact .inl (.inr ⟨rfl,i,by omega,h⟩)
    ·obtain⟨P,n,o,p⟩:=c v f;refine⟨P,by rw[if_neg e];exact n,o,λu=> ?_⟩
     rw[p u];constructor
     ·rintro(h|⟨h,_⟩)
      ·exact .inl h
      ·exact absurd h e
     ·rintro(h|⟨h,_⟩)
      ·exact .inl h
      ·exact absurd h e
   ·unfold pX;dsimp only;rw[if_pos (show(j:Int)<((row g k).length:Int) by omega),cA (show 0<=(j:Int)∧(j:Int)<((row g k).length:Int) by omega),cA (by omega),show Go.Sx.at' (Go.Sx.at' g.2 (k:Int)) (j:Int)=fZ (row g k) j from rfl,x,cA (by omega),cA (by omega),T,Rv l (by omega),fF (by omega),Int.toNat_natCast]) (λz F H=>by
   obtain⟨b,q⟩:=z;obtain⟨s,d,c⟩:=H;dsimp only at s d c;subst s;unfold pX tK;dsimp only;rw[if_neg (show¬((row g k).length:Int)<((row g k).length:Int) by omega),fF (by omega)]) 1000 ((0:Int),r) ⟨rfl,B,λv f=>by
    obtain⟨m,n,o,p⟩:=C v f;refine⟨m,n,o,λu=> ?_⟩
    rw[p u];constructor
    ·exact λh=> .inl h
    ·rintro(h|⟨_,i,A,_⟩)
     ·exact h
     ·omega⟩ (by omega)
  dsimp only at s d c;refine⟨(((k+1:Nat):Int),U),⟨rfl,d,λv f=> ?_⟩,?_⟩
  ·obtain⟨m,n,o,p⟩:=c v f;refine⟨m,n,o,λu=> ?_⟩
   rw[p u];constructor
   ·rintro(⟨Q,D⟩|⟨rfl,i,A,h⟩)
    ·exact⟨by omega,D⟩
    ·exact⟨by omega,i,A,h⟩
   ·rintro⟨Q,D⟩;by_cases e:v=k
    ·subst e;obtain⟨i,A,h⟩:=D;exact .inr ⟨rfl,i,A,h⟩
    ·exact .inl ⟨by omega,D⟩
  ·unfold kY;dsimp only;rw[if_pos (by omega),cA (by omega)];exact J) (λz E G=>by
  obtain⟨a,r⟩:=z;obtain⟨y,B,C⟩:=G;dsimp only at y;subst y;unfold kY tJ;dsimp only;rw[if_neg (by omega)]) 1000 ((0:Int),List.replicate (Int.toNat (g.2.length:Int)) (0:Int)) ⟨rfl,by simp,λv f=>⟨0,by
   rw[Int.toNat_natCast,lO (by simpa using f)];simp,by omega,λu=>by simp⟩⟩ (by omega)
 refine⟨r,J,B,λv f=> ?_⟩
 obtain⟨m,n,o,p⟩:=C v f;exact⟨m,n,o,λu=>by rw[p u];exact⟨λh=>h.2,λh=>⟨f,h⟩⟩⟩
def QT (g:GR) (m:Nat):Prop:=∀i,m.testBit i=true->i<g.2.length
theorem QT.lt {g:GR} (b:VG g) {m:Nat} (h:QT g m):m<16777216:=by
 have a:=b.n24;refine Nat.lt_of_lt_of_le (Nat.lt_pow_two_of_testBit (n:=24) m λi d=> ?_) (Nat.le_refl _);cases c:m.testBit i with
 |false=>rfl
 |true=>have:=h i c;omega
theorem agA {m:Nat} (h:∀i,i<32->m.testBit i=false) (b:m<4294967296):m=0:=by
 refine Nat.eq_of_testBit_eq λi=> ?_;rw[Nat.zero_testBit];rcases Nat.lt_or_ge i 32 with q|q
 ·exact h i q
 ·cases a:m.testBit i with
  |false=>rfl
  |true=>have:=Hy b a;omega
theorem Sf {g:GR} (z:VG g) {r:aS} (y:OD g r) {t:Nat} (C:QT g t) (n:∀v u,t.testBit v=true->t.testBit u=true->¬Co g v u) (F:Nat):∀(d s a b:Nat),s+d=32->b<4294967296->(∀i,i<s->b.testBit i=false)->(∀i,b.testBit i=true->t.testBit i=true)->d<a->
  bI (gQ F r (t:Int)) a (b:Int)=some true:=by
 have J:=z.n24;have p:t<4294967296:=by have:=C.lt z;omega
 intro d
 induction d using Nat.strongRecOn with
 | _ d ih =>
  intro s a b P B o c O;obtain⟨a,rfl⟩:∃f,a=f+1:=⟨a - 1,by omega⟩
  show gQ F r (t:Int) (b:Int) (bI _ a)=_;unfold gQ jR;by_cases G:b=0
  ·rw[if_neg (by omega)]
  obtain⟨k,l⟩:=NF G;have w:=C k (c k l.bit);have K:s<=k:=by
   rcases Nat.lt_or_ge k s with q|q
   ·have:=l.bit;rw[o k q]at this;cases this
   ·exact q
  obtain⟨m,L,h,j⟩:=y.at' k w;rw[if_pos (by omega),bB (acE F B l),cA (by have:=y.len;omega),L,DL h p];have M:m &&& t=0:=by
   refine agA (λi _=> ?_) (Rt h);rw[Nat.testBit_and];cases H:m.testBit i with
   |false=>rfl
   |true=>
    cases I:t.testBit i with
    |false=>rfl
    |true=>exact absurd ((j i).1 H) (n k i (c k l.bit) I)
  rw[M,if_neg (by simp)];obtain⟨N,D,E,x⟩:=RH B l;rw[D];have A:k<32:=by omega
  refine ih (32 - (k+1)) (by omega) (k+1) a N (by omega) E (λi n=> ?_) (λi n=> ?_) (by omega)
  ·rw[x];by_cases e:i=k
   ·simp[e]
   ·rw[l.low i (by omega)];rfl
  ·rw[x,Bool.and_eq_true]at n;exact c i n.1
theorem IB {g:GR} (a:VG g) {r:aS} (d:OD g r) {t:Nat} (c:QT g t) (b:∀v u,t.testBit v=true->t.testBit u=true->¬Co g v u):iA 1000 r (t:Int)=some true:=
 Sf a d c b 1000 32 0 1000 t (by omega) (by have:=c.lt a;omega) (λi b=>by omega) (λi h=>h) (by omega)
theorem Pu {g:GR} (M:VG g) {r:aS} (T:OD g r) {W:Nat} (U:QT g W) (F:Nat):∀(d s a b t:Nat),s+d=32->b<4294967296->t<4294967296->(∀i,i<s->b.testBit i=false)->(∀i,b.testBit i=true->W.testBit i=true)->(∀i,t.testBit i=true->W.testBit i=true)->(∀v u,t.testBit v=true->t.testBit u=true->¬Co g v u)->(W≠0->t≠0∨b=W)->d<a->
  ∃C:Nat,bI (eO F r) a ((b:Int),(t:Int))=some (C:Int)∧C<4294967296∧(∀i,C.testBit i=true->W.testBit i=true)∧(∀v u,C.testBit v=true->C.testBit u=true->¬Co g v u)∧(W≠0->C≠0):=by
 have aa:=M.n24;intro d
 induction d using Nat.strongRecOn with
 | _ d ih =>
  intro s a b t hs V c I w n j O hf;obtain⟨a,rfl⟩:∃f,a=f+1:=⟨a - 1,by omega⟩
  have P:bI (eO F r) (a+1) ((b:Int),(t:Int))=eO F r ((b:Int),(t:Int)) (bI (eO F r) a):=rfl;rw[P];unfold eO l_ jI;dsimp only;by_cases S:b=0
  ·rw[if_neg (by omega)];refine⟨t,rfl,c,n,j,λX=> ?_⟩
   rcases O X with h|h
   ·exact h
   ·exact absurd (h.symm.trans S) X
  obtain⟨k,D⟩:=NF S;have E:=w k D.bit;have G:=U k E;have ab:s<=k:=by
   rcases Nat.lt_or_ge k s with q|q
   ·have:=D.bit;rw[I k q]at this;cases this
   ·exact q
  obtain⟨m,hm,J,A⟩:=T.at' k G;obtain⟨L,Y,Q,R⟩:=RH V D;have p:k<32:=by omega
  have x:∀i,i<k+1->L.testBit i=false:=λi l=>by
   rw[R];by_cases e:i=k
   ·simp[e]
   ·rw[D.low i (by omega)];rfl
  have z:∀i,L.testBit i=true->W.testBit i=true:=λi l=>by
   rw[R,Bool.and_eq_true]at l;exact w i l.1
  rw[if_pos (by omega),bB (acE F V D),cA (by have:=T.len;omega),hm,DL J c,Y];by_cases K:m &&& t=0
  ·rw[K,if_pos (by rfl),cA (by omega),Rv c p];have H:(t ||| 2^k).testBit k=true:=by rw[Nat.testBit_or,Nat.testBit_two_pow];simp
   have y:∀u,t.testBit u=true->¬Co g k u:=λu o N=>by
    have:=congrArg (λq=>q.testBit u) K;simp only[Nat.testBit_and,Nat.zero_testBit,(A u).2 N,o]at this;cases this
   refine ih (32 - (k+1)) (by omega) (k+1) a L (t ||| 2^k) (by omega) Q (acx c (Iu p)) x z (λi l=> ?_) (λv u B o=> ?_) (λ_=> .inl λe=>by rw[e]at H;simp at H) (by omega)
   ·rw[Nat.testBit_or,Nat.testBit_two_pow,Bool.or_eq_true,decide_eq_true_eq]at l;rcases l with l|rfl
    ·exact n i l
    ·exact E
   ·rw[Nat.testBit_or,Nat.testBit_two_pow,Bool.or_eq_true,decide_eq_true_eq]at B o;rcases B with B|rfl
    ·rcases o with o|rfl
     ·exact j v u B o
     ·exact λN=>y v B (M.back (U v (n v B)) N)
    ·rcases o with o|rfl
     ·exact y u o
     ·rintro⟨i,l,he⟩;exact((M.node k G).links i l).2.1 he
  ·rw[if_neg (by omega)];refine ih (32 - (k+1)) (by omega) (k+1) a L t (by omega) Q c x z n j (λ_=> .inl λe=> ?_) (by omega);rw[e]at K;exact K (Nat.and_zero m)
theorem SC {g:GR} (hV:VG g) {r:aS} (hN:OD g r) {kind:Int} (hk1:1<=kind) (hk4:kind<=4) {e w:Nat} (he:QT g e) (hw:w<4294967296):
  ∃t:Nat,eZ 1000 r kind (e:Int) (w:Int)=some (t:Int)∧(∀i,t.testBit i=true->e.testBit i=true)∧(e≠0->t≠0∧fX 1000 r kind (e:Int) (t:Int)=some true∧(kind<=2->∀v u,t.testBit v=true->t.testBit u=true->¬Co g v u)∧(kind=4->t=e)):=by
 have he24:=he.lt hV;have he32:e<4294967296:=by omega
 -- the wish
 obtain⟨W,hW,hW32,hWe,hW0,hWm⟩:∃W:Nat,eZ 1000 r kind (e:Int) (w:Int)=jH 1000 r kind (e:Int) (W:Int)∧W<4294967296∧(∀i,W.testBit i=true->e.testBit i=true)∧(e≠0->W≠0)∧(e=0->W=0):=by
  unfold eZ;rw[DL hw he32];by_cases h0:w &&& e=0
  ·rw[h0,if_pos (show((0:Nat):Int)=0 from rfl)];by_cases hee:e=0
   ·refine⟨0,by rw[hee];rfl,by omega,λi h=>by simp at h,λh=>absurd hee h,λ_=>rfl⟩
   ·obtain⟨k,hk⟩:=NF hee;have hk32:=Hy he32 hk.bit;refine⟨2^k,by rw[aew he32 hk],Iu hk32,λi h=> ?_,λ_=>Nat.ne_of_gt (Nat.pow_pos (by omega)),λh=>absurd h hee⟩
    rw[Nat.testBit_two_pow,decide_eq_true_eq]at h;rw[<-h];exact hk.bit
  ·rw[if_neg (by omega)];refine⟨w &&& e,rfl,Rt hw,λi h=> ?_,λ_=>h0,λh=>by rw[h];exact Nat.and_zero w⟩
   rw[Nat.testBit_and,Bool.and_eq_true]at h;exact h.2
 have hWG:QT g W:=λi hi=>he i (hWe i hi);have permits:∀(t:Nat),t≠0->t<4294967296->(∀i,t.testBit i=true->e.testBit i=true)->∀b,(if kind=1 then some (decide ((eB .u32 (t:Int) (wI .u32 ((t:Int) - 1)))=0))else if kind=2 then(Option.bind (iA 1000 r (t:Int)) λr7=>some r7)else if kind=4 then some (decide ((t:Int)=(e:Int)))else some true)=some b->fX 1000 r kind (e:Int) (t:Int)=some b:=by
  intro t h0 h32 hsub b hb;unfold fX lZ;have hd:Fh t e=0:=by
   refine Nat.eq_of_testBit_eq λi=> ?_;rw[LP h32 he32,Nat.zero_testBit];cases h1:t.testBit i with
   |false=>rfl
   |true=>rw[hsub i h1];rfl
  rw[if_neg (by omega),Pa,hd,if_neg (by simp)];exact hb
 rw[hW];unfold jH;by_cases k1:kind=1
 ·rw[if_pos k1];by_cases hw0:W=0
  ·refine⟨0,by rw[hw0];rfl,λi h=>by simp at h,λh=>absurd hw0 (hW0 h)⟩
  ·obtain⟨k,hk⟩:=NF hw0;have hk32:=Hy hW32 hk.bit;have hL:UK (2^k) k:=⟨by rw[Nat.testBit_two_pow];simp,λj hj=>by rw[Nat.testBit_two_pow];exact decide_eq_false (by omega)⟩
   refine⟨2^k,by rw[aew hW32 hk],λi h=> ?_,λhee=>⟨Nat.ne_of_gt (Nat.pow_pos (by omega)),?_,λ_ v u hv hu hadj=> ?_,λh=>by omega⟩⟩
   ·rw[Nat.testBit_two_pow,decide_eq_true_eq]at h;rw[<-h];exact hWe k hk.bit
   ·refine permits _ (Nat.ne_of_gt (Nat.pow_pos (by omega))) (Iu hk32) (λi h=> ?_) true ?_
    ·rw[Nat.testBit_two_pow,decide_eq_true_eq]at h;rw[<-h];exact hWe k hk.bit
    ·obtain⟨m',e1,e2,e3⟩:=RH (Iu hk32) hL;rw[if_pos k1,e1];have:m'=0:=Nat.eq_of_testBit_eq λi=>by
      rw[e3,Nat.testBit_two_pow,Nat.zero_testBit];by_cases q:k=i
      ·simp[q]
      ·simp[q]
     rw[this];rfl
   ·rw[Nat.testBit_two_pow,decide_eq_true_eq]at hv hu;subst hv;subst hu;obtain⟨i,hi,he⟩:=hadj;exact((hV.node k (hWG k hk.bit)).links i hi).2.1 he
 rw[if_neg k1];by_cases k2:kind=2
 ·rw[if_pos k2];obtain⟨t,h1,h2,h3,h4,h5⟩:=Pu hV hN hWG 1000 32 0 1000 W 0 (by omega) hW32 (by omega) (λi hi=>by omega) (λi h=>h) (λi h=>by simp at h) (λv u h=>by simp at h) (λ_=> .inr Z) (by omega);refine⟨t,h1,λi h=>hWe i (h3 i h),λhee=>⟨h5 (hW0 hee),?_,λ_=>h4,λh=>by omega⟩⟩
  refine permits t (h5 (hW0 hee)) h2 (λi h=>hWe i (h3 i h)) true ?_;rw[if_neg k1,if_pos k2,bB (IB hV hN (λi h=>hWG i (h3 i h)) h4)]
 rw[if_neg k2];by_cases k4:kind=4
 ·rw[if_pos k4];refine⟨e,rfl,λi h=>h,λhee=>⟨hee,permits e hee he32 (λi h=>h) true ?_,λh=>by omega,λ_=>rfl⟩⟩
  rw[if_neg k1,if_neg k2,if_pos k4];simp
 ·rw[if_neg k4];refine⟨W,rfl,hWe,λhee=>⟨hW0 hee,permits W (hW0 hee) hW32 hWe true ?_,λh=>by omega,λh=>absurd h k4⟩⟩
  rw[if_neg k1,if_neg k2,if_neg k4]
end Go.Proofs.YtmdlcmbplnhdnaaGreatDoor
namespace Go.Proofs.YtmdlcmbplnhdnaaGreatDoor
open Go.Sx
def zE  (a:Int):Option (Int):=
 some (a)
def uP (c:aS) (a:fU) (b:jC->Option (Int)):Option (Int):=
 if a.2<(List.length c:Int)then(ck (0<=a.2∧a.2<(List.length c:Int)) (b ((max a.1 (at' c a.2)),(wI .i64 (a.2+(1:Int))))))else(zE  (a.1))
def AE (U:Nat) (a:aS):Option (Int):=
 if(List.length a:Int)<(1:Int)then(none)else(ck (0<=(0:Int)∧(0:Int)<(List.length a:Int)) (bI (uP a) U ((at' a (0:Int)),(1:Int))))
theorem aap:aV Tryz.prog 121:=Tryz.call121
theorem Oa (U:Nat) {f:aS} (g:Value) (r:Int) (h:AE U f=some r):
  aX Tryz.prog 121 #[g] [Sl bP g f] (λx:Unit=>vI (r)) (λx l=>l) (λ_ l=>l):=by
 refine aX.of Tryz.func121 Z Tryz.ntmps121 Z λc=>?_;refine aW<|aC Z<|aM<|aK<|aW<|aA Z<|jB (aE.fact 0 Z) Z<|cO Z<|aM ?_;refine fE h Z (λh=>?_) λh=>?_
 ·refine aO ?_;cases h
 refine cK<|aW<|aA Z<|dD h λj h=>aB (aZ Z Z (aE.fact 0 Z) Z Z j) Z<|aB (bX Z (aE.fact 0 Z) Z Z Z dG j) Z<|aC Z<|aM<|aK<|eD (λb=>zE  b=some r) (λb i=>[(3,vI (b))]) (λb i=>[]) ?_ ?_
 ·refine aW<|aC Z<|aM<|aT<|dZ (uP f) (λa d=>[(0,g),(3,vI (a.1)),(4,vI (a.2))]) (λa d=>[]) ((at' f (0:Int)),(1:Int)) () h SF (aY.refl _) ?_;intro k a d h;refine aK<|aW<|aA Z<|aA Z<|jB (aE.fact 0 Z) Z<|cO Z<|aM ?_;refine fE h Z (λh=>?_) λh=>?_
  ·refine cK<|aK<|aT<|aO<|aA Z<|aA Z<|aA Z<|dD h λe h=>aB (aZ Z Z (aE.fact 0 Z) Z Z e) Z<|aB (bX Z (aE.fact 0 Z) Z Z Z dG e) Z<|aB (Ie Z Z) Z<|aC Z<|eT<|mQ<|aO<|aA Z<|cI Z<|aC Z<|aM ?_;exact yX ((max a.1 (at' f a.2)),(wI .i64 (a.2+(1:Int)))) () h SF Z
  refine fH ?_;exact gM (a.1) () h SF Z
 intro b i h;unfold zE at h;refine aW<|aA Z<|aC Z<|aM<|aU ?_;cases h;exact kV Z
def oT (U:Nat) (a:Ev) (b:cF) (d:Int):Option jC:=
 Option.bind (AE U b.1) λc=>(some (a.2.2.1,(wI .i64 ((wI .i64 (a.2.2.2.1+(wI .i64 (a.2.2.2.2.1*(List.length b.1:Int)))))+(wI .i64 (a.2.2.2.2.2*c))))))
theorem aao:aV Tryz.prog 120:=Tryz.call120
theorem G_ (U:Nat) {a:Ev} {d:cF} {f:Int} (b:Value)  (e:Value)  (k:kH) (r:fU) (h:oT U a d f=some r):
  aX Tryz.prog 120 #[Value.agg #[vS (a.1),vI (a.2.1),vI (a.2.2.1),vI (a.2.2.2.1),vI (a.2.2.2.2.1),vI (a.2.2.2.2.2)],Value.agg #[b,e],vI (f)] [Sl bP b d.1,S2 a_ e k d.2] (λx:Unit=>Value.tuple #[vI (r.1),vI (r.2)]) (λx l=>l) (λ_ l=>l):=by
 refine aX.of Tryz.func120 Z Tryz.ntmps120 Z λc=>?_;refine aW<|aG (aN.box (cs:=[vS (a.1),vI (a.2.1),vI (a.2.2.1),vI (a.2.2.2.1),vI (a.2.2.2.2.1),vI (a.2.2.2.2.2)]) Z Z) Z λm=>aG (aN.box (cs:=[b,e]) Z Z) Z λn=>aC Z<|aC Z<|aM<|aK ?_;refine JR.start [0,1,0,4,0,16,0,64,192,496,1020,0,2048,0,8192,24576,63488,131068,57347,524287] 19 mixedOrders (by decide +kernel) ?_;refine JR.open (by exact rfl) ?_;refine cY Z<|iS 1 Z<|cY Z<|iS 1 Z<|cY Z<|iS 1 Z<|cY Z<|iS 0 Z<|bK Z .nil (lC 0 Z) (gW Z (aE.fact 0 Z) Z) aL.z<|iW Z (AT Z Z)<|iW Z (Aa Z Z)<|cY Z<|iS 1 Z<|cY Z<|iS 0 Z<|eX h λg i h=>JR.loud Z Z Z (aN.callQ aap (Oa U b g i) Z (n_ [0] Z)) Z (λj=>(t_ [([1],[]),([],[0]),([0],[]),([1],[]),([1],[]),([1],[])] Z)) λj=>iW Z (AT Z Z)<|iW Z (Aa Z Z)<|iW Z (oQ Z)<|bM 19 Z Z<|aC Z<|aM<|aU ?_;cases h;exact nS () Z Z (RV.tmp Z) (RV.tmp Z) .nil aF.nil
def rZ (U:Nat) (a:Ev) (b:cF) (c:Int):Option jC:=
 some ((0:Int),(1:Int))
theorem aaq:aV Tryz.prog 122:=Tryz.call122
theorem Ha (U:Nat) {a:Ev} {b:cF} {f:Int} (d:Value)  (e:Value)  (g:kH) (r:fU) (h:rZ U a b f=some r):
  aX Tryz.prog 122 #[Value.agg #[vS (a.1),vI (a.2.1),vI (a.2.2.1),vI (a.2.2.2.1),vI (a.2.2.2.2.1),vI (a.2.2.2.2.2)],Value.agg #[d,e],vI (f)] [Sl bP d b.1,S2 a_ e g b.2] (λx:Unit=>Value.tuple #[vI (r.1),vI (r.2)]) (λx l=>l) (λ_ l=>l):=by
 refine aX.of Tryz.func122 Z Tryz.ntmps122 Z λc=>?_;unfold rZ at h;refine aW<|aG (aN.box (cs:=[vS (a.1),vI (a.2.1),vI (a.2.2.1),vI (a.2.2.2.1),vI (a.2.2.2.2.1),vI (a.2.2.2.2.2)]) Z Z) Z λi=>aG (aN.box (cs:=[d,e]) Z Z) Z λj=>aC Z<|aC Z<|aM<|aW<|aC Z<|aC Z<|aM<|aU ?_;cases h;exact nS () Z Z (RV.tmp Z) (RV.tmp Z) .nil aF.nil
def oU (U:Nat) (c:Ev) (b:cF) (a:Int):Option jC:=
 ck (0<=a∧a<(List.length b.2:Int)) (some ((-1:Int),(wI .i64 ((List.length (at' b.2 a):Int) - (1:Int)))))
theorem aar:aV Tryz.prog 123:=Tryz.call123
theorem Hb (U:Nat) {a:Ev} {d:cF} {g:Int} (e:Value)  (f:Value)  (i:kH) (r:fU) (h:oU U a d g=some r):
  aX Tryz.prog 123 #[Value.agg #[vS (a.1),vI (a.2.1),vI (a.2.2.1),vI (a.2.2.2.1),vI (a.2.2.2.2.1),vI (a.2.2.2.2.2)],Value.agg #[e,f],vI (g)] [Sl bP e d.1,S2 a_ f i d.2] (λx:Unit=>Value.tuple #[vI (r.1),vI (r.2)]) (λx l=>l) (λ_ l=>l):=by
 refine aX.of Tryz.func123 Z Tryz.ntmps123 Z λc=>?_;refine aW<|aG (aN.box (cs:=[vS (a.1),vI (a.2.1),vI (a.2.2.1),vI (a.2.2.2.1),vI (a.2.2.2.2.1),vI (a.2.2.2.2.2)]) Z Z) Z λj=>aG (aN.box (cs:=[e,f]) Z Z) Z λk=>aC Z<|aC Z<|aM<|aK ?_;refine JR.start [0,1,0,7,15,31,63,0,255] 8 mixedOrders (by decide +kernel) ?_;refine JR.open (by exact rfl) ?_;refine cY Z<|iS 0 Z<|bF Z<|dD h λb h=>bK Z .nil (lC 1 Z) (cH Z Z (aE.fact 0 Z) Z Z b) aL.z<|bK Z .nil (lC 1 Z) (cG Z (aE.fact 0 Z) Z Z b) aL.z<|bK Z .nil (lC 1 Z) (gW Z (aE.el (aE.fact 0 Z) b.1 b.2) Z) aL.z<|iW Z (oC Z Z)<|iW Z (oQ Z)<|bM 8 Z Z<|aC Z<|aM<|aU ?_;cases h;exact nS () Z Z (RV.tmp Z) (RV.tmp Z) .nil aF.nil
def yN  (a:Unit):Option jC:=
 some ((0:Int),(-1:Int))
def mP (c:Int) (a:(Int)->Option jC) (b:Unit):Option jC:=
 a (wI .i64 (c+(1:Int)))
def eW (U:Nat) (a:Ev) (d:cF) (h:Int) (b:Int) (c:(Int)->Option jC):Option jC:=
 if b<(List.length ([((1:Int),(120:Nat)),((2:Int),(122:Nat)),((3:Int),(123:Nat))]):Int)then(ck (0<=b∧b<(List.length ([((1:Int),(120:Nat)),((2:Int),(122:Nat)),((3:Int),(123:Nat))]):Int)) (if b=(0:Int)then(if(1:Int)=a.2.1 then(Option.bind (oT U ((a.1,a.2.1,a.2.2.1,a.2.2.2.1,a.2.2.2.2.1,a.2.2.2.2.2)) ((d.1,d.2)) h) λe=>(some (e.1,e.2)))else(mP b c (())))else(if b=(1:Int)then(if(2:Int)=a.2.1 then(Option.bind (rZ U ((a.1,a.2.1,a.2.2.1,a.2.2.2.1,a.2.2.2.2.1,a.2.2.2.2.2)) ((d.1,d.2)) h) λf=>(some (f.1,f.2)))else(mP b c (())))else(if(3:Int)=a.2.1 then(Option.bind (oU U ((a.1,a.2.1,a.2.2.1,a.2.2.2.1,a.2.2.2.2.1,a.2.2.2.2.2)) ((d.1,d.2)) h) λg=>(some (g.1,g.2)))else(mP b c (()))))))else(yN  (()))
def kD (U:Nat) (a:Ev) (b:cF) (c:Int):Option jC:=
 bI (eW U a b c) U (0:Int)
theorem Xd:aV Tryz.prog 93:=Tryz.call93
theorem Dh (U:Nat) {a:Ev} {p:cF} {m:Int} (g:Value)  (i:Value)  (y:kH) (r:fU) (h:kD U a p m=some r):
  aX Tryz.prog 93 #[Value.agg #[vS (a.1),vI (a.2.1),vI (a.2.2.1),vI (a.2.2.2.1),vI (a.2.2.2.2.1),vI (a.2.2.2.2.2)],Value.agg #[g,i],vI (m)] [Sl bP g p.1,S2 a_ i y p.2] (λx:Unit=>Value.tuple #[vI (r.1),vI (r.2)]) (λx l=>l) (λ_ l=>l):=by
 refine aX.of Tryz.func93 Z Tryz.ntmps93 Z λc=>?_;unfold kD at h;refine aW<|aG (aN.box (cs:=[vS (a.1),vI (a.2.1),vI (a.2.2.1),vI (a.2.2.2.1),vI (a.2.2.2.2.1),vI (a.2.2.2.2.2)]) Z Z) Z λt=>aG (aN.box (cs:=[g,i]) Z Z) Z λu=>aC Z<|aC Z<|aM<|aW ?_;refine aB (Ct (r:=Value.agg #[vI (1:Int),Value.func (.func 120) #[] #[]]) Z Z (by intro w;simp[Instr.build,Instr.fill,dL,cT,cM,dM,dN,cU,eQ])) Z ?_;refine aB (Ct (r:=Value.agg #[vI (2:Int),Value.func (.func 122) #[] #[]]) Z Z (by intro w;simp[Instr.build,Instr.fill,dL,cT,cM,dM,dN,cU,eQ])) Z ?_;refine aB (Ct (r:=Value.agg #[vI (3:Int),Value.func (.func 123) #[] #[]]) Z Z (by intro w;simp[Instr.build,Instr.fill,dL,cT,cM,dM,dN,cU,eQ])) Z ?_;refine aG (bY (e:=IL) ([(((1:Int),((120:Nat)))),(((2:Int),((122:Nat)))),(((3:Int),((123:Nat))))]) [(0,Value.agg #[vI (1:Int),Value.func (.func 120) #[] #[]]),(1,Value.agg #[vI (2:Int),Value.func (.func 122) #[] #[]]),(2,Value.agg #[vI (3:Int),Value.func (.func 123) #[] #[]])] Z Z Z Z (XI (vI (1:Int)) (Value.func (.func 120) #[] #[]) (vI (2:Int)) (Value.func (.func 122) #[] #[]) (vI (3:Int)) (Value.func (.func 123) #[] #[])) Z Z Z) Z λv=>aC Z<|aM<|aK<|eD (λs=>yN  s=some r) (λs G=>[]) (λs G=>[]) ?_ ?_
 ·refine aW<|aA Z<|aB (gW Z (bE (aE.res 0 Z) Bv) Z) Z<|aA Z<|aM<|aT<|dZ (eW U a p m) (λk H=>[(2,vI (m)),(3,vP t),(4,vP u),(15,v),(16,vI (List.length ([((1:Int),(120:Nat)),((2:Int),(122:Nat)),((3:Int),(123:Nat))]):Int)),(17,vI (k))]) (λk H=>[Ar IL v ([((1:Int),(120:Nat)),((2:Int),(122:Nat)),((3:Int),(123:Nat))]),bV u [g,i] 29,bV t [vS (a.1),vI (a.2.1),vI (a.2.2.1),vI (a.2.2.2.1),vI (a.2.2.2.2.1),vI (a.2.2.2.2.2)] 71]) (0:Int) () h SF (aY.refl _) ?_;intro z k H h;refine aW<|cO Z<|aM<|aK ?_;refine fE h Z (λh=>?_) λh=>?_
  ·refine cK<|aK<|eD (λj=>mP k (bI (eW U a p m) z) j=some r) (λj n=>[(2,vI (m)),(3,vP t),(4,vP u),(15,v),(16,vI (List.length ([((1:Int),(120:Nat)),((2:Int),(122:Nat)),((3:Int),(123:Nat))]):Int)),(17,vI (k))]) (λj n=>[Ar IL v ([((1:Int),(120:Nat)),((2:Int),(122:Nat)),((3:Int),(123:Nat))]),bV u [g,i] 29,bV t [vS (a.1),vI (a.2.1),vI (a.2.2.1),vI (a.2.2.2.1),vI (a.2.2.2.2.1),vI (a.2.2.2.2.2)] 71]) ?_ ?_
   ·refine aT<|aW<|dD h λf h=>aB (aZ Z Z (bE (aE.res 0 Z) Bv) Z Z f) Z ?_;by_cases b:k=(0:Int)
    ·have h:=Ik b h;refine aB (iM (cs:=[vI (1:Int),Value.func (.func 120) #[] #[]]) Z (bE (aE.res 0 Z) Bv) Bv (by rw[b];rfl) Z Z Z f) Z ?_;refine aG (aN.alloc (cs:=[vI (0:Int),Value.nilFunc]) Z Z) Z λI=>bQ 0 (vs:=[vI (1:Int),Value.func (.func 120) #[] #[]]) Z Z Z Z Z Z<|aM<|aW<|bU Z<|dK 0 Z<|bU Z<|dK 3 Z<|cP Z<|aM ?_;refine fE h Z (λh=>?_) λh=>?_
     ·refine aW<|bU Z<|dK 0 Z<|dV 3 Z<|dV 2 Z<|aA Z<|eX h λA D h=>aG (v_ (vs:=[Value.agg #[vS (a.1),vI (a.2.1),vI (a.2.2.1),vI (a.2.2.2.1),vI (a.2.2.2.2.1),vI (a.2.2.2.2.2)],Value.agg #[g,i],vI (m)]) (cs:=[]) aao Z (G_ U g i y A D) Z (n_ [0,1] Z) (λ_ _=>rfl)) Z λL=>jA Z<|jA Z<|aC Z<|aC Z<|aM<|aU<|bL<|aI<|aI<|bL<|aI ?_;cases h;exact nS () Z Z (RV.tmp Z) (RV.tmp Z) .nil aF.nil
     refine dW<|mQ ?_;exact cL () (()) h SF (aY.ix [1,2,3] Z Z) (aF.refl _ _)
    have h:=ifN b h;by_cases d:k=(1:Int)
    ·have h:=Ik d h;refine aB (iM (cs:=[vI (2:Int),Value.func (.func 122) #[] #[]]) Z (bE (aE.res 0 Z) Bv) Bv (by rw[d];rfl) Z Z Z f) Z ?_;refine aG (aN.alloc (cs:=[vI (0:Int),Value.nilFunc]) Z Z) Z λJ=>bQ 0 (vs:=[vI (2:Int),Value.func (.func 122) #[] #[]]) Z Z Z Z Z Z<|aM<|aW<|bU Z<|dK 0 Z<|bU Z<|dK 3 Z<|cP Z<|aM ?_;refine fE h Z (λh=>?_) λh=>?_
     ·refine aW<|bU Z<|dK 0 Z<|dV 3 Z<|dV 2 Z<|aA Z<|eX h λB E h=>aG (v_ (vs:=[Value.agg #[vS (a.1),vI (a.2.1),vI (a.2.2.1),vI (a.2.2.2.1),vI (a.2.2.2.2.1),vI (a.2.2.2.2.2)],Value.agg #[g,i],vI (m)]) (cs:=[]) aaq Z (Ha U g i y B E) Z (n_ [0,1] Z) (λ_ _=>rfl)) Z λM=>jA Z<|jA Z<|aC Z<|aC Z<|aM<|aU<|bL<|aI<|aI<|bL<|aI ?_;cases h;exact nS () Z Z (RV.tmp Z) (RV.tmp Z) .nil aF.nil
     refine dW<|mQ ?_;exact cL () (()) h SF (aY.ix [1,2,3] Z Z) (aF.refl _ _)
    have h:=ifN d h;have o:k=(2:Int):=by have q:=f;simp only[List.length_cons,List.length_nil]at q;omega
    refine aB (iM (cs:=[vI (3:Int),Value.func (.func 123) #[] #[]]) Z (bE (aE.res 0 Z) Bv) Bv (by rw[o];rfl) Z Z Z f) Z ?_;refine aG (aN.alloc (cs:=[vI (0:Int),Value.nilFunc]) Z Z) Z λK=>bQ 0 (vs:=[vI (3:Int),Value.func (.func 123) #[] #[]]) Z Z Z Z Z Z<|aM<|aW<|bU Z<|dK 0 Z<|bU Z<|dK 3 Z<|cP Z<|aM ?_;refine fE h Z (λh=>?_) λh=>?_
    ·refine aW<|bU Z<|dK 0 Z<|dV 3 Z<|dV 2 Z<|aA Z<|eX h λC F h=>aG (v_ (vs:=[Value.agg #[vS (a.1),vI (a.2.1),vI (a.2.2.1),vI (a.2.2.2.1),vI (a.2.2.2.2.1),vI (a.2.2.2.2.2)],Value.agg #[g,i],vI (m)]) (cs:=[]) aar Z (Hb U g i y C F) Z (n_ [0,1] Z) (λ_ _=>rfl)) Z λN=>jA Z<|jA Z<|aC Z<|aC Z<|aM<|aU<|bL<|aI<|aI<|bL<|aI ?_;cases h;exact nS () Z Z (RV.tmp Z) (RV.tmp Z) .nil aF.nil
    refine dW<|mQ ?_;exact cL () (()) h SF (aY.ix [1,2,3] Z Z) (aF.refl _ _)
   intro j n h;unfold mP at h;refine aO<|cI Z<|aA Z<|aM ?_;exact yX (wI .i64 (k+(1:Int))) () h SF Z
  refine fH ?_;exact cL () (()) h SF .nil (aF.refl _ _)
 intro s G h;unfold yN at h;refine aW<|aC Z<|aC Z<|aM<|aU ?_;cases h;exact nS () Z Z (RV.tmp Z) (RV.tmp Z) (aY.refl _) aF.nil
def uX  (a:fP):Option (fP):=
 some (a)
def uY (b:Int×fP) (a:(Int×fP)->Option (fP)) (c:fP):Option (fP):=
 a ((wI .i64 (b.1+(1:Int))),c)
def oG (U:Nat) (d:xZ) (g:cF) (b:Int×fP) (e:(Int×fP)->Option (fP)) (a:Int×fP) (f:(Int×fP)->Option (fP)):Option (fP):=
 if a.1<(List.length d.2.1:Int)then(ck (0<=a.1∧a.1<(List.length d.2.1:Int)) (ck (0<=b.1∧b.1<(List.length a.2:Int)) (ck (0<=b.1∧b.1<(List.length a.2:Int)) (Option.bind (kD U ((((at' d.2.1 a.1).1),((at' d.2.1 a.1).2.1),((at' d.2.1 a.1).2.2.1),((at' d.2.1 a.1).2.2.2.1),((at' d.2.1 a.1).2.2.2.2.1),((at' d.2.1 a.1).2.2.2.2.2))) ((g.1,g.2)) b.1) λc=>(ck (0<=a.1∧a.1<(List.length (at' a.2 b.1):Int)) (ck (0<=a.1∧a.1<(List.length (at' (List.set a.2 (Int.toNat b.1) (List.set (at' a.2 b.1) (Int.toNat a.1) (c.1,((at' (at' a.2 b.1) a.1).2)))) b.1):Int)) (f ((wI .i64 (a.1+(1:Int))),(List.set (List.set a.2 (Int.toNat b.1) (List.set (at' a.2 b.1) (Int.toNat a.1) (c.1,((at' (at' a.2 b.1) a.1).2)))) (Int.toNat b.1) (List.set (at' (List.set a.2 (Int.toNat b.1) (List.set (at' a.2 b.1) (Int.toNat a.1) (c.1,((at' (at' a.2 b.1) a.1).2)))) b.1) (Int.toNat a.1) (((at' (at' (List.set a.2 (Int.toNat b.1) (List.set (at' a.2 b.1) (Int.toNat a.1) (c.1,((at' (at' a.2 b.1) a.1).2)))) b.1) a.1).1),c.2)))))))))))else(uY b e (a.2))
def mB (U:Nat) (c:xZ) (d:cF) (a:Int×fP) (b:(Int×fP)->Option (fP)):Option (fP):=
 if a.1<(List.length (List.replicate (Int.toNat (List.length d.1:Int)) ([]:fS)):Int)then(ck (0<=(List.length c.2.1:Int)∧(List.length c.2.1:Int)<=1099511627) (ck (0<=a.1∧a.1<(List.length a.2:Int)) (bI (oG U c d a b) U ((0:Int),(List.set a.2 (Int.toNat a.1) (List.replicate (Int.toNat (List.length c.2.1:Int)) ((0:Int),(0:Int))))))))else(uX  (a.2))
def jW (U:Nat) (b:xZ) (a:cF):Option (fP):=
 ck (0<=(List.length a.1:Int)∧(List.length a.1:Int)<=1099511627) (bI (mB U b a) U ((0:Int),(List.replicate (Int.toNat (List.length a.1:Int)) ([]:fS))))
theorem RF:aV Tryz.prog 67:=Tryz.call67
theorem Bj (U:Nat) {d:xZ} {q:cF} (v:Value)  (y:Value)  (A:Value)  (C:Value)  (z4:kH) (r:fP) (h:jW U d q=some r):
  aX Tryz.prog 67 #[Value.agg #[vS (d.1),v,y],Value.agg #[A,C]] [Sl aQ v d.2.1,Sl aJ y d.2.2,PF (Value.agg #[vS d.1,v,y]),Sl bP A q.1,S2 a_ C z4 q.2] (λx:Lc=>x.1) (λx l=>Ar cZ.raw x.1 x.2::lD cB x.2 r::l) (λ_ l=>l):=by
 refine aX.of Tryz.func67 Z Tryz.ntmps67 Z λc=>?_;refine aW<|aG (aN.box (cs:=[vS (d.1),v,y]) Z Z) Z λD=>aG (aN.box (cs:=[A,C]) Z Z) Z λE=>aC Z<|aM<|aW<|bU Z<|dK 0 Z<|jB (aE.fact 3 Z) Z<|dD h λj3 h=>i_ (wB cB (Int.toNat (List.length q.1:Int)))<|aG (qP (e:=cZ.raw) (lF) Z Z Z Z j3 Z Z Z) Z λu=>aC Z<|aM<|aK<|Ch (B:=fR) (λF=>uX  F=some r) (λF H=>[(5,u)]) (λF H=>[Ar cZ.raw u H,lD cB H F]) ?_ ?_
 ·refine aW<|aA Z<|aB (iY Z (bT (i:=0) (j:=1) Z Z bR) Z) Z<|aA Z<|aM<|aT<|dZ (B:=fR) (mB U d q) (λb m=>[(2,vP D),(3,vP E),(5,u),(14,vI (List.length (List.replicate (Int.toNat (List.length q.1:Int)) ([]:fS)):Int)),(15,vI (b.1))]) (λb m=>[Ar cZ.raw u m,lD cB m b.2,bV E [A,C] 29,bV D [vS (d.1),v,y] 60]) ((0:Int),(List.replicate (Int.toNat (List.length q.1:Int)) ([]:fS))) (List.replicate (Int.toNat (List.length q.1:Int)) (lF)) h SF (aY.refl _) ?_;intro S b m h;refine aW<|cO Z<|aM<|aK ?_;refine fE h Z (λh=>?_) λh=>?_
  ·refine cK<|aK<|Ch (B:=fR) (λp=>uY b (bI (mB U d q) S) p=some r) (λp s=>[(2,vP D),(3,vP E),(5,u),(14,vI (List.length (List.replicate (Int.toNat (List.length q.1:Int)) ([]:fS)):Int)),(15,vI (b.1))]) (λp s=>[Ar cZ.raw u s,lD cB s p,bV E [A,C] 29,bV D [vS (d.1),v,y] 60]) ?_ ?_
   ·refine aT<|aW<|aA Z<|aC Z<|aM<|aW<|aA Z<|aA Z<|bU Z<|dK 3 Z<|jB (aE.fact 0 Z) Z<|dD h λT h=>aG (qP (e:=cB) (((0:Int),(0:Int))) Z Z Z Z T Z Z Z) Z λw=>dD h λt h=>aB (cH Z Z (bT (i:=1) (j:=2) Z Z bR) Z Z t) Z<|cD (Know.one ((bE (aE.res 0 Z) bR))) λO=>i_ (yK (k:=b.1) 2 0 Z Z Z t) ?_;refine oY 0 1 ⟨t.1,by first|exact t.2|simpa using t.2⟩ Z Z Z Z Z (by simp) O Z ?_;refine aM<|aW<|bU Z<|dK 3 Z<|jB (aE.fact 0 Z) Z<|aA Z<|aM<|aT<|dZ (oG U d q b (bI (mB U d q) S)) (λa G=>[(2,vP D),(3,vP E),(5,u),(6,vI (b.1)),(14,vI (List.length (List.replicate (Int.toNat (List.length q.1:Int)) ([]:fS)):Int)),(15,vI (b.1)),(26,v),(27,vI (List.length d.2.1:Int)),(28,vI (a.1))]) (λa G=>[Ar cZ.raw u (List.set m (Int.toNat b.1) w),lD cB (List.set m (Int.toNat b.1) w) a.2,bV E [A,C] 29,bV D [vS (d.1),v,y] 60]) ((0:Int),(List.set b.2 (Int.toNat b.1) (List.replicate (Int.toNat (List.length d.2.1:Int)) ((0:Int),(0:Int))))) () h SF (aY.refl _) ?_;intro ac a G h;refine aW<|cO Z<|aM<|aK ?_;refine fE h Z (λh=>?_) λh=>?_
    ·refine cK<|aK<|aT<|aW<|aA Z<|dD h λP h=>aB (aZ Z Z (aE.fact 0 Z) Z Z P) Z<|aB (iM (cs:=[vS ((at' d.2.1 a.1).1),vI ((at' d.2.1 a.1).2.1),vI ((at' d.2.1 a.1).2.2.1),vI ((at' d.2.1 a.1).2.2.2.1),vI ((at' d.2.1 a.1).2.2.2.2.1),vI ((at' d.2.1 a.1).2.2.2.2.2)]) Z (aE.fact 0 Z) iL Z Z Z Z P) Z<|aG (aN.alloc (cs:=vD3) Z Z) Z λab=>aC Z<|bQ 0 (vs:=[vS ((at' d.2.1 a.1).1),vI ((at' d.2.1 a.1).2.1),vI ((at' d.2.1 a.1).2.2.1),vI ((at' d.2.1 a.1).2.2.2.1),vI ((at' d.2.1 a.1).2.2.2.2.1),vI ((at' d.2.1 a.1).2.2.2.2.2)]) Z Z Z Z Z Z<|aM ?_;refine JR.start [0,0,3,7,0,0,0,96,224,0,0,0,0,7168,15360,31744,31744,31,196095,458239,992,2097151,4194303] 21 mixedOrders (by decide +kernel) ?_;refine JR.open (by exact rfl) ?_;refine bF Z<|bF Z<|dD h λn h=>d_ (dJ 2 Z) λI=>?_;refine bK Z (aY.cons 1 Z .nil) .nil (iI 0 Z Z Z Z Z n.1 (by have V:=n.2;have W:=I;(try simp only[List.length_set]at V);(try simp only[List.length_set]at W);(try simp only[List.length_set]);omega)) aL.z ?_;refine d_ (dJ 2 Z) λJ=>bK Z (aY.cons 1 Z .nil) .nil (lY 0 Z Z J Z Z n) aL.z<|bF Z<|bF Z<|bF Z<|dD h λg h=>d_ (dJ 2 Z) λK=>?_;refine bK Z (aY.cons 1 Z .nil) .nil (iI 0 Z Z Z Z Z g.1 (by have V:=g.2;have W:=K;(try simp only[List.length_set]at V);(try simp only[List.length_set]at W);(try simp only[List.length_set]);omega)) aL.z ?_;refine d_ (dJ 2 Z) λL=>bK Z (aY.cons 1 Z .nil) .nil (lY 0 Z Z L Z Z g) aL.z<|bF Z<|mA 0 Z<|mA 3 Z<|bF Z<|eX h λf X h=>JR.loud Z Z Z (aN.callQ Xd (Dh U A C z4 f X) Z (n_ [3,4] Z)) Z (λY=>(t_ [([1],[]),([1],[]),([1],[]),([1],[])] Z)) λY=>iW Z (gH Z)<|iW Z (pR Z Z)<|iW Z (pR Z Z)<|dD h λQ h=>d_ (Know.len (aE.row (j:=2) Z bR n.1 n.2)) λM=>iW Z (OW Z Z M Z Z Q) ?_;refine iW Z (ED (i:=0) Z Z Z Z Z (by decide)) ?_;refine Dz Z Z Z (DD (us:=[vI (f.1)]) (o:=0) (k:=b.1) 2 ((f.1,((at' (at' a.2 b.1) a.1).2))) ⟨n.1,by first|exact n.2|simpa using n.2⟩ Q Z Z Z Z Z Z Z Z Z Z) (λaa=>(t_ [] Z)) λaa=>dD h λR h=>d_ (Know.len (aE.row (j:=2) Z bR g.1 (by first|exact g.2|simpa using g.2))) λN=>?_;refine iW Z (OW Z Z N Z Z R)<|bM 21 Z Z ?_;refine aB (ED (i:=1) Z Z Z Z Z (by decide)) Z ?_;refine Tb (DD (us:=[vI (f.2)]) (o:=1) (k:=b.1) 2 ((((at' (at' (List.set a.2 (Int.toNat b.1) (List.set (at' a.2 b.1) (Int.toNat a.1) (f.1,((at' (at' a.2 b.1) a.1).2)))) b.1) a.1).1),f.2)) ⟨g.1,by first|exact g.2|simpa using g.2⟩ R Z Z Z Z Z Z Z Z Z Z) λad=>eT<|mQ<|aO<|cI Z<|aA Z<|aM ?_;exact lK ((wI .i64 (a.1+(1:Int))),(List.set (List.set a.2 (Int.toNat b.1) (List.set (at' a.2 b.1) (Int.toNat a.1) (f.1,((at' (at' a.2 b.1) a.1).2)))) (Int.toNat b.1) (List.set (at' (List.set a.2 (Int.toNat b.1) (List.set (at' a.2 b.1) (Int.toNat a.1) (f.1,((at' (at' a.2 b.1) a.1).2)))) b.1) (Int.toNat a.1) (((at' (at' (List.set a.2 (Int.toNat b.1) (List.set (at' a.2 b.1) (Int.toNat a.1) (f.1,((at' (at' a.2 b.1) a.1).2)))) b.1) a.1).1),f.2)))) () h SF (aY.ix [1,2,3,4] Z Z) (aF.refl _ _)
    refine qO<|eM<|eM<|wQ<|mQ ?_;exact gM (a.2) (List.set m (Int.toNat b.1) w) h SF Z
   intro p s h;unfold uY at h;refine aO<|cI Z<|aA Z<|aM ?_;exact yX ((wI .i64 (b.1+(1:Int))),p) (s) h SF Z
  refine fH ?_;exact cL (b.2) (m) h SF (aY.ix [0,1] Z Z) (aF.refl _ _)
 intro F H h;unfold uX at h;refine aW<|aA Z<|aC Z<|aM<|aU ?_;cases h;exact fV (u,H) Z Z (RV.tmp Z) (aY.refl _) aF.nil
def wZ  (a:Unit):Option (Int):=
 some (0:Int)
def pY (b:Int) (a:(Int)->Option (Int)) (c:Unit):Option (Int):=
 a (wI .i64 (b+(1:Int)))
def w_ (b:Int) (a:(Int)->Option (Int)) (c:Bool):Option (Int):=
 if c=true then(some (9:Int))else(pY b a (()))
def mY (U:Nat) (c:xZ) (e:cF) (a:Int) (b:(Int)->Option (Int)):Option (Int):=
 if a<(List.length c.2.1:Int)then(ck (0<=a∧a<(List.length c.2.1:Int)) (if((at' c.2.1 a).2.1)≠(1:Int)then(pY a b (()))else(Option.bind (kD U ((((at' c.2.1 a).1),((at' c.2.1 a).2.1),((at' c.2.1 a).2.2.1),((at' c.2.1 a).2.2.2.1),((at' c.2.1 a).2.2.2.2.1),((at' c.2.1 a).2.2.2.2.2))) ((e.1,e.2)) (0:Int)) λd=>(if d.2<d.1 then(w_ a b (true))else(w_ a b (decide ((4096:Int)<(wI .i64 ((wI .i64 (d.2 - d.1))+(1:Int))))))))))else(wZ  (()))
def uJ (U:Nat) (a:xZ) (b:cF):Option (Int):=
 Option.bind (BO U ((a.1,a.2.1,a.2.2))) λc=>(if(!c)=true then(some (8:Int))else(Option.bind (gE U ((b.1,b.2))) λd=>(if(!d)=true then(some (1:Int))else(bI (mY U a b) U (0:Int)))))
theorem adQ:aV Tryz.prog 90:=Tryz.call90
theorem Lq (U:Nat) {b:xZ} {n:cF} (g:Value)  (v:Value)  (i:Value)  (j:Value)  (y:kH) (r:Int) (h:uJ U b n=some r):
  aX Tryz.prog 90 #[Value.agg #[vS (b.1),g,v],Value.agg #[i,j]] [Sl aQ g b.2.1,Sl aJ v b.2.2,PF (Value.agg #[vS b.1,g,v]),Sl bP i n.1,S2 a_ j y n.2] (λx:Unit=>vI (r)) (λx l=>l) (λ_ l=>l):=by
 refine aX.of Tryz.func90 Z Tryz.ntmps90 Z λc=>?_;refine aW<|aG (aN.box (cs:=[vS (b.1),g,v]) Z Z) Z λF=>aG (aN.box (cs:=[i,j]) Z Z) Z λm=>aC Z<|aM<|aK<|aW<|dV 1 Z<|eX h λA C h=>aG (aN.callQ Tn (Lw U g v A C) Z (n_ [0,1,2] Z)) Z λG=>aB (mE Z) Z<|aM ?_;refine Ab h Z (λ_ h=>?_) λ_ h=>?_
 ·refine aW<|aC Z<|aM<|aU<|aI ?_;cases h;exact sE Z
 refine cK<|aK<|aW<|dV 0 Z<|eX h λB D h=>aG (aN.callQ Nk (zG U i j y B D) Z (n_ [3,4] Z)) Z λH=>aB (mE Z) Z<|aM ?_;refine Ab h Z (λ_ h=>?_) λ_ h=>?_
 ·refine aW<|aC Z<|aM<|aU<|aI ?_;cases h;exact sE Z
 refine cK<|aK<|eD (λe=>wZ  e=some r) (λe o=>[]) (λe o=>[]) ?_ ?_
 ·refine aW<|bU Z<|dK 1 Z<|jB (aE.fact 0 Z) Z<|aA Z<|aM<|aT<|dZ (mY U b n) (λa p=>[(3,vP m),(16,g),(17,vI (List.length b.2.1:Int)),(18,vI (a))]) (λa p=>[bV m [i,j] 29]) (0:Int) () h SF (aY.ix [0] Z Z) ?_;intro u a p h;refine aW<|cO Z<|aM<|aK ?_;refine fE h Z (λh=>?_) λh=>?_
  ·refine cK<|aK<|eD (λf=>pY a (bI (mY U b n) u) f=some r) (λf q=>[(3,vP m),(16,g),(17,vI (List.length b.2.1:Int)),(18,vI (a))]) (λf q=>[bV m [i,j] 29]) ?_ ?_
   ·refine aT<|aW<|dD h λt h=>aB (aZ Z Z (aE.fact 0 Z) Z Z t) Z<|aB (iM (cs:=[vS ((at' b.2.1 a).1),vI ((at' b.2.1 a).2.1),vI ((at' b.2.1 a).2.2.1),vI ((at' b.2.1 a).2.2.2.1),vI ((at' b.2.1 a).2.2.2.2.1),vI ((at' b.2.1 a).2.2.2.2.2)]) Z (aE.fact 0 Z) iL Z Z Z Z t) Z<|aG (aN.alloc (cs:=vD3) Z Z) Z λz=>bQ 0 (vs:=[vS ((at' b.2.1 a).1),vI ((at' b.2.1 a).2.1),vI ((at' b.2.1 a).2.2.1),vI ((at' b.2.1 a).2.2.2.1),vI ((at' b.2.1 a).2.2.2.2.1),vI ((at' b.2.1 a).2.2.2.2.2)]) Z Z Z Z Z Z<|aM<|aK<|aW<|bU Z<|dK 0 Z<|rF Z<|aM ?_;refine fE h Z (λh=>?_) λh=>?_
    ·refine qO<|eM<|wQ<|Bw ?_;exact cL () (()) h SF (aY.ix [1] Z Z) (aF.refl _ _)
    refine cK<|aW<|dV 0 Z<|dV 1 Z<|eX h λk w h=>aG (aN.callQ Xd (Dh U i j y k w) Z (n_ [3,4] Z)) Z λE=>aA Z<|jA Z<|jA Z<|aC Z<|aC Z<|aM<|aK<|eD (λd=>w_ a (bI (mY U b n) u) d=some r) (λd s=>[(3,vP m),(16,g),(17,vI (List.length b.2.1:Int)),(18,vI (a)),(40,vB (d))]) (λd s=>[bV m [i,j] 29]) ?_ ?_
    ·refine aO<|aA Z<|aA Z<|cO Z<|aA Z ?_;refine Dy h Z (λ_ h=>?_) λ_ h=>?_
     ·refine aH Z<|aH Z<|aH Z<|aH Z<|aH Z<|dO Z<|aM ?_;exact cL (true) () h SF (aY.ix [1] Z Z) (aF.refl _ _)
     refine cR Z<|cR Z<|aP Z (oC Z Z) Z<|aP Z (Aa Z Z) Z<|aP Z (wS Z Z) Z<|fI Z<|aM ?_;exact cL (decide ((4096:Int)<(wI .i64 ((wI .i64 (k.2 - k.1))+(1:Int))))) () h SF (aY.ix [1] Z Z) (aF.refl _ _)
    intro d s h;refine Ab h Z (λ_ h=>?_) λ_ h=>?_
    ·refine aW<|aC Z<|aM<|aU<|bL<|aI<|aI<|bL<|aI ?_;cases h;exact sE Z
    refine dW<|mQ ?_;exact gM () (()) h SF Z
   intro f q h;unfold pY at h;refine aO<|cI Z<|aA Z<|aM ?_;exact yX (wI .i64 (a+(1:Int))) () h SF Z
  refine fH ?_;exact cL () (()) h SF .nil (aF.refl _ _)
 intro e o h;unfold wZ at h;refine aW<|aC Z<|aM<|aU ?_;cases h;exact kV Z
def vF  (a:Unit):Option (Bool):=
 some (true)
def vG (c:Int) (b:(Int)->Option (Bool)) (a:Bool):Option (Bool):=
 if a=true then(some (false))else(b (wI .i64 (c+(1:Int))))
def oJ (c:fS) (d:aS) (a:Int) (b:(Int)->Option (Bool)):Option (Bool):=
 if a<(List.length d:Int)then(ck (0<=a∧a<(List.length d:Int)) (ck (0<=a∧a<(List.length c:Int)) (if(at' d a)<((at' c a).1)then(vG a b (true))else(ck (0<=a∧a<(List.length c:Int)) (vG a b (decide (((at' c a).2)<(at' d a))))))))else(vF  (()))
def xK (U:Nat) (a:fS) (b:aS):Option (Bool):=
 if(List.length b:Int)≠(List.length a:Int)then(some (false))else(bI (oJ a b) U (0:Int))
theorem aan:aV Tryz.prog 119:=Tryz.call119
theorem KR (U:Nat) {k:fS} {d:aS} (n:Value)  (o:Value) (r:Bool) (h:xK U k d=some r):
  aX Tryz.prog 119 #[n,o] [Sl a_ n k,Sl bP o d] (λx:Unit=>vB (r)) (λx l=>l) (λ_ l=>l):=by
 refine aX.of Tryz.func119 Z Tryz.ntmps119 Z λc=>?_;refine aW<|aC Z<|aM<|aK<|aW<|aA Z<|jB (aE.fact 1 Z) Z<|aA Z<|jB (aE.fact 0 Z) Z<|rF Z<|aM ?_;refine fE h Z (λh=>?_) λh=>?_
 ·refine aW<|aC Z<|aM<|aU<|aI ?_;cases h;exact kV Z
 refine cK<|aK<|eD (λm=>vF  m=some r) (λm p=>[]) (λm p=>[]) ?_ ?_
 ·refine aW<|aA Z<|jB (aE.fact 1 Z) Z<|aA Z<|aM<|aT<|dZ (oJ k d) (λb q=>[(0,n),(12,o),(13,vI (List.length d:Int)),(14,vI (b))]) (λb q=>[]) (0:Int) () h SF (aY.refl _) ?_;intro s b q h;refine aW<|cO Z<|aM<|aK ?_;refine fE h Z (λh=>?_) λh=>?_
  ·refine cK<|aK<|aT<|aW<|aA Z<|dD h λf h=>aB (aZ Z Z (aE.fact 1 Z) Z Z f) Z<|aB (bX Z (aE.fact 1 Z) Z Z Z dG f) Z<|aC Z<|aC Z<|aM<|aK<|eD (λa=>vG b (bI (oJ k d) s) a=some r) (λa e=>[(0,n),(12,o),(13,vI (List.length d:Int)),(14,vI (b)),(34,vB (a))]) (λa e=>[]) ?_ ?_
   ·refine aO<|aA Z<|aA Z<|aA Z<|dD h λg h=>aB (aZ Z Z (aE.fact 0 Z) Z Z g) Z ?_;refine aB (ED (i:=0) Z Z Z Z Z (by decide)) Z ?_;refine aB (jQ Z (aE.fact 0 Z) Z Z Z oZ g) Z<|cO Z<|aA Z ?_;refine Dy h Z (λ_ h=>?_) λ_ h=>?_
    ·refine aH Z<|aH Z<|aH Z<|aH Z<|aH Z<|aH Z<|aH Z<|dO Z<|aM ?_;exact gM (true) () h SF Z
    refine cR Z<|cR Z<|cR Z<|dD h λj h=>aP Z (aZ Z Z (aE.fact 0 Z) Z Z j) Z ?_;refine aP Z (ED (i:=1) Z Z Z Z Z (by decide)) Z ?_;refine aP Z (jQ Z (aE.fact 0 Z) Z Z Z FA j) Z<|aP Z (wS Z Z) Z<|fI Z<|aM ?_;exact gM (decide (((at' k b).2)<(at' d b))) () h SF Z
   intro a e h;refine Ab h Z (λ_ h=>?_) λ_ h=>?_
   ·refine aW<|aC Z<|aM<|aU<|bL<|aI<|aI<|bL<|aI ?_;cases h;exact kV Z
   refine dW<|mQ<|aO<|cI Z<|aA Z<|aM ?_;exact yX (wI .i64 (b+(1:Int))) () h SF Z
  refine fH ?_;exact gM () (()) h SF Z
 intro m p h;unfold vF at h;refine aW<|aC Z<|aM<|aU ?_;cases h;exact kV Z
def tR  (a:Unit):Option (Bool):=
 some (true)
def qH (U:Nat) (c:fP) (e:bG) (a:Int) (b:(Int)->Option (Bool)):Option (Bool):=
 if a<(List.length c:Int)then(ck (0<=a∧a<(List.length c:Int)) (ck (0<=a∧a<(List.length e:Int)) (Option.bind (xK U (at' c a) (at' e a)) λd=>(if(!d)=true then(some (false))else(b (wI .i64 (a+(1:Int))))))))else(tR  (()))
def vE (U:Nat) (a:fP) (b:bG):Option (Bool):=
 if(List.length b:Int)≠(List.length a:Int)then(some (false))else(bI (qH U a b) U (0:Int))
theorem adR:aV Tryz.prog 91:=Tryz.call91
theorem II (U:Nat) {f:fP} {g:bG} (j:Value)  (p:kH)  (k:Value)  (q:sD) (r:Bool) (h:vE U f g=some r):
  aX Tryz.prog 91 #[j,k] [S2 a_ j p f,S2 bP k q g] (λx:Unit=>vB (r)) (λx l=>l) (λ_ l=>l):=by
 refine aX.of Tryz.func91 Z Tryz.ntmps91 Z λc=>?_;refine aW<|aC Z<|aM<|aK<|aW<|aA Z<|aB (iY Z (aE.fact 1 Z) Z) Z<|aA Z<|aB (iY Z (aE.fact 0 Z) Z) Z<|rF Z<|aM ?_;refine fE h Z (λh=>?_) λh=>?_
 ·refine aW<|aC Z<|aM<|aU<|aI ?_;cases h;exact kV Z
 refine cK<|aK<|eD (λe=>tR  e=some r) (λe n=>[]) (λe n=>[]) ?_ ?_
 ·refine aW<|aA Z<|aB (iY Z (aE.fact 0 Z) Z) Z<|aA Z<|aM<|aT<|dZ (qH U f g) (λd o=>[(1,k),(12,j),(13,vI (List.length f:Int)),(14,vI (d))]) (λd o=>[]) (0:Int) () h SF (aY.refl _) ?_;intro t d o h;refine aW<|cO Z<|aM<|aK ?_;refine fE h Z (λh=>?_) λh=>?_
  ·refine cK<|aK<|aT<|aW<|aA Z<|dD h λa h=>aB (cH Z Z (aE.fact 0 Z) Z Z a) Z<|aB (cG Z (aE.fact 0 Z) Z Z a) Z<|aC Z<|aC Z<|aM<|aW<|aA Z<|aA Z<|aA Z<|dD h λb h=>aB (cH Z Z (aE.fact 1 Z) Z Z b) Z<|aB (cG Z (aE.fact 1 Z) Z Z b) Z<|eX h λi m h=>aG (aN.callQ aan (KR U ((at' p d).1) ((at' q d).1) i m) Z (aF.cons (aE.el (aE.fact 0 Z) a.1 a.2) (aF.cons (aE.el (aE.fact 1 Z) b.1 b.2) .nil))) Z λs=>aB (mE Z) Z<|aM ?_;refine Ab h Z (λ_ h=>?_) λ_ h=>?_
   ·refine aW<|aC Z<|aM<|aU<|bL<|aI<|aI<|bL<|aI ?_;cases h;exact kV Z
   refine dW<|mQ<|aO<|cI Z<|aA Z<|aM ?_;exact yX (wI .i64 (d+(1:Int))) () h SF Z
  refine fH ?_;exact gM () (()) h SF Z
 intro e n h;unfold tR at h;refine aW<|aC Z<|aM<|aU ?_;cases h;exact kV Z
def nH (U:Nat) (a:xZ) (b:cF) (e:bG):Option (Int):=
 Option.bind (uJ U ((a.1,a.2.1,a.2.2)) ((b.1,b.2))) λd=>(if d≠(0:Int)then(some (d))else(Option.bind (jW U ((a.1,a.2.1,a.2.2)) ((b.1,b.2))) λf=>(Option.bind (vE U f e) λc=>(if(!c)=true then(some (10:Int))else(some (0:Int))))))
theorem W_:aV Tryz.prog 65:=Tryz.call65
theorem Er (U:Nat) {a:xZ} {g:cF} {p:bG} (b:Value)  (d:Value)  (e:Value)  (f:Value)  (o:kH)  (m:Value)  (t:sD) (r:Int) (h:nH U a g p=some r):
  aX Tryz.prog 65 #[Value.agg #[vS (a.1),b,d],Value.agg #[e,f],m] [Sl aQ b a.2.1,Sl aJ d a.2.2,PF (Value.agg #[vS a.1,b,d]),Sl bP e g.1,S2 a_ f o g.2,S2 bP m t p] (λx:Unit=>vI (r)) (λx l=>l) (λ_ l=>l):=by
 refine aX.of Tryz.func65 Z Tryz.ntmps65 Z λc=>?_;refine aW<|aG (aN.box (cs:=[vS (a.1),b,d]) Z Z) Z λz=>aG (aN.box (cs:=[e,f]) Z Z) Z λA=>aC Z<|aM<|aK<|aW<|dV 1 Z<|dV 0 Z<|eX h λu v h=>aG (aN.callQ adQ (Lq U b d e f o u v) Z (n_ [0,1,2,3,4] Z)) Z λB=>aC Z<|aM<|aW<|aA Z<|rF Z<|aM ?_;refine fE h Z (λh=>?_) λh=>?_
 ·refine aW<|aA Z<|aC Z<|aM<|aU<|aI ?_;cases h;exact sE Z
 refine cK<|aK<|aW<|dV 1 Z<|dV 0 Z<|eX h λq w h=>aG (aN.callQ RF (Bj U b d e f o q w) Z (n_ [0,1,2,3,4] Z)) Z λs=>aA Z<|eX h λk n h=>aG (aN.callQ adR (II U s.1 (List.zip s.2 q) m t k n) Z (aF.cons (bT (i:=0) (j:=1) Z Z bR) (n_ [5] Z))) Z λy=>aB (mE Z) Z<|aM ?_;refine Ab h Z (λ_ h=>?_) λ_ h=>?_
 ·refine aW<|aC Z<|aM<|aU<|aI ?_;cases h;exact sE Z
 refine cK<|aW<|aC Z<|aM<|aU ?_;cases h;exact sE Z
def xP  (a:bG):Option bG:=
 some (a)
def sX (c:bG) (a:Int×bG) (b:(Int×bG)->Option bG):Option bG:=
 if a.1<(List.length c:Int)then(ck (0<=a.1∧a.1<(List.length c:Int)) (ck ((List.length ([]:aS):Int)+(List.length (at' c a.1):Int)<=1099511627) (ck (0<=a.1∧a.1<(List.length a.2:Int)) (b ((wI .i64 (a.1+(1:Int))),(List.set a.2 (Int.toNat a.1) (([]:aS)++(at' c a.1))))))))else(xP  (a.2))
def mM (U:Nat) (a:bG):Option bG:=
 ck (0<=(List.length a:Int)∧(List.length a:Int)<=1099511627) (bI (sX a) U ((0:Int),(List.replicate (Int.toNat (List.length a:Int)) ([]:aS))))
theorem Nj:aV Tryz.prog 53:=Tryz.call53
theorem zH (U:Nat) {g:bG} (t:Value)  (w:sD) (r:bG) (h:mM U g=some r):
  aX Tryz.prog 53 #[t] [S2 bP t w g] (λx:Lc=>x.1) (λx l=>Ar cZ.raw x.1 x.2::lD b_ x.2 r::l) (λ_ l=>l):=by
 refine aX.of Tryz.func53 Z Tryz.ntmps53 Z λc=>?_;refine aW<|aC Z<|aM<|aW<|aA Z<|aB (iY Z (aE.fact 0 Z) Z) Z<|dD h λu h=>i_ (wB b_ (Int.toNat (List.length g:Int)))<|aG (qP (e:=cZ.raw) (lF) Z Z Z Z u Z Z Z) Z λp=>aC Z<|aM<|aK<|Ch (B:=fR) (λm=>xP  m=some r) (λm n=>[(3,p)]) (λm n=>[Ar cZ.raw p n,lD b_ n m]) ?_ ?_
 ·refine aW<|aA Z<|aB (iY Z (aE.fact 0 Z) Z) Z<|aA Z<|aM<|aT<|dZ (B:=fR) (sX g) (λa b=>[(3,p),(9,t),(10,vI (List.length g:Int)),(11,vI (a.1))]) (λa b=>[Ar cZ.raw p b,lD b_ b a.2]) ((0:Int),(List.replicate (Int.toNat (List.length g:Int)) ([]:aS))) (List.replicate (Int.toNat (List.length g:Int)) (lF)) h SF (aY.refl _) ?_;intro v a b h;refine aW<|cO Z<|aM<|aK ?_;refine fE h Z (λh=>?_) λh=>?_
  ·refine cK<|aK<|aT<|aW<|aA Z<|dD h λf h=>aB (cH Z Z (aE.fact 0 Z) Z Z f) Z<|aB (cG Z (aE.fact 0 Z) Z Z f) Z<|aC Z<|aC Z<|aM<|aO<|aA Z<|aA Z<|aA Z<|i_ (f_ b_)<|dD h λq h=>aG (eN 0 dY Z Z Z (aE.el (aE.fact 0 Z) f.1 f.2) Z Z Z Z q Z) Z λs=>dD h λd h=>aB (cH Z Z (bT (i:=1) (j:=2) Z Z dY) Z Z d) Z<|cD (Know.one ((bE (aE.res 0 Z) dY))) λo=>i_ (yK (k:=a.1) 2 0 Z Z Z d) ?_;refine oY 0 1 ⟨d.1,by first|exact d.2|simpa using d.2⟩ Z Z Z Z Z (by simp) o Z ?_;refine eT<|mQ<|aO<|cI Z<|aA Z<|aM ?_;exact yX ((wI .i64 (a.1+(1:Int))),(List.set a.2 (Int.toNat a.1) (([]:aS)++(at' g a.1)))) (List.set b (Int.toNat a.1) s) h SF Z
  refine fH ?_;exact gM (a.2) (b) h SF Z
 intro m n h;unfold xP at h;refine aW<|aA Z<|aC Z<|aM<|aU ?_;cases h;exact fV (p,n) Z Z (RV.tmp Z) (aY.refl _) aF.nil
end Go.Proofs.YtmdlcmbplnhdnaaGreatDoor
namespace Go.Proofs.YtmdlcmbplnhdnaaGreatDoor
open Go Go.Sx
abbrev sB:=ByteArray×(List Dr)×(List wA)
structure sN (g:GR) (vars:List Dr):Prop where
 len:vars.length<=20
 small:∀x,x<vars.length->DI (at' vars (x:Int))
 kind:∀x,x<vars.length->(at' vars (x:Int)).2.1=1∨(at' vars (x:Int)).2.1=2∨(at' vars (x:Int)).2.1=3
 range:∀x,x<vars.length->(at' vars (x:Int)).2.1=1 -> -100000<=lo g (at' vars (x:Int)) 0∧lo g (at' vars (x:Int)) 0<=hi g (at' vars (x:Int)) 0∧hi g (at' vars (x:Int)) 0 - lo g (at' vars (x:Int)) 0+1<=4096
theorem aey {g:GR} (a:VG g):AE 1000 g.1=some (iR g g.1.length):=by
 have d:=a.n24;have b:=a.len;have h:=a.n1;have f:0<=at' g.1 ((0:Nat):Int):=(a.node 0 (by omega)).id.1;unfold AE;rw[if_neg (by omega),cA (by omega)];have:=eS (step:=uP g.1) (K:=some (iR g g.1.length)) (g.1.length - 1) (λk=>(iR g (k+1),((k+1:Nat):Int))) (λk c i=>by
  unfold uP;dsimp only;rw[if_pos (by omega),cA (by omega),fF (by omega)];rfl) (λc=>by
  unfold uP zE;dsimp only;rw[if_neg (by omega),show g.1.length - 1+1=g.1.length by omega]) 1000 (by omega)
 have e:iR g (0+1)=at' g.1 (0:Int):=by
  show max (iR g 0) (at' g.1 ((0:Nat):Int))=_;simp only[iR];have:at' g.1 ((0:Nat):Int)=at' g.1 (0:Int):=rfl;omega
 rw[e]at this;exact this
theorem LJ {g:GR} (c:VG g) {x:Dr} (o:DI x) (n:x.2.1=1∨x.2.1=2∨x.2.1=3) {v:Nat} (p:v<g.2.length):kD 1000 x g (v:Int)=some (lo g x v,hi g x v):=by
 obtain⟨⟨B,C⟩,⟨r,s⟩,t,u⟩:=o;have l:=c.n24;have d:=c.len;have e:=Ku c g.1.length (by omega);have w:0<=x.2.2.2.2.1*(g.1.length:Int):=Int.mul_nonneg r (by omega);have y:x.2.2.2.2.1*(g.1.length:Int)<=100000*24:=Int.mul_le_mul s (by omega) (by omega) (by omega);have z:0<=x.2.2.2.2.2*iR g g.1.length:=Int.mul_nonneg t e.1;have A:x.2.2.2.2.2*iR g g.1.length<=100000*255:=Int.mul_le_mul u e.2 e.1 (by omega);have i:oT 1000 x g (v:Int)=some (x.2.2.1,x.2.2.2.1+x.2.2.2.2.1*(g.2.length:Int)+x.2.2.2.2.2*iR g g.1.length):=by
  unfold oT;rw[bB (aey c),wr (x:=x.2.2.2.2.1*_) (by omega) (by omega),wr (x:=x.2.2.2.2.2*_) (by omega) (by omega),wr (x:=x.2.2.2.1+_) (by omega) (by omega),wr (by omega) (by omega),d]
 have j:oU 1000 x g (v:Int)=some (-1,((row g v).length:Int) - 1):=by
  have k:=(c.node v p).deg;unfold oU;rw[cA (by omega)];show some ((-1:Int),wI .i64 (((row g v).length:Int) - 1))=_;rw[wr (by omega) (by omega)]
 have q:∀(f:Nat) (a:Int),bI (eW 1000 x g (v:Int)) (f+1) a=eW 1000 x g (v:Int) a (bI (eW 1000 x g (v:Int)) f):=λf a=>rfl;have b:∀(f:Nat) (a:Int),a=0∨a=1∨a=2->bI (eW 1000 x g (v:Int)) (f+1) a=if a=0 then(if 1=x.2.1 then oT 1000 x g (v:Int)else bI (eW 1000 x g (v:Int)) f 1)else if a=1 then(if 2=x.2.1 then rZ 1000 x g (v:Int)else bI (eW 1000 x g (v:Int)) f 2)else(if 3=x.2.1 then oU 1000 x g (v:Int)else bI (eW 1000 x g (v:Int)) f 3):=by
  intro f a m;rw[q];generalize bI (eW 1000 x g (v:Int)) f=G;unfold eW mP;rcases m with rfl|rfl|rfl
  ·rw[if_pos (by decide),cA (by decide),if_pos Z,if_pos Z];split
   ·rw[i];rfl
   ·rfl
  ·rw[if_pos (by decide),cA (by decide),if_neg (show¬(1:Int)=0 by decide),if_pos Z,if_neg (show¬(1:Int)=0 by decide),if_pos Z];split
   ·rfl
   ·rfl
  ·rw[if_pos (by decide),cA (by decide),if_neg (show¬(2:Int)=0 by decide),if_neg (show¬(2:Int)=1 by decide),if_neg (show¬(2:Int)=0 by decide),if_neg (show¬(2:Int)=1 by decide)];split
   ·rw[j];rfl
   ·rfl
 unfold kD lo hi;rcases n with h|h|h
 ·rw[b 999 0 (.inl Z),if_pos Z,if_pos h.symm,i,h,if_neg (by decide),if_neg (by decide),if_neg (by decide),if_neg (by decide)]
 ·rw[b 999 0 (.inl Z),if_pos Z,if_neg (by omega),b 998 1 (.inr (.inl Z)),if_neg (by decide),if_pos Z,if_pos h.symm,h,if_pos Z,if_pos Z];rfl
 ·rw[b 999 0 (.inl Z),if_pos Z,if_neg (by omega),b 998 1 (.inr (.inl Z)),if_neg (by decide),if_pos Z,if_neg (by omega),b 997 2 (.inr (.inr Z)),if_neg (by decide),if_neg (by decide),if_pos h.symm,j,h,if_neg (by decide),if_pos Z,if_neg (by decide),if_pos Z]
def mL (g:GR) (a:List Dr) (v x:Nat):fU:=(lo g (at' a (x:Int)) v,hi g (at' a (x:Int)) v)
def Fa (g:GR) (a:List Dr) (v:Nat):fS:=(List.range a.length).map (mL g a v)
def BU (g:GR) (a:List Dr):fP:=(List.range g.2.length).map (Fa g a)
theorem kU {a:Type} [Inhabited a] (f:Nat->a) {n k:Nat} (h:k<n):at' ((List.range n).map f) (k:Int)=f k:=by
 rw[lO (by simpa using h)];simp
theorem uM {a:Type} (f:Nat->a) (z:a) (n k:Nat) (h:k<n):((List.range k).map f++List.replicate (n - k) z).set k (f k)=(List.range (k+1)).map f++List.replicate (n - (k+1)) z:=by
 rw[show n - k=(n - (k+1))+1 by omega,List.replicate_succ,List.set_append_right _ _ (by simp),List.range_succ];simp
theorem K_ {g:GR} (m:VG g) {p:sB} (n:sN g p.2.1):jW 1000 p g=some (BU g p.2.1):=by
 have s:=m.n24;have d:=m.len;have w:=n.len;let a:=p.2.1;let Q:Nat->fP:=λk=>(List.range k).map (Fa g a)++List.replicate (g.2.length - k) [];have c:∀k,k<=g.2.length->(Q k).length=g.2.length:=λk f=>by simp[Q];omega
 let R:Nat->Nat->fS:=λk j=>(List.range j).map (mL g a k)++List.replicate (a.length - j) (0,0);have l:∀k j,j<=a.length->(R k j).length=a.length:=λk j b=>by simp[R];omega
 unfold jW;rw[cA (by omega)];rw[show List.replicate (Int.toNat (g.1.length:Int)) ([]:fS)=Q 0 by simp[Q,d]];refine eS (step:=mB 1000 p g) (K:=some (BU g a)) g.2.length (λk=>((k:Int),Q k)) (λk e f=> ?_) (λe=> ?_) 1000 (by omega)
 ·unfold mB;dsimp only;rw[if_pos (by simp;omega),cA (by omega),cA (by rw[c k (by omega)];omega)];refine Eq.trans (?_:_=bI (oG 1000 p g ((k:Int),Q k) e) 1000 ((0:Int),(Q k).set k (R k 0))) ?_
  ·rw[Int.toNat_natCast,Int.toNat_natCast];simp[R,a]
  refine eS (step:=oG 1000 p g ((k:Int),Q k) e) (K:=e (((k+1:Nat):Int),Q (k+1))) a.length (λj=>((j:Int),(Q k).set k (R k j))) (λj h b=> ?_) (λh=> ?_) 1000 (by show p.2.1.length<1000;omega)
  ·have u:j<p.2.1.length:=b;have t:=LJ m (n.small j b) (n.kind j b) f;have v:k<(Q k).length:=by rw[c k (by omega)];exact f
   have o:∀X:fS,at' ((Q k).set k X) (k:Int)=X:=λX=>by rw[vV _ _ _ _ v,if_pos Z]
   have i:j<(R k j).length:=by rw[l k j (by omega)];exact b
   unfold oG;dsimp only;rw[if_pos (by omega),cA (by omega),cA (by simp only[List.length_set];omega),cA (by simp only[List.length_set];omega),bB (show kD 1000 _ g (k:Int)=_ from t),Int.toNat_natCast,Int.toNat_natCast];simp only[o,List.set_set];rw[cA (by omega),cA (by simp only[List.length_set];omega),fF (by omega)];have:(R k j).set j (lo g (at' p.2.1 (j:Int)) k,hi g (at' p.2.1 (j:Int)) k)=R k (j+1):=uM (mL g a k) (0,0) a.length j b;rw[vV _ _ _ _ i,if_pos Z];dsimp only;rw[this]
  ·unfold oG uY;dsimp only;rw[if_neg (show¬((a.length:Nat):Int)<(p.2.1.length:Int)from Int.lt_irrefl _),fF (by omega)];have q:R k a.length=Fa g a k:=by simp[R,Fa]
   have r:(Q k).set k (Fa g a k)=Q (k+1):=uM (Fa g a) [] g.2.length k f;rw[q,r]
 ·unfold mB uX;dsimp only;rw[if_neg (by simp;omega)];simp[Q,BU]
theorem abb {g:GR} (c:VG g) {p:sB} (b:sN g p.2.1):uJ 1000 p g=some 0:=by
 have i:=c.n1;have h:=b.len;unfold uJ;rw[bB (show BO 1000 _=some true from rfl),if_neg (by decide),bB (show gE 1000 g=some true from(ME g).1 c),if_neg (by decide)];refine eS (step:=mY 1000 p g) (K:=some 0) p.2.1.length (λk=>(k:Int)) (λk e d=> ?_) (λe=> ?_) 1000 (by omega)
 ·unfold mY pY w_ pY;rw[if_pos (by omega),cA (by omega),fF (by omega)];by_cases a:(at' p.2.1 (k:Int)).2.1=1
  ·obtain⟨j,l,m⟩:=b.range k d a;have f:=LJ c (b.small k d) (b.kind k d) (v:=0) (by omega);rw[if_neg (by simpa using a),bB (show kD 1000 _ g (0:Int)=_ from f)];dsimp only;rw[if_neg (by omega),wr (x:=hi g (at' p.2.1 (k:Int)) 0 - lo g (at' p.2.1 (k:Int)) 0) (by omega) (by omega),wr (by omega) (by omega),if_neg (by rw[decide_eq_true_eq];omega)]
  ·rw[if_pos a]
 ·unfold mY wZ;rw[if_neg (by omega)]
theorem Y_ {g:GR} {a:List Dr} (i:a.length<=20) {v:Nat} {l:aS} (c:l.length=a.length) (d:∀x,x<a.length->lo g (at' a (x:Int)) v<=at' l (x:Int)∧at' l (x:Int)<=hi g (at' a (x:Int)) v):xK 1000 (Fa g a v) l=some true:=by
 have f:(Fa g a v).length=a.length:=by simp[Fa]
 unfold xK;rw[if_neg (by rw[f,c];simp)];refine eS (step:=oJ (Fa g a v) l) (K:=some true) l.length (λk=>(k:Int)) (λk b h=> ?_) (λb=> ?_) 1000 (by omega)
 ·have e:at' (Fa g a v) (k:Int)=mL g a v k:=kU _ (by omega);have:=d k (by omega);unfold oJ vG;rw[if_pos (by omega),cA (by omega),cA (by omega),e];rw[if_neg (show¬at' l (k:Int)<(mL g a v k).1 from Int.not_lt.2 this.1),cA (by omega),if_neg (by rw[decide_eq_true_eq];exact Int.not_lt.2 this.2),fF (by omega)]
 ·unfold oJ vF;rw[if_neg (by omega)]
theorem Pk {g:GR} (a:VG g) {p:sB} (f:sN g p.2.1) {c:bG} (b:Dx g c p.2.1):nH 1000 p g c=some 0:=by
 have i:=a.n24;have l:(BU g p.2.1).length=g.2.length:=by simp[BU]
 have d:=b.len;unfold nH;rw[bB (show uJ 1000 _ _=some 0 from abb a f),if_neg (by decide),bB (show jW 1000 _ _=_ from K_ a f)];have:vE 1000 (BU g p.2.1) c=some true:=by
  unfold vE;rw[if_neg (by rw[l,d];simp)];refine eS (step:=qH 1000 (BU g p.2.1) c) (K:=some true) g.2.length (λk=>(k:Int)) (λk h e=> ?_) (λh=> ?_) 1000 (by omega)
  ·have j:at' (BU g p.2.1) (k:Int)=Fa g p.2.1 k:=kU _ e;unfold qH;rw[if_pos (by omega),cA (by omega),cA (by omega),j,bB (Y_ f.len (b.row k e) (b.ok k e)),if_neg (by decide),fF (by omega)]
  ·unfold qH tR;rw[if_neg (by omega)]
 rw[bB this,if_neg (by decide)]
theorem TC (c:bG) (h:c.length<=900) (e:∀v,v<c.length->(at' c (v:Int)).length<=1000):mM 1000 c=some c:=by
 unfold mM;rw[cA (by omega)];let Q:Nat->bG:=λk=>(List.range k).map (λv:Nat=>at' c (v:Int))++List.replicate (c.length - k) [];rw[show List.replicate (Int.toNat (c.length:Int)) ([]:aS)=Q 0 by simp[Q]];refine eS (step:=sX c) (K:=some c) c.length (λk=>((k:Int),Q k)) (λk b a=> ?_) (λb=> ?_) 1000 (by omega)
 ·have g:(Q k).length=c.length:=by simp[Q];omega
  have:=e k a;unfold sX;dsimp only;rw[if_pos (by omega),cA (by omega),cA (by simp;omega),cA (by omega),fF (by omega),Int.toNat_natCast,List.nil_append];have:(Q k).set k (at' c (k:Int))=Q (k+1):=uM (λv:Nat=>at' c (v:Int)) [] c.length k a;rw[this]
 ·unfold sX xP;dsimp only;rw[if_neg (by omega)];congr 1;refine List.ext_getElem (by simp[Q]) λi f d=> ?_;simp[Q,lO d]
end Go.Proofs.YtmdlcmbplnhdnaaGreatDoor