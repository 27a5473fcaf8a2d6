/- Models and proofs. Conditions: none. -/
import Derived.Test.YtmdlcmbplnhdnaaGreatDoorZRRe6
import Derived.Test.YtmdlcmbplnhdnaaGreatDoorZRRe5
import Derived.Test.YtmdlcmbplnhdnaaGreatDoorZRRe2
import Derived.KernelRfl
set_option linter.unusedVariables false
set_option linter.unusedSimpArgs false
set_option maxHeartbeats 4000000
set_option maxRecDepth 20000
namespace Go.Proofs.YtmdlcmbplnhdnaaGreatDoor
open Go.Sx
theorem BH {R:Type} {step:Int->(Int->Option R)->Option R} {K:Option R} {bad:R} (N:Nat) (p:Nat->Prop)
  (r:∀(k:Nat) c,k<N->p k->step k c=c ((k:Int)+1)) (i:∀(k:Nat) c,k<N->¬p k->step k c=some bad) (j:∀c,step N c=K):
  ∀(b:Nat),N<b->((∀k,k<N->p k)->bL step b 0=K)∧(¬(∀k,k<N->p k)->bL step b 0=some bad):=by
 intro b q;have s:∀(d a b:Nat),a+d=N->d<b->((∀k,a<=k->k<N->p k)->bL step b (a:Int)=K)∧(¬(∀k,a<=k->k<N->p k)->bL step b (a:Int)=some bad):=by
  intro d
  induction d with
  |zero=>
   intro a b v q;obtain rfl:a=N:=by omega
   cases b with
   |zero=>omega
   |succ f=>exact⟨λ_=>j _,λh=>absurd (λk m g=>by omega) h⟩
  | succ d ih =>
   intro a b v q;cases b with
   |zero=>omega
   | succ f =>
    obtain⟨t,u⟩:=ih (a+1) f (by omega) (by omega);have e:((a+1:Nat):Int)=(a:Int)+1:=by omega
    rw[e]at t u;by_cases n:p a
    ·have w:bL step (f+1) (a:Int)=bL step f ((a:Int)+1):=r a _ (by omega) n;rw[w];refine⟨λh=>t λk m g=>h k (by omega) g,λh=>u λo=>h λk m g=> ?_⟩
     by_cases l:k=a
     ·subst l;exact n
     ·exact o k (by omega) g
    ·exact⟨λh=>absurd (h a (Nat.le_refl _) (by omega)) n,λ_=>i a _ (by omega) n⟩
 obtain⟨m,g⟩:=s N 0 b (by omega) q;exact⟨λh=>m λk _ l=>h k l,λh=>g λo=>h λk l=>o k (by omega) l⟩
abbrev GR:=List Int×eY
theorem xV (a:Nat) (v c d:Int):tY a v c d=some (decide (c<=v∧v<=d)):=by
 unfold tY CV;by_cases h:c<=v
 ·rw[if_pos h];congr 1;exact decide_eq_decide.2 ⟨λb=>⟨h,b⟩,λb=>b.2⟩
 ·rw[if_neg h,decide_eq_false (λb=>h b.1)]
abbrev row (g:GR) (v:Nat):eS:=at' g.2 (v:Int)
abbrev Jx (g:GR) (v:Nat):Int:=at' g.1 (v:Int)
abbrev fP (l:eS) (i:Nat):fG:=at' l (i:Int)
def light (g:GR):Prop:=g.1.length<=30∧g.2.length<=30∧∀v,v<g.2.length->(row g v).length<=30
def FS (l:eS) (v n i:Nat):Prop:=(0<=(fP l i).1∧(fP l i).1<=(n:Int) - 1)∧(fP l i).1≠v∧(1<=(fP l i).2∧(fP l i).2<=15)∧∀k,k<i->(fP l k).1≠(fP l i).1
def pB (l:eS) (v n:Nat):Prop:=∀i,i<l.length->FS l v n i
theorem AO (l:eS) (v n:Nat) (o:l.length<=30) (p:n<=30):(pB l v n->pH 1000 l v n=some true)∧(¬pB l v n->pH 1000 l v n=some false):=by
 unfold pH;have a:∀(i:Nat) (b:Int->Option Bool),i<l.length->((∀k,k<i->(fP l k).1≠(fP l i).1)->bL (jE l i b) 1000 0=b ((i:Int)+1))∧(¬(∀k,k<i->(fP l k).1≠(fP l i).1)->bL (jE l i b) 1000 0=some false):=by
  intro i b h;refine BH i _ (λk d m c=> ?_) (λk d m c=> ?_) (λd=> ?_) 1000 (by omega)
  ·unfold jE;rw[if_pos (by omega),cB (by omega),cB (by omega),if_neg c,wr (by omega) (by omega)]
  ·unfold jE;rw[if_pos (by omega),cB (by omega),cB (by omega),if_pos (Decidable.not_not.1 c)]
  ·unfold jE yO;rw[if_neg (by omega),wr (by omega) (by omega)]
 refine BH l.length (FS l v n) (λi b h c=> ?_) (λi b h c=> ?_) (λb=> ?_) 1000 (by omega)
 ·obtain⟨e,f,g,j⟩:=c;unfold nX k_;rw[if_pos (by omega),cB (by omega),wr (x:=(n:Int) - 1) (by omega) (by omega),xV,decide_eq_true e,bD Z,if_neg (by simp),cB (by omega),if_neg f,cB (by omega),xV,decide_eq_true g,bD Z,if_neg (by simp)];exact(a i b h).1 j
 ·unfold nX k_;rw[if_pos (by omega),cB (by omega),wr (x:=(n:Int) - 1) (by omega) (by omega),xV];by_cases e:0<=(fP l i).1∧(fP l i).1<=(n:Int) - 1
  ·rw[decide_eq_true e,bD Z,if_neg (by simp),cB (by omega)];by_cases f:(fP l i).1=v
   ·rw[if_pos f];rfl
   ·rw[if_neg f,cB (by omega),xV];by_cases g:1<=(fP l i).2∧(fP l i).2<=15
    ·rw[decide_eq_true g,bD Z,if_neg (by simp)];exact(a i b h).2 λj=>c ⟨e,f,g,j⟩
    ·rw[decide_eq_false g];rfl
  ·rw[decide_eq_false e];rfl
 ·unfold nX yN;rw[if_neg (by omega)]
def yF (l:eS) (u:Int):Int:=match l.findIdx? (λx=>decide (x.1=u))with
 |some i=>i
 |none=> -1
theorem GW {l:eS} {u:Int} (i:Nat) (b:i<l.length) (d:(fP l i).1=u) (c:∀k,k<i->(fP l k).1≠u):yF l u=i:=by
 have:l.findIdx? (λx=>decide (x.1=u))=some i:=by
  rw[List.findIdx?_eq_some_iff_getElem];have e:∀k (a:k<l.length),fP l k=l[k]:=λk a=>by rw[fP,gX,List.getD_eq_getElem?_getD,List.getElem?_eq_getElem a];rfl
  refine⟨b,by rw[<-e i b];simpa using d,λk a=> ?_⟩
  have:=c k a;rw[e k (by omega)]at this;simpa using this
 rw[yF,this]
theorem NC {l:eS} {u:Int} (b:∀k,k<l.length->(fP l k).1≠u):yF l u = -1:=by
 have:l.findIdx? (λx=>decide (x.1=u))=none:=by
  rw[List.findIdx?_eq_none_iff];intro x c;obtain⟨k,a,rfl⟩:=List.getElem_of_mem c;have:=b k a;rw[fP,gX,List.getD_eq_getElem?_getD,List.getElem?_eq_getElem a]at this;simpa using this
 rw[yF,this]
theorem BN (l:eS) (u:Int):(∃i,i<l.length∧(fP l i).1=u∧(∀k,k<i->(fP l k).1≠u)∧yF l u=i)∨((∀k,k<l.length->(fP l k).1≠u)∧yF l u = -1):=by
 by_cases h:∀k,k<l.length->(fP l k).1≠u
 ·exact .inr ⟨h,NC h⟩
 ·left;have f:∃k,k<l.length∧(fP l k).1=u:=by
   apply Classical.byContradiction;intro o;exact h λk g e=>o ⟨k,g,e⟩
  obtain⟨k,g,n⟩:=f;have:∀m,(∃k,k<=m∧k<l.length∧(fP l k).1=u)->∃i,i<l.length∧(fP l i).1=u∧∀k,k<i->(fP l k).1≠u:=by
   intro m
   induction m with
   |zero=>rintro⟨k,d,a,b⟩;exact⟨k,a,b,λj p=>by omega⟩
   |succ m q=>
    rintro⟨k,d,a,b⟩;by_cases c:∃j,j<=m∧j<l.length∧(fP l j).1=u
    ·exact q c
    ·exact⟨k,a,b,λj p e=>c ⟨j,by omega,by omega,e⟩⟩
  obtain⟨i,d,a,b⟩:=this k ⟨k,Nat.le_refl _,g,n⟩;exact⟨i,d,a,b,GW i d a b⟩
theorem PN (g:GR) (v:Nat) (u:Int) (m:v<g.2.length) (l:(row g v).length<=30):BJ 1000 g v u=some (yF (row g v) u):=by
 unfold BJ;rcases BN (row g v) u with⟨i,j,h,c,b⟩|⟨c,b⟩
 ·rw[b];refine y_ (λx:Int=>∃k:Nat,x=k∧k<=i) (λx=>31 - x.toNat) ?_ 1000 _ ⟨0,rfl,by omega⟩ (by omega);rintro x d ⟨k,rfl,f⟩ a;unfold AS;rw[cB (by omega),if_pos (show(k:Int)<((row g v).length:Int) by omega),cB (by omega),cB (show 0<=(k:Int)∧(k:Int)<((row g v).length:Int) by omega)];by_cases e:k=i
  ·subst e;exact if_pos h
  ·rw[if_neg (c k (by omega)),wr (by omega) (by omega)];exact a _ ⟨k+1,by omega,by omega⟩ (by omega)
 ·rw[b];refine y_ (λx:Int=>∃k:Nat,x=k∧k<=(row g v).length) (λx=>31 - x.toNat) ?_ 1000 _ ⟨0,rfl,by omega⟩ (by omega);rintro x d ⟨k,rfl,f⟩ a;unfold AS;rw[cB (by omega)];by_cases e:k<(row g v).length
  ·rw[if_pos (show(k:Int)<((row g v).length:Int) by omega),cB (by omega),cB (show 0<=(k:Int)∧(k:Int)<((row g v).length:Int) by omega),if_neg (c k e),wr (by omega) (by omega)];exact a _ ⟨k+1,by omega,by omega⟩ (by omega)
  ·rw[if_neg (show¬(k:Int)<((row g v).length:Int) by omega)];rfl
theorem Ff {X R:Type} {step:X->(X->Option R)->Option R} {K:X->Option R} {bad:R} (N:Nat) (p:Nat->Prop) (I:Nat->X->Prop)
  (t:∀(k:Nat) x g,k<N->I k x->p k->∃c,I (k+1) c∧step x g=g c) (j:∀(k:Nat) x g,k<N->I k x->¬p k->step x g=some bad) (l:∀x g,I N x->step x g=K x):
  ∀(b:Nat) (x:X),I 0 x->N<b->((∀k,k<N->p k)->∃c,I N c∧bL step b x=K c)∧(¬(∀k,k<N->p k)->bL step b x=some bad):=by
 intro b x e s;have v:∀(d a b:Nat) (x:X),a+d=N->d<b->I a x->((∀k,a<=k->k<N->p k)->∃c,I N c∧bL step b x=K c)∧(¬(∀k,a<=k->k<N->p k)->bL step b x=some bad):=by
  intro d
  induction d with
  |zero=>
   intro a b x w s e;obtain rfl:a=N:=by omega
   cases b with
   |zero=>omega
   |succ f=>exact⟨λ_=>⟨x,e,l _ _ e⟩,λh=>absurd (λk n i=>by omega) h⟩
  | succ d ih =>
   intro a b x w s e;cases b with
   |zero=>omega
   | succ f =>
    by_cases o:p a
    ·obtain⟨c,r,u⟩:=t a x (bL step f) (by omega) e o;have u:bL step (f+1) x=bL step f c:=u;obtain⟨y,z⟩:=ih (a+1) f c (by omega) (by omega) r;rw[u];refine⟨λh=>y λk n i=>h k (by omega) i,λh=>z λq=>h λk n i=> ?_⟩
     by_cases m:k=a
     ·subst m;exact o
     ·exact q k (by omega) i
    ·exact⟨λh=>absurd (h a (Nat.le_refl _) (by omega)) o,λ_=>j a x _ (by omega) e o⟩
 obtain⟨n,i⟩:=v N 0 b x (by omega) s e;exact⟨λh=>n λk _ m=>h k m,λh=>i λq=>h λk m=>q k (by omega) m⟩
def Cb (g:GR) (v i:Nat):Prop:=∃j,j<(at' g.2 (fP (row g v) i).1).length∧(fP (at' g.2 (fP (row g v) i).1) j).1=v∧(fP (at' g.2 (fP (row g v) i).1) j).2=(fP (row g v) i).2
structure OM (g:GR) (v:Nat):Prop where
 id:0<=Jx g v∧Jx g v<=255
 deg:(row g v).length<g.2.length
 links:pB (row g v) v g.2.length
 ids:∀k,k<v->Jx g k≠Jx g v
structure VG (g:GR):Prop where
 n1:1<=g.2.length
 n24:g.2.length<=24
 len:g.1.length=g.2.length
 node:∀v,v<g.2.length->OM g v
 sym:∀v,v<g.2.length->∀i,i<(row g v).length->Cb g v i
theorem NH (g:GR) (N:light g):(VG g->xE 1000 g=some true)∧(¬VG g->xE 1000 g=some false):=by
 obtain⟨S,H,t⟩:=N;unfold xE;rw[xV,bD Z];by_cases z:1<=g.2.length∧g.2.length<=24
 rotate_left
 ·rw[decide_eq_false (by omega)];exact⟨λh=>absurd ⟨h.n1,h.n24⟩ z,λ_=>rfl⟩
 rw[decide_eq_true (by omega),if_neg (by simp)];by_cases I:g.1.length=g.2.length
 rotate_left
 ·rw[decide_eq_true (by omega)];exact⟨λh=>absurd h.len I,λ_=>rfl⟩
 rw[decide_eq_false (by omega)];unfold zZ;rw[if_neg (by simp)];have o:∀(v:Nat) (b:Int->Option Bool),v<g.2.length->((∀k,k<v->Jx g k≠Jx g v)->bL (oT g v b) 1000 0=b ((v:Int)+1))∧(¬(∀k,k<v->Jx g k≠Jx g v)->bL (oT g v b) 1000 0=some false):=by
  intro v b d;refine BH v _ (λk a C c=> ?_) (λk a C c=> ?_) (λa=> ?_) 1000 (by omega)
  ·unfold oT;rw[if_pos (by omega),cB (by omega),cB (by omega),if_neg c,wr (by omega) (by omega)]
  ·unfold oT;rw[if_pos (by omega),cB (by omega),cB (by omega),if_pos (Decidable.not_not.1 c)]
  ·unfold oT CY;rw[if_neg (by omega),wr (by omega) (by omega)]
 have l:=BH (step:=qY 1000 g) (K:=z_ 1000 g ()) (bad:=false) g.2.length (OM g) (λv b d c=> ?_) (λv b d c=> ?_) (λb=> ?_) 1000 (by omega)
 rotate_left
 ·unfold qY qW;rw[if_pos (by omega),cB (by omega),xV,decide_eq_true c.id,bD Z,if_neg (by simp),cB (by omega),if_neg (show¬((g.2.length:Int)<=((row g v).length:Int))from by have:=c.deg;omega),cB (by omega),(AO (row g v) v g.2.length (t v d) H).1 c.links,bD Z,if_neg (by simp)];exact(o v b d).1 c.ids
 ·unfold qY qW;rw[if_pos (by omega),cB (by omega),xV];by_cases x:0<=Jx g v∧Jx g v<=255
  rotate_left
  ·rw[decide_eq_false x];rfl
  rw[decide_eq_true x,bD Z,if_neg (by simp),cB (by omega)];by_cases J:(row g v).length<g.2.length
  rotate_left
  ·rw[if_pos (show(g.2.length:Int)<=((row g v).length:Int) by omega)];rfl
  rw[if_neg (show¬(g.2.length:Int)<=((row g v).length:Int) by omega),cB (by omega)];by_cases y:pB (row g v) v g.2.length
  rotate_left
  ·rw[(AO (row g v) v g.2.length (t v d) H).2 y];rfl
  rw[(AO (row g v) v g.2.length (t v d) H).1 y,bD Z,if_neg (by simp)];exact(o v b d).2 λL=>c ⟨x,J,y,L⟩
 ·unfold qY;rw[if_neg (by omega)]
 by_cases q:∀v,v<g.2.length->OM g v
 rotate_left
 ·exact⟨λh=>absurd h.node q,λ_=>l.2 q⟩
 rw[l.1 q];unfold z_;have f:∀(v:Nat) (b:Int->Option Bool),v<g.2.length->((∀i,i<(row g v).length->Cb g v i)->bL (mD 1000 g v b) 1000 0=b ((v:Int)+1))∧(¬(∀i,i<(row g v).length->Cb g v i)->bL (mD 1000 g v b) 1000 0=some false):=by
  intro v b d;have P:=t v d;have n:∀(i:Nat) a,i<(row g v).length->(Cb g v i->mD 1000 g v b i a=a ((i:Int)+1))∧(¬Cb g v i->mD 1000 g v b i a=some false):=by
   intro i a r;unfold mD;rw[cB (by omega),if_pos (show(i:Int)<((row g v).length:Int) by omega),cB (by omega),cB (show 0<=(i:Int)∧(i:Int)<((row g v).length:Int) by omega)];have R:=((q v d).links i r).1;obtain⟨u,G⟩:∃u:Nat,(fP (row g v) i).1=u:=⟨(fP (row g v) i).1.toNat,by omega⟩
   have p:u<g.2.length:=by omega
   unfold Cb;rw[show(at' (at' g.2 (v:Int)) (i:Int))=fP (row g v) i from rfl,G,PN g u v p (t u p),bD Z];have F:=(q u p).links;rcases BN (row g u) v with⟨j,w,m,B,A⟩|⟨M,A⟩
   ·rw[A,if_neg (by omega),cB (by omega),cB (show 0<=(j:Int)∧(j:Int)<((at' g.2 (u:Int)).length:Int)from⟨by omega,by have:j<(row g u).length:=w;exact_mod_cast this⟩)];unfold Aa;constructor
    ·rintro⟨k,C,s,E⟩;have D:k=j:=by
      rcases Nat.lt_trichotomy k j with h|h|h
      ·exact absurd s (B k h)
      ·exact h
      ·exact absurd (m.trans s.symm) ((F k C).2.2.2 j h)
     subst D;rw[if_neg (by rw[decide_eq_false];simp;exact λh=>h E),wr (by omega) (by omega)]
    ·intro h;rw[if_pos];exact decide_eq_true λQ=>h ⟨j,w,m,Q⟩
   ·rw[A,if_pos (by decide)];exact⟨fun⟨j,w,m,_⟩=>absurd m (M j w),λ_=>rfl⟩
  refine BH (row g v).length _ (λi a r c=>(n i a r).1 c) (λi a r c=>(n i a r).2 c) (λa=> ?_) 1000 (by omega);unfold mD CX;rw[cB (by omega),if_neg (show¬(((row g v).length:Nat):Int)<((row g v).length:Int) by omega),wr (by omega) (by omega)]
 have e:=BH (step:=qX 1000 g) (K:=some true) (bad:=false) g.2.length (λv=>∀i,i<(row g v).length->Cb g v i) (λv b d c=> ?_) (λv b d c=> ?_) (λb=> ?_) 1000 (by omega)
 ·exact⟨λh=>e.1 h.sym,λh=>e.2 λO=>h ⟨z.1,z.2,I,q,O⟩⟩
 ·unfold qX;rw[if_pos (by omega)];exact(f v b d).1 c
 ·unfold qX;rw[if_pos (by omega)];exact(f v b d).2 c
 ·unfold qX CW;rw[if_neg (by omega)]
theorem u_ {a:Type} [Inhabited a] (l:List a) (i k:Nat) (y:a) (b:i<l.length):at' (l.set i y) (k:Int)=if k=i then y else at' l (k:Int):=by
 rw[gX,gX,List.getD_eq_getElem?_getD,List.getD_eq_getElem?_getD,List.getElem?_set];by_cases h:i=k
 ·rw[if_pos h,if_pos h.symm,if_pos (by omega)];rfl
 ·rw[if_neg h,if_neg (Ne.symm h)]
def TN (l:aP) (k:Nat):Prop:=(0<=at' l (k:Int)∧at' l (k:Int)<=255)∧∀j,j<k->at' l (j:Int)≠at' l (k:Int)
theorem sX (l:aP) (C:l.length<=30):((∀k,k<l.length->TN l k)->iN 1000 l=some true)∧(¬(∀k,k<l.length->TN l k)->iN 1000 l=some false):=by
 unfold iN;have i:=Ff (step:=fI l) (K:=λ_=>some true) (bad:=false) l.length (TN l) (λk x=>x.1=(k:Int)∧x.2.length=256∧∀z:Nat,z<256->(at' x.2 (z:Int)=true↔∃j,j<k∧at' l (j:Int)=(z:Int))) ?_ ?_ ?_ 1000 ((0:Int),(List.replicate 256 false)) ⟨rfl,List.length_replicate ..,λz c=> ?_⟩ (by omega)
 ·exact⟨λh=>by obtain⟨x,_,b⟩:=i.1 h;exact b,i.2⟩
 ·rintro k ⟨t,m⟩ q w ⟨b,a,f⟩ ⟨D,v⟩;dsimp only at b a f;subst b;obtain⟨z,c⟩:∃z:Nat,at' l (k:Int)=z:=⟨(at' l (k:Int)).toNat,by omega⟩
  have p:z<256:=by omega
  have o:¬at' m (z:Int)=true:=by
   rw[f z p];rintro⟨j,e,d⟩;exact v j e (d.trans c.symm)
  refine⟨((k:Int)+1,m.set z true),⟨by simp,by simp[a],λy B=> ?_⟩,?_⟩
  ·dsimp only;rw[u_ _ _ _ _ (by omega)];by_cases g:y=z
   ·subst g;rw[if_pos Z];exact⟨λ_=>⟨k,by omega,c⟩,λ_=>rfl⟩
   ·rw[if_neg g,f y B];constructor
    ·rintro⟨j,e,d⟩;exact⟨j,by omega,d⟩
    ·rintro⟨j,e,d⟩;by_cases n:j=k
     ·subst n;rw[c]at d;omega
     ·exact⟨j,by omega,d⟩
  ·unfold fI gT;dsimp only;rw[if_pos (by omega),cB (by omega),c,if_neg (by omega),if_neg (by omega),cB ⟨by omega,a⟩,if_neg o,cB ⟨by omega,a⟩,wr (by omega) (by omega)];rfl
 ·rintro k ⟨t,m⟩ q w ⟨b,a,f⟩ A;dsimp only at b a f;subst b;unfold fI gT;dsimp only;rw[if_pos (by omega),cB (by omega)];by_cases r:at' l (k:Int)<0
  ·rw[if_pos r,if_pos Z]
  rw[if_neg r];by_cases s:255<at' l (k:Int)
  ·rw[if_pos s,if_pos Z]
  rw[if_neg s];obtain⟨z,c⟩:∃z:Nat,at' l (k:Int)=z:=⟨(at' l (k:Int)).toNat,by omega⟩
  rw[c,cB ⟨by omega,a⟩,if_pos];rw[f z (by omega)];apply Classical.byContradiction;intro u;exact A ⟨by omega,λj e d=>u ⟨j,e,d.trans c⟩⟩
 ·rintro⟨t,m⟩ q ⟨b,_,_⟩;dsimp only at b;subst b;unfold fI mM;dsimp only;rw[if_neg (by omega)]
 ·rw[show at' (List.replicate 256 false) (z:Int)=false by rw[gX,List.getD_eq_getElem?_getD,List.getElem?_replicate,if_pos c];rfl];exact⟨λh=>(by cases h),fun⟨j,e,_⟩=>(by omega)⟩
theorem Te {d e:Type} [DecidableEq d] (k c:d) (v:e):∀l:List (d×e),lK c (BM k v l)=if c=k then some v else lK c l
 | []=>by simp only[BM,lK]
 | x :: xs => by
  simp only[BM];by_cases h:k=x.1
  ·rw[if_pos h];simp only[lK];by_cases a:c=k
   ·rw[if_pos a,if_pos a]
   ·rw[if_neg a,if_neg a,if_neg (λb=>a (b.trans h.symm))]
  ·rw[if_neg h];simp only[lK];by_cases a:c=x.1
   ·rw[if_pos a,if_neg (λb=>h (b.symm.trans a)),if_pos a]
   ·rw[if_neg a,Te k c v xs];by_cases b:c=k
    ·rw[if_pos b,if_pos b]
    ·rw[if_neg b,if_neg b,if_neg a]
theorem Np {a b:Type} [DecidableEq a] {k:a} {v:b} {z:a×b} {l:List (a×b)} (c:lK k l=none):z∈BM k v l↔z=(k,v)∨z∈l:=by
 rw[Gl k v l c];simp[or_comm]
theorem Gk {a c:Type} [DecidableEq a] {k:a}:∀{l:List (a×c)},(∀v,(k,v)∉l)->lK k l=none
 | [],_=>rfl
 |x::xs,h=>by
  simp only[lK];rw[if_neg (λe=>h x.2 (by rw[e];exact List.mem_cons_self ..))];exact Gk λv b=>h v (List.mem_cons_of_mem _ b)
theorem sQ {b c:Type} [DecidableEq b] {k:b} {v:c}:∀{l:List (b×c)},lK k l=none->(k,v)∉l
 | [],_=>by simp
 | x :: xs, h => by
  simp only[lK]at h;by_cases e:k=x.1
  ·rw[if_pos e]at h;cases h
  ·rw[if_neg e]at h;intro d;rcases List.mem_cons.1 d with a|a
   ·exact e (by rw[<-a])
   ·exact sQ h a
theorem Be {a b:Type} [DecidableEq a] {k:a} {v:b}:∀{l:List (a×b)},lK k l=some v->(k,v)∈l
 |x::xs,h=>by
  simp only[lK]at h;by_cases e:k=x.1
  ·rw[if_pos e]at h;cases h;rw[e];exact List.mem_cons_self ..
  ·rw[if_neg e]at h;exact List.mem_cons_of_mem _ (Be h)
theorem IU {a b:Type} (p:a×b->Prop) [DecidablePred p]:∀l:List (a×b),Jz (λd x=>if p d then some false else x) (some true) l=some (decide (∀z∈l,¬p z))
 | []=>by simp[Jz]
 |x::xs=>by
  show(if p x then some false else Jz _ (some true) xs)=_;rw[IU p xs];by_cases h:p x
  ·rw[if_pos h];congr 1;symm;exact decide_eq_false λc=>c x (List.mem_cons_self ..) h
  ·rw[if_neg h];congr 1;apply decide_eq_decide.2;simp[h]
def My (c:eY) (v i:Nat) (z:(Int×Int)×Int):Prop:=∃a b:Nat,(a<v∨(a=v∧b<i))∧b<(at' c (a:Int)).length∧z=(((a:Int),(fP (at' c (a:Int)) b).1),(fP (at' c (a:Int)) b).2)
def JQ (a:eY):Prop:=(∀v,v<a.length->pB (at' a (v:Int)) v a.length)∧∀v,v<a.length->∀i,i<(at' a (v:Int)).length->Cb ([],a) v i
theorem FB (c:eY) (hn:c.length<=30) (hd:∀v,v<c.length->(at' c (v:Int)).length<=30):(JQ c->fQ 1000 c=some true)∧(¬JQ c->fQ 1000 c=some false):=by
 unfold fQ;have s:∀(v:Nat) (m:List ((Int×Int)×Int)) p,v<c.length->(∀z,z∈m↔My c v 0 z)->
   (pB (at' c (v:Int)) v c.length->∃X,(∀z,z∈X↔My c (v+1) 0 z)∧bL (cA c ((v:Int),m) p) 1000 ((0:Int),m)=p ((v:Int)+1,X))∧
   (¬pB (at' c (v:Int)) v c.length->bL (cA c ((v:Int),m) p) 1000 ((0:Int),m)=some false):=by
  intro v m p F hm;have af:=hd v F;have R:=Ff (step:=cA c ((v:Int),m) p) (K:=λx=>p ((v:Int)+1,x.2)) (bad:=false) (at' c (v:Int)).length (FS (at' c (v:Int)) v c.length) (λi x=>x.1=(i:Int)∧∀z,z∈x.2↔My c v i z) ?_ ?_ ?_ 1000 ((0:Int),m) ⟨rfl,hm⟩ (by omega)
  ·refine⟨λh=> ?_,λh=>R.2 h⟩
   obtain⟨x,⟨ah,ad⟩,f⟩:=R.1 h;refine⟨x.2,λz=>(ad z).trans ⟨?_,?_⟩,f⟩
   ·rintro⟨a,b,y,e,l⟩;exact⟨a,b,by omega,e,l⟩
   ·rintro⟨a,b,y,e,l⟩;refine⟨a,b,?_,e,l⟩
    by_cases W:a=v
    ·subst W;exact .inr ⟨rfl,e⟩
    ·omega
  ·rintro i ⟨H,g⟩ I M ⟨f,d⟩ ⟨p1,p2,p3,p4⟩;dsimp only at f d;subst f;have q:lK (((v:Int),(fP (at' c (v:Int)) i).1)) g=none:=by
    apply Gk;intro w hw;obtain⟨a,b,y,e,l⟩:=(d _).1 hw;simp only[Prod.mk.injEq]at l;obtain⟨⟨C,A⟩,_⟩:=l;have:a=v:=by omega
    subst this;have hb:b<i:=by omega
    exact p4 b hb A.symm
   refine⟨((i:Int)+1,BM (((v:Int),(fP (at' c (v:Int)) i).1)) (fP (at' c (v:Int)) i).2 g),⟨by simp,λz=> ?_⟩,?_⟩
   ·dsimp only;rw[Np q,d];constructor
    ·rintro(rfl|⟨a,b,y,e,l⟩)
     ·exact⟨v,i,.inr ⟨rfl,by omega⟩,M,rfl⟩
     ·exact⟨a,b,by omega,e,l⟩
    ·rintro⟨a,b,y,e,l⟩;by_cases J:a=v∧b=i
     ·left;rw[l,J.1,J.2]
     ·right;exact⟨a,b,by omega,e,l⟩
   ·replace p1:0<=(at' (at' c (v:Int)) (i:Int)).1∧(at' (at' c (v:Int)) (i:Int)).1<=(c.length:Int) - 1:=p1;replace p3:1<=(at' (at' c (v:Int)) (i:Int)).2∧(at' (at' c (v:Int)) (i:Int)).2<=15:=p3;unfold cA gA iC;dsimp only;rw[if_pos (by omega),cB (by omega),if_neg (by omega),if_neg (by omega),if_neg (by rw[decide_eq_false p2];simp),if_neg (by omega),if_neg (by rw[decide_eq_false (by omega)];simp),q,if_neg (by simp),wr (by omega) (by omega)]
  ·rintro i ⟨H,g⟩ I M ⟨f,d⟩ P;dsimp only at f d;subst f;unfold cA gA iC;dsimp only;rw[if_pos (by omega),cB (by omega)];by_cases y:(fP (at' c (v:Int)) i).1<0
   ·rw[if_pos y,if_pos Z]
   rw[if_neg y];by_cases e:(c.length:Int)<=(fP (at' c (v:Int)) i).1
   ·rw[if_pos e,if_pos Z]
   rw[if_neg e];by_cases l:(fP (at' c (v:Int)) i).1=v
   ·rw[if_pos (decide_eq_true l)]
   rw[if_neg (by rw[decide_eq_false l];simp)];by_cases C:(fP (at' c (v:Int)) i).2<1
   ·rw[if_pos C,if_pos Z]
   rw[if_neg C];by_cases A:15<(fP (at' c (v:Int)) i).2
   ·rw[if_pos (decide_eq_true A)]
   rw[if_neg (by rw[decide_eq_false A];simp)];have:∃k,k<i∧(fP (at' c (v:Int)) k).1=(fP (at' c (v:Int)) i).1:=by
    apply Classical.byContradiction;intro hc;exact P ⟨by omega,l,by omega,λk N L=>hc ⟨k,N,L⟩⟩
   obtain⟨k,N,L⟩:=this;have n:=(d _).2 ⟨v,k,.inr ⟨rfl,N⟩,by omega,rfl⟩;rw[if_pos];rw[<-L];cases q:lK (((v:Int),(fP (at' c (v:Int)) k).1)) g with
   |some w=>rfl
   | none => exact absurd n (by
     intro n;exact sQ q n)
  ·rintro⟨H,g⟩ I ⟨f,d⟩;dsimp only at f d;subst f;unfold cA lS;dsimp only;rw[if_neg (by omega),wr (by omega) (by omega)]
 have t:=Ff (step:=cN 1000 c) (K:=λx=>iB x.2) (bad:=false) c.length (λv=>pB (at' c (v:Int)) v c.length) (λv x=>x.1=(v:Int)∧∀z,z∈x.2↔My c v 0 z) ?_ ?_ ?_ 1000 ((0:Int),[]) ⟨rfl,λz=>⟨λh=>(by cases h),fun⟨a,b,y,_⟩=>(by omega)⟩⟩ (by omega)
 rotate_left
 ·rintro v ⟨H,g⟩ p F ⟨f,d⟩ P;dsimp only at f d;subst f;obtain⟨X,y,e⟩:=(s v g p F d).1 P;refine⟨((v:Int)+1,X),⟨by simp,y⟩,?_⟩
  ·unfold cN;dsimp only;rw[if_pos (by omega),cB (by omega)];exact e
 ·rintro v ⟨H,g⟩ p F ⟨f,d⟩ P;dsimp only at f d;subst f;unfold cN;dsimp only;rw[if_pos (by omega),cB (by omega)];exact(s v g p F d).2 P
 ·rintro⟨H,g⟩ p ⟨f,d⟩;dsimp only at f d;subst f;unfold cN;dsimp only;rw[if_neg (by omega)]
 by_cases D:∀v,v<c.length->pB (at' c (v:Int)) v c.length
 rotate_left
 ·exact⟨λh=>absurd h.1 D,λ_=>t.2 D⟩
 obtain⟨⟨H,g⟩,⟨f,d⟩,L⟩:=t.1 D;rw[L];dsimp only at d ⊢;have N:iB g=some (decide (∀z∈g,¬(Option.getD (lK (z.1.2,z.1.1) g) (0:Int))≠z.2)):=IU (λz:(Int×Int)×Int=>(Option.getD (lK (z.1.2,z.1.1) g) (0:Int))≠z.2) g;rw[N];have E:(∀z∈g,¬(Option.getD (lK (z.1.2,z.1.1) g) (0:Int))≠z.2)↔∀v,v<c.length->∀i,i<(at' c (v:Int)).length->Cb ([],c) v i:=by
  constructor
  ·intro h v F i M;have hw:=(D v F i M).2.2.1;have n:=(d (((v:Int),(fP (at' c (v:Int)) i).1),(fP (at' c (v:Int)) i).2)).2 ⟨v,i,.inl F,M,rfl⟩;have e:=Decidable.not_not.1 (h _ n);dsimp only at e;cases q:lK ((fP (at' c (v:Int)) i).1,(v:Int)) g with
   |none=>rw[q]at e;simp only[Option.getD]at e;omega
   | some w =>
    rw[q]at e;simp only[Option.getD]at e;obtain⟨a,b,l,C,A⟩:=(d _).1 (Be q);simp only[Prod.mk.injEq]at A;obtain⟨⟨T,U⟩,h8⟩:=A;refine⟨b,?_,?_,?_⟩
    ·show b<(at' c (fP (at' c (v:Int)) i).1).length;rw[T];exact C
    ·show(fP (at' c (fP (at' c (v:Int)) i).1) b).1=v;rw[T];exact U.symm
    ·show(fP (at' c (fP (at' c (v:Int)) i).1) b).2=(fP (at' c (v:Int)) i).2;rw[T,<-h8];exact e
  ·intro h z hz ac;obtain⟨a,b,l,C,rfl⟩:=(d z).1 hz;have W:a<c.length:=by omega
   apply ac;obtain⟨j,r,o,B⟩:=h a W b C;have hu:=(D a W b C).1;obtain⟨u,Q⟩:∃u:Nat,(fP (at' c (a:Int)) b).1=u:=⟨(fP (at' c (a:Int)) b).1.toNat,by omega⟩
   replace r:j<(at' c (fP (at' c (a:Int)) b).1).length:=r;replace o:(fP (at' c (fP (at' c (a:Int)) b).1) j).1=a:=o;replace B:(fP (at' c (fP (at' c (a:Int)) b).1) j).2=(fP (at' c (a:Int)) b).2:=B;rw[Q]at r o B;have G:u<c.length:=by omega
   dsimp only;rw[Q,<-B];have n:=(d (((u:Int),(fP (at' c (u:Int)) j).1),(fP (at' c (u:Int)) j).2)).2 ⟨u,j,.inl G,r,rfl⟩;rw[o]at n;cases q:lK ((u:Int),(a:Int)) g with
   |none=>exact absurd n (sQ q)
   | some w =>
    obtain⟨Y,S,ae,aa,A⟩:=(d _).1 (Be q);simp only[Prod.mk.injEq]at A;obtain⟨⟨T,U⟩,h8⟩:=A;have:Y=u:=by omega
    subst this;have ab:S=j:=by
     rcases Nat.lt_trichotomy S j with O|O|O
     ·exact absurd (U.symm.trans o.symm) ((D Y G j r).2.2.2 S O)
     ·exact O
     ·exact absurd (o.trans U) ((D Y G S aa).2.2.2 j O)
    subst ab;exact h8
 by_cases V:∀v,v<c.length->∀i,i<(at' c (v:Int)).length->Cb ([],c) v i
 ·rw[decide_eq_true (E.2 V)];exact⟨λ_=>rfl,λh=>absurd ⟨D,V⟩ h⟩
 ·rw[decide_eq_false (λh=>V (E.1 h))];exact⟨λh=>absurd h.2 V,λ_=>rfl⟩
theorem IX:∀(N:Nat) (f:Nat->Nat) (k:Nat),(∀i,i<k->f i<N)->(∀i j,i<j->j<k->f i≠f j)->k<=N
 |0,f,k,h,_=>by
  cases k with
  |zero=>omega
  |succ k=>exact absurd (h 0 (by omega)) (by omega)
 | N + 1, f, k, h, hd => by
  by_cases b:∃a,a<k∧f a=N
  ·obtain⟨a,g,l⟩:=b;have:=IX N (λi=>if i<a then f i else f (i+1)) (k - 1) (λi c=>by
    split
    ·have:=h i (by omega);have:=hd i a (by omega) g;omega
    ·have:=h (i+1) (by omega);have:=hd a (i+1) (by omega) (by omega);omega) (λi j d m=>by
    split<;>split
    ·exact hd i j d (by omega)
    ·exact hd i (j+1) (by omega) (by omega)
    ·omega
    ·exact hd (i+1) (j+1) (by omega) (by omega))
   omega
  ·have:=IX N f k (λi c=>by
    have:=h i c;have:f i≠N:=λe=>b ⟨i,c,e⟩;omega) hd
   omega
theorem Pk {l:eS} {v n:Nat} (b:v<n) (h:pB l v n):l.length<n:=by
 have:=IX n (λi=>if i=l.length then v else(fP l i).1.toNat) (l.length+1) (λi e=>by
  split
  ·exact b
  ·have:=(h i (by omega)).1;omega) (λi j a f=>by
  rw[if_neg (by omega)];have c:=(h i (by omega)).1;split
  ·have:=(h i (by omega)).2.1;omega
  ·have d:=(h j (by omega)).1;have:=(h j (by omega)).2.2.2 i a;omega)
 omega
theorem Oj (g:GR) (j:light g):(VG g->gG 1000 g=some true)∧(¬VG g->gG 1000 g=some false):=by
 obtain⟨e,f,i⟩:=j;unfold gG oK oL;by_cases l:g.1.length<1
 ·rw[if_pos (by omega)];exact⟨λh=>by have:=h.n1;have:=h.len;omega,λ_=>rfl⟩
 rw[if_neg (by omega)];by_cases m:24<g.1.length
 ·rw[if_pos (by omega)];exact⟨λh=>by have:=h.n24;have:=h.len;omega,λ_=>rfl⟩
 rw[if_neg (by omega)];by_cases d:g.1.length=g.2.length
 rotate_left
 ·rw[decide_eq_true (by omega)];exact⟨λh=>absurd h.len d,λ_=>rfl⟩
 rw[decide_eq_false (by omega),if_neg (by simp)];by_cases b:∀k,k<g.1.length->TN g.1 k
 rotate_left
 ·rw[(sX g.1 e).2 b,bD Z];exact⟨λh=>absurd (λk n=>⟨(h.node k (by omega)).id,(h.node k (by omega)).ids⟩) b,λ_=>rfl⟩
 rw[(sX g.1 e).1 b,bD Z,if_pos Z];by_cases a:JQ g.2
 ·rw[(FB g.2 f i).1 a];exact⟨λ_=>rfl,λh=>absurd ⟨by omega,by omega,d,λv c=>⟨(b v (by omega)).1,Pk c (a.1 v c),a.1 v c,(b v (by omega)).2⟩,a.2⟩ h⟩
 ·rw[(FB g.2 f i).2 a];exact⟨λh=>absurd ⟨λv c=>(h.node v c).links,h.sym⟩ a,λ_=>rfl⟩
theorem VG.light {g:GR} (h:VG g):light g:=⟨by have:=h.n24;have:=h.len;omega,by have:=h.n24;omega,λv a=>by have:=(h.node v a).deg;have:=h.n24;omega⟩
abbrev D (d:aP) (v:Nat):Int:=at' d (v:Int)
def Ju (g:GR) (v u:Nat):Prop:=∃i,i<(row g v).length∧(fP (row g v) i).1=(u:Int)
theorem VG.port {g:GR} (h:VG g) {v i:Nat} (b:v<g.2.length) (a:i<(row g v).length):∃u:Nat,u<g.2.length∧(fP (row g v) i).1=(u:Int)∧Ju g v u:=by
 have c:=((h.node v b).links i a).1;exact⟨(fP (row g v) i).1.toNat,by omega,by omega,i,a,by omega⟩
theorem VG.back {g:GR} (h:VG g) {v u:Nat} (f:v<g.2.length) (c:Ju g v u):Ju g u v:=by
 obtain⟨i,d,e⟩:=c;obtain⟨j,b,a,_⟩:=h.sym v f i d;rw[e]at b a;exact⟨j,b,a⟩
theorem VG.adj_lt {g:GR} (h:VG g) {v u:Nat} (c:v<g.2.length) (a:Ju g v u):u<g.2.length:=by
 obtain⟨i,b,d⟩:=a;have:=((h.node v c).links i b).1;omega
def EZ (d:aP):Nat:=d.countP λx=>decide (x<0)
structure OA (g:GR) (s:Nat) (d:aP):Prop where
 len:d.length=g.2.length
 lo:∀v,v<g.2.length -> -1<=D d v
 zero:∀v,v<g.2.length->(D d v=0↔v=s)
 near:∀v,v<g.2.length->0<D d v->∃u,u<g.2.length∧Ju g v u∧D d u=D d v - 1
 hi:∀v,v<g.2.length->D d v+(EZ d:Int)<=(g.2.length:Int)
structure Qu (g:GR) (q d:aP) (b:Int) (done:Nat->Prop):Prop where
 mem:∀y∈q,∃v,v<g.2.length∧y=((v:Nat):Int)∧0<=D d v
 top:∀v,v<g.2.length->D d v<=b
 sort:q.Pairwise λa c=>at' d a<=at' d c
 done:∀v,v<g.2.length->0<=D d v->((v:Nat):Int)∉q->done v->∀u,u<g.2.length->Ju g v u->0<=D d u∧D d u<=D d v+1
theorem Dp {d:aP} {v:Nat} (h:v<d.length):D d v=d[v]:=by
 rw[D,gX,List.getD_eq_getElem?_getD,List.getElem?_eq_getElem h];rfl
theorem Ip {d:aP} {u:Nat} {x:Int} (a:u<d.length) (b:D d u<0) (e:0<=x):EZ (d.set u x)+1=EZ d:=by
 unfold EZ;rw[List.countP_set a];have c:0<d.countP λx=>decide (x<0):=by
  rw[List.countP_pos_iff];exact⟨d[u],List.getElem_mem a,by rw[<-Dp a];simpa using b⟩
 rw[Dp a]at b;rw[if_pos (by simpa using b),if_neg (by simp;omega)];omega
theorem assign {g:GR} {s:Nat} {q d:aP} {b:Int} {done:Nat->Prop} (E:VG g) (l:OA g s d) {x u:Nat} (m:Qu g q d (D d x+1) done) (B:x<g.2.length) (K:0<=D d x) (J:u<g.2.length) (t:D d u<0) (F:Ju g x u):
  OA g s (d.set u (D d x+1))∧Qu g (q++[(u:Int)]) (d.set u (D d x+1)) (D d x+1) done:=by
 have o:=l.len;have e:∀v,D (d.set u (D d x+1)) v=if v=u then D d x+1 else D d v:=λv=>u_ _ _ _ _ (by omega);have G:=Ip (x:=D d x+1) (by omega:u<d.length) t (by omega);refine⟨⟨by simp[o],λv f=> ?_,λv f=> ?_,λv f=> ?_,λv f=> ?_⟩,⟨λy j=> ?_,λv f=> ?_,?_,λv f k n H w A i=> ?_⟩⟩
 ·rw[e];split
  ·omega
  ·exact l.lo v f
 ·rw[e];split
  ·rename_i h;subst h;have:=(l.zero v f)
   constructor
   ·intro;omega
   ·intro h;have:=this.2 h;omega
  ·exact l.zero v f
 ·rw[e];split
  ·rename_i h;subst h;intro _;refine⟨x,B,E.back B F,?_⟩
   rw[e,if_neg (by intro h;subst h;omega)];omega
  ·intro k;obtain⟨w,A,i,I⟩:=l.near v f k;refine⟨w,A,i,?_⟩
   rw[e,if_neg (by intro h;subst h;omega)];exact I
 ·rw[e];split
  ·have:=l.hi x B;omega
  ·have:=l.hi v f;omega
 ·rcases List.mem_append.1 j with j|j
  ·obtain⟨v,f,rfl,k⟩:=m.mem y j;refine⟨v,f,rfl,?_⟩
   rw[e];split<;>omega
  ·simp only[List.mem_singleton]at j;refine⟨u,J,j,?_⟩
   rw[e,if_pos Z];omega
 ·rw[e];split
  ·omega
  ·exact m.top v f
 ·rw[List.pairwise_append];have n:∀y∈q,at' (d.set u (D d x+1)) y=at' d y:=by
   intro y j;obtain⟨v,f,rfl,k⟩:=m.mem y j;have:=e v;rw[if_neg (by intro h;subst h;omega)]at this;exact this
  refine⟨m.sort.imp_of_mem λ{a c} h1 r h=> ?_,List.pairwise_singleton ..,λy j z C=> ?_⟩
  ·rw[n a h1,n c r];exact h
  ·simp only[List.mem_singleton]at C;subst C;rw[n y j];have r:=e u;rw[if_pos Z]at r;obtain⟨v,f,rfl,k⟩:=m.mem y j;have:=m.top v f;show D d v<=D (d.set u (D d x+1)) u;omega
 ·have p:v≠u:=by
   rintro rfl;exact n (by simp)
  rw[e,if_neg p]at k;rw[e v,if_neg p];have:=m.done v f k (λh=>n (List.mem_append_left _ h)) H w A i;rw[e w,if_neg (by rintro rfl;omega)];exact this
theorem LN {g:GR} (E:VG g) {s x:Nat} (I:x<g.2.length) (a e:aP) (R:List Int×aP->Option aP) (r:aP->Prop)
  (o:OA g s e) (ae:0<=D e x) (m:Qu g a e (D e x+1) (λv=>v≠x)) (hm:a.length+EZ e<=g.2.length)
  (K:∀q d,OA g s d->D d x=D e x->Qu g q d (D d x+1) (λ_=>True)->q.length+EZ d=a.length+EZ e->(∀y∈q,D e x<=at' d y)->OK r (R (q,d)))
  (l:∀y∈a,D e x<=at' e y):
  OK r (bL (pM g ((x:Int)::a,e) R) 1000 ((0:Int),a,e)):=by
 have U:=(E.node x I).deg;have aa:=E.n24;refine xA (λz:Int×List Int×aP=>∃k:Nat,z.1=k∧k<=(row g x).length∧OA g s z.2.2∧D z.2.2 x=D e x∧Qu g z.2.1 z.2.2 (D e x+1) (λv=>v≠x)∧z.2.1.length+EZ z.2.2=a.length+EZ e∧(∀i,i<k->∀u:Nat,(fP (row g x) i).1=u->0<=D z.2.2 u)∧(∀y∈z.2.1,D e x<=at' z.2.2 y)) (λz=>31 - z.1.toNat) ?_ 1000 _ ⟨0,rfl,by omega,o,rfl,m,rfl,λi L=>by omega,l⟩ (by simp);rintro⟨z1,q,d⟩ X ⟨k,W,hk,o,f,m,A,F,l⟩ p;dsimp only at W o f m A F l;subst W;have V:=o.len;have e0:at' ((x:Int)::a) 0=(x:Int):=rfl;unfold pM pL;dsimp only;rw[e0];by_cases N:k<(row g x).length
 ·rw[if_pos (show(k:Int)<((row g x).length:Int) by omega),cB (show 0<=(k:Int)∧(k:Int)<((row g x).length:Int) by omega)];obtain⟨u,G,O,j⟩:=E.port I N;rw[show at' (at' g.2 (x:Int)) (k:Int)=fP (row g x) k from rfl,O,cB (by omega)];have ac:=o.hi x I;by_cases c:at' d (u:Int)<0
  ·have J:Qu g q d (D d x+1) (λv=>v≠x):=by rw[f];exact m
   obtain⟨Y,c2⟩:=assign (b:=0) E o J I (by omega) G c j;have ab:=Ip (x:=D d x+1) (by omega:u<d.length) c (by omega);have n:∀v,D (d.set u (D d x+1)) v=if v=u then D d x+1 else D d v:=λv=>u_ _ _ _ _ (by omega);have Q:x≠u:=by rintro rfl;have:D d x<0:=c;omega
   rw[if_pos c,cB (by omega),cB (by omega),cB (by simp only[List.length_singleton];omega),wr (x:=(k:Int)+1) (by omega) (by omega),wr (x:=at' d (x:Int)+1) (by show -9223372036854775808<=D d x+1;omega) (by show D d x+1<=_;omega)];refine p _ ⟨k+1,by simp,by omega,Y,?_,?_,?_,?_,?_⟩ (by dsimp only;omega)
   ·show D (d.set u (D d x+1)) x=_;rw[n,if_neg Q];exact f
   ·rw[<-f];exact c2
   ·show(q++[(u:Int)]).length+EZ (d.set u (D d x+1))=_;simp only[List.length_append,List.length_singleton];omega
   ·intro i L w P;show 0<=D (d.set u (D d x+1)) w;rw[n];split
    ·omega
    ·by_cases t:i=k
     ·subst t;omega
     ·exact F i (by omega) w P
   ·intro y B;show D e x<=at' (d.set u (D d x+1)) y;rcases List.mem_append.1 B with B|B
    ·have h1:=l y B;obtain⟨v,H,rfl,S⟩:=m.mem y B;have T:=n v;rw[if_neg (by intro h;subst h;have:D d v<0:=c;omega)]at T;rw[show at' (d.set u (D d x+1)) (v:Int)=D d v from T];exact h1
    ·simp only[List.mem_singleton]at B;subst B;rw[show at' (d.set u (D d x+1)) (u:Int)=D d x+1 from(n u).trans (if_pos Z)];omega
  ·rw[if_neg c,wr (by omega) (by omega)];refine p _ ⟨k+1,by simp,by omega,o,f,m,A,?_,l⟩ (by dsimp only;omega);intro i L w P;by_cases t:i=k
   ·subst t;have:w=u:=by omega
    subst this;show 0<=at' d (w:Int);omega
   ·exact F i (by omega) w P
 ·rw[if_neg (show¬(k:Int)<((row g x).length:Int) by omega)];have ad:k=(row g x).length:=by omega
  refine K q d o f ⟨m.mem,λv H=>by rw[f];exact m.top v H,m.sort,λv H S hq _ u G j=> ?_⟩ A l;by_cases C:v=x
  ·subst C;obtain⟨i,L,M⟩:=j;exact⟨F i (by omega) u M,by rw[f];exact m.top u G⟩
  ·exact m.done v H S hq C u G j
structure rV (g:GR) (s:Nat) (d:aP):Prop where
 len:d.length=g.2.length
 lo:∀v,v<g.2.length -> -1<=D d v
 zero:∀v,v<g.2.length->(D d v=0↔v=s)
 near:∀v,v<g.2.length->0<D d v->∃u,u<g.2.length∧Ju g v u∧D d u=D d v - 1
 next:∀v,v<g.2.length->0<=D d v->∀u,u<g.2.length->Ju g v u->0<=D d u∧D d u<=D d v+1
 hi:∀v,v<g.2.length->D d v<=(g.2.length:Int)
theorem NR {g:GR} (t:VG g) {s:Nat} (f:aP) (k:aP) (b:OA g s f) (c:Qu g k f (match k with|[]=>1000|y::_=>at' f y+1) (λ_=>True)) (j:k.length+EZ f<=g.2.length):
  OK (rV g s) (bL (mR 1000 g) 1000 (k,f)):=by
 have G:=t.n24;refine xA (λz:List Int×aP=>OA g s z.2∧Qu g z.1 z.2 (match z.1 with|[]=>1000|y::_=>at' z.2 y+1) (λ_=>True)∧z.1.length+EZ z.2<=g.2.length) (λz=>z.1.length+EZ z.2) ?_ 1000 _ ⟨b,c,j⟩ (by dsimp only;omega);rintro⟨q,d⟩ C ⟨b,c,j⟩ m;dsimp only at b c j;unfold mR tB;dsimp only;cases q with
 |nil=>
  rw[if_neg (by simp)];exact⟨d,rfl,b.len,b.lo,b.zero,b.near,λv e l u n a=>c.done v e l (by simp) trivial u n a,λv e=>by have:=b.hi v e;omega⟩
 | cons y rest =>
  obtain⟨x,A,rfl,p⟩:=c.mem y (List.mem_cons_self ..);have F:at' ((x:Int)::rest) 0=(x:Int):=rfl;rw[if_pos (by simp only[List.length_cons];omega),cB (by simp only[List.length_cons];omega),cB (by simp only[List.length_cons];omega),F,cB (by omega)];have w:=List.pairwise_cons.1 c.sort;simp only[List.length_cons]at j;refine LN t A rest d C _ b p ⟨λz I=>c.mem z (List.mem_cons_of_mem _ I),c.top,w.2,λv e l H o u n a=>c.done v e l (λh=> ?_) trivial u n a⟩ (by omega) (λB E r J i K D=> ?_) w.1
  ·rcases List.mem_cons.1 h with h|h
   ·exact o (by omega)
   ·exact H h
  ·refine m (B,E) ⟨r,⟨i.mem,λv e=> ?_,i.sort,i.done⟩,by dsimp only;omega⟩ (by simp only[List.length_cons];omega);dsimp only;have L:=i.top v e;cases B with
   |nil=>
    dsimp only;have:=r.hi x A;omega
   |cons z M=>
    dsimp only;have:=D z (List.mem_cons_self ..);omega
theorem Gv {g:GR} (l:VG g) {s:Nat} (m:s<g.2.length):OK (rV g s) (jA 1000 g (s:Int)):=by
 have q:=l.n24;unfold jA;rw[cB (by omega)];refine xA (λz:mN=>∃k:Nat,z.1=k∧k<=g.2.length∧z.2.length=g.2.length∧∀v,v<k->D z.2 v = -1) (λz=>31 - z.1.toNat) ?_ 1000 _ ⟨0,rfl,by omega,by simp,λv c=>by omega⟩ (by simp);rintro⟨C,d⟩ A ⟨k,o,B,e,j⟩ i;dsimp only at o e j;subst o;unfold yA;simp only[List.length_replicate,Int.toNat_natCast];by_cases u:k<g.2.length
 ·rw[if_pos (by omega),cB (by omega),wr (by omega) (by omega)];refine i _ ⟨k+1,by simp,by omega,by simp[e],λv c=> ?_⟩ (by dsimp only;omega);show at' (d.set k (-1)) (v:Int) = -1;rw[u_ _ _ _ _ (by omega)];split
  ·rfl
  ·exact j v (by omega)
 ·rw[if_neg (by omega)];unfold x_;rw[cB (by omega)];have b:∀v,v<g.2.length->D d v = -1:=λv c=>j v (by omega);have a:∀v,D (d.set s 0) v=if v=s then 0 else D d v:=λv=>u_ _ _ _ _ (by omega);have t:=Ip (x:=0) (by omega:s<d.length) (by rw[b s m];omega) (by omega);have r:EZ d<=d.length:=List.countP_le_length ..;refine NR l _ _ ⟨by simp[e],λv c=> ?_,λv c=> ?_,λv c=> ?_,λv c=> ?_⟩ ⟨λy n=> ?_,λv c=> ?_,List.pairwise_singleton ..,λv c p w=> ?_⟩ ?_
  ·rw[Int.toNat_natCast,a];split
   ·omega
   ·rw[b v c];omega
  ·rw[Int.toNat_natCast,a];split
   ·rename_i h;exact⟨λ_=>h,λ_=>rfl⟩
   ·rename_i h;rw[b v c];exact⟨λf=>by omega,λf=>absurd f h⟩
  ·rw[Int.toNat_natCast,a];split
   ·omega
   ·rw[b v c];omega
  ·rw[Int.toNat_natCast,a];split
   ·omega
   ·rw[b v c];omega
  ·simp only[List.mem_singleton]at n;refine⟨s,m,n,?_⟩
   rw[Int.toNat_natCast,a,if_pos Z];omega
  ·rw[Int.toNat_natCast];have f:at' (d.set s 0) (s:Int)=0:=(a s).trans (if_pos Z);show D (d.set s 0) v<=at' (d.set s 0) (s:Int)+1;rw[f,a];split
   ·omega
   ·rw[b v c];omega
  ·rw[Int.toNat_natCast,a,if_neg (by rintro rfl;exact w (by simp)),b v c]at p;omega
  ·rw[Int.toNat_natCast];simp only[List.length_singleton];omega
theorem Lm {g:GR} (a:VG g) {s:Nat} (e:s<g.2.length):OK (rV g s) (nC 1000 g (s:Int)):=by
 unfold nC lR;rw[(Oj g a.light).1 a,bD Z,if_neg (by simp),if_neg (by omega),decide_eq_false (by omega),if_neg (by simp)];obtain⟨d,c,b⟩:=Gv a e;rw[c];exact⟨d,rfl,b⟩
def wO (g:GR) (s:Nat):Nat->Nat->Prop
 |0,v=>v=s∧s<g.2.length
 |k+1,v=>∃u,wO g s k u∧Ju g u v
theorem wO.lt {g:GR} (a:VG g) {s:Nat}:∀{k v:Nat},wO g s k v->v<g.2.length
 |0,_,h=>by obtain⟨rfl,h⟩:=h;exact h
 |_+1,_,h=>by obtain⟨u,b,c⟩:=h;exact a.adj_lt (wO.lt a b) c
theorem wO.trans {g:GR} {s t:Nat} {k:Nat} (h:wO g s k t):∀{m v:Nat},wO g t m v->wO g s (k+m) v
 |0,_,h2=>by obtain⟨rfl,_⟩:=h2;exact h
 |_+1,_,h2=>by obtain⟨u,a,b⟩:=h2;exact⟨u,wO.trans h a,b⟩
theorem EU {g:GR} (a:VG g) {s:Nat}:∀{k v:Nat},wO g s k v->wO g v k s
 |0,_,h=>by obtain⟨rfl,h⟩:=h;exact⟨rfl,h⟩
 |k+1,v,h=>by
  obtain⟨u,b,c⟩:=h;have d:=wO.lt a b;have e:wO g v 1 u:=⟨v,⟨rfl,a.adj_lt d c⟩,a.back d c⟩
  have:=wO.trans e (EU a b);rwa[Nat.add_comm]at this
theorem rV.le {g:GR} (a:VG g) {s:Nat} {d:aP} (h:rV g s d):∀{k v:Nat},wO g s k v->0<=D d v∧D d v<=k
 |0,v,hw=>by
  obtain⟨rfl,i⟩:=hw;have:=(h.zero v i).2 Z;omega
 |k+1,v,hw=>by
  obtain⟨u,b,c⟩:=hw;have e:=wO.lt a b;have f:=rV.le a h b;have j:=h.next u e f.1 v (a.adj_lt e c) c;omega
theorem JK {g:GR} (b:VG g) {s:Nat} {d:aP} (h:rV g s d):∀(k v:Nat),v<g.2.length->D d v=k->wO g s k v
 |0,v,hv,he=>by
  have:=(h.zero v hv).1 he;exact⟨this,by omega⟩
 |k+1,v,hv,he=>by
  obtain⟨u,c,a,e⟩:=h.near v hv (by omega);exact⟨u,JK b h k u c (by omega),b.back hv a⟩
theorem rV.pos {g:GR} (a:VG g) {s:Nat} {d:aP} (h:rV g s d) {v:Nat} (b:v<g.2.length) (c:0<=D d v):wO g s (D d v).toNat v:=
 JK a h _ v b (by omega)
theorem Ng (d:aP) (h:d.length<=30):OK (λr:Int=> -1<=r∧(∀v,v<d.length->D d v<=r)∧(r = -1∨∃v,v<d.length∧D d v=r)) (lJ 1000 d):=by
 unfold lJ;refine xA (λz:fG=>∃k:Nat,z.2=k∧k<=d.length ∧ -1<=z.1∧(∀v,v<k->D d v<=z.1)∧(z.1 = -1∨∃v,v<k∧D d v=z.1)) (λz=>31 - z.2.toNat) ?_ 1000 _ ⟨0,rfl,by omega,by omega,λv b=>by omega,.inl Z⟩ (by simp);rintro⟨m,z⟩ n ⟨k,j,o,g,c,a⟩ e;dsimp only at j g c a;subst j;unfold vH qA;dsimp only;by_cases l:k<d.length
 ·rw[if_pos (by omega),cB (by omega),wr (by omega) (by omega)];refine e _ ⟨k+1,by simp,by omega,by dsimp only;omega,λv b=> ?_,?_⟩ (by dsimp only;omega)
  ·by_cases f:v=k
   ·subst f;show D d v<=max m (D d v);omega
   ·have:=c v (by omega);show D d v<=max m (D d k);omega
  ·by_cases p:m<=D d k
   ·exact .inr ⟨k,by omega,by show D d k=max m (D d k);omega⟩
   ·rcases a with a|⟨v,b,i⟩
    ·left;show max m (D d k) = -1;omega
    ·exact .inr ⟨v,by omega,by show D d v=max m (D d k);omega⟩
 ·rw[if_neg (by omega)];refine⟨m,rfl,g,λv b=>c v (by omega),?_⟩
  rcases a with a|⟨v,b,i⟩
  ·exact .inl a
  ·exact .inr ⟨v,by omega,i⟩
def KJ (g:GR):Prop:=∀u v,u<g.2.length->v<g.2.length->∃k,wO g u k v
theorem yX {g:GR} (a:VG g):(KJ g->eV 1000 g=some true)∧(¬KJ g->eV 1000 g=some false):=by
 have r:=a.n1;have n:=a.n24;unfold eV;obtain⟨d,o,e⟩:=Gv a (s:=0) (by omega);have j:=e.len;rw[(Oj g a.light).1 a,bD Z,if_neg (by simp),show jA 1000 (g.1,g.2) 0=some d from o,bD Z];have c:=BH (step:=j_ d) (K:=some true) (bad:=false) d.length (λv=>0<=D d v) (λk i f p=> ?_) (λk i f p=> ?_) (λi=> ?_) 1000 (by omega)
 ·have b:(∀v,v<d.length->0<=D d v)↔KJ g:=by
   constructor
   ·intro h u v q l;exact⟨_,wO.trans (EU a (rV.pos a e q (h u (by omega)))) (rV.pos a e l (h v (by omega)))⟩
   ·intro h v l;obtain⟨k,f⟩:=h 0 v (by omega) (by omega);exact(rV.le a e f).1
  exact⟨λh=>c.1 (b.2 h),λh=>c.2 λm=>h (b.1 m)⟩
 ·unfold j_;rw[if_pos (by omega),cB (by omega),if_neg (show¬D d k<0 by omega),wr (by omega) (by omega)]
 ·unfold j_;rw[if_pos (by omega),cB (by omega),if_pos (show D d k<0 by omega)]
 ·unfold j_ pD;rw[if_neg (by omega)]
def Ecc (g:GR) (s:Nat) (r:Int):Prop:=∃d,jA 1000 g (s:Int)=some d∧rV g s d∧(∀v,v<g.2.length->D d v<=r)∧∃v,v<g.2.length∧D d v=r
theorem Pq {g:GR} (e:VG g) {s:Nat} (i:s<g.2.length):∃d r,jA 1000 g (s:Int)=some d∧lJ 1000 d=some r∧Ecc g s r:=by
 obtain⟨d,f,a⟩:=Gv e i;have h:=a.len;have j:=e.n24;obtain⟨r,l,o,b,c⟩:=Ng d (by omega);have n:=b s (by omega);have:=(a.zero s i).2 Z;refine⟨d,r,f,l,d,f,a,λv m=>b v (by omega),?_⟩
 rcases c with c|⟨v,m,k⟩
 ·omega
 ·exact⟨v,by omega,k⟩
theorem Hc {g:GR} (a:VG g) (f:KJ g) {s:Nat} (h:s<g.2.length):OK (Ecc g s) (iO 1000 g (s:Int)):=by
 unfold iO jU;rw[(yX a).1 f,bD Z,if_neg (by simp),if_neg (by omega),decide_eq_false (by omega),if_neg (by simp)];obtain⟨d,r,b,c,e⟩:=Pq a h;rw[b,bD Z,c,bD Z];exact⟨r,rfl,e⟩
theorem Ko (g:GR) (v:Nat) (u:Int) (m:v<g.2.length) (l:(row g v).length<=30):lY 1000 g v u=some (yF (row g v) u):=by
 unfold lY;rw[cB (by omega)];rcases BN (row g v) u with⟨i,j,h,c,b⟩|⟨c,b⟩
 ·rw[b];refine y_ (λx:Int=>∃k:Nat,x=k∧k<=i) (λx=>31 - x.toNat) ?_ 1000 _ ⟨0,rfl,by omega⟩ (by omega);rintro x d ⟨k,rfl,f⟩ a;unfold tA;rw[if_pos (show(k:Int)<((row g v).length:Int) by omega),cB (show 0<=(k:Int)∧(k:Int)<((row g v).length:Int) by omega)];by_cases e:k=i
  ·subst e;exact if_pos h
  ·rw[if_neg (c k (by omega)),wr (by omega) (by omega)];exact a _ ⟨k+1,by omega,by omega⟩ (by omega)
 ·rw[b];refine y_ (λx:Int=>∃k:Nat,x=k∧k<=(row g v).length) (λx=>31 - x.toNat) ?_ 1000 _ ⟨0,rfl,by omega⟩ (by omega);rintro x d ⟨k,rfl,f⟩ a;unfold tA;by_cases e:k<(row g v).length
  ·rw[if_pos (show(k:Int)<((row g v).length:Int) by omega),cB (show 0<=(k:Int)∧(k:Int)<((row g v).length:Int) by omega),if_neg (c k e),wr (by omega) (by omega)];exact a _ ⟨k+1,by omega,by omega⟩ (by omega)
  ·rw[if_neg (show¬(k:Int)<((row g v).length:Int) by omega)];rfl
section
def ahd (f:Nat->Nat):Nat->Nat
 |0=>0
 |k+1=>ahd f k+f k
open Classical in
noncomputable def ind (p:Prop):Nat:=if p then 1 else 0
theorem OW {g:GR} (a:VG g) {v:Nat} (d:v<g.2.length):¬Ju g v v:=by
 rintro⟨i,c,b⟩;exact((a.node v d).links i c).2.1 b
end
theorem Ow (a:Nat) (h:a<4294967296):IntKind.u32.wrap (a:Int)=a:=by rw[<-Eg];exact if_pos ⟨by omega,by omega⟩
def Xk (x:Int):Nat:=(BitVec.ofInt 32 x).toNat
theorem KS (x:Int):Xk x<4294967296:=(BitVec.ofInt 32 x).isLt
theorem Ax {a:Nat} (h:a<4294967296):Xk (a:Int)=a:=by
 unfold Xk;rw[BitVec.ofInt_natCast,BitVec.toNat_ofNat];exact Nat.mod_eq_of_lt h
theorem La (x y:Int):dV .u32 x y=((Xk x &&& Xk y:Nat):Int):=by
 show IntKind.u32.wrap (((BitVec.ofInt 32 x &&& BitVec.ofInt 32 y).toNat:Nat):Int)=_;rw[BitVec.toNat_and];exact Ow _ (Nat.lt_of_le_of_lt Nat.and_le_left (KS x))
theorem aaq (x y:Int):Lb .u32 x y=((Xk x ||| Xk y:Nat):Int):=by
 show IntKind.u32.wrap (((BitVec.ofInt 32 x ||| BitVec.ofInt 32 y).toNat:Nat):Int)=_;rw[BitVec.toNat_or];exact Ow _ (Nat.or_lt_two_pow (n:=32) (KS x) (KS y))
theorem GX {k:Nat} (a:k<32):2^k<4294967296:=Nat.pow_lt_pow_right (n:=32) (by omega) a
theorem ZJ {k:Nat} (a:k<32):Bv .u32 1 (k:Int)=((2^k:Nat):Int):=by
 show IntKind.u32.wrap (1*2^(min ((k:Int).toNat) 32))=_;rw[Int.toNat_natCast,Nat.min_eq_left (by omega),Int.one_mul,show(2:Int)^k=((2^k:Nat):Int) by simp];exact Ow _ (GX a)
theorem Qz {a k:Nat} (b:k<32):tV .u32 (a:Int) (k:Int)=((a / 2^k:Nat):Int):=by
 show Int.fdiv (a:Int) (2^(min ((k:Int).toNat) 32))=_;rw[Int.toNat_natCast,Nat.min_eq_left (by omega),show(2:Int)^k=((2^k:Nat):Int) by simp,Int.fdiv_eq_ediv_of_nonneg _ (Int.natCast_nonneg _)];simp
theorem VE {a k:Nat} (d:k<32) (c:a<4294967296):dV .u32 (tV .u32 (a:Int) (k:Int)) 1=1↔a.testBit k=true:=by
 have b:Xk 1=1:=Ax (a:=1) (by omega);rw[Qz d,La,Ax (Nat.lt_of_le_of_lt (Nat.div_le_self _ _) c),b,Nat.and_one_is_mod,Nat.testBit_eq_decide_div_mod_eq,decide_eq_true_eq];omega
def HN (g:GR) (s:Nat):Prop:=(∀v,s.testBit v=true->v<g.2.length)∧∀v u,s.testBit v=true->s.testBit u=true->¬Ju g v u
theorem aan {g:GR} (a:VG g):xS 1000 g=some ((2^g.2.length - 1:Nat):Int):=by
 have c:=a.n24;have d:=a.len;have e:=GX (show g.2.length<32 by omega);have b:1<=2^g.2.length:=Nat.one_le_two_pow;unfold xS;rw[cB (by omega),d,ZJ (by omega),show((2^g.2.length:Nat):Int) - 1=((2^g.2.length - 1:Nat):Int) by omega];congr 1;exact if_pos ⟨by omega,by omega⟩
theorem rV.lt {g:GR} {s:Nat} {d:aP} (h:rV g s d) {v:Nat} (p:v<g.2.length):D d v<(g.2.length:Int):=by
 apply Classical.byContradiction;intro t;have all:∀m:Nat,(m:Int)<=D d v->∃w,w<g.2.length∧D d w=D d v - m:=by
  intro m
  induction m with
  |zero=>intro _;exact⟨v,p,by omega⟩
  |succ m q=>
   intro x;obtain⟨w,e,c⟩:=q (by omega);obtain⟨u,n,_,o⟩:=h.near w e (by omega);exact⟨u,n,by omega⟩
 have b:∀i:Nat,i<g.2.length+1->∃w,w<g.2.length∧D d w=(i:Int):=by
  intro i a;obtain⟨w,e,c⟩:=all (D d v - i).toNat (by omega);exact⟨w,e,by omega⟩
 have:=IX g.2.length (λi=>if a:i<g.2.length+1 then Classical.choose (b i a)else 0) (g.2.length+1) (λi a=>by
  rw[dif_pos a];exact(Classical.choose_spec (b i a)).1) (λi j l f c=>by
  rw[dif_pos (by omega),dif_pos f]at c;have k:=(Classical.choose_spec (b i (by omega))).2;have r:=(Classical.choose_spec (b j f)).2;rw[c]at k;omega)
 omega
def T (e:aP) (k v w:Nat):Int:=if 0<=D e w∧(D e w<k∨(D e w=k∧w<v))then D e w else -1
theorem Tn {g:GR} (G:VG g) {s:Nat} {e:aP} (V:rV g s e) {k v:Nat} (af:1<=k) (hk:k<g.2.length) (q:v<g.2.length) (C:aP) (J:mN->Option aP) (r:aP)
  (B:C.length=g.2.length) (W:∀w,w<g.2.length->D C w=T e k v w)
  (K:∀d:aP,d.length=g.2.length->(∀w,w<g.2.length->D d w=T e k (v+1) w)->J ((v:Int)+1,d)=some r):
  bL (uB g ((k:Int),C) ((v:Int),C) J) 1000 ((0:Int),C)=some r:=by
 have X:=(G.node v q).deg;have ab:=G.n24;refine y_ (λz:mN=>∃i:Nat,z.1=i∧i<=(row g v).length∧z.2.length=g.2.length∧(∀w,w<g.2.length->w≠v->D z.2 w=T e k v w)∧((D z.2 v=T e k v v∧(D z.2 v<0->∀j,j<i->∀u:Nat,(fP (row g v) j).1=u->D e u≠(k:Int) - 1))∨(D z.2 v=k∧D e v=k))) (λz=>31 - z.1.toNat) ?_ 1000 _ ⟨0,rfl,by omega,B,λw t _=>W w t,.inl ⟨W v q,λ_ j hj=>by omega⟩⟩ (by simp);rintro⟨z,d⟩ aa ⟨i,hz,hi,B,t,H⟩ o;dsimp only at hz B t H;subst hz;have tv:T e k v v=D e v∨T e k v v = -1:=by unfold T;split<;>simp
 have E:(0<=D d v∨i=(row g v).length)->J (wI .i64 ((v:Int)+1),d)=some r:=by
  intro hx;rw[wr (by omega) (by omega)];refine K d B λw y=> ?_;by_cases l:w=v
  ·subst l;rcases H with⟨A,F⟩|⟨A,F⟩
   ·rw[A];unfold T at A ⊢;by_cases a:0<=D e w∧(D e w<k∨(D e w=k∧w<w))
    ·rw[if_pos a,if_pos (by omega)]
    ·rw[if_neg a]at A ⊢;rw[if_neg];intro b;have ac:D e w=k:=by omega
     obtain⟨u,R,⟨j,hj,O⟩,I⟩:=V.near w q (by omega);have ae:i=(row g w).length:=by omega
     exact F (by omega) j (by omega) u O (by omega)
   ·rw[A];unfold T;rw[if_pos (by omega)];omega
  ·rw[t w y l];unfold T;by_cases a:0<=D e w∧(D e w<k∨(D e w=k∧w<v))
   ·rw[if_pos a,if_pos (by omega)]
   ·rw[if_neg a,if_neg (by omega)]
 unfold uB t_ zV uA;dsimp only;rw[cB (by omega)];by_cases M:i<(row g v).length
 rotate_left
 ·rw[if_neg (show¬(i:Int)<((row g v).length:Int) by omega),if_neg (by simp)];exact E (.inr (by omega))
 obtain⟨u,R,I,n⟩:=G.port q M;rw[if_pos (show(i:Int)<((row g v).length:Int) by omega),cB (by omega)];by_cases f:at' d (v:Int)<0
 rotate_left
 ·rw[if_neg (by rw[decide_eq_false f];simp)];exact E (.inl (by show 0<=at' d (v:Int);omega))
 have S:u≠v:=by rintro rfl;exact OW G q n
 rw[if_pos (decide_eq_true f),cB (by omega),cB (show 0<=(i:Int)∧(i:Int)<((row g v).length:Int) by omega),show at' (at' g.2 (v:Int)) (i:Int)=fP (row g v) i from rfl,I,cB (by omega),wr (x:=(k:Int) - 1) (by omega) (by omega),wr (x:=(i:Int)+1) (by omega) (by omega)];have P:D d v<0:=f;have p:D d v=T e k v v∧(D d v<0->∀j,j<i->∀u:Nat,(fP (row g v) j).1=u->D e u≠(k:Int) - 1):=by
  rcases H with H|⟨h,_⟩
  ·exact H
  ·omega
 have c:=t u R S;have Q:=V.next u R;by_cases m:at' d (u:Int)=(k:Int) - 1
 ·have Y:D d u=(k:Int) - 1:=m;rw[if_pos m,cB (by omega)];have ad:D e u=(k:Int) - 1:=by
   unfold T at c;by_cases a:0<=D e u∧(D e u<k∨(D e u=k∧u<v))
   ·rw[if_pos a]at c;omega
   ·rw[if_neg a]at c;omega
  have L:D e v=k:=by
   have A:=Q (by omega) v q (G.back q n);have F:=p.1;unfold T at F;by_cases a:0<=D e v∧(D e v<k∨(D e v=k∧v<v))
   ·rw[if_pos a]at F;omega
   ·omega
  refine o _ ⟨i+1,by simp,by omega,by simp[B],λw y l=> ?_,.inr ⟨?_,L⟩⟩ (by dsimp only;omega)
  ·show at' (d.set (Int.toNat (v:Int)) (k:Int)) (w:Int)=_;rw[Int.toNat_natCast,u_ _ _ _ _ (by omega),if_neg l];exact t w y l
  ·show at' (d.set (Int.toNat (v:Int)) (k:Int)) (v:Int)=_;rw[Int.toNat_natCast,u_ _ _ _ _ (by omega),if_pos Z]
 ·rw[if_neg m];refine o _ ⟨i+1,by simp,by omega,B,t,.inl ⟨p.1,λhn j hj w U he=> ?_⟩⟩ (by dsimp only;omega);by_cases N:j=i
  ·subst N;have:w=u:=by omega
   subst this;unfold T at c;rw[if_pos (by omega)]at c;exact m (by show D d w=_;omega)
  ·exact p.2 hn j (by omega) w U he
theorem Nl {d e:aP} (c:d.length=e.length) (h:∀v,v<d.length->D d v=D e v):d=e:=by
 apply List.ext_getElem c;intro i a b;rw[<-Dp a,<-Dp b];exact h i a
theorem Cd {g:GR} (r:VG g) {s:Nat} (L:s<g.2.length) {e:aP} (m:rV g s e):AC 1000 g (s:Int)=some e:=by
 have F:=r.n24;unfold AC tZ;rw[(NH g r.light).1 r,bD Z,if_neg (by simp),xV,wr (by omega) (by omega),decide_eq_true (by omega),bD Z,if_neg (by simp)];refine y_ (λz:List Int×Int=>∃k:Nat,z.2=k∧k<=g.2.length∧z.1=List.replicate k (-1)) (λz=>31 - z.2.toNat) ?_ 1000 _ ⟨0,rfl,by omega,rfl⟩ (by simp);rintro⟨l,z⟩ J ⟨k,b,G,p⟩ x;dsimp only at b p;subst b p;unfold zY;dsimp only;by_cases H:k<g.2.length
 ·rw[if_pos (by omega),cB (by simp only[List.length_replicate,List.length_singleton];omega),wr (by omega) (by omega)];exact x _ ⟨k+1,by simp,by omega,by dsimp only;rw[List.replicate_succ']⟩ (by dsimp only;omega)
 rw[if_neg (by omega)];have i:k=g.2.length:=by omega
 subst i;unfold zS;rw[cB (by simp only[List.length_replicate];omega),Int.toNat_natCast];have y:∀w,w<g.2.length->D ((List.replicate g.2.length (-1:Int)).set s 0) w=T e 1 0 w:=by
  intro w t;have q:=u_ (List.replicate g.2.length (-1:Int)) s w 0 (by simp only[List.length_replicate];omega);have b:=m.zero w t;show at' _ _=_;rw[q];by_cases c:w=s
  ·have:=b.2 c;rw[if_pos c];unfold T;rw[if_pos (by omega)];omega
  ·have:D e w≠0:=λh=>c (b.1 h);rw[if_neg c,gX,List.getD_eq_getElem?_getD,List.getElem?_replicate,if_pos t];unfold T;rw[if_neg (by omega)];rfl
 refine y_ (λz:mN=>∃k:Nat,z.1=k∧1<=k∧(k<=g.2.length)∧z.2.length=g.2.length∧∀w,w<g.2.length->D z.2 w=T e k 0 w) (λz=>31 - z.1.toNat) ?_ 1000 _ ⟨1,rfl,by omega,by omega,by simp,y⟩ (by simp);rintro⟨z,d⟩ E ⟨k,b,A,G,j,f⟩ n;dsimp only at b j f;subst b;unfold zW zT;dsimp only;by_cases i:k<g.2.length
 rotate_left
 ·rw[if_neg (by omega)];congr 1;refine Nl (j.trans m.len.symm) λv I=> ?_;have q:=m.lt (v:=v) (by omega);have C:=m.lo v (by omega);rw[f v (by omega)];unfold T;by_cases a:0<=D e v
  ·rw[if_pos (by omega)]
  ·rw[if_neg (by omega)];omega
 rw[if_pos (by omega)];refine y_ (λz:mN=>∃v:Nat,z.1=v∧v<=g.2.length∧z.2.length=g.2.length∧∀w,w<g.2.length->D z.2 w=T e k v w) (λz=>31 - z.1.toNat) ?_ 1000 _ ⟨0,rfl,by omega,j,f⟩ (by simp);rintro⟨z,d⟩ u ⟨v,b,I,j,f⟩ o;dsimp only at b j f;subst b;unfold zX zU;dsimp only;by_cases B:v<g.2.length
 ·rw[if_pos (by omega)];exact Tn r m A i B d u e j f λK q C=>o _ ⟨v+1,by simp,by omega,q,C⟩ (by dsimp only;omega)
 ·rw[if_neg (by omega),wr (by omega) (by omega)];refine n _ ⟨k+1,by simp,by omega,by omega,j,λw t=> ?_⟩ (by dsimp only;omega);rw[f w t];unfold T;by_cases a:0<=D e w∧(D e w<k∨(D e w=k∧w<v))
  ·rw[if_pos a,if_pos (by omega)]
  ·rw[if_neg a,if_neg (by omega)]
theorem US {g:GR} (b:VG g) {s:Nat} (i:s<g.2.length) {d:aP} (a:rV g s d):(∀v,v<d.length->0<=D d v)↔KJ g:=by
 have c:=a.len;constructor
 ·intro h u v j e;exact⟨_,wO.trans (EU b (rV.pos b a j (h u (by omega)))) (rV.pos b a e (h v (by omega)))⟩
 ·intro h v e;obtain⟨k,f⟩:=h s v i (by omega);exact(rV.le b a f).1
theorem VK {X R:Type} {step:X->(X->Option R)->Option R} {K:X->Option R} {bad:R} (N:Nat) (p:Nat->Prop) (I:Nat->X->Prop) (B:Nat)
  (t:∀(k:Nat) x q,k<N->k<B->I k x->p k->∃c,I (k+1) c∧step x q=q c) (l:∀(k:Nat) x q,k<N->k<B->I k x->¬p k->step x q=some bad) (s:∀x q,I N x->N<B->step x q=K x):
  ∀(b:Nat) (x:X),I 0 x->B<=b->(N<B∨∃k,k<N∧k<B∧¬p k)->((∀k,k<N->p k)->∃c,I N c∧bL step b x=K c)∧(¬(∀k,k<N->p k)->bL step b x=some bad):=by
 intro b x e v hB;have r:∀(d a b:Nat) (x:X),I a x->a+d<N->a+d<B->¬p (a+d)->d<b->bL step b x=some bad:=by
  intro d
  induction d with
  |zero=>
   intro a b x e j g i v;obtain⟨f,rfl⟩:∃f,b=f+1:=⟨b - 1,by omega⟩
   exact l a x _ j g e i
  | succ d y =>
   intro a b x e j g i v;obtain⟨f,rfl⟩:∃f,b=f+1:=⟨b - 1,by omega⟩
   by_cases u:p a
   ·obtain⟨c,n,o⟩:=t a x (bL step f) (by omega) (by omega) e u;have o:bL step (f+1) x=bL step f c:=o;rw[o];exact y (a+1) f c n (by omega) (by omega) (by rw[show a+1+d=a+(d+1) by omega];exact i) (by omega)
   ·exact l a x _ (by omega) (by omega) e u
 have m:∀(d a b:Nat) (x:X),I a x->a+d=N->N<B->(∀k,a<=k->k<N->p k)->d<b->∃c,I N c∧bL step b x=K c:=by
  intro d
  induction d with
  |zero=>
   intro a b x e j g i v;obtain⟨f,rfl⟩:∃f,b=f+1:=⟨b - 1,by omega⟩
   obtain rfl:a=N:=by omega
   exact⟨x,e,s x _ e g⟩
  |succ d y=>
   intro a b x e j g i v;obtain⟨f,rfl⟩:∃f,b=f+1:=⟨b - 1,by omega⟩
   obtain⟨c,n,o⟩:=t a x (bL step f) (by omega) (by omega) e (i a (Nat.le_refl _) (by omega));have o:bL step (f+1) x=bL step f c:=o;rw[o];exact y (a+1) f c n (by omega) g (λk j g=>i k (by omega) g) (by omega)
 constructor
 ·intro h;rcases hB with hB|⟨k,j,_,g⟩
  ·exact m N 0 b x e (by omega) hB (λk _ w=>h k w) (by omega)
  ·exact absurd (h k j) g
 ·intro h;have:∃k,k<N∧k<B∧¬p k:=by
   rcases hB with hB|hB
   ·apply Classical.byContradiction;intro A;exact h λk w=>Classical.byContradiction λi=>A ⟨k,w,by omega,i⟩
   ·exact hB
  obtain⟨k,j,g,z⟩:=this;exact r k 0 b x e (by omega) (by omega) (by rw[Nat.zero_add];exact z) (by omega)
theorem To {a:eY} (q:a.length<=30) {v:Nat} (r:v<a.length):(at' a (v:Int)).length<1000∨∃k,k<(at' a (v:Int)).length∧k<1000∧¬FS (at' a (v:Int)) v a.length k:=by
 by_cases h:(at' a (v:Int)).length<1000
 ·exact .inl h
 ·right;apply Classical.byContradiction;intro f;have b:∀k,k<40->FS (at' a (v:Int)) v a.length k:=λk p=>Classical.byContradiction λl=>f ⟨k,by omega,by omega,l⟩;have:=IX a.length (λi=>(fP (at' a (v:Int)) i).1.toNat) 40 (λi g=>by have:=(b i g).1;omega) (λi j c d o=>by
   have m:=(b i (by omega)).1;have n:=(b j d).1;have e:=(b j d).2.2.2 i c;exact e (by omega))
  omega
theorem Ed (c:eY) (hn:c.length<=30):(JQ c->fQ 1000 c=some true)∧(¬JQ c->fQ 1000 c=some false):=by
 unfold fQ;have s:∀(v:Nat) (m:List ((Int×Int)×Int)) p,v<c.length->(∀z,z∈m↔My c v 0 z)->
   (pB (at' c (v:Int)) v c.length->∃Y,(∀z,z∈Y↔My c (v+1) 0 z)∧bL (cA c ((v:Int),m) p) 1000 ((0:Int),m)=p ((v:Int)+1,Y))∧
   (¬pB (at' c (v:Int)) v c.length->bL (cA c ((v:Int),m) p) 1000 ((0:Int),m)=some false):=by
  intro v m p F hm;have L:=To hn F;have S:=VK (step:=cA c ((v:Int),m) p) (K:=λx=>p ((v:Int)+1,x.2)) (bad:=false) (at' c (v:Int)).length (FS (at' c (v:Int)) v c.length) (λi x=>x.1=(i:Int)∧∀z,z∈x.2↔My c v i z) 1000 ?_ ?_ ?_ 1000 ((0:Int),m) ⟨rfl,hm⟩ (by omega) L
  ·refine⟨λh=> ?_,λh=>S.2 h⟩
   obtain⟨x,⟨ah,ae⟩,f⟩:=S.1 h;refine⟨x.2,λz=>(ae z).trans ⟨?_,?_⟩,f⟩
   ·rintro⟨a,b,y,e,l⟩;exact⟨a,b,by omega,e,l⟩
   ·rintro⟨a,b,y,e,l⟩;refine⟨a,b,?_,e,l⟩
    by_cases X:a=v
    ·subst X;exact .inr ⟨rfl,e⟩
    ·omega
  ·rintro i ⟨H,g⟩ I N ac ⟨f,d⟩ ⟨p1,p2,p3,p4⟩;dsimp only at f d;subst f;have q:lK (((v:Int),(fP (at' c (v:Int)) i).1)) g=none:=by
    apply Gk;intro w hw;obtain⟨a,b,y,e,l⟩:=(d _).1 hw;simp only[Prod.mk.injEq]at l;obtain⟨⟨C,A⟩,_⟩:=l;have:a=v:=by omega
    subst this;have hb:b<i:=by omega
    exact p4 b hb A.symm
   refine⟨((i:Int)+1,BM (((v:Int),(fP (at' c (v:Int)) i).1)) (fP (at' c (v:Int)) i).2 g),⟨by simp,λz=> ?_⟩,?_⟩
   ·dsimp only;rw[Np q,d];constructor
    ·rintro(rfl|⟨a,b,y,e,l⟩)
     ·exact⟨v,i,.inr ⟨rfl,by omega⟩,N,rfl⟩
     ·exact⟨a,b,by omega,e,l⟩
    ·rintro⟨a,b,y,e,l⟩;by_cases J:a=v∧b=i
     ·left;rw[l,J.1,J.2]
     ·right;exact⟨a,b,by omega,e,l⟩
   ·replace p1:0<=(at' (at' c (v:Int)) (i:Int)).1∧(at' (at' c (v:Int)) (i:Int)).1<=(c.length:Int) - 1:=p1;replace p3:1<=(at' (at' c (v:Int)) (i:Int)).2∧(at' (at' c (v:Int)) (i:Int)).2<=15:=p3;unfold cA gA iC;dsimp only;rw[if_pos (by omega),cB (by omega),if_neg (by omega),if_neg (by omega),if_neg (by rw[decide_eq_false p2];simp),if_neg (by omega),if_neg (by rw[decide_eq_false (by omega)];simp),q,if_neg (by simp),wr (by omega) (by omega)]
  ·rintro i ⟨H,g⟩ I N ac ⟨f,d⟩ Q;dsimp only at f d;subst f;unfold cA gA iC;dsimp only;rw[if_pos (by omega),cB (by omega)];by_cases y:(fP (at' c (v:Int)) i).1<0
   ·rw[if_pos y,if_pos Z]
   rw[if_neg y];by_cases e:(c.length:Int)<=(fP (at' c (v:Int)) i).1
   ·rw[if_pos e,if_pos Z]
   rw[if_neg e];by_cases l:(fP (at' c (v:Int)) i).1=v
   ·rw[if_pos (decide_eq_true l)]
   rw[if_neg (by rw[decide_eq_false l];simp)];by_cases C:(fP (at' c (v:Int)) i).2<1
   ·rw[if_pos C,if_pos Z]
   rw[if_neg C];by_cases A:15<(fP (at' c (v:Int)) i).2
   ·rw[if_pos (decide_eq_true A)]
   rw[if_neg (by rw[decide_eq_false A];simp)];have:∃k,k<i∧(fP (at' c (v:Int)) k).1=(fP (at' c (v:Int)) i).1:=by
    apply Classical.byContradiction;intro hc;exact Q ⟨by omega,l,by omega,λk O M=>hc ⟨k,O,M⟩⟩
   obtain⟨k,O,M⟩:=this;have n:=(d _).2 ⟨v,k,.inr ⟨rfl,O⟩,by omega,rfl⟩;rw[if_pos];rw[<-M];cases q:lK (((v:Int),(fP (at' c (v:Int)) k).1)) g with
   |some w=>rfl
   | none => exact absurd n (by
     intro n;exact sQ q n)
  ·rintro⟨H,g⟩ I ⟨f,d⟩ _;dsimp only at f d;subst f;unfold cA lS;dsimp only;rw[if_neg (by omega),wr (by omega) (by omega)]
 have t:=Ff (step:=cN 1000 c) (K:=λx=>iB x.2) (bad:=false) c.length (λv=>pB (at' c (v:Int)) v c.length) (λv x=>x.1=(v:Int)∧∀z,z∈x.2↔My c v 0 z) ?_ ?_ ?_ 1000 ((0:Int),[]) ⟨rfl,λz=>⟨λh=>(by cases h),fun⟨a,b,y,_⟩=>(by omega)⟩⟩ (by omega)
 rotate_left
 ·rintro v ⟨H,g⟩ p F ⟨f,d⟩ Q;dsimp only at f d;subst f;obtain⟨Y,y,e⟩:=(s v g p F d).1 Q;refine⟨((v:Int)+1,Y),⟨by simp,y⟩,?_⟩
  ·unfold cN;dsimp only;rw[if_pos (by omega),cB (by omega)];exact e
 ·rintro v ⟨H,g⟩ p F ⟨f,d⟩ Q;dsimp only at f d;subst f;unfold cN;dsimp only;rw[if_pos (by omega),cB (by omega)];exact(s v g p F d).2 Q
 ·rintro⟨H,g⟩ p ⟨f,d⟩;dsimp only at f d;subst f;unfold cN;dsimp only;rw[if_neg (by omega)]
 by_cases D:∀v,v<c.length->pB (at' c (v:Int)) v c.length
 rotate_left
 ·exact⟨λh=>absurd h.1 D,λ_=>t.2 D⟩
 obtain⟨⟨H,g⟩,⟨f,d⟩,M⟩:=t.1 D;rw[M];dsimp only at d ⊢;have O:iB g=some (decide (∀z∈g,¬(Option.getD (lK (z.1.2,z.1.1) g) (0:Int))≠z.2)):=IU (λz:(Int×Int)×Int=>(Option.getD (lK (z.1.2,z.1.1) g) (0:Int))≠z.2) g;rw[O];have E:(∀z∈g,¬(Option.getD (lK (z.1.2,z.1.1) g) (0:Int))≠z.2)↔∀v,v<c.length->∀i,i<(at' c (v:Int)).length->Cb ([],c) v i:=by
  constructor
  ·intro h v F i N;have hw:=(D v F i N).2.2.1;have n:=(d (((v:Int),(fP (at' c (v:Int)) i).1),(fP (at' c (v:Int)) i).2)).2 ⟨v,i,.inl F,N,rfl⟩;have e:=Decidable.not_not.1 (h _ n);dsimp only at e;cases q:lK ((fP (at' c (v:Int)) i).1,(v:Int)) g with
   |none=>rw[q]at e;simp only[Option.getD]at e;omega
   | some w =>
    rw[q]at e;simp only[Option.getD]at e;obtain⟨a,b,l,C,A⟩:=(d _).1 (Be q);simp only[Prod.mk.injEq]at A;obtain⟨⟨U,V⟩,h8⟩:=A;refine⟨b,?_,?_,?_⟩
    ·show b<(at' c (fP (at' c (v:Int)) i).1).length;rw[U];exact C
    ·show(fP (at' c (fP (at' c (v:Int)) i).1) b).1=v;rw[U];exact V.symm
    ·show(fP (at' c (fP (at' c (v:Int)) i).1) b).2=(fP (at' c (v:Int)) i).2;rw[U,<-h8];exact e
  ·intro h z hz ad;obtain⟨a,b,l,C,rfl⟩:=(d z).1 hz;have X:a<c.length:=by omega
   apply ad;obtain⟨j,r,o,B⟩:=h a X b C;have hu:=(D a X b C).1;obtain⟨u,R⟩:∃u:Nat,(fP (at' c (a:Int)) b).1=u:=⟨(fP (at' c (a:Int)) b).1.toNat,by omega⟩
   replace r:j<(at' c (fP (at' c (a:Int)) b).1).length:=r;replace o:(fP (at' c (fP (at' c (a:Int)) b).1) j).1=a:=o;replace B:(fP (at' c (fP (at' c (a:Int)) b).1) j).2=(fP (at' c (a:Int)) b).2:=B;rw[R]at r o B;have G:u<c.length:=by omega
   dsimp only;rw[R,<-B];have n:=(d (((u:Int),(fP (at' c (u:Int)) j).1),(fP (at' c (u:Int)) j).2)).2 ⟨u,j,.inl G,r,rfl⟩;rw[o]at n;cases q:lK ((u:Int),(a:Int)) g with
   |none=>exact absurd n (sQ q)
   | some w =>
    obtain⟨a',T,af,aa,A⟩:=(d _).1 (Be q);simp only[Prod.mk.injEq]at A;obtain⟨⟨U,V⟩,h8⟩:=A;have:a'=u:=by omega
    subst this;have ab:T=j:=by
     rcases Nat.lt_trichotomy T j with P|P|P
     ·exact absurd (V.symm.trans o.symm) ((D a' G j r).2.2.2 T P)
     ·exact P
     ·exact absurd (o.trans V) ((D a' G T aa).2.2.2 j P)
    subst ab;exact h8
 by_cases W:∀v,v<c.length->∀i,i<(at' c (v:Int)).length->Cb ([],c) v i
 ·rw[decide_eq_true (E.2 W)];exact⟨λ_=>rfl,λh=>absurd ⟨D,W⟩ h⟩
 ·rw[decide_eq_false (λh=>W (E.1 h))];exact⟨λh=>absurd h.2 W,λ_=>rfl⟩
theorem TC (g:GR):(VG g->gG 1000 g=some true)∧(¬VG g->gG 1000 g=some false):=by
 unfold gG oK oL;by_cases e:g.1.length<1
 ·rw[if_pos (by omega)];exact⟨λh=>by have:=h.n1;have:=h.len;omega,λ_=>rfl⟩
 rw[if_neg (by omega)];by_cases f:24<g.1.length
 ·rw[if_pos (by omega)];exact⟨λh=>by have:=h.n24;have:=h.len;omega,λ_=>rfl⟩
 rw[if_neg (by omega)];by_cases d:g.1.length=g.2.length
 rotate_left
 ·rw[decide_eq_true (by omega)];exact⟨λh=>absurd h.len d,λ_=>rfl⟩
 rw[decide_eq_false (by omega),if_neg (by simp)];by_cases b:∀k,k<g.1.length->TN g.1 k
 rotate_left
 ·rw[(sX g.1 (by omega)).2 b,bD Z];exact⟨λh=>absurd (λk i=>⟨(h.node k (by omega)).id,(h.node k (by omega)).ids⟩) b,λ_=>rfl⟩
 rw[(sX g.1 (by omega)).1 b,bD Z,if_pos Z];by_cases a:JQ g.2
 ·rw[(Ed g.2 (by omega)).1 a];exact⟨λ_=>rfl,λh=>absurd ⟨by omega,by omega,d,λv c=>⟨(b v (by omega)).1,Pk c (a.1 v c),a.1 v c,(b v (by omega)).2⟩,a.2⟩ h⟩
 ·rw[(Ed g.2 (by omega)).2 a];exact⟨λh=>absurd ⟨λv c=>(h.node v c).links,h.sym⟩ a,λ_=>rfl⟩
abbrev OI:=Cu
theorem uR (v m:Int) (g:1<=m) (h:m<=4611686018427387904):gE 1000 v m=some (v%m):=by
 unfold gE pT;rw[if_neg (by omega),cB (by omega)];have c:=Int.tmod_eq_emod (a:=v) (b:=m);have f:=Int.emod_nonneg v (show m≠0 by omega);have i:=Int.emod_lt_of_pos v (show 0<m by omega);by_cases e:0<=v∨m∣v
 ·rw[if_pos e]at c;have d:v.tmod m=v%m:=by simpa using c
  rw[d,if_neg (by omega)]
 ·rw[if_neg e]at c;have:(m.natAbs:Int)=m:=by omega
  rw[c,if_pos (by omega),wr (by omega) (by omega)];congr 1;omega
theorem MP (l:aP) (i:Int) (h:0<=i):qU 1000 l i=some (at' l i):=by
 unfold qU;by_cases a:i<(l.length:Int)
 ·rw[if_pos a,cB ⟨h,a⟩]
 ·rw[if_neg a];unfold at';rw[List.getD_eq_getElem?_getD,List.getElem?_eq_none (by omega)];rfl

theorem Nx {i:Type} [DecidableEq i]:∀(e c:List i),e.Nodup->(∀x∈e,x∈c)->e.length<=c.length
 | [],_,_,_=>Nat.zero_le _
 | a :: t, c, hn, hs => by
  have b:=List.nodup_cons.1 hn;have f:=hs a (List.mem_cons_self ..);have:=Nx t (c.erase a) b.2 λx h=>by
   have d:x≠a:=λj=>b.1 (j▸h);exact(List.mem_erase_of_ne d).2 (hs x (List.mem_cons_of_mem _ h))
  rw[List.length_erase_of_mem f]at this;have g:0<c.length:=List.length_pos_of_mem f;simp only[List.length_cons];omega
theorem WI (d:Int) (c:aP) (t:Nat) (k:t<=200) (h:∀s,s<t->(d+(s:Int))%256∈c):t<=c.length:=by
 have:=Nx ((List.range t).map λs:Nat=>(d+(s:Int))%256) c (by
  rw[List.nodup_iff_pairwise_ne,List.pairwise_map];refine List.Pairwise.imp_of_mem ?_ List.pairwise_lt_range;intro a b e g f;rw[List.mem_range]at e g;omega) (λx j=>by
  obtain⟨s,i,rfl⟩:=List.mem_map.1 j;exact h s (List.mem_range.1 i))
 simpa using this

structure HM (ids:aP):Prop where
 rng:∀y∈ids,0<=y∧y<=255
 nd:ids.Nodup
theorem HM.snoc {c:aP} {y:Int} (h:HM c) (j:0<=y∧y<=255) (i:y∉c):HM (c++[y]):=by
 refine⟨λz d=> ?_,?_⟩
 ·rcases List.mem_append.1 d with d|d
  ·exact h.rng z d
  ·rw[List.mem_singleton.1 d];exact j
 ·rw[List.nodup_append];refine⟨h.nd,by simp,?_⟩
  intro a e b f;rw[List.mem_singleton.1 f];exact λg=>i (g▸e)
theorem Bd {a:Type} [Inhabited a] {l:List a} {i:Nat} (h:i<l.length):at' l (i:Int)∈l:=by
 rw[gX,List.getD_eq_getElem?_getD,List.getElem?_eq_getElem h];exact List.getElem_mem h
theorem Du {a:Type} [Inhabited a] {l:List a} {x:a} (h:x∈l):∃i,i<l.length∧at' l ((i:Nat):Int)=x:=by
 obtain⟨i,b,c⟩:=List.getElem_of_mem h;refine⟨i,b,?_⟩
 rw[gX,List.getD_eq_getElem?_getD,List.getElem?_eq_getElem b];exact c
theorem Vr {Q:List Int×eY->Prop} {a:aP} (H:a.length<=24) (b:Int) (r:mN->Option (List Int×eY))
  (m:∀y,0<=y->y<=255->y∉a->OK Q (r ((a.length:Int)+1,a++[y]))):OK Q (bL (kH ((a.length:Int),a) r) 1000 (b%256,0)):=by
 refine xA (λs:fG=>∃(t u:Nat),s.1=(b+(t:Int))%256∧s.2=u∧u<=a.length∧t<=a.length∧(∀k,k<t->(b+(k:Int))%256∈a)∧∀j,j<u->at' a (j:Int)≠s.1)
  (λs=>(a.length - ((s.1 - b)%256).toNat)*30+(a.length - s.2.toNat)) ?_ 1000 _ ⟨0,0,by simp,rfl,by omega,by omega,λk p=>by omega,λj o=>by omega⟩ ?_
 ·rintro⟨i,j⟩ z ⟨t,u,g,v,F,C,w,l⟩ d;dsimp only at g v l;subst v;unfold kH qN kG;dsimp only;by_cases x:(u:Int)<(a.length:Int)
  ·rw[if_pos x,cB (by omega)];by_cases f:at' a (u:Int)=i
   ·rw[if_pos f,cB (by decide)];have n:(b+(t:Int))%256∈a:=by rw[<-g,<-f];exact Bd (by omega)
    have c:∀k,k<t+1->(b+(k:Int))%256∈a:=λk p=>by
     rcases Nat.lt_succ_iff_lt_or_eq.1 p with h|h
     ·exact w k h
     ·subst h;exact n
    have E:=WI b a (t+1) (by omega) c;have G:0<=i∧i<=255:=by omega
    rw[wr (by omega) (by omega),Int.tmod_eq_emod_of_nonneg (by omega),wr (by omega) (by omega)];refine d _ ⟨t+1,0,?_,by simp,by omega,E,c,λj o=>by omega⟩ ?_
    ·dsimp only;omega
    ·dsimp only;have A:((i+1)%256 - b)%256=(t:Int)+1:=by omega
     have B:(i - b)%256=(t:Int):=by omega
     rw[A,B];omega
   ·rw[if_neg f,wr (by omega) (by omega)];refine d _ ⟨t,u+1,g,by dsimp only;omega,by omega,C,w,λj o=> ?_⟩ ?_
    ·rcases Nat.lt_succ_iff_lt_or_eq.1 o with h|h
     ·exact l j h
     ·subst h;exact f
    ·dsimp only;omega
  ·rw[if_neg x];rw[cB (by simp;omega),wr (by omega) (by omega)];refine m i (by omega) (by omega) λD=> ?_;obtain⟨k,p,q⟩:=Du D;exact l k (by omega) q
 ·dsimp only;have e:(b%256 - b)%256=0:=by omega
  rw[e];omega
theorem Wc (x:OI) (a:Nat) (u:1<=a) (k:a<=24):OK (λg:GR=>HM g.1∧g.2=List.replicate g.1.length []∧1<=g.1.length∧g.1.length<=a) (nV 1000 x (a:Int)):=by
 unfold nV;rw[bD (uR _ _ (by omega) (by omega))];generalize f:(wI .i64 (x.1 - 1))%(a:Int)=r;have m:0<=r:=by rw[<-f];exact Int.emod_nonneg _ (by omega)
 have n:r<a:=by rw[<-f];exact Int.emod_lt_of_pos _ (by omega)
 have i:wI .i64 (1+r)=1+r:=wr (by omega) (by omega);rw[i,cB (by omega)];refine xA (λs:mN=>s.1=(s.2.length:Int)∧(s.2.length:Int)<=1+r∧HM s.2) (λs=>(1+r - s.1).toNat) ?_ 1000 _ ⟨rfl,by simp;omega,⟨λy o=>by simp at o,List.nodup_nil⟩⟩ (by dsimp only;omega);rintro⟨v,d⟩ j ⟨e,l,c⟩ b;dsimp only at e l c;subst e;unfold iH mZ;dsimp only;rw[i];by_cases h:(d.length:Int)<1+r
 ·rw[if_pos h,bD (MP _ _ (by omega)),bD (uR _ _ (by decide) (by decide))];exact Vr (by omega) _ j λy p q t=>b _ ⟨by simp,by simp;omega,c.snoc ⟨p,q⟩ t⟩ (by dsimp only;omega)
 ·rw[if_neg h];refine⟨_,rfl,c,?_,by dsimp only;omega,by dsimp only;omega⟩
  dsimp only;congr 1;omega

structure VM (ids:aP) (P:eY):Prop where
 n1:1<=P.length
 n24:P.length<=24
 len:ids.length=P.length
 ok:HM ids
 nd:∀v:Nat,v<P.length->((at' P (v:Int)).map Prod.fst).Nodup
 lk:∀v:Nat,v<P.length->∀x∈at' P (v:Int),(0<=x.1∧x.1<=(P.length:Int) - 1)∧x.1≠(v:Int)∧(1<=x.2∧x.2<=15)∧((v:Int),x.2)∈at' P x.1
theorem Wd {d:Type} [Inhabited d] {l:List d} (h:l.Nodup) {i j:Nat} (b:i<l.length) (c:j<l.length) (a:i<j):at' l (i:Int)≠at' l (j:Int):=by
 rw[gX,gX,List.getD_eq_getElem?_getD,List.getD_eq_getElem?_getD,List.getElem?_eq_getElem b,List.getElem?_eq_getElem c];exact List.pairwise_iff_getElem.1 (List.nodup_iff_pairwise_ne.1 h) i j b c a
theorem VM.vg {ids:aP} {P:eY} (h:VM ids P):VG (ids,P):=by
 have hlen:=h.len;have links:∀v,v<P.length->pB (row (ids,P) v) v P.length:=by
  intro v hv i hi;have hm:fP (row (ids,P) v) i∈at' P (v:Int):=Bd hi;obtain⟨a1,a2,a3,_⟩:=h.lk v hv _ hm;refine⟨a1,a2,a3,λk hk=> ?_⟩
  have hk2:k<(row (ids,P) v).length:=by omega
  have:=List.pairwise_iff_getElem.1 (List.nodup_iff_pairwise_ne.1 (h.nd v hv)) k i (by simpa using hk2) (by simpa using hi) hk;rw[List.getElem_map,List.getElem_map]at this;have e:∀j (hj:j<(row (ids,P) v).length),fP (row (ids,P) v) j=(at' P (v:Int))[j]'hj:=λj hj=>by
   unfold fP;rw[gX,List.getD_eq_getElem?_getD,List.getElem?_eq_getElem hj];rfl
  rw[e k hk2,e i hi];exact this
 refine⟨h.n1,h.n24,h.len,λv hv=>⟨?_,Pk hv (links v hv),links v hv,λk hk=> ?_⟩,λv hv i hi=> ?_⟩
 ·exact h.ok.rng _ (Bd (by dsimp only at hv ⊢;omega))
 ·exact Wd h.ok.nd (by dsimp only at hv ⊢;omega) (by dsimp only at hv ⊢;omega) hk
 ·have hm:fP (row (ids,P) v) i∈at' P (v:Int):=Bd hi;obtain⟨_,_,_,a4⟩:=h.lk v hv _ hm;obtain⟨j,hj,he⟩:=Du a4;exact⟨j,hj,by unfold fP;rw[he],by unfold fP;rw[he]⟩
theorem VM.start {a:aP} (h:HM a) (d:1<=a.length) (b:a.length<=24):VM a (List.replicate a.length []):=by
 have e:∀v:Nat,at' (List.replicate a.length ([]:eS)) (v:Int)=[]:=λv=>by
  rw[gX,List.getD_eq_getElem?_getD,List.getElem?_replicate];split<;>rfl
 refine⟨by simpa using d,by simpa using b,by simp,h,λv _=>by rw[e];exact List.nodup_nil,λv _ x c=> ?_⟩
 rw[e]at c;cases c
def lN (P:eY) (v u:Nat):Prop:=∃x∈at' P (v:Int),x.1=(u:Int)
theorem Kk (d:aP) (P:eY) (a b:Nat) (u:a<P.length) (w:(at' P (a:Int)).length<=900):(lN P a b->mB 1000 (d,P) a b=some true)∧(¬lN P a b->mB 1000 (d,P) a b=some false):=by
 have c:∀(r:Bool),(r=true->lN P a b)->(r=false->¬lN P a b)->mB 1000 (d,P) a b=some r:=by
  intro r q p;unfold mB;refine y_ (λi:Int=>∃k:Nat,i=k∧k<=(at' P (a:Int)).length∧∀j,j<k->(at' (at' P (a:Int)) ((j:Nat):Int)).1≠(b:Int)) (λi=>(at' P (a:Int)).length - i.toNat) ?_ 1000 0 ⟨0,rfl,by omega,λj m=>by omega⟩ (by omega);rintro i t ⟨k,rfl,v,f⟩ g;unfold yK tR;dsimp only;rw[cB (by omega)];by_cases o:(k:Int)<((at' P (a:Int)).length:Int)
  ·rw[if_pos o,cB (by omega),cB (by omega)];by_cases e:(at' (at' P (a:Int)) (k:Int)).1=(b:Int)
   ·rw[if_pos e];cases r with
    |true=>rfl
    |false=>exact absurd ⟨_,Bd (by omega),e⟩ (p Z)
   ·rw[if_neg e,wr (by omega) (by omega)];refine g _ ⟨k+1,by omega,by omega,λj m=> ?_⟩ (by omega);rcases Nat.lt_succ_iff_lt_or_eq.1 m with h|h
    ·exact f j h
    ·subst h;exact e
  ·rw[if_neg o];cases r with
   |false=>rfl
   |true=>
    obtain⟨x,s,e⟩:=q Z;obtain⟨j,m,n⟩:=Du s;exact absurd (by rw[n];exact e) (f j (by omega))
 exact⟨λh=>c true (λ_=>h) (λl=>by cases l),λh=>c false (λl=>by cases l) (λ_=>h)⟩
theorem XP (P:eY) (a b:Nat) (x y:eS) (e:a<P.length) (f:b<P.length) (v:Nat):at' ((P.set a x).set b y) (v:Int)=if v=b then y else if v=a then x else at' P (v:Int):=by
 rw[gX,gX,List.getD_eq_getElem?_getD,List.getD_eq_getElem?_getD,List.getElem?_set,List.getElem?_set];by_cases h:v=b
 ·subst h;rw[if_pos Z,if_pos Z,if_pos (by simpa using f)];rfl
 ·rw[if_neg (λd=>h d.symm),if_neg h];by_cases c:v=a
  ·subst c;rw[if_pos Z,if_pos Z,if_pos e];rfl
  ·rw[if_neg (λd=>c d.symm),if_neg c]
theorem VM.add {m:aP} {P:eY} (h:VM m P) {a b:Nat} {w:Int} (J:a<P.length) (A:b<P.length) (p:a≠b) (B:¬lN P a b) (D:1<=w∧w<=15)
  {x y:eS} (E:x.Perm (((b:Int),w)::at' P (a:Int))) (F:y.Perm (((a:Int),w)::at' P (b:Int))):
  VM m ((P.set a x).set b y)∧(∀v u,lN P v u->lN ((P.set a x).set b y) v u)∧lN ((P.set a x).set b y) a b:=by
 have r:¬lN P b a:=by
  rintro⟨z,g,i⟩;obtain⟨_,_,_,l⟩:=h.lk b A z g;rw[i]at l;exact B ⟨_,l,rfl⟩
 have C:=XP P a b x y J A;have k:((P.set a x).set b y).length=P.length:=by simp
 have d:∀(v:Nat) (z:fG),z∈at' ((P.set a x).set b y) (v:Int)↔z∈at' P (v:Int)∨(v=b∧z=((a:Int),w))∨(v=a∧z=((b:Int),w)):=by
  intro v z;rw[C v];by_cases f:v=b
  ·subst f;rw[if_pos Z,F.mem_iff,List.mem_cons];constructor
   ·rintro(c|c)
    ·exact .inr (.inl ⟨rfl,c⟩)
    ·exact .inl c
   ·rintro(c|⟨_,c⟩|⟨e,_⟩)
    ·exact .inr c
    ·exact .inl c
    ·exact absurd e.symm p
  ·rw[if_neg f];by_cases c:v=a
   ·subst c;rw[if_pos Z,E.mem_iff,List.mem_cons];constructor
    ·rintro(e|e)
     ·exact .inr (.inr ⟨rfl,e⟩)
     ·exact .inl e
    ·rintro(e|⟨n,_⟩|⟨_,e⟩)
     ·exact .inr e
     ·exact absurd n f
     ·exact .inl e
   ·rw[if_neg c];exact⟨.inl,λe=>e.elim id λn=>n.elim (λo=>absurd o.1 f) λo=>absurd o.1 c⟩
 refine⟨⟨by rw[k];exact h.n1,by rw[k];exact h.n24,by rw[k];exact h.len,h.ok,λv j=> ?_,λv j z g=> ?_⟩,λv u s=> ?_,?_⟩
 ·rw[k]at j;rw[C v];by_cases f:v=b
  ·subst f;rw[if_pos Z,(F.map Prod.fst).nodup_iff,List.map_cons,List.nodup_cons];exact⟨λq=>by obtain⟨z,g,i⟩:=List.mem_map.1 q;exact r ⟨z,g,i⟩,h.nd v j⟩
  ·rw[if_neg f];by_cases c:v=a
   ·subst c;rw[if_pos Z,(E.map Prod.fst).nodup_iff,List.map_cons,List.nodup_cons];exact⟨λq=>by obtain⟨z,g,i⟩:=List.mem_map.1 q;exact B ⟨z,g,i⟩,h.nd v j⟩
   ·rw[if_neg c];exact h.nd v j
 ·rw[k]at j ⊢;rcases(d v z).1 g with f|⟨rfl,rfl⟩|⟨rfl,rfl⟩
  ·obtain⟨G,H,I,t⟩:=h.lk v j z f;refine⟨G,H,I,?_⟩
   obtain⟨u,K⟩:∃u:Nat,z.1=u:=⟨z.1.toNat,by omega⟩
   rw[K]at t ⊢;exact(d u _).2 (.inl t)
  ·exact⟨by dsimp only;omega,by dsimp only;omega,D,(d a _).2 (.inr (.inr ⟨rfl,rfl⟩))⟩
  ·exact⟨by dsimp only;omega,by dsimp only;omega,D,(d b _).2 (.inr (.inl ⟨rfl,rfl⟩))⟩
 ·obtain⟨z,g,i⟩:=s;exact⟨z,(d v z).2 (.inl g),i⟩
 ·exact⟨_,(d a _).2 (.inr (.inr ⟨rfl,rfl⟩)),rfl⟩
theorem Ri (x:OI) {c:aP} {P:eY} (h:VM c P) {a b:Nat} {w:Int} (g:a<P.length) (m:b<P.length) (o:1<=w∧w<=15):
  ∃f,lW 1000 x (c,P) a b w=some f∧VM c f∧f.length=P.length∧(∀v u,lN P v u->lN f v u)∧(a≠b->lN f a b):=by
 have p:=h.n24;have n:∀v:Nat,v<P.length->(at' P (v:Int)).length<24:=λv s=>by
  have:=(h.vg.node v s).deg;have e:(at' P (v:Int)).length=(row (c,P) v).length:=rfl;dsimp only at this;omega
 have t:=n a g;have z:=n b m;unfold lW;by_cases d:a=b
 ·subst d;rw[if_pos Z];exact⟨P,rfl,h,rfl,λ_ _ h=>h,λr=>absurd Z r⟩
 rw[if_neg (by omega)];by_cases i:lN P a b
 ·rw[bD ((Kk c P a b g (by omega)).1 i)];exact⟨P,rfl,h,rfl,λ_ _ h=>h,λ_=>i⟩
 rw[bD ((Kk c P a b g (by omega)).2 i)];unfold nP;rw[if_neg (by simp)];dsimp only;cases q:x.2.2.2.2.2 with
 | true =>
  rw[if_pos Z];have e:at' (P.set (Int.toNat (a:Int)) ([((b:Int),w)]++at' P (a:Int))) (b:Int)=at' P (b:Int):=by
   rw[gX,List.getD_eq_getElem?_getD,List.getElem?_set,if_neg (by simpa using d),gX,List.getD_eq_getElem?_getD]
  rw[e];rw[cB (by omega),cB (by simp;omega),cB (by omega),cB (by simp;omega),cB (by simp;omega),cB (by simp;omega)];obtain⟨j,k,l⟩:=h.add g m d i o (List.Perm.refl _) (List.Perm.refl _);exact⟨_,rfl,j,by simp,k,λ_=>l⟩
 |false=>
  rw[if_neg (by simp)];rw[cB (by omega),cB (by omega),cB (by simp;omega),cB (by simp;omega),cB (by simpa using d),cB (by simp;omega),cB (by simp;omega)];obtain⟨j,k,l⟩:=h.add g m d i o (x:=at' P (a:Int)++[((b:Int),w)]) (y:=at' P (b:Int)++[((a:Int),w)]) List.perm_append_comm List.perm_append_comm;exact⟨_,rfl,j,by simp,k,λ_=>l⟩
theorem KE (v:Int):wI .i64 (1+v%15)=1+v%15∧1<=1+v%15∧1+v%15<=15:=by
 have:=Int.emod_nonneg v (show(15:Int)≠0 by decide);have:=Int.emod_lt_of_pos v (show(0:Int)<15 by decide);exact⟨wr (by omega) (by omega),by omega,by omega⟩

theorem Zv (x:OI) (c:Nat) (F:1<=c) (m:c<=24):
  OK (λg:GR=>VM g.1 g.2∧g.2.length<=c∧∀v:Nat,1<=v->v<g.2.length->∃u:Nat,u<v∧lN g.2 u v) (lV 1000 x (c:Int)):=by
 unfold lV;obtain⟨⟨d,S⟩,D,h,z,e,q⟩:=Wc x c F m;dsimp only at z h e q;rw[bD D];dsimp only;subst z;have r:=VM.start h e (by omega);refine xA (λs:Int×eY=>∃k:Nat,s.1=k∧1<=k∧k<=d.length∧VM d s.2∧s.2.length=d.length∧∀v:Nat,1<=v->v<k->∃u:Nat,u<v∧lN s.2 u v) (λs=>d.length - s.1.toNat) ?_ 1000 _ ⟨1,rfl,by omega,e,r,by simp,λv l f=>by omega⟩ (by dsimp only;omega);rintro⟨i,P⟩ T ⟨k,B,H,I,p,G,o⟩ j;dsimp only at B p G o;subst B;unfold rW nO;dsimp only;by_cases A:(k:Int)<(P.length:Int)
 ·rw[if_pos A,wr (by omega) (by omega),bD (MP _ _ (by omega)),bD (uR _ _ (by omega) (by omega)),bD (MP _ _ (by omega)),bD (uR _ _ (by decide) (by decide))];obtain⟨N,O,Q⟩:=KE (at' x.2.2.1 ((k:Int) - 1));rw[N];generalize C:at' x.2.1 ((k:Int) - 1)%(k:Int)=u;have U:0<=u:=by rw[<-C];exact Int.emod_nonneg _ (by omega)
  have V:u<k:=by rw[<-C];exact Int.emod_lt_of_pos _ (by omega)
  obtain⟨u,rfl⟩:∃n:Nat,u=n:=⟨u.toNat,by omega⟩
  obtain⟨R,E,K,W,L,M⟩:=Ri x p (a:=u) (b:=k) (by omega) (by omega) ⟨O,Q⟩;rw[bD E,wr (by omega) (by omega)];refine j _ ⟨k+1,by dsimp only;omega,by omega,by omega,K,by dsimp only;omega,λv l f=> ?_⟩ (by dsimp only;omega);by_cases y:v=k
  ·subst y;exact⟨u,by omega,M (by omega)⟩
  ·obtain⟨J,t,w⟩:=o v l (by omega);exact⟨J,t,L _ _ w⟩
 ·rw[if_neg A];exact⟨_,rfl,p,by dsimp only;omega,λv l f=>o v l (by dsimp only at f;omega)⟩
theorem Zb (x:OI) {ids:aP} {P:eY} (h:VM ids P):OK (λg:GR=>VM g.1 g.2∧g.1=ids∧g.2.length=P.length∧∀v u,lN P v u->lN g.2 v u) (lX 1000 x (ids,P)):=by
 unfold lX;have h24:=h.n24;have hp1:=h.n1;refine xA (λs:Int×eY=>∃k:Nat,s.1=k∧k<=100∧VM ids s.2∧s.2.length=P.length∧∀v u,lN P v u->lN s.2 v u) (λs=>200 - s.1.toNat) ?_ 1000 _ ⟨P.length,rfl,by omega,h,rfl,λ_ _ h=>h⟩ (by dsimp only;omega);rintro⟨i,Q⟩ ag ⟨k,hk,hk2,hV,hL,hN⟩ hrec;dsimp only at hk hV hL hN;subst hk;have done:∀b:Bool,b=false->OK (λg:GR=>VM g.1 g.2∧g.1=ids∧g.2.length=P.length∧∀v u,lN P v u->lN g.2 v u) (kX 1000 x (ids,P) ((k:Int),Q) ag b):=by
  rintro b rfl;exact⟨_,rfl,hV,rfl,hL,hN⟩
 unfold nQ;dsimp only;rw[wr (by omega) (by omega)];by_cases h1:(k:Int)+1<(x.2.1.length:Int)
 rotate_left
 ·rw[if_neg h1];exact done _ rfl
 rw[if_pos h1];by_cases h2:(k:Int)<60
 rotate_left
 ·exact done _ (decide_eq_false h2)
 rw[decide_eq_true h2];unfold kX;dsimp only;rw[if_pos rfl,cB (by omega),bD (uR _ _ (by omega) (by omega)),wr (by omega) (by omega),cB (by omega),bD (uR _ _ (by omega) (by omega)),bD (MP _ _ (by omega)),bD (uR _ _ (by decide) (by decide))];obtain⟨w1,w2,w3⟩:=KE (at' x.2.2.1 (k:Int));rw[w1];generalize hu:at' x.2.1 (k:Int)%(P.length:Int)=u;have u0:0<=u:=by rw[<-hu];exact Int.emod_nonneg _ (by omega)
 have u1:u<P.length:=by rw[<-hu];exact Int.emod_lt_of_pos _ (by omega)
 obtain⟨u,rfl⟩:∃n:Nat,u=n:=⟨u.toNat,by omega⟩
 generalize ht:at' x.2.1 ((k:Int)+1)%(P.length:Int)=t;have t0:0<=t:=by rw[<-ht];exact Int.emod_nonneg _ (by omega)
 have t1:t<P.length:=by rw[<-ht];exact Int.emod_lt_of_pos _ (by omega)
 obtain⟨t,rfl⟩:∃n:Nat,t=n:=⟨t.toNat,by omega⟩
 obtain⟨P',e1,v1,v2,v3,v4⟩:=Ri x hV (a:=u) (b:=t) (by omega) (by omega) ⟨w2,w3⟩;rw[bD e1,wr (by omega) (by omega)];exact hrec _ ⟨k+2,by dsimp only;omega,by omega,v1,by dsimp only;omega,λv u hvu=>v3 _ _ (hN v u hvu)⟩ (by dsimp only;omega)
theorem Lk (x:OI) (a:Nat) (m:1<=a) (c:a<=24):
  OK (λg:GR=>VM g.1 g.2∧g.2.length<=a∧∀v:Nat,1<=v->v<g.2.length->∃u:Nat,u<v∧lN g.2 u v) (fT 1000 x (a:Int)):=by
 unfold fT;obtain⟨⟨s,P⟩,k,o,n,i⟩:=Zv x a m c;obtain⟨⟨j,t⟩,l,b,p,d,h⟩:=Zb x o;rw[bD k,bD l];dsimp only at n i b p d h;refine⟨_,rfl,b,by dsimp only;omega,λv r f=> ?_⟩
 obtain⟨u,q,e⟩:=i v r (by dsimp only at f;omega);exact⟨u,q,h _ _ e⟩
end Go.Proofs.YtmdlcmbplnhdnaaGreatDoor
namespace Go.Proofs.YtmdlcmbplnhdnaaGreatDoor
open Go Go.Sx
abbrev val (c:bA) (v x:Nat):Int:=at' (at' c (v:Int)) (x:Int)
def ZE (g:GR) (b:Int) (v:Nat) (a:Int):Prop:=if b = -1 then -1<=a∧a<=((row g v).length:Int) - 1 else 0<=a∧a<=b
instance (g:GR) (top:Int) (v:Nat) (a:Int):Decidable (ZE g top v a):=by unfold ZE;infer_instance

def gW (g:GR):Nat->Int
 |0=>0
 |k+1=>max (gW g k) (at' g.1 (k:Int))
theorem IQ {g:GR} (a:VG g):∀k,k<=g.2.length->0<=gW g k∧gW g k<=255
 |0,_=>by simp[gW]
 |k+1,h=>by
  have b:=IQ a k (by omega);have c:0<=at' g.1 (k:Int)∧at' g.1 (k:Int)<=255:=(a.node k (by omega)).id;simp only[gW];omega
abbrev Cp:=Dl
def CE (x:Cp):Prop:=(0<=x.2.2.2.1∧x.2.2.2.1<=100000)∧(0<=x.2.2.2.2.1∧x.2.2.2.2.1<=100000)∧(0<=x.2.2.2.2.2∧x.2.2.2.2.2<=100000)
def lo (g:GR) (x:Cp) (v:Nat):Int:=if x.2.1=2 then 0 else if x.2.1=3 then -1 else x.2.2.1
def hi (g:GR) (x:Cp) (v:Nat):Int:=if x.2.1=2 then 1 else if x.2.1=3 then((row g v).length:Int) - 1 else x.2.2.2.1+x.2.2.2.2.1*(g.2.length:Int)+x.2.2.2.2.2*gW g g.1.length
structure Jw (g:GR) (c:bA) (vars:List Cp):Prop where
 len:c.length=g.2.length
 row:∀v,v<g.2.length->(at' c (v:Int)).length=vars.length
 ok:∀v,v<g.2.length->∀x,x<vars.length->lo g (at' vars (x:Int)) v<=val c v x∧val c v x<=hi g (at' vars (x:Int)) v
def Na (a b:Nat):Nat:=(BitVec.ofInt 32 (a:Int) &&& ~~~ BitVec.ofInt 32 (b:Int)).toNat
theorem Vb (a b:Nat):Na a b<4294967296:=(BitVec.ofInt 32 (a:Int) &&& ~~~ BitVec.ofInt 32 (b:Int)).isLt
theorem FY {a i:Nat} (b:a<4294967296) (h:a.testBit i=true):i<32:=by
 apply Classical.byContradiction;intro c;rw[Nat.testBit_lt_two_pow (Nat.lt_of_lt_of_le b (Nat.pow_le_pow_right (n:=2) (by omega) (show 32<=i by omega)))]at h;cases h
theorem SL {a b:Nat} (d:a<4294967296) (e:b<4294967296) (i:Nat):(Na a b).testBit i=(a.testBit i && !b.testBit i):=by
 have:=BitVec.getLsbD_and (x:=BitVec.ofInt 32 (a:Int)) (y:= ~~~ BitVec.ofInt 32 (b:Int)) (i:=i);rw[BitVec.getLsbD_not]at this;have h:(Na a b).testBit i=((Xk (a:Int)).testBit i&&(decide (i<32) && !(Xk (b:Int)).testBit i)):=this;rw[Ax d,Ax e]at h;rw[h];cases c:a.testBit i with
 |false=>simp
 |true=>simp[FY d c]
theorem Ux (a b:Nat):yV .u32 (a:Int) (b:Int)=(Na a b:Int):=Ow _ (Vb a b)
theorem Ig {a b:Nat} (c:a<4294967296) (d:b<4294967296):dV .u32 (a:Int) (b:Int)=((a &&& b:Nat):Int):=by rw[La,Ax c,Ax d]
theorem aeM {a b:Nat} (c:a<4294967296) (d:b<4294967296):Lb .u32 (a:Int) (b:Int)=((a ||| b:Nat):Int):=by rw[aaq,Ax c,Ax d]
theorem ZP {a b:Nat} (c:a<4294967296) (d:b<4294967296):a ||| b<4294967296:=Nat.or_lt_two_pow (n:=32) c d
theorem OX {a b:Nat} (c:a<4294967296):a &&& b<4294967296:=Nat.lt_of_le_of_lt Nat.and_le_left c
theorem OZ {a k:Nat} (c:a<4294967296) (b:k<32):Lb .u32 (a:Int) (Bv .u32 1 (k:Int))=((a ||| 2^k:Nat):Int):=by rw[ZJ b,aeM c (GX b)]
theorem Rj (p:Nat->Bool) {k:Nat} (a:k<=32):AD p k<4294967296:=Nat.lt_of_lt_of_le (No p k) (Nat.pow_le_pow_right (n:=2) (by omega) a)
theorem ahf {i:Nat} (h:i<1000000):wI .i64 ((i:Int)+1)=(i:Int)+1:=wr (by omega) (by omega)

theorem VG.to {g:GR} (c:VG g) {v i:Nat} (e:v<g.2.length) (d:i<(row g v).length):∃u:Nat,u<g.2.length∧(fP (row g v) i).1=(u:Int):=by
 obtain⟨u,a,b,_⟩:=c.port e d;exact⟨u,a,b⟩

theorem Qv {n i:Nat}:(2^n - 1).testBit i=decide (i<n):=Nat.testBit_two_pow_sub_one n i

def d0 (g:GR) (c:bA) (d v:Nat):Int:=if d.testBit v=true then at' (at' c (v:Int)) 0 else if v=0 then 0 else(g.2.length:Int)
def start (g:GR) (c:bA) (d:Nat):aP:=(List.range g.2.length).map (d0 g c d)



def JJ:List Cp:=[(ByteArray.mk #[100],1,0,0,1,0),(ByteArray.mk #[112],3,0,0,0,0)]
theorem LS {a:Type} [Inhabited a] (l:List a) (x:a) {i:Nat} (b:i<l.length+1):at' (l++[x]) (i:Int)=if i<l.length then at' l (i:Int)else x:=by
 rw[gX,gX];by_cases h:i<l.length
 ·rw[if_pos h,List.getD_eq_getElem?_getD,List.getD_eq_getElem?_getD,List.getElem?_append_left h]
 ·have:i=l.length:=by omega
  subst this;rw[if_neg h];simp
def Uk (g:GR) (a:List Cp) (v:Nat) (l:aP):Prop:=∀x,x<l.length->lo g (at' a (x:Int)) v<=at' l (x:Int)∧at' l (x:Int)<=hi g (at' a (x:Int)) v
theorem SI {g:GR} (G:VG g) (d:List Cp) (f:aP) (ht:d.length<=900) (U:∀x,x<d.length->CE (at' d (x:Int)) ∧ -100000<=(at' d (x:Int)).2.2.1∧(at' d (x:Int)).2.2.1<=(at' d (x:Int)).2.2.2.1):
  OK (λc=>Jw g c d) (mA 1000 g d f):=by
 have Q:=G.n24;have C:=G.len;have P:mA 1000 g d f=pQ 1000 g d f (gW g g.2.length):=by
  unfold mA;refine eJ (F:=λk:Nat=>((gW g k,(k:Int)):fG)) g.2.length (λk B hk=> ?_) (λB=> ?_) 1000 (by omega)
  ·unfold tP;simp only;rw[if_pos (by omega),cB (by omega),wr (by omega) (by omega)];rfl
  ·unfold tP;simp only;rw[if_neg (by omega)]
 rw[P];obtain⟨M,X⟩:=IQ G g.2.length (by omega);unfold pQ;have J:=CP (step:=jJ 1000 g d f (gW g g.2.length)) (K:=λx=>some x.1) g.2.length (λv x=>x.2=(v:Int)∧x.1.length=v∧∀w,w<v->(at' x.1 (w:Int)).length=d.length∧Uk g d w (at' x.1 (w:Int))) (λv x B t q=> ?_) (λx B q=> ?_) 1000 (([]:bA),(0:Int)) ⟨rfl,rfl,λw V=>by omega⟩ (by omega)
 ·obtain⟨⟨c,i⟩,⟨_,s,p⟩,I⟩:=J;exact⟨c,I,s,λv t=>(p v t).1,λv t x D=>(p v t).2 x (by rw[(p v t).1];exact D)⟩
 ·obtain⟨c,i⟩:=x;obtain⟨rfl,s,p⟩:=q;simp only at s p;have L:(at' g.2 (v:Int)).length<g.2.length:=(G.node v t).deg;unfold jJ;simp only;rw[if_pos (by omega)];have E:=CP (step:=mW 1000 g d f (gW g g.2.length) (c,(v:Int)) B) (K:=λy=>B (c++[y.1],(v:Int)+1)) d.length (λx y=>y.2=(x:Int)∧y.1.length=x∧Uk g d v y.1) (λx y n D q=> ?_) (λy n q=> ?_) 1000 (([]:aP),(0:Int)) ⟨rfl,rfl,λx D=>by simp at D⟩ (by omega)
  ·obtain⟨⟨l,j⟩,⟨_,h,u⟩,I⟩:=E;refine⟨(c++[l],(v:Int)+1),⟨by simp,by simp[s],λw V=> ?_⟩,I⟩
   simp only;rw[LS c l (by omega),s];by_cases e:w<v
   ·rw[if_pos e];exact p w e
   ·rw[if_neg e];have:w=v:=by omega
    subst this;exact⟨h,u⟩
  ·obtain⟨l,j⟩:=y;obtain⟨rfl,h,u⟩:=q;simp only at h u;obtain⟨⟨s1,N,O⟩,s4,s5⟩:=U x D;have o:∀a b:Int,a=lo g (at' d (x:Int)) v->b=hi g (at' d (x:Int)) v -> -100000<=a->a<=b+1->b<=100000000->(a<=b∨(a = -1∧b = -1))->∃H,(H.2=((x+1:Nat):Int)∧H.1.length=x+1∧Uk g d v H.1)∧mV 1000 d f (c,(v:Int)) (l,(x:Int)) n (a,b)=n H:=by
    intro a b R T q1 q2 q3 q4;have S:a<=b:=by omega
    unfold mV;simp only;have w1:wI .i64 ((v:Int)*(d.length:Int))=(v:Int)*(d.length:Int):=by
     have Y:0<=(v:Int)*(d.length:Int):=Int.mul_nonneg (by omega) (by omega);have p2:(v:Int)*(d.length:Int)<=24*900:=Int.mul_le_mul (by omega) (by omega) (by omega) (by omega);exact wr (by omega) (by omega)
    have Y:0<=(v:Int)*(d.length:Int):=Int.mul_nonneg (by omega) (by omega);have p2:(v:Int)*(d.length:Int)<=24*900:=Int.mul_le_mul (by omega) (by omega) (by omega) (by omega);rw[w1,wr (x:=(v:Int)*(d.length:Int)+(x:Int)) (by omega) (by omega),MP _ _ (by omega),bD Z,wr (x:=b - a) (by omega) (by omega),wr (x:=b - a+1) (by omega) (by omega),uR _ _ (by omega) (by omega),bD Z];have r1:=Int.emod_nonneg (at' f ((v:Int)*(d.length:Int)+(x:Int))) (b:=b - a+1) (by omega);have r2:=Int.emod_lt_of_pos (at' f ((v:Int)*(d.length:Int)+(x:Int))) (b:=b - a+1) (by omega);generalize at' f ((v:Int)*(d.length:Int)+(x:Int))%(b - a+1)=r at r1 r2;rw[wr (x:=a+r) (by omega) (by omega),cB (by simp;omega),wr (by omega) (by omega)];refine⟨_,⟨by simp,by simp[h],λz W=> ?_⟩,rfl⟩
    simp only[List.length_append,List.length_cons,List.length_nil,h]at W;simp only;rw[LS l _ (by omega),h];by_cases e:z<x
    ·rw[if_pos e];exact u z (by omega)
    ·rw[if_neg e];have:z=x:=by omega
     subst this;rw[<-R,<-T];omega
   unfold mW;simp only;rw[if_pos (by omega),cB (by omega),cB (by omega),cB (by omega),cB (by omega),cB (by omega)];by_cases m:(at' d (x:Int)).2.1=2
   ·rw[if_pos m];exact o 0 1 (by unfold lo;rw[if_pos m]) (by unfold hi;rw[if_pos m]) (by omega) (by omega) (by omega) (by omega)
   ·rw[if_neg m];by_cases A:(at' d (x:Int)).2.1=3
    ·rw[if_pos A,cB (by omega),wr (by omega) (by omega)];exact o (-1) _ (by unfold lo;rw[if_neg m,if_pos A]) (by unfold hi;rw[if_neg m,if_pos A]) (by omega) (by omega) (by omega) (by omega)
    ·rw[if_neg A];have q1:0<=(at' d (x:Int)).2.2.2.2.1*(g.2.length:Int):=Int.mul_nonneg N.1 (by omega);have q2:(at' d (x:Int)).2.2.2.2.1*(g.2.length:Int)<=100000*24:=Int.mul_le_mul N.2 (by omega) (by omega) (by omega);have q3:0<=(at' d (x:Int)).2.2.2.2.2*gW g g.2.length:=Int.mul_nonneg O.1 M;have q4:(at' d (x:Int)).2.2.2.2.2*gW g g.2.length<=100000*255:=Int.mul_le_mul O.2 X M (by omega);rw[wr (x:=(at' d (x:Int)).2.2.2.2.1*(g.2.length:Int)) (by omega) (by omega),wr (x:=(at' d (x:Int)).2.2.2.2.2*gW g g.2.length) (by omega) (by omega),wr (x:=(at' d (x:Int)).2.2.2.1+(at' d (x:Int)).2.2.2.2.1*(g.2.length:Int)) (by omega) (by omega),wr (by omega) (by omega)];exact o _ _ (by unfold lo;rw[if_neg m,if_neg A]) (by unfold hi;rw[if_neg m,if_neg A,C]) (by omega) (by omega) (by omega) (by omega)
  ·obtain⟨l,j⟩:=y;obtain⟨rfl,h,u⟩:=q;simp only at h u;unfold mW yJ;simp only;rw[if_neg (by omega),cB (by simp;omega),wr (by omega) (by omega)]
 ·obtain⟨c,i⟩:=x;obtain⟨rfl,s,p⟩:=q;unfold jJ tO;simp only;rw[if_neg (by omega)]
def low (a b:Int):Int:=if 0<=b∧(a<0∨b<a)then b else a
end Go.Proofs.YtmdlcmbplnhdnaaGreatDoor
namespace Go.Proofs.YtmdlcmbplnhdnaaGreatDoor
open Go.Sx
def rE  (a:aP):Option aP:=
 some (a)
def rF (a:mN) (c:wD->Option aP) (b:aP):Option aP:=
 c ((wI .i64 (a.1+(1:Int))),b)
def oF (d:cE) (a:mN) (e:wD->Option aP) (b:mN) (c:wD->Option aP):Option aP:=
 if b.1<(List.length (at' d.2 a.1):Int)then(ck (0<=b.1∧b.1<(List.length (at' d.2 a.1):Int)) (ck (0<=a.1∧a.1<(List.length b.2:Int)) (ck (0<=((at' (at' d.2 a.1) b.1).1)) (ck (0<=a.1∧a.1<(List.length b.2:Int)) (c ((wI .i64 (b.1+(1:Int))),(List.set b.2 (Int.toNat a.1) (Lb .u32 (at' b.2 a.1) (Bv .u32 (1:Int) ((at' (at' d.2 a.1) b.1).1))))))))))else(rF a e (b.2))
def jZ (U:Nat) (c:cE) (a:mN) (b:wD->Option aP):Option aP:=
 if a.1<(List.length c.2:Int)then(ck (0<=a.1∧a.1<(List.length c.2:Int)) (bL (oF c a b) U ((0:Int),a.2)))else(rE  (a.2))
def mS (U:Nat) (a:cE):Option aP:=
 ck (0<=(List.length a.2:Int)∧(List.length a.2:Int)<=1099511627) (bL (jZ U a) U ((0:Int),(List.replicate (Int.toNat (List.length a.2:Int)) (0:Int))))
theorem aaO:aR Tryz.prog 79:=Tryz.call79
theorem Hi (U:Nat) {d:cE} (v:Value)  (j:Value)  (y:lA) (r:aP) (h:mS U d=some r):
  aV Tryz.prog 79 #[Value.agg #[v,j]] [Sl bM v d.1,S2 a_ j y d.2] (λx:Value=>x) (λx l=>Ar nZ x r::l) (λ_ l=>l):=by
 refine aV.of Tryz.func79 Z Tryz.ntmps79 Z λc=>?_;refine aT<|aG (aL.box (cs:=[v,j]) Z Z) Z λD=>aD Z<|aM<|aT<|bU Z<|dL 0 Z<|aC (iX Z (aE.fact 1 Z) Z) Z<|dO h λB h=>aG (pC (e:=nZ) (0:Int) Z Z Z Z B Z Z Z) Z λi=>aD Z<|aM<|aJ<|fU (λk=>rE  k=some r) (λk w=>[(3,i)]) (λk w=>[Ar nZ i k]) ?_ ?_
 ·refine aT<|bU Z<|dL 1 Z<|aC (iX Z (aE.fact 1 Z) Z) Z<|aA Z<|aM<|aU<|fD (jZ U d) (λa m=>[(3,i),(13,j),(14,vI (List.length d.2:Int)),(15,vI (a.1))]) (λa m=>[Ar nZ i a.2]) ((0:Int),(List.replicate (Int.toNat (List.length d.2:Int)) (0:Int))) () h SF (aY.ix [0] Z Z) ?_;intro t a m h;refine aT<|dA Z<|aM<|aJ ?_;refine fE h Z (λh=>?_) λh=>?_
  ·refine cU<|aJ<|fU (λg=>rF a (bL (jZ U d) t) g=some r) (λg n=>[(3,i),(13,j),(14,vI (List.length d.2:Int)),(15,vI (a.1))]) (λg n=>[Ar nZ i g]) ?_ ?_
   ·refine aU<|aT<|aA Z<|dO h λf h=>aC (c_ Z Z (aE.fact 1 Z) Z Z f) Z<|aC (dB Z (aE.fact 1 Z) Z Z f) Z<|aD Z<|aD Z<|aM<|aT<|aA Z<|aC (iU Z (aE.el (aE.fact 1 Z) f.1 f.2) Z) Z<|aA Z<|aM<|aU<|fD (oF d a (bL (jZ U d) t)) (λb o=>[(3,i),(4,vI (a.1)),(13,j),(14,vI (List.length d.2:Int)),(15,vI (a.1)),(20,(at' y a.1).1),(21,vI (List.length (at' d.2 a.1):Int)),(22,vI (b.1))]) (λb o=>[Ar nZ i b.2]) ((0:Int),a.2) () h SF (aY.refl _) ?_;intro C b o h;refine aT<|dA Z<|aM<|aJ ?_;refine fE h Z (λh=>?_) λh=>?_
    ·refine cU<|aJ<|aU<|aT<|dO h λp h=>aC (bE Z Z (aE.el (aE.fact 1 Z) f.1 f.2) Z Z p) Z<|aC (h_ (cs:=[vI ((at' (at' d.2 a.1) b.1).1),vI ((at' (at' d.2 a.1) b.1).2)]) Z (aE.el (aE.fact 1 Z) f.1 f.2) bQ Z Z Z Z p) Z<|aG (aL.alloc (cs:=Tz) Z Z) Z λA=>bN 0 (vs:=[vI ((at' (at' d.2 a.1) b.1).1),vI ((at' (at' d.2 a.1) b.1).2)]) Z Z Z Z Z Z<|aM ?_;refine JR.start [0,0,3,7,0,16,48,127,255,511] 7 mixedOrders (by decide +kernel) ?_;refine JR.open (by exact rfl) ?_;refine bH Z<|bH Z<|dO h λq h=>bJ Z (aY.cons 1 Z .nil) .nil (bE Z Z (bG (aE.res 0 Z) tT) Z Z q) aO.z<|bJ Z (aY.cons 1 Z .nil) .nil (b_ Z (bG (aE.res 0 Z) tT) Z Z Z FW q) aO.z<|cR Z<|gY 0 Z<|dO h λu h=>iD Z (MN Z Z u)<|bR 7 Z Z<|aC (XI Z Z) Z<|dO h λs h=>aC (bE Z Z (bG (aE.res 1 Z) tT) Z Z s) Z<|Cv 1 (Lb .u32 (at' b.2 a.1) (Bv .u32 (1:Int) ((at' (at' d.2 a.1) b.1).1))) s Z Z Z Z Z Z Z<|eN<|oM<|aQ<|cQ Z<|aA Z<|aM ?_;exact lM ((wI .i64 (b.1+(1:Int))),(List.set b.2 (Int.toNat a.1) (Lb .u32 (at' b.2 a.1) (Bv .u32 (1:Int) ((at' (at' d.2 a.1) b.1).1))))) () h SF (aY.ix [1] Z Z) (aF.refl _ _)
    refine uV<|gK<|gK<|Av<|oM ?_;exact jL (b.2) () h SF Z
   intro g n h;unfold rF at h;refine aQ<|cQ Z<|aA Z<|aM ?_;exact AK ((wI .i64 (a.1+(1:Int))),g) () h SF Z
  refine fS ?_;exact jL (a.2) () h SF Z
 intro k w h;unfold rE at h;refine aT<|aA Z<|aD Z<|aM<|aS ?_;cases h;exact gJ (i) Z Z (RV.tmp Z) (aY.refl _) aF.nil
end Go.Proofs.YtmdlcmbplnhdnaaGreatDoor
namespace Go.Proofs.YtmdlcmbplnhdnaaGreatDoor
open Go Go.Sx
structure Sg (m k:Nat):Prop where
 bit:m.testBit k=true
 low:∀j,j<k->m.testBit j=false
theorem LA {m:Nat} (h:m≠0):∃k,Sg m k:=by
 obtain⟨i,c⟩:=Nat.exists_testBit_of_ne_zero h;obtain⟨k,_,a,b⟩:=Fh (p:=λi=>m.testBit i=true) i c;exact⟨k,a,λj d=>by simpa using b j d⟩
theorem ND {m k:Nat} (h:Sg m k) (i:Nat):(m - 1).testBit i=if i<k then true else if i=k then false else m.testBit i:=by
 have b:m=2^(k+1)*(m / 2^(k+1))+2^k:=by
  refine Nat.eq_of_testBit_eq λi=> ?_;have a:2^k<2^(k+1):=Nat.pow_lt_pow_right (by omega) (by omega);rw[Nat.testBit_two_pow_mul_add _ a,Nat.testBit_two_pow,Nat.testBit_div_two_pow];rcases Nat.lt_trichotomy i k with q|q|q
  ·rw[if_pos (by omega),h.low i q,decide_eq_false (by omega)]
  ·subst q;rw[if_pos (by omega),h.bit,decide_eq_true Z]
  ·rw[if_neg (by omega),show i - (k+1)+(k+1)=i by omega]
 have c:0<2^k:=Nat.pow_pos (by omega);have a:2^k - 1<2^(k+1):=by rw[Nat.pow_succ];omega
 have e:m - 1=2^(k+1)*(m / 2^(k+1))+(2^k - 1):=by omega
 rw[e,Nat.testBit_two_pow_mul_add _ a,Nat.testBit_two_pow_sub_one,Nat.testBit_div_two_pow];rcases Nat.lt_trichotomy i k with q|q|q
 ·rw[if_pos (by omega),if_pos q,decide_eq_true q]
 ·subst q;rw[if_pos (by omega),if_neg (by omega),if_pos Z,decide_eq_false (by omega)]
 ·rw[if_neg (by omega),if_neg (by omega),if_neg (by omega),show i - (k+1)+(k+1)=i by omega]
theorem agY {m:Nat} (b:m<4294967296) (a:m≠0):wI .u32 (0 - (m:Int))=((4294967296 - m:Nat):Int):=by
 rw[Eg];have:IntKind.u32.wrap (0 - (m:Int))=(0 - (m:Int))%4294967296:=rfl;rw[this];omega
theorem aeg {m:Nat} (b:m<4294967296) (a:m≠0):wI .u32 ((m:Int) - 1)=((m - 1:Nat):Int):=by
 rw[show(m:Int) - 1=((m - 1:Nat):Int) by omega,Eg,Ow _ (by omega)]
theorem abC {m k:Nat} (a:m<4294967296) (h:Sg m k):dV .u32 (m:Int) (wI .u32 (0 - (m:Int)))=((2^k:Nat):Int):=by
 have b:m≠0:=λe=>by have:=h.bit;rw[e]at this;simp at this
 have c:k<32:=FY a h.bit;rw[agY a b,Ig a (by omega)];congr 1;refine Nat.eq_of_testBit_eq λi=> ?_;rw[Nat.testBit_and,show 4294967296 - m=2^32 - ((m - 1)+1) by omega,Nat.testBit_two_pow_sub_succ (by omega),Nat.testBit_two_pow,ND h];rcases Nat.lt_trichotomy i k with q|q|q
 ·rw[h.low i q,decide_eq_false (show¬k=i by omega)];rfl
 ·subst q;rw[h.bit,if_neg (by omega),if_pos Z,decide_eq_true c,decide_eq_true Z];rfl
 ·rw[if_neg (by omega),if_neg (by omega),decide_eq_false (show¬k=i by omega)];cases m.testBit i<;>simp
theorem Pg {m k:Nat} (a:m<4294967296) (h:Sg m k):∃b:Nat,dV .u32 (m:Int) (wI .u32 ((m:Int) - 1))=(b:Int)∧b<4294967296∧∀i,b.testBit i=(m.testBit i&&decide (i≠k)):=by
 have c:m≠0:=λe=>by have:=h.bit;rw[e]at this;simp at this
 refine⟨m &&& (m - 1),by rw[aeg a c,Ig a (by omega)],OX a,λi=> ?_⟩
 rw[Nat.testBit_and,ND h];rcases Nat.lt_trichotomy i k with q|q|q
 ·rw[h.low i q];rfl
 ·subst q;simp
 ·rw[if_neg (by omega),if_neg (by omega)];have:decide (i≠k)=true:=decide_eq_true (by omega);rw[this];cases m.testBit i<;>rfl
theorem acb:∀k:Fin 32,((0:Int)<=tV .u32 (wI .u32 ((((2^k.val:Nat):Int))*125613361)) 27∧tV .u32 (wI .u32 ((((2^k.val:Nat):Int))*125613361)) 27<((32:Nat):Int))∧wI .i64 (at' sU (tV .u32 (wI .u32 ((((2^k.val:Nat):Int))*125613361)) 27))=(k.val:Int):=by decide +kernel
theorem ZU (f:Nat) {m k:Nat} (a:m<4294967296) (h:Sg m k):iZ f (m:Int)=some (k:Int):=by
 have d:m≠0:=λe=>by have:=h.bit;rw[e]at this;simp at this
 obtain⟨b,c⟩:=acb ⟨k,FY a h.bit⟩;unfold iZ;rw[if_neg (by omega),cB (by decide),abC a h,cB ⟨b,rfl⟩,c]

structure Mt (g:GR) (r:aP):Prop where
 len:r.length=g.2.length
 at':∀v:Nat,v<g.2.length->∃m:Nat,Go.Sx.at' r (v:Int)=(m:Int)∧m<4294967296∧∀u,m.testBit u=true↔Ju g v u
theorem abH {g:GR} (I:VG g):∃r,mS 1000 g=some r∧Mt g r:=by
 have R:=I.n24;unfold mS;rw[cB (by omega)];obtain⟨⟨a,r⟩,⟨y,B,C⟩,J⟩:=CP (step:=jZ 1000 g) (K:=λz=>some z.2) g.2.length
  (λk z=>z.1=(k:Int)∧z.2.length=g.2.length∧∀v:Nat,v<g.2.length->∃m:Nat,Go.Sx.at' z.2 (v:Int)=(m:Int)∧m<4294967296∧∀u,m.testBit u=true↔v<k∧Ju g v u) (λk z E M G=>by
  obtain⟨a,r⟩:=z;obtain⟨y,B,C⟩:=G;dsimp only at y B C;subst y;have O:=(I.node k M).deg;obtain⟨⟨b,U⟩,⟨s,d,c⟩,J⟩:=CP (step:=oF g ((k:Int),r) E) (K:=λz=>E (((k+1:Nat):Int),z.2)) (row g k).length
   (λj z=>z.1=(j:Int)∧z.2.length=g.2.length∧∀v:Nat,v<g.2.length->∃m:Nat,Go.Sx.at' z.2 (v:Int)=(m:Int)∧m<4294967296∧∀u,m.testBit u=true↔(v<k∧Ju g v u)∨(v=k∧∃i,i<j∧(fP (row g k) i).1=(u:Int))) (λj z F S H=>by
   obtain⟨b,q⟩:=z;obtain⟨s,d,c⟩:=H;dsimp only at s d c;subst s;obtain⟨w,V,x,N⟩:=I.port M S;obtain⟨m,T,l,t⟩:=c k M;refine⟨(((j+1:Nat):Int),q.set k (((m ||| 2^w:Nat)):Int)),⟨rfl,by simpa using d,λv f=> ?_⟩,?_⟩
   ·show∃P,Go.Sx.at' (q.set k _) (v:Int)=_∧_;rw[u_ q k v _ (by omega)];by_cases e:v=k
    ·subst e;refine⟨_,if_pos Z,ZP l (GX (by omega)),λu=> ?_⟩
     rw[Nat.testBit_or,Nat.testBit_two_pow,Bool.or_eq_true,t u,decide_eq_true_eq];constructor
     ·rintro((h|⟨_,i,A,h⟩)|h)
      ·exact .inl h
      ·exact .inr ⟨rfl,i,by omega,h⟩
      ·exact .inr ⟨rfl,j,by omega,by rw[x,h]⟩
     ·rintro(h|⟨_,i,A,h⟩)
      ·exact .inl (.inl h)
      ·by_cases L:i=j
       ·subst L;right;rw[x]at h;omega
       ·exact .inl (.inr ⟨rfl,i,by omega,h⟩)
    ·obtain⟨P,n,o,p⟩:=c v f;refine⟨P,by rw[if_neg e];exact n,o,λu=> ?_⟩
     rw[p u];constructor
     ·rintro(h|⟨h,_⟩)
      ·exact .inl h
      ·exact absurd h e
     ·rintro(h|⟨h,_⟩)
      ·exact .inl h
      ·exact absurd h e
   ·unfold oF;dsimp only;rw[if_pos (show(j:Int)<((row g k).length:Int) by omega),cB (show 0<=(j:Int)∧(j:Int)<((row g k).length:Int) by omega),cB (by omega),show Go.Sx.at' (Go.Sx.at' g.2 (k:Int)) (j:Int)=fP (row g k) j from rfl,x,cB (by omega),cB (by omega),T,OZ l (by omega),fK (by omega),Int.toNat_natCast]) (λz F H=>by
   obtain⟨b,q⟩:=z;obtain⟨s,d,c⟩:=H;dsimp only at s d c;subst s;unfold oF rF;dsimp only;rw[if_neg (show¬((row g k).length:Int)<((row g k).length:Int) by omega),fK (by omega)]) 1000 ((0:Int),r) ⟨rfl,B,λv f=>by
    obtain⟨m,n,o,p⟩:=C v f;refine⟨m,n,o,λu=> ?_⟩
    rw[p u];constructor
    ·exact λh=> .inl h
    ·rintro(h|⟨_,i,A,_⟩)
     ·exact h
     ·omega⟩ (by omega)
  dsimp only at s d c;refine⟨(((k+1:Nat):Int),U),⟨rfl,d,λv f=> ?_⟩,?_⟩
  ·obtain⟨m,n,o,p⟩:=c v f;refine⟨m,n,o,λu=> ?_⟩
   rw[p u];constructor
   ·rintro(⟨Q,D⟩|⟨rfl,i,A,h⟩)
    ·exact⟨by omega,D⟩
    ·exact⟨by omega,i,A,h⟩
   ·rintro⟨Q,D⟩;by_cases e:v=k
    ·subst e;obtain⟨i,A,h⟩:=D;exact .inr ⟨rfl,i,A,h⟩
    ·exact .inl ⟨by omega,D⟩
  ·unfold jZ;dsimp only;rw[if_pos (by omega),cB (by omega)];exact J) (λz E G=>by
  obtain⟨a,r⟩:=z;obtain⟨y,B,C⟩:=G;dsimp only at y;subst y;unfold jZ rE;dsimp only;rw[if_neg (by omega)]) 1000 ((0:Int),List.replicate (Int.toNat (g.2.length:Int)) (0:Int)) ⟨rfl,by simp,λv f=>⟨0,by
   rw[Int.toNat_natCast,kT (by simpa using f)];simp,by omega,λu=>by simp⟩⟩ (by omega)
 refine⟨r,J,B,λv f=> ?_⟩
 obtain⟨m,n,o,p⟩:=C v f;exact⟨m,n,o,λu=>by rw[p u];exact⟨λh=>h.2,λh=>⟨f,h⟩⟩⟩
def Xi (g:GR) (m:Nat):Prop:=∀i,m.testBit i=true->i<g.2.length
theorem Xi.lt {g:GR} (b:VG g) {m:Nat} (h:Xi g m):m<16777216:=by
 have a:=b.n24;refine Nat.lt_of_lt_of_le (Nat.lt_pow_two_of_testBit (n:=24) m λi d=> ?_) (Nat.le_refl _);cases c:m.testBit i with
 |false=>rfl
 |true=>have:=h i c;omega
theorem adx {m:Nat} (h:∀i,i<32->m.testBit i=false) (b:m<4294967296):m=0:=by
 refine Nat.eq_of_testBit_eq λi=> ?_;rw[Nat.zero_testBit];rcases Nat.lt_or_ge i 32 with q|q
 ·exact h i q
 ·cases a:m.testBit i with
  |false=>rfl
  |true=>have:=FY b a;omega
theorem Pz {g:GR} (z:VG g) {r:aP} (y:Mt g r) {t:Nat} (C:Xi g t) (n:∀v u,t.testBit v=true->t.testBit u=true->¬Ju g v u) (F:Nat):∀(d s a b:Nat),s+d=32->b<4294967296->(∀i,i<s->b.testBit i=false)->(∀i,b.testBit i=true->t.testBit i=true)->d<a->
  bL (fN F r (t:Int)) a (b:Int)=some true:=by
 have J:=z.n24;have p:t<4294967296:=by have:=C.lt z;omega
 intro d
 induction d using Nat.strongRecOn with
 | _ d ih =>
  intro s a b P B o c O;obtain⟨a,rfl⟩:∃f,a=f+1:=⟨a - 1,by omega⟩
  show fN F r (t:Int) (b:Int) (bL _ a)=_;unfold fN iR;by_cases G:b=0
  ·rw[if_neg (by omega)]
  obtain⟨k,l⟩:=LA G;have w:=C k (c k l.bit);have K:s<=k:=by
   rcases Nat.lt_or_ge k s with q|q
   ·have:=l.bit;rw[o k q]at this;cases this
   ·exact q
  obtain⟨m,L,h,j⟩:=y.at' k w;rw[if_pos (by omega),bD (ZU F B l),cB (by have:=y.len;omega),L,Ig h p];have M:m &&& t=0:=by
   refine adx (λi _=> ?_) (OX h);rw[Nat.testBit_and];cases H:m.testBit i with
   |false=>rfl
   |true=>
    cases I:t.testBit i with
    |false=>rfl
    |true=>exact absurd ((j i).1 H) (n k i (c k l.bit) I)
  rw[M,if_neg (by simp)];obtain⟨N,D,E,x⟩:=Pg B l;rw[D];have A:k<32:=by omega
  refine ih (32 - (k+1)) (by omega) (k+1) a N (by omega) E (λi n=> ?_) (λi n=> ?_) (by omega)
  ·rw[x];by_cases e:i=k
   ·simp[e]
   ·rw[l.low i (by omega)];rfl
  ·rw[x,Bool.and_eq_true]at n;exact c i n.1
theorem Hf {g:GR} (a:VG g) {r:aP} (d:Mt g r) {t:Nat} (c:Xi g t) (b:∀v u,t.testBit v=true->t.testBit u=true->¬Ju g v u):gC 1000 r (t:Int)=some true:=
 Pz a d c b 1000 32 0 1000 t (by omega) (by have:=c.lt a;omega) (λi b=>by omega) (λi h=>h) (by omega)
theorem Nh {g:GR} (M:VG g) {r:aP} (T:Mt g r) {W:Nat} (U:Xi g W) (F:Nat):∀(d s a b t:Nat),s+d=32->b<4294967296->t<4294967296->(∀i,i<s->b.testBit i=false)->(∀i,b.testBit i=true->W.testBit i=true)->(∀i,t.testBit i=true->W.testBit i=true)->(∀v u,t.testBit v=true->t.testBit u=true->¬Ju g v u)->(W≠0->t≠0∨b=W)->d<a->
  ∃C:Nat,bL (dR F r) a ((b:Int),(t:Int))=some (C:Int)∧C<4294967296∧(∀i,C.testBit i=true->W.testBit i=true)∧(∀v u,C.testBit v=true->C.testBit u=true->¬Ju g v u)∧(W≠0->C≠0):=by
 have aa:=M.n24;intro d
 induction d using Nat.strongRecOn with
 | _ d ih =>
  intro s a b t hs V c I w n j O hf;obtain⟨a,rfl⟩:∃f,a=f+1:=⟨a - 1,by omega⟩
  have P:bL (dR F r) (a+1) ((b:Int),(t:Int))=dR F r ((b:Int),(t:Int)) (bL (dR F r) a):=rfl;rw[P];unfold dR kR iG;dsimp only;by_cases S:b=0
  ·rw[if_neg (by omega)];refine⟨t,rfl,c,n,j,λX=> ?_⟩
   rcases O X with h|h
   ·exact h
   ·exact absurd (h.symm.trans S) X
  obtain⟨k,D⟩:=LA S;have E:=w k D.bit;have G:=U k E;have ab:s<=k:=by
   rcases Nat.lt_or_ge k s with q|q
   ·have:=D.bit;rw[I k q]at this;cases this
   ·exact q
  obtain⟨m,hm,J,A⟩:=T.at' k G;obtain⟨L,Y,Q,R⟩:=Pg V D;have p:k<32:=by omega
  have x:∀i,i<k+1->L.testBit i=false:=λi l=>by
   rw[R];by_cases e:i=k
   ·simp[e]
   ·rw[D.low i (by omega)];rfl
  have z:∀i,L.testBit i=true->W.testBit i=true:=λi l=>by
   rw[R,Bool.and_eq_true]at l;exact w i l.1
  rw[if_pos (by omega),bD (ZU F V D),cB (by have:=T.len;omega),hm,Ig J c,Y];by_cases K:m &&& t=0
  ·rw[K,if_pos (by rfl),cB (by omega),OZ c p];have H:(t ||| 2^k).testBit k=true:=by rw[Nat.testBit_or,Nat.testBit_two_pow];simp
   have y:∀u,t.testBit u=true->¬Ju g k u:=λu o N=>by
    have:=congrArg (λq=>q.testBit u) K;simp only[Nat.testBit_and,Nat.zero_testBit,(A u).2 N,o]at this;cases this
   refine ih (32 - (k+1)) (by omega) (k+1) a L (t ||| 2^k) (by omega) Q (ZP c (GX p)) x z (λi l=> ?_) (λv u B o=> ?_) (λ_=> .inl λe=>by rw[e]at H;simp at H) (by omega)
   ·rw[Nat.testBit_or,Nat.testBit_two_pow,Bool.or_eq_true,decide_eq_true_eq]at l;rcases l with l|rfl
    ·exact n i l
    ·exact E
   ·rw[Nat.testBit_or,Nat.testBit_two_pow,Bool.or_eq_true,decide_eq_true_eq]at B o;rcases B with B|rfl
    ·rcases o with o|rfl
     ·exact j v u B o
     ·exact λN=>y v B (M.back (U v (n v B)) N)
    ·rcases o with o|rfl
     ·exact y u o
     ·rintro⟨i,l,he⟩;exact((M.node k G).links i l).2.1 he
  ·rw[if_neg (by omega)];refine ih (32 - (k+1)) (by omega) (k+1) a L t (by omega) Q c x z n j (λ_=> .inl λe=> ?_) (by omega);rw[e]at K;exact K (Nat.and_zero m)
theorem PO {g:GR} (hV:VG g) {r:aP} (hN:Mt g r) {kind:Int} (hk1:1<=kind) (hk4:kind<=4) {e w:Nat} (he:Xi g e) (hw:w<4294967296):
  ∃t:Nat,eD 1000 r kind (e:Int) (w:Int)=some (t:Int)∧(∀i,t.testBit i=true->e.testBit i=true)∧(e≠0->t≠0∧fC 1000 r kind (e:Int) (t:Int)=some true∧(kind<=2->∀v u,t.testBit v=true->t.testBit u=true->¬Ju g v u)∧(kind=4->t=e)):=by
 have he24:=he.lt hV;have he32:e<4294967296:=by omega
 -- the wish
 obtain⟨W,hW,hW32,hWe,hW0,hWm⟩:∃W:Nat,eD 1000 r kind (e:Int) (w:Int)=iF 1000 r kind (e:Int) (W:Int)∧W<4294967296∧(∀i,W.testBit i=true->e.testBit i=true)∧(e≠0->W≠0)∧(e=0->W=0):=by
  unfold eD;rw[Ig hw he32];by_cases h0:w &&& e=0
  ·rw[h0,if_pos (show((0:Nat):Int)=0 from rfl)];by_cases hee:e=0
   ·refine⟨0,by rw[hee];rfl,by omega,λi h=>by simp at h,λh=>absurd hee h,λ_=>rfl⟩
   ·obtain⟨k,hk⟩:=LA hee;have hk32:=FY he32 hk.bit;refine⟨2^k,by rw[abC he32 hk],GX hk32,λi h=> ?_,λ_=>Nat.ne_of_gt (Nat.pow_pos (by omega)),λh=>absurd h hee⟩
    rw[Nat.testBit_two_pow,decide_eq_true_eq]at h;rw[<-h];exact hk.bit
  ·rw[if_neg (by omega)];refine⟨w &&& e,rfl,OX hw,λi h=> ?_,λ_=>h0,λh=>by rw[h];exact Nat.and_zero w⟩
   rw[Nat.testBit_and,Bool.and_eq_true]at h;exact h.2
 have hWG:Xi g W:=λi hi=>he i (hWe i hi);have permits:∀(t:Nat),t≠0->t<4294967296->(∀i,t.testBit i=true->e.testBit i=true)->∀b,(if kind=1 then some (decide ((dV .u32 (t:Int) (wI .u32 ((t:Int) - 1)))=0))else if kind=2 then(Option.bind (gC 1000 r (t:Int)) λr7=>some r7)else if kind=4 then some (decide ((t:Int)=(e:Int)))else some true)=some b->fC 1000 r kind (e:Int) (t:Int)=some b:=by
  intro t h0 h32 hsub b hb;unfold fC kQ;have hd:Na t e=0:=by
   refine Nat.eq_of_testBit_eq λi=> ?_;rw[SL h32 he32,Nat.zero_testBit];cases h1:t.testBit i with
   |false=>rfl
   |true=>rw[hsub i h1];rfl
  rw[if_neg (by omega),Ux,hd,if_neg (by simp)];exact hb
 rw[hW];unfold iF;by_cases k1:kind=1
 ·rw[if_pos k1];by_cases hw0:W=0
  ·refine⟨0,by rw[hw0];rfl,λi h=>by simp at h,λh=>absurd hw0 (hW0 h)⟩
  ·obtain⟨k,hk⟩:=LA hw0;have hk32:=FY hW32 hk.bit;have hL:Sg (2^k) k:=⟨by rw[Nat.testBit_two_pow];simp,λj hj=>by rw[Nat.testBit_two_pow];exact decide_eq_false (by omega)⟩
   refine⟨2^k,by rw[abC hW32 hk],λi h=> ?_,λhee=>⟨Nat.ne_of_gt (Nat.pow_pos (by omega)),?_,λ_ v u hv hu hadj=> ?_,λh=>by omega⟩⟩
   ·rw[Nat.testBit_two_pow,decide_eq_true_eq]at h;rw[<-h];exact hWe k hk.bit
   ·refine permits _ (Nat.ne_of_gt (Nat.pow_pos (by omega))) (GX hk32) (λi h=> ?_) true ?_
    ·rw[Nat.testBit_two_pow,decide_eq_true_eq]at h;rw[<-h];exact hWe k hk.bit
    ·obtain⟨m',e1,e2,e3⟩:=Pg (GX hk32) hL;rw[if_pos k1,e1];have:m'=0:=Nat.eq_of_testBit_eq λi=>by
      rw[e3,Nat.testBit_two_pow,Nat.zero_testBit];by_cases q:k=i
      ·simp[q]
      ·simp[q]
     rw[this];rfl
   ·rw[Nat.testBit_two_pow,decide_eq_true_eq]at hv hu;subst hv;subst hu;obtain⟨i,hi,he⟩:=hadj;exact((hV.node k (hWG k hk.bit)).links i hi).2.1 he
 rw[if_neg k1];by_cases k2:kind=2
 ·rw[if_pos k2];obtain⟨t,h1,h2,h3,h4,h5⟩:=Nh hV hN hWG 1000 32 0 1000 W 0 (by omega) hW32 (by omega) (λi hi=>by omega) (λi h=>h) (λi h=>by simp at h) (λv u h=>by simp at h) (λ_=> .inr Z) (by omega);refine⟨t,h1,λi h=>hWe i (h3 i h),λhee=>⟨h5 (hW0 hee),?_,λ_=>h4,λh=>by omega⟩⟩
  refine permits t (h5 (hW0 hee)) h2 (λi h=>hWe i (h3 i h)) true ?_;rw[if_neg k1,if_pos k2,bD (Hf hV hN (λi h=>hWG i (h3 i h)) h4)]
 rw[if_neg k2];by_cases k4:kind=4
 ·rw[if_pos k4];refine⟨e,rfl,λi h=>h,λhee=>⟨hee,permits e hee he32 (λi h=>h) true ?_,λh=>by omega,λ_=>rfl⟩⟩
  rw[if_neg k1,if_neg k2,if_pos k4];simp
 ·rw[if_neg k4];refine⟨W,rfl,hWe,λhee=>⟨hW0 hee,permits W (hW0 hee) hW32 hWe true ?_,λh=>by omega,λh=>absurd h k4⟩⟩
  rw[if_neg k1,if_neg k2,if_neg k4]
end Go.Proofs.YtmdlcmbplnhdnaaGreatDoor
namespace Go.Proofs.YtmdlcmbplnhdnaaGreatDoor
open Go.Sx
def xG  (a:Int):Option (Int):=
 some (a)
def sS (c:aP) (a:fG) (b:iQ->Option (Int)):Option (Int):=
 if a.2<(List.length c:Int)then(ck (0<=a.2∧a.2<(List.length c:Int)) (b ((max a.1 (at' c a.2)),(wI .i64 (a.2+(1:Int))))))else(xG  (a.1))
def zB (U:Nat) (a:aP):Option (Int):=
 if(List.length a:Int)<(1:Int)then(none)else(ck (0<=(0:Int)∧(0:Int)<(List.length a:Int)) (bL (sS a) U ((at' a (0:Int)),(1:Int))))
theorem XZ:aR Tryz.prog 121:=Tryz.call121
theorem LY (U:Nat) {f:aP} (g:Value) (r:Int) (h:zB U f=some r):
  aV Tryz.prog 121 #[g] [Sl bM g f] (λx:Unit=>vI (r)) (λx l=>l) (λ_ l=>l):=by
 refine aV.of Tryz.func121 Z Tryz.ntmps121 Z λc=>?_;refine aT<|aD Z<|aM<|aJ<|aT<|aA Z<|jX (aE.fact 0 Z) Z<|dA Z<|aM ?_;refine fE h Z (λh=>?_) λh=>?_
 ·refine aQ ?_;cases h
 refine cU<|aT<|aA Z<|dO h λj h=>aC (bE Z Z (aE.fact 0 Z) Z Z j) Z<|aC (b_ Z (aE.fact 0 Z) Z Z Z dU j) Z<|aD Z<|aM<|aJ<|fU (λb=>xG  b=some r) (λb i=>[(3,vI (b))]) (λb i=>[]) ?_ ?_
 ·refine aT<|aD Z<|aM<|aU<|fD (sS f) (λa d=>[(0,g),(3,vI (a.1)),(4,vI (a.2))]) (λa d=>[]) ((at' f (0:Int)),(1:Int)) () h SF (aY.refl _) ?_;intro k a d h;refine aJ<|aT<|aA Z<|aA Z<|jX (aE.fact 0 Z) Z<|dA Z<|aM ?_;refine fE h Z (λh=>?_) λh=>?_
  ·refine cU<|aJ<|aU<|aQ<|aA Z<|aA Z<|aA Z<|dO h λe h=>aC (bE Z Z (aE.fact 0 Z) Z Z e) Z<|aC (b_ Z (aE.fact 0 Z) Z Z Z dU e) Z<|aC (Ic Z Z) Z<|aD Z<|eN<|oM<|aQ<|aA Z<|cQ Z<|aD Z<|aM ?_;exact AK ((max a.1 (at' f a.2)),(wI .i64 (a.2+(1:Int)))) () h SF Z
  refine fS ?_;exact jL (a.1) () h SF Z
 intro b i h;unfold xG at h;refine aT<|aA Z<|aD Z<|aM<|aS ?_;cases h;exact kW Z
def m_ (U:Nat) (a:Dl) (b:cE) (d:Int):Option iQ:=
 Option.bind (zB U b.1) λc=>(some (a.2.2.1,(wI .i64 ((wI .i64 (a.2.2.2.1+(wI .i64 (a.2.2.2.2.1*(List.length b.1:Int)))))+(wI .i64 (a.2.2.2.2.2*c))))))
theorem XY:aR Tryz.prog 120:=Tryz.call120
theorem FC (U:Nat) {a:Dl} {d:cE} {f:Int} (b:Value)  (e:Value)  (k:lA) (r:fG) (h:m_ U a d f=some r):
  aV Tryz.prog 120 #[Value.agg #[vS (a.1),vI (a.2.1),vI (a.2.2.1),vI (a.2.2.2.1),vI (a.2.2.2.2.1),vI (a.2.2.2.2.2)],Value.agg #[b,e],vI (f)] [Sl bM b d.1,S2 a_ e k d.2] (λx:Unit=>Value.tuple #[vI (r.1),vI (r.2)]) (λx l=>l) (λ_ l=>l):=by
 refine aV.of Tryz.func120 Z Tryz.ntmps120 Z λc=>?_;refine aT<|aG (aL.box (cs:=[vS (a.1),vI (a.2.1),vI (a.2.2.1),vI (a.2.2.2.1),vI (a.2.2.2.2.1),vI (a.2.2.2.2.2)]) Z Z) Z λm=>aG (aL.box (cs:=[b,e]) Z Z) Z λn=>aD Z<|aD Z<|aM<|aJ ?_;refine JR.start [0,1,0,4,0,16,0,64,192,496,1020,0,2048,0,8192,24576,63488,131068,57347,524287] 19 mixedOrders (by decide +kernel) ?_;refine JR.open (by exact rfl) ?_;refine cR Z<|gY 1 Z<|cR Z<|gY 1 Z<|cR Z<|gY 1 Z<|cR Z<|gY 0 Z<|bJ Z .nil (mE 0 Z) (iU Z (aE.fact 0 Z) Z) aO.z<|iD Z (AJ Z Z)<|iD Z (xY Z Z)<|cR Z<|gY 1 Z<|cR Z<|gY 0 Z<|eZ h λg i h=>JR.loud Z Z Z (aL.callQ XZ (LY U b g i) Z (nK [0] Z)) Z (λj=>(rY [([1],[]),([],[0]),([0],[]),([1],[]),([1],[]),([1],[])] Z)) λj=>iD Z (AJ Z Z)<|iD Z (xY Z Z)<|iD Z (mY Z)<|bR 19 Z Z<|aD Z<|aM<|aS ?_;cases h;exact mH () Z Z (RV.tmp Z) (RV.tmp Z) .nil aF.nil
def qB (U:Nat) (a:Dl) (b:cE) (c:Int):Option iQ:=
 some ((0:Int),(1:Int))
theorem X_:aR Tryz.prog 122:=Tryz.call122
theorem FD (U:Nat) {a:Dl} {b:cE} {f:Int} (d:Value)  (e:Value)  (g:lA) (r:fG) (h:qB U a b f=some r):
  aV Tryz.prog 122 #[Value.agg #[vS (a.1),vI (a.2.1),vI (a.2.2.1),vI (a.2.2.2.1),vI (a.2.2.2.2.1),vI (a.2.2.2.2.2)],Value.agg #[d,e],vI (f)] [Sl bM d b.1,S2 a_ e g b.2] (λx:Unit=>Value.tuple #[vI (r.1),vI (r.2)]) (λx l=>l) (λ_ l=>l):=by
 refine aV.of Tryz.func122 Z Tryz.ntmps122 Z λc=>?_;unfold qB at h;refine aT<|aG (aL.box (cs:=[vS (a.1),vI (a.2.1),vI (a.2.2.1),vI (a.2.2.2.1),vI (a.2.2.2.2.1),vI (a.2.2.2.2.2)]) Z Z) Z λi=>aG (aL.box (cs:=[d,e]) Z Z) Z λj=>aD Z<|aD Z<|aM<|aT<|aD Z<|aD Z<|aM<|aS ?_;cases h;exact mH () Z Z (RV.tmp Z) (RV.tmp Z) .nil aF.nil
def nA (U:Nat) (c:Dl) (b:cE) (a:Int):Option iQ:=
 ck (0<=a∧a<(List.length b.2:Int)) (some ((-1:Int),(wI .i64 ((List.length (at' b.2 a):Int) - (1:Int)))))
theorem Ya:aR Tryz.prog 123:=Tryz.call123
theorem FE (U:Nat) {a:Dl} {d:cE} {g:Int} (e:Value)  (f:Value)  (i:lA) (r:fG) (h:nA U a d g=some r):
  aV Tryz.prog 123 #[Value.agg #[vS (a.1),vI (a.2.1),vI (a.2.2.1),vI (a.2.2.2.1),vI (a.2.2.2.2.1),vI (a.2.2.2.2.2)],Value.agg #[e,f],vI (g)] [Sl bM e d.1,S2 a_ f i d.2] (λx:Unit=>Value.tuple #[vI (r.1),vI (r.2)]) (λx l=>l) (λ_ l=>l):=by
 refine aV.of Tryz.func123 Z Tryz.ntmps123 Z λc=>?_;refine aT<|aG (aL.box (cs:=[vS (a.1),vI (a.2.1),vI (a.2.2.1),vI (a.2.2.2.1),vI (a.2.2.2.2.1),vI (a.2.2.2.2.2)]) Z Z) Z λj=>aG (aL.box (cs:=[e,f]) Z Z) Z λk=>aD Z<|aD Z<|aM<|aJ ?_;refine JR.start [0,1,0,7,15,31,63,0,255] 8 mixedOrders (by decide +kernel) ?_;refine JR.open (by exact rfl) ?_;refine cR Z<|gY 0 Z<|bH Z<|dO h λb h=>bJ Z .nil (mE 1 Z) (c_ Z Z (aE.fact 0 Z) Z Z b) aO.z<|bJ Z .nil (mE 1 Z) (dB Z (aE.fact 0 Z) Z Z b) aO.z<|bJ Z .nil (mE 1 Z) (iU Z (aE.el (aE.fact 0 Z) b.1 b.2) Z) aO.z<|iD Z (pX Z Z)<|iD Z (mY Z)<|bR 8 Z Z<|aD Z<|aM<|aS ?_;cases h;exact mH () Z Z (RV.tmp Z) (RV.tmp Z) .nil aF.nil
def wQ  (a:Unit):Option iQ:=
 some ((0:Int),(-1:Int))
def lI (c:Int) (a:(Int)->Option iQ) (b:Unit):Option iQ:=
 a (wI .i64 (c+(1:Int)))
def d_ (U:Nat) (a:Dl) (d:cE) (h:Int) (b:Int) (c:(Int)->Option iQ):Option iQ:=
 if b<(List.length ([((1:Int),(120:Nat)),((2:Int),(122:Nat)),((3:Int),(123:Nat))]):Int)then(ck (0<=b∧b<(List.length ([((1:Int),(120:Nat)),((2:Int),(122:Nat)),((3:Int),(123:Nat))]):Int)) (if b=(0:Int)then(if(1:Int)=a.2.1 then(Option.bind (m_ U ((a.1,a.2.1,a.2.2.1,a.2.2.2.1,a.2.2.2.2.1,a.2.2.2.2.2)) ((d.1,d.2)) h) λe=>(some (e.1,e.2)))else(lI b c (())))else(if b=(1:Int)then(if(2:Int)=a.2.1 then(Option.bind (qB U ((a.1,a.2.1,a.2.2.1,a.2.2.2.1,a.2.2.2.2.1,a.2.2.2.2.2)) ((d.1,d.2)) h) λf=>(some (f.1,f.2)))else(lI b c (())))else(if(3:Int)=a.2.1 then(Option.bind (nA U ((a.1,a.2.1,a.2.2.1,a.2.2.2.1,a.2.2.2.2.1,a.2.2.2.2.2)) ((d.1,d.2)) h) λg=>(some (g.1,g.2)))else(lI b c (()))))))else(wQ  (()))
def jG (U:Nat) (a:Dl) (b:cE) (c:Int):Option iQ:=
 bL (d_ U a b c) U (0:Int)
theorem UK:aR Tryz.prog 93:=Tryz.call93
theorem Cf (U:Nat) {a:Dl} {p:cE} {m:Int} (g:Value)  (i:Value)  (y:lA) (r:fG) (h:jG U a p m=some r):
  aV Tryz.prog 93 #[Value.agg #[vS (a.1),vI (a.2.1),vI (a.2.2.1),vI (a.2.2.2.1),vI (a.2.2.2.2.1),vI (a.2.2.2.2.2)],Value.agg #[g,i],vI (m)] [Sl bM g p.1,S2 a_ i y p.2] (λx:Unit=>Value.tuple #[vI (r.1),vI (r.2)]) (λx l=>l) (λ_ l=>l):=by
 refine aV.of Tryz.func93 Z Tryz.ntmps93 Z λc=>?_;unfold jG at h;refine aT<|aG (aL.box (cs:=[vS (a.1),vI (a.2.1),vI (a.2.2.1),vI (a.2.2.2.1),vI (a.2.2.2.2.1),vI (a.2.2.2.2.2)]) Z Z) Z λt=>aG (aL.box (cs:=[g,i]) Z Z) Z λu=>aD Z<|aD Z<|aM<|aT ?_;refine aC (Br (r:=Value.agg #[vI (1:Int),Value.func (.func 120) #[] #[]]) Z Z (by intro w;simp[Instr.build,Instr.fill,dH,cW,cH,dJ,dK,cX,eI])) Z ?_;refine aC (Br (r:=Value.agg #[vI (2:Int),Value.func (.func 122) #[] #[]]) Z Z (by intro w;simp[Instr.build,Instr.fill,dH,cW,cH,dJ,dK,cX,eI])) Z ?_;refine aC (Br (r:=Value.agg #[vI (3:Int),Value.func (.func 123) #[] #[]]) Z Z (by intro w;simp[Instr.build,Instr.fill,dH,cW,cH,dJ,dK,cX,eI])) Z ?_;refine aG (bW (e:=Hn) ([(((1:Int),((120:Nat)))),(((2:Int),((122:Nat)))),(((3:Int),((123:Nat))))]) [(0,Value.agg #[vI (1:Int),Value.func (.func 120) #[] #[]]),(1,Value.agg #[vI (2:Int),Value.func (.func 122) #[] #[]]),(2,Value.agg #[vI (3:Int),Value.func (.func 123) #[] #[]])] Z Z Z Z (Vo (vI (1:Int)) (Value.func (.func 120) #[] #[]) (vI (2:Int)) (Value.func (.func 122) #[] #[]) (vI (3:Int)) (Value.func (.func 123) #[] #[])) Z Z Z) Z λv=>aD Z<|aM<|aJ<|fU (λs=>wQ  s=some r) (λs G=>[]) (λs G=>[]) ?_ ?_
 ·refine aT<|aA Z<|aC (iU Z (bG (aE.res 0 Z) Au) Z) Z<|aA Z<|aM<|aU<|fD (d_ U a p m) (λk H=>[(2,vI (m)),(3,vP t),(4,vP u),(15,v),(16,vI (List.length ([((1:Int),(120:Nat)),((2:Int),(122:Nat)),((3:Int),(123:Nat))]):Int)),(17,vI (k))]) (λk H=>[Ar Hn v ([((1:Int),(120:Nat)),((2:Int),(122:Nat)),((3:Int),(123:Nat))]),bV u [g,i] 29,bV t [vS (a.1),vI (a.2.1),vI (a.2.2.1),vI (a.2.2.2.1),vI (a.2.2.2.2.1),vI (a.2.2.2.2.2)] 71]) (0:Int) () h SF (aY.refl _) ?_;intro z k H h;refine aT<|dA Z<|aM<|aJ ?_;refine fE h Z (λh=>?_) λh=>?_
  ·refine cU<|aJ<|fU (λj=>lI k (bL (d_ U a p m) z) j=some r) (λj n=>[(2,vI (m)),(3,vP t),(4,vP u),(15,v),(16,vI (List.length ([((1:Int),(120:Nat)),((2:Int),(122:Nat)),((3:Int),(123:Nat))]):Int)),(17,vI (k))]) (λj n=>[Ar Hn v ([((1:Int),(120:Nat)),((2:Int),(122:Nat)),((3:Int),(123:Nat))]),bV u [g,i] 29,bV t [vS (a.1),vI (a.2.1),vI (a.2.2.1),vI (a.2.2.2.1),vI (a.2.2.2.2.1),vI (a.2.2.2.2.2)] 71]) ?_ ?_
   ·refine aU<|aT<|dO h λf h=>aC (bE Z Z (bG (aE.res 0 Z) Au) Z Z f) Z ?_;by_cases b:k=(0:Int)
    ·have h:=Ra b h;refine aC (h_ (cs:=[vI (1:Int),Value.func (.func 120) #[] #[]]) Z (bG (aE.res 0 Z) Au) Au (by rw[b];rfl) Z Z Z f) Z ?_;refine aG (aL.alloc (cs:=[vI (0:Int),Value.nilFunc]) Z Z) Z λI=>bN 0 (vs:=[vI (1:Int),Value.func (.func 120) #[] #[]]) Z Z Z Z Z Z<|aM<|aT<|bU Z<|dL 0 Z<|bU Z<|dL 3 Z<|cJ Z<|aM ?_;refine fE h Z (λh=>?_) λh=>?_
     ·refine aT<|bU Z<|dL 0 Z<|dW 3 Z<|dW 2 Z<|aA Z<|eZ h λA D h=>aG (uE (vs:=[Value.agg #[vS (a.1),vI (a.2.1),vI (a.2.2.1),vI (a.2.2.2.1),vI (a.2.2.2.2.1),vI (a.2.2.2.2.2)],Value.agg #[g,i],vI (m)]) (cs:=[]) XY Z (FC U g i y A D) Z (nK [0,1] Z) (λ_ _=>rfl)) Z λL=>g_ Z<|g_ Z<|aD Z<|aD Z<|aM<|aS<|bO<|aI<|aI<|bO<|aI ?_;cases h;exact mH () Z Z (RV.tmp Z) (RV.tmp Z) .nil aF.nil
     refine dX<|oM ?_;exact cV () (()) h SF (aY.ix [1,2,3] Z Z) (aF.refl _ _)
    have h:=ifN b h;by_cases d:k=(1:Int)
    ·have h:=Ra d h;refine aC (h_ (cs:=[vI (2:Int),Value.func (.func 122) #[] #[]]) Z (bG (aE.res 0 Z) Au) Au (by rw[d];rfl) Z Z Z f) Z ?_;refine aG (aL.alloc (cs:=[vI (0:Int),Value.nilFunc]) Z Z) Z λJ=>bN 0 (vs:=[vI (2:Int),Value.func (.func 122) #[] #[]]) Z Z Z Z Z Z<|aM<|aT<|bU Z<|dL 0 Z<|bU Z<|dL 3 Z<|cJ Z<|aM ?_;refine fE h Z (λh=>?_) λh=>?_
     ·refine aT<|bU Z<|dL 0 Z<|dW 3 Z<|dW 2 Z<|aA Z<|eZ h λB E h=>aG (uE (vs:=[Value.agg #[vS (a.1),vI (a.2.1),vI (a.2.2.1),vI (a.2.2.2.1),vI (a.2.2.2.2.1),vI (a.2.2.2.2.2)],Value.agg #[g,i],vI (m)]) (cs:=[]) X_ Z (FD U g i y B E) Z (nK [0,1] Z) (λ_ _=>rfl)) Z λM=>g_ Z<|g_ Z<|aD Z<|aD Z<|aM<|aS<|bO<|aI<|aI<|bO<|aI ?_;cases h;exact mH () Z Z (RV.tmp Z) (RV.tmp Z) .nil aF.nil
     refine dX<|oM ?_;exact cV () (()) h SF (aY.ix [1,2,3] Z Z) (aF.refl _ _)
    have h:=ifN d h;have o:k=(2:Int):=by have q:=f;simp only[List.length_cons,List.length_nil]at q;omega
    refine aC (h_ (cs:=[vI (3:Int),Value.func (.func 123) #[] #[]]) Z (bG (aE.res 0 Z) Au) Au (by rw[o];rfl) Z Z Z f) Z ?_;refine aG (aL.alloc (cs:=[vI (0:Int),Value.nilFunc]) Z Z) Z λK=>bN 0 (vs:=[vI (3:Int),Value.func (.func 123) #[] #[]]) Z Z Z Z Z Z<|aM<|aT<|bU Z<|dL 0 Z<|bU Z<|dL 3 Z<|cJ Z<|aM ?_;refine fE h Z (λh=>?_) λh=>?_
    ·refine aT<|bU Z<|dL 0 Z<|dW 3 Z<|dW 2 Z<|aA Z<|eZ h λC F h=>aG (uE (vs:=[Value.agg #[vS (a.1),vI (a.2.1),vI (a.2.2.1),vI (a.2.2.2.1),vI (a.2.2.2.2.1),vI (a.2.2.2.2.2)],Value.agg #[g,i],vI (m)]) (cs:=[]) Ya Z (FE U g i y C F) Z (nK [0,1] Z) (λ_ _=>rfl)) Z λN=>g_ Z<|g_ Z<|aD Z<|aD Z<|aM<|aS<|bO<|aI<|aI<|bO<|aI ?_;cases h;exact mH () Z Z (RV.tmp Z) (RV.tmp Z) .nil aF.nil
    refine dX<|oM ?_;exact cV () (()) h SF (aY.ix [1,2,3] Z Z) (aF.refl _ _)
   intro j n h;unfold lI at h;refine aQ<|cQ Z<|aA Z<|aM ?_;exact AK (wI .i64 (k+(1:Int))) () h SF Z
  refine fS ?_;exact cV () (()) h SF .nil (aF.refl _ _)
 intro s G h;unfold wQ at h;refine aT<|aD Z<|aD Z<|aM<|aS ?_;cases h;exact mH () Z Z (RV.tmp Z) (RV.tmp Z) (aY.refl _) aF.nil
def sZ  (a:eY):Option (eY):=
 some (a)
def s_ (b:Int×eY) (a:(Int×eY)->Option (eY)) (c:eY):Option (eY):=
 a ((wI .i64 (b.1+(1:Int))),c)
def mQ (U:Nat) (d:wC) (g:cE) (b:Int×eY) (e:(Int×eY)->Option (eY)) (a:Int×eY) (f:(Int×eY)->Option (eY)):Option (eY):=
 if a.1<(List.length d.2.1:Int)then(ck (0<=a.1∧a.1<(List.length d.2.1:Int)) (ck (0<=b.1∧b.1<(List.length a.2:Int)) (ck (0<=b.1∧b.1<(List.length a.2:Int)) (Option.bind (jG U ((((at' d.2.1 a.1).1),((at' d.2.1 a.1).2.1),((at' d.2.1 a.1).2.2.1),((at' d.2.1 a.1).2.2.2.1),((at' d.2.1 a.1).2.2.2.2.1),((at' d.2.1 a.1).2.2.2.2.2))) ((g.1,g.2)) b.1) λc=>(ck (0<=a.1∧a.1<(List.length (at' a.2 b.1):Int)) (ck (0<=a.1∧a.1<(List.length (at' (List.set a.2 (Int.toNat b.1) (List.set (at' a.2 b.1) (Int.toNat a.1) (c.1,((at' (at' a.2 b.1) a.1).2)))) b.1):Int)) (f ((wI .i64 (a.1+(1:Int))),(List.set (List.set a.2 (Int.toNat b.1) (List.set (at' a.2 b.1) (Int.toNat a.1) (c.1,((at' (at' a.2 b.1) a.1).2)))) (Int.toNat b.1) (List.set (at' (List.set a.2 (Int.toNat b.1) (List.set (at' a.2 b.1) (Int.toNat a.1) (c.1,((at' (at' a.2 b.1) a.1).2)))) b.1) (Int.toNat a.1) (((at' (at' (List.set a.2 (Int.toNat b.1) (List.set (at' a.2 b.1) (Int.toNat a.1) (c.1,((at' (at' a.2 b.1) a.1).2)))) b.1) a.1).1),c.2)))))))))))else(s_ b e (a.2))
def kU (U:Nat) (c:wC) (d:cE) (a:Int×eY) (b:(Int×eY)->Option (eY)):Option (eY):=
 if a.1<(List.length (List.replicate (Int.toNat (List.length d.1:Int)) ([]:eS)):Int)then(ck (0<=(List.length c.2.1:Int)∧(List.length c.2.1:Int)<=1099511627) (ck (0<=a.1∧a.1<(List.length a.2:Int)) (bL (mQ U c d a b) U ((0:Int),(List.set a.2 (Int.toNat a.1) (List.replicate (Int.toNat (List.length c.2.1:Int)) ((0:Int),(0:Int))))))))else(sZ  (a.2))
def i_ (U:Nat) (b:wC) (a:cE):Option (eY):=
 ck (0<=(List.length a.1:Int)∧(List.length a.1:Int)<=1099511627) (bL (kU U b a) U ((0:Int),(List.replicate (Int.toNat (List.length a.1:Int)) ([]:eS))))
theorem Pf:aR Tryz.prog 67:=Tryz.call67
theorem Ai (U:Nat) {d:wC} {q:cE} (v:Value)  (y:Value)  (A:Value)  (C:Value)  (z4:lA) (r:eY) (h:i_ U d q=some r):
  aV Tryz.prog 67 #[Value.agg #[vS (d.1),v,y],Value.agg #[A,C]] [Sl aK v d.2.1,Sl aH y d.2.2,PF (Value.agg #[vS d.1,v,y]),Sl bM A q.1,S2 a_ C z4 q.2] (λx:Jq=>x.1) (λx l=>Ar cT.raw x.1 x.2::kF bZ x.2 r::l) (λ_ l=>l):=by
 refine aV.of Tryz.func67 Z Tryz.ntmps67 Z λc=>?_;refine aT<|aG (aL.box (cs:=[vS (d.1),v,y]) Z Z) Z λD=>aG (aL.box (cs:=[A,C]) Z Z) Z λE=>aD Z<|aM<|aT<|bU Z<|dL 0 Z<|jX (aE.fact 3 Z) Z<|dO h λj3 h=>iW (uF bZ (Int.toNat (List.length q.1:Int)))<|aG (pC (e:=cT.raw) (kE) Z Z Z Z j3 Z Z Z) Z λu=>aD Z<|aM<|aJ<|Cr (B:=eW) (λF=>sZ  F=some r) (λF H=>[(5,u)]) (λF H=>[Ar cT.raw u H,kF bZ H F]) ?_ ?_
 ·refine aT<|aA Z<|aC (iX Z (bT (i:=0) (j:=1) Z Z bQ) Z) Z<|aA Z<|aM<|aU<|fD (B:=eW) (kU U d q) (λb m=>[(2,vP D),(3,vP E),(5,u),(14,vI (List.length (List.replicate (Int.toNat (List.length q.1:Int)) ([]:eS)):Int)),(15,vI (b.1))]) (λb m=>[Ar cT.raw u m,kF bZ m b.2,bV E [A,C] 29,bV D [vS (d.1),v,y] 60]) ((0:Int),(List.replicate (Int.toNat (List.length q.1:Int)) ([]:eS))) (List.replicate (Int.toNat (List.length q.1:Int)) (kE)) h SF (aY.refl _) ?_;intro S b m h;refine aT<|dA Z<|aM<|aJ ?_;refine fE h Z (λh=>?_) λh=>?_
  ·refine cU<|aJ<|Cr (B:=eW) (λp=>s_ b (bL (kU U d q) S) p=some r) (λp s=>[(2,vP D),(3,vP E),(5,u),(14,vI (List.length (List.replicate (Int.toNat (List.length q.1:Int)) ([]:eS)):Int)),(15,vI (b.1))]) (λp s=>[Ar cT.raw u s,kF bZ s p,bV E [A,C] 29,bV D [vS (d.1),v,y] 60]) ?_ ?_
   ·refine aU<|aT<|aA Z<|aD Z<|aM<|aT<|aA Z<|aA Z<|bU Z<|dL 3 Z<|jX (aE.fact 0 Z) Z<|dO h λT h=>aG (pC (e:=bZ) (((0:Int),(0:Int))) Z Z Z Z T Z Z Z) Z λw=>dO h λt h=>aC (c_ Z Z (bT (i:=1) (j:=2) Z Z bQ) Z Z t) Z<|bX (Know.one ((bG (aE.res 0 Z) bQ))) λO=>iW (wN (k:=b.1) 2 0 Z Z Z t) ?_;refine nF 0 1 ⟨t.1,by first|exact t.2|simpa using t.2⟩ Z Z Z Z Z (by simp) O Z ?_;refine aM<|aT<|bU Z<|dL 3 Z<|jX (aE.fact 0 Z) Z<|aA Z<|aM<|aU<|fD (mQ U d q b (bL (kU U d q) S)) (λa G=>[(2,vP D),(3,vP E),(5,u),(6,vI (b.1)),(14,vI (List.length (List.replicate (Int.toNat (List.length q.1:Int)) ([]:eS)):Int)),(15,vI (b.1)),(26,v),(27,vI (List.length d.2.1:Int)),(28,vI (a.1))]) (λa G=>[Ar cT.raw u (List.set m (Int.toNat b.1) w),kF bZ (List.set m (Int.toNat b.1) w) a.2,bV E [A,C] 29,bV D [vS (d.1),v,y] 60]) ((0:Int),(List.set b.2 (Int.toNat b.1) (List.replicate (Int.toNat (List.length d.2.1:Int)) ((0:Int),(0:Int))))) () h SF (aY.refl _) ?_;intro ac a G h;refine aT<|dA Z<|aM<|aJ ?_;refine fE h Z (λh=>?_) λh=>?_
    ·refine cU<|aJ<|aU<|aT<|aA Z<|dO h λP h=>aC (bE Z Z (aE.fact 0 Z) Z Z P) Z<|aC (h_ (cs:=[vS ((at' d.2.1 a.1).1),vI ((at' d.2.1 a.1).2.1),vI ((at' d.2.1 a.1).2.2.1),vI ((at' d.2.1 a.1).2.2.2.1),vI ((at' d.2.1 a.1).2.2.2.2.1),vI ((at' d.2.1 a.1).2.2.2.2.2)]) Z (aE.fact 0 Z) gO Z Z Z Z P) Z<|aG (aL.alloc (cs:=vD3) Z Z) Z λab=>aD Z<|bN 0 (vs:=[vS ((at' d.2.1 a.1).1),vI ((at' d.2.1 a.1).2.1),vI ((at' d.2.1 a.1).2.2.1),vI ((at' d.2.1 a.1).2.2.2.1),vI ((at' d.2.1 a.1).2.2.2.2.1),vI ((at' d.2.1 a.1).2.2.2.2.2)]) Z Z Z Z Z Z<|aM ?_;refine JR.start [0,0,3,7,0,0,0,96,224,0,0,0,0,7168,15360,31744,31744,31,196095,458239,992,2097151,4194303] 21 mixedOrders (by decide +kernel) ?_;refine JR.open (by exact rfl) ?_;refine bH Z<|bH Z<|dO h λn h=>dG (cZ 2 Z) λI=>?_;refine bJ Z (aY.cons 1 Z .nil) .nil (gM 0 Z Z Z Z Z n.1 (by have V:=n.2;have W:=I;(try simp only[List.length_set]at V);(try simp only[List.length_set]at W);(try simp only[List.length_set]);omega)) aO.z ?_;refine dG (cZ 2 Z) λJ=>bJ Z (aY.cons 1 Z .nil) .nil (kP 0 Z Z J Z Z n) aO.z<|bH Z<|bH Z<|bH Z<|dO h λg h=>dG (cZ 2 Z) λK=>?_;refine bJ Z (aY.cons 1 Z .nil) .nil (gM 0 Z Z Z Z Z g.1 (by have V:=g.2;have W:=K;(try simp only[List.length_set]at V);(try simp only[List.length_set]at W);(try simp only[List.length_set]);omega)) aO.z ?_;refine dG (cZ 2 Z) λL=>bJ Z (aY.cons 1 Z .nil) .nil (kP 0 Z Z L Z Z g) aO.z<|bH Z<|kS 0 Z<|kS 3 Z<|bH Z<|eZ h λf X h=>JR.loud Z Z Z (aL.callQ UK (Cf U A C z4 f X) Z (nK [3,4] Z)) Z (λY=>(rY [([1],[]),([1],[]),([1],[]),([1],[])] Z)) λY=>iD Z (iY Z)<|iD Z (oB Z Z)<|iD Z (oB Z Z)<|dO h λQ h=>dG (Know.len (aE.row (j:=2) Z bQ n.1 n.2)) λM=>iD Z (MK Z Z M Z Z Q) ?_;refine iD Z (Dt (i:=0) Z Z Z Z Z (by decide)) ?_;refine Cw Z Z Z (Cz (us:=[vI (f.1)]) (o:=0) (k:=b.1) 2 ((f.1,((at' (at' a.2 b.1) a.1).2))) ⟨n.1,by first|exact n.2|simpa using n.2⟩ Q Z Z Z Z Z Z Z Z Z Z) (λaa=>(rY [] Z)) λaa=>dO h λR h=>dG (Know.len (aE.row (j:=2) Z bQ g.1 (by first|exact g.2|simpa using g.2))) λN=>?_;refine iD Z (MK Z Z N Z Z R)<|bR 21 Z Z ?_;refine aC (Dt (i:=1) Z Z Z Z Z (by decide)) Z ?_;refine Qk (Cz (us:=[vI (f.2)]) (o:=1) (k:=b.1) 2 ((((at' (at' (List.set a.2 (Int.toNat b.1) (List.set (at' a.2 b.1) (Int.toNat a.1) (f.1,((at' (at' a.2 b.1) a.1).2)))) b.1) a.1).1),f.2)) ⟨g.1,by first|exact g.2|simpa using g.2⟩ R Z Z Z Z Z Z Z Z Z Z) λad=>eN<|oM<|aQ<|cQ Z<|aA Z<|aM ?_;exact lM ((wI .i64 (a.1+(1:Int))),(List.set (List.set a.2 (Int.toNat b.1) (List.set (at' a.2 b.1) (Int.toNat a.1) (f.1,((at' (at' a.2 b.1) a.1).2)))) (Int.toNat b.1) (List.set (at' (List.set a.2 (Int.toNat b.1) (List.set (at' a.2 b.1) (Int.toNat a.1) (f.1,((at' (at' a.2 b.1) a.1).2)))) b.1) (Int.toNat a.1) (((at' (at' (List.set a.2 (Int.toNat b.1) (List.set (at' a.2 b.1) (Int.toNat a.1) (f.1,((at' (at' a.2 b.1) a.1).2)))) b.1) a.1).1),f.2)))) () h SF (aY.ix [1,2,3,4] Z Z) (aF.refl _ _)
    refine uV<|gK<|gK<|Av<|oM ?_;exact jL (a.2) (List.set m (Int.toNat b.1) w) h SF Z
   intro p s h;unfold s_ at h;refine aQ<|cQ Z<|aA Z<|aM ?_;exact AK ((wI .i64 (b.1+(1:Int))),p) (s) h SF Z
  refine fS ?_;exact cV (b.2) (m) h SF (aY.ix [0,1] Z Z) (aF.refl _ _)
 intro F H h;unfold sZ at h;refine aT<|aA Z<|aD Z<|aM<|aS ?_;cases h;exact gJ (u,H) Z Z (RV.tmp Z) (aY.refl _) aF.nil
def vE  (a:Unit):Option (Int):=
 some (0:Int)
def oG (b:Int) (a:(Int)->Option (Int)) (c:Unit):Option (Int):=
 a (wI .i64 (b+(1:Int)))
def vF (b:Int) (a:(Int)->Option (Int)) (c:Bool):Option (Int):=
 if c=true then(some (9:Int))else(oG b a (()))
def lP (U:Nat) (c:wC) (e:cE) (a:Int) (b:(Int)->Option (Int)):Option (Int):=
 if a<(List.length c.2.1:Int)then(ck (0<=a∧a<(List.length c.2.1:Int)) (if((at' c.2.1 a).2.1)≠(1:Int)then(oG a b (()))else(Option.bind (jG U ((((at' c.2.1 a).1),((at' c.2.1 a).2.1),((at' c.2.1 a).2.2.1),((at' c.2.1 a).2.2.2.1),((at' c.2.1 a).2.2.2.2.1),((at' c.2.1 a).2.2.2.2.2))) ((e.1,e.2)) (0:Int)) λd=>(if d.2<d.1 then(vF a b (true))else(vF a b (decide ((4096:Int)<(wI .i64 ((wI .i64 (d.2 - d.1))+(1:Int))))))))))else(vE  (()))
def sM (U:Nat) (a:wC) (b:cE):Option (Int):=
 Option.bind (AQ U ((a.1,a.2.1,a.2.2))) λc=>(if(!c)=true then(some (8:Int))else(Option.bind (gG U ((b.1,b.2))) λd=>(if(!d)=true then(some (1:Int))else(bL (lP U a b) U (0:Int)))))
theorem aaU:aR Tryz.prog 90:=Tryz.call90
theorem JD (U:Nat) {b:wC} {n:cE} (g:Value)  (v:Value)  (i:Value)  (j:Value)  (y:lA) (r:Int) (h:sM U b n=some r):
  aV Tryz.prog 90 #[Value.agg #[vS (b.1),g,v],Value.agg #[i,j]] [Sl aK g b.2.1,Sl aH v b.2.2,PF (Value.agg #[vS b.1,g,v]),Sl bM i n.1,S2 a_ j y n.2] (λx:Unit=>vI (r)) (λx l=>l) (λ_ l=>l):=by
 refine aV.of Tryz.func90 Z Tryz.ntmps90 Z λc=>?_;refine aT<|aG (aL.box (cs:=[vS (b.1),g,v]) Z Z) Z λF=>aG (aL.box (cs:=[i,j]) Z Z) Z λm=>aD Z<|aM<|aJ<|aT<|dW 1 Z<|eZ h λA C h=>aG (aL.callQ QB (JI U g v A C) Z (nK [0,1,2] Z)) Z λG=>aC (sK Z) Z<|aM ?_;refine A_ h Z (λ_ h=>?_) λ_ h=>?_
 ·refine aT<|aD Z<|aM<|aS<|aI ?_;cases h;exact uU Z
 refine cU<|aJ<|aT<|dW 0 Z<|eZ h λB D h=>aG (aL.callQ Lg (xI U i j y B D) Z (nK [3,4] Z)) Z λH=>aC (sK Z) Z<|aM ?_;refine A_ h Z (λ_ h=>?_) λ_ h=>?_
 ·refine aT<|aD Z<|aM<|aS<|aI ?_;cases h;exact uU Z
 refine cU<|aJ<|fU (λe=>vE  e=some r) (λe o=>[]) (λe o=>[]) ?_ ?_
 ·refine aT<|bU Z<|dL 1 Z<|jX (aE.fact 0 Z) Z<|aA Z<|aM<|aU<|fD (lP U b n) (λa p=>[(3,vP m),(16,g),(17,vI (List.length b.2.1:Int)),(18,vI (a))]) (λa p=>[bV m [i,j] 29]) (0:Int) () h SF (aY.ix [0] Z Z) ?_;intro u a p h;refine aT<|dA Z<|aM<|aJ ?_;refine fE h Z (λh=>?_) λh=>?_
  ·refine cU<|aJ<|fU (λf=>oG a (bL (lP U b n) u) f=some r) (λf q=>[(3,vP m),(16,g),(17,vI (List.length b.2.1:Int)),(18,vI (a))]) (λf q=>[bV m [i,j] 29]) ?_ ?_
   ·refine aU<|aT<|dO h λt h=>aC (bE Z Z (aE.fact 0 Z) Z Z t) Z<|aC (h_ (cs:=[vS ((at' b.2.1 a).1),vI ((at' b.2.1 a).2.1),vI ((at' b.2.1 a).2.2.1),vI ((at' b.2.1 a).2.2.2.1),vI ((at' b.2.1 a).2.2.2.2.1),vI ((at' b.2.1 a).2.2.2.2.2)]) Z (aE.fact 0 Z) gO Z Z Z Z t) Z<|aG (aL.alloc (cs:=vD3) Z Z) Z λz=>bN 0 (vs:=[vS ((at' b.2.1 a).1),vI ((at' b.2.1 a).2.1),vI ((at' b.2.1 a).2.2.1),vI ((at' b.2.1 a).2.2.2.1),vI ((at' b.2.1 a).2.2.2.2.1),vI ((at' b.2.1 a).2.2.2.2.2)]) Z Z Z Z Z Z<|aM<|aJ<|aT<|bU Z<|dL 0 Z<|qD Z<|aM ?_;refine fE h Z (λh=>?_) λh=>?_
    ·refine uV<|gK<|Av<|Aw ?_;exact cV () (()) h SF (aY.ix [1] Z Z) (aF.refl _ _)
    refine cU<|aT<|dW 0 Z<|dW 1 Z<|eZ h λk w h=>aG (aL.callQ UK (Cf U i j y k w) Z (nK [3,4] Z)) Z λE=>aA Z<|g_ Z<|g_ Z<|aD Z<|aD Z<|aM<|aJ<|fU (λd=>vF a (bL (lP U b n) u) d=some r) (λd s=>[(3,vP m),(16,g),(17,vI (List.length b.2.1:Int)),(18,vI (a)),(40,vB (d))]) (λd s=>[bV m [i,j] 29]) ?_ ?_
    ·refine aQ<|aA Z<|aA Z<|dA Z<|aA Z ?_;refine Es h Z (λ_ h=>?_) λ_ h=>?_
     ·refine aN Z<|aN Z<|aN Z<|aN Z<|aN Z<|fF Z<|aM ?_;exact cV (true) () h SF (aY.ix [1] Z Z) (aF.refl _ _)
     refine e_ Z<|e_ Z<|aX Z (pX Z Z) Z<|aX Z (xY Z Z) Z<|aX Z (xP Z Z) Z<|iP Z<|aM ?_;exact cV (decide ((4096:Int)<(wI .i64 ((wI .i64 (k.2 - k.1))+(1:Int))))) () h SF (aY.ix [1] Z Z) (aF.refl _ _)
    intro d s h;refine A_ h Z (λ_ h=>?_) λ_ h=>?_
    ·refine aT<|aD Z<|aM<|aS<|bO<|aI<|aI<|bO<|aI ?_;cases h;exact uU Z
    refine dX<|oM ?_;exact jL () (()) h SF Z
   intro f q h;unfold oG at h;refine aQ<|cQ Z<|aA Z<|aM ?_;exact AK (wI .i64 (a+(1:Int))) () h SF Z
  refine fS ?_;exact cV () (()) h SF .nil (aF.refl _ _)
 intro e o h;unfold vE at h;refine aT<|aD Z<|aM<|aS ?_;cases h;exact kW Z
def tG  (a:Unit):Option (Bool):=
 some (true)
def tH (c:Int) (b:(Int)->Option (Bool)) (a:Bool):Option (Bool):=
 if a=true then(some (false))else(b (wI .i64 (c+(1:Int))))
def mT (c:eS) (d:aP) (a:Int) (b:(Int)->Option (Bool)):Option (Bool):=
 if a<(List.length d:Int)then(ck (0<=a∧a<(List.length d:Int)) (ck (0<=a∧a<(List.length c:Int)) (if(at' d a)<((at' c a).1)then(tH a b (true))else(ck (0<=a∧a<(List.length c:Int)) (tH a b (decide (((at' c a).2)<(at' d a))))))))else(tG  (()))
def vO (U:Nat) (a:eS) (b:aP):Option (Bool):=
 if(List.length b:Int)≠(List.length a:Int)then(some (false))else(bL (mT a b) U (0:Int))
theorem XX:aR Tryz.prog 119:=Tryz.call119
theorem Jf (U:Nat) {k:eS} {d:aP} (n:Value)  (o:Value) (r:Bool) (h:vO U k d=some r):
  aV Tryz.prog 119 #[n,o] [Sl a_ n k,Sl bM o d] (λx:Unit=>vB (r)) (λx l=>l) (λ_ l=>l):=by
 refine aV.of Tryz.func119 Z Tryz.ntmps119 Z λc=>?_;refine aT<|aD Z<|aM<|aJ<|aT<|aA Z<|jX (aE.fact 1 Z) Z<|aA Z<|jX (aE.fact 0 Z) Z<|qD Z<|aM ?_;refine fE h Z (λh=>?_) λh=>?_
 ·refine aT<|aD Z<|aM<|aS<|aI ?_;cases h;exact kW Z
 refine cU<|aJ<|fU (λm=>tG  m=some r) (λm p=>[]) (λm p=>[]) ?_ ?_
 ·refine aT<|aA Z<|jX (aE.fact 1 Z) Z<|aA Z<|aM<|aU<|fD (mT k d) (λb q=>[(0,n),(12,o),(13,vI (List.length d:Int)),(14,vI (b))]) (λb q=>[]) (0:Int) () h SF (aY.refl _) ?_;intro s b q h;refine aT<|dA Z<|aM<|aJ ?_;refine fE h Z (λh=>?_) λh=>?_
  ·refine cU<|aJ<|aU<|aT<|aA Z<|dO h λf h=>aC (bE Z Z (aE.fact 1 Z) Z Z f) Z<|aC (b_ Z (aE.fact 1 Z) Z Z Z dU f) Z<|aD Z<|aD Z<|aM<|aJ<|fU (λa=>tH b (bL (mT k d) s) a=some r) (λa e=>[(0,n),(12,o),(13,vI (List.length d:Int)),(14,vI (b)),(34,vB (a))]) (λa e=>[]) ?_ ?_
   ·refine aQ<|aA Z<|aA Z<|aA Z<|dO h λg h=>aC (bE Z Z (aE.fact 0 Z) Z Z g) Z ?_;refine aC (Dt (i:=0) Z Z Z Z Z (by decide)) Z ?_;refine aC (p_ Z (aE.fact 0 Z) Z Z Z Bo g) Z<|dA Z<|aA Z ?_;refine Es h Z (λ_ h=>?_) λ_ h=>?_
    ·refine aN Z<|aN Z<|aN Z<|aN Z<|aN Z<|aN Z<|aN Z<|fF Z<|aM ?_;exact jL (true) () h SF Z
    refine e_ Z<|e_ Z<|e_ Z<|dO h λj h=>aX Z (bE Z Z (aE.fact 0 Z) Z Z j) Z ?_;refine aX Z (Dt (i:=1) Z Z Z Z Z (by decide)) Z ?_;refine aX Z (p_ Z (aE.fact 0 Z) Z Z Z ON j) Z<|aX Z (xP Z Z) Z<|iP Z<|aM ?_;exact jL (decide (((at' k b).2)<(at' d b))) () h SF Z
   intro a e h;refine A_ h Z (λ_ h=>?_) λ_ h=>?_
   ·refine aT<|aD Z<|aM<|aS<|bO<|aI<|aI<|bO<|aI ?_;cases h;exact kW Z
   refine dX<|oM<|aQ<|cQ Z<|aA Z<|aM ?_;exact AK (wI .i64 (b+(1:Int))) () h SF Z
  refine fS ?_;exact jL () (()) h SF Z
 intro m p h;unfold tG at h;refine aT<|aD Z<|aM<|aS ?_;cases h;exact kW Z
def rO  (a:Unit):Option (Bool):=
 some (true)
def oS (U:Nat) (c:eY) (e:bA) (a:Int) (b:(Int)->Option (Bool)):Option (Bool):=
 if a<(List.length c:Int)then(ck (0<=a∧a<(List.length c:Int)) (ck (0<=a∧a<(List.length e:Int)) (Option.bind (vO U (at' c a) (at' e a)) λd=>(if(!d)=true then(some (false))else(b (wI .i64 (a+(1:Int))))))))else(rO  (()))
def tF (U:Nat) (a:eY) (b:bA):Option (Bool):=
 if(List.length b:Int)≠(List.length a:Int)then(some (false))else(bL (oS U a b) U (0:Int))
theorem aaV:aR Tryz.prog 91:=Tryz.call91
theorem Hk (U:Nat) {f:eY} {g:bA} (j:Value)  (p:lA)  (k:Value)  (q:qE) (r:Bool) (h:tF U f g=some r):
  aV Tryz.prog 91 #[j,k] [S2 a_ j p f,S2 bM k q g] (λx:Unit=>vB (r)) (λx l=>l) (λ_ l=>l):=by
 refine aV.of Tryz.func91 Z Tryz.ntmps91 Z λc=>?_;refine aT<|aD Z<|aM<|aJ<|aT<|aA Z<|aC (iX Z (aE.fact 1 Z) Z) Z<|aA Z<|aC (iX Z (aE.fact 0 Z) Z) Z<|qD Z<|aM ?_;refine fE h Z (λh=>?_) λh=>?_
 ·refine aT<|aD Z<|aM<|aS<|aI ?_;cases h;exact kW Z
 refine cU<|aJ<|fU (λe=>rO  e=some r) (λe n=>[]) (λe n=>[]) ?_ ?_
 ·refine aT<|aA Z<|aC (iX Z (aE.fact 0 Z) Z) Z<|aA Z<|aM<|aU<|fD (oS U f g) (λd o=>[(1,k),(12,j),(13,vI (List.length f:Int)),(14,vI (d))]) (λd o=>[]) (0:Int) () h SF (aY.refl _) ?_;intro t d o h;refine aT<|dA Z<|aM<|aJ ?_;refine fE h Z (λh=>?_) λh=>?_
  ·refine cU<|aJ<|aU<|aT<|aA Z<|dO h λa h=>aC (c_ Z Z (aE.fact 0 Z) Z Z a) Z<|aC (dB Z (aE.fact 0 Z) Z Z a) Z<|aD Z<|aD Z<|aM<|aT<|aA Z<|aA Z<|aA Z<|dO h λb h=>aC (c_ Z Z (aE.fact 1 Z) Z Z b) Z<|aC (dB Z (aE.fact 1 Z) Z Z b) Z<|eZ h λi m h=>aG (aL.callQ XX (Jf U ((at' p d).1) ((at' q d).1) i m) Z (aF.cons (aE.el (aE.fact 0 Z) a.1 a.2) (aF.cons (aE.el (aE.fact 1 Z) b.1 b.2) .nil))) Z λs=>aC (sK Z) Z<|aM ?_;refine A_ h Z (λ_ h=>?_) λ_ h=>?_
   ·refine aT<|aD Z<|aM<|aS<|bO<|aI<|aI<|bO<|aI ?_;cases h;exact kW Z
   refine dX<|oM<|aQ<|cQ Z<|aA Z<|aM ?_;exact AK (wI .i64 (d+(1:Int))) () h SF Z
  refine fS ?_;exact jL () (()) h SF Z
 intro e n h;unfold rO at h;refine aT<|aD Z<|aM<|aS ?_;cases h;exact kW Z
def lZ (U:Nat) (a:wC) (b:cE) (e:bA):Option (Int):=
 Option.bind (sM U ((a.1,a.2.1,a.2.2)) ((b.1,b.2))) λd=>(if d≠(0:Int)then(some (d))else(Option.bind (i_ U ((a.1,a.2.1,a.2.2)) ((b.1,b.2))) λf=>(Option.bind (tF U f e) λc=>(if(!c)=true then(some (10:Int))else(some (0:Int))))))
theorem UG:aR Tryz.prog 65:=Tryz.call65
theorem Di (U:Nat) {a:wC} {g:cE} {p:bA} (b:Value)  (d:Value)  (e:Value)  (f:Value)  (o:lA)  (m:Value)  (t:qE) (r:Int) (h:lZ U a g p=some r):
  aV Tryz.prog 65 #[Value.agg #[vS (a.1),b,d],Value.agg #[e,f],m] [Sl aK b a.2.1,Sl aH d a.2.2,PF (Value.agg #[vS a.1,b,d]),Sl bM e g.1,S2 a_ f o g.2,S2 bM m t p] (λx:Unit=>vI (r)) (λx l=>l) (λ_ l=>l):=by
 refine aV.of Tryz.func65 Z Tryz.ntmps65 Z λc=>?_;refine aT<|aG (aL.box (cs:=[vS (a.1),b,d]) Z Z) Z λz=>aG (aL.box (cs:=[e,f]) Z Z) Z λA=>aD Z<|aM<|aJ<|aT<|dW 1 Z<|dW 0 Z<|eZ h λu v h=>aG (aL.callQ aaU (JD U b d e f o u v) Z (nK [0,1,2,3,4] Z)) Z λB=>aD Z<|aM<|aT<|aA Z<|qD Z<|aM ?_;refine fE h Z (λh=>?_) λh=>?_
 ·refine aT<|aA Z<|aD Z<|aM<|aS<|aI ?_;cases h;exact uU Z
 refine cU<|aJ<|aT<|dW 1 Z<|dW 0 Z<|eZ h λq w h=>aG (aL.callQ Pf (Ai U b d e f o q w) Z (nK [0,1,2,3,4] Z)) Z λs=>aA Z<|eZ h λk n h=>aG (aL.callQ aaV (Hk U s.1 (List.zip s.2 q) m t k n) Z (aF.cons (bT (i:=0) (j:=1) Z Z bQ) (nK [5] Z))) Z λy=>aC (sK Z) Z<|aM ?_;refine A_ h Z (λ_ h=>?_) λ_ h=>?_
 ·refine aT<|aD Z<|aM<|aS<|aI ?_;cases h;exact uU Z
 refine cU<|aT<|aD Z<|aM<|aS ?_;cases h;exact uU Z
def vV  (a:bA):Option bA:=
 some (a)
def qV (c:bA) (a:Int×bA) (b:(Int×bA)->Option bA):Option bA:=
 if a.1<(List.length c:Int)then(ck (0<=a.1∧a.1<(List.length c:Int)) (ck ((List.length ([]:aP):Int)+(List.length (at' c a.1):Int)<=1099511627) (ck (0<=a.1∧a.1<(List.length a.2:Int)) (b ((wI .i64 (a.1+(1:Int))),(List.set a.2 (Int.toNat a.1) (([]:aP)++(at' c a.1))))))))else(vV  (a.2))
def lE (U:Nat) (a:bA):Option bA:=
 ck (0<=(List.length a:Int)∧(List.length a:Int)<=1099511627) (bL (qV a) U ((0:Int),(List.replicate (Int.toNat (List.length a:Int)) ([]:aP))))
theorem Le:aR Tryz.prog 53:=Tryz.call53
theorem xJ (U:Nat) {g:bA} (t:Value)  (w:qE) (r:bA) (h:lE U g=some r):
  aV Tryz.prog 53 #[t] [S2 bM t w g] (λx:Jq=>x.1) (λx l=>Ar cT.raw x.1 x.2::kF cD x.2 r::l) (λ_ l=>l):=by
 refine aV.of Tryz.func53 Z Tryz.ntmps53 Z λc=>?_;refine aT<|aD Z<|aM<|aT<|aA Z<|aC (iX Z (aE.fact 0 Z) Z) Z<|dO h λu h=>iW (uF cD (Int.toNat (List.length g:Int)))<|aG (pC (e:=cT.raw) (kE) Z Z Z Z u Z Z Z) Z λp=>aD Z<|aM<|aJ<|Cr (B:=eW) (λm=>vV  m=some r) (λm n=>[(3,p)]) (λm n=>[Ar cT.raw p n,kF cD n m]) ?_ ?_
 ·refine aT<|aA Z<|aC (iX Z (aE.fact 0 Z) Z) Z<|aA Z<|aM<|aU<|fD (B:=eW) (qV g) (λa b=>[(3,p),(9,t),(10,vI (List.length g:Int)),(11,vI (a.1))]) (λa b=>[Ar cT.raw p b,kF cD b a.2]) ((0:Int),(List.replicate (Int.toNat (List.length g:Int)) ([]:aP))) (List.replicate (Int.toNat (List.length g:Int)) (kE)) h SF (aY.refl _) ?_;intro v a b h;refine aT<|dA Z<|aM<|aJ ?_;refine fE h Z (λh=>?_) λh=>?_
  ·refine cU<|aJ<|aU<|aT<|aA Z<|dO h λf h=>aC (c_ Z Z (aE.fact 0 Z) Z Z f) Z<|aC (dB Z (aE.fact 0 Z) Z Z f) Z<|aD Z<|aD Z<|aM<|aQ<|aA Z<|aA Z<|aA Z<|iW (gR cD)<|dO h λq h=>aG (eL 0 eG Z Z Z (aE.el (aE.fact 0 Z) f.1 f.2) Z Z Z Z q Z) Z λs=>dO h λd h=>aC (c_ Z Z (bT (i:=1) (j:=2) Z Z eG) Z Z d) Z<|bX (Know.one ((bG (aE.res 0 Z) eG))) λo=>iW (wN (k:=a.1) 2 0 Z Z Z d) ?_;refine nF 0 1 ⟨d.1,by first|exact d.2|simpa using d.2⟩ Z Z Z Z Z (by simp) o Z ?_;refine eN<|oM<|aQ<|cQ Z<|aA Z<|aM ?_;exact AK ((wI .i64 (a.1+(1:Int))),(List.set a.2 (Int.toNat a.1) (([]:aP)++(at' g a.1)))) (List.set b (Int.toNat a.1) s) h SF Z
  refine fS ?_;exact jL (a.2) (b) h SF Z
 intro m n h;unfold vV at h;refine aT<|aA Z<|aD Z<|aM<|aS ?_;cases h;exact gJ (p,n) Z Z (RV.tmp Z) (aY.refl _) aF.nil
end Go.Proofs.YtmdlcmbplnhdnaaGreatDoor
namespace Go.Proofs.YtmdlcmbplnhdnaaGreatDoor
open Go Go.Sx
abbrev sI:=ByteArray×(List Cp)×(List sJ)
structure tU (g:GR) (vars:List Cp):Prop where
 len:vars.length<=20
 small:∀x,x<vars.length->CE (at' vars (x:Int))
 kind:∀x,x<vars.length->(at' vars (x:Int)).2.1=1∨(at' vars (x:Int)).2.1=2∨(at' vars (x:Int)).2.1=3
 range:∀x,x<vars.length->(at' vars (x:Int)).2.1=1 -> -100000<=lo g (at' vars (x:Int)) 0∧lo g (at' vars (x:Int)) 0<=hi g (at' vars (x:Int)) 0∧hi g (at' vars (x:Int)) 0 - lo g (at' vars (x:Int)) 0+1<=4096
theorem abE {g:GR} (a:VG g):zB 1000 g.1=some (gW g g.1.length):=by
 have d:=a.n24;have b:=a.len;have h:=a.n1;have f:0<=at' g.1 ((0:Nat):Int):=(a.node 0 (by omega)).id.1;unfold zB;rw[if_neg (by omega),cB (by omega)];have:=eJ (step:=sS g.1) (K:=some (gW g g.1.length)) (g.1.length - 1) (λk=>(gW g (k+1),((k+1:Nat):Int))) (λk c i=>by
  unfold sS;dsimp only;rw[if_pos (by omega),cB (by omega),fK (by omega)];rfl) (λc=>by
  unfold sS xG;dsimp only;rw[if_neg (by omega),show g.1.length - 1+1=g.1.length by omega]) 1000 (by omega)
 have e:gW g (0+1)=at' g.1 (0:Int):=by
  show max (gW g 0) (at' g.1 ((0:Nat):Int))=_;simp only[gW];have:at' g.1 ((0:Nat):Int)=at' g.1 (0:Int):=rfl;omega
 rw[e]at this;exact this
theorem JW {g:GR} (c:VG g) {x:Cp} (o:CE x) (n:x.2.1=1∨x.2.1=2∨x.2.1=3) {v:Nat} (p:v<g.2.length):jG 1000 x g (v:Int)=some (lo g x v,hi g x v):=by
 obtain⟨⟨B,C⟩,⟨r,s⟩,t,u⟩:=o;have l:=c.n24;have d:=c.len;have e:=IQ c g.1.length (by omega);have w:0<=x.2.2.2.2.1*(g.1.length:Int):=Int.mul_nonneg r (by omega);have y:x.2.2.2.2.1*(g.1.length:Int)<=100000*24:=Int.mul_le_mul s (by omega) (by omega) (by omega);have z:0<=x.2.2.2.2.2*gW g g.1.length:=Int.mul_nonneg t e.1;have A:x.2.2.2.2.2*gW g g.1.length<=100000*255:=Int.mul_le_mul u e.2 e.1 (by omega);have i:m_ 1000 x g (v:Int)=some (x.2.2.1,x.2.2.2.1+x.2.2.2.2.1*(g.2.length:Int)+x.2.2.2.2.2*gW g g.1.length):=by
  unfold m_;rw[bD (abE c),wr (x:=x.2.2.2.2.1*_) (by omega) (by omega),wr (x:=x.2.2.2.2.2*_) (by omega) (by omega),wr (x:=x.2.2.2.1+_) (by omega) (by omega),wr (by omega) (by omega),d]
 have j:nA 1000 x g (v:Int)=some (-1,((row g v).length:Int) - 1):=by
  have k:=(c.node v p).deg;unfold nA;rw[cB (by omega)];show some ((-1:Int),wI .i64 (((row g v).length:Int) - 1))=_;rw[wr (by omega) (by omega)]
 have q:∀(f:Nat) (a:Int),bL (d_ 1000 x g (v:Int)) (f+1) a=d_ 1000 x g (v:Int) a (bL (d_ 1000 x g (v:Int)) f):=λf a=>rfl;have b:∀(f:Nat) (a:Int),a=0∨a=1∨a=2->bL (d_ 1000 x g (v:Int)) (f+1) a=if a=0 then(if 1=x.2.1 then m_ 1000 x g (v:Int)else bL (d_ 1000 x g (v:Int)) f 1)else if a=1 then(if 2=x.2.1 then qB 1000 x g (v:Int)else bL (d_ 1000 x g (v:Int)) f 2)else(if 3=x.2.1 then nA 1000 x g (v:Int)else bL (d_ 1000 x g (v:Int)) f 3):=by
  intro f a m;rw[q];generalize bL (d_ 1000 x g (v:Int)) f=G;unfold d_ lI;rcases m with rfl|rfl|rfl
  ·rw[if_pos (by decide),cB (by decide),if_pos Z,if_pos Z];split
   ·rw[i];rfl
   ·rfl
  ·rw[if_pos (by decide),cB (by decide),if_neg (show¬(1:Int)=0 by decide),if_pos Z,if_neg (show¬(1:Int)=0 by decide),if_pos Z];split
   ·rfl
   ·rfl
  ·rw[if_pos (by decide),cB (by decide),if_neg (show¬(2:Int)=0 by decide),if_neg (show¬(2:Int)=1 by decide),if_neg (show¬(2:Int)=0 by decide),if_neg (show¬(2:Int)=1 by decide)];split
   ·rw[j];rfl
   ·rfl
 unfold jG lo hi;rcases n with h|h|h
 ·rw[b 999 0 (.inl Z),if_pos Z,if_pos h.symm,i,h,if_neg (by decide),if_neg (by decide),if_neg (by decide),if_neg (by decide)]
 ·rw[b 999 0 (.inl Z),if_pos Z,if_neg (by omega),b 998 1 (.inr (.inl Z)),if_neg (by decide),if_pos Z,if_pos h.symm,h,if_pos Z,if_pos Z];rfl
 ·rw[b 999 0 (.inl Z),if_pos Z,if_neg (by omega),b 998 1 (.inr (.inl Z)),if_neg (by decide),if_pos Z,if_neg (by omega),b 997 2 (.inr (.inr Z)),if_neg (by decide),if_neg (by decide),if_pos h.symm,j,h,if_neg (by decide),if_pos Z,if_neg (by decide),if_pos Z]

def DW (g:GR) (a:List Cp) (v x:Nat):fG:=(lo g (at' a (x:Int)) v,hi g (at' a (x:Int)) v)
def DN (g:GR) (a:List Cp) (v:Nat):eS:=(List.range a.length).map (DW g a v)
def AU (g:GR) (a:List Cp):eY:=(List.range g.2.length).map (DN g a)
theorem nD {a:Type} [Inhabited a] (f:Nat->a) {n k:Nat} (h:k<n):at' ((List.range n).map f) (k:Int)=f k:=by
 rw[kT (by simpa using h)];simp
theorem sP {a:Type} (f:Nat->a) (z:a) (n k:Nat) (h:k<n):((List.range k).map f++List.replicate (n - k) z).set k (f k)=(List.range (k+1)).map f++List.replicate (n - (k+1)) z:=by
 rw[show n - k=(n - (k+1))+1 by omega,List.replicate_succ,List.set_append_right _ _ (by simp),List.range_succ];simp
theorem Jn {g:GR} (m:VG g) {p:sI} (n:tU g p.2.1):i_ 1000 p g=some (AU g p.2.1):=by
 have s:=m.n24;have d:=m.len;have w:=n.len;let a:=p.2.1;let Q:Nat->eY:=λk=>(List.range k).map (DN g a)++List.replicate (g.2.length - k) [];have c:∀k,k<=g.2.length->(Q k).length=g.2.length:=λk f=>by simp[Q];omega
 let R:Nat->Nat->eS:=λk j=>(List.range j).map (DW g a k)++List.replicate (a.length - j) (0,0);have l:∀k j,j<=a.length->(R k j).length=a.length:=λk j b=>by simp[R];omega
 unfold i_;rw[cB (by omega)];rw[show List.replicate (Int.toNat (g.1.length:Int)) ([]:eS)=Q 0 by simp[Q,d]];refine eJ (step:=kU 1000 p g) (K:=some (AU g a)) g.2.length (λk=>((k:Int),Q k)) (λk e f=> ?_) (λe=> ?_) 1000 (by omega)
 ·unfold kU;dsimp only;rw[if_pos (by simp;omega),cB (by omega),cB (by rw[c k (by omega)];omega)];refine Eq.trans (?_:_=bL (mQ 1000 p g ((k:Int),Q k) e) 1000 ((0:Int),(Q k).set k (R k 0))) ?_
  ·rw[Int.toNat_natCast,Int.toNat_natCast];simp[R,a]
  refine eJ (step:=mQ 1000 p g ((k:Int),Q k) e) (K:=e (((k+1:Nat):Int),Q (k+1))) a.length (λj=>((j:Int),(Q k).set k (R k j))) (λj h b=> ?_) (λh=> ?_) 1000 (by show p.2.1.length<1000;omega)
  ·have u:j<p.2.1.length:=b;have t:=JW m (n.small j b) (n.kind j b) f;have v:k<(Q k).length:=by rw[c k (by omega)];exact f
   have o:∀X:eS,at' ((Q k).set k X) (k:Int)=X:=λX=>by rw[u_ _ _ _ _ v,if_pos Z]
   have i:j<(R k j).length:=by rw[l k j (by omega)];exact b
   unfold mQ;dsimp only;rw[if_pos (by omega),cB (by omega),cB (by simp only[List.length_set];omega),cB (by simp only[List.length_set];omega),bD (show jG 1000 _ g (k:Int)=_ from t),Int.toNat_natCast,Int.toNat_natCast];simp only[o,List.set_set];rw[cB (by omega),cB (by simp only[List.length_set];omega),fK (by omega)];have:(R k j).set j (lo g (at' p.2.1 (j:Int)) k,hi g (at' p.2.1 (j:Int)) k)=R k (j+1):=sP (DW g a k) (0,0) a.length j b;rw[u_ _ _ _ _ i,if_pos Z];dsimp only;rw[this]
  ·unfold mQ s_;dsimp only;rw[if_neg (show¬((a.length:Nat):Int)<(p.2.1.length:Int)from Int.lt_irrefl _),fK (by omega)];have q:R k a.length=DN g a k:=by simp[R,DN]
   have r:(Q k).set k (DN g a k)=Q (k+1):=sP (DN g a) [] g.2.length k f;rw[q,r]
 ·unfold kU sZ;dsimp only;rw[if_neg (by simp;omega)];simp[Q,AU]
theorem YH {g:GR} (c:VG g) {p:sI} (b:tU g p.2.1):sM 1000 p g=some 0:=by
 have i:=c.n1;have h:=b.len;unfold sM;rw[bD (show AQ 1000 _=some true from rfl),if_neg (by decide),bD (show gG 1000 g=some true from(TC g).1 c),if_neg (by decide)];refine eJ (step:=lP 1000 p g) (K:=some 0) p.2.1.length (λk=>(k:Int)) (λk e d=> ?_) (λe=> ?_) 1000 (by omega)
 ·unfold lP oG vF oG;rw[if_pos (by omega),cB (by omega),fK (by omega)];by_cases a:(at' p.2.1 (k:Int)).2.1=1
  ·obtain⟨j,l,m⟩:=b.range k d a;have f:=JW c (b.small k d) (b.kind k d) (v:=0) (by omega);rw[if_neg (by simpa using a),bD (show jG 1000 _ g (0:Int)=_ from f)];dsimp only;rw[if_neg (by omega),wr (x:=hi g (at' p.2.1 (k:Int)) 0 - lo g (at' p.2.1 (k:Int)) 0) (by omega) (by omega),wr (by omega) (by omega),if_neg (by rw[decide_eq_true_eq];omega)]
  ·rw[if_pos a]
 ·unfold lP vE;rw[if_neg (by omega)]

theorem WF {g:GR} {a:List Cp} (i:a.length<=20) {v:Nat} {l:aP} (c:l.length=a.length) (d:∀x,x<a.length->lo g (at' a (x:Int)) v<=at' l (x:Int)∧at' l (x:Int)<=hi g (at' a (x:Int)) v):vO 1000 (DN g a v) l=some true:=by
 have f:(DN g a v).length=a.length:=by simp[DN]
 unfold vO;rw[if_neg (by rw[f,c];simp)];refine eJ (step:=mT (DN g a v) l) (K:=some true) l.length (λk=>(k:Int)) (λk b h=> ?_) (λb=> ?_) 1000 (by omega)
 ·have e:at' (DN g a v) (k:Int)=DW g a v k:=nD _ (by omega);have:=d k (by omega);unfold mT tH;rw[if_pos (by omega),cB (by omega),cB (by omega),e];rw[if_neg (show¬at' l (k:Int)<(DW g a v k).1 from Int.not_lt.2 this.1),cB (by omega),if_neg (by rw[decide_eq_true_eq];exact Int.not_lt.2 this.2),fK (by omega)]
 ·unfold mT tG;rw[if_neg (by omega)]
theorem MX {g:GR} (a:VG g) {p:sI} (f:tU g p.2.1) {c:bA} (b:Jw g c p.2.1):lZ 1000 p g c=some 0:=by
 have i:=a.n24;have l:(AU g p.2.1).length=g.2.length:=by simp[AU]
 have d:=b.len;unfold lZ;rw[bD (show sM 1000 _ _=some 0 from YH a f),if_neg (by decide),bD (show i_ 1000 _ _=_ from Jn a f)];have:tF 1000 (AU g p.2.1) c=some true:=by
  unfold tF;rw[if_neg (by rw[l,d];simp)];refine eJ (step:=oS 1000 (AU g p.2.1) c) (K:=some true) g.2.length (λk=>(k:Int)) (λk h e=> ?_) (λh=> ?_) 1000 (by omega)
  ·have j:at' (AU g p.2.1) (k:Int)=DN g p.2.1 k:=nD _ e;unfold oS;rw[if_pos (by omega),cB (by omega),cB (by omega),j,bD (WF f.len (b.row k e) (b.ok k e)),if_neg (by decide),fK (by omega)]
  ·unfold oS rO;rw[if_neg (by omega)]
 rw[bD this,if_neg (by decide)]
theorem QM (c:bA) (h:c.length<=900) (e:∀v,v<c.length->(at' c (v:Int)).length<=1000):lE 1000 c=some c:=by
 unfold lE;rw[cB (by omega)];let Q:Nat->bA:=λk=>(List.range k).map (λv:Nat=>at' c (v:Int))++List.replicate (c.length - k) [];rw[show List.replicate (Int.toNat (c.length:Int)) ([]:aP)=Q 0 by simp[Q]];refine eJ (step:=qV c) (K:=some c) c.length (λk=>((k:Int),Q k)) (λk b a=> ?_) (λb=> ?_) 1000 (by omega)
 ·have g:(Q k).length=c.length:=by simp[Q];omega
  have:=e k a;unfold qV;dsimp only;rw[if_pos (by omega),cB (by omega),cB (by simp;omega),cB (by omega),fK (by omega),Int.toNat_natCast,List.nil_append];have:(Q k).set k (at' c (k:Int))=Q (k+1):=sP (λv:Nat=>at' c (v:Int)) [] c.length k a;rw[this]
 ·unfold qV vV;dsimp only;rw[if_neg (by omega)];congr 1;refine List.ext_getElem (by simp[Q]) λi f d=> ?_;simp[Q,kT d]
def Xn (x:Int):Int:=max (-1073741824) (min x 1073741824)
def unD (o x:Int):Int:=if o=18 then wI .i64 (0 - x)else Bu (decide (x=0))
def Zf (a b:Int):Int:=if b=0 then 0 else if Int.tmod a b≠0∧((decide (a<0)) != (decide (b<0)))=true then wI .i64 (wI .i64 (Int.tdiv a b) - 1)else wI .i64 (Int.tdiv a b)
def aba (o x y:Int):Bool:=if o=35 then decide (x=y)else if o=36 then decide (x≠y)else if o=37 then decide (x<y)else if o=38 then decide (x<=y)else if o=39 then decide (y<x)else decide (y<=x)
def biD (o x y:Int):Int:=
 if o=30 then Xn (wI .i64 (x*y))else if o=31 then Xn (Zf x y)else if o=32 then(if y=0 then 0 else Xn (wI .i64 (x - wI .i64 (y*Zf x y))))else if o=33 then Xn (wI .i64 (x+y))else if o=34 then Xn (wI .i64 (x - y))
 else if o=41 then Bu (decide (x≠0)&&decide (y≠0))else if o=42 then Bu (decide (x≠0)||decide (y≠0))else Bu (aba o x y)
theorem WP (f:Nat) (o x:Int):zA f o x=some (unD o x):=by
 unfold zA unD;split
 ·rfl
 ·rw[bD (sV f _)]
theorem Wr (f:Nat) (a b:Int):pO f a b=some (Zf a b):=by
 unfold pO Zf;by_cases c:b=0
 ·rw[if_pos c,if_pos c]
 ·rw[if_neg c,if_neg c,cB c,cB c];by_cases d:Int.tmod a b=0
  ·rw[if_neg (by simpa using d),if_neg (by simp[d])];rfl
  ·rw[if_pos d];unfold rK oJ;by_cases e:((decide (a<0)) != (decide (b<0)))=true
   ·rw[if_pos e,if_pos ⟨d,e⟩]
   ·rw[if_neg e,if_neg (λq=>e q.2)]
theorem abb (f:Nat) (o x y:Int):tE f o x y=some (aba o x y):=by
 unfold tE aba
 repeat' split
 all_goals rfl
theorem Sw (f:Nat) (o x y:Int):xD f o x y=some (biD o x y):=by
 unfold xD biD;by_cases h:o=30
 ·rw[if_pos h,if_pos h];rfl
 rw[if_neg h,if_neg h];by_cases h:o=31
 ·rw[if_pos h,if_pos h,bD (Wr f x y)];rfl
 rw[if_neg h,if_neg h];by_cases h:o=32
 ·rw[if_pos h,if_pos h];by_cases b:y=0
  ·rw[if_pos b,if_pos b]
  ·rw[if_neg b,if_neg b,bD (Wr f x y)];rfl
 rw[if_neg h,if_neg h];by_cases h:o=33
 ·rw[if_pos h,if_pos h];rfl
 rw[if_neg h,if_neg h];by_cases h:o=34
 ·rw[if_pos h,if_pos h];rfl
 rw[if_neg h,if_neg h];by_cases h:o=41
 ·rw[if_pos h,if_pos h];by_cases a:x=0
  ·rw[if_neg (by simpa using a),bD (sV f _)];simp[a,oH]
  ·rw[if_pos a,bD (sV f _)];simp[a,oH]
 rw[if_neg h,if_neg h];by_cases h:o=42
 ·rw[if_pos h,if_pos h];by_cases a:x=0
  ·rw[if_neg (by simpa using a),bD (sV f _)];simp[a,oI]
  ·rw[if_pos a,bD (sV f _)];simp[a,oI]
 rw[if_neg h,if_neg h,bD (abb f o x y),bD (sV f _)]
def E.den (L:Int->Int->Int->Int) (b:Nat):E->Int->Int
 |lf o a,p=>L o a p
 |un o x,p=>unD o (x.den L b p)
 |ag o x,_=>QW o ((List.range b).map λq=>x.den L b ((q:Nat):Int))
 |bi o x y,p=>biD o (x.den L b p) (y.den L b p)
 |ite x y z,p=>if x.den L b p≠0 then y.den L b p else z.den L b p
def E.wf (c:Nat):Bool->E->Bool
 |b,lf o a=>decide (1<=o)&&decide (o<=17)&&(b||decide (o<=10))&&((decide (o≠5)&&decide (o≠12))||(decide (0<=a)&&decide (a<(c:Int))))
 |b,un o x=>decide (18<=o)&&decide (o<=19)&&x.wf c b
 |_,ag o x=>(decide (o=20)||decide (o=21)||decide (o=22)||decide (o=23)||decide (o=24)||decide (o=26)||decide (o=27))&&x.wf c true
 |b,bi o x y=>decide (30<=o)&&decide (o<=42)&&x.wf c b&&y.wf c b
 |b,ite x y z=>x.wf c b&&y.wf c b&&z.wf c b
theorem Xs {i:Nat}:∀{e:E} {b:Bool},e.wf i b=true->e.arOk=true:=by
 intro e
 induction e with
 |lf o a=>intro b h;simp[E.wf,E.arOk]at h ⊢;omega
 |un o x f=>intro b h;simp[E.wf,E.arOk]at h ⊢;exact⟨h.1,f h.2⟩
 |ag o x f=>intro b h;simp[E.wf,E.arOk]at h ⊢;exact⟨by omega,f h.2⟩
 |bi o x y c d=>intro b h;simp[E.wf,E.arOk]at h ⊢;exact⟨⟨h.1.1,c h.1.2⟩,d h.2⟩
 |ite x y z c d g=>intro b h;simp[E.wf,E.arOk]at h ⊢;exact⟨⟨c h.1.1,d h.1.2⟩,g h.2⟩
def Wa (W:WLK) (p:Int):Int:=(at' (at' W.1.2.1.2 W.2.2.1) p).1
def VS (W:WLK) (o a p:Int):Int:=
 if o=1 then a else if o=2 then 1 else if o=3 then 0 else if o=4 then -1 else if o=5 then at' (at' W.2.1 W.2.2.1) a else if o=12 then at' (at' W.2.1 (Wa W p)) a
 else if o=6 then(W.1.2.1.1.length:Int)else if o=7 then W.1.2.2.1 else if o=8 then at' W.1.2.1.1 W.2.2.1 else if o=9 then((at' W.1.2.1.2 W.2.2.1).length:Int)else if o=10 then Bu (decide (W.2.2.1=0))else if o=11 then p
 else if o=13 then at' W.1.2.1.1 (Wa W p)else if o=14 then((at' W.1.2.1.2 (Wa W p)).length:Int)else if o=15 then Bu (decide (Wa W p=0))else if o=16 then(at' (at' W.1.2.1.2 W.2.2.1) p).2 else at' (at' W.1.2.2.2 W.2.2.1) p
structure WOk (W:WLK) (nv n v:Nat):Prop where
 node:W.2.2.1=(v:Int)
 lt:v<n
 ports:W.1.2.1.2.length=n
 ids:W.1.2.1.1.length=n
 c:W.2.1.length=n
 row:∀u:Nat,u<n->(at' W.2.1 (u:Int)).length=nv
 to:∀u:Nat,u<n->∀i:Nat,i<(at' W.1.2.1.2 (u:Int)).length->0<=(at' (at' W.1.2.1.2 (u:Int)) (i:Int)).1∧(at' (at' W.1.2.1.2 (u:Int)) (i:Int)).1<(n:Int)
 bl:W.1.2.2.2.length=n
 br:∀u:Nat,u<n->(at' W.1.2.2.2 (u:Int)).length=(at' W.1.2.1.2 (u:Int)).length
def Ue (b:Bool) (a:Nat) (p:Int):Prop:=b=true->∃q:Nat,p=(q:Int)∧q<a
theorem YY {W:WLK} {k n v:Nat} (h:WOk W k n v) (f:Nat) {b:Bool} {o a p:Int} (s:(E.lf o a).wf k b=true) (r:Ue b (at' W.1.2.1.2 (v:Int)).length p):kZ f W (o,a) p=some (VS W o a p):=by
 obtain⟨y,c,A,B,C,l,m,F,w⟩:=h;simp only[E.wf,Bool.and_eq_true,Bool.or_eq_true,decide_eq_true_eq]at s;obtain⟨⟨⟨G,H⟩,d⟩,I⟩:=s;have z:(at' W.2.1 (v:Int)).length=k:=l v c;unfold kZ VS Wa;dsimp only;rw[y];by_cases e:o=1
 ·simp only[if_pos e]
 simp only[if_neg e];by_cases e:o=2
 ·simp only[if_pos e]
 simp only[if_neg e];by_cases e:o=3
 ·simp only[if_pos e]
 simp only[if_neg e];by_cases e:o=4
 ·simp only[if_pos e]
 simp only[if_neg e];by_cases e:o=5
 ·simp only[if_pos e];rw[cB (by omega),cB (by omega)]
 simp only[if_neg e];by_cases e:o=12
 ·have i:b=true:=by
   rcases d with d|d
   ·exact d
   ·omega
  obtain⟨q,rfl,j⟩:=r i;have g:=m v c q j;obtain⟨u,x⟩:∃u:Nat,(at' (at' W.1.2.1.2 (v:Int)) (q:Int)).1=(u:Int):=⟨_,(Int.toNat_of_nonneg g.1).symm⟩
  simp only[if_pos e];rw[x]at g ⊢;have D:=l u (by omega);rw[cB (by omega),cB (by omega),cB (by omega),cB (by omega)]
 simp only[if_neg e];unfold qS;dsimp only;by_cases e:o=6
 ·simp only[if_pos e];rfl
 simp only[if_neg e];by_cases e:o=7
 ·simp only[if_pos e];rfl
 simp only[if_neg e];by_cases e:o=8
 ·simp only[if_pos e];rw[cB (by omega)];rfl
 simp only[if_neg e];by_cases e:o=9
 ·simp only[if_pos e];rw[cB (by omega)];rfl
 simp only[if_neg e];by_cases e:o=10
 ·simp only[if_pos e];rw[bD (sV f _)];rfl
 simp only[if_neg e];by_cases e:o=11
 ·simp only[if_pos e];rfl
 simp only[if_neg e];have i:b=true:=by
  rcases d with d|d
  ·exact d
  ·omega
 obtain⟨q,rfl,j⟩:=r i;have g:=m v c q j;rw[cB (by omega),cB (by omega)];by_cases e:o=13
 ·simp only[if_pos e];rw[cB (by omega)];rfl
 simp only[if_neg e];by_cases e:o=14
 ·simp only[if_pos e];rw[cB (by omega)];rfl
 simp only[if_neg e];by_cases e:o=15
 ·simp only[if_pos e];rw[bD (sV f _)];rfl
 simp only[if_neg e];by_cases e:o=16
 ·simp only[if_pos e];rfl
 simp only[if_neg e];have t:=w v c;rw[cB (by omega),cB (by omega)];rfl
theorem Xf {W:WLK} {nv n v:Nat} (h:WOk W nv n v) {deg:Nat} (hdeg:(at' W.1.2.1.2 (v:Int)).length=deg) (hd24:deg<=24) (hT9:W.2.2.2.length<=800):
  ∀(e:E) (b:Bool) (fuel k:Nat) (p:Int) (pre post:eS),W.2.2.2=pre++(e.ts++post)->pre.length=k->e.wf nv b=true->Ue b deg p->e.depth+850<=fuel->
   bP fuel W (k:Int) p=some (e.den (VS W) deg p,(((k+e.ts.length:Nat)):Int)):=by
 obtain⟨hv,hlt,h1,h2,h3,h4,h5,_,_⟩:=id h;have start:∀{t:fG} {l pre post:eS} {k:Nat},W.2.2.2=pre++((t::l)++post)->pre.length=k->at' W.2.2.2 (k:Int)=t∧(k:Int)<(W.2.2.2.length:Int):=by
  intro t l pre post k hT hk;refine⟨Qy (rest:=l++post) (by simpa using hT) hk,?_⟩
  rw[hT];simp;omega
 intro e
 induction e with
 |lf o a=>
  intro b fuel k p pre post hT hk hw hp hf;obtain⟨fuel,rfl⟩:∃f,fuel=f+1:=⟨fuel - 1,by omega⟩
  obtain⟨ht,hlk⟩:=start (l:=[]) hT hk;show cO (bP fuel) fuel W (k:Int) p=_;unfold cO;rw[cB ⟨by omega,hlk⟩,ht];dsimp only;have hw':=hw;simp only[E.wf,Bool.and_eq_true,Bool.or_eq_true,decide_eq_true_eq]at hw';have hl:=YY h fuel hw (hdeg▸hp);rw[if_pos (by omega),bD (show kZ fuel _ (o,a) p=some (VS W o a p)from hl),fK (by omega)];rfl
 |un o x ih=>
  intro b fuel k p pre post hT hk hw hp hf;obtain⟨fuel,rfl⟩:∃f,fuel=f+1:=⟨fuel - 1,by omega⟩
  obtain⟨ht,hlk⟩:=start (l:=x.ts) hT hk;show cO (bP fuel) fuel W (k:Int) p=_;unfold cO;rw[cB ⟨by omega,hlk⟩,ht];dsimp only;simp only[E.wf,Bool.and_eq_true,decide_eq_true_eq]at hw;simp only[E.depth]at hf;have hx:=ih b fuel (k+1) p (pre++[(o,0)]) post (by rw[hT];simp[E.ts]) (by simp[hk]) hw.2 hp (by omega);rw[if_neg (by omega),if_pos (by omega),fK (by omega),bD (show bP fuel _ _ p=_ from hx),bD (WP fuel _ _)];simp only[E.den,E.ts,List.length_cons];rw[show k+1+x.ts.length=k+(x.ts.length+1) by omega]
 |bi o x y ihx ihy=>
  intro b fuel k p pre post hT hk hw hp hf;obtain⟨fuel,rfl⟩:∃f,fuel=f+1:=⟨fuel - 1,by omega⟩
  obtain⟨ht,hlk⟩:=start (l:=x.ts++y.ts) hT hk;show cO (bP fuel) fuel W (k:Int) p=_;unfold cO;rw[cB ⟨by omega,hlk⟩,ht];dsimp only;simp only[E.wf,Bool.and_eq_true,decide_eq_true_eq]at hw;simp only[E.depth]at hf;have hx:=ihx b fuel (k+1) p (pre++[(o,0)]) (y.ts++post) (by rw[hT];simp[E.ts]) (by simp[hk]) hw.1.2 hp (by omega);have hy:=ihy b fuel (k+1+x.ts.length) p (pre++(o,0)::x.ts) post (by rw[hT];simp[E.ts]) (by simp[hk];omega) hw.2 hp (by omega);rw[if_neg (by omega),if_neg (by omega),if_neg (by omega),if_pos (by omega),fK (by omega),bD (show bP fuel _ _ p=_ from hx),bD (show bP fuel _ _ p=_ from hy),bD (Sw fuel _ _ _)];simp only[E.den,E.ts,List.length_cons,List.length_append];rw[show k+1+x.ts.length+y.ts.length=k+(x.ts.length+y.ts.length+1) by omega]
 |ite x y z ihx ihy ihz=>
  intro b fuel k p pre post hT hk hw hp hf;obtain⟨fuel,rfl⟩:∃f,fuel=f+1:=⟨fuel - 1,by omega⟩
  obtain⟨ht,hlk⟩:=start (l:=x.ts++(y.ts++z.ts)) hT hk;show cO (bP fuel) fuel W (k:Int) p=_;unfold cO;rw[cB ⟨by omega,hlk⟩,ht];dsimp only;simp only[E.wf,Bool.and_eq_true]at hw;simp only[E.depth]at hf;have hx:=ihx b fuel (k+1) p (pre++[(43,0)]) (y.ts++z.ts++post) (by rw[hT];simp[E.ts]) (by simp[hk]) hw.1.1 hp (by omega);have hy:=ihy b fuel (k+1+x.ts.length) p (pre++(43,0)::x.ts) (z.ts++post) (by rw[hT];simp[E.ts]) (by simp[hk];omega) hw.1.2 hp (by omega);have hz:=ihz b fuel (k+1+x.ts.length+y.ts.length) p (pre++(43,0)::(x.ts++y.ts)) post (by rw[hT];simp[E.ts]) (by simp[hk];omega) hw.2 hp (by omega);rw[if_neg (by decide),if_neg (by decide),if_neg (by decide),if_neg (by decide),fK (by omega),bD (show bP fuel _ _ p=_ from hx),bD (show bP fuel _ _ p=_ from hy),bD (show bP fuel _ _ p=_ from hz)];simp only[E.den,E.ts,List.length_cons,List.length_append];rw[show k+1+x.ts.length+y.ts.length+z.ts.length=k+(x.ts.length+(y.ts.length+z.ts.length)+1) by omega];split<;>rfl
 | ag o x ih =>
  intro b fuel k p pre post hT hk hw hp hf;obtain⟨fuel,rfl⟩:∃f,fuel=f+1:=⟨fuel - 1,by omega⟩
  obtain⟨ht,hlk⟩:=start (l:=x.ts) hT hk;have har:=Xs hw;have hwx:=hw;simp only[E.wf,Bool.and_eq_true,Bool.or_eq_true,decide_eq_true_eq]at hwx;simp only[E.depth]at hf;have hts:(E.ag o x).ts.length=x.ts.length+1:=rfl;have hlen:=congrArg List.length hT;simp only[List.length_append]at hlen;show cO (bP fuel) fuel W (k:Int) p=_;unfold cO;rw[cB ⟨by omega,hlk⟩,ht];dsimp only;rw[if_neg (by omega),if_neg (by omega),if_pos (by omega),cB (by omega)];let D:Nat->Int:=λq=>x.den (VS W) deg ((q:Nat):Int);let V:Nat->aP:=λq=>(List.range q).map D++List.replicate (24 - q) 0;have hVl:∀q,q<=24->(V q).length=24:=λq hq=>by simp[V];omega
  have hset:∀q,q<24->(V q).set q (D q)=V (q+1):=λq hq=>by
   show((List.range q).map D++List.replicate (24 - q) 0).set q (D q)=(List.range (q+1)).map D++List.replicate (24 - (q+1)) 0;rw[show 24 - q=(24 - (q+1))+1 by omega,List.replicate_succ,List.set_append_right _ _ (by simp),List.range_succ];simp
  let N:Nat->Int:=λq=>if q=0 then 0 else(((k+1+x.ts.length:Nat)):Int)
  refine Eq.trans (eJ (step:=jQ fuel W (k:Int) (bP fuel)) (K:=some ((E.ag o x).den (VS W) deg p,(((k+(E.ag o x).ts.length:Nat)):Int))) deg (λq=>(N q,(q:Int),V q)) (λq ag hq=> ?_) (λag=> ?_) fuel (by omega)) rfl
  ·unfold jQ;dsimp only;have hx:=ih true fuel (k+1) ((q:Nat):Int) (pre++[(o,0)]) post (by rw[hT];simp[E.ts]) (by simp[hk]) hwx.2 (λ_=>⟨q,rfl,hq⟩) (by omega);rw[if_pos (by rw[hv,hdeg];omega),fK (by omega),bD (show bP fuel _ _ _=_ from hx),cB ⟨by omega,hVl q (by omega)⟩,fK (by omega),Int.toNat_natCast];show ag (_,_,(V q).set q (D q))=_;rw[hset q (by omega)];simp only[N];rw[if_neg (by omega)]
  ·unfold jQ;dsimp only;rw[if_neg (by rw[hv,hdeg];omega)];have hfold:List.take deg (V deg)=(List.range deg).map D:=by
    show List.take deg ((List.range deg).map D++_)=_;exact List.take_left' (by simp)
   have fin:∀y:Int,y=(((k+1+x.ts.length:Nat)):Int)->jP fuel W (k:Int) (N deg,V deg) y=some ((E.ag o x).den (VS W) deg p,(((k+(E.ag o x).ts.length:Nat)):Int)):=by
    rintro y rfl;unfold jP;dsimp only;rw[hv,hdeg,cB ⟨by omega,by omega,by rw[hVl deg hd24];omega⟩,ht,Int.toNat_natCast,hfold,bD (YI fuel o _ (by omega) (by simp;omega) (by omega))];unfold mI;rw[hts,show k+1+x.ts.length=k+(x.ts.length+1) by omega];rfl
   unfold pY;dsimp only;by_cases h0:deg=0
   ·rw[if_pos (by rw[hv,hdeg];omega),bD (abj fuel (E.ag o x) har hT hk hT9 (by omega))];exact fin _ (by rw[hts];omega)
   ·rw[if_neg (by rw[hv,hdeg];omega)];exact fin _ (by simp only[N];rw[if_neg h0])
end Go.Proofs.YtmdlcmbplnhdnaaGreatDoor
namespace Go.Proofs.YtmdlcmbplnhdnaaGreatDoor
open Go.Sx
def fJ (U:Nat) (a:Tx) (b:bA) (c:Int) (d:eS):Option (Int):=
 Option.bind (bP U ((((((a.1.1,a.1.2.1,a.1.2.2)),((a.2.1.1,a.2.1.2)),a.2.2.1,a.2.2.2)),b,c,d)) (0:Int) (-1:Int)) λe=>(some (e.1))
theorem QC:aR Tryz.prog 124:=Tryz.call124
theorem wK (U:Nat) {d:Tx} {s:bA} {f:Int} {t:eS} (a:Nat)  (m:Value)  (n:Value)  (o:Value)  (p:Value)  (u:lA)  (q:Value)  (v:qE)  (e:Value)  (y:qE)  (b:Value) (r:Int) (h:fJ U d s f t=some r):
  aV Tryz.prog 124 #[vP a,e,vI (f),b] [bV a [vS (d.1.1),m,n,o,p,vI (d.2.2.1),q] 137,Sl aK m d.1.2.1,Sl aH n d.1.2.2,Sl bM o d.2.1.1,S2 a_ p u d.2.1.2,S2 bM q v d.2.2.2,S2 bM e y s,Sl a_ b t] (λx:Unit=>vI (r)) (λx l=>l) (λ_ l=>l):=by
 refine aV.of Tryz.func124 Z Tryz.ntmps124 Z λc=>?_;refine aT<|aD Z<|aM<|aT<|aA Z<|aA Z<|aA Z<|aA Z<|bX (Know.one (aE.sl (aE.fact 6 Z))) λg=>bX (Know.one ((aE.fact 7 Z))) λi=>?_;refine aC (aak (r:=Value.agg #[Value.pointer (some ⟨a,0,none⟩),e,vI (f),b]) Z Z Z Z (by intro w;simp[Instr.build,Instr.fill,dH,cW,cH,dJ,dK,cX,eI,eR g,eR i])) Z ?_;refine aG (aL.alloc (cs:=[Value.pointer none,kE,vI (0:Int),kE]) Z Z) Z λz=>bX (Know.one (aE.sl (aE.fact 6 Z))) λj=>bX (Know.one ((aE.fact 7 Z))) λk=>bN 0 (vs:=[vP a,e,vI (f),b]) Z Z (jK Z (jK j (jK Z (jK k Z)))) Z Z Z<|aM<|aT<|eZ h λA B h=>aG (aL.callQ Ay (Dc U z a m n o p u q v e y b A B) Z (aF.cons (aE.res 0 Z) (nK [0,1,2,3,4,5,6,7] Z))) Z λC=>aA Z<|g_ Z<|g_ Z<|aD Z<|aD Z<|aM<|aT<|aA Z<|aD Z<|aM<|aS ?_;cases h;exact uU Z
end Go.Proofs.YtmdlcmbplnhdnaaGreatDoor