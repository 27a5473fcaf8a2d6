/- Models and proofs. Conditions: none. -/
import Derived.Test.YtcnnfkapmjhnaaaGreatDoorZTTr8
import Derived.Test.YtcnnfkapmjhnaaaGreatDoorZTTr4
import Derived.Test.YtcnnfkapmjhnaaaGreatDoorZTTr5
import Derived.Test.YtcnnfkapmjhnaaaGreatDoorZTTr2
import Derived.KernelRfl
set_option linter.unusedVariables false
set_option linter.unusedSimpArgs false
set_option maxHeartbeats 4000000
set_option maxRecDepth 20000
namespace Go.Proofs.YtcnnfkapmjhnaaaGreatDoor
open Go.Sx
theorem Py {R:Type} {step:Int->(Int->Option R)->Option R} {K:Option R} {bad:R} (N:Nat) (p:Nat->Prop)
  (r:∀(k:Nat) c,k<N->p k->step k c=c ((k:Int)+1)) (i:∀(k:Nat) c,k<N->¬p k->step k c=some bad) (j:∀c,step N c=K):
  ∀(b:Nat),N<b->((∀k,k<N->p k)->bH step b 0=K)∧(¬(∀k,k<N->p k)->bH step b 0=some bad):=by
 intro b q;have s:∀(d a b:Nat),a+d=N->d<b->((∀k,a<=k->k<N->p k)->bH step b (a:Int)=K)∧(¬(∀k,a<=k->k<N->p k)->bH step b (a:Int)=some bad):=by
  intro d
  induction d with
  |zero=>
   intro a b v q;obtain rfl:a=N:=by omega
   cases b with
   |zero=>omega
   |succ f=>exact⟨λ_=>j _,λh=>absurd (λk m g=>by omega) h⟩
  | succ d ih =>
   intro a b v q;cases b with
   |zero=>omega
   | succ f =>
    obtain⟨t,u⟩:=ih (a+1) f (by omega) (by omega);have e:((a+1:Nat):Int)=(a:Int)+1:=by omega
    rw[e]at t u;by_cases n:p a
    ·have w:bH step (f+1) (a:Int)=bH step f ((a:Int)+1):=r a _ (by omega) n;rw[w];refine⟨λh=>t λk m g=>h k (by omega) g,λh=>u λo=>h λk m g=> ?_⟩
     by_cases l:k=a
     ·subst l;exact n
     ·exact o k (by omega) g
    ·exact⟨λh=>absurd (h a (zAe _) (by omega)) n,λ_=>i a _ (by omega) n⟩
 obtain⟨m,g⟩:=s N 0 b (by omega) q;exact⟨λh=>m λk _ l=>h k l,λh=>g λo=>h λk l=>o k (by omega) l⟩
abbrev GR:=List Int×g_
abbrev row (g:GR) (v:Nat):cC:=at' g.2 (v:Int)
abbrev acR (g:GR) (v:Nat):Int:=at' g.1 (v:Int)
abbrev fU (l:cC) (i:Nat):eC:=at' l (i:Int)
def light (g:GR):Prop:=g.1.length<=30∧g.2.length<=30∧∀v,v<g.2.length->(row g v).length<=30
def Lu (l:cC) (v n i:Nat):Prop:=(0<=(fU l i).1∧(fU l i).1<=(n:Int) - 1)∧(fU l i).1≠v∧(1<=(fU l i).2∧(fU l i).2<=15)∧∀k,k<i->(fU l k).1≠(fU l i).1
def xE (l:cC) (v n:Nat):Prop:=∀i,i<l.length->Lu l v n i
def En (l:cC) (u:Int):Int:=match l.findIdx? (λx=>decide (x.1=u))with
 |some i=>i
 |none=> -1
theorem RI {l:cC} {u:Int} (i:Nat) (b:i<l.length) (d:(fU l i).1=u) (c:∀k,k<i->(fU l k).1≠u):En l u=i:=by
 have:l.findIdx? (λx=>decide (x.1=u))=some i:=by
  rw[List.findIdx?_eq_some_iff_getElem];have e:∀k (a:k<l.length),fU l k=l[k]:=λk a=>by rw[fU,lF,zA6,zA0 a];rfl
  refine⟨b,by rw[<-e i b];simpa using d,λk a=> ?_⟩
  have:=c k a;rw[e k (by omega)]at this;simpa using this
 rw[En,this]
theorem RH {l:cC} {u:Int} (b:∀k,k<l.length->(fU l k).1≠u):En l u = -1:=by
 have:l.findIdx? (λx=>decide (x.1=u))=none:=by
  rw[List.findIdx?_eq_none_iff];intro x c;obtain⟨k,a,rfl⟩:=List.getElem_of_mem c;have:=b k a;rw[fU,lF,zA6,zA0 a]at this;simpa using this
 rw[En,this]
theorem PO (l:cC) (u:Int):(∃i,i<l.length∧(fU l i).1=u∧(∀k,k<i->(fU l k).1≠u)∧En l u=i)∨((∀k,k<l.length->(fU l k).1≠u)∧En l u = -1):=by
 by_cases h:∀k,k<l.length->(fU l k).1≠u
 ·exact .inr ⟨h,RH h⟩
 ·left;have f:∃k,k<l.length∧(fU l k).1=u:=by
   apply Classical.byContradiction;intro o;exact h λk g e=>o ⟨k,g,e⟩
  obtain⟨k,g,n⟩:=f;have:∀m,(∃k,k<=m∧k<l.length∧(fU l k).1=u)->∃i,i<l.length∧(fU l i).1=u∧∀k,k<i->(fU l k).1≠u:=by
   intro m
   induction m with
   |zero=>rintro⟨k,d,a,b⟩;exact⟨k,a,b,λj p=>by omega⟩
   |succ m q=>
    rintro⟨k,d,a,b⟩;by_cases c:∃j,j<=m∧j<l.length∧(fU l j).1=u
    ·exact q c
    ·exact⟨k,a,b,λj p e=>c ⟨j,by omega,by omega,e⟩⟩
  obtain⟨i,d,a,b⟩:=this k ⟨k,zAe _,g,n⟩;exact⟨i,d,a,b,RI i d a b⟩
theorem Io {X R:Type} {step:X->(X->Option R)->Option R} {K:X->Option R} {bad:R} (N:Nat) (p:Nat->Prop) (I:Nat->X->Prop)
  (t:∀(k:Nat) x g,k<N->I k x->p k->∃c,I (k+1) c∧step x g=g c) (j:∀(k:Nat) x g,k<N->I k x->¬p k->step x g=some bad) (l:∀x g,I N x->step x g=K x):
  ∀(b:Nat) (x:X),I 0 x->N<b->((∀k,k<N->p k)->∃c,I N c∧bH step b x=K c)∧(¬(∀k,k<N->p k)->bH step b x=some bad):=by
 intro b x e s;have v:∀(d a b:Nat) (x:X),a+d=N->d<b->I a x->((∀k,a<=k->k<N->p k)->∃c,I N c∧bH step b x=K c)∧(¬(∀k,a<=k->k<N->p k)->bH step b x=some bad):=by
  intro d
  induction d with
  |zero=>
   intro a b x w s e;obtain rfl:a=N:=by omega
   cases b with
   |zero=>omega
   |succ f=>exact⟨λ_=>⟨x,e,l _ _ e⟩,λh=>absurd (λk n i=>by omega) h⟩
  | succ d ih =>
   intro a b x w s e;cases b with
   |zero=>omega
   | succ f =>
    by_cases o:p a
    ·obtain⟨c,r,u⟩:=t a x (bH step f) (by omega) e o;have u:bH step (f+1) x=bH step f c:=u;obtain⟨y,z⟩:=ih (a+1) f c (by omega) (by omega) r;rw[u];refine⟨λh=>y λk n i=>h k (by omega) i,λh=>z λq=>h λk n i=> ?_⟩
     by_cases m:k=a
     ·subst m;exact o
     ·exact q k (by omega) i
    ·exact⟨λh=>absurd (h a (zAe _) (by omega)) o,λ_=>j a x _ (by omega) e o⟩
 obtain⟨n,i⟩:=v N 0 b x (by omega) s e;exact⟨λh=>n λk _ m=>h k m,λh=>i λq=>h λk m=>q k (by omega) m⟩
def NI (g:GR) (v i:Nat):Prop:=∃j,j<(at' g.2 (fU (row g v) i).1).length∧(fU (at' g.2 (fU (row g v) i).1) j).1=v∧(fU (at' g.2 (fU (row g v) i).1) j).2=(fU (row g v) i).2
structure aew (g:GR) (v:Nat):Prop where
 id:0<=acR g v∧acR g v<=255
 deg:(row g v).length<g.2.length
 links:xE (row g v) v g.2.length
 ids:∀k,k<v->acR g k≠acR g v
structure VG (g:GR):Prop where
 n1:1<=g.2.length
 n24:g.2.length<=24
 len:g.1.length=g.2.length
 node:∀v,v<g.2.length->aew g v
 sym:∀v,v<g.2.length->∀i,i<(row g v).length->NI g v i
theorem qQ {a:Type} [Inhabited a] (l:List a) (i k:Nat) (y:a) (b:i<l.length):at' (l.set i y) (k:Int)=if k=i then y else at' l (k:Int):=by
 rw[lF,lF,zA6,zA6,List.getElem?_set];by_cases h:i=k
 ·rw[if_pos h,if_pos h.symm,if_pos (by omega)];rfl
 ·rw[if_neg h,if_neg (Ne.symm h)]
def XH (l:aO) (k:Nat):Prop:=(0<=at' l (k:Int)∧at' l (k:Int)<=255)∧∀j,j<k->at' l (j:Int)≠at' l (k:Int)
theorem xG (l:aO) (C:l.length<=30):((∀k,k<l.length->XH l k)->kI 1000 l=some true)∧(¬(∀k,k<l.length->XH l k)->kI 1000 l=some false):=by
 unfold kI;have i:=Io (step:=gY l) (K:=λ_=>some true) (bad:=false) l.length (XH l) (λk x=>x.1=(k:Int)∧x.2.length=256∧∀z:Nat,z<256->(at' x.2 (z:Int)=true↔∃j,j<k∧at' l (j:Int)=(z:Int))) ?_ ?_ ?_ 1000 ((0:Int),(List.replicate 256 false)) ⟨rfl,List.length_replicate ..,λz c=> ?_⟩ (by omega)
 ·exact⟨λh=>by obtain⟨x,_,b⟩:=i.1 h;exact b,i.2⟩
 ·rintro k ⟨t,m⟩ q w ⟨b,a,f⟩ ⟨D,v⟩;dsimp only at b a f;subst b;obtain⟨z,c⟩:∃z:Nat,at' l (k:Int)=z:=⟨(at' l (k:Int)).toNat,by omega⟩
  have p:z<256:=by omega
  have o:¬at' m (z:Int)=true:=by
   rw[f z p];rintro⟨j,e,d⟩;exact v j e (d.trans c.symm)
  refine⟨((k:Int)+1,m.set z true),⟨by simp,by simp[a],λy B=> ?_⟩,?_⟩
  ·dsimp only;rw[qQ _ _ _ _ (by omega)];by_cases g:y=z
   ·subst g;rw[if_pos Z];exact⟨λ_=>⟨k,by omega,c⟩,λ_=>rfl⟩
   ·rw[if_neg g,f y B];constructor
    ·rintro⟨j,e,d⟩;exact⟨j,by omega,d⟩
    ·rintro⟨j,e,d⟩;by_cases n:j=k
     ·subst n;rw[c]at d;omega
     ·exact⟨j,by omega,d⟩
  ·unfold gY jE;dsimp only;rw[if_pos (by omega),cK (by omega),c,if_neg (by omega),if_neg (by omega),cK ⟨by omega,a⟩,if_neg o,cK ⟨by omega,a⟩,wr (by omega) (by omega)];rfl
 ·rintro k ⟨t,m⟩ q w ⟨b,a,f⟩ A;dsimp only at b a f;subst b;unfold gY jE;dsimp only;rw[if_pos (by omega),cK (by omega)];by_cases r:at' l (k:Int)<0
  ·rw[if_pos r,if_pos Z]
  rw[if_neg r];by_cases s:255<at' l (k:Int)
  ·rw[if_pos s,if_pos Z]
  rw[if_neg s];obtain⟨z,c⟩:∃z:Nat,at' l (k:Int)=z:=⟨(at' l (k:Int)).toNat,by omega⟩
  rw[c,cK ⟨by omega,a⟩,if_pos];rw[f z (by omega)];apply Classical.byContradiction;intro u;exact A ⟨by omega,λj e d=>u ⟨j,e,d.trans c⟩⟩
 ·rintro⟨t,m⟩ q ⟨b,_,_⟩;dsimp only at b;subst b;unfold gY pI;dsimp only;rw[if_neg (by omega)]
 ·rw[show at' (List.replicate 256 false) (z:Int)=false by rw[lF,zA6,List.getElem?_replicate,if_pos c];rfl];exact⟨λh=>(by cases h),fun⟨j,e,_⟩=>(by omega)⟩
theorem WZ {d e:Type} [DecidableEq d] (k c:d) (v:e):∀l:List (d×e),oC c (Em k v l)=if c=k then some v else oC c l
 | []=>by simp only[Em,oC]
 | x :: xs => by
  simp only[Em];by_cases h:k=x.1
  ·rw[if_pos h];simp only[oC];by_cases a:c=k
   ·rw[if_pos a,if_pos a]
   ·rw[if_neg a,if_neg a,if_neg (λb=>a (b.trans h.symm))]
  ·rw[if_neg h];simp only[oC];by_cases a:c=x.1
   ·rw[if_pos a,if_neg (λb=>h (b.symm.trans a)),if_pos a]
   ·rw[if_neg a,WZ k c v xs];by_cases b:c=k
    ·rw[if_pos b,if_pos b]
    ·rw[if_neg b,if_neg b,if_neg a]
theorem Rt {a b:Type} [DecidableEq a] {k:a} {v:b} {z:a×b} {l:List (a×b)} (c:oC k l=none):z∈Em k v l↔z=(k,v)∨z∈l:=by
 rw[JA k v l c];simp[or_comm]
theorem Jz {a c:Type} [DecidableEq a] {k:a}:∀{l:List (a×c)},(∀v,(k,v)∉l)->oC k l=none
 | [],_=>rfl
 |x::xs,h=>by
  simp only[oC];rw[if_neg (λe=>h x.2 (by rw[e];exact zA7 ..))];exact Jz λv b=>h v (zAh _ b)
theorem wV {b c:Type} [DecidableEq b] {k:b} {v:c}:∀{l:List (b×c)},oC k l=none->(k,v)∉l
 | [],_=>by simp
 | x :: xs, h => by
  simp only[oC]at h;by_cases e:k=x.1
  ·rw[if_pos e]at h;cases h
  ·rw[if_neg e]at h;intro d;rcases zAk.1 d with a|a
   ·exact e (by rw[<-a])
   ·exact wV h a
theorem Dw {a b:Type} [DecidableEq a] {k:a} {v:b}:∀{l:List (a×b)},oC k l=some v->(k,v)∈l
 |x::xs,h=>by
  simp only[oC]at h;by_cases e:k=x.1
  ·rw[if_pos e]at h;cases h;rw[e];exact zA7 ..
  ·rw[if_neg e]at h;exact zAh _ (Dw h)
theorem Mw {a b:Type} (p:a×b->Prop) [DecidablePred p]:∀l:List (a×b),Nn (λd x=>if p d then some false else x) (some true) l=some (decide (∀z∈l,¬p z))
 | []=>by simp[Nn]
 |x::xs=>by
  show(if p x then some false else Nn _ (some true) xs)=_;rw[Mw p xs];by_cases h:p x
  ·rw[if_pos h];congr 1;symm;exact zA8 λc=>c x (zA7 ..) h
  ·rw[if_neg h];congr 1;apply decide_eq_decide.2;simp[h]
def QC (c:g_) (v i:Nat) (z:(Int×Int)×Int):Prop:=∃a b:Nat,(a<v∨(a=v∧b<i))∧b<(at' c (a:Int)).length∧z=(((a:Int),(fU (at' c (a:Int)) b).1),(fU (at' c (a:Int)) b).2)
def NJ (a:g_):Prop:=(∀v,v<a.length->xE (at' a (v:Int)) v a.length)∧∀v,v<a.length->∀i,i<(at' a (v:Int)).length->NI ([],a) v i
theorem II (c:g_) (hn:c.length<=30) (hd:∀v,v<c.length->(at' c (v:Int)).length<=30):(NJ c->iB 1000 c=some true)∧(¬NJ c->iB 1000 c=some false):=by
 unfold iB;have s:∀(v:Nat) (m:List ((Int×Int)×Int)) p,v<c.length->(∀z,z∈m↔QC c v 0 z)->
   (xE (at' c (v:Int)) v c.length->∃X,(∀z,z∈X↔QC c (v+1) 0 z)∧bH (cU c ((v:Int),m) p) 1000 ((0:Int),m)=p ((v:Int)+1,X))∧
   (¬xE (at' c (v:Int)) v c.length->bH (cU c ((v:Int),m) p) 1000 ((0:Int),m)=some false):=by
  intro v m p F hm;have af:=hd v F;have R:=Io (step:=cU c ((v:Int),m) p) (K:=λx=>p ((v:Int)+1,x.2)) (bad:=false) (at' c (v:Int)).length (Lu (at' c (v:Int)) v c.length) (λi x=>x.1=(i:Int)∧∀z,z∈x.2↔QC c v i z) ?_ ?_ ?_ 1000 ((0:Int),m) ⟨rfl,hm⟩ (by omega)
  ·refine⟨λh=> ?_,λh=>R.2 h⟩
   obtain⟨x,⟨ah,ad⟩,f⟩:=R.1 h;refine⟨x.2,λz=>(ad z).trans ⟨?_,?_⟩,f⟩
   ·rintro⟨a,b,y,e,l⟩;exact⟨a,b,by omega,e,l⟩
   ·rintro⟨a,b,y,e,l⟩;refine⟨a,b,?_,e,l⟩
    by_cases W:a=v
    ·subst W;exact .inr ⟨rfl,e⟩
    ·omega
  ·rintro i ⟨H,g⟩ I M ⟨f,d⟩ ⟨p1,p2,p3,p4⟩;dsimp only at f d;subst f;have q:oC (((v:Int),(fU (at' c (v:Int)) i).1)) g=none:=by
    apply Jz;intro w hw;obtain⟨a,b,y,e,l⟩:=(d _).1 hw;simp only[Prod.mk.injEq]at l;obtain⟨⟨C,A⟩,_⟩:=l;have:a=v:=by omega
    subst this;have hb:b<i:=by omega
    exact p4 b hb A.symm
   refine⟨((i:Int)+1,Em (((v:Int),(fU (at' c (v:Int)) i).1)) (fU (at' c (v:Int)) i).2 g),⟨by simp,λz=> ?_⟩,?_⟩
   ·dsimp only;rw[Rt q,d];constructor
    ·rintro(rfl|⟨a,b,y,e,l⟩)
     ·exact⟨v,i,.inr ⟨rfl,by omega⟩,M,rfl⟩
     ·exact⟨a,b,by omega,e,l⟩
    ·rintro⟨a,b,y,e,l⟩;by_cases J:a=v∧b=i
     ·left;rw[l,J.1,J.2]
     ·right;exact⟨a,b,by omega,e,l⟩
   ·replace p1:0<=(at' (at' c (v:Int)) (i:Int)).1∧(at' (at' c (v:Int)) (i:Int)).1<=(c.length:Int) - 1:=p1;replace p3:1<=(at' (at' c (v:Int)) (i:Int)).2∧(at' (at' c (v:Int)) (i:Int)).2<=15:=p3;unfold cU iM jZ;dsimp only;rw[if_pos (by omega),cK (by omega),if_neg (by omega),if_neg (by omega),if_neg (by rw[zA8 p2];simp),if_neg (by omega),if_neg (by rw[zA8 (by omega)];simp),q,if_neg (by simp),wr (by omega) (by omega)]
  ·rintro i ⟨H,g⟩ I M ⟨f,d⟩ P;dsimp only at f d;subst f;unfold cU iM jZ;dsimp only;rw[if_pos (by omega),cK (by omega)];by_cases y:(fU (at' c (v:Int)) i).1<0
   ·rw[if_pos y,if_pos Z]
   rw[if_neg y];by_cases e:(c.length:Int)<=(fU (at' c (v:Int)) i).1
   ·rw[if_pos e,if_pos Z]
   rw[if_neg e];by_cases l:(fU (at' c (v:Int)) i).1=v
   ·rw[if_pos (zA9 l)]
   rw[if_neg (by rw[zA8 l];simp)];by_cases C:(fU (at' c (v:Int)) i).2<1
   ·rw[if_pos C,if_pos Z]
   rw[if_neg C];by_cases A:15<(fU (at' c (v:Int)) i).2
   ·rw[if_pos (zA9 A)]
   rw[if_neg (by rw[zA8 A];simp)];have:∃k,k<i∧(fU (at' c (v:Int)) k).1=(fU (at' c (v:Int)) i).1:=by
    apply Classical.byContradiction;intro hc;exact P ⟨by omega,l,by omega,λk N L=>hc ⟨k,N,L⟩⟩
   obtain⟨k,N,L⟩:=this;have n:=(d _).2 ⟨v,k,.inr ⟨rfl,N⟩,by omega,rfl⟩;rw[if_pos];rw[<-L];cases q:oC (((v:Int),(fU (at' c (v:Int)) k).1)) g with
   |some w=>rfl
   | none => exact absurd n (by
     intro n;exact wV q n)
  ·rintro⟨H,g⟩ I ⟨f,d⟩;dsimp only at f d;subst f;unfold cU oO;dsimp only;rw[if_neg (by omega),wr (by omega) (by omega)]
 have t:=Io (step:=dN 1000 c) (K:=λx=>jY x.2) (bad:=false) c.length (λv=>xE (at' c (v:Int)) v c.length) (λv x=>x.1=(v:Int)∧∀z,z∈x.2↔QC c v 0 z) ?_ ?_ ?_ 1000 ((0:Int),[]) ⟨rfl,λz=>⟨λh=>(by cases h),fun⟨a,b,y,_⟩=>(by omega)⟩⟩ (by omega)
 rotate_left
 ·rintro v ⟨H,g⟩ p F ⟨f,d⟩ P;dsimp only at f d;subst f;obtain⟨X,y,e⟩:=(s v g p F d).1 P;refine⟨((v:Int)+1,X),⟨by simp,y⟩,?_⟩
  ·unfold dN;dsimp only;rw[if_pos (by omega),cK (by omega)];exact e
 ·rintro v ⟨H,g⟩ p F ⟨f,d⟩ P;dsimp only at f d;subst f;unfold dN;dsimp only;rw[if_pos (by omega),cK (by omega)];exact(s v g p F d).2 P
 ·rintro⟨H,g⟩ p ⟨f,d⟩;dsimp only at f d;subst f;unfold dN;dsimp only;rw[if_neg (by omega)]
 by_cases D:∀v,v<c.length->xE (at' c (v:Int)) v c.length
 rotate_left
 ·exact⟨λh=>absurd h.1 D,λ_=>t.2 D⟩
 obtain⟨⟨H,g⟩,⟨f,d⟩,L⟩:=t.1 D;rw[L];dsimp only at d ⊢;have N:jY g=some (decide (∀z∈g,¬(Option.getD (oC (z.1.2,z.1.1) g) (0:Int))≠z.2)):=Mw (λz:(Int×Int)×Int=>(Option.getD (oC (z.1.2,z.1.1) g) (0:Int))≠z.2) g;rw[N];have E:(∀z∈g,¬(Option.getD (oC (z.1.2,z.1.1) g) (0:Int))≠z.2)↔∀v,v<c.length->∀i,i<(at' c (v:Int)).length->NI ([],c) v i:=by
  constructor
  ·intro h v F i M;have hw:=(D v F i M).2.2.1;have n:=(d (((v:Int),(fU (at' c (v:Int)) i).1),(fU (at' c (v:Int)) i).2)).2 ⟨v,i,.inl F,M,rfl⟩;have e:=Decidable.not_not.1 (h _ n);dsimp only at e;cases q:oC ((fU (at' c (v:Int)) i).1,(v:Int)) g with
   |none=>rw[q]at e;simp only[Option.getD]at e;omega
   | some w =>
    rw[q]at e;simp only[Option.getD]at e;obtain⟨a,b,l,C,A⟩:=(d _).1 (Dw q);simp only[Prod.mk.injEq]at A;obtain⟨⟨T,U⟩,h8⟩:=A;refine⟨b,?_,?_,?_⟩
    ·show b<(at' c (fU (at' c (v:Int)) i).1).length;rw[T];exact C
    ·show(fU (at' c (fU (at' c (v:Int)) i).1) b).1=v;rw[T];exact U.symm
    ·show(fU (at' c (fU (at' c (v:Int)) i).1) b).2=(fU (at' c (v:Int)) i).2;rw[T,<-h8];exact e
  ·intro h z hz ac;obtain⟨a,b,l,C,rfl⟩:=(d z).1 hz;have W:a<c.length:=by omega
   apply ac;obtain⟨j,r,o,B⟩:=h a W b C;have hu:=(D a W b C).1;obtain⟨u,Q⟩:∃u:Nat,(fU (at' c (a:Int)) b).1=u:=⟨(fU (at' c (a:Int)) b).1.toNat,by omega⟩
   replace r:j<(at' c (fU (at' c (a:Int)) b).1).length:=r;replace o:(fU (at' c (fU (at' c (a:Int)) b).1) j).1=a:=o;replace B:(fU (at' c (fU (at' c (a:Int)) b).1) j).2=(fU (at' c (a:Int)) b).2:=B;rw[Q]at r o B;have G:u<c.length:=by omega
   dsimp only;rw[Q,<-B];have n:=(d (((u:Int),(fU (at' c (u:Int)) j).1),(fU (at' c (u:Int)) j).2)).2 ⟨u,j,.inl G,r,rfl⟩;rw[o]at n;cases q:oC ((u:Int),(a:Int)) g with
   |none=>exact absurd n (wV q)
   | some w =>
    obtain⟨Y,S,ae,aa,A⟩:=(d _).1 (Dw q);simp only[Prod.mk.injEq]at A;obtain⟨⟨T,U⟩,h8⟩:=A;have:Y=u:=by omega
    subst this;have ab:S=j:=by
     rcases zB0 S j with O|O|O
     ·exact absurd (U.symm.trans o.symm) ((D Y G j r).2.2.2 S O)
     ·exact O
     ·exact absurd (o.trans U) ((D Y G S aa).2.2.2 j O)
    subst ab;exact h8
 by_cases V:∀v,v<c.length->∀i,i<(at' c (v:Int)).length->NI ([],c) v i
 ·rw[zA9 (E.2 V)];exact⟨λ_=>rfl,λh=>absurd ⟨D,V⟩ h⟩
 ·rw[zA8 (λh=>V (E.1 h))];exact⟨λh=>absurd h.2 V,λ_=>rfl⟩
theorem MC:∀(N:Nat) (f:Nat->Nat) (k:Nat),(∀i,i<k->f i<N)->(∀i j,i<j->j<k->f i≠f j)->k<=N
 |0,f,k,h,_=>by
  cases k with
  |zero=>omega
  |succ k=>exact absurd (h 0 (by omega)) (by omega)
 | N + 1, f, k, h, hd => by
  by_cases b:∃a,a<k∧f a=N
  ·obtain⟨a,g,l⟩:=b;have:=MC N (λi=>if i<a then f i else f (i+1)) (k - 1) (λi c=>by
    split
    ·have:=h i (by omega);have:=hd i a (by omega) g;omega
    ·have:=h (i+1) (by omega);have:=hd a (i+1) (by omega) (by omega);omega) (λi j d m=>by
    split<;>split
    ·exact hd i j d (by omega)
    ·exact hd i (j+1) (by omega) (by omega)
    ·omega
    ·exact hd (i+1) (j+1) (by omega) (by omega))
   omega
  ·have:=MC N f k (λi c=>by
    have:=h i c;have:f i≠N:=λe=>b ⟨i,c,e⟩;omega) hd
   omega
theorem TA {l:cC} {v n:Nat} (b:v<n) (h:xE l v n):l.length<n:=by
 have:=MC n (λi=>if i=l.length then v else(fU l i).1.toNat) (l.length+1) (λi e=>by
  split
  ·exact b
  ·have:=(h i (by omega)).1;omega) (λi j a f=>by
  rw[if_neg (by omega)];have c:=(h i (by omega)).1;split
  ·have:=(h i (by omega)).2.1;omega
  ·have d:=(h j (by omega)).1;have:=(h j (by omega)).2.2.2 i a;omega)
 omega
theorem IU (g:GR) (j:light g):(VG g->fJ 1000 g=some true)∧(¬VG g->fJ 1000 g=some false):=by
 obtain⟨e,f,i⟩:=j;unfold fJ rM rO;by_cases l:g.1.length<1
 ·rw[if_pos (by omega)];exact⟨λh=>by have:=h.n1;have:=h.len;omega,λ_=>rfl⟩
 rw[if_neg (by omega)];by_cases m:24<g.1.length
 ·rw[if_pos (by omega)];exact⟨λh=>by have:=h.n24;have:=h.len;omega,λ_=>rfl⟩
 rw[if_neg (by omega)];by_cases d:g.1.length=g.2.length
 rotate_left
 ·rw[zA9 (by omega)];exact⟨λh=>absurd h.len d,λ_=>rfl⟩
 rw[zA8 (by omega),if_neg (by simp)];by_cases b:∀k,k<g.1.length->XH g.1 k
 rotate_left
 ·rw[(xG g.1 e).2 b,bB Z];exact⟨λh=>absurd (λk n=>⟨(h.node k (by omega)).id,(h.node k (by omega)).ids⟩) b,λ_=>rfl⟩
 rw[(xG g.1 e).1 b,bB Z,if_pos Z];by_cases a:NJ g.2
 ·rw[(II g.2 f i).1 a];exact⟨λ_=>rfl,λh=>absurd ⟨by omega,by omega,d,λv c=>⟨(b v (by omega)).1,TA c (a.1 v c),a.1 v c,(b v (by omega)).2⟩,a.2⟩ h⟩
 ·rw[(II g.2 f i).2 a];exact⟨λh=>absurd ⟨λv c=>(h.node v c).links,h.sym⟩ a,λ_=>rfl⟩
theorem VG.light {g:GR} (h:VG g):light g:=⟨by have:=h.n24;have:=h.len;omega,by have:=h.n24;omega,λv a=>by have:=(h.node v a).deg;have:=h.n24;omega⟩
abbrev D (d:aO) (v:Nat):Int:=at' d (v:Int)
def KH (g:GR) (v u:Nat):Prop:=∃i,i<(row g v).length∧(fU (row g v) i).1=(u:Int)
theorem VG.port {g:GR} (h:VG g) {v i:Nat} (b:v<g.2.length) (a:i<(row g v).length):∃u:Nat,u<g.2.length∧(fU (row g v) i).1=(u:Int)∧KH g v u:=by
 have c:=((h.node v b).links i a).1;exact⟨(fU (row g v) i).1.toNat,by omega,by omega,i,a,by omega⟩
theorem VG.back {g:GR} (h:VG g) {v u:Nat} (f:v<g.2.length) (c:KH g v u):KH g u v:=by
 obtain⟨i,d,e⟩:=c;obtain⟨j,b,a,_⟩:=h.sym v f i d;rw[e]at b a;exact⟨j,b,a⟩
theorem VG.adj_lt {g:GR} (h:VG g) {v u:Nat} (c:v<g.2.length) (a:KH g v u):u<g.2.length:=by
 obtain⟨i,b,d⟩:=a;have:=((h.node v c).links i b).1;omega
def Ig (d:aO):Nat:=d.countP λx=>decide (x<0)
structure SX (g:GR) (s:Nat) (d:aO):Prop where
 len:d.length=g.2.length
 lo:∀v,v<g.2.length -> -1<=D d v
 zero:∀v,v<g.2.length->(D d v=0↔v=s)
 near:∀v,v<g.2.length->0<D d v->∃u,u<g.2.length∧KH g v u∧D d u=D d v - 1
 hi:∀v,v<g.2.length->D d v+(Ig d:Int)<=(g.2.length:Int)
structure Qu (g:GR) (q d:aO) (b:Int) (done:Nat->Prop):Prop where
 mem:∀y∈q,∃v,v<g.2.length∧y=((v:Nat):Int)∧0<=D d v
 top:∀v,v<g.2.length->D d v<=b
 sort:q.Pairwise λa c=>at' d a<=at' d c
 done:∀v,v<g.2.length->0<=D d v->((v:Nat):Int)∉q->done v->∀u,u<g.2.length->KH g v u->0<=D d u∧D d u<=D d v+1
theorem FV {d:aO} {v:Nat} (h:v<d.length):D d v=d[v]:=by
 rw[D,lF,zA6,zA0 h];rfl
theorem LU {d:aO} {u:Nat} {x:Int} (a:u<d.length) (b:D d u<0) (e:0<=x):Ig (d.set u x)+1=Ig d:=by
 unfold Ig;rw[List.countP_set a];have c:0<d.countP λx=>decide (x<0):=by
  rw[List.countP_pos_iff];exact⟨d[u],List.getElem_mem a,by rw[<-FV a];simpa using b⟩
 rw[FV a]at b;rw[if_pos (by simpa using b),if_neg (by simp;omega)];omega
theorem assign {g:GR} {s:Nat} {q d:aO} {b:Int} {done:Nat->Prop} (E:VG g) (l:SX g s d) {x u:Nat} (m:Qu g q d (D d x+1) done) (B:x<g.2.length) (K:0<=D d x) (J:u<g.2.length) (t:D d u<0) (F:KH g x u):
  SX g s (d.set u (D d x+1))∧Qu g (q++[(u:Int)]) (d.set u (D d x+1)) (D d x+1) done:=by
 have o:=l.len;have e:∀v,D (d.set u (D d x+1)) v=if v=u then D d x+1 else D d v:=λv=>qQ _ _ _ _ (by omega);have G:=LU (x:=D d x+1) (by omega:u<d.length) t (by omega);refine⟨⟨by simp[o],λv f=> ?_,λv f=> ?_,λv f=> ?_,λv f=> ?_⟩,⟨λy j=> ?_,λv f=> ?_,?_,λv f k n H w A i=> ?_⟩⟩
 ·rw[e];split
  ·omega
  ·exact l.lo v f
 ·rw[e];split
  ·rename_i h;subst h;have:=(l.zero v f)
   constructor
   ·intro;omega
   ·intro h;have:=this.2 h;omega
  ·exact l.zero v f
 ·rw[e];split
  ·rename_i h;subst h;intro _;refine⟨x,B,E.back B F,?_⟩
   rw[e,if_neg (by intro h;subst h;omega)];omega
  ·intro k;obtain⟨w,A,i,I⟩:=l.near v f k;refine⟨w,A,i,?_⟩
   rw[e,if_neg (by intro h;subst h;omega)];exact I
 ·rw[e];split
  ·have:=l.hi x B;omega
  ·have:=l.hi v f;omega
 ·rcases List.mem_append.1 j with j|j
  ·obtain⟨v,f,rfl,k⟩:=m.mem y j;refine⟨v,f,rfl,?_⟩
   rw[e];split<;>omega
  ·simp only[List.mem_singleton]at j;refine⟨u,J,j,?_⟩
   rw[e,if_pos Z];omega
 ·rw[e];split
  ·omega
  ·exact m.top v f
 ·rw[List.pairwise_append];have n:∀y∈q,at' (d.set u (D d x+1)) y=at' d y:=by
   intro y j;obtain⟨v,f,rfl,k⟩:=m.mem y j;have:=e v;rw[if_neg (by intro h;subst h;omega)]at this;exact this
  refine⟨m.sort.imp_of_mem λ{a c} h1 r h=> ?_,List.pairwise_singleton ..,λy j z C=> ?_⟩
  ·rw[n a h1,n c r];exact h
  ·simp only[List.mem_singleton]at C;subst C;rw[n y j];have r:=e u;rw[if_pos Z]at r;obtain⟨v,f,rfl,k⟩:=m.mem y j;have:=m.top v f;show D d v<=D (d.set u (D d x+1)) u;omega
 ·have p:v≠u:=by
   rintro rfl;exact n (by simp)
  rw[e,if_neg p]at k;rw[e v,if_neg p];have:=m.done v f k (λh=>n (List.mem_append_left _ h)) H w A i;rw[e w,if_neg (by rintro rfl;omega)];exact this
theorem PW {g:GR} (E:VG g) {s x:Nat} (I:x<g.2.length) (a e:aO) (R:List Int×aO->Option aO) (r:aO->Prop)
  (o:SX g s e) (ae:0<=D e x) (m:Qu g a e (D e x+1) (λv=>v≠x)) (hm:a.length+Ig e<=g.2.length)
  (K:∀q d,SX g s d->D d x=D e x->Qu g q d (D d x+1) (λ_=>True)->q.length+Ig d=a.length+Ig e->(∀y∈q,D e x<=at' d y)->OK r (R (q,d)))
  (l:∀y∈a,D e x<=at' e y):
  OK r (bH (sS g ((x:Int)::a,e) R) 1000 ((0:Int),a,e)):=by
 have U:=(E.node x I).deg;have aa:=E.n24;refine vJ (λz:Int×List Int×aO=>∃k:Nat,z.1=k∧k<=(row g x).length∧SX g s z.2.2∧D z.2.2 x=D e x∧Qu g z.2.1 z.2.2 (D e x+1) (λv=>v≠x)∧z.2.1.length+Ig z.2.2=a.length+Ig e∧(∀i,i<k->∀u:Nat,(fU (row g x) i).1=u->0<=D z.2.2 u)∧(∀y∈z.2.1,D e x<=at' z.2.2 y)) (λz=>31 - z.1.toNat) ?_ 1000 _ ⟨0,rfl,by omega,o,rfl,m,rfl,λi L=>by omega,l⟩ (by simp);rintro⟨z1,q,d⟩ X ⟨k,W,hk,o,f,m,A,F,l⟩ p;dsimp only at W o f m A F l;subst W;have V:=o.len;have e0:at' ((x:Int)::a) 0=(x:Int):=rfl;unfold sS sR;dsimp only;rw[e0];by_cases N:k<(row g x).length
 ·rw[if_pos (show(k:Int)<((row g x).length:Int) by omega),cK (show 0<=(k:Int)∧(k:Int)<((row g x).length:Int) by omega)];obtain⟨u,G,O,j⟩:=E.port I N;rw[show at' (at' g.2 (x:Int)) (k:Int)=fU (row g x) k from rfl,O,cK (by omega)];have ac:=o.hi x I;by_cases c:at' d (u:Int)<0
  ·have J:Qu g q d (D d x+1) (λv=>v≠x):=by rw[f];exact m
   obtain⟨Y,c2⟩:=assign (b:=0) E o J I (by omega) G c j;have ab:=LU (x:=D d x+1) (by omega:u<d.length) c (by omega);have n:∀v,D (d.set u (D d x+1)) v=if v=u then D d x+1 else D d v:=λv=>qQ _ _ _ _ (by omega);have Q:x≠u:=by rintro rfl;have:D d x<0:=c;omega
   rw[if_pos c,cK (by omega),cK (by omega),cK (by simp only[List.length_singleton];omega),wr (x:=(k:Int)+1) (by omega) (by omega),wr (x:=at' d (x:Int)+1) (by show -9223372036854775808<=D d x+1;omega) (by show D d x+1<=_;omega)];refine p _ ⟨k+1,by simp,by omega,Y,?_,?_,?_,?_,?_⟩ (by dsimp only;omega)
   ·show D (d.set u (D d x+1)) x=_;rw[n,if_neg Q];exact f
   ·rw[<-f];exact c2
   ·show(q++[(u:Int)]).length+Ig (d.set u (D d x+1))=_;simp only[zAi,List.length_singleton];omega
   ·intro i L w P;show 0<=D (d.set u (D d x+1)) w;rw[n];split
    ·omega
    ·by_cases t:i=k
     ·subst t;omega
     ·exact F i (by omega) w P
   ·intro y B;show D e x<=at' (d.set u (D d x+1)) y;rcases List.mem_append.1 B with B|B
    ·have h1:=l y B;obtain⟨v,H,rfl,S⟩:=m.mem y B;have T:=n v;rw[if_neg (by intro h;subst h;have:D d v<0:=c;omega)]at T;rw[show at' (d.set u (D d x+1)) (v:Int)=D d v from T];exact h1
    ·simp only[List.mem_singleton]at B;subst B;rw[show at' (d.set u (D d x+1)) (u:Int)=D d x+1 from(n u).trans (if_pos Z)];omega
  ·rw[if_neg c,wr (by omega) (by omega)];refine p _ ⟨k+1,by simp,by omega,o,f,m,A,?_,l⟩ (by dsimp only;omega);intro i L w P;by_cases t:i=k
   ·subst t;have:w=u:=by omega
    subst this;show 0<=at' d (w:Int);omega
   ·exact F i (by omega) w P
 ·rw[if_neg (show¬(k:Int)<((row g x).length:Int) by omega)];have ad:k=(row g x).length:=by omega
  refine K q d o f ⟨m.mem,λv H=>by rw[f];exact m.top v H,m.sort,λv H S hq _ u G j=> ?_⟩ A l;by_cases C:v=x
  ·subst C;obtain⟨i,L,M⟩:=j;exact⟨F i (by omega) u M,by rw[f];exact m.top u G⟩
  ·exact m.done v H S hq C u G j
structure BK (g:GR) (s:Nat) (d:aO):Prop where
 len:d.length=g.2.length
 lo:∀v,v<g.2.length -> -1<=D d v
 zero:∀v,v<g.2.length->(D d v=0↔v=s)
 near:∀v,v<g.2.length->0<D d v->∃u,u<g.2.length∧KH g v u∧D d u=D d v - 1
 next:∀v,v<g.2.length->0<=D d v->∀u,u<g.2.length->KH g v u->0<=D d u∧D d u<=D d v+1
 hi:∀v,v<g.2.length->D d v<=(g.2.length:Int)
theorem Si {g:GR} (t:VG g) {s:Nat} (f:aO) (k:aO) (b:SX g s f) (c:Qu g k f (match k with|[]=>1000|y::_=>at' f y+1) (λ_=>True)) (j:k.length+Ig f<=g.2.length):
  OK (BK g s) (bH (pP 1000 g) 1000 (k,f)):=by
 have G:=t.n24;refine vJ (λz:List Int×aO=>SX g s z.2∧Qu g z.1 z.2 (match z.1 with|[]=>1000|y::_=>at' z.2 y+1) (λ_=>True)∧z.1.length+Ig z.2<=g.2.length) (λz=>z.1.length+Ig z.2) ?_ 1000 _ ⟨b,c,j⟩ (by dsimp only;omega);rintro⟨q,d⟩ C ⟨b,c,j⟩ m;dsimp only at b c j;unfold pP xL;dsimp only;cases q with
 |nil=>
  rw[if_neg (by simp)];exact⟨d,rfl,b.len,b.lo,b.zero,b.near,λv e l u n a=>c.done v e l (by simp) trivial u n a,λv e=>by have:=b.hi v e;omega⟩
 | cons y rest =>
  obtain⟨x,A,rfl,p⟩:=c.mem y (zA7 ..);have F:at' ((x:Int)::rest) 0=(x:Int):=rfl;rw[if_pos (by simp only[zAj];omega),cK (by simp only[zAj];omega),cK (by simp only[zAj];omega),F,cK (by omega)];have w:=List.pairwise_cons.1 c.sort;simp only[zAj]at j;refine PW t A rest d C _ b p ⟨λz I=>c.mem z (zAh _ I),c.top,w.2,λv e l H o u n a=>c.done v e l (λh=> ?_) trivial u n a⟩ (by omega) (λB E r J i K D=> ?_) w.1
  ·rcases zAk.1 h with h|h
   ·exact o (by omega)
   ·exact H h
  ·refine m (B,E) ⟨r,⟨i.mem,λv e=> ?_,i.sort,i.done⟩,by dsimp only;omega⟩ (by simp only[zAj];omega);dsimp only;have L:=i.top v e;cases B with
   |nil=>
    dsimp only;have:=r.hi x A;omega
   |cons z M=>
    dsimp only;have:=D z (zA7 ..);omega
theorem JI {g:GR} (l:VG g) {s:Nat} (m:s<g.2.length):OK (BK g s) (kR 1000 g (s:Int)):=by
 have q:=l.n24;unfold kR;rw[cK (by omega)];refine vJ (λz:lZ=>∃k:Nat,z.1=k∧k<=g.2.length∧z.2.length=g.2.length∧∀v,v<k->D z.2 v = -1) (λz=>31 - z.1.toNat) ?_ 1000 _ ⟨0,rfl,by omega,by simp,λv c=>by omega⟩ (by simp);rintro⟨C,d⟩ A ⟨k,o,B,e,j⟩ i;dsimp only at o e j;subst o;unfold Bh;simp only[List.length_replicate,zAc];by_cases u:k<g.2.length
 ·rw[if_pos (by omega),cK (by omega),wr (by omega) (by omega)];refine i _ ⟨k+1,by simp,by omega,by simp[e],λv c=> ?_⟩ (by dsimp only;omega);show at' (d.set k (-1)) (v:Int) = -1;rw[qQ _ _ _ _ (by omega)];split
  ·rfl
  ·exact j v (by omega)
 ·rw[if_neg (by omega)];unfold Bg;rw[cK (by omega)];have b:∀v,v<g.2.length->D d v = -1:=λv c=>j v (by omega);have a:∀v,D (d.set s 0) v=if v=s then 0 else D d v:=λv=>qQ _ _ _ _ (by omega);have t:=LU (x:=0) (by omega:s<d.length) (by rw[b s m];omega) (by omega);have r:Ig d<=d.length:=List.countP_le_length ..;refine Si l _ _ ⟨by simp[e],λv c=> ?_,λv c=> ?_,λv c=> ?_,λv c=> ?_⟩ ⟨λy n=> ?_,λv c=> ?_,List.pairwise_singleton ..,λv c p w=> ?_⟩ ?_
  ·rw[zAc,a];split
   ·omega
   ·rw[b v c];omega
  ·rw[zAc,a];split
   ·rename_i h;exact⟨λ_=>h,λ_=>rfl⟩
   ·rename_i h;rw[b v c];exact⟨λf=>by omega,λf=>absurd f h⟩
  ·rw[zAc,a];split
   ·omega
   ·rw[b v c];omega
  ·rw[zAc,a];split
   ·omega
   ·rw[b v c];omega
  ·simp only[List.mem_singleton]at n;refine⟨s,m,n,?_⟩
   rw[zAc,a,if_pos Z];omega
  ·rw[zAc];have f:at' (d.set s 0) (s:Int)=0:=(a s).trans (if_pos Z);show D (d.set s 0) v<=at' (d.set s 0) (s:Int)+1;rw[f,a];split
   ·omega
   ·rw[b v c];omega
  ·rw[zAc,a,if_neg (by rintro rfl;exact w (by simp)),b v c]at p;omega
  ·rw[zAc];simp only[List.length_singleton];omega
theorem Ph {g:GR} (a:VG g) {s:Nat} (e:s<g.2.length):OK (BK g s) (qE 1000 g (s:Int)):=by
 unfold qE oM;rw[(IU g a.light).1 a,bB Z,if_neg (by simp),if_neg (by omega),zA8 (by omega),if_neg (by simp)];obtain⟨d,c,b⟩:=JI a e;rw[c];exact⟨d,rfl,b⟩
def uY (g:GR) (s:Nat):Nat->Nat->Prop
 |0,v=>v=s∧s<g.2.length
 |k+1,v=>∃u,uY g s k u∧KH g u v
theorem uY.lt {g:GR} (a:VG g) {s:Nat}:∀{k v:Nat},uY g s k v->v<g.2.length
 |0,_,h=>by obtain⟨rfl,h⟩:=h;exact h
 |_+1,_,h=>by obtain⟨u,b,c⟩:=h;exact a.adj_lt (uY.lt a b) c
theorem uY.trans {g:GR} {s t:Nat} {k:Nat} (h:uY g s k t):∀{m v:Nat},uY g t m v->uY g s (k+m) v
 |0,_,h2=>by obtain⟨rfl,_⟩:=h2;exact h
 |_+1,_,h2=>by obtain⟨u,a,b⟩:=h2;exact⟨u,uY.trans h a,b⟩
theorem Ia {g:GR} (a:VG g) {s:Nat}:∀{k v:Nat},uY g s k v->uY g v k s
 |0,_,h=>by obtain⟨rfl,h⟩:=h;exact⟨rfl,h⟩
 |k+1,v,h=>by
  obtain⟨u,b,c⟩:=h;have d:=uY.lt a b;have e:uY g v 1 u:=⟨v,⟨rfl,a.adj_lt d c⟩,a.back d c⟩
  have:=uY.trans e (Ia a b);rwa[Nat.add_comm]at this
theorem BK.le {g:GR} (a:VG g) {s:Nat} {d:aO} (h:BK g s d):∀{k v:Nat},uY g s k v->0<=D d v∧D d v<=k
 |0,v,hw=>by
  obtain⟨rfl,i⟩:=hw;have:=(h.zero v i).2 Z;omega
 |k+1,v,hw=>by
  obtain⟨u,b,c⟩:=hw;have e:=uY.lt a b;have f:=BK.le a h b;have j:=h.next u e f.1 v (a.adj_lt e c) c;omega
theorem ND {g:GR} (b:VG g) {s:Nat} {d:aO} (h:BK g s d):∀(k v:Nat),v<g.2.length->D d v=k->uY g s k v
 |0,v,hv,he=>by
  have:=(h.zero v hv).1 he;exact⟨this,by omega⟩
 |k+1,v,hv,he=>by
  obtain⟨u,c,a,e⟩:=h.near v hv (by omega);exact⟨u,ND b h k u c (by omega),b.back hv a⟩
theorem BK.pos {g:GR} (a:VG g) {s:Nat} {d:aO} (h:BK g s d) {v:Nat} (b:v<g.2.length) (c:0<=D d v):uY g s (D d v).toNat v:=
 ND a h _ v b (by omega)
theorem Rh (d:aO) (h:d.length<=30):OK (λr:Int=> -1<=r∧(∀v,v<d.length->D d v<=r)∧(r = -1∨∃v,v<d.length∧D d v=r)) (oB 1000 d):=by
 unfold oB;refine vJ (λz:eC=>∃k:Nat,z.2=k∧k<=d.length ∧ -1<=z.1∧(∀v,v<k->D d v<=z.1)∧(z.1 = -1∨∃v,v<k∧D d v=z.1)) (λz=>31 - z.2.toNat) ?_ 1000 _ ⟨0,rfl,by omega,by omega,λv b=>by omega,.inl Z⟩ (by simp);rintro⟨m,z⟩ n ⟨k,j,o,g,c,a⟩ e;dsimp only at j g c a;subst j;unfold zI tR;dsimp only;by_cases l:k<d.length
 ·rw[if_pos (by omega),cK (by omega),wr (by omega) (by omega)];refine e _ ⟨k+1,by simp,by omega,by dsimp only;omega,λv b=> ?_,?_⟩ (by dsimp only;omega)
  ·by_cases f:v=k
   ·subst f;show D d v<=max m (D d v);omega
   ·have:=c v (by omega);show D d v<=max m (D d k);omega
  ·by_cases p:m<=D d k
   ·exact .inr ⟨k,by omega,by show D d k=max m (D d k);omega⟩
   ·rcases a with a|⟨v,b,i⟩
    ·left;show max m (D d k) = -1;omega
    ·exact .inr ⟨v,by omega,by show D d v=max m (D d k);omega⟩
 ·rw[if_neg (by omega)];refine⟨m,rfl,g,λv b=>c v (by omega),?_⟩
  rcases a with a|⟨v,b,i⟩
  ·exact .inl a
  ·exact .inr ⟨v,by omega,i⟩
def Cv (g:GR):Prop:=∀u v,u<g.2.length->v<g.2.length->∃k,uY g u k v
theorem DY {g:GR} (a:VG g):(Cv g->cW 1000 g=some true)∧(¬Cv g->cW 1000 g=some false):=by
 have r:=a.n1;have n:=a.n24;unfold cW;obtain⟨d,o,e⟩:=JI a (s:=0) (by omega);have j:=e.len;rw[(IU g a.light).1 a,bB Z,if_neg (by simp),show kR 1000 (g.1,g.2) 0=some d from o,bB Z];have c:=Py (step:=lT d) (K:=some true) (bad:=false) d.length (λv=>0<=D d v) (λk i f p=> ?_) (λk i f p=> ?_) (λi=> ?_) 1000 (by omega)
 ·have b:(∀v,v<d.length->0<=D d v)↔Cv g:=by
   constructor
   ·intro h u v q l;exact⟨_,uY.trans (Ia a (BK.pos a e q (h u (by omega)))) (BK.pos a e l (h v (by omega)))⟩
   ·intro h v l;obtain⟨k,f⟩:=h 0 v (by omega) (by omega);exact(BK.le a e f).1
  exact⟨λh=>c.1 (b.2 h),λh=>c.2 λm=>h (b.1 m)⟩
 ·unfold lT;rw[if_pos (by omega),cK (by omega),if_neg (show¬D d k<0 by omega),wr (by omega) (by omega)]
 ·unfold lT;rw[if_pos (by omega),cK (by omega),if_pos (show D d k<0 by omega)]
 ·unfold lT sH;rw[if_neg (by omega)]
def Ecc (g:GR) (s:Nat) (r:Int):Prop:=∃d,kR 1000 g (s:Int)=some d∧BK g s d∧(∀v,v<g.2.length->D d v<=r)∧∃v,v<g.2.length∧D d v=r
theorem TD {g:GR} (e:VG g) {s:Nat} (i:s<g.2.length):∃d r,kR 1000 g (s:Int)=some d∧oB 1000 d=some r∧Ecc g s r:=by
 obtain⟨d,f,a⟩:=JI e i;have h:=a.len;have j:=e.n24;obtain⟨r,l,o,b,c⟩:=Rh d (by omega);have n:=b s (by omega);have:=(a.zero s i).2 Z;refine⟨d,r,f,l,d,f,a,λv m=>b v (by omega),?_⟩
 rcases c with c|⟨v,m,k⟩
 ·omega
 ·exact⟨v,by omega,k⟩
theorem Kw {g:GR} (a:VG g) (f:Cv g) {s:Nat} (h:s<g.2.length):OK (Ecc g s) (mP 1000 g (s:Int)):=by
 unfold mP lN;rw[(DY a).1 f,bB Z,if_neg (by simp),if_neg (by omega),zA8 (by omega),if_neg (by simp)];obtain⟨d,r,b,c,e⟩:=TD a h;rw[b,bB Z,c,bB Z];exact⟨r,rfl,e⟩
theorem Xe (g:GR) (v:Nat) (u:Int) (m:v<g.2.length) (l:(row g v).length<=30):uJ 1000 g v u=some (En (row g v) u):=by
 unfold uJ;rw[cK (by omega)];rcases PO (row g v) u with⟨i,j,h,c,b⟩|⟨c,b⟩
 ·rw[b];refine Lc (λx:Int=>∃k:Nat,x=k∧k<=i) (λx=>31 - x.toNat) ?_ 1000 _ ⟨0,rfl,by omega⟩ (by omega);rintro x d ⟨k,rfl,f⟩ a;unfold xK;rw[if_pos (show(k:Int)<((row g v).length:Int) by omega),cK (show 0<=(k:Int)∧(k:Int)<((row g v).length:Int) by omega)];by_cases e:k=i
  ·subst e;exact if_pos h
  ·rw[if_neg (c k (by omega)),wr (by omega) (by omega)];exact a _ ⟨k+1,by omega,by omega⟩ (by omega)
 ·rw[b];refine Lc (λx:Int=>∃k:Nat,x=k∧k<=(row g v).length) (λx=>31 - x.toNat) ?_ 1000 _ ⟨0,rfl,by omega⟩ (by omega);rintro x d ⟨k,rfl,f⟩ a;unfold xK;by_cases e:k<(row g v).length
  ·rw[if_pos (show(k:Int)<((row g v).length:Int) by omega),cK (show 0<=(k:Int)∧(k:Int)<((row g v).length:Int) by omega),if_neg (c k e),wr (by omega) (by omega)];exact a _ ⟨k+1,by omega,by omega⟩ (by omega)
  ·rw[if_neg (show¬(k:Int)<((row g v).length:Int) by omega)];rfl
section
def ajf (f:Nat->Nat):Nat->Nat
 |0=>0
 |k+1=>ajf f k+f k
open Classical in
noncomputable def ind (p:Prop):Nat:=if p then 1 else 0
end
theorem OB (a:Nat) (h:a<4294967296):IntKind.u32.wrap (a:Int)=a:=by rw[<-DJ];exact if_pos ⟨by omega,by omega⟩
def Qx (x:Int):Nat:=(BitVec.ofInt 32 x).toNat
theorem Lw (x:Int):Qx x<4294967296:=(BitVec.ofInt 32 x).isLt
theorem AB {a:Nat} (h:a<4294967296):Qx (a:Int)=a:=by
 unfold Qx;rw[BitVec.ofInt_natCast,BitVec.toNat_ofNat];exact Nat.mod_eq_of_lt h
theorem OT (x y:Int):eW .u32 x y=((Qx x &&& Qx y:Nat):Int):=by
 show IntKind.u32.wrap (((BitVec.ofInt 32 x &&& BitVec.ofInt 32 y).toNat:Nat):Int)=_;rw[BitVec.toNat_and];exact OB _ (Nat.lt_of_le_of_lt Nat.and_le_left (Lw x))
theorem aeF (x y:Int):Nk .u32 x y=((Qx x ||| Qx y:Nat):Int):=by
 show IntKind.u32.wrap (((BitVec.ofInt 32 x ||| BitVec.ofInt 32 y).toNat:Nat):Int)=_;rw[BitVec.toNat_or];exact OB _ (Nat.or_lt_two_pow (n:=32) (Lw x) (Lw y))
theorem Yo (x y:Int):xF .u32 x y=0↔∀i,(Qx x).testBit i=true->(Qx y).testBit i=true:=by
 have e:xF .u32 x y=(((BitVec.ofInt 32 x &&& ~~~ BitVec.ofInt 32 y).toNat:Nat):Int):=OB _ (BitVec.ofInt 32 x &&& ~~~ BitVec.ofInt 32 y).isLt;have b:∀i,(BitVec.ofInt 32 x &&& ~~~ BitVec.ofInt 32 y).toNat.testBit i=((Qx x).testBit i&&(decide (i<32) && !(Qx y).testBit i)):=by
  intro i;have:=BitVec.getLsbD_and (x:=BitVec.ofInt 32 x) (y:= ~~~ BitVec.ofInt 32 y) (i:=i);rw[BitVec.getLsbD_not]at this;exact this
 have d:∀i,(Qx x).testBit i=true->i<32:=by
  intro i a;apply Classical.byContradiction;intro f;rw[Nat.testBit_lt_two_pow (zAo (Lw x) (Nat.pow_le_pow_right (n:=2) (by omega) (show 32<=i by omega)))]at a;cases a
 rw[e];constructor
 ·intro h i a;have c:(BitVec.ofInt 32 x &&& ~~~ BitVec.ofInt 32 y).toNat=0:=by omega
  have:=b i;rw[c,Nat.zero_testBit,a,zA9 (d i a)]at this;simpa using this
 ·intro h;have:(BitVec.ofInt 32 x &&& ~~~ BitVec.ofInt 32 y).toNat=0:=by
   apply zBa;intro i;rw[b i,Nat.zero_testBit];cases a:(Qx x).testBit i with
   |false=>rfl
   |true=>rw[h i a];simp
  omega
theorem IA {k:Nat} (a:k<32):2^k<4294967296:=Nat.pow_lt_pow_right (n:=32) (by omega) a
theorem adW {k:Nat} (a:k<32):CZ .u32 1 (k:Int)=((2^k:Nat):Int):=by
 show IntKind.u32.wrap (1*2^(min ((k:Int).toNat) 32))=_;rw[zAc,Nat.min_eq_left (by omega),Int.one_mul,show(2:Int)^k=((2^k:Nat):Int) by simp];exact OB _ (IA a)
theorem KU {a k:Nat} (b:k<32):sG .u32 (a:Int) (k:Int)=((a / 2^k:Nat):Int):=by
 show Int.fdiv (a:Int) (2^(min ((k:Int).toNat) 32))=_;rw[zAc,Nat.min_eq_left (by omega),show(2:Int)^k=((2^k:Nat):Int) by simp,Int.fdiv_eq_ediv_of_nonneg _ (Int.natCast_nonneg _)];simp
theorem Zf {a k:Nat} (d:k<32) (c:a<4294967296):eW .u32 (sG .u32 (a:Int) (k:Int)) 1=1↔a.testBit k=true:=by
 have b:Qx 1=1:=AB (a:=1) (by omega);rw[KU d,OT,AB (Nat.lt_of_le_of_lt (Nat.div_le_self _ _) c),b,Nat.and_one_is_mod,Nat.testBit_eq_decide_div_mod_eq,zA1];omega
def Lq (g:GR) (s:Nat):Prop:=(∀v,s.testBit v=true->v<g.2.length)∧∀v u,s.testBit v=true->s.testBit u=true->¬KH g v u
theorem aeB {g:GR} (a:VG g):A_ 1000 g=some ((2^g.2.length - 1:Nat):Int):=by
 have c:=a.n24;have d:=a.len;have e:=IA (show g.2.length<32 by omega);have b:1<=2^g.2.length:=Nat.one_le_two_pow;unfold A_;rw[cK (by omega),d,adW (by omega),show((2^g.2.length:Nat):Int) - 1=((2^g.2.length - 1:Nat):Int) by omega];congr 1;exact if_pos ⟨by omega,by omega⟩
def T (e:aO) (k v w:Nat):Int:=if 0<=D e w∧(D e w<k∨(D e w=k∧w<v))then D e w else -1
theorem Zr {d e:aO} (c:d.length=e.length) (h:∀v,v<d.length->D d v=D e v):d=e:=by
 apply List.ext_getElem c;intro i a b;rw[<-FV a,<-FV b];exact h i a
theorem QY {g:GR} (b:VG g) {s:Nat} (i:s<g.2.length) {d:aO} (a:BK g s d):(∀v,v<d.length->0<=D d v)↔Cv g:=by
 have c:=a.len;constructor
 ·intro h u v j e;exact⟨_,uY.trans (Ia b (BK.pos b a j (h u (by omega)))) (BK.pos b a e (h v (by omega)))⟩
 ·intro h v e;obtain⟨k,f⟩:=h s v i (by omega);exact(BK.le b a f).1
theorem Zk {X R:Type} {step:X->(X->Option R)->Option R} {K:X->Option R} {bad:R} (N:Nat) (p:Nat->Prop) (I:Nat->X->Prop) (B:Nat)
  (t:∀(k:Nat) x q,k<N->k<B->I k x->p k->∃c,I (k+1) c∧step x q=q c) (l:∀(k:Nat) x q,k<N->k<B->I k x->¬p k->step x q=some bad) (s:∀x q,I N x->N<B->step x q=K x):
  ∀(b:Nat) (x:X),I 0 x->B<=b->(N<B∨∃k,k<N∧k<B∧¬p k)->((∀k,k<N->p k)->∃c,I N c∧bH step b x=K c)∧(¬(∀k,k<N->p k)->bH step b x=some bad):=by
 intro b x e v hB;have r:∀(d a b:Nat) (x:X),I a x->a+d<N->a+d<B->¬p (a+d)->d<b->bH step b x=some bad:=by
  intro d
  induction d with
  |zero=>
   intro a b x e j g i v;obtain⟨f,rfl⟩:∃f,b=f+1:=⟨b - 1,by omega⟩
   exact l a x _ j g e i
  | succ d y =>
   intro a b x e j g i v;obtain⟨f,rfl⟩:∃f,b=f+1:=⟨b - 1,by omega⟩
   by_cases u:p a
   ·obtain⟨c,n,o⟩:=t a x (bH step f) (by omega) (by omega) e u;have o:bH step (f+1) x=bH step f c:=o;rw[o];exact y (a+1) f c n (by omega) (by omega) (by rw[show a+1+d=a+(d+1) by omega];exact i) (by omega)
   ·exact l a x _ (by omega) (by omega) e u
 have m:∀(d a b:Nat) (x:X),I a x->a+d=N->N<B->(∀k,a<=k->k<N->p k)->d<b->∃c,I N c∧bH step b x=K c:=by
  intro d
  induction d with
  |zero=>
   intro a b x e j g i v;obtain⟨f,rfl⟩:∃f,b=f+1:=⟨b - 1,by omega⟩
   obtain rfl:a=N:=by omega
   exact⟨x,e,s x _ e g⟩
  |succ d y=>
   intro a b x e j g i v;obtain⟨f,rfl⟩:∃f,b=f+1:=⟨b - 1,by omega⟩
   obtain⟨c,n,o⟩:=t a x (bH step f) (by omega) (by omega) e (i a (zAe _) (by omega));have o:bH step (f+1) x=bH step f c:=o;rw[o];exact y (a+1) f c n (by omega) g (λk j g=>i k (by omega) g) (by omega)
 constructor
 ·intro h;rcases hB with hB|⟨k,j,_,g⟩
  ·exact m N 0 b x e (by omega) hB (λk _ w=>h k w) (by omega)
  ·exact absurd (h k j) g
 ·intro h;have:∃k,k<N∧k<B∧¬p k:=by
   rcases hB with hB|hB
   ·apply Classical.byContradiction;intro A;exact h λk w=>Classical.byContradiction λi=>A ⟨k,w,by omega,i⟩
   ·exact hB
  obtain⟨k,j,g,z⟩:=this;exact r k 0 b x e (by omega) (by omega) (by rw[Nat.zero_add];exact z) (by omega)
theorem Xj {a:g_} (q:a.length<=30) {v:Nat} (r:v<a.length):(at' a (v:Int)).length<1000∨∃k,k<(at' a (v:Int)).length∧k<1000∧¬Lu (at' a (v:Int)) v a.length k:=by
 by_cases h:(at' a (v:Int)).length<1000
 ·exact .inl h
 ·right;apply Classical.byContradiction;intro f;have b:∀k,k<40->Lu (at' a (v:Int)) v a.length k:=λk p=>Classical.byContradiction λl=>f ⟨k,by omega,by omega,l⟩;have:=MC a.length (λi=>(fU (at' a (v:Int)) i).1.toNat) 40 (λi g=>by have:=(b i g).1;omega) (λi j c d o=>by
   have m:=(b i (by omega)).1;have n:=(b j d).1;have e:=(b j d).2.2.2 i c;exact e (by omega))
  omega
theorem G_ (c:g_) (hn:c.length<=30):(NJ c->iB 1000 c=some true)∧(¬NJ c->iB 1000 c=some false):=by
 unfold iB;have s:∀(v:Nat) (m:List ((Int×Int)×Int)) p,v<c.length->(∀z,z∈m↔QC c v 0 z)->
   (xE (at' c (v:Int)) v c.length->∃Y,(∀z,z∈Y↔QC c (v+1) 0 z)∧bH (cU c ((v:Int),m) p) 1000 ((0:Int),m)=p ((v:Int)+1,Y))∧
   (¬xE (at' c (v:Int)) v c.length->bH (cU c ((v:Int),m) p) 1000 ((0:Int),m)=some false):=by
  intro v m p F hm;have L:=Xj hn F;have S:=Zk (step:=cU c ((v:Int),m) p) (K:=λx=>p ((v:Int)+1,x.2)) (bad:=false) (at' c (v:Int)).length (Lu (at' c (v:Int)) v c.length) (λi x=>x.1=(i:Int)∧∀z,z∈x.2↔QC c v i z) 1000 ?_ ?_ ?_ 1000 ((0:Int),m) ⟨rfl,hm⟩ (by omega) L
  ·refine⟨λh=> ?_,λh=>S.2 h⟩
   obtain⟨x,⟨ah,ae⟩,f⟩:=S.1 h;refine⟨x.2,λz=>(ae z).trans ⟨?_,?_⟩,f⟩
   ·rintro⟨a,b,y,e,l⟩;exact⟨a,b,by omega,e,l⟩
   ·rintro⟨a,b,y,e,l⟩;refine⟨a,b,?_,e,l⟩
    by_cases X:a=v
    ·subst X;exact .inr ⟨rfl,e⟩
    ·omega
  ·rintro i ⟨H,g⟩ I N ac ⟨f,d⟩ ⟨p1,p2,p3,p4⟩;dsimp only at f d;subst f;have q:oC (((v:Int),(fU (at' c (v:Int)) i).1)) g=none:=by
    apply Jz;intro w hw;obtain⟨a,b,y,e,l⟩:=(d _).1 hw;simp only[Prod.mk.injEq]at l;obtain⟨⟨C,A⟩,_⟩:=l;have:a=v:=by omega
    subst this;have hb:b<i:=by omega
    exact p4 b hb A.symm
   refine⟨((i:Int)+1,Em (((v:Int),(fU (at' c (v:Int)) i).1)) (fU (at' c (v:Int)) i).2 g),⟨by simp,λz=> ?_⟩,?_⟩
   ·dsimp only;rw[Rt q,d];constructor
    ·rintro(rfl|⟨a,b,y,e,l⟩)
     ·exact⟨v,i,.inr ⟨rfl,by omega⟩,N,rfl⟩
     ·exact⟨a,b,by omega,e,l⟩
    ·rintro⟨a,b,y,e,l⟩;by_cases J:a=v∧b=i
     ·left;rw[l,J.1,J.2]
     ·right;exact⟨a,b,by omega,e,l⟩
   ·replace p1:0<=(at' (at' c (v:Int)) (i:Int)).1∧(at' (at' c (v:Int)) (i:Int)).1<=(c.length:Int) - 1:=p1;replace p3:1<=(at' (at' c (v:Int)) (i:Int)).2∧(at' (at' c (v:Int)) (i:Int)).2<=15:=p3;unfold cU iM jZ;dsimp only;rw[if_pos (by omega),cK (by omega),if_neg (by omega),if_neg (by omega),if_neg (by rw[zA8 p2];simp),if_neg (by omega),if_neg (by rw[zA8 (by omega)];simp),q,if_neg (by simp),wr (by omega) (by omega)]
  ·rintro i ⟨H,g⟩ I N ac ⟨f,d⟩ Q;dsimp only at f d;subst f;unfold cU iM jZ;dsimp only;rw[if_pos (by omega),cK (by omega)];by_cases y:(fU (at' c (v:Int)) i).1<0
   ·rw[if_pos y,if_pos Z]
   rw[if_neg y];by_cases e:(c.length:Int)<=(fU (at' c (v:Int)) i).1
   ·rw[if_pos e,if_pos Z]
   rw[if_neg e];by_cases l:(fU (at' c (v:Int)) i).1=v
   ·rw[if_pos (zA9 l)]
   rw[if_neg (by rw[zA8 l];simp)];by_cases C:(fU (at' c (v:Int)) i).2<1
   ·rw[if_pos C,if_pos Z]
   rw[if_neg C];by_cases A:15<(fU (at' c (v:Int)) i).2
   ·rw[if_pos (zA9 A)]
   rw[if_neg (by rw[zA8 A];simp)];have:∃k,k<i∧(fU (at' c (v:Int)) k).1=(fU (at' c (v:Int)) i).1:=by
    apply Classical.byContradiction;intro hc;exact Q ⟨by omega,l,by omega,λk O M=>hc ⟨k,O,M⟩⟩
   obtain⟨k,O,M⟩:=this;have n:=(d _).2 ⟨v,k,.inr ⟨rfl,O⟩,by omega,rfl⟩;rw[if_pos];rw[<-M];cases q:oC (((v:Int),(fU (at' c (v:Int)) k).1)) g with
   |some w=>rfl
   | none => exact absurd n (by
     intro n;exact wV q n)
  ·rintro⟨H,g⟩ I ⟨f,d⟩ _;dsimp only at f d;subst f;unfold cU oO;dsimp only;rw[if_neg (by omega),wr (by omega) (by omega)]
 have t:=Io (step:=dN 1000 c) (K:=λx=>jY x.2) (bad:=false) c.length (λv=>xE (at' c (v:Int)) v c.length) (λv x=>x.1=(v:Int)∧∀z,z∈x.2↔QC c v 0 z) ?_ ?_ ?_ 1000 ((0:Int),[]) ⟨rfl,λz=>⟨λh=>(by cases h),fun⟨a,b,y,_⟩=>(by omega)⟩⟩ (by omega)
 rotate_left
 ·rintro v ⟨H,g⟩ p F ⟨f,d⟩ Q;dsimp only at f d;subst f;obtain⟨Y,y,e⟩:=(s v g p F d).1 Q;refine⟨((v:Int)+1,Y),⟨by simp,y⟩,?_⟩
  ·unfold dN;dsimp only;rw[if_pos (by omega),cK (by omega)];exact e
 ·rintro v ⟨H,g⟩ p F ⟨f,d⟩ Q;dsimp only at f d;subst f;unfold dN;dsimp only;rw[if_pos (by omega),cK (by omega)];exact(s v g p F d).2 Q
 ·rintro⟨H,g⟩ p ⟨f,d⟩;dsimp only at f d;subst f;unfold dN;dsimp only;rw[if_neg (by omega)]
 by_cases D:∀v,v<c.length->xE (at' c (v:Int)) v c.length
 rotate_left
 ·exact⟨λh=>absurd h.1 D,λ_=>t.2 D⟩
 obtain⟨⟨H,g⟩,⟨f,d⟩,M⟩:=t.1 D;rw[M];dsimp only at d ⊢;have O:jY g=some (decide (∀z∈g,¬(Option.getD (oC (z.1.2,z.1.1) g) (0:Int))≠z.2)):=Mw (λz:(Int×Int)×Int=>(Option.getD (oC (z.1.2,z.1.1) g) (0:Int))≠z.2) g;rw[O];have E:(∀z∈g,¬(Option.getD (oC (z.1.2,z.1.1) g) (0:Int))≠z.2)↔∀v,v<c.length->∀i,i<(at' c (v:Int)).length->NI ([],c) v i:=by
  constructor
  ·intro h v F i N;have hw:=(D v F i N).2.2.1;have n:=(d (((v:Int),(fU (at' c (v:Int)) i).1),(fU (at' c (v:Int)) i).2)).2 ⟨v,i,.inl F,N,rfl⟩;have e:=Decidable.not_not.1 (h _ n);dsimp only at e;cases q:oC ((fU (at' c (v:Int)) i).1,(v:Int)) g with
   |none=>rw[q]at e;simp only[Option.getD]at e;omega
   | some w =>
    rw[q]at e;simp only[Option.getD]at e;obtain⟨a,b,l,C,A⟩:=(d _).1 (Dw q);simp only[Prod.mk.injEq]at A;obtain⟨⟨U,V⟩,h8⟩:=A;refine⟨b,?_,?_,?_⟩
    ·show b<(at' c (fU (at' c (v:Int)) i).1).length;rw[U];exact C
    ·show(fU (at' c (fU (at' c (v:Int)) i).1) b).1=v;rw[U];exact V.symm
    ·show(fU (at' c (fU (at' c (v:Int)) i).1) b).2=(fU (at' c (v:Int)) i).2;rw[U,<-h8];exact e
  ·intro h z hz ad;obtain⟨a,b,l,C,rfl⟩:=(d z).1 hz;have X:a<c.length:=by omega
   apply ad;obtain⟨j,r,o,B⟩:=h a X b C;have hu:=(D a X b C).1;obtain⟨u,R⟩:∃u:Nat,(fU (at' c (a:Int)) b).1=u:=⟨(fU (at' c (a:Int)) b).1.toNat,by omega⟩
   replace r:j<(at' c (fU (at' c (a:Int)) b).1).length:=r;replace o:(fU (at' c (fU (at' c (a:Int)) b).1) j).1=a:=o;replace B:(fU (at' c (fU (at' c (a:Int)) b).1) j).2=(fU (at' c (a:Int)) b).2:=B;rw[R]at r o B;have G:u<c.length:=by omega
   dsimp only;rw[R,<-B];have n:=(d (((u:Int),(fU (at' c (u:Int)) j).1),(fU (at' c (u:Int)) j).2)).2 ⟨u,j,.inl G,r,rfl⟩;rw[o]at n;cases q:oC ((u:Int),(a:Int)) g with
   |none=>exact absurd n (wV q)
   | some w =>
    obtain⟨a',T,af,aa,A⟩:=(d _).1 (Dw q);simp only[Prod.mk.injEq]at A;obtain⟨⟨U,V⟩,h8⟩:=A;have:a'=u:=by omega
    subst this;have ab:T=j:=by
     rcases zB0 T j with P|P|P
     ·exact absurd (V.symm.trans o.symm) ((D a' G j r).2.2.2 T P)
     ·exact P
     ·exact absurd (o.trans V) ((D a' G T aa).2.2.2 j P)
    subst ab;exact h8
 by_cases W:∀v,v<c.length->∀i,i<(at' c (v:Int)).length->NI ([],c) v i
 ·rw[zA9 (E.2 W)];exact⟨λ_=>rfl,λh=>absurd ⟨D,W⟩ h⟩
 ·rw[zA8 (λh=>W (E.1 h))];exact⟨λh=>absurd h.2 W,λ_=>rfl⟩
theorem Xt (g:GR):(VG g->fJ 1000 g=some true)∧(¬VG g->fJ 1000 g=some false):=by
 unfold fJ rM rO;by_cases e:g.1.length<1
 ·rw[if_pos (by omega)];exact⟨λh=>by have:=h.n1;have:=h.len;omega,λ_=>rfl⟩
 rw[if_neg (by omega)];by_cases f:24<g.1.length
 ·rw[if_pos (by omega)];exact⟨λh=>by have:=h.n24;have:=h.len;omega,λ_=>rfl⟩
 rw[if_neg (by omega)];by_cases d:g.1.length=g.2.length
 rotate_left
 ·rw[zA9 (by omega)];exact⟨λh=>absurd h.len d,λ_=>rfl⟩
 rw[zA8 (by omega),if_neg (by simp)];by_cases b:∀k,k<g.1.length->XH g.1 k
 rotate_left
 ·rw[(xG g.1 (by omega)).2 b,bB Z];exact⟨λh=>absurd (λk i=>⟨(h.node k (by omega)).id,(h.node k (by omega)).ids⟩) b,λ_=>rfl⟩
 rw[(xG g.1 (by omega)).1 b,bB Z,if_pos Z];by_cases a:NJ g.2
 ·rw[(G_ g.2 (by omega)).1 a];exact⟨λ_=>rfl,λh=>absurd ⟨by omega,by omega,d,λv c=>⟨(b v (by omega)).1,TA c (a.1 v c),a.1 v c,(b v (by omega)).2⟩,a.2⟩ h⟩
 ·rw[(G_ g.2 (by omega)).2 a];exact⟨λh=>absurd ⟨λv c=>(h.node v c).links,h.sym⟩ a,λ_=>rfl⟩
abbrev Wl:=EU
theorem tK (v m:Int) (g:1<=m) (h:m<=4611686018427387904):gA 1000 v m=some (v%m):=by
 unfold gA tB;rw[if_neg (by omega),cK (by omega)];have c:=Int.tmod_eq_emod (a:=v) (b:=m);have f:=Int.emod_nonneg v (show m≠0 by omega);have i:=Int.emod_lt_of_pos v (show 0<m by omega);by_cases e:0<=v∨m∣v
 ·rw[if_pos e]at c;have d:v.tmod m=v%m:=by simpa using c
  rw[d,if_neg (by omega)]
 ·rw[if_neg e]at c;have:(m.natAbs:Int)=m:=by omega
  rw[c,if_pos (by omega),wr (by omega) (by omega)];congr 1;omega
theorem QR (l:aO) (i:Int) (h:0<=i):uQ 1000 l i=some (at' l i):=by
 unfold uQ;by_cases a:i<(l.length:Int)
 ·rw[if_pos a,cK ⟨h,a⟩]
 ·rw[if_neg a];unfold at';rw[zA6,zAr (by omega)];rfl
theorem Rz {i:Type} [DecidableEq i]:∀(e c:List i),e.Nodup->(∀x∈e,x∈c)->e.length<=c.length
 | [],_,_,_=>Nat.zero_le _
 | a :: t, c, hn, hs => by
  have b:=zB6.1 hn;have f:=hs a (zA7 ..);have:=Rz t (c.erase a) b.2 λx h=>by
   have d:x≠a:=λj=>b.1 (j▸h);exact(List.mem_erase_of_ne d).2 (hs x (zAh _ h))
  rw[List.length_erase_of_mem f]at this;have g:0<c.length:=List.length_pos_of_mem f;simp only[zAj];omega
theorem aav (d:Int) (c:aO) (t:Nat) (k:t<=200) (h:∀s,s<t->(d+(s:Int))%256∈c):t<=c.length:=by
 have:=Rz ((List.range t).map λs:Nat=>(d+(s:Int))%256) c (by
  rw[List.nodup_iff_pairwise_ne,List.pairwise_map];refine List.Pairwise.imp_of_mem ?_ List.pairwise_lt_range;intro a b e g f;rw[zAf]at e g;omega) (λx j=>by
  obtain⟨s,i,rfl⟩:=zAn.1 j;exact h s (zAf.1 i))
 simpa using this
structure Lo (ids:aO):Prop where
 rng:∀y∈ids,0<=y∧y<=255
 nd:ids.Nodup
theorem Lo.snoc {c:aO} {y:Int} (h:Lo c) (j:0<=y∧y<=255) (i:y∉c):Lo (c++[y]):=by
 refine⟨λz d=> ?_,?_⟩
 ·rcases List.mem_append.1 d with d|d
  ·exact h.rng z d
  ·rw[List.mem_singleton.1 d];exact j
 ·rw[List.nodup_append];refine⟨h.nd,by simp,?_⟩
  intro a e b f;rw[List.mem_singleton.1 f];exact λg=>i (g▸e)
theorem Dv {a:Type} [Inhabited a] {l:List a} {i:Nat} (h:i<l.length):at' l (i:Int)∈l:=by
 rw[lF,zA6,zA0 h];exact List.getElem_mem h
theorem FY {a:Type} [Inhabited a] {l:List a} {x:a} (h:x∈l):∃i,i<l.length∧at' l ((i:Nat):Int)=x:=by
 obtain⟨i,b,c⟩:=List.getElem_of_mem h;refine⟨i,b,?_⟩
 rw[lF,zA6,zA0 b];exact c
theorem YZ {Q:List Int×g_->Prop} {a:aO} (H:a.length<=24) (b:Int) (r:lZ->Option (List Int×g_))
  (m:∀y,0<=y->y<=255->y∉a->OK Q (r ((a.length:Int)+1,a++[y]))):OK Q (bH (mI ((a.length:Int),a) r) 1000 (b%256,0)):=by
 refine vJ (λs:eC=>∃(t u:Nat),s.1=(b+(t:Int))%256∧s.2=u∧u<=a.length∧t<=a.length∧(∀k,k<t->(b+(k:Int))%256∈a)∧∀j,j<u->at' a (j:Int)≠s.1)
  (λs=>(a.length - ((s.1 - b)%256).toNat)*30+(a.length - s.2.toNat)) ?_ 1000 _ ⟨0,0,by simp,rfl,by omega,by omega,λk p=>by omega,λj o=>by omega⟩ ?_
 ·rintro⟨i,j⟩ z ⟨t,u,g,v,F,C,w,l⟩ d;dsimp only at g v l;subst v;unfold mI uC mH;dsimp only;by_cases x:(u:Int)<(a.length:Int)
  ·rw[if_pos x,cK (by omega)];by_cases f:at' a (u:Int)=i
   ·rw[if_pos f,cK (by decide)];have n:(b+(t:Int))%256∈a:=by rw[<-g,<-f];exact Dv (by omega)
    have c:∀k,k<t+1->(b+(k:Int))%256∈a:=λk p=>by
     rcases Nat.lt_succ_iff_lt_or_eq.1 p with h|h
     ·exact w k h
     ·subst h;exact n
    have E:=aav b a (t+1) (by omega) c;have G:0<=i∧i<=255:=by omega
    rw[wr (by omega) (by omega),Int.tmod_eq_emod_of_nonneg (by omega),wr (by omega) (by omega)];refine d _ ⟨t+1,0,?_,by simp,by omega,E,c,λj o=>by omega⟩ ?_
    ·dsimp only;omega
    ·dsimp only;have A:((i+1)%256 - b)%256=(t:Int)+1:=by omega
     have B:(i - b)%256=(t:Int):=by omega
     rw[A,B];omega
   ·rw[if_neg f,wr (by omega) (by omega)];refine d _ ⟨t,u+1,g,by dsimp only;omega,by omega,C,w,λj o=> ?_⟩ ?_
    ·rcases Nat.lt_succ_iff_lt_or_eq.1 o with h|h
     ·exact l j h
     ·subst h;exact f
    ·dsimp only;omega
  ·rw[if_neg x];rw[cK (by simp;omega),wr (by omega) (by omega)];refine m i (by omega) (by omega) λD=> ?_;obtain⟨k,p,q⟩:=FY D;exact l k (by omega) q
 ·dsimp only;have e:(b%256 - b)%256=0:=by omega
  rw[e];omega
theorem ZI (x:Wl) (a:Nat) (u:1<=a) (k:a<=24):OK (λg:GR=>Lo g.1∧g.2=List.replicate g.1.length []∧1<=g.1.length∧g.1.length<=a) (qZ 1000 x (a:Int)):=by
 unfold qZ;rw[bB (tK _ _ (by omega) (by omega))];generalize f:(wI .i64 (x.1 - 1))%(a:Int)=r;have m:0<=r:=by rw[<-f];exact Int.emod_nonneg _ (by omega)
 have n:r<a:=by rw[<-f];exact Int.emod_lt_of_pos _ (by omega)
 have i:wI .i64 (1+r)=1+r:=wr (by omega) (by omega);rw[i,cK (by omega)];refine vJ (λs:lZ=>s.1=(s.2.length:Int)∧(s.2.length:Int)<=1+r∧Lo s.2) (λs=>(1+r - s.1).toNat) ?_ 1000 _ ⟨rfl,by simp;omega,⟨λy o=>by simp at o,List.nodup_nil⟩⟩ (by dsimp only;omega);rintro⟨v,d⟩ j ⟨e,l,c⟩ b;dsimp only at e l c;subst e;unfold kD pY;dsimp only;rw[i];by_cases h:(d.length:Int)<1+r
 ·rw[if_pos h,bB (QR _ _ (by omega)),bB (tK _ _ (by decide) (by decide))];exact YZ (by omega) _ j λy p q t=>b _ ⟨by simp,by simp;omega,c.snoc ⟨p,q⟩ t⟩ (by dsimp only;omega)
 ·rw[if_neg h];refine⟨_,rfl,c,?_,by dsimp only;omega,by dsimp only;omega⟩
  dsimp only;congr 1;omega
structure VM (ids:aO) (P:g_):Prop where
 n1:1<=P.length
 n24:P.length<=24
 len:ids.length=P.length
 ok:Lo ids
 nd:∀v:Nat,v<P.length->((at' P (v:Int)).map Prod.fst).Nodup
 lk:∀v:Nat,v<P.length->∀x∈at' P (v:Int),(0<=x.1∧x.1<=(P.length:Int) - 1)∧x.1≠(v:Int)∧(1<=x.2∧x.2<=15)∧((v:Int),x.2)∈at' P x.1
theorem ZJ {d:Type} [Inhabited d] {l:List d} (h:l.Nodup) {i j:Nat} (b:i<l.length) (c:j<l.length) (a:i<j):at' l (i:Int)≠at' l (j:Int):=by
 rw[lF,lF,zA6,zA6,zA0 b,zA0 c];exact List.pairwise_iff_getElem.1 (List.nodup_iff_pairwise_ne.1 h) i j b c a
theorem VM.vg {ids:aO} {P:g_} (h:VM ids P):VG (ids,P):=by
 have hlen:=h.len;have links:∀v,v<P.length->xE (row (ids,P) v) v P.length:=by
  intro v hv i hi;have hm:fU (row (ids,P) v) i∈at' P (v:Int):=Dv hi;obtain⟨a1,a2,a3,_⟩:=h.lk v hv _ hm;refine⟨a1,a2,a3,λk hk=> ?_⟩
  have hk2:k<(row (ids,P) v).length:=by omega
  have:=List.pairwise_iff_getElem.1 (List.nodup_iff_pairwise_ne.1 (h.nd v hv)) k i (by simpa using hk2) (by simpa using hi) hk;rw[List.getElem_map,List.getElem_map]at this;have e:∀j (hj:j<(row (ids,P) v).length),fU (row (ids,P) v) j=(at' P (v:Int))[j]'hj:=λj hj=>by
   unfold fU;rw[lF,zA6,zA0 hj];rfl
  rw[e k hk2,e i hi];exact this
 refine⟨h.n1,h.n24,h.len,λv hv=>⟨?_,TA hv (links v hv),links v hv,λk hk=> ?_⟩,λv hv i hi=> ?_⟩
 ·exact h.ok.rng _ (Dv (by dsimp only at hv ⊢;omega))
 ·exact ZJ h.ok.nd (by dsimp only at hv ⊢;omega) (by dsimp only at hv ⊢;omega) hk
 ·have hm:fU (row (ids,P) v) i∈at' P (v:Int):=Dv hi;obtain⟨_,_,_,a4⟩:=h.lk v hv _ hm;obtain⟨j,hj,he⟩:=FY a4;exact⟨j,hj,by unfold fU;rw[he],by unfold fU;rw[he]⟩
theorem VM.start {a:aO} (h:Lo a) (d:1<=a.length) (b:a.length<=24):VM a (List.replicate a.length []):=by
 have e:∀v:Nat,at' (List.replicate a.length ([]:cC)) (v:Int)=[]:=λv=>by
  rw[lF,zA6,List.getElem?_replicate];split<;>rfl
 refine⟨by simpa using d,by simpa using b,by simp,h,λv _=>by rw[e];exact List.nodup_nil,λv _ x c=> ?_⟩
 rw[e]at c;cases c
def oH (P:g_) (v u:Nat):Prop:=∃x∈at' P (v:Int),x.1=(u:Int)
theorem Od (d:aO) (P:g_) (a b:Nat) (u:a<P.length) (w:(at' P (a:Int)).length<=900):(oH P a b->pA 1000 (d,P) a b=some true)∧(¬oH P a b->pA 1000 (d,P) a b=some false):=by
 have c:∀(r:Bool),(r=true->oH P a b)->(r=false->¬oH P a b)->pA 1000 (d,P) a b=some r:=by
  intro r q p;unfold pA;refine Lc (λi:Int=>∃k:Nat,i=k∧k<=(at' P (a:Int)).length∧∀j,j<k->(at' (at' P (a:Int)) ((j:Nat):Int)).1≠(b:Int)) (λi=>(at' P (a:Int)).length - i.toNat) ?_ 1000 0 ⟨0,rfl,by omega,λj m=>by omega⟩ (by omega);rintro i t ⟨k,rfl,v,f⟩ g;unfold Bn yC;dsimp only;rw[cK (by omega)];by_cases o:(k:Int)<((at' P (a:Int)).length:Int)
  ·rw[if_pos o,cK (by omega),cK (by omega)];by_cases e:(at' (at' P (a:Int)) (k:Int)).1=(b:Int)
   ·rw[if_pos e];cases r with
    |true=>rfl
    |false=>exact absurd ⟨_,Dv (by omega),e⟩ (p Z)
   ·rw[if_neg e,wr (by omega) (by omega)];refine g _ ⟨k+1,by omega,by omega,λj m=> ?_⟩ (by omega);rcases Nat.lt_succ_iff_lt_or_eq.1 m with h|h
    ·exact f j h
    ·subst h;exact e
  ·rw[if_neg o];cases r with
   |false=>rfl
   |true=>
    obtain⟨x,s,e⟩:=q Z;obtain⟨j,m,n⟩:=FY s;exact absurd (by rw[n];exact e) (f j (by omega))
 exact⟨λh=>c true (λ_=>h) (λl=>by cases l),λh=>c false (λl=>by cases l) (λ_=>h)⟩
theorem abr (P:g_) (a b:Nat) (x y:cC) (e:a<P.length) (f:b<P.length) (v:Nat):at' ((P.set a x).set b y) (v:Int)=if v=b then y else if v=a then x else at' P (v:Int):=by
 rw[lF,lF,zA6,zA6,List.getElem?_set,List.getElem?_set];by_cases h:v=b
 ·subst h;rw[if_pos Z,if_pos Z,if_pos (by simpa using f)];rfl
 ·rw[if_neg (λd=>h d.symm),if_neg h];by_cases c:v=a
  ·subst c;rw[if_pos Z,if_pos Z,if_pos e];rfl
  ·rw[if_neg (λd=>c d.symm),if_neg c]
theorem VM.add {m:aO} {P:g_} (h:VM m P) {a b:Nat} {w:Int} (J:a<P.length) (A:b<P.length) (p:a≠b) (B:¬oH P a b) (D:1<=w∧w<=15)
  {x y:cC} (E:x.Perm (((b:Int),w)::at' P (a:Int))) (F:y.Perm (((a:Int),w)::at' P (b:Int))):
  VM m ((P.set a x).set b y)∧(∀v u,oH P v u->oH ((P.set a x).set b y) v u)∧oH ((P.set a x).set b y) a b:=by
 have r:¬oH P b a:=by
  rintro⟨z,g,i⟩;obtain⟨_,_,_,l⟩:=h.lk b A z g;rw[i]at l;exact B ⟨_,l,rfl⟩
 have C:=abr P a b x y J A;have k:((P.set a x).set b y).length=P.length:=by simp
 have d:∀(v:Nat) (z:eC),z∈at' ((P.set a x).set b y) (v:Int)↔z∈at' P (v:Int)∨(v=b∧z=((a:Int),w))∨(v=a∧z=((b:Int),w)):=by
  intro v z;rw[C v];by_cases f:v=b
  ·subst f;rw[if_pos Z,F.mem_iff,zAk];constructor
   ·rintro(c|c)
    ·exact .inr (.inl ⟨rfl,c⟩)
    ·exact .inl c
   ·rintro(c|⟨_,c⟩|⟨e,_⟩)
    ·exact .inr c
    ·exact .inl c
    ·exact absurd e.symm p
  ·rw[if_neg f];by_cases c:v=a
   ·subst c;rw[if_pos Z,E.mem_iff,zAk];constructor
    ·rintro(e|e)
     ·exact .inr (.inr ⟨rfl,e⟩)
     ·exact .inl e
    ·rintro(e|⟨n,_⟩|⟨_,e⟩)
     ·exact .inr e
     ·exact absurd n f
     ·exact .inl e
   ·rw[if_neg c];exact⟨.inl,λe=>e.elim id λn=>n.elim (λo=>absurd o.1 f) λo=>absurd o.1 c⟩
 refine⟨⟨by rw[k];exact h.n1,by rw[k];exact h.n24,by rw[k];exact h.len,h.ok,λv j=> ?_,λv j z g=> ?_⟩,λv u s=> ?_,?_⟩
 ·rw[k]at j;rw[C v];by_cases f:v=b
  ·subst f;rw[if_pos Z,(F.map Prod.fst).nodup_iff,zB8,zB6];exact⟨λq=>by obtain⟨z,g,i⟩:=zAn.1 q;exact r ⟨z,g,i⟩,h.nd v j⟩
  ·rw[if_neg f];by_cases c:v=a
   ·subst c;rw[if_pos Z,(E.map Prod.fst).nodup_iff,zB8,zB6];exact⟨λq=>by obtain⟨z,g,i⟩:=zAn.1 q;exact B ⟨z,g,i⟩,h.nd v j⟩
   ·rw[if_neg c];exact h.nd v j
 ·rw[k]at j ⊢;rcases(d v z).1 g with f|⟨rfl,rfl⟩|⟨rfl,rfl⟩
  ·obtain⟨G,H,I,t⟩:=h.lk v j z f;refine⟨G,H,I,?_⟩
   obtain⟨u,K⟩:∃u:Nat,z.1=u:=⟨z.1.toNat,by omega⟩
   rw[K]at t ⊢;exact(d u _).2 (.inl t)
  ·exact⟨by dsimp only;omega,by dsimp only;omega,D,(d a _).2 (.inr (.inr ⟨rfl,rfl⟩))⟩
  ·exact⟨by dsimp only;omega,by dsimp only;omega,D,(d b _).2 (.inr (.inl ⟨rfl,rfl⟩))⟩
 ·obtain⟨z,g,i⟩:=s;exact⟨z,(d v z).2 (.inl g),i⟩
 ·exact⟨_,(d a _).2 (.inr (.inr ⟨rfl,rfl⟩)),rfl⟩
theorem Vw (x:Wl) {c:aO} {P:g_} (h:VM c P) {a b:Nat} {w:Int} (g:a<P.length) (m:b<P.length) (o:1<=w∧w<=15):
  ∃f,oW 1000 x (c,P) a b w=some f∧VM c f∧f.length=P.length∧(∀v u,oH P v u->oH f v u)∧(a≠b->oH f a b):=by
 have p:=h.n24;have n:∀v:Nat,v<P.length->(at' P (v:Int)).length<24:=λv s=>by
  have:=(h.vg.node v s).deg;have e:(at' P (v:Int)).length=(row (c,P) v).length:=rfl;dsimp only at this;omega
 have t:=n a g;have z:=n b m;unfold oW;by_cases d:a=b
 ·subst d;rw[if_pos Z];exact⟨P,rfl,h,rfl,λ_ _ h=>h,λr=>absurd Z r⟩
 rw[if_neg (by omega)];by_cases i:oH P a b
 ·rw[bB ((Od c P a b g (by omega)).1 i)];exact⟨P,rfl,h,rfl,λ_ _ h=>h,λ_=>i⟩
 rw[bB ((Od c P a b g (by omega)).2 i)];unfold qV;rw[if_neg (by simp)];dsimp only;cases q:x.2.2.2.2.2 with
 | true =>
  rw[if_pos Z];have e:at' (P.set (Int.toNat (a:Int)) ([((b:Int),w)]++at' P (a:Int))) (b:Int)=at' P (b:Int):=by
   rw[lF,zA6,List.getElem?_set,if_neg (by simpa using d),lF,zA6]
  rw[e];rw[cK (by omega),cK (by simp;omega),cK (by omega),cK (by simp;omega),cK (by simp;omega),cK (by simp;omega)];obtain⟨j,k,l⟩:=h.add g m d i o (List.Perm.refl _) (List.Perm.refl _);exact⟨_,rfl,j,by simp,k,λ_=>l⟩
 |false=>
  rw[if_neg (by simp)];rw[cK (by omega),cK (by omega),cK (by simp;omega),cK (by simp;omega),cK (by simpa using d),cK (by simp;omega),cK (by simp;omega)];obtain⟨j,k,l⟩:=h.add g m d i o (x:=at' P (a:Int)++[((b:Int),w)]) (y:=at' P (b:Int)++[((a:Int),w)]) List.perm_append_comm List.perm_append_comm;exact⟨_,rfl,j,by simp,k,λ_=>l⟩
theorem Oy (v:Int):wI .i64 (1+v%15)=1+v%15∧1<=1+v%15∧1+v%15<=15:=by
 have:=Int.emod_nonneg v (show(15:Int)≠0 by decide);have:=Int.emod_lt_of_pos v (show(0:Int)<15 by decide);exact⟨wr (by omega) (by omega),by omega,by omega⟩
theorem adF (x:Wl) (c:Nat) (F:1<=c) (m:c<=24):
  OK (λg:GR=>VM g.1 g.2∧g.2.length<=c∧∀v:Nat,1<=v->v<g.2.length->∃u:Nat,u<v∧oH g.2 u v) (oV 1000 x (c:Int)):=by
 unfold oV;obtain⟨⟨d,S⟩,D,h,z,e,q⟩:=ZI x c F m;dsimp only at z h e q;rw[bB D];dsimp only;subst z;have r:=VM.start h e (by omega);refine vJ (λs:Int×g_=>∃k:Nat,s.1=k∧1<=k∧k<=d.length∧VM d s.2∧s.2.length=d.length∧∀v:Nat,1<=v->v<k->∃u:Nat,u<v∧oH s.2 u v) (λs=>d.length - s.1.toNat) ?_ 1000 _ ⟨1,rfl,by omega,e,r,by simp,λv l f=>by omega⟩ (by dsimp only;omega);rintro⟨i,P⟩ T ⟨k,B,H,I,p,G,o⟩ j;dsimp only at B p G o;subst B;unfold wD qU;dsimp only;by_cases A:(k:Int)<(P.length:Int)
 ·rw[if_pos A,wr (by omega) (by omega),bB (QR _ _ (by omega)),bB (tK _ _ (by omega) (by omega)),bB (QR _ _ (by omega)),bB (tK _ _ (by decide) (by decide))];obtain⟨N,O,Q⟩:=Oy (at' x.2.2.1 ((k:Int) - 1));rw[N];generalize C:at' x.2.1 ((k:Int) - 1)%(k:Int)=u;have U:0<=u:=by rw[<-C];exact Int.emod_nonneg _ (by omega)
  have V:u<k:=by rw[<-C];exact Int.emod_lt_of_pos _ (by omega)
  obtain⟨u,rfl⟩:∃n:Nat,u=n:=⟨u.toNat,by omega⟩
  obtain⟨R,E,K,W,L,M⟩:=Vw x p (a:=u) (b:=k) (by omega) (by omega) ⟨O,Q⟩;rw[bB E,wr (by omega) (by omega)];refine j _ ⟨k+1,by dsimp only;omega,by omega,by omega,K,by dsimp only;omega,λv l f=> ?_⟩ (by dsimp only;omega);by_cases y:v=k
  ·subst y;exact⟨u,by omega,M (by omega)⟩
  ·obtain⟨J,t,w⟩:=o v l (by omega);exact⟨J,t,L _ _ w⟩
 ·rw[if_neg A];exact⟨_,rfl,p,by dsimp only;omega,λv l f=>o v l (by dsimp only at f;omega)⟩
theorem adf (x:Wl) {c:aO} {P:g_} (h:VM c P):OK (λg:GR=>VM g.1 g.2∧g.1=c∧g.2.length=P.length∧∀v u,oH P v u->oH g.2 v u) (oY 1000 x (c,P)):=by
 unfold oY;have z:=h.n24;have B:=h.n1;refine vJ (λs:Int×g_=>∃k:Nat,s.1=k∧k<=100∧VM c s.2∧s.2.length=P.length∧∀v u,oH P v u->oH s.2 v u) (λs=>200 - s.1.toNat) ?_ 1000 _ ⟨P.length,rfl,by omega,h,rfl,λ_ _ h=>h⟩ (by dsimp only;omega);rintro⟨i,Q⟩ w ⟨k,p,A,f,o,e⟩ d;dsimp only at p f o e;subst p;have done:∀b:Bool,b=false->OK (λg:GR=>VM g.1 g.2∧g.1=c∧g.2.length=P.length∧∀v u,oH P v u->oH g.2 v u) (nJ 1000 x (c,P) ((k:Int),Q) w b):=by
  rintro b rfl;exact⟨_,rfl,f,rfl,o,e⟩
 unfold qW;dsimp only;rw[wr (by omega) (by omega)];by_cases l:(k:Int)+1<(x.2.1.length:Int)
 rotate_left
 ·rw[if_neg l];exact done _ Z
 rw[if_pos l];by_cases m:(k:Int)<60
 rotate_left
 ·exact done _ (zA8 m)
 rw[zA9 m];unfold nJ;dsimp only;rw[if_pos Z,cK (by omega),bB (tK _ _ (by omega) (by omega)),wr (by omega) (by omega),cK (by omega),bB (tK _ _ (by omega) (by omega)),bB (QR _ _ (by omega)),bB (tK _ _ (by decide) (by decide))];obtain⟨E,F,G⟩:=Oy (at' x.2.2.1 (k:Int));rw[E];generalize r:at' x.2.1 (k:Int)%(P.length:Int)=u;have K:0<=u:=by rw[<-r];exact Int.emod_nonneg _ (by omega)
 have L:u<P.length:=by rw[<-r];exact Int.emod_lt_of_pos _ (by omega)
 obtain⟨u,rfl⟩:∃n:Nat,u=n:=⟨u.toNat,by omega⟩
 generalize q:at' x.2.1 ((k:Int)+1)%(P.length:Int)=t;have I:0<=t:=by rw[<-q];exact Int.emod_nonneg _ (by omega)
 have J:t<P.length:=by rw[<-q];exact Int.emod_lt_of_pos _ (by omega)
 obtain⟨t,rfl⟩:∃n:Nat,t=n:=⟨t.toNat,by omega⟩
 obtain⟨H,y,C,M,D,N⟩:=Vw x f (a:=u) (b:=t) (by omega) (by omega) ⟨F,G⟩;rw[bB y,wr (by omega) (by omega)];exact d _ ⟨k+2,by dsimp only;omega,by omega,C,by dsimp only;omega,λv u j=>D _ _ (e v u j)⟩ (by dsimp only;omega)
theorem Pg (x:Wl) (a:Nat) (m:1<=a) (c:a<=24):
  OK (λg:GR=>VM g.1 g.2∧g.2.length<=a∧∀v:Nat,1<=v->v<g.2.length->∃u:Nat,u<v∧oH g.2 u v) (kG 1000 x (a:Int)):=by
 unfold kG;obtain⟨⟨s,P⟩,k,o,n,i⟩:=adF x a m c;obtain⟨⟨j,t⟩,l,b,p,d,h⟩:=adf x o;rw[bB k,bB l];dsimp only at n i b p d h;refine⟨_,rfl,b,by dsimp only;omega,λv r f=> ?_⟩
 obtain⟨u,q,e⟩:=i v r (by dsimp only at f;omega);exact⟨u,q,h _ _ e⟩
end Go.Proofs.YtcnnfkapmjhnaaaGreatDoor
namespace Go.Proofs.YtcnnfkapmjhnaaaGreatDoor
open Go Go.Sx
abbrev val (c:bX) (v x:Nat):Int:=at' (at' c (v:Int)) (x:Int)
def adR (g:GR) (b:Int) (v:Nat) (a:Int):Prop:=if b = -1 then -1<=a∧a<=((row g v).length:Int) - 1 else 0<=a∧a<=b
instance (g:GR) (top:Int) (v:Nat) (a:Int):Decidable (adR g top v a):=by unfold adR;infer_instance
def lY (g:GR):Nat->Int
 |0=>0
 |k+1=>max (lY g k) (at' g.1 (k:Int))
theorem Ms {g:GR} (a:VG g):∀k,k<=g.2.length->0<=lY g k∧lY g k<=255
 |0,_=>by simp[lY]
 |k+1,h=>by
  have b:=Ms a k (by omega);have c:0<=at' g.1 (k:Int)∧at' g.1 (k:Int)<=255:=(a.node k (by omega)).id;simp only[lY];omega
abbrev Gu:=FP
def H_ (x:Gu):Prop:=(-100000<=x.2.2.2.1∧x.2.2.2.1<=100000)∧(0<=x.2.2.2.2.1∧x.2.2.2.2.1<=100000)∧(0<=x.2.2.2.2.2∧x.2.2.2.2.2<=100000)
def lo (g:GR) (x:Gu) (v:Nat):Int:=if x.2.1=2 then 0 else if x.2.1=3 then -1 else x.2.2.1
def hi (g:GR) (x:Gu) (v:Nat):Int:=if x.2.1=2 then 1 else if x.2.1=3 then((row g v).length:Int) - 1 else x.2.2.2.1+x.2.2.2.2.1*(g.2.length:Int)+x.2.2.2.2.2*lY g g.1.length
structure HU (g:GR) (c:bX) (vars:List Gu):Prop where
 len:c.length=g.2.length
 row:∀v,v<g.2.length->(at' c (v:Int)).length=vars.length
 ok:∀v,v<g.2.length->∀x,x<vars.length->lo g (at' vars (x:Int)) v<=val c v x∧val c v x<=hi g (at' vars (x:Int)) v
def BN (a b:Nat):Nat:=(BitVec.ofInt 32 (a:Int) &&& ~~~ BitVec.ofInt 32 (b:Int)).toNat
theorem LW (a b:Nat):BN a b<4294967296:=(BitVec.ofInt 32 (a:Int) &&& ~~~ BitVec.ofInt 32 (b:Int)).isLt
theorem Hn {a i:Nat} (b:a<4294967296) (h:a.testBit i=true):i<32:=by
 apply Classical.byContradiction;intro c;rw[Nat.testBit_lt_two_pow (zAo b (Nat.pow_le_pow_right (n:=2) (by omega) (show 32<=i by omega)))]at h;cases h
theorem NS {a b:Nat} (d:a<4294967296) (e:b<4294967296) (i:Nat):(BN a b).testBit i=(a.testBit i && !b.testBit i):=by
 have:=BitVec.getLsbD_and (x:=BitVec.ofInt 32 (a:Int)) (y:= ~~~ BitVec.ofInt 32 (b:Int)) (i:=i);rw[BitVec.getLsbD_not]at this;have h:(BN a b).testBit i=((Qx (a:Int)).testBit i&&(decide (i<32) && !(Qx (b:Int)).testBit i)):=this;rw[AB d,AB e]at h;rw[h];cases c:a.testBit i with
 |false=>simp
 |true=>simp[Hn d c]
theorem LF (a b:Nat):xF .u32 (a:Int) (b:Int)=(BN a b:Int):=OB _ (LW a b)
theorem CJ {a b:Nat} (c:a<4294967296) (d:b<4294967296):eW .u32 (a:Int) (b:Int)=((a &&& b:Nat):Int):=by rw[OT,AB c,AB d]
theorem aiK {a b:Nat} (c:a<4294967296) (d:b<4294967296):Nk .u32 (a:Int) (b:Int)=((a ||| b:Nat):Int):=by rw[aeF,AB c,AB d]
theorem aee {a b:Nat} (c:a<4294967296) (d:b<4294967296):a ||| b<4294967296:=Nat.or_lt_two_pow (n:=32) c d
theorem OP {a b:Nat} (c:a<4294967296):a &&& b<4294967296:=Nat.lt_of_le_of_lt Nat.and_le_left c
theorem LG {a k:Nat} (c:a<4294967296) (b:k<32):Nk .u32 (a:Int) (CZ .u32 1 (k:Int))=((a ||| 2^k:Nat):Int):=by rw[adW b,aiK c (IA b)]
theorem PH (p:Nat->Bool) {k:Nat} (a:k<=32):yR p k<4294967296:=zAo (Rs p k) (Nat.pow_le_pow_right (n:=2) (by omega) a)
theorem adh {a b:Nat} (h:∀i,a.testBit i=b.testBit i):a=b:=zBa h
theorem ajh {i:Nat} (h:i<1000000):wI .i64 ((i:Int)+1)=(i:Int)+1:=wr (by omega) (by omega)
theorem VG.to {g:GR} (c:VG g) {v i:Nat} (e:v<g.2.length) (d:i<(row g v).length):∃u:Nat,u<g.2.length∧(fU (row g v) i).1=(u:Int):=by
 obtain⟨u,a,b,_⟩:=c.port e d;exact⟨u,a,b⟩
def KF:List Gu:=[(ByteArray.mk #[109],2,0,0,0,0)]
def d0 (g:GR) (c:bX) (d v:Nat):Int:=if d.testBit v=true then at' (at' c (v:Int)) 0 else if v=0 then 0 else(g.2.length:Int)
def start (g:GR) (c:bX) (d:Nat):aO:=(List.range g.2.length).map (d0 g c d)
theorem P_ {a:Type} [Inhabited a] (l:List a) (x:a) {i:Nat} (b:i<l.length+1):at' (l++[x]) (i:Int)=if i<l.length then at' l (i:Int)else x:=by
 rw[lF,lF];by_cases h:i<l.length
 ·rw[if_pos h,zA6,zA6,zAd h]
 ·have:i=l.length:=by omega
  subst this;rw[if_neg h];simp
def Ya (g:GR) (a:List Gu) (v:Nat) (l:aO):Prop:=∀x,x<l.length->lo g (at' a (x:Int)) v<=at' l (x:Int)∧at' l (x:Int)<=hi g (at' a (x:Int)) v
theorem Jj {g:GR} (G:VG g) (d:List Gu) (f:aO) (ht:d.length<=900) (U:∀x,x<d.length->H_ (at' d (x:Int)) ∧ -100000<=(at' d (x:Int)).2.2.1∧(at' d (x:Int)).2.2.1<=(at' d (x:Int)).2.2.2.1):
  OK (λc=>HU g c d) (kS 1000 g d f):=by
 have Q:=G.n24;have C:=G.len;have P:kS 1000 g d f=s_ 1000 g d f (lY g g.2.length):=by
  unfold kS;refine fM (F:=λk:Nat=>((lY g k,(k:Int)):eC)) g.2.length (λk B hk=> ?_) (λB=> ?_) 1000 (by omega)
  ·unfold yA;simp only;rw[if_pos (by omega),cK (by omega),wr (by omega) (by omega)];rfl
  ·unfold yA;simp only;rw[if_neg (by omega)]
 rw[P];obtain⟨M,X⟩:=Ms G g.2.length (by omega);unfold s_;have J:=mL (step:=lC 1000 g d f (lY g g.2.length)) (K:=λx=>some x.1) g.2.length (λv x=>x.2=(v:Int)∧x.1.length=v∧∀w,w<v->(at' x.1 (w:Int)).length=d.length∧Ya g d w (at' x.1 (w:Int))) (λv x B t q=> ?_) (λx B q=> ?_) 1000 (([]:bX),(0:Int)) ⟨rfl,rfl,λw V=>by omega⟩ (by omega)
 ·obtain⟨⟨c,i⟩,⟨_,s,p⟩,I⟩:=J;exact⟨c,I,s,λv t=>(p v t).1,λv t x D=>(p v t).2 x (by rw[(p v t).1];exact D)⟩
 ·obtain⟨c,i⟩:=x;obtain⟨rfl,s,p⟩:=q;simp only at s p;have L:(at' g.2 (v:Int)).length<g.2.length:=(G.node v t).deg;unfold lC;simp only;rw[if_pos (by omega)];have E:=mL (step:=pV 1000 g d f (lY g g.2.length) (c,(v:Int)) B) (K:=λy=>B (c++[y.1],(v:Int)+1)) d.length (λx y=>y.2=(x:Int)∧y.1.length=x∧Ya g d v y.1) (λx y n D q=> ?_) (λy n q=> ?_) 1000 (([]:aO),(0:Int)) ⟨rfl,rfl,λx D=>by simp at D⟩ (by omega)
  ·obtain⟨⟨l,j⟩,⟨_,h,u⟩,I⟩:=E;refine⟨(c++[l],(v:Int)+1),⟨by simp,by simp[s],λw V=> ?_⟩,I⟩
   simp only;rw[P_ c l (by omega),s];by_cases e:w<v
   ·rw[if_pos e];exact p w e
   ·rw[if_neg e];have:w=v:=by omega
    subst this;exact⟨h,u⟩
  ·obtain⟨l,j⟩:=y;obtain⟨rfl,h,u⟩:=q;simp only at h u;obtain⟨⟨s1,N,O⟩,s4,s5⟩:=U x D;have o:∀a b:Int,a=lo g (at' d (x:Int)) v->b=hi g (at' d (x:Int)) v -> -100000<=a->a<=b+1->b<=100000000->(a<=b∨(a = -1∧b = -1))->∃H,(H.2=((x+1:Nat):Int)∧H.1.length=x+1∧Ya g d v H.1)∧pU 1000 d f (c,(v:Int)) (l,(x:Int)) n (a,b)=n H:=by
    intro a b R T q1 q2 q3 q4;have S:a<=b:=by omega
    unfold pU;simp only;have w1:wI .i64 ((v:Int)*(d.length:Int))=(v:Int)*(d.length:Int):=by
     have Y:0<=(v:Int)*(d.length:Int):=Int.mul_nonneg (by omega) (by omega);have p2:(v:Int)*(d.length:Int)<=24*900:=Int.mul_le_mul (by omega) (by omega) (by omega) (by omega);exact wr (by omega) (by omega)
    have Y:0<=(v:Int)*(d.length:Int):=Int.mul_nonneg (by omega) (by omega);have p2:(v:Int)*(d.length:Int)<=24*900:=Int.mul_le_mul (by omega) (by omega) (by omega) (by omega);rw[w1,wr (x:=(v:Int)*(d.length:Int)+(x:Int)) (by omega) (by omega),QR _ _ (by omega),bB Z,wr (x:=b - a) (by omega) (by omega),wr (x:=b - a+1) (by omega) (by omega),tK _ _ (by omega) (by omega),bB Z];have r1:=Int.emod_nonneg (at' f ((v:Int)*(d.length:Int)+(x:Int))) (b:=b - a+1) (by omega);have r2:=Int.emod_lt_of_pos (at' f ((v:Int)*(d.length:Int)+(x:Int))) (b:=b - a+1) (by omega);generalize at' f ((v:Int)*(d.length:Int)+(x:Int))%(b - a+1)=r at r1 r2;rw[wr (x:=a+r) (by omega) (by omega),cK (by simp;omega),wr (by omega) (by omega)];refine⟨_,⟨by simp,by simp[h],λz W=> ?_⟩,rfl⟩
    simp only[zAi,zAj,List.length_nil,h]at W;simp only;rw[P_ l _ (by omega),h];by_cases e:z<x
    ·rw[if_pos e];exact u z (by omega)
    ·rw[if_neg e];have:z=x:=by omega
     subst this;rw[<-R,<-T];omega
   unfold pV;simp only;rw[if_pos (by omega),cK (by omega),cK (by omega),cK (by omega),cK (by omega),cK (by omega)];by_cases m:(at' d (x:Int)).2.1=2
   ·rw[if_pos m];exact o 0 1 (by unfold lo;rw[if_pos m]) (by unfold hi;rw[if_pos m]) (by omega) (by omega) (by omega) (by omega)
   ·rw[if_neg m];by_cases A:(at' d (x:Int)).2.1=3
    ·rw[if_pos A,cK (by omega),wr (by omega) (by omega)];exact o (-1) _ (by unfold lo;rw[if_neg m,if_pos A]) (by unfold hi;rw[if_neg m,if_pos A]) (by omega) (by omega) (by omega) (by omega)
    ·rw[if_neg A];have q1:0<=(at' d (x:Int)).2.2.2.2.1*(g.2.length:Int):=Int.mul_nonneg N.1 (by omega);have q2:(at' d (x:Int)).2.2.2.2.1*(g.2.length:Int)<=100000*24:=Int.mul_le_mul N.2 (by omega) (by omega) (by omega);have q3:0<=(at' d (x:Int)).2.2.2.2.2*lY g g.2.length:=Int.mul_nonneg O.1 M;have q4:(at' d (x:Int)).2.2.2.2.2*lY g g.2.length<=100000*255:=Int.mul_le_mul O.2 X M (by omega);rw[wr (x:=(at' d (x:Int)).2.2.2.2.1*(g.2.length:Int)) (by omega) (by omega),wr (x:=(at' d (x:Int)).2.2.2.2.2*lY g g.2.length) (by omega) (by omega),wr (x:=(at' d (x:Int)).2.2.2.1+(at' d (x:Int)).2.2.2.2.1*(g.2.length:Int)) (by omega) (by omega),wr (by omega) (by omega)];exact o _ _ (by unfold lo;rw[if_neg m,if_neg A]) (by unfold hi;rw[if_neg m,if_neg A,C]) (by omega) (by omega) (by omega) (by omega)
  ·obtain⟨l,j⟩:=y;obtain⟨rfl,h,u⟩:=q;simp only at h u;unfold pV Bm;simp only;rw[if_neg (by omega),cK (by simp;omega),wr (by omega) (by omega)]
 ·obtain⟨c,i⟩:=x;obtain⟨rfl,s,p⟩:=q;unfold lC x_;simp only;rw[if_neg (by omega)]
theorem Kt {k:Nat} (h:k<1000000):wI .i64 ((k:Int)+1)=((k+1:Nat):Int):=by rw[ajh h];push_cast;rfl
def inB (g:GR) (b:aO) (v x:Nat) (a:Int):Prop:=if at' b (x:Int) = -1 then -1<=a∧a<=((row g v).length:Int) - 1 else 0<=a∧a<=at' b (x:Int)
def agI (g:GR) (a:aO) (v:Nat) (l:aO):Prop:=l.length=a.length∧∀x,x<a.length->inB g a v x (at' l (x:Int))
def Wh (g:GR) (a:aO) (c:bX):Prop:=c.length=g.2.length∧∀v,v<g.2.length->agI g a v (at' c (v:Int))
theorem Ho {g:GR} (m:VG g) {a:aO} (z:a.length<900) (c:bX):(Wh g a c->fI 1000 g c a=some true)∧(¬Wh g a c->fI 1000 g c a=some false):=by
 have u:=m.n24;have s:=m.len;unfold fI;by_cases r:c.length=g.2.length
 ·rw[if_neg (by omega)];have n:=Ef (step:=gJ 1000 g c a) (K:=some true) (bad:=some false) c.length (λv=>agI g a v (at' c (v:Int))) (λk=>(k:Int)) (λk l w j=> ?_) (λk l w j=> ?_) (λl=> ?_) 1000 (by omega)
  ·refine⟨λh=>n.1 λv y=>h.2 v (by omega),λh=>n.2 λt=>h ⟨r,λv y=>t v (by omega)⟩⟩
  all_goals unfold gJ
  ·have d:=Ef (step:=dU g c a (k:Int) l) (K:=l ((k+1:Nat):Int)) (bad:=some false) a.length (λx=>inB g a k x (at' (at' c (k:Int)) (x:Int))) (λx=>(x:Int)) ?_ ?_ ?_ 1000 (by omega)
   ·rw[if_pos (by omega),cK (by omega),if_neg (by have:=j.1;omega)];exact d.1 j.2
   ·intro x f p b;unfold dU iJ iK;have o:=j.1;have i:(at' g.2 (k:Int)).length<g.2.length:=(m.node k (by omega)).deg;rw[if_pos (by omega),cK (by omega),cK (by omega)];unfold inB at b;by_cases e:at' a (x:Int) = -1
    ·rw[if_pos e]at b;rw[if_pos e,cK (by omega),wr (by omega) (by omega)];dsimp only;rw[if_neg (by omega),if_neg (by rw[zA1];show¬((row g k).length:Int) - 1<_;omega),Kt (by omega)]
    ·rw[if_neg e]at b;rw[if_neg e];dsimp only;rw[if_neg (by omega),if_neg (by rw[zA1];omega),Kt (by omega)]
   ·intro x f p b;unfold dU iJ iK;have o:=j.1;have i:(at' g.2 (k:Int)).length<g.2.length:=(m.node k (by omega)).deg;rw[if_pos (by omega),cK (by omega),cK (by omega)];unfold inB at b;by_cases e:at' a (x:Int) = -1
    ·rw[if_pos e]at b;rw[if_pos e,cK (by omega),wr (by omega) (by omega)];dsimp only;by_cases q:at' (at' c (k:Int)) (x:Int) < -1
     ·rw[if_pos q,if_pos Z]
     ·rw[if_neg q,if_pos (by rw[zA1];show((row g k).length:Int) - 1<_;omega)]
    ·rw[if_neg e]at b;rw[if_neg e];dsimp only;by_cases q:at' (at' c (k:Int)) (x:Int)<0
     ·rw[if_pos q,if_pos Z]
     ·rw[if_neg q,if_pos (by rw[zA1];omega)]
   ·intro f;unfold dU mK;have o:=j.1;rw[if_neg (by omega),Kt (by omega)]
  ·rw[if_pos (by omega),cK (by omega)];by_cases o:(at' c (k:Int)).length=a.length
   ·rw[if_neg (by omega)];have d:=Ef (step:=dU g c a (k:Int) l) (K:=l ((k+1:Nat):Int)) (bad:=some false) a.length (λx=>inB g a k x (at' (at' c (k:Int)) (x:Int))) (λx=>(x:Int)) ?_ ?_ ?_ 1000 (by omega)
    ·exact d.2 λh=>j ⟨o,h⟩
    ·intro x f p b;unfold dU iJ iK;have i:(at' g.2 (k:Int)).length<g.2.length:=(m.node k (by omega)).deg;rw[if_pos (by omega),cK (by omega),cK (by omega)];unfold inB at b;by_cases e:at' a (x:Int) = -1
     ·rw[if_pos e]at b;rw[if_pos e,cK (by omega),wr (by omega) (by omega)];dsimp only;rw[if_neg (by omega),if_neg (by rw[zA1];show¬((row g k).length:Int) - 1<_;omega),Kt (by omega)]
     ·rw[if_neg e]at b;rw[if_neg e];dsimp only;rw[if_neg (by omega),if_neg (by rw[zA1];omega),Kt (by omega)]
    ·intro x f p b;unfold dU iJ iK;have i:(at' g.2 (k:Int)).length<g.2.length:=(m.node k (by omega)).deg;rw[if_pos (by omega),cK (by omega),cK (by omega)];unfold inB at b;by_cases e:at' a (x:Int) = -1
     ·rw[if_pos e]at b;rw[if_pos e,cK (by omega),wr (by omega) (by omega)];dsimp only;by_cases q:at' (at' c (k:Int)) (x:Int) < -1
      ·rw[if_pos q,if_pos Z]
      ·rw[if_neg q,if_pos (by rw[zA1];show((row g k).length:Int) - 1<_;omega)]
     ·rw[if_neg e]at b;rw[if_neg e];dsimp only;by_cases q:at' (at' c (k:Int)) (x:Int)<0
      ·rw[if_pos q,if_pos Z]
      ·rw[if_neg q,if_pos (by rw[zA1];omega)]
    ·intro f;unfold dU mK;rw[if_neg (by omega),Kt (by omega)]
   ·rw[if_pos (by omega)]
  ·rw[if_neg (by omega)];rfl
 ·rw[if_pos (by omega)];exact⟨λh=>absurd h.1 r,λ_=>rfl⟩
def IsF (q:Nat->Prop) (n:Nat) (p:Int):Prop:=(∃i:Nat,i<n∧p=i∧q i∧∀k,k<i->¬q k)∨(p = -1∧∀k,k<n->¬q k)
def Low (g:GR) (d:aO) (v i:Nat):Prop:=at' d (fU (row g v) i).1=D d v - 1
instance (g:GR) (d:aO) (v i:Nat):Decidable (Low g d v i):=inferInstanceAs (Decidable (_=_))
theorem aap (p q:aO) (h:q.length<900):zS 1000 p q=some (decide (p=q)):=by
 unfold zS;by_cases f:p.length=q.length
 ·rw[if_neg (by omega)];have a:=Ef (step:=xU p q) (K:=some true) (bad:=some false) p.length (λk=>at' p (k:Int)=at' q (k:Int)) (λk=>(k:Int)) (λk c d b=> ?_) (λk c d b=> ?_) (λc=> ?_) 1000 (by omega)
  ·by_cases e:p=q
   ·rw[zA9 e];exact a.1 λk d=>by rw[e]
   ·rw[zA8 e];exact a.2 λg=>e (Zr f λv i=>g v i)
  all_goals unfold xU
  ·rw[if_pos (by omega),cK (by omega),cK (by omega),if_neg (by simpa using b),Kt (by omega)]
  ·rw[if_pos (by omega),cK (by omega),cK (by omega),if_pos b]
  ·rw[if_neg (by omega)];rfl
 ·rw[if_pos (by omega),zA8 λe=>f (by rw[e])]
section
variable {g:GR} (hV:VG g) {d:List Int} {s:Nat} (hD:BK g s d)
 include hV hD
theorem ahM {v i:Nat} (b:v<g.2.length) (a:i<(row g v).length):0<=(fU (row g v) i).1∧(fU (row g v) i).1<(d.length:Int):=by
 obtain⟨u,c,e⟩:=hV.to b a;have:=hD.len;omega
theorem afo {v:Nat} (a:v<g.2.length):wI .i64 (D d v - 1)=D d v - 1:=by
 have b:=hD.lo v a;have c:=hD.hi v a;have:=hV.n24;exact wr (by omega) (by omega)
theorem agb {v i:Nat} (a:v<g.2.length) (c:i<(row g v).length):AG 1000 ((fU (row g v) i).1,(fU (row g v) i).2) d (v:Int)=some (decide (Low g d v i)):=by
 have b:=ahM hV hD a c;have f:=hD.len;unfold AG;rw[cK b,cK (by omega)];have e:wI .i64 (at' d (v:Int) - 1)=D d v - 1:=afo hV hD a;rw[e];rfl
theorem aai {v:Nat} (m:v<g.2.length) (c:List Int):∃p,IsF (Low g d v) (row g v).length p∧AZ 1000 g (v:Int) d c=some (decide (c=[D d v,p])):=by
 have o:=hV.n24;have l:=(hV.node v m).deg;have r:=hD.len;have n:∀a:Int,zD 1000 (v:Int) d c a=some (decide (c=[D d v,a])):=λa=>by
  unfold zD;rw[cK (by omega),aap _ _ (by simp),bB Z]
 unfold AZ;rw[cK (by omega)];have i:∀b k,k<=(row g v).length->(∀j,j<k->¬Low g d v j)->(row g v).length - k<b->∃p,IsF (Low g d v) (row g v).length p∧bH (u_ 1000 g (v:Int) d c) b (k:Int)=some (decide (c=[D d v,p])):=by
  intro b
  induction b with
  |zero=>intro k _ _ h;omega
  | succ b ih =>
   intro k x f w;show∃p,_∧u_ 1000 g (v:Int) d c (k:Int) (bH (u_ 1000 g (v:Int) d c) b)=_;unfold u_;by_cases e:k<(row g v).length
   ·rw[if_pos (show(k:Int)<((row g v).length:Int) by omega),cK (show 0<=(k:Int)∧(k:Int)<((row g v).length:Int) by omega)];have u:=agb hV hD m e;rw[show((at' (at' g.2 (v:Int)) (k:Int)).1,(at' (at' g.2 (v:Int)) (k:Int)).2)=((fU (row g v) k).1,(fU (row g v) k).2)from rfl,u,bB Z];by_cases q:Low g d v k
    ·rw[zA9 q,if_pos Z];exact⟨k,.inl ⟨k,e,rfl,q,f⟩,n _⟩
    ·rw[zA8 q,if_neg (by simp),Kt (by omega)];exact ih (k+1) (by omega) (λj t=>by
      by_cases h:j=k
      ·subst h;exact q
      ·exact f j (by omega)) (by omega)
   ·rw[if_neg (show¬(k:Int)<((row g v).length:Int) by omega)];exact⟨-1,.inr ⟨rfl,λj t=>f j (by omega)⟩,n _⟩
 exact i 1000 0 (by omega) (λj h=>by omega) (by omega)
end
def low (a b:Int):Int:=if 0<=b∧(a<0∨b<a)then b else a
end Go.Proofs.YtcnnfkapmjhnaaaGreatDoor
namespace Go.Proofs.YtcnnfkapmjhnaaaGreatDoor
open Go.Sx
def vD  (a:aO):Option aO:=
 some (a)
def vE (a:lZ) (c:rZ->Option aO) (b:aO):Option aO:=
 c ((wI .i64 (a.1+(1:Int))),b)
def rD (d:b_) (a:lZ) (e:rZ->Option aO) (b:lZ) (c:rZ->Option aO):Option aO:=
 if b.1<((at' d.2 a.1).length:Int)then(ck (0<=b.1∧b.1<((at' d.2 a.1).length:Int)) (ck (0<=a.1∧a.1<(b.2.length:Int)) (ck (0<=((at' (at' d.2 a.1) b.1).1)) (ck (0<=a.1∧a.1<(b.2.length:Int)) (c ((wI .i64 (b.1+(1:Int))),(List.set b.2 (Int.toNat a.1) (Nk .u32 (at' b.2 a.1) (CZ .u32 (1:Int) ((at' (at' d.2 a.1) b.1).1))))))))))else(vE a e (b.2))
def lS (U:Nat) (c:b_) (a:lZ) (b:rZ->Option aO):Option aO:=
 if a.1<(c.2.length:Int)then(ck (0<=a.1∧a.1<(c.2.length:Int)) (bH (rD c a b) U ((0:Int),a.2)))else(vD  (a.2))
def pQ (U:Nat) (a:b_):Option aO:=
 ck (0<=(a.2.length:Int)∧(a.2.length:Int)<=1099511627) (bH (lS U a) U ((0:Int),(List.replicate (Int.toNat (a.2.length:Int)) (0:Int))))
theorem abv:aS Tryz.prog 101:=Tryz.call101
theorem KB (U:Nat) {d:b_} (v:Value)  (j:Value)  (y:jO) (r:aO) (h:pQ U d=some r):
  aY Tryz.prog 101 #[Value.agg #[v,j]] [Sl bP v d.1,S2 aV j y d.2] (λx:Value=>x) (λx l=>Ar pX x r::l) (λ_ l=>l):=by
 refine aY.of Tryz.func101 Z Tryz.ntmps101 Z λc=>?_;refine aP<|aG (aI.box (cs:=[v,j]) Z Z) Z λD=>aC Z<|aJ<|aP<|bY Z<|cR 0 Z<|aD (jW Z (aE.fact 1 Z) Z) Z<|dQ h λB h=>aG (qO (e:=pX) (0:Int) Z Z Z Z B Z Z Z) Z λi=>aC Z<|aJ<|aK<|eJ (λk=>vD  k=some r) (λk w=>[(3,i)]) (λk w=>[Ar pX i k]) ?_ ?_
 ·refine aP<|bY Z<|cR 1 Z<|aD (jW Z (aE.fact 1 Z) Z) Z<|aA Z<|aJ<|aR<|eO (lS U d) (λa m=>[(3,i),(13,j),(14,vI (d.2.length:Int)),(15,vI (a.1))]) (λa m=>[Ar pX i a.2]) ((0:Int),(List.replicate (Int.toNat (d.2.length:Int)) (0:Int))) () h SF (a_.ix [0] Z Z) ?_;intro t a m h;refine aP<|cO Z<|aJ<|aK ?_;refine dK h Z (λh=>?_) λh=>?_
  ·refine cG<|aK<|eJ (λg=>vE a (bH (lS U d) t) g=some r) (λg n=>[(3,i),(13,j),(14,vI (d.2.length:Int)),(15,vI (a.1))]) (λg n=>[Ar pX i g]) ?_ ?_
   ·refine aR<|aP<|aA Z<|dQ h λf h=>aD (cV Z Z (aE.fact 1 Z) Z Z f) Z<|aD (cP Z (aE.fact 1 Z) Z Z f) Z<|aC Z<|aC Z<|aJ<|aP<|aA Z<|aD (fF Z (zBd (aE.fact 1 Z) f.1 f.2) Z) Z<|aA Z<|aJ<|aR<|eO (rD d a (bH (lS U d) t)) (λb o=>[(3,i),(4,vI (a.1)),(13,j),(14,vI (d.2.length:Int)),(15,vI (a.1)),(20,(at' y a.1).1),(21,vI ((at' d.2 a.1).length:Int)),(22,vI (b.1))]) (λb o=>[Ar pX i b.2]) ((0:Int),a.2) () h SF (a_.refl _) ?_;intro C b o h;refine aP<|cO Z<|aJ<|aK ?_;refine dK h Z (λh=>?_) λh=>?_
    ·refine cG<|aK<|aR<|aP<|dQ h λp h=>aD (aZ Z Z (zBd (aE.fact 1 Z) f.1 f.2) Z Z p) Z<|aD (eM (cs:=[vI ((at' (at' d.2 a.1) b.1).1),vI ((at' (at' d.2 a.1) b.1).2)]) Z (zBd (aE.fact 1 Z) f.1 f.2) bD Z Z Z Z p) Z<|aG (aI.alloc (cs:=Ni) Z Z) Z λA=>bK 0 (vs:=[vI ((at' (at' d.2 a.1) b.1).1),vI ((at' (at' d.2 a.1) b.1).2)]) Z Z Z Z Z Z<|aJ ?_;refine JR.start [0,0,3,7,0,16,48,127,255,511] 7 mixedOrders (by decide +kernel) ?_;refine zBe (by exact rfl) ?_;refine bA Z<|bA Z<|dQ h λq h=>bG Z (a_.cons 1 Z .nil) .nil (aZ Z Z (aT (aE.res 0 Z) mU) Z Z q) aN.z<|bG Z (a_.cons 1 Z .nil) .nil (bV Z (aT (aE.res 0 Z) mU) Z Z Z Je q) aN.z<|dJ Z<|fG 0 Z<|dQ h λu h=>gO Z (NL Z Z u)<|bR 7 Z Z<|aD (Yg Z Z) Z<|dQ h λs h=>aD (aZ Z Z (aT (aE.res 1 Z) mU) Z Z s) Z<|t_ 1 (Nk .u32 (at' b.2 a.1) (CZ .u32 (1:Int) ((at' (at' d.2 a.1) b.1).1))) s Z Z Z Z Z Z Z<|eV<|lU<|aQ<|cH Z<|aA Z<|aJ ?_;exact kO ((wI .i64 (b.1+(1:Int))),(List.set b.2 (Int.toNat a.1) (Nk .u32 (at' b.2 a.1) (CZ .u32 (1:Int) ((at' (at' d.2 a.1) b.1).1))))) () h SF (a_.ix [1] Z Z) (aB.refl _ _)
    refine sD<|fD<|fD<|yY<|lU ?_;exact iH (b.2) () h SF Z
   intro g n h;unfold vE at h;refine aQ<|cH Z<|aA Z<|aJ ?_;exact AS ((wI .i64 (a.1+(1:Int))),g) () h SF Z
  refine fL ?_;exact iH (a.2) () h SF Z
 intro k w h;unfold vD at h;refine aP<|aA Z<|aC Z<|aJ<|aU ?_;cases h;exact eR (i) Z Z (RV.tmp Z) (a_.refl _) aB.nil
end Go.Proofs.YtcnnfkapmjhnaaaGreatDoor
namespace Go.Proofs.YtcnnfkapmjhnaaaGreatDoor
open Go Go.Sx
structure Ku (m k:Nat):Prop where
 bit:m.testBit k=true
 low:∀j,j<k->m.testBit j=false
theorem Fx {m:Nat} (h:m≠0):∃k,Ku m k:=by
 obtain⟨i,c⟩:=Nat.exists_testBit_of_ne_zero h;obtain⟨k,_,a,b⟩:=Ro (p:=λi=>m.testBit i=true) i c;exact⟨k,a,λj d=>by simpa using b j d⟩
theorem RN {m k:Nat} (h:Ku m k) (i:Nat):(m - 1).testBit i=if i<k then true else if i=k then false else m.testBit i:=by
 have b:m=2^(k+1)*(m / 2^(k+1))+2^k:=by
  refine zBa λi=> ?_;have a:2^k<2^(k+1):=Nat.pow_lt_pow_right (by omega) (by omega);rw[Nat.testBit_two_pow_mul_add _ a,zAu,Nat.testBit_div_two_pow];rcases zB0 i k with q|q|q
  ·rw[if_pos (by omega),h.low i q,zA8 (by omega)]
  ·subst q;rw[if_pos (by omega),h.bit,zA9 Z]
  ·rw[if_neg (by omega),show i - (k+1)+(k+1)=i by omega]
 have c:0<2^k:=Nat.pow_pos (by omega);have a:2^k - 1<2^(k+1):=by rw[Nat.pow_succ];omega
 have e:m - 1=2^(k+1)*(m / 2^(k+1))+(2^k - 1):=by omega
 rw[e,Nat.testBit_two_pow_mul_add _ a,Nat.testBit_two_pow_sub_one,Nat.testBit_div_two_pow];rcases zB0 i k with q|q|q
 ·rw[if_pos (by omega),if_pos q,zA9 q]
 ·subst q;rw[if_pos (by omega),if_neg (by omega),if_pos Z,zA8 (by omega)]
 ·rw[if_neg (by omega),if_neg (by omega),if_neg (by omega),show i - (k+1)+(k+1)=i by omega]
theorem ai_ {m:Nat} (b:m<4294967296) (a:m≠0):wI .u32 (0 - (m:Int))=((4294967296 - m:Nat):Int):=by
 rw[DJ];have:IntKind.u32.wrap (0 - (m:Int))=(0 - (m:Int))%4294967296:=rfl;rw[this];omega
theorem ahz {m:Nat} (b:m<4294967296) (a:m≠0):wI .u32 ((m:Int) - 1)=((m - 1:Nat):Int):=by
 rw[show(m:Int) - 1=((m - 1:Nat):Int) by omega,DJ,OB _ (by omega)]
theorem ada {m k:Nat} (a:m<4294967296) (h:Ku m k):eW .u32 (m:Int) (wI .u32 (0 - (m:Int)))=((2^k:Nat):Int):=by
 have b:m≠0:=λe=>by have:=h.bit;rw[e]at this;simp at this
 have c:k<32:=Hn a h.bit;rw[ai_ a b,CJ a (by omega)];congr 1;refine zBa λi=> ?_;rw[Nat.testBit_and,show 4294967296 - m=2^32 - ((m - 1)+1) by omega,Nat.testBit_two_pow_sub_succ (by omega),zAu,RN h];rcases zB0 i k with q|q|q
 ·rw[h.low i q,zA8 (show¬k=i by omega)];rfl
 ·subst q;rw[h.bit,if_neg (by omega),if_pos Z,zA9 c,zA9 Z];rfl
 ·rw[if_neg (by omega),if_neg (by omega),zA8 (show¬k=i by omega)];cases m.testBit i<;>simp
theorem Pe {m k:Nat} (a:m<4294967296) (h:Ku m k):∃b:Nat,eW .u32 (m:Int) (wI .u32 ((m:Int) - 1))=(b:Int)∧b<4294967296∧∀i,b.testBit i=(m.testBit i&&decide (i≠k)):=by
 have c:m≠0:=λe=>by have:=h.bit;rw[e]at this;simp at this
 refine⟨m &&& (m - 1),by rw[ahz a c,CJ a (by omega)],OP a,λi=> ?_⟩
 rw[Nat.testBit_and,RN h];rcases zB0 i k with q|q|q
 ·rw[h.low i q];rfl
 ·subst q;simp
 ·rw[if_neg (by omega),if_neg (by omega)];have:decide (i≠k)=true:=zA9 (by omega);rw[this];cases m.testBit i<;>rfl
theorem agn:∀k:Fin 32,((0:Int)<=sG .u32 (wI .u32 ((((2^k.val:Nat):Int))*125613361)) 27∧sG .u32 (wI .u32 ((((2^k.val:Nat):Int))*125613361)) 27<((32:Nat):Int))∧wI .i64 (at' AA (sG .u32 (wI .u32 ((((2^k.val:Nat):Int))*125613361)) 27))=(k.val:Int):=by decide +kernel
theorem aaw (f:Nat) {m k:Nat} (a:m<4294967296) (h:Ku m k):kQ f (m:Int)=some (k:Int):=by
 have d:m≠0:=λe=>by have:=h.bit;rw[e]at this;simp at this
 obtain⟨b,c⟩:=agn ⟨k,Hn a h.bit⟩;unfold kQ;rw[if_neg (by omega),cK (by decide),ada a h,cK ⟨b,rfl⟩,c]
structure Ly (g:GR) (r:aO):Prop where
 len:r.length=g.2.length
 at':∀v:Nat,v<g.2.length->∃m:Nat,Go.Sx.at' r (v:Int)=(m:Int)∧m<4294967296∧∀u,m.testBit u=true↔KH g v u
theorem ZE {g:GR} (I:VG g):∃r,pQ 1000 g=some r∧Ly g r:=by
 have R:=I.n24;unfold pQ;rw[cK (by omega)];obtain⟨⟨a,r⟩,⟨y,B,C⟩,J⟩:=mL (step:=lS 1000 g) (K:=λz=>some z.2) g.2.length
  (λk z=>z.1=(k:Int)∧z.2.length=g.2.length∧∀v:Nat,v<g.2.length->∃m:Nat,Go.Sx.at' z.2 (v:Int)=(m:Int)∧m<4294967296∧∀u,m.testBit u=true↔v<k∧KH g v u) (λk z E M G=>by
  obtain⟨a,r⟩:=z;obtain⟨y,B,C⟩:=G;dsimp only at y B C;subst y;have O:=(I.node k M).deg;obtain⟨⟨b,U⟩,⟨s,d,c⟩,J⟩:=mL (step:=rD g ((k:Int),r) E) (K:=λz=>E (((k+1:Nat):Int),z.2)) (row g k).length
   (λj z=>z.1=(j:Int)∧z.2.length=g.2.length∧∀v:Nat,v<g.2.length->∃m:Nat,Go.Sx.at' z.2 (v:Int)=(m:Int)∧m<4294967296∧∀u,m.testBit u=true↔(v<k∧KH g v u)∨(v=k∧∃i,i<j∧(fU (row g k) i).1=(u:Int))) (λj z F S H=>by
   obtain⟨b,q⟩:=z;obtain⟨s,d,c⟩:=H;dsimp only at s d c;subst s;obtain⟨w,V,x,N⟩:=I.port M S;obtain⟨m,T,l,t⟩:=c k M;refine⟨(((j+1:Nat):Int),q.set k (((m ||| 2^w:Nat)):Int)),⟨rfl,by simpa using d,λv f=> ?_⟩,?_⟩
   ·show∃P,Go.Sx.at' (q.set k _) (v:Int)=_∧_;rw[qQ q k v _ (by omega)];by_cases e:v=k
    ·subst e;refine⟨_,if_pos Z,aee l (IA (by omega)),λu=> ?_⟩
     rw[Nat.testBit_or,zAu,zAx,t u,zA1];constructor
     ·rintro((h|⟨_,i,A,h⟩)|h)
      ·exact .inl h
      ·exact .inr ⟨rfl,i,by omega,h⟩
      ·exact .inr ⟨rfl,j,by omega,by rw[x,h]⟩
     ·rintro(h|⟨_,i,A,h⟩)
      ·exact .inl (.inl h)
      ·by_cases L:i=j
       ·subst L;right;rw[x]at h;omega
       ·exact .inl (.inr ⟨rfl,i,by omega,h⟩)
    ·obtain⟨P,n,o,p⟩:=c v f;refine⟨P,by rw[if_neg e];exact n,o,λu=> ?_⟩
     rw[p u];constructor
     ·rintro(h|⟨h,_⟩)
      ·exact .inl h
      ·exact absurd h e
     ·rintro(h|⟨h,_⟩)
      ·exact .inl h
      ·exact absurd h e
   ·unfold rD;dsimp only;rw[if_pos (show(j:Int)<((row g k).length:Int) by omega),cK (show 0<=(j:Int)∧(j:Int)<((row g k).length:Int) by omega),cK (by omega),show Go.Sx.at' (Go.Sx.at' g.2 (k:Int)) (j:Int)=fU (row g k) j from rfl,x,cK (by omega),cK (by omega),T,LG l (by omega),dL (by omega),zAc]) (λz F H=>by
   obtain⟨b,q⟩:=z;obtain⟨s,d,c⟩:=H;dsimp only at s d c;subst s;unfold rD vE;dsimp only;rw[if_neg (show¬((row g k).length:Int)<((row g k).length:Int) by omega),dL (by omega)]) 1000 ((0:Int),r) ⟨rfl,B,λv f=>by
    obtain⟨m,n,o,p⟩:=C v f;refine⟨m,n,o,λu=> ?_⟩
    rw[p u];constructor
    ·exact λh=> .inl h
    ·rintro(h|⟨_,i,A,_⟩)
     ·exact h
     ·omega⟩ (by omega)
  dsimp only at s d c;refine⟨(((k+1:Nat):Int),U),⟨rfl,d,λv f=> ?_⟩,?_⟩
  ·obtain⟨m,n,o,p⟩:=c v f;refine⟨m,n,o,λu=> ?_⟩
   rw[p u];constructor
   ·rintro(⟨Q,D⟩|⟨rfl,i,A,h⟩)
    ·exact⟨by omega,D⟩
    ·exact⟨by omega,i,A,h⟩
   ·rintro⟨Q,D⟩;by_cases e:v=k
    ·subst e;obtain⟨i,A,h⟩:=D;exact .inr ⟨rfl,i,A,h⟩
    ·exact .inl ⟨by omega,D⟩
  ·unfold lS;dsimp only;rw[if_pos (by omega),cK (by omega)];exact J) (λz E G=>by
  obtain⟨a,r⟩:=z;obtain⟨y,B,C⟩:=G;dsimp only at y;subst y;unfold lS vD;dsimp only;rw[if_neg (by omega)]) 1000 ((0:Int),List.replicate (Int.toNat (g.2.length:Int)) (0:Int)) ⟨rfl,by simp,λv f=>⟨0,by
   rw[zAc,lD (by simpa using f)];simp,by omega,λu=>by simp⟩⟩ (by omega)
 refine⟨r,J,B,λv f=> ?_⟩
 obtain⟨m,n,o,p⟩:=C v f;exact⟨m,n,o,λu=>by rw[p u];exact⟨λh=>h.2,λh=>⟨f,h⟩⟩⟩
def Qp (g:GR) (m:Nat):Prop:=∀i,m.testBit i=true->i<g.2.length
theorem Qp.lt {g:GR} (b:VG g) {m:Nat} (h:Qp g m):m<16777216:=by
 have a:=b.n24;refine zAo (Nat.lt_pow_two_of_testBit (n:=24) m λi d=> ?_) (zAe _);cases c:m.testBit i with
 |false=>rfl
 |true=>have:=h i c;omega
theorem agS {m:Nat} (h:∀i,i<32->m.testBit i=false) (b:m<4294967296):m=0:=by
 refine zBa λi=> ?_;rw[Nat.zero_testBit];rcases zAp i 32 with q|q
 ·exact h i q
 ·cases a:m.testBit i with
  |false=>rfl
  |true=>have:=Hn b a;omega
theorem TQ {g:GR} (z:VG g) {r:aO} (y:Ly g r) {t:Nat} (C:Qp g t) (n:∀v u,t.testBit v=true->t.testBit u=true->¬KH g v u) (F:Nat):∀(d s a b:Nat),s+d=32->b<4294967296->(∀i,i<s->b.testBit i=false)->(∀i,b.testBit i=true->t.testBit i=true)->d<a->
  bH (iA F r (t:Int)) a (b:Int)=some true:=by
 have J:=z.n24;have p:t<4294967296:=by have:=C.lt z;omega
 intro d
 induction d using Nat.strongRecOn with
 | _ d ih =>
  intro s a b P B o c O;obtain⟨a,rfl⟩:∃f,a=f+1:=⟨a - 1,by omega⟩
  show iA F r (t:Int) (b:Int) (bH _ a)=_;unfold iA kL;by_cases G:b=0
  ·rw[if_neg (by omega)]
  obtain⟨k,l⟩:=Fx G;have w:=C k (c k l.bit);have K:s<=k:=by
   rcases zAp k s with q|q
   ·have:=l.bit;rw[o k q]at this;cases this
   ·exact q
  obtain⟨m,L,h,j⟩:=y.at' k w;rw[if_pos (by omega),bB (aaw F B l),cK (by have:=y.len;omega),L,CJ h p];have M:m &&& t=0:=by
   refine agS (λi _=> ?_) (OP h);rw[Nat.testBit_and];cases H:m.testBit i with
   |false=>rfl
   |true=>
    cases I:t.testBit i with
    |false=>rfl
    |true=>exact absurd ((j i).1 H) (n k i (c k l.bit) I)
  rw[M,if_neg (by simp)];obtain⟨N,D,E,x⟩:=Pe B l;rw[D];have A:k<32:=by omega
  refine ih (32 - (k+1)) (by omega) (k+1) a N (by omega) E (λi n=> ?_) (λi n=> ?_) (by omega)
  ·rw[x];by_cases e:i=k
   ·simp[e]
   ·rw[l.low i (by omega)];rfl
  ·rw[x,zA4]at n;exact c i n.1
theorem Ky {g:GR} (a:VG g) {r:aO} (d:Ly g r) {t:Nat} (c:Qp g t) (b:∀v u,t.testBit v=true->t.testBit u=true->¬KH g v u):iN 1000 r (t:Int)=some true:=
 TQ a d c b 1000 32 0 1000 t (by omega) (by have:=c.lt a;omega) (λi b=>by omega) (λi h=>h) (by omega)
theorem Ri {g:GR} (M:VG g) {r:aO} (T:Ly g r) {W:Nat} (U:Qp g W) (F:Nat):∀(d s a b t:Nat),s+d=32->b<4294967296->t<4294967296->(∀i,i<s->b.testBit i=false)->(∀i,b.testBit i=true->W.testBit i=true)->(∀i,t.testBit i=true->W.testBit i=true)->(∀v u,t.testBit v=true->t.testBit u=true->¬KH g v u)->(W≠0->t≠0∨b=W)->d<a->
  ∃C:Nat,bH (cI F r) a ((b:Int),(t:Int))=some (C:Int)∧C<4294967296∧(∀i,C.testBit i=true->W.testBit i=true)∧(∀v u,C.testBit v=true->C.testBit u=true->¬KH g v u)∧(W≠0->C≠0):=by
 have aa:=M.n24;intro d
 induction d using Nat.strongRecOn with
 | _ d ih =>
  intro s a b t hs V c I w n j O hf;obtain⟨a,rfl⟩:∃f,a=f+1:=⟨a - 1,by omega⟩
  have P:bH (cI F r) (a+1) ((b:Int),(t:Int))=cI F r ((b:Int),(t:Int)) (bH (cI F r) a):=rfl;rw[P];unfold cI kC iD;dsimp only;by_cases S:b=0
  ·rw[if_neg (by omega)];refine⟨t,rfl,c,n,j,λX=> ?_⟩
   rcases O X with h|h
   ·exact h
   ·exact absurd (h.symm.trans S) X
  obtain⟨k,D⟩:=Fx S;have E:=w k D.bit;have G:=U k E;have ab:s<=k:=by
   rcases zAp k s with q|q
   ·have:=D.bit;rw[I k q]at this;cases this
   ·exact q
  obtain⟨m,hm,J,A⟩:=T.at' k G;obtain⟨L,Y,Q,R⟩:=Pe V D;have p:k<32:=by omega
  have x:∀i,i<k+1->L.testBit i=false:=λi l=>by
   rw[R];by_cases e:i=k
   ·simp[e]
   ·rw[D.low i (by omega)];rfl
  have z:∀i,L.testBit i=true->W.testBit i=true:=λi l=>by
   rw[R,zA4]at l;exact w i l.1
  rw[if_pos (by omega),bB (aaw F V D),cK (by have:=T.len;omega),hm,CJ J c,Y];by_cases K:m &&& t=0
  ·rw[K,if_pos (by rfl),cK (by omega),LG c p];have H:(t ||| 2^k).testBit k=true:=by rw[Nat.testBit_or,zAu];simp
   have y:∀u,t.testBit u=true->¬KH g k u:=λu o N=>by
    have:=congrArg (λq=>q.testBit u) K;simp only[Nat.testBit_and,Nat.zero_testBit,(A u).2 N,o]at this;cases this
   refine ih (32 - (k+1)) (by omega) (k+1) a L (t ||| 2^k) (by omega) Q (aee c (IA p)) x z (λi l=> ?_) (λv u B o=> ?_) (λ_=> .inl λe=>by rw[e]at H;simp at H) (by omega)
   ·rw[Nat.testBit_or,zAu,zAx,zA1]at l;rcases l with l|rfl
    ·exact n i l
    ·exact E
   ·rw[Nat.testBit_or,zAu,zAx,zA1]at B o;rcases B with B|rfl
    ·rcases o with o|rfl
     ·exact j v u B o
     ·exact λN=>y v B (M.back (U v (n v B)) N)
    ·rcases o with o|rfl
     ·exact y u o
     ·rintro⟨i,l,he⟩;exact((M.node k G).links i l).2.1 he
  ·rw[if_neg (by omega)];refine ih (32 - (k+1)) (by omega) (k+1) a L t (by omega) Q c x z n j (λ_=> .inl λe=> ?_) (by omega);rw[e]at K;exact K (Nat.and_zero m)
theorem Uc {g:GR} (hV:VG g) {r:aO} (hN:Ly g r) {kind:Int} (hk1:1<=kind) (hk4:kind<=4) {e w:Nat} (he:Qp g e) (hw:w<4294967296):
  ∃t:Nat,dO 1000 r kind (e:Int) (w:Int)=some (t:Int)∧(∀i,t.testBit i=true->e.testBit i=true)∧(e≠0->t≠0∧gQ 1000 r kind (e:Int) (t:Int)=some true∧(kind<=2->∀v u,t.testBit v=true->t.testBit u=true->¬KH g v u)∧(kind=4->t=e)):=by
 have he24:=he.lt hV;have he32:e<4294967296:=by omega
 -- the wish
 obtain⟨W,hW,hW32,hWe,hW0,hWm⟩:∃W:Nat,dO 1000 r kind (e:Int) (w:Int)=f_ 1000 r kind (e:Int) (W:Int)∧W<4294967296∧(∀i,W.testBit i=true->e.testBit i=true)∧(e≠0->W≠0)∧(e=0->W=0):=by
  unfold dO;rw[CJ hw he32];by_cases h0:w &&& e=0
  ·rw[h0,if_pos (show((0:Nat):Int)=0 from rfl)];by_cases hee:e=0
   ·refine⟨0,by rw[hee];rfl,by omega,λi h=>by simp at h,λh=>absurd hee h,λ_=>rfl⟩
   ·obtain⟨k,hk⟩:=Fx hee;have hk32:=Hn he32 hk.bit;refine⟨2^k,by rw[ada he32 hk],IA hk32,λi h=> ?_,λ_=>Nat.ne_of_gt (Nat.pow_pos (by omega)),λh=>absurd h hee⟩
    rw[zAu,zA1]at h;rw[<-h];exact hk.bit
  ·rw[if_neg (by omega)];refine⟨w &&& e,rfl,OP hw,λi h=> ?_,λ_=>h0,λh=>by rw[h];exact Nat.and_zero w⟩
   rw[Nat.testBit_and,zA4]at h;exact h.2
 have hWG:Qp g W:=λi hi=>he i (hWe i hi);have permits:∀(t:Nat),t≠0->t<4294967296->(∀i,t.testBit i=true->e.testBit i=true)->∀b,(if kind=1 then some (decide ((eW .u32 (t:Int) (wI .u32 ((t:Int) - 1)))=0))else if kind=2 then(Option.bind (iN 1000 r (t:Int)) λr7=>some r7)else if kind=4 then some (decide ((t:Int)=(e:Int)))else some true)=some b->gQ 1000 r kind (e:Int) (t:Int)=some b:=by
  intro t h0 h32 hsub b hb;unfold gQ mW;have hd:BN t e=0:=by
   refine zBa λi=> ?_;rw[NS h32 he32,Nat.zero_testBit];cases h1:t.testBit i with
   |false=>rfl
   |true=>rw[hsub i h1];rfl
  rw[if_neg (by omega),LF,hd,if_neg (by simp)];exact hb
 rw[hW];unfold f_;by_cases k1:kind=1
 ·rw[if_pos k1];by_cases hw0:W=0
  ·refine⟨0,by rw[hw0];rfl,λi h=>by simp at h,λh=>absurd hw0 (hW0 h)⟩
  ·obtain⟨k,hk⟩:=Fx hw0;have hk32:=Hn hW32 hk.bit;have hL:Ku (2^k) k:=⟨by rw[zAu];simp,λj hj=>by rw[zAu];exact zA8 (by omega)⟩
   refine⟨2^k,by rw[ada hW32 hk],λi h=> ?_,λhee=>⟨Nat.ne_of_gt (Nat.pow_pos (by omega)),?_,λ_ v u hv hu hadj=> ?_,λh=>by omega⟩⟩
   ·rw[zAu,zA1]at h;rw[<-h];exact hWe k hk.bit
   ·refine permits _ (Nat.ne_of_gt (Nat.pow_pos (by omega))) (IA hk32) (λi h=> ?_) true ?_
    ·rw[zAu,zA1]at h;rw[<-h];exact hWe k hk.bit
    ·obtain⟨m',e1,e2,e3⟩:=Pe (IA hk32) hL;rw[if_pos k1,e1];have:m'=0:=zBa λi=>by
      rw[e3,zAu,Nat.zero_testBit];by_cases q:k=i
      ·simp[q]
      ·simp[q]
     rw[this];rfl
   ·rw[zAu,zA1]at hv hu;subst hv;subst hu;obtain⟨i,hi,he⟩:=hadj;exact((hV.node k (hWG k hk.bit)).links i hi).2.1 he
 rw[if_neg k1];by_cases k2:kind=2
 ·rw[if_pos k2];obtain⟨t,h1,h2,h3,h4,h5⟩:=Ri hV hN hWG 1000 32 0 1000 W 0 (by omega) hW32 (by omega) (λi hi=>by omega) (λi h=>h) (λi h=>by simp at h) (λv u h=>by simp at h) (λ_=> .inr Z) (by omega);refine⟨t,h1,λi h=>hWe i (h3 i h),λhee=>⟨h5 (hW0 hee),?_,λ_=>h4,λh=>by omega⟩⟩
  refine permits t (h5 (hW0 hee)) h2 (λi h=>hWe i (h3 i h)) true ?_;rw[if_neg k1,if_pos k2,bB (Ky hV hN (λi h=>hWG i (h3 i h)) h4)]
 rw[if_neg k2];by_cases k4:kind=4
 ·rw[if_pos k4];refine⟨e,rfl,λi h=>h,λhee=>⟨hee,permits e hee he32 (λi h=>h) true ?_,λh=>by omega,λ_=>rfl⟩⟩
  rw[if_neg k1,if_neg k2,if_pos k4];simp
 ·rw[if_neg k4];refine⟨W,rfl,hWe,λhee=>⟨hW0 hee,permits W (hW0 hee) hW32 hWe true ?_,λh=>by omega,λh=>absurd h k4⟩⟩
  rw[if_neg k1,if_neg k2,if_neg k4]
end Go.Proofs.YtcnnfkapmjhnaaaGreatDoor
namespace Go.Proofs.YtcnnfkapmjhnaaaGreatDoor
open Go.Sx
def w_  (a:Int):Option (Int):=
 some (a)
def nX (c:aO) (a:eC) (b:gW->Option (Int)):Option (Int):=
 if a.2<(c.length:Int)then(ck (0<=a.2∧a.2<(c.length:Int)) (b ((max a.1 (at' c a.2)),(wI .i64 (a.2+(1:Int))))))else(w_  (a.1))
def nP (U:Nat) (a:aO):Option (Int):=
 if(a.length:Int)<(1:Int)then(none)else(ck (0<=(0:Int)∧(0:Int)<(a.length:Int)) (bH (nX a) U ((at' a (0:Int)),(1:Int))))
theorem OW:aS Tryz.prog 117:=Tryz.call117
theorem Ev (U:Nat) {f:aO} (g:Value) (r:Int) (h:nP U f=some r):
  aY Tryz.prog 117 #[g] [Sl bP g f] (λx:Unit=>vI (r)) (λx l=>l) (λ_ l=>l):=by
 refine aY.of Tryz.func117 Z Tryz.ntmps117 Z λc=>?_;refine aP<|aC Z<|aJ<|aK<|aP<|aA Z<|gS (aE.fact 0 Z) Z<|cO Z<|aJ ?_;refine dK h Z (λh=>?_) λh=>?_
 ·refine aQ ?_;cases h
 refine cG<|aP<|aA Z<|dQ h λj h=>aD (aZ Z Z (aE.fact 0 Z) Z Z j) Z<|aD (bV Z (aE.fact 0 Z) Z Z Z cT j) Z<|aC Z<|aJ<|aK<|eJ (λb=>w_  b=some r) (λb i=>[(3,vI (b))]) (λb i=>[]) ?_ ?_
 ·refine aP<|aC Z<|aJ<|aR<|eO (nX f) (λa d=>[(0,g),(3,vI (a.1)),(4,vI (a.2))]) (λa d=>[]) ((at' f (0:Int)),(1:Int)) () h SF (a_.refl _) ?_;intro k a d h;refine aK<|aP<|aA Z<|aA Z<|gS (aE.fact 0 Z) Z<|cO Z<|aJ ?_;refine dK h Z (λh=>?_) λh=>?_
  ·refine cG<|aK<|aR<|aQ<|aA Z<|aA Z<|aA Z<|dQ h λe h=>aD (aZ Z Z (aE.fact 0 Z) Z Z e) Z<|aD (bV Z (aE.fact 0 Z) Z Z Z cT e) Z<|aD (Ka Z Z) Z<|aC Z<|eV<|lU<|aQ<|aA Z<|cH Z<|aC Z<|aJ ?_;exact AS ((max a.1 (at' f a.2)),(wI .i64 (a.2+(1:Int)))) () h SF Z
  refine fL ?_;exact iH (a.1) () h SF Z
 intro b i h;unfold w_ at h;refine aP<|aA Z<|aC Z<|aJ<|aU ?_;cases h;exact kY Z
def qC (U:Nat) (a:FP) (b:b_) (d:Int):Option gW:=
 Option.bind (nP U b.1) λc=>(some (a.2.2.1,(wI .i64 ((wI .i64 (a.2.2.2.1+(wI .i64 (a.2.2.2.2.1*(b.1.length:Int)))))+(wI .i64 (a.2.2.2.2.2*c))))))
theorem acb:aS Tryz.prog 257:=Tryz.call257
theorem IJ (U:Nat) {a:FP} {d:b_} {f:Int} (b:Value)  (e:Value)  (k:jO) (r:eC) (h:qC U a d f=some r):
  aY Tryz.prog 257 #[Value.agg #[vS (a.1),vI (a.2.1),vI (a.2.2.1),vI (a.2.2.2.1),vI (a.2.2.2.2.1),vI (a.2.2.2.2.2)],Value.agg #[b,e],vI (f)] [Sl bP b d.1,S2 aV e k d.2] (λx:Unit=>Value.tuple #[vI (r.1),vI (r.2)]) (λx l=>l) (λ_ l=>l):=by
 refine aY.of Tryz.func257 Z Tryz.ntmps257 Z λc=>?_;refine aP<|aG (aI.box (cs:=[vS (a.1),vI (a.2.1),vI (a.2.2.1),vI (a.2.2.2.1),vI (a.2.2.2.2.1),vI (a.2.2.2.2.2)]) Z Z) Z λm=>aG (aI.box (cs:=[b,e]) Z Z) Z λn=>aC Z<|aC Z<|aJ<|aK ?_;refine JR.start [0,1,0,4,0,16,0,64,192,496,1020,0,2048,0,8192,24576,63488,131068,57347,524287] 19 mixedOrders (by decide +kernel) ?_;refine zBe (by exact rfl) ?_;refine dJ Z<|fG 1 Z<|dJ Z<|fG 1 Z<|dJ Z<|fG 1 Z<|dJ Z<|fG 0 Z<|bG Z .nil (hZ 0 Z) (fF Z (aE.fact 0 Z) Z) aN.z<|gO Z (zA Z Z)<|gO Z (yE Z Z)<|dJ Z<|fG 1 Z<|dJ Z<|fG 0 Z<|dV h λg i h=>zBc Z Z Z (zBb OW (Ev U b g i) Z (kA [0] Z)) Z (λj=>(jD [([1],[]),([],[0]),([0],[]),([1],[]),([1],[]),([1],[])] Z)) λj=>gO Z (zA Z Z)<|gO Z (yE Z Z)<|gO Z (wO Z)<|bR 19 Z Z<|aC Z<|aJ<|aU ?_;cases h;exact iG () Z Z (RV.tmp Z) (RV.tmp Z) .nil aB.nil
def tU (U:Nat) (a:FP) (b:b_) (c:Int):Option gW:=
 some ((0:Int),(1:Int))
theorem acd:aS Tryz.prog 258:=Tryz.call258
theorem IK (U:Nat) {a:FP} {b:b_} {f:Int} (d:Value)  (e:Value)  (g:jO) (r:eC) (h:tU U a b f=some r):
  aY Tryz.prog 258 #[Value.agg #[vS (a.1),vI (a.2.1),vI (a.2.2.1),vI (a.2.2.2.1),vI (a.2.2.2.2.1),vI (a.2.2.2.2.2)],Value.agg #[d,e],vI (f)] [Sl bP d b.1,S2 aV e g b.2] (λx:Unit=>Value.tuple #[vI (r.1),vI (r.2)]) (λx l=>l) (λ_ l=>l):=by
 refine aY.of Tryz.func258 Z Tryz.ntmps258 Z λc=>?_;unfold tU at h;refine aP<|aG (aI.box (cs:=[vS (a.1),vI (a.2.1),vI (a.2.2.1),vI (a.2.2.2.1),vI (a.2.2.2.2.1),vI (a.2.2.2.2.2)]) Z Z) Z λi=>aG (aI.box (cs:=[d,e]) Z Z) Z λj=>aC Z<|aC Z<|aJ<|aP<|aC Z<|aC Z<|aJ<|aU ?_;cases h;exact iG () Z Z (RV.tmp Z) (RV.tmp Z) .nil aB.nil
def qD (U:Nat) (c:FP) (b:b_) (a:Int):Option gW:=
 ck (0<=a∧a<(b.2.length:Int)) (some ((-1:Int),(wI .i64 (((at' b.2 a).length:Int) - (1:Int)))))
theorem ace:aS Tryz.prog 259:=Tryz.call259
theorem IL (U:Nat) {a:FP} {d:b_} {g:Int} (e:Value)  (f:Value)  (i:jO) (r:eC) (h:qD U a d g=some r):
  aY Tryz.prog 259 #[Value.agg #[vS (a.1),vI (a.2.1),vI (a.2.2.1),vI (a.2.2.2.1),vI (a.2.2.2.2.1),vI (a.2.2.2.2.2)],Value.agg #[e,f],vI (g)] [Sl bP e d.1,S2 aV f i d.2] (λx:Unit=>Value.tuple #[vI (r.1),vI (r.2)]) (λx l=>l) (λ_ l=>l):=by
 refine aY.of Tryz.func259 Z Tryz.ntmps259 Z λc=>?_;refine aP<|aG (aI.box (cs:=[vS (a.1),vI (a.2.1),vI (a.2.2.1),vI (a.2.2.2.1),vI (a.2.2.2.2.1),vI (a.2.2.2.2.2)]) Z Z) Z λj=>aG (aI.box (cs:=[e,f]) Z Z) Z λk=>aC Z<|aC Z<|aJ<|aK ?_;refine JR.start [0,1,0,7,15,31,63,0,255] 8 mixedOrders (by decide +kernel) ?_;refine zBe (by exact rfl) ?_;refine dJ Z<|fG 0 Z<|bA Z<|dQ h λb h=>bG Z .nil (hZ 1 Z) (cV Z Z (aE.fact 0 Z) Z Z b) aN.z<|bG Z .nil (hZ 1 Z) (cP Z (aE.fact 0 Z) Z Z b) aN.z<|bG Z .nil (hZ 1 Z) (fF Z (zBd (aE.fact 0 Z) b.1 b.2) Z) aN.z<|gO Z (qP Z Z)<|gO Z (wO Z)<|bR 8 Z Z<|aC Z<|aJ<|aU ?_;cases h;exact iG () Z Z (RV.tmp Z) (RV.tmp Z) .nil aB.nil
def Au  (a:Unit):Option gW:=
 some ((0:Int),(-1:Int))
def oA (c:Int) (a:(Int)->Option gW) (b:Unit):Option gW:=
 a (wI .i64 (c+(1:Int)))
def fO (U:Nat) (a:FP) (d:b_) (h:Int) (b:Int) (c:(Int)->Option gW):Option gW:=
 if b<(List.length ([((1:Int),(257:Nat)),((2:Int),(258:Nat)),((3:Int),(259:Nat))]):Int)then(ck (0<=b∧b<(List.length ([((1:Int),(257:Nat)),((2:Int),(258:Nat)),((3:Int),(259:Nat))]):Int)) (if b=(0:Int)then(if(1:Int)=a.2.1 then(Option.bind (qC U ((a.1,a.2.1,a.2.2.1,a.2.2.2.1,a.2.2.2.2.1,a.2.2.2.2.2)) ((d.1,d.2)) h) λe=>(some (e.1,e.2)))else(oA b c (())))else(if b=(1:Int)then(if(2:Int)=a.2.1 then(Option.bind (tU U ((a.1,a.2.1,a.2.2.1,a.2.2.2.1,a.2.2.2.2.1,a.2.2.2.2.2)) ((d.1,d.2)) h) λf=>(some (f.1,f.2)))else(oA b c (())))else(if(3:Int)=a.2.1 then(Option.bind (qD U ((a.1,a.2.1,a.2.2.1,a.2.2.2.1,a.2.2.2.2.1,a.2.2.2.2.2)) ((d.1,d.2)) h) λg=>(some (g.1,g.2)))else(oA b c (()))))))else(Au  (()))
def k_ (U:Nat) (a:FP) (b:b_) (c:Int):Option gW:=
 bH (fO U a b c) U (0:Int)
theorem UU:aS Tryz.prog 226:=Tryz.call226
theorem EF (U:Nat) {a:FP} {p:b_} {m:Int} (g:Value)  (i:Value)  (y:jO) (r:eC) (h:k_ U a p m=some r):
  aY Tryz.prog 226 #[Value.agg #[vS (a.1),vI (a.2.1),vI (a.2.2.1),vI (a.2.2.2.1),vI (a.2.2.2.2.1),vI (a.2.2.2.2.2)],Value.agg #[g,i],vI (m)] [Sl bP g p.1,S2 aV i y p.2] (λx:Unit=>Value.tuple #[vI (r.1),vI (r.2)]) (λx l=>l) (λ_ l=>l):=by
 refine aY.of Tryz.func226 Z Tryz.ntmps226 Z λc=>?_;unfold k_ at h;refine aP<|aG (aI.box (cs:=[vS (a.1),vI (a.2.1),vI (a.2.2.1),vI (a.2.2.2.1),vI (a.2.2.2.2.1),vI (a.2.2.2.2.2)]) Z Z) Z λt=>aG (aI.box (cs:=[g,i]) Z Z) Z λu=>aC Z<|aC Z<|aJ<|aP ?_;refine aD (DU (r:=Value.agg #[vI (1:Int),Value.func (.func 257) #[] #[]]) Z Z (by intro w;simp[Instr.build,Instr.fill,dX,dA,cM,dY,dZ,dB,eQ])) Z ?_;refine aD (DU (r:=Value.agg #[vI (2:Int),Value.func (.func 258) #[] #[]]) Z Z (by intro w;simp[Instr.build,Instr.fill,dX,dA,cM,dY,dZ,dB,eQ])) Z ?_;refine aD (DU (r:=Value.agg #[vI (3:Int),Value.func (.func 259) #[] #[]]) Z Z (by intro w;simp[Instr.build,Instr.fill,dX,dA,cM,dY,dZ,dB,eQ])) Z ?_;refine aG (cQ (e:=KI) ([(((1:Int),((257:Nat)))),(((2:Int),((258:Nat)))),(((3:Int),((259:Nat))))]) [(0,Value.agg #[vI (1:Int),Value.func (.func 257) #[] #[]]),(1,Value.agg #[vI (2:Int),Value.func (.func 258) #[] #[]]),(2,Value.agg #[vI (3:Int),Value.func (.func 259) #[] #[]])] Z Z Z Z (YW (vI (1:Int)) (Value.func (.func 257) #[] #[]) (vI (2:Int)) (Value.func (.func 258) #[] #[]) (vI (3:Int)) (Value.func (.func 259) #[] #[])) Z Z Z) Z λv=>aC Z<|aJ<|aK<|eJ (λs=>Au  s=some r) (λs G=>[]) (λs G=>[]) ?_ ?_
 ·refine aP<|aA Z<|aD (fF Z (aT (aE.res 0 Z) CB) Z) Z<|aA Z<|aJ<|aR<|eO (fO U a p m) (λk H=>[(2,vI (m)),(3,vP t),(4,vP u),(15,v),(16,vI (List.length ([((1:Int),(257:Nat)),((2:Int),(258:Nat)),((3:Int),(259:Nat))]):Int)),(17,vI (k))]) (λk H=>[Ar KI v ([((1:Int),(257:Nat)),((2:Int),(258:Nat)),((3:Int),(259:Nat))]),bM u [g,i] 29,bM t [vS (a.1),vI (a.2.1),vI (a.2.2.1),vI (a.2.2.2.1),vI (a.2.2.2.2.1),vI (a.2.2.2.2.2)] 76]) (0:Int) () h SF (a_.refl _) ?_;intro z k H h;refine aP<|cO Z<|aJ<|aK ?_;refine dK h Z (λh=>?_) λh=>?_
  ·refine cG<|aK<|eJ (λj=>oA k (bH (fO U a p m) z) j=some r) (λj n=>[(2,vI (m)),(3,vP t),(4,vP u),(15,v),(16,vI (List.length ([((1:Int),(257:Nat)),((2:Int),(258:Nat)),((3:Int),(259:Nat))]):Int)),(17,vI (k))]) (λj n=>[Ar KI v ([((1:Int),(257:Nat)),((2:Int),(258:Nat)),((3:Int),(259:Nat))]),bM u [g,i] 29,bM t [vS (a.1),vI (a.2.1),vI (a.2.2.1),vI (a.2.2.2.1),vI (a.2.2.2.2.1),vI (a.2.2.2.2.2)] 76]) ?_ ?_
   ·refine aR<|aP<|dQ h λf h=>aD (aZ Z Z (aT (aE.res 0 Z) CB) Z Z f) Z ?_;by_cases b:k=(0:Int)
    ·have h:=Kx b h;refine aD (eM (cs:=[vI (1:Int),Value.func (.func 257) #[] #[]]) Z (aT (aE.res 0 Z) CB) CB (by rw[b];rfl) Z Z Z f) Z ?_;refine aG (aI.alloc (cs:=[vI (0:Int),Value.nilFunc]) Z Z) Z λI=>bK 0 (vs:=[vI (1:Int),Value.func (.func 257) #[] #[]]) Z Z Z Z Z Z<|aJ<|aP<|bY Z<|cR 0 Z<|bY Z<|cR 3 Z<|bS Z<|aJ ?_;refine dK h Z (λh=>?_) λh=>?_
     ·refine aP<|bY Z<|cR 0 Z<|cA 3 Z<|cA 2 Z<|aA Z<|dV h λA D h=>aG (i_ (vs:=[Value.agg #[vS (a.1),vI (a.2.1),vI (a.2.2.1),vI (a.2.2.2.1),vI (a.2.2.2.2.1),vI (a.2.2.2.2.2)],Value.agg #[g,i],vI (m)]) (cs:=[]) acb Z (IJ U g i y A D) Z (kA [0,1] Z) (λ_ _=>rfl)) Z λL=>iU Z<|iU Z<|aC Z<|aC Z<|aJ<|aU<|bN<|aH<|aH<|bN<|aH ?_;cases h;exact iG () Z Z (RV.tmp Z) (RV.tmp Z) .nil aB.nil
     refine dD<|lU ?_;exact bW () (()) h SF (a_.ix [1,2,3] Z Z) (aB.refl _ _)
    have h:=Xy b h;by_cases d:k=(1:Int)
    ·have h:=Kx d h;refine aD (eM (cs:=[vI (2:Int),Value.func (.func 258) #[] #[]]) Z (aT (aE.res 0 Z) CB) CB (by rw[d];rfl) Z Z Z f) Z ?_;refine aG (aI.alloc (cs:=[vI (0:Int),Value.nilFunc]) Z Z) Z λJ=>bK 0 (vs:=[vI (2:Int),Value.func (.func 258) #[] #[]]) Z Z Z Z Z Z<|aJ<|aP<|bY Z<|cR 0 Z<|bY Z<|cR 3 Z<|bS Z<|aJ ?_;refine dK h Z (λh=>?_) λh=>?_
     ·refine aP<|bY Z<|cR 0 Z<|cA 3 Z<|cA 2 Z<|aA Z<|dV h λB E h=>aG (i_ (vs:=[Value.agg #[vS (a.1),vI (a.2.1),vI (a.2.2.1),vI (a.2.2.2.1),vI (a.2.2.2.2.1),vI (a.2.2.2.2.2)],Value.agg #[g,i],vI (m)]) (cs:=[]) acd Z (IK U g i y B E) Z (kA [0,1] Z) (λ_ _=>rfl)) Z λM=>iU Z<|iU Z<|aC Z<|aC Z<|aJ<|aU<|bN<|aH<|aH<|bN<|aH ?_;cases h;exact iG () Z Z (RV.tmp Z) (RV.tmp Z) .nil aB.nil
     refine dD<|lU ?_;exact bW () (()) h SF (a_.ix [1,2,3] Z Z) (aB.refl _ _)
    have h:=Xy d h;have o:k=(2:Int):=by have q:=f;simp only[zAj,List.length_nil]at q;omega
    refine aD (eM (cs:=[vI (3:Int),Value.func (.func 259) #[] #[]]) Z (aT (aE.res 0 Z) CB) CB (by rw[o];rfl) Z Z Z f) Z ?_;refine aG (aI.alloc (cs:=[vI (0:Int),Value.nilFunc]) Z Z) Z λK=>bK 0 (vs:=[vI (3:Int),Value.func (.func 259) #[] #[]]) Z Z Z Z Z Z<|aJ<|aP<|bY Z<|cR 0 Z<|bY Z<|cR 3 Z<|bS Z<|aJ ?_;refine dK h Z (λh=>?_) λh=>?_
    ·refine aP<|bY Z<|cR 0 Z<|cA 3 Z<|cA 2 Z<|aA Z<|dV h λC F h=>aG (i_ (vs:=[Value.agg #[vS (a.1),vI (a.2.1),vI (a.2.2.1),vI (a.2.2.2.1),vI (a.2.2.2.2.1),vI (a.2.2.2.2.2)],Value.agg #[g,i],vI (m)]) (cs:=[]) ace Z (IL U g i y C F) Z (kA [0,1] Z) (λ_ _=>rfl)) Z λN=>iU Z<|iU Z<|aC Z<|aC Z<|aJ<|aU<|bN<|aH<|aH<|bN<|aH ?_;cases h;exact iG () Z Z (RV.tmp Z) (RV.tmp Z) .nil aB.nil
    refine dD<|lU ?_;exact bW () (()) h SF (a_.ix [1,2,3] Z Z) (aB.refl _ _)
   intro j n h;unfold oA at h;refine aQ<|cH Z<|aA Z<|aJ ?_;exact AS (wI .i64 (k+(1:Int))) () h SF Z
  refine fL ?_;exact bW () (()) h SF .nil (aB.refl _ _)
 intro s G h;unfold Au at h;refine aP<|aC Z<|aC Z<|aJ<|aU ?_;cases h;exact iG () Z Z (RV.tmp Z) (RV.tmp Z) (a_.refl _) aB.nil
def zG  (a:Unit):Option (Int):=
 some (0:Int)
def rE (b:Int) (a:(Int)->Option (Int)) (c:Unit):Option (Int):=
 a (wI .i64 (b+(1:Int)))
def zH (b:Int) (a:(Int)->Option (Int)) (c:Bool):Option (Int):=
 if c=true then(some (9:Int))else(rE b a (()))
def oL (U:Nat) (c:DG) (e:b_) (a:Int) (b:(Int)->Option (Int)):Option (Int):=
 if a<(c.2.1.length:Int)then(ck (0<=a∧a<(c.2.1.length:Int)) (if((at' c.2.1 a).2.1)≠(1:Int)then(rE a b (()))else(Option.bind (k_ U ((((at' c.2.1 a).1),((at' c.2.1 a).2.1),((at' c.2.1 a).2.2.1),((at' c.2.1 a).2.2.2.1),((at' c.2.1 a).2.2.2.2.1),((at' c.2.1 a).2.2.2.2.2))) ((e.1,e.2)) (0:Int)) λd=>(if d.2<d.1 then(zH a b (true))else(zH a b (decide ((4096:Int)<(wI .i64 ((wI .i64 (d.2 - d.1))+(1:Int))))))))))else(zG  (()))
def wQ (U:Nat) (a:DG) (b:b_):Option (Int):=
 Option.bind (Da U ((a.1,a.2.1,a.2.2))) λc=>(if(!c)=true then(some (8:Int))else(Option.bind (fJ U ((b.1,b.2))) λd=>(if(!d)=true then(some (1:Int))else(bH (oL U a b) U (0:Int)))))
theorem abM:aS Tryz.prog 180:=Tryz.call180
theorem Nr (U:Nat) {b:DG} {n:b_} (g:Value)  (v:Value)  (i:Value)  (j:Value)  (y:jO) (r:Int) (h:wQ U b n=some r):
  aY Tryz.prog 180 #[Value.agg #[vS (b.1),g,v],Value.agg #[i,j]] [Sl aX g b.2.1,Sl aM v b.2.2,PF (Value.agg #[vS b.1,g,v]),Sl bP i n.1,S2 aV j y n.2] (λx:Unit=>vI (r)) (λx l=>l) (λ_ l=>l):=by
 refine aY.of Tryz.func180 Z Tryz.ntmps180 Z λc=>?_;refine aP<|aG (aI.box (cs:=[vS (b.1),g,v]) Z Z) Z λF=>aG (aI.box (cs:=[i,j]) Z Z) Z λm=>aC Z<|aJ<|aK<|aP<|cA 1 Z<|dV h λA C h=>aG (zBb KV (NA U g v A C) Z (kA [0,1,2] Z)) Z λG=>aD (kB Z) Z<|aJ ?_;refine yW h Z (λ_ h=>?_) λ_ h=>?_
 ·refine aP<|aC Z<|aJ<|aU<|aH ?_;cases h;exact sB Z
 refine cG<|aK<|aP<|cA 0 Z<|dV h λB D h=>aG (zBb Jg (tI U i j y B D) Z (kA [3,4] Z)) Z λH=>aD (kB Z) Z<|aJ ?_;refine yW h Z (λ_ h=>?_) λ_ h=>?_
 ·refine aP<|aC Z<|aJ<|aU<|aH ?_;cases h;exact sB Z
 refine cG<|aK<|eJ (λe=>zG  e=some r) (λe o=>[]) (λe o=>[]) ?_ ?_
 ·refine aP<|bY Z<|cR 1 Z<|gS (aE.fact 0 Z) Z<|aA Z<|aJ<|aR<|eO (oL U b n) (λa p=>[(3,vP m),(16,g),(17,vI (b.2.1.length:Int)),(18,vI (a))]) (λa p=>[bM m [i,j] 29]) (0:Int) () h SF (a_.ix [0] Z Z) ?_;intro u a p h;refine aP<|cO Z<|aJ<|aK ?_;refine dK h Z (λh=>?_) λh=>?_
  ·refine cG<|aK<|eJ (λf=>rE a (bH (oL U b n) u) f=some r) (λf q=>[(3,vP m),(16,g),(17,vI (b.2.1.length:Int)),(18,vI (a))]) (λf q=>[bM m [i,j] 29]) ?_ ?_
   ·refine aR<|aP<|dQ h λt h=>aD (aZ Z Z (aE.fact 0 Z) Z Z t) Z<|aD (eM (cs:=[vS ((at' b.2.1 a).1),vI ((at' b.2.1 a).2.1),vI ((at' b.2.1 a).2.2.1),vI ((at' b.2.1 a).2.2.2.1),vI ((at' b.2.1 a).2.2.2.2.1),vI ((at' b.2.1 a).2.2.2.2.2)]) Z (aE.fact 0 Z) fH Z Z Z Z t) Z<|aG (aI.alloc (cs:=vD5) Z Z) Z λz=>bK 0 (vs:=[vS ((at' b.2.1 a).1),vI ((at' b.2.1 a).2.1),vI ((at' b.2.1 a).2.2.1),vI ((at' b.2.1 a).2.2.2.1),vI ((at' b.2.1 a).2.2.2.2.1),vI ((at' b.2.1 a).2.2.2.2.2)]) Z Z Z Z Z Z<|aJ<|aK<|aP<|bY Z<|cR 0 Z<|pC Z<|aJ ?_;refine dK h Z (λh=>?_) λh=>?_
    ·refine sD<|fD<|yY<|CE ?_;exact bW () (()) h SF (a_.ix [1] Z Z) (aB.refl _ _)
    refine cG<|aP<|cA 0 Z<|cA 1 Z<|dV h λk w h=>aG (zBb UU (EF U i j y k w) Z (kA [3,4] Z)) Z λE=>aA Z<|iU Z<|iU Z<|aC Z<|aC Z<|aJ<|aK<|eJ (λd=>zH a (bH (oL U b n) u) d=some r) (λd s=>[(3,vP m),(16,g),(17,vI (b.2.1.length:Int)),(18,vI (a)),(40,vB (d))]) (λd s=>[bM m [i,j] 29]) ?_ ?_
    ·refine aQ<|aA Z<|aA Z<|cO Z<|aA Z ?_;refine Eb h Z (λ_ h=>?_) λ_ h=>?_
     ·refine aL Z<|aL Z<|aL Z<|aL Z<|aL Z<|eK Z<|aJ ?_;exact bW (true) () h SF (a_.ix [1] Z Z) (aB.refl _ _)
     refine eG Z<|eG Z<|aW Z (qP Z Z) Z<|aW Z (yE Z Z) Z<|aW Z (Bp Z Z) Z<|fY Z<|aJ ?_;exact bW (decide ((4096:Int)<(wI .i64 ((wI .i64 (k.2 - k.1))+(1:Int))))) () h SF (a_.ix [1] Z Z) (aB.refl _ _)
    intro d s h;refine yW h Z (λ_ h=>?_) λ_ h=>?_
    ·refine aP<|aC Z<|aJ<|aU<|bN<|aH<|aH<|bN<|aH ?_;cases h;exact sB Z
    refine dD<|lU ?_;exact iH () (()) h SF Z
   intro f q h;unfold rE at h;refine aQ<|cH Z<|aA Z<|aJ ?_;exact AS (wI .i64 (a+(1:Int))) () h SF Z
  refine fL ?_;exact bW () (()) h SF .nil (aB.refl _ _)
 intro e o h;unfold zG at h;refine aP<|aC Z<|aJ<|aU ?_;cases h;exact kY Z
def xS  (a:Unit):Option Bool:=
 some (true)
def xT (c:Int) (b:(Int)->Option Bool) (a:Bool):Option Bool:=
 if a=true then(some (false))else(b (wI .i64 (c+(1:Int))))
def pR (c:cC) (d:aO) (a:Int) (b:(Int)->Option Bool):Option Bool:=
 if a<(d.length:Int)then(ck (0<=a∧a<(d.length:Int)) (ck (0<=a∧a<(c.length:Int)) (if(at' d a)<((at' c a).1)then(xT a b (true))else(ck (0<=a∧a<(c.length:Int)) (xT a b (decide (((at' c a).2)<(at' d a))))))))else(xS  (()))
def zR (U:Nat) (a:cC) (b:aO):Option Bool:=
 if(b.length:Int)≠(a.length:Int)then(some (false))else(bH (pR a b) U (0:Int))
theorem abW:aS Tryz.prog 227:=Tryz.call227
theorem MS (U:Nat) {k:cC} {d:aO} (n:Value)  (o:Value) (r:Bool) (h:zR U k d=some r):
  aY Tryz.prog 227 #[n,o] [Sl aV n k,Sl bP o d] (λx:Unit=>vB (r)) (λx l=>l) (λ_ l=>l):=by
 refine aY.of Tryz.func227 Z Tryz.ntmps227 Z λc=>?_;refine aP<|aC Z<|aJ<|aK<|aP<|aA Z<|gS (aE.fact 1 Z) Z<|aA Z<|gS (aE.fact 0 Z) Z<|pC Z<|aJ ?_;refine dK h Z (λh=>?_) λh=>?_
 ·refine aP<|aC Z<|aJ<|aU<|aH ?_;cases h;exact kY Z
 refine cG<|aK<|eJ (λm=>xS  m=some r) (λm p=>[]) (λm p=>[]) ?_ ?_
 ·refine aP<|aA Z<|gS (aE.fact 1 Z) Z<|aA Z<|aJ<|aR<|eO (pR k d) (λb q=>[(0,n),(12,o),(13,vI (d.length:Int)),(14,vI (b))]) (λb q=>[]) (0:Int) () h SF (a_.refl _) ?_;intro s b q h;refine aP<|cO Z<|aJ<|aK ?_;refine dK h Z (λh=>?_) λh=>?_
  ·refine cG<|aK<|aR<|aP<|aA Z<|dQ h λf h=>aD (aZ Z Z (aE.fact 1 Z) Z Z f) Z<|aD (bV Z (aE.fact 1 Z) Z Z Z cT f) Z<|aC Z<|aC Z<|aJ<|aK<|eJ (λa=>xT b (bH (pR k d) s) a=some r) (λa e=>[(0,n),(12,o),(13,vI (d.length:Int)),(14,vI (b)),(34,vB (a))]) (λa e=>[]) ?_ ?_
   ·refine aQ<|aA Z<|aA Z<|aA Z<|dQ h λg h=>aD (aZ Z Z (aE.fact 0 Z) Z Z g) Z ?_;refine aD (uZ (i:=0) Z Z Z Z Z (by decide)) Z ?_;refine aD (mA Z (aE.fact 0 Z) Z Z Z sF g) Z<|cO Z<|aA Z ?_;refine Eb h Z (λ_ h=>?_) λ_ h=>?_
    ·refine aL Z<|aL Z<|aL Z<|aL Z<|aL Z<|aL Z<|aL Z<|eK Z<|aJ ?_;exact iH (true) () h SF Z
    refine eG Z<|eG Z<|eG Z<|dQ h λj h=>aW Z (aZ Z Z (aE.fact 0 Z) Z Z j) Z ?_;refine aW Z (uZ (i:=1) Z Z Z Z Z (by decide)) Z ?_;refine aW Z (mA Z (aE.fact 0 Z) Z Z Z Hk j) Z<|aW Z (Bp Z Z) Z<|fY Z<|aJ ?_;exact iH (decide (((at' k b).2)<(at' d b))) () h SF Z
   intro a e h;refine yW h Z (λ_ h=>?_) λ_ h=>?_
   ·refine aP<|aC Z<|aJ<|aU<|bN<|aH<|aH<|bN<|aH ?_;cases h;exact kY Z
   refine dD<|lU<|aQ<|cH Z<|aA Z<|aJ ?_;exact AS (wI .i64 (b+(1:Int))) () h SF Z
  refine fL ?_;exact iH () (()) h SF Z
 intro m p h;unfold xS at h;refine aP<|aC Z<|aJ<|aU ?_;cases h;exact kY Z
def vM  (a:Unit):Option Bool:=
 some (true)
def rV (U:Nat) (c:g_) (e:bX) (a:Int) (b:(Int)->Option Bool):Option Bool:=
 if a<(c.length:Int)then(ck (0<=a∧a<(c.length:Int)) (ck (0<=a∧a<(e.length:Int)) (Option.bind (zR U (at' c a) (at' e a)) λd=>(if(!d)=true then(some (false))else(b (wI .i64 (a+(1:Int))))))))else(vM  (()))
def xQ (U:Nat) (a:g_) (b:bX):Option Bool:=
 if(b.length:Int)≠(a.length:Int)then(some (false))else(bH (rV U a b) U (0:Int))
theorem abN:aS Tryz.prog 181:=Tryz.call181
theorem KD (U:Nat) {f:g_} {g:bX} (j:Value)  (p:jO)  (k:Value)  (q:sY) (r:Bool) (h:xQ U f g=some r):
  aY Tryz.prog 181 #[j,k] [S2 aV j p f,S2 bP k q g] (λx:Unit=>vB (r)) (λx l=>l) (λ_ l=>l):=by
 refine aY.of Tryz.func181 Z Tryz.ntmps181 Z λc=>?_;refine aP<|aC Z<|aJ<|aK<|aP<|aA Z<|aD (jW Z (aE.fact 1 Z) Z) Z<|aA Z<|aD (jW Z (aE.fact 0 Z) Z) Z<|pC Z<|aJ ?_;refine dK h Z (λh=>?_) λh=>?_
 ·refine aP<|aC Z<|aJ<|aU<|aH ?_;cases h;exact kY Z
 refine cG<|aK<|eJ (λe=>vM  e=some r) (λe n=>[]) (λe n=>[]) ?_ ?_
 ·refine aP<|aA Z<|aD (jW Z (aE.fact 0 Z) Z) Z<|aA Z<|aJ<|aR<|eO (rV U f g) (λd o=>[(1,k),(12,j),(13,vI (f.length:Int)),(14,vI (d))]) (λd o=>[]) (0:Int) () h SF (a_.refl _) ?_;intro t d o h;refine aP<|cO Z<|aJ<|aK ?_;refine dK h Z (λh=>?_) λh=>?_
  ·refine cG<|aK<|aR<|aP<|aA Z<|dQ h λa h=>aD (cV Z Z (aE.fact 0 Z) Z Z a) Z<|aD (cP Z (aE.fact 0 Z) Z Z a) Z<|aC Z<|aC Z<|aJ<|aP<|aA Z<|aA Z<|aA Z<|dQ h λb h=>aD (cV Z Z (aE.fact 1 Z) Z Z b) Z<|aD (cP Z (aE.fact 1 Z) Z Z b) Z<|dV h λi m h=>aG (zBb abW (MS U ((at' p d).1) ((at' q d).1) i m) Z (aB.cons (zBd (aE.fact 0 Z) a.1 a.2) (aB.cons (zBd (aE.fact 1 Z) b.1 b.2) .nil))) Z λs=>aD (kB Z) Z<|aJ ?_;refine yW h Z (λ_ h=>?_) λ_ h=>?_
   ·refine aP<|aC Z<|aJ<|aU<|bN<|aH<|aH<|bN<|aH ?_;cases h;exact kY Z
   refine dD<|lU<|aQ<|cH Z<|aA Z<|aJ ?_;exact AS (wI .i64 (d+(1:Int))) () h SF Z
  refine fL ?_;exact iH () (()) h SF Z
 intro e n h;unfold vM at h;refine aP<|aC Z<|aJ<|aU ?_;cases h;exact kY Z
def xI  (a:g_):Option (g_):=
 some (a)
def xJ (b:Int×g_) (a:(Int×g_)->Option (g_)) (c:g_):Option (g_):=
 a ((wI .i64 (b.1+(1:Int))),c)
def pO (U:Nat) (d:DG) (g:b_) (b:Int×g_) (e:(Int×g_)->Option (g_)) (a:Int×g_) (f:(Int×g_)->Option (g_)):Option (g_):=
 if a.1<(d.2.1.length:Int)then(ck (0<=a.1∧a.1<(d.2.1.length:Int)) (ck (0<=b.1∧b.1<(a.2.length:Int)) (ck (0<=b.1∧b.1<(a.2.length:Int)) (Option.bind (k_ U ((((at' d.2.1 a.1).1),((at' d.2.1 a.1).2.1),((at' d.2.1 a.1).2.2.1),((at' d.2.1 a.1).2.2.2.1),((at' d.2.1 a.1).2.2.2.2.1),((at' d.2.1 a.1).2.2.2.2.2))) ((g.1,g.2)) b.1) λc=>(ck (0<=a.1∧a.1<((at' a.2 b.1).length:Int)) (ck (0<=a.1∧a.1<((at' (List.set a.2 (Int.toNat b.1) (List.set (at' a.2 b.1) (Int.toNat a.1) (c.1,((at' (at' a.2 b.1) a.1).2)))) b.1).length:Int)) (f ((wI .i64 (a.1+(1:Int))),(List.set (List.set a.2 (Int.toNat b.1) (List.set (at' a.2 b.1) (Int.toNat a.1) (c.1,((at' (at' a.2 b.1) a.1).2)))) (Int.toNat b.1) (List.set (at' (List.set a.2 (Int.toNat b.1) (List.set (at' a.2 b.1) (Int.toNat a.1) (c.1,((at' (at' a.2 b.1) a.1).2)))) b.1) (Int.toNat a.1) (((at' (at' (List.set a.2 (Int.toNat b.1) (List.set (at' a.2 b.1) (Int.toNat a.1) (c.1,((at' (at' a.2 b.1) a.1).2)))) b.1) a.1).1),c.2)))))))))))else(xJ b e (a.2))
def nD (U:Nat) (c:DG) (d:b_) (a:Int×g_) (b:(Int×g_)->Option (g_)):Option (g_):=
 if a.1<((List.replicate (Int.toNat (List.length d.1:Int)) ([]:cC)).length:Int)then(ck (0<=(c.2.1.length:Int)∧(c.2.1.length:Int)<=1099511627) (ck (0<=a.1∧a.1<(a.2.length:Int)) (bH (pO U c d a b) U ((0:Int),(List.set a.2 (Int.toNat a.1) (List.replicate (Int.toNat (c.2.1.length:Int)) ((0:Int),(0:Int))))))))else(xI  (a.2))
def oZ (U:Nat) (b:DG) (a:b_):Option (g_):=
 ck (0<=(a.1.length:Int)∧(a.1.length:Int)<=1099511627) (bH (nD U b a) U ((0:Int),(List.replicate (Int.toNat (a.1.length:Int)) ([]:cC))))
theorem UP:aS Tryz.prog 182:=Tryz.call182
theorem FH (U:Nat) {d:DG} {q:b_} (v:Value)  (y:Value)  (A:Value)  (C:Value)  (z4:jO) (r:g_) (h:oZ U d q=some r):
  aY Tryz.prog 182 #[Value.agg #[vS (d.1),v,y],Value.agg #[A,C]] [Sl aX v d.2.1,Sl aM y d.2.2,PF (Value.agg #[vS d.1,v,y]),Sl bP A q.1,S2 aV C z4 q.2] (λx:Value×List Value=>x.1) (λx l=>Ar fQ.raw x.1 x.2::nH bT x.2 r::l) (λ_ l=>l):=by
 refine aY.of Tryz.func182 Z Tryz.ntmps182 Z λc=>?_;refine aP<|aG (aI.box (cs:=[vS (d.1),v,y]) Z Z) Z λD=>aG (aI.box (cs:=[A,C]) Z Z) Z λE=>aC Z<|aJ<|aP<|bY Z<|cR 0 Z<|gS (aE.fact 3 Z) Z<|dQ h λj3 h=>jT (AQ bT (Int.toNat (q.1.length:Int)))<|aG (qO (e:=fQ.raw) (lE) Z Z Z Z j3 Z Z Z) Z λu=>aC Z<|aJ<|aK<|El (B:=jB) (λF=>xI  F=some r) (λF H=>[(5,u)]) (λF H=>[Ar fQ.raw u H,nH bT H F]) ?_ ?_
 ·refine aP<|aA Z<|aD (jW Z (bE (i:=0) (j:=1) Z Z bD) Z) Z<|aA Z<|aJ<|aR<|eO (B:=jB) (nD U d q) (λb m=>[(2,vP D),(3,vP E),(5,u),(14,vI ((List.replicate (Int.toNat (List.length q.1:Int)) ([]:cC)).length:Int)),(15,vI (b.1))]) (λb m=>[Ar fQ.raw u m,nH bT m b.2,bM E [A,C] 29,bM D [vS (d.1),v,y] 44]) ((0:Int),(List.replicate (Int.toNat (q.1.length:Int)) ([]:cC))) (List.replicate (Int.toNat (q.1.length:Int)) (lE)) h SF (a_.refl _) ?_;intro S b m h;refine aP<|cO Z<|aJ<|aK ?_;refine dK h Z (λh=>?_) λh=>?_
  ·refine cG<|aK<|El (B:=jB) (λp=>xJ b (bH (nD U d q) S) p=some r) (λp s=>[(2,vP D),(3,vP E),(5,u),(14,vI ((List.replicate (Int.toNat (List.length q.1:Int)) ([]:cC)).length:Int)),(15,vI (b.1))]) (λp s=>[Ar fQ.raw u s,nH bT s p,bM E [A,C] 29,bM D [vS (d.1),v,y] 44]) ?_ ?_
   ·refine aR<|aP<|aA Z<|aC Z<|aJ<|aP<|aA Z<|aA Z<|bY Z<|cR 3 Z<|gS (aE.fact 0 Z) Z<|dQ h λT h=>aG (qO (e:=bT) (((0:Int),(0:Int))) Z Z Z Z T Z Z Z) Z λw=>dQ h λt h=>aD (cV Z Z (bE (i:=1) (j:=2) Z Z bD) Z Z t) Z<|dH (Know.one ((aT (aE.res 0 Z) bD))) λO=>jT (As (k:=b.1) 2 0 Z Z Z t) ?_;refine sE 0 1 ⟨t.1,by first|exact t.2|simpa using t.2⟩ Z Z Z Z Z (by simp) O Z ?_;refine aJ<|aP<|bY Z<|cR 3 Z<|gS (aE.fact 0 Z) Z<|aA Z<|aJ<|aR<|eO (pO U d q b (bH (nD U d q) S)) (λa G=>[(2,vP D),(3,vP E),(5,u),(6,vI (b.1)),(14,vI ((List.replicate (Int.toNat (List.length q.1:Int)) ([]:cC)).length:Int)),(15,vI (b.1)),(26,v),(27,vI (d.2.1.length:Int)),(28,vI (a.1))]) (λa G=>[Ar fQ.raw u (List.set m (Int.toNat b.1) w),nH bT (List.set m (Int.toNat b.1) w) a.2,bM E [A,C] 29,bM D [vS (d.1),v,y] 44]) ((0:Int),(List.set b.2 (Int.toNat b.1) (List.replicate (Int.toNat (d.2.1.length:Int)) ((0:Int),(0:Int))))) () h SF (a_.refl _) ?_;intro ac a G h;refine aP<|cO Z<|aJ<|aK ?_;refine dK h Z (λh=>?_) λh=>?_
    ·refine cG<|aK<|aR<|aP<|aA Z<|dQ h λP h=>aD (aZ Z Z (aE.fact 0 Z) Z Z P) Z<|aD (eM (cs:=[vS ((at' d.2.1 a.1).1),vI ((at' d.2.1 a.1).2.1),vI ((at' d.2.1 a.1).2.2.1),vI ((at' d.2.1 a.1).2.2.2.1),vI ((at' d.2.1 a.1).2.2.2.2.1),vI ((at' d.2.1 a.1).2.2.2.2.2)]) Z (aE.fact 0 Z) fH Z Z Z Z P) Z<|aG (aI.alloc (cs:=vD5) Z Z) Z λab=>aC Z<|bK 0 (vs:=[vS ((at' d.2.1 a.1).1),vI ((at' d.2.1 a.1).2.1),vI ((at' d.2.1 a.1).2.2.1),vI ((at' d.2.1 a.1).2.2.2.1),vI ((at' d.2.1 a.1).2.2.2.2.1),vI ((at' d.2.1 a.1).2.2.2.2.2)]) Z Z Z Z Z Z<|aJ ?_;refine JR.start [0,0,3,7,0,0,0,96,224,0,0,0,0,7168,15360,31744,31744,31,196095,458239,992,2097151,4194303] 21 mixedOrders (by decide +kernel) ?_;refine zBe (by exact rfl) ?_;refine bA Z<|bA Z<|dQ h λn h=>cL (eH 2 Z) λI=>?_;refine bG Z (a_.cons 1 Z .nil) .nil (kP 0 Z Z Z Z Z n.1 (by have V:=n.2;have W:=I;(try simp only[zA3]at V);(try simp only[zA3]at W);(try simp only[zA3]);omega)) aN.z ?_;refine cL (eH 2 Z) λJ=>bG Z (a_.cons 1 Z .nil) .nil (pN 0 Z Z J Z Z n) aN.z<|bA Z<|bA Z<|bA Z<|dQ h λg h=>cL (eH 2 Z) λK=>?_;refine bG Z (a_.cons 1 Z .nil) .nil (kP 0 Z Z Z Z Z g.1 (by have V:=g.2;have W:=K;(try simp only[zA3]at V);(try simp only[zA3]at W);(try simp only[zA3]);omega)) aN.z ?_;refine cL (eH 2 Z) λL=>bG Z (a_.cons 1 Z .nil) .nil (pN 0 Z Z L Z Z g) aN.z<|bA Z<|fX 0 Z<|fX 3 Z<|bA Z<|dV h λf X h=>zBc Z Z Z (zBb UU (EF U A C z4 f X) Z (kA [3,4] Z)) Z (λY=>(jD [([1],[]),([1],[]),([1],[]),([1],[])] Z)) λY=>gO Z (gN Z)<|gO Z (fZ Z Z)<|gO Z (fZ Z Z)<|dQ h λQ h=>cL (Know.len (aE.row (j:=2) Z bD n.1 n.2)) λM=>gO Z (QO Z Z M Z Z Q) ?_;refine gO Z (uZ (i:=0) Z Z Z Z Z (by decide)) ?_;refine oG Z Z Z (E_ (us:=[vI (f.1)]) (o:=0) (k:=b.1) 2 ((f.1,((at' (at' a.2 b.1) a.1).2))) ⟨n.1,by first|exact n.2|simpa using n.2⟩ Q Z Z Z Z Z Z Z Z Z Z) (λaa=>(jD [] Z)) λaa=>dQ h λR h=>cL (Know.len (aE.row (j:=2) Z bD g.1 (by first|exact g.2|simpa using g.2))) λN=>?_;refine gO Z (QO Z Z N Z Z R)<|bR 21 Z Z ?_;refine aD (uZ (i:=1) Z Z Z Z Z (by decide)) Z ?_;refine KN (E_ (us:=[vI (f.2)]) (o:=1) (k:=b.1) 2 ((((at' (at' (List.set a.2 (Int.toNat b.1) (List.set (at' a.2 b.1) (Int.toNat a.1) (f.1,((at' (at' a.2 b.1) a.1).2)))) b.1) a.1).1),f.2)) ⟨g.1,by first|exact g.2|simpa using g.2⟩ R Z Z Z Z Z Z Z Z Z Z) λad=>eV<|lU<|aQ<|cH Z<|aA Z<|aJ ?_;exact kO ((wI .i64 (a.1+(1:Int))),(List.set (List.set a.2 (Int.toNat b.1) (List.set (at' a.2 b.1) (Int.toNat a.1) (f.1,((at' (at' a.2 b.1) a.1).2)))) (Int.toNat b.1) (List.set (at' (List.set a.2 (Int.toNat b.1) (List.set (at' a.2 b.1) (Int.toNat a.1) (f.1,((at' (at' a.2 b.1) a.1).2)))) b.1) (Int.toNat a.1) (((at' (at' (List.set a.2 (Int.toNat b.1) (List.set (at' a.2 b.1) (Int.toNat a.1) (f.1,((at' (at' a.2 b.1) a.1).2)))) b.1) a.1).1),f.2)))) () h SF (a_.ix [1,2,3,4] Z Z) (aB.refl _ _)
    refine sD<|fD<|fD<|yY<|lU ?_;exact iH (a.2) (List.set m (Int.toNat b.1) w) h SF Z
   intro p s h;unfold xJ at h;refine aQ<|cH Z<|aA Z<|aJ ?_;exact AS ((wI .i64 (b.1+(1:Int))),p) (s) h SF Z
  refine fL ?_;exact bW (b.2) (m) h SF (a_.ix [0,1] Z Z) (aB.refl _ _)
 intro F H h;unfold xI at h;refine aP<|aA Z<|aC Z<|aJ<|aU ?_;cases h;exact eR (u,H) Z Z (RV.tmp Z) (a_.refl _) aB.nil
def uL (U:Nat) (a:DG) (b:b_) (e:bX):Option (Int):=
 Option.bind (wQ U ((a.1,a.2.1,a.2.2)) ((b.1,b.2))) λd=>(if d≠(0:Int)then(some (d))else(Option.bind (oZ U ((a.1,a.2.1,a.2.2)) ((b.1,b.2))) λf=>(Option.bind (xQ U f e) λc=>(if(!c)=true then(some (10:Int))else(some (0:Int))))))
theorem afa:aS Tryz.prog 98:=Tryz.call98
theorem MR (U:Nat) {a:DG} {g:b_} {p:bX} (b:Value)  (d:Value)  (e:Value)  (f:Value)  (o:jO)  (m:Value)  (t:sY) (r:Int) (h:uL U a g p=some r):
  aY Tryz.prog 98 #[Value.agg #[vS (a.1),b,d],Value.agg #[e,f],m] [Sl aX b a.2.1,Sl aM d a.2.2,PF (Value.agg #[vS a.1,b,d]),Sl bP e g.1,S2 aV f o g.2,S2 bP m t p] (λx:Unit=>vI (r)) (λx l=>l) (λ_ l=>l):=by
 refine aY.of Tryz.func98 Z Tryz.ntmps98 Z λc=>?_;refine aP<|aG (aI.box (cs:=[vS (a.1),b,d]) Z Z) Z λz=>aG (aI.box (cs:=[e,f]) Z Z) Z λA=>aC Z<|aJ<|aK<|aP<|cA 1 Z<|cA 0 Z<|dV h λu v h=>aG (zBb abM (Nr U b d e f o u v) Z (kA [0,1,2,3,4] Z)) Z λB=>aC Z<|aJ<|aP<|aA Z<|pC Z<|aJ ?_;refine dK h Z (λh=>?_) λh=>?_
 ·refine aP<|aA Z<|aC Z<|aJ<|aU<|aH ?_;cases h;exact sB Z
 refine cG<|aK<|aP<|cA 1 Z<|cA 0 Z<|dV h λq w h=>aG (zBb UP (FH U b d e f o q w) Z (kA [0,1,2,3,4] Z)) Z λs=>aA Z<|dV h λk n h=>aG (zBb abN (KD U s.1 (List.zip s.2 q) m t k n) Z (aB.cons (bE (i:=0) (j:=1) Z Z bD) (kA [5] Z))) Z λy=>aD (kB Z) Z<|aJ ?_;refine yW h Z (λ_ h=>?_) λ_ h=>?_
 ·refine aP<|aC Z<|aJ<|aU<|aH ?_;cases h;exact sB Z
 refine cG<|aP<|aC Z<|aJ<|aU ?_;cases h;exact sB Z
def zX  (a:bX):Option bX:=
 some (a)
def uR (c:bX) (a:Int×bX) (b:(Int×bX)->Option bX):Option bX:=
 if a.1<(c.length:Int)then(ck (0<=a.1∧a.1<(c.length:Int)) (ck ((List.length ([]:aO):Int)+((at' c a.1).length:Int)<=1099511627) (ck (0<=a.1∧a.1<(a.2.length:Int)) (b ((wI .i64 (a.1+(1:Int))),(List.set a.2 (Int.toNat a.1) (([]:aO)++(at' c a.1))))))))else(zX  (a.2))
def wT (U:Nat) (a:bX):Option bX:=
 ck (0<=(a.length:Int)∧(a.length:Int)<=1099511627) (bH (uR a) U ((0:Int),(List.replicate (Int.toNat (a.length:Int)) ([]:aO))))
theorem UQ:aS Tryz.prog 184:=Tryz.call184
theorem Ha (U:Nat) {g:bX} (t:Value)  (w:sY) (r:bX) (h:wT U g=some r):
  aY Tryz.prog 184 #[t] [S2 bP t w g] (λx:Value×List Value=>x.1) (λx l=>Ar fQ.raw x.1 x.2::nH cB x.2 r::l) (λ_ l=>l):=by
 refine aY.of Tryz.func184 Z Tryz.ntmps184 Z λc=>?_;refine aP<|aC Z<|aJ<|aP<|aA Z<|aD (jW Z (aE.fact 0 Z) Z) Z<|dQ h λu h=>jT (AQ cB (Int.toNat (g.length:Int)))<|aG (qO (e:=fQ.raw) (lE) Z Z Z Z u Z Z Z) Z λp=>aC Z<|aJ<|aK<|El (B:=jB) (λm=>zX  m=some r) (λm n=>[(3,p)]) (λm n=>[Ar fQ.raw p n,nH cB n m]) ?_ ?_
 ·refine aP<|aA Z<|aD (jW Z (aE.fact 0 Z) Z) Z<|aA Z<|aJ<|aR<|eO (B:=jB) (uR g) (λa b=>[(3,p),(9,t),(10,vI (g.length:Int)),(11,vI (a.1))]) (λa b=>[Ar fQ.raw p b,nH cB b a.2]) ((0:Int),(List.replicate (Int.toNat (g.length:Int)) ([]:aO))) (List.replicate (Int.toNat (g.length:Int)) (lE)) h SF (a_.refl _) ?_;intro v a b h;refine aP<|cO Z<|aJ<|aK ?_;refine dK h Z (λh=>?_) λh=>?_
  ·refine cG<|aK<|aR<|aP<|aA Z<|dQ h λf h=>aD (cV Z Z (aE.fact 0 Z) Z Z f) Z<|aD (cP Z (aE.fact 0 Z) Z Z f) Z<|aC Z<|aC Z<|aJ<|aQ<|aA Z<|aA Z<|aA Z<|jT (gK cB)<|dQ h λq h=>aG (iV 0 cD Z Z Z (zBd (aE.fact 0 Z) f.1 f.2) Z Z Z Z q Z) Z λs=>dQ h λd h=>aD (cV Z Z (bE (i:=1) (j:=2) Z Z cD) Z Z d) Z<|dH (Know.one ((aT (aE.res 0 Z) cD))) λo=>jT (As (k:=a.1) 2 0 Z Z Z d) ?_;refine sE 0 1 ⟨d.1,by first|exact d.2|simpa using d.2⟩ Z Z Z Z Z (by simp) o Z ?_;refine eV<|lU<|aQ<|cH Z<|aA Z<|aJ ?_;exact AS ((wI .i64 (a.1+(1:Int))),(List.set a.2 (Int.toNat a.1) (([]:aO)++(at' g a.1)))) (List.set b (Int.toNat a.1) s) h SF Z
  refine fL ?_;exact iH (a.2) (b) h SF Z
 intro m n h;unfold zX at h;refine aP<|aA Z<|aC Z<|aJ<|aU ?_;cases h;exact eR (p,n) Z Z (RV.tmp Z) (a_.refl _) aB.nil
end Go.Proofs.YtcnnfkapmjhnaaaGreatDoor
namespace Go.Proofs.YtcnnfkapmjhnaaaGreatDoor
open Go Go.Sx
abbrev Ap:=ByteArray×(List Gu)×(List wN)
structure CW (g:GR) (vars:List Gu):Prop where
 len:vars.length<=20
 small:∀x,x<vars.length->H_ (at' vars (x:Int))
 kind:∀x,x<vars.length->(at' vars (x:Int)).2.1=1∨(at' vars (x:Int)).2.1=2∨(at' vars (x:Int)).2.1=3
 range:∀x,x<vars.length->(at' vars (x:Int)).2.1=1 -> -100000<=lo g (at' vars (x:Int)) 0∧lo g (at' vars (x:Int)) 0<=hi g (at' vars (x:Int)) 0∧hi g (at' vars (x:Int)) 0 - lo g (at' vars (x:Int)) 0+1<=4096
theorem afR {g:GR} (a:VG g):nP 1000 g.1=some (lY g g.1.length):=by
 have d:=a.n24;have b:=a.len;have h:=a.n1;have f:0<=at' g.1 ((0:Nat):Int):=(a.node 0 (by omega)).id.1;unfold nP;rw[if_neg (by omega),cK (by omega)];have:=fM (step:=nX g.1) (K:=some (lY g g.1.length)) (g.1.length - 1) (λk=>(lY g (k+1),((k+1:Nat):Int))) (λk c i=>by
  unfold nX;dsimp only;rw[if_pos (by omega),cK (by omega),dL (by omega)];rfl) (λc=>by
  unfold nX w_;dsimp only;rw[if_neg (by omega),show g.1.length - 1+1=g.1.length by omega]) 1000 (by omega)
 have e:lY g (0+1)=at' g.1 (0:Int):=by
  show max (lY g 0) (at' g.1 ((0:Nat):Int))=_;simp only[lY];have:at' g.1 ((0:Nat):Int)=at' g.1 (0:Int):=rfl;omega
 rw[e]at this;exact this
theorem NO {g:GR} (c:VG g) {x:Gu} (o:H_ x) (n:x.2.1=1∨x.2.1=2∨x.2.1=3) {v:Nat} (p:v<g.2.length):k_ 1000 x g (v:Int)=some (lo g x v,hi g x v):=by
 obtain⟨⟨B,C⟩,⟨r,s⟩,t,u⟩:=o;have l:=c.n24;have d:=c.len;have e:=Ms c g.1.length (by omega);have w:0<=x.2.2.2.2.1*(g.1.length:Int):=Int.mul_nonneg r (by omega);have y:x.2.2.2.2.1*(g.1.length:Int)<=100000*24:=Int.mul_le_mul s (by omega) (by omega) (by omega);have z:0<=x.2.2.2.2.2*lY g g.1.length:=Int.mul_nonneg t e.1;have A:x.2.2.2.2.2*lY g g.1.length<=100000*255:=Int.mul_le_mul u e.2 e.1 (by omega);have i:qC 1000 x g (v:Int)=some (x.2.2.1,x.2.2.2.1+x.2.2.2.2.1*(g.2.length:Int)+x.2.2.2.2.2*lY g g.1.length):=by
  unfold qC;rw[bB (afR c),wr (x:=x.2.2.2.2.1*_) (by omega) (by omega),wr (x:=x.2.2.2.2.2*_) (by omega) (by omega),wr (x:=x.2.2.2.1+_) (by omega) (by omega),wr (by omega) (by omega),d]
 have j:qD 1000 x g (v:Int)=some (-1,((row g v).length:Int) - 1):=by
  have k:=(c.node v p).deg;unfold qD;rw[cK (by omega)];show some ((-1:Int),wI .i64 (((row g v).length:Int) - 1))=_;rw[wr (by omega) (by omega)]
 have q:∀(f:Nat) (a:Int),bH (fO 1000 x g (v:Int)) (f+1) a=fO 1000 x g (v:Int) a (bH (fO 1000 x g (v:Int)) f):=λf a=>rfl;have b:∀(f:Nat) (a:Int),a=0∨a=1∨a=2->bH (fO 1000 x g (v:Int)) (f+1) a=if a=0 then(if 1=x.2.1 then qC 1000 x g (v:Int)else bH (fO 1000 x g (v:Int)) f 1)else if a=1 then(if 2=x.2.1 then tU 1000 x g (v:Int)else bH (fO 1000 x g (v:Int)) f 2)else(if 3=x.2.1 then qD 1000 x g (v:Int)else bH (fO 1000 x g (v:Int)) f 3):=by
  intro f a m;rw[q];generalize bH (fO 1000 x g (v:Int)) f=G;unfold fO oA;rcases m with rfl|rfl|rfl
  ·rw[if_pos (by decide),cK (by decide),if_pos Z,if_pos Z];split
   ·rw[i];rfl
   ·rfl
  ·rw[if_pos (by decide),cK (by decide),if_neg (show¬(1:Int)=0 by decide),if_pos Z,if_neg (show¬(1:Int)=0 by decide),if_pos Z];split
   ·rfl
   ·rfl
  ·rw[if_pos (by decide),cK (by decide),if_neg (show¬(2:Int)=0 by decide),if_neg (show¬(2:Int)=1 by decide),if_neg (show¬(2:Int)=0 by decide),if_neg (show¬(2:Int)=1 by decide)];split
   ·rw[j];rfl
   ·rfl
 unfold k_ lo hi;rcases n with h|h|h
 ·rw[b 999 0 (.inl Z),if_pos Z,if_pos h.symm,i,h,if_neg (by decide),if_neg (by decide),if_neg (by decide),if_neg (by decide)]
 ·rw[b 999 0 (.inl Z),if_pos Z,if_neg (by omega),b 998 1 (.inr (.inl Z)),if_neg (by decide),if_pos Z,if_pos h.symm,h,if_pos Z,if_pos Z];rfl
 ·rw[b 999 0 (.inl Z),if_pos Z,if_neg (by omega),b 998 1 (.inr (.inl Z)),if_neg (by decide),if_pos Z,if_neg (by omega),b 997 2 (.inr (.inr Z)),if_neg (by decide),if_neg (by decide),if_pos h.symm,j,h,if_neg (by decide),if_pos Z,if_neg (by decide),if_pos Z]
def LQ (g:GR) (a:List Gu) (v x:Nat):eC:=(lo g (at' a (x:Int)) v,hi g (at' a (x:Int)) v)
def GB (g:GR) (a:List Gu) (v:Nat):cC:=(List.range a.length).map (LQ g a v)
def Ey (g:GR) (a:List Gu):g_:=(List.range g.2.length).map (GB g a)
theorem DC {a:Type} [Inhabited a] (f:Nat->a) {n k:Nat} (h:k<n):at' ((List.range n).map f) (k:Int)=f k:=by
 rw[lD (by simpa using h)];simp
theorem AI {a:Type} (f:Nat->a) (z:a) (n k:Nat) (h:k<n):((List.range k).map f++List.replicate (n - k) z).set k (f k)=(List.range (k+1)).map f++List.replicate (n - (k+1)) z:=by
 rw[show n - k=(n - (k+1))+1 by omega,List.replicate_succ,List.set_append_right _ _ (by simp),List.range_succ];simp
theorem Su {g:GR} (m:VG g) {p:Ap} (n:CW g p.2.1):oZ 1000 p g=some (Ey g p.2.1):=by
 have s:=m.n24;have d:=m.len;have w:=n.len;let a:=p.2.1;let Q:Nat->g_:=λk=>(List.range k).map (GB g a)++List.replicate (g.2.length - k) [];have c:∀k,k<=g.2.length->(Q k).length=g.2.length:=λk f=>by simp[Q];omega
 let R:Nat->Nat->cC:=λk j=>(List.range j).map (LQ g a k)++List.replicate (a.length - j) (0,0);have l:∀k j,j<=a.length->(R k j).length=a.length:=λk j b=>by simp[R];omega
 unfold oZ;rw[cK (by omega)];rw[show List.replicate (Int.toNat (g.1.length:Int)) ([]:cC)=Q 0 by simp[Q,d]];refine fM (step:=nD 1000 p g) (K:=some (Ey g a)) g.2.length (λk=>((k:Int),Q k)) (λk e f=> ?_) (λe=> ?_) 1000 (by omega)
 ·unfold nD;dsimp only;rw[if_pos (by simp;omega),cK (by omega),cK (by rw[c k (by omega)];omega)];refine Eq.trans (?_:_=bH (pO 1000 p g ((k:Int),Q k) e) 1000 ((0:Int),(Q k).set k (R k 0))) ?_
  ·rw[zAc,zAc];simp[R,a]
  refine fM (step:=pO 1000 p g ((k:Int),Q k) e) (K:=e (((k+1:Nat):Int),Q (k+1))) a.length (λj=>((j:Int),(Q k).set k (R k j))) (λj h b=> ?_) (λh=> ?_) 1000 (by show p.2.1.length<1000;omega)
  ·have u:j<p.2.1.length:=b;have t:=NO m (n.small j b) (n.kind j b) f;have v:k<(Q k).length:=by rw[c k (by omega)];exact f
   have o:∀X:cC,at' ((Q k).set k X) (k:Int)=X:=λX=>by rw[qQ _ _ _ _ v,if_pos Z]
   have i:j<(R k j).length:=by rw[l k j (by omega)];exact b
   unfold pO;dsimp only;rw[if_pos (by omega),cK (by omega),cK (by simp only[zA3];omega),cK (by simp only[zA3];omega),bB (show k_ 1000 _ g (k:Int)=_ from t),zAc,zAc];simp only[o,List.set_set];rw[cK (by omega),cK (by simp only[zA3];omega),dL (by omega)];have:(R k j).set j (lo g (at' p.2.1 (j:Int)) k,hi g (at' p.2.1 (j:Int)) k)=R k (j+1):=AI (LQ g a k) (0,0) a.length j b;rw[qQ _ _ _ _ i,if_pos Z];dsimp only;rw[this]
  ·unfold pO xJ;dsimp only;rw[if_neg (show¬((a.length:Nat):Int)<(p.2.1.length:Int)from Int.lt_irrefl _),dL (by omega)];have q:R k a.length=GB g a k:=by simp[R,GB]
   have r:(Q k).set k (GB g a k)=Q (k+1):=AI (GB g a) [] g.2.length k f;rw[q,r]
 ·unfold nD xI;dsimp only;rw[if_neg (by simp;omega)];simp[Q,Ey]
theorem acF {g:GR} (c:VG g) {p:Ap} (b:CW g p.2.1):wQ 1000 p g=some 0:=by
 have i:=c.n1;have h:=b.len;unfold wQ;rw[bB (show Da 1000 _=some true from rfl),if_neg (by decide),bB (show fJ 1000 g=some true from(Xt g).1 c),if_neg (by decide)];refine fM (step:=oL 1000 p g) (K:=some 0) p.2.1.length (λk=>(k:Int)) (λk e d=> ?_) (λe=> ?_) 1000 (by omega)
 ·unfold oL rE zH rE;rw[if_pos (by omega),cK (by omega),dL (by omega)];by_cases a:(at' p.2.1 (k:Int)).2.1=1
  ·obtain⟨j,l,m⟩:=b.range k d a;have f:=NO c (b.small k d) (b.kind k d) (v:=0) (by omega);rw[if_neg (by simpa using a),bB (show k_ 1000 _ g (0:Int)=_ from f)];dsimp only;rw[if_neg (by omega),wr (x:=hi g (at' p.2.1 (k:Int)) 0 - lo g (at' p.2.1 (k:Int)) 0) (by omega) (by omega),wr (by omega) (by omega),if_neg (by rw[zA1];omega)]
  ·rw[if_pos a]
 ·unfold oL zG;rw[if_neg (by omega)]
theorem aar {g:GR} {a:List Gu} (i:a.length<=20) {v:Nat} {l:aO} (c:l.length=a.length) (d:∀x,x<a.length->lo g (at' a (x:Int)) v<=at' l (x:Int)∧at' l (x:Int)<=hi g (at' a (x:Int)) v):zR 1000 (GB g a v) l=some true:=by
 have f:(GB g a v).length=a.length:=by simp[GB]
 unfold zR;rw[if_neg (by rw[f,c];simp)];refine fM (step:=pR (GB g a v) l) (K:=some true) l.length (λk=>(k:Int)) (λk b h=> ?_) (λb=> ?_) 1000 (by omega)
 ·have e:at' (GB g a v) (k:Int)=LQ g a v k:=DC _ (by omega);have:=d k (by omega);unfold pR xT;rw[if_pos (by omega),cK (by omega),cK (by omega),e];rw[if_neg (show¬at' l (k:Int)<(LQ g a v k).1 from Int.not_lt.2 this.1),cK (by omega),if_neg (by rw[zA1];exact Int.not_lt.2 this.2),dL (by omega)]
 ·unfold pR xS;rw[if_neg (by omega)]
theorem YA {g:GR} (a:VG g) {p:Ap} (f:CW g p.2.1) {c:bX} (b:HU g c p.2.1):uL 1000 p g c=some 0:=by
 have i:=a.n24;have l:(Ey g p.2.1).length=g.2.length:=by simp[Ey]
 have d:=b.len;unfold uL;rw[bB (show wQ 1000 _ _=some 0 from acF a f),if_neg (by decide),bB (show oZ 1000 _ _=_ from Su a f)];have:xQ 1000 (Ey g p.2.1) c=some true:=by
  unfold xQ;rw[if_neg (by rw[l,d];simp)];refine fM (step:=rV 1000 (Ey g p.2.1) c) (K:=some true) g.2.length (λk=>(k:Int)) (λk h e=> ?_) (λh=> ?_) 1000 (by omega)
  ·have j:at' (Ey g p.2.1) (k:Int)=GB g p.2.1 k:=DC _ e;unfold rV;rw[if_pos (by omega),cK (by omega),cK (by omega),j,bB (aar f.len (b.row k e) (b.ok k e)),if_neg (by decide),dL (by omega)]
  ·unfold rV vM;rw[if_neg (by omega)]
 rw[bB this,if_neg (by decide)]
theorem Vf (c:bX) (h:c.length<=900) (e:∀v,v<c.length->(at' c (v:Int)).length<=1000):wT 1000 c=some c:=by
 unfold wT;rw[cK (by omega)];let Q:Nat->bX:=λk=>(List.range k).map (λv:Nat=>at' c (v:Int))++List.replicate (c.length - k) [];rw[show List.replicate (Int.toNat (c.length:Int)) ([]:aO)=Q 0 by simp[Q]];refine fM (step:=uR c) (K:=some c) c.length (λk=>((k:Int),Q k)) (λk b a=> ?_) (λb=> ?_) 1000 (by omega)
 ·have g:(Q k).length=c.length:=by simp[Q];omega
  have:=e k a;unfold uR;dsimp only;rw[if_pos (by omega),cK (by omega),cK (by simp;omega),cK (by omega),dL (by omega),zAc,List.nil_append];have:(Q k).set k (at' c (k:Int))=Q (k+1):=AI (λv:Nat=>at' c (v:Int)) [] c.length k a;rw[this]
 ·unfold uR zX;dsimp only;rw[if_neg (by omega)];congr 1;refine List.ext_getElem (by simp[Q]) λi f d=> ?_;simp[Q,lD d]
def Uh (x:Int):Int:=max (-1073741824) (min x 1073741824)
def unD (o x:Int):Int:=if o=18 then wI .i64 (0 - x)else sO (decide (x=0))
def adq (a b:Int):Int:=if b=0 then 0 else if Int.tmod a b≠0∧((decide (a<0)) != (decide (b<0)))=true then wI .i64 (wI .i64 (Int.tdiv a b) - 1)else wI .i64 (Int.tdiv a b)
def afl (o x y:Int):Bool:=if o=35 then decide (x=y)else if o=36 then decide (x≠y)else if o=37 then decide (x<y)else if o=38 then decide (x<=y)else if o=39 then decide (y<x)else decide (y<=x)
def biD (o x y:Int):Int:=
 if o=30 then Uh (wI .i64 (x*y))else if o=31 then Uh (adq x y)else if o=32 then(if y=0 then 0 else Uh (wI .i64 (x - wI .i64 (y*adq x y))))else if o=33 then Uh (wI .i64 (x+y))else if o=34 then Uh (wI .i64 (x - y))
 else if o=41 then sO (decide (x≠0)&&decide (y≠0))else if o=42 then sO (decide (x≠0)||decide (y≠0))else sO (afl o x y)
theorem aax (f:Nat) (o x:Int):BC f o x=some (unD o x):=by
 unfold BC unD;split
 ·rfl
 ·rw[bB (xB f _)]
theorem aaf (f:Nat) (a b:Int):sU f a b=some (adq a b):=by
 unfold sU adq;by_cases c:b=0
 ·rw[if_pos c,if_pos c]
 ·rw[if_neg c,if_neg c,cK c,cK c];by_cases d:Int.tmod a b=0
  ·rw[if_neg (by simpa using d),if_neg (by simp[d])];rfl
  ·rw[if_pos d];unfold vH rJ;by_cases e:((decide (a<0)) != (decide (b<0)))=true
   ·rw[if_pos e,if_pos ⟨d,e⟩]
   ·rw[if_neg e,if_neg (λq=>e q.2)]
theorem afm (f:Nat) (o x y:Int):xP f o x y=some (afl o x y):=by
 unfold xP afl
 repeat' split
 all_goals rfl
theorem Ww (f:Nat) (o x y:Int):AH f o x y=some (biD o x y):=by
 unfold AH biD;by_cases h:o=30
 ·rw[if_pos h,if_pos h];rfl
 rw[if_neg h,if_neg h];by_cases h:o=31
 ·rw[if_pos h,if_pos h,bB (aaf f x y)];rfl
 rw[if_neg h,if_neg h];by_cases h:o=32
 ·rw[if_pos h,if_pos h];by_cases b:y=0
  ·rw[if_pos b,if_pos b]
  ·rw[if_neg b,if_neg b,bB (aaf f x y)];rfl
 rw[if_neg h,if_neg h];by_cases h:o=33
 ·rw[if_pos h,if_pos h];rfl
 rw[if_neg h,if_neg h];by_cases h:o=34
 ·rw[if_pos h,if_pos h];rfl
 rw[if_neg h,if_neg h];by_cases h:o=41
 ·rw[if_pos h,if_pos h];by_cases a:x=0
  ·rw[if_neg (by simpa using a),bB (xB f _)];simp[a,rH]
  ·rw[if_pos a,bB (xB f _)];simp[a,rH]
 rw[if_neg h,if_neg h];by_cases h:o=42
 ·rw[if_pos h,if_pos h];by_cases a:x=0
  ·rw[if_neg (by simpa using a),bB (xB f _)];simp[a,rI]
  ·rw[if_pos a,bB (xB f _)];simp[a,rI]
 rw[if_neg h,if_neg h,bB (afm f o x y),bB (xB f _)]
def E.den (L:Int->Int->Int->Int) (b:Nat):E->Int->Int
 |lf o a,p=>L o a p
 |un o x,p=>unD o (x.den L b p)
 |ag o x,_=>Vn o ((List.range b).map λq=>x.den L b ((q:Nat):Int))
 |bi o x y,p=>biD o (x.den L b p) (y.den L b p)
 |ite x y z,p=>if x.den L b p≠0 then y.den L b p else z.den L b p
def E.wf (c:Nat):Bool->E->Bool
 |b,lf o a=>decide (1<=o)&&decide (o<=17)&&(b||decide (o<=10))&&((decide (o≠5)&&decide (o≠12))||(decide (0<=a)&&decide (a<(c:Int))))
 |b,un o x=>decide (18<=o)&&decide (o<=19)&&x.wf c b
 |_,ag o x=>(decide (o=20)||decide (o=21)||decide (o=22)||decide (o=23)||decide (o=24)||decide (o=26)||decide (o=27))&&x.wf c true
 |b,bi o x y=>decide (30<=o)&&decide (o<=42)&&x.wf c b&&y.wf c b
 |b,ite x y z=>x.wf c b&&y.wf c b&&z.wf c b
theorem aaW {i:Nat}:∀{e:E} {b:Bool},e.wf i b=true->e.arOk=true:=by
 intro e
 induction e with
 |lf o a=>intro b h;simp[E.wf,E.arOk]at h ⊢;omega
 |un o x f=>intro b h;simp[E.wf,E.arOk]at h ⊢;exact⟨h.1,f h.2⟩
 |ag o x f=>intro b h;simp[E.wf,E.arOk]at h ⊢;exact⟨by omega,f h.2⟩
 |bi o x y c d=>intro b h;simp[E.wf,E.arOk]at h ⊢;exact⟨⟨h.1.1,c h.1.2⟩,d h.2⟩
 |ite x y z c d g=>intro b h;simp[E.wf,E.arOk]at h ⊢;exact⟨⟨c h.1.1,d h.1.2⟩,g h.2⟩
def ZD (W:WLK) (p:Int):Int:=(at' (at' W.1.2.1.2 W.2.2.1) p).1
def Vv (W:WLK) (o a p:Int):Int:=
 if o=1 then a else if o=2 then 1 else if o=3 then 0 else if o=4 then -1 else if o=5 then at' (at' W.2.1 W.2.2.1) a else if o=12 then at' (at' W.2.1 (ZD W p)) a
 else if o=6 then(W.1.2.1.1.length:Int)else if o=7 then W.1.2.2.1 else if o=8 then at' W.1.2.1.1 W.2.2.1 else if o=9 then((at' W.1.2.1.2 W.2.2.1).length:Int)else if o=10 then sO (decide (W.2.2.1=0))else if o=11 then p
 else if o=13 then at' W.1.2.1.1 (ZD W p)else if o=14 then((at' W.1.2.1.2 (ZD W p)).length:Int)else if o=15 then sO (decide (ZD W p=0))else if o=16 then(at' (at' W.1.2.1.2 W.2.2.1) p).2 else at' (at' W.1.2.2.2 W.2.2.1) p
structure WOk (W:WLK) (nv n v:Nat):Prop where
 node:W.2.2.1=(v:Int)
 lt:v<n
 ports:W.1.2.1.2.length=n
 ids:W.1.2.1.1.length=n
 c:W.2.1.length=n
 row:∀u:Nat,u<n->(at' W.2.1 (u:Int)).length=nv
 to:∀u:Nat,u<n->∀i:Nat,i<(at' W.1.2.1.2 (u:Int)).length->0<=(at' (at' W.1.2.1.2 (u:Int)) (i:Int)).1∧(at' (at' W.1.2.1.2 (u:Int)) (i:Int)).1<(n:Int)
 bl:W.1.2.2.2.length=n
 br:∀u:Nat,u<n->(at' W.1.2.2.2 (u:Int)).length=(at' W.1.2.1.2 (u:Int)).length
def XV (b:Bool) (a:Nat) (p:Int):Prop:=b=true->∃q:Nat,p=(q:Int)∧q<a
theorem acY {W:WLK} {k n v:Nat} (h:WOk W k n v) (f:Nat) {b:Bool} {o a p:Int} (s:(E.lf o a).wf k b=true) (r:XV b (at' W.1.2.1.2 (v:Int)).length p):nM f W (o,a) p=some (Vv W o a p):=by
 obtain⟨y,c,A,B,C,l,m,F,w⟩:=h;simp only[E.wf,zA4,zAx,zA1]at s;obtain⟨⟨⟨G,H⟩,d⟩,I⟩:=s;have z:(at' W.2.1 (v:Int)).length=k:=l v c;unfold nM Vv ZD;dsimp only;rw[y];by_cases e:o=1
 ·simp only[if_pos e]
 simp only[if_neg e];by_cases e:o=2
 ·simp only[if_pos e]
 simp only[if_neg e];by_cases e:o=3
 ·simp only[if_pos e]
 simp only[if_neg e];by_cases e:o=4
 ·simp only[if_pos e]
 simp only[if_neg e];by_cases e:o=5
 ·simp only[if_pos e];rw[cK (by omega),cK (by omega)]
 simp only[if_neg e];by_cases e:o=12
 ·have i:b=true:=by
   rcases d with d|d
   ·exact d
   ·omega
  obtain⟨q,rfl,j⟩:=r i;have g:=m v c q j;obtain⟨u,x⟩:∃u:Nat,(at' (at' W.1.2.1.2 (v:Int)) (q:Int)).1=(u:Int):=⟨_,(Int.toNat_of_nonneg g.1).symm⟩
  simp only[if_pos e];rw[x]at g ⊢;have D:=l u (by omega);rw[cK (by omega),cK (by omega),cK (by omega),cK (by omega)]
 simp only[if_neg e];unfold uI;dsimp only;by_cases e:o=6
 ·simp only[if_pos e];rfl
 simp only[if_neg e];by_cases e:o=7
 ·simp only[if_pos e];rfl
 simp only[if_neg e];by_cases e:o=8
 ·simp only[if_pos e];rw[cK (by omega)];rfl
 simp only[if_neg e];by_cases e:o=9
 ·simp only[if_pos e];rw[cK (by omega)];rfl
 simp only[if_neg e];by_cases e:o=10
 ·simp only[if_pos e];rw[bB (xB f _)];rfl
 simp only[if_neg e];by_cases e:o=11
 ·simp only[if_pos e];rfl
 simp only[if_neg e];have i:b=true:=by
  rcases d with d|d
  ·exact d
  ·omega
 obtain⟨q,rfl,j⟩:=r i;have g:=m v c q j;rw[cK (by omega),cK (by omega)];by_cases e:o=13
 ·simp only[if_pos e];rw[cK (by omega)];rfl
 simp only[if_neg e];by_cases e:o=14
 ·simp only[if_pos e];rw[cK (by omega)];rfl
 simp only[if_neg e];by_cases e:o=15
 ·simp only[if_pos e];rw[bB (xB f _)];rfl
 simp only[if_neg e];by_cases e:o=16
 ·simp only[if_pos e];rfl
 simp only[if_neg e];have t:=w v c;rw[cK (by omega),cK (by omega)];rfl
theorem aaM {W:WLK} {nv n v:Nat} (h:WOk W nv n v) {deg:Nat} (m:(at' W.1.2.1.2 (v:Int)).length=deg) (L:deg<=24) (S:W.2.2.2.length<=800):
  ∀(e:E) (b:Bool) (c k:Nat) (p:Int) (g d:cC),W.2.2.2=g++(e.ts++d)->g.length=k->e.wf nv b=true->XV b deg p->e.depth+850<=c->
   bZ c W (k:Int) p=some (e.den (Vv W) deg p,(((k+e.ts.length:Nat)):Int)):=by
 obtain⟨Q,ab,h1,h2,h3,h4,h5,_,_⟩:=id h;have i:∀{t:eC} {l g d:cC} {k:Nat},W.2.2.2=g++((t::l)++d)->g.length=k->at' W.2.2.2 (k:Int)=t∧(k:Int)<(W.2.2.2.length:Int):=by
  intro t l g d k j r;refine⟨OS (rest:=l++d) (by simpa using j) r,?_⟩
  rw[j];simp;omega
 intro e
 induction e with
 |lf o a=>
  intro b c k p g d j r u w B;obtain⟨c,rfl⟩:∃f,c=f+1:=⟨c - 1,by omega⟩
  obtain⟨A,s⟩:=i (l:=[]) j r;show dR (bZ c) c W (k:Int) p=_;unfold dR;rw[cK ⟨by omega,s⟩,A];dsimp only;have X:=u;simp only[E.wf,zA4,zAx,zA1]at X;have hl:=acY h c u (m▸w);rw[if_pos (by omega),bB (show nM c _ (o,a) p=some (Vv W o a p)from hl),dL (by omega)];rfl
 |un o x ih=>
  intro b c k p g d j r u w B;obtain⟨c,rfl⟩:∃f,c=f+1:=⟨c - 1,by omega⟩
  obtain⟨A,s⟩:=i (l:=x.ts) j r;show dR (bZ c) c W (k:Int) p=_;unfold dR;rw[cK ⟨by omega,s⟩,A];dsimp only;simp only[E.wf,zA4,zA1]at u;simp only[E.depth]at B;have F:=ih b c (k+1) p (g++[(o,0)]) d (by rw[j];simp[E.ts]) (by simp[r]) u.2 w (by omega);rw[if_neg (by omega),if_pos (by omega),dL (by omega),bB (show bZ c _ _ p=_ from F),bB (aax c _ _)];simp only[E.den,E.ts,zAj];rw[show k+1+x.ts.length=k+(x.ts.length+1) by omega]
 |bi o x y G H=>
  intro b c k p g d j r u w B;obtain⟨c,rfl⟩:∃f,c=f+1:=⟨c - 1,by omega⟩
  obtain⟨A,s⟩:=i (l:=x.ts++y.ts) j r;show dR (bZ c) c W (k:Int) p=_;unfold dR;rw[cK ⟨by omega,s⟩,A];dsimp only;simp only[E.wf,zA4,zA1]at u;simp only[E.depth]at B;have F:=G b c (k+1) p (g++[(o,0)]) (y.ts++d) (by rw[j];simp[E.ts]) (by simp[r]) u.1.2 w (by omega);have Y:=H b c (k+1+x.ts.length) p (g++(o,0)::x.ts) d (by rw[j];simp[E.ts]) (by simp[r];omega) u.2 w (by omega);rw[if_neg (by omega),if_neg (by omega),if_neg (by omega),if_pos (by omega),dL (by omega),bB (show bZ c _ _ p=_ from F),bB (show bZ c _ _ p=_ from Y),bB (Ww c _ _ _)];simp only[E.den,E.ts,zAj,zAi];rw[show k+1+x.ts.length+y.ts.length=k+(x.ts.length+y.ts.length+1) by omega]
 |ite x y z G H aa=>
  intro b c k p g d j r u w B;obtain⟨c,rfl⟩:∃f,c=f+1:=⟨c - 1,by omega⟩
  obtain⟨A,s⟩:=i (l:=x.ts++(y.ts++z.ts)) j r;show dR (bZ c) c W (k:Int) p=_;unfold dR;rw[cK ⟨by omega,s⟩,A];dsimp only;simp only[E.wf,zA4]at u;simp only[E.depth]at B;have F:=G b c (k+1) p (g++[(43,0)]) (y.ts++z.ts++d) (by rw[j];simp[E.ts]) (by simp[r]) u.1.1 w (by omega);have Y:=H b c (k+1+x.ts.length) p (g++(43,0)::x.ts) (z.ts++d) (by rw[j];simp[E.ts]) (by simp[r];omega) u.1.2 w (by omega);have hz:=aa b c (k+1+x.ts.length+y.ts.length) p (g++(43,0)::(x.ts++y.ts)) d (by rw[j];simp[E.ts]) (by simp[r];omega) u.2 w (by omega);rw[if_neg (by decide),if_neg (by decide),if_neg (by decide),if_neg (by decide),dL (by omega),bB (show bZ c _ _ p=_ from F),bB (show bZ c _ _ p=_ from Y),bB (show bZ c _ _ p=_ from hz)];simp only[E.den,E.ts,zAj,zAi];rw[show k+1+x.ts.length+y.ts.length+z.ts.length=k+(x.ts.length+(y.ts.length+z.ts.length)+1) by omega];split<;>rfl
 | ag o x ih =>
  intro b c k p g d j r u w B;obtain⟨c,rfl⟩:∃f,c=f+1:=⟨c - 1,by omega⟩
  obtain⟨A,s⟩:=i (l:=x.ts) j r;have T:=aaW u;have R:=u;simp only[E.wf,zA4,zAx,zA1]at R;simp only[E.depth]at B;have P:(E.ag o x).ts.length=x.ts.length+1:=rfl;have M:=congrArg List.length j;simp only[zAi]at M;show dR (bZ c) c W (k:Int) p=_;unfold dR;rw[cK ⟨by omega,s⟩,A];dsimp only;rw[if_neg (by omega),if_neg (by omega),if_pos (by omega),cK (by omega)];let D:Nat->Int:=λq=>x.den (Vv W) deg ((q:Nat):Int);let V:Nat->aO:=λq=>(List.range q).map D++List.replicate (24 - q) 0;have J:∀q,q<=24->(V q).length=24:=λq U=>by simp[V];omega
  have O:∀q,q<24->(V q).set q (D q)=V (q+1):=λq U=>by
   show((List.range q).map D++List.replicate (24 - q) 0).set q (D q)=(List.range (q+1)).map D++List.replicate (24 - (q+1)) 0;rw[show 24 - q=(24 - (q+1))+1 by omega,List.replicate_succ,List.set_append_right _ _ (by simp),List.range_succ];simp
  let N:Nat->Int:=λq=>if q=0 then 0 else(((k+1+x.ts.length:Nat)):Int)
  refine Eq.trans (fM (step:=lJ c W (k:Int) (bZ c)) (K:=some ((E.ag o x).den (Vv W) deg p,(((k+(E.ag o x).ts.length:Nat)):Int))) deg (λq=>(N q,(q:Int),V q)) (λq ag U=> ?_) (λag=> ?_) c (by omega)) Z
  ·unfold lJ;dsimp only;have F:=ih true c (k+1) ((q:Nat):Int) (g++[(o,0)]) d (by rw[j];simp[E.ts]) (by simp[r]) R.2 (λ_=>⟨q,rfl,U⟩) (by omega);rw[if_pos (by rw[Q,m];omega),dL (by omega),bB (show bZ c _ _ _=_ from F),cK ⟨by omega,J q (by omega)⟩,dL (by omega),zAc];show ag (_,_,(V q).set q (D q))=_;rw[O q (by omega)];simp only[N];rw[if_neg (by omega)]
  ·unfold lJ;dsimp only;rw[if_neg (by rw[Q,m];omega)];have C:List.take deg (V deg)=(List.range deg).map D:=by
    show List.take deg ((List.range deg).map D++_)=_;exact List.take_left' (by simp)
   have I:∀y:Int,y=(((k+1+x.ts.length:Nat)):Int)->lI c W (k:Int) (N deg,V deg) y=some ((E.ag o x).den (Vv W) deg p,(((k+(E.ag o x).ts.length:Nat)):Int)):=by
    rintro y rfl;unfold lI;dsimp only;rw[Q,m,cK ⟨by omega,by omega,by rw[J deg L];omega⟩,A,zAc,C,bB (acG c o _ (by omega) (by simp;omega) (by omega))];unfold pE;rw[P,show k+1+x.ts.length=k+(x.ts.length+1) by omega];rfl
   unfold tM;dsimp only;by_cases h0:deg=0
   ·rw[if_pos (by rw[Q,m];omega),bB (afs c (E.ag o x) T j r S (by omega))];exact I _ (by rw[P];omega)
   ·rw[if_neg (by rw[Q,m];omega)];exact I _ (by simp only[N];rw[if_neg h0])
end Go.Proofs.YtcnnfkapmjhnaaaGreatDoor
namespace Go.Proofs.YtcnnfkapmjhnaaaGreatDoor
open Go.Sx
def gZ (U:Nat) (a:Xp) (b:bX) (c:Int) (d:cC):Option (Int):=
 Option.bind (bZ U ((((((a.1.1,a.1.2.1,a.1.2.2)),((a.2.1.1,a.2.1.2)),a.2.2.1,a.2.2.2)),b,c,d)) (0:Int) (-1:Int)) λe=>(some (e.1))
theorem UY:aS Tryz.prog 261:=Tryz.call261
theorem An (U:Nat) {d:Xp} {s:bX} {f:Int} {t:cC} (a:Nat)  (m:Value)  (n:Value)  (o:Value)  (p:Value)  (u:jO)  (q:Value)  (v:sY)  (e:Value)  (y:sY)  (b:Value) (r:Int) (h:gZ U d s f t=some r):
  aY Tryz.prog 261 #[vP a,e,vI (f),b] [bM a [vS (d.1.1),m,n,o,p,vI (d.2.2.1),q] 196,Sl aX m d.1.2.1,Sl aM n d.1.2.2,Sl bP o d.2.1.1,S2 aV p u d.2.1.2,S2 bP q v d.2.2.2,S2 bP e y s,Sl aV b t] (λx:Unit=>vI (r)) (λx l=>l) (λ_ l=>l):=by
 refine aY.of Tryz.func261 Z Tryz.ntmps261 Z λc=>?_;refine aP<|aC Z<|aJ<|aP<|aA Z<|aA Z<|aA Z<|aA Z<|dH (Know.one (aE.sl (aE.fact 6 Z))) λg=>dH (Know.one ((aE.fact 7 Z))) λi=>?_;refine aD (LB (r:=Value.agg #[Value.pointer (some ⟨a,0,none⟩),e,vI (f),b]) Z Z Z Z (by intro w;simp[Instr.build,Instr.fill,dX,dA,cM,dY,dZ,dB,eQ,kX g,kX i])) Z ?_;refine aG (aI.alloc (cs:=[Value.pointer none,lE,vI (0:Int),lE]) Z Z) Z λz=>dH (Know.one (aE.sl (aE.fact 6 Z))) λj=>dH (Know.one ((aE.fact 7 Z))) λk=>bK 0 (vs:=[vP a,e,vI (f),b]) Z Z (eB Z (eB j (eB Z (eB k Z)))) Z Z Z<|aJ<|aP<|dV h λA B h=>aG (zBb CK (FD U z a m n o p u q v e y b A B) Z (aB.cons (aE.res 0 Z) (kA [0,1,2,3,4,5,6,7] Z))) Z λC=>aA Z<|iU Z<|iU Z<|aC Z<|aC Z<|aJ<|aP<|aA Z<|aC Z<|aJ<|aU ?_;cases h;exact sB Z
def lO (U:Nat) (a:Xp) (c:bX) (d:Int) (b:Int):Option Bool:=
 ck (0<=b∧b<(a.1.2.2.length:Int)) (Option.bind (gZ U ((((a.1.1,a.1.2.1,a.1.2.2)),((a.2.1.1,a.2.1.2)),a.2.2.1,a.2.2.2)) c d ((at' a.1.2.2 b).2.1.2)) λe=>(some (decide (e≠(0:Int)))))
theorem acf:aS Tryz.prog 260:=Tryz.call260
theorem EQ (U:Nat) {a:Xp} {n:bX} {o:Int} {e:Int} (b:Nat)  (f:Value)  (g:Value)  (i:Value)  (j:Value)  (p:jO)  (k:Value)  (q:sY)  (m:Value)  (s:sY) (r:Bool) (h:lO U a n o e=some r):
  aY Tryz.prog 260 #[vP b,m,vI (o),vI (e)] [bM b [vS (a.1.1),f,g,i,j,vI (a.2.2.1),k] 196,Sl aX f a.1.2.1,Sl aM g a.1.2.2,Sl bP i a.2.1.1,S2 aV j p a.2.1.2,S2 bP k q a.2.2.2,S2 bP m s n] (λx:Unit=>vB (r)) (λx l=>l) (λ_ l=>l):=by
 refine aY.of Tryz.func260 Z Tryz.ntmps260 Z λc=>?_;refine aP<|aC Z<|aJ<|aP<|aA Z<|aA Z<|aA Z<|aA Z<|aD (cF Z) Z<|bY Z<|bY Z<|aD (cY Z (aE.fact 0 Z) Z Z Z) Z<|aA Z<|dQ h λd h=>aD (aZ Z Z (aE.fact 2 Z) Z Z d) Z<|aD (n_ Z Z Z Z Z) Z<|aD (mA Z (aE.fact 2 Z) Z Z Z Bv d) Z<|dV h λt u h=>aG (zBb UY (An U b f g i j p k q m s ((at' a.1.2.2 e).2.1.1) t u) Z (aB.cons (aE.fact 0 Z) (aB.cons (aE.fact 1 Z) (aB.cons (aE.fact 2 Z) (aB.cons (aE.fact 3 Z) (aB.cons (aE.fact 4 Z) (aB.cons (aE.fact 5 Z) (aB.cons (aE.fact 6 Z) (aB.cons (yK (aE.fact 2 Z) By d.1 d.2) .nil))))))))) Z λv=>pC Z<|aC Z<|aJ<|aU ?_;cases h;exact kY Z
end Go.Proofs.YtcnnfkapmjhnaaaGreatDoor