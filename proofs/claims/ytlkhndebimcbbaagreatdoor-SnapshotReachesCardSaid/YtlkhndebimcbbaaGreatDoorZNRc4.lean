/- Models and proofs. Conditions: none. -/
import Derived.Test.YtlkhndebimcbbaaGreatDoorZNRc2
import Derived.Test.YtlkhndebimcbbaaGreatDoorZNRc3
import Derived.KernelRfl
set_option linter.unusedVariables false
set_option linter.unusedSimpArgs false
set_option maxHeartbeats 4000000
set_option maxRecDepth 20000
namespace Go.Proofs.YtlkhndebimcbbaaGreatDoor
open Go.Sx
theorem yB {R:Type} {step:Int->(Int->Option R)->Option R} {K:Option R} {bad:R} (N:Nat) (p:Nat->Prop)
  (r:∀(k:Nat) c,k<N->p k->step k c=c ((k:Int)+1)) (i:∀(k:Nat) c,k<N->¬p k->step k c=some bad) (j:∀c,step N c=K):
  ∀(b:Nat),N<b->((∀k,k<N->p k)->bI step b 0=K)∧(¬(∀k,k<N->p k)->bI step b 0=some bad):=by
 intro b q;have s:∀(d a b:Nat),a+d=N->d<b->((∀k,a<=k->k<N->p k)->bI step b (a:Int)=K)∧(¬(∀k,a<=k->k<N->p k)->bI step b (a:Int)=some bad):=by
  intro d
  induction d with
  |zero=>
   intro a b v q;obtain rfl:a=N:=by omega
   cases b with
   |zero=>omega
   |succ f=>exact⟨λ_=>j _,λh=>absurd (λk m g=>by omega) h⟩
  | succ d ih =>
   intro a b v q;cases b with
   |zero=>omega
   | succ f =>
    obtain⟨t,u⟩:=ih (a+1) f (by omega) (by omega);have e:((a+1:Nat):Int)=(a:Int)+1:=by omega
    rw[e]at t u;by_cases n:p a
    ·have w:bI step (f+1) (a:Int)=bI step f ((a:Int)+1):=r a _ (by omega) n;rw[w];refine⟨λh=>t λk m g=>h k (by omega) g,λh=>u λo=>h λk m g=> ?_⟩
     by_cases l:k=a
     ·subst l;exact n
     ·exact o k (by omega) g
    ·exact⟨λh=>absurd (h a (zAf _) (by omega)) n,λ_=>i a _ (by omega) n⟩
 obtain⟨m,g⟩:=s N 0 b (by omega) q;exact⟨λh=>m λk _ l=>h k l,λh=>g λo=>h λk l=>o k (by omega) l⟩
abbrev GR:=List Int×fV
theorem tY (a:Nat) (v c d:Int):tM a v c d=some (decide (c<=v∧v<=d)):=by
 unfold tM As;by_cases h:c<=v
 ·rw[if_pos h];congr 1;exact decide_eq_decide.2 ⟨λb=>⟨h,b⟩,λb=>b.2⟩
 ·rw[if_neg h,zA8 (λb=>h b.1)]
abbrev row (g:GR) (v:Nat):fZ:=at' g.2 (v:Int)
abbrev FQ (g:GR) (v:Nat):Int:=at' g.1 (v:Int)
abbrev fQ (l:fZ) (i:Nat):gE:=at' l (i:Int)
def light (g:GR):Prop:=g.1.length<=30∧g.2.length<=30∧∀v,v<g.2.length->(row g v).length<=30
def Ij (l:fZ) (v n i:Nat):Prop:=(0<=(fQ l i).1∧(fQ l i).1<=(n:Int) - 1)∧(fQ l i).1≠v∧(1<=(fQ l i).2∧(fQ l i).2<=15)∧∀k,k<i->(fQ l k).1≠(fQ l i).1
def pT (l:fZ) (v n:Nat):Prop:=∀i,i<l.length->Ij l v n i
theorem sF (l:fZ) (v n:Nat) (o:l.length<=30) (p:n<=30):(pT l v n->lH 1000 l v n=some true)∧(¬pT l v n->lH 1000 l v n=some false):=by
 unfold lH;have a:∀(i:Nat) (b:Int->Option Bool),i<l.length->((∀k,k<i->(fQ l k).1≠(fQ l i).1)->bI (i_ l i b) 1000 0=b ((i:Int)+1))∧(¬(∀k,k<i->(fQ l k).1≠(fQ l i).1)->bI (i_ l i b) 1000 0=some false):=by
  intro i b h;refine yB i _ (λk d m c=> ?_) (λk d m c=> ?_) (λd=> ?_) 1000 (by omega)
  ·unfold i_;rw[if_pos (by omega),cB (by omega),cB (by omega),if_neg c,wr (by omega) (by omega)]
  ·unfold i_;rw[if_pos (by omega),cB (by omega),cB (by omega),if_pos (zAk.1 c)]
  ·unfold i_ qB;rw[if_neg (by omega),wr (by omega) (by omega)]
 refine yB l.length (Ij l v n) (λi b h c=> ?_) (λi b h c=> ?_) (λb=> ?_) 1000 (by omega)
 ·obtain⟨e,f,g,j⟩:=c;unfold gS kJ;rw[if_pos (by omega),cB (by omega),wr (x:=(n:Int) - 1) (by omega) (by omega),tY,zAc e,bD Z,if_neg (by simp),cB (by omega),if_neg f,cB (by omega),tY,zAc g,bD Z,if_neg (by simp)];exact(a i b h).1 j
 ·unfold gS kJ;rw[if_pos (by omega),cB (by omega),wr (x:=(n:Int) - 1) (by omega) (by omega),tY];by_cases e:0<=(fQ l i).1∧(fQ l i).1<=(n:Int) - 1
  ·rw[zAc e,bD Z,if_neg (by simp),cB (by omega)];by_cases f:(fQ l i).1=v
   ·rw[if_pos f];rfl
   ·rw[if_neg f,cB (by omega),tY];by_cases g:1<=(fQ l i).2∧(fQ l i).2<=15
    ·rw[zAc g,bD Z,if_neg (by simp)];exact(a i b h).2 λj=>c ⟨e,f,g,j⟩
    ·rw[zA8 g];rfl
  ·rw[zA8 e];rfl
 ·unfold gS qA;rw[if_neg (by omega)]
def AM (l:fZ) (u:Int):Int:=match l.findIdx? (λx=>decide (x.1=u))with
 |some i=>i
 |none=> -1
theorem Jj {l:fZ} {u:Int} (i:Nat) (b:i<l.length) (d:(fQ l i).1=u) (c:∀k,k<i->(fQ l k).1≠u):AM l u=i:=by
 have:l.findIdx? (λx=>decide (x.1=u))=some i:=by
  rw[List.findIdx?_eq_some_iff_getElem];have e:∀k (a:k<l.length),fQ l k=l[k]:=λk a=>by rw[fQ,gG,zA1,zA0 a];rfl
  refine⟨b,by rw[<-e i b];simpa using d,λk a=> ?_⟩
  have:=c k a;rw[e k (by omega)]at this;simpa using this
 rw[AM,this]
theorem QX {l:fZ} {u:Int} (b:∀k,k<l.length->(fQ l k).1≠u):AM l u = -1:=by
 have:l.findIdx? (λx=>decide (x.1=u))=none:=by
  rw[List.findIdx?_eq_none_iff];intro x c;obtain⟨k,a,rfl⟩:=List.getElem_of_mem c;have:=b k a;rw[fQ,gG,zA1,zA0 a]at this;simpa using this
 rw[AM,this]
theorem Bg (l:fZ) (u:Int):(∃i,i<l.length∧(fQ l i).1=u∧(∀k,k<i->(fQ l k).1≠u)∧AM l u=i)∨((∀k,k<l.length->(fQ l k).1≠u)∧AM l u = -1):=by
 by_cases h:∀k,k<l.length->(fQ l k).1≠u
 ·exact .inr ⟨h,QX h⟩
 ·left;have f:∃k,k<l.length∧(fQ l k).1=u:=by
   apply Classical.byContradiction;intro o;exact h λk g e=>o ⟨k,g,e⟩
  obtain⟨k,g,n⟩:=f;have:∀m,(∃k,k<=m∧k<l.length∧(fQ l k).1=u)->∃i,i<l.length∧(fQ l i).1=u∧∀k,k<i->(fQ l k).1≠u:=by
   intro m
   induction m with
   |zero=>rintro⟨k,d,a,b⟩;exact⟨k,a,b,λj p=>by omega⟩
   |succ m q=>
    rintro⟨k,d,a,b⟩;by_cases c:∃j,j<=m∧j<l.length∧(fQ l j).1=u
    ·exact q c
    ·exact⟨k,a,b,λj p e=>c ⟨j,by omega,by omega,e⟩⟩
  obtain⟨i,d,a,b⟩:=this k ⟨k,zAf _,g,n⟩;exact⟨i,d,a,b,Jj i d a b⟩
theorem LC (g:GR) (v:Nat) (u:Int) (m:v<g.2.length) (l:(row g v).length<=30):yJ 1000 g v u=some (AM (row g v) u):=by
 unfold yJ;rcases Bg (row g v) u with⟨i,j,h,c,b⟩|⟨c,b⟩
 ·rw[b];refine Bb (λx:Int=>∃k:Nat,x=k∧k<=i) (λx=>31 - x.toNat) ?_ 1000 _ ⟨0,rfl,by omega⟩ (by omega);rintro x d ⟨k,rfl,f⟩ a;unfold zY;rw[cB (by omega),if_pos (show(k:Int)<((row g v).length:Int) by omega),cB (by omega),cB (show 0<=(k:Int)∧(k:Int)<((row g v).length:Int) by omega)];by_cases e:k=i
  ·subst e;exact if_pos h
  ·rw[if_neg (c k (by omega)),wr (by omega) (by omega)];exact a _ ⟨k+1,by omega,by omega⟩ (by omega)
 ·rw[b];refine Bb (λx:Int=>∃k:Nat,x=k∧k<=(row g v).length) (λx=>31 - x.toNat) ?_ 1000 _ ⟨0,rfl,by omega⟩ (by omega);rintro x d ⟨k,rfl,f⟩ a;unfold zY;rw[cB (by omega)];by_cases e:k<(row g v).length
  ·rw[if_pos (show(k:Int)<((row g v).length:Int) by omega),cB (by omega),cB (show 0<=(k:Int)∧(k:Int)<((row g v).length:Int) by omega),if_neg (c k e),wr (by omega) (by omega)];exact a _ ⟨k+1,by omega,by omega⟩ (by omega)
  ·rw[if_neg (show¬(k:Int)<((row g v).length:Int) by omega)];rfl
theorem Hx {X R:Type} {step:X->(X->Option R)->Option R} {K:X->Option R} {bad:R} (N:Nat) (p:Nat->Prop) (I:Nat->X->Prop)
  (t:∀(k:Nat) x g,k<N->I k x->p k->∃c,I (k+1) c∧step x g=g c) (j:∀(k:Nat) x g,k<N->I k x->¬p k->step x g=some bad) (l:∀x g,I N x->step x g=K x):
  ∀(b:Nat) (x:X),I 0 x->N<b->((∀k,k<N->p k)->∃c,I N c∧bI step b x=K c)∧(¬(∀k,k<N->p k)->bI step b x=some bad):=by
 intro b x e s;have v:∀(d a b:Nat) (x:X),a+d=N->d<b->I a x->((∀k,a<=k->k<N->p k)->∃c,I N c∧bI step b x=K c)∧(¬(∀k,a<=k->k<N->p k)->bI step b x=some bad):=by
  intro d
  induction d with
  |zero=>
   intro a b x w s e;obtain rfl:a=N:=by omega
   cases b with
   |zero=>omega
   |succ f=>exact⟨λ_=>⟨x,e,l _ _ e⟩,λh=>absurd (λk n i=>by omega) h⟩
  | succ d ih =>
   intro a b x w s e;cases b with
   |zero=>omega
   | succ f =>
    by_cases o:p a
    ·obtain⟨c,r,u⟩:=t a x (bI step f) (by omega) e o;have u:bI step (f+1) x=bI step f c:=u;obtain⟨y,z⟩:=ih (a+1) f c (by omega) (by omega) r;rw[u];refine⟨λh=>y λk n i=>h k (by omega) i,λh=>z λq=>h λk n i=> ?_⟩
     by_cases m:k=a
     ·subst m;exact o
     ·exact q k (by omega) i
    ·exact⟨λh=>absurd (h a (zAf _) (by omega)) o,λ_=>j a x _ (by omega) e o⟩
 obtain⟨n,i⟩:=v N 0 b x (by omega) s e;exact⟨λh=>n λk _ m=>h k m,λh=>i λq=>h λk m=>q k (by omega) m⟩
def zA (g:GR) (v i:Nat):Prop:=∃j,j<(at' g.2 (fQ (row g v) i).1).length∧(fQ (at' g.2 (fQ (row g v) i).1) j).1=v∧(fQ (at' g.2 (fQ (row g v) i).1) j).2=(fQ (row g v) i).2
structure Kt (g:GR) (v:Nat):Prop where
 id:0<=FQ g v∧FQ g v<=255
 deg:(row g v).length<g.2.length
 links:pT (row g v) v g.2.length
 ids:∀k,k<v->FQ g k≠FQ g v
structure VG (g:GR):Prop where
 n1:1<=g.2.length
 n24:g.2.length<=24
 len:g.1.length=g.2.length
 node:∀v,v<g.2.length->Kt g v
 sym:∀v,v<g.2.length->∀i,i<(row g v).length->zA g v i
theorem Rc (g:GR) (N:light g):(VG g->lQ 1000 g=some true)∧(¬VG g->lQ 1000 g=some false):=by
 obtain⟨S,H,t⟩:=N;unfold lQ;rw[tY,bD Z];by_cases z:1<=g.2.length∧g.2.length<=24
 rotate_left
 ·rw[zA8 (by omega)];exact⟨λh=>absurd ⟨h.n1,h.n24⟩ z,λ_=>rfl⟩
 rw[zAc (by omega),if_neg (by simp)];by_cases I:g.1.length=g.2.length
 rotate_left
 ·rw[zAc (by omega)];exact⟨λh=>absurd h.len I,λ_=>rfl⟩
 rw[zA8 (by omega)];unfold tT;rw[if_neg (by simp)];have o:∀(v:Nat) (b:Int->Option Bool),v<g.2.length->((∀k,k<v->FQ g k≠FQ g v)->bI (gM g v b) 1000 0=b ((v:Int)+1))∧(¬(∀k,k<v->FQ g k≠FQ g v)->bI (gM g v b) 1000 0=some false):=by
  intro v b d;refine yB v _ (λk a C c=> ?_) (λk a C c=> ?_) (λa=> ?_) 1000 (by omega)
  ·unfold gM;rw[if_pos (by omega),cB (by omega),cB (by omega),if_neg c,wr (by omega) (by omega)]
  ·unfold gM;rw[if_pos (by omega),cB (by omega),cB (by omega),if_pos (zAk.1 c)]
  ·unfold gM tX;rw[if_neg (by omega),wr (by omega) (by omega)]
 have l:=yB (step:=fT 1000 g) (K:=nZ 1000 g ()) (bad:=false) g.2.length (Kt g) (λv b d c=> ?_) (λv b d c=> ?_) (λb=> ?_) 1000 (by omega)
 rotate_left
 ·unfold fT mD;rw[if_pos (by omega),cB (by omega),tY,zAc c.id,bD Z,if_neg (by simp),cB (by omega),if_neg (show¬((g.2.length:Int)<=((row g v).length:Int))from by have:=c.deg;omega),cB (by omega),(sF (row g v) v g.2.length (t v d) H).1 c.links,bD Z,if_neg (by simp)];exact(o v b d).1 c.ids
 ·unfold fT mD;rw[if_pos (by omega),cB (by omega),tY];by_cases x:0<=FQ g v∧FQ g v<=255
  rotate_left
  ·rw[zA8 x];rfl
  rw[zAc x,bD Z,if_neg (by simp),cB (by omega)];by_cases J:(row g v).length<g.2.length
  rotate_left
  ·rw[if_pos (show(g.2.length:Int)<=((row g v).length:Int) by omega)];rfl
  rw[if_neg (show¬(g.2.length:Int)<=((row g v).length:Int) by omega),cB (by omega)];by_cases y:pT (row g v) v g.2.length
  rotate_left
  ·rw[(sF (row g v) v g.2.length (t v d) H).2 y];rfl
  rw[(sF (row g v) v g.2.length (t v d) H).1 y,bD Z,if_neg (by simp)];exact(o v b d).2 λL=>c ⟨x,J,y,L⟩
 ·unfold fT;rw[if_neg (by omega)]
 by_cases q:∀v,v<g.2.length->Kt g v
 rotate_left
 ·exact⟨λh=>absurd h.node q,λ_=>l.2 q⟩
 rw[l.1 q];unfold nZ;have f:∀(v:Nat) (b:Int->Option Bool),v<g.2.length->((∀i,i<(row g v).length->zA g v i)->bI (eV 1000 g v b) 1000 0=b ((v:Int)+1))∧(¬(∀i,i<(row g v).length->zA g v i)->bI (eV 1000 g v b) 1000 0=some false):=by
  intro v b d;have P:=t v d;have n:∀(i:Nat) a,i<(row g v).length->(zA g v i->eV 1000 g v b i a=a ((i:Int)+1))∧(¬zA g v i->eV 1000 g v b i a=some false):=by
   intro i a r;unfold eV;rw[cB (by omega),if_pos (show(i:Int)<((row g v).length:Int) by omega),cB (by omega),cB (show 0<=(i:Int)∧(i:Int)<((row g v).length:Int) by omega)];have R:=((q v d).links i r).1;obtain⟨u,G⟩:∃u:Nat,(fQ (row g v) i).1=u:=⟨(fQ (row g v) i).1.toNat,by omega⟩
   have p:u<g.2.length:=by omega
   unfold zA;rw[show(at' (at' g.2 (v:Int)) (i:Int))=fQ (row g v) i from rfl,G,LC g u v p (t u p),bD Z];have F:=(q u p).links;rcases Bg (row g u) v with⟨j,w,m,B,A⟩|⟨M,A⟩
   ·rw[A,if_neg (by omega),cB (by omega),cB (show 0<=(j:Int)∧(j:Int)<((at' g.2 (u:Int)).length:Int)from⟨by omega,by have:j<(row g u).length:=w;exact_mod_cast this⟩)];unfold tW;constructor
    ·rintro⟨k,C,s,E⟩;have D:k=j:=by
      rcases zAz k j with h|h|h
      ·exact absurd s (B k h)
      ·exact h
      ·exact absurd (m.trans s.symm) ((F k C).2.2.2 j h)
     subst D;rw[if_neg (by rw[zA8];simp;exact λh=>h E),wr (by omega) (by omega)]
    ·intro h;rw[if_pos];exact zAc λQ=>h ⟨j,w,m,Q⟩
   ·rw[A,if_pos (by decide)];exact⟨fun⟨j,w,m,_⟩=>absurd m (M j w),λ_=>rfl⟩
  refine yB (row g v).length _ (λi a r c=>(n i a r).1 c) (λi a r c=>(n i a r).2 c) (λa=> ?_) 1000 (by omega);unfold eV tV;rw[cB (by omega),if_neg (show¬(((row g v).length:Nat):Int)<((row g v).length:Int) by omega),wr (by omega) (by omega)]
 have e:=yB (step:=fS 1000 g) (K:=some true) (bad:=false) g.2.length (λv=>∀i,i<(row g v).length->zA g v i) (λv b d c=> ?_) (λv b d c=> ?_) (λb=> ?_) 1000 (by omega)
 ·exact⟨λh=>e.1 h.sym,λh=>e.2 λO=>h ⟨z.1,z.2,I,q,O⟩⟩
 ·unfold fS;rw[if_pos (by omega)];exact(f v b d).1 c
 ·unfold fS;rw[if_pos (by omega)];exact(f v b d).2 c
 ·unfold fS tU;rw[if_neg (by omega)]
theorem tE {a:Type} [Inhabited a] (l:List a) (i k:Nat) (y:a) (b:i<l.length):at' (l.set i y) (k:Int)=if k=i then y else at' l (k:Int):=by
 rw[gG,gG,zA1,zA1,List.getElem?_set];by_cases h:i=k
 ·rw[if_pos h,if_pos h.symm,if_pos (by omega)];rfl
 ·rw[if_neg h,if_neg (Ne.symm h)]
def Xw (l:aR) (k:Nat):Prop:=(0<=at' l (k:Int)∧at' l (k:Int)<=255)∧∀j,j<k->at' l (j:Int)≠at' l (k:Int)
theorem vW (l:aR) (C:l.length<=30):((∀k,k<l.length->Xw l k)->j_ 1000 l=some true)∧(¬(∀k,k<l.length->Xw l k)->j_ 1000 l=some false):=by
 unfold j_;have i:=Hx (step:=gV l) (K:=λ_=>some true) (bad:=false) l.length (Xw l) (λk x=>x.1=(k:Int)∧x.2.length=256∧∀z:Nat,z<256->(at' x.2 (z:Int)=true↔∃j,j<k∧at' l (j:Int)=(z:Int))) ?_ ?_ ?_ 1000 ((0:Int),(List.replicate 256 false)) ⟨rfl,List.length_replicate ..,λz c=> ?_⟩ (by omega)
 ·exact⟨λh=>by obtain⟨x,_,b⟩:=i.1 h;exact b,i.2⟩
 ·rintro k ⟨t,m⟩ q w ⟨b,a,f⟩ ⟨D,v⟩;dsimp only at b a f;subst b;obtain⟨z,c⟩:∃z:Nat,at' l (k:Int)=z:=⟨(at' l (k:Int)).toNat,by omega⟩
  have p:z<256:=by omega
  have o:¬at' m (z:Int)=true:=by
   rw[f z p];rintro⟨j,e,d⟩;exact v j e (d.trans c.symm)
  refine⟨((k:Int)+1,m.set z true),⟨by simp,by simp[a],λy B=> ?_⟩,?_⟩
  ·dsimp only;rw[tE _ _ _ _ (by omega)];by_cases g:y=z
   ·subst g;rw[if_pos Z];exact⟨λ_=>⟨k,by omega,c⟩,λ_=>rfl⟩
   ·rw[if_neg g,f y B];constructor
    ·rintro⟨j,e,d⟩;exact⟨j,by omega,d⟩
    ·rintro⟨j,e,d⟩;by_cases n:j=k
     ·subst n;rw[c]at d;omega
     ·exact⟨j,by omega,d⟩
  ·unfold gV jF;dsimp only;rw[if_pos (by omega),cB (by omega),c,if_neg (by omega),if_neg (by omega),cB ⟨by omega,a⟩,if_neg o,cB ⟨by omega,a⟩,wr (by omega) (by omega)];rfl
 ·rintro k ⟨t,m⟩ q w ⟨b,a,f⟩ A;dsimp only at b a f;subst b;unfold gV jF;dsimp only;rw[if_pos (by omega),cB (by omega)];by_cases r:at' l (k:Int)<0
  ·rw[if_pos r,if_pos Z]
  rw[if_neg r];by_cases s:255<at' l (k:Int)
  ·rw[if_pos s,if_pos Z]
  rw[if_neg s];obtain⟨z,c⟩:∃z:Nat,at' l (k:Int)=z:=⟨(at' l (k:Int)).toNat,by omega⟩
  rw[c,cB ⟨by omega,a⟩,if_pos];rw[f z (by omega)];apply Classical.byContradiction;intro u;exact A ⟨by omega,λj e d=>u ⟨j,e,d.trans c⟩⟩
 ·rintro⟨t,m⟩ q ⟨b,_,_⟩;dsimp only at b;subst b;unfold gV oG;dsimp only;rw[if_neg (by omega)]
 ·rw[show at' (List.replicate 256 false) (z:Int)=false by rw[gG,zA1,List.getElem?_replicate,if_pos c];rfl];exact⟨λh=>(by cases h),fun⟨j,e,_⟩=>(by omega)⟩
theorem WU {d e:Type} [DecidableEq d] (k c:d) (v:e):∀l:List (d×e),nC c (DC k v l)=if c=k then some v else nC c l
 | []=>by simp only[DC,nC]
 | x :: xs => by
  simp only[DC];by_cases h:k=x.1
  ·rw[if_pos h];simp only[nC];by_cases a:c=k
   ·rw[if_pos a,if_pos a]
   ·rw[if_neg a,if_neg a,if_neg (λb=>a (b.trans h.symm))]
  ·rw[if_neg h];simp only[nC];by_cases a:c=x.1
   ·rw[if_pos a,if_neg (λb=>h (b.symm.trans a)),if_pos a]
   ·rw[if_neg a,WU k c v xs];by_cases b:c=k
    ·rw[if_pos b,if_pos b]
    ·rw[if_neg b,if_neg b,if_neg a]
theorem QJ {a b:Type} [DecidableEq a] {k:a} {v:b} {z:a×b} {l:List (a×b)} (c:nC k l=none):z∈DC k v l↔z=(k,v)∨z∈l:=by
 rw[IF k v l c];simp[or_comm]
theorem IE {a c:Type} [DecidableEq a] {k:a}:∀{l:List (a×c)},(∀v,(k,v)∉l)->nC k l=none
 | [],_=>rfl
 |x::xs,h=>by
  simp only[nC];rw[if_neg (λe=>h x.2 (by rw[e];exact zA7 ..))];exact IE λv b=>h v (zAe _ b)
theorem vH {b c:Type} [DecidableEq b] {k:b} {v:c}:∀{l:List (b×c)},nC k l=none->(k,v)∉l
 | [],_=>by simp
 | x :: xs, h => by
  simp only[nC]at h;by_cases e:k=x.1
  ·rw[if_pos e]at h;cases h
  ·rw[if_neg e]at h;intro d;rcases zAo.1 d with a|a
   ·exact e (by rw[<-a])
   ·exact vH h a
theorem CQ {a b:Type} [DecidableEq a] {k:a} {v:b}:∀{l:List (a×b)},nC k l=some v->(k,v)∈l
 |x::xs,h=>by
  simp only[nC]at h;by_cases e:k=x.1
  ·rw[if_pos e]at h;cases h;rw[e];exact zA7 ..
  ·rw[if_neg e]at h;exact zAe _ (CQ h)
theorem Lr {a b:Type} (p:a×b->Prop) [DecidablePred p]:∀l:List (a×b),Mn (λd x=>if p d then some false else x) (some true) l=some (decide (∀z∈l,¬p z))
 | []=>by simp[Mn]
 |x::xs=>by
  show(if p x then some false else Mn _ (some true) xs)=_;rw[Lr p xs];by_cases h:p x
  ·rw[if_pos h];congr 1;symm;exact zA8 λc=>c x (zA7 ..) h
  ·rw[if_neg h];congr 1;apply decide_eq_decide.2;simp[h]
def PO (c:fV) (v i:Nat) (z:(Int×Int)×Int):Prop:=∃a b:Nat,(a<v∨(a=v∧b<i))∧b<(at' c (a:Int)).length∧z=(((a:Int),(fQ (at' c (a:Int)) b).1),(fQ (at' c (a:Int)) b).2)
def MG (a:fV):Prop:=(∀v,v<a.length->pT (at' a (v:Int)) v a.length)∧∀v,v<a.length->∀i,i<(at' a (v:Int)).length->zA ([],a) v i
theorem HT (c:fV) (hn:c.length<=30) (hd:∀v,v<c.length->(at' c (v:Int)).length<=30):(MG c->g_ 1000 c=some true)∧(¬MG c->g_ 1000 c=some false):=by
 unfold g_;have s:∀(v:Nat) (m:List ((Int×Int)×Int)) p,v<c.length->(∀z,z∈m↔PO c v 0 z)->
   (pT (at' c (v:Int)) v c.length->∃X,(∀z,z∈X↔PO c (v+1) 0 z)∧bI (cN c ((v:Int),m) p) 1000 ((0:Int),m)=p ((v:Int)+1,X))∧
   (¬pT (at' c (v:Int)) v c.length->bI (cN c ((v:Int),m) p) 1000 ((0:Int),m)=some false):=by
  intro v m p F hm;have af:=hd v F;have R:=Hx (step:=cN c ((v:Int),m) p) (K:=λx=>p ((v:Int)+1,x.2)) (bad:=false) (at' c (v:Int)).length (Ij (at' c (v:Int)) v c.length) (λi x=>x.1=(i:Int)∧∀z,z∈x.2↔PO c v i z) ?_ ?_ ?_ 1000 ((0:Int),m) ⟨rfl,hm⟩ (by omega)
  ·refine⟨λh=> ?_,λh=>R.2 h⟩
   obtain⟨x,⟨ah,ad⟩,f⟩:=R.1 h;refine⟨x.2,λz=>(ad z).trans ⟨?_,?_⟩,f⟩
   ·rintro⟨a,b,y,e,l⟩;exact⟨a,b,by omega,e,l⟩
   ·rintro⟨a,b,y,e,l⟩;refine⟨a,b,?_,e,l⟩
    by_cases W:a=v
    ·subst W;exact .inr ⟨rfl,e⟩
    ·omega
  ·rintro i ⟨H,g⟩ I M ⟨f,d⟩ ⟨p1,p2,p3,p4⟩;dsimp only at f d;subst f;have q:nC (((v:Int),(fQ (at' c (v:Int)) i).1)) g=none:=by
    apply IE;intro w hw;obtain⟨a,b,y,e,l⟩:=(d _).1 hw;simp only[Prod.mk.injEq]at l;obtain⟨⟨C,A⟩,_⟩:=l;have:a=v:=by omega
    subst this;have hb:b<i:=by omega
    exact p4 b hb A.symm
   refine⟨((i:Int)+1,DC (((v:Int),(fQ (at' c (v:Int)) i).1)) (fQ (at' c (v:Int)) i).2 g),⟨by simp,λz=> ?_⟩,?_⟩
   ·dsimp only;rw[QJ q,d];constructor
    ·rintro(rfl|⟨a,b,y,e,l⟩)
     ·exact⟨v,i,.inr ⟨rfl,by omega⟩,M,rfl⟩
     ·exact⟨a,b,by omega,e,l⟩
    ·rintro⟨a,b,y,e,l⟩;by_cases J:a=v∧b=i
     ·left;rw[l,J.1,J.2]
     ·right;exact⟨a,b,by omega,e,l⟩
   ·replace p1:0<=(at' (at' c (v:Int)) (i:Int)).1∧(at' (at' c (v:Int)) (i:Int)).1<=(c.length:Int) - 1:=p1;replace p3:1<=(at' (at' c (v:Int)) (i:Int)).2∧(at' (at' c (v:Int)) (i:Int)).2<=15:=p3;unfold cN iG jR;dsimp only;rw[if_pos (by omega),cB (by omega),if_neg (by omega),if_neg (by omega),if_neg (by rw[zA8 p2];simp),if_neg (by omega),if_neg (by rw[zA8 (by omega)];simp),q,if_neg (by simp),wr (by omega) (by omega)]
  ·rintro i ⟨H,g⟩ I M ⟨f,d⟩ P;dsimp only at f d;subst f;unfold cN iG jR;dsimp only;rw[if_pos (by omega),cB (by omega)];by_cases y:(fQ (at' c (v:Int)) i).1<0
   ·rw[if_pos y,if_pos Z]
   rw[if_neg y];by_cases e:(c.length:Int)<=(fQ (at' c (v:Int)) i).1
   ·rw[if_pos e,if_pos Z]
   rw[if_neg e];by_cases l:(fQ (at' c (v:Int)) i).1=v
   ·rw[if_pos (zAc l)]
   rw[if_neg (by rw[zA8 l];simp)];by_cases C:(fQ (at' c (v:Int)) i).2<1
   ·rw[if_pos C,if_pos Z]
   rw[if_neg C];by_cases A:15<(fQ (at' c (v:Int)) i).2
   ·rw[if_pos (zAc A)]
   rw[if_neg (by rw[zA8 A];simp)];have:∃k,k<i∧(fQ (at' c (v:Int)) k).1=(fQ (at' c (v:Int)) i).1:=by
    apply Classical.byContradiction;intro hc;exact P ⟨by omega,l,by omega,λk N L=>hc ⟨k,N,L⟩⟩
   obtain⟨k,N,L⟩:=this;have n:=(d _).2 ⟨v,k,.inr ⟨rfl,N⟩,by omega,rfl⟩;rw[if_pos];rw[<-L];cases q:nC (((v:Int),(fQ (at' c (v:Int)) k).1)) g with
   |some w=>rfl
   | none => exact absurd n (by
     intro n;exact vH q n)
  ·rintro⟨H,g⟩ I ⟨f,d⟩;dsimp only at f d;subst f;unfold cN nL;dsimp only;rw[if_neg (by omega),wr (by omega) (by omega)]
 have t:=Hx (step:=dA 1000 c) (K:=λx=>jQ x.2) (bad:=false) c.length (λv=>pT (at' c (v:Int)) v c.length) (λv x=>x.1=(v:Int)∧∀z,z∈x.2↔PO c v 0 z) ?_ ?_ ?_ 1000 ((0:Int),[]) ⟨rfl,λz=>⟨λh=>(by cases h),fun⟨a,b,y,_⟩=>(by omega)⟩⟩ (by omega)
 rotate_left
 ·rintro v ⟨H,g⟩ p F ⟨f,d⟩ P;dsimp only at f d;subst f;obtain⟨X,y,e⟩:=(s v g p F d).1 P;refine⟨((v:Int)+1,X),⟨by simp,y⟩,?_⟩
  ·unfold dA;dsimp only;rw[if_pos (by omega),cB (by omega)];exact e
 ·rintro v ⟨H,g⟩ p F ⟨f,d⟩ P;dsimp only at f d;subst f;unfold dA;dsimp only;rw[if_pos (by omega),cB (by omega)];exact(s v g p F d).2 P
 ·rintro⟨H,g⟩ p ⟨f,d⟩;dsimp only at f d;subst f;unfold dA;dsimp only;rw[if_neg (by omega)]
 by_cases D:∀v,v<c.length->pT (at' c (v:Int)) v c.length
 rotate_left
 ·exact⟨λh=>absurd h.1 D,λ_=>t.2 D⟩
 obtain⟨⟨H,g⟩,⟨f,d⟩,L⟩:=t.1 D;rw[L];dsimp only at d ⊢;have N:jQ g=some (decide (∀z∈g,¬(Option.getD (nC (z.1.2,z.1.1) g) (0:Int))≠z.2)):=Lr (λz:(Int×Int)×Int=>(Option.getD (nC (z.1.2,z.1.1) g) (0:Int))≠z.2) g;rw[N];have E:(∀z∈g,¬(Option.getD (nC (z.1.2,z.1.1) g) (0:Int))≠z.2)↔∀v,v<c.length->∀i,i<(at' c (v:Int)).length->zA ([],c) v i:=by
  constructor
  ·intro h v F i M;have hw:=(D v F i M).2.2.1;have n:=(d (((v:Int),(fQ (at' c (v:Int)) i).1),(fQ (at' c (v:Int)) i).2)).2 ⟨v,i,.inl F,M,rfl⟩;have e:=zAk.1 (h _ n);dsimp only at e;cases q:nC ((fQ (at' c (v:Int)) i).1,(v:Int)) g with
   |none=>rw[q]at e;simp only[Option.getD]at e;omega
   | some w =>
    rw[q]at e;simp only[Option.getD]at e;obtain⟨a,b,l,C,A⟩:=(d _).1 (CQ q);simp only[Prod.mk.injEq]at A;obtain⟨⟨T,U⟩,h8⟩:=A;refine⟨b,?_,?_,?_⟩
    ·show b<(at' c (fQ (at' c (v:Int)) i).1).length;rw[T];exact C
    ·show(fQ (at' c (fQ (at' c (v:Int)) i).1) b).1=v;rw[T];exact U.symm
    ·show(fQ (at' c (fQ (at' c (v:Int)) i).1) b).2=(fQ (at' c (v:Int)) i).2;rw[T,<-h8];exact e
  ·intro h z hz ac;obtain⟨a,b,l,C,rfl⟩:=(d z).1 hz;have W:a<c.length:=by omega
   apply ac;obtain⟨j,r,o,B⟩:=h a W b C;have hu:=(D a W b C).1;obtain⟨u,Q⟩:∃u:Nat,(fQ (at' c (a:Int)) b).1=u:=⟨(fQ (at' c (a:Int)) b).1.toNat,by omega⟩
   replace r:j<(at' c (fQ (at' c (a:Int)) b).1).length:=r;replace o:(fQ (at' c (fQ (at' c (a:Int)) b).1) j).1=a:=o;replace B:(fQ (at' c (fQ (at' c (a:Int)) b).1) j).2=(fQ (at' c (a:Int)) b).2:=B;rw[Q]at r o B;have G:u<c.length:=by omega
   dsimp only;rw[Q,<-B];have n:=(d (((u:Int),(fQ (at' c (u:Int)) j).1),(fQ (at' c (u:Int)) j).2)).2 ⟨u,j,.inl G,r,rfl⟩;rw[o]at n;cases q:nC ((u:Int),(a:Int)) g with
   |none=>exact absurd n (vH q)
   | some w =>
    obtain⟨Y,S,ae,aa,A⟩:=(d _).1 (CQ q);simp only[Prod.mk.injEq]at A;obtain⟨⟨T,U⟩,h8⟩:=A;have:Y=u:=by omega
    subst this;have ab:S=j:=by
     rcases zAz S j with O|O|O
     ·exact absurd (U.symm.trans o.symm) ((D Y G j r).2.2.2 S O)
     ·exact O
     ·exact absurd (o.trans U) ((D Y G S aa).2.2.2 j O)
    subst ab;exact h8
 by_cases V:∀v,v<c.length->∀i,i<(at' c (v:Int)).length->zA ([],c) v i
 ·rw[zAc (E.2 V)];exact⟨λ_=>rfl,λh=>absurd ⟨D,V⟩ h⟩
 ·rw[zA8 (λh=>V (E.1 h))];exact⟨λh=>absurd h.2 V,λ_=>rfl⟩
theorem Lz:∀(N:Nat) (f:Nat->Nat) (k:Nat),(∀i,i<k->f i<N)->(∀i j,i<j->j<k->f i≠f j)->k<=N
 |0,f,k,h,_=>by
  cases k with
  |zero=>omega
  |succ k=>exact absurd (h 0 (by omega)) (by omega)
 | N + 1, f, k, h, hd => by
  by_cases b:∃a,a<k∧f a=N
  ·obtain⟨a,g,l⟩:=b;have:=Lz N (λi=>if i<a then f i else f (i+1)) (k - 1) (λi c=>by
    split
    ·have:=h i (by omega);have:=hd i a (by omega) g;omega
    ·have:=h (i+1) (by omega);have:=hd a (i+1) (by omega) (by omega);omega) (λi j d m=>by
    split<;>split
    ·exact hd i j d (by omega)
    ·exact hd i (j+1) (by omega) (by omega)
    ·omega
    ·exact hd (i+1) (j+1) (by omega) (by omega))
   omega
  ·have:=Lz N f k (λi c=>by
    have:=h i c;have:f i≠N:=λe=>b ⟨i,c,e⟩;omega) hd
   omega
theorem Tg {l:fZ} {v n:Nat} (b:v<n) (h:pT l v n):l.length<n:=by
 have:=Lz n (λi=>if i=l.length then v else(fQ l i).1.toNat) (l.length+1) (λi e=>by
  split
  ·exact b
  ·have:=(h i (by omega)).1;omega) (λi j a f=>by
  rw[if_neg (by omega)];have c:=(h i (by omega)).1;split
  ·have:=(h i (by omega)).2.1;omega
  ·have d:=(h j (by omega)).1;have:=(h j (by omega)).2.2.2 i a;omega)
 omega
theorem Sa (g:GR) (j:light g):(VG g->gQ 1000 g=some true)∧(¬VG g->gQ 1000 g=some false):=by
 obtain⟨e,f,i⟩:=j;unfold gQ qR qS;by_cases l:g.1.length<1
 ·rw[if_pos (by omega)];exact⟨λh=>by have:=h.n1;have:=h.len;omega,λ_=>rfl⟩
 rw[if_neg (by omega)];by_cases m:24<g.1.length
 ·rw[if_pos (by omega)];exact⟨λh=>by have:=h.n24;have:=h.len;omega,λ_=>rfl⟩
 rw[if_neg (by omega)];by_cases d:g.1.length=g.2.length
 rotate_left
 ·rw[zAc (by omega)];exact⟨λh=>absurd h.len d,λ_=>rfl⟩
 rw[zA8 (by omega),if_neg (by simp)];by_cases b:∀k,k<g.1.length->Xw g.1 k
 rotate_left
 ·rw[(vW g.1 e).2 b,bD Z];exact⟨λh=>absurd (λk n=>⟨(h.node k (by omega)).id,(h.node k (by omega)).ids⟩) b,λ_=>rfl⟩
 rw[(vW g.1 e).1 b,bD Z,if_pos Z];by_cases a:MG g.2
 ·rw[(HT g.2 f i).1 a];exact⟨λ_=>rfl,λh=>absurd ⟨by omega,by omega,d,λv c=>⟨(b v (by omega)).1,Tg c (a.1 v c),a.1 v c,(b v (by omega)).2⟩,a.2⟩ h⟩
 ·rw[(HT g.2 f i).2 a];exact⟨λh=>absurd ⟨λv c=>(h.node v c).links,h.sym⟩ a,λ_=>rfl⟩
theorem VG.light {g:GR} (h:VG g):light g:=⟨by have:=h.n24;have:=h.len;omega,by have:=h.n24;omega,λv a=>by have:=(h.node v a).deg;have:=h.n24;omega⟩
abbrev D (d:aR) (v:Nat):Int:=at' d (v:Int)
def Db (g:GR) (v u:Nat):Prop:=∃i,i<(row g v).length∧(fQ (row g v) i).1=(u:Int)
theorem VG.port {g:GR} (h:VG g) {v i:Nat} (b:v<g.2.length) (a:i<(row g v).length):∃u:Nat,u<g.2.length∧(fQ (row g v) i).1=(u:Int)∧Db g v u:=by
 have c:=((h.node v b).links i a).1;exact⟨(fQ (row g v) i).1.toNat,by omega,by omega,i,a,by omega⟩
theorem VG.back {g:GR} (h:VG g) {v u:Nat} (f:v<g.2.length) (c:Db g v u):Db g u v:=by
 obtain⟨i,d,e⟩:=c;obtain⟨j,b,a,_⟩:=h.sym v f i d;rw[e]at b a;exact⟨j,b,a⟩
theorem VG.adj_lt {g:GR} (h:VG g) {v u:Nat} (c:v<g.2.length) (a:Db g v u):u<g.2.length:=by
 obtain⟨i,b,d⟩:=a;have:=((h.node v c).links i b).1;omega
def Hp (d:aR):Nat:=d.countP λx=>decide (x<0)
structure Sq (g:GR) (s:Nat) (d:aR):Prop where
 len:d.length=g.2.length
 lo:∀v,v<g.2.length -> -1<=D d v
 zero:∀v,v<g.2.length->(D d v=0↔v=s)
 near:∀v,v<g.2.length->0<D d v->∃u,u<g.2.length∧Db g v u∧D d u=D d v - 1
 hi:∀v,v<g.2.length->D d v+(Hp d:Int)<=(g.2.length:Int)
structure Qu (g:GR) (q d:aR) (b:Int) (done:Nat->Prop):Prop where
 mem:∀y∈q,∃v,v<g.2.length∧y=((v:Nat):Int)∧0<=D d v
 top:∀v,v<g.2.length->D d v<=b
 sort:q.Pairwise λa c=>at' d a<=at' d c
 done:∀v,v<g.2.length->0<=D d v->((v:Nat):Int)∉q->done v->∀u,u<g.2.length->Db g v u->0<=D d u∧D d u<=D d v+1
theorem Fp {d:aR} {v:Nat} (h:v<d.length):D d v=d[v]:=by
 rw[D,gG,zA1,zA0 h];rfl
theorem KJ {d:aR} {u:Nat} {x:Int} (a:u<d.length) (b:D d u<0) (e:0<=x):Hp (d.set u x)+1=Hp d:=by
 unfold Hp;rw[List.countP_set a];have c:0<d.countP λx=>decide (x<0):=by
  rw[List.countP_pos_iff];exact⟨d[u],List.getElem_mem a,by rw[<-Fp a];simpa using b⟩
 rw[Fp a]at b;rw[if_pos (by simpa using b),if_neg (by simp;omega)];omega
theorem assign {g:GR} {s:Nat} {q d:aR} {b:Int} {done:Nat->Prop} (E:VG g) (l:Sq g s d) {x u:Nat} (m:Qu g q d (D d x+1) done) (B:x<g.2.length) (K:0<=D d x) (J:u<g.2.length) (t:D d u<0) (F:Db g x u):
  Sq g s (d.set u (D d x+1))∧Qu g (q++[(u:Int)]) (d.set u (D d x+1)) (D d x+1) done:=by
 have o:=l.len;have e:∀v,D (d.set u (D d x+1)) v=if v=u then D d x+1 else D d v:=λv=>tE _ _ _ _ (by omega);have G:=KJ (x:=D d x+1) (by omega:u<d.length) t (by omega);refine⟨⟨by simp[o],λv f=> ?_,λv f=> ?_,λv f=> ?_,λv f=> ?_⟩,⟨λy j=> ?_,λv f=> ?_,?_,λv f k n H w A i=> ?_⟩⟩
 ·rw[e];split
  ·omega
  ·exact l.lo v f
 ·rw[e];split
  ·rename_i h;subst h;have:=(l.zero v f)
   constructor
   ·intro;omega
   ·intro h;have:=this.2 h;omega
  ·exact l.zero v f
 ·rw[e];split
  ·rename_i h;subst h;intro _;refine⟨x,B,E.back B F,?_⟩
   rw[e,if_neg (by intro h;subst h;omega)];omega
  ·intro k;obtain⟨w,A,i,I⟩:=l.near v f k;refine⟨w,A,i,?_⟩
   rw[e,if_neg (by intro h;subst h;omega)];exact I
 ·rw[e];split
  ·have:=l.hi x B;omega
  ·have:=l.hi v f;omega
 ·rcases List.mem_append.1 j with j|j
  ·obtain⟨v,f,rfl,k⟩:=m.mem y j;refine⟨v,f,rfl,?_⟩
   rw[e];split<;>omega
  ·simp only[List.mem_singleton]at j;refine⟨u,J,j,?_⟩
   rw[e,if_pos Z];omega
 ·rw[e];split
  ·omega
  ·exact m.top v f
 ·rw[List.pairwise_append];have n:∀y∈q,at' (d.set u (D d x+1)) y=at' d y:=by
   intro y j;obtain⟨v,f,rfl,k⟩:=m.mem y j;have:=e v;rw[if_neg (by intro h;subst h;omega)]at this;exact this
  refine⟨m.sort.imp_of_mem λ{a c} h1 r h=> ?_,List.pairwise_singleton ..,λy j z C=> ?_⟩
  ·rw[n a h1,n c r];exact h
  ·simp only[List.mem_singleton]at C;subst C;rw[n y j];have r:=e u;rw[if_pos Z]at r;obtain⟨v,f,rfl,k⟩:=m.mem y j;have:=m.top v f;show D d v<=D (d.set u (D d x+1)) u;omega
 ·have p:v≠u:=by
   rintro rfl;exact n (by simp)
  rw[e,if_neg p]at k;rw[e v,if_neg p];have:=m.done v f k (λh=>n (List.mem_append_left _ h)) H w A i;rw[e w,if_neg (by rintro rfl;omega)];exact this
theorem OP {g:GR} (E:VG g) {s x:Nat} (I:x<g.2.length) (a e:aR) (R:List Int×aR->Option aR) (r:aR->Prop)
  (o:Sq g s e) (ae:0<=D e x) (m:Qu g a e (D e x+1) (λv=>v≠x)) (hm:a.length+Hp e<=g.2.length)
  (K:∀q d,Sq g s d->D d x=D e x->Qu g q d (D d x+1) (λ_=>True)->q.length+Hp d=a.length+Hp e->(∀y∈q,D e x<=at' d y)->OK r (R (q,d)))
  (l:∀y∈a,D e x<=at' e y):
  OK r (bI (rU g ((x:Int)::a,e) R) 1000 ((0:Int),a,e)):=by
 have U:=(E.node x I).deg;have aa:=E.n24;refine yC (λz:Int×List Int×aR=>∃k:Nat,z.1=k∧k<=(row g x).length∧Sq g s z.2.2∧D z.2.2 x=D e x∧Qu g z.2.1 z.2.2 (D e x+1) (λv=>v≠x)∧z.2.1.length+Hp z.2.2=a.length+Hp e∧(∀i,i<k->∀u:Nat,(fQ (row g x) i).1=u->0<=D z.2.2 u)∧(∀y∈z.2.1,D e x<=at' z.2.2 y)) (λz=>31 - z.1.toNat) ?_ 1000 _ ⟨0,rfl,by omega,o,rfl,m,rfl,λi L=>by omega,l⟩ (by simp);rintro⟨z1,q,d⟩ X ⟨k,W,hk,o,f,m,A,F,l⟩ p;dsimp only at W o f m A F l;subst W;have V:=o.len;have e0:at' ((x:Int)::a) 0=(x:Int):=rfl;unfold rU rT;dsimp only;rw[e0];by_cases N:k<(row g x).length
 ·rw[if_pos (show(k:Int)<((row g x).length:Int) by omega),cB (show 0<=(k:Int)∧(k:Int)<((row g x).length:Int) by omega)];obtain⟨u,G,O,j⟩:=E.port I N;rw[show at' (at' g.2 (x:Int)) (k:Int)=fQ (row g x) k from rfl,O,cB (by omega)];have ac:=o.hi x I;by_cases c:at' d (u:Int)<0
  ·have J:Qu g q d (D d x+1) (λv=>v≠x):=by rw[f];exact m
   obtain⟨Y,c2⟩:=assign (b:=0) E o J I (by omega) G c j;have ab:=KJ (x:=D d x+1) (by omega:u<d.length) c (by omega);have n:∀v,D (d.set u (D d x+1)) v=if v=u then D d x+1 else D d v:=λv=>tE _ _ _ _ (by omega);have Q:x≠u:=by rintro rfl;have:D d x<0:=c;omega
   rw[if_pos c,cB (by omega),cB (by omega),cB (by simp only[List.length_singleton];omega),wr (x:=(k:Int)+1) (by omega) (by omega),wr (x:=at' d (x:Int)+1) (by show -9223372036854775808<=D d x+1;omega) (by show D d x+1<=_;omega)];refine p _ ⟨k+1,by simp,by omega,Y,?_,?_,?_,?_,?_⟩ (by dsimp only;omega)
   ·show D (d.set u (D d x+1)) x=_;rw[n,if_neg Q];exact f
   ·rw[<-f];exact c2
   ·show(q++[(u:Int)]).length+Hp (d.set u (D d x+1))=_;simp only[zAi,List.length_singleton];omega
   ·intro i L w P;show 0<=D (d.set u (D d x+1)) w;rw[n];split
    ·omega
    ·by_cases t:i=k
     ·subst t;omega
     ·exact F i (by omega) w P
   ·intro y B;show D e x<=at' (d.set u (D d x+1)) y;rcases List.mem_append.1 B with B|B
    ·have h1:=l y B;obtain⟨v,H,rfl,S⟩:=m.mem y B;have T:=n v;rw[if_neg (by intro h;subst h;have:D d v<0:=c;omega)]at T;rw[show at' (d.set u (D d x+1)) (v:Int)=D d v from T];exact h1
    ·simp only[List.mem_singleton]at B;subst B;rw[show at' (d.set u (D d x+1)) (u:Int)=D d x+1 from(n u).trans (if_pos Z)];omega
  ·rw[if_neg c,wr (by omega) (by omega)];refine p _ ⟨k+1,by simp,by omega,o,f,m,A,?_,l⟩ (by dsimp only;omega);intro i L w P;by_cases t:i=k
   ·subst t;have:w=u:=by omega
    subst this;show 0<=at' d (w:Int);omega
   ·exact F i (by omega) w P
 ·rw[if_neg (show¬(k:Int)<((row g x).length:Int) by omega)];have ad:k=(row g x).length:=by omega
  refine K q d o f ⟨m.mem,λv H=>by rw[f];exact m.top v H,m.sort,λv H S hq _ u G j=> ?_⟩ A l;by_cases C:v=x
  ·subst C;obtain⟨i,L,M⟩:=j;exact⟨F i (by omega) u M,by rw[f];exact m.top u G⟩
  ·exact m.done v H S hq C u G j
structure pR (g:GR) (s:Nat) (d:aR):Prop where
 len:d.length=g.2.length
 lo:∀v,v<g.2.length -> -1<=D d v
 zero:∀v,v<g.2.length->(D d v=0↔v=s)
 near:∀v,v<g.2.length->0<D d v->∃u,u<g.2.length∧Db g v u∧D d u=D d v - 1
 next:∀v,v<g.2.length->0<=D d v->∀u,u<g.2.length->Db g v u->0<=D d u∧D d u<=D d v+1
 hi:∀v,v<g.2.length->D d v<=(g.2.length:Int)
theorem Rq {g:GR} (t:VG g) {s:Nat} (f:aR) (k:aR) (b:Sq g s f) (c:Qu g k f (match k with|[]=>1000|y::_=>at' f y+1) (λ_=>True)) (j:k.length+Hp f<=g.2.length):
  OK (pR g s) (bI (oP 1000 g) 1000 (k,f)):=by
 have G:=t.n24;refine yC (λz:List Int×aR=>Sq g s z.2∧Qu g z.1 z.2 (match z.1 with|[]=>1000|y::_=>at' z.2 y+1) (λ_=>True)∧z.1.length+Hp z.2<=g.2.length) (λz=>z.1.length+Hp z.2) ?_ 1000 _ ⟨b,c,j⟩ (by dsimp only;omega);rintro⟨q,d⟩ C ⟨b,c,j⟩ m;dsimp only at b c j;unfold oP wB;dsimp only;cases q with
 |nil=>
  rw[if_neg (by simp)];exact⟨d,rfl,b.len,b.lo,b.zero,b.near,λv e l u n a=>c.done v e l (by simp) trivial u n a,λv e=>by have:=b.hi v e;omega⟩
 | cons y rest =>
  obtain⟨x,A,rfl,p⟩:=c.mem y (zA7 ..);have F:at' ((x:Int)::rest) 0=(x:Int):=rfl;rw[if_pos (by simp only[zAh];omega),cB (by simp only[zAh];omega),cB (by simp only[zAh];omega),F,cB (by omega)];have w:=List.pairwise_cons.1 c.sort;simp only[zAh]at j;refine OP t A rest d C _ b p ⟨λz I=>c.mem z (zAe _ I),c.top,w.2,λv e l H o u n a=>c.done v e l (λh=> ?_) trivial u n a⟩ (by omega) (λB E r J i K D=> ?_) w.1
  ·rcases zAo.1 h with h|h
   ·exact o (by omega)
   ·exact H h
  ·refine m (B,E) ⟨r,⟨i.mem,λv e=> ?_,i.sort,i.done⟩,by dsimp only;omega⟩ (by simp only[zAh];omega);dsimp only;have L:=i.top v e;cases B with
   |nil=>
    dsimp only;have:=r.hi x A;omega
   |cons z M=>
    dsimp only;have:=D z (zA7 ..);omega
theorem CW {g:GR} (l:VG g) {s:Nat} (m:s<g.2.length):OK (pR g s) (kG 1000 g (s:Int)):=by
 have q:=l.n24;unfold kG;rw[cB (by omega)];refine yC (λz:lL=>∃k:Nat,z.1=k∧k<=g.2.length∧z.2.length=g.2.length∧∀v,v<k->D z.2 v = -1) (λz=>31 - z.1.toNat) ?_ 1000 _ ⟨0,rfl,by omega,by simp,λv c=>by omega⟩ (by simp);rintro⟨C,d⟩ A ⟨k,o,B,e,j⟩ i;dsimp only at o e j;subst o;unfold AE;simp only[List.length_replicate,zAd];by_cases u:k<g.2.length
 ·rw[if_pos (by omega),cB (by omega),wr (by omega) (by omega)];refine i _ ⟨k+1,by simp,by omega,by simp[e],λv c=> ?_⟩ (by dsimp only;omega);show at' (d.set k (-1)) (v:Int) = -1;rw[tE _ _ _ _ (by omega)];split
  ·rfl
  ·exact j v (by omega)
 ·rw[if_neg (by omega)];unfold AD;rw[cB (by omega)];have b:∀v,v<g.2.length->D d v = -1:=λv c=>j v (by omega);have a:∀v,D (d.set s 0) v=if v=s then 0 else D d v:=λv=>tE _ _ _ _ (by omega);have t:=KJ (x:=0) (by omega:s<d.length) (by rw[b s m];omega) (by omega);have r:Hp d<=d.length:=List.countP_le_length ..;refine Rq l _ _ ⟨by simp[e],λv c=> ?_,λv c=> ?_,λv c=> ?_,λv c=> ?_⟩ ⟨λy n=> ?_,λv c=> ?_,List.pairwise_singleton ..,λv c p w=> ?_⟩ ?_
  ·rw[zAd,a];split
   ·omega
   ·rw[b v c];omega
  ·rw[zAd,a];split
   ·rename_i h;exact⟨λ_=>h,λ_=>rfl⟩
   ·rename_i h;rw[b v c];exact⟨λf=>by omega,λf=>absurd f h⟩
  ·rw[zAd,a];split
   ·omega
   ·rw[b v c];omega
  ·rw[zAd,a];split
   ·omega
   ·rw[b v c];omega
  ·simp only[List.mem_singleton]at n;refine⟨s,m,n,?_⟩
   rw[zAd,a,if_pos Z];omega
  ·rw[zAd];have f:at' (d.set s 0) (s:Int)=0:=(a s).trans (if_pos Z);show D (d.set s 0) v<=at' (d.set s 0) (s:Int)+1;rw[f,a];split
   ·omega
   ·rw[b v c];omega
  ·rw[zAd,a,if_neg (by rintro rfl;exact w (by simp)),b v c]at p;omega
  ·rw[zAd];simp only[List.length_singleton];omega
theorem Ol {g:GR} (a:VG g) {s:Nat} (e:s<g.2.length):OK (pR g s) (pC 1000 g (s:Int)):=by
 unfold pC nK;rw[(Sa g a.light).1 a,bD Z,if_neg (by simp),if_neg (by omega),zA8 (by omega),if_neg (by simp)];obtain⟨d,c,b⟩:=CW a e;rw[c];exact⟨d,rfl,b⟩
def zF (g:GR) (s:Nat):Nat->Nat->Prop
 |0,v=>v=s∧s<g.2.length
 |k+1,v=>∃u,zF g s k u∧Db g u v
theorem zF.lt {g:GR} (a:VG g) {s:Nat}:∀{k v:Nat},zF g s k v->v<g.2.length
 |0,_,h=>by obtain⟨rfl,h⟩:=h;exact h
 |_+1,_,h=>by obtain⟨u,b,c⟩:=h;exact a.adj_lt (zF.lt a b) c
theorem zF.trans {g:GR} {s t:Nat} {k:Nat} (h:zF g s k t):∀{m v:Nat},zF g t m v->zF g s (k+m) v
 |0,_,h2=>by obtain⟨rfl,_⟩:=h2;exact h
 |_+1,_,h2=>by obtain⟨u,a,b⟩:=h2;exact⟨u,zF.trans h a,b⟩
theorem Hj {g:GR} (a:VG g) {s:Nat}:∀{k v:Nat},zF g s k v->zF g v k s
 |0,_,h=>by obtain⟨rfl,h⟩:=h;exact⟨rfl,h⟩
 |k+1,v,h=>by
  obtain⟨u,b,c⟩:=h;have d:=zF.lt a b;have e:zF g v 1 u:=⟨v,⟨rfl,a.adj_lt d c⟩,a.back d c⟩
  have:=zF.trans e (Hj a b);rwa[Nat.add_comm]at this
theorem pR.le {g:GR} (a:VG g) {s:Nat} {d:aR} (h:pR g s d):∀{k v:Nat},zF g s k v->0<=D d v∧D d v<=k
 |0,v,hw=>by
  obtain⟨rfl,i⟩:=hw;have:=(h.zero v i).2 Z;omega
 |k+1,v,hw=>by
  obtain⟨u,b,c⟩:=hw;have e:=zF.lt a b;have f:=pR.le a h b;have j:=h.next u e f.1 v (a.adj_lt e c) c;omega
theorem MB {g:GR} (b:VG g) {s:Nat} {d:aR} (h:pR g s d):∀(k v:Nat),v<g.2.length->D d v=k->zF g s k v
 |0,v,hv,he=>by
  have:=(h.zero v hv).1 he;exact⟨this,by omega⟩
 |k+1,v,hv,he=>by
  obtain⟨u,c,a,e⟩:=h.near v hv (by omega);exact⟨u,MB b h k u c (by omega),b.back hv a⟩
theorem pR.pos {g:GR} (a:VG g) {s:Nat} {d:aR} (h:pR g s d) {v:Nat} (b:v<g.2.length) (c:0<=D d v):zF g s (D d v).toNat v:=
 MB a h _ v b (by omega)
theorem Qx (d:aR) (h:d.length<=30):OK (λr:Int=> -1<=r∧(∀v,v<d.length->D d v<=r)∧(r = -1∨∃v,v<d.length∧D d v=r)) (m_ 1000 d):=by
 unfold m_;refine yC (λz:gE=>∃k:Nat,z.2=k∧k<=d.length ∧ -1<=z.1∧(∀v,v<k->D d v<=z.1)∧(z.1 = -1∨∃v,v<k∧D d v=z.1)) (λz=>31 - z.2.toNat) ?_ 1000 _ ⟨0,rfl,by omega,by omega,λv b=>by omega,.inl Z⟩ (by simp);rintro⟨m,z⟩ n ⟨k,j,o,g,c,a⟩ e;dsimp only at j g c a;subst j;unfold yA sP;dsimp only;by_cases l:k<d.length
 ·rw[if_pos (by omega),cB (by omega),wr (by omega) (by omega)];refine e _ ⟨k+1,by simp,by omega,by dsimp only;omega,λv b=> ?_,?_⟩ (by dsimp only;omega)
  ·by_cases f:v=k
   ·subst f;show D d v<=max m (D d v);omega
   ·have:=c v (by omega);show D d v<=max m (D d k);omega
  ·by_cases p:m<=D d k
   ·exact .inr ⟨k,by omega,by show D d k=max m (D d k);omega⟩
   ·rcases a with a|⟨v,b,i⟩
    ·left;show max m (D d k) = -1;omega
    ·exact .inr ⟨v,by omega,by show D d v=max m (D d k);omega⟩
 ·rw[if_neg (by omega)];refine⟨m,rfl,g,λv b=>c v (by omega),?_⟩
  rcases a with a|⟨v,b,i⟩
  ·exact .inl a
  ·exact .inr ⟨v,by omega,i⟩
def Eh (g:GR):Prop:=∀u v,u<g.2.length->v<g.2.length->∃k,zF g u k v
theorem xX {g:GR} (a:VG g):(Eh g->dC 1000 g=some true)∧(¬Eh g->dC 1000 g=some false):=by
 have r:=a.n1;have n:=a.n24;unfold dC;obtain⟨d,o,e⟩:=CW a (s:=0) (by omega);have j:=e.len;rw[(Sa g a.light).1 a,bD Z,if_neg (by simp),show kG 1000 (g.1,g.2) 0=some d from o,bD Z];have c:=yB (step:=lF d) (K:=some true) (bad:=false) d.length (λv=>0<=D d v) (λk i f p=> ?_) (λk i f p=> ?_) (λi=> ?_) 1000 (by omega)
 ·have b:(∀v,v<d.length->0<=D d v)↔Eh g:=by
   constructor
   ·intro h u v q l;exact⟨_,zF.trans (Hj a (pR.pos a e q (h u (by omega)))) (pR.pos a e l (h v (by omega)))⟩
   ·intro h v l;obtain⟨k,f⟩:=h 0 v (by omega) (by omega);exact(pR.le a e f).1
  exact⟨λh=>c.1 (b.2 h),λh=>c.2 λm=>h (b.1 m)⟩
 ·unfold lF;rw[if_pos (by omega),cB (by omega),if_neg (show¬D d k<0 by omega),wr (by omega) (by omega)]
 ·unfold lF;rw[if_pos (by omega),cB (by omega),if_pos (show D d k<0 by omega)]
 ·unfold lF rF;rw[if_neg (by omega)]
def Xs (g:GR) (s:Nat) (r:Int):Prop:=∃d,kG 1000 g (s:Int)=some d∧pR g s d∧(∀v,v<g.2.length->D d v<=r)∧∃v,v<g.2.length∧D d v=r
theorem Ki {g:GR} {s:Nat} {r e:Int} (h:Xs g s r) (f:Xs g s e):r=e:=by
 obtain⟨d,i,_,j,v,l,o⟩:=h;obtain⟨n,a,_,b,m,c,k⟩:=f;rw[i]at a;cases a;have:=j m c;have:=b v l;omega
theorem Xs.pos {g:GR} {s:Nat} {r:Int} (b:s<g.2.length) (h:Xs g s r):0<=r∧r<=(g.2.length:Int):=by
 obtain⟨d,f,a,c,v,e,i⟩:=h;have:=c s b;have:=(a.zero s b).2 Z;have:=a.hi v e;omega
theorem Tk {g:GR} (e:VG g) {s:Nat} (i:s<g.2.length):∃d r,kG 1000 g (s:Int)=some d∧m_ 1000 d=some r∧Xs g s r:=by
 obtain⟨d,f,a⟩:=CW e i;have h:=a.len;have j:=e.n24;obtain⟨r,l,o,b,c⟩:=Qx d (by omega);have n:=b s (by omega);have:=(a.zero s i).2 Z;refine⟨d,r,f,l,d,f,a,λv m=>b v (by omega),?_⟩
 rcases c with c|⟨v,m,k⟩
 ·omega
 ·exact⟨v,by omega,k⟩
theorem AB {g:GR} (a:VG g) (f:Eh g) {s:Nat} (h:s<g.2.length):OK (Xs g s) (iJ 1000 g (s:Int)):=by
 unfold iJ kX;rw[(xX a).1 f,bD Z,if_neg (by simp),if_neg (by omega),zA8 (by omega),if_neg (by simp)];obtain⟨d,r,b,c,e⟩:=Tk a h;rw[b,bD Z,c,bD Z];exact⟨r,rfl,e⟩
theorem Nl (g:GR) (v:Nat) (u:Int) (m:v<g.2.length) (l:(row g v).length<=30):nR 1000 g v u=some (AM (row g v) u):=by
 unfold nR;rw[cB (by omega)];rcases Bg (row g v) u with⟨i,j,h,c,b⟩|⟨c,b⟩
 ·rw[b];refine Bb (λx:Int=>∃k:Nat,x=k∧k<=i) (λx=>31 - x.toNat) ?_ 1000 _ ⟨0,rfl,by omega⟩ (by omega);rintro x d ⟨k,rfl,f⟩ a;unfold wA;rw[if_pos (show(k:Int)<((row g v).length:Int) by omega),cB (show 0<=(k:Int)∧(k:Int)<((row g v).length:Int) by omega)];by_cases e:k=i
  ·subst e;exact if_pos h
  ·rw[if_neg (c k (by omega)),wr (by omega) (by omega)];exact a _ ⟨k+1,by omega,by omega⟩ (by omega)
 ·rw[b];refine Bb (λx:Int=>∃k:Nat,x=k∧k<=(row g v).length) (λx=>31 - x.toNat) ?_ 1000 _ ⟨0,rfl,by omega⟩ (by omega);rintro x d ⟨k,rfl,f⟩ a;unfold wA;by_cases e:k<(row g v).length
  ·rw[if_pos (show(k:Int)<((row g v).length:Int) by omega),cB (show 0<=(k:Int)∧(k:Int)<((row g v).length:Int) by omega),if_neg (c k e),wr (by omega) (by omega)];exact a _ ⟨k+1,by omega,by omega⟩ (by omega)
  ·rw[if_neg (show¬(k:Int)<((row g v).length:Int) by omega)];rfl
section
def oH (f:Nat->Nat):Nat->Nat
 |0=>0
 |k+1=>oH f k+f k
theorem Kc {f h:Nat->Nat}:∀{n:Nat},(∀v,v<n->f v<=h v)->oH f n<=oH h n
 |0,_=>zAf _
 |n+1,H=>Nat.add_le_add (Kc λv a=>H v (by omega)) (H n (by omega))
theorem DT {f h:Nat->Nat}:∀{n:Nat},(∀v,v<n->f v=h v)->oH f n=oH h n
 |0,_=>rfl
 |n+1,H=>by
  show oH f n+f n=oH h n+h n;rw[DT λv a=>H v (by omega),H n (by omega)]
theorem EV (f h:Nat->Nat):∀n:Nat,oH (λv=>f v+h v) n=oH f n+oH h n
 |0=>rfl
 |n+1=>by
  show oH (λv=>f v+h v) n+(f n+h n)=oH f n+f n+(oH h n+h n)
  rw[EV f h n];omega
theorem GL (c:Nat):∀n:Nat,oH (λ_=>c) n=c*n
 |0=>rfl
 |n+1=>by
  show oH (λ_=>c) n+c=c*(n+1)
  rw[GL c n,Nat.mul_succ]
theorem Nv (F:Nat->Nat->Nat) (m:Nat):∀n:Nat,oH (λv=>oH (F v) m) n=oH (λu=>oH (λv=>F v u) n) m
 |0=>by
  show 0=oH (λ_=>0) m;rw[GL];omega
 |n+1=>by
  show oH (λv=>oH (F v) m) n+oH (F n) m=oH (λu=>oH (λv=>F v u) n+F n u) m;rw[Nv F m n,EV (λu=>oH (λv=>F v u) n) (F n) m]
theorem Rv {f:Nat->Nat}:∀{n:Nat} (v:Nat),v<n->f v<=oH f n
 |0,v,h=>by omega
 |n+1,v,h=>by
  show f v<=oH f n+f n;by_cases e:v=n
  ·subst e;omega
  ·have:=Rv (f:=f) (n:=n) v (by omega);omega
open Classical in
noncomputable def ind (p:Prop):Nat:=if p then 1 else 0
theorem Ml {p:Prop} (h:p):ind p=1:=if_pos h
theorem Ov {p:Prop} (h:¬p):ind p=0:=if_neg h
theorem Bo (p:Prop):(p∧ind p=1)∨(¬p∧ind p=0):=by
 by_cases h:p
 ·exact .inl ⟨h,Ml h⟩
 ·exact .inr ⟨h,Ov h⟩
theorem LK (a:Nat):∀n:Nat,oH (λu=>ind (u=a)) n=ind (a<n)
 |0=>(Ov (by omega)).symm
 |n+1=>by
  show oH (λu=>ind (u=a)) n+ind (n=a)=_;rw[LK a n];rcases Bo (a<n)with⟨e,b⟩|⟨e,b⟩<;>rcases Bo (n=a)with⟨f,c⟩|⟨f,c⟩<;>rcases Bo (a<n+1)with⟨g,d⟩|⟨g,d⟩<;>omega
theorem LJ (f:Nat->Nat) (n:Nat):∀k:Nat,(∀i,i<k->f i<n)->(∀i j,i<j->j<k->f i≠f j)->oH (λu=>ind (∃i,i<k∧f i=u)) n=k
 |0,_,_=>by
  rw[DT (h:=λ_=>0) λv _=>Ov (fun⟨i,c,_⟩=>by omega),GL];omega
 | k + 1, h, hd => by
  have e:∀u,u<n->ind (∃i,i<k+1∧f i=u)=ind (∃i,i<k∧f i=u)+ind (u=f k):=by
   intro u _;rcases Bo (∃i,i<k∧f i=u)with⟨⟨i,c,b⟩,d⟩|⟨m,d⟩
   ·rw[d,Ov (p:=u=f k) (λa=>hd i k c (by omega) (b.trans a)),Ml ⟨i,by omega,b⟩]
   ·rw[d];by_cases a:u=f k
    ·rw[Ml a,Ml ⟨k,by omega,a.symm⟩]
    ·rw[Ov a,Ov];rintro⟨i,c,b⟩;by_cases l:i=k
     ·subst l;exact a b.symm
     ·exact m ⟨i,by omega,b⟩
  rw[DT e,EV (λu=>ind (∃i,i<k∧f i=u)) (λu=>ind (u=f k)),LJ f n k (λi c=>h i (by omega)) (λi j g o=>hd i j g (by omega)),LK,Ml (h k (by omega))]
theorem acj {g:GR} (e:VG g) {v:Nat} (h:v<g.2.length):(row g v).length=oH (λu=>ind (Db g v u)) g.2.length:=by
 have b:=(e.node v h).links;rw[<-LJ (λi=>(fQ (row g v) i).1.toNat) g.2.length (row g v).length (λi a=>by have:=(b i a).1;omega) (λi j c d=>by
  have k:=(b i (by omega)).1;have l:=(b j d).1;have:=(b j d).2.2.2 i c;omega)]
 refine DT λu _=> ?_;have:(∃i,i<(row g v).length∧(fQ (row g v) i).1.toNat=u)↔Db g v u:=by
  constructor
  ·rintro⟨i,a,f⟩;have:=(b i a).1;exact⟨i,a,by omega⟩
  ·rintro⟨i,a,f⟩;exact⟨i,a,by omega⟩
 rw[propext this]
theorem SL {g:GR} (a:VG g) {v:Nat} (d:v<g.2.length):¬Db g v v:=by
 rintro⟨i,c,b⟩;exact((a.node v d).links i c).2.1 b
def Tf (g:GR):Nat:=oH (λv=>(row g v).length) g.2.length
theorem adK {g:GR} (i:VG g) (z:Eh g):2*(g.2.length - 1)<=Tf g:=by
 have C:=i.n1;obtain⟨d,_,q⟩:=CW i (s:=0) (by omega);have j:∀v,v<g.2.length->0<=D d v:=λv c=>by
  obtain⟨k,B⟩:=z 0 v (by omega) c;exact(pR.le i q B).1
 have r:oH (λv=>oH (λu=>ind (Db g v u∧D d u=D d v - 1)+ind (Db g v u∧D d u=D d v+1)) g.2.length) g.2.length<=Tf g:=by
  unfold Tf;refine Kc λv c=> ?_;rw[acj i c];refine Kc λu m=> ?_;rcases Bo (Db g v u∧D d u=D d v - 1)with⟨a,l⟩|⟨a,l⟩
  ·rw[l,Ov (p:=Db g v u∧D d u=D d v+1) (λb=>by omega),Ml a.1];omega
  ·rcases Bo (Db g v u∧D d u=D d v+1)with⟨b,o⟩|⟨b,o⟩
   ·rw[l,o,Ml b.1];omega
   ·rw[l,o];omega
 have t:oH (λv=>oH (λu=>ind (Db g v u∧D d u=D d v+1)) g.2.length) g.2.length=oH (λv=>oH (λu=>ind (Db g v u∧D d u=D d v - 1)) g.2.length) g.2.length:=by
  rw[Nv];refine DT λu m=>DT λv c=> ?_;rw[propext (show(Db g v u∧D d u=D d v+1)↔(Db g u v∧D d v=D d u - 1)from⟨λh=>⟨i.back c h.1,by omega⟩,λh=>⟨i.back m h.1,by omega⟩⟩)]
 have w:oH (λv=>ind (v≠0)) g.2.length<=oH (λv=>oH (λu=>ind (Db g v u∧D d u=D d v - 1)) g.2.length) g.2.length:=by
  refine Kc λv c=> ?_;by_cases e:v=0
  ·rw[Ov (λh=>h e)];omega
  ·rw[Ml e];have G:=j v c;have E:=q.zero v c;obtain⟨u,m,y,A⟩:=q.near v c (by
    have:D d v≠0:=λh=>e (E.1 h);omega)
   have:=Rv (f:=λu=>ind (Db g v u∧D d u=D d v - 1)) u m;rw[Ml ⟨y,A⟩]at this;exact this
 have x:∀n,1<=n->oH (λv=>ind (v≠0)) n=n - 1:=by
  intro n
  induction n with
  |zero=>intro h;omega
  |succ n F=>
   intro _;show oH (λv=>ind (v≠0)) n+ind (n≠0)=n;by_cases e:n=0
   ·subst e;rw[Ov (by omega)];rfl
   ·rw[F (by omega),Ml e];omega
 rw[x _ C]at w;rw[DT (λv _=>EV (λu=>ind (Db g v u∧D d u=D d v - 1)) (λu=>ind (Db g v u∧D d u=D d v+1)) g.2.length),EV (λv=>oH (λu=>ind (Db g v u∧D d u=D d v - 1)) g.2.length) (λv=>oH (λu=>ind (Db g v u∧D d u=D d v+1)) g.2.length),t]at r;omega
end
theorem NJ (a:Nat) (h:a<4294967296):IntKind.u32.wrap (a:Int)=a:=by rw[<-Fj];exact if_pos ⟨by omega,by omega⟩
def PH (x:Int):Nat:=(BitVec.ofInt 32 x).toNat
theorem Ks (x:Int):PH x<4294967296:=(BitVec.ofInt 32 x).isLt
theorem zR {a:Nat} (h:a<4294967296):PH (a:Int)=a:=by
 unfold PH;rw[BitVec.ofInt_natCast,BitVec.toNat_ofNat];exact Nat.mod_eq_of_lt h
theorem N_ (x y:Int):eK .u32 x y=((PH x &&& PH y:Nat):Int):=by
 show IntKind.u32.wrap (((BitVec.ofInt 32 x &&& BitVec.ofInt 32 y).toNat:Nat):Int)=_;rw[BitVec.toNat_and];exact NJ _ (Nat.lt_of_le_of_lt Nat.and_le_left (Ks x))
theorem aew (x y:Int):Oa .u32 x y=((PH x ||| PH y:Nat):Int):=by
 show IntKind.u32.wrap (((BitVec.ofInt 32 x ||| BitVec.ofInt 32 y).toNat:Nat):Int)=_;rw[BitVec.toNat_or];exact NJ _ (Nat.or_lt_two_pow (n:=32) (Ks x) (Ks y))
theorem Ye (x y:Int):vV .u32 x y=0↔∀i,(PH x).testBit i=true->(PH y).testBit i=true:=by
 have e:vV .u32 x y=(((BitVec.ofInt 32 x &&& ~~~ BitVec.ofInt 32 y).toNat:Nat):Int):=NJ _ (BitVec.ofInt 32 x &&& ~~~ BitVec.ofInt 32 y).isLt;have b:∀i,(BitVec.ofInt 32 x &&& ~~~ BitVec.ofInt 32 y).toNat.testBit i=((PH x).testBit i&&(decide (i<32) && !(PH y).testBit i)):=by
  intro i;have:=BitVec.getLsbD_and (x:=BitVec.ofInt 32 x) (y:= ~~~ BitVec.ofInt 32 y) (i:=i);rw[BitVec.getLsbD_not]at this;exact this
 have d:∀i,(PH x).testBit i=true->i<32:=by
  intro i a;apply Classical.byContradiction;intro f;rw[Nat.testBit_lt_two_pow (zAs (Ks x) (Nat.pow_le_pow_right (n:=2) (by omega) (show 32<=i by omega)))]at a;cases a
 rw[e];constructor
 ·intro h i a;have c:(BitVec.ofInt 32 x &&& ~~~ BitVec.ofInt 32 y).toNat=0:=by omega
  have:=b i;rw[c,Nat.zero_testBit,a,zAc (d i a)]at this;simpa using this
 ·intro h;have:(BitVec.ofInt 32 x &&& ~~~ BitVec.ofInt 32 y).toNat=0:=by
   apply Nat.eq_of_testBit_eq;intro i;rw[b i,Nat.zero_testBit];cases a:(PH x).testBit i with
   |false=>rfl
   |true=>rw[h i a];simp
  omega
theorem Jl {k:Nat} (a:k<32):2^k<4294967296:=Nat.pow_lt_pow_right (n:=32) (by omega) a
theorem adH {k:Nat} (a:k<32):Dk .u32 1 (k:Int)=((2^k:Nat):Int):=by
 show IntKind.u32.wrap (1*2^(min ((k:Int).toNat) 32))=_;rw[zAd,Nat.min_eq_left (by omega),Int.one_mul,show(2:Int)^k=((2^k:Nat):Int) by simp];exact NJ _ (Jl a)
theorem Ob {a k:Nat} (b:k<32):tF .u32 (a:Int) (k:Int)=((a / 2^k:Nat):Int):=by
 show Int.fdiv (a:Int) (2^(min ((k:Int).toNat) 32))=_;rw[zAd,Nat.min_eq_left (by omega),show(2:Int)^k=((2^k:Nat):Int) by simp,Int.fdiv_eq_ediv_of_nonneg _ (Int.natCast_nonneg _)];simp
theorem Zn {a k:Nat} (d:k<32) (c:a<4294967296):eK .u32 (tF .u32 (a:Int) (k:Int)) 1=1↔a.testBit k=true:=by
 have b:PH 1=1:=zR (a:=1) (by omega);rw[Ob d,N_,zR (Nat.lt_of_le_of_lt (Nat.div_le_self _ _) c),b,Nat.and_one_is_mod,Nat.testBit_eq_decide_div_mod_eq,zA3];omega
def Kk (g:GR) (s:Nat):Prop:=(∀v,s.testBit v=true->v<g.2.length)∧∀v u,s.testBit v=true->s.testBit u=true->¬Db g v u
theorem aet {g:GR} (a:VG g):Ap 1000 g=some ((2^g.2.length - 1:Nat):Int):=by
 have c:=a.n24;have d:=a.len;have e:=Jl (show g.2.length<32 by omega);have b:1<=2^g.2.length:=Nat.one_le_two_pow;unfold Ap;rw[cB (by omega),d,adH (by omega),show((2^g.2.length:Nat):Int) - 1=((2^g.2.length - 1:Nat):Int) by omega];congr 1;exact if_pos ⟨by omega,by omega⟩
theorem pR.lt {g:GR} {s:Nat} {d:aR} (h:pR g s d) {v:Nat} (p:v<g.2.length):D d v<(g.2.length:Int):=by
 apply Classical.byContradiction;intro t;have all:∀m:Nat,(m:Int)<=D d v->∃w,w<g.2.length∧D d w=D d v - m:=by
  intro m
  induction m with
  |zero=>intro _;exact⟨v,p,by omega⟩
  |succ m q=>
   intro x;obtain⟨w,e,c⟩:=q (by omega);obtain⟨u,n,_,o⟩:=h.near w e (by omega);exact⟨u,n,by omega⟩
 have b:∀i:Nat,i<g.2.length+1->∃w,w<g.2.length∧D d w=(i:Int):=by
  intro i a;obtain⟨w,e,c⟩:=all (D d v - i).toNat (by omega);exact⟨w,e,by omega⟩
 have:=Lz g.2.length (λi=>if a:i<g.2.length+1 then Classical.choose (b i a)else 0) (g.2.length+1) (λi a=>by
  rw[dif_pos a];exact(Classical.choose_spec (b i a)).1) (λi j l f c=>by
  rw[dif_pos (by omega),dif_pos f]at c;have k:=(Classical.choose_spec (b i (by omega))).2;have r:=(Classical.choose_spec (b j f)).2;rw[c]at k;omega)
 omega
def T (e:aR) (k v w:Nat):Int:=if 0<=D e w∧(D e w<k∨(D e w=k∧w<v))then D e w else -1
theorem Xc {g:GR} (G:VG g) {s:Nat} {e:aR} (V:pR g s e) {k v:Nat} (af:1<=k) (hk:k<g.2.length) (q:v<g.2.length) (C:aR) (J:lL->Option aR) (r:aR)
  (B:C.length=g.2.length) (W:∀w,w<g.2.length->D C w=T e k v w)
  (K:∀d:aR,d.length=g.2.length->(∀w,w<g.2.length->D d w=T e k (v+1) w)->J ((v:Int)+1,d)=some r):
  bI (lI g ((k:Int),C) ((v:Int),C) J) 1000 ((0:Int),C)=some r:=by
 have X:=(G.node v q).deg;have ab:=G.n24;refine Bb (λz:lL=>∃i:Nat,z.1=i∧i<=(row g v).length∧z.2.length=g.2.length∧(∀w,w<g.2.length->w≠v->D z.2 w=T e k v w)∧((D z.2 v=T e k v v∧(D z.2 v<0->∀j,j<i->∀u:Nat,(fQ (row g v) j).1=u->D e u≠(k:Int) - 1))∨(D z.2 v=k∧D e v=k))) (λz=>31 - z.1.toNat) ?_ 1000 _ ⟨0,rfl,by omega,B,λw t _=>W w t,.inl ⟨W v q,λ_ j hj=>by omega⟩⟩ (by simp);rintro⟨z,d⟩ aa ⟨i,hz,hi,B,t,H⟩ o;dsimp only at hz B t H;subst hz;have tv:T e k v v=D e v∨T e k v v = -1:=by unfold T;split<;>simp
 have E:(0<=D d v∨i=(row g v).length)->J (wI .i64 ((v:Int)+1),d)=some r:=by
  intro hx;rw[wr (by omega) (by omega)];refine K d B λw y=> ?_;by_cases l:w=v
  ·subst l;rcases H with⟨A,F⟩|⟨A,F⟩
   ·rw[A];unfold T at A ⊢;by_cases a:0<=D e w∧(D e w<k∨(D e w=k∧w<w))
    ·rw[if_pos a,if_pos (by omega)]
    ·rw[if_neg a]at A ⊢;rw[if_neg];intro b;have ac:D e w=k:=by omega
     obtain⟨u,R,⟨j,hj,O⟩,I⟩:=V.near w q (by omega);have ae:i=(row g w).length:=by omega
     exact F (by omega) j (by omega) u O (by omega)
   ·rw[A];unfold T;rw[if_pos (by omega)];omega
  ·rw[t w y l];unfold T;by_cases a:0<=D e w∧(D e w<k∨(D e w=k∧w<v))
   ·rw[if_pos a,if_pos (by omega)]
   ·rw[if_neg a,if_neg (by omega)]
 unfold lI rP rO nY;dsimp only;rw[cB (by omega)];by_cases M:i<(row g v).length
 rotate_left
 ·rw[if_neg (show¬(i:Int)<((row g v).length:Int) by omega),if_neg (by simp)];exact E (.inr (by omega))
 obtain⟨u,R,I,n⟩:=G.port q M;rw[if_pos (show(i:Int)<((row g v).length:Int) by omega),cB (by omega)];by_cases f:at' d (v:Int)<0
 rotate_left
 ·rw[if_neg (by rw[zA8 f];simp)];exact E (.inl (by show 0<=at' d (v:Int);omega))
 have S:u≠v:=by rintro rfl;exact SL G q n
 rw[if_pos (zAc f),cB (by omega),cB (show 0<=(i:Int)∧(i:Int)<((row g v).length:Int) by omega),show at' (at' g.2 (v:Int)) (i:Int)=fQ (row g v) i from rfl,I,cB (by omega),wr (x:=(k:Int) - 1) (by omega) (by omega),wr (x:=(i:Int)+1) (by omega) (by omega)];have P:D d v<0:=f;have p:D d v=T e k v v∧(D d v<0->∀j,j<i->∀u:Nat,(fQ (row g v) j).1=u->D e u≠(k:Int) - 1):=by
  rcases H with H|⟨h,_⟩
  ·exact H
  ·omega
 have c:=t u R S;have Q:=V.next u R;by_cases m:at' d (u:Int)=(k:Int) - 1
 ·have Y:D d u=(k:Int) - 1:=m;rw[if_pos m,cB (by omega)];have ad:D e u=(k:Int) - 1:=by
   unfold T at c;by_cases a:0<=D e u∧(D e u<k∨(D e u=k∧u<v))
   ·rw[if_pos a]at c;omega
   ·rw[if_neg a]at c;omega
  have L:D e v=k:=by
   have A:=Q (by omega) v q (G.back q n);have F:=p.1;unfold T at F;by_cases a:0<=D e v∧(D e v<k∨(D e v=k∧v<v))
   ·rw[if_pos a]at F;omega
   ·omega
  refine o _ ⟨i+1,by simp,by omega,by simp[B],λw y l=> ?_,.inr ⟨?_,L⟩⟩ (by dsimp only;omega)
  ·show at' (d.set (Int.toNat (v:Int)) (k:Int)) (w:Int)=_;rw[zAd,tE _ _ _ _ (by omega),if_neg l];exact t w y l
  ·show at' (d.set (Int.toNat (v:Int)) (k:Int)) (v:Int)=_;rw[zAd,tE _ _ _ _ (by omega),if_pos Z]
 ·rw[if_neg m];refine o _ ⟨i+1,by simp,by omega,B,t,.inl ⟨p.1,λhn j hj w U he=> ?_⟩⟩ (by dsimp only;omega);by_cases N:j=i
  ·subst N;have:w=u:=by omega
   subst this;unfold T at c;rw[if_pos (by omega)]at c;exact m (by show D d w=_;omega)
  ·exact p.2 hn j (by omega) w U he
theorem QF {d e:aR} (c:d.length=e.length) (h:∀v,v<d.length->D d v=D e v):d=e:=by
 apply List.ext_getElem c;intro i a b;rw[<-Fp a,<-Fp b];exact h i a
theorem AN {g:GR} (r:VG g) {s:Nat} (L:s<g.2.length) {e:aR} (m:pR g s e):kH 1000 g (s:Int)=some e:=by
 have F:=r.n24;unfold kH nX;rw[(Rc g r.light).1 r,bD Z,if_neg (by simp),tY,wr (by omega) (by omega),zAc (by omega),bD Z,if_neg (by simp)];refine Bb (λz:List Int×Int=>∃k:Nat,z.2=k∧k<=g.2.length∧z.1=List.replicate k (-1)) (λz=>31 - z.2.toNat) ?_ 1000 _ ⟨0,rfl,by omega,rfl⟩ (by simp);rintro⟨l,z⟩ J ⟨k,b,G,p⟩ x;dsimp only at b p;subst b p;unfold wW;dsimp only;by_cases H:k<g.2.length
 ·rw[if_pos (by omega),cB (by simp only[List.length_replicate,List.length_singleton];omega),wr (by omega) (by omega)];exact x _ ⟨k+1,by simp,by omega,by dsimp only;rw[List.replicate_succ']⟩ (by dsimp only;omega)
 rw[if_neg (by omega)];have i:k=g.2.length:=by omega
 subst i;unfold wV;rw[cB (by simp only[List.length_replicate];omega),zAd];have y:∀w,w<g.2.length->D ((List.replicate g.2.length (-1:Int)).set s 0) w=T e 1 0 w:=by
  intro w t;have q:=tE (List.replicate g.2.length (-1:Int)) s w 0 (by simp only[List.length_replicate];omega);have b:=m.zero w t;show at' _ _=_;rw[q];by_cases c:w=s
  ·have:=b.2 c;rw[if_pos c];unfold T;rw[if_pos (by omega)];omega
  ·have:D e w≠0:=λh=>c (b.1 h);rw[if_neg c,gG,zA1,List.getElem?_replicate,if_pos t];unfold T;rw[if_neg (by omega)];rfl
 refine Bb (λz:lL=>∃k:Nat,z.1=k∧1<=k∧(k<=g.2.length)∧z.2.length=g.2.length∧∀w,w<g.2.length->D z.2 w=T e k 0 w) (λz=>31 - z.1.toNat) ?_ 1000 _ ⟨1,rfl,by omega,by omega,by simp,y⟩ (by simp);rintro⟨z,d⟩ E ⟨k,b,A,G,j,f⟩ n;dsimp only at b j f;subst b;unfold fL rK;dsimp only;by_cases i:k<g.2.length
 rotate_left
 ·rw[if_neg (by omega)];congr 1;refine QF (j.trans m.len.symm) λv I=> ?_;have q:=m.lt (v:=v) (by omega);have C:=m.lo v (by omega);rw[f v (by omega)];unfold T;by_cases a:0<=D e v
  ·rw[if_pos (by omega)]
  ·rw[if_neg (by omega)];omega
 rw[if_pos (by omega)];refine Bb (λz:lL=>∃v:Nat,z.1=v∧v<=g.2.length∧z.2.length=g.2.length∧∀w,w<g.2.length->D z.2 w=T e k v w) (λz=>31 - z.1.toNat) ?_ 1000 _ ⟨0,rfl,by omega,j,f⟩ (by simp);rintro⟨z,d⟩ u ⟨v,b,I,j,f⟩ o;dsimp only at b j f;subst b;unfold iL rM;dsimp only;by_cases B:v<g.2.length
 ·rw[if_pos (by omega)];exact Xc r m A i B d u e j f λK q C=>o _ ⟨v+1,by simp,by omega,q,C⟩ (by dsimp only;omega)
 ·rw[if_neg (by omega),wr (by omega) (by omega)];refine n _ ⟨k+1,by simp,by omega,by omega,j,λw t=> ?_⟩ (by dsimp only;omega);rw[f w t];unfold T;by_cases a:0<=D e w∧(D e w<k∨(D e w=k∧w<v))
  ·rw[if_pos a,if_pos (by omega)]
  ·rw[if_neg a,if_neg (by omega)]
theorem LB (d:aR) (h:d.length<=30):OK (λr:Int=>(¬(∀v,v<d.length->0<=D d v)->r = -1)∧((∀v,v<d.length->0<=D d v) -> -1<=r∧(∀v,v<d.length->D d v<=r)∧(r = -1∨∃v,v<d.length∧D d v=r))) (nA 1000 d):=by
 unfold nA;refine yC (λz:gE=>∃k:Nat,z.2=k∧k<=d.length ∧ -1<=z.1∧(∀v,v<k->0<=D d v∧D d v<=z.1)∧(z.1 = -1∨∃v,v<k∧D d v=z.1)) (λz=>31 - z.2.toNat) ?_ 1000 _ ⟨0,rfl,by omega,by omega,λv c=>by omega,.inl Z⟩ (by simp);rintro⟨m,z⟩ p ⟨k,n,q,j,e,b⟩ f;dsimp only at n j e b;subst n;unfold yN sS;dsimp only;by_cases g:k<d.length
 ·rw[if_pos (by omega),cB (by omega)];by_cases a:at' d (k:Int)<0
  ·rw[if_pos a];exact⟨-1,rfl,λ_=>rfl,λh=>absurd (h k g) (by show¬0<=at' d (k:Int);omega)⟩
  rw[if_neg a,cB (by omega),wr (by omega) (by omega)];have o:0<=D d k:=by show 0<=at' d (k:Int);omega
  refine f _ ⟨k+1,by simp,by omega,by dsimp only;omega,λv c=> ?_,?_⟩ (by dsimp only;omega)
  ·by_cases i:v=k
   ·subst i;show 0<=D d v∧D d v<=max m (D d v);omega
   ·have:=e v (by omega);show 0<=D d v∧D d v<=max m (D d k);omega
  ·by_cases s:m<=D d k
   ·exact .inr ⟨k,by omega,by show D d k=max m (D d k);omega⟩
   ·rcases b with b|⟨v,c,l⟩
    ·left;show max m (D d k) = -1;omega
    ·exact .inr ⟨v,by omega,by show D d v=max m (D d k);omega⟩
 ·rw[if_neg (by omega)];refine⟨m,rfl,λh=>absurd (λv c=>(e v (by omega)).1) h,λ_=>⟨j,λv c=>(e v (by omega)).2,?_⟩⟩
  rcases b with b|⟨v,c,l⟩
  ·exact .inl b
  ·exact .inr ⟨v,by omega,l⟩
theorem Hr {g:GR} (b:VG g) {s:Nat} (i:s<g.2.length) {d:aR} (a:pR g s d):(∀v,v<d.length->0<=D d v)↔Eh g:=by
 have c:=a.len;constructor
 ·intro h u v j e;exact⟨_,zF.trans (Hj b (pR.pos b a j (h u (by omega)))) (pR.pos b a e (h v (by omega)))⟩
 ·intro h v e;obtain⟨k,f⟩:=h s v i (by omega);exact(pR.le b a f).1
theorem IM {g:GR} (b:VG g) {s:Nat} (c:s<g.2.length):OK (λr:Int=>(Eh g->Xs g s r)∧(¬Eh g->r = -1)) (gC 1000 g (s:Int)):=by
 obtain⟨d,o,a⟩:=CW b c;have k:=a.len;have n:=b.n24;unfold gC;obtain⟨r,q,l,m⟩:=LB d (by omega);rw[AN b c a,bD Z,q];have j:=Hr b c a;refine⟨r,rfl,λe=> ?_,λe=>l λh=>e (j.1 h)⟩
 obtain⟨u,f,i⟩:=m (j.2 e);have w:=f s (by omega);have:=(a.zero s c).2 Z;refine⟨d,o,a,λv t=>f v (by omega),?_⟩
 rcases i with i|⟨v,t,p⟩
 ·omega
 ·exact⟨v,by omega,p⟩
theorem TM {g:GR} (c:VG g):(Eh g->hZ 1000 g=some true)∧(¬Eh g->hZ 1000 g=some false):=by
 have j:=c.n1;obtain⟨r,a,e,f⟩:=IM c (s:=0) (by omega);unfold gC at a;unfold hZ;obtain⟨d,h,a⟩:=bnd a;obtain⟨x,i,a⟩:=bnd a;cases a;rw[show kH 1000 (g.1,g.2) 0=some d from h,bD Z,i,bD Z];constructor
 ·intro b;rw[zAc (Xs.pos (by omega) (e b)).1]
 ·intro b;rw[f b];rfl
theorem Zs {X R:Type} {step:X->(X->Option R)->Option R} {K:X->Option R} {bad:R} (N:Nat) (p:Nat->Prop) (I:Nat->X->Prop) (B:Nat)
  (t:∀(k:Nat) x q,k<N->k<B->I k x->p k->∃c,I (k+1) c∧step x q=q c) (l:∀(k:Nat) x q,k<N->k<B->I k x->¬p k->step x q=some bad) (s:∀x q,I N x->N<B->step x q=K x):
  ∀(b:Nat) (x:X),I 0 x->B<=b->(N<B∨∃k,k<N∧k<B∧¬p k)->((∀k,k<N->p k)->∃c,I N c∧bI step b x=K c)∧(¬(∀k,k<N->p k)->bI step b x=some bad):=by
 intro b x e v hB;have r:∀(d a b:Nat) (x:X),I a x->a+d<N->a+d<B->¬p (a+d)->d<b->bI step b x=some bad:=by
  intro d
  induction d with
  |zero=>
   intro a b x e j g i v;obtain⟨f,rfl⟩:∃f,b=f+1:=⟨b - 1,by omega⟩
   exact l a x _ j g e i
  | succ d y =>
   intro a b x e j g i v;obtain⟨f,rfl⟩:∃f,b=f+1:=⟨b - 1,by omega⟩
   by_cases u:p a
   ·obtain⟨c,n,o⟩:=t a x (bI step f) (by omega) (by omega) e u;have o:bI step (f+1) x=bI step f c:=o;rw[o];exact y (a+1) f c n (by omega) (by omega) (by rw[show a+1+d=a+(d+1) by omega];exact i) (by omega)
   ·exact l a x _ (by omega) (by omega) e u
 have m:∀(d a b:Nat) (x:X),I a x->a+d=N->N<B->(∀k,a<=k->k<N->p k)->d<b->∃c,I N c∧bI step b x=K c:=by
  intro d
  induction d with
  |zero=>
   intro a b x e j g i v;obtain⟨f,rfl⟩:∃f,b=f+1:=⟨b - 1,by omega⟩
   obtain rfl:a=N:=by omega
   exact⟨x,e,s x _ e g⟩
  |succ d y=>
   intro a b x e j g i v;obtain⟨f,rfl⟩:∃f,b=f+1:=⟨b - 1,by omega⟩
   obtain⟨c,n,o⟩:=t a x (bI step f) (by omega) (by omega) e (i a (zAf _) (by omega));have o:bI step (f+1) x=bI step f c:=o;rw[o];exact y (a+1) f c n (by omega) g (λk j g=>i k (by omega) g) (by omega)
 constructor
 ·intro h;rcases hB with hB|⟨k,j,_,g⟩
  ·exact m N 0 b x e (by omega) hB (λk _ w=>h k w) (by omega)
  ·exact absurd (h k j) g
 ·intro h;have:∃k,k<N∧k<B∧¬p k:=by
   rcases hB with hB|hB
   ·apply Classical.byContradiction;intro A;exact h λk w=>Classical.byContradiction λi=>A ⟨k,w,by omega,i⟩
   ·exact hB
  obtain⟨k,j,g,z⟩:=this;exact r k 0 b x e (by omega) (by omega) (by rw[Nat.zero_add];exact z) (by omega)
theorem Xd {a:fV} (q:a.length<=30) {v:Nat} (r:v<a.length):(at' a (v:Int)).length<1000∨∃k,k<(at' a (v:Int)).length∧k<1000∧¬Ij (at' a (v:Int)) v a.length k:=by
 by_cases h:(at' a (v:Int)).length<1000
 ·exact .inl h
 ·right;apply Classical.byContradiction;intro f;have b:∀k,k<40->Ij (at' a (v:Int)) v a.length k:=λk p=>Classical.byContradiction λl=>f ⟨k,by omega,by omega,l⟩;have:=Lz a.length (λi=>(fQ (at' a (v:Int)) i).1.toNat) 40 (λi g=>by have:=(b i g).1;omega) (λi j c d o=>by
   have m:=(b i (by omega)).1;have n:=(b j d).1;have e:=(b j d).2.2.2 i c;exact e (by omega))
  omega
theorem ON (g:GR):(VG g->lQ 1000 g=some true)∧(¬VG g->lQ 1000 g=some false):=by
 unfold lQ;rw[tY,bD Z];by_cases y:1<=g.2.length∧g.2.length<=24
 rotate_left
 ·rw[zA8 (by omega)];exact⟨λh=>absurd ⟨h.n1,h.n24⟩ y,λ_=>rfl⟩
 rw[zAc (by omega),if_neg (by simp)];by_cases G:g.1.length=g.2.length
 rotate_left
 ·rw[zAc (by omega)];exact⟨λh=>absurd h.len G,λ_=>rfl⟩
 rw[zA8 (by omega)];unfold tT;rw[if_neg (by simp)];have o:∀(v:Nat) (b:Int->Option Bool),v<g.2.length->((∀k,k<v->FQ g k≠FQ g v)->bI (gM g v b) 1000 0=b ((v:Int)+1))∧(¬(∀k,k<v->FQ g k≠FQ g v)->bI (gM g v b) 1000 0=some false):=by
  intro v b e;refine yB v _ (λk a B c=> ?_) (λk a B c=> ?_) (λa=> ?_) 1000 (by omega)
  ·unfold gM;rw[if_pos (by omega),cB (by omega),cB (by omega),if_neg c,wr (by omega) (by omega)]
  ·unfold gM;rw[if_pos (by omega),cB (by omega),cB (by omega),if_pos (zAk.1 c)]
  ·unfold gM tX;rw[if_neg (by omega),wr (by omega) (by omega)]
 have l:=yB (step:=fT 1000 g) (K:=nZ 1000 g ()) (bad:=false) g.2.length (Kt g) (λv b e c=> ?_) (λv b e c=> ?_) (λb=> ?_) 1000 (by omega)
 rotate_left
 ·unfold fT mD;rw[if_pos (by omega),cB (by omega),tY,zAc c.id,bD Z,if_neg (by simp),cB (by omega),if_neg (show¬((g.2.length:Int)<=((row g v).length:Int))from by have:=c.deg;omega),cB (by omega),(sF (row g v) v g.2.length (by have:=c.deg;omega) (by omega)).1 c.links,bD Z,if_neg (by simp)];exact(o v b e).1 c.ids
 ·unfold fT mD;rw[if_pos (by omega),cB (by omega),tY];by_cases w:0<=FQ g v∧FQ g v<=255
  rotate_left
  ·rw[zA8 w];rfl
  rw[zAc w,bD Z,if_neg (by simp),cB (by omega)];by_cases H:(row g v).length<g.2.length
  rotate_left
  ·rw[if_pos (show(g.2.length:Int)<=((row g v).length:Int) by omega)];rfl
  rw[if_neg (show¬(g.2.length:Int)<=((row g v).length:Int) by omega),cB (by omega)];by_cases x:pT (row g v) v g.2.length
  rotate_left
  ·rw[(sF (row g v) v g.2.length (by omega) (by omega)).2 x];rfl
  rw[(sF (row g v) v g.2.length (by omega) (by omega)).1 x,bD Z,if_neg (by simp)];exact(o v b e).2 λI=>c ⟨w,H,x,I⟩
 ·unfold fT;rw[if_neg (by omega)]
 by_cases p:∀v,v<g.2.length->Kt g v
 rotate_left
 ·exact⟨λh=>absurd h.node p,λ_=>l.2 p⟩
 rw[l.1 p];unfold nZ;have f:∀(v:Nat) (b:Int->Option Bool),v<g.2.length->((∀i,i<(row g v).length->zA g v i)->bI (eV 1000 g v b) 1000 0=b ((v:Int)+1))∧(¬(∀i,i<(row g v).length->zA g v i)->bI (eV 1000 g v b) 1000 0=some false):=by
  intro v b e;have M:=(p v e).deg;have n:∀(i:Nat) a,i<(row g v).length->(zA g v i->eV 1000 g v b i a=a ((i:Int)+1))∧(¬zA g v i->eV 1000 g v b i a=some false):=by
   intro i a r;unfold eV;rw[cB (by omega),if_pos (show(i:Int)<((row g v).length:Int) by omega),cB (by omega),cB (show 0<=(i:Int)∧(i:Int)<((row g v).length:Int) by omega)];have O:=((p v e).links i r).1;obtain⟨u,F⟩:∃u:Nat,(fQ (row g v) i).1=u:=⟨(fQ (row g v) i).1.toNat,by omega⟩
   have q:u<g.2.length:=by omega
   unfold zA;rw[show(at' (at' g.2 (v:Int)) (i:Int))=fQ (row g v) i from rfl,F,LC g u v q (by have:=(p u q).deg;omega),bD Z];have E:=(p u q).links;rcases Bg (row g u) v with⟨j,t,m,A,z⟩|⟨J,z⟩
   ·rw[z,if_neg (by omega),cB (by omega),cB (show 0<=(j:Int)∧(j:Int)<((at' g.2 (u:Int)).length:Int)from⟨by omega,by have:j<(row g u).length:=t;exact_mod_cast this⟩)];unfold tW;constructor
    ·rintro⟨k,B,s,D⟩;have C:k=j:=by
      rcases zAz k j with h|h|h
      ·exact absurd s (A k h)
      ·exact h
      ·exact absurd (m.trans s.symm) ((E k B).2.2.2 j h)
     subst C;rw[if_neg (by rw[zA8];simp;exact λh=>h D),wr (by omega) (by omega)]
    ·intro h;rw[if_pos];exact zAc λN=>h ⟨j,t,m,N⟩
   ·rw[z,if_pos (by decide)];exact⟨fun⟨j,t,m,_⟩=>absurd m (J j t),λ_=>rfl⟩
  refine yB (row g v).length _ (λi a r c=>(n i a r).1 c) (λi a r c=>(n i a r).2 c) (λa=> ?_) 1000 (by omega);unfold eV tV;rw[cB (by omega),if_neg (show¬(((row g v).length:Nat):Int)<((row g v).length:Int) by omega),wr (by omega) (by omega)]
 have d:=yB (step:=fS 1000 g) (K:=some true) (bad:=false) g.2.length (λv=>∀i,i<(row g v).length->zA g v i) (λv b e c=> ?_) (λv b e c=> ?_) (λb=> ?_) 1000 (by omega)
 ·exact⟨λh=>d.1 h.sym,λh=>d.2 λL=>h ⟨y.1,y.2,G,p,L⟩⟩
 ·unfold fS;rw[if_pos (by omega)];exact(f v b e).1 c
 ·unfold fS;rw[if_pos (by omega)];exact(f v b e).2 c
 ·unfold fS tU;rw[if_neg (by omega)]
theorem Gi (c:fV) (hn:c.length<=30):(MG c->g_ 1000 c=some true)∧(¬MG c->g_ 1000 c=some false):=by
 unfold g_;have s:∀(v:Nat) (m:List ((Int×Int)×Int)) p,v<c.length->(∀z,z∈m↔PO c v 0 z)->
   (pT (at' c (v:Int)) v c.length->∃Y,(∀z,z∈Y↔PO c (v+1) 0 z)∧bI (cN c ((v:Int),m) p) 1000 ((0:Int),m)=p ((v:Int)+1,Y))∧
   (¬pT (at' c (v:Int)) v c.length->bI (cN c ((v:Int),m) p) 1000 ((0:Int),m)=some false):=by
  intro v m p F hm;have L:=Xd hn F;have S:=Zs (step:=cN c ((v:Int),m) p) (K:=λx=>p ((v:Int)+1,x.2)) (bad:=false) (at' c (v:Int)).length (Ij (at' c (v:Int)) v c.length) (λi x=>x.1=(i:Int)∧∀z,z∈x.2↔PO c v i z) 1000 ?_ ?_ ?_ 1000 ((0:Int),m) ⟨rfl,hm⟩ (by omega) L
  ·refine⟨λh=> ?_,λh=>S.2 h⟩
   obtain⟨x,⟨ah,ae⟩,f⟩:=S.1 h;refine⟨x.2,λz=>(ae z).trans ⟨?_,?_⟩,f⟩
   ·rintro⟨a,b,y,e,l⟩;exact⟨a,b,by omega,e,l⟩
   ·rintro⟨a,b,y,e,l⟩;refine⟨a,b,?_,e,l⟩
    by_cases X:a=v
    ·subst X;exact .inr ⟨rfl,e⟩
    ·omega
  ·rintro i ⟨H,g⟩ I N ac ⟨f,d⟩ ⟨p1,p2,p3,p4⟩;dsimp only at f d;subst f;have q:nC (((v:Int),(fQ (at' c (v:Int)) i).1)) g=none:=by
    apply IE;intro w hw;obtain⟨a,b,y,e,l⟩:=(d _).1 hw;simp only[Prod.mk.injEq]at l;obtain⟨⟨C,A⟩,_⟩:=l;have:a=v:=by omega
    subst this;have hb:b<i:=by omega
    exact p4 b hb A.symm
   refine⟨((i:Int)+1,DC (((v:Int),(fQ (at' c (v:Int)) i).1)) (fQ (at' c (v:Int)) i).2 g),⟨by simp,λz=> ?_⟩,?_⟩
   ·dsimp only;rw[QJ q,d];constructor
    ·rintro(rfl|⟨a,b,y,e,l⟩)
     ·exact⟨v,i,.inr ⟨rfl,by omega⟩,N,rfl⟩
     ·exact⟨a,b,by omega,e,l⟩
    ·rintro⟨a,b,y,e,l⟩;by_cases J:a=v∧b=i
     ·left;rw[l,J.1,J.2]
     ·right;exact⟨a,b,by omega,e,l⟩
   ·replace p1:0<=(at' (at' c (v:Int)) (i:Int)).1∧(at' (at' c (v:Int)) (i:Int)).1<=(c.length:Int) - 1:=p1;replace p3:1<=(at' (at' c (v:Int)) (i:Int)).2∧(at' (at' c (v:Int)) (i:Int)).2<=15:=p3;unfold cN iG jR;dsimp only;rw[if_pos (by omega),cB (by omega),if_neg (by omega),if_neg (by omega),if_neg (by rw[zA8 p2];simp),if_neg (by omega),if_neg (by rw[zA8 (by omega)];simp),q,if_neg (by simp),wr (by omega) (by omega)]
  ·rintro i ⟨H,g⟩ I N ac ⟨f,d⟩ Q;dsimp only at f d;subst f;unfold cN iG jR;dsimp only;rw[if_pos (by omega),cB (by omega)];by_cases y:(fQ (at' c (v:Int)) i).1<0
   ·rw[if_pos y,if_pos Z]
   rw[if_neg y];by_cases e:(c.length:Int)<=(fQ (at' c (v:Int)) i).1
   ·rw[if_pos e,if_pos Z]
   rw[if_neg e];by_cases l:(fQ (at' c (v:Int)) i).1=v
   ·rw[if_pos (zAc l)]
   rw[if_neg (by rw[zA8 l];simp)];by_cases C:(fQ (at' c (v:Int)) i).2<1
   ·rw[if_pos C,if_pos Z]
   rw[if_neg C];by_cases A:15<(fQ (at' c (v:Int)) i).2
   ·rw[if_pos (zAc A)]
   rw[if_neg (by rw[zA8 A];simp)];have:∃k,k<i∧(fQ (at' c (v:Int)) k).1=(fQ (at' c (v:Int)) i).1:=by
    apply Classical.byContradiction;intro hc;exact Q ⟨by omega,l,by omega,λk O M=>hc ⟨k,O,M⟩⟩
   obtain⟨k,O,M⟩:=this;have n:=(d _).2 ⟨v,k,.inr ⟨rfl,O⟩,by omega,rfl⟩;rw[if_pos];rw[<-M];cases q:nC (((v:Int),(fQ (at' c (v:Int)) k).1)) g with
   |some w=>rfl
   | none => exact absurd n (by
     intro n;exact vH q n)
  ·rintro⟨H,g⟩ I ⟨f,d⟩ _;dsimp only at f d;subst f;unfold cN nL;dsimp only;rw[if_neg (by omega),wr (by omega) (by omega)]
 have t:=Hx (step:=dA 1000 c) (K:=λx=>jQ x.2) (bad:=false) c.length (λv=>pT (at' c (v:Int)) v c.length) (λv x=>x.1=(v:Int)∧∀z,z∈x.2↔PO c v 0 z) ?_ ?_ ?_ 1000 ((0:Int),[]) ⟨rfl,λz=>⟨λh=>(by cases h),fun⟨a,b,y,_⟩=>(by omega)⟩⟩ (by omega)
 rotate_left
 ·rintro v ⟨H,g⟩ p F ⟨f,d⟩ Q;dsimp only at f d;subst f;obtain⟨Y,y,e⟩:=(s v g p F d).1 Q;refine⟨((v:Int)+1,Y),⟨by simp,y⟩,?_⟩
  ·unfold dA;dsimp only;rw[if_pos (by omega),cB (by omega)];exact e
 ·rintro v ⟨H,g⟩ p F ⟨f,d⟩ Q;dsimp only at f d;subst f;unfold dA;dsimp only;rw[if_pos (by omega),cB (by omega)];exact(s v g p F d).2 Q
 ·rintro⟨H,g⟩ p ⟨f,d⟩;dsimp only at f d;subst f;unfold dA;dsimp only;rw[if_neg (by omega)]
 by_cases D:∀v,v<c.length->pT (at' c (v:Int)) v c.length
 rotate_left
 ·exact⟨λh=>absurd h.1 D,λ_=>t.2 D⟩
 obtain⟨⟨H,g⟩,⟨f,d⟩,M⟩:=t.1 D;rw[M];dsimp only at d ⊢;have O:jQ g=some (decide (∀z∈g,¬(Option.getD (nC (z.1.2,z.1.1) g) (0:Int))≠z.2)):=Lr (λz:(Int×Int)×Int=>(Option.getD (nC (z.1.2,z.1.1) g) (0:Int))≠z.2) g;rw[O];have E:(∀z∈g,¬(Option.getD (nC (z.1.2,z.1.1) g) (0:Int))≠z.2)↔∀v,v<c.length->∀i,i<(at' c (v:Int)).length->zA ([],c) v i:=by
  constructor
  ·intro h v F i N;have hw:=(D v F i N).2.2.1;have n:=(d (((v:Int),(fQ (at' c (v:Int)) i).1),(fQ (at' c (v:Int)) i).2)).2 ⟨v,i,.inl F,N,rfl⟩;have e:=zAk.1 (h _ n);dsimp only at e;cases q:nC ((fQ (at' c (v:Int)) i).1,(v:Int)) g with
   |none=>rw[q]at e;simp only[Option.getD]at e;omega
   | some w =>
    rw[q]at e;simp only[Option.getD]at e;obtain⟨a,b,l,C,A⟩:=(d _).1 (CQ q);simp only[Prod.mk.injEq]at A;obtain⟨⟨U,V⟩,h8⟩:=A;refine⟨b,?_,?_,?_⟩
    ·show b<(at' c (fQ (at' c (v:Int)) i).1).length;rw[U];exact C
    ·show(fQ (at' c (fQ (at' c (v:Int)) i).1) b).1=v;rw[U];exact V.symm
    ·show(fQ (at' c (fQ (at' c (v:Int)) i).1) b).2=(fQ (at' c (v:Int)) i).2;rw[U,<-h8];exact e
  ·intro h z hz ad;obtain⟨a,b,l,C,rfl⟩:=(d z).1 hz;have X:a<c.length:=by omega
   apply ad;obtain⟨j,r,o,B⟩:=h a X b C;have hu:=(D a X b C).1;obtain⟨u,R⟩:∃u:Nat,(fQ (at' c (a:Int)) b).1=u:=⟨(fQ (at' c (a:Int)) b).1.toNat,by omega⟩
   replace r:j<(at' c (fQ (at' c (a:Int)) b).1).length:=r;replace o:(fQ (at' c (fQ (at' c (a:Int)) b).1) j).1=a:=o;replace B:(fQ (at' c (fQ (at' c (a:Int)) b).1) j).2=(fQ (at' c (a:Int)) b).2:=B;rw[R]at r o B;have G:u<c.length:=by omega
   dsimp only;rw[R,<-B];have n:=(d (((u:Int),(fQ (at' c (u:Int)) j).1),(fQ (at' c (u:Int)) j).2)).2 ⟨u,j,.inl G,r,rfl⟩;rw[o]at n;cases q:nC ((u:Int),(a:Int)) g with
   |none=>exact absurd n (vH q)
   | some w =>
    obtain⟨a',T,af,aa,A⟩:=(d _).1 (CQ q);simp only[Prod.mk.injEq]at A;obtain⟨⟨U,V⟩,h8⟩:=A;have:a'=u:=by omega
    subst this;have ab:T=j:=by
     rcases zAz T j with P|P|P
     ·exact absurd (V.symm.trans o.symm) ((D a' G j r).2.2.2 T P)
     ·exact P
     ·exact absurd (o.trans V) ((D a' G T aa).2.2.2 j P)
    subst ab;exact h8
 by_cases W:∀v,v<c.length->∀i,i<(at' c (v:Int)).length->zA ([],c) v i
 ·rw[zAc (E.2 W)];exact⟨λ_=>rfl,λh=>absurd ⟨D,W⟩ h⟩
 ·rw[zA8 (λh=>W (E.1 h))];exact⟨λh=>absurd h.2 W,λ_=>rfl⟩
theorem NF (g:GR):(VG g->gQ 1000 g=some true)∧(¬VG g->gQ 1000 g=some false):=by
 unfold gQ qR qS;by_cases e:g.1.length<1
 ·rw[if_pos (by omega)];exact⟨λh=>by have:=h.n1;have:=h.len;omega,λ_=>rfl⟩
 rw[if_neg (by omega)];by_cases f:24<g.1.length
 ·rw[if_pos (by omega)];exact⟨λh=>by have:=h.n24;have:=h.len;omega,λ_=>rfl⟩
 rw[if_neg (by omega)];by_cases d:g.1.length=g.2.length
 rotate_left
 ·rw[zAc (by omega)];exact⟨λh=>absurd h.len d,λ_=>rfl⟩
 rw[zA8 (by omega),if_neg (by simp)];by_cases b:∀k,k<g.1.length->Xw g.1 k
 rotate_left
 ·rw[(vW g.1 (by omega)).2 b,bD Z];exact⟨λh=>absurd (λk i=>⟨(h.node k (by omega)).id,(h.node k (by omega)).ids⟩) b,λ_=>rfl⟩
 rw[(vW g.1 (by omega)).1 b,bD Z,if_pos Z];by_cases a:MG g.2
 ·rw[(Gi g.2 (by omega)).1 a];exact⟨λ_=>rfl,λh=>absurd ⟨by omega,by omega,d,λv c=>⟨(b v (by omega)).1,Tg c (a.1 v c),a.1 v c,(b v (by omega)).2⟩,a.2⟩ h⟩
 ·rw[(Gi g.2 (by omega)).2 a];exact⟨λh=>absurd ⟨λv c=>(h.node v c).links,h.sym⟩ a,λ_=>rfl⟩
abbrev PI:=Er
theorem xK (v m:Int) (g:1<=m) (h:m<=4611686018427387904):iK 1000 v m=some (v%m):=by
 unfold iK sB;rw[if_neg (by omega),cB (by omega)];have c:=Int.tmod_eq_emod (a:=v) (b:=m);have f:=Int.emod_nonneg v (show m≠0 by omega);have i:=Int.emod_lt_of_pos v (show 0<m by omega);by_cases e:0<=v∨m∣v
 ·rw[if_pos e]at c;have d:v.tmod m=v%m:=by simpa using c
  rw[d,if_neg (by omega)]
 ·rw[if_neg e]at c;have:(m.natAbs:Int)=m:=by omega
  rw[c,if_pos (by omega),wr (by omega) (by omega)];congr 1;omega
theorem Qd (l:aR) (i:Int) (h:0<=i):tR 1000 l i=some (at' l i):=by
 unfold tR;by_cases a:i<(l.length:Int)
 ·rw[if_pos a,cB ⟨h,a⟩]
 ·rw[if_neg a];unfold at';rw[zA1,zAp (by omega)];rfl
theorem QR {i:Type} [DecidableEq i]:∀(e c:List i),e.Nodup->(∀x∈e,x∈c)->e.length<=c.length
 | [],_,_,_=>Nat.zero_le _
 | a :: t, c, hn, hs => by
  have b:=zB8.1 hn;have f:=hs a (zA7 ..);have:=QR t (c.erase a) b.2 λx h=>by
   have d:x≠a:=λj=>b.1 (j▸h);exact(List.mem_erase_of_ne d).2 (hs x (zAe _ h))
  rw[List.length_erase_of_mem f]at this;have g:0<c.length:=List.length_pos_of_mem f;simp only[zAh];omega
theorem aas (d:Int) (c:aR) (t:Nat) (k:t<=200) (h:∀s,s<t->(d+(s:Int))%256∈c):t<=c.length:=by
 have:=QR ((List.range t).map λs:Nat=>(d+(s:Int))%256) c (by
  rw[List.nodup_iff_pairwise_ne,List.pairwise_map];refine List.Pairwise.imp_of_mem ?_ List.pairwise_lt_range;intro a b e g f;rw[zAg]at e g;omega) (λx j=>by
  obtain⟨s,i,rfl⟩:=zAw.1 j;exact h s (zAg.1 i))
 simpa using this
structure Kj (ids:aR):Prop where
 rng:∀y∈ids,0<=y∧y<=255
 nd:ids.Nodup
theorem Kj.snoc {c:aR} {y:Int} (h:Kj c) (j:0<=y∧y<=255) (i:y∉c):Kj (c++[y]):=by
 refine⟨λz d=> ?_,?_⟩
 ·rcases List.mem_append.1 d with d|d
  ·exact h.rng z d
  ·rw[List.mem_singleton.1 d];exact j
 ·rw[List.nodup_append];refine⟨h.nd,by simp,?_⟩
  intro a e b f;rw[List.mem_singleton.1 f];exact λg=>i (g▸e)
theorem CP {a:Type} [Inhabited a] {l:List a} {i:Nat} (h:i<l.length):at' l (i:Int)∈l:=by
 rw[gG,zA1,zA0 h];exact List.getElem_mem h
theorem Fw {a:Type} [Inhabited a] {l:List a} {x:a} (h:x∈l):∃i,i<l.length∧at' l ((i:Nat):Int)=x:=by
 obtain⟨i,b,c⟩:=List.getElem_of_mem h;refine⟨i,b,?_⟩
 rw[gG,zA1,zA0 b];exact c
theorem Zb {Q:List Int×fV->Prop} {a:aR} (H:a.length<=24) (b:Int) (r:lL->Option (List Int×fV))
  (m:∀y,0<=y->y<=255->y∉a->OK Q (r ((a.length:Int)+1,a++[y]))):OK Q (bI (lW ((a.length:Int),a) r) 1000 (b%256,0)):=by
 refine yC (λs:gE=>∃(t u:Nat),s.1=(b+(t:Int))%256∧s.2=u∧u<=a.length∧t<=a.length∧(∀k,k<t->(b+(k:Int))%256∈a)∧∀j,j<u->at' a (j:Int)≠s.1)
  (λs=>(a.length - ((s.1 - b)%256).toNat)*30+(a.length - s.2.toNat)) ?_ 1000 _ ⟨0,0,by simp,rfl,by omega,by omega,λk p=>by omega,λj o=>by omega⟩ ?_
 ·rintro⟨i,j⟩ z ⟨t,u,g,v,F,C,w,l⟩ d;dsimp only at g v l;subst v;unfold lW tD lV;dsimp only;by_cases x:(u:Int)<(a.length:Int)
  ·rw[if_pos x,cB (by omega)];by_cases f:at' a (u:Int)=i
   ·rw[if_pos f,cB (by decide)];have n:(b+(t:Int))%256∈a:=by rw[<-g,<-f];exact CP (by omega)
    have c:∀k,k<t+1->(b+(k:Int))%256∈a:=λk p=>by
     rcases Nat.lt_succ_iff_lt_or_eq.1 p with h|h
     ·exact w k h
     ·subst h;exact n
    have E:=aas b a (t+1) (by omega) c;have G:0<=i∧i<=255:=by omega
    rw[wr (by omega) (by omega),Int.tmod_eq_emod_of_nonneg (by omega),wr (by omega) (by omega)];refine d _ ⟨t+1,0,?_,by simp,by omega,E,c,λj o=>by omega⟩ ?_
    ·dsimp only;omega
    ·dsimp only;have A:((i+1)%256 - b)%256=(t:Int)+1:=by omega
     have B:(i - b)%256=(t:Int):=by omega
     rw[A,B];omega
   ·rw[if_neg f,wr (by omega) (by omega)];refine d _ ⟨t,u+1,g,by dsimp only;omega,by omega,C,w,λj o=> ?_⟩ ?_
    ·rcases Nat.lt_succ_iff_lt_or_eq.1 o with h|h
     ·exact l j h
     ·subst h;exact f
    ·dsimp only;omega
  ·rw[if_neg x];rw[cB (by simp;omega),wr (by omega) (by omega)];refine m i (by omega) (by omega) λD=> ?_;obtain⟨k,p,q⟩:=Fw D;exact l k (by omega) q
 ·dsimp only;have e:(b%256 - b)%256=0:=by omega
  rw[e];omega
theorem ZM (x:PI) (a:Nat) (u:1<=a) (k:a<=24):OK (λg:GR=>Kj g.1∧g.2=List.replicate g.1.length []∧1<=g.1.length∧g.1.length<=a) (pZ 1000 x (a:Int)):=by
 unfold pZ;rw[bD (xK _ _ (by omega) (by omega))];generalize f:(wI .i64 (x.1 - 1))%(a:Int)=r;have m:0<=r:=by rw[<-f];exact Int.emod_nonneg _ (by omega)
 have n:r<a:=by rw[<-f];exact Int.emod_lt_of_pos _ (by omega)
 have i:wI .i64 (1+r)=1+r:=wr (by omega) (by omega);rw[i,cB (by omega)];refine yC (λs:lL=>s.1=(s.2.length:Int)∧(s.2.length:Int)<=1+r∧Kj s.2) (λs=>(1+r - s.1).toNat) ?_ 1000 _ ⟨rfl,by simp;omega,⟨λy o=>by simp at o,List.nodup_nil⟩⟩ (by dsimp only;omega);rintro⟨v,d⟩ j ⟨e,l,c⟩ b;dsimp only at e l c;subst e;unfold jV o_;dsimp only;rw[i];by_cases h:(d.length:Int)<1+r
 ·rw[if_pos h,bD (Qd _ _ (by omega)),bD (xK _ _ (by decide) (by decide))];exact Zb (by omega) _ j λy p q t=>b _ ⟨by simp,by simp;omega,c.snoc ⟨p,q⟩ t⟩ (by dsimp only;omega)
 ·rw[if_neg h];refine⟨_,rfl,c,?_,by dsimp only;omega,by dsimp only;omega⟩
  dsimp only;congr 1;omega
structure VM (ids:aR) (P:fV):Prop where
 n1:1<=P.length
 n24:P.length<=24
 len:ids.length=P.length
 ok:Kj ids
 nd:∀v:Nat,v<P.length->((at' P (v:Int)).map Prod.fst).Nodup
 lk:∀v:Nat,v<P.length->∀x∈at' P (v:Int),(0<=x.1∧x.1<=(P.length:Int) - 1)∧x.1≠(v:Int)∧(1<=x.2∧x.2<=15)∧((v:Int),x.2)∈at' P x.1
theorem ZN {d:Type} [Inhabited d] {l:List d} (h:l.Nodup) {i j:Nat} (b:i<l.length) (c:j<l.length) (a:i<j):at' l (i:Int)≠at' l (j:Int):=by
 rw[gG,gG,zA1,zA1,zA0 b,zA0 c];exact List.pairwise_iff_getElem.1 (List.nodup_iff_pairwise_ne.1 h) i j b c a
theorem VM.vg {ids:aR} {P:fV} (h:VM ids P):VG (ids,P):=by
 have hlen:=h.len;have links:∀v,v<P.length->pT (row (ids,P) v) v P.length:=by
  intro v hv i hi;have hm:fQ (row (ids,P) v) i∈at' P (v:Int):=CP hi;obtain⟨a1,a2,a3,_⟩:=h.lk v hv _ hm;refine⟨a1,a2,a3,λk hk=> ?_⟩
  have hk2:k<(row (ids,P) v).length:=by omega
  have:=List.pairwise_iff_getElem.1 (List.nodup_iff_pairwise_ne.1 (h.nd v hv)) k i (by simpa using hk2) (by simpa using hi) hk;rw[List.getElem_map,List.getElem_map]at this;have e:∀j (hj:j<(row (ids,P) v).length),fQ (row (ids,P) v) j=(at' P (v:Int))[j]'hj:=λj hj=>by
   unfold fQ;rw[gG,zA1,zA0 hj];rfl
  rw[e k hk2,e i hi];exact this
 refine⟨h.n1,h.n24,h.len,λv hv=>⟨?_,Tg hv (links v hv),links v hv,λk hk=> ?_⟩,λv hv i hi=> ?_⟩
 ·exact h.ok.rng _ (CP (by dsimp only at hv ⊢;omega))
 ·exact ZN h.ok.nd (by dsimp only at hv ⊢;omega) (by dsimp only at hv ⊢;omega) hk
 ·have hm:fQ (row (ids,P) v) i∈at' P (v:Int):=CP hi;obtain⟨_,_,_,a4⟩:=h.lk v hv _ hm;obtain⟨j,hj,he⟩:=Fw a4;exact⟨j,hj,by unfold fQ;rw[he],by unfold fQ;rw[he]⟩
theorem VM.start {a:aR} (h:Kj a) (d:1<=a.length) (b:a.length<=24):VM a (List.replicate a.length []):=by
 have e:∀v:Nat,at' (List.replicate a.length ([]:fZ)) (v:Int)=[]:=λv=>by
  rw[gG,zA1,List.getElem?_replicate];split<;>rfl
 refine⟨by simpa using d,by simpa using b,by simp,h,λv _=>by rw[e];exact List.nodup_nil,λv _ x c=> ?_⟩
 rw[e]at c;cases c
def nE (P:fV) (v u:Nat):Prop:=∃x∈at' P (v:Int),x.1=(u:Int)
theorem Nh (d:aR) (P:fV) (a b:Nat) (u:a<P.length) (w:(at' P (a:Int)).length<=900):(nE P a b->nV 1000 (d,P) a b=some true)∧(¬nE P a b->nV 1000 (d,P) a b=some false):=by
 have c:∀(r:Bool),(r=true->nE P a b)->(r=false->¬nE P a b)->nV 1000 (d,P) a b=some r:=by
  intro r q p;unfold nV;refine Bb (λi:Int=>∃k:Nat,i=k∧k<=(at' P (a:Int)).length∧∀j,j<k->(at' (at' P (a:Int)) ((j:Nat):Int)).1≠(b:Int)) (λi=>(at' P (a:Int)).length - i.toNat) ?_ 1000 0 ⟨0,rfl,by omega,λj m=>by omega⟩ (by omega);rintro i t ⟨k,rfl,v,f⟩ g;unfold AR wQ;dsimp only;rw[cB (by omega)];by_cases o:(k:Int)<((at' P (a:Int)).length:Int)
  ·rw[if_pos o,cB (by omega),cB (by omega)];by_cases e:(at' (at' P (a:Int)) (k:Int)).1=(b:Int)
   ·rw[if_pos e];cases r with
    |true=>rfl
    |false=>exact absurd ⟨_,CP (by omega),e⟩ (p Z)
   ·rw[if_neg e,wr (by omega) (by omega)];refine g _ ⟨k+1,by omega,by omega,λj m=> ?_⟩ (by omega);rcases Nat.lt_succ_iff_lt_or_eq.1 m with h|h
    ·exact f j h
    ·subst h;exact e
  ·rw[if_neg o];cases r with
   |false=>rfl
   |true=>
    obtain⟨x,s,e⟩:=q Z;obtain⟨j,m,n⟩:=Fw s;exact absurd (by rw[n];exact e) (f j (by omega))
 exact⟨λh=>c true (λ_=>h) (λl=>by cases l),λh=>c false (λl=>by cases l) (λ_=>h)⟩
theorem abv (P:fV) (a b:Nat) (x y:fZ) (e:a<P.length) (f:b<P.length) (v:Nat):at' ((P.set a x).set b y) (v:Int)=if v=b then y else if v=a then x else at' P (v:Int):=by
 rw[gG,gG,zA1,zA1,List.getElem?_set,List.getElem?_set];by_cases h:v=b
 ·subst h;rw[if_pos Z,if_pos Z,if_pos (by simpa using f)];rfl
 ·rw[if_neg (λd=>h d.symm),if_neg h];by_cases c:v=a
  ·subst c;rw[if_pos Z,if_pos Z,if_pos e];rfl
  ·rw[if_neg (λd=>c d.symm),if_neg c]
theorem VM.add {m:aR} {P:fV} (h:VM m P) {a b:Nat} {w:Int} (J:a<P.length) (A:b<P.length) (p:a≠b) (B:¬nE P a b) (D:1<=w∧w<=15)
  {x y:fZ} (E:x.Perm (((b:Int),w)::at' P (a:Int))) (F:y.Perm (((a:Int),w)::at' P (b:Int))):
  VM m ((P.set a x).set b y)∧(∀v u,nE P v u->nE ((P.set a x).set b y) v u)∧nE ((P.set a x).set b y) a b:=by
 have r:¬nE P b a:=by
  rintro⟨z,g,i⟩;obtain⟨_,_,_,l⟩:=h.lk b A z g;rw[i]at l;exact B ⟨_,l,rfl⟩
 have C:=abv P a b x y J A;have k:((P.set a x).set b y).length=P.length:=by simp
 have d:∀(v:Nat) (z:gE),z∈at' ((P.set a x).set b y) (v:Int)↔z∈at' P (v:Int)∨(v=b∧z=((a:Int),w))∨(v=a∧z=((b:Int),w)):=by
  intro v z;rw[C v];by_cases f:v=b
  ·subst f;rw[if_pos Z,F.mem_iff,zAo];constructor
   ·rintro(c|c)
    ·exact .inr (.inl ⟨rfl,c⟩)
    ·exact .inl c
   ·rintro(c|⟨_,c⟩|⟨e,_⟩)
    ·exact .inr c
    ·exact .inl c
    ·exact absurd e.symm p
  ·rw[if_neg f];by_cases c:v=a
   ·subst c;rw[if_pos Z,E.mem_iff,zAo];constructor
    ·rintro(e|e)
     ·exact .inr (.inr ⟨rfl,e⟩)
     ·exact .inl e
    ·rintro(e|⟨n,_⟩|⟨_,e⟩)
     ·exact .inr e
     ·exact absurd n f
     ·exact .inl e
   ·rw[if_neg c];exact⟨.inl,λe=>e.elim id λn=>n.elim (λo=>absurd o.1 f) λo=>absurd o.1 c⟩
 refine⟨⟨by rw[k];exact h.n1,by rw[k];exact h.n24,by rw[k];exact h.len,h.ok,λv j=> ?_,λv j z g=> ?_⟩,λv u s=> ?_,?_⟩
 ·rw[k]at j;rw[C v];by_cases f:v=b
  ·subst f;rw[if_pos Z,(F.map Prod.fst).nodup_iff,zB3,zB8];exact⟨λq=>by obtain⟨z,g,i⟩:=zAw.1 q;exact r ⟨z,g,i⟩,h.nd v j⟩
  ·rw[if_neg f];by_cases c:v=a
   ·subst c;rw[if_pos Z,(E.map Prod.fst).nodup_iff,zB3,zB8];exact⟨λq=>by obtain⟨z,g,i⟩:=zAw.1 q;exact B ⟨z,g,i⟩,h.nd v j⟩
   ·rw[if_neg c];exact h.nd v j
 ·rw[k]at j ⊢;rcases(d v z).1 g with f|⟨rfl,rfl⟩|⟨rfl,rfl⟩
  ·obtain⟨G,H,I,t⟩:=h.lk v j z f;refine⟨G,H,I,?_⟩
   obtain⟨u,K⟩:∃u:Nat,z.1=u:=⟨z.1.toNat,by omega⟩
   rw[K]at t ⊢;exact(d u _).2 (.inl t)
  ·exact⟨by dsimp only;omega,by dsimp only;omega,D,(d a _).2 (.inr (.inr ⟨rfl,rfl⟩))⟩
  ·exact⟨by dsimp only;omega,by dsimp only;omega,D,(d b _).2 (.inr (.inl ⟨rfl,rfl⟩))⟩
 ·obtain⟨z,g,i⟩:=s;exact⟨z,(d v z).2 (.inl g),i⟩
 ·exact⟨_,(d a _).2 (.inr (.inr ⟨rfl,rfl⟩)),rfl⟩
theorem Vh (x:PI) {c:aR} {P:fV} (h:VM c P) {a b:Nat} {w:Int} (g:a<P.length) (m:b<P.length) (o:1<=w∧w<=15):
  ∃f,nP 1000 x (c,P) a b w=some f∧VM c f∧f.length=P.length∧(∀v u,nE P v u->nE f v u)∧(a≠b->nE f a b):=by
 have p:=h.n24;have n:∀v:Nat,v<P.length->(at' P (v:Int)).length<24:=λv s=>by
  have:=(h.vg.node v s).deg;have e:(at' P (v:Int)).length=(row (c,P) v).length:=rfl;dsimp only at this;omega
 have t:=n a g;have z:=n b m;unfold nP;by_cases d:a=b
 ·subst d;rw[if_pos Z];exact⟨P,rfl,h,rfl,λ_ _ h=>h,λr=>absurd Z r⟩
 rw[if_neg (by omega)];by_cases i:nE P a b
 ·rw[bD ((Nh c P a b g (by omega)).1 i)];exact⟨P,rfl,h,rfl,λ_ _ h=>h,λ_=>i⟩
 rw[bD ((Nh c P a b g (by omega)).2 i)];unfold pV;rw[if_neg (by simp)];dsimp only;cases q:x.2.2.2.2.2 with
 | true =>
  rw[if_pos Z];have e:at' (P.set (Int.toNat (a:Int)) ([((b:Int),w)]++at' P (a:Int))) (b:Int)=at' P (b:Int):=by
   rw[gG,zA1,List.getElem?_set,if_neg (by simpa using d),gG,zA1]
  rw[e];rw[cB (by omega),cB (by simp;omega),cB (by omega),cB (by simp;omega),cB (by simp;omega),cB (by simp;omega)];obtain⟨j,k,l⟩:=h.add g m d i o (List.Perm.refl _) (List.Perm.refl _);exact⟨_,rfl,j,by simp,k,λ_=>l⟩
 |false=>
  rw[if_neg (by simp)];rw[cB (by omega),cB (by omega),cB (by simp;omega),cB (by simp;omega),cB (by simpa using d),cB (by simp;omega),cB (by simp;omega)];obtain⟨j,k,l⟩:=h.add g m d i o (x:=at' P (a:Int)++[((b:Int),w)]) (y:=at' P (b:Int)++[((a:Int),w)]) List.perm_append_comm List.perm_append_comm;exact⟨_,rfl,j,by simp,k,λ_=>l⟩
theorem NG (v:Int):wI .i64 (1+v%15)=1+v%15∧1<=1+v%15∧1+v%15<=15:=by
 have:=Int.emod_nonneg v (show(15:Int)≠0 by decide);have:=Int.emod_lt_of_pos v (show(0:Int)<15 by decide);exact⟨wr (by omega) (by omega),by omega,by omega⟩
theorem ads (x:PI) (c:Nat) (F:1<=c) (m:c<=24):
  OK (λg:GR=>VM g.1 g.2∧g.2.length<=c∧∀v:Nat,1<=v->v<g.2.length->∃u:Nat,u<v∧nE g.2 u v) (nO 1000 x (c:Int)):=by
 unfold nO;obtain⟨⟨d,S⟩,D,h,z,e,q⟩:=ZM x c F m;dsimp only at z h e q;rw[bD D];dsimp only;subst z;have r:=VM.start h e (by omega);refine yC (λs:Int×fV=>∃k:Nat,s.1=k∧1<=k∧k<=d.length∧VM d s.2∧s.2.length=d.length∧∀v:Nat,1<=v->v<k->∃u:Nat,u<v∧nE s.2 u v) (λs=>d.length - s.1.toNat) ?_ 1000 _ ⟨1,rfl,by omega,e,r,by simp,λv l f=>by omega⟩ (by dsimp only;omega);rintro⟨i,P⟩ T ⟨k,B,H,I,p,G,o⟩ j;dsimp only at B p G o;subst B;unfold uS pU;dsimp only;by_cases A:(k:Int)<(P.length:Int)
 ·rw[if_pos A,wr (by omega) (by omega),bD (Qd _ _ (by omega)),bD (xK _ _ (by omega) (by omega)),bD (Qd _ _ (by omega)),bD (xK _ _ (by decide) (by decide))];obtain⟨N,O,Q⟩:=NG (at' x.2.2.1 ((k:Int) - 1));rw[N];generalize C:at' x.2.1 ((k:Int) - 1)%(k:Int)=u;have U:0<=u:=by rw[<-C];exact Int.emod_nonneg _ (by omega)
  have V:u<k:=by rw[<-C];exact Int.emod_lt_of_pos _ (by omega)
  obtain⟨u,rfl⟩:∃n:Nat,u=n:=⟨u.toNat,by omega⟩
  obtain⟨R,E,K,W,L,M⟩:=Vh x p (a:=u) (b:=k) (by omega) (by omega) ⟨O,Q⟩;rw[bD E,wr (by omega) (by omega)];refine j _ ⟨k+1,by dsimp only;omega,by omega,by omega,K,by dsimp only;omega,λv l f=> ?_⟩ (by dsimp only;omega);by_cases y:v=k
  ·subst y;exact⟨u,by omega,M (by omega)⟩
  ·obtain⟨J,t,w⟩:=o v l (by omega);exact⟨J,t,L _ _ w⟩
 ·rw[if_neg A];exact⟨_,rfl,p,by dsimp only;omega,λv l f=>o v l (by dsimp only at f;omega)⟩
theorem acR (x:PI) {c:aR} {P:fV} (h:VM c P):OK (λg:GR=>VM g.1 g.2∧g.1=c∧g.2.length=P.length∧∀v u,nE P v u->nE g.2 v u) (nQ 1000 x (c,P)):=by
 unfold nQ;have z:=h.n24;have B:=h.n1;refine yC (λs:Int×fV=>∃k:Nat,s.1=k∧k<=100∧VM c s.2∧s.2.length=P.length∧∀v u,nE P v u->nE s.2 v u) (λs=>200 - s.1.toNat) ?_ 1000 _ ⟨P.length,rfl,by omega,h,rfl,λ_ _ h=>h⟩ (by dsimp only;omega);rintro⟨i,Q⟩ w ⟨k,p,A,f,o,e⟩ d;dsimp only at p f o e;subst p;have done:∀b:Bool,b=false->OK (λg:GR=>VM g.1 g.2∧g.1=c∧g.2.length=P.length∧∀v u,nE P v u->nE g.2 v u) (mP 1000 x (c,P) ((k:Int),Q) w b):=by
  rintro b rfl;exact⟨_,rfl,f,rfl,o,e⟩
 unfold pW;dsimp only;rw[wr (by omega) (by omega)];by_cases l:(k:Int)+1<(x.2.1.length:Int)
 rotate_left
 ·rw[if_neg l];exact done _ Z
 rw[if_pos l];by_cases m:(k:Int)<60
 rotate_left
 ·exact done _ (zA8 m)
 rw[zAc m];unfold mP;dsimp only;rw[if_pos Z,cB (by omega),bD (xK _ _ (by omega) (by omega)),wr (by omega) (by omega),cB (by omega),bD (xK _ _ (by omega) (by omega)),bD (Qd _ _ (by omega)),bD (xK _ _ (by decide) (by decide))];obtain⟨E,F,G⟩:=NG (at' x.2.2.1 (k:Int));rw[E];generalize r:at' x.2.1 (k:Int)%(P.length:Int)=u;have K:0<=u:=by rw[<-r];exact Int.emod_nonneg _ (by omega)
 have L:u<P.length:=by rw[<-r];exact Int.emod_lt_of_pos _ (by omega)
 obtain⟨u,rfl⟩:∃n:Nat,u=n:=⟨u.toNat,by omega⟩
 generalize q:at' x.2.1 ((k:Int)+1)%(P.length:Int)=t;have I:0<=t:=by rw[<-q];exact Int.emod_nonneg _ (by omega)
 have J:t<P.length:=by rw[<-q];exact Int.emod_lt_of_pos _ (by omega)
 obtain⟨t,rfl⟩:∃n:Nat,t=n:=⟨t.toNat,by omega⟩
 obtain⟨H,y,C,M,D,N⟩:=Vh x f (a:=u) (b:=t) (by omega) (by omega) ⟨F,G⟩;rw[bD y,wr (by omega) (by omega)];exact d _ ⟨k+2,by dsimp only;omega,by omega,C,by dsimp only;omega,λv u j=>D _ _ (e v u j)⟩ (by dsimp only;omega)
theorem Oi (x:PI) (a:Nat) (m:1<=a) (c:a<=24):
  OK (λg:GR=>VM g.1 g.2∧g.2.length<=a∧∀v:Nat,1<=v->v<g.2.length->∃u:Nat,u<v∧nE g.2 u v) (fR 1000 x (a:Int)):=by
 unfold fR;obtain⟨⟨s,P⟩,k,o,n,i⟩:=ads x a m c;obtain⟨⟨j,t⟩,l,b,p,d,h⟩:=acR x o;rw[bD k,bD l];dsimp only at n i b p d h;refine⟨_,rfl,b,by dsimp only;omega,λv r f=> ?_⟩
 obtain⟨u,q,e⟩:=i v r (by dsimp only at f;omega);exact⟨u,q,h _ _ e⟩
end Go.Proofs.YtlkhndebimcbbaaGreatDoor
namespace Go.Proofs.YtlkhndebimcbbaaGreatDoor
open Go Go.Sx
abbrev val (c:bF) (v x:Nat):Int:=at' (at' c (v:Int)) (x:Int)
def adC (g:GR) (b:Int) (v:Nat) (a:Int):Prop:=if b = -1 then -1<=a∧a<=((row g v).length:Int) - 1 else 0<=a∧a<=b
instance (g:GR) (top:Int) (v:Nat) (a:Int):Decidable (adC g top v a):=by unfold adC;infer_instance
def iO (g:GR):Nat->Int
 |0=>0
 |k+1=>max (iO g k) (at' g.1 (k:Int))
theorem Lk {g:GR} (a:VG g):∀k,k<=g.2.length->0<=iO g k∧iO g k<=255
 |0,_=>by simp[iO]
 |k+1,h=>by
  have b:=Lk a k (by omega);have c:0<=at' g.1 (k:Int)∧at' g.1 (k:Int)<=255:=(a.node k (by omega)).id;simp only[iO];omega
abbrev D_:=Fi
def Ez (x:D_):Prop:=(-100000<=x.2.2.2.1∧x.2.2.2.1<=100000)∧(0<=x.2.2.2.2.1∧x.2.2.2.2.1<=100000)∧(0<=x.2.2.2.2.2∧x.2.2.2.2.2<=100000)
def lo (g:GR) (x:D_) (v:Nat):Int:=if x.2.1=2 then 0 else if x.2.1=3 then -1 else x.2.2.1
def hi (g:GR) (x:D_) (v:Nat):Int:=if x.2.1=2 then 1 else if x.2.1=3 then((row g v).length:Int) - 1 else x.2.2.2.1+x.2.2.2.2.1*(g.2.length:Int)+x.2.2.2.2.2*iO g g.1.length
structure DY (g:GR) (c:bF) (vars:List D_):Prop where
 len:c.length=g.2.length
 row:∀v,v<g.2.length->(at' c (v:Int)).length=vars.length
 ok:∀v,v<g.2.length->∀x,x<vars.length->lo g (at' vars (x:Int)) v<=val c v x∧val c v x<=hi g (at' vars (x:Int)) v
def Ga (a b:Nat):Nat:=(BitVec.ofInt 32 (a:Int) &&& ~~~ BitVec.ofInt 32 (b:Int)).toNat
theorem Qr (a b:Nat):Ga a b<4294967296:=(BitVec.ofInt 32 (a:Int) &&& ~~~ BitVec.ofInt 32 (b:Int)).isLt
theorem Iq {a i:Nat} (b:a<4294967296) (h:a.testBit i=true):i<32:=by
 apply Classical.byContradiction;intro c;rw[Nat.testBit_lt_two_pow (zAs b (Nat.pow_le_pow_right (n:=2) (by omega) (show 32<=i by omega)))]at h;cases h
theorem MU {a b:Nat} (d:a<4294967296) (e:b<4294967296) (i:Nat):(Ga a b).testBit i=(a.testBit i && !b.testBit i):=by
 have:=BitVec.getLsbD_and (x:=BitVec.ofInt 32 (a:Int)) (y:= ~~~ BitVec.ofInt 32 (b:Int)) (i:=i);rw[BitVec.getLsbD_not]at this;have h:(Ga a b).testBit i=((PH (a:Int)).testBit i&&(decide (i<32) && !(PH (b:Int)).testBit i)):=this;rw[zR d,zR e]at h;rw[h];cases c:a.testBit i with
 |false=>simp
 |true=>simp[Iq d c]
theorem Qe (a b:Nat):vV .u32 (a:Int) (b:Int)=(Ga a b:Int):=NJ _ (Qr a b)
theorem EC {a b:Nat} (c:a<4294967296) (d:b<4294967296):eK .u32 (a:Int) (b:Int)=((a &&& b:Nat):Int):=by rw[N_,zR c,zR d]
theorem ajg {a b:Nat} (c:a<4294967296) (d:b<4294967296):Oa .u32 (a:Int) (b:Int)=((a ||| b:Nat):Int):=by rw[aew,zR c,zR d]
theorem adQ {a b:Nat} (c:a<4294967296) (d:b<4294967296):a ||| b<4294967296:=Nat.or_lt_two_pow (n:=32) c d
theorem SO {a b:Nat} (c:a<4294967296):a &&& b<4294967296:=Nat.lt_of_le_of_lt Nat.and_le_left c
theorem SQ {a k:Nat} (c:a<4294967296) (b:k<32):Oa .u32 (a:Int) (Dk .u32 1 (k:Int))=((a ||| 2^k:Nat):Int):=by rw[adH b,ajg c (Jl b)]
theorem Vi (p:Nat->Bool) {k:Nat} (a:k<=32):Cd p k<4294967296:=zAs (QI p k) (Nat.pow_le_pow_right (n:=2) (by omega) a)
theorem aly {i:Nat} (h:i<1000000):wI .i64 ((i:Int)+1)=(i:Int)+1:=wr (by omega) (by omega)
theorem VG.to {g:GR} (c:VG g) {v i:Nat} (e:v<g.2.length) (d:i<(row g v).length):∃u:Nat,u<g.2.length∧(fQ (row g v) i).1=(u:Int):=by
 obtain⟨u,a,b,_⟩:=c.port e d;exact⟨u,a,b⟩
theorem Uy {n i:Nat}:(2^n - 1).testBit i=decide (i<n):=Nat.testBit_two_pow_sub_one n i
def d0 (g:GR) (c:bF) (d v:Nat):Int:=if d.testBit v=true then at' (at' c (v:Int)) 0 else if v=0 then 0 else(g.2.length:Int)
def start (g:GR) (c:bF) (d:Nat):aR:=(List.range g.2.length).map (d0 g c d)
def tZ:List D_:=[(ByteArray.mk #[100],1,0,0,1,0),(ByteArray.mk #[112],3,0,0,0,0)]
theorem OU {a:Type} [Inhabited a] (l:List a) (x:a) {i:Nat} (b:i<l.length+1):at' (l++[x]) (i:Int)=if i<l.length then at' l (i:Int)else x:=by
 rw[gG,gG];by_cases h:i<l.length
 ·rw[if_pos h,zA1,zA1,zAa h]
 ·have:i=l.length:=by omega
  subst this;rw[if_neg h];simp
def XT (g:GR) (a:List D_) (v:Nat) (l:aR):Prop:=∀x,x<l.length->lo g (at' a (x:Int)) v<=at' l (x:Int)∧at' l (x:Int)<=hi g (at' a (x:Int)) v
theorem Wx {g:GR} (G:VG g) (d:List D_) (f:aR) (ht:d.length<=900) (U:∀x,x<d.length->Ez (at' d (x:Int)) ∧ -100000<=(at' d (x:Int)).2.2.1∧(at' d (x:Int)).2.2.1<=(at' d (x:Int)).2.2.2.1):
  OK (λc=>DY g c d) (nU 1000 g d f):=by
 have Q:=G.n24;have C:=G.len;have P:nU 1000 g d f=r_ 1000 g d f (iO g g.2.length):=by
  unfold nU;refine eL (F:=λk:Nat=>((iO g k,(k:Int)):gE)) g.2.length (λk B hk=> ?_) (λB=> ?_) 1000 (by omega)
  ·unfold wO;simp only;rw[if_pos (by omega),cB (by omega),wr (by omega) (by omega)];rfl
  ·unfold wO;simp only;rw[if_neg (by omega)]
 rw[P];obtain⟨M,X⟩:=Lk G g.2.length (by omega);unfold r_;have J:=CM (step:=kO 1000 g d f (iO g g.2.length)) (K:=λx=>some x.1) g.2.length (λv x=>x.2=(v:Int)∧x.1.length=v∧∀w,w<v->(at' x.1 (w:Int)).length=d.length∧XT g d w (at' x.1 (w:Int))) (λv x B t q=> ?_) (λx B q=> ?_) 1000 (([]:bF),(0:Int)) ⟨rfl,rfl,λw V=>by omega⟩ (by omega)
 ·obtain⟨⟨c,i⟩,⟨_,s,p⟩,I⟩:=J;exact⟨c,I,s,λv t=>(p v t).1,λv t x D=>(p v t).2 x (by rw[(p v t).1];exact D)⟩
 ·obtain⟨c,i⟩:=x;obtain⟨rfl,s,p⟩:=q;simp only at s p;have L:(at' g.2 (v:Int)).length<g.2.length:=(G.node v t).deg;unfold kO;simp only;rw[if_pos (by omega)];have E:=CM (step:=oW 1000 g d f (iO g g.2.length) (c,(v:Int)) B) (K:=λy=>B (c++[y.1],(v:Int)+1)) d.length (λx y=>y.2=(x:Int)∧y.1.length=x∧XT g d v y.1) (λx y n D q=> ?_) (λy n q=> ?_) 1000 (([]:aR),(0:Int)) ⟨rfl,rfl,λx D=>by simp at D⟩ (by omega)
  ·obtain⟨⟨l,j⟩,⟨_,h,u⟩,I⟩:=E;refine⟨(c++[l],(v:Int)+1),⟨by simp,by simp[s],λw V=> ?_⟩,I⟩
   simp only;rw[OU c l (by omega),s];by_cases e:w<v
   ·rw[if_pos e];exact p w e
   ·rw[if_neg e];have:w=v:=by omega
    subst this;exact⟨h,u⟩
  ·obtain⟨l,j⟩:=y;obtain⟨rfl,h,u⟩:=q;simp only at h u;obtain⟨⟨s1,N,O⟩,s4,s5⟩:=U x D;have o:∀a b:Int,a=lo g (at' d (x:Int)) v->b=hi g (at' d (x:Int)) v -> -100000<=a->a<=b+1->b<=100000000->(a<=b∨(a = -1∧b = -1))->∃H,(H.2=((x+1:Nat):Int)∧H.1.length=x+1∧XT g d v H.1)∧oV 1000 d f (c,(v:Int)) (l,(x:Int)) n (a,b)=n H:=by
    intro a b R T q1 q2 q3 q4;have S:a<=b:=by omega
    unfold oV;simp only;have w1:wI .i64 ((v:Int)*(d.length:Int))=(v:Int)*(d.length:Int):=by
     have Y:0<=(v:Int)*(d.length:Int):=Int.mul_nonneg (by omega) (by omega);have p2:(v:Int)*(d.length:Int)<=24*900:=Int.mul_le_mul (by omega) (by omega) (by omega) (by omega);exact wr (by omega) (by omega)
    have Y:0<=(v:Int)*(d.length:Int):=Int.mul_nonneg (by omega) (by omega);have p2:(v:Int)*(d.length:Int)<=24*900:=Int.mul_le_mul (by omega) (by omega) (by omega) (by omega);rw[w1,wr (x:=(v:Int)*(d.length:Int)+(x:Int)) (by omega) (by omega),Qd _ _ (by omega),bD Z,wr (x:=b - a) (by omega) (by omega),wr (x:=b - a+1) (by omega) (by omega),xK _ _ (by omega) (by omega),bD Z];have r1:=Int.emod_nonneg (at' f ((v:Int)*(d.length:Int)+(x:Int))) (b:=b - a+1) (by omega);have r2:=Int.emod_lt_of_pos (at' f ((v:Int)*(d.length:Int)+(x:Int))) (b:=b - a+1) (by omega);generalize at' f ((v:Int)*(d.length:Int)+(x:Int))%(b - a+1)=r at r1 r2;rw[wr (x:=a+r) (by omega) (by omega),cB (by simp;omega),wr (by omega) (by omega)];refine⟨_,⟨by simp,by simp[h],λz W=> ?_⟩,rfl⟩
    simp only[zAi,zAh,List.length_nil,h]at W;simp only;rw[OU l _ (by omega),h];by_cases e:z<x
    ·rw[if_pos e];exact u z (by omega)
    ·rw[if_neg e];have:z=x:=by omega
     subst this;rw[<-R,<-T];omega
   unfold oW;simp only;rw[if_pos (by omega),cB (by omega),cB (by omega),cB (by omega),cB (by omega),cB (by omega)];by_cases m:(at' d (x:Int)).2.1=2
   ·rw[if_pos m];exact o 0 1 (by unfold lo;rw[if_pos m]) (by unfold hi;rw[if_pos m]) (by omega) (by omega) (by omega) (by omega)
   ·rw[if_neg m];by_cases A:(at' d (x:Int)).2.1=3
    ·rw[if_pos A,cB (by omega),wr (by omega) (by omega)];exact o (-1) _ (by unfold lo;rw[if_neg m,if_pos A]) (by unfold hi;rw[if_neg m,if_pos A]) (by omega) (by omega) (by omega) (by omega)
    ·rw[if_neg A];have q1:0<=(at' d (x:Int)).2.2.2.2.1*(g.2.length:Int):=Int.mul_nonneg N.1 (by omega);have q2:(at' d (x:Int)).2.2.2.2.1*(g.2.length:Int)<=100000*24:=Int.mul_le_mul N.2 (by omega) (by omega) (by omega);have q3:0<=(at' d (x:Int)).2.2.2.2.2*iO g g.2.length:=Int.mul_nonneg O.1 M;have q4:(at' d (x:Int)).2.2.2.2.2*iO g g.2.length<=100000*255:=Int.mul_le_mul O.2 X M (by omega);rw[wr (x:=(at' d (x:Int)).2.2.2.2.1*(g.2.length:Int)) (by omega) (by omega),wr (x:=(at' d (x:Int)).2.2.2.2.2*iO g g.2.length) (by omega) (by omega),wr (x:=(at' d (x:Int)).2.2.2.1+(at' d (x:Int)).2.2.2.2.1*(g.2.length:Int)) (by omega) (by omega),wr (by omega) (by omega)];exact o _ _ (by unfold lo;rw[if_neg m,if_neg A]) (by unfold hi;rw[if_neg m,if_neg A,C]) (by omega) (by omega) (by omega) (by omega)
  ·obtain⟨l,j⟩:=y;obtain⟨rfl,h,u⟩:=q;simp only at h u;unfold oW AQ;simp only;rw[if_neg (by omega),cB (by simp;omega),wr (by omega) (by omega)]
 ·obtain⟨c,i⟩:=x;obtain⟨rfl,s,p⟩:=q;unfold kO wN;simp only;rw[if_neg (by omega)]
def low (a b:Int):Int:=if 0<=b∧(a<0∨b<a)then b else a
end Go.Proofs.YtlkhndebimcbbaaGreatDoor
namespace Go.Proofs.YtlkhndebimcbbaaGreatDoor
open Go.Sx
def Ad (a:Int) (b:Bool):Option (Int):=
 if b=true then(some (-1:Int))else(if a<=(17:Int)then(some (0:Int))else(if a<=(29:Int)then(some (1:Int))else(if a<=(42:Int)then(some (2:Int))else(some (3:Int)))))
def yL (U:Nat) (a:Int):Option (Int):=
 if a<(1:Int)then(Ad a (true))else(Ad a (decide ((43:Int)<a)))
theorem abU:aW Tryz.prog 178:=Tryz.call178
theorem Pd (U:Nat) {b:Int} (r:Int) (h:yL U b=some r):
  aY Tryz.prog 178 #[vI (b)] [] (λx:Unit=>vI (r)) (λx l=>l) (λ_ l=>l):=by
 refine aY.of Tryz.func178 Z Tryz.ntmps178 Z λc=>?_;refine aX<|aD Z<|aN<|aK<|aT<|aK<|dW (λa=>Ad b a=some r) (λa d=>[(0,vI (b)),(3,vB (a))]) (λa d=>[]) ?_ ?_
 ·refine aQ<|aA Z<|cM Z<|aA Z ?_;refine Eo h Z (λ_ h=>?_) λ_ h=>?_
  ·refine aI Z<|aI Z<|dO Z<|aD Z<|aN ?_;exact gJ (true) () h SF Z
  refine cP Z<|aP Z (xQ Z Z) Z<|fH Z<|aD Z<|aN ?_;exact gJ (decide ((43:Int)<b)) () h SF Z
 intro a d h;refine Am h Z (λ_ h=>?_) λ_ h=>?_
 ·refine aX<|aD Z<|aN<|aV<|bM<|aJ ?_;cases h;exact lA Z
 refine aX<|aA Z<|aB (CE Z Z) Z<|aD Z<|aN ?_;refine fD h Z (λh=>?_) λh=>?_
 ·refine aX<|aD Z<|aN<|aV<|bM<|aJ ?_;cases h;exact lA Z
 refine aX<|aA Z<|aB (CE Z Z) Z<|aD Z<|aN ?_;refine fD h Z (λh=>?_) λh=>?_
 ·refine aX<|aD Z<|aN<|aV<|bM<|aJ ?_;cases h;exact lA Z
 refine aX<|aA Z<|aB (CE Z Z) Z<|aD Z<|aN ?_;refine fD h Z (λh=>?_) λh=>?_
 ·refine aX<|aD Z<|aN<|aV<|bM<|aJ ?_;cases h;exact lA Z
 refine dY<|mN<|aX<|aD Z<|aN<|aV ?_;cases h;exact lA Z
def Fh  (a:Unit):Option (Int):=
 some (-1:Int)
def mF (U:Nat) (d:fZ) (a:gE) (c:jO->Option (Int)):Option (Int):=
 if a.1<(d.length:Int)then(ck (0<=a.1∧a.1<(d.length:Int)) (Option.bind (yL U ((at' d a.1).1)) λb=>(if b<(0:Int)then(some (-1:Int))else(if(wI .i64 (a.2+(wI .i64 (b - (1:Int)))))=(0:Int)then(some (wI .i64 (a.1+(1:Int))))else(c ((wI .i64 (a.1+(1:Int))),(wI .i64 (a.2+(wI .i64 (b - (1:Int)))))))))))else(Fh  (()))
def Ci (U:Nat) (b:fZ) (c:Int) (a:Bool):Option (Int):=
 if a=true then(some (-1:Int))else(bI (mF U b) U (c,(1:Int)))
def Dz (U:Nat) (b:fZ) (a:Int):Option (Int):=
 if a<(0:Int)then(Ci U b a (true))else(Ci U b a (decide ((b.length:Int)<=a)))
theorem abP:aW Tryz.prog 161:=Tryz.call161
theorem Ua (U:Nat) {g:fZ} {b:Int} (k:Value) (r:Int) (h:Dz U g b=some r):
  aY Tryz.prog 161 #[k,vI (b)] [Sl bA k g] (λx:Unit=>vI (r)) (λx l=>l) (λ_ l=>l):=by
 refine aY.of Tryz.func161 Z Tryz.ntmps161 Z λc=>?_;refine aX<|aD Z<|aN<|aK<|aK<|dW (λd=>Ci U g b d=some r) (λd n=>[(0,k),(1,vI (b)),(14,vB (d))]) (λd n=>[]) ?_ ?_
 ·refine aQ<|aA Z<|cM Z<|aA Z ?_;refine Eo h Z (λ_ h=>?_) λ_ h=>?_
  ·refine aI Z<|aI Z<|aI Z<|aI Z<|dO Z<|aN ?_;exact gJ (true) () h SF Z
  refine cP Z<|cP Z<|aP Z (fX Z (aE.fact 0 Z) Z) Z<|aP Z (Bu Z Z) Z<|fH Z<|aN ?_;exact gJ (decide ((g.length:Int)<=b)) () h SF Z
 intro d n h;refine Am h Z (λ_ h=>?_) λ_ h=>?_
 ·refine aX<|aD Z<|aN<|aV<|aJ ?_;cases h;exact lA Z
 refine cL<|aK<|dW (λj=>Fh  j=some r) (λj o=>[]) (λj o=>[]) ?_ ?_
 ·refine aX<|aD Z<|aN<|aT<|dX (mF U g) (λa e=>[(0,k),(1,vI (a.1)),(5,vI (a.2))]) (λa e=>[]) (b,(1:Int)) () h SF (a_.refl _) ?_;intro p a e h;refine aK<|aX<|aA Z<|aA Z<|jN (aE.fact 0 Z) Z<|cM Z<|aN ?_;refine fD h Z (λh=>?_) λh=>?_
  ·refine cL<|aK<|aT<|aX<|aA Z<|aA Z<|cT h λf h=>aB (aZ Z Z (aE.fact 0 Z) Z Z f) Z<|aB (gF Z Z Z Z Z) Z<|aB (jJ Z (aE.fact 0 Z) Z Z Z nF f) Z<|eZ h λi m h=>aH (zBa abU (Pd U  i m) Z .nil) Z λq=>aD Z<|aN<|aK<|aX<|aA Z<|cM Z<|aN ?_;refine fD h Z (λh=>?_) λh=>?_
   ·refine aX<|aD Z<|aN<|aV<|aJ<|bM<|aJ<|aJ<|bM<|aJ ?_;cases h;exact lA Z
   refine cL<|aX<|aA Z<|aA Z<|aB (oI Z Z) Z<|cJ Z<|aD Z<|aN<|aX<|aA Z<|cS Z<|aN ?_;refine fD h Z (λh=>?_) λh=>?_
   ·refine aX<|aA Z<|cJ Z<|aD Z<|aN<|aV<|bM<|aJ<|aJ<|bM<|aJ ?_;cases h;exact lA Z
   refine dY<|mN<|aQ<|aA Z<|cJ Z<|aD Z<|aN ?_;exact xR ((wI .i64 (a.1+(1:Int))),(wI .i64 (a.2+(wI .i64 (i - (1:Int)))))) () h SF Z
  refine e_ ?_;exact gJ () (()) h SF Z
 intro j o h;unfold Fh at h;refine aX<|aD Z<|aN<|aV ?_;cases h;exact lA Z
def jK (U:Nat) (a:Bool):Option (Int):=
 if a=true then(some (1:Int))else(some (0:Int))
theorem zS:aW Tryz.prog 187:=Tryz.call187
theorem lR (U:Nat) {a:Bool} (r:Int) (h:jK U a=some r):
  aY Tryz.prog 187 #[vB (a)] [] (λx:Unit=>vI (r)) (λx l=>l) (λ_ l=>l):=by
 refine aY.of Tryz.func187 Z Tryz.ntmps187 Z λc=>?_;refine aX<|aD Z<|aN<|aK<|aX<|aA Z<|aN ?_;refine Am h Z (λ_ h=>?_) λ_ h=>?_
 ·refine aX<|aD Z<|aN<|aV<|aJ ?_;cases h;exact lA Z
 refine cL<|aX<|aD Z<|aN<|aV ?_;cases h;exact lA Z
def tJ (U:Nat) (a:Xi) (d:Int) (b:Int) (c:Int):Option (Int):=
 if d=(6:Int)then(some (a.2.1.1.length:Int))else(if d=(7:Int)then(some (a.2.2.1))else(if d=(8:Int)then(ck (0<=b∧b<(a.2.1.1.length:Int)) (some (at' a.2.1.1 b)))else(if d=(9:Int)then(ck (0<=b∧b<(a.2.1.2.length:Int)) (some ((at' a.2.1.2 b).length:Int)))else(if d=(10:Int)then(Option.bind (jK U (decide (b=(0:Int)))) λf=>(some (f)))else(if d=(11:Int)then(some (c))else(ck (0<=b∧b<(a.2.1.2.length:Int)) (ck (0<=c∧c<((at' a.2.1.2 b).length:Int)) (if d=(13:Int)then(ck (0<=((at' (at' a.2.1.2 b) c).1)∧((at' (at' a.2.1.2 b) c).1)<(a.2.1.1.length:Int)) (some (at' a.2.1.1 ((at' (at' a.2.1.2 b) c).1))))else(if d=(14:Int)then(ck (0<=((at' (at' a.2.1.2 b) c).1)∧((at' (at' a.2.1.2 b) c).1)<(a.2.1.2.length:Int)) (some ((at' a.2.1.2 ((at' (at' a.2.1.2 b) c).1)).length:Int)))else(if d=(15:Int)then(Option.bind (jK U (decide (((at' (at' a.2.1.2 b) c).1)=(0:Int)))) λe=>(some (e)))else(if d=(16:Int)then(some ((at' (at' a.2.1.2 b) c).2))else(ck (0<=b∧b<(a.2.2.2.length:Int)) (ck (0<=c∧c<((at' a.2.2.2 b).length:Int)) (some (at' (at' a.2.2.2 b) c)))))))))))))))
theorem abV:aW Tryz.prog 186:=Tryz.call186
theorem EW (U:Nat) {d:Xi} {s:Int} {f:Int} {g:Int} (i:Nat)  (t:Value)  (u:Value)  (v:Value)  (w:Value)  (F:kA)  (y:Value)  (G:q_) (r:Int) (h:tJ U d s f g=some r):
  aY Tryz.prog 186 #[vP i,vI (s),vI (f),vI (g)] [bV i [vS (d.1.1),t,u,v,w,vI (d.2.2.1),y] 134,Sl aS t d.1.2.1,Sl aL u d.1.2.2,Sl bN v d.2.1.1,S2 bA w F d.2.1.2,S2 bN y G d.2.2.2] (λx:Unit=>vI (r)) (λx l=>l) (λ_ l=>l):=by
 refine aY.of Tryz.func186 Z Tryz.ntmps186 Z λc=>?_;refine aX<|aD Z<|aN<|aK<|aX<|aA Z<|aN<|aT<|aX<|cS Z<|aD Z<|aN ?_;refine fD h Z (λh=>?_) λh=>?_
 ·refine aX<|aA Z<|aB (bY Z) Z<|bX Z<|bX Z<|aB (dZ Z (aE.fact 0 Z) Z Z Z) Z<|jN (aE.fact 3 Z) Z<|aD Z<|aN<|aV<|bM<|aJ ?_;cases h;exact lA Z
 refine aX<|cS Z<|aD Z<|aN ?_;refine fD h Z (λh=>?_) λh=>?_
 ·refine aX<|aA Z<|aB (bY Z) Z<|bX Z<|aB (dZ Z (aE.fact 0 Z) Z Z Z) Z<|aD Z<|aN<|aV<|bM<|aJ ?_;cases h;exact lA Z
 refine aX<|cS Z<|aD Z<|aN ?_;refine fD h Z (λh=>?_) λh=>?_
 ·refine aX<|aA Z<|aB (bY Z) Z<|bX Z<|bX Z<|aB (dZ Z (aE.fact 0 Z) Z Z Z) Z<|aA Z<|cT h λq h=>aB (aZ Z Z (aE.fact 3 Z) Z Z q) Z<|aB (bR Z (aE.fact 3 Z) Z Z Z cR q) Z<|aD Z<|aN<|aV<|bM<|aJ ?_;cases h;exact lA Z
 refine aX<|cS Z<|aD Z<|aN ?_;refine fD h Z (λh=>?_) λh=>?_
 ·refine aX<|aA Z<|aB (bY Z) Z<|bX Z<|bX Z<|aB (dZ Z (aE.fact 0 Z) Z Z Z) Z<|aA Z<|cT h λn h=>aB (cC Z Z (aE.fact 4 Z) Z Z n) Z<|aB (b_ Z (aE.fact 4 Z) Z Z n) Z<|aB (fX Z (zBb (aE.fact 4 Z) n.1 n.2) Z) Z<|aD Z<|aN<|aV<|bM<|aJ ?_;cases h;exact lA Z
 refine aX<|cS Z<|aD Z<|aN ?_;refine fD h Z (λh=>?_) λh=>?_
 ·refine aX<|aA Z<|cS Z<|eZ h λB C h=>aH (zBa zS (lR U  B C) Z .nil) Z λD=>aD Z<|aN<|aV<|bM<|aJ ?_;cases h;exact lA Z
 refine aX<|cS Z<|aD Z<|aN ?_;refine fD h Z (λh=>?_) λh=>?_
 ·refine aX<|aA Z<|aD Z<|aN<|aV<|bM<|aJ ?_;cases h;exact lA Z
 refine dY<|mN<|aX<|aA Z<|aB (bY Z) Z<|bX Z<|bX Z<|aB (dZ Z (aE.fact 0 Z) Z Z Z) Z<|aA Z<|cT h λa h=>aB (cC Z Z (aE.fact 4 Z) Z Z a) Z<|aB (b_ Z (aE.fact 4 Z) Z Z a) Z<|aA Z<|cT h λj h=>aB (aZ Z Z (zBb (aE.fact 4 Z) a.1 a.2) Z Z j) Z<|aB (iX (cs:=[vI ((at' (at' d.2.1.2 f) g).1),vI ((at' (at' d.2.1.2 f) g).2)]) Z (zBb (aE.fact 4 Z) a.1 a.2) bS Z Z Z Z j) Z<|aH (aO.alloc (cs:=VO) Z Z) Z λA=>bQ 0 (vs:=[vI ((at' (at' d.2.1.2 f) g).1),vI ((at' (at' d.2.1.2 f) g).2)]) Z Z Z Z Z Z<|aN<|aK<|aX<|aA Z<|aN<|aT<|aX<|cS Z<|aD Z<|aN ?_;refine fD h Z (λh=>?_) λh=>?_
 ·refine aK ?_;refine JR.start [0,1,3,7,15,0,32,127,255,511] 7 mixedOrders (by decide +kernel) ?_;refine zBd (by exact rfl) ?_;refine bG Z<|jD Z (bY Z)<|dB Z<|dB Z<|bJ Z .nil (jS 0 Z) (dZ Z (aE.fact 0 Z) Z Z Z) aM.z<|dB Z<|iZ 0 Z<|bO 7 Z Z<|cT h λk h=>aB (aZ Z Z (aE.fact 3 Z) Z Z k) Z<|aB (bR Z (aE.fact 3 Z) Z Z Z cR k) Z<|aD Z<|aN<|aV<|bM<|aJ ?_;cases h;exact rX Z
 refine aX<|cS Z<|aD Z<|aN ?_;refine fD h Z (λh=>?_) λh=>?_
 ·refine aK ?_;refine JR.start [0,1,3,7,15,0,32,127,255,511,1023] 7 mixedOrders (by decide +kernel) ?_;refine zBd (by exact rfl) ?_;refine bG Z<|jD Z (bY Z)<|dB Z<|dB Z<|bJ Z .nil (jS 0 Z) (dZ Z (aE.fact 0 Z) Z Z Z) aM.z<|dB Z<|iZ 0 Z<|bO 7 Z Z<|cT h λe h=>aB (cC Z Z (aE.fact 4 Z) Z Z e) Z<|aB (b_ Z (aE.fact 4 Z) Z Z e) Z<|aB (fX Z (zBb (aE.fact 4 Z) e.1 e.2) Z) Z<|aD Z<|aN<|aV<|bM<|aJ ?_;cases h;exact rX Z
 refine aX<|cS Z<|aD Z<|aN ?_;refine fD h Z (λh=>?_) λh=>?_
 ·refine aX<|bX Z<|dQ 0 Z<|cS Z<|eZ h λo p h=>aH (zBa zS (lR U  o p) Z .nil) Z λE=>aD Z<|aN<|aV<|bM<|aJ ?_;cases h;exact rX Z
 refine aX<|cS Z<|aD Z<|aN ?_;refine fD h Z (λh=>?_) λh=>?_
 ·refine aX<|bX Z<|dQ 0 Z<|aD Z<|aN<|aV<|bM<|aJ ?_;cases h;exact rX Z
 refine dY<|mN<|aX<|aA Z<|aB (bY Z) Z<|bX Z<|aB (dZ Z (aE.fact 0 Z) Z Z Z) Z<|aA Z<|cT h λb h=>aB (cC Z Z (aE.fact 5 Z) Z Z b) Z<|aB (b_ Z (aE.fact 5 Z) Z Z b) Z<|aA Z<|cT h λm h=>aB (aZ Z Z (zBb (aE.fact 5 Z) b.1 b.2) Z Z m) Z<|aB (bR Z (zBb (aE.fact 5 Z) b.1 b.2) Z Z Z cR m) Z<|aD Z<|aN<|aV ?_;cases h;exact rX Z
def mR (U:Nat) (a:Pk) (b:gE) (c:Int):Option (Int):=
 if b.1=(1:Int)then(some (b.2))else(if b.1=(2:Int)then(some (1:Int))else(if b.1=(3:Int)then(some (0:Int))else(if b.1=(4:Int)then(some (-1:Int))else(if b.1=(5:Int)then(ck (0<=a.2.2.1∧a.2.2.1<(a.2.1.length:Int)) (ck (0<=b.2∧b.2<((at' a.2.1 a.2.2.1).length:Int)) (some (at' (at' a.2.1 a.2.2.1) b.2))))else(if b.1=(12:Int)then(ck (0<=a.2.2.1∧a.2.2.1<(a.1.2.1.2.length:Int)) (ck (0<=c∧c<((at' a.1.2.1.2 a.2.2.1).length:Int)) (ck (0<=((at' (at' a.1.2.1.2 a.2.2.1) c).1)∧((at' (at' a.1.2.1.2 a.2.2.1) c).1)<(a.2.1.length:Int)) (ck (0<=b.2∧b.2<((at' a.2.1 ((at' (at' a.1.2.1.2 a.2.2.1) c).1)).length:Int)) (some (at' (at' a.2.1 ((at' (at' a.1.2.1.2 a.2.2.1) c).1)) b.2))))))else(Option.bind (tJ U ((((a.1.1.1,a.1.1.2.1,a.1.1.2.2)),((a.1.2.1.1,a.1.2.1.2)),a.1.2.2.1,a.1.2.2.2)) b.1 a.2.2.1 c) λd=>(some (d))))))))
theorem abR:aW Tryz.prog 167:=Tryz.call167
theorem FV (U:Nat) {d:Pk} {k:gE} {y:Int} (g:Nat)  (e:Nat)  (o:Value)  (p:Value)  (q:Value)  (s:Value)  (B:kA)  (t:Value)  (C:q_)  (A:Value)  (v:q_)  (m:Value) (r:Int) (h:mR U d k y=some r):
  aY Tryz.prog 167 #[vP g,Value.agg #[vI (k.1),vI (k.2)],vI (y)] [bV g [vP e,A,vI (d.2.2.1),m] 206,bV e [vS (d.1.1.1),o,p,q,s,vI (d.1.2.2.1),t] 134,Sl aS o d.1.1.2.1,Sl aL p d.1.1.2.2,Sl bN q d.1.2.1.1,S2 bA s B d.1.2.1.2,S2 bN t C d.1.2.2.2,S2 bN A v d.2.1,Sl bA m d.2.2.2] (λx:Unit=>vI (r)) (λx l=>l) (λ_ l=>l):=by
 refine aY.of Tryz.func167 Z Tryz.ntmps167 Z λc=>?_;refine aX<|aH (aO.box (cs:=[vI (k.1),vI (k.2)]) Z Z) Z λE=>aD Z<|aN<|aK<|aX<|bX Z<|dQ 0 Z<|aN<|aT<|aX<|cS Z<|aD Z<|aN ?_;refine fD h Z (λh=>?_) λh=>?_
 ·refine aX<|bX Z<|dQ 0 Z<|aD Z<|aN<|aV<|bM<|aJ ?_;cases h;exact rX Z
 refine aX<|cS Z<|aD Z<|aN ?_;refine fD h Z (λh=>?_) λh=>?_
 ·refine aX<|aD Z<|aN<|aV<|bM<|aJ ?_;cases h;exact rX Z
 refine aX<|cS Z<|aD Z<|aN ?_;refine fD h Z (λh=>?_) λh=>?_
 ·refine aX<|aD Z<|aN<|aV<|bM<|aJ ?_;cases h;exact rX Z
 refine aX<|cS Z<|aD Z<|aN ?_;refine fD h Z (λh=>?_) λh=>?_
 ·refine aX<|aD Z<|aN<|aV<|bM<|aJ ?_;cases h;exact rX Z
 refine aX<|cS Z<|aD Z<|aN ?_;refine fD h Z (λh=>?_) λh=>?_
 ·refine aK ?_;refine JR.start [0,1,3,7,0,16,48,112,255,511,0,1024,4095,8191,16383] 12 mixedOrders (by decide +kernel) ?_;refine zBd (by exact rfl) ?_;refine bG Z<|jD Z (bY Z)<|dB Z<|bJ Z .nil (jS 0 Z) (dZ Z (aE.fact 0 Z) Z Z Z) aM.z<|bG Z<|jD Z (bY Z)<|dB Z<|bJ Z .nil (jS 0 Z) (dZ Z (aE.fact 0 Z) Z Z Z) aM.z<|cT h λf h=>bJ Z .nil (jS 7 Z) (cC Z Z (aE.fact 0 Z) Z Z f) aM.z<|bJ Z .nil (jS 7 Z) (b_ Z (aE.fact 0 Z) Z Z f) aM.z<|dB Z<|iZ 0 Z<|bO 12 Z Z<|cT h λw h=>aB (aZ Z Z (zBb (aE.fact 7 Z) f.1 f.2) Z Z w) Z<|aB (bR Z (zBb (aE.fact 7 Z) f.1 f.2) Z Z Z cR w) Z<|aD Z<|aN<|aV<|bM<|aJ ?_;cases h;exact rX Z
 refine aX<|cS Z<|aD Z<|aN ?_;refine fD h Z (λh=>?_) λh=>?_
 ·refine aK ?_;refine JR.start [0,1,3,7,0,16,48,112,240,496,1008,2032,0,4096,12288,28672,65520,131056,0,524272,1048560,2097136,4194303,8388607,0,16777216,67108863,134217727,268435455] 26 mixedOrders (by decide +kernel) ?_;refine zBd (by exact rfl) ?_;refine bG Z<|jD Z (bY Z)<|dB Z<|bJ Z .nil (jS 0 Z) (dZ Z (aE.fact 0 Z) Z Z Z) aM.z<|bG Z<|jD Z (bY Z)<|dB Z<|bJ Z .nil (jS 0 Z) (dZ Z (aE.fact 0 Z) Z Z Z) aM.z<|jD Z (bY Z)<|dB Z<|dB Z<|bJ Z .nil (jS 1 Z) (dZ Z (aE.fact 0 Z) Z Z Z) aM.z<|bG Z<|jD Z (bY Z)<|dB Z<|bJ Z .nil (jS 0 Z) (dZ Z (aE.fact 0 Z) Z Z Z) aM.z<|cT h λa h=>bJ Z .nil (jS 5 Z) (cC Z Z (aE.fact 0 Z) Z Z a) aM.z<|bJ Z .nil (jS 5 Z) (b_ Z (aE.fact 0 Z) Z Z a) aM.z<|bG Z<|cT h λi h=>bJ Z .nil (jS 5 Z) (aZ Z Z (zBb (aE.fact 0 Z) a.1 a.2) Z Z i) aM.z<|jD Z (gF Z Z Z Z Z)<|bJ Z .nil (jS 5 Z) (jJ Z (zBb (aE.fact 0 Z) a.1 a.2) Z Z Z nF i) aM.z<|cT h λb h=>bJ Z .nil (jS 7 Z) (cC Z Z (aE.fact 0 Z) Z Z b) aM.z<|bJ Z .nil (jS 7 Z) (b_ Z (aE.fact 0 Z) Z Z b) aM.z<|dB Z<|iZ 0 Z<|bO 26 Z Z<|cT h λj h=>aB (aZ Z Z (zBb (aE.fact 7 Z) b.1 b.2) Z Z j) Z<|aB (bR Z (zBb (aE.fact 7 Z) b.1 b.2) Z Z Z cR j) Z<|aD Z<|aN<|aV<|bM<|aJ ?_;cases h;exact rX Z
 refine dY<|mN<|aK ?_;refine JR.start [0,1,3,7,0,16,0,64,192,448,0,2047,4095] 11 mixedOrders (by decide +kernel) ?_;refine zBd (by exact rfl) ?_;refine bG Z<|jD Z (bY Z)<|dB Z<|bJ Z .nil (jS 0 Z) (dZ Z (aE.fact 0 Z) Z Z Z) aM.z<|dB Z<|iZ 0 Z<|bG Z<|jD Z (bY Z)<|dB Z<|bJ Z .nil (jS 0 Z) (dZ Z (aE.fact 0 Z) Z Z Z) aM.z<|bG Z<|bO 11 Z Z<|eZ h λn u h=>aH (zBa abV (EW U e o p q s B t C n u) Z (mT [1,2,3,4,5,6] Z)) Z λD=>aD Z<|aN<|aV ?_;cases h;exact rX Z
def Bc (U:Nat) (b:Int) (a:Int):Option (Int):=
 if b=(18:Int)then(some (wI .i64 (0 - a)))else(Option.bind (jK U (decide (a=(0:Int)))) λc=>(some (c)))
theorem abS:aW Tryz.prog 168:=Tryz.call168
theorem OW (U:Nat) {a:Int} {b:Int} (r:Int) (h:Bc U a b=some r):
  aY Tryz.prog 168 #[vI (a),vI (b)] [] (λx:Unit=>vI (r)) (λx l=>l) (λ_ l=>l):=by
 refine aY.of Tryz.func168 Z Tryz.ntmps168 Z λc=>?_;refine aX<|aD Z<|aN<|aK<|aX<|aA Z<|cS Z<|aN ?_;refine fD h Z (λh=>?_) λh=>?_
 ·refine aX<|aA Z<|aB (Uv Z) Z<|aD Z<|aN<|aV<|aJ ?_;cases h;exact lA Z
 refine cL<|aX<|aA Z<|cS Z<|eZ h λd e h=>aH (zBa zS (lR U  d e) Z .nil) Z λf=>aD Z<|aN<|aV ?_;cases h;exact lA Z
def jZ (U:Nat) (a:Int):Option (Int):=
 some (max (-1073741824:Int) (min a (1073741824:Int)))
theorem Fx:aW Tryz.prog 189:=Tryz.call189
theorem nD (U:Nat) {a:Int} (r:Int) (h:jZ U a=some r):
  aY Tryz.prog 189 #[vI (a)] [] (λx:Unit=>vI (r)) (λx l=>l) (λ_ l=>l):=by
 refine aY.of Tryz.func189 Z Tryz.ntmps189 Z λc=>?_;unfold jZ at h;refine aX<|aD Z<|aN<|aX<|aA Z<|aB (adG Z Z) Z<|aB (IZ Z Z) Z<|aD Z<|aN<|aV ?_;cases h;exact lA Z
def qQ  (a:Int):Option (Int):=
 some (a)
def uI (a:Int) (b:Int) (c:Bool):Option (Int):=
 if c=true then(qQ  (wI .i64 ((wI .i64 (Int.tdiv a b)) - (1:Int))))else(qQ  (wI .i64 (Int.tdiv a b)))
def rV (U:Nat) (b:Int) (a:Int):Option (Int):=
 if a=(0:Int)then(some (0:Int))else(ck (a≠0) (ck (a≠0) (if(Int.tmod b a)≠(0:Int)then(uI b a (((decide (b<(0:Int))) != (decide (a<(0:Int))))))else(uI b a (false)))))
theorem UH:aW Tryz.prog 190:=Tryz.call190
theorem Ec (U:Nat) {a:Int} {b:Int} (r:Int) (h:rV U a b=some r):
  aY Tryz.prog 190 #[vI (a),vI (b)] [] (λx:Unit=>vI (r)) (λx l=>l) (λ_ l=>l):=by
 refine aY.of Tryz.func190 Z Tryz.ntmps190 Z λc=>?_;refine aX<|aD Z<|aN<|aK<|aX<|aA Z<|cS Z<|aN ?_;refine fD h Z (λh=>?_) λh=>?_
 ·refine aX<|aD Z<|aN<|aV<|aJ ?_;cases h;exact lA Z
 refine cL<|aX<|aA Z<|aA Z<|cT h λj h=>aB (XY Z Z j) Z<|aD Z<|aN<|aK<|dW (λd=>qQ  d=some r) (λd g=>[(5,vI (d))]) (λd g=>[]) ?_ ?_
 ·refine aK<|dW (λe=>uI a b e=some r) (λe i=>[(5,vI (wI .i64 (Int.tdiv a b))),(21,vB (e))]) (λe i=>[]) ?_ ?_
  ·refine aQ<|aA Z<|aA Z<|cT h λf h=>aB (Qb Z Z f) Z<|rB Z<|aA Z ?_;refine Eo h Z (λ_ h=>?_) λ_ h=>?_
   ·refine cP Z<|aP Z (Hl Z Z) Z<|cP Z<|aP Z (Hl Z Z) Z<|aP Z (aer Z Z Z) Z<|dO Z<|aN ?_;exact gJ (((decide (a<(0:Int))) != (decide (b<(0:Int))))) () h SF Z
   refine aI Z<|aI Z<|aI Z<|aI Z<|aI Z<|fH Z<|aN ?_;exact gJ (false) () h SF Z
  intro e i h;refine Am h Z (λ_ h=>?_) λ_ h=>?_
  ·refine aQ<|aA Z<|aB (oI Z Z) Z<|aD Z<|aN ?_;exact gJ (wI .i64 ((wI .i64 (Int.tdiv a b)) - (1:Int))) () h SF Z
  refine cL ?_;exact gJ (wI .i64 (Int.tdiv a b)) () h SF Z
 intro d g h;unfold qQ at h;refine aX<|aA Z<|aD Z<|aN<|aV ?_;cases h;exact lA Z
def wE (U:Nat) (c:Int) (a:Int) (b:Int):Option Bool:=
 if c=(35:Int)then(some (decide (a=b)))else(if c=(36:Int)then(some (decide (a≠b)))else(if c=(37:Int)then(some (decide (a<b)))else(if c=(38:Int)then(some (decide (a<=b)))else(if c=(39:Int)then(some (decide (b<a)))else(some (decide (b<=a)))))))
theorem abX:aW Tryz.prog 191:=Tryz.call191
theorem Jz (U:Nat) {a:Int} {b:Int} {d:Int} (r:Bool) (h:wE U a b d=some r):
  aY Tryz.prog 191 #[vI (a),vI (b),vI (d)] [] (λx:Unit=>vB (r)) (λx l=>l) (λ_ l=>l):=by
 refine aY.of Tryz.func191 Z Tryz.ntmps191 Z λc=>?_;refine aX<|aD Z<|aN<|aK<|aX<|aA Z<|aN<|aT<|aX<|cS Z<|aD Z<|aN ?_;refine fD h Z (λh=>?_) λh=>?_
 ·refine aX<|aA Z<|aA Z<|cS Z<|aD Z<|aN<|aV<|bM<|aJ ?_;cases h;exact lA Z
 refine aX<|cS Z<|aD Z<|aN ?_;refine fD h Z (λh=>?_) λh=>?_
 ·refine aX<|aA Z<|aA Z<|rB Z<|aD Z<|aN<|aV<|bM<|aJ ?_;cases h;exact lA Z
 refine aX<|cS Z<|aD Z<|aN ?_;refine fD h Z (λh=>?_) λh=>?_
 ·refine aX<|aA Z<|aA Z<|cM Z<|aD Z<|aN<|aV<|bM<|aJ ?_;cases h;exact lA Z
 refine aX<|cS Z<|aD Z<|aN ?_;refine fD h Z (λh=>?_) λh=>?_
 ·refine aX<|aA Z<|aA Z<|aB (CE Z Z) Z<|aD Z<|aN<|aV<|bM<|aJ ?_;cases h;exact lA Z
 refine aX<|cS Z<|aD Z<|aN ?_;refine fD h Z (λh=>?_) λh=>?_
 ·refine aX<|aA Z<|aA Z<|aB (xQ Z Z) Z<|aD Z<|aN<|aV<|bM<|aJ ?_;cases h;exact lA Z
 refine dY<|mN<|aX<|aA Z<|aA Z<|aB (Bu Z Z) Z<|aD Z<|aN<|aV ?_;cases h;exact lA Z
def qO  (a:Int):Option (Int):=
 some (a)
def qP  (a:Int):Option (Int):=
 some (a)
def zW (U:Nat) (c:Int) (b:Int) (a:Int):Option (Int):=
 if c=(30:Int)then(Option.bind (jZ U (wI .i64 (b*a))) λn=>(some (n)))else(if c=(31:Int)then(Option.bind (rV U b a) λo=>(Option.bind (jZ U o) λp=>(some (p))))else(if c=(32:Int)then(if a=(0:Int)then(some (0:Int))else(Option.bind (rV U b a) λd=>(Option.bind (jZ U (wI .i64 (b - (wI .i64 (a*d))))) λe=>(some (e)))))else(if c=(33:Int)then(Option.bind (jZ U (wI .i64 (b+a))) λf=>(some (f)))else(if c=(34:Int)then(Option.bind (jZ U (wI .i64 (b - a))) λg=>(some (g)))else(if c=(41:Int)then(if b≠(0:Int)then(Option.bind (jK U (decide (a≠(0:Int)))) λh=>(qO  (h)))else(Option.bind (jK U false) λi=>(qO  (i))))else(if c=(42:Int)then(if b≠(0:Int)then(Option.bind (jK U true) λj=>(qP  (j)))else(Option.bind (jK U (decide (a≠(0:Int)))) λk=>(qP  (k))))else(Option.bind (wE U c b a) λl=>(Option.bind (jK U l) λm=>(some (m))))))))))
theorem abT:aW Tryz.prog 170:=Tryz.call170
theorem Mu (U:Nat) {E:Int} {F:Int} {G:Int} (r:Int) (h:zW U E F G=some r):
  aY Tryz.prog 170 #[vI (E),vI (F),vI (G)] [] (λx:Unit=>vI (r)) (λx l=>l) (λ_ l=>l):=by
 refine aY.of Tryz.func170 Z Tryz.ntmps170 Z λc=>?_;refine aX<|aD Z<|aN<|aK<|aX<|aA Z<|aN<|aT<|aX<|cS Z<|aD Z<|aN ?_;refine fD h Z (λh=>?_) λh=>?_
 ·refine aX<|aA Z<|aA Z<|aB (AA Z Z) Z<|eZ h λH K h=>aH (zBa Fx (nD U  H K) Z .nil) Z λY=>aD Z<|aN<|aV<|bM<|aJ ?_;cases h;exact lA Z
 refine aX<|cS Z<|aD Z<|aN ?_;refine fD h Z (λh=>?_) λh=>?_
 ·refine aX<|aA Z<|aA Z<|eZ h λI L h=>aH (zBa UH (Ec U  I L) Z .nil) Z λx8=>eZ h λJ s h=>aH (zBa Fx (nD U  J s) Z .nil) Z λM=>aD Z<|aN<|aV<|bM<|aJ ?_;cases h;exact lA Z
 refine aX<|cS Z<|aD Z<|aN ?_;refine fD h Z (λh=>?_) λh=>?_
 ·refine aK<|aX<|aA Z<|cS Z<|aN ?_;refine fD h Z (λh=>?_) λh=>?_
  ·refine aX<|aD Z<|aN<|aV<|aJ<|bM<|aJ ?_;cases h;exact lA Z
  refine cL<|aX<|aA Z<|aA Z<|aA Z<|aA Z<|eZ h λk t h=>aH (zBa UH (Ec U  k t) Z .nil) Z λN=>aB (AA Z Z) Z<|aB (oI Z Z) Z<|eZ h λm u h=>aH (zBa Fx (nD U  m u) Z .nil) Z λO=>aD Z<|aN<|aV<|bM<|aJ ?_;cases h;exact lA Z
 refine aX<|cS Z<|aD Z<|aN ?_;refine fD h Z (λh=>?_) λh=>?_
 ·refine aX<|aA Z<|aA Z<|cJ Z<|eZ h λn v h=>aH (zBa Fx (nD U  n v) Z .nil) Z λP=>aD Z<|aN<|aV<|bM<|aJ ?_;cases h;exact lA Z
 refine aX<|cS Z<|aD Z<|aN ?_;refine fD h Z (λh=>?_) λh=>?_
 ·refine aX<|aA Z<|aA Z<|aB (oI Z Z) Z<|eZ h λo w h=>aH (zBa Fx (nD U  o w) Z .nil) Z λQ=>aD Z<|aN<|aV<|bM<|aJ ?_;cases h;exact lA Z
 refine aX<|cS Z<|aD Z<|aN ?_;refine fD h Z (λh=>?_) λh=>?_
 ·refine aK<|dW (λa=>qO  a=some r) (λa d=>[(6,vI (a))]) (λa d=>[]) ?_ ?_
  ·refine aQ<|aA Z<|rB Z<|aA Z ?_;refine Eo h Z (λ_ h=>?_) λ_ h=>?_
   ·refine cP Z<|aP Z (F_ Z Z) Z<|dO Z<|eZ h λf y h=>aH (zBa zS (lR U  f y) Z .nil) Z λR=>aD Z<|aN ?_;exact gJ (f) () h SF Z
   refine aI Z<|aI Z<|fH Z<|eZ h λg z h=>aH (zBa zS (lR U  g z) Z .nil) Z λS=>aD Z<|aN ?_;exact gJ (g) () h SF Z
  intro a d h;unfold qO at h;refine aV<|bM<|aJ ?_;cases h;exact lA Z
 refine aX<|cS Z<|aD Z<|aN ?_;refine fD h Z (λh=>?_) λh=>?_
 ·refine aK<|dW (λb=>qP  b=some r) (λb e=>[(6,vI (b))]) (λb e=>[]) ?_ ?_
  ·refine aQ<|aA Z<|rB Z<|aA Z ?_;refine Eo h Z (λ_ h=>?_) λ_ h=>?_
   ·refine aI Z<|aI Z<|dO Z<|eZ h λi A h=>aH (zBa zS (lR U  i A) Z .nil) Z λT=>aD Z<|aN ?_;exact gJ (i) () h SF Z
   refine cP Z<|aP Z (F_ Z Z) Z<|fH Z<|eZ h λj B h=>aH (zBa zS (lR U  j B) Z .nil) Z λV=>aD Z<|aN ?_;exact gJ (j) () h SF Z
  intro b e h;unfold qP at h;refine aV<|bM<|aJ ?_;cases h;exact lA Z
 refine dY<|mN<|aX<|aA Z<|aA Z<|aA Z<|eZ h λp C h=>aH (zBa abX (Jz U  p C) Z .nil) Z λW=>eZ h λq D h=>aH (zBa zS (lR U  q D) Z .nil) Z λX=>aD Z<|aN<|aV ?_;cases h;exact lA Z
def zT  (a:Int):Option (Int):=
 some (a)
def vD (c:gE) (b:jO->Option (Int)) (a:Int):Option (Int):=
 b (a,(wI .i64 (c.2+(1:Int))))
def sE (c:aR) (a:gE) (b:jO->Option (Int)):Option (Int):=
 if a.2<(c.length:Int)then(ck (0<=a.2∧a.2<(c.length:Int)) (if(at' c a.2)≠(0:Int)then(vD a b (wI .i64 (a.1+(1:Int))))else(vD a b (a.1))))else(zT  (a.1))
def rH (U:Nat) (a:aR):Option (Int):=
 bI (sE a) U ((0:Int),(0:Int))
theorem Oc:aW Tryz.prog 197:=Tryz.call197
theorem DV (U:Nat) {d:aR} (i:Value) (r:Int) (h:rH U d=some r):
  aY Tryz.prog 197 #[i] [Sl bN i d] (λx:Unit=>vI (r)) (λx l=>l) (λ_ l=>l):=by
 refine aY.of Tryz.func197 Z Tryz.ntmps197 Z λc=>?_;unfold rH at h;refine aX<|aD Z<|aN<|aX<|aD Z<|aN<|aK<|dW (λe=>zT  e=some r) (λe j=>[(3,vI (e))]) (λe j=>[]) ?_ ?_
 ·refine aX<|aA Z<|jN (aE.fact 0 Z) Z<|aA Z<|aN<|aT<|dX (sE d) (λb k=>[(3,vI (b.1)),(6,i),(7,vI (d.length:Int)),(8,vI (b.2))]) (λb k=>[]) ((0:Int),(0:Int)) () h SF (a_.refl _) ?_;intro m b k h;refine aX<|cM Z<|aN<|aK ?_;refine fD h Z (λh=>?_) λh=>?_
  ·refine cL<|aK<|dW (λa=>vD b (bI (sE d) m) a=some r) (λa f=>[(3,vI (a)),(6,i),(7,vI (d.length:Int)),(8,vI (b.2))]) (λa f=>[]) ?_ ?_
   ·refine aT<|aX<|cT h λg h=>aB (aZ Z Z (aE.fact 0 Z) Z Z g) Z<|aB (bR Z (aE.fact 0 Z) Z Z Z cR g) Z<|aD Z<|aN<|aX<|aA Z<|rB Z<|aN ?_;refine fD h Z (λh=>?_) λh=>?_
    ·refine aQ<|aA Z<|cJ Z<|aD Z<|eM<|mN ?_;exact gJ (wI .i64 (b.1+(1:Int))) () h SF Z
    refine dY<|mN ?_;exact gJ (b.1) () h SF Z
   intro a f h;unfold vD at h;refine aQ<|cJ Z<|aA Z<|aN ?_;exact xR (a,(wI .i64 (b.2+(1:Int)))) () h SF Z
  refine e_ ?_;exact gJ (b.1) () h SF Z
 intro e j h;unfold zT at h;refine aX<|aA Z<|aD Z<|aN<|aV ?_;cases h;exact lA Z
def qC  (a:Unit):Option (Int):=
 some (-1:Int)
def gT (c:aR) (e:Int->Option Bool) (a:Int) (b:(Int)->Option (Int)):Option (Int):=
 if a<(c.length:Int)then(ck (0<=a∧a<(c.length:Int)) (Option.bind (e (at' c a)) λd=>(if d=true then(some (a))else(b (wI .i64 (a+(1:Int)))))))else(qC  (()))
def nT (U:Nat) (b:aR) (a:Int->Option Bool):Option (Int):=
 bI (gT b a) U (0:Int)
theorem abY:aW Tryz.prog 198:=Tryz.call198
theorem GT (U:Nat) {b:aR} {o:Int->Option Bool} (k:FuncId) (a:fO) (j:List bE) (e:aW Tryz.prog k) (f:∀(t:Int) (r:Bool),o t=some r->aY Tryz.prog k ([vI (t)]++a).toArray j (λ_:Unit=>vB (r)) (λ_ l=>l) (λ_ l=>l)) (i:Value) (r:Int) (h:nT U b o=some r):
  aY Tryz.prog 198 #[i,Value.func (.func k) #[] (a).toArray] ([Sl bN i b]++j) (λx:Unit=>vI (r)) (λx l=>l) (λ_ l=>l):=by
 refine aY.of Tryz.func198 Z Tryz.ntmps198 Z λc=>?_;unfold nT at h;refine aX<|aD Z<|aN<|aK<|Bq (B:=Unit) (λg=>qC  g=some r) (λg m=>[]) (λg m=>[]) (λg m=>([Sl bN i b]++j)) ?_ ?_
 ·refine aX<|aA Z<|jN (aE.fact 0 Z) Z<|aA Z<|aN<|aT<|Fq (B:=Unit) (gT b o) (λd n=>[(0,i),(1,Value.func (.func k) #[] (a).toArray),(7,vI (b.length:Int)),(8,vI (d))]) (λd n=>[]) (λd n=>([Sl bN i b]++j)) (0:Int) () h SF (a_.refl _) (aG.refl _ _) ?_;intro v d n h;refine aX<|cM Z<|aN<|aK ?_;refine fD h Z (λh=>?_) λh=>?_
  ·refine cL<|aK<|aT<|aX<|aA Z<|aD Z<|aN<|aX<|aA Z<|aA Z<|aA Z<|cT h λs h=>aB (aZ Z Z (aE.fact 0 Z) Z Z s) Z<|aB (bR Z (aE.fact 0 Z) Z Z Z cR s) Z<|eZ h λp q h=>aH (wY (vs:=[vI (at' b d)]) (cs:=a) e Z (f (at' b d) p q) Z (aG.tail _) (λ_ _=>rfl)) Z λu=>aN ?_;refine Am h Z (λ_ h=>?_) λ_ h=>?_
   ·refine aX<|aA Z<|aD Z<|aN<|aV<|bM<|aJ<|aJ<|bM<|aJ ?_;cases h;exact lA Z
   refine dY<|mN<|aQ<|cJ Z<|aA Z<|aN ?_;exact xR (wI .i64 (d+(1:Int))) () h SF Z
  refine e_ ?_;exact gJ () (()) h SF Z
 intro g m h;unfold qC at h;refine aX<|aD Z<|aN<|aV ?_;cases h;exact lA Z
def pO (U:Nat) (a:Int):Option Bool:=
 some (decide (a≠(0:Int)))
theorem abZ:aW Tryz.prog 199:=Tryz.call199
theorem Mv (U:Nat) {a:Int} (r:Bool) (h:pO U a=some r):
  aY Tryz.prog 199 #[vI (a)] [] (λx:Unit=>vB (r)) (λx l=>l) (λ_ l=>l):=by
 refine aY.of Tryz.func199 Z Tryz.ntmps199 Z λc=>?_;unfold pO at h;refine aX<|aD Z<|aN<|aX<|aA Z<|rB Z<|aD Z<|aN<|aV ?_;cases h;exact lA Z
def uU  (a:gE):Option jO:=
 some (a.1,a.2)
def pX (c:Int×Int×Int) (b:(Int×Int×Int)->Option jO) (a:gE):Option jO:=
 b (a.1,a.2,(wI .i64 (c.2.2+(1:Int))))
def uV (c:aR) (a:Int×Int×Int) (b:(Int×Int×Int)->Option jO):Option jO:=
 if a.2.2<(c.length:Int)then(ck (0<=a.2.2∧a.2.2<(c.length:Int)) (if a.1<(at' c a.2.2)then(pX a b ((at' c a.2.2),a.1))else(pX a b (a.1,(max a.2.1 (at' c a.2.2))))))else(uU  (a.1,a.2.1))
def rI (U:Nat) (a:aR):Option jO:=
 bI (uV a) U ((-1073741824:Int),(-1073741824:Int),(0:Int))
theorem UI:aW Tryz.prog 200:=Tryz.call200
theorem BL (U:Nat) {d:aR} (j:Value) (r:gE) (h:rI U d=some r):
  aY Tryz.prog 200 #[j] [Sl bN j d] (λx:Unit=>Value.tuple #[vI (r.1),vI (r.2)]) (λx l=>l) (λ_ l=>l):=by
 refine aY.of Tryz.func200 Z Tryz.ntmps200 Z λc=>?_;unfold rI at h;refine aX<|aD Z<|aD Z<|aN<|aX<|aD Z<|aD Z<|aN<|aK<|dW (λe=>uU  e=some r) (λe m=>[(2,vI (e.1)),(3,vI (e.2))]) (λe m=>[]) ?_ ?_
 ·refine aX<|aA Z<|jN (aE.fact 0 Z) Z<|aA Z<|aN<|aT<|dX (uV d) (λb f=>[(2,vI (b.1)),(3,vI (b.2.1)),(6,j),(7,vI (d.length:Int)),(8,vI (b.2.2))]) (λb f=>[]) ((-1073741824:Int),(-1073741824:Int),(0:Int)) () h SF (a_.refl _) ?_;intro k b f h;refine aX<|cM Z<|aN<|aK ?_;refine fD h Z (λh=>?_) λh=>?_
  ·refine cL<|aK<|dW (λa=>pX b (bI (uV d) k) a=some r) (λa g=>[(2,vI (a.1)),(3,vI (a.2)),(6,j),(7,vI (d.length:Int)),(8,vI (b.2.2))]) (λa g=>[]) ?_ ?_
   ·refine aT<|aX<|cT h λi h=>aB (aZ Z Z (aE.fact 0 Z) Z Z i) Z<|aB (bR Z (aE.fact 0 Z) Z Z Z cR i) Z<|aD Z<|aN<|aX<|aA Z<|aA Z<|aB (xQ Z Z) Z<|aN ?_;refine fD h Z (λh=>?_) λh=>?_
    ·refine aQ<|aA Z<|aA Z<|aD Z<|aD Z<|eM<|mN ?_;exact gJ ((at' d b.2.2),b.1) () h SF Z
    refine aQ<|aA Z<|aA Z<|aB (IZ Z Z) Z<|aD Z<|eM<|mN ?_;exact gJ (b.1,(max b.2.1 (at' d b.2.2))) () h SF Z
   intro a g h;unfold pX at h;refine aQ<|cJ Z<|aA Z<|aN ?_;exact xR (a.1,a.2,(wI .i64 (b.2.2+(1:Int)))) () h SF Z
  refine e_ ?_;exact gJ (b.1,b.2.1) () h SF Z
 intro e m h;unfold uU at h;refine aX<|aA Z<|aA Z<|aD Z<|aD Z<|aN<|aV ?_;cases h;exact oB () Z Z (RV.tmp Z) (RV.tmp Z) (a_.refl _) aG.nil
def wK  (a:Unit):Option (Int):=
 some (-1:Int)
def kM (c:aR) (d:Int) (a:Int) (b:(Int)->Option (Int)):Option (Int):=
 if a<(c.length:Int)then(ck (0<=a∧a<(c.length:Int)) (if d=(at' c a)then(some (a))else(b (wI .i64 (a+(1:Int))))))else(wK  (()))
def qU (U:Nat) (a:aR) (b:Int):Option (Int):=
 bI (kM a b) U (0:Int)
theorem acb:aW Tryz.prog 209:=Tryz.call209
theorem LV (U:Nat) {d:aR} {e:Int} (f:Value) (r:Int) (h:qU U d e=some r):
  aY Tryz.prog 209 #[f,vI (e)] [Sl bN f d] (λx:Unit=>vI (r)) (λx l=>l) (λ_ l=>l):=by
 refine aY.of Tryz.func209 Z Tryz.ntmps209 Z λc=>?_;unfold qU at h;refine aX<|aD Z<|aN<|aK<|dW (λa=>wK  a=some r) (λa g=>[]) (λa g=>[]) ?_ ?_
 ·refine aX<|aA Z<|jN (aE.fact 0 Z) Z<|aA Z<|aN<|aT<|dX (kM d e) (λb i=>[(0,f),(1,vI (e)),(7,vI (d.length:Int)),(8,vI (b))]) (λb i=>[]) (0:Int) () h SF (a_.refl _) ?_;intro k b i h;refine aX<|cM Z<|aN<|aK ?_;refine fD h Z (λh=>?_) λh=>?_
  ·refine cL<|aK<|aT<|aX<|aA Z<|aD Z<|aN<|aX<|aA Z<|aA Z<|aA Z<|cT h λj h=>aB (aZ Z Z (aE.fact 0 Z) Z Z j) Z<|aB (bR Z (aE.fact 0 Z) Z Z Z cR j) Z<|cS Z<|aN ?_;refine fD h Z (λh=>?_) λh=>?_
   ·refine aX<|aA Z<|aD Z<|aN<|aV<|bM<|aJ<|aJ<|bM<|aJ ?_;cases h;exact lA Z
   refine dY<|mN<|aQ<|cJ Z<|aA Z<|aN ?_;exact xR (wI .i64 (b+(1:Int))) () h SF Z
  refine e_ ?_;exact gJ () (()) h SF Z
 intro a g h;unfold wK at h;refine aX<|aD Z<|aN<|aV ?_;cases h;exact lA Z
def sR (U:Nat) (a:aR) (b:Int):Option Bool:=
 Option.bind (qU U a b) λc=>(some (decide ((0:Int)<=c)))
theorem aca:aW Tryz.prog 205:=Tryz.call205
theorem H_ (U:Nat) {b:aR} {d:Int} (a:Value) (r:Bool) (h:sR U b d=some r):
  aY Tryz.prog 205 #[a,vI (d)] [Sl bN a b] (λx:Unit=>vB (r)) (λx l=>l) (λ_ l=>l):=by
 refine aY.of Tryz.func205 Z Tryz.ntmps205 Z λc=>?_;refine aX<|aD Z<|aN<|aX<|aA Z<|aA Z<|eZ h λe f h=>aH (zBa acb (LV U a e f) Z (mT [0] Z)) Z λg=>aB (Bu Z Z) Z<|aD Z<|aN<|aV ?_;cases h;exact lA Z
def Ca  (a:Int):Option (Int):=
 some (a)
def An (U:Nat) (c:aR) (a:Int) (b:(Int)->Option (Int)):Option (Int):=
 Option.bind (sR U c a) λd=>(if d=true then(b (wI .i64 (a+(1:Int))))else(Ca  (a)))
def BD (U:Nat) (a:aR):Option (Int):=
 bI (An U a) U (0:Int)
theorem ab_:aW Tryz.prog 201:=Tryz.call201
theorem T_ (U:Nat) {e:aR} (d:Value) (r:Int) (h:BD U e=some r):
  aY Tryz.prog 201 #[d] [Sl bN d e] (λx:Unit=>vI (r)) (λx l=>l) (λ_ l=>l):=by
 refine aY.of Tryz.func201 Z Tryz.ntmps201 Z λc=>?_;unfold BD at h;refine aX<|aD Z<|aN<|aX<|aD Z<|aN<|aK<|dW (λa=>Ca  a=some r) (λa g=>[(3,vI (a))]) (λa g=>[]) ?_ ?_
 ·refine aT<|dX (An U e) (λb i=>[(0,d),(3,vI (b))]) (λb i=>[]) (0:Int) () h SF (a_.refl _) ?_;intro m b i h;refine aK<|aX<|aA Z<|aA Z<|eZ h λj f h=>aH (zBa aca (H_ U d j f) Z (mT [0] Z)) Z λk=>aN ?_;refine Am h Z (λ_ h=>?_) λ_ h=>?_
  ·refine cL<|aT<|aQ<|aA Z<|cJ Z<|aD Z<|eM<|mN ?_;exact xR (wI .i64 (b+(1:Int))) () h SF Z
  refine e_ ?_;exact gJ (b) () h SF Z
 intro a g h;unfold Ca at h;refine aX<|aA Z<|aD Z<|aN<|aV ?_;cases h;exact lA Z
def Ba  (a:Int):Option (Int):=
 some (a)
def uG (c:aR) (a:gE) (b:jO->Option (Int)):Option (Int):=
 if a.2<(c.length:Int)then(ck (0<=a.2∧a.2<(c.length:Int)) (b ((min a.1 (at' c a.2)),(wI .i64 (a.2+(1:Int))))))else(Ba  (a.1))
def Dr (U:Nat) (a:Int):Option (Int):=
 Option.bind (jZ U a) λb=>(some (b))
def uH (U:Nat) (c:aR) (a:gE) (b:jO->Option (Int)):Option (Int):=
 if a.2<(c.length:Int)then(ck (0<=a.2∧a.2<(c.length:Int)) (b ((wI .i64 (a.1+(at' c a.2))),(wI .i64 (a.2+(1:Int))))))else(Dr U (a.1))
def Cc (U:Nat) (b:Int) (a:aR):Option (Int):=
 if b=(20:Int)then(Option.bind (rH U a) λi=>(Option.bind (jK U (decide (i=(a.length:Int)))) λj=>(some (j))))else(if b=(21:Int)then(Option.bind (rH U a) λk=>(Option.bind (jK U (decide ((0:Int)<k))) λc=>(some (c))))else(if b=(22:Int)then(Option.bind (rH U a) λd=>(some (d)))else(if b=(23:Int)then(Option.bind (nT U a (λl=>pO U l)) λe=>(some (e)))else(if b=(24:Int)then(bI (uG a) U ((1073741824:Int),(0:Int)))else(if b=(25:Int)then(Option.bind (rI U a) λf=>(some (f.1)))else(if b=(26:Int)then(bI (uH U a) U ((0:Int),(0:Int)))else(if b=(27:Int)then(Option.bind (BD U a) λg=>(some (g)))else(if b=(28:Int)then(Option.bind (rI U a) λh=>(some (h.2)))else(if(a.length:Int)=(0:Int)then(some (0:Int))else(ck (0<=(0:Int)∧(0:Int)<(a.length:Int)) (some (at' a (0:Int)))))))))))))
theorem abW:aW Tryz.prog 188:=Tryz.call188
theorem Rz (U:Nat) {H:Int} {g:aR} (f:Value) (r:Int) (h:Cc U H g=some r):
  aY Tryz.prog 188 #[vI (H),f] [Sl bN f g] (λx:Unit=>vI (r)) (λx l=>l) (λ_ l=>l):=by
 refine aY.of Tryz.func188 Z Tryz.ntmps188 Z λc=>?_;refine aX<|aD Z<|aN<|aK<|aX<|aA Z<|aN<|aT<|aX<|cS Z<|aD Z<|aN ?_;refine fD h Z (λh=>?_) λh=>?_
 ·refine aX<|aA Z<|eZ h λK N h=>aH (zBa Oc (DV U f K N) Z (mT [0] Z)) Z λY=>aA Z<|jN (aE.fact 0 Z) Z<|cS Z<|eZ h λL O h=>aH (zBa zS (lR U  L O) Z .nil) Z λx7=>aD Z<|aN<|aV<|bM<|aJ ?_;cases h;exact lA Z
 refine aX<|cS Z<|aD Z<|aN ?_;refine fD h Z (λh=>?_) λh=>?_
 ·refine aX<|aA Z<|eZ h λM z h=>aH (zBa Oc (DV U f M z) Z (mT [0] Z)) Z λP=>aB (xQ Z Z) Z<|eZ h λq A h=>aH (zBa zS (lR U  q A) Z .nil) Z λQ=>aD Z<|aN<|aV<|bM<|aJ ?_;cases h;exact lA Z
 refine aX<|cS Z<|aD Z<|aN ?_;refine fD h Z (λh=>?_) λh=>?_
 ·refine aX<|aA Z<|eZ h λs B h=>aH (zBa Oc (DV U f s B) Z (mT [0] Z)) Z λR=>aD Z<|aN<|aV<|bM<|aJ ?_;cases h;exact lA Z
 refine aX<|cS Z<|aD Z<|aN ?_;refine fD h Z (λh=>?_) λh=>?_
 ·refine aX<|aA Z<|eZ h λt C h=>aH (zBa abY (GT U 199 [] [] abZ (λy0 r h=>Mv U  r h) f t C) Z (mT [0] Z)) Z λS=>aD Z<|aN<|aV<|bM<|aJ ?_;cases h;exact lA Z
 refine aX<|cS Z<|aD Z<|aN ?_;refine fD h Z (λh=>?_) λh=>?_
 ·refine aX<|aD Z<|aN<|aK<|dW (λd=>Ba  d=some r) (λd i=>[(5,vI (d))]) (λd i=>[]) ?_ ?_
  ·refine aX<|aA Z<|jN (aE.fact 0 Z) Z<|aA Z<|aN<|aT<|dX (uG g) (λa j=>[(5,vI (a.1)),(40,f),(41,vI (g.length:Int)),(42,vI (a.2))]) (λa j=>[]) ((1073741824:Int),(0:Int)) () h SF (a_.refl _) ?_;intro I a j h;refine aX<|cM Z<|aN<|aK ?_;refine fD h Z (λh=>?_) λh=>?_
   ·refine cL<|aK<|aT<|aX<|cT h λn h=>aB (aZ Z Z (aE.fact 0 Z) Z Z n) Z<|aB (bR Z (aE.fact 0 Z) Z Z Z cR n) Z<|aD Z<|aN<|aQ<|aA Z<|aA Z<|aB (adG Z Z) Z<|aD Z<|eM<|mN<|aQ<|cJ Z<|aA Z<|aN ?_;exact xR ((min a.1 (at' g a.2)),(wI .i64 (a.2+(1:Int)))) () h SF Z
   refine e_ ?_;exact gJ (a.1) () h SF Z
  intro d i h;unfold Ba at h;refine aX<|aA Z<|aD Z<|aN<|aV<|bM<|aJ ?_;cases h;exact lA Z
 refine aX<|cS Z<|aD Z<|aN ?_;refine fD h Z (λh=>?_) λh=>?_
 ·refine aX<|aA Z<|eZ h λu D h=>aH (zBa UI (BL U f u D) Z (mT [0] Z)) Z λT=>aA Z<|jM Z<|jM Z<|aD Z<|aD Z<|aN<|aX<|aA Z<|aD Z<|aN<|aV<|bM<|aJ ?_;cases h;exact lA Z
 refine aX<|cS Z<|aD Z<|aN ?_;refine fD h Z (λh=>?_) λh=>?_
 ·refine aX<|aD Z<|aN<|aK<|dW (λe=>Dr U e=some r) (λe k=>[(10,vI (e))]) (λe k=>[]) ?_ ?_
  ·refine aX<|aA Z<|jN (aE.fact 0 Z) Z<|aA Z<|aN<|aT<|dX (uH U g) (λb m=>[(10,vI (b.1)),(61,f),(62,vI (g.length:Int)),(63,vI (b.2))]) (λb m=>[]) ((0:Int),(0:Int)) () h SF (a_.refl _) ?_;intro J b m h;refine aX<|cM Z<|aN<|aK ?_;refine fD h Z (λh=>?_) λh=>?_
   ·refine cL<|aK<|aT<|aX<|cT h λo h=>aB (aZ Z Z (aE.fact 0 Z) Z Z o) Z<|aB (bR Z (aE.fact 0 Z) Z Z Z cR o) Z<|aD Z<|aN<|aQ<|aA Z<|aA Z<|cJ Z<|aD Z<|eM<|mN<|aQ<|cJ Z<|aA Z<|aN ?_;exact xR ((wI .i64 (b.1+(at' g b.2))),(wI .i64 (b.2+(1:Int)))) () h SF Z
   refine e_ ?_;exact gJ (b.1) () h SF Z
  intro e k h;refine aX<|aA Z<|eZ h λv E h=>aH (zBa Fx (nD U  v E) Z .nil) Z λV=>aD Z<|aN<|aV<|bM<|aJ ?_;cases h;exact lA Z
 refine aX<|cS Z<|aD Z<|aN ?_;refine fD h Z (λh=>?_) λh=>?_
 ·refine aX<|aA Z<|eZ h λw F h=>aH (zBa ab_ (T_ U f w F) Z (mT [0] Z)) Z λW=>aD Z<|aN<|aV<|bM<|aJ ?_;cases h;exact lA Z
 refine aX<|cS Z<|aD Z<|aN ?_;refine fD h Z (λh=>?_) λh=>?_
 ·refine aX<|aA Z<|eZ h λy G h=>aH (zBa UI (BL U f y G) Z (mT [0] Z)) Z λX=>aA Z<|jM Z<|jM Z<|aD Z<|aD Z<|aN<|aX<|aA Z<|aD Z<|aN<|aV<|bM<|aJ ?_;cases h;exact lA Z
 refine dY<|mN<|aK<|aX<|aA Z<|jN (aE.fact 0 Z) Z<|cS Z<|aN ?_;refine fD h Z (λh=>?_) λh=>?_
 ·refine aX<|aD Z<|aN<|aV<|aJ ?_;cases h;exact lA Z
 refine cL<|aX<|aA Z<|cT h λp h=>aB (aZ Z Z (aE.fact 0 Z) Z Z p) Z<|aB (bR Z (aE.fact 0 Z) Z Z Z cR p) Z<|aD Z<|aN<|aV ?_;cases h;exact lA Z
end Go.Proofs.YtlkhndebimcbbaaGreatDoor