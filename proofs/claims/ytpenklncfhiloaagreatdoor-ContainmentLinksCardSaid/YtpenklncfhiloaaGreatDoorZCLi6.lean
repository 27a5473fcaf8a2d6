/- Models and proofs. Conditions: none. -/
import Derived.Test.YtpenklncfhiloaaGreatDoorZCLi5
import Derived.Test.YtpenklncfhiloaaGreatDoorZCLi4
import Derived.Test.YtpenklncfhiloaaGreatDoorZCLi1
import Derived.KernelRfl
import Derived.Test.YtpenklncfhiloaaGreatDoorZCLi2
set_option linter.unusedVariables false
set_option linter.unusedSimpArgs false
set_option maxHeartbeats 4000000
set_option maxRecDepth 20000
section
section
namespace Go.Proofs.YtpenklncfhiloaaGreatDoor
open Go.Sx
section
theorem Pp {R:Type} {step:Int->(Int->Option R)->Option R} {K:Option R} {bad:R} (N:Nat) (p:Nat->Prop)
  (q:∀(k:Nat) b,k<N->p k->step k b=b ((k:Int)+1)) (g:∀(k:Nat) b,k<N->¬p k->step k b=some bad) (i:∀b,step N b=K):
  ∀(fuel:Nat),N<fuel->((∀k,k<N->p k)->bM step fuel 0=K)∧(¬(∀k,k<N->p k)->bM step fuel 0=some bad):=by
 intro fuel o
 have r:∀(d a fuel:Nat),a+d=N->d<fuel->((∀k,a<=k->k<N->p k)->bM step fuel (a:Int)=K)∧(¬(∀k,a<=k->k<N->p k)->bM step fuel (a:Int)=some bad):=by
  intro d
  induction d with
  |zero=>
   intro a fuel u o
   obtain rfl:a=N:=by omega
   cases fuel with
   |zero=>omega
   |succ f=>exact⟨fun _=>i _,fun h=>absurd (fun k l c=>by omega) h⟩
  | succ d ih =>
   intro a fuel u o
   cases fuel with
   |zero=>omega
   | succ f =>
    obtain⟨s,t⟩:=ih (a+1) f (by omega) (by omega)
    have e:((a+1:Nat):Int)=(a:Int)+1:=by omega
    rw[e]at s t
    by_cases m:p a
    ·have v:bM step (f+1) (a:Int)=bM step f ((a:Int)+1):=q a _ (by omega) m
     rw[v]
     refine⟨fun h=>s fun k l c=>h k (by omega) c,fun h=>t fun n=>h fun k l c=> ?_⟩
     by_cases j:k=a
     ·subst j;exact m
     ·exact n k (by omega) c
    ·exact⟨fun h=>absurd (h a (Nat.le_refl _) (by omega)) m,fun _=>g a _ (by omega) m⟩
 obtain⟨l,c⟩:=r N 0 fuel (by omega) o
 exact⟨fun h=>l fun k _ j=>h k j,fun h=>c fun n=>h fun k j=>n k (by omega) j⟩
abbrev GR:=List Int×cJ
abbrev row (g:GR) (v:Nat):dQ:=at' g.2 (v:Int)
abbrev Wn (g:GR) (v:Nat):Int:=at' g.1 (v:Int)
abbrev fX (l:dQ) (i:Nat):eS:=at' l (i:Int)
def light (g:GR):Prop:=g.1.length<=30∧g.2.length<=30∧∀v,v<g.2.length->(row g v).length<=30
def GX (l:dQ) (v n i:Nat):Prop:=(0<=(fX l i).1∧(fX l i).1<=(n:Int) - 1)∧(fX l i).1≠v∧(1<=(fX l i).2∧(fX l i).2<=15)∧∀k,k<i->(fX l k).1≠(fX l i).1
def qF (l:dQ) (v n:Nat):Prop:=∀i,i<l.length->GX l v n i
def sD (l:dQ) (u:Int):Int:=match l.findIdx? (fun x=>decide (x.1=u))with
 |some i=>i
 |none=> -1
theorem Mq {l:dQ} {u:Int} (i:Nat) (b:i<l.length) (d:(fX l i).1=u) (c:∀k,k<i->(fX l k).1≠u):sD l u=i:=by
 have:l.findIdx? (fun x=>decide (x.1=u))=some i:=by
  rw[List.findIdx?_eq_some_iff_getElem]
  have e:∀k (a:k<l.length),fX l k=l[k]:=fun k a=>by rw[fX,gG,List.getD_eq_getElem?_getD,List.getElem?_eq_getElem a];rfl
  refine⟨b,by rw[<-e i b];simpa using d,fun k a=> ?_⟩
  have:=c k a
  rw[e k (by omega)]at this
  simpa using this
 rw[sD,this]
theorem Mo {l:dQ} {u:Int} (b:∀k,k<l.length->(fX l k).1≠u):sD l u = -1:=by
 have:l.findIdx? (fun x=>decide (x.1=u))=none:=by
  rw[List.findIdx?_eq_none_iff]
  intro x c
  obtain⟨k,a,rfl⟩:=List.getElem_of_mem c
  have:=b k a
  rw[fX,gG,List.getD_eq_getElem?_getD,List.getElem?_eq_getElem a]at this
  simpa using this
 rw[sD,this]
theorem rT (l:dQ) (u:Int):(∃i,i<l.length∧(fX l i).1=u∧(∀k,k<i->(fX l k).1≠u)∧sD l u=i)∨((∀k,k<l.length->(fX l k).1≠u)∧sD l u = -1):=by
 by_cases h:∀k,k<l.length->(fX l k).1≠u
 ·exact .inr ⟨h,Mo h⟩
 ·left
  have f:∃k,k<l.length∧(fX l k).1=u:=by
   apply Classical.byContradiction
   intro hc
   exact h fun k g e=>hc ⟨k,g,e⟩
  obtain⟨k,g,n⟩:=f
  have:∀m,(∃k,k<=m∧k<l.length∧(fX l k).1=u)->∃i,i<l.length∧(fX l i).1=u∧∀k,k<i->(fX l k).1≠u:=by
   intro m
   induction m with
   |zero=>rintro⟨k,d,a,b⟩;exact⟨k,a,b,fun j o=>by omega⟩
   |succ m p=>
    rintro⟨k,d,a,b⟩
    by_cases c:∃j,j<=m∧j<l.length∧(fX l j).1=u
    ·exact p c
    ·exact⟨k,a,b,fun j o e=>c ⟨j,by omega,by omega,e⟩⟩
  obtain⟨i,d,a,b⟩:=this k ⟨k,Nat.le_refl _,g,n⟩
  exact⟨i,d,a,b,Mq i d a b⟩
theorem Oe (g:GR) (v:Nat) (u:Int) (hv:v<g.2.length) (hl:(row g v).length<=30):rQ 1000 g v u=some (sD (row g v) u):=by
 unfold rQ
 rcases rT (row g v) u with⟨i,hi,hu,hf,he⟩|⟨hf,he⟩
 ·rw[he]
  refine Cu (fun x:Int=>∃k:Nat,x=k∧k<=i) (fun x=>31 - x.toNat) ?_ 1000 _ ⟨0,rfl,by omega⟩ (by omega)
  rintro x ag ⟨k,rfl,hk⟩ hag
  unfold wL
  rw[cQ (by omega),if_pos (show(k:Int)<((row g v).length:Int) by omega),cQ (by omega),cQ (show 0<=(k:Int)∧(k:Int)<((row g v).length:Int) by omega)]
  by_cases e:k=i
  ·subst e;exact if_pos hu
  ·rw[if_neg (hf k (by omega)),wr (by omega) (by omega)]
   exact hag _ ⟨k+1,by omega,by omega⟩ (by omega)
 ·rw[he]
  refine Cu (fun x:Int=>∃k:Nat,x=k∧k<=(row g v).length) (fun x=>31 - x.toNat) ?_ 1000 _ ⟨0,rfl,by omega⟩ (by omega)
  rintro x ag ⟨k,rfl,hk⟩ hag
  unfold wL
  rw[cQ (by omega)]
  by_cases e:k<(row g v).length
  ·rw[if_pos (show(k:Int)<((row g v).length:Int) by omega),cQ (by omega),cQ (show 0<=(k:Int)∧(k:Int)<((row g v).length:Int) by omega),if_neg (hf k e),wr (by omega) (by omega)]
   exact hag _ ⟨k+1,by omega,by omega⟩ (by omega)
  ·rw[if_neg (show¬(k:Int)<((row g v).length:Int) by omega)];rfl
end
section
theorem Ei {X R:Type} {step:X->(X->Option R)->Option R} {K:X->Option R} {bad:R} (N:Nat) (p:Nat->Prop) (I:Nat->X->Prop)
  (s:∀(k:Nat) x e,k<N->I k x->p k->∃b,I (k+1) b∧step x e=e b) (i:∀(k:Nat) x e,k<N->I k x->¬p k->step x e=some bad) (j:∀x e,I N x->step x e=K x):
  ∀(fuel:Nat) (x:X),I 0 x->N<fuel->((∀k,k<N->p k)->∃b,I N b∧bM step fuel x=K b)∧(¬(∀k,k<N->p k)->bM step fuel x=some bad):=by
 intro fuel x c r
 have u:∀(d a fuel:Nat) (x:X),a+d=N->d<fuel->I a x->((∀k,a<=k->k<N->p k)->∃b,I N b∧bM step fuel x=K b)∧(¬(∀k,a<=k->k<N->p k)->bM step fuel x=some bad):=by
  intro d
  induction d with
  |zero=>
   intro a fuel x v r c
   obtain rfl:a=N:=by omega
   cases fuel with
   |zero=>omega
   |succ f=>exact⟨fun _=>⟨x,c,j _ _ c⟩,fun h=>absurd (fun k m g=>by omega) h⟩
  | succ d ih =>
   intro a fuel x v r c
   cases fuel with
   |zero=>omega
   | succ f =>
    by_cases n:p a
    ·obtain⟨b,q,t⟩:=s a x (bM step f) (by omega) c n
     have t:bM step (f+1) x=bM step f b:=t
     obtain⟨w,y⟩:=ih (a+1) f b (by omega) (by omega) q
     rw[t]
     refine⟨fun h=>w fun k m g=>h k (by omega) g,fun h=>y fun o=>h fun k m g=> ?_⟩
     by_cases l:k=a
     ·subst l;exact n
     ·exact o k (by omega) g
    ·exact⟨fun h=>absurd (h a (Nat.le_refl _) (by omega)) n,fun _=>i a x _ (by omega) c n⟩
 obtain⟨m,g⟩:=u N 0 fuel x (by omega) r c
 exact⟨fun h=>m fun k _ l=>h k l,fun h=>g fun o=>h fun k l=>o k (by omega) l⟩
def FI (g:GR) (v i:Nat):Prop:=∃j,j<(at' g.2 (fX (row g v) i).1).length∧(fX (at' g.2 (fX (row g v) i).1) j).1=v∧(fX (at' g.2 (fX (row g v) i).1) j).2=(fX (row g v) i).2
structure Xz (g:GR) (v:Nat):Prop where
 id:0<=Wn g v∧Wn g v<=255
 deg:(row g v).length<g.2.length
 links:qF (row g v) v g.2.length
 ids:∀k,k<v->Wn g k≠Wn g v
structure VG (g:GR):Prop where
 n1:1<=g.2.length
 n24:g.2.length<=24
 len:g.1.length=g.2.length
 node:∀v,v<g.2.length->Xz g v
 sym:∀v,v<g.2.length->∀i,i<(row g v).length->FI g v i
theorem uD {a:Type} [Inhabited a] (l:List a) (i k:Nat) (y:a) (b:i<l.length):at' (l.set i y) (k:Int)=if k=i then y else at' l (k:Int):=by
 rw[gG,gG,List.getD_eq_getElem?_getD,List.getD_eq_getElem?_getD,List.getElem?_set]
 by_cases h:i=k
 ·rw[if_pos h,if_pos h.symm,if_pos (by omega)];rfl
 ·rw[if_neg h,if_neg (Ne.symm h)]
def RE (l:aQ) (k:Nat):Prop:=(0<=at' l (k:Int)∧at' l (k:Int)<=255)∧∀j,j<k->at' l (j:Int)≠at' l (k:Int)
theorem sS (l:aQ) (hl:l.length<=30):((∀k,k<l.length->RE l k)->iD 1000 l=some true)∧(¬(∀k,k<l.length->RE l k)->iD 1000 l=some false):=by
 unfold iD
 have key:=Ei (step:=fF l) (K:=fun _=>some true) (bad:=false) l.length (RE l) (fun k x=>x.1=(k:Int)∧x.2.length=256∧∀z:Nat,z<256->(at' x.2 (z:Int)=true↔∃j,j<k∧at' l (j:Int)=(z:Int))) ?_ ?_ ?_ 1000 ((0:Int),(List.replicate 256 false)) ⟨rfl,List.length_replicate ..,fun z hz=> ?_⟩ (by omega)
 ·exact⟨fun h=>by obtain⟨x,_,hx⟩:=key.1 h;exact hx,key.2⟩
 ·rintro k ⟨x1,x2⟩ ag hk ⟨hx,hlen,hs⟩ ⟨hr,hd⟩
  dsimp only at hx hlen hs
  subst hx
  obtain⟨z,hz⟩:∃z:Nat,at' l (k:Int)=z:=⟨(at' l (k:Int)).toNat,by omega⟩
  have hz2:z<256:=by omega
  have hno:¬at' x2 (z:Int)=true:=by
   rw[hs z hz2]
   rintro⟨j,hj,he⟩
   exact hd j hj (he.trans hz.symm)
  refine⟨((k:Int)+1,x2.set z true),⟨by simp,by simp[hlen],fun y hy=> ?_⟩,?_⟩
  ·dsimp only
   rw[uD _ _ _ _ (by omega)]
   by_cases hyz:y=z
   ·subst hyz
    rw[if_pos rfl]
    exact⟨fun _=>⟨k,by omega,hz⟩,fun _=>rfl⟩
   ·rw[if_neg hyz,hs y hy]
    constructor
    ·rintro⟨j,hj,he⟩;exact⟨j,by omega,he⟩
    ·rintro⟨j,hj,he⟩
     by_cases hjk:j=k
     ·subst hjk;rw[hz]at he;omega
     ·exact⟨j,by omega,he⟩
  ·unfold fF gM
   dsimp only
   rw[if_pos (by omega),cQ (by omega),hz,if_neg (by omega),if_neg (by omega),cQ ⟨by omega,hlen⟩,if_neg hno,cQ ⟨by omega,hlen⟩,wr (by omega) (by omega)]
   rfl
 ·rintro k ⟨x1,x2⟩ ag hk ⟨hx,hlen,hs⟩ hp
  dsimp only at hx hlen hs
  subst hx
  unfold fF gM
  dsimp only
  rw[if_pos (by omega),cQ (by omega)]
  by_cases h1:at' l (k:Int)<0
  ·rw[if_pos h1,if_pos rfl]
  rw[if_neg h1]
  by_cases h2:255<at' l (k:Int)
  ·rw[if_pos h2,if_pos rfl]
  rw[if_neg h2]
  obtain⟨z,hz⟩:∃z:Nat,at' l (k:Int)=z:=⟨(at' l (k:Int)).toNat,by omega⟩
  rw[hz,cQ ⟨by omega,hlen⟩,if_pos]
  rw[hs z (by omega)]
  apply Classical.byContradiction
  intro hc
  exact hp ⟨by omega,fun j hj he=>hc ⟨j,hj,he.trans hz⟩⟩
 ·rintro⟨x1,x2⟩ ag ⟨hx,_,_⟩
  dsimp only at hx
  subst hx
  unfold fF mI
  dsimp only
  rw[if_neg (by omega)]
 ·rw[show at' (List.replicate 256 false) (z:Int)=false by rw[gG,List.getD_eq_getElem?_getD,List.getElem?_replicate,if_pos hz];rfl]
  exact⟨fun h=>(by cases h),fun⟨j,hj,_⟩=>(by omega)⟩
theorem QY {d e:Type} [DecidableEq d] (k c:d) (v:e):∀l:List (d×e),lI c (AY k v l)=if c=k then some v else lI c l
 | []=>by simp only[AY,lI]
 | x :: xs => by
  simp only[AY]
  by_cases h:k=x.1
  ·rw[if_pos h];simp only[lI]
   by_cases a:c=k
   ·rw[if_pos a,if_pos a]
   ·rw[if_neg a,if_neg a,if_neg (fun b=>a (b.trans h.symm))]
  ·rw[if_neg h];simp only[lI]
   by_cases a:c=x.1
   ·rw[if_pos a,if_neg (fun b=>h (b.symm.trans a)),if_pos a]
   ·rw[if_neg a,QY k c v xs]
    by_cases b:c=k
    ·rw[if_pos b,if_pos b]
    ·rw[if_neg b,if_neg b,if_neg a]
theorem Mc {a b:Type} [DecidableEq a] {k:a} {v:b} {z:a×b} {l:List (a×b)} (c:lI k l=none):z∈AY k v l↔z=(k,v)∨z∈l:=by
 rw[Fl k v l c]
 simp[or_comm]
theorem Fj {a c:Type} [DecidableEq a] {k:a}:∀{l:List (a×c)},(∀v,(k,v)∉l)->lI k l=none
 | [],_=>rfl
 |x::xs,h=>by
  simp only[lI]
  rw[if_neg (fun e=>h x.2 (by rw[e];exact List.mem_cons_self ..))]
  exact Fj fun v b=>h v (List.mem_cons_of_mem _ b)
theorem sK {κ ν:Type} [DecidableEq κ] {k:κ} {v:ν}:∀{l:List (κ×ν)},lI k l=none->(k,v)∉l
 | [],_=>by simp
 | x :: xs, h => by
  simp only[lI]at h
  by_cases e:k=x.1
  ·rw[if_pos e]at h;cases h
  ·rw[if_neg e]at h
   intro hm
   rcases List.mem_cons.1 hm with h2|h2
   ·exact e (by rw[<-h2])
   ·exact sK h h2
theorem As {a b:Type} [DecidableEq a] {k:a} {v:b}:∀{l:List (a×b)},lI k l=some v->(k,v)∈l
 |x::xs,h=>by
  simp only[lI]at h
  by_cases e:k=x.1
  ·rw[if_pos e]at h;cases h;rw[e];exact List.mem_cons_self ..
  ·rw[if_neg e]at h;exact List.mem_cons_of_mem _ (As h)
theorem HS {a b:Type} (p:a×b->Prop) [DecidablePred p]:∀l:List (a×b),IC (fun d x=>if p d then some false else x) (some true) l=some (decide (∀z∈l,¬p z))
 | []=>by simp[IC]
 |x::xs=>by
  show(if p x then some false else IC _ (some true) xs)=_
  rw[HS p xs]
  by_cases h:p x
  ·rw[if_pos h];congr 1;symm;exact decide_eq_false fun c=>c x (List.mem_cons_self ..) h
  ·rw[if_neg h];congr 1;apply decide_eq_decide.2;simp[h]
def Ln (ps:cJ) (v i:Nat) (z:(Int×Int)×Int):Prop:=∃a b:Nat,(a<v∨(a=v∧b<i))∧b<(at' ps (a:Int)).length∧z=(((a:Int),(fX (at' ps (a:Int)) b).1),(fX (at' ps (a:Int)) b).2)
def IP (ps:cJ):Prop:=(∀v,v<ps.length->qF (at' ps (v:Int)) v ps.length)∧∀v,v<ps.length->∀i,i<(at' ps (v:Int)).length->FI ([],ps) v i
theorem Eu (ps:cJ) (hn:ps.length<=30) (hd:∀v,v<ps.length->(at' ps (v:Int)).length<=30):(IP ps->fJ 1000 ps=some true)∧(¬IP ps->fJ 1000 ps=some false):=by
 unfold fJ
 have inner:∀(v:Nat) (m:List ((Int×Int)×Int)) ag,v<ps.length->(∀z,z∈m↔Ln ps v 0 z)->
   (qF (at' ps (v:Int)) v ps.length->∃m',(∀z,z∈m'↔Ln ps (v+1) 0 z)∧bM (cD ps ((v:Int),m) ag) 1000 ((0:Int),m)=ag ((v:Int)+1,m'))∧
   (¬qF (at' ps (v:Int)) v ps.length->bM (cD ps ((v:Int),m) ag) 1000 ((0:Int),m)=some false):=by
  intro v m ag hv hm
  have hdv:=hd v hv
  have key:=Ei (step:=cD ps ((v:Int),m) ag) (K:=fun x=>ag ((v:Int)+1,x.2)) (bad:=false) (at' ps (v:Int)).length (GX (at' ps (v:Int)) v ps.length) (fun i x=>x.1=(i:Int)∧∀z,z∈x.2↔Ln ps v i z) ?_ ?_ ?_ 1000 ((0:Int),m) ⟨rfl,hm⟩ (by omega)
  ·refine⟨fun h=> ?_,fun h=>key.2 h⟩
   obtain⟨x,⟨hx1,hx2⟩,hx⟩:=key.1 h
   refine⟨x.2,fun z=>(hx2 z).trans ⟨?_,?_⟩,hx⟩
   ·rintro⟨a,b,h1,h2,h3⟩;exact⟨a,b,by omega,h2,h3⟩
   ·rintro⟨a,b,h1,h2,h3⟩
    refine⟨a,b,?_,h2,h3⟩
    by_cases ha:a=v
    ·subst ha;exact .inr ⟨rfl,h2⟩
    ·omega
  ·rintro i ⟨x1,x2⟩ ag2 hi ⟨hx,hs⟩ ⟨p1,p2,p3,p4⟩
   dsimp only at hx hs
   subst hx
   have hg:lI (((v:Int),(fX (at' ps (v:Int)) i).1)) x2=none:=by
    apply Fj
    intro w hw
    obtain⟨a,b,h1,h2,h3⟩:=(hs _).1 hw
    simp only[Prod.mk.injEq]at h3
    obtain⟨⟨h4,h5⟩,_⟩:=h3
    have:a=v:=by omega
    subst this
    have hb:b<i:=by omega
    exact p4 b hb h5.symm
   refine⟨((i:Int)+1,AY (((v:Int),(fX (at' ps (v:Int)) i).1)) (fX (at' ps (v:Int)) i).2 x2),⟨by simp,fun z=> ?_⟩,?_⟩
   ·dsimp only
    rw[Mc hg,hs]
    constructor
    ·rintro(rfl|⟨a,b,h1,h2,h3⟩)
     ·exact⟨v,i,.inr ⟨rfl,by omega⟩,hi,rfl⟩
     ·exact⟨a,b,by omega,h2,h3⟩
    ·rintro⟨a,b,h1,h2,h3⟩
     by_cases hab:a=v∧b=i
     ·left;rw[h3,hab.1,hab.2]
     ·right;exact⟨a,b,by omega,h2,h3⟩
   ·replace p1:0<=(at' (at' ps (v:Int)) (i:Int)).1∧(at' (at' ps (v:Int)) (i:Int)).1<=(ps.length:Int) - 1:=p1
    replace p3:1<=(at' (at' ps (v:Int)) (i:Int)).2∧(at' (at' ps (v:Int)) (i:Int)).2<=15:=p3
    unfold cD fP gX
    dsimp only
    rw[if_pos (by omega),cQ (by omega),if_neg (by omega),if_neg (by omega),if_neg (by rw[decide_eq_false p2];simp),if_neg (by omega),if_neg (by rw[decide_eq_false (by omega)];simp),hg,if_neg (by simp),wr (by omega) (by omega)]
  ·rintro i ⟨x1,x2⟩ ag2 hi ⟨hx,hs⟩ hp
   dsimp only at hx hs
   subst hx
   unfold cD fP gX
   dsimp only
   rw[if_pos (by omega),cQ (by omega)]
   by_cases h1:(fX (at' ps (v:Int)) i).1<0
   ·rw[if_pos h1,if_pos rfl]
   rw[if_neg h1]
   by_cases h2:(ps.length:Int)<=(fX (at' ps (v:Int)) i).1
   ·rw[if_pos h2,if_pos rfl]
   rw[if_neg h2]
   by_cases h3:(fX (at' ps (v:Int)) i).1=v
   ·rw[if_pos (decide_eq_true h3)]
   rw[if_neg (by rw[decide_eq_false h3];simp)]
   by_cases h4:(fX (at' ps (v:Int)) i).2<1
   ·rw[if_pos h4,if_pos rfl]
   rw[if_neg h4]
   by_cases h5:15<(fX (at' ps (v:Int)) i).2
   ·rw[if_pos (decide_eq_true h5)]
   rw[if_neg (by rw[decide_eq_false h5];simp)]
   have:∃k,k<i∧(fX (at' ps (v:Int)) k).1=(fX (at' ps (v:Int)) i).1:=by
    apply Classical.byContradiction
    intro hc
    exact hp ⟨by omega,h3,by omega,fun k hk he=>hc ⟨k,hk,he⟩⟩
   obtain⟨k,hk,he⟩:=this
   have hin:=(hs _).2 ⟨v,k,.inr ⟨rfl,hk⟩,by omega,rfl⟩
   rw[if_pos]
   rw[<-he]
   cases hg:lI (((v:Int),(fX (at' ps (v:Int)) k).1)) x2 with
   |some w=>rfl
   | none => exact absurd hin (by
     intro hin
     exact sK hg hin)
  ·rintro⟨x1,x2⟩ ag2 ⟨hx,hs⟩
   dsimp only at hx hs
   subst hx
   unfold cD lQ
   dsimp only
   rw[if_neg (by omega),wr (by omega) (by omega)]
 have outer:=Ei (step:=cP 1000 ps) (K:=fun x=>gW x.2) (bad:=false) ps.length (fun v=>qF (at' ps (v:Int)) v ps.length) (fun v x=>x.1=(v:Int)∧∀z,z∈x.2↔Ln ps v 0 z) ?_ ?_ ?_ 1000 ((0:Int),[]) ⟨rfl,fun z=>⟨fun h=>(by cases h),fun⟨a,b,h1,_⟩=>(by omega)⟩⟩ (by omega)
 rotate_left
 ·rintro v ⟨x1,x2⟩ ag hv ⟨hx,hs⟩ hp
  dsimp only at hx hs
  subst hx
  obtain⟨m',h1,h2⟩:=(inner v x2 ag hv hs).1 hp
  refine⟨((v:Int)+1,m'),⟨by simp,h1⟩,?_⟩
  ·unfold cP
   dsimp only
   rw[if_pos (by omega),cQ (by omega)]
   exact h2
 ·rintro v ⟨x1,x2⟩ ag hv ⟨hx,hs⟩ hp
  dsimp only at hx hs
  subst hx
  unfold cP
  dsimp only
  rw[if_pos (by omega),cQ (by omega)]
  exact(inner v x2 ag hv hs).2 hp
 ·rintro⟨x1,x2⟩ ag ⟨hx,hs⟩
  dsimp only at hx hs
  subst hx
  unfold cP
  dsimp only
  rw[if_neg (by omega)]
 by_cases hL:∀v,v<ps.length->qF (at' ps (v:Int)) v ps.length
 rotate_left
 ·exact⟨fun h=>absurd h.1 hL,fun _=>outer.2 hL⟩
 obtain⟨⟨x1,x2⟩,⟨hx,hs⟩,he⟩:=outer.1 hL
 rw[he]
 dsimp only at hs ⊢
 have hk:gW x2=some (decide (∀z∈x2,¬(Option.getD (lI (z.1.2,z.1.1) x2) (0:Int))≠z.2)):=HS (fun z:(Int×Int)×Int=>(Option.getD (lI (z.1.2,z.1.1) x2) (0:Int))≠z.2) x2
 rw[hk]
 have hiff:(∀z∈x2,¬(Option.getD (lI (z.1.2,z.1.1) x2) (0:Int))≠z.2)↔∀v,v<ps.length->∀i,i<(at' ps (v:Int)).length->FI ([],ps) v i:=by
  constructor
  ·intro h v hv i hi
   have hw:=(hL v hv i hi).2.2.1
   have hin:=(hs (((v:Int),(fX (at' ps (v:Int)) i).1),(fX (at' ps (v:Int)) i).2)).2 ⟨v,i,.inl hv,hi,rfl⟩
   have h2:=Decidable.not_not.1 (h _ hin)
   dsimp only at h2
   cases hg:lI ((fX (at' ps (v:Int)) i).1,(v:Int)) x2 with
   |none=>rw[hg]at h2;simp only[Option.getD]at h2;omega
   | some w =>
    rw[hg]at h2;simp only[Option.getD]at h2
    obtain⟨a,b,h3,h4,h5⟩:=(hs _).1 (As hg)
    simp only[Prod.mk.injEq]at h5
    obtain⟨⟨h6,h7⟩,h8⟩:=h5
    refine⟨b,?_,?_,?_⟩
    ·show b<(at' ps (fX (at' ps (v:Int)) i).1).length
     rw[h6];exact h4
    ·show(fX (at' ps (fX (at' ps (v:Int)) i).1) b).1=v
     rw[h6];exact h7.symm
    ·show(fX (at' ps (fX (at' ps (v:Int)) i).1) b).2=(fX (at' ps (v:Int)) i).2
     rw[h6,<-h8];exact h2
  ·intro h z hz hne
   obtain⟨a,b,h3,h4,rfl⟩:=(hs z).1 hz
   have ha:a<ps.length:=by omega
   apply hne
   obtain⟨j,hj1,hj2,hj3⟩:=h a ha b h4
   have hu:=(hL a ha b h4).1
   obtain⟨u,hu'⟩:∃u:Nat,(fX (at' ps (a:Int)) b).1=u:=⟨(fX (at' ps (a:Int)) b).1.toNat,by omega⟩
   replace hj1:j<(at' ps (fX (at' ps (a:Int)) b).1).length:=hj1
   replace hj2:(fX (at' ps (fX (at' ps (a:Int)) b).1) j).1=a:=hj2
   replace hj3:(fX (at' ps (fX (at' ps (a:Int)) b).1) j).2=(fX (at' ps (a:Int)) b).2:=hj3
   rw[hu']at hj1 hj2 hj3
   have hun:u<ps.length:=by omega
   dsimp only
   rw[hu',<-hj3]
   have hin:=(hs (((u:Int),(fX (at' ps (u:Int)) j).1),(fX (at' ps (u:Int)) j).2)).2 ⟨u,j,.inl hun,hj1,rfl⟩
   rw[hj2]at hin
   cases hg:lI ((u:Int),(a:Int)) x2 with
   |none=>exact absurd hin (sK hg)
   | some w =>
    obtain⟨a',b',h3',h4',h5⟩:=(hs _).1 (As hg)
    simp only[Prod.mk.injEq]at h5
    obtain⟨⟨h6,h7⟩,h8⟩:=h5
    have:a'=u:=by omega
    subst this
    have hbj:b'=j:=by
     rcases Nat.lt_trichotomy b' j with hl|hl|hl
     ·exact absurd (h7.symm.trans hj2.symm) ((hL a' hun j hj1).2.2.2 b' hl)
     ·exact hl
     ·exact absurd (hj2.trans h7) ((hL a' hun b' h4').2.2.2 j hl)
    subst hbj
    exact h8
 by_cases hS:∀v,v<ps.length->∀i,i<(at' ps (v:Int)).length->FI ([],ps) v i
 ·rw[decide_eq_true (hiff.2 hS)]
  exact⟨fun _=>rfl,fun h=>absurd ⟨hL,hS⟩ h⟩
 ·rw[decide_eq_false (fun h=>hS (hiff.1 h))]
  exact⟨fun h=>absurd h.2 hS,fun _=>rfl⟩
theorem Ky:∀(N:Nat) (f:Nat->Nat) (k:Nat),(∀i,i<k->f i<N)->(∀i j,i<j->j<k->f i≠f j)->k<=N
 |0,f,k,h,_=>by
  cases k with
  |zero=>omega
  |succ k=>exact absurd (h 0 (by omega)) (by omega)
 | N + 1, f, k, h, hd => by
  by_cases b:∃a,a<k∧f a=N
  ·obtain⟨a,g,l⟩:=b
   have:=Ky N (fun i=>if i<a then f i else f (i+1)) (k - 1) (fun i c=>by
    split
    ·have:=h i (by omega);have:=hd i a (by omega) g;omega
    ·have:=h (i+1) (by omega);have:=hd a (i+1) (by omega) (by omega);omega) (fun i j d m=>by
    split<;>split
    ·exact hd i j d (by omega)
    ·exact hd i (j+1) (by omega) (by omega)
    ·omega
    ·exact hd (i+1) (j+1) (by omega) (by omega))
   omega
  ·have:=Ky N f k (fun i c=>by
    have:=h i c
    have:f i≠N:=fun e=>b ⟨i,c,e⟩
    omega) hd
   omega
theorem Hu {l:dQ} {v n:Nat} (b:v<n) (h:qF l v n):l.length<n:=by
 have:=Ky n (fun i=>if i=l.length then v else(fX l i).1.toNat) (l.length+1) (fun i e=>by
  split
  ·exact b
  ·have:=(h i (by omega)).1;omega) (fun i j a f=>by
  rw[if_neg (by omega)]
  have c:=(h i (by omega)).1
  split
  ·have:=(h i (by omega)).2.1;omega
  ·have d:=(h j (by omega)).1
   have:=(h j (by omega)).2.2.2 i a
   omega)
 omega
theorem MW (g:GR) (j:light g):(VG g->dB 1000 g=some true)∧(¬VG g->dB 1000 g=some false):=by
 obtain⟨e,f,i⟩:=j
 unfold dB oG oH
 by_cases l:g.1.length<1
 ·rw[if_pos (by omega)]
  exact⟨fun h=>by have:=h.n1;have:=h.len;omega,fun _=>rfl⟩
 rw[if_neg (by omega)]
 by_cases m:24<g.1.length
 ·rw[if_pos (by omega)]
  exact⟨fun h=>by have:=h.n24;have:=h.len;omega,fun _=>rfl⟩
 rw[if_neg (by omega)]
 by_cases d:g.1.length=g.2.length
 rotate_left
 ·rw[decide_eq_true (by omega)]
  exact⟨fun h=>absurd h.len d,fun _=>rfl⟩
 rw[decide_eq_false (by omega),if_neg (by simp)]
 by_cases b:∀k,k<g.1.length->RE g.1 k
 rotate_left
 ·rw[(sS g.1 e).2 b,aZ rfl]
  exact⟨fun h=>absurd (fun k n=>⟨(h.node k (by omega)).id,(h.node k (by omega)).ids⟩) b,fun _=>rfl⟩
 rw[(sS g.1 e).1 b,aZ rfl,if_pos rfl]
 by_cases a:IP g.2
 ·rw[(Eu g.2 f i).1 a]
  exact⟨fun _=>rfl,fun h=>absurd ⟨by omega,by omega,d,fun v c=>⟨(b v (by omega)).1,Hu c (a.1 v c),a.1 v c,(b v (by omega)).2⟩,a.2⟩ h⟩
 ·rw[(Eu g.2 f i).2 a]
  exact⟨fun h=>absurd ⟨fun v c=>(h.node v c).links,h.sym⟩ a,fun _=>rfl⟩
theorem VG.light {g:GR} (h:VG g):light g:=⟨by have:=h.n24;have:=h.len;omega,by have:=h.n24;omega,fun v a=>by have:=(h.node v a).deg;have:=h.n24;omega⟩
end
section
abbrev D (d:aQ) (v:Nat):Int:=at' d (v:Int)
def Iw (g:GR) (v u:Nat):Prop:=∃i,i<(row g v).length∧(fX (row g v) i).1=(u:Int)
theorem VG.port {g:GR} (h:VG g) {v i:Nat} (b:v<g.2.length) (a:i<(row g v).length):∃u:Nat,u<g.2.length∧(fX (row g v) i).1=(u:Int)∧Iw g v u:=by
 have c:=((h.node v b).links i a).1
 exact⟨(fX (row g v) i).1.toNat,by omega,by omega,i,a,by omega⟩
theorem VG.back {g:GR} (h:VG g) {v u:Nat} (f:v<g.2.length) (c:Iw g v u):Iw g u v:=by
 obtain⟨i,d,e⟩:=c
 obtain⟨j,b,a,_⟩:=h.sym v f i d
 rw[e]at b a
 exact⟨j,b,a⟩
def VU (d:aQ):Nat:=d.countP fun x=>decide (x<0)
structure ZH (g:GR) (s:Nat) (d:aQ):Prop where
 len:d.length=g.2.length
 lo:∀v,v<g.2.length -> -1<=D d v
 zero:∀v,v<g.2.length->(D d v=0↔v=s)
 near:∀v,v<g.2.length->0<D d v->∃u,u<g.2.length∧Iw g v u∧D d u=D d v - 1
 hi:∀v,v<g.2.length->D d v+(VU d:Int)<=(g.2.length:Int)
structure Qu (g:GR) (q d:aQ) (b:Int) (done:Nat->Prop):Prop where
 mem:∀y∈q,∃v,v<g.2.length∧y=((v:Nat):Int)∧0<=D d v
 top:∀v,v<g.2.length->D d v<=b
 sort:q.Pairwise fun a c=>at' d a<=at' d c
 done:∀v,v<g.2.length->0<=D d v->((v:Nat):Int)∉q->done v->∀u,u<g.2.length->Iw g v u->0<=D d u∧D d u<=D d v+1
theorem II {d:aQ} {v:Nat} (h:v<d.length):D d v=d[v]:=by
 rw[D,gG,List.getD_eq_getElem?_getD,List.getElem?_eq_getElem h];rfl
theorem SS {d:aQ} {u:Nat} {x:Int} (a:u<d.length) (b:D d u<0) (e:0<=x):VU (d.set u x)+1=VU d:=by
 unfold VU
 rw[List.countP_set a]
 have c:0<d.countP fun x=>decide (x<0):=by
  rw[List.countP_pos_iff]
  exact⟨d[u],List.getElem_mem a,by rw[<-II a];simpa using b⟩
 rw[II a]at b
 rw[if_pos (by simpa using b),if_neg (by simp;omega)]
 omega
theorem assign {g:GR} {s:Nat} {q d:aQ} {b:Int} {done:Nat->Prop} (E:VG g) (l:ZH g s d) {x u:Nat} (m:Qu g q d (D d x+1) done) (B:x<g.2.length) (K:0<=D d x) (J:u<g.2.length) (t:D d u<0) (F:Iw g x u):
  ZH g s (d.set u (D d x+1))∧Qu g (q++[(u:Int)]) (d.set u (D d x+1)) (D d x+1) done:=by
 have o:=l.len
 have e:∀v,D (d.set u (D d x+1)) v=if v=u then D d x+1 else D d v:=fun v=>uD _ _ _ _ (by omega)
 have G:=SS (x:=D d x+1) (by omega:u<d.length) t (by omega)
 refine⟨⟨by simp[o],fun v f=> ?_,fun v f=> ?_,fun v f=> ?_,fun v f=> ?_⟩,⟨fun y j=> ?_,fun v f=> ?_,?_,fun v f k n H w A i=> ?_⟩⟩
 ·rw[e];split
  ·omega
  ·exact l.lo v f
 ·rw[e];split
  ·rename_i h;subst h
   have:=(l.zero v f)
   constructor
   ·intro;omega
   ·intro h;have:=this.2 h;omega
  ·exact l.zero v f
 ·rw[e];split
  ·rename_i h;subst h
   intro _
   refine⟨x,B,E.back B F,?_⟩
   rw[e,if_neg (by intro h;subst h;omega)];omega
  ·intro k
   obtain⟨w,A,i,I⟩:=l.near v f k
   refine⟨w,A,i,?_⟩
   rw[e,if_neg (by intro h;subst h;omega)];exact I
 ·rw[e];split
  ·have:=l.hi x B;omega
  ·have:=l.hi v f;omega
 ·rcases List.mem_append.1 j with j|j
  ·obtain⟨v,f,rfl,k⟩:=m.mem y j
   refine⟨v,f,rfl,?_⟩
   rw[e];split<;>omega
  ·simp only[List.mem_singleton]at j
   refine⟨u,J,j,?_⟩
   rw[e,if_pos rfl];omega
 ·rw[e];split
  ·omega
  ·exact m.top v f
 ·rw[List.pairwise_append]
  have n:∀y∈q,at' (d.set u (D d x+1)) y=at' d y:=by
   intro y j
   obtain⟨v,f,rfl,k⟩:=m.mem y j
   have:=e v
   rw[if_neg (by intro h;subst h;omega)]at this
   exact this
  refine⟨m.sort.imp_of_mem fun {a c} h1 r h=> ?_,List.pairwise_singleton ..,fun y j z C=> ?_⟩
  ·rw[n a h1,n c r];exact h
  ·simp only[List.mem_singleton]at C
   subst C
   rw[n y j]
   have r:=e u
   rw[if_pos rfl]at r
   obtain⟨v,f,rfl,k⟩:=m.mem y j
   have:=m.top v f
   show D d v<=D (d.set u (D d x+1)) u
   omega
 ·have p:v≠u:=by
   rintro rfl
   exact n (by simp)
  rw[e,if_neg p]at k
  rw[e v,if_neg p]
  have:=m.done v f k (fun h=>n (List.mem_append_left _ h)) H w A i
  rw[e w,if_neg (by rintro rfl;omega)]
  exact this
end
section
section
end
end
section
section
theorem Av (g:GR) (v:Nat) (u:Int) (hv:v<g.2.length) (hl:(row g v).length<=30):fS 1000 g v u=some (sD (row g v) u):=by
 unfold fS
 rw[cQ (by omega)]
 rcases rT (row g v) u with⟨i,hi,hu,hf,he⟩|⟨hf,he⟩
 ·rw[he]
  refine Cu (fun x:Int=>∃k:Nat,x=k∧k<=i) (fun x=>31 - x.toNat) ?_ 1000 _ ⟨0,rfl,by omega⟩ (by omega)
  rintro x ag ⟨k,rfl,hk⟩ hag
  unfold sW
  rw[if_pos (show(k:Int)<((row g v).length:Int) by omega),cQ (show 0<=(k:Int)∧(k:Int)<((row g v).length:Int) by omega)]
  by_cases e:k=i
  ·subst e;exact if_pos hu
  ·rw[if_neg (hf k (by omega)),wr (by omega) (by omega)]
   exact hag _ ⟨k+1,by omega,by omega⟩ (by omega)
 ·rw[he]
  refine Cu (fun x:Int=>∃k:Nat,x=k∧k<=(row g v).length) (fun x=>31 - x.toNat) ?_ 1000 _ ⟨0,rfl,by omega⟩ (by omega)
  rintro x ag ⟨k,rfl,hk⟩ hag
  unfold sW
  by_cases e:k<(row g v).length
  ·rw[if_pos (show(k:Int)<((row g v).length:Int) by omega),cQ (show 0<=(k:Int)∧(k:Int)<((row g v).length:Int) by omega),if_neg (hf k e),wr (by omega) (by omega)]
   exact hag _ ⟨k+1,by omega,by omega⟩ (by omega)
  ·rw[if_neg (show¬(k:Int)<((row g v).length:Int) by omega)];rfl
end
end
section
def ada (f:Nat->Nat):Nat->Nat
 |0=>0
 |k+1=>ada f k+f k
open Classical in
noncomputable def ind (p:Prop):Nat:=if p then 1 else 0
end
section
theorem JG (a:Nat) (h:a<4294967296):IntKind.u32.wrap (a:Int)=a:=by rw[<-Dh];exact if_pos ⟨by omega,by omega⟩
def KS (x:Int):Nat:=(BitVec.ofInt 32 x).toNat
theorem GZ (x:Int):KS x<4294967296:=(BitVec.ofInt 32 x).isLt
theorem sR {a:Nat} (h:a<4294967296):KS (a:Int)=a:=by
 unfold KS;rw[BitVec.ofInt_natCast,BitVec.toNat_ofNat];exact Nat.mod_eq_of_lt h
theorem Gu (x y:Int):dC .u32 x y=((KS x &&& KS y:Nat):Int):=by
 show IntKind.u32.wrap (((BitVec.ofInt 32 x &&& BitVec.ofInt 32 y).toNat:Nat):Int)=_
 rw[BitVec.toNat_and]
 exact JG _ (Nat.lt_of_le_of_lt Nat.and_le_left (GZ x))
theorem XJ (x y:Int):EH .u32 x y=((KS x ||| KS y:Nat):Int):=by
 show IntKind.u32.wrap (((BitVec.ofInt 32 x ||| BitVec.ofInt 32 y).toNat:Nat):Int)=_
 rw[BitVec.toNat_or]
 exact JG _ (Nat.or_lt_two_pow (n:=32) (GZ x) (GZ y))
theorem Sv (x y:Int):qG .u32 x y=0↔∀i,(KS x).testBit i=true->(KS y).testBit i=true:=by
 have e:qG .u32 x y=(((BitVec.ofInt 32 x &&& ~~~ BitVec.ofInt 32 y).toNat:Nat):Int):=JG _ (BitVec.ofInt 32 x &&& ~~~ BitVec.ofInt 32 y).isLt
 have hb:∀i,(BitVec.ofInt 32 x &&& ~~~ BitVec.ofInt 32 y).toNat.testBit i=((KS x).testBit i&&(decide (i<32) && !(KS y).testBit i)):=by
  intro i
  have:=BitVec.getLsbD_and (x:=BitVec.ofInt 32 x) (y:= ~~~ BitVec.ofInt 32 y) (i:=i)
  rw[BitVec.getLsbD_not]at this
  exact this
 have hx:∀i,(KS x).testBit i=true->i<32:=by
  intro i hi
  apply Classical.byContradiction
  intro hc
  rw[Nat.testBit_lt_two_pow (Nat.lt_of_lt_of_le (GZ x) (Nat.pow_le_pow_right (n:=2) (by omega) (show 32<=i by omega)))]at hi
  cases hi
 rw[e]
 constructor
 ·intro h i hi
  have h0:(BitVec.ofInt 32 x &&& ~~~ BitVec.ofInt 32 y).toNat=0:=by omega
  have:=hb i
  rw[h0,Nat.zero_testBit,hi,decide_eq_true (hx i hi)]at this
  simpa using this
 ·intro h
  have:(BitVec.ofInt 32 x &&& ~~~ BitVec.ofInt 32 y).toNat=0:=by
   apply Nat.eq_of_testBit_eq
   intro i
   rw[hb i,Nat.zero_testBit]
   cases hi:(KS x).testBit i with
   |false=>rfl
   |true=>rw[h i hi];simp
  omega
theorem zJ {k:Nat} (a:k<32):2^k<4294967296:=Nat.pow_lt_pow_right (n:=32) (by omega) a
theorem OJ {k:Nat} (a:k<32):xF .u32 1 (k:Int)=((2^k:Nat):Int):=by
 show IntKind.u32.wrap (1*2^(min ((k:Int).toNat) 32))=_
 rw[Int.toNat_natCast,Nat.min_eq_left (by omega),Int.one_mul,show(2:Int)^k=((2^k:Nat):Int) by simp]
 exact JG _ (zJ a)
theorem Kb {a k:Nat} (b:k<32):oU .u32 (a:Int) (k:Int)=((a / 2^k:Nat):Int):=by
 show Int.fdiv (a:Int) (2^(min ((k:Int).toNat) 32))=_
 rw[Int.toNat_natCast,Nat.min_eq_left (by omega),show(2:Int)^k=((2^k:Nat):Int) by simp,Int.fdiv_eq_ediv_of_nonneg _ (Int.natCast_nonneg _)]
 simp
theorem NR {a k:Nat} (d:k<32) (c:a<4294967296):dC .u32 (oU .u32 (a:Int) (k:Int)) 1=1↔a.testBit k=true:=by
 have b:KS 1=1:=sR (a:=1) (by omega)
 rw[Kb d,Gu,sR (Nat.lt_of_le_of_lt (Nat.div_le_self _ _) c),b,Nat.and_one_is_mod,Nat.testBit_eq_decide_div_mod_eq,decide_eq_true_eq]
 omega
def GT (g:GR) (s:Nat):Prop:=(∀v,s.testBit v=true->v<g.2.length)∧∀v u,s.testBit v=true->s.testBit u=true->¬Iw g v u
theorem XE {g:GR} (a:VG g):wZ 1000 g=some ((2^g.2.length - 1:Nat):Int):=by
 have c:=a.n24
 have d:=a.len
 have e:=zJ (show g.2.length<32 by omega)
 have b:1<=2^g.2.length:=Nat.one_le_two_pow
 unfold wZ
 rw[cQ (by omega),d,OJ (by omega),show((2^g.2.length:Nat):Int) - 1=((2^g.2.length - 1:Nat):Int) by omega]
 congr 1
 exact if_pos ⟨by omega,by omega⟩
theorem aaN {k:Nat} (a:k<32):wI .u64 (k:Int)=k:=by
 show IntKind.u64.wrap (k:Int)=k
 have:∀j:Fin 32,IntKind.u64.wrap ((j.1:Nat):Int)=(j.1:Nat):=by decide
 exact this ⟨k,a⟩
end
section
def T (e:aQ) (k v w:Nat):Int:=if 0<=D e w∧(D e w<k∨(D e w=k∧w<v))then D e w else -1
end
section
section
theorem TH {X R:Type} {step:X->(X->Option R)->Option R} {K:X->Option R} {bad:R} (N:Nat) (p:Nat->Prop) (I:Nat->X->Prop) (B:Nat)
  (s:∀(k:Nat) x o,k<N->k<B->I k x->p k->∃b,I (k+1) b∧step x o=o b) (j:∀(k:Nat) x o,k<N->k<B->I k x->¬p k->step x o=some bad) (r:∀x o,I N x->N<B->step x o=K x):
  ∀(fuel:Nat) (x:X),I 0 x->B<=fuel->(N<B∨∃k,k<N∧k<B∧¬p k)->((∀k,k<N->p k)->∃b,I N b∧bM step fuel x=K b)∧(¬(∀k,k<N->p k)->bM step fuel x=some bad):=by
 intro fuel x c u hB
 have q:∀(d a fuel:Nat) (x:X),I a x->a+d<N->a+d<B->¬p (a+d)->d<fuel->bM step fuel x=some bad:=by
  intro d
  induction d with
  |zero=>
   intro a fuel x c i e g u
   obtain⟨f,rfl⟩:∃f,fuel=f+1:=⟨fuel - 1,by omega⟩
   exact j a x _ i e c g
  | succ d w =>
   intro a fuel x c i e g u
   obtain⟨f,rfl⟩:∃f,fuel=f+1:=⟨fuel - 1,by omega⟩
   by_cases t:p a
   ·obtain⟨b,m,n⟩:=s a x (bM step f) (by omega) (by omega) c t
    have n:bM step (f+1) x=bM step f b:=n
    rw[n]
    exact w (a+1) f b m (by omega) (by omega) (by rw[show a+1+d=a+(d+1) by omega];exact g) (by omega)
   ·exact j a x _ (by omega) (by omega) c t
 have l:∀(d a fuel:Nat) (x:X),I a x->a+d=N->N<B->(∀k,a<=k->k<N->p k)->d<fuel->∃b,I N b∧bM step fuel x=K b:=by
  intro d
  induction d with
  |zero=>
   intro a fuel x c i e g u
   obtain⟨f,rfl⟩:∃f,fuel=f+1:=⟨fuel - 1,by omega⟩
   obtain rfl:a=N:=by omega
   exact⟨x,c,r x _ c e⟩
  |succ d w=>
   intro a fuel x c i e g u
   obtain⟨f,rfl⟩:∃f,fuel=f+1:=⟨fuel - 1,by omega⟩
   obtain⟨b,m,n⟩:=s a x (bM step f) (by omega) (by omega) c (g a (Nat.le_refl _) (by omega))
   have n:bM step (f+1) x=bM step f b:=n
   rw[n]
   exact w (a+1) f b m (by omega) e (fun k i e=>g k (by omega) e) (by omega)
 constructor
 ·intro h
  rcases hB with hB|⟨k,i,_,e⟩
  ·exact l N 0 fuel x c (by omega) hB (fun k _ v=>h k v) (by omega)
  ·exact absurd (h k i) e
 ·intro h
  have:∃k,k<N∧k<B∧¬p k:=by
   rcases hB with hB|hB
   ·apply Classical.byContradiction
    intro hc
    exact h fun k v=>Classical.byContradiction fun g=>hc ⟨k,v,by omega,g⟩
   ·exact hB
  obtain⟨k,i,e,y⟩:=this
  exact q k 0 fuel x c (by omega) (by omega) (by rw[Nat.zero_add];exact y) (by omega)
theorem Rh {ps:cJ} (o:ps.length<=30) {v:Nat} (p:v<ps.length):(at' ps (v:Int)).length<1000∨∃k,k<(at' ps (v:Int)).length∧k<1000∧¬GX (at' ps (v:Int)) v ps.length k:=by
 by_cases h:(at' ps (v:Int)).length<1000
 ·exact .inl h
 ·right
  apply Classical.byContradiction
  intro hc
  have a:∀k,k<40->GX (at' ps (v:Int)) v ps.length k:=fun k n=>Classical.byContradiction fun f=>hc ⟨k,by omega,by omega,f⟩
  have:=Ky ps.length (fun i=>(fX (at' ps (v:Int)) i).1.toNat) 40 (fun i e=>by have:=(a i e).1;omega) (fun i j b c m=>by
   have g:=(a i (by omega)).1
   have l:=(a j c).1
   have d:=(a j c).2.2.2 i b
   exact d (by omega))
  omega
theorem Db (ps:cJ) (hn:ps.length<=30):(IP ps->fJ 1000 ps=some true)∧(¬IP ps->fJ 1000 ps=some false):=by
 unfold fJ
 have inner:∀(v:Nat) (m:List ((Int×Int)×Int)) ag,v<ps.length->(∀z,z∈m↔Ln ps v 0 z)->
   (qF (at' ps (v:Int)) v ps.length->∃m',(∀z,z∈m'↔Ln ps (v+1) 0 z)∧bM (cD ps ((v:Int),m) ag) 1000 ((0:Int),m)=ag ((v:Int)+1,m'))∧
   (¬qF (at' ps (v:Int)) v ps.length->bM (cD ps ((v:Int),m) ag) 1000 ((0:Int),m)=some false):=by
  intro v m ag hv hm
  have hbnd:=Rh hn hv
  have key:=TH (step:=cD ps ((v:Int),m) ag) (K:=fun x=>ag ((v:Int)+1,x.2)) (bad:=false) (at' ps (v:Int)).length (GX (at' ps (v:Int)) v ps.length) (fun i x=>x.1=(i:Int)∧∀z,z∈x.2↔Ln ps v i z) 1000 ?_ ?_ ?_ 1000 ((0:Int),m) ⟨rfl,hm⟩ (by omega) hbnd
  ·refine⟨fun h=> ?_,fun h=>key.2 h⟩
   obtain⟨x,⟨hx1,hx2⟩,hx⟩:=key.1 h
   refine⟨x.2,fun z=>(hx2 z).trans ⟨?_,?_⟩,hx⟩
   ·rintro⟨a,b,h1,h2,h3⟩;exact⟨a,b,by omega,h2,h3⟩
   ·rintro⟨a,b,h1,h2,h3⟩
    refine⟨a,b,?_,h2,h3⟩
    by_cases ha:a=v
    ·subst ha;exact .inr ⟨rfl,h2⟩
    ·omega
  ·rintro i ⟨x1,x2⟩ ag2 hi hi2 ⟨hx,hs⟩ ⟨p1,p2,p3,p4⟩
   dsimp only at hx hs
   subst hx
   have hg:lI (((v:Int),(fX (at' ps (v:Int)) i).1)) x2=none:=by
    apply Fj
    intro w hw
    obtain⟨a,b,h1,h2,h3⟩:=(hs _).1 hw
    simp only[Prod.mk.injEq]at h3
    obtain⟨⟨h4,h5⟩,_⟩:=h3
    have:a=v:=by omega
    subst this
    have hb:b<i:=by omega
    exact p4 b hb h5.symm
   refine⟨((i:Int)+1,AY (((v:Int),(fX (at' ps (v:Int)) i).1)) (fX (at' ps (v:Int)) i).2 x2),⟨by simp,fun z=> ?_⟩,?_⟩
   ·dsimp only
    rw[Mc hg,hs]
    constructor
    ·rintro(rfl|⟨a,b,h1,h2,h3⟩)
     ·exact⟨v,i,.inr ⟨rfl,by omega⟩,hi,rfl⟩
     ·exact⟨a,b,by omega,h2,h3⟩
    ·rintro⟨a,b,h1,h2,h3⟩
     by_cases hab:a=v∧b=i
     ·left;rw[h3,hab.1,hab.2]
     ·right;exact⟨a,b,by omega,h2,h3⟩
   ·replace p1:0<=(at' (at' ps (v:Int)) (i:Int)).1∧(at' (at' ps (v:Int)) (i:Int)).1<=(ps.length:Int) - 1:=p1
    replace p3:1<=(at' (at' ps (v:Int)) (i:Int)).2∧(at' (at' ps (v:Int)) (i:Int)).2<=15:=p3
    unfold cD fP gX
    dsimp only
    rw[if_pos (by omega),cQ (by omega),if_neg (by omega),if_neg (by omega),if_neg (by rw[decide_eq_false p2];simp),if_neg (by omega),if_neg (by rw[decide_eq_false (by omega)];simp),hg,if_neg (by simp),wr (by omega) (by omega)]
  ·rintro i ⟨x1,x2⟩ ag2 hi hi2 ⟨hx,hs⟩ hp
   dsimp only at hx hs
   subst hx
   unfold cD fP gX
   dsimp only
   rw[if_pos (by omega),cQ (by omega)]
   by_cases h1:(fX (at' ps (v:Int)) i).1<0
   ·rw[if_pos h1,if_pos rfl]
   rw[if_neg h1]
   by_cases h2:(ps.length:Int)<=(fX (at' ps (v:Int)) i).1
   ·rw[if_pos h2,if_pos rfl]
   rw[if_neg h2]
   by_cases h3:(fX (at' ps (v:Int)) i).1=v
   ·rw[if_pos (decide_eq_true h3)]
   rw[if_neg (by rw[decide_eq_false h3];simp)]
   by_cases h4:(fX (at' ps (v:Int)) i).2<1
   ·rw[if_pos h4,if_pos rfl]
   rw[if_neg h4]
   by_cases h5:15<(fX (at' ps (v:Int)) i).2
   ·rw[if_pos (decide_eq_true h5)]
   rw[if_neg (by rw[decide_eq_false h5];simp)]
   have:∃k,k<i∧(fX (at' ps (v:Int)) k).1=(fX (at' ps (v:Int)) i).1:=by
    apply Classical.byContradiction
    intro hc
    exact hp ⟨by omega,h3,by omega,fun k hk he=>hc ⟨k,hk,he⟩⟩
   obtain⟨k,hk,he⟩:=this
   have hin:=(hs _).2 ⟨v,k,.inr ⟨rfl,hk⟩,by omega,rfl⟩
   rw[if_pos]
   rw[<-he]
   cases hg:lI (((v:Int),(fX (at' ps (v:Int)) k).1)) x2 with
   |some w=>rfl
   | none => exact absurd hin (by
     intro hin
     exact sK hg hin)
  ·rintro⟨x1,x2⟩ ag2 ⟨hx,hs⟩ _
   dsimp only at hx hs
   subst hx
   unfold cD lQ
   dsimp only
   rw[if_neg (by omega),wr (by omega) (by omega)]
 have outer:=Ei (step:=cP 1000 ps) (K:=fun x=>gW x.2) (bad:=false) ps.length (fun v=>qF (at' ps (v:Int)) v ps.length) (fun v x=>x.1=(v:Int)∧∀z,z∈x.2↔Ln ps v 0 z) ?_ ?_ ?_ 1000 ((0:Int),[]) ⟨rfl,fun z=>⟨fun h=>(by cases h),fun⟨a,b,h1,_⟩=>(by omega)⟩⟩ (by omega)
 rotate_left
 ·rintro v ⟨x1,x2⟩ ag hv ⟨hx,hs⟩ hp
  dsimp only at hx hs
  subst hx
  obtain⟨m',h1,h2⟩:=(inner v x2 ag hv hs).1 hp
  refine⟨((v:Int)+1,m'),⟨by simp,h1⟩,?_⟩
  ·unfold cP
   dsimp only
   rw[if_pos (by omega),cQ (by omega)]
   exact h2
 ·rintro v ⟨x1,x2⟩ ag hv ⟨hx,hs⟩ hp
  dsimp only at hx hs
  subst hx
  unfold cP
  dsimp only
  rw[if_pos (by omega),cQ (by omega)]
  exact(inner v x2 ag hv hs).2 hp
 ·rintro⟨x1,x2⟩ ag ⟨hx,hs⟩
  dsimp only at hx hs
  subst hx
  unfold cP
  dsimp only
  rw[if_neg (by omega)]
 by_cases hL:∀v,v<ps.length->qF (at' ps (v:Int)) v ps.length
 rotate_left
 ·exact⟨fun h=>absurd h.1 hL,fun _=>outer.2 hL⟩
 obtain⟨⟨x1,x2⟩,⟨hx,hs⟩,he⟩:=outer.1 hL
 rw[he]
 dsimp only at hs ⊢
 have hk:gW x2=some (decide (∀z∈x2,¬(Option.getD (lI (z.1.2,z.1.1) x2) (0:Int))≠z.2)):=HS (fun z:(Int×Int)×Int=>(Option.getD (lI (z.1.2,z.1.1) x2) (0:Int))≠z.2) x2
 rw[hk]
 have hiff:(∀z∈x2,¬(Option.getD (lI (z.1.2,z.1.1) x2) (0:Int))≠z.2)↔∀v,v<ps.length->∀i,i<(at' ps (v:Int)).length->FI ([],ps) v i:=by
  constructor
  ·intro h v hv i hi
   have hw:=(hL v hv i hi).2.2.1
   have hin:=(hs (((v:Int),(fX (at' ps (v:Int)) i).1),(fX (at' ps (v:Int)) i).2)).2 ⟨v,i,.inl hv,hi,rfl⟩
   have h2:=Decidable.not_not.1 (h _ hin)
   dsimp only at h2
   cases hg:lI ((fX (at' ps (v:Int)) i).1,(v:Int)) x2 with
   |none=>rw[hg]at h2;simp only[Option.getD]at h2;omega
   | some w =>
    rw[hg]at h2;simp only[Option.getD]at h2
    obtain⟨a,b,h3,h4,h5⟩:=(hs _).1 (As hg)
    simp only[Prod.mk.injEq]at h5
    obtain⟨⟨h6,h7⟩,h8⟩:=h5
    refine⟨b,?_,?_,?_⟩
    ·show b<(at' ps (fX (at' ps (v:Int)) i).1).length
     rw[h6];exact h4
    ·show(fX (at' ps (fX (at' ps (v:Int)) i).1) b).1=v
     rw[h6];exact h7.symm
    ·show(fX (at' ps (fX (at' ps (v:Int)) i).1) b).2=(fX (at' ps (v:Int)) i).2
     rw[h6,<-h8];exact h2
  ·intro h z hz hne
   obtain⟨a,b,h3,h4,rfl⟩:=(hs z).1 hz
   have ha:a<ps.length:=by omega
   apply hne
   obtain⟨j,hj1,hj2,hj3⟩:=h a ha b h4
   have hu:=(hL a ha b h4).1
   obtain⟨u,hu'⟩:∃u:Nat,(fX (at' ps (a:Int)) b).1=u:=⟨(fX (at' ps (a:Int)) b).1.toNat,by omega⟩
   replace hj1:j<(at' ps (fX (at' ps (a:Int)) b).1).length:=hj1
   replace hj2:(fX (at' ps (fX (at' ps (a:Int)) b).1) j).1=a:=hj2
   replace hj3:(fX (at' ps (fX (at' ps (a:Int)) b).1) j).2=(fX (at' ps (a:Int)) b).2:=hj3
   rw[hu']at hj1 hj2 hj3
   have hun:u<ps.length:=by omega
   dsimp only
   rw[hu',<-hj3]
   have hin:=(hs (((u:Int),(fX (at' ps (u:Int)) j).1),(fX (at' ps (u:Int)) j).2)).2 ⟨u,j,.inl hun,hj1,rfl⟩
   rw[hj2]at hin
   cases hg:lI ((u:Int),(a:Int)) x2 with
   |none=>exact absurd hin (sK hg)
   | some w =>
    obtain⟨a',b',h3',h4',h5⟩:=(hs _).1 (As hg)
    simp only[Prod.mk.injEq]at h5
    obtain⟨⟨h6,h7⟩,h8⟩:=h5
    have:a'=u:=by omega
    subst this
    have hbj:b'=j:=by
     rcases Nat.lt_trichotomy b' j with hl|hl|hl
     ·exact absurd (h7.symm.trans hj2.symm) ((hL a' hun j hj1).2.2.2 b' hl)
     ·exact hl
     ·exact absurd (hj2.trans h7) ((hL a' hun b' h4').2.2.2 j hl)
    subst hbj
    exact h8
 by_cases hS:∀v,v<ps.length->∀i,i<(at' ps (v:Int)).length->FI ([],ps) v i
 ·rw[decide_eq_true (hiff.2 hS)]
  exact⟨fun _=>rfl,fun h=>absurd ⟨hL,hS⟩ h⟩
 ·rw[decide_eq_false (fun h=>hS (hiff.1 h))]
  exact⟨fun h=>absurd h.2 hS,fun _=>rfl⟩
theorem CI (g:GR):(VG g->dB 1000 g=some true)∧(¬VG g->dB 1000 g=some false):=by
 unfold dB oG oH
 by_cases e:g.1.length<1
 ·rw[if_pos (by omega)]
  exact⟨fun h=>by have:=h.n1;have:=h.len;omega,fun _=>rfl⟩
 rw[if_neg (by omega)]
 by_cases f:24<g.1.length
 ·rw[if_pos (by omega)]
  exact⟨fun h=>by have:=h.n24;have:=h.len;omega,fun _=>rfl⟩
 rw[if_neg (by omega)]
 by_cases d:g.1.length=g.2.length
 rotate_left
 ·rw[decide_eq_true (by omega)]
  exact⟨fun h=>absurd h.len d,fun _=>rfl⟩
 rw[decide_eq_false (by omega),if_neg (by simp)]
 by_cases b:∀k,k<g.1.length->RE g.1 k
 rotate_left
 ·rw[(sS g.1 (by omega)).2 b,aZ rfl]
  exact⟨fun h=>absurd (fun k i=>⟨(h.node k (by omega)).id,(h.node k (by omega)).ids⟩) b,fun _=>rfl⟩
 rw[(sS g.1 (by omega)).1 b,aZ rfl,if_pos rfl]
 by_cases a:IP g.2
 ·rw[(Db g.2 (by omega)).1 a]
  exact⟨fun _=>rfl,fun h=>absurd ⟨by omega,by omega,d,fun v c=>⟨(b v (by omega)).1,Hu c (a.1 v c),a.1 v c,(b v (by omega)).2⟩,a.2⟩ h⟩
 ·rw[(Db g.2 (by omega)).2 a]
  exact⟨fun h=>absurd ⟨fun v c=>(h.node v c).links,h.sym⟩ a,fun _=>rfl⟩
end
end
section
abbrev Nr:=Az
theorem p_ (v m:Int) (f:1<=m) (g:m<=4611686018427387904):eQ 1000 v m=some (v%m):=by
 unfold eQ pT
 rw[if_neg (by omega),cQ (by omega)]
 have c:=Int.tmod_eq_emod (a:=v) (b:=m)
 have e:=Int.emod_nonneg v (show m≠0 by omega)
 have h:=Int.emod_lt_of_pos v (show 0<m by omega)
 by_cases hc:0<=v∨m∣v
 ·rw[if_pos hc]at c
  have d:v.tmod m=v%m:=by simpa using c
  rw[d,if_neg (by omega)]
 ·rw[if_neg hc]at c
  have:(m.natAbs:Int)=m:=by omega
  rw[c,if_pos (by omega),wr (by omega) (by omega)]
  congr 1;omega
theorem LD (l:aQ) (i:Int) (h:0<=i):qZ 1000 l i=some (at' l i):=by
 unfold qZ
 by_cases a:i<(l.length:Int)
 ·rw[if_pos a,cQ ⟨h,a⟩]
 ·rw[if_neg a]
  unfold at'
  rw[List.getD_eq_getElem?_getD,List.getElem?_eq_none (by omega)];rfl

theorem Mi {i:Type} [DecidableEq i]:∀(e c:List i),e.Nodup->(∀x∈e,x∈c)->e.length<=c.length
 | [],_,_,_=>Nat.zero_le _
 | a :: t, c, hn, hs => by
  have b:=List.nodup_cons.1 hn
  have f:=hs a (List.mem_cons_self ..)
  have:=Mi t (c.erase a) b.2 fun x h=>by
   have d:x≠a:=fun j=>b.1 (j▸h)
   exact(List.mem_erase_of_ne d).2 (hs x (List.mem_cons_of_mem _ h))
  rw[List.length_erase_of_mem f]at this
  have g:0<c.length:=List.length_pos_of_mem f
  simp only[List.length_cons]
  omega
theorem Uy (d:Int) (c:aQ) (t:Nat) (k:t<=200) (h:∀s,s<t->(d+(s:Int))%256∈c):t<=c.length:=by
 have:=Mi ((List.range t).map fun s:Nat=>(d+(s:Int))%256) c (by
  rw[List.nodup_iff_pairwise_ne,List.pairwise_map]
  refine List.Pairwise.imp_of_mem ?_ List.pairwise_lt_range
  intro a b e g f
  rw[List.mem_range]at e g
  omega) (fun x j=>by
  obtain⟨s,i,rfl⟩:=List.mem_map.1 j
  exact h s (List.mem_range.1 i))
 simpa using this

structure GQ (ids:aQ):Prop where
 rng:∀y∈ids,0<=y∧y<=255
 nd:ids.Nodup
theorem GQ.snoc {c:aQ} {y:Int} (h:GQ c) (j:0<=y∧y<=255) (i:y∉c):GQ (c++[y]):=by
 refine⟨fun z d=> ?_,?_⟩
 ·rcases List.mem_append.1 d with d|d
  ·exact h.rng z d
  ·rw[List.mem_singleton.1 d];exact j
 ·rw[List.nodup_append]
  refine⟨h.nd,by simp,?_⟩
  intro a e b f
  rw[List.mem_singleton.1 f]
  exact fun g=>i (g▸e)
theorem Ap {a:Type} [Inhabited a] {l:List a} {i:Nat} (h:i<l.length):at' l (i:Int)∈l:=by
 rw[gG,List.getD_eq_getElem?_getD,List.getElem?_eq_getElem h]
 exact List.getElem_mem h
theorem EQ {a:Type} [Inhabited a] {l:List a} {x:a} (h:x∈l):∃i,i<l.length∧at' l ((i:Nat):Int)=x:=by
 obtain⟨i,b,c⟩:=List.getElem_of_mem h
 refine⟨i,b,?_⟩
 rw[gG,List.getD_eq_getElem?_getD,List.getElem?_eq_getElem b]
 exact c
theorem Tx {Q:List Int×cJ->Prop} {ids:aQ} (hl:ids.length<=24) (id0:Int) (ag:Int×aQ->Option (List Int×cJ))
  (hag:∀y,0<=y->y<=255->y∉ids->OK Q (ag ((ids.length:Int)+1,ids++[y]))):OK Q (bM (jV ((ids.length:Int),ids) ag) 1000 (id0%256,0)):=by
 refine Cv (fun s:eS=>∃(t u:Nat),s.1=(id0+(t:Int))%256∧s.2=u∧u<=ids.length∧t<=ids.length∧(∀k,k<t->(id0+(k:Int))%256∈ids)∧∀j,j<u->at' ids (j:Int)≠s.1)
  (fun s=>(ids.length - ((s.1 - id0)%256).toNat)*30+(ids.length - s.2.toNat)) ?_ 1000 _ ⟨0,0,by simp,rfl,by omega,by omega,fun k hk=>by omega,fun j hj=>by omega⟩ ?_
 ·rintro⟨i,j⟩ ag' ⟨t,u,h1,h2,h3,h4,h5,h6⟩ hrec
  dsimp only at h1 h2 h6
  subst h2
  unfold jV qU jU
  dsimp only
  by_cases hu:(u:Int)<(ids.length:Int)
  ·rw[if_pos hu,cQ (by omega)]
   by_cases he:at' ids (u:Int)=i
   ·rw[if_pos he,cQ (by decide)]
    have hin:(id0+(t:Int))%256∈ids:=by rw[<-h1,<-he];exact Ap (by omega)
    have hall:∀k,k<t+1->(id0+(k:Int))%256∈ids:=fun k hk=>by
     rcases Nat.lt_succ_iff_lt_or_eq.1 hk with h|h
     ·exact h5 k h
     ·subst h;exact hin
    have ht:=Uy id0 ids (t+1) (by omega) hall
    have hi:0<=i∧i<=255:=by omega
    rw[wr (by omega) (by omega),Int.tmod_eq_emod_of_nonneg (by omega),wr (by omega) (by omega)]
    refine hrec _ ⟨t+1,0,?_,by simp,by omega,ht,hall,fun j hj=>by omega⟩ ?_
    ·dsimp only;omega
    ·dsimp only
     have e1:((i+1)%256 - id0)%256=(t:Int)+1:=by omega
     have e2:(i - id0)%256=(t:Int):=by omega
     rw[e1,e2];omega
   ·rw[if_neg he,wr (by omega) (by omega)]
    refine hrec _ ⟨t,u+1,h1,by dsimp only;omega,by omega,h4,h5,fun j hj=> ?_⟩ ?_
    ·rcases Nat.lt_succ_iff_lt_or_eq.1 hj with h|h
     ·exact h6 j h
     ·subst h;exact he
    ·dsimp only;omega
  ·rw[if_neg hu]
   rw[cQ (by simp;omega),wr (by omega) (by omega)]
   refine hag i (by omega) (by omega) fun hm=> ?_
   obtain⟨k,hk,hke⟩:=EQ hm
   exact h6 k (by omega) hke
 ·dsimp only
  have e:(id0%256 - id0)%256=0:=by omega
  rw[e];omega
theorem Mh (x:Nr) (most:Nat) (h1:1<=most) (h24:most<=24):OK (fun g:GR=>GQ g.1∧g.2=List.replicate g.1.length []∧1<=g.1.length∧g.1.length<=most) (kR 1000 x (most:Int)):=by
 unfold kR
 rw[aZ (p_ _ _ (by omega) (by omega))]
 generalize hr:(wI .i64 (x.1 - 1))%(most:Int)=r
 have hr0:0<=r:=by rw[<-hr];exact Int.emod_nonneg _ (by omega)
 have hr1:r<most:=by rw[<-hr];exact Int.emod_lt_of_pos _ (by omega)
 have hw:wI .i64 (1+r)=1+r:=wr (by omega) (by omega)
 rw[hw,cQ (by omega)]
 refine Cv (fun s:Int×aQ=>s.1=(s.2.length:Int)∧(s.2.length:Int)<=1+r∧GQ s.2) (fun s=>(1+r - s.1).toNat) ?_ 1000 _ ⟨rfl,by simp;omega,⟨fun y hy=>by simp at hy,List.nodup_nil⟩⟩ (by dsimp only;omega)
 rintro⟨v,ids⟩ ag ⟨ha,hb,hc⟩ hrec
 dsimp only at ha hb hc
 subst ha
 unfold h_ mV
 dsimp only
 rw[hw]
 by_cases hv:(ids.length:Int)<1+r
 ·rw[if_pos hv,aZ (LD _ _ (by omega)),aZ (p_ _ _ (by decide) (by decide))]
  exact Tx (by omega) _ ag fun y y0 y1 y2=>hrec _ ⟨by simp,by simp;omega,hc.snoc ⟨y0,y1⟩ y2⟩ (by dsimp only;omega)
 ·rw[if_neg hv]
  refine⟨_,rfl,hc,?_,by dsimp only;omega,by dsimp only;omega⟩
  dsimp only
  congr 1;omega

structure VM (ids:aQ) (P:cJ):Prop where
 n1:1<=P.length
 n24:P.length<=24
 len:ids.length=P.length
 ok:GQ ids
 nd:∀v:Nat,v<P.length->((at' P (v:Int)).map Prod.fst).Nodup
 lk:∀v:Nat,v<P.length->∀x∈at' P (v:Int),(0<=x.1∧x.1<=(P.length:Int) - 1)∧x.1≠(v:Int)∧(1<=x.2∧x.2<=15)∧((v:Int),x.2)∈at' P x.1
theorem TX {d:Type} [Inhabited d] {l:List d} (h:l.Nodup) {i j:Nat} (b:i<l.length) (c:j<l.length) (a:i<j):at' l (i:Int)≠at' l (j:Int):=by
 rw[gG,gG,List.getD_eq_getElem?_getD,List.getD_eq_getElem?_getD,List.getElem?_eq_getElem b,List.getElem?_eq_getElem c]
 exact List.pairwise_iff_getElem.1 (List.nodup_iff_pairwise_ne.1 h) i j b c a
theorem VM.vg {ids:aQ} {P:cJ} (h:VM ids P):VG (ids,P):=by
 have hlen:=h.len
 have links:∀v,v<P.length->qF (row (ids,P) v) v P.length:=by
  intro v hv i hi
  have hm:fX (row (ids,P) v) i∈at' P (v:Int):=Ap hi
  obtain⟨a1,a2,a3,_⟩:=h.lk v hv _ hm
  refine⟨a1,a2,a3,fun k hk=> ?_⟩
  have hk2:k<(row (ids,P) v).length:=by omega
  have:=List.pairwise_iff_getElem.1 (List.nodup_iff_pairwise_ne.1 (h.nd v hv)) k i (by simpa using hk2) (by simpa using hi) hk
  rw[List.getElem_map,List.getElem_map]at this
  have e:∀j (hj:j<(row (ids,P) v).length),fX (row (ids,P) v) j=(at' P (v:Int))[j]'hj:=fun j hj=>by
   unfold fX
   rw[gG,List.getD_eq_getElem?_getD,List.getElem?_eq_getElem hj];rfl
  rw[e k hk2,e i hi]
  exact this
 refine⟨h.n1,h.n24,h.len,fun v hv=>⟨?_,Hu hv (links v hv),links v hv,fun k hk=> ?_⟩,fun v hv i hi=> ?_⟩
 ·exact h.ok.rng _ (Ap (by dsimp only at hv ⊢;omega))
 ·exact TX h.ok.nd (by dsimp only at hv ⊢;omega) (by dsimp only at hv ⊢;omega) hk
 ·have hm:fX (row (ids,P) v) i∈at' P (v:Int):=Ap hi
  obtain⟨_,_,_,a4⟩:=h.lk v hv _ hm
  obtain⟨j,hj,he⟩:=EQ a4
  exact⟨j,hj,by unfold fX;rw[he],by unfold fX;rw[he]⟩
theorem VM.start {a:aQ} (h:GQ a) (d:1<=a.length) (b:a.length<=24):VM a (List.replicate a.length []):=by
 have e:∀v:Nat,at' (List.replicate a.length ([]:dQ)) (v:Int)=[]:=fun v=>by
  rw[gG,List.getD_eq_getElem?_getD,List.getElem?_replicate]
  split<;>rfl
 refine⟨by simpa using d,by simpa using b,by simp,h,fun v _=>by rw[e];exact List.nodup_nil,fun v _ x c=> ?_⟩
 rw[e]at c
 cases c
def mJ (P:cJ) (v u:Nat):Prop:=∃x∈at' P (v:Int),x.1=(u:Int)
theorem Jn (ids:aQ) (P:cJ) (a b:Nat) (ha:a<P.length) (hl:(at' P (a:Int)).length<=900):(mJ P a b->l_ 1000 (ids,P) a b=some true)∧(¬mJ P a b->l_ 1000 (ids,P) a b=some false):=by
 have step:∀(r:Bool),(r=true->mJ P a b)->(r=false->¬mJ P a b)->l_ 1000 (ids,P) a b=some r:=by
  intro r ht hf
  unfold l_
  refine Cu (fun i:Int=>∃k:Nat,i=k∧k<=(at' P (a:Int)).length∧∀j,j<k->(at' (at' P (a:Int)) ((j:Nat):Int)).1≠(b:Int)) (fun i=>(at' P (a:Int)).length - i.toNat) ?_ 1000 0 ⟨0,rfl,by omega,fun j hj=>by omega⟩ (by omega)
  rintro i ag ⟨k,rfl,hk,hno⟩ hrec
  unfold xM tO
  dsimp only
  rw[cQ (by omega)]
  by_cases hi:(k:Int)<((at' P (a:Int)).length:Int)
  ·rw[if_pos hi,cQ (by omega),cQ (by omega)]
   by_cases he:(at' (at' P (a:Int)) (k:Int)).1=(b:Int)
   ·rw[if_pos he]
    cases r with
    |true=>rfl
    |false=>exact absurd ⟨_,Ap (by omega),he⟩ (hf rfl)
   ·rw[if_neg he,wr (by omega) (by omega)]
    refine hrec _ ⟨k+1,by omega,by omega,fun j hj=> ?_⟩ (by omega)
    rcases Nat.lt_succ_iff_lt_or_eq.1 hj with h|h
    ·exact hno j h
    ·subst h;exact he
  ·rw[if_neg hi]
   cases r with
   |false=>rfl
   |true=>
    obtain⟨x,hx,he⟩:=ht rfl
    obtain⟨j,hj,hje⟩:=EQ hx
    exact absurd (by rw[hje];exact he) (hno j (by omega))
 exact⟨fun h=>step true (fun _=>h) (fun hc=>by cases hc),fun h=>step false (fun hc=>by cases hc) (fun _=>h)⟩
theorem Vs (P:cJ) (a b:Nat) (x y:dQ) (d:a<P.length) (e:b<P.length) (v:Nat):at' ((P.set a x).set b y) (v:Int)=if v=b then y else if v=a then x else at' P (v:Int):=by
 rw[gG,gG,List.getD_eq_getElem?_getD,List.getD_eq_getElem?_getD,List.getElem?_set,List.getElem?_set]
 by_cases h:v=b
 ·subst h;rw[if_pos rfl,if_pos rfl,if_pos (by simpa using e)];rfl
 ·rw[if_neg (fun hc=>h hc.symm),if_neg h]
  by_cases c:v=a
  ·subst c;rw[if_pos rfl,if_pos rfl,if_pos d];rfl
  ·rw[if_neg (fun hc=>c hc.symm),if_neg c]
theorem VM.add {m:aQ} {P:cJ} (h:VM m P) {a b:Nat} {w:Int} (I:a<P.length) (t:b<P.length) (p:a≠b) (A:¬mJ P a b) (C:1<=w∧w<=15)
  {x y:dQ} (D:x.Perm (((b:Int),w)::at' P (a:Int))) (E:y.Perm (((a:Int),w)::at' P (b:Int))):
  VM m ((P.set a x).set b y)∧(∀v u,mJ P v u->mJ ((P.set a x).set b y) v u)∧mJ ((P.set a x).set b y) a b:=by
 have q:¬mJ P b a:=by
  rintro⟨z,g,i⟩
  obtain⟨_,_,_,l⟩:=h.lk b t z g
  rw[i]at l
  exact A ⟨_,l,rfl⟩
 have B:=Vs P a b x y I t
 have k:((P.set a x).set b y).length=P.length:=by simp
 have d:∀(v:Nat) (z:eS),z∈at' ((P.set a x).set b y) (v:Int)↔z∈at' P (v:Int)∨(v=b∧z=((a:Int),w))∨(v=a∧z=((b:Int),w)):=by
  intro v z
  rw[B v]
  by_cases f:v=b
  ·subst f
   rw[if_pos rfl,E.mem_iff,List.mem_cons]
   constructor
   ·rintro(c|c)
    ·exact .inr (.inl ⟨rfl,c⟩)
    ·exact .inl c
   ·rintro(c|⟨_,c⟩|⟨e,_⟩)
    ·exact .inr c
    ·exact .inl c
    ·exact absurd e.symm p
  ·rw[if_neg f]
   by_cases c:v=a
   ·subst c
    rw[if_pos rfl,D.mem_iff,List.mem_cons]
    constructor
    ·rintro(e|e)
     ·exact .inr (.inr ⟨rfl,e⟩)
     ·exact .inl e
    ·rintro(e|⟨n,_⟩|⟨_,e⟩)
     ·exact .inr e
     ·exact absurd n f
     ·exact .inl e
   ·rw[if_neg c]
    exact⟨.inl,fun e=>e.elim id fun n=>n.elim (fun o=>absurd o.1 f) fun o=>absurd o.1 c⟩
 refine⟨⟨by rw[k];exact h.n1,by rw[k];exact h.n24,by rw[k];exact h.len,h.ok,fun v j=> ?_,fun v j z g=> ?_⟩,fun v u r=> ?_,?_⟩
 ·rw[k]at j
  rw[B v]
  by_cases f:v=b
  ·subst f
   rw[if_pos rfl,(E.map Prod.fst).nodup_iff,List.map_cons,List.nodup_cons]
   exact⟨fun hc=>by obtain⟨z,g,i⟩:=List.mem_map.1 hc;exact q ⟨z,g,i⟩,h.nd v j⟩
  ·rw[if_neg f]
   by_cases c:v=a
   ·subst c
    rw[if_pos rfl,(D.map Prod.fst).nodup_iff,List.map_cons,List.nodup_cons]
    exact⟨fun hc=>by obtain⟨z,g,i⟩:=List.mem_map.1 hc;exact A ⟨z,g,i⟩,h.nd v j⟩
   ·rw[if_neg c];exact h.nd v j
 ·rw[k]at j ⊢
  rcases(d v z).1 g with f|⟨rfl,rfl⟩|⟨rfl,rfl⟩
  ·obtain⟨F,G,H,s⟩:=h.lk v j z f
   refine⟨F,G,H,?_⟩
   obtain⟨u,J⟩:∃u:Nat,z.1=u:=⟨z.1.toNat,by omega⟩
   rw[J]at s ⊢
   exact(d u _).2 (.inl s)
  ·exact⟨by dsimp only;omega,by dsimp only;omega,C,(d a _).2 (.inr (.inr ⟨rfl,rfl⟩))⟩
  ·exact⟨by dsimp only;omega,by dsimp only;omega,C,(d b _).2 (.inr (.inl ⟨rfl,rfl⟩))⟩
 ·obtain⟨z,g,i⟩:=r
  exact⟨z,(d v z).2 (.inl g),i⟩
 ·exact⟨_,(d a _).2 (.inr (.inr ⟨rfl,rfl⟩)),rfl⟩
theorem Pv (x:Nr) {ids:aQ} {P:cJ} (h:VM ids P) {a b:Nat} {w:Int} (ha:a<P.length) (hb:b<P.length) (hw:1<=w∧w<=15):
  ∃P',lU 1000 x (ids,P) a b w=some P'∧VM ids P'∧P'.length=P.length∧(∀v u,mJ P v u->mJ P' v u)∧(a≠b->mJ P' a b):=by
 have h24:=h.n24
 have dg:∀v:Nat,v<P.length->(at' P (v:Int)).length<24:=fun v hv=>by
  have:=(h.vg.node v hv).deg
  have e:(at' P (v:Int)).length=(row (ids,P) v).length:=rfl
  dsimp only at this
  omega
 have da:=dg a ha
 have db:=dg b hb
 unfold lU
 by_cases hab:a=b
 ·subst hab
  rw[if_pos rfl]
  exact⟨P,rfl,h,rfl,fun _ _ h=>h,fun hc=>absurd rfl hc⟩
 rw[if_neg (by omega)]
 by_cases hn:mJ P a b
 ·rw[aZ ((Jn ids P a b ha (by omega)).1 hn)]
  exact⟨P,rfl,h,rfl,fun _ _ h=>h,fun _=>hn⟩
 rw[aZ ((Jn ids P a b ha (by omega)).2 hn)]
 unfold nS
 rw[if_neg (by simp)]
 dsimp only
 cases hbk:x.2.2.2.2.2 with
 | true =>
  rw[if_pos rfl]
  have e:at' (P.set (Int.toNat (a:Int)) ([((b:Int),w)]++at' P (a:Int))) (b:Int)=at' P (b:Int):=by
   rw[gG,List.getD_eq_getElem?_getD,List.getElem?_set,if_neg (by simpa using hab),gG,List.getD_eq_getElem?_getD]
  rw[e]
  rw[cQ (by omega),cQ (by simp;omega),cQ (by omega),cQ (by simp;omega),cQ (by simp;omega),cQ (by simp;omega)]
  obtain⟨h1,h2,h3⟩:=h.add ha hb hab hn hw (List.Perm.refl _) (List.Perm.refl _)
  exact⟨_,rfl,h1,by simp,h2,fun _=>h3⟩
 |false=>
  rw[if_neg (by simp)]
  rw[cQ (by omega),cQ (by omega),cQ (by simp;omega),cQ (by simp;omega),cQ (by simpa using hab),cQ (by simp;omega),cQ (by simp;omega)]
  obtain⟨h1,h2,h3⟩:=h.add ha hb hab hn hw (x:=at' P (a:Int)++[((b:Int),w)]) (y:=at' P (b:Int)++[((a:Int),w)]) List.perm_append_comm List.perm_append_comm
  exact⟨_,rfl,h1,by simp,h2,fun _=>h3⟩
theorem JC (v:Int):wI .i64 (1+v%15)=1+v%15∧1<=1+v%15∧1+v%15<=15:=by
 have:=Int.emod_nonneg v (show(15:Int)≠0 by decide)
 have:=Int.emod_lt_of_pos v (show(0:Int)<15 by decide)
 exact⟨wr (by omega) (by omega),by omega,by omega⟩

theorem WP (x:Nr) (most:Nat) (h1:1<=most) (h24:most<=24):
  OK (fun g:GR=>VM g.1 g.2∧g.2.length<=most∧∀v:Nat,1<=v->v<g.2.length->∃u:Nat,u<v∧mJ g.2 u v) (lT 1000 x (most:Int)):=by
 unfold lT
 obtain⟨⟨ids,P0⟩,e0,hid,hP,hn1,hn2⟩:=Mh x most h1 h24
 dsimp only at hP hid hn1 hn2
 rw[aZ e0]
 dsimp only
 subst hP
 have hst:=VM.start hid hn1 (by omega)
 refine Cv (fun s:Int×cJ=>∃k:Nat,s.1=k∧1<=k∧k<=ids.length∧VM ids s.2∧s.2.length=ids.length∧∀v:Nat,1<=v->v<k->∃u:Nat,u<v∧mJ s.2 u v) (fun s=>ids.length - s.1.toNat) ?_ 1000 _ ⟨1,rfl,by omega,hn1,hst,by simp,fun v hv hv2=>by omega⟩ (by dsimp only;omega)
 rintro⟨i,P⟩ ag ⟨k,hk,hk1,hk2,hV,hL,hT⟩ hrec
 dsimp only at hk hV hL hT
 subst hk
 unfold rY nR
 dsimp only
 by_cases hi:(k:Int)<(P.length:Int)
 ·rw[if_pos hi,wr (by omega) (by omega),aZ (LD _ _ (by omega)),aZ (p_ _ _ (by omega) (by omega)),aZ (LD _ _ (by omega)),aZ (p_ _ _ (by decide) (by decide))]
  obtain⟨w1,w2,w3⟩:=JC (at' x.2.2.1 ((k:Int) - 1))
  rw[w1]
  generalize hu:at' x.2.1 ((k:Int) - 1)%(k:Int)=u
  have u0:0<=u:=by rw[<-hu];exact Int.emod_nonneg _ (by omega)
  have u1:u<k:=by rw[<-hu];exact Int.emod_lt_of_pos _ (by omega)
  obtain⟨u,rfl⟩:∃n:Nat,u=n:=⟨u.toNat,by omega⟩
  obtain⟨P',e1,v1,v2,v3,v4⟩:=Pv x hV (a:=u) (b:=k) (by omega) (by omega) ⟨w2,w3⟩
  rw[aZ e1,wr (by omega) (by omega)]
  refine hrec _ ⟨k+1,by dsimp only;omega,by omega,by omega,v1,by dsimp only;omega,fun v hv hv2=> ?_⟩ (by dsimp only;omega)
  by_cases hvk:v=k
  ·subst hvk;exact⟨u,by omega,v4 (by omega)⟩
  ·obtain⟨u',hu1,hu2⟩:=hT v hv (by omega)
   exact⟨u',hu1,v3 _ _ hu2⟩
 ·rw[if_neg hi]
  exact⟨_,rfl,hV,by dsimp only;omega,fun v hv hv2=>hT v hv (by dsimp only at hv2;omega)⟩
theorem Py (x:Nr) {ids:aQ} {P:cJ} (h:VM ids P):OK (fun g:GR=>VM g.1 g.2∧g.1=ids∧g.2.length=P.length∧∀v u,mJ P v u->mJ g.2 v u) (jO 1000 x (ids,P)):=by
 unfold jO
 have h24:=h.n24
 have hp1:=h.n1
 refine Cv (fun s:Int×cJ=>∃k:Nat,s.1=k∧k<=100∧VM ids s.2∧s.2.length=P.length∧∀v u,mJ P v u->mJ s.2 v u) (fun s=>200 - s.1.toNat) ?_ 1000 _ ⟨P.length,rfl,by omega,h,rfl,fun _ _ h=>h⟩ (by dsimp only;omega)
 rintro⟨i,Q⟩ ag ⟨k,hk,hk2,hV,hL,hN⟩ hrec
 dsimp only at hk hV hL hN
 subst hk
 have done:∀b:Bool,b=false->OK (fun g:GR=>VM g.1 g.2∧g.1=ids∧g.2.length=P.length∧∀v u,mJ P v u->mJ g.2 v u) (kO 1000 x (ids,P) ((k:Int),Q) ag b):=by
  rintro b rfl
  exact⟨_,rfl,hV,rfl,hL,hN⟩
 unfold nT
 dsimp only
 rw[wr (by omega) (by omega)]
 by_cases h1:(k:Int)+1<(x.2.1.length:Int)
 rotate_left
 ·rw[if_neg h1];exact done _ rfl
 rw[if_pos h1]
 by_cases h2:(k:Int)<60
 rotate_left
 ·exact done _ (decide_eq_false h2)
 rw[decide_eq_true h2]
 unfold kO
 dsimp only
 rw[if_pos rfl,cQ (by omega),aZ (p_ _ _ (by omega) (by omega)),wr (by omega) (by omega),cQ (by omega),aZ (p_ _ _ (by omega) (by omega)),aZ (LD _ _ (by omega)),aZ (p_ _ _ (by decide) (by decide))]
 obtain⟨w1,w2,w3⟩:=JC (at' x.2.2.1 (k:Int))
 rw[w1]
 generalize hu:at' x.2.1 (k:Int)%(P.length:Int)=u
 have u0:0<=u:=by rw[<-hu];exact Int.emod_nonneg _ (by omega)
 have u1:u<P.length:=by rw[<-hu];exact Int.emod_lt_of_pos _ (by omega)
 obtain⟨u,rfl⟩:∃n:Nat,u=n:=⟨u.toNat,by omega⟩
 generalize ht:at' x.2.1 ((k:Int)+1)%(P.length:Int)=t
 have t0:0<=t:=by rw[<-ht];exact Int.emod_nonneg _ (by omega)
 have t1:t<P.length:=by rw[<-ht];exact Int.emod_lt_of_pos _ (by omega)
 obtain⟨t,rfl⟩:∃n:Nat,t=n:=⟨t.toNat,by omega⟩
 obtain⟨P',e1,v1,v2,v3,v4⟩:=Pv x hV (a:=u) (b:=t) (by omega) (by omega) ⟨w2,w3⟩
 rw[aZ e1,wr (by omega) (by omega)]
 exact hrec _ ⟨k+2,by dsimp only;omega,by omega,v1,by dsimp only;omega,fun v u hvu=>v3 _ _ (hN v u hvu)⟩ (by dsimp only;omega)
theorem Kg (x:Nr) (a:Nat) (m:1<=a) (c:a<=24):
  OK (fun g:GR=>VM g.1 g.2∧g.2.length<=a∧∀v:Nat,1<=v->v<g.2.length->∃u:Nat,u<v∧mJ g.2 u v) (kI 1000 x (a:Int)):=by
 unfold kI
 obtain⟨⟨s,P⟩,k,o,n,i⟩:=WP x a m c
 obtain⟨⟨j,t⟩,l,b,p,d,h⟩:=Py x o
 rw[aZ k,aZ l]
 dsimp only at n i b p d h
 refine⟨_,rfl,b,by dsimp only;omega,fun v r f=> ?_⟩
 obtain⟨u,q,e⟩:=i v r (by dsimp only at f;omega)
 exact⟨u,q,h _ _ e⟩
theorem XF (x:Nr) (a:Nat) (k:1<=a) (b:a<=24):OK (fun g:GR=>VM g.1 g.2∧g.2.length<=a) (nA 1000 x (a:Int)):=by
 unfold nA
 cases m:x.2.2.2.2.1 with
 |false=>
  obtain⟨⟨j,P⟩,h,r,p,_⟩:=Kg x a k b
  rw[if_pos (by rfl)]
  rw[<-m]at *
  rw[aZ h]
  exact⟨_,rfl,r,p⟩
 |true=>
  obtain⟨⟨j,P⟩,h,e,l,f,i⟩:=Mh x a k b
  dsimp only at l e f i
  subst l
  obtain⟨⟨n,t⟩,o,d,s,c,q⟩:=Py x (VM.start e f (by omega))
  dsimp only at d s c q
  rw[if_neg (by simp)]
  rw[<-m]at *
  rw[aZ h,aZ o]
  exact⟨_,rfl,d,by simp at c ⊢;omega⟩
end
end Go.Proofs.YtpenklncfhiloaaGreatDoor
end
section
namespace Go.Proofs.YtpenklncfhiloaaGreatDoor
open Go Go.Sx
section
abbrev val (c:a_) (v x:Nat):Int:=at' (at' c (v:Int)) (x:Int)
def CS (g:GR) (b:Int) (v:Nat) (a:Int):Prop:=if b = -1 then -1<=a∧a<=((row g v).length:Int) - 1 else 0<=a∧a<=b
instance (g:GR) (top:Int) (v:Nat) (a:Int):Decidable (CS g top v a):=by unfold CS;infer_instance
structure Cf (g:GR) (c:a_) (tops:aQ):Prop where
 len:c.length=g.2.length
 row:∀v,v<g.2.length->(at' c (v:Int)).length=tops.length
 ok:∀v,v<g.2.length->∀x,x<tops.length->CS g (at' tops (x:Int)) v (val c v x)
theorem EZ {g:GR} (hV:VG g) (c:a_) (tops:aQ) (ht:tops.length<=900):(Cf g c tops->iO 1000 g c tops=some true)∧(¬Cf g c tops->iO 1000 g c tops=some false):=by
 have h24:=hV.n24
 have hlen:=hV.len
 unfold iO
 by_cases h1:c.length=g.2.length
 rotate_left
 ·rw[if_pos (by omega)]
  exact⟨fun h=>absurd h.len h1,fun _=>rfl⟩
 rw[if_neg (by omega)]
 have inner:∀(v:Nat) (ag:Int->Option Bool),v<g.2.length->(at' c (v:Int)).length=tops.length->((∀x,x<tops.length->CS g (at' tops (x:Int)) v (val c v x))->bM (eB g c tops v ag) 1000 0=ag ((v:Int)+1))∧(¬(∀x,x<tops.length->CS g (at' tops (x:Int)) v (val c v x))->bM (eB g c tops v ag) 1000 0=some false):=by
  intro v ag hv hr
  have hdeg:(at' g.2 (v:Int)).length<g.2.length:=(hV.node v hv).deg
  have fin:∀(x:Nat) (ag2:Int->Option Bool) (lo hi a:Int),x<tops.length->at' (at' c (v:Int)) (x:Int)=a->jX c v x ag2 (lo,hi)=if lo<=a∧a<=hi then ag2 ((x:Int)+1)else some false:=by
   intro x ag2 lo hi a hx ha
   unfold jX mY
   rw[ha]
   have hw:wI .i64 ((x:Int)+1)=(x:Int)+1:=wr (by omega) (by omega)
   by_cases a1:lo<=a
   ·by_cases a2:a<=hi
    ·simp[a1,a2,hw,show¬a<lo by omega,show¬hi<a by omega]
    ·simp[a1,a2,hw,show¬a<lo by omega,show hi<a by omega]
   ·simp[a1,hw,show a<lo by omega]
  have body:∀(x:Nat) (ag2:Int->Option Bool),x<tops.length->eB g c tops v ag x ag2=if CS g (at' tops (x:Int)) v (val c v x)then ag2 ((x:Int)+1)else some false:=by
   intro x ag2 hx
   unfold eB
   rw[if_pos (by omega),cQ (by omega),cQ (by omega)]
   unfold CS
   by_cases ht1:at' tops (x:Int) = -1
   ·rw[if_pos ht1,cQ (by omega),fin x ag2 _ _ _ hx rfl,wr (by omega) (by omega)]
    simp only[ht1,if_true]
   ·rw[if_neg ht1,fin x ag2 _ _ _ hx rfl]
    simp only[ht1,if_false]
  refine Pp tops.length _ (fun x ag2 hx hp=> ?_) (fun x ag2 hx hp=> ?_) (fun ag2=> ?_) 1000 (by omega)
  ·rw[body x ag2 hx,if_pos hp]
  ·rw[body x ag2 hx,if_neg hp]
  ·unfold eB mX
   rw[if_neg (by omega),wr (by omega) (by omega)]
 have outer:=Pp (step:=dL 1000 g c tops) (K:=some true) (bad:=false) g.2.length (fun v=>(at' c (v:Int)).length=tops.length∧∀x,x<tops.length->CS g (at' tops (x:Int)) v (val c v x)) (fun v ag hv hp=> ?_) (fun v ag hv hp=> ?_) (fun ag=> ?_) 1000 (by omega)
 ·exact⟨fun h=>outer.1 fun v hv=>⟨h.row v hv,h.ok v hv⟩,fun h=>outer.2 fun h'=>h ⟨h1,fun v hv=>(h' v hv).1,fun v hv=>(h' v hv).2⟩⟩
 ·unfold dL
  rw[if_pos (by omega),cQ (by omega),if_neg (by have:=hp.1;omega)]
  exact(inner v ag hv hp.1).1 hp.2
 ·unfold dL
  rw[if_pos (by omega),cQ (by omega)]
  by_cases hr:(at' c (v:Int)).length=tops.length
  ·rw[if_neg (by omega)]
   exact(inner v ag hv hr).2 fun h=>hp ⟨hr,h⟩
  ·rw[if_pos (by omega)]
 ·unfold dL mW
  rw[if_neg (by omega)]

def iF (g:GR):Nat->Int
 |0=>0
 |k+1=>max (iF g k) (at' g.1 (k:Int))
theorem HO {g:GR} (a:VG g):∀k,k<=g.2.length->0<=iF g k∧iF g k<=255
 |0,_=>by simp[iF]
 |k+1,h=>by
  have b:=HO a k (by omega)
  have c:0<=at' g.1 (k:Int)∧at' g.1 (k:Int)<=255:=(a.node k (by omega)).id
  simp only[iF];omega
abbrev EG:=Cc
def BA (x:EG):Prop:=(0<=x.2.2.2.1∧x.2.2.2.1<=100000)∧(0<=x.2.2.2.2.1∧x.2.2.2.2.1<=100000)∧(0<=x.2.2.2.2.2∧x.2.2.2.2.2<=100000)
def lo (g:GR) (x:EG) (v:Nat):Int:=if x.2.1=2 then 0 else if x.2.1=3 then -1 else x.2.2.1
def hi (g:GR) (x:EG) (v:Nat):Int:=if x.2.1=2 then 1 else if x.2.1=3 then((row g v).length:Int) - 1 else x.2.2.2.1+x.2.2.2.2.1*(g.2.length:Int)+x.2.2.2.2.2*iF g g.1.length
structure IA (g:GR) (c:a_) (vars:List EG):Prop where
 len:c.length=g.2.length
 row:∀v,v<g.2.length->(at' c (v:Int)).length=vars.length
 ok:∀v,v<g.2.length->∀x,x<vars.length->lo g (at' vars (x:Int)) v<=val c v x∧val c v x<=hi g (at' vars (x:Int)) v
theorem WF {g:GR} {c:a_} {d:List EG} {b:aQ} (f:d.length=b.length) (h:∀v x,v<g.2.length->x<b.length->∀a,(lo g (at' d (x:Int)) v<=a∧a<=hi g (at' d (x:Int)) v)↔CS g (at' b (x:Int)) v a):IA g c d↔Cf g c b:=
  ⟨fun k=>⟨k.len,fun v e=>by rw[k.row v e,f],fun v e x i=>(h v x e i _).1 (k.ok v e x (by omega))⟩,
   fun k=>⟨k.len,fun v e=>by rw[k.row v e,f],fun v e x i=>(h v x e (by omega) _).2 (k.ok v e x (by omega))⟩⟩
end
section

def Hv (a b:Nat):Nat:=(BitVec.ofInt 32 (a:Int) &&& ~~~ BitVec.ofInt 32 (b:Int)).toNat
theorem LV (a b:Nat):Hv a b<4294967296:=(BitVec.ofInt 32 (a:Int) &&& ~~~ BitVec.ofInt 32 (b:Int)).isLt
theorem ER {a i:Nat} (b:a<4294967296) (h:a.testBit i=true):i<32:=by
 apply Classical.byContradiction
 intro hc
 rw[Nat.testBit_lt_two_pow (Nat.lt_of_lt_of_le b (Nat.pow_le_pow_right (n:=2) (by omega) (show 32<=i by omega)))]at h
 cases h
theorem IZ {a b:Nat} (d:a<4294967296) (e:b<4294967296) (i:Nat):(Hv a b).testBit i=(a.testBit i && !b.testBit i):=by
 have:=BitVec.getLsbD_and (x:=BitVec.ofInt 32 (a:Int)) (y:= ~~~ BitVec.ofInt 32 (b:Int)) (i:=i)
 rw[BitVec.getLsbD_not]at this
 have h:(Hv a b).testBit i=((KS (a:Int)).testBit i&&(decide (i<32) && !(KS (b:Int)).testBit i)):=this
 rw[sR d,sR e]at h
 rw[h]
 cases c:a.testBit i with
 |false=>simp
 |true=>simp[ER d c]
theorem Hh (a b:Nat):qG .u32 (a:Int) (b:Int)=(Hv a b:Int):=JG _ (LV a b)
theorem DY {a b:Nat} (c:a<4294967296) (d:b<4294967296):dC .u32 (a:Int) (b:Int)=((a &&& b:Nat):Int):=by rw[Gu,sR c,sR d]
theorem XI {a b:Nat} (c:a<4294967296) (d:b<4294967296):EH .u32 (a:Int) (b:Int)=((a ||| b:Nat):Int):=by rw[XJ,sR c,sR d]
theorem Mm {a b:Nat} (c:a<4294967296) (d:b<4294967296):a ||| b<4294967296:=Nat.or_lt_two_pow (n:=32) c d
theorem NC {a b:Nat} (c:a<4294967296):a &&& b<4294967296:=Nat.lt_of_le_of_lt Nat.and_le_left c
theorem Ka {a k:Nat} (c:a<4294967296) (b:k<32):EH .u32 (a:Int) (xF .u32 1 (k:Int))=((a ||| 2^k:Nat):Int):=by rw[OJ b,XI c (zJ b)]
theorem aau {a k:Nat} (d:k<32) (c:a<4294967296):dC .u32 (oU .u32 (a:Int) (k:Int)) 1=0↔a.testBit k=false:=by
 have b:KS 1=1:=sR (a:=1) (by omega)
 rw[Kb d,Gu,sR (Nat.lt_of_le_of_lt (Nat.div_le_self _ _) c),b,Nat.and_one_is_mod,Nat.testBit_eq_decide_div_mod_eq,decide_eq_false_iff_not]
 omega
theorem Kr (p:Nat->Bool) {k:Nat} (a:k<=32):sJ p k<4294967296:=Nat.lt_of_lt_of_le (Mb p k) (Nat.pow_le_pow_right (n:=2) (by omega) a)
theorem Cw {a b:Nat} (h:∀i,a.testBit i=b.testBit i):a=b:=Nat.eq_of_testBit_eq h
def NB (q:Bool) (m v:Nat):Nat:=if q then m ||| 2^v else m
theorem Vo {q:Bool} {m v:Nat} (a:m<4294967296) (b:v<32):NB q m v<4294967296:=by
 unfold NB;split
 ·exact Mm a (zJ b)
 ·exact a
theorem WA (m v:Nat):(m ||| 2^v) ||| 2^v=m ||| 2^v:=by rw[Nat.or_assoc,Nat.or_self]

def vG (g:GR) (c:a_) (v i:Nat):Bool:=decide (val c v 0=at' (at' c (fX (row g v) i).1) 0)
theorem VG.to {g:GR} (c:VG g) {v i:Nat} (e:v<g.2.length) (d:i<(row g v).length):∃u:Nat,u<g.2.length∧(fX (row g v) i).1=(u:Int):=by
 obtain⟨u,a,b,_⟩:=c.port e d
 exact⟨u,a,b⟩

def eY:List EG:=[(ByteArray.mk #[99],1,0,0,1,0)]
theorem Zn:AW 1000=some eY:=rfl
theorem PR:∀x,x<eY.length->BA (at' eY (x:Int)):=by
 intro x a
 obtain rfl:x=0:=by simp[eY]at a;exact a
 exact⟨by decide,by decide,by decide⟩
theorem aaz {g:GR} (f:VG g) {c:a_}:IA g c eY↔Cf g c [(g.2.length:Int)]:=by
 refine WF rfl fun v x h b a=> ?_
 obtain rfl:x=0:=by simp at b;exact b
 have d:at' eY ((0:Nat):Int)=(ByteArray.mk #[99],1,0,0,1,0):=rfl
 have e:at' [(g.2.length:Int)] ((0:Nat):Int)=(g.2.length:Int):=rfl
 rw[d,e]
 unfold lo hi CS
 simp only[show¬((1:Int)=2) by decide,show¬((1:Int)=3) by decide,if_false]
 rw[if_neg (by omega)]
 omega
end
section
theorem Vq {n i:Nat}:(2^n - 1).testBit i=decide (i<n):=Nat.testBit_two_pow_sub_one n i

end
section
theorem KF {a:Type} [Inhabited a] (l:List a) (x:a) {i:Nat} (b:i<l.length+1):at' (l++[x]) (i:Int)=if i<l.length then at' l (i:Int)else x:=by
 rw[gG,gG]
 by_cases h:i<l.length
 ·rw[if_pos h,List.getD_eq_getElem?_getD,List.getD_eq_getElem?_getD,List.getElem?_append_left h]
 ·have:i=l.length:=by omega
  subst this
  rw[if_neg h];simp
def Sd (g:GR) (a:List EG) (v:Nat) (l:aQ):Prop:=∀x,x<l.length->lo g (at' a (x:Int)) v<=at' l (x:Int)∧at' l (x:Int)<=hi g (at' a (x:Int)) v
theorem QD {g:GR} (E:VG g) (d:List EG) (f:aQ) (ht:d.length<=900) (T:∀x,x<d.length->BA (at' d (x:Int)) ∧ -100000<=(at' d (x:Int)).2.2.1∧(at' d (x:Int)).2.2.1<=(at' d (x:Int)).2.2.2.1):
  OK (fun c=>IA g c d) (lZ 1000 g d f):=by
 have P:=E.n24
 have B:=E.len
 have O:lZ 1000 g d f=pR 1000 g d f (iF g g.2.length):=by
  unfold lZ
  refine dM (F:=fun k:Nat=>((iF g k,(k:Int)):eS)) g.2.length (fun k A hk=> ?_) (fun A=> ?_) 1000 (by omega)
  ·unfold tK
   simp only
   rw[if_pos (by omega),cQ (by omega),wr (by omega) (by omega)]
   rfl
  ·unfold tK
   simp only
   rw[if_neg (by omega)]
 rw[O]
 obtain⟨L,W⟩:=HO E g.2.length (by omega)
 unfold pR
 have I:=yK (step:=iX 1000 g d f (iF g g.2.length)) (K:=fun x=>some x.1) g.2.length (fun v x=>x.2=(v:Int)∧x.1.length=v∧∀w,w<v->(at' x.1 (w:Int)).length=d.length∧Sd g d w (at' x.1 (w:Int))) (fun v x A s p=> ?_) (fun x A p=> ?_) 1000 (([]:a_),(0:Int)) ⟨rfl,rfl,fun w U=>by omega⟩ (by omega)
 ·obtain⟨⟨c,i⟩,⟨_,q,o⟩,H⟩:=I
  exact⟨c,H,q,fun v s=>(o v s).1,fun v s x C=>(o v s).2 x (by rw[(o v s).1];exact C)⟩
 ·obtain⟨c,i⟩:=x
  obtain⟨rfl,q,o⟩:=p
  simp only at q o
  have J:(at' g.2 (v:Int)).length<g.2.length:=(E.node v s).deg
  unfold iX
  simp only
  rw[if_pos (by omega)]
  have D:=yK (step:=mT 1000 g d f (iF g g.2.length) (c,(v:Int)) A) (K:=fun y=>A (c++[y.1],(v:Int)+1)) d.length (fun x y=>y.2=(x:Int)∧y.1.length=x∧Sd g d v y.1) (fun x y m C p=> ?_) (fun y m p=> ?_) 1000 (([]:aQ),(0:Int)) ⟨rfl,rfl,fun x C=>by simp at C⟩ (by omega)
  ·obtain⟨⟨l,j⟩,⟨_,h,t⟩,H⟩:=D
   refine⟨(c++[l],(v:Int)+1),⟨by simp,by simp[q],fun w U=> ?_⟩,H⟩
   simp only
   rw[KF c l (by omega),q]
   by_cases e:w<v
   ·rw[if_pos e];exact o w e
   ·rw[if_neg e]
    have:w=v:=by omega
    subst this
    exact⟨h,t⟩
  ·obtain⟨l,j⟩:=y
   obtain⟨rfl,h,t⟩:=p
   simp only at h t
   obtain⟨⟨s1,M,N⟩,s4,s5⟩:=T x C
   have n:∀a b:Int,a=lo g (at' d (x:Int)) v->b=hi g (at' d (x:Int)) v -> -100000<=a->a<=b+1->b<=100000000->(a<=b∨(a = -1∧b = -1))->∃G,(G.2=((x+1:Nat):Int)∧G.1.length=x+1∧Sd g d v G.1)∧mS 1000 d f (c,(v:Int)) (l,(x:Int)) m (a,b)=m G:=by
    intro a b Q S X Y Z q4
    have R:a<=b:=by omega
    unfold mS
    simp only
    have w1:wI .i64 ((v:Int)*(d.length:Int))=(v:Int)*(d.length:Int):=by
     have p1:0<=(v:Int)*(d.length:Int):=Int.mul_nonneg (by omega) (by omega)
     have p2:(v:Int)*(d.length:Int)<=24*900:=Int.mul_le_mul (by omega) (by omega) (by omega) (by omega)
     exact wr (by omega) (by omega)
    have p1:0<=(v:Int)*(d.length:Int):=Int.mul_nonneg (by omega) (by omega)
    have p2:(v:Int)*(d.length:Int)<=24*900:=Int.mul_le_mul (by omega) (by omega) (by omega) (by omega)
    rw[w1,wr (x:=(v:Int)*(d.length:Int)+(x:Int)) (by omega) (by omega),LD _ _ (by omega),aZ rfl,wr (x:=b - a) (by omega) (by omega),wr (x:=b - a+1) (by omega) (by omega),p_ _ _ (by omega) (by omega),aZ rfl]
    have r1:=Int.emod_nonneg (at' f ((v:Int)*(d.length:Int)+(x:Int))) (b:=b - a+1) (by omega)
    have r2:=Int.emod_lt_of_pos (at' f ((v:Int)*(d.length:Int)+(x:Int))) (b:=b - a+1) (by omega)
    generalize at' f ((v:Int)*(d.length:Int)+(x:Int))%(b - a+1)=r at r1 r2
    rw[wr (x:=a+r) (by omega) (by omega),cQ (by simp;omega),wr (by omega) (by omega)]
    refine⟨_,⟨by simp,by simp[h],fun z V=> ?_⟩,rfl⟩
    simp only[List.length_append,List.length_cons,List.length_nil,h]at V
    simp only
    rw[KF l _ (by omega),h]
    by_cases e:z<x
    ·rw[if_pos e];exact t z (by omega)
    ·rw[if_neg e]
     have:z=x:=by omega
     subst this
     rw[<-Q,<-S];omega
   unfold mT
   simp only
   rw[if_pos (by omega),cQ (by omega),cQ (by omega),cQ (by omega),cQ (by omega),cQ (by omega)]
   by_cases t2:(at' d (x:Int)).2.1=2
   ·rw[if_pos t2]
    exact n 0 1 (by unfold lo;rw[if_pos t2]) (by unfold hi;rw[if_pos t2]) (by omega) (by omega) (by omega) (by omega)
   ·rw[if_neg t2]
    by_cases u:(at' d (x:Int)).2.1=3
    ·rw[if_pos u,cQ (by omega),wr (by omega) (by omega)]
     exact n (-1) _ (by unfold lo;rw[if_neg t2,if_pos u]) (by unfold hi;rw[if_neg t2,if_pos u]) (by omega) (by omega) (by omega) (by omega)
    ·rw[if_neg u]
     have X:0<=(at' d (x:Int)).2.2.2.2.1*(g.2.length:Int):=Int.mul_nonneg M.1 (by omega)
     have Y:(at' d (x:Int)).2.2.2.2.1*(g.2.length:Int)<=100000*24:=Int.mul_le_mul M.2 (by omega) (by omega) (by omega)
     have Z:0<=(at' d (x:Int)).2.2.2.2.2*iF g g.2.length:=Int.mul_nonneg N.1 L
     have q4:(at' d (x:Int)).2.2.2.2.2*iF g g.2.length<=100000*255:=Int.mul_le_mul N.2 W L (by omega)
     rw[wr (x:=(at' d (x:Int)).2.2.2.2.1*(g.2.length:Int)) (by omega) (by omega),wr (x:=(at' d (x:Int)).2.2.2.2.2*iF g g.2.length) (by omega) (by omega),wr (x:=(at' d (x:Int)).2.2.2.1+(at' d (x:Int)).2.2.2.2.1*(g.2.length:Int)) (by omega) (by omega),wr (by omega) (by omega)]
     exact n _ _ (by unfold lo;rw[if_neg t2,if_neg u]) (by unfold hi;rw[if_neg t2,if_neg u,B]) (by omega) (by omega) (by omega) (by omega)
  ·obtain⟨l,j⟩:=y
   obtain⟨rfl,h,t⟩:=p
   simp only at h t
   unfold mT xL
   simp only
   rw[if_neg (by omega),cQ (by simp;omega),wr (by omega) (by omega)]
 ·obtain⟨c,i⟩:=x
  obtain⟨rfl,q,o⟩:=p
  unfold iX tJ
  simp only
  rw[if_neg (by omega)]
end
section
section
def low (a b:Int):Int:=if 0<=b∧(a<0∨b<a)then b else a
end
end
end Go.Proofs.YtpenklncfhiloaaGreatDoor
end
end
section
namespace Go.Proofs.YtpenklncfhiloaaGreatDoor
open Go.Sx
def rH  (a:aQ):Option aQ:=
 some (a)
def rI (a:Int×aQ) (c:(Int×aQ)->Option aQ) (b:aQ):Option aQ:=
 c ((wI .i64 (a.1+(1:Int))),b)
def oB (p0:cT) (a:Int×aQ) (d:(Int×aQ)->Option aQ) (b:Int×aQ) (c:(Int×aQ)->Option aQ):Option aQ:=
 if b.1<(List.length (at' p0.2 a.1):Int)then(ck (0<=b.1∧b.1<(List.length (at' p0.2 a.1):Int)) (ck (0<=a.1∧a.1<(List.length b.2:Int)) (ck (0<=((at' (at' p0.2 a.1) b.1).1)) (ck (0<=a.1∧a.1<(List.length b.2:Int)) (c ((wI .i64 (b.1+(1:Int))),(List.set b.2 (Int.toNat a.1) (EH .u32 (at' b.2 a.1) (xF .u32 (1:Int) ((at' (at' p0.2 a.1) b.1).1))))))))))else(rI a d (b.2))
def jN (U:Nat) (p0:cT) (a:Int×aQ) (b:(Int×aQ)->Option aQ):Option aQ:=
 if a.1<(List.length p0.2:Int)then(ck (0<=a.1∧a.1<(List.length p0.2:Int)) (bM (oB p0 a b) U ((0:Int),a.2)))else(rH  (a.2))
def kL (U:Nat) (p0:cT):Option aQ:=
 ck (0<=(List.length p0.2:Int)∧(List.length p0.2:Int)<=1099511627) (bM (jN U p0) U ((0:Int),(List.replicate (Int.toNat (List.length p0.2:Int)) (0:Int))))
theorem Yh:aO Tryz.prog 72:=Tryz.call72
theorem Gk (U:Nat) {p0:cT} (v0:Value)  (v1:Value)  (z2:jT) (r:aQ) (h:kL U p0=some r):
  aV Tryz.prog 72 #[Value.agg #[v0,v1]] [Sl bL v0 p0.1,S2 aW v1 z2 p0.2] (fun x:Value=>x) (fun x l=>Ar nQ x r::l) (fun _ l=>l):=by
 refine aV.of Tryz.func72 rfl Tryz.ntmps72 rfl fun c=>?_
 refine sqR<|aE (aG.box (cs:=[v0,v1]) rfl rfl) rfl fun b1=>qkAsg rfl<|dtN<|sqR<|qkFld rfl<|qkLd 0 rfl<|aB (iY rfl (aC.fact 1 rfl) rfl) rfl<|ckE h fun j2 h=>aE (nJ (e:=nQ) (0:Int) rfl rfl rfl rfl j2 rfl rfl rfl) rfl fun u3=>qkAsg rfl<|dtN<|aH<|midU (fun a5=>rH  a5=some r) (fun a5 b6=>[(3,u3)]) (fun a5 b6=>[Ar nQ u3 a5]) ?_ ?_
 ·refine sqR<|qkFld rfl<|qkLd 1 rfl<|aB (iY rfl (aC.fact 1 rfl) rfl) rfl<|qkMove rfl<|dtN<|aR<|loopL (jN U p0) (fun a10 b11=>[(3,u3),(13,v1),(14,vI (List.length p0.2:Int)),(15,vI (a10.1))]) (fun a10 b11=>[Ar nQ u3 a10.2]) ((0:Int),(List.replicate (Int.toNat (List.length p0.2:Int)) (0:Int))) () h SF (aS.ix [0] rfl rfl) ?_
  intro k12 a10 b11 h
  refine sqR<|qkLss rfl<|dtN<|aH ?_
  refine eZ h rfl (fun h=>?_) fun h=>?_
  ·refine cL<|aH<|midU (fun a15=>rI a10 (bM (jN U p0) k12) a15=some r) (fun a15 b16=>[(3,u3),(13,v1),(14,vI (List.length p0.2:Int)),(15,vI (a10.1))]) (fun a15 b16=>[Ar nQ u3 a15]) ?_ ?_
   ·refine aR<|sqR<|qkMove rfl<|ckE h fun j17 h=>aB (cG rfl rfl (aC.fact 1 rfl) rfl rfl j17) rfl<|aB (cI rfl (aC.fact 1 rfl) rfl rfl j17) rfl<|qkAsg rfl<|qkAsg rfl<|dtN<|sqR<|qkMove rfl<|aB (fM rfl (aC.el (aC.fact 1 rfl) j17.1 j17.2) rfl) rfl<|qkMove rfl<|dtN<|aR<|loopL (oB p0 a10 (bM (jN U p0) k12)) (fun a21 b22=>[(3,u3),(4,vI (a10.1)),(13,v1),(14,vI (List.length p0.2:Int)),(15,vI (a10.1)),(20,(at' z2 a10.1).1),(21,vI (List.length (at' p0.2 a10.1):Int)),(22,vI (a21.1))]) (fun a21 b22=>[Ar nQ u3 a21.2]) ((0:Int),a10.2) () h SF (aS.refl _) ?_
    intro k23 a21 b22 h
    refine sqR<|qkLss rfl<|dtN<|aH ?_
    refine eZ h rfl (fun h=>?_) fun h=>?_
    ·refine cL<|aH<|aR<|sqR<|ckE h fun j25 h=>aB (bG rfl rfl (aC.el (aC.fact 1 rfl) j17.1 j17.2) rfl rfl j25) rfl<|aB (gV (cs:=[vI ((at' (at' p0.2 a10.1) a21.1).1),vI ((at' (at' p0.2 a10.1) a21.1).2)]) rfl (aC.el (aC.fact 1 rfl) j17.1 j17.2) aU rfl rfl rfl rfl j25) rfl<|aE (aG.alloc (cs:=Oz) rfl rfl) rfl fun b26=>aY 0 (vs:=[vI ((at' (at' p0.2 a10.1) a21.1).1),vI ((at' (at' p0.2 a10.1) a21.1).2)]) rfl rfl rfl rfl rfl rfl<|dtN ?_
     refine JR.start [0,0,3,7,0,16,48,127,255,511] 7 mixedOrders (by decide +kernel) ?_
     refine JR.open (by exact rfl) ?_
     refine jkMove rfl<|jkMove rfl<|ckE h fun j27 h=>bD rfl (aS.cons 1 rfl .nil) .nil (bG rfl rfl (aT (aC.res 0 rfl) jP) rfl rfl j27) aK.z<|bD rfl (aS.cons 1 rfl .nil) .nil (cK rfl (aT (aC.res 0 rfl) jP) rfl rfl rfl AH j27) aK.z<|jkFld rfl<|jkLd 0 rfl<|ckE h fun j28 h=>jqN rfl (FL rfl rfl j28)<|bF 7 rfl rfl<|aB (Nz rfl rfl) rfl<|ckE h fun j29 h=>aB (bG rfl rfl (aT (aC.res 1 rfl) jP) rfl rfl j29) rfl<|Lc 1 (EH .u32 (at' a21.2 a10.1) (xF .u32 (1:Int) ((at' (at' p0.2 a10.1) a21.1).1))) j29 rfl rfl rfl rfl rfl rfl rfl<|eI<|inT<|aM<|qkAdd rfl<|qkMove rfl<|dtN ?_
     exact kN ((wI .i64 (a21.1+(1:Int))),(List.set a21.2 (Int.toNat a10.1) (EH .u32 (at' a21.2 a10.1) (xF .u32 (1:Int) ((at' (at' p0.2 a10.1) a21.1).1))))) () h SF (aS.ix [1] rfl rfl) (aA.refl _ _)
    refine qP<|eL<|eL<|wU<|inT ?_
    exact iQ (a21.2) () h SF rfl
   intro a15 b16 h
   unfold rI at h
   refine aM<|qkAdd rfl<|qkMove rfl<|dtN ?_
   exact Ah ((wI .i64 (a10.1+(1:Int))),a15) () h SF rfl
  refine gH ?_
  exact iQ (a10.2) () h SF rfl
 intro a5 b6 h
 unfold rH at h
 refine sqR<|qkMove rfl<|qkAsg rfl<|dtN<|aN ?_
 cases h
 exact gE (u3) rfl rfl (RV.tmp rfl) (aS.refl _) aA.nil
end Go.Proofs.YtpenklncfhiloaaGreatDoor
end
section
namespace Go.Proofs.YtpenklncfhiloaaGreatDoor
open Go Go.Sx
section
structure Qk (m k:Nat):Prop where
 bit:m.testBit k=true
 low:∀j,j<k->m.testBit j=false
theorem Fg {m:Nat} (h:m≠0):∃k,Qk m k:=by
 obtain⟨i,c⟩:=Nat.exists_testBit_of_ne_zero h
 obtain⟨k,_,a,b⟩:=Jl (p:=fun i=>m.testBit i=true) i c
 exact⟨k,a,fun j d=>by simpa using b j d⟩
theorem Ms {m k:Nat} (h:Qk m k) (i:Nat):(m - 1).testBit i=if i<k then true else if i=k then false else m.testBit i:=by
 have b:m=2^(k+1)*(m / 2^(k+1))+2^k:=by
  refine Nat.eq_of_testBit_eq fun i=> ?_
  have a:2^k<2^(k+1):=Nat.pow_lt_pow_right (by omega) (by omega)
  rw[Nat.testBit_two_pow_mul_add _ a,Nat.testBit_two_pow,Nat.testBit_div_two_pow]
  rcases Nat.lt_trichotomy i k with q|q|q
  ·rw[if_pos (by omega),h.low i q,decide_eq_false (by omega)]
  ·subst q;rw[if_pos (by omega),h.bit,decide_eq_true rfl]
  ·rw[if_neg (by omega),show i - (k+1)+(k+1)=i by omega]
 have c:0<2^k:=Nat.pow_pos (by omega)
 have a:2^k - 1<2^(k+1):=by rw[Nat.pow_succ];omega
 have e:m - 1=2^(k+1)*(m / 2^(k+1))+(2^k - 1):=by omega
 rw[e,Nat.testBit_two_pow_mul_add _ a,Nat.testBit_two_pow_sub_one,Nat.testBit_div_two_pow]
 rcases Nat.lt_trichotomy i k with q|q|q
 ·rw[if_pos (by omega),if_pos q,decide_eq_true q]
 ·subst q;rw[if_pos (by omega),if_neg (by omega),if_pos rfl,decide_eq_false (by omega)]
 ·rw[if_neg (by omega),if_neg (by omega),if_neg (by omega),show i - (k+1)+(k+1)=i by omega]
theorem acX {m:Nat} (b:m<4294967296) (a:m≠0):wI .u32 (0 - (m:Int))=((4294967296 - m:Nat):Int):=by
 rw[Dh]
 have:IntKind.u32.wrap (0 - (m:Int))=(0 - (m:Int))%4294967296:=rfl
 rw[this];omega
theorem aay {m:Nat} (b:m<4294967296) (a:m≠0):wI .u32 ((m:Int) - 1)=((m - 1:Nat):Int):=by
 rw[show(m:Int) - 1=((m - 1:Nat):Int) by omega,Dh,JG _ (by omega)]
theorem YP {m k:Nat} (a:m<4294967296) (h:Qk m k):dC .u32 (m:Int) (wI .u32 (0 - (m:Int)))=((2^k:Nat):Int):=by
 have b:m≠0:=fun e=>by have:=h.bit;rw[e]at this;simp at this
 have c:k<32:=ER a h.bit
 rw[acX a b,DY a (by omega)]
 congr 1
 refine Nat.eq_of_testBit_eq fun i=> ?_
 rw[Nat.testBit_and,show 4294967296 - m=2^32 - ((m - 1)+1) by omega,Nat.testBit_two_pow_sub_succ (by omega),Nat.testBit_two_pow,Ms h]
 rcases Nat.lt_trichotomy i k with q|q|q
 ·rw[h.low i q,decide_eq_false (show¬k=i by omega)];rfl
 ·subst q;rw[h.bit,if_neg (by omega),if_pos rfl,decide_eq_true c,decide_eq_true rfl];rfl
 ·rw[if_neg (by omega),if_neg (by omega),decide_eq_false (show¬k=i by omega)]
  cases m.testBit i<;>simp
theorem NI {m k:Nat} (a:m<4294967296) (h:Qk m k):∃b:Nat,dC .u32 (m:Int) (wI .u32 ((m:Int) - 1))=(b:Int)∧b<4294967296∧∀i,b.testBit i=(m.testBit i&&decide (i≠k)):=by
 have c:m≠0:=fun e=>by have:=h.bit;rw[e]at this;simp at this
 refine⟨m &&& (m - 1),by rw[aay a c,DY a (by omega)],NC a,fun i=> ?_⟩
 rw[Nat.testBit_and,Ms h]
 rcases Nat.lt_trichotomy i k with q|q|q
 ·rw[h.low i q];rfl
 ·subst q;simp
 ·rw[if_neg (by omega),if_neg (by omega)]
  have:decide (i≠k)=true:=decide_eq_true (by omega)
  rw[this];cases m.testBit i<;>rfl
theorem Zj:∀k:Fin 32,((0:Int)<=oU .u32 (wI .u32 ((((2^k.val:Nat):Int))*125613361)) 27∧oU .u32 (wI .u32 ((((2^k.val:Nat):Int))*125613361)) 27<((32:Nat):Int))∧wI .i64 (at' uB (oU .u32 (wI .u32 ((((2^k.val:Nat):Int))*125613361)) 27))=(k.val:Int):=by decide +kernel
theorem Xn (f:Nat) {m k:Nat} (a:m<4294967296) (h:Qk m k):iM f (m:Int)=some (k:Int):=by
 have d:m≠0:=fun e=>by have:=h.bit;rw[e]at this;simp at this
 obtain⟨b,c⟩:=Zj ⟨k,ER a h.bit⟩
 unfold iM
 rw[if_neg (by omega),cQ (by decide),YP a h,cQ ⟨b,rfl⟩,c]

structure Li (g:GR) (r:aQ):Prop where
 len:r.length=g.2.length
 at':∀v:Nat,v<g.2.length->∃m:Nat,Go.Sx.at' r (v:Int)=(m:Int)∧m<4294967296∧∀u,m.testBit u=true↔Iw g v u
theorem YV {g:GR} (I:VG g):∃r,kL 1000 g=some r∧Li g r:=by
 have R:=I.n24
 unfold kL
 rw[cQ (by omega)]
 obtain⟨⟨a,r⟩,⟨y,B,C⟩,J⟩:=yK (step:=jN 1000 g) (K:=fun z=>some z.2) g.2.length
  (fun k z=>z.1=(k:Int)∧z.2.length=g.2.length∧∀v:Nat,v<g.2.length->∃m:Nat,Go.Sx.at' z.2 (v:Int)=(m:Int)∧m<4294967296∧∀u,m.testBit u=true↔v<k∧Iw g v u) (fun k z E M G=>by
  obtain⟨a,r⟩:=z
  obtain⟨y,B,C⟩:=G
  dsimp only at y B C
  subst y
  have O:=(I.node k M).deg
  obtain⟨⟨b,U⟩,⟨s,d,c⟩,J⟩:=yK (step:=oB g ((k:Int),r) E) (K:=fun z=>E (((k+1:Nat):Int),z.2)) (row g k).length
   (fun j z=>z.1=(j:Int)∧z.2.length=g.2.length∧∀v:Nat,v<g.2.length->∃m:Nat,Go.Sx.at' z.2 (v:Int)=(m:Int)∧m<4294967296∧∀u,m.testBit u=true↔(v<k∧Iw g v u)∨(v=k∧∃i,i<j∧(fX (row g k) i).1=(u:Int))) (fun j z F S H=>by
   obtain⟨b,q⟩:=z
   obtain⟨s,d,c⟩:=H
   dsimp only at s d c
   subst s
   obtain⟨w,V,x,N⟩:=I.port M S
   obtain⟨m,T,l,t⟩:=c k M
   refine⟨(((j+1:Nat):Int),q.set k (((m ||| 2^w:Nat)):Int)),⟨rfl,by simpa using d,fun v f=> ?_⟩,?_⟩
   ·show∃P,Go.Sx.at' (q.set k _) (v:Int)=_∧_
    rw[uD q k v _ (by omega)]
    by_cases e:v=k
    ·subst e
     refine⟨_,if_pos rfl,Mm l (zJ (by omega)),fun u=> ?_⟩
     rw[Nat.testBit_or,Nat.testBit_two_pow,Bool.or_eq_true,t u,decide_eq_true_eq]
     constructor
     ·rintro((h|⟨_,i,A,h⟩)|h)
      ·exact .inl h
      ·exact .inr ⟨rfl,i,by omega,h⟩
      ·exact .inr ⟨rfl,j,by omega,by rw[x,h]⟩
     ·rintro(h|⟨_,i,A,h⟩)
      ·exact .inl (.inl h)
      ·by_cases L:i=j
       ·subst L;right;rw[x]at h;omega
       ·exact .inl (.inr ⟨rfl,i,by omega,h⟩)
    ·obtain⟨P,n,o,p⟩:=c v f
     refine⟨P,by rw[if_neg e];exact n,o,fun u=> ?_⟩
     rw[p u]
     constructor
     ·rintro(h|⟨h,_⟩)
      ·exact .inl h
      ·exact absurd h e
     ·rintro(h|⟨h,_⟩)
      ·exact .inl h
      ·exact absurd h e
   ·unfold oB
    dsimp only
    rw[if_pos (show(j:Int)<((row g k).length:Int) by omega),cQ (show 0<=(j:Int)∧(j:Int)<((row g k).length:Int) by omega),cQ (by omega),show Go.Sx.at' (Go.Sx.at' g.2 (k:Int)) (j:Int)=fX (row g k) j from rfl,x,cQ (by omega),cQ (by omega),T,Ka l (by omega),dY (by omega),Int.toNat_natCast]) (fun z F H=>by
   obtain⟨b,q⟩:=z
   obtain⟨s,d,c⟩:=H
   dsimp only at s d c
   subst s
   unfold oB rI
   dsimp only
   rw[if_neg (show¬((row g k).length:Int)<((row g k).length:Int) by omega),dY (by omega)]) 1000 ((0:Int),r) ⟨rfl,B,fun v f=>by
    obtain⟨m,n,o,p⟩:=C v f
    refine⟨m,n,o,fun u=> ?_⟩
    rw[p u]
    constructor
    ·exact fun h=> .inl h
    ·rintro(h|⟨_,i,A,_⟩)
     ·exact h
     ·omega⟩ (by omega)
  dsimp only at s d c
  refine⟨(((k+1:Nat):Int),U),⟨rfl,d,fun v f=> ?_⟩,?_⟩
  ·obtain⟨m,n,o,p⟩:=c v f
   refine⟨m,n,o,fun u=> ?_⟩
   rw[p u]
   constructor
   ·rintro(⟨Q,D⟩|⟨rfl,i,A,h⟩)
    ·exact⟨by omega,D⟩
    ·exact⟨by omega,i,A,h⟩
   ·rintro⟨Q,D⟩
    by_cases e:v=k
    ·subst e
     obtain⟨i,A,h⟩:=D
     exact .inr ⟨rfl,i,A,h⟩
    ·exact .inl ⟨by omega,D⟩
  ·unfold jN
   dsimp only
   rw[if_pos (by omega),cQ (by omega)]
   exact J) (fun z E G=>by
  obtain⟨a,r⟩:=z
  obtain⟨y,B,C⟩:=G
  dsimp only at y
  subst y
  unfold jN rH
  dsimp only
  rw[if_neg (by omega)]) 1000 ((0:Int),List.replicate (Int.toNat (g.2.length:Int)) (0:Int)) ⟨rfl,by simp,fun v f=>⟨0,by
   rw[Int.toNat_natCast,iZ (by simpa using f)];simp,by omega,fun u=>by simp⟩⟩ (by omega)
 refine⟨r,J,B,fun v f=> ?_⟩
 obtain⟨m,n,o,p⟩:=C v f
 exact⟨m,n,o,fun u=>by rw[p u];exact⟨fun h=>h.2,fun h=>⟨f,h⟩⟩⟩
end
section
def RF (g:GR) (m:Nat):Prop:=∀i,m.testBit i=true->i<g.2.length
theorem RF.lt {g:GR} (b:VG g) {m:Nat} (h:RF g m):m<16777216:=by
 have a:=b.n24
 refine Nat.lt_of_lt_of_le (Nat.lt_pow_two_of_testBit (n:=24) m fun i d=> ?_) (Nat.le_refl _)
 cases c:m.testBit i with
 |false=>rfl
 |true=>have:=h i c;omega
theorem ZU {m:Nat} (h:∀i,i<32->m.testBit i=false) (b:m<4294967296):m=0:=by
 refine Nat.eq_of_testBit_eq fun i=> ?_
 rw[Nat.zero_testBit]
 rcases Nat.lt_or_ge i 32 with q|q
 ·exact h i q
 ·cases a:m.testBit i with
  |false=>rfl
  |true=>have:=ER b a;omega
theorem NU {g:GR} (hV:VG g) {r:aQ} (hN:Li g r) {t:Nat} (ht:RF g t) (hi:∀v u,t.testBit v=true->t.testBit u=true->¬Iw g v u) (F:Nat):∀(d s fuel rest:Nat),s+d=32->rest<4294967296->(∀i,i<s->rest.testBit i=false)->(∀i,rest.testBit i=true->t.testBit i=true)->d<fuel->
  bM (fI F r (t:Int)) fuel (rest:Int)=some true:=by
 have h24:=hV.n24
 have ht32:t<4294967296:=by have:=ht.lt hV;omega
 intro d
 induction d using Nat.strongRecOn with
 | _ d ih =>
  intro s fuel rest hs hr hlow hsub hf
  obtain⟨fuel,rfl⟩:∃f,fuel=f+1:=⟨fuel - 1,by omega⟩
  show fI F r (t:Int) (rest:Int) (bM _ fuel)=_
  unfold fI iH
  by_cases h0:rest=0
  ·rw[if_neg (by omega)]
  obtain⟨k,hk⟩:=Fg h0
  have hkn:=ht k (hsub k hk.bit)
  have hks:s<=k:=by
   rcases Nat.lt_or_ge k s with q|q
   ·have:=hk.bit;rw[hlow k q]at this;cases this
   ·exact q
  obtain⟨m,hm,hm32,hbits⟩:=hN.at' k hkn
  rw[if_pos (by omega),aZ (Xn F hr hk),cQ (by have:=hN.len;omega),hm,DY hm32 ht32]
  have hz:m &&& t=0:=by
   refine ZU (fun i _=> ?_) (NC hm32)
   rw[Nat.testBit_and]
   cases h1:m.testBit i with
   |false=>rfl
   |true=>
    cases h2:t.testBit i with
    |false=>rfl
    |true=>exact absurd ((hbits i).1 h1) (hi k i (hsub k hk.bit) h2)
  rw[hz,if_neg (by simp)]
  obtain⟨m',e1,e2,e3⟩:=NI hr hk
  rw[e1]
  have hk32:k<32:=by omega
  refine ih (32 - (k+1)) (by omega) (k+1) fuel m' (by omega) e2 (fun i hi=> ?_) (fun i hi=> ?_) (by omega)
  ·rw[e3]
   by_cases e:i=k
   ·simp[e]
   ·rw[hk.low i (by omega)];rfl
  ·rw[e3,Bool.and_eq_true]at hi
   exact hsub i hi.1
theorem Gf {g:GR} (hV:VG g) {r:aQ} (hN:Li g r) {t:Nat} (ht:RF g t) (hi:∀v u,t.testBit v=true->t.testBit u=true->¬Iw g v u):fQ 1000 r (t:Int)=some true:=
 NU hV hN ht hi 1000 32 0 1000 t (by omega) (by have:=ht.lt hV;omega) (fun i hi=>by omega) (fun i h=>h) (by omega)
theorem LY {g:GR} (hV:VG g) {r:aQ} (hN:Li g r) {W:Nat} (hW:RF g W) (F:Nat):∀(d s fuel rest t:Nat),s+d=32->rest<4294967296->t<4294967296->(∀i,i<s->rest.testBit i=false)->(∀i,rest.testBit i=true->W.testBit i=true)->(∀i,t.testBit i=true->W.testBit i=true)->(∀v u,t.testBit v=true->t.testBit u=true->¬Iw g v u)->(W≠0->t≠0∨rest=W)->d<fuel->
  ∃t':Nat,bM (dU F r) fuel ((rest:Int),(t:Int))=some (t':Int)∧t'<4294967296∧(∀i,t'.testBit i=true->W.testBit i=true)∧(∀v u,t'.testBit v=true->t'.testBit u=true->¬Iw g v u)∧(W≠0->t'≠0):=by
 have h24:=hV.n24
 intro d
 induction d using Nat.strongRecOn with
 | _ d ih =>
  intro s fuel rest t hs hr ht32 hlow hsub htW hind hne hf
  obtain⟨fuel,rfl⟩:∃f,fuel=f+1:=⟨fuel - 1,by omega⟩
  have hun:bM (dU F r) (fuel+1) ((rest:Int),(t:Int))=dU F r ((rest:Int),(t:Int)) (bM (dU F r) fuel):=rfl
  rw[hun]
  unfold dU kG hZ
  dsimp only
  by_cases h0:rest=0
  ·rw[if_neg (by omega)]
   refine⟨t,rfl,ht32,htW,hind,fun hw=> ?_⟩
   rcases hne hw with h|h
   ·exact h
   ·exact absurd (h.symm.trans h0) hw
  obtain⟨k,hk⟩:=Fg h0
  have hkW:=hsub k hk.bit
  have hkn:=hW k hkW
  have hks:s<=k:=by
   rcases Nat.lt_or_ge k s with q|q
   ·have:=hk.bit;rw[hlow k q]at this;cases this
   ·exact q
  obtain⟨m,hm,hm32,hbits⟩:=hN.at' k hkn
  obtain⟨m',e1,e2,e3⟩:=NI hr hk
  have hk32:k<32:=by omega
  have low':∀i,i<k+1->m'.testBit i=false:=fun i hi=>by
   rw[e3]
   by_cases e:i=k
   ·simp[e]
   ·rw[hk.low i (by omega)];rfl
  have sub':∀i,m'.testBit i=true->W.testBit i=true:=fun i hi=>by
   rw[e3,Bool.and_eq_true]at hi
   exact hsub i hi.1
  rw[if_pos (by omega),aZ (Xn F hr hk),cQ (by have:=hN.len;omega),hm,DY hm32 ht32,e1]
  by_cases hz:m &&& t=0
  ·rw[hz,if_pos (by rfl),cQ (by omega),Ka ht32 hk32]
   have hkt:(t ||| 2^k).testBit k=true:=by rw[Nat.testBit_or,Nat.testBit_two_pow];simp
   have nadj:∀u,t.testBit u=true->¬Iw g k u:=fun u hu ha=>by
    have:=congrArg (fun q=>q.testBit u) hz
    simp only[Nat.testBit_and,Nat.zero_testBit,(hbits u).2 ha,hu]at this
    cases this
   refine ih (32 - (k+1)) (by omega) (k+1) fuel m' (t ||| 2^k) (by omega) e2 (Mm ht32 (zJ hk32)) low' sub' (fun i hi=> ?_) (fun v u hv hu=> ?_) (fun _=> .inl fun e=>by rw[e]at hkt;simp at hkt) (by omega)
   ·rw[Nat.testBit_or,Nat.testBit_two_pow,Bool.or_eq_true,decide_eq_true_eq]at hi
    rcases hi with hi|rfl
    ·exact htW i hi
    ·exact hkW
   ·rw[Nat.testBit_or,Nat.testBit_two_pow,Bool.or_eq_true,decide_eq_true_eq]at hv hu
    rcases hv with hv|rfl
    ·rcases hu with hu|rfl
     ·exact hind v u hv hu
     ·exact fun ha=>nadj v hv (hV.back (hW v (htW v hv)) ha)
    ·rcases hu with hu|rfl
     ·exact nadj u hu
     ·rintro⟨i,hi,he⟩
      exact((hV.node k hkn).links i hi).2.1 he
  ·rw[if_neg (by omega)]
   refine ih (32 - (k+1)) (by omega) (k+1) fuel m' t (by omega) e2 ht32 low' sub' htW hind (fun _=> .inl fun e=> ?_) (by omega)
   rw[e]at hz
   exact hz (Nat.and_zero m)
theorem Of {g:GR} (hV:VG g) {r:aQ} (hN:Li g r) {kind:Int} (hk1:1<=kind) (hk4:kind<=4) {e w:Nat} (he:RF g e) (hw:w<4294967296):
  ∃t:Nat,dJ 1000 r kind (e:Int) (w:Int)=some (t:Int)∧(∀i,t.testBit i=true->e.testBit i=true)∧(e≠0->t≠0∧eX 1000 r kind (e:Int) (t:Int)=some true∧(kind<=2->∀v u,t.testBit v=true->t.testBit u=true->¬Iw g v u)∧(kind=4->t=e)):=by
 have he24:=he.lt hV
 have he32:e<4294967296:=by omega
 -- the wish
 obtain⟨W,hW,hW32,hWe,hW0,hWm⟩:∃W:Nat,dJ 1000 r kind (e:Int) (w:Int)=g_ 1000 r kind (e:Int) (W:Int)∧W<4294967296∧(∀i,W.testBit i=true->e.testBit i=true)∧(e≠0->W≠0)∧(e=0->W=0):=by
  unfold dJ
  rw[DY hw he32]
  by_cases h0:w &&& e=0
  ·rw[h0,if_pos (show((0:Nat):Int)=0 from rfl)]
   by_cases hee:e=0
   ·refine⟨0,by rw[hee];rfl,by omega,fun i h=>by simp at h,fun h=>absurd hee h,fun _=>rfl⟩
   ·obtain⟨k,hk⟩:=Fg hee
    have hk32:=ER he32 hk.bit
    refine⟨2^k,by rw[YP he32 hk],zJ hk32,fun i h=> ?_,fun _=>Nat.ne_of_gt (Nat.pow_pos (by omega)),fun h=>absurd h hee⟩
    rw[Nat.testBit_two_pow,decide_eq_true_eq]at h
    rw[<-h];exact hk.bit
  ·rw[if_neg (by omega)]
   refine⟨w &&& e,rfl,NC hw,fun i h=> ?_,fun _=>h0,fun h=>by rw[h];exact Nat.and_zero w⟩
   rw[Nat.testBit_and,Bool.and_eq_true]at h
   exact h.2
 have hWG:RF g W:=fun i hi=>he i (hWe i hi)
 have permits:∀(t:Nat),t≠0->t<4294967296->(∀i,t.testBit i=true->e.testBit i=true)->∀b,(if kind=1 then some (decide ((dC .u32 (t:Int) (wI .u32 ((t:Int) - 1)))=0))else if kind=2 then(Option.bind (fQ 1000 r (t:Int)) fun r7=>some r7)else if kind=4 then some (decide ((t:Int)=(e:Int)))else some true)=some b->eX 1000 r kind (e:Int) (t:Int)=some b:=by
  intro t h0 h32 hsub b hb
  unfold eX kF
  have hd:Hv t e=0:=by
   refine Nat.eq_of_testBit_eq fun i=> ?_
   rw[IZ h32 he32,Nat.zero_testBit]
   cases h1:t.testBit i with
   |false=>rfl
   |true=>rw[hsub i h1];rfl
  rw[if_neg (by omega),Hh,hd,if_neg (by simp)]
  exact hb
 rw[hW]
 unfold g_
 by_cases k1:kind=1
 ·rw[if_pos k1]
  by_cases hw0:W=0
  ·refine⟨0,by rw[hw0];rfl,fun i h=>by simp at h,fun h=>absurd hw0 (hW0 h)⟩
  ·obtain⟨k,hk⟩:=Fg hw0
   have hk32:=ER hW32 hk.bit
   have hL:Qk (2^k) k:=⟨by rw[Nat.testBit_two_pow];simp,fun j hj=>by rw[Nat.testBit_two_pow];exact decide_eq_false (by omega)⟩
   refine⟨2^k,by rw[YP hW32 hk],fun i h=> ?_,fun hee=>⟨Nat.ne_of_gt (Nat.pow_pos (by omega)),?_,fun _ v u hv hu hadj=> ?_,fun h=>by omega⟩⟩
   ·rw[Nat.testBit_two_pow,decide_eq_true_eq]at h
    rw[<-h];exact hWe k hk.bit
   ·refine permits _ (Nat.ne_of_gt (Nat.pow_pos (by omega))) (zJ hk32) (fun i h=> ?_) true ?_
    ·rw[Nat.testBit_two_pow,decide_eq_true_eq]at h
     rw[<-h];exact hWe k hk.bit
    ·obtain⟨m',e1,e2,e3⟩:=NI (zJ hk32) hL
     rw[if_pos k1,e1]
     have:m'=0:=Nat.eq_of_testBit_eq fun i=>by
      rw[e3,Nat.testBit_two_pow,Nat.zero_testBit]
      by_cases q:k=i
      ·simp[q]
      ·simp[q]
     rw[this];rfl
   ·rw[Nat.testBit_two_pow,decide_eq_true_eq]at hv hu
    subst hv;subst hu
    obtain⟨i,hi,he⟩:=hadj
    exact((hV.node k (hWG k hk.bit)).links i hi).2.1 he
 rw[if_neg k1]
 by_cases k2:kind=2
 ·rw[if_pos k2]
  obtain⟨t,h1,h2,h3,h4,h5⟩:=LY hV hN hWG 1000 32 0 1000 W 0 (by omega) hW32 (by omega) (fun i hi=>by omega) (fun i h=>h) (fun i h=>by simp at h) (fun v u h=>by simp at h) (fun _=> .inr rfl) (by omega)
  refine⟨t,h1,fun i h=>hWe i (h3 i h),fun hee=>⟨h5 (hW0 hee),?_,fun _=>h4,fun h=>by omega⟩⟩
  refine permits t (h5 (hW0 hee)) h2 (fun i h=>hWe i (h3 i h)) true ?_
  rw[if_neg k1,if_pos k2,aZ (Gf hV hN (fun i h=>hWG i (h3 i h)) h4)]
 rw[if_neg k2]
 by_cases k4:kind=4
 ·rw[if_pos k4]
  refine⟨e,rfl,fun i h=>h,fun hee=>⟨hee,permits e hee he32 (fun i h=>h) true ?_,fun h=>by omega,fun _=>rfl⟩⟩
  rw[if_neg k1,if_neg k2,if_pos k4];simp
 ·rw[if_neg k4]
  refine⟨W,rfl,hWe,fun hee=>⟨hW0 hee,permits W (hW0 hee) hW32 hWe true ?_,fun h=>by omega,fun h=>absurd h k4⟩⟩
  rw[if_neg k1,if_neg k2,if_neg k4]
end
end Go.Proofs.YtpenklncfhiloaaGreatDoor
end
section
namespace Go.Proofs.YtpenklncfhiloaaGreatDoor
open Go.Sx
section
def wQ  (a:Int):Option (Int):=
 some (a)
def sO (p0:aQ) (a:eS) (b:eR->Option (Int)):Option (Int):=
 if a.2<(List.length p0:Int)then(ck (0<=a.2∧a.2<(List.length p0:Int)) (b ((max a.1 (at' p0 a.2)),(wI .i64 (a.2+(1:Int))))))else(wQ  (a.1))
def xW (U:Nat) (p0:aQ):Option (Int):=
 if(List.length p0:Int)<(1:Int)then(none)else(ck (0<=(0:Int)∧(0:Int)<(List.length p0:Int)) (bM (sO p0) U ((at' p0 (0:Int)),(1:Int))))
theorem Yk:aO Tryz.prog 96:=Tryz.call96
theorem KL (U:Nat) {p0:aQ} (v0:Value) (r:Int) (h:xW U p0=some r):
  aV Tryz.prog 96 #[v0] [Sl bL v0 p0] (fun x:Unit=>vI (r)) (fun x l=>l) (fun _ l=>l):=by
 refine aV.of Tryz.func96 rfl Tryz.ntmps96 rfl fun c=>?_
 refine sqR<|qkAsg rfl<|dtN<|aH<|sqR<|qkMove rfl<|qkLen (aC.fact 0 rfl) rfl<|qkLss rfl<|dtN ?_
 refine eZ h rfl (fun h=>?_) fun h=>?_
 ·refine aM ?_
  cases h
 refine cL<|sqR<|qkMove rfl<|ckE h fun j2 h=>aB (bG rfl rfl (aC.fact 0 rfl) rfl rfl j2) rfl<|aB (cK rfl (aC.fact 0 rfl) rfl rfl rfl fE j2) rfl<|qkAsg rfl<|dtN<|aH<|midU (fun a4=>wQ  a4=some r) (fun a4 b5=>[(3,vI (a4))]) (fun a4 b5=>[]) ?_ ?_
 ·refine sqR<|qkAsg rfl<|dtN<|aR<|loopL (sO p0) (fun a9 b10=>[(0,v0),(3,vI (a9.1)),(4,vI (a9.2))]) (fun a9 b10=>[]) ((at' p0 (0:Int)),(1:Int)) () h SF (aS.refl _) ?_
  intro k11 a9 b10 h
  refine aH<|sqR<|qkMove rfl<|qkMove rfl<|qkLen (aC.fact 0 rfl) rfl<|qkLss rfl<|dtN ?_
  refine eZ h rfl (fun h=>?_) fun h=>?_
  ·refine cL<|aH<|aR<|aM<|qkMove rfl<|qkMove rfl<|qkMove rfl<|ckE h fun j13 h=>aB (bG rfl rfl (aC.fact 0 rfl) rfl rfl j13) rfl<|aB (cK rfl (aC.fact 0 rfl) rfl rfl rfl fE j13) rfl<|aB (Hc rfl rfl) rfl<|qkAsg rfl<|eI<|inT<|aM<|qkMove rfl<|qkAdd rfl<|qkAsg rfl<|dtN ?_
   exact Ah ((max a9.1 (at' p0 a9.2)),(wI .i64 (a9.2+(1:Int)))) () h SF rfl
  refine gH ?_
  exact iQ (a9.1) () h SF rfl
 intro a4 b5 h
 unfold wQ at h
 refine sqR<|qkMove rfl<|qkAsg rfl<|dtN<|aN ?_
 cases h
 exact lD rfl
end
section
def nD (U:Nat) (p0:Cc) (p1:cT) (p2:Int):Option eR:=
 Option.bind (xW U p1.1) fun a=>(some (p0.2.2.1,(wI .i64 ((wI .i64 (p0.2.2.2.1+(wI .i64 (p0.2.2.2.2.1*(List.length p1.1:Int)))))+(wI .i64 (p0.2.2.2.2.2*a))))))
theorem Yj:aO Tryz.prog 95:=Tryz.call95
theorem Ey (U:Nat) {p0:Cc} {p1:cT} {p2:Int} (a:Value)  (b:Value)  (g:jT) (r:eS) (h:nD U p0 p1 p2=some r):
  aV Tryz.prog 95 #[Value.agg #[vS (p0.1),vI (p0.2.1),vI (p0.2.2.1),vI (p0.2.2.2.1),vI (p0.2.2.2.2.1),vI (p0.2.2.2.2.2)],Value.agg #[a,b],vI (p2)] [Sl bL a p1.1,S2 aW b g p1.2] (fun x:Unit=>Value.tuple #[vI (r.1),vI (r.2)]) (fun x l=>l) (fun _ l=>l):=by
 refine aV.of Tryz.func95 rfl Tryz.ntmps95 rfl fun c=>?_
 refine sqR<|aE (aG.box (cs:=[vS (p0.1),vI (p0.2.1),vI (p0.2.2.1),vI (p0.2.2.2.1),vI (p0.2.2.2.2.1),vI (p0.2.2.2.2.2)]) rfl rfl) rfl fun i=>aE (aG.box (cs:=[a,b]) rfl rfl) rfl fun j=>qkAsg rfl<|qkAsg rfl<|dtN<|aH ?_
 refine JR.start [0,1,0,4,0,16,0,64,192,496,1020,0,2048,0,8192,24576,63488,131068,57347,524287] 19 mixedOrders (by decide +kernel) ?_
 refine JR.open (by exact rfl) ?_
 refine jkFld rfl<|jkLd 1 rfl<|jkFld rfl<|jkLd 1 rfl<|jkFld rfl<|jkLd 1 rfl<|jkFld rfl<|jkLd 0 rfl<|bD rfl .nil (lA 0 rfl) (fM rfl (aC.fact 0 rfl) rfl) aK.z<|jqN rfl (AL rfl rfl)<|jqN rfl (xE rfl rfl)<|jkFld rfl<|jkLd 1 rfl<|jkFld rfl<|jkLd 0 rfl<|bnE h fun d e h=>JR.loud rfl rfl rfl (aG.callQ Yk (KL U a d e) rfl (iJ [0] rfl)) rfl (fun f=>(jM [([1],[]),([],[0]),([0],[]),([1],[]),([1],[]),([1],[])] rfl)) fun f=>jqN rfl (AL rfl rfl)<|jqN rfl (xE rfl rfl)<|jqN rfl (nX rfl)<|bF 19 rfl rfl<|qkAsg rfl<|dtN<|aN ?_
 cases h
 exact dR () rfl rfl (RV.tmp rfl) (RV.tmp rfl) .nil aA.nil
end
section
def qI (U:Nat) (p0:Cc) (p1:cT) (p2:Int):Option eR:=
 some ((0:Int),(1:Int))
theorem Yl:aO Tryz.prog 97:=Tryz.call97
theorem Ez (U:Nat) {p0:Cc} {p1:cT} {p2:Int} (a:Value)  (b:Value)  (d:jT) (r:eS) (h:qI U p0 p1 p2=some r):
  aV Tryz.prog 97 #[Value.agg #[vS (p0.1),vI (p0.2.1),vI (p0.2.2.1),vI (p0.2.2.2.1),vI (p0.2.2.2.2.1),vI (p0.2.2.2.2.2)],Value.agg #[a,b],vI (p2)] [Sl bL a p1.1,S2 aW b d p1.2] (fun x:Unit=>Value.tuple #[vI (r.1),vI (r.2)]) (fun x l=>l) (fun _ l=>l):=by
 refine aV.of Tryz.func97 rfl Tryz.ntmps97 rfl fun c=>?_
 unfold qI at h
 refine sqR<|aE (aG.box (cs:=[vS (p0.1),vI (p0.2.1),vI (p0.2.2.1),vI (p0.2.2.2.1),vI (p0.2.2.2.2.1),vI (p0.2.2.2.2.2)]) rfl rfl) rfl fun e=>aE (aG.box (cs:=[a,b]) rfl rfl) rfl fun f=>qkAsg rfl<|qkAsg rfl<|dtN<|sqR<|qkAsg rfl<|qkAsg rfl<|dtN<|aN ?_
 cases h
 exact dR () rfl rfl (RV.tmp rfl) (RV.tmp rfl) .nil aA.nil
end
section
def nE (U:Nat) (p0:Cc) (p1:cT) (p2:Int):Option eR:=
 ck (0<=p2∧p2<(List.length p1.2:Int)) (some ((-1:Int),(wI .i64 ((List.length (at' p1.2 p2):Int) - (1:Int)))))
theorem Ym:aO Tryz.prog 98:=Tryz.call98
theorem EA (U:Nat) {p0:Cc} {p1:cT} {p2:Int} (b:Value)  (d:Value)  (e:jT) (r:eS) (h:nE U p0 p1 p2=some r):
  aV Tryz.prog 98 #[Value.agg #[vS (p0.1),vI (p0.2.1),vI (p0.2.2.1),vI (p0.2.2.2.1),vI (p0.2.2.2.2.1),vI (p0.2.2.2.2.2)],Value.agg #[b,d],vI (p2)] [Sl bL b p1.1,S2 aW d e p1.2] (fun x:Unit=>Value.tuple #[vI (r.1),vI (r.2)]) (fun x l=>l) (fun _ l=>l):=by
 refine aV.of Tryz.func98 rfl Tryz.ntmps98 rfl fun c=>?_
 refine sqR<|aE (aG.box (cs:=[vS (p0.1),vI (p0.2.1),vI (p0.2.2.1),vI (p0.2.2.2.1),vI (p0.2.2.2.2.1),vI (p0.2.2.2.2.2)]) rfl rfl) rfl fun f=>aE (aG.box (cs:=[b,d]) rfl rfl) rfl fun g=>qkAsg rfl<|qkAsg rfl<|dtN<|aH ?_
 refine JR.start [0,1,0,7,15,31,63,0,255] 8 mixedOrders (by decide +kernel) ?_
 refine JR.open (by exact rfl) ?_
 refine jkFld rfl<|jkLd 0 rfl<|jkMove rfl<|ckE h fun a h=>bD rfl .nil (lA 1 rfl) (cG rfl rfl (aC.fact 0 rfl) rfl rfl a) aK.z<|bD rfl .nil (lA 1 rfl) (cI rfl (aC.fact 0 rfl) rfl rfl a) aK.z<|bD rfl .nil (lA 1 rfl) (fM rfl (aC.el (aC.fact 0 rfl) a.1 a.2) rfl) aK.z<|jqN rfl (pD rfl rfl)<|jqN rfl (nX rfl)<|bF 8 rfl rfl<|qkAsg rfl<|dtN<|aN ?_
 cases h
 exact dR () rfl rfl (RV.tmp rfl) (RV.tmp rfl) .nil aA.nil
end
section
def vT  (a:Unit):Option eR:=
 some ((0:Int),(-1:Int))
def lF (c:Int) (a:(Int)->Option eR) (b:Unit):Option eR:=
 a (wI .i64 (c+(1:Int)))
def dZ (U:Nat) (p0:Cc) (p1:cT) (p2:Int) (a:Int) (b:(Int)->Option eR):Option eR:=
 if a<(List.length ([((1:Int),(95:Nat)),((2:Int),(97:Nat)),((3:Int),(98:Nat))]):Int)then(ck (0<=a∧a<(List.length ([((1:Int),(95:Nat)),((2:Int),(97:Nat)),((3:Int),(98:Nat))]):Int)) (if a=(0:Int)then(if(1:Int)=p0.2.1 then(Option.bind (nD U ((p0.1,p0.2.1,p0.2.2.1,p0.2.2.2.1,p0.2.2.2.2.1,p0.2.2.2.2.2)) ((p1.1,p1.2)) p2) fun c=>(some (c.1,c.2)))else(lF a b (())))else(if a=(1:Int)then(if(2:Int)=p0.2.1 then(Option.bind (qI U ((p0.1,p0.2.1,p0.2.2.1,p0.2.2.2.1,p0.2.2.2.2.1,p0.2.2.2.2.2)) ((p1.1,p1.2)) p2) fun d=>(some (d.1,d.2)))else(lF a b (())))else(if(3:Int)=p0.2.1 then(Option.bind (nE U ((p0.1,p0.2.1,p0.2.2.1,p0.2.2.2.1,p0.2.2.2.2.1,p0.2.2.2.2.2)) ((p1.1,p1.2)) p2) fun e=>(some (e.1,e.2)))else(lF a b (()))))))else(vT  (()))
def iS (U:Nat) (p0:Cc) (p1:cT) (p2:Int):Option eR:=
 bM (dZ U p0 p1 p2) U (0:Int)
theorem SI:aO Tryz.prog 63:=Tryz.call63
theorem Bi (U:Nat) {p0:Cc} {p1:cT} {p2:Int} (v0:Value)  (v1:Value)  (z2:jT) (r:eS) (h:iS U p0 p1 p2=some r):
  aV Tryz.prog 63 #[Value.agg #[vS (p0.1),vI (p0.2.1),vI (p0.2.2.1),vI (p0.2.2.2.1),vI (p0.2.2.2.2.1),vI (p0.2.2.2.2.2)],Value.agg #[v0,v1],vI (p2)] [Sl bL v0 p1.1,S2 aW v1 z2 p1.2] (fun x:Unit=>Value.tuple #[vI (r.1),vI (r.2)]) (fun x l=>l) (fun _ l=>l):=by
 refine aV.of Tryz.func63 rfl Tryz.ntmps63 rfl fun c=>?_
 unfold iS at h
 refine sqR<|aE (aG.box (cs:=[vS (p0.1),vI (p0.2.1),vI (p0.2.2.1),vI (p0.2.2.2.1),vI (p0.2.2.2.2.1),vI (p0.2.2.2.2.2)]) rfl rfl) rfl fun b1=>aE (aG.box (cs:=[v0,v1]) rfl rfl) rfl fun b2=>qkAsg rfl<|qkAsg rfl<|dtN<|sqR ?_
 refine aB (qT (r:=Value.agg #[vI (1:Int),Value.func (.func 95) #[] #[]]) rfl rfl (by intro w;simp[Instr.build,Instr.fill,bV,bQ,bK,bW,bX,bR,cC])) rfl ?_
 refine aB (qT (r:=Value.agg #[vI (2:Int),Value.func (.func 97) #[] #[]]) rfl rfl (by intro w;simp[Instr.build,Instr.fill,bV,bQ,bK,bW,bX,bR,cC])) rfl ?_
 refine aB (qT (r:=Value.agg #[vI (3:Int),Value.func (.func 98) #[] #[]]) rfl rfl (by intro w;simp[Instr.build,Instr.fill,bV,bQ,bK,bW,bX,bR,cC])) rfl ?_
 refine aE (cR (e:=Gq) ([(((1:Int),((95:Nat)))),(((2:Int),((97:Nat)))),(((3:Int),((98:Nat))))]) [(0,Value.agg #[vI (1:Int),Value.func (.func 95) #[] #[]]),(1,Value.agg #[vI (2:Int),Value.func (.func 97) #[] #[]]),(2,Value.agg #[vI (3:Int),Value.func (.func 98) #[] #[]])] rfl rfl rfl rfl (Tu (vI (1:Int)) (Value.func (.func 95) #[] #[]) (vI (2:Int)) (Value.func (.func 97) #[] #[]) (vI (3:Int)) (Value.func (.func 98) #[] #[])) rfl rfl rfl) rfl fun u3=>qkAsg rfl<|dtN<|aH<|midU (fun a4=>vT  a4=some r) (fun a4 b5=>[]) (fun a4 b5=>[]) ?_ ?_
 ·refine sqR<|qkMove rfl<|aB (fM rfl (aT (aC.res 0 rfl) zB) rfl) rfl<|qkMove rfl<|dtN<|aR<|loopL (dZ U p0 p1 p2) (fun a8 b9=>[(2,vI (p2)),(3,vP b1),(4,vP b2),(15,u3),(16,vI (List.length ([((1:Int),(95:Nat)),((2:Int),(97:Nat)),((3:Int),(98:Nat))]):Int)),(17,vI (a8))]) (fun a8 b9=>[Ar Gq u3 ([((1:Int),(95:Nat)),((2:Int),(97:Nat)),((3:Int),(98:Nat))]),bS b2 [v0,v1] 28,bS b1 [vS (p0.1),vI (p0.2.1),vI (p0.2.2.1),vI (p0.2.2.2.1),vI (p0.2.2.2.2.1),vI (p0.2.2.2.2.2)] 68]) (0:Int) () h SF (aS.refl _) ?_
  intro k10 a8 b9 h
  refine sqR<|qkLss rfl<|dtN<|aH ?_
  refine eZ h rfl (fun h=>?_) fun h=>?_
  ·refine cL<|aH<|midU (fun a12=>lF a8 (bM (dZ U p0 p1 p2) k10) a12=some r) (fun a12 b13=>[(2,vI (p2)),(3,vP b1),(4,vP b2),(15,u3),(16,vI (List.length ([((1:Int),(95:Nat)),((2:Int),(97:Nat)),((3:Int),(98:Nat))]):Int)),(17,vI (a8))]) (fun a12 b13=>[Ar Gq u3 ([((1:Int),(95:Nat)),((2:Int),(97:Nat)),((3:Int),(98:Nat))]),bS b2 [v0,v1] 28,bS b1 [vS (p0.1),vI (p0.2.1),vI (p0.2.2.1),vI (p0.2.2.2.1),vI (p0.2.2.2.2.1),vI (p0.2.2.2.2.2)] 68]) ?_ ?_
   ·refine aR<|sqR<|ckE h fun j14 h=>aB (bG rfl rfl (aT (aC.res 0 rfl) zB) rfl rfl j14) rfl ?_
    by_cases hq15:a8=(0:Int)
    ·have h:=Ji hq15 h
     refine aB (gV (cs:=[vI (1:Int),Value.func (.func 95) #[] #[]]) rfl (aT (aC.res 0 rfl) zB) zB (by rw[hq15];rfl) rfl rfl rfl j14) rfl ?_
     refine aE (aG.alloc (cs:=[vI (0:Int),Value.nilFunc]) rfl rfl) rfl fun b16=>aY 0 (vs:=[vI (1:Int),Value.func (.func 95) #[] #[]]) rfl rfl rfl rfl rfl rfl<|dtN<|sqR<|qkFld rfl<|qkLd 0 rfl<|qkFld rfl<|qkLd 3 rfl<|qkEql rfl<|dtN ?_
     refine eZ h rfl (fun h=>?_) fun h=>?_
     ·refine sqR<|qkFld rfl<|qkLd 0 rfl<|qkLdA 3 rfl<|qkLdA 2 rfl<|qkMove rfl<|bnE h fun r18 w19 h=>aE (oY (vs:=[Value.agg #[vS (p0.1),vI (p0.2.1),vI (p0.2.2.1),vI (p0.2.2.2.1),vI (p0.2.2.2.2.1),vI (p0.2.2.2.2.2)],Value.agg #[v0,v1],vI (p2)]) (cs:=[]) Yj rfl (Ey U v0 v1 z2 r18 w19) rfl (iJ [0,1] rfl) (fun _ _=>rfl)) rfl fun x20=>qkExt rfl<|qkExt rfl<|qkAsg rfl<|qkAsg rfl<|dtN<|aN<|bT<|aI<|aI<|bT<|aI ?_
      cases h
      exact dR () rfl rfl (RV.tmp rfl) (RV.tmp rfl) .nil aA.nil
     refine eJ<|inT ?_
     exact bO () (()) h SF (aS.ix [1,2,3] rfl rfl) (aA.refl _ _)
    have h:=Zv hq15 h
    by_cases hq21:a8=(1:Int)
    ·have h:=Ji hq21 h
     refine aB (gV (cs:=[vI (2:Int),Value.func (.func 97) #[] #[]]) rfl (aT (aC.res 0 rfl) zB) zB (by rw[hq21];rfl) rfl rfl rfl j14) rfl ?_
     refine aE (aG.alloc (cs:=[vI (0:Int),Value.nilFunc]) rfl rfl) rfl fun b22=>aY 0 (vs:=[vI (2:Int),Value.func (.func 97) #[] #[]]) rfl rfl rfl rfl rfl rfl<|dtN<|sqR<|qkFld rfl<|qkLd 0 rfl<|qkFld rfl<|qkLd 3 rfl<|qkEql rfl<|dtN ?_
     refine eZ h rfl (fun h=>?_) fun h=>?_
     ·refine sqR<|qkFld rfl<|qkLd 0 rfl<|qkLdA 3 rfl<|qkLdA 2 rfl<|qkMove rfl<|bnE h fun r24 w25 h=>aE (oY (vs:=[Value.agg #[vS (p0.1),vI (p0.2.1),vI (p0.2.2.1),vI (p0.2.2.2.1),vI (p0.2.2.2.2.1),vI (p0.2.2.2.2.2)],Value.agg #[v0,v1],vI (p2)]) (cs:=[]) Yl rfl (Ez U v0 v1 z2 r24 w25) rfl (iJ [0,1] rfl) (fun _ _=>rfl)) rfl fun x26=>qkExt rfl<|qkExt rfl<|qkAsg rfl<|qkAsg rfl<|dtN<|aN<|bT<|aI<|aI<|bT<|aI ?_
      cases h
      exact dR () rfl rfl (RV.tmp rfl) (RV.tmp rfl) .nil aA.nil
     refine eJ<|inT ?_
     exact bO () (()) h SF (aS.ix [1,2,3] rfl rfl) (aA.refl _ _)
    have h:=Zv hq21 h
    have hq27:a8=(2:Int):=by have q:=j14;simp only[List.length_cons,List.length_nil]at q;omega
    refine aB (gV (cs:=[vI (3:Int),Value.func (.func 98) #[] #[]]) rfl (aT (aC.res 0 rfl) zB) zB (by rw[hq27];rfl) rfl rfl rfl j14) rfl ?_
    refine aE (aG.alloc (cs:=[vI (0:Int),Value.nilFunc]) rfl rfl) rfl fun b28=>aY 0 (vs:=[vI (3:Int),Value.func (.func 98) #[] #[]]) rfl rfl rfl rfl rfl rfl<|dtN<|sqR<|qkFld rfl<|qkLd 0 rfl<|qkFld rfl<|qkLd 3 rfl<|qkEql rfl<|dtN ?_
    refine eZ h rfl (fun h=>?_) fun h=>?_
    ·refine sqR<|qkFld rfl<|qkLd 0 rfl<|qkLdA 3 rfl<|qkLdA 2 rfl<|qkMove rfl<|bnE h fun r30 w31 h=>aE (oY (vs:=[Value.agg #[vS (p0.1),vI (p0.2.1),vI (p0.2.2.1),vI (p0.2.2.2.1),vI (p0.2.2.2.2.1),vI (p0.2.2.2.2.2)],Value.agg #[v0,v1],vI (p2)]) (cs:=[]) Ym rfl (EA U v0 v1 z2 r30 w31) rfl (iJ [0,1] rfl) (fun _ _=>rfl)) rfl fun x32=>qkExt rfl<|qkExt rfl<|qkAsg rfl<|qkAsg rfl<|dtN<|aN<|bT<|aI<|aI<|bT<|aI ?_
     cases h
     exact dR () rfl rfl (RV.tmp rfl) (RV.tmp rfl) .nil aA.nil
    refine eJ<|inT ?_
    exact bO () (()) h SF (aS.ix [1,2,3] rfl rfl) (aA.refl _ _)
   intro a12 b13 h
   unfold lF at h
   refine aM<|qkAdd rfl<|qkMove rfl<|dtN ?_
   exact Ah (wI .i64 (a8+(1:Int))) () h SF rfl
  refine gH ?_
  exact bO () (()) h SF .nil (aA.refl _ _)
 intro a4 b5 h
 unfold vT at h
 refine sqR<|qkAsg rfl<|qkAsg rfl<|dtN<|aN ?_
 cases h
 exact dR () rfl rfl (RV.tmp rfl) (RV.tmp rfl) (aS.refl _) aA.nil
end
section
def uF  (a:Unit):Option (Int):=
 some (0:Int)
def oC (b:Int) (a:(Int)->Option (Int)) (c:Unit):Option (Int):=
 a (wI .i64 (b+(1:Int)))
def uG (b:Int) (a:(Int)->Option (Int)) (c:Bool):Option (Int):=
 if c=true then(some (9:Int))else(oC b a (()))
def lO (U:Nat) (p0:qC) (p1:cT) (a:Int) (b:(Int)->Option (Int)):Option (Int):=
 if a<(List.length p0.2.1:Int)then(ck (0<=a∧a<(List.length p0.2.1:Int)) (if((at' p0.2.1 a).2.1)≠(1:Int)then(oC a b (()))else(Option.bind (iS U ((((at' p0.2.1 a).1),((at' p0.2.1 a).2.1),((at' p0.2.1 a).2.2.1),((at' p0.2.1 a).2.2.2.1),((at' p0.2.1 a).2.2.2.2.1),((at' p0.2.1 a).2.2.2.2.2))) ((p1.1,p1.2)) (0:Int)) fun c=>(if c.2<c.1 then(uG a b (true))else(uG a b (decide ((4096:Int)<(wI .i64 ((wI .i64 (c.2 - c.1))+(1:Int))))))))))else(uF  (()))
def jR (U:Nat) (p0:qC) (p1:cT):Option (Int):=
 Option.bind (sI U ((p0.1,p0.2.1,p0.2.2))) fun r3=>(if(!r3)=true then(some (8:Int))else(Option.bind (dB U ((p1.1,p1.2))) fun r7=>(if(!r7)=true then(some (1:Int))else(bM (lO U p0 p1) U (0:Int)))))
theorem NG:aO Tryz.prog 38:=Tryz.call38
theorem z_ (U:Nat) {p0:qC} {p1:cT} (v0:Value)  (v1:Value)  (v2:Value)  (v3:Value)  (z4:jT) (r:Int) (h:jR U p0 p1=some r):
  aV Tryz.prog 38 #[Value.agg #[vS (p0.1),v0,v1],Value.agg #[v2,v3]] [Sl aJ v0 p0.2.1,Sl aF v1 p0.2.2,PF (Value.agg #[vS p0.1,v0,v1]),Sl bL v2 p1.1,S2 aW v3 z4 p1.2] (fun x:Unit=>vI (r)) (fun x l=>l) (fun _ l=>l):=by
 refine aV.of Tryz.func38 rfl Tryz.ntmps38 rfl fun c=>?_
 refine sqR<|aE (aG.box (cs:=[vS (p0.1),v0,v1]) rfl rfl) rfl fun b1=>aE (aG.box (cs:=[v2,v3]) rfl rfl) rfl fun b2=>qkAsg rfl<|dtN<|aH<|sqR<|qkLdA 1 rfl<|bnE h fun r3 w4 h=>aE (aG.callQ NF (De U v0 v1 r3 w4) rfl (iJ [0,1,2] rfl)) rfl fun x5=>aB (o_ rfl) rfl<|dtN ?_
 refine zQ h rfl (fun _ h=>?_) fun _ h=>?_
 ·refine sqR<|qkAsg rfl<|dtN<|aN<|aI ?_
  cases h
  exact vH rfl
 refine cL<|aH<|sqR<|qkLdA 0 rfl<|bnE h fun r7 w8 h=>aE (aG.callQ Do (nO U v2 v3 z4 r7 w8) rfl (iJ [3,4] rfl)) rfl fun x9=>aB (o_ rfl) rfl<|dtN ?_
 refine zQ h rfl (fun _ h=>?_) fun _ h=>?_
 ·refine sqR<|qkAsg rfl<|dtN<|aN<|aI ?_
  cases h
  exact vH rfl
 refine cL<|aH<|midU (fun a11=>uF  a11=some r) (fun a11 b12=>[]) (fun a11 b12=>[]) ?_ ?_
 ·refine sqR<|qkFld rfl<|qkLd 1 rfl<|qkLen (aC.fact 0 rfl) rfl<|qkMove rfl<|dtN<|aR<|loopL (lO U p0 p1) (fun a15 b16=>[(3,vP b2),(16,v0),(17,vI (List.length p0.2.1:Int)),(18,vI (a15))]) (fun a15 b16=>[bS b2 [v2,v3] 28]) (0:Int) () h SF (aS.ix [0] rfl rfl) ?_
  intro k17 a15 b16 h
  refine sqR<|qkLss rfl<|dtN<|aH ?_
  refine eZ h rfl (fun h=>?_) fun h=>?_
  ·refine cL<|aH<|midU (fun a19=>oC a15 (bM (lO U p0 p1) k17) a19=some r) (fun a19 b20=>[(3,vP b2),(16,v0),(17,vI (List.length p0.2.1:Int)),(18,vI (a15))]) (fun a19 b20=>[bS b2 [v2,v3] 28]) ?_ ?_
   ·refine aR<|sqR<|ckE h fun j21 h=>aB (bG rfl rfl (aC.fact 0 rfl) rfl rfl j21) rfl<|aB (gV (cs:=[vS ((at' p0.2.1 a15).1),vI ((at' p0.2.1 a15).2.1),vI ((at' p0.2.1 a15).2.2.1),vI ((at' p0.2.1 a15).2.2.2.1),vI ((at' p0.2.1 a15).2.2.2.2.1),vI ((at' p0.2.1 a15).2.2.2.2.2)]) rfl (aC.fact 0 rfl) rX rfl rfl rfl rfl j21) rfl<|aE (aG.alloc (cs:=vD6) rfl rfl) rfl fun b22=>aY 0 (vs:=[vS ((at' p0.2.1 a15).1),vI ((at' p0.2.1 a15).2.1),vI ((at' p0.2.1 a15).2.2.1),vI ((at' p0.2.1 a15).2.2.2.1),vI ((at' p0.2.1 a15).2.2.2.2.1),vI ((at' p0.2.1 a15).2.2.2.2.2)]) rfl rfl rfl rfl rfl rfl<|dtN<|aH<|sqR<|qkFld rfl<|qkLd 0 rfl<|qkNeq rfl<|dtN ?_
    refine eZ h rfl (fun h=>?_) fun h=>?_
    ·refine qP<|eL<|wU<|zC ?_
     exact bO () (()) h SF (aS.ix [1] rfl rfl) (aA.refl _ _)
    refine cL<|sqR<|qkLdA 0 rfl<|qkLdA 1 rfl<|bnE h fun r24 w25 h=>aE (aG.callQ SI (Bi U v2 v3 z4 r24 w25) rfl (iJ [3,4] rfl)) rfl fun x26=>qkMove rfl<|qkExt rfl<|qkExt rfl<|qkAsg rfl<|qkAsg rfl<|dtN<|aH<|midU (fun a28=>uG a15 (bM (lO U p0 p1) k17) a28=some r) (fun a28 b29=>[(3,vP b2),(16,v0),(17,vI (List.length p0.2.1:Int)),(18,vI (a15)),(40,vB (a28))]) (fun a28 b29=>[bS b2 [v2,v3] 28]) ?_ ?_
    ·refine aM<|qkMove rfl<|qkMove rfl<|qkLss rfl<|qkMove rfl ?_
     refine AS h rfl (fun _ h=>?_) fun _ h=>?_
     ·refine gdSkip rfl<|gdSkip rfl<|gdSkip rfl<|gdSkip rfl<|gdSkip rfl<|qkPkT rfl<|dtN ?_
      exact bO (true) () h SF (aS.ix [1] rfl rfl) (aA.refl _ _)
     refine gyMove rfl<|gyMove rfl<|aL rfl (pD rfl rfl) rfl<|aL rfl (xE rfl rfl) rfl<|aL rfl (wX rfl rfl) rfl<|qkPkF rfl<|dtN ?_
     exact bO (decide ((4096:Int)<(wI .i64 ((wI .i64 (r24.2 - r24.1))+(1:Int))))) () h SF (aS.ix [1] rfl rfl) (aA.refl _ _)
    intro a28 b29 h
    refine zQ h rfl (fun _ h=>?_) fun _ h=>?_
    ·refine sqR<|qkAsg rfl<|dtN<|aN<|bT<|aI<|aI<|bT<|aI ?_
     cases h
     exact vH rfl
    refine eJ<|inT ?_
    exact iQ () (()) h SF rfl
   intro a19 b20 h
   unfold oC at h
   refine aM<|qkAdd rfl<|qkMove rfl<|dtN ?_
   exact Ah (wI .i64 (a15+(1:Int))) () h SF rfl
  refine gH ?_
  exact bO () (()) h SF .nil (aA.refl _ _)
 intro a11 b12 h
 unfold uF at h
 refine sqR<|qkAsg rfl<|dtN<|aN ?_
 cases h
 exact lD rfl
end
section
def tB  (a:Unit):Option (Bool):=
 some (true)
def tC (c:Int) (b:(Int)->Option (Bool)) (a:Bool):Option (Bool):=
 if a=true then(some (false))else(b (wI .i64 (c+(1:Int))))
def mP (p0:dQ) (p1:aQ) (a:Int) (b:(Int)->Option (Bool)):Option (Bool):=
 if a<(List.length p1:Int)then(ck (0<=a∧a<(List.length p1:Int)) (ck (0<=a∧a<(List.length p0:Int)) (if(at' p1 a)<((at' p0 a).1)then(tC a b (true))else(ck (0<=a∧a<(List.length p0:Int)) (tC a b (decide (((at' p0 a).2)<(at' p1 a))))))))else(tB  (()))
def uP (U:Nat) (p0:dQ) (p1:aQ):Option (Bool):=
 if(List.length p1:Int)≠(List.length p0:Int)then(some (false))else(bM (mP p0 p1) U (0:Int))
theorem Yc:aO Tryz.prog 64:=Tryz.call64
theorem If (U:Nat) {p0:dQ} {p1:aQ} (v0:Value)  (v1:Value) (r:Bool) (h:uP U p0 p1=some r):
  aV Tryz.prog 64 #[v0,v1] [Sl aW v0 p0,Sl bL v1 p1] (fun x:Unit=>vB (r)) (fun x l=>l) (fun _ l=>l):=by
 refine aV.of Tryz.func64 rfl Tryz.ntmps64 rfl fun c=>?_
 refine sqR<|qkAsg rfl<|dtN<|aH<|sqR<|qkMove rfl<|qkLen (aC.fact 1 rfl) rfl<|qkMove rfl<|qkLen (aC.fact 0 rfl) rfl<|qkNeq rfl<|dtN ?_
 refine eZ h rfl (fun h=>?_) fun h=>?_
 ·refine sqR<|qkAsg rfl<|dtN<|aN<|aI ?_
  cases h
  exact lD rfl
 refine cL<|aH<|midU (fun a2=>tB  a2=some r) (fun a2 b3=>[]) (fun a2 b3=>[]) ?_ ?_
 ·refine sqR<|qkMove rfl<|qkLen (aC.fact 1 rfl) rfl<|qkMove rfl<|dtN<|aR<|loopL (mP p0 p1) (fun a6 b7=>[(0,v0),(12,v1),(13,vI (List.length p1:Int)),(14,vI (a6))]) (fun a6 b7=>[]) (0:Int) () h SF (aS.refl _) ?_
  intro k8 a6 b7 h
  refine sqR<|qkLss rfl<|dtN<|aH ?_
  refine eZ h rfl (fun h=>?_) fun h=>?_
  ·refine cL<|aH<|aR<|sqR<|qkMove rfl<|ckE h fun j10 h=>aB (bG rfl rfl (aC.fact 1 rfl) rfl rfl j10) rfl<|aB (cK rfl (aC.fact 1 rfl) rfl rfl rfl fE j10) rfl<|qkAsg rfl<|qkAsg rfl<|dtN<|aH<|midU (fun a12=>tC a6 (bM (mP p0 p1) k8) a12=some r) (fun a12 b13=>[(0,v0),(12,v1),(13,vI (List.length p1:Int)),(14,vI (a6)),(34,vB (a12))]) (fun a12 b13=>[]) ?_ ?_
   ·refine aM<|qkMove rfl<|qkMove rfl<|qkMove rfl<|ckE h fun j15 h=>aB (bG rfl rfl (aC.fact 0 rfl) rfl rfl j15) rfl ?_
    refine aB (Cm (i:=0) rfl rfl rfl rfl rfl (by decide)) rfl ?_
    refine aB (mD rfl (aC.fact 0 rfl) rfl rfl rfl vN j15) rfl<|qkLss rfl<|qkMove rfl ?_
    refine AS h rfl (fun _ h=>?_) fun _ h=>?_
    ·refine gdSkip rfl<|gdSkip rfl<|gdSkip rfl<|gdSkip rfl<|gdSkip rfl<|gdSkip rfl<|gdSkip rfl<|qkPkT rfl<|dtN ?_
     exact iQ (true) () h SF rfl
    refine gyMove rfl<|gyMove rfl<|gyMove rfl<|ckE h fun j17 h=>aL rfl (bG rfl rfl (aC.fact 0 rfl) rfl rfl j17) rfl ?_
    refine aL rfl (Cm (i:=1) rfl rfl rfl rfl rfl (by decide)) rfl ?_
    refine aL rfl (mD rfl (aC.fact 0 rfl) rfl rfl rfl Nt j17) rfl<|aL rfl (wX rfl rfl) rfl<|qkPkF rfl<|dtN ?_
    exact iQ (decide (((at' p0 a6).2)<(at' p1 a6))) () h SF rfl
   intro a12 b13 h
   refine zQ h rfl (fun _ h=>?_) fun _ h=>?_
   ·refine sqR<|qkAsg rfl<|dtN<|aN<|bT<|aI<|aI<|bT<|aI ?_
    cases h
    exact lD rfl
   refine eJ<|inT<|aM<|qkAdd rfl<|qkMove rfl<|dtN ?_
   exact Ah (wI .i64 (a6+(1:Int))) () h SF rfl
  refine gH ?_
  exact iQ () (()) h SF rfl
 intro a2 b3 h
 unfold tB at h
 refine sqR<|qkAsg rfl<|dtN<|aN ?_
 cases h
 exact lD rfl
end
section
def oM  (a:Unit):Option (Bool):=
 some (true)
def iG (U:Nat) (p0:cJ) (p1:a_) (a6:Int) (ag5:(Int)->Option (Bool)):Option (Bool):=
 if a6<(List.length p0:Int)then(ck (0<=a6∧a6<(List.length p0:Int)) (ck (0<=a6∧a6<(List.length p1:Int)) (Option.bind (uP U (at' p0 a6) (at' p1 a6)) fun r12=>(if(!r12)=true then(some (false))else(ag5 (wI .i64 (a6+(1:Int))))))))else(oM  (()))
def iU (U:Nat) (p0:cJ) (p1:a_):Option (Bool):=
 if(List.length p1:Int)≠(List.length p0:Int)then(some (false))else(bM (iG U p0 p1) U (0:Int))
theorem SD:aO Tryz.prog 39:=Tryz.call39
theorem Bl (U:Nat) {p0:cJ} {p1:a_} (v0:Value)  (z1:jT)  (v2:Value)  (z3:oV) (r:Bool) (h:iU U p0 p1=some r):
  aV Tryz.prog 39 #[v0,v2] [S2 aW v0 z1 p0,S2 bL v2 z3 p1] (fun x:Unit=>vB (r)) (fun x l=>l) (fun _ l=>l):=by
 refine aV.of Tryz.func39 rfl Tryz.ntmps39 rfl fun c=>?_
 refine sqR<|qkAsg rfl<|dtN<|aH<|sqR<|qkMove rfl<|aB (iY rfl (aC.fact 1 rfl) rfl) rfl<|qkMove rfl<|aB (iY rfl (aC.fact 0 rfl) rfl) rfl<|qkNeq rfl<|dtN ?_
 refine eZ h rfl (fun h=>?_) fun h=>?_
 ·refine sqR<|qkAsg rfl<|dtN<|aN<|aI ?_
  cases h
  exact lD rfl
 refine cL<|aH<|midU (fun a2=>oM  a2=some r) (fun a2 b3=>[]) (fun a2 b3=>[]) ?_ ?_
 ·refine sqR<|qkMove rfl<|aB (iY rfl (aC.fact 0 rfl) rfl) rfl<|qkMove rfl<|dtN<|aR<|loopL (iG U p0 p1) (fun a6 b7=>[(1,v2),(12,v0),(13,vI (List.length p0:Int)),(14,vI (a6))]) (fun a6 b7=>[]) (0:Int) () h SF (aS.refl _) ?_
  intro k8 a6 b7 h
  refine sqR<|qkLss rfl<|dtN<|aH ?_
  refine eZ h rfl (fun h=>?_) fun h=>?_
  ·refine cL<|aH<|aR<|sqR<|qkMove rfl<|ckE h fun j10 h=>aB (cG rfl rfl (aC.fact 0 rfl) rfl rfl j10) rfl<|aB (cI rfl (aC.fact 0 rfl) rfl rfl j10) rfl<|qkAsg rfl<|qkAsg rfl<|dtN<|sqR<|qkMove rfl<|qkMove rfl<|qkMove rfl<|ckE h fun j11 h=>aB (cG rfl rfl (aC.fact 1 rfl) rfl rfl j11) rfl<|aB (cI rfl (aC.fact 1 rfl) rfl rfl j11) rfl<|bnE h fun r12 w13 h=>aE (aG.callQ Yc (If U ((at' z1 a6).1) ((at' z3 a6).1) r12 w13) rfl (aA.cons (aC.el (aC.fact 0 rfl) j10.1 j10.2) (aA.cons (aC.el (aC.fact 1 rfl) j11.1 j11.2) .nil))) rfl fun x14=>aB (o_ rfl) rfl<|dtN ?_
   refine zQ h rfl (fun _ h=>?_) fun _ h=>?_
   ·refine sqR<|qkAsg rfl<|dtN<|aN<|bT<|aI<|aI<|bT<|aI ?_
    cases h
    exact lD rfl
   refine eJ<|inT<|aM<|qkAdd rfl<|qkMove rfl<|dtN ?_
   exact Ah (wI .i64 (a6+(1:Int))) () h SF rfl
  refine gH ?_
  exact iQ () (()) h SF rfl
 intro a2 b3 h
 unfold oM at h
 refine sqR<|qkAsg rfl<|dtN<|aN ?_
 cases h
 exact lD rfl
end
section
def sU  (a:cJ):Option (cJ):=
 some (a)
def sV (b:Int×cJ) (a:(Int×cJ)->Option (cJ)) (c:cJ):Option (cJ):=
 a ((wI .i64 (b.1+(1:Int))),c)
def mM (U:Nat) (p0:qC) (p1:cT) (b:Int×cJ) (d:(Int×cJ)->Option (cJ)) (a:Int×cJ) (e:(Int×cJ)->Option (cJ)):Option (cJ):=
 if a.1<(List.length p0.2.1:Int)then(ck (0<=a.1∧a.1<(List.length p0.2.1:Int)) (ck (0<=b.1∧b.1<(List.length a.2:Int)) (ck (0<=b.1∧b.1<(List.length a.2:Int)) (Option.bind (iS U ((((at' p0.2.1 a.1).1),((at' p0.2.1 a.1).2.1),((at' p0.2.1 a.1).2.2.1),((at' p0.2.1 a.1).2.2.2.1),((at' p0.2.1 a.1).2.2.2.2.1),((at' p0.2.1 a.1).2.2.2.2.2))) ((p1.1,p1.2)) b.1) fun c=>(ck (0<=a.1∧a.1<(List.length (at' a.2 b.1):Int)) (ck (0<=a.1∧a.1<(List.length (at' (List.set a.2 (Int.toNat b.1) (List.set (at' a.2 b.1) (Int.toNat a.1) (c.1,((at' (at' a.2 b.1) a.1).2)))) b.1):Int)) (e ((wI .i64 (a.1+(1:Int))),(List.set (List.set a.2 (Int.toNat b.1) (List.set (at' a.2 b.1) (Int.toNat a.1) (c.1,((at' (at' a.2 b.1) a.1).2)))) (Int.toNat b.1) (List.set (at' (List.set a.2 (Int.toNat b.1) (List.set (at' a.2 b.1) (Int.toNat a.1) (c.1,((at' (at' a.2 b.1) a.1).2)))) b.1) (Int.toNat a.1) (((at' (at' (List.set a.2 (Int.toNat b.1) (List.set (at' a.2 b.1) (Int.toNat a.1) (c.1,((at' (at' a.2 b.1) a.1).2)))) b.1) a.1).1),c.2)))))))))))else(sV b d (a.2))
def kK (U:Nat) (p0:qC) (p1:cT) (a:Int×cJ) (b:(Int×cJ)->Option (cJ)):Option (cJ):=
 if a.1<(List.length (List.replicate (Int.toNat (List.length p1.1:Int)) ([]:dQ)):Int)then(ck (0<=(List.length p0.2.1:Int)∧(List.length p0.2.1:Int)<=1099511627) (ck (0<=a.1∧a.1<(List.length a.2:Int)) (bM (mM U p0 p1 a b) U ((0:Int),(List.set a.2 (Int.toNat a.1) (List.replicate (Int.toNat (List.length p0.2.1:Int)) ((0:Int),(0:Int))))))))else(sU  (a.2))
def eP (U:Nat) (p0:qC) (p1:cT):Option (cJ):=
 ck (0<=(List.length p1.1:Int)∧(List.length p1.1:Int)<=1099511627) (bM (kK U p0 p1) U ((0:Int),(List.replicate (Int.toNat (List.length p1.1:Int)) ([]:dQ))))
theorem Hl:aO Tryz.prog 40:=Tryz.call40
theorem rA (U:Nat) {p0:qC} {p1:cT} (v0:Value)  (v1:Value)  (v2:Value)  (v3:Value)  (z4:jT) (r:cJ) (h:eP U p0 p1=some r):
  aV Tryz.prog 40 #[Value.agg #[vS (p0.1),v0,v1],Value.agg #[v2,v3]] [Sl aJ v0 p0.2.1,Sl aF v1 p0.2.2,PF (Value.agg #[vS p0.1,v0,v1]),Sl bL v2 p1.1,S2 aW v3 z4 p1.2] (fun x:Cd=>x.1) (fun x l=>Ar c_.raw x.1 x.2::gU bH x.2 r::l) (fun _ l=>l):=by
 refine aV.of Tryz.func40 rfl Tryz.ntmps40 rfl fun c=>?_
 refine sqR<|aE (aG.box (cs:=[vS (p0.1),v0,v1]) rfl rfl) rfl fun b1=>aE (aG.box (cs:=[v2,v3]) rfl rfl) rfl fun b2=>qkAsg rfl<|dtN<|sqR<|qkFld rfl<|qkLd 0 rfl<|qkLen (aC.fact 3 rfl) rfl<|ckE h fun j3 h=>dV (oZ bH (Int.toNat (List.length p1.1:Int)))<|aE (nJ (e:=c_.raw) (eG) rfl rfl rfl rfl j3 rfl rfl rfl) rfl fun u4=>qkAsg rfl<|dtN<|aH<|midL (B:=dO) (fun a7=>sU  a7=some r) (fun a7 b8=>[(5,u4)]) (fun a7 b8=>[Ar c_.raw u4 b8,gU bH b8 a7]) ?_ ?_
 ·refine sqR<|qkMove rfl<|aB (iY rfl (aP (i:=0) (j:=1) rfl rfl aU) rfl) rfl<|qkMove rfl<|dtN<|aR<|loopL (B:=dO) (kK U p0 p1) (fun a13 b14=>[(2,vP b1),(3,vP b2),(5,u4),(14,vI (List.length (List.replicate (Int.toNat (List.length p1.1:Int)) ([]:dQ)):Int)),(15,vI (a13.1))]) (fun a13 b14=>[Ar c_.raw u4 b14,gU bH b14 a13.2,bS b2 [v2,v3] 28,bS b1 [vS (p0.1),v0,v1] 41]) ((0:Int),(List.replicate (Int.toNat (List.length p1.1:Int)) ([]:dQ))) (List.replicate (Int.toNat (List.length p1.1:Int)) (eG)) h SF (aS.refl _) ?_
  intro k15 a13 b14 h
  refine sqR<|qkLss rfl<|dtN<|aH ?_
  refine eZ h rfl (fun h=>?_) fun h=>?_
  ·refine cL<|aH<|midL (B:=dO) (fun a19=>sV a13 (bM (kK U p0 p1) k15) a19=some r) (fun a19 b20=>[(2,vP b1),(3,vP b2),(5,u4),(14,vI (List.length (List.replicate (Int.toNat (List.length p1.1:Int)) ([]:dQ)):Int)),(15,vI (a13.1))]) (fun a19 b20=>[Ar c_.raw u4 b20,gU bH b20 a19,bS b2 [v2,v3] 28,bS b1 [vS (p0.1),v0,v1] 41]) ?_ ?_
   ·refine aR<|sqR<|qkMove rfl<|qkAsg rfl<|dtN<|sqR<|qkMove rfl<|qkMove rfl<|qkFld rfl<|qkLd 3 rfl<|qkLen (aC.fact 0 rfl) rfl<|ckE h fun j21 h=>aE (nJ (e:=bH) (((0:Int),(0:Int))) rfl rfl rfl rfl j21 rfl rfl rfl) rfl fun u22=>ckE h fun j23 h=>aB (cG rfl rfl (aP (i:=1) (j:=2) rfl rfl aU) rfl rfl j23) rfl<|bJ (Know.one ((aT (aC.res 0 rfl) aU))) fun ho24=>dV (qR (k:=a13.1) 2 0 rfl rfl rfl j23) ?_
    refine iK 0 1 ⟨j23.1,by first|exact j23.2|simpa using j23.2⟩ rfl rfl rfl rfl rfl (by simp) ho24 rfl ?_
    refine dtN<|sqR<|qkFld rfl<|qkLd 3 rfl<|qkLen (aC.fact 0 rfl) rfl<|qkMove rfl<|dtN<|aR<|loopL (mM U p0 p1 a13 (bM (kK U p0 p1) k15)) (fun a28 b29=>[(2,vP b1),(3,vP b2),(5,u4),(6,vI (a13.1)),(14,vI (List.length (List.replicate (Int.toNat (List.length p1.1:Int)) ([]:dQ)):Int)),(15,vI (a13.1)),(26,v0),(27,vI (List.length p0.2.1:Int)),(28,vI (a28.1))]) (fun a28 b29=>[Ar c_.raw u4 (List.set b14 (Int.toNat a13.1) u22),gU bH (List.set b14 (Int.toNat a13.1) u22) a28.2,bS b2 [v2,v3] 28,bS b1 [vS (p0.1),v0,v1] 41]) ((0:Int),(List.set a13.2 (Int.toNat a13.1) (List.replicate (Int.toNat (List.length p0.2.1:Int)) ((0:Int),(0:Int))))) () h SF (aS.refl _) ?_
    intro k30 a28 b29 h
    refine sqR<|qkLss rfl<|dtN<|aH ?_
    refine eZ h rfl (fun h=>?_) fun h=>?_
    ·refine cL<|aH<|aR<|sqR<|qkMove rfl<|ckE h fun j32 h=>aB (bG rfl rfl (aC.fact 0 rfl) rfl rfl j32) rfl<|aB (gV (cs:=[vS ((at' p0.2.1 a28.1).1),vI ((at' p0.2.1 a28.1).2.1),vI ((at' p0.2.1 a28.1).2.2.1),vI ((at' p0.2.1 a28.1).2.2.2.1),vI ((at' p0.2.1 a28.1).2.2.2.2.1),vI ((at' p0.2.1 a28.1).2.2.2.2.2)]) rfl (aC.fact 0 rfl) rX rfl rfl rfl rfl j32) rfl<|aE (aG.alloc (cs:=vD6) rfl rfl) rfl fun b33=>qkAsg rfl<|aY 0 (vs:=[vS ((at' p0.2.1 a28.1).1),vI ((at' p0.2.1 a28.1).2.1),vI ((at' p0.2.1 a28.1).2.2.1),vI ((at' p0.2.1 a28.1).2.2.2.1),vI ((at' p0.2.1 a28.1).2.2.2.2.1),vI ((at' p0.2.1 a28.1).2.2.2.2.2)]) rfl rfl rfl rfl rfl rfl<|dtN ?_
     refine JR.start [0,0,3,7,0,0,0,96,224,0,0,0,0,7168,15360,31744,31744,31,196095,458239,992,2097151,4194303] 21 mixedOrders (by decide +kernel) ?_
     refine JR.open (by exact rfl) ?_
     refine jkMove rfl<|jkMove rfl<|ckE h fun j34 h=>bN (bZ 2 rfl) fun hl35=>?_
     refine bD rfl (aS.cons 1 rfl .nil) .nil (eM 0 rfl rfl rfl rfl rfl j34.1 (by have q1:=j34.2;have q2:=hl35;(try simp only[List.length_set]at q1);(try simp only[List.length_set]at q2);(try simp only[List.length_set]);omega)) aK.z ?_
     refine bN (bZ 2 rfl) fun hl36=>bD rfl (aS.cons 1 rfl .nil) .nil (gZ 0 rfl rfl hl36 rfl rfl j34) aK.z<|jkMove rfl<|jkMove rfl<|jkMove rfl<|ckE h fun j37 h=>bN (bZ 2 rfl) fun hl38=>?_
     refine bD rfl (aS.cons 1 rfl .nil) .nil (eM 0 rfl rfl rfl rfl rfl j37.1 (by have q1:=j37.2;have q2:=hl38;(try simp only[List.length_set]at q1);(try simp only[List.length_set]at q2);(try simp only[List.length_set]);omega)) aK.z ?_
     refine bN (bZ 2 rfl) fun hl39=>bD rfl (aS.cons 1 rfl .nil) .nil (gZ 0 rfl rfl hl39 rfl rfl j37) aK.z<|jkMove rfl<|jkLdA 0 rfl<|jkLdA 3 rfl<|jkMove rfl<|bnE h fun r40 w41 h=>JR.loud rfl rfl rfl (aG.callQ SI (Bi U v2 v3 z4 r40 w41) rfl (iJ [3,4] rfl)) rfl (fun x42=>(jM [([1],[]),([1],[]),([1],[]),([1],[])] rfl)) fun x42=>jqN rfl (kT rfl)<|jqN rfl (e_ rfl rfl)<|jqN rfl (e_ rfl rfl)<|ckE h fun j43 h=>bN (Know.len (aC.row (j:=2) rfl aU j34.1 j34.2)) fun hl44=>jqN rfl (DX rfl rfl hl44 rfl rfl j43) ?_
     refine jqN rfl (Cm (i:=0) rfl rfl rfl rfl rfl (by decide)) ?_
     refine pH rfl rfl rfl (yB (us:=[vI (r40.1)]) (o:=0) (k:=a13.1) 2 ((r40.1,((at' (at' a28.2 a13.1) a28.1).2))) ⟨j34.1,by first|exact j34.2|simpa using j34.2⟩ j43 rfl rfl rfl rfl rfl rfl rfl rfl rfl rfl) (fun x45=>(jM [] rfl)) fun x45=>ckE h fun j46 h=>bN (Know.len (aC.row (j:=2) rfl aU j37.1 (by first|exact j37.2|simpa using j37.2))) fun hl47=>?_
     refine jqN rfl (DX rfl rfl hl47 rfl rfl j46)<|bF 21 rfl rfl ?_
     refine aB (Cm (i:=1) rfl rfl rfl rfl rfl (by decide)) rfl ?_
     refine JN (yB (us:=[vI (r40.2)]) (o:=1) (k:=a13.1) 2 ((((at' (at' (List.set a28.2 (Int.toNat a13.1) (List.set (at' a28.2 a13.1) (Int.toNat a28.1) (r40.1,((at' (at' a28.2 a13.1) a28.1).2)))) a13.1) a28.1).1),r40.2)) ⟨j37.1,by first|exact j37.2|simpa using j37.2⟩ j46 rfl rfl rfl rfl rfl rfl rfl rfl rfl rfl) fun x48=>eI<|inT<|aM<|qkAdd rfl<|qkMove rfl<|dtN ?_
     exact kN ((wI .i64 (a28.1+(1:Int))),(List.set (List.set a28.2 (Int.toNat a13.1) (List.set (at' a28.2 a13.1) (Int.toNat a28.1) (r40.1,((at' (at' a28.2 a13.1) a28.1).2)))) (Int.toNat a13.1) (List.set (at' (List.set a28.2 (Int.toNat a13.1) (List.set (at' a28.2 a13.1) (Int.toNat a28.1) (r40.1,((at' (at' a28.2 a13.1) a28.1).2)))) a13.1) (Int.toNat a28.1) (((at' (at' (List.set a28.2 (Int.toNat a13.1) (List.set (at' a28.2 a13.1) (Int.toNat a28.1) (r40.1,((at' (at' a28.2 a13.1) a28.1).2)))) a13.1) a28.1).1),r40.2)))) () h SF (aS.ix [1,2,3,4] rfl rfl) (aA.refl _ _)
    refine qP<|eL<|eL<|wU<|inT ?_
    exact iQ (a28.2) (List.set b14 (Int.toNat a13.1) u22) h SF rfl
   intro a19 b20 h
   unfold sV at h
   refine aM<|qkAdd rfl<|qkMove rfl<|dtN ?_
   exact Ah ((wI .i64 (a13.1+(1:Int))),a19) (b20) h SF rfl
  refine gH ?_
  exact bO (a13.2) (b14) h SF (aS.ix [0,1] rfl rfl) (aA.refl _ _)
 intro a7 b8 h
 unfold sU at h
 refine sqR<|qkMove rfl<|qkAsg rfl<|dtN<|aN ?_
 cases h
 exact gE (u4,b8) rfl rfl (RV.tmp rfl) (aS.refl _) aA.nil
end
section
def lX (U:Nat) (p0:qC) (p1:cT) (p2:a_):Option (Int):=
 Option.bind (jR U ((p0.1,p0.2.1,p0.2.2)) ((p1.1,p1.2))) fun r3=>(if r3≠(0:Int)then(some (r3))else(Option.bind (eP U ((p0.1,p0.2.1,p0.2.2)) ((p1.1,p1.2))) fun r7=>(Option.bind (iU U r7 p2) fun r10=>(if(!r10)=true then(some (10:Int))else(some (0:Int))))))
theorem SJ:aO Tryz.prog 65:=Tryz.call65
theorem B_ (U:Nat) {p0:qC} {p1:cT} {p2:a_} (v0:Value)  (v1:Value)  (v2:Value)  (v3:Value)  (z4:jT)  (v5:Value)  (z6:oV) (r:Int) (h:lX U p0 p1 p2=some r):
  aV Tryz.prog 65 #[Value.agg #[vS (p0.1),v0,v1],Value.agg #[v2,v3],v5] [Sl aJ v0 p0.2.1,Sl aF v1 p0.2.2,PF (Value.agg #[vS p0.1,v0,v1]),Sl bL v2 p1.1,S2 aW v3 z4 p1.2,S2 bL v5 z6 p2] (fun x:Unit=>vI (r)) (fun x l=>l) (fun _ l=>l):=by
 refine aV.of Tryz.func65 rfl Tryz.ntmps65 rfl fun c=>?_
 refine sqR<|aE (aG.box (cs:=[vS (p0.1),v0,v1]) rfl rfl) rfl fun b1=>aE (aG.box (cs:=[v2,v3]) rfl rfl) rfl fun b2=>qkAsg rfl<|dtN<|aH<|sqR<|qkLdA 1 rfl<|qkLdA 0 rfl<|bnE h fun r3 w4 h=>aE (aG.callQ NG (z_ U v0 v1 v2 v3 z4 r3 w4) rfl (iJ [0,1,2,3,4] rfl)) rfl fun x5=>qkAsg rfl<|dtN<|sqR<|qkMove rfl<|qkNeq rfl<|dtN ?_
 refine eZ h rfl (fun h=>?_) fun h=>?_
 ·refine sqR<|qkMove rfl<|qkAsg rfl<|dtN<|aN<|aI ?_
  cases h
  exact vH rfl
 refine cL<|aH<|sqR<|qkLdA 1 rfl<|qkLdA 0 rfl<|bnE h fun r7 w8 h=>aE (aG.callQ Hl (rA U v0 v1 v2 v3 z4 r7 w8) rfl (iJ [0,1,2,3,4] rfl)) rfl fun x9=>qkMove rfl<|bnE h fun r10 w11 h=>aE (aG.callQ SD (Bl U x9.1 (List.zip x9.2 r7) v5 z6 r10 w11) rfl (aA.cons (aP (i:=0) (j:=1) rfl rfl aU) (iJ [5] rfl))) rfl fun x12=>aB (o_ rfl) rfl<|dtN ?_
 refine zQ h rfl (fun _ h=>?_) fun _ h=>?_
 ·refine sqR<|qkAsg rfl<|dtN<|aN<|aI ?_
  cases h
  exact vH rfl
 refine cL<|sqR<|qkAsg rfl<|dtN<|aN ?_
 cases h
 exact vH rfl
end
section
def uS  (a:a_):Option a_:=
 some (a)
def q_ (p0:a_) (a:yY) (b:(Int×a_)->Option a_):Option a_:=
 if a.1<(List.length p0:Int)then(ck (0<=a.1∧a.1<(List.length p0:Int)) (ck ((List.length ([]:aQ):Int)+(List.length (at' p0 a.1):Int)<=1099511627) (ck (0<=a.1∧a.1<(List.length a.2:Int)) (b ((wI .i64 (a.1+(1:Int))),(List.set a.2 (Int.toNat a.1) (([]:aQ)++(at' p0 a.1))))))))else(uS  (a.2))
def sH (U:Nat) (p0:a_):Option a_:=
 ck (0<=(List.length p0:Int)∧(List.length p0:Int)<=1099511627) (bM (q_ p0) U ((0:Int),(List.replicate (Int.toNat (List.length p0:Int)) ([]:aQ))))
theorem OM:aO Tryz.prog 100:=Tryz.call100
theorem Dd (U:Nat) {p0:a_} (v0:Value)  (z1:oV) (r:a_) (h:sH U p0=some r):
  aV Tryz.prog 100 #[v0] [S2 bL v0 z1 p0] (fun x:Cd=>x.1) (fun x l=>Ar c_.raw x.1 x.2::gU cE x.2 r::l) (fun _ l=>l):=by
 refine aV.of Tryz.func100 rfl Tryz.ntmps100 rfl fun c=>?_
 refine sqR<|qkAsg rfl<|dtN<|sqR<|qkMove rfl<|aB (iY rfl (aC.fact 0 rfl) rfl) rfl<|ckE h fun j1 h=>dV (oZ cE (Int.toNat (List.length p0:Int)))<|aE (nJ (e:=c_.raw) (eG) rfl rfl rfl rfl j1 rfl rfl rfl) rfl fun u2=>qkAsg rfl<|dtN<|aH<|midL (B:=dO) (fun a5=>uS  a5=some r) (fun a5 b6=>[(3,u2)]) (fun a5 b6=>[Ar c_.raw u2 b6,gU cE b6 a5]) ?_ ?_
 ·refine sqR<|qkMove rfl<|aB (iY rfl (aC.fact 0 rfl) rfl) rfl<|qkMove rfl<|dtN<|aR<|loopL (B:=dO) (q_ p0) (fun a11 b12=>[(3,u2),(9,v0),(10,vI (List.length p0:Int)),(11,vI (a11.1))]) (fun a11 b12=>[Ar c_.raw u2 b12,gU cE b12 a11.2]) ((0:Int),(List.replicate (Int.toNat (List.length p0:Int)) ([]:aQ))) (List.replicate (Int.toNat (List.length p0:Int)) (eG)) h SF (aS.refl _) ?_
  intro k13 a11 b12 h
  refine sqR<|qkLss rfl<|dtN<|aH ?_
  refine eZ h rfl (fun h=>?_) fun h=>?_
  ·refine cL<|aH<|aR<|sqR<|qkMove rfl<|ckE h fun j15 h=>aB (cG rfl rfl (aC.fact 0 rfl) rfl rfl j15) rfl<|aB (cI rfl (aC.fact 0 rfl) rfl rfl j15) rfl<|qkAsg rfl<|qkAsg rfl<|dtN<|aM<|qkMove rfl<|qkMove rfl<|qkMove rfl<|dV (dA cE)<|ckE h fun j17 h=>aE (fU 0 cW rfl rfl rfl (aC.el (aC.fact 0 rfl) j15.1 j15.2) rfl rfl rfl rfl j17 rfl) rfl fun u16=>ckE h fun j18 h=>aB (cG rfl rfl (aP (i:=1) (j:=2) rfl rfl cW) rfl rfl j18) rfl<|bJ (Know.one ((aT (aC.res 0 rfl) cW))) fun ho19=>dV (qR (k:=a11.1) 2 0 rfl rfl rfl j18) ?_
   refine iK 0 1 ⟨j18.1,by first|exact j18.2|simpa using j18.2⟩ rfl rfl rfl rfl rfl (by simp) ho19 rfl ?_
   refine eI<|inT<|aM<|qkAdd rfl<|qkMove rfl<|dtN ?_
   exact Ah ((wI .i64 (a11.1+(1:Int))),(List.set a11.2 (Int.toNat a11.1) (([]:aQ)++(at' p0 a11.1)))) (List.set b12 (Int.toNat a11.1) u16) h SF rfl
  refine gH ?_
  exact iQ (a11.2) (b12) h SF rfl
 intro a5 b6 h
 unfold uS at h
 refine sqR<|qkMove rfl<|qkAsg rfl<|dtN<|aN ?_
 cases h
 exact gE (u2,b6) rfl rfl (RV.tmp rfl) (aS.refl _) aA.nil
end
end Go.Proofs.YtpenklncfhiloaaGreatDoor
end
section
namespace Go.Proofs.YtpenklncfhiloaaGreatDoor
open Go Go.Sx
section
abbrev xP:=ByteArray×(List EG)×(List rU)
structure yC (g:GR) (vars:List EG):Prop where
 len:vars.length<=20
 small:∀x,x<vars.length->BA (at' vars (x:Int))
 kind:∀x,x<vars.length->(at' vars (x:Int)).2.1=1∨(at' vars (x:Int)).2.1=2∨(at' vars (x:Int)).2.1=3
 range:∀x,x<vars.length->(at' vars (x:Int)).2.1=1 -> -100000<=lo g (at' vars (x:Int)) 0∧lo g (at' vars (x:Int)) 0<=hi g (at' vars (x:Int)) 0∧hi g (at' vars (x:Int)) 0 - lo g (at' vars (x:Int)) 0+1<=4096
theorem YR {g:GR} (a:VG g):xW 1000 g.1=some (iF g g.1.length):=by
 have d:=a.n24
 have b:=a.len
 have h:=a.n1
 have f:0<=at' g.1 ((0:Nat):Int):=(a.node 0 (by omega)).id.1
 unfold xW
 rw[if_neg (by omega),cQ (by omega)]
 have:=dM (step:=sO g.1) (K:=some (iF g g.1.length)) (g.1.length - 1) (fun k=>(iF g (k+1),((k+1:Nat):Int))) (fun k c i=>by
  unfold sO
  dsimp only
  rw[if_pos (by omega),cQ (by omega),dY (by omega)];rfl) (fun c=>by
  unfold sO wQ
  dsimp only
  rw[if_neg (by omega),show g.1.length - 1+1=g.1.length by omega]) 1000 (by omega)
 have e:iF g (0+1)=at' g.1 (0:Int):=by
  show max (iF g 0) (at' g.1 ((0:Nat):Int))=_
  simp only[iF]
  have:at' g.1 ((0:Nat):Int)=at' g.1 (0:Int):=rfl
  omega
 rw[e]at this
 exact this
theorem IS {g:GR} (c:VG g) {x:EG} (o:BA x) (n:x.2.1=1∨x.2.1=2∨x.2.1=3) {v:Nat} (p:v<g.2.length):iS 1000 x g (v:Int)=some (lo g x v,hi g x v):=by
 obtain⟨⟨w,y⟩,⟨r,s⟩,t,u⟩:=o
 have l:=c.n24
 have d:=c.len
 have e:=HO c g.1.length (by omega)
 have p1:0<=x.2.2.2.2.1*(g.1.length:Int):=Int.mul_nonneg r (by omega)
 have p2:x.2.2.2.2.1*(g.1.length:Int)<=100000*24:=Int.mul_le_mul s (by omega) (by omega) (by omega)
 have p3:0<=x.2.2.2.2.2*iF g g.1.length:=Int.mul_nonneg t e.1
 have p4:x.2.2.2.2.2*iF g g.1.length<=100000*255:=Int.mul_le_mul u e.2 e.1 (by omega)
 have i:nD 1000 x g (v:Int)=some (x.2.2.1,x.2.2.2.1+x.2.2.2.2.1*(g.2.length:Int)+x.2.2.2.2.2*iF g g.1.length):=by
  unfold nD
  rw[aZ (YR c),wr (x:=x.2.2.2.2.1*_) (by omega) (by omega),wr (x:=x.2.2.2.2.2*_) (by omega) (by omega),wr (x:=x.2.2.2.1+_) (by omega) (by omega),wr (by omega) (by omega),d]
 have j:nE 1000 x g (v:Int)=some (-1,((row g v).length:Int) - 1):=by
  have k:=(c.node v p).deg
  unfold nE
  rw[cQ (by omega)]
  show some ((-1:Int),wI .i64 (((row g v).length:Int) - 1))=_
  rw[wr (by omega) (by omega)]
 have q:∀(f:Nat) (a:Int),bM (dZ 1000 x g (v:Int)) (f+1) a=dZ 1000 x g (v:Int) a (bM (dZ 1000 x g (v:Int)) f):=fun f a=>rfl
 have b:∀(f:Nat) (a:Int),a=0∨a=1∨a=2->bM (dZ 1000 x g (v:Int)) (f+1) a=if a=0 then(if 1=x.2.1 then nD 1000 x g (v:Int)else bM (dZ 1000 x g (v:Int)) f 1)else if a=1 then(if 2=x.2.1 then qI 1000 x g (v:Int)else bM (dZ 1000 x g (v:Int)) f 2)else(if 3=x.2.1 then nE 1000 x g (v:Int)else bM (dZ 1000 x g (v:Int)) f 3):=by
  intro f a m
  rw[q]
  generalize bM (dZ 1000 x g (v:Int)) f=G
  unfold dZ lF
  rcases m with rfl|rfl|rfl
  ·rw[if_pos (by decide),cQ (by decide),if_pos rfl,if_pos rfl]
   split
   ·rw[i];rfl
   ·rfl
  ·rw[if_pos (by decide),cQ (by decide),if_neg (show¬(1:Int)=0 by decide),if_pos rfl,if_neg (show¬(1:Int)=0 by decide),if_pos rfl]
   split
   ·rfl
   ·rfl
  ·rw[if_pos (by decide),cQ (by decide),if_neg (show¬(2:Int)=0 by decide),if_neg (show¬(2:Int)=1 by decide),if_neg (show¬(2:Int)=0 by decide),if_neg (show¬(2:Int)=1 by decide)]
   split
   ·rw[j];rfl
   ·rfl
 unfold iS lo hi
 rcases n with h|h|h
 ·rw[b 999 0 (.inl rfl),if_pos rfl,if_pos h.symm,i,h,if_neg (by decide),if_neg (by decide),if_neg (by decide),if_neg (by decide)]
 ·rw[b 999 0 (.inl rfl),if_pos rfl,if_neg (by omega),b 998 1 (.inr (.inl rfl)),if_neg (by decide),if_pos rfl,if_pos h.symm,h,if_pos rfl,if_pos rfl];rfl
 ·rw[b 999 0 (.inl rfl),if_pos rfl,if_neg (by omega),b 998 1 (.inr (.inl rfl)),if_neg (by decide),if_pos rfl,if_neg (by omega),b 997 2 (.inr (.inr rfl)),if_neg (by decide),if_neg (by decide),if_pos h.symm,j,h,if_neg (by decide),if_pos rfl,if_neg (by decide),if_pos rfl]

def BD (g:GR) (a:List EG) (v x:Nat):eS:=(lo g (at' a (x:Int)) v,hi g (at' a (x:Int)) v)
def yZ (g:GR) (a:List EG) (v:Nat):dQ:=(List.range a.length).map (BD g a v)
def tS (g:GR) (a:List EG):cJ:=(List.range g.2.length).map (yZ g a)
theorem uT {a:Type} [Inhabited a] (f:Nat->a) {n k:Nat} (h:k<n):at' ((List.range n).map f) (k:Int)=f k:=by
 rw[iZ (by simpa using h)];simp
theorem pX {a:Type} (f:Nat->a) (z:a) (n k:Nat) (h:k<n):((List.range k).map f++List.replicate (n - k) z).set k (f k)=(List.range (k+1)).map f++List.replicate (n - (k+1)) z:=by
 rw[show n - k=(n - (k+1))+1 by omega,List.replicate_succ,List.set_append_right _ _ (by simp),List.range_succ]
 simp
theorem Ca {g:GR} (m:VG g) {p:xP} (n:yC g p.2.1):eP 1000 p g=some (tS g p.2.1):=by
 have s:=m.n24
 have d:=m.len
 have w:=n.len
 let a:=p.2.1
 let Q:Nat->cJ:=fun k=>(List.range k).map (yZ g a)++List.replicate (g.2.length - k) []
 have c:∀k,k<=g.2.length->(Q k).length=g.2.length:=fun k f=>by simp[Q];omega
 let R:Nat->Nat->dQ:=fun k j=>(List.range j).map (BD g a k)++List.replicate (a.length - j) (0,0)
 have l:∀k j,j<=a.length->(R k j).length=a.length:=fun k j b=>by simp[R];omega
 unfold eP
 rw[cQ (by omega)]
 rw[show List.replicate (Int.toNat (g.1.length:Int)) ([]:dQ)=Q 0 by simp[Q,d]]
 refine dM (step:=kK 1000 p g) (K:=some (tS g a)) g.2.length (fun k=>((k:Int),Q k)) (fun k e f=> ?_) (fun e=> ?_) 1000 (by omega)
 ·unfold kK
  dsimp only
  rw[if_pos (by simp;omega),cQ (by omega),cQ (by rw[c k (by omega)];omega)]
  refine Eq.trans (?_:_=bM (mM 1000 p g ((k:Int),Q k) e) 1000 ((0:Int),(Q k).set k (R k 0))) ?_
  ·rw[Int.toNat_natCast,Int.toNat_natCast];simp[R,a]
  refine dM (step:=mM 1000 p g ((k:Int),Q k) e) (K:=e (((k+1:Nat):Int),Q (k+1))) a.length (fun j=>((j:Int),(Q k).set k (R k j))) (fun j h b=> ?_) (fun h=> ?_) 1000 (by show p.2.1.length<1000;omega)
  ·have u:j<p.2.1.length:=b
   have t:=IS m (n.small j b) (n.kind j b) f
   have v:k<(Q k).length:=by rw[c k (by omega)];exact f
   have o:∀X:dQ,at' ((Q k).set k X) (k:Int)=X:=fun X=>by rw[uD _ _ _ _ v,if_pos rfl]
   have i:j<(R k j).length:=by rw[l k j (by omega)];exact b
   unfold mM
   dsimp only
   rw[if_pos (by omega),cQ (by omega),cQ (by simp only[List.length_set];omega),cQ (by simp only[List.length_set];omega),aZ (show iS 1000 _ g (k:Int)=_ from t),Int.toNat_natCast,Int.toNat_natCast]
   simp only[o,List.set_set]
   rw[cQ (by omega),cQ (by simp only[List.length_set];omega),dY (by omega)]
   have:(R k j).set j (lo g (at' p.2.1 (j:Int)) k,hi g (at' p.2.1 (j:Int)) k)=R k (j+1):=pX (BD g a k) (0,0) a.length j b
   rw[uD _ _ _ _ i,if_pos rfl]
   dsimp only
   rw[this]
  ·unfold mM sV
   dsimp only
   rw[if_neg (show¬((a.length:Nat):Int)<(p.2.1.length:Int)from Int.lt_irrefl _),dY (by omega)]
   have q:R k a.length=yZ g a k:=by simp[R,yZ]
   have r:(Q k).set k (yZ g a k)=Q (k+1):=pX (yZ g a) [] g.2.length k f
   rw[q,r]
 ·unfold kK sU
  dsimp only
  rw[if_neg (by simp;omega)]
  simp[Q,tS]
theorem Kh {g:GR} (hV:VG g) {p:xP} (hp:yC g p.2.1):jR 1000 p g=some 0:=by
 have h1:=hV.n1
 have hvl:=hp.len
 unfold jR
 rw[aZ (show sI 1000 _=some true from rfl),if_neg (by decide),aZ (show dB 1000 g=some true from(CI g).1 hV),if_neg (by decide)]
 refine dM (step:=lO 1000 p g) (K:=some 0) p.2.1.length (fun k=>(k:Int)) (fun k ag hk=> ?_) (fun ag=> ?_) 1000 (by omega)
 ·unfold lO oC uG oC
  rw[if_pos (by omega),cQ (by omega),dY (by omega)]
  by_cases hk1:(at' p.2.1 (k:Int)).2.1=1
  ·obtain⟨r1,r2,r3⟩:=hp.range k hk hk1
   have hb:=IS hV (hp.small k hk) (hp.kind k hk) (v:=0) (by omega)
   rw[if_neg (by simpa using hk1),aZ (show iS 1000 _ g (0:Int)=_ from hb)]
   dsimp only
   rw[if_neg (by omega),wr (x:=hi g (at' p.2.1 (k:Int)) 0 - lo g (at' p.2.1 (k:Int)) 0) (by omega) (by omega),wr (by omega) (by omega),if_neg (by rw[decide_eq_true_eq];omega)]
  ·rw[if_pos hk1]
 ·unfold lO uF
  rw[if_neg (by omega)]

theorem MG {g:GR} {a:List EG} (h:a.length<=20) {v:Nat} {l:aQ} (c:l.length=a.length) (d:∀x,x<a.length->lo g (at' a (x:Int)) v<=at' l (x:Int)∧at' l (x:Int)<=hi g (at' a (x:Int)) v):uP 1000 (yZ g a v) l=some true:=by
 have e:(yZ g a v).length=a.length:=by simp[yZ]
 unfold uP
 rw[if_neg (by rw[e,c];simp)]
 refine dM (step:=mP (yZ g a v) l) (K:=some true) l.length (fun k=>(k:Int)) (fun k b f=> ?_) (fun b=> ?_) 1000 (by omega)
 ·have hc:at' (yZ g a v) (k:Int)=BD g a v k:=uT _ (by omega)
  have:=d k (by omega)
  unfold mP tC
  rw[if_pos (by omega),cQ (by omega),cQ (by omega),hc]
  rw[if_neg (show¬at' l (k:Int)<(BD g a v k).1 from Int.not_lt.2 this.1),cQ (by omega),if_neg (by rw[decide_eq_true_eq];exact Int.not_lt.2 this.2),dY (by omega)]
 ·unfold mP tB
  rw[if_neg (by omega)]
theorem LP {g:GR} (hV:VG g) {p:xP} (hp:yC g p.2.1) {c:a_} (hc:IA g c p.2.1):lX 1000 p g c=some 0:=by
 have h24:=hV.n24
 have ht:(tS g p.2.1).length=g.2.length:=by simp[tS]
 have hcl:=hc.len
 unfold lX
 rw[aZ (show jR 1000 _ _=some 0 from Kh hV hp),if_neg (by decide),aZ (show eP 1000 _ _=_ from Ca hV hp)]
 have:iU 1000 (tS g p.2.1) c=some true:=by
  unfold iU
  rw[if_neg (by rw[ht,hcl];simp)]
  refine dM (step:=iG 1000 (tS g p.2.1) c) (K:=some true) g.2.length (fun k=>(k:Int)) (fun k ag hk=> ?_) (fun ag=> ?_) 1000 (by omega)
  ·have hr:at' (tS g p.2.1) (k:Int)=yZ g p.2.1 k:=uT _ hk
   unfold iG
   rw[if_pos (by omega),cQ (by omega),cQ (by omega),hr,aZ (MG hp.len (hc.row k hk) (hc.ok k hk)),if_neg (by decide),dY (by omega)]
  ·unfold iG oM
   rw[if_neg (by omega)]
 rw[aZ this,if_neg (by decide)]
theorem OY (c:a_) (h:c.length<=900) (e:∀v,v<c.length->(at' c (v:Int)).length<=1000):sH 1000 c=some c:=by
 unfold sH
 rw[cQ (by omega)]
 let Q:Nat->a_:=fun k=>(List.range k).map (fun v:Nat=>at' c (v:Int))++List.replicate (c.length - k) []
 rw[show List.replicate (Int.toNat (c.length:Int)) ([]:aQ)=Q 0 by simp[Q]]
 refine dM (step:=q_ c) (K:=some c) c.length (fun k=>((k:Int),Q k)) (fun k b a=> ?_) (fun b=> ?_) 1000 (by omega)
 ·have g:(Q k).length=c.length:=by simp[Q];omega
  have:=e k a
  unfold q_
  dsimp only
  rw[if_pos (by omega),cQ (by omega),cQ (by simp;omega),cQ (by omega),dY (by omega),Int.toNat_natCast,List.nil_append]
  have:(Q k).set k (at' c (k:Int))=Q (k+1):=pX (fun v:Nat=>at' c (v:Int)) [] c.length k a
  rw[this]
 ·unfold q_ uS
  dsimp only
  rw[if_neg (by omega)]
  congr 1
  refine List.ext_getElem (by simp[Q]) fun i f d=> ?_
  simp[Q,iZ d]
end
section
def sat (x:Int):Int:=max (-1073741824) (min x 1073741824)
def unD (o x:Int):Int:=if o=18 then wI .i64 (0 - x)else LE (decide (x=0))
def WC (a b:Int):Int:=if b=0 then 0 else if Int.tmod a b≠0∧((decide (a<0)) != (decide (b<0)))=true then wI .i64 (wI .i64 (Int.tdiv a b) - 1)else wI .i64 (Int.tdiv a b)
def Ys (o x y:Int):Bool:=if o=35 then decide (x=y)else if o=36 then decide (x≠y)else if o=37 then decide (x<y)else if o=38 then decide (x<=y)else if o=39 then decide (y<x)else decide (y<=x)
def biD (o x y:Int):Int:=
 if o=30 then sat (wI .i64 (x*y))else if o=31 then sat (WC x y)else if o=32 then(if y=0 then 0 else sat (wI .i64 (x - wI .i64 (y*WC x y))))else if o=33 then sat (wI .i64 (x+y))else if o=34 then sat (wI .i64 (x - y))
 else if o=41 then LE (decide (x≠0)&&decide (y≠0))else if o=42 then LE (decide (x≠0)||decide (y≠0))else LE (Ys o x y)
theorem UA (f:Nat) (o x:Int):xV f o x=some (unD o x):=by
 unfold xV unD
 split
 ·rfl
 ·rw[aZ (sQ f _)]
theorem Ul (f:Nat) (a b:Int):pL f a b=some (WC a b):=by
 unfold pL WC
 by_cases c:b=0
 ·rw[if_pos c,if_pos c]
 ·rw[if_neg c,if_neg c,cQ c,cQ c]
  by_cases d:Int.tmod a b=0
  ·rw[if_neg (by simpa using d),if_neg (by simp[d])];rfl
  ·rw[if_pos d]
   unfold rM oF
   by_cases e:((decide (a<0)) != (decide (b<0)))=true
   ·rw[if_pos e,if_pos ⟨d,e⟩]
   ·rw[if_neg e,if_neg (fun q=>e q.2)]
theorem Yt (f:Nat) (o x y:Int):sZ f o x y=some (Ys o x y):=by
 unfold sZ Ys
 repeat' split
 all_goals rfl
theorem Qs (f:Nat) (o x y:Int):wK f o x y=some (biD o x y):=by
 unfold wK biD
 by_cases h:o=30
 ·rw[if_pos h,if_pos h];rfl
 rw[if_neg h,if_neg h]
 by_cases h:o=31
 ·rw[if_pos h,if_pos h,aZ (Ul f x y)];rfl
 rw[if_neg h,if_neg h]
 by_cases h:o=32
 ·rw[if_pos h,if_pos h]
  by_cases b:y=0
  ·rw[if_pos b,if_pos b]
  ·rw[if_neg b,if_neg b,aZ (Ul f x y)];rfl
 rw[if_neg h,if_neg h]
 by_cases h:o=33
 ·rw[if_pos h,if_pos h];rfl
 rw[if_neg h,if_neg h]
 by_cases h:o=34
 ·rw[if_pos h,if_pos h];rfl
 rw[if_neg h,if_neg h]
 by_cases h:o=41
 ·rw[if_pos h,if_pos h]
  by_cases a:x=0
  ·rw[if_neg (by simpa using a),aZ (sQ f _)];simp[a,oD]
  ·rw[if_pos a,aZ (sQ f _)];simp[a,oD]
 rw[if_neg h,if_neg h]
 by_cases h:o=42
 ·rw[if_pos h,if_pos h]
  by_cases a:x=0
  ·rw[if_neg (by simpa using a),aZ (sQ f _)];simp[a,oE]
  ·rw[if_pos a,aZ (sQ f _)];simp[a,oE]
 rw[if_neg h,if_neg h,aZ (Yt f o x y),aZ (sQ f _)]
def E.den (L:Int->Int->Int->Int) (deg:Nat):E->Int->Int
 |lf o a,p=>L o a p
 |un o x,p=>unD o (x.den L deg p)
 |ag o x,_=>Pm o ((List.range deg).map fun q=>x.den L deg ((q:Nat):Int))
 |bi o x y,p=>biD o (x.den L deg p) (y.den L deg p)
 |ite x y z,p=>if x.den L deg p≠0 then y.den L deg p else z.den L deg p
def E.wf (c:Nat):Bool->E->Bool
 |b,lf o a=>decide (1<=o)&&decide (o<=17)&&(b||decide (o<=10))&&((decide (o≠5)&&decide (o≠12))||(decide (0<=a)&&decide (a<(c:Int))))
 |b,un o x=>decide (18<=o)&&decide (o<=19)&&x.wf c b
 |_,ag o x=>(decide (o=20)||decide (o=21)||decide (o=22)||decide (o=23)||decide (o=24)||decide (o=26)||decide (o=27))&&x.wf c true
 |b,bi o x y=>decide (30<=o)&&decide (o<=42)&&x.wf c b&&y.wf c b
 |b,ite x y z=>x.wf c b&&y.wf c b&&z.wf c b
theorem UZ {i:Nat}:∀{e:E} {b:Bool},e.wf i b=true->e.arOk=true:=by
 intro e
 induction e with
 |lf o a=>intro b h;simp[E.wf,E.arOk]at h ⊢;omega
 |un o x f=>intro b h;simp[E.wf,E.arOk]at h ⊢;exact⟨h.1,f h.2⟩
 |ag o x f=>intro b h;simp[E.wf,E.arOk]at h ⊢;exact⟨by omega,f h.2⟩
 |bi o x y c d=>intro b h;simp[E.wf,E.arOk]at h ⊢;exact⟨⟨h.1.1,c h.1.2⟩,d h.2⟩
 |ite x y z c d g=>intro b h;simp[E.wf,E.arOk]at h ⊢;exact⟨⟨c h.1.1,d h.1.2⟩,g h.2⟩
def TV (W:ZQ) (p:Int):Int:=(at' (at' W.1.2.1.2 W.2.2.1) p).1
def Xi (W:ZQ) (o a p:Int):Int:=
 if o=1 then a else if o=2 then 1 else if o=3 then 0 else if o=4 then -1 else if o=5 then at' (at' W.2.1 W.2.2.1) a else if o=12 then at' (at' W.2.1 (TV W p)) a
 else if o=6 then(W.1.2.1.1.length:Int)else if o=7 then W.1.2.2.1 else if o=8 then at' W.1.2.1.1 W.2.2.1 else if o=9 then((at' W.1.2.1.2 W.2.2.1).length:Int)else if o=10 then LE (decide (W.2.2.1=0))else if o=11 then p
 else if o=13 then at' W.1.2.1.1 (TV W p)else if o=14 then((at' W.1.2.1.2 (TV W p)).length:Int)else if o=15 then LE (decide (TV W p=0))else if o=16 then(at' (at' W.1.2.1.2 W.2.2.1) p).2 else at' (at' W.1.2.2.2 W.2.2.1) p
structure WOk (W:ZQ) (nv n v:Nat):Prop where
 node:W.2.2.1=(v:Int)
 lt:v<n
 ports:W.1.2.1.2.length=n
 ids:W.1.2.1.1.length=n
 c:W.2.1.length=n
 row:∀u:Nat,u<n->(at' W.2.1 (u:Int)).length=nv
 to:∀u:Nat,u<n->∀i:Nat,i<(at' W.1.2.1.2 (u:Int)).length->0<=(at' (at' W.1.2.1.2 (u:Int)) (i:Int)).1∧(at' (at' W.1.2.1.2 (u:Int)) (i:Int)).1<(n:Int)
 bl:W.1.2.2.2.length=n
 br:∀u:Nat,u<n->(at' W.1.2.2.2 (u:Int)).length=(at' W.1.2.1.2 (u:Int)).length
def RY (b:Bool) (deg:Nat) (p:Int):Prop:=b=true->∃q:Nat,p=(q:Int)∧q<deg
theorem Wt {W:ZQ} {k n v:Nat} (h:WOk W k n v) (f:Nat) {b:Bool} {o a p:Int} (s:(E.lf o a).wf k b=true) (r:RY b (at' W.1.2.1.2 (v:Int)).length p):kQ f W (o,a) p=some (Xi W o a p):=by
 obtain⟨y,c,A,B,C,l,m,F,w⟩:=h
 simp only[E.wf,Bool.and_eq_true,Bool.or_eq_true,decide_eq_true_eq]at s
 obtain⟨⟨⟨G,H⟩,d⟩,I⟩:=s
 have z:(at' W.2.1 (v:Int)).length=k:=l v c
 unfold kQ Xi TV
 dsimp only
 rw[y]
 by_cases e:o=1
 ·simp only[if_pos e]
 simp only[if_neg e]
 by_cases e:o=2
 ·simp only[if_pos e]
 simp only[if_neg e]
 by_cases e:o=3
 ·simp only[if_pos e]
 simp only[if_neg e]
 by_cases e:o=4
 ·simp only[if_pos e]
 simp only[if_neg e]
 by_cases e:o=5
 ·simp only[if_pos e]
  rw[cQ (by omega),cQ (by omega)]
 simp only[if_neg e]
 by_cases e:o=12
 ·have i:b=true:=by
   rcases d with d|d
   ·exact d
   ·omega
  obtain⟨q,rfl,j⟩:=r i
  have g:=m v c q j
  obtain⟨u,x⟩:∃u:Nat,(at' (at' W.1.2.1.2 (v:Int)) (q:Int)).1=(u:Int):=⟨_,(Int.toNat_of_nonneg g.1).symm⟩
  simp only[if_pos e]
  rw[x]at g ⊢
  have D:=l u (by omega)
  rw[cQ (by omega),cQ (by omega),cQ (by omega),cQ (by omega)]
 simp only[if_neg e]
 unfold qV
 dsimp only
 by_cases e:o=6
 ·simp only[if_pos e];rfl
 simp only[if_neg e]
 by_cases e:o=7
 ·simp only[if_pos e];rfl
 simp only[if_neg e]
 by_cases e:o=8
 ·simp only[if_pos e]
  rw[cQ (by omega)];rfl
 simp only[if_neg e]
 by_cases e:o=9
 ·simp only[if_pos e]
  rw[cQ (by omega)];rfl
 simp only[if_neg e]
 by_cases e:o=10
 ·simp only[if_pos e]
  rw[aZ (sQ f _)];rfl
 simp only[if_neg e]
 by_cases e:o=11
 ·simp only[if_pos e];rfl
 simp only[if_neg e]
 have i:b=true:=by
  rcases d with d|d
  ·exact d
  ·omega
 obtain⟨q,rfl,j⟩:=r i
 have g:=m v c q j
 rw[cQ (by omega),cQ (by omega)]
 by_cases e:o=13
 ·simp only[if_pos e]
  rw[cQ (by omega)];rfl
 simp only[if_neg e]
 by_cases e:o=14
 ·simp only[if_pos e]
  rw[cQ (by omega)];rfl
 simp only[if_neg e]
 by_cases e:o=15
 ·simp only[if_pos e]
  rw[aZ (sQ f _)];rfl
 simp only[if_neg e]
 by_cases e:o=16
 ·simp only[if_pos e];rfl
 simp only[if_neg e]
 have t:=w v c
 rw[cQ (by omega),cQ (by omega)];rfl
theorem UQ {W:ZQ} {Z n v:Nat} (h:WOk W Z n v) {deg:Nat} (i:(at' W.1.2.1.2 (v:Int)).length=deg) (I:deg<=24) (Q:W.2.2.2.length<=800):
  ∀(e:E) (b:Bool) (fuel k:Nat) (p:Int) (pre c:dQ),W.2.2.2=pre++(e.ts++c)->pre.length=k->e.wf Z b=true->RY b deg p->e.depth+850<=fuel->
   bP fuel W (k:Int) p=some (e.den (Xi W) deg p,(((k+e.ts.length:Nat)):Int)):=by
 obtain⟨O,aa,h1,h2,h3,h4,h5,_,_⟩:=id h
 have d:∀{t:eS} {l pre c:dQ} {k:Nat},W.2.2.2=pre++((t::l)++c)->pre.length=k->at' W.2.2.2 (k:Int)=t∧(k:Int)<(W.2.2.2.length:Int):=by
  intro t l pre c k g j
  refine⟨J_ (rest:=l++c) (by simpa using g) j,?_⟩
  rw[g];simp;omega
 intro e
 induction e with
 |lf o a=>
  intro b fuel k p pre c g j r s w
  obtain⟨fuel,rfl⟩:∃f,fuel=f+1:=⟨fuel - 1,by omega⟩
  obtain⟨u,m⟩:=d (l:=[]) g j
  show cS (bP fuel) fuel W (k:Int) p=_
  unfold cS
  rw[cQ ⟨by omega,m⟩,u]
  dsimp only
  have T:=r
  simp only[E.wf,Bool.and_eq_true,Bool.or_eq_true,decide_eq_true_eq]at T
  have hl:=Wt h fuel r (i▸s)
  rw[if_pos (by omega),aZ (show kQ fuel _ (o,a) p=some (Xi W o a p)from hl),dY (by omega)]
  rfl
 |un o x X=>
  intro b fuel k p pre c g j r s w
  obtain⟨fuel,rfl⟩:∃f,fuel=f+1:=⟨fuel - 1,by omega⟩
  obtain⟨u,m⟩:=d (l:=x.ts) g j
  show cS (bP fuel) fuel W (k:Int) p=_
  unfold cS
  rw[cQ ⟨by omega,m⟩,u]
  dsimp only
  simp only[E.wf,Bool.and_eq_true,decide_eq_true_eq]at r
  simp only[E.depth]at w
  have B:=X b fuel (k+1) p (pre++[(o,0)]) c (by rw[g];simp[E.ts]) (by simp[j]) r.2 s (by omega)
  rw[if_neg (by omega),if_pos (by omega),dY (by omega),aZ (show bP fuel _ _ p=_ from B),aZ (UA fuel _ _)]
  simp only[E.den,E.ts,List.length_cons]
  rw[show k+1+x.ts.length=k+(x.ts.length+1) by omega]
 |bi o x y C F=>
  intro b fuel k p pre c g j r s w
  obtain⟨fuel,rfl⟩:∃f,fuel=f+1:=⟨fuel - 1,by omega⟩
  obtain⟨u,m⟩:=d (l:=x.ts++y.ts) g j
  show cS (bP fuel) fuel W (k:Int) p=_
  unfold cS
  rw[cQ ⟨by omega,m⟩,u]
  dsimp only
  simp only[E.wf,Bool.and_eq_true,decide_eq_true_eq]at r
  simp only[E.depth]at w
  have B:=C b fuel (k+1) p (pre++[(o,0)]) (y.ts++c) (by rw[g];simp[E.ts]) (by simp[j]) r.1.2 s (by omega)
  have U:=F b fuel (k+1+x.ts.length) p (pre++(o,0)::x.ts) c (by rw[g];simp[E.ts]) (by simp[j];omega) r.2 s (by omega)
  rw[if_neg (by omega),if_neg (by omega),if_neg (by omega),if_pos (by omega),dY (by omega),aZ (show bP fuel _ _ p=_ from B),aZ (show bP fuel _ _ p=_ from U),aZ (Qs fuel _ _ _)]
  simp only[E.den,E.ts,List.length_cons,List.length_append]
  rw[show k+1+x.ts.length+y.ts.length=k+(x.ts.length+y.ts.length+1) by omega]
 |ite x y z C F Y=>
  intro b fuel k p pre c g j r s w
  obtain⟨fuel,rfl⟩:∃f,fuel=f+1:=⟨fuel - 1,by omega⟩
  obtain⟨u,m⟩:=d (l:=x.ts++(y.ts++z.ts)) g j
  show cS (bP fuel) fuel W (k:Int) p=_
  unfold cS
  rw[cQ ⟨by omega,m⟩,u]
  dsimp only
  simp only[E.wf,Bool.and_eq_true]at r
  simp only[E.depth]at w
  have B:=C b fuel (k+1) p (pre++[(43,0)]) (y.ts++z.ts++c) (by rw[g];simp[E.ts]) (by simp[j]) r.1.1 s (by omega)
  have U:=F b fuel (k+1+x.ts.length) p (pre++(43,0)::x.ts) (z.ts++c) (by rw[g];simp[E.ts]) (by simp[j];omega) r.1.2 s (by omega)
  have hz:=Y b fuel (k+1+x.ts.length+y.ts.length) p (pre++(43,0)::(x.ts++y.ts)) c (by rw[g];simp[E.ts]) (by simp[j];omega) r.2 s (by omega)
  rw[if_neg (by decide),if_neg (by decide),if_neg (by decide),if_neg (by decide),dY (by omega),aZ (show bP fuel _ _ p=_ from B),aZ (show bP fuel _ _ p=_ from U),aZ (show bP fuel _ _ p=_ from hz)]
  simp only[E.den,E.ts,List.length_cons,List.length_append]
  rw[show k+1+x.ts.length+y.ts.length+z.ts.length=k+(x.ts.length+(y.ts.length+z.ts.length)+1) by omega]
  split<;>rfl
 | ag o x X =>
  intro b fuel k p pre c g j r s w
  obtain⟨fuel,rfl⟩:∃f,fuel=f+1:=⟨fuel - 1,by omega⟩
  obtain⟨u,m⟩:=d (l:=x.ts) g j
  have R:=UZ r
  have P:=r
  simp only[E.wf,Bool.and_eq_true,Bool.or_eq_true,decide_eq_true_eq]at P
  simp only[E.depth]at w
  have M:(E.ag o x).ts.length=x.ts.length+1:=rfl
  have J:=congrArg List.length g
  simp only[List.length_append]at J
  show cS (bP fuel) fuel W (k:Int) p=_
  unfold cS
  rw[cQ ⟨by omega,m⟩,u]
  dsimp only
  rw[if_neg (by omega),if_neg (by omega),if_pos (by omega),cQ (by omega)]
  let D:Nat->Int:=fun q=>x.den (Xi W) deg ((q:Nat):Int)
  let V:Nat->aQ:=fun q=>(List.range q).map D++List.replicate (24 - q) 0
  have H:∀q,q<=24->(V q).length=24:=fun q S=>by simp[V];omega
  have L:∀q,q<24->(V q).set q (D q)=V (q+1):=fun q S=>by
   show((List.range q).map D++List.replicate (24 - q) 0).set q (D q)=(List.range (q+1)).map D++List.replicate (24 - (q+1)) 0
   rw[show 24 - q=(24 - (q+1))+1 by omega,List.replicate_succ,List.set_append_right _ _ (by simp),List.range_succ]
   simp
  let N:Nat->Int:=fun q=>if q=0 then 0 else(((k+1+x.ts.length:Nat)):Int)
  refine Eq.trans (dM (step:=jD fuel W (k:Int) (bP fuel)) (K:=some ((E.ag o x).den (Xi W) deg p,(((k+(E.ag o x).ts.length:Nat)):Int))) deg (fun q=>(N q,(q:Int),V q)) (fun q ag S=> ?_) (fun ag=> ?_) fuel (by omega)) rfl
  ·unfold jD
   dsimp only
   have B:=X true fuel (k+1) ((q:Nat):Int) (pre++[(o,0)]) c (by rw[g];simp[E.ts]) (by simp[j]) P.2 (fun _=>⟨q,rfl,S⟩) (by omega)
   rw[if_pos (by rw[O,i];omega),dY (by omega),aZ (show bP fuel _ _ _=_ from B),cQ ⟨by omega,H q (by omega)⟩,dY (by omega),Int.toNat_natCast]
   show ag (_,_,(V q).set q (D q))=_
   rw[L q (by omega)]
   simp only[N]
   rw[if_neg (by omega)]
  ·unfold jD
   dsimp only
   rw[if_neg (by rw[O,i];omega)]
   have A:List.take deg (V deg)=(List.range deg).map D:=by
    show List.take deg ((List.range deg).map D++_)=_
    exact List.take_left' (by simp)
   have G:∀y:Int,y=(((k+1+x.ts.length:Nat)):Int)->jC fuel W (k:Int) (N deg,V deg) y=some ((E.ag o x).den (Xi W) deg p,(((k+(E.ag o x).ts.length:Nat)):Int)):=by
    rintro y rfl
    unfold jC
    dsimp only
    rw[O,i,cQ ⟨by omega,by omega,by rw[H deg I];omega⟩,u,Int.toNat_natCast,A,aZ (Wd fuel o _ (by omega) (by simp;omega) (by omega))]
    unfold mE
    rw[M,show k+1+x.ts.length=k+(x.ts.length+1) by omega]
    rfl
   unfold qA
   dsimp only
   by_cases h0:deg=0
   ·rw[if_pos (by rw[O,i];omega),aZ (Yz fuel (E.ag o x) R g j Q (by omega))]
    exact G _ (by rw[M];omega)
   ·rw[if_neg (by rw[O,i];omega)]
    exact G _ (by simp only[N];rw[if_neg h0])
end
end Go.Proofs.YtpenklncfhiloaaGreatDoor
end
section
namespace Go.Proofs.YtpenklncfhiloaaGreatDoor
open Go.Sx
section
def fG (U:Nat) (p0:Ro) (p1:a_) (p2:Int) (p3:dQ):Option (Int):=
 Option.bind (bP U ((((((p0.1.1,p0.1.2.1,p0.1.2.2)),((p0.2.1.1,p0.2.1.2)),p0.2.2.1,p0.2.2.2)),p1,p2,p3)) (0:Int) (-1:Int)) fun a=>(some (a.1))
theorem OO:aO Tryz.prog 126:=Tryz.call126
theorem vJ (U:Nat) {p0:Ro} {p1:a_} {p2:Int} {p3:dQ} (a:Nat)  (j:Value)  (k:Value)  (m:Value)  (n:Value)  (p:jT)  (o:Value)  (q:oV)  (d:Value)  (s:oV)  (b:Value) (r:Int) (h:fG U p0 p1 p2 p3=some r):
  aV Tryz.prog 126 #[vP a,d,vI (p2),b] [bS a [vS (p0.1.1),j,k,m,n,vI (p0.2.2.1),o] 176,Sl aJ j p0.1.2.1,Sl aF k p0.1.2.2,Sl bL m p0.2.1.1,S2 aW n p p0.2.1.2,S2 bL o q p0.2.2.2,S2 bL d s p1,Sl aW b p3] (fun x:Unit=>vI (r)) (fun x l=>l) (fun _ l=>l):=by
 refine aV.of Tryz.func126 rfl Tryz.ntmps126 rfl fun c=>?_
 refine sqR<|qkAsg rfl<|dtN<|sqR<|qkMove rfl<|qkMove rfl<|qkMove rfl<|qkMove rfl<|bJ (Know.one (aC.sl (aC.fact 6 rfl))) fun e=>bJ (Know.one ((aC.fact 7 rfl))) fun f=>?_
 refine aB (XC (r:=Value.agg #[Value.pointer (some ⟨a,0,none⟩),d,vI (p2),b]) rfl rfl rfl rfl (by intro w;simp[Instr.build,Instr.fill,bV,bQ,bK,bW,bX,bR,cC,cY e,cY f])) rfl ?_
 refine aE (aG.alloc (cs:=[Value.pointer none,eG,vI (0:Int),eG]) rfl rfl) rfl fun t=>bJ (Know.one (aC.sl (aC.fact 6 rfl))) fun g=>bJ (Know.one ((aC.fact 7 rfl))) fun i=>aY 0 (vs:=[vP a,d,vI (p2),b]) rfl rfl (cB rfl (cB g (cB rfl (cB i rfl)))) rfl rfl rfl<|dtN<|sqR<|bnE h fun u v h=>aE (aG.callQ zD (BU U t a j k m n p o q d s b u v) rfl (aA.cons (aC.res 0 rfl) (iJ [0,1,2,3,4,5,6,7] rfl))) rfl fun y=>qkMove rfl<|qkExt rfl<|qkExt rfl<|qkAsg rfl<|qkAsg rfl<|dtN<|sqR<|qkMove rfl<|qkAsg rfl<|dtN<|aN ?_
 cases h
 exact vH rfl
end
section
def jH (U:Nat) (p0:Ro) (p1:a_) (p2:Int) (p3:Int):Option (Bool):=
 ck (0<=p3∧p3<(List.length p0.1.2.2:Int)) (Option.bind (fG U ((((p0.1.1,p0.1.2.1,p0.1.2.2)),((p0.2.1.1,p0.2.1.2)),p0.2.2.1,p0.2.2.2)) p1 p2 ((at' p0.1.2.2 p3).2.1.2)) fun a=>(some (decide (a≠(0:Int)))))
theorem Yn:aO Tryz.prog 99:=Tryz.call99
theorem Bt (U:Nat) {p0:Ro} {p1:a_} {p2:Int} {p3:Int} (a:Nat)  (d:Value)  (e:Value)  (f:Value)  (g:Value)  (k:jT)  (i:Value)  (m:oV)  (j:Value)  (n:oV) (r:Bool) (h:jH U p0 p1 p2 p3=some r):
  aV Tryz.prog 99 #[vP a,j,vI (p2),vI (p3)] [bS a [vS (p0.1.1),d,e,f,g,vI (p0.2.2.1),i] 176,Sl aJ d p0.1.2.1,Sl aF e p0.1.2.2,Sl bL f p0.2.1.1,S2 aW g k p0.2.1.2,S2 bL i m p0.2.2.2,S2 bL j n p1] (fun x:Unit=>vB (r)) (fun x l=>l) (fun _ l=>l):=by
 refine aV.of Tryz.func99 rfl Tryz.ntmps99 rfl fun c=>?_
 refine sqR<|qkAsg rfl<|dtN<|sqR<|qkMove rfl<|qkMove rfl<|qkMove rfl<|qkMove rfl<|aB (bU rfl) rfl<|qkFld rfl<|qkFld rfl<|aB (cZ rfl (aC.fact 0 rfl) rfl rfl rfl) rfl<|qkMove rfl<|ckE h fun b h=>aB (bG rfl rfl (aC.fact 2 rfl) rfl rfl b) rfl<|aB (jJ rfl rfl rfl rfl rfl) rfl<|aB (mD rfl (aC.fact 2 rfl) rfl rfl rfl xQ b) rfl<|bnE h fun o p h=>aE (aG.callQ OO (vJ U a d e f g k i m j n ((at' p0.1.2.2 p3).2.1.1) o p) rfl (aA.cons (aC.fact 0 rfl) (aA.cons (aC.fact 1 rfl) (aA.cons (aC.fact 2 rfl) (aA.cons (aC.fact 3 rfl) (aA.cons (aC.fact 4 rfl) (aA.cons (aC.fact 5 rfl) (aA.cons (aC.fact 6 rfl) (aA.cons (tT (aC.fact 2 rfl) xS b.1 b.2) .nil))))))))) rfl fun q=>qkNeq rfl<|qkAsg rfl<|dtN<|aN ?_
 cases h
 exact lD rfl
end
section
def mG  (a:Unit):Option (Int):=
 some (-1:Int)
def jF (U:Nat) (p0:Fz) (p1:a_) (p2:Int) (a:Int) (b:(Int)->Option (Int)):Option (Int):=
 if a<(List.length p0.1.2.2:Int)then(Option.bind (jH U ((((p0.2.1.1.1,p0.2.1.1.2.1,p0.2.1.1.2.2)),((p0.2.1.2.1.1,p0.2.1.2.1.2)),p0.2.1.2.2.1,p0.2.1.2.2.2)) p1 p2 a) fun c=>(if c=true then(some (a))else(b (wI .i64 (a+(1:Int))))))else(mG  (()))
def eC (U:Nat) (p0:Fz) (p1:a_) (p2:Int):Option (Int):=
 bM (jF U p0 p1 p2) U (0:Int)
theorem SK:aO Tryz.prog 69:=Tryz.call69
theorem xB (U:Nat) {p0:Fz} {p1:a_} {p2:Int} (bx0:Nat)  (v1:Value)  (v2:Value)  (bx3:Nat)  (v4:Value)  (v5:Value)  (v6:Value)  (v7:Value)  (z8:jT)  (v9:Value)  (z10:oV)  (v11:Value)  (z12:jT)  (v13:Value)  (z14:oV) (r:Int) (h:eC U p0 p1 p2=some r):
  aV Tryz.prog 69 #[vP bx0,v13,vI (p2)] [bS bx0 [vS (p0.1.1),v1,v2,vP bx3,v11] 134,Sl aJ v1 p0.1.2.1,Sl aF v2 p0.1.2.2,bS bx3 [vS (p0.2.1.1.1),v4,v5,v6,v7,vI (p0.2.1.2.2.1),v9] 176,Sl aJ v4 p0.2.1.1.2.1,Sl aF v5 p0.2.1.1.2.2,Sl bL v6 p0.2.1.2.1.1,S2 aW v7 z8 p0.2.1.2.1.2,S2 bL v9 z10 p0.2.1.2.2.2,S2 aW v11 z12 p0.2.2,S2 bL v13 z14 p1] (fun x:Unit=>vI (r)) (fun x l=>l) (fun _ l=>l):=by
 refine aV.of Tryz.func69 rfl Tryz.ntmps69 rfl fun c=>?_
 unfold eC at h
 refine sqR<|qkAsg rfl<|dtN<|aH<|midU (fun a1=>mG  a1=some r) (fun a1 b2=>[]) (fun a1 b2=>[]) ?_ ?_
 ·refine sqR<|qkMove rfl<|aB (bU rfl) rfl<|qkFld rfl<|qkFld rfl<|aB (cZ rfl (aC.fact 0 rfl) rfl rfl rfl) rfl<|qkLen (aC.fact 2 rfl) rfl<|qkMove rfl<|dtN<|aR<|loopL (jF U p0 p1 p2) (fun a5 b6=>[(0,vP bx0),(1,v13),(2,vI (p2)),(13,vI (List.length p0.1.2.2:Int)),(14,vI (a5))]) (fun a5 b6=>[]) (0:Int) () h SF (aS.refl _) ?_
  intro k7 a5 b6 h
  refine sqR<|qkLss rfl<|dtN<|aH ?_
  refine eZ h rfl (fun h=>?_) fun h=>?_
  ·refine cL<|aH<|aR<|sqR<|qkMove rfl<|qkAsg rfl<|dtN<|sqR<|qkMove rfl<|aB (bU rfl) rfl<|qkFld rfl<|aB (cZ rfl (aC.fact 0 rfl) rfl rfl rfl) rfl<|qkMove rfl<|qkMove rfl<|qkMove rfl<|bnE h fun r9 w10 h=>aE (aG.callQ Yn (Bt U bx3 v4 v5 v6 v7 z8 v9 z10 v13 z14 r9 w10) rfl (iJ [3,4,5,6,7,8,10] rfl)) rfl fun x11=>dtN ?_
   refine zQ h rfl (fun _ h=>?_) fun _ h=>?_
   ·refine sqR<|qkMove rfl<|qkAsg rfl<|dtN<|aN<|bT<|aI<|aI<|bT<|aI ?_
    cases h
    exact lD rfl
   refine eJ<|inT<|aM<|qkAdd rfl<|qkMove rfl<|dtN ?_
   exact Ah (wI .i64 (a5+(1:Int))) () h SF rfl
  refine gH ?_
  exact iQ () (()) h SF rfl
 intro a1 b2 h
 unfold mG at h
 refine sqR<|qkAsg rfl<|dtN<|aN ?_
 cases h
 exact lD rfl
end
section
def sT (p0:Int) (p1:eS) (p2:Int) (a:Bool):Option (Int):=
 if a=true then(some (p2))else(if p0=(3:Int)then(some (-1:Int))else(if p2<p1.1 then(some (p1.1))else(some (p1.2))))
def qW (U:Nat) (p0:Int) (p1:eS) (p2:Int):Option (Int):=
 if p1.1<=p2 then(sT p0 p1 p2 (decide (p2<=p1.2)))else(sT p0 p1 p2 (false))
theorem SE:aO Tryz.prog 43:=Tryz.call43
theorem BX (U:Nat) {p0:Int} {p1:eS} {p2:Int} (r:Int) (h:qW U p0 p1 p2=some r):
  aV Tryz.prog 43 #[vI (p0),Value.agg #[vI (p1.1),vI (p1.2)],vI (p2)] [] (fun x:Unit=>vI (r)) (fun x l=>l) (fun _ l=>l):=by
 refine aV.of Tryz.func43 rfl Tryz.ntmps43 rfl fun c=>?_
 refine sqR<|aE (aG.box (cs:=[vI (p1.1),vI (p1.2)]) rfl rfl) rfl fun b1=>qkAsg rfl<|dtN<|aH<|aR<|aH<|midU (fun a3=>sT p0 p1 p2 a3=some r) (fun a3 b4=>[(0,vI (p0)),(2,vI (p2)),(4,vP b1),(7,vB (a3))]) (fun a3 b4=>[bS b1 [vI (p1.1),vI (p1.2)] 79]) ?_ ?_
 ·refine aM<|qkMove rfl ?_
  refine aB (eN (i:=0) rfl rfl rfl rfl rfl (by decide)) rfl ?_
  refine qkLd 0 rfl<|aB (Bf rfl rfl) rfl<|qkMove rfl ?_
  refine AS h rfl (fun _ h=>?_) fun _ h=>?_
  ·refine gyMove rfl ?_
   refine aL rfl (eN (i:=1) rfl rfl rfl rfl rfl (by decide)) rfl ?_
   refine aL rfl (d_ 0 rfl rfl rfl rfl rfl) rfl<|aL rfl (Bg rfl rfl) rfl<|qkPkT rfl<|qkAsg rfl<|dtN ?_
   exact iQ (decide (p2<=p1.2)) () h SF rfl
  refine gdSkip rfl<|gdSkip rfl<|gdSkip rfl<|gdSkip rfl<|qkPkF rfl<|qkAsg rfl<|dtN ?_
  exact iQ (false) () h SF rfl
 intro a3 b4 h
 refine zQ h rfl (fun _ h=>?_) fun _ h=>?_
 ·refine sqR<|qkMove rfl<|qkAsg rfl<|dtN<|aN<|bT<|aI ?_
  cases h
  exact vH rfl
 refine sqR<|qkMove rfl<|qkEql rfl<|qkAsg rfl<|dtN ?_
 refine eZ h rfl (fun h=>?_) fun h=>?_
 ·refine sqR<|qkAsg rfl<|dtN<|aN<|bT<|aI ?_
  cases h
  exact vH rfl
 refine sqR<|qkMove rfl ?_
 refine aB (eN (i:=0) rfl rfl rfl rfl rfl (by decide)) rfl ?_
 refine qkLd 0 rfl<|qkLss rfl<|qkAsg rfl<|dtN ?_
 refine eZ h rfl (fun h=>?_) fun h=>?_
 ·refine sqR ?_
  refine aB (eN (i:=0) rfl rfl rfl rfl rfl (by decide)) rfl ?_
  refine qkLd 0 rfl<|qkAsg rfl<|dtN<|aN<|bT<|aI ?_
  cases h
  exact vH rfl
 refine eJ<|inT<|sqR ?_
 refine aB (eN (i:=1) rfl rfl rfl rfl rfl (by decide)) rfl ?_
 refine qkLd 0 rfl<|qkAsg rfl<|dtN<|aN ?_
 cases h
 exact vH rfl
end
end Go.Proofs.YtpenklncfhiloaaGreatDoor
end
