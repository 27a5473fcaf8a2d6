/- Models and proofs. Conditions: none. -/
import Derived.Test.YtlciiihigmgaiaaGreatZCAl6
import Derived.Test.YtlciiihigmgaiaaGreatZCAl1
import Derived.KernelRfl
import Derived.Test.YtlciiihigmgaiaaGreatZCAl2
set_option linter.unusedVariables false
set_option linter.unusedSimpArgs false
set_option maxHeartbeats 4000000
set_option maxRecDepth 20000
section
section
namespace Go.Proofs.YtlciiihigmgaiaaGreat
open Go.Sx
section
theorem Wx {R:Type} {step:Int->(Int->Option R)->Option R} {K:Option R} {bad:R} (N:Nat) (p:Nat->Prop)
  (hok:∀(k:Nat) ag,k<N->p k->step k ag=ag ((k:Int)+1)) (hbad:∀(k:Nat) ag,k<N->¬p k->step k ag=some bad) (hend:∀ag,step N ag=K):
  ∀(fuel:Nat),N<fuel->((∀k,k<N->p k)->bU step fuel 0=K)∧(¬(∀k,k<N->p k)->bU step fuel 0=some bad):=by
 intro fuel hf
 have key:∀(d a fuel:Nat),a+d=N->d<fuel->((∀k,a<=k->k<N->p k)->bU step fuel (a:Int)=K)∧(¬(∀k,a<=k->k<N->p k)->bU step fuel (a:Int)=some bad):=by
  intro d
  induction d with
  |zero=>
   intro a fuel ha hf
   obtain rfl:a=N:=by omega
   cases fuel with
   |zero=>omega
   |succ f=>exact⟨fun _=>hend _,fun h=>absurd (fun k h1 h2=>by omega) h⟩
  | succ d ih =>
   intro a fuel ha hf
   cases fuel with
   |zero=>omega
   | succ f =>
    obtain⟨i1,i2⟩:=ih (a+1) f (by omega) (by omega)
    have e:((a+1:Nat):Int)=(a:Int)+1:=by omega
    rw[e]at i1 i2
    by_cases hp:p a
    ·have hs:bU step (f+1) (a:Int)=bU step f ((a:Int)+1):=hok a _ (by omega) hp
     rw[hs]
     refine⟨fun h=>i1 fun k h1 h2=>h k (by omega) h2,fun h=>i2 fun h'=>h fun k h1 h2=> ?_⟩
     by_cases hk:k=a
     ·subst hk;exact hp
     ·exact h' k (by omega) h2
    ·exact⟨fun h=>absurd (h a (Nat.le_refl _) (by omega)) hp,fun _=>hbad a _ (by omega) hp⟩
 obtain⟨h1,h2⟩:=key N 0 fuel (by omega) hf
 exact⟨fun h=>h1 fun k _ hk=>h k hk,fun h=>h2 fun h'=>h fun k hk=>h' k (by omega) hk⟩
abbrev GR:=List Int×d_
abbrev row (g:GR) (v:Nat):eC:=at' g.2 (v:Int)
abbrev Rz (g:GR) (v:Nat):Int:=at' g.1 (v:Int)
abbrev iI (l:eC) (i:Nat):fO:=at' l (i:Int)
def VX (g:GR):Prop:=g.1.length<=30∧g.2.length<=30∧∀v,v<g.2.length->(row g v).length<=30
def DI (l:eC) (v n i:Nat):Prop:=(0<=(iI l i).1∧(iI l i).1<=(n:Int) - 1)∧(iI l i).1≠v∧(1<=(iI l i).2∧(iI l i).2<=15)∧∀k,k<i->(iI l k).1≠(iI l i).1
def pI (l:eC) (v n:Nat):Prop:=∀i,i<l.length->DI l v n i
def vO (l:eC) (u:Int):Int:=match l.findIdx? (fun x=>decide (x.1=u))with
 |some i=>i
 |none=> -1
theorem Iz {l:eC} {u:Int} (i:Nat) (hi:i<l.length) (hu:(iI l i).1=u) (hf:∀k,k<i->(iI l k).1≠u):vO l u=i:=by
 have:l.findIdx? (fun x=>decide (x.1=u))=some i:=by
  rw[List.findIdx?_eq_some_iff_getElem]
  have e:∀k (hk:k<l.length),iI l k=l[k]:=fun k hk=>by rw[iI,iP,List.getD_eq_getElem?_getD,List.getElem?_eq_getElem hk];rfl
  refine⟨hi,by rw[<-e i hi];simpa using hu,fun k hk=> ?_⟩
  have:=hf k hk
  rw[e k (by omega)]at this
  simpa using this
 rw[vO,this]
theorem Iy {l:eC} {u:Int} (hf:∀k,k<l.length->(iI l k).1≠u):vO l u = -1:=by
 have:l.findIdx? (fun x=>decide (x.1=u))=none:=by
  rw[List.findIdx?_eq_none_iff]
  intro x hx
  obtain⟨k,hk,rfl⟩:=List.getElem_of_mem hx
  have:=hf k hk
  rw[iI,iP,List.getD_eq_getElem?_getD,List.getElem?_eq_getElem hk]at this
  simpa using this
 rw[vO,this]
theorem Hg (l:eC) (u:Int):(∃i,i<l.length∧(iI l i).1=u∧(∀k,k<i->(iI l k).1≠u)∧vO l u=i)∨((∀k,k<l.length->(iI l k).1≠u)∧vO l u = -1):=by
 by_cases h:∀k,k<l.length->(iI l k).1≠u
 ·exact .inr ⟨h,Iy h⟩
 ·left
  have hex:∃k,k<l.length∧(iI l k).1=u:=by
   apply Classical.byContradiction
   intro hc
   exact h fun k hk he=>hc ⟨k,hk,he⟩
  obtain⟨k,hk,hku⟩:=hex
  have:∀m,(∃k,k<=m∧k<l.length∧(iI l k).1=u)->∃i,i<l.length∧(iI l i).1=u∧∀k,k<i->(iI l k).1≠u:=by
   intro m
   induction m with
   |zero=>rintro⟨k,h1,h2,h3⟩;exact⟨k,h2,h3,fun j hj=>by omega⟩
   |succ m ih=>
    rintro⟨k,h1,h2,h3⟩
    by_cases hlt:∃j,j<=m∧j<l.length∧(iI l j).1=u
    ·exact ih hlt
    ·exact⟨k,h2,h3,fun j hj he=>hlt ⟨j,by omega,by omega,he⟩⟩
  obtain⟨i,h1,h2,h3⟩:=this k ⟨k,Nat.le_refl _,hk,hku⟩
  exact⟨i,h1,h2,h3,Iz i h1 h2 h3⟩
end
section
theorem Bz {X R:Type} {step:X->(X->Option R)->Option R} {K:X->Option R} {bad:R} (N:Nat) (p:Nat->Prop) (I:Nat->X->Prop)
  (hok:∀(k:Nat) x ag,k<N->I k x->p k->∃x',I (k+1) x'∧step x ag=ag x') (hbad:∀(k:Nat) x ag,k<N->I k x->¬p k->step x ag=some bad) (hend:∀x ag,I N x->step x ag=K x):
  ∀(fuel:Nat) (x:X),I 0 x->N<fuel->((∀k,k<N->p k)->∃x',I N x'∧bU step fuel x=K x')∧(¬(∀k,k<N->p k)->bU step fuel x=some bad):=by
 intro fuel x hI hf
 have key:∀(d a fuel:Nat) (x:X),a+d=N->d<fuel->I a x->((∀k,a<=k->k<N->p k)->∃x',I N x'∧bU step fuel x=K x')∧(¬(∀k,a<=k->k<N->p k)->bU step fuel x=some bad):=by
  intro d
  induction d with
  |zero=>
   intro a fuel x ha hf hI
   obtain rfl:a=N:=by omega
   cases fuel with
   |zero=>omega
   |succ f=>exact⟨fun _=>⟨x,hI,hend _ _ hI⟩,fun h=>absurd (fun k h1 h2=>by omega) h⟩
  | succ d ih =>
   intro a fuel x ha hf hI
   cases fuel with
   |zero=>omega
   | succ f =>
    by_cases hp:p a
    ·obtain⟨x',hI',hs⟩:=hok a x (bU step f) (by omega) hI hp
     have hs:bU step (f+1) x=bU step f x':=hs
     obtain⟨i1,i2⟩:=ih (a+1) f x' (by omega) (by omega) hI'
     rw[hs]
     refine⟨fun h=>i1 fun k h1 h2=>h k (by omega) h2,fun h=>i2 fun h'=>h fun k h1 h2=> ?_⟩
     by_cases hk:k=a
     ·subst hk;exact hp
     ·exact h' k (by omega) h2
    ·exact⟨fun h=>absurd (h a (Nat.le_refl _) (by omega)) hp,fun _=>hbad a x _ (by omega) hI hp⟩
 obtain⟨h1,h2⟩:=key N 0 fuel x (by omega) hf hI
 exact⟨fun h=>h1 fun k _ hk=>h k hk,fun h=>h2 fun h'=>h fun k hk=>h' k (by omega) hk⟩
def Fv (g:GR) (v i:Nat):Prop:=∃j,j<(at' g.2 (iI (row g v) i).1).length∧(iI (at' g.2 (iI (row g v) i).1) j).1=v∧(iI (at' g.2 (iI (row g v) i).1) j).2=(iI (row g v) i).2
structure Tv (g:GR) (v:Nat):Prop where
 id:0<=Rz g v∧Rz g v<=255
 deg:(row g v).length<g.2.length
 links:pI (row g v) v g.2.length
 ids:∀k,k<v->Rz g k≠Rz g v
structure VG (g:GR):Prop where
 n1:1<=g.2.length
 n24:g.2.length<=24
 len:g.1.length=g.2.length
 node:∀v,v<g.2.length->Tv g v
 sym:∀v,v<g.2.length->∀i,i<(row g v).length->Fv g v i
theorem Ca {α:Type} [Inhabited α] (l:List α) (i k:Nat) (y:α) (hi:i<l.length):at' (l.set i y) (k:Int)=if k=i then y else at' l (k:Int):=by
 rw[iP,iP,List.getD_eq_getElem?_getD,List.getD_eq_getElem?_getD,List.getElem?_set]
 by_cases h:i=k
 ·rw[if_pos h,if_pos h.symm,if_pos (by omega)];rfl
 ·rw[if_neg h,if_neg (Ne.symm h)]
def MX (l:bM) (k:Nat):Prop:=(0<=at' l (k:Int)∧at' l (k:Int)<=255)∧∀j,j<k->at' l (j:Int)≠at' l (k:Int)
theorem pJ (l:bM) (hl:l.length<=30):((∀k,k<l.length->MX l k)->fX 1000 l=some true)∧(¬(∀k,k<l.length->MX l k)->fX 1000 l=some false):=by
 unfold fX
 have key:=Bz (step:=eG l) (K:=fun _=>some true) (bad:=false) l.length (MX l) (fun k x=>x.1=(k:Int)∧x.2.length=256∧∀z:Nat,z<256->(at' x.2 (z:Int)=true↔∃j,j<k∧at' l (j:Int)=(z:Int))) ?_ ?_ ?_ 1000 ((0:Int),(List.replicate 256 false)) ⟨rfl,List.length_replicate ..,fun z hz=> ?_⟩ (by omega)
 ·exact⟨fun h=>by obtain⟨x,_,hx⟩:=key.1 h;exact hx,key.2⟩
 ·rintro k ⟨x1,x2⟩ ag hk ⟨hx,hlen,hs⟩ ⟨hr,hd⟩
  dsimp only at hx hlen hs
  subst hx
  obtain⟨z,hz⟩:∃z:Nat,at' l (k:Int)=z:=⟨(at' l (k:Int)).toNat,by omega⟩
  have hz2:z<256:=by omega
  have hno:¬at' x2 (z:Int)=true:=by
   rw[hs z hz2]
   rintro⟨j,hj,he⟩
   exact hd j hj (he.trans hz.symm)
  refine⟨((k:Int)+1,x2.set z true),⟨by simp,by simp[hlen],fun y hy=> ?_⟩,?_⟩
  ·dsimp only
   rw[Ca _ _ _ _ (by omega)]
   by_cases hyz:y=z
   ·subst hyz
    rw[if_pos rfl]
    exact⟨fun _=>⟨k,by omega,hz⟩,fun _=>rfl⟩
   ·rw[if_neg hyz,hs y hy]
    constructor
    ·rintro⟨j,hj,he⟩;exact⟨j,by omega,he⟩
    ·rintro⟨j,hj,he⟩
     by_cases hjk:j=k
     ·subst hjk;rw[hz]at he;omega
     ·exact⟨j,by omega,he⟩
  ·unfold eG fG
   dsimp only
   rw[if_pos (by omega),eM (by omega),hz,if_neg (by omega),if_neg (by omega),eM ⟨by omega,hlen⟩,if_neg hno,eM ⟨by omega,hlen⟩,wr (by omega) (by omega)]
   rfl
 ·rintro k ⟨x1,x2⟩ ag hk ⟨hx,hlen,hs⟩ hp
  dsimp only at hx hlen hs
  subst hx
  unfold eG fG
  dsimp only
  rw[if_pos (by omega),eM (by omega)]
  by_cases h1:at' l (k:Int)<0
  ·rw[if_pos h1,if_pos rfl]
  rw[if_neg h1]
  by_cases h2:255<at' l (k:Int)
  ·rw[if_pos h2,if_pos rfl]
  rw[if_neg h2]
  obtain⟨z,hz⟩:∃z:Nat,at' l (k:Int)=z:=⟨(at' l (k:Int)).toNat,by omega⟩
  rw[hz,eM ⟨by omega,hlen⟩,if_pos]
  rw[hs z (by omega)]
  apply Classical.byContradiction
  intro hc
  exact hp ⟨by omega,fun j hj he=>hc ⟨j,hj,he.trans hz⟩⟩
 ·rintro⟨x1,x2⟩ ag ⟨hx,_,_⟩
  dsimp only at hx
  subst hx
  unfold eG j_
  dsimp only
  rw[if_neg (by omega)]
 ·rw[show at' (List.replicate 256 false) (z:Int)=false by rw[iP,List.getD_eq_getElem?_getD,List.getElem?_replicate,if_pos hz];rfl]
  exact⟨fun h=>(by cases h),fun⟨j,hj,_⟩=>(by omega)⟩
theorem Mo {κ ν:Type} [DecidableEq κ] (k k':κ) (v:ν):∀l:List (κ×ν),jE k' (xG k v l)=if k'=k then some v else jE k' l
 | []=>by simp only[xG,jE]
 | x :: xs => by
  simp only[xG]
  by_cases h:k=x.1
  ·rw[if_pos h];simp only[jE]
   by_cases h2:k'=k
   ·rw[if_pos h2,if_pos h2]
   ·rw[if_neg h2,if_neg h2,if_neg (fun h3=>h2 (h3.trans h.symm))]
  ·rw[if_neg h];simp only[jE]
   by_cases h2:k'=x.1
   ·rw[if_pos h2,if_neg (fun h3=>h (h3.symm.trans h2)),if_pos h2]
   ·rw[if_neg h2,Mo k k' v xs]
    by_cases h3:k'=k
    ·rw[if_pos h3,if_pos h3]
    ·rw[if_neg h3,if_neg h3,if_neg h2]
theorem Ii {κ ν:Type} [DecidableEq κ] {k:κ} {v:ν} {z:κ×ν} {l:List (κ×ν)} (h0:jE k l=none):z∈xG k v l↔z=(k,v)∨z∈l:=by
 rw[Cp k v l h0]
 simp[or_comm]
theorem Co {κ ν:Type} [DecidableEq κ] {k:κ}:∀{l:List (κ×ν)},(∀v,(k,v)∉l)->jE k l=none
 | [],_=>rfl
 |x::xs,h=>by
  simp only[jE]
  rw[if_neg (fun e=>h x.2 (by rw[e];exact List.mem_cons_self ..))]
  exact Co fun v hv=>h v (List.mem_cons_of_mem _ hv)
theorem pB {κ ν:Type} [DecidableEq κ] {k:κ} {v:ν}:∀{l:List (κ×ν)},jE k l=none->(k,v)∉l
 | [],_=>by simp
 | x :: xs, h => by
  simp only[jE]at h
  by_cases e:k=x.1
  ·rw[if_pos e]at h;cases h
  ·rw[if_neg e]at h
   intro hm
   rcases List.mem_cons.1 hm with h2|h2
   ·exact e (by rw[<-h2])
   ·exact pB h h2
theorem wG {κ ν:Type} [DecidableEq κ] {k:κ} {v:ν}:∀{l:List (κ×ν)},jE k l=some v->(k,v)∈l
 |x::xs,h=>by
  simp only[jE]at h
  by_cases e:k=x.1
  ·rw[if_pos e]at h;cases h;rw[e];exact List.mem_cons_self ..
  ·rw[if_neg e]at h;exact List.mem_cons_of_mem _ (wG h)
theorem Et {κ ν:Type} (p:κ×ν->Prop) [DecidablePred p]:∀l:List (κ×ν),E_ (fun kv x=>if p kv then some false else x) (some true) l=some (decide (∀z∈l,¬p z))
 | []=>by simp[E_]
 |x::xs=>by
  show(if p x then some false else E_ _ (some true) xs)=_
  rw[Et p xs]
  by_cases h:p x
  ·rw[if_pos h];congr 1;symm;exact decide_eq_false fun h2=>h2 x (List.mem_cons_self ..) h
  ·rw[if_neg h];congr 1;apply decide_eq_decide.2;simp[h]
def HF (ps:d_) (v i:Nat) (z:(Int×Int)×Int):Prop:=∃a b:Nat,(a<v∨(a=v∧b<i))∧b<(at' ps (a:Int)).length∧z=(((a:Int),(iI (at' ps (a:Int)) b).1),(iI (at' ps (a:Int)) b).2)
def Fw (ps:d_):Prop:=(∀v,v<ps.length->pI (at' ps (v:Int)) v ps.length)∧∀v,v<ps.length->∀i,i<(at' ps (v:Int)).length->Fv ([],ps) v i
theorem BK (ps:d_) (hn:ps.length<=30) (hd:∀v,v<ps.length->(at' ps (v:Int)).length<=30):(Fw ps->eJ 1000 ps=some true)∧(¬Fw ps->eJ 1000 ps=some false):=by
 unfold eJ
 have inner:∀(v:Nat) (m:List ((Int×Int)×Int)) ag,v<ps.length->(∀z,z∈m↔HF ps v 0 z)->
   (pI (at' ps (v:Int)) v ps.length->∃m',(∀z,z∈m'↔HF ps (v+1) 0 z)∧bU (bV ps ((v:Int),m) ag) 1000 ((0:Int),m)=ag ((v:Int)+1,m'))∧
   (¬pI (at' ps (v:Int)) v ps.length->bU (bV ps ((v:Int),m) ag) 1000 ((0:Int),m)=some false):=by
  intro v m ag hv hm
  have hdv:=hd v hv
  have key:=Bz (step:=bV ps ((v:Int),m) ag) (K:=fun x=>ag ((v:Int)+1,x.2)) (bad:=false) (at' ps (v:Int)).length (DI (at' ps (v:Int)) v ps.length) (fun i x=>x.1=(i:Int)∧∀z,z∈x.2↔HF ps v i z) ?_ ?_ ?_ 1000 ((0:Int),m) ⟨rfl,hm⟩ (by omega)
  ·refine⟨fun h=> ?_,fun h=>key.2 h⟩
   obtain⟨x,⟨hx1,hx2⟩,hx⟩:=key.1 h
   refine⟨x.2,fun z=>(hx2 z).trans ⟨?_,?_⟩,hx⟩
   ·rintro⟨a,b,h1,h2,h3⟩;exact⟨a,b,by omega,h2,h3⟩
   ·rintro⟨a,b,h1,h2,h3⟩
    refine⟨a,b,?_,h2,h3⟩
    by_cases ha:a=v
    ·subst ha;exact .inr ⟨rfl,h2⟩
    ·omega
  ·rintro i ⟨x1,x2⟩ ag2 hi ⟨hx,hs⟩ ⟨p1,p2,p3,p4⟩
   dsimp only at hx hs
   subst hx
   have hg:jE (((v:Int),(iI (at' ps (v:Int)) i).1)) x2=none:=by
    apply Co
    intro w hw
    obtain⟨a,b,h1,h2,h3⟩:=(hs _).1 hw
    simp only[Prod.mk.injEq]at h3
    obtain⟨⟨h4,h5⟩,_⟩:=h3
    have:a=v:=by omega
    subst this
    have hb:b<i:=by omega
    exact p4 b hb h5.symm
   refine⟨((i:Int)+1,xG (((v:Int),(iI (at' ps (v:Int)) i).1)) (iI (at' ps (v:Int)) i).2 x2),⟨by simp,fun z=> ?_⟩,?_⟩
   ·dsimp only
    rw[Ii hg,hs]
    constructor
    ·rintro(rfl|⟨a,b,h1,h2,h3⟩)
     ·exact⟨v,i,.inr ⟨rfl,by omega⟩,hi,rfl⟩
     ·exact⟨a,b,by omega,h2,h3⟩
    ·rintro⟨a,b,h1,h2,h3⟩
     by_cases hab:a=v∧b=i
     ·left;rw[h3,hab.1,hab.2]
     ·right;exact⟨a,b,by omega,h2,h3⟩
   ·replace p1:0<=(at' (at' ps (v:Int)) (i:Int)).1∧(at' (at' ps (v:Int)) (i:Int)).1<=(ps.length:Int) - 1:=p1
    replace p3:1<=(at' (at' ps (v:Int)) (i:Int)).2∧(at' (at' ps (v:Int)) (i:Int)).2<=15:=p3
    unfold bV eP fR
    dsimp only
    rw[if_pos (by omega),eM (by omega),if_neg (by omega),if_neg (by omega),if_neg (by rw[decide_eq_false p2];simp),if_neg (by omega),if_neg (by rw[decide_eq_false (by omega)];simp),hg,if_neg (by simp),wr (by omega) (by omega)]
  ·rintro i ⟨x1,x2⟩ ag2 hi ⟨hx,hs⟩ hp
   dsimp only at hx hs
   subst hx
   unfold bV eP fR
   dsimp only
   rw[if_pos (by omega),eM (by omega)]
   by_cases h1:(iI (at' ps (v:Int)) i).1<0
   ·rw[if_pos h1,if_pos rfl]
   rw[if_neg h1]
   by_cases h2:(ps.length:Int)<=(iI (at' ps (v:Int)) i).1
   ·rw[if_pos h2,if_pos rfl]
   rw[if_neg h2]
   by_cases h3:(iI (at' ps (v:Int)) i).1=v
   ·rw[if_pos (decide_eq_true h3)]
   rw[if_neg (by rw[decide_eq_false h3];simp)]
   by_cases h4:(iI (at' ps (v:Int)) i).2<1
   ·rw[if_pos h4,if_pos rfl]
   rw[if_neg h4]
   by_cases h5:15<(iI (at' ps (v:Int)) i).2
   ·rw[if_pos (decide_eq_true h5)]
   rw[if_neg (by rw[decide_eq_false h5];simp)]
   have:∃k,k<i∧(iI (at' ps (v:Int)) k).1=(iI (at' ps (v:Int)) i).1:=by
    apply Classical.byContradiction
    intro hc
    exact hp ⟨by omega,h3,by omega,fun k hk he=>hc ⟨k,hk,he⟩⟩
   obtain⟨k,hk,he⟩:=this
   have hin:=(hs _).2 ⟨v,k,.inr ⟨rfl,hk⟩,by omega,rfl⟩
   rw[if_pos]
   rw[<-he]
   cases hg:jE (((v:Int),(iI (at' ps (v:Int)) k).1)) x2 with
   |some w=>rfl
   | none => exact absurd hin (by
     intro hin
     exact pB hg hin)
  ·rintro⟨x1,x2⟩ ag2 ⟨hx,hs⟩
   dsimp only at hx hs
   subst hx
   unfold bV jL
   dsimp only
   rw[if_neg (by omega),wr (by omega) (by omega)]
 have outer:=Bz (step:=cB 1000 ps) (K:=fun x=>fQ x.2) (bad:=false) ps.length (fun v=>pI (at' ps (v:Int)) v ps.length) (fun v x=>x.1=(v:Int)∧∀z,z∈x.2↔HF ps v 0 z) ?_ ?_ ?_ 1000 ((0:Int),[]) ⟨rfl,fun z=>⟨fun h=>(by cases h),fun⟨a,b,h1,_⟩=>(by omega)⟩⟩ (by omega)
 rotate_left
 ·rintro v ⟨x1,x2⟩ ag hv ⟨hx,hs⟩ hp
  dsimp only at hx hs
  subst hx
  obtain⟨m',h1,h2⟩:=(inner v x2 ag hv hs).1 hp
  refine⟨((v:Int)+1,m'),⟨by simp,h1⟩,?_⟩
  ·unfold cB
   dsimp only
   rw[if_pos (by omega),eM (by omega)]
   exact h2
 ·rintro v ⟨x1,x2⟩ ag hv ⟨hx,hs⟩ hp
  dsimp only at hx hs
  subst hx
  unfold cB
  dsimp only
  rw[if_pos (by omega),eM (by omega)]
  exact(inner v x2 ag hv hs).2 hp
 ·rintro⟨x1,x2⟩ ag ⟨hx,hs⟩
  dsimp only at hx hs
  subst hx
  unfold cB
  dsimp only
  rw[if_neg (by omega)]
 by_cases hL:∀v,v<ps.length->pI (at' ps (v:Int)) v ps.length
 rotate_left
 ·exact⟨fun h=>absurd h.1 hL,fun _=>outer.2 hL⟩
 obtain⟨⟨x1,x2⟩,⟨hx,hs⟩,he⟩:=outer.1 hL
 rw[he]
 dsimp only at hs ⊢
 have hk:fQ x2=some (decide (∀z∈x2,¬(Option.getD (jE (z.1.2,z.1.1) x2) (0:Int))≠z.2)):=Et (fun z:(Int×Int)×Int=>(Option.getD (jE (z.1.2,z.1.1) x2) (0:Int))≠z.2) x2
 rw[hk]
 have hiff:(∀z∈x2,¬(Option.getD (jE (z.1.2,z.1.1) x2) (0:Int))≠z.2)↔∀v,v<ps.length->∀i,i<(at' ps (v:Int)).length->Fv ([],ps) v i:=by
  constructor
  ·intro h v hv i hi
   have hw:=(hL v hv i hi).2.2.1
   have hin:=(hs (((v:Int),(iI (at' ps (v:Int)) i).1),(iI (at' ps (v:Int)) i).2)).2 ⟨v,i,.inl hv,hi,rfl⟩
   have h2:=Decidable.not_not.1 (h _ hin)
   dsimp only at h2
   cases hg:jE ((iI (at' ps (v:Int)) i).1,(v:Int)) x2 with
   |none=>rw[hg]at h2;simp only[Option.getD]at h2;omega
   | some w =>
    rw[hg]at h2;simp only[Option.getD]at h2
    obtain⟨a,b,h3,h4,h5⟩:=(hs _).1 (wG hg)
    simp only[Prod.mk.injEq]at h5
    obtain⟨⟨h6,h7⟩,h8⟩:=h5
    refine⟨b,?_,?_,?_⟩
    ·show b<(at' ps (iI (at' ps (v:Int)) i).1).length
     rw[h6];exact h4
    ·show(iI (at' ps (iI (at' ps (v:Int)) i).1) b).1=v
     rw[h6];exact h7.symm
    ·show(iI (at' ps (iI (at' ps (v:Int)) i).1) b).2=(iI (at' ps (v:Int)) i).2
     rw[h6,<-h8];exact h2
  ·intro h z hz hne
   obtain⟨a,b,h3,h4,rfl⟩:=(hs z).1 hz
   have ha:a<ps.length:=by omega
   apply hne
   obtain⟨j,hj1,hj2,hj3⟩:=h a ha b h4
   have hu:=(hL a ha b h4).1
   obtain⟨u,hu'⟩:∃u:Nat,(iI (at' ps (a:Int)) b).1=u:=⟨(iI (at' ps (a:Int)) b).1.toNat,by omega⟩
   replace hj1:j<(at' ps (iI (at' ps (a:Int)) b).1).length:=hj1
   replace hj2:(iI (at' ps (iI (at' ps (a:Int)) b).1) j).1=a:=hj2
   replace hj3:(iI (at' ps (iI (at' ps (a:Int)) b).1) j).2=(iI (at' ps (a:Int)) b).2:=hj3
   rw[hu']at hj1 hj2 hj3
   have hun:u<ps.length:=by omega
   dsimp only
   rw[hu',<-hj3]
   have hin:=(hs (((u:Int),(iI (at' ps (u:Int)) j).1),(iI (at' ps (u:Int)) j).2)).2 ⟨u,j,.inl hun,hj1,rfl⟩
   rw[hj2]at hin
   cases hg:jE ((u:Int),(a:Int)) x2 with
   |none=>exact absurd hin (pB hg)
   | some w =>
    obtain⟨a',b',h3',h4',h5⟩:=(hs _).1 (wG hg)
    simp only[Prod.mk.injEq]at h5
    obtain⟨⟨h6,h7⟩,h8⟩:=h5
    have:a'=u:=by omega
    subst this
    have hbj:b'=j:=by
     rcases Nat.lt_trichotomy b' j with hl|hl|hl
     ·exact absurd (h7.symm.trans hj2.symm) ((hL a' hun j hj1).2.2.2 b' hl)
     ·exact hl
     ·exact absurd (hj2.trans h7) ((hL a' hun b' h4').2.2.2 j hl)
    subst hbj
    exact h8
 by_cases hS:∀v,v<ps.length->∀i,i<(at' ps (v:Int)).length->Fv ([],ps) v i
 ·rw[decide_eq_true (hiff.2 hS)]
  exact⟨fun _=>rfl,fun h=>absurd ⟨hL,hS⟩ h⟩
 ·rw[decide_eq_false (fun h=>hS (hiff.1 h))]
  exact⟨fun h=>absurd h.2 hS,fun _=>rfl⟩
theorem Hf:∀(N:Nat) (f:Nat->Nat) (k:Nat),(∀i,i<k->f i<N)->(∀i j,i<j->j<k->f i≠f j)->k<=N
 |0,f,k,h,_=>by
  cases k with
  |zero=>omega
  |succ k=>exact absurd (h 0 (by omega)) (by omega)
 | N + 1, f, k, h, hd => by
  by_cases hex:∃a,a<k∧f a=N
  ·obtain⟨a,ha,hfa⟩:=hex
   have:=Hf N (fun i=>if i<a then f i else f (i+1)) (k - 1) (fun i hi=>by
    split
    ·have:=h i (by omega);have:=hd i a (by omega) ha;omega
    ·have:=h (i+1) (by omega);have:=hd a (i+1) (by omega) (by omega);omega) (fun i j hij hj=>by
    split<;>split
    ·exact hd i j hij (by omega)
    ·exact hd i (j+1) (by omega) (by omega)
    ·omega
    ·exact hd (i+1) (j+1) (by omega) (by omega))
   omega
  ·have:=Hf N f k (fun i hi=>by
    have:=h i hi
    have:f i≠N:=fun e=>hex ⟨i,hi,e⟩
    omega) hd
   omega
theorem JK {l:eC} {v n:Nat} (hv:v<n) (h:pI l v n):l.length<n:=by
 have:=Hf n (fun i=>if i=l.length then v else(iI l i).1.toNat) (l.length+1) (fun i hi=>by
  split
  ·exact hv
  ·have:=(h i (by omega)).1;omega) (fun i j hij hj=>by
  rw[if_neg (by omega)]
  have h1:=(h i (by omega)).1
  split
  ·have:=(h i (by omega)).2.1;omega
  ·have h2:=(h j (by omega)).1
   have:=(h j (by omega)).2.2.2 i hij
   omega)
 omega
theorem Ws (g:GR) (hl:VX g):(VG g->iB 1000 g=some true)∧(¬VG g->iB 1000 g=some false):=by
 obtain⟨l1,l2,l3⟩:=hl
 unfold iB lQ lR
 by_cases h1:g.1.length<1
 ·rw[if_pos (by omega)]
  exact⟨fun h=>by have:=h.n1;have:=h.len;omega,fun _=>rfl⟩
 rw[if_neg (by omega)]
 by_cases h2:24<g.1.length
 ·rw[if_pos (by omega)]
  exact⟨fun h=>by have:=h.n24;have:=h.len;omega,fun _=>rfl⟩
 rw[if_neg (by omega)]
 by_cases h3:g.1.length=g.2.length
 rotate_left
 ·rw[decide_eq_true (by omega)]
  exact⟨fun h=>absurd h.len h3,fun _=>rfl⟩
 rw[decide_eq_false (by omega),if_neg (by simp)]
 by_cases h4:∀k,k<g.1.length->MX g.1 k
 rotate_left
 ·rw[(pJ g.1 l1).2 h4,bE rfl]
  exact⟨fun h=>absurd (fun k hk=>⟨(h.node k (by omega)).id,(h.node k (by omega)).ids⟩) h4,fun _=>rfl⟩
 rw[(pJ g.1 l1).1 h4,bE rfl,if_pos rfl]
 by_cases h5:Fw g.2
 ·rw[(BK g.2 l2 l3).1 h5]
  exact⟨fun _=>rfl,fun h=>absurd ⟨by omega,by omega,h3,fun v hv=>⟨(h4 v (by omega)).1,JK hv (h5.1 v hv),h5.1 v hv,(h4 v (by omega)).2⟩,h5.2⟩ h⟩
 ·rw[(BK g.2 l2 l3).2 h5]
  exact⟨fun h=>absurd ⟨fun v hv=>(h.node v hv).links,h.sym⟩ h5,fun _=>rfl⟩
end
section
abbrev D (d:bM) (v:Nat):Int:=at' d (v:Int)
def Adj (g:GR) (v u:Nat):Prop:=∃i,i<(row g v).length∧(iI (row g v) i).1=(u:Int)
theorem VG.port {g:GR} (h:VG g) {v i:Nat} (hv:v<g.2.length) (hi:i<(row g v).length):∃u:Nat,u<g.2.length∧(iI (row g v) i).1=(u:Int)∧Adj g v u:=by
 have hu:=((h.node v hv).links i hi).1
 exact⟨(iI (row g v) i).1.toNat,by omega,by omega,i,hi,by omega⟩
end
section
theorem FZ (g:GR) (v:Nat) (u:Int) (hv:v<g.2.length) (hl:(row g v).length<=30):jO 1000 g v u=some (vO (row g v) u):=by
 unfold jO
 rw[eM (by omega)]
 rcases Hg (row g v) u with⟨i,hi,hu,hf,he⟩|⟨hf,he⟩
 ·rw[he]
  refine Dp (fun x:Int=>∃k:Nat,x=k∧k<=i) (fun x=>31 - x.toNat) ?_ 1000 _ ⟨0,rfl,by omega⟩ (by omega)
  rintro x ag ⟨k,rfl,hk⟩ hag
  unfold pN
  rw[if_pos (show(k:Int)<((row g v).length:Int) by omega),eM (show 0<=(k:Int)∧(k:Int)<((row g v).length:Int) by omega)]
  by_cases e:k=i
  ·subst e;exact if_pos hu
  ·rw[if_neg (hf k (by omega)),wr (by omega) (by omega)]
   exact hag _ ⟨k+1,by omega,by omega⟩ (by omega)
 ·rw[he]
  refine Dp (fun x:Int=>∃k:Nat,x=k∧k<=(row g v).length) (fun x=>31 - x.toNat) ?_ 1000 _ ⟨0,rfl,by omega⟩ (by omega)
  rintro x ag ⟨k,rfl,hk⟩ hag
  unfold pN
  by_cases e:k<(row g v).length
  ·rw[if_pos (show(k:Int)<((row g v).length:Int) by omega),eM (show 0<=(k:Int)∧(k:Int)<((row g v).length:Int) by omega),if_neg (hf k e),wr (by omega) (by omega)]
   exact hag _ ⟨k+1,by omega,by omega⟩ (by omega)
  ·rw[if_neg (show¬(k:Int)<((row g v).length:Int) by omega)];rfl
end
section
def Yd (f:Nat->Nat):Nat->Nat
 |0=>0
 |k+1=>Yd f k+f k
open Classical in
noncomputable def ind (p:Prop):Nat:=if p then 1 else 0
end
section
theorem LG (a:Nat) (h:a<4294967296):IntKind.u32.wrap (a:Int)=a:=by rw[<-EP];exact if_pos ⟨by omega,by omega⟩
def Nk (x:Int):Nat:=(BitVec.ofInt 32 x).toNat
theorem Jr (x:Int):Nk x<4294967296:=(BitVec.ofInt 32 x).isLt
theorem rU {a:Nat} (h:a<4294967296):Nk (a:Int)=a:=by
 unfold Nk;rw[BitVec.ofInt_natCast,BitVec.toNat_ofNat];exact Nat.mod_eq_of_lt h
theorem Gz (x y:Int):uP .u32 x y=((Nk x &&& Nk y:Nat):Int):=by
 show IntKind.u32.wrap (((BitVec.ofInt 32 x &&& BitVec.ofInt 32 y).toNat:Nat):Int)=_
 rw[BitVec.toNat_and]
 exact LG _ (Nat.lt_of_le_of_lt Nat.and_le_left (Jr x))
theorem TJ (x y:Int):TH .u32 x y=((Nk x ||| Nk y:Nat):Int):=by
 show IntKind.u32.wrap (((BitVec.ofInt 32 x ||| BitVec.ofInt 32 y).toNat:Nat):Int)=_
 rw[BitVec.toNat_or]
 exact LG _ (Nat.or_lt_two_pow (n:=32) (Jr x) (Jr y))
theorem Tf {k:Nat} (hk:k<32):2^k<4294967296:=Nat.pow_lt_pow_right (n:=32) (by omega) hk
theorem Vr {k:Nat} (hk:k<32):Bt .u32 1 (k:Int)=((2^k:Nat):Int):=by
 show IntKind.u32.wrap (1*2^(min ((k:Int).toNat) 32))=_
 rw[Int.toNat_natCast,Nat.min_eq_left (by omega),Int.one_mul,show(2:Int)^k=((2^k:Nat):Int) by simp]
 exact LG _ (Tf hk)
theorem KC {a k:Nat} (hk:k<32):HT .u32 (a:Int) (k:Int)=((a / 2^k:Nat):Int):=by
 show Int.fdiv (a:Int) (2^(min ((k:Int).toNat) 32))=_
 rw[Int.toNat_natCast,Nat.min_eq_left (by omega),show(2:Int)^k=((2^k:Nat):Int) by simp,Int.fdiv_eq_ediv_of_nonneg _ (Int.natCast_nonneg _)]
 simp
theorem JS {a k:Nat} (hk:k<32) (ha:a<4294967296):uP .u32 (HT .u32 (a:Int) (k:Int)) 1=1↔a.testBit k=true:=by
 have h1:Nk 1=1:=rU (a:=1) (by omega)
 rw[KC hk,Gz,rU (Nat.lt_of_le_of_lt (Nat.div_le_self _ _) ha),h1,Nat.and_one_is_mod,Nat.testBit_eq_decide_div_mod_eq,decide_eq_true_eq]
 omega
def DC (g:GR) (s:Nat):Prop:=(∀v,s.testBit v=true->v<g.2.length)∧∀v u,s.testBit v=true->s.testBit u=true->¬Adj g v u
end
section
def T (e:bM) (k v w:Nat):Int:=if 0<=D e w∧(D e w<k∨(D e w=k∧w<v))then D e w else -1
end
section
theorem Fa (l:bM) (h:l.length<=30):oA 1000 l l=some true:=by
 unfold oA
 rw[if_neg (by simp)]
 refine Dp (fun z:Int=>∃k:Nat,z=k∧k<=l.length) (fun z=>31 - z.toNat) ?_ 1000 _ ⟨0,rfl,by omega⟩ (by simp)
 rintro z ag ⟨k,rfl,hk⟩ hag
 unfold qW nA
 by_cases hlt:k<l.length
 ·rw[if_pos (by omega),eM (by omega),eM (by omega),if_neg (by simp),wr (by omega) (by omega)]
  exact hag _ ⟨k+1,by simp,by omega⟩ (by omega)
 ·rw[if_neg (by omega)]
end
section
theorem On {X R:Type} {step:X->(X->Option R)->Option R} {K:X->Option R} {bad:R} (N:Nat) (p:Nat->Prop) (I:Nat->X->Prop) (B:Nat)
  (hok:∀(k:Nat) x ag,k<N->k<B->I k x->p k->∃x',I (k+1) x'∧step x ag=ag x') (hbad:∀(k:Nat) x ag,k<N->k<B->I k x->¬p k->step x ag=some bad) (hend:∀x ag,I N x->N<B->step x ag=K x):
  ∀(fuel:Nat) (x:X),I 0 x->B<=fuel->(N<B∨∃k,k<N∧k<B∧¬p k)->((∀k,k<N->p k)->∃x',I N x'∧bU step fuel x=K x')∧(¬(∀k,k<N->p k)->bU step fuel x=some bad):=by
 intro fuel x hI hf hB
 have bads:∀(d a fuel:Nat) (x:X),I a x->a+d<N->a+d<B->¬p (a+d)->d<fuel->bU step fuel x=some bad:=by
  intro d
  induction d with
  |zero=>
   intro a fuel x hI h1 h2 hp hf
   obtain⟨f,rfl⟩:∃f,fuel=f+1:=⟨fuel - 1,by omega⟩
   exact hbad a x _ h1 h2 hI hp
  | succ d ih =>
   intro a fuel x hI h1 h2 hp hf
   obtain⟨f,rfl⟩:∃f,fuel=f+1:=⟨fuel - 1,by omega⟩
   by_cases hpa:p a
   ·obtain⟨x',hI',hs⟩:=hok a x (bU step f) (by omega) (by omega) hI hpa
    have hs:bU step (f+1) x=bU step f x':=hs
    rw[hs]
    exact ih (a+1) f x' hI' (by omega) (by omega) (by rw[show a+1+d=a+(d+1) by omega];exact hp) (by omega)
   ·exact hbad a x _ (by omega) (by omega) hI hpa
 have goods:∀(d a fuel:Nat) (x:X),I a x->a+d=N->N<B->(∀k,a<=k->k<N->p k)->d<fuel->∃x',I N x'∧bU step fuel x=K x':=by
  intro d
  induction d with
  |zero=>
   intro a fuel x hI h1 h2 hp hf
   obtain⟨f,rfl⟩:∃f,fuel=f+1:=⟨fuel - 1,by omega⟩
   obtain rfl:a=N:=by omega
   exact⟨x,hI,hend x _ hI h2⟩
  |succ d ih=>
   intro a fuel x hI h1 h2 hp hf
   obtain⟨f,rfl⟩:∃f,fuel=f+1:=⟨fuel - 1,by omega⟩
   obtain⟨x',hI',hs⟩:=hok a x (bU step f) (by omega) (by omega) hI (hp a (Nat.le_refl _) (by omega))
   have hs:bU step (f+1) x=bU step f x':=hs
   rw[hs]
   exact ih (a+1) f x' hI' (by omega) h2 (fun k h1 h2=>hp k (by omega) h2) (by omega)
 constructor
 ·intro h
  rcases hB with hB|⟨k,h1,_,h2⟩
  ·exact goods N 0 fuel x hI (by omega) hB (fun k _ hk=>h k hk) (by omega)
  ·exact absurd (h k h1) h2
 ·intro h
  have:∃k,k<N∧k<B∧¬p k:=by
   rcases hB with hB|hB
   ·apply Classical.byContradiction
    intro hc
    exact h fun k hk=>Classical.byContradiction fun hp=>hc ⟨k,hk,by omega,hp⟩
   ·exact hB
  obtain⟨k,h1,h2,h3⟩:=this
  exact bads k 0 fuel x hI (by omega) (by omega) (by rw[Nat.zero_add];exact h3) (by omega)
theorem MC {ps:d_} (hn:ps.length<=30) {v:Nat} (hv:v<ps.length):(at' ps (v:Int)).length<1000∨∃k,k<(at' ps (v:Int)).length∧k<1000∧¬DI (at' ps (v:Int)) v ps.length k:=by
 by_cases h:(at' ps (v:Int)).length<1000
 ·exact .inl h
 ·right
  apply Classical.byContradiction
  intro hc
  have hok:∀k,k<40->DI (at' ps (v:Int)) v ps.length k:=fun k hk=>Classical.byContradiction fun hp=>hc ⟨k,by omega,by omega,hp⟩
  have:=Hf ps.length (fun i=>(iI (at' ps (v:Int)) i).1.toNat) 40 (fun i hi=>by have:=(hok i hi).1;omega) (fun i j hij hj he=>by
   have h1:=(hok i (by omega)).1
   have h2:=(hok j hj).1
   have h3:=(hok j hj).2.2.2 i hij
   exact h3 (by omega))
  omega
theorem AM (ps:d_) (hn:ps.length<=30):(Fw ps->eJ 1000 ps=some true)∧(¬Fw ps->eJ 1000 ps=some false):=by
 unfold eJ
 have inner:∀(v:Nat) (m:List ((Int×Int)×Int)) ag,v<ps.length->(∀z,z∈m↔HF ps v 0 z)->
   (pI (at' ps (v:Int)) v ps.length->∃m',(∀z,z∈m'↔HF ps (v+1) 0 z)∧bU (bV ps ((v:Int),m) ag) 1000 ((0:Int),m)=ag ((v:Int)+1,m'))∧
   (¬pI (at' ps (v:Int)) v ps.length->bU (bV ps ((v:Int),m) ag) 1000 ((0:Int),m)=some false):=by
  intro v m ag hv hm
  have hbnd:=MC hn hv
  have key:=On (step:=bV ps ((v:Int),m) ag) (K:=fun x=>ag ((v:Int)+1,x.2)) (bad:=false) (at' ps (v:Int)).length (DI (at' ps (v:Int)) v ps.length) (fun i x=>x.1=(i:Int)∧∀z,z∈x.2↔HF ps v i z) 1000 ?_ ?_ ?_ 1000 ((0:Int),m) ⟨rfl,hm⟩ (by omega) hbnd
  ·refine⟨fun h=> ?_,fun h=>key.2 h⟩
   obtain⟨x,⟨hx1,hx2⟩,hx⟩:=key.1 h
   refine⟨x.2,fun z=>(hx2 z).trans ⟨?_,?_⟩,hx⟩
   ·rintro⟨a,b,h1,h2,h3⟩;exact⟨a,b,by omega,h2,h3⟩
   ·rintro⟨a,b,h1,h2,h3⟩
    refine⟨a,b,?_,h2,h3⟩
    by_cases ha:a=v
    ·subst ha;exact .inr ⟨rfl,h2⟩
    ·omega
  ·rintro i ⟨x1,x2⟩ ag2 hi hi2 ⟨hx,hs⟩ ⟨p1,p2,p3,p4⟩
   dsimp only at hx hs
   subst hx
   have hg:jE (((v:Int),(iI (at' ps (v:Int)) i).1)) x2=none:=by
    apply Co
    intro w hw
    obtain⟨a,b,h1,h2,h3⟩:=(hs _).1 hw
    simp only[Prod.mk.injEq]at h3
    obtain⟨⟨h4,h5⟩,_⟩:=h3
    have:a=v:=by omega
    subst this
    have hb:b<i:=by omega
    exact p4 b hb h5.symm
   refine⟨((i:Int)+1,xG (((v:Int),(iI (at' ps (v:Int)) i).1)) (iI (at' ps (v:Int)) i).2 x2),⟨by simp,fun z=> ?_⟩,?_⟩
   ·dsimp only
    rw[Ii hg,hs]
    constructor
    ·rintro(rfl|⟨a,b,h1,h2,h3⟩)
     ·exact⟨v,i,.inr ⟨rfl,by omega⟩,hi,rfl⟩
     ·exact⟨a,b,by omega,h2,h3⟩
    ·rintro⟨a,b,h1,h2,h3⟩
     by_cases hab:a=v∧b=i
     ·left;rw[h3,hab.1,hab.2]
     ·right;exact⟨a,b,by omega,h2,h3⟩
   ·replace p1:0<=(at' (at' ps (v:Int)) (i:Int)).1∧(at' (at' ps (v:Int)) (i:Int)).1<=(ps.length:Int) - 1:=p1
    replace p3:1<=(at' (at' ps (v:Int)) (i:Int)).2∧(at' (at' ps (v:Int)) (i:Int)).2<=15:=p3
    unfold bV eP fR
    dsimp only
    rw[if_pos (by omega),eM (by omega),if_neg (by omega),if_neg (by omega),if_neg (by rw[decide_eq_false p2];simp),if_neg (by omega),if_neg (by rw[decide_eq_false (by omega)];simp),hg,if_neg (by simp),wr (by omega) (by omega)]
  ·rintro i ⟨x1,x2⟩ ag2 hi hi2 ⟨hx,hs⟩ hp
   dsimp only at hx hs
   subst hx
   unfold bV eP fR
   dsimp only
   rw[if_pos (by omega),eM (by omega)]
   by_cases h1:(iI (at' ps (v:Int)) i).1<0
   ·rw[if_pos h1,if_pos rfl]
   rw[if_neg h1]
   by_cases h2:(ps.length:Int)<=(iI (at' ps (v:Int)) i).1
   ·rw[if_pos h2,if_pos rfl]
   rw[if_neg h2]
   by_cases h3:(iI (at' ps (v:Int)) i).1=v
   ·rw[if_pos (decide_eq_true h3)]
   rw[if_neg (by rw[decide_eq_false h3];simp)]
   by_cases h4:(iI (at' ps (v:Int)) i).2<1
   ·rw[if_pos h4,if_pos rfl]
   rw[if_neg h4]
   by_cases h5:15<(iI (at' ps (v:Int)) i).2
   ·rw[if_pos (decide_eq_true h5)]
   rw[if_neg (by rw[decide_eq_false h5];simp)]
   have:∃k,k<i∧(iI (at' ps (v:Int)) k).1=(iI (at' ps (v:Int)) i).1:=by
    apply Classical.byContradiction
    intro hc
    exact hp ⟨by omega,h3,by omega,fun k hk he=>hc ⟨k,hk,he⟩⟩
   obtain⟨k,hk,he⟩:=this
   have hin:=(hs _).2 ⟨v,k,.inr ⟨rfl,hk⟩,by omega,rfl⟩
   rw[if_pos]
   rw[<-he]
   cases hg:jE (((v:Int),(iI (at' ps (v:Int)) k).1)) x2 with
   |some w=>rfl
   | none => exact absurd hin (by
     intro hin
     exact pB hg hin)
  ·rintro⟨x1,x2⟩ ag2 ⟨hx,hs⟩ _
   dsimp only at hx hs
   subst hx
   unfold bV jL
   dsimp only
   rw[if_neg (by omega),wr (by omega) (by omega)]
 have outer:=Bz (step:=cB 1000 ps) (K:=fun x=>fQ x.2) (bad:=false) ps.length (fun v=>pI (at' ps (v:Int)) v ps.length) (fun v x=>x.1=(v:Int)∧∀z,z∈x.2↔HF ps v 0 z) ?_ ?_ ?_ 1000 ((0:Int),[]) ⟨rfl,fun z=>⟨fun h=>(by cases h),fun⟨a,b,h1,_⟩=>(by omega)⟩⟩ (by omega)
 rotate_left
 ·rintro v ⟨x1,x2⟩ ag hv ⟨hx,hs⟩ hp
  dsimp only at hx hs
  subst hx
  obtain⟨m',h1,h2⟩:=(inner v x2 ag hv hs).1 hp
  refine⟨((v:Int)+1,m'),⟨by simp,h1⟩,?_⟩
  ·unfold cB
   dsimp only
   rw[if_pos (by omega),eM (by omega)]
   exact h2
 ·rintro v ⟨x1,x2⟩ ag hv ⟨hx,hs⟩ hp
  dsimp only at hx hs
  subst hx
  unfold cB
  dsimp only
  rw[if_pos (by omega),eM (by omega)]
  exact(inner v x2 ag hv hs).2 hp
 ·rintro⟨x1,x2⟩ ag ⟨hx,hs⟩
  dsimp only at hx hs
  subst hx
  unfold cB
  dsimp only
  rw[if_neg (by omega)]
 by_cases hL:∀v,v<ps.length->pI (at' ps (v:Int)) v ps.length
 rotate_left
 ·exact⟨fun h=>absurd h.1 hL,fun _=>outer.2 hL⟩
 obtain⟨⟨x1,x2⟩,⟨hx,hs⟩,he⟩:=outer.1 hL
 rw[he]
 dsimp only at hs ⊢
 have hk:fQ x2=some (decide (∀z∈x2,¬(Option.getD (jE (z.1.2,z.1.1) x2) (0:Int))≠z.2)):=Et (fun z:(Int×Int)×Int=>(Option.getD (jE (z.1.2,z.1.1) x2) (0:Int))≠z.2) x2
 rw[hk]
 have hiff:(∀z∈x2,¬(Option.getD (jE (z.1.2,z.1.1) x2) (0:Int))≠z.2)↔∀v,v<ps.length->∀i,i<(at' ps (v:Int)).length->Fv ([],ps) v i:=by
  constructor
  ·intro h v hv i hi
   have hw:=(hL v hv i hi).2.2.1
   have hin:=(hs (((v:Int),(iI (at' ps (v:Int)) i).1),(iI (at' ps (v:Int)) i).2)).2 ⟨v,i,.inl hv,hi,rfl⟩
   have h2:=Decidable.not_not.1 (h _ hin)
   dsimp only at h2
   cases hg:jE ((iI (at' ps (v:Int)) i).1,(v:Int)) x2 with
   |none=>rw[hg]at h2;simp only[Option.getD]at h2;omega
   | some w =>
    rw[hg]at h2;simp only[Option.getD]at h2
    obtain⟨a,b,h3,h4,h5⟩:=(hs _).1 (wG hg)
    simp only[Prod.mk.injEq]at h5
    obtain⟨⟨h6,h7⟩,h8⟩:=h5
    refine⟨b,?_,?_,?_⟩
    ·show b<(at' ps (iI (at' ps (v:Int)) i).1).length
     rw[h6];exact h4
    ·show(iI (at' ps (iI (at' ps (v:Int)) i).1) b).1=v
     rw[h6];exact h7.symm
    ·show(iI (at' ps (iI (at' ps (v:Int)) i).1) b).2=(iI (at' ps (v:Int)) i).2
     rw[h6,<-h8];exact h2
  ·intro h z hz hne
   obtain⟨a,b,h3,h4,rfl⟩:=(hs z).1 hz
   have ha:a<ps.length:=by omega
   apply hne
   obtain⟨j,hj1,hj2,hj3⟩:=h a ha b h4
   have hu:=(hL a ha b h4).1
   obtain⟨u,hu'⟩:∃u:Nat,(iI (at' ps (a:Int)) b).1=u:=⟨(iI (at' ps (a:Int)) b).1.toNat,by omega⟩
   replace hj1:j<(at' ps (iI (at' ps (a:Int)) b).1).length:=hj1
   replace hj2:(iI (at' ps (iI (at' ps (a:Int)) b).1) j).1=a:=hj2
   replace hj3:(iI (at' ps (iI (at' ps (a:Int)) b).1) j).2=(iI (at' ps (a:Int)) b).2:=hj3
   rw[hu']at hj1 hj2 hj3
   have hun:u<ps.length:=by omega
   dsimp only
   rw[hu',<-hj3]
   have hin:=(hs (((u:Int),(iI (at' ps (u:Int)) j).1),(iI (at' ps (u:Int)) j).2)).2 ⟨u,j,.inl hun,hj1,rfl⟩
   rw[hj2]at hin
   cases hg:jE ((u:Int),(a:Int)) x2 with
   |none=>exact absurd hin (pB hg)
   | some w =>
    obtain⟨a',b',h3',h4',h5⟩:=(hs _).1 (wG hg)
    simp only[Prod.mk.injEq]at h5
    obtain⟨⟨h6,h7⟩,h8⟩:=h5
    have:a'=u:=by omega
    subst this
    have hbj:b'=j:=by
     rcases Nat.lt_trichotomy b' j with hl|hl|hl
     ·exact absurd (h7.symm.trans hj2.symm) ((hL a' hun j hj1).2.2.2 b' hl)
     ·exact hl
     ·exact absurd (hj2.trans h7) ((hL a' hun b' h4').2.2.2 j hl)
    subst hbj
    exact h8
 by_cases hS:∀v,v<ps.length->∀i,i<(at' ps (v:Int)).length->Fv ([],ps) v i
 ·rw[decide_eq_true (hiff.2 hS)]
  exact⟨fun _=>rfl,fun h=>absurd ⟨hL,hS⟩ h⟩
 ·rw[decide_eq_false (fun h=>hS (hiff.1 h))]
  exact⟨fun h=>absurd h.2 hS,fun _=>rfl⟩
theorem MM (g:GR):(VG g->iB 1000 g=some true)∧(¬VG g->iB 1000 g=some false):=by
 unfold iB lQ lR
 by_cases h1:g.1.length<1
 ·rw[if_pos (by omega)]
  exact⟨fun h=>by have:=h.n1;have:=h.len;omega,fun _=>rfl⟩
 rw[if_neg (by omega)]
 by_cases h2:24<g.1.length
 ·rw[if_pos (by omega)]
  exact⟨fun h=>by have:=h.n24;have:=h.len;omega,fun _=>rfl⟩
 rw[if_neg (by omega)]
 by_cases h3:g.1.length=g.2.length
 rotate_left
 ·rw[decide_eq_true (by omega)]
  exact⟨fun h=>absurd h.len h3,fun _=>rfl⟩
 rw[decide_eq_false (by omega),if_neg (by simp)]
 by_cases h4:∀k,k<g.1.length->MX g.1 k
 rotate_left
 ·rw[(pJ g.1 (by omega)).2 h4,bE rfl]
  exact⟨fun h=>absurd (fun k hk=>⟨(h.node k (by omega)).id,(h.node k (by omega)).ids⟩) h4,fun _=>rfl⟩
 rw[(pJ g.1 (by omega)).1 h4,bE rfl,if_pos rfl]
 by_cases h5:Fw g.2
 ·rw[(AM g.2 (by omega)).1 h5]
  exact⟨fun _=>rfl,fun h=>absurd ⟨by omega,by omega,h3,fun v hv=>⟨(h4 v (by omega)).1,JK hv (h5.1 v hv),h5.1 v hv,(h4 v (by omega)).2⟩,h5.2⟩ h⟩
 ·rw[(AM g.2 (by omega)).2 h5]
  exact⟨fun h=>absurd ⟨fun v hv=>(h.node v hv).links,h.sym⟩ h5,fun _=>rfl⟩
end
section
abbrev Js:=wM
theorem jG (v m:Int) (h1:1<=m) (h2:m<=4611686018427387904):dC 1000 v m=some (v%m):=by
 unfold dC mO
 rw[if_neg (by omega),eM (by omega)]
 have hm:=Int.tmod_eq_emod (a:=v) (b:=m)
 have h0:=Int.emod_nonneg v (show m≠0 by omega)
 have h3:=Int.emod_lt_of_pos v (show 0<m by omega)
 by_cases hc:0<=v∨m∣v
 ·rw[if_pos hc]at hm
  have hm':v.tmod m=v%m:=by simpa using hm
  rw[hm',if_neg (by omega)]
 ·rw[if_neg hc]at hm
  have:(m.natAbs:Int)=m:=by omega
  rw[hm,if_pos (by omega),wr (by omega) (by omega)]
  congr 1;omega
theorem HS (l:bM) (i:Int) (h:0<=i):nO 1000 l i=some (at' l i):=by
 unfold nO
 by_cases hi:i<(l.length:Int)
 ·rw[if_pos hi,eM ⟨h,hi⟩]
 ·rw[if_neg hi]
  unfold at'
  rw[List.getD_eq_getElem?_getD,List.getElem?_eq_none (by omega)];rfl
theorem Iu {α:Type} [DecidableEq α]:∀(l1 l2:List α),l1.Nodup->(∀x∈l1,x∈l2)->l1.length<=l2.length
 | [],_,_,_=>Nat.zero_le _
 | a :: t, l2, hn, hs => by
  have hn':=List.nodup_cons.1 hn
  have ha:=hs a (List.mem_cons_self ..)
  have:=Iu t (l2.erase a) hn'.2 fun x hx=>by
   have hne:x≠a:=fun he=>hn'.1 (he▸hx)
   exact(List.mem_erase_of_ne hne).2 (hs x (List.mem_cons_of_mem _ hx))
  rw[List.length_erase_of_mem ha]at this
  have hpos:0<l2.length:=List.length_pos_of_mem ha
  simp only[List.length_cons]
  omega
theorem PK (id0:Int) (ids:bM) (t:Nat) (ht:t<=200) (h:∀s,s<t->(id0+(s:Int))%256∈ids):t<=ids.length:=by
 have:=Iu ((List.range t).map fun s:Nat=>(id0+(s:Int))%256) ids (by
  rw[List.nodup_iff_pairwise_ne,List.pairwise_map]
  refine List.Pairwise.imp_of_mem ?_ List.pairwise_lt_range
  intro a b ha hb hab
  rw[List.mem_range]at ha hb
  omega) (fun x hx=>by
  obtain⟨s,hs,rfl⟩:=List.mem_map.1 hx
  exact h s (List.mem_range.1 hs))
 simpa using this
structure Dz (ids:bM):Prop where
 rng:∀y∈ids,0<=y∧y<=255
 nd:ids.Nodup
theorem Dz.snoc {ids:bM} {y:Int} (h:Dz ids) (hy:0<=y∧y<=255) (hn:y∉ids):Dz (ids++[y]):=by
 refine⟨fun z hz=> ?_,?_⟩
 ·rcases List.mem_append.1 hz with hz|hz
  ·exact h.rng z hz
  ·rw[List.mem_singleton.1 hz];exact hy
 ·rw[List.nodup_append]
  refine⟨h.nd,by simp,?_⟩
  intro a ha b hb
  rw[List.mem_singleton.1 hb]
  exact fun he=>hn (he▸ha)
theorem wF {α:Type} [Inhabited α] {l:List α} {i:Nat} (h:i<l.length):at' l (i:Int)∈l:=by
 rw[iP,List.getD_eq_getElem?_getD,List.getElem?_eq_getElem h]
 exact List.getElem_mem h
theorem B_ {α:Type} [Inhabited α] {l:List α} {x:α} (h:x∈l):∃i,i<l.length∧at' l ((i:Nat):Int)=x:=by
 obtain⟨i,hi,he⟩:=List.getElem_of_mem h
 refine⟨i,hi,?_⟩
 rw[iP,List.getD_eq_getElem?_getD,List.getElem?_eq_getElem hi]
 exact he
theorem Of {Q:List Int×d_->Prop} {ids:bM} (hl:ids.length<=24) (id0:Int) (ag:Int×bM->Option (List Int×d_))
  (hag:∀y,0<=y->y<=255->y∉ids->OK Q (ag ((ids.length:Int)+1,ids++[y]))):OK Q (bU (iF ((ids.length:Int),ids) ag) 1000 (id0%256,0)):=by
 refine Dq (fun s:fO=>∃(t u:Nat),s.1=(id0+(t:Int))%256∧s.2=u∧u<=ids.length∧t<=ids.length∧(∀k,k<t->(id0+(k:Int))%256∈ids)∧∀j,j<u->at' ids (j:Int)≠s.1)
  (fun s=>(ids.length - ((s.1 - id0)%256).toNat)*30+(ids.length - s.2.toNat)) ?_ 1000 _ ⟨0,0,by simp,rfl,by omega,by omega,fun k hk=>by omega,fun j hj=>by omega⟩ ?_
 ·rintro⟨i,j⟩ ag' ⟨t,u,h1,h2,h3,h4,h5,h6⟩ hrec
  dsimp only at h1 h2 h6
  subst h2
  unfold iF nJ iD
  dsimp only
  by_cases hu:(u:Int)<(ids.length:Int)
  ·rw[if_pos hu,eM (by omega)]
   by_cases he:at' ids (u:Int)=i
   ·rw[if_pos he,eM (by decide)]
    have hin:(id0+(t:Int))%256∈ids:=by rw[<-h1,<-he];exact wF (by omega)
    have hall:∀k,k<t+1->(id0+(k:Int))%256∈ids:=fun k hk=>by
     rcases Nat.lt_succ_iff_lt_or_eq.1 hk with h|h
     ·exact h5 k h
     ·subst h;exact hin
    have ht:=PK id0 ids (t+1) (by omega) hall
    have hi:0<=i∧i<=255:=by omega
    rw[wr (by omega) (by omega),Int.tmod_eq_emod_of_nonneg (by omega),wr (by omega) (by omega)]
    refine hrec _ ⟨t+1,0,?_,by simp,by omega,ht,hall,fun j hj=>by omega⟩ ?_
    ·dsimp only;omega
    ·dsimp only
     have e1:((i+1)%256 - id0)%256=(t:Int)+1:=by omega
     have e2:(i - id0)%256=(t:Int):=by omega
     rw[e1,e2];omega
   ·rw[if_neg he,wr (by omega) (by omega)]
    refine hrec _ ⟨t,u+1,h1,by dsimp only;omega,by omega,h4,h5,fun j hj=> ?_⟩ ?_
    ·rcases Nat.lt_succ_iff_lt_or_eq.1 hj with h|h
     ·exact h6 j h
     ·subst h;exact he
    ·dsimp only;omega
  ·rw[if_neg hu]
   rw[eM (by simp;omega),wr (by omega) (by omega)]
   refine hag i (by omega) (by omega) fun hm=> ?_
   obtain⟨k,hk,hke⟩:=B_ hm
   exact h6 k (by omega) hke
 ·dsimp only
  have e:(id0%256 - id0)%256=0:=by omega
  rw[e];omega
theorem Is (x:Js) (most:Nat) (h1:1<=most) (h24:most<=24):OK (fun g:GR=>Dz g.1∧g.2=List.replicate g.1.length []∧1<=g.1.length∧g.1.length<=most) (iZ 1000 x (most:Int)):=by
 unfold iZ
 rw[bE (jG _ _ (by omega) (by omega))]
 generalize hr:(wI .i64 (x.1 - 1))%(most:Int)=r
 have hr0:0<=r:=by rw[<-hr];exact Int.emod_nonneg _ (by omega)
 have hr1:r<most:=by rw[<-hr];exact Int.emod_lt_of_pos _ (by omega)
 have hw:wI .i64 (1+r)=1+r:=wr (by omega) (by omega)
 rw[hw,eM (by omega)]
 refine Dq (fun s:Int×bM=>s.1=(s.2.length:Int)∧(s.2.length:Int)<=1+r∧Dz s.2) (fun s=>(1+r - s.1).toNat) ?_ 1000 _ ⟨rfl,by simp;omega,⟨fun y hy=>by simp at hy,List.nodup_nil⟩⟩ (by dsimp only;omega)
 rintro⟨v,ids⟩ ag ⟨ha,hb,hc⟩ hrec
 dsimp only at ha hb hc
 subst ha
 unfold fS kP
 dsimp only
 rw[hw]
 by_cases hv:(ids.length:Int)<1+r
 ·rw[if_pos hv,bE (HS _ _ (by omega)),bE (jG _ _ (by decide) (by decide))]
  exact Of (by omega) _ ag fun y y0 y1 y2=>hrec _ ⟨by simp,by simp;omega,hc.snoc ⟨y0,y1⟩ y2⟩ (by dsimp only;omega)
 ·rw[if_neg hv]
  refine⟨_,rfl,hc,?_,by dsimp only;omega,by dsimp only;omega⟩
  dsimp only
  congr 1;omega
structure VM (ids:bM) (P:d_):Prop where
 n1:1<=P.length
 n24:P.length<=24
 len:ids.length=P.length
 ok:Dz ids
 nd:∀v:Nat,v<P.length->((at' P (v:Int)).map Prod.fst).Nodup
 lk:∀v:Nat,v<P.length->∀x∈at' P (v:Int),(0<=x.1∧x.1<=(P.length:Int) - 1)∧x.1≠(v:Int)∧(1<=x.2∧x.2<=15)∧((v:Int),x.2)∈at' P x.1
theorem OQ {α:Type} [Inhabited α] {l:List α} (h:l.Nodup) {i j:Nat} (hi:i<l.length) (hj:j<l.length) (hij:i<j):at' l (i:Int)≠at' l (j:Int):=by
 rw[iP,iP,List.getD_eq_getElem?_getD,List.getD_eq_getElem?_getD,List.getElem?_eq_getElem hi,List.getElem?_eq_getElem hj]
 exact List.pairwise_iff_getElem.1 (List.nodup_iff_pairwise_ne.1 h) i j hi hj hij
theorem VM.vg {ids:bM} {P:d_} (h:VM ids P):VG (ids,P):=by
 have hlen:=h.len
 have links:∀v,v<P.length->pI (row (ids,P) v) v P.length:=by
  intro v hv i hi
  have hm:iI (row (ids,P) v) i∈at' P (v:Int):=wF hi
  obtain⟨a1,a2,a3,_⟩:=h.lk v hv _ hm
  refine⟨a1,a2,a3,fun k hk=> ?_⟩
  have hk2:k<(row (ids,P) v).length:=by omega
  have:=List.pairwise_iff_getElem.1 (List.nodup_iff_pairwise_ne.1 (h.nd v hv)) k i (by simpa using hk2) (by simpa using hi) hk
  rw[List.getElem_map,List.getElem_map]at this
  have e:∀j (hj:j<(row (ids,P) v).length),iI (row (ids,P) v) j=(at' P (v:Int))[j]'hj:=fun j hj=>by
   unfold iI
   rw[iP,List.getD_eq_getElem?_getD,List.getElem?_eq_getElem hj];rfl
  rw[e k hk2,e i hi]
  exact this
 refine⟨h.n1,h.n24,h.len,fun v hv=>⟨?_,JK hv (links v hv),links v hv,fun k hk=> ?_⟩,fun v hv i hi=> ?_⟩
 ·exact h.ok.rng _ (wF (by dsimp only at hv ⊢;omega))
 ·exact OQ h.ok.nd (by dsimp only at hv ⊢;omega) (by dsimp only at hv ⊢;omega) hk
 ·have hm:iI (row (ids,P) v) i∈at' P (v:Int):=wF hi
  obtain⟨_,_,_,a4⟩:=h.lk v hv _ hm
  obtain⟨j,hj,he⟩:=B_ a4
  exact⟨j,hj,by unfold iI;rw[he],by unfold iI;rw[he]⟩
theorem VM.start {ids:bM} (h:Dz ids) (h1:1<=ids.length) (h24:ids.length<=24):VM ids (List.replicate ids.length []):=by
 have e:∀v:Nat,at' (List.replicate ids.length ([]:eC)) (v:Int)=[]:=fun v=>by
  rw[iP,List.getD_eq_getElem?_getD,List.getElem?_replicate]
  split<;>rfl
 refine⟨by simpa using h1,by simpa using h24,by simp,h,fun v _=>by rw[e];exact List.nodup_nil,fun v _ x hx=> ?_⟩
 rw[e]at hx
 cases hx
def kC (P:d_) (v u:Nat):Prop:=∃x∈at' P (v:Int),x.1=(u:Int)
theorem FV (ids:bM) (P:d_) (a b:Nat) (ha:a<P.length) (hl:(at' P (a:Int)).length<=900):(kC P a b->jR 1000 (ids,P) a b=some true)∧(¬kC P a b->jR 1000 (ids,P) a b=some false):=by
 have step:∀(r:Bool),(r=true->kC P a b)->(r=false->¬kC P a b)->jR 1000 (ids,P) a b=some r:=by
  intro r ht hf
  unfold jR
  refine Dp (fun i:Int=>∃k:Nat,i=k∧k<=(at' P (a:Int)).length∧∀j,j<k->(at' (at' P (a:Int)) ((j:Nat):Int)).1≠(b:Int)) (fun i=>(at' P (a:Int)).length - i.toNat) ?_ 1000 0 ⟨0,rfl,by omega,fun j hj=>by omega⟩ (by omega)
  rintro i ag ⟨k,rfl,hk,hno⟩ hrec
  unfold sW pX
  dsimp only
  rw[eM (by omega)]
  by_cases hi:(k:Int)<((at' P (a:Int)).length:Int)
  ·rw[if_pos hi,eM (by omega),eM (by omega)]
   by_cases he:(at' (at' P (a:Int)) (k:Int)).1=(b:Int)
   ·rw[if_pos he]
    cases r with
    |true=>rfl
    |false=>exact absurd ⟨_,wF (by omega),he⟩ (hf rfl)
   ·rw[if_neg he,wr (by omega) (by omega)]
    refine hrec _ ⟨k+1,by omega,by omega,fun j hj=> ?_⟩ (by omega)
    rcases Nat.lt_succ_iff_lt_or_eq.1 hj with h|h
    ·exact hno j h
    ·subst h;exact he
  ·rw[if_neg hi]
   cases r with
   |false=>rfl
   |true=>
    obtain⟨x,hx,he⟩:=ht rfl
    obtain⟨j,hj,hje⟩:=B_ hx
    exact absurd (by rw[hje];exact he) (hno j (by omega))
 exact⟨fun h=>step true (fun _=>h) (fun hc=>by cases hc),fun h=>step false (fun hc=>by cases hc) (fun _=>h)⟩
theorem QI (P:d_) (a b:Nat) (x y:eC) (ha:a<P.length) (hb:b<P.length) (v:Nat):at' ((P.set a x).set b y) (v:Int)=if v=b then y else if v=a then x else at' P (v:Int):=by
 rw[iP,iP,List.getD_eq_getElem?_getD,List.getD_eq_getElem?_getD,List.getElem?_set,List.getElem?_set]
 by_cases h:v=b
 ·subst h;rw[if_pos rfl,if_pos rfl,if_pos (by simpa using hb)];rfl
 ·rw[if_neg (fun hc=>h hc.symm),if_neg h]
  by_cases h2:v=a
  ·subst h2;rw[if_pos rfl,if_pos rfl,if_pos ha];rfl
  ·rw[if_neg (fun hc=>h2 hc.symm),if_neg h2]
theorem VM.add {ids:bM} {P:d_} (h:VM ids P) {a b:Nat} {w:Int} (ha:a<P.length) (hb:b<P.length) (hab:a≠b) (hn:¬kC P a b) (hw:1<=w∧w<=15)
  {x y:eC} (hx:x.Perm (((b:Int),w)::at' P (a:Int))) (hy:y.Perm (((a:Int),w)::at' P (b:Int))):
  VM ids ((P.set a x).set b y)∧(∀v u,kC P v u->kC ((P.set a x).set b y) v u)∧kC ((P.set a x).set b y) a b:=by
 have hn2:¬kC P b a:=by
  rintro⟨z,hz,he⟩
  obtain⟨_,_,_,hb4⟩:=h.lk b hb z hz
  rw[he]at hb4
  exact hn ⟨_,hb4,rfl⟩
 have hr:=QI P a b x y ha hb
 have hL:((P.set a x).set b y).length=P.length:=by simp
 have mem:∀(v:Nat) (z:fO),z∈at' ((P.set a x).set b y) (v:Int)↔z∈at' P (v:Int)∨(v=b∧z=((a:Int),w))∨(v=a∧z=((b:Int),w)):=by
  intro v z
  rw[hr v]
  by_cases h1:v=b
  ·subst h1
   rw[if_pos rfl,hy.mem_iff,List.mem_cons]
   constructor
   ·rintro(h2|h2)
    ·exact .inr (.inl ⟨rfl,h2⟩)
    ·exact .inl h2
   ·rintro(h2|⟨_,h2⟩|⟨h3,_⟩)
    ·exact .inr h2
    ·exact .inl h2
    ·exact absurd h3.symm hab
  ·rw[if_neg h1]
   by_cases h2:v=a
   ·subst h2
    rw[if_pos rfl,hx.mem_iff,List.mem_cons]
    constructor
    ·rintro(h3|h3)
     ·exact .inr (.inr ⟨rfl,h3⟩)
     ·exact .inl h3
    ·rintro(h3|⟨h4,_⟩|⟨_,h3⟩)
     ·exact .inr h3
     ·exact absurd h4 h1
     ·exact .inl h3
   ·rw[if_neg h2]
    exact⟨.inl,fun h3=>h3.elim id fun h4=>h4.elim (fun h5=>absurd h5.1 h1) fun h5=>absurd h5.1 h2⟩
 refine⟨⟨by rw[hL];exact h.n1,by rw[hL];exact h.n24,by rw[hL];exact h.len,h.ok,fun v hv=> ?_,fun v hv z hz=> ?_⟩,fun v u hvu=> ?_,?_⟩
 ·rw[hL]at hv
  rw[hr v]
  by_cases h1:v=b
  ·subst h1
   rw[if_pos rfl,(hy.map Prod.fst).nodup_iff,List.map_cons,List.nodup_cons]
   exact⟨fun hc=>by obtain⟨z,hz,he⟩:=List.mem_map.1 hc;exact hn2 ⟨z,hz,he⟩,h.nd v hv⟩
  ·rw[if_neg h1]
   by_cases h2:v=a
   ·subst h2
    rw[if_pos rfl,(hx.map Prod.fst).nodup_iff,List.map_cons,List.nodup_cons]
    exact⟨fun hc=>by obtain⟨z,hz,he⟩:=List.mem_map.1 hc;exact hn ⟨z,hz,he⟩,h.nd v hv⟩
   ·rw[if_neg h2];exact h.nd v hv
 ·rw[hL]at hv ⊢
  rcases(mem v z).1 hz with h1|⟨rfl,rfl⟩|⟨rfl,rfl⟩
  ·obtain⟨b1,b2,b3,b4⟩:=h.lk v hv z h1
   refine⟨b1,b2,b3,?_⟩
   obtain⟨u,hu⟩:∃u:Nat,z.1=u:=⟨z.1.toNat,by omega⟩
   rw[hu]at b4 ⊢
   exact(mem u _).2 (.inl b4)
  ·exact⟨by dsimp only;omega,by dsimp only;omega,hw,(mem a _).2 (.inr (.inr ⟨rfl,rfl⟩))⟩
  ·exact⟨by dsimp only;omega,by dsimp only;omega,hw,(mem b _).2 (.inr (.inl ⟨rfl,rfl⟩))⟩
 ·obtain⟨z,hz,he⟩:=hvu
  exact⟨z,(mem v z).2 (.inl hz),he⟩
 ·exact⟨_,(mem a _).2 (.inr (.inr ⟨rfl,rfl⟩)),rfl⟩
theorem K_ (x:Js) {ids:bM} {P:d_} (h:VM ids P) {a b:Nat} {w:Int} (ha:a<P.length) (hb:b<P.length) (hw:1<=w∧w<=15):
  ∃P',jN 1000 x (ids,P) a b w=some P'∧VM ids P'∧P'.length=P.length∧(∀v u,kC P v u->kC P' v u)∧(a≠b->kC P' a b):=by
 have h24:=h.n24
 have dg:∀v:Nat,v<P.length->(at' P (v:Int)).length<24:=fun v hv=>by
  have:=(h.vg.node v hv).deg
  have e:(at' P (v:Int)).length=(row (ids,P) v).length:=rfl
  dsimp only at this
  omega
 have da:=dg a ha
 have db:=dg b hb
 unfold jN
 by_cases hab:a=b
 ·subst hab
  rw[if_pos rfl]
  exact⟨P,rfl,h,rfl,fun _ _ h=>h,fun hc=>absurd rfl hc⟩
 rw[if_neg (by omega)]
 by_cases hn:kC P a b
 ·rw[bE ((FV ids P a b ha (by omega)).1 hn)]
  exact⟨P,rfl,h,rfl,fun _ _ h=>h,fun _=>hn⟩
 rw[bE ((FV ids P a b ha (by omega)).2 hn)]
 unfold lF
 rw[if_neg (by simp)]
 dsimp only
 cases hbk:x.2.2.2.2.2 with
 | true =>
  rw[if_pos rfl]
  have e:at' (P.set (Int.toNat (a:Int)) ([((b:Int),w)]++at' P (a:Int))) (b:Int)=at' P (b:Int):=by
   rw[iP,List.getD_eq_getElem?_getD,List.getElem?_set,if_neg (by simpa using hab),iP,List.getD_eq_getElem?_getD]
  rw[e]
  rw[eM (by omega),eM (by simp;omega),eM (by omega),eM (by simp;omega),eM (by simp;omega),eM (by simp;omega)]
  obtain⟨h1,h2,h3⟩:=h.add ha hb hab hn hw (List.Perm.refl _) (List.Perm.refl _)
  exact⟨_,rfl,h1,by simp,h2,fun _=>h3⟩
 |false=>
  rw[if_neg (by simp)]
  rw[eM (by omega),eM (by omega),eM (by simp;omega),eM (by simp;omega),eM (by simpa using hab),eM (by simp;omega),eM (by simp;omega)]
  obtain⟨h1,h2,h3⟩:=h.add ha hb hab hn hw (x:=at' P (a:Int)++[((b:Int),w)]) (y:=at' P (b:Int)++[((a:Int),w)]) List.perm_append_comm List.perm_append_comm
  exact⟨_,rfl,h1,by simp,h2,fun _=>h3⟩
theorem Gk (v:Int):wI .i64 (1+v%15)=1+v%15∧1<=1+v%15∧1+v%15<=15:=by
 have:=Int.emod_nonneg v (show(15:Int)≠0 by decide)
 have:=Int.emod_lt_of_pos v (show(0:Int)<15 by decide)
 exact⟨wr (by omega) (by omega),by omega,by omega⟩
theorem Sw (x:Js) (most:Nat) (h1:1<=most) (h24:most<=24):
  OK (fun g:GR=>VM g.1 g.2∧g.2.length<=most∧∀v:Nat,1<=v->v<g.2.length->∃u:Nat,u<v∧kC g.2 u v) (mC 1000 x (most:Int)):=by
 unfold mC
 obtain⟨⟨ids,P0⟩,e0,hid,hP,hn1,hn2⟩:=Is x most h1 h24
 dsimp only at hP hid hn1 hn2
 rw[bE e0]
 dsimp only
 subst hP
 have hst:=VM.start hid hn1 (by omega)
 refine Dq (fun s:Int×d_=>∃k:Nat,s.1=k∧1<=k∧k<=ids.length∧VM ids s.2∧s.2.length=ids.length∧∀v:Nat,1<=v->v<k->∃u:Nat,u<v∧kC s.2 u v) (fun s=>ids.length - s.1.toNat) ?_ 1000 _ ⟨1,rfl,by omega,hn1,hst,by simp,fun v hv hv2=>by omega⟩ (by dsimp only;omega)
 rintro⟨i,P⟩ ag ⟨k,hk,hk1,hk2,hV,hL,hT⟩ hrec
 dsimp only at hk hV hL hT
 subst hk
 unfold oL lE
 dsimp only
 by_cases hi:(k:Int)<(P.length:Int)
 ·rw[if_pos hi,wr (by omega) (by omega),bE (HS _ _ (by omega)),bE (jG _ _ (by omega) (by omega)),bE (HS _ _ (by omega)),bE (jG _ _ (by decide) (by decide))]
  obtain⟨w1,w2,w3⟩:=Gk (at' x.2.2.1 ((k:Int) - 1))
  rw[w1]
  generalize hu:at' x.2.1 ((k:Int) - 1)%(k:Int)=u
  have u0:0<=u:=by rw[<-hu];exact Int.emod_nonneg _ (by omega)
  have u1:u<k:=by rw[<-hu];exact Int.emod_lt_of_pos _ (by omega)
  obtain⟨u,rfl⟩:∃n:Nat,u=n:=⟨u.toNat,by omega⟩
  obtain⟨P',e1,v1,v2,v3,v4⟩:=K_ x hV (a:=u) (b:=k) (by omega) (by omega) ⟨w2,w3⟩
  rw[bE e1,wr (by omega) (by omega)]
  refine hrec _ ⟨k+1,by dsimp only;omega,by omega,by omega,v1,by dsimp only;omega,fun v hv hv2=> ?_⟩ (by dsimp only;omega)
  by_cases hvk:v=k
  ·subst hvk;exact⟨u,by omega,v4 (by omega)⟩
  ·obtain⟨u',hu1,hu2⟩:=hT v hv (by omega)
   exact⟨u',hu1,v3 _ _ hu2⟩
 ·rw[if_neg hi]
  exact⟨_,rfl,hV,by dsimp only;omega,fun v hv hv2=>hT v hv (by dsimp only at hv2;omega)⟩
theorem Lb (x:Js) {ids:bM} {P:d_} (h:VM ids P):OK (fun g:GR=>VM g.1 g.2∧g.1=ids∧g.2.length=P.length∧∀v u,kC P v u->kC g.2 v u) (hZ 1000 x (ids,P)):=by
 unfold hZ
 have h24:=h.n24
 have hp1:=h.n1
 refine Dq (fun s:Int×d_=>∃k:Nat,s.1=k∧k<=100∧VM ids s.2∧s.2.length=P.length∧∀v u,kC P v u->kC s.2 v u) (fun s=>200 - s.1.toNat) ?_ 1000 _ ⟨P.length,rfl,by omega,h,rfl,fun _ _ h=>h⟩ (by dsimp only;omega)
 rintro⟨i,Q⟩ ag ⟨k,hk,hk2,hV,hL,hN⟩ hrec
 dsimp only at hk hV hL hN
 subst hk
 have done:∀b:Bool,b=false->OK (fun g:GR=>VM g.1 g.2∧g.1=ids∧g.2.length=P.length∧∀v u,kC P v u->kC g.2 v u) (iW 1000 x (ids,P) ((k:Int),Q) ag b):=by
  rintro b rfl
  exact⟨_,rfl,hV,rfl,hL,hN⟩
 unfold lG
 dsimp only
 rw[wr (by omega) (by omega)]
 by_cases h1:(k:Int)+1<(x.2.1.length:Int)
 rotate_left
 ·rw[if_neg h1];exact done _ rfl
 rw[if_pos h1]
 by_cases h2:(k:Int)<60
 rotate_left
 ·exact done _ (decide_eq_false h2)
 rw[decide_eq_true h2]
 unfold iW
 dsimp only
 rw[if_pos rfl,eM (by omega),bE (jG _ _ (by omega) (by omega)),wr (by omega) (by omega),eM (by omega),bE (jG _ _ (by omega) (by omega)),bE (HS _ _ (by omega)),bE (jG _ _ (by decide) (by decide))]
 obtain⟨w1,w2,w3⟩:=Gk (at' x.2.2.1 (k:Int))
 rw[w1]
 generalize hu:at' x.2.1 (k:Int)%(P.length:Int)=u
 have u0:0<=u:=by rw[<-hu];exact Int.emod_nonneg _ (by omega)
 have u1:u<P.length:=by rw[<-hu];exact Int.emod_lt_of_pos _ (by omega)
 obtain⟨u,rfl⟩:∃n:Nat,u=n:=⟨u.toNat,by omega⟩
 generalize ht:at' x.2.1 ((k:Int)+1)%(P.length:Int)=t
 have t0:0<=t:=by rw[<-ht];exact Int.emod_nonneg _ (by omega)
 have t1:t<P.length:=by rw[<-ht];exact Int.emod_lt_of_pos _ (by omega)
 obtain⟨t,rfl⟩:∃n:Nat,t=n:=⟨t.toNat,by omega⟩
 obtain⟨P',e1,v1,v2,v3,v4⟩:=K_ x hV (a:=u) (b:=t) (by omega) (by omega) ⟨w2,w3⟩
 rw[bE e1,wr (by omega) (by omega)]
 exact hrec _ ⟨k+2,by dsimp only;omega,by omega,v1,by dsimp only;omega,fun v u hvu=>v3 _ _ (hN v u hvu)⟩ (by dsimp only;omega)
theorem GG (x:Js) (most:Nat) (h1:1<=most) (h24:most<=24):
  OK (fun g:GR=>VM g.1 g.2∧g.2.length<=most∧∀v:Nat,1<=v->v<g.2.length->∃u:Nat,u<v∧kC g.2 u v) (iQ 1000 x (most:Int)):=by
 unfold iQ
 obtain⟨⟨ids,P⟩,e0,hV,hL,hT⟩:=Sw x most h1 h24
 obtain⟨⟨ids',P'⟩,e1,hV',hi,hL',hN⟩:=Lb x hV
 rw[bE e0,bE e1]
 dsimp only at hL hT hV' hi hL' hN
 refine⟨_,rfl,hV',by dsimp only;omega,fun v hv hv2=> ?_⟩
 obtain⟨u,hu,hu2⟩:=hT v hv (by dsimp only at hv2;omega)
 exact⟨u,hu,hN _ _ hu2⟩
theorem TE (x:Js) (most:Nat) (h1:1<=most) (h24:most<=24):OK (fun g:GR=>VM g.1 g.2∧g.2.length<=most) (kR 1000 x (most:Int)):=by
 unfold kR
 cases hb:x.2.2.2.2.1 with
 |false=>
  obtain⟨⟨ids,P⟩,e0,hV,hL,_⟩:=GG x most h1 h24
  rw[if_pos (by rfl)]
  rw[<-hb]at *
  rw[bE e0]
  exact⟨_,rfl,hV,hL⟩
 |true=>
  obtain⟨⟨ids,P⟩,e0,hid,hP,hn1,hn2⟩:=Is x most h1 h24
  dsimp only at hP hid hn1 hn2
  subst hP
  obtain⟨⟨ids',P'⟩,e1,hV',hi,hL',hN⟩:=Lb x (VM.start hid hn1 (by omega))
  dsimp only at hV' hi hL' hN
  rw[if_neg (by simp)]
  rw[<-hb]at *
  rw[bE e0,bE e1]
  exact⟨_,rfl,hV',by simp at hL' ⊢;omega⟩
end
end Go.Proofs.YtlciiihigmgaiaaGreat
end
section
namespace Go.Proofs.YtlciiihigmgaiaaGreat
open Go Go.Sx
section
abbrev val (c:bJ) (v x:Nat):Int:=at' (at' c (v:Int)) (x:Int)
def SJ (g:GR) (top:Int) (v:Nat) (a:Int):Prop:=if top = -1 then -1<=a∧a<=((row g v).length:Int) - 1 else 0<=a∧a<=top
instance (g:GR) (top:Int) (v:Nat) (a:Int):Decidable (SJ g top v a):=by unfold SJ;infer_instance
def gI (g:GR):Nat->Int
 |0=>0
 |k+1=>max (gI g k) (at' g.1 (k:Int))
theorem En {g:GR} (hV:VG g):∀k,k<=g.2.length->0<=gI g k∧gI g k<=255
 |0,_=>by simp[gI]
 |k+1,h=>by
  have h1:=En hV k (by omega)
  have h2:0<=at' g.1 (k:Int)∧at' g.1 (k:Int)<=255:=(hV.node k (by omega)).id
  simp only[gI];omega
abbrev AH:=zS
def vX (x:AH):Prop:=(-100000<=x.2.2.2.1∧x.2.2.2.1<=100000)∧(0<=x.2.2.2.2.1∧x.2.2.2.2.1<=100000)∧(0<=x.2.2.2.2.2∧x.2.2.2.2.2<=100000)
def lo (g:GR) (x:AH) (v:Nat):Int:=if x.2.1=2 then 0 else if x.2.1=3 then -1 else x.2.2.1
def hi (g:GR) (x:AH) (v:Nat):Int:=if x.2.1=2 then 1 else if x.2.1=3 then((row g v).length:Int) - 1 else x.2.2.2.1+x.2.2.2.2.1*(g.2.length:Int)+x.2.2.2.2.2*gI g g.1.length
structure Qj (g:GR) (c:bJ) (vars:List AH):Prop where
 len:c.length=g.2.length
 row:∀v,v<g.2.length->(at' c (v:Int)).length=vars.length
 ok:∀v,v<g.2.length->∀x,x<vars.length->lo g (at' vars (x:Int)) v<=val c v x∧val c v x<=hi g (at' vars (x:Int)) v
end
section
def Ia (a b:Nat):Nat:=(BitVec.ofInt 32 (a:Int) &&& ~~~ BitVec.ofInt 32 (b:Int)).toNat
theorem NV (a b:Nat):Ia a b<4294967296:=(BitVec.ofInt 32 (a:Int) &&& ~~~ BitVec.ofInt 32 (b:Int)).isLt
theorem TK {a i:Nat} (ha:a<4294967296) (h:a.testBit i=true):i<32:=by
 apply Classical.byContradiction
 intro hc
 rw[Nat.testBit_lt_two_pow (Nat.lt_of_lt_of_le ha (Nat.pow_le_pow_right (n:=2) (by omega) (show 32<=i by omega)))]at h
 cases h
theorem Mb {a b:Nat} (ha:a<4294967296) (hb:b<4294967296) (i:Nat):(Ia a b).testBit i=(a.testBit i && !b.testBit i):=by
 have:=BitVec.getLsbD_and (x:=BitVec.ofInt 32 (a:Int)) (y:= ~~~ BitVec.ofInt 32 (b:Int)) (i:=i)
 rw[BitVec.getLsbD_not]at this
 have h:(Ia a b).testBit i=((Nk (a:Int)).testBit i&&(decide (i<32) && !(Nk (b:Int)).testBit i)):=this
 rw[rU ha,rU hb]at h
 rw[h]
 cases hai:a.testBit i with
 |false=>simp
 |true=>simp[TK ha hai]
theorem NA (a b:Nat):Br .u32 (a:Int) (b:Int)=(Ia a b:Int):=LG _ (NV a b)
theorem KB {a b:Nat} (ha:a<4294967296) (hb:b<4294967296):uP .u32 (a:Int) (b:Int)=((a &&& b:Nat):Int):=by rw[Gz,rU ha,rU hb]
theorem XM {a b:Nat} (ha:a<4294967296) (hb:b<4294967296):TH .u32 (a:Int) (b:Int)=((a ||| b:Nat):Int):=by rw[TJ,rU ha,rU hb]
theorem DL {a b:Nat} (ha:a<4294967296):a &&& b<4294967296:=Nat.lt_of_le_of_lt Nat.and_le_left ha
theorem TI {a k:Nat} (ha:a<4294967296) (hk:k<32):TH .u32 (a:Int) (Bt .u32 1 (k:Int))=((a ||| 2^k:Nat):Int):=by rw[Vr hk,XM ha (Tf hk)]
theorem Wa {a k:Nat} (hk:k<32) (ha:a<4294967296):uP .u32 (HT .u32 (a:Int) (k:Int)) 1=0↔a.testBit k=false:=by
 have h1:Nk 1=1:=rU (a:=1) (by omega)
 rw[KC hk,Gz,rU (Nat.lt_of_le_of_lt (Nat.div_le_self _ _) ha),h1,Nat.and_one_is_mod,Nat.testBit_eq_decide_div_mod_eq,decide_eq_false_iff_not]
 omega
theorem La (p:Nat->Bool) {k:Nat} (hk:k<=32):uZ p k<4294967296:=Nat.lt_of_lt_of_le (Ih p k) (Nat.pow_le_pow_right (n:=2) (by omega) hk)
theorem RX {a b:Nat} (h:∀i,a.testBit i=b.testBit i):a=b:=Nat.eq_of_testBit_eq h
theorem VG.to {g:GR} (hV:VG g) {v i:Nat} (hv:v<g.2.length) (hi:i<(row g v).length):∃u:Nat,u<g.2.length∧(iI (row g v) i).1=(u:Int):=by
 obtain⟨u,h1,h2,_⟩:=hV.port hv hi
 exact⟨u,h1,h2⟩
end
section
def d0 (g:GR) (c:bJ) (d v:Nat):Int:=if d.testBit v=true then at' (at' c (v:Int)) 0 else if v=0 then 0 else(g.2.length:Int)
def start (g:GR) (c:bJ) (d:Nat):bM:=(List.range g.2.length).map (d0 g c d)
end
section
theorem Lr {α:Type} [Inhabited α] (l:List α) (x:α) {i:Nat} (hi:i<l.length+1):at' (l++[x]) (i:Int)=if i<l.length then at' l (i:Int)else x:=by
 rw[iP,iP]
 by_cases h:i<l.length
 ·rw[if_pos h,List.getD_eq_getElem?_getD,List.getD_eq_getElem?_getD,List.getElem?_append_left h]
 ·have:i=l.length:=by omega
  subst this
  rw[if_neg h];simp
def Nn (g:GR) (vars:List AH) (v:Nat) (l:bM):Prop:=∀x,x<l.length->lo g (at' vars (x:Int)) v<=at' l (x:Int)∧at' l (x:Int)<=hi g (at' vars (x:Int)) v
theorem FD {g:GR} (hV:VG g) (vars:List AH) (raw:bM) (ht:vars.length<=900) (hs:∀x,x<vars.length->vX (at' vars (x:Int)) ∧ -100000<=(at' vars (x:Int)).2.2.1∧(at' vars (x:Int)).2.2.1<=(at' vars (x:Int)).2.2.2.1):
  OK (fun c=>Qj g c vars) (gD 1000 g vars raw):=by
 have h24:=hV.n24
 have hlen:=hV.len
 have e1:gD 1000 g vars raw=mN 1000 g vars raw (gI g g.2.length):=by
  unfold gD
  refine dA (F:=fun k:Nat=>((gI g k,(k:Int)):fO)) g.2.length (fun k ag hk=> ?_) (fun ag=> ?_) 1000 (by omega)
  ·unfold pW
   simp only
   rw[if_pos (by omega),eM (by omega),wr (by omega) (by omega)]
   rfl
  ·unfold pW
   simp only
   rw[if_neg (by omega)]
 rw[e1]
 obtain⟨m1,m2⟩:=En hV g.2.length (by omega)
 unfold mN
 have key:=Ie (step:=gM 1000 g vars raw (gI g g.2.length)) (K:=fun x=>some x.1) g.2.length (fun v x=>x.2=(v:Int)∧x.1.length=v∧∀w,w<v->(at' x.1 (w:Int)).length=vars.length∧Nn g vars w (at' x.1 (w:Int))) (fun v x ag hv hI=> ?_) (fun x ag hI=> ?_) 1000 (([]:bJ),(0:Int)) ⟨rfl,rfl,fun w hw=>by omega⟩ (by omega)
 ·obtain⟨⟨c,i⟩,⟨_,h2,h3⟩,he⟩:=key
  exact⟨c,he,h2,fun v hv=>(h3 v hv).1,fun v hv x hx=>(h3 v hv).2 x (by rw[(h3 v hv).1];exact hx)⟩
 ·obtain⟨c,i⟩:=x
  obtain⟨rfl,h2,h3⟩:=hI
  simp only at h2 h3
  have hdeg:(at' g.2 (v:Int)).length<g.2.length:=(hV.node v hv).deg
  unfold gM
  simp only
  rw[if_pos (by omega)]
  have key2:=Ie (step:=kL 1000 g vars raw (gI g g.2.length) (c,(v:Int)) ag) (K:=fun y=>ag (c++[y.1],(v:Int)+1)) vars.length (fun x y=>y.2=(x:Int)∧y.1.length=x∧Nn g vars v y.1) (fun x y ag2 hx hI=> ?_) (fun y ag2 hI=> ?_) 1000 (([]:bM),(0:Int)) ⟨rfl,rfl,fun x hx=>by simp at hx⟩ (by omega)
  ·obtain⟨⟨l,j⟩,⟨_,k2,k3⟩,he⟩:=key2
   refine⟨(c++[l],(v:Int)+1),⟨by simp,by simp[h2],fun w hw=> ?_⟩,he⟩
   simp only
   rw[Lr c l (by omega),h2]
   by_cases e:w<v
   ·rw[if_pos e];exact h3 w e
   ·rw[if_neg e]
    have:w=v:=by omega
    subst this
    exact⟨k2,k3⟩
  ·obtain⟨l,j⟩:=y
   obtain⟨rfl,k2,k3⟩:=hI
   simp only at k2 k3
   obtain⟨⟨s1,s2,s3⟩,s4,s5⟩:=hs x hx
   have fin:∀a b:Int,a=lo g (at' vars (x:Int)) v->b=hi g (at' vars (x:Int)) v -> -100000<=a->a<=b+1->b<=100000000->(a<=b∨(a = -1∧b = -1))->∃y',(y'.2=((x+1:Nat):Int)∧y'.1.length=x+1∧Nn g vars v y'.1)∧kK 1000 vars raw (c,(v:Int)) (l,(x:Int)) ag2 (a,b)=ag2 y':=by
    intro a b ha hb q1 q2 q3 q4
    have hab:a<=b:=by omega
    unfold kK
    simp only
    have w1:wI .i64 ((v:Int)*(vars.length:Int))=(v:Int)*(vars.length:Int):=by
     have p1:0<=(v:Int)*(vars.length:Int):=Int.mul_nonneg (by omega) (by omega)
     have p2:(v:Int)*(vars.length:Int)<=24*900:=Int.mul_le_mul (by omega) (by omega) (by omega) (by omega)
     exact wr (by omega) (by omega)
    have p1:0<=(v:Int)*(vars.length:Int):=Int.mul_nonneg (by omega) (by omega)
    have p2:(v:Int)*(vars.length:Int)<=24*900:=Int.mul_le_mul (by omega) (by omega) (by omega) (by omega)
    rw[w1,wr (x:=(v:Int)*(vars.length:Int)+(x:Int)) (by omega) (by omega),HS _ _ (by omega),bE rfl,wr (x:=b - a) (by omega) (by omega),wr (x:=b - a+1) (by omega) (by omega),jG _ _ (by omega) (by omega),bE rfl]
    have r1:=Int.emod_nonneg (at' raw ((v:Int)*(vars.length:Int)+(x:Int))) (b:=b - a+1) (by omega)
    have r2:=Int.emod_lt_of_pos (at' raw ((v:Int)*(vars.length:Int)+(x:Int))) (b:=b - a+1) (by omega)
    generalize at' raw ((v:Int)*(vars.length:Int)+(x:Int))%(b - a+1)=r at r1 r2
    rw[wr (x:=a+r) (by omega) (by omega),eM (by simp;omega),wr (by omega) (by omega)]
    refine⟨_,⟨by simp,by simp[k2],fun z hz=> ?_⟩,rfl⟩
    simp only[List.length_append,List.length_cons,List.length_nil,k2]at hz
    simp only
    rw[Lr l _ (by omega),k2]
    by_cases e:z<x
    ·rw[if_pos e];exact k3 z (by omega)
    ·rw[if_neg e]
     have:z=x:=by omega
     subst this
     rw[<-ha,<-hb];omega
   unfold kL
   simp only
   rw[if_pos (by omega),eM (by omega),eM (by omega),eM (by omega),eM (by omega),eM (by omega)]
   by_cases t2:(at' vars (x:Int)).2.1=2
   ·rw[if_pos t2]
    exact fin 0 1 (by unfold lo;rw[if_pos t2]) (by unfold hi;rw[if_pos t2]) (by omega) (by omega) (by omega) (by omega)
   ·rw[if_neg t2]
    by_cases t3:(at' vars (x:Int)).2.1=3
    ·rw[if_pos t3,eM (by omega),wr (by omega) (by omega)]
     exact fin (-1) _ (by unfold lo;rw[if_neg t2,if_pos t3]) (by unfold hi;rw[if_neg t2,if_pos t3]) (by omega) (by omega) (by omega) (by omega)
    ·rw[if_neg t3]
     have q1:0<=(at' vars (x:Int)).2.2.2.2.1*(g.2.length:Int):=Int.mul_nonneg s2.1 (by omega)
     have q2:(at' vars (x:Int)).2.2.2.2.1*(g.2.length:Int)<=100000*24:=Int.mul_le_mul s2.2 (by omega) (by omega) (by omega)
     have q3:0<=(at' vars (x:Int)).2.2.2.2.2*gI g g.2.length:=Int.mul_nonneg s3.1 m1
     have q4:(at' vars (x:Int)).2.2.2.2.2*gI g g.2.length<=100000*255:=Int.mul_le_mul s3.2 m2 m1 (by omega)
     rw[wr (x:=(at' vars (x:Int)).2.2.2.2.1*(g.2.length:Int)) (by omega) (by omega),wr (x:=(at' vars (x:Int)).2.2.2.2.2*gI g g.2.length) (by omega) (by omega),wr (x:=(at' vars (x:Int)).2.2.2.1+(at' vars (x:Int)).2.2.2.2.1*(g.2.length:Int)) (by omega) (by omega),wr (by omega) (by omega)]
     exact fin _ _ (by unfold lo;rw[if_neg t2,if_neg t3]) (by unfold hi;rw[if_neg t2,if_neg t3,hlen]) (by omega) (by omega) (by omega) (by omega)
  ·obtain⟨l,j⟩:=y
   obtain⟨rfl,k2,k3⟩:=hI
   simp only at k2 k3
   unfold kL sV
   simp only
   rw[if_neg (by omega),eM (by simp;omega),wr (by omega) (by omega)]
 ·obtain⟨c,i⟩:=x
  obtain⟨rfl,h2,h3⟩:=hI
  unfold gM pV
  simp only
  rw[if_neg (by omega)]
end
end Go.Proofs.YtlciiihigmgaiaaGreat
end
end
section
namespace Go.Proofs.YtlciiihigmgaiaaGreat
open Go.Sx
section
def sA  (a4:Int):Option (Int):=
 some (a4)
def pE (p0:bM) (a9:fO) (ag8:gL->Option (Int)):Option (Int):=
 if a9.2<(List.length p0:Int)then(ck (0<=a9.2∧a9.2<(List.length p0:Int)) (ag8 ((max a9.1 (at' p0 a9.2)),(wI .i64 (a9.2+(1:Int))))))else(sA  (a9.1))
def tE (U:Nat) (p0:bM):Option (Int):=
 if(List.length p0:Int)<(1:Int)then(none)else(ck (0<=(0:Int)∧(0:Int)<(List.length p0:Int)) (bU (pE p0) U ((at' p0 (0:Int)),(1:Int))))
theorem QQ:aZ Tryz.prog 131:=Tryz.call131
theorem Ho (U:Nat) {p0:bM} (v0:Value) (r:Int) (h:tE U p0=some r):
  bA Tryz.prog 131 #[v0] [Sl bP v0 p0] (fun x:Unit=>vI (r)) (fun x l=>l) (fun _ l=>l):=by
 refine bA.of Tryz.func131 rfl Tryz.ntmps131 rfl fun c=>?_
 refine aS<|aE rfl<|aN<|aM<|aS<|aA rfl<|jT (aG.fact 0 rfl) rfl<|dR rfl<|aN ?_
 refine fM h rfl (fun h=>?_) fun h=>?_
 ·refine aQ ?_
  cases h
 refine dV<|aS<|aA rfl<|fL h fun j2 h=>aD (bN rfl rfl (aG.fact 0 rfl) rfl rfl j2) rfl<|aD (dM rfl (aG.fact 0 rfl) rfl rfl rfl fC j2) rfl<|aE rfl<|aN<|aM<|jS (fun a4=>sA  a4=some r) (fun a4 b5=>[(3,vI (a4))]) (fun a4 b5=>[]) ?_ ?_
 ·refine aS<|aE rfl<|aN<|aX<|gG (pE p0) (fun a9 b10=>[(0,v0),(3,vI (a9.1)),(4,vI (a9.2))]) (fun a9 b10=>[]) ((at' p0 (0:Int)),(1:Int)) () h SF (bF.refl _) ?_
  intro k11 a9 b10 h
  refine aM<|aS<|aA rfl<|aA rfl<|jT (aG.fact 0 rfl) rfl<|dR rfl<|aN ?_
  refine fM h rfl (fun h=>?_) fun h=>?_
  ·refine dV<|aM<|aX<|aQ<|aA rfl<|aA rfl<|aA rfl<|fL h fun j13 h=>aD (bN rfl rfl (aG.fact 0 rfl) rfl rfl j13) rfl<|aD (dM rfl (aG.fact 0 rfl) rfl rfl rfl fC j13) rfl<|aD (Fz rfl rfl) rfl<|aE rfl<|fJ<|qB<|aQ<|aA rfl<|dG rfl<|aE rfl<|aN ?_
   exact Bf ((max a9.1 (at' p0 a9.2)),(wI .i64 (a9.2+(1:Int)))) () h SF rfl
  refine h_ ?_
  exact lW (a9.1) () h SF rfl
 intro a4 b5 h
 unfold sA at h
 refine aS<|aA rfl<|aE rfl<|aN<|aU ?_
 cases h
 exact kW rfl
end
section
def kS (U:Nat) (p0:zS) (p1:gA) (p2:Int):Option gL:=
 Option.bind (tE U p1.1) fun r3=>(some (p0.2.2.1,(wI .i64 ((wI .i64 (p0.2.2.2.1+(wI .i64 (p0.2.2.2.2.1*(List.length p1.1:Int)))))+(wI .i64 (p0.2.2.2.2.2*r3))))))
theorem QP:aZ Tryz.prog 130:=Tryz.call130
theorem BM (U:Nat) {p0:zS} {p1:gA} {p2:Int} (v0:Value)  (v1:Value)  (z2:oY) (r:fO) (h:kS U p0 p1 p2=some r):
  bA Tryz.prog 130 #[Value.agg #[vS (p0.1),vI (p0.2.1),vI (p0.2.2.1),vI (p0.2.2.2.1),vI (p0.2.2.2.2.1),vI (p0.2.2.2.2.2)],Value.agg #[v0,v1],vI (p2)] [Sl bP v0 p1.1,S2 bH v1 z2 p1.2] (fun x:Unit=>Value.tuple #[vI (r.1),vI (r.2)]) (fun x l=>l) (fun _ l=>l):=by
 refine bA.of Tryz.func130 rfl Tryz.ntmps130 rfl fun c=>?_
 refine aS<|aI (aK.box (cs:=[vS (p0.1),vI (p0.2.1),vI (p0.2.2.1),vI (p0.2.2.2.1),vI (p0.2.2.2.2.1),vI (p0.2.2.2.2.2)]) rfl rfl) rfl fun b1=>aI (aK.box (cs:=[v0,v1]) rfl rfl) rfl fun b2=>aE rfl<|aE rfl<|aN<|aM ?_
 refine JR.start [0,1,0,4,0,16,0,64,192,496,1020,0,2048,0,8192,24576,63488,131068,57347,524287] 19 mixedOrders (by decide +kernel) ?_
 refine JR.open (by exact rfl) ?_
 refine cQ rfl<|kF 1 rfl<|cQ rfl<|kF 1 rfl<|cQ rfl<|kF 1 rfl<|cQ rfl<|kF 0 rfl<|bO rfl .nil (oF 0 rfl) (mV rfl (aG.fact 0 rfl) rfl) aO.z<|oJ rfl (yI rfl rfl)<|oJ rfl (wW rfl rfl)<|cQ rfl<|kF 1 rfl<|cQ rfl<|kF 0 rfl<|fE h fun r3 w4 h=>JR.loud rfl rfl rfl (aK.callQ QQ (Ho U v0 r3 w4) rfl (qC [0] rfl)) rfl (fun x5=>(uQ [([1],[]),([],[0]),([0],[]),([1],[]),([1],[]),([1],[])] rfl)) fun x5=>oJ rfl (yI rfl rfl)<|oJ rfl (wW rfl rfl)<|oJ rfl (yH rfl)<|cR 19 rfl rfl<|aE rfl<|aN<|aU ?_
 cases h
 exact kN () rfl rfl (RV.tmp rfl) (RV.tmp rfl) .nil aF.nil
end
section
def mZ (U:Nat) (p0:zS) (p1:gA) (p2:Int):Option gL:=
 some ((0:Int),(1:Int))
theorem QR:aZ Tryz.prog 132:=Tryz.call132
theorem BN (U:Nat) {p0:zS} {p1:gA} {p2:Int} (v0:Value)  (v1:Value)  (z2:oY) (r:fO) (h:mZ U p0 p1 p2=some r):
  bA Tryz.prog 132 #[Value.agg #[vS (p0.1),vI (p0.2.1),vI (p0.2.2.1),vI (p0.2.2.2.1),vI (p0.2.2.2.2.1),vI (p0.2.2.2.2.2)],Value.agg #[v0,v1],vI (p2)] [Sl bP v0 p1.1,S2 bH v1 z2 p1.2] (fun x:Unit=>Value.tuple #[vI (r.1),vI (r.2)]) (fun x l=>l) (fun _ l=>l):=by
 refine bA.of Tryz.func132 rfl Tryz.ntmps132 rfl fun c=>?_
 unfold mZ at h
 refine aS<|aI (aK.box (cs:=[vS (p0.1),vI (p0.2.1),vI (p0.2.2.1),vI (p0.2.2.2.1),vI (p0.2.2.2.2.1),vI (p0.2.2.2.2.2)]) rfl rfl) rfl fun b1=>aI (aK.box (cs:=[v0,v1]) rfl rfl) rfl fun b2=>aE rfl<|aE rfl<|aN<|aS<|aE rfl<|aE rfl<|aN<|aU ?_
 cases h
 exact kN () rfl rfl (RV.tmp rfl) (RV.tmp rfl) .nil aF.nil
end
section
def kT (U:Nat) (p0:zS) (p1:gA) (p2:Int):Option gL:=
 ck (0<=p2∧p2<(List.length p1.2:Int)) (some ((-1:Int),(wI .i64 ((List.length (at' p1.2 p2):Int) - (1:Int)))))
theorem QS:aZ Tryz.prog 133:=Tryz.call133
theorem BO (U:Nat) {p0:zS} {p1:gA} {p2:Int} (v0:Value)  (v1:Value)  (z2:oY) (r:fO) (h:kT U p0 p1 p2=some r):
  bA Tryz.prog 133 #[Value.agg #[vS (p0.1),vI (p0.2.1),vI (p0.2.2.1),vI (p0.2.2.2.1),vI (p0.2.2.2.2.1),vI (p0.2.2.2.2.2)],Value.agg #[v0,v1],vI (p2)] [Sl bP v0 p1.1,S2 bH v1 z2 p1.2] (fun x:Unit=>Value.tuple #[vI (r.1),vI (r.2)]) (fun x l=>l) (fun _ l=>l):=by
 refine bA.of Tryz.func133 rfl Tryz.ntmps133 rfl fun c=>?_
 refine aS<|aI (aK.box (cs:=[vS (p0.1),vI (p0.2.1),vI (p0.2.2.1),vI (p0.2.2.2.1),vI (p0.2.2.2.2.1),vI (p0.2.2.2.2.2)]) rfl rfl) rfl fun b1=>aI (aK.box (cs:=[v0,v1]) rfl rfl) rfl fun b2=>aE rfl<|aE rfl<|aN<|aM ?_
 refine JR.start [0,1,0,7,15,31,63,0,255] 8 mixedOrders (by decide +kernel) ?_
 refine JR.open (by exact rfl) ?_
 refine cQ rfl<|kF 0 rfl<|bL rfl<|fL h fun j3 h=>bO rfl .nil (oF 1 rfl) (cX rfl rfl (aG.fact 0 rfl) rfl rfl j3) aO.z<|bO rfl .nil (oF 1 rfl) (dH rfl (aG.fact 0 rfl) rfl rfl j3) aO.z<|bO rfl .nil (oF 1 rfl) (mV rfl (aG.el (aG.fact 0 rfl) j3.1 j3.2) rfl) aO.z<|oJ rfl (rP rfl rfl)<|oJ rfl (yH rfl)<|cR 8 rfl rfl<|aE rfl<|aN<|aU ?_
 cases h
 exact kN () rfl rfl (RV.tmp rfl) (RV.tmp rfl) .nil aF.nil
end
section
def rQ  (a4:Unit):Option gL:=
 some ((0:Int),(-1:Int))
def jD (a8:Int) (ag7:(Int)->Option gL) (a12:Unit):Option gL:=
 ag7 (wI .i64 (a8+(1:Int)))
def c_ (U:Nat) (p0:zS) (p1:gA) (p2:Int) (a8:Int) (ag7:(Int)->Option gL):Option gL:=
 if a8<(List.length ([((1:Int),(130:Nat)),((2:Int),(132:Nat)),((3:Int),(133:Nat))]):Int)then(ck (0<=a8∧a8<(List.length ([((1:Int),(130:Nat)),((2:Int),(132:Nat)),((3:Int),(133:Nat))]):Int)) (if a8=(0:Int)then(if(1:Int)=p0.2.1 then(Option.bind (kS U ((p0.1,p0.2.1,p0.2.2.1,p0.2.2.2.1,p0.2.2.2.2.1,p0.2.2.2.2.2)) ((p1.1,p1.2)) p2) fun r18=>(some (r18.1,r18.2)))else(jD a8 ag7 (())))else(if a8=(1:Int)then(if(2:Int)=p0.2.1 then(Option.bind (mZ U ((p0.1,p0.2.1,p0.2.2.1,p0.2.2.2.1,p0.2.2.2.2.1,p0.2.2.2.2.2)) ((p1.1,p1.2)) p2) fun r24=>(some (r24.1,r24.2)))else(jD a8 ag7 (())))else(if(3:Int)=p0.2.1 then(Option.bind (kT U ((p0.1,p0.2.1,p0.2.2.1,p0.2.2.2.1,p0.2.2.2.2.1,p0.2.2.2.2.2)) ((p1.1,p1.2)) p2) fun r30=>(some (r30.1,r30.2)))else(jD a8 ag7 (()))))))else(rQ  (()))
def gH (U:Nat) (p0:zS) (p1:gA) (p2:Int):Option gL:=
 bU (c_ U p0 p1 p2) U (0:Int)
theorem KE:aZ Tryz.prog 101:=Tryz.call101
theorem xU (U:Nat) {p0:zS} {p1:gA} {p2:Int} (v0:Value)  (v1:Value)  (z2:oY) (r:fO) (h:gH U p0 p1 p2=some r):
  bA Tryz.prog 101 #[Value.agg #[vS (p0.1),vI (p0.2.1),vI (p0.2.2.1),vI (p0.2.2.2.1),vI (p0.2.2.2.2.1),vI (p0.2.2.2.2.2)],Value.agg #[v0,v1],vI (p2)] [Sl bP v0 p1.1,S2 bH v1 z2 p1.2] (fun x:Unit=>Value.tuple #[vI (r.1),vI (r.2)]) (fun x l=>l) (fun _ l=>l):=by
 refine bA.of Tryz.func101 rfl Tryz.ntmps101 rfl fun c=>?_
 unfold gH at h
 refine aS<|aI (aK.box (cs:=[vS (p0.1),vI (p0.2.1),vI (p0.2.2.1),vI (p0.2.2.2.1),vI (p0.2.2.2.2.1),vI (p0.2.2.2.2.2)]) rfl rfl) rfl fun b1=>aI (aK.box (cs:=[v0,v1]) rfl rfl) rfl fun b2=>aE rfl<|aE rfl<|aN<|aS ?_
 refine aD (AS (r:=Value.agg #[vI (1:Int),Value.func (.func 130) #[] #[]]) rfl rfl (by intro w;simp[Instr.build,Instr.fill,gZ,fT,eW,g_,hJ,fU,jC])) rfl ?_
 refine aD (AS (r:=Value.agg #[vI (2:Int),Value.func (.func 132) #[] #[]]) rfl rfl (by intro w;simp[Instr.build,Instr.fill,gZ,fT,eW,g_,hJ,fU,jC])) rfl ?_
 refine aD (AS (r:=Value.agg #[vI (3:Int),Value.func (.func 133) #[] #[]]) rfl rfl (by intro w;simp[Instr.build,Instr.fill,gZ,fT,eW,g_,hJ,fU,jC])) rfl ?_
 refine aI (eN (e:=Dc) ([(((1:Int),((130:Nat)))),(((2:Int),((132:Nat)))),(((3:Int),((133:Nat))))]) [(0,Value.agg #[vI (1:Int),Value.func (.func 130) #[] #[]]),(1,Value.agg #[vI (2:Int),Value.func (.func 132) #[] #[]]),(2,Value.agg #[vI (3:Int),Value.func (.func 133) #[] #[]])] rfl rfl rfl rfl (Od (vI (1:Int)) (Value.func (.func 130) #[] #[]) (vI (2:Int)) (Value.func (.func 132) #[] #[]) (vI (3:Int)) (Value.func (.func 133) #[] #[])) rfl rfl rfl) rfl fun u3=>aE rfl<|aN<|aM<|jS (fun a4=>rQ  a4=some r) (fun a4 b5=>[]) (fun a4 b5=>[]) ?_ ?_
 ·refine aS<|aA rfl<|aD (mV rfl (cC (aG.res 0 rfl) uT) rfl) rfl<|aA rfl<|aN<|aX<|gG (c_ U p0 p1 p2) (fun a8 b9=>[(2,vI (p2)),(3,vP b1),(4,vP b2),(15,u3),(16,vI (List.length ([((1:Int),(130:Nat)),((2:Int),(132:Nat)),((3:Int),(133:Nat))]):Int)),(17,vI (a8))]) (fun a8 b9=>[Ar Dc u3 ([((1:Int),(130:Nat)),((2:Int),(132:Nat)),((3:Int),(133:Nat))]),dD b2 [v0,v1] 28,dD b1 [vS (p0.1),vI (p0.2.1),vI (p0.2.2.1),vI (p0.2.2.2.1),vI (p0.2.2.2.2.1),vI (p0.2.2.2.2.2)] 60]) (0:Int) () h SF (bF.refl _) ?_
  intro k10 a8 b9 h
  refine aS<|dR rfl<|aN<|aM ?_
  refine fM h rfl (fun h=>?_) fun h=>?_
  ·refine dV<|aM<|jS (fun a12=>jD a8 (bU (c_ U p0 p1 p2) k10) a12=some r) (fun a12 b13=>[(2,vI (p2)),(3,vP b1),(4,vP b2),(15,u3),(16,vI (List.length ([((1:Int),(130:Nat)),((2:Int),(132:Nat)),((3:Int),(133:Nat))]):Int)),(17,vI (a8))]) (fun a12 b13=>[Ar Dc u3 ([((1:Int),(130:Nat)),((2:Int),(132:Nat)),((3:Int),(133:Nat))]),dD b2 [v0,v1] 28,dD b1 [vS (p0.1),vI (p0.2.1),vI (p0.2.2.1),vI (p0.2.2.2.1),vI (p0.2.2.2.2.1),vI (p0.2.2.2.2.2)] 60]) ?_ ?_
   ·refine aX<|aS<|fL h fun j14 h=>aD (bN rfl rfl (cC (aG.res 0 rfl) uT) rfl rfl j14) rfl ?_
    by_cases hq15:a8=(0:Int)
    ·have h:=SS hq15 h
     refine aD (iS (cs:=[vI (1:Int),Value.func (.func 130) #[] #[]]) rfl (cC (aG.res 0 rfl) uT) uT (by rw[hq15];rfl) rfl rfl rfl j14) rfl ?_
     refine aI (aK.alloc (cs:=[vI (0:Int),Value.nilFunc]) rfl rfl) rfl fun b16=>bZ 0 (vs:=[vI (1:Int),Value.func (.func 130) #[] #[]]) rfl rfl rfl rfl rfl rfl<|aN<|aS<|cH rfl<|gE 0 rfl<|cH rfl<|gE 3 rfl<|cN rfl<|aN ?_
     refine fM h rfl (fun h=>?_) fun h=>?_
     ·refine aS<|cH rfl<|gE 0 rfl<|dQ 3 rfl<|dQ 2 rfl<|aA rfl<|fE h fun r18 w19 h=>aI (sE (vs:=[Value.agg #[vS (p0.1),vI (p0.2.1),vI (p0.2.2.1),vI (p0.2.2.2.1),vI (p0.2.2.2.2.1),vI (p0.2.2.2.2.2)],Value.agg #[v0,v1],vI (p2)]) (cs:=[]) QP rfl (BM U v0 v1 z2 r18 w19) rfl (qC [0,1] rfl) (fun _ _=>rfl)) rfl fun x20=>eT rfl<|eT rfl<|aE rfl<|aE rfl<|aN<|aU<|bR<|aJ<|aJ<|bR<|aJ ?_
      cases h
      exact kN () rfl rfl (RV.tmp rfl) (RV.tmp rfl) .nil aF.nil
     refine e_<|qB ?_
     exact dL () (()) h SF (bF.ix [1,2,3] rfl rfl) (aF.refl _ _)
    have h:=Ww hq15 h
    by_cases hq21:a8=(1:Int)
    ·have h:=SS hq21 h
     refine aD (iS (cs:=[vI (2:Int),Value.func (.func 132) #[] #[]]) rfl (cC (aG.res 0 rfl) uT) uT (by rw[hq21];rfl) rfl rfl rfl j14) rfl ?_
     refine aI (aK.alloc (cs:=[vI (0:Int),Value.nilFunc]) rfl rfl) rfl fun b22=>bZ 0 (vs:=[vI (2:Int),Value.func (.func 132) #[] #[]]) rfl rfl rfl rfl rfl rfl<|aN<|aS<|cH rfl<|gE 0 rfl<|cH rfl<|gE 3 rfl<|cN rfl<|aN ?_
     refine fM h rfl (fun h=>?_) fun h=>?_
     ·refine aS<|cH rfl<|gE 0 rfl<|dQ 3 rfl<|dQ 2 rfl<|aA rfl<|fE h fun r24 w25 h=>aI (sE (vs:=[Value.agg #[vS (p0.1),vI (p0.2.1),vI (p0.2.2.1),vI (p0.2.2.2.1),vI (p0.2.2.2.2.1),vI (p0.2.2.2.2.2)],Value.agg #[v0,v1],vI (p2)]) (cs:=[]) QR rfl (BN U v0 v1 z2 r24 w25) rfl (qC [0,1] rfl) (fun _ _=>rfl)) rfl fun x26=>eT rfl<|eT rfl<|aE rfl<|aE rfl<|aN<|aU<|bR<|aJ<|aJ<|bR<|aJ ?_
      cases h
      exact kN () rfl rfl (RV.tmp rfl) (RV.tmp rfl) .nil aF.nil
     refine e_<|qB ?_
     exact dL () (()) h SF (bF.ix [1,2,3] rfl rfl) (aF.refl _ _)
    have h:=Ww hq21 h
    have hq27:a8=(2:Int):=by have q:=j14;simp only[List.length_cons,List.length_nil]at q;omega
    refine aD (iS (cs:=[vI (3:Int),Value.func (.func 133) #[] #[]]) rfl (cC (aG.res 0 rfl) uT) uT (by rw[hq27];rfl) rfl rfl rfl j14) rfl ?_
    refine aI (aK.alloc (cs:=[vI (0:Int),Value.nilFunc]) rfl rfl) rfl fun b28=>bZ 0 (vs:=[vI (3:Int),Value.func (.func 133) #[] #[]]) rfl rfl rfl rfl rfl rfl<|aN<|aS<|cH rfl<|gE 0 rfl<|cH rfl<|gE 3 rfl<|cN rfl<|aN ?_
    refine fM h rfl (fun h=>?_) fun h=>?_
    ·refine aS<|cH rfl<|gE 0 rfl<|dQ 3 rfl<|dQ 2 rfl<|aA rfl<|fE h fun r30 w31 h=>aI (sE (vs:=[Value.agg #[vS (p0.1),vI (p0.2.1),vI (p0.2.2.1),vI (p0.2.2.2.1),vI (p0.2.2.2.2.1),vI (p0.2.2.2.2.2)],Value.agg #[v0,v1],vI (p2)]) (cs:=[]) QS rfl (BO U v0 v1 z2 r30 w31) rfl (qC [0,1] rfl) (fun _ _=>rfl)) rfl fun x32=>eT rfl<|eT rfl<|aE rfl<|aE rfl<|aN<|aU<|bR<|aJ<|aJ<|bR<|aJ ?_
     cases h
     exact kN () rfl rfl (RV.tmp rfl) (RV.tmp rfl) .nil aF.nil
    refine e_<|qB ?_
    exact dL () (()) h SF (bF.ix [1,2,3] rfl rfl) (aF.refl _ _)
   intro a12 b13 h
   unfold jD at h
   refine aQ<|dG rfl<|aA rfl<|aN ?_
   exact Bf (wI .i64 (a8+(1:Int))) () h SF rfl
  refine h_ ?_
  exact dL () (()) h SF .nil (aF.refl _ _)
 intro a4 b5 h
 unfold rQ at h
 refine aS<|aE rfl<|aE rfl<|aN<|aU ?_
 cases h
 exact kN () rfl rfl (RV.tmp rfl) (RV.tmp rfl) (bF.refl _) aF.nil
end
section
def pL  (a7:d_):Option (d_):=
 some (a7)
def pM (a13:Int×d_) (ag12:(Int×d_)->Option (d_)) (a19:d_):Option (d_):=
 ag12 ((wI .i64 (a13.1+(1:Int))),a19)
def kH (U:Nat) (p0:tJ) (p1:gA) (a13:Int×d_) (ag12:(Int×d_)->Option (d_)) (a28:Int×d_) (ag27:(Int×d_)->Option (d_)):Option (d_):=
 if a28.1<(List.length p0.2.1:Int)then(ck (0<=a28.1∧a28.1<(List.length p0.2.1:Int)) (ck (0<=a13.1∧a13.1<(List.length a28.2:Int)) (ck (0<=a13.1∧a13.1<(List.length a28.2:Int)) (Option.bind (gH U ((((at' p0.2.1 a28.1).1),((at' p0.2.1 a28.1).2.1),((at' p0.2.1 a28.1).2.2.1),((at' p0.2.1 a28.1).2.2.2.1),((at' p0.2.1 a28.1).2.2.2.2.1),((at' p0.2.1 a28.1).2.2.2.2.2))) ((p1.1,p1.2)) a13.1) fun r40=>(ck (0<=a28.1∧a28.1<(List.length (at' a28.2 a13.1):Int)) (ck (0<=a28.1∧a28.1<(List.length (at' (List.set a28.2 (Int.toNat a13.1) (List.set (at' a28.2 a13.1) (Int.toNat a28.1) (r40.1,((at' (at' a28.2 a13.1) a28.1).2)))) a13.1):Int)) (ag27 ((wI .i64 (a28.1+(1:Int))),(List.set (List.set a28.2 (Int.toNat a13.1) (List.set (at' a28.2 a13.1) (Int.toNat a28.1) (r40.1,((at' (at' a28.2 a13.1) a28.1).2)))) (Int.toNat a13.1) (List.set (at' (List.set a28.2 (Int.toNat a13.1) (List.set (at' a28.2 a13.1) (Int.toNat a28.1) (r40.1,((at' (at' a28.2 a13.1) a28.1).2)))) a13.1) (Int.toNat a28.1) (((at' (at' (List.set a28.2 (Int.toNat a13.1) (List.set (at' a28.2 a13.1) (Int.toNat a28.1) (r40.1,((at' (at' a28.2 a13.1) a28.1).2)))) a13.1) a28.1).1),r40.2)))))))))))else(pM a13 ag12 (a28.2))
def iU (U:Nat) (p0:tJ) (p1:gA) (a13:Int×d_) (ag12:(Int×d_)->Option (d_)):Option (d_):=
 if a13.1<(List.length (List.replicate (Int.toNat (List.length p1.1:Int)) ([]:eC)):Int)then(ck (0<=(List.length p0.2.1:Int)∧(List.length p0.2.1:Int)<=1099511627) (ck (0<=a13.1∧a13.1<(List.length a13.2:Int)) (bU (kH U p0 p1 a13 ag12) U ((0:Int),(List.set a13.2 (Int.toNat a13.1) (List.replicate (Int.toNat (List.length p0.2.1:Int)) ((0:Int),(0:Int))))))))else(pL  (a13.2))
def gB (U:Nat) (p0:tJ) (p1:gA):Option (d_):=
 ck (0<=(List.length p1.1:Int)∧(List.length p1.1:Int)<=1099511627) (bU (iU U p0 p1) U ((0:Int),(List.replicate (Int.toNat (List.length p1.1:Int)) ([]:eC))))
theorem JH:aZ Tryz.prog 63:=Tryz.call63
theorem uI (U:Nat) {p0:tJ} {p1:gA} (v0:Value)  (v1:Value)  (v2:Value)  (v3:Value)  (z4:oY) (r:d_) (h:gB U p0 p1=some r):
  bA Tryz.prog 63 #[Value.agg #[vS (p0.1),v0,v1],Value.agg #[v2,v3]] [Sl aH v0 p0.2.1,Sl aC v1 p0.2.2,PF (Value.agg #[vS p0.1,v0,v1]),Sl bP v2 p1.1,S2 bH v3 z4 p1.2] (fun x:AO=>x.1) (fun x l=>Ar dZ.raw x.1 x.2::i_ bX x.2 r::l) (fun _ l=>l):=by
 refine bA.of Tryz.func63 rfl Tryz.ntmps63 rfl fun c=>?_
 refine aS<|aI (aK.box (cs:=[vS (p0.1),v0,v1]) rfl rfl) rfl fun b1=>aI (aK.box (cs:=[v2,v3]) rfl rfl) rfl fun b2=>aE rfl<|aN<|aS<|cH rfl<|gE 0 rfl<|jT (aG.fact 3 rfl) rfl<|fL h fun j3 h=>oH (nG bX (Int.toNat (List.length p1.1:Int)))<|aI (pZ (e:=dZ.raw) (mG) rfl rfl rfl rfl j3 rfl rfl rfl) rfl fun u4=>aE rfl<|aN<|aM<|yX (B:=iN) (fun a7=>pL  a7=some r) (fun a7 b8=>[(5,u4)]) (fun a7 b8=>[Ar dZ.raw u4 b8,i_ bX b8 a7]) ?_ ?_
 ·refine aS<|aA rfl<|aD (jI rfl (bD (i:=0) (j:=1) rfl rfl bG) rfl) rfl<|aA rfl<|aN<|aX<|gG (B:=iN) (iU U p0 p1) (fun a13 b14=>[(2,vP b1),(3,vP b2),(5,u4),(14,vI (List.length (List.replicate (Int.toNat (List.length p1.1:Int)) ([]:eC)):Int)),(15,vI (a13.1))]) (fun a13 b14=>[Ar dZ.raw u4 b14,i_ bX b14 a13.2,dD b2 [v2,v3] 28,dD b1 [vS (p0.1),v0,v1] 33]) ((0:Int),(List.replicate (Int.toNat (List.length p1.1:Int)) ([]:eC))) (List.replicate (Int.toNat (List.length p1.1:Int)) (mG)) h SF (bF.refl _) ?_
  intro k15 a13 b14 h
  refine aS<|dR rfl<|aN<|aM ?_
  refine fM h rfl (fun h=>?_) fun h=>?_
  ·refine dV<|aM<|yX (B:=iN) (fun a19=>pM a13 (bU (iU U p0 p1) k15) a19=some r) (fun a19 b20=>[(2,vP b1),(3,vP b2),(5,u4),(14,vI (List.length (List.replicate (Int.toNat (List.length p1.1:Int)) ([]:eC)):Int)),(15,vI (a13.1))]) (fun a19 b20=>[Ar dZ.raw u4 b20,i_ bX b20 a19,dD b2 [v2,v3] 28,dD b1 [vS (p0.1),v0,v1] 33]) ?_ ?_
   ·refine aX<|aS<|aA rfl<|aE rfl<|aN<|aS<|aA rfl<|aA rfl<|cH rfl<|gE 3 rfl<|jT (aG.fact 0 rfl) rfl<|fL h fun j21 h=>aI (pZ (e:=bX) (((0:Int),(0:Int))) rfl rfl rfl rfl j21 rfl rfl rfl) rfl fun u22=>fL h fun j23 h=>aD (cX rfl rfl (bD (i:=1) (j:=2) rfl rfl bG) rfl rfl j23) rfl<|b_ (Know.one ((cC (aG.res 0 rfl) bG))) fun ho24=>oH (rO (k:=a13.1) 2 0 rfl rfl rfl j23) ?_
    refine jH 0 1 ⟨j23.1,by first|exact j23.2|simpa using j23.2⟩ rfl rfl rfl rfl rfl (by simp) ho24 rfl ?_
    refine aN<|aS<|cH rfl<|gE 3 rfl<|jT (aG.fact 0 rfl) rfl<|aA rfl<|aN<|aX<|gG (kH U p0 p1 a13 (bU (iU U p0 p1) k15)) (fun a28 b29=>[(2,vP b1),(3,vP b2),(5,u4),(6,vI (a13.1)),(14,vI (List.length (List.replicate (Int.toNat (List.length p1.1:Int)) ([]:eC)):Int)),(15,vI (a13.1)),(26,v0),(27,vI (List.length p0.2.1:Int)),(28,vI (a28.1))]) (fun a28 b29=>[Ar dZ.raw u4 (List.set b14 (Int.toNat a13.1) u22),i_ bX (List.set b14 (Int.toNat a13.1) u22) a28.2,dD b2 [v2,v3] 28,dD b1 [vS (p0.1),v0,v1] 33]) ((0:Int),(List.set a13.2 (Int.toNat a13.1) (List.replicate (Int.toNat (List.length p0.2.1:Int)) ((0:Int),(0:Int))))) () h SF (bF.refl _) ?_
    intro k30 a28 b29 h
    refine aS<|dR rfl<|aN<|aM ?_
    refine fM h rfl (fun h=>?_) fun h=>?_
    ·refine dV<|aM<|aX<|aS<|aA rfl<|fL h fun j32 h=>aD (bN rfl rfl (aG.fact 0 rfl) rfl rfl j32) rfl<|aD (iS (cs:=[vS ((at' p0.2.1 a28.1).1),vI ((at' p0.2.1 a28.1).2.1),vI ((at' p0.2.1 a28.1).2.2.1),vI ((at' p0.2.1 a28.1).2.2.2.1),vI ((at' p0.2.1 a28.1).2.2.2.2.1),vI ((at' p0.2.1 a28.1).2.2.2.2.2)]) rfl (aG.fact 0 rfl) sX rfl rfl rfl rfl j32) rfl<|aI (aK.alloc (cs:=vD2) rfl rfl) rfl fun b33=>aE rfl<|bZ 0 (vs:=[vS ((at' p0.2.1 a28.1).1),vI ((at' p0.2.1 a28.1).2.1),vI ((at' p0.2.1 a28.1).2.2.1),vI ((at' p0.2.1 a28.1).2.2.2.1),vI ((at' p0.2.1 a28.1).2.2.2.2.1),vI ((at' p0.2.1 a28.1).2.2.2.2.2)]) rfl rfl rfl rfl rfl rfl<|aN ?_
     refine JR.start [0,0,3,7,0,0,0,96,224,0,0,0,0,7168,15360,31744,31744,31,196095,458239,992,2097151,4194303] 21 mixedOrders (by decide +kernel) ?_
     refine JR.open (by exact rfl) ?_
     refine bL rfl<|bL rfl<|fL h fun j34 h=>dW (cD 2 rfl) fun hl35=>?_
     refine bO rfl (bF.cons 1 rfl .nil) .nil (fK 0 rfl rfl rfl rfl rfl j34.1 (by have q1:=j34.2;have q2:=hl35;(try simp only[List.length_set]at q1);(try simp only[List.length_set]at q2);(try simp only[List.length_set]);omega)) aO.z ?_
     refine dW (cD 2 rfl) fun hl36=>bO rfl (bF.cons 1 rfl .nil) .nil (jB 0 rfl rfl hl36 rfl rfl j34) aO.z<|bL rfl<|bL rfl<|bL rfl<|fL h fun j37 h=>dW (cD 2 rfl) fun hl38=>?_
     refine bO rfl (bF.cons 1 rfl .nil) .nil (fK 0 rfl rfl rfl rfl rfl j37.1 (by have q1:=j37.2;have q2:=hl38;(try simp only[List.length_set]at q1);(try simp only[List.length_set]at q2);(try simp only[List.length_set]);omega)) aO.z ?_
     refine dW (cD 2 rfl) fun hl39=>bO rfl (bF.cons 1 rfl .nil) .nil (jB 0 rfl rfl hl39 rfl rfl j37) aO.z<|bL rfl<|kB 0 rfl<|kB 3 rfl<|bL rfl<|fE h fun r40 w41 h=>JR.loud rfl rfl rfl (aK.callQ KE (xU U v2 v3 z4 r40 w41) rfl (qC [3,4] rfl)) rfl (fun x42=>(uQ [([1],[]),([1],[]),([1],[]),([1],[])] rfl)) fun x42=>oJ rfl (sM rfl)<|oJ rfl (vY rfl rfl)<|oJ rfl (vY rfl rfl)<|fL h fun j43 h=>dW (Know.len (aG.row (j:=2) rfl bG j34.1 j34.2)) fun hl44=>oJ rfl (HP rfl rfl hl44 rfl rfl j43) ?_
     refine oJ rfl (zZ (i:=0) rfl rfl rfl rfl rfl (by decide)) ?_
     refine Bl rfl rfl rfl (yD (us:=[vI (r40.1)]) (o:=0) (k:=a13.1) 2 ((r40.1,((at' (at' a28.2 a13.1) a28.1).2))) ⟨j34.1,by first|exact j34.2|simpa using j34.2⟩ j43 rfl rfl rfl rfl rfl rfl rfl rfl rfl rfl) (fun x45=>(uQ [] rfl)) fun x45=>fL h fun j46 h=>dW (Know.len (aG.row (j:=2) rfl bG j37.1 (by first|exact j37.2|simpa using j37.2))) fun hl47=>?_
     refine oJ rfl (HP rfl rfl hl47 rfl rfl j46)<|cR 21 rfl rfl ?_
     refine aD (zZ (i:=1) rfl rfl rfl rfl rfl (by decide)) rfl ?_
     refine Qx (yD (us:=[vI (r40.2)]) (o:=1) (k:=a13.1) 2 ((((at' (at' (List.set a28.2 (Int.toNat a13.1) (List.set (at' a28.2 a13.1) (Int.toNat a28.1) (r40.1,((at' (at' a28.2 a13.1) a28.1).2)))) a13.1) a28.1).1),r40.2)) ⟨j37.1,by first|exact j37.2|simpa using j37.2⟩ j46 rfl rfl rfl rfl rfl rfl rfl rfl rfl rfl) fun x48=>fJ<|qB<|aQ<|dG rfl<|aA rfl<|aN ?_
     exact mH ((wI .i64 (a28.1+(1:Int))),(List.set (List.set a28.2 (Int.toNat a13.1) (List.set (at' a28.2 a13.1) (Int.toNat a28.1) (r40.1,((at' (at' a28.2 a13.1) a28.1).2)))) (Int.toNat a13.1) (List.set (at' (List.set a28.2 (Int.toNat a13.1) (List.set (at' a28.2 a13.1) (Int.toNat a28.1) (r40.1,((at' (at' a28.2 a13.1) a28.1).2)))) a13.1) (Int.toNat a28.1) (((at' (at' (List.set a28.2 (Int.toNat a13.1) (List.set (at' a28.2 a13.1) (Int.toNat a28.1) (r40.1,((at' (at' a28.2 a13.1) a28.1).2)))) a13.1) a28.1).1),r40.2)))) () h SF (bF.ix [1,2,3,4] rfl rfl) (aF.refl _ _)
    refine yB<|lZ<|lZ<|CI<|qB ?_
    exact lW (a28.2) (List.set b14 (Int.toNat a13.1) u22) h SF rfl
   intro a19 b20 h
   unfold pM at h
   refine aQ<|dG rfl<|aA rfl<|aN ?_
   exact Bf ((wI .i64 (a13.1+(1:Int))),a19) (b20) h SF rfl
  refine h_ ?_
  exact dL (a13.2) (b14) h SF (bF.ix [0,1] rfl rfl) (aF.refl _ _)
 intro a7 b8 h
 unfold pL at h
 refine aS<|aA rfl<|aE rfl<|aN<|aU ?_
 cases h
 exact mX (u4,b8) rfl rfl (RV.tmp rfl) (bF.refl _) aF.nil
end
section
def qN  (a11:Unit):Option (Int):=
 some (0:Int)
def lM (a15:Int) (ag14:(Int)->Option (Int)) (a19:Unit):Option (Int):=
 ag14 (wI .i64 (a15+(1:Int)))
def qO (a15:Int) (ag14:(Int)->Option (Int)) (a28:Bool):Option (Int):=
 if a28=true then(some (9:Int))else(lM a15 ag14 (()))
def jK (U:Nat) (p0:tJ) (p1:gA) (a15:Int) (ag14:(Int)->Option (Int)):Option (Int):=
 if a15<(List.length p0.2.1:Int)then(ck (0<=a15∧a15<(List.length p0.2.1:Int)) (if((at' p0.2.1 a15).2.1)≠(1:Int)then(lM a15 ag14 (()))else(Option.bind (gH U ((((at' p0.2.1 a15).1),((at' p0.2.1 a15).2.1),((at' p0.2.1 a15).2.2.1),((at' p0.2.1 a15).2.2.2.1),((at' p0.2.1 a15).2.2.2.2.1),((at' p0.2.1 a15).2.2.2.2.2))) ((p1.1,p1.2)) (0:Int)) fun r24=>(if r24.2<r24.1 then(qO a15 ag14 (true))else(qO a15 ag14 (decide ((4096:Int)<(wI .i64 ((wI .i64 (r24.2 - r24.1))+(1:Int))))))))))else(qN  (()))
def pA (U:Nat) (p0:tJ) (p1:gA):Option (Int):=
 Option.bind (vJ U ((p0.1,p0.2.1,p0.2.2))) fun r3=>(if(!r3)=true then(some (8:Int))else(Option.bind (iB U ((p1.1,p1.2))) fun r7=>(if(!r7)=true then(some (1:Int))else(bU (jK U p0 p1) U (0:Int)))))
theorem TT:aZ Tryz.prog 70:=Tryz.call70
theorem Fb (U:Nat) {p0:tJ} {p1:gA} (v0:Value)  (v1:Value)  (v2:Value)  (v3:Value)  (z4:oY) (r:Int) (h:pA U p0 p1=some r):
  bA Tryz.prog 70 #[Value.agg #[vS (p0.1),v0,v1],Value.agg #[v2,v3]] [Sl aH v0 p0.2.1,Sl aC v1 p0.2.2,PF (Value.agg #[vS p0.1,v0,v1]),Sl bP v2 p1.1,S2 bH v3 z4 p1.2] (fun x:Unit=>vI (r)) (fun x l=>l) (fun _ l=>l):=by
 refine bA.of Tryz.func70 rfl Tryz.ntmps70 rfl fun c=>?_
 refine aS<|aI (aK.box (cs:=[vS (p0.1),v0,v1]) rfl rfl) rfl fun b1=>aI (aK.box (cs:=[v2,v3]) rfl rfl) rfl fun b2=>aE rfl<|aN<|aM<|aS<|dQ 1 rfl<|fE h fun r3 w4 h=>aI (aK.callQ yK (Fh U v0 v1 r3 w4) rfl (qC [0,1,2] rfl)) rfl fun x5=>aD (DJ rfl) rfl<|aN ?_
 refine Cb h rfl (fun _ h=>?_) fun _ h=>?_
 ·refine aS<|aE rfl<|aN<|aU<|aJ ?_
  cases h
  exact wO rfl
 refine dV<|aM<|aS<|dQ 0 rfl<|fE h fun r7 w8 h=>aI (aK.callQ QM (Ff U v2 v3 z4 r7 w8) rfl (qC [3,4] rfl)) rfl fun x9=>aD (DJ rfl) rfl<|aN ?_
 refine Cb h rfl (fun _ h=>?_) fun _ h=>?_
 ·refine aS<|aE rfl<|aN<|aU<|aJ ?_
  cases h
  exact wO rfl
 refine dV<|aM<|jS (fun a11=>qN  a11=some r) (fun a11 b12=>[]) (fun a11 b12=>[]) ?_ ?_
 ·refine aS<|cH rfl<|gE 1 rfl<|jT (aG.fact 0 rfl) rfl<|aA rfl<|aN<|aX<|gG (jK U p0 p1) (fun a15 b16=>[(3,vP b2),(16,v0),(17,vI (List.length p0.2.1:Int)),(18,vI (a15))]) (fun a15 b16=>[dD b2 [v2,v3] 28]) (0:Int) () h SF (bF.ix [0] rfl rfl) ?_
  intro k17 a15 b16 h
  refine aS<|dR rfl<|aN<|aM ?_
  refine fM h rfl (fun h=>?_) fun h=>?_
  ·refine dV<|aM<|jS (fun a19=>lM a15 (bU (jK U p0 p1) k17) a19=some r) (fun a19 b20=>[(3,vP b2),(16,v0),(17,vI (List.length p0.2.1:Int)),(18,vI (a15))]) (fun a19 b20=>[dD b2 [v2,v3] 28]) ?_ ?_
   ·refine aX<|aS<|fL h fun j21 h=>aD (bN rfl rfl (aG.fact 0 rfl) rfl rfl j21) rfl<|aD (iS (cs:=[vS ((at' p0.2.1 a15).1),vI ((at' p0.2.1 a15).2.1),vI ((at' p0.2.1 a15).2.2.1),vI ((at' p0.2.1 a15).2.2.2.1),vI ((at' p0.2.1 a15).2.2.2.2.1),vI ((at' p0.2.1 a15).2.2.2.2.2)]) rfl (aG.fact 0 rfl) sX rfl rfl rfl rfl j21) rfl<|aI (aK.alloc (cs:=vD2) rfl rfl) rfl fun b22=>bZ 0 (vs:=[vS ((at' p0.2.1 a15).1),vI ((at' p0.2.1 a15).2.1),vI ((at' p0.2.1 a15).2.2.1),vI ((at' p0.2.1 a15).2.2.2.1),vI ((at' p0.2.1 a15).2.2.2.2.1),vI ((at' p0.2.1 a15).2.2.2.2.2)]) rfl rfl rfl rfl rfl rfl<|aN<|aM<|aS<|cH rfl<|gE 0 rfl<|pC rfl<|aN ?_
    refine fM h rfl (fun h=>?_) fun h=>?_
    ·refine yB<|lZ<|CI<|zW ?_
     exact dL () (()) h SF (bF.ix [1] rfl rfl) (aF.refl _ _)
    refine dV<|aS<|dQ 0 rfl<|dQ 1 rfl<|fE h fun r24 w25 h=>aI (aK.callQ KE (xU U v2 v3 z4 r24 w25) rfl (qC [3,4] rfl)) rfl fun x26=>aA rfl<|eT rfl<|eT rfl<|aE rfl<|aE rfl<|aN<|aM<|jS (fun a28=>qO a15 (bU (jK U p0 p1) k17) a28=some r) (fun a28 b29=>[(3,vP b2),(16,v0),(17,vI (List.length p0.2.1:Int)),(18,vI (a15)),(40,vB (a28))]) (fun a28 b29=>[dD b2 [v2,v3] 28]) ?_ ?_
    ·refine aQ<|aA rfl<|aA rfl<|dR rfl<|aA rfl ?_
     refine EV h rfl (fun _ h=>?_) fun _ h=>?_
     ·refine aT rfl<|aT rfl<|aT rfl<|aT rfl<|aT rfl<|lD rfl<|aN ?_
      exact dL (true) () h SF (bF.ix [1] rfl rfl) (aF.refl _ _)
     refine eQ rfl<|eQ rfl<|bT rfl (rP rfl rfl) rfl<|bT rfl (wW rfl rfl) rfl<|bT rfl (Bp rfl rfl) rfl<|jU rfl<|aN ?_
     exact dL (decide ((4096:Int)<(wI .i64 ((wI .i64 (r24.2 - r24.1))+(1:Int))))) () h SF (bF.ix [1] rfl rfl) (aF.refl _ _)
    intro a28 b29 h
    refine Cb h rfl (fun _ h=>?_) fun _ h=>?_
    ·refine aS<|aE rfl<|aN<|aU<|bR<|aJ<|aJ<|bR<|aJ ?_
     cases h
     exact wO rfl
    refine e_<|qB ?_
    exact lW () (()) h SF rfl
   intro a19 b20 h
   unfold lM at h
   refine aQ<|dG rfl<|aA rfl<|aN ?_
   exact Bf (wI .i64 (a15+(1:Int))) () h SF rfl
  refine h_ ?_
  exact dL () (()) h SF .nil (aF.refl _ _)
 intro a11 b12 h
 unfold qN at h
 refine aS<|aE rfl<|aN<|aU ?_
 cases h
 exact kW rfl
end
section
def pQ  (a2:Unit):Option (Bool):=
 some (true)
def pR (a6:Int) (ag5:(Int)->Option (Bool)) (a12:Bool):Option (Bool):=
 if a12=true then(some (false))else(ag5 (wI .i64 (a6+(1:Int))))
def kI (p0:eC) (p1:bM) (a6:Int) (ag5:(Int)->Option (Bool)):Option (Bool):=
 if a6<(List.length p1:Int)then(ck (0<=a6∧a6<(List.length p1:Int)) (ck (0<=a6∧a6<(List.length p0:Int)) (if(at' p1 a6)<((at' p0 a6).1)then(pR a6 ag5 (true))else(ck (0<=a6∧a6<(List.length p0:Int)) (pR a6 ag5 (decide (((at' p0 a6).2)<(at' p1 a6))))))))else(pQ  (()))
def qT (U:Nat) (p0:eC) (p1:bM):Option (Bool):=
 if(List.length p1:Int)≠(List.length p0:Int)then(some (false))else(bU (kI p0 p1) U (0:Int))
theorem QN:aZ Tryz.prog 104:=Tryz.call104
theorem EG (U:Nat) {p0:eC} {p1:bM} (v0:Value)  (v1:Value) (r:Bool) (h:qT U p0 p1=some r):
  bA Tryz.prog 104 #[v0,v1] [Sl bH v0 p0,Sl bP v1 p1] (fun x:Unit=>vB (r)) (fun x l=>l) (fun _ l=>l):=by
 refine bA.of Tryz.func104 rfl Tryz.ntmps104 rfl fun c=>?_
 refine aS<|aE rfl<|aN<|aM<|aS<|aA rfl<|jT (aG.fact 1 rfl) rfl<|aA rfl<|jT (aG.fact 0 rfl) rfl<|pC rfl<|aN ?_
 refine fM h rfl (fun h=>?_) fun h=>?_
 ·refine aS<|aE rfl<|aN<|aU<|aJ ?_
  cases h
  exact kW rfl
 refine dV<|aM<|jS (fun a2=>pQ  a2=some r) (fun a2 b3=>[]) (fun a2 b3=>[]) ?_ ?_
 ·refine aS<|aA rfl<|jT (aG.fact 1 rfl) rfl<|aA rfl<|aN<|aX<|gG (kI p0 p1) (fun a6 b7=>[(0,v0),(12,v1),(13,vI (List.length p1:Int)),(14,vI (a6))]) (fun a6 b7=>[]) (0:Int) () h SF (bF.refl _) ?_
  intro k8 a6 b7 h
  refine aS<|dR rfl<|aN<|aM ?_
  refine fM h rfl (fun h=>?_) fun h=>?_
  ·refine dV<|aM<|aX<|aS<|aA rfl<|fL h fun j10 h=>aD (bN rfl rfl (aG.fact 1 rfl) rfl rfl j10) rfl<|aD (dM rfl (aG.fact 1 rfl) rfl rfl rfl fC j10) rfl<|aE rfl<|aE rfl<|aN<|aM<|jS (fun a12=>pR a6 (bU (kI p0 p1) k8) a12=some r) (fun a12 b13=>[(0,v0),(12,v1),(13,vI (List.length p1:Int)),(14,vI (a6)),(34,vB (a12))]) (fun a12 b13=>[]) ?_ ?_
   ·refine aQ<|aA rfl<|aA rfl<|aA rfl<|fL h fun j15 h=>aD (bN rfl rfl (aG.fact 0 rfl) rfl rfl j15) rfl ?_
    refine aD (zZ (i:=0) rfl rfl rfl rfl rfl (by decide)) rfl ?_
    refine aD (mY rfl (aG.fact 0 rfl) rfl rfl rfl wT j15) rfl<|dR rfl<|aA rfl ?_
    refine EV h rfl (fun _ h=>?_) fun _ h=>?_
    ·refine aT rfl<|aT rfl<|aT rfl<|aT rfl<|aT rfl<|aT rfl<|aT rfl<|lD rfl<|aN ?_
     exact lW (true) () h SF rfl
    refine eQ rfl<|eQ rfl<|eQ rfl<|fL h fun j17 h=>bT rfl (bN rfl rfl (aG.fact 0 rfl) rfl rfl j17) rfl ?_
    refine bT rfl (zZ (i:=1) rfl rfl rfl rfl rfl (by decide)) rfl ?_
    refine bT rfl (mY rfl (aG.fact 0 rfl) rfl rfl rfl Jv j17) rfl<|bT rfl (Bp rfl rfl) rfl<|jU rfl<|aN ?_
    exact lW (decide (((at' p0 a6).2)<(at' p1 a6))) () h SF rfl
   intro a12 b13 h
   refine Cb h rfl (fun _ h=>?_) fun _ h=>?_
   ·refine aS<|aE rfl<|aN<|aU<|bR<|aJ<|aJ<|bR<|aJ ?_
    cases h
    exact kW rfl
   refine e_<|qB<|aQ<|dG rfl<|aA rfl<|aN ?_
   exact Bf (wI .i64 (a6+(1:Int))) () h SF rfl
  refine h_ ?_
  exact lW () (()) h SF rfl
 intro a2 b3 h
 unfold pQ at h
 refine aS<|aE rfl<|aN<|aU ?_
 cases h
 exact kW rfl
end
section
def oC  (a2:Unit):Option (Bool):=
 some (true)
def lT (U:Nat) (p0:d_) (p1:bJ) (a6:Int) (ag5:(Int)->Option (Bool)):Option (Bool):=
 if a6<(List.length p0:Int)then(ck (0<=a6∧a6<(List.length p0:Int)) (ck (0<=a6∧a6<(List.length p1:Int)) (Option.bind (qT U (at' p0 a6) (at' p1 a6)) fun r12=>(if(!r12)=true then(some (false))else(ag5 (wI .i64 (a6+(1:Int))))))))else(oC  (()))
def pP (U:Nat) (p0:d_) (p1:bJ):Option (Bool):=
 if(List.length p1:Int)≠(List.length p0:Int)then(some (false))else(bU (lT U p0 p1) U (0:Int))
theorem TU:aZ Tryz.prog 71:=Tryz.call71
theorem C_ (U:Nat) {p0:d_} {p1:bJ} (v0:Value)  (z1:oY)  (v2:Value)  (z3:pH) (r:Bool) (h:pP U p0 p1=some r):
  bA Tryz.prog 71 #[v0,v2] [S2 bH v0 z1 p0,S2 bP v2 z3 p1] (fun x:Unit=>vB (r)) (fun x l=>l) (fun _ l=>l):=by
 refine bA.of Tryz.func71 rfl Tryz.ntmps71 rfl fun c=>?_
 refine aS<|aE rfl<|aN<|aM<|aS<|aA rfl<|aD (jI rfl (aG.fact 1 rfl) rfl) rfl<|aA rfl<|aD (jI rfl (aG.fact 0 rfl) rfl) rfl<|pC rfl<|aN ?_
 refine fM h rfl (fun h=>?_) fun h=>?_
 ·refine aS<|aE rfl<|aN<|aU<|aJ ?_
  cases h
  exact kW rfl
 refine dV<|aM<|jS (fun a2=>oC  a2=some r) (fun a2 b3=>[]) (fun a2 b3=>[]) ?_ ?_
 ·refine aS<|aA rfl<|aD (jI rfl (aG.fact 0 rfl) rfl) rfl<|aA rfl<|aN<|aX<|gG (lT U p0 p1) (fun a6 b7=>[(1,v2),(12,v0),(13,vI (List.length p0:Int)),(14,vI (a6))]) (fun a6 b7=>[]) (0:Int) () h SF (bF.refl _) ?_
  intro k8 a6 b7 h
  refine aS<|dR rfl<|aN<|aM ?_
  refine fM h rfl (fun h=>?_) fun h=>?_
  ·refine dV<|aM<|aX<|aS<|aA rfl<|fL h fun j10 h=>aD (cX rfl rfl (aG.fact 0 rfl) rfl rfl j10) rfl<|aD (dH rfl (aG.fact 0 rfl) rfl rfl j10) rfl<|aE rfl<|aE rfl<|aN<|aS<|aA rfl<|aA rfl<|aA rfl<|fL h fun j11 h=>aD (cX rfl rfl (aG.fact 1 rfl) rfl rfl j11) rfl<|aD (dH rfl (aG.fact 1 rfl) rfl rfl j11) rfl<|fE h fun r12 w13 h=>aI (aK.callQ QN (EG U ((at' z1 a6).1) ((at' z3 a6).1) r12 w13) rfl (aF.cons (aG.el (aG.fact 0 rfl) j10.1 j10.2) (aF.cons (aG.el (aG.fact 1 rfl) j11.1 j11.2) .nil))) rfl fun x14=>aD (DJ rfl) rfl<|aN ?_
   refine Cb h rfl (fun _ h=>?_) fun _ h=>?_
   ·refine aS<|aE rfl<|aN<|aU<|bR<|aJ<|aJ<|bR<|aJ ?_
    cases h
    exact kW rfl
   refine e_<|qB<|aQ<|dG rfl<|aA rfl<|aN ?_
   exact Bf (wI .i64 (a6+(1:Int))) () h SF rfl
  refine h_ ?_
  exact lW () (()) h SF rfl
 intro a2 b3 h
 unfold oC at h
 refine aS<|aE rfl<|aN<|aU ?_
 cases h
 exact kW rfl
end
section
def jP (U:Nat) (p0:tJ) (p1:gA) (p2:bJ):Option (Int):=
 Option.bind (pA U ((p0.1,p0.2.1,p0.2.2)) ((p1.1,p1.2))) fun r3=>(if r3≠(0:Int)then(some (r3))else(Option.bind (gB U ((p0.1,p0.2.1,p0.2.2)) ((p1.1,p1.2))) fun r7=>(Option.bind (pP U r7 p2) fun r10=>(if(!r10)=true then(some (10:Int))else(some (0:Int))))))
theorem NG:aZ Tryz.prog 38:=Tryz.call38
theorem zP (U:Nat) {p0:tJ} {p1:gA} {p2:bJ} (v0:Value)  (v1:Value)  (v2:Value)  (v3:Value)  (z4:oY)  (v5:Value)  (z6:pH) (r:Int) (h:jP U p0 p1 p2=some r):
  bA Tryz.prog 38 #[Value.agg #[vS (p0.1),v0,v1],Value.agg #[v2,v3],v5] [Sl aH v0 p0.2.1,Sl aC v1 p0.2.2,PF (Value.agg #[vS p0.1,v0,v1]),Sl bP v2 p1.1,S2 bH v3 z4 p1.2,S2 bP v5 z6 p2] (fun x:Unit=>vI (r)) (fun x l=>l) (fun _ l=>l):=by
 refine bA.of Tryz.func38 rfl Tryz.ntmps38 rfl fun c=>?_
 refine aS<|aI (aK.box (cs:=[vS (p0.1),v0,v1]) rfl rfl) rfl fun b1=>aI (aK.box (cs:=[v2,v3]) rfl rfl) rfl fun b2=>aE rfl<|aN<|aM<|aS<|dQ 1 rfl<|dQ 0 rfl<|fE h fun r3 w4 h=>aI (aK.callQ TT (Fb U v0 v1 v2 v3 z4 r3 w4) rfl (qC [0,1,2,3,4] rfl)) rfl fun x5=>aE rfl<|aN<|aS<|aA rfl<|pC rfl<|aN ?_
 refine fM h rfl (fun h=>?_) fun h=>?_
 ·refine aS<|aA rfl<|aE rfl<|aN<|aU<|aJ ?_
  cases h
  exact wO rfl
 refine dV<|aM<|aS<|dQ 1 rfl<|dQ 0 rfl<|fE h fun r7 w8 h=>aI (aK.callQ JH (uI U v0 v1 v2 v3 z4 r7 w8) rfl (qC [0,1,2,3,4] rfl)) rfl fun x9=>aA rfl<|fE h fun r10 w11 h=>aI (aK.callQ TU (C_ U x9.1 (List.zip x9.2 r7) v5 z6 r10 w11) rfl (aF.cons (bD (i:=0) (j:=1) rfl rfl bG) (qC [5] rfl))) rfl fun x12=>aD (DJ rfl) rfl<|aN ?_
 refine Cb h rfl (fun _ h=>?_) fun _ h=>?_
 ·refine aS<|aE rfl<|aN<|aU<|aJ ?_
  cases h
  exact wO rfl
 refine dV<|aS<|aE rfl<|aN<|aU ?_
 cases h
 exact wO rfl
end
section
def qV  (a5:bJ):Option bJ:=
 some (a5)
def nP (p0:bJ) (a11:rI) (ag10:(Int×bJ)->Option bJ):Option bJ:=
 if a11.1<(List.length p0:Int)then(ck (0<=a11.1∧a11.1<(List.length p0:Int)) (ck ((List.length ([]:bM):Int)+(List.length (at' p0 a11.1):Int)<=1099511627) (ck (0<=a11.1∧a11.1<(List.length a11.2:Int)) (ag10 ((wI .i64 (a11.1+(1:Int))),(List.set a11.2 (Int.toNat a11.1) (([]:bM)++(at' p0 a11.1))))))))else(qV  (a11.2))
def rZ (U:Nat) (p0:bJ):Option bJ:=
 ck (0<=(List.length p0:Int)∧(List.length p0:Int)<=1099511627) (bU (nP p0) U ((0:Int),(List.replicate (Int.toNat (List.length p0:Int)) ([]:bM))))
theorem TV:aZ Tryz.prog 72:=Tryz.call72
theorem Fg (U:Nat) {p0:bJ} (v0:Value)  (z1:pH) (r:bJ) (h:rZ U p0=some r):
  bA Tryz.prog 72 #[v0] [S2 bP v0 z1 p0] (fun x:AO=>x.1) (fun x l=>Ar dZ.raw x.1 x.2::i_ cU x.2 r::l) (fun _ l=>l):=by
 refine bA.of Tryz.func72 rfl Tryz.ntmps72 rfl fun c=>?_
 refine aS<|aE rfl<|aN<|aS<|aA rfl<|aD (jI rfl (aG.fact 0 rfl) rfl) rfl<|fL h fun j1 h=>oH (nG cU (Int.toNat (List.length p0:Int)))<|aI (pZ (e:=dZ.raw) (mG) rfl rfl rfl rfl j1 rfl rfl rfl) rfl fun u2=>aE rfl<|aN<|aM<|yX (B:=iN) (fun a5=>qV  a5=some r) (fun a5 b6=>[(3,u2)]) (fun a5 b6=>[Ar dZ.raw u2 b6,i_ cU b6 a5]) ?_ ?_
 ·refine aS<|aA rfl<|aD (jI rfl (aG.fact 0 rfl) rfl) rfl<|aA rfl<|aN<|aX<|gG (B:=iN) (nP p0) (fun a11 b12=>[(3,u2),(9,v0),(10,vI (List.length p0:Int)),(11,vI (a11.1))]) (fun a11 b12=>[Ar dZ.raw u2 b12,i_ cU b12 a11.2]) ((0:Int),(List.replicate (Int.toNat (List.length p0:Int)) ([]:bM))) (List.replicate (Int.toNat (List.length p0:Int)) (mG)) h SF (bF.refl _) ?_
  intro k13 a11 b12 h
  refine aS<|dR rfl<|aN<|aM ?_
  refine fM h rfl (fun h=>?_) fun h=>?_
  ·refine dV<|aM<|aX<|aS<|aA rfl<|fL h fun j15 h=>aD (cX rfl rfl (aG.fact 0 rfl) rfl rfl j15) rfl<|aD (dH rfl (aG.fact 0 rfl) rfl rfl j15) rfl<|aE rfl<|aE rfl<|aN<|aQ<|aA rfl<|aA rfl<|aA rfl<|oH (rM cU)<|fL h fun j17 h=>aI (nU 0 eL rfl rfl rfl (aG.el (aG.fact 0 rfl) j15.1 j15.2) rfl rfl rfl rfl j17 rfl) rfl fun u16=>fL h fun j18 h=>aD (cX rfl rfl (bD (i:=1) (j:=2) rfl rfl eL) rfl rfl j18) rfl<|b_ (Know.one ((cC (aG.res 0 rfl) eL))) fun ho19=>oH (rO (k:=a11.1) 2 0 rfl rfl rfl j18) ?_
   refine jH 0 1 ⟨j18.1,by first|exact j18.2|simpa using j18.2⟩ rfl rfl rfl rfl rfl (by simp) ho19 rfl ?_
   refine fJ<|qB<|aQ<|dG rfl<|aA rfl<|aN ?_
   exact Bf ((wI .i64 (a11.1+(1:Int))),(List.set a11.2 (Int.toNat a11.1) (([]:bM)++(at' p0 a11.1)))) (List.set b12 (Int.toNat a11.1) u16) h SF rfl
  refine h_ ?_
  exact lW (a11.2) (b12) h SF rfl
 intro a5 b6 h
 unfold qV at h
 refine aS<|aA rfl<|aE rfl<|aN<|aU ?_
 cases h
 exact mX (u2,b6) rfl rfl (RV.tmp rfl) (bF.refl _) aF.nil
end
end Go.Proofs.YtlciiihigmgaiaaGreat
end
section
namespace Go.Proofs.YtlciiihigmgaiaaGreat
open Go Go.Sx
section
abbrev Bm:=ByteArray×(List AH)×(List kO)
structure yG (g:GR) (vars:List AH):Prop where
 len:vars.length<=20
 small:∀x,x<vars.length->vX (at' vars (x:Int))
 kind:∀x,x<vars.length->(at' vars (x:Int)).2.1=1∨(at' vars (x:Int)).2.1=2∨(at' vars (x:Int)).2.1=3
 range:∀x,x<vars.length->(at' vars (x:Int)).2.1=1 -> -100000<=lo g (at' vars (x:Int)) 0∧lo g (at' vars (x:Int)) 0<=hi g (at' vars (x:Int)) 0∧hi g (at' vars (x:Int)) 0 - lo g (at' vars (x:Int)) 0+1<=4096
theorem UC {g:GR} (hV:VG g):tE 1000 g.1=some (gI g g.1.length):=by
 have h24:=hV.n24
 have hlen:=hV.len
 have h1:=hV.n1
 have hid:0<=at' g.1 ((0:Nat):Int):=(hV.node 0 (by omega)).id.1
 unfold tE
 rw[if_neg (by omega),eM (by omega)]
 have:=dA (step:=pE g.1) (K:=some (gI g g.1.length)) (g.1.length - 1) (fun k=>(gI g (k+1),((k+1:Nat):Int))) (fun k ag hk=>by
  unfold pE
  dsimp only
  rw[if_pos (by omega),eM (by omega),eX (by omega)];rfl) (fun ag=>by
  unfold pE sA
  dsimp only
  rw[if_neg (by omega),show g.1.length - 1+1=g.1.length by omega]) 1000 (by omega)
 have e:gI g (0+1)=at' g.1 (0:Int):=by
  show max (gI g 0) (at' g.1 ((0:Nat):Int))=_
  simp only[gI]
  have:at' g.1 ((0:Nat):Int)=at' g.1 (0:Int):=rfl
  omega
 rw[e]at this
 exact this
theorem FB {g:GR} (hV:VG g) {x:AH} (hs:vX x) (hk:x.2.1=1∨x.2.1=2∨x.2.1=3) {v:Nat} (hv:v<g.2.length):gH 1000 x g (v:Int)=some (lo g x v,hi g x v):=by
 obtain⟨⟨s1,s2⟩,⟨s3,s4⟩,s5,s6⟩:=hs
 have h24:=hV.n24
 have hlen:=hV.len
 have hm:=En hV g.1.length (by omega)
 have p1:0<=x.2.2.2.2.1*(g.1.length:Int):=Int.mul_nonneg s3 (by omega)
 have p2:x.2.2.2.2.1*(g.1.length:Int)<=100000*24:=Int.mul_le_mul s4 (by omega) (by omega) (by omega)
 have p3:0<=x.2.2.2.2.2*gI g g.1.length:=Int.mul_nonneg s5 hm.1
 have p4:x.2.2.2.2.2*gI g g.1.length<=100000*255:=Int.mul_le_mul s6 hm.2 hm.1 (by omega)
 have b1:kS 1000 x g (v:Int)=some (x.2.2.1,x.2.2.2.1+x.2.2.2.2.1*(g.2.length:Int)+x.2.2.2.2.2*gI g g.1.length):=by
  unfold kS
  rw[bE (UC hV),wr (x:=x.2.2.2.2.1*_) (by omega) (by omega),wr (x:=x.2.2.2.2.2*_) (by omega) (by omega),wr (x:=x.2.2.2.1+_) (by omega) (by omega),wr (by omega) (by omega),hlen]
 have b3:kT 1000 x g (v:Int)=some (-1,((row g v).length:Int) - 1):=by
  have hdeg:=(hV.node v hv).deg
  unfold kT
  rw[eM (by omega)]
  show some ((-1:Int),wI .i64 (((row g v).length:Int) - 1))=_
  rw[wr (by omega) (by omega)]
 have it:∀(f:Nat) (a:Int),bU (c_ 1000 x g (v:Int)) (f+1) a=c_ 1000 x g (v:Int) a (bU (c_ 1000 x g (v:Int)) f):=fun f a=>rfl
 have st:∀(f:Nat) (a:Int),a=0∨a=1∨a=2->bU (c_ 1000 x g (v:Int)) (f+1) a=if a=0 then(if 1=x.2.1 then kS 1000 x g (v:Int)else bU (c_ 1000 x g (v:Int)) f 1)else if a=1 then(if 2=x.2.1 then mZ 1000 x g (v:Int)else bU (c_ 1000 x g (v:Int)) f 2)else(if 3=x.2.1 then kT 1000 x g (v:Int)else bU (c_ 1000 x g (v:Int)) f 3):=by
  intro f a ha
  rw[it]
  generalize bU (c_ 1000 x g (v:Int)) f=G
  unfold c_ jD
  rcases ha with rfl|rfl|rfl
  ·rw[if_pos (by decide),eM (by decide),if_pos rfl,if_pos rfl]
   split
   ·rw[b1];rfl
   ·rfl
  ·rw[if_pos (by decide),eM (by decide),if_neg (show¬(1:Int)=0 by decide),if_pos rfl,if_neg (show¬(1:Int)=0 by decide),if_pos rfl]
   split
   ·rfl
   ·rfl
  ·rw[if_pos (by decide),eM (by decide),if_neg (show¬(2:Int)=0 by decide),if_neg (show¬(2:Int)=1 by decide),if_neg (show¬(2:Int)=0 by decide),if_neg (show¬(2:Int)=1 by decide)]
   split
   ·rw[b3];rfl
   ·rfl
 unfold gH lo hi
 rcases hk with h|h|h
 ·rw[st 999 0 (.inl rfl),if_pos rfl,if_pos h.symm,b1,h,if_neg (by decide),if_neg (by decide),if_neg (by decide),if_neg (by decide)]
 ·rw[st 999 0 (.inl rfl),if_pos rfl,if_neg (by omega),st 998 1 (.inr (.inl rfl)),if_neg (by decide),if_pos rfl,if_pos h.symm,h,if_pos rfl,if_pos rfl];rfl
 ·rw[st 999 0 (.inl rfl),if_pos rfl,if_neg (by omega),st 998 1 (.inr (.inl rfl)),if_neg (by decide),if_pos rfl,if_neg (by omega),st 997 2 (.inr (.inr rfl)),if_neg (by decide),if_neg (by decide),if_pos h.symm,b3,h,if_neg (by decide),if_pos rfl,if_neg (by decide),if_pos rfl]
def CJ (g:GR) (vars:List AH) (v x:Nat):fO:=(lo g (at' vars (x:Int)) v,hi g (at' vars (x:Int)) v)
def AD (g:GR) (vars:List AH) (v:Nat):eC:=(List.range vars.length).map (CJ g vars v)
def wL (g:GR) (vars:List AH):d_:=(List.range g.2.length).map (AD g vars)
theorem wJ {α:Type} [Inhabited α] (f:Nat->α) {n k:Nat} (h:k<n):at' ((List.range n).map f) (k:Int)=f k:=by
 rw[eV (by simpa using h)];simp
theorem mS {α:Type} (f:Nat->α) (z:α) (n k:Nat) (h:k<n):((List.range k).map f++List.replicate (n - k) z).set k (f k)=(List.range (k+1)).map f++List.replicate (n - (k+1)) z:=by
 rw[show n - k=(n - (k+1))+1 by omega,List.replicate_succ,List.set_append_right _ _ (by simp),List.range_succ]
 simp
theorem EK {g:GR} (hV:VG g) {p:Bm} (hp:yG g p.2.1):gB 1000 p g=some (wL g p.2.1):=by
 have h24:=hV.n24
 have hlen:=hV.len
 have hvl:=hp.len
 let vars:=p.2.1
 let Q:Nat->d_:=fun k=>(List.range k).map (AD g vars)++List.replicate (g.2.length - k) []
 have hQl:∀k,k<=g.2.length->(Q k).length=g.2.length:=fun k hk=>by simp[Q];omega
 let R:Nat->Nat->eC:=fun k j=>(List.range j).map (CJ g vars k)++List.replicate (vars.length - j) (0,0)
 have hRl:∀k j,j<=vars.length->(R k j).length=vars.length:=fun k j hj=>by simp[R];omega
 unfold gB
 rw[eM (by omega)]
 rw[show List.replicate (Int.toNat (g.1.length:Int)) ([]:eC)=Q 0 by simp[Q,hlen]]
 refine dA (step:=iU 1000 p g) (K:=some (wL g vars)) g.2.length (fun k=>((k:Int),Q k)) (fun k ag hk=> ?_) (fun ag=> ?_) 1000 (by omega)
 ·unfold iU
  dsimp only
  rw[if_pos (by simp;omega),eM (by omega),eM (by rw[hQl k (by omega)];omega)]
  refine Eq.trans (?_:_=bU (kH 1000 p g ((k:Int),Q k) ag) 1000 ((0:Int),(Q k).set k (R k 0))) ?_
  ·rw[Int.toNat_natCast,Int.toNat_natCast];simp[R,vars]
  refine dA (step:=kH 1000 p g ((k:Int),Q k) ag) (K:=ag (((k+1:Nat):Int),Q (k+1))) vars.length (fun j=>((j:Int),(Q k).set k (R k j))) (fun j ag2 hj=> ?_) (fun ag2=> ?_) 1000 (by show p.2.1.length<1000;omega)
  ·have hj':j<p.2.1.length:=hj
   have hb:=FB hV (hp.small j hj) (hp.kind j hj) hk
   have hq:k<(Q k).length:=by rw[hQl k (by omega)];exact hk
   have a1:∀X:eC,at' ((Q k).set k X) (k:Int)=X:=fun X=>by rw[Ca _ _ _ _ hq,if_pos rfl]
   have hRj:j<(R k j).length:=by rw[hRl k j (by omega)];exact hj
   unfold kH
   dsimp only
   rw[if_pos (by omega),eM (by omega),eM (by simp only[List.length_set];omega),eM (by simp only[List.length_set];omega),bE (show gH 1000 _ g (k:Int)=_ from hb),Int.toNat_natCast,Int.toNat_natCast]
   simp only[a1,List.set_set]
   rw[eM (by omega),eM (by simp only[List.length_set];omega),eX (by omega)]
   have:(R k j).set j (lo g (at' p.2.1 (j:Int)) k,hi g (at' p.2.1 (j:Int)) k)=R k (j+1):=mS (CJ g vars k) (0,0) vars.length j hj
   rw[Ca _ _ _ _ hRj,if_pos rfl]
   dsimp only
   rw[this]
  ·unfold kH pM
   dsimp only
   rw[if_neg (show¬((vars.length:Nat):Int)<(p.2.1.length:Int)from Int.lt_irrefl _),eX (by omega)]
   have e1:R k vars.length=AD g vars k:=by simp[R,AD]
   have e2:(Q k).set k (AD g vars k)=Q (k+1):=mS (AD g vars) [] g.2.length k hk
   rw[e1,e2]
 ·unfold iU pL
  dsimp only
  rw[if_neg (by simp;omega)]
  simp[Q,wL]
theorem Rt {g:GR} (hV:VG g) {p:Bm} (hp:yG g p.2.1):pA 1000 p g=some 0:=by
 have h1:=hV.n1
 have hvl:=hp.len
 unfold pA
 rw[bE (show vJ 1000 _=some true from rfl),if_neg (by decide),bE (show iB 1000 g=some true from(MM g).1 hV),if_neg (by decide)]
 refine dA (step:=jK 1000 p g) (K:=some 0) p.2.1.length (fun k=>(k:Int)) (fun k ag hk=> ?_) (fun ag=> ?_) 1000 (by omega)
 ·unfold jK lM qO lM
  rw[if_pos (by omega),eM (by omega),eX (by omega)]
  by_cases hk1:(at' p.2.1 (k:Int)).2.1=1
  ·obtain⟨r1,r2,r3⟩:=hp.range k hk hk1
   have hb:=FB hV (hp.small k hk) (hp.kind k hk) (v:=0) (by omega)
   rw[if_neg (by simpa using hk1),bE (show gH 1000 _ g (0:Int)=_ from hb)]
   dsimp only
   rw[if_neg (by omega),wr (x:=hi g (at' p.2.1 (k:Int)) 0 - lo g (at' p.2.1 (k:Int)) 0) (by omega) (by omega),wr (by omega) (by omega),if_neg (by rw[decide_eq_true_eq];omega)]
  ·rw[if_pos hk1]
 ·unfold jK qN
  rw[if_neg (by omega)]
theorem PE {g:GR} {vars:List AH} (hl:vars.length<=20) {v:Nat} {l:bM} (h1:l.length=vars.length) (h2:∀x,x<vars.length->lo g (at' vars (x:Int)) v<=at' l (x:Int)∧at' l (x:Int)<=hi g (at' vars (x:Int)) v):qT 1000 (AD g vars v) l=some true:=by
 have hr:(AD g vars v).length=vars.length:=by simp[AD]
 unfold qT
 rw[if_neg (by rw[hr,h1];simp)]
 refine dA (step:=kI (AD g vars v) l) (K:=some true) l.length (fun k=>(k:Int)) (fun k ag hk=> ?_) (fun ag=> ?_) 1000 (by omega)
 ·have hc:at' (AD g vars v) (k:Int)=CJ g vars v k:=wJ _ (by omega)
  have:=h2 k (by omega)
  unfold kI pR
  rw[if_pos (by omega),eM (by omega),eM (by omega),hc]
  rw[if_neg (show¬at' l (k:Int)<(CJ g vars v k).1 from Int.not_lt.2 this.1),eM (by omega),if_neg (by rw[decide_eq_true_eq];exact Int.not_lt.2 this.2),eX (by omega)]
 ·unfold kI pQ
  rw[if_neg (by omega)]
theorem HZ {g:GR} (hV:VG g) {p:Bm} (hp:yG g p.2.1) {c:bJ} (hc:Qj g c p.2.1):jP 1000 p g c=some 0:=by
 have h24:=hV.n24
 have ht:(wL g p.2.1).length=g.2.length:=by simp[wL]
 have hcl:=hc.len
 unfold jP
 rw[bE (show pA 1000 _ _=some 0 from Rt hV hp),if_neg (by decide),bE (show gB 1000 _ _=_ from EK hV hp)]
 have:pP 1000 (wL g p.2.1) c=some true:=by
  unfold pP
  rw[if_neg (by rw[ht,hcl];simp)]
  refine dA (step:=lT 1000 (wL g p.2.1) c) (K:=some true) g.2.length (fun k=>(k:Int)) (fun k ag hk=> ?_) (fun ag=> ?_) 1000 (by omega)
  ·have hr:at' (wL g p.2.1) (k:Int)=AD g p.2.1 k:=wJ _ hk
   unfold lT
   rw[if_pos (by omega),eM (by omega),eM (by omega),hr,bE (PE hp.len (hc.row k hk) (hc.ok k hk)),if_neg (by decide),eX (by omega)]
  ·unfold lT oC
   rw[if_neg (by omega)]
 rw[bE this,if_neg (by decide)]
theorem Rj (c:bJ) (h:c.length<=900) (hr:∀v,v<c.length->(at' c (v:Int)).length<=1000):rZ 1000 c=some c:=by
 unfold rZ
 rw[eM (by omega)]
 let Q:Nat->bJ:=fun k=>(List.range k).map (fun v:Nat=>at' c (v:Int))++List.replicate (c.length - k) []
 rw[show List.replicate (Int.toNat (c.length:Int)) ([]:bM)=Q 0 by simp[Q]]
 refine dA (step:=nP c) (K:=some c) c.length (fun k=>((k:Int),Q k)) (fun k ag hk=> ?_) (fun ag=> ?_) 1000 (by omega)
 ·have hQ:(Q k).length=c.length:=by simp[Q];omega
  have:=hr k hk
  unfold nP
  dsimp only
  rw[if_pos (by omega),eM (by omega),eM (by simp;omega),eM (by omega),eX (by omega),Int.toNat_natCast,List.nil_append]
  have:(Q k).set k (at' c (k:Int))=Q (k+1):=mS (fun v:Nat=>at' c (v:Int)) [] c.length k hk
  rw[this]
 ·unfold nP qV
  dsimp only
  rw[if_neg (by omega)]
  congr 1
  refine List.ext_getElem (by simp[Q]) fun i h1 h2=> ?_
  simp[Q,eV h2]
end
section
def Wl (x:Int):Int:=max (-1073741824) (min x 1073741824)
def Ye (o x:Int):Int:=if o=18 then wI .i64 (0 - x)else QJ (decide (x=0))
def Se (a b:Int):Int:=if b=0 then 0 else if Int.tmod a b≠0∧((decide (a<0)) != (decide (b<0)))=true then wI .i64 (wI .i64 (Int.tdiv a b) - 1)else wI .i64 (Int.tdiv a b)
def Ud (o x y:Int):Bool:=if o=35 then decide (x=y)else if o=36 then decide (x≠y)else if o=37 then decide (x<y)else if o=38 then decide (x<=y)else if o=39 then decide (y<x)else decide (y<=x)
def XN (o x y:Int):Int:=
 if o=30 then Wl (wI .i64 (x*y))else if o=31 then Wl (Se x y)else if o=32 then(if y=0 then 0 else Wl (wI .i64 (x - wI .i64 (y*Se x y))))else if o=33 then Wl (wI .i64 (x+y))else if o=34 then Wl (wI .i64 (x - y))
 else if o=41 then QJ (decide (x≠0)&&decide (y≠0))else if o=42 then QJ (decide (x≠0)||decide (y≠0))else QJ (Ud o x y)
theorem PL (f:Nat) (o x:Int):tD f o x=some (Ye o x):=by
 unfold tD Ye
 split
 ·rfl
 ·rw[bE (pG f _)]
theorem Ps (f:Nat) (a b:Int):mL f a b=some (Se a b):=by
 unfold mL Se
 by_cases hb:b=0
 ·rw[if_pos hb,if_pos hb]
 ·rw[if_neg hb,if_neg hb,eM hb,eM hb]
  by_cases h1:Int.tmod a b=0
  ·rw[if_neg (by simpa using h1),if_neg (by simp[h1])];rfl
  ·rw[if_pos h1]
   unfold n_ lP
   by_cases h2:((decide (a<0)) != (decide (b<0)))=true
   ·rw[if_pos h2,if_pos ⟨h1,h2⟩]
   ·rw[if_neg h2,if_neg (fun q=>h2 q.2)]
theorem Ue (f:Nat) (o x y:Int):pO f o x y=some (Ud o x y):=by
 unfold pO Ud
 repeat' split
 all_goals rfl
theorem LV (f:Nat) (o x y:Int):rY f o x y=some (XN o x y):=by
 unfold rY XN
 by_cases h:o=30
 ·rw[if_pos h,if_pos h];rfl
 rw[if_neg h,if_neg h]
 by_cases h:o=31
 ·rw[if_pos h,if_pos h,bE (Ps f x y)];rfl
 rw[if_neg h,if_neg h]
 by_cases h:o=32
 ·rw[if_pos h,if_pos h]
  by_cases hy:y=0
  ·rw[if_pos hy,if_pos hy]
  ·rw[if_neg hy,if_neg hy,bE (Ps f x y)];rfl
 rw[if_neg h,if_neg h]
 by_cases h:o=33
 ·rw[if_pos h,if_pos h];rfl
 rw[if_neg h,if_neg h]
 by_cases h:o=34
 ·rw[if_pos h,if_pos h];rfl
 rw[if_neg h,if_neg h]
 by_cases h:o=41
 ·rw[if_pos h,if_pos h]
  by_cases hx:x=0
  ·rw[if_neg (by simpa using hx),bE (pG f _)];simp[hx,lN]
  ·rw[if_pos hx,bE (pG f _)];simp[hx,lN]
 rw[if_neg h,if_neg h]
 by_cases h:o=42
 ·rw[if_pos h,if_pos h]
  by_cases hx:x=0
  ·rw[if_neg (by simpa using hx),bE (pG f _)];simp[hx,lO]
  ·rw[if_pos hx,bE (pG f _)];simp[hx,lO]
 rw[if_neg h,if_neg h,bE (Ue f o x y),bE (pG f _)]
def E.den (L:Int->Int->Int->Int) (deg:Nat):E->Int->Int
 |lf o a,p=>L o a p
 |un o x,p=>Ye o (x.den L deg p)
 |ag o x,_=>KQ o ((List.range deg).map fun q=>x.den L deg ((q:Nat):Int))
 |bi o x y,p=>XN o (x.den L deg p) (y.den L deg p)
 |ite x y z,p=>if x.den L deg p≠0 then y.den L deg p else z.den L deg p
def E.wf (nv:Nat):Bool->E->Bool
 |b,lf o a=>decide (1<=o)&&decide (o<=17)&&(b||decide (o<=10))&&((decide (o≠5)&&decide (o≠12))||(decide (0<=a)&&decide (a<(nv:Int))))
 |b,un o x=>decide (18<=o)&&decide (o<=19)&&x.wf nv b
 |_,ag o x=>(decide (o=20)||decide (o=21)||decide (o=22)||decide (o=23)||decide (o=24)||decide (o=26)||decide (o=27))&&x.wf nv true
 |b,bi o x y=>decide (30<=o)&&decide (o<=42)&&x.wf nv b&&y.wf nv b
 |b,ite x y z=>x.wf nv b&&y.wf nv b&&z.wf nv b
theorem Qs {nv:Nat}:∀{e:E} {b:Bool},e.wf nv b=true->e.arOk=true:=by
 intro e
 induction e with
 |lf o a=>intro b h;simp[E.wf,E.arOk]at h ⊢;omega
 |un o x ih=>intro b h;simp[E.wf,E.arOk]at h ⊢;exact⟨h.1,ih h.2⟩
 |ag o x ih=>intro b h;simp[E.wf,E.arOk]at h ⊢;exact⟨by omega,ih h.2⟩
 |bi o x y ihx ihy=>intro b h;simp[E.wf,E.arOk]at h ⊢;exact⟨⟨h.1.1,ihx h.1.2⟩,ihy h.2⟩
 |ite x y z ihx ihy ihz=>intro b h;simp[E.wf,E.arOk]at h ⊢;exact⟨⟨ihx h.1.1,ihy h.1.2⟩,ihz h.2⟩
def OO (W:Vo) (p:Int):Int:=(at' (at' W.1.2.1.2 W.2.2.1) p).1
def Ox (W:Vo) (o a p:Int):Int:=
 if o=1 then a else if o=2 then 1 else if o=3 then 0 else if o=4 then -1 else if o=5 then at' (at' W.2.1 W.2.2.1) a else if o=12 then at' (at' W.2.1 (OO W p)) a
 else if o=6 then(W.1.2.1.1.length:Int)else if o=7 then W.1.2.2.1 else if o=8 then at' W.1.2.1.1 W.2.2.1 else if o=9 then((at' W.1.2.1.2 W.2.2.1).length:Int)else if o=10 then QJ (decide (W.2.2.1=0))else if o=11 then p
 else if o=13 then at' W.1.2.1.1 (OO W p)else if o=14 then((at' W.1.2.1.2 (OO W p)).length:Int)else if o=15 then QJ (decide (OO W p=0))else if o=16 then(at' (at' W.1.2.1.2 W.2.2.1) p).2 else at' (at' W.1.2.2.2 W.2.2.1) p
structure XK (W:Vo) (nv n v:Nat):Prop where
 node:W.2.2.1=(v:Int)
 lt:v<n
 ports:W.1.2.1.2.length=n
 ids:W.1.2.1.1.length=n
 c:W.2.1.length=n
 row:∀u:Nat,u<n->(at' W.2.1 (u:Int)).length=nv
 to:∀u:Nat,u<n->∀i:Nat,i<(at' W.1.2.1.2 (u:Int)).length->0<=(at' (at' W.1.2.1.2 (u:Int)) (i:Int)).1∧(at' (at' W.1.2.1.2 (u:Int)) (i:Int)).1<(n:Int)
 bl:W.1.2.2.2.length=n
 br:∀u:Nat,u<n->(at' W.1.2.2.2 (u:Int)).length=(at' W.1.2.1.2 (u:Int)).length
def Ju (b:Bool) (deg:Nat) (p:Int):Prop:=b=true->∃q:Nat,p=(q:Int)∧q<deg
theorem RI {W:Vo} {nv n v:Nat} (h:XK W nv n v) (f:Nat) {b:Bool} {o a p:Int} (hw:(E.lf o a).wf nv b=true) (hp:Ju b (at' W.1.2.1.2 (v:Int)).length p):iY f W (o,a) p=some (Ox W o a p):=by
 obtain⟨hv,hlt,h1,h2,h3,h4,h5,h8,h9⟩:=h
 simp only[E.wf,Bool.and_eq_true,Bool.or_eq_true,decide_eq_true_eq]at hw
 obtain⟨⟨⟨w1,w2⟩,w3⟩,w4⟩:=hw
 have hvr:(at' W.2.1 (v:Int)).length=nv:=h4 v hlt
 unfold iY Ox OO
 dsimp only
 rw[hv]
 by_cases e:o=1
 ·simp only[if_pos e]
 simp only[if_neg e]
 by_cases e:o=2
 ·simp only[if_pos e]
 simp only[if_neg e]
 by_cases e:o=3
 ·simp only[if_pos e]
 simp only[if_neg e]
 by_cases e:o=4
 ·simp only[if_pos e]
 simp only[if_neg e]
 by_cases e:o=5
 ·simp only[if_pos e]
  rw[eM (by omega),eM (by omega)]
 simp only[if_neg e]
 by_cases e:o=12
 ·have hb:b=true:=by
   rcases w3 with w3|w3
   ·exact w3
   ·omega
  obtain⟨q,rfl,hq⟩:=hp hb
  have h6:=h5 v hlt q hq
  obtain⟨u,hu⟩:∃u:Nat,(at' (at' W.1.2.1.2 (v:Int)) (q:Int)).1=(u:Int):=⟨_,(Int.toNat_of_nonneg h6.1).symm⟩
  simp only[if_pos e]
  rw[hu]at h6 ⊢
  have h7:=h4 u (by omega)
  rw[eM (by omega),eM (by omega),eM (by omega),eM (by omega)]
 simp only[if_neg e]
 unfold nL
 dsimp only
 by_cases e:o=6
 ·simp only[if_pos e];rfl
 simp only[if_neg e]
 by_cases e:o=7
 ·simp only[if_pos e];rfl
 simp only[if_neg e]
 by_cases e:o=8
 ·simp only[if_pos e]
  rw[eM (by omega)];rfl
 simp only[if_neg e]
 by_cases e:o=9
 ·simp only[if_pos e]
  rw[eM (by omega)];rfl
 simp only[if_neg e]
 by_cases e:o=10
 ·simp only[if_pos e]
  rw[bE (pG f _)];rfl
 simp only[if_neg e]
 by_cases e:o=11
 ·simp only[if_pos e];rfl
 simp only[if_neg e]
 have hb:b=true:=by
  rcases w3 with w3|w3
  ·exact w3
  ·omega
 obtain⟨q,rfl,hq⟩:=hp hb
 have h6:=h5 v hlt q hq
 rw[eM (by omega),eM (by omega)]
 by_cases e:o=13
 ·simp only[if_pos e]
  rw[eM (by omega)];rfl
 simp only[if_neg e]
 by_cases e:o=14
 ·simp only[if_pos e]
  rw[eM (by omega)];rfl
 simp only[if_neg e]
 by_cases e:o=15
 ·simp only[if_pos e]
  rw[bE (pG f _)];rfl
 simp only[if_neg e]
 by_cases e:o=16
 ·simp only[if_pos e];rfl
 simp only[if_neg e]
 have h10:=h9 v hlt
 rw[eM (by omega),eM (by omega)];rfl
theorem Qg {W:Vo} {nv n v:Nat} (h:XK W nv n v) {deg:Nat} (hdeg:(at' W.1.2.1.2 (v:Int)).length=deg) (hd24:deg<=24) (hT9:W.2.2.2.length<=800):
  ∀(e:E) (b:Bool) (fuel k:Nat) (p:Int) (pre post:eC),W.2.2.2=pre++(e.ts++post)->pre.length=k->e.wf nv b=true->Ju b deg p->e.depth+850<=fuel->
   bI fuel W (k:Int) p=some (e.den (Ox W) deg p,(((k+e.ts.length:Nat)):Int)):=by
 obtain⟨hv,hlt,h1,h2,h3,h4,h5,_,_⟩:=id h
 have start:∀{t:fO} {l pre post:eC} {k:Nat},W.2.2.2=pre++((t::l)++post)->pre.length=k->at' W.2.2.2 (k:Int)=t∧(k:Int)<(W.2.2.2.length:Int):=by
  intro t l pre post k hT hk
  refine⟨Kz (rest:=l++post) (by simpa using hT) hk,?_⟩
  rw[hT];simp;omega
 intro e
 induction e with
 |lf o a=>
  intro b fuel k p pre post hT hk hw hp hf
  obtain⟨fuel,rfl⟩:∃f,fuel=f+1:=⟨fuel - 1,by omega⟩
  obtain⟨ht,hlk⟩:=start (l:=[]) hT hk
  show cE (bI fuel) fuel W (k:Int) p=_
  unfold cE
  rw[eM ⟨by omega,hlk⟩,ht]
  dsimp only
  have hw':=hw
  simp only[E.wf,Bool.and_eq_true,Bool.or_eq_true,decide_eq_true_eq]at hw'
  have hl:=RI h fuel hw (hdeg▸hp)
  rw[if_pos (by omega),bE (show iY fuel _ (o,a) p=some (Ox W o a p)from hl),eX (by omega)]
  rfl
 |un o x ih=>
  intro b fuel k p pre post hT hk hw hp hf
  obtain⟨fuel,rfl⟩:∃f,fuel=f+1:=⟨fuel - 1,by omega⟩
  obtain⟨ht,hlk⟩:=start (l:=x.ts) hT hk
  show cE (bI fuel) fuel W (k:Int) p=_
  unfold cE
  rw[eM ⟨by omega,hlk⟩,ht]
  dsimp only
  simp only[E.wf,Bool.and_eq_true,decide_eq_true_eq]at hw
  simp only[E.depth]at hf
  have hx:=ih b fuel (k+1) p (pre++[(o,0)]) post (by rw[hT];simp[E.ts]) (by simp[hk]) hw.2 hp (by omega)
  rw[if_neg (by omega),if_pos (by omega),eX (by omega),bE (show bI fuel _ _ p=_ from hx),bE (PL fuel _ _)]
  simp only[E.den,E.ts,List.length_cons]
  rw[show k+1+x.ts.length=k+(x.ts.length+1) by omega]
 |bi o x y ihx ihy=>
  intro b fuel k p pre post hT hk hw hp hf
  obtain⟨fuel,rfl⟩:∃f,fuel=f+1:=⟨fuel - 1,by omega⟩
  obtain⟨ht,hlk⟩:=start (l:=x.ts++y.ts) hT hk
  show cE (bI fuel) fuel W (k:Int) p=_
  unfold cE
  rw[eM ⟨by omega,hlk⟩,ht]
  dsimp only
  simp only[E.wf,Bool.and_eq_true,decide_eq_true_eq]at hw
  simp only[E.depth]at hf
  have hx:=ihx b fuel (k+1) p (pre++[(o,0)]) (y.ts++post) (by rw[hT];simp[E.ts]) (by simp[hk]) hw.1.2 hp (by omega)
  have hy:=ihy b fuel (k+1+x.ts.length) p (pre++(o,0)::x.ts) post (by rw[hT];simp[E.ts]) (by simp[hk];omega) hw.2 hp (by omega)
  rw[if_neg (by omega),if_neg (by omega),if_neg (by omega),if_pos (by omega),eX (by omega),bE (show bI fuel _ _ p=_ from hx),bE (show bI fuel _ _ p=_ from hy),bE (LV fuel _ _ _)]
  simp only[E.den,E.ts,List.length_cons,List.length_append]
  rw[show k+1+x.ts.length+y.ts.length=k+(x.ts.length+y.ts.length+1) by omega]
 |ite x y z ihx ihy ihz=>
  intro b fuel k p pre post hT hk hw hp hf
  obtain⟨fuel,rfl⟩:∃f,fuel=f+1:=⟨fuel - 1,by omega⟩
  obtain⟨ht,hlk⟩:=start (l:=x.ts++(y.ts++z.ts)) hT hk
  show cE (bI fuel) fuel W (k:Int) p=_
  unfold cE
  rw[eM ⟨by omega,hlk⟩,ht]
  dsimp only
  simp only[E.wf,Bool.and_eq_true]at hw
  simp only[E.depth]at hf
  have hx:=ihx b fuel (k+1) p (pre++[(43,0)]) (y.ts++z.ts++post) (by rw[hT];simp[E.ts]) (by simp[hk]) hw.1.1 hp (by omega)
  have hy:=ihy b fuel (k+1+x.ts.length) p (pre++(43,0)::x.ts) (z.ts++post) (by rw[hT];simp[E.ts]) (by simp[hk];omega) hw.1.2 hp (by omega)
  have hz:=ihz b fuel (k+1+x.ts.length+y.ts.length) p (pre++(43,0)::(x.ts++y.ts)) post (by rw[hT];simp[E.ts]) (by simp[hk];omega) hw.2 hp (by omega)
  rw[if_neg (by decide),if_neg (by decide),if_neg (by decide),if_neg (by decide),eX (by omega),bE (show bI fuel _ _ p=_ from hx),bE (show bI fuel _ _ p=_ from hy),bE (show bI fuel _ _ p=_ from hz)]
  simp only[E.den,E.ts,List.length_cons,List.length_append]
  rw[show k+1+x.ts.length+y.ts.length+z.ts.length=k+(x.ts.length+(y.ts.length+z.ts.length)+1) by omega]
  split<;>rfl
 | ag o x ih =>
  intro b fuel k p pre post hT hk hw hp hf
  obtain⟨fuel,rfl⟩:∃f,fuel=f+1:=⟨fuel - 1,by omega⟩
  obtain⟨ht,hlk⟩:=start (l:=x.ts) hT hk
  have har:=Qs hw
  have hwx:=hw
  simp only[E.wf,Bool.and_eq_true,Bool.or_eq_true,decide_eq_true_eq]at hwx
  simp only[E.depth]at hf
  have hts:(E.ag o x).ts.length=x.ts.length+1:=rfl
  have hlen:=congrArg List.length hT
  simp only[List.length_append]at hlen
  show cE (bI fuel) fuel W (k:Int) p=_
  unfold cE
  rw[eM ⟨by omega,hlk⟩,ht]
  dsimp only
  rw[if_neg (by omega),if_neg (by omega),if_pos (by omega),eM (by omega)]
  let D:Nat->Int:=fun q=>x.den (Ox W) deg ((q:Nat):Int)
  let V:Nat->bM:=fun q=>(List.range q).map D++List.replicate (24 - q) 0
  have hVl:∀q,q<=24->(V q).length=24:=fun q hq=>by simp[V];omega
  have hset:∀q,q<24->(V q).set q (D q)=V (q+1):=fun q hq=>by
   show((List.range q).map D++List.replicate (24 - q) 0).set q (D q)=(List.range (q+1)).map D++List.replicate (24 - (q+1)) 0
   rw[show 24 - q=(24 - (q+1))+1 by omega,List.replicate_succ,List.set_append_right _ _ (by simp),List.range_succ]
   simp
  let N:Nat->Int:=fun q=>if q=0 then 0 else(((k+1+x.ts.length:Nat)):Int)
  refine Eq.trans (dA (step:=gQ fuel W (k:Int) (bI fuel)) (K:=some ((E.ag o x).den (Ox W) deg p,(((k+(E.ag o x).ts.length:Nat)):Int))) deg (fun q=>(N q,(q:Int),V q)) (fun q ag hq=> ?_) (fun ag=> ?_) fuel (by omega)) rfl
  ·unfold gQ
   dsimp only
   have hx:=ih true fuel (k+1) ((q:Nat):Int) (pre++[(o,0)]) post (by rw[hT];simp[E.ts]) (by simp[hk]) hwx.2 (fun _=>⟨q,rfl,hq⟩) (by omega)
   rw[if_pos (by rw[hv,hdeg];omega),eX (by omega),bE (show bI fuel _ _ _=_ from hx),eM ⟨by omega,hVl q (by omega)⟩,eX (by omega),Int.toNat_natCast]
   show ag (_,_,(V q).set q (D q))=_
   rw[hset q (by omega)]
   simp only[N]
   rw[if_neg (by omega)]
  ·unfold gQ
   dsimp only
   rw[if_neg (by rw[hv,hdeg];omega)]
   have hfold:List.take deg (V deg)=(List.range deg).map D:=by
    show List.take deg ((List.range deg).map D++_)=_
    exact List.take_left' (by simp)
   have fin:∀y:Int,y=(((k+1+x.ts.length:Nat)):Int)->gP fuel W (k:Int) (N deg,V deg) y=some ((E.ag o x).den (Ox W) deg p,(((k+(E.ag o x).ts.length:Nat)):Int)):=by
    rintro y rfl
    unfold gP
    dsimp only
    rw[hv,hdeg,eM ⟨by omega,by omega,by rw[hVl deg hd24];omega⟩,ht,Int.toNat_natCast,hfold,bE (Ru fuel o _ (by omega) (by simp;omega) (by omega))]
    unfold jW
    rw[hts,show k+1+x.ts.length=k+(x.ts.length+1) by omega]
    rfl
   unfold mW
   dsimp only
   by_cases h0:deg=0
   ·rw[if_pos (by rw[hv,hdeg];omega),bE (Uh fuel (E.ag o x) har hT hk hT9 (by omega))]
    exact fin _ (by rw[hts];omega)
   ·rw[if_neg (by rw[hv,hdeg];omega)]
    exact fin _ (by simp only[N];rw[if_neg h0])
end
end Go.Proofs.YtlciiihigmgaiaaGreat
end
section
namespace Go.Proofs.YtlciiihigmgaiaaGreat
open Go.Sx
section
def eH (U:Nat) (p0:MJ) (p1:bJ) (p2:Int) (p3:eC):Option (Int):=
 Option.bind (bI U ((((((p0.1.1,p0.1.2.1,p0.1.2.2)),((p0.2.1.1,p0.2.1.2)),p0.2.2.1,p0.2.2.2)),p1,p2,p3)) (0:Int) (-1:Int)) fun r6=>(some (r6.1))
theorem NK:aZ Tryz.prog 80:=Tryz.call80
theorem rH (U:Nat) {p0:MJ} {p1:bJ} {p2:Int} {p3:eC} (bx0:Nat)  (v1:Value)  (v2:Value)  (v3:Value)  (v4:Value)  (z5:oY)  (v6:Value)  (z7:pH)  (v8:Value)  (z9:pH)  (v10:Value) (r:Int) (h:eH U p0 p1 p2 p3=some r):
  bA Tryz.prog 80 #[vP bx0,v8,vI (p2),v10] [dD bx0 [vS (p0.1.1),v1,v2,v3,v4,vI (p0.2.2.1),v6] 161,Sl aH v1 p0.1.2.1,Sl aC v2 p0.1.2.2,Sl bP v3 p0.2.1.1,S2 bH v4 z5 p0.2.1.2,S2 bP v6 z7 p0.2.2.2,S2 bP v8 z9 p1,Sl bH v10 p3] (fun x:Unit=>vI (r)) (fun x l=>l) (fun _ l=>l):=by
 refine bA.of Tryz.func80 rfl Tryz.ntmps80 rfl fun c=>?_
 refine aS<|aE rfl<|aN<|aS<|aA rfl<|aA rfl<|aA rfl<|aA rfl<|b_ (Know.one (aG.sl (aG.fact 6 rfl))) fun ho1=>b_ (Know.one ((aG.fact 7 rfl))) fun ho2=>?_
 refine aD (TA (r:=Value.agg #[Value.pointer (some ⟨bx0,0,none⟩),v8,vI (p2),v10]) rfl rfl rfl rfl (by intro w;simp[Instr.build,Instr.fill,gZ,fT,eW,g_,hJ,fU,jC,mT ho1,mT ho2])) rfl ?_
 refine aI (aK.alloc (cs:=[Value.pointer none,mG,vI (0:Int),mG]) rfl rfl) rfl fun b3=>b_ (Know.one (aG.sl (aG.fact 6 rfl))) fun ho4=>b_ (Know.one ((aG.fact 7 rfl))) fun ho5=>bZ 0 (vs:=[vP bx0,v8,vI (p2),v10]) rfl rfl (l_ rfl (l_ ho4 (l_ rfl (l_ ho5 rfl)))) rfl rfl rfl<|aN<|aS<|fE h fun r6 w7 h=>aI (aK.callQ uV (zI U b3 bx0 v1 v2 v3 v4 z5 v6 z7 v8 z9 v10 r6 w7) rfl (aF.cons (aG.res 0 rfl) (qC [0,1,2,3,4,5,6,7] rfl))) rfl fun x8=>aA rfl<|eT rfl<|eT rfl<|aE rfl<|aE rfl<|aN<|aS<|aA rfl<|aE rfl<|aN<|aU ?_
 cases h
 exact wO rfl
end
section
def gX (U:Nat) (p0:MJ) (p1:bJ) (p2:Int) (p3:Int):Option (Bool):=
 ck (0<=p3∧p3<(List.length p0.1.2.2:Int)) (Option.bind (eH U ((((p0.1.1,p0.1.2.1,p0.1.2.2)),((p0.2.1.1,p0.2.1.2)),p0.2.2.1,p0.2.2.2)) p1 p2 ((at' p0.1.2.2 p3).2.1.2)) fun r2=>(some (decide (r2≠(0:Int)))))
theorem TX:aZ Tryz.prog 79:=Tryz.call79
theorem yA (U:Nat) {p0:MJ} {p1:bJ} {p2:Int} {p3:Int} (bx0:Nat)  (v1:Value)  (v2:Value)  (v3:Value)  (v4:Value)  (z5:oY)  (v6:Value)  (z7:pH)  (v8:Value)  (z9:pH) (r:Bool) (h:gX U p0 p1 p2 p3=some r):
  bA Tryz.prog 79 #[vP bx0,v8,vI (p2),vI (p3)] [dD bx0 [vS (p0.1.1),v1,v2,v3,v4,vI (p0.2.2.1),v6] 161,Sl aH v1 p0.1.2.1,Sl aC v2 p0.1.2.2,Sl bP v3 p0.2.1.1,S2 bH v4 z5 p0.2.1.2,S2 bP v6 z7 p0.2.2.2,S2 bP v8 z9 p1] (fun x:Unit=>vB (r)) (fun x l=>l) (fun _ l=>l):=by
 refine bA.of Tryz.func79 rfl Tryz.ntmps79 rfl fun c=>?_
 refine aS<|aE rfl<|aN<|aS<|aA rfl<|aA rfl<|aA rfl<|aA rfl<|aD (bK rfl) rfl<|cH rfl<|cH rfl<|aD (cT rfl (aG.fact 0 rfl) rfl rfl rfl) rfl<|aA rfl<|fL h fun j1 h=>aD (bN rfl rfl (aG.fact 2 rfl) rfl rfl j1) rfl<|aD (lK rfl rfl rfl rfl rfl) rfl<|aD (mY rfl (aG.fact 2 rfl) rfl rfl rfl s_ j1) rfl<|fE h fun r2 w3 h=>aI (aK.callQ NK (rH U bx0 v1 v2 v3 v4 z5 v6 z7 v8 z9 ((at' p0.1.2.2 p3).2.1.1) r2 w3) rfl (aF.cons (aG.fact 0 rfl) (aF.cons (aG.fact 1 rfl) (aF.cons (aG.fact 2 rfl) (aF.cons (aG.fact 3 rfl) (aF.cons (aG.fact 4 rfl) (aF.cons (aG.fact 5 rfl) (aF.cons (aG.fact 6 rfl) (aF.cons (qF (aG.fact 2 rfl) tB j1.1 j1.2) .nil))))))))) rfl fun x4=>pC rfl<|aE rfl<|aN<|aU ?_
 cases h
 exact kW rfl
end
section
def jY  (a1:Unit):Option (Int):=
 some (-1:Int)
def gS (U:Nat) (p0:CB) (p1:bJ) (p2:Int) (a5:Int) (ag4:(Int)->Option (Int)):Option (Int):=
 if a5<(List.length p0.1.2.2:Int)then(Option.bind (gX U ((((p0.2.1.1.1,p0.2.1.1.2.1,p0.2.1.1.2.2)),((p0.2.1.2.1.1,p0.2.1.2.1.2)),p0.2.1.2.2.1,p0.2.1.2.2.2)) p1 p2 a5) fun r9=>(if r9=true then(some (a5))else(ag4 (wI .i64 (a5+(1:Int))))))else(jY  (()))
def dB (U:Nat) (p0:CB) (p1:bJ) (p2:Int):Option (Int):=
 bU (gS U p0 p1 p2) U (0:Int)
theorem NH:aZ Tryz.prog 47:=Tryz.call47
theorem sH (U:Nat) {p0:CB} {p1:bJ} {p2:Int} (bx0:Nat)  (v1:Value)  (v2:Value)  (bx3:Nat)  (v4:Value)  (v5:Value)  (v6:Value)  (v7:Value)  (z8:oY)  (v9:Value)  (z10:pH)  (v11:Value)  (z12:oY)  (v13:Value)  (z14:pH) (r:Int) (h:dB U p0 p1 p2=some r):
  bA Tryz.prog 47 #[vP bx0,v13,vI (p2)] [dD bx0 [vS (p0.1.1),v1,v2,vP bx3,v11] 117,Sl aH v1 p0.1.2.1,Sl aC v2 p0.1.2.2,dD bx3 [vS (p0.2.1.1.1),v4,v5,v6,v7,vI (p0.2.1.2.2.1),v9] 161,Sl aH v4 p0.2.1.1.2.1,Sl aC v5 p0.2.1.1.2.2,Sl bP v6 p0.2.1.2.1.1,S2 bH v7 z8 p0.2.1.2.1.2,S2 bP v9 z10 p0.2.1.2.2.2,S2 bH v11 z12 p0.2.2,S2 bP v13 z14 p1] (fun x:Unit=>vI (r)) (fun x l=>l) (fun _ l=>l):=by
 refine bA.of Tryz.func47 rfl Tryz.ntmps47 rfl fun c=>?_
 unfold dB at h
 refine aS<|aE rfl<|aN<|aM<|jS (fun a1=>jY  a1=some r) (fun a1 b2=>[]) (fun a1 b2=>[]) ?_ ?_
 ·refine aS<|aA rfl<|aD (bK rfl) rfl<|cH rfl<|cH rfl<|aD (cT rfl (aG.fact 0 rfl) rfl rfl rfl) rfl<|jT (aG.fact 2 rfl) rfl<|aA rfl<|aN<|aX<|gG (gS U p0 p1 p2) (fun a5 b6=>[(0,vP bx0),(1,v13),(2,vI (p2)),(13,vI (List.length p0.1.2.2:Int)),(14,vI (a5))]) (fun a5 b6=>[]) (0:Int) () h SF (bF.refl _) ?_
  intro k7 a5 b6 h
  refine aS<|dR rfl<|aN<|aM ?_
  refine fM h rfl (fun h=>?_) fun h=>?_
  ·refine dV<|aM<|aX<|aS<|aA rfl<|aE rfl<|aN<|aS<|aA rfl<|aD (bK rfl) rfl<|cH rfl<|aD (cT rfl (aG.fact 0 rfl) rfl rfl rfl) rfl<|aA rfl<|aA rfl<|aA rfl<|fE h fun r9 w10 h=>aI (aK.callQ TX (yA U bx3 v4 v5 v6 v7 z8 v9 z10 v13 z14 r9 w10) rfl (qC [3,4,5,6,7,8,10] rfl)) rfl fun x11=>aN ?_
   refine Cb h rfl (fun _ h=>?_) fun _ h=>?_
   ·refine aS<|aA rfl<|aE rfl<|aN<|aU<|bR<|aJ<|aJ<|bR<|aJ ?_
    cases h
    exact kW rfl
   refine e_<|qB<|aQ<|dG rfl<|aA rfl<|aN ?_
   exact Bf (wI .i64 (a5+(1:Int))) () h SF rfl
  refine h_ ?_
  exact lW () (()) h SF rfl
 intro a1 b2 h
 unfold jY at h
 refine aS<|aE rfl<|aN<|aU ?_
 cases h
 exact kW rfl
end
section
def pK (p0:Int) (p1:fO) (p2:Int) (a3:Bool):Option (Int):=
 if a3=true then(some (p2))else(if p0=(3:Int)then(some (-1:Int))else(if p2<p1.1 then(some (p1.1))else(some (p1.2))))
def qS (U:Nat) (p0:Int) (p1:fO) (p2:Int):Option (Int):=
 if p1.1<=p2 then(pK p0 p1 p2 (decide (p2<=p1.2)))else(pK p0 p1 p2 (false))
theorem TY:aZ Tryz.prog 81:=Tryz.call81
theorem EF (U:Nat) {p0:Int} {p1:fO} {p2:Int} (r:Int) (h:qS U p0 p1 p2=some r):
  bA Tryz.prog 81 #[vI (p0),Value.agg #[vI (p1.1),vI (p1.2)],vI (p2)] [] (fun x:Unit=>vI (r)) (fun x l=>l) (fun _ l=>l):=by
 refine bA.of Tryz.func81 rfl Tryz.ntmps81 rfl fun c=>?_
 refine aS<|aI (aK.box (cs:=[vI (p1.1),vI (p1.2)]) rfl rfl) rfl fun b1=>aE rfl<|aN<|aM<|aX<|aM<|jS (fun a3=>pK p0 p1 p2 a3=some r) (fun a3 b4=>[(0,vI (p0)),(2,vI (p2)),(4,vP b1),(7,vB (a3))]) (fun a3 b4=>[dD b1 [vI (p1.1),vI (p1.2)] 138]) ?_ ?_
 ·refine aQ<|aA rfl ?_
  refine aD (kZ (i:=0) rfl rfl rfl rfl rfl (by decide)) rfl ?_
  refine gE 0 rfl<|aD (Fy rfl rfl) rfl<|aA rfl ?_
  refine EV h rfl (fun _ h=>?_) fun _ h=>?_
  ·refine eQ rfl ?_
   refine bT rfl (kZ (i:=1) rfl rfl rfl rfl rfl (by decide)) rfl ?_
   refine bT rfl (nV 0 rfl rfl rfl rfl rfl) rfl<|bT rfl (Bq rfl rfl) rfl<|lD rfl<|aE rfl<|aN ?_
   exact lW (decide (p2<=p1.2)) () h SF rfl
  refine aT rfl<|aT rfl<|aT rfl<|aT rfl<|jU rfl<|aE rfl<|aN ?_
  exact lW (false) () h SF rfl
 intro a3 b4 h
 refine Cb h rfl (fun _ h=>?_) fun _ h=>?_
 ·refine aS<|aA rfl<|aE rfl<|aN<|aU<|bR<|aJ ?_
  cases h
  exact wO rfl
 refine aS<|aA rfl<|cN rfl<|aE rfl<|aN ?_
 refine fM h rfl (fun h=>?_) fun h=>?_
 ·refine aS<|aE rfl<|aN<|aU<|bR<|aJ ?_
  cases h
  exact wO rfl
 refine aS<|aA rfl ?_
 refine aD (kZ (i:=0) rfl rfl rfl rfl rfl (by decide)) rfl ?_
 refine gE 0 rfl<|dR rfl<|aE rfl<|aN ?_
 refine fM h rfl (fun h=>?_) fun h=>?_
 ·refine aS ?_
  refine aD (kZ (i:=0) rfl rfl rfl rfl rfl (by decide)) rfl ?_
  refine gE 0 rfl<|aE rfl<|aN<|aU<|bR<|aJ ?_
  cases h
  exact wO rfl
 refine e_<|qB<|aS ?_
 refine aD (kZ (i:=1) rfl rfl rfl rfl rfl (by decide)) rfl ?_
 refine gE 0 rfl<|aE rfl<|aN<|aU ?_
 cases h
 exact wO rfl
end
section
def jX  (a5:bM):Option bM:=
 some (a5)
def gR (U:Nat) (p0:CB) (p1:bJ) (p2:Int) (p3:Int) (a11:Int×bM) (ag10:(Int×bM)->Option bM):Option bM:=
 if a11.1<(List.length ((at' p0.1.2.2 p3).2.2.2):Int)then(ck (0<=a11.1∧a11.1<(List.length ((at' p0.1.2.2 p3).2.2.2):Int)) (Option.bind (eH U ((((p0.2.1.1.1,p0.2.1.1.2.1,p0.2.1.1.2.2)),((p0.2.1.2.1.1,p0.2.1.2.1.2)),p0.2.1.2.2.1,p0.2.1.2.2.2)) p1 p2 ((at' ((at' p0.1.2.2 p3).2.2.2) a11.1).2.2)) fun r18=>(ck (0<=((at' ((at' p0.1.2.2 p3).2.2.2) a11.1).1)∧((at' ((at' p0.1.2.2 p3).2.2.2) a11.1).1)<(List.length p0.1.2.1:Int)) (ck (0<=p2∧p2<(List.length p0.2.2:Int)) (ck (0<=((at' ((at' p0.1.2.2 p3).2.2.2) a11.1).1)∧((at' ((at' p0.1.2.2 p3).2.2.2) a11.1).1)<(List.length (at' p0.2.2 p2):Int)) (Option.bind (qS U ((at' p0.1.2.1 ((at' ((at' p0.1.2.2 p3).2.2.2) a11.1).1)).2.1) ((((at' (at' p0.2.2 p2) ((at' ((at' p0.1.2.2 p3).2.2.2) a11.1).1)).1),((at' (at' p0.2.2 p2) ((at' ((at' p0.1.2.2 p3).2.2.2) a11.1).1)).2))) r18) fun r24=>(ck (0<=((at' ((at' p0.1.2.2 p3).2.2.2) a11.1).1)∧((at' ((at' p0.1.2.2 p3).2.2.2) a11.1).1)<(List.length a11.2:Int)) (ag10 ((wI .i64 (a11.1+(1:Int))),(List.set a11.2 (Int.toNat ((at' ((at' p0.1.2.2 p3).2.2.2) a11.1).1)) r24))))))))))else(jX  (a11.2))
def iJ (U:Nat) (p0:CB) (p1:bJ) (p2:Int) (p3:Int):Option bM:=
 ck (0<=p2∧p2<(List.length p1:Int)) (ck ((List.length ([]:bM):Int)+(List.length (at' p1 p2):Int)<=1099511627) (ck (0<=p3∧p3<(List.length p0.1.2.2:Int)) (bU (gR U p0 p1 p2 p3) U ((0:Int),(([]:bM)++(at' p1 p2))))))
theorem TP:aZ Tryz.prog 48:=Tryz.call48
theorem zJ (U:Nat) {p0:CB} {p1:bJ} {p2:Int} {p3:Int} (bx0:Nat)  (v1:Value)  (v2:Value)  (bx3:Nat)  (v4:Value)  (v5:Value)  (v6:Value)  (v7:Value)  (z8:oY)  (v9:Value)  (z10:pH)  (v11:Value)  (z12:oY)  (v13:Value)  (z14:pH) (r:bM) (h:iJ U p0 p1 p2 p3=some r):
  bA Tryz.prog 48 #[vP bx0,v13,vI (p2),vI (p3)] [dD bx0 [vS (p0.1.1),v1,v2,vP bx3,v11] 117,Sl aH v1 p0.1.2.1,Sl aC v2 p0.1.2.2,dD bx3 [vS (p0.2.1.1.1),v4,v5,v6,v7,vI (p0.2.1.2.2.1),v9] 161,Sl aH v4 p0.2.1.1.2.1,Sl aC v5 p0.2.1.1.2.2,Sl bP v6 p0.2.1.2.1.1,S2 bH v7 z8 p0.2.1.2.1.2,S2 bP v9 z10 p0.2.1.2.2.2,S2 bH v11 z12 p0.2.2,S2 bP v13 z14 p1] (fun x:Value=>x) (fun x l=>Ar cU x r::l) (fun _ l=>l):=by
 refine bA.of Tryz.func48 rfl Tryz.ntmps48 rfl fun c=>?_
 refine aS<|aE rfl<|aN<|aS<|aA rfl<|aA rfl<|fL h fun j1 h=>aD (cX rfl rfl (aG.fact 10 rfl) rfl rfl j1) rfl<|aD (dH rfl (aG.fact 10 rfl) rfl rfl j1) rfl<|oH (rM cU)<|fL h fun j3 h=>aI (nU 0 eL rfl rfl rfl (aG.el (aG.fact 10 rfl) j1.1 j1.2) rfl rfl rfl rfl j3 rfl) rfl fun u2=>aE rfl<|aN<|aM<|jS (fun a5=>jX  a5=some r) (fun a5 b6=>[(9,u2)]) (fun a5 b6=>[Ar cU u2 a5]) ?_ ?_
 ·refine aS<|aA rfl<|aD (bK rfl) rfl<|cH rfl<|cH rfl<|aD (cT rfl (aG.fact 0 rfl) rfl rfl rfl) rfl<|aA rfl<|fL h fun j7 h=>aD (bN rfl rfl (aG.fact 2 rfl) rfl rfl j7) rfl<|aD (lK rfl rfl rfl rfl rfl) rfl<|aD (mY rfl (aG.fact 2 rfl) rfl rfl rfl tA j7) rfl<|aD (mV rfl (qF (aG.fact 2 rfl) eI j7.1 j7.2) rfl) rfl<|aA rfl<|aN<|aX<|gG (gR U p0 p1 p2 p3) (fun a11 b12=>[(0,vP bx0),(1,v13),(2,vI (p2)),(9,u2),(26,(at' p0.1.2.2 p3).2.2.1),(27,vI (List.length ((at' p0.1.2.2 p3).2.2.2):Int)),(28,vI (a11.1))]) (fun a11 b12=>[Ar cU u2 a11.2]) ((0:Int),(([]:bM)++(at' p1 p2))) () h SF (bF.refl _) ?_
  intro k13 a11 b12 h
  refine aS<|dR rfl<|aN<|aM ?_
  refine fM h rfl (fun h=>?_) fun h=>?_
  ·refine dV<|aM<|aX<|aS<|fL h fun j15 h=>aD (bN rfl rfl (qF (aG.fact 2 rfl) eI j7.1 j7.2) rfl rfl j15) rfl<|aD (JB (cs:=[vI ((at' ((at' p0.1.2.2 p3).2.2.2) a11.1).1),(at' ((at' p0.1.2.2 p3).2.2.2) a11.1).2.1]) rfl (qF (aG.fact 2 rfl) eI j7.1 j7.2) EX rfl rfl rfl rfl j15) rfl<|aI (aK.alloc (cs:=[vI (0:Int),mG]) rfl rfl) rfl fun b16=>b_ (Know.one ((qF (qF (aG.fact 2 rfl) eI j7.1 j7.2) xS j15.1 j15.2))) fun ho17=>bZ 0 (vs:=[vI ((at' ((at' p0.1.2.2 p3).2.2.2) a11.1).1),(at' ((at' p0.1.2.2 p3).2.2.2) a11.1).2.1]) rfl rfl (l_ rfl (l_ ho17 rfl)) rfl rfl rfl<|aN<|aM ?_
   refine JR.start [0,1,3,7,0,0,0,64,255,511] 8 mixedOrders (by decide +kernel) ?_
   refine JR.open (by exact rfl) ?_
   refine bL rfl<|oJ rfl (bK rfl)<|cQ rfl<|bO rfl .nil (oF 0 rfl) (cT rfl (aG.fact 0 rfl) rfl rfl rfl) aO.z<|bL rfl<|bL rfl<|cQ rfl<|kF 0 rfl<|cR 8 rfl rfl<|fE h fun r18 w19 h=>aI (aK.callQ NK (rH U bx3 v4 v5 v6 v7 z8 v9 z10 v13 z14 ((at' ((at' p0.1.2.2 p3).2.2.2) a11.1).2.1) r18 w19) rfl (aF.cons (aG.fact 3 rfl) (aF.cons (aG.fact 4 rfl) (aF.cons (aG.fact 5 rfl) (aF.cons (aG.fact 6 rfl) (aF.cons (aG.fact 7 rfl) (aF.cons (aG.fact 8 rfl) (aF.cons (aG.fact 10 rfl) (aF.cons (qF (qF (aG.fact 2 rfl) eI j7.1 j7.2) xS j15.1 j15.2) .nil))))))))) rfl fun x20=>aE rfl<|aN ?_
   refine JR.start [0,0,2,0,8,24,56,120,0,256,1016,2040,4088,0,8192,24576,57344,0,253952,516096,0,1048576,4186112,8380416,0,33554424,67108863,134217727] 26 mixedOrders (by decide +kernel) ?_
   refine JR.open (by exact rfl) ?_
   refine bL rfl<|cQ rfl<|kF 0 rfl<|bL rfl<|oJ rfl (bK rfl)<|cQ rfl<|cQ rfl<|bO rfl .nil (oF 0 rfl) (cT rfl (aG.fact 0 rfl) rfl rfl rfl) aO.z<|cQ rfl<|kF 0 rfl<|fL h fun j21 h=>bO rfl .nil (oF 1 rfl) (bN rfl rfl (aG.fact 0 rfl) rfl rfl j21) aO.z<|oJ rfl (lK rfl rfl rfl rfl rfl)<|bO rfl .nil (oF 1 rfl) (mY rfl (aG.fact 0 rfl) rfl rfl rfl rC j21) aO.z<|bL rfl<|oJ rfl (bK rfl)<|cQ rfl<|bO rfl .nil (oF 0 rfl) (cT rfl (aG.fact 0 rfl) rfl rfl rfl) aO.z<|bL rfl<|fL h fun j22 h=>bO rfl .nil (oF 9 rfl) (cX rfl rfl (aG.fact 0 rfl) rfl rfl j22) aO.z<|bO rfl .nil (oF 9 rfl) (dH rfl (aG.fact 0 rfl) rfl rfl j22) aO.z<|cQ rfl<|kF 0 rfl<|fL h fun j23 h=>bO rfl .nil (oF 9 rfl) (bN rfl rfl (aG.el (aG.fact 0 rfl) j22.1 j22.2) rfl rfl j23) aO.z<|bO rfl .nil (oF 9 rfl) (iS (cs:=[vI ((at' (at' p0.2.2 p2) ((at' ((at' p0.1.2.2 p3).2.2.2) a11.1).1)).1),vI ((at' (at' p0.2.2 p2) ((at' ((at' p0.1.2.2 p3).2.2.2) a11.1).1)).2)]) rfl (aG.el (aG.fact 0 rfl) j22.1 j22.2) bG rfl rfl rfl rfl j23) aO.z<|bL rfl<|fE h fun r24 w25 h=>JR.loud rfl rfl rfl (aK.callQ TY (EF U  r24 w25) rfl .nil) rfl (fun x26=>(uQ [([0],[])] rfl)) fun x26=>cR 26 rfl rfl<|fL h fun j27 h=>aD (bN rfl rfl (cC (aG.res 1 rfl) eL) rfl rfl j27) rfl<|Nc 1 r24 j27 rfl rfl rfl rfl rfl rfl rfl<|fJ<|qB<|aQ<|dG rfl<|aA rfl<|aN ?_
   exact mH ((wI .i64 (a11.1+(1:Int))),(List.set a11.2 (Int.toNat ((at' ((at' p0.1.2.2 p3).2.2.2) a11.1).1)) r24)) () h SF (bF.ix [1] rfl rfl) (aF.refl _ _)
  refine h_ ?_
  exact lW (a11.2) () h SF rfl
 intro a5 b6 h
 unfold jX at h
 refine aS<|aA rfl<|aE rfl<|aN<|aU ?_
 cases h
 exact mX (u2) rfl rfl (RV.tmp rfl) (bF.refl _) aF.nil
end
section
def jZ  (a6:bJ):Option bJ:=
 some (a6)
def gT (a12:rI) (ag11:(Int×bJ)->Option bJ) (a18:bJ):Option bJ:=
 ag11 ((wI .i64 (a12.1+(1:Int))),a18)
def fF (U:Nat) (p0:CB) (p1:bJ) (p2:Int) (a12:rI) (ag11:(Int×bJ)->Option bJ):Option bJ:=
 if a12.1<(List.length p1:Int)then(ck (0<=a12.1) (if(uP .u32 (HT .u32 p2 a12.1) (1:Int))=(1:Int)then(Option.bind (dB U ((((p0.1.1,p0.1.2.1,p0.1.2.2)),((((p0.2.1.1.1,p0.2.1.1.2.1,p0.2.1.1.2.2)),((p0.2.1.2.1.1,p0.2.1.2.1.2)),p0.2.1.2.2.1,p0.2.1.2.2.2)),p0.2.2)) p1 a12.1) fun r22=>(Option.bind (iJ U ((((p0.1.1,p0.1.2.1,p0.1.2.2)),((((p0.2.1.1.1,p0.2.1.1.2.1,p0.2.1.1.2.2)),((p0.2.1.2.1.1,p0.2.1.2.1.2)),p0.2.1.2.2.1,p0.2.1.2.2.2)),p0.2.2)) p1 a12.1 r22) fun r25=>(ck (0<=a12.1∧a12.1<(List.length a12.2:Int)) (gT a12 ag11 (List.set a12.2 (Int.toNat a12.1) r25)))))else(gT a12 ag11 (a12.2))))else(jZ  (a12.2))
def iK (U:Nat) (p0:CB) (p1:bJ) (p2:Int):Option bJ:=
 Option.bind (rZ U p1) fun r1=>(bU (fF U p0 p1 p2) U ((0:Int),r1))
theorem TN:aZ Tryz.prog 39:=Tryz.call39
theorem zK (U:Nat) {p0:CB} {p1:bJ} {p2:Int} (bx0:Nat)  (v1:Value)  (v2:Value)  (bx3:Nat)  (v4:Value)  (v5:Value)  (v6:Value)  (v7:Value)  (z8:oY)  (v9:Value)  (z10:pH)  (v11:Value)  (z12:oY)  (v13:Value)  (z14:pH) (r:bJ) (h:iK U p0 p1 p2=some r):
  bA Tryz.prog 39 #[vP bx0,v13,vU (p2)] [dD bx0 [vS (p0.1.1),v1,v2,vP bx3,v11] 117,Sl aH v1 p0.1.2.1,Sl aC v2 p0.1.2.2,dD bx3 [vS (p0.2.1.1.1),v4,v5,v6,v7,vI (p0.2.1.2.2.1),v9] 161,Sl aH v4 p0.2.1.1.2.1,Sl aC v5 p0.2.1.1.2.2,Sl bP v6 p0.2.1.2.1.1,S2 bH v7 z8 p0.2.1.2.1.2,S2 bP v9 z10 p0.2.1.2.2.2,S2 bH v11 z12 p0.2.2,S2 bP v13 z14 p1] (fun x:AO=>x.1) (fun x l=>Ar dZ.raw x.1 x.2::i_ cU x.2 r::l) (fun _ l=>l):=by
 refine bA.of Tryz.func39 rfl Tryz.ntmps39 rfl fun c=>?_
 refine aS<|aE rfl<|aN<|aS<|aA rfl<|fE h fun r1 w2 h=>aI (aK.callQ TV (Fg U v13 z14 r1 w2) rfl (qC [10] rfl)) rfl fun x3=>aE rfl<|aN<|aM<|yX (B:=iN) (fun a6=>jZ  a6=some r) (fun a6 b7=>[(7,x3.1)]) (fun a6 b7=>[Ar dZ.raw x3.1 b7,i_ cU b7 a6]) ?_ ?_
 ·refine aS<|aA rfl<|aD (jI rfl (aG.fact 10 rfl) rfl) rfl<|aA rfl<|aN<|aX<|gG (B:=iN) (fF U p0 p1 p2) (fun a12 b13=>[(0,vP bx0),(1,v13),(2,vU (p2)),(7,x3.1),(12,vI (List.length p1:Int)),(13,vI (a12.1))]) (fun a12 b13=>[Ar dZ.raw x3.1 b13,i_ cU b13 a12.2]) ((0:Int),r1) (x3.2) h SF (bF.refl _) ?_
  intro k14 a12 b13 h
  refine aS<|dR rfl<|aN<|aM ?_
  refine fM h rfl (fun h=>?_) fun h=>?_
  ·refine dV<|aM<|yX (B:=iN) (fun a18=>gT a12 (bU (fF U p0 p1 p2) k14) a18=some r) (fun a18 b19=>[(0,vP bx0),(1,v13),(2,vU (p2)),(7,x3.1),(12,vI (List.length p1:Int)),(13,vI (a12.1))]) (fun a18 b19=>[Ar dZ.raw x3.1 b19,i_ cU b19 a18]) ?_ ?_
   ·refine aX<|aS<|aA rfl<|aE rfl<|aN<|aS<|aA rfl<|aA rfl<|fL h fun j20 h=>aD (SN rfl rfl j20) rfl<|F_ rfl<|cN rfl<|aN ?_
    refine fM h rfl (fun h=>?_) fun h=>?_
    ·refine aQ<|aA rfl<|aA rfl<|aA rfl<|aA rfl<|aA rfl<|aA rfl<|aA rfl<|aA rfl<|fE h fun r22 w23 h=>aI (aK.callQ NH (sH U bx0 v1 v2 bx3 v4 v5 v6 v7 z8 v9 z10 v11 z12 v13 z14 r22 w23) rfl (qC [0,1,2,3,4,5,6,7,8,9,10] rfl)) rfl fun x24=>fE h fun r25 w26 h=>aI (aK.callQ TP (zJ U bx0 v1 v2 bx3 v4 v5 v6 v7 z8 v9 z10 v11 z12 v13 z14 r25 w26) rfl (qC [0,1,2,3,4,5,6,7,8,9,10] rfl)) rfl fun x27=>fL h fun j28 h=>aD (cX rfl rfl (bD (i:=1) (j:=2) rfl rfl eL) rfl rfl j28) rfl<|b_ (Know.one ((cC (aG.res 0 rfl) eL))) fun ho29=>oH (rO (k:=a12.1) 2 0 rfl rfl rfl j28) ?_
     refine jH 0 1 ⟨j28.1,by first|exact j28.2|simpa using j28.2⟩ rfl rfl rfl rfl rfl (by simp) ho29 rfl ?_
     refine fJ<|qB ?_
     exact lW (List.set a12.2 (Int.toNat a12.1) r25) (List.set b13 (Int.toNat a12.1) x27) h SF rfl
    refine e_<|qB ?_
    exact lW (a12.2) (b13) h SF rfl
   intro a18 b19 h
   unfold gT at h
   refine aQ<|dG rfl<|aA rfl<|aN ?_
   exact Bf ((wI .i64 (a12.1+(1:Int))),a18) (b19) h SF rfl
  refine h_ ?_
  exact lW (a12.2) (b13) h SF rfl
 intro a6 b7 h
 unfold jZ at h
 refine aS<|aA rfl<|aE rfl<|aN<|aU ?_
 cases h
 exact mX (x3.1,b7) rfl rfl (RV.tmp rfl) (bF.refl _) aF.nil
end
section
def sB  (a2:Int):Option (Int):=
 some (a2)
def pF (a7:fO) (ag6:gL->Option (Int)) (a12:Int):Option (Int):=
 ag6 (a12,(wI .i64 (a7.2+(1:Int))))
def mU (p0:Int) (g1:Int->Option Bool) (a7:fO) (ag6:gL->Option (Int)):Option (Int):=
 if a7.2<p0 then(Option.bind (g1 a7.2) fun r14=>(if r14=true then(ck (0<=a7.2) (pF a7 ag6 (TH .u32 a7.1 (Bt .u32 (1:Int) a7.2))))else(pF a7 ag6 (a7.1))))else(sB  (a7.1))
def tF (U:Nat) (p0:Int) (g1:Int->Option Bool):Option (Int):=
 bU (mU p0 g1) U ((0:Int),(0:Int))
theorem TR:aZ Tryz.prog 64:=Tryz.call64
theorem Hp (U:Nat) {p0:Int} {g1:Int->Option Bool} (f1:FuncId) (cs1:iN) (Lf:List aP) (hb_g1:aZ Tryz.prog f1) (hm_g1:∀(y0:Int) (r:Bool),g1 y0=some r->bA Tryz.prog f1 ([vI (y0)]++cs1).toArray Lf (fun _:Unit=>vB (r)) (fun _ l=>l) (fun _ l=>l)) (r:Int) (h:tF U p0 g1=some r):
  bA Tryz.prog 64 #[vI (p0),Value.func (.func f1) #[] (cs1).toArray] ([]++Lf) (fun x:Unit=>vU (r)) (fun x l=>l) (fun _ l=>l):=by
 refine bA.of Tryz.func64 rfl Tryz.ntmps64 rfl fun c=>?_
 unfold tF at h
 refine aS<|aE rfl<|aN<|aS<|aE rfl<|aN<|aM<|tO (B:=Unit) (fun a2=>sB  a2=some r) (fun a2 b3=>[(5,vU (a2))]) (fun a2 b3=>[]) (fun a2 b3=>([]++Lf)) ?_ ?_
 ·refine aS<|aA rfl<|aA rfl<|aN<|aX<|De (B:=Unit) (mU p0 g1) (fun a7 b8=>[(1,Value.func (.func f1) #[] (cs1).toArray),(5,vU (a7.1)),(7,vI (p0)),(8,vI (a7.2))]) (fun a7 b8=>[]) (fun a7 b8=>([]++Lf)) ((0:Int),(0:Int)) () h SF (bF.refl _) (aF.refl _ _) ?_
  intro k9 a7 b8 h
  refine aS<|dR rfl<|aN<|aM ?_
  refine fM h rfl (fun h=>?_) fun h=>?_
  ·refine dV<|aM<|tO (B:=Unit) (fun a12=>pF a7 (bU (mU p0 g1) k9) a12=some r) (fun a12 b13=>[(1,Value.func (.func f1) #[] (cs1).toArray),(5,vU (a12)),(7,vI (p0)),(8,vI (a7.2))]) (fun a12 b13=>[]) (fun a12 b13=>([]++Lf)) ?_ ?_
   ·refine aX<|aS<|aA rfl<|aE rfl<|aN<|aS<|aA rfl<|aA rfl<|fE h fun r14 w15 h=>aI (sE (vs:=[vI (a7.2)]) (cs:=cs1) hb_g1 rfl (hm_g1 a7.2 r14 w15) rfl (aF.tail _) (fun _ _=>rfl)) rfl fun x16=>aN ?_
    refine Cb h rfl (fun _ h=>?_) fun _ h=>?_
    ·refine aQ<|aA rfl<|aA rfl<|fL h fun j18 h=>aD (Nv rfl rfl j18) rfl<|aD (XL rfl rfl) rfl<|aE rfl<|fJ<|qB ?_
     exact lW (TH .u32 a7.1 (Bt .u32 (1:Int) a7.2)) () h SF rfl
    refine e_<|qB ?_
    exact lW (a7.1) () h SF rfl
   intro a12 b13 h
   unfold pF at h
   refine aQ<|dG rfl<|aA rfl<|aN ?_
   exact Bf (a12,(wI .i64 (a7.2+(1:Int)))) () h SF rfl
  refine h_ ?_
  exact lW (a7.1) () h SF rfl
 intro a2 b3 h
 unfold sB at h
 refine aS<|aA rfl<|aE rfl<|aN<|aU ?_
 cases h
 exact kW rfl
end
section
def gO (U:Nat) (p0:Int) (p1:CB) (p2:bJ):Option (Bool):=
 Option.bind (dB U ((((p1.1.1,p1.1.2.1,p1.1.2.2)),((((p1.2.1.1.1,p1.2.1.1.2.1,p1.2.1.1.2.2)),((p1.2.1.2.1.1,p1.2.1.2.1.2)),p1.2.1.2.2.1,p1.2.1.2.2.2)),p1.2.2)) p2 p0) fun r1=>(some (decide ((0:Int)<=r1)))
theorem TS:aZ Tryz.prog 65:=Tryz.call65
theorem uR (U:Nat) {p0:Int} {p1:CB} {p2:bJ} (bx0:Nat)  (bx1:Nat)  (v2:Value)  (v3:Value)  (bx4:Nat)  (v5:Value)  (v6:Value)  (v7:Value)  (v8:Value)  (z9:oY)  (v10:Value)  (z11:pH)  (v12:Value)  (z13:oY)  (bx14:Nat)  (v15:Value)  (z16:pH) (r:Bool) (h:gO U p0 p1 p2=some r):
  bA Tryz.prog 65 #[vI (p0),vP bx0,vP bx14] [dD bx0 [vP bx1] 76,dD bx1 [vS (p1.1.1),v2,v3,vP bx4,v12] 117,Sl aH v2 p1.1.2.1,Sl aC v3 p1.1.2.2,dD bx4 [vS (p1.2.1.1.1),v5,v6,v7,v8,vI (p1.2.1.2.2.1),v10] 161,Sl aH v5 p1.2.1.1.2.1,Sl aC v6 p1.2.1.1.2.2,Sl bP v7 p1.2.1.2.1.1,S2 bH v8 z9 p1.2.1.2.1.2,S2 bP v10 z11 p1.2.1.2.2.2,S2 bH v12 z13 p1.2.2,dD bx14 [v15] 41,S2 bP v15 z16 p2] (fun x:Unit=>vB (r)) (fun x l=>l) (fun _ l=>l):=by
 refine bA.of Tryz.func65 rfl Tryz.ntmps65 rfl fun c=>?_
 refine aS<|aE rfl<|aN<|aS<|aD (cT rfl (aG.fact 0 rfl) rfl rfl rfl) rfl<|aD (cT rfl (aG.fact 11 rfl) rfl rfl rfl) rfl<|aA rfl<|fE h fun r1 w2 h=>aI (aK.callQ NH (sH U bx1 v2 v3 bx4 v5 v6 v7 v8 z9 v10 z11 v12 z13 v15 z16 r1 w2) rfl (qC [1,2,3,4,5,6,7,8,9,10,12] rfl)) rfl fun x3=>aD (Fy rfl rfl) rfl<|aE rfl<|aN<|aU ?_
 cases h
 exact kW rfl
end
section
def dO (U:Nat) (p0:CB) (p1:bJ):Option (Int):=
 Option.bind (tF U (List.length p0.2.2:Int) (fun y0=>gO U y0 ((((p0.1.1,p0.1.2.1,p0.1.2.2)),((((p0.2.1.1.1,p0.2.1.1.2.1,p0.2.1.1.2.2)),((p0.2.1.2.1.1,p0.2.1.2.1.2)),p0.2.1.2.2.1,p0.2.1.2.2.2)),p0.2.2)) p1)) fun r4=>(some (r4))
theorem NF:aZ Tryz.prog 34:=Tryz.call34
theorem qI (U:Nat) {p0:CB} {p1:bJ} (bx0:Nat)  (v1:Value)  (v2:Value)  (bx3:Nat)  (v4:Value)  (v5:Value)  (v6:Value)  (v7:Value)  (z8:oY)  (v9:Value)  (z10:pH)  (v11:Value)  (z12:oY)  (v13:Value)  (z14:pH) (r:Int) (h:dO U p0 p1=some r):
  bA Tryz.prog 34 #[vP bx0,v13] [dD bx0 [vS (p0.1.1),v1,v2,vP bx3,v11] 117,Sl aH v1 p0.1.2.1,Sl aC v2 p0.1.2.2,dD bx3 [vS (p0.2.1.1.1),v4,v5,v6,v7,vI (p0.2.1.2.2.1),v9] 161,Sl aH v4 p0.2.1.1.2.1,Sl aC v5 p0.2.1.1.2.2,Sl bP v6 p0.2.1.2.1.1,S2 bH v7 z8 p0.2.1.2.1.2,S2 bP v9 z10 p0.2.1.2.2.2,S2 bH v11 z12 p0.2.2,S2 bP v13 z14 p1] (fun x:Unit=>vU (r)) (fun x l=>l) (fun _ l=>l):=by
 refine bA.of Tryz.func34 rfl Tryz.ntmps34 rfl fun c=>?_
 refine aS<|aI (aK.box (cs:=[vP bx0]) rfl rfl) rfl fun b1=>b_ (Know.one (aG.sl (aG.fact 10 rfl))) fun ho3=>?_
 refine aI (aK.box (cs:=[v13]) rfl (by rw[mT ho3])) rfl fun b2=>?_
 refine aE rfl<|aN<|aS<|gE 1 rfl<|aD (bK rfl) rfl<|cH rfl<|aD (cT rfl (aG.fact 0 rfl) rfl rfl rfl) rfl<|aD (jI rfl (aG.fact 9 rfl) rfl) rfl<|aD (JC (cs:=[.tmp 2,.tmp 3]) (vs:=[vP b1,vP b2]) rfl) rfl<|fE h fun r4 w5 h=>aI (aK.callQ TR (Hp U 65 [vP b1,vP b2] [dD b1 [vP bx0] 76,dD bx0 [vS (p0.1.1),v1,v2,vP bx3,v11] 117,Sl aH v1 p0.1.2.1,Sl aC v2 p0.1.2.2,dD bx3 [vS (p0.2.1.1.1),v4,v5,v6,v7,vI (p0.2.1.2.2.1),v9] 161,Sl aH v4 p0.2.1.1.2.1,Sl aC v5 p0.2.1.1.2.2,Sl bP v6 p0.2.1.2.1.1,S2 bH v7 z8 p0.2.1.2.1.2,S2 bP v9 z10 p0.2.1.2.2.2,S2 bH v11 z12 p0.2.2,dD b2 [v13] 41,S2 bP v13 z14 p1] TS (fun y0 r h=>uR U b1 bx0 v1 v2 bx3 v4 v5 v6 v7 z8 v9 z10 v11 z12 b2 v13 z14 r h) r4 w5) rfl (aF.cons (aG.res 1 rfl) (aF.cons (aG.fact 0 rfl) (aF.cons (aG.fact 1 rfl) (aF.cons (aG.fact 2 rfl) (aF.cons (aG.fact 3 rfl) (aF.cons (aG.fact 4 rfl) (aF.cons (aG.fact 5 rfl) (aF.cons (aG.fact 6 rfl) (aF.cons (aG.fact 7 rfl) (aF.cons (aG.fact 8 rfl) (aF.cons (aG.fact 9 rfl) (aF.cons (aG.res 0 rfl) (qC [10] rfl)))))))))))))) rfl fun x6=>aE rfl<|aN<|aU ?_
 cases h
 exact wO rfl
end
end Go.Proofs.YtlciiihigmgaiaaGreat
end
section
namespace Go.Proofs.YtlciiihigmgaiaaGreat
open Go Go.Sx
abbrev RL:=E×List (Nat×E)
abbrev x_:=Bm×GR×Int×bJ
def yS (R:List RL):List (eC×List (Int×eC)):=R.map fun r=>(r.1.ts,r.2.map fun s=>((s.1:Int),s.2.ts))
def FJ (nv:Nat) (e:E):Bool:=e.wf nv false&&decide (e.depth<=100)&&decide (e.ts.length<=800)
def nR (nv:Nat) (R:List RL):Bool:=decide (R.length<=20)&&R.all fun r=>FJ nv r.1&&decide (r.2.length<=20)&&r.2.all fun s=>decide (s.1<nv)&&FJ nv s.2
instance:Inhabited E:=⟨.lf 1 0⟩
def DO (g:GR) (v i:Nat):Int:=vO (row g (iI (row g v) i).1.toNat) (v:Int)
def dY (g:GR):bJ:=(List.range g.2.length).map fun v=>(List.range (row g v).length).map (DO g v)
def tW (S:x_) (c:bJ) (v:Nat) (e:E):Int:=e.den (Ox (S,c,(v:Int),[])) (row S.2.1 v).length (-1)
def lU (S:x_) (R:List RL) (c:bJ) (v:Nat):Int:=iG (R.map fun r=>tW S c v r.1)
def JI (kind:Int) (b:fO) (x:Int):Int:=if b.1<=x∧x<=b.2 then x else if kind=3 then -1 else if x<b.1 then b.1 else b.2
def ED (S:x_) (vars:List AH) (c:bJ) (v:Nat) (st:bM) (s:Nat×E):bM:=st.set s.1 (JI (at' vars (s.1:Int)).2.1 (CJ S.2.1 vars v s.1) (tW S c v s.2))
def yY (S:x_) (vars:List AH) (R:List RL) (c:bJ) (v:Nat) (i:Int):bM:=(at' R i).2.foldl (ED S vars c v) (at' c (v:Int))
def yR (S:x_) (R:List RL) (c:bJ):Nat:=uZ (fun v=>decide (0<=lU S R c v)) S.2.1.2.length
def uF (S:x_) (vars:List AH) (R:List RL) (c:bJ) (t:Nat):bJ:=(List.range c.length).map fun v=>if t.testBit v=true then yY S vars R c v (lU S R c v)else at' c (v:Int)
structure tQ (g:GR) (nv:Nat) (c:bJ):Prop where
 len:c.length=g.2.length
 row:∀v:Nat,v<g.2.length->(at' c (v:Int)).length=nv
theorem Qj.shape {g:GR} {c:bJ} {vars:List AH} (h:Qj g c vars):tQ g vars.length c:=⟨h.len,h.row⟩
section
variable {S:x_} {nv:Nat} {c:List (List Int)} {v:Nat}
theorem wok (hS:S.2.2.2=dY S.2.1) (hV:VG S.2.1) (hc:tQ S.2.1 nv c) (hv:v<S.2.1.2.length) (ts:List (Int×Int)):XK (S,c,(v:Int),ts) nv S.2.1.2.length v:=by
 refine⟨rfl,hv,rfl,hV.len,hc.len,hc.row,fun u hu i hi=> ?_,by show S.2.2.2.length=_;rw[hS];simp[dY],fun u hu=>by
  show(at' S.2.2.2 (u:Int)).length=_
  rw[hS,dY,wJ _ hu,List.length_map,List.length_range]⟩
 obtain⟨w,h1,h2⟩:=hV.to hu hi
 show 0<=(iI (row S.2.1 u) i).1∧(iI (row S.2.1 u) i).1<_
 rw[h2];omega
theorem I_ (hS:S.2.2.2=dY S.2.1) (hV:VG S.2.1) (hc:tQ S.2.1 nv c) (hv:v<S.2.1.2.length) {e:E} (he:FJ nv e=true):eH 1000 S c (v:Int) e.ts=some (tW S c v e):=by
 simp only[FJ,Bool.and_eq_true,decide_eq_true_eq]at he
 have h24:=hV.n24
 have hdeg:=(hV.node v hv).deg
 unfold eH
 have:=Qg (wok hS hV hc hv e.ts) (deg:=(row S.2.1 v).length) rfl (by omega) he.2 e false 1000 0 (-1) [] [] (by simp) rfl he.1.1 (fun h=>by cases h) (by omega)
 rw[bE (show bI 1000 _ (0:Int) (-1)=_ from this)]
 rfl
end
section
variable {p:Bm} {g:GR} {gr:Int} {R:List RL} {nv:Nat} {c:List (List Int)} {v:Nat}
theorem BE (hz:p.2.2.map iV=yS R):p.2.2.length=R.length:=by simpa [yS]using congrArg List.length hz
theorem Li (hz:p.2.2.map iV=yS R) {i:Nat} (hi:i<R.length):iV (at' p.2.2 (i:Int))=((at' R (i:Int)).1.ts,(at' R (i:Int)).2.map fun s=>((s.1:Int),s.2.ts)):=by
 have hl:=BE hz
 have:=congrArg (fun q=>q[i]?) hz
 simp only[yS,List.getElem?_map,List.getElem?_eq_getElem hi,List.getElem?_eq_getElem (show i<p.2.2.length by omega),Option.map_some,Option.some.injEq]at this
 rw[eV hi,eV (show i<p.2.2.length by omega)];exact this
theorem Ln (hR:nR nv R=true) {i:Nat} (hi:i<R.length):FJ nv (at' R (i:Int)).1=true∧(at' R (i:Int)).2.length<=20∧∀s∈(at' R (i:Int)).2,s.1<nv∧FJ nv s.2=true:=by
 simp only[nR,Bool.and_eq_true,List.all_eq_true,decide_eq_true_eq]at hR
 have:=hR.2 (at' R (i:Int)) (by rw[eV hi];exact List.getElem_mem hi)
 exact⟨this.1.1,this.1.2,fun s hs=>this.2 s hs⟩
theorem Sj (hR:nR nv R=true):R.length<=20:=by
 simp only[nR,Bool.and_eq_true,decide_eq_true_eq]at hR
 exact hR.1
theorem Oj (hV:VG g) (hc:tQ g nv c) (hv:v<g.2.length) (hz:p.2.2.map iV=yS R) (hR:nR nv R=true) {i:Nat} (hi:i<R.length):gX 1000 (p,g,gr,dY g) c (v:Int) (i:Int)=some (nz (tW (p,g,gr,dY g) c v (at' R (i:Int)).1)):=by
 have hl:=BE hz
 have e:(at' p.2.2 (i:Int)).2.1.2=(at' R (i:Int)).1.ts:=congrArg Prod.fst (Li hz hi)
 unfold gX
 dsimp only
 rw[eM (by omega),e]
 rw[bE (show eH 1000 _ c (v:Int) _=_ from I_ (S:=(p,g,gr,dY g)) rfl hV hc hv (Ln hR hi).1)]
 rfl
theorem Lo (hV:VG g) (hc:tQ g nv c) (hv:v<g.2.length) (hz:p.2.2.map iV=yS R) (hR:nR nv R=true) (tab:List (List (Int×Int))):dB 1000 (p,(p,g,gr,dY g),tab) c (v:Int)=some (lU (p,g,gr,dY g) R c v):=by
 have hl:=BE hz
 have h20:=Sj hR
 let l:=R.map fun r=>tW (p,g,gr,dY g) c v r.1
 have hll:l.length=R.length:=by simp[l]
 have hat:∀i,i<R.length->at' l (i:Int)=tW (p,g,gr,dY g) c v (at' R (i:Int)).1:=fun i hi=>by
  rw[eV (by omega),eV hi];simp[l]
 have stp:∀(k:Nat) ag,k<R.length->gS 1000 (p,(p,g,gr,dY g),tab) c (v:Int) (k:Int) ag=if nz (at' l (k:Int))=true then some (k:Int)else ag (((k+1:Nat):Int)):=by
  intro k ag hk
  unfold gS
  dsimp only
  rw[if_pos (by omega),bE (show gX 1000 _ c (v:Int) (k:Int)=_ from Oj hV hc hv hz hR hk),hat k hk,eX (by omega)]
 unfold dB lU
 by_cases hx:∃i,i<R.length∧at' l (i:Int)≠0
 ·obtain⟨i,hi,h0⟩:=hx
  obtain⟨m,h1,h2,h3⟩:=KY (p:=fun i=>at' l (i:Int)≠0) i h0
  have h3:∀j,j<m->at' l (j:Int)=0:=fun j hj=>Decidable.not_not.1 (h3 j hj)
  rw[show iG _=(m:Int)from yU (l:=l) (by omega) h2 h3]
  exact dA (K:=some (m:Int)) m (fun k=>(k:Int)) (fun k ag hk=>by rw[stp k ag (by omega),if_neg (by simp[nz,h3 k hk])]) (fun ag=>by rw[stp m ag (by omega),if_pos (by simpa [nz]using h2)]) 1000 (by omega)
 ·have hx:∀j,j<l.length->at' l (j:Int)=0:=fun j hj=>Decidable.not_not.1 fun e=>hx ⟨j,by omega,e⟩
  rw[show iG _=(-1:Int)from yT (l:=l) hx]
  exact dA (K:=some (-1)) R.length (fun k=>(k:Int)) (fun k ag hk=>by rw[stp k ag hk,if_neg (by simp[nz,hx k (by omega)])]) (fun ag=>by
   unfold gS jY
   dsimp only
   rw[if_neg (by omega)]) 1000 (by omega)
theorem EB (S:x_) (R:List RL) (c:List (List Int)) (v:Nat):lU S R c v = -1∨∃i:Nat,lU S R c v=(i:Int)∧i<R.length∧tW S c v (at' R (i:Int)).1≠0:=by
 let l:=R.map fun r=>tW S c v r.1
 by_cases hx:∃i,i<l.length∧at' l (i:Int)≠0
 ·obtain⟨i,hi,h0⟩:=hx
  obtain⟨m,h1,h2,h3⟩:=KY (p:=fun i=>at' l (i:Int)≠0) i h0
  have h3:∀j,j<m->at' l (j:Int)=0:=fun j hj=>Decidable.not_not.1 (h3 j hj)
  have hm:m<R.length:=by simp[l]at hi;omega
  refine .inr ⟨m,yU (l:=l) (by omega) h2 h3,hm,?_⟩
  have:at' l (m:Int)=tW S c v (at' R (m:Int)).1:=by rw[eV (by simpa [l]using hm),eV hm];simp[l]
  rw[<-this];exact h2
 ·exact .inl (yT (l:=l) fun j hj=>Decidable.not_not.1 fun e=>hx ⟨j,hj,e⟩)
theorem DZ (hV:VG g) (hc:tQ g nv c) (hz:p.2.2.map iV=yS R) (hR:nR nv R=true) {tab:List (List (Int×Int))} (ht:tab.length=g.2.length):dO 1000 (p,(p,g,gr,dY g),tab) c=some ((yR (p,g,gr,dY g) R c:Nat):Int):=by
 have h24:=hV.n24
 unfold dO tF
 let q:Nat->Bool:=fun v=>decide (0<=lU (p,g,gr,dY g) R c v)
 have:=dA (step:=mU (tab.length:Int) (fun y0=>gO 1000 y0 (p,(p,g,gr,dY g),tab) c)) (K:=some ((uZ q g.2.length:Nat):Int)) g.2.length (fun k=>(((uZ q k:Nat):Int),(k:Int))) (fun k ag hk=>by
  have hm:=La q (k:=k) (by omega)
  unfold mU pF gO
  dsimp only
  rw[if_pos (by omega),bE (show Option.bind (dB 1000 _ c (k:Int)) _=some (q k) by rw[bE (show dB 1000 _ c (k:Int)=_ from Lo hV hc hk hz hR tab)]),eX (by omega)]
  cases hq:q k with
  |true=>
   rw[if_pos rfl,eM (by omega),TI hm (by omega)]
   simp only[uZ,hq,if_true]
  |false=>
   rw[if_neg (by decide)]
   simp only[uZ,hq];rfl) (fun ag=>by
  unfold mU sB
  dsimp only
  rw[if_neg (by omega)]) 1000 (by omega)
 rw[bE (show bU _ 1000 ((0:Int),(0:Int))=_ from this)]
 rfl
end
end Go.Proofs.YtlciiihigmgaiaaGreat
end
