/- Models of functions with their proofs, by program (gen/xt.py), and plain laws, in one text. Conditions: none. -/
import Derived.Test.YtfbkplemadmbfaaGreatDoorZRJu2
import Derived.KernelRfl
set_option linter.unusedVariables false
set_option linter.unusedSimpArgs false
set_option maxHeartbeats 4000000
set_option maxRecDepth 20000
section
section
namespace Go.Proofs.YtfbkplemadmbfaaGreatDoor
open Go.Sx
theorem iter_if {R:Type} {step:Int->(Int->Option R)->Option R} {K:Option R} {bad:R} (N:Nat) (p:Nat->Prop)
  (hok:∀(k:Nat) ag,k<N->p k->step k ag=ag ((k:Int)+1)) (hbad:∀(k:Nat) ag,k<N->¬p k->step k ag=some bad) (hend:∀ag,step N ag=K):
  ∀(fuel:Nat),N<fuel->((∀k,k<N->p k)->iter step fuel 0=K)∧(¬(∀k,k<N->p k)->iter step fuel 0=some bad):=by
 intro fuel hf
 have key:∀(d a fuel:Nat),a+d=N->d<fuel->((∀k,a<=k->k<N->p k)->iter step fuel (a:Int)=K)∧(¬(∀k,a<=k->k<N->p k)->iter step fuel (a:Int)=some bad):=by
  intro d
  induction d with
  |zero=>
   intro a fuel ha hf
   obtain rfl:a=N:=by omega
   cases fuel with
   |zero=>omega
   |succ f=>exact⟨fun _=>hend _,fun h=>absurd (fun k h1 h2=>by omega) h⟩
  | succ d ih =>
   intro a fuel ha hf
   cases fuel with
   |zero=>omega
   | succ f =>
    obtain⟨i1,i2⟩:=ih (a+1) f (by omega) (by omega)
    have e:((a+1:Nat):Int)=(a:Int)+1:=by omega
    rw[e]at i1 i2
    by_cases hp:p a
    ·have hs:iter step (f+1) (a:Int)=iter step f ((a:Int)+1):=hok a _ (by omega) hp
     rw[hs]
     refine⟨fun h=>i1 fun k h1 h2=>h k (by omega) h2,fun h=>i2 fun h'=>h fun k h1 h2=> ?_⟩
     by_cases hk:k=a
     ·subst hk;exact hp
     ·exact h' k (by omega) h2
    ·exact⟨fun h=>absurd (h a (Nat.le_refl _) (by omega)) hp,fun _=>hbad a _ (by omega) hp⟩
 obtain⟨h1,h2⟩:=key N 0 fuel (by omega) hf
 exact⟨fun h=>h1 fun k _ hk=>h k hk,fun h=>h2 fun h'=>h fun k hk=>h' k (by omega) hk⟩
abbrev GR:=List Int×List (List (Int×Int))
theorem refIn_eq (fuel:Nat) (v lo hi:Int):m_ref01_In fuel v lo hi=some (decide (lo<=v∧v<=hi)):=by
 unfold m_ref01_In ref01_In_k1
 by_cases h:lo<=v
 ·rw[if_pos h];congr 1;exact decide_eq_decide.2 ⟨fun h2=>⟨h,h2⟩,fun h2=>h2.2⟩
 ·rw[if_neg h,decide_eq_false (fun h2=>h h2.1)]
abbrev row (g:GR) (v:Nat):List (Int×Int):=at' g.2 (v:Int)
abbrev idOf (g:GR) (v:Nat):Int:=at' g.1 (v:Int)
abbrev lnk (l:List (Int×Int)) (i:Nat):Int×Int:=at' l (i:Int)
def light (g:GR):Prop:=g.1.length<=30∧g.2.length<=30∧∀v,v<g.2.length->(row g v).length<=30
def LinkOk (l:List (Int×Int)) (v n i:Nat):Prop:=(0<=(lnk l i).1∧(lnk l i).1<=(n:Int) - 1)∧(lnk l i).1≠v∧(1<=(lnk l i).2∧(lnk l i).2<=15)∧∀k,k<i->(lnk l k).1≠(lnk l i).1
def LinksOk (l:List (Int×Int)) (v n:Nat):Prop:=∀i,i<l.length->LinkOk l v n i
theorem linksValid_eq (l:List (Int×Int)) (v n:Nat) (hl:l.length<=30) (hn:n<=30):(LinksOk l v n->m_ref01_linksValid 1000 l v n=some true)∧(¬LinksOk l v n->m_ref01_linksValid 1000 l v n=some false):=by
 unfold m_ref01_linksValid
 have inner:∀(i:Nat) (ag:Int->Option Bool),i<l.length->((∀k,k<i->(lnk l k).1≠(lnk l i).1)->iter (ref01_linksValid_s2 l i ag) 1000 0=ag ((i:Int)+1))∧(¬(∀k,k<i->(lnk l k).1≠(lnk l i).1)->iter (ref01_linksValid_s2 l i ag) 1000 0=some false):=by
  intro i ag hi
  refine iter_if i _ (fun k ag2 hk hp=> ?_) (fun k ag2 hk hp=> ?_) (fun ag2=> ?_) 1000 (by omega)
  ·unfold ref01_linksValid_s2
   rw[if_pos (by omega),ckT (by omega),ckT (by omega),if_neg hp,wr (by omega) (by omega)]
  ·unfold ref01_linksValid_s2
   rw[if_pos (by omega),ckT (by omega),ckT (by omega),if_pos (Decidable.not_not.1 hp)]
  ·unfold ref01_linksValid_s2 ref01_linksValid_k2
   rw[if_neg (by omega),wr (by omega) (by omega)]
 refine iter_if l.length (LinkOk l v n) (fun i ag hi hp=> ?_) (fun i ag hi hp=> ?_) (fun ag=> ?_) 1000 (by omega)
 ·obtain⟨h1,h2,h3,h4⟩:=hp
  unfold ref01_linksValid_s1 ref01_linksValid_k3
  rw[if_pos (by omega),ckT (by omega),wr (x:=(n:Int) - 1) (by omega) (by omega),refIn_eq,decide_eq_true h1,bindS rfl,if_neg (by simp),ckT (by omega),if_neg h2,ckT (by omega),refIn_eq,decide_eq_true h3,bindS rfl,if_neg (by simp)]
  exact(inner i ag hi).1 h4
 ·unfold ref01_linksValid_s1 ref01_linksValid_k3
  rw[if_pos (by omega),ckT (by omega),wr (x:=(n:Int) - 1) (by omega) (by omega),refIn_eq]
  by_cases h1:0<=(lnk l i).1∧(lnk l i).1<=(n:Int) - 1
  ·rw[decide_eq_true h1,bindS rfl,if_neg (by simp),ckT (by omega)]
   by_cases h2:(lnk l i).1=v
   ·rw[if_pos h2];rfl
   ·rw[if_neg h2,ckT (by omega),refIn_eq]
    by_cases h3:1<=(lnk l i).2∧(lnk l i).2<=15
    ·rw[decide_eq_true h3,bindS rfl,if_neg (by simp)]
     exact(inner i ag hi).2 fun h4=>hp ⟨h1,h2,h3,h4⟩
    ·rw[decide_eq_false h3];rfl
  ·rw[decide_eq_false h1];rfl
 ·unfold ref01_linksValid_s1 ref01_linksValid_k1
  rw[if_neg (by omega)]
def portOf (l:List (Int×Int)) (u:Int):Int:=match l.findIdx? (fun x=>decide (x.1=u))with
 |some i=>i
 |none=> -1
theorem portOf_some {l:List (Int×Int)} {u:Int} (i:Nat) (hi:i<l.length) (hu:(lnk l i).1=u) (hf:∀k,k<i->(lnk l k).1≠u):portOf l u=i:=by
 have:l.findIdx? (fun x=>decide (x.1=u))=some i:=by
  rw[List.findIdx?_eq_some_iff_getElem]
  have e:∀k (hk:k<l.length),lnk l k=l[k]:=fun k hk=>by rw[lnk,at'_nat,List.getD_eq_getElem?_getD,List.getElem?_eq_getElem hk];rfl
  refine⟨hi,by rw[<-e i hi];simpa using hu,fun k hk=> ?_⟩
  have:=hf k hk
  rw[e k (by omega)]at this
  simpa using this
 rw[portOf,this]
theorem portOf_none {l:List (Int×Int)} {u:Int} (hf:∀k,k<l.length->(lnk l k).1≠u):portOf l u = -1:=by
 have:l.findIdx? (fun x=>decide (x.1=u))=none:=by
  rw[List.findIdx?_eq_none_iff]
  intro x hx
  obtain⟨k,hk,rfl⟩:=List.getElem_of_mem hx
  have:=hf k hk
  rw[lnk,at'_nat,List.getD_eq_getElem?_getD,List.getElem?_eq_getElem hk]at this
  simpa using this
 rw[portOf,this]
theorem portOf_cases (l:List (Int×Int)) (u:Int):(∃i,i<l.length∧(lnk l i).1=u∧(∀k,k<i->(lnk l k).1≠u)∧portOf l u=i)∨((∀k,k<l.length->(lnk l k).1≠u)∧portOf l u = -1):=by
 by_cases h:∀k,k<l.length->(lnk l k).1≠u
 ·exact .inr ⟨h,portOf_none h⟩
 ·left
  have hex:∃k,k<l.length∧(lnk l k).1=u:=by
   apply Classical.byContradiction
   intro hc
   exact h fun k hk he=>hc ⟨k,hk,he⟩
  obtain⟨k,hk,hku⟩:=hex
  have:∀m,(∃k,k<=m∧k<l.length∧(lnk l k).1=u)->∃i,i<l.length∧(lnk l i).1=u∧∀k,k<i->(lnk l k).1≠u:=by
   intro m
   induction m with
   |zero=>rintro⟨k,h1,h2,h3⟩;exact⟨k,h2,h3,fun j hj=>by omega⟩
   |succ m ih=>
    rintro⟨k,h1,h2,h3⟩
    by_cases hlt:∃j,j<=m∧j<l.length∧(lnk l j).1=u
    ·exact ih hlt
    ·exact⟨k,h2,h3,fun j hj he=>hlt ⟨j,by omega,by omega,he⟩⟩
  obtain⟨i,h1,h2,h3⟩:=this k ⟨k,Nat.le_refl _,hk,hku⟩
  exact⟨i,h1,h2,h3,portOf_some i h1 h2 h3⟩
theorem refPort_eq (g:GR) (v:Nat) (u:Int) (hv:v<g.2.length) (hl:(row g v).length<=30):m_ref01_Port 1000 g v u=some (portOf (row g v) u):=by
 unfold m_ref01_Port
 rcases portOf_cases (row g v) u with⟨i,hi,hu,hf,he⟩|⟨hf,he⟩
 ·rw[he]
  refine iter_eq (fun x:Int=>∃k:Nat,x=k∧k<=i) (fun x=>31 - x.toNat) ?_ 1000 _ ⟨0,rfl,by omega⟩ (by omega)
  rintro x ag ⟨k,rfl,hk⟩ hag
  unfold ref01_Port_s1
  rw[ckT (by omega),if_pos (show(k:Int)<((row g v).length:Int) by omega),ckT (by omega),ckT (show 0<=(k:Int)∧(k:Int)<((row g v).length:Int) by omega)]
  by_cases e:k=i
  ·subst e;exact if_pos hu
  ·rw[if_neg (hf k (by omega)),wr (by omega) (by omega)]
   exact hag _ ⟨k+1,by omega,by omega⟩ (by omega)
 ·rw[he]
  refine iter_eq (fun x:Int=>∃k:Nat,x=k∧k<=(row g v).length) (fun x=>31 - x.toNat) ?_ 1000 _ ⟨0,rfl,by omega⟩ (by omega)
  rintro x ag ⟨k,rfl,hk⟩ hag
  unfold ref01_Port_s1
  rw[ckT (by omega)]
  by_cases e:k<(row g v).length
  ·rw[if_pos (show(k:Int)<((row g v).length:Int) by omega),ckT (by omega),ckT (show 0<=(k:Int)∧(k:Int)<((row g v).length:Int) by omega),if_neg (hf k e),wr (by omega) (by omega)]
   exact hag _ ⟨k+1,by omega,by omega⟩ (by omega)
  ·rw[if_neg (show¬(k:Int)<((row g v).length:Int) by omega)];rfl
end Go.Proofs.YtfbkplemadmbfaaGreatDoor
end
section
namespace Go.Proofs.YtfbkplemadmbfaaGreatDoor
open Go.Sx
theorem iter_ifS {X R:Type} {step:X->(X->Option R)->Option R} {K:X->Option R} {bad:R} (N:Nat) (p:Nat->Prop) (I:Nat->X->Prop)
  (hok:∀(k:Nat) x ag,k<N->I k x->p k->∃x',I (k+1) x'∧step x ag=ag x') (hbad:∀(k:Nat) x ag,k<N->I k x->¬p k->step x ag=some bad) (hend:∀x ag,I N x->step x ag=K x):
  ∀(fuel:Nat) (x:X),I 0 x->N<fuel->((∀k,k<N->p k)->∃x',I N x'∧iter step fuel x=K x')∧(¬(∀k,k<N->p k)->iter step fuel x=some bad):=by
 intro fuel x hI hf
 have key:∀(d a fuel:Nat) (x:X),a+d=N->d<fuel->I a x->((∀k,a<=k->k<N->p k)->∃x',I N x'∧iter step fuel x=K x')∧(¬(∀k,a<=k->k<N->p k)->iter step fuel x=some bad):=by
  intro d
  induction d with
  |zero=>
   intro a fuel x ha hf hI
   obtain rfl:a=N:=by omega
   cases fuel with
   |zero=>omega
   |succ f=>exact⟨fun _=>⟨x,hI,hend _ _ hI⟩,fun h=>absurd (fun k h1 h2=>by omega) h⟩
  | succ d ih =>
   intro a fuel x ha hf hI
   cases fuel with
   |zero=>omega
   | succ f =>
    by_cases hp:p a
    ·obtain⟨x',hI',hs⟩:=hok a x (iter step f) (by omega) hI hp
     have hs:iter step (f+1) x=iter step f x':=hs
     obtain⟨i1,i2⟩:=ih (a+1) f x' (by omega) (by omega) hI'
     rw[hs]
     refine⟨fun h=>i1 fun k h1 h2=>h k (by omega) h2,fun h=>i2 fun h'=>h fun k h1 h2=> ?_⟩
     by_cases hk:k=a
     ·subst hk;exact hp
     ·exact h' k (by omega) h2
    ·exact⟨fun h=>absurd (h a (Nat.le_refl _) (by omega)) hp,fun _=>hbad a x _ (by omega) hI hp⟩
 obtain⟨h1,h2⟩:=key N 0 fuel x (by omega) hf hI
 exact⟨fun h=>h1 fun k _ hk=>h k hk,fun h=>h2 fun h'=>h fun k hk=>h' k (by omega) hk⟩
def SymAt (g:GR) (v i:Nat):Prop:=∃j,j<(at' g.2 (lnk (row g v) i).1).length∧(lnk (at' g.2 (lnk (row g v) i).1) j).1=v∧(lnk (at' g.2 (lnk (row g v) i).1) j).2=(lnk (row g v) i).2
structure NodeOk (g:GR) (v:Nat):Prop where
 id:0<=idOf g v∧idOf g v<=255
 deg:(row g v).length<g.2.length
 links:LinksOk (row g v) v g.2.length
 ids:∀k,k<v->idOf g k≠idOf g v
structure VG (g:GR):Prop where
 n1:1<=g.2.length
 n24:g.2.length<=24
 len:g.1.length=g.2.length
 node:∀v,v<g.2.length->NodeOk g v
 sym:∀v,v<g.2.length->∀i,i<(row g v).length->SymAt g v i
theorem refValid_eq (g:GR) (hl:light g):(VG g->m_ref01_Valid 1000 g=some true)∧(¬VG g->m_ref01_Valid 1000 g=some false):=by
 obtain⟨l1,l2,l3⟩:=hl
 unfold m_ref01_Valid
 rw[refIn_eq,bindS rfl]
 by_cases h1:1<=g.2.length∧g.2.length<=24
 rotate_left
 ·rw[decide_eq_false (by omega)]
  exact⟨fun h=>absurd ⟨h.n1,h.n24⟩ h1,fun _=>rfl⟩
 rw[decide_eq_true (by omega),if_neg (by simp)]
 by_cases h2:g.1.length=g.2.length
 rotate_left
 ·rw[decide_eq_true (by omega)]
  exact⟨fun h=>absurd h.len h2,fun _=>rfl⟩
 rw[decide_eq_false (by omega)]
 unfold ref01_Valid_k1
 rw[if_neg (by simp)]
 have hids:∀(v:Nat) (ag:Int->Option Bool),v<g.2.length->((∀k,k<v->idOf g k≠idOf g v)->iter (ref01_Valid_s4 g v ag) 1000 0=ag ((v:Int)+1))∧(¬(∀k,k<v->idOf g k≠idOf g v)->iter (ref01_Valid_s4 g v ag) 1000 0=some false):=by
  intro v ag hv
  refine iter_if v _ (fun k ag2 hk hp=> ?_) (fun k ag2 hk hp=> ?_) (fun ag2=> ?_) 1000 (by omega)
  ·unfold ref01_Valid_s4
   rw[if_pos (by omega),ckT (by omega),ckT (by omega),if_neg hp,wr (by omega) (by omega)]
  ·unfold ref01_Valid_s4
   rw[if_pos (by omega),ckT (by omega),ckT (by omega),if_pos (Decidable.not_not.1 hp)]
  ·unfold ref01_Valid_s4 ref01_Valid_k6
   rw[if_neg (by omega),wr (by omega) (by omega)]
 have outer:=iter_if (step:=ref01_Valid_s3 1000 g) (K:=ref01_Valid_k2 1000 g ()) (bad:=false) g.2.length (NodeOk g) (fun v ag hv hp=> ?_) (fun v ag hv hp=> ?_) (fun ag=> ?_) 1000 (by omega)
 rotate_left
 ·unfold ref01_Valid_s3 ref01_Valid_k7
  rw[if_pos (by omega),ckT (by omega),refIn_eq,decide_eq_true hp.id,bindS rfl,if_neg (by simp),ckT (by omega),if_neg (show¬((g.2.length:Int)<=((row g v).length:Int))from by have:=hp.deg;omega),ckT (by omega),(linksValid_eq (row g v) v g.2.length (l3 v hv) l2).1 hp.links,bindS rfl,if_neg (by simp)]
  exact(hids v ag hv).1 hp.ids
 ·unfold ref01_Valid_s3 ref01_Valid_k7
  rw[if_pos (by omega),ckT (by omega),refIn_eq]
  by_cases a1:0<=idOf g v∧idOf g v<=255
  rotate_left
  ·rw[decide_eq_false a1];rfl
  rw[decide_eq_true a1,bindS rfl,if_neg (by simp),ckT (by omega)]
  by_cases a2:(row g v).length<g.2.length
  rotate_left
  ·rw[if_pos (show(g.2.length:Int)<=((row g v).length:Int) by omega)];rfl
  rw[if_neg (show¬(g.2.length:Int)<=((row g v).length:Int) by omega),ckT (by omega)]
  by_cases a3:LinksOk (row g v) v g.2.length
  rotate_left
  ·rw[(linksValid_eq (row g v) v g.2.length (l3 v hv) l2).2 a3];rfl
  rw[(linksValid_eq (row g v) v g.2.length (l3 v hv) l2).1 a3,bindS rfl,if_neg (by simp)]
  exact(hids v ag hv).2 fun a4=>hp ⟨a1,a2,a3,a4⟩
 ·unfold ref01_Valid_s3
  rw[if_neg (by omega)]
 by_cases hn:∀v,v<g.2.length->NodeOk g v
 rotate_left
 ·exact⟨fun h=>absurd h.node hn,fun _=>outer.2 hn⟩
 rw[outer.1 hn]
 unfold ref01_Valid_k2
 have inner:∀(v:Nat) (ag:Int->Option Bool),v<g.2.length->((∀i,i<(row g v).length->SymAt g v i)->iter (ref01_Valid_s2 1000 g v ag) 1000 0=ag ((v:Int)+1))∧(¬(∀i,i<(row g v).length->SymAt g v i)->iter (ref01_Valid_s2 1000 g v ag) 1000 0=some false):=by
  intro v ag hv
  have hv3:=l3 v hv
  have body:∀(i:Nat) ag2,i<(row g v).length->(SymAt g v i->ref01_Valid_s2 1000 g v ag i ag2=ag2 ((i:Int)+1))∧(¬SymAt g v i->ref01_Valid_s2 1000 g v ag i ag2=some false):=by
   intro i ag2 hi
   unfold ref01_Valid_s2
   rw[ckT (by omega),if_pos (show(i:Int)<((row g v).length:Int) by omega),ckT (by omega),ckT (show 0<=(i:Int)∧(i:Int)<((row g v).length:Int) by omega)]
   have hu:=((hn v hv).links i hi).1
   obtain⟨u,hu'⟩:∃u:Nat,(lnk (row g v) i).1=u:=⟨(lnk (row g v) i).1.toNat,by omega⟩
   have hun:u<g.2.length:=by omega
   unfold SymAt
   rw[show(at' (at' g.2 (v:Int)) (i:Int))=lnk (row g v) i from rfl,hu',refPort_eq g u v hun (l3 u hun),bindS rfl]
   have hlk:=(hn u hun).links
   rcases portOf_cases (row g u) v with⟨j,hj,hjv,hjf,he⟩|⟨hf,he⟩
   ·rw[he,if_neg (by omega),ckT (by omega),ckT (show 0<=(j:Int)∧(j:Int)<((at' g.2 (u:Int)).length:Int)from⟨by omega,by have:j<(row g u).length:=hj;exact_mod_cast this⟩)]
    unfold ref01_Valid_k5
    constructor
    ·rintro⟨k,hk,hkv,hkw⟩
     have hkj:k=j:=by
      rcases Nat.lt_trichotomy k j with h|h|h
      ·exact absurd hkv (hjf k h)
      ·exact h
      ·exact absurd (hjv.trans hkv.symm) ((hlk k hk).2.2.2 j h)
     subst hkj
     rw[if_neg (by rw[decide_eq_false];simp;exact fun h=>h hkw),wr (by omega) (by omega)]
    ·intro h
     rw[if_pos]
     exact decide_eq_true fun hw=>h ⟨j,hj,hjv,hw⟩
   ·rw[he,if_pos (by decide)]
    exact⟨fun⟨j,hj,hjv,_⟩=>absurd hjv (hf j hj),fun _=>rfl⟩
  refine iter_if (row g v).length _ (fun i ag2 hi hp=>(body i ag2 hi).1 hp) (fun i ag2 hi hp=>(body i ag2 hi).2 hp) (fun ag2=> ?_) 1000 (by omega)
  unfold ref01_Valid_s2 ref01_Valid_k4
  rw[ckT (by omega),if_neg (show¬(((row g v).length:Nat):Int)<((row g v).length:Int) by omega),wr (by omega) (by omega)]
 have outer2:=iter_if (step:=ref01_Valid_s1 1000 g) (K:=some true) (bad:=false) g.2.length (fun v=>∀i,i<(row g v).length->SymAt g v i) (fun v ag hv hp=> ?_) (fun v ag hv hp=> ?_) (fun ag=> ?_) 1000 (by omega)
 ·exact⟨fun h=>outer2.1 h.sym,fun h=>outer2.2 fun hs=>h ⟨h1.1,h1.2,h2,hn,hs⟩⟩
 ·unfold ref01_Valid_s1
  rw[if_pos (by omega)]
  exact(inner v ag hv).1 hp
 ·unfold ref01_Valid_s1
  rw[if_pos (by omega)]
  exact(inner v ag hv).2 hp
 ·unfold ref01_Valid_s1 ref01_Valid_k3
  rw[if_neg (by omega)]
theorem at_set {α:Type} [Inhabited α] (l:List α) (i k:Nat) (y:α) (hi:i<l.length):at' (l.set i y) (k:Int)=if k=i then y else at' l (k:Int):=by
 rw[at'_nat,at'_nat,List.getD_eq_getElem?_getD,List.getD_eq_getElem?_getD,List.getElem?_set]
 by_cases h:i=k
 ·rw[if_pos h,if_pos h.symm,if_pos (by omega)];rfl
 ·rw[if_neg h,if_neg (Ne.symm h)]
def IdOk (l:List Int) (k:Nat):Prop:=(0<=at' l (k:Int)∧at' l (k:Int)<=255)∧∀j,j<k->at' l (j:Int)≠at' l (k:Int)
theorem differentIDs_eq (l:List Int) (hl:l.length<=30):((∀k,k<l.length->IdOk l k)->m_graph_DifferentIDs 1000 l=some true)∧(¬(∀k,k<l.length->IdOk l k)->m_graph_DifferentIDs 1000 l=some false):=by
 unfold m_graph_DifferentIDs
 have key:=iter_ifS (step:=graph_DifferentIDs_s1 l) (K:=fun _=>some true) (bad:=false) l.length (IdOk l) (fun k x=>x.1=(k:Int)∧x.2.length=256∧∀z:Nat,z<256->(at' x.2 (z:Int)=true↔∃j,j<k∧at' l (j:Int)=(z:Int))) ?_ ?_ ?_ 1000 ((0:Int),(List.replicate 256 false)) ⟨rfl,List.length_replicate ..,fun z hz=> ?_⟩ (by omega)
 ·exact⟨fun h=>by obtain⟨x,_,hx⟩:=key.1 h;exact hx,key.2⟩
 ·rintro k ⟨x1,x2⟩ ag hk ⟨hx,hlen,hs⟩ ⟨hr,hd⟩
  dsimp only at hx hlen hs
  subst hx
  obtain⟨z,hz⟩:∃z:Nat,at' l (k:Int)=z:=⟨(at' l (k:Int)).toNat,by omega⟩
  have hz2:z<256:=by omega
  have hno:¬at' x2 (z:Int)=true:=by
   rw[hs z hz2]
   rintro⟨j,hj,he⟩
   exact hd j hj (he.trans hz.symm)
  refine⟨((k:Int)+1,x2.set z true),⟨by simp,by simp[hlen],fun y hy=> ?_⟩,?_⟩
  ·dsimp only
   rw[at_set _ _ _ _ (by omega)]
   by_cases hyz:y=z
   ·subst hyz
    rw[if_pos rfl]
    exact⟨fun _=>⟨k,by omega,hz⟩,fun _=>rfl⟩
   ·rw[if_neg hyz,hs y hy]
    constructor
    ·rintro⟨j,hj,he⟩;exact⟨j,by omega,he⟩
    ·rintro⟨j,hj,he⟩
     by_cases hjk:j=k
     ·subst hjk;rw[hz]at he;omega
     ·exact⟨j,by omega,he⟩
  ·unfold graph_DifferentIDs_s1 graph_DifferentIDs_k2
   dsimp only
   rw[if_pos (by omega),ckT (by omega),hz,if_neg (by omega),if_neg (by omega),ckT ⟨by omega,hlen⟩,if_neg hno,ckT ⟨by omega,hlen⟩,wr (by omega) (by omega)]
   rfl
 ·rintro k ⟨x1,x2⟩ ag hk ⟨hx,hlen,hs⟩ hp
  dsimp only at hx hlen hs
  subst hx
  unfold graph_DifferentIDs_s1 graph_DifferentIDs_k2
  dsimp only
  rw[if_pos (by omega),ckT (by omega)]
  by_cases h1:at' l (k:Int)<0
  ·rw[if_pos h1,if_pos rfl]
  rw[if_neg h1]
  by_cases h2:255<at' l (k:Int)
  ·rw[if_pos h2,if_pos rfl]
  rw[if_neg h2]
  obtain⟨z,hz⟩:∃z:Nat,at' l (k:Int)=z:=⟨(at' l (k:Int)).toNat,by omega⟩
  rw[hz,ckT ⟨by omega,hlen⟩,if_pos]
  rw[hs z (by omega)]
  apply Classical.byContradiction
  intro hc
  exact hp ⟨by omega,fun j hj he=>hc ⟨j,hj,he.trans hz⟩⟩
 ·rintro⟨x1,x2⟩ ag ⟨hx,_,_⟩
  dsimp only at hx
  subst hx
  unfold graph_DifferentIDs_s1 graph_DifferentIDs_k1
  dsimp only
  rw[if_neg (by omega)]
 ·rw[show at' (List.replicate 256 false) (z:Int)=false by rw[at'_nat,List.getD_eq_getElem?_getD,List.getElem?_replicate,if_pos hz];rfl]
  exact⟨fun h=>(by cases h),fun⟨j,hj,_⟩=>(by omega)⟩
theorem mget_mset {κ ν:Type} [DecidableEq κ] (k k':κ) (v:ν):∀l:List (κ×ν),mget k' (mset k v l)=if k'=k then some v else mget k' l
 | []=>by simp only[mset,mget]
 | x :: xs => by
  simp only[mset]
  by_cases h:k=x.1
  ·rw[if_pos h];simp only[mget]
   by_cases h2:k'=k
   ·rw[if_pos h2,if_pos h2]
   ·rw[if_neg h2,if_neg h2,if_neg (fun h3=>h2 (h3.trans h.symm))]
  ·rw[if_neg h];simp only[mget]
   by_cases h2:k'=x.1
   ·rw[if_pos h2,if_neg (fun h3=>h (h3.symm.trans h2)),if_pos h2]
   ·rw[if_neg h2,mget_mset k k' v xs]
    by_cases h3:k'=k
    ·rw[if_pos h3,if_pos h3]
    ·rw[if_neg h3,if_neg h3,if_neg h2]
theorem mem_mset {κ ν:Type} [DecidableEq κ] {k:κ} {v:ν} {z:κ×ν} {l:List (κ×ν)} (h0:mget k l=none):z∈mset k v l↔z=(k,v)∨z∈l:=by
 rw[mset_none k v l h0]
 simp[or_comm]
theorem mget_none {κ ν:Type} [DecidableEq κ] {k:κ}:∀{l:List (κ×ν)},(∀v,(k,v)∉l)->mget k l=none
 | [],_=>rfl
 |x::xs,h=>by
  simp only[mget]
  rw[if_neg (fun e=>h x.2 (by rw[e];exact List.mem_cons_self ..))]
  exact mget_none fun v hv=>h v (List.mem_cons_of_mem _ hv)
theorem mget_none_mem {κ ν:Type} [DecidableEq κ] {k:κ} {v:ν}:∀{l:List (κ×ν)},mget k l=none->(k,v)∉l
 | [],_=>by simp
 | x :: xs, h => by
  simp only[mget]at h
  by_cases e:k=x.1
  ·rw[if_pos e]at h;cases h
  ·rw[if_neg e]at h
   intro hm
   rcases List.mem_cons.1 hm with h2|h2
   ·exact e (by rw[<-h2])
   ·exact mget_none_mem h h2
theorem mget_some {κ ν:Type} [DecidableEq κ] {k:κ} {v:ν}:∀{l:List (κ×ν)},mget k l=some v->(k,v)∈l
 |x::xs,h=>by
  simp only[mget]at h
  by_cases e:k=x.1
  ·rw[if_pos e]at h;cases h;rw[e];exact List.mem_cons_self ..
  ·rw[if_neg e]at h;exact List.mem_cons_of_mem _ (mget_some h)
theorem mrun_all {κ ν:Type} (p:κ×ν->Prop) [DecidablePred p]:∀l:List (κ×ν),mrun (fun kv x=>if p kv then some false else x) (some true) l=some (decide (∀z∈l,¬p z))
 | []=>by simp[mrun]
 |x::xs=>by
  show(if p x then some false else mrun _ (some true) xs)=_
  rw[mrun_all p xs]
  by_cases h:p x
  ·rw[if_pos h];congr 1;symm;exact decide_eq_false fun h2=>h2 x (List.mem_cons_self ..) h
  ·rw[if_neg h];congr 1;apply decide_eq_decide.2;simp[h]
def Read (ps:List (List (Int×Int))) (v i:Nat) (z:(Int×Int)×Int):Prop:=∃a b:Nat,(a<v∨(a=v∧b<i))∧b<(at' ps (a:Int)).length∧z=(((a:Int),(lnk (at' ps (a:Int)) b).1),(lnk (at' ps (a:Int)) b).2)
def SymPs (ps:List (List (Int×Int))):Prop:=(∀v,v<ps.length->LinksOk (at' ps (v:Int)) v ps.length)∧∀v,v<ps.length->∀i,i<(at' ps (v:Int)).length->SymAt ([],ps) v i
theorem symmetric_eq (ps:List (List (Int×Int))) (hn:ps.length<=30) (hd:∀v,v<ps.length->(at' ps (v:Int)).length<=30):(SymPs ps->m_graph_symmetric 1000 ps=some true)∧(¬SymPs ps->m_graph_symmetric 1000 ps=some false):=by
 unfold m_graph_symmetric
 have inner:∀(v:Nat) (m:List ((Int×Int)×Int)) ag,v<ps.length->(∀z,z∈m↔Read ps v 0 z)->
   (LinksOk (at' ps (v:Int)) v ps.length->∃m',(∀z,z∈m'↔Read ps (v+1) 0 z)∧iter (graph_symmetric_s3 ps ((v:Int),m) ag) 1000 ((0:Int),m)=ag ((v:Int)+1,m'))∧
   (¬LinksOk (at' ps (v:Int)) v ps.length->iter (graph_symmetric_s3 ps ((v:Int),m) ag) 1000 ((0:Int),m)=some false):=by
  intro v m ag hv hm
  have hdv:=hd v hv
  have key:=iter_ifS (step:=graph_symmetric_s3 ps ((v:Int),m) ag) (K:=fun x=>ag ((v:Int)+1,x.2)) (bad:=false) (at' ps (v:Int)).length (LinkOk (at' ps (v:Int)) v ps.length) (fun i x=>x.1=(i:Int)∧∀z,z∈x.2↔Read ps v i z) ?_ ?_ ?_ 1000 ((0:Int),m) ⟨rfl,hm⟩ (by omega)
  ·refine⟨fun h=> ?_,fun h=>key.2 h⟩
   obtain⟨x,⟨hx1,hx2⟩,hx⟩:=key.1 h
   refine⟨x.2,fun z=>(hx2 z).trans ⟨?_,?_⟩,hx⟩
   ·rintro⟨a,b,h1,h2,h3⟩;exact⟨a,b,by omega,h2,h3⟩
   ·rintro⟨a,b,h1,h2,h3⟩
    refine⟨a,b,?_,h2,h3⟩
    by_cases ha:a=v
    ·subst ha;exact .inr ⟨rfl,h2⟩
    ·omega
  ·rintro i ⟨x1,x2⟩ ag2 hi ⟨hx,hs⟩ ⟨p1,p2,p3,p4⟩
   dsimp only at hx hs
   subst hx
   have hg:mget (((v:Int),(lnk (at' ps (v:Int)) i).1)) x2=none:=by
    apply mget_none
    intro w hw
    obtain⟨a,b,h1,h2,h3⟩:=(hs _).1 hw
    simp only[Prod.mk.injEq]at h3
    obtain⟨⟨h4,h5⟩,_⟩:=h3
    have:a=v:=by omega
    subst this
    have hb:b<i:=by omega
    exact p4 b hb h5.symm
   refine⟨((i:Int)+1,mset (((v:Int),(lnk (at' ps (v:Int)) i).1)) (lnk (at' ps (v:Int)) i).2 x2),⟨by simp,fun z=> ?_⟩,?_⟩
   ·dsimp only
    rw[mem_mset hg,hs]
    constructor
    ·rintro(rfl|⟨a,b,h1,h2,h3⟩)
     ·exact⟨v,i,.inr ⟨rfl,by omega⟩,hi,rfl⟩
     ·exact⟨a,b,by omega,h2,h3⟩
    ·rintro⟨a,b,h1,h2,h3⟩
     by_cases hab:a=v∧b=i
     ·left;rw[h3,hab.1,hab.2]
     ·right;exact⟨a,b,by omega,h2,h3⟩
   ·replace p1:0<=(at' (at' ps (v:Int)) (i:Int)).1∧(at' (at' ps (v:Int)) (i:Int)).1<=(ps.length:Int) - 1:=p1
    replace p3:1<=(at' (at' ps (v:Int)) (i:Int)).2∧(at' (at' ps (v:Int)) (i:Int)).2<=15:=p3
    unfold graph_symmetric_s3 graph_symmetric_k3 graph_symmetric_k4
    dsimp only
    rw[if_pos (by omega),ckT (by omega),if_neg (by omega),if_neg (by omega),if_neg (by rw[decide_eq_false p2];simp),if_neg (by omega),if_neg (by rw[decide_eq_false (by omega)];simp),hg,if_neg (by simp),wr (by omega) (by omega)]
  ·rintro i ⟨x1,x2⟩ ag2 hi ⟨hx,hs⟩ hp
   dsimp only at hx hs
   subst hx
   unfold graph_symmetric_s3 graph_symmetric_k3 graph_symmetric_k4
   dsimp only
   rw[if_pos (by omega),ckT (by omega)]
   by_cases h1:(lnk (at' ps (v:Int)) i).1<0
   ·rw[if_pos h1,if_pos rfl]
   rw[if_neg h1]
   by_cases h2:(ps.length:Int)<=(lnk (at' ps (v:Int)) i).1
   ·rw[if_pos h2,if_pos rfl]
   rw[if_neg h2]
   by_cases h3:(lnk (at' ps (v:Int)) i).1=v
   ·rw[if_pos (decide_eq_true h3)]
   rw[if_neg (by rw[decide_eq_false h3];simp)]
   by_cases h4:(lnk (at' ps (v:Int)) i).2<1
   ·rw[if_pos h4,if_pos rfl]
   rw[if_neg h4]
   by_cases h5:15<(lnk (at' ps (v:Int)) i).2
   ·rw[if_pos (decide_eq_true h5)]
   rw[if_neg (by rw[decide_eq_false h5];simp)]
   have:∃k,k<i∧(lnk (at' ps (v:Int)) k).1=(lnk (at' ps (v:Int)) i).1:=by
    apply Classical.byContradiction
    intro hc
    exact hp ⟨by omega,h3,by omega,fun k hk he=>hc ⟨k,hk,he⟩⟩
   obtain⟨k,hk,he⟩:=this
   have hin:=(hs _).2 ⟨v,k,.inr ⟨rfl,hk⟩,by omega,rfl⟩
   rw[if_pos]
   rw[<-he]
   cases hg:mget (((v:Int),(lnk (at' ps (v:Int)) k).1)) x2 with
   |some w=>rfl
   | none => exact absurd hin (by
     intro hin
     exact mget_none_mem hg hin)
  ·rintro⟨x1,x2⟩ ag2 ⟨hx,hs⟩
   dsimp only at hx hs
   subst hx
   unfold graph_symmetric_s3 graph_symmetric_k2
   dsimp only
   rw[if_neg (by omega),wr (by omega) (by omega)]
 have outer:=iter_ifS (step:=graph_symmetric_s2 1000 ps) (K:=fun x=>graph_symmetric_k1 x.2) (bad:=false) ps.length (fun v=>LinksOk (at' ps (v:Int)) v ps.length) (fun v x=>x.1=(v:Int)∧∀z,z∈x.2↔Read ps v 0 z) ?_ ?_ ?_ 1000 ((0:Int),[]) ⟨rfl,fun z=>⟨fun h=>(by cases h),fun⟨a,b,h1,_⟩=>(by omega)⟩⟩ (by omega)
 rotate_left
 ·rintro v ⟨x1,x2⟩ ag hv ⟨hx,hs⟩ hp
  dsimp only at hx hs
  subst hx
  obtain⟨m',h1,h2⟩:=(inner v x2 ag hv hs).1 hp
  refine⟨((v:Int)+1,m'),⟨by simp,h1⟩,?_⟩
  ·unfold graph_symmetric_s2
   dsimp only
   rw[if_pos (by omega),ckT (by omega)]
   exact h2
 ·rintro v ⟨x1,x2⟩ ag hv ⟨hx,hs⟩ hp
  dsimp only at hx hs
  subst hx
  unfold graph_symmetric_s2
  dsimp only
  rw[if_pos (by omega),ckT (by omega)]
  exact(inner v x2 ag hv hs).2 hp
 ·rintro⟨x1,x2⟩ ag ⟨hx,hs⟩
  dsimp only at hx hs
  subst hx
  unfold graph_symmetric_s2
  dsimp only
  rw[if_neg (by omega)]
 by_cases hL:∀v,v<ps.length->LinksOk (at' ps (v:Int)) v ps.length
 rotate_left
 ·exact⟨fun h=>absurd h.1 hL,fun _=>outer.2 hL⟩
 obtain⟨⟨x1,x2⟩,⟨hx,hs⟩,he⟩:=outer.1 hL
 rw[he]
 dsimp only at hs ⊢
 have hk:graph_symmetric_k1 x2=some (decide (∀z∈x2,¬(Option.getD (mget (z.1.2,z.1.1) x2) (0:Int))≠z.2)):=mrun_all (fun z:(Int×Int)×Int=>(Option.getD (mget (z.1.2,z.1.1) x2) (0:Int))≠z.2) x2
 rw[hk]
 have hiff:(∀z∈x2,¬(Option.getD (mget (z.1.2,z.1.1) x2) (0:Int))≠z.2)↔∀v,v<ps.length->∀i,i<(at' ps (v:Int)).length->SymAt ([],ps) v i:=by
  constructor
  ·intro h v hv i hi
   have hw:=(hL v hv i hi).2.2.1
   have hin:=(hs (((v:Int),(lnk (at' ps (v:Int)) i).1),(lnk (at' ps (v:Int)) i).2)).2 ⟨v,i,.inl hv,hi,rfl⟩
   have h2:=Decidable.not_not.1 (h _ hin)
   dsimp only at h2
   cases hg:mget ((lnk (at' ps (v:Int)) i).1,(v:Int)) x2 with
   |none=>rw[hg]at h2;simp only[Option.getD]at h2;omega
   | some w =>
    rw[hg]at h2;simp only[Option.getD]at h2
    obtain⟨a,b,h3,h4,h5⟩:=(hs _).1 (mget_some hg)
    simp only[Prod.mk.injEq]at h5
    obtain⟨⟨h6,h7⟩,h8⟩:=h5
    refine⟨b,?_,?_,?_⟩
    ·show b<(at' ps (lnk (at' ps (v:Int)) i).1).length
     rw[h6];exact h4
    ·show(lnk (at' ps (lnk (at' ps (v:Int)) i).1) b).1=v
     rw[h6];exact h7.symm
    ·show(lnk (at' ps (lnk (at' ps (v:Int)) i).1) b).2=(lnk (at' ps (v:Int)) i).2
     rw[h6,<-h8];exact h2
  ·intro h z hz hne
   obtain⟨a,b,h3,h4,rfl⟩:=(hs z).1 hz
   have ha:a<ps.length:=by omega
   apply hne
   obtain⟨j,hj1,hj2,hj3⟩:=h a ha b h4
   have hu:=(hL a ha b h4).1
   obtain⟨u,hu'⟩:∃u:Nat,(lnk (at' ps (a:Int)) b).1=u:=⟨(lnk (at' ps (a:Int)) b).1.toNat,by omega⟩
   replace hj1:j<(at' ps (lnk (at' ps (a:Int)) b).1).length:=hj1
   replace hj2:(lnk (at' ps (lnk (at' ps (a:Int)) b).1) j).1=a:=hj2
   replace hj3:(lnk (at' ps (lnk (at' ps (a:Int)) b).1) j).2=(lnk (at' ps (a:Int)) b).2:=hj3
   rw[hu']at hj1 hj2 hj3
   have hun:u<ps.length:=by omega
   dsimp only
   rw[hu',<-hj3]
   have hin:=(hs (((u:Int),(lnk (at' ps (u:Int)) j).1),(lnk (at' ps (u:Int)) j).2)).2 ⟨u,j,.inl hun,hj1,rfl⟩
   rw[hj2]at hin
   cases hg:mget ((u:Int),(a:Int)) x2 with
   |none=>exact absurd hin (mget_none_mem hg)
   | some w =>
    obtain⟨a',b',h3',h4',h5⟩:=(hs _).1 (mget_some hg)
    simp only[Prod.mk.injEq]at h5
    obtain⟨⟨h6,h7⟩,h8⟩:=h5
    have:a'=u:=by omega
    subst this
    have hbj:b'=j:=by
     rcases Nat.lt_trichotomy b' j with hl|hl|hl
     ·exact absurd (h7.symm.trans hj2.symm) ((hL a' hun j hj1).2.2.2 b' hl)
     ·exact hl
     ·exact absurd (hj2.trans h7) ((hL a' hun b' h4').2.2.2 j hl)
    subst hbj
    exact h8
 by_cases hS:∀v,v<ps.length->∀i,i<(at' ps (v:Int)).length->SymAt ([],ps) v i
 ·rw[decide_eq_true (hiff.2 hS)]
  exact⟨fun _=>rfl,fun h=>absurd ⟨hL,hS⟩ h⟩
 ·rw[decide_eq_false (fun h=>hS (hiff.1 h))]
  exact⟨fun h=>absurd h.2 hS,fun _=>rfl⟩
theorem pigeon:∀(N:Nat) (f:Nat->Nat) (k:Nat),(∀i,i<k->f i<N)->(∀i j,i<j->j<k->f i≠f j)->k<=N
 |0,f,k,h,_=>by
  cases k with
  |zero=>omega
  |succ k=>exact absurd (h 0 (by omega)) (by omega)
 | N + 1, f, k, h, hd => by
  by_cases hex:∃a,a<k∧f a=N
  ·obtain⟨a,ha,hfa⟩:=hex
   have:=pigeon N (fun i=>if i<a then f i else f (i+1)) (k - 1) (fun i hi=>by
    split
    ·have:=h i (by omega);have:=hd i a (by omega) ha;omega
    ·have:=h (i+1) (by omega);have:=hd a (i+1) (by omega) (by omega);omega) (fun i j hij hj=>by
    split<;>split
    ·exact hd i j hij (by omega)
    ·exact hd i (j+1) (by omega) (by omega)
    ·omega
    ·exact hd (i+1) (j+1) (by omega) (by omega))
   omega
  ·have:=pigeon N f k (fun i hi=>by
    have:=h i hi
    have:f i≠N:=fun e=>hex ⟨i,hi,e⟩
    omega) hd
   omega
theorem deg_lt {l:List (Int×Int)} {v n:Nat} (hv:v<n) (h:LinksOk l v n):l.length<n:=by
 have:=pigeon n (fun i=>if i=l.length then v else(lnk l i).1.toNat) (l.length+1) (fun i hi=>by
  split
  ·exact hv
  ·have:=(h i (by omega)).1;omega) (fun i j hij hj=>by
  rw[if_neg (by omega)]
  have h1:=(h i (by omega)).1
  split
  ·have:=(h i (by omega)).2.1;omega
  ·have h2:=(h j (by omega)).1
   have:=(h j (by omega)).2.2.2 i hij
   omega)
 omega
theorem valid_eq (g:GR) (hl:light g):(VG g->m_graph_Valid 1000 g=some true)∧(¬VG g->m_graph_Valid 1000 g=some false):=by
 obtain⟨l1,l2,l3⟩:=hl
 unfold m_graph_Valid graph_Valid_k1 graph_Valid_k2
 by_cases h1:g.1.length<1
 ·rw[if_pos (by omega)]
  exact⟨fun h=>by have:=h.n1;have:=h.len;omega,fun _=>rfl⟩
 rw[if_neg (by omega)]
 by_cases h2:24<g.1.length
 ·rw[if_pos (by omega)]
  exact⟨fun h=>by have:=h.n24;have:=h.len;omega,fun _=>rfl⟩
 rw[if_neg (by omega)]
 by_cases h3:g.1.length=g.2.length
 rotate_left
 ·rw[decide_eq_true (by omega)]
  exact⟨fun h=>absurd h.len h3,fun _=>rfl⟩
 rw[decide_eq_false (by omega),if_neg (by simp)]
 by_cases h4:∀k,k<g.1.length->IdOk g.1 k
 rotate_left
 ·rw[(differentIDs_eq g.1 l1).2 h4,bindS rfl]
  exact⟨fun h=>absurd (fun k hk=>⟨(h.node k (by omega)).id,(h.node k (by omega)).ids⟩) h4,fun _=>rfl⟩
 rw[(differentIDs_eq g.1 l1).1 h4,bindS rfl,if_pos rfl]
 by_cases h5:SymPs g.2
 ·rw[(symmetric_eq g.2 l2 l3).1 h5]
  exact⟨fun _=>rfl,fun h=>absurd ⟨by omega,by omega,h3,fun v hv=>⟨(h4 v (by omega)).1,deg_lt hv (h5.1 v hv),h5.1 v hv,(h4 v (by omega)).2⟩,h5.2⟩ h⟩
 ·rw[(symmetric_eq g.2 l2 l3).2 h5]
  exact⟨fun h=>absurd ⟨fun v hv=>(h.node v hv).links,h.sym⟩ h5,fun _=>rfl⟩
theorem VG.light {g:GR} (h:VG g):light g:=⟨by have:=h.n24;have:=h.len;omega,by have:=h.n24;omega,fun v hv=>by have:=(h.node v hv).deg;have:=h.n24;omega⟩
end Go.Proofs.YtfbkplemadmbfaaGreatDoor
end
section
namespace Go.Proofs.YtfbkplemadmbfaaGreatDoor
open Go.Sx
abbrev D (d:List Int) (v:Nat):Int:=at' d (v:Int)
def Adj (g:GR) (v u:Nat):Prop:=∃i,i<(row g v).length∧(lnk (row g v) i).1=(u:Int)
theorem VG.port {g:GR} (h:VG g) {v i:Nat} (hv:v<g.2.length) (hi:i<(row g v).length):∃u:Nat,u<g.2.length∧(lnk (row g v) i).1=(u:Int)∧Adj g v u:=by
 have hu:=((h.node v hv).links i hi).1
 exact⟨(lnk (row g v) i).1.toNat,by omega,by omega,i,hi,by omega⟩
theorem VG.back {g:GR} (h:VG g) {v u:Nat} (hv:v<g.2.length) (ha:Adj g v u):Adj g u v:=by
 obtain⟨i,hi,hu⟩:=ha
 obtain⟨j,hj,hjv,_⟩:=h.sym v hv i hi
 rw[hu]at hj hjv
 exact⟨j,hj,hjv⟩
theorem VG.adj_lt {g:GR} (h:VG g) {v u:Nat} (hv:v<g.2.length) (ha:Adj g v u):u<g.2.length:=by
 obtain⟨i,hi,hu⟩:=ha
 have:=((h.node v hv).links i hi).1
 omega
def cneg (d:List Int):Nat:=d.countP fun x=>decide (x<0)
structure Core (g:GR) (s:Nat) (d:List Int):Prop where
 len:d.length=g.2.length
 lo:∀v,v<g.2.length -> -1<=D d v
 zero:∀v,v<g.2.length->(D d v=0↔v=s)
 near:∀v,v<g.2.length->0<D d v->∃u,u<g.2.length∧Adj g v u∧D d u=D d v - 1
 hi:∀v,v<g.2.length->D d v+(cneg d:Int)<=(g.2.length:Int)
structure Qu (g:GR) (q d:List Int) (b:Int) (done:Nat->Prop):Prop where
 mem:∀y∈q,∃v,v<g.2.length∧y=((v:Nat):Int)∧0<=D d v
 top:∀v,v<g.2.length->D d v<=b
 sort:q.Pairwise fun a c=>at' d a<=at' d c
 done:∀v,v<g.2.length->0<=D d v->((v:Nat):Int)∉q->done v->∀u,u<g.2.length->Adj g v u->0<=D d u∧D d u<=D d v+1
theorem D_getElem {d:List Int} {v:Nat} (h:v<d.length):D d v=d[v]:=by
 rw[D,at'_nat,List.getD_eq_getElem?_getD,List.getElem?_eq_getElem h];rfl
theorem cneg_set {d:List Int} {u:Nat} {x:Int} (hu:u<d.length) (hn:D d u<0) (hx:0<=x):cneg (d.set u x)+1=cneg d:=by
 unfold cneg
 rw[List.countP_set hu]
 have hp:0<d.countP fun x=>decide (x<0):=by
  rw[List.countP_pos_iff]
  exact⟨d[u],List.getElem_mem hu,by rw[<-D_getElem hu];simpa using hn⟩
 rw[D_getElem hu]at hn
 rw[if_pos (by simpa using hn),if_neg (by simp;omega)]
 omega
theorem assign {g:GR} {s:Nat} {q d:List Int} {b:Int} {done:Nat->Prop} (hV:VG g) (hC:Core g s d) {x u:Nat} (hQ:Qu g q d (D d x+1) done) (hx:x<g.2.length) (hx0:0<=D d x) (hu:u<g.2.length) (hun:D d u<0) (ha:Adj g x u):
  Core g s (d.set u (D d x+1))∧Qu g (q++[(u:Int)]) (d.set u (D d x+1)) (D d x+1) done:=by
 have hlen:=hC.len
 have hat:∀v,D (d.set u (D d x+1)) v=if v=u then D d x+1 else D d v:=fun v=>at_set _ _ _ _ (by omega)
 have hcn:=cneg_set (x:=D d x+1) (by omega:u<d.length) hun (by omega)
 refine⟨⟨by simp[hlen],fun v hv=> ?_,fun v hv=> ?_,fun v hv=> ?_,fun v hv=> ?_⟩,⟨fun y hy=> ?_,fun v hv=> ?_,?_,fun v hv h0 hq hd w hw hadj=> ?_⟩⟩
 ·rw[hat];split
  ·omega
  ·exact hC.lo v hv
 ·rw[hat];split
  ·rename_i h;subst h
   have:=(hC.zero v hv)
   constructor
   ·intro;omega
   ·intro h;have:=this.2 h;omega
  ·exact hC.zero v hv
 ·rw[hat];split
  ·rename_i h;subst h
   intro _
   refine⟨x,hx,hV.back hx ha,?_⟩
   rw[hat,if_neg (by intro h;subst h;omega)];omega
  ·intro h0
   obtain⟨w,hw,hadj,he⟩:=hC.near v hv h0
   refine⟨w,hw,hadj,?_⟩
   rw[hat,if_neg (by intro h;subst h;omega)];exact he
 ·rw[hat];split
  ·have:=hC.hi x hx;omega
  ·have:=hC.hi v hv;omega
 ·rcases List.mem_append.1 hy with hy|hy
  ·obtain⟨v,hv,rfl,h0⟩:=hQ.mem y hy
   refine⟨v,hv,rfl,?_⟩
   rw[hat];split<;>omega
  ·simp only[List.mem_singleton]at hy
   refine⟨u,hu,hy,?_⟩
   rw[hat,if_pos rfl];omega
 ·rw[hat];split
  ·omega
  ·exact hQ.top v hv
 ·rw[List.pairwise_append]
  have hq:∀y∈q,at' (d.set u (D d x+1)) y=at' d y:=by
   intro y hy
   obtain⟨v,hv,rfl,h0⟩:=hQ.mem y hy
   have:=hat v
   rw[if_neg (by intro h;subst h;omega)]at this
   exact this
  refine⟨hQ.sort.imp_of_mem fun {a c} h1 h2 h=> ?_,List.pairwise_singleton ..,fun y hy z hz=> ?_⟩
  ·rw[hq a h1,hq c h2];exact h
  ·simp only[List.mem_singleton]at hz
   subst hz
   rw[hq y hy]
   have h2:=hat u
   rw[if_pos rfl]at h2
   obtain⟨v,hv,rfl,h0⟩:=hQ.mem y hy
   have:=hQ.top v hv
   show D d v<=D (d.set u (D d x+1)) u
   omega
 ·have hvu:v≠u:=by
   rintro rfl
   exact hq (by simp)
  rw[hat,if_neg hvu]at h0
  rw[hat v,if_neg hvu]
  have:=hQ.done v hv h0 (fun h=>hq (List.mem_append_left _ h)) hd w hw hadj
  rw[hat w,if_neg (by rintro rfl;omega)]
  exact this
theorem search_inner {g:GR} (hV:VG g) {s x:Nat} (hx:x<g.2.length) (rest d0:List Int) (ag:List Int×List Int->Option (List Int)) (r:List Int->Prop)
  (hC:Core g s d0) (hx0:0<=D d0 x) (hQ:Qu g rest d0 (D d0 x+1) (fun v=>v≠x)) (hm:rest.length+cneg d0<=g.2.length)
  (hag:∀q d,Core g s d->D d x=D d0 x->Qu g q d (D d x+1) (fun _=>True)->q.length+cneg d=rest.length+cneg d0->(∀y∈q,D d0 x<=at' d y)->OK r (ag (q,d)))
  (hge:∀y∈rest,D d0 x<=at' d0 y):
  OK r (iter (graph_search_s2 g ((x:Int)::rest,d0) ag) 1000 ((0:Int),rest,d0)):=by
 have hdeg:=(hV.node x hx).deg
 have h24:=hV.n24
 refine iter_ok (fun z:Int×List Int×List Int=>∃k:Nat,z.1=k∧k<=(row g x).length∧Core g s z.2.2∧D z.2.2 x=D d0 x∧Qu g z.2.1 z.2.2 (D d0 x+1) (fun v=>v≠x)∧z.2.1.length+cneg z.2.2=rest.length+cneg d0∧(∀i,i<k->∀u:Nat,(lnk (row g x) i).1=u->0<=D z.2.2 u)∧(∀y∈z.2.1,D d0 x<=at' z.2.2 y)) (fun z=>31 - z.1.toNat) ?_ 1000 _ ⟨0,rfl,by omega,hC,rfl,hQ,rfl,fun i hi=>by omega,hge⟩ (by simp)
 rintro⟨z1,q,d⟩ ag2 ⟨k,hz,hk,hC,hdx,hQ,hm2,hp,hge⟩ hag2
 dsimp only at hz hC hdx hQ hm2 hp hge
 subst hz
 have hlen:=hC.len
 have e0:at' ((x:Int)::rest) 0=(x:Int):=rfl
 unfold graph_search_s2 graph_search_k3
 dsimp only
 rw[e0]
 by_cases hlt:k<(row g x).length
 ·rw[if_pos (show(k:Int)<((row g x).length:Int) by omega),ckT (show 0<=(k:Int)∧(k:Int)<((row g x).length:Int) by omega)]
  obtain⟨u,hu,hue,hadj⟩:=hV.port hx hlt
  rw[show at' (at' g.2 (x:Int)) (k:Int)=lnk (row g x) k from rfl,hue,ckT (by omega)]
  have hhi:=hC.hi x hx
  by_cases hneg:at' d (u:Int)<0
  ·have hQ':Qu g q d (D d x+1) (fun v=>v≠x):=by rw[hdx];exact hQ
   obtain⟨c1,c2⟩:=assign (b:=0) hV hC hQ' hx (by omega) hu hneg hadj
   have hcn:=cneg_set (x:=D d x+1) (by omega:u<d.length) hneg (by omega)
   have hat:∀v,D (d.set u (D d x+1)) v=if v=u then D d x+1 else D d v:=fun v=>at_set _ _ _ _ (by omega)
   have hxu:x≠u:=by rintro rfl;have:D d x<0:=hneg;omega
   rw[if_pos hneg,ckT (by omega),ckT (by omega),ckT (by simp only[List.length_singleton];omega),wr (x:=(k:Int)+1) (by omega) (by omega),wr (x:=at' d (x:Int)+1) (by show -9223372036854775808<=D d x+1;omega) (by show D d x+1<=_;omega)]
   refine hag2 _ ⟨k+1,by simp,by omega,c1,?_,?_,?_,?_,?_⟩ (by dsimp only;omega)
   ·show D (d.set u (D d x+1)) x=_
    rw[hat,if_neg hxu];exact hdx
   ·rw[<-hdx];exact c2
   ·show(q++[(u:Int)]).length+cneg (d.set u (D d x+1))=_
    simp only[List.length_append,List.length_singleton]
    omega
   ·intro i hi w hw
    show 0<=D (d.set u (D d x+1)) w
    rw[hat]
    split
    ·omega
    ·by_cases hik:i=k
     ·subst hik;omega
     ·exact hp i (by omega) w hw
   ·intro y hy
    show D d0 x<=at' (d.set u (D d x+1)) y
    rcases List.mem_append.1 hy with hy|hy
    ·have h1:=hge y hy
     obtain⟨v,hv,rfl,h0⟩:=hQ.mem y hy
     have h2:=hat v
     rw[if_neg (by intro h;subst h;have:D d v<0:=hneg;omega)]at h2
     rw[show at' (d.set u (D d x+1)) (v:Int)=D d v from h2]
     exact h1
    ·simp only[List.mem_singleton]at hy
     subst hy
     rw[show at' (d.set u (D d x+1)) (u:Int)=D d x+1 from(hat u).trans (if_pos rfl)]
     omega
  ·rw[if_neg hneg,wr (by omega) (by omega)]
   refine hag2 _ ⟨k+1,by simp,by omega,hC,hdx,hQ,hm2,?_,hge⟩ (by dsimp only;omega)
   intro i hi w hw
   by_cases hik:i=k
   ·subst hik
    have:w=u:=by omega
    subst this
    show 0<=at' d (w:Int)
    omega
   ·exact hp i (by omega) w hw
 ·rw[if_neg (show¬(k:Int)<((row g x).length:Int) by omega)]
  have hke:k=(row g x).length:=by omega
  refine hag q d hC hdx ⟨hQ.mem,fun v hv=>by rw[hdx];exact hQ.top v hv,hQ.sort,fun v hv h0 hq _ u hu hadj=> ?_⟩ hm2 hge
  by_cases hvx:v=x
  ·subst hvx
   obtain⟨i,hi,hie⟩:=hadj
   exact⟨hp i (by omega) u hie,by rw[hdx];exact hQ.top u hu⟩
  ·exact hQ.done v hv h0 hq hvx u hu hadj
structure Dist (g:GR) (s:Nat) (d:List Int):Prop where
 len:d.length=g.2.length
 lo:∀v,v<g.2.length -> -1<=D d v
 zero:∀v,v<g.2.length->(D d v=0↔v=s)
 near:∀v,v<g.2.length->0<D d v->∃u,u<g.2.length∧Adj g v u∧D d u=D d v - 1
 next:∀v,v<g.2.length->0<=D d v->∀u,u<g.2.length->Adj g v u->0<=D d u∧D d u<=D d v+1
 hi:∀v,v<g.2.length->D d v<=(g.2.length:Int)
theorem search_loop {g:GR} (hV:VG g) {s:Nat} (d0:List Int) (q0:List Int) (hC:Core g s d0) (hQ:Qu g q0 d0 (match q0 with|[]=>1000|y::_=>at' d0 y+1) (fun _=>True)) (hm:q0.length+cneg d0<=g.2.length):
  OK (Dist g s) (iter (graph_search_s1 1000 g) 1000 (q0,d0)):=by
 have h24:=hV.n24
 refine iter_ok (fun z:List Int×List Int=>Core g s z.2∧Qu g z.1 z.2 (match z.1 with|[]=>1000|y::_=>at' z.2 y+1) (fun _=>True)∧z.1.length+cneg z.2<=g.2.length) (fun z=>z.1.length+cneg z.2) ?_ 1000 _ ⟨hC,hQ,hm⟩ (by dsimp only;omega)
 rintro⟨q,d⟩ ag ⟨hC,hQ,hm⟩ hag
 dsimp only at hC hQ hm
 unfold graph_search_s1 graph_search_k2
 dsimp only
 cases q with
 |nil=>
  rw[if_neg (by simp)]
  exact⟨d,rfl,hC.len,hC.lo,hC.zero,hC.near,fun v hv h0 u hu hadj=>hQ.done v hv h0 (by simp) trivial u hu hadj,fun v hv=>by have:=hC.hi v hv;omega⟩
 | cons y rest =>
  obtain⟨x,hx,rfl,hx0⟩:=hQ.mem y (List.mem_cons_self ..)
  have e0:at' ((x:Int)::rest) 0=(x:Int):=rfl
  rw[if_pos (by simp only[List.length_cons];omega),ckT (by simp only[List.length_cons];omega),ckT (by simp only[List.length_cons];omega),e0,ckT (by omega)]
  have hs:=List.pairwise_cons.1 hQ.sort
  simp only[List.length_cons]at hm
  refine search_inner hV hx rest d ag _ hC hx0 ⟨fun z hz=>hQ.mem z (List.mem_cons_of_mem _ hz),hQ.top,hs.2,fun v hv h0 hq hvx u hu hadj=>hQ.done v hv h0 (fun h=> ?_) trivial u hu hadj⟩ (by omega) (fun q' d' c1 c2 c3 c4 c5=> ?_) hs.1
  ·rcases List.mem_cons.1 h with h|h
   ·exact hvx (by omega)
   ·exact hq h
  ·refine hag (q',d') ⟨c1,⟨c3.mem,fun v hv=> ?_,c3.sort,c3.done⟩,by dsimp only;omega⟩ (by simp only[List.length_cons];omega)
   dsimp only
   have ht:=c3.top v hv
   cases q' with
   |nil=>
    dsimp only
    have:=c1.hi x hx
    omega
   |cons z zs=>
    dsimp only
    have:=c5 z (List.mem_cons_self ..)
    omega
theorem search_ok {g:GR} (hV:VG g) {s:Nat} (hs:s<g.2.length):OK (Dist g s) (m_graph_search 1000 g (s:Int)):=by
 have h24:=hV.n24
 unfold m_graph_search
 rw[ckT (by omega)]
 refine iter_ok (fun z:Int×List Int=>∃k:Nat,z.1=k∧k<=g.2.length∧z.2.length=g.2.length∧∀v,v<k->D z.2 v = -1) (fun z=>31 - z.1.toNat) ?_ 1000 _ ⟨0,rfl,by omega,by simp,fun v hv=>by omega⟩ (by simp)
 rintro⟨z1,d⟩ ag ⟨k,hz,hk,hlen,hd⟩ hag
 dsimp only at hz hlen hd
 subst hz
 unfold graph_search_s3
 simp only[List.length_replicate,Int.toNat_natCast]
 by_cases hlt:k<g.2.length
 ·rw[if_pos (by omega),ckT (by omega),wr (by omega) (by omega)]
  refine hag _ ⟨k+1,by simp,by omega,by simp[hlen],fun v hv=> ?_⟩ (by dsimp only;omega)
  show at' (d.set k (-1)) (v:Int) = -1
  rw[at_set _ _ _ _ (by omega)]
  split
  ·rfl
  ·exact hd v (by omega)
 ·rw[if_neg (by omega)]
  unfold graph_search_k1
  rw[ckT (by omega)]
  have hd':∀v,v<g.2.length->D d v = -1:=fun v hv=>hd v (by omega)
  have hat:∀v,D (d.set s 0) v=if v=s then 0 else D d v:=fun v=>at_set _ _ _ _ (by omega)
  have hcn:=cneg_set (x:=0) (by omega:s<d.length) (by rw[hd' s hs];omega) (by omega)
  have hcl:cneg d<=d.length:=List.countP_le_length ..
  refine search_loop hV _ _ ⟨by simp[hlen],fun v hv=> ?_,fun v hv=> ?_,fun v hv=> ?_,fun v hv=> ?_⟩ ⟨fun y hy=> ?_,fun v hv=> ?_,List.pairwise_singleton ..,fun v hv h0 hq=> ?_⟩ ?_
  ·rw[Int.toNat_natCast,hat];split
   ·omega
   ·rw[hd' v hv];omega
  ·rw[Int.toNat_natCast,hat];split
   ·rename_i h;exact⟨fun _=>h,fun _=>rfl⟩
   ·rename_i h;rw[hd' v hv];exact⟨fun h2=>by omega,fun h2=>absurd h2 h⟩
  ·rw[Int.toNat_natCast,hat];split
   ·omega
   ·rw[hd' v hv];omega
  ·rw[Int.toNat_natCast,hat];split
   ·omega
   ·rw[hd' v hv];omega
  ·simp only[List.mem_singleton]at hy
   refine⟨s,hs,hy,?_⟩
   rw[Int.toNat_natCast,hat,if_pos rfl];omega
  ·rw[Int.toNat_natCast]
   have h2:at' (d.set s 0) (s:Int)=0:=(hat s).trans (if_pos rfl)
   show D (d.set s 0) v<=at' (d.set s 0) (s:Int)+1
   rw[h2,hat];split
   ·omega
   ·rw[hd' v hv];omega
  ·rw[Int.toNat_natCast,hat,if_neg (by rintro rfl;exact hq (by simp)),hd' v hv]at h0
   omega
  ·rw[Int.toNat_natCast]
   simp only[List.length_singleton]
   omega
end Go.Proofs.YtfbkplemadmbfaaGreatDoor
end
section
namespace Go.Proofs.YtfbkplemadmbfaaGreatDoor
open Go.Sx
theorem distances_ok {g:GR} (hV:VG g) {s:Nat} (hs:s<g.2.length):OK (Dist g s) (m_graph_Distances 1000 g (s:Int)):=by
 unfold m_graph_Distances graph_Distances_k1
 rw[(valid_eq g hV.light).1 hV,bindS rfl,if_neg (by simp),if_neg (by omega),decide_eq_false (by omega),if_neg (by simp)]
 obtain⟨d,hd,hD⟩:=search_ok hV hs
 rw[hd]
 exact⟨d,rfl,hD⟩
end Go.Proofs.YtfbkplemadmbfaaGreatDoor
end
section
namespace Go.Proofs.YtfbkplemadmbfaaGreatDoor
open Go.Sx
def Walk (g:GR) (s:Nat):Nat->Nat->Prop
 |0,v=>v=s∧s<g.2.length
 |k+1,v=>∃u,Walk g s k u∧Adj g u v
theorem Walk.lt {g:GR} (hV:VG g) {s:Nat}:∀{k v:Nat},Walk g s k v->v<g.2.length
 |0,_,h=>by obtain⟨rfl,h⟩:=h;exact h
 |_+1,_,h=>by obtain⟨u,h1,h2⟩:=h;exact hV.adj_lt (Walk.lt hV h1) h2
theorem Walk.trans {g:GR} {s t:Nat} {k:Nat} (h:Walk g s k t):∀{m v:Nat},Walk g t m v->Walk g s (k+m) v
 |0,_,h2=>by obtain⟨rfl,_⟩:=h2;exact h
 |_+1,_,h2=>by obtain⟨u,h3,h4⟩:=h2;exact⟨u,Walk.trans h h3,h4⟩
theorem Walk.rev {g:GR} (hV:VG g) {s:Nat}:∀{k v:Nat},Walk g s k v->Walk g v k s
 |0,_,h=>by obtain⟨rfl,h⟩:=h;exact⟨rfl,h⟩
 |k+1,v,h=>by
  obtain⟨u,h1,h2⟩:=h
  have hu:=Walk.lt hV h1
  have h3:Walk g v 1 u:=⟨v,⟨rfl,hV.adj_lt hu h2⟩,hV.back hu h2⟩
  have:=Walk.trans h3 (Walk.rev hV h1)
  rwa[Nat.add_comm]at this
theorem Dist.le {g:GR} (hV:VG g) {s:Nat} {d:List Int} (h:Dist g s d):∀{k v:Nat},Walk g s k v->0<=D d v∧D d v<=k
 |0,v,hw=>by
  obtain⟨rfl,hs⟩:=hw
  have:=(h.zero v hs).2 rfl
  omega
 |k+1,v,hw=>by
  obtain⟨u,h1,h2⟩:=hw
  have hu:=Walk.lt hV h1
  have h3:=Dist.le hV h h1
  have h4:=h.next u hu h3.1 v (hV.adj_lt hu h2) h2
  omega
theorem Dist.walk {g:GR} (hV:VG g) {s:Nat} {d:List Int} (h:Dist g s d):∀(k v:Nat),v<g.2.length->D d v=k->Walk g s k v
 |0,v,hv,he=>by
  have:=(h.zero v hv).1 he
  exact⟨this,by omega⟩
 |k+1,v,hv,he=>by
  obtain⟨u,hu,hadj,hd⟩:=h.near v hv (by omega)
  exact⟨u,Dist.walk hV h k u hu (by omega),hV.back hv hadj⟩
theorem Dist.pos {g:GR} (hV:VG g) {s:Nat} {d:List Int} (h:Dist g s d) {v:Nat} (hv:v<g.2.length) (h0:0<=D d v):Walk g s (D d v).toNat v:=
 Dist.walk hV h _ v hv (by omega)
end Go.Proofs.YtfbkplemadmbfaaGreatDoor
end
section
namespace Go.Proofs.YtfbkplemadmbfaaGreatDoor
open Go.Sx
theorem greatest_ok (d:List Int) (h:d.length<=30):OK (fun r:Int=> -1<=r∧(∀v,v<d.length->D d v<=r)∧(r = -1∨∃v,v<d.length∧D d v=r)) (m_graph_greatest 1000 d):=by
 unfold m_graph_greatest
 refine iter_ok (fun z:Int×Int=>∃k:Nat,z.2=k∧k<=d.length ∧ -1<=z.1∧(∀v,v<k->D d v<=z.1)∧(z.1 = -1∨∃v,v<k∧D d v=z.1)) (fun z=>31 - z.2.toNat) ?_ 1000 _ ⟨0,rfl,by omega,by omega,fun v hv=>by omega,.inl rfl⟩ (by simp)
 rintro⟨m,z⟩ ag ⟨k,hz,hk,h1,h2,h3⟩ hag
 dsimp only at hz h1 h2 h3
 subst hz
 unfold graph_greatest_s1 graph_greatest_k1
 dsimp only
 by_cases hlt:k<d.length
 ·rw[if_pos (by omega),ckT (by omega),wr (by omega) (by omega)]
  refine hag _ ⟨k+1,by simp,by omega,by dsimp only;omega,fun v hv=> ?_,?_⟩ (by dsimp only;omega)
  ·by_cases hvk:v=k
   ·subst hvk;show D d v<=max m (D d v);omega
   ·have:=h2 v (by omega);show D d v<=max m (D d k);omega
  ·by_cases hm:m<=D d k
   ·exact .inr ⟨k,by omega,by show D d k=max m (D d k);omega⟩
   ·rcases h3 with h3|⟨v,hv,he⟩
    ·left;show max m (D d k) = -1;omega
    ·exact .inr ⟨v,by omega,by show D d v=max m (D d k);omega⟩
 ·rw[if_neg (by omega)]
  refine⟨m,rfl,h1,fun v hv=>h2 v (by omega),?_⟩
  rcases h3 with h3|⟨v,hv,he⟩
  ·exact .inl h3
  ·exact .inr ⟨v,by omega,he⟩
def Conn (g:GR):Prop:=∀u v,u<g.2.length->v<g.2.length->∃k,Walk g u k v
theorem connected_eq {g:GR} (hV:VG g):(Conn g->m_graph_Connected 1000 g=some true)∧(¬Conn g->m_graph_Connected 1000 g=some false):=by
 have h1:=hV.n1
 have h24:=hV.n24
 unfold m_graph_Connected
 obtain⟨d,hd,hD⟩:=search_ok hV (s:=0) (by omega)
 have hlen:=hD.len
 rw[(valid_eq g hV.light).1 hV,bindS rfl,if_neg (by simp),show m_graph_search 1000 (g.1,g.2) 0=some d from hd,bindS rfl]
 have key:=iter_if (step:=graph_Connected_s1 d) (K:=some true) (bad:=false) d.length (fun v=>0<=D d v) (fun k ag hk hp=> ?_) (fun k ag hk hp=> ?_) (fun ag=> ?_) 1000 (by omega)
 ·have hiff:(∀v,v<d.length->0<=D d v)↔Conn g:=by
   constructor
   ·intro h u v hu hv
    exact⟨_,Walk.trans (Walk.rev hV (Dist.pos hV hD hu (h u (by omega)))) (Dist.pos hV hD hv (h v (by omega)))⟩
   ·intro h v hv
    obtain⟨k,hk⟩:=h 0 v (by omega) (by omega)
    exact(Dist.le hV hD hk).1
  exact⟨fun h=>key.1 (hiff.2 h),fun h=>key.2 fun h2=>h (hiff.1 h2)⟩
 ·unfold graph_Connected_s1
  rw[if_pos (by omega),ckT (by omega),if_neg (show¬D d k<0 by omega),wr (by omega) (by omega)]
 ·unfold graph_Connected_s1
  rw[if_pos (by omega),ckT (by omega),if_pos (show D d k<0 by omega)]
 ·unfold graph_Connected_s1 graph_Connected_k1
  rw[if_neg (by omega)]
def Ecc (g:GR) (s:Nat) (r:Int):Prop:=∃d,m_graph_search 1000 g (s:Int)=some d∧Dist g s d∧(∀v,v<g.2.length->D d v<=r)∧∃v,v<g.2.length∧D d v=r
theorem Ecc.unique {g:GR} {s:Nat} {r r':Int} (h:Ecc g s r) (h':Ecc g s r'):r=r':=by
 obtain⟨d,h1,_,h3,v,hv,hr⟩:=h
 obtain⟨d',h1',_,h3',v',hv',hr'⟩:=h'
 rw[h1]at h1'
 cases h1'
 have:=h3 v' hv'
 have:=h3' v hv
 omega
theorem Ecc.pos {g:GR} {s:Nat} {r:Int} (hs:s<g.2.length) (h:Ecc g s r):0<=r∧r<=(g.2.length:Int):=by
 obtain⟨d,h1,h2,h3,v,hv,hr⟩:=h
 have:=h3 s hs
 have:=(h2.zero s hs).2 rfl
 have:=h2.hi v hv
 omega
theorem ecc_search {g:GR} (hV:VG g) {s:Nat} (hs:s<g.2.length):∃d r,m_graph_search 1000 g (s:Int)=some d∧m_graph_greatest 1000 d=some r∧Ecc g s r:=by
 obtain⟨d,hd,hD⟩:=search_ok hV hs
 have hlen:=hD.len
 have h24:=hV.n24
 obtain⟨r,hr,h1,h2,h3⟩:=greatest_ok d (by omega)
 have h0:=h2 s (by omega)
 have:=(hD.zero s hs).2 rfl
 refine⟨d,r,hd,hr,d,hd,hD,fun v hv=>h2 v (by omega),?_⟩
 rcases h3 with h3|⟨v,hv,he⟩
 ·omega
 ·exact⟨v,by omega,he⟩
theorem eccentricity_ok {g:GR} (hV:VG g) (hc:Conn g) {s:Nat} (hs:s<g.2.length):OK (Ecc g s) (m_graph_Eccentricity 1000 g (s:Int)):=by
 unfold m_graph_Eccentricity graph_Eccentricity_k1
 rw[(connected_eq hV).1 hc,bindS rfl,if_neg (by simp),if_neg (by omega),decide_eq_false (by omega),if_neg (by simp)]
 obtain⟨d,r,h1,h2,h3⟩:=ecc_search hV hs
 rw[h1,bindS rfl,h2,bindS rfl]
 exact⟨r,rfl,h3⟩
end Go.Proofs.YtfbkplemadmbfaaGreatDoor
end
section
namespace Go.Proofs.YtfbkplemadmbfaaGreatDoor
open Go.Sx
end Go.Proofs.YtfbkplemadmbfaaGreatDoor
end
section
namespace Go.Proofs.YtfbkplemadmbfaaGreatDoor
open Go.Sx
def sumN (f:Nat->Nat):Nat->Nat
 |0=>0
 |k+1=>sumN f k+f k
theorem sumN_le {f h:Nat->Nat}:∀{n:Nat},(∀v,v<n->f v<=h v)->sumN f n<=sumN h n
 |0,_=>Nat.le_refl _
 |n+1,H=>Nat.add_le_add (sumN_le fun v hv=>H v (by omega)) (H n (by omega))
theorem sumN_eq {f h:Nat->Nat}:∀{n:Nat},(∀v,v<n->f v=h v)->sumN f n=sumN h n
 |0,_=>rfl
 |n+1,H=>by
  show sumN f n+f n=sumN h n+h n
  rw[sumN_eq fun v hv=>H v (by omega),H n (by omega)]
theorem sumN_add (f h:Nat->Nat):∀n:Nat,sumN (fun v=>f v+h v) n=sumN f n+sumN h n
 |0=>rfl
 |n+1=>by
  show sumN (fun v=>f v+h v) n+(f n+h n)=sumN f n+f n+(sumN h n+h n)
  rw[sumN_add f h n];omega
theorem sumN_const (c:Nat):∀n:Nat,sumN (fun _=>c) n=c*n
 |0=>rfl
 |n+1=>by
  show sumN (fun _=>c) n+c=c*(n+1)
  rw[sumN_const c n,Nat.mul_succ]
theorem sumN_swap (F:Nat->Nat->Nat) (m:Nat):∀n:Nat,sumN (fun v=>sumN (F v) m) n=sumN (fun u=>sumN (fun v=>F v u) n) m
 |0=>by
  show 0=sumN (fun _=>0) m
  rw[sumN_const];omega
 |n+1=>by
  show sumN (fun v=>sumN (F v) m) n+sumN (F n) m=sumN (fun u=>sumN (fun v=>F v u) n+F n u) m
  rw[sumN_swap F m n,sumN_add (fun u=>sumN (fun v=>F v u) n) (F n) m]
theorem sumN_one {f:Nat->Nat}:∀{n:Nat} (v:Nat),v<n->f v<=sumN f n
 |0,v,h=>by omega
 |n+1,v,h=>by
  show f v<=sumN f n+f n
  by_cases e:v=n
  ·subst e;omega
  ·have:=sumN_one (f:=f) (n:=n) v (by omega);omega
open Classical in
noncomputable def ind (p:Prop):Nat:=if p then 1 else 0
theorem ind1 {p:Prop} (h:p):ind p=1:=if_pos h
theorem ind0 {p:Prop} (h:¬p):ind p=0:=if_neg h
theorem ind_cases (p:Prop):(p∧ind p=1)∨(¬p∧ind p=0):=by
 by_cases h:p
 ·exact .inl ⟨h,ind1 h⟩
 ·exact .inr ⟨h,ind0 h⟩
theorem sumN_delta (a:Nat):∀n:Nat,sumN (fun u=>ind (u=a)) n=ind (a<n)
 |0=>(ind0 (by omega)).symm
 |n+1=>by
  show sumN (fun u=>ind (u=a)) n+ind (n=a)=_
  rw[sumN_delta a n]
  rcases ind_cases (a<n)with⟨h1,e1⟩|⟨h1,e1⟩<;>rcases ind_cases (n=a)with⟨h2,e2⟩|⟨h2,e2⟩<;>rcases ind_cases (a<n+1)with⟨h3,e3⟩|⟨h3,e3⟩<;>omega
theorem sumN_count (f:Nat->Nat) (n:Nat):∀k:Nat,(∀i,i<k->f i<n)->(∀i j,i<j->j<k->f i≠f j)->sumN (fun u=>ind (∃i,i<k∧f i=u)) n=k
 |0,_,_=>by
  rw[sumN_eq (h:=fun _=>0) fun v _=>ind0 (fun⟨i,hi,_⟩=>by omega),sumN_const];omega
 | k + 1, h, hd => by
  have e:∀u,u<n->ind (∃i,i<k+1∧f i=u)=ind (∃i,i<k∧f i=u)+ind (u=f k):=by
   intro u _
   rcases ind_cases (∃i,i<k∧f i=u)with⟨⟨i,hi,he⟩,e1⟩|⟨h1,e1⟩
   ·rw[e1,ind0 (p:=u=f k) (fun h2=>hd i k hi (by omega) (he.trans h2)),ind1 ⟨i,by omega,he⟩]
   ·rw[e1]
    by_cases h2:u=f k
    ·rw[ind1 h2,ind1 ⟨k,by omega,h2.symm⟩]
    ·rw[ind0 h2,ind0]
     rintro⟨i,hi,he⟩
     by_cases hik:i=k
     ·subst hik;exact h2 he.symm
     ·exact h1 ⟨i,by omega,he⟩
  rw[sumN_eq e,sumN_add (fun u=>ind (∃i,i<k∧f i=u)) (fun u=>ind (u=f k)),sumN_count f n k (fun i hi=>h i (by omega)) (fun i j hij hj=>hd i j hij (by omega)),sumN_delta,ind1 (h k (by omega))]
theorem deg_sum {g:GR} (hV:VG g) {v:Nat} (hv:v<g.2.length):(row g v).length=sumN (fun u=>ind (Adj g v u)) g.2.length:=by
 have hl:=(hV.node v hv).links
 rw[<-sumN_count (fun i=>(lnk (row g v) i).1.toNat) g.2.length (row g v).length (fun i hi=>by have:=(hl i hi).1;omega) (fun i j hij hj=>by
  have h1:=(hl i (by omega)).1
  have h2:=(hl j hj).1
  have:=(hl j hj).2.2.2 i hij
  omega)]
 refine sumN_eq fun u _=> ?_
 have:(∃i,i<(row g v).length∧(lnk (row g v) i).1.toNat=u)↔Adj g v u:=by
  constructor
  ·rintro⟨i,hi,he⟩
   have:=(hl i hi).1
   exact⟨i,hi,by omega⟩
  ·rintro⟨i,hi,he⟩
   exact⟨i,hi,by omega⟩
 rw[propext this]
theorem adj_irrefl {g:GR} (hV:VG g) {v:Nat} (hv:v<g.2.length):¬Adj g v v:=by
 rintro⟨i,hi,he⟩
 exact((hV.node v hv).links i hi).2.1 he
def degSum (g:GR):Nat:=sumN (fun v=>(row g v).length) g.2.length
theorem degSum_conn {g:GR} (hV:VG g) (hc:Conn g):2*(g.2.length - 1)<=degSum g:=by
 have hn:=hV.n1
 obtain⟨d,_,hD⟩:=search_ok hV (s:=0) (by omega)
 have hpos:∀v,v<g.2.length->0<=D d v:=fun v hv=>by
  obtain⟨k,hk⟩:=hc 0 v (by omega) hv
  exact(Dist.le hV hD hk).1
 have h1:sumN (fun v=>sumN (fun u=>ind (Adj g v u∧D d u=D d v - 1)+ind (Adj g v u∧D d u=D d v+1)) g.2.length) g.2.length<=degSum g:=by
  unfold degSum
  refine sumN_le fun v hv=> ?_
  rw[deg_sum hV hv]
  refine sumN_le fun u hu=> ?_
  rcases ind_cases (Adj g v u∧D d u=D d v - 1)with⟨a,e1⟩|⟨a,e1⟩
  ·rw[e1,ind0 (p:=Adj g v u∧D d u=D d v+1) (fun b=>by omega),ind1 a.1];omega
  ·rcases ind_cases (Adj g v u∧D d u=D d v+1)with⟨b,e2⟩|⟨b,e2⟩
   ·rw[e1,e2,ind1 b.1];omega
   ·rw[e1,e2];omega
 have h2:sumN (fun v=>sumN (fun u=>ind (Adj g v u∧D d u=D d v+1)) g.2.length) g.2.length=sumN (fun v=>sumN (fun u=>ind (Adj g v u∧D d u=D d v - 1)) g.2.length) g.2.length:=by
  rw[sumN_swap]
  refine sumN_eq fun u hu=>sumN_eq fun v hv=> ?_
  rw[propext (show(Adj g v u∧D d u=D d v+1)↔(Adj g u v∧D d v=D d u - 1)from⟨fun h=>⟨hV.back hv h.1,by omega⟩,fun h=>⟨hV.back hu h.1,by omega⟩⟩)]
 have h3:sumN (fun v=>ind (v≠0)) g.2.length<=sumN (fun v=>sumN (fun u=>ind (Adj g v u∧D d u=D d v - 1)) g.2.length) g.2.length:=by
  refine sumN_le fun v hv=> ?_
  by_cases h0:v=0
  ·rw[ind0 (fun h=>h h0)];omega
  ·rw[ind1 h0]
   have hp:=hpos v hv
   have hz:=hD.zero v hv
   obtain⟨u,hu,ha,he⟩:=hD.near v hv (by
    have:D d v≠0:=fun h=>h0 (hz.1 h)
    omega)
   have:=sumN_one (f:=fun u=>ind (Adj g v u∧D d u=D d v - 1)) u hu
   rw[ind1 ⟨ha,he⟩]at this
   exact this
 have h4:∀n,1<=n->sumN (fun v=>ind (v≠0)) n=n - 1:=by
  intro n
  induction n with
  |zero=>intro h;omega
  |succ n ih=>
   intro _
   show sumN (fun v=>ind (v≠0)) n+ind (n≠0)=n
   by_cases h0:n=0
   ·subst h0;rw[ind0 (by omega)];rfl
   ·rw[ih (by omega),ind1 h0];omega
 rw[h4 _ hn]at h3
 rw[sumN_eq (fun v _=>sumN_add (fun u=>ind (Adj g v u∧D d u=D d v - 1)) (fun u=>ind (Adj g v u∧D d u=D d v+1)) g.2.length),sumN_add (fun v=>sumN (fun u=>ind (Adj g v u∧D d u=D d v - 1)) g.2.length) (fun v=>sumN (fun u=>ind (Adj g v u∧D d u=D d v+1)) g.2.length),h2]at h1
 omega
end Go.Proofs.YtfbkplemadmbfaaGreatDoor
end
section
namespace Go.Proofs.YtfbkplemadmbfaaGreatDoor
open Go.Sx
theorem wrapU (a:Nat) (h:a<4294967296):IntKind.u32.wrap (a:Int)=a:=by rw[<-wI_eq];exact if_pos ⟨by omega,by omega⟩
def N32 (x:Int):Nat:=(BitVec.ofInt 32 x).toNat
theorem N32_lt (x:Int):N32 x<4294967296:=(BitVec.ofInt 32 x).isLt
theorem N32_nat {a:Nat} (h:a<4294967296):N32 (a:Int)=a:=by
 unfold N32;rw[BitVec.ofInt_natCast,BitVec.toNat_ofNat];exact Nat.mod_eq_of_lt h
theorem bOr_eq (x y:Int):bOr .u32 x y=((N32 x ||| N32 y:Nat):Int):=by
 show IntKind.u32.wrap (((BitVec.ofInt 32 x ||| BitVec.ofInt 32 y).toNat:Nat):Int)=_
 rw[BitVec.toNat_or]
 exact wrapU _ (Nat.or_lt_two_pow (n:=32) (N32_lt x) (N32_lt y))
theorem pow32 {k:Nat} (hk:k<32):2^k<4294967296:=Nat.pow_lt_pow_right (n:=32) (by omega) hk
theorem bShl1 {k:Nat} (hk:k<32):bShl .u32 1 (k:Int)=((2^k:Nat):Int):=by
 show IntKind.u32.wrap (1*2^(min ((k:Int).toNat) 32))=_
 rw[Int.toNat_natCast,Nat.min_eq_left (by omega),Int.one_mul,show(2:Int)^k=((2^k:Nat):Int) by simp]
 exact wrapU _ (pow32 hk)
def Indep (g:GR) (s:Nat):Prop:=(∀v,s.testBit v=true->v<g.2.length)∧∀v u,s.testBit v=true->s.testBit u=true->¬Adj g v u
theorem wU64 {k:Nat} (hk:k<32):wI .u64 (k:Int)=k:=by
 show IntKind.u64.wrap (k:Int)=k
 have:∀j:Fin 32,IntKind.u64.wrap ((j.1:Nat):Int)=(j.1:Nat):=by decide
 exact this ⟨k,hk⟩
end Go.Proofs.YtfbkplemadmbfaaGreatDoor
end
section
namespace Go.Proofs.YtfbkplemadmbfaaGreatDoor
open Go.Sx
theorem Dist.lt {g:GR} {s:Nat} {d:List Int} (h:Dist g s d) {v:Nat} (hv:v<g.2.length):D d v<(g.2.length:Int):=by
 apply Classical.byContradiction
 intro hc
 have all:∀m:Nat,(m:Int)<=D d v->∃w,w<g.2.length∧D d w=D d v - m:=by
  intro m
  induction m with
  |zero=>intro _;exact⟨v,hv,by omega⟩
  |succ m ih=>
   intro hm
   obtain⟨w,hw,he⟩:=ih (by omega)
   obtain⟨u,hu,_,hue⟩:=h.near w hw (by omega)
   exact⟨u,hu,by omega⟩
 have ex:∀i:Nat,i<g.2.length+1->∃w,w<g.2.length∧D d w=(i:Int):=by
  intro i hi
  obtain⟨w,hw,he⟩:=all (D d v - i).toNat (by omega)
  exact⟨w,hw,by omega⟩
 have:=pigeon g.2.length (fun i=>if hi:i<g.2.length+1 then Classical.choose (ex i hi)else 0) (g.2.length+1) (fun i hi=>by
  rw[dif_pos hi];exact(Classical.choose_spec (ex i hi)).1) (fun i j hij hj he=>by
  rw[dif_pos (by omega),dif_pos hj]at he
  have h1:=(Classical.choose_spec (ex i (by omega))).2
  have h2:=(Classical.choose_spec (ex j hj)).2
  rw[he]at h1
  omega)
 omega
def T (e:List Int) (k v w:Nat):Int:=if 0<=D e w∧(D e w<k∨(D e w=k∧w<v))then D e w else -1
theorem ref_inner {g:GR} (hV:VG g) {s:Nat} {e:List Int} (hE:Dist g s e) {k v:Nat} (hk1:1<=k) (hk:k<g.2.length) (hv:v<g.2.length) (d0:List Int) (ag:Int×List Int->Option (List Int)) (r:List Int)
  (hl:d0.length=g.2.length) (hd:∀w,w<g.2.length->D d0 w=T e k v w)
  (hag:∀d:List Int,d.length=g.2.length->(∀w,w<g.2.length->D d w=T e k (v+1) w)->ag ((v:Int)+1,d)=some r):
  iter (ref01_Distances_s3 g ((k:Int),d0) ((v:Int),d0) ag) 1000 ((0:Int),d0)=some r:=by
 have hdeg:=(hV.node v hv).deg
 have h24:=hV.n24
 refine iter_eq (fun z:Int×List Int=>∃i:Nat,z.1=i∧i<=(row g v).length∧z.2.length=g.2.length∧(∀w,w<g.2.length->w≠v->D z.2 w=T e k v w)∧((D z.2 v=T e k v v∧(D z.2 v<0->∀j,j<i->∀u:Nat,(lnk (row g v) j).1=u->D e u≠(k:Int) - 1))∨(D z.2 v=k∧D e v=k))) (fun z=>31 - z.1.toNat) ?_ 1000 _ ⟨0,rfl,by omega,hl,fun w hw _=>hd w hw,.inl ⟨hd v hv,fun _ j hj=>by omega⟩⟩ (by simp)
 rintro⟨z,d⟩ ag2 ⟨i,hz,hi,hl,hw,hc⟩ hag2
 dsimp only at hz hl hw hc
 subst hz
 have tv:T e k v v=D e v∨T e k v v = -1:=by unfold T;split<;>simp
 have fin:(0<=D d v∨i=(row g v).length)->ag (wI .i64 ((v:Int)+1),d)=some r:=by
  intro hx
  rw[wr (by omega) (by omega)]
  refine hag d hl fun w hwn=> ?_
  by_cases hwv:w=v
  ·subst hwv
   rcases hc with⟨h1,h2⟩|⟨h1,h2⟩
   ·rw[h1]
    unfold T at h1 ⊢
    by_cases a:0<=D e w∧(D e w<k∨(D e w=k∧w<w))
    ·rw[if_pos a,if_pos (by omega)]
    ·rw[if_neg a]at h1 ⊢
     rw[if_neg]
     intro b
     have hek:D e w=k:=by omega
     obtain⟨u,hu,⟨j,hj,hju⟩,hue⟩:=hE.near w hv (by omega)
     have hid:i=(row g w).length:=by omega
     exact h2 (by omega) j (by omega) u hju (by omega)
   ·rw[h1];unfold T;rw[if_pos (by omega)];omega
  ·rw[hw w hwn hwv]
   unfold T
   by_cases a:0<=D e w∧(D e w<k∨(D e w=k∧w<v))
   ·rw[if_pos a,if_pos (by omega)]
   ·rw[if_neg a,if_neg (by omega)]
 unfold ref01_Distances_s3 ref01_Distances_k6 ref01_Distances_k5 ref01_Distances_k7
 dsimp only
 rw[ckT (by omega)]
 by_cases hil:i<(row g v).length
 rotate_left
 ·rw[if_neg (show¬(i:Int)<((row g v).length:Int) by omega),if_neg (by simp)]
  exact fin (.inr (by omega))
 obtain⟨u,hu,hue,hadj⟩:=hV.port hv hil
 rw[if_pos (show(i:Int)<((row g v).length:Int) by omega),ckT (by omega)]
 by_cases hneg:at' d (v:Int)<0
 rotate_left
 ·rw[if_neg (by rw[decide_eq_false hneg];simp)]
  exact fin (.inl (by show 0<=at' d (v:Int);omega))
 have huv:u≠v:=by rintro rfl;exact adj_irrefl hV hv hadj
 rw[if_pos (decide_eq_true hneg),ckT (by omega),ckT (show 0<=(i:Int)∧(i:Int)<((row g v).length:Int) by omega),show at' (at' g.2 (v:Int)) (i:Int)=lnk (row g v) i from rfl,hue,ckT (by omega),wr (x:=(k:Int) - 1) (by omega) (by omega),wr (x:=(i:Int)+1) (by omega) (by omega)]
 have hneg':D d v<0:=hneg
 have hc1:D d v=T e k v v∧(D d v<0->∀j,j<i->∀u:Nat,(lnk (row g v) j).1=u->D e u≠(k:Int) - 1):=by
  rcases hc with hc|⟨h,_⟩
  ·exact hc
  ·omega
 have hTu:=hw u hu huv
 have hnv:=hE.next u hu
 by_cases heq:at' d (u:Int)=(k:Int) - 1
 ·have heq':D d u=(k:Int) - 1:=heq
  rw[if_pos heq,ckT (by omega)]
  have heu:D e u=(k:Int) - 1:=by
   unfold T at hTu
   by_cases a:0<=D e u∧(D e u<k∨(D e u=k∧u<v))
   ·rw[if_pos a]at hTu;omega
   ·rw[if_neg a]at hTu;omega
  have hev:D e v=k:=by
   have h1:=hnv (by omega) v hv (hV.back hv hadj)
   have h2:=hc1.1
   unfold T at h2
   by_cases a:0<=D e v∧(D e v<k∨(D e v=k∧v<v))
   ·rw[if_pos a]at h2;omega
   ·omega
  refine hag2 _ ⟨i+1,by simp,by omega,by simp[hl],fun w hwn hwv=> ?_,.inr ⟨?_,hev⟩⟩ (by dsimp only;omega)
  ·show at' (d.set (Int.toNat (v:Int)) (k:Int)) (w:Int)=_
   rw[Int.toNat_natCast,at_set _ _ _ _ (by omega),if_neg hwv]
   exact hw w hwn hwv
  ·show at' (d.set (Int.toNat (v:Int)) (k:Int)) (v:Int)=_
   rw[Int.toNat_natCast,at_set _ _ _ _ (by omega),if_pos rfl]
 ·rw[if_neg heq]
  refine hag2 _ ⟨i+1,by simp,by omega,hl,hw,.inl ⟨hc1.1,fun hn j hj w hw2 he=> ?_⟩⟩ (by dsimp only;omega)
  by_cases hji:j=i
  ·subst hji
   have:w=u:=by omega
   subst this
   unfold T at hTu
   rw[if_pos (by omega)]at hTu
   exact heq (by show D d w=_;omega)
  ·exact hc1.2 hn j (by omega) w hw2 he
theorem list_ext {d e:List Int} (hl:d.length=e.length) (h:∀v,v<d.length->D d v=D e v):d=e:=by
 apply List.ext_getElem hl
 intro i h1 h2
 rw[<-D_getElem h1,<-D_getElem h2]
 exact h i h1
theorem refDistances_eq {g:GR} (hV:VG g) {s:Nat} (hs:s<g.2.length) {e:List Int} (hE:Dist g s e):m_ref01_Distances 1000 g (s:Int)=some e:=by
 have h24:=hV.n24
 unfold m_ref01_Distances ref01_Distances_k1
 rw[(refValid_eq g hV.light).1 hV,bindS rfl,if_neg (by simp),refIn_eq,wr (by omega) (by omega),decide_eq_true (by omega),bindS rfl,if_neg (by simp)]
 refine iter_eq (fun z:List Int×Int=>∃k:Nat,z.2=k∧k<=g.2.length∧z.1=List.replicate k (-1)) (fun z=>31 - z.2.toNat) ?_ 1000 _ ⟨0,rfl,by omega,rfl⟩ (by simp)
 rintro⟨l,z⟩ ag ⟨k,hz,hk,hlr⟩ hag
 dsimp only at hz hlr
 subst hz hlr
 unfold ref01_Distances_s4
 dsimp only
 by_cases hlt:k<g.2.length
 ·rw[if_pos (by omega),ckT (by simp only[List.length_replicate,List.length_singleton];omega),wr (by omega) (by omega)]
  exact hag _ ⟨k+1,by simp,by omega,by dsimp only;rw[List.replicate_succ']⟩ (by dsimp only;omega)
 rw[if_neg (by omega)]
 have hkn:k=g.2.length:=by omega
 subst hkn
 unfold ref01_Distances_k2
 rw[ckT (by simp only[List.length_replicate];omega),Int.toNat_natCast]
 have hat:∀w,w<g.2.length->D ((List.replicate g.2.length (-1:Int)).set s 0) w=T e 1 0 w:=by
  intro w hw
  have h1:=at_set (List.replicate g.2.length (-1:Int)) s w 0 (by simp only[List.length_replicate];omega)
  have hz:=hE.zero w hw
  show at' _ _=_
  rw[h1]
  by_cases hws:w=s
  ·have:=hz.2 hws
   rw[if_pos hws];unfold T;rw[if_pos (by omega)];omega
  ·have:D e w≠0:=fun h=>hws (hz.1 h)
   rw[if_neg hws,at'_nat,List.getD_eq_getElem?_getD,List.getElem?_replicate,if_pos hw]
   unfold T;rw[if_neg (by omega)];rfl
 refine iter_eq (fun z:Int×List Int=>∃k:Nat,z.1=k∧1<=k∧(k<=g.2.length)∧z.2.length=g.2.length∧∀w,w<g.2.length->D z.2 w=T e k 0 w) (fun z=>31 - z.1.toNat) ?_ 1000 _ ⟨1,rfl,by omega,by omega,by simp,hat⟩ (by simp)
 rintro⟨z,d⟩ ag1 ⟨k,hz,hk1,hk,hl,hd⟩ hag1
 dsimp only at hz hl hd
 subst hz
 unfold ref01_Distances_s1 ref01_Distances_k3
 dsimp only
 by_cases hkn:k<g.2.length
 rotate_left
 ·rw[if_neg (by omega)]
  congr 1
  refine list_ext (hl.trans hE.len.symm) fun v hv=> ?_
  have h1:=hE.lt (v:=v) (by omega)
  have h2:=hE.lo v (by omega)
  rw[hd v (by omega)]
  unfold T
  by_cases a:0<=D e v
  ·rw[if_pos (by omega)]
  ·rw[if_neg (by omega)];omega
 rw[if_pos (by omega)]
 refine iter_eq (fun z:Int×List Int=>∃v:Nat,z.1=v∧v<=g.2.length∧z.2.length=g.2.length∧∀w,w<g.2.length->D z.2 w=T e k v w) (fun z=>31 - z.1.toNat) ?_ 1000 _ ⟨0,rfl,by omega,hl,hd⟩ (by simp)
 rintro⟨z,d⟩ ag2 ⟨v,hz,hv,hl,hd⟩ hag2
 dsimp only at hz hl hd
 subst hz
 unfold ref01_Distances_s2 ref01_Distances_k4
 dsimp only
 by_cases hvn:v<g.2.length
 ·rw[if_pos (by omega)]
  exact ref_inner hV hE hk1 hkn hvn d ag2 e hl hd fun d' h1 h2=>hag2 _ ⟨v+1,by simp,by omega,h1,h2⟩ (by dsimp only;omega)
 ·rw[if_neg (by omega),wr (by omega) (by omega)]
  refine hag1 _ ⟨k+1,by simp,by omega,by omega,hl,fun w hw=> ?_⟩ (by dsimp only;omega)
  rw[hd w hw]
  unfold T
  by_cases a:0<=D e w∧(D e w<k∨(D e w=k∧w<v))
  ·rw[if_pos a,if_pos (by omega)]
  ·rw[if_neg a,if_neg (by omega)]
end Go.Proofs.YtfbkplemadmbfaaGreatDoor
end
section
namespace Go.Proofs.YtfbkplemadmbfaaGreatDoor
open Go.Sx
theorem refGreatest_ok (d:List Int) (h:d.length<=30):OK (fun r:Int=>(¬(∀v,v<d.length->0<=D d v)->r = -1)∧((∀v,v<d.length->0<=D d v) -> -1<=r∧(∀v,v<d.length->D d v<=r)∧(r = -1∨∃v,v<d.length∧D d v=r))) (m_ref01_greatest 1000 d):=by
 unfold m_ref01_greatest
 refine iter_ok (fun z:Int×Int=>∃k:Nat,z.2=k∧k<=d.length ∧ -1<=z.1∧(∀v,v<k->0<=D d v∧D d v<=z.1)∧(z.1 = -1∨∃v,v<k∧D d v=z.1)) (fun z=>31 - z.2.toNat) ?_ 1000 _ ⟨0,rfl,by omega,by omega,fun v hv=>by omega,.inl rfl⟩ (by simp)
 rintro⟨m,z⟩ ag ⟨k,hz,hk,h1,h2,h3⟩ hag
 dsimp only at hz h1 h2 h3
 subst hz
 unfold ref01_greatest_s1 ref01_greatest_k1
 dsimp only
 by_cases hlt:k<d.length
 ·rw[if_pos (by omega),ckT (by omega)]
  by_cases hneg:at' d (k:Int)<0
  ·rw[if_pos hneg]
   exact⟨-1,rfl,fun _=>rfl,fun h=>absurd (h k hlt) (by show¬0<=at' d (k:Int);omega)⟩
  rw[if_neg hneg,ckT (by omega),wr (by omega) (by omega)]
  have hk0:0<=D d k:=by show 0<=at' d (k:Int);omega
  refine hag _ ⟨k+1,by simp,by omega,by dsimp only;omega,fun v hv=> ?_,?_⟩ (by dsimp only;omega)
  ·by_cases hvk:v=k
   ·subst hvk;show 0<=D d v∧D d v<=max m (D d v);omega
   ·have:=h2 v (by omega);show 0<=D d v∧D d v<=max m (D d k);omega
  ·by_cases hm:m<=D d k
   ·exact .inr ⟨k,by omega,by show D d k=max m (D d k);omega⟩
   ·rcases h3 with h3|⟨v,hv,he⟩
    ·left;show max m (D d k) = -1;omega
    ·exact .inr ⟨v,by omega,by show D d v=max m (D d k);omega⟩
 ·rw[if_neg (by omega)]
  refine⟨m,rfl,fun h=>absurd (fun v hv=>(h2 v (by omega)).1) h,fun _=>⟨h1,fun v hv=>(h2 v (by omega)).2,?_⟩⟩
  rcases h3 with h3|⟨v,hv,he⟩
  ·exact .inl h3
  ·exact .inr ⟨v,by omega,he⟩
theorem conn_iff {g:GR} (hV:VG g) {s:Nat} (hs:s<g.2.length) {d:List Int} (hD:Dist g s d):(∀v,v<d.length->0<=D d v)↔Conn g:=by
 have hlen:=hD.len
 constructor
 ·intro h u v hu hv
  exact⟨_,Walk.trans (Walk.rev hV (Dist.pos hV hD hu (h u (by omega)))) (Dist.pos hV hD hv (h v (by omega)))⟩
 ·intro h v hv
  obtain⟨k,hk⟩:=h s v hs (by omega)
  exact(Dist.le hV hD hk).1
theorem refEcc_ok {g:GR} (hV:VG g) {s:Nat} (hs:s<g.2.length):OK (fun r:Int=>(Conn g->Ecc g s r)∧(¬Conn g->r = -1)) (m_ref01_Eccentricity 1000 g (s:Int)):=by
 obtain⟨d,hd,hD⟩:=search_ok hV hs
 have hlen:=hD.len
 have h24:=hV.n24
 unfold m_ref01_Eccentricity
 obtain⟨r,hr,h1,h2⟩:=refGreatest_ok d (by omega)
 rw[refDistances_eq hV hs hD,bindS rfl,hr]
 have hi:=conn_iff hV hs hD
 refine⟨r,rfl,fun hc=> ?_,fun hc=>h1 fun h=>hc (hi.1 h)⟩
 obtain⟨a1,a2,a3⟩:=h2 (hi.2 hc)
 have h0:=a2 s (by omega)
 have:=(hD.zero s hs).2 rfl
 refine⟨d,hd,hD,fun v hv=>a2 v (by omega),?_⟩
 rcases a3 with a3|⟨v,hv,he⟩
 ·omega
 ·exact⟨v,by omega,he⟩
theorem refConn_eq {g:GR} (hV:VG g):(Conn g->m_ref01_Connected 1000 g=some true)∧(¬Conn g->m_ref01_Connected 1000 g=some false):=by
 have hn:=hV.n1
 obtain⟨r,hr,h1,h2⟩:=refEcc_ok hV (s:=0) (by omega)
 unfold m_ref01_Eccentricity at hr
 unfold m_ref01_Connected
 obtain⟨d,hd,hr⟩:=bnd hr
 obtain⟨x,hx,hr⟩:=bnd hr
 cases hr
 rw[show m_ref01_Distances 1000 (g.1,g.2) 0=some d from hd,bindS rfl,hx,bindS rfl]
 constructor
 ·intro hc
  rw[decide_eq_true (Ecc.pos (by omega) (h1 hc)).1]
 ·intro hc
  rw[h2 hc];rfl
end Go.Proofs.YtfbkplemadmbfaaGreatDoor
end
section
namespace Go.Proofs.YtfbkplemadmbfaaGreatDoor
open Go.Sx
theorem iter_ifB {X R:Type} {step:X->(X->Option R)->Option R} {K:X->Option R} {bad:R} (N:Nat) (p:Nat->Prop) (I:Nat->X->Prop) (B:Nat)
  (hok:∀(k:Nat) x ag,k<N->k<B->I k x->p k->∃x',I (k+1) x'∧step x ag=ag x') (hbad:∀(k:Nat) x ag,k<N->k<B->I k x->¬p k->step x ag=some bad) (hend:∀x ag,I N x->N<B->step x ag=K x):
  ∀(fuel:Nat) (x:X),I 0 x->B<=fuel->(N<B∨∃k,k<N∧k<B∧¬p k)->((∀k,k<N->p k)->∃x',I N x'∧iter step fuel x=K x')∧(¬(∀k,k<N->p k)->iter step fuel x=some bad):=by
 intro fuel x hI hf hB
 have bads:∀(d a fuel:Nat) (x:X),I a x->a+d<N->a+d<B->¬p (a+d)->d<fuel->iter step fuel x=some bad:=by
  intro d
  induction d with
  |zero=>
   intro a fuel x hI h1 h2 hp hf
   obtain⟨f,rfl⟩:∃f,fuel=f+1:=⟨fuel - 1,by omega⟩
   exact hbad a x _ h1 h2 hI hp
  | succ d ih =>
   intro a fuel x hI h1 h2 hp hf
   obtain⟨f,rfl⟩:∃f,fuel=f+1:=⟨fuel - 1,by omega⟩
   by_cases hpa:p a
   ·obtain⟨x',hI',hs⟩:=hok a x (iter step f) (by omega) (by omega) hI hpa
    have hs:iter step (f+1) x=iter step f x':=hs
    rw[hs]
    exact ih (a+1) f x' hI' (by omega) (by omega) (by rw[show a+1+d=a+(d+1) by omega];exact hp) (by omega)
   ·exact hbad a x _ (by omega) (by omega) hI hpa
 have goods:∀(d a fuel:Nat) (x:X),I a x->a+d=N->N<B->(∀k,a<=k->k<N->p k)->d<fuel->∃x',I N x'∧iter step fuel x=K x':=by
  intro d
  induction d with
  |zero=>
   intro a fuel x hI h1 h2 hp hf
   obtain⟨f,rfl⟩:∃f,fuel=f+1:=⟨fuel - 1,by omega⟩
   obtain rfl:a=N:=by omega
   exact⟨x,hI,hend x _ hI h2⟩
  |succ d ih=>
   intro a fuel x hI h1 h2 hp hf
   obtain⟨f,rfl⟩:∃f,fuel=f+1:=⟨fuel - 1,by omega⟩
   obtain⟨x',hI',hs⟩:=hok a x (iter step f) (by omega) (by omega) hI (hp a (Nat.le_refl _) (by omega))
   have hs:iter step (f+1) x=iter step f x':=hs
   rw[hs]
   exact ih (a+1) f x' hI' (by omega) h2 (fun k h1 h2=>hp k (by omega) h2) (by omega)
 constructor
 ·intro h
  rcases hB with hB|⟨k,h1,_,h2⟩
  ·exact goods N 0 fuel x hI (by omega) hB (fun k _ hk=>h k hk) (by omega)
  ·exact absurd (h k h1) h2
 ·intro h
  have:∃k,k<N∧k<B∧¬p k:=by
   rcases hB with hB|hB
   ·apply Classical.byContradiction
    intro hc
    exact h fun k hk=>Classical.byContradiction fun hp=>hc ⟨k,hk,by omega,hp⟩
   ·exact hB
  obtain⟨k,h1,h2,h3⟩:=this
  exact bads k 0 fuel x hI (by omega) (by omega) (by rw[Nat.zero_add];exact h3) (by omega)
theorem row_bound {ps:List (List (Int×Int))} (hn:ps.length<=30) {v:Nat} (hv:v<ps.length):(at' ps (v:Int)).length<1000∨∃k,k<(at' ps (v:Int)).length∧k<1000∧¬LinkOk (at' ps (v:Int)) v ps.length k:=by
 by_cases h:(at' ps (v:Int)).length<1000
 ·exact .inl h
 ·right
  apply Classical.byContradiction
  intro hc
  have hok:∀k,k<40->LinkOk (at' ps (v:Int)) v ps.length k:=fun k hk=>Classical.byContradiction fun hp=>hc ⟨k,by omega,by omega,hp⟩
  have:=pigeon ps.length (fun i=>(lnk (at' ps (v:Int)) i).1.toNat) 40 (fun i hi=>by have:=(hok i hi).1;omega) (fun i j hij hj he=>by
   have h1:=(hok i (by omega)).1
   have h2:=(hok j hj).1
   have h3:=(hok j hj).2.2.2 i hij
   exact h3 (by omega))
  omega
theorem refValid_gen (g:GR):(VG g->m_ref01_Valid 1000 g=some true)∧(¬VG g->m_ref01_Valid 1000 g=some false):=by
 unfold m_ref01_Valid
 rw[refIn_eq,bindS rfl]
 by_cases h1:1<=g.2.length∧g.2.length<=24
 rotate_left
 ·rw[decide_eq_false (by omega)]
  exact⟨fun h=>absurd ⟨h.n1,h.n24⟩ h1,fun _=>rfl⟩
 rw[decide_eq_true (by omega),if_neg (by simp)]
 by_cases h2:g.1.length=g.2.length
 rotate_left
 ·rw[decide_eq_true (by omega)]
  exact⟨fun h=>absurd h.len h2,fun _=>rfl⟩
 rw[decide_eq_false (by omega)]
 unfold ref01_Valid_k1
 rw[if_neg (by simp)]
 have hids:∀(v:Nat) (ag:Int->Option Bool),v<g.2.length->((∀k,k<v->idOf g k≠idOf g v)->iter (ref01_Valid_s4 g v ag) 1000 0=ag ((v:Int)+1))∧(¬(∀k,k<v->idOf g k≠idOf g v)->iter (ref01_Valid_s4 g v ag) 1000 0=some false):=by
  intro v ag hv
  refine iter_if v _ (fun k ag2 hk hp=> ?_) (fun k ag2 hk hp=> ?_) (fun ag2=> ?_) 1000 (by omega)
  ·unfold ref01_Valid_s4
   rw[if_pos (by omega),ckT (by omega),ckT (by omega),if_neg hp,wr (by omega) (by omega)]
  ·unfold ref01_Valid_s4
   rw[if_pos (by omega),ckT (by omega),ckT (by omega),if_pos (Decidable.not_not.1 hp)]
  ·unfold ref01_Valid_s4 ref01_Valid_k6
   rw[if_neg (by omega),wr (by omega) (by omega)]
 have outer:=iter_if (step:=ref01_Valid_s3 1000 g) (K:=ref01_Valid_k2 1000 g ()) (bad:=false) g.2.length (NodeOk g) (fun v ag hv hp=> ?_) (fun v ag hv hp=> ?_) (fun ag=> ?_) 1000 (by omega)
 rotate_left
 ·unfold ref01_Valid_s3 ref01_Valid_k7
  rw[if_pos (by omega),ckT (by omega),refIn_eq,decide_eq_true hp.id,bindS rfl,if_neg (by simp),ckT (by omega),if_neg (show¬((g.2.length:Int)<=((row g v).length:Int))from by have:=hp.deg;omega),ckT (by omega),(linksValid_eq (row g v) v g.2.length (by have:=hp.deg;omega) (by omega)).1 hp.links,bindS rfl,if_neg (by simp)]
  exact(hids v ag hv).1 hp.ids
 ·unfold ref01_Valid_s3 ref01_Valid_k7
  rw[if_pos (by omega),ckT (by omega),refIn_eq]
  by_cases a1:0<=idOf g v∧idOf g v<=255
  rotate_left
  ·rw[decide_eq_false a1];rfl
  rw[decide_eq_true a1,bindS rfl,if_neg (by simp),ckT (by omega)]
  by_cases a2:(row g v).length<g.2.length
  rotate_left
  ·rw[if_pos (show(g.2.length:Int)<=((row g v).length:Int) by omega)];rfl
  rw[if_neg (show¬(g.2.length:Int)<=((row g v).length:Int) by omega),ckT (by omega)]
  by_cases a3:LinksOk (row g v) v g.2.length
  rotate_left
  ·rw[(linksValid_eq (row g v) v g.2.length (by omega) (by omega)).2 a3];rfl
  rw[(linksValid_eq (row g v) v g.2.length (by omega) (by omega)).1 a3,bindS rfl,if_neg (by simp)]
  exact(hids v ag hv).2 fun a4=>hp ⟨a1,a2,a3,a4⟩
 ·unfold ref01_Valid_s3
  rw[if_neg (by omega)]
 by_cases hn:∀v,v<g.2.length->NodeOk g v
 rotate_left
 ·exact⟨fun h=>absurd h.node hn,fun _=>outer.2 hn⟩
 rw[outer.1 hn]
 unfold ref01_Valid_k2
 have inner:∀(v:Nat) (ag:Int->Option Bool),v<g.2.length->((∀i,i<(row g v).length->SymAt g v i)->iter (ref01_Valid_s2 1000 g v ag) 1000 0=ag ((v:Int)+1))∧(¬(∀i,i<(row g v).length->SymAt g v i)->iter (ref01_Valid_s2 1000 g v ag) 1000 0=some false):=by
  intro v ag hv
  have hv3:=(hn v hv).deg
  have body:∀(i:Nat) ag2,i<(row g v).length->(SymAt g v i->ref01_Valid_s2 1000 g v ag i ag2=ag2 ((i:Int)+1))∧(¬SymAt g v i->ref01_Valid_s2 1000 g v ag i ag2=some false):=by
   intro i ag2 hi
   unfold ref01_Valid_s2
   rw[ckT (by omega),if_pos (show(i:Int)<((row g v).length:Int) by omega),ckT (by omega),ckT (show 0<=(i:Int)∧(i:Int)<((row g v).length:Int) by omega)]
   have hu:=((hn v hv).links i hi).1
   obtain⟨u,hu'⟩:∃u:Nat,(lnk (row g v) i).1=u:=⟨(lnk (row g v) i).1.toNat,by omega⟩
   have hun:u<g.2.length:=by omega
   unfold SymAt
   rw[show(at' (at' g.2 (v:Int)) (i:Int))=lnk (row g v) i from rfl,hu',refPort_eq g u v hun (by have:=(hn u hun).deg;omega),bindS rfl]
   have hlk:=(hn u hun).links
   rcases portOf_cases (row g u) v with⟨j,hj,hjv,hjf,he⟩|⟨hf,he⟩
   ·rw[he,if_neg (by omega),ckT (by omega),ckT (show 0<=(j:Int)∧(j:Int)<((at' g.2 (u:Int)).length:Int)from⟨by omega,by have:j<(row g u).length:=hj;exact_mod_cast this⟩)]
    unfold ref01_Valid_k5
    constructor
    ·rintro⟨k,hk,hkv,hkw⟩
     have hkj:k=j:=by
      rcases Nat.lt_trichotomy k j with h|h|h
      ·exact absurd hkv (hjf k h)
      ·exact h
      ·exact absurd (hjv.trans hkv.symm) ((hlk k hk).2.2.2 j h)
     subst hkj
     rw[if_neg (by rw[decide_eq_false];simp;exact fun h=>h hkw),wr (by omega) (by omega)]
    ·intro h
     rw[if_pos]
     exact decide_eq_true fun hw=>h ⟨j,hj,hjv,hw⟩
   ·rw[he,if_pos (by decide)]
    exact⟨fun⟨j,hj,hjv,_⟩=>absurd hjv (hf j hj),fun _=>rfl⟩
  refine iter_if (row g v).length _ (fun i ag2 hi hp=>(body i ag2 hi).1 hp) (fun i ag2 hi hp=>(body i ag2 hi).2 hp) (fun ag2=> ?_) 1000 (by omega)
  unfold ref01_Valid_s2 ref01_Valid_k4
  rw[ckT (by omega),if_neg (show¬(((row g v).length:Nat):Int)<((row g v).length:Int) by omega),wr (by omega) (by omega)]
 have outer2:=iter_if (step:=ref01_Valid_s1 1000 g) (K:=some true) (bad:=false) g.2.length (fun v=>∀i,i<(row g v).length->SymAt g v i) (fun v ag hv hp=> ?_) (fun v ag hv hp=> ?_) (fun ag=> ?_) 1000 (by omega)
 ·exact⟨fun h=>outer2.1 h.sym,fun h=>outer2.2 fun hs=>h ⟨h1.1,h1.2,h2,hn,hs⟩⟩
 ·unfold ref01_Valid_s1
  rw[if_pos (by omega)]
  exact(inner v ag hv).1 hp
 ·unfold ref01_Valid_s1
  rw[if_pos (by omega)]
  exact(inner v ag hv).2 hp
 ·unfold ref01_Valid_s1 ref01_Valid_k3
  rw[if_neg (by omega)]
theorem symmetric_gen (ps:List (List (Int×Int))) (hn:ps.length<=30):(SymPs ps->m_graph_symmetric 1000 ps=some true)∧(¬SymPs ps->m_graph_symmetric 1000 ps=some false):=by
 unfold m_graph_symmetric
 have inner:∀(v:Nat) (m:List ((Int×Int)×Int)) ag,v<ps.length->(∀z,z∈m↔Read ps v 0 z)->
   (LinksOk (at' ps (v:Int)) v ps.length->∃m',(∀z,z∈m'↔Read ps (v+1) 0 z)∧iter (graph_symmetric_s3 ps ((v:Int),m) ag) 1000 ((0:Int),m)=ag ((v:Int)+1,m'))∧
   (¬LinksOk (at' ps (v:Int)) v ps.length->iter (graph_symmetric_s3 ps ((v:Int),m) ag) 1000 ((0:Int),m)=some false):=by
  intro v m ag hv hm
  have hbnd:=row_bound hn hv
  have key:=iter_ifB (step:=graph_symmetric_s3 ps ((v:Int),m) ag) (K:=fun x=>ag ((v:Int)+1,x.2)) (bad:=false) (at' ps (v:Int)).length (LinkOk (at' ps (v:Int)) v ps.length) (fun i x=>x.1=(i:Int)∧∀z,z∈x.2↔Read ps v i z) 1000 ?_ ?_ ?_ 1000 ((0:Int),m) ⟨rfl,hm⟩ (by omega) hbnd
  ·refine⟨fun h=> ?_,fun h=>key.2 h⟩
   obtain⟨x,⟨hx1,hx2⟩,hx⟩:=key.1 h
   refine⟨x.2,fun z=>(hx2 z).trans ⟨?_,?_⟩,hx⟩
   ·rintro⟨a,b,h1,h2,h3⟩;exact⟨a,b,by omega,h2,h3⟩
   ·rintro⟨a,b,h1,h2,h3⟩
    refine⟨a,b,?_,h2,h3⟩
    by_cases ha:a=v
    ·subst ha;exact .inr ⟨rfl,h2⟩
    ·omega
  ·rintro i ⟨x1,x2⟩ ag2 hi hi2 ⟨hx,hs⟩ ⟨p1,p2,p3,p4⟩
   dsimp only at hx hs
   subst hx
   have hg:mget (((v:Int),(lnk (at' ps (v:Int)) i).1)) x2=none:=by
    apply mget_none
    intro w hw
    obtain⟨a,b,h1,h2,h3⟩:=(hs _).1 hw
    simp only[Prod.mk.injEq]at h3
    obtain⟨⟨h4,h5⟩,_⟩:=h3
    have:a=v:=by omega
    subst this
    have hb:b<i:=by omega
    exact p4 b hb h5.symm
   refine⟨((i:Int)+1,mset (((v:Int),(lnk (at' ps (v:Int)) i).1)) (lnk (at' ps (v:Int)) i).2 x2),⟨by simp,fun z=> ?_⟩,?_⟩
   ·dsimp only
    rw[mem_mset hg,hs]
    constructor
    ·rintro(rfl|⟨a,b,h1,h2,h3⟩)
     ·exact⟨v,i,.inr ⟨rfl,by omega⟩,hi,rfl⟩
     ·exact⟨a,b,by omega,h2,h3⟩
    ·rintro⟨a,b,h1,h2,h3⟩
     by_cases hab:a=v∧b=i
     ·left;rw[h3,hab.1,hab.2]
     ·right;exact⟨a,b,by omega,h2,h3⟩
   ·replace p1:0<=(at' (at' ps (v:Int)) (i:Int)).1∧(at' (at' ps (v:Int)) (i:Int)).1<=(ps.length:Int) - 1:=p1
    replace p3:1<=(at' (at' ps (v:Int)) (i:Int)).2∧(at' (at' ps (v:Int)) (i:Int)).2<=15:=p3
    unfold graph_symmetric_s3 graph_symmetric_k3 graph_symmetric_k4
    dsimp only
    rw[if_pos (by omega),ckT (by omega),if_neg (by omega),if_neg (by omega),if_neg (by rw[decide_eq_false p2];simp),if_neg (by omega),if_neg (by rw[decide_eq_false (by omega)];simp),hg,if_neg (by simp),wr (by omega) (by omega)]
  ·rintro i ⟨x1,x2⟩ ag2 hi hi2 ⟨hx,hs⟩ hp
   dsimp only at hx hs
   subst hx
   unfold graph_symmetric_s3 graph_symmetric_k3 graph_symmetric_k4
   dsimp only
   rw[if_pos (by omega),ckT (by omega)]
   by_cases h1:(lnk (at' ps (v:Int)) i).1<0
   ·rw[if_pos h1,if_pos rfl]
   rw[if_neg h1]
   by_cases h2:(ps.length:Int)<=(lnk (at' ps (v:Int)) i).1
   ·rw[if_pos h2,if_pos rfl]
   rw[if_neg h2]
   by_cases h3:(lnk (at' ps (v:Int)) i).1=v
   ·rw[if_pos (decide_eq_true h3)]
   rw[if_neg (by rw[decide_eq_false h3];simp)]
   by_cases h4:(lnk (at' ps (v:Int)) i).2<1
   ·rw[if_pos h4,if_pos rfl]
   rw[if_neg h4]
   by_cases h5:15<(lnk (at' ps (v:Int)) i).2
   ·rw[if_pos (decide_eq_true h5)]
   rw[if_neg (by rw[decide_eq_false h5];simp)]
   have:∃k,k<i∧(lnk (at' ps (v:Int)) k).1=(lnk (at' ps (v:Int)) i).1:=by
    apply Classical.byContradiction
    intro hc
    exact hp ⟨by omega,h3,by omega,fun k hk he=>hc ⟨k,hk,he⟩⟩
   obtain⟨k,hk,he⟩:=this
   have hin:=(hs _).2 ⟨v,k,.inr ⟨rfl,hk⟩,by omega,rfl⟩
   rw[if_pos]
   rw[<-he]
   cases hg:mget (((v:Int),(lnk (at' ps (v:Int)) k).1)) x2 with
   |some w=>rfl
   | none => exact absurd hin (by
     intro hin
     exact mget_none_mem hg hin)
  ·rintro⟨x1,x2⟩ ag2 ⟨hx,hs⟩ _
   dsimp only at hx hs
   subst hx
   unfold graph_symmetric_s3 graph_symmetric_k2
   dsimp only
   rw[if_neg (by omega),wr (by omega) (by omega)]
 have outer:=iter_ifS (step:=graph_symmetric_s2 1000 ps) (K:=fun x=>graph_symmetric_k1 x.2) (bad:=false) ps.length (fun v=>LinksOk (at' ps (v:Int)) v ps.length) (fun v x=>x.1=(v:Int)∧∀z,z∈x.2↔Read ps v 0 z) ?_ ?_ ?_ 1000 ((0:Int),[]) ⟨rfl,fun z=>⟨fun h=>(by cases h),fun⟨a,b,h1,_⟩=>(by omega)⟩⟩ (by omega)
 rotate_left
 ·rintro v ⟨x1,x2⟩ ag hv ⟨hx,hs⟩ hp
  dsimp only at hx hs
  subst hx
  obtain⟨m',h1,h2⟩:=(inner v x2 ag hv hs).1 hp
  refine⟨((v:Int)+1,m'),⟨by simp,h1⟩,?_⟩
  ·unfold graph_symmetric_s2
   dsimp only
   rw[if_pos (by omega),ckT (by omega)]
   exact h2
 ·rintro v ⟨x1,x2⟩ ag hv ⟨hx,hs⟩ hp
  dsimp only at hx hs
  subst hx
  unfold graph_symmetric_s2
  dsimp only
  rw[if_pos (by omega),ckT (by omega)]
  exact(inner v x2 ag hv hs).2 hp
 ·rintro⟨x1,x2⟩ ag ⟨hx,hs⟩
  dsimp only at hx hs
  subst hx
  unfold graph_symmetric_s2
  dsimp only
  rw[if_neg (by omega)]
 by_cases hL:∀v,v<ps.length->LinksOk (at' ps (v:Int)) v ps.length
 rotate_left
 ·exact⟨fun h=>absurd h.1 hL,fun _=>outer.2 hL⟩
 obtain⟨⟨x1,x2⟩,⟨hx,hs⟩,he⟩:=outer.1 hL
 rw[he]
 dsimp only at hs ⊢
 have hk:graph_symmetric_k1 x2=some (decide (∀z∈x2,¬(Option.getD (mget (z.1.2,z.1.1) x2) (0:Int))≠z.2)):=mrun_all (fun z:(Int×Int)×Int=>(Option.getD (mget (z.1.2,z.1.1) x2) (0:Int))≠z.2) x2
 rw[hk]
 have hiff:(∀z∈x2,¬(Option.getD (mget (z.1.2,z.1.1) x2) (0:Int))≠z.2)↔∀v,v<ps.length->∀i,i<(at' ps (v:Int)).length->SymAt ([],ps) v i:=by
  constructor
  ·intro h v hv i hi
   have hw:=(hL v hv i hi).2.2.1
   have hin:=(hs (((v:Int),(lnk (at' ps (v:Int)) i).1),(lnk (at' ps (v:Int)) i).2)).2 ⟨v,i,.inl hv,hi,rfl⟩
   have h2:=Decidable.not_not.1 (h _ hin)
   dsimp only at h2
   cases hg:mget ((lnk (at' ps (v:Int)) i).1,(v:Int)) x2 with
   |none=>rw[hg]at h2;simp only[Option.getD]at h2;omega
   | some w =>
    rw[hg]at h2;simp only[Option.getD]at h2
    obtain⟨a,b,h3,h4,h5⟩:=(hs _).1 (mget_some hg)
    simp only[Prod.mk.injEq]at h5
    obtain⟨⟨h6,h7⟩,h8⟩:=h5
    refine⟨b,?_,?_,?_⟩
    ·show b<(at' ps (lnk (at' ps (v:Int)) i).1).length
     rw[h6];exact h4
    ·show(lnk (at' ps (lnk (at' ps (v:Int)) i).1) b).1=v
     rw[h6];exact h7.symm
    ·show(lnk (at' ps (lnk (at' ps (v:Int)) i).1) b).2=(lnk (at' ps (v:Int)) i).2
     rw[h6,<-h8];exact h2
  ·intro h z hz hne
   obtain⟨a,b,h3,h4,rfl⟩:=(hs z).1 hz
   have ha:a<ps.length:=by omega
   apply hne
   obtain⟨j,hj1,hj2,hj3⟩:=h a ha b h4
   have hu:=(hL a ha b h4).1
   obtain⟨u,hu'⟩:∃u:Nat,(lnk (at' ps (a:Int)) b).1=u:=⟨(lnk (at' ps (a:Int)) b).1.toNat,by omega⟩
   replace hj1:j<(at' ps (lnk (at' ps (a:Int)) b).1).length:=hj1
   replace hj2:(lnk (at' ps (lnk (at' ps (a:Int)) b).1) j).1=a:=hj2
   replace hj3:(lnk (at' ps (lnk (at' ps (a:Int)) b).1) j).2=(lnk (at' ps (a:Int)) b).2:=hj3
   rw[hu']at hj1 hj2 hj3
   have hun:u<ps.length:=by omega
   dsimp only
   rw[hu',<-hj3]
   have hin:=(hs (((u:Int),(lnk (at' ps (u:Int)) j).1),(lnk (at' ps (u:Int)) j).2)).2 ⟨u,j,.inl hun,hj1,rfl⟩
   rw[hj2]at hin
   cases hg:mget ((u:Int),(a:Int)) x2 with
   |none=>exact absurd hin (mget_none_mem hg)
   | some w =>
    obtain⟨a',b',h3',h4',h5⟩:=(hs _).1 (mget_some hg)
    simp only[Prod.mk.injEq]at h5
    obtain⟨⟨h6,h7⟩,h8⟩:=h5
    have:a'=u:=by omega
    subst this
    have hbj:b'=j:=by
     rcases Nat.lt_trichotomy b' j with hl|hl|hl
     ·exact absurd (h7.symm.trans hj2.symm) ((hL a' hun j hj1).2.2.2 b' hl)
     ·exact hl
     ·exact absurd (hj2.trans h7) ((hL a' hun b' h4').2.2.2 j hl)
    subst hbj
    exact h8
 by_cases hS:∀v,v<ps.length->∀i,i<(at' ps (v:Int)).length->SymAt ([],ps) v i
 ·rw[decide_eq_true (hiff.2 hS)]
  exact⟨fun _=>rfl,fun h=>absurd ⟨hL,hS⟩ h⟩
 ·rw[decide_eq_false (fun h=>hS (hiff.1 h))]
  exact⟨fun h=>absurd h.2 hS,fun _=>rfl⟩
theorem valid_gen (g:GR):(VG g->m_graph_Valid 1000 g=some true)∧(¬VG g->m_graph_Valid 1000 g=some false):=by
 unfold m_graph_Valid graph_Valid_k1 graph_Valid_k2
 by_cases h1:g.1.length<1
 ·rw[if_pos (by omega)]
  exact⟨fun h=>by have:=h.n1;have:=h.len;omega,fun _=>rfl⟩
 rw[if_neg (by omega)]
 by_cases h2:24<g.1.length
 ·rw[if_pos (by omega)]
  exact⟨fun h=>by have:=h.n24;have:=h.len;omega,fun _=>rfl⟩
 rw[if_neg (by omega)]
 by_cases h3:g.1.length=g.2.length
 rotate_left
 ·rw[decide_eq_true (by omega)]
  exact⟨fun h=>absurd h.len h3,fun _=>rfl⟩
 rw[decide_eq_false (by omega),if_neg (by simp)]
 by_cases h4:∀k,k<g.1.length->IdOk g.1 k
 rotate_left
 ·rw[(differentIDs_eq g.1 (by omega)).2 h4,bindS rfl]
  exact⟨fun h=>absurd (fun k hk=>⟨(h.node k (by omega)).id,(h.node k (by omega)).ids⟩) h4,fun _=>rfl⟩
 rw[(differentIDs_eq g.1 (by omega)).1 h4,bindS rfl,if_pos rfl]
 by_cases h5:SymPs g.2
 ·rw[(symmetric_gen g.2 (by omega)).1 h5]
  exact⟨fun _=>rfl,fun h=>absurd ⟨by omega,by omega,h3,fun v hv=>⟨(h4 v (by omega)).1,deg_lt hv (h5.1 v hv),h5.1 v hv,(h4 v (by omega)).2⟩,h5.2⟩ h⟩
 ·rw[(symmetric_gen g.2 (by omega)).2 h5]
  exact⟨fun h=>absurd ⟨fun v hv=>(h.node v hv).links,h.sym⟩ h5,fun _=>rfl⟩
end Go.Proofs.YtfbkplemadmbfaaGreatDoor
end
end
section
namespace Go.Sx
theorem iter_for {X R:Type} {step:X->(X->Option R)->Option R} {K:Option R} (N:Nat) (F:Nat->X) (hstep:∀(k:Nat) ag,k<N->step (F k) ag=ag (F (k+1))) (hend:∀ag,step (F N) ag=K):∀fuel,N<fuel->iter step fuel (F 0)=K:=by
 have key:∀(d a fuel:Nat),a+d=N->d<fuel->iter step fuel (F a)=K:=by
  intro d
  induction d with
  |zero=>
   intro a fuel ha hf
   obtain rfl:a=N:=by omega
   obtain⟨f,rfl⟩:∃f,fuel=f+1:=⟨fuel - 1,by omega⟩
   exact hend _
  |succ d ih=>
   intro a fuel ha hf
   obtain⟨f,rfl⟩:∃f,fuel=f+1:=⟨fuel - 1,by omega⟩
   show step (F a) (iter step f)=K
   rw[hstep a _ (by omega)]
   exact ih (a+1) f (by omega) (by omega)
 exact fun fuel hf=>key N 0 fuel (by omega) hf
theorem iter_early {X R:Type} {step:X->(X->Option R)->Option R} {K bad:Option R} (N:Nat) (p:Nat->Prop) (F:Nat->X) (hok:∀(k:Nat) ag,k<N->p k->step (F k) ag=ag (F (k+1))) (hbad:∀(k:Nat) ag,k<N->¬p k->step (F k) ag=bad) (hend:∀ag,step (F N) ag=K):
  ∀fuel,N<fuel->((∀k,k<N->p k)->iter step fuel (F 0)=K)∧(¬(∀k,k<N->p k)->iter step fuel (F 0)=bad):=by
 have key:∀(d a fuel:Nat),a+d=N->d<fuel->((∀k,a<=k->k<N->p k)->iter step fuel (F a)=K)∧(¬(∀k,a<=k->k<N->p k)->iter step fuel (F a)=bad):=by
  intro d
  induction d with
  |zero=>
   intro a fuel ha hf
   obtain rfl:a=N:=by omega
   obtain⟨f,rfl⟩:∃f,fuel=f+1:=⟨fuel - 1,by omega⟩
   exact⟨fun _=>hend _,fun h=>absurd (fun k h1 h2=>by omega) h⟩
  | succ d ih =>
   intro a fuel ha hf
   obtain⟨f,rfl⟩:∃f,fuel=f+1:=⟨fuel - 1,by omega⟩
   obtain⟨i1,i2⟩:=ih (a+1) f (by omega) (by omega)
   have e:iter step (f+1) (F a)=step (F a) (iter step f):=rfl
   rw[e]
   by_cases hp:p a
   ·rw[hok a _ (by omega) hp]
    refine⟨fun h=>i1 fun k h1 h2=>h k (by omega) h2,fun h=>i2 fun h'=>h fun k h1 h2=> ?_⟩
    by_cases hk:k=a
    ·subst hk;exact hp
    ·exact h' k (by omega) h2
   ·exact⟨fun h=>absurd (h a (Nat.le_refl _) (by omega)) hp,fun _=>hbad a _ (by omega) hp⟩
 intro fuel hf
 obtain⟨h1,h2⟩:=key N 0 fuel (by omega) hf
 exact⟨fun h=>h1 fun k _ hk=>h k hk,fun h=>h2 fun h'=>h fun k hk=>h' k (by omega) hk⟩
theorem iter_inv {X R:Type} {step:X->(X->Option R)->Option R} {K:X->Option R} (N:Nat) (I:Nat->X->Prop) (hstep:∀(k:Nat) x ag,k<N->I k x->∃x',I (k+1) x'∧step x ag=ag x') (hend:∀x ag,I N x->step x ag=K x):∀fuel x,I 0 x->N<fuel->∃x',I N x'∧iter step fuel x=K x':=by
 have key:∀(d a fuel:Nat) (x:X),a+d=N->d<fuel->I a x->∃x',I N x'∧iter step fuel x=K x':=by
  intro d
  induction d with
  |zero=>
   intro a fuel x ha hf hI
   obtain rfl:a=N:=by omega
   obtain⟨f,rfl⟩:∃f,fuel=f+1:=⟨fuel - 1,by omega⟩
   exact⟨x,hI,hend _ _ hI⟩
  |succ d ih=>
   intro a fuel x ha hf hI
   obtain⟨f,rfl⟩:∃f,fuel=f+1:=⟨fuel - 1,by omega⟩
   obtain⟨x',hI',hs⟩:=hstep a x (iter step f) (by omega) hI
   obtain⟨x2,h1,h2⟩:=ih (a+1) f x' (by omega) (by omega) hI'
   exact⟨x2,h1,by rw[<-h2];exact hs⟩
 exact fun fuel x hI hf=>key N 0 fuel x (by omega) hf hI
def anyN (q:Nat->Bool):Nat->Bool
 |0=>false
 |k+1=>anyN q k||q k
theorem anyN_iff {q:Nat->Bool}:∀{k:Nat},anyN q k=true↔∃i,i<k∧q i=true
 |0=>by simp[anyN]
 | k + 1 => by
  simp only[anyN,Bool.or_eq_true,anyN_iff (k:=k)]
  constructor
  ·rintro(⟨i,h1,h2⟩|h)
   ·exact⟨i,by omega,h2⟩
   ·exact⟨k,by omega,h⟩
  ·rintro⟨i,h1,h2⟩
   by_cases e:i=k
   ·subst e;exact .inr h2
   ·exact .inl ⟨i,by omega,h2⟩
def maskN (p:Nat->Bool):Nat->Nat
 |0=>0
 |k+1=>if p k then maskN p k ||| 2^k else maskN p k
theorem maskN_lt (p:Nat->Bool):∀k,maskN p k<2^k
 |0=>by simp[maskN]
 |k+1=>by
  have h:=maskN_lt p k
  simp only[maskN]
  split
  ·exact Nat.or_lt_two_pow (by omega) (Nat.pow_lt_pow_right (by omega) (by omega))
  ·omega
end Go.Sx
end
section
namespace Go.Proofs.YtfbkplemadmbfaaGreatDoor
open Go Go.Sx
theorem bOrN {a b:Nat} (ha:a<4294967296) (hb:b<4294967296):bOr .u32 (a:Int) (b:Int)=((a ||| b:Nat):Int):=by rw[bOr_eq,N32_nat ha,N32_nat hb]
theorem bOrBit {a k:Nat} (ha:a<4294967296) (hk:k<32):bOr .u32 (a:Int) (bShl .u32 1 (k:Int))=((a ||| 2^k:Nat):Int):=by rw[bShl1 hk,bOrN ha (pow32 hk)]
theorem maskN32 (p:Nat->Bool) {k:Nat} (hk:k<=32):maskN p k<4294967296:=Nat.lt_of_lt_of_le (maskN_lt p k) (Nat.pow_le_pow_right (n:=2) (by omega) hk)
theorem wInc {i:Nat} (h:i<1000000):wI .i64 ((i:Int)+1)=(i:Int)+1:=wr (by omega) (by omega)
theorem VG.to {g:GR} (hV:VG g) {v i:Nat} (hv:v<g.2.length) (hi:i<(row g v).length):∃u:Nat,u<g.2.length∧(lnk (row g v) i).1=(u:Int):=by
 obtain⟨u,h1,h2,_⟩:=hV.port hv hi
 exact⟨u,h1,h2⟩
end Go.Proofs.YtfbkplemadmbfaaGreatDoor
end
section
namespace Go.Proofs.YtfbkplemadmbfaaGreatDoor
open Go.Sx
def bfs_Configuration_k1  (a3:Unit):Option (Bool):=
 some (true)
def bfs_Configuration_k2 (a7:Int) (ag6:(Int)->Option (Bool)) (a11:Unit):Option (Bool):=
 ag6 (wI .i64 (a7+(1:Int)))
def bfs_Configuration_k4 (a17:Int) (ag16:(Int)->Option (Bool)) (a28:Bool):Option (Bool):=
 if a28=true then(some (false))else(ag16 (wI .i64 (a17+(1:Int))))
def bfs_Configuration_k3 (p1:List (List (Int))) (a7:Int) (a17:Int) (ag16:(Int)->Option (Bool)) (a25:Int×Int):Option (Bool):=
 if(at' (at' p1 a7) a17)<a25.1 then(bfs_Configuration_k4 a17 ag16 (true))else(bfs_Configuration_k4 a17 ag16 (decide (a25.2<(at' (at' p1 a7) a17))))
def bfs_Configuration_s2 (p0:List (Int)×(List (List (Int×Int)))) (p1:List (List (Int))) (p2:List (Int)) (a7:Int) (ag6:(Int)->Option (Bool)) (a17:Int) (ag16:(Int)->Option (Bool)):Option (Bool):=
 if a17<(List.length (at' p1 a7):Int)then(ck (0<=a17∧a17<(List.length (at' p1 a7):Int)) (ck (0<=a17∧a17<(List.length p2:Int)) (if(at' p2 a17)=(-1:Int)then(ck (0<=a7∧a7<(List.length p0.2:Int)) (bfs_Configuration_k3 p1 a7 a17 ag16 ((-1:Int),(wI .i64 ((List.length (at' p0.2 a7):Int) - (1:Int))))))else(bfs_Configuration_k3 p1 a7 a17 ag16 ((0:Int),(at' p2 a17))))))else(bfs_Configuration_k2 a7 ag6 (()))
def bfs_Configuration_s1 (fuel:Nat) (p0:List (Int)×(List (List (Int×Int)))) (p1:List (List (Int))) (p2:List (Int)) (a7:Int) (ag6:(Int)->Option (Bool)):Option (Bool):=
 if a7<(List.length p1:Int)then(ck (0<=a7∧a7<(List.length p1:Int)) (if(List.length (at' p1 a7):Int)≠(List.length p2:Int)then(some (false))else(iter (bfs_Configuration_s2 p0 p1 p2 a7 ag6) fuel (0:Int))))else(bfs_Configuration_k1  (()))
def m_bfs_Configuration (fuel:Nat) (p0:List (Int)×(List (List (Int×Int)))) (p1:List (List (Int))) (p2:List (Int)):Option (Bool):=
 if(List.length p1:Int)≠(List.length p0.1:Int)then(some (false))else(iter (bfs_Configuration_s1 fuel p0 p1 p2) fuel (0:Int))
theorem body82:HasBody Tryz.prog 82:=Tryz.call82
theorem t_bfs_Configuration (fuel:Nat) {p0:List (Int)×(List (List (Int×Int)))} {p1:List (List (Int))} {p2:List (Int)} (v0:Value)  (v1:Value)  (z2:List (Value×List (Int×Int)))  (v3:Value)  (z4:List (Value×List (Int)))  (v5:Value) (r:Bool) (h:m_bfs_Configuration fuel p0 p1 p2=some r):
  Meets Tryz.prog 82 #[Value.agg #[v0,v1],v3,v5] [Sl RI64 v0 p0.1,S2 RI64I64p v1 z2 p0.2,S2 RI64 v3 z4 p1,Sl RI64 v5 p2] (fun x:Unit=>Value.bool (r)) (fun x l=>l) (fun _ l=>l):=by
 refine Meets.of (vs:=[Value.agg #[v0,v1],v3,v5]) Tryz.func82 rfl Tryz.ntmps82 rfl fun c=> ?_
 unfold m_bfs_Configuration at h
 refine J.seq<|J.region<|J.loud (Loud.box (cs:=[v0,v1]) rfl rfl) rfl fun b1=>J.quiet (Y.assign rfl) rfl<|J.done<|J.thenN<|J.seq<|J.seq<|J.region<|J.quiet (Y.move rfl) rfl<|J.quiet (Y.lenN rfl (Lent.fact 2 rfl) rfl) rfl<|J.quiet (Y.fieldB rfl rfl rfl rfl rfl) rfl<|J.quiet (Y.loadB 0 rfl rfl rfl rfl rfl) rfl<|J.quiet (Y.lenS rfl (Lent.fact 0 rfl) rfl) rfl<|J.quiet (Y.neq rfl rfl) rfl<|J.done<|J.thenN ?_
 refine J.condD (by exact rfl) (fun hp2=> ?_) (fun hp2=> ?_)
 ·have h:=ifP hp2 h
  refine J.seq<|J.region<|J.quiet (Y.assign rfl) rfl<|J.done<|J.thenN<|J.ret<|J.thenR ?_
  obtain rfl:=Option.some.inj h
  exact J.retG1 (()) rfl rfl (RV.tmp rfl) (SubM.nil) LentAll.nil
 ·have h:=ifN hp2 h
  refine J.skip<|J.thenN<|J.seq<|J.midI (A:=Unit) (B:=Unit) (fun a3=>bfs_Configuration_k1  a3=some r) (fun a3 b4=>[]) (fun a3 b4=>[]) (fun a3 b4=>[Sl RI64 v0 p0.1,S2 RI64I64p v1 z2 p0.2,S2 RI64 v3 z4 p1,Sl RI64 v5 p2]) ?_ ?_
  ·refine J.seq<|J.region<|J.quiet (Y.move rfl) rfl<|J.quiet (Y.lenN rfl (Lent.fact 2 rfl) rfl) rfl<|J.quiet (Y.move rfl) rfl<|J.done<|J.thenN<|J.block<|J.loopI (A:=Int) (B:=Unit) (bfs_Configuration_s1 fuel p0 p1 p2) (fun a7 b8=>[(2,v5),(3,Value.pointer (some ⟨b1,0,none⟩)),(19,v3),(20,Value.int .i64 (List.length p1:Int)),(21,Value.int .i64 (a7))]) (fun a7 b8=>[Blk b1 [v0,v1] 25]) (fun a7 b8=>[Sl RI64 v0 p0.1,S2 RI64I64p v1 z2 p0.2,S2 RI64 v3 z4 p1,Sl RI64 v5 p2]) (0:Int) (()) h SF (SubM.refl _) (LentAll.refl _ _) ?_
   clear h
   intro k9 a7 b8 h
   unfold bfs_Configuration_s1 at h
   refine J.seq<|J.region<|J.quiet (Y.lss rfl rfl) rfl<|J.done<|J.thenN<|J.seq ?_
   refine J.condD (by exact rfl) (fun hp10=> ?_) (fun hp10=> ?_)
   ·have h:=ifP hp10 h
    refine J.skip<|J.thenN<|J.seq<|J.midI (A:=Unit) (B:=Unit) (fun a11=>bfs_Configuration_k2 a7 (iter (bfs_Configuration_s1 fuel p0 p1 p2) k9) a11=some r) (fun a11 b12=>[(2,v5),(3,Value.pointer (some ⟨b1,0,none⟩)),(19,v3),(20,Value.int .i64 (List.length p1:Int)),(21,Value.int .i64 (a7))]) (fun a11 b12=>[Blk b1 [v0,v1] 25]) (fun a11 b12=>[Sl RI64 v0 p0.1,S2 RI64I64p v1 z2 p0.2,S2 RI64 v3 z4 p1,Sl RI64 v5 p2]) ?_ ?_
    ·refine J.block<|J.seq<|J.region<|J.quiet (Y.move rfl) rfl ?_
     have h:=ck_some h;obtain⟨hc13,h⟩:=h
     refine J.quiet (Y.indexN rfl rfl (Lent.fact 2 rfl) rfl rfl hc13) rfl<|J.quiet (Y.loadRow rfl (Lent.fact 2 rfl) rfl rfl hc13) rfl<|J.quiet (Y.assign rfl) rfl<|J.quiet (Y.assign rfl) rfl<|J.done<|J.thenN<|J.seq<|J.seq<|J.region<|J.quiet (Y.move rfl) rfl<|J.quiet (Y.lenS rfl (Lent.el (Lent.fact 2 rfl) hc13.1 hc13.2) rfl) rfl<|J.quiet (Y.move rfl) rfl<|J.quiet (Y.lenS rfl (Lent.fact 3 rfl) rfl) rfl<|J.quiet (Y.neq rfl rfl) rfl<|J.done<|J.thenN ?_
     refine J.condD (by exact rfl) (fun hp14=> ?_) (fun hp14=> ?_)
     ·have h:=ifP hp14 h
      refine J.seq<|J.region<|J.quiet (Y.assign rfl) rfl<|J.done<|J.thenN<|J.ret<|J.thenR<|J.inR<|J.thenR<|J.thenR<|J.inR<|J.thenR ?_
      obtain rfl:=Option.some.inj h
      exact J.retG1 (()) rfl rfl (RV.tmp rfl) (SubM.nil) LentAll.nil
     ·have h:=ifN hp14 h
      refine J.skip<|J.thenN<|J.seq<|J.region<|J.quiet (Y.move rfl) rfl<|J.quiet (Y.lenS rfl (Lent.el (Lent.fact 2 rfl) hc13.1 hc13.2) rfl) rfl<|J.quiet (Y.move rfl) rfl<|J.done<|J.thenN<|J.block<|J.loopI (A:=Int) (B:=Unit) (bfs_Configuration_s2 p0 p1 p2 a7 (iter (bfs_Configuration_s1 fuel p0 p1 p2) k9)) (fun a17 b18=>[(2,v5),(3,Value.pointer (some ⟨b1,0,none⟩)),(7,Value.int .i64 (a7)),(19,v3),(20,Value.int .i64 (List.length p1:Int)),(21,Value.int .i64 (a7)),(31,(at' z4 a7).1),(32,Value.int .i64 (List.length (at' p1 a7):Int)),(33,Value.int .i64 (a17))]) (fun a17 b18=>[Blk b1 [v0,v1] 25]) (fun a17 b18=>[Sl RI64 v0 p0.1,S2 RI64I64p v1 z2 p0.2,S2 RI64 v3 z4 p1,Sl RI64 v5 p2]) (0:Int) (()) h SF (SubM.refl _) (LentAll.refl _ _) ?_
      clear h
      intro k19 a17 b18 h
      unfold bfs_Configuration_s2 at h
      refine J.seq<|J.region<|J.quiet (Y.lss rfl rfl) rfl<|J.done<|J.thenN<|J.seq ?_
      refine J.condD (by exact rfl) (fun hp20=> ?_) (fun hp20=> ?_)
      ·have h:=ifP hp20 h
       refine J.skip<|J.thenN<|J.seq<|J.block<|J.seq<|J.region<|J.quiet (Y.move rfl) rfl ?_
       have h:=ck_some h;obtain⟨hc21,h⟩:=h
       refine J.quiet (Y.indexS rfl rfl (Lent.el (Lent.fact 2 rfl) hc13.1 hc13.2) rfl rfl hc21) rfl<|J.quiet (Y.loadS0 rfl (Lent.el (Lent.fact 2 rfl) hc13.1 hc13.2) rfl rfl rfl RI64c0 hc21) rfl<|J.quiet (Y.assign rfl) rfl<|J.quiet (Y.assign rfl) rfl<|J.done<|J.thenN<|J.seq ?_
       refine JR.start [0,0,3,7,0,31] 5 mixedOrders (by decide +kernel) ?_
       refine JR.open (by exact rfl) ?_
       refine JR.qt rfl (SubM.nil) (SubL.nil) (Y.move rfl) HistOk.z<|JR.qt rfl (SubM.nil) (SubL.nil) (Y.move rfl) HistOk.z ?_
       have h:=ck_some h;obtain⟨hc22,h⟩:=h
       refine JR.qt rfl (SubM.nil) (SubL.cons (List.mem_of_getElem? (i:=3) rfl) (SubL.nil)) (Y.indexS rfl rfl (Lent.fact 0 rfl) rfl rfl hc22) HistOk.z<|JR.qt rfl (SubM.nil) (SubL.cons (List.mem_of_getElem? (i:=3) rfl) (SubL.nil)) (Y.loadS0 rfl (Lent.fact 0 rfl) rfl rfl rfl RI64c0 hc22) HistOk.z<|JR.qt rfl (SubM.nil) (SubL.nil) (Y.assign rfl) HistOk.z<|JR.tailD 5 rfl rfl<|J.quiet (Y.assign rfl) rfl<|J.done<|J.thenN<|J.seq<|J.midI (A:=Int×Int) (B:=Unit) (fun a25=>bfs_Configuration_k3 p1 a7 a17 (iter (bfs_Configuration_s2 p0 p1 p2 a7 (iter (bfs_Configuration_s1 fuel p0 p1 p2) k9)) k19) a25=some r) (fun a25 b26=>[(2,v5),(3,Value.pointer (some ⟨b1,0,none⟩)),(7,Value.int .i64 (a7)),(10,Value.int .i64 (at' (at' p1 a7) a17)),(11,Value.int .i64 (a25.1)),(12,Value.int .i64 (a25.2)),(19,v3),(20,Value.int .i64 (List.length p1:Int)),(21,Value.int .i64 (a7)),(31,(at' z4 a7).1),(32,Value.int .i64 (List.length (at' p1 a7):Int)),(33,Value.int .i64 (a17))]) (fun a25 b26=>[Blk b1 [v0,v1] 25]) (fun a25 b26=>[Sl RI64 v0 p0.1,S2 RI64I64p v1 z2 p0.2,S2 RI64 v3 z4 p1,Sl RI64 v5 p2]) ?_ ?_
       ·refine J.seq<|J.region<|J.quiet (Y.move rfl) rfl<|J.quiet (Y.eql rfl rfl) rfl<|J.done<|J.thenN ?_
        refine J.condD (by exact rfl) (fun hp32=> ?_) (fun hp32=> ?_)
        ·have h:=ifP hp32 h
         refine JR.start [0,1,0,7,15,31,63,0,255] 8 mixedOrders (by decide +kernel) ?_
         refine JR.open (by exact rfl) ?_
         refine JR.qt rfl (SubM.nil) (SubL.nil) (Y.fieldB rfl rfl rfl rfl rfl) HistOk.z<|JR.qt rfl (SubM.refl _) (SubL.nil) (Y.loadB 0 rfl rfl rfl rfl rfl) HistOk.z<|JR.qt rfl (SubM.nil) (SubL.nil) (Y.move rfl) HistOk.z ?_
         have h:=ck_some h;obtain⟨hc33,h⟩:=h
         refine JR.qt rfl (SubM.nil) (SubL.cons (List.mem_of_getElem? (i:=1) rfl) (SubL.nil)) (Y.indexN rfl rfl (Lent.fact 0 rfl) rfl rfl hc33) HistOk.z<|JR.qt rfl (SubM.nil) (SubL.cons (List.mem_of_getElem? (i:=1) rfl) (SubL.nil)) (Y.loadRow rfl (Lent.fact 0 rfl) rfl rfl hc33) HistOk.z<|JR.qt rfl (SubM.nil) (SubL.cons (List.mem_of_getElem? (i:=1) rfl) (SubL.nil)) (Y.lenS rfl (Lent.el (Lent.fact 0 rfl) hc33.1 hc33.2) rfl) HistOk.z<|JR.qt rfl (SubM.nil) (SubL.nil) (Y.subW rfl rfl) HistOk.z<|JR.qt rfl (SubM.nil) (SubL.nil) (Y.assign rfl) HistOk.z<|JR.tailD 8 rfl rfl<|J.quiet (Y.assign rfl) rfl<|J.done<|J.thenN ?_
         exact J.meetI ((-1:Int),(wI .i64 ((List.length (at' p0.2 a7):Int) - (1:Int)))) (()) h SF (SubM.refl _) (LentAll.refl _ _)
        ·have h:=ifN hp32 h
         refine J.skip<|J.thenN ?_
         exact J.meetI ((0:Int),(at' p2 a17)) (()) h SF (SubM.refl _) (LentAll.refl _ _)
       ·clear h
        intro a25 b26 h
        unfold bfs_Configuration_k3 at h
        refine J.seq<|J.midI (A:=Bool) (B:=Unit) (fun a28=>bfs_Configuration_k4 a17 (iter (bfs_Configuration_s2 p0 p1 p2 a7 (iter (bfs_Configuration_s1 fuel p0 p1 p2) k9)) k19) a28=some r) (fun a28 b29=>[(2,v5),(3,Value.pointer (some ⟨b1,0,none⟩)),(7,Value.int .i64 (a7)),(19,v3),(20,Value.int .i64 (List.length p1:Int)),(21,Value.int .i64 (a7)),(31,(at' z4 a7).1),(32,Value.int .i64 (List.length (at' p1 a7):Int)),(33,Value.int .i64 (a17)),(58,Value.bool (a28))]) (fun a28 b29=>[Blk b1 [v0,v1] 25]) (fun a28 b29=>[Sl RI64 v0 p0.1,S2 RI64I64p v1 z2 p0.2,S2 RI64 v3 z4 p1,Sl RI64 v5 p2]) ?_ ?_
        ·refine J.region<|J.quiet (Y.move rfl) rfl<|J.quiet (Y.move rfl) rfl<|J.quiet (Y.lss rfl rfl) rfl<|J.quiet (Y.move rfl) rfl ?_
         refine J.guardD (by exact rfl) (by exact rfl) (fun hp31=> ?_) (fun hp31=> ?_)
         ·have h:=ifP hp31 h
          refine J.guardN rfl rfl rfl<|J.guardN rfl rfl rfl<|J.guardN rfl rfl rfl<|J.quiet (Y.pickT rfl rfl) rfl<|J.done<|J.thenN ?_
          exact J.meetI (true) (()) h SF (SubM.refl _) (LentAll.refl _ _)
         ·have h:=ifN hp31 h
          refine J.guardY rfl (Y.move rfl) rfl<|J.guardY rfl (Y.move rfl) rfl<|J.guardY rfl (Y.gtr rfl rfl) rfl<|J.quiet (Y.pickF rfl rfl) rfl<|J.done<|J.thenN ?_
          exact J.meetI (decide (a25.2<(at' (at' p1 a7) a17))) (()) h SF (SubM.refl _) (LentAll.refl _ _)
        ·clear h
         intro a28 b29 h
         unfold bfs_Configuration_k4 at h
         refine J.cond (by exact rfl) (fun hp30=> ?_) (fun hp30=> ?_)
         ·have h:=ifP hp30 h
          refine J.seq<|J.region<|J.quiet (Y.assign rfl) rfl<|J.done<|J.thenN<|J.ret<|J.inR<|J.thenR<|J.thenR<|J.inR<|J.inR<|J.thenR<|J.thenR<|J.inR<|J.thenR ?_
          obtain rfl:=Option.some.inj h
          exact J.retG1 (()) rfl rfl (RV.tmp rfl) (SubM.nil) LentAll.nil
         ·have h:=ifBN hp30 h
          refine J.skip<|J.inN<|J.thenN<|J.region<|J.quiet (Y.addW rfl rfl) rfl<|J.quiet (Y.move rfl) rfl<|J.done<|J.thenN ?_
          exact J.againI (wI .i64 (a17+(1:Int))) (()) h SF (SubM.refl _) (LentAll.refl _ _)
      ·have h:=ifN hp20 h
       refine J.exit<|J.thenX<|J.thenX<|J.inX<|J.inN<|J.thenN ?_
       exact J.meetI (()) (()) h SF (SubM.refl _) (LentAll.refl _ _)
    ·clear h
     intro a11 b12 h
     unfold bfs_Configuration_k2 at h
     refine J.region<|J.quiet (Y.addW rfl rfl) rfl<|J.quiet (Y.move rfl) rfl<|J.done<|J.thenN ?_
     exact J.againI (wI .i64 (a7+(1:Int))) (()) h SF (SubM.refl _) (LentAll.refl _ _)
   ·have h:=ifN hp10 h
    refine J.exit<|J.thenX<|J.thenX<|J.inX<|J.thenN ?_
    exact J.meetI (()) (()) h SF (SubM.nil) (LentAll.refl _ _)
  ·clear h
   intro a3 b4 h
   unfold bfs_Configuration_k1 at h
   refine J.seq<|J.region<|J.quiet (Y.assign rfl) rfl<|J.done<|J.thenN<|J.ret ?_
   obtain rfl:=Option.some.inj h
   exact J.retG1 (()) rfl rfl (RV.tmp rfl) (SubM.refl _) LentAll.nil
end Go.Proofs.YtfbkplemadmbfaaGreatDoor
end
section
namespace Go.Proofs.YtfbkplemadmbfaaGreatDoor
open Go.Sx
def ref23_top_k1  (a3:Int):Option (Int):=
 some (a3)
def ref23_top_s1 (p0:List (Int)×(List (List (Int×Int)))) (a8:Int×Int) (ag7:(Int×Int)->Option (Int)):Option (Int):=
 if a8.2<(List.length p0.1:Int)then(ck (0<=a8.2∧a8.2<(List.length p0.1:Int)) (ag7 ((max a8.1 (at' p0.1 a8.2)),(wI .i64 (a8.2+(1:Int))))))else(ref23_top_k1  (a8.1))
def m_ref23_top (fuel:Nat) (p0:List (Int)×(List (List (Int×Int)))):Option (Int):=
 iter (ref23_top_s1 p0) fuel ((0:Int),(0:Int))
theorem body85:HasBody Tryz.prog 85:=Tryz.call85
theorem t_ref23_top (fuel:Nat) {p0:List (Int)×(List (List (Int×Int)))} (v0:Value)  (v1:Value)  (z2:List (Value×List (Int×Int))) (r:Int) (h:m_ref23_top fuel p0=some r):
  Meets Tryz.prog 85 #[Value.agg #[v0,v1]] [Sl RI64 v0 p0.1,S2 RI64I64p v1 z2 p0.2] (fun x:Unit=>Value.int .i64 (r)) (fun x l=>l) (fun _ l=>l):=by
 refine Meets.of (vs:=[Value.agg #[v0,v1]]) Tryz.func85 rfl Tryz.ntmps85 rfl fun c=> ?_
 unfold m_ref23_top at h
 refine J.seq<|J.region<|J.loud (Loud.box (cs:=[v0,v1]) rfl rfl) rfl fun b1=>J.quiet (Y.assign rfl) rfl<|J.done<|J.thenN<|J.seq<|J.region<|J.quiet (Y.assign rfl) rfl<|J.done<|J.thenN<|J.seq<|J.midI (A:=Int) (B:=Unit) (fun a3=>ref23_top_k1  a3=some r) (fun a3 b4=>[(3,Value.int .i64 (a3))]) (fun a3 b4=>[]) (fun a3 b4=>[Sl RI64 v0 p0.1,S2 RI64I64p v1 z2 p0.2]) ?_ ?_
 ·refine J.seq<|J.region<|J.quiet (Y.assign rfl) rfl<|J.done<|J.thenN<|J.block<|J.loopI (A:=Int×Int) (B:=Unit) (ref23_top_s1 p0) (fun a8 b9=>[(1,Value.pointer (some ⟨b1,0,none⟩)),(3,Value.int .i64 (a8.1)),(4,Value.int .i64 (a8.2))]) (fun a8 b9=>[Blk b1 [v0,v1] 25]) (fun a8 b9=>[Sl RI64 v0 p0.1,S2 RI64I64p v1 z2 p0.2]) ((0:Int),(0:Int)) (()) h SF (SubM.refl _) (LentAll.refl _ _) ?_
  clear h
  intro k10 a8 b9 h
  unfold ref23_top_s1 at h
  refine J.seq<|J.seq<|J.region<|J.quiet (Y.move rfl) rfl<|J.quiet (Y.fieldB rfl rfl rfl rfl rfl) rfl<|J.quiet (Y.loadB 0 rfl rfl rfl rfl rfl) rfl<|J.quiet (Y.lenS rfl (Lent.fact 0 rfl) rfl) rfl<|J.quiet (Y.lss rfl rfl) rfl<|J.done<|J.thenN ?_
  refine J.condD (by exact rfl) (fun hp11=> ?_) (fun hp11=> ?_)
  ·have h:=ifP hp11 h
   refine J.skip<|J.thenN<|J.seq<|J.block<|J.region<|J.quiet (Y.move rfl) rfl<|J.quiet (Y.fieldB rfl rfl rfl rfl rfl) rfl<|J.quiet (Y.loadB 0 rfl rfl rfl rfl rfl) rfl<|J.quiet (Y.move rfl) rfl ?_
   have h:=ck_some h;obtain⟨hc12,h⟩:=h
   refine J.quiet (Y.indexS rfl rfl (Lent.fact 0 rfl) rfl rfl hc12) rfl<|J.quiet (Y.loadS0 rfl (Lent.fact 0 rfl) rfl rfl rfl RI64c0 hc12) rfl<|J.quiet (Y.max rfl rfl) rfl<|J.quiet (Y.assign rfl) rfl<|J.done<|J.inN<|J.thenN<|J.region<|J.quiet (Y.move rfl) rfl<|J.quiet (Y.addW rfl rfl) rfl<|J.quiet (Y.assign rfl) rfl<|J.done<|J.thenN ?_
   exact J.againI ((max a8.1 (at' p0.1 a8.2)),(wI .i64 (a8.2+(1:Int)))) (()) h SF (SubM.refl _) (LentAll.refl _ _)
  ·have h:=ifN hp11 h
   refine J.exit<|J.thenX<|J.thenX<|J.inX<|J.thenN ?_
   exact J.meetI (a8.1) (()) h SF (SubM.nil) (LentAll.refl _ _)
 ·clear h
  intro a3 b4 h
  unfold ref23_top_k1 at h
  refine J.seq<|J.region<|J.quiet (Y.move rfl) rfl<|J.quiet (Y.assign rfl) rfl<|J.done<|J.thenN<|J.ret ?_
  obtain rfl:=Option.some.inj h
  exact J.retG1 (()) rfl rfl (RV.tmp rfl) (SubM.refl _) LentAll.nil
end Go.Proofs.YtfbkplemadmbfaaGreatDoor
end
section
namespace Go.Proofs.YtfbkplemadmbfaaGreatDoor
open Go.Sx
def ref23_Config_k2  (a6:Unit):Option (Bool):=
 some (true)
def ref23_Config_k3 (a10:Int) (ag9:(Int)->Option (Bool)) (a14:Unit):Option (Bool):=
 ag9 (wI .i64 (a10+(1:Int)))
def ref23_Config_k4 (fuel:Nat) (p1:List (List (Int))) (a10:Int) (a20:Int) (ag19:(Int)->Option (Bool)) (a33:Int×Int):Option (Bool):=
 ck (0<=a10∧a10<(List.length p1:Int)) (ck (0<=a20∧a20<(List.length (at' p1 a10):Int)) (Option.bind (m_ref01_In fuel (at' (at' p1 a10) a20) a33.1 a33.2) fun r37=>(if(!r37)=true then(some (false))else(ag19 (wI .i64 (a20+(1:Int)))))))
def ref23_Config_s2 (fuel:Nat) (p0:List (Int)×(List (List (Int×Int)))) (p1:List (List (Int))) (p2:List (ByteArray×Int×Int×Int×Int×Int)) (a10:Int) (ag9:(Int)->Option (Bool)) (a20:Int) (ag19:(Int)->Option (Bool)):Option (Bool):=
 if a20<(List.length p2:Int)then(ck (0<=a20∧a20<(List.length p2:Int)) (ck (0<=a20∧a20<(List.length p2:Int)) (ck (0<=a20∧a20<(List.length p2:Int)) (ck (0<=a20∧a20<(List.length p2:Int)) (Option.bind (m_ref23_top fuel ((p0.1,p0.2))) fun r28=>(ck (0<=a20∧a20<(List.length p2:Int)) (if((at' p2 a20).2.1)=(2:Int)then(ref23_Config_k4 fuel p1 a10 a20 ag19 ((0:Int),(1:Int)))else(if((at' p2 a20).2.1)=(3:Int)then(ck (0<=a10∧a10<(List.length p0.2:Int)) (ref23_Config_k4 fuel p1 a10 a20 ag19 ((-1:Int),(wI .i64 ((List.length (at' p0.2 a10):Int) - (1:Int))))))else(ref23_Config_k4 fuel p1 a10 a20 ag19 (((at' p2 a20).2.2.1),(wI .i64 ((wI .i64 (((at' p2 a20).2.2.2.1)+(wI .i64 (((at' p2 a20).2.2.2.2.1)*(List.length p0.2:Int)))))+(wI .i64 (((at' p2 a20).2.2.2.2.2)*r28))))))))))))))else(ref23_Config_k3 a10 ag9 (()))
def ref23_Config_s1 (fuel:Nat) (p0:List (Int)×(List (List (Int×Int)))) (p1:List (List (Int))) (p2:List (ByteArray×Int×Int×Int×Int×Int)) (a10:Int) (ag9:(Int)->Option (Bool)):Option (Bool):=
 if a10<(List.length p0.2:Int)then(ck (0<=a10∧a10<(List.length p1:Int)) (if(List.length (at' p1 a10):Int)≠(List.length p2:Int)then(some (false))else(iter (ref23_Config_s2 fuel p0 p1 p2 a10 ag9) fuel (0:Int))))else(ref23_Config_k2  (()))
def ref23_Config_k1 (fuel:Nat) (p0:List (Int)×(List (List (Int×Int)))) (p1:List (List (Int))) (p2:List (ByteArray×Int×Int×Int×Int×Int)) (a3:Bool):Option (Bool):=
 if a3=true then(some (false))else(iter (ref23_Config_s1 fuel p0 p1 p2) fuel (0:Int))
def m_ref23_Config (fuel:Nat) (p0:List (Int)×(List (List (Int×Int)))) (p1:List (List (Int))) (p2:List (ByteArray×Int×Int×Int×Int×Int)):Option (Bool):=
 Option.bind (m_ref01_Valid fuel ((p0.1,p0.2))) fun r45=>(if(!r45)=true then(ref23_Config_k1 fuel p0 p1 p2 (true))else(ref23_Config_k1 fuel p0 p1 p2 (decide ((List.length p1:Int)≠(List.length p0.2:Int)))))
theorem body45:HasBody Tryz.prog 45:=Tryz.call45
theorem t_ref23_Config (fuel:Nat) {p0:List (Int)×(List (List (Int×Int)))} {p1:List (List (Int))} {p2:List (ByteArray×Int×Int×Int×Int×Int)} (v0:Value)  (v1:Value)  (z2:List (Value×List (Int×Int)))  (v3:Value)  (z4:List (Value×List (Int)))  (v5:Value) (r:Bool) (h:m_ref23_Config fuel p0 p1 p2=some r):
  Meets Tryz.prog 45 #[Value.agg #[v0,v1],v3,v5] [Sl RI64 v0 p0.1,S2 RI64I64p v1 z2 p0.2,S2 RI64 v3 z4 p1,Sl RStI64I64I64I64I64p v5 p2] (fun x:Unit=>Value.bool (r)) (fun x l=>l) (fun _ l=>l):=by
 refine Meets.of (vs:=[Value.agg #[v0,v1],v3,v5]) Tryz.func45 rfl Tryz.ntmps45 rfl fun c=> ?_
 unfold m_ref23_Config at h
 refine J.seq<|J.region<|J.loud (Loud.box (cs:=[v0,v1]) rfl rfl) rfl fun b1=>J.quiet (Y.assign rfl) rfl<|J.done<|J.thenN<|J.seq<|J.region<|J.quiet (Y.fieldB rfl rfl rfl rfl rfl) rfl<|J.quiet (Y.loadB 0 rfl rfl rfl rfl rfl) rfl<|J.quiet (Y.lenN rfl (Lent.fact 1 rfl) rfl) rfl<|J.quiet (Y.assign rfl) rfl<|J.done<|J.thenN<|J.seq<|J.seq<|J.midI (A:=Bool) (B:=Unit) (fun a3=>ref23_Config_k1 fuel p0 p1 p2 a3=some r) (fun a3 b4=>[(1,v3),(2,v5),(3,Value.pointer (some ⟨b1,0,none⟩)),(7,Value.int .i64 (List.length p0.2:Int)),(23,Value.bool (a3))]) (fun a3 b4=>[Blk b1 [v0,v1] 25]) (fun a3 b4=>[Sl RI64 v0 p0.1,S2 RI64I64p v1 z2 p0.2,S2 RI64 v3 z4 p1,Sl RStI64I64I64I64I64p v5 p2]) ?_ ?_
 ·refine J.region<|J.quiet (Y.loadBAll 0 rfl rfl rfl rfl) rfl ?_
  have h:=bnd h;obtain⟨r45,hr46,h⟩:=h
  refine J.loud (Loud.callL body34 (t_ref01_Valid fuel v0 v1 z2 r45 hr46) rfl (LentAll.cons (Lent.fact 0 rfl) (LentAll.cons (Lent.fact 1 rfl) .nil)) (fun _ _=>rfl)) rfl fun x47=>J.quiet (Y.not rfl) rfl<|J.quiet (Y.move rfl) rfl ?_
  refine J.guard (by exact rfl) (by exact rfl) (fun hp48=> ?_) (fun hp48=> ?_)
  ·have h:=ifP hp48 h
   refine J.guardN rfl rfl rfl<|J.guardN rfl rfl rfl<|J.guardN rfl rfl rfl<|J.guardN rfl rfl rfl<|J.quiet (Y.pickT rfl rfl) rfl<|J.done<|J.thenN ?_
   exact J.meetI (true) (()) h SF (SubM.refl _) (LentAll.refl _ _)
  ·have h:=ifBN hp48 h
   refine J.guardY rfl (Y.move rfl) rfl<|J.guardY rfl (Y.lenN rfl (Lent.fact 2 rfl) rfl) rfl<|J.guardY rfl (Y.move rfl) rfl<|J.guardY rfl (Y.neq rfl rfl) rfl<|J.quiet (Y.pickF rfl rfl) rfl<|J.done<|J.thenN ?_
   exact J.meetI (decide ((List.length p1:Int)≠(List.length p0.2:Int))) (()) h SF (SubM.refl _) (LentAll.refl _ _)
 ·clear h
  intro a3 b4 h
  unfold ref23_Config_k1 at h
  refine J.cond (by exact rfl) (fun hp5=> ?_) (fun hp5=> ?_)
  ·have h:=ifP hp5 h
   refine J.seq<|J.region<|J.quiet (Y.assign rfl) rfl<|J.done<|J.thenN<|J.ret<|J.thenR ?_
   obtain rfl:=Option.some.inj h
   exact J.retG1 (()) rfl rfl (RV.tmp rfl) (SubM.nil) LentAll.nil
  ·have h:=ifBN hp5 h
   refine J.skip<|J.thenN<|J.seq<|J.midI (A:=Unit) (B:=Unit) (fun a6=>ref23_Config_k2  a6=some r) (fun a6 b7=>[]) (fun a6 b7=>[]) (fun a6 b7=>[Sl RI64 v0 p0.1,S2 RI64I64p v1 z2 p0.2,S2 RI64 v3 z4 p1,Sl RStI64I64I64I64I64p v5 p2]) ?_ ?_
   ·refine J.seq<|J.region<|J.quiet (Y.assign rfl) rfl<|J.done<|J.thenN<|J.block<|J.loopI (A:=Int) (B:=Unit) (ref23_Config_s1 fuel p0 p1 p2) (fun a10 b11=>[(1,v3),(2,v5),(3,Value.pointer (some ⟨b1,0,none⟩)),(7,Value.int .i64 (List.length p0.2:Int)),(8,Value.int .i64 (a10))]) (fun a10 b11=>[Blk b1 [v0,v1] 25]) (fun a10 b11=>[Sl RI64 v0 p0.1,S2 RI64I64p v1 z2 p0.2,S2 RI64 v3 z4 p1,Sl RStI64I64I64I64I64p v5 p2]) (0:Int) (()) h SF (SubM.refl _) (LentAll.refl _ _) ?_
    clear h
    intro k12 a10 b11 h
    unfold ref23_Config_s1 at h
    refine J.seq<|J.seq<|J.region<|J.quiet (Y.move rfl) rfl<|J.quiet (Y.move rfl) rfl<|J.quiet (Y.lss rfl rfl) rfl<|J.done<|J.thenN ?_
    refine J.condD (by exact rfl) (fun hp13=> ?_) (fun hp13=> ?_)
    ·have h:=ifP hp13 h
     refine J.skip<|J.thenN<|J.seq<|J.midI (A:=Unit) (B:=Unit) (fun a14=>ref23_Config_k3 a10 (iter (ref23_Config_s1 fuel p0 p1 p2) k12) a14=some r) (fun a14 b15=>[(1,v3),(2,v5),(3,Value.pointer (some ⟨b1,0,none⟩)),(7,Value.int .i64 (List.length p0.2:Int)),(8,Value.int .i64 (a10))]) (fun a14 b15=>[Blk b1 [v0,v1] 25]) (fun a14 b15=>[Sl RI64 v0 p0.1,S2 RI64I64p v1 z2 p0.2,S2 RI64 v3 z4 p1,Sl RStI64I64I64I64I64p v5 p2]) ?_ ?_
     ·refine J.block<|J.seq<|J.seq<|J.region<|J.quiet (Y.move rfl) rfl<|J.quiet (Y.move rfl) rfl ?_
      have h:=ck_some h;obtain⟨hc16,h⟩:=h
      refine J.quiet (Y.indexN rfl rfl (Lent.fact 2 rfl) rfl rfl hc16) rfl<|J.quiet (Y.loadRow rfl (Lent.fact 2 rfl) rfl rfl hc16) rfl<|J.quiet (Y.lenS rfl (Lent.el (Lent.fact 2 rfl) hc16.1 hc16.2) rfl) rfl<|J.quiet (Y.move rfl) rfl<|J.quiet (Y.lenS rfl (Lent.fact 3 rfl) rfl) rfl<|J.quiet (Y.neq rfl rfl) rfl<|J.done<|J.thenN ?_
      refine J.condD (by exact rfl) (fun hp17=> ?_) (fun hp17=> ?_)
      ·have h:=ifP hp17 h
       refine J.seq<|J.region<|J.quiet (Y.assign rfl) rfl<|J.done<|J.thenN<|J.ret<|J.thenR<|J.inR<|J.thenR<|J.thenR<|J.inR<|J.thenR ?_
       obtain rfl:=Option.some.inj h
       exact J.retG1 (()) rfl rfl (RV.tmp rfl) (SubM.nil) LentAll.nil
      ·have h:=ifN hp17 h
       refine J.skip<|J.thenN<|J.seq<|J.region<|J.quiet (Y.assign rfl) rfl<|J.done<|J.thenN<|J.block<|J.loopI (A:=Int) (B:=Unit) (ref23_Config_s2 fuel p0 p1 p2 a10 (iter (ref23_Config_s1 fuel p0 p1 p2) k12)) (fun a20 b21=>[(1,v3),(2,v5),(3,Value.pointer (some ⟨b1,0,none⟩)),(7,Value.int .i64 (List.length p0.2:Int)),(8,Value.int .i64 (a10)),(9,Value.int .i64 (a20))]) (fun a20 b21=>[Blk b1 [v0,v1] 25]) (fun a20 b21=>[Sl RI64 v0 p0.1,S2 RI64I64p v1 z2 p0.2,S2 RI64 v3 z4 p1,Sl RStI64I64I64I64I64p v5 p2]) (0:Int) (()) h SF (SubM.refl _) (LentAll.refl _ _) ?_
       clear h
       intro k22 a20 b21 h
       unfold ref23_Config_s2 at h
       refine J.seq<|J.seq<|J.region<|J.quiet (Y.move rfl) rfl<|J.quiet (Y.move rfl) rfl<|J.quiet (Y.lenS rfl (Lent.fact 3 rfl) rfl) rfl<|J.quiet (Y.lss rfl rfl) rfl<|J.done<|J.thenN ?_
       refine J.condD (by exact rfl) (fun hp23=> ?_) (fun hp23=> ?_)
       ·have h:=ifP hp23 h
        refine J.skip<|J.thenN<|J.seq<|J.block<|J.seq ?_
        refine JR.start [0,0,3,7,15,0,0,96,224,480,0,0,3072,7168,15360,0,64512,131040,0,0,786432,1835008,3932160,0,8388608,33292288,67108832,25165855,268435455] 28 mixedOrders (by decide +kernel) ?_
        refine JR.open (by exact rfl) ?_
        refine JR.qt rfl (SubM.nil) (SubL.nil) (Y.move rfl) HistOk.z<|JR.qt rfl (SubM.nil) (SubL.nil) (Y.move rfl) HistOk.z ?_
        have h:=ck_some h;obtain⟨hc24,h⟩:=h
        refine JR.qt rfl (SubM.nil) (SubL.cons (List.mem_of_getElem? (i:=3) rfl) (SubL.nil)) (Y.indexS rfl rfl (Lent.fact 0 rfl) rfl rfl hc24) HistOk.z<|JR.qt rfl (SubM.nil) (SubL.nil) (Y.fieldEl rfl rfl rfl rfl rfl) HistOk.z<|JR.qt rfl (SubM.nil) (SubL.cons (List.mem_of_getElem? (i:=3) rfl) (SubL.nil)) (Y.loadS rfl (Lent.fact 0 rfl) rfl rfl rfl RStI64I64I64I64I64pc2 hc24) HistOk.z<|JR.qt rfl (SubM.nil) (SubL.nil) (Y.move rfl) HistOk.z<|JR.qt rfl (SubM.nil) (SubL.nil) (Y.move rfl) HistOk.z ?_
        have h:=ck_some h;obtain⟨hc25,h⟩:=h
        refine JR.qt rfl (SubM.nil) (SubL.cons (List.mem_of_getElem? (i:=3) rfl) (SubL.nil)) (Y.indexS rfl rfl (Lent.fact 0 rfl) rfl rfl hc25) HistOk.z<|JR.qt rfl (SubM.nil) (SubL.nil) (Y.fieldEl rfl rfl rfl rfl rfl) HistOk.z<|JR.qt rfl (SubM.nil) (SubL.cons (List.mem_of_getElem? (i:=3) rfl) (SubL.nil)) (Y.loadS rfl (Lent.fact 0 rfl) rfl rfl rfl RStI64I64I64I64I64pc3 hc25) HistOk.z<|JR.qt rfl (SubM.nil) (SubL.nil) (Y.move rfl) HistOk.z<|JR.qt rfl (SubM.nil) (SubL.nil) (Y.move rfl) HistOk.z ?_
        have h:=ck_some h;obtain⟨hc26,h⟩:=h
        refine JR.qt rfl (SubM.nil) (SubL.cons (List.mem_of_getElem? (i:=3) rfl) (SubL.nil)) (Y.indexS rfl rfl (Lent.fact 0 rfl) rfl rfl hc26) HistOk.z<|JR.qt rfl (SubM.nil) (SubL.nil) (Y.fieldEl rfl rfl rfl rfl rfl) HistOk.z<|JR.qt rfl (SubM.nil) (SubL.cons (List.mem_of_getElem? (i:=3) rfl) (SubL.nil)) (Y.loadS rfl (Lent.fact 0 rfl) rfl rfl rfl RStI64I64I64I64I64pc4 hc26) HistOk.z<|JR.qt rfl (SubM.nil) (SubL.nil) (Y.move rfl) HistOk.z<|JR.qt rfl (SubM.nil) (SubL.nil) (Y.mulW rfl rfl) HistOk.z<|JR.qt rfl (SubM.nil) (SubL.nil) (Y.addW rfl rfl) HistOk.z<|JR.qt rfl (SubM.nil) (SubL.nil) (Y.move rfl) HistOk.z<|JR.qt rfl (SubM.nil) (SubL.nil) (Y.move rfl) HistOk.z ?_
        have h:=ck_some h;obtain⟨hc27,h⟩:=h
        refine JR.qt rfl (SubM.nil) (SubL.cons (List.mem_of_getElem? (i:=3) rfl) (SubL.nil)) (Y.indexS rfl rfl (Lent.fact 0 rfl) rfl rfl hc27) HistOk.z<|JR.qt rfl (SubM.nil) (SubL.nil) (Y.fieldEl rfl rfl rfl rfl rfl) HistOk.z<|JR.qt rfl (SubM.nil) (SubL.cons (List.mem_of_getElem? (i:=3) rfl) (SubL.nil)) (Y.loadS rfl (Lent.fact 0 rfl) rfl rfl rfl RStI64I64I64I64I64pc5 hc27) HistOk.z<|JR.qt rfl (SubM.refl _) (SubL.nil) (Y.loadBAll 0 rfl rfl rfl rfl) HistOk.z ?_
        have h:=bnd h;obtain⟨r28,hr29,h⟩:=h
        refine JR.loud rfl rfl rfl (Loud.callL body85 (t_ref23_top fuel v0 v1 z2 r28 hr29) rfl (LentAll.cons (Lent.fact 0 rfl) (LentAll.cons (Lent.fact 1 rfl) .nil)) (fun _ _=>rfl)) rfl (fun x30=>(BsOk.b rfl (BsOk.h (SubM.nil) (SubL.cons (List.mem_of_getElem? (i:=3) rfl) (SubL.nil)) (BsOk.h (SubM.nil) (SubL.nil) (BsOk.h (SubM.nil) (SubL.cons (List.mem_of_getElem? (i:=3) rfl) (SubL.nil)) (BsOk.h (SubM.nil) (SubL.nil) (BsOk.h (SubM.nil) (SubL.nil) (BsOk.h (SubM.nil) (SubL.nil) (BsOk.h (SubM.nil) (SubL.nil) (BsOk.h (SubM.nil) (SubL.nil) (BsOk.h (SubM.nil) (SubL.cons (List.mem_of_getElem? (i:=3) rfl) (SubL.nil)) (BsOk.h (SubM.nil) (SubL.nil) (BsOk.h (SubM.nil) (SubL.cons (List.mem_of_getElem? (i:=3) rfl) (SubL.nil)) (BsOk.h (SubM.nil) (SubL.nil) (BsOk.h (SubM.nil) (SubL.nil) (BsOk.h (SubM.nil) (SubL.cons (List.mem_of_getElem? (i:=3) rfl) (SubL.nil)) (BsOk.h (SubM.nil) (SubL.nil) (BsOk.h (SubM.nil) (SubL.cons (List.mem_of_getElem? (i:=3) rfl) (SubL.nil)) (BsOk.h (SubM.nil) (SubL.nil) (BsOk.h (SubM.nil) (SubL.nil) (BsOk.h (SubM.nil) (SubL.cons (List.mem_of_getElem? (i:=3) rfl) (SubL.nil)) (BsOk.h (SubM.nil) (SubL.nil) (BsOk.h (SubM.nil) (SubL.cons (List.mem_of_getElem? (i:=3) rfl) (SubL.nil)) (BsOk.h (SubM.nil) (SubL.nil) (BsOk.h (SubM.nil) (SubL.nil) BsOk.z))))))))))))))))))))))))) fun x30=>JR.qt rfl (SubM.nil) (SubL.nil) (Y.mulW rfl rfl) (HistOk.b rfl HistOk.z)<|JR.qt rfl (SubM.nil) (SubL.nil) (Y.addW rfl rfl) (HistOk.b rfl HistOk.z)<|JR.qt rfl (SubM.nil) (SubL.nil) (Y.assign rfl) (HistOk.b rfl HistOk.z)<|JR.tailD 28 rfl rfl<|J.quiet (Y.assign rfl) rfl<|J.done<|J.thenN<|J.seq<|J.midI (A:=Int×Int) (B:=Unit) (fun a33=>ref23_Config_k4 fuel p1 a10 a20 (iter (ref23_Config_s2 fuel p0 p1 p2 a10 (iter (ref23_Config_s1 fuel p0 p1 p2) k12)) k22) a33=some r) (fun a33 b34=>[(1,v3),(2,v5),(3,Value.pointer (some ⟨b1,0,none⟩)),(7,Value.int .i64 (List.length p0.2:Int)),(8,Value.int .i64 (a10)),(9,Value.int .i64 (a20)),(10,Value.int .i64 (a33.1)),(11,Value.int .i64 (a33.2))]) (fun a33 b34=>[Blk b1 [v0,v1] 25]) (fun a33 b34=>[Sl RI64 v0 p0.1,S2 RI64I64p v1 z2 p0.2,S2 RI64 v3 z4 p1,Sl RStI64I64I64I64I64p v5 p2]) ?_ ?_
        ·refine J.seq<|J.region<|J.quiet (Y.move rfl) rfl<|J.quiet (Y.move rfl) rfl ?_
         have h:=ck_some h;obtain⟨hc41,h⟩:=h
         refine J.quiet (Y.indexS rfl rfl (Lent.fact 3 rfl) rfl rfl hc41) rfl<|J.quiet (Y.fieldEl rfl rfl rfl rfl rfl) rfl<|J.quiet (Y.loadS rfl (Lent.fact 3 rfl) rfl rfl rfl RStI64I64I64I64I64pc1 hc41) rfl<|J.done<|J.thenN<|J.block<|J.seq<|J.region<|J.quiet (Y.eql rfl rfl) rfl<|J.quiet (Y.assign rfl) rfl<|J.done<|J.thenN ?_
         refine J.condD (by exact rfl) (fun hp42=> ?_) (fun hp42=> ?_)
         ·have h:=ifP hp42 h
          refine J.region<|J.quiet (Y.assign rfl) rfl<|J.quiet (Y.assign rfl) rfl<|J.done<|J.inN<|J.thenN ?_
          exact J.meetI ((0:Int),(1:Int)) (()) h SF (SubM.refl _) (LentAll.refl _ _)
         ·have h:=ifN hp42 h
          refine J.seq<|J.region<|J.quiet (Y.eql rfl rfl) rfl<|J.quiet (Y.assign rfl) rfl<|J.done<|J.thenN ?_
          refine J.condD (by exact rfl) (fun hp43=> ?_) (fun hp43=> ?_)
          ·have h:=ifP hp43 h
           refine JR.start [0,1,0,7,15,31,63,0,255] 8 mixedOrders (by decide +kernel) ?_
           refine JR.open (by exact rfl) ?_
           refine JR.qt rfl (SubM.nil) (SubL.nil) (Y.fieldB rfl rfl rfl rfl rfl) HistOk.z<|JR.qt rfl (SubM.refl _) (SubL.nil) (Y.loadB 0 rfl rfl rfl rfl rfl) HistOk.z<|JR.qt rfl (SubM.nil) (SubL.nil) (Y.move rfl) HistOk.z ?_
           have h:=ck_some h;obtain⟨hc44,h⟩:=h
           refine JR.qt rfl (SubM.nil) (SubL.cons (List.mem_of_getElem? (i:=1) rfl) (SubL.nil)) (Y.indexN rfl rfl (Lent.fact 0 rfl) rfl rfl hc44) HistOk.z<|JR.qt rfl (SubM.nil) (SubL.cons (List.mem_of_getElem? (i:=1) rfl) (SubL.nil)) (Y.loadRow rfl (Lent.fact 0 rfl) rfl rfl hc44) HistOk.z<|JR.qt rfl (SubM.nil) (SubL.cons (List.mem_of_getElem? (i:=1) rfl) (SubL.nil)) (Y.lenS rfl (Lent.el (Lent.fact 0 rfl) hc44.1 hc44.2) rfl) HistOk.z<|JR.qt rfl (SubM.nil) (SubL.nil) (Y.subW rfl rfl) HistOk.z<|JR.qt rfl (SubM.nil) (SubL.nil) (Y.assign rfl) HistOk.z<|JR.tailD 8 rfl rfl<|J.quiet (Y.assign rfl) rfl<|J.done<|J.inN<|J.thenN ?_
           exact J.meetI ((-1:Int),(wI .i64 ((List.length (at' p0.2 a10):Int) - (1:Int)))) (()) h SF (SubM.refl _) (LentAll.refl _ _)
          ·have h:=ifN hp43 h
           refine J.skip<|J.inN<|J.thenN ?_
           exact J.meetI (((at' p2 a20).2.2.1),(wI .i64 ((wI .i64 (((at' p2 a20).2.2.2.1)+(wI .i64 (((at' p2 a20).2.2.2.2.1)*(List.length p0.2:Int)))))+(wI .i64 (((at' p2 a20).2.2.2.2.2)*r28))))) (()) h SF (SubM.refl _) (LentAll.refl _ _)
        ·clear h
         intro a33 b34 h
         unfold ref23_Config_k4 at h
         refine J.seq<|J.region<|J.quiet (Y.move rfl) rfl<|J.quiet (Y.move rfl) rfl ?_
         have h:=ck_some h;obtain⟨hc35,h⟩:=h
         refine J.quiet (Y.indexN rfl rfl (Lent.fact 2 rfl) rfl rfl hc35) rfl<|J.quiet (Y.loadRow rfl (Lent.fact 2 rfl) rfl rfl hc35) rfl<|J.quiet (Y.move rfl) rfl ?_
         have h:=ck_some h;obtain⟨hc36,h⟩:=h
         refine J.quiet (Y.indexS rfl rfl (Lent.el (Lent.fact 2 rfl) hc35.1 hc35.2) rfl rfl hc36) rfl<|J.quiet (Y.loadS0 rfl (Lent.el (Lent.fact 2 rfl) hc35.1 hc35.2) rfl rfl rfl RI64c0 hc36) rfl<|J.quiet (Y.move rfl) rfl<|J.quiet (Y.move rfl) rfl ?_
         have h:=bnd h;obtain⟨r37,hr38,h⟩:=h
         refine J.loud (Loud.callL body71 (t_ref01_In fuel  r37 hr38) rfl .nil (fun _ _=>rfl)) rfl fun x39=>J.quiet (Y.not rfl) rfl<|J.done<|J.thenN ?_
         refine J.cond (by exact rfl) (fun hp40=> ?_) (fun hp40=> ?_)
         ·have h:=ifP hp40 h
          refine J.seq<|J.region<|J.quiet (Y.assign rfl) rfl<|J.done<|J.thenN<|J.ret<|J.inR<|J.thenR<|J.thenR<|J.inR<|J.inR<|J.thenR<|J.thenR<|J.inR<|J.thenR ?_
          obtain rfl:=Option.some.inj h
          exact J.retG1 (()) rfl rfl (RV.tmp rfl) (SubM.nil) LentAll.nil
         ·have h:=ifBN hp40 h
          refine J.skip<|J.inN<|J.thenN<|J.region<|J.quiet (Y.move rfl) rfl<|J.quiet (Y.addW rfl rfl) rfl<|J.quiet (Y.assign rfl) rfl<|J.done<|J.thenN ?_
          exact J.againI (wI .i64 (a20+(1:Int))) (()) h SF (SubM.refl _) (LentAll.refl _ _)
       ·have h:=ifN hp23 h
        refine J.exit<|J.thenX<|J.thenX<|J.inX<|J.inN<|J.thenN ?_
        exact J.meetI (()) (()) h SF (SubM.refl _) (LentAll.refl _ _)
     ·clear h
      intro a14 b15 h
      unfold ref23_Config_k3 at h
      refine J.region<|J.quiet (Y.move rfl) rfl<|J.quiet (Y.addW rfl rfl) rfl<|J.quiet (Y.assign rfl) rfl<|J.done<|J.thenN ?_
      exact J.againI (wI .i64 (a10+(1:Int))) (()) h SF (SubM.refl _) (LentAll.refl _ _)
    ·have h:=ifN hp13 h
     refine J.exit<|J.thenX<|J.thenX<|J.inX<|J.thenN ?_
     exact J.meetI (()) (()) h SF (SubM.nil) (LentAll.refl _ _)
   ·clear h
    intro a6 b7 h
    unfold ref23_Config_k2 at h
    refine J.seq<|J.region<|J.quiet (Y.assign rfl) rfl<|J.done<|J.thenN<|J.ret ?_
    obtain rfl:=Option.some.inj h
    exact J.retG1 (()) rfl rfl (RV.tmp rfl) (SubM.refl _) LentAll.nil
end Go.Proofs.YtfbkplemadmbfaaGreatDoor
end
section
namespace Go.Proofs.YtfbkplemadmbfaaGreatDoor
open Go Go.Sx
theorem wIncI {k:Nat} (h:k<1000000):wI .i64 ((k:Int)+1)=((k+1:Nat):Int):=by rw[wInc h];push_cast;rfl
def inB (g:GR) (hs:List Int) (v x:Nat) (a:Int):Prop:=if at' hs (x:Int) = -1 then -1<=a∧a<=((row g v).length:Int) - 1 else 0<=a∧a<=at' hs (x:Int)
def StOk (g:GR) (hs:List Int) (v:Nat) (l:List Int):Prop:=l.length=hs.length∧∀x,x<hs.length->inB g hs v x (at' l (x:Int))
def CfOk (g:GR) (hs:List Int) (c:List (List Int)):Prop:=c.length=g.2.length∧∀v,v<g.2.length->StOk g hs v (at' c (v:Int))
theorem configuration_eq {g:GR} (hV:VG g) {hs:List Int} (hh:hs.length<900) (c:List (List Int)):(CfOk g hs c->m_bfs_Configuration 1000 g c hs=some true)∧(¬CfOk g hs c->m_bfs_Configuration 1000 g c hs=some false):=by
 have h24:=hV.n24
 have hlen:=hV.len
 unfold m_bfs_Configuration
 by_cases hc:c.length=g.2.length
 ·rw[if_neg (by omega)]
  have key:=iter_early (step:=bfs_Configuration_s1 1000 g c hs) (K:=some true) (bad:=some false) c.length (fun v=>StOk g hs v (at' c (v:Int))) (fun k=>(k:Int)) (fun k ag hk hp=> ?_) (fun k ag hk hp=> ?_) (fun ag=> ?_) 1000 (by omega)
  ·refine⟨fun h=>key.1 fun v hv=>h.2 v (by omega),fun h=>key.2 fun h'=>h ⟨hc,fun v hv=>h' v (by omega)⟩⟩
  all_goals unfold bfs_Configuration_s1
  ·have inner:=iter_early (step:=bfs_Configuration_s2 g c hs (k:Int) ag) (K:=ag ((k+1:Nat):Int)) (bad:=some false) hs.length (fun x=>inB g hs k x (at' (at' c (k:Int)) (x:Int))) (fun x=>(x:Int)) ?_ ?_ ?_ 1000 (by omega)
   ·rw[if_pos (by omega),ckT (by omega),if_neg (by have:=hp.1;omega)]
    exact inner.1 hp.2
   ·intro x ag' hx hb
    unfold bfs_Configuration_s2 bfs_Configuration_k3 bfs_Configuration_k4
    have hl:=hp.1
    have hdg:(at' g.2 (k:Int)).length<g.2.length:=(hV.node k (by omega)).deg
    rw[if_pos (by omega),ckT (by omega),ckT (by omega)]
    unfold inB at hb
    by_cases e:at' hs (x:Int) = -1
    ·rw[if_pos e]at hb
     rw[if_pos e,ckT (by omega),wr (by omega) (by omega)]
     dsimp only
     rw[if_neg (by omega),if_neg (by rw[decide_eq_true_eq];show¬((row g k).length:Int) - 1<_;omega),wIncI (by omega)]
    ·rw[if_neg e]at hb
     rw[if_neg e]
     dsimp only
     rw[if_neg (by omega),if_neg (by rw[decide_eq_true_eq];omega),wIncI (by omega)]
   ·intro x ag' hx hb
    unfold bfs_Configuration_s2 bfs_Configuration_k3 bfs_Configuration_k4
    have hl:=hp.1
    have hdg:(at' g.2 (k:Int)).length<g.2.length:=(hV.node k (by omega)).deg
    rw[if_pos (by omega),ckT (by omega),ckT (by omega)]
    unfold inB at hb
    by_cases e:at' hs (x:Int) = -1
    ·rw[if_pos e]at hb
     rw[if_pos e,ckT (by omega),wr (by omega) (by omega)]
     dsimp only
     by_cases q:at' (at' c (k:Int)) (x:Int) < -1
     ·rw[if_pos q,if_pos rfl]
     ·rw[if_neg q,if_pos (by rw[decide_eq_true_eq];show((row g k).length:Int) - 1<_;omega)]
    ·rw[if_neg e]at hb
     rw[if_neg e]
     dsimp only
     by_cases q:at' (at' c (k:Int)) (x:Int)<0
     ·rw[if_pos q,if_pos rfl]
     ·rw[if_neg q,if_pos (by rw[decide_eq_true_eq];omega)]
   ·intro ag'
    unfold bfs_Configuration_s2 bfs_Configuration_k2
    have hl:=hp.1
    rw[if_neg (by omega),wIncI (by omega)]
  ·rw[if_pos (by omega),ckT (by omega)]
   by_cases hl:(at' c (k:Int)).length=hs.length
   ·rw[if_neg (by omega)]
    have inner:=iter_early (step:=bfs_Configuration_s2 g c hs (k:Int) ag) (K:=ag ((k+1:Nat):Int)) (bad:=some false) hs.length (fun x=>inB g hs k x (at' (at' c (k:Int)) (x:Int))) (fun x=>(x:Int)) ?_ ?_ ?_ 1000 (by omega)
    ·exact inner.2 fun h=>hp ⟨hl,h⟩
    ·intro x ag' hx hb
     unfold bfs_Configuration_s2 bfs_Configuration_k3 bfs_Configuration_k4
     have hdg:(at' g.2 (k:Int)).length<g.2.length:=(hV.node k (by omega)).deg
     rw[if_pos (by omega),ckT (by omega),ckT (by omega)]
     unfold inB at hb
     by_cases e:at' hs (x:Int) = -1
     ·rw[if_pos e]at hb
      rw[if_pos e,ckT (by omega),wr (by omega) (by omega)]
      dsimp only
      rw[if_neg (by omega),if_neg (by rw[decide_eq_true_eq];show¬((row g k).length:Int) - 1<_;omega),wIncI (by omega)]
     ·rw[if_neg e]at hb
      rw[if_neg e]
      dsimp only
      rw[if_neg (by omega),if_neg (by rw[decide_eq_true_eq];omega),wIncI (by omega)]
    ·intro x ag' hx hb
     unfold bfs_Configuration_s2 bfs_Configuration_k3 bfs_Configuration_k4
     have hdg:(at' g.2 (k:Int)).length<g.2.length:=(hV.node k (by omega)).deg
     rw[if_pos (by omega),ckT (by omega),ckT (by omega)]
     unfold inB at hb
     by_cases e:at' hs (x:Int) = -1
     ·rw[if_pos e]at hb
      rw[if_pos e,ckT (by omega),wr (by omega) (by omega)]
      dsimp only
      by_cases q:at' (at' c (k:Int)) (x:Int) < -1
      ·rw[if_pos q,if_pos rfl]
      ·rw[if_neg q,if_pos (by rw[decide_eq_true_eq];show((row g k).length:Int) - 1<_;omega)]
     ·rw[if_neg e]at hb
      rw[if_neg e]
      dsimp only
      by_cases q:at' (at' c (k:Int)) (x:Int)<0
      ·rw[if_pos q,if_pos rfl]
      ·rw[if_neg q,if_pos (by rw[decide_eq_true_eq];omega)]
    ·intro ag'
     unfold bfs_Configuration_s2 bfs_Configuration_k2
     rw[if_neg (by omega),wIncI (by omega)]
   ·rw[if_pos (by omega)]
  ·rw[if_neg (by omega)];rfl
 ·rw[if_pos (by omega)]
  exact⟨fun h=>absurd h.1 hc,fun _=>rfl⟩

abbrev VarR:=ByteArray×Int×Int×Int×Int×Int
theorem top_ok (g:GR) (h:g.1.length<=900):OK (fun _:Int=>True) (m_ref23_top 1000 g):=by
 unfold m_ref23_top
 refine iter_ok (fun x:Int×Int=>0<=x.2∧x.2<=g.1.length) (fun x=>(g.1.length:Int).toNat - x.2.toNat) (fun x ag hI hag=> ?_) 1000 _ ⟨by simp,by simp⟩ (by simp;omega)
 obtain⟨a,b⟩:=x
 dsimp only at hI
 unfold ref23_top_s1 ref23_top_k1
 dsimp only
 by_cases e:b<(g.1.length:Int)
 ·rw[if_pos e,ckT (by omega),wr (by omega) (by omega)]
  exact hag _ ⟨by dsimp only;omega,by dsimp only;omega⟩ (by dsimp only;omega)
 ·rw[if_neg e];exact⟨_,rfl,trivial⟩
def VarB (n:Nat) (x:VarR) (h:Int):Prop:=(x.2.1=2∧h=1)∨(x.2.1=3∧h = -1)∨(x.2.1≠2∧x.2.1≠3∧x.2.2.1=0∧x.2.2.2.2.2=0∧0<=h∧h<1000000∧wI .i64 (x.2.2.2.1+wI .i64 (x.2.2.2.2.1*(n:Int)))=h)
theorem cfg4 {g:GR} {hs:List Int} {c:List (List Int)} {k x:Nat} {ag:Int->Option Bool} (b:Int×Int) (hk:k<c.length) (hx:x<(at' c (k:Int)).length) (hx9:x<900):
  (b.1<=at' (at' c (k:Int)) (x:Int)∧at' (at' c (k:Int)) (x:Int)<=b.2->ref23_Config_k4 1000 c k x ag b=ag ((x+1:Nat):Int))∧
  (¬(b.1<=at' (at' c (k:Int)) (x:Int)∧at' (at' c (k:Int)) (x:Int)<=b.2)->ref23_Config_k4 1000 c k x ag b=some false):=by
 unfold ref23_Config_k4
 rw[ckT (by omega),ckT (by omega),refIn_eq,bindS rfl]
 refine⟨fun h=> ?_,fun h=> ?_⟩
 ·rw[decide_eq_true h,if_neg (by simp),wIncI (by omega)]
 ·rw[decide_eq_false h,if_pos (by simp)]
theorem refConfig_eq {g:GR} (hV:VG g) {hs:List Int} {vars:List VarR} (hh:hs.length<900) (hvl:vars.length=hs.length) (hb:∀x,x<hs.length->VarB g.2.length (at' vars (x:Int)) (at' hs (x:Int))) (c:List (List Int)):
  (CfOk g hs c->m_ref23_Config 1000 g c vars=some true)∧(¬CfOk g hs c->m_ref23_Config 1000 g c vars=some false):=by
 have h24:=hV.n24
 have hlen:=hV.len
 obtain⟨tp,htp,_⟩:=top_ok g (by omega)
 unfold m_ref23_Config ref23_Config_k1
 have e0:m_ref01_Valid 1000 (g.1,g.2)=some true:=(refValid_gen g).1 hV
 rw[e0,bindS rfl,if_neg (by simp)]
 by_cases hc:c.length=g.2.length
 ·rw[if_neg (by rw[decide_eq_true_eq];omega)]
  have stp:∀(k x:Nat) (ag ag':Int->Option Bool),k<g.2.length->x<hs.length->(at' c (k:Int)).length=hs.length->
    (inB g hs k x (at' (at' c (k:Int)) (x:Int))->ref23_Config_s2 1000 g c vars (k:Int) ag (x:Int) ag'=ag' ((x+1:Nat):Int))∧(¬inB g hs k x (at' (at' c (k:Int)) (x:Int))->ref23_Config_s2 1000 g c vars (k:Int) ag (x:Int) ag'=some false):=by
   intro k x ag ag' hk hx hl
   have hdeg:=(hV.node k hk).deg
   unfold ref23_Config_s2
   rw[if_pos (by omega),ckT (by omega),ckT (by omega),ckT (by omega),ckT (by omega)]
   have e1:m_ref23_top 1000 (g.1,g.2)=some tp:=htp
   rw[e1,bindS rfl,ckT (by omega)]
   have hdg:(at' g.2 (k:Int)).length<g.2.length:=hdeg
   rcases hb x hx with⟨h1,h2⟩|⟨h1,h2⟩|⟨h1,h2,h3,h4,h5,h6,h7⟩
   ·have hi:inB g hs k x (at' (at' c (k:Int)) (x:Int))↔(0<=at' (at' c (k:Int)) (x:Int)∧at' (at' c (k:Int)) (x:Int)<=1):=by unfold inB;rw[if_neg (by omega),h2]
    rw[hi,if_pos h1]
    exact cfg4 (g:=g) (hs:=hs) (0,1) (by omega) (by omega) (by omega)
   ·have hi:inB g hs k x (at' (at' c (k:Int)) (x:Int))↔(-1<=at' (at' c (k:Int)) (x:Int)∧at' (at' c (k:Int)) (x:Int)<=((row g k).length:Int) - 1):=by unfold inB;rw[if_pos h2]
    rw[hi,if_neg (by omega),if_pos h1,ckT (by omega),wr (by omega) (by omega)]
    exact cfg4 (g:=g) (hs:=hs) (-1,((row g k).length:Int) - 1) (by omega) (by omega) (by omega)
   ·have hi:inB g hs k x (at' (at' c (k:Int)) (x:Int))↔(0<=at' (at' c (k:Int)) (x:Int)∧at' (at' c (k:Int)) (x:Int)<=at' hs (x:Int)):=by unfold inB;rw[if_neg (by omega)]
    rw[hi,if_neg h1,if_neg h2,h7,h3,h4,Int.zero_mul]
    have e2:wI .i64 (at' hs (x:Int)+wI .i64 0)=at' hs (x:Int):=by rw[wr (x:=0) (by omega) (by omega),Int.add_zero,wr (by omega) (by omega)]
    rw[e2]
    exact cfg4 (g:=g) (hs:=hs) (0,at' hs (x:Int)) (by omega) (by omega) (by omega)
  have stpE:∀(k:Nat) (ag ag':Int->Option Bool),k<g.2.length->ref23_Config_s2 1000 g c vars (k:Int) ag (hs.length:Nat) ag'=ag ((k+1:Nat):Int):=by
   intro k ag ag' hk
   unfold ref23_Config_s2 ref23_Config_k3
   rw[if_neg (by omega),wIncI (by omega)]
  have key:=iter_early (step:=ref23_Config_s1 1000 g c vars) (K:=some true) (bad:=some false) g.2.length (fun v=>StOk g hs v (at' c (v:Int))) (fun k=>(k:Int)) (fun k ag hk hp=> ?_) (fun k ag hk hp=> ?_) (fun ag=> ?_) 1000 (by omega)
  ·exact⟨fun h=>key.1 h.2,fun h=>key.2 fun h'=>h ⟨hc,h'⟩⟩
  all_goals unfold ref23_Config_s1
  ·rw[if_pos (by omega),ckT (by omega),if_neg (by have:=hp.1;omega)]
   exact(iter_early (step:=ref23_Config_s2 1000 g c vars (k:Int) ag) (K:=ag ((k+1:Nat):Int)) (bad:=some false) hs.length (fun x=>inB g hs k x (at' (at' c (k:Int)) (x:Int))) (fun x=>(x:Int)) (fun x ag' hx hq=>(stp k x ag ag' hk hx hp.1).1 hq) (fun x ag' hx hq=>(stp k x ag ag' hk hx hp.1).2 hq) (fun ag'=>stpE k ag ag' hk) 1000 (by omega)).1 hp.2
  ·rw[if_pos (by omega),ckT (by omega)]
   by_cases hl:(at' c (k:Int)).length=hs.length
   ·rw[if_neg (by omega)]
    exact(iter_early (step:=ref23_Config_s2 1000 g c vars (k:Int) ag) (K:=ag ((k+1:Nat):Int)) (bad:=some false) hs.length (fun x=>inB g hs k x (at' (at' c (k:Int)) (x:Int))) (fun x=>(x:Int)) (fun x ag' hx hq=>(stp k x ag ag' hk hx hl).1 hq) (fun x ag' hx hq=>(stp k x ag ag' hk hx hl).2 hq) (fun ag'=>stpE k ag ag' hk) 1000 (by omega)).2 fun h=>hp ⟨hl,h⟩
   ·rw[if_pos (by omega)]
  ·rw[if_neg (by omega)];rfl
 ·rw[if_pos (by rw[decide_eq_true_eq];omega)]
  exact⟨fun h=>absurd h.1 hc,fun _=>rfl⟩
end Go.Proofs.YtfbkplemadmbfaaGreatDoor
end
section
namespace Go.Proofs.YtfbkplemadmbfaaGreatDoor
open Go.Sx
def m_bfs_Fit (fuel:Nat) (p0:List (Int)×(List (List (Int×Int)))):Option (Bool):=
 Option.bind (m_graph_Connected fuel ((p0.1,p0.2))) fun r2=>(some (r2))
theorem body106:HasBody Tryz.prog 106:=Tryz.call106
theorem t_bfs_Fit (fuel:Nat) {p0:List (Int)×(List (List (Int×Int)))} (v0:Value)  (v1:Value)  (z2:List (Value×List (Int×Int))) (r:Bool) (h:m_bfs_Fit fuel p0=some r):
  Meets Tryz.prog 106 #[Value.agg #[v0,v1]] [Sl RI64 v0 p0.1,S2 RI64I64p v1 z2 p0.2] (fun x:Unit=>Value.bool (r)) (fun x l=>l) (fun _ l=>l):=by
 refine Meets.of (vs:=[Value.agg #[v0,v1]]) Tryz.func106 rfl Tryz.ntmps106 rfl fun c=> ?_
 unfold m_bfs_Fit at h
 refine J.seq<|J.region<|J.loud (Loud.box (cs:=[v0,v1]) rfl rfl) rfl fun b1=>J.quiet (Y.assign rfl) rfl<|J.done<|J.thenN<|J.seq<|J.region<|J.quiet (Y.loadBAll 0 rfl rfl rfl rfl) rfl ?_
 have h:=bnd h;obtain⟨r2,hr3,h⟩:=h
 refine J.loud (Loud.callL body40 (t_graph_Connected fuel v0 v1 z2 r2 hr3) rfl (LentAll.cons (Lent.fact 0 rfl) (LentAll.cons (Lent.fact 1 rfl) .nil)) (fun _ _=>rfl)) rfl fun x4=>J.quiet (Y.assign rfl) rfl<|J.done<|J.thenN<|J.ret ?_
 obtain rfl:=Option.some.inj h
 exact J.retG1 (()) rfl rfl (RV.tmp rfl) (SubM.nil) LentAll.nil
end Go.Proofs.YtfbkplemadmbfaaGreatDoor
end
section
namespace Go.Proofs.YtfbkplemadmbfaaGreatDoor
open Go.Sx
def bfs_configuration_k1  (a3:Bool):Option (Bool):=
 some (a3)
def m_bfs_configuration (fuel:Nat) (p0:List (Int)×(List (List (Int×Int)))) (p1:List (List (Int))):Option (Bool):=
 Option.bind (m_bfs_Fit fuel ((p0.1,p0.2))) fun r5=>(if r5=true then(Option.bind (m_bfs_Configuration fuel ((p0.1,p0.2)) p1 ([(List.length p0.1:Int),(-1:Int)])) fun r10=>(bfs_configuration_k1  (r10)))else(bfs_configuration_k1  (false)))
theorem body83:HasBody Tryz.prog 83:=Tryz.call83
theorem t_bfs_configuration (fuel:Nat) {p0:List (Int)×(List (List (Int×Int)))} {p1:List (List (Int))} (v0:Value)  (v1:Value)  (z2:List (Value×List (Int×Int)))  (v3:Value)  (z4:List (Value×List (Int))) (r:Bool) (h:m_bfs_configuration fuel p0 p1=some r):
  Meets Tryz.prog 83 #[Value.agg #[v0,v1],v3] [Sl RI64 v0 p0.1,S2 RI64I64p v1 z2 p0.2,S2 RI64 v3 z4 p1] (fun x:Unit=>Value.bool (r)) (fun x l=>l) (fun _ l=>l):=by
 refine Meets.of (vs:=[Value.agg #[v0,v1],v3]) Tryz.func83 rfl Tryz.ntmps83 rfl fun c=> ?_
 unfold m_bfs_configuration at h
 refine J.seq<|J.region<|J.loud (Loud.box (cs:=[v0,v1]) rfl rfl) rfl fun b1=>J.quiet (Y.assign rfl) rfl<|J.done<|J.thenN<|J.seq<|J.midI (A:=Bool) (B:=Unit) (fun a3=>bfs_configuration_k1  a3=some r) (fun a3 b4=>[(4,Value.bool (a3))]) (fun a3 b4=>[]) (fun a3 b4=>[Sl RI64 v0 p0.1,S2 RI64I64p v1 z2 p0.2,S2 RI64 v3 z4 p1]) ?_ ?_
 ·refine J.region<|J.quiet (Y.loadBAll 0 rfl rfl rfl rfl) rfl ?_
  have h:=bnd h;obtain⟨r5,hr6,h⟩:=h
  refine J.loud (Loud.callL body106 (t_bfs_Fit fuel v0 v1 z2 r5 hr6) rfl (LentAll.cons (Lent.fact 0 rfl) (LentAll.cons (Lent.fact 1 rfl) .nil)) (fun _ _=>rfl)) rfl fun x7=>J.quiet (Y.move rfl) rfl ?_
  refine J.guard (by exact rfl) (by exact rfl) (fun hp8=> ?_) (fun hp8=> ?_)
  ·have h:=ifP hp8 h
   refine J.guardY rfl (Y.loadBAll 0 rfl rfl rfl rfl) rfl<|J.guardY rfl (Y.move rfl) rfl<|J.guardY rfl (Y.fieldB rfl rfl rfl rfl rfl) rfl<|J.guardY rfl (Y.loadB 0 rfl rfl rfl rfl rfl) rfl<|J.guardY rfl (Y.lenS rfl (Lent.fact 0 rfl) rfl) rfl<|J.loudG rfl (Loud.buildS (e:=EI64) ([(List.length p0.1:Int),(-1:Int)]) [(0,Value.int .i64 (List.length p0.1:Int)),(1,Value.int .i64 (-1:Int))] rfl rfl rfl rfl (fill_2_1 (Value.int .i64 (List.length p0.1:Int)) (Value.int .i64 (-1:Int)) rfl rfl) rfl rfl rfl) rfl fun u9=> ?_
   have h:=bnd h;obtain⟨r10,hr11,h⟩:=h
   refine J.loudG rfl (Loud.callL body82 (t_bfs_Configuration fuel v0 v1 z2 v3 z4 u9 r10 hr11) rfl (LentAll.cons (Lent.fact 0 rfl) (LentAll.cons (Lent.fact 1 rfl) (LentAll.cons (Lent.fact 2 rfl) (LentAll.cons (Lent.ar (Lent.res 0 rfl) FI64) .nil)))) (fun _ _=>rfl)) rfl fun x12=>J.quiet (Y.pickT rfl rfl) rfl<|J.quiet (Y.assign rfl) rfl<|J.done<|J.thenN ?_
   exact J.meetI (r10) (()) h SF (SubM.nil) (LentAll.refl _ _)
  ·have h:=ifBN hp8 h
   refine J.guardN rfl rfl rfl<|J.guardN rfl rfl rfl<|J.guardN rfl rfl rfl<|J.guardN rfl rfl rfl<|J.guardN rfl rfl rfl<|J.guardN rfl rfl rfl<|J.guardN rfl rfl rfl<|J.quiet (Y.pickF rfl rfl) rfl<|J.quiet (Y.assign rfl) rfl<|J.done<|J.thenN ?_
   exact J.meetI (false) (()) h SF (SubM.nil) (LentAll.refl _ _)
 ·clear h
  intro a3 b4 h
  unfold bfs_configuration_k1 at h
  refine J.ret ?_
  obtain rfl:=Option.some.inj h
  exact J.retG1 (()) rfl rfl (RV.tmp rfl) (SubM.refl _) LentAll.nil
end Go.Proofs.YtfbkplemadmbfaaGreatDoor
end
section
namespace Go.Proofs.YtfbkplemadmbfaaGreatDoor
open Go.Sx
def m_bfs_Right_1 (fuel:Nat) (p0:Int×Int) (p1:List (Int)) (p2:Int):Option (Bool):=
 ck (0<=p0.1∧p0.1<(List.length p1:Int)) (ck (0<=p2∧p2<(List.length p1:Int)) (some (decide ((at' p1 p0.1)=(wI .i64 ((at' p1 p2) - (1:Int)))))))
theorem body108:HasBody Tryz.prog 108:=Tryz.call108
theorem t_bfs_Right_1 (fuel:Nat) {p0:Int×Int} {p1:List (Int)} {p2:Int} (bx0:Nat)  (v1:Value)  (bx2:Nat) (r:Bool) (h:m_bfs_Right_1 fuel p0 p1 p2=some r):
  Meets Tryz.prog 108 #[Value.agg #[Value.int .i64 (p0.1),Value.int .i64 (p0.2)],Value.pointer (some ⟨bx0,0,none⟩),Value.pointer (some ⟨bx2,0,none⟩)] [Blk bx0 [v1] 22,Sl RI64 v1 p1,Blk bx2 [Value.int .i64 (p2)] 3] (fun x:Unit=>Value.bool (r)) (fun x l=>l) (fun _ l=>l):=by
 refine Meets.of (vs:=[Value.agg #[Value.int .i64 (p0.1),Value.int .i64 (p0.2)],Value.pointer (some ⟨bx0,0,none⟩),Value.pointer (some ⟨bx2,0,none⟩)]) Tryz.func108 rfl Tryz.ntmps108 rfl fun c=> ?_
 unfold m_bfs_Right_1 at h
 refine J.seq<|J.region<|J.loud (Loud.box (cs:=[Value.int .i64 (p0.1),Value.int .i64 (p0.2)]) rfl rfl) rfl fun b1=>J.quiet (Y.assign rfl) rfl<|J.done<|J.thenN<|J.seq ?_
 refine JR.start [0,0,2,7,15,0,0,96,224,480,1023,2047] 10 mixedOrders (by decide +kernel) ?_
 refine JR.open (by exact rfl) ?_
 refine JR.qt rfl (SubM.nil) (SubL.cons (List.mem_of_getElem? (i:=0) rfl) (SubL.nil)) (Y.loadBS rfl (Lent.fact 0 rfl) rfl rfl rfl) HistOk.z<|JR.qt rfl (SubM.nil) (SubL.nil) (Y.fieldB rfl rfl rfl rfl rfl) HistOk.z<|JR.qt rfl (SubM.refl _) (SubL.nil) (Y.loadB 0 rfl rfl rfl rfl rfl) HistOk.z ?_
 have h:=ck_some h;obtain⟨hc2,h⟩:=h
 refine JR.qt rfl (SubM.nil) (SubL.cons (List.mem_of_getElem? (i:=1) rfl) (SubL.nil)) (Y.indexS rfl rfl (Lent.fact 0 rfl) rfl rfl hc2) HistOk.z<|JR.qt rfl (SubM.nil) (SubL.cons (List.mem_of_getElem? (i:=1) rfl) (SubL.nil)) (Y.loadS0 rfl (Lent.fact 0 rfl) rfl rfl rfl RI64c0 hc2) HistOk.z<|JR.qt rfl (SubM.nil) (SubL.cons (List.mem_of_getElem? (i:=0) rfl) (SubL.nil)) (Y.loadBS rfl (Lent.fact 0 rfl) rfl rfl rfl) HistOk.z<|JR.qt rfl (SubM.nil) (SubL.cons (List.mem_of_getElem? (i:=2) rfl) (SubL.nil)) (Y.loadBS rfl (Lent.fact 0 rfl) rfl rfl rfl) HistOk.z ?_
 have h:=ck_some h;obtain⟨hc3,h⟩:=h
 refine JR.qt rfl (SubM.nil) (SubL.cons (List.mem_of_getElem? (i:=1) rfl) (SubL.nil)) (Y.indexS rfl rfl (Lent.fact 0 rfl) rfl rfl hc3) HistOk.z<|JR.qt rfl (SubM.nil) (SubL.cons (List.mem_of_getElem? (i:=1) rfl) (SubL.nil)) (Y.loadS0 rfl (Lent.fact 0 rfl) rfl rfl rfl RI64c0 hc3) HistOk.z<|JR.qt rfl (SubM.nil) (SubL.nil) (Y.subW rfl rfl) HistOk.z<|JR.tailD 10 rfl rfl<|J.quiet (Y.eql rfl rfl) rfl<|J.quiet (Y.assign rfl) rfl<|J.done<|J.thenN<|J.ret ?_
 obtain rfl:=Option.some.inj h
 exact J.retG1 (()) rfl rfl (RV.tmp rfl) (SubM.nil) LentAll.nil
end Go.Proofs.YtfbkplemadmbfaaGreatDoor
end
section
namespace Go.Proofs.YtfbkplemadmbfaaGreatDoor
open Go.Sx
def slices_Equal_k1  (a2:Unit):Option (Bool):=
 some (true)
def slices_Equal_s1 (p0:List (Int)) (p1:List (Int)) (a6:Int) (ag5:(Int)->Option (Bool)):Option (Bool):=
 if a6<(List.length p0:Int)then(ck (0<=a6∧a6<(List.length p0:Int)) (ck (0<=a6∧a6<(List.length p1:Int)) (if(at' p0 a6)≠(at' p1 a6)then(some (false))else(ag5 (wI .i64 (a6+(1:Int)))))))else(slices_Equal_k1  (()))
def m_slices_Equal (fuel:Nat) (p0:List (Int)) (p1:List (Int)):Option (Bool):=
 if(List.length p0:Int)≠(List.length p1:Int)then(some (false))else(iter (slices_Equal_s1 p0 p1) fuel (0:Int))
theorem body109:HasBody Tryz.prog 109:=Tryz.call109
theorem t_slices_Equal (fuel:Nat) {p0:List (Int)} {p1:List (Int)} (v0:Value)  (v1:Value) (r:Bool) (h:m_slices_Equal fuel p0 p1=some r):
  Meets Tryz.prog 109 #[v0,v1] [Sl RI64 v0 p0,Sl RI64 v1 p1] (fun x:Unit=>Value.bool (r)) (fun x l=>l) (fun _ l=>l):=by
 refine Meets.of (vs:=[v0,v1]) Tryz.func109 rfl Tryz.ntmps109 rfl fun c=> ?_
 unfold m_slices_Equal at h
 refine J.seq<|J.region<|J.quiet (Y.assign rfl) rfl<|J.done<|J.thenN<|J.seq<|J.seq<|J.region<|J.quiet (Y.move rfl) rfl<|J.quiet (Y.lenS rfl (Lent.fact 0 rfl) rfl) rfl<|J.quiet (Y.move rfl) rfl<|J.quiet (Y.lenS rfl (Lent.fact 1 rfl) rfl) rfl<|J.quiet (Y.neq rfl rfl) rfl<|J.done<|J.thenN ?_
 refine J.condD (by exact rfl) (fun hp1=> ?_) (fun hp1=> ?_)
 ·have h:=ifP hp1 h
  refine J.seq<|J.region<|J.quiet (Y.assign rfl) rfl<|J.done<|J.thenN<|J.ret<|J.thenR ?_
  obtain rfl:=Option.some.inj h
  exact J.retG1 (()) rfl rfl (RV.tmp rfl) (SubM.refl _) LentAll.nil
 ·have h:=ifN hp1 h
  refine J.skip<|J.thenN<|J.seq<|J.midI (A:=Unit) (B:=Unit) (fun a2=>slices_Equal_k1  a2=some r) (fun a2 b3=>[]) (fun a2 b3=>[]) (fun a2 b3=>[Sl RI64 v0 p0,Sl RI64 v1 p1]) ?_ ?_
  ·refine J.seq<|J.region<|J.quiet (Y.move rfl) rfl<|J.quiet (Y.lenS rfl (Lent.fact 0 rfl) rfl) rfl<|J.quiet (Y.move rfl) rfl<|J.done<|J.thenN<|J.block<|J.loopI (A:=Int) (B:=Unit) (slices_Equal_s1 p0 p1) (fun a6 b7=>[(0,v0),(1,v1),(12,Value.int .i64 (List.length p0:Int)),(13,Value.int .i64 (a6))]) (fun a6 b7=>[]) (fun a6 b7=>[Sl RI64 v0 p0,Sl RI64 v1 p1]) (0:Int) (()) h SF (SubM.refl _) (LentAll.refl _ _) ?_
   clear h
   intro k8 a6 b7 h
   unfold slices_Equal_s1 at h
   refine J.seq<|J.region<|J.quiet (Y.lss rfl rfl) rfl<|J.done<|J.thenN<|J.seq ?_
   refine J.condD (by exact rfl) (fun hp9=> ?_) (fun hp9=> ?_)
   ·have h:=ifP hp9 h
    refine J.skip<|J.thenN<|J.seq<|J.block<|J.seq<|J.region<|J.quiet (Y.move rfl) rfl<|J.quiet (Y.assign rfl) rfl<|J.done<|J.thenN<|J.seq ?_
    refine JR.start [0,0,3,7,0,0,48,112,255] 8 mixedOrders (by decide +kernel) ?_
    refine JR.open (by exact rfl) ?_
    refine JR.qt rfl (SubM.refl _) (SubL.nil) (Y.move rfl) HistOk.z<|JR.qt rfl (SubM.refl _) (SubL.nil) (Y.move rfl) HistOk.z ?_
    have h:=ck_some h;obtain⟨hc10,h⟩:=h
    refine JR.qt rfl (SubM.refl _) (SubL.cons (List.mem_of_getElem? (i:=0) rfl) (SubL.nil)) (Y.indexS rfl rfl (Lent.fact 0 rfl) rfl rfl hc10) HistOk.z<|JR.qt rfl (SubM.refl _) (SubL.cons (List.mem_of_getElem? (i:=0) rfl) (SubL.nil)) (Y.loadS0 rfl (Lent.fact 0 rfl) rfl rfl rfl RI64c0 hc10) HistOk.z<|JR.qt rfl (SubM.refl _) (SubL.nil) (Y.move rfl) HistOk.z<|JR.qt rfl (SubM.refl _) (SubL.nil) (Y.move rfl) HistOk.z ?_
    have h:=ck_some h;obtain⟨hc11,h⟩:=h
    refine JR.qt rfl (SubM.refl _) (SubL.cons (List.mem_of_getElem? (i:=1) rfl) (SubL.nil)) (Y.indexS rfl rfl (Lent.fact 0 rfl) rfl rfl hc11) HistOk.z<|JR.qt rfl (SubM.refl _) (SubL.cons (List.mem_of_getElem? (i:=1) rfl) (SubL.nil)) (Y.loadS0 rfl (Lent.fact 0 rfl) rfl rfl rfl RI64c0 hc11) HistOk.z<|JR.tailD 8 rfl rfl<|J.quiet (Y.neq rfl rfl) rfl<|J.done<|J.thenN ?_
    refine J.condD (by exact rfl) (fun hp12=> ?_) (fun hp12=> ?_)
    ·have h:=ifP hp12 h
     refine J.seq<|J.region<|J.quiet (Y.assign rfl) rfl<|J.done<|J.thenN<|J.ret<|J.inR<|J.thenR<|J.thenR<|J.inR<|J.thenR ?_
     obtain rfl:=Option.some.inj h
     exact J.retG1 (()) rfl rfl (RV.tmp rfl) (SubM.refl _) LentAll.nil
    ·have h:=ifN hp12 h
     refine J.skip<|J.inN<|J.thenN<|J.region<|J.quiet (Y.addW rfl rfl) rfl<|J.quiet (Y.move rfl) rfl<|J.done<|J.thenN ?_
     exact J.againI (wI .i64 (a6+(1:Int))) (()) h SF (SubM.refl _) (LentAll.refl _ _)
   ·have h:=ifN hp9 h
    refine J.exit<|J.thenX<|J.thenX<|J.inX<|J.thenN ?_
    exact J.meetI (()) (()) h SF (SubM.refl _) (LentAll.refl _ _)
  ·clear h
   intro a2 b3 h
   unfold slices_Equal_k1 at h
   refine J.seq<|J.region<|J.quiet (Y.assign rfl) rfl<|J.done<|J.thenN<|J.ret ?_
   obtain rfl:=Option.some.inj h
   exact J.retG1 (()) rfl rfl (RV.tmp rfl) (SubM.refl _) LentAll.nil
end Go.Proofs.YtfbkplemadmbfaaGreatDoor
end
section
namespace Go.Proofs.YtfbkplemadmbfaaGreatDoor
open Go.Sx
def bfs_Right_k1 (fuel:Nat) (p1:Int) (p2:List (Int)) (p3:List (Int)) (a6:Int):Option (Bool):=
 ck (0<=p1∧p1<(List.length p2:Int)) (Option.bind (m_slices_Equal fuel p3 ([(at' p2 p1),a6])) fun r10=>(some (r10)))
def bfs_Right_k2 (fuel:Nat) (p1:Int) (p2:List (Int)) (p3:List (Int)) (a14:Unit):Option (Bool):=
 bfs_Right_k1 fuel p1 p2 p3 (-1:Int)
def bfs_Right_s1 (fuel:Nat) (p0:List (Int)×(List (List (Int×Int)))) (p1:Int) (p2:List (Int)) (p3:List (Int)) (a19:Int) (ag18:(Int)->Option (Bool)):Option (Bool):=
 if a19<(List.length (at' p0.2 p1):Int)then(ck (0<=a19∧a19<(List.length (at' p0.2 p1):Int)) (Option.bind (m_bfs_Right_1 fuel ((((at' (at' p0.2 p1) a19).1),((at' (at' p0.2 p1) a19).2))) p2 p1) fun r25=>(if r25=true then(bfs_Right_k1 fuel p1 p2 p3 (a19))else(ag18 (wI .i64 (a19+(1:Int)))))))else(bfs_Right_k2 fuel p1 p2 p3 (()))
def m_bfs_Right (fuel:Nat) (p0:List (Int)×(List (List (Int×Int)))) (p1:Int) (p2:List (Int)) (p3:List (Int)):Option (Bool):=
 ck (0<=p1∧p1<(List.length p0.2:Int)) (iter (bfs_Right_s1 fuel p0 p1 p2 p3) fuel (0:Int))
theorem body84:HasBody Tryz.prog 84:=Tryz.call84
theorem t_bfs_Right (fuel:Nat) {p0:List (Int)×(List (List (Int×Int)))} {p1:Int} {p2:List (Int)} {p3:List (Int)} (v0:Value)  (v1:Value)  (z2:List (Value×List (Int×Int)))  (v3:Value)  (v4:Value) (r:Bool) (h:m_bfs_Right fuel p0 p1 p2 p3=some r):
  Meets Tryz.prog 84 #[Value.agg #[v0,v1],Value.int .i64 (p1),v3,v4] [Sl RI64 v0 p0.1,S2 RI64I64p v1 z2 p0.2,Sl RI64 v3 p2,Sl RI64 v4 p3] (fun x:Unit=>Value.bool (r)) (fun x l=>l) (fun _ l=>l):=by
 refine Meets.of (vs:=[Value.agg #[v0,v1],Value.int .i64 (p1),v3,v4]) Tryz.func84 rfl Tryz.ntmps84 rfl fun c=> ?_
 unfold m_bfs_Right at h
 refine J.seq<|J.region<|J.loud (Loud.box (cs:=[v0,v1]) rfl rfl) rfl fun b1=>J.loud (Loud.box (cs:=[Value.int .i64 (p1)]) rfl rfl) rfl fun b2=>J.know (Know.one ((Lent.fact 2 rfl))) fun ho4=> ?_
 refine J.loud (Loud.box (cs:=[v3]) rfl (by rw[one_cells ho4])) rfl fun b3=> ?_
 refine J.quiet (Y.assign rfl) rfl<|J.done<|J.thenN<|J.seq<|J.region<|J.quiet (Y.loadBAll 2 rfl rfl rfl rfl) rfl<|J.quiet (Y.loadB 1 rfl rfl rfl rfl rfl) rfl<|J.quiet (Y.makeFunc (cs:=[.tmp 6,.tmp 5]) (vs:=[Value.pointer (some ⟨b3,0,none⟩),Value.pointer (some ⟨b2,0,none⟩)]) rfl) rfl<|J.inlC (A:=Int) (B:=Unit) (vs:=[Value.agg #[v0,v1],Value.int .i64 (p1),Value.func (.func 108) #[] #[Value.pointer (some ⟨b3,0,none⟩),Value.pointer (some ⟨b2,0,none⟩)]]) (fun a6=>bfs_Right_k1 fuel p1 p2 p3 a6=some r) (fun a6 b7=>Value.int .i64 (a6)) (fun a6 b7=>[Blk b3 [v3] 22,Blk b2 [Value.int .i64 (p1)] 3]) (fun a6 b7=>[Sl RI64 v0 p0.1,S2 RI64I64p v1 z2 p0.2,Sl RI64 v3 p2,Sl RI64 v4 p3]) (Enter.fn (show HasBody Tryz.prog 107 from Tryz.call107) rfl) Tryz.func107 rfl Tryz.ntmps107 rfl rfl ?_ ?_
 ·refine J.seq<|J.region<|J.loud (Loud.box (cs:=[v0,v1]) rfl rfl) rfl fun b13=>J.quiet (Y.assign rfl) rfl<|J.done<|J.thenN<|J.seq<|J.midI (A:=Unit) (B:=Unit) (fun a14=>bfs_Right_k2 fuel p1 p2 p3 a14=some r) (fun a14 b15=>[]) (fun a14 b15=>[Blk b3 [v3] 22,Blk b2 [Value.int .i64 (p1)] 3]) (fun a14 b15=>[Sl RI64 v0 p0.1,S2 RI64I64p v1 z2 p0.2,Sl RI64 v3 p2,Sl RI64 v4 p3]) ?_ ?_
  ·refine J.seq<|J.region<|J.quiet (Y.fieldB rfl rfl rfl rfl rfl) rfl<|J.quiet (Y.loadB 0 rfl rfl rfl rfl rfl) rfl<|J.quiet (Y.move rfl) rfl ?_
   have h:=ck_some h;obtain⟨hc16,h⟩:=h
   refine J.quiet (Y.indexN rfl rfl (Lent.fact 1 rfl) rfl rfl hc16) rfl<|J.quiet (Y.loadRow rfl (Lent.fact 1 rfl) rfl rfl hc16) rfl<|J.quiet (Y.lenS rfl (Lent.el (Lent.fact 1 rfl) hc16.1 hc16.2) rfl) rfl<|J.quiet (Y.move rfl) rfl<|J.done<|J.thenN<|J.block<|J.loopI (A:=Int) (B:=Unit) (bfs_Right_s1 fuel p0 p1 p2 p3) (fun a19 b20=>[(2,Value.func (.func 108) #[] #[Value.pointer (some ⟨b3,0,none⟩),Value.pointer (some ⟨b2,0,none⟩)]),(13,(at' z2 p1).1),(14,Value.int .i64 (List.length (at' p0.2 p1):Int)),(15,Value.int .i64 (a19))]) (fun a19 b20=>[Blk b3 [v3] 22,Blk b2 [Value.int .i64 (p1)] 3]) (fun a19 b20=>[Sl RI64 v0 p0.1,S2 RI64I64p v1 z2 p0.2,Sl RI64 v3 p2,Sl RI64 v4 p3]) (0:Int) (()) h SF (SubM.cons 1 rfl (SubM.cons 1 rfl (SubM.nil))) (LentAll.refl _ _) ?_
   clear h
   intro k21 a19 b20 h
   unfold bfs_Right_s1 at h
   refine J.seq<|J.region<|J.quiet (Y.lss rfl rfl) rfl<|J.done<|J.thenN<|J.seq ?_
   refine J.condD (by exact rfl) (fun hp22=> ?_) (fun hp22=> ?_)
   ·have h:=ifP hp22 h
    refine J.skip<|J.thenN<|J.seq<|J.block<|J.seq<|J.region<|J.quiet (Y.move rfl) rfl ?_
    have h:=ck_some h;obtain⟨hc23,h⟩:=h
    refine J.quiet (Y.indexS rfl rfl (Lent.el (Lent.fact 1 rfl) hc16.1 hc16.2) rfl rfl hc23) rfl<|J.quiet (Y.loadAggS (cs:=[Value.int .i64 ((at' (at' p0.2 p1) a19).1),Value.int .i64 ((at' (at' p0.2 p1) a19).2)]) rfl (Lent.el (Lent.fact 1 rfl) hc16.1 hc16.2) FI64I64p rfl rfl rfl rfl hc23) rfl<|J.loud (Loud.alloc (cs:=[Value.int .i64 (0:Int),Value.int .i64 (0:Int)]) rfl rfl) rfl fun b24=>J.quiet (Y.assign rfl) rfl<|J.storeAll 0 (vs:=[Value.int .i64 ((at' (at' p0.2 p1) a19).1),Value.int .i64 ((at' (at' p0.2 p1) a19).2)]) rfl rfl rfl rfl rfl rfl<|J.done<|J.thenN<|J.seq<|J.region<|J.quiet (Y.move rfl) rfl<|J.quiet (Y.loadBAll 0 rfl rfl rfl rfl) rfl ?_
    have h:=bnd h;obtain⟨r25,hr26,h⟩:=h
    refine J.loud (Loud.callVL (vs:=[Value.agg #[Value.int .i64 ((at' (at' p0.2 p1) a19).1),Value.int .i64 ((at' (at' p0.2 p1) a19).2)]]) (cs:=[Value.pointer (some ⟨b3,0,none⟩),Value.pointer (some ⟨b2,0,none⟩)]) body108 rfl (t_bfs_Right_1 fuel b3 v3 b2 r25 hr26) rfl (LentAll.cons (Lent.res 1 rfl) (LentAll.cons (Lent.fact 2 rfl) (LentAll.cons (Lent.res 2 rfl) .nil))) (fun _ _=>rfl)) rfl fun x27=>J.done<|J.thenN ?_
    refine J.cond (by exact rfl) (fun hp28=> ?_) (fun hp28=> ?_)
    ·have h:=ifP hp28 h
     refine J.seq<|J.region<|J.quiet (Y.move rfl) rfl<|J.quiet (Y.assign rfl) rfl<|J.done<|J.thenN<|J.ret<|J.inR<|J.thenR<|J.thenR<|J.inR<|J.thenR ?_
     exact J.retM (a19) (()) h (.inl rfl) (Res.r1 rfl (RV.tmp rfl)) rfl (SubM.cons 1 rfl (SubM.cons 1 rfl (SubM.nil))) (LentAll.refl _ _)
    ·have h:=ifBN hp28 h
     refine J.skip<|J.inN<|J.thenN<|J.region<|J.quiet (Y.addW rfl rfl) rfl<|J.quiet (Y.move rfl) rfl<|J.done<|J.thenN ?_
     exact J.againI (wI .i64 (a19+(1:Int))) (()) h SF (SubM.cons 1 rfl (SubM.cons 1 rfl (SubM.nil))) (LentAll.refl _ _)
   ·have h:=ifN hp22 h
    refine J.exit<|J.thenX<|J.thenX<|J.inX<|J.thenN ?_
    exact J.meetI (()) (()) h SF (SubM.refl _) (LentAll.refl _ _)
  ·clear h
   intro a14 b15 h
   unfold bfs_Right_k2 at h
   refine J.seq<|J.region<|J.quiet (Y.assign rfl) rfl<|J.done<|J.thenN<|J.ret ?_
   exact J.retM (-1:Int) (()) h (.inl rfl) (Res.r1 rfl (RV.tmp rfl)) rfl (SubM.refl _) (LentAll.refl _ _)
 ·clear h
  intro a6 b7 h
  unfold bfs_Right_k1 at h
  refine J.quiet (Y.assign rfl) rfl<|J.done<|J.thenN<|J.seq<|J.region<|J.quiet (Y.move rfl) rfl<|J.quiet (Y.loadB 0 rfl rfl rfl rfl rfl) rfl<|J.quiet (Y.loadB 1 rfl rfl rfl rfl rfl) rfl ?_
  have h:=ck_some h;obtain⟨hc8,h⟩:=h
  refine J.quiet (Y.indexS rfl rfl (Lent.fact 2 rfl) rfl rfl hc8) rfl<|J.quiet (Y.loadS0 rfl (Lent.fact 2 rfl) rfl rfl rfl RI64c0 hc8) rfl<|J.quiet (Y.move rfl) rfl<|J.loud (Loud.buildS (e:=EI64) ([(at' p2 p1),a6]) [(0,Value.int .i64 (at' p2 p1)),(1,Value.int .i64 (a6))] rfl rfl rfl rfl (fill_2_1 (Value.int .i64 (at' p2 p1)) (Value.int .i64 (a6)) rfl rfl) rfl rfl rfl) rfl fun u9=> ?_
  have h:=bnd h;obtain⟨r10,hr11,h⟩:=h
  refine J.loud (Loud.callL body109 (t_slices_Equal fuel v4 u9 r10 hr11) rfl (LentAll.cons (Lent.fact 3 rfl) (LentAll.cons (Lent.ar (Lent.res 0 rfl) FI64) .nil)) (fun _ _=>rfl)) rfl fun x12=>J.quiet (Y.assign rfl) rfl<|J.done<|J.thenN<|J.ret ?_
  obtain rfl:=Option.some.inj h
  exact J.retG1 (()) rfl rfl (RV.tmp rfl) (SubM.nil) LentAll.nil
end Go.Proofs.YtfbkplemadmbfaaGreatDoor
end
section
namespace Go.Proofs.YtfbkplemadmbfaaGreatDoor
open Go.Sx
def bfs_Legit_k1  (a9:Unit):Option (Bool):=
 some (true)
def bfs_Legit_s1 (fuel:Nat) (p0:List (Int)×(List (List (Int×Int)))) (p1:List (List (Int))) (r6:List (Int)) (a13:Int) (ag12:(Int)->Option (Bool)):Option (Bool):=
 if a13<(List.length p1:Int)then(ck (0<=a13∧a13<(List.length p1:Int)) (Option.bind (m_bfs_Right fuel ((p0.1,p0.2)) a13 r6 (at' p1 a13)) fun r18=>(if(!r18)=true then(some (false))else(ag12 (wI .i64 (a13+(1:Int)))))))else(bfs_Legit_k1  (()))
def m_bfs_Legit (fuel:Nat) (p0:List (Int)×(List (List (Int×Int)))) (p1:List (List (Int))):Option (Bool):=
 Option.bind (m_bfs_configuration fuel ((p0.1,p0.2)) p1) fun r2=>(if(!r2)=true then(some (false))else(Option.bind (m_graph_Distances fuel ((p0.1,p0.2)) (0:Int)) fun r6=>(iter (bfs_Legit_s1 fuel p0 p1 r6) fuel (0:Int))))
theorem body43:HasBody Tryz.prog 43:=Tryz.call43
theorem t_bfs_Legit (fuel:Nat) {p0:List (Int)×(List (List (Int×Int)))} {p1:List (List (Int))} (v0:Value)  (v1:Value)  (z2:List (Value×List (Int×Int)))  (v3:Value)  (z4:List (Value×List (Int))) (r:Bool) (h:m_bfs_Legit fuel p0 p1=some r):
  Meets Tryz.prog 43 #[Value.agg #[v0,v1],v3] [Sl RI64 v0 p0.1,S2 RI64I64p v1 z2 p0.2,S2 RI64 v3 z4 p1] (fun x:Unit=>Value.bool (r)) (fun x l=>l) (fun _ l=>l):=by
 refine Meets.of (vs:=[Value.agg #[v0,v1],v3]) Tryz.func43 rfl Tryz.ntmps43 rfl fun c=> ?_
 unfold m_bfs_Legit at h
 refine J.seq<|J.region<|J.loud (Loud.box (cs:=[v0,v1]) rfl rfl) rfl fun b1=>J.quiet (Y.assign rfl) rfl<|J.done<|J.thenN<|J.seq<|J.seq<|J.region<|J.quiet (Y.loadBAll 0 rfl rfl rfl rfl) rfl<|J.quiet (Y.move rfl) rfl ?_
 have h:=bnd h;obtain⟨r2,hr3,h⟩:=h
 refine J.loud (Loud.callL body83 (t_bfs_configuration fuel v0 v1 z2 v3 z4 r2 hr3) rfl (LentAll.cons (Lent.fact 0 rfl) (LentAll.cons (Lent.fact 1 rfl) (LentAll.cons (Lent.fact 2 rfl) .nil))) (fun _ _=>rfl)) rfl fun x4=>J.quiet (Y.not rfl) rfl<|J.done<|J.thenN ?_
 refine J.cond (by exact rfl) (fun hp5=> ?_) (fun hp5=> ?_)
 ·have h:=ifP hp5 h
  refine J.seq<|J.region<|J.quiet (Y.assign rfl) rfl<|J.done<|J.thenN<|J.ret<|J.thenR ?_
  obtain rfl:=Option.some.inj h
  exact J.retG1 (()) rfl rfl (RV.tmp rfl) (SubM.nil) LentAll.nil
 ·have h:=ifBN hp5 h
  refine J.skip<|J.thenN<|J.seq<|J.region<|J.quiet (Y.loadBAll 0 rfl rfl rfl rfl) rfl ?_
  have h:=bnd h;obtain⟨r6,hr7,h⟩:=h
  refine J.loud (Loud.callL body70 (t_graph_Distances fuel v0 v1 z2 r6 hr7) rfl (LentAll.cons (Lent.fact 0 rfl) (LentAll.cons (Lent.fact 1 rfl) .nil)) (fun _ _=>rfl)) rfl fun x8=>J.quiet (Y.assign rfl) rfl<|J.done<|J.thenN<|J.seq<|J.midI (A:=Unit) (B:=Unit) (fun a9=>bfs_Legit_k1  a9=some r) (fun a9 b10=>[]) (fun a9 b10=>[]) (fun a9 b10=>[Sl RI64 v0 p0.1,S2 RI64I64p v1 z2 p0.2,S2 RI64 v3 z4 p1]) ?_ ?_
  ·refine J.seq<|J.region<|J.quiet (Y.move rfl) rfl<|J.quiet (Y.lenN rfl (Lent.fact 2 rfl) rfl) rfl<|J.quiet (Y.move rfl) rfl<|J.done<|J.thenN<|J.block<|J.loopI (A:=Int) (B:=Unit) (bfs_Legit_s1 fuel p0 p1 r6) (fun a13 b14=>[(2,Value.pointer (some ⟨b1,0,none⟩)),(5,x8),(14,v3),(15,Value.int .i64 (List.length p1:Int)),(16,Value.int .i64 (a13))]) (fun a13 b14=>[Ar EI64 x8 r6,Blk b1 [v0,v1] 25]) (fun a13 b14=>[Sl RI64 v0 p0.1,S2 RI64I64p v1 z2 p0.2,S2 RI64 v3 z4 p1]) (0:Int) (()) h SF (SubM.refl _) (LentAll.refl _ _) ?_
   clear h
   intro k15 a13 b14 h
   unfold bfs_Legit_s1 at h
   refine J.seq<|J.region<|J.quiet (Y.lss rfl rfl) rfl<|J.done<|J.thenN<|J.seq ?_
   refine J.condD (by exact rfl) (fun hp16=> ?_) (fun hp16=> ?_)
   ·have h:=ifP hp16 h
    refine J.skip<|J.thenN<|J.seq<|J.block<|J.seq<|J.region<|J.quiet (Y.move rfl) rfl ?_
    have h:=ck_some h;obtain⟨hc17,h⟩:=h
    refine J.quiet (Y.indexN rfl rfl (Lent.fact 2 rfl) rfl rfl hc17) rfl<|J.quiet (Y.loadRow rfl (Lent.fact 2 rfl) rfl rfl hc17) rfl<|J.quiet (Y.assign rfl) rfl<|J.quiet (Y.assign rfl) rfl<|J.done<|J.thenN<|J.seq<|J.region<|J.quiet (Y.loadBAll 1 rfl rfl rfl rfl) rfl<|J.quiet (Y.move rfl) rfl<|J.quiet (Y.move rfl) rfl<|J.quiet (Y.move rfl) rfl ?_
    have h:=bnd h;obtain⟨r18,hr19,h⟩:=h
    refine J.loud (Loud.callL body84 (t_bfs_Right fuel v0 v1 z2 x8 ((at' z4 a13).1) r18 hr19) rfl (LentAll.cons (Lent.fact 0 rfl) (LentAll.cons (Lent.fact 1 rfl) (LentAll.cons (Lent.ar (Lent.res 0 rfl) FI64) (LentAll.cons (Lent.el (Lent.fact 2 rfl) hc17.1 hc17.2) .nil)))) (fun _ _=>rfl)) rfl fun x20=>J.quiet (Y.not rfl) rfl<|J.done<|J.thenN ?_
    refine J.cond (by exact rfl) (fun hp21=> ?_) (fun hp21=> ?_)
    ·have h:=ifP hp21 h
     refine J.seq<|J.region<|J.quiet (Y.assign rfl) rfl<|J.done<|J.thenN<|J.ret<|J.inR<|J.thenR<|J.thenR<|J.inR<|J.thenR ?_
     obtain rfl:=Option.some.inj h
     exact J.retG1 (()) rfl rfl (RV.tmp rfl) (SubM.nil) LentAll.nil
    ·have h:=ifBN hp21 h
     refine J.skip<|J.inN<|J.thenN<|J.region<|J.quiet (Y.addW rfl rfl) rfl<|J.quiet (Y.move rfl) rfl<|J.done<|J.thenN ?_
     exact J.againI (wI .i64 (a13+(1:Int))) (()) h SF (SubM.refl _) (LentAll.refl _ _)
   ·have h:=ifN hp16 h
    refine J.exit<|J.thenX<|J.thenX<|J.inX<|J.thenN ?_
    exact J.meetI (()) (()) h SF (SubM.nil) (LentAll.refl _ _)
  ·clear h
   intro a9 b10 h
   unfold bfs_Legit_k1 at h
   refine J.seq<|J.region<|J.quiet (Y.assign rfl) rfl<|J.done<|J.thenN<|J.ret ?_
   obtain rfl:=Option.some.inj h
   exact J.retG1 (()) rfl rfl (RV.tmp rfl) (SubM.refl _) LentAll.nil
end Go.Proofs.YtfbkplemadmbfaaGreatDoor
end
section
namespace Go.Proofs.YtfbkplemadmbfaaGreatDoor
open Go.Sx
def ref23_Tree_k1  (a5:Unit):Option (Bool):=
 some (true)
def ref23_Tree_k3 (a9:Int) (ag8:(Int)->Option (Bool)) (a17:Bool):Option (Bool):=
 if a17=true then(some (false))else(ag8 (wI .i64 (a9+(1:Int))))
def ref23_Tree_k2 (p1:List (List (Int))) (p3:Int) (p4:Int) (r2:List (Int)) (a9:Int) (ag8:(Int)->Option (Bool)) (a14:Int):Option (Bool):=
 ck (0<=a9∧a9<(List.length p1:Int)) (ck (0<=p3∧p3<(List.length (at' p1 a9):Int)) (ck (0<=a9∧a9<(List.length r2:Int)) (if(at' (at' p1 a9) p3)≠(at' r2 a9)then(ref23_Tree_k3 a9 ag8 (true))else(ck (0<=a9∧a9<(List.length p1:Int)) (ck (0<=p4∧p4<(List.length (at' p1 a9):Int)) (ref23_Tree_k3 a9 ag8 (decide ((at' (at' p1 a9) p4)≠a14))))))))
def ref23_Tree_k4 (a30:Int×Int) (ag29:(Int×Int)->Option (Bool)) (a35:Int):Option (Bool):=
 ag29 (a35,(wI .i64 (a30.2 - (1:Int))))
def ref23_Tree_s2 (p0:List (Int)×(List (List (Int×Int)))) (p1:List (List (Int))) (p3:Int) (p4:Int) (r2:List (Int)) (a9:Int) (ag8:(Int)->Option (Bool)) (a30:Int×Int) (ag29:(Int×Int)->Option (Bool)):Option (Bool):=
 if(0:Int)<=a30.2 then(ck (0<=a9∧a9<(List.length p0.2:Int)) (ck (0<=a30.2∧a30.2<(List.length (at' p0.2 a9):Int)) (ck (0<=((at' (at' p0.2 a9) a30.2).1)∧((at' (at' p0.2 a9) a30.2).1)<(List.length r2:Int)) (ck (0<=a9∧a9<(List.length r2:Int)) (if(at' r2 ((at' (at' p0.2 a9) a30.2).1))=(wI .i64 ((at' r2 a9) - (1:Int)))then(ref23_Tree_k4 a30 ag29 (a30.2))else(ref23_Tree_k4 a30 ag29 (a30.1)))))))else(ref23_Tree_k2 p1 p3 p4 r2 a9 ag8 (a30.1))
def ref23_Tree_s1 (fuel:Nat) (p0:List (Int)×(List (List (Int×Int)))) (p1:List (List (Int))) (p3:Int) (p4:Int) (r2:List (Int)) (a9:Int) (ag8:(Int)->Option (Bool)):Option (Bool):=
 if a9<(List.length p0.2:Int)then(ck (0<=a9∧a9<(List.length p0.2:Int)) (iter (ref23_Tree_s2 p0 p1 p3 p4 r2 a9 ag8) fuel ((-1:Int),(wI .i64 ((List.length (at' p0.2 a9):Int) - (1:Int))))))else(ref23_Tree_k1  (()))
def m_ref23_Tree (fuel:Nat) (p0:List (Int)×(List (List (Int×Int)))) (p1:List (List (Int))) (p2:Int) (p3:Int) (p4:Int):Option (Bool):=
 Option.bind (m_ref01_Distances fuel ((p0.1,p0.2)) p2) fun r2=>(iter (ref23_Tree_s1 fuel p0 p1 p3 p4 r2) fuel (0:Int))
theorem body47:HasBody Tryz.prog 47:=Tryz.call47
theorem t_ref23_Tree (fuel:Nat) {p0:List (Int)×(List (List (Int×Int)))} {p1:List (List (Int))} {p2:Int} {p3:Int} {p4:Int} (v0:Value)  (v1:Value)  (z2:List (Value×List (Int×Int)))  (v3:Value)  (z4:List (Value×List (Int))) (r:Bool) (h:m_ref23_Tree fuel p0 p1 p2 p3 p4=some r):
  Meets Tryz.prog 47 #[Value.agg #[v0,v1],v3,Value.int .i64 (p2),Value.int .i64 (p3),Value.int .i64 (p4)] [Sl RI64 v0 p0.1,S2 RI64I64p v1 z2 p0.2,S2 RI64 v3 z4 p1] (fun x:Unit=>Value.bool (r)) (fun x l=>l) (fun _ l=>l):=by
 refine Meets.of (vs:=[Value.agg #[v0,v1],v3,Value.int .i64 (p2),Value.int .i64 (p3),Value.int .i64 (p4)]) Tryz.func47 rfl Tryz.ntmps47 rfl fun c=> ?_
 unfold m_ref23_Tree at h
 refine J.seq<|J.region<|J.loud (Loud.box (cs:=[v0,v1]) rfl rfl) rfl fun b1=>J.quiet (Y.assign rfl) rfl<|J.done<|J.thenN<|J.seq<|J.region<|J.quiet (Y.loadBAll 0 rfl rfl rfl rfl) rfl<|J.quiet (Y.move rfl) rfl ?_
 have h:=bnd h;obtain⟨r2,hr3,h⟩:=h
 refine J.loud (Loud.callL body81 (t_ref01_Distances fuel v0 v1 z2 r2 hr3) rfl (LentAll.cons (Lent.fact 0 rfl) (LentAll.cons (Lent.fact 1 rfl) .nil)) (fun _ _=>rfl)) rfl fun x4=>J.quiet (Y.assign rfl) rfl<|J.done<|J.thenN<|J.seq<|J.midI (A:=Unit) (B:=Unit) (fun a5=>ref23_Tree_k1  a5=some r) (fun a5 b6=>[]) (fun a5 b6=>[]) (fun a5 b6=>[Sl RI64 v0 p0.1,S2 RI64I64p v1 z2 p0.2,S2 RI64 v3 z4 p1]) ?_ ?_
 ·refine J.seq<|J.region<|J.quiet (Y.assign rfl) rfl<|J.done<|J.thenN<|J.block<|J.loopI (A:=Int) (B:=Unit) (ref23_Tree_s1 fuel p0 p1 p3 p4 r2) (fun a9 b10=>[(1,v3),(3,Value.int .i64 (p3)),(4,Value.int .i64 (p4)),(5,Value.pointer (some ⟨b1,0,none⟩)),(11,x4),(12,Value.int .i64 (a9))]) (fun a9 b10=>[Ar EI64 x4 r2,Blk b1 [v0,v1] 25]) (fun a9 b10=>[Sl RI64 v0 p0.1,S2 RI64I64p v1 z2 p0.2,S2 RI64 v3 z4 p1]) (0:Int) (()) h SF (SubM.refl _) (LentAll.refl _ _) ?_
  clear h
  intro k11 a9 b10 h
  unfold ref23_Tree_s1 at h
  refine J.seq<|J.seq<|J.region<|J.quiet (Y.move rfl) rfl<|J.quiet (Y.fieldB rfl rfl rfl rfl rfl) rfl<|J.quiet (Y.loadB 1 rfl rfl rfl rfl rfl) rfl<|J.quiet (Y.lenN rfl (Lent.fact 1 rfl) rfl) rfl<|J.quiet (Y.lss rfl rfl) rfl<|J.done<|J.thenN ?_
  refine J.condD (by exact rfl) (fun hp12=> ?_) (fun hp12=> ?_)
  ·have h:=ifP hp12 h
   refine J.skip<|J.thenN<|J.seq<|J.block<|J.seq<|J.region<|J.quiet (Y.assign rfl) rfl<|J.done<|J.thenN<|J.seq<|J.midI (A:=Int) (B:=Unit) (fun a14=>ref23_Tree_k2 p1 p3 p4 r2 a9 (iter (ref23_Tree_s1 fuel p0 p1 p3 p4 r2) k11) a14=some r) (fun a14 b15=>[(1,v3),(3,Value.int .i64 (p3)),(4,Value.int .i64 (p4)),(5,Value.pointer (some ⟨b1,0,none⟩)),(11,x4),(12,Value.int .i64 (a9)),(13,Value.int .i64 (a14))]) (fun a14 b15=>[Ar EI64 x4 r2,Blk b1 [v0,v1] 25]) (fun a14 b15=>[Sl RI64 v0 p0.1,S2 RI64I64p v1 z2 p0.2,S2 RI64 v3 z4 p1]) ?_ ?_
   ·refine J.seq<|J.region<|J.quiet (Y.fieldB rfl rfl rfl rfl rfl) rfl<|J.quiet (Y.loadB 1 rfl rfl rfl rfl rfl) rfl<|J.quiet (Y.move rfl) rfl ?_
    have h:=ck_some h;obtain⟨hc26,h⟩:=h
    refine J.quiet (Y.indexN rfl rfl (Lent.fact 1 rfl) rfl rfl hc26) rfl<|J.quiet (Y.loadRow rfl (Lent.fact 1 rfl) rfl rfl hc26) rfl<|J.quiet (Y.lenS rfl (Lent.el (Lent.fact 1 rfl) hc26.1 hc26.2) rfl) rfl<|J.quiet (Y.subW rfl rfl) rfl<|J.quiet (Y.assign rfl) rfl<|J.done<|J.thenN<|J.block<|J.loopI (A:=Int×Int) (B:=Unit) (ref23_Tree_s2 p0 p1 p3 p4 r2 a9 (iter (ref23_Tree_s1 fuel p0 p1 p3 p4 r2) k11)) (fun a30 b31=>[(1,v3),(3,Value.int .i64 (p3)),(4,Value.int .i64 (p4)),(5,Value.pointer (some ⟨b1,0,none⟩)),(11,x4),(12,Value.int .i64 (a9)),(13,Value.int .i64 (a30.1)),(14,Value.int .i64 (a30.2))]) (fun a30 b31=>[Ar EI64 x4 r2,Blk b1 [v0,v1] 25]) (fun a30 b31=>[Sl RI64 v0 p0.1,S2 RI64I64p v1 z2 p0.2,S2 RI64 v3 z4 p1]) ((-1:Int),(wI .i64 ((List.length (at' p0.2 a9):Int) - (1:Int)))) (()) h SF (SubM.refl _) (LentAll.refl _ _) ?_
    clear h
    intro k32 a30 b31 h
    unfold ref23_Tree_s2 at h
    refine J.seq<|J.seq<|J.region<|J.quiet (Y.move rfl) rfl<|J.quiet (Y.geq rfl rfl) rfl<|J.done<|J.thenN ?_
    refine J.condD (by exact rfl) (fun hp33=> ?_) (fun hp33=> ?_)
    ·have h:=ifP hp33 h
     refine J.skip<|J.thenN<|J.seq<|J.midI (A:=Int) (B:=Unit) (fun a35=>ref23_Tree_k4 a30 (iter (ref23_Tree_s2 p0 p1 p3 p4 r2 a9 (iter (ref23_Tree_s1 fuel p0 p1 p3 p4 r2) k11)) k32) a35=some r) (fun a35 b36=>[(1,v3),(3,Value.int .i64 (p3)),(4,Value.int .i64 (p4)),(5,Value.pointer (some ⟨b1,0,none⟩)),(11,x4),(12,Value.int .i64 (a9)),(13,Value.int .i64 (a35)),(14,Value.int .i64 (a30.2))]) (fun a35 b36=>[Ar EI64 x4 r2,Blk b1 [v0,v1] 25]) (fun a35 b36=>[Sl RI64 v0 p0.1,S2 RI64I64p v1 z2 p0.2,S2 RI64 v3 z4 p1]) ?_ ?_
     ·refine J.block<|J.seq ?_
      refine JR.start [0,0,2,0,14,30,0,126,254,510,1023,2047,0,0,12288,28672,61440,131071] 17 mixedOrders (by decide +kernel) ?_
      refine JR.open (by exact rfl) ?_
      refine JR.qt rfl (SubM.nil) (SubL.nil) (Y.move rfl) HistOk.z<|JR.qt rfl (SubM.nil) (SubL.nil) (Y.fieldB rfl rfl rfl rfl rfl) HistOk.z<|JR.qt rfl (SubM.cons 1 rfl (SubM.nil)) (SubL.nil) (Y.loadB 0 rfl rfl rfl rfl rfl) HistOk.z<|JR.qt rfl (SubM.nil) (SubL.nil) (Y.move rfl) HistOk.z ?_
      have h:=ck_some h;obtain⟨hc37,h⟩:=h
      refine JR.qt rfl (SubM.nil) (SubL.cons (List.mem_of_getElem? (i:=1) rfl) (SubL.nil)) (Y.indexN rfl rfl (Lent.fact 0 rfl) rfl rfl hc37) HistOk.z<|JR.qt rfl (SubM.nil) (SubL.cons (List.mem_of_getElem? (i:=1) rfl) (SubL.nil)) (Y.loadRow rfl (Lent.fact 0 rfl) rfl rfl hc37) HistOk.z<|JR.qt rfl (SubM.nil) (SubL.nil) (Y.move rfl) HistOk.z ?_
      have h:=ck_some h;obtain⟨hc38,h⟩:=h
      refine JR.qt rfl (SubM.nil) (SubL.cons (List.mem_of_getElem? (i:=1) rfl) (SubL.nil)) (Y.indexS rfl rfl (Lent.el (Lent.fact 0 rfl) hc37.1 hc37.2) rfl rfl hc38) HistOk.z<|JR.qt rfl (SubM.nil) (SubL.nil) (Y.fieldEl rfl rfl rfl rfl rfl) HistOk.z<|JR.qt rfl (SubM.nil) (SubL.cons (List.mem_of_getElem? (i:=1) rfl) (SubL.nil)) (Y.loadS rfl (Lent.el (Lent.fact 0 rfl) hc37.1 hc37.2) rfl rfl rfl RI64I64pc0 hc38) HistOk.z ?_
      have h:=ck_some h;obtain⟨hc39,h⟩:=h
      refine JR.qt rfl (SubM.cons 0 rfl (SubM.nil)) (SubL.nil) (Y.indexS rfl rfl (Lent.ar (Lent.res 0 rfl) FI64) rfl rfl hc39) HistOk.z<|JR.qt rfl (SubM.cons 0 rfl (SubM.nil)) (SubL.nil) (Y.loadS0 rfl (Lent.ar (Lent.res 0 rfl) FI64) rfl rfl rfl RI64c0 hc39) HistOk.z<|JR.qt rfl (SubM.nil) (SubL.nil) (Y.move rfl) HistOk.z<|JR.qt rfl (SubM.nil) (SubL.nil) (Y.move rfl) HistOk.z ?_
      have h:=ck_some h;obtain⟨hc40,h⟩:=h
      refine JR.qt rfl (SubM.cons 0 rfl (SubM.nil)) (SubL.nil) (Y.indexS rfl rfl (Lent.ar (Lent.res 0 rfl) FI64) rfl rfl hc40) HistOk.z<|JR.qt rfl (SubM.cons 0 rfl (SubM.nil)) (SubL.nil) (Y.loadS0 rfl (Lent.ar (Lent.res 0 rfl) FI64) rfl rfl rfl RI64c0 hc40) HistOk.z<|JR.qt rfl (SubM.nil) (SubL.nil) (Y.subW rfl rfl) HistOk.z<|JR.tailD 17 rfl rfl<|J.quiet (Y.eql rfl rfl) rfl<|J.done<|J.thenN ?_
      refine J.condD (by exact rfl) (fun hp41=> ?_) (fun hp41=> ?_)
      ·have h:=ifP hp41 h
       refine J.region<|J.quiet (Y.move rfl) rfl<|J.quiet (Y.assign rfl) rfl<|J.done<|J.inN<|J.thenN ?_
       exact J.meetI (a30.2) (()) h SF (SubM.refl _) (LentAll.refl _ _)
      ·have h:=ifN hp41 h
       refine J.skip<|J.inN<|J.thenN ?_
       exact J.meetI (a30.1) (()) h SF (SubM.refl _) (LentAll.refl _ _)
     ·clear h
      intro a35 b36 h
      unfold ref23_Tree_k4 at h
      refine J.region<|J.quiet (Y.move rfl) rfl<|J.quiet (Y.subW rfl rfl) rfl<|J.quiet (Y.assign rfl) rfl<|J.done<|J.thenN ?_
      exact J.againI (a35,(wI .i64 (a30.2 - (1:Int)))) (()) h SF (SubM.refl _) (LentAll.refl _ _)
    ·have h:=ifN hp33 h
     refine J.exit<|J.thenX<|J.thenX<|J.inX<|J.thenN ?_
     exact J.meetI (a30.1) (()) h SF (SubM.refl _) (LentAll.refl _ _)
   ·clear h
    intro a14 b15 h
    unfold ref23_Tree_k2 at h
    refine J.seq<|J.midI (A:=Bool) (B:=Unit) (fun a17=>ref23_Tree_k3 a9 (iter (ref23_Tree_s1 fuel p0 p1 p3 p4 r2) k11) a17=some r) (fun a17 b18=>[(1,v3),(3,Value.int .i64 (p3)),(4,Value.int .i64 (p4)),(5,Value.pointer (some ⟨b1,0,none⟩)),(11,x4),(12,Value.int .i64 (a9)),(77,Value.bool (a17))]) (fun a17 b18=>[Ar EI64 x4 r2,Blk b1 [v0,v1] 25]) (fun a17 b18=>[Sl RI64 v0 p0.1,S2 RI64I64p v1 z2 p0.2,S2 RI64 v3 z4 p1]) ?_ ?_
    ·refine JR.start [0,0,3,7,0,31,63,0,0,384,896,2047,4095,8191,8191,32767,65535,8191,262143,524287,8191,2097151,4194303] 21 mixedOrders (by decide +kernel) ?_
     refine JR.open (by exact rfl) ?_
     refine JR.qt rfl (SubM.nil) (SubL.nil) (Y.move rfl) HistOk.z<|JR.qt rfl (SubM.nil) (SubL.nil) (Y.move rfl) HistOk.z ?_
     have h:=ck_some h;obtain⟨hc20,h⟩:=h
     refine JR.qt rfl (SubM.nil) (SubL.cons (List.mem_of_getElem? (i:=2) rfl) (SubL.nil)) (Y.indexN rfl rfl (Lent.fact 0 rfl) rfl rfl hc20) HistOk.z<|JR.qt rfl (SubM.nil) (SubL.cons (List.mem_of_getElem? (i:=2) rfl) (SubL.nil)) (Y.loadRow rfl (Lent.fact 0 rfl) rfl rfl hc20) HistOk.z<|JR.qt rfl (SubM.nil) (SubL.nil) (Y.move rfl) HistOk.z ?_
     have h:=ck_some h;obtain⟨hc21,h⟩:=h
     refine JR.qt rfl (SubM.nil) (SubL.cons (List.mem_of_getElem? (i:=2) rfl) (SubL.nil)) (Y.indexS rfl rfl (Lent.el (Lent.fact 0 rfl) hc20.1 hc20.2) rfl rfl hc21) HistOk.z<|JR.qt rfl (SubM.nil) (SubL.cons (List.mem_of_getElem? (i:=2) rfl) (SubL.nil)) (Y.loadS0 rfl (Lent.el (Lent.fact 0 rfl) hc20.1 hc20.2) rfl rfl rfl RI64c0 hc21) HistOk.z<|JR.qt rfl (SubM.nil) (SubL.nil) (Y.move rfl) HistOk.z<|JR.qt rfl (SubM.nil) (SubL.nil) (Y.move rfl) HistOk.z ?_
     have h:=ck_some h;obtain⟨hc22,h⟩:=h
     refine JR.qt rfl (SubM.cons 0 rfl (SubM.nil)) (SubL.nil) (Y.indexS rfl rfl (Lent.ar (Lent.res 0 rfl) FI64) rfl rfl hc22) HistOk.z<|JR.qt rfl (SubM.cons 0 rfl (SubM.nil)) (SubL.nil) (Y.loadS0 rfl (Lent.ar (Lent.res 0 rfl) FI64) rfl rfl rfl RI64c0 hc22) HistOk.z<|JR.qt rfl (SubM.nil) (SubL.nil) (Y.neq rfl rfl) HistOk.z<|JR.qt rfl (SubM.nil) (SubL.nil) (Y.move rfl) HistOk.z ?_
     refine JR.guardD (by exact rfl) (by exact rfl) (by exact rfl) (fun hp23=> ?_) (fun hp23=> ?_)
     ·have h:=ifP hp23 h
      refine JR.guardN rfl rfl rfl rfl<|JR.guardN rfl rfl rfl rfl<|JR.guardN rfl rfl rfl rfl<|JR.guardN rfl rfl rfl rfl<|JR.guardN rfl rfl rfl rfl<|JR.guardN rfl rfl rfl rfl<|JR.guardN rfl rfl rfl rfl<|JR.guardN rfl rfl rfl rfl<|JR.tailD 21 rfl rfl<|J.guardN rfl rfl rfl<|J.quiet (Y.pickT rfl rfl) rfl<|J.done<|J.thenN ?_
      exact J.meetI (true) (()) h SF (SubM.refl _) (LentAll.refl _ _)
     ·have h:=ifN hp23 h
      refine JR.qtG rfl (SubM.nil) (SubL.nil) (Y.move rfl) HistOk.z<|JR.qtG rfl (SubM.nil) (SubL.nil) (Y.move rfl) HistOk.z ?_
      have h:=ck_some h;obtain⟨hc24,h⟩:=h
      refine JR.qtG rfl (SubM.nil) (SubL.cons (List.mem_of_getElem? (i:=2) rfl) (SubL.nil)) (Y.indexN rfl rfl (Lent.fact 0 rfl) rfl rfl hc24) HistOk.z<|JR.qtG rfl (SubM.nil) (SubL.cons (List.mem_of_getElem? (i:=2) rfl) (SubL.nil)) (Y.loadRow rfl (Lent.fact 0 rfl) rfl rfl hc24) HistOk.z<|JR.qtG rfl (SubM.nil) (SubL.nil) (Y.move rfl) HistOk.z ?_
      have h:=ck_some h;obtain⟨hc25,h⟩:=h
      refine JR.qtG rfl (SubM.nil) (SubL.cons (List.mem_of_getElem? (i:=2) rfl) (SubL.nil)) (Y.indexS rfl rfl (Lent.el (Lent.fact 0 rfl) hc24.1 hc24.2) rfl rfl hc25) HistOk.z<|JR.qtG rfl (SubM.nil) (SubL.cons (List.mem_of_getElem? (i:=2) rfl) (SubL.nil)) (Y.loadS0 rfl (Lent.el (Lent.fact 0 rfl) hc24.1 hc24.2) rfl rfl rfl RI64c0 hc25) HistOk.z<|JR.qtG rfl (SubM.nil) (SubL.nil) (Y.move rfl) HistOk.z<|JR.tailD 21 rfl rfl<|J.guardY rfl (Y.neq rfl rfl) rfl<|J.quiet (Y.pickF rfl rfl) rfl<|J.done<|J.thenN ?_
      exact J.meetI (decide ((at' (at' p1 a9) p4)≠a14)) (()) h SF (SubM.refl _) (LentAll.refl _ _)
    ·clear h
     intro a17 b18 h
     unfold ref23_Tree_k3 at h
     refine J.cond (by exact rfl) (fun hp19=> ?_) (fun hp19=> ?_)
     ·have h:=ifP hp19 h
      refine J.seq<|J.region<|J.quiet (Y.assign rfl) rfl<|J.done<|J.thenN<|J.ret<|J.inR<|J.thenR<|J.thenR<|J.inR<|J.thenR ?_
      obtain rfl:=Option.some.inj h
      exact J.retG1 (()) rfl rfl (RV.tmp rfl) (SubM.nil) LentAll.nil
     ·have h:=ifBN hp19 h
      refine J.skip<|J.inN<|J.thenN<|J.region<|J.quiet (Y.move rfl) rfl<|J.quiet (Y.addW rfl rfl) rfl<|J.quiet (Y.assign rfl) rfl<|J.done<|J.thenN ?_
      exact J.againI (wI .i64 (a9+(1:Int))) (()) h SF (SubM.refl _) (LentAll.refl _ _)
  ·have h:=ifN hp12 h
   refine J.exit<|J.thenX<|J.thenX<|J.inX<|J.thenN ?_
   exact J.meetI (()) (()) h SF (SubM.nil) (LentAll.refl _ _)
 ·clear h
  intro a5 b6 h
  unfold ref23_Tree_k1 at h
  refine J.seq<|J.region<|J.quiet (Y.assign rfl) rfl<|J.done<|J.thenN<|J.ret ?_
  obtain rfl:=Option.some.inj h
  exact J.retG1 (()) rfl rfl (RV.tmp rfl) (SubM.refl _) LentAll.nil
end Go.Proofs.YtfbkplemadmbfaaGreatDoor
end
section
namespace Go.Proofs.YtfbkplemadmbfaaGreatDoor
open Go Go.Sx
def IsF (q:Nat->Prop) (n:Nat) (p:Int):Prop:=(∃i:Nat,i<n∧p=i∧q i∧∀k,k<i->¬q k)∨(p = -1∧∀k,k<n->¬q k)
theorem IsF.uniq {q:Nat->Prop} {n:Nat} {p p':Int} (h:IsF q n p) (h':IsF q n p'):p=p':=by
 rcases h with⟨i,h1,h2,h3,h4⟩|⟨h1,h2⟩<;>rcases h' with⟨j,k1,k2,k3,k4⟩|⟨k1,k2⟩
 ·have:i=j:=by
   rcases Nat.lt_trichotomy i j with q|q|q
   ·exact absurd h3 (k4 i q)
   ·exact q
   ·exact absurd k3 (h4 j q)
  omega
 ·exact absurd h3 (k2 i h1)
 ·exact absurd k3 (h2 j k1)
 ·omega
def Low (g:GR) (d:List Int) (v i:Nat):Prop:=at' d (lnk (row g v) i).1=D d v - 1
instance (g:GR) (d:List Int) (v i:Nat):Decidable (Low g d v i):=inferInstanceAs (Decidable (_=_))
theorem slicesEq (p q:List Int) (h:q.length<900):m_slices_Equal 1000 p q=some (decide (p=q)):=by
 unfold m_slices_Equal
 by_cases hl:p.length=q.length
 ·rw[if_neg (by omega)]
  have key:=iter_early (step:=slices_Equal_s1 p q) (K:=some true) (bad:=some false) p.length (fun k=>at' p (k:Int)=at' q (k:Int)) (fun k=>(k:Int)) (fun k ag hk hp=> ?_) (fun k ag hk hp=> ?_) (fun ag=> ?_) 1000 (by omega)
  ·by_cases e:p=q
   ·rw[decide_eq_true e];exact key.1 fun k hk=>by rw[e]
   ·rw[decide_eq_false e];exact key.2 fun h'=>e (list_ext hl fun v hv=>h' v hv)
  all_goals unfold slices_Equal_s1
  ·rw[if_pos (by omega),ckT (by omega),ckT (by omega),if_neg (by simpa using hp),wIncI (by omega)]
  ·rw[if_pos (by omega),ckT (by omega),ckT (by omega),if_pos hp]
  ·rw[if_neg (by omega)];rfl
 ·rw[if_pos (by omega),decide_eq_false fun e=>hl (by rw[e])]
section
variable {g:GR} (hV:VG g) {d:List Int} {s:Nat} (hD:Dist g s d)
 include hV hD
theorem to_lt {v i:Nat} (hv:v<g.2.length) (hi:i<(row g v).length):0<=(lnk (row g v) i).1∧(lnk (row g v) i).1<(d.length:Int):=by
 obtain⟨u,hu,e⟩:=hV.to hv hi
 have:=hD.len
 omega
theorem dec_ok {v:Nat} (hv:v<g.2.length):wI .i64 (D d v - 1)=D d v - 1:=by
 have h1:=hD.lo v hv
 have h2:=hD.hi v hv
 have:=hV.n24
 exact wr (by omega) (by omega)
theorem right1 {v i:Nat} (hv:v<g.2.length) (hi:i<(row g v).length):m_bfs_Right_1 1000 ((lnk (row g v) i).1,(lnk (row g v) i).2) d (v:Int)=some (decide (Low g d v i)):=by
 have h1:=to_lt hV hD hv hi
 have h2:=hD.len
 unfold m_bfs_Right_1
 rw[ckT h1,ckT (by omega)]
 have e:wI .i64 (at' d (v:Int) - 1)=D d v - 1:=dec_ok hV hD hv
 rw[e];rfl
theorem right_ok {v:Nat} (hv:v<g.2.length) (st:List Int):∃p,IsF (Low g d v) (row g v).length p∧m_bfs_Right 1000 g (v:Int) d st=some (decide (st=[D d v,p])):=by
 have h24:=hV.n24
 have hdeg:=(hV.node v hv).deg
 have hdl:=hD.len
 have k1:∀a:Int,bfs_Right_k1 1000 (v:Int) d st a=some (decide (st=[D d v,a])):=fun a=>by
  unfold bfs_Right_k1
  rw[ckT (by omega),slicesEq _ _ (by simp),bindS rfl]
 unfold m_bfs_Right
 rw[ckT (by omega)]
 have key:∀fuel k,k<=(row g v).length->(∀j,j<k->¬Low g d v j)->(row g v).length - k<fuel->∃p,IsF (Low g d v) (row g v).length p∧iter (bfs_Right_s1 1000 g (v:Int) d st) fuel (k:Int)=some (decide (st=[D d v,p])):=by
  intro fuel
  induction fuel with
  |zero=>intro k _ _ h;omega
  | succ fuel ih =>
   intro k hk hn hf
   show∃p,_∧bfs_Right_s1 1000 g (v:Int) d st (k:Int) (iter (bfs_Right_s1 1000 g (v:Int) d st) fuel)=_
   unfold bfs_Right_s1
   by_cases e:k<(row g v).length
   ·rw[if_pos (show(k:Int)<((row g v).length:Int) by omega),ckT (show 0<=(k:Int)∧(k:Int)<((row g v).length:Int) by omega)]
    have hr:=right1 hV hD hv e
    rw[show((at' (at' g.2 (v:Int)) (k:Int)).1,(at' (at' g.2 (v:Int)) (k:Int)).2)=((lnk (row g v) k).1,(lnk (row g v) k).2)from rfl,hr,bindS rfl]
    by_cases q:Low g d v k
    ·rw[decide_eq_true q,if_pos rfl]
     exact⟨k,.inl ⟨k,e,rfl,q,hn⟩,k1 _⟩
    ·rw[decide_eq_false q,if_neg (by simp),wIncI (by omega)]
     exact ih (k+1) (by omega) (fun j hj=>by
      by_cases h:j=k
      ·subst h;exact q
      ·exact hn j (by omega)) (by omega)
   ·rw[if_neg (show¬(k:Int)<((row g v).length:Int) by omega)]
    exact⟨-1,.inr ⟨rfl,fun j hj=>hn j (by omega)⟩,k1 _⟩
 exact key 1000 0 (by omega) (fun j h=>by omega) (by omega)
theorem tree_inner {v:Nat} (hv:v<g.2.length) {c:List (List Int)} {p3 p4:Int} (ag:Int->Option Bool):∃p,IsF (Low g d v) (row g v).length p∧iter (ref23_Tree_s2 g c p3 p4 d (v:Int) ag) 1000 (-1,wI .i64 (((row g v).length:Int) - 1))=ref23_Tree_k2 c p3 p4 d (v:Int) ag p:=by
 have h24:=hV.n24
 have hdeg:=(hV.node v hv).deg
 have hdl:=hD.len
 have key:=iter_inv (step:=ref23_Tree_s2 g c p3 p4 d (v:Int) ag) (K:=fun x=>ref23_Tree_k2 c p3 p4 d (v:Int) ag x.1) (row g v).length
  (fun k x=>x.2=((row g v).length:Int) - 1 - k∧((x.1 = -1∧∀i,(row g v).length<=i+k->i<(row g v).length->¬Low g d v i)∨(∃i:Nat,x.1=i∧(row g v).length<=i+k∧i<(row g v).length∧Low g d v i∧∀j,(row g v).length<=j+k->j<i->¬Low g d v j))) (fun k x ag' hk hx=> ?_) (fun x ag' hx=> ?_) 1000 (-1,wI .i64 (((row g v).length:Int) - 1)) ⟨by rw[wr (by omega) (by omega)];simp,.inl ⟨rfl,fun i h1 h2=>by omega⟩⟩ (by omega)
 ·obtain⟨x',⟨_,h⟩,e⟩:=key
  refine⟨x'.1,?_,e⟩
  rcases h with⟨h1,h2⟩|⟨i,h1,h2,h3,h4,h5⟩
  ·exact .inr ⟨h1,fun k hk=>h2 k (by omega) hk⟩
  ·exact .inl ⟨i,h3,h1,h4,fun k hk=>h5 k (by omega) hk⟩
 ·obtain⟨a,b⟩:=x
  obtain⟨h1,h2⟩:=hx
  dsimp only at h1 h2
  obtain⟨j,hj⟩:∃j:Nat,(row g v).length=j+k+1:=⟨(row g v).length - k - 1,by omega⟩
  have hb:b=(j:Int):=by omega
  subst hb
  have ht:=to_lt hV hD hv (i:=j) (by omega)
  have hw:wI .i64 (at' d (v:Int) - 1)=D d v - 1:=dec_ok hV hD hv
  unfold ref23_Tree_s2 ref23_Tree_k4
  dsimp only
  rw[if_pos (by omega),ckT (by omega),ckT (show 0<=(j:Int)∧(j:Int)<((row g v).length:Int) by omega),ckT ht,ckT (by omega),hw,wr (by omega) (by omega)]
  by_cases q:Low g d v j
  ·refine⟨((j:Int),(j:Int) - 1),⟨by dsimp only;omega,.inr ⟨j,rfl,by omega,by omega,q,fun i h3 h4=>by omega⟩⟩,?_⟩
   exact if_pos q
  ·refine⟨(a,(j:Int) - 1),⟨by dsimp only;omega,?_⟩,?_⟩
   ·rcases h2 with⟨h3,h4⟩|⟨i,h3,h4,h5,h6,h7⟩
    ·exact .inl ⟨h3,fun i h5 h6=>by
      by_cases e:i=j
      ·subst e;exact q
      ·exact h4 i (by omega) h6⟩
    ·exact .inr ⟨i,h3,by omega,h5,h6,fun i' h8 h9=>by
      by_cases e:i'=j
      ·subst e;exact q
      ·exact h7 i' (by omega) h9⟩
   ·exact if_neg q
 ·obtain⟨a,b⟩:=x
  obtain⟨h1,h2⟩:=hx
  dsimp only at h1
  unfold ref23_Tree_s2
  dsimp only
  rw[if_neg (by omega)]
def TreeAt (g:GR) (d:List Int) (v:Nat) (l:List Int):Prop:=at' l 0=D d v∧IsF (Low g d v) (row g v).length (at' l 1)
theorem tree_eq (hs:s<g.2.length) {c:List (List Int)} (hc:c.length=g.2.length) (hr:∀v,v<g.2.length->2<=(at' c (v:Int)).length):
  ((∀v,v<g.2.length->TreeAt g d v (at' c (v:Int)))->m_ref23_Tree 1000 g c (s:Int) 0 1=some true)∧(¬(∀v,v<g.2.length->TreeAt g d v (at' c (v:Int)))->m_ref23_Tree 1000 g c (s:Int) 0 1=some false):=by
 have h24:=hV.n24
 have hdl:=hD.len
 unfold m_ref23_Tree
 have e0:m_ref01_Distances 1000 (g.1,g.2) (s:Int)=some d:=refDistances_eq hV hs hD
 rw[e0,bindS rfl]
 refine iter_early (step:=ref23_Tree_s1 1000 g c 0 1 d) (K:=some true) (bad:=some false) g.2.length (fun v=>TreeAt g d v (at' c (v:Int))) (fun k=>(k:Int)) (fun k ag hk hp=> ?_) (fun k ag hk hp=> ?_) (fun ag=> ?_) 1000 (by omega)
 all_goals unfold ref23_Tree_s1
 ·obtain⟨p,hp1,hp2⟩:=tree_inner hV hD hk (c:=c) (p3:=0) (p4:=1) ag
  have hl:=hr k hk
  have hp2':iter (ref23_Tree_s2 g c 0 1 d (k:Int) ag) 1000 (-1,wI .i64 (((at' g.2 (k:Int)).length:Int) - 1))=ref23_Tree_k2 c 0 1 d (k:Int) ag p:=hp2
  rw[if_pos (by omega),ckT (by omega),hp2']
  unfold ref23_Tree_k2 ref23_Tree_k3
  have e1:at' (at' c (k:Int)) 1=p:=hp.2.uniq hp1
  have e2:at' (at' c (k:Int)) 0=at' d (k:Int):=hp.1
  rw[ckT (by omega),ckT (by omega),ckT (by omega),if_neg (by rw[e2];simp),ckT (by omega),ckT (by omega),if_neg (by rw[e1];simp),wIncI (by omega)]
 ·obtain⟨p,hp1,hp2⟩:=tree_inner hV hD hk (c:=c) (p3:=0) (p4:=1) ag
  have hl:=hr k hk
  have hp2':iter (ref23_Tree_s2 g c 0 1 d (k:Int) ag) 1000 (-1,wI .i64 (((at' g.2 (k:Int)).length:Int) - 1))=ref23_Tree_k2 c 0 1 d (k:Int) ag p:=hp2
  rw[if_pos (by omega),ckT (by omega),hp2']
  unfold ref23_Tree_k2 ref23_Tree_k3
  rw[ckT (by omega),ckT (by omega),ckT (by omega)]
  by_cases e2:at' (at' c (k:Int)) 0=at' d (k:Int)
  ·rw[if_neg (by rw[e2];simp),ckT (by omega),ckT (by omega),if_pos]
   rw[decide_eq_true_eq]
   exact fun e1=>hp ⟨e2,by rw[e1];exact hp1⟩
  ·rw[if_pos e2,if_pos rfl]
 ·rw[if_neg (by omega)];rfl
theorem bfsLegit_eq (h0:s=0) (hcn:Conn g) {c:List (List Int)} (hcf:CfOk g [(g.2.length:Int),-1] c):
  ((∀v,v<g.2.length->TreeAt g d v (at' c (v:Int)))->m_bfs_Legit 1000 g c=some true)∧(¬(∀v,v<g.2.length->TreeAt g d v (at' c (v:Int)))->m_bfs_Legit 1000 g c=some false):=by
 subst h0
 have h24:=hV.n24
 have h1:=hV.n1
 have hdl:=hD.len
 have hlen:=hV.len
 have eC:m_bfs_configuration 1000 (g.1,g.2) c=some true:=by
  unfold m_bfs_configuration m_bfs_Fit bfs_configuration_k1
  have e1:m_graph_Connected 1000 (g.1,g.2)=some true:=(connected_eq hV).1 hcn
  have e2:m_bfs_Configuration 1000 (g.1,g.2) c [(g.1.length:Int),-1]=some true:=by
   rw[hlen];exact(configuration_eq hV (by simp) c).1 hcf
  rw[e1,bindS rfl,bindS rfl,if_pos rfl,e2,bindS rfl]
 obtain⟨d',hd',hD'⟩:=distances_ok hV (s:=0) (by omega)
 have hdd:d'=d:=by
  have q1:=refDistances_eq hV (s:=0) (by omega) hD
  have q2:=refDistances_eq hV (s:=0) (by omega) hD'
  rw[q1]at q2;exact(Option.some.inj q2).symm
 subst hdd
 unfold m_bfs_Legit
 have e3:m_graph_Distances 1000 (g.1,g.2) 0=some d':=hd'
 rw[eC,bindS rfl,if_neg (by simp),e3,bindS rfl]
 have hrow:∀v,v<g.2.length->∀p,(at' c (v:Int)=[D d' v,p])↔(at' (at' c (v:Int)) 0=D d' v∧at' (at' c (v:Int)) 1=p):=fun v hv p=>by
  have hl:=(hcf.2 v hv).1
  simp only[List.length_cons,List.length_nil]at hl
  generalize at' c (v:Int)=l at hl ⊢
  match l,hl with
  | [a,b],_=>
   show[a,b]=[D d' v,p]↔a=D d' v∧b=p
   simp
 have hc:=hcf.1
 refine iter_early (step:=bfs_Legit_s1 1000 g c d') (K:=some true) (bad:=some false) g.2.length (fun v=>TreeAt g d' v (at' c (v:Int))) (fun k=>(k:Int)) (fun k ag hk hp=> ?_) (fun k ag hk hp=> ?_) (fun ag=> ?_) 1000 (by omega)
 all_goals unfold bfs_Legit_s1
 ·obtain⟨p,hp1,hp2⟩:=right_ok hV hD hk (at' c (k:Int))
  have hp2':m_bfs_Right 1000 (g.1,g.2) (k:Int) d' (at' c (k:Int))=_:=hp2
  rw[if_pos (by omega),ckT (by omega),hp2',bindS rfl,decide_eq_true ((hrow k hk p).2 ⟨hp.1,hp.2.uniq hp1⟩),if_neg (by simp),wIncI (by omega)]
 ·obtain⟨p,hp1,hp2⟩:=right_ok hV hD hk (at' c (k:Int))
  have hp2':m_bfs_Right 1000 (g.1,g.2) (k:Int) d' (at' c (k:Int))=_:=hp2
  rw[if_pos (by omega),ckT (by omega),hp2',bindS rfl,decide_eq_false fun e=>hp (by
   have:=(hrow k hk p).1 e
   exact⟨this.1,by rw[this.2];exact hp1⟩),if_pos (by simp)]
 ·rw[if_neg (by omega)];rfl
end
end Go.Proofs.YtfbkplemadmbfaaGreatDoor
end
section
namespace Go.Proofs.YtfbkplemadmbfaaGreatDoor
open Go.Sx
def law38_large_k1  (a3:Bool):Option (Bool):=
 some (a3)
def m_law38_large (fuel:Nat) (p0:List (Int)×(List (List (Int×Int)))) (p1:List (List (Int))):Option (Bool):=
 if(60:Int)<(List.length p0.2:Int)then(law38_large_k1  (true))else(if(60:Int)<(List.length p0.1:Int)then(law38_large_k1  (true))else(law38_large_k1  (decide ((60:Int)<(List.length p1:Int)))))
theorem body9:HasBody Tryz.prog 9:=Tryz.call9
theorem t_law38_large (fuel:Nat) {p0:List (Int)×(List (List (Int×Int)))} {p1:List (List (Int))} (v0:Value)  (v1:Value)  (z2:List (Value×List (Int×Int)))  (v3:Value)  (z4:List (Value×List (Int))) (r:Bool) (h:m_law38_large fuel p0 p1=some r):
  Meets Tryz.prog 9 #[Value.agg #[v0,v1],v3] [Sl RI64 v0 p0.1,S2 RI64I64p v1 z2 p0.2,S2 RI64 v3 z4 p1] (fun x:Unit=>Value.bool (r)) (fun x l=>l) (fun _ l=>l):=by
 refine Meets.of (vs:=[Value.agg #[v0,v1],v3]) Tryz.func9 rfl Tryz.ntmps9 rfl fun c=> ?_
 unfold m_law38_large at h
 refine J.seq<|J.region<|J.loud (Loud.box (cs:=[v0,v1]) rfl rfl) rfl fun b1=>J.quiet (Y.assign rfl) rfl<|J.done<|J.thenN<|J.seq<|J.midI (A:=Bool) (B:=Unit) (fun a3=>law38_large_k1  a3=some r) (fun a3 b4=>[(4,Value.bool (a3))]) (fun a3 b4=>[]) (fun a3 b4=>[Sl RI64 v0 p0.1,S2 RI64I64p v1 z2 p0.2,S2 RI64 v3 z4 p1]) ?_ ?_
 ·refine J.region<|J.quiet (Y.fieldB rfl rfl rfl rfl rfl) rfl<|J.quiet (Y.loadB 0 rfl rfl rfl rfl rfl) rfl<|J.quiet (Y.lenN rfl (Lent.fact 1 rfl) rfl) rfl<|J.quiet (Y.gtr rfl rfl) rfl<|J.quiet (Y.move rfl) rfl ?_
  refine J.guardD (by exact rfl) (by exact rfl) (fun hp5=> ?_) (fun hp5=> ?_)
  ·have h:=ifP hp5 h
   refine J.guardN rfl rfl rfl<|J.guardN rfl rfl rfl<|J.guardN rfl rfl rfl<|J.guardN rfl rfl rfl<|J.quiet (Y.pickT rfl rfl) rfl<|J.quiet (Y.move rfl) rfl<|J.guardN rfl rfl rfl<|J.guardN rfl rfl rfl<|J.guardN rfl rfl rfl<|J.quiet (Y.pickT rfl rfl) rfl<|J.quiet (Y.assign rfl) rfl<|J.done<|J.thenN ?_
   exact J.meetI (true) (()) h SF (SubM.nil) (LentAll.refl _ _)
  ·have h:=ifN hp5 h
   refine J.guardY rfl (Y.fieldB rfl rfl rfl rfl rfl) rfl<|J.guardY rfl (Y.loadB 0 rfl rfl rfl rfl rfl) rfl<|J.guardY rfl (Y.lenS rfl (Lent.fact 0 rfl) rfl) rfl<|J.guardY rfl (Y.gtr rfl rfl) rfl<|J.quiet (Y.pickF rfl rfl) rfl<|J.quiet (Y.move rfl) rfl ?_
   refine J.guardD (by exact rfl) (by exact rfl) (fun hp6=> ?_) (fun hp6=> ?_)
   ·have h:=ifP hp6 h
    refine J.guardN rfl rfl rfl<|J.guardN rfl rfl rfl<|J.guardN rfl rfl rfl<|J.quiet (Y.pickT rfl rfl) rfl<|J.quiet (Y.assign rfl) rfl<|J.done<|J.thenN ?_
    exact J.meetI (true) (()) h SF (SubM.nil) (LentAll.refl _ _)
   ·have h:=ifN hp6 h
    refine J.guardY rfl (Y.move rfl) rfl<|J.guardY rfl (Y.lenN rfl (Lent.fact 2 rfl) rfl) rfl<|J.guardY rfl (Y.gtr rfl rfl) rfl<|J.quiet (Y.pickF rfl rfl) rfl<|J.quiet (Y.assign rfl) rfl<|J.done<|J.thenN ?_
    exact J.meetI (decide ((60:Int)<(List.length p1:Int))) (()) h SF (SubM.nil) (LentAll.refl _ _)
 ·clear h
  intro a3 b4 h
  unfold law38_large_k1 at h
  refine J.ret ?_
  obtain rfl:=Option.some.inj h
  exact J.retG1 (()) rfl rfl (RV.tmp rfl) (SubM.refl _) LentAll.nil
end Go.Proofs.YtfbkplemadmbfaaGreatDoor
end
section
namespace Go.Gx
open Go Go.Sx
noncomputable section
inductive GV where
 |int (k:IntKind) (n:Int)
 |bool (b:Bool)
 |str (n len:Nat)
 |ptr (h off:Nat)
 |pnil
 |sl (h off len sz:Nat)
 |snil
 |map (h:Nat)
 |fn (f:FuncId) (first caps:List GV)
 |fnil
 |inil
 |agg (cs:List GV)
 |tup (vs:List GV)
 |un
 |bad
inductive GO where
 |cells (cs:List GV)
 |mp (es:List (GV×GV))
inductive Tr (α:Type) where
 |lf
 |nd (a:Option α) (l r:Tr α)
def ob {α β:Type} (o:Option α) (f:α->Option β):Option β:=Option.casesOn (motive:=fun _=>Option β) o none f
def Tr.get {α:Type} (t:Tr α):Nat->Option α:=Tr.rec (motive:=fun _=>Nat->Option α) (fun _=>none) (fun a _ _ gl gr n=>Bool.casesOn (motive:=fun _=>Option α) (Nat.beq n 0) (Bool.casesOn (motive:=fun _=>Option α) (Nat.beq (Nat.mod n 2) 1) (gr (Nat.sub (Nat.div n 2) 1)) (gl (Nat.div n 2))) a) t
def Tr.setN {α:Type} (x:Option α) (f:Nat):Nat->Tr α:=Nat.rec (motive:=fun _=>Nat->Tr α) (fun _=> .lf) (fun _ ih n=>bif Nat.beq n 0 then .nd x .lf .lf else bif Nat.beq (Nat.mod n 2) 1 then .nd none (ih (Nat.div n 2)) .lf else .nd none .lf (ih (Nat.sub (Nat.div n 2) 1))) f
def Tr.set {α:Type} (x:Option α) (t:Tr α):Nat->Tr α:=Tr.rec (motive:=fun _=>Nat->Tr α) (fun n=>Tr.setN x (Nat.succ n) n) (fun a l r sl sr n=>Bool.casesOn (motive:=fun _=>Tr α) (Nat.beq n 0) (Bool.casesOn (motive:=fun _=>Tr α) (Nat.beq (Nat.mod n 2) 1) (.nd a l (sr (Nat.sub (Nat.div n 2) 1))) (.nd a (sl (Nat.div n 2)) r)) (.nd x l r)) t
def Tr.setNK {α R:Type} (x:Option α) (f:Nat):Nat->(Tr α->R)->R:=Nat.rec (motive:=fun _=>Nat->(Tr α->R)->R) (fun _ k=>k .lf) (fun _ ih n k=>Bool.casesOn (motive:=fun _=>R) (Nat.beq n 0) (Bool.casesOn (motive:=fun _=>R) (Nat.beq (Nat.mod n 2) 1) (ih (Nat.sub (Nat.div n 2) 1) fun t=>k (.nd none .lf t)) (ih (Nat.div n 2) fun t=>k (.nd none t .lf))) (k (.nd x .lf .lf))) f
def Tr.setK {α R:Type} (x:Option α) (t:Tr α):Nat->(Tr α->R)->R:=Tr.rec (motive:=fun _=>Nat->(Tr α->R)->R) (fun n k=>Tr.setNK x (Nat.succ n) n k) (fun a l r sl sr n k=>Bool.casesOn (motive:=fun _=>R) (Nat.beq n 0) (Bool.casesOn (motive:=fun _=>R) (Nat.beq (Nat.mod n 2) 1) (sr (Nat.sub (Nat.div n 2) 1) fun t=>k (.nd a l t)) (sl (Nat.div n 2) fun t=>k (.nd a t r))) (k (.nd x l r))) t
def sn {α:Type} (n:Nat) (f:Nat->α):α:=Nat.rec (motive:=fun _=>α) (f 0) (fun m _=>f (Nat.succ m)) n
def fi {α:Type} (z:Int) (f:Int->α):α:=Int.casesOn (motive:=fun _=>α) z (fun a=>sn a fun a=>f (.ofNat a)) (fun a=>sn a fun a=>f (.negSucc a))
def fb (b:Bool):Option GV:=Bool.casesOn (motive:=fun _=>Option GV) b (some (.bool false)) (some (.bool true))
structure GH where
 n:Nat
 t:Tr (Nat×GO)
def GH.get (H:GH) (h:Nat):Option GO:=ob (H.t.get h) fun p=>some p.2
def GH.ver (H:GH) (h:Nat):Option Nat:=ob (H.t.get h) fun p=>some p.1
def GH.set (H:GH) (h:Nat) (o:GO):GH:=⟨Nat.succ H.n,H.t.set (some (H.n,o)) h⟩
def GH.del (H:GH) (h:Nat):GH:=⟨H.n,H.t.set none h⟩
def GH.newK {α:Type} (H:GH) (o:GO) (f:Nat->GH->α):α:=sn H.n fun n=>H.t.setK (some (n,o)) n fun t=>sn (Nat.succ n) fun m=>f n ⟨m,t⟩
def GH.setK {α:Type} (H:GH) (h:Nat) (o:GO) (f:GH->α):α:=sn H.n fun n=>H.t.setK (some (n,o)) h fun t=>sn (Nat.succ n) fun m=>f ⟨m,t⟩
def GH.delK {α:Type} (H:GH) (h:Nat) (f:GH->α):α:=H.t.setK none h fun t=>f ⟨H.n,t⟩
def GO.asC (o:GO):Option (List GV):=GO.casesOn (motive:=fun _=>Option (List GV)) o (fun cs=>some cs) (fun _=>none)
def GO.asM (o:GO):Option (List (GV×GV)):=GO.casesOn (motive:=fun _=>Option (List (GV×GV))) o (fun _=>none) (fun es=>some es)
def GH.cells (H:GH) (h:Nat):Option (List GV):=ob (H.get h) GO.asC
abbrev GF:=List (Nat×GV)
def glk (σ:GF) (t:Nat):Option GV:=List.rec (motive:=fun _=>Option GV) none (fun p _ ih=>Bool.casesOn (motive:=fun _=>Option GV) (Nat.beq t p.1) ih (some p.2)) σ
def ltI (a b:Int):Bool:=Int.casesOn (motive:=fun _=>Bool) a (fun a=>Int.casesOn (motive:=fun _=>Bool) b (fun b=>Nat.blt a b) (fun _=>false)) (fun a=>Int.casesOn (motive:=fun _=>Bool) b (fun _=>true) (fun b=>Nat.blt b a))
def eqI (a b:Int):Bool:=Int.casesOn (motive:=fun _=>Bool) a (fun a=>Int.casesOn (motive:=fun _=>Bool) b (fun b=>Nat.beq a b) (fun _=>false)) (fun a=>Int.casesOn (motive:=fun _=>Bool) b (fun _=>false) (fun b=>Nat.beq a b))
def asN (a:Int):Option Nat:=Int.casesOn (motive:=fun _=>Option Nat) a (fun a=>some a) (fun _=>none)
def eqS (a b:Nat×Nat):Bool:=bif Nat.beq a.2 b.2 then Nat.beq a.1 b.1 else false
def eqB (a b:Bool):Bool:=Bool.casesOn (motive:=fun _=>Bool) a (Bool.casesOn (motive:=fun _=>Bool) b true false) b
def nth {α:Type} (l:List α):Nat->Option α:=List.rec (motive:=fun _=>Nat->Option α) (fun _=>none) (fun x _ ih n=>Nat.casesOn (motive:=fun _=>Option α) n (some x) ih) l
def lset {α:Type} (v:α) (l:List α):Nat->Option (List α):=List.rec (motive:=fun _=>Nat->Option (List α)) (fun _=>none) (fun x r ih n=>Nat.casesOn (motive:=fun _=>Option (List α)) n (some (v::r)) (fun n=>ob (ih n) fun r'=>some (x::r'))) l
def gput (vs:List GV):Nat->List GV->Option (List GV):=List.rec (motive:=fun _=>Nat->List GV->Option (List GV)) (fun _ cs=>some cs) (fun v _ ih o cs=>ob (lset v cs o) fun cs'=>sn (Nat.succ o) fun o'=>ih o' cs') vs
def tk {α:Type} (l:List α):Nat->Option (List α):=List.rec (motive:=fun _=>Nat->Option (List α)) (fun n=>Nat.casesOn (motive:=fun _=>Option (List α)) n (some []) (fun _=>none)) (fun x _ ih n=>Nat.casesOn (motive:=fun _=>Option (List α)) n (some []) (fun n=>ob (ih n) fun r=>some (x::r))) l
def dp {α:Type} (l:List α):Nat->Option (List α):=List.rec (motive:=fun _=>Nat->Option (List α)) (fun n=>Nat.casesOn (motive:=fun _=>Option (List α)) n (some []) (fun _=>none)) (fun x r ih n=>Nat.casesOn (motive:=fun _=>Option (List α)) n (some (x::r)) ih) l
def slc {α:Type} (l:List α) (o n:Nat):Option (List α):=ob (dp l o) fun r=>tk r n
def encB (l:List UInt8):Nat:=List.rec (motive:=fun _=>Nat) 0 (fun b _ ih=>Nat.add b.toNat (Nat.mul 256 ih)) l
def bytesOfV (s:ByteArray):List UInt8:=s.data.toList
def GV.asI (v:GV):Option (IntKind×Int):=GV.casesOn (motive_1:=fun _=>Option (IntKind×Int)) v (fun a0 a1=>some (a0,a1)) (fun _=>none) (fun _ _=>none) (fun _ _=>none) none (fun _ _ _ _=>none) none (fun _=>none) (fun _ _ _=>none) none none (fun _=>none) (fun _=>none) none none
def GV.asB (v:GV):Option (Bool):=GV.casesOn (motive_1:=fun _=>Option (Bool)) v (fun _ _=>none) (fun a0=>some a0) (fun _ _=>none) (fun _ _=>none) none (fun _ _ _ _=>none) none (fun _=>none) (fun _ _ _=>none) none none (fun _=>none) (fun _=>none) none none
def GV.asP (v:GV):Option (Nat×Nat):=GV.casesOn (motive_1:=fun _=>Option (Nat×Nat)) v (fun _ _=>none) (fun _=>none) (fun _ _=>none) (fun a0 a1=>some (a0,a1)) none (fun _ _ _ _=>none) none (fun _=>none) (fun _ _ _=>none) none none (fun _=>none) (fun _=>none) none none
def GV.asS (v:GV):Option (Nat×Nat×Nat×Nat):=GV.casesOn (motive_1:=fun _=>Option (Nat×Nat×Nat×Nat)) v (fun _ _=>none) (fun _=>none) (fun _ _=>none) (fun _ _=>none) none (fun a0 a1 a2 a3=>some (a0,a1,a2,a3)) none (fun _=>none) (fun _ _ _=>none) none none (fun _=>none) (fun _=>none) none none
def GV.asF (v:GV):Option (Nat×List GV×List GV):=GV.casesOn (motive_1:=fun _=>Option (Nat×List GV×List GV)) v (fun _ _=>none) (fun _=>none) (fun _ _=>none) (fun _ _=>none) none (fun _ _ _ _=>none) none (fun _=>none) (fun a0 a1 a2=>some (a0,a1,a2)) none none (fun _=>none) (fun _=>none) none none
def GV.asT (v:GV):Option (List GV):=GV.casesOn (motive_1:=fun _=>Option (List GV)) v (fun _ _=>none) (fun _=>none) (fun _ _=>none) (fun _ _=>none) none (fun _ _ _ _=>none) none (fun _=>none) (fun _ _ _=>none) none none (fun _=>none) (fun a0=>some a0) none none
def GV.asStr (v:GV):Option (Nat×Nat):=GV.casesOn (motive_1:=fun _=>Option (Nat×Nat)) v (fun _ _=>none) (fun _=>none) (fun a0 a1=>some (a0,a1)) (fun _ _=>none) none (fun _ _ _ _=>none) none (fun _=>none) (fun _ _ _=>none) none none (fun _=>none) (fun _=>none) none none
def GV.asM (v:GV):Option (Nat):=GV.casesOn (motive_1:=fun _=>Option (Nat)) v (fun _ _=>none) (fun _=>none) (fun _ _=>none) (fun _ _=>none) none (fun _ _ _ _=>none) none (fun a0=>some a0) (fun _ _ _=>none) none none (fun _=>none) (fun _=>none) none none
def GV.asA (v:GV):Option (List GV):=GV.casesOn (motive_1:=fun _=>Option (List GV)) v (fun _ _=>none) (fun _=>none) (fun _ _=>none) (fun _ _=>none) none (fun _ _ _ _=>none) none (fun _=>none) (fun _ _ _=>none) none none (fun a0=>some a0) (fun _=>none) none none
def GV.cells (v:GV):Option (List GV):=GV.casesOn (motive_1:=fun _=>Option (List GV)) v (fun a0 a1=>some [GV.int a0 a1]) (fun a0=>some [GV.bool a0]) (fun a0 a1=>some [GV.str a0 a1]) (fun a0 a1=>some [GV.ptr a0 a1]) (some [GV.pnil]) (fun a0 a1 a2 a3=>some [GV.sl a0 a1 a2 a3]) (some [GV.snil]) (fun a0=>some [GV.map a0]) (fun a0 a1 a2=>some [GV.fn a0 a1 a2]) (some [GV.fnil]) (some [GV.inil]) (fun a0=>some a0) (fun a0=>none) (none) (none)
def GV.isSnil (v:GV):Bool:=GV.casesOn (motive_1:=fun _=>Bool) v (fun _ _=>false) (fun _=>false) (fun _ _=>false) (fun _ _=>false) (false) (fun _ _ _ _=>false) (true) (fun _=>false) (fun _ _ _=>false) (false) (false) (fun _=>false) (fun _=>false) (false) (false)
def GV.isInil (v:GV):Bool:=GV.casesOn (motive_1:=fun _=>Bool) v (fun _ _=>false) (fun _=>false) (fun _ _=>false) (fun _ _=>false) (false) (fun _ _ _ _=>false) (false) (fun _=>false) (fun _ _ _=>false) (false) (true) (fun _=>false) (fun _=>false) (false) (false)
def GV.nilck (v:GV):Option GV:=GV.casesOn (motive_1:=fun _=>Option GV) v (fun a0 a1=>none) (fun a0=>none) (fun a0 a1=>none) (fun a0 a1=>some (GV.ptr a0 a1)) (none) (fun a0 a1 a2 a3=>none) (none) (fun a0=>none) (fun a0 a1 a2=>some (GV.fn a0 a1 a2)) (none) (none) (fun a0=>none) (fun a0=>none) (none) (none)
def tdE (d:TypeDesc):Bool:=TypeDesc.casesOn (motive:=fun _=>Bool) d false false (fun _=>false) (fun _=>false) (fun _=>false) false false (fun _=>false) (fun _=>false) (fun _ _=>false) (fun _ _=>false) (fun _ _=>false) (fun _=>false) (fun _ _ _=>false) (fun a0=>Nat.beq (Array.size a0) 0) (fun _=>false) (fun _ _=>false)
def tdS (d:TypeDesc):Option TypeId:=TypeDesc.casesOn (motive:=fun _=>Option TypeId) d none none (fun _=>none) (fun _=>none) (fun _=>none) none none (fun _=>none) (fun a0=>some a0) (fun _ _=>none) (fun _ _=>none) (fun _ _=>none) (fun _=>none) (fun _ _ _=>none) (fun _=>none) (fun _=>none) (fun _ _=>none)
def tdA (d:TypeDesc):Option (Nat×TypeId):=TypeDesc.casesOn (motive:=fun _=>Option (Nat×TypeId)) d none none (fun _=>none) (fun _=>none) (fun _=>none) none none (fun _=>none) (fun _=>none) (fun a0 a1=>some (a0,a1)) (fun _ _=>none) (fun _ _=>none) (fun _=>none) (fun _ _ _=>none) (fun _=>none) (fun _=>none) (fun _ _=>none)
def tdF (d:TypeDesc):Option (Array Field):=TypeDesc.casesOn (motive:=fun _=>Option (Array Field)) d none none (fun _=>none) (fun _=>none) (fun _=>none) none none (fun _=>none) (fun _=>none) (fun _ _=>none) (fun _ _=>none) (fun _ _=>none) (fun a0=>some a0) (fun _ _ _=>none) (fun _=>none) (fun _=>none) (fun _ _=>none)
def tdI (d:TypeDesc):Option IntKind:=TypeDesc.casesOn (motive:=fun _=>Option IntKind) d none none (fun a0=>some a0) (fun _=>none) (fun _=>none) none none (fun _=>none) (fun _=>none) (fun _ _=>none) (fun _ _=>none) (fun _ _=>none) (fun _=>none) (fun _ _ _=>none) (fun _=>none) (fun _=>none) (fun _ _=>none)
def tdStr (d:TypeDesc):Bool:=TypeDesc.casesOn (motive:=fun _=>Bool) d false false (fun _=>false) (fun _=>false) (fun _=>false) (true) false (fun _=>false) (fun _=>false) (fun _ _=>false) (fun _ _=>false) (fun _ _=>false) (fun _=>false) (fun _ _ _=>false) (fun _=>false) (fun _=>false) (fun _ _=>false)
def tdB (d:TypeDesc):Bool:=TypeDesc.casesOn (motive:=fun _=>Bool) d false (true) (fun _=>false) (fun _=>false) (fun _=>false) false false (fun _=>false) (fun _=>false) (fun _ _=>false) (fun _ _=>false) (fun _ _=>false) (fun _=>false) (fun _ _ _=>false) (fun _=>false) (fun _=>false) (fun _ _=>false)
def tdM (d:TypeDesc):Option (TypeId×TypeId):=TypeDesc.casesOn (motive:=fun _=>Option (TypeId×TypeId)) d none none (fun _=>none) (fun _=>none) (fun _=>none) none none (fun _=>none) (fun _=>none) (fun _ _=>none) (fun a0 a1=>some (a0,a1)) (fun _ _=>none) (fun _=>none) (fun _ _ _=>none) (fun _=>none) (fun _=>none) (fun _ _=>none)
def ofV1:Value->Option GV
 | .int k n=>some (.int k n)
 | .bool b=>some (.bool b)
 | .slice none 0 0=>some .snil
 | .pointer none=>some .pnil
 | .nilFunc=>some .fnil
 | .nilIface=>some .inil
 | .string s=>sn (encB (bytesOfV s)) fun n=>sn (bytesOfV s).length fun l=>some (.str n l)
 |_=>none
def ofVs:List Value->Option (List GV)
 | []=>some []
 |v::vs=>ob (ofV1 v) fun x=>ob (ofVs vs) fun xs=>some (x::xs)
def ofV:Value->Option GV
 | .agg cs=>ob (ofVs cs.toList) fun xs=>some (.agg xs)
 |v=>ofV1 v
def semV (s:Sem Value):Option GV:=match s with
 | .pure v=>ofV1 v
 |_=>none
def i64in (z:Int):Bool:=Int.casesOn (motive:=fun _=>Bool) z (fun a=>Nat.blt a 9223372036854775808) (fun a=>Nat.blt a 9223372036854775808)
def isI64 (k:IntKind):Bool:=IntKind.casesOn (motive:=fun _=>Bool) k false false false true false false false false
def gw (k:IntKind) (z:Int):Option GV:=fi z fun z=>bif isI64 k then(bif i64in z then some (.int k z)else none)else fi (k.wrap z) fun z=>some (.int k z)
def eqK (a b:IntKind):Bool:=decide (a=b)
def binI (op:BinOp) (k:IntKind) (a b:Int):Option GV:=BinOp.casesOn (motive:=fun _=>Option GV) op (gw k (a+b)) (gw k (a - b)) (semV (binOp .mul 0 (.int k a) (.int k b))) (semV (binOp .quo 0 (.int k a) (.int k b))) (semV (binOp .rem 0 (.int k a) (.int k b))) (semV (binOp .and 0 (.int k a) (.int k b))) (semV (binOp .or 0 (.int k a) (.int k b))) (semV (binOp .xor 0 (.int k a) (.int k b))) (semV (binOp .shl 0 (.int k a) (.int k b))) (semV (binOp .shr 0 (.int k a) (.int k b))) (semV (binOp .andNot 0 (.int k a) (.int k b))) (fb (eqI a b)) (fb (!eqI a b)) (fb (ltI a b)) (fb (!ltI b a)) (fb (ltI b a)) (fb (!ltI a b))
def isShift (op:BinOp):Bool:=BinOp.casesOn (motive:=fun _=>Bool) op false false false false false false false false true true false false false false false false false
def binS (op:BinOp) (a b:Nat×Nat):Option GV:=BinOp.casesOn (motive:=fun _=>Option GV) op none none none none none none none none none none none (fb (eqS a b)) (fb (!eqS a b)) none none none none
def binN (op:BinOp):Option GV:=BinOp.casesOn (motive:=fun _=>Option GV) op none none none none none none none none none none none (some (.bool true)) (some (.bool false)) none none none none
def binB (op:BinOp) (a b:Bool):Option GV:=BinOp.casesOn (motive:=fun _=>Option GV) op none none none none none none none none none none none (fb (eqB a b)) (fb (!eqB a b)) none none none none
def gev (σ:GF) (o:Operand):Option GV:=Operand.casesOn (motive:=fun _=>Option GV) o (fun t=>glk σ t) ofV (fun _=>none) (fun f=>some (.fn f [] []))
def gevs (σ:GF) (l:List Operand):Option (List GV):=List.rec (motive:=fun _=>Option (List GV)) (some []) (fun x _ ih=>ob (gev σ x) fun v=>ob ih fun vs=>some (v::vs)) l
def gparts (σ:GF) (l:List (Nat×Operand)):Option (List (Nat×GV)):=List.rec (motive:=fun _=>Option (List (Nat×GV))) (some []) (fun p _ ih=>ob (gev σ p.2) fun v=>ob ih fun vs=>some ((p.1,v)::vs)) l
abbrev TB:=Nat->Option Ty
def elemOf (tb:TB) (T:TypeId):Option (TypeId×Ty):=ob (tb T) fun t=>ob (tdS t.desc) fun e=>ob (tb e) fun te=>some (e,te)
def sizesOf (tb:TB) (l:List Field):Option (List (Nat×Nat)):=List.rec (motive:=fun _=>Option (List (Nat×Nat))) (some []) (fun f _ ih=>ob (tb f.type) fun t=>ob ih fun r=>some ((f.offset,t.size)::r)) l
def fieldsOf (tb:TB) (T:TypeId):Option (List Field):=ob (tb T) fun t=>ob (tdF t.desc) fun fs=>some fs.toList
def placesOf (tb:TB) (T:TypeId):Option (List (Nat×Nat)):=ob (fieldsOf tb T) fun fs=>sizesOf tb fs

abbrev OR:=Option (GV×GH)
def vPick (c a b:GV):Option GV:=ob c.asB fun q=>Bool.casesOn (motive:=fun _=>Option GV) q (some b) (some a)
def vBin (tb:TB) (op:BinOp) (T:TypeId) (v u:GV):Option GV:=
 Option.casesOn (motive:=fun _=>Option GV) v.asI
  (Option.casesOn (motive:=fun _=>Option GV) v.asStr (Option.casesOn (motive:=fun _=>Option GV) v.asB (bif v.isInil then(bif u.isInil then ob (tb T) fun t=>bif tdE t.desc then binN op else none else none)else none) fun a=>ob u.asB fun b=>ob (tb T) fun t=>bif tdB t.desc then binB op a b else none) fun a=>ob u.asStr fun b=>binS op a b)
  fun a=>ob u.asI fun b=>bif isShift op then semV (binOp op 0 (.int a.1 a.2) (.int b.1 b.2))else bif eqK a.1 b.1 then binI op a.1 a.2 b.2 else none
def vUn (op:UnOp) (v:GV):Option GV:=UnOp.casesOn (motive:=fun _=>Option GV) op (ob v.asI fun a=>gw a.1 (0 - a.2)) none (ob v.asB fun b=>fb (!b)) none
def vConv (tb:TB) (S D:TypeId) (v:GV):Option GV:=ob v.asI fun a=>ob (tb S) fun s=>ob (tdI s.desc) fun _=>ob (tb D) fun t=>ob (tdI t.desc) fun k=>fi (k.wrap a.2) fun z=>some (.int k z)
def vB (o:Option GV) (d:Nat):Option Nat:=Option.casesOn (motive:=fun _=>Option Nat) o (some d) fun v=>ob v.asI fun a=>asN a.2
def vSliceS (s:Nat×Nat) (l h:Nat):Option GV:=bif Nat.ble l h then(bif Nat.ble h s.2 then sn (Nat.mod (Nat.shiftRight s.1 (Nat.mul 8 l)) (Nat.pow 2 (Nat.mul 8 (Nat.sub h l)))) fun n=>sn (Nat.sub h l) fun k=>some (.str n k)else none)else none
def vSliceL (s:Nat×Nat×Nat×Nat) (sz l h:Nat):Option GV:=bif Nat.beq sz s.2.2.2 then(bif Nat.ble l h then(bif Nat.ble h s.2.2.1 then sn (Nat.add s.2.1 (Nat.mul l sz)) fun o=>sn (Nat.sub h l) fun k=>some (.sl s.1 o k sz)else none)else none)else none
def vSliceP (p:Nat×Nat) (n sz l h:Nat):Option GV:=bif Nat.ble l h then(bif Nat.ble h n then(bif Nat.beq sz 0 then none else sn (Nat.add p.2 (Nat.mul l sz)) fun o=>sn (Nat.sub h l) fun k=>some (.sl p.1 o k sz))else none)else none
def vSlice (tb:TB) (T:TypeId) (v:GV) (lo hi:Option GV) (H:GH):Option GV:=ob (vB lo 0) fun l=>ob (tb T) fun t=>
 Option.casesOn (motive:=fun _=>Option GV) v.asStr
  (Option.casesOn (motive:=fun _=>Option GV) v.asS
   (Bool.casesOn (motive:=fun _=>Option GV) v.isSnil (ob v.asP fun p=>ob (tdA t.desc) fun e=>ob (tb e.2) fun te=>ob (vB hi e.1) fun h=>ob (H.cells p.1) fun cs=>bif Nat.ble (Nat.add p.2 (Nat.mul e.1 te.size)) cs.length then vSliceP p e.1 te.size l h else none) (ob (tdS t.desc) fun e=>ob (tb e) fun te=>ob (vB hi 0) fun h=>bif Nat.beq l 0 then(bif Nat.beq h 0 then some .snil else none)else none))
   fun s=>ob (tdS t.desc) fun e=>ob (tb e) fun te=>ob (vB hi s.2.2.1) fun h=>vSliceL s te.size l h)
  fun s=>ob (vB hi s.2) fun h=>bif tdStr t.desc then vSliceS s l h else none
def vField (tb:TB) (T:TypeId) (f:Nat) (v:GV):Option GV:=ob v.asP fun p=>ob (fieldsOf tb T) fun fs=>ob (nth fs f) fun q=>ob (tb q.type) fun tq=>bif Nat.beq tq.size 0 then none else sn (Nat.add p.2 q.offset) fun o=>some (.ptr p.1 o)
def ofCells (t:Ty) (cs:List GV) (o:Nat):Option GV:=bif aggD t.desc then ob (slc cs o t.size) fun r=>some (.agg r)else nth cs o
def vPart (tb:TB) (T:TypeId) (f:Nat) (v:GV):Option GV:=ob v.asA fun cs=>ob (fieldsOf tb T) fun fs=>ob (nth fs f) fun q=>ob (tb q.type) fun tq=>ofCells tq cs q.offset
def vIndexS (tb:TB) (T:TypeId) (s:Nat×Nat×Nat×Nat) (i:Nat):Option GV:=ob (elemOf tb T) fun te=>bif Nat.blt i s.2.2.1 then sn (Nat.add s.2.1 (Nat.mul i te.2.size)) fun o=>some (.ptr s.1 o)else none
def vIndexP (tb:TB) (T:TypeId) (p:Nat×Nat) (i:Nat):Option GV:=ob (tb T) fun t=>ob (tdA t.desc) fun e=>ob (tb e.2) fun te=>bif Nat.blt i e.1 then sn (Nat.add p.2 (Nat.mul i te.size)) fun o=>some (.ptr p.1 o)else none
def vIndex (tb:TB) (T:TypeId) (v w:GV):Option GV:=ob w.asI fun n=>ob (asN n.2) fun n=>Option.casesOn (motive:=fun _=>Option GV) v.asP (ob v.asS fun s=>vIndexS tb T s n) fun p=>vIndexP tb T p n
def vAt (tb:TB) (T:TypeId) (v w:GV):Option GV:=ob v.asStr fun s=>ob w.asI fun n=>ob (asN n.2) fun n=>ob (tb T) fun t=>bif tdStr t.desc then(bif Nat.blt n s.2 then sn (Nat.mod (Nat.shiftRight s.1 (Nat.mul 8 n)) 256) fun b=>some (.int .u8 (.ofNat b))else none)else none
def vExt (i:Nat) (v:GV):Option GV:=ob v.asT fun vs=>nth vs i
def gfillF (ps:List (Nat×Nat)) (l:List (Nat×GV)):List GV->Option (List GV):=List.rec (motive:=fun _=>List GV->Option (List GV)) (fun cs=>some cs) (fun p _ ih cs=>ob (nth ps p.1) fun q=>ob p.2.cells fun cc=>bif Nat.beq cc.length q.2 then(bif Nat.beq q.2 0 then none else ob (gput cc q.1 cs) ih)else none) l
def gfillA (sz:Nat) (l:List (Nat×GV)):List GV->Option (List GV):=List.rec (motive:=fun _=>List GV->Option (List GV)) (fun cs=>some cs) (fun p _ ih cs=>ob p.2.cells fun cc=>bif Nat.beq cc.length sz then(bif Nat.beq sz 0 then none else ob (gput cc (Nat.mul p.1 sz) cs) ih)else none) l
def zeroOf (tb:TB) (T:TypeId):Option (List GV):=ob (tb T) fun t=>ob (ofV t.zero) fun z=>z.cells
def vBuild (tb:TB) (T:TypeId) (vs:List (Nat×GV)):Option GV:=ob (tb T) fun t=>ob (zeroOf tb T) fun zc=>Option.casesOn (motive:=fun _=>Option GV) (tdF t.desc) (ob (tdA t.desc) fun e=>ob (tb e.2) fun te=>ob (gfillA te.size vs zc) fun cs=>some (.agg cs)) fun _=>ob (placesOf tb T) fun pl=>ob (gfillF pl vs zc) fun cs=>some (.agg cs)
def glen (v:GV):Option Nat:=bif v.isSnil then some 0 else ob v.asS fun s=>some s.2.2.1
def vLen (tb:TB) (T:TypeId) (v:GV):Option GV:=ob (tb T) fun t=>Option.casesOn (motive:=fun _=>Option GV) v.asStr (ob (tdS t.desc) fun _=>ob (glen v) fun n=>some (.int .i64 (.ofNat n))) fun s=>bif tdStr t.desc then some (.int .i64 (.ofNat s.2))else none
def vMax (v u:GV):Option GV:=ob v.asI fun a=>ob u.asI fun b=>bif eqK a.1 b.1 then(bif ltI a.2 b.2 then some u else some v)else none
def vMin (v u:GV):Option GV:=ob v.asI fun a=>ob u.asI fun b=>bif eqK a.1 b.1 then(bif ltI b.2 a.2 then some u else some v)else none

def vLoad (tb:TB) (T:TypeId) (v:GV) (H:GH):Option GV:=ob v.asP fun p=>ob (H.cells p.1) fun cs=>ob (tb T) fun t=>ofCells t cs p.2
def vStore (tb:TB) (T:TypeId) (v u:GV) (H:GH):OR:=ob v.asP fun p=>ob (H.cells p.1) fun cs=>ob (tb T) fun t=>ob u.cells fun uc=>bif Nat.beq uc.length t.size then bif Nat.beq t.size 0 then none else ob (gput uc p.2 cs) fun cs'=>H.setK p.1 (.cells cs') fun H'=>some (.un,H')else none
def vBox (v:GV) (H:GH):OR:=ob v.cells fun vc=>H.newK (.cells vc) fun h H'=>some (.ptr h 0,H')
def vAlloc (tb:TB) (T:TypeId) (H:GH):OR:=ob (zeroOf tb T) fun zc=>H.newK (.cells zc) fun h H'=>some (.ptr h 0,H')
def rep (z:List GV) (n:Nat):List GV:=Nat.rec (motive:=fun _=>List GV) [] (fun _ ih=>z++ih) n
def fc {R:Type} (a:List GV):(List GV->R)->R:=List.rec (motive:=fun _=>(List GV->R)->R) (fun k=>k []) (fun x _ ih k=>ih fun r=>k (x::r)) a
def vBuildS (tb:TB) (T:TypeId) (n:Nat) (vs:List (Nat×GV)) (H:GH):OR:=ob (elemOf tb T) fun te=>ob (zeroOf tb te.1) fun zc=>bif Nat.beq zc.length te.2.size then(bif Nat.blt (Nat.mul n te.2.size) 16777216 then(bif Nat.beq te.2.size 0 then none else ob (gfillA te.2.size vs (rep zc n)) fun cs=>H.newK (.cells cs) fun h H'=>some (.sl h 0 n te.2.size,H'))else none)else none
def vMake (tb:TB) (T:TypeId) (v u:GV) (H:GH):OR:=ob (elemOf tb T) fun te=>ob (zeroOf tb te.1) fun zc=>ob v.asI fun k=>ob u.asI fun c=>bif eqI k.2 c.2 then ob (asN k.2) fun k=>(bif Nat.beq zc.length te.2.size then(bif Nat.blt (Nat.mul k te.2.bytes) 16777216 then(bif Nat.blt k 16777216 then(bif Nat.beq te.2.size 0 then none else fc (rep zc k) fun l=>H.newK (.cells l) fun h H'=>some (.sl h 0 k te.2.size,H'))else none)else none)else none)else none
def lap {R:Type} (a b:List GV):(List GV->R)->R:=List.rec (motive:=fun _=>(List GV->R)->R) (fun k=>k b) (fun x _ ih k=>ih fun r=>k (x::r)) a
def content (H:GH) (sz:Nat) (v:GV):Option (Nat×List GV):=bif v.isSnil then some (0,[])else ob v.asS fun s=>bif Nat.beq s.2.2.2 sz then ob (H.cells s.1) fun cs=>ob (slc cs s.2.1 (Nat.mul s.2.2.1 sz)) fun r=>some (s.2.2.1,r)else none
def delS (H:GH) (v:GV):GH:=Option.casesOn (motive:=fun _=>GH) v.asS H fun s=>H.del s.1
def delSK (H:GH) (v:GV) (f:GH->OR):OR:=Option.casesOn (motive:=fun _=>OR) v.asS (f H) fun s=>H.delK s.1 f
def vApp (tb:TB) (T T':TypeId) (v u:GV) (H:GH):OR:=bif Nat.beq T T' then ob (elemOf tb T) fun te=>bif Nat.beq te.2.size 0 then none else ob (zeroOf tb te.1) fun zc=>bif Nat.beq zc.length te.2.size then ob (content H te.2.size v) fun p=>ob (content H te.2.size u) fun q=>Nat.casesOn (motive:=fun _=>OR) q.1 (some (v,H)) (fun _=>sn (Nat.add p.1 q.1) fun n=>bif Nat.blt (Nat.mul n (Nat.add te.2.bytes 1)) 16777216 then lap p.2 q.2 fun l=>delSK H v fun H1=>H1.newK (.cells l) fun h H'=>some (.sl h 0 n te.2.size,H')else none)else none else none
def vMakeMap (H:GH):OR:=H.newK (.mp []) fun h H'=>some (.map h,H')
def keyEq (a b:GV):Option Bool:=Option.casesOn (motive:=fun _=>Option Bool) a.asI (ob a.asStr fun x=>ob b.asStr fun y=>some (eqS x y)) fun x=>ob b.asI fun y=>bif eqK x.1 y.1 then some (eqI x.2 y.2)else none
def mfind (k:GV) (es:List (GV×GV)):Option (Option GV):=List.rec (motive:=fun _=>Option (Option GV)) (some none) (fun e _ ih=>ob (keyEq k e.1) fun b=>bif b then some (some e.2)else ih) es
def keyOk (t:Ty) (k:GV):Bool:=Option.casesOn (motive:=fun _=>Bool) k.asI (Option.casesOn (motive:=fun _=>Bool) k.asStr false (fun _=>tdStr t.desc)) (fun x=>Option.casesOn (motive:=fun _=>Bool) (tdI t.desc) false (fun _=>true))
def mapOf (tb:TB) (T:TypeId):Option (Ty×Ty):=ob (tb T) fun t=>ob (tdM t.desc) fun kv=>ob (tb kv.1) fun tk=>ob (tb kv.2) fun tv=>some (tk,tv)
def vLook (tb:TB) (T:TypeId) (ok:Bool) (v k:GV) (H:GH):Option GV:=ob v.asM fun h=>ob (H.get h) fun o=>ob o.asM fun es=>ob (mapOf tb T) fun t=>bif keyOk t.1 k then ob (mfind k es) fun r=>ob (ofV t.2.zero) fun z=>Option.casesOn (motive:=fun _=>Option GV) r (bif ok then some (.tup [z,.bool false])else some z) (fun g=>bif ok then some (.tup [g,.bool true])else some g)else none
def vMapUp (tb:TB) (T:TypeId) (v k u:GV) (H:GH):OR:=ob v.asM fun h=>ob (H.get h) fun o=>ob o.asM fun es=>ob (mapOf tb T) fun t=>bif keyOk t.1 k then ob (mfind k es) fun r=>Option.casesOn (motive:=fun _=>OR) r (H.setK h (.mp (es++[(k,u)])) fun H'=>some (.un,H')) (fun _=>none)else none

section
variable {R:Type}
abbrev KT (R:Type):=GF->GH->(GV->GH->Option R)->Option R
def k1 (x:Operand) (f:GV->Option GV):KT R:=fun σ H k=>ob (some x) fun x=>ob (gev σ x) fun v=>ob (f v) fun g=>k g H
def k2 (x y:Operand) (f:GV->GV->Option GV):KT R:=fun σ H k=>ob (some x) fun x=>ob (gev σ x) fun v=>ob (gev σ y) fun u=>ob (f v u) fun g=>k g H
def k3 (x y z:Operand) (f:GV->GV->GV->Option GV):KT R:=fun σ H k=>ob (some x) fun x=>ob (gev σ x) fun v=>ob (gev σ y) fun u=>ob (gev σ z) fun t=>ob (f v u t) fun g=>k g H
def kMove (x:Operand):KT R:=fun σ H k=>ob (some x) fun x=>ob (gev σ x) fun v=>k v H
def kFn (fn:Fn) (first caps:Array Operand):KT R:=match fn with
 | .func f=>fun σ H k=>ob (gevs σ first.toList) fun us=>ob (gevs σ caps.toList) fun vs=>k (.fn f us vs) H
 |_=>fun _ _ _=>none
def gevo (σ:GF) (o:Option Operand):Option (Option GV):=Option.casesOn (motive:=fun _=>Option (Option GV)) o (some none) fun x=>ob (gev σ x) fun v=>some (some v)
def kSlice (tb:TB) (T:TypeId) (x:Operand) (lo hi mx:Option Operand):KT R:=Option.casesOn (motive:=fun _=>KT R) mx (fun σ H k=>ob (some x) fun x=>ob (gev σ x) fun v=>ob (gevo σ lo) fun l=>ob (gevo σ hi) fun h=>ob (vSlice tb T v l h H) fun g=>k g H) (fun _ _ _ _=>none)
def kBuild (tb:TB) (T:TypeId) (ps:List (Nat×Operand)):KT R:=fun σ H k=>ob (gparts σ ps) fun vs=>ob (vBuild tb T vs) fun g=>k g H
def kOR (r:OR) (k:GV->GH->Option R):Option R:=ob r fun p=>Prod.casesOn (motive:=fun _=>Option R) p fun g h=>k g h
def kLoad (tb:TB) (T:TypeId) (x:Operand):KT R:=fun σ H k=>ob (some x) fun x=>ob (gev σ x) fun v=>ob (vLoad tb T v H) fun g=>k g H
def kStore (tb:TB) (T:TypeId) (x y:Operand):KT R:=fun σ H k=>ob (some x) fun x=>ob (gev σ x) fun v=>ob (gev σ y) fun u=>kOR (vStore tb T v u H) k
def kBox (x:Operand):KT R:=fun σ H k=>ob (some x) fun x=>ob (gev σ x) fun v=>kOR (vBox v H) k
def kAlloc (tb:TB) (T:TypeId):KT R:=fun σ H k=>kOR (vAlloc tb T H) k
def kBuildS (tb:TB) (T:TypeId) (n:Nat) (ps:List (Nat×Operand)):KT R:=fun σ H k=>ob (gparts σ ps) fun vs=>kOR (vBuildS tb T n vs H) k
def kMake (tb:TB) (T:TypeId) (x y:Operand):KT R:=fun σ H k=>ob (some x) fun x=>ob (gev σ x) fun v=>ob (gev σ y) fun u=>kOR (vMake tb T v u H) k
def kMakeMap (r:Option Operand):KT R:=Option.casesOn (motive:=fun _=>KT R) r (fun σ H k=>kOR (vMakeMap H) k) (fun _ _ _ _=>none)
def kLook (tb:TB) (T:TypeId) (x y:Operand) (ok:Bool):KT R:=fun σ H k=>ob (some x) fun x=>ob (gev σ x) fun v=>ob (gev σ y) fun u=>ob (vLook tb T ok v u H) fun g=>k g H
def kMapUp (tb:TB) (T:TypeId) (x y z:Operand):KT R:=fun σ H k=>ob (some x) fun x=>ob (gev σ x) fun v=>ob (gev σ y) fun u=>ob (gev σ z) fun t=>kOR (vMapUp tb T v u t H) k
def kArg1 (xs:List Operand) (f:Operand->KT R):KT R:=List.casesOn (motive:=fun _=>KT R) xs (fun _ _ _=>none) fun x r=>List.casesOn (motive:=fun _=>KT R) r (f x) (fun _ _ _ _ _=>none)
def kArg2 (xs:List Operand) (f:Operand->Operand->KT R):KT R:=List.casesOn (motive:=fun _=>KT R) xs (fun _ _ _=>none) fun x r=>List.casesOn (motive:=fun _=>KT R) r (fun _ _ _=>none) fun y r=>List.casesOn (motive:=fun _=>KT R) r (f x y) (fun _ _ _ _ _=>none)
def kApp (tb:TB) (ts:List TypeId) (x y:Operand):KT R:=fun σ H k=>ob (nth ts 0) fun T=>ob (nth ts 1) fun T'=>ob (gev σ x) fun v=>ob (gev σ y) fun u=>kOR (vApp tb T T' v u H) k
def kLen (tb:TB) (ts:List TypeId) (x:Operand):KT R:=fun σ H k=>ob (nth ts 0) fun T=>ob (gev σ x) fun v=>ob (vLen tb T v) fun g=>k g H
def kBuB (tb:TB) (xs:Array Operand) (ts:Array TypeId):Builtin->KT R
 | .len=>kArg1 xs.toList (kLen tb ts.toList)
 | .max=>kArg2 xs.toList fun x y=>k2 x y vMax
 | .min=>kArg2 xs.toList fun x y=>k2 x y vMin
 | .append=>kArg2 xs.toList (kApp tb ts.toList)
 |_=>fun _ _ _=>none
abbrev CH:=Nat->List GV->GH->OR
def kCallV (ih:CH) (xs:Array Operand) (f:Operand):KT R:=fun σ H k=>ob (gev σ f) fun v=>ob v.asF fun g=>ob (gevs σ xs.toList) fun us=>kOR (ih g.1 (g.2.1++us++g.2.2) H) k
def kCall (tb:TB) (ih:CH) (c:Call):KT R:=Callee.casesOn (motive:=fun _=>KT R) c.callee (kCallV ih c.args) (fun _ _ _ _ _=>none) (kBuB tb c.args c.argTypes)
end
def gop {R:Type} (tb:TB) (ih:CH) (o:Op):KT R:=Op.casesOn (motive:=fun _=>KT R) o (fun a0=>kMove a0) (fun a0=>kMove a0) (fun a0 a1 a2=>k3 a0 a1 a2 vPick) (fun a0=>kAlloc tb a0) (fun _ a1=>kBox a1) (fun a0 a1=>kBuild tb a0 a1.toList) (fun a0 a1 a2=>kBuildS tb a0 a1 a2.toList) (fun _ _ _ _=>fun _ _ _=>none) (fun a0 a1=>kLoad tb a0 a1) (fun a0 a1 a2=>kStore tb a0 a1 a2) (fun _=>fun _ _ _=>none) (fun _=>fun _ _ _=>none) (fun a0=>k1 a0 GV.nilck) (fun a0 a1 a2 a3 _=>k2 a2 a3 (vBin tb a0 a1)) (fun a0 _ a2=>k1 a2 (vUn a0)) (fun a0 a1 a2=>k1 a2 (vConv tb a0 a1)) (fun _ _=>fun _ _ _=>none) (fun _ _=>fun _ _ _=>none) (fun a0 a1 a2=>kFn a0 a1 a2) (fun _ a1=>kMakeMap a1) (fun _ _=>fun _ _ _=>none) (fun a0 a1 a2=>kMake tb a0 a1 a2) (fun a0 a1 a2 a3 a4=>kSlice tb a0 a1 a2 a3 a4) (fun a0 a1 a2=>k1 a1 (vField tb a0 a2)) (fun a0 a1 a2=>k1 a1 (vPart tb a0 a2)) (fun a0 a1 a2=>k2 a1 a2 (vIndex tb a0)) (fun a0 a1 a2=>k2 a1 a2 (vAt tb a0)) (fun a0 a1 a2 a3=>kLook tb a0 a1 a2 a3) (fun a0 a1 a2 a3=>kMapUp tb a0 a1 a2 a3) (fun _ _ _=>fun _ _ _=>none) (fun _ _ _ _=>fun _ _ _=>none) (fun _ _=>fun _ _ _=>none) (fun _ _=>fun _ _ _=>none) (fun _=>fun _ _ _=>none) (fun _ _ _ _=>fun _ _ _=>none) (fun a0 a1=>k1 a0 (vExt a1)) (fun a0=>kCall tb ih a0) (fun _=>fun _ _ _=>none) (fun _=>fun _ _ _=>none) (fun _=>fun _ _ _=>none) (fun _ _=>fun _ _ _=>none) (fun _ _ _=>fun _ _ _=>none) (fun _ _=>fun _ _ _=>none)

def useX (x:Operand):Nat:=Operand.casesOn (motive:=fun _=>Nat) x (fun t=>Nat.shiftLeft 1 t) (fun _=>0) (fun _=>0) (fun _=>0)
def useOp (all:List Oper) (o:Oper):Nat:=Nat.lor (o.op.operands.toList.foldl (fun m x=>Nat.lor m (useX x)) 0) (match o.guard with
 |none=>0
 |some g=>match nth all g.1 with
  |some oj=>(match oj.dst with|some d=>Nat.shiftLeft 1 d|none=>0)
  |none=>0)
def mdel (m:Nat) (d:Option Nat):Nat:=match d with
 |none=>m
 |some d=>bif Nat.testBit m d then Nat.sub m (Nat.shiftLeft 1 d)else m
def liveOps (all:List Oper) (l:List Oper) (m:Nat):Nat:=l.foldr (fun o m=>Nat.lor (mdel m o.dst) (useOp all o)) m
structure Cx where
 res:List ResultVar
 retm:Nat
 env:List (Nat×Nat)
def envGet (e:List (Nat×Nat)) (id:Nat):Nat:=List.rec (motive:=fun _=>Nat) 0 (fun p _ ih=>bif Nat.beq p.1 id then p.2 else ih) e
def liveC (c:Code) (retm:Nat):Nat->List (Nat×Nat)->Nat:=Code.rec (motive:=fun _=>Nat->List (Nat×Nat)->Nat)
 (fun m _=>m) (fun _ ops _ m _=>liveOps ops.toList ops.toList m) (fun _ _ la lb m e=>la (lb m e) e) (fun x _ _ la lb m e=>Nat.lor (useX x) (Nat.lor (la m e) (lb m e))) (fun id _ lb m e=>lb m ((id,m)::e))
 (fun _ lb _ e=>Nat.lor (lb 0 e) (lb (lb 0 e) e)) (fun _ _ _ _ _ _ _ _=>0) (fun id _ e=>envGet e id) (fun _ _ _ _=>0) (fun _ _ _=>0) (fun _ _ _=>0) (fun _ _=>retm) (fun _ _ _=>0) c
def live (c:Code) (m:Nat) (cx:Cx):Nat:=liveC c cx.retm m cx.env
def keysN (f m:Nat):Nat->List Nat:=Nat.rec (motive:=fun _=>Nat->List Nat) (fun _=>[]) (fun _ ih i=>bif Nat.testBit m i then i::ih (Nat.succ i)else ih (Nat.succ i)) f
def keysOf (m:Nat):List Nat:=keysN (Nat.succ (Nat.log2 m)) m 0
def packL (σ:GF) (ks:List Nat):List GV:=List.rec (motive:=fun _=>List GV) [] (fun k _ ih=>Option.casesOn (motive:=fun _=>GV) (glk σ k) .bad (fun v=>v)::ih) ks
def unpackL {R:Type} (ks:List Nat):List GV->(GF->Option R)->Option R:=List.rec (motive:=fun _=>List GV->(GF->Option R)->Option R) (fun vs k=>List.casesOn (motive:=fun _=>Option R) vs (k []) fun _ _=>none) (fun key _ ih vs k=>List.casesOn (motive:=fun _=>Option R) vs none fun v r=>ih r fun σ=>k ((key,v)::σ)) ks

inductive Ex where
 |normal
 |exit (id:Nat)
 |ret
inductive Task where
 |fn (f:Nat)
 |loop (b:Code) (cx:Cx)
structure GS where
 σ:GF
 H:GH
structure Out where
 e:Ex
 vs:List GV
 H:GH
abbrev RS:=Option Out
abbrev QH0:=List GV->GH->RS
abbrev QH:=Nat->List GV->GH->RS
abbrev IH:=Task->List GV->GH->RS
def resv (tb:TB) (s:GS) (r:ResultVar):Option GV:=ResultVar.casesOn (motive:=fun _=>Option GV) r (fun t=>glk s.σ t) fun a T=>ob (glk s.σ a) fun v=>vLoad tb T v s.H
def resvs (tb:TB) (s:GS) (l:List ResultVar):Option (List GV):=List.rec (motive:=fun _=>Option (List GV)) (some []) (fun r _ ih=>ob (resv tb s r) fun v=>ob ih fun vs=>some (v::vs)) l
def resMask (l:List ResultVar):Nat:=List.rec (motive:=fun _=>Nat) 0 (fun r _ ih=>Nat.lor (ResultVar.casesOn (motive:=fun _=>Nat) r (fun t=>Nat.shiftLeft 1 t) (fun a _=>Nat.shiftLeft 1 a)) ih) l
def pack (vs:List GV):GV:=List.casesOn (motive:=fun _=>GV) vs (.tup []) (fun v r=>List.casesOn (motive:=fun _=>GV) r v (fun _ _=> .tup vs))
def putD (d:Option Nat) (v:GV) (σ:GF):GF:=Option.casesOn (motive:=fun _=>GF) d σ fun d=>(d,v)::σ
def retN (ks:List Nat) (s:GS):RS:=some ⟨.normal,packL s.σ ks,s.H⟩
def retR (tb:TB) (cx:Cx) (s:GS):RS:=ob (resvs tb s cx.res) fun vs=>some ⟨.ret,vs,s.H⟩
def joinN (ks:List Nat) (k:GS->RS) (r:RS):RS:=ob r fun o=>Ex.casesOn (motive:=fun _=>RS) o.e (unpackL ks o.vs fun σ=>k ⟨σ,o.H⟩) (fun _=>some o) (some o)
def nB (id:Nat) (r:RS):RS:=ob r fun o=>Ex.casesOn (motive:=fun _=>RS) o.e (some o) (fun i=>Bool.casesOn (motive:=fun _=>RS) (Nat.beq i id) (some o) (some ⟨.normal,o.vs,o.H⟩)) (some o)
def orK (g:GV) (H:GH):OR:=some (g,H)
def opK (d:Option Nat) (s:GS) (k:GS->RS) (g:GV) (H:GH):RS:=k ⟨putD d g s.σ,H⟩
def evG (tb:TB) (ih:CH) (o:Oper) (s:GS) (b:Bool) (v:GV):OR:=GV.casesOn (motive_1:=fun _=>OR) v (fun _ _=>none) (fun q=>Bool.casesOn (motive:=fun _=>OR) (eqB q b) (some (.un,s.H)) (gop tb ih o.op s.σ s.H orK)) (fun _ _=>none) (fun _ _=>none) none (fun _ _ _ _=>none) none (fun _=>none) (fun _ _ _=>none) none none (fun _=>none) (fun _=>none) (some (.un,s.H)) none
def evOp (tb:TB) (ih:CH) (all:List Oper) (o:Oper) (k:GS->RS) (s:GS):RS:=Option.casesOn (motive:=fun _=>RS) o.guard (gop tb ih o.op s.σ s.H (opK o.dst s k)) fun g=>ob (nth all g.1) fun oj=>ob oj.dst fun dj=>ob (glk s.σ dj) fun v=>kOR (evG tb ih o s g.2 v) (opK o.dst s k)
def evOps (tb:TB) (ih:CH) (all:List Oper) (k:GS->RS) (l:List Oper):GS->RS:=List.rec (motive:=fun _=>GS->RS) k (fun o _ ihl s=>evOp tb ih all o ihl s) l

def isLoad:Op->Bool
 | .load .. => true
 |_=>false
def isLook:Op->Bool
 | .lookup .. => true
 |_=>false
def ldH (σ:GF):Op->Option Nat
 | .load _ x=>ob (some x) fun x=>ob (gev σ x) fun v=>ob v.asP fun p=>some p.1
 |_=>none
def vck {α:Type} (H:GH) (h v:Nat) (k:Option α):Option α:=ob (H.ver h) fun u=>Bool.casesOn (motive:=fun _=>Option α) (Nat.beq u v) none k
def pck (H:GH) (e:Option (Nat×Nat)) (k:Option Unit):Option Unit:=Option.casesOn (motive:=fun _=>Option Unit) e k fun p=>vck H p.1 p.2 k
def ckLoud (m:List Nat) (i:Nat) (H:GH) (pr:List (Nat×Option (Nat×Nat))):Option Unit:=List.rec (motive:=fun _=>Option Unit) (some ()) (fun p _ ih=>Bool.casesOn (motive:=fun _=>Option Unit) (before m i p.1) (pck H p.2 ih) ih) pr
def ckRead (m:List Nat) (i h v:Nat) (hs:List (Nat×GH)):Option (Option (Nat×Nat)):=List.rec (motive:=fun _=>Option (Option (Nat×Nat))) (some (some (h,v))) (fun q _ ih=>Bool.casesOn (motive:=fun _=>Option (Option (Nat×Nat))) (before m i q.1) (vck q.2 h v ih) ih) hs
def ldV (m:List Nat) (i:Nat) (hs:List (Nat×GH)) (H:GH) (l:Option Nat):Option (Option (Nat×Nat)):=Option.casesOn (motive:=fun _=>Option (Option (Nat×Nat))) l (some none) fun h=>ob (H.ver h) fun v=>ckRead m i h v hs
abbrev WT:=Nat->List (Nat×Option (Nat×Nat))->List (Nat×GH)->GS->RS
def evOpW (tb:TB) (ch:CH) (all:List Oper) (m:List Nat) (o:Oper) (K:WT):WT:=fun i pr hs s=>
 Bool.casesOn (motive:=fun _=>RS) (loudOp o.op)
  (Bool.casesOn (motive:=fun _=>RS) (isLoad o.op) (evOp tb ch all o (K (Nat.succ i) pr hs) s)
   (evOp tb ch all o (fun s'=>ob (ldV m i hs s.H (ldH s.σ o.op)) fun e=>K (Nat.succ i) ((i,e)::pr) hs s') s))
  (evOp tb ch all o (fun s'=>ob (ckLoud m i s'.H pr) fun _=>K (Nat.succ i) pr ((i,s.H)::hs) s') s)
def evW (tb:TB) (ch:CH) (all:List Oper) (m:List Nat) (k:GS->RS) (l:List Oper):WT:=List.rec (motive:=fun _=>WT) (fun _ _ _ s=>k s) (fun o _ ih=>evOpW tb ch all m o ih) l
def ordered (l:List Oper) (p:Op->Bool):Bool:=(List.range l.length).all fun i=>match l[i]? with
 |none=>true
 |some o=> !p o.op||(List.range l.length).all fun j=>match l[j]? with
  |none=>true
  |some oj=> !loudOp oj.op||before (masks l) i j||before (masks l) j i
def wild (dr:Bool) (l:List Oper):Bool:=Bool.casesOn (motive:=fun _=>Bool) dr false (!ordered l isLoad)
def resOR (r:RS):OR:=ob r fun o=>Ex.casesOn (motive:=fun _=>OR) o.e none (fun _=>none) (some (pack o.vs,o.H))
structure GP where
 tab:TB
 cat:Nat
 ext:Nat->List GV->GH->Option (GV×GH)
 exn:Nat->List GV->Option GV
def z64:GV:= .int .i64 (.ofNat 0)
def callC (ih:CH) (us:List GV) (H:GH):OR:=List.casesOn (motive:=fun _=>OR) us none fun u r=>List.casesOn (motive:=fun _=>OR) r (ob u.asF fun g=>H.newK (.cells [z64]) fun h1 H1=>H1.newK (.cells [z64]) fun h2 H2=>ob (ih g.1 (g.2.1++g.2.2) H2) fun x=>ob (x.2.cells h1) fun c1=>ob (x.2.cells h2) fun c2=>
 bif Nat.beq c1.length 1 then(bif Nat.beq c2.length 1 then x.2.setK h1 (.cells [z64]) fun H3=>H3.setK h2 (.cells [z64]) fun H4=>H4.delK h1 fun H5=>H5.delK h2 fun H6=>some (.tup [z64,z64],H6)else none)else none) (fun _ _=>none)
def callB (ih:IH):CH:=fun f us H=>resOR (ih (.fn f) us H)
def callQ (G:GP) (q:QH):CH:=fun f us H=>Bool.casesOn (motive:=fun _=>OR) (Nat.beq f G.cat) (Option.casesOn (motive:=fun _=>OR) (G.ext f us H) (Option.casesOn (motive:=fun _=>OR) (G.exn f us) (resOR (q f us H)) fun g=>some (g,H)) fun r=>some r) (callC (fun f us H=>resOR (q f us H)) us H)
def callG (G:GP) (ih:IH):CH:=callQ G fun f us H=>ih (.fn f) us H
abbrev ET:=Nat->Cx->(GS->RS)->GS->RS
abbrev LH:=Code->Cx->QH0
def evC (tb:TB) (ch:CH) (lp:LH) (c:Code):ET:=Code.rec (motive:=fun _=>ET)
 (fun _ _ k s=>k s)
 (fun _ ops dr _ _ k s=>Bool.casesOn (motive:=fun _=>RS) (wild dr ops.toList) (evOps tb ch ops.toList k ops.toList s) (evW tb ch ops.toList (masks ops.toList) k ops.toList 0 [] [] s))
 (fun _ b ea eb m cx k s=>ea (live b m cx) cx (eb m cx k) s)
 (fun x _ _ ea eb m cx k s=>ob (gev s.σ x) fun v=>ob v.asB fun q=>joinN (keysOf m) k (Bool.casesOn (motive:=fun _=>RS) q (eb m cx (retN (keysOf m)) s) (ea m cx (retN (keysOf m)) s)))
 (fun id _ eb m cx k s=>joinN (keysOf m) k (nB id (eb m ⟨cx.res,cx.retm,(id,m)::cx.env⟩ (retN (keysOf m)) s)))
 (fun b _ _ cx _ s=>lp b cx (packL s.σ (keysOf (live (.loop b) 0 cx))) s.H)
 (fun _ _ _ _ _ _ _ _ _ _=>none)
 (fun id _ cx _ s=>some ⟨.exit id,packL s.σ (keysOf (envGet cx.env id)),s.H⟩)
 (fun _ _ _ _ _ _=>none) (fun _ _ _ _ _=>none) (fun _ _ _ _ _=>none)
 (fun _ cx _ s=>retR tb cx s)
 (fun _ _ _ _ _=>none) c
def evF (tb:TB) (ch:CH) (lp:LH) (fn:Func) (us:List GV) (H:GH):RS:=ob fn.body fun body=>unpackL (List.range (Nat.add fn.params.size fn.nfree)) us fun σ=>evC tb ch lp body (resMask fn.results.toList) ⟨fn.results.toList,resMask fn.results.toList,[]⟩ (retR tb ⟨fn.results.toList,resMask fn.results.toList,[]⟩) ⟨σ,H⟩
def evL (tb:TB) (ch:CH) (lp:LH) (b:Code) (cx:Cx) (us:List GV) (H:GH):RS:=unpackL (keysOf (live (.loop b) 0 cx)) us fun σ=>ob (evC tb ch lp b (live (.loop b) 0 cx) cx (retN (keysOf (live (.loop b) 0 cx))) ⟨σ,H⟩) fun o=>Ex.casesOn (motive:=fun _=>RS) o.e (lp b cx o.vs o.H) (fun _=>some o) (some o)
abbrev FT:=Nat->Option Func
def step (G:GP) (Fs:FT) (ih:IH) (t:Task):List GV->GH->RS:=Task.casesOn (motive:=fun _=>List GV->GH->RS) t (fun f us H=>ob (Fs f) fun fn=>evF G.tab (callG G ih) (fun b cx=>ih (.loop b cx)) fn us H) (evL G.tab (callG G ih) fun b cx=>ih (.loop b cx))
def run (G:GP) (Fs:FT) (fuel:Nat):IH:=Nat.rec (motive:=fun _=>IH) (fun _ _ _=>none) (fun _ ih=>step G Fs ih) fuel
def callF (G:GP) (Fs:FT) (fuel:Nat) (f:FuncId) (args:List GV) (H:GH):OR:=callG G (run G Fs fuel) f args H
def H0:GH:=⟨0,.lf⟩
end
end Go.Gx
end
