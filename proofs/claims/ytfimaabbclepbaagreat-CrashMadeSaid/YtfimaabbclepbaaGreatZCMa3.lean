/- Models of functions with their proofs, by program (gen/xt.py), and plain laws, in one text. Conditions: none. -/
import Derived.Test.YtfimaabbclepbaaGreatZCMa2
import Derived.KernelRfl
set_option linter.unusedVariables false
set_option linter.unusedSimpArgs false
set_option maxHeartbeats 4000000
set_option maxRecDepth 20000
section
section
namespace Go.Proofs.YtfimaabbclepbaaGreat
open Go.Sx
theorem iter_if {R:Type} {step:Int->(Int->Option R)->Option R} {K:Option R} {bad:R} (N:Nat) (p:Nat->Prop)
  (hok:∀(k:Nat) ag,k<N->p k->step k ag=ag ((k:Int)+1)) (hbad:∀(k:Nat) ag,k<N->¬p k->step k ag=some bad) (hend:∀ag,step N ag=K):
  ∀(fuel:Nat),N<fuel->((∀k,k<N->p k)->iter step fuel 0=K)∧(¬(∀k,k<N->p k)->iter step fuel 0=some bad):=by
 intro fuel hf
 have key:∀(d a fuel:Nat),a+d=N->d<fuel->((∀k,a<=k->k<N->p k)->iter step fuel (a:Int)=K)∧(¬(∀k,a<=k->k<N->p k)->iter step fuel (a:Int)=some bad):=by
  intro d
  induction d with
  |zero=>
   intro a fuel ha hf
   obtain rfl:a=N:=by omega
   cases fuel with
   |zero=>omega
   |succ f=>exact⟨fun _=>hend _,fun h=>absurd (fun k h1 h2=>by omega) h⟩
  | succ d ih =>
   intro a fuel ha hf
   cases fuel with
   |zero=>omega
   | succ f =>
    obtain⟨i1,i2⟩:=ih (a+1) f (by omega) (by omega)
    have e:((a+1:Nat):Int)=(a:Int)+1:=by omega
    rw[e]at i1 i2
    by_cases hp:p a
    ·have hs:iter step (f+1) (a:Int)=iter step f ((a:Int)+1):=hok a _ (by omega) hp
     rw[hs]
     refine⟨fun h=>i1 fun k h1 h2=>h k (by omega) h2,fun h=>i2 fun h'=>h fun k h1 h2=> ?_⟩
     by_cases hk:k=a
     ·subst hk;exact hp
     ·exact h' k (by omega) h2
    ·exact⟨fun h=>absurd (h a (Nat.le_refl _) (by omega)) hp,fun _=>hbad a _ (by omega) hp⟩
 obtain⟨h1,h2⟩:=key N 0 fuel (by omega) hf
 exact⟨fun h=>h1 fun k _ hk=>h k hk,fun h=>h2 fun h'=>h fun k hk=>h' k (by omega) hk⟩
abbrev GR:=List Int×List (List (Int×Int))
theorem refIn_eq (fuel:Nat) (v lo hi:Int):m_ref01_In fuel v lo hi=some (decide (lo<=v∧v<=hi)):=by
 unfold m_ref01_In ref01_In_k1
 by_cases h:lo<=v
 ·rw[if_pos h];congr 1;exact decide_eq_decide.2 ⟨fun h2=>⟨h,h2⟩,fun h2=>h2.2⟩
 ·rw[if_neg h,decide_eq_false (fun h2=>h h2.1)]
abbrev row (g:GR) (v:Nat):List (Int×Int):=at' g.2 (v:Int)
abbrev idOf (g:GR) (v:Nat):Int:=at' g.1 (v:Int)
abbrev lnk (l:List (Int×Int)) (i:Nat):Int×Int:=at' l (i:Int)
def light (g:GR):Prop:=g.1.length<=30∧g.2.length<=30∧∀v,v<g.2.length->(row g v).length<=30
def LinkOk (l:List (Int×Int)) (v n i:Nat):Prop:=(0<=(lnk l i).1∧(lnk l i).1<=(n:Int) - 1)∧(lnk l i).1≠v∧(1<=(lnk l i).2∧(lnk l i).2<=15)∧∀k,k<i->(lnk l k).1≠(lnk l i).1
def LinksOk (l:List (Int×Int)) (v n:Nat):Prop:=∀i,i<l.length->LinkOk l v n i
theorem linksValid_eq (l:List (Int×Int)) (v n:Nat) (hl:l.length<=30) (hn:n<=30):(LinksOk l v n->m_ref01_linksValid 1000 l v n=some true)∧(¬LinksOk l v n->m_ref01_linksValid 1000 l v n=some false):=by
 unfold m_ref01_linksValid
 have inner:∀(i:Nat) (ag:Int->Option Bool),i<l.length->((∀k,k<i->(lnk l k).1≠(lnk l i).1)->iter (ref01_linksValid_s2 l i ag) 1000 0=ag ((i:Int)+1))∧(¬(∀k,k<i->(lnk l k).1≠(lnk l i).1)->iter (ref01_linksValid_s2 l i ag) 1000 0=some false):=by
  intro i ag hi
  refine iter_if i _ (fun k ag2 hk hp=> ?_) (fun k ag2 hk hp=> ?_) (fun ag2=> ?_) 1000 (by omega)
  ·unfold ref01_linksValid_s2
   rw[if_pos (by omega),ckT (by omega),ckT (by omega),if_neg hp,wr (by omega) (by omega)]
  ·unfold ref01_linksValid_s2
   rw[if_pos (by omega),ckT (by omega),ckT (by omega),if_pos (Decidable.not_not.1 hp)]
  ·unfold ref01_linksValid_s2 ref01_linksValid_k2
   rw[if_neg (by omega),wr (by omega) (by omega)]
 refine iter_if l.length (LinkOk l v n) (fun i ag hi hp=> ?_) (fun i ag hi hp=> ?_) (fun ag=> ?_) 1000 (by omega)
 ·obtain⟨h1,h2,h3,h4⟩:=hp
  unfold ref01_linksValid_s1 ref01_linksValid_k3
  rw[if_pos (by omega),ckT (by omega),wr (x:=(n:Int) - 1) (by omega) (by omega),refIn_eq,decide_eq_true h1,bindS rfl,if_neg (by simp),ckT (by omega),if_neg h2,ckT (by omega),refIn_eq,decide_eq_true h3,bindS rfl,if_neg (by simp)]
  exact(inner i ag hi).1 h4
 ·unfold ref01_linksValid_s1 ref01_linksValid_k3
  rw[if_pos (by omega),ckT (by omega),wr (x:=(n:Int) - 1) (by omega) (by omega),refIn_eq]
  by_cases h1:0<=(lnk l i).1∧(lnk l i).1<=(n:Int) - 1
  ·rw[decide_eq_true h1,bindS rfl,if_neg (by simp),ckT (by omega)]
   by_cases h2:(lnk l i).1=v
   ·rw[if_pos h2];rfl
   ·rw[if_neg h2,ckT (by omega),refIn_eq]
    by_cases h3:1<=(lnk l i).2∧(lnk l i).2<=15
    ·rw[decide_eq_true h3,bindS rfl,if_neg (by simp)]
     exact(inner i ag hi).2 fun h4=>hp ⟨h1,h2,h3,h4⟩
    ·rw[decide_eq_false h3];rfl
  ·rw[decide_eq_false h1];rfl
 ·unfold ref01_linksValid_s1 ref01_linksValid_k1
  rw[if_neg (by omega)]
def portOf (l:List (Int×Int)) (u:Int):Int:=match l.findIdx? (fun x=>decide (x.1=u))with
 |some i=>i
 |none=> -1
theorem portOf_some {l:List (Int×Int)} {u:Int} (i:Nat) (hi:i<l.length) (hu:(lnk l i).1=u) (hf:∀k,k<i->(lnk l k).1≠u):portOf l u=i:=by
 have:l.findIdx? (fun x=>decide (x.1=u))=some i:=by
  rw[List.findIdx?_eq_some_iff_getElem]
  have e:∀k (hk:k<l.length),lnk l k=l[k]:=fun k hk=>by rw[lnk,at'_nat,List.getD_eq_getElem?_getD,List.getElem?_eq_getElem hk];rfl
  refine⟨hi,by rw[<-e i hi];simpa using hu,fun k hk=> ?_⟩
  have:=hf k hk
  rw[e k (by omega)]at this
  simpa using this
 rw[portOf,this]
theorem portOf_none {l:List (Int×Int)} {u:Int} (hf:∀k,k<l.length->(lnk l k).1≠u):portOf l u = -1:=by
 have:l.findIdx? (fun x=>decide (x.1=u))=none:=by
  rw[List.findIdx?_eq_none_iff]
  intro x hx
  obtain⟨k,hk,rfl⟩:=List.getElem_of_mem hx
  have:=hf k hk
  rw[lnk,at'_nat,List.getD_eq_getElem?_getD,List.getElem?_eq_getElem hk]at this
  simpa using this
 rw[portOf,this]
theorem portOf_cases (l:List (Int×Int)) (u:Int):(∃i,i<l.length∧(lnk l i).1=u∧(∀k,k<i->(lnk l k).1≠u)∧portOf l u=i)∨((∀k,k<l.length->(lnk l k).1≠u)∧portOf l u = -1):=by
 by_cases h:∀k,k<l.length->(lnk l k).1≠u
 ·exact .inr ⟨h,portOf_none h⟩
 ·left
  have hex:∃k,k<l.length∧(lnk l k).1=u:=by
   apply Classical.byContradiction
   intro hc
   exact h fun k hk he=>hc ⟨k,hk,he⟩
  obtain⟨k,hk,hku⟩:=hex
  have:∀m,(∃k,k<=m∧k<l.length∧(lnk l k).1=u)->∃i,i<l.length∧(lnk l i).1=u∧∀k,k<i->(lnk l k).1≠u:=by
   intro m
   induction m with
   |zero=>rintro⟨k,h1,h2,h3⟩;exact⟨k,h2,h3,fun j hj=>by omega⟩
   |succ m ih=>
    rintro⟨k,h1,h2,h3⟩
    by_cases hlt:∃j,j<=m∧j<l.length∧(lnk l j).1=u
    ·exact ih hlt
    ·exact⟨k,h2,h3,fun j hj he=>hlt ⟨j,by omega,by omega,he⟩⟩
  obtain⟨i,h1,h2,h3⟩:=this k ⟨k,Nat.le_refl _,hk,hku⟩
  exact⟨i,h1,h2,h3,portOf_some i h1 h2 h3⟩
theorem refPort_eq (g:GR) (v:Nat) (u:Int) (hv:v<g.2.length) (hl:(row g v).length<=30):m_ref01_Port 1000 g v u=some (portOf (row g v) u):=by
 unfold m_ref01_Port
 rcases portOf_cases (row g v) u with⟨i,hi,hu,hf,he⟩|⟨hf,he⟩
 ·rw[he]
  refine iter_eq (fun x:Int=>∃k:Nat,x=k∧k<=i) (fun x=>31 - x.toNat) ?_ 1000 _ ⟨0,rfl,by omega⟩ (by omega)
  rintro x ag ⟨k,rfl,hk⟩ hag
  unfold ref01_Port_s1
  rw[ckT (by omega),if_pos (show(k:Int)<((row g v).length:Int) by omega),ckT (by omega),ckT (show 0<=(k:Int)∧(k:Int)<((row g v).length:Int) by omega)]
  by_cases e:k=i
  ·subst e;exact if_pos hu
  ·rw[if_neg (hf k (by omega)),wr (by omega) (by omega)]
   exact hag _ ⟨k+1,by omega,by omega⟩ (by omega)
 ·rw[he]
  refine iter_eq (fun x:Int=>∃k:Nat,x=k∧k<=(row g v).length) (fun x=>31 - x.toNat) ?_ 1000 _ ⟨0,rfl,by omega⟩ (by omega)
  rintro x ag ⟨k,rfl,hk⟩ hag
  unfold ref01_Port_s1
  rw[ckT (by omega)]
  by_cases e:k<(row g v).length
  ·rw[if_pos (show(k:Int)<((row g v).length:Int) by omega),ckT (by omega),ckT (show 0<=(k:Int)∧(k:Int)<((row g v).length:Int) by omega),if_neg (hf k e),wr (by omega) (by omega)]
   exact hag _ ⟨k+1,by omega,by omega⟩ (by omega)
  ·rw[if_neg (show¬(k:Int)<((row g v).length:Int) by omega)];rfl
end Go.Proofs.YtfimaabbclepbaaGreat
end
section
namespace Go.Proofs.YtfimaabbclepbaaGreat
open Go.Sx
theorem iter_ifS {X R:Type} {step:X->(X->Option R)->Option R} {K:X->Option R} {bad:R} (N:Nat) (p:Nat->Prop) (I:Nat->X->Prop)
  (hok:∀(k:Nat) x ag,k<N->I k x->p k->∃x',I (k+1) x'∧step x ag=ag x') (hbad:∀(k:Nat) x ag,k<N->I k x->¬p k->step x ag=some bad) (hend:∀x ag,I N x->step x ag=K x):
  ∀(fuel:Nat) (x:X),I 0 x->N<fuel->((∀k,k<N->p k)->∃x',I N x'∧iter step fuel x=K x')∧(¬(∀k,k<N->p k)->iter step fuel x=some bad):=by
 intro fuel x hI hf
 have key:∀(d a fuel:Nat) (x:X),a+d=N->d<fuel->I a x->((∀k,a<=k->k<N->p k)->∃x',I N x'∧iter step fuel x=K x')∧(¬(∀k,a<=k->k<N->p k)->iter step fuel x=some bad):=by
  intro d
  induction d with
  |zero=>
   intro a fuel x ha hf hI
   obtain rfl:a=N:=by omega
   cases fuel with
   |zero=>omega
   |succ f=>exact⟨fun _=>⟨x,hI,hend _ _ hI⟩,fun h=>absurd (fun k h1 h2=>by omega) h⟩
  | succ d ih =>
   intro a fuel x ha hf hI
   cases fuel with
   |zero=>omega
   | succ f =>
    by_cases hp:p a
    ·obtain⟨x',hI',hs⟩:=hok a x (iter step f) (by omega) hI hp
     have hs:iter step (f+1) x=iter step f x':=hs
     obtain⟨i1,i2⟩:=ih (a+1) f x' (by omega) (by omega) hI'
     rw[hs]
     refine⟨fun h=>i1 fun k h1 h2=>h k (by omega) h2,fun h=>i2 fun h'=>h fun k h1 h2=> ?_⟩
     by_cases hk:k=a
     ·subst hk;exact hp
     ·exact h' k (by omega) h2
    ·exact⟨fun h=>absurd (h a (Nat.le_refl _) (by omega)) hp,fun _=>hbad a x _ (by omega) hI hp⟩
 obtain⟨h1,h2⟩:=key N 0 fuel x (by omega) hf hI
 exact⟨fun h=>h1 fun k _ hk=>h k hk,fun h=>h2 fun h'=>h fun k hk=>h' k (by omega) hk⟩
def SymAt (g:GR) (v i:Nat):Prop:=∃j,j<(at' g.2 (lnk (row g v) i).1).length∧(lnk (at' g.2 (lnk (row g v) i).1) j).1=v∧(lnk (at' g.2 (lnk (row g v) i).1) j).2=(lnk (row g v) i).2
structure NodeOk (g:GR) (v:Nat):Prop where
 id:0<=idOf g v∧idOf g v<=255
 deg:(row g v).length<g.2.length
 links:LinksOk (row g v) v g.2.length
 ids:∀k,k<v->idOf g k≠idOf g v
structure VG (g:GR):Prop where
 n1:1<=g.2.length
 n24:g.2.length<=24
 len:g.1.length=g.2.length
 node:∀v,v<g.2.length->NodeOk g v
 sym:∀v,v<g.2.length->∀i,i<(row g v).length->SymAt g v i
theorem refValid_eq (g:GR) (hl:light g):(VG g->m_ref01_Valid 1000 g=some true)∧(¬VG g->m_ref01_Valid 1000 g=some false):=by
 obtain⟨l1,l2,l3⟩:=hl
 unfold m_ref01_Valid
 rw[refIn_eq,bindS rfl]
 by_cases h1:1<=g.2.length∧g.2.length<=24
 rotate_left
 ·rw[decide_eq_false (by omega)]
  exact⟨fun h=>absurd ⟨h.n1,h.n24⟩ h1,fun _=>rfl⟩
 rw[decide_eq_true (by omega),if_neg (by simp)]
 by_cases h2:g.1.length=g.2.length
 rotate_left
 ·rw[decide_eq_true (by omega)]
  exact⟨fun h=>absurd h.len h2,fun _=>rfl⟩
 rw[decide_eq_false (by omega)]
 unfold ref01_Valid_k1
 rw[if_neg (by simp)]
 have hids:∀(v:Nat) (ag:Int->Option Bool),v<g.2.length->((∀k,k<v->idOf g k≠idOf g v)->iter (ref01_Valid_s4 g v ag) 1000 0=ag ((v:Int)+1))∧(¬(∀k,k<v->idOf g k≠idOf g v)->iter (ref01_Valid_s4 g v ag) 1000 0=some false):=by
  intro v ag hv
  refine iter_if v _ (fun k ag2 hk hp=> ?_) (fun k ag2 hk hp=> ?_) (fun ag2=> ?_) 1000 (by omega)
  ·unfold ref01_Valid_s4
   rw[if_pos (by omega),ckT (by omega),ckT (by omega),if_neg hp,wr (by omega) (by omega)]
  ·unfold ref01_Valid_s4
   rw[if_pos (by omega),ckT (by omega),ckT (by omega),if_pos (Decidable.not_not.1 hp)]
  ·unfold ref01_Valid_s4 ref01_Valid_k6
   rw[if_neg (by omega),wr (by omega) (by omega)]
 have outer:=iter_if (step:=ref01_Valid_s3 1000 g) (K:=ref01_Valid_k2 1000 g ()) (bad:=false) g.2.length (NodeOk g) (fun v ag hv hp=> ?_) (fun v ag hv hp=> ?_) (fun ag=> ?_) 1000 (by omega)
 rotate_left
 ·unfold ref01_Valid_s3 ref01_Valid_k7
  rw[if_pos (by omega),ckT (by omega),refIn_eq,decide_eq_true hp.id,bindS rfl,if_neg (by simp),ckT (by omega),if_neg (show¬((g.2.length:Int)<=((row g v).length:Int))from by have:=hp.deg;omega),ckT (by omega),(linksValid_eq (row g v) v g.2.length (l3 v hv) l2).1 hp.links,bindS rfl,if_neg (by simp)]
  exact(hids v ag hv).1 hp.ids
 ·unfold ref01_Valid_s3 ref01_Valid_k7
  rw[if_pos (by omega),ckT (by omega),refIn_eq]
  by_cases a1:0<=idOf g v∧idOf g v<=255
  rotate_left
  ·rw[decide_eq_false a1];rfl
  rw[decide_eq_true a1,bindS rfl,if_neg (by simp),ckT (by omega)]
  by_cases a2:(row g v).length<g.2.length
  rotate_left
  ·rw[if_pos (show(g.2.length:Int)<=((row g v).length:Int) by omega)];rfl
  rw[if_neg (show¬(g.2.length:Int)<=((row g v).length:Int) by omega),ckT (by omega)]
  by_cases a3:LinksOk (row g v) v g.2.length
  rotate_left
  ·rw[(linksValid_eq (row g v) v g.2.length (l3 v hv) l2).2 a3];rfl
  rw[(linksValid_eq (row g v) v g.2.length (l3 v hv) l2).1 a3,bindS rfl,if_neg (by simp)]
  exact(hids v ag hv).2 fun a4=>hp ⟨a1,a2,a3,a4⟩
 ·unfold ref01_Valid_s3
  rw[if_neg (by omega)]
 by_cases hn:∀v,v<g.2.length->NodeOk g v
 rotate_left
 ·exact⟨fun h=>absurd h.node hn,fun _=>outer.2 hn⟩
 rw[outer.1 hn]
 unfold ref01_Valid_k2
 have inner:∀(v:Nat) (ag:Int->Option Bool),v<g.2.length->((∀i,i<(row g v).length->SymAt g v i)->iter (ref01_Valid_s2 1000 g v ag) 1000 0=ag ((v:Int)+1))∧(¬(∀i,i<(row g v).length->SymAt g v i)->iter (ref01_Valid_s2 1000 g v ag) 1000 0=some false):=by
  intro v ag hv
  have hv3:=l3 v hv
  have body:∀(i:Nat) ag2,i<(row g v).length->(SymAt g v i->ref01_Valid_s2 1000 g v ag i ag2=ag2 ((i:Int)+1))∧(¬SymAt g v i->ref01_Valid_s2 1000 g v ag i ag2=some false):=by
   intro i ag2 hi
   unfold ref01_Valid_s2
   rw[ckT (by omega),if_pos (show(i:Int)<((row g v).length:Int) by omega),ckT (by omega),ckT (show 0<=(i:Int)∧(i:Int)<((row g v).length:Int) by omega)]
   have hu:=((hn v hv).links i hi).1
   obtain⟨u,hu'⟩:∃u:Nat,(lnk (row g v) i).1=u:=⟨(lnk (row g v) i).1.toNat,by omega⟩
   have hun:u<g.2.length:=by omega
   unfold SymAt
   rw[show(at' (at' g.2 (v:Int)) (i:Int))=lnk (row g v) i from rfl,hu',refPort_eq g u v hun (l3 u hun),bindS rfl]
   have hlk:=(hn u hun).links
   rcases portOf_cases (row g u) v with⟨j,hj,hjv,hjf,he⟩|⟨hf,he⟩
   ·rw[he,if_neg (by omega),ckT (by omega),ckT (show 0<=(j:Int)∧(j:Int)<((at' g.2 (u:Int)).length:Int)from⟨by omega,by have:j<(row g u).length:=hj;exact_mod_cast this⟩)]
    unfold ref01_Valid_k5
    constructor
    ·rintro⟨k,hk,hkv,hkw⟩
     have hkj:k=j:=by
      rcases Nat.lt_trichotomy k j with h|h|h
      ·exact absurd hkv (hjf k h)
      ·exact h
      ·exact absurd (hjv.trans hkv.symm) ((hlk k hk).2.2.2 j h)
     subst hkj
     rw[if_neg (by rw[decide_eq_false];simp;exact fun h=>h hkw),wr (by omega) (by omega)]
    ·intro h
     rw[if_pos]
     exact decide_eq_true fun hw=>h ⟨j,hj,hjv,hw⟩
   ·rw[he,if_pos (by decide)]
    exact⟨fun⟨j,hj,hjv,_⟩=>absurd hjv (hf j hj),fun _=>rfl⟩
  refine iter_if (row g v).length _ (fun i ag2 hi hp=>(body i ag2 hi).1 hp) (fun i ag2 hi hp=>(body i ag2 hi).2 hp) (fun ag2=> ?_) 1000 (by omega)
  unfold ref01_Valid_s2 ref01_Valid_k4
  rw[ckT (by omega),if_neg (show¬(((row g v).length:Nat):Int)<((row g v).length:Int) by omega),wr (by omega) (by omega)]
 have outer2:=iter_if (step:=ref01_Valid_s1 1000 g) (K:=some true) (bad:=false) g.2.length (fun v=>∀i,i<(row g v).length->SymAt g v i) (fun v ag hv hp=> ?_) (fun v ag hv hp=> ?_) (fun ag=> ?_) 1000 (by omega)
 ·exact⟨fun h=>outer2.1 h.sym,fun h=>outer2.2 fun hs=>h ⟨h1.1,h1.2,h2,hn,hs⟩⟩
 ·unfold ref01_Valid_s1
  rw[if_pos (by omega)]
  exact(inner v ag hv).1 hp
 ·unfold ref01_Valid_s1
  rw[if_pos (by omega)]
  exact(inner v ag hv).2 hp
 ·unfold ref01_Valid_s1 ref01_Valid_k3
  rw[if_neg (by omega)]
theorem at_set {α:Type} [Inhabited α] (l:List α) (i k:Nat) (y:α) (hi:i<l.length):at' (l.set i y) (k:Int)=if k=i then y else at' l (k:Int):=by
 rw[at'_nat,at'_nat,List.getD_eq_getElem?_getD,List.getD_eq_getElem?_getD,List.getElem?_set]
 by_cases h:i=k
 ·rw[if_pos h,if_pos h.symm,if_pos (by omega)];rfl
 ·rw[if_neg h,if_neg (Ne.symm h)]
def IdOk (l:List Int) (k:Nat):Prop:=(0<=at' l (k:Int)∧at' l (k:Int)<=255)∧∀j,j<k->at' l (j:Int)≠at' l (k:Int)
theorem differentIDs_eq (l:List Int) (hl:l.length<=30):((∀k,k<l.length->IdOk l k)->m_graph_DifferentIDs 1000 l=some true)∧(¬(∀k,k<l.length->IdOk l k)->m_graph_DifferentIDs 1000 l=some false):=by
 unfold m_graph_DifferentIDs
 have key:=iter_ifS (step:=graph_DifferentIDs_s1 l) (K:=fun _=>some true) (bad:=false) l.length (IdOk l) (fun k x=>x.1=(k:Int)∧x.2.length=256∧∀z:Nat,z<256->(at' x.2 (z:Int)=true↔∃j,j<k∧at' l (j:Int)=(z:Int))) ?_ ?_ ?_ 1000 ((0:Int),(List.replicate 256 false)) ⟨rfl,List.length_replicate ..,fun z hz=> ?_⟩ (by omega)
 ·exact⟨fun h=>by obtain⟨x,_,hx⟩:=key.1 h;exact hx,key.2⟩
 ·rintro k ⟨x1,x2⟩ ag hk ⟨hx,hlen,hs⟩ ⟨hr,hd⟩
  dsimp only at hx hlen hs
  subst hx
  obtain⟨z,hz⟩:∃z:Nat,at' l (k:Int)=z:=⟨(at' l (k:Int)).toNat,by omega⟩
  have hz2:z<256:=by omega
  have hno:¬at' x2 (z:Int)=true:=by
   rw[hs z hz2]
   rintro⟨j,hj,he⟩
   exact hd j hj (he.trans hz.symm)
  refine⟨((k:Int)+1,x2.set z true),⟨by simp,by simp[hlen],fun y hy=> ?_⟩,?_⟩
  ·dsimp only
   rw[at_set _ _ _ _ (by omega)]
   by_cases hyz:y=z
   ·subst hyz
    rw[if_pos rfl]
    exact⟨fun _=>⟨k,by omega,hz⟩,fun _=>rfl⟩
   ·rw[if_neg hyz,hs y hy]
    constructor
    ·rintro⟨j,hj,he⟩;exact⟨j,by omega,he⟩
    ·rintro⟨j,hj,he⟩
     by_cases hjk:j=k
     ·subst hjk;rw[hz]at he;omega
     ·exact⟨j,by omega,he⟩
  ·unfold graph_DifferentIDs_s1 graph_DifferentIDs_k2
   dsimp only
   rw[if_pos (by omega),ckT (by omega),hz,if_neg (by omega),if_neg (by omega),ckT ⟨by omega,hlen⟩,if_neg hno,ckT ⟨by omega,hlen⟩,wr (by omega) (by omega)]
   rfl
 ·rintro k ⟨x1,x2⟩ ag hk ⟨hx,hlen,hs⟩ hp
  dsimp only at hx hlen hs
  subst hx
  unfold graph_DifferentIDs_s1 graph_DifferentIDs_k2
  dsimp only
  rw[if_pos (by omega),ckT (by omega)]
  by_cases h1:at' l (k:Int)<0
  ·rw[if_pos h1,if_pos rfl]
  rw[if_neg h1]
  by_cases h2:255<at' l (k:Int)
  ·rw[if_pos h2,if_pos rfl]
  rw[if_neg h2]
  obtain⟨z,hz⟩:∃z:Nat,at' l (k:Int)=z:=⟨(at' l (k:Int)).toNat,by omega⟩
  rw[hz,ckT ⟨by omega,hlen⟩,if_pos]
  rw[hs z (by omega)]
  apply Classical.byContradiction
  intro hc
  exact hp ⟨by omega,fun j hj he=>hc ⟨j,hj,he.trans hz⟩⟩
 ·rintro⟨x1,x2⟩ ag ⟨hx,_,_⟩
  dsimp only at hx
  subst hx
  unfold graph_DifferentIDs_s1 graph_DifferentIDs_k1
  dsimp only
  rw[if_neg (by omega)]
 ·rw[show at' (List.replicate 256 false) (z:Int)=false by rw[at'_nat,List.getD_eq_getElem?_getD,List.getElem?_replicate,if_pos hz];rfl]
  exact⟨fun h=>(by cases h),fun⟨j,hj,_⟩=>(by omega)⟩
theorem mget_mset {κ ν:Type} [DecidableEq κ] (k k':κ) (v:ν):∀l:List (κ×ν),mget k' (mset k v l)=if k'=k then some v else mget k' l
 | []=>by simp only[mset,mget]
 | x :: xs => by
  simp only[mset]
  by_cases h:k=x.1
  ·rw[if_pos h];simp only[mget]
   by_cases h2:k'=k
   ·rw[if_pos h2,if_pos h2]
   ·rw[if_neg h2,if_neg h2,if_neg (fun h3=>h2 (h3.trans h.symm))]
  ·rw[if_neg h];simp only[mget]
   by_cases h2:k'=x.1
   ·rw[if_pos h2,if_neg (fun h3=>h (h3.symm.trans h2)),if_pos h2]
   ·rw[if_neg h2,mget_mset k k' v xs]
    by_cases h3:k'=k
    ·rw[if_pos h3,if_pos h3]
    ·rw[if_neg h3,if_neg h3,if_neg h2]
theorem mem_mset {κ ν:Type} [DecidableEq κ] {k:κ} {v:ν} {z:κ×ν} {l:List (κ×ν)} (h0:mget k l=none):z∈mset k v l↔z=(k,v)∨z∈l:=by
 rw[mset_none k v l h0]
 simp[or_comm]
theorem mget_none {κ ν:Type} [DecidableEq κ] {k:κ}:∀{l:List (κ×ν)},(∀v,(k,v)∉l)->mget k l=none
 | [],_=>rfl
 |x::xs,h=>by
  simp only[mget]
  rw[if_neg (fun e=>h x.2 (by rw[e];exact List.mem_cons_self ..))]
  exact mget_none fun v hv=>h v (List.mem_cons_of_mem _ hv)
theorem mget_none_mem {κ ν:Type} [DecidableEq κ] {k:κ} {v:ν}:∀{l:List (κ×ν)},mget k l=none->(k,v)∉l
 | [],_=>by simp
 | x :: xs, h => by
  simp only[mget]at h
  by_cases e:k=x.1
  ·rw[if_pos e]at h;cases h
  ·rw[if_neg e]at h
   intro hm
   rcases List.mem_cons.1 hm with h2|h2
   ·exact e (by rw[<-h2])
   ·exact mget_none_mem h h2
theorem mget_some {κ ν:Type} [DecidableEq κ] {k:κ} {v:ν}:∀{l:List (κ×ν)},mget k l=some v->(k,v)∈l
 |x::xs,h=>by
  simp only[mget]at h
  by_cases e:k=x.1
  ·rw[if_pos e]at h;cases h;rw[e];exact List.mem_cons_self ..
  ·rw[if_neg e]at h;exact List.mem_cons_of_mem _ (mget_some h)
theorem mrun_all {κ ν:Type} (p:κ×ν->Prop) [DecidablePred p]:∀l:List (κ×ν),mrun (fun kv x=>if p kv then some false else x) (some true) l=some (decide (∀z∈l,¬p z))
 | []=>by simp[mrun]
 |x::xs=>by
  show(if p x then some false else mrun _ (some true) xs)=_
  rw[mrun_all p xs]
  by_cases h:p x
  ·rw[if_pos h];congr 1;symm;exact decide_eq_false fun h2=>h2 x (List.mem_cons_self ..) h
  ·rw[if_neg h];congr 1;apply decide_eq_decide.2;simp[h]
def Read (ps:List (List (Int×Int))) (v i:Nat) (z:(Int×Int)×Int):Prop:=∃a b:Nat,(a<v∨(a=v∧b<i))∧b<(at' ps (a:Int)).length∧z=(((a:Int),(lnk (at' ps (a:Int)) b).1),(lnk (at' ps (a:Int)) b).2)
def SymPs (ps:List (List (Int×Int))):Prop:=(∀v,v<ps.length->LinksOk (at' ps (v:Int)) v ps.length)∧∀v,v<ps.length->∀i,i<(at' ps (v:Int)).length->SymAt ([],ps) v i
theorem symmetric_eq (ps:List (List (Int×Int))) (hn:ps.length<=30) (hd:∀v,v<ps.length->(at' ps (v:Int)).length<=30):(SymPs ps->m_graph_symmetric 1000 ps=some true)∧(¬SymPs ps->m_graph_symmetric 1000 ps=some false):=by
 unfold m_graph_symmetric
 have inner:∀(v:Nat) (m:List ((Int×Int)×Int)) ag,v<ps.length->(∀z,z∈m↔Read ps v 0 z)->
   (LinksOk (at' ps (v:Int)) v ps.length->∃m',(∀z,z∈m'↔Read ps (v+1) 0 z)∧iter (graph_symmetric_s3 ps ((v:Int),m) ag) 1000 ((0:Int),m)=ag ((v:Int)+1,m'))∧
   (¬LinksOk (at' ps (v:Int)) v ps.length->iter (graph_symmetric_s3 ps ((v:Int),m) ag) 1000 ((0:Int),m)=some false):=by
  intro v m ag hv hm
  have hdv:=hd v hv
  have key:=iter_ifS (step:=graph_symmetric_s3 ps ((v:Int),m) ag) (K:=fun x=>ag ((v:Int)+1,x.2)) (bad:=false) (at' ps (v:Int)).length (LinkOk (at' ps (v:Int)) v ps.length) (fun i x=>x.1=(i:Int)∧∀z,z∈x.2↔Read ps v i z) ?_ ?_ ?_ 1000 ((0:Int),m) ⟨rfl,hm⟩ (by omega)
  ·refine⟨fun h=> ?_,fun h=>key.2 h⟩
   obtain⟨x,⟨hx1,hx2⟩,hx⟩:=key.1 h
   refine⟨x.2,fun z=>(hx2 z).trans ⟨?_,?_⟩,hx⟩
   ·rintro⟨a,b,h1,h2,h3⟩;exact⟨a,b,by omega,h2,h3⟩
   ·rintro⟨a,b,h1,h2,h3⟩
    refine⟨a,b,?_,h2,h3⟩
    by_cases ha:a=v
    ·subst ha;exact .inr ⟨rfl,h2⟩
    ·omega
  ·rintro i ⟨x1,x2⟩ ag2 hi ⟨hx,hs⟩ ⟨p1,p2,p3,p4⟩
   dsimp only at hx hs
   subst hx
   have hg:mget (((v:Int),(lnk (at' ps (v:Int)) i).1)) x2=none:=by
    apply mget_none
    intro w hw
    obtain⟨a,b,h1,h2,h3⟩:=(hs _).1 hw
    simp only[Prod.mk.injEq]at h3
    obtain⟨⟨h4,h5⟩,_⟩:=h3
    have:a=v:=by omega
    subst this
    have hb:b<i:=by omega
    exact p4 b hb h5.symm
   refine⟨((i:Int)+1,mset (((v:Int),(lnk (at' ps (v:Int)) i).1)) (lnk (at' ps (v:Int)) i).2 x2),⟨by simp,fun z=> ?_⟩,?_⟩
   ·dsimp only
    rw[mem_mset hg,hs]
    constructor
    ·rintro(rfl|⟨a,b,h1,h2,h3⟩)
     ·exact⟨v,i,.inr ⟨rfl,by omega⟩,hi,rfl⟩
     ·exact⟨a,b,by omega,h2,h3⟩
    ·rintro⟨a,b,h1,h2,h3⟩
     by_cases hab:a=v∧b=i
     ·left;rw[h3,hab.1,hab.2]
     ·right;exact⟨a,b,by omega,h2,h3⟩
   ·replace p1:0<=(at' (at' ps (v:Int)) (i:Int)).1∧(at' (at' ps (v:Int)) (i:Int)).1<=(ps.length:Int) - 1:=p1
    replace p3:1<=(at' (at' ps (v:Int)) (i:Int)).2∧(at' (at' ps (v:Int)) (i:Int)).2<=15:=p3
    unfold graph_symmetric_s3 graph_symmetric_k3 graph_symmetric_k4
    dsimp only
    rw[if_pos (by omega),ckT (by omega),if_neg (by omega),if_neg (by omega),if_neg (by rw[decide_eq_false p2];simp),if_neg (by omega),if_neg (by rw[decide_eq_false (by omega)];simp),hg,if_neg (by simp),wr (by omega) (by omega)]
  ·rintro i ⟨x1,x2⟩ ag2 hi ⟨hx,hs⟩ hp
   dsimp only at hx hs
   subst hx
   unfold graph_symmetric_s3 graph_symmetric_k3 graph_symmetric_k4
   dsimp only
   rw[if_pos (by omega),ckT (by omega)]
   by_cases h1:(lnk (at' ps (v:Int)) i).1<0
   ·rw[if_pos h1,if_pos rfl]
   rw[if_neg h1]
   by_cases h2:(ps.length:Int)<=(lnk (at' ps (v:Int)) i).1
   ·rw[if_pos h2,if_pos rfl]
   rw[if_neg h2]
   by_cases h3:(lnk (at' ps (v:Int)) i).1=v
   ·rw[if_pos (decide_eq_true h3)]
   rw[if_neg (by rw[decide_eq_false h3];simp)]
   by_cases h4:(lnk (at' ps (v:Int)) i).2<1
   ·rw[if_pos h4,if_pos rfl]
   rw[if_neg h4]
   by_cases h5:15<(lnk (at' ps (v:Int)) i).2
   ·rw[if_pos (decide_eq_true h5)]
   rw[if_neg (by rw[decide_eq_false h5];simp)]
   have:∃k,k<i∧(lnk (at' ps (v:Int)) k).1=(lnk (at' ps (v:Int)) i).1:=by
    apply Classical.byContradiction
    intro hc
    exact hp ⟨by omega,h3,by omega,fun k hk he=>hc ⟨k,hk,he⟩⟩
   obtain⟨k,hk,he⟩:=this
   have hin:=(hs _).2 ⟨v,k,.inr ⟨rfl,hk⟩,by omega,rfl⟩
   rw[if_pos]
   rw[<-he]
   cases hg:mget (((v:Int),(lnk (at' ps (v:Int)) k).1)) x2 with
   |some w=>rfl
   | none => exact absurd hin (by
     intro hin
     exact mget_none_mem hg hin)
  ·rintro⟨x1,x2⟩ ag2 ⟨hx,hs⟩
   dsimp only at hx hs
   subst hx
   unfold graph_symmetric_s3 graph_symmetric_k2
   dsimp only
   rw[if_neg (by omega),wr (by omega) (by omega)]
 have outer:=iter_ifS (step:=graph_symmetric_s2 1000 ps) (K:=fun x=>graph_symmetric_k1 x.2) (bad:=false) ps.length (fun v=>LinksOk (at' ps (v:Int)) v ps.length) (fun v x=>x.1=(v:Int)∧∀z,z∈x.2↔Read ps v 0 z) ?_ ?_ ?_ 1000 ((0:Int),[]) ⟨rfl,fun z=>⟨fun h=>(by cases h),fun⟨a,b,h1,_⟩=>(by omega)⟩⟩ (by omega)
 rotate_left
 ·rintro v ⟨x1,x2⟩ ag hv ⟨hx,hs⟩ hp
  dsimp only at hx hs
  subst hx
  obtain⟨m',h1,h2⟩:=(inner v x2 ag hv hs).1 hp
  refine⟨((v:Int)+1,m'),⟨by simp,h1⟩,?_⟩
  ·unfold graph_symmetric_s2
   dsimp only
   rw[if_pos (by omega),ckT (by omega)]
   exact h2
 ·rintro v ⟨x1,x2⟩ ag hv ⟨hx,hs⟩ hp
  dsimp only at hx hs
  subst hx
  unfold graph_symmetric_s2
  dsimp only
  rw[if_pos (by omega),ckT (by omega)]
  exact(inner v x2 ag hv hs).2 hp
 ·rintro⟨x1,x2⟩ ag ⟨hx,hs⟩
  dsimp only at hx hs
  subst hx
  unfold graph_symmetric_s2
  dsimp only
  rw[if_neg (by omega)]
 by_cases hL:∀v,v<ps.length->LinksOk (at' ps (v:Int)) v ps.length
 rotate_left
 ·exact⟨fun h=>absurd h.1 hL,fun _=>outer.2 hL⟩
 obtain⟨⟨x1,x2⟩,⟨hx,hs⟩,he⟩:=outer.1 hL
 rw[he]
 dsimp only at hs ⊢
 have hk:graph_symmetric_k1 x2=some (decide (∀z∈x2,¬(Option.getD (mget (z.1.2,z.1.1) x2) (0:Int))≠z.2)):=mrun_all (fun z:(Int×Int)×Int=>(Option.getD (mget (z.1.2,z.1.1) x2) (0:Int))≠z.2) x2
 rw[hk]
 have hiff:(∀z∈x2,¬(Option.getD (mget (z.1.2,z.1.1) x2) (0:Int))≠z.2)↔∀v,v<ps.length->∀i,i<(at' ps (v:Int)).length->SymAt ([],ps) v i:=by
  constructor
  ·intro h v hv i hi
   have hw:=(hL v hv i hi).2.2.1
   have hin:=(hs (((v:Int),(lnk (at' ps (v:Int)) i).1),(lnk (at' ps (v:Int)) i).2)).2 ⟨v,i,.inl hv,hi,rfl⟩
   have h2:=Decidable.not_not.1 (h _ hin)
   dsimp only at h2
   cases hg:mget ((lnk (at' ps (v:Int)) i).1,(v:Int)) x2 with
   |none=>rw[hg]at h2;simp only[Option.getD]at h2;omega
   | some w =>
    rw[hg]at h2;simp only[Option.getD]at h2
    obtain⟨a,b,h3,h4,h5⟩:=(hs _).1 (mget_some hg)
    simp only[Prod.mk.injEq]at h5
    obtain⟨⟨h6,h7⟩,h8⟩:=h5
    refine⟨b,?_,?_,?_⟩
    ·show b<(at' ps (lnk (at' ps (v:Int)) i).1).length
     rw[h6];exact h4
    ·show(lnk (at' ps (lnk (at' ps (v:Int)) i).1) b).1=v
     rw[h6];exact h7.symm
    ·show(lnk (at' ps (lnk (at' ps (v:Int)) i).1) b).2=(lnk (at' ps (v:Int)) i).2
     rw[h6,<-h8];exact h2
  ·intro h z hz hne
   obtain⟨a,b,h3,h4,rfl⟩:=(hs z).1 hz
   have ha:a<ps.length:=by omega
   apply hne
   obtain⟨j,hj1,hj2,hj3⟩:=h a ha b h4
   have hu:=(hL a ha b h4).1
   obtain⟨u,hu'⟩:∃u:Nat,(lnk (at' ps (a:Int)) b).1=u:=⟨(lnk (at' ps (a:Int)) b).1.toNat,by omega⟩
   replace hj1:j<(at' ps (lnk (at' ps (a:Int)) b).1).length:=hj1
   replace hj2:(lnk (at' ps (lnk (at' ps (a:Int)) b).1) j).1=a:=hj2
   replace hj3:(lnk (at' ps (lnk (at' ps (a:Int)) b).1) j).2=(lnk (at' ps (a:Int)) b).2:=hj3
   rw[hu']at hj1 hj2 hj3
   have hun:u<ps.length:=by omega
   dsimp only
   rw[hu',<-hj3]
   have hin:=(hs (((u:Int),(lnk (at' ps (u:Int)) j).1),(lnk (at' ps (u:Int)) j).2)).2 ⟨u,j,.inl hun,hj1,rfl⟩
   rw[hj2]at hin
   cases hg:mget ((u:Int),(a:Int)) x2 with
   |none=>exact absurd hin (mget_none_mem hg)
   | some w =>
    obtain⟨a',b',h3',h4',h5⟩:=(hs _).1 (mget_some hg)
    simp only[Prod.mk.injEq]at h5
    obtain⟨⟨h6,h7⟩,h8⟩:=h5
    have:a'=u:=by omega
    subst this
    have hbj:b'=j:=by
     rcases Nat.lt_trichotomy b' j with hl|hl|hl
     ·exact absurd (h7.symm.trans hj2.symm) ((hL a' hun j hj1).2.2.2 b' hl)
     ·exact hl
     ·exact absurd (hj2.trans h7) ((hL a' hun b' h4').2.2.2 j hl)
    subst hbj
    exact h8
 by_cases hS:∀v,v<ps.length->∀i,i<(at' ps (v:Int)).length->SymAt ([],ps) v i
 ·rw[decide_eq_true (hiff.2 hS)]
  exact⟨fun _=>rfl,fun h=>absurd ⟨hL,hS⟩ h⟩
 ·rw[decide_eq_false (fun h=>hS (hiff.1 h))]
  exact⟨fun h=>absurd h.2 hS,fun _=>rfl⟩
theorem pigeon:∀(N:Nat) (f:Nat->Nat) (k:Nat),(∀i,i<k->f i<N)->(∀i j,i<j->j<k->f i≠f j)->k<=N
 |0,f,k,h,_=>by
  cases k with
  |zero=>omega
  |succ k=>exact absurd (h 0 (by omega)) (by omega)
 | N + 1, f, k, h, hd => by
  by_cases hex:∃a,a<k∧f a=N
  ·obtain⟨a,ha,hfa⟩:=hex
   have:=pigeon N (fun i=>if i<a then f i else f (i+1)) (k - 1) (fun i hi=>by
    split
    ·have:=h i (by omega);have:=hd i a (by omega) ha;omega
    ·have:=h (i+1) (by omega);have:=hd a (i+1) (by omega) (by omega);omega) (fun i j hij hj=>by
    split<;>split
    ·exact hd i j hij (by omega)
    ·exact hd i (j+1) (by omega) (by omega)
    ·omega
    ·exact hd (i+1) (j+1) (by omega) (by omega))
   omega
  ·have:=pigeon N f k (fun i hi=>by
    have:=h i hi
    have:f i≠N:=fun e=>hex ⟨i,hi,e⟩
    omega) hd
   omega
theorem deg_lt {l:List (Int×Int)} {v n:Nat} (hv:v<n) (h:LinksOk l v n):l.length<n:=by
 have:=pigeon n (fun i=>if i=l.length then v else(lnk l i).1.toNat) (l.length+1) (fun i hi=>by
  split
  ·exact hv
  ·have:=(h i (by omega)).1;omega) (fun i j hij hj=>by
  rw[if_neg (by omega)]
  have h1:=(h i (by omega)).1
  split
  ·have:=(h i (by omega)).2.1;omega
  ·have h2:=(h j (by omega)).1
   have:=(h j (by omega)).2.2.2 i hij
   omega)
 omega
theorem valid_eq (g:GR) (hl:light g):(VG g->m_graph_Valid 1000 g=some true)∧(¬VG g->m_graph_Valid 1000 g=some false):=by
 obtain⟨l1,l2,l3⟩:=hl
 unfold m_graph_Valid graph_Valid_k1 graph_Valid_k2
 by_cases h1:g.1.length<1
 ·rw[if_pos (by omega)]
  exact⟨fun h=>by have:=h.n1;have:=h.len;omega,fun _=>rfl⟩
 rw[if_neg (by omega)]
 by_cases h2:24<g.1.length
 ·rw[if_pos (by omega)]
  exact⟨fun h=>by have:=h.n24;have:=h.len;omega,fun _=>rfl⟩
 rw[if_neg (by omega)]
 by_cases h3:g.1.length=g.2.length
 rotate_left
 ·rw[decide_eq_true (by omega)]
  exact⟨fun h=>absurd h.len h3,fun _=>rfl⟩
 rw[decide_eq_false (by omega),if_neg (by simp)]
 by_cases h4:∀k,k<g.1.length->IdOk g.1 k
 rotate_left
 ·rw[(differentIDs_eq g.1 l1).2 h4,bindS rfl]
  exact⟨fun h=>absurd (fun k hk=>⟨(h.node k (by omega)).id,(h.node k (by omega)).ids⟩) h4,fun _=>rfl⟩
 rw[(differentIDs_eq g.1 l1).1 h4,bindS rfl,if_pos rfl]
 by_cases h5:SymPs g.2
 ·rw[(symmetric_eq g.2 l2 l3).1 h5]
  exact⟨fun _=>rfl,fun h=>absurd ⟨by omega,by omega,h3,fun v hv=>⟨(h4 v (by omega)).1,deg_lt hv (h5.1 v hv),h5.1 v hv,(h4 v (by omega)).2⟩,h5.2⟩ h⟩
 ·rw[(symmetric_eq g.2 l2 l3).2 h5]
  exact⟨fun h=>absurd ⟨fun v hv=>(h.node v hv).links,h.sym⟩ h5,fun _=>rfl⟩
theorem VG.light {g:GR} (h:VG g):light g:=⟨by have:=h.n24;have:=h.len;omega,by have:=h.n24;omega,fun v hv=>by have:=(h.node v hv).deg;have:=h.n24;omega⟩
end Go.Proofs.YtfimaabbclepbaaGreat
end
section
namespace Go.Proofs.YtfimaabbclepbaaGreat
open Go.Sx
abbrev D (d:List Int) (v:Nat):Int:=at' d (v:Int)
def Adj (g:GR) (v u:Nat):Prop:=∃i,i<(row g v).length∧(lnk (row g v) i).1=(u:Int)
theorem VG.port {g:GR} (h:VG g) {v i:Nat} (hv:v<g.2.length) (hi:i<(row g v).length):∃u:Nat,u<g.2.length∧(lnk (row g v) i).1=(u:Int)∧Adj g v u:=by
 have hu:=((h.node v hv).links i hi).1
 exact⟨(lnk (row g v) i).1.toNat,by omega,by omega,i,hi,by omega⟩
theorem VG.back {g:GR} (h:VG g) {v u:Nat} (hv:v<g.2.length) (ha:Adj g v u):Adj g u v:=by
 obtain⟨i,hi,hu⟩:=ha
 obtain⟨j,hj,hjv,_⟩:=h.sym v hv i hi
 rw[hu]at hj hjv
 exact⟨j,hj,hjv⟩
theorem VG.adj_lt {g:GR} (h:VG g) {v u:Nat} (hv:v<g.2.length) (ha:Adj g v u):u<g.2.length:=by
 obtain⟨i,hi,hu⟩:=ha
 have:=((h.node v hv).links i hi).1
 omega
def cneg (d:List Int):Nat:=d.countP fun x=>decide (x<0)
structure Core (g:GR) (s:Nat) (d:List Int):Prop where
 len:d.length=g.2.length
 lo:∀v,v<g.2.length -> -1<=D d v
 zero:∀v,v<g.2.length->(D d v=0↔v=s)
 near:∀v,v<g.2.length->0<D d v->∃u,u<g.2.length∧Adj g v u∧D d u=D d v - 1
 hi:∀v,v<g.2.length->D d v+(cneg d:Int)<=(g.2.length:Int)
structure Qu (g:GR) (q d:List Int) (b:Int) (done:Nat->Prop):Prop where
 mem:∀y∈q,∃v,v<g.2.length∧y=((v:Nat):Int)∧0<=D d v
 top:∀v,v<g.2.length->D d v<=b
 sort:q.Pairwise fun a c=>at' d a<=at' d c
 done:∀v,v<g.2.length->0<=D d v->((v:Nat):Int)∉q->done v->∀u,u<g.2.length->Adj g v u->0<=D d u∧D d u<=D d v+1
theorem D_getElem {d:List Int} {v:Nat} (h:v<d.length):D d v=d[v]:=by
 rw[D,at'_nat,List.getD_eq_getElem?_getD,List.getElem?_eq_getElem h];rfl
theorem cneg_set {d:List Int} {u:Nat} {x:Int} (hu:u<d.length) (hn:D d u<0) (hx:0<=x):cneg (d.set u x)+1=cneg d:=by
 unfold cneg
 rw[List.countP_set hu]
 have hp:0<d.countP fun x=>decide (x<0):=by
  rw[List.countP_pos_iff]
  exact⟨d[u],List.getElem_mem hu,by rw[<-D_getElem hu];simpa using hn⟩
 rw[D_getElem hu]at hn
 rw[if_pos (by simpa using hn),if_neg (by simp;omega)]
 omega
theorem assign {g:GR} {s:Nat} {q d:List Int} {b:Int} {done:Nat->Prop} (hV:VG g) (hC:Core g s d) {x u:Nat} (hQ:Qu g q d (D d x+1) done) (hx:x<g.2.length) (hx0:0<=D d x) (hu:u<g.2.length) (hun:D d u<0) (ha:Adj g x u):
  Core g s (d.set u (D d x+1))∧Qu g (q++[(u:Int)]) (d.set u (D d x+1)) (D d x+1) done:=by
 have hlen:=hC.len
 have hat:∀v,D (d.set u (D d x+1)) v=if v=u then D d x+1 else D d v:=fun v=>at_set _ _ _ _ (by omega)
 have hcn:=cneg_set (x:=D d x+1) (by omega:u<d.length) hun (by omega)
 refine⟨⟨by simp[hlen],fun v hv=> ?_,fun v hv=> ?_,fun v hv=> ?_,fun v hv=> ?_⟩,⟨fun y hy=> ?_,fun v hv=> ?_,?_,fun v hv h0 hq hd w hw hadj=> ?_⟩⟩
 ·rw[hat];split
  ·omega
  ·exact hC.lo v hv
 ·rw[hat];split
  ·rename_i h;subst h
   have:=(hC.zero v hv)
   constructor
   ·intro;omega
   ·intro h;have:=this.2 h;omega
  ·exact hC.zero v hv
 ·rw[hat];split
  ·rename_i h;subst h
   intro _
   refine⟨x,hx,hV.back hx ha,?_⟩
   rw[hat,if_neg (by intro h;subst h;omega)];omega
  ·intro h0
   obtain⟨w,hw,hadj,he⟩:=hC.near v hv h0
   refine⟨w,hw,hadj,?_⟩
   rw[hat,if_neg (by intro h;subst h;omega)];exact he
 ·rw[hat];split
  ·have:=hC.hi x hx;omega
  ·have:=hC.hi v hv;omega
 ·rcases List.mem_append.1 hy with hy|hy
  ·obtain⟨v,hv,rfl,h0⟩:=hQ.mem y hy
   refine⟨v,hv,rfl,?_⟩
   rw[hat];split<;>omega
  ·simp only[List.mem_singleton]at hy
   refine⟨u,hu,hy,?_⟩
   rw[hat,if_pos rfl];omega
 ·rw[hat];split
  ·omega
  ·exact hQ.top v hv
 ·rw[List.pairwise_append]
  have hq:∀y∈q,at' (d.set u (D d x+1)) y=at' d y:=by
   intro y hy
   obtain⟨v,hv,rfl,h0⟩:=hQ.mem y hy
   have:=hat v
   rw[if_neg (by intro h;subst h;omega)]at this
   exact this
  refine⟨hQ.sort.imp_of_mem fun {a c} h1 h2 h=> ?_,List.pairwise_singleton ..,fun y hy z hz=> ?_⟩
  ·rw[hq a h1,hq c h2];exact h
  ·simp only[List.mem_singleton]at hz
   subst hz
   rw[hq y hy]
   have h2:=hat u
   rw[if_pos rfl]at h2
   obtain⟨v,hv,rfl,h0⟩:=hQ.mem y hy
   have:=hQ.top v hv
   show D d v<=D (d.set u (D d x+1)) u
   omega
 ·have hvu:v≠u:=by
   rintro rfl
   exact hq (by simp)
  rw[hat,if_neg hvu]at h0
  rw[hat v,if_neg hvu]
  have:=hQ.done v hv h0 (fun h=>hq (List.mem_append_left _ h)) hd w hw hadj
  rw[hat w,if_neg (by rintro rfl;omega)]
  exact this
theorem search_inner {g:GR} (hV:VG g) {s x:Nat} (hx:x<g.2.length) (rest d0:List Int) (ag:List Int×List Int->Option (List Int)) (r:List Int->Prop)
  (hC:Core g s d0) (hx0:0<=D d0 x) (hQ:Qu g rest d0 (D d0 x+1) (fun v=>v≠x)) (hm:rest.length+cneg d0<=g.2.length)
  (hag:∀q d,Core g s d->D d x=D d0 x->Qu g q d (D d x+1) (fun _=>True)->q.length+cneg d=rest.length+cneg d0->(∀y∈q,D d0 x<=at' d y)->OK r (ag (q,d)))
  (hge:∀y∈rest,D d0 x<=at' d0 y):
  OK r (iter (graph_search_s2 g ((x:Int)::rest,d0) ag) 1000 ((0:Int),rest,d0)):=by
 have hdeg:=(hV.node x hx).deg
 have h24:=hV.n24
 refine iter_ok (fun z:Int×List Int×List Int=>∃k:Nat,z.1=k∧k<=(row g x).length∧Core g s z.2.2∧D z.2.2 x=D d0 x∧Qu g z.2.1 z.2.2 (D d0 x+1) (fun v=>v≠x)∧z.2.1.length+cneg z.2.2=rest.length+cneg d0∧(∀i,i<k->∀u:Nat,(lnk (row g x) i).1=u->0<=D z.2.2 u)∧(∀y∈z.2.1,D d0 x<=at' z.2.2 y)) (fun z=>31 - z.1.toNat) ?_ 1000 _ ⟨0,rfl,by omega,hC,rfl,hQ,rfl,fun i hi=>by omega,hge⟩ (by simp)
 rintro⟨z1,q,d⟩ ag2 ⟨k,hz,hk,hC,hdx,hQ,hm2,hp,hge⟩ hag2
 dsimp only at hz hC hdx hQ hm2 hp hge
 subst hz
 have hlen:=hC.len
 have e0:at' ((x:Int)::rest) 0=(x:Int):=rfl
 unfold graph_search_s2 graph_search_k3
 dsimp only
 rw[e0]
 by_cases hlt:k<(row g x).length
 ·rw[if_pos (show(k:Int)<((row g x).length:Int) by omega),ckT (show 0<=(k:Int)∧(k:Int)<((row g x).length:Int) by omega)]
  obtain⟨u,hu,hue,hadj⟩:=hV.port hx hlt
  rw[show at' (at' g.2 (x:Int)) (k:Int)=lnk (row g x) k from rfl,hue,ckT (by omega)]
  have hhi:=hC.hi x hx
  by_cases hneg:at' d (u:Int)<0
  ·have hQ':Qu g q d (D d x+1) (fun v=>v≠x):=by rw[hdx];exact hQ
   obtain⟨c1,c2⟩:=assign (b:=0) hV hC hQ' hx (by omega) hu hneg hadj
   have hcn:=cneg_set (x:=D d x+1) (by omega:u<d.length) hneg (by omega)
   have hat:∀v,D (d.set u (D d x+1)) v=if v=u then D d x+1 else D d v:=fun v=>at_set _ _ _ _ (by omega)
   have hxu:x≠u:=by rintro rfl;have:D d x<0:=hneg;omega
   rw[if_pos hneg,ckT (by omega),ckT (by omega),ckT (by simp only[List.length_singleton];omega),wr (x:=(k:Int)+1) (by omega) (by omega),wr (x:=at' d (x:Int)+1) (by show -9223372036854775808<=D d x+1;omega) (by show D d x+1<=_;omega)]
   refine hag2 _ ⟨k+1,by simp,by omega,c1,?_,?_,?_,?_,?_⟩ (by dsimp only;omega)
   ·show D (d.set u (D d x+1)) x=_
    rw[hat,if_neg hxu];exact hdx
   ·rw[<-hdx];exact c2
   ·show(q++[(u:Int)]).length+cneg (d.set u (D d x+1))=_
    simp only[List.length_append,List.length_singleton]
    omega
   ·intro i hi w hw
    show 0<=D (d.set u (D d x+1)) w
    rw[hat]
    split
    ·omega
    ·by_cases hik:i=k
     ·subst hik;omega
     ·exact hp i (by omega) w hw
   ·intro y hy
    show D d0 x<=at' (d.set u (D d x+1)) y
    rcases List.mem_append.1 hy with hy|hy
    ·have h1:=hge y hy
     obtain⟨v,hv,rfl,h0⟩:=hQ.mem y hy
     have h2:=hat v
     rw[if_neg (by intro h;subst h;have:D d v<0:=hneg;omega)]at h2
     rw[show at' (d.set u (D d x+1)) (v:Int)=D d v from h2]
     exact h1
    ·simp only[List.mem_singleton]at hy
     subst hy
     rw[show at' (d.set u (D d x+1)) (u:Int)=D d x+1 from(hat u).trans (if_pos rfl)]
     omega
  ·rw[if_neg hneg,wr (by omega) (by omega)]
   refine hag2 _ ⟨k+1,by simp,by omega,hC,hdx,hQ,hm2,?_,hge⟩ (by dsimp only;omega)
   intro i hi w hw
   by_cases hik:i=k
   ·subst hik
    have:w=u:=by omega
    subst this
    show 0<=at' d (w:Int)
    omega
   ·exact hp i (by omega) w hw
 ·rw[if_neg (show¬(k:Int)<((row g x).length:Int) by omega)]
  have hke:k=(row g x).length:=by omega
  refine hag q d hC hdx ⟨hQ.mem,fun v hv=>by rw[hdx];exact hQ.top v hv,hQ.sort,fun v hv h0 hq _ u hu hadj=> ?_⟩ hm2 hge
  by_cases hvx:v=x
  ·subst hvx
   obtain⟨i,hi,hie⟩:=hadj
   exact⟨hp i (by omega) u hie,by rw[hdx];exact hQ.top u hu⟩
  ·exact hQ.done v hv h0 hq hvx u hu hadj
structure Dist (g:GR) (s:Nat) (d:List Int):Prop where
 len:d.length=g.2.length
 lo:∀v,v<g.2.length -> -1<=D d v
 zero:∀v,v<g.2.length->(D d v=0↔v=s)
 near:∀v,v<g.2.length->0<D d v->∃u,u<g.2.length∧Adj g v u∧D d u=D d v - 1
 next:∀v,v<g.2.length->0<=D d v->∀u,u<g.2.length->Adj g v u->0<=D d u∧D d u<=D d v+1
 hi:∀v,v<g.2.length->D d v<=(g.2.length:Int)
theorem search_loop {g:GR} (hV:VG g) {s:Nat} (d0:List Int) (q0:List Int) (hC:Core g s d0) (hQ:Qu g q0 d0 (match q0 with|[]=>1000|y::_=>at' d0 y+1) (fun _=>True)) (hm:q0.length+cneg d0<=g.2.length):
  OK (Dist g s) (iter (graph_search_s1 1000 g) 1000 (q0,d0)):=by
 have h24:=hV.n24
 refine iter_ok (fun z:List Int×List Int=>Core g s z.2∧Qu g z.1 z.2 (match z.1 with|[]=>1000|y::_=>at' z.2 y+1) (fun _=>True)∧z.1.length+cneg z.2<=g.2.length) (fun z=>z.1.length+cneg z.2) ?_ 1000 _ ⟨hC,hQ,hm⟩ (by dsimp only;omega)
 rintro⟨q,d⟩ ag ⟨hC,hQ,hm⟩ hag
 dsimp only at hC hQ hm
 unfold graph_search_s1 graph_search_k2
 dsimp only
 cases q with
 |nil=>
  rw[if_neg (by simp)]
  exact⟨d,rfl,hC.len,hC.lo,hC.zero,hC.near,fun v hv h0 u hu hadj=>hQ.done v hv h0 (by simp) trivial u hu hadj,fun v hv=>by have:=hC.hi v hv;omega⟩
 | cons y rest =>
  obtain⟨x,hx,rfl,hx0⟩:=hQ.mem y (List.mem_cons_self ..)
  have e0:at' ((x:Int)::rest) 0=(x:Int):=rfl
  rw[if_pos (by simp only[List.length_cons];omega),ckT (by simp only[List.length_cons];omega),ckT (by simp only[List.length_cons];omega),e0,ckT (by omega)]
  have hs:=List.pairwise_cons.1 hQ.sort
  simp only[List.length_cons]at hm
  refine search_inner hV hx rest d ag _ hC hx0 ⟨fun z hz=>hQ.mem z (List.mem_cons_of_mem _ hz),hQ.top,hs.2,fun v hv h0 hq hvx u hu hadj=>hQ.done v hv h0 (fun h=> ?_) trivial u hu hadj⟩ (by omega) (fun q' d' c1 c2 c3 c4 c5=> ?_) hs.1
  ·rcases List.mem_cons.1 h with h|h
   ·exact hvx (by omega)
   ·exact hq h
  ·refine hag (q',d') ⟨c1,⟨c3.mem,fun v hv=> ?_,c3.sort,c3.done⟩,by dsimp only;omega⟩ (by simp only[List.length_cons];omega)
   dsimp only
   have ht:=c3.top v hv
   cases q' with
   |nil=>
    dsimp only
    have:=c1.hi x hx
    omega
   |cons z zs=>
    dsimp only
    have:=c5 z (List.mem_cons_self ..)
    omega
theorem search_ok {g:GR} (hV:VG g) {s:Nat} (hs:s<g.2.length):OK (Dist g s) (m_graph_search 1000 g (s:Int)):=by
 have h24:=hV.n24
 unfold m_graph_search
 rw[ckT (by omega)]
 refine iter_ok (fun z:Int×List Int=>∃k:Nat,z.1=k∧k<=g.2.length∧z.2.length=g.2.length∧∀v,v<k->D z.2 v = -1) (fun z=>31 - z.1.toNat) ?_ 1000 _ ⟨0,rfl,by omega,by simp,fun v hv=>by omega⟩ (by simp)
 rintro⟨z1,d⟩ ag ⟨k,hz,hk,hlen,hd⟩ hag
 dsimp only at hz hlen hd
 subst hz
 unfold graph_search_s3
 simp only[List.length_replicate,Int.toNat_natCast]
 by_cases hlt:k<g.2.length
 ·rw[if_pos (by omega),ckT (by omega),wr (by omega) (by omega)]
  refine hag _ ⟨k+1,by simp,by omega,by simp[hlen],fun v hv=> ?_⟩ (by dsimp only;omega)
  show at' (d.set k (-1)) (v:Int) = -1
  rw[at_set _ _ _ _ (by omega)]
  split
  ·rfl
  ·exact hd v (by omega)
 ·rw[if_neg (by omega)]
  unfold graph_search_k1
  rw[ckT (by omega)]
  have hd':∀v,v<g.2.length->D d v = -1:=fun v hv=>hd v (by omega)
  have hat:∀v,D (d.set s 0) v=if v=s then 0 else D d v:=fun v=>at_set _ _ _ _ (by omega)
  have hcn:=cneg_set (x:=0) (by omega:s<d.length) (by rw[hd' s hs];omega) (by omega)
  have hcl:cneg d<=d.length:=List.countP_le_length ..
  refine search_loop hV _ _ ⟨by simp[hlen],fun v hv=> ?_,fun v hv=> ?_,fun v hv=> ?_,fun v hv=> ?_⟩ ⟨fun y hy=> ?_,fun v hv=> ?_,List.pairwise_singleton ..,fun v hv h0 hq=> ?_⟩ ?_
  ·rw[Int.toNat_natCast,hat];split
   ·omega
   ·rw[hd' v hv];omega
  ·rw[Int.toNat_natCast,hat];split
   ·rename_i h;exact⟨fun _=>h,fun _=>rfl⟩
   ·rename_i h;rw[hd' v hv];exact⟨fun h2=>by omega,fun h2=>absurd h2 h⟩
  ·rw[Int.toNat_natCast,hat];split
   ·omega
   ·rw[hd' v hv];omega
  ·rw[Int.toNat_natCast,hat];split
   ·omega
   ·rw[hd' v hv];omega
  ·simp only[List.mem_singleton]at hy
   refine⟨s,hs,hy,?_⟩
   rw[Int.toNat_natCast,hat,if_pos rfl];omega
  ·rw[Int.toNat_natCast]
   have h2:at' (d.set s 0) (s:Int)=0:=(hat s).trans (if_pos rfl)
   show D (d.set s 0) v<=at' (d.set s 0) (s:Int)+1
   rw[h2,hat];split
   ·omega
   ·rw[hd' v hv];omega
  ·rw[Int.toNat_natCast,hat,if_neg (by rintro rfl;exact hq (by simp)),hd' v hv]at h0
   omega
  ·rw[Int.toNat_natCast]
   simp only[List.length_singleton]
   omega
end Go.Proofs.YtfimaabbclepbaaGreat
end
section
namespace Go.Proofs.YtfimaabbclepbaaGreat
open Go.Sx
end Go.Proofs.YtfimaabbclepbaaGreat
end
section
namespace Go.Proofs.YtfimaabbclepbaaGreat
open Go.Sx
def Walk (g:GR) (s:Nat):Nat->Nat->Prop
 |0,v=>v=s∧s<g.2.length
 |k+1,v=>∃u,Walk g s k u∧Adj g u v
theorem Walk.lt {g:GR} (hV:VG g) {s:Nat}:∀{k v:Nat},Walk g s k v->v<g.2.length
 |0,_,h=>by obtain⟨rfl,h⟩:=h;exact h
 |_+1,_,h=>by obtain⟨u,h1,h2⟩:=h;exact hV.adj_lt (Walk.lt hV h1) h2
theorem Walk.trans {g:GR} {s t:Nat} {k:Nat} (h:Walk g s k t):∀{m v:Nat},Walk g t m v->Walk g s (k+m) v
 |0,_,h2=>by obtain⟨rfl,_⟩:=h2;exact h
 |_+1,_,h2=>by obtain⟨u,h3,h4⟩:=h2;exact⟨u,Walk.trans h h3,h4⟩
theorem Walk.rev {g:GR} (hV:VG g) {s:Nat}:∀{k v:Nat},Walk g s k v->Walk g v k s
 |0,_,h=>by obtain⟨rfl,h⟩:=h;exact⟨rfl,h⟩
 |k+1,v,h=>by
  obtain⟨u,h1,h2⟩:=h
  have hu:=Walk.lt hV h1
  have h3:Walk g v 1 u:=⟨v,⟨rfl,hV.adj_lt hu h2⟩,hV.back hu h2⟩
  have:=Walk.trans h3 (Walk.rev hV h1)
  rwa[Nat.add_comm]at this
theorem Dist.le {g:GR} (hV:VG g) {s:Nat} {d:List Int} (h:Dist g s d):∀{k v:Nat},Walk g s k v->0<=D d v∧D d v<=k
 |0,v,hw=>by
  obtain⟨rfl,hs⟩:=hw
  have:=(h.zero v hs).2 rfl
  omega
 |k+1,v,hw=>by
  obtain⟨u,h1,h2⟩:=hw
  have hu:=Walk.lt hV h1
  have h3:=Dist.le hV h h1
  have h4:=h.next u hu h3.1 v (hV.adj_lt hu h2) h2
  omega
theorem Dist.walk {g:GR} (hV:VG g) {s:Nat} {d:List Int} (h:Dist g s d):∀(k v:Nat),v<g.2.length->D d v=k->Walk g s k v
 |0,v,hv,he=>by
  have:=(h.zero v hv).1 he
  exact⟨this,by omega⟩
 |k+1,v,hv,he=>by
  obtain⟨u,hu,hadj,hd⟩:=h.near v hv (by omega)
  exact⟨u,Dist.walk hV h k u hu (by omega),hV.back hv hadj⟩
theorem Dist.pos {g:GR} (hV:VG g) {s:Nat} {d:List Int} (h:Dist g s d) {v:Nat} (hv:v<g.2.length) (h0:0<=D d v):Walk g s (D d v).toNat v:=
 Dist.walk hV h _ v hv (by omega)
end Go.Proofs.YtfimaabbclepbaaGreat
end
section
namespace Go.Proofs.YtfimaabbclepbaaGreat
open Go.Sx
def Conn (g:GR):Prop:=∀u v,u<g.2.length->v<g.2.length->∃k,Walk g u k v
theorem connected_eq {g:GR} (hV:VG g):(Conn g->m_graph_Connected 1000 g=some true)∧(¬Conn g->m_graph_Connected 1000 g=some false):=by
 have h1:=hV.n1
 have h24:=hV.n24
 unfold m_graph_Connected
 obtain⟨d,hd,hD⟩:=search_ok hV (s:=0) (by omega)
 have hlen:=hD.len
 rw[(valid_eq g hV.light).1 hV,bindS rfl,if_neg (by simp),show m_graph_search 1000 (g.1,g.2) 0=some d from hd,bindS rfl]
 have key:=iter_if (step:=graph_Connected_s1 d) (K:=some true) (bad:=false) d.length (fun v=>0<=D d v) (fun k ag hk hp=> ?_) (fun k ag hk hp=> ?_) (fun ag=> ?_) 1000 (by omega)
 ·have hiff:(∀v,v<d.length->0<=D d v)↔Conn g:=by
   constructor
   ·intro h u v hu hv
    exact⟨_,Walk.trans (Walk.rev hV (Dist.pos hV hD hu (h u (by omega)))) (Dist.pos hV hD hv (h v (by omega)))⟩
   ·intro h v hv
    obtain⟨k,hk⟩:=h 0 v (by omega) (by omega)
    exact(Dist.le hV hD hk).1
  exact⟨fun h=>key.1 (hiff.2 h),fun h=>key.2 fun h2=>h (hiff.1 h2)⟩
 ·unfold graph_Connected_s1
  rw[if_pos (by omega),ckT (by omega),if_neg (show¬D d k<0 by omega),wr (by omega) (by omega)]
 ·unfold graph_Connected_s1
  rw[if_pos (by omega),ckT (by omega),if_pos (show D d k<0 by omega)]
 ·unfold graph_Connected_s1 graph_Connected_k1
  rw[if_neg (by omega)]
end Go.Proofs.YtfimaabbclepbaaGreat
end
section
namespace Go.Proofs.YtfimaabbclepbaaGreat
open Go.Sx
end Go.Proofs.YtfimaabbclepbaaGreat
end
section
namespace Go.Proofs.YtfimaabbclepbaaGreat
open Go.Sx
open Classical in
noncomputable def ind (p:Prop):Nat:=if p then 1 else 0
theorem adj_irrefl {g:GR} (hV:VG g) {v:Nat} (hv:v<g.2.length):¬Adj g v v:=by
 rintro⟨i,hi,he⟩
 exact((hV.node v hv).links i hi).2.1 he
end Go.Proofs.YtfimaabbclepbaaGreat
end
section
namespace Go.Proofs.YtfimaabbclepbaaGreat
open Go.Sx
theorem wrapU (a:Nat) (h:a<4294967296):IntKind.u32.wrap (a:Int)=a:=by rw[<-wI_eq];exact if_pos ⟨by omega,by omega⟩
def N32 (x:Int):Nat:=(BitVec.ofInt 32 x).toNat
theorem N32_lt (x:Int):N32 x<4294967296:=(BitVec.ofInt 32 x).isLt
theorem N32_nat {a:Nat} (h:a<4294967296):N32 (a:Int)=a:=by
 unfold N32;rw[BitVec.ofInt_natCast,BitVec.toNat_ofNat];exact Nat.mod_eq_of_lt h
theorem bAnd_eq (x y:Int):bAnd .u32 x y=((N32 x &&& N32 y:Nat):Int):=by
 show IntKind.u32.wrap (((BitVec.ofInt 32 x &&& BitVec.ofInt 32 y).toNat:Nat):Int)=_
 rw[BitVec.toNat_and]
 exact wrapU _ (Nat.lt_of_le_of_lt Nat.and_le_left (N32_lt x))
theorem bOr_eq (x y:Int):bOr .u32 x y=((N32 x ||| N32 y:Nat):Int):=by
 show IntKind.u32.wrap (((BitVec.ofInt 32 x ||| BitVec.ofInt 32 y).toNat:Nat):Int)=_
 rw[BitVec.toNat_or]
 exact wrapU _ (Nat.or_lt_two_pow (n:=32) (N32_lt x) (N32_lt y))
theorem bAndNot0 (x y:Int):bAndNot .u32 x y=0↔∀i,(N32 x).testBit i=true->(N32 y).testBit i=true:=by
 have e:bAndNot .u32 x y=(((BitVec.ofInt 32 x &&& ~~~ BitVec.ofInt 32 y).toNat:Nat):Int):=wrapU _ (BitVec.ofInt 32 x &&& ~~~ BitVec.ofInt 32 y).isLt
 have hb:∀i,(BitVec.ofInt 32 x &&& ~~~ BitVec.ofInt 32 y).toNat.testBit i=((N32 x).testBit i&&(decide (i<32) && !(N32 y).testBit i)):=by
  intro i
  have:=BitVec.getLsbD_and (x:=BitVec.ofInt 32 x) (y:= ~~~ BitVec.ofInt 32 y) (i:=i)
  rw[BitVec.getLsbD_not]at this
  exact this
 have hx:∀i,(N32 x).testBit i=true->i<32:=by
  intro i hi
  apply Classical.byContradiction
  intro hc
  rw[Nat.testBit_lt_two_pow (Nat.lt_of_lt_of_le (N32_lt x) (Nat.pow_le_pow_right (n:=2) (by omega) (show 32<=i by omega)))]at hi
  cases hi
 rw[e]
 constructor
 ·intro h i hi
  have h0:(BitVec.ofInt 32 x &&& ~~~ BitVec.ofInt 32 y).toNat=0:=by omega
  have:=hb i
  rw[h0,Nat.zero_testBit,hi,decide_eq_true (hx i hi)]at this
  simpa using this
 ·intro h
  have:(BitVec.ofInt 32 x &&& ~~~ BitVec.ofInt 32 y).toNat=0:=by
   apply Nat.eq_of_testBit_eq
   intro i
   rw[hb i,Nat.zero_testBit]
   cases hi:(N32 x).testBit i with
   |false=>rfl
   |true=>rw[h i hi];simp
  omega
theorem pow32 {k:Nat} (hk:k<32):2^k<4294967296:=Nat.pow_lt_pow_right (n:=32) (by omega) hk
theorem bShl1 {k:Nat} (hk:k<32):bShl .u32 1 (k:Int)=((2^k:Nat):Int):=by
 show IntKind.u32.wrap (1*2^(min ((k:Int).toNat) 32))=_
 rw[Int.toNat_natCast,Nat.min_eq_left (by omega),Int.one_mul,show(2:Int)^k=((2^k:Nat):Int) by simp]
 exact wrapU _ (pow32 hk)
theorem bShr_eq {a k:Nat} (hk:k<32):bShr .u32 (a:Int) (k:Int)=((a / 2^k:Nat):Int):=by
 show Int.fdiv (a:Int) (2^(min ((k:Int).toNat) 32))=_
 rw[Int.toNat_natCast,Nat.min_eq_left (by omega),show(2:Int)^k=((2^k:Nat):Int) by simp,Int.fdiv_eq_ediv_of_nonneg _ (Int.natCast_nonneg _)]
 simp
theorem hasBit {a k:Nat} (hk:k<32) (ha:a<4294967296):bAnd .u32 (bShr .u32 (a:Int) (k:Int)) 1=1↔a.testBit k=true:=by
 have h1:N32 1=1:=N32_nat (a:=1) (by omega)
 rw[bShr_eq hk,bAnd_eq,N32_nat (Nat.lt_of_le_of_lt (Nat.div_le_self _ _) ha),h1,Nat.and_one_is_mod,Nat.testBit_eq_decide_div_mod_eq,decide_eq_true_eq]
 omega
def Indep (g:GR) (s:Nat):Prop:=(∀v,s.testBit v=true->v<g.2.length)∧∀v u,s.testBit v=true->s.testBit u=true->¬Adj g v u
theorem all_eq {g:GR} (hV:VG g):m_graph_All 1000 g=some ((2^g.2.length - 1:Nat):Int):=by
 have h24:=hV.n24
 have hl:=hV.len
 have hp:=pow32 (show g.2.length<32 by omega)
 have hpos:1<=2^g.2.length:=Nat.one_le_two_pow
 unfold m_graph_All
 rw[ckT (by omega),hl,bShl1 (by omega),show((2^g.2.length:Nat):Int) - 1=((2^g.2.length - 1:Nat):Int) by omega]
 congr 1
 exact if_pos ⟨by omega,by omega⟩
theorem wU64 {k:Nat} (hk:k<32):wI .u64 (k:Int)=k:=by
 show IntKind.u64.wrap (k:Int)=k
 have:∀j:Fin 32,IntKind.u64.wrap ((j.1:Nat):Int)=(j.1:Nat):=by decide
 exact this ⟨k,hk⟩
theorem has_eq {s v:Nat} (hs:s<4294967296) (hv:v<32):m_ref01_Has 1000 (s:Int) (v:Int)=some (s.testBit v):=by
 unfold m_ref01_Has ref01_Has_k1
 rw[if_pos (by omega),if_pos (by omega),wU64 hv,ckT (by omega)]
 congr 1
 by_cases h:s.testBit v=true
 ·rw[h];exact decide_eq_true ((hasBit hv hs).2 h)
 ·rw[Bool.not_eq_true]at h
  rw[h];exact decide_eq_false fun h2=>by rw[(hasBit hv hs).1 h2]at h;cases h
theorem refAll_ok {n:Nat} (hn:n<=24):OK (fun r:Int=>∃m:Nat,r=m∧m<4294967296∧∀v,m.testBit v=true↔v<n) (m_ref01_All 1000 (n:Int)):=by
 unfold m_ref01_All
 refine iter_ok (fun z:Int×Int=>∃k:Nat,z.2=k∧k<=n∧∃m:Nat,z.1=m∧m<4294967296∧∀v,m.testBit v=true↔v<k) (fun z=>31 - z.2.toNat) ?_ 1000 _ ⟨0,rfl,by omega,0,rfl,by omega,fun v=>by simp⟩ (by simp)
 rintro⟨a,z⟩ ag ⟨k,hz,hk,m,hm,hm32,hb⟩ hag
 dsimp only at hz hm
 subst hz hm
 unfold ref01_All_s1 ref01_All_k2 ref01_All_k1
 dsimp only
 by_cases hlt:k<n
 ·rw[if_pos (by omega),if_pos (by rw[decide_eq_true_eq];omega),wU64 (by omega),ckT (by omega),bShl1 (by omega),bOr_eq,N32_nat hm32,N32_nat (pow32 (by omega)),wr (by omega) (by omega)]
  refine hag _ ⟨k+1,by simp,by omega,_,rfl,Nat.or_lt_two_pow (n:=32) hm32 (pow32 (by omega)),fun v=> ?_⟩ (by dsimp only;omega)
  rw[Nat.testBit_or,Nat.testBit_two_pow,Bool.or_eq_true,hb v,decide_eq_true_eq]
  omega
 ·rw[if_neg (by omega),if_neg (by simp)]
  have:k=n:=by omega
  subst this
  exact⟨_,rfl,m,rfl,hm32,hb⟩
end Go.Proofs.YtfimaabbclepbaaGreat
end
section
namespace Go.Proofs.YtfimaabbclepbaaGreat
open Go.Sx
theorem Dist.lt {g:GR} {s:Nat} {d:List Int} (h:Dist g s d) {v:Nat} (hv:v<g.2.length):D d v<(g.2.length:Int):=by
 apply Classical.byContradiction
 intro hc
 have all:∀m:Nat,(m:Int)<=D d v->∃w,w<g.2.length∧D d w=D d v - m:=by
  intro m
  induction m with
  |zero=>intro _;exact⟨v,hv,by omega⟩
  |succ m ih=>
   intro hm
   obtain⟨w,hw,he⟩:=ih (by omega)
   obtain⟨u,hu,_,hue⟩:=h.near w hw (by omega)
   exact⟨u,hu,by omega⟩
 have ex:∀i:Nat,i<g.2.length+1->∃w,w<g.2.length∧D d w=(i:Int):=by
  intro i hi
  obtain⟨w,hw,he⟩:=all (D d v - i).toNat (by omega)
  exact⟨w,hw,by omega⟩
 have:=pigeon g.2.length (fun i=>if hi:i<g.2.length+1 then Classical.choose (ex i hi)else 0) (g.2.length+1) (fun i hi=>by
  rw[dif_pos hi];exact(Classical.choose_spec (ex i hi)).1) (fun i j hij hj he=>by
  rw[dif_pos (by omega),dif_pos hj]at he
  have h1:=(Classical.choose_spec (ex i (by omega))).2
  have h2:=(Classical.choose_spec (ex j hj)).2
  rw[he]at h1
  omega)
 omega
def T (e:List Int) (k v w:Nat):Int:=if 0<=D e w∧(D e w<k∨(D e w=k∧w<v))then D e w else -1
theorem ref_inner {g:GR} (hV:VG g) {s:Nat} {e:List Int} (hE:Dist g s e) {k v:Nat} (hk1:1<=k) (hk:k<g.2.length) (hv:v<g.2.length) (d0:List Int) (ag:Int×List Int->Option (List Int)) (r:List Int)
  (hl:d0.length=g.2.length) (hd:∀w,w<g.2.length->D d0 w=T e k v w)
  (hag:∀d:List Int,d.length=g.2.length->(∀w,w<g.2.length->D d w=T e k (v+1) w)->ag ((v:Int)+1,d)=some r):
  iter (ref01_Distances_s3 g ((k:Int),d0) ((v:Int),d0) ag) 1000 ((0:Int),d0)=some r:=by
 have hdeg:=(hV.node v hv).deg
 have h24:=hV.n24
 refine iter_eq (fun z:Int×List Int=>∃i:Nat,z.1=i∧i<=(row g v).length∧z.2.length=g.2.length∧(∀w,w<g.2.length->w≠v->D z.2 w=T e k v w)∧((D z.2 v=T e k v v∧(D z.2 v<0->∀j,j<i->∀u:Nat,(lnk (row g v) j).1=u->D e u≠(k:Int) - 1))∨(D z.2 v=k∧D e v=k))) (fun z=>31 - z.1.toNat) ?_ 1000 _ ⟨0,rfl,by omega,hl,fun w hw _=>hd w hw,.inl ⟨hd v hv,fun _ j hj=>by omega⟩⟩ (by simp)
 rintro⟨z,d⟩ ag2 ⟨i,hz,hi,hl,hw,hc⟩ hag2
 dsimp only at hz hl hw hc
 subst hz
 have tv:T e k v v=D e v∨T e k v v = -1:=by unfold T;split<;>simp
 have fin:(0<=D d v∨i=(row g v).length)->ag (wI .i64 ((v:Int)+1),d)=some r:=by
  intro hx
  rw[wr (by omega) (by omega)]
  refine hag d hl fun w hwn=> ?_
  by_cases hwv:w=v
  ·subst hwv
   rcases hc with⟨h1,h2⟩|⟨h1,h2⟩
   ·rw[h1]
    unfold T at h1 ⊢
    by_cases a:0<=D e w∧(D e w<k∨(D e w=k∧w<w))
    ·rw[if_pos a,if_pos (by omega)]
    ·rw[if_neg a]at h1 ⊢
     rw[if_neg]
     intro b
     have hek:D e w=k:=by omega
     obtain⟨u,hu,⟨j,hj,hju⟩,hue⟩:=hE.near w hv (by omega)
     have hid:i=(row g w).length:=by omega
     exact h2 (by omega) j (by omega) u hju (by omega)
   ·rw[h1];unfold T;rw[if_pos (by omega)];omega
  ·rw[hw w hwn hwv]
   unfold T
   by_cases a:0<=D e w∧(D e w<k∨(D e w=k∧w<v))
   ·rw[if_pos a,if_pos (by omega)]
   ·rw[if_neg a,if_neg (by omega)]
 unfold ref01_Distances_s3 ref01_Distances_k6 ref01_Distances_k5 ref01_Distances_k7
 dsimp only
 rw[ckT (by omega)]
 by_cases hil:i<(row g v).length
 rotate_left
 ·rw[if_neg (show¬(i:Int)<((row g v).length:Int) by omega),if_neg (by simp)]
  exact fin (.inr (by omega))
 obtain⟨u,hu,hue,hadj⟩:=hV.port hv hil
 rw[if_pos (show(i:Int)<((row g v).length:Int) by omega),ckT (by omega)]
 by_cases hneg:at' d (v:Int)<0
 rotate_left
 ·rw[if_neg (by rw[decide_eq_false hneg];simp)]
  exact fin (.inl (by show 0<=at' d (v:Int);omega))
 have huv:u≠v:=by rintro rfl;exact adj_irrefl hV hv hadj
 rw[if_pos (decide_eq_true hneg),ckT (by omega),ckT (show 0<=(i:Int)∧(i:Int)<((row g v).length:Int) by omega),show at' (at' g.2 (v:Int)) (i:Int)=lnk (row g v) i from rfl,hue,ckT (by omega),wr (x:=(k:Int) - 1) (by omega) (by omega),wr (x:=(i:Int)+1) (by omega) (by omega)]
 have hneg':D d v<0:=hneg
 have hc1:D d v=T e k v v∧(D d v<0->∀j,j<i->∀u:Nat,(lnk (row g v) j).1=u->D e u≠(k:Int) - 1):=by
  rcases hc with hc|⟨h,_⟩
  ·exact hc
  ·omega
 have hTu:=hw u hu huv
 have hnv:=hE.next u hu
 by_cases heq:at' d (u:Int)=(k:Int) - 1
 ·have heq':D d u=(k:Int) - 1:=heq
  rw[if_pos heq,ckT (by omega)]
  have heu:D e u=(k:Int) - 1:=by
   unfold T at hTu
   by_cases a:0<=D e u∧(D e u<k∨(D e u=k∧u<v))
   ·rw[if_pos a]at hTu;omega
   ·rw[if_neg a]at hTu;omega
  have hev:D e v=k:=by
   have h1:=hnv (by omega) v hv (hV.back hv hadj)
   have h2:=hc1.1
   unfold T at h2
   by_cases a:0<=D e v∧(D e v<k∨(D e v=k∧v<v))
   ·rw[if_pos a]at h2;omega
   ·omega
  refine hag2 _ ⟨i+1,by simp,by omega,by simp[hl],fun w hwn hwv=> ?_,.inr ⟨?_,hev⟩⟩ (by dsimp only;omega)
  ·show at' (d.set (Int.toNat (v:Int)) (k:Int)) (w:Int)=_
   rw[Int.toNat_natCast,at_set _ _ _ _ (by omega),if_neg hwv]
   exact hw w hwn hwv
  ·show at' (d.set (Int.toNat (v:Int)) (k:Int)) (v:Int)=_
   rw[Int.toNat_natCast,at_set _ _ _ _ (by omega),if_pos rfl]
 ·rw[if_neg heq]
  refine hag2 _ ⟨i+1,by simp,by omega,hl,hw,.inl ⟨hc1.1,fun hn j hj w hw2 he=> ?_⟩⟩ (by dsimp only;omega)
  by_cases hji:j=i
  ·subst hji
   have:w=u:=by omega
   subst this
   unfold T at hTu
   rw[if_pos (by omega)]at hTu
   exact heq (by show D d w=_;omega)
  ·exact hc1.2 hn j (by omega) w hw2 he
theorem list_ext {d e:List Int} (hl:d.length=e.length) (h:∀v,v<d.length->D d v=D e v):d=e:=by
 apply List.ext_getElem hl
 intro i h1 h2
 rw[<-D_getElem h1,<-D_getElem h2]
 exact h i h1
theorem refDistances_eq {g:GR} (hV:VG g) {s:Nat} (hs:s<g.2.length) {e:List Int} (hE:Dist g s e):m_ref01_Distances 1000 g (s:Int)=some e:=by
 have h24:=hV.n24
 unfold m_ref01_Distances ref01_Distances_k1
 rw[(refValid_eq g hV.light).1 hV,bindS rfl,if_neg (by simp),refIn_eq,wr (by omega) (by omega),decide_eq_true (by omega),bindS rfl,if_neg (by simp)]
 refine iter_eq (fun z:List Int×Int=>∃k:Nat,z.2=k∧k<=g.2.length∧z.1=List.replicate k (-1)) (fun z=>31 - z.2.toNat) ?_ 1000 _ ⟨0,rfl,by omega,rfl⟩ (by simp)
 rintro⟨l,z⟩ ag ⟨k,hz,hk,hlr⟩ hag
 dsimp only at hz hlr
 subst hz hlr
 unfold ref01_Distances_s4
 dsimp only
 by_cases hlt:k<g.2.length
 ·rw[if_pos (by omega),ckT (by simp only[List.length_replicate,List.length_singleton];omega),wr (by omega) (by omega)]
  exact hag _ ⟨k+1,by simp,by omega,by dsimp only;rw[List.replicate_succ']⟩ (by dsimp only;omega)
 rw[if_neg (by omega)]
 have hkn:k=g.2.length:=by omega
 subst hkn
 unfold ref01_Distances_k2
 rw[ckT (by simp only[List.length_replicate];omega),Int.toNat_natCast]
 have hat:∀w,w<g.2.length->D ((List.replicate g.2.length (-1:Int)).set s 0) w=T e 1 0 w:=by
  intro w hw
  have h1:=at_set (List.replicate g.2.length (-1:Int)) s w 0 (by simp only[List.length_replicate];omega)
  have hz:=hE.zero w hw
  show at' _ _=_
  rw[h1]
  by_cases hws:w=s
  ·have:=hz.2 hws
   rw[if_pos hws];unfold T;rw[if_pos (by omega)];omega
  ·have:D e w≠0:=fun h=>hws (hz.1 h)
   rw[if_neg hws,at'_nat,List.getD_eq_getElem?_getD,List.getElem?_replicate,if_pos hw]
   unfold T;rw[if_neg (by omega)];rfl
 refine iter_eq (fun z:Int×List Int=>∃k:Nat,z.1=k∧1<=k∧(k<=g.2.length)∧z.2.length=g.2.length∧∀w,w<g.2.length->D z.2 w=T e k 0 w) (fun z=>31 - z.1.toNat) ?_ 1000 _ ⟨1,rfl,by omega,by omega,by simp,hat⟩ (by simp)
 rintro⟨z,d⟩ ag1 ⟨k,hz,hk1,hk,hl,hd⟩ hag1
 dsimp only at hz hl hd
 subst hz
 unfold ref01_Distances_s1 ref01_Distances_k3
 dsimp only
 by_cases hkn:k<g.2.length
 rotate_left
 ·rw[if_neg (by omega)]
  congr 1
  refine list_ext (hl.trans hE.len.symm) fun v hv=> ?_
  have h1:=hE.lt (v:=v) (by omega)
  have h2:=hE.lo v (by omega)
  rw[hd v (by omega)]
  unfold T
  by_cases a:0<=D e v
  ·rw[if_pos (by omega)]
  ·rw[if_neg (by omega)];omega
 rw[if_pos (by omega)]
 refine iter_eq (fun z:Int×List Int=>∃v:Nat,z.1=v∧v<=g.2.length∧z.2.length=g.2.length∧∀w,w<g.2.length->D z.2 w=T e k v w) (fun z=>31 - z.1.toNat) ?_ 1000 _ ⟨0,rfl,by omega,hl,hd⟩ (by simp)
 rintro⟨z,d⟩ ag2 ⟨v,hz,hv,hl,hd⟩ hag2
 dsimp only at hz hl hd
 subst hz
 unfold ref01_Distances_s2 ref01_Distances_k4
 dsimp only
 by_cases hvn:v<g.2.length
 ·rw[if_pos (by omega)]
  exact ref_inner hV hE hk1 hkn hvn d ag2 e hl hd fun d' h1 h2=>hag2 _ ⟨v+1,by simp,by omega,h1,h2⟩ (by dsimp only;omega)
 ·rw[if_neg (by omega),wr (by omega) (by omega)]
  refine hag1 _ ⟨k+1,by simp,by omega,by omega,hl,fun w hw=> ?_⟩ (by dsimp only;omega)
  rw[hd w hw]
  unfold T
  by_cases a:0<=D e w∧(D e w<k∨(D e w=k∧w<v))
  ·rw[if_pos a,if_pos (by omega)]
  ·rw[if_neg a,if_neg (by omega)]
end Go.Proofs.YtfimaabbclepbaaGreat
end
section
namespace Go.Proofs.YtfimaabbclepbaaGreat
open Go.Sx
theorem refGreatest_ok (d:List Int) (h:d.length<=30):OK (fun r:Int=>(¬(∀v,v<d.length->0<=D d v)->r = -1)∧((∀v,v<d.length->0<=D d v) -> -1<=r∧(∀v,v<d.length->D d v<=r)∧(r = -1∨∃v,v<d.length∧D d v=r))) (m_ref01_greatest 1000 d):=by
 unfold m_ref01_greatest
 refine iter_ok (fun z:Int×Int=>∃k:Nat,z.2=k∧k<=d.length ∧ -1<=z.1∧(∀v,v<k->0<=D d v∧D d v<=z.1)∧(z.1 = -1∨∃v,v<k∧D d v=z.1)) (fun z=>31 - z.2.toNat) ?_ 1000 _ ⟨0,rfl,by omega,by omega,fun v hv=>by omega,.inl rfl⟩ (by simp)
 rintro⟨m,z⟩ ag ⟨k,hz,hk,h1,h2,h3⟩ hag
 dsimp only at hz h1 h2 h3
 subst hz
 unfold ref01_greatest_s1 ref01_greatest_k1
 dsimp only
 by_cases hlt:k<d.length
 ·rw[if_pos (by omega),ckT (by omega)]
  by_cases hneg:at' d (k:Int)<0
  ·rw[if_pos hneg]
   exact⟨-1,rfl,fun _=>rfl,fun h=>absurd (h k hlt) (by show¬0<=at' d (k:Int);omega)⟩
  rw[if_neg hneg,ckT (by omega),wr (by omega) (by omega)]
  have hk0:0<=D d k:=by show 0<=at' d (k:Int);omega
  refine hag _ ⟨k+1,by simp,by omega,by dsimp only;omega,fun v hv=> ?_,?_⟩ (by dsimp only;omega)
  ·by_cases hvk:v=k
   ·subst hvk;show 0<=D d v∧D d v<=max m (D d v);omega
   ·have:=h2 v (by omega);show 0<=D d v∧D d v<=max m (D d k);omega
  ·by_cases hm:m<=D d k
   ·exact .inr ⟨k,by omega,by show D d k=max m (D d k);omega⟩
   ·rcases h3 with h3|⟨v,hv,he⟩
    ·left;show max m (D d k) = -1;omega
    ·exact .inr ⟨v,by omega,by show D d v=max m (D d k);omega⟩
 ·rw[if_neg (by omega)]
  refine⟨m,rfl,fun h=>absurd (fun v hv=>(h2 v (by omega)).1) h,fun _=>⟨h1,fun v hv=>(h2 v (by omega)).2,?_⟩⟩
  rcases h3 with h3|⟨v,hv,he⟩
  ·exact .inl h3
  ·exact .inr ⟨v,by omega,he⟩
theorem conn_iff {g:GR} (hV:VG g) {s:Nat} (hs:s<g.2.length) {d:List Int} (hD:Dist g s d):(∀v,v<d.length->0<=D d v)↔Conn g:=by
 have hlen:=hD.len
 constructor
 ·intro h u v hu hv
  exact⟨_,Walk.trans (Walk.rev hV (Dist.pos hV hD hu (h u (by omega)))) (Dist.pos hV hD hv (h v (by omega)))⟩
 ·intro h v hv
  obtain⟨k,hk⟩:=h s v hs (by omega)
  exact(Dist.le hV hD hk).1
theorem sameInts_refl (l:List Int) (h:l.length<=30):m_ref01_SameInts 1000 l l=some true:=by
 unfold m_ref01_SameInts
 rw[if_neg (by simp)]
 refine iter_eq (fun z:Int=>∃k:Nat,z=k∧k<=l.length) (fun z=>31 - z.toNat) ?_ 1000 _ ⟨0,rfl,by omega⟩ (by simp)
 rintro z ag ⟨k,rfl,hk⟩ hag
 unfold ref01_SameInts_s1 ref01_SameInts_k1
 by_cases hlt:k<l.length
 ·rw[if_pos (by omega),ckT (by omega),ckT (by omega),if_neg (by simp),wr (by omega) (by omega)]
  exact hag _ ⟨k+1,by simp,by omega⟩ (by omega)
 ·rw[if_neg (by omega)]
end Go.Proofs.YtfimaabbclepbaaGreat
end
section
namespace Go.Proofs.YtfimaabbclepbaaGreat
open Go.Sx
theorem iter_ifB {X R:Type} {step:X->(X->Option R)->Option R} {K:X->Option R} {bad:R} (N:Nat) (p:Nat->Prop) (I:Nat->X->Prop) (B:Nat)
  (hok:∀(k:Nat) x ag,k<N->k<B->I k x->p k->∃x',I (k+1) x'∧step x ag=ag x') (hbad:∀(k:Nat) x ag,k<N->k<B->I k x->¬p k->step x ag=some bad) (hend:∀x ag,I N x->N<B->step x ag=K x):
  ∀(fuel:Nat) (x:X),I 0 x->B<=fuel->(N<B∨∃k,k<N∧k<B∧¬p k)->((∀k,k<N->p k)->∃x',I N x'∧iter step fuel x=K x')∧(¬(∀k,k<N->p k)->iter step fuel x=some bad):=by
 intro fuel x hI hf hB
 have bads:∀(d a fuel:Nat) (x:X),I a x->a+d<N->a+d<B->¬p (a+d)->d<fuel->iter step fuel x=some bad:=by
  intro d
  induction d with
  |zero=>
   intro a fuel x hI h1 h2 hp hf
   obtain⟨f,rfl⟩:∃f,fuel=f+1:=⟨fuel - 1,by omega⟩
   exact hbad a x _ h1 h2 hI hp
  | succ d ih =>
   intro a fuel x hI h1 h2 hp hf
   obtain⟨f,rfl⟩:∃f,fuel=f+1:=⟨fuel - 1,by omega⟩
   by_cases hpa:p a
   ·obtain⟨x',hI',hs⟩:=hok a x (iter step f) (by omega) (by omega) hI hpa
    have hs:iter step (f+1) x=iter step f x':=hs
    rw[hs]
    exact ih (a+1) f x' hI' (by omega) (by omega) (by rw[show a+1+d=a+(d+1) by omega];exact hp) (by omega)
   ·exact hbad a x _ (by omega) (by omega) hI hpa
 have goods:∀(d a fuel:Nat) (x:X),I a x->a+d=N->N<B->(∀k,a<=k->k<N->p k)->d<fuel->∃x',I N x'∧iter step fuel x=K x':=by
  intro d
  induction d with
  |zero=>
   intro a fuel x hI h1 h2 hp hf
   obtain⟨f,rfl⟩:∃f,fuel=f+1:=⟨fuel - 1,by omega⟩
   obtain rfl:a=N:=by omega
   exact⟨x,hI,hend x _ hI h2⟩
  |succ d ih=>
   intro a fuel x hI h1 h2 hp hf
   obtain⟨f,rfl⟩:∃f,fuel=f+1:=⟨fuel - 1,by omega⟩
   obtain⟨x',hI',hs⟩:=hok a x (iter step f) (by omega) (by omega) hI (hp a (Nat.le_refl _) (by omega))
   have hs:iter step (f+1) x=iter step f x':=hs
   rw[hs]
   exact ih (a+1) f x' hI' (by omega) h2 (fun k h1 h2=>hp k (by omega) h2) (by omega)
 constructor
 ·intro h
  rcases hB with hB|⟨k,h1,_,h2⟩
  ·exact goods N 0 fuel x hI (by omega) hB (fun k _ hk=>h k hk) (by omega)
  ·exact absurd (h k h1) h2
 ·intro h
  have:∃k,k<N∧k<B∧¬p k:=by
   rcases hB with hB|hB
   ·apply Classical.byContradiction
    intro hc
    exact h fun k hk=>Classical.byContradiction fun hp=>hc ⟨k,hk,by omega,hp⟩
   ·exact hB
  obtain⟨k,h1,h2,h3⟩:=this
  exact bads k 0 fuel x hI (by omega) (by omega) (by rw[Nat.zero_add];exact h3) (by omega)
theorem row_bound {ps:List (List (Int×Int))} (hn:ps.length<=30) {v:Nat} (hv:v<ps.length):(at' ps (v:Int)).length<1000∨∃k,k<(at' ps (v:Int)).length∧k<1000∧¬LinkOk (at' ps (v:Int)) v ps.length k:=by
 by_cases h:(at' ps (v:Int)).length<1000
 ·exact .inl h
 ·right
  apply Classical.byContradiction
  intro hc
  have hok:∀k,k<40->LinkOk (at' ps (v:Int)) v ps.length k:=fun k hk=>Classical.byContradiction fun hp=>hc ⟨k,by omega,by omega,hp⟩
  have:=pigeon ps.length (fun i=>(lnk (at' ps (v:Int)) i).1.toNat) 40 (fun i hi=>by have:=(hok i hi).1;omega) (fun i j hij hj he=>by
   have h1:=(hok i (by omega)).1
   have h2:=(hok j hj).1
   have h3:=(hok j hj).2.2.2 i hij
   exact h3 (by omega))
  omega
theorem refValid_gen (g:GR):(VG g->m_ref01_Valid 1000 g=some true)∧(¬VG g->m_ref01_Valid 1000 g=some false):=by
 unfold m_ref01_Valid
 rw[refIn_eq,bindS rfl]
 by_cases h1:1<=g.2.length∧g.2.length<=24
 rotate_left
 ·rw[decide_eq_false (by omega)]
  exact⟨fun h=>absurd ⟨h.n1,h.n24⟩ h1,fun _=>rfl⟩
 rw[decide_eq_true (by omega),if_neg (by simp)]
 by_cases h2:g.1.length=g.2.length
 rotate_left
 ·rw[decide_eq_true (by omega)]
  exact⟨fun h=>absurd h.len h2,fun _=>rfl⟩
 rw[decide_eq_false (by omega)]
 unfold ref01_Valid_k1
 rw[if_neg (by simp)]
 have hids:∀(v:Nat) (ag:Int->Option Bool),v<g.2.length->((∀k,k<v->idOf g k≠idOf g v)->iter (ref01_Valid_s4 g v ag) 1000 0=ag ((v:Int)+1))∧(¬(∀k,k<v->idOf g k≠idOf g v)->iter (ref01_Valid_s4 g v ag) 1000 0=some false):=by
  intro v ag hv
  refine iter_if v _ (fun k ag2 hk hp=> ?_) (fun k ag2 hk hp=> ?_) (fun ag2=> ?_) 1000 (by omega)
  ·unfold ref01_Valid_s4
   rw[if_pos (by omega),ckT (by omega),ckT (by omega),if_neg hp,wr (by omega) (by omega)]
  ·unfold ref01_Valid_s4
   rw[if_pos (by omega),ckT (by omega),ckT (by omega),if_pos (Decidable.not_not.1 hp)]
  ·unfold ref01_Valid_s4 ref01_Valid_k6
   rw[if_neg (by omega),wr (by omega) (by omega)]
 have outer:=iter_if (step:=ref01_Valid_s3 1000 g) (K:=ref01_Valid_k2 1000 g ()) (bad:=false) g.2.length (NodeOk g) (fun v ag hv hp=> ?_) (fun v ag hv hp=> ?_) (fun ag=> ?_) 1000 (by omega)
 rotate_left
 ·unfold ref01_Valid_s3 ref01_Valid_k7
  rw[if_pos (by omega),ckT (by omega),refIn_eq,decide_eq_true hp.id,bindS rfl,if_neg (by simp),ckT (by omega),if_neg (show¬((g.2.length:Int)<=((row g v).length:Int))from by have:=hp.deg;omega),ckT (by omega),(linksValid_eq (row g v) v g.2.length (by have:=hp.deg;omega) (by omega)).1 hp.links,bindS rfl,if_neg (by simp)]
  exact(hids v ag hv).1 hp.ids
 ·unfold ref01_Valid_s3 ref01_Valid_k7
  rw[if_pos (by omega),ckT (by omega),refIn_eq]
  by_cases a1:0<=idOf g v∧idOf g v<=255
  rotate_left
  ·rw[decide_eq_false a1];rfl
  rw[decide_eq_true a1,bindS rfl,if_neg (by simp),ckT (by omega)]
  by_cases a2:(row g v).length<g.2.length
  rotate_left
  ·rw[if_pos (show(g.2.length:Int)<=((row g v).length:Int) by omega)];rfl
  rw[if_neg (show¬(g.2.length:Int)<=((row g v).length:Int) by omega),ckT (by omega)]
  by_cases a3:LinksOk (row g v) v g.2.length
  rotate_left
  ·rw[(linksValid_eq (row g v) v g.2.length (by omega) (by omega)).2 a3];rfl
  rw[(linksValid_eq (row g v) v g.2.length (by omega) (by omega)).1 a3,bindS rfl,if_neg (by simp)]
  exact(hids v ag hv).2 fun a4=>hp ⟨a1,a2,a3,a4⟩
 ·unfold ref01_Valid_s3
  rw[if_neg (by omega)]
 by_cases hn:∀v,v<g.2.length->NodeOk g v
 rotate_left
 ·exact⟨fun h=>absurd h.node hn,fun _=>outer.2 hn⟩
 rw[outer.1 hn]
 unfold ref01_Valid_k2
 have inner:∀(v:Nat) (ag:Int->Option Bool),v<g.2.length->((∀i,i<(row g v).length->SymAt g v i)->iter (ref01_Valid_s2 1000 g v ag) 1000 0=ag ((v:Int)+1))∧(¬(∀i,i<(row g v).length->SymAt g v i)->iter (ref01_Valid_s2 1000 g v ag) 1000 0=some false):=by
  intro v ag hv
  have hv3:=(hn v hv).deg
  have body:∀(i:Nat) ag2,i<(row g v).length->(SymAt g v i->ref01_Valid_s2 1000 g v ag i ag2=ag2 ((i:Int)+1))∧(¬SymAt g v i->ref01_Valid_s2 1000 g v ag i ag2=some false):=by
   intro i ag2 hi
   unfold ref01_Valid_s2
   rw[ckT (by omega),if_pos (show(i:Int)<((row g v).length:Int) by omega),ckT (by omega),ckT (show 0<=(i:Int)∧(i:Int)<((row g v).length:Int) by omega)]
   have hu:=((hn v hv).links i hi).1
   obtain⟨u,hu'⟩:∃u:Nat,(lnk (row g v) i).1=u:=⟨(lnk (row g v) i).1.toNat,by omega⟩
   have hun:u<g.2.length:=by omega
   unfold SymAt
   rw[show(at' (at' g.2 (v:Int)) (i:Int))=lnk (row g v) i from rfl,hu',refPort_eq g u v hun (by have:=(hn u hun).deg;omega),bindS rfl]
   have hlk:=(hn u hun).links
   rcases portOf_cases (row g u) v with⟨j,hj,hjv,hjf,he⟩|⟨hf,he⟩
   ·rw[he,if_neg (by omega),ckT (by omega),ckT (show 0<=(j:Int)∧(j:Int)<((at' g.2 (u:Int)).length:Int)from⟨by omega,by have:j<(row g u).length:=hj;exact_mod_cast this⟩)]
    unfold ref01_Valid_k5
    constructor
    ·rintro⟨k,hk,hkv,hkw⟩
     have hkj:k=j:=by
      rcases Nat.lt_trichotomy k j with h|h|h
      ·exact absurd hkv (hjf k h)
      ·exact h
      ·exact absurd (hjv.trans hkv.symm) ((hlk k hk).2.2.2 j h)
     subst hkj
     rw[if_neg (by rw[decide_eq_false];simp;exact fun h=>h hkw),wr (by omega) (by omega)]
    ·intro h
     rw[if_pos]
     exact decide_eq_true fun hw=>h ⟨j,hj,hjv,hw⟩
   ·rw[he,if_pos (by decide)]
    exact⟨fun⟨j,hj,hjv,_⟩=>absurd hjv (hf j hj),fun _=>rfl⟩
  refine iter_if (row g v).length _ (fun i ag2 hi hp=>(body i ag2 hi).1 hp) (fun i ag2 hi hp=>(body i ag2 hi).2 hp) (fun ag2=> ?_) 1000 (by omega)
  unfold ref01_Valid_s2 ref01_Valid_k4
  rw[ckT (by omega),if_neg (show¬(((row g v).length:Nat):Int)<((row g v).length:Int) by omega),wr (by omega) (by omega)]
 have outer2:=iter_if (step:=ref01_Valid_s1 1000 g) (K:=some true) (bad:=false) g.2.length (fun v=>∀i,i<(row g v).length->SymAt g v i) (fun v ag hv hp=> ?_) (fun v ag hv hp=> ?_) (fun ag=> ?_) 1000 (by omega)
 ·exact⟨fun h=>outer2.1 h.sym,fun h=>outer2.2 fun hs=>h ⟨h1.1,h1.2,h2,hn,hs⟩⟩
 ·unfold ref01_Valid_s1
  rw[if_pos (by omega)]
  exact(inner v ag hv).1 hp
 ·unfold ref01_Valid_s1
  rw[if_pos (by omega)]
  exact(inner v ag hv).2 hp
 ·unfold ref01_Valid_s1 ref01_Valid_k3
  rw[if_neg (by omega)]
theorem symmetric_gen (ps:List (List (Int×Int))) (hn:ps.length<=30):(SymPs ps->m_graph_symmetric 1000 ps=some true)∧(¬SymPs ps->m_graph_symmetric 1000 ps=some false):=by
 unfold m_graph_symmetric
 have inner:∀(v:Nat) (m:List ((Int×Int)×Int)) ag,v<ps.length->(∀z,z∈m↔Read ps v 0 z)->
   (LinksOk (at' ps (v:Int)) v ps.length->∃m',(∀z,z∈m'↔Read ps (v+1) 0 z)∧iter (graph_symmetric_s3 ps ((v:Int),m) ag) 1000 ((0:Int),m)=ag ((v:Int)+1,m'))∧
   (¬LinksOk (at' ps (v:Int)) v ps.length->iter (graph_symmetric_s3 ps ((v:Int),m) ag) 1000 ((0:Int),m)=some false):=by
  intro v m ag hv hm
  have hbnd:=row_bound hn hv
  have key:=iter_ifB (step:=graph_symmetric_s3 ps ((v:Int),m) ag) (K:=fun x=>ag ((v:Int)+1,x.2)) (bad:=false) (at' ps (v:Int)).length (LinkOk (at' ps (v:Int)) v ps.length) (fun i x=>x.1=(i:Int)∧∀z,z∈x.2↔Read ps v i z) 1000 ?_ ?_ ?_ 1000 ((0:Int),m) ⟨rfl,hm⟩ (by omega) hbnd
  ·refine⟨fun h=> ?_,fun h=>key.2 h⟩
   obtain⟨x,⟨hx1,hx2⟩,hx⟩:=key.1 h
   refine⟨x.2,fun z=>(hx2 z).trans ⟨?_,?_⟩,hx⟩
   ·rintro⟨a,b,h1,h2,h3⟩;exact⟨a,b,by omega,h2,h3⟩
   ·rintro⟨a,b,h1,h2,h3⟩
    refine⟨a,b,?_,h2,h3⟩
    by_cases ha:a=v
    ·subst ha;exact .inr ⟨rfl,h2⟩
    ·omega
  ·rintro i ⟨x1,x2⟩ ag2 hi hi2 ⟨hx,hs⟩ ⟨p1,p2,p3,p4⟩
   dsimp only at hx hs
   subst hx
   have hg:mget (((v:Int),(lnk (at' ps (v:Int)) i).1)) x2=none:=by
    apply mget_none
    intro w hw
    obtain⟨a,b,h1,h2,h3⟩:=(hs _).1 hw
    simp only[Prod.mk.injEq]at h3
    obtain⟨⟨h4,h5⟩,_⟩:=h3
    have:a=v:=by omega
    subst this
    have hb:b<i:=by omega
    exact p4 b hb h5.symm
   refine⟨((i:Int)+1,mset (((v:Int),(lnk (at' ps (v:Int)) i).1)) (lnk (at' ps (v:Int)) i).2 x2),⟨by simp,fun z=> ?_⟩,?_⟩
   ·dsimp only
    rw[mem_mset hg,hs]
    constructor
    ·rintro(rfl|⟨a,b,h1,h2,h3⟩)
     ·exact⟨v,i,.inr ⟨rfl,by omega⟩,hi,rfl⟩
     ·exact⟨a,b,by omega,h2,h3⟩
    ·rintro⟨a,b,h1,h2,h3⟩
     by_cases hab:a=v∧b=i
     ·left;rw[h3,hab.1,hab.2]
     ·right;exact⟨a,b,by omega,h2,h3⟩
   ·replace p1:0<=(at' (at' ps (v:Int)) (i:Int)).1∧(at' (at' ps (v:Int)) (i:Int)).1<=(ps.length:Int) - 1:=p1
    replace p3:1<=(at' (at' ps (v:Int)) (i:Int)).2∧(at' (at' ps (v:Int)) (i:Int)).2<=15:=p3
    unfold graph_symmetric_s3 graph_symmetric_k3 graph_symmetric_k4
    dsimp only
    rw[if_pos (by omega),ckT (by omega),if_neg (by omega),if_neg (by omega),if_neg (by rw[decide_eq_false p2];simp),if_neg (by omega),if_neg (by rw[decide_eq_false (by omega)];simp),hg,if_neg (by simp),wr (by omega) (by omega)]
  ·rintro i ⟨x1,x2⟩ ag2 hi hi2 ⟨hx,hs⟩ hp
   dsimp only at hx hs
   subst hx
   unfold graph_symmetric_s3 graph_symmetric_k3 graph_symmetric_k4
   dsimp only
   rw[if_pos (by omega),ckT (by omega)]
   by_cases h1:(lnk (at' ps (v:Int)) i).1<0
   ·rw[if_pos h1,if_pos rfl]
   rw[if_neg h1]
   by_cases h2:(ps.length:Int)<=(lnk (at' ps (v:Int)) i).1
   ·rw[if_pos h2,if_pos rfl]
   rw[if_neg h2]
   by_cases h3:(lnk (at' ps (v:Int)) i).1=v
   ·rw[if_pos (decide_eq_true h3)]
   rw[if_neg (by rw[decide_eq_false h3];simp)]
   by_cases h4:(lnk (at' ps (v:Int)) i).2<1
   ·rw[if_pos h4,if_pos rfl]
   rw[if_neg h4]
   by_cases h5:15<(lnk (at' ps (v:Int)) i).2
   ·rw[if_pos (decide_eq_true h5)]
   rw[if_neg (by rw[decide_eq_false h5];simp)]
   have:∃k,k<i∧(lnk (at' ps (v:Int)) k).1=(lnk (at' ps (v:Int)) i).1:=by
    apply Classical.byContradiction
    intro hc
    exact hp ⟨by omega,h3,by omega,fun k hk he=>hc ⟨k,hk,he⟩⟩
   obtain⟨k,hk,he⟩:=this
   have hin:=(hs _).2 ⟨v,k,.inr ⟨rfl,hk⟩,by omega,rfl⟩
   rw[if_pos]
   rw[<-he]
   cases hg:mget (((v:Int),(lnk (at' ps (v:Int)) k).1)) x2 with
   |some w=>rfl
   | none => exact absurd hin (by
     intro hin
     exact mget_none_mem hg hin)
  ·rintro⟨x1,x2⟩ ag2 ⟨hx,hs⟩ _
   dsimp only at hx hs
   subst hx
   unfold graph_symmetric_s3 graph_symmetric_k2
   dsimp only
   rw[if_neg (by omega),wr (by omega) (by omega)]
 have outer:=iter_ifS (step:=graph_symmetric_s2 1000 ps) (K:=fun x=>graph_symmetric_k1 x.2) (bad:=false) ps.length (fun v=>LinksOk (at' ps (v:Int)) v ps.length) (fun v x=>x.1=(v:Int)∧∀z,z∈x.2↔Read ps v 0 z) ?_ ?_ ?_ 1000 ((0:Int),[]) ⟨rfl,fun z=>⟨fun h=>(by cases h),fun⟨a,b,h1,_⟩=>(by omega)⟩⟩ (by omega)
 rotate_left
 ·rintro v ⟨x1,x2⟩ ag hv ⟨hx,hs⟩ hp
  dsimp only at hx hs
  subst hx
  obtain⟨m',h1,h2⟩:=(inner v x2 ag hv hs).1 hp
  refine⟨((v:Int)+1,m'),⟨by simp,h1⟩,?_⟩
  ·unfold graph_symmetric_s2
   dsimp only
   rw[if_pos (by omega),ckT (by omega)]
   exact h2
 ·rintro v ⟨x1,x2⟩ ag hv ⟨hx,hs⟩ hp
  dsimp only at hx hs
  subst hx
  unfold graph_symmetric_s2
  dsimp only
  rw[if_pos (by omega),ckT (by omega)]
  exact(inner v x2 ag hv hs).2 hp
 ·rintro⟨x1,x2⟩ ag ⟨hx,hs⟩
  dsimp only at hx hs
  subst hx
  unfold graph_symmetric_s2
  dsimp only
  rw[if_neg (by omega)]
 by_cases hL:∀v,v<ps.length->LinksOk (at' ps (v:Int)) v ps.length
 rotate_left
 ·exact⟨fun h=>absurd h.1 hL,fun _=>outer.2 hL⟩
 obtain⟨⟨x1,x2⟩,⟨hx,hs⟩,he⟩:=outer.1 hL
 rw[he]
 dsimp only at hs ⊢
 have hk:graph_symmetric_k1 x2=some (decide (∀z∈x2,¬(Option.getD (mget (z.1.2,z.1.1) x2) (0:Int))≠z.2)):=mrun_all (fun z:(Int×Int)×Int=>(Option.getD (mget (z.1.2,z.1.1) x2) (0:Int))≠z.2) x2
 rw[hk]
 have hiff:(∀z∈x2,¬(Option.getD (mget (z.1.2,z.1.1) x2) (0:Int))≠z.2)↔∀v,v<ps.length->∀i,i<(at' ps (v:Int)).length->SymAt ([],ps) v i:=by
  constructor
  ·intro h v hv i hi
   have hw:=(hL v hv i hi).2.2.1
   have hin:=(hs (((v:Int),(lnk (at' ps (v:Int)) i).1),(lnk (at' ps (v:Int)) i).2)).2 ⟨v,i,.inl hv,hi,rfl⟩
   have h2:=Decidable.not_not.1 (h _ hin)
   dsimp only at h2
   cases hg:mget ((lnk (at' ps (v:Int)) i).1,(v:Int)) x2 with
   |none=>rw[hg]at h2;simp only[Option.getD]at h2;omega
   | some w =>
    rw[hg]at h2;simp only[Option.getD]at h2
    obtain⟨a,b,h3,h4,h5⟩:=(hs _).1 (mget_some hg)
    simp only[Prod.mk.injEq]at h5
    obtain⟨⟨h6,h7⟩,h8⟩:=h5
    refine⟨b,?_,?_,?_⟩
    ·show b<(at' ps (lnk (at' ps (v:Int)) i).1).length
     rw[h6];exact h4
    ·show(lnk (at' ps (lnk (at' ps (v:Int)) i).1) b).1=v
     rw[h6];exact h7.symm
    ·show(lnk (at' ps (lnk (at' ps (v:Int)) i).1) b).2=(lnk (at' ps (v:Int)) i).2
     rw[h6,<-h8];exact h2
  ·intro h z hz hne
   obtain⟨a,b,h3,h4,rfl⟩:=(hs z).1 hz
   have ha:a<ps.length:=by omega
   apply hne
   obtain⟨j,hj1,hj2,hj3⟩:=h a ha b h4
   have hu:=(hL a ha b h4).1
   obtain⟨u,hu'⟩:∃u:Nat,(lnk (at' ps (a:Int)) b).1=u:=⟨(lnk (at' ps (a:Int)) b).1.toNat,by omega⟩
   replace hj1:j<(at' ps (lnk (at' ps (a:Int)) b).1).length:=hj1
   replace hj2:(lnk (at' ps (lnk (at' ps (a:Int)) b).1) j).1=a:=hj2
   replace hj3:(lnk (at' ps (lnk (at' ps (a:Int)) b).1) j).2=(lnk (at' ps (a:Int)) b).2:=hj3
   rw[hu']at hj1 hj2 hj3
   have hun:u<ps.length:=by omega
   dsimp only
   rw[hu',<-hj3]
   have hin:=(hs (((u:Int),(lnk (at' ps (u:Int)) j).1),(lnk (at' ps (u:Int)) j).2)).2 ⟨u,j,.inl hun,hj1,rfl⟩
   rw[hj2]at hin
   cases hg:mget ((u:Int),(a:Int)) x2 with
   |none=>exact absurd hin (mget_none_mem hg)
   | some w =>
    obtain⟨a',b',h3',h4',h5⟩:=(hs _).1 (mget_some hg)
    simp only[Prod.mk.injEq]at h5
    obtain⟨⟨h6,h7⟩,h8⟩:=h5
    have:a'=u:=by omega
    subst this
    have hbj:b'=j:=by
     rcases Nat.lt_trichotomy b' j with hl|hl|hl
     ·exact absurd (h7.symm.trans hj2.symm) ((hL a' hun j hj1).2.2.2 b' hl)
     ·exact hl
     ·exact absurd (hj2.trans h7) ((hL a' hun b' h4').2.2.2 j hl)
    subst hbj
    exact h8
 by_cases hS:∀v,v<ps.length->∀i,i<(at' ps (v:Int)).length->SymAt ([],ps) v i
 ·rw[decide_eq_true (hiff.2 hS)]
  exact⟨fun _=>rfl,fun h=>absurd ⟨hL,hS⟩ h⟩
 ·rw[decide_eq_false (fun h=>hS (hiff.1 h))]
  exact⟨fun h=>absurd h.2 hS,fun _=>rfl⟩
theorem valid_gen (g:GR):(VG g->m_graph_Valid 1000 g=some true)∧(¬VG g->m_graph_Valid 1000 g=some false):=by
 unfold m_graph_Valid graph_Valid_k1 graph_Valid_k2
 by_cases h1:g.1.length<1
 ·rw[if_pos (by omega)]
  exact⟨fun h=>by have:=h.n1;have:=h.len;omega,fun _=>rfl⟩
 rw[if_neg (by omega)]
 by_cases h2:24<g.1.length
 ·rw[if_pos (by omega)]
  exact⟨fun h=>by have:=h.n24;have:=h.len;omega,fun _=>rfl⟩
 rw[if_neg (by omega)]
 by_cases h3:g.1.length=g.2.length
 rotate_left
 ·rw[decide_eq_true (by omega)]
  exact⟨fun h=>absurd h.len h3,fun _=>rfl⟩
 rw[decide_eq_false (by omega),if_neg (by simp)]
 by_cases h4:∀k,k<g.1.length->IdOk g.1 k
 rotate_left
 ·rw[(differentIDs_eq g.1 (by omega)).2 h4,bindS rfl]
  exact⟨fun h=>absurd (fun k hk=>⟨(h.node k (by omega)).id,(h.node k (by omega)).ids⟩) h4,fun _=>rfl⟩
 rw[(differentIDs_eq g.1 (by omega)).1 h4,bindS rfl,if_pos rfl]
 by_cases h5:SymPs g.2
 ·rw[(symmetric_gen g.2 (by omega)).1 h5]
  exact⟨fun _=>rfl,fun h=>absurd ⟨by omega,by omega,h3,fun v hv=>⟨(h4 v (by omega)).1,deg_lt hv (h5.1 v hv),h5.1 v hv,(h4 v (by omega)).2⟩,h5.2⟩ h⟩
 ·rw[(symmetric_gen g.2 (by omega)).2 h5]
  exact⟨fun h=>absurd ⟨fun v hv=>(h.node v hv).links,h.sym⟩ h5,fun _=>rfl⟩
end Go.Proofs.YtfimaabbclepbaaGreat
end
end
section
namespace Go.Sx
theorem iter_for {X R:Type} {step:X->(X->Option R)->Option R} {K:Option R} (N:Nat) (F:Nat->X) (hstep:∀(k:Nat) ag,k<N->step (F k) ag=ag (F (k+1))) (hend:∀ag,step (F N) ag=K):∀fuel,N<fuel->iter step fuel (F 0)=K:=by
 have key:∀(d a fuel:Nat),a+d=N->d<fuel->iter step fuel (F a)=K:=by
  intro d
  induction d with
  |zero=>
   intro a fuel ha hf
   obtain rfl:a=N:=by omega
   obtain⟨f,rfl⟩:∃f,fuel=f+1:=⟨fuel - 1,by omega⟩
   exact hend _
  |succ d ih=>
   intro a fuel ha hf
   obtain⟨f,rfl⟩:∃f,fuel=f+1:=⟨fuel - 1,by omega⟩
   show step (F a) (iter step f)=K
   rw[hstep a _ (by omega)]
   exact ih (a+1) f (by omega) (by omega)
 exact fun fuel hf=>key N 0 fuel (by omega) hf
theorem iter_inv {X R:Type} {step:X->(X->Option R)->Option R} {K:X->Option R} (N:Nat) (I:Nat->X->Prop) (hstep:∀(k:Nat) x ag,k<N->I k x->∃x',I (k+1) x'∧step x ag=ag x') (hend:∀x ag,I N x->step x ag=K x):∀fuel x,I 0 x->N<fuel->∃x',I N x'∧iter step fuel x=K x':=by
 have key:∀(d a fuel:Nat) (x:X),a+d=N->d<fuel->I a x->∃x',I N x'∧iter step fuel x=K x':=by
  intro d
  induction d with
  |zero=>
   intro a fuel x ha hf hI
   obtain rfl:a=N:=by omega
   obtain⟨f,rfl⟩:∃f,fuel=f+1:=⟨fuel - 1,by omega⟩
   exact⟨x,hI,hend _ _ hI⟩
  |succ d ih=>
   intro a fuel x ha hf hI
   obtain⟨f,rfl⟩:∃f,fuel=f+1:=⟨fuel - 1,by omega⟩
   obtain⟨x',hI',hs⟩:=hstep a x (iter step f) (by omega) hI
   obtain⟨x2,h1,h2⟩:=ih (a+1) f x' (by omega) (by omega) hI'
   exact⟨x2,h1,by rw[<-h2];exact hs⟩
 exact fun fuel x hI hf=>key N 0 fuel x (by omega) hf hI
def anyN (q:Nat->Bool):Nat->Bool
 |0=>false
 |k+1=>anyN q k||q k
theorem anyN_iff {q:Nat->Bool}:∀{k:Nat},anyN q k=true↔∃i,i<k∧q i=true
 |0=>by simp[anyN]
 | k + 1 => by
  simp only[anyN,Bool.or_eq_true,anyN_iff (k:=k)]
  constructor
  ·rintro(⟨i,h1,h2⟩|h)
   ·exact⟨i,by omega,h2⟩
   ·exact⟨k,by omega,h⟩
  ·rintro⟨i,h1,h2⟩
   by_cases e:i=k
   ·subst e;exact .inr h2
   ·exact .inl ⟨i,by omega,h2⟩
def maskN (p:Nat->Bool):Nat->Nat
 |0=>0
 |k+1=>if p k then maskN p k ||| 2^k else maskN p k
theorem maskN_lt (p:Nat->Bool):∀k,maskN p k<2^k
 |0=>by simp[maskN]
 |k+1=>by
  have h:=maskN_lt p k
  simp only[maskN]
  split
  ·exact Nat.or_lt_two_pow (by omega) (Nat.pow_lt_pow_right (by omega) (by omega))
  ·omega
theorem maskN_bit (p:Nat->Bool) (j:Nat):∀k,(maskN p k).testBit j=(decide (j<k)&&p j)
 |0=>by simp[maskN]
 | k + 1 => by
  have h:=maskN_bit p j k
  simp only[maskN]
  by_cases e:j=k
  ·subst e
   cases hp:p j<;>simp[h,hp]
  ·have e2:decide (j<k+1)=decide (j<k):=decide_eq_decide.2 (by omega)
   have e3:¬k=j:=fun h=>e h.symm
   split
   ·rw[Nat.testBit_or,h,Nat.testBit_two_pow,e2];simp[e3]
   ·rw[h,e2]
end Go.Sx
end
section
namespace Go.Proofs.YtfimaabbclepbaaGreat
open Go.Sx
def bfs_Configuration_k1  (a3:Unit):Option (Bool):=
 some (true)
def bfs_Configuration_k2 (a7:Int) (ag6:(Int)->Option (Bool)) (a11:Unit):Option (Bool):=
 ag6 (wI .i64 (a7+(1:Int)))
def bfs_Configuration_k4 (a17:Int) (ag16:(Int)->Option (Bool)) (a28:Bool):Option (Bool):=
 if a28=true then(some (false))else(ag16 (wI .i64 (a17+(1:Int))))
def bfs_Configuration_k3 (p1:List (List (Int))) (a7:Int) (a17:Int) (ag16:(Int)->Option (Bool)) (a25:Int×Int):Option (Bool):=
 if(at' (at' p1 a7) a17)<a25.1 then(bfs_Configuration_k4 a17 ag16 (true))else(bfs_Configuration_k4 a17 ag16 (decide (a25.2<(at' (at' p1 a7) a17))))
def bfs_Configuration_s2 (p0:List (Int)×(List (List (Int×Int)))) (p1:List (List (Int))) (p2:List (Int)) (a7:Int) (ag6:(Int)->Option (Bool)) (a17:Int) (ag16:(Int)->Option (Bool)):Option (Bool):=
 if a17<(List.length (at' p1 a7):Int)then(ck (0<=a17∧a17<(List.length (at' p1 a7):Int)) (ck (0<=a17∧a17<(List.length p2:Int)) (if(at' p2 a17)=(-1:Int)then(ck (0<=a7∧a7<(List.length p0.2:Int)) (bfs_Configuration_k3 p1 a7 a17 ag16 ((-1:Int),(wI .i64 ((List.length (at' p0.2 a7):Int) - (1:Int))))))else(bfs_Configuration_k3 p1 a7 a17 ag16 ((0:Int),(at' p2 a17))))))else(bfs_Configuration_k2 a7 ag6 (()))
def bfs_Configuration_s1 (fuel:Nat) (p0:List (Int)×(List (List (Int×Int)))) (p1:List (List (Int))) (p2:List (Int)) (a7:Int) (ag6:(Int)->Option (Bool)):Option (Bool):=
 if a7<(List.length p1:Int)then(ck (0<=a7∧a7<(List.length p1:Int)) (if(List.length (at' p1 a7):Int)≠(List.length p2:Int)then(some (false))else(iter (bfs_Configuration_s2 p0 p1 p2 a7 ag6) fuel (0:Int))))else(bfs_Configuration_k1  (()))
def m_bfs_Configuration (fuel:Nat) (p0:List (Int)×(List (List (Int×Int)))) (p1:List (List (Int))) (p2:List (Int)):Option (Bool):=
 if(List.length p1:Int)≠(List.length p0.1:Int)then(some (false))else(iter (bfs_Configuration_s1 fuel p0 p1 p2) fuel (0:Int))
theorem body23:HasBody Tryz.prog 23:=Tryz.call23
theorem t_bfs_Configuration (fuel:Nat) {p0:List (Int)×(List (List (Int×Int)))} {p1:List (List (Int))} {p2:List (Int)} (v0:Value)  (v1:Value)  (z2:List (Value×List (Int×Int)))  (v3:Value)  (z4:List (Value×List (Int)))  (v5:Value) (r:Bool) (h:m_bfs_Configuration fuel p0 p1 p2=some r):
  Meets Tryz.prog 23 #[Value.agg #[v0,v1],v3,v5] [Sl RI64 v0 p0.1,S2 RI64I64p v1 z2 p0.2,S2 RI64 v3 z4 p1,Sl RI64 v5 p2] (fun x:Unit=>Value.bool (r)) (fun x l=>l) (fun _ l=>l):=by
 refine Meets.of (vs:=[Value.agg #[v0,v1],v3,v5]) Tryz.func23 rfl Tryz.ntmps23 rfl fun c=> ?_
 unfold m_bfs_Configuration at h
 refine J.seq<|J.region<|J.loud (Loud.box (cs:=[v0,v1]) rfl rfl) rfl fun b1=>J.quiet (Y.assign rfl) rfl<|J.done<|J.thenN<|J.seq<|J.seq<|J.region<|J.quiet (Y.move rfl) rfl<|J.quiet (Y.lenN rfl (Lent.fact 2 rfl) rfl) rfl<|J.quiet (Y.fieldB rfl rfl rfl rfl rfl) rfl<|J.quiet (Y.loadB 0 rfl rfl rfl rfl rfl) rfl<|J.quiet (Y.lenS rfl (Lent.fact 0 rfl) rfl) rfl<|J.quiet (Y.neq rfl rfl) rfl<|J.done<|J.thenN ?_
 refine J.condD (by exact rfl) (fun hp2=> ?_) (fun hp2=> ?_)
 ·have h:=ifP hp2 h
  refine J.seq<|J.region<|J.quiet (Y.assign rfl) rfl<|J.done<|J.thenN<|J.ret<|J.thenR ?_
  obtain rfl:=Option.some.inj h
  exact J.retG1 (()) rfl rfl (RV.tmp rfl) (SubM.nil) LentAll.nil
 ·have h:=ifN hp2 h
  refine J.skip<|J.thenN<|J.seq<|J.midI (A:=Unit) (B:=Unit) (fun a3=>bfs_Configuration_k1  a3=some r) (fun a3 b4=>[]) (fun a3 b4=>[]) (fun a3 b4=>[Sl RI64 v0 p0.1,S2 RI64I64p v1 z2 p0.2,S2 RI64 v3 z4 p1,Sl RI64 v5 p2]) ?_ ?_
  ·refine J.seq<|J.region<|J.quiet (Y.move rfl) rfl<|J.quiet (Y.lenN rfl (Lent.fact 2 rfl) rfl) rfl<|J.quiet (Y.move rfl) rfl<|J.done<|J.thenN<|J.block<|J.loopI (A:=Int) (B:=Unit) (bfs_Configuration_s1 fuel p0 p1 p2) (fun a7 b8=>[(2,v5),(3,Value.pointer (some ⟨b1,0,none⟩)),(19,v3),(20,Value.int .i64 (List.length p1:Int)),(21,Value.int .i64 (a7))]) (fun a7 b8=>[Blk b1 [v0,v1] 25]) (fun a7 b8=>[Sl RI64 v0 p0.1,S2 RI64I64p v1 z2 p0.2,S2 RI64 v3 z4 p1,Sl RI64 v5 p2]) (0:Int) (()) h SF (SubM.refl _) (LentAll.refl _ _) ?_
   clear h
   intro k9 a7 b8 h
   unfold bfs_Configuration_s1 at h
   refine J.seq<|J.region<|J.quiet (Y.lss rfl rfl) rfl<|J.done<|J.thenN<|J.seq ?_
   refine J.condD (by exact rfl) (fun hp10=> ?_) (fun hp10=> ?_)
   ·have h:=ifP hp10 h
    refine J.skip<|J.thenN<|J.seq<|J.midI (A:=Unit) (B:=Unit) (fun a11=>bfs_Configuration_k2 a7 (iter (bfs_Configuration_s1 fuel p0 p1 p2) k9) a11=some r) (fun a11 b12=>[(2,v5),(3,Value.pointer (some ⟨b1,0,none⟩)),(19,v3),(20,Value.int .i64 (List.length p1:Int)),(21,Value.int .i64 (a7))]) (fun a11 b12=>[Blk b1 [v0,v1] 25]) (fun a11 b12=>[Sl RI64 v0 p0.1,S2 RI64I64p v1 z2 p0.2,S2 RI64 v3 z4 p1,Sl RI64 v5 p2]) ?_ ?_
    ·refine J.block<|J.seq<|J.region<|J.quiet (Y.move rfl) rfl ?_
     have h:=ck_some h;obtain⟨hc13,h⟩:=h
     refine J.quiet (Y.indexN rfl rfl (Lent.fact 2 rfl) rfl rfl hc13) rfl<|J.quiet (Y.loadRow rfl (Lent.fact 2 rfl) rfl rfl hc13) rfl<|J.quiet (Y.assign rfl) rfl<|J.quiet (Y.assign rfl) rfl<|J.done<|J.thenN<|J.seq<|J.seq<|J.region<|J.quiet (Y.move rfl) rfl<|J.quiet (Y.lenS rfl (Lent.el (Lent.fact 2 rfl) hc13.1 hc13.2) rfl) rfl<|J.quiet (Y.move rfl) rfl<|J.quiet (Y.lenS rfl (Lent.fact 3 rfl) rfl) rfl<|J.quiet (Y.neq rfl rfl) rfl<|J.done<|J.thenN ?_
     refine J.condD (by exact rfl) (fun hp14=> ?_) (fun hp14=> ?_)
     ·have h:=ifP hp14 h
      refine J.seq<|J.region<|J.quiet (Y.assign rfl) rfl<|J.done<|J.thenN<|J.ret<|J.thenR<|J.inR<|J.thenR<|J.thenR<|J.inR<|J.thenR ?_
      obtain rfl:=Option.some.inj h
      exact J.retG1 (()) rfl rfl (RV.tmp rfl) (SubM.nil) LentAll.nil
     ·have h:=ifN hp14 h
      refine J.skip<|J.thenN<|J.seq<|J.region<|J.quiet (Y.move rfl) rfl<|J.quiet (Y.lenS rfl (Lent.el (Lent.fact 2 rfl) hc13.1 hc13.2) rfl) rfl<|J.quiet (Y.move rfl) rfl<|J.done<|J.thenN<|J.block<|J.loopI (A:=Int) (B:=Unit) (bfs_Configuration_s2 p0 p1 p2 a7 (iter (bfs_Configuration_s1 fuel p0 p1 p2) k9)) (fun a17 b18=>[(2,v5),(3,Value.pointer (some ⟨b1,0,none⟩)),(7,Value.int .i64 (a7)),(19,v3),(20,Value.int .i64 (List.length p1:Int)),(21,Value.int .i64 (a7)),(31,(at' z4 a7).1),(32,Value.int .i64 (List.length (at' p1 a7):Int)),(33,Value.int .i64 (a17))]) (fun a17 b18=>[Blk b1 [v0,v1] 25]) (fun a17 b18=>[Sl RI64 v0 p0.1,S2 RI64I64p v1 z2 p0.2,S2 RI64 v3 z4 p1,Sl RI64 v5 p2]) (0:Int) (()) h SF (SubM.refl _) (LentAll.refl _ _) ?_
      clear h
      intro k19 a17 b18 h
      unfold bfs_Configuration_s2 at h
      refine J.seq<|J.region<|J.quiet (Y.lss rfl rfl) rfl<|J.done<|J.thenN<|J.seq ?_
      refine J.condD (by exact rfl) (fun hp20=> ?_) (fun hp20=> ?_)
      ·have h:=ifP hp20 h
       refine J.skip<|J.thenN<|J.seq<|J.block<|J.seq<|J.region<|J.quiet (Y.move rfl) rfl ?_
       have h:=ck_some h;obtain⟨hc21,h⟩:=h
       refine J.quiet (Y.indexS rfl rfl (Lent.el (Lent.fact 2 rfl) hc13.1 hc13.2) rfl rfl hc21) rfl<|J.quiet (Y.loadS0 rfl (Lent.el (Lent.fact 2 rfl) hc13.1 hc13.2) rfl rfl rfl RI64c0 hc21) rfl<|J.quiet (Y.assign rfl) rfl<|J.quiet (Y.assign rfl) rfl<|J.done<|J.thenN<|J.seq ?_
       refine JR.start [0,0,3,7,0,31] 5 mixedOrders (by decide +kernel) ?_
       refine JR.open (by exact rfl) ?_
       refine JR.qt rfl (SubM.nil) (SubL.nil) (Y.move rfl) HistOk.z<|JR.qt rfl (SubM.nil) (SubL.nil) (Y.move rfl) HistOk.z ?_
       have h:=ck_some h;obtain⟨hc22,h⟩:=h
       refine JR.qt rfl (SubM.nil) (SubL.cons (List.mem_of_getElem? (i:=3) rfl) (SubL.nil)) (Y.indexS rfl rfl (Lent.fact 0 rfl) rfl rfl hc22) HistOk.z<|JR.qt rfl (SubM.nil) (SubL.cons (List.mem_of_getElem? (i:=3) rfl) (SubL.nil)) (Y.loadS0 rfl (Lent.fact 0 rfl) rfl rfl rfl RI64c0 hc22) HistOk.z<|JR.qt rfl (SubM.nil) (SubL.nil) (Y.assign rfl) HistOk.z<|JR.tailD 5 rfl rfl<|J.quiet (Y.assign rfl) rfl<|J.done<|J.thenN<|J.seq<|J.midI (A:=Int×Int) (B:=Unit) (fun a25=>bfs_Configuration_k3 p1 a7 a17 (iter (bfs_Configuration_s2 p0 p1 p2 a7 (iter (bfs_Configuration_s1 fuel p0 p1 p2) k9)) k19) a25=some r) (fun a25 b26=>[(2,v5),(3,Value.pointer (some ⟨b1,0,none⟩)),(7,Value.int .i64 (a7)),(10,Value.int .i64 (at' (at' p1 a7) a17)),(11,Value.int .i64 (a25.1)),(12,Value.int .i64 (a25.2)),(19,v3),(20,Value.int .i64 (List.length p1:Int)),(21,Value.int .i64 (a7)),(31,(at' z4 a7).1),(32,Value.int .i64 (List.length (at' p1 a7):Int)),(33,Value.int .i64 (a17))]) (fun a25 b26=>[Blk b1 [v0,v1] 25]) (fun a25 b26=>[Sl RI64 v0 p0.1,S2 RI64I64p v1 z2 p0.2,S2 RI64 v3 z4 p1,Sl RI64 v5 p2]) ?_ ?_
       ·refine J.seq<|J.region<|J.quiet (Y.move rfl) rfl<|J.quiet (Y.eql rfl rfl) rfl<|J.done<|J.thenN ?_
        refine J.condD (by exact rfl) (fun hp32=> ?_) (fun hp32=> ?_)
        ·have h:=ifP hp32 h
         refine JR.start [0,1,0,7,15,31,63,0,255] 8 mixedOrders (by decide +kernel) ?_
         refine JR.open (by exact rfl) ?_
         refine JR.qt rfl (SubM.nil) (SubL.nil) (Y.fieldB rfl rfl rfl rfl rfl) HistOk.z<|JR.qt rfl (SubM.refl _) (SubL.nil) (Y.loadB 0 rfl rfl rfl rfl rfl) HistOk.z<|JR.qt rfl (SubM.nil) (SubL.nil) (Y.move rfl) HistOk.z ?_
         have h:=ck_some h;obtain⟨hc33,h⟩:=h
         refine JR.qt rfl (SubM.nil) (SubL.cons (List.mem_of_getElem? (i:=1) rfl) (SubL.nil)) (Y.indexN rfl rfl (Lent.fact 0 rfl) rfl rfl hc33) HistOk.z<|JR.qt rfl (SubM.nil) (SubL.cons (List.mem_of_getElem? (i:=1) rfl) (SubL.nil)) (Y.loadRow rfl (Lent.fact 0 rfl) rfl rfl hc33) HistOk.z<|JR.qt rfl (SubM.nil) (SubL.cons (List.mem_of_getElem? (i:=1) rfl) (SubL.nil)) (Y.lenS rfl (Lent.el (Lent.fact 0 rfl) hc33.1 hc33.2) rfl) HistOk.z<|JR.qt rfl (SubM.nil) (SubL.nil) (Y.subW rfl rfl) HistOk.z<|JR.qt rfl (SubM.nil) (SubL.nil) (Y.assign rfl) HistOk.z<|JR.tailD 8 rfl rfl<|J.quiet (Y.assign rfl) rfl<|J.done<|J.thenN ?_
         exact J.meetI ((-1:Int),(wI .i64 ((List.length (at' p0.2 a7):Int) - (1:Int)))) (()) h SF (SubM.refl _) (LentAll.refl _ _)
        ·have h:=ifN hp32 h
         refine J.skip<|J.thenN ?_
         exact J.meetI ((0:Int),(at' p2 a17)) (()) h SF (SubM.refl _) (LentAll.refl _ _)
       ·clear h
        intro a25 b26 h
        unfold bfs_Configuration_k3 at h
        refine J.seq<|J.midI (A:=Bool) (B:=Unit) (fun a28=>bfs_Configuration_k4 a17 (iter (bfs_Configuration_s2 p0 p1 p2 a7 (iter (bfs_Configuration_s1 fuel p0 p1 p2) k9)) k19) a28=some r) (fun a28 b29=>[(2,v5),(3,Value.pointer (some ⟨b1,0,none⟩)),(7,Value.int .i64 (a7)),(19,v3),(20,Value.int .i64 (List.length p1:Int)),(21,Value.int .i64 (a7)),(31,(at' z4 a7).1),(32,Value.int .i64 (List.length (at' p1 a7):Int)),(33,Value.int .i64 (a17)),(58,Value.bool (a28))]) (fun a28 b29=>[Blk b1 [v0,v1] 25]) (fun a28 b29=>[Sl RI64 v0 p0.1,S2 RI64I64p v1 z2 p0.2,S2 RI64 v3 z4 p1,Sl RI64 v5 p2]) ?_ ?_
        ·refine J.region<|J.quiet (Y.move rfl) rfl<|J.quiet (Y.move rfl) rfl<|J.quiet (Y.lss rfl rfl) rfl<|J.quiet (Y.move rfl) rfl ?_
         refine J.guardD (by exact rfl) (by exact rfl) (fun hp31=> ?_) (fun hp31=> ?_)
         ·have h:=ifP hp31 h
          refine J.guardN rfl rfl rfl<|J.guardN rfl rfl rfl<|J.guardN rfl rfl rfl<|J.quiet (Y.pickT rfl rfl) rfl<|J.done<|J.thenN ?_
          exact J.meetI (true) (()) h SF (SubM.refl _) (LentAll.refl _ _)
         ·have h:=ifN hp31 h
          refine J.guardY rfl (Y.move rfl) rfl<|J.guardY rfl (Y.move rfl) rfl<|J.guardY rfl (Y.gtr rfl rfl) rfl<|J.quiet (Y.pickF rfl rfl) rfl<|J.done<|J.thenN ?_
          exact J.meetI (decide (a25.2<(at' (at' p1 a7) a17))) (()) h SF (SubM.refl _) (LentAll.refl _ _)
        ·clear h
         intro a28 b29 h
         unfold bfs_Configuration_k4 at h
         refine J.cond (by exact rfl) (fun hp30=> ?_) (fun hp30=> ?_)
         ·have h:=ifP hp30 h
          refine J.seq<|J.region<|J.quiet (Y.assign rfl) rfl<|J.done<|J.thenN<|J.ret<|J.inR<|J.thenR<|J.thenR<|J.inR<|J.inR<|J.thenR<|J.thenR<|J.inR<|J.thenR ?_
          obtain rfl:=Option.some.inj h
          exact J.retG1 (()) rfl rfl (RV.tmp rfl) (SubM.nil) LentAll.nil
         ·have h:=ifBN hp30 h
          refine J.skip<|J.inN<|J.thenN<|J.region<|J.quiet (Y.addW rfl rfl) rfl<|J.quiet (Y.move rfl) rfl<|J.done<|J.thenN ?_
          exact J.againI (wI .i64 (a17+(1:Int))) (()) h SF (SubM.refl _) (LentAll.refl _ _)
      ·have h:=ifN hp20 h
       refine J.exit<|J.thenX<|J.thenX<|J.inX<|J.inN<|J.thenN ?_
       exact J.meetI (()) (()) h SF (SubM.refl _) (LentAll.refl _ _)
    ·clear h
     intro a11 b12 h
     unfold bfs_Configuration_k2 at h
     refine J.region<|J.quiet (Y.addW rfl rfl) rfl<|J.quiet (Y.move rfl) rfl<|J.done<|J.thenN ?_
     exact J.againI (wI .i64 (a7+(1:Int))) (()) h SF (SubM.refl _) (LentAll.refl _ _)
   ·have h:=ifN hp10 h
    refine J.exit<|J.thenX<|J.thenX<|J.inX<|J.thenN ?_
    exact J.meetI (()) (()) h SF (SubM.nil) (LentAll.refl _ _)
  ·clear h
   intro a3 b4 h
   unfold bfs_Configuration_k1 at h
   refine J.seq<|J.region<|J.quiet (Y.assign rfl) rfl<|J.done<|J.thenN<|J.ret ?_
   obtain rfl:=Option.some.inj h
   exact J.retG1 (()) rfl rfl (RV.tmp rfl) (SubM.refl _) LentAll.nil
end Go.Proofs.YtfimaabbclepbaaGreat
end
section
namespace Go.Proofs.YtfimaabbclepbaaGreat
open Go.Sx
def ref23_top_k1  (a3:Int):Option (Int):=
 some (a3)
def ref23_top_s1 (p0:List (Int)×(List (List (Int×Int)))) (a8:Int×Int) (ag7:(Int×Int)->Option (Int)):Option (Int):=
 if a8.2<(List.length p0.1:Int)then(ck (0<=a8.2∧a8.2<(List.length p0.1:Int)) (ag7 ((max a8.1 (at' p0.1 a8.2)),(wI .i64 (a8.2+(1:Int))))))else(ref23_top_k1  (a8.1))
def m_ref23_top (fuel:Nat) (p0:List (Int)×(List (List (Int×Int)))):Option (Int):=
 iter (ref23_top_s1 p0) fuel ((0:Int),(0:Int))
theorem body50:HasBody Tryz.prog 50:=Tryz.call50
theorem t_ref23_top (fuel:Nat) {p0:List (Int)×(List (List (Int×Int)))} (v0:Value)  (v1:Value)  (z2:List (Value×List (Int×Int))) (r:Int) (h:m_ref23_top fuel p0=some r):
  Meets Tryz.prog 50 #[Value.agg #[v0,v1]] [Sl RI64 v0 p0.1,S2 RI64I64p v1 z2 p0.2] (fun x:Unit=>Value.int .i64 (r)) (fun x l=>l) (fun _ l=>l):=by
 refine Meets.of (vs:=[Value.agg #[v0,v1]]) Tryz.func50 rfl Tryz.ntmps50 rfl fun c=> ?_
 unfold m_ref23_top at h
 refine J.seq<|J.region<|J.loud (Loud.box (cs:=[v0,v1]) rfl rfl) rfl fun b1=>J.quiet (Y.assign rfl) rfl<|J.done<|J.thenN<|J.seq<|J.region<|J.quiet (Y.assign rfl) rfl<|J.done<|J.thenN<|J.seq<|J.midI (A:=Int) (B:=Unit) (fun a3=>ref23_top_k1  a3=some r) (fun a3 b4=>[(3,Value.int .i64 (a3))]) (fun a3 b4=>[]) (fun a3 b4=>[Sl RI64 v0 p0.1,S2 RI64I64p v1 z2 p0.2]) ?_ ?_
 ·refine J.seq<|J.region<|J.quiet (Y.assign rfl) rfl<|J.done<|J.thenN<|J.block<|J.loopI (A:=Int×Int) (B:=Unit) (ref23_top_s1 p0) (fun a8 b9=>[(1,Value.pointer (some ⟨b1,0,none⟩)),(3,Value.int .i64 (a8.1)),(4,Value.int .i64 (a8.2))]) (fun a8 b9=>[Blk b1 [v0,v1] 25]) (fun a8 b9=>[Sl RI64 v0 p0.1,S2 RI64I64p v1 z2 p0.2]) ((0:Int),(0:Int)) (()) h SF (SubM.refl _) (LentAll.refl _ _) ?_
  clear h
  intro k10 a8 b9 h
  unfold ref23_top_s1 at h
  refine J.seq<|J.seq<|J.region<|J.quiet (Y.move rfl) rfl<|J.quiet (Y.fieldB rfl rfl rfl rfl rfl) rfl<|J.quiet (Y.loadB 0 rfl rfl rfl rfl rfl) rfl<|J.quiet (Y.lenS rfl (Lent.fact 0 rfl) rfl) rfl<|J.quiet (Y.lss rfl rfl) rfl<|J.done<|J.thenN ?_
  refine J.condD (by exact rfl) (fun hp11=> ?_) (fun hp11=> ?_)
  ·have h:=ifP hp11 h
   refine J.skip<|J.thenN<|J.seq<|J.block<|J.region<|J.quiet (Y.move rfl) rfl<|J.quiet (Y.fieldB rfl rfl rfl rfl rfl) rfl<|J.quiet (Y.loadB 0 rfl rfl rfl rfl rfl) rfl<|J.quiet (Y.move rfl) rfl ?_
   have h:=ck_some h;obtain⟨hc12,h⟩:=h
   refine J.quiet (Y.indexS rfl rfl (Lent.fact 0 rfl) rfl rfl hc12) rfl<|J.quiet (Y.loadS0 rfl (Lent.fact 0 rfl) rfl rfl rfl RI64c0 hc12) rfl<|J.quiet (Y.max rfl rfl) rfl<|J.quiet (Y.assign rfl) rfl<|J.done<|J.inN<|J.thenN<|J.region<|J.quiet (Y.move rfl) rfl<|J.quiet (Y.addW rfl rfl) rfl<|J.quiet (Y.assign rfl) rfl<|J.done<|J.thenN ?_
   exact J.againI ((max a8.1 (at' p0.1 a8.2)),(wI .i64 (a8.2+(1:Int)))) (()) h SF (SubM.refl _) (LentAll.refl _ _)
  ·have h:=ifN hp11 h
   refine J.exit<|J.thenX<|J.thenX<|J.inX<|J.thenN ?_
   exact J.meetI (a8.1) (()) h SF (SubM.nil) (LentAll.refl _ _)
 ·clear h
  intro a3 b4 h
  unfold ref23_top_k1 at h
  refine J.seq<|J.region<|J.quiet (Y.move rfl) rfl<|J.quiet (Y.assign rfl) rfl<|J.done<|J.thenN<|J.ret ?_
  obtain rfl:=Option.some.inj h
  exact J.retG1 (()) rfl rfl (RV.tmp rfl) (SubM.refl _) LentAll.nil
end Go.Proofs.YtfimaabbclepbaaGreat
end
section
namespace Go.Proofs.YtfimaabbclepbaaGreat
open Go.Sx
def ref23_Config_k2  (a6:Unit):Option (Bool):=
 some (true)
def ref23_Config_k3 (a10:Int) (ag9:(Int)->Option (Bool)) (a14:Unit):Option (Bool):=
 ag9 (wI .i64 (a10+(1:Int)))
def ref23_Config_k4 (fuel:Nat) (p1:List (List (Int))) (a10:Int) (a20:Int) (ag19:(Int)->Option (Bool)) (a33:Int×Int):Option (Bool):=
 ck (0<=a10∧a10<(List.length p1:Int)) (ck (0<=a20∧a20<(List.length (at' p1 a10):Int)) (Option.bind (m_ref01_In fuel (at' (at' p1 a10) a20) a33.1 a33.2) fun r37=>(if(!r37)=true then(some (false))else(ag19 (wI .i64 (a20+(1:Int)))))))
def ref23_Config_s2 (fuel:Nat) (p0:List (Int)×(List (List (Int×Int)))) (p1:List (List (Int))) (p2:List (ByteArray×Int×Int×Int×Int×Int)) (a10:Int) (ag9:(Int)->Option (Bool)) (a20:Int) (ag19:(Int)->Option (Bool)):Option (Bool):=
 if a20<(List.length p2:Int)then(ck (0<=a20∧a20<(List.length p2:Int)) (ck (0<=a20∧a20<(List.length p2:Int)) (ck (0<=a20∧a20<(List.length p2:Int)) (ck (0<=a20∧a20<(List.length p2:Int)) (Option.bind (m_ref23_top fuel ((p0.1,p0.2))) fun r28=>(ck (0<=a20∧a20<(List.length p2:Int)) (if((at' p2 a20).2.1)=(2:Int)then(ref23_Config_k4 fuel p1 a10 a20 ag19 ((0:Int),(1:Int)))else(if((at' p2 a20).2.1)=(3:Int)then(ck (0<=a10∧a10<(List.length p0.2:Int)) (ref23_Config_k4 fuel p1 a10 a20 ag19 ((-1:Int),(wI .i64 ((List.length (at' p0.2 a10):Int) - (1:Int))))))else(ref23_Config_k4 fuel p1 a10 a20 ag19 (((at' p2 a20).2.2.1),(wI .i64 ((wI .i64 (((at' p2 a20).2.2.2.1)+(wI .i64 (((at' p2 a20).2.2.2.2.1)*(List.length p0.2:Int)))))+(wI .i64 (((at' p2 a20).2.2.2.2.2)*r28))))))))))))))else(ref23_Config_k3 a10 ag9 (()))
def ref23_Config_s1 (fuel:Nat) (p0:List (Int)×(List (List (Int×Int)))) (p1:List (List (Int))) (p2:List (ByteArray×Int×Int×Int×Int×Int)) (a10:Int) (ag9:(Int)->Option (Bool)):Option (Bool):=
 if a10<(List.length p0.2:Int)then(ck (0<=a10∧a10<(List.length p1:Int)) (if(List.length (at' p1 a10):Int)≠(List.length p2:Int)then(some (false))else(iter (ref23_Config_s2 fuel p0 p1 p2 a10 ag9) fuel (0:Int))))else(ref23_Config_k2  (()))
def ref23_Config_k1 (fuel:Nat) (p0:List (Int)×(List (List (Int×Int)))) (p1:List (List (Int))) (p2:List (ByteArray×Int×Int×Int×Int×Int)) (a3:Bool):Option (Bool):=
 if a3=true then(some (false))else(iter (ref23_Config_s1 fuel p0 p1 p2) fuel (0:Int))
def m_ref23_Config (fuel:Nat) (p0:List (Int)×(List (List (Int×Int)))) (p1:List (List (Int))) (p2:List (ByteArray×Int×Int×Int×Int×Int)):Option (Bool):=
 Option.bind (m_ref01_Valid fuel ((p0.1,p0.2))) fun r45=>(if(!r45)=true then(ref23_Config_k1 fuel p0 p1 p2 (true))else(ref23_Config_k1 fuel p0 p1 p2 (decide ((List.length p1:Int)≠(List.length p0.2:Int)))))
theorem body25:HasBody Tryz.prog 25:=Tryz.call25
theorem t_ref23_Config (fuel:Nat) {p0:List (Int)×(List (List (Int×Int)))} {p1:List (List (Int))} {p2:List (ByteArray×Int×Int×Int×Int×Int)} (v0:Value)  (v1:Value)  (z2:List (Value×List (Int×Int)))  (v3:Value)  (z4:List (Value×List (Int)))  (v5:Value) (r:Bool) (h:m_ref23_Config fuel p0 p1 p2=some r):
  Meets Tryz.prog 25 #[Value.agg #[v0,v1],v3,v5] [Sl RI64 v0 p0.1,S2 RI64I64p v1 z2 p0.2,S2 RI64 v3 z4 p1,Sl RStI64I64I64I64I64p v5 p2] (fun x:Unit=>Value.bool (r)) (fun x l=>l) (fun _ l=>l):=by
 refine Meets.of (vs:=[Value.agg #[v0,v1],v3,v5]) Tryz.func25 rfl Tryz.ntmps25 rfl fun c=> ?_
 unfold m_ref23_Config at h
 refine J.seq<|J.region<|J.loud (Loud.box (cs:=[v0,v1]) rfl rfl) rfl fun b1=>J.quiet (Y.assign rfl) rfl<|J.done<|J.thenN<|J.seq<|J.region<|J.quiet (Y.fieldB rfl rfl rfl rfl rfl) rfl<|J.quiet (Y.loadB 0 rfl rfl rfl rfl rfl) rfl<|J.quiet (Y.lenN rfl (Lent.fact 1 rfl) rfl) rfl<|J.quiet (Y.assign rfl) rfl<|J.done<|J.thenN<|J.seq<|J.seq<|J.midI (A:=Bool) (B:=Unit) (fun a3=>ref23_Config_k1 fuel p0 p1 p2 a3=some r) (fun a3 b4=>[(1,v3),(2,v5),(3,Value.pointer (some ⟨b1,0,none⟩)),(7,Value.int .i64 (List.length p0.2:Int)),(23,Value.bool (a3))]) (fun a3 b4=>[Blk b1 [v0,v1] 25]) (fun a3 b4=>[Sl RI64 v0 p0.1,S2 RI64I64p v1 z2 p0.2,S2 RI64 v3 z4 p1,Sl RStI64I64I64I64I64p v5 p2]) ?_ ?_
 ·refine J.region<|J.quiet (Y.loadBAll 0 rfl rfl rfl rfl) rfl ?_
  have h:=bnd h;obtain⟨r45,hr46,h⟩:=h
  refine J.loud (Loud.callL body49 (t_ref01_Valid fuel v0 v1 z2 r45 hr46) rfl (LentAll.cons (Lent.fact 0 rfl) (LentAll.cons (Lent.fact 1 rfl) .nil)) (fun _ _=>rfl)) rfl fun x47=>J.quiet (Y.not rfl) rfl<|J.quiet (Y.move rfl) rfl ?_
  refine J.guard (by exact rfl) (by exact rfl) (fun hp48=> ?_) (fun hp48=> ?_)
  ·have h:=ifP hp48 h
   refine J.guardN rfl rfl rfl<|J.guardN rfl rfl rfl<|J.guardN rfl rfl rfl<|J.guardN rfl rfl rfl<|J.quiet (Y.pickT rfl rfl) rfl<|J.done<|J.thenN ?_
   exact J.meetI (true) (()) h SF (SubM.refl _) (LentAll.refl _ _)
  ·have h:=ifBN hp48 h
   refine J.guardY rfl (Y.move rfl) rfl<|J.guardY rfl (Y.lenN rfl (Lent.fact 2 rfl) rfl) rfl<|J.guardY rfl (Y.move rfl) rfl<|J.guardY rfl (Y.neq rfl rfl) rfl<|J.quiet (Y.pickF rfl rfl) rfl<|J.done<|J.thenN ?_
   exact J.meetI (decide ((List.length p1:Int)≠(List.length p0.2:Int))) (()) h SF (SubM.refl _) (LentAll.refl _ _)
 ·clear h
  intro a3 b4 h
  unfold ref23_Config_k1 at h
  refine J.cond (by exact rfl) (fun hp5=> ?_) (fun hp5=> ?_)
  ·have h:=ifP hp5 h
   refine J.seq<|J.region<|J.quiet (Y.assign rfl) rfl<|J.done<|J.thenN<|J.ret<|J.thenR ?_
   obtain rfl:=Option.some.inj h
   exact J.retG1 (()) rfl rfl (RV.tmp rfl) (SubM.nil) LentAll.nil
  ·have h:=ifBN hp5 h
   refine J.skip<|J.thenN<|J.seq<|J.midI (A:=Unit) (B:=Unit) (fun a6=>ref23_Config_k2  a6=some r) (fun a6 b7=>[]) (fun a6 b7=>[]) (fun a6 b7=>[Sl RI64 v0 p0.1,S2 RI64I64p v1 z2 p0.2,S2 RI64 v3 z4 p1,Sl RStI64I64I64I64I64p v5 p2]) ?_ ?_
   ·refine J.seq<|J.region<|J.quiet (Y.assign rfl) rfl<|J.done<|J.thenN<|J.block<|J.loopI (A:=Int) (B:=Unit) (ref23_Config_s1 fuel p0 p1 p2) (fun a10 b11=>[(1,v3),(2,v5),(3,Value.pointer (some ⟨b1,0,none⟩)),(7,Value.int .i64 (List.length p0.2:Int)),(8,Value.int .i64 (a10))]) (fun a10 b11=>[Blk b1 [v0,v1] 25]) (fun a10 b11=>[Sl RI64 v0 p0.1,S2 RI64I64p v1 z2 p0.2,S2 RI64 v3 z4 p1,Sl RStI64I64I64I64I64p v5 p2]) (0:Int) (()) h SF (SubM.refl _) (LentAll.refl _ _) ?_
    clear h
    intro k12 a10 b11 h
    unfold ref23_Config_s1 at h
    refine J.seq<|J.seq<|J.region<|J.quiet (Y.move rfl) rfl<|J.quiet (Y.move rfl) rfl<|J.quiet (Y.lss rfl rfl) rfl<|J.done<|J.thenN ?_
    refine J.condD (by exact rfl) (fun hp13=> ?_) (fun hp13=> ?_)
    ·have h:=ifP hp13 h
     refine J.skip<|J.thenN<|J.seq<|J.midI (A:=Unit) (B:=Unit) (fun a14=>ref23_Config_k3 a10 (iter (ref23_Config_s1 fuel p0 p1 p2) k12) a14=some r) (fun a14 b15=>[(1,v3),(2,v5),(3,Value.pointer (some ⟨b1,0,none⟩)),(7,Value.int .i64 (List.length p0.2:Int)),(8,Value.int .i64 (a10))]) (fun a14 b15=>[Blk b1 [v0,v1] 25]) (fun a14 b15=>[Sl RI64 v0 p0.1,S2 RI64I64p v1 z2 p0.2,S2 RI64 v3 z4 p1,Sl RStI64I64I64I64I64p v5 p2]) ?_ ?_
     ·refine J.block<|J.seq<|J.seq<|J.region<|J.quiet (Y.move rfl) rfl<|J.quiet (Y.move rfl) rfl ?_
      have h:=ck_some h;obtain⟨hc16,h⟩:=h
      refine J.quiet (Y.indexN rfl rfl (Lent.fact 2 rfl) rfl rfl hc16) rfl<|J.quiet (Y.loadRow rfl (Lent.fact 2 rfl) rfl rfl hc16) rfl<|J.quiet (Y.lenS rfl (Lent.el (Lent.fact 2 rfl) hc16.1 hc16.2) rfl) rfl<|J.quiet (Y.move rfl) rfl<|J.quiet (Y.lenS rfl (Lent.fact 3 rfl) rfl) rfl<|J.quiet (Y.neq rfl rfl) rfl<|J.done<|J.thenN ?_
      refine J.condD (by exact rfl) (fun hp17=> ?_) (fun hp17=> ?_)
      ·have h:=ifP hp17 h
       refine J.seq<|J.region<|J.quiet (Y.assign rfl) rfl<|J.done<|J.thenN<|J.ret<|J.thenR<|J.inR<|J.thenR<|J.thenR<|J.inR<|J.thenR ?_
       obtain rfl:=Option.some.inj h
       exact J.retG1 (()) rfl rfl (RV.tmp rfl) (SubM.nil) LentAll.nil
      ·have h:=ifN hp17 h
       refine J.skip<|J.thenN<|J.seq<|J.region<|J.quiet (Y.assign rfl) rfl<|J.done<|J.thenN<|J.block<|J.loopI (A:=Int) (B:=Unit) (ref23_Config_s2 fuel p0 p1 p2 a10 (iter (ref23_Config_s1 fuel p0 p1 p2) k12)) (fun a20 b21=>[(1,v3),(2,v5),(3,Value.pointer (some ⟨b1,0,none⟩)),(7,Value.int .i64 (List.length p0.2:Int)),(8,Value.int .i64 (a10)),(9,Value.int .i64 (a20))]) (fun a20 b21=>[Blk b1 [v0,v1] 25]) (fun a20 b21=>[Sl RI64 v0 p0.1,S2 RI64I64p v1 z2 p0.2,S2 RI64 v3 z4 p1,Sl RStI64I64I64I64I64p v5 p2]) (0:Int) (()) h SF (SubM.refl _) (LentAll.refl _ _) ?_
       clear h
       intro k22 a20 b21 h
       unfold ref23_Config_s2 at h
       refine J.seq<|J.seq<|J.region<|J.quiet (Y.move rfl) rfl<|J.quiet (Y.move rfl) rfl<|J.quiet (Y.lenS rfl (Lent.fact 3 rfl) rfl) rfl<|J.quiet (Y.lss rfl rfl) rfl<|J.done<|J.thenN ?_
       refine J.condD (by exact rfl) (fun hp23=> ?_) (fun hp23=> ?_)
       ·have h:=ifP hp23 h
        refine J.skip<|J.thenN<|J.seq<|J.block<|J.seq ?_
        refine JR.start [0,0,3,7,15,0,0,96,224,480,0,0,3072,7168,15360,0,64512,131040,0,0,786432,1835008,3932160,0,8388608,33292288,67108832,25165855,268435455] 28 mixedOrders (by decide +kernel) ?_
        refine JR.open (by exact rfl) ?_
        refine JR.qt rfl (SubM.nil) (SubL.nil) (Y.move rfl) HistOk.z<|JR.qt rfl (SubM.nil) (SubL.nil) (Y.move rfl) HistOk.z ?_
        have h:=ck_some h;obtain⟨hc24,h⟩:=h
        refine JR.qt rfl (SubM.nil) (SubL.cons (List.mem_of_getElem? (i:=3) rfl) (SubL.nil)) (Y.indexS rfl rfl (Lent.fact 0 rfl) rfl rfl hc24) HistOk.z<|JR.qt rfl (SubM.nil) (SubL.nil) (Y.fieldEl rfl rfl rfl rfl rfl) HistOk.z<|JR.qt rfl (SubM.nil) (SubL.cons (List.mem_of_getElem? (i:=3) rfl) (SubL.nil)) (Y.loadS rfl (Lent.fact 0 rfl) rfl rfl rfl RStI64I64I64I64I64pc2 hc24) HistOk.z<|JR.qt rfl (SubM.nil) (SubL.nil) (Y.move rfl) HistOk.z<|JR.qt rfl (SubM.nil) (SubL.nil) (Y.move rfl) HistOk.z ?_
        have h:=ck_some h;obtain⟨hc25,h⟩:=h
        refine JR.qt rfl (SubM.nil) (SubL.cons (List.mem_of_getElem? (i:=3) rfl) (SubL.nil)) (Y.indexS rfl rfl (Lent.fact 0 rfl) rfl rfl hc25) HistOk.z<|JR.qt rfl (SubM.nil) (SubL.nil) (Y.fieldEl rfl rfl rfl rfl rfl) HistOk.z<|JR.qt rfl (SubM.nil) (SubL.cons (List.mem_of_getElem? (i:=3) rfl) (SubL.nil)) (Y.loadS rfl (Lent.fact 0 rfl) rfl rfl rfl RStI64I64I64I64I64pc3 hc25) HistOk.z<|JR.qt rfl (SubM.nil) (SubL.nil) (Y.move rfl) HistOk.z<|JR.qt rfl (SubM.nil) (SubL.nil) (Y.move rfl) HistOk.z ?_
        have h:=ck_some h;obtain⟨hc26,h⟩:=h
        refine JR.qt rfl (SubM.nil) (SubL.cons (List.mem_of_getElem? (i:=3) rfl) (SubL.nil)) (Y.indexS rfl rfl (Lent.fact 0 rfl) rfl rfl hc26) HistOk.z<|JR.qt rfl (SubM.nil) (SubL.nil) (Y.fieldEl rfl rfl rfl rfl rfl) HistOk.z<|JR.qt rfl (SubM.nil) (SubL.cons (List.mem_of_getElem? (i:=3) rfl) (SubL.nil)) (Y.loadS rfl (Lent.fact 0 rfl) rfl rfl rfl RStI64I64I64I64I64pc4 hc26) HistOk.z<|JR.qt rfl (SubM.nil) (SubL.nil) (Y.move rfl) HistOk.z<|JR.qt rfl (SubM.nil) (SubL.nil) (Y.mulW rfl rfl) HistOk.z<|JR.qt rfl (SubM.nil) (SubL.nil) (Y.addW rfl rfl) HistOk.z<|JR.qt rfl (SubM.nil) (SubL.nil) (Y.move rfl) HistOk.z<|JR.qt rfl (SubM.nil) (SubL.nil) (Y.move rfl) HistOk.z ?_
        have h:=ck_some h;obtain⟨hc27,h⟩:=h
        refine JR.qt rfl (SubM.nil) (SubL.cons (List.mem_of_getElem? (i:=3) rfl) (SubL.nil)) (Y.indexS rfl rfl (Lent.fact 0 rfl) rfl rfl hc27) HistOk.z<|JR.qt rfl (SubM.nil) (SubL.nil) (Y.fieldEl rfl rfl rfl rfl rfl) HistOk.z<|JR.qt rfl (SubM.nil) (SubL.cons (List.mem_of_getElem? (i:=3) rfl) (SubL.nil)) (Y.loadS rfl (Lent.fact 0 rfl) rfl rfl rfl RStI64I64I64I64I64pc5 hc27) HistOk.z<|JR.qt rfl (SubM.refl _) (SubL.nil) (Y.loadBAll 0 rfl rfl rfl rfl) HistOk.z ?_
        have h:=bnd h;obtain⟨r28,hr29,h⟩:=h
        refine JR.loud rfl rfl rfl (Loud.callL body50 (t_ref23_top fuel v0 v1 z2 r28 hr29) rfl (LentAll.cons (Lent.fact 0 rfl) (LentAll.cons (Lent.fact 1 rfl) .nil)) (fun _ _=>rfl)) rfl (fun x30=>(BsOk.b rfl (BsOk.h (SubM.nil) (SubL.cons (List.mem_of_getElem? (i:=3) rfl) (SubL.nil)) (BsOk.h (SubM.nil) (SubL.nil) (BsOk.h (SubM.nil) (SubL.cons (List.mem_of_getElem? (i:=3) rfl) (SubL.nil)) (BsOk.h (SubM.nil) (SubL.nil) (BsOk.h (SubM.nil) (SubL.nil) (BsOk.h (SubM.nil) (SubL.nil) (BsOk.h (SubM.nil) (SubL.nil) (BsOk.h (SubM.nil) (SubL.nil) (BsOk.h (SubM.nil) (SubL.cons (List.mem_of_getElem? (i:=3) rfl) (SubL.nil)) (BsOk.h (SubM.nil) (SubL.nil) (BsOk.h (SubM.nil) (SubL.cons (List.mem_of_getElem? (i:=3) rfl) (SubL.nil)) (BsOk.h (SubM.nil) (SubL.nil) (BsOk.h (SubM.nil) (SubL.nil) (BsOk.h (SubM.nil) (SubL.cons (List.mem_of_getElem? (i:=3) rfl) (SubL.nil)) (BsOk.h (SubM.nil) (SubL.nil) (BsOk.h (SubM.nil) (SubL.cons (List.mem_of_getElem? (i:=3) rfl) (SubL.nil)) (BsOk.h (SubM.nil) (SubL.nil) (BsOk.h (SubM.nil) (SubL.nil) (BsOk.h (SubM.nil) (SubL.cons (List.mem_of_getElem? (i:=3) rfl) (SubL.nil)) (BsOk.h (SubM.nil) (SubL.nil) (BsOk.h (SubM.nil) (SubL.cons (List.mem_of_getElem? (i:=3) rfl) (SubL.nil)) (BsOk.h (SubM.nil) (SubL.nil) (BsOk.h (SubM.nil) (SubL.nil) BsOk.z))))))))))))))))))))))))) fun x30=>JR.qt rfl (SubM.nil) (SubL.nil) (Y.mulW rfl rfl) (HistOk.b rfl HistOk.z)<|JR.qt rfl (SubM.nil) (SubL.nil) (Y.addW rfl rfl) (HistOk.b rfl HistOk.z)<|JR.qt rfl (SubM.nil) (SubL.nil) (Y.assign rfl) (HistOk.b rfl HistOk.z)<|JR.tailD 28 rfl rfl<|J.quiet (Y.assign rfl) rfl<|J.done<|J.thenN<|J.seq<|J.midI (A:=Int×Int) (B:=Unit) (fun a33=>ref23_Config_k4 fuel p1 a10 a20 (iter (ref23_Config_s2 fuel p0 p1 p2 a10 (iter (ref23_Config_s1 fuel p0 p1 p2) k12)) k22) a33=some r) (fun a33 b34=>[(1,v3),(2,v5),(3,Value.pointer (some ⟨b1,0,none⟩)),(7,Value.int .i64 (List.length p0.2:Int)),(8,Value.int .i64 (a10)),(9,Value.int .i64 (a20)),(10,Value.int .i64 (a33.1)),(11,Value.int .i64 (a33.2))]) (fun a33 b34=>[Blk b1 [v0,v1] 25]) (fun a33 b34=>[Sl RI64 v0 p0.1,S2 RI64I64p v1 z2 p0.2,S2 RI64 v3 z4 p1,Sl RStI64I64I64I64I64p v5 p2]) ?_ ?_
        ·refine J.seq<|J.region<|J.quiet (Y.move rfl) rfl<|J.quiet (Y.move rfl) rfl ?_
         have h:=ck_some h;obtain⟨hc41,h⟩:=h
         refine J.quiet (Y.indexS rfl rfl (Lent.fact 3 rfl) rfl rfl hc41) rfl<|J.quiet (Y.fieldEl rfl rfl rfl rfl rfl) rfl<|J.quiet (Y.loadS rfl (Lent.fact 3 rfl) rfl rfl rfl RStI64I64I64I64I64pc1 hc41) rfl<|J.done<|J.thenN<|J.block<|J.seq<|J.region<|J.quiet (Y.eql rfl rfl) rfl<|J.quiet (Y.assign rfl) rfl<|J.done<|J.thenN ?_
         refine J.condD (by exact rfl) (fun hp42=> ?_) (fun hp42=> ?_)
         ·have h:=ifP hp42 h
          refine J.region<|J.quiet (Y.assign rfl) rfl<|J.quiet (Y.assign rfl) rfl<|J.done<|J.inN<|J.thenN ?_
          exact J.meetI ((0:Int),(1:Int)) (()) h SF (SubM.refl _) (LentAll.refl _ _)
         ·have h:=ifN hp42 h
          refine J.seq<|J.region<|J.quiet (Y.eql rfl rfl) rfl<|J.quiet (Y.assign rfl) rfl<|J.done<|J.thenN ?_
          refine J.condD (by exact rfl) (fun hp43=> ?_) (fun hp43=> ?_)
          ·have h:=ifP hp43 h
           refine JR.start [0,1,0,7,15,31,63,0,255] 8 mixedOrders (by decide +kernel) ?_
           refine JR.open (by exact rfl) ?_
           refine JR.qt rfl (SubM.nil) (SubL.nil) (Y.fieldB rfl rfl rfl rfl rfl) HistOk.z<|JR.qt rfl (SubM.refl _) (SubL.nil) (Y.loadB 0 rfl rfl rfl rfl rfl) HistOk.z<|JR.qt rfl (SubM.nil) (SubL.nil) (Y.move rfl) HistOk.z ?_
           have h:=ck_some h;obtain⟨hc44,h⟩:=h
           refine JR.qt rfl (SubM.nil) (SubL.cons (List.mem_of_getElem? (i:=1) rfl) (SubL.nil)) (Y.indexN rfl rfl (Lent.fact 0 rfl) rfl rfl hc44) HistOk.z<|JR.qt rfl (SubM.nil) (SubL.cons (List.mem_of_getElem? (i:=1) rfl) (SubL.nil)) (Y.loadRow rfl (Lent.fact 0 rfl) rfl rfl hc44) HistOk.z<|JR.qt rfl (SubM.nil) (SubL.cons (List.mem_of_getElem? (i:=1) rfl) (SubL.nil)) (Y.lenS rfl (Lent.el (Lent.fact 0 rfl) hc44.1 hc44.2) rfl) HistOk.z<|JR.qt rfl (SubM.nil) (SubL.nil) (Y.subW rfl rfl) HistOk.z<|JR.qt rfl (SubM.nil) (SubL.nil) (Y.assign rfl) HistOk.z<|JR.tailD 8 rfl rfl<|J.quiet (Y.assign rfl) rfl<|J.done<|J.inN<|J.thenN ?_
           exact J.meetI ((-1:Int),(wI .i64 ((List.length (at' p0.2 a10):Int) - (1:Int)))) (()) h SF (SubM.refl _) (LentAll.refl _ _)
          ·have h:=ifN hp43 h
           refine J.skip<|J.inN<|J.thenN ?_
           exact J.meetI (((at' p2 a20).2.2.1),(wI .i64 ((wI .i64 (((at' p2 a20).2.2.2.1)+(wI .i64 (((at' p2 a20).2.2.2.2.1)*(List.length p0.2:Int)))))+(wI .i64 (((at' p2 a20).2.2.2.2.2)*r28))))) (()) h SF (SubM.refl _) (LentAll.refl _ _)
        ·clear h
         intro a33 b34 h
         unfold ref23_Config_k4 at h
         refine J.seq<|J.region<|J.quiet (Y.move rfl) rfl<|J.quiet (Y.move rfl) rfl ?_
         have h:=ck_some h;obtain⟨hc35,h⟩:=h
         refine J.quiet (Y.indexN rfl rfl (Lent.fact 2 rfl) rfl rfl hc35) rfl<|J.quiet (Y.loadRow rfl (Lent.fact 2 rfl) rfl rfl hc35) rfl<|J.quiet (Y.move rfl) rfl ?_
         have h:=ck_some h;obtain⟨hc36,h⟩:=h
         refine J.quiet (Y.indexS rfl rfl (Lent.el (Lent.fact 2 rfl) hc35.1 hc35.2) rfl rfl hc36) rfl<|J.quiet (Y.loadS0 rfl (Lent.el (Lent.fact 2 rfl) hc35.1 hc35.2) rfl rfl rfl RI64c0 hc36) rfl<|J.quiet (Y.move rfl) rfl<|J.quiet (Y.move rfl) rfl ?_
         have h:=bnd h;obtain⟨r37,hr38,h⟩:=h
         refine J.loud (Loud.callL body51 (t_ref01_In fuel  r37 hr38) rfl .nil (fun _ _=>rfl)) rfl fun x39=>J.quiet (Y.not rfl) rfl<|J.done<|J.thenN ?_
         refine J.cond (by exact rfl) (fun hp40=> ?_) (fun hp40=> ?_)
         ·have h:=ifP hp40 h
          refine J.seq<|J.region<|J.quiet (Y.assign rfl) rfl<|J.done<|J.thenN<|J.ret<|J.inR<|J.thenR<|J.thenR<|J.inR<|J.inR<|J.thenR<|J.thenR<|J.inR<|J.thenR ?_
          obtain rfl:=Option.some.inj h
          exact J.retG1 (()) rfl rfl (RV.tmp rfl) (SubM.nil) LentAll.nil
         ·have h:=ifBN hp40 h
          refine J.skip<|J.inN<|J.thenN<|J.region<|J.quiet (Y.move rfl) rfl<|J.quiet (Y.addW rfl rfl) rfl<|J.quiet (Y.assign rfl) rfl<|J.done<|J.thenN ?_
          exact J.againI (wI .i64 (a20+(1:Int))) (()) h SF (SubM.refl _) (LentAll.refl _ _)
       ·have h:=ifN hp23 h
        refine J.exit<|J.thenX<|J.thenX<|J.inX<|J.inN<|J.thenN ?_
        exact J.meetI (()) (()) h SF (SubM.refl _) (LentAll.refl _ _)
     ·clear h
      intro a14 b15 h
      unfold ref23_Config_k3 at h
      refine J.region<|J.quiet (Y.move rfl) rfl<|J.quiet (Y.addW rfl rfl) rfl<|J.quiet (Y.assign rfl) rfl<|J.done<|J.thenN ?_
      exact J.againI (wI .i64 (a10+(1:Int))) (()) h SF (SubM.refl _) (LentAll.refl _ _)
    ·have h:=ifN hp13 h
     refine J.exit<|J.thenX<|J.thenX<|J.inX<|J.thenN ?_
     exact J.meetI (()) (()) h SF (SubM.nil) (LentAll.refl _ _)
   ·clear h
    intro a6 b7 h
    unfold ref23_Config_k2 at h
    refine J.seq<|J.region<|J.quiet (Y.assign rfl) rfl<|J.done<|J.thenN<|J.ret ?_
    obtain rfl:=Option.some.inj h
    exact J.retG1 (()) rfl rfl (RV.tmp rfl) (SubM.refl _) LentAll.nil
end Go.Proofs.YtfimaabbclepbaaGreat
end
section
namespace Go.Proofs.YtfimaabbclepbaaGreat
open Go Go.Sx
abbrev val (c:List (List Int)) (v x:Nat):Int:=at' (at' c (v:Int)) (x:Int)
def InTop (g:GR) (top:Int) (v:Nat) (a:Int):Prop:=if top = -1 then -1<=a∧a<=((row g v).length:Int) - 1 else 0<=a∧a<=top
instance (g:GR) (top:Int) (v:Nat) (a:Int):Decidable (InTop g top v a):=by unfold InTop;infer_instance
structure Cf (g:GR) (c:List (List Int)) (tops:List Int):Prop where
 len:c.length=g.2.length
 row:∀v,v<g.2.length->(at' c (v:Int)).length=tops.length
 ok:∀v,v<g.2.length->∀x,x<tops.length->InTop g (at' tops (x:Int)) v (val c v x)
theorem configuration_eq {g:GR} (hV:VG g) (c:List (List Int)) (tops:List Int) (ht:tops.length<=900):(Cf g c tops->m_bfs_Configuration 1000 g c tops=some true)∧(¬Cf g c tops->m_bfs_Configuration 1000 g c tops=some false):=by
 have h24:=hV.n24
 have hlen:=hV.len
 unfold m_bfs_Configuration
 by_cases h1:c.length=g.2.length
 rotate_left
 ·rw[if_pos (by omega)]
  exact⟨fun h=>absurd h.len h1,fun _=>rfl⟩
 rw[if_neg (by omega)]
 have inner:∀(v:Nat) (ag:Int->Option Bool),v<g.2.length->(at' c (v:Int)).length=tops.length->((∀x,x<tops.length->InTop g (at' tops (x:Int)) v (val c v x))->iter (bfs_Configuration_s2 g c tops v ag) 1000 0=ag ((v:Int)+1))∧(¬(∀x,x<tops.length->InTop g (at' tops (x:Int)) v (val c v x))->iter (bfs_Configuration_s2 g c tops v ag) 1000 0=some false):=by
  intro v ag hv hr
  have hdeg:(at' g.2 (v:Int)).length<g.2.length:=(hV.node v hv).deg
  have fin:∀(x:Nat) (ag2:Int->Option Bool) (lo hi a:Int),x<tops.length->at' (at' c (v:Int)) (x:Int)=a->bfs_Configuration_k3 c v x ag2 (lo,hi)=if lo<=a∧a<=hi then ag2 ((x:Int)+1)else some false:=by
   intro x ag2 lo hi a hx ha
   unfold bfs_Configuration_k3 bfs_Configuration_k4
   rw[ha]
   have hw:wI .i64 ((x:Int)+1)=(x:Int)+1:=wr (by omega) (by omega)
   by_cases a1:lo<=a
   ·by_cases a2:a<=hi
    ·simp[a1,a2,hw,show¬a<lo by omega,show¬hi<a by omega]
    ·simp[a1,a2,hw,show¬a<lo by omega,show hi<a by omega]
   ·simp[a1,hw,show a<lo by omega]
  have body:∀(x:Nat) (ag2:Int->Option Bool),x<tops.length->bfs_Configuration_s2 g c tops v ag x ag2=if InTop g (at' tops (x:Int)) v (val c v x)then ag2 ((x:Int)+1)else some false:=by
   intro x ag2 hx
   unfold bfs_Configuration_s2
   rw[if_pos (by omega),ckT (by omega),ckT (by omega)]
   unfold InTop
   by_cases ht1:at' tops (x:Int) = -1
   ·rw[if_pos ht1,ckT (by omega),fin x ag2 _ _ _ hx rfl,wr (by omega) (by omega)]
    simp only[ht1,if_true]
   ·rw[if_neg ht1,fin x ag2 _ _ _ hx rfl]
    simp only[ht1,if_false]
  refine iter_if tops.length _ (fun x ag2 hx hp=> ?_) (fun x ag2 hx hp=> ?_) (fun ag2=> ?_) 1000 (by omega)
  ·rw[body x ag2 hx,if_pos hp]
  ·rw[body x ag2 hx,if_neg hp]
  ·unfold bfs_Configuration_s2 bfs_Configuration_k2
   rw[if_neg (by omega),wr (by omega) (by omega)]
 have outer:=iter_if (step:=bfs_Configuration_s1 1000 g c tops) (K:=some true) (bad:=false) g.2.length (fun v=>(at' c (v:Int)).length=tops.length∧∀x,x<tops.length->InTop g (at' tops (x:Int)) v (val c v x)) (fun v ag hv hp=> ?_) (fun v ag hv hp=> ?_) (fun ag=> ?_) 1000 (by omega)
 ·exact⟨fun h=>outer.1 fun v hv=>⟨h.row v hv,h.ok v hv⟩,fun h=>outer.2 fun h'=>h ⟨h1,fun v hv=>(h' v hv).1,fun v hv=>(h' v hv).2⟩⟩
 ·unfold bfs_Configuration_s1
  rw[if_pos (by omega),ckT (by omega),if_neg (by have:=hp.1;omega)]
  exact(inner v ag hv hp.1).1 hp.2
 ·unfold bfs_Configuration_s1
  rw[if_pos (by omega),ckT (by omega)]
  by_cases hr:(at' c (v:Int)).length=tops.length
  ·rw[if_neg (by omega)]
   exact(inner v ag hv hr).2 fun h=>hp ⟨hr,h⟩
  ·rw[if_pos (by omega)]
 ·unfold bfs_Configuration_s1 bfs_Configuration_k1
  rw[if_neg (by omega)]

def maxID (g:GR):Nat->Int
 |0=>0
 |k+1=>max (maxID g k) (at' g.1 (k:Int))
theorem maxID_in {g:GR} (hV:VG g):∀k,k<=g.2.length->0<=maxID g k∧maxID g k<=255
 |0,_=>by simp[maxID]
 |k+1,h=>by
  have h1:=maxID_in hV k (by omega)
  have h2:0<=at' g.1 (k:Int)∧at' g.1 (k:Int)<=255:=(hV.node k (by omega)).id
  simp only[maxID];omega
theorem top_eq {g:GR} (hV:VG g):m_ref23_top 1000 g=some (maxID g g.1.length):=by
 have h24:=hV.n24
 have hlen:=hV.len
 unfold m_ref23_top
 refine iter_for (F:=fun k:Nat=>((maxID g k,(k:Int)):Int×Int)) g.1.length (fun k ag hk=> ?_) (fun ag=> ?_) 1000 (by omega)
 ·unfold ref23_top_s1
  simp only
  rw[if_pos (by omega),ckT (by omega),wr (by omega) (by omega)]
  rfl
 ·unfold ref23_top_s1 ref23_top_k1
  simp only
  rw[if_neg (by omega)]
abbrev Var:=ByteArray×Int×Int×Int×Int×Int
def VarSmall (x:Var):Prop:=(0<=x.2.2.2.1∧x.2.2.2.1<=100000)∧(0<=x.2.2.2.2.1∧x.2.2.2.2.1<=100000)∧(0<=x.2.2.2.2.2∧x.2.2.2.2.2<=100000)
def lo (g:GR) (x:Var) (v:Nat):Int:=if x.2.1=2 then 0 else if x.2.1=3 then -1 else x.2.2.1
def hi (g:GR) (x:Var) (v:Nat):Int:=if x.2.1=2 then 1 else if x.2.1=3 then((row g v).length:Int) - 1 else x.2.2.2.1+x.2.2.2.2.1*(g.2.length:Int)+x.2.2.2.2.2*maxID g g.1.length
structure RCf (g:GR) (c:List (List Int)) (vars:List Var):Prop where
 len:c.length=g.2.length
 row:∀v,v<g.2.length->(at' c (v:Int)).length=vars.length
 ok:∀v,v<g.2.length->∀x,x<vars.length->lo g (at' vars (x:Int)) v<=val c v x∧val c v x<=hi g (at' vars (x:Int)) v
theorem refConfig_eq (g:GR) (c:List (List Int)) (vars:List Var) (ht:vars.length<=900) (hs:∀x,x<vars.length->VarSmall (at' vars (x:Int))):(VG g∧RCf g c vars->m_ref23_Config 1000 g c vars=some true)∧(¬(VG g∧RCf g c vars)->m_ref23_Config 1000 g c vars=some false):=by
 unfold m_ref23_Config
 by_cases hV:VG g
 rotate_left
 ·rw[(refValid_gen g).2 hV,bindS rfl]
  exact⟨fun h=>absurd h.1 hV,fun _=>rfl⟩
 rw[(refValid_gen g).1 hV,bindS rfl,if_neg (by simp)]
 have h24:=hV.n24
 have hlen:=hV.len
 unfold ref23_Config_k1
 by_cases h1:c.length=g.2.length
 rotate_left
 ·rw[decide_eq_true (by omega),if_pos rfl]
  exact⟨fun h=>absurd h.2.len h1,fun _=>rfl⟩
 rw[decide_eq_false (by omega),if_neg (by simp)]
 have inner:∀(v:Nat) (ag:Int->Option Bool),v<g.2.length->(at' c (v:Int)).length=vars.length->((∀x,x<vars.length->lo g (at' vars (x:Int)) v<=val c v x∧val c v x<=hi g (at' vars (x:Int)) v)->iter (ref23_Config_s2 1000 g c vars v ag) 1000 0=ag ((v:Int)+1))∧(¬(∀x,x<vars.length->lo g (at' vars (x:Int)) v<=val c v x∧val c v x<=hi g (at' vars (x:Int)) v)->iter (ref23_Config_s2 1000 g c vars v ag) 1000 0=some false):=by
  intro v ag hv hr
  have hdeg:(at' g.2 (v:Int)).length<g.2.length:=(hV.node v hv).deg
  have fin:∀(x:Nat) (ag2:Int->Option Bool) (l h:Int),x<vars.length->ref23_Config_k4 1000 c v x ag2 (l,h)=if l<=val c v x∧val c v x<=h then ag2 ((x:Int)+1)else some false:=by
   intro x ag2 l h hx
   unfold ref23_Config_k4
   rw[ckT (by omega),ckT (by omega),refIn_eq,bindS rfl]
   by_cases hp:l<=val c v x∧val c v x<=h
   ·rw[decide_eq_true hp,if_neg (by simp),if_pos hp,wr (by omega) (by omega)]
   ·rw[decide_eq_false hp,if_pos (by simp),if_neg hp]
  have body:∀(x:Nat) (ag2:Int->Option Bool),x<vars.length->ref23_Config_s2 1000 g c vars v ag x ag2=if lo g (at' vars (x:Int)) v<=val c v x∧val c v x<=hi g (at' vars (x:Int)) v then ag2 ((x:Int)+1)else some false:=by
   intro x ag2 hx
   unfold ref23_Config_s2
   rw[if_pos (by omega),ckT (by omega),ckT (by omega),ckT (by omega),ckT (by omega),top_eq hV,bindS rfl,ckT (by omega)]
   unfold lo hi
   by_cases k2:(at' vars (x:Int)).2.1=2
   ·rw[if_pos k2,fin x ag2 _ _ hx]
    simp only[k2,if_true]
   ·rw[if_neg k2]
    by_cases k3:(at' vars (x:Int)).2.1=3
    ·rw[if_pos k3,ckT (by omega),fin x ag2 _ _ hx,wr (by omega) (by omega)]
     simp only[k3,if_true,show¬((3:Int)=2) by decide,if_false]
    ·obtain⟨s1,s2,s3⟩:=hs x hx
     obtain⟨m1,m2⟩:=maxID_in hV g.1.length (by omega)
     have q1:0<=(at' vars (x:Int)).2.2.2.2.1*(g.2.length:Int):=Int.mul_nonneg s2.1 (by omega)
     have q2:(at' vars (x:Int)).2.2.2.2.1*(g.2.length:Int)<=100000*24:=Int.mul_le_mul s2.2 (by omega) (by omega) (by omega)
     have q3:0<=(at' vars (x:Int)).2.2.2.2.2*maxID g g.1.length:=Int.mul_nonneg s3.1 m1
     have q4:(at' vars (x:Int)).2.2.2.2.2*maxID g g.1.length<=100000*255:=Int.mul_le_mul s3.2 m2 m1 (by omega)
     have w1:wI .i64 ((at' vars (x:Int)).2.2.2.2.1*(g.2.length:Int))=(at' vars (x:Int)).2.2.2.2.1*(g.2.length:Int):=wr (by omega) (by omega)
     have w2:wI .i64 ((at' vars (x:Int)).2.2.2.2.2*maxID g g.1.length)=(at' vars (x:Int)).2.2.2.2.2*maxID g g.1.length:=wr (by omega) (by omega)
     rw[if_neg k3,fin x ag2 _ _ hx,w1,w2,wr (x:=(at' vars (x:Int)).2.2.2.1+(at' vars (x:Int)).2.2.2.2.1*(g.2.length:Int)) (by omega) (by omega),wr (by omega) (by omega)]
     simp only[k2,k3,if_false]
  refine iter_if vars.length _ (fun x ag2 hx hp=> ?_) (fun x ag2 hx hp=> ?_) (fun ag2=> ?_) 1000 (by omega)
  ·rw[body x ag2 hx,if_pos hp]
  ·rw[body x ag2 hx,if_neg hp]
  ·unfold ref23_Config_s2 ref23_Config_k3
   rw[if_neg (by omega),wr (by omega) (by omega)]
 have outer:=iter_if (step:=ref23_Config_s1 1000 g c vars) (K:=some true) (bad:=false) g.2.length (fun v=>(at' c (v:Int)).length=vars.length∧∀x,x<vars.length->lo g (at' vars (x:Int)) v<=val c v x∧val c v x<=hi g (at' vars (x:Int)) v) (fun v ag hv hp=> ?_) (fun v ag hv hp=> ?_) (fun ag=> ?_) 1000 (by omega)
 ·exact⟨fun h=>outer.1 fun v hv=>⟨h.2.row v hv,h.2.ok v hv⟩,fun h=>outer.2 fun h'=>h ⟨hV,h1,fun v hv=>(h' v hv).1,fun v hv=>(h' v hv).2⟩⟩
 ·unfold ref23_Config_s1
  rw[if_pos (by omega),ckT (by omega),if_neg (by have:=hp.1;omega)]
  exact(inner v ag hv hp.1).1 hp.2
 ·unfold ref23_Config_s1
  rw[if_pos (by omega),ckT (by omega)]
  by_cases hr:(at' c (v:Int)).length=vars.length
  ·rw[if_neg (by omega)]
   exact(inner v ag hv hr).2 fun h=>hp ⟨hr,h⟩
  ·rw[if_pos (by omega)]
 ·unfold ref23_Config_s1 ref23_Config_k2
  rw[if_neg (by omega)]
theorem rcf_iff {g:GR} {c:List (List Int)} {vars:List Var} {tops:List Int} (hl:vars.length=tops.length) (h:∀v x,v<g.2.length->x<tops.length->∀a,(lo g (at' vars (x:Int)) v<=a∧a<=hi g (at' vars (x:Int)) v)↔InTop g (at' tops (x:Int)) v a):RCf g c vars↔Cf g c tops:=
  ⟨fun k=>⟨k.len,fun v hv=>by rw[k.row v hv,hl],fun v hv x hx=>(h v x hv hx _).1 (k.ok v hv x (by omega))⟩,
   fun k=>⟨k.len,fun v hv=>by rw[k.row v hv,hl],fun v hv x hx=>(h v x hv (by omega) _).2 (k.ok v hv x (by omega))⟩⟩
end Go.Proofs.YtfimaabbclepbaaGreat
end
section
namespace Go.Proofs.YtfimaabbclepbaaGreat
open Go.Sx
def crash_Coloured_k2  (a12:Unit):Option (Bool):=
 some (true)
def crash_Coloured_k4 (a23:Int) (ag22:(Int)->Option (Bool)) (a27:Unit):Option (Bool):=
 ag22 (wI .i64 (a23+(1:Int)))
def crash_Coloured_k5 (a32:Int) (ag31:(Int)->Option (Bool)) (a40:Bool):Option (Bool):=
 if a40=true then(some (false))else(ag31 (wI .i64 (a32+(1:Int))))
def crash_Coloured_s2 (p0:List (Int)×(List (List (Int×Int)))) (p1:List (List (Int))) (p2:Int) (a23:Int) (ag22:(Int)->Option (Bool)) (a32:Int) (ag31:(Int)->Option (Bool)):Option (Bool):=
 if a32<(List.length (at' p0.2 a23):Int)then(ck (0<=a32∧a32<(List.length (at' p0.2 a23):Int)) (ck (0<=a23) (if(bAnd .u32 (bShr .u32 p2 a23) (1:Int))=(0:Int)then(ck (0<=a23∧a23<(List.length p1:Int)) (ck (0<=(0:Int)∧(0:Int)<(List.length (at' p1 a23):Int)) (ck (0<=((at' (at' p0.2 a23) a32).1)∧((at' (at' p0.2 a23) a32).1)<(List.length p1:Int)) (ck (0<=(0:Int)∧(0:Int)<(List.length (at' p1 ((at' (at' p0.2 a23) a32).1)):Int)) (crash_Coloured_k5 a32 ag31 (decide ((at' (at' p1 a23) (0:Int))=(at' (at' p1 ((at' (at' p0.2 a23) a32).1)) (0:Int)))))))))else(crash_Coloured_k5 a32 ag31 (false)))))else(crash_Coloured_k4 a23 ag22 (()))
def crash_Coloured_s1 (fuel:Nat) (p0:List (Int)×(List (List (Int×Int)))) (p1:List (List (Int))) (p2:Int) (a23:Int) (ag22:(Int)->Option (Bool)):Option (Bool):=
 if a23<(List.length p0.2:Int)then(ck (0<=a23∧a23<(List.length p0.2:Int)) (iter (crash_Coloured_s2 p0 p1 p2 a23 ag22) fuel (0:Int)))else(crash_Coloured_k2  (()))
def crash_Coloured_k3 (fuel:Nat) (p0:List (Int)×(List (List (Int×Int)))) (p1:List (List (Int))) (p2:Int) (a15:Unit):Option (Bool):=
 iter (crash_Coloured_s1 fuel p0 p1 p2) fuel (0:Int)
def crash_Coloured_k1 (fuel:Nat) (p0:List (Int)×(List (List (Int×Int)))) (p1:List (List (Int))) (p2:Int) (a8:Bool):Option (Bool):=
 if a8=true then(some (false))else(crash_Coloured_k3 fuel p0 p1 p2 (()))
def m_crash_Coloured (fuel:Nat) (p0:List (Int)×(List (List (Int×Int)))) (p1:List (List (Int))) (p2:Int):Option (Bool):=
 Option.bind (m_graph_Valid fuel ((p0.1,p0.2))) fun r50=>(if(!r50)=true then(crash_Coloured_k1 fuel p0 p1 p2 (true))else(Option.bind (m_bfs_Configuration fuel ((p0.1,p0.2)) p1 ([(List.length p0.1:Int)])) fun r55=>(crash_Coloured_k1 fuel p0 p1 p2 ((!r55)))))
theorem body6:HasBody Tryz.prog 6:=Tryz.call6
theorem t_crash_Coloured (fuel:Nat) {p0:List (Int)×(List (List (Int×Int)))} {p1:List (List (Int))} {p2:Int} (v0:Value)  (v1:Value)  (z2:List (Value×List (Int×Int)))  (v3:Value)  (z4:List (Value×List (Int))) (r:Bool) (h:m_crash_Coloured fuel p0 p1 p2=some r):
  Meets Tryz.prog 6 #[Value.agg #[v0,v1],v3,Value.int .u32 (p2)] [Sl RI64 v0 p0.1,S2 RI64I64p v1 z2 p0.2,S2 RI64 v3 z4 p1] (fun x:Unit=>Value.bool (r)) (fun x l=>l) (fun _ l=>l):=by
 refine Meets.of (vs:=[Value.agg #[v0,v1],v3,Value.int .u32 (p2)]) Tryz.func6 rfl Tryz.ntmps6 rfl fun c=> ?_
 unfold m_crash_Coloured at h
 refine J.stp Stp.dfs0<|J.seq<|J.region<|J.loud (Loud.box (cs:=[v0,v1]) rfl rfl) rfl fun b2=>J.know (Know.one (Lent.sl (Lent.fact 2 rfl))) fun ho4=> ?_
 refine J.loud (Loud.box (cs:=[v3]) rfl (by rw[one_cells ho4])) rfl fun b3=> ?_
 refine J.loud (Loud.box (cs:=[Value.int .u32 (p2)]) rfl rfl) rfl fun b5=>J.loud (Loud.alloc (cs:=[Value.bool (false)]) rfl rfl) rfl fun b6=>J.done<|J.thenN<|J.seq<|J.seq<|J.midN (A:=Bool) (B:=Unit) (fun a8 b9=>⟨47,marks ([]:List Nat)⟩) (fun a8=>crash_Coloured_k1 fuel p0 p1 p2 a8=some r) (fun a8 b9=>[(3,Value.pointer (some ⟨b2,0,none⟩)),(4,Value.pointer (some ⟨b3,0,none⟩)),(5,Value.pointer (some ⟨b5,0,none⟩)),(6,Value.pointer (some ⟨b6,0,none⟩)),(21,Value.bool (a8))]) (fun a8 b9=>[Blk b6 [Value.bool (false)] 4,Blk b5 [Value.int .u32 (p2)] 27,Blk b3 [v3] 26,Blk b2 [v0,v1] 25,Dfs ([]:List Nat)]) (fun a8 b9=>[Sl RI64 v0 p0.1,S2 RI64I64p v1 z2 p0.2,S2 RI64 v3 z4 p1]) ?_ ?_
 ·refine J.region<|J.quiet (Y.loadBAll 3 rfl rfl rfl rfl) rfl ?_
  have h:=bnd h;obtain⟨r50,hr51,h⟩:=h
  refine J.loud (Loud.callL body22 (t_graph_Valid fuel v0 v1 z2 r50 hr51) rfl (LentAll.cons (Lent.fact 0 rfl) (LentAll.cons (Lent.fact 1 rfl) .nil)) (fun _ _=>rfl)) rfl fun x52=>J.quiet (Y.not rfl) rfl<|J.quiet (Y.move rfl) rfl ?_
  refine J.guard (by exact rfl) (by exact rfl) (fun hp53=> ?_) (fun hp53=> ?_)
  ·have h:=ifP hp53 h
   refine J.guardN rfl rfl rfl<|J.guardN rfl rfl rfl<|J.guardN rfl rfl rfl<|J.guardN rfl rfl rfl<|J.guardN rfl rfl rfl<|J.guardN rfl rfl rfl<|J.guardN rfl rfl rfl<|J.guardN rfl rfl rfl<|J.quiet (Y.pickT rfl rfl) rfl<|J.done<|J.thenN ?_
   exact J.meetN (true) (()) rfl h SF (SubM.refl _) (LentAll.refl _ _)
  ·have h:=ifBN hp53 h
   refine J.guardY rfl (Y.loadBAll 3 rfl rfl rfl rfl) rfl<|J.guardY rfl (Y.loadB 2 rfl rfl rfl rfl rfl) rfl<|J.guardY rfl (Y.fieldB rfl rfl rfl rfl rfl) rfl<|J.guardY rfl (Y.loadB 3 rfl rfl rfl rfl rfl) rfl<|J.guardY rfl (Y.lenS rfl (Lent.fact 0 rfl) rfl) rfl<|J.loudG rfl (Loud.buildS (e:=EI64) ([(List.length p0.1:Int)]) [(0,Value.int .i64 (List.length p0.1:Int))] rfl rfl rfl rfl (fill_1_1 (Value.int .i64 (List.length p0.1:Int)) rfl) rfl rfl rfl) rfl fun u54=> ?_
   have h:=bnd h;obtain⟨r55,hr56,h⟩:=h
   refine J.loudG rfl (Loud.callL body23 (t_bfs_Configuration fuel v0 v1 z2 v3 z4 u54 r55 hr56) rfl (LentAll.cons (Lent.fact 0 rfl) (LentAll.cons (Lent.fact 1 rfl) (LentAll.cons (Lent.fact 2 rfl) (LentAll.cons (Lent.ar (Lent.res 0 rfl) FI64) .nil)))) (fun _ _=>rfl)) rfl fun x57=>J.guardY rfl (Y.not rfl) rfl<|J.quiet (Y.pickF rfl rfl) rfl<|J.done<|J.thenN ?_
   exact J.meetN ((!r55)) (()) rfl h SF (SubM.cons 1 rfl (SubM.cons 1 rfl (SubM.cons 1 rfl (SubM.cons 1 rfl (SubM.cons 1 rfl (SubM.nil)))))) (LentAll.refl _ _)
 ·clear h
  intro a8 b9 h
  unfold crash_Coloured_k1 at h
  refine J.cond (by exact rfl) (fun hp10=> ?_) (fun hp10=> ?_)
  ·have h:=ifP hp10 h
   refine J.seq<|J.region<|J.store1 0 rfl rfl rfl rfl rfl rfl<|J.done<|J.thenN<|J.ret<|J.thenR<|J.unmarkAll (i:=4) (Ds:=([]:List Nat)) (.inl rfl) rfl ?_
   obtain rfl:=Option.some.inj h
   exact J.retG1 (()) rfl rfl (RV.cell1 0 rfl rfl rfl rfl) (SubM.nil) LentAll.nil
  ·have h:=ifBN hp10 h
   refine J.skip<|J.thenN<|J.seq<|J.midN (A:=Unit) (B:=List Nat) (fun a12 b13=>⟨47,marks b13⟩) (fun a12=>crash_Coloured_k2  a12=some r) (fun a12 b13=>[(6,Value.pointer (some ⟨b6,0,none⟩))]) (fun a12 b13=>[Blk b6 [Value.bool (false)] 4,Dfs b13]) (fun a12 b13=>[Sl RI64 v0 p0.1,S2 RI64I64p v1 z2 p0.2,S2 RI64 v3 z4 p1]) ?_ ?_
   ·refine J.seq<|J.region<|J.quiet (Y.loadBAll 3 rfl rfl rfl rfl) rfl<|J.inlC (A:=Unit) (B:=Nat) (vs:=[Value.agg #[v0,v1]]) (fun a15=>crash_Coloured_k3 fuel p0 p1 p2 a15=some r) (fun a15 b16=>Value.func (.func 48) #[] #[Value.pointer (some ⟨b16,0,none⟩)]) (fun a15 b16=>[Blk b16 [v0,v1] 25,Blk b6 [Value.bool (false)] 4,Blk b5 [Value.int .u32 (p2)] 27,Blk b3 [v3] 26,Dfs ([]:List Nat)]) (fun a15 b16=>[Sl RI64 v0 p0.1,S2 RI64I64p v1 z2 p0.2,S2 RI64 v3 z4 p1]) (Enter.fn (show HasBody Tryz.prog 24 from Tryz.call24) rfl) Tryz.func24 rfl Tryz.ntmps24 rfl rfl ?_ ?_
    ·refine J.seq<|J.region<|J.loud (Loud.box (cs:=[v0,v1]) rfl rfl) rfl fun b49=>J.quiet (Y.assign rfl) rfl<|J.done<|J.thenN<|J.seq<|J.region<|J.quiet (Y.makeFunc (cs:=[.tmp 1]) (vs:=[Value.pointer (some ⟨b49,0,none⟩)]) rfl) rfl<|J.quiet (Y.assign rfl) rfl<|J.done<|J.thenN<|J.ret ?_
     exact J.retM (()) (b49) h (.inl rfl) (Res.r1 rfl (RV.tmp rfl)) rfl (SubM.cons 0 rfl (SubM.cons 0 rfl (SubM.cons 0 rfl (SubM.cons 0 rfl (SubM.cons 1 rfl (SubM.nil)))))) (LentAll.refl _ _)
    ·clear h
     intro a15 b16 h
     unfold crash_Coloured_k3 at h
     refine J.done<|J.thenN<|J.block<|J.rangeFuncD (i:=4) (cs:=[Value.pointer (some ⟨b16,0,none⟩)]) ([]:List Nat) rfl (show HasBody Tryz.prog 48 from Tryz.call48) rfl Tryz.func48 rfl Tryz.ntmps48 rfl fun l17 D18 R19 hR20=>J.seq<|J.region<|J.quiet (Y.fieldB rfl rfl rfl rfl rfl) rfl<|J.quiet (Y.loadB 1 rfl rfl rfl rfl rfl) rfl<|J.quiet (Y.lenN rfl (Lent.fact 1 rfl) rfl) rfl<|J.quiet (Y.move rfl) rfl<|J.done<|J.thenN<|J.block<|J.loopI (A:=Int) (B:=Unit) (crash_Coloured_s1 fuel p0 p1 p2) (fun a23 b24=>[(0,yieldV l17),(8,v1),(9,Value.int .i64 (List.length p0.2:Int)),(10,Value.int .i64 (a23))]) (fun a23 b24=>[Lp l17 R19 LoopState.ready none,Blk b16 [v0,v1] 25,Blk b6 [Value.bool (false)] 4,Blk b5 [Value.int .u32 (p2)] 27,Blk b3 [v3] 26,Dfs (List.cons D18 ([]:List Nat))]) (fun a23 b24=>[Sl RI64 v0 p0.1,S2 RI64I64p v1 z2 p0.2,S2 RI64 v3 z4 p1]) (0:Int) (()) h SF (SubM.refl _) (LentAll.refl _ _) ?_
     clear h
     intro k25 a23 b24 h
     unfold crash_Coloured_s1 at h
     refine J.seq<|J.region<|J.quiet (Y.lss rfl rfl) rfl<|J.done<|J.thenN<|J.seq ?_
     refine J.condD (by exact rfl) (fun hp26=> ?_) (fun hp26=> ?_)
     ·have h:=ifP hp26 h
      refine J.skip<|J.thenN<|J.seq<|J.midI (A:=Unit) (B:=Unit) (fun a27=>crash_Coloured_k4 a23 (iter (crash_Coloured_s1 fuel p0 p1 p2) k25) a27=some r) (fun a27 b28=>[(0,yieldV l17),(8,v1),(9,Value.int .i64 (List.length p0.2:Int)),(10,Value.int .i64 (a23))]) (fun a27 b28=>[Lp l17 R19 LoopState.ready none,Blk b16 [v0,v1] 25,Blk b6 [Value.bool (false)] 4,Blk b5 [Value.int .u32 (p2)] 27,Blk b3 [v3] 26,Dfs (List.cons D18 ([]:List Nat))]) (fun a27 b28=>[Sl RI64 v0 p0.1,S2 RI64I64p v1 z2 p0.2,S2 RI64 v3 z4 p1]) ?_ ?_
      ·refine J.block<|J.seq<|J.region<|J.quiet (Y.move rfl) rfl ?_
       have h:=ck_some h;obtain⟨hc29,h⟩:=h
       refine J.quiet (Y.indexN rfl rfl (Lent.fact 1 rfl) rfl rfl hc29) rfl<|J.quiet (Y.loadRow rfl (Lent.fact 1 rfl) rfl rfl hc29) rfl<|J.quiet (Y.assign rfl) rfl<|J.quiet (Y.assign rfl) rfl<|J.done<|J.thenN<|J.seq<|J.region<|J.quiet (Y.move rfl) rfl<|J.quiet (Y.lenS rfl (Lent.el (Lent.fact 1 rfl) hc29.1 hc29.2) rfl) rfl<|J.quiet (Y.move rfl) rfl<|J.done<|J.thenN<|J.block<|J.loopI (A:=Int) (B:=Unit) (crash_Coloured_s2 p0 p1 p2 a23 (iter (crash_Coloured_s1 fuel p0 p1 p2) k25)) (fun a32 b33=>[(0,yieldV l17),(3,Value.int .i64 (a23)),(8,v1),(9,Value.int .i64 (List.length p0.2:Int)),(10,Value.int .i64 (a23)),(15,(at' z2 a23).1),(16,Value.int .i64 (List.length (at' p0.2 a23):Int)),(17,Value.int .i64 (a32))]) (fun a32 b33=>[Lp l17 R19 LoopState.ready none,Blk b16 [v0,v1] 25,Blk b6 [Value.bool (false)] 4,Blk b5 [Value.int .u32 (p2)] 27,Blk b3 [v3] 26,Dfs (List.cons D18 ([]:List Nat))]) (fun a32 b33=>[Sl RI64 v0 p0.1,S2 RI64I64p v1 z2 p0.2,S2 RI64 v3 z4 p1]) (0:Int) (()) h SF (SubM.refl _) (LentAll.refl _ _) ?_
       clear h
       intro k34 a32 b33 h
       unfold crash_Coloured_s2 at h
       refine J.seq<|J.region<|J.quiet (Y.lss rfl rfl) rfl<|J.done<|J.thenN<|J.seq ?_
       refine J.condD (by exact rfl) (fun hp35=> ?_) (fun hp35=> ?_)
       ·have h:=ifP hp35 h
        refine J.skip<|J.thenN<|J.seq<|J.block<|J.seq<|J.region ?_
        have h:=ck_some h;obtain⟨hc36,h⟩:=h
        refine J.quiet (Y.indexS rfl rfl (Lent.el (Lent.fact 1 rfl) hc29.1 hc29.2) rfl rfl hc36) rfl<|J.quiet (Y.loadAggS (cs:=[Value.int .i64 ((at' (at' p0.2 a23) a32).1),Value.int .i64 ((at' (at' p0.2 a23) a32).2)]) rfl (Lent.el (Lent.fact 1 rfl) hc29.1 hc29.2) FI64I64p rfl rfl rfl rfl hc36) rfl<|J.loud (Loud.alloc (cs:=[Value.int .i64 (0:Int),Value.int .i64 (0:Int)]) rfl rfl) rfl fun b37=>J.storeAll 0 (vs:=[Value.int .i64 ((at' (at' p0.2 a23) a32).1),Value.int .i64 ((at' (at' p0.2 a23) a32).2)]) rfl rfl rfl rfl rfl rfl<|J.done<|J.thenN<|J.seq<|J.region<|J.quiet (Y.move rfl) rfl<|J.quiet (Y.move rfl) rfl<|J.quiet (Y.loadBAll 0 rfl rfl rfl rfl) rfl<|J.yieldR (us:=[Value.int .i64 (a23),Value.agg #[Value.int .i64 ((at' (at' p0.2 a23) a32).1),Value.int .i64 ((at' (at' p0.2 a23) a32).2)]]) (i:=1) hR20 rfl rfl rfl rfl rfl rfl<|J.seq<|J.region<|J.quiet (Y.assign rfl) rfl<|J.done<|J.thenN<|J.region<|J.loud (Loud.alloc (cs:=[Value.int .i64 (0:Int),Value.int .i64 (0:Int)]) rfl rfl) rfl fun b38=>J.storeAll 0 (vs:=[Value.int .i64 ((at' (at' p0.2 a23) a32).1),Value.int .i64 ((at' (at' p0.2 a23) a32).2)]) rfl rfl rfl rfl rfl rfl<|J.done<|J.thenN<|J.begin (i:=2) rfl<|J.block<|J.seq<|J.midI (A:=Bool) (B:=Unit) (fun a40=>crash_Coloured_k5 a32 (iter (crash_Coloured_s2 p0 p1 p2 a23 (iter (crash_Coloured_s1 fuel p0 p1 p2) k25)) k34) a40=some r) (fun a40 b41=>[(6,Value.pointer (some ⟨b6,0,none⟩)),(46,Value.bool (a40))]) (fun a40 b41=>[Lp l17 R19 LoopState.busy none,Blk b16 [v0,v1] 25,Blk b6 [Value.bool (false)] 4,Blk b5 [Value.int .u32 (p2)] 27,Blk b3 [v3] 26,Dfs (List.cons D18 ([]:List Nat))]) (fun a40 b41=>[Sl RI64 v0 p0.1,S2 RI64I64p v1 z2 p0.2,S2 RI64 v3 z4 p1]) ?_ ?_
        ·refine JR.start [0,0,3,7,15,31,63,63,255,511,1023,2047,63,63,8255,28735,61503,127039,258111,524287,1048575] 19 mixedOrders (by decide +kernel) ?_
         refine JR.open (by exact rfl) ?_
         refine JR.qt rfl (SubM.cons 5 rfl (SubM.nil)) (SubL.nil) (Y.loadB 0 rfl rfl rfl rfl rfl) HistOk.z<|JR.qt rfl (SubM.nil) (SubL.nil) (Y.move rfl) HistOk.z ?_
         have h:=ck_some h;obtain⟨hc43,h⟩:=h
         refine JR.qt rfl (SubM.nil) (SubL.nil) (Y.shr rfl rfl hc43) HistOk.z<|JR.qt rfl (SubM.nil) (SubL.nil) (Y.and rfl rfl) HistOk.z<|JR.qt rfl (SubM.nil) (SubL.nil) (Y.eql rfl rfl) HistOk.z<|JR.qt rfl (SubM.nil) (SubL.nil) (Y.move rfl) HistOk.z ?_
         refine JR.guardD (by exact rfl) (by exact rfl) (by exact rfl) (fun hp44=> ?_) (fun hp44=> ?_)
         ·have h:=ifP hp44 h
          refine JR.qtG rfl (SubM.cons 6 rfl (SubM.nil)) (SubL.nil) (Y.loadB 0 rfl rfl rfl rfl rfl) HistOk.z<|JR.qtG rfl (SubM.nil) (SubL.nil) (Y.move rfl) HistOk.z ?_
          have h:=ck_some h;obtain⟨hc45,h⟩:=h
          refine JR.qtG rfl (SubM.nil) (SubL.cons (List.mem_of_getElem? (i:=2) rfl) (SubL.nil)) (Y.indexN rfl rfl (Lent.fact 0 rfl) rfl rfl hc45) HistOk.z<|JR.qtG rfl (SubM.nil) (SubL.cons (List.mem_of_getElem? (i:=2) rfl) (SubL.nil)) (Y.loadRow rfl (Lent.fact 0 rfl) rfl rfl hc45) HistOk.z ?_
          have h:=ck_some h;obtain⟨hc46,h⟩:=h
          refine JR.qtG rfl (SubM.nil) (SubL.cons (List.mem_of_getElem? (i:=2) rfl) (SubL.nil)) (Y.indexS rfl rfl (Lent.el (Lent.fact 0 rfl) hc45.1 hc45.2) rfl rfl hc46) HistOk.z<|JR.qtG rfl (SubM.nil) (SubL.cons (List.mem_of_getElem? (i:=2) rfl) (SubL.nil)) (Y.loadS0 rfl (Lent.el (Lent.fact 0 rfl) hc45.1 hc45.2) rfl rfl rfl RI64c0 hc46) HistOk.z<|JR.qtG rfl (SubM.cons 6 rfl (SubM.nil)) (SubL.nil) (Y.loadB 0 rfl rfl rfl rfl rfl) HistOk.z<|JR.qtG rfl (SubM.nil) (SubL.nil) (Y.fieldB rfl rfl rfl rfl rfl) HistOk.z<|JR.qtG rfl (SubM.cons 0 rfl (SubM.nil)) (SubL.nil) (Y.loadB 0 rfl rfl rfl rfl rfl) HistOk.z ?_
          have h:=ck_some h;obtain⟨hc47,h⟩:=h
          refine JR.qtG rfl (SubM.nil) (SubL.cons (List.mem_of_getElem? (i:=2) rfl) (SubL.nil)) (Y.indexN rfl rfl (Lent.fact 0 rfl) rfl rfl hc47) HistOk.z<|JR.qtG rfl (SubM.nil) (SubL.cons (List.mem_of_getElem? (i:=2) rfl) (SubL.nil)) (Y.loadRow rfl (Lent.fact 0 rfl) rfl rfl hc47) HistOk.z ?_
          have h:=ck_some h;obtain⟨hc48,h⟩:=h
          refine JR.qtG rfl (SubM.nil) (SubL.cons (List.mem_of_getElem? (i:=2) rfl) (SubL.nil)) (Y.indexS rfl rfl (Lent.el (Lent.fact 0 rfl) hc47.1 hc47.2) rfl rfl hc48) HistOk.z<|JR.qtG rfl (SubM.nil) (SubL.cons (List.mem_of_getElem? (i:=2) rfl) (SubL.nil)) (Y.loadS0 rfl (Lent.el (Lent.fact 0 rfl) hc47.1 hc47.2) rfl rfl rfl RI64c0 hc48) HistOk.z<|JR.tailD 19 rfl rfl<|J.guardY rfl (Y.eql rfl rfl) rfl<|J.quiet (Y.pickT rfl rfl) rfl<|J.done<|J.thenN ?_
          exact J.meetI (decide ((at' (at' p1 a23) (0:Int))=(at' (at' p1 ((at' (at' p0.2 a23) a32).1)) (0:Int)))) (()) h SF (SubM.cons 2 rfl (SubM.cons 2 rfl (SubM.cons 2 rfl (SubM.cons 2 rfl (SubM.cons 2 rfl (SubM.cons 2 rfl (SubM.nil))))))) (LentAll.refl _ _)
         ·have h:=ifN hp44 h
          refine JR.guardN rfl rfl rfl rfl<|JR.guardN rfl rfl rfl rfl<|JR.guardN rfl rfl rfl rfl<|JR.guardN rfl rfl rfl rfl<|JR.guardN rfl rfl rfl rfl<|JR.guardN rfl rfl rfl rfl<|JR.guardN rfl rfl rfl rfl<|JR.guardN rfl rfl rfl rfl<|JR.guardN rfl rfl rfl rfl<|JR.guardN rfl rfl rfl rfl<|JR.guardN rfl rfl rfl rfl<|JR.guardN rfl rfl rfl rfl<|JR.guardN rfl rfl rfl rfl<|JR.tailD 19 rfl rfl<|J.guardN rfl rfl rfl<|J.quiet (Y.pickF rfl rfl) rfl<|J.done<|J.thenN ?_
          exact J.meetI (false) (()) h SF (SubM.cons 2 rfl (SubM.cons 2 rfl (SubM.cons 2 rfl (SubM.cons 2 rfl (SubM.cons 2 rfl (SubM.cons 2 rfl (SubM.nil))))))) (LentAll.refl _ _)
        ·clear h
         intro a40 b41 h
         unfold crash_Coloured_k5 at h
         refine J.cond (by exact rfl) (fun hp42=> ?_) (fun hp42=> ?_)
         ·have h:=ifP hp42 h
          refine J.seq<|J.region<|J.store1 2 rfl rfl rfl rfl rfl rfl<|J.done<|J.thenN<|J.ret<|J.inR<|J.roundR (i:=0) rfl<|J.quiet (Y.not rfl) rfl<|J.done<|J.thenN<|J.condT rfl<|J.ret<|J.inR<|J.thenR<|J.thenR<|J.inR<|J.inR<|J.thenR<|J.thenR<|J.inR<|J.retFR (i:=0) (.inl rfl) rfl (Res.r0 rfl)<|J.inR<|J.thenR<|J.unmarkAll (i:=5) (Ds:=(List.cons D18 ([]:List Nat))) (.inl rfl) rfl ?_
          obtain rfl:=Option.some.inj h
          exact J.retG1 (()) rfl rfl (RV.cell1 2 rfl rfl rfl rfl) (SubM.nil) LentAll.nil
         ·have h:=ifBN hp42 h
          refine J.skip<|J.inN<|J.roundN (i:=0) rfl<|J.quiet (Y.not rfl) rfl<|J.done<|J.thenN<|J.condF rfl<|J.skip<|J.inN<|J.thenN<|J.region<|J.quiet (Y.addW rfl rfl) rfl<|J.quiet (Y.move rfl) rfl<|J.done<|J.thenN ?_
          exact J.againI (wI .i64 (a32+(1:Int))) (()) h SF (SubM.refl _) (LentAll.refl _ _)
       ·have h:=ifN hp35 h
        refine J.exit<|J.thenX<|J.thenX<|J.inX<|J.inN<|J.thenN ?_
        exact J.meetI (()) (()) h SF (SubM.refl _) (LentAll.refl _ _)
      ·clear h
       intro a27 b28 h
       unfold crash_Coloured_k4 at h
       refine J.region<|J.quiet (Y.addW rfl rfl) rfl<|J.quiet (Y.move rfl) rfl<|J.done<|J.thenN ?_
       exact J.againI (wI .i64 (a23+(1:Int))) (()) h SF (SubM.refl _) (LentAll.refl _ _)
     ·have h:=ifN hp26 h
      refine J.exit<|J.thenX<|J.thenX<|J.inX<|J.retF (i:=0) (.inr rfl) rfl (Res.r0 rfl)<|J.inN<|J.thenN ?_
      exact J.meetN (()) (List.cons D18 ([]:List Nat)) rfl h SF (SubM.cons 2 rfl (SubM.cons 4 rfl (SubM.nil))) (LentAll.refl _ _)
   ·clear h
    intro a12 b13 h
    unfold crash_Coloured_k2 at h
    refine J.seq<|J.region<|J.store1 0 rfl rfl rfl rfl rfl rfl<|J.done<|J.thenN<|J.ret<|J.unmarkAll (i:=1) (Ds:=(b13)) (.inl rfl) rfl ?_
    obtain rfl:=Option.some.inj h
    exact J.retG1 (()) rfl rfl (RV.cell1 0 rfl rfl rfl rfl) (SubM.nil) LentAll.nil
end Go.Proofs.YtfimaabbclepbaaGreat
end
section
namespace Go.Proofs.YtfimaabbclepbaaGreat
open Go.Sx
def m_ref23_Number (fuel:Nat) (p0:ByteArray) (p1:Int) (p2:Int) (p3:Int):Option ((ByteArray×Int×Int×Int×Int×Int)):=
 some ((p0,(1:Int),(0:Int),p1,p2,p3))
theorem body40:HasBody Tryz.prog 40:=Tryz.call40
theorem t_ref23_Number (fuel:Nat) {p0:ByteArray} {p1:Int} {p2:Int} {p3:Int} (r:(ByteArray×Int×Int×Int×Int×Int)) (h:m_ref23_Number fuel p0 p1 p2 p3=some r):
  Meets Tryz.prog 40 #[Value.string (p0),Value.int .i64 (p1),Value.int .i64 (p2),Value.int .i64 (p3)] [] (fun x:Unit=>Value.agg #[Value.string (r.1),Value.int .i64 (r.2.1),Value.int .i64 (r.2.2.1),Value.int .i64 (r.2.2.2.1),Value.int .i64 (r.2.2.2.2.1),Value.int .i64 (r.2.2.2.2.2)]) (fun x l=>l) (fun _ l=>l):=by
 refine Meets.of (vs:=[Value.string (p0),Value.int .i64 (p1),Value.int .i64 (p2),Value.int .i64 (p3)]) Tryz.func40 rfl Tryz.ntmps40 rfl fun c=> ?_
 unfold m_ref23_Number at h
 refine J.seq<|J.region<|J.loud (Loud.alloc (cs:=[Value.string (ByteArray.mk #[]),Value.int .i64 (0:Int),Value.int .i64 (0:Int),Value.int .i64 (0:Int),Value.int .i64 (0:Int),Value.int .i64 (0:Int)]) rfl rfl) rfl fun b1=>J.done<|J.thenN<|J.seq<|J.region<|J.quiet (Y.move rfl) rfl<|J.quiet (Y.move rfl) rfl<|J.quiet (Y.move rfl) rfl<|J.quiet (Y.move rfl) rfl ?_
 refine J.quiet (Y.bld5 (r:=Value.agg #[Value.string (p0),Value.int .i64 (1:Int),Value.int .i64 (0:Int),Value.int .i64 (p1),Value.int .i64 (p2),Value.int .i64 (p3)]) rfl rfl rfl rfl rfl (by intro w;simp[Instr.build,Instr.fill,cells_intV,cells_boolV,cells_sliceV,cells_ptrV,cells_strV,cells_funcV,cells_agg])) rfl ?_
 refine J.storeAll 0 (vs:=[Value.string (p0),Value.int .i64 (1:Int),Value.int .i64 (0:Int),Value.int .i64 (p1),Value.int .i64 (p2),Value.int .i64 (p3)]) rfl rfl rfl rfl rfl rfl<|J.done<|J.thenN<|J.ret ?_
 obtain rfl:=Option.some.inj h
 exact J.retG1 (()) rfl rfl (RV.cell 0 rfl rfl rfl rfl) (SubM.nil) LentAll.nil
end Go.Proofs.YtfimaabbclepbaaGreat
end
section
namespace Go.Proofs.YtfimaabbclepbaaGreat
open Go.Sx
def m_ref32_Vars (fuel:Nat)  : Option ((List (ByteArray×Int×Int×Int×Int×Int))):=
 Option.bind (m_ref23_Number fuel (ByteArray.mk #[99]) (0:Int) (1:Int) (0:Int)) fun r1=>(some ([(r1.1,r1.2.1,r1.2.2.1,r1.2.2.2.1,r1.2.2.2.2.1,r1.2.2.2.2.2)]))
theorem body15:HasBody Tryz.prog 15:=Tryz.call15
theorem t_ref32_Vars (fuel:Nat)  (r:(List (ByteArray×Int×Int×Int×Int×Int))) (h:m_ref32_Vars fuel  = some r):
  Meets Tryz.prog 15 #[] [] (fun x:Value=>x) (fun x l=>Ar EStI64I64I64I64I64p x r::l) (fun _ l=>l):=by
 refine Meets.of (vs:=[]) Tryz.func15 rfl Tryz.ntmps15 rfl fun c=> ?_
 unfold m_ref32_Vars at h
 refine J.seq<|J.region<|J.quiet (Y.assign rfl) rfl<|J.done<|J.thenN<|J.seq<|J.region ?_
 have h:=bnd h;obtain⟨r1,hr2,h⟩:=h
 refine J.loud (Loud.callL body40 (t_ref23_Number fuel  r1 hr2) rfl .nil (fun _ _=>rfl)) rfl fun x3=>J.loud (Loud.buildS (e:=EStI64I64I64I64I64p) ([((r1.1,r1.2.1,r1.2.2.1,r1.2.2.2.1,r1.2.2.2.2.1,r1.2.2.2.2.2))]) [(0,Value.agg #[Value.string (r1.1),Value.int .i64 (r1.2.1),Value.int .i64 (r1.2.2.1),Value.int .i64 (r1.2.2.2.1),Value.int .i64 (r1.2.2.2.2.1),Value.int .i64 (r1.2.2.2.2.2)])] rfl rfl rfl rfl (fill_1_6 (Value.string (r1.1)) (Value.int .i64 (r1.2.1)) (Value.int .i64 (r1.2.2.1)) (Value.int .i64 (r1.2.2.2.1)) (Value.int .i64 (r1.2.2.2.2.1)) (Value.int .i64 (r1.2.2.2.2.2))) rfl rfl rfl) rfl fun u4=>J.quiet (Y.assign rfl) rfl<|J.done<|J.thenN<|J.ret ?_
 obtain rfl:=Option.some.inj h
 exact J.retG1 (u4) rfl rfl (RV.tmp rfl) (SubM.refl _) LentAll.nil
end Go.Proofs.YtfimaabbclepbaaGreat
end
section
namespace Go.Proofs.YtfimaabbclepbaaGreat
open Go.Sx
def m_ref32_Fit (fuel:Nat) (p0:List (Int)×(List (List (Int×Int)))):Option (Bool):=
 Option.bind (m_ref01_Valid fuel ((p0.1,p0.2))) fun r2=>(some (r2))
theorem body52:HasBody Tryz.prog 52:=Tryz.call52
theorem t_ref32_Fit (fuel:Nat) {p0:List (Int)×(List (List (Int×Int)))} (v0:Value)  (v1:Value)  (z2:List (Value×List (Int×Int))) (r:Bool) (h:m_ref32_Fit fuel p0=some r):
  Meets Tryz.prog 52 #[Value.agg #[v0,v1]] [Sl RI64 v0 p0.1,S2 RI64I64p v1 z2 p0.2] (fun x:Unit=>Value.bool (r)) (fun x l=>l) (fun _ l=>l):=by
 refine Meets.of (vs:=[Value.agg #[v0,v1]]) Tryz.func52 rfl Tryz.ntmps52 rfl fun c=> ?_
 unfold m_ref32_Fit at h
 refine J.seq<|J.region<|J.loud (Loud.box (cs:=[v0,v1]) rfl rfl) rfl fun b1=>J.quiet (Y.assign rfl) rfl<|J.done<|J.thenN<|J.seq<|J.region<|J.quiet (Y.loadBAll 0 rfl rfl rfl rfl) rfl ?_
 have h:=bnd h;obtain⟨r2,hr3,h⟩:=h
 refine J.loud (Loud.callL body49 (t_ref01_Valid fuel v0 v1 z2 r2 hr3) rfl (LentAll.cons (Lent.fact 0 rfl) (LentAll.cons (Lent.fact 1 rfl) .nil)) (fun _ _=>rfl)) rfl fun x4=>J.quiet (Y.assign rfl) rfl<|J.done<|J.thenN<|J.ret ?_
 obtain rfl:=Option.some.inj h
 exact J.retG1 (()) rfl rfl (RV.tmp rfl) (SubM.nil) LentAll.nil
end Go.Proofs.YtfimaabbclepbaaGreat
end
section
namespace Go.Proofs.YtfimaabbclepbaaGreat
open Go.Sx
def ref32_Conflicts_k2  (a7:Int):Option (Int):=
 some (a7)
def ref32_Conflicts_k3 (a12:Int×Int) (ag11:(Int×Int)->Option (Int)) (a17:Int):Option (Int):=
 ag11 (a17,(wI .i64 (a12.2+(1:Int))))
def ref32_Conflicts_k4 (a22:Int×Int) (ag21:(Int×Int)->Option (Int)) (a28:Int):Option (Int):=
 ag21 (a28,(wI .i64 (a22.2+(1:Int))))
def ref32_Conflicts_s2 (p0:List (Int)×(List (List (Int×Int)))) (p1:List (List (Int))) (a12:Int×Int) (ag11:(Int×Int)->Option (Int)) (a22:Int×Int) (ag21:(Int×Int)->Option (Int)):Option (Int):=
 ck (0<=a12.2∧a12.2<(List.length p0.2:Int)) (if a22.2<(List.length (at' p0.2 a12.2):Int)then(ck (0<=a12.2∧a12.2<(List.length p0.2:Int)) (ck (0<=a22.2∧a22.2<(List.length (at' p0.2 a12.2):Int)) (ck (0<=((at' (at' p0.2 a12.2) a22.2).1)∧((at' (at' p0.2 a12.2) a22.2).1)<(List.length p1:Int)) (ck (0<=(0:Int)∧(0:Int)<(List.length (at' p1 ((at' (at' p0.2 a12.2) a22.2).1)):Int)) (ck (0<=a12.2∧a12.2<(List.length p1:Int)) (ck (0<=(0:Int)∧(0:Int)<(List.length (at' p1 a12.2):Int)) (if(at' (at' p1 ((at' (at' p0.2 a12.2) a22.2).1)) (0:Int))=(at' (at' p1 a12.2) (0:Int))then(ck (0<=(wI .u64 a12.2)) (ref32_Conflicts_k4 a22 ag21 (bOr .u32 a22.1 (bShl .u32 (1:Int) (wI .u64 a12.2)))))else(ref32_Conflicts_k4 a22 ag21 (a22.1)))))))))else(ref32_Conflicts_k3 a12 ag11 (a22.1)))
def ref32_Conflicts_s1 (fuel:Nat) (p0:List (Int)×(List (List (Int×Int)))) (p1:List (List (Int))) (a12:Int×Int) (ag11:(Int×Int)->Option (Int)):Option (Int):=
 if a12.2<(List.length p1:Int)then(iter (ref32_Conflicts_s2 p0 p1 a12 ag11) fuel (a12.1,(0:Int)))else(ref32_Conflicts_k2  (a12.1))
def ref32_Conflicts_k1 (fuel:Nat) (p0:List (Int)×(List (List (Int×Int)))) (p1:List (List (Int))) (a3:Bool):Option (Int):=
 if a3=true then(some (0:Int))else(iter (ref32_Conflicts_s1 fuel p0 p1) fuel ((0:Int),(0:Int)))
def m_ref32_Conflicts (fuel:Nat) (p0:List (Int)×(List (List (Int×Int)))) (p1:List (List (Int))):Option (Int):=
 Option.bind (m_ref32_Fit fuel ((p0.1,p0.2))) fun r38=>(if(!r38)=true then(ref32_Conflicts_k1 fuel p0 p1 (true))else(Option.bind (m_ref32_Vars fuel) fun r42=>(Option.bind (m_ref23_Config fuel ((p0.1,p0.2)) p1 r42) fun r45=>(ref32_Conflicts_k1 fuel p0 p1 ((!r45))))))
theorem body26:HasBody Tryz.prog 26:=Tryz.call26
theorem t_ref32_Conflicts (fuel:Nat) {p0:List (Int)×(List (List (Int×Int)))} {p1:List (List (Int))} (v0:Value)  (v1:Value)  (z2:List (Value×List (Int×Int)))  (v3:Value)  (z4:List (Value×List (Int))) (r:Int) (h:m_ref32_Conflicts fuel p0 p1=some r):
  Meets Tryz.prog 26 #[Value.agg #[v0,v1],v3] [Sl RI64 v0 p0.1,S2 RI64I64p v1 z2 p0.2,S2 RI64 v3 z4 p1] (fun x:Unit=>Value.int .u32 (r)) (fun x l=>l) (fun _ l=>l):=by
 refine Meets.of (vs:=[Value.agg #[v0,v1],v3]) Tryz.func26 rfl Tryz.ntmps26 rfl fun c=> ?_
 unfold m_ref32_Conflicts at h
 refine J.seq<|J.region<|J.loud (Loud.box (cs:=[v0,v1]) rfl rfl) rfl fun b1=>J.quiet (Y.assign rfl) rfl<|J.done<|J.thenN<|J.seq<|J.seq<|J.midI (A:=Bool) (B:=Unit) (fun a3=>ref32_Conflicts_k1 fuel p0 p1 a3=some r) (fun a3 b4=>[(1,v3),(2,Value.pointer (some ⟨b1,0,none⟩)),(17,Value.bool (a3))]) (fun a3 b4=>[Blk b1 [v0,v1] 25]) (fun a3 b4=>[Sl RI64 v0 p0.1,S2 RI64I64p v1 z2 p0.2,S2 RI64 v3 z4 p1]) ?_ ?_
 ·refine JR.start [0,1,3,7,15,15,15,127,255,511] 7 mixedOrders (by decide +kernel) ?_
  refine JR.open (by exact rfl) ?_
  refine JR.qt rfl (SubM.refl _) (SubL.nil) (Y.loadBAll 0 rfl rfl rfl rfl) HistOk.z ?_
  have h:=bnd h;obtain⟨r38,hr39,h⟩:=h
  refine JR.loud rfl rfl rfl (Loud.callL body52 (t_ref32_Fit fuel v0 v1 z2 r38 hr39) rfl (LentAll.cons (Lent.fact 0 rfl) (LentAll.cons (Lent.fact 1 rfl) .nil)) (fun _ _=>rfl)) rfl (fun x40=>(BsOk.b rfl BsOk.z)) fun x40=>JR.qt rfl (SubM.nil) (SubL.nil) (Y.not rfl) (HistOk.b rfl HistOk.z)<|JR.qt rfl (SubM.nil) (SubL.nil) (Y.move rfl) (HistOk.b rfl HistOk.z) ?_
  refine JR.guard (by exact rfl) (by exact rfl) (by exact rfl) (fun hp41=> ?_) (fun hp41=> ?_)
  ·have h:=ifP hp41 h
   refine JR.guardN rfl rfl rfl rfl<|JR.guardN rfl rfl rfl rfl<|JR.guardN rfl rfl rfl rfl<|JR.tailD 7 rfl rfl<|J.guardN rfl rfl rfl<|J.guardN rfl rfl rfl<|J.quiet (Y.pickT rfl rfl) rfl<|J.done<|J.thenN ?_
   exact J.meetI (true) (()) h SF (SubM.refl _) (LentAll.refl _ _)
  ·have h:=ifBN hp41 h
   refine JR.qtG rfl (SubM.refl _) (SubL.nil) (Y.loadBAll 0 rfl rfl rfl rfl) (HistOk.b rfl HistOk.z)<|JR.qtG rfl (SubM.nil) (SubL.nil) (Y.move rfl) (HistOk.b rfl HistOk.z) ?_
   have h:=bnd h;obtain⟨r42,hr43,h⟩:=h
   refine JR.loudG rfl rfl rfl rfl (Loud.callL body15 (t_ref32_Vars fuel  r42 hr43) rfl .nil (fun _ _=>rfl)) rfl (fun x44=>(BsOk.h (SubM.nil) (SubL.nil) (BsOk.h (SubM.cons 1 rfl (SubM.nil)) (SubL.nil) (BsOk.b rfl (BsOk.b rfl (BsOk.b rfl BsOk.z)))))) fun x44=>JR.tailD 7 rfl rfl ?_
   have h:=bnd h;obtain⟨r45,hr46,h⟩:=h
   refine J.loudG rfl (Loud.callL body25 (t_ref23_Config fuel v0 v1 z2 v3 z4 x44 r45 hr46) rfl (LentAll.cons (Lent.fact 0 rfl) (LentAll.cons (Lent.fact 1 rfl) (LentAll.cons (Lent.fact 2 rfl) (LentAll.cons (Lent.ar (Lent.res 0 rfl) FStI64I64I64I64I64p) .nil)))) (fun _ _=>rfl)) rfl fun x47=>J.guardY rfl (Y.not rfl) rfl<|J.quiet (Y.pickF rfl rfl) rfl<|J.done<|J.thenN ?_
   exact J.meetI ((!r45)) (()) h SF (SubM.cons 1 rfl (SubM.nil)) (LentAll.refl _ _)
 ·clear h
  intro a3 b4 h
  unfold ref32_Conflicts_k1 at h
  refine J.cond (by exact rfl) (fun hp5=> ?_) (fun hp5=> ?_)
  ·have h:=ifP hp5 h
   refine J.seq<|J.region<|J.quiet (Y.assign rfl) rfl<|J.done<|J.thenN<|J.ret<|J.thenR ?_
   obtain rfl:=Option.some.inj h
   exact J.retG1 (()) rfl rfl (RV.tmp rfl) (SubM.nil) LentAll.nil
  ·have h:=ifBN hp5 h
   refine J.skip<|J.thenN<|J.seq<|J.region<|J.quiet (Y.assign rfl) rfl<|J.done<|J.thenN<|J.seq<|J.midI (A:=Int) (B:=Unit) (fun a7=>ref32_Conflicts_k2  a7=some r) (fun a7 b8=>[(5,Value.int .u32 (a7))]) (fun a7 b8=>[]) (fun a7 b8=>[Sl RI64 v0 p0.1,S2 RI64I64p v1 z2 p0.2,S2 RI64 v3 z4 p1]) ?_ ?_
   ·refine J.seq<|J.region<|J.quiet (Y.assign rfl) rfl<|J.done<|J.thenN<|J.block<|J.loopI (A:=Int×Int) (B:=Unit) (ref32_Conflicts_s1 fuel p0 p1) (fun a12 b13=>[(1,v3),(2,Value.pointer (some ⟨b1,0,none⟩)),(5,Value.int .u32 (a12.1)),(6,Value.int .i64 (a12.2))]) (fun a12 b13=>[Blk b1 [v0,v1] 25]) (fun a12 b13=>[Sl RI64 v0 p0.1,S2 RI64I64p v1 z2 p0.2,S2 RI64 v3 z4 p1]) ((0:Int),(0:Int)) (()) h SF (SubM.refl _) (LentAll.refl _ _) ?_
    clear h
    intro k14 a12 b13 h
    unfold ref32_Conflicts_s1 at h
    refine J.seq<|J.seq<|J.region<|J.quiet (Y.move rfl) rfl<|J.quiet (Y.move rfl) rfl<|J.quiet (Y.lenN rfl (Lent.fact 2 rfl) rfl) rfl<|J.quiet (Y.lss rfl rfl) rfl<|J.done<|J.thenN ?_
    refine J.condD (by exact rfl) (fun hp15=> ?_) (fun hp15=> ?_)
    ·have h:=ifP hp15 h
     refine J.skip<|J.thenN<|J.seq<|J.midI (A:=Int) (B:=Unit) (fun a17=>ref32_Conflicts_k3 a12 (iter (ref32_Conflicts_s1 fuel p0 p1) k14) a17=some r) (fun a17 b18=>[(1,v3),(2,Value.pointer (some ⟨b1,0,none⟩)),(5,Value.int .u32 (a17)),(6,Value.int .i64 (a12.2))]) (fun a17 b18=>[Blk b1 [v0,v1] 25]) (fun a17 b18=>[Sl RI64 v0 p0.1,S2 RI64I64p v1 z2 p0.2,S2 RI64 v3 z4 p1]) ?_ ?_
     ·refine J.block<|J.seq<|J.region<|J.quiet (Y.assign rfl) rfl<|J.done<|J.thenN<|J.block<|J.loopI (A:=Int×Int) (B:=Unit) (ref32_Conflicts_s2 p0 p1 a12 (iter (ref32_Conflicts_s1 fuel p0 p1) k14)) (fun a22 b23=>[(1,v3),(2,Value.pointer (some ⟨b1,0,none⟩)),(5,Value.int .u32 (a22.1)),(6,Value.int .i64 (a12.2)),(7,Value.int .i64 (a22.2))]) (fun a22 b23=>[Blk b1 [v0,v1] 25]) (fun a22 b23=>[Sl RI64 v0 p0.1,S2 RI64I64p v1 z2 p0.2,S2 RI64 v3 z4 p1]) (a12.1,(0:Int)) (()) h SF (SubM.refl _) (LentAll.refl _ _) ?_
      clear h
      intro k24 a22 b23 h
      unfold ref32_Conflicts_s2 at h
      refine J.seq<|J.seq<|J.region<|J.quiet (Y.move rfl) rfl<|J.quiet (Y.fieldB rfl rfl rfl rfl rfl) rfl<|J.quiet (Y.loadB 0 rfl rfl rfl rfl rfl) rfl<|J.quiet (Y.move rfl) rfl ?_
      have h:=ck_some h;obtain⟨hc25,h⟩:=h
      refine J.quiet (Y.indexN rfl rfl (Lent.fact 1 rfl) rfl rfl hc25) rfl<|J.quiet (Y.loadRow rfl (Lent.fact 1 rfl) rfl rfl hc25) rfl<|J.quiet (Y.lenS rfl (Lent.el (Lent.fact 1 rfl) hc25.1 hc25.2) rfl) rfl<|J.quiet (Y.lss rfl rfl) rfl<|J.done<|J.thenN ?_
      refine J.condD (by exact rfl) (fun hp26=> ?_) (fun hp26=> ?_)
      ·have h:=ifP hp26 h
       refine J.skip<|J.thenN<|J.seq<|J.midI (A:=Int) (B:=Unit) (fun a28=>ref32_Conflicts_k4 a22 (iter (ref32_Conflicts_s2 p0 p1 a12 (iter (ref32_Conflicts_s1 fuel p0 p1) k14)) k24) a28=some r) (fun a28 b29=>[(1,v3),(2,Value.pointer (some ⟨b1,0,none⟩)),(5,Value.int .u32 (a28)),(6,Value.int .i64 (a12.2)),(7,Value.int .i64 (a22.2))]) (fun a28 b29=>[Blk b1 [v0,v1] 25]) (fun a28 b29=>[Sl RI64 v0 p0.1,S2 RI64I64p v1 z2 p0.2,S2 RI64 v3 z4 p1]) ?_ ?_
       ·refine J.block<|J.seq ?_
        refine JR.start [0,0,2,0,14,30,0,126,254,510,1023,2047,4095,8191,0,0,49152,114688,245760,507904,1048575] 20 mixedOrders (by decide +kernel) ?_
        refine JR.open (by exact rfl) ?_
        refine JR.qt rfl (SubM.nil) (SubL.nil) (Y.move rfl) HistOk.z<|JR.qt rfl (SubM.nil) (SubL.nil) (Y.fieldB rfl rfl rfl rfl rfl) HistOk.z<|JR.qt rfl (SubM.refl _) (SubL.nil) (Y.loadB 0 rfl rfl rfl rfl rfl) HistOk.z<|JR.qt rfl (SubM.nil) (SubL.nil) (Y.move rfl) HistOk.z ?_
        have h:=ck_some h;obtain⟨hc30,h⟩:=h
        refine JR.qt rfl (SubM.nil) (SubL.cons (List.mem_of_getElem? (i:=1) rfl) (SubL.nil)) (Y.indexN rfl rfl (Lent.fact 0 rfl) rfl rfl hc30) HistOk.z<|JR.qt rfl (SubM.nil) (SubL.cons (List.mem_of_getElem? (i:=1) rfl) (SubL.nil)) (Y.loadRow rfl (Lent.fact 0 rfl) rfl rfl hc30) HistOk.z<|JR.qt rfl (SubM.nil) (SubL.nil) (Y.move rfl) HistOk.z ?_
        have h:=ck_some h;obtain⟨hc31,h⟩:=h
        refine JR.qt rfl (SubM.nil) (SubL.cons (List.mem_of_getElem? (i:=1) rfl) (SubL.nil)) (Y.indexS rfl rfl (Lent.el (Lent.fact 0 rfl) hc30.1 hc30.2) rfl rfl hc31) HistOk.z<|JR.qt rfl (SubM.nil) (SubL.nil) (Y.fieldEl rfl rfl rfl rfl rfl) HistOk.z<|JR.qt rfl (SubM.nil) (SubL.cons (List.mem_of_getElem? (i:=1) rfl) (SubL.nil)) (Y.loadS rfl (Lent.el (Lent.fact 0 rfl) hc30.1 hc30.2) rfl rfl rfl RI64I64pc0 hc31) HistOk.z ?_
        have h:=ck_some h;obtain⟨hc32,h⟩:=h
        refine JR.qt rfl (SubM.nil) (SubL.cons (List.mem_of_getElem? (i:=2) rfl) (SubL.nil)) (Y.indexN rfl rfl (Lent.fact 0 rfl) rfl rfl hc32) HistOk.z<|JR.qt rfl (SubM.nil) (SubL.cons (List.mem_of_getElem? (i:=2) rfl) (SubL.nil)) (Y.loadRow rfl (Lent.fact 0 rfl) rfl rfl hc32) HistOk.z ?_
        have h:=ck_some h;obtain⟨hc33,h⟩:=h
        refine JR.qt rfl (SubM.nil) (SubL.cons (List.mem_of_getElem? (i:=2) rfl) (SubL.nil)) (Y.indexS rfl rfl (Lent.el (Lent.fact 0 rfl) hc32.1 hc32.2) rfl rfl hc33) HistOk.z<|JR.qt rfl (SubM.nil) (SubL.cons (List.mem_of_getElem? (i:=2) rfl) (SubL.nil)) (Y.loadS0 rfl (Lent.el (Lent.fact 0 rfl) hc32.1 hc32.2) rfl rfl rfl RI64c0 hc33) HistOk.z<|JR.qt rfl (SubM.nil) (SubL.nil) (Y.move rfl) HistOk.z<|JR.qt rfl (SubM.nil) (SubL.nil) (Y.move rfl) HistOk.z ?_
        have h:=ck_some h;obtain⟨hc34,h⟩:=h
        refine JR.qt rfl (SubM.nil) (SubL.cons (List.mem_of_getElem? (i:=2) rfl) (SubL.nil)) (Y.indexN rfl rfl (Lent.fact 0 rfl) rfl rfl hc34) HistOk.z<|JR.qt rfl (SubM.nil) (SubL.cons (List.mem_of_getElem? (i:=2) rfl) (SubL.nil)) (Y.loadRow rfl (Lent.fact 0 rfl) rfl rfl hc34) HistOk.z ?_
        have h:=ck_some h;obtain⟨hc35,h⟩:=h
        refine JR.qt rfl (SubM.nil) (SubL.cons (List.mem_of_getElem? (i:=2) rfl) (SubL.nil)) (Y.indexS rfl rfl (Lent.el (Lent.fact 0 rfl) hc34.1 hc34.2) rfl rfl hc35) HistOk.z<|JR.qt rfl (SubM.nil) (SubL.cons (List.mem_of_getElem? (i:=2) rfl) (SubL.nil)) (Y.loadS0 rfl (Lent.el (Lent.fact 0 rfl) hc34.1 hc34.2) rfl rfl rfl RI64c0 hc35) HistOk.z<|JR.tailD 20 rfl rfl<|J.quiet (Y.eql rfl rfl) rfl<|J.done<|J.thenN ?_
        refine J.condD (by exact rfl) (fun hp36=> ?_) (fun hp36=> ?_)
        ·have h:=ifP hp36 h
         refine J.region<|J.quiet (Y.move rfl) rfl<|J.quiet (Y.move rfl) rfl<|J.quiet (Y.conv rfl rfl rfl) rfl ?_
         have h:=ck_some h;obtain⟨hc37,h⟩:=h
         refine J.quiet (Y.shl rfl rfl hc37) rfl<|J.quiet (Y.or rfl rfl) rfl<|J.quiet (Y.assign rfl) rfl<|J.done<|J.inN<|J.thenN ?_
         exact J.meetI (bOr .u32 a22.1 (bShl .u32 (1:Int) (wI .u64 a12.2))) (()) h SF (SubM.refl _) (LentAll.refl _ _)
        ·have h:=ifN hp36 h
         refine J.skip<|J.inN<|J.thenN ?_
         exact J.meetI (a22.1) (()) h SF (SubM.refl _) (LentAll.refl _ _)
       ·clear h
        intro a28 b29 h
        unfold ref32_Conflicts_k4 at h
        refine J.region<|J.quiet (Y.move rfl) rfl<|J.quiet (Y.addW rfl rfl) rfl<|J.quiet (Y.assign rfl) rfl<|J.done<|J.thenN ?_
        exact J.againI (a28,(wI .i64 (a22.2+(1:Int)))) (()) h SF (SubM.refl _) (LentAll.refl _ _)
      ·have h:=ifN hp26 h
       refine J.exit<|J.thenX<|J.thenX<|J.inX<|J.inN<|J.thenN ?_
       exact J.meetI (a22.1) (()) h SF (SubM.refl _) (LentAll.refl _ _)
     ·clear h
      intro a17 b18 h
      unfold ref32_Conflicts_k3 at h
      refine J.region<|J.quiet (Y.move rfl) rfl<|J.quiet (Y.addW rfl rfl) rfl<|J.quiet (Y.assign rfl) rfl<|J.done<|J.thenN ?_
      exact J.againI (a17,(wI .i64 (a12.2+(1:Int)))) (()) h SF (SubM.refl _) (LentAll.refl _ _)
    ·have h:=ifN hp15 h
     refine J.exit<|J.thenX<|J.thenX<|J.inX<|J.thenN ?_
     exact J.meetI (a12.1) (()) h SF (SubM.nil) (LentAll.refl _ _)
   ·clear h
    intro a7 b8 h
    unfold ref32_Conflicts_k2 at h
    refine J.seq<|J.region<|J.quiet (Y.move rfl) rfl<|J.quiet (Y.assign rfl) rfl<|J.done<|J.thenN<|J.ret ?_
    obtain rfl:=Option.some.inj h
    exact J.retG1 (()) rfl rfl (RV.tmp rfl) (SubM.refl _) LentAll.nil
end Go.Proofs.YtfimaabbclepbaaGreat
end
section
namespace Go.Proofs.YtfimaabbclepbaaGreat
open Go.Sx
def ref44_Coloured_k1  (a3:Bool):Option (Bool):=
 some (a3)
def m_ref44_Coloured (fuel:Nat) (p0:List (Int)×(List (List (Int×Int)))) (p1:List (List (Int))) (p2:Int):Option (Bool):=
 Option.bind (m_ref32_Vars fuel) fun r5=>(Option.bind (m_ref23_Config fuel ((p0.1,p0.2)) p1 r5) fun r8=>(if r8=true then(Option.bind (m_ref32_Conflicts fuel ((p0.1,p0.2)) p1) fun r12=>(ref44_Coloured_k1  (decide ((bAndNot .u32 r12 p2)=(0:Int)))))else(ref44_Coloured_k1  (false))))
theorem body7:HasBody Tryz.prog 7:=Tryz.call7
theorem t_ref44_Coloured (fuel:Nat) {p0:List (Int)×(List (List (Int×Int)))} {p1:List (List (Int))} {p2:Int} (v0:Value)  (v1:Value)  (z2:List (Value×List (Int×Int)))  (v3:Value)  (z4:List (Value×List (Int))) (r:Bool) (h:m_ref44_Coloured fuel p0 p1 p2=some r):
  Meets Tryz.prog 7 #[Value.agg #[v0,v1],v3,Value.int .u32 (p2)] [Sl RI64 v0 p0.1,S2 RI64I64p v1 z2 p0.2,S2 RI64 v3 z4 p1] (fun x:Unit=>Value.bool (r)) (fun x l=>l) (fun _ l=>l):=by
 refine Meets.of (vs:=[Value.agg #[v0,v1],v3,Value.int .u32 (p2)]) Tryz.func7 rfl Tryz.ntmps7 rfl fun c=> ?_
 unfold m_ref44_Coloured at h
 refine J.seq<|J.region<|J.loud (Loud.box (cs:=[v0,v1]) rfl rfl) rfl fun b1=>J.quiet (Y.assign rfl) rfl<|J.done<|J.thenN<|J.seq<|J.midI (A:=Bool) (B:=Unit) (fun a3=>ref44_Coloured_k1  a3=some r) (fun a3 b4=>[(6,Value.bool (a3))]) (fun a3 b4=>[]) (fun a3 b4=>[Sl RI64 v0 p0.1,S2 RI64I64p v1 z2 p0.2,S2 RI64 v3 z4 p1]) ?_ ?_
 ·refine JR.start [0,0,0,7,15,31,31,127,31,511,1023,2047,4095] 9 mixedOrders (by decide +kernel) ?_
  refine JR.open (by exact rfl) ?_
  refine JR.qt rfl (SubM.refl _) (SubL.nil) (Y.loadBAll 0 rfl rfl rfl rfl) HistOk.z<|JR.qt rfl (SubM.nil) (SubL.nil) (Y.move rfl) HistOk.z ?_
  have h:=bnd h;obtain⟨r5,hr6,h⟩:=h
  refine JR.loud rfl rfl rfl (Loud.callL body15 (t_ref32_Vars fuel  r5 hr6) rfl .nil (fun _ _=>rfl)) rfl (fun x7=>(BsOk.h (SubM.nil) (SubL.nil) (BsOk.h (SubM.cons 1 rfl (SubM.nil)) (SubL.nil) BsOk.z))) fun x7=> ?_
  have h:=bnd h;obtain⟨r8,hr9,h⟩:=h
  refine JR.loud rfl rfl rfl (Loud.callL body25 (t_ref23_Config fuel v0 v1 z2 v3 z4 x7 r8 hr9) rfl (LentAll.cons (Lent.fact 0 rfl) (LentAll.cons (Lent.fact 1 rfl) (LentAll.cons (Lent.fact 2 rfl) (LentAll.cons (Lent.ar (Lent.res 0 rfl) FStI64I64I64I64I64p) .nil)))) (fun _ _=>rfl)) rfl (fun x10=>(BsOk.b rfl (BsOk.b rfl BsOk.z))) fun x10=>JR.qt rfl (SubM.nil) (SubL.nil) (Y.move rfl) (HistOk.b rfl (HistOk.b rfl HistOk.z)) ?_
  refine JR.guard (by exact rfl) (by exact rfl) (by exact rfl) (fun hp11=> ?_) (fun hp11=> ?_)
  ·have h:=ifP hp11 h
   refine JR.qtG rfl (SubM.cons 1 rfl (SubM.nil)) (SubL.nil) (Y.loadBAll 0 rfl rfl rfl rfl) (HistOk.b rfl (HistOk.b rfl HistOk.z))<|JR.qtG rfl (SubM.nil) (SubL.nil) (Y.move rfl) (HistOk.b rfl (HistOk.b rfl HistOk.z)) ?_
   have h:=bnd h;obtain⟨r12,hr13,h⟩:=h
   refine JR.loudG rfl rfl rfl rfl (Loud.callL body26 (t_ref32_Conflicts fuel v0 v1 z2 v3 z4 r12 hr13) rfl (LentAll.cons (Lent.fact 0 rfl) (LentAll.cons (Lent.fact 1 rfl) (LentAll.cons (Lent.fact 2 rfl) .nil))) (fun _ _=>rfl)) rfl (fun x14=>(BsOk.b rfl (BsOk.b rfl (BsOk.b rfl (BsOk.b rfl (BsOk.b rfl BsOk.z)))))) fun x14=>JR.qtG rfl (SubM.nil) (SubL.nil) (Y.move rfl) (HistOk.h (SubM.nil) (SubL.nil) (HistOk.b rfl (HistOk.b rfl HistOk.z)))<|JR.tailD 9 rfl rfl<|J.guardY rfl (Y.andNot rfl rfl) rfl<|J.guardY rfl (Y.eql rfl rfl) rfl<|J.quiet (Y.pickT rfl rfl) rfl<|J.quiet (Y.assign rfl) rfl<|J.done<|J.thenN ?_
   exact J.meetI (decide ((bAndNot .u32 r12 p2)=(0:Int))) (()) h SF (SubM.nil) (LentAll.refl _ _)
  ·have h:=ifBN hp11 h
   refine JR.guardN rfl rfl rfl rfl<|JR.guardN rfl rfl rfl rfl<|JR.guardN rfl rfl rfl rfl<|JR.guardN rfl rfl rfl rfl<|JR.tailD 9 rfl rfl<|J.guardN rfl rfl rfl<|J.guardN rfl rfl rfl<|J.quiet (Y.pickF rfl rfl) rfl<|J.quiet (Y.assign rfl) rfl<|J.done<|J.thenN ?_
   exact J.meetI (false) (()) h SF (SubM.nil) (LentAll.refl _ _)
 ·clear h
  intro a3 b4 h
  unfold ref44_Coloured_k1 at h
  refine J.ret ?_
  obtain rfl:=Option.some.inj h
  exact J.retG1 (()) rfl rfl (RV.tmp rfl) (SubM.refl _) LentAll.nil
end Go.Proofs.YtfimaabbclepbaaGreat
end
section
namespace Go.Proofs.YtfimaabbclepbaaGreat
open Go.Sx
def independent_True_k1  (a2:Int):Option (Int):=
 some (a2)
def independent_True_s1 (p0:List (List (Int))) (p1:Int) (a7:Int×Int) (ag6:(Int×Int)->Option (Int)):Option (Int):=
 if a7.2<(List.length p0:Int)then(ck (0<=a7.2∧a7.2<(List.length p0:Int)) (ck (0<=p1∧p1<(List.length (at' p0 a7.2):Int)) (ck (0<=a7.2) (ag6 ((bOr .u32 a7.1 (bShl .u32 (wI .u32 (at' (at' p0 a7.2) p1)) a7.2)),(wI .i64 (a7.2+(1:Int))))))))else(independent_True_k1  (a7.1))
def m_independent_True (fuel:Nat) (p0:List (List (Int))) (p1:Int):Option (Int):=
 iter (independent_True_s1 p0 p1) fuel ((0:Int),(0:Int))
theorem body27:HasBody Tryz.prog 27:=Tryz.call27
theorem t_independent_True (fuel:Nat) {p0:List (List (Int))} {p1:Int} (v0:Value)  (z1:List (Value×List (Int))) (r:Int) (h:m_independent_True fuel p0 p1=some r):
  Meets Tryz.prog 27 #[v0,Value.int .i64 (p1)] [S2 RI64 v0 z1 p0] (fun x:Unit=>Value.int .u32 (r)) (fun x l=>l) (fun _ l=>l):=by
 refine Meets.of (vs:=[v0,Value.int .i64 (p1)]) Tryz.func27 rfl Tryz.ntmps27 rfl fun c=> ?_
 unfold m_independent_True at h
 refine J.seq<|J.region<|J.quiet (Y.assign rfl) rfl<|J.done<|J.thenN<|J.seq<|J.region<|J.quiet (Y.assign rfl) rfl<|J.done<|J.thenN<|J.seq<|J.midI (A:=Int) (B:=Unit) (fun a2=>independent_True_k1  a2=some r) (fun a2 b3=>[(5,Value.int .u32 (a2))]) (fun a2 b3=>[]) (fun a2 b3=>[S2 RI64 v0 z1 p0]) ?_ ?_
 ·refine J.seq<|J.region<|J.quiet (Y.move rfl) rfl<|J.quiet (Y.lenN rfl (Lent.fact 0 rfl) rfl) rfl<|J.quiet (Y.move rfl) rfl<|J.done<|J.thenN<|J.block<|J.loopI (A:=Int×Int) (B:=Unit) (independent_True_s1 p0 p1) (fun a7 b8=>[(1,Value.int .i64 (p1)),(5,Value.int .u32 (a7.1)),(8,v0),(9,Value.int .i64 (List.length p0:Int)),(10,Value.int .i64 (a7.2))]) (fun a7 b8=>[]) (fun a7 b8=>[S2 RI64 v0 z1 p0]) ((0:Int),(0:Int)) (()) h SF (SubM.refl _) (LentAll.refl _ _) ?_
  clear h
  intro k9 a7 b8 h
  unfold independent_True_s1 at h
  refine J.seq<|J.region<|J.quiet (Y.lss rfl rfl) rfl<|J.done<|J.thenN<|J.seq ?_
  refine J.condD (by exact rfl) (fun hp10=> ?_) (fun hp10=> ?_)
  ·have h:=ifP hp10 h
   refine J.skip<|J.thenN<|J.seq<|J.block<|J.seq<|J.region<|J.quiet (Y.move rfl) rfl ?_
   have h:=ck_some h;obtain⟨hc11,h⟩:=h
   refine J.quiet (Y.indexN rfl rfl (Lent.fact 0 rfl) rfl rfl hc11) rfl<|J.quiet (Y.loadRow rfl (Lent.fact 0 rfl) rfl rfl hc11) rfl<|J.quiet (Y.assign rfl) rfl<|J.quiet (Y.assign rfl) rfl<|J.done<|J.thenN<|J.region<|J.quiet (Y.move rfl) rfl<|J.quiet (Y.move rfl) rfl<|J.quiet (Y.move rfl) rfl ?_
   have h:=ck_some h;obtain⟨hc12,h⟩:=h
   refine J.quiet (Y.indexS rfl rfl (Lent.el (Lent.fact 0 rfl) hc11.1 hc11.2) rfl rfl hc12) rfl<|J.quiet (Y.loadS0 rfl (Lent.el (Lent.fact 0 rfl) hc11.1 hc11.2) rfl rfl rfl RI64c0 hc12) rfl<|J.quiet (Y.conv rfl rfl rfl) rfl<|J.quiet (Y.move rfl) rfl ?_
   have h:=ck_some h;obtain⟨hc13,h⟩:=h
   refine J.quiet (Y.shl rfl rfl hc13) rfl<|J.quiet (Y.or rfl rfl) rfl<|J.quiet (Y.assign rfl) rfl<|J.done<|J.inN<|J.thenN<|J.region<|J.quiet (Y.addW rfl rfl) rfl<|J.quiet (Y.move rfl) rfl<|J.done<|J.thenN ?_
   exact J.againI ((bOr .u32 a7.1 (bShl .u32 (wI .u32 (at' (at' p0 a7.2) p1)) a7.2)),(wI .i64 (a7.2+(1:Int)))) (()) h SF (SubM.refl _) (LentAll.refl _ _)
  ·have h:=ifN hp10 h
   refine J.exit<|J.thenX<|J.thenX<|J.inX<|J.thenN ?_
   exact J.meetI (a7.1) (()) h SF (SubM.refl _) (LentAll.refl _ _)
 ·clear h
  intro a2 b3 h
  unfold independent_True_k1 at h
  refine J.seq<|J.region<|J.quiet (Y.move rfl) rfl<|J.quiet (Y.assign rfl) rfl<|J.done<|J.thenN<|J.ret ?_
  obtain rfl:=Option.some.inj h
  exact J.retG1 (()) rfl rfl (RV.tmp rfl) (SubM.refl _) LentAll.nil
end Go.Proofs.YtfimaabbclepbaaGreat
end
section
namespace Go.Proofs.YtfimaabbclepbaaGreat
open Go.Sx
def crash_Independent_k2 (fuel:Nat) (p0:List (Int)×(List (List (Int×Int)))) (p2:Int) (r7:Int) (a14:Int):Option (Bool):=
 Option.bind (m_graph_All fuel ((p0.1,p0.2))) fun r16=>(some (decide ((bAnd .u32 a14 (bAndNot .u32 r16 p2))=(bAndNot .u32 (bAndNot .u32 r16 p2) r7))))
def crash_Independent_k4 (a29:Int×Int) (ag28:(Int×Int)->Option (Bool)) (a34:Int):Option (Bool):=
 ag28 ((wI .i64 (a29.1+(1:Int))),a34)
def crash_Independent_k5 (a40:Int×Int) (ag39:(Int×Int)->Option (Bool)) (a45:Int):Option (Bool):=
 ag39 ((wI .i64 (a40.1+(1:Int))),a45)
def crash_Independent_s2 (p0:List (Int)×(List (List (Int×Int)))) (r7:Int) (a29:Int×Int) (ag28:(Int×Int)->Option (Bool)) (a40:Int×Int) (ag39:(Int×Int)->Option (Bool)):Option (Bool):=
 if a40.1<(List.length (at' p0.2 a29.1):Int)then(ck (0<=a40.1∧a40.1<(List.length (at' p0.2 a29.1):Int)) (ck (0<=((at' (at' p0.2 a29.1) a40.1).1)) (if(bAnd .u32 (bShr .u32 r7 ((at' (at' p0.2 a29.1) a40.1).1)) (1:Int))=(1:Int)then(ck (0<=a29.1) (crash_Independent_k5 a40 ag39 (bOr .u32 a40.2 (bShl .u32 (1:Int) a29.1))))else(crash_Independent_k5 a40 ag39 (a40.2)))))else(crash_Independent_k4 a29 ag28 (a40.2))
def crash_Independent_s1 (fuel:Nat) (p0:List (Int)×(List (List (Int×Int)))) (p2:Int) (r7:Int) (a29:Int×Int) (ag28:(Int×Int)->Option (Bool)):Option (Bool):=
 if a29.1<(List.length p0.2:Int)then(ck (0<=a29.1∧a29.1<(List.length p0.2:Int)) (iter (crash_Independent_s2 p0 r7 a29 ag28) fuel ((0:Int),a29.2)))else(crash_Independent_k2 fuel p0 p2 r7 (a29.2))
def crash_Independent_k3 (fuel:Nat) (p0:List (Int)×(List (List (Int×Int)))) (p2:Int) (r7:Int) (a20:Unit):Option (Bool):=
 iter (crash_Independent_s1 fuel p0 p2 r7) fuel ((0:Int),(0:Int))
def crash_Independent_k1 (fuel:Nat) (p0:List (Int)×(List (List (Int×Int)))) (p1:List (List (Int))) (p2:Int) (a4:Bool):Option (Bool):=
 if a4=true then(some (false))else(Option.bind (m_independent_True fuel p1 (0:Int)) fun r7=>(crash_Independent_k3 fuel p0 p2 r7 (())))
def m_crash_Independent (fuel:Nat) (p0:List (Int)×(List (List (Int×Int)))) (p1:List (List (Int))) (p2:Int):Option (Bool):=
 Option.bind (m_graph_Valid fuel ((p0.1,p0.2))) fun r54=>(if(!r54)=true then(crash_Independent_k1 fuel p0 p1 p2 (true))else(Option.bind (m_bfs_Configuration fuel ((p0.1,p0.2)) p1 ([(1:Int)])) fun r59=>(crash_Independent_k1 fuel p0 p1 p2 ((!r59)))))
theorem body8:HasBody Tryz.prog 8:=Tryz.call8
theorem t_crash_Independent (fuel:Nat) {p0:List (Int)×(List (List (Int×Int)))} {p1:List (List (Int))} {p2:Int} (v0:Value)  (v1:Value)  (z2:List (Value×List (Int×Int)))  (v3:Value)  (z4:List (Value×List (Int))) (r:Bool) (h:m_crash_Independent fuel p0 p1 p2=some r):
  Meets Tryz.prog 8 #[Value.agg #[v0,v1],v3,Value.int .u32 (p2)] [Sl RI64 v0 p0.1,S2 RI64I64p v1 z2 p0.2,S2 RI64 v3 z4 p1] (fun x:Unit=>Value.bool (r)) (fun x l=>l) (fun _ l=>l):=by
 refine Meets.of (vs:=[Value.agg #[v0,v1],v3,Value.int .u32 (p2)]) Tryz.func8 rfl Tryz.ntmps8 rfl fun c=> ?_
 unfold m_crash_Independent at h
 refine J.stp Stp.dfs0<|J.seq<|J.region<|J.loud (Loud.box (cs:=[v0,v1]) rfl rfl) rfl fun b2=>J.quiet (Y.assign rfl) rfl<|J.done<|J.thenN<|J.seq<|J.seq<|J.midN (A:=Bool) (B:=Unit) (fun a4 b5=>⟨49,marks ([]:List Nat)⟩) (fun a4=>crash_Independent_k1 fuel p0 p1 p2 a4=some r) (fun a4 b5=>[(1,v3),(2,Value.int .u32 (p2)),(3,Value.pointer (some ⟨b2,0,none⟩)),(6,Value.bool (false)),(21,Value.bool (a4))]) (fun a4 b5=>[Blk b2 [v0,v1] 25,Dfs ([]:List Nat)]) (fun a4 b5=>[Sl RI64 v0 p0.1,S2 RI64I64p v1 z2 p0.2,S2 RI64 v3 z4 p1]) ?_ ?_
 ·refine J.region<|J.quiet (Y.loadBAll 0 rfl rfl rfl rfl) rfl ?_
  have h:=bnd h;obtain⟨r54,hr55,h⟩:=h
  refine J.loud (Loud.callL body22 (t_graph_Valid fuel v0 v1 z2 r54 hr55) rfl (LentAll.cons (Lent.fact 0 rfl) (LentAll.cons (Lent.fact 1 rfl) .nil)) (fun _ _=>rfl)) rfl fun x56=>J.quiet (Y.not rfl) rfl<|J.quiet (Y.move rfl) rfl ?_
  refine J.guard (by exact rfl) (by exact rfl) (fun hp57=> ?_) (fun hp57=> ?_)
  ·have h:=ifP hp57 h
   refine J.guardN rfl rfl rfl<|J.guardN rfl rfl rfl<|J.guardN rfl rfl rfl<|J.guardN rfl rfl rfl<|J.guardN rfl rfl rfl<|J.quiet (Y.pickT rfl rfl) rfl<|J.done<|J.thenN ?_
   exact J.meetN (true) (()) rfl h SF (SubM.refl _) (LentAll.refl _ _)
  ·have h:=ifBN hp57 h
   refine J.guardY rfl (Y.loadBAll 0 rfl rfl rfl rfl) rfl<|J.guardY rfl (Y.move rfl) rfl<|J.loudG rfl (Loud.buildS (e:=EI64) ([(1:Int)]) [(0,Value.int .i64 (1:Int))] rfl rfl rfl rfl (fill_1_1 (Value.int .i64 (1:Int)) rfl) rfl rfl rfl) rfl fun u58=> ?_
   have h:=bnd h;obtain⟨r59,hr60,h⟩:=h
   refine J.loudG rfl (Loud.callL body23 (t_bfs_Configuration fuel v0 v1 z2 v3 z4 u58 r59 hr60) rfl (LentAll.cons (Lent.fact 0 rfl) (LentAll.cons (Lent.fact 1 rfl) (LentAll.cons (Lent.fact 2 rfl) (LentAll.cons (Lent.ar (Lent.res 0 rfl) FI64) .nil)))) (fun _ _=>rfl)) rfl fun x61=>J.guardY rfl (Y.not rfl) rfl<|J.quiet (Y.pickF rfl rfl) rfl<|J.done<|J.thenN ?_
   exact J.meetN ((!r59)) (()) rfl h SF (SubM.cons 1 rfl (SubM.cons 1 rfl (SubM.nil))) (LentAll.refl _ _)
 ·clear h
  intro a4 b5 h
  unfold crash_Independent_k1 at h
  refine J.cond (by exact rfl) (fun hp6=> ?_) (fun hp6=> ?_)
  ·have h:=ifP hp6 h
   refine J.seq<|J.region<|J.quiet (Y.assign rfl) rfl<|J.done<|J.thenN<|J.ret<|J.thenR<|J.unmarkAll (i:=1) (Ds:=([]:List Nat)) (.inl rfl) rfl ?_
   obtain rfl:=Option.some.inj h
   exact J.retG1 (()) rfl rfl (RV.tmp rfl) (SubM.nil) LentAll.nil
  ·have h:=ifBN hp6 h
   refine J.skip<|J.thenN<|J.seq<|J.region<|J.quiet (Y.move rfl) rfl ?_
   have h:=bnd h;obtain⟨r7,hr8,h⟩:=h
   refine J.loud (Loud.callL body27 (t_independent_True fuel v3 z4 r7 hr8) rfl (LentAll.cons (Lent.fact 2 rfl) .nil) (fun _ _=>rfl)) rfl fun x9=>J.loud (Loud.alloc (cs:=[Value.int .u32 (0:Int)]) rfl rfl) rfl fun b10=>J.store1 0 rfl rfl rfl rfl rfl rfl<|J.done<|J.thenN<|J.seq<|J.region<|J.loud (Loud.alloc (cs:=[Value.int .u32 (0:Int)]) rfl rfl) rfl fun b11=>J.store1 0 rfl rfl rfl rfl rfl rfl<|J.done<|J.thenN<|J.seq<|J.midN (A:=Int) (B:=List Nat) (fun a14 b15=>⟨49,marks b15⟩) (fun a14=>crash_Independent_k2 fuel p0 p2 r7 a14=some r) (fun a14 b15=>[(2,Value.int .u32 (p2)),(3,Value.pointer (some ⟨b2,0,none⟩)),(7,Value.pointer (some ⟨b10,0,none⟩)),(8,Value.pointer (some ⟨b11,0,none⟩))]) (fun a14 b15=>[Blk b11 [Value.int .u32 (a14)] 27,Blk b10 [Value.int .u32 (r7)] 27,Blk b2 [v0,v1] 25,Dfs b15]) (fun a14 b15=>[Sl RI64 v0 p0.1,S2 RI64I64p v1 z2 p0.2,S2 RI64 v3 z4 p1]) ?_ ?_
   ·refine J.seq<|J.region<|J.quiet (Y.loadBAll 2 rfl rfl rfl rfl) rfl<|J.inlC (A:=Unit) (B:=Nat) (vs:=[Value.agg #[v0,v1]]) (fun a20=>crash_Independent_k3 fuel p0 p2 r7 a20=some r) (fun a20 b21=>Value.func (.func 48) #[] #[Value.pointer (some ⟨b21,0,none⟩)]) (fun a20 b21=>[Blk b21 [v0,v1] 25,Blk b11 [Value.int .u32 (0:Int)] 27,Blk b10 [Value.int .u32 (r7)] 27,Blk b2 [v0,v1] 25,Dfs ([]:List Nat)]) (fun a20 b21=>[Sl RI64 v0 p0.1,S2 RI64I64p v1 z2 p0.2,S2 RI64 v3 z4 p1]) (Enter.fn (show HasBody Tryz.prog 24 from Tryz.call24) rfl) Tryz.func24 rfl Tryz.ntmps24 rfl rfl ?_ ?_
    ·refine J.seq<|J.region<|J.loud (Loud.box (cs:=[v0,v1]) rfl rfl) rfl fun b53=>J.quiet (Y.assign rfl) rfl<|J.done<|J.thenN<|J.seq<|J.region<|J.quiet (Y.makeFunc (cs:=[.tmp 1]) (vs:=[Value.pointer (some ⟨b53,0,none⟩)]) rfl) rfl<|J.quiet (Y.assign rfl) rfl<|J.done<|J.thenN<|J.ret ?_
     exact J.retM (()) (b53) h (.inl rfl) (Res.r1 rfl (RV.tmp rfl)) rfl (SubM.refl _) (LentAll.refl _ _)
    ·clear h
     intro a20 b21 h
     unfold crash_Independent_k3 at h
     refine J.done<|J.thenN<|J.block<|J.rangeFuncD (i:=4) (cs:=[Value.pointer (some ⟨b21,0,none⟩)]) ([]:List Nat) rfl (show HasBody Tryz.prog 48 from Tryz.call48) rfl Tryz.func48 rfl Tryz.ntmps48 rfl fun l22 D23 R24 hR25=>J.seq<|J.region<|J.quiet (Y.fieldB rfl rfl rfl rfl rfl) rfl<|J.quiet (Y.loadB 1 rfl rfl rfl rfl rfl) rfl<|J.quiet (Y.lenN rfl (Lent.fact 1 rfl) rfl) rfl<|J.quiet (Y.move rfl) rfl<|J.done<|J.thenN<|J.block<|J.loopI (A:=Int×Int) (B:=Unit) (crash_Independent_s1 fuel p0 p2 r7) (fun a29 b30=>[(0,yieldV l22),(8,v1),(9,Value.int .i64 (List.length p0.2:Int)),(10,Value.int .i64 (a29.1))]) (fun a29 b30=>[Lp l22 R24 LoopState.ready none,Blk b21 [v0,v1] 25,Blk b11 [Value.int .u32 (a29.2)] 27,Blk b10 [Value.int .u32 (r7)] 27,Blk b2 [v0,v1] 25,Dfs (List.cons D23 ([]:List Nat))]) (fun a29 b30=>[Sl RI64 v0 p0.1,S2 RI64I64p v1 z2 p0.2,S2 RI64 v3 z4 p1]) ((0:Int),(0:Int)) (()) h SF (SubM.refl _) (LentAll.refl _ _) ?_
     clear h
     intro k31 a29 b30 h
     unfold crash_Independent_s1 at h
     refine J.seq<|J.region<|J.quiet (Y.lss rfl rfl) rfl<|J.done<|J.thenN<|J.seq ?_
     refine J.condD (by exact rfl) (fun hp32=> ?_) (fun hp32=> ?_)
     ·have h:=ifP hp32 h
      refine J.skip<|J.thenN<|J.seq<|J.midI (A:=Int) (B:=Unit) (fun a34=>crash_Independent_k4 a29 (iter (crash_Independent_s1 fuel p0 p2 r7) k31) a34=some r) (fun a34 b35=>[(0,yieldV l22),(8,v1),(9,Value.int .i64 (List.length p0.2:Int)),(10,Value.int .i64 (a29.1))]) (fun a34 b35=>[Lp l22 R24 LoopState.ready none,Blk b21 [v0,v1] 25,Blk b11 [Value.int .u32 (a34)] 27,Blk b10 [Value.int .u32 (r7)] 27,Blk b2 [v0,v1] 25,Dfs (List.cons D23 ([]:List Nat))]) (fun a34 b35=>[Sl RI64 v0 p0.1,S2 RI64I64p v1 z2 p0.2,S2 RI64 v3 z4 p1]) ?_ ?_
      ·refine J.block<|J.seq<|J.region<|J.quiet (Y.move rfl) rfl ?_
       have h:=ck_some h;obtain⟨hc36,h⟩:=h
       refine J.quiet (Y.indexN rfl rfl (Lent.fact 1 rfl) rfl rfl hc36) rfl<|J.quiet (Y.loadRow rfl (Lent.fact 1 rfl) rfl rfl hc36) rfl<|J.quiet (Y.assign rfl) rfl<|J.quiet (Y.assign rfl) rfl<|J.done<|J.thenN<|J.seq<|J.region<|J.quiet (Y.move rfl) rfl<|J.quiet (Y.lenS rfl (Lent.el (Lent.fact 1 rfl) hc36.1 hc36.2) rfl) rfl<|J.quiet (Y.move rfl) rfl<|J.done<|J.thenN<|J.block<|J.loopI (A:=Int×Int) (B:=Unit) (crash_Independent_s2 p0 r7 a29 (iter (crash_Independent_s1 fuel p0 p2 r7) k31)) (fun a40 b41=>[(0,yieldV l22),(3,Value.int .i64 (a29.1)),(8,v1),(9,Value.int .i64 (List.length p0.2:Int)),(10,Value.int .i64 (a29.1)),(15,(at' z2 a29.1).1),(16,Value.int .i64 (List.length (at' p0.2 a29.1):Int)),(17,Value.int .i64 (a40.1))]) (fun a40 b41=>[Lp l22 R24 LoopState.ready none,Blk b21 [v0,v1] 25,Blk b11 [Value.int .u32 (a40.2)] 27,Blk b10 [Value.int .u32 (r7)] 27,Blk b2 [v0,v1] 25,Dfs (List.cons D23 ([]:List Nat))]) (fun a40 b41=>[Sl RI64 v0 p0.1,S2 RI64I64p v1 z2 p0.2,S2 RI64 v3 z4 p1]) ((0:Int),a29.2) (()) h SF (SubM.refl _) (LentAll.refl _ _) ?_
       clear h
       intro k42 a40 b41 h
       unfold crash_Independent_s2 at h
       refine J.seq<|J.region<|J.quiet (Y.lss rfl rfl) rfl<|J.done<|J.thenN<|J.seq ?_
       refine J.condD (by exact rfl) (fun hp43=> ?_) (fun hp43=> ?_)
       ·have h:=ifP hp43 h
        refine J.skip<|J.thenN<|J.seq<|J.midI (A:=Int) (B:=Unit) (fun a45=>crash_Independent_k5 a40 (iter (crash_Independent_s2 p0 r7 a29 (iter (crash_Independent_s1 fuel p0 p2 r7) k31)) k42) a45=some r) (fun a45 b46=>[(0,yieldV l22),(3,Value.int .i64 (a29.1)),(8,v1),(9,Value.int .i64 (List.length p0.2:Int)),(10,Value.int .i64 (a29.1)),(15,(at' z2 a29.1).1),(16,Value.int .i64 (List.length (at' p0.2 a29.1):Int)),(17,Value.int .i64 (a40.1))]) (fun a45 b46=>[Lp l22 R24 LoopState.ready none,Blk b21 [v0,v1] 25,Blk b11 [Value.int .u32 (a45)] 27,Blk b10 [Value.int .u32 (r7)] 27,Blk b2 [v0,v1] 25,Dfs (List.cons D23 ([]:List Nat))]) (fun a45 b46=>[Sl RI64 v0 p0.1,S2 RI64I64p v1 z2 p0.2,S2 RI64 v3 z4 p1]) ?_ ?_
        ·refine J.block<|J.seq<|J.region ?_
         have h:=ck_some h;obtain⟨hc47,h⟩:=h
         refine J.quiet (Y.indexS rfl rfl (Lent.el (Lent.fact 1 rfl) hc36.1 hc36.2) rfl rfl hc47) rfl<|J.quiet (Y.loadAggS (cs:=[Value.int .i64 ((at' (at' p0.2 a29.1) a40.1).1),Value.int .i64 ((at' (at' p0.2 a29.1) a40.1).2)]) rfl (Lent.el (Lent.fact 1 rfl) hc36.1 hc36.2) FI64I64p rfl rfl rfl rfl hc47) rfl<|J.loud (Loud.alloc (cs:=[Value.int .i64 (0:Int),Value.int .i64 (0:Int)]) rfl rfl) rfl fun b48=>J.storeAll 0 (vs:=[Value.int .i64 ((at' (at' p0.2 a29.1) a40.1).1),Value.int .i64 ((at' (at' p0.2 a29.1) a40.1).2)]) rfl rfl rfl rfl rfl rfl<|J.done<|J.thenN<|J.seq<|J.region<|J.quiet (Y.move rfl) rfl<|J.quiet (Y.move rfl) rfl<|J.quiet (Y.loadBAll 0 rfl rfl rfl rfl) rfl<|J.yieldR (us:=[Value.int .i64 (a29.1),Value.agg #[Value.int .i64 ((at' (at' p0.2 a29.1) a40.1).1),Value.int .i64 ((at' (at' p0.2 a29.1) a40.1).2)]]) (i:=1) hR25 rfl rfl rfl rfl rfl rfl<|J.seq<|J.region<|J.quiet (Y.assign rfl) rfl<|J.done<|J.thenN<|J.region<|J.loud (Loud.alloc (cs:=[Value.int .i64 (0:Int),Value.int .i64 (0:Int)]) rfl rfl) rfl fun b49=>J.storeAll 0 (vs:=[Value.int .i64 ((at' (at' p0.2 a29.1) a40.1).1),Value.int .i64 ((at' (at' p0.2 a29.1) a40.1).2)]) rfl rfl rfl rfl rfl rfl<|J.done<|J.thenN<|J.begin (i:=2) rfl<|J.block<|J.seq<|J.region<|J.quiet (Y.loadB 5 rfl rfl rfl rfl rfl) rfl<|J.quiet (Y.fieldB rfl rfl rfl rfl rfl) rfl<|J.quiet (Y.loadB 0 rfl rfl rfl rfl rfl) rfl ?_
         have h:=ck_some h;obtain⟨hc50,h⟩:=h
         refine J.quiet (Y.shr rfl rfl hc50) rfl<|J.quiet (Y.and rfl rfl) rfl<|J.quiet (Y.eql rfl rfl) rfl<|J.done<|J.thenN ?_
         refine J.condD (by exact rfl) (fun hp51=> ?_) (fun hp51=> ?_)
         ·have h:=ifP hp51 h
          refine JR.start [0,0,2,7,15] 3 mixedOrders (by decide +kernel) ?_
          refine JR.open (by exact rfl) ?_
          refine JR.qt rfl (SubM.cons 4 rfl (SubM.nil)) (SubL.nil) (Y.loadB 0 rfl rfl rfl rfl rfl) HistOk.z<|JR.qt rfl (SubM.nil) (SubL.nil) (Y.move rfl) HistOk.z ?_
          have h:=ck_some h;obtain⟨hc52,h⟩:=h
          refine JR.qt rfl (SubM.nil) (SubL.nil) (Y.shl rfl rfl hc52) HistOk.z<|JR.tailD 3 rfl rfl<|J.quiet (Y.or rfl rfl) rfl<|J.store1 4 rfl rfl rfl rfl rfl rfl<|J.done<|J.inN<|J.roundN (i:=2) rfl<|J.quiet (Y.not rfl) rfl<|J.done<|J.thenN<|J.condF rfl<|J.skip<|J.inN<|J.thenN ?_
          exact J.meetI (bOr .u32 a40.2 (bShl .u32 (1:Int) a29.1)) (()) h SF (SubM.cons 2 rfl (SubM.cons 2 rfl (SubM.cons 2 rfl (SubM.cons 2 rfl (SubM.cons 2 rfl (SubM.cons 2 rfl (SubM.nil))))))) (LentAll.refl _ _)
         ·have h:=ifN hp51 h
          refine J.skip<|J.inN<|J.roundN (i:=2) rfl<|J.quiet (Y.not rfl) rfl<|J.done<|J.thenN<|J.condF rfl<|J.skip<|J.inN<|J.thenN ?_
          exact J.meetI (a40.2) (()) h SF (SubM.cons 2 rfl (SubM.cons 2 rfl (SubM.cons 2 rfl (SubM.cons 2 rfl (SubM.cons 2 rfl (SubM.cons 2 rfl (SubM.nil))))))) (LentAll.refl _ _)
        ·clear h
         intro a45 b46 h
         unfold crash_Independent_k5 at h
         refine J.region<|J.quiet (Y.addW rfl rfl) rfl<|J.quiet (Y.move rfl) rfl<|J.done<|J.thenN ?_
         exact J.againI ((wI .i64 (a40.1+(1:Int))),a45) (()) h SF (SubM.refl _) (LentAll.refl _ _)
       ·have h:=ifN hp43 h
        refine J.exit<|J.thenX<|J.thenX<|J.inX<|J.inN<|J.thenN ?_
        exact J.meetI (a40.2) (()) h SF (SubM.refl _) (LentAll.refl _ _)
      ·clear h
       intro a34 b35 h
       unfold crash_Independent_k4 at h
       refine J.region<|J.quiet (Y.addW rfl rfl) rfl<|J.quiet (Y.move rfl) rfl<|J.done<|J.thenN ?_
       exact J.againI ((wI .i64 (a29.1+(1:Int))),a34) (()) h SF (SubM.refl _) (LentAll.refl _ _)
     ·have h:=ifN hp32 h
      refine J.exit<|J.thenX<|J.thenX<|J.inX<|J.retF (i:=0) (.inr rfl) rfl (Res.r0 rfl)<|J.inN<|J.thenN ?_
      exact J.meetN (a29.2) (List.cons D23 ([]:List Nat)) rfl h SF (SubM.cons 2 rfl (SubM.cons 2 rfl (SubM.cons 2 rfl (SubM.cons 2 rfl (SubM.nil))))) (LentAll.refl _ _)
   ·clear h
    intro a14 b15 h
    unfold crash_Independent_k2 at h
    refine J.seq<|J.region<|J.quiet (Y.loadBAll 2 rfl rfl rfl rfl) rfl ?_
    have h:=bnd h;obtain⟨r16,hr17,h⟩:=h
    refine J.loud (Loud.callL body28 (t_graph_All fuel v0 v1 z2 r16 hr17) rfl (LentAll.cons (Lent.fact 0 rfl) (LentAll.cons (Lent.fact 1 rfl) .nil)) (fun _ _=>rfl)) rfl fun x18=>J.quiet (Y.move rfl) rfl<|J.quiet (Y.andNot rfl rfl) rfl<|J.quiet (Y.assign rfl) rfl<|J.done<|J.thenN<|J.seq<|J.region<|J.quiet (Y.loadB 0 rfl rfl rfl rfl rfl) rfl<|J.quiet (Y.move rfl) rfl<|J.quiet (Y.and rfl rfl) rfl<|J.quiet (Y.move rfl) rfl<|J.quiet (Y.loadB 1 rfl rfl rfl rfl rfl) rfl<|J.quiet (Y.andNot rfl rfl) rfl<|J.quiet (Y.eql rfl rfl) rfl<|J.quiet (Y.assign rfl) rfl<|J.done<|J.thenN<|J.ret<|J.unmarkAll (i:=3) (Ds:=(b15)) (.inl rfl) rfl ?_
    obtain rfl:=Option.some.inj h
    exact J.retG1 (()) rfl rfl (RV.tmp rfl) (SubM.nil) LentAll.nil
end Go.Proofs.YtfimaabbclepbaaGreat
end
section
namespace Go.Proofs.YtfimaabbclepbaaGreat
open Go.Sx
def m_ref23_Truth (fuel:Nat) (p0:ByteArray):Option ((ByteArray×Int×Int×Int×Int×Int)):=
 some ((p0,(2:Int),(0:Int),(0:Int),(0:Int),(0:Int)))
theorem body41:HasBody Tryz.prog 41:=Tryz.call41
theorem t_ref23_Truth (fuel:Nat) {p0:ByteArray} (r:(ByteArray×Int×Int×Int×Int×Int)) (h:m_ref23_Truth fuel p0=some r):
  Meets Tryz.prog 41 #[Value.string (p0)] [] (fun x:Unit=>Value.agg #[Value.string (r.1),Value.int .i64 (r.2.1),Value.int .i64 (r.2.2.1),Value.int .i64 (r.2.2.2.1),Value.int .i64 (r.2.2.2.2.1),Value.int .i64 (r.2.2.2.2.2)]) (fun x l=>l) (fun _ l=>l):=by
 refine Meets.of (vs:=[Value.string (p0)]) Tryz.func41 rfl Tryz.ntmps41 rfl fun c=> ?_
 unfold m_ref23_Truth at h
 refine J.seq<|J.region<|J.loud (Loud.alloc (cs:=[Value.string (ByteArray.mk #[]),Value.int .i64 (0:Int),Value.int .i64 (0:Int),Value.int .i64 (0:Int),Value.int .i64 (0:Int),Value.int .i64 (0:Int)]) rfl rfl) rfl fun b1=>J.done<|J.thenN<|J.seq<|J.region<|J.quiet (Y.move rfl) rfl ?_
 refine J.quiet (Y.bld2 (r:=Value.agg #[Value.string (p0),Value.int .i64 (2:Int),Value.int .i64 (0:Int),Value.int .i64 (0:Int),Value.int .i64 (0:Int),Value.int .i64 (0:Int)]) rfl rfl (by intro w;simp[Instr.build,Instr.fill,cells_intV,cells_boolV,cells_sliceV,cells_ptrV,cells_strV,cells_funcV,cells_agg])) rfl ?_
 refine J.storeAll 0 (vs:=[Value.string (p0),Value.int .i64 (2:Int),Value.int .i64 (0:Int),Value.int .i64 (0:Int),Value.int .i64 (0:Int),Value.int .i64 (0:Int)]) rfl rfl rfl rfl rfl rfl<|J.done<|J.thenN<|J.ret ?_
 obtain rfl:=Option.some.inj h
 exact J.retG1 (()) rfl rfl (RV.cell 0 rfl rfl rfl rfl) (SubM.nil) LentAll.nil
end Go.Proofs.YtfimaabbclepbaaGreat
end
section
namespace Go.Proofs.YtfimaabbclepbaaGreat
open Go.Sx
def m_ref31_Vars (fuel:Nat)  : Option ((List (ByteArray×Int×Int×Int×Int×Int))):=
 Option.bind (m_ref23_Truth fuel (ByteArray.mk #[109])) fun r1=>(some ([(r1.1,r1.2.1,r1.2.2.1,r1.2.2.2.1,r1.2.2.2.2.1,r1.2.2.2.2.2)]))
theorem body16:HasBody Tryz.prog 16:=Tryz.call16
theorem t_ref31_Vars (fuel:Nat)  (r:(List (ByteArray×Int×Int×Int×Int×Int))) (h:m_ref31_Vars fuel  = some r):
  Meets Tryz.prog 16 #[] [] (fun x:Value=>x) (fun x l=>Ar EStI64I64I64I64I64p x r::l) (fun _ l=>l):=by
 refine Meets.of (vs:=[]) Tryz.func16 rfl Tryz.ntmps16 rfl fun c=> ?_
 unfold m_ref31_Vars at h
 refine J.seq<|J.region<|J.quiet (Y.assign rfl) rfl<|J.done<|J.thenN<|J.seq<|J.region ?_
 have h:=bnd h;obtain⟨r1,hr2,h⟩:=h
 refine J.loud (Loud.callL body41 (t_ref23_Truth fuel  r1 hr2) rfl .nil (fun _ _=>rfl)) rfl fun x3=>J.loud (Loud.buildS (e:=EStI64I64I64I64I64p) ([((r1.1,r1.2.1,r1.2.2.1,r1.2.2.2.1,r1.2.2.2.2.1,r1.2.2.2.2.2))]) [(0,Value.agg #[Value.string (r1.1),Value.int .i64 (r1.2.1),Value.int .i64 (r1.2.2.1),Value.int .i64 (r1.2.2.2.1),Value.int .i64 (r1.2.2.2.2.1),Value.int .i64 (r1.2.2.2.2.2)])] rfl rfl rfl rfl (fill_1_6 (Value.string (r1.1)) (Value.int .i64 (r1.2.1)) (Value.int .i64 (r1.2.2.1)) (Value.int .i64 (r1.2.2.2.1)) (Value.int .i64 (r1.2.2.2.2.1)) (Value.int .i64 (r1.2.2.2.2.2))) rfl rfl rfl) rfl fun u4=>J.quiet (Y.assign rfl) rfl<|J.done<|J.thenN<|J.ret ?_
 obtain rfl:=Option.some.inj h
 exact J.retG1 (u4) rfl rfl (RV.tmp rfl) (SubM.refl _) LentAll.nil
end Go.Proofs.YtfimaabbclepbaaGreat
end
section
namespace Go.Proofs.YtfimaabbclepbaaGreat
open Go.Sx
def ref31_Ones_k1  (a2:Int):Option (Int):=
 some (a2)
def ref31_Ones_k2 (a7:Int×Int) (ag6:(Int×Int)->Option (Int)) (a12:Int):Option (Int):=
 ag6 (a12,(wI .i64 (a7.2+(1:Int))))
def ref31_Ones_s1 (p0:List (List (Int))) (p1:Int) (a7:Int×Int) (ag6:(Int×Int)->Option (Int)):Option (Int):=
 if a7.2<(List.length p0:Int)then(ck (0<=a7.2∧a7.2<(List.length p0:Int)) (ck (0<=p1∧p1<(List.length (at' p0 a7.2):Int)) (if(at' (at' p0 a7.2) p1)=(1:Int)then(ck (0<=(wI .u64 a7.2)) (ref31_Ones_k2 a7 ag6 (bOr .u32 a7.1 (bShl .u32 (1:Int) (wI .u64 a7.2)))))else(ref31_Ones_k2 a7 ag6 (a7.1)))))else(ref31_Ones_k1  (a7.1))
def m_ref31_Ones (fuel:Nat) (p0:List (List (Int))) (p1:Int):Option (Int):=
 iter (ref31_Ones_s1 p0 p1) fuel ((0:Int),(0:Int))
theorem body29:HasBody Tryz.prog 29:=Tryz.call29
theorem t_ref31_Ones (fuel:Nat) {p0:List (List (Int))} {p1:Int} (v0:Value)  (z1:List (Value×List (Int))) (r:Int) (h:m_ref31_Ones fuel p0 p1=some r):
  Meets Tryz.prog 29 #[v0,Value.int .i64 (p1)] [S2 RI64 v0 z1 p0] (fun x:Unit=>Value.int .u32 (r)) (fun x l=>l) (fun _ l=>l):=by
 refine Meets.of (vs:=[v0,Value.int .i64 (p1)]) Tryz.func29 rfl Tryz.ntmps29 rfl fun c=> ?_
 unfold m_ref31_Ones at h
 refine J.seq<|J.region<|J.quiet (Y.assign rfl) rfl<|J.done<|J.thenN<|J.seq<|J.region<|J.quiet (Y.assign rfl) rfl<|J.done<|J.thenN<|J.seq<|J.midI (A:=Int) (B:=Unit) (fun a2=>ref31_Ones_k1  a2=some r) (fun a2 b3=>[(5,Value.int .u32 (a2))]) (fun a2 b3=>[]) (fun a2 b3=>[S2 RI64 v0 z1 p0]) ?_ ?_
 ·refine J.seq<|J.region<|J.quiet (Y.assign rfl) rfl<|J.done<|J.thenN<|J.block<|J.loopI (A:=Int×Int) (B:=Unit) (ref31_Ones_s1 p0 p1) (fun a7 b8=>[(0,v0),(1,Value.int .i64 (p1)),(5,Value.int .u32 (a7.1)),(6,Value.int .i64 (a7.2))]) (fun a7 b8=>[]) (fun a7 b8=>[S2 RI64 v0 z1 p0]) ((0:Int),(0:Int)) (()) h SF (SubM.refl _) (LentAll.refl _ _) ?_
  clear h
  intro k9 a7 b8 h
  unfold ref31_Ones_s1 at h
  refine J.seq<|J.seq<|J.region<|J.quiet (Y.move rfl) rfl<|J.quiet (Y.move rfl) rfl<|J.quiet (Y.lenN rfl (Lent.fact 0 rfl) rfl) rfl<|J.quiet (Y.lss rfl rfl) rfl<|J.done<|J.thenN ?_
  refine J.condD (by exact rfl) (fun hp10=> ?_) (fun hp10=> ?_)
  ·have h:=ifP hp10 h
   refine J.skip<|J.thenN<|J.seq<|J.midI (A:=Int) (B:=Unit) (fun a12=>ref31_Ones_k2 a7 (iter (ref31_Ones_s1 p0 p1) k9) a12=some r) (fun a12 b13=>[(0,v0),(1,Value.int .i64 (p1)),(5,Value.int .u32 (a12)),(6,Value.int .i64 (a7.2))]) (fun a12 b13=>[]) (fun a12 b13=>[S2 RI64 v0 z1 p0]) ?_ ?_
   ·refine J.block<|J.seq<|J.region<|J.quiet (Y.move rfl) rfl<|J.quiet (Y.move rfl) rfl ?_
    have h:=ck_some h;obtain⟨hc14,h⟩:=h
    refine J.quiet (Y.indexN rfl rfl (Lent.fact 0 rfl) rfl rfl hc14) rfl<|J.quiet (Y.loadRow rfl (Lent.fact 0 rfl) rfl rfl hc14) rfl<|J.quiet (Y.move rfl) rfl ?_
    have h:=ck_some h;obtain⟨hc15,h⟩:=h
    refine J.quiet (Y.indexS rfl rfl (Lent.el (Lent.fact 0 rfl) hc14.1 hc14.2) rfl rfl hc15) rfl<|J.quiet (Y.loadS0 rfl (Lent.el (Lent.fact 0 rfl) hc14.1 hc14.2) rfl rfl rfl RI64c0 hc15) rfl<|J.quiet (Y.eql rfl rfl) rfl<|J.done<|J.thenN ?_
    refine J.condD (by exact rfl) (fun hp16=> ?_) (fun hp16=> ?_)
    ·have h:=ifP hp16 h
     refine J.region<|J.quiet (Y.move rfl) rfl<|J.quiet (Y.move rfl) rfl<|J.quiet (Y.conv rfl rfl rfl) rfl ?_
     have h:=ck_some h;obtain⟨hc17,h⟩:=h
     refine J.quiet (Y.shl rfl rfl hc17) rfl<|J.quiet (Y.or rfl rfl) rfl<|J.quiet (Y.assign rfl) rfl<|J.done<|J.inN<|J.thenN ?_
     exact J.meetI (bOr .u32 a7.1 (bShl .u32 (1:Int) (wI .u64 a7.2))) (()) h SF (SubM.refl _) (LentAll.refl _ _)
    ·have h:=ifN hp16 h
     refine J.skip<|J.inN<|J.thenN ?_
     exact J.meetI (a7.1) (()) h SF (SubM.refl _) (LentAll.refl _ _)
   ·clear h
    intro a12 b13 h
    unfold ref31_Ones_k2 at h
    refine J.region<|J.quiet (Y.move rfl) rfl<|J.quiet (Y.addW rfl rfl) rfl<|J.quiet (Y.assign rfl) rfl<|J.done<|J.thenN ?_
    exact J.againI (a12,(wI .i64 (a7.2+(1:Int)))) (()) h SF (SubM.refl _) (LentAll.refl _ _)
  ·have h:=ifN hp10 h
   refine J.exit<|J.thenX<|J.thenX<|J.inX<|J.thenN ?_
   exact J.meetI (a7.1) (()) h SF (SubM.refl _) (LentAll.refl _ _)
 ·clear h
  intro a2 b3 h
  unfold ref31_Ones_k1 at h
  refine J.seq<|J.region<|J.quiet (Y.move rfl) rfl<|J.quiet (Y.assign rfl) rfl<|J.done<|J.thenN<|J.ret ?_
  obtain rfl:=Option.some.inj h
  exact J.retG1 (()) rfl rfl (RV.tmp rfl) (SubM.refl _) LentAll.nil
end Go.Proofs.YtfimaabbclepbaaGreat
end
section
namespace Go.Proofs.YtfimaabbclepbaaGreat
open Go.Sx
def ref01_Neighbours_k1  (a7:Int):Option (Int):=
 some (a7)
def ref01_Neighbours_k2 (a12:Int×Int) (ag11:(Int×Int)->Option (Int)) (a17:Int):Option (Int):=
 ag11 (a17,(wI .i64 (a12.2+(1:Int))))
def ref01_Neighbours_k3 (a22:Int×Int) (ag21:(Int×Int)->Option (Int)) (a28:Int):Option (Int):=
 ag21 (a28,(wI .i64 (a22.2+(1:Int))))
def ref01_Neighbours_s2 (fuel:Nat) (p0:List (Int)×(List (List (Int×Int)))) (p1:Int) (a12:Int×Int) (ag11:(Int×Int)->Option (Int)) (a22:Int×Int) (ag21:(Int×Int)->Option (Int)):Option (Int):=
 ck (0<=a12.2∧a12.2<(List.length p0.2:Int)) (if a22.2<(List.length (at' p0.2 a12.2):Int)then(ck (0<=a12.2∧a12.2<(List.length p0.2:Int)) (ck (0<=a22.2∧a22.2<(List.length (at' p0.2 a12.2):Int)) (Option.bind (m_ref01_Has fuel p1 ((at' (at' p0.2 a12.2) a22.2).1)) fun r32=>(if r32=true then(ck (0<=(wI .u64 a12.2)) (ref01_Neighbours_k3 a22 ag21 (bOr .u32 a22.1 (bShl .u32 (1:Int) (wI .u64 a12.2)))))else(ref01_Neighbours_k3 a22 ag21 (a22.1))))))else(ref01_Neighbours_k2 a12 ag11 (a22.1)))
def ref01_Neighbours_s1 (fuel:Nat) (p0:List (Int)×(List (List (Int×Int)))) (p1:Int) (a12:Int×Int) (ag11:(Int×Int)->Option (Int)):Option (Int):=
 if a12.2<(List.length p0.2:Int)then(iter (ref01_Neighbours_s2 fuel p0 p1 a12 ag11) fuel (a12.1,(0:Int)))else(ref01_Neighbours_k1  (a12.1))
def m_ref01_Neighbours (fuel:Nat) (p0:List (Int)×(List (List (Int×Int)))) (p1:Int):Option (Int):=
 Option.bind (m_ref01_Valid fuel ((p0.1,p0.2))) fun r2=>(if(!r2)=true then(some (0:Int))else(iter (ref01_Neighbours_s1 fuel p0 p1) fuel ((0:Int),(0:Int))))
theorem body30:HasBody Tryz.prog 30:=Tryz.call30
theorem t_ref01_Neighbours (fuel:Nat) {p0:List (Int)×(List (List (Int×Int)))} {p1:Int} (v0:Value)  (v1:Value)  (z2:List (Value×List (Int×Int))) (r:Int) (h:m_ref01_Neighbours fuel p0 p1=some r):
  Meets Tryz.prog 30 #[Value.agg #[v0,v1],Value.int .u32 (p1)] [Sl RI64 v0 p0.1,S2 RI64I64p v1 z2 p0.2] (fun x:Unit=>Value.int .u32 (r)) (fun x l=>l) (fun _ l=>l):=by
 refine Meets.of (vs:=[Value.agg #[v0,v1],Value.int .u32 (p1)]) Tryz.func30 rfl Tryz.ntmps30 rfl fun c=> ?_
 unfold m_ref01_Neighbours at h
 refine J.seq<|J.region<|J.loud (Loud.box (cs:=[v0,v1]) rfl rfl) rfl fun b1=>J.quiet (Y.assign rfl) rfl<|J.done<|J.thenN<|J.seq<|J.seq<|J.region<|J.quiet (Y.loadBAll 0 rfl rfl rfl rfl) rfl ?_
 have h:=bnd h;obtain⟨r2,hr3,h⟩:=h
 refine J.loud (Loud.callL body49 (t_ref01_Valid fuel v0 v1 z2 r2 hr3) rfl (LentAll.cons (Lent.fact 0 rfl) (LentAll.cons (Lent.fact 1 rfl) .nil)) (fun _ _=>rfl)) rfl fun x4=>J.quiet (Y.not rfl) rfl<|J.done<|J.thenN ?_
 refine J.cond (by exact rfl) (fun hp5=> ?_) (fun hp5=> ?_)
 ·have h:=ifP hp5 h
  refine J.seq<|J.region<|J.quiet (Y.assign rfl) rfl<|J.done<|J.thenN<|J.ret<|J.thenR ?_
  obtain rfl:=Option.some.inj h
  exact J.retG1 (()) rfl rfl (RV.tmp rfl) (SubM.nil) LentAll.nil
 ·have h:=ifBN hp5 h
  refine J.skip<|J.thenN<|J.seq<|J.region<|J.quiet (Y.assign rfl) rfl<|J.done<|J.thenN<|J.seq<|J.midI (A:=Int) (B:=Unit) (fun a7=>ref01_Neighbours_k1  a7=some r) (fun a7 b8=>[(5,Value.int .u32 (a7))]) (fun a7 b8=>[]) (fun a7 b8=>[Sl RI64 v0 p0.1,S2 RI64I64p v1 z2 p0.2]) ?_ ?_
  ·refine J.seq<|J.region<|J.quiet (Y.assign rfl) rfl<|J.done<|J.thenN<|J.block<|J.loopI (A:=Int×Int) (B:=Unit) (ref01_Neighbours_s1 fuel p0 p1) (fun a12 b13=>[(1,Value.int .u32 (p1)),(2,Value.pointer (some ⟨b1,0,none⟩)),(5,Value.int .u32 (a12.1)),(6,Value.int .i64 (a12.2))]) (fun a12 b13=>[Blk b1 [v0,v1] 25]) (fun a12 b13=>[Sl RI64 v0 p0.1,S2 RI64I64p v1 z2 p0.2]) ((0:Int),(0:Int)) (()) h SF (SubM.refl _) (LentAll.refl _ _) ?_
   clear h
   intro k14 a12 b13 h
   unfold ref01_Neighbours_s1 at h
   refine J.seq<|J.seq<|J.region<|J.quiet (Y.move rfl) rfl<|J.quiet (Y.fieldB rfl rfl rfl rfl rfl) rfl<|J.quiet (Y.loadB 0 rfl rfl rfl rfl rfl) rfl<|J.quiet (Y.lenN rfl (Lent.fact 1 rfl) rfl) rfl<|J.quiet (Y.lss rfl rfl) rfl<|J.done<|J.thenN ?_
   refine J.condD (by exact rfl) (fun hp15=> ?_) (fun hp15=> ?_)
   ·have h:=ifP hp15 h
    refine J.skip<|J.thenN<|J.seq<|J.midI (A:=Int) (B:=Unit) (fun a17=>ref01_Neighbours_k2 a12 (iter (ref01_Neighbours_s1 fuel p0 p1) k14) a17=some r) (fun a17 b18=>[(1,Value.int .u32 (p1)),(2,Value.pointer (some ⟨b1,0,none⟩)),(5,Value.int .u32 (a17)),(6,Value.int .i64 (a12.2))]) (fun a17 b18=>[Blk b1 [v0,v1] 25]) (fun a17 b18=>[Sl RI64 v0 p0.1,S2 RI64I64p v1 z2 p0.2]) ?_ ?_
    ·refine J.block<|J.seq<|J.region<|J.quiet (Y.assign rfl) rfl<|J.done<|J.thenN<|J.block<|J.loopI (A:=Int×Int) (B:=Unit) (ref01_Neighbours_s2 fuel p0 p1 a12 (iter (ref01_Neighbours_s1 fuel p0 p1) k14)) (fun a22 b23=>[(1,Value.int .u32 (p1)),(2,Value.pointer (some ⟨b1,0,none⟩)),(5,Value.int .u32 (a22.1)),(6,Value.int .i64 (a12.2)),(7,Value.int .i64 (a22.2))]) (fun a22 b23=>[Blk b1 [v0,v1] 25]) (fun a22 b23=>[Sl RI64 v0 p0.1,S2 RI64I64p v1 z2 p0.2]) (a12.1,(0:Int)) (()) h SF (SubM.refl _) (LentAll.refl _ _) ?_
     clear h
     intro k24 a22 b23 h
     unfold ref01_Neighbours_s2 at h
     refine J.seq<|J.seq<|J.region<|J.quiet (Y.move rfl) rfl<|J.quiet (Y.fieldB rfl rfl rfl rfl rfl) rfl<|J.quiet (Y.loadB 0 rfl rfl rfl rfl rfl) rfl<|J.quiet (Y.move rfl) rfl ?_
     have h:=ck_some h;obtain⟨hc25,h⟩:=h
     refine J.quiet (Y.indexN rfl rfl (Lent.fact 1 rfl) rfl rfl hc25) rfl<|J.quiet (Y.loadRow rfl (Lent.fact 1 rfl) rfl rfl hc25) rfl<|J.quiet (Y.lenS rfl (Lent.el (Lent.fact 1 rfl) hc25.1 hc25.2) rfl) rfl<|J.quiet (Y.lss rfl rfl) rfl<|J.done<|J.thenN ?_
     refine J.condD (by exact rfl) (fun hp26=> ?_) (fun hp26=> ?_)
     ·have h:=ifP hp26 h
      refine J.skip<|J.thenN<|J.seq<|J.midI (A:=Int) (B:=Unit) (fun a28=>ref01_Neighbours_k3 a22 (iter (ref01_Neighbours_s2 fuel p0 p1 a12 (iter (ref01_Neighbours_s1 fuel p0 p1) k14)) k24) a28=some r) (fun a28 b29=>[(1,Value.int .u32 (p1)),(2,Value.pointer (some ⟨b1,0,none⟩)),(5,Value.int .u32 (a28)),(6,Value.int .i64 (a12.2)),(7,Value.int .i64 (a22.2))]) (fun a28 b29=>[Blk b1 [v0,v1] 25]) (fun a28 b29=>[Sl RI64 v0 p0.1,S2 RI64I64p v1 z2 p0.2]) ?_ ?_
      ·refine J.block<|J.seq<|J.region<|J.quiet (Y.move rfl) rfl<|J.quiet (Y.fieldB rfl rfl rfl rfl rfl) rfl<|J.quiet (Y.loadB 0 rfl rfl rfl rfl rfl) rfl<|J.quiet (Y.move rfl) rfl ?_
       have h:=ck_some h;obtain⟨hc30,h⟩:=h
       refine J.quiet (Y.indexN rfl rfl (Lent.fact 1 rfl) rfl rfl hc30) rfl<|J.quiet (Y.loadRow rfl (Lent.fact 1 rfl) rfl rfl hc30) rfl<|J.quiet (Y.move rfl) rfl ?_
       have h:=ck_some h;obtain⟨hc31,h⟩:=h
       refine J.quiet (Y.indexS rfl rfl (Lent.el (Lent.fact 1 rfl) hc30.1 hc30.2) rfl rfl hc31) rfl<|J.quiet (Y.fieldEl rfl rfl rfl rfl rfl) rfl<|J.quiet (Y.loadS rfl (Lent.el (Lent.fact 1 rfl) hc30.1 hc30.2) rfl rfl rfl RI64I64pc0 hc31) rfl ?_
       have h:=bnd h;obtain⟨r32,hr33,h⟩:=h
       refine J.loud (Loud.callL body34 (t_ref01_Has fuel  r32 hr33) rfl .nil (fun _ _=>rfl)) rfl fun x34=>J.done<|J.thenN ?_
       refine J.cond (by exact rfl) (fun hp35=> ?_) (fun hp35=> ?_)
       ·have h:=ifP hp35 h
        refine J.region<|J.quiet (Y.move rfl) rfl<|J.quiet (Y.move rfl) rfl<|J.quiet (Y.conv rfl rfl rfl) rfl ?_
        have h:=ck_some h;obtain⟨hc36,h⟩:=h
        refine J.quiet (Y.shl rfl rfl hc36) rfl<|J.quiet (Y.or rfl rfl) rfl<|J.quiet (Y.assign rfl) rfl<|J.done<|J.inN<|J.thenN ?_
        exact J.meetI (bOr .u32 a22.1 (bShl .u32 (1:Int) (wI .u64 a12.2))) (()) h SF (SubM.refl _) (LentAll.refl _ _)
       ·have h:=ifBN hp35 h
        refine J.skip<|J.inN<|J.thenN ?_
        exact J.meetI (a22.1) (()) h SF (SubM.refl _) (LentAll.refl _ _)
      ·clear h
       intro a28 b29 h
       unfold ref01_Neighbours_k3 at h
       refine J.region<|J.quiet (Y.move rfl) rfl<|J.quiet (Y.addW rfl rfl) rfl<|J.quiet (Y.assign rfl) rfl<|J.done<|J.thenN ?_
       exact J.againI (a28,(wI .i64 (a22.2+(1:Int)))) (()) h SF (SubM.refl _) (LentAll.refl _ _)
     ·have h:=ifN hp26 h
      refine J.exit<|J.thenX<|J.thenX<|J.inX<|J.inN<|J.thenN ?_
      exact J.meetI (a22.1) (()) h SF (SubM.refl _) (LentAll.refl _ _)
    ·clear h
     intro a17 b18 h
     unfold ref01_Neighbours_k2 at h
     refine J.region<|J.quiet (Y.move rfl) rfl<|J.quiet (Y.addW rfl rfl) rfl<|J.quiet (Y.assign rfl) rfl<|J.done<|J.thenN ?_
     exact J.againI (a17,(wI .i64 (a12.2+(1:Int)))) (()) h SF (SubM.refl _) (LentAll.refl _ _)
   ·have h:=ifN hp15 h
    refine J.exit<|J.thenX<|J.thenX<|J.inX<|J.thenN ?_
    exact J.meetI (a12.1) (()) h SF (SubM.nil) (LentAll.refl _ _)
  ·clear h
   intro a7 b8 h
   unfold ref01_Neighbours_k1 at h
   refine J.seq<|J.region<|J.quiet (Y.move rfl) rfl<|J.quiet (Y.assign rfl) rfl<|J.done<|J.thenN<|J.ret ?_
   obtain rfl:=Option.some.inj h
   exact J.retG1 (()) rfl rfl (RV.tmp rfl) (SubM.refl _) LentAll.nil
end Go.Proofs.YtfimaabbclepbaaGreat
end
section
namespace Go.Proofs.YtfimaabbclepbaaGreat
open Go.Sx
def ref44_Independent_k1  (a16:Bool):Option (Bool):=
 some (a16)
def m_ref44_Independent (fuel:Nat) (p0:List (Int)×(List (List (Int×Int)))) (p1:List (List (Int))) (p2:Int):Option (Bool):=
 Option.bind (m_ref31_Vars fuel) fun r2=>(Option.bind (m_ref23_Config fuel ((p0.1,p0.2)) p1 r2) fun r5=>(if(!r5)=true then(some (false))else(Option.bind (m_ref31_Ones fuel p1 (0:Int)) fun r9=>(Option.bind (m_ref01_Neighbours fuel ((p0.1,p0.2)) r9) fun r12=>(if(bAndNot .u32 (bAnd .u32 r9 r12) p2)=(0:Int)then(Option.bind (m_ref01_All fuel (List.length p1:Int)) fun r19=>(Option.bind (m_ref01_All fuel (List.length p1:Int)) fun r22=>(ref44_Independent_k1  (decide ((bAnd .u32 (bOr .u32 (bOr .u32 r9 r12) p2) r19)=r22)))))else(ref44_Independent_k1  (false)))))))
theorem body9:HasBody Tryz.prog 9:=Tryz.call9
theorem t_ref44_Independent (fuel:Nat) {p0:List (Int)×(List (List (Int×Int)))} {p1:List (List (Int))} {p2:Int} (v0:Value)  (v1:Value)  (z2:List (Value×List (Int×Int)))  (v3:Value)  (z4:List (Value×List (Int))) (r:Bool) (h:m_ref44_Independent fuel p0 p1 p2=some r):
  Meets Tryz.prog 9 #[Value.agg #[v0,v1],v3,Value.int .u32 (p2)] [Sl RI64 v0 p0.1,S2 RI64I64p v1 z2 p0.2,S2 RI64 v3 z4 p1] (fun x:Unit=>Value.bool (r)) (fun x l=>l) (fun _ l=>l):=by
 refine Meets.of (vs:=[Value.agg #[v0,v1],v3,Value.int .u32 (p2)]) Tryz.func9 rfl Tryz.ntmps9 rfl fun c=> ?_
 unfold m_ref44_Independent at h
 refine J.seq<|J.region<|J.loud (Loud.box (cs:=[v0,v1]) rfl rfl) rfl fun b1=>J.quiet (Y.assign rfl) rfl<|J.done<|J.thenN<|J.seq<|J.seq ?_
 refine JR.start [0,0,0,7,15] 3 mixedOrders (by decide +kernel) ?_
 refine JR.open (by exact rfl) ?_
 refine JR.qt rfl (SubM.refl _) (SubL.nil) (Y.loadBAll 0 rfl rfl rfl rfl) HistOk.z<|JR.qt rfl (SubM.nil) (SubL.nil) (Y.move rfl) HistOk.z ?_
 have h:=bnd h;obtain⟨r2,hr3,h⟩:=h
 refine JR.loud rfl rfl rfl (Loud.callL body16 (t_ref31_Vars fuel  r2 hr3) rfl .nil (fun _ _=>rfl)) rfl (fun x4=>(BsOk.h (SubM.nil) (SubL.nil) (BsOk.h (SubM.cons 1 rfl (SubM.nil)) (SubL.nil) BsOk.z))) fun x4=>JR.tailD 3 rfl rfl ?_
 have h:=bnd h;obtain⟨r5,hr6,h⟩:=h
 refine J.loud (Loud.callL body25 (t_ref23_Config fuel v0 v1 z2 v3 z4 x4 r5 hr6) rfl (LentAll.cons (Lent.fact 0 rfl) (LentAll.cons (Lent.fact 1 rfl) (LentAll.cons (Lent.fact 2 rfl) (LentAll.cons (Lent.ar (Lent.res 0 rfl) FStI64I64I64I64I64p) .nil)))) (fun _ _=>rfl)) rfl fun x7=>J.quiet (Y.not rfl) rfl<|J.done<|J.thenN ?_
 refine J.cond (by exact rfl) (fun hp8=> ?_) (fun hp8=> ?_)
 ·have h:=ifP hp8 h
  refine J.seq<|J.region<|J.quiet (Y.assign rfl) rfl<|J.done<|J.thenN<|J.ret<|J.thenR ?_
  obtain rfl:=Option.some.inj h
  exact J.retG1 (()) rfl rfl (RV.tmp rfl) (SubM.nil) LentAll.nil
 ·have h:=ifBN hp8 h
  refine J.skip<|J.thenN<|J.seq<|J.region<|J.quiet (Y.move rfl) rfl ?_
  have h:=bnd h;obtain⟨r9,hr10,h⟩:=h
  refine J.loud (Loud.callL body29 (t_ref31_Ones fuel v3 z4 r9 hr10) rfl (LentAll.cons (Lent.fact 2 rfl) .nil) (fun _ _=>rfl)) rfl fun x11=>J.quiet (Y.assign rfl) rfl<|J.done<|J.thenN<|J.seq<|J.region<|J.quiet (Y.loadBAll 1 rfl rfl rfl rfl) rfl<|J.quiet (Y.move rfl) rfl ?_
  have h:=bnd h;obtain⟨r12,hr13,h⟩:=h
  refine J.loud (Loud.callL body30 (t_ref01_Neighbours fuel v0 v1 z2 r12 hr13) rfl (LentAll.cons (Lent.fact 0 rfl) (LentAll.cons (Lent.fact 1 rfl) .nil)) (fun _ _=>rfl)) rfl fun x14=>J.quiet (Y.assign rfl) rfl<|J.done<|J.thenN<|J.seq<|J.midI (A:=Bool) (B:=Unit) (fun a16=>ref44_Independent_k1  a16=some r) (fun a16 b17=>[(6,Value.bool (a16))]) (fun a16 b17=>[]) (fun a16 b17=>[Sl RI64 v0 p0.1,S2 RI64I64p v1 z2 p0.2,S2 RI64 v3 z4 p1]) ?_ ?_
  ·refine J.region<|J.quiet (Y.move rfl) rfl<|J.quiet (Y.move rfl) rfl<|J.quiet (Y.and rfl rfl) rfl<|J.quiet (Y.move rfl) rfl<|J.quiet (Y.andNot rfl rfl) rfl<|J.quiet (Y.eql rfl rfl) rfl<|J.quiet (Y.move rfl) rfl ?_
   refine J.guardD (by exact rfl) (by exact rfl) (fun hp18=> ?_) (fun hp18=> ?_)
   ·have h:=ifP hp18 h
    refine J.guardY rfl (Y.move rfl) rfl<|J.guardY rfl (Y.move rfl) rfl<|J.guardY rfl (Y.or rfl rfl) rfl<|J.guardY rfl (Y.move rfl) rfl<|J.guardY rfl (Y.or rfl rfl) rfl<|J.guardY rfl (Y.move rfl) rfl<|J.guardY rfl (Y.lenN rfl (Lent.fact 2 rfl) rfl) rfl ?_
    have h:=bnd h;obtain⟨r19,hr20,h⟩:=h
    refine J.loudG rfl (Loud.callL body31 (t_ref01_All fuel  r19 hr20) rfl .nil (fun _ _=>rfl)) rfl fun x21=>J.guardY rfl (Y.and rfl rfl) rfl<|J.guardY rfl (Y.move rfl) rfl<|J.guardY rfl (Y.lenN rfl (Lent.fact 2 rfl) rfl) rfl ?_
    have h:=bnd h;obtain⟨r22,hr23,h⟩:=h
    refine J.loudG rfl (Loud.callL body31 (t_ref01_All fuel  r22 hr23) rfl .nil (fun _ _=>rfl)) rfl fun x24=>J.guardY rfl (Y.eql rfl rfl) rfl<|J.quiet (Y.pickT rfl rfl) rfl<|J.quiet (Y.assign rfl) rfl<|J.done<|J.thenN ?_
    exact J.meetI (decide ((bAnd .u32 (bOr .u32 (bOr .u32 r9 r12) p2) r19)=r22)) (()) h SF (SubM.nil) (LentAll.refl _ _)
   ·have h:=ifN hp18 h
    refine J.guardN rfl rfl rfl<|J.guardN rfl rfl rfl<|J.guardN rfl rfl rfl<|J.guardN rfl rfl rfl<|J.guardN rfl rfl rfl<|J.guardN rfl rfl rfl<|J.guardN rfl rfl rfl<|J.guardN rfl rfl rfl<|J.guardN rfl rfl rfl<|J.guardN rfl rfl rfl<|J.guardN rfl rfl rfl<|J.guardN rfl rfl rfl<|J.guardN rfl rfl rfl<|J.quiet (Y.pickF rfl rfl) rfl<|J.quiet (Y.assign rfl) rfl<|J.done<|J.thenN ?_
    exact J.meetI (false) (()) h SF (SubM.nil) (LentAll.refl _ _)
  ·clear h
   intro a16 b17 h
   unfold ref44_Independent_k1 at h
   refine J.ret ?_
   obtain rfl:=Option.some.inj h
   exact J.retG1 (()) rfl rfl (RV.tmp rfl) (SubM.refl _) LentAll.nil
end Go.Proofs.YtfimaabbclepbaaGreat
end
section
namespace Go.Proofs.YtfimaabbclepbaaGreat
open Go Go.Sx

def diffN (a b:Nat):Nat:=(BitVec.ofInt 32 (a:Int) &&& ~~~ BitVec.ofInt 32 (b:Int)).toNat
theorem diffN_lt (a b:Nat):diffN a b<4294967296:=(BitVec.ofInt 32 (a:Int) &&& ~~~ BitVec.ofInt 32 (b:Int)).isLt
theorem bit_lt {a i:Nat} (ha:a<4294967296) (h:a.testBit i=true):i<32:=by
 apply Classical.byContradiction
 intro hc
 rw[Nat.testBit_lt_two_pow (Nat.lt_of_lt_of_le ha (Nat.pow_le_pow_right (n:=2) (by omega) (show 32<=i by omega)))]at h
 cases h
theorem diffN_bit {a b:Nat} (ha:a<4294967296) (hb:b<4294967296) (i:Nat):(diffN a b).testBit i=(a.testBit i && !b.testBit i):=by
 have:=BitVec.getLsbD_and (x:=BitVec.ofInt 32 (a:Int)) (y:= ~~~ BitVec.ofInt 32 (b:Int)) (i:=i)
 rw[BitVec.getLsbD_not]at this
 have h:(diffN a b).testBit i=((N32 (a:Int)).testBit i&&(decide (i<32) && !(N32 (b:Int)).testBit i)):=this
 rw[N32_nat ha,N32_nat hb]at h
 rw[h]
 cases hai:a.testBit i with
 |false=>simp
 |true=>simp[bit_lt ha hai]
theorem bAndNotN (a b:Nat):bAndNot .u32 (a:Int) (b:Int)=(diffN a b:Int):=wrapU _ (diffN_lt a b)
theorem bAndN {a b:Nat} (ha:a<4294967296) (hb:b<4294967296):bAnd .u32 (a:Int) (b:Int)=((a &&& b:Nat):Int):=by rw[bAnd_eq,N32_nat ha,N32_nat hb]
theorem bOrN {a b:Nat} (ha:a<4294967296) (hb:b<4294967296):bOr .u32 (a:Int) (b:Int)=((a ||| b:Nat):Int):=by rw[bOr_eq,N32_nat ha,N32_nat hb]
theorem or_lt {a b:Nat} (ha:a<4294967296) (hb:b<4294967296):a ||| b<4294967296:=Nat.or_lt_two_pow (n:=32) ha hb
theorem and_lt {a b:Nat} (ha:a<4294967296):a &&& b<4294967296:=Nat.lt_of_le_of_lt Nat.and_le_left ha
theorem bOrBit {a k:Nat} (ha:a<4294967296) (hk:k<32):bOr .u32 (a:Int) (bShl .u32 1 (k:Int))=((a ||| 2^k:Nat):Int):=by rw[bShl1 hk,bOrN ha (pow32 hk)]
theorem noBit {a k:Nat} (hk:k<32) (ha:a<4294967296):bAnd .u32 (bShr .u32 (a:Int) (k:Int)) 1=0↔a.testBit k=false:=by
 have h1:N32 1=1:=N32_nat (a:=1) (by omega)
 rw[bShr_eq hk,bAnd_eq,N32_nat (Nat.lt_of_le_of_lt (Nat.div_le_self _ _) ha),h1,Nat.and_one_is_mod,Nat.testBit_eq_decide_div_mod_eq,decide_eq_false_iff_not]
 omega
theorem maskN32 (p:Nat->Bool) {k:Nat} (hk:k<=32):maskN p k<4294967296:=Nat.lt_of_lt_of_le (maskN_lt p k) (Nat.pow_le_pow_right (n:=2) (by omega) hk)
theorem nat_ext {a b:Nat} (h:∀i,a.testBit i=b.testBit i):a=b:=Nat.eq_of_testBit_eq h
def addB (q:Bool) (m v:Nat):Nat:=if q then m ||| 2^v else m
theorem addB_lt {q:Bool} {m v:Nat} (hm:m<4294967296) (hv:v<32):addB q m v<4294967296:=by
 unfold addB;split
 ·exact or_lt hm (pow32 hv)
 ·exact hm
theorem or_idem (m v:Nat):(m ||| 2^v) ||| 2^v=m ||| 2^v:=by rw[Nat.or_assoc,Nat.or_self]
theorem wInc {i:Nat} (h:i<1000000):wI .i64 ((i:Int)+1)=(i:Int)+1:=wr (by omega) (by omega)

def clash (g:GR) (c:List (List Int)) (v i:Nat):Bool:=decide (val c v 0=at' (at' c (lnk (row g v) i).1) 0)
def ColOk (g:GR) (c:List (List Int)) (d:Nat):Prop:=VG g∧Cf g c [(g.2.length:Int)]∧∀v,v<g.2.length->d.testBit v=false->∀i,i<(row g v).length->clash g c v i=false
theorem VG.to {g:GR} (hV:VG g) {v i:Nat} (hv:v<g.2.length) (hi:i<(row g v).length):∃u:Nat,u<g.2.length∧(lnk (row g v) i).1=(u:Int):=by
 obtain⟨u,h1,h2,_⟩:=hV.port hv hi
 exact⟨u,h1,h2⟩
theorem coloured_eq (g:GR) (c:List (List Int)) {d:Nat} (hd:d<4294967296):(ColOk g c d->m_crash_Coloured 1000 g c (d:Int)=some true)∧(¬ColOk g c d->m_crash_Coloured 1000 g c (d:Int)=some false):=by
 unfold m_crash_Coloured
 by_cases hV:VG g
 rotate_left
 ·rw[(valid_gen g).2 hV,bindS rfl,if_pos (by simp)]
  exact⟨fun h=>absurd h.1 hV,fun _=>rfl⟩
 rw[(valid_gen g).1 hV,bindS rfl,if_neg (by simp)]
 have h24:=hV.n24
 have hlen:=hV.len
 rw[hlen]
 have hcf:=configuration_eq hV c [(g.2.length:Int)] (by simp)
 by_cases hC:Cf g c [(g.2.length:Int)]
 rotate_left
 ·rw[hcf.2 hC,bindS rfl]
  exact⟨fun h=>absurd h.2.1 hC,fun _=>rfl⟩
 rw[hcf.1 hC,bindS rfl]
 unfold crash_Coloured_k1
 rw[if_neg (by simp)]
 unfold crash_Coloured_k3
 have hrow:∀u:Nat,u<g.2.length->(at' c (u:Int)).length=1:=fun u hu=>hC.row u hu
 have hcl:=hC.len
 have inner:∀(v:Nat) (ag:Int->Option Bool),v<g.2.length->((∀i,i<(row g v).length->(d.testBit v=false->clash g c v i=false))->iter (crash_Coloured_s2 g c (d:Int) v ag) 1000 0=ag ((v:Int)+1))∧(¬(∀i,i<(row g v).length->(d.testBit v=false->clash g c v i=false))->iter (crash_Coloured_s2 g c (d:Int) v ag) 1000 0=some false):=by
  intro v ag hv
  have hdeg:(at' g.2 (v:Int)).length<g.2.length:=(hV.node v hv).deg
  have body:∀(i:Nat) (ag2:Int->Option Bool),i<(row g v).length->crash_Coloured_s2 g c (d:Int) v ag i ag2=if d.testBit v=false∧clash g c v i=true then some false else ag2 ((i:Int)+1):=by
   intro i ag2 hi
   obtain⟨u,hu,hue⟩:=hV.to hv hi
   have hue':(at' (at' g.2 (v:Int)) (i:Int)).1=(u:Int):=hue
   have hi':i<(at' g.2 (v:Int)).length:=hi
   have h1:=hrow v hv
   have h2:=hrow u hu
   unfold crash_Coloured_s2 crash_Coloured_k5
   rw[if_pos (by omega),ckT (by omega),ckT (by omega),hue']
   have hcls:clash g c v i=decide (at' (at' c (v:Int)) 0=at' (at' c (u:Int)) 0):=by unfold clash;rw[show lnk (row g v) i=at' (at' g.2 (v:Int)) (i:Int)from rfl,hue'];rfl
   by_cases hb:d.testBit v=false
   ·rw[if_pos ((noBit (by omega) hd).2 hb),ckT (by omega),ckT (by omega),ckT (by omega),ckT (by omega),wInc (by omega),hcls]
    by_cases hq:at' (at' c (v:Int)) 0=at' (at' c (u:Int)) 0<;>simp[hq,hb]
   ·rw[if_neg (fun h=>hb ((noBit (by omega) hd).1 h)),wInc (by omega)]
    simp[hb]
  refine iter_if (row g v).length _ (fun i ag2 hi hp=> ?_) (fun i ag2 hi hp=> ?_) (fun ag2=> ?_) 1000 (by have:(row g v).length<g.2.length:=hdeg;omega)
  ·rw[body i ag2 hi,if_neg (fun h=>by rw[hp h.1]at h;cases h.2)]
  ·rw[body i ag2 hi,if_pos]
   exact⟨Classical.byContradiction fun h=>hp fun h'=>absurd h' h,by cases hc:clash g c v i with
    |true=>rfl
    |false=>exact absurd (fun _=>hc) hp⟩
  ·unfold crash_Coloured_s2 crash_Coloured_k4
   rw[if_neg (by show¬(((row g v).length:Nat):Int)<((row g v).length:Int);omega),wr (by omega) (by omega)]
 have outer:=iter_if (step:=crash_Coloured_s1 1000 g c (d:Int)) (K:=some true) (bad:=false) g.2.length (fun v=>∀i,i<(row g v).length->(d.testBit v=false->clash g c v i=false)) (fun v ag hv hp=> ?_) (fun v ag hv hp=> ?_) (fun ag=> ?_) 1000 (by omega)
 ·exact⟨fun h=>outer.1 fun v hv i hi hb=>h.2.2 v hv hb i hi,fun h=>outer.2 fun h'=>h ⟨hV,hC,fun v hv hb i hi=>h' v hv i hi hb⟩⟩
 ·unfold crash_Coloured_s1
  rw[if_pos (by omega),ckT (by omega)]
  exact(inner v ag hv).1 hp
 ·unfold crash_Coloured_s1
  rw[if_pos (by omega),ckT (by omega)]
  exact(inner v ag hv).2 hp
 ·unfold crash_Coloured_s1 crash_Coloured_k2
  rw[if_neg (by omega)]

def varC:List Var:=[(ByteArray.mk #[99],1,0,0,1,0)]
theorem vars32:m_ref32_Vars 1000=some varC:=rfl
theorem small32:∀x,x<varC.length->VarSmall (at' varC (x:Int)):=by
 intro x hx
 obtain rfl:x=0:=by simp[varC]at hx;exact hx
 exact⟨by decide,by decide,by decide⟩
theorem rcf32 {g:GR} (hV:VG g) {c:List (List Int)}:RCf g c varC↔Cf g c [(g.2.length:Int)]:=by
 refine rcf_iff rfl fun v x hv hx a=> ?_
 obtain rfl:x=0:=by simp at hx;exact hx
 have e1:at' varC ((0:Nat):Int)=(ByteArray.mk #[99],1,0,0,1,0):=rfl
 have e2:at' [(g.2.length:Int)] ((0:Nat):Int)=(g.2.length:Int):=rfl
 rw[e1,e2]
 unfold lo hi InTop
 simp only[show¬((1:Int)=2) by decide,show¬((1:Int)=3) by decide,if_false]
 rw[if_neg (by omega)]
 omega
theorem conflicts_eq {g:GR} {c:List (List Int)} (hV:VG g) (hC:Cf g c [(g.2.length:Int)]):m_ref32_Conflicts 1000 g c=some ((maskN (fun v=>anyN (clash g c v) (row g v).length) g.2.length:Nat):Int):=by
 have h24:=hV.n24
 have hlen:=hV.len
 have hcl:=hC.len
 have hrow:∀u:Nat,u<g.2.length->(at' c (u:Int)).length=1:=fun u hu=>hC.row u hu
 unfold m_ref32_Conflicts m_ref32_Fit
 rw[(refValid_gen g).1 hV,bindS rfl,bindS rfl,if_neg (by simp),vars32,bindS rfl,(refConfig_eq g c varC (by decide) small32).1 ⟨hV,(rcf32 hV).2 hC⟩,bindS rfl]
 unfold ref32_Conflicts_k1
 rw[if_neg (by simp)]
 refine iter_for (F:=fun v:Nat=>(((maskN (fun v=>anyN (clash g c v) (row g v).length) v:Nat):Int),(v:Int))) g.2.length (fun v ag hv=> ?_) (fun ag=> ?_) 1000 (by omega)
 ·unfold ref32_Conflicts_s1
  simp only
  rw[if_pos (by omega)]
  have hdeg:(at' g.2 (v:Int)).length<g.2.length:=(hV.node v hv).deg
  have hm:=maskN32 (fun v=>anyN (clash g c v) (row g v).length) (k:=v) (by omega)
  have h1:=hrow v hv
  have key:=iter_for (step:=ref32_Conflicts_s2 g c (((maskN (fun v=>anyN (clash g c v) (row g v).length) v:Nat):Int),(v:Int)) ag) (K:=ag (((addB (anyN (clash g c v) (row g v).length) (maskN (fun v=>anyN (clash g c v) (row g v).length) v) v:Nat):Int),(v:Int)+1)) (F:=fun i:Nat=>(((addB (anyN (clash g c v) i) (maskN (fun v=>anyN (clash g c v) (row g v).length) v) v:Nat):Int),(i:Int))) (row g v).length (fun i ag2 hi=> ?_) (fun ag2=> ?_) 1000 (by show(at' g.2 (v:Int)).length<1000;omega)
  ·exact key
  ·obtain⟨u,hu,hue⟩:=hV.to hv hi
   have hue':(at' (at' g.2 (v:Int)) (i:Int)).1=(u:Int):=hue
   have hi':i<(at' g.2 (v:Int)).length:=hi
   have h2:=hrow u hu
   unfold ref32_Conflicts_s2 ref32_Conflicts_k4
   simp only
   rw[ckT (by omega),if_pos (by omega),ckT (by omega),ckT (by omega),hue',ckT (by omega),ckT (by omega),ckT (by omega),ckT (by omega),wU64 (by omega),wInc (by omega)]
   have hcls:clash g c v i=decide (at' (at' c (v:Int)) 0=at' (at' c (u:Int)) 0):=by unfold clash;rw[show lnk (row g v) i=at' (at' g.2 (v:Int)) (i:Int)from rfl,hue'];rfl
   have ha:=addB_lt (q:=anyN (clash g c v) i) hm (show v<32 by omega)
   by_cases hq:at' (at' c (u:Int)) 0=at' (at' c (v:Int)) 0
   ·rw[if_pos hq,ckT (by omega),bOrBit ha (by omega)]
    have:anyN (clash g c v) (i+1)=true:=by simp[anyN,hcls,hq]
    have e:addB (anyN (clash g c v) i) (maskN (fun v=>anyN (clash g c v) (row g v).length) v) v ||| 2^v=addB true (maskN (fun v=>anyN (clash g c v) (row g v).length) v) v:=by
     unfold addB
     split
     ·exact or_idem _ _
     ·rfl
    rw[this,e];rfl
   ·rw[if_neg hq]
    have:anyN (clash g c v) (i+1)=anyN (clash g c v) i:=by simp[anyN,hcls,Ne.symm hq]
    simp only[this]
    rfl
  ·unfold ref32_Conflicts_s2 ref32_Conflicts_k3
   simp only
   rw[ckT (by omega),if_neg (by show¬(((row g v).length:Nat):Int)<((row g v).length:Int);omega),wr (by omega) (by omega)]
 ·unfold ref32_Conflicts_s1 ref32_Conflicts_k2
  simp only
  rw[if_neg (by omega)]
theorem refColoured_eq (g:GR) (c:List (List Int)) {d:Nat} (hd:d<4294967296):(ColOk g c d->m_ref44_Coloured 1000 g c (d:Int)=some true)∧(¬ColOk g c d->m_ref44_Coloured 1000 g c (d:Int)=some false):=by
 unfold m_ref44_Coloured
 rw[vars32,bindS rfl]
 by_cases hVC:VG g∧RCf g c varC
 rotate_left
 ·rw[(refConfig_eq g c varC (by decide) small32).2 hVC,bindS rfl]
  exact⟨fun h=>absurd ⟨h.1,(rcf32 h.1).2 h.2.1⟩ hVC,fun _=>rfl⟩
 obtain⟨hV,hC⟩:=hVC
 have hC:=(rcf32 hV).1 hC
 have h24:=hV.n24
 rw[(refConfig_eq g c varC (by decide) small32).1 ⟨hV,(rcf32 hV).2 hC⟩,bindS rfl,if_pos rfl,conflicts_eq hV hC,bindS rfl]
 unfold ref44_Coloured_k1
 have key:(bAndNot .u32 ((maskN (fun v=>anyN (clash g c v) (row g v).length) g.2.length:Nat):Int) (d:Int)=0)↔ColOk g c d:=by
  rw[bAndNot0,N32_nat (maskN32 _ (by omega)),N32_nat hd]
  constructor
  ·intro h
   refine⟨hV,hC,fun v hv hb i hi=> ?_⟩
   cases hc:clash g c v i with
   |false=>rfl
   |true=>
    have:=h v (by rw[maskN_bit];simp[hv];exact anyN_iff.2 ⟨i,hi,hc⟩)
    rw[hb]at this;cases this
  ·rintro⟨_,_,h⟩ v hv
   rw[maskN_bit]at hv
   simp only[Bool.and_eq_true,decide_eq_true_eq]at hv
   obtain⟨i,hi,hc⟩:=anyN_iff.1 hv.2
   cases hb:d.testBit v with
   |true=>rfl
   |false=>rw[h v hv.1 hb i hi]at hc;cases hc
 exact⟨fun h=>by rw[decide_eq_true (key.2 h)],fun h=>by rw[decide_eq_false fun h'=>h (key.1 h')]⟩
end Go.Proofs.YtfimaabbclepbaaGreat
end
