/- Models and proofs. Conditions: none. -/
import Derived.Test.YtlciiihigmgaiaaGreatZCAl3
set_option linter.unusedVariables false
set_option linter.unusedSimpArgs false
set_option maxHeartbeats 4000000
set_option maxRecDepth 20000
section
namespace Go.Gx
open Go Go.Sx Go.RowKit
section
def Bg (ρ pm:cS):cS:=fun h=>match ρ h with
 |some l=>some l
 |none=>pm h
theorem qQ {ρ pm:cS} {h:Nat} {l:Fq} (e:ρ h=some l):Bg ρ pm h=some l:=by simp[Bg,e]
theorem qP {ρ pm:cS} {h:Nat} (e:ρ h=none):Bg ρ pm h=pm h:=by simp[Bg,e]
theorem BA {ρ pm:cS}:ρ.le (Bg ρ pm):=fun _ _ e=>qQ e
def Vm (all:List Oper) (S0:GF) (gg:Nat->GV) (D:Nat->Bool) (t:Nat) (g:GV):Prop:=
 (∃i o,D i=true∧all[i]? = some o∧o.dst=some t∧gg i=g∧∀j oj,D j=true->all[j]? = some oj->oj.dst=some t->j<=i)∨((∀j oj,D j=true->all[j]? = some oj->oj.dst≠some t)∧AC S0 t=some g)
def ins (D:Nat->Bool) (k:Nat):Nat->Bool:=fun j=>j==k||D j
theorem tZ (D:Nat->Bool) (k:Nat):ins D k k=true:=by simp[ins]
theorem sQ {D:Nat->Bool} {k j:Nat} (h:j≠k):ins D k j=D j:=by simp[ins,h]
theorem tY {D:Nat->Bool} {k j:Nat} (h:D j=true):ins D k j=true:=by simp[ins,h]
noncomputable def xT (σ:GF) (L:List Nat):GF:=L.filterMap fun t=>(AC σ t).map fun g=>(t,g)
theorem wB {σ:GF} {t:Nat}:∀{L:List Nat},AC (xT σ L) t=if t∈L then AC σ t else none
 | []=>rfl
 | x :: L => by
  have ih:=wB (σ:=σ) (t:=t) (L:=L)
  cases hx:AC σ x with
  |none=>
   have e:xT σ (x::L)=xT σ L:=by simp[xT,hx]
   rw[e,ih]
   by_cases e1:t=x
   ·subst e1;simp[hx]
   ·simp[e1]
  |some g=>
   have e:xT σ (x::L)=(x,g)::xT σ L:=by simp[xT,hx]
   rw[e,tX,ih]
   by_cases e1:t=x
   ·subst e1;simp[hx]
   ·simp[e1]
section
variable {P:Program} {tb:TB} {gs:rK} {w0:cM gs} {ih:CH} {all:List Oper} {n:Nat} {S:Nat->GF} {HH:Nat->GH} {gg:Nat->GV}
structure pY (P:Program) (tb:TB) {gs:rK} (w0:cM gs) (ih:CH) (all:List Oper) (n:Nat) (S:Nat->GF) (HH:Nat->GH) (gg:Nat->GV):Prop where
 tab:dK P tb
 call:∀w0:cM gs,nD P w0 ih
 ops:all.all (Cq n)=true
 chk:MS tb all (lC all)
 trc:SL tb ih all all S HH gg
 vrs:∀k ok h v,all[k]? = some ok->kE ok.op=true->RH (S k) ok.op=some h->(HH k).ver h=some v->
  (∀j oj,j<k->all[j]? = some oj->cZ oj.op=true->before (lC all) k j=false->(HH j).ver h=some v)∧(∀j oj,k<j->all[j]? = some oj->cZ oj.op=true->before (lC all) j k=false->(HH (j+1)).ver h=some v)
 chain:∃ρs:Nat->cS,(∀i,i<=all.length->∃a w,dU w0 (ρs i) (HH i) w∧iA (ρs i) n (S i) a)∧∀i,i<all.length->(ρs i).le (ρs (i+1))
theorem pY.ghost (E:pY P tb w0 ih all n S HH gg) (i:Nat) (hi:i<=all.length):∃ρ a w,dU w0 ρ (HH i) w∧iA ρ n (S i) a:=
 let ⟨ρs,h,_⟩:=E.chain
 ⟨ρs i,h i hi⟩
theorem pY.mono (E:pY P tb w0 ih all n S HH gg) (i:Nat) (hi:i<all.length):(HH i).n<=(HH (i+1)).n:=by
 obtain⟨ρs,h,hle⟩:=E.chain
 obtain⟨_,_,R1,_⟩:=h i (Nat.le_of_lt hi)
 obtain⟨_,_,R2,_⟩:=h (i+1) hi
 exact R1.mono R2 (hle i hi)
theorem HY {ρs:Nat->cS} {m:Nat} (h:∀i,i<m->(ρs i).le (ρs (i+1))) {i:Nat}:∀{j:Nat},i<=j->j<=m->(ρs i).le (ρs j)
  | 0, h1, _ => by
      have : i = 0 := by omega
      subst this;exact cS.le_refl _
  | j + 1, h1, hj => by
    by_cases e:i=j+1
    · subst e;exact cS.le_refl _
    · exact cS.le_trans (HY h (by omega) (by omega)) (h j (by omega))
theorem pY.same (E:pY P tb w0 ih all n S HH gg) {i j:Nat} (hij:i<=j) (hj:j<=all.length) {h v:Nat} (h1:(HH i).ver h=some v) (h2:(HH j).ver h=some v):(HH i).get h=(HH j).get h:=by
 obtain⟨ρs,hg,hle⟩:=E.chain
 have hc:=HY hle hij hj
 obtain⟨_,w1,R1,_⟩:=hg i (by omega)
 obtain⟨_,w2,R2,_⟩:=hg j hj
 have live:∀{k:Nat},(HH k).ver h=some v->∃o,(HH k).get h=some o:=fun {k} hv=>by
  obtain⟨p,hp,_⟩:=aB.1 (show ob ((HH k).t.get h) _=some v from hv)
  exact⟨p.2,by unfold GH.get;rw[hp];rfl⟩
 obtain⟨o1,ho1⟩:=live h1
 obtain⟨o2,ho2⟩:=live h2
 obtain⟨l1,hl1,_⟩:=R1.live h o1 ho1
 obtain⟨l2,hl2,_⟩:=R2.live h o2 ho2
 obtain⟨lv1,a1,_,b1⟩:=R1.vers h v l1 h1 hl1
 obtain⟨lv2,a2,_,b2⟩:=R2.vers h v l2 h2 hl2
 have:=hc _ _ a1
 rw[a2]at this;cases this
 rw[b1,b2]
theorem pY.op (E:pY P tb w0 ih all n S HH gg) {k:Nat} {o:Oper} (hk:all[k]? = some o):Cq n o=true:=List.all_eq_true.1 E.ops o (List.mem_of_getElem? hk)
theorem pY.quiet (E:pY P tb w0 ih all n S HH gg) {k:Nat} {o:Oper} (hk:all[k]? = some o) (hq:cZ o.op=false):HH (k+1)=HH k:=by
 obtain⟨ρ,a,w,R,F⟩:=E.ghost k (Nat.le_of_lt (aR hk))
 rcases Dj E.tab (E.call w0) (E.op hk) F R (E.trc.st k o hk)with⟨_,hs⟩|⟨_,_,h⟩
 ·rcases hs with⟨_,_,_,h,_⟩|⟨_,_,h,_⟩|⟨_,_,h,_⟩|⟨h,_⟩
  ·exact h
  ·exact h
  ·exact h
  ·rw[hq]at h;cases h
 ·exact h
theorem pY.floats (E:pY P tb w0 ih all n S HH gg) {k:Nat} {o:Oper} (hk:all[k]? = some o) (hf:isFloat o.op=true):HH (k+1)=HH k∨∃cs,HH (k+1)=(HH k).new (.cells cs):=by
 obtain⟨ρ,a,w,R,F⟩:=E.ghost k (Nat.le_of_lt (aR hk))
 rcases FL (P:=P) E.tab hf F (E.trc.st k o hk)with⟨_,_,h⟩|⟨_,cs,_,_,h,_⟩
 ·exact .inl h
 ·exact .inr ⟨cs,h⟩
theorem OP {H:GH} {o:GO} (h:H=H.new o):False:=by
 have:H.n=H.n+1:=congrArg GH.n h
 omega
theorem Ms {H:GH} {c c':List GV} (h:H.new (.cells c)=H.new (.cells c')):c=c':=by
 have h1:=nE H (.cells c) H.n
 have h2:=nE H (.cells c') H.n
 rw[if_pos rfl]at h1 h2
 rw[h,h2]at h1
 cases h1;rfl
theorem pY.mono' (E:pY P tb w0 ih all n S HH gg) {i j:Nat} (h:i<=j) (hj:j<=all.length):(HH i).n<=(HH j).n:=IR E.mono h hj
theorem pY.apart (E:pY P tb w0 ih all n S HH gg) {i j:Nat} {ci cj:List GV} (hi:i<all.length) (hj:j<all.length) (ei:HH (i+1)=(HH i).new (.cells ci)) (ej:HH (j+1)=(HH j).new (.cells cj)) (h:(HH i).n=(HH j).n):i=j:=by
 have ei':(HH (i+1)).n=(HH i).n+1:=by rw[ei];rfl
 have ej':(HH (j+1)).n=(HH j).n+1:=by rw[ej];rfl
 rcases Nat.lt_trichotomy i j with h1|h1|h1
 ·have:=E.mono' (i:=i+1) (j:=j) (by omega) (by omega);omega
 ·exact h1
 ·have:=E.mono' (i:=j+1) (j:=i) (by omega) (by omega);omega
structure qK {gs:rK} (w0:cM gs) (ρb:cS) (n:Nat) (all:List Oper) (S0:GF) (HH:Nat->GH) (gg:Nat->GV) (D:Nat->Bool) (a:Act) (w:World) (t:Nat) (ρ pm:cS):Prop where
 tm:t<=all.length
 lou:∀j o,all[j]? = some o->mK o.op=true->(D j=true↔j<t)
 flo:∀j o,all[j]? = some o->isFloat o.op=true->j<t->D j=true
 rel:dU w0 ρ (HH t) w
 up:ρb.le ρ
 defers:a.defers=[]
 size:a.tmps.size=n
 slot:∀s g,Vm all S0 gg D s g->Rl (Bg ρ pm) g (a.eval (.tmp s))
 pend:∀i o cs,all[i]? = some o->isFloat o.op=true->HH (i+1)=(HH i).new (.cells cs)->t<=i->D i=true->∃l,pm (HH i).n=some l∧w0.mine l.b∧¬MV ρ (HH t) l.b∧w.heap[l.b]? = some l.x∧rB (Bg ρ pm) w l (.cells cs)∧l.o = .cells cs
 only:∀h l,pm h=some l->∃i o cs,all[i]? = some o∧isFloat o.op=true∧HH (i+1)=(HH i).new (.cells cs)∧t<=i∧D i=true∧h=(HH i).n
 inj:∀h h' l l',pm h=some l->pm h'=some l'->l.b=l'.b->h=h'
variable {D:Nat->Bool} {a:Act} {w:World} {t:Nat} {ρ pm ρb:cS}
theorem qK.low (E:pY P tb w0 ih all n S HH gg) (I:qK w0 ρb n all (S 0) HH gg D a w t ρ pm) {h:Nat} {l:Fq} (hp:pm h=some l):(HH t).n<=h:=by
 obtain⟨i,o,cs,h1,_,_,h4,_,rfl⟩:=I.only h l hp
 exact E.mono' h4 (Nat.le_of_lt (aR h1))
theorem qK.adopt (E:pY P tb w0 ih all n S HH gg) (I:qK w0 ρb n all (S 0) HH gg D a w t ρ pm) {o:Oper} (ho:all[t]? = some o) (hl:mK o.op=false) (hf:isFloat o.op=true->D t=true):
  ∃ρ' pm',qK w0 ρb n all (S 0) HH gg D a w (t+1) ρ' pm'∧Bg ρ' pm'=Bg ρ pm:=by
 have ht:=aR ho
 have lou':∀j o,all[j]? = some o->mK o.op=true->(D j=true↔j<t+1):=fun j oj hj hlj=>by
  have hne:j≠t:=fun e=>by subst e;rw[ho]at hj;cases hj;rw[hl]at hlj;cases hlj
  rw[I.lou j oj hj hlj];omega
 have flo':∀j o,all[j]? = some o->isFloat o.op=true->j<t+1->D j=true:=fun j oj hj hfj hlt=>by
  by_cases e:j=t
  ·subst e;rw[ho]at hj;cases hj;exact hf hfj
  ·exact I.flo j oj hj hfj (by omega)
 -- nothing is taken up
 have same:HH (t+1)=HH t->∃ρ' pm',qK w0 ρb n all (S 0) HH gg D a w (t+1) ρ' pm'∧Bg ρ' pm'=Bg ρ pm:=fun e=>
  ⟨ρ,pm,⟨ht,lou',flo',by rw[e];exact I.rel,I.up,I.defers,I.size,I.slot,fun i oi cs h1 h2 h3 h4 h5=>by rw[e];exact I.pend i oi cs h1 h2 h3 (by omega) h5,fun h l hp=>by
   obtain⟨i,oi,cs,h1,h2,h3,h4,h5,h6⟩:=I.only h l hp
   refine⟨i,oi,cs,h1,h2,h3,?_,h5,h6⟩
   by_cases e':i=t
   ·subst e';rw[e]at h3;exact(OP h3).elim
   ·omega,I.inj⟩,rfl⟩
 cases hfl:isFloat o.op with
 |false=>exact same (E.quiet ho (by simpa [mK,hfl]using hl))
 | true =>
  rcases E.floats ho hfl with e|⟨cs,e⟩
  ·exact same e
  obtain⟨l,hp,hmine,hheld,hx,hobj,hlo⟩:=I.pend t o cs ho hfl e (Nat.le_refl _) (hf hfl)
  have hfresh:ρ (HH t).n=none:=I.rel.fresh _ (Nat.le_refl _)
  let ρ':=ρ.upd (HH t).n l
  let pm':cS:=fun h=>if h=(HH t).n then none else pm h
  have hself:ρ' (HH t).n=some l:=by simp[ρ',cS.upd]
  have hoth:∀h,h≠(HH t).n->ρ' h=ρ h:=fun h hh=>by simp[ρ',cS.upd,hh]
  have hjn:Bg ρ' pm'=Bg ρ pm:=by
   funext h
   by_cases eh:h=(HH t).n
   ·subst eh;rw[qQ hself,qP hfresh,hp]
   ·unfold Bg;rw[hoth h eh];simp[pm',eh]
  have hn:(HH (t+1)).n=(HH t).n+1:=by rw[e];rfl
  -- what the object holds is older
  have hcut:∀{g:GV} {v v0:Value} {ρ0:cS},(∀h l,ρ0 h=some l->h<(HH (t+1)).n)->Rl (Bg ρ pm) g v->Rl ρ0 g v0->Rl ρ' g v:=fun {g v v0 ρ0} hlow h1 h0=>by
   refine Nm (fun h l0 l1 e0 e1=> ?_) h1 h0
   have hlt:=hlow h l0 e0
   by_cases eh:h=(HH t).n
   ·subst eh;rw[qP hfresh,hp]at e1;rw[hself];exact e1
   ·rw[hoth h eh]
    cases hr:ρ h with
    |some l2=>rw[qQ hr]at e1;exact e1
    |none=>
     rw[qP hr]at e1
     have:=I.low E e1
     omega
  obtain⟨ρ0,a0,wg,R0,F0⟩:=E.ghost (t+1) ht
  have hlow0:∀h l,ρ0 h=some l->h<(HH (t+1)).n:=fun h l hl=>by
   rcases Nat.lt_or_ge h (HH (t+1)).n with h'|h'
   ·exact h'
   ·rw[R0.fresh h h']at hl;cases hl
  have hgetn:(HH (t+1)).get (HH t).n=some (.cells cs):=by rw[e,nE,if_pos rfl]
  obtain⟨l0,_,_,hob0⟩:=R0.live _ _ hgetn
  obtain⟨cur0,T0,q1,q2,q3,q4⟩:=hob0
  have hobj':rB ρ' w l (.cells cs):=by
   obtain⟨cur,T,p1,p2,p3,p4⟩:=hobj
   refine⟨cur,T,p1,p2,p3,fun i g hg=> ?_⟩
   obtain⟨v,r1,r2,r3⟩:=p4 i g hg
   obtain⟨v0,_,s2,_⟩:=q4 i g hg
   exact⟨v,r1,hcut hlow0 r2 s2,r3⟩
  obtain⟨hle,R'⟩:=I.rel.new (o:= .cells cs) (l:=l) I.rel.ext (fun h o' l' hg hl'=>⟨rfl,fun eb=>hheld ⟨h,o',l',hg,hl',eb⟩⟩) hmine hobj' hx hlo
  rw[<-e]at R'
  refine⟨ρ',pm',⟨ht,lou',flo',R',cS.le_trans I.up hle,I.defers,I.size,fun s g hs=>by rw[hjn];exact I.slot s g hs,fun i oi ci h1 h2 h3 h4 h5=> ?_,fun h l1 hp1=> ?_,fun h h' l1 l2 h1 h2 hb=> ?_⟩,hjn⟩
  ·obtain⟨li,a1,a2,a3,a4,a5,a6⟩:=I.pend i oi ci h1 h2 h3 (by omega) h5
   have hne:(HH i).n≠(HH t).n:=fun eh=>by
    have:=E.apart (aR h1) ht h3 e eh;omega
   refine⟨li,by simp[pm',hne,a1],a2,?_,a4,by rw[hjn];exact a5,a6⟩
   rintro⟨h,o',l',hg,hl',eb⟩
   rw[e,nE]at hg
   by_cases eh:h=(HH t).n
   ·subst eh;rw[hself]at hl';cases hl'
    exact hne (I.inj _ _ _ _ a1 hp eb.symm)
   ·rw[if_neg eh]at hg
    rw[hoth h eh]at hl'
    exact a3 ⟨h,o',l',hg,hl',eb⟩
  ·have hne:h≠(HH t).n:=fun eh=>by subst eh;simp[pm']at hp1
   have hp1:pm h=some l1:=by simpa [pm',hne]using hp1
   obtain⟨i,oi,ci,h1,h2,h3,h4,h5,h6⟩:=I.only h l1 hp1
   refine⟨i,oi,ci,h1,h2,h3,?_,h5,h6⟩
   by_cases e':i=t
   ·subst e';exact absurd h6 hne
   ·omega
  ·have h1:pm h=some l1:=by
    by_cases eh:h=(HH t).n
    ·simp[pm',eh]at h1
    ·simpa [pm',eh]using h1
   have h2:pm h'=some l2:=by
    by_cases eh:h'=(HH t).n
    ·simp[pm',eh]at h2
    ·simpa [pm',eh]using h2
   exact I.inj h h' l1 l2 h1 h2 hb
theorem qK.adoptTo (E:pY P tb w0 ih all n S HH gg):∀(d t k:Nat) (ρ pm:cS),qK w0 ρb n all (S 0) HH gg D a w t ρ pm->t+d=k->k<=all.length->(∀j o,t<=j->j<k->all[j]? = some o->mK o.op=false∧(isFloat o.op=true->D j=true))->
  ∃ρ' pm',qK w0 ρb n all (S 0) HH gg D a w k ρ' pm'∧Bg ρ' pm'=Bg ρ pm
 |0,t,k,ρ,pm,I,hd,hk,_=>by
  have:t=k:=by omega
  subst this
  exact⟨ρ,pm,I,rfl⟩
 |d+1,t,k,ρ,pm,I,hd,hk,h=>by
  have ho:all[t]? = some all[t]:=List.getElem?_eq_getElem (by omega)
  obtain⟨h1,h2⟩:=h t _ (Nat.le_refl _) (by omega) ho
  obtain⟨ρ1,pm1,I1,e1⟩:=I.adopt E ho h1 h2
  obtain⟨ρ2,pm2,I2,e2⟩:=qK.adoptTo E d (t+1) k ρ1 pm1 I1 (by omega) hk (fun j o h1 h2=>h j o (by omega) h2)
  exact⟨ρ2,pm2,I2,by rw[e2,e1]⟩
def Cl (all:List Oper) (D:Nat->Bool):Prop:=∀j k,D j=true->before (lC all) j k=true->k<all.length->D k=true
structure Jw (all:List Oper) (D:Nat->Bool) (k:Nat) (o:Oper):Prop where
 get:all[k]? = some o
 undone:D k=false
 past:∀j,before (lC all) k j=true->j<all.length->D j=true
theorem Jw.behind (C:MS tb all (lC all)) (hcl:Cl all D) {k:Nat} {o:Oper} (hr:Jw all D k o) {j:Nat} {oj:Oper} (hj:all[j]? = some oj) (hD:D j=true) (hlt:k<j):o.apart all.toArray oj=true∧Em tb o.op oj.op=true:=by
 cases hb:before (lC all) j k with
 |false=>exact C.ind j k oj o hj hr.get hlt hb
 |true=>
  have:=hcl j k hD hb (aR hr.get)
  rw[hr.undone]at this;cases this
theorem Jw.ahead (C:MS tb all (lC all)) {k:Nat} {o:Oper} (hr:Jw all D k o) {j:Nat} {oj:Oper} (hj:all[j]? = some oj) (hlt:j<k):D j=true∨oj.apart all.toArray o=true∧Em tb oj.op o.op=true:=by
 cases hb:before (lC all) k j with
 |true=>exact .inl (hr.past j hb (aR hj))
 |false=>exact .inr (C.ind k j o oj hr.get hj hlt hb)
theorem Jw.look (E:pY P tb w0 ih all n S HH gg) (hcl:Cl all D) {k:Nat} {o:Oper} (hr:Jw all D k o) {s:Nat} {g:GV} (hs:s∈o.looksAt all.toArray) (hg:AC (S k) s=some g):Vm all (S 0) gg D s g:=by
 have none_behind:∀j oj,D j=true->all[j]? = some oj->oj.dst=some s->j<k:=fun j oj hD hj hd=>by
  rcases Nat.lt_trichotomy j k with h|h|h
  ·exact h
  ·subst h;rw[hr.undone]at hD;cases hD
  ·obtain⟨h1,_⟩:=hr.behind E.chk hcl hj hD h
   exact absurd hs ((Oper.apart_spec h1).2.2 s hd)
 rcases EL E.trc k (Nat.le_of_lt (aR hr.get)) hg with⟨i,oi,h1,h2,h3,h4,h5⟩|⟨h1,h2⟩
 ·refine .inl ⟨i,oi,?_,h2,h3,h4,fun j oj hD hj hd=> ?_⟩
  ·rcases hr.ahead E.chk h2 h1 with h|⟨h,_⟩
   ·exact h
   ·exact absurd hs ((Oper.apart_spec h).1 s h3)
  ·have:=none_behind j oj hD hj hd
   rcases Nat.lt_or_ge i j with h|h
   ·exact absurd hd (h5 j oj h this hj)
   ·exact h
 ·exact .inr ⟨fun j oj hD hj hd=>h1 j oj (none_behind j oj hD hj hd) hj hd,h2⟩
theorem Jw.slot (C:MS tb all (lC all)) (hcl:Cl all D) {S0:GF} {k:Nat} {o:Oper} (hr:Jw all D k o) (hdst:∀d,o.dst=some d->d<n) (hsz:a.tmps.size=n) {ρ1 ρ2:cS} (hle:ρ1.le ρ2) (hslot:∀s g,Vm all S0 gg D s g->Rl ρ1 g (a.eval (.tmp s))) {v:Value} (hv:Rl ρ2 (gg k) v):
  ∀s g,Vm all S0 gg (ins D k) s g->Rl ρ2 g ((a.put o.dst v).eval (.tmp s)):=fun s g hs=>by
 have behind:∀j oj,D j=true->all[j]? = some oj->o.dst=some s->oj.dst=some s->j<k:=fun j oj hD hj hd hd'=>by
  rcases Nat.lt_trichotomy j k with h|h|h
  ·exact h
  ·subst h;rw[hr.undone]at hD;cases hD
  ·obtain⟨h1,_⟩:=hr.behind C hcl hj hD h
   exact absurd hd' ((Oper.apart_spec h1).2.1 s hd)
 by_cases hd:o.dst=some s
 ·have hg:gg k=g:=by
   rcases hs with⟨i,oi,h1,h2,h3,h4,h5⟩|⟨h1,_⟩
   ·have hk:=h5 k o (tZ D k) hr.get hd
    by_cases e:i=k
    ·subst e;exact h4
    ·rw[sQ e]at h1
     have:=behind i oi h1 h2 hd h3
     omega
   ·exact absurd hd (h1 k o (tZ D k) hr.get)
  rw[hd,<-hg]
  have hs':=hdst s hd
  have:(a.put (some s) v).eval (.tmp s)=v:=by simp[Act.put,Act.eval,hsz,hs']
  rw[this];exact hv
 ·have he:(a.put o.dst v).eval (.tmp s)=a.eval (.tmp s):=Act.eval_put fun d hd' e=>by cases e;exact hd hd'
  rw[he]
  refine(hslot s g ?_).le hle
  rcases hs with⟨i,oi,h1,h2,h3,h4,h5⟩|⟨h1,h2⟩
  ·have e:i≠k:=fun e=>by subst e;rw[hr.get]at h2;cases h2;exact hd h3
   rw[sQ e]at h1
   exact .inl ⟨i,oi,h1,h2,h3,h4,fun j oj hD=>h5 j oj (tY hD)⟩
  ·exact .inr ⟨fun j oj hD=>h1 j oj (tY hD),h2⟩
theorem Aq (a:Act) (d:Option Tmp) (v:Value):(a.put d v).defers=a.defers∧(a.put d v).tmps.size=a.tmps.size:=by
 cases d with
 |none=>exact⟨rfl,rfl⟩
 |some d=>exact⟨rfl,by simp[Act.put]⟩
theorem qK.plain (E:pY P tb w0 ih all n S HH gg) (hcl:Cl all D) (I:qK w0 ρb n all (S 0) HH gg D a w t ρ pm) {k:Nat} {o:Oper} (hr:Jw all D k o) (hl:mK o.op=false) (hf:isFloat o.op=true->HH (k+1)=HH k) {v:Value} (hv:Rl (Bg ρ pm) (gg k) v):
  qK w0 ρb n all (S 0) HH gg (ins D k) (a.put o.dst v) w t ρ pm:=by
 obtain⟨_,hdst,_⟩:=oE (E.op hr.get)
 obtain⟨p1,p2⟩:=Aq a o.dst v
 refine⟨I.tm,fun j oj hj hlj=> ?_,fun j oj hj hfj hlt=>tY (I.flo j oj hj hfj hlt),I.rel,I.up,by rw[p1];exact I.defers,by rw[p2];exact I.size,hr.slot E.chk hcl hdst I.size (cS.le_refl _) I.slot hv,fun i oi cs h1 h2 h3 h4 h5=> ?_,fun h l hp=> ?_,I.inj⟩
 ·have e:j≠k:=fun e=>by subst e;rw[hr.get]at hj;cases hj;rw[hl]at hlj;cases hlj
  rw[sQ e];exact I.lou j oj hj hlj
 ·have e:i≠k:=fun e=>by
   subst e;rw[hr.get]at h1;cases h1;rw[hf h2]at h3;exact OP h3
  rw[sQ e]at h5
  exact I.pend i oi cs h1 h2 h3 h4 h5
 ·obtain⟨i,oi,cs,h1,h2,h3,h4,h5,h6⟩:=I.only h l hp
  exact⟨i,oi,cs,h1,h2,h3,h4,tY h5,h6⟩
def Gs (all:List Oper) (D:Nat->Bool) (t:Nat):Prop:=t=0∨∃o,all[t - 1]? = some o∧mK o.op=true∧D (t - 1)=true
theorem Gs.ins {k:Nat} (h:Gs all D t):Gs all (ins D k) t:=by
 rcases h with h|⟨o,h1,h2,h3⟩
 ·exact .inl h
 ·exact .inr ⟨o,h1,h2,tY h3⟩
theorem Ap {o:Op} (h:pureOp tb o=true):cZ o=false:=by
 unfold pureOp at h
 split at h<;>first|rfl|cases h
theorem AW {o:Op} (h:isFloat o=true):cZ o=true:=by
 unfold isFloat at h
 split at h<;>first|rfl|cases h
theorem Ee {o:Op} (h:isFloat o=true):pureOp tb o=false:=by
 cases hp:pureOp tb o with
 |false=>rfl
 |true=>have:=Ap hp;rw[AW h]at this;cases this
theorem qK.reach (E:pY P tb w0 ih all n S HH gg) (hcl:Cl all D) (I:qK w0 ρb n all (S 0) HH gg D a w t ρ pm) (hlast:Gs all D t) {k:Nat} {o:Oper} (hr:Jw all D k o) (hp:pureOp tb o.op=false) (hf:isFloat o.op=false) (hld:kE o.op=false):
  ∃ρ' pm',qK w0 ρb n all (S 0) HH gg D a w k ρ' pm'∧Bg ρ' pm'=Bg ρ pm:=by
 have hk:=aR hr.get
 have htk:t<=k:=by
  rcases hlast with h|⟨oj,h1,h2,h3⟩
  ·omega
  ·rcases Nat.lt_or_ge (t - 1) k with h|h
   ·omega
   ·exfalso
    by_cases e:t - 1=k
    ·rw[e,hr.undone]at h3;cases h3
    ·obtain⟨_,h4⟩:=hr.behind E.chk hcl h1 h3 (by omega)
     simp only[mK,Bool.and_eq_true,Bool.not_eq_true']at h2
     have:pureOp tb oj.op=false:=by
      cases hq:pureOp tb oj.op with
      |false=>rfl
      |true=>have:=Ap hq;rw[h2.1]at this;cases this
     have hlj:kE oj.op=false:=by
      cases hq:kE oj.op with
      |false=>rfl
      |true=>rw[t_ hq]at h2;cases h2.1
     simp[Em,hp,this,h2.1,h2.2,hld,hlj]at h4
 refine I.adoptTo E (k - t) t k ρ pm (by omega) (by omega) fun j oj h1 h2 hj=> ?_
 have hnot:D j=true∨cZ oj.op=false∨pureOp tb oj.op=true:=by
  rcases hr.ahead E.chk hj h2 with h|⟨_,h⟩
  ·exact .inl h
  ·simp only[Em,hp,hf,hld,Bool.or_false,Bool.and_false,Bool.or_eq_true,Bool.and_eq_true,Bool.not_eq_true']at h
   rcases h with(h|h)|h
   ·exact .inr (.inr h)
   ·exact .inr (.inl h.1)
   ·exact .inr (.inl (t_ h.1))
 refine⟨?_,fun hfj=> ?_⟩
 ·cases hlj:mK oj.op with
  |false=>rfl
  |true=>
   exfalso
   have hlj':=hlj
   simp only[mK,Bool.and_eq_true,Bool.not_eq_true']at hlj'
   rcases hnot with h|h|h
   ·have:=(I.lou j oj hj hlj).1 h;omega
   ·rw[hlj'.1]at h;cases h
   ·have:=Ap h;rw[hlj'.1]at this;cases this
 ·rcases hnot with h|h|h
  ·exact h
  ·rw[AW hfj]at h;cases h
  ·rw[Ee hfj]at h;cases h
theorem qK.frame (E:pY P tb w0 ih all n S HH gg) (hcl:Cl all D) (I:qK w0 ρb n all (S 0) HH gg D a w t ρ pm) {k:Nat} {o:Oper} (hr:Jw all D k o):iA (Bg ρ pm) n (xT (S k) (o.looksAt all.toArray)) a:=
 ⟨I.defers,I.size,fun s g hg=>by
  rw[wB]at hg
  by_cases hs:s∈o.looksAt all.toArray
  ·rw[if_pos hs]at hg;exact I.slot s g (hr.look E hcl hs hg)
  ·rw[if_neg hs]at hg;cases hg⟩
theorem qK.frame' (E:pY P tb w0 ih all n S HH gg) (hcl:Cl all D) {k:Nat} (I:qK w0 ρb n all (S 0) HH gg D a w k ρ pm) {o:Oper} (hr:Jw all D k o):iA ρ n (xT (S k) (o.looksAt all.toArray)) a:=by
 have F:=I.frame E hcl hr
 obtain⟨ρ0,a0,wg,R0,F0⟩:=E.ghost k (Nat.le_of_lt (aR hr.get))
 refine⟨F.defers,F.size,fun s g hg=> ?_⟩
 have h1:=F.slot s g hg
 rw[wB]at hg
 by_cases hs:s∈o.looksAt all.toArray
 ·rw[if_pos hs]at hg
  refine Nm (fun h l0 l e0 e1=> ?_) h1 (F0.slot s g hg)
  cases hrr:ρ h with
  |some l2=>rw[qQ hrr]at e1;exact e1
  |none=>
   rw[qP hrr]at e1
   have h2:=I.low E e1
   rw[R0.fresh h h2]at e0;cases e0
 ·rw[if_neg hs]at hg;cases hg
theorem pY.st (E:pY P tb w0 ih all n S HH gg) {k:Nat} {o:Oper} (hk:all[k]? = some o):AB tb ih all o (xT (S k) (o.looksAt all.toArray)) (HH k)=some (gg k,HH (k+1)):=by
 rw[<-E.trc.st k o hk]
 exact JM fun s hs=>by rw[wB,if_pos hs]
theorem qK.loads (E:pY P tb w0 ih all n S HH gg) (hcl:Cl all D) (I:qK w0 ρb n all (S 0) HH gg D a w t ρ pm) (hlast:Gs all D t) {k:Nat} {o:Oper} (hr:Jw all D k o) (hld:kE o.op=true) {h:Nat} {ob:GO} (hh:RH (S k) o.op=some h) (hob:(HH k).get h=some ob):
    ∃p ρ' pm',qK w0 ρb n all (S 0) HH gg D a w p ρ' pm'∧Bg ρ' pm'=Bg ρ pm∧(HH p).get h=some ob:=by
  have hk:=aR hr.get
  have hq:=t_ hld
  have hpu:pureOp tb o.op=false:=by cases ho:o.op<;>rw[ho]at hld<;>first|rfl|cases hld
  have hfl:isFloat o.op=false:=by cases ho:o.op<;>rw[ho]at hld<;>first|rfl|cases hld
  obtain⟨v,hv⟩:∃v,(HH k).ver h=some v:=by
    obtain⟨p,hp,_⟩:=aB.1 (show Gx.ob ((HH k).t.get h) _=some ob from hob)
    exact⟨p.1,by unfold GH.ver;rw[hp];rfl⟩
  obtain⟨v1,v2⟩:=E.vrs k o h v hr.get hld hh hv
  rcases Nat.lt_or_ge k t with htk|htk
  · -- later than in the text
    rcases hlast with e|⟨oj,h1,h2,h3⟩
    · omega
    have hlj:=h2
    simp only[mK,Bool.and_eq_true]at hlj
    have hb:before (lC all) (t - 1) k=false:=by
      cases hb:before (lC all) (t - 1) k with
      |false=>rfl
      |true=>have:=hcl _ _ h3 hb hk;rw[hr.undone]at this;cases this
    have hne:t - 1≠k:=fun e=>by rw[e,hr.undone]at h3;cases h3
    have:=v2 (t - 1) oj (by omega) h1 hlj.1 hb
    rw[show t - 1+1=t by omega]at this
    exact⟨t,ρ,pm,I,rfl,by rw[<-E.same (Nat.le_of_lt htk) I.tm hv this];exact hob⟩
  · -- earlier,or there
    let stp:Nat->Oper->Bool:=fun j oj=>mK oj.op||(isFloat oj.op && !D j)
    have first:∀d t',t'+d=k->t<=t'->(∀j oj,t<=j->j<t'->all[j]? = some oj->stp j oj=false)->∃p,t<=p∧p<=k∧(∀j oj,t<=j->j<p->all[j]? = some oj->stp j oj=false)∧(p=k∨∃op,all[p]? = some op∧stp p op=true):=by
      intro d
      induction d with
      |zero=>exact fun t' e ht h=>⟨t',ht,by omega,h,.inl (by omega)⟩
      | succ d ihd =>
        intro t' e ht h
        have hget:all[t']? = some all[t']:=List.getElem?_eq_getElem (by omega)
        cases hl:stp t' all[t']with
        |true=>exact⟨t',ht,by omega,h,.inr ⟨_,hget,hl⟩⟩
        | false =>
          refine ihd (t'+1) (by omega) (by omega) fun j oj h1 h2 hj=> ?_
          by_cases e:j=t'
          · subst e;rw[hget]at hj;cases hj;exact hl
          · exact h j oj h1 (by omega) hj
    obtain⟨p,hp1,hp2,hp3,hp4⟩:=first (k - t) t (by omega) (Nat.le_refl _) (fun j oj h1 h2=>by omega)
    obtain⟨ρ1,pm1,I1,e1⟩:=I.adoptTo E (p - t) t p ρ pm (by omega) (by omega) fun j oj h1 h2 hj=>by
      have h3:=hp3 j oj h1 h2 hj
      simp only[stp,Bool.or_eq_false_iff,Bool.and_eq_false_iff,Bool.not_eq_false']at h3
      exact ⟨h3.1, fun hfj => by
          rcases h3.2 with h4 | h4; · rw [hfj] at h4; cases h4
          · exact h4⟩
    refine⟨p,ρ1,pm1,I1,e1,?_⟩
    rcases hp4 with e|⟨op,hop,hlp⟩
    · rw[e];exact hob
    · simp only[stp,Bool.or_eq_true,Bool.and_eq_true,Bool.not_eq_true']at hlp
      have hlo:cZ op.op=true:=by
        rcases hlp with h|h
        · simp only[mK,Bool.and_eq_true]at h;exact h.1
        · exact AW h.1
      have hpk:p<k:=by
        rcases Nat.lt_or_ge p k with h|h
        · exact h
        · have:p=k:=by omega
          subst this;rw[hr.get]at hop;cases hop;rw[hq]at hlo;cases hlo
      have hDp:D p=false:=by
        rcases hlp with h|h
        · cases hd:D p with
          |false=>rfl
          |true=>have:=(I.lou p op hop h).1 hd;omega
        · exact h.2
      have hb:before (lC all) k p=false:=by
        cases hb:before (lC all) k p with
        |false=>rfl
        |true=>have:=hr.past p hb (by omega);rw[hDp]at this;cases this
      rw[E.same (Nat.le_of_lt hpk) (Nat.le_of_lt hk) (v1 p op hpk hop hlo hb) hv];exact hob
theorem qK.step (E:pY P tb w0 ih all n S HH gg) (hcl:Cl all D) (I:qK w0 ρb n all (S 0) HH gg D a w t ρ pm) (hlast:Gs all D t) {k:Nat} {o:Oper} (hr:Jw all D k o) {Q:Exit->Act->World->Prop} {K:Act->World->Prop}
  (hK:∀a' w' t' ρ' pm',qK w0 ρb n all (S 0) HH gg (ins D k) a' w' t' ρ' pm'->Gs all (ins D k) t'->K a' w'):Sx.wpOp P all.toArray Q k K a w:=by
 have hk:=aR hr.get
 obtain⟨_,hdst,hoa⟩:=oE (E.op hr.get)
 have hst:=E.st hr.get
 unfold Sx.wpOp
 simp only[List.getElem?_toArray,hr.get]
 cases hp:pureOp tb o.op with
 | true =>
  have hl:mK o.op=false:=by simp[mK,Ap hp]
  have hnf:isFloat o.op=false:=by
   cases hf:isFloat o.op with
   |false=>rfl
   |true=>rw[Ee hf]at hp;cases hp
  have F:=I.frame E hcl hr
  rcases Ab F hst with⟨hw,hg⟩|⟨hw,hg,hH⟩
  ·rw[if_pos hw]
   have hoa':Ev o.op=true:=by
    rcases hoa with h|⟨c,f,h1,h2⟩
    ·exact h
    ·obtain⟨cal,xs,ts⟩:=c
     simp only at h2
     rw[h1,h2]at hp;cases hp
   obtain⟨_,v,hv,hrun⟩:=Oi (P:=P) E.tab F hp hoa' hg
   left
   simp only[Oper.wp,hrun w,Oper.upon]
   exact hK _ _ t ρ pm (I.plain E hcl hr hl (fun h=>by rw[hnf]at h;cases h) hv) hlast.ins
  ·rw[if_neg (by rw[hw];simp)]
   exact hK _ _ t ρ pm (I.plain E hcl hr hl (fun h=>by rw[hnf]at h;cases h) (by rw[hg];exact .un)) hlast.ins
 | false =>
  cases hf:isFloat o.op with
  | true =>
   have hl:mK o.op=false:=by simp[mK,hf]
   have F:=I.frame E hcl hr
   rcases FL (P:=P) E.tab hf F hst with⟨hw,hg,hH⟩|⟨hw,cs,a',T',hH,hC,hlen,hrun⟩
   ·rw[if_neg (by rw[hw];simp)]
    exact hK _ _ t ρ pm (I.plain E hcl hr hl (fun _=>hH) (by rw[hg];exact .un)) hlast.ins
   ·rw[if_pos hw]
    obtain⟨V,hV,hrel⟩:=hrun w
    left
    simp only[Oper.wp,hV,Oper.upon]
    have htk:t<=k:=by
     rcases Nat.lt_or_ge k t with h|h
     ·have:=I.flo k o hr.get hf h;rw[hr.undone]at this;cases this
     ·exact h
    let l:Fq:=⟨w.heap.size,0,a'.size,.cells a' T',.cells cs⟩
    have e:CG w (w.alloc (.cells a' T')):=(Below.refl _ _).alloc (Nat.le_refl _) _
    have hρ:ρ (HH k).n=none:=I.rel.fresh _ (E.mono' htk (by omega))
    have hpm:pm (HH k).n=none:=by
     cases hq:pm (HH k).n with
     |none=>rfl
     |some l1=>
      obtain⟨i,oi,ci,h1,h2,h3,h4,h5,h6⟩:=I.only _ _ hq
      have:=E.apart (aR h1) hk h3 hH h6.symm
      subst this
      rw[hr.undone]at h5;cases h5
    let pm':=pm.upd (HH k).n l
    have hself:pm' (HH k).n=some l:=by simp[pm',cS.upd]
    have hoth:∀h,h≠(HH k).n->pm' h=pm h:=fun h hh=>by simp[pm',cS.upd,hh]
    have hle:(Bg ρ pm).le (Bg ρ pm'):=fun h l1 h1=>by
     cases hr1:ρ h with
     |some l2=>rw[qQ hr1]at h1;rw[qQ hr1];exact h1
     |none=>
      rw[qP hr1]at h1;rw[qP hr1,hoth h (fun eh=>by subst eh;rw[hpm]at h1;cases h1)];exact h1
    have hjl:Bg ρ pm' (HH k).n=some l:=by rw[qP hρ,hself]
    obtain⟨p1,p2⟩:=Aq a o.dst V
    have old:∀h l1,pm h=some l1->l1.b<w.heap.size:=fun h l1 h1=>by
     obtain⟨i,oi,ci,q1,q2,q3,q4,q5,rfl⟩:=I.only _ _ h1
     obtain⟨l2,r1,_,_,r4,_⟩:=I.pend i oi ci q1 q2 q3 q4 q5
     rw[h1]at r1;cases r1
     exact(Array.getElem?_eq_some_iff.1 r4).1
    refine hK _ _ t ρ pm' ⟨I.tm,fun j oj hj hlj=> ?_,fun j oj hj hfj hlt=>tY (I.flo j oj hj hfj hlt),I.rel.ext' e,I.up,by rw[p1];exact I.defers,by rw[p2];exact I.size,hr.slot E.chk hcl hdst I.size hle I.slot (hrel _ hjl),fun i oi ci h1 h2 h3 h4 h5=> ?_,fun h l1 hp1=> ?_,fun h h' l1 l2 h1 h2 hb=> ?_⟩ hlast.ins
    ·have e:j≠k:=fun e=>by subst e;rw[hr.get]at hj;cases hj;rw[hl]at hlj;cases hlj
     rw[sQ e];exact I.lou j oj hj hlj
    ·by_cases ei:i=k
     ·subst ei
      rw[hH]at h3
      have:=Ms h3
      subst this
      refine⟨l,hself,.inl I.rel.ext.size,?_,heap_alloc_new w _,⟨a',T',heap_alloc_new w _,rfl,by show 0+cs.length<=a'.size;omega,fun j g hg=> ?_⟩,rfl⟩
      ·rintro⟨h,o',l',hg,hl',eb⟩
       obtain⟨l2,r1,_,r3⟩:=I.rel.live h o' hg
       rw[hl']at r1;cases r1
       have:=r3.lt
       rw[eb]at this
       exact absurd this (Nat.lt_irrefl _)
      ·obtain⟨x,hx,hrx⟩:=hC.r.get hg
       rw[Array.getElem?_toList]at hx
       exact⟨x,by show a'[0+j]? = some x;simpa using hx,hrx.le hle,GM hC.one hx⟩
     ·rw[sQ ei]at h5
      obtain⟨l1,a1,a2,a3,a4,a5,a6⟩:=I.pend i oi ci h1 h2 h3 h4 h5
      have hne:(HH i).n≠(HH k).n:=fun eh=>ei (E.apart (aR h1) hk h3 hH eh)
      have hb:=old _ _ a1
      exact⟨l1,by rw[hoth _ hne];exact a1,a2,a3,by rw[e.block _ hb];exact a4,a5.move hle (e.block _ hb),a6⟩
    ·by_cases eh:h=(HH k).n
     ·exact⟨k,o,cs,hr.get,hf,hH,htk,tZ D k,eh⟩
     ·rw[hoth h eh]at hp1
      obtain⟨i,oi,ci,q1,q2,q3,q4,q5,q6⟩:=I.only h l1 hp1
      exact⟨i,oi,ci,q1,q2,q3,q4,tY q5,q6⟩
    ·by_cases eh:h=(HH k).n
     ·by_cases eh':h'=(HH k).n
      ·rw[eh,eh']
      ·rw[hoth h' eh']at h2
       subst eh;rw[hself]at h1;cases h1
       have:=old _ _ h2
       rw[<-hb]at this
       exact absurd this (Nat.lt_irrefl _)
     ·rw[hoth h eh]at h1
      by_cases eh':h'=(HH k).n
      ·subst eh';rw[hself]at h2;cases h2
       have:=old _ _ h1
       rw[hb]at this
       exact absurd this (Nat.lt_irrefl _)
      ·rw[hoth h' eh']at h2
       exact I.inj h h' l1 l2 h1 h2 hb
  | false =>
   cases hld:kE o.op with
   | true =>
    have hl:mK o.op=false:=by simp[mK,t_ hld]
    have F0:=I.frame E hcl hr
    rcases Ab F0 hst with⟨hw,hg⟩|⟨hw,hg,hH⟩
    ·rw[if_pos hw]
     have hopl:∃T x,o.op = .load T x:=by
      cases ho:o.op<;>rw[ho]at hld<;>first|exact⟨_,_,rfl⟩|cases hld
     obtain⟨T,x,hox⟩:=hopl
     rw[hox]at hg
     obtain⟨va,hva,hg⟩:=aB.1 (show ob (gN (xT (S k) (o.looksAt all.toArray)) x) _=some (gg k,HH (k+1))from hg)
     obtain⟨g',hld',hk'⟩:=aB.1 hg
     have eg:g'=gg k:=by
      have:=congrArg (fun o=>o.map Prod.fst) (show some (g',HH k)=some (gg k,HH (k+1))from hk')
      simpa using this
     rw[eg]at hld'
     obtain⟨q,hq,hc⟩:=aB.1 (show ob va.asP _=some (gg k)from hld')
     obtain⟨cs,hcs,hc⟩:=aB.1 hc
     have hget:=fD.1 hcs
     have hxt:∀s,x = .tmp s->s∈o.looksAt all.toArray:=fun s e=>List.mem_append_left _ (List.mem_filterMap.2 ⟨.tmp s,by rw[hox,e];simp[Op.operands],rfl⟩)
     have hva':gN (S k) x=some va:=by
      rw[<-hva]
      cases x with
      |tmp s=>
       show AC (S k) s=AC (xT (S k) (o.looksAt all.toArray)) s
       rw[wB,if_pos (hxt s rfl)]
      |_=>rfl
     have hh:RH (S k) o.op=some q.1:=by
      rw[hox]
      show ob (gN (S k) x) _=_
      rw[hva']
      show ob va.asP _=_
      rw[hq];rfl
     obtain⟨p,ρ1,pm1,I1,hj1,hgp⟩:=I.loads E hcl hlast hr hld hh hget
     have hv0:=bS F0 hva
     have hv1:Rl ρ1 va (a.eval x):=by
      rw[yJ hq]at hv0 ⊢
      obtain⟨l,hl,e⟩:=hv0.ptr_inv
      obtain⟨l1,hl1,_⟩:=I1.rel.live _ _ hgp
      rw[<-hj1,qQ hl1]at hl
      cases hl
      rw[e];exact .ptr _ hl1
     have hload:bQ tb T va (HH p)=some (gg k):=by
      show ob va.asP _=_
      rw[hq]
      show ob ((HH p).cells q.1) _=_
      rw[fD.2 hgp]
      exact hc
     obtain⟨X,_,l,_,_,_,hX,hrun⟩:=EM (P:=P) E.tab I1.rel hv1 hload
     left
     have hr1:(execOp a.eval o).run P w = .ok (.value X) w:=by
      have:=hrun w rfl
      obtain⟨d,op,ty,pos,aft,gd⟩:=o
      simp only at hox
      subst hox
      simp[execOp,this]
     simp only[Oper.wp,hr1,Oper.upon]
     exact hK _ _ t ρ pm (I.plain E hcl hr hl (fun h=>by rw[hf]at h;cases h) (by rw[<-hj1];exact hX.le BA)) hlast.ins
    ·rw[if_neg (by rw[hw];simp)]
     exact hK _ _ t ρ pm (I.plain E hcl hr hl (fun h=>by rw[hf]at h;cases h) (by rw[hg];exact .un)) hlast.ins
   |false=>
   obtain⟨ρ1,pm1,I1,hj1⟩:=I.reach E hcl hlast hr hp hf hld
   have F:=I1.frame' E hcl hr
   cases hlo:cZ o.op with
   | false =>
    have hl:mK o.op=false:=by simp[mK,hlo]
    have fin:∀v,Rl ρ1 (gg k) v->qK w0 ρb n all (S 0) HH gg (ins D k) (a.put o.dst v) w t ρ pm:=fun v hv=>
     I.plain E hcl hr hl (fun h=>by rw[hf]at h;cases h) (by rw[<-hj1];exact hv.le BA)
    rcases Dj E.tab (E.call w0) (E.op hr.get) F I1.rel hst with⟨hw,hs⟩|⟨hw,hg,hH⟩
    ·rw[if_pos hw]
     left
     rcases hs with⟨_,_,_,_,v,hv,hrun⟩|⟨_,_,_,v,_,_,_,_,_,hv,hrun⟩|⟨_,_,_,v,hv,hrun⟩|⟨hq,_⟩
     ·simp only[Oper.wp,hrun w,Oper.upon];exact hK _ _ t ρ pm (fin v hv) hlast.ins
     ·simp only[Oper.wp,hrun w rfl,Oper.upon];exact hK _ _ t ρ pm (fin v hv) hlast.ins
     ·simp only[Oper.wp,hrun,Oper.upon];exact hK _ _ t ρ pm (fin v hv) hlast.ins
     ·rw[hlo]at hq;cases hq
    ·rw[if_neg (by rw[hw];simp)]
     exact hK _ _ t ρ pm (fin undef (by rw[hg];exact .un)) hlast.ins
   | true =>
    have hl:mK o.op=true:=by simp[mK,hlo,hf]
    have hkn:∀(i:Nat) (oi:Oper) (ci:List GV),all[i]? = some oi->isFloat oi.op=true->i≠k:=fun i oi ci h1 h2 e=>by
     subst e;rw[hr.get]at h1;cases h1;rw[hf]at h2;cases h2
    have lou':∀j o,all[j]? = some o->mK o.op=true->(ins D k j=true↔j<k+1):=fun j oj hj hlj=>by
     by_cases e:j=k
     ·subst e;simp[tZ]
     ·rw[sQ e,I1.lou j oj hj hlj];omega
    have flo':∀j o,all[j]? = some o->isFloat o.op=true->j<k+1->ins D k j=true:=fun j oj hj hfj hlt=>by
     have:=hkn j oj [] hj hfj
     exact tY (I1.flo j oj hj hfj (by omega))
    have only':∀h l,pm1 h=some l->∃i o cs,all[i]? = some o∧isFloat o.op=true∧HH (i+1)=(HH i).new (.cells cs)∧k+1<=i∧ins D k i=true∧h=(HH i).n:=fun h l hp1=>by
     obtain⟨i,oi,ci,q1,q2,q3,q4,q5,q6⟩:=I1.only h l hp1
     have:=hkn i oi ci q1 q2
     exact⟨i,oi,ci,q1,q2,q3,by omega,tY q5,q6⟩
    have hlast':Gs all (ins D k) (k+1):= .inr ⟨o,by simpa using hr.get,hl,by simp[tZ]⟩
    rcases Dj E.tab (E.call I1.rel.base) (E.op hr.get) F I1.rel.rebase hst with⟨hw,hs⟩|⟨hw,hg,hH⟩
    ·rw[if_pos hw]
     left
     rcases hs with⟨hq,_⟩|⟨hq,_⟩|⟨hq,_⟩|⟨_,hrun⟩
     ·rw[hlo]at hq;cases hq
     ·rw[hlo]at hq;cases hq
     ·rw[hlo]at hq;cases hq
     refine Eu (hrun _ fun ρ2 w2 v hle R2 hv=>hK _ _ (k+1) ρ2 pm1 ?_ hlast')
     obtain⟨R3,hframe⟩:=I1.rel.back R2
     have hj:(Bg ρ1 pm1).le (Bg ρ2 pm1):=fun h l h1=>by
      cases hr1:ρ1 h with
      |some l2=>rw[qQ hr1]at h1;cases h1;exact qQ (hle _ _ hr1)
      |none=>
       rw[qP hr1]at h1
       obtain⟨i,oi,ci,q1,q2,q3,q4,q5,rfl⟩:=only' h l h1
       rw[qP (R2.fresh _ (E.mono' q4 (Nat.le_of_lt (aR q1))))];exact h1
     obtain⟨p1,p2⟩:=Aq a o.dst v
     refine⟨hk,lou',flo',R3,cS.le_trans I1.up hle,by rw[p1];exact I1.defers,by rw[p2];exact I1.size,hr.slot E.chk hcl hdst I1.size hj I1.slot (hv.le BA),fun i oi ci h1 h2 h3 h4 h5=> ?_,only',I1.inj⟩
     rw[sQ (hkn i oi ci h1 h2)]at h5
     obtain⟨l1,a1,a2,a3,a4,a5,a6⟩:=I1.pend i oi ci h1 h2 h3 (by omega) h5
     have hb:l1.b<w.heap.size:=(Array.getElem?_eq_some_iff.1 a4).1
     refine⟨l1,a1,a2,?_,by rw[hframe _ hb a3];exact a4,a5.move hj (hframe _ hb a3),a6⟩
     rintro⟨h,o',l',hg,hl',eb⟩
     obtain⟨l2,r1,r2,_⟩:=R2.live h o' hg
     rw[hl']at r1;cases r1
     rw[eb]at r2
     rcases r2 with r2|r2
     ·have:w.heap.size<=l1.b:=r2
      omega
     ·exact a3 r2
    ·rw[if_neg (by rw[hw];simp)]
     obtain⟨p1,p2⟩:=Aq a o.dst undef
     refine hK _ _ (k+1) ρ1 pm1 ⟨hk,lou',flo',by rw[hH];exact I1.rel,I1.up,by rw[p1];exact I1.defers,by rw[p2];exact I1.size,hr.slot E.chk hcl hdst I1.size (cS.le_refl _) I1.slot (by rw[hg];exact .un),fun i oi ci h1 h2 h3 h4 h5=> ?_,only',I1.inj⟩ hlast'
     rw[sQ (hkn i oi ci h1 h2)]at h5
     rw[hH]
     exact I1.pend i oi ci h1 h2 h3 (by omega) h5
theorem qK.done (E:pY P tb w0 ih all n S HH gg) (I:qK w0 ρb n all (S 0) HH gg D a w t ρ pm) (hall:∀i,i<all.length->D i=true):∃ρ',ρb.le ρ'∧dU w0 ρ' (HH all.length) w∧iA ρ' n (S all.length) a:=by
 obtain⟨ρ1,pm1,I1,_⟩:=I.adoptTo E (all.length - t) t all.length ρ pm (by have:=I.tm;omega) (Nat.le_refl _) fun j oj h1 h2 hj=>by
  refine⟨?_,fun _=>hall j h2⟩
  cases hl:mK oj.op with
  |false=>rfl
  |true=>have:=(I.lou j oj hj hl).1 (hall j h2);omega
 refine⟨ρ1,I1.up,I1.rel,I1.defers,I1.size,fun s g hg=> ?_⟩
 have hpm:∀h,pm1 h=none:=fun h=>by
  cases hq:pm1 h with
  |none=>rfl
  |some l=>
   obtain⟨i,oi,ci,h1,_,_,h4,_⟩:=I1.only h l hq
   have:=aR h1;omega
 have hj:Bg ρ1 pm1=ρ1:=by
  funext h
  unfold Bg
  rw[hpm]
  cases ρ1 h<;>rfl
 have hs:Vm all (S 0) gg D s g:=by
  rcases EL E.trc all.length (Nat.le_refl _) hg with⟨i,o,h1,h2,h3,h4,h5⟩|⟨h1,h2⟩
  ·refine .inl ⟨i,o,hall i h1,h2,h3,h4,fun j oj hD hj hd=> ?_⟩
   rcases Nat.lt_or_ge i j with h|h
   ·exact absurd hd (h5 j oj h (aR hj) hj)
   ·exact h
  ·exact .inr ⟨fun j oj hD hj=>h1 j oj (aR hj) hj,h2⟩
 have:=I1.slot s g hs
 rwa[hj]at this
theorem Me (E:pY P tb w0 ih all n S HH gg) {Q:Exit->Act->World->Prop} (hQ:∀ρ' a' w',ρb.le ρ'->dU w0 ρ' (HH all.length) w'->iA ρ' n (S all.length) a'->Q .normal a' w'):
  ∀(fuel:Nat) (L:List Nat) (listed:Array Bool) (a:Act) (w:World) (t:Nat) (ρ pm:cS),L.length<=fuel->listed.size=all.length->(∀i,i<all.length->listed.getD i false=false->i∈L)->Cl all (fun j=>listed.getD j false)->
  qK w0 ρb n all (S 0) HH gg (fun j=>listed.getD j false) a w t ρ pm->Gs all (fun j=>listed.getD j false) t->Sx.wpAny P .any all.toArray Q fuel listed a w:=by
 intro fuel
 induction fuel with
 | zero =>
  intro L listed a w t ρ pm hlen hsz hmem hcl I hlast
  have hL:L=[]:=List.eq_nil_of_length_eq_zero (by omega)
  subst hL
  have hall:∀i,i<all.length->listed.getD i false=true:=fun i hi=>by
   cases hq:listed.getD i false with
   |true=>rfl
   |false=>have:=hmem i hi hq;simp at this
  refine⟨?_,?_⟩
  ·rw[List.eq_nil_iff_forall_not_mem]
   intro i hi
   obtain⟨h0,o,ho,_⟩:=mem_ready.1 hi
   have hlt:i<all.length:=by have:=(Array.getElem?_eq_some_iff.1 ho).1;simpa using this
   have:=hall i hlt
   have hs:i<listed.size:=by omega
   simp[hs]at this h0
   rw[h0]at this;cases this
  ·obtain⟨ρ',h0,h1,h2⟩:=I.done E hall
   exact hQ ρ' a w h0 h1 h2
 | succ fuel ihf =>
  intro L listed a w t ρ pm hlen hsz hmem hcl I hlast
  refine⟨fun hrd=> ?_,fun k hk=> ?_⟩
  ·have hall:∀i,i<all.length->listed.getD i false=true:=by
    intro i
    induction i using Nat.strongRecOn with
    | ind i ihi =>
     intro hi
     cases hq:listed.getD i false with
     |true=>rfl
     | false =>
      exfalso
      have ho:all[i]? = some all[i]:=List.getElem?_eq_getElem hi
      have hmr:i∈Region.ready .any all.toArray listed:=by
       refine mem_ready.2 ⟨?_,all[i],by simp,fun e he hb=> ?_⟩
       ·have hs:i<listed.size:=by omega
        simp[hs]at hq ⊢;exact hq
       ·have hee:e.on∈oI all[i]:=List.mem_map.2 ⟨e,List.mem_filter.2 ⟨by simpa using he,hb⟩,rfl⟩
        have:=(E.chk.edge i _ ho e.on hee).1
        exact ihi e.on this (by omega)
      rw[hrd]at hmr
      simp at hmr
   obtain⟨ρ',h0,h1,h2⟩:=I.done E hall
   exact hQ ρ' a w h0 h1 h2
  ·obtain⟨h0,o,ho',hedge⟩:=mem_ready.1 hk
   have ho:all[k]? = some o:=by simpa using ho'
   have hkl:k<all.length:=aR ho
   have hks:k<listed.size:=by omega
   have h0':listed.getD k false=false:=by simp[hks]at h0 ⊢;exact h0
   have hr:Jw all (fun j=>listed.getD j false) k o:=by
    refine⟨ho,h0',fun j hb hj=> ?_⟩
    obtain⟨_,e,he,hej⟩:=E.chk.trans k o ho j hb hj
    obtain⟨ed,hed,rfl⟩:=List.mem_map.1 he
    obtain⟨hed1,hed2⟩:=List.mem_filter.1 hed
    have hl:=hedge ed (by simpa using hed1) hed2
    rcases hej with rfl|hej
    ·exact hl
    ·exact hcl _ _ hl hej hj
   have hD:(fun j=>(listed.setIfInBounds k true).getD j false)=ins (fun j=>listed.getD j false) k:=by
    funext j
    by_cases e:j=k
    ·subst e;rw[tZ];simp[hks]
    ·rw[sQ e]
     exact getD_set_ne false (Ne.symm e)
   refine I.step E hcl hlast hr fun a' w' t' ρ' pm' I' hlast'=> ?_
   refine ihf (L.erase k) _ a' w' t' ρ' pm' ?_ (by simp[hsz]) (fun i hi hq=> ?_) ?_ (by rw[hD];exact I') (by rw[hD];exact hlast')
   ·have hm:=hmem k hkl h0'
    rw[List.length_erase_of_mem hm]
    omega
   ·have e:i≠k:=fun e=>by
     subst e
     have:=congrFun hD i
     rw[tZ]at this
     rw[hq]at this;cases this
    have:listed.getD i false=false:=by
     have:=congrFun hD i
     rw[sQ e]at this
     rw[<-this];exact hq
    exact(List.mem_erase_of_ne e).2 (hmem i hi this)
   ·rw[hD]
    intro j k' hj hb hk'
    by_cases e:j=k
    ·subst e;exact tY (hr.past k' hb hk')
    ·rw[sQ e]at hj
     exact tY (hcl j k' hj hb hk')
theorem GK (hG:dK P tb) (hcall:∀w0:cM gs,nD P w0 ih) (hm:P.follows .mixedOrders=true) {ops:List Oper} {id:Nat} (hops:ops.all (Cq n)=true) (hc:chkF tb ops (lC ops)=true) {k:GS->RS} {s:GS} {out:HC} {ρ:cS} {a:Act} {w:World} {Q:Exit->Act->World->Prop} (F:iA ρ n s.σ a) (R:dU w0 ρ s.H w) (h:(AI tb ih ops k ops s=some out∧Ah ops kE=true)∨Vf tb ih ops (lC ops) k ops 0 [] [] s=some out)
  (hk:∀s' ρ' a' w',k s'=some out->ρ.le ρ'->iA ρ' n s'.σ a'->dU w0 ρ' s'.H w'->Q .normal a' w'):(Code.region id ops.toArray true).wpr none P Q a w:=by
 have hnd:ops.all fY=true:=List.all_eq_true.2 fun o hmo=>(oE (List.all_eq_true.1 hops o hmo)).1
 obtain⟨S,HH,gg,e1,e2,T,hvrs,hout⟩:∃S HH gg,S 0=s.σ∧HH 0=s.H∧SL tb ih ops ops S HH gg∧(∀k ok h v,ops[k]? = some ok->kE ok.op=true->RH (S k) ok.op=some h->(HH k).ver h=some v->
   (∀j oj,j<k->ops[j]? = some oj->cZ oj.op=true->before (lC ops) k j=false->(HH j).ver h=some v)∧(∀j oj,k<j->ops[j]? = some oj->cZ oj.op=true->before (lC ops) j k=false->(HH (j+1)).ver h=some v))∧k ⟨S ops.length,HH ops.length⟩=some out:=by
  rcases h with⟨h,ho⟩|h
  ·obtain⟨S,HH,gg,e1,e2,T,hout⟩:=FH ops s h
   refine⟨S,HH,gg,e1,e2,T,fun k ok h v hk hl _ _=>⟨fun j oj hjk hj hlj hb=> ?_,fun j oj hjk hj hlj hb=> ?_⟩,hout⟩
   ·rcases BD ho hk hj hl hlj with h1|h1
    ·rw[h1]at hb;cases hb
    ·have:=((Cc hc).trans j oj hj k h1 (aR hk)).1;omega
   ·rcases BD ho hk hj hl hlj with h1|h1
    ·have:=((Cc hc).trans k ok hk j h1 (aR hj)).1;omega
    ·rw[h1]at hb;cases hb
  ·obtain⟨S,HH,gg,e1,e2,T,V,hout⟩:=Dk ops 0 [] [] s h
   exact⟨S,HH,gg,e1,e2,T,fun k ok h v hk hl hh hv=>by have:=V.lo k ok h v hk hl hh hv;simpa using this,hout⟩
 rw[<-e1]at F
 rw[<-e2]at R
 have E:pY P tb w0 ih ops n S HH gg:=⟨hG,hcall,hops,Cc hc,T,hvrs,Gd hG (hcall w0) hops T F R _ (Nat.le_refl _)⟩
 have hD:∀j,(Array.replicate ops.length false).getD j false=false:=fun j=>by
  by_cases h:j<ops.length<;>simp[h]
 refine zV hnd hm ?_
 have hsz:ops.toArray.size=ops.length:=by simp
 rw[hsz]
 refine Me (ρb:=ρ) E (fun ρ' a' w' h0 h1 h2=>hk ⟨S ops.length,HH ops.length⟩ ρ' a' w' hout h0 h2 h1) ops.length (List.range ops.length) _ a _ 0 ρ (fun _=>none) (by simp) (by simp) (fun i hi _=>List.mem_range.2 hi) (fun j k' hj=>by simp only[hD]at hj;cases hj) ?_ (.inl rfl)
 refine⟨Nat.zero_le _,fun j o _ _=>by simp only[hD];simp,fun j o _ _ h=>absurd h (Nat.not_lt_zero j),R.ext' ((Below.refl _ _).drew),cS.le_refl _,F.defers,F.size,fun s' g hs=> ?_,fun i o cs _ _ _ _ h5=>(by simp only[hD]at h5;cases h5),fun h l hp=>(by cases hp),fun h h' l l' hp=>(by cases hp)⟩
 rcases hs with⟨i,o,h1,_⟩|⟨_,h2⟩
 ·simp only[hD]at h1;cases h1
 ·exact(F.slot s' g h2).le BA
end
end
section
def BW (tb:TB) (n:Nat):Code->Bool
 | .skip | .exit _ | .ret=>true
 | .region _ ops dr=>ops.toList.all (Cq n)&&(!dr||chkF tb ops.toList (lC ops.toList))
 | .seq a b=>BW tb n a&&BW tb n b
 | .cond _ a b=>BW tb n a&&BW tb n b
 | .block _ b=>BW tb n b
 | .loop b=>BW tb n b
 |_=>false
section
variable {P:Program} {G:GP} {tb:TB} {Fs:FT} {gs:rK} {w0:cM gs}
def yC (P:Program) (body:Code) (Q:Exit->Act->World->Prop) (a:Act) (w:World):Prop:=
 ∀(b:Frame) (k:List Item) (cs:List Frame),b.roundOf=(FR none).round->(FR none).fn b.fn->(FR none).room (cs.length+1+0)->
  ∃e a' w',Q e a' w'∧ArrivesIn (Machine.fenced P (FR none)) P (lone (b.atR a (.code body :: .inLoop body::k)) cs w) b k cs e a' w'
theorem yC.loop {body:Code} {Q:Exit->Act->World->Prop} {a:Act} {w:World} (h:yC P body Q a w):(Code.loop body).wpr none P Q a w:=by
 intro b k cs hro hb hr
 obtain⟨e,a',w',hq,harr⟩:=h b k cs hro hb hr
 exact⟨e,a',w',hq,.of_steps (.one (fenced_calm hb hr rfl) stepR_loop) harr⟩
theorem yC.round {body:Code} {Q:Exit->Act->World->Prop} {a:Act} {w:World} (h:body.wpr none P (Exit.then (yC P body Q) Q) a w):yC P body Q a w:=by
 intro b k cs hro hb hr
 obtain⟨e,a₁,w₁,hq,harr⟩:=h b (.inLoop body::k) cs hro hb hr
 cases e with
 |normal=>
  obtain⟨e₂,a₂,w₂,hq₂,harr₂⟩:=hq b k cs hro hb hr
  exact⟨e₂,a₂,w₂,hq₂,.of_steps (StepsIn.trans harr (.one (fenced_calm hb hr rfl) stepR_inLoop)) harr₂⟩
 |exit id=>exact⟨_,a₁,w₁,hq,.pass (x:= .inLoop body) rfl (fun _ _=> .inl (by simp)) harr⟩
 |goto l=>exact⟨_,a₁,w₁,hq,.pass (x:= .inLoop body) rfl (fun _ _=> .inl (by simp)) harr⟩
 |ret=>exact⟨_,a₁,w₁,hq,.pass (x:= .inLoop body) rfl (fun _ _=> .inl (by simp)) harr⟩
 |panic ch=>exact⟨_,a₁,w₁,hq,.pass (x:= .inLoop body) rfl (fun _ _=> .inl (by simp)) harr⟩
 |outgrown=>exact⟨_,a₁,w₁,hq,.pass (x:= .inLoop body) rfl (fun _ _=> .inl (by simp)) harr⟩
noncomputable def Dl (cx:Cx) (id:Nat) (s:GS):RS:=some ⟨.exit id,wH s.σ (iH (vG cx.env id)),s.H⟩
structure Nf {gs:rK} (w0:cM gs) (tb:TB) (n:Nat) (cx:Cx) (k:GS->RS) (out:HC) (ρ:cS) (Q:Exit->Act->World->Prop):Prop where
 k:∀s' ρ' a' w',k s'=some out->ρ.le ρ'->iA ρ' n s'.σ a'->dU w0 ρ' s'.H w'->Q .normal a' w'
 x:∀id s' ρ' a' w',Dl cx id s'=some out->ρ.le ρ'->iA ρ' n s'.σ a'->dU w0 ρ' s'.H w'->Q (.exit id) a' w'
 r:∀s' ρ' a' w',Kf tb cx s'=some out->ρ.le ρ'->iA ρ' n s'.σ a'->dU w0 ρ' s'.H w'->Q .ret a' w'
def BX (P:Program) {gs:rK} (w0:cM gs) (tb:TB) (lp:LH):Prop:=∀b cx vs H out,lp b cx vs H=some out->∀n σ ρ a w Q,BW tb n b=true->gF (iH (live (.loop b) 0 cx)) vs some=some σ->iA ρ n σ a->dU w0 ρ H w->
 (∀id s' ρ' a' w',Dl cx id s'=some out->ρ.le ρ'->iA ρ' n s'.σ a'->dU w0 ρ' s'.H w'->Q (.exit id) a' w')->
 (∀s' ρ' a' w',Kf tb cx s'=some out->ρ.le ρ'->iA ρ' n s'.σ a'->dU w0 ρ' s'.H w'->Q .ret a' w')->yC P b Q a w
theorem Hh {cx:Cx} {s:GS} {out:HC} (h:Kf tb cx s=some out):out.e = .ret:=by
 obtain⟨vs,_,h⟩:=aB.1 (show ob (II tb s cx.res) _=some out from h)
 cases h;rfl
theorem tK {cx:Cx} {id:Nat} {s:GS} {out:HC} (h:Dl cx id s=some out):out.e = .exit id:=by cases h;rfl
theorem Ke {ks:List Nat} {s:GS} {out:HC} (h:BG ks s=some out):out.e = .normal∧out.vs=wH s.σ ks∧out.H=s.H:=by cases h;exact⟨rfl,rfl,rfl⟩
theorem JV {n:Nat} {cx:Cx} {ks:List Nat} {k:GS->RS} {o out:HC} {ρ:cS} {Q:Exit->Act->World->Prop} (L:Nf w0 tb n cx k out ρ Q) (h:gF ks o.vs (fun σ=>k ⟨σ,o.H⟩)=some out) {s':GS} {ρ':cS} {a':Act} {w':World}
  (hv:o.vs=wH s'.σ ks) (hH:o.H=s'.H) (hle:ρ.le ρ') (F:iA ρ' n s'.σ a') (R:dU w0 ρ' s'.H w'):Q .normal a' w':=by
 obtain⟨σ,h1,h2⟩:=mF h
 rw[hv]at h1
 exact L.k ⟨σ,o.H⟩ ρ' a' w' h2 hle (Ds F h1) (by rw[hH];exact R)
theorem w_ {ch:CH} {lp:LH} (hG:dK P tb) (hm:P.follows .mixedOrders=true) (hcall:∀w0:cM gs,nD P w0 ch) (hloop:BX P w0 tb lp) {n:Nat}:∀(c:Code) (m:Nat) (cx:Cx) (k:GS->RS) (s:GS) (out:HC) (ρ:cS) (a:Act) (w:World) (Q:Exit->Act->World->Prop),
  BW tb n c=true->Rn tb ch lp c m cx k s=some out->iA ρ n s.σ a->dU w0 ρ s.H w->Nf w0 tb n cx k out ρ Q->c.wpr none P Q a w
 | .skip,m,cx,k,s,out,ρ,a,w,Q,_,h,F,R,L=>Jf (L.k s ρ a w h (cS.le_refl _) F R)
 | .region id ops dr, m, cx, k, s, out, ρ, a, w, Q, ho, h, F, R, L => by
  have ho':ops.toList.all (Cq n)=true∧(!dr||chkF tb ops.toList (lC ops.toList))=true:=by simpa [BW]using ho
  have hnd:ops.toList.all fY=true:=List.all_eq_true.2 fun o hmo=>(oE (List.all_eq_true.1 ho'.1 o hmo)).1
  have h':Bool.casesOn (motive:=fun _=>RS) (U_ dr ops.toList) (AI tb ch ops.toList k ops.toList s) (Vf tb ch ops.toList (lC ops.toList) k ops.toList 0 [] [] s)=some out:=h
  have e:ops=ops.toList.toArray:=by simp
  cases dr with
  |false=>
   rw[e]
   exact nT hnd (Bv hG (hcall w0) ops.toList s ρ a w ho'.1 F R h' L.k)
  | true =>
   rw[e]
   have hF:chkF tb ops.toList (lC ops.toList)=true:=by simpa using ho'.2
   have h2:(AI tb ch ops.toList k ops.toList s=some out∧Ah ops.toList kE=true)∨Vf tb ch ops.toList (lC ops.toList) k ops.toList 0 [] [] s=some out:=by
    cases hwl:U_ true ops.toList with
    |true=>rw[hwl]at h';exact .inr h'
    |false=>
     rw[hwl]at h'
     have:(!Ah ops.toList kE)=false:=hwl
     exact .inl ⟨h',by simpa using this⟩
   exact GK hG hcall hm ho'.1 hF F R h2 L.k
 | .seq x y,m,cx,k,s,out,ρ,a,w,Q,ho,h,F,R,L=>by
  have ho':BW tb n x=true∧BW tb n y=true:=by simpa [BW]using ho
  refine LF (w_ hG hm hcall hloop x (live y m cx) cx (Rn tb ch lp y m cx k) s out ρ a w _ ho'.1 h F R ⟨fun s' ρ' a' w' hk hle F' R'=> ?_,L.x,L.r⟩)
  exact w_ hG hm hcall hloop y m cx k s' out ρ' a' w' Q ho'.2 hk F' R' ⟨fun s2 ρ2 a2 w2 h1 h2=>L.k s2 ρ2 a2 w2 h1 (cS.le_trans hle h2),fun id s2 ρ2 a2 w2 h1 h2=>L.x id s2 ρ2 a2 w2 h1 (cS.le_trans hle h2),fun s2 ρ2 a2 w2 h1 h2=>L.r s2 ρ2 a2 w2 h1 (cS.le_trans hle h2)⟩
 | .cond x thn els, m, cx, k, s, out, ρ, a, w, Q, ho, h, F, R, L => by
  have ho':BW tb n thn=true∧BW tb n els=true:=by simpa [BW]using ho
  obtain⟨v,hv,h⟩:=aB.1 (show ob (gN s.σ x) _=some out from h)
  obtain⟨b,hb,h⟩:=aB.1 h
  obtain⟨o,h1,h⟩:=aB.1 (show ob _ (fun o=>Ex.casesOn (motive:=fun _=>RS) o.e (gF (iH m) o.vs fun σ=>k ⟨σ,o.H⟩) (fun _=>some o) (some o))=some out from h)
  have hx:=bS F hv
  rw[wY hb]at hx
  have L':Nf w0 tb n cx (BG (iH m)) o ρ Q:=by
   refine⟨fun s' ρ' a' w' hk hle F' R'=> ?_,fun id s' ρ' a' w' hk hle F' R'=> ?_,fun s' ρ' a' w' hk hle F' R'=> ?_⟩
   ·obtain⟨e1,e2,e3⟩:=Ke hk
    rw[e1]at h
    exact JV L h e2 e3 hle F' R'
   ·have e1:=tK hk
    rw[e1]at h;cases h
    exact L.x id s' ρ' a' w' hk hle F' R'
   ·have e1:=Hh hk
    rw[e1]at h;cases h
    exact L.r s' ρ' a' w' hk hle F' R'
  refine zU hx.bool_inv (fun hbt=> ?_) (fun hbf=> ?_)
  ·rw[hbt]at h1
   exact w_ hG hm hcall hloop thn m cx (BG (iH m)) s o ρ a w Q ho'.1 h1 F R L'
  ·rw[hbf]at h1
   exact w_ hG hm hcall hloop els m cx (BG (iH m)) s o ρ a w Q ho'.2 h1 F R L'
 | .block id b, m, cx, k, s, out, ρ, a, w, Q, ho, h, F, R, L => by
  have ho':BW tb n b=true:=by simpa [BW]using ho
  obtain⟨o2,h2,h⟩:=aB.1 (show ob (nB id (Rn tb ch lp b m ⟨cx.res,cx.retm,(id,m)::cx.env⟩ (BG (iH m)) s)) (fun o=>Ex.casesOn (motive:=fun _=>RS) o.e (gF (iH m) o.vs fun σ=>k ⟨σ,o.H⟩) (fun _=>some o) (some o))=some out from h)
  obtain⟨o,h1,h2⟩:=aB.1 (show ob (Rn tb ch lp b m ⟨cx.res,cx.retm,(id,m)::cx.env⟩ (BG (iH m)) s) (fun o=>Ex.casesOn (motive:=fun _=>RS) o.e (some o) (fun i=>Bool.casesOn (motive:=fun _=>RS) (Nat.beq i id) (some o) (some ⟨.normal,o.vs,o.H⟩)) (some o))=some o2 from h2)
  refine Gl (w_ hG hm hcall hloop b m _ (BG (iH m)) s o ρ a w _ ho' h1 F R ⟨fun s' ρ' a' w' hk hle F' R'=> ?_,fun i s' ρ' a' w' hk hle F' R'=> ?_,fun s' ρ' a' w' hk hle F' R'=> ?_⟩)
  ·obtain⟨e1,e2,e3⟩:=Ke hk
   rw[e1]at h2;cases h2
   rw[e1]at h
   exact JV L h e2 e3 hle F' R'
  ·have e1:=tK hk
   rw[e1]at h2
   by_cases hi:i=id
   ·subst hi
    have hb:Nat.beq i i=true:=by simp
    simp only[hb]at h2
    cases h2
    show Exit.inBlock i Q (.exit i) a' w'
    simp only[Exit.inBlock,if_true]
    have hk':o=⟨.exit i,wH s'.σ (iH (vG ((i,m)::cx.env) i)),s'.H⟩:=by cases hk;rfl
    have he:vG ((i,m)::cx.env) i=m:=by
     show(bif Nat.beq i i then m else vG cx.env i)=m
     rw[hb];rfl
    rw[he]at hk'
    exact JV (o:=⟨.normal,o.vs,o.H⟩) L h (by rw[hk']) (by rw[hk']) hle F' R'
   ·have hb:Nat.beq i id=false:=kD hi
    simp only[hb]at h2
    cases h2
    rw[e1]at h
    cases h
    show Exit.inBlock id Q (.exit i) a' w'
    simp only[Exit.inBlock,if_neg hi]
    refine L.x i s' ρ' a' w' ?_ hle F' R'
    have he:vG ((id,m)::cx.env) i=vG cx.env i:=by
     show(bif Nat.beq id i then m else vG cx.env i)=_
     rw[kD (Ne.symm hi)];rfl
    rw[<-hk]
    show Dl cx i s'=some ⟨.exit i,wH s'.σ (iH (vG ((id,m)::cx.env) i)),s'.H⟩
    rw[he];rfl
  ·have e1:=Hh hk
   rw[e1]at h2;cases h2
   rw[e1]at h;cases h
   exact L.r s' ρ' a' w' hk hle F' R'
 | .loop b,m,cx,k,s,out,ρ,a,w,Q,ho,h,F,R,L=>by
  have ho':BW tb n b=true:=by simpa [BW]using ho
  have h':lp b cx (wH s.σ (iH (live (.loop b) 0 cx))) s.H=some out:=h
  have hun:=He s.σ (iH (live (.loop b) 0 cx))
  obtain⟨σ,hσ⟩:=hun
  exact yC.loop (hloop b cx _ s.H out h' n σ ρ a w Q ho' hσ (Ds F hσ) R L.x L.r)
 | .exit id,m,cx,k,s,out,ρ,a,w,Q,_,h,F,R,L=>Je (L.x id s ρ a w h (cS.le_refl _) F R)
 | .ret,m,cx,k,s,out,ρ,a,w,Q,_,h,F,R,L=>LE (L.r s ρ a w h (cS.le_refl _) F R)
 | .rangeFunc _ _ _ _,m,cx,k,s,out,ρ,a,w,Q,ho,_,_,_,_=>by simp[BW]at ho
 | .scope _,m,cx,k,s,out,ρ,a,w,Q,ho,_,_,_,_=>by simp[BW]at ho
 | .label _,m,cx,k,s,out,ρ,a,w,Q,ho,_,_,_,_=>by simp[BW]at ho
 | .goto _,m,cx,k,s,out,ρ,a,w,Q,ho,_,_,_,_=>by simp[BW]at ho
 | .refuse _,m,cx,k,s,out,ρ,a,w,Q,ho,_,_,_,_=>by simp[BW]at ho
theorem Sg (hG:dK P tb) {n:Nat} {s:GS} {ρ:cS} {a:Act} {w:World} (F:iA ρ n s.σ a) (R:dU w0 ρ s.H w) {r:ResultVar} {g:GV} (h:UO tb s r=some g):∃v,Rl ρ g v∧(BJ a.tmps r).run P w = .ok v w:=by
 cases r with
 |tmp t=>exact⟨_,F.slot t g h,by simp[BJ,Act.eval]⟩
 |cell q T=>
  obtain⟨v,hv,h⟩:=aB.1 (show ob (AC s.σ q) _=some g from h)
  have hs:=F.slot q v hv
  obtain⟨x,_,_,_,_,_,hx,hr⟩:=EM (P:=P) hG R hs h
  have hr:=hr w rfl
  refine⟨x,hx,?_⟩
  obtain⟨p,hp,_⟩:=aB.1 (show ob v.asP _=some g from h)
  rw[yJ hp]at hs
  obtain⟨l,hl,e⟩:=hs.ptr_inv
  have e':a.tmps.getD q undef = .pointer (some ⟨l.b,l.off+p.2,none⟩):=e
  rw[e]at hr
  simp only[Instr.loadAt,Instr.sureAddr]at hr
  simp only[BJ,e',asAddr]
  simpa using hr
theorem IJ (hG:dK P tb) {n:Nat} {s:GS} {ρ:cS} {a:Act} {w:World} (F:iA ρ n s.σ a) (R:dU w0 ρ s.H w):∀{l:List ResultVar} {gs:List GV},II tb s l=some gs->∃vs,mQ ρ gs vs∧(l.mapM (BJ a.tmps)).run P w = .ok vs w
 | [],gs,h=>by cases h;exact⟨[],.nil,by simp⟩
 |r::l,gs,h=>by
  obtain⟨g,hg,h⟩:=aB.1 (show ob (UO tb s r) (fun v=>ob (II tb s l) fun vs=>some (v::vs))=some gs from h)
  obtain⟨gs',hgs,h⟩:=aB.1 h
  cases h
  obtain⟨v,hv,h1⟩:=Sg (P:=P) hG F R hg
  obtain⟨vs,hvs,h2⟩:=IJ hG F R hgs
  exact⟨v::vs,.cons hv hvs,by simp[List.mapM_cons,h1,h2]⟩
theorem OW {ρ:cS} {gs:List GV} {vs:List Value} (h:mQ ρ gs vs):Rl ρ (Mu gs) (if h:vs.toArray.size=1 then vs.toArray[0]else .tuple vs.toArray):=by
 cases gs with
 |nil=>rw[h.of_nil];exact Dg .nil
 | cons g gs =>
  obtain⟨v,vs,rfl,h1,h2⟩:=h.of_cons
  cases gs with
  |nil=>rw[h2.of_nil];show Rl ρ g _;simpa using h1
  |cons g' gs=>
   obtain⟨v',vs',rfl,h3,h4⟩:=h2.of_cons
   rw[dif_neg (by simp)]
   exact Dg (.cons h1 (.cons h3 h4))
theorem BH (hG:dK P tb) {fn:Func} {cx:Cx} (hcx:cx.res=fn.results.toList) {n:Nat} {s:GS} {ρ:cS} {a:Act} {w:World} {out:HC} (F:iA ρ n s.σ a) (R:dU w0 ρ s.H w) (h:Kf tb cx s=some out):out.H=s.H∧∃v,Rl ρ (Mu out.vs) v∧(results fn a.tmps).run P w = .ok v w:=by
 obtain⟨gs,hgs,h⟩:=aB.1 (show ob (II tb s cx.res) _=some out from h)
 cases h
 obtain⟨vs,hvs,hr⟩:=IJ (P:=P) hG F R hgs
 rw[hcx]at hr
 refine⟨rfl,_,OW hvs,?_⟩
 rw[uD]
 have hm:(fn.results.mapM (BJ a.tmps)).run P w = .ok vs.toArray w:=by
  rw[Array.mapM_eq_mapM_toList]
  simp[hr]
 simp[hm]
structure Jg (P:Program) (G:GP) (Fs:FT) {gs:rK} (w0:cM gs):Prop where
 tab:dK P G.tab
 mixed:P.follows .mixedOrders=true
 fns:∀{f fn},Fs f=some fn->P.funcs[f]? = some fn∧aZ P f∧(∀c,fn.body=some c->BW G.tab fn.ntmps c=true)∧fn.params.size+fn.nfree<=fn.ntmps
 ext:∀{f us H g H'},G.ext f us H=some (g,H')->∀ρ w vs,dU w0 ρ H w->mQ ρ us vs->kM P w0 ρ f vs w g H'
 exn:∀{f us g},G.exn f us=some g->∀ρ w vs H,dU w0 ρ H w->mQ ρ us vs->kM P w0 ρ f vs w g H
 /-- the function that catches returns 0 and 0 if its argument returns;its two variables are new objects -/
 cat:∀{ρ:cS} {g us cs w H H' c1 c2},dU w0 ρ H w->(∀ρ' w',ρ.le ρ'->dU w0 ρ' ((H.new (.cells [q_])).new (.cells [q_])) w'->∃x,kM P w0 ρ' g (us++cs) w' x H')->H'.cells H.n=some [c1]->H'.cells (H.n+1)=some [c2]->
  kM P w0 ρ G.cat [.func (.func g) us.toArray cs.toArray] w (.tup [q_,q_]) ((((H'.set H.n (.cells [q_])).set (H.n+1) (.cells [q_])).del H.n).del (H.n+1))
def MU (P:Program) {gs:rK} (w0:cM gs) (ih:IH):Prop:=∀f us H out,ih (.fn f) us H=some out->out.e = .ret->∀ρ w vs,dU w0 ρ H w->mQ ρ us vs->
 aZ P f∧Calls P f vs.toArray w fun e w'=>∃v ρ',e = .returned v∧ρ.le ρ'∧dU w0 ρ' out.H w'∧Rl ρ' (Mu out.vs) v
theorem HU {ih:IH} (h:MU P w0 ih):nD P w0 (Vw ih):=fun f us H g H' hc ρ w vs R hr=>by
 obtain⟨o,h1,h2⟩:=aB.1 (show ob (ih (.fn f) us H) _=some (g,H')from hc)
 cases he:o.e with
 |normal=>rw[he]at h2;cases h2
 |exit id=>rw[he]at h2;cases h2
 |ret=>
  rw[he]at h2;cases h2
  obtain⟨hb,hcalls⟩:=h f us H o h1 he ρ w vs R hr
  exact .inr ⟨hb _ w,hcalls⟩
theorem DV {ih:IH} (hG:Jg P G Fs w0) (h:MU P w0 ih):nD P w0 (yN G ih):=fun f us H g H' hc ρ w vs R hr=>by
 unfold yN callQ at hc
 cases hf:Nat.beq f G.cat with
 | false =>
  rw[hf]at hc
  cases he:G.ext f us H with
  |some r=>
   simp only[he]at hc
   cases hc
   exact hG.ext he ρ w vs R hr
  | none =>
   simp only[he]at hc
   cases hn:G.exn f us with
   |some r=>
    simp only[hn]at hc
    cases hc
    exact hG.exn hn ρ w vs _ R hr
   |none=>
    simp only[hn]at hc
    exact HU h f us H g H' hc ρ w vs R hr
 | true =>
  rw[hf]at hc
  have hf:=Nat.eq_of_beq_eq_true hf
  subst hf
  cases us with
  |nil=>cases hc
  | cons u us =>
   cases us with
   |cons _ _=>cases hc
   |nil=>
    obtain⟨p,hp,hc⟩:=aB.1 (show ob u.asF _=some (g,H')from hc)
    rw[gY,gY]at hc
    obtain⟨x,hx,hc⟩:=aB.1 hc
    obtain⟨c1,hc1,hc⟩:=aB.1 hc
    obtain⟨c2,hc2,hc⟩:=aB.1 hc
    obtain⟨hl1,hc⟩:=bB.1 hc
    obtain⟨hl2,hc⟩:=bB.1 hc
    rw[rJ,rJ,AP,AP]at hc
    cases hc
    obtain⟨a1,rfl⟩:=List.length_eq_one_iff.1 (Nat.eq_of_beq_eq_true hl1)
    obtain⟨a2,rfl⟩:=List.length_eq_one_iff.1 (Nat.eq_of_beq_eq_true hl2)
    obtain⟨v,vs,rfl,h1,h2⟩:=hr.of_cons
    rw[h2.of_nil]
    rw[Nz hp]at h1
    obtain⟨us',cs',rfl,hu,hcs⟩:=h1.fn_inv
    exact hG.cat R (fun ρ' w' hle R'=>⟨x.1,HU h p.1 _ _ x.1 x.2 hx ρ' w' _ R' ((hu.le hle).append (hcs.le hle))⟩) hc1 hc2
theorem Ul {ih:IH} (hG:∀w0:cM gs,Jg P G Fs w0) (hfn:∀w0:cM gs,MU P w0 ih) (hloop:BX P w0 G.tab fun b cx=>ih (.loop b cx)) {f:Nat} {fn:Func} {us:List GV} {H:GH} {out:HC} (hf:Fs f=some fn) (h:Ro G.tab (yN G ih) (fun b cx=>ih (.loop b cx)) fn us H=some out) (he:out.e = .ret) {ρ:cS} {w:World} {vs:List Value} (R:dU w0 ρ H w) (hr:mQ ρ us vs):
  aZ P f∧Calls P f vs.toArray w fun e w'=>∃v ρ',e = .returned v∧ρ.le ρ'∧dU w0 ρ' out.H w'∧Rl ρ' (Mu out.vs) v:=by
 obtain⟨h1,h2,h3,h4⟩:=(hG w0).fns hf
 refine⟨h2,?_⟩
 obtain⟨body,hb,h⟩:=aB.1 (show ob fn.body _=some out from h)
 obtain⟨σ,hσ,h⟩:=mF h
 rw[List.range_eq_range']at hσ
 have hlen:=DN hσ
 have hvl:vs.length<=fn.ntmps:=by rw[<-hr.len,hlen];exact h4
 refine qL h1 hb ?_
 have F:iA ρ fn.ntmps σ {tmps:=vs.toArray++Array.replicate (fn.ntmps - vs.toArray.size) undef,defers:=[]}:=by
  refine Gy rfl (by simp;omega) hr (fun j v hv=> ?_) hσ
  have hlt:=aR hv
  rw[Nat.zero_add,Array.getElem?_append_left (by simpa using hlt)]
  simpa using hv
 refine w_ (hG w0).tab (hG w0).mixed (fun w0=>DV (hG w0) (hfn w0)) hloop body _ _ _ ⟨σ,H⟩ out ρ _ w _ (h3 body hb) h F R ⟨fun s' ρ' a' w' hk hle' F' R'=> ?_,fun id s' ρ' a' w' hk hle' F' R'=> ?_,fun s' ρ' a' w' hk hle' F' R'=> ?_⟩
 ·obtain⟨e1,v,hv,hres⟩:=BH (fn:=fn) (hG w0).tab rfl F' R' hk
  exact Sx.body_end (.inr rfl) F'.defers hres ⟨v,ρ',rfl,hle',by rw[e1];exact R',hv⟩
 ·have:=tK hk
  rw[he]at this;cases this
 ·obtain⟨e1,v,hv,hres⟩:=BH (fn:=fn) (hG w0).tab rfl F' R' hk
  exact Sx.body_end (.inl rfl) F'.defers hres ⟨v,ρ',rfl,hle',by rw[e1];exact R',hv⟩
theorem UQ (hG:∀w0:cM gs,Jg P G Fs w0):∀(fuel:Nat) (w0:cM gs),MU P w0 (run G Fs fuel)∧BX P w0 G.tab fun b cx=>run G Fs fuel (.loop b cx):=by
 intro fuel
 induction fuel with
 |zero=>exact fun w0=>⟨fun f us H out h=>(by cases h),fun b cx vs H out h=>(by cases h)⟩
 | succ fuel ih =>
  have ihf:∀w0:cM gs,MU P w0 (run G Fs fuel):=fun w0=>(ih w0).1
  intro w0
  have ihl:=(ih w0).2
  refine⟨fun f us H out h he ρ w vs R hr=> ?_,fun b cx vs H out h n σ ρ a w Q ho hσ F R hx hret=> ?_⟩
  ·obtain⟨fn,hfn,h⟩:=aB.1 (show ob (Fs f) _=some out from h)
   exact Ul hG ihf ihl hfn h he R hr
  ·have h':gF (iH (live (.loop b) 0 cx)) vs (fun σ=>ob (Rn G.tab (yN G (run G Fs fuel)) (fun b cx=>run G Fs fuel (.loop b cx)) b (live (.loop b) 0 cx) cx (BG (iH (live (.loop b) 0 cx))) ⟨σ,H⟩) fun o=>Ex.casesOn (motive:=fun _=>RS) o.e (run G Fs fuel (.loop b cx) o.vs o.H) (fun _=>some o) (some o))=some out:=h
   obtain⟨σ',hσ',h'⟩:=mF h'
   rw[hσ]at hσ';cases hσ'
   obtain⟨o,h1,h2⟩:=aB.1 h'
   refine yC.round (w_ (hG w0).tab (hG w0).mixed (fun w0=>DV (hG w0) (ihf w0)) ihl b _ cx _ ⟨σ,H⟩ o ρ a w _ ho h1 F R ⟨fun s' ρ' a' w' hk hle F' R'=> ?_,fun id s' ρ' a' w' hk hle F' R'=> ?_,fun s' ρ' a' w' hk hle F' R'=> ?_⟩)
   ·obtain⟨e1,e2,e3⟩:=Ke hk
    rw[e1,e2,e3]at h2
    obtain⟨σ2,hσ2⟩:=He s'.σ (iH (live (.loop b) 0 cx))
    exact ihl b cx _ s'.H out h2 n σ2 ρ' a' w' Q ho hσ2 (Ds F' hσ2) R' (fun id s2 ρ2 a2 w2 x1 x2=>hx id s2 ρ2 a2 w2 x1 (cS.le_trans hle x2)) (fun s2 ρ2 a2 w2 x1 x2=>hret s2 ρ2 a2 w2 x1 (cS.le_trans hle x2))
   ·have e1:=tK hk
    rw[e1]at h2;cases h2
    exact hx id s' ρ' a' w' hk hle F' R'
   ·have e1:=Hh hk
    rw[e1]at h2;cases h2
    exact hret s' ρ' a' w' hk hle F' R'
theorem yM (hG:∀w0:cM gs,Jg P G Fs w0) {fuel f:Nat} {us:List GV} {H H':GH} {g:GV} (h:KI G Fs fuel f us H=some (g,H')) {ρ:cS} {w:World} {vs:List Value} (R:dU w0 ρ H w) (hr:mQ ρ us vs):kM P w0 ρ f vs w g H':=
 DV (hG w0) (UQ hG fuel w0).1 f us H g H' h ρ w vs R hr
theorem dU.start (b:cM gs) (he:gs.env=[]):dU b (fun _=>none) H0 b.w:=⟨vV.refl _,fun h o hg=>(by cases hg),fun h h' o o' l l' hg=>(by cases hg),fun _ _=>rfl,fun h hh=>absurd hh (Nat.not_lt_zero h),fun h v l hv=>(by cases hv),fun i v e=>by rw[he]at e;simp at e⟩
end
end
end Go.Gx
end
section
namespace Go.Gx
open Go Go.Sx
noncomputable section
def oN (vs:List GV) (H:GH):RS:=some ⟨.normal,vs,H⟩
def oX (id:Nat) (vs:List GV) (H:GH):RS:=some ⟨.exit id,vs,H⟩
def oR (vs:List GV) (H:GH):RS:=some ⟨.ret,vs,H⟩
def jn (r:RS) (k:List GV->GH->RS):RS:=ob r fun o=>Ex.casesOn (motive:=fun _=>RS) o.e (k o.vs o.H) (fun _=>some o) (some o)
def rG (v:GV) (b:Bool) (H:GH) (X:OR):OR:=GV.casesOn (motive_1:=fun _=>OR) v (fun _ _=>none) (fun q=>Bool.casesOn (motive:=fun _=>OR) (KO q b) (some (.un,H)) X) (fun _ _=>none) (fun _ _=>none) none (fun _ _ _ _=>none) none (fun _=>none) (fun _ _ _=>none) none none (fun _=>none) (fun _=>none) (some (.un,H)) none (fun _=>none)
def U0 {R:Type} (r0:List GV) (f:Option R):Option R:=List.casesOn (motive:=fun _=>Option R) r0 (f) fun _ _=>none
def U1 {R:Type} (r0:List GV) (f:GV->Option R):Option R:=List.casesOn (motive:=fun _=>Option R) r0 none fun a0 r1=>List.casesOn (motive:=fun _=>Option R) r1 (f a0) fun _ _=>none
def U2 {R:Type} (r0:List GV) (f:GV->GV->Option R):Option R:=List.casesOn (motive:=fun _=>Option R) r0 none fun a0 r1=>List.casesOn (motive:=fun _=>Option R) r1 none fun a1 r2=>List.casesOn (motive:=fun _=>Option R) r2 (f a0 a1) fun _ _=>none
def U3 {R:Type} (r0:List GV) (f:GV->GV->GV->Option R):Option R:=List.casesOn (motive:=fun _=>Option R) r0 none fun a0 r1=>List.casesOn (motive:=fun _=>Option R) r1 none fun a1 r2=>List.casesOn (motive:=fun _=>Option R) r2 none fun a2 r3=>List.casesOn (motive:=fun _=>Option R) r3 (f a0 a1 a2) fun _ _=>none
def U4 {R:Type} (r0:List GV) (f:GV->GV->GV->GV->Option R):Option R:=List.casesOn (motive:=fun _=>Option R) r0 none fun a0 r1=>List.casesOn (motive:=fun _=>Option R) r1 none fun a1 r2=>List.casesOn (motive:=fun _=>Option R) r2 none fun a2 r3=>List.casesOn (motive:=fun _=>Option R) r3 none fun a3 r4=>List.casesOn (motive:=fun _=>Option R) r4 (f a0 a1 a2 a3) fun _ _=>none
def U5 {R:Type} (r0:List GV) (f:GV->GV->GV->GV->GV->Option R):Option R:=List.casesOn (motive:=fun _=>Option R) r0 none fun a0 r1=>List.casesOn (motive:=fun _=>Option R) r1 none fun a1 r2=>List.casesOn (motive:=fun _=>Option R) r2 none fun a2 r3=>List.casesOn (motive:=fun _=>Option R) r3 none fun a3 r4=>List.casesOn (motive:=fun _=>Option R) r4 none fun a4 r5=>List.casesOn (motive:=fun _=>Option R) r5 (f a0 a1 a2 a3 a4) fun _ _=>none
def U6 {R:Type} (r0:List GV) (f:GV->GV->GV->GV->GV->GV->Option R):Option R:=List.casesOn (motive:=fun _=>Option R) r0 none fun a0 r1=>List.casesOn (motive:=fun _=>Option R) r1 none fun a1 r2=>List.casesOn (motive:=fun _=>Option R) r2 none fun a2 r3=>List.casesOn (motive:=fun _=>Option R) r3 none fun a3 r4=>List.casesOn (motive:=fun _=>Option R) r4 none fun a4 r5=>List.casesOn (motive:=fun _=>Option R) r5 none fun a5 r6=>List.casesOn (motive:=fun _=>Option R) r6 (f a0 a1 a2 a3 a4 a5) fun _ _=>none
def U7 {R:Type} (r0:List GV) (f:GV->GV->GV->GV->GV->GV->GV->Option R):Option R:=List.casesOn (motive:=fun _=>Option R) r0 none fun a0 r1=>List.casesOn (motive:=fun _=>Option R) r1 none fun a1 r2=>List.casesOn (motive:=fun _=>Option R) r2 none fun a2 r3=>List.casesOn (motive:=fun _=>Option R) r3 none fun a3 r4=>List.casesOn (motive:=fun _=>Option R) r4 none fun a4 r5=>List.casesOn (motive:=fun _=>Option R) r5 none fun a5 r6=>List.casesOn (motive:=fun _=>Option R) r6 none fun a6 r7=>List.casesOn (motive:=fun _=>Option R) r7 (f a0 a1 a2 a3 a4 a5 a6) fun _ _=>none
def U8 {R:Type} (r0:List GV) (f:GV->GV->GV->GV->GV->GV->GV->GV->Option R):Option R:=List.casesOn (motive:=fun _=>Option R) r0 none fun a0 r1=>List.casesOn (motive:=fun _=>Option R) r1 none fun a1 r2=>List.casesOn (motive:=fun _=>Option R) r2 none fun a2 r3=>List.casesOn (motive:=fun _=>Option R) r3 none fun a3 r4=>List.casesOn (motive:=fun _=>Option R) r4 none fun a4 r5=>List.casesOn (motive:=fun _=>Option R) r5 none fun a5 r6=>List.casesOn (motive:=fun _=>Option R) r6 none fun a6 r7=>List.casesOn (motive:=fun _=>Option R) r7 none fun a7 r8=>List.casesOn (motive:=fun _=>Option R) r8 (f a0 a1 a2 a3 a4 a5 a6 a7) fun _ _=>none
def U9 {R:Type} (r0:List GV) (f:GV->GV->GV->GV->GV->GV->GV->GV->GV->Option R):Option R:=List.casesOn (motive:=fun _=>Option R) r0 none fun a0 r1=>List.casesOn (motive:=fun _=>Option R) r1 none fun a1 r2=>List.casesOn (motive:=fun _=>Option R) r2 none fun a2 r3=>List.casesOn (motive:=fun _=>Option R) r3 none fun a3 r4=>List.casesOn (motive:=fun _=>Option R) r4 none fun a4 r5=>List.casesOn (motive:=fun _=>Option R) r5 none fun a5 r6=>List.casesOn (motive:=fun _=>Option R) r6 none fun a6 r7=>List.casesOn (motive:=fun _=>Option R) r7 none fun a7 r8=>List.casesOn (motive:=fun _=>Option R) r8 none fun a8 r9=>List.casesOn (motive:=fun _=>Option R) r9 (f a0 a1 a2 a3 a4 a5 a6 a7 a8) fun _ _=>none
def U10 {R:Type} (r0:List GV) (f:GV->GV->GV->GV->GV->GV->GV->GV->GV->GV->Option R):Option R:=List.casesOn (motive:=fun _=>Option R) r0 none fun a0 r1=>List.casesOn (motive:=fun _=>Option R) r1 none fun a1 r2=>List.casesOn (motive:=fun _=>Option R) r2 none fun a2 r3=>List.casesOn (motive:=fun _=>Option R) r3 none fun a3 r4=>List.casesOn (motive:=fun _=>Option R) r4 none fun a4 r5=>List.casesOn (motive:=fun _=>Option R) r5 none fun a5 r6=>List.casesOn (motive:=fun _=>Option R) r6 none fun a6 r7=>List.casesOn (motive:=fun _=>Option R) r7 none fun a7 r8=>List.casesOn (motive:=fun _=>Option R) r8 none fun a8 r9=>List.casesOn (motive:=fun _=>Option R) r9 none fun a9 r10=>List.casesOn (motive:=fun _=>Option R) r10 (f a0 a1 a2 a3 a4 a5 a6 a7 a8 a9) fun _ _=>none
def Kj:List Nat->Code->Code
 | [],c=>c
 |0::p,.seq a _=>Kj p a
 |1::p,.seq _ b=>Kj p b
 |0::p,.cond _ a _=>Kj p a
 |1::p,.cond _ _ b=>Kj p b
 |0::p,.block _ b=>Kj p b
 |0::p,.loop b=>Kj p b
 |_,c=>c
def cG (fn:Func) (p:List Nat):Code:=match fn.body with
 |some c=>Kj p c
 |none=> .skip
def gU (fn:Func) (env:List (Nat×Nat)):Cx:=⟨fn.results.toList,Du fn.results.toList,env⟩
abbrev eZ:=CH->QH->List GV->GH->RS
structure Az where
 fn:Nat->Option (Func×eZ)
 lp:Nat->Option ((Code×Cx)×eZ)
def Az.fns (T:Az) (f:Nat):Option Func:=ob (T.fn f) fun e=>some e.1
def Az.loop (T:Az) (lp:LH):QH:=fun i vs H=>ob (T.lp i) fun e=>lp e.1.1 e.1.2 vs H
def rr (T:Az) (G:GP) (n:Nat):Bool->QH:=Nat.rec (motive:=fun _=>Bool->QH) (fun _ _ _ _=>none) (fun _ ih b t vs H=>Bool.casesOn (motive:=fun _=>RS) b (ob (T.fn t) fun e=>e.2 (callQ G (ih false)) (ih true) vs H) (ob (T.lp t) fun e=>e.2 (callQ G (ih false)) (ih true) vs H)) n
structure BY (T:Az) (tb:TB):Prop where
 fn:∀{f e},T.fn f=some e->∀(c:CH) (lp:LH) us H,e.2 c (T.loop lp) us H=Ro tb c lp e.1 us H
 lp:∀{i e},T.lp i=some e->∀(c:CH) (lp:LH) us H,e.2 c (T.loop lp) us H=Wu tb c lp e.1.1 e.1.2 us H
theorem Wk {T:Az} {G:GP} (h:BY T G.tab):∀n,rr T G n false=(fun f us H=>run G T.fns n (.fn f) us H)∧rr T G n true=T.loop (fun b cx=>run G T.fns n (.loop b cx)):=by
 intro n
 induction n with
 |zero=>
  refine⟨rfl,?_⟩
  funext i vs H
  show none=ob (T.lp i) fun e=>none
  cases T.lp i<;>rfl
 | succ n ih =>
  obtain⟨ih1,ih2⟩:=ih
  constructor
  ·funext f us H
   show ob (T.fn f) (fun e=>e.2 (callQ G (rr T G n false)) (rr T G n true) us H)=ob (T.fns f) fun fn=>Ro G.tab (yN G (run G T.fns n)) (fun b cx=>run G T.fns n (.loop b cx)) fn us H
   unfold Az.fns
   cases hf:T.fn f with
   |none=>rfl
   |some e=>
    show e.2 (callQ G (rr T G n false)) (rr T G n true) us H=Ro G.tab (yN G (run G T.fns n)) (fun b cx=>run G T.fns n (.loop b cx)) e.1 us H
    rw[ih1,ih2]
    exact h.fn hf _ _ us H
  ·funext i vs H
   show ob (T.lp i) (fun e=>e.2 (callQ G (rr T G n false)) (rr T G n true) vs H)=ob (T.lp i) fun e=>run G T.fns (n+1) (.loop e.1.1 e.1.2) vs H
   cases hf:T.lp i with
   |none=>rfl
   |some e=>
    show e.2 (callQ G (rr T G n false)) (rr T G n true) vs H=Wu G.tab (yN G (run G T.fns n)) (fun b cx=>run G T.fns n (.loop b cx)) e.1.1 e.1.2 vs H
    rw[ih1,ih2]
    exact h.lp hf _ _ vs H
def Vg (tb:TB) (fn:Func):Bool:=match fn.body with
 |some c=>BW tb fn.ntmps c&&Nat.ble (fn.params.size+fn.nfree) fn.ntmps
 |none=>false
theorem Iw {tb:TB} {fn:Func} (h:Vg tb fn=true):(∀c,fn.body=some c->BW tb fn.ntmps c=true)∧fn.params.size+fn.nfree<=fn.ntmps:=by
 unfold Vg at h
 cases hb:fn.body with
 |none=>rw[hb]at h;cases h
 |some c=>
  rw[hb]at h
  simp only[Bool.and_eq_true]at h
  exact⟨fun c' hc=>by cases hc;exact h.1,by simpa using h.2⟩
def tS (T:Az) (G:GP) (fuel:Nat) (f:FuncId) (args:List GV) (H:GH):OR:=callQ G (rr T G fuel false) f args H
theorem nK {T:Az} {G:GP} (h:BY T G.tab) (fuel:Nat) (f:FuncId) (args:List GV) (H:GH):tS T G fuel f args H=KI G T.fns fuel f args H:=by
 unfold tS KI yN
 rw[(Wk h fuel).1]
end
end Go.Gx
end
